/-
  Part 2 of what the proof rests on: it states nothing of its own that is claimed.
-/
import Derived.Deep.Upon
import Derived.Great.BuildSlice
import Derived.Laws.MakeOwn
import Derived.Laws.Strings
import Derived.Laws.StructEq
import Derived.Test.YtmobdlmlgjngfaaGreatKa
namespace Go.Rd
theorem setCells_same:∀(cs:List Value) (b o:Nat) (w:World),(w.setCells b o cs).os=w.os∧(w.setCells b o cs).tape=w.tape∧(w.setCells b o cs).output=w.output∧(w.setCells b o cs).heap.size=w.heap.size
 | [],_,_,_=>⟨rfl,rfl,rfl,rfl⟩
 | v::r,b,o,w=>by
  obtain ⟨h1,h2,h3,h4⟩:=setCells_same r b (o+1) (w.setCell ⟨b,o,none⟩ v)
  simp only [World.setCells]
  exact ⟨h1,h2,h3,h4.trans (by simp [World.setCell])⟩
theorem setCells_kept:∀(cs:List Value) (b o:Nat) (w:World) (k:Nat),k≠b→Kept w (w.setCells b o cs) k
 | [],_,_,_,_,_=>rfl
 | v::r,b,o,w,k,hk=>by
  have h1:=setCells_kept r b (o+1) (w.setCell ⟨b,o,none⟩ v) k hk
  simp only [World.setCells]
  refine Eq.trans h1 ?_
  simp only [World.setCell,Array.getElem?_modify]
  rw [if_neg (by omega)]
theorem setCells_at {w:World} {b q:Nat} {m m':List Value} (h:At w b q m) (hl:m'.length=m.length):At (w.setCells b q m') b q m':=fun i v hi=>by
 have hi':=(List.getElem?_eq_some_iff.1 hi).1
 rw [World.cell?_setCells_in b m' q w (fun j hj=>by rw [h j m[j] (List.getElem?_eq_getElem (by omega))];rfl) i hi',←hi,List.getElem?_eq_getElem hi']
theorem setCells_rest {w:World} {b q j:Nat} {m':List Value} (h:j<q∨q+m'.length≤j):(w.setCells b q m').cell? ⟨b,j,none⟩=w.cell? ⟨b,j,none⟩:=
 World.cell?_setCells_out b m' q w ⟨b,j,none⟩ (fun _ _=>h)
theorem noslice {S:Nat→Prop} {w:World}:{τ:Ty}→{o:Ow}→{cs:List Value}→{x:τ.den}→{F:List Nat}→τ.hasSlice=false→allImm τ o=true→Rep S w τ o cs x F→∀v∈cs,∀a l cp,v≠.slice a l cp
 | .int k,o,cs,_,_,_,ha,h,v,hv,a,l,cp=>by
  have:=(h.2.2 (by rintro rfl;simp [allImm] at ha)).1
  rw [this] at hv;simp at hv;rw [hv];simp
 | .bool,o,_,_,_,_,ha,h,v,hv,a,l,cp=>by
  have:=(h.2.2 (by rintro rfl;simp [allImm] at ha))
  rw [this] at hv;simp at hv;rw [hv];simp
 | .str,o,_,_,_,_,ha,h,v,hv,a,l,cp=>by
  have:=(h.2.2 (by rintro rfl;simp [allImm] at ha)).1
  rw [this] at hv;simp at hv;rw [hv];simp
 | .unit,_,_,_,_,_,_,h,v,hv,a,l,cp=>by rw [h.1] at hv;simp at hv
 | .prod _ _,_,_,_,_,hn,ha,⟨c1,c2,F1,F2,hc,hf,h1,h2⟩,v,hv,a,l,cp=>by
  simp only [allImm,Bool.and_eq_true] at ha
  simp only [Ty.hasSlice,Bool.or_eq_false_iff] at hn
  rw [hc] at hv
  rcases List.mem_append.1 hv with h | h
  ·exact noslice hn.1 ha.1 h1 v h a l cp
  ·exact noslice hn.2 ha.2 h2 v h a l cp
 | .st t,_,_,_,_,hn,ha,h,v,hv,a,l,cp=>noslice (τ:=t) hn ha h v hv a l cp
 | .slice e,_,_,_,_,hn,_,_,_,_,_,_,_=>by simp [Ty.hasSlice] at hn
 | .arr n e,o,cs,x,_,hn,ha,h,v,hv,a,l,cp=>by
  obtain ⟨h1,h2,h3⟩:=h
  obtain ⟨h4,h5⟩:=h3 (by rintro rfl;simp [allImm] at ha)
  obtain ⟨j,hj⟩:=List.mem_iff_getElem?.1 hv
  have hjl:=(List.getElem?_eq_some_iff.1 hj).1
  by_cases he:e.size=0
  ·rw [h2,he] at hjl;simp at hjl
  ·have hi:j / e.size<n:=by
    rw [Nat.div_lt_iff_lt_mul (by omega)];omega
   have hr:=h5 (j / e.size) _ (List.getElem?_eq_getElem (by rw [h4];exact hi))
   refine noslice (τ:=e) (by simpa [Ty.hasSlice] using hn) (allImm_imm e) hr v ?_ a l cp
   refine List.mem_iff_getElem?.2 ⟨j % e.size,?_⟩
   rw [List.getElem?_take_of_lt (Nat.mod_lt _ (by omega)),List.getElem?_drop]
   rw [Nat.div_add_mod' ]
   exact hj
theorem noRo_get {t:Root} {off:Nat}:∀{n:Nat},noRo t off n=true→∀i,i<n→t.ro (off+i)=false
 | 0,_,i,hi=>by omega
 | n+1,h,i,hi=>by
  simp only [noRo,Bool.and_eq_true,Bool.not_eq_true'] at h
  by_cases e:i=n
  ·subst e;exact h.1
  ·exact noRo_get h.2 i (by omega)
section
variable {P:Program} {T:Tab} {c:Ctx} {sl:Slots} {rt rt':Roots} {ρ:Nat→Loc} {Fo:Nat→List Nat} {X:List Nat} {a:Act} {w:World} {K:Act→World→Prop} {Q:Exit→Act→World→Prop} {o:Oper} {Δ:Dl}
theorem RR.store {F:List Nat} (h:RR c sl rt ρ Fo (F++X) a w) {p:Place} {t:Root} (ht:rt p.root=some t) {σ:Ty} {o' oo:Ow} {y x:σ.den} (hl:look σ p.steps t.τ t.o t.x p.off=some (o',y))
  (hso:storeOK t σ p o'=true) {o3:Ow} {x3:t.τ.den} (hput:put σ (oo,x) p.steps t.τ t.o t.x p.off=some (o3,x3))
  {b q:Nat} (hw:walkP w (fun _=>True) (ρ p.root) p b q) {m':List Value} (hrep:Rep (Stab c w rt Fo (F++X)) w σ oo m' x F):
  (∃Fo',RR c sl (upd rt p.root (some (t.wrote σ p o3 x3))) ρ Fo' X a (w.setCells b q m'))∧(∃m,At w b q m∧m.length=m'.length)∧(∀j,w.frozen? ⟨b,j,none⟩=false):=by
 have hroot:=h.roots _ _ ht
 have hnd:=h.nodup _ _ ht
 have hnX:=List.nodup_append.1 h.nodupX
 obtain ⟨z1,z2,z3,z4⟩:=setCells_same m' b q w
 have hvm:∀i,t.v0 i≤(t.wrote σ p o3 x3).v0 i:=fun i=>by
  simp only [Root.wrote]
  split
  ·unfold bump0;split<;>omega
  ·exact Nat.le_refl _
 have hv1m:∀i,t.v1 i≤(t.wrote σ p o3 x3).v1 i:=fun i=>by
  simp only [Root.wrote]
  split
  ·exact Nat.le_refl _
  ·split
   ·exact Nat.le_succ _
   ·exact Nat.le_refl _
 have main:∀(base:List Nat) (Fm Fr F3:List Nat) (m:List Value),Fo p.root=base++(Fm++Fr)∨(Fo p.root).Perm (base++(Fm++Fr))→F3.Perm (F++Fr)→b∈base++Fr→At w b q m→Rep (Stab c w rt Fo (F++X)) w σ o' m y Fm→
   (∀j,w.frozen? ⟨b,j,none⟩=false)→
   (∀b0 o0,ρ p.root=.mem b0 o0→b0∈base∧(b=b0→(match p.steps with | []=>q=o0+p.off | s::_=>s.cnt.isSome=true∧o0≤q∧q+m.length≤o0+t.τ.size)))→
   ((∀k,Stab c w rt Fo (F++X) k→Stab c (w.setCells b q m') (upd rt p.root (some (t.wrote σ p o3 x3))) (updL Fo p.root (base++F3)) X k∧Kept w (w.setCells b q m') k)→
    RootOK c (Stab c (w.setCells b q m') (upd rt p.root (some (t.wrote σ p o3 x3))) (updL Fo p.root (base++F3)) X) (w.setCells b q m') (ρ p.root) (base++F3) (t.wrote σ p o3 x3))→
   (∃Fo',RR c sl (upd rt p.root (some (t.wrote σ p o3 x3))) ρ Fo' X a (w.setCells b q m')):=by
  intro base Fm Fr F3 m hFo hF3 hb hat hrm hfz hbase hrt
  have hperm:(Fo p.root).Perm (base++(Fm++Fr)):=hFo.elim (fun e=>by rw [e]) id
  have hml:m'.length=m.length:=by rw [hrep.length,hrm.length]
  have hndp:=hperm.nodup_iff.1 hnd
  have hnd1:=List.nodup_append.1 hndp
  have hnd2:=List.nodup_append.1 hnd1.2.1
  have hbFo:b∈Fo p.root:=hperm.mem_iff.2 (by simp only [List.mem_append] at hb ⊢;rcases hb with h | h;exact .inl h;exact .inr (.inr h))
  have hFmem:∀k∈F,k ∉ Fo p.root:=fun k hk=>h.disjX k (List.mem_append_left _ hk) _ _ ht
  refine ⟨_,h.rewrite (Fm:=Fm) (F':=F) (X':=X) (Fn:=base++F3) ht (fun k hk=>hperm.mem_iff.2 (by simp [hk])) hbFo z1 z2 z3 (Nat.le_of_eq z4.symm) (fun k _ hk _ _=>setCells_kept m' b q w k hk) ?_ ?_ ?_ ?_ ?_ ?_ ?_ ?_ hnX.2.1 ?_ ?_ rfl hvm hv1m ?_ ?_ (fun h1 _=>hrt h1)⟩
  ·intro b2 j hkj
   by_cases e:b2=b
   ·subst e
    refine setCells_rest ?_
    rw [hml]
    unfold RootOK at hroot
    cases hL:ρ p.root with
    | mem b0 o0=>
     rw [hL] at hroot
     obtain ⟨cs,F',eF,hat0,_,hrep0,hro,hkF⟩:=hroot
     obtain ⟨hb0,hcase⟩:=hbase b0 o0 hL
     have hbb:b2=b0:=by
      rw [eF] at hbFo
      rcases List.mem_cons.1 hbFo with e | e
      ·exact e
      ·exact absurd hkj (hkF _ e j)
     have:=hcase hbb
     subst hbb
     unfold storeOK at hso
     have hsz:=hrm.length
     have hcl:=hrep0.length
     cases hst:p.steps with
     | nil=>
      rw [hst] at this hso
      dsimp only at this hso
      apply Classical.byContradiction
      intro hn
      have hro':=noRo_get hso (j-q) (by omega)
      have hlt:p.off+(j-q)<t.τ.size:=by
       rw [hst] at hl
       obtain ⟨pp,mm,qq,_,_,_,hcs,hpl,_,hmm,_⟩:=subAt_focus hl hrep0
       have h1:=congrArg List.length hcs
       have h2:=hmm.length
       simp only [List.length_append] at h1
       omega
      exact hro _ hlt hro' (by rw [show o0+(p.off+(j-q))=j by omega];exact hkj)
     | cons s r=>
      rw [hst] at this hso
      obtain ⟨h1,h2,h3⟩:=this
      dsimp only at hso
      cases hc:s.cnt with
      | none=>rw [hc] at h1;simp at h1
      | some k=>
       rw [hc] at hso
       simp only [Bool.and_eq_true] at hso
       apply Classical.byContradiction
       intro hn
       have hro':=noRo_get hso.2 (j-o0) (by omega)
       rw [Nat.zero_add] at hro'
       exact hro (j-o0) (by omega) hro' (by rw [show o0+(j-o0)=j by omega];exact hkj)
    | reg cs=>
     rw [hL] at hroot
     exact absurd hkj (hroot.2 _ hbFo j)
   ·exact (setCells_kept m' b q w b2 e).cell j
  ·intro k hk
   rcases List.mem_append.1 hk with hk | hk
   ·exact .inl ⟨hperm.mem_iff.2 (by simp [hk]),fun hm=>hnd1.2.2 k hk k (List.mem_append_left _ hm) rfl⟩
   ·rcases List.mem_append.1 (hF3.mem_iff.1 hk) with hk | hk
    ·exact .inr hk
    ·exact .inl ⟨hperm.mem_iff.2 (by simp [hk]),fun hm=>hnd2.2.2 k hm k hk rfl⟩
  ·intro k hk
   exact List.mem_append_right _ (hF3.mem_iff.2 (List.mem_append_left _ hk))
  ·intro k hk
   have:=hperm.mem_iff.1 hk
   simp only [List.mem_append] at this ⊢
   rcases this with h | h | h
   ·exact .inl (.inl h)
   ·exact .inr h
   ·exact .inl (.inr (hF3.mem_iff.2 (List.mem_append_right _ h)))
  ·exact fun k hk=>.inr (.inl (List.mem_append_left _ hk))
  ·exact fun k hk=>by rw [z4];exact (h.inX k (List.mem_append_left _ hk)).1
  ·exact fun k hk=>.inl (List.mem_append_right _ hk)
  ·exact fun k hk=>by rw [z4];exact (h.inX k (List.mem_append_right _ hk)).1
  ·exact fun k hk hk'=>hnX.2.2 k hk k hk' rfl
  ·refine List.nodup_append.2 ⟨hnd1.1,hF3.nodup_iff.2 (List.nodup_append.2 ⟨hnX.1,hnd2.2.1,fun k hk k' hk' e=>?_⟩),fun k hk k' hk' e=>?_⟩
   ·subst e;exact hFmem k hk (hperm.mem_iff.2 (by simp [hk']))
   ·subst e
    rcases List.mem_append.1 (hF3.mem_iff.1 hk') with h1 | h1
    ·exact hFmem k h1 (hperm.mem_iff.2 (by simp [hk]))
    ·exact hnd1.2.2 k hk k (List.mem_append_right _ h1) rfl
  ·intro i b0 o0 s l cp hv hL hcell
   by_cases e:b=b0
   ·subst e
    refine (setCells_rest ?_).trans hcell
    rw [hml]
    have hbs:=(hbase _ _ hL).2 rfl
    have hsz:=hrm.length
    cases hst:p.steps with
    | nil=>
     rw [hst] at hbs
     dsimp only at hbs
     simp only [Root.wrote,hst,List.isEmpty_nil,if_true,bump0] at hv
     split at hv
     ·omega
     ·rename_i hcnd
      simp only [Bool.and_eq_true,Nat.ble_eq,Nat.blt_eq,not_and,Nat.not_lt] at hcnd
      by_cases hlo:p.off≤i
      ·have:=hcnd hlo;omega
      ·omega
    | cons st r=>
     rw [hst] at hbs
     obtain ⟨h1,h2,h3⟩:=hbs
     unfold storeOK at hso
     rw [hst] at hso
     dsimp only at hso
     cases hc:st.cnt with
     | none=>rw [hc] at h1;simp at h1
     | some k=>
      rw [hc] at hso
      simp only [Bool.and_eq_true,Bool.not_eq_true'] at hso
      apply Classical.byContradiction
      intro hn
      have hin:o0+i-q<m.length:=by omega
      have:=hat (o0+i-q) _ (List.getElem?_eq_getElem hin)
      rw [show q+(o0+i-q)=o0+i by omega,hcell] at this
      simp only [Option.some.injEq] at this
      exact noslice hso.1.1 hso.1.2 hrm _ (List.getElem_mem hin) s l cp this.symm
   ·rw [(setCells_kept m' b q w b0 (fun h=>e h.symm)).cell];exact hcell
  ·intro i hv
   refine keepsAll fun b2 o2 s l cp hB hcell=>?_
   by_cases e:b2=b
   ·subst e
    refine (setCells_rest ?_).trans hcell
    rw [hml]
    cases hst:p.steps with
    | nil=>
     exfalso
     unfold walkP at hw
     cases hL:ρ p.root with
     | mem b0 o0=>
      rw [hL,hst] at hw
      obtain ⟨rfl,_⟩:=hw
      rcases hB with hB | hB
      ·exact hB.2.2.1 _ _ ht hbFo
      ·exact hB.2 _ _ hL rfl
     | reg cs=>rw [hL,hst] at hw;exact hw.elim
    | cons st r=>
     have hns:σ.hasSlice=false:=by
      simp only [Root.wrote,hst,List.isEmpty_cons] at hv
      cases hq:σ.hasSlice with
      | false=>rfl
      | true=>rw [hq] at hv;simp at hv
     have hai:allImm σ o'=true:=by
      unfold storeOK at hso
      rw [hst] at hso
      dsimp only at hso
      cases hc:st.cnt with
      | none=>rw [hc] at hso;simp only [hns,Bool.false_or] at hso;exact hso
      | some k=>rw [hc] at hso;simp only [Bool.and_eq_true] at hso;exact hso.1.2
     apply Classical.byContradiction
     intro hn
     have hin:o2-q<m.length:=by omega
     have:=hat (o2-q) _ (List.getElem?_eq_getElem hin)
     rw [show q+(o2-q)=o2 by omega,hcell] at this
     simp only [Option.some.injEq] at this
     exact noslice hns hai hrm _ (List.getElem_mem hin) s l cp this.symm
   ·rw [(setCells_kept m' b q w b2 e).cell];exact hcell
 have hS1:∀(base Fr F3:List Nat),F3.Perm (F++Fr)→∀k,(k<w.heap.size∧(c.Sa k∨k∈c.FL∨c.w0.heap.size≤k)∧(∀r u,rt r=some u→r≠p.root→k ∉ Fo r)∧k ∉ base++(F++Fr)∧k ∉ X)→
   Stab c (w.setCells b q m') (upd rt p.root (some (t.wrote σ p o3 x3))) (updL Fo p.root (base++F3)) X k:=fun base Fr F3 hp k hk=>by
  refine ⟨by rw [z4];exact hk.1,hk.2.1,fun r u hr hm=>?_,hk.2.2.2.2⟩
  by_cases e:r=p.root
  ·subst e;rw [updL_same] at hm
   refine hk.2.2.2.1 ?_
   rcases List.mem_append.1 hm with h1 | h1
   ·exact List.mem_append_left _ h1
   ·exact List.mem_append_right _ (hp.mem_iff.1 h1)
  ·rw [updL_ne e] at hm;rw [upd_ne e] at hr;exact hk.2.2.1 r u hr e hm
 have hS0:∀(base Fm Fr:List Nat),(Fo p.root).Perm (base++(Fm++Fr))→∀k,Stab c w rt Fo (F++X) k→(k<w.heap.size∧(c.Sa k∨k∈c.FL∨c.w0.heap.size≤k)∧(∀r u,rt r=some u→r≠p.root→k ∉ Fo r)∧k ∉ base++(F++Fr)∧k ∉ X):=fun base Fm Fr hp k hk=>by
  refine ⟨hk.1,hk.2.1,fun r u hr _=>hk.2.2.1 r u hr,fun hm=>?_,fun hm=>hk.2.2.2 (List.mem_append_right _ hm)⟩
  rcases List.mem_append.1 hm with h1 | h1
  ·exact hk.2.2.1 _ _ ht (hp.mem_iff.2 (List.mem_append_left _ h1))
  ·rcases List.mem_append.1 h1 with h2 | h2
   ·exact hk.2.2.2 (List.mem_append_left _ h2)
   ·exact hk.2.2.1 _ _ ht (hp.mem_iff.2 (by simp [h2]))
 have hkS:b∈Fo p.root→∀k,Stab c w rt Fo (F++X) k→Kept w (w.setCells b q m') k:=fun hb k hk=>setCells_kept m' b q w k fun e=>hk.2.2.1 _ _ ht (e▸hb)
 have hkF1:b∈Fo p.root→∀k∈F,Kept w (w.setCells b q m') k:=fun hb k hk=>setCells_kept m' b q w k fun e=>h.disjX k (List.mem_append_left _ hk) _ _ ht (e▸hb)
 unfold RootOK at hroot
 unfold walkP at hw
 cases hL:ρ p.root with
 | mem b0 o0=>
  rw [hL] at hroot hw
  obtain ⟨cs,F',eF,hat,hfz,hrep0,hro,hkF⟩:=hroot
  rw [eF] at hnd
  obtain ⟨m,Fm,Fr,g1,g2,g3,g4,g5,g6,g7⟩:=focusH p.steps hrep0 hat hfz hnd hl hw
  have hml:m'.length=m.length:=by rw [hrep.length,g2.length]
  refine ⟨?_,⟨m,g1,hml.symm⟩,g5⟩
  have hFp:(Fo p.root).Perm ([b0]++(Fm++Fr)):=by rw [eF];exact g3.cons b0
  have hbb:b∈Fo p.root:=hFp.mem_iff.2 (by
   rcases List.mem_cons.1 g4 with rfl | h1
   ·simp
   ·simp [h1])
  obtain ⟨cs3,F3,e1,e2,e3,e4⟩:=g7 (fun k=>k<w.heap.size∧(c.Sa k∨k∈c.FL∨c.w0.heap.size≤k)∧(∀r u,rt r=some u→r≠p.root→k ∉ Fo r)∧k ∉ [b0]++(F++Fr)∧k ∉ X) (w.setCells b q m') (oo,x) m' F (o3,x3) hput
   (fun k hk=>⟨hS0 _ _ _ hFp k hk,hkS hbb k hk⟩) ⟨fun k _ hk=>setCells_kept m' b q w k hk,fun j hj=>setCells_rest (by rw [hml];exact hj),fun j=>World.frozen?_setCells _ _ _ _ _⟩ (setCells_at g1 hml)
   (hrep.mono (fun k hk=>⟨hS0 _ _ _ hFp k hk,hkS hbb k hk⟩) (hkF1 hbb))
  refine main [b0] Fm Fr F3 m (.inr hFp) e4 (by
   rcases List.mem_cons.1 g4 with rfl | h1
   ·simp
   ·simp [h1]) g1 g2 g5 (fun b1 o1 eL=>?_) (fun _=>?_)
  ·rw [hL] at eL
   simp only [Loc.mem.injEq] at eL
   obtain ⟨rfl,rfl⟩:=eL
   refine ⟨List.mem_cons_self,fun e=>?_⟩
   obtain ⟨r1,r2,r3⟩:=g6 e
   cases hst:p.steps with
   | nil=>rw [hst] at r3;exact r3
   | cons s r=>rw [hst] at r3;exact ⟨r3,r1,by rw [←hrep0.length];exact r2⟩
  ·rw [hL]
   refine ⟨cs3,F3,rfl,e1,fun j=>by rw [World.frozen?_setCells];exact hfz j,e3.mono (fun k hk=>⟨hS1 [b0] Fr F3 e4 k hk,rfl⟩) (fun _ _=>rfl),hro,fun k hk j hkk=>?_⟩
   rcases List.mem_append.1 (e4.mem_iff.1 hk) with h1 | h1
   ·exact h.keepX k (List.mem_append_left _ h1) j hkk
   ·exact hkF k (g3.mem_iff.2 (List.mem_append_right _ h1)) j hkk
 | reg cs=>
  rw [hL] at hroot hw
  obtain ⟨hrep0,hkF⟩:=hroot
  dsimp only at hw
  cases hs:p.steps with
  | nil=>rw [hs] at hw;exact hw.elim
  | cons s r=>
   rw [hs] at hw hl hput
   obtain ⟨g0,a0,len,cap,k1,k2,k3,k4⟩:=hw
   obtain ⟨m,Fm,Fr,g1,g2,g3,g4,g5,g7⟩:=focusR hrep0 hnd hl g0 k1 k2 k4
   have hml:m'.length=m.length:=by rw [hrep.length,g2.length]
   refine ⟨?_,⟨m,g1,hml.symm⟩,g5⟩
   have hFp:(Fo p.root).Perm ([]++(Fm++Fr)):=g3
   have hbb:b∈Fo p.root:=g3.mem_iff.2 (List.mem_append_right _ g4)
   obtain ⟨F3,e3,e4⟩:=g7 (fun k=>k<w.heap.size∧(c.Sa k∨k∈c.FL∨c.w0.heap.size≤k)∧(∀r u,rt r=some u→r≠p.root→k ∉ Fo r)∧k ∉ []++(F++Fr)∧k ∉ X) (w.setCells b q m') (oo,x) m' F (o3,x3) hput
    (fun k hk=>⟨hS0 _ _ _ hFp k hk,hkS hbb k hk⟩) ⟨fun k _ hk=>setCells_kept m' b q w k hk,fun j hj=>setCells_rest (by rw [hml];exact hj),fun j=>World.frozen?_setCells _ _ _ _ _⟩ (setCells_at g1 hml)
    (hrep.mono (fun k hk=>⟨hS0 _ _ _ hFp k hk,hkS hbb k hk⟩) (hkF1 hbb))
   refine main [] Fm Fr F3 m (.inr hFp) e4 (by simpa using g4) g1 g2 g5 (fun b1 o1 eL=>by rw [hL] at eL;cases eL) (fun _=>?_)
   rw [hL]
   refine ⟨e3.mono (fun k hk=>⟨hS1 [] Fr F3 e4 k hk,rfl⟩) (fun _ _=>rfl),fun k hk j hkk=>?_⟩
   rcases List.mem_append.1 (e4.mem_iff.1 hk) with h1 | h1
   ·exact h.keepX k (List.mem_append_left _ h1) j hkk
   ·exact hkF k (g3.mem_iff.2 (List.mem_append_right _ h1)) j hkk
end
end Go.Rd
namespace Go.Rd
section
variable {P:Program} {T:Tab} {c:Ctx} {sl:Slots} {rt rt':Roots} {ρ:Nat→Loc} {Fo:Nat→List Nat} {X:List Nat} {a:Act} {w:World} {K:Act→World→Prop} {Q:Exit→Act→World→Prop} {o:Oper} {Δ:Dl}
theorem RR.release {X':List Nat} (hp:X'.Sublist X) (h:RR c sl rt ρ Fo X a w):RR c sl rt ρ Fo X' a w∧(∀b,Stab c w rt Fo X b→Stab c w rt Fo X' b)∧(∀b∈X,b ∉ X'→Stab c w rt Fo X' b):=by
 have hS:∀b,Stab c w rt Fo X b→Stab c w rt Fo X' b∧Kept w w b:=fun b hb=>⟨⟨hb.1,hb.2.1,hb.2.2.1,fun hm=>hb.2.2.2 (hp.subset hm)⟩,rfl⟩
 have hB:∀r b,Bof c w rt ρ Fo X r b→Bof c w rt ρ Fo X' r b:=fun r b hb=>hb.imp (fun k=>(hS b k).1) id
 refine ⟨⟨h.os,h.tape,h.output,h.size,h.frame,h.keepc,h.keepl,fun r t hr=>(h.roots r t hr).mono hS (fun _ _=>rfl),h.nodup,h.disj,h.inF,h.nodupX.sublist hp,fun b hb=>h.disjX b (hp.subset hb),fun b hb=>h.inX b (hp.subset hb),
  fun b hb=>h.keepX b (hp.subset hb),fun n u hu=>?_,h.named,h.defers,h.tsz,h.anch⟩,fun b hb=>(hS b hb).1,fun b hb hb'=>⟨(h.inX b hb).1,.inr (h.inX b hb).2,fun r t hr hm=>h.disjX b hb r t hr hm,hb'⟩⟩
 exact VR.later (N:=PlaceOK rt) (E:=envOf c sl rt ρ Fo X w) (E':=envOf c sl rt ρ Fo X' w) ⟨hS,fun p b q _ hp=>⟨hp,walkP_mono (fun _ _ _ h=>h) (hB _)⟩,fun p _ _ _ _ hp=>⟨hp,hdrAt_mono (fun _ _ _ h=>h) (hB _)⟩⟩ u _ (fun _ _=>rfl) (h.named n u hu) (h.slots n u hu)
theorem upd_upd {α:Type} {f:Nat→Option α} {n:Nat} {u v:Option α}:upd (upd f n u) n v=upd f n v:=by
 funext k
 simp only [upd]
 split<;>rfl
theorem RR.storeW {F:List Nat} (h:RR c sl rt ρ Fo (F++X) a w) {p:Place} {t:Root} (ht:rt p.root=some t) {σ:Ty} {oo m:Ow} {x:σ.den} {o2:Ow} (hw1:wk σ m oo=true) (hw2:wk t.τ o2 t.o=true) {o'':Ow} {y:σ.den}
  (hl:look σ p.steps t.τ o2 t.x p.off=some (o'',y)) (hso:storeOK { t with o:=o2 } σ p o''=true) {o3:Ow} {x3:t.τ.den} (hput:put σ (m,x) p.steps t.τ o2 t.x p.off=some (o3,x3))
  {b q:Nat} (hw:walkP w (fun _=>True) (ρ p.root) p b q) {m':List Value} (hrep:Rep (Stab c w rt Fo (F++X)) w σ oo m' x F):
  (∃Fo',RR c sl (upd rt p.root (some (({ t with o:=o2 }:Root).wrote σ p o3 x3))) ρ Fo' X a (w.setCells b q m'))∧(∃m,At w b q m∧m.length=m'.length)∧(∀j,w.frozen? ⟨b,j,none⟩=false):=by
 obtain ⟨Fo1,h1,hs1⟩:=h.weaken ht hw2
 have hrep1:=hrep.mono (fun b hb=>⟨hs1 b hb,rfl⟩) (fun _ _=>rfl)
 obtain ⟨F',hsub,hF'⟩:=hrep1.weak hw1 (List.nodup_append.1 h1.nodupX).1
 have hsub2:(F'++X).Sublist (F++X):=hsub.append_right X
 obtain ⟨h2,hs2,hs3⟩:=h1.release hsub2
 have hX:=List.nodup_append.1 h1.nodupX
 have hrep2:=hF' _ hs2 (fun b hb hb'=>hs3 b (List.mem_append_left _ hb) (fun hm=>by
  rcases List.mem_append.1 hm with hm | hm
  ·exact hb' hm
  ·exact hX.2.2 b hb b hm rfl))
 obtain ⟨⟨Fo',k1⟩,k2,k3⟩:=RR.store (p:=p) (t:={ t with o:=o2 }) h2 (upd_same _ _ _) hl hso hput hw hrep2
 rw [upd_upd] at k1
 exact ⟨⟨Fo',k1⟩,k2,k3⟩
theorem op_store (hT:TOK P T) (hs:∀r t,rt' r=some t→rt r=some t) (h:RR c sl rt ρ Fo [] a w) {t:TypeId} {X Y:Operand} (ho:o.op=.store t X Y) {σ:Ty} (ht:T t=some σ) {p:Place} {u:V}
  (hp:VR (envOf c sl rt ρ Fo [] w) (.ptr p) (a.eval X)) (hv:VR (envOf c sl rt ρ Fo [] w) u (a.eval Y)) (hdst:o.dst=none) {mv:Bool}
  (hy:dlStore rt' mv σ p u=some Δ) (hK:Good c (Δ.slots sl) (lk Δ.rt rt) K):o.wp P a w K Q:=by
 unfold dlStore at hy
 split at hy
 ·rename_i hok
  split at hy
  ·rename_i oo x us hg
   obtain ⟨Fo1,F,cs,k1,k2,k3,k4,k5⟩:=grab_sound (us:=[]) hs h (hv.grabs hs) hg
   split at hy
   ·rename_i t0 ht0
    have ht0:=lk_sub hs us _ _ ht0
    split at hy
    ·rename_i o' y0 hlk
     split at hy
     ·rename_i hso
      obtain ⟨b,q,hw,e⟩:=hp (validP_sub hs (okP_valid hok))
      have hw':=walkP_mono (w':=w) (B':=fun _=>True) (fun _ _ _ h=>h) (fun _ _=>trivial) hw
      have fin:∀(t3:Root),Δ=⟨none,(p.root,t3)::us⟩→((∃Fo',RR c sl (upd (lk us rt) p.root (some t3)) ρ Fo' [] a (w.setCells b q cs))∧(∃m,At w b q m∧m.length=cs.length)∧(∀j,w.frozen? ⟨b,j,none⟩=false))→o.wp P a w K Q:=by
       rintro t3 rfl ⟨⟨Fo',g1⟩,⟨m,g2,g3⟩,g4⟩
       refine wp_skip' (w':=w.setCells b q cs) ?_ ?_
       ·simp only [execOp,ho,e,k2]
        rw [Sem.run_bind,run_storeAt (hT.get ht) k3.length k4 (fun j hj=>by rw [g2.cell (List.getElem?_eq_getElem (by omega))];rfl) g4]
        rfl
       ·rw [hdst];exact hK _ _ _ _ g1
      split at hy
      ·rename_i hst
       split at hy
       ·rename_i o3 x3 hput
        simp only [Option.some.injEq] at hy
        refine fin _ hy.symm (RR.store (p:=p) k1 ht0 hlk hso hput hw' k3)
       ·cases hy
      ·rename_i hst
       dsimp only at hy
       split at hy
       ·rename_i hwk
        rw [Bool.and_eq_true] at hwk
        split at hy
        ·rename_i o'' y2 hlk2
         split at hy
         ·rename_i hso2
          split at hy
          ·rename_i o3 x3 hput
           simp only [Option.some.injEq] at hy
           refine fin _ hy.symm (RR.storeW (p:=p) k1 ht0 hwk.1 hwk.2 hlk2 hso2 hput hw' k3)
          ·cases hy
         ·cases hy
        ·cases hy
       ·cases hy
     ·cases hy
    ·cases hy
   ·cases hy
  ·cases hy
 ·cases hy
end
end Go.Rd
namespace Go.Rd
section
variable {P:Program} {T:Tab} {c:Ctx} {sl:Slots} {rt rt':Roots} {ρ:Nat→Loc} {Fo:Nat→List Nat} {X:List Nat} {a:Act} {w:World} {K:Act→World→Prop} {Q:Exit→Act→World→Prop} {o:Oper} {Δ:Dl}
theorem run_part {t:TypeId} {τ:Ty} (ht:Row P T t τ) {cs:List Value} {off:Nat} (hl:off+τ.size≤cs.length):(part t cs.toArray off).run P w=.ok (valOf τ ((cs.drop off).take τ.size)) w:=by
 obtain ⟨d,hd,hagg⟩:=ht.agg
 have hag:(isAgg t).run P w=.ok (isAggB τ) w:=by
  unfold isAgg
  rw [Sem.run_bind,run_underlying hd w]
  rw [←hagg]
  cases d<;>rfl
 have hml:((cs.drop off).take τ.size).length=τ.size:=by simp;omega
 cases hb:isAggB τ with
 | true=>
  rw [hb] at hag
  have:valOf τ ((cs.drop off).take τ.size)=.agg ((cs.drop off).take τ.size).toArray:=by cases τ<;>first | rfl | simp [isAggB] at hb
  rw [this]
  simp [part,hag,run_sizeOf ht]
 | false=>
  rw [hb] at hag
  obtain ⟨v,h1,h2⟩:=valOf_leaf hb ht.leaf hml
  rw [h2]
  have hs:=size_of_leaf hb ht.leaf
  have hc:cs[off]?=some v:=by
   have h3:=congrArg (fun l=>l[0]?) h1
   simp only [hs] at h3
   rw [List.getElem?_take_of_lt (by omega),List.getElem?_drop] at h3
   simpa using h3
  simp [part,hag,hc]
theorem op_index (hT:TOK P T) (h:RR c sl rt ρ Fo [] a w) {t:TypeId} {x y:Operand} (ho:o.op=.index t x y) {v:V} {k:IntKind} {i:Int}
  (hv:VR (envOf c sl rt ρ Fo [] w) v (a.eval x)) (hi:VR (envOf c sl rt ρ Fo [] w) (.dat (.int k) i) (a.eval y)) (hd:DstOK c sl o.dst)
  (hy:Yields ((dlIndex T t i v).andThen fun u=>ret1 o.dst u []) Δ) (hK:Good c (Δ.slots sl) (lk Δ.rt rt) K):o.wp P a w K Q:=by
 obtain ⟨hi1,_,_⟩:=VR_int_inv hi
 obtain ⟨u,hyu,hy⟩:=hy.andThen
 unfold dlIndex at hyu
 split at hyu
 ·rename_i n e xs
  split at hyu
  ·rename_i n' e2 ht
   split at hyu
   ·rename_i hb
    rw [Bool.and_eq_true] at hb
    have e1:=Nat.eq_of_beq_eq_true hb.1
    have e3:=Ty.eq_of_beq hb.2
    subst e1 e3
    cases hyu with
    | asrt hin hyu=>
     cases hyu
     obtain ⟨g0,g1,g2⟩:=inR_iff hin
     obtain ⟨cs,hval,hF,hcl,hrep⟩:=hv
     obtain ⟨hxl,hel⟩:=hrep (by simp)
     obtain ⟨e',hu,hr,hpos⟩:=(hT.get ht).arr_elem hT
     have hge:=hel i.toNat (List.getD xs i.toNat e.zero) (by rw [List.getD_eq_getElem?_getD,List.getElem?_eq_getElem (by omega)];rfl)
     have hle:i.toNat * e.size+e.size≤cs.length:=by
      rw [hcl]
      have:(i.toNat+1) * e.size≤n * e.size:=Nat.mul_le_mul_right _ g2
      rw [Nat.add_mul] at this;omega
     refine wp_value (w':=w) (v:=valOf e ((cs.drop (i.toNat * e.size)).take e.size)) ?_ (fin0 h hd hy hK ⟨_,rfl,hge⟩ trivial (fun _=>rfl))
     simp [execOp,ho,hval,hi1,valOf,Instr.index,asIntOf,run_underlying hu,g0,g1,run_sizeOf hr,run_part hr hle]
   ·cases hyu
  ·cases hyu
 ·rename_i s
  split at hyu
  ·rename_i ht
   cases hyu with
   | asrt hin hyu=>
    cases hyu
    obtain ⟨g0,g1,g2⟩:=inR_iff hin
    obtain ⟨cs,hval,_,_,hstr⟩:=hv
    obtain ⟨rfl,_⟩:=hstr (by simp)
    have hval:a.eval x=.string s:=hval
    obtain ⟨d,hd1,hd2⟩:=(hT.get ht).desc
    have hu:P.underlying t=some .string:=by
     rw [hd1]
     cases d<;>first | rfl | (simp [descOK] at hd2;done)
    have hlt:i.toNat<(ByteArray.toList s).length:=by
     rw [ByteArray.toList_eq]
     have:s.size=s.data.toList.length:=by simp
     omega
    have hb:(s[i.toNat]?:Option UInt8)=some ((ByteArray.toList s).getD i.toNat 0):=by
     rw [List.getD_eq_getElem?_getD,List.getElem?_eq_getElem hlt]
     simp only [Option.getD_some]
     have h3:i.toNat<s.size:=by omega
     rw [getElem?_pos s i.toNat h3]
     congr 1
     have:∀(l:List UInt8) (e:ByteArray.toList s=l) (h:i.toNat<l.length),s[i.toNat]=l[i.toNat]:=by
      intro l e h
      rw [ByteArray.toList_eq] at e
      subst e
      simp [ByteArray.getElem_eq_getElem_data]
     exact this _ rfl hlt
    refine wp_value (w':=w) (v:=.int .u8 (((ByteArray.toList s).getD i.toNat 0).toNat:Int)) ?_ (fin0 h hd hy hK (VR_int ?_ ?_) trivial (fun _=>rfl))
    ·simp only [execOp,ho,hval,hi1]
     simp [Instr.index,asIntOf,run_underlying hu,g0,hb]
    ·show (0:Int)≤_
     omega
    ·show _≤(255:Int)
     have:=UInt8.toNat_lt ((ByteArray.toList s).getD i.toNat 0)
     omega
  ·cases hyu
 ·cases hyu
theorem op_move (h:RR c sl rt ρ Fo [] a w) {x:Operand} (ho:o.op=.move x∨o.op=.assign x) {v:V} (hv:VR (envOf c sl rt ρ Fo [] w) v (a.eval x)) (hh:v.holds (PlaceOK rt)) (hlean:∀n,v.leans n=false)
  (hd:DstOK c sl o.dst) (hy:Yields (ret1 o.dst v []) Δ) (hK:Good c (Δ.slots sl) (lk Δ.rt rt) K):o.wp P a w K Q:=by
 refine wp_value (w':=w) (v:=a.eval x) ?_ (fin0 h hd hy hK hv hh hlean)
 rcases ho with ho | ho<;>simp [execOp,ho]
end
end Go.Rd
namespace Go.Rd
section
variable {P:Program} {T:Tab} {c:Ctx} {sl:Slots} {rt rt':Roots} {ρ:Nat→Loc} {Fo:Nat→List Nat} {X:List Nat} {a:Act} {w:World} {K:Act→World→Prop} {Q:Exit→Act→World→Prop} {o:Oper} {Δ:Dl}
def Side (S:Nat→Prop) (w:World) (e:Ty) (oe:Ow) (cs:List Value) (xs:List e.den) (Fs:List (List Nat)):Prop:=
 Fs.length=xs.length∧∀i y Fi,xs[i]?=some y→Fs[i]?=some Fi→Rep S w e oe ((cs.drop (i * e.size)).take e.size) y Fi
theorem Side.mono {S S':Nat→Prop} {w w':World} {e:Ty} {oe:Ow} {cs:List Value} {xs:List e.den} {Fs:List (List Nat)} (hS:∀b,S b→S' b∧Kept w w' b) (hF:∀b∈Fs.flatten,Kept w w' b) (h:Side S w e oe cs xs Fs):Side S' w' e oe cs xs Fs:=
 ⟨h.1,fun i y Fi h1 h2=>(h.2 i y Fi h1 h2).mono hS fun b hb=>hF b (List.mem_flatten.2 ⟨Fi,List.mem_of_getElem? h2,hb⟩)⟩
theorem Side.nil {S:Nat→Prop} {w:World} {e:Ty} {oe:Ow} {cs:List Value}:Side S w e oe cs [] []:=⟨rfl,fun i y Fi h=>by simp at h⟩
theorem RR.newArr {Fs:List (List Nat)} (h:RR c sl rt ρ Fo (Fs.flatten++X) a w) {d:Nat} (hd:rt d=none) {e:Ty} {oe:Ow} {xs:List e.den} {cs:List Value} {cap:Nat} (hcap:cs.length=cap * e.size) (hlen:xs.length≤cap) (hmax:xs.length≤LMAX)
  (hside:Side (Stab c w rt Fo (Fs.flatten++X)) w e oe cs xs Fs) (te:TypeId):
  ∃ρ' Fo',RR c sl (upd rt d (some (Root.fresh (.slice e) (.own none oe) xs true))) ρ' Fo' X a (w.alloc (.cells cs.toArray te (0,0)))∧ρ' d=.reg [.slice (some ⟨w.heap.size,0,none⟩) xs.length cap]:=by
 have h1:=h.newBlock (.cells cs.toArray te (0,0))
 have hk:∀b,b<w.heap.size→Kept w (w.alloc (.cells cs.toArray te (0,0))) b:=fun b hb=>kept_push hb
 have hS1:∀b,Stab c w rt Fo (Fs.flatten++X) b→Stab c (w.alloc (.cells cs.toArray te (0,0))) rt Fo (w.heap.size::(Fs.flatten++X)) b∧Kept w (w.alloc (.cells cs.toArray te (0,0))) b:=fun b hb=>
  ⟨⟨by have:=hb.1;show b<(w.heap.push _).size;rw [Array.size_push];omega,hb.2.1,hb.2.2.1,fun hm=>by
   rcases List.mem_cons.1 hm with rfl | hm
   ·have:=hb.1;omega
   ·exact hb.2.2.2 hm⟩,hk b hb.1⟩
 have h2:RR c sl rt ρ Fo ((w.heap.size::Fs.flatten)++X) a (w.alloc (.cells cs.toArray te (0,0))):=by simpa using h1
 have hside2:=hside.mono hS1 (fun b hb=>hk b (h.inX b (List.mem_append_left _ hb)).1)
 have h3:=h2.newRoot d hd (Root.fresh (.slice e) (.own none oe) xs true) (.reg [.slice (some ⟨w.heap.size,0,none⟩) xs.length cap]) ?_
 ·exact ⟨_,_,h3,updL_same _ _ _⟩
 ·refine ⟨⟨some ⟨w.heap.size,0,none⟩,cap,rfl,hlen,hmax,.inr ⟨w.heap.size,Fs,rfl,rfl,hside.1,fun j hj=>?_,fun j=>frozen_push,fun i y Fi h1 h2=>⟨fun h=>by simp at h,fun _=>⟨(cs.drop (i * e.size)).take e.size,?_,?_⟩⟩⟩⟩,fun b hb j hkk=>?_⟩
  ·refine ⟨cs[j]'(by rw [hcap];exact hj),?_⟩
   have:=at_push (w:=w) (cs:=cs) (e:=te) (fz:=(0,0)) j cs[j] (List.getElem?_eq_getElem (by rw [hcap];exact hj))
   rw [Nat.zero_add] at this;exact this
  ·intro j v hj
   have hj':=(List.getElem?_eq_some_iff.1 hj).1
   rw [List.getElem?_take_of_lt (by simp at hj';omega),List.getElem?_drop] at hj
   have:=at_push (w:=w) (cs:=cs) (e:=te) (fz:=(0,0)) (i * e.size+j) v hj
   rw [Nat.zero_add] at this;exact this
  ·exact hside2.2 i y Fi h1 h2
  ·rcases List.mem_cons.1 hb with rfl | hb
   ·have:=h.keepl _ _ hkk;have:=h.size;omega
   ·exact h.keepX b (List.mem_append_left _ hb) j hkk
theorem VR.newAli {d:Nat} {e:Ty} {v:Value} {ad:Option Addr} {n cap:Nat} (hρ:ρ d=.reg [.slice ad n cap]) (hv:v=.slice ad n cap) {w:World}:VR (envOf c sl rt ρ Fo X w) (.ali ⟨d,0,[],0,0⟩ e none) v:=fun _=>
 ⟨ad,n,cap,by
  show hdrAt w _ (ρ d) _ _
  rw [hρ];exact hdrAt_reg rfl rfl,hv⟩
theorem fin_ali {d:Nat} {us:List (Nat×Root)} {e:Ty} {oe:Ow} {xs:List e.den} {ad:Option Addr} {n cap:Nat} {v:Value} (h:RR c sl (upd (lk us rt) d (some (Root.fresh (.slice e) (.own none oe) xs true))) ρ Fo [] a w)
  (hρ:ρ d=.reg [.slice ad n cap]) (hv:v=.slice ad n cap) (hdst:o.dst=some d) (hd:DstOK c sl o.dst)
  (hK:Good c (upd sl d (some (.ali ⟨d,0,[],0,0⟩ e none))) (upd (lk us rt) d (some (Root.fresh (.slice e) (.own none oe) xs true))) K):K (a.put o.dst v) w:=by
 obtain ⟨h1,h2⟩:=hd d hdst
 rw [hdst]
 exact hK _ _ _ _ (h.slot d (some (.ali ⟨d,0,[],0,0⟩ e none)) _ h1 h2 (fun x hx=>by cases hx;rfl) (fun x hx=>by cases hx;exact VR.newAli hρ hv) (fun x hx=>by cases hx;exact ⟨_,upd_same _ _ _,Nat.zero_le _,Nat.zero_le _⟩))
theorem mad_list {e:Ty}:∀n:Nat,(List.range (n * e.size)).map (fun j=>(zcells e).toArray[j % (zcells e).toArray.size]!)=(List.replicate n (zcells e)).flatten:=by
 have hz:=zcells_length e
 intro n
 induction n with
 | zero=>simp
 | succ n ih=>
  rw [Nat.add_mul,Nat.one_mul,List.range_add,List.map_append,ih,List.replicate_succ',List.flatten_append]
  congr 1
  simp only [List.flatten_cons,List.flatten_nil,List.append_nil,List.map_map]
  apply List.ext_getElem?
  intro j
  by_cases hj:j<e.size
  ·rw [List.getElem?_map,List.getElem?_range hj]
   simp only [Option.map_some,Function.comp_apply,List.size_toArray,hz]
   have:(n * e.size+j) % e.size=j:=by rw [Nat.add_comm,Nat.add_mul_mod_self_right,Nat.mod_eq_of_lt hj]
   rw [this]
   rw [getElem!_pos _ _ (by simpa [hz] using hj)]
   simp [List.getElem?_eq_getElem (show j<(zcells e).length by omega)]
  ·rw [List.getElem?_eq_none (by simp;omega),List.getElem?_eq_none (by omega)]
theorem Side.zero {S:Nat→Prop} {e:Ty} {n m:Nat} (h:n≤m):Side S w e (.full e) (List.replicate m (zcells e)).flatten (List.replicate n e.zero) (List.replicate n []):=by
 refine ⟨by simp,fun i y Fi h1 h2=>?_⟩
 rw [List.getElem?_replicate] at h1 h2
 split at h1
 ·rename_i hi
  rw [if_pos hi] at h2
  cases h1;cases h2
  rw [←zcells_length e,seg_replicate (by omega)]
  exact Rep.zero e
 ·cases h1
theorem flatten_nils {α:Type} (n:Nat):(List.replicate n ([]:List α)).flatten=[]:=by induction n<;>simp_all [List.replicate_succ]
theorem op_makeSlice (hT:TOK P T) (h:RR c sl rt ρ Fo [] a w) {t:TypeId} {x y:Operand} (ho:o.op=.makeSlice t x y) {e:Ty} (ht:T t=some (.slice e)) {d:Nat} (hdst:o.dst=some d) (hnone:rt d=none) (hd:DstOK c sl o.dst)
  {k k':IntKind} {n m:Int} (hx:VR (envOf c sl rt ρ Fo [] w) (.dat (.int k) n) (a.eval x)) (hy:VR (envOf c sl rt ρ Fo [] w) (.dat (.int k') m) (a.eval y)) (h0:0≤n) (h1:n≤m) (h2:m≤4294967296)
  (hK:Good c (upd sl d (some (.ali ⟨d,0,[],0,0⟩ e none))) (upd rt d (some (Root.fresh (.slice e) (.own none (.full e)) (List.replicate n.toNat e.zero) true))) K):o.wp P a w K Q:=by
 obtain ⟨e1,_,_⟩:=VR_int_inv hx
 obtain ⟨e2,_,_⟩:=VR_int_inv hy
 obtain ⟨e',hu,hr,hpos⟩:=(hT.get ht).slice_elem hT
 obtain ⟨i,hi,hzv,hb,his⟩:=hr.zero
 have hrun:=run_make (P:=P) w t e' i (valOf e (zcells e)) hu hi (by simpa using hzv) k k' n m h0 h1 (by
  have:(i.bytes:Int) * m≤4096 * 4294967296:=Int.mul_le_mul (by omega) h2 (by omega) (by omega)
  omega) (by omega)
 have hcl:(valOf e (zcells e)).cells=(zcells e).toArray:=cells_valOf (zcells_length e) (zcells_one e) (fun h=>size_of_leaf h hr.leaf)
 have hmade:madeCells (valOf e (zcells e)).cells (m.toNat * i.size)=((List.replicate m.toNat (zcells e)).flatten).toArray:=by
  rw [hcl,his]
  apply Array.ext'
  simp only [madeCells,Array.toList_map,Array.toList_range]
  exact mad_list _
 rw [hmade] at hrun
 have hzl:((List.replicate m.toNat (zcells e)).flatten).length=m.toNat * e.size:=by simp [zcells_length]
 obtain ⟨ρ',Fo',k1,k2⟩:=RR.newArr (X:=[]) (Fs:=List.replicate n.toNat []) (xs:=List.replicate n.toNat e.zero) (by rw [flatten_nils];exact h) hnone hzl (by simp;omega) (by simp [LMAX];omega) (Side.zero (by omega)) e'
 refine wp_value (w':=w.alloc (.cells ((List.replicate m.toNat (zcells e)).flatten).toArray e' (0,0))) (v:=.slice (some ⟨w.heap.size,0,none⟩) n.toNat m.toNat) ?_ ?_
 ·simp [execOp,ho,e1,e2,hrun]
 ·exact fin_ali (us:=[]) k1 k2 (by simp) hdst hd hK
end
end Go.Rd
namespace Go.Rd
def Els (S:Nat→Prop) (w:World) (e:Ty) (oe:Ow):List (List Value)→List e.den→List Nat→Prop
 | [],[],F=>F=[]
 | c::cs,x::xs,F=>∃F1 F2,F=F1++F2∧Rep S w e oe c x F1∧Els S w e oe cs xs F2
 | _,_,_=>False
theorem Els.mono {S S':Nat→Prop} {w w':World} {e:Ty} {oe:Ow} (hS:∀b,S b→S' b∧Kept w w' b):∀{css:List (List Value)} {xs:List e.den} {F:List Nat},(∀b∈F,Kept w w' b)→Els S w e oe css xs F→Els S' w' e oe css xs F
 | [],[],_,_,h=>h
 | _::_,_::_,F,hF,h=>by
  obtain ⟨F1,F2,rfl,h1,h2⟩:=h
  exact ⟨F1,F2,rfl,h1.mono hS fun b hb=>hF b (List.mem_append_left _ hb),h2.mono hS fun b hb=>hF b (List.mem_append_right _ hb)⟩
 | [],_::_,_,_,h=>h.elim
 | _::_,[],_,_,h=>h.elim
theorem Els.len {S:Nat→Prop} {w:World} {e:Ty} {oe:Ow}:∀{css:List (List Value)} {xs:List e.den} {F:List Nat},Els S w e oe css xs F→css.length=xs.length∧css.flatten.length=xs.length * e.size
 | [],[],_,_=>by simp
 | _::_,_::_,_,⟨F1,F2,_,h1,h2⟩=>by
  obtain ⟨k1,k2⟩:=h2.len
  have:=h1.length
  exact ⟨by simp [k1],by simp [k2,this,Nat.add_mul];omega⟩
 | [],_::_,_,h=>h.elim
 | _::_,[],_,h=>h.elim
theorem Els.append {S:Nat→Prop} {w:World} {e:Ty} {oe:Ow}:∀{css:List (List Value)} {xs:List e.den} {F:List Nat} {ds:List (List Value)} {ys:List e.den} {G:List Nat},Els S w e oe css xs F→Els S w e oe ds ys G→Els S w e oe (css++ds) (xs++ys) (F++G)
 | [],[],_,_,_,_,h,h'=>by rw [show _=[] from h];exact h'
 | _::_,_::_,_,_,_,_,⟨F1,F2,rfl,h1,h2⟩,h'=>⟨F1,F2++_,by simp,h1,h2.append h'⟩
 | [],_::_,_,_,_,_,h,_=>h.elim
 | _::_,[],_,_,_,_,h,_=>h.elim
theorem Els.weak {S:Nat→Prop} {w:World} {e:Ty} {oe o':Ow} (hwk:wk e o' oe=true):∀{css:List (List Value)} {xs:List e.den} {F:List Nat},Els S w e oe css xs F→F.Nodup→
  ∃F':List Nat,F'.Sublist F∧∀S':Nat→Prop,(∀b,S b→S' b)→(∀b∈F,b ∉ F'→S' b)→Els S' w e o' css xs F'
 | [],[],_,h,_=>⟨_,List.Sublist.refl _,fun _ _ _=>h⟩
 | _::_,_::_,_,⟨F1,F2,rfl,h1,h2⟩,hn=>by
  obtain ⟨n1,n2,n3⟩:=List.nodup_append.1 hn
  obtain ⟨F1',s1,k1⟩:=h1.weak hwk n1
  obtain ⟨F2',s2,k2⟩:=h2.weak hwk n2
  refine ⟨F1'++F2',s1.append s2,fun S' hS hR=>⟨F1',F2',rfl,k1 S' hS fun b hb hb'=>hR b (List.mem_append_left _ hb) fun hm=>?_,k2 S' hS fun b hb hb'=>hR b (List.mem_append_right _ hb) fun hm=>?_⟩⟩
  ·rcases List.mem_append.1 hm with hm | hm
   ·exact hb' hm
   ·exact n3 b hb b (s2.subset hm) rfl
  ·rcases List.mem_append.1 hm with hm | hm
   ·exact n3 b (s1.subset hm) b hb rfl
   ·exact hb' hm
 | [],_::_,_,h,_=>h.elim
 | _::_,[],_,h,_=>h.elim
theorem Els.side {S:Nat→Prop} {w:World} {e:Ty} {oe:Ow}:∀{css:List (List Value)} {xs:List e.den} {F:List Nat} (tl:List Value),Els S w e oe css xs F→∃Fs:List (List Nat),F=Fs.flatten∧Side S w e oe (css.flatten++tl) xs Fs
 | [],[],_,_,h=>⟨[],h,Side.nil⟩
 | c::cs,x::xs,_,tl,⟨F1,F2,rfl,h1,h2⟩=>by
  obtain ⟨Fs,rfl,k1,k2⟩:=h2.side tl
  refine ⟨F1::Fs,rfl,by simp [k1],fun i y Fi hy hF=>?_⟩
  have hl:=h1.length
  cases i with
  | zero=>
   simp at hy hF
   subst hy hF
   rw [Nat.zero_mul,List.drop_zero,List.flatten_cons,List.append_assoc,←hl,List.take_left]
   exact h1
  | succ i=>
   simp at hy hF
   have:=k2 i y Fi hy hF
   rw [List.flatten_cons,List.append_assoc,Nat.add_mul,Nat.one_mul,Nat.add_comm,←List.drop_drop,←hl,List.drop_left,hl]
   exact this
 | [],_::_,_,_,h=>h.elim
 | _::_,[],_,_,h=>h.elim
theorem Side.els {S:Nat→Prop} {w:World} {e:Ty} {oe:Ow}:∀{xs:List e.den} {Fs:List (List Nat)} {f:Nat→List Value},Fs.length=xs.length→(∀i y Fi,xs[i]?=some y→Fs[i]?=some Fi→Rep S w e oe (f i) y Fi)→
  Els S w e oe ((List.range xs.length).map f) xs Fs.flatten
 | [],[],_,_,_=>rfl
 | x::xs,F::Fs,f,hl,h=>by
  rw [List.length_cons,List.range_succ_eq_map,List.map_cons,List.map_map]
  exact ⟨F,Fs.flatten,rfl,h 0 x F rfl rfl,Side.els (f:=f∘Nat.succ) (by simpa using hl) (fun i y Fi h1 h2=>h (i+1) y Fi (by simpa using h1) (by simpa using h2))⟩
 | [],_::_,_,hl,_=>by simp at hl
 | _::_,[],_,hl,_=>by simp at hl
theorem Els.at {S:Nat→Prop} {w:World} {e:Ty} {oe:Ow} {b off:Nat}:∀{css:List (List Value)} {xs:List e.den} {F:List Nat} (k:Nat),Els S w e oe css xs F→(∀i ci,css[i]?=some ci→At w b (off+(k+i) * e.size) ci)→At w b (off+k * e.size) css.flatten
 | [],[],_,_,_,_=>by intro i v h;simp at h
 | c::cs,x::xs,_,k,⟨F1,F2,_,h1,h2⟩,h=>by
  have e1:=h 0 c rfl
  have e2:=Els.at (k+1) h2 (fun i ci hi=>by have:=h (i+1) ci (by simpa using hi);rwa [show k+(i+1)=k+1+i by omega] at this)
  rw [List.flatten_cons,At.append]
  refine ⟨by simpa using e1,?_⟩
  rw [h1.length]
  rwa [show off+k * e.size+e.size=off+(k+1) * e.size by rw [Nat.add_mul];omega]
 | [],_::_,_,_,h,_=>h.elim
 | _::_,[],_,_,h,_=>h.elim
theorem choose_cells {α:Type} {xs:List α} {Q:Nat→List Value→Prop} (h:∀i,i<xs.length→∃c,Q i c):∃f:Nat→List Value,∀i,i<xs.length→Q i (f i):=
 ⟨fun i=>if hi:i<xs.length then (h i hi).choose else [],fun i hi=>by simp only [hi,dif_pos];exact (h i hi).choose_spec⟩
theorem Rep.own_els {S:Nat→Prop} {w:World} {e:Ty} {oe:Ow} {v:Value} {xs:List e.den} {F:List Nat} (h:Rep S w (.slice e) (.own none oe) [v] xs F):
  ∃a cap,v=.slice a xs.length cap∧xs.length≤cap∧xs.length≤LMAX∧((a=none∧cap=0∧xs=[]∧F=[])∨
   ∃b F2 css,a=some ⟨b,0,none⟩∧F=b::F2∧Els S w e oe css xs F2∧At w b 0 css.flatten∧(∀j,j<cap * e.size→∃u,w.cell? ⟨b,j,none⟩=some u)∧(∀j,w.frozen? ⟨b,j,none⟩=false)):=by
 obtain ⟨a,cap,hv,h1,h2,h3⟩:=h
 simp only [List.cons.injEq,and_true] at hv
 refine ⟨a,cap,hv,h1,h2,?_⟩
 rcases h3 with ⟨g1,g2,g3⟩ | ⟨b,Fs,g1,g2,g3,g4,g5,g6⟩
 ·left
  refine ⟨g1,g2,?_,g3⟩
  rw [g2] at h1
  exact List.eq_nil_of_length_eq_zero (by omega)
 ·right
  obtain ⟨f,hf⟩:=choose_cells (xs:=xs) (Q:=fun i c=>∀y Fi,xs[i]?=some y→Fs[i]?=some Fi→At w b (i * e.size) c∧Rep S w e oe c y Fi) (fun i hi=>by
   obtain ⟨_,h2⟩:=g6 i xs[i] (Fs[i]'(by omega)) (List.getElem?_eq_getElem hi) (List.getElem?_eq_getElem (by omega))
   obtain ⟨c,k1,k2⟩:=h2 (by simp)
   refine ⟨c,fun y Fi e1 e2=>?_⟩
   rw [List.getElem?_eq_getElem hi] at e1
   rw [List.getElem?_eq_getElem (by omega)] at e2
   cases e1;cases e2
   exact ⟨k1,k2⟩)
  have hels:Els S w e oe ((List.range xs.length).map f) xs Fs.flatten:=Side.els g3 (fun i y Fi e1 e2=>(hf i (List.getElem?_eq_some_iff.1 e1).1 y Fi e1 e2).2)
  refine ⟨b,Fs.flatten,_,g1,g2,hels,?_,g4,g5⟩
  have:=Els.at (b:=b) (off:=0) 0 hels (fun i ci hi=>by
   rw [List.getElem?_map] at hi
   cases hr:(List.range xs.length)[i]? with
   | none=>rw [hr] at hi;simp at hi
   | some j=>
    rw [hr] at hi
    obtain ⟨hj,e2⟩:=List.getElem?_eq_some_iff.1 hr
    simp at hj e2
    subst e2
    simp only [Option.map_some,Option.some.injEq] at hi
    subst hi
    have:=(hf i hj xs[i] (Fs[i]'(by omega)) (List.getElem?_eq_getElem hj) (List.getElem?_eq_getElem (by omega))).1
    simpa using this)
  simpa using this
theorem Rep.imm_els {S:Nat→Prop} {w:World} {e:Ty} {v:Value} {xs:List e.den} {F:List Nat} (h:Rep S w (.slice e) .imm [v] xs F):
  F=[]∧∃a cap,v=.slice a xs.length cap∧xs.length≤cap∧xs.length≤LMAX∧(xs=[]∨
   ∃b off css,a=some ⟨b,off,none⟩∧Els S w e .imm css xs []∧At w b off css.flatten):=by
 obtain ⟨h0,a,cap,hv,h1,h2,h3⟩:=h
 simp only [List.cons.injEq,and_true] at hv
 refine ⟨h0,a,cap,hv,h1,h2,?_⟩
 rcases h3 with g | ⟨b,off,g1,_,g3⟩
 ·exact .inl g
 ·right
  obtain ⟨f,hf⟩:=choose_cells (xs:=xs) (Q:=fun i c=>∀y,xs[i]?=some y→At w b (off+i * e.size) c∧Rep S w e .imm c y []) (fun i hi=>by
   obtain ⟨c,k1,k2⟩:=g3 i xs[i] (List.getElem?_eq_getElem hi)
   refine ⟨c,fun y e1=>?_⟩
   rw [List.getElem?_eq_getElem hi] at e1
   cases e1
   exact ⟨k1,k2⟩)
  have hels:Els S w e .imm ((List.range xs.length).map f) xs (List.replicate xs.length []).flatten:=Side.els (by simp) (fun i y Fi e1 e2=>by
   have hi:=(List.getElem?_eq_some_iff.1 e1).1
   rw [List.getElem?_replicate,if_pos hi] at e2
   cases e2
   exact (hf i hi y e1).2)
  rw [flatten_nils] at hels
  refine ⟨b,off,_,g1,hels,?_⟩
  have:=Els.at (b:=b) (off:=off) 0 hels (fun i ci hi=>by
   rw [List.getElem?_map] at hi
   cases hr:(List.range xs.length)[i]? with
   | none=>rw [hr] at hi;simp at hi
   | some j=>
    rw [hr] at hi
    obtain ⟨hj,e2⟩:=List.getElem?_eq_some_iff.1 hr
    simp at hj e2
    subst e2
    simp only [Option.map_some,Option.some.injEq] at hi
    subst hi
    have:=(hf i hj xs[i] (List.getElem?_eq_getElem hj)).1
    simpa using this)
  simpa using this
end Go.Rd
namespace Go.Rd
section
variable {P:Program} {T:Tab} {c:Ctx} {sl:Slots} {rt rt':Roots} {ρ:Nat→Loc} {Fo:Nat→List Nat} {X:List Nat} {a:Act} {w:World} {K:Act→World→Prop} {Q:Exit→Act→World→Prop} {o:Oper} {Δ:Dl}
theorem RR.flyWeak {F F':List Nat} (hp:F'.Sublist F) (h:RR c sl rt ρ Fo (F++X) a w):RR c sl rt ρ Fo (F'++X) a w∧(∀b,Stab c w rt Fo (F++X) b→Stab c w rt Fo (F'++X) b)∧(∀b∈F,b ∉ F'→Stab c w rt Fo (F'++X) b):=by
 obtain ⟨h1,h2,h3⟩:=h.release (hp.append_right X)
 refine ⟨h1,h2,fun b hb hb'=>h3 b (List.mem_append_left _ hb) fun hm=>?_⟩
 rcases List.mem_append.1 hm with hm | hm
 ·exact hb' hm
 ·exact (List.nodup_append.1 h.nodupX).2.2 b hb b hm rfl
def GrabOK (rt:Roots) (S:Nat→Prop) (w:World) (ρ:Nat→Loc) (u:V) (v:Value):Prop:=
 (u.flat=true→RawF rt S w ρ u v)∧∀τ l,u=.mix τ l→∃cs,v=.agg cs.toArray∧RawL rt S w ρ l cs
theorem GrabOK.mono {rt:Roots} {S S':Nat→Prop} {w:World} {ρ:Nat→Loc} (hS:∀b,S b→S' b) {u:V} {v:Value} (h:GrabOK rt S w ρ u v):GrabOK rt S' w ρ u v:=
 ⟨fun hf=>(h.1 hf).mono hS,fun τ l e=>by obtain ⟨cs,k1,k2⟩:=h.2 τ l e;exact ⟨cs,k1,k2.mono hS⟩⟩
def GrabOKs (rt:Roots) (S:Nat→Prop) (w:World) (ρ:Nat→Loc):List V→List Value→Prop
 | [],ms=>ms=[]
 | u::l,ms=>∃v r,ms=v::r∧GrabOK rt S w ρ u v∧GrabOKs rt S w ρ l r
theorem GrabOKs.mono {rt:Roots} {S S':Nat→Prop} {w:World} {ρ:Nat→Loc} (hS:∀b,S b→S' b):∀{l:List V} {ms:List Value},GrabOKs rt S w ρ l ms→GrabOKs rt S' w ρ l ms
 | [],_,h=>h
 | _::_,_,⟨v,r,e,h1,h2⟩=>⟨v,r,e,h1.mono hS,h2.mono hS⟩
theorem VRs.grabs (hs:∀r t,rt' r=some t→rt r=some t):∀{l:List V} {ms:List Value},VRs (envOf c sl rt ρ Fo X w) l ms→GrabOKs rt' (Stab c w rt Fo X) w ρ l ms
 | [],_,h=>h
 | _::_,_,⟨v,r,e,h1,h2⟩=>⟨v,r,e,h1.grabs hs,VRs.grabs hs h2⟩
theorem elems_sound (hs:∀r t,rt' r=some t→rt r=some t) {mv:Bool} {e:Ty}:∀{vs:List V} {us us':List (Nat×Root)} {Fo:Nat→List Nat} {X:List Nat} {ms:List Value} {oo:Ow} {xs:List e.den},
  RR c sl (lk us rt) ρ Fo X a w→GrabOKs rt' (Stab c w (lk us rt) Fo X) w ρ vs ms→elems rt' mv e us vs=some (oo,xs,us')→
  ∃Fo' F css,RR c sl (lk us' rt) ρ Fo' (F++X) a w∧ms=css.map (valOf e)∧Els (Stab c w (lk us' rt) Fo' (F++X)) w e oo css xs F∧(∀cs∈css,∀z∈cs,z.oneCell'=true)∧(∀b,Stab c w (lk us rt) Fo X b→Stab c w (lk us' rt) Fo' (F++X) b)
 | [],us,us',Fo,X,ms,oo,xs,h,hg,he=>by
  simp only [elems,Option.some.injEq,Prod.mk.injEq] at he
  obtain ⟨_,rfl,rfl⟩:=he
  exact ⟨Fo,[],[],h,hg,rfl,by simp,fun b hb=>hb⟩
 | v::vs,us,us',Fo,X,ms,oo,xs,h,hg,he=>by
  obtain ⟨z,r,rfl,hz,hr⟩:=hg
  simp only [elems] at he
  cases e1:grab rt' us mv e v with
  | none=>rw [e1] at he;simp at he
  | some q1=>
   obtain ⟨o1,x1,us1⟩:=q1
   rw [e1] at he
   dsimp only at he
   obtain ⟨Fo1,F1,c1,k1,k2,k3,k4,k5⟩:=grab_sound hs h hz e1
   cases e2:elems rt' mv e us1 vs with
   | none=>rw [e2] at he;simp at he
   | some q2=>
    obtain ⟨o2,x2,us2⟩:=q2
    rw [e2] at he
    dsimp only at he
    split at he
    ·rename_i hwk
     rw [Bool.and_eq_true] at hwk
     simp only [Option.some.injEq,Prod.mk.injEq] at he
     obtain ⟨rfl,rfl,rfl⟩:=he
     obtain ⟨Fo2,F2,css,m1,m2,m3,m4,m5⟩:=elems_sound hs k1 (hr.mono k5) e2
     have hperm:(F2++(F1++X)).Perm ((F1++F2)++X):=List.perm_iff_count.2 fun a=>by
      simp only [List.count_append];omega
     have m1':=m1.permX hperm
     have hS:∀b,Stab c w (lk us2 rt) Fo2 (F2++(F1++X)) b→Stab c w (lk us2 rt) Fo2 ((F1++F2)++X) b:=fun b hb=>hb.permX hperm
     have hels:Els (Stab c w (lk us2 rt) Fo2 ((F1++F2)++X)) w e o2 css x2 F2:=m3.mono (fun b hb=>⟨hS b hb,rfl⟩) (fun _ _=>rfl)
     have hrep:Rep (Stab c w (lk us2 rt) Fo2 ((F1++F2)++X)) w e o1 c1 x1 F1:=k3.mono (fun b hb=>⟨hS b (m5 b hb),rfl⟩) (fun _ _=>rfl)
     obtain ⟨n1,n2,n3⟩:=List.nodup_append.1 (List.nodup_append.1 m1'.nodupX).1
     obtain ⟨F1',s1,g1⟩:=hrep.weak hwk.1 n1
     obtain ⟨F2',s2,g2⟩:=hels.weak hwk.2 n2
     obtain ⟨w1,w2,w3⟩:=m1'.flyWeak (s1.append s2)
     refine ⟨Fo2,F1'++F2',c1::css,w1,by rw [k2,m2];rfl,⟨F1',F2',rfl,g1 _ w2 fun b hb hb'=>w3 b (List.mem_append_left _ hb) fun hm=>?_,g2 _ w2 fun b hb hb'=>w3 b (List.mem_append_right _ hb) fun hm=>?_⟩,?_,fun b hb=>w2 b (hS b (m5 b (k5 b hb)))⟩
     ·rcases List.mem_append.1 hm with hm | hm
      ·exact hb' hm
      ·exact n3 b hb b (s2.subset hm) rfl
     ·rcases List.mem_append.1 hm with hm | hm
      ·exact n3 b (s1.subset hm) b hb rfl
      ·exact hb' hm
     ·intro cs hcs z hz
      rcases List.mem_cons.1 hcs with rfl | hcs
      ·exact k4 z hz
      ·exact m4 cs hcs z hz
    ·cases he
theorem range_zip {α:Type}:∀(l:List α) (k:Nat),(List.range' k l.length).zip l=(l.zipIdx k).map fun x=>(x.2,x.1)
 | [],_=>rfl
 | x::l,k=>by
  rw [List.length_cons,List.range'_succ,List.zip_cons_cons,List.zipIdx_cons,List.map_cons,range_zip l (k+1)]
theorem op_buildSlice (hT:TOK P T) (hs:∀r t,rt' r=some t→rt r=some t) (h:RR c sl rt ρ Fo [] a w) {t:TypeId} {n:Nat} {ps:Array (Nat×Operand)} (ho:o.op=.buildSlice t n ps) {e:Ty} (ht:T t=some (.slice e)) {d:Nat} (hdst:o.dst=some d) (hd:DstOK c sl o.dst)
  {vs:List V} (hv:VRs (envOf c sl rt ρ Fo [] w) vs ((ps.toList.map (·.2)).map a.eval)) (hn:n=vs.length) (hidx:ps.toList.map (·.1)=List.range n) (hn0:0<n) (hn1:n * e.size≤16777216)
  {mv:Bool} {oo:Ow} {xs:List e.den} {us:List (Nat×Root)} (hg:elems rt' mv e [] vs=some (oo,xs,us)) (hnone:lk us rt d=none)
  (hK:Good c (upd sl d (some (.ali ⟨d,0,[],0,0⟩ e none))) (upd (lk us rt) d (some (Root.fresh (.slice e) (.own none oo) xs true))) K):o.wp P a w K Q:=by
 obtain ⟨Fo1,F,css,k1,k2,k3,k4,k5⟩:=elems_sound (us:=[]) hs h (hv.grabs hs) hg
 obtain ⟨e',hu,hr,hpos⟩:=(hT.get ht).slice_elem hT
 obtain ⟨i,hi,hzv,hb,his⟩:=hr.zero
 obtain ⟨l1,l2⟩:=k3.len
 have hml:css.length=n:=by
  have h1:=congrArg List.length k2
  have h2:=congrArg List.length hidx
  simp at h1 h2
  omega
 have hcs:∀cs∈css,cs.length=e.size:=by
  have gen:∀(S:Nat→Prop) (css:List (List Value)) (xs:List e.den) (F:List Nat),Els S w e oo css xs F→∀cs∈css,cs.length=e.size:=by
   intro S css
   induction css with
   | nil=>intro xs F _ cs h;simp at h
   | cons c0 css ih=>
    intro xs F h cs hm
    cases xs with
    | nil=>exact h.elim
    | cons x xs=>
     obtain ⟨F1,F2,_,h1,h2⟩:=h
     rcases List.mem_cons.1 hm with rfl | hm
     ·exact h1.length
     ·exact ih xs F2 h2 cs hm
  exact gen _ _ _ _ k3
 have hcells:∀cs∈css,(valOf e cs).cells=cs.toArray:=fun cs hm=>cells_valOf (hcs cs hm) (k4 cs hm) (fun h=>size_of_leaf h hr.leaf)
 have hzl:(valOf e (zcells e)).cells.size=e.size:=by
  rw [cells_valOf (zcells_length e) (zcells_one e) (fun h=>size_of_leaf h hr.leaf)];simp [zcells_length]
 have hparts:(ps.map fun (i,x)=>(i,a.eval x)).toList=((css.map (valOf e)).zipIdx 0).map fun x=>(x.2,x.1):=by
  have h1:ps.toList.map (fun p=>(p.1,a.eval p.2))=((ps.toList.map (·.1)).zip ((ps.toList.map (·.2)).map a.eval)):=by
   simp [List.zip_map',List.map_map]
  rw [Array.toList_map]
  refine Eq.trans h1 ?_
  have h2:n=(css.map (valOf e)).length:=by simp [hml]
  rw [k2,hidx,h2,List.range_eq_range',range_zip]
 have hfill:Instr.fill (fun i_1=>some (i_1 * i.size,i.size)) ((Array.range (n * i.size)).map ((valOf e (zcells e)).cells[·% (valOf e (zcells e)).cells.size]!)) (ps.map fun (i,x)=>(i,a.eval x)).toList=some css.flatten.toArray:=by
  rw [hparts,his,Great.fill_whole hpos]
  ·congr 2
   rw [List.flatMap_map]
   clear hparts k2
   have:∀css:List (List Value),(∀cs∈css,(valOf e cs).cells=cs.toArray)→css.flatMap (fun cs=>(valOf e cs).cells.toList)=css.flatten:=by
    intro css
    induction css with
    | nil=>intro _;rfl
    | cons c0 css ih=>intro h;rw [List.flatMap_cons,h c0 (by simp),ih (fun cs hm=>h cs (by simp [hm]))];rfl
   exact this css hcells
  ·intro v hv
   obtain ⟨cs,hm,rfl⟩:=List.mem_map.1 hv
   rw [hcells cs hm];simp [hcs cs hm]
  ·simp [hml]
 have hrun:=run_buildSlice (P:=P) w t e' n _ _ i _ hu hi hzv (by rw [his];omega) (by rw [his];exact Nat.ne_of_gt (Nat.mul_pos hn0 hpos)) hfill
 obtain ⟨Fs,rfl,hside⟩:=k3.side []
 rw [List.append_nil (as:=css.flatten)] at hside
 obtain ⟨ρ',Fo',m1,m2⟩:=RR.newArr (X:=[]) k1 hnone (cap:=n) (cs:=css.flatten) (by rw [l2,←l1,hml]) (by rw [←l1,hml];exact Nat.le_refl _) (by
  have:n≤n * e.size:=Nat.le_mul_of_pos_right _ hpos
  rw [←l1,hml];simp only [LMAX];omega) hside e'
 refine wp_value (w':=w.alloc (.cells css.flatten.toArray e' (0,0))) (v:=.slice (some ⟨w.heap.size,0,none⟩) n n) ?_ ?_
 ·simp [execOp,ho]
  rw [hrun];rfl
 ·exact fin_ali m1 m2 (by rw [←l1,hml]) hdst hd hK
theorem op_buildSlice0 (hT:TOK P T) (h:RR c sl rt ρ Fo [] a w) {t:TypeId} {ps:Array (Nat×Operand)} (ho:o.op=.buildSlice t 0 ps) {e:Ty} (ht:T t=some (.slice e)) {d:Nat} (hdst:o.dst=some d) (hd:DstOK c sl o.dst)
  (hidx:ps.toList.map (·.1)=[]) (hnone:rt d=none)
  (hK:Good c (upd sl d (some (.ali ⟨d,0,[],0,0⟩ e none))) (upd rt d (some (Root.fresh (.slice e) (.own none (.full e)) [] true))) K):o.wp P a w K Q:=by
 obtain ⟨e',hu,hr,hpos⟩:=(hT.get ht).slice_elem hT
 have hps:ps=#[]:=Array.ext' (by simpa using hidx)
 subst hps
 obtain ⟨ρ',Fo',m1,m2⟩:=RR.newArr (X:=[]) (Fs:=[]) (cs:=[]) (xs:=([]:List e.den)) (oe:=.full e) h hnone (cap:=0) (by simp) (by simp) (Nat.zero_le _) Side.nil e'
 refine wp_value (w':=w.alloc (.cells #[] e' (0,0))) (v:=.slice (some ⟨w.heap.size,0,none⟩) 0 0) ?_ (fin_ali (us:=[]) m1 m2 rfl hdst hd hK)
 simp [execOp,ho,Instr.buildSlice,run_underlying hu,run_sizeOf hr,Instr.fill,newRow]
 congr 2
 apply Array.ext'
 simp
end
end Go.Rd
namespace Go.Rd
def spans:Ty→Nat→List (Nat×Nat)
 | .prod a b,off=>(off,a.size)::spans b (off+a.size)
 | .unit,_=>[]
 | τ,off=>[(off,τ.size)]
theorem set_parts {l:List Value} {cells:Array Value} {A s B:List Value} (hc:cells.toList=A++s++B) (hl:l.length=s.length):
  (((l.toArray).zipIdx).foldl (fun cs (x:Value×Nat)=>cs.setIfInBounds (A.length+x.2) x.1) cells).toList=A++l++B:=by
 obtain ⟨g1,g2⟩:=Great.foldl_set A.length l 0 cells
 rw [←Array.foldl_toList,Array.toList_zipIdx]
 apply List.ext_getElem?
 intro k
 rw [Array.getElem?_toList,g2 k]
 have hsz:cells.size=A.length+s.length+B.length:=by rw [←Array.length_toList,hc];simp [Nat.add_assoc]
 by_cases h1:k<A.length
 ·rw [if_neg (by omega),←Array.getElem?_toList,hc,List.append_assoc,List.append_assoc,List.getElem?_append_left h1,List.getElem?_append_left h1]
 ·by_cases h2:k<A.length+l.length
  ·rw [if_pos (by omega),List.append_assoc,List.getElem?_append_right (by omega),List.getElem?_append_left (by omega)]
   simp
  ·rw [if_neg (by omega),←Array.getElem?_toList,hc,List.getElem?_append_right (by simp;omega),List.getElem?_append_right (by simp;omega)]
   simp [hl]
theorem flatten_split {α:Type}:∀{segs:List (List α)} {j:Nat} {s:List α},segs[j]?=some s→segs.flatten=(segs.take j).flatten++s++(segs.drop (j+1)).flatten∧∀t,(segs.set j t).flatten=(segs.take j).flatten++t++(segs.drop (j+1)).flatten
 | [],_,_,h=>by simp at h
 | x::r,0,s,h=>by simp at h;subst h;simp
 | x::r,j+1,s,h=>by
  obtain ⟨h1,h2⟩:=flatten_split (segs:=r) (j:=j) (by simpa using h)
  exact ⟨by simp [h1],fun t=>by simp [h2 t]⟩
def Lay (places:Nat→Option (Nat×Nat)) (segs:List (List Value)):Prop:=∀j s,segs[j]?=some s→places j=some ((segs.take j).flatten.length,s.length)
theorem flatten_take_set {segs:List (List Value)} {j i:Nat} {s t:List Value} (h:segs[j]?=some s) (hl:t.length=s.length):((segs.set j t).take i).flatten.length=(segs.take i).flatten.length:=by
 induction segs generalizing j i with
 | nil=>simp
 | cons x r ih=>
  cases i with
  | zero=>simp
  | succ i=>
   cases j with
   | zero=>simp at h;subst h;simp [hl]
   | succ j=>simp at h;simpa using ih h
theorem Lay.set {places:Nat→Option (Nat×Nat)} {segs:List (List Value)} (hL:Lay places segs) {j:Nat} {s t:List Value} (h:segs[j]?=some s) (hl:t.length=s.length):Lay places (segs.set j t):=fun i u hu=>by
 rw [flatten_take_set h hl]
 by_cases e:j=i
 ·subst e
  have hj:=(List.getElem?_eq_some_iff.1 h).1
  rw [List.getElem?_set_self hj] at hu
  cases hu
  rw [hL j s h,hl]
 ·rw [List.getElem?_set_ne e] at hu
  exact hL i u hu
theorem fill_segs {places:Nat→Option (Nat×Nat)}:∀(parts:List (Nat×Value)) (segs:List (List Value)),Lay places segs→(∀p∈parts,∃s,segs[p.1]?=some s∧p.2.cells.size=s.length)→
  Instr.fill places segs.flatten.toArray parts=some (parts.foldl (fun s (p:Nat×Value)=>s.set p.1 p.2.cells.toList) segs).flatten.toArray
 | [],segs,_,_=>rfl
 | (j,v)::parts,segs,hL,hp=>by
  obtain ⟨s,h1,h2⟩:=hp (j,v) List.mem_cons_self
  dsimp only at h1 h2
  obtain ⟨k1,k2⟩:=flatten_split h1
  have hfold:(v.cells.zipIdx.foldl (fun cs (x:Value×Nat)=>cs.setIfInBounds ((segs.take j).flatten.length+x.2) x.1) segs.flatten.toArray)=(segs.set j v.cells.toList).flatten.toArray:=by
   apply Array.ext'
   have:=set_parts (l:=v.cells.toList) (cells:=segs.flatten.toArray) (A:=(segs.take j).flatten) (s:=s) (B:=(segs.drop (j+1)).flatten) (by simpa using k1) (by simpa using h2)
   rw [k2]
   simpa using this
  have hlen:(segs.take j).flatten.length+s.length≤segs.flatten.length:=by
   have:=congrArg List.length k1
   simp only [List.length_append] at this
   omega
  unfold Instr.fill
  rw [hL j s h1]
  dsimp only
  rw [if_neg (by
   rw [h2]
   simp only [ne_eq,not_true_eq_false,decide_false,Bool.false_or,List.size_toArray,decide_eq_true_eq,Nat.not_lt,gt_iff_lt]
   exact hlen)]
  have e3:=fill_segs parts (segs.set j v.cells.toList) (hL.set h1 (by simpa using h2)) (fun p hm=>by
   obtain ⟨u,g1,g2⟩:=hp p (List.mem_cons_of_mem _ hm)
   by_cases e:j=p.1
   ·rw [←e] at g1 ⊢
    rw [h1] at g1
    cases g1
    exact ⟨v.cells.toList,by rw [List.getElem?_set_self (List.getElem?_eq_some_iff.1 h1).1],by simp [g2,h2]⟩
   ·exact ⟨u,by rw [List.getElem?_set_ne e];exact g1,g2⟩)
  rw [←hfold] at e3
  rw [List.foldl_cons]
  exact e3
theorem foldl_set_get:∀(parts:List (Nat×Value)) (segs:List (List Value)) (k:Nat),(parts.map (·.1)).Nodup→k<segs.length→
  (parts.foldl (fun s (p:Nat×Value)=>s.set p.1 p.2.cells.toList) segs)[k]?=match parts.find? (fun q=>Nat.beq q.1 k) with
   | some q=>some q.2.cells.toList
   | none=>segs[k]?
 | [],_,_,_,_=>rfl
 | (j,v)::parts,segs,k,hn,hk=>by
  simp only [List.map_cons,List.nodup_cons] at hn
  rw [List.foldl_cons,foldl_set_get parts _ k hn.2 (by simpa using hk),List.find?_cons]
  by_cases e:j=k
  ·subst e
   have hnone:parts.find? (fun q=>Nat.beq q.1 j)=none:=by
    rw [List.find?_eq_none]
    intro q hq hb
    exact hn.1 (List.mem_map.2 ⟨q,hq,Nat.eq_of_beq_eq_true hb⟩)
   rw [hnone]
   simp only [Nat.beq_refl]
   rw [List.getElem?_set_self hk]
  ·have hb:Nat.beq j k=false:=by
    cases hq:Nat.beq j k with
    | false=>rfl
    | true=>exact absurd (Nat.eq_of_beq_eq_true hq) e
   simp only [hb]
   cases parts.find? (fun q=>Nat.beq q.1 k) with
   | some q=>rfl
   | none=>simp only;rw [List.getElem?_set_ne e]
theorem foldl_set_length:∀(parts:List (Nat×Value)) (segs:List (List Value)),(parts.foldl (fun s (p:Nat×Value)=>s.set p.1 p.2.cells.toList) segs).length=segs.length
 | [],_=>rfl
 | p::parts,segs=>by rw [List.foldl_cons,foldl_set_length parts];simp
theorem hasNat_iff {n:Nat}:∀{l:List Nat},hasNat n l=true↔n∈l
 | []=>by simp [hasNat]
 | m::l=>by simp [hasNat,hasNat_iff (l:=l),Nat.beq_eq]
theorem idxOK_iff {n:Nat}:∀{l:List Nat},idxOK n l=true→l.Nodup∧∀i∈l,i<n
 | [],_=>by simp
 | m::l,h=>by
  simp only [idxOK,Bool.and_eq_true,Bool.not_eq_true'] at h
  obtain ⟨⟨h1,h2⟩,h3⟩:=h
  obtain ⟨k1,k2⟩:=idxOK_iff h3
  refine ⟨List.nodup_cons.2 ⟨fun hm=>?_,k1⟩,fun i hi=>?_⟩
  ·rw [hasNat_iff.2 hm] at h2;simp at h2
  ·rcases List.mem_cons.1 hi with rfl | hi
   ·simpa [Nat.blt_eq] using h1
   ·exact k2 i hi
def zsegs:Ty→List (List Value)
 | .prod a b=>zcells a::zsegs b
 | .unit=>[]
 | τ=>[zcells τ]
theorem zsegs_flatten:∀τ:Ty,(zsegs τ).flatten=zcells τ
 | .prod a b=>by simp [zsegs,zsegs_flatten b,zcells]
 | .unit=>rfl
 | .int _=>rfl
 | .bool=>rfl
 | .str=>rfl
 | .slice _=>rfl
 | .st _=>by simp [zsegs]
 | .arr _ _=>by simp [zsegs]
theorem zsegs_length:∀τ:Ty,(zsegs τ).length=nFields τ
 | .prod a b=>by simp [zsegs,nFields,zsegs_length b]
 | .unit=>rfl
 | .int _=>rfl
 | .bool=>rfl
 | .str=>rfl
 | .slice _=>rfl
 | .st _=>rfl
 | .arr _ _=>rfl
end Go.Rd
namespace Go.Rd
section
variable {P:Program} {T:Tab} {c:Ctx} {sl:Slots} {rt rt':Roots} {ρ:Nat→Loc} {Fo:Nat→List Nat} {X:List Nat} {a:Act} {w:World} {K:Act→World→Prop} {Q:Exit→Act→World→Prop} {o:Oper} {Δ:Dl}
theorem part_sound (hs:∀r t,rt' r=some t→rt r=some t) {mv:Bool} {pv:List (Nat×V×Value)} {σ:Ty} {i:Nat} {us us':List (Nat×Root)} {Fo:Nat→List Nat} {X:List Nat} {oo:Ow} {x:σ.den} (hlf:leafTy σ=true)
  (h:RR c sl (lk us rt) ρ Fo X a w) (hp:∀z∈pv,GrabOK rt' (Stab c w (lk us rt) Fo X) w ρ z.2.1 z.2.2)
  (hb:grabPart rt' us mv σ i (pv.map fun z=>(z.1,z.2.1))=some (oo,x,us')):
  ∃Fo' F cs,RR c sl (lk us' rt) ρ Fo' (F++X) a w∧Rep (Stab c w (lk us' rt) Fo' (F++X)) w σ oo cs x F∧(∀z∈cs,z.oneCell'=true)∧(∀b,Stab c w (lk us rt) Fo X b→Stab c w (lk us' rt) Fo' (F++X) b)∧
   (match pv.find? (fun q=>Nat.beq q.1 i) with | some q=>q.2.2.cells.toList=cs | none=>cs=zcells σ):=by
 unfold grabPart at hb
 rw [List.find?_map] at hb
 have hf:((fun q:Nat×V=>Nat.beq q.1 i)∘fun z:Nat×V×Value=>(z.1,z.2.1))=fun z=>Nat.beq z.1 i:=rfl
 rw [hf] at hb
 cases hq:pv.find? (fun q=>Nat.beq q.1 i) with
 | none=>
  rw [hq] at hb
  simp only [Option.map_none,Option.some.injEq,Prod.mk.injEq] at hb
  obtain ⟨rfl,rfl,rfl⟩:=hb
  exact ⟨Fo,[],zcells σ,h,Rep.zero σ,zcells_one σ,fun b hb=>hb,rfl⟩
 | some q=>
  rw [hq] at hb
  simp only [Option.map_some] at hb
  obtain ⟨Fo',F,cs,k1,k2,k3,k4,k5⟩:=grab_sound hs h (hp q (List.mem_of_find?_eq_some hq)) hb
  refine ⟨Fo',F,cs,k1,k3,k4,k5,?_⟩
  dsimp only
  rw [k2,cells_valOf k3.length k4 (fun h=>size_of_leaf h hlf)]
theorem buildAt_sound (hs:∀r t,rt' r=some t→rt r=some t) {mv:Bool} {pv:List (Nat×V×Value)}:∀{τ:Ty} {i:Nat} {us us':List (Nat×Root)} {Fo:Nat→List Nat} {X:List Nat} {oo:Ow} {x:τ.den},
  RR c sl (lk us rt) ρ Fo X a w→(∀z∈pv,GrabOK rt' (Stab c w (lk us rt) Fo X) w ρ z.2.1 z.2.2)→(∀j r,fieldOff τ j=some r→leafTy r.2=true)→buildAt rt' mv τ i us (pv.map fun z=>(z.1,z.2.1))=some (oo,x,us')→
  ∃Fo' F,∃segs:List (List Value),RR c sl (lk us' rt) ρ Fo' (F++X) a w∧Rep (Stab c w (lk us' rt) Fo' (F++X)) w τ oo segs.flatten x F∧(∀z∈segs.flatten,z.oneCell'=true)∧(∀b,Stab c w (lk us rt) Fo X b→Stab c w (lk us' rt) Fo' (F++X) b)∧segs.length=(zsegs τ).length∧
   ∀k s,(zsegs τ)[k]?=some s→∃s',segs[k]?=some s'∧s'.length=s.length∧(match pv.find? (fun q=>Nat.beq q.1 (i+k)) with | some q=>q.2.2.cells.toList=s' | none=>s'=s):=by
 intro τ
 have leafCase:∀(τ:Ty),zsegs τ=[zcells τ]→leafTy τ=true→∀{i:Nat} {us us':List (Nat×Root)} {Fo:Nat→List Nat} {X:List Nat} {oo:Ow} {x:τ.den},RR c sl (lk us rt) ρ Fo X a w→(∀z∈pv,GrabOK rt' (Stab c w (lk us rt) Fo X) w ρ z.2.1 z.2.2)→
   grabPart rt' us mv τ i (pv.map fun z=>(z.1,z.2.1))=some (oo,x,us')→
   ∃Fo' F,∃segs:List (List Value),RR c sl (lk us' rt) ρ Fo' (F++X) a w∧Rep (Stab c w (lk us' rt) Fo' (F++X)) w τ oo segs.flatten x F∧(∀z∈segs.flatten,z.oneCell'=true)∧(∀b,Stab c w (lk us rt) Fo X b→Stab c w (lk us' rt) Fo' (F++X) b)∧segs.length=(zsegs τ).length∧
   ∀k s,(zsegs τ)[k]?=some s→∃s',segs[k]?=some s'∧s'.length=s.length∧(match pv.find? (fun q=>Nat.beq q.1 (i+k)) with | some q=>q.2.2.cells.toList=s' | none=>s'=s):=by
  intro τ hz hlf i us us' Fo X oo x h hp hb
  obtain ⟨Fo',F,cs,k1,k2,k3,k4,k5⟩:=part_sound hs hlf h hp hb
  refine ⟨Fo',F,[cs],k1,by simpa using k2,by simpa using k3,k4,by rw [hz];rfl,fun k s hk=>?_⟩
  rw [hz] at hk
  cases k with
  | zero=>
   simp at hk
   subst hk
   exact ⟨cs,rfl,by rw [k2.length,zcells_length],k5⟩
  | succ k=>simp at hk
 induction τ with
 | unit=>
  intro i us us' Fo X oo x h hp _ hb
  simp only [buildAt,Option.some.injEq,Prod.mk.injEq] at hb
  obtain ⟨rfl,_,rfl⟩:=hb
  exact ⟨Fo,[],[],h,⟨rfl,rfl⟩,by simp,fun b hb=>hb,rfl,fun k s hk=>by simp [zsegs] at hk⟩
 | prod τ1 τ2 ih1 ih2=>
  intro i us us' Fo X oo x h hp hlf hb
  simp only [buildAt] at hb
  cases hg:grabPart rt' us mv τ1 i (pv.map fun z=>(z.1,z.2.1)) with
  | none=>rw [hg] at hb;simp at hb
  | some g=>
   rw [hg] at hb
   obtain ⟨o1,x1,us1⟩:=g
   dsimp only at hb
   obtain ⟨Fo1,F1,c1,k1,k2,k3,k4,k5⟩:=part_sound hs (hlf 0 (0,τ1) rfl) h hp hg
   cases e2:buildAt rt' mv τ2 (i+1) us1 (pv.map fun z=>(z.1,z.2.1)) with
   | none=>rw [e2] at hb;simp at hb
   | some q2=>
    obtain ⟨o2,x2,us2⟩:=q2
    rw [e2] at hb
    simp only [Option.some.injEq,Prod.mk.injEq] at hb
    obtain ⟨rfl,rfl,rfl⟩:=hb
    obtain ⟨Fo2,F2,segs,m1,m2,m3,m4,m5,m6⟩:=ih2 k1 (fun z hz=>(hp z hz).mono k4) (fun j r hr=>hlf (j+1) (τ1.size+r.1,r.2) (by simp [fieldOff,hr])) e2
    have hperm:(F2++(F1++X)).Perm ((F1++F2)++X):=List.perm_iff_count.2 fun a=>by
     simp only [List.count_append];omega
    have hS:∀b,Stab c w (lk us2 rt) Fo2 (F2++(F1++X)) b→Stab c w (lk us2 rt) Fo2 ((F1++F2)++X) b:=fun b hb=>hb.permX hperm
    refine ⟨Fo2,F1++F2,c1::segs,m1.permX hperm,⟨c1,segs.flatten,F1,F2,rfl,rfl,k2.mono (fun b hb=>⟨hS b (m4 b hb),rfl⟩) (fun _ _=>rfl),m2.mono (fun b hb=>⟨hS b hb,rfl⟩) (fun _ _=>rfl)⟩,?_,fun b hb=>hS b (m4 b (k4 b hb)),by simp [zsegs,m5],fun k s hk=>?_⟩
    ·intro z hz
     rw [List.flatten_cons] at hz
     rcases List.mem_append.1 hz with hz | hz
     ·exact k3 z hz
     ·exact m3 z hz
    ·cases k with
     | zero=>
      simp [zsegs] at hk
      subst hk
      exact ⟨c1,rfl,by rw [k2.length,zcells_length],k5⟩
     | succ k=>
      simp only [zsegs,List.getElem?_cons_succ] at hk
      obtain ⟨s',g1,g2,g3⟩:=m6 k s hk
      exact ⟨s',by simpa using g1,g2,by rw [show i+(k+1)=i+1+k by omega];exact g3⟩
 | int k=>intro i us us' Fo X oo x h hp _ hb;exact leafCase (.int k) rfl rfl h hp hb
 | bool=>intro i us us' Fo X oo x h hp _ hb;exact leafCase .bool rfl rfl h hp hb
 | str=>intro i us us' Fo X oo x h hp _ hb;exact leafCase .str rfl rfl h hp hb
 | slice e _=>intro i us us' Fo X oo x h hp _ hb;exact leafCase (.slice e) rfl rfl h hp hb
 | st t _=>intro i us us' Fo X oo x h hp _ hb;exact leafCase (.st t) rfl rfl h hp hb
 | arr n e _=>intro i us us' Fo X oo x h hp _ hb;exact leafCase (.arr n e) rfl rfl h hp hb
theorem places_ok (hT:TOK P T):∀{fs:List Field} {τ:Ty} {off:Nat},fieldsOK T fs τ off=true→
  fs.mapM (fun f=>(P.info? f.type).map fun i=>(f.offset,i.size))=some (spans τ off)
 | [],.unit,off,_=>rfl
 | [],.int _,_,h=>by simp [fieldsOK] at h
 | [],.bool,_,h=>by simp [fieldsOK] at h
 | [],.str,_,h=>by simp [fieldsOK] at h
 | [],.slice _,_,h=>by simp [fieldsOK] at h
 | [],.prod _ _,_,h=>by simp [fieldsOK] at h
 | [],.st _,_,h=>by simp [fieldsOK] at h
 | [],.arr _ _,_,h=>by simp [fieldsOK] at h
 | [f],τ,off,h=>by
  simp only [fieldsOK,Bool.and_eq_true] at h
  obtain ⟨⟨⟨h1,h2⟩,h3⟩,h5⟩:=h
  split at h2
  ·rename_i σ hσ
   have:=Ty.eq_of_beq h2
   subst this
   have hs:=(hT.get hσ).size
   have e:=Nat.eq_of_beq_eq_true h1
   cases hi:P.info? f.type with
   | none=>rw [hi] at hs;simp at hs
   | some i=>
    rw [hi] at hs
    simp at hs
    simp [hi,hs,e]
    cases σ<;>first | rfl | simp [leafTy] at h5
  ·cases h2
 | f::g::r,τ,off,h=>by
  cases τ with
  | prod a b=>
   simp only [fieldsOK,Bool.and_eq_true] at h
   obtain ⟨⟨⟨h1,h2⟩,h3⟩,h4⟩:=h
   split at h2
   ·rename_i σ hσ
    have:=Ty.eq_of_beq h2
    subst this
    have hs:=(hT.get hσ).size
    have e:=Nat.eq_of_beq_eq_true h1
    have ih:=places_ok hT h4
    cases hi:P.info? f.type with
    | none=>rw [hi] at hs;simp at hs
    | some i=>
     rw [hi] at hs
     simp at hs
     rw [List.mapM_cons,ih]
     simp [hi,hs,e,spans]
   ·cases h2
  | _=>simp [fieldsOK] at h
theorem spans_get:∀{τ:Ty} {off j:Nat} {s:List Value},(zsegs τ)[j]?=some s→(spans τ off)[j]?=some (off+((zsegs τ).take j).flatten.length,s.length)
 | .prod a b,off,0,s,h=>by simp [zsegs] at h;subst h;simp [spans,zcells_length]
 | .prod a b,off,j+1,s,h=>by
  simp only [zsegs,List.getElem?_cons_succ] at h
  simp [spans,zsegs,spans_get (off:=off+a.size) h,zcells_length]
  omega
 | .unit,_,_,s,h=>by simp [zsegs] at h
 | .int k,off,j,s,h=>by cases j<;>simp [zsegs] at h;subst h;simp [spans,zcells_length]
 | .bool,off,j,s,h=>by cases j<;>simp [zsegs] at h;subst h;simp [spans,zcells_length]
 | .str,off,j,s,h=>by cases j<;>simp [zsegs] at h;subst h;simp [spans,zcells_length]
 | .slice e,off,j,s,h=>by cases j<;>simp [zsegs] at h;subst h;simp [spans,zcells_length]
 | .st t,off,j,s,h=>by cases j<;>simp [zsegs] at h;subst h;simp [spans,zcells_length]
 | .arr n e,off,j,s,h=>by cases j<;>simp [zsegs] at h;subst h;simp [spans,zcells_length]
theorem find_self:∀{parts:List (Nat×Value)} {p:Nat×Value},(parts.map (·.1)).Nodup→p∈parts→parts.find? (fun q=>Nat.beq q.1 p.1)=some p
 | [],_,_,h=>by simp at h
 | q::l,p,hn,h=>by
  simp only [List.map_cons,List.nodup_cons] at hn
  rw [List.find?_cons]
  rcases List.mem_cons.1 h with rfl | h
  ·simp [Nat.beq_refl]
  ·have hne:Nat.beq q.1 p.1=false:=by
    cases hb:Nat.beq q.1 p.1 with
    | false=>rfl
    | true=>exact absurd (List.mem_map.2 ⟨p,h,(Nat.eq_of_beq_eq_true hb).symm⟩) hn.1
   simp only [hne]
   exact find_self hn.2 h
theorem built_ok (hT:TOK P T) {t:TypeId} {τ:Ty} (ht:T t=some (.st τ)) {parts:List (Nat×Value)} (hn:(parts.map (·.1)).Nodup) {segs:List (List Value)} (hl:segs.length=(zsegs τ).length) (hi:∀p∈parts,p.1<(zsegs τ).length)
  (hseg:∀k s,(zsegs τ)[k]?=some s→∃s',segs[k]?=some s'∧s'.length=s.length∧(match parts.find? (fun q=>Nat.beq q.1 k) with | some q=>q.2.cells.toList=s' | none=>s'=s)):
  P.built t parts=some segs.flatten.toArray:=by
 have hrow:=hT.get ht
 obtain ⟨d,hd,hk⟩:=hrow.desc
 obtain ⟨i,hinf,hz,_,_⟩:=hrow.zero
 cases d<;>simp [descOK] at hk
 rename_i fs
 have hpl:=places_ok hT hk
 have hLay:Lay (fun x=>(spans τ 0).toArray[x]?) (zsegs τ):=fun j s hj=>by
  have:=spans_get (off:=0) hj
  simpa using this
 have hfill:=fill_segs (places:=fun x=>(spans τ 0).toArray[x]?) parts (zsegs τ) hLay (fun p hp=>by
  have hlt:=hi p hp
  refine ⟨(zsegs τ)[p.1],List.getElem?_eq_getElem hlt,?_⟩
  obtain ⟨s',g1,g2,g3⟩:=hseg p.1 _ (List.getElem?_eq_getElem hlt)
  have hfind:parts.find? (fun q=>Nat.beq q.1 p.1)=some p:=by
   exact find_self hn hp
  rw [hfind] at g3
  dsimp only at g3
  rw [←g2,←g3];simp)
 have hres:(parts.foldl (fun s (p:Nat×Value)=>s.set p.1 p.2.cells.toList) (zsegs τ))=segs:=by
  apply List.ext_getElem?
  intro k
  by_cases hk:k<(zsegs τ).length
  ·rw [foldl_set_get parts (zsegs τ) k hn hk]
   obtain ⟨s',g1,g2,g3⟩:=hseg k _ (List.getElem?_eq_getElem hk)
   rw [g1]
   cases hf:parts.find? (fun q=>Nat.beq q.1 k) with
   | some q=>rw [hf] at g3;dsimp only at g3 ⊢;rw [g3]
   | none=>rw [hf] at g3;dsimp only at g3 ⊢;rw [g3,List.getElem?_eq_getElem hk]
  ·rw [List.getElem?_eq_none (by rw [foldl_set_length];omega),List.getElem?_eq_none (by omega)]
 rw [hres] at hfill
 unfold Program.built
 rw [hinf,hd]
 dsimp only
 rw [hz,hpl]
 dsimp only
 rw [←hfill]
 congr 1
 rw [zsegs_flatten];rfl
end
end Go.Rd
namespace Go.Rd
theorem leavesR_sound {E:Env} {cs:List Value} {t:Root} {r:Nat} (hL:E.ρ r=.reg cs):
  ∀{σ:Ty} {o:Ow} {y:σ.den} {p:Place} {l:List V} {m:List Value} {F:List Nat},leavesV t σ o y p=some l→p.root=r→p.steps=[]→Rep E.S E.w σ o m y F→(∀k v,m[k]?=some v→cs[p.off+k]?=some v)→
   VRs E l m
 | .slice e,o,y,p,l,m,F,hl,hr,hst,hrep,hat=>by
  cases o with
  | imm=>
   simp only [leavesV,Option.some.injEq] at hl
   subst hl
   have hl1:=hrep.length
   simp only [Ty.size] at hl1
   obtain ⟨u,rfl⟩:=List.length_eq_one_iff.1 hl1
   exact ⟨u,[],rfl,⟨[u],rfl,allImm_rep (τ:=.slice e) (o:=.imm) rfl hrep⟩,rfl⟩
  | dead=>simp [leavesV] at hl
  | pr _ _=>simp [leavesV] at hl
  | own hh oe=>
   cases hh with
   | some _=>simp [leavesV] at hl
   | none=>
    simp only [leavesV,Option.some.injEq] at hl
    subst hl
    obtain ⟨a,cap,rfl,_⟩:=hrep
    refine ⟨_,[],rfl,fun hv=>⟨a,_,cap,?_,rfl⟩,rfl⟩
    have hr':(p.now t).root=r:=hr
    rw [hr',hL]
    exact hdrAt_reg hst (by have:=hat 0 _ rfl;rwa [Nat.add_zero] at this)
 | .prod σ1 σ2,o,y,p,l,m,F,hl,hr,hst,hrep,hat=>by
  obtain ⟨c1,c2,F1,F2,rfl,rfl,h1,h2⟩:=hrep
  simp only [leavesV] at hl
  cases e1:leavesV t σ1 o.fst y.1 p with
  | none=>rw [e1] at hl;simp at hl
  | some l1=>
   cases e2:leavesV t σ2 o.snd y.2 (p.shift σ1.size) with
   | none=>rw [e1,e2] at hl;simp at hl
   | some l2=>
    rw [e1,e2] at hl
    simp only [Option.some.injEq] at hl
    subst hl
    refine (leavesR_sound hL e1 hr hst h1 fun k v hk=>?_).append (leavesR_sound hL e2 (by rw [Place.shift_root];exact hr) (by rw [Place.shift_nil hst];exact hst) h2 fun k v hk=>?_)
    ·refine hat k v ?_
     rw [List.getElem?_append_left (List.getElem?_eq_some_iff.1 hk).1];exact hk
    ·have:=hat (c1.length+k) v (by rw [List.getElem?_append_right (by omega)];rw [Nat.add_sub_cancel_left];exact hk)
     rw [Place.shift_nil hst]
     rw [h1.length] at this
     show cs[p.off+σ1.size+k]?=some v
     rw [Nat.add_assoc];exact this
 | .st s,o,y,p,l,m,F,hl,hr,hst,hrep,hat=>leavesR_sound (σ:=s) hL hl hr hst hrep hat
 | .unit,o,y,p,l,m,F,hl,hr,hst,hrep,hat=>by
  simp only [leavesV,Option.some.injEq] at hl
  subst hl
  exact hrep.1
 | .arr _ _,o,y,p,l,m,F,hl,hr,hst,hrep,hat=>by simp [leavesV] at hl
 | .int k,o,y,p,l,m,F,hl,hr,hst,hrep,hat=>by
  cases o<;>simp only [leavesV,Option.some.injEq] at hl<;>first | (simp at hl;done) | (subst hl;exact ⟨_,[],(hrep.2.2 (by simp)).1,⟨_,rfl,rfl,rfl,fun _=>⟨rfl,(hrep.2.2 (by simp)).2⟩⟩,rfl⟩)
 | .bool,o,y,p,l,m,F,hl,hr,hst,hrep,hat=>by
  cases o<;>simp only [leavesV,Option.some.injEq] at hl<;>first | (simp at hl;done) | (subst hl;exact ⟨_,[],(hrep.2.2 (by simp)),⟨_,rfl,rfl,rfl,fun _=>rfl⟩,rfl⟩)
 | .str,o,y,p,l,m,F,hl,hr,hst,hrep,hat=>by
  cases o<;>simp only [leavesV,Option.some.injEq] at hl<;>first | (simp at hl;done) | (subst hl;exact ⟨_,[],(hrep.2.2 (by simp)).1,⟨_,rfl,rfl,rfl,fun _=>⟨rfl,(hrep.2.2 (by simp)).2⟩⟩,rfl⟩)
section
variable {P:Program} {T:Tab} {c:Ctx} {sl:Slots} {rt rt':Roots} {ρ:Nat→Loc} {Fo:Nat→List Nat} {X:List Nat} {a:Act} {w:World} {K:Act→World→Prop} {Q:Exit→Act→World→Prop} {o:Oper} {Δ:Dl}
theorem fieldsOK_leaf {τ:Ty} {fs:List Field} {off:Nat} (hT:TOK P T) (h:fieldsOK T fs τ off=true):∀j r,fieldOff τ j=some r→leafTy r.2=true:=fun j r hr=>by
 obtain ⟨fld,_,_,g3,_⟩:=fieldsOK_get (k:=r.1) (σ:=r.2) h hr
 exact (hT.get g3).leaf
theorem zip_build:∀{ps:List (Nat×Operand)} {vs:List V} {E:Env},VRs E vs ((ps.map (·.2)).map a.eval)→
  ∃pv:List (Nat×V×Value),(ps.map (·.1)).zip vs=pv.map (fun z=>(z.1,z.2.1))∧ps.map (fun p=>(p.1,a.eval p.2))=pv.map (fun z=>(z.1,z.2.2))∧pv.map (·.1)=ps.map (·.1)∧∀z∈pv,VR E z.2.1 z.2.2
 | [],[],_,_=>⟨[],rfl,rfl,rfl,by simp⟩
 | [],_::_,_,h=>by obtain ⟨v,r,e,_⟩:=h;simp at e
 | p::ps,[],_,h=>by simp [VRs] at h
 | p::ps,u::vs,E,h=>by
  obtain ⟨v,r,e,h1,h2⟩:=h
  simp only [List.map_cons,List.cons.injEq] at e
  obtain ⟨rfl,rfl⟩:=e
  obtain ⟨pv,k1,k2,k3,k4⟩:=zip_build h2
  refine ⟨(p.1,u,a.eval p.2)::pv,by simp [k1],by simp [k2],by simp [k3],fun z hz=>?_⟩
  rcases List.mem_cons.1 hz with rfl | hz
  ·exact h1
  ·exact k4 z hz
theorem build_run (hT:TOK P T) (hs:∀r t,rt' r=some t→rt r=some t) (h:RR c sl rt ρ Fo [] a w) {t:TypeId} {ps:Array (Nat×Operand)} {τ:Ty} (ht:T t=some (.st τ))
  {vs:List V} (hv:VRs (envOf c sl rt ρ Fo [] w) vs ((ps.toList.map (·.2)).map a.eval)) (hidx:idxOK (nFields τ) (ps.toList.map (·.1))=true)
  {mv:Bool} {oo:Ow} {x:τ.den} {us:List (Nat×Root)} (hg:buildAt rt' mv τ 0 [] ((ps.toList.map (·.1)).zip vs)=some (oo,x,us)):
  ∃Fo' F cs,RR c sl (lk us rt) ρ Fo' (F++[]) a w∧Rep (Stab c w (lk us rt) Fo' (F++[])) w τ oo cs x F∧(Instr.build t (ps.map fun (i,x)=>(i,a.eval x))).run P w=.ok (.agg cs.toArray) w:=by
 obtain ⟨pv,k1,k2,k3,k4⟩:=zip_build hv
 have hrow:=hT.get ht
 obtain ⟨d,hd,hk⟩:=hrow.desc
 cases d<;>simp [descOK] at hk
 rename_i fs
 rw [k1] at hg
 obtain ⟨Fo',F,segs,m1,m2,m3,m4,m5,m6⟩:=buildAt_sound (us:=[]) (i:=0) hs h (fun z hz=>(k4 z hz).grabs hs) (fieldsOK_leaf hT hk) hg
 refine ⟨Fo',F,segs.flatten,m1,m2,run_build w t _ _ ?_⟩
 obtain ⟨n1,n2⟩:=idxOK_iff hidx
 have hparts:(ps.map fun (i,x)=>(i,a.eval x)).toList=pv.map (fun z=>(z.1,z.2.2)):=by
  rw [Array.toList_map];exact k2
 rw [hparts]
 refine built_ok hT ht (by rw [List.map_map];show (pv.map (·.1)).Nodup;rw [k3];exact n1) m5 (fun p hp=>?_) (fun k s hk=>?_)
 ·obtain ⟨z,hz,rfl⟩:=List.mem_map.1 hp
  rw [zsegs_length]
  exact n2 z.1 (by rw [←k3];exact List.mem_map.2 ⟨z,hz,rfl⟩)
 ·obtain ⟨s',g1,g2,g3⟩:=m6 k s hk
  refine ⟨s',g1,g2,?_⟩
  rw [List.find?_map]
  have hf:((fun q:Nat×Value=>Nat.beq q.1 k)∘fun z:Nat×V×Value=>(z.1,z.2.2))=fun z=>Nat.beq z.1 k:=rfl
  rw [hf]
  rw [Nat.zero_add] at g3
  cases hq:pv.find? (fun q=>Nat.beq q.1 k) with
  | none=>rw [hq] at g3;exact g3
  | some q=>rw [hq] at g3;exact g3
theorem op_build_imm (hT:TOK P T) (hs:∀r t,rt' r=some t→rt r=some t) (h:RR c sl rt ρ Fo [] a w) {t:TypeId} {ps:Array (Nat×Operand)} (ho:o.op=.build t ps) {τ:Ty} (ht:T t=some (.st τ)) (hd:DstOK c sl o.dst)
  {vs:List V} (hv:VRs (envOf c sl rt ρ Fo [] w) vs ((ps.toList.map (·.2)).map a.eval)) (hidx:idxOK (nFields τ) (ps.toList.map (·.1))=true)
  {mv:Bool} {oo:Ow} {x:τ.den} {us:List (Nat×Root)} (hg:buildAt rt' mv τ 0 [] ((ps.toList.map (·.1)).zip vs)=some (oo,x,us)) (ha:allImm τ oo=true)
  (hy:Yields (ret1 o.dst (.dat (.st τ) x) us) Δ) (hK:Good c (Δ.slots sl) (lk Δ.rt rt) K):o.wp P a w K Q:=by
 obtain ⟨Fo',F,cs,k1,k2,k3⟩:=build_run hT hs h ht hv hidx hg
 obtain ⟨g1,g2,_⟩:=k1.release (X':=[]) (List.nil_sublist _)
 refine wp_value (w':=w) (v:=.agg cs.toArray) ?_ (fin1 rfl g1 hd (u:=.dat (.st τ) x) (v:=.agg cs.toArray) ⟨cs,rfl,?_⟩ trivial (fun _=>rfl) hy hK)
 ·simp [execOp,ho,k3]
 ·exact (allImm_rep (τ:=.st τ) (o:=oo) ha (show Rep _ w (.st τ) oo cs x F from k2)).mono (fun b hb=>⟨g2 b hb,rfl⟩) (fun _ _=>rfl)
theorem op_build_own (hT:TOK P T) (hs:∀r t,rt' r=some t→rt r=some t) (h:RR c sl rt ρ Fo [] a w) {t:TypeId} {ps:Array (Nat×Operand)} (ho:o.op=.build t ps) {τ:Ty} (ht:T t=some (.st τ)) {d:Nat} (hdst:o.dst=some d) (hd:DstOK c sl o.dst)
  {vs:List V} (hv:VRs (envOf c sl rt ρ Fo [] w) vs ((ps.toList.map (·.2)).map a.eval)) (hidx:idxOK (nFields τ) (ps.toList.map (·.1))=true)
  {mv:Bool} {oo:Ow} {x:τ.den} {us:List (Nat×Root)} (hg:buildAt rt' mv τ 0 [] ((ps.toList.map (·.1)).zip vs)=some (oo,x,us)) (hnone:lk us rt d=none) {l:List V}
  (hl:leavesV (.fresh (.st τ) oo x true) τ oo x ⟨d,0,[],0,0⟩=some l)
  (hK:Good c (upd sl d (some (.mix (.st τ) l))) (upd (lk us rt) d (some (Root.fresh (.st τ) oo x true))) K):o.wp P a w K Q:=by
 obtain ⟨Fo',F,cs,k1,k2,k3⟩:=build_run hT hs h ht hv hidx hg
 have k4:=k1.newRoot d hnone (Root.fresh (.st τ) oo x true) (.reg cs) ⟨k2,fun b hb j hkk=>k1.keepX b (by simp [hb]) j hkk⟩
 refine wp_value (w':=w) (v:=.agg cs.toArray) (by simp [execOp,ho,k3]) ?_
 obtain ⟨h1,h2⟩:=hd d hdst
 have hr:=k4.roots d _ (upd_same _ _ _)
 rw [updL_same] at hr
 obtain ⟨q1,q2⟩:=leavesV_ok (rt:=upd (lk us rt) d (some (Root.fresh (.st τ) oo x true))) (t:=.fresh (.st τ) oo x true) (p:=⟨d,0,[],0,0⟩) (upd_same _ _ _) hl
 rw [hdst]
 exact hK _ _ _ _ (k4.slot d (some (.mix (.st τ) l)) _ h1 h2 (fun z hz=>by cases hz;exact q2 d) (fun z hz=>by
  cases hz
  exact ⟨cs,rfl,leavesR_sound (E:=envOf c sl (upd (lk us rt) d (some (Root.fresh (.st τ) oo x true))) (updL ρ d (.reg cs)) (updL Fo' d F) [] w) (r:=d) (updL_same ρ d (.reg cs)) hl rfl rfl hr.1 (fun k v hk=>by rw [Nat.zero_add];exact hk)⟩) (fun z hz=>by cases hz;exact q1))
end
end Go.Rd
namespace Go.Rd
section
variable {P:Program} {T:Tab} {c:Ctx} {sl:Slots} {rt rt':Roots} {ρ:Nat→Loc} {Fo:Nat→List Nat} {X:List Nat} {a:Act} {w:World} {K:Act→World→Prop} {Q:Exit→Act→World→Prop} {o:Oper} {Δ:Dl}
theorem nextcap_le {need cap:Nat} (h:cap<need) (h2:need≤4294967296):Builtin.nextslicecap need cap * 4096≤281474976710656:=by
 unfold Builtin.nextslicecap
 split
 ·omega
 ·split
  ·omega
  ·have step:∀c,c+(c+768) / 4≤c * 5 / 4+192:=fun c=>by omega
   have key:Builtin.growBy need 4 cap≤5 * 5 * 5 * 5 * (cap+768) / 256:=by
    simp only [Builtin.growBy]
    split
    ·omega
    ·split
     ·omega
     ·split
      ·omega
      ·split
       ·omega
       ·omega
   omega
theorem Els.own {S:Nat→Prop} {e:Ty} {m:Ow} {css:List (List Value)} {xs:List e.den} {F:List Nat} {b cap:Nat} (h:Els S w e m css xs F) (hat:At w b 0 css.flatten) (hc:∀j,j<cap * e.size→∃u,w.cell? ⟨b,j,none⟩=some u)
  (hf:∀j,w.frozen? ⟨b,j,none⟩=false) (h1:xs.length≤cap) (h2:xs.length≤LMAX):Rep S w (.slice e) (.own none m) [.slice (some ⟨b,0,none⟩) xs.length cap] xs (b::F):=by
 have hlen:=h.len
 obtain ⟨Fs,rfl,k1,k2⟩:=h.side []
 rw [List.append_nil] at k2
 refine ⟨some ⟨b,0,none⟩,cap,rfl,h1,h2,.inr ⟨b,Fs,rfl,rfl,k1,hc,hf,fun i y Fi hy hF=>⟨fun h=>by simp at h,fun _=>⟨_,?_,k2 i y Fi hy hF⟩⟩⟩⟩
 intro j v hj
 have hj':=(List.getElem?_eq_some_iff.1 hj).1
 rw [List.getElem?_take_of_lt (by simp at hj';omega),List.getElem?_drop] at hj
 have:=hat _ v hj
 rw [Nat.zero_add] at this
 exact this
theorem RR.append (hT:TOK P T) {F1 F2:List Nat} (h:RR c sl rt ρ Fo ((F1++F2)++X) a w) {d:Nat} (hd:rt d=none) {t tx ty:TypeId} {e:Ty} (ht:T t=some (.slice e)) {oe ox m:Ow} (hw1:wk e m oe=true) (hw2:wk e m ox=true) {v xv:Value} {xs ys:List e.den}
  (h1:Rep (Stab c w rt Fo ((F1++F2)++X)) w (.slice e) (.own none oe) [v] xs F1) {css:List (List Value)} (h2:Els (Stab c w rt Fo ((F1++F2)++X)) w e ox css ys F2) (hsrc:Src P e.size tx xv ys.length css.flatten w)
  (hn:xs.length+ys.length≤4294967296):
  ∃v' w' ρ' Fo' ad cap,(Builtin.append_ #[t,tx] ty #[v,xv]).run P w=.ok v' w'∧RR c sl (upd rt d (some (Root.fresh (.slice e) (.own none m) (xs++ys) true))) ρ' Fo' X a w'∧ρ' d=.reg [.slice ad (xs++ys).length cap]∧v'=.slice ad (xs++ys).length cap:=by
 obtain ⟨e',hu,hr,hpos⟩:=(hT.get ht).slice_elem hT
 obtain ⟨i,hi,hzv,hb,his⟩:=hr.zero
 obtain ⟨ad,cap,rfl,hlen,hmax,hcase⟩:=h1.own_els
 obtain ⟨yl1,yl2⟩:=h2.len
 rw [←his] at hsrc
 have hn':(xs++ys).length≤LMAX:=by simp [LMAX];omega
 obtain ⟨n1,n2,n3⟩:=List.nodup_append.1 (List.nodup_append.1 h.nodupX).1
 by_cases hroom:xs.length+ys.length≤cap
 ·rcases hcase with ⟨rfl,rfl,rfl,rfl⟩ | ⟨b,Fx,cs1,rfl,rfl,g1,g2,g3,g4⟩
  ·
   have hy0:ys=[]:=List.eq_nil_of_length_eq_zero (by omega)
   subst hy0
   have hf0:css.flatten=[]:=List.eq_nil_of_length_eq_zero (by rw [yl2];simp)
   rw [hf0] at hsrc
   have hrun:=run_append_nothing (P:=P) w t tx ty e' i hu hi none 0 0 (Nat.le_refl _) xv hsrc
   obtain ⟨r1,_,_⟩:=h.flyWeak (F':=[]) (List.nil_sublist _)
   have r2:=RR.newRoot (F:=[]) (X:=X) r1 d hd (Root.fresh (.slice e) (.own none m) [] true) (.reg [.slice none 0 0]) ⟨⟨none,0,rfl,Nat.le_refl _,Nat.zero_le _,.inl ⟨rfl,rfl,rfl⟩⟩,by simp⟩
   exact ⟨_,_,_,_,none,0,hrun,r2,updL_same _ _ _,rfl⟩
  ·
   have hnl:css.flatten.length=ys.length * i.size:=by rw [yl2,his]
   have hle:xs.length * e.size+ys.length * e.size≤cap * e.size:=by rw [←Nat.add_mul];exact Nat.mul_le_mul_right _ hroom
   have hrun:=run_append_room_src (P:=P) w t tx ty e' i hu hi b 0 xs.length cap xv ys.length css.flatten hsrc hroom (fun j hj=>by
    obtain ⟨u,hu⟩:=g3 (0+xs.length * i.size+j) (by rw [his] at *;omega)
    rw [hu];rfl) (fun j _=>g4 _)
   rw [Nat.zero_add,his] at hrun
   obtain ⟨z1,z2,z3,z4⟩:=setCells_same css.flatten b (xs.length * e.size) w
   have hkb:∀k,k≠b→Kept w (w.setCells b (xs.length * e.size) css.flatten) k:=fun k hk=>setCells_kept _ b _ w k hk
   have hw:=h.writeFly (w':=w.setCells b (xs.length * e.size) css.flatten) (fun k hk=>hkb k fun e=>hk (by subst e;simp)) z4 z1 z2 z3
   have hS:∀k,Stab c w rt Fo (((b::Fx)++F2)++X) k→Stab c (w.setCells b (xs.length * e.size) css.flatten) rt Fo (((b::Fx)++F2)++X) k∧Kept w (w.setCells b (xs.length * e.size) css.flatten) k:=fun k hk=>
    ⟨⟨by rw [z4];exact hk.1,hk.2⟩,hkb k fun e=>hk.2.2.2 (by subst e;simp)⟩
   have hb1:=List.nodup_cons.1 n1
   have e1:=g1.mono hS (fun k hk=>hkb k fun e=>hb1.1 (by subst e;exact hk))
   have e2:=h2.mono hS (fun k hk=>hkb k fun e=>n3 b (by simp) k hk e.symm)
   obtain ⟨xl1,xl2⟩:=g1.len
   obtain ⟨Fx',s1,k1⟩:=e1.weak hw1 hb1.2
   obtain ⟨F2',s2,k2⟩:=e2.weak hw2 n2
   have hsub:(b::(Fx'++F2')).Sublist ((b::Fx)++F2):=(s1.append s2).cons_cons b
   obtain ⟨r1,r2,r3⟩:=hw.flyWeak hsub
   have f1:=k1 _ r2 (fun k hk hk'=>r3 k (by simp [hk]) fun hm=>by
    rcases List.mem_cons.1 hm with rfl | hm
    ·exact hb1.1 hk
    ·rcases List.mem_append.1 hm with hm | hm
     ·exact hk' hm
     ·exact n3 k (by simp [hk]) k (s2.subset hm) rfl)
   have f2:=k2 _ r2 (fun k hk hk'=>r3 k (by simp [hk]) fun hm=>by
    rcases List.mem_cons.1 hm with rfl | hm
    ·exact n3 _ (by simp) _ hk rfl
    ·rcases List.mem_append.1 hm with hm | hm
     ·exact n3 k (by simp [s1.subset hm]) k hk rfl
     ·exact hk' hm)
   have f3:=f1.append f2
   have hatA:At (w.setCells b (xs.length * e.size) css.flatten) b 0 (cs1++css).flatten:=by
    rw [List.flatten_append,At.append]
    refine ⟨fun j u hj=>?_,?_⟩
    ·have:=(List.getElem?_eq_some_iff.1 hj).1
     rw [setCells_rest (by omega)]
     exact g2 j u hj
    ·rw [Nat.zero_add,xl2]
     refine setCells_at (m:=(List.range css.flatten.length).map fun j=>(w.cell? ⟨b,xs.length * e.size+j,none⟩).getD undef) ?_ (by simp)
     intro j u hj
     have hj':=(List.getElem?_eq_some_iff.1 hj).1
     simp only [List.length_map,List.length_range] at hj'
     rw [List.getElem?_map,List.getElem?_range hj'] at hj
     simp only [Option.map_some,Option.some.injEq] at hj
     obtain ⟨u',hu'⟩:=g3 (xs.length * e.size+j) (by omega)
     rw [hu'] at hj ⊢
     simp at hj
     rw [hj]
   have hrep:=f3.own (cap:=cap) hatA (fun j hj=>by
    by_cases hin:xs.length * e.size≤j∧j<xs.length * e.size+css.flatten.length
    ·have hl:(cs1++css).flatten.length=xs.length * e.size+css.flatten.length:=by rw [List.flatten_append,List.length_append,xl2]
     have hjl:j<(cs1++css).flatten.length:=by omega
     have:=hatA j _ (List.getElem?_eq_getElem hjl)
     rw [Nat.zero_add] at this
     exact ⟨_,this⟩
    ·rw [setCells_rest (by omega)];exact g3 j hj) (fun j=>by rw [World.frozen?_setCells];exact g4 j) (by simp;omega) hn'
   have r4:=RR.newRoot (F:=b::(Fx'++F2')) (X:=X) r1 d hd (Root.fresh (.slice e) (.own none m) (xs++ys) true) (.reg [.slice (some ⟨b,0,none⟩) (xs++ys).length cap]) ⟨hrep,fun k hk j hkk=>h.keepX k (by
    have:=hsub.subset hk
    exact List.mem_append_left _ this) j hkk⟩
   exact ⟨_,_,_,_,some ⟨b,0,none⟩,cap,hrun,r4,updL_same _ _ _,by simp⟩
 ·
  have hcap0:cap<xs.length+ys.length:=by omega
  have hz0:(valOf e (zcells e)).cells=(zcells e).toArray:=cells_valOf (zcells_length e) (zcells_one e) (fun h=>size_of_leaf h hr.leaf)
  have hfit:Builtin.nextslicecap (xs.length+ys.length) cap * i.bytes≤281474976710656:=Nat.le_trans (Nat.mul_le_mul_left _ hb) (nextcap_le hcap0 hn)
  have holds:∃cs1 F1',F1'.Sublist F1∧Els (Stab c w rt Fo ((F1++F2)++X)) w e oe cs1 xs F1'∧(Builtin.firstCells i.size xs.length (.slice ad xs.length cap)).run P w.drew=.ok cs1.flatten.toArray w.drew:=by
   rcases hcase with ⟨rfl,rfl,rfl,rfl⟩ | ⟨b,Fx,cs1,rfl,rfl,g1,g2,g3,g4⟩
   ·exact ⟨[],[],List.Sublist.refl _,rfl,run_firstCells_none w.drew i.size 0 0 0⟩
   ·refine ⟨cs1,Fx,List.sublist_cons_self _ _,g1,run_firstCells_some w.drew i.size xs.length ⟨b,0,none⟩ xs.length cap cs1.flatten (by rw [g1.len.2,his]) (fun j u hj=>?_)⟩
    rw [Addr.add_lit]
    exact g2 j u hj
  obtain ⟨cs1,F1',hsub1,g1,hold⟩:=holds
  have hrun:=run_append_grow_src (P:=P) w t tx ty e' i _ hu hi hzv ad xs.length cap cs1.flatten hold xv ys.length css.flatten hsrc hcap0 (by omega) hfit
  have hge:=grownCap_ge w (xs.length+ys.length) cap e'
  obtain ⟨Fx',s1,k1⟩:=g1.weak hw1 (n1.sublist hsub1)
  obtain ⟨F2',s2,k2⟩:=h2.weak hw2 n2
  have hsub:(Fx'++F2').Sublist (F1++F2):=(s1.trans hsub1).append s2
  obtain ⟨r1,r2,r3⟩:=h.flyWeak hsub
  have f1:=k1 _ r2 (fun k hk hk'=>r3 k (by simp [hsub1.subset hk]) fun hm=>by
   rcases List.mem_append.1 hm with hm | hm
   ·exact hk' hm
   ·exact n3 k (hsub1.subset hk) k (s2.subset hm) rfl)
  have f2:=k2 _ r2 (fun k hk hk'=>r3 k (by simp [hk]) fun hm=>by
   rcases List.mem_append.1 hm with hm | hm
   ·exact n3 k (hsub1.subset (s1.subset hm)) k hk rfl
   ·exact hk' hm)
  have f3:=f1.append f2
  have f4:=f3.len
  have r4:=r1.drawn (w.drawn+1)
  obtain ⟨Fs,eF,hside⟩:=f3.side (Builtin.zeroCells (valOf e (zcells e)).cells (grownCap w (xs.length+ys.length) cap e'-(xs.length+ys.length))).toList
  have hzl:(Builtin.zeroCells (valOf e (zcells e)).cells (grownCap w (xs.length+ys.length) cap e'-(xs.length+ys.length))).toList.length=(grownCap w (xs.length+ys.length) cap e'-(xs.length+ys.length)) * e.size:=by
   simp [Builtin.zeroCells,hz0,zcells_length]
  have hl:((cs1++css).flatten++(Builtin.zeroCells (valOf e (zcells e)).cells (grownCap w (xs.length+ys.length) cap e'-(xs.length+ys.length))).toList).length=grownCap w (xs.length+ys.length) cap e' * e.size:=by
   rw [List.length_append,f4.2,hzl,←Nat.add_mul,List.length_append];congr 1;omega
  rw [eF] at r4
  obtain ⟨ρ',Fo',m1,m2⟩:=RR.newArr (X:=X) (oe:=m) (w:={ w with drawn:=w.drawn+1 }) r4 hd hl (by simpa using hge) hn' (by
   rw [eF] at hside
   exact Side.mono (S:=Stab c w rt Fo (Fs.flatten++X)) (w:=w) (w':={ w with drawn:=w.drawn+1 }) (fun b hb=>⟨hb,rfl⟩) (fun _ _=>rfl) hside) e'
  refine ⟨_,_,ρ',Fo',some ⟨w.heap.size,0,none⟩,grownCap w (xs.length+ys.length) cap e',hrun,?_,m2,by simp⟩
  have:(World.drew w).alloc (.cells ((cs1.flatten++css.flatten).toArray++Builtin.zeroCells (valOf e (zcells e)).cells (grownCap w (xs.length+ys.length) cap e'-(xs.length+ys.length))) e')=
    ({ w with drawn:=w.drawn+1 }:World).alloc (.cells ((cs1++css).flatten++(Builtin.zeroCells (valOf e (zcells e)).cells (grownCap w (xs.length+ys.length) cap e'-(xs.length+ys.length))).toList).toArray e' (0,0)):=by
   show World.alloc _ _=World.alloc _ _
   congr 2
   apply Array.ext'
   simp
  rw [this]
  exact m1
end
end Go.Rd
namespace Go.Rd
section
variable {P:Program} {T:Tab} {c:Ctx} {sl:Slots} {rt rt':Roots} {ρ:Nat→Loc} {Fo:Nat→List Nat} {X:List Nat} {a:Act} {w:World} {K:Act→World→Prop} {Q:Exit→Act→World→Prop} {o:Oper} {Δ:Dl}
theorem op_take (hT:TOK P T) (hs:∀r t,rt' r=some t→rt r=some t) (h:RR c sl rt ρ Fo [] a w) {t:TypeId} {x:Operand} (ho:o.op=.load t x) {e:Ty} (ht:T t=some (.slice e)) {p:Place}
  (hv:VR (envOf c sl rt ρ Fo [] w) (.ptr p) (a.eval x)) {d:Nat} (hdst:o.dst=some d) (hd:DstOK c sl o.dst) (hnone:rt' d=none→rt d=none) (hy:dlTake rt' d e p=some Δ) (hK:Good c (Δ.slots sl) (lk Δ.rt rt) K):o.wp P a w K Q:=by
 unfold dlTake at hy
 split at hy
 ·rename_i n es hst
  split at hy
  ·rename_i hcond
   simp only [Bool.and_eq_true,Option.isNone_iff_eq_none,Bool.not_eq_true'] at hcond
   obtain ⟨⟨⟨c1,c2⟩,c3⟩,c4⟩:=hcond
   have hes:=Nat.eq_of_beq_eq_true c2
   subst hes
   have hne:d≠p.root:=fun e=>by rw [e,Nat.beq_refl] at c4;cases c4
   split at hy
   ·rename_i t0 ht0
    have ht0:=hs _ _ ht0
    split at hy
    ·rename_i oe xs hsub
     split at hy
     ·rename_i o3 x3 hset
      split at hy
      ·rename_i hnd
       simp only [Option.some.injEq] at hy
       subst hy
       obtain ⟨b,q,hw,ee⟩:=hv (validP_sub hs (okP_valid c1))
       have hw':walkP w (Bof c w rt ρ Fo [] p.root) (ρ p.root) p b q:=hw
       have hlen:n<List.length xs:=by
        have hroot:∃ad len cap,hdrAt w (Bof c w rt ρ Fo [] p.root) (ρ p.root) ⟨p.root,p.off,[],0,0⟩ (.slice ad len cap)∧n<len:=by
         unfold walkP at hw'
         rw [hst] at hw'
         cases hL:ρ p.root with
         | mem b0 o0=>
          rw [hL] at hw'
          obtain ⟨a0,len,cap,g1,g2,_,_⟩:=hw'
          exact ⟨_,len,cap,hdrAt_walk (b:=b0) (q:=o0+p.off) (by unfold walkP;exact ⟨rfl,rfl⟩) g1,g2⟩
         | reg cs=>
          rw [hL] at hw'
          obtain ⟨_,a0,len,cap,g1,g2,_,_⟩:=hw'
          exact ⟨_,len,cap,hdrAt_reg rfl g1,g2⟩
        obtain ⟨ad,len,cap,hh,hlt⟩:=hroot
        obtain ⟨Fm,hrep,_,_⟩:=RR.hdrA (p:=⟨p.root,p.off,[],0,0⟩) h ht0 (show look (.slice (.slice e)) [] t0.τ t0.o t0.x p.off=some (.own none (.own none oe),xs) from hsub) hh
        obtain ⟨a1,cp1,e1,_⟩:=hrep
        simp only [List.cons.injEq,and_true,Value.slice.injEq] at e1
        omega
       obtain ⟨Fo1,Y,m,k1,k2,k3,k4⟩:=RR.hole (e:=.slice e) h ht0 hsub hlen hset hnd
       obtain ⟨q0,hq,hat⟩:=k4 p 0 _ b q rfl hst hw'
       rw [Nat.add_zero] at hq
       subst hq
       have hml:=k2.length
       have hrun:=run_loadAt (w:=w) (hT.get ht) hat hml
       obtain ⟨ad,cap,rfl,hrest⟩:=k2
       have hgd:List.getD (α:=List e.den) xs n []=xs[n]:=by
        rw [List.getD_eq_getElem?_getD,List.getElem?_eq_getElem hlen];rfl
       have k5:=k1.newRoot d (by rw [upd_ne hne];exact hnone c3) (Root.fresh (.slice e) (.own none oe) xs[n] true) (.reg [.slice ad (List.length xs[n]) cap])
        ⟨⟨ad,cap,rfl,hrest⟩,fun b hb=>k1.keepX b (List.mem_append_left _ hb)⟩
       rw [hgd] at hK
       refine wp_value (w':=w) (v:=.slice ad (List.length xs[n]) cap) ?_ (fin_ali (us:=[(p.root,t0.holed o3 x3)]) k5 (updL_same _ _ _) rfl hdst hd hK)
       simp only [execOp,ho,ee]
       have:valOf (.slice e) [.slice ad (List.length xs[n]) cap]=.slice ad (List.length xs[n]) cap:=rfl
       rw [this] at hrun
       simp [hrun]
      ·cases hy
     ·cases hy
    ·cases hy
   ·cases hy
  ·cases hy
 ·cases hy
theorem putU_put {σ:Ty} {v:Ow×σ.den} {n es so:Nat} {τ:Ty} {o:Ow} {x:τ.den} {off i:Nat} {z:Ow×τ.den} {t:Root} (hi:(match subSl τ o x off with
  | some ⟨_,.own (some i) _,_⟩=>some i
  | _=>none)=some i) (hb:Nat.beq i n=true) (h:putU σ v n τ o x off=some z):put σ v [⟨n,es,so,none⟩] τ o x off=some z:=by
 unfold putU at h
 simp only [put]
 split at h
 ·rename_i e i' oe xs hsl
  rw [hsl] at hi
  simp only [Option.some.injEq] at hi
  subst hi
  rw [hsl]
  dsimp only
  split at h
  ·rename_i hc
   have hc':(Nat.beq i' n&&v.1.beq oe&&σ.beq e)=true:=by rw [hb];exact hc
   rw [dif_pos hc']
   exact h
  ·cases h
 ·cases h
theorem op_fill (hT:TOK P T) (hs:∀r t,rt' r=some t→rt r=some t) (h:RR c sl rt ρ Fo [] a w) {t:TypeId} {X Y:Operand} (ho:o.op=.store t X Y) {σ:Ty} (ht:T t=some σ) {p:Place} {u:V}
  (hp:VR (envOf c sl rt ρ Fo [] w) (.ptr p) (a.eval X)) (hv:VR (envOf c sl rt ρ Fo [] w) u (a.eval Y)) (hdst:o.dst=none) {mv:Bool} {i n:Nat}
  (hy:dlFill rt' mv σ p u=some (i,n,Δ)) (hin:Nat.beq i n=true) (hK:Good c (Δ.slots sl) (lk Δ.rt rt) K):o.wp P a w K Q:=by
 unfold dlFill at hy
 split at hy
 ·rename_i n' es so hst
  split at hy
  ·rename_i t00 ht00
   split at hy
   ·split at hy
    ·rename_i hok
     split at hy
     ·rename_i oo x us hg
      obtain ⟨Fo1,F,cs,k1,k2,k3,k4,k5⟩:=grab_sound (us:=[]) hs h (hv.grabs hs) hg
      split at hy
      ·rename_i t0 ht0
       have ht0:=lk_sub hs us _ _ ht0
       split at hy
       ·rename_i i' o' y0 hhole hlk
        split at hy
        ·rename_i hso
         split at hy
         ·rename_i o3 x3 hput
          simp only [Option.some.injEq,Prod.mk.injEq] at hy
          obtain ⟨rfl,rfl,rfl⟩:=hy
          obtain ⟨b,q,hw,e⟩:=hp (validP_sub hs (okP_valid hok))
          have hw':=walkP_mono (w':=w) (B':=fun _=>True) (fun _ _ _ h=>h) (fun _ _=>trivial) hw
          have hput':put σ (oo,x) p.steps t0.τ t0.o t0.x p.off=some (o3,x3):=by
           rw [hst];exact putU_put (t:=t0) hhole hin hput
          obtain ⟨⟨Fo',g1⟩,⟨m,g2,g3⟩,g4⟩:=RR.store (p:=p) k1 ht0 hlk hso hput' hw' k3
          refine wp_skip' (w':=w.setCells b q cs) ?_ ?_
          ·simp only [execOp,ho,e,k2]
           rw [Sem.run_bind,run_storeAt (hT.get ht) k3.length k4 (fun j hj=>by rw [g2.cell (List.getElem?_eq_getElem (by omega))];rfl) g4]
           rfl
          ·rw [hdst];exact hK _ _ _ _ g1
         ·cases hy
        ·cases hy
       ·cases hy
      ·cases hy
     ·cases hy
    ·cases hy
   ·cases hy
  ·cases hy
 ·cases hy
end
end Go.Rd
namespace Go.Rd
theorem Rep.ground {S S':Nat→Prop} {w w':World}:{τ:Ty}→{cs:List Value}→{x:τ.den}→τ.hasSlice=false→Rep S w τ .imm cs x []→Rep S' w' τ .imm cs x []
 | .int _,_,_,_,h=>h
 | .bool,_,_,_,h=>h
 | .str,_,_,_,h=>h
 | .unit,_,_,_,h=>h
 | .prod _ _,_,_,hn,⟨c1,c2,F1,F2,hc,hf,h1,h2⟩=>by
  simp only [Ty.hasSlice,Bool.or_eq_false_iff] at hn
  obtain ⟨rfl,rfl⟩:=List.nil_eq_append_iff.1 hf
  exact ⟨c1,c2,[],[],hc,rfl,Rep.ground hn.1 h1,Rep.ground hn.2 h2⟩
 | .st t,_,_,hn,h=>Rep.ground (τ:=t) hn h
 | .slice e,_,_,hn,_=>by simp [Ty.hasSlice] at hn
 | .arr n e,cs,x,hn,⟨h1,h2,h3⟩=>⟨h1,h2,fun hd=>⟨(h3 hd).1,fun i y hy=>Rep.ground (τ:=e) (by simpa [Ty.hasSlice] using hn) ((h3 hd).2 i y hy)⟩⟩
theorem Els.ground {S S':Nat→Prop} {w w':World} {e:Ty} (hn:e.hasSlice=false):∀{css:List (List Value)} {xs:List e.den},Els S w e .imm css xs []→Els S' w' e .imm css xs []
 | [],[],h=>h
 | _::_,_::_,⟨F1,F2,hf,h1,h2⟩=>by
  obtain ⟨rfl,rfl⟩:=List.nil_eq_append_iff.1 hf
  exact ⟨[],[],rfl,h1.ground hn,h2.ground hn⟩
 | [],_::_,h=>h.elim
 | _::_,[],h=>h.elim
theorem wk_imm_imm:∀e:Ty,wk e .imm .imm=true
 | .int _=>rfl
 | .bool=>rfl
 | .str=>rfl
 | .unit=>rfl
 | .slice _=>rfl
 | .arr _ _=>rfl
 | .st t=>wk_imm_imm t
 | .prod a b=>by simp [wk,Ow.fst,Ow.snd,wk_imm_imm a,wk_imm_imm b]
theorem Els.ones {S:Nat→Prop} {w:World} {e:Ty} {ox:Ow} (hk:wk e .imm ox=true):∀{css:List (List Value)} {xs:List e.den} {F:List Nat},Els S w e ox css xs F→∀u∈css.flatten,u.oneCell'=true
 | [],[],_,_=>by simp
 | c::cs,_::_,_,⟨F1,F2,hf,h1,h2⟩=>by
  intro u hu
  rw [List.flatten_cons] at hu
  rcases List.mem_append.1 hu with hu | hu
  ·exact h1.one (.inr hk) u hu
  ·exact Els.ones hk h2 u hu
 | [],_::_,_,h=>h.elim
 | _::_,[],_,h=>h.elim
section
variable {P:Program} {T:Tab} {c:Ctx} {sl:Slots} {rt rt':Roots} {ρ:Nat→Loc} {Fo:Nat→List Nat} {X:List Nat} {a:Act} {w:World} {K:Act→World→Prop} {Q:Exit→Act→World→Prop} {o:Oper} {Δ:Dl}
theorem src_of {tx e':TypeId} (hk:P.underlying tx=some (.slice e')) {k n cap:Nat} {ad:Option Addr} {news:List Value} (hl:news.length=n * k) (h1:∀u∈news,u.oneCell'=true)
  (h:(n=0)∨∃b off,ad=some ⟨b,off,none⟩∧At w b off news):Src P k tx (.slice ad n cap) n news w:=by
 rcases h with rfl | ⟨b,off,rfl,hat⟩
 ·have:news=[]:=List.eq_nil_of_length_eq_zero (by simpa using hl)
  subst this
  cases ad with
  | none=>exact Src.ofNil w hk cap
  | some ad=>exact Src.ofSlice w hk ad 0 cap [] (by simp) (by intro j u h;simp at h) (by simp)
 ·exact Src.ofSlice w hk ⟨b,off,none⟩ n cap news hl (fun j u hu=>by rw [Addr.add_lit];exact hat j u hu) h1
theorem imm_src {S:Nat→Prop} {e:Ty} {v:Value} {ys:List e.den} {F:List Nat} (h:Rep S w (.slice e) .imm [v] ys F):∃css,Els S w e .imm css ys []∧∀tx e',P.underlying tx=some (.slice e')→Src P e.size tx v ys.length css.flatten w:=by
 obtain ⟨_,ad,cap,rfl,h1,h2,h3⟩:=h.imm_els
 rcases h3 with rfl | ⟨b,off,css,rfl,g1,g2⟩
 ·exact ⟨[],rfl,fun tx e' hk=>src_of hk (by simp) (by simp) (.inl rfl)⟩
 ·exact ⟨css,g1,fun tx e' hk=>src_of hk g1.len.2 (g1.ones (wk_imm_imm e)) (.inr ⟨b,off,rfl,g2⟩)⟩
theorem rdG_raw (hs:∀r t,rt' r=some t→rt r=some t) {us:List (Nat×Root)} (h:RR c sl (lk us rt) ρ Fo X a w) {e:Ty} (hn:e.hasSlice=false) {u:V} {v:Value} {ys:List e.den}
  (hg:rdG rt' us e u=some ys) (hv:RawF rt' (Stab c w (lk us rt) Fo X) w ρ u v):∃ad cap css,v=.slice ad ys.length cap∧Els (Stab c w (lk us rt) Fo X) w e .imm css ys []∧(ys.length=0∨∃b off,ad=some ⟨b,off,none⟩∧At w b off css.flatten):=by
 have fin:∀S,Rep S w (.slice e) .imm [v] ys []→∃ad cap css,v=.slice ad ys.length cap∧Els (Stab c w (lk us rt) Fo X) w e .imm css ys []∧(ys.length=0∨∃b off,ad=some ⟨b,off,none⟩∧At w b off css.flatten):=fun S hr=>by
  obtain ⟨_,ad,cap,e1,h1,h2,h3⟩:=hr.imm_els
  rcases h3 with rfl | ⟨b,off,css,rfl,g1,g2⟩
  ·exact ⟨ad,cap,[],e1,rfl,.inl rfl⟩
  ·exact ⟨_,cap,css,e1,g1.ground hn,.inr ⟨b,off,rfl,g2⟩⟩
 cases u with
 | dat τ x=>
  simp only [rdG] at hg
  split at hg
  ·rename_i hb
   have:=Ty.eq_of_beq hb
   subst this
   simp only [Option.some.injEq] at hg
   subst hg
   obtain ⟨cs,h1,h2⟩:=hv
   have hl:=h2.length
   simp only [Ty.size] at hl
   obtain ⟨z,rfl⟩:=List.length_eq_one_iff.1 hl
   have:v=z:=h1
   subst this
   exact fin _ h2
  ·cases hg
 | nils=>
  simp only [rdG,Option.some.injEq] at hg
  subst hg
  have hv:v=.slice none 0 0:=hv
  subst hv
  exact fin (Stab c w (lk us rt) Fo X) ⟨rfl,none,0,rfl,Nat.le_refl _,Nat.zero_le _,.inl rfl⟩
 | ali p e2 rg=>
  simp only [rdG] at hg
  split at hg
  ·rename_i hb
   rw [Bool.and_eq_true] at hb
   have:=Ty.eq_of_beq hb.1
   subst this
   split at hg
   ·rename_i t ht
    have ht:=lk_sub hs us _ _ ht
    split at hg
    ·rename_i oo yy hlk
     split at hg
     ·rename_i hwk
      simp only [Option.some.injEq] at hg
      subst hg
      obtain ⟨ad,len,cap,hh,hc⟩:=hv hb.2
      obtain ⟨Fm,hrep,_,hnd⟩:=h.hdrA ht hlk hh
      obtain ⟨F',_,hw⟩:=hrep.weak hwk hnd
      have h1:=hw (fun _=>True) (fun _ _=>trivial) (fun _ _ _=>trivial)
      have e0:=h1.nil_of_imm
      subst e0
      have h1':=h1
      obtain ⟨_,a1,c1,e1,_⟩:=h1'
      simp only [List.cons.injEq,and_true,Value.slice.injEq] at e1
      obtain ⟨rfl,rfl,rfl⟩:=e1
      cases rg with
      | none=>
       have:v=_:=hc
       rw [this] at fin ⊢
       exact fin _ h1
      | some r=>
       obtain ⟨lo,hi⟩:=r
       obtain ⟨c1,c2,c3⟩:=hc
       have:=h1.cut c1 c2
       rw [←c3] at this
       exact fin _ this
     ·cases hg
    ·cases hg
   ·cases hg
  ·cases hg
 | ptr _=>simp [rdG] at hg
 | mix _ _=>simp [rdG] at hg
 | ipt _ _ _=>simp [rdG] at hg
 | tup _=>simp [rdG] at hg
 | grd _ _ _=>simp [rdG] at hg
theorem rdG_sound (hs:∀r t,rt' r=some t→rt r=some t) {us:List (Nat×Root)} (h:RR c sl (lk us rt) ρ Fo X a w) {e:Ty} (hn:e.hasSlice=false) {u:V} {v:Value} {ys:List e.den}
  (hg:rdG rt' us e u=some ys) (hv:RawF rt' (Stab c w (lk us rt) Fo X) w ρ u v):∃css,Els (Stab c w (lk us rt) Fo X) w e .imm css ys []∧∀tx e',P.underlying tx=some (.slice e')→Src P e.size tx v ys.length css.flatten w:=by
 obtain ⟨ad,cap,css,rfl,k1,k2⟩:=rdG_raw hs h hn hg hv
 exact ⟨css,k1,fun tx e' hk=>src_of hk k1.len.2 (k1.ones (wk_imm_imm e)) k2⟩
theorem appSrc_sound (hs:∀r t,rt' r=some t→rt r=some t) {us us':List (Nat×Root)} (h:RR c sl (lk us rt) ρ Fo X a w) {e:Ty} {u:V} {v:Value} (hv:GrabOK rt' (Stab c w (lk us rt) Fo X) w ρ u v) {ox:Ow} {ys:List e.den}
  (hg:appSrc rt' us e u=some (ox,ys,us')) (hk:wk e .imm ox=true):
  ∃Fo' F css,RR c sl (lk us' rt) ρ Fo' (F++X) a w∧Els (Stab c w (lk us' rt) Fo' (F++X)) w e ox css ys F∧(∀tx e',P.underlying tx=some (.slice e')→Src P e.size tx v ys.length css.flatten w)∧(∀b,Stab c w (lk us rt) Fo X b→Stab c w (lk us' rt) Fo' (F++X) b):=by
 unfold appSrc at hg
 split at hg
 ·split at hg
  ·rename_i ys1 us1 hq
   simp only [Option.some.injEq,Prod.mk.injEq] at hg
   obtain ⟨rfl,rfl,rfl⟩:=hg
   obtain ⟨Fo',F,cs,k1,k2,k3,k4,k5⟩:=grab_sound hs h hv hq
   have hl:=k3.length
   simp only [Ty.size] at hl
   obtain ⟨z,rfl⟩:=List.length_eq_one_iff.1 hl
   have:v=z:=k2
   subst this
   have e0:=k3.nil_of_imm
   subst e0
   obtain ⟨css,g1,g2⟩:=imm_src (P:=P) k3
   exact ⟨Fo',[],css,k1,g1,g2,k5⟩
  ·rename_i ox1 ys1 us1 hq
   simp only [Option.some.injEq,Prod.mk.injEq] at hg
   obtain ⟨rfl,rfl,rfl⟩:=hg
   obtain ⟨Fo',F,cs,k1,k2,k3,k4,k5⟩:=grab_sound hs h hv hq
   have hl:=k3.length
   simp only [Ty.size] at hl
   obtain ⟨z,rfl⟩:=List.length_eq_one_iff.1 hl
   have:v=z:=k2
   subst this
   obtain ⟨ad,cap,hv0,h1,h2,h3⟩:=k3.own_els
   rw [hv0]
   rcases h3 with ⟨rfl,rfl,hx,rfl⟩ | ⟨b,F2,css,rfl,rfl,g1,g2,_,_⟩
   ·have hx:ys1=[]:=hx
    subst hx
    exact ⟨Fo',[],[],k1,rfl,fun tx e' hk=>src_of hk (by simp) (by simp) (.inl rfl),k5⟩
   ·obtain ⟨r1,r2,_⟩:=k1.flyWeak (F':=F2) (List.sublist_cons_self _ _)
    exact ⟨Fo',F2,css,r1,g1.mono (fun b hb=>⟨r2 b hb,rfl⟩) (fun _ _=>rfl),fun tx e' hk'=>src_of hk' g1.len.2 (g1.ones hk) (.inr ⟨b,0,rfl,g2⟩),fun b hb=>r2 b (k5 b hb)⟩
  ·cases hg
 ·rename_i hn
  have hn:e.hasSlice=false:=by simpa using hn
  cases hq:rdG rt' us e u with
  | none=>rw [hq] at hg;simp at hg
  | some ys1=>
   rw [hq] at hg
   simp only [Option.map_some,Option.some.injEq,Prod.mk.injEq] at hg
   obtain ⟨rfl,rfl,rfl⟩:=hg
   have hf:u.flat=true:=by cases u<;>first | rfl | simp [rdG] at hq
   obtain ⟨css,k1,k2⟩:=rdG_sound (P:=P) hs h hn hq (hv.1 hf)
   exact ⟨Fo,[],css,h,k1,k2,fun b hb=>hb⟩
theorem op_append (hT:TOK P T) (hs:∀r t,rt' r=some t→rt r=some t) (h:RR c sl rt ρ Fo [] a w) {args:Array Operand} {ts:Array TypeId} {x y:Operand} (hargs:args.toList=[x,y]) (hts:ts.size=2)
  (ho:o.op=.call { callee:=.builtin .append,args:=args,argTypes:=ts }) {u1 u2:V} (hv1:VR (envOf c sl rt ρ Fo [] w) u1 (a.eval x)) (hv2:VR (envOf c sl rt ρ Fo [] w) u2 (a.eval y)) {d:Nat} (hdst:o.dst=some d) (hd:DstOK c sl o.dst)
  (hnone:∀us,lk us rt' d=none→lk us rt d=none)
  (hy:Yields (dlAppend T ts d u1 u2 rt') Δ) (hK:Good c (Δ.slots sl) (lk Δ.rt rt) K):o.wp P a w K Q:=by
 have hx:args=#[x,y]:=Array.ext' (by simpa using hargs)
 subst hx
 obtain ⟨t0,t1,rfl⟩:∃t0 t1,ts=#[t0,t1]:=by
  obtain ⟨l⟩:=ts
  match l,hts with
  | [t0,t1],_=>exact ⟨t0,t1,rfl⟩
 unfold dlAppend at hy
 simp only [List.getElem?_toArray,List.getElem?_cons_zero,List.getElem?_cons_succ] at hy
 split at hy
 ·rename_i e e2 ht ht2
  split at hy
  ·split at hy
   ·rename_i oe xs us hg
    obtain ⟨Fo1,F1,cs,k1,k2,k3,k4,k5⟩:=grab_sound (us:=[]) hs h (hv1.grabs hs) hg
    have hl:=k3.length
    simp only [Ty.size] at hl
    obtain ⟨z,rfl⟩:=List.length_eq_one_iff.1 hl
    have hz:a.eval x=z:=k2
    split at hy
    ·rename_i ox ys us' hap
     split at hy
     ·rename_i hc
      simp only [Bool.and_eq_true,Option.isNone_iff_eq_none] at hc
      obtain ⟨⟨⟨c1,c2⟩,c3⟩,c4⟩:=hc
      cases hy with
      | asrt hn hy=>
       cases hy
       have hgo:GrabOK rt' (Stab c w (lk us rt) Fo1 (F1++[])) w ρ u2 (a.eval y):=GrabOK.mono k5 (hv2.grabs hs)
       obtain ⟨Fo2,F2,css,m1,m2,m3,m4⟩:=appSrc_sound (P:=P) hs k1 hgo hap c3
       have hperm:(F2++(F1++[])).Perm ((F1++F2)++[]):=List.perm_iff_count.2 fun a=>by
        simp only [List.count_append];omega
       have hS:∀b,Stab c w (lk us' rt) Fo2 (F2++(F1++[])) b→Stab c w (lk us' rt) Fo2 ((F1++F2)++[]) b:=fun b hb=>hb.permX hperm
       obtain ⟨e',hu2,_,_⟩:=(hT.get ht2).slice_elem hT
       obtain ⟨v',w',ρ',Fo',ad,cap,q1,q2,q3,q4⟩:=RR.append (P:=P) hT (m1.permX hperm) (hnone _ c4) (tx:=t1) (ty:=o.type) ht c1 c2 (v:=a.eval x) (xv:=a.eval y) (by rw [hz];exact k3.mono (fun b hb=>⟨hS b (m4 b hb),rfl⟩) (fun _ _=>rfl))
        (m2.mono (fun b hb=>⟨hS b hb,rfl⟩) (fun _ _=>rfl)) (m3 t1 e' hu2) (Nat.le_of_ble_eq_true hn)
       refine wp_value (w':=w') (v:=v') ?_ (fin_ali q2 q3 q4 hdst hd hK)
       simp [execOp,ho,resolve,invoke,builtin,q1]
     ·cases hy
    ·cases hy
   ·cases hy
  ·cases hy
 ·cases hy
end
end Go.Rd
namespace Go.Rd
inductive Kd where
 | data
 | own (o:Ow)
 | lend (o o':Ow)
abbrev Par:=Ty×Kd
def TupD:List Par→Type
 | []=>Unit
 | p::l=>p.1.den×TupD l
def TupM:List Par→Type
 | []=>Unit
 | (τ,.own _)::l=>τ.den×TupM l
 | (_,.data)::l=>TupM l
 | (_,.lend _ _)::l=>TupM l
def TupN:List Par→Type
 | []=>Unit
 | (τ,.own _)::l=>τ.den×TupN l
 | (τ,.data)::l=>τ.den×TupN l
 | (_,.lend _ _)::l=>TupN l
def TupL:List Par→Type
 | []=>Unit
 | (τ,.lend _ _)::l=>τ.den×TupL l
 | (_,.data)::l=>TupL l
 | (_,.own _)::l=>TupL l
def TupL.zero:(l:List Par)→TupL l
 | []=>()
 | (τ,.lend _ _)::l=>(τ.zero,TupL.zero l)
 | (_,.data)::l=>TupL.zero l
 | (_,.own _)::l=>TupL.zero l
def TupD.zero:(l:List Par)→TupD l
 | []=>()
 | p::l=>(p.1.zero,TupD.zero l)
def rdFu (rt:Roots) (us:List (Nat×Root)) (σ:Ty):V→Option σ.den
 | .dat τ x=>if h:τ.beq σ=true then some (recast h x) else none
 | .nils=>match σ with
  | .slice _=>some []
  | _=>none
 | .ali p e rg=>if h:(Ty.slice e).beq σ=true then (rdG rt us e (.ali p e rg)).map fun (y:(Ty.slice e).den)=>recast h y else none
 | _=>none
def rdLu (rt:Roots) (us:List (Nat×Root)):(σ:Ty)→List V→Option (σ.den×List V)
 | .prod a b,l=>match rdLu rt us a l with
  | some (x,r)=>match rdLu rt us b r with
   | some (y,r')=>some ((x,y),r')
   | none=>none
  | none=>none
 | .st t,l=>rdLu rt us t l
 | .unit,l=>some ((),l)
 | .int k,v::r=>(rdFu rt us (.int k) v).map fun y=>(y,r)
 | .bool,v::r=>(rdFu rt us .bool v).map fun y=>(y,r)
 | .str,v::r=>(rdFu rt us .str v).map fun y=>(y,r)
 | .slice e,v::r=>(rdFu rt us (.slice e) v).map fun y=>(y,r)
 | _,_=>none
def rdVu (rt:Roots) (us:List (Nat×Root)) (σ:Ty):V→Option σ.den
 | .mix τ l=>if τ.beq σ&&isSt σ then (match rdLu rt us σ l with
  | some (y,[])=>some y
  | _=>none) else none
 | v=>rdFu rt us σ v
def takeIn (rt:Roots):(ps:List Par)→List (Nat×Root)→List V→Option (TupM ps×List (Nat×Root))
 | [],us,vs=>match vs with
  | []=>some ((),us)
  | _::_=>none
 | (_,.data)::ps,us,vs=>match vs with
  | _::vs=>takeIn rt ps us vs
  | []=>none
 | (_,.lend _ _)::ps,us,vs=>match vs with
  | _::vs=>takeIn rt ps us vs
  | []=>none
 | (τ,.own o)::ps,us,vs=>match vs with
  | v::vs=>(match grab rt us true τ v with
   | some (oo,x,us')=>if wk τ o oo then (match takeIn rt ps us' vs with
    | some (m,us'')=>some ((x,m),us'')
    | none=>none) else none
   | none=>none)
  | []=>none
def datum (rt:Roots) (bor:Bool) (us:List (Nat×Root)) (τ:Ty) (v:V):Option (τ.den×List (Nat×Root)):=
 if bor then (rdVu rt us τ v).map (fun x=>(x,us)) else match grab rt us false τ v with
  | some (oo,x,us')=>if wk τ .imm oo then some (x,us') else none
  | none=>none
def lendIn (rt:Roots) (us:List (Nat×Root)) (τ:Ty) (o:Ow):V→Option (τ.den×List (Nat×Root))
 | .ptr p=>if okP rt p then
   match lk us rt p.root with
   | some t=>
    let o2:=owAt τ o p.steps t.τ t.o p.off
    if wk t.τ o2 t.o then
     match look τ p.steps t.τ o2 t.x p.off with
     | some (o',x)=>if o'.beq o&&storeOK { t with o:=o2 } τ p o' then some (x,(p.root,{ t with o:=o2 })::us) else none
     | none=>none
    else none
   | none=>none
  else none
 | _=>none
def lentRoots:List Par→List V→List Nat
 | (_,.lend _ _)::ps,.ptr p::vs=>p.root::lentRoots ps vs
 | _::ps,_::vs=>lentRoots ps vs
 | _,_=>[]
def without (l:List Nat) (rt:Roots):Roots:=fun r=>if hasNat r l then none else rt r
def dataIn (rtD:Roots) (bor:Bool):(ps:List Par)→TupM ps→List (Nat×Root)→List V→Option (TupN ps×List (Nat×Root))
 | [],_,us,vs=>match vs with
  | []=>some ((),us)
  | _::_=>none
 | (τ,.data)::ps,m,us,vs=>match vs with
  | v::vs=>(match datum rtD bor us τ v with
   | some (x,us')=>(match dataIn rtD bor ps m us' vs with
    | some (r,us'')=>some ((x,r),us'')
    | none=>none)
   | none=>none)
  | []=>none
 | (_,.lend _ _)::ps,m,us,vs=>match vs with
  | _::vs=>dataIn rtD bor ps m us vs
  | []=>none
 | (_,.own _)::ps,m,us,vs=>match vs with
  | _::vs=>(match dataIn rtD bor ps m.2 us vs with
   | some (r,us'')=>some ((m.1,r),us'')
   | none=>none)
  | []=>none
def lendsIn (rt:Roots):(ps:List Par)→TupN ps→List (Nat×Root)→List V→Option (TupD ps×List (Nat×Root))
 | [],_,us,vs=>match vs with
  | []=>some ((),us)
  | _::_=>none
 | (_,.data)::ps,m,us,vs=>match vs with
  | _::vs=>(match lendsIn rt ps m.2 us vs with
   | some (r,us'')=>some ((m.1,r),us'')
   | none=>none)
  | []=>none
 | (_,.own _)::ps,m,us,vs=>match vs with
  | _::vs=>(match lendsIn rt ps m.2 us vs with
   | some (r,us'')=>some ((m.1,r),us'')
   | none=>none)
  | []=>none
 | (τ,.lend o _)::ps,m,us,vs=>match vs with
  | v::vs=>(match lendIn rt us τ o v with
   | some (x,us')=>(match lendsIn rt ps m us' vs with
    | some (r,us'')=>some ((x,r),us'')
    | none=>none)
   | none=>none)
  | []=>none
def argsIn (rt:Roots) (bor:Bool) (ps:List Par) (vs:List V):Option (TupD ps×List (Nat×Root)):=
 match takeIn rt ps [] vs with
 | some (m,us)=>(match dataIn (if bor then without (lentRoots ps vs) rt else rt) bor ps m us vs with
  | some (n,us')=>lendsIn rt ps n us' vs
  | none=>none)
 | none=>none
def keepAt (t:Root) (i:Nat):Bool:=Nat.ble (sdep t.τ) 2&&match subSl t.τ t.o t.x i with
 | some ⟨_,.own none _,_⟩=>true
 | some ⟨_,.imm,_⟩=>true
 | _=>false
def Root.lent (t:Root) (σ:Ty) (p:Place) (o:Ow) (x:t.τ.den):Root:=
 { t with o:=o,x:=x,v0:=if p.steps.isEmpty then bump0 t.v0 p.off σ.size else t.v0,v1:=fun i=>if p.steps.isEmpty&&(Nat.blt i p.off||Nat.ble (p.off+σ.size) i)&&keepAt t i then t.v1 i else t.v1 i+1 }
def lendBack (rt:Roots):(ps:List Par)→TupL ps→List (Nat×Root)→List V→Option (List (Nat×Root))
 | [],_,us,_=>some us
 | (_,.data)::ps,y,us,vs=>lendBack rt ps y us vs.tail
 | (_,.own _)::ps,y,us,vs=>lendBack rt ps y us vs.tail
 | (τ,.lend _ o')::ps,y,us,vs=>match vs with
  | .ptr p::vs=>(match lk us rt p.root with
   | some t=>(match put τ (o',y.1) p.steps t.τ t.o t.x p.off with
    | some (o3,x3)=>lendBack rt ps y.2 ((p.root,t.lent τ p o3 x3)::us) vs
    | none=>none)
   | none=>none)
  | _=>none
def ArgsRep (S:Nat→Prop) (w:World):(ps:List Par)→List Value→TupD ps→List Nat→List (Nat×Nat×Nat)→Prop
 | [],vs,_,F,L=>vs=[]∧F=[]∧L=[]
 | (τ,.data)::ps,vs,x,F,L=>∃cs r,vs=valOf τ cs::r∧Rep S w τ .imm cs x.1 []∧ArgsRep S w ps r x.2 F L
 | (τ,.own o)::ps,vs,x,F,L=>∃cs r F1 F2,vs=valOf τ cs::r∧F=F1++F2∧Rep S w τ o cs x.1 F1∧ArgsRep S w ps r x.2 F2 L
 | (τ,.lend o _)::ps,vs,x,F,L=>∃b q cs r F1 F2 L2,vs=.pointer (some ⟨b,q,none⟩)::r∧F=b::(F1++F2)∧L=(b,q,τ.size)::L2∧At w b q cs∧(∀j,w.frozen? ⟨b,j,none⟩=false)∧Rep S w τ o cs x.1 F1∧ArgsRep S w ps r x.2 F2 L2
def BackRep (S:Nat→Prop) (w:World):(ps:List Par)→TupL ps→List Nat→List (Nat×Nat×Nat)→Prop
 | [],_,F,L=>F=[]∧L=[]
 | (_,.data)::ps,y,F,L=>BackRep S w ps y F L
 | (_,.own _)::ps,y,F,L=>BackRep S w ps y F L
 | (τ,.lend _ o')::ps,y,F,L=>∃b q cs F1 F2 L2,F=b::(F1++F2)∧L=(b,q,τ.size)::L2∧At w b q cs∧(∀j,w.frozen? ⟨b,j,none⟩=false)∧Rep S w τ o' cs y.1 F1∧BackRep S w ps y.2 F2 L2
def Beside (L:List (Nat×Nat×Nat)) (b j:Nat):Prop:=∃q n,(b,q,n)∈L∧¬(q≤j∧j<q+n)
def fullOw:Ty→Ow→Bool
 | .slice e,.own none oe=>fullOw e oe
 | .slice _,_=>false
 | .prod a b,o=>fullOw a o.fst&&fullOw b o.snd
 | .st t,o=>fullOw t o
 | .arr _ e,_=>!e.hasSlice
 | _,_=>true
theorem Rep.free {S S':Nat→Prop} {w w':World}:{τ:Ty}→{o:Ow}→{cs:List Value}→{x:τ.den}→{F:List Nat}→fullOw τ o=true→(∀b∈F,Kept w w' b)→Rep S w τ o cs x F→Rep S' w' τ o cs x F
 | .int _,_,_,_,_,_,_,h=>h
 | .bool,_,_,_,_,_,_,h=>h
 | .str,_,_,_,_,_,_,h=>h
 | .unit,_,_,_,_,_,_,h=>h
 | .prod a b,o,cs,x,F,hf,hk,⟨c1,c2,F1,F2,hc,hF,h1,h2⟩=>by
  simp only [fullOw,Bool.and_eq_true] at hf
  subst hF
  exact ⟨c1,c2,F1,F2,hc,rfl,Rep.free hf.1 (fun b hb=>hk b (List.mem_append_left _ hb)) h1,Rep.free hf.2 (fun b hb=>hk b (List.mem_append_right _ hb)) h2⟩
 | .st t,_,_,_,_,hf,hk,h=>Rep.free (τ:=t) hf hk h
 | .arr n e,o,cs,x,F,hf,_,⟨h1,h2,h3⟩=>⟨h1,h2,fun hd=>⟨(h3 hd).1,fun i y hy=>Rep.ground (by simpa [fullOw] using hf) ((h3 hd).2 i y hy)⟩⟩
 | .slice e,o,cs,x,F,hf,hk,h=>by
  cases o with
  | imm=>simp [fullOw] at hf
  | dead=>simp [fullOw] at hf
  | pr _ _=>simp [fullOw] at hf
  | own hh oe=>
   cases hh with
   | some _=>simp [fullOw] at hf
   | none=>
    obtain ⟨a,cap,h1,h2,h3,h4⟩:=h
    refine ⟨a,cap,h1,h2,h3,?_⟩
    rcases h4 with h4 | ⟨b,Fs,g1,g2,g3,g4,g5,g6⟩
    ·exact .inl h4
    ·have hb:=hk b (by rw [g2];exact List.mem_cons_self)
     refine .inr ⟨b,Fs,g1,g2,g3,fun j hj=>by rw [hb.cell];exact g4 j hj,fun j=>by rw [hb.frozen];exact g5 j,fun i y Fi hy hF=>?_⟩
     obtain ⟨k1,k2⟩:=g6 i y Fi hy hF
     refine ⟨k1,fun hne=>?_⟩
     obtain ⟨ci,hat,hr⟩:=k2 hne
     refine ⟨ci,hat.kept hb,Rep.free (by simpa [fullOw] using hf) (fun b' hb'=>hk b' ?_) hr⟩
     rw [g2]
     exact List.mem_cons_of_mem _ (List.mem_flatten.2 ⟨Fi,List.mem_of_getElem? hF,hb'⟩)
theorem ArgsRep.mono {S S':Nat→Prop} {w w':World} (hS:∀b,S b→S' b∧Kept w w' b):∀{ps:List Par} {vs:List Value} {x:TupD ps} {F:List Nat} {L:List (Nat×Nat×Nat)},(∀b∈F,Kept w w' b)→ArgsRep S w ps vs x F L→ArgsRep S' w' ps vs x F L
 | [],_,_,_,_,_,h=>h
 | (_,.data)::_,_,_,_,_,hF,⟨cs,r,e,h1,h2⟩=>⟨cs,r,e,h1.mono hS (fun b hb=>by simp at hb),h2.mono hS hF⟩
 | (_,.own _)::_,_,_,F,_,hF,h=>by
  obtain ⟨cs,r,F1,F2,e,rfl,h1,h2⟩:=h
  exact ⟨cs,r,F1,F2,e,rfl,h1.mono hS (fun b hb=>hF b (List.mem_append_left _ hb)),h2.mono hS (fun b hb=>hF b (List.mem_append_right _ hb))⟩
 | (_,.lend _ _)::_,_,_,F,_,hF,h=>by
  obtain ⟨b,q,cs,r,F1,F2,L2,e,rfl,rfl,h0,hf,h1,h2⟩:=h
  have hb:=hF b List.mem_cons_self
  exact ⟨b,q,cs,r,F1,F2,L2,e,rfl,rfl,h0.kept hb,fun j=>by rw [hb.frozen];exact hf j,h1.mono hS (fun b hb=>hF b (by simp [hb])),h2.mono hS (fun b hb=>hF b (by simp [hb]))⟩
structure InP where
 off:Nat
 e:Ty
 soff:Nat
structure Sum where
 ins:List Par
 outs:List Par
 f:TupD ins→Option (TupL ins×TupD outs)
 inp:Option InP
def InRep (w:World) (L:List (Nat×Nat×Nat)) (i:InP) (rs:List Value) (n:Int):Prop:=
 ∃b q k a0 len cap,L=[(b,q,k)]∧w.cell? ⟨b,q+i.off,none⟩=some (.slice (some ⟨a0,0,none⟩) len cap)∧n.toNat<len∧rs=[.pointer (some ⟨a0,n.toNat * i.e.size+i.soff,none⟩)]
def idxOf:(ps:List Par)→TupD ps→Option Int
 | [(.int .i64,.data)],y=>some y.1
 | _,_=>none
def ResRep (S:Nat→Prop) (w:World) (L:List (Nat×Nat×Nat)) (inp:Option InP) (ps:List Par) (rs:List Value) (y:TupD ps) (R:List Nat) (L2:List (Nat×Nat×Nat)):Prop:=match inp with
 | none=>ArgsRep S w ps rs y R L2
 | some i=>R=[]∧∃n,idxOf ps y=some n∧InRep w L i rs n
def loose (l:List Par):Bool:=l.all fun p=>match p.2 with
 | .data=>!p.1.hasSlice
 | .own o=>fullOw p.1 o
 | .lend o o'=>fullOw p.1 o&&fullOw p.1 o'
def noData (l:List Par):List Par:=l.filter fun p=>match p.2 with
 | .lend _ _=>true
 | _=>false
def After (S:Nat→Prop) (F:List Nat) (n0 n:Nat) (R:List Nat) (b:Nat):Prop:=b<n∧(S b∨b∈F∨n0≤b)∧b ∉ R
def retV:List Value→Value
 | [v]=>v
 | l=>.tuple l.toArray
def Meets (P:Program) (f:FuncId) (s:Sum):Prop:=
 ∀(x:TupD s.ins) (z:TupL s.ins) (y:TupD s.outs),s.f x=some (z,y)→∀(w:World) (S:Nat→Prop) (vs:List Value) (F:List Nat) (L:List (Nat×Nat×Nat)),ArgsRep S w s.ins vs x F L→F.Nodup→(∀b∈F,b<w.heap.size)→(∀b,S b→b<w.heap.size∧b ∉ F)→
  Calls P f vs.toArray w fun e w'=>∃rs R1 R2 L2,e=.returned (retV rs)∧w'.os=w.os∧w'.tape=w.tape∧w'.output=w.output∧w.heap.size≤w'.heap.size∧
   (∀b,b<w.heap.size→b ∉ F→Kept w w' b)∧(∀b j,Beside L b j→w'.cell? ⟨b,j,none⟩=w.cell? ⟨b,j,none⟩)∧(R1++R2).Nodup∧(∀b∈R1++R2,b<w'.heap.size∧(b∈F∨w.heap.size≤b))∧
   BackRep (After S F w.heap.size w'.heap.size (R1++R2)) w' s.ins z R1 L∧ResRep (After S F w.heap.size w'.heap.size (R1++R2)) w' L s.inp s.outs rs y R2 L2
def rid (d k:Nat):Nat:=k * 1000000+d
def backs (d:Nat):(ps:List Par)→Nat→TupD ps→Option (List V×List (Nat×Root))
 | [],_,_=>some ([],[])
 | (τ,.data)::ps,k,x=>(backs d ps (k+1) x.2).map fun r=>(.dat τ x.1::r.1,r.2)
 | (τ,.own o)::ps,k,x=>match ldV (.fresh τ o x.1 true) τ o x.1 ⟨rid d k,0,[],0,0⟩,backs d ps (k+1) x.2 with
  | some v,some r=>some (v::r.1,(rid d k,.fresh τ o x.1 true)::r.2)
  | _,_=>none
 | (τ,.lend o _)::ps,k,x=>(backs d ps (k+1) x.2).map fun r=>(.ptr ⟨rid d k,0,[],0,0⟩::r.1,(rid d k,.fresh τ o x.1 false)::r.2)
def retU:List V→V
 | [v]=>v
 | l=>.tup l
def lends (l:List Par):Nat:=(l.filter fun p=>match p.2 with | .lend _ _=>true | _=>false).length
def onlyData (l:List Par):Bool:=l.all fun p=>match p.2 with
 | .data=>true
 | _=>false
def lendImm (l:List Par):Bool:=l.all fun p=>match p.2 with
 | .lend o _=>allImm p.1 o
 | _=>true
def dlCall (rt:Roots) (d:Option Nat) (s:Sum) (vs:List V):Pr Dl:=
 if Nat.ble (lends s.ins) 1&&(Nat.beq (lends s.ins) 0||onlyData s.outs||lendImm s.ins) then
  match argsIn rt (loose s.outs&&loose (noData s.ins)) s.ins vs with
  | some (x,us)=>.bind (TupL.zero s.ins,TupD.zero s.outs) (s.f x) fun zy=>
   match lendBack rt s.ins zy.1 us vs with
   | some us2=>match d with
    | none=>.ret ⟨none,us2⟩
    | some d=>match backs d s.outs 0 zy.2 with
     | some (l,rs)=>if rs.all fun r=>(lk us2 rt r.1).isNone then .ret ⟨some (d,some (retU l)),rs++us2⟩ else .fail
     | none=>.fail
   | none=>.fail
  | none=>.fail
 else .fail
def lentV:List Par→List V→Option V
 | (_,.lend _ _)::_,v::_=>some v
 | _::ps,_::vs=>lentV ps vs
 | _,_=>none
def inPtr (rt:Roots) (i:InP) (n:Nat):Option V→Option V
 | some (.ptr p)=>if p.steps.isEmpty then match rt p.root with
   | some t=>match subAt (.slice i.e) t.τ t.o t.x (p.off+i.off) with
    | some (.own none _,_)=>some (.ptr ⟨p.root,p.off+i.off,[⟨n,i.e.size,i.soff,none⟩],t.v0 (p.off+i.off),t.v1 (p.off+i.off)⟩)
    | _=>none
   | none=>none
  else none
 | _=>none
def dlCallE (rt:Roots) (d:Option Nat) (s:Sum) (i:InP) (vs:List V):Pr Dl:=
 if Nat.beq (lends s.ins) 1 then
  match argsIn rt (loose (noData s.ins)) s.ins vs with
  | some (x,us)=>.bind (TupL.zero s.ins,TupD.zero s.outs) (s.f x) fun zy=>
   match lendBack rt s.ins zy.1 us vs with
   | some us2=>match idxOf s.outs zy.2 with
    | some n=>match inPtr (lk us2 rt) i (Int.toNat n) (lentV s.ins vs) with
     | some v=>ret1 d v us2
     | none=>.fail
    | none=>.fail
   | none=>.fail
  | none=>.fail
 else .fail
def dlCallQ (rt:Roots) (d:Option Nat) (s:Sum) (vs:List V):Pr Dl:=match s.inp with
 | none=>dlCall rt d s vs
 | some i=>dlCallE rt d s i vs
end Go.Rd
namespace Go.Rd
section
variable {P:Program} {T:Tab} {c:Ctx} {sl:Slots} {rt rt':Roots} {ρ:Nat→Loc} {Fo:Nat→List Nat} {X:List Nat} {a:Act} {w:World} {K:Act→World→Prop} {Q:Exit→Act→World→Prop} {o:Oper} {Δ:Dl}
def Rest (w:World) (rt:Roots) (Fo:Nat→List Nat) (ex:Nat→Bool) (X:List Nat) (b:Nat):Prop:=b<w.heap.size∧b ∉ X∧∀r t,ex r=true→rt r=some t→b ∉ Fo r
theorem Stab.rest {ex:Nat→Bool} {b:Nat} (h:Stab c w rt Fo X b):Rest w rt Fo ex X b:=⟨h.1,h.2.2.2,fun r t _ hr=>h.2.2.1 r t hr⟩
theorem RR.bof_rest {ex:Nat→Bool} (h:RR c sl rt ρ Fo X a w) {r:Nat} {t:Root} (hr:rt r=some t) (he:ex r=false) {b:Nat} (hb:Bof c w rt ρ Fo X r b):Rest w rt Fo ex X b:=by
 rcases hb with hb | hb
 ·exact hb.rest
 ·exact ⟨(h.inF r t hr b hb.1).1,fun hx=>h.disjX b hx r t hr hb.1,fun r' t' he' hr' hm=>h.disj r r' t t' hr hr' (fun e=>by rw [e,he'] at he;cases he) b hb.1 hm⟩
theorem okA_some {rt:Roots} {p:Place} (h:okA rt p=true):rt p.root≠none:=fun e=>by
 simp [okA,e] at h
theorem rdGu_sound (hs:∀r t,rt' r=some t→rt r=some t) {ex:Nat→Bool} (hex:∀r,ex r=true→rt' r=none) {us:List (Nat×Root)} (h:RR c sl (lk us rt) ρ Fo X a w) {e:Ty} {p:Place} {e2:Ty} {rg:Option (Nat×Nat)} {v:Value} {ys:List e.den}
  (hg:rdG rt' us e (.ali p e2 rg)=some ys) (hv:RawF rt' (Stab c w (lk us rt) Fo X) w ρ (.ali p e2 rg) v):Rep (Rest w (lk us rt) Fo ex X) w (.slice e) .imm [v] ys []:=by
 simp only [rdG] at hg
 split at hg
 ·rename_i hb
  rw [Bool.and_eq_true] at hb
  have:=Ty.eq_of_beq hb.1
  subst this
  split at hg
  ·rename_i t ht
   have ht:=lk_sub hs us _ _ ht
   split at hg
   ·rename_i oo yy hlk
    split at hg
    ·rename_i hwk
     simp only [Option.some.injEq] at hg
     subst hg
     obtain ⟨ad,len,cap,hh,hc⟩:=hv hb.2
     obtain ⟨Fm,hrep,hbof,hnd⟩:=h.hdrA ht hlk hh
     have hexf:ex p.root=false:=by
      cases hq:ex p.root with
      | false=>rfl
      | true=>exact absurd (hex _ hq) (okA_some hb.2)
     obtain ⟨F',_,hw⟩:=hrep.weak hwk hnd
     have h1:=hw (Rest w (lk us rt) Fo ex X) (fun _ hb=>hb.rest) (fun b hb _=>h.bof_rest ht hexf (hbof b hb))
     have e0:=h1.nil_of_imm
     subst e0
     have h1':=h1
     obtain ⟨_,a1,c1,e1,_⟩:=h1'
     simp only [List.cons.injEq,and_true,Value.slice.injEq] at e1
     obtain ⟨rfl,rfl,rfl⟩:=e1
     cases rg with
     | none=>
      have:v=_:=hc
      rw [this]
      exact h1
     | some r=>
      obtain ⟨lo,hi⟩:=r
      obtain ⟨c1,c2,c3⟩:=hc
      have:=h1.cut c1 c2
      rw [←c3] at this
      exact this
    ·cases hg
   ·cases hg
  ·cases hg
 ·cases hg
theorem rdFu_sound (hs:∀r t,rt' r=some t→rt r=some t) {ex:Nat→Bool} (hex:∀r,ex r=true→rt' r=none) {us:List (Nat×Root)} (h:RR c sl (lk us rt) ρ Fo X a w) {σ:Ty} {u:V} {v:Value} {x:σ.den}
  (hg:rdFu rt' us σ u=some x) (hv:RawF rt' (Stab c w (lk us rt) Fo X) w ρ u v):∃cs,v=valOf σ cs∧Rep (Rest w (lk us rt) Fo ex X) w σ .imm cs x []:=by
 cases u with
 | dat τ y=>
  simp only [rdFu] at hg
  split at hg
  ·rename_i hb
   have:=Ty.eq_of_beq hb
   subst this
   simp only [Option.some.injEq] at hg
   subst hg
   obtain ⟨cs,h1,h2⟩:=hv
   exact ⟨cs,h1,h2.mono (fun b hb=>⟨hb.rest,rfl⟩) (fun _ _=>rfl)⟩
  ·cases hg
 | nils=>
  cases σ<;>simp only [rdFu,Option.some.injEq] at hg<;>try (cases hg;done)
  subst hg
  have hv:v=.slice none 0 0:=hv
  subst hv
  exact ⟨[.slice none 0 0],rfl,rfl,none,0,rfl,Nat.le_refl _,Nat.zero_le _,.inl rfl⟩
 | ali p e rg=>
  simp only [rdFu] at hg
  split at hg
  ·rename_i hb
   have:=Ty.eq_of_beq hb
   subst this
   cases hq:rdG rt' us e (.ali p e rg) with
   | none=>rw [hq] at hg;simp at hg
   | some ys=>
    rw [hq] at hg
    simp only [Option.map_some,Option.some.injEq] at hg
    subst hg
    exact ⟨[v],rfl,rdGu_sound hs hex h hq hv⟩
  ·cases hg
 | ptr _=>simp [rdFu] at hg
 | mix _ _=>simp [rdFu] at hg
 | ipt _ _ _=>simp [rdFu] at hg
 | tup _=>simp [rdFu] at hg
 | grd _ _ _=>simp [rdFu] at hg
theorem rdFu_flat {us:List (Nat×Root)} {σ:Ty} {u:V} {x:σ.den} (hg:rdFu rt' us σ u=some x):u.flat=true:=by
 cases u<;>first | rfl | simp [rdFu] at hg
theorem rdLu_sound (hs:∀r t,rt' r=some t→rt r=some t) {ex:Nat→Bool} (hex:∀r,ex r=true→rt' r=none) {us:List (Nat×Root)} (h:RR c sl (lk us rt) ρ Fo X a w):∀{σ:Ty} {l r:List V} {ms:List Value} {x:σ.den},
  RawL rt' (Stab c w (lk us rt) Fo X) w ρ l ms→rdLu rt' us σ l=some (x,r)→∃cs ds,ms=cs++ds∧Rep (Rest w (lk us rt) Fo ex X) w σ .imm cs x []∧RawL rt' (Stab c w (lk us rt) Fo X) w ρ r ds:=by
 intro σ
 have leafCase:∀(σ:Ty),isAggB σ=false→leafTy σ=true→∀{v:V} {l r:List V} {ms:List Value} {x:σ.den},
   RawL rt' (Stab c w (lk us rt) Fo X) w ρ (v::l) ms→((rdFu rt' us σ v).map fun y=>(y,l))=some (x,r)→∃cs ds,ms=cs++ds∧Rep (Rest w (lk us rt) Fo ex X) w σ .imm cs x []∧RawL rt' (Stab c w (lk us rt) Fo X) w ρ r ds:=by
  intro σ h1 h2 v l r ms x hraw hg
  obtain ⟨z,rest,rfl,hz,hrest⟩:=hraw
  cases hq:rdFu rt' us σ v with
  | none=>rw [hq] at hg;simp at hg
  | some q=>
   rw [hq] at hg
   simp only [Option.map_some,Option.some.injEq,Prod.mk.injEq] at hg
   obtain ⟨rfl,rfl⟩:=hg
   obtain ⟨cs,k1,k2⟩:=rdFu_sound hs hex h hq (hz (rdFu_flat hq))
   have e:=valOf_one h1 h2 k2.length k1
   exact ⟨cs,rest,by rw [e];rfl,k2,hrest⟩
 induction σ with
 | prod σ1 σ2 ih1 ih2=>
  intro l r ms x hraw hg
  simp only [rdLu] at hg
  cases e1:rdLu rt' us σ1 l with
  | none=>rw [e1] at hg;simp at hg
  | some q1=>
   obtain ⟨x1,r1⟩:=q1
   rw [e1] at hg
   dsimp only at hg
   cases e2:rdLu rt' us σ2 r1 with
   | none=>rw [e2] at hg;simp at hg
   | some q2=>
    obtain ⟨x2,r2⟩:=q2
    rw [e2] at hg
    simp only [Option.some.injEq,Prod.mk.injEq] at hg
    obtain ⟨rfl,rfl⟩:=hg
    obtain ⟨c1,d1,k1,k2,k3⟩:=ih1 hraw e1
    obtain ⟨c2,d2,m1,m2,m3⟩:=ih2 k3 e2
    exact ⟨c1++c2,d2,by rw [k1,m1];simp,⟨c1,c2,[],[],rfl,rfl,k2,m2⟩,m3⟩
 | st t ih=>intro l r ms x hraw hg;exact ih hraw hg
 | unit=>
  intro l r ms x hraw hg
  simp only [rdLu,Option.some.injEq,Prod.mk.injEq] at hg
  obtain ⟨_,rfl⟩:=hg
  exact ⟨[],ms,rfl,⟨rfl,rfl⟩,hraw⟩
 | arr _ _ _=>intro l r ms x hraw hg;simp [rdLu] at hg
 | int k=>
  intro l r ms x hraw hg
  cases l with
  | nil=>simp [rdLu] at hg
  | cons v l=>simp only [rdLu] at hg;exact leafCase (.int k) rfl rfl hraw hg
 | bool=>
  intro l r ms x hraw hg
  cases l with
  | nil=>simp [rdLu] at hg
  | cons v l=>simp only [rdLu] at hg;exact leafCase .bool rfl rfl hraw hg
 | str=>
  intro l r ms x hraw hg
  cases l with
  | nil=>simp [rdLu] at hg
  | cons v l=>simp only [rdLu] at hg;exact leafCase .str rfl rfl hraw hg
 | slice e _=>
  intro l r ms x hraw hg
  cases l with
  | nil=>simp [rdLu] at hg
  | cons v l=>simp only [rdLu] at hg;exact leafCase (.slice e) rfl rfl hraw hg
theorem rdVu_sound (hs:∀r t,rt' r=some t→rt r=some t) {ex:Nat→Bool} (hex:∀r,ex r=true→rt' r=none) {us:List (Nat×Root)} (h:RR c sl (lk us rt) ρ Fo X a w) {σ:Ty} {u:V} {v:Value} {x:σ.den}
  (hg:rdVu rt' us σ u=some x) (hv:GrabOK rt' (Stab c w (lk us rt) Fo X) w ρ u v):∃cs,v=valOf σ cs∧Rep (Rest w (lk us rt) Fo ex X) w σ .imm cs x []:=by
 unfold rdVu at hg
 split at hg
 ·rename_i τ l
  split at hg
  ·rename_i hb
   rw [Bool.and_eq_true] at hb
   have:=Ty.eq_of_beq hb.1
   subst this
   split at hg
   ·rename_i y1 hq
    simp only [Option.some.injEq] at hg
    subst hg
    obtain ⟨cs,e,hraw⟩:=hv.2 _ l rfl
    obtain ⟨c1,d1,k1,k2,k3⟩:=rdLu_sound hs hex h hraw hq
    have:d1=[]:=k3
    subst this
    exact ⟨c1,by rw [e,k1];cases τ<;>first | (simp [valOf];done) | simp [isSt] at hb,k2⟩
   ·cases hg
  ·cases hg
 ·exact rdFu_sound hs hex h hg (hv.1 (rdFu_flat hg))
end
end Go.Rd
namespace Go.Rd
section
variable {P:Program} {T:Tab} {c:Ctx} {sl:Slots} {rt rt':Roots} {ρ:Nat→Loc} {Fo:Nat→List Nat} {X:List Nat} {a:Act} {w:World} {K:Act→World→Prop} {Q:Exit→Act→World→Prop} {o:Oper} {Δ:Dl}
theorem RR.called (h:RR c sl rt ρ Fo X a w) {w':World} {X':List Nat} (hk:∀b,b<w.heap.size→b ∉ X→Kept w w' b) (hs:w.heap.size≤w'.heap.size)
  (ho:w'.os=w.os) (ht:w'.tape=w.tape) (hout:w'.output=w.output) (hX:∀b∈X',b<w'.heap.size∧(b∈X∨w.heap.size≤b)) (hnX:X'.Nodup):
  RR c sl rt ρ Fo X' a w'∧(∀b,Stab c w rt Fo X b→Stab c w' rt Fo X' b)∧(∀b,b<w'.heap.size→(b∈X∨w.heap.size≤b)→b ∉ X'→Stab c w' rt Fo X' b):=by
 have hS:∀b,Stab c w rt Fo X b→Stab c w' rt Fo X' b∧Kept w w' b:=fun b hb=>⟨⟨Nat.lt_of_lt_of_le hb.1 hs,hb.2.1,hb.2.2.1,fun hx=>by
  rcases (hX b hx).2 with h1 | h1
  ·exact hb.2.2.2 h1
  ·have:=hb.1;omega⟩,hk b hb.1 hb.2.2.2⟩
 have hkF:∀r t,rt r=some t→∀b∈Fo r,Kept w w' b:=fun r t hr b hb=>hk b (h.inF r t hr b hb).1 fun hx=>h.disjX b hx r t hr hb
 have hBk:∀r t,rt r=some t→∀b,Bof c w rt ρ Fo X r b→Kept w w' b:=fun r t hr b hb=>by
  rcases hb with hb | hb
  ·exact (hS b hb).2
  ·exact hkF r t hr b hb.1
 have hB:∀r b,Bof c w rt ρ Fo X r b→Bof c w' rt ρ Fo X' r b:=fun r b hb=>hb.imp (fun k=>(hS b k).1) id
 have hwalk:∀r t,rt r=some t→∀(l:List Step) (b o b' q:Nat),Kept w w' b→walkH w (Bof c w rt ρ Fo X r) b o l b' q→walkH w' (Bof c w' rt ρ Fo X' r) b o l b' q∧Kept w w' b':=by
  intro r t hr l
  induction l with
  | nil=>intro b o b' q hb hw;obtain ⟨rfl,rfl⟩:=hw;exact ⟨⟨rfl,rfl⟩,hb⟩
  | cons s l ih=>
   intro b o b' q hb hw
   obtain ⟨n,es,so,cnt⟩:=s
   cases cnt with
   | none=>
    obtain ⟨a0,len,cap,h1,h2,h3,h4⟩:=hw
    obtain ⟨i1,i2⟩:=ih a0 _ b' q (hBk r t hr a0 h3) h4
    exact ⟨⟨a0,len,cap,by rw [hb.cell];exact h1,h2,hB r a0 h3,i1⟩,i2⟩
   | some k=>
    obtain ⟨h1,h2⟩:=hw
    obtain ⟨i1,i2⟩:=ih b _ b' q hb h2
    exact ⟨⟨h1,i1⟩,i2⟩
 have hwp:∀p b q t,rt p.root=some t→walkP w (Bof c w rt ρ Fo X p.root) (ρ p.root) p b q→walkP w' (Bof c w' rt ρ Fo X' p.root) (ρ p.root) p b q∧Kept w w' b:=by
  intro p b q t hr hw
  unfold walkP at *
  have hroot:=h.roots p.root t hr
  unfold RootOK at hroot
  split at hw
  ·rename_i b0 o0 e
   rw [e] at hroot
   obtain ⟨cs,F',eF,_⟩:=hroot
   exact hwalk p.root t hr _ _ _ _ _ (hkF p.root t hr b0 (by rw [eF];exact List.mem_cons_self)) hw
  ·split at hw
   ·exact hw.elim
   ·obtain ⟨h0,a0,len,cap,h1,h2,h3,h4⟩:=hw
    obtain ⟨i1,i2⟩:=hwalk p.root t hr _ _ _ _ _ (hBk p.root t hr a0 h3) h4
    exact ⟨⟨h0,a0,len,cap,h1,h2,hB _ a0 h3,i1⟩,i2⟩
 refine ⟨⟨ho.trans h.os,ht.trans h.tape,hout.trans h.output,Nat.le_trans h.size hs,fun b hb hb'=>?_,fun b j hj=>?_,h.keepl,fun r t hr=>?_,h.nodup,h.disj,?_,hnX,fun b hb r t hr hm=>?_,fun b hb=>?_,fun b hb j hj=>?_,fun n u hu=>?_,h.named,h.defers,h.tsz,h.anch⟩,fun b hb=>(hS b hb).1,fun b hb hb' hx=>⟨hb,?_,fun r t hr hm=>?_,hx⟩⟩
 ·exact (hk b (by have:=h.size;omega) fun hx=>by rcases (h.inX b hx).2 with h1 | h1;exact hb' h1;omega).trans (h.frame b hb hb')
 ·rw [(hk b (by have:=h.keepl b j hj;have:=h.size;omega) fun hx=>h.keepX b hx j hj).cell];exact h.keepc b j hj
 ·exact (h.roots r t hr).mono hS (hkF r t hr)
 ·exact fun r t hr b hb=>⟨Nat.lt_of_lt_of_le (h.inF r t hr b hb).1 hs,(h.inF r t hr b hb).2⟩
 ·rcases (hX b hb).2 with h1 | h1
  ·exact h.disjX b h1 r t hr hm
  ·have:=(h.inF r t hr b hm).1;omega
 ·refine ⟨(hX b hb).1,?_⟩
  rcases (hX b hb).2 with h1 | h1
  ·exact (h.inX b h1).2
  ·exact .inr (Nat.le_trans h.size h1)
 ·rcases (hX b hb).2 with h1 | h1
  ·exact h.keepX b h1 j hj
  ·have:=h.keepl b j hj;have:=h.size;omega
 ·refine VR.later (N:=PlaceOK rt) (E:=envOf c sl rt ρ Fo X w) (E':=envOf c sl rt ρ Fo X' w') ⟨hS,fun p b q _ hp=>⟨hp,fun hw=>?_⟩,fun p v0 v1 v2 _ hp=>⟨hp,fun hw=>?_⟩⟩ u _ (fun _ _=>rfl) (h.named n u hu) (h.slots n u hu)
  ·obtain ⟨_,t,hr,_⟩:=hp
   exact (hwp p b q t hr hw).1
  ·obtain ⟨_,t,hr,_⟩:=hp
   rcases hdrAt_cases hw with ⟨cs,e1,e2,e3⟩ | ⟨b,q,h1,h2⟩
   ·show hdrAt w' _ (ρ p.root) p (.slice v0 v1 v2)
    rw [show ρ p.root=Loc.reg cs from e1];exact hdrAt_reg e2 e3
   ·obtain ⟨i1,i2⟩:=hwp p b q t hr h1
    exact hdrAt_walk i1 (by show w'.cell? _=_;rw [i2.cell];exact h2)
 ·rcases hb' with h1 | h1
  ·exact .inr (h.inX b h1).2
  ·exact .inr (.inr (Nat.le_trans h.size h1))
 ·rcases hb' with h1 | h1
  ·exact h.disjX b h1 r t hr hm
  ·have:=(h.inF r t hr b hm).1;omega
def TakenRep (S:Nat→Prop) (w:World):(ps:List Par)→List Value→TupM ps→List Nat→Prop
 | [],vs,_,F=>vs=[]∧F=[]
 | (τ,.own o)::ps,vs,x,F=>∃cs r F1 F2,vs=valOf τ cs::r∧F=F1++F2∧Rep S w τ o cs x.1 F1∧TakenRep S w ps r x.2 F2
 | (_,.data)::ps,vs,x,F=>∃v r,vs=v::r∧TakenRep S w ps r x F
 | (_,.lend _ _)::ps,vs,x,F=>∃v r,vs=v::r∧TakenRep S w ps r x F
theorem TakenRep.mono {S S':Nat→Prop} {w w':World} (hS:∀b,S b→S' b∧Kept w w' b):∀{ps:List Par} {vs:List Value} {x:TupM ps} {F:List Nat},(∀b∈F,Kept w w' b)→TakenRep S w ps vs x F→TakenRep S' w' ps vs x F
 | [],_,_,_,_,h=>h
 | (_,.data)::_,_,_,_,hF,⟨v,r,e,h2⟩=>⟨v,r,e,h2.mono hS hF⟩
 | (_,.lend _ _)::_,_,_,_,hF,⟨v,r,e,h2⟩=>⟨v,r,e,h2.mono hS hF⟩
 | (_,.own _)::_,_,_,F,hF,h=>by
  obtain ⟨cs,r,F1,F2,e,rfl,h1,h2⟩:=h
  exact ⟨cs,r,F1,F2,e,rfl,h1.mono hS (fun b hb=>hF b (List.mem_append_left _ hb)),h2.mono hS (fun b hb=>hF b (List.mem_append_right _ hb))⟩
theorem takeIn_sound (hs:∀r t,rt' r=some t→rt r=some t):∀{ps:List Par} {us us':List (Nat×Root)} {Fo:Nat→List Nat} {X:List Nat} {vs:List V} {ms:List Value} {m:TupM ps},
  RR c sl (lk us rt) ρ Fo X a w→GrabOKs rt' (Stab c w (lk us rt) Fo X) w ρ vs ms→takeIn rt' ps us vs=some (m,us')→
  ∃Fo' F,RR c sl (lk us' rt) ρ Fo' (F++X) a w∧TakenRep (Stab c w (lk us' rt) Fo' (F++X)) w ps ms m F∧(∀b,Stab c w (lk us rt) Fo X b→Stab c w (lk us' rt) Fo' (F++X) b)
 | [],us,us',Fo,X,vs,ms,m,h,hg,ht=>by
  cases vs with
  | nil=>
   cases ht
   exact ⟨Fo,[],h,⟨hg,rfl⟩,fun b hb=>hb⟩
  | cons _ _=>cases ht
 | (_,.data)::ps,us,us',Fo,X,vs,ms,m,h,hg,ht=>by
  cases vs with
  | nil=>cases ht
  | cons v vs=>
   obtain ⟨z,r,rfl,_,hr⟩:=hg
   obtain ⟨Fo',F,k1,k2,k3⟩:=takeIn_sound hs (ps:=ps) h hr ht
   exact ⟨Fo',F,k1,⟨z,r,rfl,k2⟩,k3⟩
 | (_,.lend _ _)::ps,us,us',Fo,X,vs,ms,m,h,hg,ht=>by
  cases vs with
  | nil=>cases ht
  | cons v vs=>
   obtain ⟨z,r,rfl,_,hr⟩:=hg
   obtain ⟨Fo',F,k1,k2,k3⟩:=takeIn_sound hs (ps:=ps) h hr ht
   exact ⟨Fo',F,k1,⟨z,r,rfl,k2⟩,k3⟩
 | (τ,.own o)::ps,us,us',Fo,X,vs,ms,m,h,hg,ht=>by
  cases vs with
  | nil=>cases ht
  | cons v vs=>
   obtain ⟨z,r,rfl,hz,hr⟩:=hg
   dsimp only [takeIn] at ht
   cases e1:grab rt' us true τ v with
   | none=>rw [e1] at ht;cases ht
   | some q1=>
    obtain ⟨oo,x1,us1⟩:=q1
    rw [e1] at ht
    dsimp only at ht
    split at ht
    ·rename_i hwk
     cases e2:takeIn rt' ps us1 vs with
     | none=>rw [e2] at ht;cases ht
     | some q2=>
      obtain ⟨m2,us'⟩:=q2
      rw [e2] at ht
      cases ht
      obtain ⟨Fo1,F1,cs,k1,k2,k3,k4,k5⟩:=grab_sound hs h hz e1
      obtain ⟨F1',s1,g1⟩:=k3.weak hwk (List.nodup_append.1 k1.nodupX).1
      obtain ⟨w1,w2,w3⟩:=k1.flyWeak s1
      have k3':=g1 _ w2 w3
      obtain ⟨Fo2,F2,n1,n2,n3⟩:=takeIn_sound hs (ps:=ps) w1 (hr.mono fun b hb=>w2 b (k5 b hb)) e2
      have hperm:(F2++(F1'++X)).Perm ((F1'++F2)++X):=List.perm_iff_count.2 fun a=>by
       simp only [List.count_append];omega
      have hS:∀b,Stab c w (lk us' rt) Fo2 (F2++(F1'++X)) b→Stab c w (lk us' rt) Fo2 ((F1'++F2)++X) b:=fun b hb=>hb.permX hperm
      exact ⟨Fo2,F1'++F2,n1.permX hperm,⟨cs,r,F1',F2,by rw [k2],rfl,k3'.mono (fun b hb=>⟨hS b (n3 b hb),rfl⟩) (fun _ _=>rfl),n2.mono (fun b hb=>⟨hS b hb,rfl⟩) (fun _ _=>rfl)⟩,fun b hb=>hS b (n3 b (w2 b (k5 b hb)))⟩
    ·cases ht
end
end Go.Rd
namespace Go.Rd
theorem subSl_ge:∀{τ:Ty} {o:Ow} {x:τ.den} {i:Nat},τ.size≤i→subSl τ o x i=none
 | .slice e,o,x,i,h=>by
  have:Nat.beq i 0=false:=by
   cases i with
   | zero=>simp [Ty.size] at h
   | succ i=>rfl
  simp [subSl,this]
 | .prod a b,o,x,i,h=>by
  simp only [Ty.size] at h
  have hb:Nat.ble a.size i=true:=Nat.ble_eq_true_of_le (by omega)
  simp only [subSl,hb,if_true]
  exact subSl_ge (τ:=b) (by omega)
 | .st t,o,x,i,h=>subSl_ge (τ:=t) h
 | .int _,_,_,_,_=>rfl
 | .bool,_,_,_,_=>rfl
 | .str,_,_,_,_=>rfl
 | .unit,_,_,_,_=>rfl
 | .arr _ _,_,_,_,_=>rfl
theorem subSl_setAt {σ:Ty} {v:Ow×σ.den}:∀{τ:Ty} {o:Ow} {x:τ.den} {off:Nat} {o3:Ow} {x3:τ.den},setAt σ v τ o x off=some (o3,x3)→∀i,(i<off∨off+σ.size≤i)→subSl τ o3 x3 i=subSl τ o x i
 | .prod a b,o,x,off,o3,x3,h,i,hi=>by
  by_cases hb:σ.beq (Ty.prod a b)=true
  ·simp only [setAt,dif_pos hb] at h
   split at h
   ·rename_i h0
    have h0:=Nat.eq_of_beq_eq_true h0
    have:=Ty.eq_of_beq hb
    subst this
    rw [subSl_ge (by omega),subSl_ge (by omega)]
   ·cases h
  ·simp only [setAt,dif_neg hb] at h
   cases hz:Nat.ble a.size off with
   | true=>
    have hz':=Nat.le_of_ble_eq_true hz
    rw [hz] at h
    simp only [if_true,Option.map_eq_some_iff] at h
    obtain ⟨r,hr,e⟩:=h
    cases e
    simp only [subSl,Ow.fst,Ow.snd]
    cases hq:Nat.ble a.size i with
    | true=>
     have hq':=Nat.le_of_ble_eq_true hq
     simp only [if_true]
     exact subSl_setAt hr _ (by omega)
    | false=>rfl
   | false=>
    have hz':¬a.size≤off:=fun k=>by rw [Nat.ble_eq_true_of_le k] at hz;cases hz
    rw [hz] at h
    simp only [Bool.false_eq_true,if_false,Option.map_eq_some_iff] at h
    obtain ⟨r,hr,e⟩:=h
    cases e
    simp only [subSl,Ow.fst,Ow.snd]
    cases hq:Nat.ble a.size i with
    | true=>rfl
    | false=>
     simp only [Bool.false_eq_true,if_false]
     exact subSl_setAt hr _ hi
 | .st t,o,x,off,o3,x3,h,i,hi=>by
  by_cases hb:σ.beq (Ty.st t)=true
  ·simp only [setAt,dif_pos hb] at h
   split at h
   ·rename_i h0
    have h0:=Nat.eq_of_beq_eq_true h0
    have:=Ty.eq_of_beq hb
    subst this
    rw [subSl_ge (by omega),subSl_ge (by omega)]
   ·cases h
  ·simp only [setAt,dif_neg hb] at h
   exact subSl_setAt (τ:=t) h i hi
 | .slice e,o,x,off,o3,x3,h,i,hi=>by
  simp only [setAt] at h
  split at h
  ·rename_i hb
   split at h
   ·rename_i h0
    have h0:=Nat.eq_of_beq_eq_true h0
    have:=Ty.eq_of_beq hb
    subst this
    rw [subSl_ge (by omega),subSl_ge (by omega)]
   ·cases h
  ·cases h
 | .int _,_,_,_,_,_,_,_,_=>rfl
 | .bool,_,_,_,_,_,_,_,_=>rfl
 | .str,_,_,_,_,_,_,_,_=>rfl
 | .unit,_,_,_,_,_,_,_,_=>rfl
 | .arr _ _,_,_,_,_,_,_,_,_=>rfl
theorem setAt_of {σ:Ty} (v:Ow×σ.den):∀{τ:Ty} {o:Ow} {x:τ.den} {off:Nat} {r:Ow×σ.den},subAt σ τ o x off=some r→∃z,setAt σ v τ o x off=some z
 | .prod a b,o,x,off,r,h=>by
  by_cases hb:(Ty.prod a b).beq σ=true
  ·simp only [subAt,dif_pos hb] at h
   have hb':=Ty.beq_comm.1 hb
   split at h
   ·rename_i h0
    exact ⟨_,by simp only [setAt,dif_pos hb',if_pos h0];rfl⟩
   ·cases h
  ·have hb':¬σ.beq (Ty.prod a b)=true:=fun k=>hb (Ty.beq_comm.1 k)
   simp only [subAt,dif_neg hb] at h
   simp only [setAt,dif_neg hb']
   cases hz:Nat.ble a.size off with
   | true=>
    rw [hz] at h
    simp only [if_true] at h ⊢
    obtain ⟨z,hz⟩:=setAt_of v h
    exact ⟨_,by rw [hz];rfl⟩
   | false=>
    rw [hz] at h
    simp only [Bool.false_eq_true,if_false] at h ⊢
    obtain ⟨z,hz⟩:=setAt_of v h
    exact ⟨_,by rw [hz];rfl⟩
 | .st t,o,x,off,r,h=>by
  by_cases hb:(Ty.st t).beq σ=true
  ·simp only [subAt,dif_pos hb] at h
   have hb':=Ty.beq_comm.1 hb
   split at h
   ·rename_i h0
    exact ⟨_,by simp only [setAt,dif_pos hb',if_pos h0];rfl⟩
   ·cases h
  ·have hb':¬σ.beq (Ty.st t)=true:=fun k=>hb (Ty.beq_comm.1 k)
   simp only [subAt,dif_neg hb] at h
   simp only [setAt,dif_neg hb']
   exact setAt_of (τ:=t) v h
 | .slice e,_,_,off,_,h | .int _,_,_,off,_,h | .bool,_,_,off,_,h | .str,_,_,off,_,h | .unit,_,_,off,_,h | .arr _ _,_,_,off,_,h=>by
  simp only [subAt] at h
  split at h
  ·rename_i hb
   have hb':=Ty.beq_comm.1 hb
   split at h
   ·rename_i h0
    exact ⟨_,by simp only [setAt,dif_pos hb',if_pos h0];rfl⟩
   ·cases h
  ·cases h
section
variable {P:Program} {T:Tab} {c:Ctx} {sl:Slots} {rt rt':Roots} {ρ:Nat→Loc} {Fo:Nat→List Nat} {X:List Nat} {a:Act} {w:World} {K:Act→World→Prop} {Q:Exit→Act→World→Prop} {o:Oper} {Δ:Dl}
structure Lent (w w':World) (b q n:Nat) (Fm X F' X':List Nat):Prop where
 os:w'.os=w.os
 tape:w'.tape=w.tape
 output:w'.output=w.output
 size:w.heap.size≤w'.heap.size
 kept:∀k,k<w.heap.size→k≠b→k ∉ Fm→k ∉ X→Kept w w' k
 rest:∀j,j<q∨q+n≤j→w'.cell? ⟨b,j,none⟩=w.cell? ⟨b,j,none⟩
 frozen:∀j,w'.frozen? ⟨b,j,none⟩=w.frozen? ⟨b,j,none⟩
 inF:∀k∈F',k<w'.heap.size∧(k∈Fm∨k∈X∨w.heap.size≤k)
 inX:∀k∈X',k<w'.heap.size∧(k∈X∨w.heap.size≤k)
 nodup:(F'++X').Nodup
theorem RR.lent (h:RR c sl rt ρ Fo X a w) {p:Place} {t:Root} (ht:rt p.root=some t) {σ:Ty} {o':Ow} {y:σ.den} (hl:look σ p.steps t.τ t.o t.x p.off=some (o',y))
  (hso:storeOK t σ p o'=true) {b q:Nat} (hw:walkP w (fun _=>True) (ρ p.root) p b q):
  ∃m Fm,At w b q m∧m.length=σ.size∧Rep (Stab c w rt Fo X) w σ o' m y Fm∧(∀j,w.frozen? ⟨b,j,none⟩=false)∧(b::Fm).Nodup∧(∀k∈b::Fm,k∈Fo p.root)∧
   ∀(w':World) (v:Ow×σ.den) (m':List Value) (F' X':List Nat) (z:Ow×t.τ.den),put σ v p.steps t.τ t.o t.x p.off=some z→Lent w w' b q σ.size Fm X F' X'→At w' b q m'→
    (∀S'':Nat→Prop,(∀k,k<w'.heap.size→(Stab c w rt Fo X k∨k∈Fm∨k∈X∨w.heap.size≤k)→k ∉ F'→k ∉ X'→S'' k)→Rep S'' w' σ v.1 m' v.2 F')→
    ∃Fo',RR c sl (upd rt p.root (some (t.lent σ p z.1 z.2))) ρ Fo' X' a w'∧(∀k,k<w'.heap.size→(Stab c w rt Fo X k∨k∈Fm∨k∈X∨w.heap.size≤k)→k ∉ F'→k ∉ X'→Stab c w' (upd rt p.root (some (t.lent σ p z.1 z.2))) Fo' X' k):=by
 have hroot:=h.roots _ _ ht
 have hnd:=h.nodup _ _ ht
 have main:∀(base:List Nat) (Fm Fr:List Nat) (m:List Value),(Fo p.root).Perm (base++(Fm++Fr))→b∈base++Fr→At w b q m→Rep (Stab c w rt Fo X) w σ o' m y Fm→(∀j,w.frozen? ⟨b,j,none⟩=false)→
   (∀b0 o0,ρ p.root=.mem b0 o0→b0∈base∧(b=b0→(match p.steps with | []=>q=o0+p.off | s::_=>s.cnt.isSome=true∧o0≤q∧q+m.length≤o0+t.τ.size)))→
   (p.steps=[]→b∈base∧∀i,(i<p.off∨p.off+σ.size≤i)→keepAt t i=true→∀a0 len cap,hdr0 w (ρ p.root) i (.slice (some ⟨a0,0,none⟩) len cap)→0<len→a0∈Fr∨Stab c w rt Fo X a0)→
   (∀(w':World) (v:Ow×σ.den) (m':List Value) (F':List Nat) (z:Ow×t.τ.den) (Sx:Nat→Prop),put σ v p.steps t.τ t.o t.x p.off=some z→(∀k,Stab c w rt Fo X k→Sx k∧Kept w w' k)→Wrote w w' b q m.length (base++Fr)→At w' b q m'→Rep Sx w' σ v.1 m' v.2 F'→(∀k∈F',∀j,¬c.keep k j)→
    ∃F3,F3.Perm (F'++Fr)∧∀S':Nat→Prop,(∀k,Sx k→S' k)→RootOK c S' w' (ρ p.root) (base++F3) (t.lent σ p z.1 z.2))→
   ∃m Fm,At w b q m∧m.length=σ.size∧Rep (Stab c w rt Fo X) w σ o' m y Fm∧(∀j,w.frozen? ⟨b,j,none⟩=false)∧(b::Fm).Nodup∧(∀k∈b::Fm,k∈Fo p.root)∧
   ∀(w':World) (v:Ow×σ.den) (m':List Value) (F' X':List Nat) (z:Ow×t.τ.den),put σ v p.steps t.τ t.o t.x p.off=some z→Lent w w' b q σ.size Fm X F' X'→At w' b q m'→
    (∀S'':Nat→Prop,(∀k,k<w'.heap.size→(Stab c w rt Fo X k∨k∈Fm∨k∈X∨w.heap.size≤k)→k ∉ F'→k ∉ X'→S'' k)→Rep S'' w' σ v.1 m' v.2 F')→
    ∃Fo',RR c sl (upd rt p.root (some (t.lent σ p z.1 z.2))) ρ Fo' X' a w'∧(∀k,k<w'.heap.size→(Stab c w rt Fo X k∨k∈Fm∨k∈X∨w.heap.size≤k)→k ∉ F'→k ∉ X'→Stab c w' (upd rt p.root (some (t.lent σ p z.1 z.2))) Fo' X' k):=by
  intro base Fm Fr m hperm hb hat hrm hfz hbase hhd hupd
  have hndp:=hperm.nodup_iff.1 hnd
  have hnd1:=List.nodup_append.1 hndp
  have hnd2:=List.nodup_append.1 hnd1.2.1
  have hbFo:b∈Fo p.root:=hperm.mem_iff.2 (by simp only [List.mem_append] at hb ⊢;rcases hb with h | h;exact .inl h;exact .inr (.inr h))
  have hbFm:b ∉ Fm:=fun hm=>by
   rcases List.mem_append.1 hb with h1 | h1
   ·exact hnd1.2.2 b h1 b (List.mem_append_left _ hm) rfl
   ·exact hnd2.2.2 b hm b h1 rfl
  have hFmFo:∀k∈Fm,k∈Fo p.root:=fun k hk=>hperm.mem_iff.2 (by simp [hk])
  have hkFm:∀k∈Fo p.root,∀j,c.keep k j→∃b0 o0,ρ p.root=.mem b0 o0∧k=b0:=fun k hk j hkk=>by
   unfold RootOK at hroot
   cases hL:ρ p.root with
   | mem b0 o0=>
    rw [hL] at hroot
    obtain ⟨cs,F',eF,_,_,_,_,hkF⟩:=hroot
    rw [eF] at hk
    rcases List.mem_cons.1 hk with e | e
    ·exact ⟨b0,o0,rfl,e⟩
    ·exact absurd hkk (hkF _ e j)
   | reg cs=>
    rw [hL] at hroot
    exact absurd hkk (hroot.2 _ hk j)
  refine ⟨m,Fm,hat,hrm.length,hrm,hfz,List.nodup_cons.2 ⟨hbFm,hnd2.1⟩,fun k hk=>?_,fun w' v m' F' X' z hput hL hat' hrep=>?_⟩
  ·rcases List.mem_cons.1 hk with rfl | hk
   ·exact hbFo
   ·exact hFmFo k hk
  ·have hml:m.length=σ.size:=hrm.length
   have hnF:=List.nodup_append.1 hL.nodup
   have hF'Fr:∀k∈F',k ∉ base++Fr:=fun k hk hm=>by
    have hmF:k∈Fo p.root:=hperm.mem_iff.2 (by simp only [List.mem_append] at hm ⊢;rcases hm with h | h;exact .inl h;exact .inr (.inr h))
    rcases (hL.inF k hk).2 with h1 | h1 | h1
    ·rcases List.mem_append.1 hm with h2 | h2
     ·exact hnd1.2.2 k h2 k (List.mem_append_left _ h1) rfl
     ·exact hnd2.2.2 k h1 k h2 rfl
    ·exact h.disjX k h1 _ _ ht hmF
    ·have:=(h.inF _ _ ht k hmF).1;omega
   have hX'Fo:∀k∈X',k ∉ Fo p.root:=fun k hk hm=>by
    rcases (hL.inX k hk).2 with h1 | h1
    ·exact h.disjX k h1 _ _ ht hm
    ·have:=(h.inF _ _ ht k hm).1;omega
   have hkeepF':∀k∈F',∀j,¬c.keep k j:=fun k hk j hkk=>by
    rcases (hL.inF k hk).2 with h1 | h1 | h1
    ·obtain ⟨b0,o0,e1,e2⟩:=hkFm k (hFmFo k h1) j hkk
     exact hnd1.2.2 b0 (hbase b0 o0 e1).1 k (List.mem_append_left _ h1) e2.symm
    ·exact h.keepX k h1 j hkk
    ·have:=h.keepl k j hkk;have:=h.size;omega
   let Sx:Nat→Prop:=fun k=>k<w'.heap.size∧(c.Sa k∨k∈c.FL∨c.w0.heap.size≤k)∧(∀r u,rt r=some u→r≠p.root→k ∉ Fo r)∧k ∉ base++(F'++Fr)∧k ∉ X'
   have hSx:∀k,k<w'.heap.size→(Stab c w rt Fo X k∨k∈Fm∨k∈X∨w.heap.size≤k)→k ∉ F'→k ∉ X'→Sx k:=fun k hk ho hf hx=>by
    refine ⟨hk,?_,fun r u hr hne hm=>?_,fun hm=>?_,hx⟩
    ·rcases ho with ho | ho | ho | ho
     ·exact ho.2.1
     ·exact .inr (h.inF _ _ ht k (hFmFo k ho)).2
     ·exact .inr (h.inX k ho).2
     ·exact .inr (.inr (Nat.le_trans h.size ho))
    ·rcases ho with ho | ho | ho | ho
     ·exact ho.2.2.1 r u hr hm
     ·exact h.disj r p.root u t hr ht hne k hm (hFmFo k ho)
     ·exact h.disjX k ho r u hr hm
     ·have:=(h.inF r u hr k hm).1;omega
    ·have hm2:k∈F'∨k∈base++Fr:=by
      simp only [List.mem_append] at hm ⊢
      rcases hm with h1 | h1 | h1
      ·exact .inr (.inl h1)
      ·exact .inl h1
      ·exact .inr (.inr h1)
     rcases hm2 with h1 | h1
     ·exact hf h1
     ·have hmF:k∈Fo p.root:=hperm.mem_iff.2 (by simp only [List.mem_append] at h1 ⊢;rcases h1 with h | h;exact .inl h;exact .inr (.inr h))
      rcases ho with ho | ho | ho | ho
      ·exact ho.2.2.1 _ _ ht hmF
      ·rcases List.mem_append.1 h1 with h2 | h2
       ·exact hnd1.2.2 k h2 k (List.mem_append_left _ ho) rfl
       ·exact hnd2.2.2 k ho k h2 rfl
      ·exact h.disjX k ho _ _ ht hmF
      ·have:=(h.inF _ _ ht k hmF).1;omega
   have hkS:∀k,Stab c w rt Fo X k→Sx k∧Kept w w' k:=fun k hk=>
    ⟨hSx k (Nat.lt_of_lt_of_le hk.1 hL.size) (.inl hk) (fun hf=>by
     rcases (hL.inF k hf).2 with h1 | h1 | h1
     ·exact hk.2.2.1 _ _ ht (hFmFo k h1)
     ·exact hk.2.2.2 h1
     ·have:=hk.1;omega) (fun hx=>by
     rcases (hL.inX k hx).2 with h1 | h1
     ·exact hk.2.2.2 h1
     ·have:=hk.1;omega),hL.kept k hk.1 (fun e=>hk.2.2.1 _ _ ht (e▸hbFo)) (fun hm=>hk.2.2.1 _ _ ht (hFmFo k hm)) hk.2.2.2⟩
   obtain ⟨F3,hF3,hroot3⟩:=hupd w' v m' F' z Sx hput hkS ⟨fun k hk hne=>by
     have hmF:k∈Fo p.root:=hperm.mem_iff.2 (by simp only [List.mem_append] at hk ⊢;rcases hk with h | h;exact .inl h;exact .inr (.inr h))
     refine hL.kept k (h.inF _ _ ht k hmF).1 hne (fun hm=>?_) (fun hx=>h.disjX k hx _ _ ht hmF)
     rcases List.mem_append.1 hk with h2 | h2
     ·exact hnd1.2.2 k h2 k (List.mem_append_left _ hm) rfl
     ·exact hnd2.2.2 k hm k h2 rfl,fun j hj=>hL.rest j (by rw [←hml];exact hj),hL.frozen⟩ hat' (hrep Sx hSx) hkeepF'
   have hS':∀k,Sx k→Stab c w' (upd rt p.root (some (t.lent σ p z.1 z.2))) (updL Fo p.root (base++F3)) X' k:=fun k hk=>by
    refine ⟨hk.1,hk.2.1,fun r u hr hm=>?_,hk.2.2.2.2⟩
    by_cases e:r=p.root
    ·subst e;rw [updL_same] at hm
     refine hk.2.2.2.1 ?_
     rcases List.mem_append.1 hm with h1 | h1
     ·exact List.mem_append_left _ h1
     ·exact List.mem_append_right _ (hF3.mem_iff.1 h1)
    ·rw [updL_ne e] at hm;rw [upd_ne e] at hr;exact hk.2.2.1 r u hr e hm
   have hvm:∀i,t.v0 i≤(t.lent σ p z.1 z.2).v0 i:=fun i=>by
    simp only [Root.lent]
    split
    ·unfold bump0;split<;>omega
    ·exact Nat.le_refl _
   have hv1m:∀i,t.v1 i≤(t.lent σ p z.1 z.2).v1 i:=fun i=>by
    simp only [Root.lent]
    split
    ·exact Nat.le_refl _
    ·exact Nat.le_succ _
   have hrst:∀k j,k≠b→(k<w.heap.size∧k ∉ Fm∧k ∉ X)→w'.cell? ⟨k,j,none⟩=w.cell? ⟨k,j,none⟩:=fun k j hne hk=>(hL.kept k hk.1 hne hk.2.1 hk.2.2).cell j
   refine ⟨_,h.rewrite (Fm:=Fm) (F':=F') (X':=X') (Fn:=base++F3) ht hFmFo hbFo hL.os hL.tape hL.output hL.size hL.kept ?_ ?_ ?_ ?_ (fun k hk=>(hL.inF k hk).2) (fun k hk=>(hL.inF k hk).1) (fun k hk=>(hL.inX k hk).2) (fun k hk=>(hL.inX k hk).1) hnF.2.1 (fun k hk hk'=>hnF.2.2 k hk k hk' rfl) ?_ rfl hvm hv1m ?_ ?_ (fun _ _=>hroot3 _ hS'),fun k hk ho hf hx=>hS' k (hSx k hk ho hf hx)⟩
   ·intro b2 j hkj
    by_cases e:b2=b
    ·subst e
     refine hL.rest j ?_
     obtain ⟨b0,o0,eL,hbb⟩:=hkFm b2 hbFo j hkj
     obtain ⟨hb0,hcase⟩:=hbase b0 o0 eL
     have:=hcase hbb
     subst hbb
     unfold RootOK at hroot
     rw [eL] at hroot
     obtain ⟨cs,F4,eF,hat0,_,hrep0,hro,hkF⟩:=hroot
     unfold storeOK at hso
     have hcl:=hrep0.length
     cases hst:p.steps with
     | nil=>
      rw [hst] at this hso
      dsimp only at this hso
      apply Classical.byContradiction
      intro hn
      have hro':=noRo_get hso (j-q) (by omega)
      have hlt:p.off+(j-q)<t.τ.size:=by
       rw [hst] at hl
       obtain ⟨pp,mm,qq,_,_,_,hcs,hpl,_,hmm,_⟩:=subAt_focus hl hrep0
       have h1:=congrArg List.length hcs
       have h2:=hmm.length
       simp only [List.length_append] at h1
       omega
      exact hro _ hlt hro' (by rw [show o0+(p.off+(j-q))=j by omega];exact hkj)
     | cons s r=>
      rw [hst] at this hso
      obtain ⟨h1,h2,h3⟩:=this
      dsimp only at hso
      cases hc:s.cnt with
      | none=>rw [hc] at h1;simp at h1
      | some k=>
       rw [hc] at hso
       simp only [Bool.and_eq_true] at hso
       apply Classical.byContradiction
       intro hn
       have hro':=noRo_get hso.2 (j-o0) (by omega)
       rw [Nat.zero_add] at hro'
       exact hro (j-o0) (by omega) hro' (by rw [show o0+(j-o0)=j by omega];exact hkj)
    ·refine hrst b2 j e ⟨by have:=h.keepl b2 j hkj;have:=h.size;omega,fun hm=>?_,fun hx=>h.keepX b2 hx j hkj⟩
     obtain ⟨b0,o0,e1,e2⟩:=hkFm b2 (hFmFo b2 hm) j hkj
     exact hnd1.2.2 b0 (hbase b0 o0 e1).1 b2 (List.mem_append_left _ hm) e2.symm
   ·intro k hk
    rcases List.mem_append.1 hk with hk | hk
    ·exact .inl ⟨hperm.mem_iff.2 (by simp [hk]),fun hm=>hnd1.2.2 k hk k (List.mem_append_left _ hm) rfl⟩
    ·rcases List.mem_append.1 (hF3.mem_iff.1 hk) with hk | hk
     ·exact .inr hk
     ·exact .inl ⟨hperm.mem_iff.2 (by simp [hk]),fun hm=>hnd2.2.2 k hm k hk rfl⟩
   ·intro k hk
    exact List.mem_append_right _ (hF3.mem_iff.2 (List.mem_append_left _ hk))
   ·intro k hk
    have:=hperm.mem_iff.1 hk
    simp only [List.mem_append] at this ⊢
    rcases this with h | h | h
    ·exact .inl (.inl h)
    ·exact .inr h
    ·exact .inl (.inr (hF3.mem_iff.2 (List.mem_append_right _ h)))
   ·refine List.nodup_append.2 ⟨hnd1.1,hF3.nodup_iff.2 (List.nodup_append.2 ⟨hnF.1,hnd2.2.1,fun k hk k' hk' e=>?_⟩),fun k hk k' hk' e=>?_⟩
    ·subst e;exact hF'Fr k hk (List.mem_append_right _ hk')
    ·subst e
     rcases List.mem_append.1 (hF3.mem_iff.1 hk') with h1 | h1
     ·exact hF'Fr k h1 (List.mem_append_left _ hk)
     ·exact hnd1.2.2 k hk k (List.mem_append_right _ h1) rfl
   ·intro i b0 o0 s l cp hv hL0 hcell
    by_cases e:b=b0
    ·subst e
     refine (hL.rest _ ?_).trans hcell
     have hbs:=(hbase _ _ hL0).2 rfl
     cases hst:p.steps with
     | nil=>
      rw [hst] at hbs
      dsimp only at hbs
      simp only [Root.lent,hst,List.isEmpty_nil,if_true,bump0] at hv
      split at hv
      ·omega
      ·rename_i hcnd
       simp only [Bool.and_eq_true,Nat.ble_eq,Nat.blt_eq,not_and,Nat.not_lt] at hcnd
       by_cases hlo:p.off≤i
       ·have:=hcnd hlo;omega
       ·omega
     | cons st r=>
      rw [hst] at hbs
      obtain ⟨h1,h2,h3⟩:=hbs
      unfold storeOK at hso
      rw [hst] at hso
      dsimp only at hso
      cases hc:st.cnt with
      | none=>rw [hc] at h1;simp at h1
      | some k=>
       rw [hc] at hso
       simp only [Bool.and_eq_true,Bool.not_eq_true'] at hso
       apply Classical.byContradiction
       intro hn
       have hin:o0+i-q<m.length:=by omega
       have:=hat (o0+i-q) _ (List.getElem?_eq_getElem hin)
       rw [show q+(o0+i-q)=o0+i by omega,hcell] at this
       simp only [Option.some.injEq] at this
       exact noslice hso.1.1 hso.1.2 hrm _ (List.getElem_mem hin) s l cp this.symm
    ·have hb0:=(hbase _ _ hL0).1
     have hb0F:b0∈Fo p.root:=hperm.mem_iff.2 (List.mem_append_left _ hb0)
     rw [hrst b0 _ (fun h=>e h.symm) ⟨(h.inF _ _ ht b0 hb0F).1,fun hm=>hnd1.2.2 b0 hb0 b0 (List.mem_append_left _ hm) rfl,fun hx=>h.disjX b0 hx _ _ ht hb0F⟩];exact hcell
   ·intro i hv
    simp only [Root.lent] at hv
    split at hv
    ·rename_i hc
     simp only [Bool.and_eq_true,Bool.or_eq_true,List.isEmpty_iff,Nat.blt_eq,Nat.ble_eq] at hc
     obtain ⟨⟨c1,c2⟩,c3⟩:=hc
     obtain ⟨q1,q2⟩:=hhd c1
     refine ⟨fun a0 len cap hh hlen _ o' s l cp hcell=>?_,fun h3=>?_⟩
     ·rcases q2 i c2 c3 a0 len cap hh hlen with hin | hst
      ·have hin':a0∈Fo p.root:=hperm.mem_iff.2 (by simp [hin])
       rw [hrst a0 o' (fun e=>by subst e;exact hnd1.2.2 a0 q1 a0 (List.mem_append_right _ hin) rfl) ⟨(h.inF _ _ ht a0 hin').1,fun hm=>hnd2.2.2 a0 hm a0 hin rfl,fun hx=>h.disjX a0 hx _ _ ht hin'⟩]
       exact hcell
      ·rw [(hkS a0 hst).2.cell];exact hcell
     ·unfold keepAt at c3
      rw [Bool.and_eq_true] at c3
      have:=Nat.le_of_ble_eq_true c3.1
      omega
    ·omega
 unfold RootOK at hroot
 have hw0:=hw
 unfold walkP at hw
 cases hL:ρ p.root with
 | mem b0 o0=>
  rw [hL] at hroot hw
  obtain ⟨cs,F4,eF,hat,hfz,hrep0,hro,hkF⟩:=hroot
  rw [eF] at hnd
  obtain ⟨m,Fm,Fr,g1,g2,g3,g4,g5,g6,g7⟩:=focusH p.steps hrep0 hat hfz hnd hl hw
  have hFp:(Fo p.root).Perm ([b0]++(Fm++Fr)):=by rw [eF];exact g3.cons b0
  refine main [b0] Fm Fr m hFp (by simpa using g4) g1 g2 g5 (fun b1 o1 eL=>?_) (fun hst=>?_) (fun w' v m' F' z Sx hput hkS hW hat' hrep' hkp=>?_)
  ·rw [hL] at eL
   simp only [Loc.mem.injEq] at eL
   obtain ⟨rfl,rfl⟩:=eL
   refine ⟨List.mem_cons_self,fun e=>?_⟩
   obtain ⟨r1,r2,r3⟩:=g6 e
   cases hst:p.steps with
   | nil=>rw [hst] at r3;exact r3
   | cons s r=>rw [hst] at r3;exact ⟨r3,r1,by rw [←hrep0.length];exact r2⟩
  ·have hbb:b=b0:=by rw [hst] at hw;exact hw.1
   refine ⟨by rw [hbb];exact List.mem_cons_self,fun i hi hk a0 len cap hh hlen=>?_⟩
   have hl':subAt σ t.τ t.o t.x p.off=some (o',y):=by rw [hst] at hl;exact hl
   obtain ⟨z,hz⟩:=setAt_of (.dead,y) hl'
   obtain ⟨cs3,F3,e1,_,e3,e4⟩:=g7 (Stab c w rt Fo X) w (.dead,y) m [] z (by rw [hst];exact hz) (fun k hk=>⟨hk,rfl⟩) ⟨fun _ _ _=>rfl,fun _ _=>rfl,fun _=>rfl⟩ g1 (g2.dead_of _ y)
   rw [hL] at hh
   have hh:w.cell? ⟨b0,o0+i,none⟩=some (.slice (some ⟨a0,0,none⟩) len cap):=hh
   unfold keepAt at hk
   rw [Bool.and_eq_true] at hk
   have hk2:=hk.2
   have key:∀(e:Ty) (oh:Ow) (xs:List e.den),subSl t.τ t.o t.x i=some ⟨e,oh,xs⟩→∃Fp Fl Fq,F3=Fp++Fl++Fq∧Rep (Stab c w rt Fo X) w (.slice e) oh [.slice (some ⟨a0,0,none⟩) len cap] xs Fl:=fun e oh xs hsl=>by
    rw [←subSl_setAt (o3:=z.1) (x3:=z.2) hz i hi] at hsl
    obtain ⟨p',m',q',Fp,Fl,Fq,hcs,hp',hF3,hrm,_⟩:=subAt_focus (subSl_sub hsl) e3
    have hml:=hrm.length
    simp only [Ty.size] at hml
    obtain ⟨u,rfl⟩:=List.length_eq_one_iff.1 hml
    have:=e1 i u (by rw [hcs,List.append_assoc,List.getElem?_append_right (by omega),hp',Nat.sub_self];rfl)
    rw [hh] at this
    cases this
    exact ⟨Fp,Fl,Fq,hF3,hrm⟩
   split at hk2
   ·rename_i e oe xs hsl
    obtain ⟨Fp,Fl,Fq,hF3,a1,cp1,w1,w2,w3,w4⟩:=key _ _ _ hsl
    simp only [List.cons.injEq,and_true,Value.slice.injEq] at w1
    obtain ⟨rfl,rfl,rfl⟩:=w1
    rcases w4 with ⟨w4,_⟩ | ⟨b',Fs,w4,w5,_⟩
    ·cases w4
    ·simp only [Option.some.injEq,Addr.mk.injEq,and_true] at w4
     subst w4
     have:a0∈F3:=by rw [hF3,w5];simp
     exact .inl (by simpa using e4.mem_iff.1 this)
   ·rename_i e xs hsl
    obtain ⟨Fp,Fl,Fq,hF3,_,a1,cp1,w1,w2,w3,w4⟩:=key _ _ _ hsl
    simp only [List.cons.injEq,and_true,Value.slice.injEq] at w1
    obtain ⟨rfl,rfl,rfl⟩:=w1
    rcases w4 with w4 | ⟨b',off',w4,w5,_⟩
    ·subst w4;simp at hlen
    ·simp only [Option.some.injEq,Addr.mk.injEq,and_true] at w4
     obtain ⟨rfl,_⟩:=w4
     exact .inr w5
   ·cases hk2
  ·obtain ⟨cs3,F3,e1,e2,e3,e4⟩:=g7 Sx w' v m' F' z hput hkS (by simpa using hW) hat' hrep'
   refine ⟨F3,e4,fun S' hS'=>?_⟩
   rw [hL]
   refine ⟨cs3,F3,rfl,e1,fun j=>?_,e3.mono (fun k hk=>⟨hS' k hk,rfl⟩) (fun _ _=>rfl),hro,fun k hk j hkk=>?_⟩
   ·by_cases e:b0=b
    ·subst e;rw [hW.frozen];exact hfz j
    ·rw [(hW.kept b0 (by simp) e).frozen];exact hfz j
   ·rcases List.mem_append.1 (e4.mem_iff.1 hk) with h1 | h1
    ·exact hkp k h1 j hkk
    ·exact hkF k (g3.mem_iff.2 (List.mem_append_right _ h1)) j hkk
 | reg cs=>
  rw [hL] at hroot hw
  obtain ⟨hrep0,hkF⟩:=hroot
  dsimp only at hw
  cases hs:p.steps with
  | nil=>rw [hs] at hw;exact hw.elim
  | cons s r=>
   rw [hs] at hw hl
   obtain ⟨g0,a0,len,cap,k1,k2,k3,k4⟩:=hw
   obtain ⟨m,Fm,Fr,g1,g2,g3,g4,g5,g7⟩:=focusR hrep0 hnd hl g0 k1 k2 k4
   rw [←hs]
   refine main [] Fm Fr m g3 (by simpa using g4) g1 g2 g5 (fun b1 o1 eL=>by rw [hL] at eL;cases eL) (fun hst=>by rw [hs] at hst;cases hst) (fun w' v m' F' z Sx hput hkS hW hat' hrep' hkp=>?_)
   rw [hs] at hput
   obtain ⟨F3,e3,e4⟩:=g7 Sx w' v m' F' z hput hkS (by simpa using hW) hat' hrep'
   refine ⟨F3,e4,fun S' hS'=>?_⟩
   rw [hL]
   refine ⟨e3.mono (fun k hk=>⟨hS' k hk,rfl⟩) (fun _ _=>rfl),fun k hk j hkk=>?_⟩
   rcases List.mem_append.1 (e4.mem_iff.1 hk) with h1 | h1
   ·exact hkp k h1 j hkk
   ·exact hkF k (g3.mem_iff.2 (List.mem_append_right _ h1)) j hkk
end
end Go.Rd
namespace Go.Rd
def DataRep (S:Nat→Prop) (w:World):(ps:List Par)→List Value→TupN ps→List Nat→Prop
 | [],vs,_,F=>vs=[]∧F=[]
 | (τ,.data)::ps,vs,x,F=>∃cs r,vs=valOf τ cs::r∧Rep S w τ .imm cs x.1 []∧DataRep S w ps r x.2 F
 | (τ,.own o)::ps,vs,x,F=>∃cs r F1 F2,vs=valOf τ cs::r∧F=F1++F2∧Rep S w τ o cs x.1 F1∧DataRep S w ps r x.2 F2
 | (_,.lend _ _)::ps,vs,x,F=>∃v r,vs=v::r∧DataRep S w ps r x F
theorem DataRep.mono {S S':Nat→Prop} {w w':World} (hS:∀b,S b→S' b∧Kept w w' b):∀{ps:List Par} {vs:List Value} {x:TupN ps} {F:List Nat},(∀b∈F,Kept w w' b)→DataRep S w ps vs x F→DataRep S' w' ps vs x F
 | [],_,_,_,_,h=>h
 | (_,.data)::_,_,_,_,hF,⟨cs,r,e,h1,h2⟩=>⟨cs,r,e,h1.mono hS (fun b hb=>by simp at hb),h2.mono hS hF⟩
 | (_,.lend _ _)::_,_,_,_,hF,⟨v,r,e,h2⟩=>⟨v,r,e,h2.mono hS hF⟩
 | (_,.own _)::_,_,_,F,hF,h=>by
  obtain ⟨cs,r,F1,F2,e,rfl,h1,h2⟩:=h
  exact ⟨cs,r,F1,F2,e,rfl,h1.mono hS (fun b hb=>hF b (List.mem_append_left _ hb)),h2.mono hS (fun b hb=>hF b (List.mem_append_right _ hb))⟩
section
variable {P:Program} {T:Tab} {c:Ctx} {sl:Slots} {rt rt':Roots} {ρ:Nat→Loc} {Fo:Nat→List Nat} {X:List Nat} {a:Act} {w:World} {K:Act→World→Prop} {Q:Exit→Act→World→Prop} {o:Oper} {Δ:Dl}
theorem dataIn_bor (hs:∀r t,rt' r=some t→rt r=some t) {ex:Nat→Bool} (hex:∀r,ex r=true→rt' r=none) {us:List (Nat×Root)} (h:RR c sl (lk us rt) ρ Fo X a w):∀{ps:List Par} {us':List (Nat×Root)} {vs:List V} {ms:List Value} {m:TupM ps} {x:TupN ps} {F:List Nat},
  GrabOKs rt' (Stab c w (lk us rt) Fo X) w ρ vs ms→TakenRep (Rest w (lk us rt) Fo ex X) w ps ms m F→dataIn rt' true ps m us vs=some (x,us')→us'=us∧DataRep (Rest w (lk us rt) Fo ex X) w ps ms x F
 | [],us',vs,ms,m,x,F,hg,ht,hd=>by
  cases vs with
  | nil=>cases hd;exact ⟨rfl,ht⟩
  | cons _ _=>cases hd
 | (τ,.data)::ps,us',vs,ms,m,x,F,hg,ht,hd=>by
  cases vs with
  | nil=>cases hd
  | cons v vs=>
   obtain ⟨z,r,rfl,hz,hr⟩:=hg
   obtain ⟨z',r',e',ht⟩:=ht
   simp only [List.cons.injEq] at e'
   obtain ⟨rfl,rfl⟩:=e'
   dsimp only [dataIn,datum] at hd
   simp only [if_true] at hd
   cases e1:rdVu rt' us τ v with
   | none=>rw [e1] at hd;cases hd
   | some q1=>
    rw [e1] at hd
    simp only [Option.map_some] at hd
    obtain ⟨cs,k1,k2⟩:=rdVu_sound hs hex h e1 hz
    cases e2:dataIn rt' true ps m us vs with
    | none=>rw [e2] at hd;cases hd
    | some q2=>
     obtain ⟨x2,us2⟩:=q2
     rw [e2] at hd
     cases hd
     obtain ⟨g1,g2⟩:=dataIn_bor hs hex h (ps:=ps) hr ht e2
     exact ⟨g1,cs,r,by rw [k1],k2,g2⟩
 | (_,.lend _ _)::ps,us',vs,ms,m,x,F,hg,ht,hd=>by
  cases vs with
  | nil=>cases hd
  | cons v vs=>
   obtain ⟨z,r,rfl,hz,hr⟩:=hg
   obtain ⟨z',r',e',ht⟩:=ht
   simp only [List.cons.injEq] at e'
   obtain ⟨rfl,rfl⟩:=e'
   obtain ⟨g1,g2⟩:=dataIn_bor hs hex h (ps:=ps) hr ht hd
   exact ⟨g1,z,r,rfl,g2⟩
 | (τ,.own o)::ps,us',vs,ms,m,x,F,hg,ht,hd=>by
  cases vs with
  | nil=>cases hd
  | cons v vs=>
   obtain ⟨z,r,rfl,hz,hr⟩:=hg
   obtain ⟨cs,r',F1,F2,e',eF,ht1,ht⟩:=ht
   simp only [List.cons.injEq] at e'
   obtain ⟨rfl,rfl⟩:=e'
   dsimp only [dataIn] at hd
   cases e2:dataIn rt' true ps m.2 us vs with
   | none=>rw [e2] at hd;cases hd
   | some q2=>
    obtain ⟨x2,us2⟩:=q2
    rw [e2] at hd
    cases hd
    obtain ⟨g1,g2⟩:=dataIn_bor hs hex h (ps:=ps) hr ht e2
    exact ⟨g1,cs,r,F1,F2,rfl,eF,ht1,g2⟩
theorem dataIn_keep (hs:∀r t,rt' r=some t→rt r=some t):∀{ps:List Par} {us us':List (Nat×Root)} {Fo:Nat→List Nat} {vs:List V} {ms:List Value} {m:TupM ps} {x:TupN ps} {F:List Nat},RR c sl (lk us rt) ρ Fo X a w→
  GrabOKs rt' (Stab c w (lk us rt) Fo X) w ρ vs ms→TakenRep (Stab c w (lk us rt) Fo X) w ps ms m F→dataIn rt' false ps m us vs=some (x,us')→
  ∃Fo',RR c sl (lk us' rt) ρ Fo' X a w∧DataRep (Stab c w (lk us' rt) Fo' X) w ps ms x F∧(∀b,Stab c w (lk us rt) Fo X b→Stab c w (lk us' rt) Fo' X b)
 | [],us,us',Fo,vs,ms,m,x,F,h,hg,ht,hd=>by
  cases vs with
  | nil=>cases hd;exact ⟨Fo,h,ht,fun b hb=>hb⟩
  | cons _ _=>cases hd
 | (τ,.data)::ps,us,us',Fo,vs,ms,m,x,F,h,hg,ht,hd=>by
  cases vs with
  | nil=>cases hd
  | cons v vs=>
   obtain ⟨z,r,rfl,hz,hr⟩:=hg
   obtain ⟨z',r',e',ht⟩:=ht
   simp only [List.cons.injEq] at e'
   obtain ⟨rfl,rfl⟩:=e'
   dsimp only [dataIn,datum] at hd
   simp only [Bool.false_eq_true,if_false] at hd
   cases e1:grab rt' us false τ v with
   | none=>rw [e1] at hd;cases hd
   | some q1=>
    obtain ⟨oo,x1,us1⟩:=q1
    rw [e1] at hd
    dsimp only at hd
    cases hwk:wk τ .imm oo with
    | false=>rw [hwk] at hd;cases hd
    | true=>
     rw [hwk] at hd
     simp only [if_true] at hd
     cases e2:dataIn rt' false ps m us1 vs with
     | none=>rw [e2] at hd;cases hd
     | some q2=>
      obtain ⟨x2,us2⟩:=q2
      rw [e2] at hd
      cases hd
      obtain ⟨Fo1,F1,cs,k1,k2,k3,k4,k5⟩:=grab_sound hs h hz e1
      obtain ⟨F1',s1,g1⟩:=k3.weak hwk (List.nodup_append.1 k1.nodupX).1
      obtain ⟨w1,w2,w3⟩:=k1.flyWeak s1
      have k3':=g1 _ w2 w3
      have e0:=k3'.nil_of_imm
      subst e0
      obtain ⟨Fo2,n1,n2,n3⟩:=dataIn_keep hs (ps:=ps) w1 (hr.mono fun b hb=>w2 b (k5 b hb)) (ht.mono (fun b hb=>⟨w2 b (k5 b hb),rfl⟩) (fun _ _=>rfl)) e2
      exact ⟨Fo2,n1,⟨cs,r,by rw [k2],k3'.mono (fun b hb=>⟨n3 b hb,rfl⟩) (fun _ _=>rfl),n2⟩,fun b hb=>n3 b (w2 b (k5 b hb))⟩
 | (_,.lend _ _)::ps,us,us',Fo,vs,ms,m,x,F,h,hg,ht,hd=>by
  cases vs with
  | nil=>cases hd
  | cons v vs=>
   obtain ⟨z,r,rfl,hz,hr⟩:=hg
   obtain ⟨z',r',e',ht⟩:=ht
   simp only [List.cons.injEq] at e'
   obtain ⟨rfl,rfl⟩:=e'
   obtain ⟨Fo2,g1,g2,g3⟩:=dataIn_keep hs (ps:=ps) h hr ht hd
   exact ⟨Fo2,g1,⟨z,r,rfl,g2⟩,g3⟩
 | (τ,.own o)::ps,us,us',Fo,vs,ms,m,x,F,h,hg,ht,hd=>by
  cases vs with
  | nil=>cases hd
  | cons v vs=>
   obtain ⟨z,r,rfl,hz,hr⟩:=hg
   obtain ⟨cs,r',F1,F2,e',eF,ht1,ht⟩:=ht
   simp only [List.cons.injEq] at e'
   obtain ⟨rfl,rfl⟩:=e'
   dsimp only [dataIn] at hd
   cases e2:dataIn rt' false ps m.2 us vs with
   | none=>rw [e2] at hd;cases hd
   | some q2=>
    obtain ⟨x2,us2⟩:=q2
    rw [e2] at hd
    cases hd
    obtain ⟨Fo2,g1,g2,g3⟩:=dataIn_keep hs (ps:=ps) h hr ht e2
    exact ⟨Fo2,g1,⟨cs,r,F1,F2,rfl,eF,ht1.mono (fun b hb=>⟨g3 b hb,rfl⟩) (fun _ _=>rfl),g2⟩,g3⟩
end
end Go.Rd
namespace Go.Rd
theorem loose_cons {p:Par} {l:List Par} (h:loose (p::l)=true):(match p.2 with
 | .data=>!p.1.hasSlice
 | .own o=>fullOw p.1 o
 | .lend o o'=>fullOw p.1 o&&fullOw p.1 o')=true∧loose l=true:=by
 unfold loose at h
 rw [List.all_cons,Bool.and_eq_true] at h
 exact h
theorem lends_lend {τ:Ty} {o o':Ow} {ps:List Par}:lends ((τ,.lend o o')::ps)=lends ps+1:=rfl
theorem lends_none {rt:Roots}:∀{ps:List Par} {us us':List (Nat×Root)} {vs:List V} {n:TupN ps} {x:TupD ps},lends ps=0→lendsIn rt ps n us vs=some (x,us')→
  us'=us∧(∀(S:Nat→Prop) (w:World) (ms:List Value) (F:List Nat),DataRep S w ps ms n F→ArgsRep S w ps ms x F [])∧(∀(z:TupL ps) (us2:List (Nat×Root)),lendBack rt ps z us2 vs=some us2)∧
   (∀(S:Nat→Prop) (w:World) (z:TupL ps) (R:List Nat) (L:List (Nat×Nat×Nat)),BackRep S w ps z R L→R=[]∧L=[])
 | [],us,us',vs,n,x,_,h=>by
  cases vs with
  | nil=>cases h;exact ⟨rfl,fun S w ms F hd=>⟨hd.1,hd.2,rfl⟩,fun z us2=>rfl,fun S w z R L hb=>hb⟩
  | cons _ _=>cases h
 | (τ,.data)::ps,us,us',vs,n,x,hl,h=>by
  cases vs with
  | nil=>cases h
  | cons v vs=>
   dsimp only [lendsIn] at h
   cases e:lendsIn rt ps n.2 us vs with
   | none=>rw [e] at h;cases h
   | some q=>
    obtain ⟨x2,us2⟩:=q
    rw [e] at h
    cases h
    obtain ⟨k1,k2,k3,k4⟩:=lends_none (ps:=ps) hl e
    refine ⟨k1,fun S w ms F hd=>?_,fun z us2=>k3 z us2,fun S w z R L hb=>k4 S w z R L hb⟩
    obtain ⟨cs,r,e1,h1,h2⟩:=hd
    exact ⟨cs,r,e1,h1,k2 S w r F h2⟩
 | (τ,.own o)::ps,us,us',vs,n,x,hl,h=>by
  cases vs with
  | nil=>cases h
  | cons v vs=>
   dsimp only [lendsIn] at h
   cases e:lendsIn rt ps n.2 us vs with
   | none=>rw [e] at h;cases h
   | some q=>
    obtain ⟨x2,us2⟩:=q
    rw [e] at h
    cases h
    obtain ⟨k1,k2,k3,k4⟩:=lends_none (ps:=ps) hl e
    refine ⟨k1,fun S w ms F hd=>?_,fun z us2=>k3 z us2,fun S w z R L hb=>k4 S w z R L hb⟩
    obtain ⟨cs,r,F1,F2,e1,e2,h1,h2⟩:=hd
    exact ⟨cs,r,F1,F2,e1,e2,h1,k2 S w r F2 h2⟩
 | (τ,.lend o o')::ps,us,us',vs,n,x,hl,h=>by
  rw [lends_lend] at hl;omega
structure OneLend (rt:Roots) (ps:List Par) (us us':List (Nat×Root)) (vs:List V) (n:TupN ps) (x:TupD ps) (τ:Ty) (o o':Ow) (i:Nat) (v:V) (y:τ.den):Prop where
 get:vs[i]?=some v
 inn:lendIn rt us τ o v=some (y,us')
 root:∀p,v=.ptr p→hasNat p.root (lentRoots ps vs)=true
 lv:lentV ps vs=some v
 imm:lendImm ps=true→allImm τ o=true
 full:loose (noData ps)=true→fullOw τ o'=true
 args:∀(S:Nat→Prop) (w:World) (ms:List Value) (F:List Nat),DataRep S w ps ms n F→∀(b q:Nat) (cs:List Value) (Fm:List Nat),ms[i]?=some (.pointer (some ⟨b,q,none⟩))→At w b q cs→(∀j,w.frozen? ⟨b,j,none⟩=false)→Rep S w τ o cs y Fm→
  ∃F',F'.Perm (b::(Fm++F))∧ArgsRep S w ps ms x F' [(b,q,τ.size)]
 back:∀z:TupL ps,∃y':τ.den,(∀(S:Nat→Prop) (w:World) (R:List Nat) (L:List (Nat×Nat×Nat)),BackRep S w ps z R L→∃b q cs F1,R=b::F1∧L=[(b,q,τ.size)]∧At w b q cs∧(∀j,w.frozen? ⟨b,j,none⟩=false)∧Rep S w τ o' cs y' F1)∧
  ∀(us2:List (Nat×Root)) (p:Place),v=.ptr p→lendBack rt ps z us2 vs=match lk us2 rt p.root with
   | some t=>(match put τ (o',y') p.steps t.τ t.o t.x p.off with
    | some (o3,x3)=>some ((p.root,t.lent τ p o3 x3)::us2)
    | none=>none)
   | none=>none
theorem lends_one {rt:Roots}:∀{ps:List Par} {us us':List (Nat×Root)} {vs:List V} {n:TupN ps} {x:TupD ps},lends ps=1→lendsIn rt ps n us vs=some (x,us')→
  ∃τ o o' i v y,OneLend rt ps us us' vs n x τ o o' i v y
 | [],us,us',vs,n,x,hl,_=>by simp [lends] at hl
 | (τ,.data)::ps,us,us',vs,n,x,hl,h=>by
  cases vs with
  | nil=>cases h
  | cons v vs=>
   dsimp only [lendsIn] at h
   cases e:lendsIn rt ps n.2 us vs with
   | none=>rw [e] at h;cases h
   | some q=>
    obtain ⟨x2,us2⟩:=q
    rw [e] at h
    cases h
    obtain ⟨τ1,o1,o1',i,v1,y,k⟩:=lends_one (ps:=ps) hl e
    refine ⟨τ1,o1,o1',i+1,v1,y,⟨by simpa using k.get,k.inn,k.root,k.lv,fun hi=>k.imm (by simpa [lendImm] using hi),fun hi=>k.full (by simpa [noData] using hi),fun S w ms F hd b q cs Fm hm hat hf hrep=>?_,k.back⟩⟩
    obtain ⟨c0,r,e1,h1,h2⟩:=hd
    subst e1
    obtain ⟨F',g1,g2⟩:=k.args S w r F h2 b q cs Fm (by simpa using hm) hat hf hrep
    exact ⟨F',g1,c0,r,rfl,h1,g2⟩
 | (τ,.own o)::ps,us,us',vs,n,x,hl,h=>by
  cases vs with
  | nil=>cases h
  | cons v vs=>
   dsimp only [lendsIn] at h
   cases e:lendsIn rt ps n.2 us vs with
   | none=>rw [e] at h;cases h
   | some q=>
    obtain ⟨x2,us2⟩:=q
    rw [e] at h
    cases h
    obtain ⟨τ1,o1,o1',i,v1,y,k⟩:=lends_one (ps:=ps) hl e
    refine ⟨τ1,o1,o1',i+1,v1,y,⟨by simpa using k.get,k.inn,k.root,k.lv,fun hi=>k.imm (by simpa [lendImm] using hi),fun hi=>k.full (by simpa [noData] using hi),fun S w ms F hd b q cs Fm hm hat hf hrep=>?_,k.back⟩⟩
    obtain ⟨c0,r,F1,F2,e1,e2,h1,h2⟩:=hd
    subst e1 e2
    obtain ⟨F',g1,g2⟩:=k.args S w r F2 h2 b q cs Fm (by simpa using hm) hat hf hrep
    refine ⟨F1++F',?_,c0,r,F1,F',rfl,rfl,h1,g2⟩
    exact List.perm_iff_count.2 fun a=>by
     have:=g1.count_eq a
     simp only [List.count_append,List.count_cons] at *
     omega
 | (τ,.lend o o')::ps,us,us',vs,n,x,hl,h=>by
  cases vs with
  | nil=>cases h
  | cons v vs=>
   dsimp only [lendsIn] at h
   cases e0:lendIn rt us τ o v with
   | none=>rw [e0] at h;cases h
   | some q0=>
    obtain ⟨y,us1⟩:=q0
    rw [e0] at h
    dsimp only at h
    cases e:lendsIn rt ps n us1 vs with
    | none=>rw [e] at h;cases h
    | some q=>
     obtain ⟨x2,us2⟩:=q
     rw [e] at h
     cases h
     have hl0:lends ps=0:=by rw [lends_lend] at hl;omega
     obtain ⟨k1,k2,k3,k4⟩:=lends_none (ps:=ps) hl0 e
     subst k1
     refine ⟨τ,o,o',0,v,y,⟨rfl,e0,fun p hp=>by subst hp;simp [lentRoots,hasNat,Nat.beq_refl],rfl,fun hi=>by unfold lendImm at hi;rw [List.all_cons,Bool.and_eq_true] at hi;exact hi.1,fun hi=>((Bool.and_eq_true _ _).mp (show (fullOw τ o&&fullOw τ o')=true from (loose_cons (p:=(τ,Kd.lend o o')) (l:=noData ps) (by simpa [noData] using hi)).1)).2,fun S w ms F hd b q cs Fm hm hat hf hrep=>?_,fun z=>⟨z.1,fun S w R L hb=>?_,fun us3 p hv=>?_⟩⟩⟩
     ·obtain ⟨v0,r,e1,h2⟩:=hd
      subst e1
      simp only [List.getElem?_cons_zero,Option.some.injEq] at hm
      exact ⟨b::(Fm++F),List.Perm.refl _,b,q,cs,r,Fm,F,[],by rw [hm],rfl,rfl,hat,hf,hrep,k2 S w r F h2⟩
     ·obtain ⟨b,q,cs,F1,F2,L2,e1,e2,h1,h2,h3,h4⟩:=hb
      obtain ⟨rfl,rfl⟩:=k4 S w z.2 F2 L2 h4
      exact ⟨b,q,cs,F1,by rw [e1];simp,e2,h1,h2,h3⟩
     ·subst hv
      dsimp only [lendBack]
      cases lk us3 rt p.root with
      | none=>rfl
      | some t=>
       dsimp only
       cases put τ (o',z.1) p.steps t.τ t.o t.x p.off with
       | none=>rfl
       | some w3=>exact k3 z.2 _
end Go.Rd
namespace Go.Rd
theorem rid_ne {d k j:Nat} (h:k≠j):rid d k≠rid d j:=by unfold rid;omega
theorem ldR_sound {E:Env} {cs:List Value} {t:Root} {r:Nat} (hL:E.ρ r=.reg cs) {σ:Ty} {o:Ow} {y:σ.den} {p:Place} {u:V} {m:List Value} {F:List Nat}
  (hl:ldV t σ o y p=some u) (hr:p.root=r) (hst:p.steps=[]) (hrep:Rep E.S E.w σ o m y F) (hat:∀k v,m[k]?=some v→cs[p.off+k]?=some v):VR E u (valOf σ m):=by
 unfold ldV at hl
 split at hl
 ·rename_i ha
  simp only [Option.some.injEq] at hl
  subst hl
  exact ⟨m,rfl,allImm_rep ha hrep⟩
 ·split at hl
  ·rename_i e y _
   split at hl
   ·rename_i hh oe _
    simp only [Option.some.injEq] at hl
    subst hl
    obtain ⟨ad,cap,hcs,_⟩:=hrep
    subst hcs
    have hr':(p.now t).root=r:=hr
    refine fun _=>⟨ad,_,cap,?_,rfl⟩
    rw [hr',hL]
    exact hdrAt_reg hst (by have:=hat 0 _ rfl;rwa [Nat.add_zero] at this)
   ·cases hl
  ·rename_i s y _
   cases e1:leavesV t s o y p with
   | none=>rw [e1] at hl;simp at hl
   | some l=>
    rw [e1] at hl
    simp only [Option.map_some,Option.some.injEq] at hl
    subst hl
    exact ⟨m,rfl,leavesR_sound (σ:=s) hL e1 hr hst hrep hat⟩
  ·cases hl
section
variable {P:Program} {T:Tab} {c:Ctx} {sl:Slots} {rt rt':Roots} {ρ:Nat→Loc} {Fo:Nat→List Nat} {X:List Nat} {a:Act} {w:World} {K:Act→World→Prop} {Q:Exit→Act→World→Prop} {o:Oper} {Δ:Dl}
def Placed (S:Nat→Prop) (w:World) (ρ:Nat→Loc) (rt:Roots) (d:Nat):(ps:List Par)→Nat→TupD ps→List Value→Prop
 | [],_,_,vs=>vs=[]
 | (τ,.data)::ps,k,y,vs=>∃cs r,vs=valOf τ cs::r∧Rep S w τ .imm cs y.1 []∧Placed S w ρ rt d ps (k+1) y.2 r
 | (τ,.own o)::ps,k,y,vs=>∃cs r,vs=valOf τ cs::r∧ρ (rid d k)=.reg cs∧rt (rid d k)=some (Root.fresh τ o y.1 true)∧Placed S w ρ rt d ps (k+1) y.2 r
 | (τ,.lend o _)::ps,k,y,vs=>∃b q r,vs=.pointer (some ⟨b,q,none⟩)::r∧ρ (rid d k)=.mem b q∧rt (rid d k)=some (Root.fresh τ o y.1 false)∧Placed S w ρ rt d ps (k+1) y.2 r
theorem Placed.mono {S S':Nat→Prop} {w:World} {ρ ρ':Nat→Loc} {rt rt':Roots} {d:Nat} (hS:∀b,S b→S' b):∀{ps:List Par} {k:Nat} {y:TupD ps} {vs:List Value},(∀j,k≤j→ρ' (rid d j)=ρ (rid d j)∧rt' (rid d j)=rt (rid d j))→
  Placed S w ρ rt d ps k y vs→Placed S' w ρ' rt' d ps k y vs
 | [],_,_,_,_,h=>h
 | (_,.data)::_,k,_,_,hr,⟨cs,r,e,h1,h2⟩=>⟨cs,r,e,h1.mono (fun b hb=>⟨hS b hb,rfl⟩) (fun _ _=>rfl),h2.mono hS fun j hj=>hr j (by omega)⟩
 | (_,.own _)::_,k,_,_,hr,⟨cs,r,e,h1,h2,h3⟩=>⟨cs,r,e,(hr k (Nat.le_refl _)).1.trans h1,(hr k (Nat.le_refl _)).2.trans h2,h3.mono hS fun j hj=>hr j (by omega)⟩
 | (_,.lend _ _)::_,k,_,_,hr,⟨b,q,r,e,h1,h2,h3⟩=>⟨b,q,r,e,(hr k (Nat.le_refl _)).1.trans h1,(hr k (Nat.le_refl _)).2.trans h2,h3.mono hS fun j hj=>hr j (by omega)⟩
theorem backs_roots {d:Nat}:∀{ps:List Par} {k:Nat} {y:TupD ps} {vs:List Value} {R X:List Nat} {L:List (Nat×Nat×Nat)} {l:List V} {rs:List (Nat×Root)},RR c sl rt ρ Fo (R++X) a w→ArgsRep (Stab c w rt Fo (R++X)) w ps vs y R L→
  backs d ps k y=some (l,rs)→(∀r∈rs,rt r.1=none)→
  ∃ρ' Fo',RR c sl (lk rs rt) ρ' Fo' X a w∧(∀b,Stab c w rt Fo (R++X) b→Stab c w (lk rs rt) Fo' X b)∧Placed (Stab c w (lk rs rt) Fo' X) w ρ' (lk rs rt) d ps k y vs∧(∀r,(∀j,k≤j→r≠rid d j)→lk rs rt r=rt r)∧(∀r∈rs,∃j,k≤j∧r.1=rid d j)
 | [],k,y,vs,R,X,L,l,rs,h,ha,hb,_=>by
  cases hb
  obtain ⟨rfl,rfl,_⟩:=ha
  exact ⟨ρ,Fo,h,fun b hb=>hb,rfl,fun _ _=>rfl,by simp⟩
 | (τ,.data)::ps,k,y,vs,R,X,L,l,rs,h,ha,hb,hn=>by
  obtain ⟨cs,r,e,h1,h2⟩:=ha
  dsimp only [backs] at hb
  cases e2:backs d ps (k+1) y.2 with
  | none=>rw [e2] at hb;simp at hb
  | some q=>
   obtain ⟨l2,rs2⟩:=q
   rw [e2] at hb
   simp only [Option.map_some,Option.some.injEq,Prod.mk.injEq] at hb
   obtain ⟨rfl,rfl⟩:=hb
   obtain ⟨ρ',Fo',k1,k2,k3,k4,k5⟩:=backs_roots (ps:=ps) h h2 e2 hn
   exact ⟨ρ',Fo',k1,k2,⟨cs,r,e,h1.mono (fun b hb=>⟨k2 b hb,rfl⟩) (fun _ _=>rfl),k3⟩,fun r hr=>k4 r fun j hj=>hr j (by omega),fun r hr=>by obtain ⟨j,hj,e⟩:=k5 r hr;exact ⟨j,by omega,e⟩⟩
 | (τ,.own o)::ps,k,y,vs,R,X,L,l,rs,h,ha,hb,hn=>by
  obtain ⟨cs,r,F1,F2,e,rfl,h1,h2⟩:=ha
  dsimp only [backs] at hb
  cases e0:ldV (Root.fresh τ o y.1 true) τ o y.1 ⟨rid d k,0,[],0,0⟩ with
  | none=>rw [e0] at hb;simp at hb
  | some v=>
   cases e2:backs d ps (k+1) y.2 with
   | none=>rw [e0,e2] at hb;simp at hb
   | some q=>
    obtain ⟨l2,rs2⟩:=q
    rw [e0,e2] at hb
    simp only [Option.some.injEq,Prod.mk.injEq] at hb
    obtain ⟨rfl,rfl⟩:=hb
    have hperm:((F1++F2)++X).Perm (F2++(F1++X)):=List.perm_iff_count.2 fun a=>by
     simp only [List.count_append];omega
    have hS:∀b,Stab c w rt Fo ((F1++F2)++X) b→Stab c w rt Fo (F2++(F1++X)) b:=fun b hb=>hb.permX hperm
    obtain ⟨ρ',Fo',k1,k2,k3,k4,k5⟩:=backs_roots (ps:=ps) (h.permX hperm) (h2.mono (fun b hb=>⟨hS b hb,rfl⟩) (fun _ _=>rfl)) e2 (fun r hr=>hn r (List.mem_cons_of_mem _ hr))
    have hnone:lk rs2 rt (rid d k)=none:=by
     rw [k4 (rid d k) fun j hj=>rid_ne (by omega)]
     exact hn _ List.mem_cons_self
    have hrep:=h1.mono (fun b hb=>⟨k2 b (hS b hb),rfl⟩) (fun _ _=>rfl)
    have n1:=k1.newRoot (rid d k) hnone (Root.fresh τ o y.1 true) (.reg cs) ⟨hrep,fun b hb j hkk=>k1.keepX b (List.mem_append_left _ hb) j hkk⟩
    have hS2:∀b,Stab c w (lk rs2 rt) Fo' (F1++X) b→Stab c w (upd (lk rs2 rt) (rid d k) (some (Root.fresh τ o y.1 true))) (updL Fo' (rid d k) F1) X b:=fun b hb=>
     ⟨hb.1,hb.2.1,fun r t hr hm=>by
      by_cases e:r=rid d k
      ·subst e;rw [updL_same] at hm;exact hb.2.2.2 (List.mem_append_left _ hm)
      ·rw [updL_ne e] at hm;rw [upd_ne e] at hr;exact hb.2.2.1 r t hr hm,fun hm=>hb.2.2.2 (List.mem_append_right _ hm)⟩
    refine ⟨_,_,n1,fun b hb=>hS2 b (k2 b (hS b hb)),⟨cs,r,e,updL_same _ _ _,upd_same _ _ _,k3.mono hS2 fun j hj=>⟨updL_ne (rid_ne (by omega)),upd_ne (rid_ne (by omega))⟩⟩,fun r hr=>?_,fun r hr=>?_⟩
    ·show upd (lk rs2 rt) _ _ r=rt r
     rw [upd_ne (hr k (Nat.le_refl _))]
     exact k4 r fun j hj=>hr j (by omega)
    ·rcases List.mem_cons.1 hr with rfl | hr
     ·exact ⟨k,Nat.le_refl _,rfl⟩
     ·obtain ⟨j,hj,e⟩:=k5 r hr;exact ⟨j,by omega,e⟩
 | (τ,.lend o o')::ps,k,y,vs,R,X,L,l,rs,h,ha,hb,hn=>by
  obtain ⟨b,q,cs,r,F1,F2,L2,e,rfl,rfl,h0,hfz,h1,h2⟩:=ha
  dsimp only [backs] at hb
  cases e2:backs d ps (k+1) y.2 with
  | none=>rw [e2] at hb;simp at hb
  | some z=>
   obtain ⟨l2,rs2⟩:=z
   rw [e2] at hb
   simp only [Option.map_some,Option.some.injEq,Prod.mk.injEq] at hb
   obtain ⟨rfl,rfl⟩:=hb
   have hperm:(b::(F1++F2)++X).Perm (F2++((b::F1)++X)):=List.perm_iff_count.2 fun a=>by
    simp only [List.count_append,List.cons_append,List.count_cons];omega
   have hS:∀b',Stab c w rt Fo (b::(F1++F2)++X) b'→Stab c w rt Fo (F2++((b::F1)++X)) b':=fun b' hb=>hb.permX hperm
   obtain ⟨ρ',Fo',k1,k2,k3,k4,k5⟩:=backs_roots (ps:=ps) (h.permX hperm) (h2.mono (fun b hb=>⟨hS b hb,rfl⟩) (fun _ _=>rfl)) e2 (fun r hr=>hn r (List.mem_cons_of_mem _ hr))
   have hnone:lk rs2 rt (rid d k)=none:=by
    rw [k4 (rid d k) fun j hj=>rid_ne (by omega)]
    exact hn _ List.mem_cons_self
   have hrep:=h1.mono (fun b hb=>⟨k2 b (hS b hb),rfl⟩) (fun _ _=>rfl)
   have n1:=k1.newRoot (rid d k) hnone (Root.fresh τ o y.1 false) (.mem b q) ⟨cs,F1,rfl,h0,hfz,hrep,fun i _ _ hkk=>k1.keepX b (by simp) _ hkk,fun b' hb' j hkk=>k1.keepX b' (by simp [hb']) j hkk⟩
   have hS2:∀b',Stab c w (lk rs2 rt) Fo' ((b::F1)++X) b'→Stab c w (upd (lk rs2 rt) (rid d k) (some (Root.fresh τ o y.1 false))) (updL Fo' (rid d k) (b::F1)) X b':=fun b' hb=>
    ⟨hb.1,hb.2.1,fun r t hr hm=>by
     by_cases e:r=rid d k
     ·subst e;rw [updL_same] at hm;exact hb.2.2.2 (List.mem_append_left _ hm)
     ·rw [updL_ne e] at hm;rw [upd_ne e] at hr;exact hb.2.2.1 r t hr hm,fun hm=>hb.2.2.2 (List.mem_append_right _ hm)⟩
   refine ⟨_,_,n1,fun b hb=>hS2 b (k2 b (hS b hb)),⟨b,q,r,e,updL_same _ _ _,upd_same _ _ _,k3.mono hS2 fun j hj=>⟨updL_ne (rid_ne (by omega)),upd_ne (rid_ne (by omega))⟩⟩,fun r hr=>?_,fun r hr=>?_⟩
   ·show upd (lk rs2 rt) _ _ r=rt r
    rw [upd_ne (hr k (Nat.le_refl _))]
    exact k4 r fun j hj=>hr j (by omega)
   ·rcases List.mem_cons.1 hr with rfl | hr
    ·exact ⟨k,Nat.le_refl _,rfl⟩
    ·obtain ⟨j,hj,e⟩:=k5 r hr;exact ⟨j,by omega,e⟩
theorem backs_vals (h:RR c sl rt ρ Fo X a w) {d:Nat}:∀{ps:List Par} {k:Nat} {y:TupD ps} {vs:List Value} {l:List V} {rs:List (Nat×Root)},Placed (Stab c w rt Fo X) w ρ rt d ps k y vs→backs d ps k y=some (l,rs)→
  VRs (envOf c sl rt ρ Fo X w) l vs∧V.holdsAll (PlaceOK rt) l∧∀n,V.leansAny l n=false
 | [],k,y,vs,l,rs,hp,hb=>by cases hb;exact ⟨hp,trivial,fun _=>rfl⟩
 | (τ,.data)::ps,k,y,vs,l,rs,hp,hb=>by
  obtain ⟨cs,r,rfl,h1,h2⟩:=hp
  dsimp only [backs] at hb
  cases e2:backs d ps (k+1) y.2 with
  | none=>rw [e2] at hb;simp at hb
  | some q=>
   obtain ⟨l2,rs2⟩:=q
   rw [e2] at hb
   simp only [Option.map_some,Option.some.injEq,Prod.mk.injEq] at hb
   obtain ⟨rfl,rfl⟩:=hb
   obtain ⟨g1,g2,g3⟩:=backs_vals h (ps:=ps) h2 e2
   exact ⟨⟨_,r,rfl,⟨cs,rfl,h1⟩,g1⟩,⟨trivial,g2⟩,fun n=>by simp [V.leansAny,V.leans,g3 n]⟩
 | (τ,.own o)::ps,k,y,vs,l,rs,hp,hb=>by
  obtain ⟨cs,r,rfl,h1,h2,h3⟩:=hp
  dsimp only [backs] at hb
  cases e0:ldV (Root.fresh τ o y.1 true) τ o y.1 ⟨rid d k,0,[],0,0⟩ with
  | none=>rw [e0] at hb;simp at hb
  | some v=>
   cases e2:backs d ps (k+1) y.2 with
   | none=>rw [e0,e2] at hb;simp at hb
   | some q=>
    obtain ⟨l2,rs2⟩:=q
    rw [e0,e2] at hb
    simp only [Option.some.injEq,Prod.mk.injEq] at hb
    obtain ⟨rfl,rfl⟩:=hb
    obtain ⟨g1,g2,g3⟩:=backs_vals h (ps:=ps) h3 e2
    obtain ⟨q1,q2⟩:=ldV_ok (rt:=rt) (p:=⟨rid d k,0,[],0,0⟩) h2 e0
    have hr:=h.roots _ _ h2
    rw [h1] at hr
    refine ⟨⟨_,r,rfl,?_,g1⟩,⟨q1,g2⟩,fun n=>by simp [V.leansAny,q2 n,g3 n]⟩
    exact ldR_sound (E:=envOf c sl rt ρ Fo X w) (r:=rid d k) h1 e0 rfl rfl hr.1 (fun j v hj=>by rw [Nat.zero_add];exact hj)
 | (τ,.lend o o')::ps,k,y,vs,l,rs,hp,hb=>by
  obtain ⟨b,q,r,rfl,h1,h2,h3⟩:=hp
  dsimp only [backs] at hb
  cases e2:backs d ps (k+1) y.2 with
  | none=>rw [e2] at hb;simp at hb
  | some z=>
   obtain ⟨l2,rs2⟩:=z
   rw [e2] at hb
   simp only [Option.map_some,Option.some.injEq,Prod.mk.injEq] at hb
   obtain ⟨rfl,rfl⟩:=hb
   obtain ⟨g1,g2,g3⟩:=backs_vals h (ps:=ps) h3 e2
   refine ⟨⟨_,r,rfl,fun _=>⟨b,q,?_,rfl⟩,g1⟩,⟨⟨_,h2,Nat.zero_le _,Nat.zero_le _⟩,g2⟩,fun n=>by simp [V.leansAny,V.leans,g3 n]⟩
   show walkP w _ (ρ (rid d k)) ⟨rid d k,0,[],0,0⟩ b q
   rw [h1]
   exact ⟨rfl,rfl⟩
end
end Go.Rd
namespace Go.Rd
theorem without_sub {l:List Nat} {rt rt':Roots} (hs:∀r t,rt' r=some t→rt r=some t):∀r t,without l rt' r=some t→rt r=some t:=fun r t h=>by
 unfold without at h
 split at h
 ·cases h
 ·exact hs r t h
theorem ArgsRep.free {S S':Nat→Prop} {w:World}:∀{ps:List Par} {vs:List Value} {x:TupD ps} {F:List Nat} {L:List (Nat×Nat×Nat)},loose ps=true→ArgsRep S w ps vs x F L→ArgsRep S' w ps vs x F L
 | [],_,_,_,_,_,h=>h
 | (τ,.data)::_,_,_,_,_,hl,⟨cs,r,e,h1,h2⟩=>by
  obtain ⟨k1,k2⟩:=loose_cons hl
  exact ⟨cs,r,e,h1.ground (by simpa using k1),h2.free k2⟩
 | (τ,.own o)::_,_,_,F,_,hl,h=>by
  obtain ⟨cs,r,F1,F2,e,rfl,h1,h2⟩:=h
  obtain ⟨k1,k2⟩:=loose_cons hl
  exact ⟨cs,r,F1,F2,e,rfl,h1.free k1 (fun _ _=>rfl),h2.free k2⟩
 | (τ,.lend o o')::_,_,_,F,_,hl,h=>by
  obtain ⟨b,q,cs,r,F1,F2,L2,e,rfl,rfl,h0,hf,h1,h2⟩:=h
  obtain ⟨k1,k2⟩:=loose_cons hl
  have k1:(fullOw τ o&&fullOw τ o')=true:=k1
  rw [Bool.and_eq_true] at k1
  exact ⟨b,q,cs,r,F1,F2,L2,e,rfl,rfl,h0,hf,h1.free k1.1 (fun _ _=>rfl),h2.free k2⟩
section
variable {P:Program} {T:Tab} {c:Ctx} {sl:Slots} {rt rt':Roots} {ρ:Nat→Loc} {Fo:Nat→List Nat} {X:List Nat} {a:Act} {w:World} {K:Act→World→Prop} {Q:Exit→Act→World→Prop} {o:Oper} {Δ:Dl}
theorem args_pre (hs:∀r t,rt' r=some t→rt r=some t) (h:RR c sl rt ρ Fo [] a w) {vs:List V} {ms:List Value} (hv:VRs (envOf c sl rt ρ Fo [] w) vs ms) {bor:Bool} {lr:List Nat} {ps:List Par} {m:TupM ps} {n:TupN ps} {us us':List (Nat×Root)}
  (ht:takeIn rt' ps [] vs=some (m,us)) (hd:dataIn (if bor then without lr rt' else rt') bor ps m us vs=some (n,us')):
  ∃Fo' F S,RR c sl (lk us' rt) ρ Fo' (F++[]) a w∧DataRep S w ps ms n F∧(∀b,S b→b<w.heap.size∧b ∉ F)∧(∀r t,hasNat r lr=true→lk us' rt r=some t→∀b∈Fo' r,¬S b)∧(bor=false→S=Stab c w (lk us' rt) Fo' (F++[]))∧
   (∀b,Stab c w rt Fo [] b→Stab c w (lk us' rt) Fo' (F++[]) b):=by
 obtain ⟨Fo1,F,k1,k2,k3⟩:=takeIn_sound (us:=[]) hs h (VRs.grabs hs hv) ht
 cases bor with
 | true=>
  simp only [if_true] at hd
  have hg:GrabOKs (without lr rt') (Stab c w (lk us rt) Fo1 (F++[])) w ρ vs ms:=(VRs.grabs (without_sub hs) hv).mono k3
  obtain ⟨rfl,g2⟩:=dataIn_bor (ex:=fun r=>hasNat r lr) (without_sub hs) (fun r hr=>by unfold without;rw [if_pos hr]) k1 hg (k2.mono (fun b hb=>⟨hb.rest,rfl⟩) (fun _ _=>rfl)) hd
  exact ⟨Fo1,F,_,k1,g2,fun b hb=>⟨hb.1,fun hm=>hb.2.1 (List.mem_append_left _ hm)⟩,fun r t hr hrt b hb hS=>hS.2.2 r t hr hrt hb,fun e=>(by cases e),k3⟩
 | false=>
  simp only [Bool.false_eq_true,if_false] at hd
  obtain ⟨Fo2,g1,g2,g3⟩:=dataIn_keep hs k1 ((VRs.grabs hs hv).mono k3) k2 hd
  exact ⟨Fo2,F,_,g1,g2,fun b hb=>⟨hb.1,fun hm=>hb.2.2.2 (List.mem_append_left _ hm)⟩,fun r t _ hrt b hb hS=>hS.2.2.1 r t hrt hb,fun _=>rfl,fun b hb=>g3 b (k3 b hb)⟩
theorem fin_call {ps:List Par} {y:TupD ps} {rs:List Value} {R:List Nat} (h:RR c sl rt ρ Fo (R++[]) a w) {L:List (Nat×Nat×Nat)} (ha:ArgsRep (Stab c w rt Fo (R++[])) w ps rs y R L) {us:List (Nat×Root)} {rt0:Roots} (hrt:lk us rt0=rt) (hd:DstOK c sl o.dst)
  (hΔ:match o.dst with
   | none=>Δ=⟨none,us⟩
   | some d=>∃l rl,backs d ps 0 y=some (l,rl)∧(∀r∈rl,rt r.1=none)∧Δ=⟨some (d,some (retU l)),rl++us⟩)
  (hK:Good c (Δ.slots sl) (lk Δ.rt rt0) K):K (a.put o.dst (retV rs)) w:=by
 have lk_app:∀(l:List (Nat×Root)),lk (l++us) rt0=lk l rt:=fun l=>by
  induction l with
  | nil=>exact hrt
  | cons r l ih=>show upd (lk (l++us) rt0) _ _=upd (lk l rt) _ _;rw [ih]
 cases hdst:o.dst with
 | none=>
  rw [hdst] at hΔ
  subst hΔ
  obtain ⟨g1,_,_⟩:=h.release (X':=[]) (List.nil_sublist _)
  rw [←hrt] at g1
  exact hK _ _ _ _ g1
 | some d=>
  rw [hdst] at hΔ
  obtain ⟨l,rl,hb,hn,rfl⟩:=hΔ
  obtain ⟨h1,h2⟩:=hd d hdst
  obtain ⟨ρ',Fo',k1,k2,k3,_,_⟩:=backs_roots h ha hb hn
  obtain ⟨g1,g2,g3⟩:=backs_vals k1 k3 hb
  have hval:VR (envOf c sl (lk rl rt) ρ' Fo' [] w) (retU l) (retV rs)∧(retU l).holds (PlaceOK (lk rl rt))∧∀n,(retU l).leans n=false:=by
   unfold retU
   split
   ·rename_i v
    obtain ⟨z,r,e,e1,e2⟩:=g1
    have:r=[]:=e2
    subst this
    rw [e]
    exact ⟨e1,g2.1,fun n=>by have:=g3 n;simpa [V.leansAny] using this⟩
   ·rename_i hne
    refine ⟨⟨rs,?_,g1⟩,g2,g3⟩
    unfold retV
    split
    ·rename_i v
     cases l with
     | nil=>exact absurd (show [v]=[] from g1) (by simp)
     | cons u l2=>
      cases l2 with
      | nil=>exact absurd rfl (hne u)
      | cons u2 l3=>
       obtain ⟨z,r,e,_,z2,r2,e2,_⟩:=g1
       rw [e2] at e;simp at e
    ·rfl
  have hK':Good c (upd sl d (some (retU l))) (lk rl rt) K:=by
   have:=hK
   simp only [Dl.slots] at this
   rw [lk_app] at this
   exact this
  exact hK' _ _ _ _ (k1.slot d (some (retU l)) _ h1 h2 (fun x hx=>by cases hx;exact hval.2.2 d) (fun x hx=>by cases hx;exact hval.1) (fun x hx=>by cases hx;exact hval.2.1))
end
end Go.Rd
namespace Go.Rd
theorem ArgsRep.grow {S S':Nat→Prop} {w:World} (hS:∀b,S b→S' b) {ps:List Par} {vs:List Value} {x:TupD ps} {F:List Nat} {L:List (Nat×Nat×Nat)} (h:ArgsRep S w ps vs x F L):ArgsRep S' w ps vs x F L:=
 h.mono (fun b hb=>⟨hS b hb,rfl⟩) (fun _ _=>rfl)
theorem backs_rid {d:Nat}:∀{ps:List Par} {k:Nat} {y:TupD ps} {l:List V} {rs:List (Nat×Root)},backs d ps k y=some (l,rs)→∀r∈rs,∃j,r.1=rid d j
 | [],k,y,l,rs,hb,r,hr=>by cases hb;cases hr
 | (τ,.data)::ps,k,y,l,rs,hb,r,hr=>by
  dsimp only [backs] at hb
  cases e2:backs d ps (k+1) y.2 with
  | none=>rw [e2] at hb;simp at hb
  | some q=>
   rw [e2] at hb
   simp only [Option.map_some,Option.some.injEq,Prod.mk.injEq] at hb
   obtain ⟨rfl,rfl⟩:=hb
   exact backs_rid (ps:=ps) (l:=q.1) (rs:=q.2) e2 r hr
 | (τ,.own o)::ps,k,y,l,rs,hb,r,hr=>by
  dsimp only [backs] at hb
  cases e0:ldV (Root.fresh τ o y.1 true) τ o y.1 ⟨rid d k,0,[],0,0⟩ with
  | none=>rw [e0] at hb;simp at hb
  | some v=>
   cases e2:backs d ps (k+1) y.2 with
   | none=>rw [e0,e2] at hb;simp at hb
   | some q=>
    rw [e0,e2] at hb
    simp only [Option.some.injEq,Prod.mk.injEq] at hb
    obtain ⟨rfl,rfl⟩:=hb
    rcases List.mem_cons.1 hr with rfl | hr
    ·exact ⟨k,rfl⟩
    ·exact backs_rid (ps:=ps) (l:=q.1) (rs:=q.2) e2 r hr
 | (τ,.lend o _)::ps,k,y,l,rs,hb,r,hr=>by
  dsimp only [backs] at hb
  cases e2:backs d ps (k+1) y.2 with
  | none=>rw [e2] at hb;simp at hb
  | some q=>
   rw [e2] at hb
   simp only [Option.map_some,Option.some.injEq,Prod.mk.injEq] at hb
   obtain ⟨rfl,rfl⟩:=hb
   rcases List.mem_cons.1 hr with rfl | hr
   ·exact ⟨k,rfl⟩
   ·exact backs_rid (ps:=ps) (l:=q.1) (rs:=q.2) e2 r hr
section
variable {P:Program} {T:Tab} {c:Ctx} {sl:Slots} {rt rt':Roots} {ρ:Nat→Loc} {Fo:Nat→List Nat} {X:List Nat} {a:Act} {w:World} {K:Act→World→Prop} {Q:Exit→Act→World→Prop} {o:Oper} {Δ:Dl}
theorem lendIn_inv (hs:∀r t,rt' r=some t→rt r=some t) {us us':List (Nat×Root)} {τ:Ty} {o1:Ow} {v:V} {y:τ.den} (hin:lendIn rt' us τ o1 v=some (y,us')):
  ∃p t o2,v=.ptr p∧okP rt' p=true∧lk us rt p.root=some t∧us'=(p.root,{ t with o:=o2 })::us∧look τ p.steps t.τ o2 t.x p.off=some (o1,y)∧storeOK { t with o:=o2 } τ p o1=true∧wk t.τ o2 t.o=true:=by
 unfold lendIn at hin
 split at hin
 ·rename_i p
  split at hin
  ·rename_i hok
   split at hin
   ·rename_i t ht
    dsimp only at hin
    split at hin
    ·rename_i hwk
     split at hin
     ·rename_i o' x hl
      split at hin
      ·rename_i hb
       rw [Bool.and_eq_true] at hb
       have:=Ow.eq_of_beq hb.1
       subst this
       cases hin
       exact ⟨p,t,_,rfl,hok,lk_sub hs us _ _ ht,rfl,hl,hb.2,hwk⟩
      ·cases hin
     ·cases hin
    ·cases hin
   ·cases hin
  ·cases hin
 ·cases hin
theorem onlyData_nil {S:Nat→Prop} {w:World}:∀{ps:List Par} {vs:List Value} {x:TupD ps} {F:List Nat} {L:List (Nat×Nat×Nat)},onlyData ps=true→ArgsRep S w ps vs x F L→F=[]
 | [],_,_,_,_,_,h=>h.2.1
 | (_,.data)::ps,_,_,_,_,ho,⟨_,_,_,_,h⟩=>onlyData_nil (ps:=ps) (by simpa [onlyData] using ho) h
 | (_,.own _)::_,_,_,_,_,ho,_=>by simp [onlyData] at ho
 | (_,.lend _ _)::_,_,_,_,_,ho,_=>by simp [onlyData] at ho
theorem allImm_nil {S:Nat→Prop} {w:World}:{τ:Ty}→{o:Ow}→{cs:List Value}→{x:τ.den}→{F:List Nat}→allImm τ o=true→Rep S w τ o cs x F→F=[]
 | .int _,_,_,_,_,_,h=>h.1
 | .bool,_,_,_,_,_,h=>h.1
 | .str,_,_,_,_,_,h=>h.1
 | .unit,_,_,_,_,_,h=>h.2
 | .prod a b,o,_,_,_,hi,⟨c1,c2,F1,F2,_,hF,h1,h2⟩=>by
  simp only [allImm,Bool.and_eq_true] at hi
  rw [hF,allImm_nil hi.1 h1,allImm_nil hi.2 h2];rfl
 | .st t,_,_,_,_,hi,h=>allImm_nil (τ:=t) hi h
 | .arr _ _,_,_,_,_,_,h=>h.1
 | .slice e,o,_,_,_,hi,h=>by
  cases o<;>first | exact h.1 | simp [allImm] at hi
theorem wp_calls {f:FuncId} {cl:Call} (ho:o.op=.call cl) (hf:cl.callee=.value (.func f)) (hcall:∀(args:Array Value) (w:World),(callFunc f args).run P w=.ok (.enter f args) w)
  (hC:Calls P f (cl.args.toList.map a.eval).toArray w fun e w'=>match e with
   | .returned v=>K (a.put o.dst v) w'
   | .panicked ch=>Q (.panic ch) a w'
   | .outgrown=>LetsOut Q):o.wp P a w K Q:=by
 have hr:(execOp a.eval o).run P w=.ok (.enter f (cl.args.map a.eval)) w:=by
  simp [execOp,ho,resolve,hf,Deferred.ofValue,Act.eval,invoke,hcall]
 have hm:cl.args.map a.eval=(cl.args.toList.map a.eval).toArray:=by
  apply Array.ext';simp
 unfold Oper.wp
 rw [hr,Oper.upon_enter,hm]
 exact hC.mono fun e w' he=>by cases e<;>exact he
theorem op_call (hs:∀r t,rt' r=some t→rt r=some t) (h:RR c sl rt ρ Fo [] a w) {f:FuncId} {cl:Call} (ho:o.op=.call cl) (hf:cl.callee=.value (.func f)) (hcall:∀(args:Array Value) (w:World),(callFunc f args).run P w=.ok (.enter f args) w)
  {s:Sum} (hM:Meets P f s) (hinp:s.inp=none) {vs:List V} (hv:VRs (envOf c sl rt ρ Fo [] w) vs (cl.args.toList.map a.eval)) (hd:DstOK c sl o.dst) (hnone:∀d,o.dst=some d→∀(us:List (Nat×Root)) k,lk us rt' (rid d k)=none→lk us rt (rid d k)=none)
  (hy:Yields (dlCall rt' o.dst s vs) Δ) (hK:Good c (Δ.slots sl) (lk Δ.rt rt) K):o.wp P a w K Q:=by
 unfold dlCall at hy
 split at hy
 ·rename_i hle
  rw [Bool.and_eq_true] at hle
  obtain ⟨hle,hkind⟩:=hle
  have hle:=Nat.le_of_ble_eq_true hle
  split at hy
  ·rename_i x us hargs
   cases hy with
   | bind hx hy=>
    rename_i zy
    obtain ⟨z,y⟩:=zy
    dsimp only at hy
    unfold argsIn at hargs
    split at hargs
    ·rename_i m us0 htake
     split at hargs
     ·rename_i n us1 hdata
      obtain ⟨Fo1,F,S,k1,k2,k3,k4,k5,k6⟩:=args_pre hs h hv htake hdata
      have hX:=k1.nodupX
      rw [List.append_nil] at hX
      rcases (by omega:lends s.ins=0∨lends s.ins=1) with h0 | h1
      ·obtain ⟨rfl,q2,q3,q4⟩:=lends_none h0 hargs
       rw [q3] at hy
       dsimp only at hy
       have hA:=q2 S w _ F k2
       refine wp_calls ho hf hcall (Calls.mono (hM x z y hx w S _ F [] hA hX (fun b hb=>(k1.inX b (by simpa using hb)).1) k3) fun e w' he=>?_)
       obtain ⟨rs,R1,R2,LL,rfl,p1,p2,p3,p4,p5,p6,p7,p8,p9,p10⟩:=he
       rw [hinp] at p10
       have p10:ArgsRep _ w' s.outs rs y R2 LL:=p10
       obtain ⟨rfl,_⟩:=q4 _ _ _ _ _ p9
       rw [List.nil_append] at p7 p8 p9 p10
       obtain ⟨g1,g2,g3⟩:=k1.called (w':=w') (X':=R2++[]) (fun b hb hx=>p5 b hb (by simpa using hx)) p4 p1 p2 p3 (fun b hb=>by simpa using p8 b (by simpa using hb)) (by simpa using p7)
       have hres:ArgsRep (Stab c w' (lk us rt) Fo1 (R2++[])) w' s.outs rs y R2 LL:=by
        cases hb:(loose s.outs&&loose (noData s.ins)) with
        | true=>rw [Bool.and_eq_true] at hb;exact p10.free hb.1
        | false=>
         have hS:=k5 hb
         refine p10.grow fun b hb'=>?_
         obtain ⟨b1,b2,b3⟩:=hb'
         rcases b2 with b2 | b2 | b2
         ·rw [hS] at b2;exact g2 b b2
         ·exact g3 b b1 (.inl (by simpa using b2)) (by simpa using b3)
         ·exact g3 b b1 (.inr b2) (by simpa using b3)
       refine fin_call g1 hres rfl hd ?_ hK
       cases hdst:o.dst with
       | none=>rw [hdst] at hy;cases hy;rfl
       | some d=>
        rw [hdst] at hy
        dsimp only at hy ⊢
        split at hy
        ·rename_i l rl hb
         split at hy
         ·rename_i hall
          cases hy
          refine ⟨l,rl,hb,fun r hr=>?_,rfl⟩
          have:=List.all_eq_true.1 hall r hr
          rw [Option.isNone_iff_eq_none] at this
          obtain ⟨j,e⟩:∃j,r.1=rid d j:=backs_rid hb r hr
          rw [e] at this ⊢
          exact hnone d hdst _ _ this
         ·cases hy
        ·cases hy
      ·obtain ⟨τ,o1,o1',i,v,yy,k⟩:=lends_one h1 hargs
       obtain ⟨p,t,o2,hvp,hok,htr,rfl,hlk,hso,hwk⟩:=lendIn_inv hs k.inn
       subst hvp
       obtain ⟨Fo2,w1,w2,w3⟩:=k1.weakenF htr hwk
       obtain ⟨mv,hmv,hvr⟩:=hv.get k.get
       obtain ⟨b,q,hwalk,rfl⟩:=hvr (validP_sub hs (okP_valid hok))
       have hwalk':=walkP_mono (w':=w) (B':=fun _=>True) (fun _ _ _ h=>h) (fun _ _=>trivial) hwalk
       obtain ⟨cm,Fm,l1,l2,l3,l4,l5,l6,l7⟩:=RR.lent (p:=p) (t:={ t with o:=o2 }) w1 (upd_same _ _ _) hlk hso hwalk'
       have hroot:=k.root p rfl
       have hlS:∀e∈b::Fm,¬S e:=fun e he=>k4 p.root t hroot htr e (w3 _ _ (l6 e he))
       have hF:∀e∈b::Fm,e ∉ F:=fun e he hm=>w1.disjX e (by simpa using hm) _ _ (upd_same _ _ _) (l6 e he)
       let S2:Nat→Prop:=fun e=>S e∨Stab c w (upd (lk us1 rt) p.root (some { t with o:=o2 })) Fo2 (F++[]) e
       obtain ⟨F',hperm,hA⟩:=k.args S2 w _ F (k2.mono (fun e he=>⟨.inl he,rfl⟩) (fun _ _=>rfl)) b q cm Fm hmv l1 l4 (l3.mono (fun e he=>⟨.inr he,rfl⟩) (fun _ _=>rfl))
       have hmem:∀e,e∈F'↔e=b∨e∈Fm∨e∈F:=fun e=>by rw [hperm.mem_iff];simp
       have hFnd:F'.Nodup:=hperm.nodup_iff.2 (by
        rw [show b::(Fm++F)=(b::Fm)++F from rfl]
        exact List.nodup_append.2 ⟨l5,hX,fun e he e' he' eq=>hF e he (eq▸he')⟩)
       have hlt:∀e∈F',e<w.heap.size:=fun e he=>by
        rcases (hmem e).1 he with h2 | h2 | h2
        ·exact (w1.inF _ _ (upd_same _ _ _) e (l6 e (by simp [h2]))).1
        ·exact (w1.inF _ _ (upd_same _ _ _) e (l6 e (by simp [h2]))).1
        ·exact (k1.inX e (by simpa using h2)).1
       have hS2:∀e,S2 e→e<w.heap.size∧e ∉ F':=fun e he=>by
        rcases he with he | he
        ·refine ⟨(k3 e he).1,fun hm=>?_⟩
         rcases (hmem e).1 hm with h2 | h2 | h2
         ·exact hlS e (by simp [h2]) he
         ·exact hlS e (by simp [h2]) he
         ·exact (k3 e he).2 h2
        ·refine ⟨he.1,fun hm=>?_⟩
         rcases (hmem e).1 hm with h2 | h2 | h2
         ·exact he.2.2.1 _ _ (upd_same _ _ _) (l6 e (by simp [h2]))
         ·exact he.2.2.1 _ _ (upd_same _ _ _) (l6 e (by simp [h2]))
         ·exact he.2.2.2 (by simpa using h2)
       refine wp_calls ho hf hcall (Calls.mono (hM x z y hx w S2 _ F' _ hA hFnd hlt hS2) fun e w' he=>?_)
       obtain ⟨rs,R1,R2,LL,rfl,p1,p2,p3,p4,p5,p6,p7,p8,p9,p10⟩:=he
       rw [hinp] at p10
       have p10:ArgsRep _ w' s.outs rs y R2 LL:=p10
       obtain ⟨y',kb1,kb2⟩:=k.back z
       rw [kb2 _ p rfl] at hy
       have e0:lk ((p.root,{ t with o:=o2 })::us1) rt' p.root=some { t with o:=o2 }:=upd_same _ _ _
       rw [e0] at hy
       dsimp only at hy
       cases hput:put τ (o1',y') p.steps t.τ o2 t.x p.off with
       | none=>rw [hput] at hy;cases hy
       | some zz=>
        obtain ⟨o3,x3⟩:=zz
        rw [hput] at hy
        dsimp only at hy
        obtain ⟨b',q',cs,F1,e1,e2,c1,c2,c3⟩:=kb1 _ _ _ _ p9
        simp only [List.cons.injEq,Prod.mk.injEq,and_true] at e2
        obtain ⟨rfl,rfl⟩:=e2
        subst e1
        have hn8:=List.nodup_cons.1 (show (b::(F1++R2)).Nodup from p7)
        have hR2:∀e∈R2,e∈F∨w.heap.size≤e:=fun e he=>by
         rcases (p8 e (by simp [he])).2 with h2 | h2
         ·rcases (hmem e).1 h2 with h3 | h3 | h3
          ·exact absurd (by rw [←h3];exact List.mem_append_right _ he) hn8.1
          ·rw [Bool.or_eq_true,Bool.or_eq_true] at hkind
           rcases hkind with (h4 | h4) | h4
           ·have:=Nat.eq_of_beq_eq_true h4;omega
           ·rw [onlyData_nil h4 p10] at he;cases he
           ·rw [allImm_nil (k.imm h4) l3] at h3;cases h3
          ·exact .inl h3
         ·exact .inr h2
        have hlent:Lent w w' b q τ.size Fm (F++[]) F1 (R2++[]):=by
         refine ⟨p1,p2,p3,p4,fun e he h1 h2 h3=>p5 e he fun hm=>?_,fun j hj=>p6 b j ⟨q,τ.size,by simp,by omega⟩,fun j=>by rw [c2 j,l4 j],fun e he=>⟨(p8 e (by simp [he])).1,?_⟩,fun e he=>?_,by simpa using hn8.2⟩
         ·rcases (hmem e).1 hm with h4 | h4 | h4
          ·exact h1 h4
          ·exact h2 h4
          ·exact h3 (by simpa using h4)
         ·rcases (p8 e (by simp [he])).2 with h2 | h2
          ·rcases (hmem e).1 h2 with h3 | h3 | h3
           ·exact absurd (by rw [←h3];exact List.mem_append_left _ he) hn8.1
           ·exact .inl h3
           ·exact .inr (.inl (by simpa using h3))
          ·exact .inr (.inr h2)
         ·have he:e∈R2:=by simpa using he
          exact ⟨(p8 e (by simp [he])).1,(hR2 e he).imp (fun h=>by simpa using h) id⟩
        have hground:∀S'':Nat→Prop,(∀e,e<w'.heap.size→(Stab c w (upd (lk us1 rt) p.root (some { t with o:=o2 })) Fo2 (F++[]) e∨e∈Fm∨e∈F++[]∨w.heap.size≤e)→e ∉ F1→e ∉ R2++[]→S'' e)→Rep S'' w' τ o1' cs y' F1:=fun S'' hS''=>by
         cases hb:(loose s.outs&&loose (noData s.ins)) with
         | true=>rw [Bool.and_eq_true] at hb;exact c3.free (k.full hb.2) (fun _ _=>rfl)
         | false=>
          have hS:=k5 hb
          refine c3.mono (fun e he=>⟨?_,rfl⟩) (fun _ _=>rfl)
          obtain ⟨b1,b2,b3⟩:=he
          refine hS'' e b1 ?_ (fun hm=>b3 (by simp [hm])) (fun hm=>b3 (by simp at hm;simp [hm]))
          rcases b2 with (b2 | b2) | b2 | b2
          ·rw [hS] at b2;exact .inl (w2 e b2)
          ·exact .inl b2
          ·rcases (hmem e).1 b2 with h3 | h3 | h3
           ·exact absurd (by simp [h3]) b3
           ·exact .inr (.inl h3)
           ·exact .inr (.inr (.inl (by simpa using h3)))
          ·exact .inr (.inr (.inr b2))
        obtain ⟨Fo3,r1,r2⟩:=l7 w' (o1',y') cs F1 (R2++[]) (o3,x3) hput hlent c1 hground
        have hres:ArgsRep (Stab c w' (upd (upd (lk us1 rt) p.root (some { t with o:=o2 })) p.root (some (Root.lent { t with o:=o2 } τ p o3 x3))) Fo3 (R2++[])) w' s.outs rs y R2 LL:=by
         cases hb:(loose s.outs&&loose (noData s.ins)) with
         | true=>rw [Bool.and_eq_true] at hb;exact p10.free hb.1
         | false=>
          have hS:=k5 hb
          refine p10.grow fun e he=>?_
          obtain ⟨b1,b2,b3⟩:=he
          refine r2 e b1 ?_ (fun hm=>b3 (by simp [hm])) (fun hm=>b3 (by simp at hm;simp [hm]))
          rcases b2 with (b2 | b2) | b2 | b2
          ·rw [hS] at b2;exact .inl (w2 e b2)
          ·exact .inl b2
          ·rcases (hmem e).1 b2 with h3 | h3 | h3
           ·exact absurd (by simp [h3]) b3
           ·exact .inr (.inl h3)
           ·exact .inr (.inr (.inl (by simpa using h3)))
          ·exact .inr (.inr (.inr b2))
        refine fin_call (us:=(p.root,Root.lent { t with o:=o2 } τ p o3 x3)::(p.root,{ t with o:=o2 })::us1) (rt0:=rt) r1 hres rfl hd ?_ hK
        cases hdst:o.dst with
        | none=>rw [hdst] at hy;cases hy;rfl
        | some d=>
         rw [hdst] at hy
         dsimp only at hy ⊢
         split at hy
         ·rename_i l rl hb
          split at hy
          ·rename_i hall
           cases hy
           refine ⟨l,rl,hb,fun r hr=>?_,rfl⟩
           have:=List.all_eq_true.1 hall r hr
           rw [Option.isNone_iff_eq_none] at this
           obtain ⟨j,e⟩:∃j,r.1=rid d j:=backs_rid hb r hr
           rw [e] at this ⊢
           exact hnone d hdst _ _ this
          ·cases hy
         ·cases hy
     ·cases hargs
    ·cases hargs
  ·cases hy
 ·cases hy
theorem op_callE (hs:∀r t,rt' r=some t→rt r=some t) (h:RR c sl rt ρ Fo [] a w) {f:FuncId} {cl:Call} (ho:o.op=.call cl) (hf:cl.callee=.value (.func f)) (hcall:∀(args:Array Value) (w:World),(callFunc f args).run P w=.ok (.enter f args) w)
  {s:Sum} (hM:Meets P f s) {ip:InP} (hinp:s.inp=some ip) {vs:List V} (hv:VRs (envOf c sl rt ρ Fo [] w) vs (cl.args.toList.map a.eval)) (hd:DstOK c sl o.dst)
  (hy:Yields (dlCallE rt' o.dst s ip vs) Δ) (hK:Good c (Δ.slots sl) (lk Δ.rt rt) K):o.wp P a w K Q:=by
 unfold dlCallE at hy
 split at hy
 ·rename_i hle
  have h1:=Nat.eq_of_beq_eq_true hle
  split at hy
  ·rename_i x us hargs
   cases hy with
   | bind hx hy=>
    rename_i zy
    obtain ⟨z,y⟩:=zy
    dsimp only at hy
    unfold argsIn at hargs
    split at hargs
    ·rename_i m us0 htake
     split at hargs
     ·rename_i n us1 hdata
      obtain ⟨Fo1,F,S,k1,k2,k3,k4,k5,k6⟩:=args_pre hs h hv htake hdata
      have hX:=k1.nodupX
      rw [List.append_nil] at hX
      obtain ⟨τ,o1,o1',i,v,yy,k⟩:=lends_one h1 hargs
      obtain ⟨p,t,o2,hvp,hok,htr,rfl,hlk,hso,hwk⟩:=lendIn_inv hs k.inn
      subst hvp
      obtain ⟨Fo2,w1,w2,w3⟩:=k1.weakenF htr hwk
      obtain ⟨mv,hmv,hvr⟩:=hv.get k.get
      obtain ⟨b,q,hwalk,rfl⟩:=hvr (validP_sub hs (okP_valid hok))
      have hwalk':=walkP_mono (w':=w) (B':=fun _=>True) (fun _ _ _ h=>h) (fun _ _=>trivial) hwalk
      obtain ⟨cm,Fm,l1,l2,l3,l4,l5,l6,l7⟩:=RR.lent (p:=p) (t:={ t with o:=o2 }) w1 (upd_same _ _ _) hlk hso hwalk'
      have hroot:=k.root p rfl
      have hlS:∀e∈b::Fm,¬S e:=fun e he=>k4 p.root t hroot htr e (w3 _ _ (l6 e he))
      have hF:∀e∈b::Fm,e ∉ F:=fun e he hm=>w1.disjX e (by simpa using hm) _ _ (upd_same _ _ _) (l6 e he)
      let S2:Nat→Prop:=fun e=>S e∨Stab c w (upd (lk us1 rt) p.root (some { t with o:=o2 })) Fo2 (F++[]) e
      obtain ⟨F',hperm,hA⟩:=k.args S2 w _ F (k2.mono (fun e he=>⟨.inl he,rfl⟩) (fun _ _=>rfl)) b q cm Fm hmv l1 l4 (l3.mono (fun e he=>⟨.inr he,rfl⟩) (fun _ _=>rfl))
      have hmem:∀e,e∈F'↔e=b∨e∈Fm∨e∈F:=fun e=>by rw [hperm.mem_iff];simp
      have hFnd:F'.Nodup:=hperm.nodup_iff.2 (by
       rw [show b::(Fm++F)=(b::Fm)++F from rfl]
       exact List.nodup_append.2 ⟨l5,hX,fun e he e' he' eq=>hF e he (eq▸he')⟩)
      have hlt:∀e∈F',e<w.heap.size:=fun e he=>by
       rcases (hmem e).1 he with h2 | h2 | h2
       ·exact (w1.inF _ _ (upd_same _ _ _) e (l6 e (by simp [h2]))).1
       ·exact (w1.inF _ _ (upd_same _ _ _) e (l6 e (by simp [h2]))).1
       ·exact (k1.inX e (by simpa using h2)).1
      have hS2:∀e,S2 e→e<w.heap.size∧e ∉ F':=fun e he=>by
       rcases he with he | he
       ·refine ⟨(k3 e he).1,fun hm=>?_⟩
        rcases (hmem e).1 hm with h2 | h2 | h2
        ·exact hlS e (by simp [h2]) he
        ·exact hlS e (by simp [h2]) he
        ·exact (k3 e he).2 h2
       ·refine ⟨he.1,fun hm=>?_⟩
        rcases (hmem e).1 hm with h2 | h2 | h2
        ·exact he.2.2.1 _ _ (upd_same _ _ _) (l6 e (by simp [h2]))
        ·exact he.2.2.1 _ _ (upd_same _ _ _) (l6 e (by simp [h2]))
        ·exact he.2.2.2 (by simpa using h2)
      refine wp_calls ho hf hcall (Calls.mono (hM x z y hx w S2 _ F' _ hA hFnd hlt hS2) fun e w' he=>?_)
      obtain ⟨rs,R1,R2,LL,rfl,p1,p2,p3,p4,p5,p6,p7,p8,p9,p10⟩:=he
      rw [hinp] at p10
      obtain ⟨rfl,nn,j4,bb,qq,kk,a0,len,cap,j1,j2,j3,rfl⟩:=p10
      simp only [List.cons.injEq,Prod.mk.injEq,and_true] at j1
      obtain ⟨rfl,rfl,rfl⟩:=j1
      obtain ⟨y',kb1,kb2⟩:=k.back z
      rw [kb2 _ p rfl] at hy
      have e0:lk ((p.root,{ t with o:=o2 })::us1) rt' p.root=some { t with o:=o2 }:=upd_same _ _ _
      rw [e0] at hy
      dsimp only at hy
      cases hput:put τ (o1',y') p.steps t.τ o2 t.x p.off with
      | none=>rw [hput] at hy;cases hy
      | some zz=>
       obtain ⟨o3,x3⟩:=zz
       rw [hput] at hy
       dsimp only at hy
       obtain ⟨b',q',cs,F1,e1,e2,c1,c2,c3⟩:=kb1 _ _ _ _ p9
       simp only [List.cons.injEq,Prod.mk.injEq,and_true] at e2
       obtain ⟨rfl,rfl⟩:=e2
       subst e1
       have hn8:=List.nodup_cons.1 (show (b::F1).Nodup by simpa using p7)
       have hlent:Lent w w' b q τ.size Fm (F++[]) F1 ([]++[]):=by
        refine ⟨p1,p2,p3,p4,fun e he h1 h2 h3=>p5 e he fun hm=>?_,fun j hj=>p6 b j ⟨q,τ.size,by simp,by omega⟩,fun j=>by rw [c2 j,l4 j],fun e he=>⟨(p8 e (by simp [he])).1,?_⟩,fun e he=>by simp at he,by simpa using hn8.2⟩
        ·rcases (hmem e).1 hm with h4 | h4 | h4
         ·exact h1 h4
         ·exact h2 h4
         ·exact h3 (by simpa using h4)
        ·rcases (p8 e (by simp [he])).2 with h2 | h2
         ·rcases (hmem e).1 h2 with h3 | h3 | h3
          ·exact absurd (by rw [←h3];exact he) hn8.1
          ·exact .inl h3
          ·exact .inr (.inl (by simpa using h3))
         ·exact .inr (.inr h2)
       have hground:∀S'':Nat→Prop,(∀e,e<w'.heap.size→(Stab c w (upd (lk us1 rt) p.root (some { t with o:=o2 })) Fo2 (F++[]) e∨e∈Fm∨e∈F++[]∨w.heap.size≤e)→e ∉ F1→e ∉ ([]:List Nat)++[]→S'' e)→Rep S'' w' τ o1' cs y' F1:=fun S'' hS''=>by
        cases hb:loose (noData s.ins) with
        | true=>exact c3.free (k.full hb) (fun _ _=>rfl)
        | false=>
         have hS:=k5 hb
         refine c3.mono (fun e he=>⟨?_,rfl⟩) (fun _ _=>rfl)
         obtain ⟨b1,b2,b3⟩:=he
         refine hS'' e b1 ?_ (fun hm=>b3 (by simp [hm])) (by simp)
         rcases b2 with (b2 | b2) | b2 | b2
         ·rw [hS] at b2;exact .inl (w2 e b2)
         ·exact .inl b2
         ·rcases (hmem e).1 b2 with h3 | h3 | h3
          ·exact absurd (by simp [h3]) b3
          ·exact .inr (.inl h3)
          ·exact .inr (.inr (.inl (by simpa using h3)))
         ·exact .inr (.inr (.inr b2))
       obtain ⟨Fo3,r1,r2⟩:=l7 w' (o1',y') cs F1 ([]++[]) (o3,x3) hput hlent c1 hground
       rw [j4] at hy
       dsimp only at hy
       split at hy
       case h_2=>cases hy
       case h_1 u hres=>
        have hyu:Yields (ret1 o.dst u ((p.root,Root.lent { t with o:=o2 } τ p o3 x3)::(p.root,{ t with o:=o2 })::us1)) Δ:=hy
        rw [k.lv] at hres
        unfold inPtr at hres
        dsimp only at hres
        split at hres
        ·rename_i hst
         have hst:p.steps=[]:=by simpa using hst
         have e3:∀rt0,lk ((p.root,Root.lent { t with o:=o2 } τ p o3 x3)::(p.root,{ t with o:=o2 })::us1) rt0 p.root=some (Root.lent { t with o:=o2 } τ p o3 x3):=fun _=>upd_same _ _ _
         rw [e3] at hres
         dsimp only at hres
         split at hres
         ·rename_i oe ys hsub
          cases hres
          have hwp:walkP w (Bof c w rt ρ Fo [] p.root) (ρ p.root) p b q:=hwalk
          unfold walkP at hwp
          have hrt:lk ((p.root,Root.lent { t with o:=o2 } τ p o3 x3)::(p.root,{ t with o:=o2 })::us1) rt=upd (upd (lk us1 rt) p.root (some { t with o:=o2 })) p.root (some (Root.lent { t with o:=o2 } τ p o3 x3)):=rfl
          cases hL:ρ p.root with
          | reg cs0=>rw [hL,hst] at hwp;exact hwp.elim
          | mem b0 o0=>
           rw [hL,hst] at hwp
           obtain ⟨rfl,rfl⟩:b=b0∧q=o0+p.off:=hwp
           have hoff:o0+p.off+ip.off=o0+(p.off+ip.off):=Nat.add_assoc _ _ _
           rw [hoff] at j2
           have hh:hdrAt w' (fun _=>True) (ρ p.root) ⟨p.root,p.off+ip.off,[],0,0⟩ (.slice (some ⟨a0,0,none⟩) len cap):=by
            rw [hL]
            exact ⟨b,o0+(p.off+ip.off),⟨rfl,rfl⟩,j2⟩
           obtain ⟨Fq,hrep,hB,_⟩:=RR.hdrA (p:=⟨p.root,p.off+ip.off,[],0,0⟩) r1 (upd_same _ _ _) hsub hh
           have hBa:Bof c w' (upd (upd (lk us1 rt) p.root (some { t with o:=o2 })) p.root (some (Root.lent { t with o:=o2 } τ p o3 x3))) ρ Fo3 ([]++[]) p.root a0:=by
            obtain ⟨a1,cp1,e1,g1,g2,g3⟩:=hrep
            simp only [List.cons.injEq,and_true,Value.slice.injEq] at e1
            obtain ⟨rfl,rfl,rfl⟩:=e1
            rcases g3 with ⟨g3,_⟩ | ⟨b',Fs,g3,g4,_⟩
            ·cases g3
            ·simp only [Option.some.injEq,Addr.mk.injEq,and_true] at g3
             subst g3
             exact hB _ (by rw [g4];exact List.mem_cons_self)
           refine fin1 (rt':=upd (upd (lk us1 rt) p.root (some { t with o:=o2 })) p.root (some (Root.lent { t with o:=o2 } τ p o3 x3))) hrt (by simpa using r1) hd (v:=retV [_]) ?_ ?_ (fun _=>rfl) hyu hK
           ·intro _
            refine ⟨a0,nn.toNat * ip.e.size+ip.soff,?_,rfl⟩
            show walkP w' _ (ρ p.root) _ _ _
            rw [hL]
            exact ⟨a0,len,cap,j2,j3,(by rw [List.append_nil] at hBa;exact hBa),rfl,rfl⟩
           ·exact ⟨_,upd_same _ _ _,Nat.le_refl _,Nat.le_refl _⟩
         ·cases hres
        ·cases hres
     ·cases hargs
    ·cases hargs
  ·cases hy
 ·cases hy
end
end Go.Rd
namespace Go.Rd
section
variable {P:Program} {T:Tab} {w:World}
def eqTy (P:Program) (T:Tab):Nat→TypeId→Ty→Bool
 | 0,_,_=>false
 | _+1,_,.int _=>true
 | _+1,_,.bool=>true
 | n+1,t,.st _=>match P.underlying t with
  | some (.struct fs)=>!P.stoodInHeld t&&fs.toList.all fun f=>!(f.name == "_")&&(match T f.type with
   | some σ=>eqTy P T n f.type σ
   | none=>false)
  | _=>false
 | _,_,_=>false
theorem take_append_len {α:Type} {a b:List α} {n:Nat} (h:a.length=n):(a++b).take n=a:=by
 subst h;simp
theorem equalIn_sound (hT:TOK P T):∀(n:Nat) (t:TypeId) (τ:Ty) (k:Nat) (cs ds:List Value) (x y:τ.den) (b:Bool) (S:Nat→Prop),T t=some τ→eqTy P T n t τ=true→Rep S w τ .imm cs x []→Rep S w τ .imm ds y []→eqD τ x y=some b→
  (Op.equalIn (n+k) t (valOf τ cs) (valOf τ ds)).run P w=.ok b w:=by
 intro n
 induction n with
 | zero=>intro t τ k cs ds x y b S ht he;simp [eqTy] at he
 | succ n ih=>
  intro t τ k cs ds x y b S ht he h1 h2 hb
  rw [show n+1+k=(n+k)+1 by omega]
  obtain ⟨d,hd,hdesc⟩:=(hT.get ht).desc
  cases τ with
  | int kk=>
   have hu:P.underlying t=some (.int kk):=by cases d<;>simp_all [descOK]
   obtain ⟨e1,_,_⟩:=h1.2.2 (by simp)
   obtain ⟨e2,_,_⟩:=h2.2.2 (by simp)
   subst e1 e2
   simp only [eqD,Option.some.injEq] at hb
   subst hb
   rw [←beq_decide]
   exact run_equalIn_int w (n+k) t kk kk x y hu
  | bool=>
   have hu:P.underlying t=some .bool:=by cases d<;>simp_all [descOK]
   have e1:=h1.2.2 (by simp)
   have e2:=h2.2.2 (by simp)
   subst e1 e2
   simp only [eqD,Option.some.injEq] at hb
   subst hb
   exact run_equalIn_bool' w (n+k) t x y hu
  | st τ=>
   simp only [eqTy] at he
   split at he
   ·rename_i fs hu
    simp only [Bool.and_eq_true,Bool.not_eq_true'] at he
    obtain ⟨he1,he2⟩:=he
    rw [hu] at hd
    cases hd
    have hfo:P.fieldsOf t=fs:=by unfold Program.fieldsOf;rw [hu]
    show (Op.equalIn (n+k+1) t (.agg cs.toArray) (.agg ds.toArray)).run P w=_
    rw [run_equalIn_struct w (n+k) t _ _ (by rw [hfo];exact hu) he1,hfo]
    simp only [descOK] at hdesc
    have key:∀(l:List Field) (σ:Ty) (off:Nat) (xs ys p1 p2:List Value) (u v:σ.den) (b:Bool),fieldsOK T l σ off=true→(∀f∈l,(!(f.name == "_")&&(match T f.type with
      | some σ=>eqTy P T n f.type σ
      | none=>false))=true)→Rep S w σ .imm xs u []→Rep S w σ .imm ys v []→p1.length=off→p2.length=off→eqD σ u v=some b→(Op.eqFields (n+k) (p1++xs).toArray (p2++ys).toArray l).run P w=.ok b w:=by
     intro l
     induction l with
     | nil=>
      intro σ off xs ys p1 p2 u v b hf _ _ _ _ _ hb
      cases σ<;>simp [fieldsOK] at hf
      simp only [eqD,Option.some.injEq] at hb
      subst hb
      simp [Op.eqFields]
     | cons f l ihl=>
      intro σ off xs ys p1 p2 u v b hf hl hr1 hr2 hp1 hp2 hb
      have hfl:=hl f List.mem_cons_self
      simp only [Bool.and_eq_true,Bool.not_eq_true',beq_eq_false_iff_ne,ne_eq] at hfl
      obtain ⟨hname,hty⟩:=hfl
      have step:∀(α:Ty) (a1 a2 r1 r2:List Value) (ua va:α.den) (ba:Bool),T f.type=some α→f.offset=off→xs=a1++r1→ys=a2++r2→Rep S w α .imm a1 ua []→Rep S w α .imm a2 va []→eqD α ua va=some ba→
        (ba=true→(Op.eqFields (n+k) (p1++xs).toArray (p2++ys).toArray l).run P w=.ok b w)→(ba=false→b=false)→(Op.eqFields (n+k) (p1++xs).toArray (p2++ys).toArray (f::l)).run P w=.ok b w:=by
       intro α a1 a2 r1 r2 ua va ba hα hoff hx hy ha1 ha2 hba ht1 hf1
       rw [hα] at hty
       have e1:(part f.type (p1++xs).toArray f.offset).run P w=.ok (valOf α a1) w:=by
        rw [run_part (hT.get hα) (by rw [hoff,hx];simp only [List.length_append];rw [ha1.length];omega)]
        rw [hoff,←hp1,List.drop_left,hx,take_append_len ha1.length]
       have e2:(part f.type (p2++ys).toArray f.offset).run P w=.ok (valOf α a2) w:=by
        rw [run_part (hT.get hα) (by rw [hoff,hy];simp only [List.length_append];rw [ha2.length];omega)]
        rw [hoff,←hp2,List.drop_left,hy,take_append_len ha2.length]
       have e3:=ih f.type α k a1 a2 ua va ba S hα hty ha1 ha2 hba
       simp only [Op.eqFields]
       rw [if_pos hname]
       simp only [Sem.run_bind,e1,e2,e3,Result.andThen_ok]
       cases ba with
       | true=>simpa using ht1 rfl
       | false=>rw [hf1 rfl];simp
      cases l with
      | nil=>
       simp only [fieldsOK,Bool.and_eq_true] at hf
       obtain ⟨⟨⟨f1,f2⟩,_⟩,f4⟩:=hf
       have hα:T f.type=some σ:=by
        split at f2
        ·rename_i σ' e;rw [e,Ty.eq_of_beq f2]
        ·cases f2
       refine step σ xs ys [] [] u v b hα (Nat.eq_of_beq_eq_true f1) (by simp) (by simp) hr1 hr2 hb (fun e=>?_) id
       rw [e];simp [Op.eqFields]
      | cons g l=>
       cases σ with
       | prod α β=>
        simp only [fieldsOK,Bool.and_eq_true] at hf
        obtain ⟨⟨⟨f1,f2⟩,_⟩,f4⟩:=hf
        have hα:T f.type=some α:=by
         split at f2
         ·rename_i σ' e;rw [e,Ty.eq_of_beq f2]
         ·cases f2
        obtain ⟨c1,c2,F1,F2,rfl,hF,q1,q2⟩:=hr1
        obtain ⟨d1,d2,G1,G2,rfl,hF',q3,q4⟩:=hr2
        obtain ⟨rfl,rfl⟩:=List.append_eq_nil_iff.1 hF.symm
        obtain ⟨rfl,rfl⟩:=List.append_eq_nil_iff.1 hF'.symm
        simp only [eqD] at hb
        split at hb
        ·rename_i b1 b2 g1 g2
         simp only [Option.some.injEq] at hb
         subst hb
         refine step α c1 d1 c2 d2 u.1 v.1 b1 hα (Nat.eq_of_beq_eq_true f1) rfl rfl q1 q3 g1 (fun e=>?_) (fun e=>by rw [e];rfl)
         rw [←List.append_assoc,←List.append_assoc,e,Bool.true_and]
         exact ihl β (off+α.size) c2 d2 (p1++c1) (p2++d1) u.2 v.2 b2 f4 (fun f hf=>hl f (List.mem_cons_of_mem _ hf)) q2 q4 (by rw [List.length_append,hp1,q1.length]) (by rw [List.length_append,hp2,q3.length]) g2
        ·cases hb
       | _=>simp [fieldsOK] at hf
    exact key fs.toList τ 0 cs ds [] [] x y b hdesc (List.all_eq_true.1 he2) h1 h2 rfl rfl hb
   ·cases he
  | _=>simp [eqTy] at he
theorem eqs_sound (hT:TOK P T) {l:List Nat} (h:l.all (fun t=>!P.eqGuardType P.depth t&&(match T t with
  | some τ=>eqTy P T 8 t τ
  | none=>true))=true):EqOK P T (fun t=>hasNat t l):=by
 intro t τ ht htab w S X Y xs ys x y b hx hy hb
 have:=List.all_eq_true.1 h t (hasNat_iff.1 ht)
 rw [htab] at this
 simp only [Bool.and_eq_true,Bool.not_eq_true'] at this
 have he:=equalIn_sound (w:=w) hT 8 t (.st τ) 9992 xs ys x y b S htab this.2 hx hy hb
 have he:(Op.equalIn 10000 t (.agg xs.toArray) (.agg ys.toArray)).run P w=.ok b w:=he
 constructor
 ·rw [Sem.run_bind,run_eqGuard_agg _ _ _ _ _ _ _ this.1]
  simp only [Result.andThen_ok]
  rw [run_eql_struct,he]
  rfl
 ·rw [Sem.run_bind,run_eqGuard_agg _ _ _ _ _ _ _ this.1]
  simp only [Result.andThen_ok]
  rw [run_neq_struct,he]
  rfl
end
end Go.Rd
namespace Go.Rd
section
variable {P:Program} {T:Tab} {c:Ctx} {sl:Slots} {rt rt':Roots} {ρ:Nat→Loc} {Fo:Nat→List Nat} {X:List Nat} {a:Act} {w:World} {K:Act→World→Prop} {Q:Exit→Act→World→Prop} {o:Oper} {Δ:Dl}
theorem op_buildArr (hT:TOK P T) (hs:∀r t,rt' r=some t→rt r=some t) (h:RR c sl rt ρ Fo [] a w) {t:TypeId} {n:Nat} {ps:Array (Nat×Operand)} (ho:o.op=.build t ps) {e:Ty} (ht:T t=some (.arr n e)) (hd:DstOK c sl o.dst)
  {vs:List V} (hv:VRs (envOf c sl rt ρ Fo [] w) vs ((ps.toList.map (·.2)).map a.eval)) (hn:n=vs.length) (hidx:ps.toList.map (·.1)=List.range n)
  {mv:Bool} {oo:Ow} {xs:List e.den} {us:List (Nat×Root)} (hg:elems rt' mv e [] vs=some (oo,xs,us)) (ha:allImm e oo=true)
  (hy:Yields (ret1 o.dst (.dat (.arr n e) xs) us) Δ) (hK:Good c (Δ.slots sl) (lk Δ.rt rt) K):o.wp P a w K Q:=by
 obtain ⟨Fo1,F,css,k1,k2,k3,k4,k5⟩:=elems_sound (us:=[]) hs h (hv.grabs hs) hg
 obtain ⟨e',hu,hr,hpos⟩:=(hT.get ht).arr_elem hT
 obtain ⟨i,hi,hzv,hb,his⟩:=hr.zero
 obtain ⟨i0,hi0,hzv0,_,_⟩:=(hT.get ht).zero
 obtain ⟨l1,l2⟩:=k3.len
 have hml:css.length=n:=by
  have h1:=congrArg List.length k2
  have h2:=congrArg List.length hidx
  simp at h1 h2
  omega
 have hcs:∀cs∈css,cs.length=e.size:=by
  have gen:∀(S:Nat→Prop) (css:List (List Value)) (xs:List e.den) (F:List Nat),Els S w e oo css xs F→∀cs∈css,cs.length=e.size:=by
   intro S css
   induction css with
   | nil=>intro xs F _ cs h;simp at h
   | cons c0 css ih=>
    intro xs F h cs hm
    cases xs with
    | nil=>exact h.elim
    | cons x xs=>
     obtain ⟨F1,F2,_,h1,h2⟩:=h
     rcases List.mem_cons.1 hm with rfl | hm
     ·exact h1.length
     ·exact ih xs F2 h2 cs hm
  exact gen _ _ _ _ k3
 have hcells:∀cs∈css,(valOf e cs).cells=cs.toArray:=fun cs hm=>cells_valOf (hcs cs hm) (k4 cs hm) (fun h=>size_of_leaf h hr.leaf)
 have hparts:(ps.map fun (i,x)=>(i,a.eval x)).toList=((css.map (valOf e)).zipIdx 0).map fun x=>(x.2,x.1):=by
  have h1:ps.toList.map (fun p=>(p.1,a.eval p.2))=((ps.toList.map (·.1)).zip ((ps.toList.map (·.2)).map a.eval)):=by
   simp [List.zip_map',List.map_map]
  rw [Array.toList_map]
  refine Eq.trans h1 ?_
  have h2:n=(css.map (valOf e)).length:=by simp [hml]
  rw [k2,hidx,h2,List.range_eq_range',range_zip]
 have hzc:(valOf (.arr n e) (zcells (.arr n e))).cells=(zcells (.arr n e)).toArray:=rfl
 have hbuilt:P.built t (ps.map fun (i,x)=>(i,a.eval x)).toList=some css.flatten.toArray:=by
  unfold Program.built
  rw [hi0,hu]
  dsimp only
  rw [hzv0,hi]
  dsimp only
  rw [hzc,hparts,his,Great.fill_whole hpos]
  ·congr 2
   rw [List.flatMap_map]
   clear hparts k2
   have:∀css:List (List Value),(∀cs∈css,(valOf e cs).cells=cs.toArray)→css.flatMap (fun cs=>(valOf e cs).cells.toList)=css.flatten:=by
    intro css
    induction css with
    | nil=>intro _;rfl
    | cons c0 css ih=>intro h;rw [List.flatMap_cons,h c0 (by simp),ih (fun cs hm=>h cs (by simp [hm]))];rfl
   exact this css hcells
  ·intro v hv
   obtain ⟨cs,hm,rfl⟩:=List.mem_map.1 hv
   rw [hcells cs hm];simp [hcs cs hm]
  ·simp only [List.length_map,hml]
   show n * e.size=(zcells (.arr n e)).length
   rw [zcells_length];rfl
 obtain ⟨Fs,hF,hside⟩:=k3.side []
 rw [List.append_nil (as:=css.flatten)] at hside
 obtain ⟨hs1,hs2⟩:=hside
 obtain ⟨g1,g2,_⟩:=k1.release (X':=[]) (List.nil_sublist _)
 have hrep:Rep (Stab c w (lk us rt) Fo1 []) w (.arr n e) .imm css.flatten xs []:=by
  refine ⟨rfl,by rw [l2,←l1,hml],fun _=>⟨by rw [←l1,hml],fun j y hj=>?_⟩⟩
  obtain ⟨Fi,hFi⟩:∃Fi,Fs[j]?=some Fi:=⟨_,List.getElem?_eq_getElem (by rw [hs1];exact (List.getElem?_eq_some_iff.1 hj).1)⟩
  exact (allImm_rep ha (hs2 j y Fi hj hFi)).mono (fun b hb=>⟨g2 b hb,rfl⟩) (fun _ _=>rfl)
 refine wp_value (w':=w) (v:=.agg css.flatten.toArray) ?_ (fin1 rfl g1 hd (u:=.dat (.arr n e) xs) (v:=.agg css.flatten.toArray) ⟨css.flatten,rfl,hrep⟩ trivial (fun _=>rfl) hy hK)
 simp [execOp,ho,run_build w t _ _ hbuilt]
theorem op_buildArr0 (hT:TOK P T) (h:RR c sl rt ρ Fo [] a w) {t:TypeId} {n:Nat} {ps:Array (Nat×Operand)} (ho:o.op=.build t ps) {e:Ty} (ht:T t=some (.arr n e)) (hd:DstOK c sl o.dst) (hidx:ps.toList.map (·.1)=[])
  (hy:Yields (ret1 o.dst (.dat (.arr n e) (Ty.zero (.arr n e))) []) Δ) (hK:Good c (Δ.slots sl) (lk Δ.rt rt) K):o.wp P a w K Q:=by
 obtain ⟨e',hu,hr,hpos⟩:=(hT.get ht).arr_elem hT
 obtain ⟨i,hi,hzv,hb,his⟩:=hr.zero
 obtain ⟨i0,hi0,hzv0,_,_⟩:=(hT.get ht).zero
 have hps:ps=#[]:=Array.ext' (by simpa using hidx)
 subst hps
 have hbuilt:P.built t (#[].map fun (x:Nat×Operand)=>(x.1,a.eval x.2)).toList=some (zcells (.arr n e)).toArray:=by
  unfold Program.built
  rw [hi0,hu]
  dsimp only
  rw [hzv0,hi]
  show Instr.fill _ (zcells (.arr n e)).toArray (Array.map _ #[]).toList=_
  simp [Instr.fill]
 refine wp_value (w':=w) (v:=.agg (zcells (.arr n e)).toArray) ?_ (fin1 (us:=[]) rfl h hd (u:=.dat (.arr n e) (Ty.zero (.arr n e))) (v:=.agg (zcells (.arr n e)).toArray) ⟨_,rfl,Rep.zero_imm (.arr n e)⟩ trivial (fun _=>rfl) hy hK)
 have:=run_build w t _ _ hbuilt
 simp at this
 simp [execOp,ho,this]
end
end Go.Rd
namespace Go.Rd
theorem copyL_eq {α:Type} (y:List α) (lo:Nat) (zs:List α):copyL y lo zs=y.take lo++zs++y.drop (lo+zs.length):=rfl
theorem copyL_length {α:Type} {y:List α} {lo:Nat} {zs:List α} (h:lo+zs.length≤y.length):(copyL y lo zs).length=y.length:=by
 simp [copyL_eq];omega
theorem copyL_in {α:Type} {y:List α} {lo:Nat} {zs:List α} (h:lo+zs.length≤y.length) {i:Nat} (h1:lo≤i) (h2:i<lo+zs.length):(copyL y lo zs)[i]?=zs[i-lo]?:=by
 have hl:(y.take lo).length=lo:=by simp;omega
 rw [copyL_eq]
 rw [List.append_assoc,List.getElem?_append_right (by omega),hl,List.getElem?_append_left (by omega)]
theorem copyL_out {α:Type} {y:List α} {lo:Nat} {zs:List α} (h:lo+zs.length≤y.length) {i:Nat} (h1:i<lo∨lo+zs.length≤i):(copyL y lo zs)[i]?=y[i]?:=by
 have hl:(y.take lo).length=lo:=by simp;omega
 rw [copyL_eq]
 rcases h1 with h1 | h1
 ·rw [List.append_assoc,List.getElem?_append_left (by omega),List.getElem?_take_of_lt h1]
 ·rw [List.append_assoc,List.getElem?_append_right (by omega),hl,List.getElem?_append_right (by omega),List.getElem?_drop]
  congr 1
  omega
theorem Els.get {S:Nat→Prop} {w:World} {e:Ty} {oe:Ow}:∀{css:List (List Value)} {xs:List e.den} {F:List Nat},Els S w e oe css xs F→∀{i:Nat} {z:e.den},xs[i]?=some z→∃ci Fi,css[i]?=some ci∧Rep S w e oe ci z Fi∧(css.take i).flatten.length=i * e.size
 | [],[],_,_,i,z,h=>by simp at h
 | c::cs,x::xs,_,⟨F1,F2,_,h1,h2⟩,i,z,h=>by
  cases i with
  | zero=>simp at h;subst h;exact ⟨c,F1,rfl,h1,by simp⟩
  | succ i=>
   obtain ⟨ci,Fi,k1,k2,k3⟩:=h2.get (by simpa using h)
   refine ⟨ci,Fi,by simpa using k1,k2,?_⟩
   rw [List.take_succ_cons,List.flatten_cons,List.length_append,k3,h1.length,Nat.add_mul];omega
 | [],_::_,_,h,_,_,_=>h.elim
 | _::_,[],_,h,_,_,_=>h.elim
section
variable {P:Program} {T:Tab} {c:Ctx} {sl:Slots} {rt rt':Roots} {ρ:Nat→Loc} {Fo:Nat→List Nat} {X:List Nat} {a:Act} {w:World} {K:Act→World→Prop} {Q:Exit→Act→World→Prop} {o:Oper} {Δ:Dl}
theorem RR.copyIn (h:RR c sl rt ρ Fo X a w) {r:Nat} {t:Root} (hr:rt r=some t) {e:Ty} {y:List e.den} {off:Nat} (hsub:subAt (.slice e) t.τ t.o t.x off=some (.own none .imm,y)) (hns:e.hasSlice=false) {b len cap:Nat}
  (hm:∀b0 o0,ρ r=.mem b0 o0→w.cell? ⟨b0,o0+off,none⟩=some (.slice (some ⟨b,0,none⟩) len cap)) (hg:∀cs,ρ r=.reg cs→cs[off]?=some (.slice (some ⟨b,0,none⟩) len cap))
  {S0:Nat→Prop} {lo:Nat} {zs:List e.den} {css:List (List Value)} (hels:Els S0 w e .imm css zs []) (hlen:lo+zs.length≤y.length) {o3:Ow} {x3:t.τ.den} (hset:setAt (.slice e) (.own none .imm,copyL y lo zs) t.τ t.o t.x off=some (o3,x3)):
  RR c sl (upd rt r (some { t with o:=o3,x:=x3 })) ρ Fo X a (w.setCells b (lo * e.size) css.flatten)∧(∀j,j<css.flatten.length→(w.cell? ⟨b,lo * e.size+j,none⟩).isSome=true)∧∀j,w.frozen? ⟨b,j,none⟩=false:=by
 have hroot:=h.roots r t hr
 have hnd:=h.nodup r t hr
 have hlz:=hels.len
 obtain ⟨z1,z2,z3,z4⟩:=setCells_same css.flatten b (lo * e.size) w
 have main:∀(base F:List Nat) (cs:List Value),Fo r=base++F→Rep (Stab c w rt Fo X) w t.τ t.o cs t.x F→cs[off]?=some (.slice (some ⟨b,0,none⟩) len cap)→
   b∈F∧(∀j,j<css.flatten.length→(w.cell? ⟨b,lo * e.size+j,none⟩).isSome=true)∧(∀j,w.frozen? ⟨b,j,none⟩=false)∧
   (∀j s l cp,w.cell? ⟨b,j,none⟩=some (.slice s l cp)→j<lo * e.size∨lo * e.size+css.flatten.length≤j)∧
   ∀S':Nat→Prop,(∀k,Stab c w rt Fo X k→S' k)→Rep S' (w.setCells b (lo * e.size) css.flatten) t.τ o3 cs x3 F:=by
  intro base F cs hFo hrep hcell
  obtain ⟨p,m,q,Fp,Fm,Fq,rfl,hp,rfl,hrm,hre⟩:=subAt_focus hsub hrep
  have hml:=hrm.length
  simp only [Ty.size] at hml
  obtain ⟨hv,rfl⟩:=List.length_eq_one_iff.1 hml
  have hh:hv=.slice (some ⟨b,0,none⟩) len cap:=by
   rw [List.append_assoc,List.getElem?_append_right (by omega),hp,Nat.sub_self] at hcell
   simpa using hcell
  subst hh
  obtain ⟨a1,cp1,e1,g1,g2,g3⟩:=hrm
  simp only [List.cons.injEq,and_true,Value.slice.injEq] at e1
  obtain ⟨rfl,rfl,rfl⟩:=e1
  rcases g3 with ⟨g3,_⟩ | ⟨b',Fs,g3,g4,g5,g6,g7,g8⟩
  ·cases g3
  simp only [Option.some.injEq,Addr.mk.injEq,and_true] at g3
  subst g3
  have hFs:∀i Fi,Fs[i]?=some Fi→Fi=[]:=fun i Fi hi=>by
   have hlt:i<y.length:=by rw [←g5];exact (List.getElem?_eq_some_iff.1 hi).1
   obtain ⟨_,k2⟩:=g8 i y[i] Fi (List.getElem?_eq_getElem hlt) hi
   obtain ⟨ci,_,k3⟩:=k2 (by simp)
   exact k3.nil_of_imm
  have hsz:(lo+zs.length) * e.size≤cap * e.size:=Nat.mul_le_mul_right _ (by omega)
  rw [Nat.add_mul] at hsz
  have hbF:b∈Fp++Fm++Fq:=by rw [g4];simp
  have hkk:∀k,k≠b→Kept w (w.setCells b (lo * e.size) css.flatten) k:=fun k hk=>setCells_kept _ _ _ _ _ hk
  rw [hFo] at hnd
  have hnd1:=List.nodup_append.1 hnd
  have hnd2:=List.nodup_append.1 hnd1.2.1
  have hnd3:=List.nodup_append.1 hnd2.1
  refine ⟨hbF,fun j hj=>?_,g7,fun j s l cp hc=>?_,fun S' hS'=>?_⟩
  ·obtain ⟨v,hv⟩:=g6 (lo * e.size+j) (by rw [hlz.2] at hj;omega)
   rw [hv];rfl
  ·apply Classical.byContradiction
   intro hn
   rw [hlz.2] at hn
   have hpos:0<e.size:=by
    rcases Nat.eq_zero_or_pos e.size with h0 | h0
    ·rw [h0] at hn;simp at hn
    ·exact h0
   have hj1:lo * e.size≤j:=by omega
   have hj2:j<(lo+zs.length) * e.size:=by rw [Nat.add_mul];omega
   have hi:j / e.size<y.length:=by
    have:j / e.size<lo+zs.length:=(Nat.div_lt_iff_lt_mul hpos).2 hj2
    omega
   obtain ⟨Fi,hFi⟩:∃Fi,Fs[j / e.size]?=some Fi:=⟨_,List.getElem?_eq_getElem (by rw [g5];exact hi)⟩
   obtain ⟨_,k2⟩:=g8 (j / e.size) y[j / e.size] Fi (List.getElem?_eq_getElem hi) hFi
   obtain ⟨ci,hat,hrep'⟩:=k2 (by simp)
   have hcl:=hrep'.length
   have hmod:j % e.size<ci.length:=by rw [hcl];exact Nat.mod_lt _ hpos
   have hce:=hat (j % e.size) ci[j % e.size] (List.getElem?_eq_getElem hmod)
   rw [Nat.mul_comm,Nat.div_add_mod] at hce
   rw [hce] at hc
   simp only [Option.some.injEq] at hc
   exact noslice hns (allImm_imm e) hrep' _ (List.getElem_mem hmod) _ _ _ hc
  ·refine hre S' _ (.own none .imm,copyL y lo zs) [.slice (some ⟨b,0,none⟩) y.length cap] Fm (o3,x3) hset (fun k hk=>⟨hS' k hk,hkk k fun ek=>hk.2.2.1 r t hr (by rw [hFo,ek];exact List.mem_append_right _ hbF)⟩) (fun k hk=>hkk k fun e'=>?_) ?_
   ·subst e'
    have hbm:k∈Fm:=by rw [g4];exact List.mem_cons_self
    rcases List.mem_append.1 hk with hk | hk
    ·exact hnd3.2.2 k hk k hbm rfl
    ·exact hnd2.2.2 k (List.mem_append_right _ hbm) k hk rfl
   ·refine ⟨some ⟨b,0,none⟩,cap,by rw [copyL_length hlen],by rw [copyL_length hlen];exact g1,by rw [copyL_length hlen];exact g2,.inr ⟨b,Fs,rfl,g4,by rw [copyL_length hlen];exact g5,fun j hj=>?_,fun j=>by rw [World.frozen?_setCells];exact g7 j,fun i z Fi hz hFi=>⟨fun e=>(by cases e),fun _=>?_⟩⟩⟩
    ·by_cases hin:j<lo * e.size∨lo * e.size+css.flatten.length≤j
     ·rw [setCells_rest hin];exact g6 j hj
     ·have h1:lo * e.size≤j∧j-lo * e.size<css.flatten.length:=by omega
      have:=World.cell?_setCells_in b css.flatten (lo * e.size) w (fun k hk=>by
       obtain ⟨v,hv⟩:=g6 (lo * e.size+k) (by rw [hlz.2] at hk;omega)
       rw [hv];rfl) (j-lo * e.size) h1.2
      rw [show lo * e.size+(j-lo * e.size)=j by omega] at this
      exact ⟨_,this⟩
    ·have hFi0:=hFs i Fi hFi
     subst hFi0
     by_cases hin:lo≤i∧i<lo+zs.length
     ·rw [copyL_in hlen hin.1 hin.2] at hz
      obtain ⟨ci,F',c1,c2,c3⟩:=hels.get hz
      have hF':=c2.nil_of_imm
      subst hF'
      refine ⟨ci,fun k v hk=>?_,c2.ground hns⟩
      have hkl:=(List.getElem?_eq_some_iff.1 hk).1
      obtain ⟨hci,rfl⟩:=List.getElem?_eq_some_iff.1 c1
      obtain ⟨f1,f2⟩:=flatten_split (segs:=css) (List.getElem?_eq_getElem hci)
      have hidx:css.flatten[(i-lo) * e.size+k]?=some v:=by
       rw [f1,List.append_assoc,List.getElem?_append_right (by omega),c3,Nat.add_sub_cancel_left,List.getElem?_append_left hkl]
       exact hk
      have hlt:=(List.getElem?_eq_some_iff.1 hidx).1
      have:=World.cell?_setCells_in b css.flatten (lo * e.size) w (fun k hk=>by
       obtain ⟨v,hv⟩:=g6 (lo * e.size+k) (by rw [hlz.2] at hk;omega)
       rw [hv];rfl) _ hlt
      rw [show lo * e.size+((i-lo) * e.size+k)=i * e.size+k by
       have:i * e.size=lo * e.size+(i-lo) * e.size:=by rw [←Nat.add_mul];congr 1;omega
       omega] at this
      rw [this,←hidx,List.getElem?_eq_getElem hlt]
     ·have hout:i<lo∨lo+zs.length≤i:=by omega
      rw [copyL_out hlen hout] at hz
      obtain ⟨_,k2⟩:=g8 i z [] hz hFi
      obtain ⟨ci,hat,hrep'⟩:=k2 (by simp)
      refine ⟨ci,fun k v hk=>?_,hrep'.ground hns⟩
      have hkl:=(List.getElem?_eq_some_iff.1 hk).1
      rw [hrep'.length] at hkl
      rw [setCells_rest]
      ·exact hat k v hk
      ·rw [hlz.2]
       rcases hout with h1 | h1
       ·left
        have:(i+1) * e.size≤lo * e.size:=Nat.mul_le_mul_right _ (by omega)
        rw [Nat.add_mul] at this
        omega
       ·right
        have:(lo+zs.length) * e.size≤i * e.size:=Nat.mul_le_mul_right _ h1
        rw [Nat.add_mul] at this
        omega
 unfold RootOK at hroot
 cases hL:ρ r with
 | mem b0 o0=>
  rw [hL] at hroot
  obtain ⟨cs,F',eF,hat,hfz,hrep,hk1,hk2⟩:=hroot
  have hcs:cs[off]?=some (.slice (some ⟨b,0,none⟩) len cap):=by
   have h1:=hm b0 o0 hL
   obtain ⟨p,m,q,Fp,Fm,Fq,hc,hp,_,hrm,_⟩:=subAt_focus hsub hrep
   have hml:=hrm.length
   simp only [Ty.size] at hml
   have hlt:off<cs.length:=by rw [hc];simp;omega
   have:=hat off cs[off] (List.getElem?_eq_getElem hlt)
   rw [h1] at this
   rw [List.getElem?_eq_getElem hlt,←this]
  obtain ⟨m1,m2,m3,m4,m5⟩:=main [b0] F' cs (by simpa using eF) hrep hcs
  rw [eF] at hnd
  have hbb:b≠b0:=fun e'=>(List.nodup_cons.1 hnd).1 (e'▸m1)
  have hbFo:b∈Fo r:=by rw [eF];exact List.mem_cons_of_mem _ m1
  refine ⟨?_,m2,m3⟩
  have:=h.rewrite (r:=r) (t:=t) (t':={ t with o:=o3,x:=x3 }) (w':=w.setCells b (lo * e.size) css.flatten) (b':=b) (Fm:=[]) (F':=[]) (X':=X) (Fn:=Fo r) hr (by simp) hbFo z1 z2 z3 (Nat.le_of_eq z4.symm) (fun k _ hk _ _=>setCells_kept _ _ _ _ _ hk) (fun b2 j hkj=>?_) (fun k hk=>.inl ⟨hk,by simp⟩) (by simp) (fun k hk=>.inl hk) (by simp) (by simp) (fun k hk=>.inl hk) (fun k hk=>by rw [z4];exact (h.inX k hk).1) h.nodupX (by simp) (h.nodup r t hr) rfl (fun _=>Nat.le_refl _) (fun _=>Nat.le_refl _) (fun i b1 o1 s l cp _ hL' hc=>?_) (fun _ _=>keepsAll fun b2 j s l cp _ hc=>?_) (fun hS _=>?_)
  ·have hFoF:updL Fo r (Fo r)=Fo:=by
    funext k
    by_cases ek:k=r
    ·subst ek;rw [updL_same]
    ·rw [updL_ne ek]
   rw [hFoF] at this
   exact this
  ·by_cases e2:b2=b
   ·subst e2;exact absurd hkj (hk2 _ m1 j)
   ·exact (setCells_kept _ _ _ _ _ e2).cell j
  ·rw [hL] at hL'
   cases hL'
   exact ((setCells_kept _ _ _ _ _ (fun e=>hbb e.symm)).cell _).trans hc
  ·by_cases e2:b2=b
   ·subst e2;exact (setCells_rest (m4 j s l cp hc)).trans hc
   ·exact ((setCells_kept _ _ _ _ _ e2).cell j).trans hc
  ·rw [hL]
   refine ⟨cs,F',eF,hat.kept (setCells_kept _ _ _ _ _ (fun e=>hbb e.symm)),fun j=>by rw [World.frozen?_setCells];exact hfz j,m5 _ (fun k hk=>(hS k hk).1),hk1,hk2⟩
 | reg cs=>
  rw [hL] at hroot
  obtain ⟨hrep,hk2⟩:=hroot
  obtain ⟨m1,m2,m3,m4,m5⟩:=main [] (Fo r) cs (by simp) hrep (hg cs hL)
  refine ⟨?_,m2,m3⟩
  have:=h.rewrite (r:=r) (t:=t) (t':={ t with o:=o3,x:=x3 }) (w':=w.setCells b (lo * e.size) css.flatten) (b':=b) (Fm:=[]) (F':=[]) (X':=X) (Fn:=Fo r) hr (by simp) m1 z1 z2 z3 (Nat.le_of_eq z4.symm) (fun k _ hk _ _=>setCells_kept _ _ _ _ _ hk) (fun b2 j hkj=>?_) (fun k hk=>.inl ⟨hk,by simp⟩) (by simp) (fun k hk=>.inl hk) (by simp) (by simp) (fun k hk=>.inl hk) (fun k hk=>by rw [z4];exact (h.inX k hk).1) h.nodupX (by simp) (h.nodup r t hr) rfl (fun _=>Nat.le_refl _) (fun _=>Nat.le_refl _) (fun i b1 o1 s l cp _ hL' hc=>by rw [hL] at hL';cases hL') (fun _ _=>keepsAll fun b2 j s l cp _ hc=>?_) (fun hS _=>?_)
  ·have hFoF:updL Fo r (Fo r)=Fo:=by
    funext k
    by_cases ek:k=r
    ·subst ek;rw [updL_same]
    ·rw [updL_ne ek]
   rw [hFoF] at this
   exact this
  ·by_cases e2:b2=b
   ·subst e2;exact absurd hkj (hk2 _ m1 j)
   ·exact (setCells_kept _ _ _ _ _ e2).cell j
  ·by_cases e2:b2=b
   ·subst e2;exact (setCells_rest (m4 j s l cp hc)).trans hc
   ·exact ((setCells_kept _ _ _ _ _ e2).cell j).trans hc
  ·rw [hL]
   exact ⟨m5 _ (fun k hk=>(hS k hk).1),hk2⟩
end
end Go.Rd
namespace Go.Rd
theorem Els.takeN {S:Nat→Prop} {w:World} {e:Ty} {oe:Ow}:∀{css:List (List Value)} {xs:List e.den},Els S w e oe css xs []→∀n,Els S w e oe (css.take n) (xs.take n) []
 | [],[],_,n=>by simp [Els]
 | _::_,_::_,⟨F1,F2,hf,h1,h2⟩,n=>by
  obtain ⟨rfl,rfl⟩:=List.nil_eq_append_iff.1 hf
  cases n with
  | zero=>simp [Els]
  | succ n=>exact ⟨[],[],rfl,h1,h2.takeN n⟩
 | [],_::_,h,_=>h.elim
 | _::_,[],h,_=>h.elim
section
variable {P:Program} {T:Tab} {c:Ctx} {sl:Slots} {rt rt':Roots} {ρ:Nat→Loc} {Fo:Nat→List Nat} {X:List Nat} {a:Act} {w:World} {K:Act→World→Prop} {Q:Exit→Act→World→Prop} {o:Oper} {Δ:Dl}
theorem RR.retell (h:RR c sl rt ρ Fo X a w) {r:Nat} {t:Root} (hr:rt r=some t) {σ:Ty} {o':Ow} {y:σ.den} {off:Nat} (hsub:subAt σ t.τ t.o t.x off=some (o',y)) {o3:Ow} {x3:t.τ.den} (hset:setAt σ (o',y) t.τ t.o t.x off=some (o3,x3)):
  RR c sl (upd rt r (some { t with o:=o3,x:=x3 })) ρ Fo X a w:=by
 have hroot:=h.roots r t hr
 have hnd:=h.nodup r t hr
 have hFo:updL Fo r (Fo r)=Fo:=by
  funext k
  by_cases e:k=r
  ·subst e;rw [updL_same]
  ·rw [updL_ne e]
 have main:∀(cs:List Value) (F:List Nat) S,Rep S w t.τ t.o cs t.x F→Rep S w t.τ o3 cs x3 F:=fun cs F S hrep=>by
  obtain ⟨p,m,q,Fp,Fm,Fq,rfl,hp,rfl,hrm,hre⟩:=subAt_focus hsub hrep
  exact hre S w (o',y) m Fm (o3,x3) hset (fun b hb=>⟨hb,rfl⟩) (fun _ _=>rfl) hrm
 have hS:∀b,Stab c w rt Fo X b→Stab c w (upd rt r (some { t with o:=o3,x:=x3 })) Fo X b:=fun b hb=>⟨hb.1,hb.2.1,fun k u hk=>by
  by_cases e:k=r
  ·subst e;exact hb.2.2.1 k t hr
  ·rw [upd_ne e] at hk;exact hb.2.2.1 k u hk,hb.2.2.2⟩
 have:=h.reroot (t':={ t with o:=o3,x:=x3 }) (Y:=[]) hr (F':=Fo r) (fun b hb=>hb) (by simp) hnd (by simp) (by simp) (by simp) rfl (fun _=>Nat.le_refl _) (fun _=>Nat.le_refl _)
   (fun b o e=>by
    unfold RootOK at hroot
    rw [e] at hroot
    obtain ⟨cs,F,e1,_⟩:=hroot
    rw [e1];exact List.mem_cons_self) (by
    rw [hFo,List.nil_append]
    unfold RootOK at hroot ⊢
    split at hroot
    ·rename_i b o hL
     obtain ⟨cs,F,e1,h1,h2,h3,h4,h5⟩:=hroot
     exact ⟨cs,F,e1,h1,h2,main cs F _ (h3.mono (fun b hb=>⟨hS b hb,rfl⟩) (fun _ _=>rfl)),h4,h5⟩
    ·rename_i cs hL
     exact ⟨main cs _ _ (hroot.1.mono (fun b hb=>⟨hS b hb,rfl⟩) (fun _ _=>rfl)),hroot.2⟩) (.inl (.inl ⟨rfl,fun _=>rfl,fun _=>rfl⟩))
 rw [hFo] at this
 exact this
theorem op_copy (hT:TOK P T) (hs:∀r t,rt' r=some t→rt r=some t) (h:RR c sl rt ρ Fo [] a w) {args:Array Operand} {ts:Array TypeId} {x y:Operand} (hargs:args.toList=[x,y])
  (ho:o.op=.call { callee:=.builtin .copy,args:=args,argTypes:=ts }) {u1 u2:V} (hv1:VR (envOf c sl rt ρ Fo [] w) u1 (a.eval x)) (hv2:VR (envOf c sl rt ρ Fo [] w) u2 (a.eval y)) (hd:DstOK c sl o.dst)
  (hy:Yields (dlCopy T ts o.dst u1 u2 rt') Δ) (hK:Good c (Δ.slots sl) (lk Δ.rt rt) K):o.wp P a w K Q:=by
 have hx:args=#[x,y]:=Array.ext' (by simpa using hargs)
 subst hx
 unfold dlCopy at hy
 split at hy
 ·rename_i p e rg
  split at hy
  ·rename_i t0 hts
   split at hy
   ·rename_i e2 hT0
    split at hy
    ·rename_i hc0
     simp only [Bool.and_eq_true,Bool.not_eq_true'] at hc0
     obtain ⟨⟨⟨c1,c2⟩,c3⟩,c4⟩:=hc0
     have:=Ty.eq_of_beq c1
     subst this
     have c3:p.steps=[]:=by simpa using c3
     split at hy
     ·rename_i t zs ht hg
      have ht:=hs _ _ ht
      split at hy
      ·rename_i oe yy hsub
       split at hy
       ·rename_i hwk
        split at hy
        ·rename_i o3 x3 hset
         obtain ⟨e',hu,hrow,hpos⟩:=(hT.get hT0).slice_elem hT
         have hf:u2.flat=true:=by cases u2<;>first | rfl | simp [rdG] at hg
         obtain ⟨ad2,cap2,css,hval2,hels,hat2⟩:=rdG_raw (us:=[]) hs h c2 hg (hv2.raw hs hf)
         obtain ⟨ad,len,cap,hh,hcut⟩:=hv1 (validA_sub hs (okA_valid c4))
         have hh:hdrAt w (Bof c w rt ρ Fo [] p.root) (ρ p.root) p (.slice ad len cap):=hh
         obtain ⟨Fo',k1,k4,_⟩:=h.weakenF ht hwk
         have hsub2:=subAt_modO (f:=fun _ _=>Ow.own none .imm) hsub
         obtain ⟨Fm,hrep,_,_⟩:=RR.hdrA (p:=p) k1 (upd_same _ _ _) (by rw [c3];exact hsub2) hh
         obtain ⟨a1,cp1,e1,g1,g2,g3⟩:=hrep
         simp only [List.cons.injEq,and_true,Value.slice.injEq] at e1
         obtain ⟨rfl,rfl,rfl⟩:=e1
         generalize hn:Nat.min (List.length zs) (List.length (cutL rg yy))=n at hy hset
         have hlz:=hels.len
         have hnz:n≤zs.length:=by rw [←hn];exact Nat.min_le_left _ _
         have hny:n≤(cutL rg yy).length:=by rw [←hn];exact Nat.min_le_right _ _
         have hels2:=hels.takeN n
         have hl2:=hels2.len
         have hcl:cutLo rg+n≤yy.length∧∃base k,a.eval x=.slice base (cutL rg yy).length k∧(∀b,ad=some ⟨b,0,none⟩→base=some ⟨b,cutLo rg * e2.size,none⟩∨(n=0∧∃q,base=some ⟨b,q,none⟩))∧(ad=none→base=none):=by
          cases rg with
          | none=>
           refine ⟨by simpa [cutLo,cutL] using hny,ad,cap,hcut,fun b hb=>.inl (by simp [cutLo,hb]),fun h=>h⟩
          | some r=>
           obtain ⟨lo,hi⟩:=r
           obtain ⟨d1,d2,d3⟩:=hcut
           have hcl:(cutL (some (lo,hi)) yy).length=hi-lo:=by simp [cutL];omega
           rw [hcl] at hny ⊢
           refine ⟨by simp only [cutLo];omega,_,_,d3,fun b hb=>?_,fun h=>by subst h;split<;>rfl⟩
           split
           ·exact .inr ⟨by omega,0,hb⟩
           ·subst hb
            exact .inl (by simp [cutLo,addr_add])
         obtain ⟨q1,base,kk,q2,q3,q4⟩:=hcl
         have hfc:(Builtin.firstCells e2.size n (.slice ad2 zs.length cap2)).run P w=.ok (css.take n).flatten.toArray w:=by
          rcases hat2 with h0 | ⟨b2,off2,rfl,hat2⟩
          ·have hn0:n=0:=by omega
           subst hn0
           cases ad2 with
           | none=>exact run_firstCells_none w e2.size 0 _ _
           | some ad2=>exact run_firstCells_some w e2.size 0 ad2 _ _ [] (by simp) (by intro j u h;simp at h)
          ·refine run_firstCells_some w e2.size n _ _ _ _ (by rw [hl2.2,List.length_take];congr 1;omega) (fun j u hj=>?_)
           rw [addr_add]
           refine hat2 j u ?_
           have:css.flatten=(css.take n).flatten++(css.drop n).flatten:=by rw [←List.flatten_append,List.take_append_drop]
           rw [this,List.getElem?_append_left (List.getElem?_eq_some_iff.1 hj).1]
           exact hj
         have hones:=hels2.ones (wk_imm_imm e2)
         have hmin:Nat.min zs.length (cutL rg yy).length=n:=hn
         have hi64:IntKind.i64.min≤((n:Nat):Int)∧((n:Nat):Int)≤IntKind.i64.max:=i64_len (by omega)
         have hso:=run_sizeOf (w:=w) hrow
         have hmain:∀w':World,((∃ad0,base=some ad0∧(storeCells ad0 (css.take n).flatten).run P w=.ok () w')∨(base=none∧w'=w))→(execOp a.eval o).run P w=.ok (.value (.int .i64 n)) w':=fun w' hst=>by
          rcases hst with ⟨ad0,rfl,hst⟩ | ⟨rfl,rfl⟩
          rotate_left
          ·simp [execOp,ho,resolve,invoke,builtin,Builtin.copy_,hts,q2,hval2,run_underlying hu,Builtin.lenOf,hmin,hso,hfc,goInt]
          ·simp [execOp,ho,resolve,invoke,builtin,Builtin.copy_,hts,q2,hval2,run_underlying hu,Builtin.lenOf,hmin,hso,hfc,goInt,hst]
         have hx3:lk [(p.root,({ t with o:=o3,x:=x3 }:Root))] rt=upd (upd rt p.root (some { t with o:=modO (fun _ _=>Ow.own none .imm) t.τ t.o p.off })) p.root (some { t with o:=o3,x:=x3 }):=by
          simp only [lk];rw [upd_upd]
         rcases g3 with ⟨rfl,g4,g5⟩ | ⟨b,Fs,rfl,g4,g5,g6,g7,g8⟩
         ·
          have hy0:yy=[]:=by
           first | exact g5 | exact g4 | (cases yy with
            | nil=>rfl
            | cons _ _=>simp_all)
          subst hy0
          have hn0:n=0:=by simp at q1;omega
          subst hn0
          have hcp:copyL ([]:List e2.den) (cutLo rg) (zs.take 0)=[]:=by simp [copyL_eq]
          rw [hcp] at hset
          have r1:=RR.retell k1 (upd_same _ _ _) hsub2 hset
          refine wp_value (w':=w) (v:=.int .i64 ((0:Nat):Int)) (hmain w (.inr ⟨q4 rfl,rfl⟩)) (fin1 hx3 r1 hd (u:=.dat (.int .i64) ((0:Nat):Int)) (VR_int hi64.1 hi64.2) trivial (fun _=>rfl) hy hK)
         ·have hlen3:cutLo rg+(zs.take n).length≤yy.length:=by rw [List.length_take];omega
          have hmm:∀b0 o0,ρ p.root=.mem b0 o0→w.cell? ⟨b0,o0+p.off,none⟩=some (.slice (some ⟨b,0,none⟩) yy.length cap):=fun b0 o0 e=>by
           rw [e] at hh
           unfold hdrAt at hh
           obtain ⟨b1,q1,hw,hcell⟩:=hh
           unfold walkP at hw
           rw [c3] at hw
           obtain ⟨rfl,rfl⟩:=hw
           exact hcell
          have hgg:∀cs,ρ p.root=.reg cs→cs[p.off]?=some (.slice (some ⟨b,0,none⟩) yy.length cap):=fun cs e=>by
           rw [e] at hh
           unfold hdrAt at hh
           rw [c3] at hh
           exact hh
          obtain ⟨r1,r2,r3⟩:=RR.copyIn k1 (upd_same _ _ _) hsub2 c2 hmm hgg hels2 hlen3 hset
          have hsts:∀ad0,base=some ad0→(storeCells ad0 (css.take n).flatten).run P w=.ok () (w.setCells b (cutLo rg * e2.size) (css.take n).flatten):=fun ad0 hb=>by
           rcases q3 b rfl with hq | ⟨rfl,qq,hq⟩
           ·rw [hb] at hq;cases hq
            have:=run_storeCells_cells (P:=P) b (cutLo rg * e2.size) (css.take n).flatten 0 w (by simpa using r2) (fun j _=>r3 _) hones
            simpa using this
           ·simp [storeCells,World.setCells]
          have hbs:∃ad0,base=some ad0:=by
           rcases q3 b rfl with hq | ⟨_,qq,hq⟩
           ·exact ⟨_,hq⟩
           ·exact ⟨_,hq⟩
          obtain ⟨ad0,hb0⟩:=hbs
          refine wp_value (w':=w.setCells b (cutLo rg * e2.size) (css.take n).flatten) (v:=.int .i64 (n:Int)) (hmain _ (.inl ⟨ad0,hb0,hsts ad0 hb0⟩)) (fin1 hx3 r1 hd (u:=.dat (.int .i64) (n:Int)) (VR_int hi64.1 hi64.2) trivial (fun _=>rfl) hy hK)
        ·cases hy
       ·cases hy
      ·cases hy
     ·cases hy
    ·cases hy
   ·cases hy
  ·cases hy
 ·cases hy
end
end Go.Rd
namespace Go.Rd
section
variable {P:Program} {T:Tab} {c:Ctx} {sl:Slots} {rt rt':Roots} {ρ:Nat→Loc} {Fo:Nat→List Nat} {X:List Nat} {a:Act} {w:World} {K:Act→World→Prop} {Q:Exit→Act→World→Prop} {o:Oper} {Δ:Dl}
theorem VRs.one {E:Env} {v:V} {vs:List Value} (h:VRs E [v] vs):∃x,vs=[x]∧VR E v x:=by
 obtain ⟨x,r,e,h1,h2⟩:=h
 have:r=[]:=h2
 subst this
 exact ⟨x,e,h1⟩
theorem VRs.two {E:Env} {u v:V} {vs:List Value} (h:VRs E [u,v] vs):∃x y,vs=[x,y]∧VR E u x∧VR E v y:=by
 obtain ⟨x,r,e,h1,h2⟩:=h
 obtain ⟨y,rfl,h3⟩:=h2.one
 exact ⟨x,y,e,h1,h3⟩
theorem map_one {α β:Type} {f:α→β} {l:List α} {x:β} (h:l.map f=[x]):∃X,l=[X]∧f X=x:=by
 match l,h with
 | [X],h=>exact ⟨X,rfl,by simpa using h⟩
theorem map_two {α β:Type} {f:α→β} {l:List α} {x y:β} (h:l.map f=[x,y]):∃X Y,l=[X,Y]∧f X=x∧f Y=y:=by
 match l,h with
 | [X,Y],h=>exact ⟨X,Y,rfl,by simpa using h⟩
theorem op_pick {g:Bool} {x y:Operand} {s:Operand} (h:RR c sl rt ρ Fo [] a w) (ho:o.op=.pick s x y) (hs:VR (envOf c sl rt ρ Fo [] w) (.dat .bool g) (a.eval s)) {u v z:V}
  (hu:g=true→VR (envOf c sl rt ρ Fo [] w) u (a.eval x)) (hv:g=false→VR (envOf c sl rt ρ Fo [] w) v (a.eval y)) (hp:pickV g u v=some z) (hd:DstOK c sl o.dst) (hy:Yields (ret1 o.dst z []) Δ) (hK:Good c (Δ.slots sl) (lk Δ.rt rt) K):o.wp P a w K Q:=by
 unfold pickV at hp
 split at hp
 ·rename_i τ p τ' q
  split at hp
  ·rename_i hb
   have:=Ty.eq_of_beq hb
   subst this
   cases hp
   have e1:=VR_bool_inv hs
   refine wp_value (w':=w) (v:=if g then a.eval x else a.eval y) ?_ (fin0 h hd hy hK ?_ trivial (fun _=>rfl))
   ·simp [execOp,ho,e1,asBool]
   ·cases g with
    | true=>exact hu rfl
    | false=>exact hv rfl
  ·cases hp
 ·cases hp
theorem core_sound (hT:TOK P T) {eqs:Nat→Bool} (hE:EqOK P T eqs) (hs:∀r t,rt' r=some t→rt r=some t) (hdr:∀d,o.dst=some d→rt' d=rt d) (h:RR c sl rt ρ Fo [] a w) {mv:Bool} {vs:List V} {l:List Operand} (hl:opsOf o.op=some l)
  (hv:VRs (envOf c sl rt ρ Fo [] w) vs (l.map a.eval)) (hh:V.holdsAll (PlaceOK rt) vs) (hd:DstOK c sl o.dst) (hy:Yields (core T eqs mv o.op o.dst vs rt') Δ) (hK:Good c (Δ.slots sl) (lk Δ.rt rt) K):o.wp P a w K Q:=by
 have lkd:∀(d:Nat) (us:List (Nat×Root)),o.dst=some d→lk us rt' d=none→lk us rt d=none:=fun d us hdst=>by
  induction us with
  | nil=>intro e;exact (hdr d hdst).symm.trans e
  | cons r us ih=>
   intro e
   show upd (lk us rt) r.1 (some r.2) d=none
   have e':upd (lk us rt') r.1 (some r.2) d=none:=e
   by_cases hq:d=r.1
   ·rw [hq,upd_same] at e';cases e'
   ·rw [upd_ne hq] at e' ⊢;exact ih e'
 generalize hop:o.op=op at hy hl
 unfold core at hy
 split at hy
 ·
  cases hl
  obtain ⟨x,e,hx⟩:=hv.one
  simp only [List.map_cons,List.map_nil,List.cons.injEq,and_true] at e
  subst e
  split at hy
  ·cases hy
  ·rename_i hg
   exact op_move h (.inl hop) hx hh.1 (V.lean_of _ (by simpa using hg)) hd hy hK
 ·
  cases hl
  obtain ⟨x,e,hx⟩:=hv.one
  simp only [List.map_cons,List.map_nil,List.cons.injEq,and_true] at e
  subst e
  split at hy
  ·cases hy
  ·rename_i hg
   exact op_move h (.inr hop) hx hh.1 (V.lean_of _ (by simpa using hg)) hd hy hK
 ·
  cases hl
 ·
  split at hy
  ·rename_i τ d ht hdst
   split at hy
   ·rename_i hn
    cases hy
    exact op_alloc hT h hop ht hdst (lkd d [] hdst (by show rt' d=none;simpa using hn)) hd hK
   ·cases hy
  ·cases hy
 ·
  cases hl
  obtain ⟨x,e,hx⟩:=hv.one
  simp only [List.map_cons,List.map_nil,List.cons.injEq,and_true] at e
  subst e
  split at hy
  ·rename_i τ d ht hdst
   split at hy
   ·rename_i oo y us hg
    split at hy
    ·rename_i hn
     cases hy
     exact op_box hT hs h hop ht hdst hd hx hg (lkd d us hdst (by simpa using hn)) hK
    ·cases hy
   ·cases hy
  ·cases hy
 ·
  cases hl
  obtain ⟨x,e,hx⟩:=hv.one
  simp only [List.map_cons,List.map_nil,List.cons.injEq,and_true] at e
  subst e
  split at hy
  ·rename_i σ ht
   split at hy
   ·split at hy
    ·rename_i e p d hdst
     exact op_take hT hs h hop ht hx hdst hd (fun hn=>lkd d [] hdst hn) (Yields.ofOpt hy) hK
    ·cases hy
   split at hy
   ·rename_i u hu
    exact op_load hT hs h hop hx ht hu hd hy hK
   ·cases hy
  ·cases hy
 ·
  cases hl
  obtain ⟨x,y,e,hx,hx2⟩:=hv.two
  simp only [List.map_cons,List.map_nil,List.cons.injEq,and_true] at e
  obtain ⟨rfl,rfl⟩:=e
  split at hy
  ·rename_i σ ht
   split at hy
   ·rename_i hdst
    split at hy
    ·rename_i i n Δ' hfl
     cases hy with
     | asrt hin hy=>
      cases hy
      exact op_fill hT hs h hop ht hx hx2 hdst hfl hin hK
    ·exact op_store hT hs h hop ht hx hx2 hdst (Yields.ofOpt hy) hK
   ·cases hy
  ·cases hy
 ·
  cases hl
  obtain ⟨x,e,hx⟩:=hv.one
  simp only [List.map_cons,List.map_nil,List.cons.injEq,and_true] at e
  subst e
  split at hy
  ·rename_i u hu
   exact op_field hT hs h hop hx hh.1 hu hd hy hK
  ·cases hy
 ·
  cases hl
  obtain ⟨x,y,e,hx,hx2⟩:=hv.two
  simp only [List.map_cons,List.map_nil,List.cons.injEq,and_true] at e
  obtain ⟨rfl,rfl⟩:=e
  exact op_indexAddr hT hs h hop hx hx2 hd hy hK
 ·
  cases hl
  obtain ⟨x,y,e,hx,hx2⟩:=hv.two
  simp only [List.map_cons,List.map_nil,List.cons.injEq,and_true] at e
  obtain ⟨rfl,rfl⟩:=e
  exact op_index hT h hop hx hx2 hd hy hK
 ·
  cases hl
  obtain ⟨x,y,e,hx,hx2⟩:=hv.two
  simp only [List.map_cons,List.map_nil,List.cons.injEq,and_true] at e
  obtain ⟨rfl,rfl⟩:=e
  exact op_bin hT hE h hop hx hx2 hd hy hK
 ·
  cases hl
  obtain ⟨x,e,hx⟩:=hv.one
  simp only [List.map_cons,List.map_nil,List.cons.injEq,and_true] at e
  subst e
  exact op_not h hop hx hd hy hK
 ·
  cases hl
  obtain ⟨x,e,hx⟩:=hv.one
  simp only [List.map_cons,List.map_nil,List.cons.injEq,and_true] at e
  subst e
  split at hy
  ·rename_i hs1 ht1
   exact op_convert hT h hop hs1 ht1 hx hd hy hK
  ·cases hy
 ·
  cases hl
  obtain ⟨x,e,hx⟩:=hv.one
  simp only [List.map_cons,List.map_nil,List.cons.injEq,and_true] at e
  subst e
  split at hy
  ·rename_i hok
   exact op_nilCheck_ptr hs h hop hok hx hh.1 hd hy hK
  ·cases hy
 ·cases hl
  obtain ⟨x,e,hx⟩:=hv.one
  simp only [List.map_cons,List.map_nil,List.cons.injEq,and_true] at e
  subst e
  exact op_nilCheck_ipt h hop hx hd hy hK
 ·
  cases hl
  obtain ⟨x,e,hx⟩:=hv.one
  simp only [List.map_cons,List.map_nil,List.cons.injEq,and_true] at e
  subst e
  split at hy
  ·rename_i v hi
   split at hy
   ·cases hy
   ·rename_i hg
    exact op_extract h hop hi hx hh.1 (fun n=>V.lean_of _ (by simpa [V.hasGrd] using hg) n) hd hy hK
  ·cases hy
 ·
  cases hl
  split at hy
  ·rename_i τ d ht hdst
   split at hy
   ·rename_i hidx
    split at hy
    ·rename_i oo x us hg
     split at hy
     ·rename_i ha
      rw [←hdst] at hy
      exact op_build_imm hT hs h hop ht hd hv hidx hg ha hy hK
     ·split at hy
      ·rename_i hn
       split at hy
       ·rename_i l hl
        cases hy
        exact op_build_own hT hs h hop ht hdst hd hv hidx hg (lkd d us hdst (by simpa using hn)) hl hK
       ·cases hy
      ·cases hy
    ·cases hy
   ·cases hy
  ·rename_i n e ht
   split at hy
   ·rename_i he
    exact op_buildArr0 hT h hop ht hd (by rw [List.isEmpty_iff.1 he];rfl) hy hK
   ·split at hy
    ·rename_i hc
     simp only [Bool.and_eq_true,beq_iff_eq] at hc
     split at hy
     ·rename_i oo xs us hg
      split at hy
      ·rename_i ha
       exact op_buildArr hT hs h hop ht hd hv (Nat.eq_of_beq_eq_true hc.1) hc.2 hg ha hy hK
      ·cases hy
     ·cases hy
    ·cases hy
  ·cases hy
 ·
  cases hl
  split at hy
  ·rename_i e d ht hdst
   split at hy
   ·rename_i hc
    simp only [Bool.and_eq_true,beq_iff_eq] at hc
    obtain ⟨⟨c1,c2⟩,c3⟩:=hc
    have c1:=Nat.eq_of_beq_eq_true c1
    split at hy
    ·rename_i oo xs us hg
     split at hy
     ·rename_i hn
      cases hy
      rcases Nat.eq_zero_or_pos vs.length with hn0 | hn0
      ·have:vs=[]:=List.length_eq_zero_iff.1 hn0
       subst this
       simp only [List.length_nil] at c1
       subst c1
       simp only [elems,Option.some.injEq,Prod.mk.injEq] at hg
       obtain ⟨rfl,rfl,rfl⟩:=hg
       exact op_buildSlice0 hT h hop ht hdst hd (by simpa using c2) (lkd d [] hdst (by simpa using hn)) hK
      ·exact op_buildSlice hT hs h hop ht hdst hd hv c1 c2 (by omega) (Nat.le_of_ble_eq_true c3) hg (lkd d us hdst (by simpa using hn)) hK
     ·cases hy
    ·cases hy
   ·cases hy
  ·cases hy
 ·
  cases hl
  obtain ⟨x,y,e,hx,hx2⟩:=hv.two
  simp only [List.map_cons,List.map_nil,List.cons.injEq,and_true] at e
  obtain ⟨rfl,rfl⟩:=e
  split at hy
  ·rename_i e d ht hdst
   split at hy
   ·rename_i hn
    cases hy with
    | asrt hb hy=>
     cases hy
     simp only [Bool.and_eq_true,decide_eq_true_eq] at hb
     exact op_makeSlice hT h hop ht hdst (lkd d [] hdst (by show rt' d=none;simpa using hn)) hd hx hx2 hb.1.1 hb.1.2 hb.2 hK
   ·cases hy
  ·cases hy
 ·
  cases hl
  obtain ⟨x,r,e,hx,hr⟩:=hv
  simp only [List.cons_append,List.map_cons,List.cons.injEq] at e
  obtain ⟨rfl,rfl⟩:=e
  split at hy
  ·rename_i e ht
   split at hy
   ·exact op_slice hT hs h hop ht (l:=none) (m:=none) (kl:=.i64) (kh:=.i64) rfl rfl hx hh.1 hd hy hK
   ·obtain ⟨y,e,hy1⟩:=hr.one
    simp only [Option.toList,List.map_cons,List.map_nil,List.append_nil,List.cons.injEq,and_true] at e
    subst e
    exact op_slice hT hs h hop ht (l:=some _) (m:=none) (kh:=.i64) (show Option.map _ (some _)=Option.map _ (some _) by simp only [Option.map_some,(VR_int_inv hy1).1];rfl) rfl hx hh.1 hd hy hK
   ·obtain ⟨y,e,hy1⟩:=hr.one
    simp only [Option.toList,List.map_cons,List.map_nil,List.nil_append,List.cons.injEq,and_true] at e
    subst e
    exact op_slice hT hs h hop ht (l:=none) (m:=some _) (kl:=.i64) rfl (show Option.map _ (some _)=Option.map _ (some _) by simp only [Option.map_some,(VR_int_inv hy1).1];rfl) hx hh.1 hd hy hK
   ·obtain ⟨y,z,e,hy1,hy2⟩:=hr.two
    simp only [Option.toList,List.map_cons,List.map_nil,List.cons_append,List.nil_append,List.cons.injEq,and_true] at e
    obtain ⟨rfl,rfl⟩:=e
    exact op_slice hT hs h hop ht (l:=some _) (m:=some _) (show Option.map _ (some _)=Option.map _ (some _) by simp only [Option.map_some,(VR_int_inv hy1).1];rfl) (show Option.map _ (some _)=Option.map _ (some _) by simp only [Option.map_some,(VR_int_inv hy2).1];rfl) hx hh.1 hd hy hK
   ·cases hy
  ·cases hy
 ·
  cases hl
  obtain ⟨x,e,hx⟩:=hv.one
  obtain ⟨X,hX,rfl⟩:=map_one e
  split at hy
  ·rename_i t hts
   split at hy
   ·rename_i n hn
    exact op_len hT hs h hX hop hts hx hn hd hy hK
   ·cases hy
  ·cases hy
 ·
  cases hl
  obtain ⟨x,y,e,hx,hx2⟩:=hv.two
  obtain ⟨X,Y,hX,rfl,rfl⟩:=map_two e
  split at hy
  ·rename_i d hdst
   split at hy
   ·rename_i hts
    exact op_append hT hs h hX (Nat.eq_of_beq_eq_true hts) hop hx hx2 hdst hd (fun us=>lkd d us hdst) hy hK
   ·cases hy
  ·cases hy
 ·
  cases hl
  obtain ⟨x,y,e,hx,hx2⟩:=hv.two
  obtain ⟨X,Y,hX,rfl,rfl⟩:=map_two e
  exact op_copy hT hs h hX hop hx hx2 hd hy hK
 ·
  cases hl
  obtain ⟨x,y,e,hx,hx2⟩:=hv.two
  obtain ⟨X,Y,hX,rfl,rfl⟩:=map_two e
  split at hy
  ·rename_i hk
   have hk:=of_decide_eq_true hk
   subst hk
   exact op_min h hX hop hx hx2 hd hy hK
  ·cases hy
 ·
  cases hl
  obtain ⟨x,y,e,hx,hx2⟩:=hv.two
  obtain ⟨X,Y,hX,rfl,rfl⟩:=map_two e
  split at hy
  ·rename_i hk
   have hk:=of_decide_eq_true hk
   subst hk
   exact op_max h hX hop hx hx2 hd hy hK
  ·cases hy
 ·cases hy
end
end Go.Rd
namespace Go.Rd
mutual
theorem V.holds_triv:(u:V)→u.holds fun _=>True
 | .ptr _=>trivial
 | .ali _ _ _=>trivial
 | .grd _ _ u=>V.holds_triv u
 | .mix _ l=>V.holdsAll_triv l
 | .tup l=>V.holdsAll_triv l
 | .dat _ _=>trivial
 | .nils=>trivial
 | .ipt _ _ _=>trivial
theorem V.holdsAll_triv:(l:List V)→V.holdsAll (fun _=>True) l
 | []=>trivial
 | u::l=>⟨V.holds_triv u,V.holdsAll_triv l⟩
end
structure Spl where
 p:Ty
 q:Ty
 op:Ow
 oq:Ow
 xp:p.den
 xq:q.den
def spl:Nat→(t:Ty)→Ow→t.den→Option Spl
 | 1,.prod a b,o,x=>some ⟨a,b,o.fst,o.snd,x.1,x.2⟩
 | k+2,.prod a b,o,x=>match spl (k+1) b o.snd x.2 with
  | some s=>some ⟨.prod a s.p,s.q,.pr o.fst s.op,s.oq,(x.1,s.xp),s.xq⟩
  | none=>none
 | _,_,_,_=>none
structure Uns where
 t:Ty
 o:Ow
 x:t.den
def uns:Nat→(p q:Ty)→Ow→Ow→p.den→q.den→Option Uns
 | 1,a,b,oa,ob,xa,xb=>some ⟨.prod a b,.pr oa ob,(xa,xb)⟩
 | k+2,.prod a p,q,o,oq,x,xq=>match uns (k+1) p q o.snd oq x.2 xq with
  | some u=>some ⟨.prod a u.t,.pr o.fst u.o,(x.1,u.x)⟩
  | none=>none
 | _,_,_,_,_,_,_=>none
theorem spl_rep {S:Nat→Prop} {w:World}:∀{k:Nat} {t:Ty} {o:Ow} {x:t.den} {s:Spl},spl k t o x=some s→(s.p.size+s.q.size=t.size∧max (sdep s.p) (sdep s.q)=sdep t)∧
  ∀{cs:List Value} {F:List Nat},Rep S w t o cs x F→Rep S w (.prod s.p s.q) (.pr s.op s.oq) cs (s.xp,s.xq) F
 | 0,_,_,_,_,h=>by simp [spl] at h
 | 1,.prod a b,o,x,s,h=>by
  simp only [spl,Option.some.injEq] at h
  subst h
  exact ⟨⟨rfl,rfl⟩,fun h=>h⟩
 | k+2,.prod a b,o,x,s,h=>by
  simp only [spl] at h
  split at h
  ·rename_i s' hs
   cases h
   obtain ⟨⟨h1,h2⟩,h3⟩:=spl_rep (S:=S) (w:=w) hs
   refine ⟨⟨?_,?_⟩,fun hr=>?_⟩
   ·simp only [Ty.size];omega
   ·simp only [sdep];omega
   ·obtain ⟨c1,c2,F1,F2,rfl,rfl,g1,g2⟩:=hr
    obtain ⟨c3,c4,F3,F4,rfl,rfl,g3,g4⟩:=h3 g2
    exact ⟨c1++c3,c4,F1++F3,F4,by simp,by simp,⟨c1,c3,F1,F3,rfl,rfl,g1,g3⟩,g4⟩
  ·cases h
 | 1,.int _,_,_,_,h | 1,.bool,_,_,_,h | 1,.str,_,_,_,h | 1,.unit,_,_,_,h | 1,.slice _,_,_,_,h | 1,.st _,_,_,_,h | 1,.arr _ _,_,_,_,h=>by simp [spl] at h
 | k+2,.int _,_,_,_,h | k+2,.bool,_,_,_,h | k+2,.str,_,_,_,h | k+2,.unit,_,_,_,h | k+2,.slice _,_,_,_,h | k+2,.st _,_,_,_,h | k+2,.arr _ _,_,_,_,h=>by simp [spl] at h
theorem uns_rep {S:Nat→Prop} {w:World}:∀{k:Nat} {p q:Ty} {op oq:Ow} {xp:p.den} {xq:q.den} {u:Uns},uns k p q op oq xp xq=some u→(u.t.size=p.size+q.size∧sdep u.t=max (sdep p) (sdep q))∧
  ∀{cs:List Value} {F:List Nat},Rep S w (.prod p q) (.pr op oq) cs (xp,xq) F→Rep S w u.t u.o cs u.x F
 | 0,_,_,_,_,_,_,_,h=>by simp [uns] at h
 | 1,p,q,op,oq,xp,xq,u,h=>by
  simp only [uns,Option.some.injEq] at h
  subst h
  exact ⟨⟨rfl,rfl⟩,fun h=>h⟩
 | k+2,.prod a p,q,o,oq,x,xq,u,h=>by
  simp only [uns] at h
  split at h
  ·rename_i u' hu
   cases h
   obtain ⟨⟨h1,h2⟩,h3⟩:=uns_rep (S:=S) (w:=w) hu
   refine ⟨⟨?_,?_⟩,fun hr=>?_⟩
   ·simp only [Ty.size];omega
   ·simp only [sdep];omega
   ·obtain ⟨c1,c2,F1,F2,rfl,rfl,⟨c3,c4,F3,F4,rfl,rfl,g1,g2⟩,g3⟩:=hr
    exact ⟨c3,c4++c2,F3,F4++F2,by simp,by simp,g1,h3 ⟨c4,c2,F4,F2,rfl,rfl,g2,g3⟩⟩
  ·cases h
 | k+2,.int _,_,_,_,_,_,_,h | k+2,.bool,_,_,_,_,_,_,h | k+2,.str,_,_,_,_,_,_,h | k+2,.unit,_,_,_,_,_,_,h | k+2,.slice _,_,_,_,_,_,_,h | k+2,.st _,_,_,_,_,_,_,h | k+2,.arr _ _,_,_,_,_,_,_,h=>by simp [uns] at h
def Root.spl (k:Nat) (t:Root):Option Root:=match t with
 | ⟨.st s,o,x,v0,v1,ro,reg⟩=>match Go.Rd.spl k s o x with
  | some u=>some ⟨.prod u.p u.q,.pr u.op u.oq,(u.xp,u.xq),v0,v1,ro,reg⟩
  | none=>none
 | _=>none
def Root.uns (k:Nat) (t:Root):Option Root:=match t with
 | ⟨.prod p q,o,x,v0,v1,ro,reg⟩=>match Go.Rd.uns k p q o.fst o.snd x.1 x.2 with
  | some u=>some ⟨.st u.t,u.o,u.x,v0,v1,ro,reg⟩
  | none=>none
 | _=>none
structure Same (t t':Root):Prop where
 size:t'.τ.size=t.τ.size
 dep:sdep t'.τ=sdep t.τ
 v0:t'.v0=t.v0
 v1:t'.v1=t.v1
 ro:t'.ro=t.ro
 rep:∀(S:Nat→Prop) (w:World) (cs:List Value) (F:List Nat),Rep S w t.τ t.o cs t.x F→Rep S w t'.τ t'.o cs t'.x F
theorem Root.spl_same {k:Nat} {t t':Root} (h:t.spl k=some t'):Same t t':=by
 unfold Root.spl at h
 split at h
 ·split at h
  ·rename_i u hu
   cases h
   exact ⟨(spl_rep (S:=fun _=>True) (w:=default) hu).1.1,(spl_rep (S:=fun _=>True) (w:=default) hu).1.2,rfl,rfl,rfl,fun S w cs F hr=>(spl_rep hu).2 hr⟩
  ·cases h
 ·cases h
theorem Root.uns_same {k:Nat} {t t':Root} (h:t.uns k=some t'):Same t t':=by
 unfold Root.uns at h
 split at h
 ·split at h
  ·rename_i u hu
   cases h
   exact ⟨(uns_rep (S:=fun _=>True) (w:=default) hu).1.1,(uns_rep (S:=fun _=>True) (w:=default) hu).1.2,rfl,rfl,rfl,fun S w cs F hr=>(uns_rep hu).2 (by
    obtain ⟨c1,c2,F1,F2,e1,e2,g1,g2⟩:=hr
    exact ⟨c1,c2,F1,F2,e1,e2,g1,g2⟩)⟩
  ·cases h
 ·cases h
def preOf (rt:Roots):List Par→List V→Option (Nat×Nat×Root)
 | (τ,.lend _ _)::_,.ptr p::_=>if p.steps.isEmpty&&Nat.beq p.off 0 then match rt p.root with
   | some t=>if t.τ.beq τ then none else (List.range 12).findSome? fun k=>match t.spl k with
    | some t'=>(match t'.τ with
     | .prod a _=>if a.beq τ then some (p.root,k,t') else none
     | _=>none)
    | none=>none
   | none=>none else none
 | (_,.data)::ps,_::vs=>preOf rt ps vs
 | (_,.own _)::ps,_::vs=>preOf rt ps vs
 | _,_=>none
def dlCallR (rt:Roots) (d:Option Nat) (s:Sum) (vs:List V):Pr Dl:=match preOf rt s.ins vs with
 | none=>dlCallQ rt d s vs
 | some (r,k,t')=>match rt r with
  | some t=>(match t.spl k with
   | some t1=>(dlCallQ (upd rt r (some t1)) d s vs).andThen fun Δ=>match lk Δ.rt (upd rt r (some t1)) r with
    | some t2=>(match t2.uns k with
     | some t3=>.ret ⟨Δ.d,(r,t3)::Δ.rt⟩
     | none=>.fail)
    | none=>.fail
   | none=>.fail)
  | none=>.fail
section
variable {P:Program} {T:Tab} {c:Ctx} {sl:Slots} {rt rt':Roots} {ρ:Nat→Loc} {Fo:Nat→List Nat} {X:List Nat} {a:Act} {w:World} {K:Act→World→Prop} {Q:Exit→Act→World→Prop} {o:Oper} {Δ:Dl}
theorem RR.same (h:RR c sl rt ρ Fo X a w) {r:Nat} {t t':Root} (hr:rt r=some t) (hs:Same t t'):RR c sl (upd rt r (some t')) ρ Fo X a w:=by
 have hcase:∀k u,upd rt r (some t') k=some u→(k=r∧u=t')∨(k≠r∧rt k=some u):=fun k u hu=>by
  by_cases e:k=r
  ·subst e;rw [upd_same] at hu;cases hu;exact .inl ⟨rfl,rfl⟩
  ·rw [upd_ne e] at hu;exact .inr ⟨e,hu⟩
 have hold:∀k u,upd rt r (some t') k=some u→∃u0,rt k=some u0:=fun k u hu=>by
  rcases hcase k u hu with ⟨rfl,_⟩ | ⟨_,h⟩
  ·exact ⟨t,hr⟩
  ·exact ⟨u,h⟩
 have hS:∀b,Stab c w rt Fo X b→Stab c w (upd rt r (some t')) Fo X b:=fun b hb=>⟨hb.1,hb.2.1,fun k u hk=>by obtain ⟨u0,h0⟩:=hold k u hk;exact hb.2.2.1 k u0 h0,hb.2.2.2⟩
 have hB:∀k b,Bof c w rt ρ Fo X k b→Bof c w (upd rt r (some t')) ρ Fo X k b:=fun k b hb=>hb.imp (hS b) id
 have hP:∀p,validP (upd rt r (some t')) p→validP rt p:=fun p ⟨h1,u,h2,h3,h4⟩=>by
  rcases hcase _ _ h2 with ⟨e,rfl⟩ | ⟨_,h2⟩
  ·exact ⟨h1,t,by rw [e];exact hr,by rw [←hs.v0];exact h3,by rw [←hs.v1];exact h4.1,by rw [←hs.dep];exact h4.2⟩
  ·exact ⟨h1,u,h2,h3,h4⟩
 have hA:∀p,validA (upd rt r (some t')) p→validA rt p:=fun p ⟨h1,u,h2,h3,h4⟩=>by
  rcases hcase _ _ h2 with ⟨e,rfl⟩ | ⟨_,h2⟩
  ·exact ⟨h1,t,by rw [e];exact hr,by rw [←hs.v0];exact h3,by rw [←hs.v1];exact h4.1,by rw [←hs.dep];exact h4.2⟩
  ·exact ⟨h1,u,h2,h3,h4⟩
 refine ⟨h.os,h.tape,h.output,h.size,h.frame,h.keepc,h.keepl,fun k u hk=>?_,fun k u hk=>?_,fun k k' u u' h1 h2=>?_,fun k u hk=>?_,h.nodupX,fun b hb k u hk=>?_,h.inX,h.keepX,fun n u hu=>?_,fun n u hu=>?_,h.defers,h.tsz,fun k b q hk=>⟨(h.anch k b q hk).1,?_⟩⟩
 ·rcases hcase k u hk with ⟨rfl,rfl⟩ | ⟨_,hk⟩
  ·have:=(h.roots k t hr).mono (S':=Stab c w (upd rt k (some u)) Fo X) (w':=w) (fun b hb=>⟨hS b hb,rfl⟩) (fun _ _=>rfl)
   unfold RootOK at this ⊢
   split at this
   ·obtain ⟨cs,F',e,h1,h2,h3,h4,h5⟩:=this
    exact ⟨cs,F',e,h1,h2,hs.rep _ _ _ _ h3,by rw [hs.size,hs.ro];exact h4,h5⟩
   ·exact ⟨hs.rep _ _ _ _ this.1,this.2⟩
  ·exact (h.roots k u hk).mono (fun b hb=>⟨hS b hb,rfl⟩) (fun _ _=>rfl)
 ·obtain ⟨u0,h0⟩:=hold k u hk;exact h.nodup k u0 h0
 ·obtain ⟨u0,h0⟩:=hold k u h1;obtain ⟨u1,h1'⟩:=hold k' u' h2;exact h.disj k k' u0 u1 h0 h1'
 ·obtain ⟨u0,h0⟩:=hold k u hk;exact h.inF k u0 h0
 ·obtain ⟨u0,h0⟩:=hold k u hk;exact h.disjX b hb k u0 h0
 ·exact VR.later (N:=fun _=>True) (E:=envOf c sl rt ρ Fo X w) (E':=envOf c sl (upd rt r (some t')) ρ Fo X w) ⟨fun b hb=>⟨hS b hb,rfl⟩,fun p b q _ hp=>⟨hP p hp,walkP_mono (fun _ _ _ h=>h) (hB p.root)⟩,fun p _ _ _ _ hp=>⟨hA p hp,hdrAt_mono (fun _ _ _ h=>h) (hB p.root)⟩⟩ u _ (fun _ _=>rfl) (V.holds_mono (fun _ _=>trivial) u (h.named n u hu)) (h.slots n u hu)
 ·refine V.holds_mono (fun p hp=>?_) u (h.named n u hu)
  obtain ⟨t1,g1,g2,g3⟩:=hp
  by_cases e:p.root=r
  ·rw [e,hr] at g1;cases g1
   exact ⟨t',by rw [e,upd_same],by rw [hs.v0];exact g2,by rw [hs.v1];exact g3⟩
  ·exact ⟨t1,by rw [upd_ne e];exact g1,g2,g3⟩
 ·by_cases e:k=r
  ·subst e;rw [upd_same];simp
  ·rw [upd_ne e];exact (h.anch k b q hk).2
theorem lk_upd {r:Nat} {t1 t3:Root} (us:List (Nat×Root)) (rt:Roots):upd (lk us (upd rt r (some t1))) r (some t3)=upd (lk us rt) r (some t3):=by
 induction us with
 | nil=>exact upd_upd
 | cons x us ih=>
  obtain ⟨r',t'⟩:=x
  funext k
  have ih:=congrFun ih k
  show upd (upd (lk us (upd rt r (some t1))) r' (some t')) r (some t3) k=upd (upd (lk us rt) r' (some t')) r (some t3) k
  by_cases e:k=r
  ·subst e;rw [upd_same,upd_same]
  ·rw [upd_ne e,upd_ne e] at ih ⊢
   by_cases e':k=r'
   ·subst e';rw [upd_same,upd_same]
   ·rw [upd_ne e',upd_ne e'];exact ih
theorem op_callR (hs:∀r t,rt' r=some t→rt r=some t) (h:RR c sl rt ρ Fo [] a w) {f:FuncId} {cl:Call} (ho:o.op=.call cl) (hf:cl.callee=.value (.func f)) (hcall:∀(args:Array Value) (w:World),(callFunc f args).run P w=.ok (.enter f args) w)
  {s:Sum} (hM:Meets P f s) {vs:List V} (hv:VRs (envOf c sl rt ρ Fo [] w) vs (cl.args.toList.map a.eval)) (hd:DstOK c sl o.dst) (hnone:∀d,o.dst=some d→∀(us:List (Nat×Root)) k,lk us rt' (rid d k)=none→lk us rt (rid d k)=none)
  (hy:Yields (dlCallR rt' o.dst s vs) Δ) (hK:Good c (Δ.slots sl) (lk Δ.rt rt) K):o.wp P a w K Q:=by
 have plain:∀{rt rt':Roots} {Δ:Dl},(∀r t,rt' r=some t→rt r=some t)→RR c sl rt ρ Fo [] a w→VRs (envOf c sl rt ρ Fo [] w) vs (cl.args.toList.map a.eval)→(∀d,o.dst=some d→∀(us:List (Nat×Root)) k,lk us rt' (rid d k)=none→lk us rt (rid d k)=none)→
   Yields (dlCallQ rt' o.dst s vs) Δ→Good c (Δ.slots sl) (lk Δ.rt rt) K→o.wp P a w K Q:=fun hs h hv hnone hy hK=>by
  unfold dlCallQ at hy
  split at hy
  ·rename_i hinp
   exact op_call hs h ho hf hcall hM hinp hv hd hnone hy hK
  ·rename_i i hinp
   exact op_callE hs h ho hf hcall hM hinp hv hd hy hK
 unfold dlCallR at hy
 split at hy
 ·exact plain hs h hv hnone hy hK
 ·rename_i r k t' _
  split at hy
  ·rename_i t ht
   split at hy
   ·rename_i t1 ht1
    obtain ⟨Δ0,y1,y2⟩:=Yields.andThen _ hy
    split at y2
    ·rename_i t2 ht2
     split at y2
     ·rename_i t3 ht3
      cases y2
      have hrt:=hs _ _ ht
      have hs1:=Root.spl_same ht1
      have h1:=h.same hrt hs1
      have hs':∀q u,upd rt' r (some t1) q=some u→upd rt r (some t1) q=some u:=fun q u hq=>by
       by_cases e:q=r
       ·subst e;rw [upd_same] at hq ⊢;exact hq
       ·rw [upd_ne e] at hq ⊢;exact hs q u hq
      have hsl:=lk_sub hs' Δ0.rt _ _ ht2
      refine plain (rt:=upd rt r (some t1)) (rt':=upd rt' r (some t1)) hs' h1 ?_ (fun d hdst us q hn=>?_) y1 fun ρ1 Fo1 a1 w1 hr=>?_
      ·have hcase:∀k u,upd rt r (some t1) k=some u→∃u0,rt k=some u0∧Same u0 u:=fun k u hu=>by
        by_cases e:k=r
        ·subst e;rw [upd_same] at hu;cases hu;exact ⟨t,hrt,hs1⟩
        ·rw [upd_ne e] at hu;exact ⟨u,hu,⟨rfl,rfl,rfl,rfl,rfl,fun _ _ _ _ h=>h⟩⟩
       have hS:∀b,Stab c w rt Fo [] b→Stab c w (upd rt r (some t1)) Fo [] b:=fun b hb=>⟨hb.1,hb.2.1,fun k u hk=>by obtain ⟨u0,h0,_⟩:=hcase k u hk;exact hb.2.2.1 k u0 h0,hb.2.2.2⟩
       have hB:∀k b,Bof c w rt ρ Fo [] k b→Bof c w (upd rt r (some t1)) ρ Fo [] k b:=fun k b hb=>hb.imp (hS b) id
       refine VRs.later (N:=fun _=>True) (E:=envOf c sl rt ρ Fo [] w) (E':=envOf c sl (upd rt r (some t1)) ρ Fo [] w) ⟨fun b hb=>⟨hS b hb,rfl⟩,fun p b q _ hp=>⟨?_,walkP_mono (fun _ _ _ h=>h) (hB p.root)⟩,fun p _ _ _ _ hp=>⟨?_,hdrAt_mono (fun _ _ _ h=>h) (hB p.root)⟩⟩ vs _ (fun _ _=>rfl) (V.holdsAll_triv vs) hv
       ·obtain ⟨q1,u,q2,q3,q4⟩:=hp
        obtain ⟨u0,h0,hsm⟩:=hcase _ _ q2
        exact ⟨q1,u0,h0,by rw [←hsm.v0];exact q3,by rw [←hsm.v1];exact q4.1,by rw [←hsm.dep];exact q4.2⟩
       ·obtain ⟨q1,u,q2,q3,q4⟩:=hp
        obtain ⟨u0,h0,hsm⟩:=hcase _ _ q2
        exact ⟨q1,u0,h0,by rw [←hsm.v0];exact q3,by rw [←hsm.v1];exact q4.1,by rw [←hsm.dep];exact q4.2⟩
      ·
       have key:∀(us:List (Nat×Root)),lk us (upd rt' r (some t1)) (rid d q)=none→lk us rt' (rid d q)=none∧rid d q≠r:=fun us=>by
        induction us with
        | nil=>
         intro h
         have h:upd rt' r (some t1) (rid d q)=none:=h
         by_cases e:rid d q=r
         ·rw [e,upd_same] at h;cases h
         ·rw [upd_ne e] at h;exact ⟨h,e⟩
        | cons x us ih=>
         intro h
         have h:upd (lk us (upd rt' r (some t1))) x.1 (some x.2) (rid d q)=none:=h
         by_cases e:rid d q=x.1
         ·rw [e,upd_same] at h;cases h
         ·rw [upd_ne e] at h
          obtain ⟨g1,g2⟩:=ih h
          exact ⟨by show upd (lk us rt') x.1 (some x.2) (rid d q)=none;rw [upd_ne e];exact g1,g2⟩
       obtain ⟨g1,g2⟩:=key us hn
       have g3:=hnone d hdst us q g1
       have:∀us:List (Nat×Root),lk us rt (rid d q)=none→lk us (upd rt r (some t1)) (rid d q)=none:=fun us=>by
        induction us with
        | nil=>intro h;show upd rt r (some t1) (rid d q)=none;rw [upd_ne g2];exact h
        | cons x us ih=>
         intro h
         have h:upd (lk us rt) x.1 (some x.2) (rid d q)=none:=h
         show upd (lk us (upd rt r (some t1))) x.1 (some x.2) (rid d q)=none
         by_cases e:rid d q=x.1
         ·rw [e,upd_same] at h;cases h
         ·rw [upd_ne e] at h ⊢;exact ih h
       exact this us g3
      ·have:=hr.same hsl (Root.uns_same ht3)
       rw [lk_upd] at this
       exact hK _ _ _ _ this
     ·cases y2
    ·cases y2
   ·cases hy
  ·cases hy
end
end Go.Rd
