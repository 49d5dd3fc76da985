/-
  Part 1 of what the proof rests on: it states nothing of its own that is claimed.
-/
import Derived.Calls
import Derived.Deep.MidRow
import Derived.KernelRfl
import Derived.Laws.Slices
namespace Go.Rd
inductive Ty where
 | int (k:IntKind)
 | bool
 | str
 | slice (e:Ty)
 | unit
 | prod (a b:Ty)
 | st (t:Ty)
 | arr (n:Nat) (e:Ty)
@[reducible] def Ty.den:Ty→Type
 | .int _=>Int
 | .bool=>Bool
 | .str=>ByteArray
 | .slice e=>List e.den
 | .unit=>Unit
 | .prod a b=>a.den×b.den
 | .st t=>t.den
 | .arr _ e=>List e.den
def Ty.size:Ty→Nat
 | .unit=>0
 | .prod a b=>a.size+b.size
 | .st t=>t.size
 | .arr n e=>n * e.size
 | _=>1
def Ty.zero:(τ:Ty)→τ.den
 | .int _=>(0:Int)
 | .bool=>false
 | .str=>ByteArray.empty
 | .slice _=>[]
 | .unit=>()
 | .prod a b=>(a.zero,b.zero)
 | .st t=>t.zero
 | .arr n e=>List.replicate n e.zero
def Ty.beq:Ty→Ty→Bool
 | .int j,.int k=>decide (j=k)
 | .bool,.bool=>true
 | .str,.str=>true
 | .slice a,.slice b=>a.beq b
 | .unit,.unit=>true
 | .prod a b,.prod c d=>a.beq c&&b.beq d
 | .st a,.st b=>a.beq b
 | .arr n a,.arr m b=>Nat.beq n m&&a.beq b
 | _,_=>false
theorem Ty.eq_of_beq:{a b:Ty}→a.beq b=true→a=b
 | .int j,.int k,h=>by simp [Ty.beq] at h;rw [h]
 | .bool,.bool,_=>rfl
 | .str,.str,_=>rfl
 | .slice a,.slice b,h=>by simp only [Ty.beq] at h;rw [Ty.eq_of_beq h]
 | .unit,.unit,_=>rfl
 | .prod a b,.prod c d,h=>by simp only [Ty.beq,Bool.and_eq_true] at h;rw [Ty.eq_of_beq h.1,Ty.eq_of_beq h.2]
 | .st a,.st b,h=>by simp only [Ty.beq] at h;rw [Ty.eq_of_beq h]
 | .arr n a,.arr m b,h=>by
  simp only [Ty.beq,Bool.and_eq_true] at h
  rw [Nat.eq_of_beq_eq_true h.1,Ty.eq_of_beq h.2]
theorem Ty.beq_self:(a:Ty)→a.beq a=true
 | .int _=>by simp [Ty.beq]
 | .bool=>rfl
 | .str=>rfl
 | .slice a=>Ty.beq_self a
 | .unit=>rfl
 | .prod a b=>by simp [Ty.beq,Ty.beq_self a,Ty.beq_self b]
 | .st a=>Ty.beq_self a
 | .arr n a=>by simp [Ty.beq,Ty.beq_self a]
def recast {a b:Ty} (h:a.beq b=true) (x:a.den):b.den:=Ty.eq_of_beq h▸x
inductive Ow where
 | imm
 | dead
 | own (h:Option Nat) (e:Ow)
 | pr (a b:Ow)
def Ow.fst:Ow→Ow
 | .pr a _=>a
 | .imm=>.imm
 | _=>.dead
def Ow.snd:Ow→Ow
 | .pr _ b=>b
 | .imm=>.imm
 | _=>.dead
def LMAX:Nat:=140737488355328
def At (w:World) (b o:Nat) (cs:List Value):Prop:=∀i v,cs[i]?=some v→w.cell? ⟨b,o+i,none⟩=some v
def Rep (S:Nat→Prop) (w:World):(τ:Ty)→Ow→List Value→τ.den→List Nat→Prop
 | .int k,o,cs,x,F=>F=[]∧cs.length=1∧(o≠.dead→cs=[.int k x]∧k.min≤(x:Int)∧(x:Int)≤k.max)
 | .bool,o,cs,x,F=>F=[]∧cs.length=1∧(o≠.dead→cs=[.bool x])
 | .str,o,cs,x,F=>F=[]∧cs.length=1∧(o≠.dead→cs=[.string x]∧ByteArray.size x≤LMAX)
 | .unit,_,cs,_,F=>cs=[]∧F=[]
 | .prod a b,o,cs,x,F=>∃c1 c2 F1 F2,cs=c1++c2∧F=F1++F2∧Rep S w a o.fst c1 x.1 F1∧Rep S w b o.snd c2 x.2 F2
 | .st t,o,cs,x,F=>Rep S w t o cs x F
 | .arr n e,o,cs,x,F=>F=[]∧cs.length=n * e.size∧(o≠.dead→List.length x=n∧
   ∀(i:Nat) (y:e.den),(x:List e.den)[i]?=some y→Rep S w e .imm ((cs.drop (i * e.size)).take e.size) y [])
 | .slice e,o,cs,x,F=>match o with
  | .dead=>cs.length=1∧F=[]
  | .own h oe=>∃a cap,cs=[.slice a (List.length x) cap]∧List.length x≤cap∧List.length x≤LMAX∧
    ((a=none∧cap=0∧F=[])∨∃(b:Nat) (Fs:List (List Nat)),a=some ⟨b,0,none⟩∧F=b::Fs.flatten∧Fs.length=List.length x∧
     (∀o,o<cap * e.size→∃v,w.cell? ⟨b,o,none⟩=some v)∧(∀o,w.frozen? ⟨b,o,none⟩=false)∧
     ∀(i:Nat) (y:e.den) (Fi:List Nat),(x:List e.den)[i]?=some y→Fs[i]?=some Fi→
      (h=some i→Fi=[])∧(h≠some i→∃ci,At w b (i * e.size) ci∧Rep S w e oe ci y Fi))
  | _=>F=[]∧∃a cap,cs=[.slice a (List.length x) cap]∧List.length x≤cap∧List.length x≤LMAX∧
    (x=[]∨∃b off,a=some ⟨b,off,none⟩∧S b∧∀(i:Nat) (y:e.den),(x:List e.den)[i]?=some y→
     ∃ci,At w b (off+i * e.size) ci∧Rep S w e .imm ci y [])
theorem Rep.length {S:Nat→Prop} {w:World}:{τ:Ty}→{o:Ow}→{cs:List Value}→{x:τ.den}→{F:List Nat}→Rep S w τ o cs x F→cs.length=τ.size
 | .int _,_,_,_,_,h=>h.2.1
 | .bool,_,_,_,_,h=>h.2.1
 | .str,_,_,_,_,h=>h.2.1
 | .unit,_,_,_,_,h=>by simp [h.1,Ty.size]
 | .prod a b,_,_,_,_,⟨c1,c2,F1,F2,hc,_,h1,h2⟩=>by rw [hc,List.length_append,h1.length,h2.length];rfl
 | .st t,_,_,_,_,h=>Rep.length (τ:=t) h
 | .arr _ _,_,_,_,_,h=>h.2.1
 | .slice e,o,cs,x,F,h=>by
  cases o with
  | dead=>exact h.1
  | own hh oe=>obtain ⟨a,cap,hc,_⟩:=h;rw [hc];rfl
  | imm=>obtain ⟨_,a,cap,hc,_⟩:=h;rw [hc];rfl
  | pr _ _=>obtain ⟨_,a,cap,hc,_⟩:=h;rw [hc];rfl
def Kept (w w':World) (b:Nat):Prop:=w'.heap[b]?=w.heap[b]?
theorem Kept.cell {w w':World} {b:Nat} (h:Kept w w' b) (o:Nat):w'.cell? ⟨b,o,none⟩=w.cell? ⟨b,o,none⟩:=by
 unfold World.cell?;rw [h]
theorem Kept.frozen {w w':World} {b:Nat} (h:Kept w w' b) (o:Nat):w'.frozen? ⟨b,o,none⟩=w.frozen? ⟨b,o,none⟩:=by
 unfold World.frozen?;rw [h]
theorem At.kept {w w':World} {b o:Nat} {cs:List Value} (h:At w b o cs) (k:Kept w w' b):At w' b o cs:=
 fun i v hi=>by rw [k.cell];exact h i v hi
theorem Rep.mono {S S':Nat→Prop} {w w':World} (hS:∀b,S b→S' b∧Kept w w' b):
  {τ:Ty}→{o:Ow}→{cs:List Value}→{x:τ.den}→{F:List Nat}→(∀b∈F,Kept w w' b)→Rep S w τ o cs x F→Rep S' w' τ o cs x F
 | .int _,_,_,_,_,_,h=>h
 | .bool,_,_,_,_,_,h=>h
 | .str,_,_,_,_,_,h=>h
 | .unit,_,_,_,_,_,h=>h
 | .prod a b,_,_,_,_,hF,⟨c1,c2,F1,F2,hc,hf,h1,h2⟩=>
  ⟨c1,c2,F1,F2,hc,hf,Rep.mono hS (fun b hb=>hF b (by rw [hf];exact List.mem_append_left _ hb)) h1,
   Rep.mono hS (fun b hb=>hF b (by rw [hf];exact List.mem_append_right _ hb)) h2⟩
 | .st t,_,_,_,_,hF,h=>Rep.mono (τ:=t) hS hF h
 | .arr n e,_,_,_,_,_,⟨hf,hl,h⟩=>
  ⟨hf,hl,fun ho=>⟨(h ho).1,fun i y hy=>Rep.mono hS (fun b hb=>by simp at hb) ((h ho).2 i y hy)⟩⟩
 | .slice e,o,cs,x,F,hF,h=>by
  have himm:(F=[]∧∃a cap,cs=[.slice a (List.length x) cap]∧List.length x≤cap∧List.length x≤LMAX∧
    (x=[]∨∃b off,a=some ⟨b,off,none⟩∧S b∧∀(i:Nat) (y:e.den),(x:List e.den)[i]?=some y→
     ∃ci,At w b (off+i * e.size) ci∧Rep S w e .imm ci y []))→
    (F=[]∧∃a cap,cs=[.slice a (List.length x) cap]∧List.length x≤cap∧List.length x≤LMAX∧
    (x=[]∨∃b off,a=some ⟨b,off,none⟩∧S' b∧∀(i:Nat) (y:e.den),(x:List e.den)[i]?=some y→
     ∃ci,At w' b (off+i * e.size) ci∧Rep S' w' e .imm ci y [])):=by
   rintro ⟨hf,a,cap,hc,hl,hm,h⟩
   refine ⟨hf,a,cap,hc,hl,hm,?_⟩
   rcases h with h | ⟨b,off,ha,hb,h⟩
   ·exact .inl h
   ·refine .inr ⟨b,off,ha,(hS b hb).1,fun i y hy=>?_⟩
    obtain ⟨ci,hat,hr⟩:=h i y hy
    exact ⟨ci,hat.kept (hS b hb).2,Rep.mono hS (fun b hb=>by simp at hb) hr⟩
  cases o with
  | dead=>exact h
  | own hh oe=>
   obtain ⟨a,cap,hc,hl,hm,h⟩:=h
   refine ⟨a,cap,hc,hl,hm,?_⟩
   rcases h with h | ⟨b,Fs,ha,hf,hn,hcap,hfz,h⟩
   ·exact .inl h
   ·have hb:Kept w w' b:=hF b (by rw [hf];exact List.mem_cons_self)
    refine .inr ⟨b,Fs,ha,hf,hn,fun o ho=>by rw [hb.cell];exact hcap o ho,fun o=>by rw [hb.frozen];exact hfz o,fun i y Fi hy hFi=>?_⟩
    obtain ⟨h1,h2⟩:=h i y Fi hy hFi
    refine ⟨h1,fun hne=>?_⟩
    obtain ⟨ci,hat,hr⟩:=h2 hne
    refine ⟨ci,hat.kept hb,Rep.mono hS (fun b' hb'=>hF b' ?_) hr⟩
    rw [hf]
    exact List.mem_cons_of_mem _ (List.mem_flatten.2 ⟨Fi,List.mem_of_getElem? hFi,hb'⟩)
  | imm=>exact himm h
  | pr _ _=>exact himm h
end Go.Rd
namespace Go.Rd
def wk:Ty→Ow→Ow→Bool
 | .slice e,o',o=>match o',o with
  | .dead,_=>true
  | .imm,.imm=>true
  | .imm,.own none oe=>wk e .imm oe
  | .own none a,.own none b=>wk e a b
  | _,_=>false
 | .prod a b,o',o=>wk a o'.fst o.fst&&wk b o'.snd o.snd
 | .st t,o',o=>wk t o' o
 | .unit,_,_=>true
 | _,.dead,_=>true
 | _,_,.dead=>false
 | _,_,_=>true
theorem Rep.nil_of_imm {S:Nat→Prop} {w:World}:{τ:Ty}→{cs:List Value}→{x:τ.den}→{F:List Nat}→Rep S w τ .imm cs x F→F=[]
 | .int _,_,_,_,h=>h.1
 | .bool,_,_,_,h=>h.1
 | .str,_,_,_,h=>h.1
 | .unit,_,_,_,h=>h.2
 | .prod a b,_,_,_,⟨c1,c2,F1,F2,_,hf,h1,h2⟩=>by
  have e1:F1=[]:=Rep.nil_of_imm (τ:=a) h1
  have e2:F2=[]:=Rep.nil_of_imm (τ:=b) h2
  rw [hf,e1,e2];rfl
 | .st t,_,_,_,h=>Rep.nil_of_imm (τ:=t) h
 | .arr _ _,_,_,_,h=>h.1
 | .slice _,_,_,_,h=>h.1
theorem Rep.dead_of {S:Nat→Prop} {w:World}:{τ:Ty}→{o:Ow}→{cs:List Value}→{x:τ.den}→{F:List Nat}→Rep S w τ o cs x F→∀(S':Nat→Prop) (y:τ.den),Rep S' w τ .dead cs y []
 | .int _,_,_,_,_,h,_,_=>⟨rfl,h.2.1,fun h=>absurd rfl h⟩
 | .bool,_,_,_,_,h,_,_=>⟨rfl,h.2.1,fun h=>absurd rfl h⟩
 | .str,_,_,_,_,h,_,_=>⟨rfl,h.2.1,fun h=>absurd rfl h⟩
 | .unit,_,_,_,_,h,_,_=>⟨h.1,rfl⟩
 | .prod a b,_,_,_,_,⟨c1,c2,F1,F2,hc,hf,h1,h2⟩,S',y=>
  ⟨c1,c2,[],[],hc,rfl,Rep.dead_of h1 S' y.1,Rep.dead_of h2 S' y.2⟩
 | .st t,_,_,_,_,h,S',y=>Rep.dead_of (τ:=t) h S' y
 | .arr _ _,_,_,_,_,h,_,_=>⟨rfl,h.2.1,fun h=>absurd rfl h⟩
 | .slice _,_,_,_,_,h,_,_=>⟨by have:=Rep.length h;simpa [Ty.size] using this,rfl⟩
theorem exists_list {α:Type} {n:Nat} {P:Nat→α→Prop} (h:∀i,i<n→∃a,P i a):∃l:List α,l.length=n∧∀i a,l[i]?=some a→P i a:=by
 induction n with
 | zero=>exact ⟨[],rfl,fun i a h=>by simp at h⟩
 | succ n ih=>
  obtain ⟨l,hl,hp⟩:=ih fun i hi=>h i (by omega)
  obtain ⟨a,ha⟩:=h n (by omega)
  refine ⟨l++[a],by simp [hl],fun i b hb=>?_⟩
  by_cases hi:i<l.length
  ·rw [List.getElem?_append_left hi] at hb;exact hp i b hb
  ·have:i=l.length:=by
    have:=(List.getElem?_eq_some_iff.1 hb).1
    simp at this;omega
   subst this
   simp at hb
   rw [←hb,hl];exact ha
theorem flatten_sublist {α:Type}:{l m:List (List α)}→l.length=m.length→(∀(i:Nat) (a b:List α),l[i]?=some a→m[i]?=some b→a.Sublist b)→l.flatten.Sublist m.flatten
 | [],[],_,_=>List.Sublist.refl _
 | a::l,b::m,hl,h=>by
  simp only [List.flatten_cons]
  exact List.Sublist.append (h 0 a b rfl rfl) (flatten_sublist (by simpa using hl) fun i x y hx hy=>h (i+1) x y (by simpa using hx) (by simpa using hy))
theorem nodup_flatten_ne {α:Type} {l:List (List α)} (h:l.flatten.Nodup) {i j:Nat} {a b:List α} (hi:l[i]?=some a) (hj:l[j]?=some b) (hne:i≠j) {x:α} (hx:x∈a):x ∉ b:=by
 induction l generalizing i j with
 | nil=>simp at hi
 | cons c l ih=>
  rw [List.flatten_cons,List.nodup_append] at h
  obtain ⟨h1,h2,h3⟩:=h
  intro hb
  cases i with
  | zero=>
   cases j with
   | zero=>exact hne rfl
   | succ j=>
    simp at hi hj;subst hi
    exact h3 x hx x (List.mem_flatten.2 ⟨b,List.mem_of_getElem? hj,hb⟩) rfl
  | succ i=>
   cases j with
   | zero=>
    simp at hi hj;subst hj
    exact h3 x hb x (List.mem_flatten.2 ⟨a,List.mem_of_getElem? hi,hx⟩) rfl
   | succ j=>
    exact ih h2 (by simpa using hi) (by simpa using hj) (by omega) hb
theorem nodup_of_getElem_flatten {α:Type} {l:List (List α)} (h:l.flatten.Nodup) {i:Nat} {a:List α} (hi:l[i]?=some a):a.Nodup:=
 List.Nodup.sublist (List.sublist_flatten_of_mem (List.mem_of_getElem? hi)) h
theorem Rep.weak {S:Nat→Prop} {w:World}:{τ:Ty}→{o o':Ow}→{cs:List Value}→{x:τ.den}→{F:List Nat}→Rep S w τ o cs x F→wk τ o' o=true→F.Nodup→
  ∃F':List Nat,F'.Sublist F∧∀S':Nat→Prop,(∀b,S b→S' b)→(∀b∈F,b ∉ F'→S' b)→Rep S' w τ o' cs x F'
 | .int _,o,o',_,_,_,h,hl,_=>
  ⟨_,List.Sublist.refl _,fun S' _ _=>⟨h.1,h.2.1,fun hd=>h.2.2 (by rintro rfl;cases o'<;>simp_all [wk])⟩⟩
 | .bool,o,o',_,_,_,h,hl,_=>
  ⟨_,List.Sublist.refl _,fun S' _ _=>⟨h.1,h.2.1,fun hd=>h.2.2 (by rintro rfl;cases o'<;>simp_all [wk])⟩⟩
 | .str,o,o',_,_,_,h,hl,_=>
  ⟨_,List.Sublist.refl _,fun S' _ _=>⟨h.1,h.2.1,fun hd=>h.2.2 (by rintro rfl;cases o'<;>simp_all [wk])⟩⟩
 | .unit,_,_,_,_,_,h,_,_=>⟨_,List.Sublist.refl _,fun _ _ _=>h⟩
 | .prod a b,o,o',_,_,_,⟨c1,c2,F1,F2,hc,hf,h1,h2⟩,hl,hn=>by
  simp only [wk,Bool.and_eq_true] at hl
  subst hf
  rw [List.nodup_append] at hn
  obtain ⟨n1,n2,n3⟩:=hn
  obtain ⟨F1',s1,k1⟩:=Rep.weak h1 hl.1 n1
  obtain ⟨F2',s2,k2⟩:=Rep.weak h2 hl.2 n2
  refine ⟨F1'++F2',s1.append s2,fun S' hS hF=>⟨c1,c2,F1',F2',hc,rfl,k1 S' hS fun b hb hb'=>?_,k2 S' hS fun b hb hb'=>?_⟩⟩
  ·refine hF b (List.mem_append_left _ hb) fun hm=>?_
   rcases List.mem_append.1 hm with h | h
   ·exact hb' h
   ·exact n3 b hb b (s2.subset h) rfl
  ·refine hF b (List.mem_append_right _ hb) fun hm=>?_
   rcases List.mem_append.1 hm with h | h
   ·exact n3 b (s1.subset h) b hb rfl
   ·exact hb' h
 | .st t,_,_,_,_,_,h,hl,hn=>Rep.weak (τ:=t) h hl hn
 | .arr _ e,o,o',_,_,_,h,hl,_=>
  ⟨_,List.Sublist.refl _,fun S' hS _=>⟨h.1,h.2.1,fun hd=>by
   obtain ⟨h1,h2⟩:=h.2.2 (by rintro rfl;cases o'<;>simp_all [wk])
   exact ⟨h1,fun i y hy=>(h2 i y hy).mono (fun b hb=>⟨hS b hb,rfl⟩) (fun b hb=>by simp at hb)⟩⟩⟩
 | .slice e,o,o',cs,x,F,h,hl,hn=>by
  cases o' with
  | dead=>exact ⟨[],List.nil_sublist _,fun S' _ _=>Rep.dead_of h S' x⟩
  | pr _ _=>cases o<;>simp [wk] at hl
  | imm=>
   cases o with
   | dead=>simp [wk] at hl
   | pr _ _=>simp [wk] at hl
   | imm=>exact ⟨_,List.Sublist.refl _,fun S' hS _=>Rep.mono (τ:=.slice e) (o:=.imm) (fun b hb=>⟨hS b hb,rfl⟩) (fun b _=>rfl) h⟩
   | own hh oe=>
    cases hh with
    | some _=>simp [wk] at hl
    | none=>
     simp only [wk] at hl
     obtain ⟨a,cap,hc,hlen,hm,h⟩:=h
     refine ⟨[],List.nil_sublist _,fun S' hS hF=>⟨rfl,a,cap,hc,hlen,hm,?_⟩⟩
     rcases h with ⟨ha,hcap,hf⟩ | ⟨b,Fs,ha,hf,hFs,hcap,hfz,h⟩
     ·left
      have:List.length x≤0:=by omega
      exact List.eq_nil_of_length_eq_zero (by omega)
     ·right
      subst hf
      refine ⟨b,0,ha,hF b List.mem_cons_self (by simp),fun i y hy=>?_⟩
      have hi:i<Fs.length:=by rw [hFs];exact (List.getElem?_eq_some_iff.1 hy).1
      obtain ⟨_,h2⟩:=h i y Fs[i] hy (List.getElem?_eq_getElem hi)
      obtain ⟨ci,hat,hr⟩:=h2 (by simp)
      have hn':=nodup_of_getElem_flatten (List.nodup_cons.1 hn).2 (List.getElem?_eq_getElem hi)
      obtain ⟨F',hs,hk⟩:=Rep.weak hr hl hn'
      have hk':=hk S' hS fun b' hb' hb''=>hF b' (List.mem_cons_of_mem _ (List.mem_flatten.2 ⟨_,List.getElem_mem hi,hb'⟩)) (by simp)
      have e:=Rep.nil_of_imm hk'
      subst e
      exact ⟨ci,by simpa using hat,hk'⟩
  | own hh' oe'=>
   cases hh' with
   | some _=>cases o<;>simp [wk] at hl
   | none=>
    cases o with
    | dead=>simp [wk] at hl
    | pr _ _=>simp [wk] at hl
    | imm=>simp [wk] at hl
    | own hh oe=>
     cases hh with
     | some _=>simp [wk] at hl
     | none=>
      simp only [wk] at hl
      obtain ⟨a,cap,hc,hlen,hm,h⟩:=h
      rcases h with ⟨ha,hcap,hf⟩ | ⟨b,Fs,ha,hf,hFs,hcap,hfz,h⟩
      ·exact ⟨[],List.nil_sublist _,fun S' _ _=>⟨a,cap,hc,hlen,hm,.inl ⟨ha,hcap,rfl⟩⟩⟩
      ·subst hf
       have key:∀i,i<Fs.length→∃F':List Nat,∀y Fi,x[i]?=some y→Fs[i]?=some Fi→F'.Sublist Fi∧∀S':Nat→Prop,(∀b,S b→S' b)→(∀b∈Fi,b ∉ F'→S' b)→∃ci,At w b (i * e.size) ci∧Rep S' w e oe' ci y F':=by
        intro i hi
        have hx:i<List.length x:=by rw [←hFs];exact hi
        obtain ⟨_,h2⟩:=h i x[i] Fs[i] (List.getElem?_eq_getElem hx) (List.getElem?_eq_getElem hi)
        obtain ⟨ci,hat,hr⟩:=h2 (by simp)
        obtain ⟨F',hs,hk⟩:=Rep.weak hr hl (nodup_of_getElem_flatten (List.nodup_cons.1 hn).2 (List.getElem?_eq_getElem hi))
        refine ⟨F',fun y Fi hy hFi=>?_⟩
        rw [List.getElem?_eq_getElem hx] at hy
        rw [List.getElem?_eq_getElem hi] at hFi
        cases hy;cases hFi
        exact ⟨hs,fun S' hS hF=>⟨ci,hat,hk S' hS hF⟩⟩
       obtain ⟨Fs',hl',hp⟩:=exists_list key
       have hsub:Fs'.flatten.Sublist Fs.flatten:=flatten_sublist hl' fun i a c ha hc=>by
        have hi:i<Fs.length:=(List.getElem?_eq_some_iff.1 hc).1
        have hx:i<List.length x:=by rw [←hFs];exact hi
        exact (hp i a ha x[i] c (List.getElem?_eq_getElem hx) hc).1
       refine ⟨b::Fs'.flatten,hsub.cons_cons b,fun S' hS hF=>⟨a,cap,hc,hlen,hm,.inr ⟨b,Fs',ha,rfl,by rw [hl',hFs],hcap,hfz,fun i y Fi hy hFi=>⟨fun hne=>by simp at hne,fun _=>?_⟩⟩⟩⟩
       have hi:i<Fs.length:=by rw [hFs];exact (List.getElem?_eq_some_iff.1 hy).1
       obtain ⟨hs,hk⟩:=hp i Fi hFi y Fs[i] hy (List.getElem?_eq_getElem hi)
       refine hk S' hS fun c hc1 hc2=>hF c (List.mem_cons_of_mem _ (List.mem_flatten.2 ⟨_,List.getElem_mem hi,hc1⟩)) ?_
       intro hm'
       rcases List.mem_cons.1 hm' with rfl | hm'
       ·exact (List.nodup_cons.1 hn).1 (List.mem_flatten.2 ⟨_,List.getElem_mem hi,hc1⟩)
       ·obtain ⟨Fj,hFj,hcj⟩:=List.mem_flatten.1 hm'
        obtain ⟨j,hj⟩:=List.mem_iff_getElem?.1 hFj
        have hj':j<Fs.length:=by rw [←hl'];exact (List.getElem?_eq_some_iff.1 hj).1
        by_cases hij:i=j
        ·subst hij
         rw [hFi] at hj;cases hj;exact hc2 hcj
        ·have hxj:j<List.length x:=by rw [←hFs];exact hj'
         have:=(hp j Fj hj x[j] Fs[j] (List.getElem?_eq_getElem hxj) (List.getElem?_eq_getElem hj')).1.subset hcj
         exact nodup_flatten_ne (List.nodup_cons.1 hn).2 (List.getElem?_eq_getElem hi) (List.getElem?_eq_getElem hj') hij hc1 this
end Go.Rd
namespace Go.Rd
def subAt (σ:Ty):(τ:Ty)→Ow→τ.den→Nat→Option (Ow×σ.den)
 | .prod a b,o,x,off=>
  if h:(Ty.prod a b).beq σ=true then (if Nat.beq off 0 then some (o,recast h x) else none)
  else if Nat.ble a.size off then subAt σ b o.snd x.2 (off-a.size) else subAt σ a o.fst x.1 off
 | .st t,o,x,off=>
  if h:(Ty.st t).beq σ=true then (if Nat.beq off 0 then some (o,recast h x) else none) else subAt σ t o x off
 | τ,o,x,off=>if h:τ.beq σ=true then (if Nat.beq off 0 then some (o,recast h x) else none) else none
def setAt (σ:Ty) (v:Ow×σ.den):(τ:Ty)→Ow→τ.den→Nat→Option (Ow×τ.den)
 | .prod a b,o,x,off=>
  if h:σ.beq (Ty.prod a b)=true then (if Nat.beq off 0 then some (v.1,recast h v.2) else none)
  else if Nat.ble a.size off then (setAt σ v b o.snd x.2 (off-a.size)).map fun r=>(.pr o.fst r.1,(x.1,r.2))
  else (setAt σ v a o.fst x.1 off).map fun r=>(.pr r.1 o.snd,(r.2,x.2))
 | .st t,o,x,off=>
  if h:σ.beq (Ty.st t)=true then (if Nat.beq off 0 then some (v.1,recast h v.2) else none) else setAt σ v t o x off
 | τ,_,_,off=>if h:σ.beq τ=true then (if Nat.beq off 0 then some (v.1,recast h v.2) else none) else none
def subSl:(τ:Ty)→Ow→τ.den→Nat→Option ((e:Ty)×Ow×List e.den)
 | .slice e,o,x,off=>if Nat.beq off 0 then some ⟨e,o,x⟩ else none
 | .prod a b,o,x,off=>if Nat.ble a.size off then subSl b o.snd x.2 (off-a.size) else subSl a o.fst x.1 off
 | .st t,o,x,off=>subSl t o x off
 | _,_,_,_=>none
def subAr:(τ:Ty)→Ow→τ.den→Nat→Option (Nat×(e:Ty)×Ow×List e.den)
 | .arr n e,o,x,off=>if Nat.beq off 0 then some ⟨n,e,o,x⟩ else none
 | .prod a b,o,x,off=>if Nat.ble a.size off then subAr b o.snd x.2 (off-a.size) else subAr a o.fst x.1 off
 | .st t,o,x,off=>subAr t o x off
 | _,_,_,_=>none
theorem Ty.beq_comm {a b:Ty}:a.beq b=true↔b.beq a=true:=
 ⟨fun h=>by rw [Ty.eq_of_beq h];exact Ty.beq_self _,fun h=>by rw [Ty.eq_of_beq h];exact Ty.beq_self _⟩
theorem whole_focus {S:Nat→Prop} {w:World} {σ τ:Ty} {o o':Ow} {x:τ.den} {y:σ.den} {off:Nat} {cs:List Value} {F:List Nat} (h:τ.beq σ=true)
  (he:(if Nat.beq off 0 then some (o,recast h x) else none)=some (o',y)) (hr:Rep S w τ o cs x F):
  ∃p m q:List Value,∃Fp Fm Fq:List Nat,cs=p++m++q∧p.length=off∧F=Fp++Fm++Fq∧Rep S w σ o' m y Fm∧
   ∀(S':Nat→Prop) (w':World) (v:Ow×σ.den) (m':List Value) (F':List Nat) (r:Ow×τ.den),(h':σ.beq τ=true)→(if Nat.beq off 0 then some (v.1,recast h' v.2) else none)=some r→
    Rep S' w' σ v.1 m' v.2 F'→Rep S' w' τ r.1 (p++m'++q) r.2 (Fp++F'++Fq):=by
 have e:=Ty.eq_of_beq h
 subst e
 cases hb:Nat.beq off 0 with
 | false=>rw [hb] at he;simp at he
 | true=>
  rw [hb] at he
  simp only [if_true,Option.some.injEq,Prod.mk.injEq] at he
  obtain ⟨rfl,rfl⟩:=he
  refine ⟨[],cs,[],[],F,[],by simp,by simpa using (Nat.eq_of_beq_eq_true hb).symm,by simp,hr,fun S' w' v m' F' r h' hrr hv=>?_⟩
  simp only [if_true,Option.some.injEq] at hrr
  subst hrr
  simp only [List.nil_append,List.append_nil]
  exact hv
theorem subAt_focus {S:Nat→Prop} {w:World} {σ:Ty}:{τ:Ty}→{o o':Ow}→{x:τ.den}→{y:σ.den}→{off:Nat}→{cs:List Value}→{F:List Nat}→
  subAt σ τ o x off=some (o',y)→Rep S w τ o cs x F→
  ∃p m q:List Value,∃Fp Fm Fq:List Nat,cs=p++m++q∧p.length=off∧F=Fp++Fm++Fq∧Rep S w σ o' m y Fm∧
   ∀(S':Nat→Prop) (w':World) (v:Ow×σ.den) (m':List Value) (F':List Nat) (r:Ow×τ.den),setAt σ v τ o x off=some r→
    (∀b,S b→S' b∧Kept w w' b)→(∀b∈Fp++Fq,Kept w w' b)→Rep S' w' σ v.1 m' v.2 F'→Rep S' w' τ r.1 (p++m'++q) r.2 (Fp++F'++Fq)
 | .prod a b,o,o',x,y,off,cs,F,hs,hr=>by
  by_cases h:(Ty.prod a b).beq σ=true
  ·simp only [subAt,dif_pos h] at hs
   obtain ⟨p,m,q,Fp,Fm,Fq,h1,h2,h3,h4,h5⟩:=whole_focus h hs hr
   refine ⟨p,m,q,Fp,Fm,Fq,h1,h2,h3,h4,fun S' w' v m' F' r hset _ _ hv=>?_⟩
   simp only [setAt,dif_pos (Ty.beq_comm.1 h)] at hset
   exact h5 S' w' v m' F' r _ hset hv
  ·simp only [subAt,dif_neg h] at hs
   have h':¬σ.beq (Ty.prod a b)=true:=fun k=>h (Ty.beq_comm.1 k)
   obtain ⟨c1,c2,F1,F2,hc,hf,r1,r2⟩:=hr
   cases hb:Nat.ble a.size off with
   | true=>
    simp only [hb,if_true] at hs
    obtain ⟨p,m,q,Fp,Fm,Fq,h1,h2,h3,h4,h5⟩:=subAt_focus hs r2
    refine ⟨c1++p,m,q,F1++Fp,Fm,Fq,by rw [hc,h1];simp,?_,by rw [hf,h3];simp,h4,fun S' w' v m' F' r hset hS hK hv=>?_⟩
    ·have:=Nat.le_of_ble_eq_true hb
     rw [List.length_append,h2,r1.length];omega
    ·simp only [setAt,dif_neg h',hb,if_true] at hset
     cases hq:setAt σ v b o.snd x.2 (off-a.size) with
     | none=>rw [hq] at hset;simp at hset
     | some r'=>
      rw [hq] at hset
      simp only [Option.map_some,Option.some.injEq] at hset
      subst hset
      have:=h5 S' w' v m' F' r' hq hS (fun b hb=>hK b (by simp only [List.mem_append] at hb ⊢;rcases hb with h | h;exact .inl (.inr h);exact .inr h)) hv
      exact ⟨c1,p++m'++q,F1,Fp++F'++Fq,by simp,by simp,r1.mono hS (fun b hb=>hK b (by simp [hb])),this⟩
   | false=>
    simp only [hb] at hs
    obtain ⟨p,m,q,Fp,Fm,Fq,h1,h2,h3,h4,h5⟩:=subAt_focus hs r1
    refine ⟨p,m,q++c2,Fp,Fm,Fq++F2,by rw [hc,h1];simp,h2,by rw [hf,h3];simp,h4,fun S' w' v m' F' r hset hS hK hv=>?_⟩
    simp only [setAt,dif_neg h',hb] at hset
    cases hq:setAt σ v a o.fst x.1 off with
    | none=>rw [hq] at hset;simp at hset
    | some r'=>
     rw [hq] at hset
     simp at hset
     subst hset
     have:=h5 S' w' v m' F' r' hq hS (fun b hb=>hK b (by simp only [List.mem_append] at hb ⊢;rcases hb with h | h;exact .inl h;exact .inr (.inl h))) hv
     exact ⟨p++m'++q,c2,Fp++F'++Fq,F2,by simp,by simp,this,r2.mono hS (fun b hb=>hK b (by simp [hb]))⟩
 | .st t,o,o',x,y,off,cs,F,hs,hr=>by
  by_cases h:(Ty.st t).beq σ=true
  ·simp only [subAt,dif_pos h] at hs
   obtain ⟨p,m,q,Fp,Fm,Fq,h1,h2,h3,h4,h5⟩:=whole_focus h hs hr
   refine ⟨p,m,q,Fp,Fm,Fq,h1,h2,h3,h4,fun S' w' v m' F' r hset _ _ hv=>?_⟩
   simp only [setAt,dif_pos (Ty.beq_comm.1 h)] at hset
   exact h5 S' w' v m' F' r _ hset hv
  ·simp only [subAt,dif_neg h] at hs
   have h':¬σ.beq (Ty.st t)=true:=fun k=>h (Ty.beq_comm.1 k)
   obtain ⟨p,m,q,Fp,Fm,Fq,h1,h2,h3,h4,h5⟩:=subAt_focus (τ:=t) hs hr
   refine ⟨p,m,q,Fp,Fm,Fq,h1,h2,h3,h4,fun S' w' v m' F' r hset hS hK hv=>?_⟩
   simp only [setAt,dif_neg h'] at hset
   exact h5 S' w' v m' F' r hset hS hK hv
 | .int k,o,o',x,y,off,cs,F,hs,hr=>by
  by_cases h:(Ty.int k).beq σ=true
  ·simp only [subAt,dif_pos h] at hs
   obtain ⟨p,m,q,Fp,Fm,Fq,h1,h2,h3,h4,h5⟩:=whole_focus h hs hr
   refine ⟨p,m,q,Fp,Fm,Fq,h1,h2,h3,h4,fun S' w' v m' F' r hset _ _ hv=>?_⟩
   simp only [setAt,dif_pos (Ty.beq_comm.1 h)] at hset
   exact h5 S' w' v m' F' r _ hset hv
  ·simp only [subAt,dif_neg h] at hs;simp at hs
 | .bool,o,o',x,y,off,cs,F,hs,hr=>by
  by_cases h:Ty.bool.beq σ=true
  ·simp only [subAt,dif_pos h] at hs
   obtain ⟨p,m,q,Fp,Fm,Fq,h1,h2,h3,h4,h5⟩:=whole_focus h hs hr
   refine ⟨p,m,q,Fp,Fm,Fq,h1,h2,h3,h4,fun S' w' v m' F' r hset _ _ hv=>?_⟩
   simp only [setAt,dif_pos (Ty.beq_comm.1 h)] at hset
   exact h5 S' w' v m' F' r _ hset hv
  ·simp only [subAt,dif_neg h] at hs;simp at hs
 | .str,o,o',x,y,off,cs,F,hs,hr=>by
  by_cases h:Ty.str.beq σ=true
  ·simp only [subAt,dif_pos h] at hs
   obtain ⟨p,m,q,Fp,Fm,Fq,h1,h2,h3,h4,h5⟩:=whole_focus h hs hr
   refine ⟨p,m,q,Fp,Fm,Fq,h1,h2,h3,h4,fun S' w' v m' F' r hset _ _ hv=>?_⟩
   simp only [setAt,dif_pos (Ty.beq_comm.1 h)] at hset
   exact h5 S' w' v m' F' r _ hset hv
  ·simp only [subAt,dif_neg h] at hs;simp at hs
 | .unit,o,o',x,y,off,cs,F,hs,hr=>by
  by_cases h:Ty.unit.beq σ=true
  ·simp only [subAt,dif_pos h] at hs
   obtain ⟨p,m,q,Fp,Fm,Fq,h1,h2,h3,h4,h5⟩:=whole_focus h hs hr
   refine ⟨p,m,q,Fp,Fm,Fq,h1,h2,h3,h4,fun S' w' v m' F' r hset _ _ hv=>?_⟩
   simp only [setAt,dif_pos (Ty.beq_comm.1 h)] at hset
   exact h5 S' w' v m' F' r _ hset hv
  ·simp only [subAt,dif_neg h] at hs;simp at hs
 | .slice e,o,o',x,y,off,cs,F,hs,hr=>by
  by_cases h:(Ty.slice e).beq σ=true
  ·simp only [subAt,dif_pos h] at hs
   obtain ⟨p,m,q,Fp,Fm,Fq,h1,h2,h3,h4,h5⟩:=whole_focus h hs hr
   refine ⟨p,m,q,Fp,Fm,Fq,h1,h2,h3,h4,fun S' w' v m' F' r hset _ _ hv=>?_⟩
   simp only [setAt,dif_pos (Ty.beq_comm.1 h)] at hset
   exact h5 S' w' v m' F' r _ hset hv
  ·simp only [subAt,dif_neg h] at hs;simp at hs
 | .arr n e,o,o',x,y,off,cs,F,hs,hr=>by
  by_cases h:(Ty.arr n e).beq σ=true
  ·simp only [subAt,dif_pos h] at hs
   obtain ⟨p,m,q,Fp,Fm,Fq,h1,h2,h3,h4,h5⟩:=whole_focus h hs hr
   refine ⟨p,m,q,Fp,Fm,Fq,h1,h2,h3,h4,fun S' w' v m' F' r hset _ _ hv=>?_⟩
   simp only [setAt,dif_pos (Ty.beq_comm.1 h)] at hset
   exact h5 S' w' v m' F' r _ hset hv
  ·simp only [subAt,dif_neg h] at hs;simp at hs
theorem subSl_sub:{τ:Ty}→{o o':Ow}→{x:τ.den}→{off:Nat}→{e:Ty}→{xs:List e.den}→subSl τ o x off=some ⟨e,o',xs⟩→subAt (.slice e) τ o x off=some (o',xs)
 | .slice e,o,o',x,off,e',xs,h=>by
  simp only [subSl] at h
  cases hb:Nat.beq off 0 with
  | false=>rw [hb] at h;simp at h
  | true=>
   rw [hb] at h
   simp only [if_true,Option.some.injEq,Sigma.mk.injEq] at h
   obtain ⟨rfl,h⟩:=h
   have h:=eq_of_heq h
   cases h
   simp only [subAt,dif_pos (Ty.beq_self (.slice e)),hb,if_true]
   rfl
 | .prod a b,o,o',x,off,e',xs,h=>by
  have hne:¬(Ty.prod a b).beq (.slice e')=true:=by simp [Ty.beq]
  simp only [subSl] at h
  simp only [subAt,dif_neg hne]
  cases hb:Nat.ble a.size off with
  | true=>rw [hb] at h;simp only [if_true] at h ⊢;exact subSl_sub h
  | false=>rw [hb] at h;simp only [Bool.false_eq_true,if_false] at h ⊢;exact subSl_sub h
 | .st t,o,o',x,off,e',xs,h=>by
  have hne:¬(Ty.st t).beq (.slice e')=true:=by simp [Ty.beq]
  simp only [subSl] at h
  simp only [subAt,dif_neg hne]
  exact subSl_sub (τ:=t) h
 | .int _,_,_,_,_,_,_,h=>by simp [subSl] at h
 | .bool,_,_,_,_,_,_,h=>by simp [subSl] at h
 | .str,_,_,_,_,_,_,h=>by simp [subSl] at h
 | .unit,_,_,_,_,_,_,h=>by simp [subSl] at h
 | .arr _ _,_,_,_,_,_,_,h=>by simp [subSl] at h
theorem subAr_sub:{τ:Ty}→{o o':Ow}→{x:τ.den}→{off:Nat}→{k:Nat}→{e:Ty}→{xs:List e.den}→subAr τ o x off=some ⟨k,e,o',xs⟩→subAt (.arr k e) τ o x off=some (o',xs)
 | .arr k e,o,o',x,off,k',e',xs,h=>by
  simp only [subAr] at h
  cases hb:Nat.beq off 0 with
  | false=>rw [hb] at h;simp at h
  | true=>
   rw [hb] at h
   simp only [if_true,Option.some.injEq,Prod.mk.injEq,Sigma.mk.injEq] at h
   obtain ⟨rfl,rfl,h⟩:=h
   have h:=eq_of_heq h
   cases h
   simp only [subAt,dif_pos (Ty.beq_self (.arr k e)),hb,if_true]
   rfl
 | .prod a b,o,o',x,off,k',e',xs,h=>by
  have hne:¬(Ty.prod a b).beq (.arr k' e')=true:=by simp [Ty.beq]
  simp only [subAr] at h
  simp only [subAt,dif_neg hne]
  cases hb:Nat.ble a.size off with
  | true=>rw [hb] at h;simp only [if_true] at h ⊢;exact subAr_sub h
  | false=>rw [hb] at h;simp only [Bool.false_eq_true,if_false] at h ⊢;exact subAr_sub h
 | .st t,o,o',x,off,k',e',xs,h=>by
  have hne:¬(Ty.st t).beq (.arr k' e')=true:=by simp [Ty.beq]
  simp only [subAr] at h
  simp only [subAt,dif_neg hne]
  exact subAr_sub (τ:=t) h
 | .int _,_,_,_,_,_,_,_,h=>by simp [subAr] at h
 | .bool,_,_,_,_,_,_,_,h=>by simp [subAr] at h
 | .str,_,_,_,_,_,_,_,h=>by simp [subAr] at h
 | .unit,_,_,_,_,_,_,_,h=>by simp [subAr] at h
 | .slice _,_,_,_,_,_,_,_,h=>by simp [subAr] at h
end Go.Rd
namespace Go.Rd
structure Step where
 n:Nat
 es:Nat
 off:Nat
 cnt:Option Nat
def isSl:Ty→Bool
 | .slice _=>true
 | _=>false
theorem holeTy {σ e:Ty} {a b c d:Bool} (h:(a&&b&&c&&d&&e.beq σ)=true):e.beq σ=true:=by
 simp only [Bool.and_eq_true] at h
 exact h.2
theorem holeTy' {σ e:Ty} {a b:Bool} (h:(a&&b&&σ.beq e)=true):σ.beq e=true:=by
 simp only [Bool.and_eq_true] at h
 exact h.2
def look (σ:Ty):List Step→(τ:Ty)→Ow→τ.den→Nat→Option (Ow×σ.den)
 | [],τ,o,x,off=>subAt σ τ o x off
 | s::r,τ,o,x,off=>
  match s.cnt with
  | none=>
   match subSl τ o x off with
   | some ⟨e,.own none oe,xs⟩=>if Nat.beq e.size s.es then look σ r e oe (xs.getD s.n e.zero) s.off else none
   | some ⟨e,.own (some _) _,xs⟩=>if h:(r.isEmpty&&Nat.beq s.off 0&&isSl e&&Nat.beq e.size s.es&&e.beq σ)=true then some (.dead,recast (holeTy h) (xs.getD s.n e.zero)) else none
   | _=>none
  | some k=>
   match subAr τ o x off with
   | some ⟨k',e,.imm,xs⟩=>if Nat.beq k k'&&Nat.beq e.size s.es then look σ r e .imm (xs.getD s.n e.zero) s.off else none
   | _=>none
def Ow.beq:Ow→Ow→Bool
 | .imm,.imm=>true
 | .dead,.dead=>true
 | .own none a,.own none b=>a.beq b
 | .pr a b,.pr c d=>a.beq c&&b.beq d
 | _,_=>false
theorem Ow.eq_of_beq:{a b:Ow}→a.beq b=true→a=b
 | .imm,.imm,_=>rfl
 | .dead,.dead,_=>rfl
 | .own none a,.own none b,h=>by simp only [Ow.beq] at h;rw [Ow.eq_of_beq h]
 | .pr a b,.pr c d,h=>by simp only [Ow.beq,Bool.and_eq_true] at h;rw [Ow.eq_of_beq h.1,Ow.eq_of_beq h.2]
def put (σ:Ty) (v:Ow×σ.den):List Step→(τ:Ty)→Ow→τ.den→Nat→Option (Ow×τ.den)
 | [],τ,o,x,off=>setAt σ v τ o x off
 | s::r,τ,o,x,off=>
  match s.cnt with
  | none=>
   match subSl τ o x off with
   | some ⟨e,.own none oe,xs⟩=>
    match put σ v r e oe (xs.getD s.n e.zero) s.off with
    | some ⟨oe',y⟩=>if oe'.beq oe then setAt (.slice e) (.own none oe,xs.set s.n y) τ o x off else none
    | none=>none
   | some ⟨e,.own (some i) oe,xs⟩=>if h:(Nat.beq i s.n&&v.1.beq oe&&σ.beq e)=true then setAt (.slice e) (.own none oe,xs.set s.n (recast (holeTy' h) v.2)) τ o x off else none
   | _=>none
  | some _=>
   match subAr τ o x off with
   | some ⟨k',e,.imm,xs⟩=>
    match put σ v r e .imm (xs.getD s.n e.zero) s.off with
    | some ⟨.imm,y⟩=>setAt (.arr k' e) (.imm,xs.set s.n y) τ o x off
    | _=>none
   | _=>none
def walkH (w:World) (B:Nat→Prop):Nat→Nat→List Step→Nat→Nat→Prop
 | b,o,[],b',q=>b'=b∧q=o
 | b,o,s::r,b',q=>
  match s.cnt with
  | none=>∃a0 len cap,w.cell? ⟨b,o,none⟩=some (.slice (some ⟨a0,0,none⟩) len cap)∧s.n<len∧B a0∧walkH w B a0 (s.n * s.es+s.off) r b' q
  | some k=>s.n<k∧walkH w B b (o+s.n * s.es+s.off) r b' q
theorem get_seg_ne {p m m' q:List Value} (hl:m'.length=m.length) {t:Nat} (ht:t<p.length∨p.length+m.length≤t):(p++m'++q)[t]?=(p++m++q)[t]?:=by
 rcases ht with ht | ht
 ·rw [List.append_assoc,List.append_assoc,List.getElem?_append_left ht,List.getElem?_append_left ht]
 ·rw [List.getElem?_append_right (by simp [hl];omega),List.getElem?_append_right (by simp;omega)]
  simp [hl]
theorem seg_ne {p m m' q:List Value} {n es i:Nat} (hp:p.length=n * es) (hm:m.length=es) (hl:m'.length=m.length) (hi:i≠n):
  ((p++m'++q).drop (i * es)).take es=((p++m++q).drop (i * es)).take es:=by
 apply List.ext_getElem?
 intro j
 by_cases hj:j<es
 ·rw [List.getElem?_take_of_lt hj,List.getElem?_take_of_lt hj,List.getElem?_drop,List.getElem?_drop]
  apply get_seg_ne hl
  rw [hp,hm]
  rcases Nat.lt_or_gt_of_ne hi with h | h
  ·left
   have:(i+1) * es≤n * es:=Nat.mul_le_mul_right _ h
   rw [Nat.add_mul] at this;omega
  ·right
   have:(n+1) * es≤i * es:=Nat.mul_le_mul_right _ h
   rw [Nat.add_mul] at this;omega
 ·rw [List.getElem?_eq_none (by simp;omega),List.getElem?_eq_none (by simp;omega)]
theorem At.append {w:World} {b o:Nat} {c d:List Value}:At w b o (c++d)↔At w b o c∧At w b (o+c.length) d:=by
 constructor
 ·intro h
  refine ⟨fun i v hi=>h i v ?_,fun i v hi=>?_⟩
  ·rw [List.getElem?_append_left (List.getElem?_eq_some_iff.1 hi).1];exact hi
  ·have:=h (c.length+i) v (by rw [List.getElem?_append_right (by omega)];simpa using hi)
   rw [Nat.add_assoc];exact this
 ·rintro ⟨h1,h2⟩ i v hi
  by_cases hc:i<c.length
  ·rw [List.getElem?_append_left hc] at hi;exact h1 i v hi
  ·rw [List.getElem?_append_right (by omega)] at hi
   have:=h2 _ _ hi
   rw [show o+c.length+(i-c.length)=o+i by omega] at this;exact this
theorem At.cell {w:World} {b o:Nat} {cs:List Value} (h:At w b o cs) {i:Nat} {v:Value} (hi:cs[i]?=some v):w.cell? ⟨b,o+i,none⟩=some v:=h i v hi
theorem getD_of {α:Type} {l:List α} {n:Nat} {d:α} (h:n<l.length):l[n]?=some (l.getD n d):=by
 simp [List.getD,List.getElem?_eq_getElem h]
theorem flatten_set_perm {l:List (List Nat)} {n:Nat} {a a':List Nat} (h:l[n]?=some a):(l.set n a').flatten.Perm (a'++((l.take n).flatten++(l.drop (n+1)).flatten)):=by
 have hn:n<l.length:=(List.getElem?_eq_some_iff.1 h).1
 rw [List.set_eq_take_append_cons_drop,if_pos hn]
 simp only [List.flatten_append,List.flatten_cons]
 rw [←List.append_assoc,←List.append_assoc]
 exact List.Perm.append_right _ List.perm_append_comm
theorem flatten_perm {l:List (List Nat)} {n:Nat} {a:List Nat} (h:l[n]?=some a):l.flatten.Perm (a++((l.take n).flatten++(l.drop (n+1)).flatten)):=by
 have:=flatten_set_perm (a':=a) h
 have e:l.set n a=l:=by
  apply List.ext_getElem?
  intro i
  by_cases hi:n=i
  ·subst hi;rw [List.getElem?_set_self (List.getElem?_eq_some_iff.1 h).1,h]
  ·rw [List.getElem?_set_ne hi]
 rw [e] at this;exact this
structure Wrote (w w':World) (b' q n:Nat) (l:List Nat):Prop where
 kept:∀k∈l,k≠b'→Kept w w' k
 rest:∀j,(j<q∨q+n≤j)→w'.cell? ⟨b',j,none⟩=w.cell? ⟨b',j,none⟩
 frozen:∀j,w'.frozen? ⟨b',j,none⟩=w.frozen? ⟨b',j,none⟩
theorem Rep.arr_part {S:Nat→Prop} {w:World} {k:Nat} {e:Ty} {cs:List Value} {x:List e.den} {F:List Nat} (h:Rep S w (.arr k e) .imm cs x F) {n:Nat} (hn:n<k):
  F=[]∧∃p m q:List Value,cs=p++m++q∧p.length=n * e.size∧n<x.length∧Rep S w e .imm m (x.getD n e.zero) []∧
   ∀(S':Nat→Prop) (w':World) (m':List Value) (y:e.den),(∀b,S b→S' b∧Kept w w' b)→Rep S' w' e .imm m' y []→Rep S' w' (.arr k e) .imm (p++m'++q) (x.set n y) []:=by
 obtain ⟨hf,hl,h⟩:=h
 obtain ⟨hx,hr⟩:=h (by simp)
 have hmul:(n+1) * e.size≤k * e.size:=Nat.mul_le_mul_right _ hn
 rw [Nat.add_mul,Nat.one_mul] at hmul
 have hxn:n<x.length:=by omega
 have hm:((cs.drop (n * e.size)).take e.size).length=e.size:=by simp;omega
 refine ⟨hf,cs.take (n * e.size),(cs.drop (n * e.size)).take e.size,cs.drop (n * e.size+e.size),?_,by simp;omega,hxn,hr n _ (getD_of hxn),?_⟩
 ·rw [List.append_assoc,←List.drop_drop,List.take_append_drop,List.take_append_drop]
 ·intro S' w' m' y hS hy
  have hm':m'.length=e.size:=hy.length
  have hcs:cs.take (n * e.size)++(cs.drop (n * e.size)).take e.size++cs.drop (n * e.size+e.size)=cs:=by
   rw [List.append_assoc,←List.drop_drop,List.take_append_drop,List.take_append_drop]
  have hpl:(cs.take (n * e.size)).length=n * e.size:=by simp;omega
  refine ⟨rfl,by simp [hm'];omega,fun _=>⟨by simpa using hx,fun i z hz=>?_⟩⟩
  by_cases hi:i=n
  ·subst hi
   rw [List.getElem?_set_self hxn] at hz
   cases hz
   have:(((cs.take (i * e.size))++m'++cs.drop (i * e.size+e.size)).drop (i * e.size)).take e.size=m':=by
    rw [List.append_assoc,List.drop_append_of_le_length (by omega),List.drop_of_length_le (by omega),List.nil_append,List.take_append_of_le_length (by omega),List.take_of_length_le (by omega)]
   rw [this];exact hy
  ·rw [List.getElem?_set_ne (fun h=>hi h.symm)] at hz
   rw [seg_ne hpl hm (by omega) hi,hcs]
   exact (hr i z hz).mono hS (fun b hb=>by simp at hb)
end Go.Rd
namespace Go.Rd
theorem perm3 {P M Q A R:List Nat} (h:M.Perm (A++R)):(P++M++Q).Perm (A++(P++R++Q)):=
 List.perm_iff_count.2 fun a=>by
  have:=h.count_eq a
  simp only [List.count_append] at *
  omega
theorem perm4 {X:Nat} {M F A Rr T:List Nat} (h:M.Perm (F++T)) (h':F.Perm (A++Rr)):(X::M).Perm (A++(X::(Rr++T))):=
 List.perm_iff_count.2 fun a=>by
  have:=h.count_eq a
  have:=h'.count_eq a
  simp only [List.count_append,List.count_cons] at *
  omega
theorem subAt_at {w:World} {b q0:Nat} {p m q:List Value} (h:At w b q0 (p++m++q)):At w b (q0+p.length) m:=by
 rw [At.append,At.append] at h
 exact h.1.2
def Foc (S:Nat→Prop) (w:World) (σ:Ty) (steps:List Step) (τ:Ty) (o:Ow) (x:τ.den) (off:Nat) (cs:List Value) (F:List Nat) (b q0:Nat) (o':Ow) (y:σ.den) (b' q:Nat):Prop:=
  ∃m:List Value,∃Fm Fr:List Nat,At w b' q m∧Rep S w σ o' m y Fm∧F.Perm (Fm++Fr)∧b'∈b::Fr∧(∀j,w.frozen? ⟨b',j,none⟩=false)∧
   (b'=b→q0≤q∧q+m.length≤q0+cs.length∧match steps with | []=>q=q0+off | s::_=>s.cnt.isSome=true)∧
   ∀(S':Nat→Prop) (w':World) (v:Ow×σ.den) (m':List Value) (F':List Nat) (r:Ow×τ.den),put σ v steps τ o x off=some r→
    (∀b,S b→S' b∧Kept w w' b)→Wrote w w' b' q m.length (b::Fr)→At w' b' q m'→Rep S' w' σ v.1 m' v.2 F'→
    ∃cs3 F3,At w' b q0 cs3∧cs3.length=cs.length∧Rep S' w' τ r.1 cs3 r.2 F3∧F3.Perm (F'++Fr)
theorem slice_focus {S:Nat→Prop} {w:World} {σ e:Ty} {oe:Ow} {xs:List e.den} {F0:List Nat} {a0 cap n so len:Nat} {r:List Step} {o':Ow} {y:σ.den} {b' q:Nat}
  (hrep:Rep S w (.slice e) (.own none oe) [.slice (some ⟨a0,0,none⟩) len cap] xs F0) (hn:F0.Nodup) (hlt:n<len)
  (ih:∀{cs:List Value} {F:List Nat},Rep S w e oe cs (xs.getD n e.zero) F→At w a0 (n * e.size) cs→(∀j,w.frozen? ⟨a0,j,none⟩=false)→(a0::F).Nodup→
   Foc S w σ r e oe (xs.getD n e.zero) so cs F a0 (n * e.size) o' y b' q):
  len=xs.length∧∃m:List Value,∃Fm Fr:List Nat,At w b' q m∧Rep S w σ o' m y Fm∧F0.Perm (Fm++Fr)∧b'∈Fr∧(∀j,w.frozen? ⟨b',j,none⟩=false)∧
   ∀(S':Nat→Prop) (w':World) (v:Ow×σ.den) (m':List Value) (F':List Nat) (y3:e.den),put σ v r e oe (xs.getD n e.zero) so=some (oe,y3)→
    (∀b,S b→S' b∧Kept w w' b)→Wrote w w' b' q m.length Fr→At w' b' q m'→Rep S' w' σ v.1 m' v.2 F'→
    ∃F3,Rep S' w' (.slice e) (.own none oe) [.slice (some ⟨a0,0,none⟩) len cap] (xs.set n y3) F3∧F3.Perm (F'++Fr):=by
 obtain ⟨a,cap',hcm,hlen,hmax,hown⟩:=hrep
 simp only [List.cons.injEq,and_true,Value.slice.injEq] at hcm
 obtain ⟨rfl,rfl,rfl⟩:=hcm
 refine ⟨rfl,?_⟩
 rcases hown with ⟨ha,_⟩ | ⟨b1,Fs,ha,hFm0,hFs,hcap,hfz1,hel⟩
 ·simp at ha
 ·simp only [Option.some.injEq,Addr.mk.injEq,and_true] at ha
  subst ha hFm0
  have hnF:n<Fs.length:=by rw [hFs];exact hlt
  obtain ⟨_,h2⟩:=hel n _ Fs[n] (getD_of (d:=e.zero) hlt) (List.getElem?_eq_getElem hnF)
  obtain ⟨ci,hci,hri⟩:=h2 (by simp)
  have hnd1:(a0::Fs[n]).Nodup:=List.Nodup.sublist ((List.sublist_flatten_of_mem (List.getElem_mem hnF)).cons_cons a0) hn
  obtain ⟨m,Fm,Fr',hm1,hm2,hperm,hb',hfzm,hrange,hupd⟩:=ih hri hci hfz1 hnd1
  have hFsP:=flatten_perm (List.getElem?_eq_getElem hnF)
  refine ⟨m,Fm,a0::(Fr'++((Fs.take n).flatten++(Fs.drop (n+1)).flatten)),hm1,hm2,perm4 hFsP hperm,?_,hfzm,fun S' w' v m' F' y3 hpr hS hW hm' hv=>?_⟩
  ·rcases List.mem_cons.1 hb' with rfl | h
   ·simp
   ·simp [h]
  ·have hKr:∀k∈a0::Fr',k≠b'→Kept w w' k:=fun k hk hne=>hW.kept k (by
    rcases List.mem_cons.1 hk with rfl | h
    ·simp
    ·simp [h]) hne
   obtain ⟨ci3,F3,hci3,hcl3,hr3,hp3⟩:=hupd S' w' v m' F' (oe,y3) hpr hS ⟨hKr,hW.rest,hW.frozen⟩ hm' hv
   have hmlen:m'.length=m.length:=by rw [hv.length,hm2.length]
   refine ⟨a0::(Fs.set n F3).flatten,?_,perm4 (flatten_set_perm (List.getElem?_eq_getElem hnF)) hp3⟩
   refine ⟨some ⟨a0,0,none⟩,cap,by simp,by simpa using hlen,by simpa using hmax,.inr ⟨a0,Fs.set n F3,rfl,rfl,by simpa using hFs,fun j hj=>?_,fun j=>?_,fun i z Fi hz hFi=>⟨fun h=>by simp at h,fun _=>?_⟩⟩⟩
   ·by_cases hba:a0=b'
    ·subst hba
     by_cases hin:j<q∨q+m.length≤j
     ·rw [hW.rest j hin];exact hcap j hj
     ·have:j-q<m'.length:=by omega
      refine ⟨m'[j-q],?_⟩
      have:=hm' (j-q) _ (List.getElem?_eq_getElem this)
      rwa [show q+(j-q)=j by omega] at this
    ·rw [(hKr a0 List.mem_cons_self hba).cell];exact hcap j hj
   ·by_cases hba:a0=b'
    ·subst hba;rw [hW.frozen];exact hfz1 j
    ·rw [(hKr a0 List.mem_cons_self hba).frozen];exact hfz1 j
   ·by_cases hi:i=n
    ·subst hi
     rw [List.getElem?_set_self hlt] at hz
     rw [List.getElem?_set_self hnF] at hFi
     cases hz;cases hFi
     exact ⟨ci3,hci3,hr3⟩
    ·rw [List.getElem?_set_ne (fun h=>hi h.symm)] at hz hFi
     obtain ⟨_,h2'⟩:=hel i z Fi hz hFi
     obtain ⟨c',hc',hr'⟩:=h2' (by simp)
     have hFin:∀k∈Fi,k ∉ Fs[n]:=fun k hk=>nodup_flatten_ne (List.nodup_cons.1 hn).2 hFi (List.getElem?_eq_getElem hnF) hi hk
     have hK:∀k∈Fi,Kept w w' k:=fun k hk=>hW.kept k (by
      have hmem:k∈Fs.flatten:=List.mem_flatten.2 ⟨Fi,List.mem_of_getElem? hFi,hk⟩
      rcases List.mem_append.1 (hFsP.mem_iff.1 hmem) with h | h
      ·exact absurd h (hFin k hk)
      ·simp only [List.mem_cons,List.mem_append] at h ⊢
       exact .inr (.inr h)) (fun e=>by
      subst e
      rcases List.mem_cons.1 hb' with rfl | h
      ·exact (List.nodup_cons.1 hn).1 (List.mem_flatten.2 ⟨Fi,List.mem_of_getElem? hFi,hk⟩)
      ·exact hFin k hk (hperm.mem_iff.2 (List.mem_append_right _ h)))
     refine ⟨c',?_,hr'.mono hS hK⟩
     by_cases hba:a0=b'
     ·subst hba
      obtain ⟨hq1,hq2,_⟩:=hrange rfl
      intro j u hj
      have hjl:=(List.getElem?_eq_some_iff.1 hj).1
      have hcl:c'.length=e.size:=hr'.length
      have hcil:ci.length=e.size:=hri.length
      rw [hW.rest]
      ·exact hc' j u hj
      ·rcases Nat.lt_or_gt_of_ne hi with h | h
       ·left
        have:(i+1) * e.size≤n * e.size:=Nat.mul_le_mul_right _ h
        rw [Nat.add_mul] at this;omega
       ·right
        have:(n+1) * e.size≤i * e.size:=Nat.mul_le_mul_right _ h
        rw [Nat.add_mul] at this;omega
     ·exact hc'.kept (hKr a0 List.mem_cons_self hba)
theorem slice_fill {S:Nat→Prop} {w:World} {e:Ty} {oe:Ow} {xs:List e.den} {F0:List Nat} {a0 cap n len i:Nat} (hsl:isSl e=true)
  (hrep:Rep S w (.slice e) (.own (some i) oe) [.slice (some ⟨a0,0,none⟩) len cap] xs F0) (hn:F0.Nodup) (hlt:n<len):
  len=xs.length∧a0∈F0∧(∀j,w.frozen? ⟨a0,j,none⟩=false)∧(∃m:List Value,m.length=e.size∧At w a0 (n * e.size) m)∧
   (i=n→∀(S':Nat→Prop) (w':World) (y:e.den) (m':List Value) (F':List Nat),(∀b,S b→S' b∧Kept w w' b)→Wrote w w' a0 (n * e.size) e.size F0→At w' a0 (n * e.size) m'→Rep S' w' e oe m' y F'→
    ∃F3,Rep S' w' (.slice e) (.own none oe) [.slice (some ⟨a0,0,none⟩) len cap] (xs.set n y) F3∧F3.Perm (F'++F0)):=by
 have hsz:e.size=1:=by
  cases e<;>first | rfl | simp [isSl] at hsl
 obtain ⟨a,cap',hcm,hlen,hmax,hown⟩:=hrep
 simp only [List.cons.injEq,and_true,Value.slice.injEq] at hcm
 obtain ⟨rfl,rfl,rfl⟩:=hcm
 rcases hown with ⟨ha,_⟩ | ⟨b1,Fs,ha,hFm0,hFs,hcap,hfz1,hel⟩
 ·simp at ha
 ·simp only [Option.some.injEq,Addr.mk.injEq,and_true] at ha
  subst ha hFm0
  obtain ⟨v,hv⟩:=hcap (n * e.size) (by rw [hsz];omega)
  refine ⟨rfl,List.mem_cons_self,hfz1,⟨[v],by rw [hsz];rfl,fun j u hj=>?_⟩,?_⟩
  ·have hj':=(List.getElem?_eq_some_iff.1 hj).1
   have:j=0:=by simpa using hj'
   subst this
   simp only [List.getElem?_cons_zero,Option.some.injEq] at hj
   rw [←hj,Nat.add_zero];exact hv
  ·rintro rfl S' w' y m' F' hS hW hm' hr
   have hnF:i<Fs.length:=by rw [hFs];exact hlt
   have hFi:Fs[i]=[]:=(hel i _ Fs[i] (getD_of (d:=e.zero) hlt) (List.getElem?_eq_getElem hnF)).1 rfl
   have hFsP:=flatten_perm (List.getElem?_eq_getElem hnF)
   rw [hFi,List.nil_append] at hFsP
   have hml:m'.length=1:=by rw [hr.length,hsz]
   refine ⟨a0::(Fs.set i F').flatten,?_,?_⟩
   ·refine ⟨some ⟨a0,0,none⟩,cap,by simp,by simpa using hlen,by simpa using hmax,.inr ⟨a0,Fs.set i F',rfl,rfl,by simpa using hFs,fun j hj=>?_,fun j=>?_,fun k z Fi hz hFi'=>⟨fun h=>by simp at h,fun _=>?_⟩⟩⟩
    ·by_cases hin:j<i * e.size∨i * e.size+e.size≤j
     ·rw [hW.rest j hin];exact hcap j hj
     ·have hj0:j=i * e.size:=by omega
      refine ⟨m'[0],?_⟩
      have:=hm' 0 _ (List.getElem?_eq_getElem (by omega))
      rw [hj0];exact this
    ·rw [hW.frozen];exact hfz1 j
    ·by_cases hk:k=i
     ·subst hk
      rw [List.getElem?_set_self hlt] at hz
      rw [List.getElem?_set_self hnF] at hFi'
      cases hz;cases hFi'
      exact ⟨m',hm',hr⟩
     ·rw [List.getElem?_set_ne (fun h=>hk h.symm)] at hz hFi'
      obtain ⟨_,h2'⟩:=hel k z Fi hz hFi'
      obtain ⟨c',hc',hr'⟩:=h2' (by simpa using fun h=>hk h.symm)
      have hmem:∀b∈Fi,b∈Fs.flatten:=fun b hb=>List.mem_flatten.2 ⟨Fi,List.mem_of_getElem? hFi',hb⟩
      have hK:∀b∈Fi,Kept w w' b:=fun b hb=>hW.kept b (List.mem_cons_of_mem _ (hmem b hb)) (fun e'=>(List.nodup_cons.1 hn).1 (by rw [←e'];exact hmem b hb))
      refine ⟨c',fun j u hj=>?_,hr'.mono hS hK⟩
      have hjl:=(List.getElem?_eq_some_iff.1 hj).1
      have hcl:c'.length=e.size:=hr'.length
      rw [hW.rest]
      ·exact hc' j u hj
      ·rcases Nat.lt_or_gt_of_ne hk with h | h
       ·left
        have:(k+1) * e.size≤i * e.size:=Nat.mul_le_mul_right _ h
        rw [Nat.add_mul] at this;omega
       ·right
        have:(i+1) * e.size≤k * e.size:=Nat.mul_le_mul_right _ h
        rw [Nat.add_mul] at this;omega
   ·have h1:=flatten_set_perm (a':=F') (List.getElem?_eq_getElem hnF)
    refine (h1.cons a0).trans ?_
    refine List.Perm.trans ?_ (List.perm_middle.symm)
    exact (List.Perm.append_left F' hFsP.symm).cons a0
theorem focusH {S B:Nat→Prop} {w:World} {σ:Ty}:∀(steps:List Step) {τ:Ty} {o:Ow} {x:τ.den} {off:Nat} {cs:List Value} {F:List Nat} {b q0:Nat} {o':Ow} {y:σ.den} {b' q:Nat},
  Rep S w τ o cs x F→At w b q0 cs→(∀j,w.frozen? ⟨b,j,none⟩=false)→(b::F).Nodup→look σ steps τ o x off=some (o',y)→walkH w B b (q0+off) steps b' q→
  Foc S w σ steps τ o x off cs F b q0 o' y b' q
 | [],τ,o,x,off,cs,F,b,q0,o',y,b',q,hr,hat,hfz,hn,hl,hw=>by
  obtain ⟨rfl,rfl⟩:=hw
  obtain ⟨p,m,qq,Fp,Fm,Fq,hc,hp,hf,hm,hset⟩:=subAt_focus hl hr
  subst hc hf
  have hat':=subAt_at hat
  rw [hp] at hat'
  refine ⟨m,Fm,Fp++Fq,hat',hm,?_,List.mem_cons_self,hfz,fun _=>⟨by omega,by simp;omega,rfl⟩,fun S' w' v m' F' r hput hS hW hm' hv=>?_⟩
  ·simpa using perm3 (P:=Fp) (Q:=Fq) (A:=Fm) (R:=[]) (M:=Fm) (by simp)
  ·have hlen:m'.length=m.length:=by rw [hv.length,hm.length]
   have hnd:=List.nodup_cons.1 hn
   have hb:∀c∈Fp++Fq,Kept w w' c:=fun c hc=>hW.kept c (List.mem_cons_of_mem _ hc) fun e=>hnd.1 (by subst e;simp only [List.mem_append] at hc ⊢;rcases hc with h | h;exact .inl (.inl h);exact .inr h)
   refine ⟨p++m'++qq,Fp++F'++Fq,?_,by simp [hlen],hset S' w' v m' F' r hput hS hb hv,?_⟩
   ·rw [At.append,At.append] at hat ⊢
    obtain ⟨⟨h1,h2⟩,h3⟩:=hat
    refine ⟨⟨fun i u hi=>?_,?_⟩,fun i u hi=>?_⟩
    ·have:=(List.getElem?_eq_some_iff.1 hi).1
     rw [hW.rest _ (by omega)];exact h1 i u hi
    ·rw [hp];exact hm'
    ·rw [hW.rest _ (by simp [hlen];omega)]
     have:=h3 i u hi
     simpa [hlen] using this
   ·simpa using (List.perm_append_comm (l₁:=Fp) (l₂:=F')).append_right Fq
 | s::r,τ,o,x,off,cs,F,b,q0,o',y,b',q,hr,hat,hfz,hn,hl,hw=>by
  obtain ⟨n,es,so,cnt⟩:=s
  cases cnt with
  | none=>
   simp only [look] at hl
   simp only [walkH] at hw
   cases hsl:subSl τ o x off with
   | none=>rw [hsl] at hl;simp at hl
   | some z=>
    obtain ⟨e,oz,xs⟩:=z
    rw [hsl] at hl
    cases oz with
    | imm=>simp at hl
    | dead=>simp at hl
    | pr _ _=>simp at hl
    | own hh oe=>
     cases hh with
     | some i=>
      dsimp only at hl
      split at hl
      case isFalse=>cases hl
      rename_i hcnd
      have hcb:=hcnd
      simp only [Bool.and_eq_true,List.isEmpty_iff] at hcb
      obtain ⟨⟨⟨⟨c1,c2⟩,c3⟩,c4⟩,c5⟩:=hcb
      have c2:=Nat.eq_of_beq_eq_true c2
      have c4:=Nat.eq_of_beq_eq_true c4
      have c5:=Ty.eq_of_beq c5
      subst c1 c2 c4 c5
      simp only [Option.some.injEq,Prod.mk.injEq] at hl
      obtain ⟨rfl,_⟩:=hl
      obtain ⟨p,mh,qq,Fp,Fm0,Fq,hc,hp,hf,hmh,hset⟩:=subAt_focus (subSl_sub hsl) hr
      subst hc hf
      have hath:=subAt_at hat
      rw [hp] at hath
      obtain ⟨a0,len,cap',hcell,hlt,_,hw⟩:=hw
      have hm1:mh=[.slice (some ⟨a0,0,none⟩) len cap']:=by
       have hl1:=hmh.length
       simp only [Ty.size] at hl1
       obtain ⟨v,rfl⟩:=List.length_eq_one_iff.1 hl1
       have:=hath.cell (i:=0) rfl
       rw [Nat.add_zero,hcell] at this
       cases this;rfl
      subst hm1
      obtain ⟨rfl,rfl⟩:=hw
      have hnd:=List.nodup_cons.1 hn
      have hndA:Fm0.Nodup:=(List.nodup_append.1 (List.nodup_append.1 hnd.2).1).2.1
      obtain ⟨hle,hbF,hfz2,⟨m,g1,g2⟩,g6⟩:=slice_fill c3 hmh hndA hlt
      have hbne:b'≠b:=fun e=>hnd.1 (by rw [←e];simp only [List.mem_append];exact .inl (.inr hbF))
      have hdead:Rep S w e .dead m y []:=by
       cases e<;>first | exact ⟨g1,rfl⟩ | simp [isSl] at c3
      refine ⟨m,[],Fp++Fm0++Fq,g2,hdead,by simp,?_,hfz2,fun e=>absurd e hbne,fun S' w' v m' F' rr hput hS hW hm' hv=>?_⟩
      ·simp only [List.mem_cons,List.mem_append];exact .inr (.inl (.inr hbF))
      ·simp only [put,hsl] at hput
       split at hput
       ·rename_i hcq
        have hcq2:=hcq
        simp only [Bool.and_eq_true] at hcq2
        obtain ⟨⟨d1,d2⟩,d3⟩:=hcq2
        have d1:=Nat.eq_of_beq_eq_true d1
        have d2:=Ow.eq_of_beq d2
        have hKb:Kept w w' b:=hW.kept b List.mem_cons_self (fun e=>hbne e.symm)
        rw [d2] at hv
        obtain ⟨F3,hs3,hp3⟩:=g6 d1 S' w' v.2 m' F' hS ⟨fun k hk hne=>hW.kept k (by simp only [List.mem_cons,List.mem_append];exact .inr (.inl (.inr hk))) hne,fun j hj=>hW.rest j (by rw [g1];exact hj),hW.frozen⟩ hm' hv
        have hKpq:∀c∈Fp++Fq,Kept w w' c:=fun c hc=>hW.kept c (by simp only [List.mem_cons,List.mem_append] at hc ⊢;rcases hc with h | h;exact .inr (.inl (.inl h));exact .inr (.inr h)) fun e=>by
         subst e
         rw [List.append_assoc] at hnd
         have h1:=List.nodup_append.1 hnd.2
         have h2:=List.nodup_append.1 h1.2.1
         rcases List.mem_append.1 hc with h | h
         ·exact h1.2.2 _ h _ (List.mem_append_left _ hbF) rfl
         ·exact h2.2.2 _ hbF _ h rfl
        exact ⟨_,_,hat.kept hKb,rfl,hset S' w' (.own none oe,xs.set n v.2) _ _ rr hput hS hKpq hs3,perm3 hp3⟩
       ·cases hput
     | none=>
      dsimp only at hl
      cases hes:Nat.beq e.size es with
      | false=>rw [hes] at hl;simp at hl
      | true=>
       rw [hes] at hl
       simp only [if_true] at hl
       have hes:=Nat.eq_of_beq_eq_true hes
       subst hes
       obtain ⟨p,mh,qq,Fp,Fm0,Fq,hc,hp,hf,hmh,hset⟩:=subAt_focus (subSl_sub hsl) hr
       subst hc hf
       have hath:=subAt_at hat
       rw [hp] at hath
       obtain ⟨a0,len,cap',hcell,hlt,_,hw⟩:=hw
       have hm1:mh=[.slice (some ⟨a0,0,none⟩) len cap']:=by
        have hl1:=hmh.length
        simp only [Ty.size] at hl1
        obtain ⟨v,rfl⟩:=List.length_eq_one_iff.1 hl1
        have:=hath.cell (i:=0) rfl
        rw [Nat.add_zero,hcell] at this
        cases this;rfl
       subst hm1
       have hnd:=List.nodup_cons.1 hn
       have hndA:Fm0.Nodup:=(List.nodup_append.1 (List.nodup_append.1 hnd.2).1).2.1
       obtain ⟨hle,m,Fm,Fr0,g1,g2,g3,g4,g5,g6⟩:=slice_focus (r:=r) (so:=so) (o':=o') (y:=y) (b':=b') (q:=q) (n:=n) hmh hndA hlt (fun h1 h2 h3 h4=>focusH r h1 h2 h3 h4 hl hw)
       have hbF:b'∈Fm0:=g3.mem_iff.2 (List.mem_append_right _ g4)
       have hbne:b'≠b:=fun e=>hnd.1 (by rw [←e];simp only [List.mem_append];exact .inl (.inr hbF))
       refine ⟨m,Fm,Fp++Fr0++Fq,g1,g2,perm3 g3,?_,g5,fun e=>absurd e hbne,fun S' w' v m' F' rr hput hS hW hm' hv=>?_⟩
       ·simp only [List.mem_cons,List.mem_append];exact .inr (.inl (.inr g4))
       ·simp only [put,hsl] at hput
        cases hpr:put σ v r e oe (xs.getD n e.zero) so with
        | none=>rw [hpr] at hput;simp at hput
        | some w3=>
         obtain ⟨oe',y3⟩:=w3
         rw [hpr] at hput
         dsimp only at hput
         cases hbq:oe'.beq oe with
         | false=>rw [hbq] at hput;simp at hput
         | true=>
          rw [hbq] at hput
          simp only [if_true] at hput
          have:=Ow.eq_of_beq hbq
          subst this
          have hKb:Kept w w' b:=hW.kept b List.mem_cons_self (fun e=>hbne e.symm)
          obtain ⟨F3,hs3,hp3⟩:=g6 S' w' v m' F' y3 hpr hS ⟨fun k hk hne=>hW.kept k (by simp only [List.mem_cons,List.mem_append];exact .inr (.inl (.inr hk))) hne,hW.rest,hW.frozen⟩ hm' hv
          have hKpq:∀c∈Fp++Fq,Kept w w' c:=fun c hc=>hW.kept c (by simp only [List.mem_cons,List.mem_append] at hc ⊢;rcases hc with h | h;exact .inr (.inl (.inl h));exact .inr (.inr h)) fun e=>by
           subst e
           rw [List.append_assoc] at hnd
           have h1:=List.nodup_append.1 hnd.2
           have h2:=List.nodup_append.1 h1.2.1
           rcases List.mem_append.1 hc with h | h
           ·exact h1.2.2 _ h _ (List.mem_append_left _ hbF) rfl
           ·exact h2.2.2 _ hbF _ h rfl
          exact ⟨_,_,hat.kept hKb,rfl,hset S' w' (.own none oe',xs.set n y3) _ _ rr hput hS hKpq hs3,perm3 hp3⟩
  | some k=>
   simp only [look] at hl
   simp only [walkH] at hw
   cases hsl:subAr τ o x off with
   | none=>rw [hsl] at hl;simp at hl
   | some z=>
    obtain ⟨k',e,oz,xs⟩:=z
    rw [hsl] at hl
    cases oz with
    | dead=>simp at hl
    | pr _ _=>simp at hl
    | own _ _=>simp at hl
    | imm=>
     dsimp only at hl
     cases hes:(Nat.beq k k'&&Nat.beq e.size es) with
     | false=>rw [hes] at hl;simp at hl
     | true=>
      rw [hes] at hl
      simp only [if_true] at hl
      rw [Bool.and_eq_true] at hes
      have hk:=Nat.eq_of_beq_eq_true hes.1
      have hee:=Nat.eq_of_beq_eq_true hes.2
      subst hk hee
      obtain ⟨p,mh,qq,Fp,Fm0,Fq,hc,hp,hf,hmh,hset⟩:=subAt_focus (subAr_sub hsl) hr
      subst hc hf
      have hath:=subAt_at hat
      rw [hp] at hath
      obtain ⟨hlt,hw⟩:=hw
      obtain ⟨hF0,p2,m2,q2,hmh2,hp2,hx2,hr2,hset2⟩:=Rep.arr_part hmh hlt
      subst hF0 hmh2
      have hat2:=subAt_at hath
      rw [hp2] at hat2
      have hnd:=List.nodup_cons.1 hn
      obtain ⟨m,Fm,Fr',hm1,hm2,hperm,hb',hfzm,hrange,hupd⟩:=focusH r hr2 hat2 hfz (by simp) hl hw
      have hFm:Fm=[]∧Fr'=[]:=by simpa using hperm.symm.eq_nil
      obtain ⟨rfl,rfl⟩:=hFm
      have hbe:b'=b:=by simpa using hb'
      subst hbe
      obtain ⟨hq1,hq2,_⟩:=hrange rfl
      refine ⟨m,[],Fp++Fq,hm1,hm2,by simp,List.mem_cons_self,hfzm,fun _=>⟨by omega,by simp;omega,rfl⟩,fun S' w' v m' F' rr hput hS hW hm' hv=>?_⟩
      simp only [put,hsl] at hput
      cases hpr:put σ v r e .imm (xs.getD n e.zero) so with
      | none=>rw [hpr] at hput;simp at hput
      | some w3=>
       obtain ⟨oe',y3⟩:=w3
       rw [hpr] at hput
       cases oe' with
       | dead=>simp at hput
       | pr _ _=>simp at hput
       | own _ _=>simp at hput
       | imm=>
        dsimp only at hput
        obtain ⟨ci3,F3,hci3,hcl3,hr3,hp3⟩:=hupd S' w' v m' F' (.imm,y3) hpr hS ⟨fun k hk hne=>absurd (by simpa using hk) hne,hW.rest,hW.frozen⟩ hm' hv
        have hF3:=hr3.nil_of_imm
        subst hF3
        have hF':F'=[]:=by have:=hp3.length_eq;simp at this;exact List.eq_nil_of_length_eq_zero this.symm
        subst hF'
        have harr:=hset2 S' w' ci3 y3 hS hr3
        have hb:∀c∈Fp++Fq,Kept w w' c:=fun c hc=>hW.kept c (List.mem_cons_of_mem _ hc) fun e=>hnd.1 (by subst e;simpa using hc)
        have hfin:=hset S' w' (.imm,xs.set n y3) _ _ rr hput hS hb harr
        refine ⟨_,_,?_,by simp [hcl3],hfin,by simp⟩
        rw [At.append,At.append,At.append,At.append] at hat ⊢
        obtain ⟨⟨h1,⟨h2,h3⟩,h4⟩,h5⟩:=hat
        refine ⟨⟨fun i u hi=>?_,⟨fun i u hi=>?_,?_⟩,fun i u hi=>?_⟩,fun i u hi=>?_⟩
        ·have:=(List.getElem?_eq_some_iff.1 hi).1
         rw [hW.rest _ (by omega)];exact h1 i u hi
        ·have:=(List.getElem?_eq_some_iff.1 hi).1
         rw [hW.rest _ (by omega)];exact h2 i u hi
        ·rw [hp,hp2];exact hci3
        ·rw [hW.rest _ (by simp [hcl3];omega)]
         have:=h4 i u hi
         simpa [hcl3] using this
        ·rw [hW.rest _ (by simp [hcl3];omega)]
         have:=h5 i u hi
         simpa [hcl3] using this
theorem focusR {S B:Nat→Prop} {w:World} {σ:Ty} {s:Step} {r:List Step} {τ:Ty} {o:Ow} {x:τ.den} {off:Nat} {cs:List Value} {F:List Nat} {o':Ow} {y:σ.den} {a0 len cap b' q:Nat}
  (hr:Rep S w τ o cs x F) (hn:F.Nodup) (hl:look σ (s::r) τ o x off=some (o',y)) (hs:s.cnt=none) (hc:cs[off]?=some (.slice (some ⟨a0,0,none⟩) len cap)) (hlt:s.n<len)
  (hw:walkH w B a0 (s.n * s.es+s.off) r b' q):
  ∃m:List Value,∃Fm Fr:List Nat,At w b' q m∧Rep S w σ o' m y Fm∧F.Perm (Fm++Fr)∧b'∈Fr∧(∀j,w.frozen? ⟨b',j,none⟩=false)∧
   ∀(S':Nat→Prop) (w':World) (v:Ow×σ.den) (m':List Value) (F':List Nat) (z:Ow×τ.den),put σ v (s::r) τ o x off=some z→
    (∀b,S b→S' b∧Kept w w' b)→Wrote w w' b' q m.length Fr→At w' b' q m'→Rep S' w' σ v.1 m' v.2 F'→
    ∃F3,Rep S' w' τ z.1 cs z.2 F3∧F3.Perm (F'++Fr):=by
 obtain ⟨n,es,so,cnt⟩:=s
 dsimp only at hs hlt hw
 subst hs
 simp only [look] at hl
 cases hsl:subSl τ o x off with
 | none=>rw [hsl] at hl;simp at hl
 | some z=>
  obtain ⟨e,oz,xs⟩:=z
  rw [hsl] at hl
  cases oz with
  | imm=>simp at hl
  | dead=>simp at hl
  | pr _ _=>simp at hl
  | own hh oe=>
   cases hh with
   | some i=>
    dsimp only at hl
    split at hl
    case isFalse=>cases hl
    rename_i hcnd
    have hcb:=hcnd
    simp only [Bool.and_eq_true,List.isEmpty_iff] at hcb
    obtain ⟨⟨⟨⟨c1,c2⟩,c3⟩,c4⟩,c5⟩:=hcb
    have c2:=Nat.eq_of_beq_eq_true c2
    have c4:=Nat.eq_of_beq_eq_true c4
    have c5:=Ty.eq_of_beq c5
    subst c1 c2 c4 c5
    simp only [Option.some.injEq,Prod.mk.injEq] at hl
    obtain ⟨rfl,_⟩:=hl
    obtain ⟨p,mh,qq,Fp,Fm0,Fq,hcs,hp,hf,hmh,hset⟩:=subAt_focus (subSl_sub hsl) hr
    subst hcs hf
    have hm1:mh=[.slice (some ⟨a0,0,none⟩) len cap]:=by
     have hl1:=hmh.length
     simp only [Ty.size] at hl1
     obtain ⟨v,rfl⟩:=List.length_eq_one_iff.1 hl1
     rw [←hp,List.append_assoc,List.getElem?_append_right (Nat.le_refl _),Nat.sub_self] at hc
     simp at hc
     rw [hc]
    subst hm1
    obtain ⟨rfl,rfl⟩:=hw
    have hndA:Fm0.Nodup:=(List.nodup_append.1 (List.nodup_append.1 hn).1).2.1
    obtain ⟨hle,hbF,hfz2,⟨m,g1,g2⟩,g6⟩:=slice_fill c3 hmh hndA hlt
    have hdead:Rep S w e .dead m y []:=by
     cases e<;>first | exact ⟨g1,rfl⟩ | simp [isSl] at c3
    refine ⟨m,[],Fp++Fm0++Fq,g2,hdead,by simp,?_,hfz2,fun S' w' v m' F' rr hput hS hW hm' hv=>?_⟩
    ·simp only [List.mem_append];exact .inl (.inr hbF)
    ·simp only [put,hsl] at hput
     split at hput
     ·rename_i hcq
      have hcq2:=hcq
      simp only [Bool.and_eq_true] at hcq2
      obtain ⟨⟨d1,d2⟩,d3⟩:=hcq2
      have d1:=Nat.eq_of_beq_eq_true d1
      have d2:=Ow.eq_of_beq d2
      rw [d2] at hv
      obtain ⟨F3,hs3,hp3⟩:=g6 d1 S' w' v.2 m' F' hS ⟨fun k hk hne=>hW.kept k (by simp only [List.mem_append];exact .inl (.inr hk)) hne,fun j hj=>hW.rest j (by rw [g1];exact hj),hW.frozen⟩ hm' hv
      have hKpq:∀c∈Fp++Fq,Kept w w' c:=fun c hcm=>hW.kept c (by simp only [List.mem_append] at hcm ⊢;rcases hcm with h | h;exact .inl (.inl h);exact .inr h) fun e=>by
       subst e
       rw [List.append_assoc] at hn
       have h1:=List.nodup_append.1 hn
       have h2:=List.nodup_append.1 h1.2.1
       rcases List.mem_append.1 hcm with h | h
       ·exact h1.2.2 _ h _ (List.mem_append_left _ hbF) rfl
       ·exact h2.2.2 _ hbF _ h rfl
      exact ⟨_,hset S' w' (.own none oe,xs.set n v.2) _ _ rr hput hS hKpq hs3,perm3 hp3⟩
     ·cases hput
   | none=>
    dsimp only at hl
    cases hes:Nat.beq e.size es with
    | false=>rw [hes] at hl;simp at hl
    | true=>
     rw [hes] at hl
     simp only [if_true] at hl
     have hes:=Nat.eq_of_beq_eq_true hes
     subst hes
     obtain ⟨p,mh,qq,Fp,Fm0,Fq,hcs,hp,hf,hmh,hset⟩:=subAt_focus (subSl_sub hsl) hr
     subst hcs hf
     have hm1:mh=[.slice (some ⟨a0,0,none⟩) len cap]:=by
      have hl1:=hmh.length
      simp only [Ty.size] at hl1
      obtain ⟨v,rfl⟩:=List.length_eq_one_iff.1 hl1
      rw [←hp,List.append_assoc,List.getElem?_append_right (Nat.le_refl _),Nat.sub_self] at hc
      simp at hc
      rw [hc]
     subst hm1
     have hndA:Fm0.Nodup:=(List.nodup_append.1 (List.nodup_append.1 hn).1).2.1
     obtain ⟨hle,m,Fm,Fr0,g1,g2,g3,g4,g5,g6⟩:=slice_focus (r:=r) (so:=so) (o':=o') (y:=y) (b':=b') (q:=q) (n:=n) hmh hndA hlt (fun h1 h2 h3 h4=>focusH r h1 h2 h3 h4 hl hw)
     have hbF:b'∈Fm0:=g3.mem_iff.2 (List.mem_append_right _ g4)
     refine ⟨m,Fm,Fp++Fr0++Fq,g1,g2,perm3 g3,?_,g5,fun S' w' v m' F' rr hput hS hW hm' hv=>?_⟩
     ·simp only [List.mem_append];exact .inl (.inr g4)
     ·simp only [put,hsl] at hput
      cases hpr:put σ v r e oe (xs.getD n e.zero) so with
      | none=>rw [hpr] at hput;simp at hput
      | some w3=>
       obtain ⟨oe',y3⟩:=w3
       rw [hpr] at hput
       dsimp only at hput
       cases hbq:oe'.beq oe with
       | false=>rw [hbq] at hput;simp at hput
       | true=>
        rw [hbq] at hput
        simp only [if_true] at hput
        have:=Ow.eq_of_beq hbq
        subst this
        obtain ⟨F3,hs3,hp3⟩:=g6 S' w' v m' F' y3 hpr hS ⟨fun k hk hne=>hW.kept k (by simp only [List.mem_append];exact .inl (.inr hk)) hne,hW.rest,hW.frozen⟩ hm' hv
        have hKpq:∀c∈Fp++Fq,Kept w w' c:=fun c hc=>hW.kept c (by simp only [List.mem_append] at hc ⊢;rcases hc with h | h;exact .inl (.inl h);exact .inr h) fun e=>by
         subst e
         rw [List.append_assoc] at hn
         have h1:=List.nodup_append.1 hn
         have h2:=List.nodup_append.1 h1.2.1
         rcases List.mem_append.1 hc with h | h
         ·exact h1.2.2 _ h _ (List.mem_append_left _ hbF) rfl
         ·exact h2.2.2 _ hbF _ h rfl
        exact ⟨_,hset S' w' (.own none oe',xs.set n y3) _ _ rr hput hS hKpq hs3,perm3 hp3⟩
end Go.Rd
namespace Go.Rd
structure Place where
 root:Nat
 off:Nat
 steps:List Step
 s0:Nat
 s1:Nat
inductive V where
 | dat (τ:Ty) (x:τ.den)
 | nils
 | ptr (p:Place)
 | ali (p:Place) (e:Ty) (rg:Option (Nat×Nat))
 | mix (τ:Ty) (l:List V)
 | ipt (τ:Ty) (x:τ.den) (off:Nat)
 | tup (l:List V)
 | grd (c:Nat) (want:Bool) (v:V)
structure Root where
 τ:Ty
 o:Ow
 x:τ.den
 v0:Nat→Nat
 v1:Nat→Nat
 ro:Nat→Bool
 reg:Bool
inductive Loc where
 | mem (b o:Nat)
 | reg (cs:List Value)
def okSteps:List Step→Bool
 | []=>true
 | s::r=>match s.cnt with
  | none=>okSteps r
  | some _=>r.all (·.cnt.isSome)
def sdep:Ty→Nat
 | .slice e=>sdep e+1
 | .prod a b=>max (sdep a) (sdep b)
 | .st t=>sdep t
 | .arr _ e=>sdep e
 | _=>0
def sn:List Step→Nat
 | []=>0
 | s::r=>match s.cnt with
  | none=>sn r+1
  | some _=>sn r
def validP (rt:Nat→Option Root) (p:Place):Prop:=
 okSteps p.steps=true∧∃t,rt p.root=some t∧(p.steps≠[]→t.v0 p.off=p.s0)∧(2≤p.steps.length→t.v1 p.off=p.s1)∧sn p.steps≤sdep t.τ
def validA (rt:Nat→Option Root) (p:Place):Prop:=
 p.steps.all (·.cnt.isNone)=true∧∃t,rt p.root=some t∧t.v0 p.off=p.s0∧(p.steps≠[]→t.v1 p.off=p.s1)∧p.steps.length+1≤sdep t.τ
def walkP (w:World) (B:Nat→Prop) (L:Loc) (p:Place) (b q:Nat):Prop:=
 match L with
 | .mem b0 o0=>walkH w B b0 (o0+p.off) p.steps b q
 | .reg cs=>match p.steps with
  | []=>False
  | s::r=>s.cnt=none∧∃a0 len cap,cs[p.off]?=some (.slice (some ⟨a0,0,none⟩) len cap)∧s.n<len∧B a0∧walkH w B a0 (s.n * s.es+s.off) r b q
def hdrAt (w:World) (B:Nat→Prop) (L:Loc) (p:Place) (h:Value):Prop:=
 match L,p.steps with
 | .reg cs,[]=>cs[p.off]?=some h
 | _,_=>∃b q,walkP w B L p b q∧w.cell? ⟨b,q,none⟩=some h
def cutOf (es:Nat) (a:Option Addr) (len cap:Nat):Option (Nat×Nat)→Value→Prop
 | none,v=>v=.slice a len cap
 | some (lo,hi),v=>lo≤hi∧hi≤len∧v=.slice (if cap=lo then a else a.map (·.add (lo * es))) (hi-lo) (cap-lo)
def valOf:Ty→List Value→Value
 | .st _,cs=>.agg cs.toArray
 | .arr _ _,cs=>.agg cs.toArray
 | _,cs=>cs.headD undef
structure Env where
 S:Nat→Prop
 B:Nat→Nat→Prop
 w:World
 rt:Nat→Option Root
 ρ:Nat→Loc
 sl:Nat→Option V
def gbV:V→Option Bool
 | .dat .bool g=>some g
 | .grd _ _ u=>gbV u
 | _=>none
def gb:Option V→Option Bool
 | some u=>gbV u
 | none=>none
mutual
def VR (E:Env):V→Value→Prop
 | .dat τ x,v=>∃cs,v=valOf τ cs∧Rep E.S E.w τ .imm cs x []
 | .nils,v=>v=.slice none 0 0
 | .ptr p,v=>validP E.rt p→∃b q,walkP E.w (E.B p.root) (E.ρ p.root) p b q∧v=.pointer (some ⟨b,q,none⟩)
 | .ali p e rg,v=>validA E.rt p→∃a len cap,hdrAt E.w (E.B p.root) (E.ρ p.root) p (.slice a len cap)∧cutOf e.size a len cap rg v
 | .mix _ l,v=>∃cs,v=.agg cs.toArray∧VRs E l cs
 | .ipt τ x off,v=>∃b q cs,E.S b∧At E.w b q cs∧Rep E.S E.w τ .imm cs x []∧v=.pointer (some ⟨b,q+off,none⟩)
 | .tup l,v=>∃vs,v=.tuple vs.toArray∧VRs E l vs
 | .grd c want u,v=>(gb (E.sl c)=some want→VR E u v)∧(gb (E.sl c)=some (!want)→v=undef)
def VRs (E:Env):List V→List Value→Prop
 | [],cs=>cs=[]
 | u::l,cs=>∃v r,cs=v::r∧VR E u v∧VRs E l r
end
mutual
def V.holds (Q:Place→Prop):V→Prop
 | .ptr p=>Q p
 | .ali p _ _=>Q p
 | .grd _ _ u=>u.holds Q
 | .mix _ l=>V.holdsAll Q l
 | .tup l=>V.holdsAll Q l
 | _=>True
def V.holdsAll (Q:Place→Prop):List V→Prop
 | []=>True
 | u::l=>u.holds Q∧V.holdsAll Q l
end
mutual
theorem V.holds_mono {Q Q':Place→Prop} (h:∀p,Q p→Q' p):(u:V)→u.holds Q→u.holds Q'
 | .ptr p,k=>h p k
 | .ali p _ _,k=>h p k
 | .grd _ _ u,k=>V.holds_mono h u k
 | .mix _ l,k=>V.holdsAll_mono h l k
 | .tup l,k=>V.holdsAll_mono h l k
 | .dat _ _,_=>trivial
 | .nils,_=>trivial
 | .ipt _ _ _,_=>trivial
theorem V.holdsAll_mono {Q Q':Place→Prop} (h:∀p,Q p→Q' p):(l:List V)→V.holdsAll Q l→V.holdsAll Q' l
 | [],_=>trivial
 | u::l,k=>⟨V.holds_mono h u k.1,V.holdsAll_mono h l k.2⟩
end
def PlaceOK (rt:Nat→Option Root) (p:Place):Prop:=∃t,rt p.root=some t∧p.s0≤t.v0 p.off∧p.s1≤t.v1 p.off
structure Env.Later (N:Place→Prop) (E E':Env):Prop where
 S:∀b,E.S b→E'.S b∧Kept E.w E'.w b
 P:∀p b q,N p→validP E'.rt p→validP E.rt p∧(walkP E.w (E.B p.root) (E.ρ p.root) p b q→walkP E'.w (E'.B p.root) (E'.ρ p.root) p b q)
 A:∀p s l cp,N p→validA E'.rt p→validA E.rt p∧(hdrAt E.w (E.B p.root) (E.ρ p.root) p (.slice s l cp)→hdrAt E'.w (E'.B p.root) (E'.ρ p.root) p (.slice s l cp))
mutual
def V.leans:V→Nat→Bool
 | .grd c _ u,n=>Nat.beq c n||u.leans n
 | .mix _ l,n=>V.leansAny l n
 | .tup l,n=>V.leansAny l n
 | _,_=>false
def V.leansAny:List V→Nat→Bool
 | [],_=>false
 | u::l,n=>u.leans n||V.leansAny l n
end
mutual
theorem VR.later {N:Place→Prop} {E E':Env} (h:E.Later N E'):(u:V)→(v:Value)→(∀c,u.leans c=true→E'.sl c=E.sl c)→u.holds N→VR E u v→VR E' u v
 | .dat τ x,v,_,_,⟨cs,hv,hr⟩=>⟨cs,hv,hr.mono h.S (fun b hb=>by simp at hb)⟩
 | .nils,_,_,_,hv=>hv
 | .ptr p,v,_,hN,hv=>fun hp=>by
  obtain ⟨b,q,hw,e⟩:=hv (h.P p 0 0 hN hp).1
  exact ⟨b,q,(h.P p b q hN hp).2 hw,e⟩
 | .ali p e rg,v,_,hN,hv=>fun hp=>by
  obtain ⟨a,len,cap,hh,hc⟩:=hv (h.A p none 0 0 hN hp).1
  exact ⟨a,len,cap,(h.A p _ _ _ hN hp).2 hh,hc⟩
 | .mix _ l,v,hc,hn,⟨cs,e,hl⟩=>⟨cs,e,VRs.later h l cs hc hn hl⟩
 | .ipt τ x off,v,_,_,⟨b,q,cs,hS,hat,hr,e⟩=>⟨b,q,cs,(h.S b hS).1,hat.kept (h.S b hS).2,hr.mono h.S (fun b hb=>by simp at hb),e⟩
 | .tup l,v,hc,hn,⟨vs,e,hl⟩=>⟨vs,e,VRs.later h l vs hc hn hl⟩
 | .grd c want u,v,hc,hn,hv=>⟨fun hg=>by
   rw [hc c (by simp [V.leans,Nat.beq_refl])] at hg
   exact VR.later h u v (fun c' hc'=>hc c' (by simp [V.leans,hc'])) hn (hv.1 hg),fun hg=>by
   rw [hc c (by simp [V.leans,Nat.beq_refl])] at hg
   exact hv.2 hg⟩
theorem VRs.later {N:Place→Prop} {E E':Env} (h:E.Later N E'):(l:List V)→(cs:List Value)→(∀c,V.leansAny l c=true→E'.sl c=E.sl c)→V.holdsAll N l→VRs E l cs→VRs E' l cs
 | [],_,_,_,e=>e
 | u::l,cs,hc,hn,⟨v,r,e,h1,h2⟩=>⟨v,r,e,VR.later h u v (fun c hc'=>hc c (by simp [V.leansAny,hc'])) hn.1 h1,
   VRs.later h l r (fun c hc'=>hc c (by simp [V.leansAny,hc'])) hn.2 h2⟩
end
structure Ctx where
 w0:World
 Sa:Nat→Prop
 FL:List Nat
 keep:Nat→Nat→Prop
 nt:Nat
 anch:Nat→Option (Nat×Nat)
abbrev Slots:=Nat→Option V
abbrev Roots:=Nat→Option Root
def Stab (c:Ctx) (w:World) (rt:Roots) (Fo:Nat→List Nat) (X:List Nat) (b:Nat):Prop:=
 b<w.heap.size∧(c.Sa b∨b∈c.FL∨c.w0.heap.size≤b)∧(∀r t,rt r=some t→b ∉ Fo r)∧b ∉ X
def Bof (c:Ctx) (w:World) (rt:Roots) (ρ:Nat→Loc) (Fo:Nat→List Nat) (X:List Nat) (r b:Nat):Prop:=
 Stab c w rt Fo X b∨(b∈Fo r∧∀b0 o0,ρ r=.mem b0 o0→b≠b0)
def envOf (c:Ctx) (sl:Slots) (rt:Roots) (ρ:Nat→Loc) (Fo:Nat→List Nat) (X:List Nat) (w:World):Env:=
 { S:=Stab c w rt Fo X,B:=Bof c w rt ρ Fo X,w,rt,ρ,sl }
def RootOK (c:Ctx) (S:Nat→Prop) (w:World) (L:Loc) (F:List Nat) (t:Root):Prop:=
 match L with
 | .mem b o=>∃cs F',F=b::F'∧At w b o cs∧(∀j,w.frozen? ⟨b,j,none⟩=false)∧Rep S w t.τ t.o cs t.x F'∧
   (∀i,i<t.τ.size→t.ro i=false→¬c.keep b (o+i))∧∀b'∈F',∀j,¬c.keep b' j
 | .reg cs=>Rep S w t.τ t.o cs t.x F∧∀b'∈F,∀j,¬c.keep b' j
structure RR (c:Ctx) (sl:Slots) (rt:Roots) (ρ:Nat→Loc) (Fo:Nat→List Nat) (X:List Nat) (a:Act) (w:World):Prop where
 os:w.os=c.w0.os
 tape:w.tape=c.w0.tape
 output:w.output=c.w0.output
 size:c.w0.heap.size≤w.heap.size
 frame:∀b,b<c.w0.heap.size→b ∉ c.FL→Kept c.w0 w b
 keepc:∀b j,c.keep b j→w.cell? ⟨b,j,none⟩=c.w0.cell? ⟨b,j,none⟩
 keepl:∀b j,c.keep b j→b<c.w0.heap.size
 roots:∀r t,rt r=some t→RootOK c (Stab c w rt Fo X) w (ρ r) (Fo r) t
 nodup:∀r t,rt r=some t→(Fo r).Nodup
 disj:∀r r' t t',rt r=some t→rt r'=some t'→r≠r'→∀b∈Fo r,b ∉ Fo r'
 inF:∀r t,rt r=some t→∀b∈Fo r,b<w.heap.size∧(b∈c.FL∨c.w0.heap.size≤b)
 nodupX:X.Nodup
 disjX:∀b∈X,∀r t,rt r=some t→b ∉ Fo r
 inX:∀b∈X,b<w.heap.size∧(b∈c.FL∨c.w0.heap.size≤b)
 keepX:∀b∈X,∀j,¬c.keep b j
 slots:∀n u,sl n=some u→VR (envOf c sl rt ρ Fo X w) u (a.tmps.getD n undef)
 named:∀n u,sl n=some u→u.holds (PlaceOK rt)
 defers:a.defers=[]
 tsz:a.tmps.size=c.nt
 anch:∀r b q,c.anch r=some (b,q)→ρ r=.mem b q∧rt r≠none
end Go.Rd
namespace Go.Rd
theorem walkH_mono {w w':World} {B B':Nat→Prop} (hc:∀b o v,w.cell? ⟨b,o,none⟩=some v→w'.cell? ⟨b,o,none⟩=some v) (hB:∀b,B b→B' b):
  ∀(l:List Step) (b o b' q:Nat),walkH w B b o l b' q→walkH w' B' b o l b' q
 | [],_,_,_,_,h=>h
 | s::r,b,o,b',q,h=>by
  obtain ⟨n,es,so,cnt⟩:=s
  cases cnt with
  | none=>
   obtain ⟨a0,len,cap,h1,h2,h3,h4⟩:=h
   exact ⟨a0,len,cap,hc _ _ _ h1,h2,hB _ h3,walkH_mono hc hB r _ _ _ _ h4⟩
  | some k=>exact ⟨h.1,walkH_mono hc hB r _ _ _ _ h.2⟩
theorem walkP_mono {w w':World} {B B':Nat→Prop} (hc:∀b o v,w.cell? ⟨b,o,none⟩=some v→w'.cell? ⟨b,o,none⟩=some v) (hB:∀b,B b→B' b)
  {L:Loc} {p:Place} {b q:Nat} (h:walkP w B L p b q):walkP w' B' L p b q:=by
 unfold walkP at *
 cases L with
 | mem b0 o0=>exact walkH_mono hc hB _ _ _ _ _ h
 | reg cs=>
  dsimp only at *
  split at h
  ·exact h
  ·obtain ⟨h0,a0,len,cap,h1,h2,h3,h4⟩:=h
   exact ⟨h0,a0,len,cap,h1,h2,hB _ h3,walkH_mono hc hB _ _ _ _ _ h4⟩
theorem hdrAt_mono {w w':World} {B B':Nat→Prop} (hc:∀b o v,w.cell? ⟨b,o,none⟩=some v→w'.cell? ⟨b,o,none⟩=some v) (hB:∀b,B b→B' b)
  {L:Loc} {p:Place} {h:Value} (hh:hdrAt w B L p h):hdrAt w' B' L p h:=by
 unfold hdrAt at *
 split at hh
 ·exact hh
 ·obtain ⟨b,q,h1,h2⟩:=hh
  exact ⟨b,q,walkP_mono hc hB h1,hc _ _ _ h2⟩
theorem hdrAt_cases {w:World} {B:Nat→Prop} {L:Loc} {p:Place} {h:Value} (hh:hdrAt w B L p h):
  (∃cs,L=.reg cs∧p.steps=[]∧cs[p.off]?=some h)∨∃b q,walkP w B L p b q∧w.cell? ⟨b,q,none⟩=some h:=by
 unfold hdrAt at hh
 split at hh
 ·rename_i cs e;exact .inl ⟨cs,rfl,e,hh⟩
 ·exact .inr hh
theorem hdrAt_reg {w:World} {B:Nat→Prop} {cs:List Value} {p:Place} {h:Value} (hs:p.steps=[]) (hh:cs[p.off]?=some h):hdrAt w B (.reg cs) p h:=by
 unfold hdrAt
 split
 ·rename_i cs' e h1;simp only [Loc.reg.injEq] at e;rw [←e];exact hh
 ·rename_i h1;exact (h1 cs rfl hs).elim
theorem hdrAt_walk {w:World} {B:Nat→Prop} {L:Loc} {p:Place} {h:Value} {b q:Nat} (hw:walkP w B L p b q) (hc:w.cell? ⟨b,q,none⟩=some h):hdrAt w B L p h:=by
 unfold hdrAt
 split
 ·rename_i cs e
  unfold walkP at hw
  simp only [e] at hw
 ·exact ⟨b,q,hw,hc⟩
def CellsStay (w w':World):Prop:=∀b o v,w.cell? ⟨b,o,none⟩=some v→w'.cell? ⟨b,o,none⟩=some v
theorem CellsStay.of_kept {w w':World} (h:∀b,b<w.heap.size→Kept w w' b):CellsStay w w':=fun b o v hv=>by
 have hb:b<w.heap.size:=by
  unfold World.cell? at hv
  dsimp only at hv
  cases hg:w.heap[b]? with
  | none=>rw [hg] at hv;simp at hv
  | some x=>exact (Array.getElem?_eq_some_iff.1 hg).1
 rw [(h b hb).cell];exact hv
structure Flows (w:World) (rt rt':Roots) (Fo Fo':Nat→List Nat) (X X':List Nat):Prop where
 roots:∀r t,rt' r=some t→∀b∈Fo' r,(∃r0 t0,rt r0=some t0∧b∈Fo r0)∨b∈X∨w.heap.size≤b
 fly:∀b∈X',(∃r0 t0,rt r0=some t0∧b∈Fo r0)∨b∈X∨w.heap.size≤b
theorem Stab.flows {c:Ctx} {w w':World} {rt rt':Roots} {Fo Fo':Nat→List Nat} {X X':List Nat} (hf:Flows w rt rt' Fo Fo' X X') (hs:w.heap.size≤w'.heap.size) {b:Nat}
  (h:Stab c w rt Fo X b):Stab c w' rt' Fo' X' b:=by
 obtain ⟨h1,h2,h3,h4⟩:=h
 refine ⟨Nat.lt_of_lt_of_le h1 hs,h2,fun r t hr hb=>?_,fun hb=>?_⟩
 ·rcases hf.roots r t hr b hb with ⟨r0,t0,h5,h6⟩ | h5 | h5
  ·exact h3 r0 t0 h5 h6
  ·exact h4 h5
  ·omega
 ·rcases hf.fly b hb with ⟨r0,t0,h5,h6⟩ | h5 | h5
  ·exact h3 r0 t0 h5 h6
  ·exact h4 h5
  ·omega
theorem RootOK.mono {c:Ctx} {S S':Nat→Prop} {w w':World} {L:Loc} {F:List Nat} {t:Root} (hS:∀b,S b→S' b∧Kept w w' b) (hF:∀b∈F,Kept w w' b) (h:RootOK c S w L F t):RootOK c S' w' L F t:=by
 unfold RootOK at *
 cases L with
 | mem b o=>
  obtain ⟨cs,F',e,hat,hfz,hr,hk,hk'⟩:=h
  have hb:Kept w w' b:=hF b (by rw [e];exact List.mem_cons_self)
  exact ⟨cs,F',e,hat.kept hb,fun j=>by rw [hb.frozen];exact hfz j,hr.mono hS (fun b' hb'=>hF b' (by rw [e];exact List.mem_cons_of_mem _ hb')),hk,hk'⟩
 | reg cs=>exact ⟨h.1.mono hS hF,h.2⟩
section
variable {c:Ctx} {sl:Slots} {rt:Roots} {ρ:Nat→Loc} {Fo:Nat→List Nat} {X:List Nat} {a:Act} {w:World}
theorem RR.grow (h:RR c sl rt ρ Fo X a w) {w':World} (hk:∀b,b<w.heap.size→Kept w w' b) (hs:w.heap.size≤w'.heap.size)
  (ho:w'.os=w.os) (ht:w'.tape=w.tape) (hout:w'.output=w.output):RR c sl rt ρ Fo X a w':=by
 have hfl:Flows w rt rt Fo Fo X X:=⟨fun r t hr b hb=>.inl ⟨r,t,hr,hb⟩,fun b hb=>.inr (.inl hb)⟩
 have hS:∀b,Stab c w rt Fo X b→Stab c w' rt Fo X b∧Kept w w' b:=fun b hb=>⟨hb.flows hfl hs,hk b hb.1⟩
 have hcs:CellsStay w w':=.of_kept hk
 have hB:∀r b,Bof c w rt ρ Fo X r b→Bof c w' rt ρ Fo X r b:=fun r b hb=>hb.imp (fun k=>(hS b k).1) id
 refine ⟨ho.trans h.os,ht.trans h.tape,hout.trans h.output,Nat.le_trans h.size hs,fun b hb hb'=>?_,fun b j hj=>?_,h.keepl,fun r t hr=>?_,h.nodup,h.disj,?_,h.nodupX,h.disjX,?_,h.keepX,fun n u hu=>?_,h.named,h.defers,h.tsz,h.anch⟩
 ·exact (hk b (by have:=h.size;omega)).trans (h.frame b hb hb')
 ·rw [(hk b (by have:=h.size;have:=h.keepl b j hj;omega)).cell];exact h.keepc b j hj
 ·exact (h.roots r t hr).mono hS (fun b hb=>hk b (h.inF r t hr b hb).1)
 ·exact fun r t hr b hb=>⟨Nat.lt_of_lt_of_le (h.inF r t hr b hb).1 hs,(h.inF r t hr b hb).2⟩
 ·exact fun b hb=>⟨Nat.lt_of_lt_of_le (h.inX b hb).1 hs,(h.inX b hb).2⟩
 ·exact VR.later (N:=PlaceOK rt) (E:=envOf c sl rt ρ Fo X w) (E':=envOf c sl rt ρ Fo X w') ⟨hS,fun p b q _ hp=>⟨hp,walkP_mono hcs (hB _)⟩,fun p _ _ _ _ hp=>⟨hp,hdrAt_mono hcs (hB _)⟩⟩ u _ (fun _ _=>rfl) (h.named n u hu) (h.slots n u hu)
theorem RR.drawn (h:RR c sl rt ρ Fo X a w) (n:Nat):RR c sl rt ρ Fo X a { w with drawn:=n }:=
 h.grow (fun _ _=>rfl) (Nat.le_refl _) rfl rfl rfl
def upd {α:Type} (f:Nat→Option α) (n:Nat) (v:Option α):Nat→Option α:=fun k=>if Nat.beq k n then v else f k
theorem upd_same {α:Type} (f:Nat→Option α) (n:Nat) (v:Option α):upd f n v n=v:=by simp [upd,Nat.beq_refl]
theorem upd_ne {α:Type} {f:Nat→Option α} {n:Nat} {v:Option α} {k:Nat} (h:k≠n):upd f n v k=f k:=by
 have:Nat.beq k n=false:=by
  cases hb:Nat.beq k n with
  | false=>rfl
  | true=>exact absurd (Nat.eq_of_beq_eq_true hb) h
 simp [upd,this]
def Free (sl:Slots) (d:Nat):Prop:=∀n u,sl n=some u→u.leans d=false
theorem RR.slot (h:RR c sl rt ρ Fo X a w) (d:Nat) (u:Option V) (v:Value) (hd:d<c.nt) (hfree:Free sl d) (hself:∀x,u=some x→x.leans d=false)
  (hv:∀x,u=some x→VR (envOf c sl rt ρ Fo X w) x v) (hn:∀x,u=some x→x.holds (PlaceOK rt)):
  RR c (upd sl d u) rt ρ Fo X (a.put (some d) v) w:=by
 have hcl:∀x:V,x.leans d=false→∀k,x.leans k=true→upd sl d u k=sl k:=fun x hx k hk=>upd_ne (by rintro rfl;rw [hx] at hk;simp at hk)
 have hlat:Env.Later (PlaceOK rt) (envOf c sl rt ρ Fo X w) (envOf c (upd sl d u) rt ρ Fo X w):=⟨fun b hb=>⟨hb,rfl⟩,fun p b q _ hp=>⟨hp,id⟩,fun p _ _ _ _ hp=>⟨hp,id⟩⟩
 refine ⟨h.os,h.tape,h.output,h.size,h.frame,h.keepc,h.keepl,h.roots,h.nodup,h.disj,h.inF,h.nodupX,h.disjX,h.inX,h.keepX,fun n x hx=>?_,fun n x hx=>?_,h.defers,by simp [Act.put,h.tsz],h.anch⟩
 ·by_cases hnd:n=d
  ·subst hnd
   rw [upd_same] at hx
   have e:(a.put (some n) v).tmps.getD n undef=v:=by
    have:n<a.tmps.size:=by rw [h.tsz];exact hd
    simp [Act.put,Array.getD,this]
   rw [e]
   exact VR.later hlat x _ (hcl x (hself x hx)) (hn x hx) (hv x hx)
  ·rw [upd_ne hnd] at hx
   have e:(a.put (some d) v).tmps.getD n undef=a.tmps.getD n undef:=by
    simp only [Act.put,Array.getD_eq_getD_getElem?]
    rw [Array.getElem?_setIfInBounds_ne (fun h=>hnd h.symm)]
   rw [e]
   exact VR.later hlat x _ (hcl x (hfree n x hx)) (h.named n x hx) (h.slots n x hx)
 ·by_cases hnd:n=d
  ·subst hnd;rw [upd_same] at hx;exact hn x hx
  ·rw [upd_ne hnd] at hx;exact h.named n x hx
end
end Go.Rd
namespace Go.Rd
theorem kept_push {w:World} {o:Obj} {b:Nat} (h:b<w.heap.size):Kept w { w with heap:=w.heap.push o } b:=by
 unfold Kept
 show (w.heap.push o)[b]?=_
 rw [Array.getElem?_push,if_neg (by omega)]
theorem cell_push {w:World} {cs:Array Value} {e:TypeId} {fz:Nat×Nat} {o:Nat}:
  World.cell? { w with heap:=w.heap.push (.cells cs e fz) } ⟨w.heap.size,o,none⟩=cs[o]?:=by
 simp [World.cell?]
theorem frozen_push {w:World} {cs:Array Value} {e:TypeId} {o:Nat}:
  World.frozen? { w with heap:=w.heap.push (.cells cs e (0,0)) } ⟨w.heap.size,o,none⟩=false:=by
 simp [World.frozen?]
theorem at_push {w:World} {cs:List Value} {e:TypeId} {fz:Nat×Nat}:At { w with heap:=w.heap.push (.cells cs.toArray e fz) } w.heap.size 0 cs:=fun i v hi=>by
 rw [Nat.zero_add,cell_push];simpa using hi
section
variable {c:Ctx} {sl:Slots} {rt:Roots} {ρ:Nat→Loc} {Fo:Nat→List Nat} {X:List Nat} {a:Act} {w:World}
def updL {α:Type} (f:Nat→α) (n:Nat) (v:α):Nat→α:=fun k=>if Nat.beq k n then v else f k
theorem updL_same {α:Type} (f:Nat→α) (n:Nat) (v:α):updL f n v n=v:=by simp [updL,Nat.beq_refl]
theorem updL_ne {α:Type} {f:Nat→α} {n:Nat} {v:α} {k:Nat} (h:k≠n):updL f n v k=f k:=by
 have:Nat.beq k n=false:=by
  cases hb:Nat.beq k n with
  | false=>rfl
  | true=>exact absurd (Nat.eq_of_beq_eq_true hb) h
 simp [updL,this]
theorem RR.newRoot {F:List Nat} (h:RR c sl rt ρ Fo (F++X) a w) (d:Nat) (hd:rt d=none) (t:Root) (L:Loc) (hL:RootOK c (Stab c w rt Fo (F++X)) w L F t):RR c sl (upd rt d (some t)) (updL ρ d L) (updL Fo d F) X a w:=by
 have hne:∀r t,rt r=some t→r≠d:=fun r t hr e=>by rw [e,hd] at hr;cases hr
 have hcase:∀r u,upd rt d (some t) r=some u→(r=d∧u=t)∨(r≠d∧rt r=some u):=fun r u hu=>by
  by_cases e:r=d
  ·subst e;rw [upd_same] at hu;cases hu;exact .inl ⟨rfl,rfl⟩
  ·rw [upd_ne e] at hu;exact .inr ⟨e,hu⟩
 have hnX:=List.nodup_append.1 h.nodupX
 have hfl:Flows w rt (upd rt d (some t)) Fo (updL Fo d F) (F++X) X:=⟨fun r u hr b hb=>by
  rcases hcase r u hr with ⟨rfl,rfl⟩ | ⟨e,hr⟩
  ·rw [updL_same] at hb;exact .inr (.inl (List.mem_append_left _ hb))
  ·rw [updL_ne e] at hb;exact .inl ⟨r,u,hr,hb⟩,fun b hb=>.inr (.inl (List.mem_append_right _ hb))⟩
 have hS:∀b,Stab c w rt Fo (F++X) b→Stab c w (upd rt d (some t)) (updL Fo d F) X b∧Kept w w b:=fun b hb=>⟨hb.flows hfl (Nat.le_refl _),rfl⟩
 have hB:∀r,r≠d→∀b,Bof c w rt ρ Fo (F++X) r b→Bof c w (upd rt d (some t)) (updL ρ d L) (updL Fo d F) X r b:=fun r hr b hb=>by
  rcases hb with hb | ⟨h1,h2⟩
  ·exact .inl (hS b hb).1
  ·exact .inr ⟨by rw [updL_ne hr];exact h1,fun b0 o0 e=>h2 b0 o0 (by rw [updL_ne hr] at e;exact e)⟩
 refine ⟨h.os,h.tape,h.output,h.size,h.frame,h.keepc,h.keepl,fun r u hr=>?_,fun r u hr=>?_,fun r r' u u' hr hr' hrr b hb=>?_,fun r u hr b hb=>?_,hnX.2.1,fun b hb r u hr hb'=>?_,
  fun b hb=>h.inX b (List.mem_append_right _ hb),fun b hb=>h.keepX b (List.mem_append_right _ hb),fun n u hu=>?_,fun n u hu=>?_,h.defers,h.tsz,fun r b q hr=>by
   obtain ⟨k1,k2⟩:=h.anch r b q hr
   have e:r≠d:=fun e=>k2 (by rw [e];exact hd)
   rw [updL_ne e,upd_ne e];exact ⟨k1,k2⟩⟩
 ·rcases hcase r u hr with ⟨rfl,rfl⟩ | ⟨e,hr⟩
  ·rw [updL_same,updL_same];exact hL.mono hS (fun _ _=>rfl)
  ·rw [updL_ne e,updL_ne e];exact (h.roots r u hr).mono hS (fun _ _=>rfl)
 ·rcases hcase r u hr with ⟨rfl,rfl⟩ | ⟨e,hr⟩
  ·rw [updL_same];exact hnX.1
  ·rw [updL_ne e];exact h.nodup r u hr
 ·rcases hcase r u hr with ⟨e1,e2⟩ | ⟨e,hr0⟩
  ·rcases hcase r' u' hr' with ⟨e3,e4⟩ | ⟨e',hr0'⟩
   ·exact absurd (e1.trans e3.symm) hrr
   ·rw [e1,updL_same] at hb;rw [updL_ne e'];exact h.disjX b (List.mem_append_left _ hb) r' u' hr0'
  ·rw [updL_ne e] at hb
   rcases hcase r' u' hr' with ⟨e3,e4⟩ | ⟨e',hr0'⟩
   ·rw [e3,updL_same];exact fun hb'=>h.disjX b (List.mem_append_left _ hb') r u hr0 hb
   ·rw [updL_ne e'];exact h.disj r r' u u' hr0 hr0' hrr b hb
 ·rcases hcase r u hr with ⟨rfl,rfl⟩ | ⟨e,hr⟩
  ·rw [updL_same] at hb;exact h.inX b (List.mem_append_left _ hb)
  ·rw [updL_ne e] at hb;exact h.inF r u hr b hb
 ·rcases hcase r u hr with ⟨rfl,rfl⟩ | ⟨e,hr⟩
  ·rw [updL_same] at hb';exact hnX.2.2 b hb' b hb rfl
  ·rw [updL_ne e] at hb';exact h.disjX b (List.mem_append_right _ hb) r u hr hb'
 ·refine VR.later (N:=fun p=>p.root≠d) (E:=envOf c sl rt ρ Fo (F++X) w) (E':=envOf c sl (upd rt d (some t)) (updL ρ d L) (updL Fo d F) X w) ⟨hS,fun p b q hp hv=>⟨?_,fun hw=>?_⟩,fun p _ _ _ hp hv=>⟨?_,fun hw=>?_⟩⟩ u _ (fun _ _=>rfl) (V.holds_mono (fun p hp=>?_) u (h.named n u hu)) (h.slots n u hu)
  ·obtain ⟨h1,t',h2,h3⟩:=hv
   exact ⟨h1,t',by simp only [envOf] at h2 ⊢;rwa [upd_ne hp] at h2,h3⟩
  ·have:=walkP_mono (w':=w) (fun _ _ _ h=>h) (hB _ hp) hw
   simp only [envOf];rw [updL_ne hp];exact this
  ·obtain ⟨h1,t',h2,h3⟩:=hv
   exact ⟨h1,t',by simp only [envOf] at h2 ⊢;rwa [upd_ne hp] at h2,h3⟩
  ·have:=hdrAt_mono (w':=w) (fun _ _ _ h=>h) (hB _ hp) hw
   simp only [envOf];rw [updL_ne hp];exact this
  ·obtain ⟨t',ht',_⟩:=hp
   exact hne _ t' ht'
 ·refine V.holds_mono (fun p hp=>?_) u (h.named n u hu)
  obtain ⟨t',ht',h1⟩:=hp
  exact ⟨t',by rw [upd_ne (hne _ t' ht')];exact ht',h1⟩
theorem RR.newBlock (h:RR c sl rt ρ Fo X a w) (o:Obj):RR c sl rt ρ Fo (w.heap.size::X) a { w with heap:=w.heap.push o }:=by
 have h1:RR c sl rt ρ Fo X a { w with heap:=w.heap.push o }:=h.grow (fun b hb=>kept_push hb) (by simp) rfl rfl rfl
 have hfl:Flows w rt rt Fo Fo X (w.heap.size::X):=⟨fun r t hr b hb=>.inl ⟨r,t,hr,hb⟩,fun b hb=>by
  rcases List.mem_cons.1 hb with rfl | hb
  ·exact .inr (.inr (Nat.le_refl _))
  ·exact .inr (.inl hb)⟩
 have hS:∀b,Stab c w rt Fo X b→Stab c { w with heap:=w.heap.push o } rt Fo (w.heap.size::X) b∧Kept w { w with heap:=w.heap.push o } b:=fun b hb=>⟨hb.flows hfl (by simp),kept_push hb.1⟩
 have hcs:CellsStay w { w with heap:=w.heap.push o }:=.of_kept fun b hb=>kept_push hb
 have hB:∀r b,Bof c w rt ρ Fo X r b→Bof c { w with heap:=w.heap.push o } rt ρ Fo (w.heap.size::X) r b:=fun r b hb=>hb.imp (fun k=>(hS b k).1) id
 refine ⟨h1.os,h1.tape,h1.output,h1.size,h1.frame,h1.keepc,h1.keepl,fun r t hr=>?_,h1.nodup,h1.disj,h1.inF,?_,fun b hb r t hr=>?_,fun b hb=>?_,fun b hb j hj=>?_,fun n u hu=>?_,h1.named,h1.defers,h1.tsz,h1.anch⟩
 ·exact (h.roots r t hr).mono hS (fun b hb=>kept_push (h.inF r t hr b hb).1)
 ·exact List.nodup_cons.2 ⟨fun hm=>by have:=(h.inX _ hm).1;omega,h.nodupX⟩
 ·rcases List.mem_cons.1 hb with rfl | hb
  ·exact fun hm=>by have:=(h.inF r t hr _ hm).1;omega
  ·exact h.disjX b hb r t hr
 ·rcases List.mem_cons.1 hb with rfl | hb
  ·exact ⟨by simp,.inr h.size⟩
  ·exact h1.inX b hb
 ·rcases List.mem_cons.1 hb with rfl | hb
  ·have:=h.keepl _ _ hj;have:=h.size;omega
  ·exact h.keepX b hb j hj
 ·exact VR.later (N:=PlaceOK rt) (E:=envOf c sl rt ρ Fo X w) (E':=envOf c sl rt ρ Fo (w.heap.size::X) { w with heap:=w.heap.push o }) ⟨hS,fun p b q _ hp=>⟨hp,walkP_mono hcs (hB _)⟩,fun p _ _ _ _ hp=>⟨hp,hdrAt_mono hcs (hB _)⟩⟩ u _ (fun _ _=>rfl) (h.named n u hu) (h.slots n u hu)
theorem RR.writeFly (h:RR c sl rt ρ Fo X a w) {w':World} (hk:∀b,b ∉ X→Kept w w' b) (hs:w'.heap.size=w.heap.size)
  (ho:w'.os=w.os) (ht:w'.tape=w.tape) (hout:w'.output=w.output):RR c sl rt ρ Fo X a w':=by
 have hS:∀b,Stab c w rt Fo X b→Stab c w' rt Fo X b∧Kept w w' b:=fun b hb=>⟨⟨by rw [hs];exact hb.1,hb.2⟩,hk b hb.2.2.2⟩
 have hkF:∀r t,rt r=some t→∀b∈Fo r,Kept w w' b:=fun r t hr b hb=>hk b fun hx=>h.disjX b hx r t hr hb
 have hBk:∀r t,rt r=some t→∀b,Bof c w rt ρ Fo X r b→Kept w w' b:=fun r t hr b hb=>by
  rcases hb with hb | hb
  ·exact (hS b hb).2
  ·exact hkF r t hr b hb.1
 have hB:∀r b,Bof c w rt ρ Fo X r b→Bof c w' rt ρ Fo X r b:=fun r b hb=>hb.imp (fun k=>(hS b k).1) id
 have hwalk:∀r t,rt r=some t→∀(l:List Step) (b o b' q:Nat),Kept w w' b→walkH w (Bof c w rt ρ Fo X r) b o l b' q→walkH w' (Bof c w' rt ρ Fo X r) b o l b' q∧Kept w w' b':=by
  intro r t hr l
  induction l with
  | nil=>intro b o b' q hb hw;obtain ⟨rfl,rfl⟩:=hw;exact ⟨⟨rfl,rfl⟩,hb⟩
  | cons s l ih=>
   intro b o b' q hb hw
   obtain ⟨n,es,so,cnt⟩:=s
   cases cnt with
   | none=>
    obtain ⟨a0,len,cap,h1,h2,h3,h4⟩:=hw
    obtain ⟨i1,i2⟩:=ih a0 _ b' q (hBk r t hr a0 h3) h4
    exact ⟨⟨a0,len,cap,by rw [hb.cell];exact h1,h2,hB r a0 h3,i1⟩,i2⟩
   | some k=>
    obtain ⟨h1,h2⟩:=hw
    obtain ⟨i1,i2⟩:=ih b _ b' q hb h2
    exact ⟨⟨h1,i1⟩,i2⟩
 have hwp:∀p b q t,rt p.root=some t→walkP w (Bof c w rt ρ Fo X p.root) (ρ p.root) p b q→walkP w' (Bof c w' rt ρ Fo X p.root) (ρ p.root) p b q∧Kept w w' b:=by
  intro p b q t hr hw
  unfold walkP at *
  have hroot:=h.roots p.root t hr
  unfold RootOK at hroot
  split at hw
  ·rename_i b0 o0 e
   rw [e] at hroot
   obtain ⟨cs,F',eF,_⟩:=hroot
   exact hwalk p.root t hr _ _ _ _ _ (hkF p.root t hr b0 (by rw [eF];exact List.mem_cons_self)) hw
  ·split at hw
   ·exact hw.elim
   ·obtain ⟨h0,a0,len,cap,h1,h2,h3,h4⟩:=hw
    obtain ⟨i1,i2⟩:=hwalk p.root t hr _ _ _ _ _ (hBk p.root t hr a0 h3) h4
    exact ⟨⟨h0,a0,len,cap,h1,h2,hB _ a0 h3,i1⟩,i2⟩
 refine ⟨ho.trans h.os,ht.trans h.tape,hout.trans h.output,by rw [hs];exact h.size,fun b hb hb'=>?_,fun b j hj=>?_,h.keepl,fun r t hr=>?_,h.nodup,h.disj,?_,h.nodupX,h.disjX,?_,h.keepX,fun n u hu=>?_,h.named,h.defers,h.tsz,h.anch⟩
 ·exact (hk b fun hx=>by rcases (h.inX b hx).2 with h1 | h1;exact hb' h1;omega).trans (h.frame b hb hb')
 ·rw [(hk b fun hx=>h.keepX b hx j hj).cell];exact h.keepc b j hj
 ·exact (h.roots r t hr).mono hS (hkF r t hr)
 ·exact fun r t hr b hb=>⟨by rw [hs];exact (h.inF r t hr b hb).1,(h.inF r t hr b hb).2⟩
 ·exact fun b hb=>⟨by rw [hs];exact (h.inX b hb).1,(h.inX b hb).2⟩
 ·refine VR.later (N:=PlaceOK rt) (E:=envOf c sl rt ρ Fo X w) (E':=envOf c sl rt ρ Fo X w') ⟨hS,fun p b q _ hp=>⟨hp,fun hw=>?_⟩,fun p v0 v1 v2 _ hp=>⟨hp,fun hw=>?_⟩⟩ u _ (fun _ _=>rfl) (h.named n u hu) (h.slots n u hu)
  ·obtain ⟨_,t,hr,_⟩:=hp
   exact (hwp p b q t hr hw).1
  ·obtain ⟨_,t,hr,_⟩:=hp
   rcases hdrAt_cases hw with ⟨cs,e1,e2,e3⟩ | ⟨b,q,h1,h2⟩
   ·show hdrAt w' _ (ρ p.root) p (.slice v0 v1 v2)
    rw [show ρ p.root=Loc.reg cs from e1];exact hdrAt_reg e2 e3
   ·obtain ⟨i1,i2⟩:=hwp p b q t hr h1
    exact hdrAt_walk i1 (by show w'.cell? _=_;rw [i2.cell];exact h2)
end
end Go.Rd
namespace Go.Rd
def hdr0 (w:World) (L:Loc) (i:Nat) (v:Value):Prop:=match L with
 | .mem b0 o0=>w.cell? ⟨b0,o0+i,none⟩=some v
 | .reg cs=>cs[i]?=some v
def Weak (τ:Ty) (o2 o:Ow):Prop:=∀(S:Nat→Prop) (w:World) (cs:List Value) (x:τ.den) (F:List Nat),Rep S w τ o cs x F→F.Nodup→
 ∃F':List Nat,F'.Sublist F∧∀S':Nat→Prop,(∀b,S b→S' b)→(∀b∈F,b ∉ F'→S' b)→Rep S' w τ o2 cs x F'
section
variable {c:Ctx} {sl:Slots} {rt:Roots} {ρ:Nat→Loc} {Fo:Nat→List Nat} {X:List Nat} {a:Act} {w:World}
theorem RR.reroot (h:RR c sl rt ρ Fo X a w) {r:Nat} {t t':Root} (hr:rt r=some t) {F' Y:List Nat} (hF':∀b∈F',b∈Fo r) (hY:∀b∈Y,b∈Fo r)
  (hnF:F'.Nodup) (hnY:Y.Nodup) (hFY:∀b∈F',b ∉ Y) (hkY:∀b∈Y,∀j,¬c.keep b j)
  (hτ:t'.τ=t.τ) (hv0:∀i,t.v0 i≤t'.v0 i) (hv1:∀i,t.v1 i≤t'.v1 i)
  (hbase:∀b o,ρ r=.mem b o→b∈F')
  (hroot:RootOK c (Stab c w (upd rt r (some t')) (updL Fo r F') (Y++X)) w (ρ r) F' t')
  (hpl:(Y=[]∧(∀i,t'.v0 i=t.v0 i)∧(∀i,t'.v1 i=t.v1 i)∨(∀i,t'.v0 i=t.v0 i+1)∧∀i,t'.v1 i=t.v1 i+1)∨
   ((∀i,t'.v1 i=t.v1 i+1)∧∀i,(t'.v0 i=t.v0 i∧∀a0 len cap,hdr0 w (ρ r) i (.slice (some ⟨a0,0,none⟩) len cap)→0<len→a0∈Fo r→a0∈F')∨t'.v0 i=t.v0 i+1)):
  RR c sl (upd rt r (some t')) ρ (updL Fo r F') (Y++X) a w:=by
 have hcase:∀k u,upd rt r (some t') k=some u→(k=r∧u=t')∨(k≠r∧rt k=some u):=fun k u hu=>by
  by_cases e:k=r
  ·subst e;rw [upd_same] at hu;cases hu;exact .inl ⟨rfl,rfl⟩
  ·rw [upd_ne e] at hu;exact .inr ⟨e,hu⟩
 have hfl:Flows w rt (upd rt r (some t')) Fo (updL Fo r F') X (Y++X):=⟨fun k u hk b hb=>by
  rcases hcase k u hk with ⟨rfl,rfl⟩ | ⟨e,hk⟩
  ·rw [updL_same] at hb;exact .inl ⟨k,t,hr,hF' b hb⟩
  ·rw [updL_ne e] at hb;exact .inl ⟨k,u,hk,hb⟩,fun b hb=>by
  rcases List.mem_append.1 hb with hb | hb
  ·exact .inl ⟨r,t,hr,hY b hb⟩
  ·exact .inr (.inl hb)⟩
 have hS:∀b,Stab c w rt Fo X b→Stab c w (upd rt r (some t')) (updL Fo r F') (Y++X) b∧Kept w w b:=fun b hb=>⟨hb.flows hfl (Nat.le_refl _),rfl⟩
 have hrel:∀b∈Fo r,b ∉ F'→b ∉ Y→Stab c w (upd rt r (some t')) (updL Fo r F') (Y++X) b:=fun b hb h1 h2=>by
  obtain ⟨h3,h4⟩:=h.inF r t hr b hb
  refine ⟨h3,.inr h4,fun k u hk hm=>?_,fun hm=>?_⟩
  ·rcases hcase k u hk with ⟨rfl,rfl⟩ | ⟨e,hk⟩
   ·rw [updL_same] at hm;exact h1 hm
   ·rw [updL_ne e] at hm;exact h.disj r k t u hr hk (fun e'=>e e'.symm) b hb hm
  ·rcases List.mem_append.1 hm with hm | hm
   ·exact h2 hm
   ·exact h.disjX b hm r t hr hb
 have hBne:∀k,k≠r→∀b,Bof c w rt ρ Fo X k b→Bof c w (upd rt r (some t')) ρ (updL Fo r F') (Y++X) k b:=fun k hk b hb=>by
  rcases hb with hb | ⟨h1,h2⟩
  ·exact .inl (hS b hb).1
  ·exact .inr ⟨by rw [updL_ne hk];exact h1,h2⟩
 have hBr:Y=[]→∀b,Bof c w rt ρ Fo X r b→Bof c w (upd rt r (some t')) ρ (updL Fo r F') (Y++X) r b:=fun hYe b hb=>by
  rcases hb with hb | ⟨h1,h2⟩
  ·exact .inl (hS b hb).1
  ·by_cases hm:b∈F'
   ·exact .inr ⟨by rw [updL_same];exact hm,h2⟩
   ·exact .inl (hrel b h1 hm (by rw [hYe];simp))
 refine ⟨h.os,h.tape,h.output,h.size,h.frame,h.keepc,h.keepl,fun k u hk=>?_,fun k u hk=>?_,fun k k' u u' hk hk' hkk b hb=>?_,fun k u hk b hb=>?_,?_,fun b hb k u hk hm=>?_,
  fun b hb=>?_,fun b hb=>?_,fun n u hu=>?_,fun n u hu=>?_,h.defers,h.tsz,fun k b q hk=>⟨(h.anch k b q hk).1,by
   by_cases e:k=r
   ·rw [e,upd_same];simp
   ·rw [upd_ne e];exact (h.anch k b q hk).2⟩⟩
 ·rcases hcase k u hk with ⟨rfl,rfl⟩ | ⟨e,hk⟩
  ·rw [updL_same];exact hroot
  ·rw [updL_ne e];exact (h.roots k u hk).mono hS (fun _ _=>rfl)
 ·rcases hcase k u hk with ⟨rfl,rfl⟩ | ⟨e,hk⟩
  ·rw [updL_same];exact hnF
  ·rw [updL_ne e];exact h.nodup k u hk
 ·rcases hcase k u hk with ⟨e1,e2⟩ | ⟨e,hk0⟩
  ·rcases hcase k' u' hk' with ⟨e3,e4⟩ | ⟨e',hk0'⟩
   ·exact absurd (e1.trans e3.symm) hkk
   ·rw [e1,updL_same] at hb;rw [updL_ne e'];exact h.disj r k' t u' hr hk0' (fun e=>e' e.symm) b (hF' b hb)
  ·rw [updL_ne e] at hb
   rcases hcase k' u' hk' with ⟨e3,e4⟩ | ⟨e',hk0'⟩
   ·rw [e3,updL_same];exact fun hb'=>h.disj r k t u hr hk0 (fun e'=>e e'.symm) b (hF' b hb') hb
   ·rw [updL_ne e'];exact h.disj k k' u u' hk0 hk0' hkk b hb
 ·rcases hcase k u hk with ⟨rfl,rfl⟩ | ⟨e,hk⟩
  ·rw [updL_same] at hb;exact h.inF k t hr b (hF' b hb)
  ·rw [updL_ne e] at hb;exact h.inF k u hk b hb
 ·exact List.nodup_append.2 ⟨hnY,h.nodupX,fun b hb b' hb' e=>h.disjX b' hb' r t hr (by rw [←e];exact hY b hb)⟩
 ·rcases hcase k u hk with ⟨rfl,rfl⟩ | ⟨e,hk⟩
  ·rw [updL_same] at hm
   rcases List.mem_append.1 hb with hb | hb
   ·exact hFY b hm hb
   ·exact h.disjX b hb k t hr (hF' b hm)
  ·rw [updL_ne e] at hm
   rcases List.mem_append.1 hb with hb | hb
   ·exact h.disj r k t u hr hk (fun e'=>e e'.symm) b (hY b hb) hm
   ·exact h.disjX b hb k u hk hm
 ·rcases List.mem_append.1 hb with hb | hb
  ·exact h.inF r t hr b (hY b hb)
  ·exact h.inX b hb
 ·rcases List.mem_append.1 hb with hb | hb
  ·exact hkY b hb
  ·exact h.keepX b hb
 ·have hvalid:∀p,PlaceOK rt p→validP (upd rt r (some t')) p→validP rt p∧(p.root=r→p.steps=[]∨Y=[]∨(p.steps.length≤1∧∀a0 len cap,hdr0 w (ρ r) p.off (.slice (some ⟨a0,0,none⟩) len cap)→0<len→a0∈Fo r→a0∈F')):=fun p hp hv=>by
   obtain ⟨h1,u',h2,h3,h4⟩:=hv
   rcases hcase _ _ h2 with ⟨e,rfl⟩ | ⟨e,h2⟩
   ·rcases hpl with (⟨hy,hq0,hq1⟩ | ⟨hq0,hq1⟩) | ⟨hq1,hq0⟩
    ·exact ⟨⟨h1,t,by rw [e];exact hr,fun hs=>by rw [←hq0];exact h3 hs,fun hs=>by rw [←hq1];exact h4.1 hs,by rw [←hτ];exact h4.2⟩,fun _=>.inr (.inl hy)⟩
    ·obtain ⟨t1,g1,g2,g3⟩:=hp
     rw [e,hr] at g1;cases g1
     have hs:p.steps=[]:=by
      apply Classical.byContradiction
      intro hs
      have:=h3 hs
      rw [hq0] at this;omega
     exact ⟨⟨h1,t,by rw [e];exact hr,fun k=>absurd hs k,fun k=>by rw [hs] at k;simp at k,by rw [←hτ];exact h4.2⟩,fun _=>.inl hs⟩
    ·obtain ⟨t1,g1,g2,g3⟩:=hp
     rw [e,hr] at g1;cases g1
     have hs:¬2≤p.steps.length:=fun hs=>by
      have:=h4.1 hs
      rw [hq1] at this;omega
     rcases hq0 p.off with ⟨q0,q2⟩ | q0
     ·exact ⟨⟨h1,t,by rw [e];exact hr,fun k=>by rw [←q0];exact h3 k,fun k=>absurd k hs,by rw [←hτ];exact h4.2⟩,fun _=>.inr (.inr ⟨by omega,q2⟩)⟩
     ·have hs0:p.steps=[]:=by
       apply Classical.byContradiction
       intro hs
       have:=h3 hs
       rw [q0] at this;omega
      exact ⟨⟨h1,t,by rw [e];exact hr,fun k=>absurd hs0 k,fun k=>absurd k hs,by rw [←hτ];exact h4.2⟩,fun _=>.inl hs0⟩
   ·exact ⟨⟨h1,u',h2,h3,h4⟩,fun e'=>absurd e' e⟩
  refine VR.later (N:=PlaceOK rt) (E:=envOf c sl rt ρ Fo X w) (E':=envOf c sl (upd rt r (some t')) ρ (updL Fo r F') (Y++X) w) ⟨hS,fun p b q hp hv=>⟨(hvalid p hp hv).1,fun hw=>?_⟩,fun p _ _ _ hp hv=>?_⟩ u _ (fun _ _=>rfl) (h.named n u hu) (h.slots n u hu)
  ·by_cases e:p.root=r
   ·rcases (hvalid p hp hv).2 e with hs | hy | ⟨hs,hq⟩
    ·unfold walkP at hw ⊢
     simp only [envOf] at hw ⊢
     cases hL:ρ p.root with
     | mem b0 o0=>rw [hL] at hw;rw [hs] at hw ⊢;exact hw
     | reg cs=>rw [hL] at hw;rw [hs] at hw;exact hw.elim
    ·exact walkP_mono (w':=w) (fun _ _ _ h=>h) (by intro b hb;simp only [envOf] at hb ⊢;rw [e] at hb ⊢;exact hBr hy b hb) hw
    ·have hB1:∀a0 len cap,hdr0 w (ρ r) p.off (.slice (some ⟨a0,0,none⟩) len cap)→0<len→Bof c w rt ρ Fo X r a0→Bof c w (upd rt r (some t')) ρ (updL Fo r F') (Y++X) r a0:=fun a0 len cap hh hl hb=>by
      rcases hb with hb | ⟨h1,h2⟩
      ·exact .inl (hS a0 hb).1
      ·exact .inr ⟨by rw [updL_same];exact hq a0 len cap hh hl h1,h2⟩
     unfold walkP at hw ⊢
     simp only [envOf] at hw ⊢
     rw [e] at hw ⊢
     cases hL:ρ r with
     | mem b0 o0=>
      rw [hL] at hw hB1
      cases hst:p.steps with
      | nil=>rw [hst] at hw;exact hw
      | cons s l=>
       rw [hst] at hw hs
       have hl0:l=[]:=by cases l with | nil=>rfl | cons _ _=>simp at hs
       subst hl0
       obtain ⟨n,es,so,cnt⟩:=s
       cases cnt with
       | some k=>exact hw
       | none=>
        obtain ⟨a0,len,cap,g1,g2,g3,g4⟩:=hw
        exact ⟨a0,len,cap,g1,g2,hB1 a0 len cap g1 (Nat.lt_of_le_of_lt (Nat.zero_le _) g2) g3,g4⟩
     | reg cs=>
      rw [hL] at hw hB1
      dsimp only at hw ⊢
      cases hst:p.steps with
      | nil=>rw [hst] at hw;exact hw
      | cons s l=>
       rw [hst] at hw hs
       have hl0:l=[]:=by cases l with | nil=>rfl | cons _ _=>simp at hs
       subst hl0
       obtain ⟨g0,a0,len,cap,g1,g2,g3,g4⟩:=hw
       exact ⟨g0,a0,len,cap,g1,g2,hB1 a0 len cap g1 (Nat.lt_of_le_of_lt (Nat.zero_le _) g2) g3,g4⟩
   ·exact walkP_mono (w':=w) (fun _ _ _ h=>h) (hBne _ e) hw
  ·obtain ⟨h1,u',h2,h3,h4⟩:=hv
   rcases hcase _ _ h2 with ⟨e,rfl⟩ | ⟨e,h2⟩
   ·rcases hpl with (⟨hy,hq0,hq1⟩ | ⟨hq0,hq1⟩) | ⟨hq1,hq0⟩
    ·refine ⟨⟨h1,t,by rw [e];exact hr,by rw [←hq0];exact h3,fun hs=>by rw [←hq1];exact h4.1 hs,by rw [←hτ];exact h4.2⟩,fun hw=>?_⟩
     exact hdrAt_mono (w':=w) (fun _ _ _ h=>h) (by intro b hb;simp only [envOf] at hb ⊢;rw [e] at hb ⊢;exact hBr hy b hb) hw
    ·obtain ⟨t1,g1,g2,g3⟩:=hp
     rw [e,hr] at g1;cases g1
     rw [hq0] at h3;omega
    ·obtain ⟨t1,g1,g2,g3⟩:=hp
     rw [e,hr] at g1;cases g1
     have hs:p.steps=[]:=by
      apply Classical.byContradiction
      intro hs
      have:=h4.1 hs
      rw [hq1] at this;omega
     have q0:u'.v0 p.off=t.v0 p.off:=by
      rcases hq0 p.off with ⟨q0,_⟩ | q0
      ·exact q0
      ·rw [q0] at h3;omega
     refine ⟨⟨h1,t,by rw [e];exact hr,by rw [←q0];exact h3,fun k=>absurd hs k,by rw [←hτ];exact h4.2⟩,fun hw=>?_⟩
     simp only [envOf] at hw ⊢
     unfold hdrAt walkP at hw ⊢
     cases hL:ρ p.root with
     | mem b0 o0=>rw [hL] at hw;simp only [hs] at hw ⊢;exact hw
     | reg cs=>rw [hL] at hw;simp only [hs] at hw ⊢;exact hw
   ·exact ⟨⟨h1,u',h2,h3,h4⟩,fun hw=>hdrAt_mono (w':=w) (fun _ _ _ h=>h) (hBne _ e) hw⟩
 ·refine V.holds_mono (fun p hp=>?_) u (h.named n u hu)
  obtain ⟨t1,g1,g2,g3⟩:=hp
  by_cases e:p.root=r
  ·rw [e,hr] at g1;cases g1
   exact ⟨t',by rw [e,upd_same],Nat.le_trans g2 (hv0 _),Nat.le_trans g3 (hv1 _)⟩
  ·exact ⟨t1,by rw [upd_ne e];exact g1,g2,g3⟩
theorem RR.weakenG (h:RR c sl rt ρ Fo X a w) {r:Nat} {t:Root} (hr:rt r=some t) {o2:Ow} (hwk:Weak t.τ o2 t.o):
  ∃Fo',RR c sl (upd rt r (some { t with o:=o2 })) ρ Fo' X a w∧(∀b,Stab c w rt Fo X b→Stab c w (upd rt r (some { t with o:=o2 })) Fo' X b)∧∀k b,b∈Fo' k→b∈Fo k:=by
 have hroot:=h.roots r t hr
 have hnd:=h.nodup r t hr
 unfold RootOK at hroot
 have main:∀(base:List Nat) (cs:List Value) (F:List Nat),Fo r=base++F→Rep (Stab c w rt Fo X) w t.τ t.o cs t.x F→
   ∃F',F'.Sublist F∧∀S':Nat→Prop,(∀b,Stab c w rt Fo X b→S' b)→(∀b∈F,b ∉ F'→S' b)→Rep S' w t.τ o2 cs t.x F':=fun base cs F e hrep=>
  hwk _ _ _ _ _ hrep (by rw [e] at hnd;exact (List.nodup_append.1 hnd).2.1)
 have hst:∀(F':List Nat),(∀b∈F',b∈Fo r)→∀b,Stab c w rt Fo X b→Stab c w (upd rt r (some { t with o:=o2 })) (updL Fo r F') ([]++X) b:=fun F' hF' b hb=>
  hb.flows ⟨fun k u hk b hb=>by
   by_cases e:k=r
   ·subst e;rw [updL_same] at hb;exact .inl ⟨k,t,hr,hF' b hb⟩
   ·rw [upd_ne e] at hk;rw [updL_ne e] at hb;exact .inl ⟨k,u,hk,hb⟩,fun b hb=>.inr (.inl (by simpa using hb))⟩ (Nat.le_refl _)
 have hsb:∀(F':List Nat),(∀b∈F',b∈Fo r)→∀k b,b∈updL Fo r F' k→b∈Fo k:=fun F' hF' k b hb=>by
  by_cases e:k=r
  ·subst e;rw [updL_same] at hb;exact hF' b hb
  ·rw [updL_ne e] at hb;exact hb
 have hrel:∀(F':List Nat),∀b∈Fo r,b ∉ F'→Stab c w (upd rt r (some { t with o:=o2 })) (updL Fo r F') ([]++X) b:=fun F' b hb hb'=>by
  obtain ⟨h3,h4⟩:=h.inF r t hr b hb
  refine ⟨h3,.inr h4,fun k u hk hm=>?_,fun hm=>h.disjX b (by simpa using hm) r t hr hb⟩
  by_cases e:k=r
  ·subst e;rw [updL_same] at hm;exact hb' hm
  ·rw [upd_ne e] at hk;rw [updL_ne e] at hm;exact h.disj r k t u hr hk (fun e'=>e e'.symm) b hb hm
 cases hL:ρ r with
 | mem b0 o0=>
  rw [hL] at hroot
  obtain ⟨cs,F,e,hat,hfz,hrep,hk1,hk2⟩:=hroot
  obtain ⟨F',hs,hk⟩:=main [b0] cs F (by simpa using e) hrep
  have hsub:(b0::F').Sublist (Fo r):=by rw [e];exact hs.cons_cons b0
  refine ⟨_,?_,hst _ fun b hb=>hsub.subset hb,hsb _ fun b hb=>hsub.subset hb⟩
  refine h.reroot (t':={ t with o:=o2 }) (Y:=[]) hr (F':=b0::F') (fun b hb=>hsub.subset hb) (by simp) (hnd.sublist hsub) (by simp) (by simp) (by simp) rfl (fun _=>Nat.le_refl _) (fun _=>Nat.le_refl _)
   (fun b o e'=>by rw [hL] at e';simp only [Loc.mem.injEq] at e';rw [←e'.1];exact List.mem_cons_self) ?_ (.inl (.inl ⟨rfl,fun _=>rfl,fun _=>rfl⟩))
  rw [hL]
  refine ⟨cs,F',rfl,hat,hfz,hk _ (hst _ fun b hb=>hsub.subset hb) (fun b hb hb'=>hrel _ b (by rw [e];exact List.mem_cons_of_mem _ hb) (fun hm=>?_)),hk1,fun b hb=>hk2 b (hs.subset hb)⟩
  rcases List.mem_cons.1 hm with rfl | hm
  ·rw [e] at hnd;exact (List.nodup_cons.1 hnd).1 hb
  ·exact hb' hm
 | reg cs=>
  rw [hL] at hroot
  obtain ⟨hrep,hk2⟩:=hroot
  obtain ⟨F',hs,hk⟩:=main [] cs (Fo r) (by simp) hrep
  refine ⟨_,?_,hst _ fun b hb=>hs.subset hb,hsb _ fun b hb=>hs.subset hb⟩
  refine h.reroot (t':={ t with o:=o2 }) (Y:=[]) hr (F':=F') (fun b hb=>hs.subset hb) (by simp) (hnd.sublist hs) (by simp) (by simp) (by simp) rfl (fun _=>Nat.le_refl _) (fun _=>Nat.le_refl _)
   (fun b o e'=>by rw [hL] at e';simp at e') ?_ (.inl (.inl ⟨rfl,fun _=>rfl,fun _=>rfl⟩))
  rw [hL]
  exact ⟨hk _ (hst _ fun b hb=>hs.subset hb) (fun b hb hb'=>hrel _ b hb hb'),fun b hb=>hk2 b (hs.subset hb)⟩
theorem RR.weakenF (h:RR c sl rt ρ Fo X a w) {r:Nat} {t:Root} (hr:rt r=some t) {o2:Ow} (hwk:wk t.τ o2 t.o=true):
  ∃Fo',RR c sl (upd rt r (some { t with o:=o2 })) ρ Fo' X a w∧(∀b,Stab c w rt Fo X b→Stab c w (upd rt r (some { t with o:=o2 })) Fo' X b)∧∀k b,b∈Fo' k→b∈Fo k:=
 h.weakenG hr fun _ _ _ _ _ hr hn=>hr.weak hwk hn
theorem RR.weaken (h:RR c sl rt ρ Fo X a w) {r:Nat} {t:Root} (hr:rt r=some t) {o2:Ow} (hwk:wk t.τ o2 t.o=true):
  ∃Fo',RR c sl (upd rt r (some { t with o:=o2 })) ρ Fo' X a w∧∀b,Stab c w rt Fo X b→Stab c w (upd rt r (some { t with o:=o2 })) Fo' X b:=
 let ⟨Fo',h1,h2,_⟩:=h.weakenF hr hwk
 ⟨Fo',h1,h2⟩
def Root.taken (t:Root) (o:Ow) (x:t.τ.den):Root:={ t with o:=o,x:=x,v0:=fun i=>t.v0 i+1,v1:=fun i=>t.v1 i+1 }
theorem RR.take (h:RR c sl rt ρ Fo X a w) {r:Nat} {t:Root} (hr:rt r=some t) {σ:Ty} {off:Nat} {o':Ow} {y:σ.den} (hsub:subAt σ t.τ t.o t.x off=some (o',y))
  {o3:Ow} {x3:t.τ.den} (hset:setAt σ (.dead,y) t.τ t.o t.x off=some (o3,x3)):
  ∃Fo' Y m,RR c sl (upd rt r (some (t.taken o3 x3))) ρ Fo' (Y++X) a w∧Rep (Stab c w (upd rt r (some (t.taken o3 x3))) Fo' (Y++X)) w σ o' m y Y∧
   (∀b,Stab c w rt Fo X b→Stab c w (upd rt r (some (t.taken o3 x3))) Fo' (Y++X) b)∧
   ∀p:Place,p.root=r→p.off=off→p.steps=[]→∀(B:Nat→Prop) (v:Value),hdrAt w B (ρ r) p v→m[0]?=some v∨σ.size=0:=by
 have hroot:=h.roots r t hr
 have hnd:=h.nodup r t hr
 unfold RootOK at hroot
 have fl:∀F' Y:List Nat,(∀b∈F',b∈Fo r)→(∀b∈Y,b∈Fo r)→∀b,Stab c w rt Fo X b→Stab c w (upd rt r (some (t.taken o3 x3))) (updL Fo r F') (Y++X) b∧Kept w w b:=fun F' Y hF' hY b hb=>
  ⟨hb.flows ⟨fun k u hk b hb=>by
   by_cases e:k=r
   ·subst e;rw [updL_same] at hb;exact .inl ⟨k,t,hr,hF' b hb⟩
   ·rw [upd_ne e] at hk;rw [updL_ne e] at hb;exact .inl ⟨k,u,hk,hb⟩,fun b hb=>by
   rcases List.mem_append.1 hb with hb | hb
   ·exact .inl ⟨r,t,hr,hY b hb⟩
   ·exact .inr (.inl hb)⟩ (Nat.le_refl _),rfl⟩
 cases hL:ρ r with
 | mem b0 o0=>
  rw [hL] at hroot
  obtain ⟨cs,F,e,hat,hfz,hrep,hk1,hk2⟩:=hroot
  obtain ⟨p,m,q,Fp,Fm,Fq,hc,hp,hf,hm,hupd⟩:=subAt_focus hsub hrep
  subst hc hf
  rw [e] at hnd
  have hnd':=List.nodup_cons.1 hnd
  have hndA:=List.nodup_append.1 hnd'.2
  have hndB:=List.nodup_append.1 hndA.1
  have hF':∀b∈b0::(Fp++Fq),b∈Fo r:=fun b hb=>by rw [e];simp only [List.mem_cons,List.mem_append] at hb ⊢;rcases hb with h | h | h<;>simp [h]
  have hY:∀b∈Fm,b∈Fo r:=fun b hb=>by rw [e];simp [hb]
  have hFY:∀b∈b0::(Fp++Fq),b ∉ Fm:=fun b hb hb'=>by
   simp only [List.mem_cons,List.mem_append] at hb
   rcases hb with rfl | h | h
   ·exact hnd'.1 (by simp [hb'])
   ·exact hndB.2.2 b h b hb' rfl
   ·exact hndA.2.2 b (List.mem_append_right _ hb') b h rfl
  have hN:(b0::(Fp++Fq)).Nodup:=by
   refine List.Nodup.sublist ?_ hnd
   exact (((List.sublist_append_left Fp Fm).append_right Fq)).cons_cons b0
  refine ⟨_,Fm,m,h.reroot (t':=t.taken o3 x3) (Y:=Fm) hr hF' hY hN hndB.2.1 hFY (fun b hb=>hk2 b (by simp [hb])) rfl (fun i=>Nat.le_succ _) (fun i=>Nat.le_succ _)
   (fun b o e'=>by rw [hL] at e';simp only [Loc.mem.injEq] at e';rw [←e'.1];exact List.mem_cons_self) ?_ (.inl (.inr ⟨fun _=>rfl,fun _=>rfl⟩)),hm.mono (fl _ _ hF' hY) (fun _ _=>rfl),fun b hb=>(fl _ _ hF' hY b hb).1,fun pl h1 h2 h3 B v hv=>?_⟩
  ·rw [hL]
   have:=hupd _ w (.dead,y) m [] (o3,x3) hset (fl _ _ hF' hY) (fun _ _=>rfl) (hm.dead_of _ y)
   rw [List.append_nil] at this
   exact ⟨_,Fp++Fq,rfl,hat,hfz,this,hk1,fun b hb=>hk2 b (by simp only [List.mem_append] at hb ⊢;rcases hb with h | h<;>simp [h])⟩
  ·cases hs:σ.size with
   | zero=>exact .inr rfl
   | succ n=>
    left
    unfold hdrAt at hv
    split at hv
    ·rename_i cs' e1 e2;simp at e1
    ·obtain ⟨b,q',hw,hc⟩:=hv
     unfold walkP at hw
     simp only [h3] at hw
     obtain ⟨rfl,rfl⟩:=hw
     have hml:m.length=n+1:=by rw [hm.length,hs]
     have:=hat (p.length+0) m[0] (by rw [List.append_assoc,List.getElem?_append_right (by omega),Nat.add_sub_cancel_left,List.getElem?_append_left (by omega),List.getElem?_eq_getElem])
     rw [h2] at hc
     rw [hp,Nat.add_zero,hc] at this
     rw [List.getElem?_eq_getElem (by omega)];exact this.symm
 | reg cs=>
  rw [hL] at hroot
  obtain ⟨hrep,hk2⟩:=hroot
  obtain ⟨p,m,q,Fp,Fm,Fq,hc,hp,hf,hm,hupd⟩:=subAt_focus hsub hrep
  subst hc
  rw [hf] at hnd
  have hndA:=List.nodup_append.1 hnd
  have hndB:=List.nodup_append.1 hndA.1
  have hF':∀b∈Fp++Fq,b∈Fo r:=fun b hb=>by rw [hf];simp only [List.mem_append] at hb ⊢;rcases hb with h | h<;>simp [h]
  have hY:∀b∈Fm,b∈Fo r:=fun b hb=>by rw [hf];simp [hb]
  have hFY:∀b∈Fp++Fq,b ∉ Fm:=fun b hb hb'=>by
   simp only [List.mem_append] at hb
   rcases hb with h | h
   ·exact hndB.2.2 b h b hb' rfl
   ·exact hndA.2.2 b (List.mem_append_right _ hb') b h rfl
  have hN:(Fp++Fq).Nodup:=List.Nodup.sublist ((List.sublist_append_left Fp Fm).append_right Fq) hnd
  refine ⟨_,Fm,m,h.reroot (t':=t.taken o3 x3) (Y:=Fm) hr hF' hY hN hndB.2.1 hFY (fun b hb=>hk2 b (hY b hb)) rfl (fun i=>Nat.le_succ _) (fun i=>Nat.le_succ _)
   (fun b o e'=>by rw [hL] at e';simp at e') ?_ (.inl (.inr ⟨fun _=>rfl,fun _=>rfl⟩)),hm.mono (fl _ _ hF' hY) (fun _ _=>rfl),fun b hb=>(fl _ _ hF' hY b hb).1,fun pl h1 h2 h3 B v hv=>?_⟩
  ·rw [hL]
   have:=hupd _ w (.dead,y) m [] (o3,x3) hset (fl _ _ hF' hY) (fun _ _=>rfl) (hm.dead_of _ y)
   rw [List.append_nil] at this
   exact ⟨this,fun b hb=>hk2 b (hF' b hb)⟩
  ·cases hs:σ.size with
   | zero=>exact .inr rfl
   | succ n=>
    left
    rcases hdrAt_cases hv with ⟨cs',e1,e2,e3⟩ | ⟨b,q',hw,hc⟩
    ·simp only [Loc.reg.injEq] at e1
     subst e1
     have hml:m.length=n+1:=by rw [hm.length,hs]
     rw [h2,List.append_assoc,List.getElem?_append_right (by omega),hp,Nat.sub_self,List.getElem?_append_left (by omega)] at e3
     exact e3
    ·unfold walkP at hw
     simp only [h3] at hw
end
end Go.Rd
namespace Go.Rd
theorem walkH_arr {w w':World} {B B':Nat→Prop}:∀(l:List Step) (b o b' q:Nat),l.all (·.cnt.isSome)=true→walkH w B b o l b' q→walkH w' B' b o l b' q
 | [],_,_,_,_,_,h=>h
 | s::r,b,o,b',q,hl,h=>by
  obtain ⟨n,es,so,cnt⟩:=s
  cases cnt with
  | none=>simp at hl
  | some k=>exact ⟨h.1,walkH_arr r _ _ _ _ (by simpa using hl) h.2⟩
theorem walkH_deep {w w':World} {B B':Nat→Prop} (hB:∀b,B b→B' b) (hc:∀b o a l cp,B b→w.cell? ⟨b,o,none⟩=some (.slice a l cp)→w'.cell? ⟨b,o,none⟩=some (.slice a l cp)):
  ∀(l:List Step) (b o b' q:Nat),B b→okSteps l=true→walkH w B b o l b' q→walkH w' B' b o l b' q
 | [],_,_,_,_,_,_,h=>h
 | s::r,b,o,b',q,hb,hl,h=>by
  obtain ⟨n,es,so,cnt⟩:=s
  cases cnt with
  | none=>
   obtain ⟨a0,len,cap,h1,h2,h3,h4⟩:=h
   exact ⟨a0,len,cap,hc _ _ _ _ _ hb h1,h2,hB _ h3,walkH_deep hB hc r _ _ _ _ h3 hl h4⟩
  | some k=>exact ⟨h.1,walkH_arr r _ _ _ _ hl h.2⟩
theorem walkH_end {w:World} {B:Nat→Prop}:∀(l:List Step) (b o b' q:Nat),B b→walkH w B b o l b' q→B b'
 | [],_,_,_,_,hb,h=>by rw [h.1];exact hb
 | s::r,b,o,b',q,hb,h=>by
  obtain ⟨n,es,so,cnt⟩:=s
  cases cnt with
  | none=>obtain ⟨a0,len,cap,h1,h2,h3,h4⟩:=h;exact walkH_end r _ _ _ _ h3 h4
  | some k=>exact walkH_end r _ _ _ _ hb h.2
theorem walkH_allnone {w:World} {B:Nat→Prop}:∀(l:List Step) (b o b' q:Nat),l≠[]→l.all (·.cnt.isNone)=true→walkH w B b o l b' q→B b'
 | [],_,_,_,_,hne,_,_=>absurd rfl hne
 | s::r,b,o,b',q,_,hl,h=>by
  obtain ⟨n,es,so,cnt⟩:=s
  cases cnt with
  | none=>obtain ⟨a0,len,cap,h1,h2,h3,h4⟩:=h;exact walkH_end r _ _ _ _ h3 h4
  | some k=>simp at hl
theorem okSteps_of_allnone:∀{l:List Step},l.all (·.cnt.isNone)=true→okSteps l=true
 | [],_=>rfl
 | s::r,h=>by
  obtain ⟨n,es,so,cnt⟩:=s
  cases cnt with
  | none=>simp only [okSteps];exact okSteps_of_allnone (by simpa using h)
  | some k=>simp at h
theorem sn_le:∀l:List Step,sn l≤l.length
 | []=>Nat.le_refl _
 | s::r=>by
  have:=sn_le r
  simp only [sn,List.length_cons]
  split<;>omega
theorem walkH_first {w w':World} {B B':Nat→Prop} (hB:∀b,B b→B' b) {a0:Nat} (hc:∀o a l cp,w.cell? ⟨a0,o,none⟩=some (.slice a l cp)→w'.cell? ⟨a0,o,none⟩=some (.slice a l cp)):
  ∀(l:List Step) (o b' q:Nat),okSteps l=true→(2≤sn l→∀b o a l cp,B b→w.cell? ⟨b,o,none⟩=some (.slice a l cp)→w'.cell? ⟨b,o,none⟩=some (.slice a l cp))→walkH w B a0 o l b' q→walkH w' B' a0 o l b' q
 | [],_,_,_,_,_,h=>h
 | s::r,o,b',q,hl,h2,h=>by
  obtain ⟨n,es,so,cnt⟩:=s
  cases cnt with
  | some k=>exact ⟨h.1,walkH_arr r _ _ _ _ hl h.2⟩
  | none=>
   obtain ⟨a1,len,cap,g1,g2,g3,g4⟩:=h
   refine ⟨a1,len,cap,hc _ _ _ _ g1,g2,hB _ g3,?_⟩
   cases r with
   | nil=>exact g4
   | cons s' r'=>
    obtain ⟨n',es',so',cnt'⟩:=s'
    cases cnt' with
    | some k=>
     have hl':r'.all (·.cnt.isSome)=true:=by simpa [okSteps] using hl
     exact ⟨g4.1,walkH_arr r' _ _ _ _ hl' g4.2⟩
    | none=>exact walkH_deep hB (h2 (by simp [sn])) _ _ _ _ _ g3 hl g4
theorem walkP_stay {w w':World} {B B':Nat→Prop} {L:Loc} {p:Place} {b q:Nat} (hB:∀b,B b→B' b) (hok:okSteps p.steps=true)
  (h0:p.steps≠[]→∀b0 o0 a l cp,L=.mem b0 o0→w.cell? ⟨b0,o0+p.off,none⟩=some (.slice a l cp)→w'.cell? ⟨b0,o0+p.off,none⟩=some (.slice a l cp))
  (h1:2≤p.steps.length→∀a0 len cap,hdr0 w L p.off (.slice (some ⟨a0,0,none⟩) len cap)→0<len→B a0→∀o a l cp,w.cell? ⟨a0,o,none⟩=some (.slice a l cp)→w'.cell? ⟨a0,o,none⟩=some (.slice a l cp))
  (h2:3≤sn p.steps→∀b o a l cp,B b→w.cell? ⟨b,o,none⟩=some (.slice a l cp)→w'.cell? ⟨b,o,none⟩=some (.slice a l cp))
  (h:walkP w B L p b q):walkP w' B' L p b q:=by
 unfold walkP at *
 cases L with
 | mem b0 o0=>
  dsimp only at *
  cases hs:p.steps with
  | nil=>rw [hs] at h;exact h
  | cons s r=>
   rw [hs] at h hok h0 h1 h2
   obtain ⟨n,es,so,cnt⟩:=s
   cases cnt with
   | some k=>exact ⟨h.1,walkH_arr r _ _ _ _ hok h.2⟩
   | none=>
    obtain ⟨a0,len,cap,g1,g2,g3,g4⟩:=h
    refine ⟨a0,len,cap,h0 (by simp) b0 o0 _ _ _ rfl g1,g2,hB _ g3,?_⟩
    cases r with
    | nil=>exact g4
    | cons s' r'=>exact walkH_first hB (h1 (by simp) a0 len cap g1 (by omega) g3) _ _ _ _ hok (fun hn=>h2 (by simp only [sn] at hn ⊢;omega)) g4
 | reg cs=>
  dsimp only at *
  split at h
  ·exact h
  ·rename_i s r hs
   obtain ⟨g0,a0,len,cap,g1,g2,g3,g4⟩:=h
   refine ⟨g0,a0,len,cap,g1,g2,hB _ g3,?_⟩
   rw [hs] at hok h1 h2
   simp only [okSteps,g0] at hok
   cases r with
   | nil=>exact g4
   | cons s' r'=>exact walkH_first hB (h1 (by simp) a0 len cap g1 (by omega) g3) _ _ _ _ hok (fun hn=>h2 (by simp only [sn,g0] at hn ⊢;omega)) g4
theorem hdrAt_stay {w w':World} {B B':Nat→Prop} {L:Loc} {p:Place} {a:Option Addr} {len cap:Nat} (hB:∀b,B b→B' b) (hok:p.steps.all (·.cnt.isNone)=true)
  (h0:∀b0 o0 a l cp,L=.mem b0 o0→w.cell? ⟨b0,o0+p.off,none⟩=some (.slice a l cp)→w'.cell? ⟨b0,o0+p.off,none⟩=some (.slice a l cp))
  (h1:p.steps≠[]→∀a0 len cap,hdr0 w L p.off (.slice (some ⟨a0,0,none⟩) len cap)→0<len→B a0→∀o a l cp,w.cell? ⟨a0,o,none⟩=some (.slice a l cp)→w'.cell? ⟨a0,o,none⟩=some (.slice a l cp))
  (h2:2≤p.steps.length→∀b o a l cp,B b→w.cell? ⟨b,o,none⟩=some (.slice a l cp)→w'.cell? ⟨b,o,none⟩=some (.slice a l cp))
  (h:hdrAt w B L p (.slice a len cap)):hdrAt w' B' L p (.slice a len cap):=by
 rcases hdrAt_cases h with ⟨cs,rfl,e2,e3⟩ | ⟨b,q,hw,hc⟩
 ·exact hdrAt_reg e2 e3
 ·have hw':=walkP_stay hB (okSteps_of_allnone hok) (fun _=>h0) (fun hl=>h1 (by intro e;rw [e] at hl;simp at hl)) (fun hl=>h2 (by have:=sn_le p.steps;omega)) hw
  refine hdrAt_walk hw' ?_
  cases hs:p.steps with
  | nil=>
   unfold walkP at hw
   cases L with
   | mem b0 o0=>
    rw [hs] at hw
    obtain ⟨rfl,rfl⟩:=hw
    exact h0 _ _ _ _ _ rfl hc
   | reg cs=>rw [hs] at hw;exact hw.elim
  | cons s r=>
   have hne:p.steps≠[]:=by rw [hs];simp
   have hBb:B b:=by
    unfold walkP at hw
    cases L with
    | mem b0 o0=>exact walkH_allnone _ _ _ _ _ hne hok hw
    | reg cs=>
     rw [hs] at hw
     obtain ⟨g0,a0,l0,cp0,g1,g2,g3,g4⟩:=hw
     exact walkH_end _ _ _ _ _ g3 g4
   cases r with
   | cons s' r'=>exact h2 (by rw [hs];simp) _ _ _ _ _ hBb hc
   | nil=>
    rw [hs] at hok
    obtain ⟨n,es,so,cnt⟩:=s
    cases cnt with
    | some k=>simp at hok
    | none=>
     unfold walkP at hw
     cases L with
     | mem b0 o0=>
      rw [hs] at hw
      obtain ⟨a0,l0,cp0,g1,g2,g3,rfl,g4⟩:=hw
      exact h1 hne _ _ _ g1 (by omega) g3 _ _ _ _ hc
     | reg cs=>
      rw [hs] at hw
      obtain ⟨_,a0,l0,cp0,g1,g2,g3,rfl,g4⟩:=hw
      dsimp only at g2
      exact h1 hne _ _ _ g1 (by omega) g3 _ _ _ _ hc
theorem keepsAll {w w':World} {B:Nat→Prop} {Hd:Nat→Nat→Nat→Prop} {n:Nat} (h:∀b o s l cp,B b→w.cell? ⟨b,o,none⟩=some (.slice s l cp)→w'.cell? ⟨b,o,none⟩=some (.slice s l cp)):
  (∀a0 len cap,Hd a0 len cap→0<len→B a0→∀o s l cp,w.cell? ⟨a0,o,none⟩=some (.slice s l cp)→w'.cell? ⟨a0,o,none⟩=some (.slice s l cp))∧
   (3≤n→∀b o s l cp,B b→w.cell? ⟨b,o,none⟩=some (.slice s l cp)→w'.cell? ⟨b,o,none⟩=some (.slice s l cp)):=
 ⟨fun a0 _ _ _ _ hb o s l cp hc=>h a0 o s l cp hb hc,fun _=>h⟩
section
variable {c:Ctx} {sl:Slots} {rt:Roots} {ρ:Nat→Loc} {Fo:Nat→List Nat} {X:List Nat} {a:Act} {w:World}
theorem RR.rewrite (h:RR c sl rt ρ Fo X a w) {r:Nat} {t t':Root} (hr:rt r=some t) {w':World} {b':Nat} {Fm F' X':List Nat} {Fn:List Nat}
  (hFm:∀b∈Fm,b∈Fo r) (hb':b'∈Fo r)
  (hos:w'.os=w.os) (htape:w'.tape=w.tape) (hout:w'.output=w.output) (hsize:w.heap.size≤w'.heap.size)
  (hkept:∀b,b<w.heap.size→b≠b'→b ∉ Fm→b ∉ X→Kept w w' b)
  (hkeep:∀b j,c.keep b j→w'.cell? ⟨b,j,none⟩=w.cell? ⟨b,j,none⟩)
  (hFn:∀b∈Fn,(b∈Fo r∧b ∉ Fm)∨b∈F') (hFF:∀b∈F',b∈Fn) (hFo:∀b∈Fo r,b∈Fn∨b∈Fm) (hF':∀b∈F',b∈Fm∨b∈X∨w.heap.size≤b) (hFsz:∀b∈F',b<w'.heap.size)
  (hX':∀b∈X',b∈X∨w.heap.size≤b) (hXsz:∀b∈X',b<w'.heap.size) (hnX:X'.Nodup) (hFX:∀b∈F',b ∉ X') (hnF:Fn.Nodup)
  (hτ:t'.τ=t.τ) (hv0:∀i,t.v0 i≤t'.v0 i) (hv1:∀i,t.v1 i≤t'.v1 i)
  (hc0:∀i b0 o0 s l cp,t'.v0 i=t.v0 i→ρ r=.mem b0 o0→w.cell? ⟨b0,o0+i,none⟩=some (.slice s l cp)→w'.cell? ⟨b0,o0+i,none⟩=some (.slice s l cp))
  (hc1:∀i,t'.v1 i=t.v1 i→(∀a0 len cap,hdr0 w (ρ r) i (.slice (some ⟨a0,0,none⟩) len cap)→0<len→Bof c w rt ρ Fo X r a0→∀o s l cp,w.cell? ⟨a0,o,none⟩=some (.slice s l cp)→w'.cell? ⟨a0,o,none⟩=some (.slice s l cp))∧
   (3≤sdep t.τ→∀b o s l cp,Bof c w rt ρ Fo X r b→w.cell? ⟨b,o,none⟩=some (.slice s l cp)→w'.cell? ⟨b,o,none⟩=some (.slice s l cp)))
  (hroot:(∀b,Stab c w rt Fo X b→Stab c w' (upd rt r (some t')) (updL Fo r Fn) X' b∧Kept w w' b)→
   (∀b,b<w'.heap.size→(Stab c w rt Fo X b∨b∈Fm∨w.heap.size≤b)→b ∉ F'→b ∉ X'→Stab c w' (upd rt r (some t')) (updL Fo r Fn) X' b)→
   RootOK c (Stab c w' (upd rt r (some t')) (updL Fo r Fn) X') w' (ρ r) Fn t'):
  RR c sl (upd rt r (some t')) ρ (updL Fo r Fn) X' a w':=by
 have hcase:∀k u,upd rt r (some t') k=some u→(k=r∧u=t')∨(k≠r∧rt k=some u):=fun k u hu=>by
  by_cases e:k=r
  ·subst e;rw [upd_same] at hu;cases hu;exact .inl ⟨rfl,rfl⟩
  ·rw [upd_ne e] at hu;exact .inr ⟨e,hu⟩
 have hne:∀k u,rt k=some u→k≠r→∀b∈Fo k,b≠b'∧b ∉ Fm:=fun k u hk e b hb=>
  ⟨fun e'=>h.disj k r u t hk hr e b hb (e'▸hb'),fun hm=>h.disj k r u t hk hr e b hb (hFm b hm)⟩
 have hkF:∀k u,rt k=some u→k≠r→∀b∈Fo k,Kept w w' b:=fun k u hk e b hb=>hkept b (h.inF k u hk b hb).1 (hne k u hk e b hb).1 (hne k u hk e b hb).2 (fun hx=>h.disjX b hx k u hk hb)
 have hkS:∀b,Stab c w rt Fo X b→Kept w w' b:=fun b hb=>hkept b hb.1 (fun e=>hb.2.2.1 r t hr (e▸hb')) (fun hm=>hb.2.2.1 r t hr (hFm b hm)) hb.2.2.2
 have hnew:∀b,b<w'.heap.size→(Stab c w rt Fo X b∨b∈Fm∨w.heap.size≤b)→b ∉ F'→b ∉ X'→Stab c w' (upd rt r (some t')) (updL Fo r Fn) X' b:=fun b hb ho hf hx=>by
  refine ⟨hb,?_,fun k u hk hm=>?_,hx⟩
  ·rcases ho with ho | ho | ho
   ·exact ho.2.1
   ·exact .inr (h.inF r t hr b (hFm b ho)).2
   ·exact .inr (.inr (Nat.le_trans h.size ho))
  ·rcases hcase k u hk with ⟨rfl,rfl⟩ | ⟨e,hk⟩
   ·rw [updL_same] at hm
    rcases hFn b hm with ⟨h1,h2⟩ | h1
    ·rcases ho with ho | ho | ho
     ·exact ho.2.2.1 k t hr h1
     ·exact h2 ho
     ·have:=(h.inF k t hr b h1).1;omega
    ·exact hf h1
   ·rw [updL_ne e] at hm
    rcases ho with ho | ho | ho
    ·exact ho.2.2.1 k u hk hm
    ·exact (hne k u hk e b hm).2 ho
    ·have:=(h.inF k u hk b hm).1;omega
 have hstab:∀b,Stab c w rt Fo X b→Stab c w' (upd rt r (some t')) (updL Fo r Fn) X' b∧Kept w w' b:=fun b hb=>
  ⟨hnew b (Nat.lt_of_lt_of_le hb.1 hsize) (.inl hb) (fun hf=>by
   rcases hF' b hf with h1 | h1 | h1
   ·exact hb.2.2.1 r t hr (hFm b h1)
   ·exact hb.2.2.2 h1
   ·have:=hb.1;omega) (fun hx=>by
   rcases hX' b hx with h1 | h1
   ·exact hb.2.2.2 h1
   ·have:=hb.1;omega),hkS b hb⟩
 have hBne:∀k,k≠r→∀b,Bof c w rt ρ Fo X k b→Bof c w' (upd rt r (some t')) ρ (updL Fo r Fn) X' k b:=fun k hk b hb=>by
  rcases hb with hb | ⟨h1,h2⟩
  ·exact .inl (hstab b hb).1
  ·exact .inr ⟨by rw [updL_ne hk];exact h1,h2⟩
 have hBr:∀b,Bof c w rt ρ Fo X r b→Bof c w' (upd rt r (some t')) ρ (updL Fo r Fn) X' r b:=fun b hb=>by
  rcases hb with hb | ⟨h1,h2⟩
  ·exact .inl (hstab b hb).1
  ·by_cases hm:b∈Fn
   ·exact .inr ⟨by rw [updL_same];exact hm,h2⟩
   ·rcases hFo b h1 with h3 | h3
    ·exact absurd h3 hm
    ·refine .inl (hnew b (Nat.lt_of_lt_of_le (h.inF r t hr b h1).1 hsize) (.inr (.inl h3)) (fun hf=>?_) (fun hx=>?_))
     ·exact hm (hFF b hf)
     ·rcases hX' b hx with h4 | h4
      ·exact h.disjX b h4 r t hr h1
      ·have:=(h.inF r t hr b h1).1;omega
 have hkne:∀b,b<w.heap.size→b ∉ Fo r→b ∉ X→Kept w w' b:=fun b hb hm hx=>hkept b hb (fun e=>hm (e▸hb')) (fun hm'=>hm (hFm b hm')) hx
 refine ⟨hos.trans h.os,htape.trans h.tape,hout.trans h.output,Nat.le_trans h.size hsize,fun b hb hb2=>?_,fun b j hj=>(hkeep b j hj).trans (h.keepc b j hj),h.keepl,fun k u hk=>?_,fun k u hk=>?_,fun k k' u u' hk hk' hkk b hb=>?_,fun k u hk b hb=>?_,hnX,fun b hb k u hk hm=>?_,
  fun b hb=>?_,fun b hb j hj=>?_,fun n u hu=>?_,fun n u hu=>?_,h.defers,h.tsz,fun k b q hk=>⟨(h.anch k b q hk).1,by
   by_cases e:k=r
   ·rw [e,upd_same];simp
   ·rw [upd_ne e];exact (h.anch k b q hk).2⟩⟩
 ·have:b ∉ Fo r:=fun hm=>by rcases (h.inF r t hr b hm).2 with h1 | h1;exact hb2 h1;omega
  exact (hkne b (by have:=h.size;omega) this (fun hx=>by rcases (h.inX b hx).2 with h1 | h1;exact hb2 h1;omega)).trans (h.frame b hb hb2)
 ·rcases hcase k u hk with ⟨rfl,rfl⟩ | ⟨e,hk⟩
  ·rw [updL_same];exact hroot hstab hnew
  ·rw [updL_ne e];exact (h.roots k u hk).mono hstab (hkF k u hk e)
 ·rcases hcase k u hk with ⟨rfl,rfl⟩ | ⟨e,hk⟩
  ·rw [updL_same];exact hnF
  ·rw [updL_ne e];exact h.nodup k u hk
 ·have cross:∀k u,rt k=some u→k≠r→∀b∈Fn,b ∉ Fo k:=fun k u hk e b hb hm=>by
   rcases hFn b hb with ⟨h1,_⟩ | h1
   ·exact h.disj r k t u hr hk (fun e'=>e e'.symm) b h1 hm
   ·rcases hF' b h1 with h2 | h2 | h2
    ·exact h.disj r k t u hr hk (fun e'=>e e'.symm) b (hFm b h2) hm
    ·exact h.disjX b h2 k u hk hm
    ·have:=(h.inF k u hk b hm).1;omega
  rcases hcase k u hk with ⟨e1,e2⟩ | ⟨e,hk0⟩
  ·rcases hcase k' u' hk' with ⟨e3,e4⟩ | ⟨e',hk0'⟩
   ·exact absurd (e1.trans e3.symm) hkk
   ·rw [e1,updL_same] at hb;rw [updL_ne e'];exact cross k' u' hk0' e' b hb
  ·rw [updL_ne e] at hb
   rcases hcase k' u' hk' with ⟨e3,e4⟩ | ⟨e',hk0'⟩
   ·rw [e3,updL_same];exact fun hb'=>cross k u hk0 e b hb' hb
   ·rw [updL_ne e'];exact h.disj k k' u u' hk0 hk0' hkk b hb
 ·rcases hcase k u hk with ⟨rfl,rfl⟩ | ⟨e,hk⟩
  ·rw [updL_same] at hb
   rcases hFn b hb with ⟨h1,_⟩ | h1
   ·exact ⟨Nat.lt_of_lt_of_le (h.inF k t hr b h1).1 hsize,(h.inF k t hr b h1).2⟩
   ·refine ⟨hFsz b h1,?_⟩
    rcases hF' b h1 with h2 | h2 | h2
    ·exact (h.inF k t hr b (hFm b h2)).2
    ·exact (h.inX b h2).2
    ·exact .inr (Nat.le_trans h.size h2)
  ·rw [updL_ne e] at hb
   exact ⟨Nat.lt_of_lt_of_le (h.inF k u hk b hb).1 hsize,(h.inF k u hk b hb).2⟩
 ·rcases hcase k u hk with ⟨rfl,rfl⟩ | ⟨e,hk⟩
  ·rw [updL_same] at hm
   rcases hFn b hm with ⟨h1,_⟩ | h1
   ·rcases hX' b hb with h2 | h2
    ·exact h.disjX b h2 k t hr h1
    ·have:=(h.inF k t hr b h1).1;omega
   ·exact hFX b h1 hb
  ·rw [updL_ne e] at hm
   rcases hX' b hb with h2 | h2
   ·exact h.disjX b h2 k u hk hm
   ·have:=(h.inF k u hk b hm).1;omega
 ·refine ⟨hXsz b hb,?_⟩
  rcases hX' b hb with h2 | h2
  ·exact (h.inX b h2).2
  ·exact .inr (Nat.le_trans h.size h2)
 ·rcases hX' b hb with h2 | h2
  ·exact h.keepX b h2 j hj
  ·have:=h.keepl b j hj;have:=h.size;omega
 ·have hP:∀p,PlaceOK rt p→∀b q,validP (upd rt r (some t')) p→validP rt p∧(walkP w (Bof c w rt ρ Fo X p.root) (ρ p.root) p b q→walkP w' (Bof c w' (upd rt r (some t')) ρ (updL Fo r Fn) X' p.root) (ρ p.root) p b q):=by
   intro p hp b q hv
   obtain ⟨h1,u',h2,h3,h4⟩:=hv
   rcases hcase _ _ h2 with ⟨e,rfl⟩ | ⟨e,h2⟩
   ·obtain ⟨t1,g1,g2,g3⟩:=hp
    rw [e,hr] at g1;cases g1
    have e0:p.steps≠[]→u'.v0 p.off=t.v0 p.off:=fun hs=>by have:=h3 hs;have:=hv0 p.off;omega
    have e1:2≤p.steps.length→u'.v1 p.off=t.v1 p.off:=fun hs=>by have:=h4.1 hs;have:=hv1 p.off;omega
    refine ⟨⟨h1,t,by rw [e];exact hr,fun hs=>by rw [←e0 hs];exact h3 hs,fun hs=>by rw [←e1 hs];exact h4.1 hs,by rw [←hτ];exact h4.2⟩,fun hw=>?_⟩
    rw [e] at hw ⊢
    exact walkP_stay hBr h1 (fun hs b0 o0 s l cp hL hcell=>hc0 _ b0 o0 s l cp (e0 hs) hL hcell) (fun hs=>(hc1 _ (e1 hs)).1) (fun hs=>(hc1 p.off (e1 (by have:=sn_le p.steps;omega))).2 (by rw [←hτ];exact Nat.le_trans hs h4.2)) hw
   ·refine ⟨⟨h1,u',h2,h3,h4⟩,fun hw=>?_⟩
    have hcB:∀b o s l cp,Bof c w rt ρ Fo X p.root b→w.cell? ⟨b,o,none⟩=some (.slice s l cp)→w'.cell? ⟨b,o,none⟩=some (.slice s l cp):=fun b o s l cp hb hcell=>by
     have hk:Kept w w' b:=by
      rcases hb with hb | hb
      ·exact hkS b hb
      ·exact hkF _ _ h2 e b hb.1
     rw [hk.cell];exact hcell
    refine walkP_stay (hBne _ e) h1 (fun hs b0 o0 s l cp hL hcell=>?_) (fun hs a0 _ _ _ _ hb o s l cp hcell=>hcB a0 o s l cp hb hcell) (fun _=>hcB) hw
    ·have hroot':=h.roots _ _ h2
     unfold RootOK at hroot'
     rw [hL] at hroot'
     obtain ⟨cs,F0,e0,_⟩:=hroot'
     rw [(hkF _ _ h2 e b0 (by rw [e0];exact List.mem_cons_self)).cell];exact hcell
  have hA:∀p,PlaceOK rt p→∀s l cp,validA (upd rt r (some t')) p→validA rt p∧(hdrAt w (Bof c w rt ρ Fo X p.root) (ρ p.root) p (.slice s l cp)→hdrAt w' (Bof c w' (upd rt r (some t')) ρ (updL Fo r Fn) X' p.root) (ρ p.root) p (.slice s l cp)):=by
   intro p hp s l cp hv
   obtain ⟨h1,u',h2,h3,h4⟩:=hv
   rcases hcase _ _ h2 with ⟨e,rfl⟩ | ⟨e,h2⟩
   ·obtain ⟨t1,g1,g2,g3⟩:=hp
    rw [e,hr] at g1;cases g1
    have e0:u'.v0 p.off=t.v0 p.off:=by have:=hv0 p.off;omega
    have e1:p.steps≠[]→u'.v1 p.off=t.v1 p.off:=fun hs=>by have:=h4.1 hs;have:=hv1 p.off;omega
    refine ⟨⟨h1,t,by rw [e];exact hr,by rw [←e0];exact h3,fun hs=>by rw [←e1 hs];exact h4.1 hs,by rw [←hτ];exact h4.2⟩,fun hw=>?_⟩
    rw [e] at hw ⊢
    exact hdrAt_stay hBr h1 (fun b0 o0 s l cp hL hcell=>hc0 _ b0 o0 s l cp e0 hL hcell) (fun hs=>(hc1 _ (e1 hs)).1) (fun hs=>(hc1 p.off (e1 (by intro e';rw [e'] at hs;simp at hs))).2 (by rw [←hτ];exact Nat.le_trans (by omega) h4.2)) hw
   ·refine ⟨⟨h1,u',h2,h3,h4⟩,fun hw=>?_⟩
    have hcB:∀b o s l cp,Bof c w rt ρ Fo X p.root b→w.cell? ⟨b,o,none⟩=some (.slice s l cp)→w'.cell? ⟨b,o,none⟩=some (.slice s l cp):=fun b o s l cp hb hcell=>by
     have hk:Kept w w' b:=by
      rcases hb with hb | hb
      ·exact hkS b hb
      ·exact hkF _ _ h2 e b hb.1
     rw [hk.cell];exact hcell
    refine hdrAt_stay (hBne _ e) h1 (fun b0 o0 s l cp hL hcell=>?_) (fun hs a0 _ _ _ _ hb o s l cp hcell=>hcB a0 o s l cp hb hcell) (fun _=>hcB) hw
    ·have hroot':=h.roots _ _ h2
     unfold RootOK at hroot'
     rw [hL] at hroot'
     obtain ⟨cs,F0,e0,_⟩:=hroot'
     rw [(hkF _ _ h2 e b0 (by rw [e0];exact List.mem_cons_self)).cell];exact hcell
  exact VR.later (N:=PlaceOK rt) (E:=envOf c sl rt ρ Fo X w) (E':=envOf c sl (upd rt r (some t')) ρ (updL Fo r Fn) X' w') ⟨hstab,fun p b q hp hv=>hP p hp b q hv,fun p s l cp hp hv=>hA p hp s l cp hv⟩ u _ (fun _ _=>rfl) (h.named n u hu) (h.slots n u hu)
 ·refine V.holds_mono (fun p hp=>?_) u (h.named n u hu)
  obtain ⟨t1,g1,g2,g3⟩:=hp
  by_cases e:p.root=r
  ·rw [e,hr] at g1;cases g1
   exact ⟨t',by rw [e,upd_same],Nat.le_trans g2 (hv0 _),Nat.le_trans g3 (hv1 _)⟩
  ·exact ⟨t1,by rw [upd_ne e];exact g1,g2,g3⟩
end
end Go.Rd
namespace Go.Rd
def noDead:Ty→Ow→Bool
 | .prod a b,o=>noDead a o.fst&&noDead b o.snd
 | .st t,o=>noDead t o
 | .unit,_=>true
 | _,.dead=>false
 | _,_=>true
theorem noDead_imm:(τ:Ty)→noDead τ .imm=true
 | .prod a b=>by simp only [noDead,Ow.fst,Ow.snd,noDead_imm a,noDead_imm b,Bool.and_self]
 | .st t=>noDead_imm t
 | .unit=>rfl
 | .int _=>rfl
 | .bool=>rfl
 | .str=>rfl
 | .slice _=>rfl
 | .arr _ _=>rfl
theorem Rep.hdr_in {S:Nat→Prop} {w:World}:{τ:Ty}→{o:Ow}→{cs:List Value}→{x:τ.den}→{F:List Nat}→Rep S w τ o cs x F→noDead τ o=true→∀{i:Nat} {a0 len cap:Nat},cs[i]?=some (.slice (some ⟨a0,0,none⟩) len cap)→0<len→a0∈F∨S a0
 | .int _,o,cs,_,_,h,hn,i,a0,len,cap,hi,_=>by
  have:=(h.2.2 (by rintro rfl;simp [noDead] at hn)).1
  rw [this] at hi
  cases i<;>simp at hi
 | .bool,o,cs,_,_,h,hn,i,a0,len,cap,hi,_=>by
  have:=(h.2.2 (by rintro rfl;simp [noDead] at hn))
  rw [this] at hi
  cases i<;>simp at hi
 | .str,o,cs,_,_,h,hn,i,a0,len,cap,hi,_=>by
  have:=(h.2.2 (by rintro rfl;simp [noDead] at hn)).1
  rw [this] at hi
  cases i<;>simp at hi
 | .unit,_,_,_,_,h,_,i,_,_,_,hi,_=>by rw [h.1] at hi;simp at hi
 | .prod a b,o,_,x,_,⟨c1,c2,F1,F2,hc,hf,h1,h2⟩,hn,i,a0,len,cap,hi,hl=>by
  simp only [noDead,Bool.and_eq_true] at hn
  rw [hc] at hi
  rw [hf]
  by_cases hlt:i<c1.length
  ·rw [List.getElem?_append_left hlt] at hi
   rcases Rep.hdr_in h1 hn.1 hi hl with h | h
   ·exact .inl (List.mem_append_left _ h)
   ·exact .inr h
  ·rw [List.getElem?_append_right (by omega)] at hi
   rcases Rep.hdr_in h2 hn.2 hi hl with h | h
   ·exact .inl (List.mem_append_right _ h)
   ·exact .inr h
 | .st t,_,_,_,_,h,hn,_,_,_,_,hi,hl=>Rep.hdr_in (τ:=t) h hn hi hl
 | .arr k e,o,cs,x,_,h,hn,i,a0,len,cap,hi,hl=>by
  obtain ⟨h1,h2,h3⟩:=h
  obtain ⟨g1,g2⟩:=h3 (by rintro rfl;simp [noDead] at hn)
  have hlt:=(List.getElem?_eq_some_iff.1 hi).1
  rw [h2] at hlt
  have he:0<e.size:=by
   rcases Nat.eq_zero_or_pos e.size with hz | hz
   ·rw [hz] at hlt;omega
   ·exact hz
  have hk:i / e.size<k:=(Nat.div_lt_iff_lt_mul he).2 hlt
  have hx:i / e.size<List.length x:=by rw [g1];exact hk
  have hr:=g2 (i / e.size) x[i / e.size] (List.getElem?_eq_getElem hx)
  right
  rcases Rep.hdr_in (i:=i % e.size) hr (noDead_imm e) (by
   rw [List.getElem?_take_of_lt (Nat.mod_lt _ he),List.getElem?_drop,Nat.div_add_mod']
   exact hi) hl with h | h
  ·simp at h
  ·exact h
 | .slice e,o,cs,x,F,h,hn,i,a0,len,cap,hi,hl=>by
  have imm:(F=[]∧∃a cap,cs=[.slice a (List.length x) cap]∧List.length x≤cap∧List.length x≤LMAX∧
    (x=[]∨∃b off,a=some ⟨b,off,none⟩∧S b∧∀(i:Nat) (y:e.den),(x:List e.den)[i]?=some y→
     ∃ci,At w b (off+i * e.size) ci∧Rep S w e .imm ci y []))→a0∈F∨S a0:=by
   rintro ⟨_,a,cp,rfl,_,_,h⟩
   have hi0:i=0:=by have:=(List.getElem?_eq_some_iff.1 hi).1;simpa using this
   subst hi0
   simp only [List.getElem?_cons_zero,Option.some.injEq,Value.slice.injEq] at hi
   obtain ⟨rfl,rfl,rfl⟩:=hi
   rcases h with rfl | ⟨b,off,ha,hb,_⟩
   ·simp at hl
   ·simp only [Option.some.injEq,Addr.mk.injEq,and_true] at ha
    rw [ha.1];exact .inr hb
  cases o with
  | dead=>simp [noDead] at hn
  | imm=>exact imm h
  | pr _ _=>exact imm h
  | own hh oe=>
   obtain ⟨a,cp,rfl,_,_,h⟩:=h
   have hi0:i=0:=by have:=(List.getElem?_eq_some_iff.1 hi).1;simpa using this
   subst hi0
   simp only [List.getElem?_cons_zero,Option.some.injEq,Value.slice.injEq] at hi
   obtain ⟨rfl,rfl,rfl⟩:=hi
   rcases h with ⟨ha,_⟩ | ⟨b,Fs,ha,hf,_⟩
   ·simp at ha
   ·simp only [Option.some.injEq,Addr.mk.injEq,and_true] at ha
    rw [hf,ha];exact .inl List.mem_cons_self
def Root.holed (t:Root) (o:Ow) (x:t.τ.den):Root:={ t with o:=o,x:=x,v0:=fun i=>if Nat.blt i t.τ.size then t.v0 i else t.v0 i+1,v1:=fun i=>t.v1 i+1 }
theorem Rep.holed {S:Nat→Prop} {w:World} {e:Ty} {oe:Ow} {m:List Value} {xs:List e.den} {F:List Nat} {n:Nat} (h:Rep S w (.slice e) (.own none oe) m xs F) (hn:n<xs.length):
  ∃F' Y b len cap ci,m=[.slice (some ⟨b,0,none⟩) len cap]∧F.Perm (F'++Y)∧b∈F'∧At w b (n * e.size) ci∧Rep S w e oe ci xs[n] Y∧∀S':Nat→Prop,(∀b,S b→S' b)→Rep S' w (.slice e) (.own (some n) oe) m xs F':=by
 obtain ⟨a,cap,hc,hlen,hmax,h⟩:=h
 rcases h with ⟨ha,hcap,hf⟩ | ⟨b,Fs,ha,hf,hFs,hcap,hfz,h⟩
 ·omega
 ·subst ha hf
  have hnF:n<Fs.length:=by rw [hFs];exact hn
  obtain ⟨_,h2⟩:=h n _ Fs[n] (List.getElem?_eq_getElem hn) (List.getElem?_eq_getElem hnF)
  obtain ⟨ci,hci,hri⟩:=h2 (by simp)
  refine ⟨b::(Fs.set n []).flatten,Fs[n],b,_,cap,ci,hc,?_,List.mem_cons_self,hci,hri,fun S' hS=>⟨some ⟨b,0,none⟩,cap,hc,hlen,hmax,.inr ⟨b,Fs.set n [],rfl,rfl,by simpa using hFs,hcap,hfz,fun i y Fi hy hFi=>⟨fun hi=>?_,fun hi=>?_⟩⟩⟩⟩
  ·refine List.Perm.cons b ?_
   have h1:=flatten_perm (List.getElem?_eq_getElem hnF)
   have h2:=flatten_set_perm (a':=[]) (List.getElem?_eq_getElem hnF)
   rw [List.nil_append] at h2
   exact h1.trans (List.perm_append_comm.trans (h2.symm.append_right _))
  ·simp only [Option.some.injEq] at hi
   subst hi
   rw [List.getElem?_set_self hnF] at hFi
   cases hFi;rfl
  ·rw [List.getElem?_set_ne (fun e=>hi (by rw [e]))] at hFi
   obtain ⟨_,h2'⟩:=h i y Fi hy hFi
   obtain ⟨c',hc',hr'⟩:=h2' (by simp)
   exact ⟨c',hc',hr'.mono (fun b hb=>⟨hS b hb,rfl⟩) (fun _ _=>rfl)⟩
theorem holeP {Fp Fm Fq Fh Y:List Nat} (hperm:Fm.Perm (Fh++Y)):(Fp++Fm++Fq).Perm ((Fp++Fh++Fq)++Y):=by
 have:(Fp++Fm++Fq).Perm (Fp++(Fh++Y)++Fq):=(hperm.append_left Fp).append_right Fq
 refine this.trans ?_
 have e1:Fp++(Fh++Y)++Fq=Fp++(Fh++(Y++Fq)):=by simp
 have e2:(Fp++Fh++Fq)++Y=Fp++(Fh++(Fq++Y)):=by simp
 rw [e1,e2]
 exact ((List.perm_append_comm (l₁:=Y) (l₂:=Fq)).append_left Fh).append_left Fp
section
variable {c:Ctx} {sl:Slots} {rt:Roots} {ρ:Nat→Loc} {Fo:Nat→List Nat} {X:List Nat} {a:Act} {w:World}
theorem RR.hole (h:RR c sl rt ρ Fo X a w) {r:Nat} {t:Root} (hr:rt r=some t) {e:Ty} {off:Nat} {oe:Ow} {xs:List e.den} (hsub:subAt (.slice e) t.τ t.o t.x off=some (.own none oe,xs))
  {n:Nat} (hn:n<xs.length) {o3:Ow} {x3:t.τ.den} (hset:setAt (.slice e) (.own (some n) oe,xs) t.τ t.o t.x off=some (o3,x3)) (hnd0:noDead t.τ o3=true):
  ∃Fo' Y m,RR c sl (upd rt r (some (t.holed o3 x3))) ρ Fo' (Y++X) a w∧Rep (Stab c w (upd rt r (some (t.holed o3 x3))) Fo' (Y++X)) w e oe m xs[n] Y∧
   (∀b,Stab c w rt Fo X b→Stab c w (upd rt r (some (t.holed o3 x3))) Fo' (Y++X) b)∧
   ∀(p:Place) (so:Nat) (B:Nat→Prop) (b q:Nat),p.off=off→p.steps=[⟨n,e.size,so,none⟩]→walkP w B (ρ r) p b q→∃q0,q=q0+so∧At w b q0 m:=by
 have hroot:=h.roots r t hr
 have hnd:=h.nodup r t hr
 unfold RootOK at hroot
 have fl:∀F' Y:List Nat,(∀b∈F',b∈Fo r)→(∀b∈Y,b∈Fo r)→∀b,Stab c w rt Fo X b→Stab c w (upd rt r (some (t.holed o3 x3))) (updL Fo r F') (Y++X) b∧Kept w w b:=fun F' Y hF' hY b hb=>
  ⟨hb.flows ⟨fun k u hk b hb=>by
   by_cases e:k=r
   ·subst e;rw [updL_same] at hb;exact .inl ⟨k,t,hr,hF' b hb⟩
   ·rw [upd_ne e] at hk;rw [updL_ne e] at hb;exact .inl ⟨k,u,hk,hb⟩,fun b hb=>by
   rcases List.mem_append.1 hb with hb | hb
   ·exact .inl ⟨r,t,hr,hY b hb⟩
   ·exact .inr (.inl hb)⟩ (Nat.le_refl _),rfl⟩
 cases hL:ρ r with
 | mem b0 o0=>
  rw [hL] at hroot
  obtain ⟨cs,F,eF,hat,hfz,hrep,hk1,hk2⟩:=hroot
  obtain ⟨p,m,q,Fp,Fm,Fq,hc,hp,hf,hm,hupd⟩:=subAt_focus hsub hrep
  subst hc hf
  obtain ⟨Fh,Y,b,len,cap,ci,hmc,hperm,hbF,hci,hri,hrh⟩:=hm.holed hn
  rw [eF] at hnd
  have hP:(b0::(Fp++Fm++Fq)).Perm ((b0::(Fp++Fh++Fq))++Y):=(holeP hperm).cons b0
  have hnd2:=List.nodup_append.1 (hP.nodup_iff.1 hnd)
  have hF':∀b∈b0::(Fp++Fh++Fq),b∈Fo r:=fun b hb=>by rw [eF];exact hP.mem_iff.2 (List.mem_append_left _ hb)
  have hY:∀b∈Y,b∈Fo r:=fun b hb=>by rw [eF];exact hP.mem_iff.2 (List.mem_append_right _ hb)
  have hFY:∀b∈b0::(Fp++Fh++Fq),b ∉ Y:=fun b hb hb'=>hnd2.2.2 b hb b hb' rfl
  have hYk:∀b∈Y,b∈Fp++Fm++Fq:=fun b hb=>by
   have h1:=hY b hb
   rw [eF] at h1
   rcases List.mem_cons.1 h1 with rfl | h1
   ·exact absurd hb (hFY _ List.mem_cons_self)
   ·exact h1
  have hFk:∀b∈Fp++Fh++Fq,b∈Fp++Fm++Fq:=fun b hb=>(holeP hperm).mem_iff.2 (List.mem_append_left _ hb)
  have hcell:∀i,i<t.τ.size→∀v,w.cell? ⟨b0,o0+i,none⟩=some v→(p++m++q)[i]?=some v:=fun i hi v hv=>by
   have hlt:i<(p++m++q).length:=by rw [hrep.length];exact hi
   have:=hat i _ (List.getElem?_eq_getElem hlt)
   rw [hv] at this
   rw [List.getElem?_eq_getElem hlt];exact this.symm
  have hnew:=hupd _ w (.own (some n) oe,xs) m Fh (o3,x3) hset (fl _ _ hF' hY) (fun _ _=>rfl) (hrh _ fun b hb=>(fl _ _ hF' hY b hb).1)
  refine ⟨_,Y,ci,h.reroot (t':=t.holed o3 x3) (Y:=Y) hr hF' hY hnd2.1 hnd2.2.1 hFY (fun b hb=>hk2 b (hYk b hb)) rfl (fun i=>by
    simp only [Root.holed];split<;>omega) (fun i=>Nat.le_succ _)
   (fun b o e'=>by rw [hL] at e';simp only [Loc.mem.injEq] at e';rw [←e'.1];exact List.mem_cons_self) ?_ (.inr ⟨fun _=>rfl,fun i=>?_⟩),hri.mono (fl _ _ hF' hY) (fun _ _=>rfl),fun b hb=>(fl _ _ hF' hY b hb).1,fun pl so B b1 q1 h1 h2 hw=>?_⟩
  ·rw [hL]
   exact ⟨_,Fp++Fh++Fq,rfl,hat,hfz,hnew,hk1,fun b hb=>hk2 b (hFk b hb)⟩
  ·simp only [Root.holed]
   cases hi:Nat.blt i t.τ.size with
   | false=>exact .inr rfl
   | true=>
    rw [Nat.blt_eq] at hi
    refine .inl ⟨rfl,fun a0 len cap hh hl ha=>?_⟩
    rw [hL] at hh
    have hc:=hcell i hi _ hh
    rcases (hnew).hdr_in hnd0 hc hl with h3 | h3
    ·exact List.mem_cons_of_mem _ h3
    ·rw [eF] at ha
     rcases List.mem_append.1 (hP.mem_iff.1 ha) with h4 | h4
     ·exact h4
     ·exact absurd (List.mem_append_left _ h4) h3.2.2.2
  ·unfold walkP at hw
   rw [h2] at hw
   obtain ⟨a0,len',cap',g1,g2,_,g4⟩:=hw
   rw [h1,←hp] at g1
   have hc:=hcell p.length (by have:=hrep.length;rw [hmc] at this;simp at this;omega) _ g1
   rw [hmc] at hc
   simp at hc
   obtain ⟨⟨rfl,_⟩,_⟩:=hc
   obtain ⟨rfl,rfl⟩:=g4
   exact ⟨_,rfl,hci⟩
 | reg cs=>
  rw [hL] at hroot
  obtain ⟨hrep,hk2⟩:=hroot
  obtain ⟨p,m,q,Fp,Fm,Fq,hc,hp,hf,hm,hupd⟩:=subAt_focus hsub hrep
  subst hc
  obtain ⟨Fh,Y,b,len,cap,ci,hmc,hperm,hbF,hci,hri,hrh⟩:=hm.holed hn
  rw [hf] at hnd
  have hP:=holeP (Fp:=Fp) (Fq:=Fq) hperm
  have hnd2:=List.nodup_append.1 (hP.nodup_iff.1 hnd)
  have hF':∀b∈Fp++Fh++Fq,b∈Fo r:=fun b hb=>by rw [hf];exact hP.mem_iff.2 (List.mem_append_left _ hb)
  have hY:∀b∈Y,b∈Fo r:=fun b hb=>by rw [hf];exact hP.mem_iff.2 (List.mem_append_right _ hb)
  have hFY:∀b∈Fp++Fh++Fq,b ∉ Y:=fun b hb hb'=>hnd2.2.2 b hb b hb' rfl
  have hnew:=hupd _ w (.own (some n) oe,xs) m Fh (o3,x3) hset (fl _ _ hF' hY) (fun _ _=>rfl) (hrh _ fun b hb=>(fl _ _ hF' hY b hb).1)
  refine ⟨_,Y,ci,h.reroot (t':=t.holed o3 x3) (Y:=Y) hr hF' hY hnd2.1 hnd2.2.1 hFY (fun b hb=>hk2 b (hY b hb)) rfl (fun i=>by
    simp only [Root.holed];split<;>omega) (fun i=>Nat.le_succ _)
   (fun b o e'=>by rw [hL] at e';simp at e') ?_ (.inr ⟨fun _=>rfl,fun i=>?_⟩),hri.mono (fl _ _ hF' hY) (fun _ _=>rfl),fun b hb=>(fl _ _ hF' hY b hb).1,fun pl so B b1 q1 h1 h2 hw=>?_⟩
  ·rw [hL]
   exact ⟨hnew,fun b hb=>hk2 b (hF' b hb)⟩
  ·simp only [Root.holed]
   cases hi:Nat.blt i t.τ.size with
   | false=>exact .inr rfl
   | true=>
    refine .inl ⟨rfl,fun a0 len cap hh hl ha=>?_⟩
    rw [hL] at hh
    rcases (hnew).hdr_in hnd0 hh hl with h3 | h3
    ·exact h3
    ·rw [hf] at ha
     rcases List.mem_append.1 (hP.mem_iff.1 ha) with h4 | h4
     ·exact h4
     ·exact absurd (List.mem_append_left _ h4) h3.2.2.2
  ·unfold walkP at hw
   rw [h2] at hw
   obtain ⟨_,a0,len',cap',g1,g2,_,g4⟩:=hw
   rw [h1,←hp,hmc] at g1
   simp at g1
   obtain ⟨⟨rfl,_⟩,_⟩:=g1
   obtain ⟨rfl,rfl⟩:=g4
   exact ⟨_,rfl,hci⟩
end
end Go.Rd
namespace Go.Rd
inductive Pr (α:Type):Type 1 where
 | fail
 | ret (a:α)
 | asrt (b:Bool) (k:Pr α)
 | bind {β:Type} (d:β) (x:Option β) (k:β→Pr α)
 | ite (b:Bool) (x y:Pr α)
inductive Yields {α:Type}:Pr α→α→Prop where
 | ret (a:α):Yields (.ret a) a
 | asrt {b:Bool} {k:Pr α} {a:α}:b=true→Yields k a→Yields (.asrt b k) a
 | bind {β:Type} {d:β} {x:Option β} {k:β→Pr α} {y:β} {a:α}:x=some y→Yields (k y) a→Yields (.bind d x k) a
 | ite {b:Bool} {x y:Pr α} {a:α}:(b=true→Yields x a)→(b=false→Yields y a)→Yields (.ite b x y) a
def Pr.ofOpt {α:Type}:Option α→Pr α
 | none=>.fail
 | some a=>.ret a
def Pr.andThen {α β:Type}:Pr α→(α→Pr β)→Pr β
 | .fail,_=>.fail
 | .ret a,f=>f a
 | .asrt b k,f=>.asrt b (k.andThen f)
 | .bind d x k,f=>.bind d x fun y=>(k y).andThen f
 | .ite b x y,f=>.ite b (x.andThen f) (y.andThen f)
theorem Yields.andThen {α β:Type} {f:α→Pr β} {b:β} (p:Pr α):Yields (p.andThen f) b→∃a,Yields p a∧Yields (f a) b:=by
 induction p with
 | fail=>intro h;simp only [Pr.andThen] at h;cases h
 | ret a=>exact fun h=>⟨a,.ret a,h⟩
 | asrt c k ih=>
  intro h
  simp only [Pr.andThen] at h
  cases h with
  | asrt hc hk=>obtain ⟨a,h1,h2⟩:=ih hk;exact ⟨a,.asrt hc h1,h2⟩
 | bind d x k ih=>
  intro h
  simp only [Pr.andThen] at h
  cases h with
  | bind hx hk=>obtain ⟨a,h1,h2⟩:=ih _ hk;exact ⟨a,.bind hx h1,h2⟩
 | ite c x y ih1 ih2=>
  intro h
  simp only [Pr.andThen] at h
  cases h with
  | ite h1 h2=>
   cases c with
   | true=>obtain ⟨a,k1,k2⟩:=ih1 (h1 rfl);exact ⟨a,.ite (fun _=>k1) (fun h=>by cases h),k2⟩
   | false=>obtain ⟨a,k1,k2⟩:=ih2 (h2 rfl);exact ⟨a,.ite (fun h=>by cases h) (fun _=>k1),k2⟩
theorem Yields.ofOpt {α:Type} {o:Option α} {a:α} (h:Yields (Pr.ofOpt o) a):o=some a:=by
 cases o with
 | none=>cases h
 | some b=>cases h;rfl
structure Dl where
 d:Option (Nat×Option V)
 rt:List (Nat×Root)
def lk (us:List (Nat×Root)) (rt:Roots):Roots:=match us with
 | []=>rt
 | (r,t)::l=>upd (lk l rt) r (some t)
def Dl.slots (Δ:Dl) (sl:Slots):Slots:=match Δ.d with
 | none=>sl
 | some (n,v)=>upd sl n v
abbrev Tab:=Nat→Option Ty
def fieldOff:Ty→Nat→Option (Nat×Ty)
 | .prod a _,0=>some (0,a)
 | .prod a b,f+1=>(fieldOff b f).map fun r=>(a.size+r.1,r.2)
 | .unit,_=>none
 | τ,0=>some (0,τ)
 | _,_=>none
def shiftLast (k:Nat):List Step→List Step
 | []=>[]
 | [s]=>[{ s with off:=s.off+k }]
 | s::r=>s::shiftLast k r
def Place.shift (p:Place) (k:Nat):Place:=match p.steps with
 | []=>{ p with off:=p.off+k,s0:=0,s1:=0 }
 | l=>{ p with steps:=shiftLast k l }
def okP (rt:Roots) (p:Place):Bool:=okSteps p.steps&&match rt p.root with
 | some t=>(p.steps.isEmpty||Nat.beq (t.v0 p.off) p.s0)&&(Nat.ble p.steps.length 1||Nat.beq (t.v1 p.off) p.s1)&&Nat.ble (sn p.steps) (sdep t.τ)
 | none=>false
def okA (rt:Roots) (p:Place):Bool:=p.steps.all (·.cnt.isNone)&&match rt p.root with
 | some t=>Nat.beq (t.v0 p.off) p.s0&&(p.steps.isEmpty||Nat.beq (t.v1 p.off) p.s1)&&Nat.ble (p.steps.length+1) (sdep t.τ)
 | none=>false
def Ty.hasSlice:Ty→Bool
 | .slice _=>true
 | .prod a b=>a.hasSlice||b.hasSlice
 | .st t=>t.hasSlice
 | .arr _ e=>e.hasSlice
 | _=>false
def allImm:Ty→Ow→Bool
 | .slice _,.imm=>true
 | .slice _,_=>false
 | .prod a b,o=>allImm a o.fst&&allImm b o.snd
 | .st t,o=>allImm t o
 | .unit,_=>true
 | _,.dead=>false
 | _,_=>true
def Ow.full:Ty→Ow
 | .slice e=>.own none (Ow.full e)
 | .prod a b=>.pr (Ow.full a) (Ow.full b)
 | .st t=>Ow.full t
 | _=>.imm
def Place.now (p:Place) (t:Root):Place:={ p with s0:=t.v0 p.off,s1:=if p.steps.isEmpty then 0 else t.v1 p.off }
def leavesV (t:Root):(σ:Ty)→Ow→σ.den→Place→Option (List V)
 | .slice e,.own none _,_,p=>some [.ali (p.now t) e none]
 | .slice e,.imm,y,_=>some [.dat (.slice e) y]
 | .slice _,_,_,_=>none
 | .prod a b,o,y,p=>
  match leavesV t a o.fst y.1 p,leavesV t b o.snd y.2 (p.shift a.size) with
  | some l,some m=>some (l++m)
  | _,_=>none
 | .st s,o,y,p=>leavesV t s o y p
 | .unit,_,_,_=>some []
 | .arr _ _,_,_,_=>none
 | _,.dead,_,_=>none
 | .int k,_,y,_=>some [.dat (.int k) y]
 | .bool,_,y,_=>some [.dat .bool y]
 | .str,_,y,_=>some [.dat .str y]
def ldV (t:Root) (σ:Ty) (o:Ow) (y:σ.den) (p:Place):Option V:=
 if allImm σ o then some (.dat σ y) else
 match σ with
 | .slice e=>match o with
  | .own _ _=>some (.ali (p.now t) e none)
  | _=>none
 | .st s=>(leavesV t s o y p).map (.mix (.st s))
 | _=>none
def cutL {α:Type} (rg:Option (Nat×Nat)) (l:List α):List α:=match rg with
 | none=>l
 | some (lo,hi)=>(l.drop lo).take (hi-lo)
def rdA (rt:Roots) (p:Place) (e:Ty) (rg:Option (Nat×Nat)):Option (List e.den):=
 if okA rt p then
  match rt p.root with
  | some t=>match look (.slice e) p.steps t.τ t.o t.x p.off with
   | some (o,y)=>if wk (.slice e) .imm o then some (cutL rg y) else none
   | none=>none
  | none=>none
 else none
def isSt:Ty→Bool
 | .st _=>true
 | _=>false
end Go.Rd
namespace Go.Rd
def modO (f:Ty→Ow→Ow):Ty→Ow→Nat→Ow
 | .slice e,o,off=>if Nat.beq off 0 then f e o else o
 | .prod a b,o,off=>if Nat.ble a.size off then .pr o.fst (modO f b o.snd (off-a.size)) else .pr (modO f a o.fst off) o.snd
 | .st t,o,off=>modO f t o off
 | _,o,_=>o
def imAt:List Step→Ty→Ow→Nat→Ow
 | [],τ,o,off=>modO (fun _ _=>.imm) τ o off
 | s::r,τ,o,off=>modO (fun e o=>match o with
  | .own none oe=>.own none (imAt r e oe s.off)
  | _=>.dead) τ o off
def setO (σ:Ty) (m:Ow):Ty→Ow→Nat→Ow
 | .prod a b,o,off=>if (Ty.prod a b).beq σ then m else if Nat.ble a.size off then .pr o.fst (setO σ m b o.snd (off-a.size)) else .pr (setO σ m a o.fst off) o.snd
 | .st t,o,off=>if (Ty.st t).beq σ then m else setO σ m t o off
 | _,_,_=>m
def owAt (σ:Ty) (m:Ow):List Step→Ty→Ow→Nat→Ow
 | [],τ,o,off=>setO σ m τ o off
 | s::r,τ,o,off=>modO (fun e o=>match o with
  | .own none oe=>.own none (owAt σ m r e oe s.off)
  | _=>.dead) τ o off
def meet:Ty→Ow→Ow→Ow
 | .slice e,.own none a,.own none b=>.own none (meet e a b)
 | .slice _,_,_=>.imm
 | .prod a b,o,o'=>.pr (meet a o.fst o'.fst) (meet b o.snd o'.snd)
 | .st t,o,o'=>meet t o o'
 | _,_,_=>.imm
def fromStart:Option (Nat×Nat)→Bool
 | none=>true
 | some (lo,_)=>Nat.beq lo 0
def grabF (rt:Roots) (us:List (Nat×Root)) (mv:Bool) (σ:Ty):V→Option (Ow×σ.den×List (Nat×Root))
 | .dat τ x=>if h:τ.beq σ=true then some (.imm,recast h x,us) else none
 | .nils=>match σ with
  | .slice e=>some (.own none (Ow.full e),[],us)
  | _=>none
 | .ali p e rg=>if h:(Ty.slice e).beq σ=true then
   (if okA rt p then
    match lk us rt p.root with
    | some t=>match look (.slice e) p.steps t.τ t.o t.x p.off with
     | some (.imm,y)=>some (.imm,recast h (cutL rg y),us)
     | some (.own none oe,y)=>
      if p.steps.isEmpty&&(rg.isNone&&(mv||t.reg)||(mv&&fromStart rg)) then
       match setAt (.slice e) (.dead,y) t.τ t.o t.x p.off with
       | some (o3,x3)=>some (.own none oe,recast h (cutL rg y),(p.root,t.taken o3 x3)::us)
       | none=>none
      else if wk t.τ (imAt p.steps t.τ t.o p.off) t.o then some (.imm,recast h (cutL rg y),(p.root,{ t with o:=imAt p.steps t.τ t.o p.off })::us) else none
     | _=>none
    | none=>none
   else none) else none
 | _=>none
def grabL (rt:Roots) (mv:Bool):(σ:Ty)→List (Nat×Root)→List V→Option (Ow×σ.den×List (Nat×Root)×List V)
 | .prod a b,us,l=>match grabL rt mv a us l with
  | some (oa,x,us',r)=>match grabL rt mv b us' r with
   | some (ob,y,us'',r')=>some (.pr oa ob,(x,y),us'',r')
   | none=>none
  | none=>none
 | .st t,us,l=>grabL rt mv t us l
 | .unit,us,l=>some (.imm,(),us,l)
 | .int k,us,v::r=>(grabF rt us mv (.int k) v).map fun y=>(y.1,y.2.1,y.2.2,r)
 | .bool,us,v::r=>(grabF rt us mv .bool v).map fun y=>(y.1,y.2.1,y.2.2,r)
 | .str,us,v::r=>(grabF rt us mv .str v).map fun y=>(y.1,y.2.1,y.2.2,r)
 | .slice e,us,v::r=>(grabF rt us mv (.slice e) v).map fun y=>(y.1,y.2.1,y.2.2,r)
 | _,_,_=>none
def grab (rt:Roots) (us:List (Nat×Root)) (mv:Bool) (σ:Ty):V→Option (Ow×σ.den×List (Nat×Root))
 | .mix τ l=>if τ.beq σ&&isSt σ then (match grabL rt mv σ us l with
  | some (o,y,us',[])=>some (o,y,us')
  | _=>none) else none
 | v=>grabF rt us mv σ v
def bump0 (f:Nat→Nat) (o n:Nat):Nat→Nat:=fun i=>if Nat.ble o i&&Nat.blt i (o+n) then f i+1 else f i
def noRo (t:Root) (off:Nat):Nat→Bool
 | 0=>true
 | n+1=>!t.ro (off+n)&&noRo t off n
def Root.wrote (t:Root) (σ:Ty) (p:Place) (o:Ow) (x:t.τ.den):Root:=
 { t with o:=o,x:=x,v0:=if p.steps.isEmpty then bump0 t.v0 p.off σ.size else t.v0,v1:=if p.steps.isEmpty then t.v1 else if σ.hasSlice then fun i=>t.v1 i+1 else t.v1 }
def storeOK (t:Root) (σ:Ty) (p:Place) (o':Ow):Bool:=match p.steps with
 | []=>noRo t p.off σ.size
 | s::_=>match s.cnt with
  | none=>σ.hasSlice||allImm σ o'
  | some _=>!σ.hasSlice&&allImm σ o'&&noRo t 0 t.τ.size
def dlStore (rt:Roots) (mv:Bool) (σ:Ty) (p:Place) (v:V):Option Dl:=
 if okP rt p then
  match grab rt [] mv σ v with
  | some (o,x,us)=>
   match lk us rt p.root with
   | some t=>
    match look σ p.steps t.τ t.o t.x p.off with
    | some (o',_)=>
     if storeOK t σ p o' then
      match p.steps with
      | []=>
       match put σ (o,x) p.steps t.τ t.o t.x p.off with
       | some (o3,x3)=>some ⟨none,(p.root,t.wrote σ p o3 x3)::us⟩
       | none=>none
      | _::_=>
       let m:=meet σ o' o
       let o2:=owAt σ m p.steps t.τ t.o p.off
       if wk σ m o&&wk t.τ o2 t.o then
        match look σ p.steps t.τ o2 t.x p.off with
        | some (o'',_)=>
         if storeOK { t with o:=o2 } σ p o'' then
          match put σ (m,x) p.steps t.τ o2 t.x p.off with
          | some (o3,x3)=>some ⟨none,(p.root,({ t with o:=o2 }:Root).wrote σ p o3 x3)::us⟩
          | none=>none
         else none
        | none=>none
       else none
     else none
    | none=>none
   | none=>none
  | none=>none
 else none
def Root.fresh (τ:Ty) (o:Ow) (x:τ.den) (reg:Bool):Root:={ τ:=τ,o:=o,x:=x,v0:=fun _=>0,v1:=fun _=>0,ro:=fun _=>false,reg:=reg }
def holeAt (t:Root) (off:Nat):Option Nat:=match subSl t.τ t.o t.x off with
 | some ⟨_,.own (some i) _,_⟩=>some i
 | _=>none
def putU (σ:Ty) (v:Ow×σ.den) (n:Nat) (τ:Ty) (o:Ow) (x:τ.den) (off:Nat):Option (Ow×τ.den):=match subSl τ o x off with
 | some ⟨e,.own (some _) oe,xs⟩=>if h:(true&&v.1.beq oe&&σ.beq e)=true then setAt (.slice e) (.own none oe,xs.set n (recast (holeTy' h) v.2)) τ o x off else none
 | _=>none
def dlFill (rt:Roots) (mv:Bool) (σ:Ty) (p:Place) (v:V):Option (Nat×Nat×Dl):=match p.steps with
 | [⟨n,_,_,none⟩]=>match rt p.root with
  | some t0=>match holeAt t0 p.off with
   | some _=>if okP rt p then
     match grab rt [] mv σ v with
     | some (o,x,us)=>match lk us rt p.root with
      | some t=>match holeAt t p.off,look σ p.steps t.τ t.o t.x p.off with
       | some i,some (o',_)=>if storeOK t σ p o' then
         match putU σ (o,x) n t.τ t.o t.x p.off with
         | some (o3,x3)=>some (i,n,⟨none,(p.root,t.wrote σ p o3 x3)::us⟩)
         | none=>none
        else none
       | _,_=>none
      | none=>none
     | none=>none
    else none
   | none=>none
  | none=>none
 | _=>none
def dlTake (rt:Roots) (d:Nat) (e:Ty) (p:Place):Option Dl:=match p.steps with
 | [⟨n,es,0,none⟩]=>if okP rt p&&Nat.beq es 1&&(rt d).isNone&&!Nat.beq d p.root then
   match rt p.root with
   | some t=>match subAt (.slice (.slice e)) t.τ t.o t.x p.off with
    | some (.own none (.own none oe),xs)=>match setAt (.slice (.slice e)) (.own (some n) (.own none oe),xs) t.τ t.o t.x p.off with
     | some (o3,x3)=>if noDead t.τ o3 then some ⟨some (d,some (.ali ⟨d,0,[],0,0⟩ e none)),[(d,.fresh (.slice e) (.own none oe) (List.getD (α:=List e.den) xs n []) true),(p.root,t.holed o3 x3)]⟩ else none
     | none=>none
    | _=>none
   | none=>none
  else none
 | _=>none
def dlLoad (rt:Roots) (σ:Ty):V→Option V
 | .ptr p=>if okP rt p then
   match rt p.root with
   | some t=>match look σ p.steps t.τ t.o t.x p.off with
    | some (o,y)=>ldV t σ o y p
    | none=>none
   | none=>none
  else none
 | .ipt τ x off=>match subAt σ τ .imm x off with
  | some (.imm,y)=>some (.dat σ y)
  | _=>none
 | _=>none
def dlField (T:Tab) (rt:Roots) (s f:Nat):V→Option V
 | .ptr p=>if okP rt p then (match T s with
  | some (.st τ)=>(fieldOff τ f).map fun r=>.ptr (p.shift r.1)
  | _=>none) else none
 | .ipt τ x off=>match T s with
  | some (.st τ')=>(fieldOff τ' f).map fun r=>.ipt τ x (off+r.1)
  | _=>none
 | _=>none
def inR (i:Int) (n:Nat):Bool:=decide (0≤i)&&decide (i<(n:Int))
def cutLo:Option (Nat×Nat)→Nat
 | none=>0
 | some r=>r.1
def dlIndexAddr (T:Tab) (rt:Roots) (s:Nat) (i:Int):V→Pr V
 | .ali p e rg=>match T s with
  | some (.slice e')=>if e.beq e'&&okA rt p then
    match rt p.root with
    | some t=>match look (.slice e) p.steps t.τ t.o t.x p.off with
     | some (.own _ _,y)=>.asrt (inR i (cutL rg y).length) (.ret (.ptr { p with steps:=p.steps++[⟨cutLo rg+i.toNat,e.size,0,none⟩],s0:=t.v0 p.off,s1:=t.v1 p.off }))
     | some (.imm,y)=>.asrt (inR i (cutL rg y).length) (.ret (.ipt e ((cutL rg y).getD i.toNat e.zero) 0))
     | _=>.fail
    | none=>.fail
   else .fail
  | _=>.fail
 | .dat (.slice e) xs=>match T s with
  | some (.slice e')=>if e.beq e' then .asrt (inR i (List.length xs)) (.ret (.ipt e (List.getD xs i.toNat e.zero) 0)) else .fail
  | _=>.fail
 | .ptr p=>match T s with
  | some (.arr n e)=>if okP rt p&&okSteps (p.steps++[⟨0,e.size,0,some n⟩]) then .asrt (inR i n) (.ret (.ptr { p with steps:=p.steps++[⟨i.toNat,e.size,0,some n⟩],s0:=(match rt p.root with | some t=>t.v0 p.off | none=>0),s1:=(match rt p.root with | some t=>t.v1 p.off | none=>0) })) else .fail
  | _=>.fail
 | _=>.fail
def dlIndex (T:Tab) (s:Nat) (i:Int):V→Pr V
 | .dat (.arr n e) xs=>match T s with
  | some (.arr n' e')=>if Nat.beq n n'&&e.beq e' then .asrt (inR i n) (.ret (.dat e (List.getD xs i.toNat e.zero))) else .fail
  | _=>.fail
 | .dat .str x=>match T s with
  | some .str=>.asrt (inR i (ByteArray.size x)) (.ret (.dat (.int .u8) (((ByteArray.toList x).getD i.toNat 0).toNat:Int)))
  | _=>.fail
 | _=>.fail
def eqD:(τ:Ty)→τ.den→τ.den→Option Bool
 | .int _,x,y=>some (decide ((x:Int)=y))
 | .bool,x,y=>some ((x:Bool) == y)
 | .prod a b,x,y=>match eqD a x.1 y.1,eqD b x.2 y.2 with
  | some p,some q=>some (p&&q)
  | _,_=>none
 | .st t,x,y=>eqD t x y
 | .unit,_,_=>some true
 | _,_,_=>none
def intOp (op:BinOp) (k:IntKind) (x y:Int):Pr V:=
 match op with
 | .add=>.ret (.dat (.int k) (k.wrap (x+y)))
 | .sub=>.ret (.dat (.int k) (k.wrap (x-y)))
 | .mul=>.ret (.dat (.int k) (k.wrap (x * y)))
 | .quo=>.asrt (!decide (y=0)) (.ret (.dat (.int k) (k.wrap (x.tdiv y))))
 | .rem=>.asrt (!decide (y=0)) (.ret (.dat (.int k) (x.tmod y)))
 | .and=>.ret (.dat (.int k) (k.wrap (BitVec.ofInt k.bits x &&& BitVec.ofInt k.bits y).toNat))
 | .or=>.ret (.dat (.int k) (k.wrap (BitVec.ofInt k.bits x ||| BitVec.ofInt k.bits y).toNat))
 | .xor=>.ret (.dat (.int k) (k.wrap (BitVec.ofInt k.bits x ^^^ BitVec.ofInt k.bits y).toNat))
 | .eql=>.ret (.dat .bool (decide (x=y)))
 | .neq=>.ret (.dat .bool (!decide (x=y)))
 | .lss=>.ret (.dat .bool (decide (x<y)))
 | .leq=>.ret (.dat .bool (decide (x≤y)))
 | .gtr=>.ret (.dat .bool (decide (y<x)))
 | .geq=>.ret (.dat .bool (decide (y≤x)))
 | _=>.fail
def shOp (op:BinOp) (k:IntKind) (x y:Int):Pr V:=
 match op with
 | .shl=>.asrt (decide (0≤y)) (.ret (.dat (.int k) (k.wrap (x * 2 ^ (Nat.min y.toNat k.bits)))))
 | .shr=>.asrt (decide (0≤y)) (.ret (.dat (.int k) (Int.fdiv x (2 ^ (Nat.min y.toNat k.bits)))))
 | _=>.fail
def dlBin (T:Tab) (eqs:Nat→Bool) (op:BinOp) (s:Nat):V→V→Pr V
 | .dat (.int k) x,.dat (.int k') y=>
  match op with
  | .shl | .shr=>shOp op k x y
  | _=>if decide (k=k') then intOp op k x y else .fail
 | .dat .bool x,.dat .bool y=>match T s,op with
  | some .bool,.eql=>.ret (.dat .bool ((x:Bool) == y))
  | some .bool,.neq=>.ret (.dat .bool (!((x:Bool) == y)))
  | _,_=>.fail
 | .dat .str x,.dat .str y=>match op with
  | .eql=>.ret (.dat .bool (ByteArray.toList x == ByteArray.toList y))
  | .neq=>.ret (.dat .bool (!(ByteArray.toList x == ByteArray.toList y)))
  | _=>.fail
 | .dat (.st τ) x,.dat (.st τ') y=>if eqs s then (match T s with
  | some (.st τ'')=>if τ''.beq τ then (if h:τ'.beq τ=true then
    match op,eqD τ x (recast h y) with
    | .eql,some b=>.ret (.dat .bool b)
    | .neq,some b=>.ret (.dat .bool (!b))
    | _,_=>.fail
   else .fail) else .fail
  | _=>.fail) else .fail
 | _,_=>.fail
def dlSlice (e':Ty) (v:V) (lo hi:Option Int) (rt:Roots):Pr V:=
 match v with
 | .dat (.slice e) xs=>if e.beq e' then
   .asrt (decide (0≤lo.getD 0)&&decide (lo.getD 0≤hi.getD (List.length xs:Int))&&decide (hi.getD (List.length xs:Int)≤(List.length xs:Int)))
    (.ret (.dat (.slice e) ((List.drop (lo.getD 0).toNat xs).take ((hi.getD (List.length xs:Int)).toNat-(lo.getD 0).toNat))))
  else .fail
 | .ali p e none=>if e.beq e' then (match rdA rt p e none with
  | some y=>.asrt (decide (0≤lo.getD 0)&&decide (lo.getD 0≤hi.getD (y.length:Int))&&decide (hi.getD (y.length:Int)≤(y.length:Int)))
    (.ret (.ali p e (some ((lo.getD 0).toNat,(hi.getD (y.length:Int)).toNat))))
  | none=>.fail) else .fail
 | _=>.fail
def dlLen (T:Tab) (t:Nat) (rt:Roots):V→Option Int
 | .dat (.slice _) xs=>match T t with
  | some (.slice _)=>some (List.length xs:Int)
  | _=>none
 | .dat .str x=>match T t with
  | some .str=>some (ByteArray.size x:Int)
  | _=>none
 | .nils=>match T t with
  | some (.slice _)=>some 0
  | _=>none
 | .ali p e rg=>match T t with
  | some (.slice _)=>(rdA rt p e rg).map fun y=>(y.length:Int)
  | _=>none
 | _=>none
end Go.Rd
namespace Go.Rd
def zcells:Ty→List Value
 | .int k=>[.int k 0]
 | .bool=>[.bool false]
 | .str=>[.string ByteArray.empty]
 | .slice _=>[.slice none 0 0]
 | .unit=>[]
 | .prod a b=>zcells a++zcells b
 | .st t=>zcells t
 | .arr n e=>(List.replicate n (zcells e)).flatten
theorem zcells_length:∀τ:Ty,(zcells τ).length=τ.size
 | .int _=>rfl
 | .bool=>rfl
 | .str=>rfl
 | .slice _=>rfl
 | .unit=>rfl
 | .prod a b=>by simp [zcells,Ty.size,zcells_length a,zcells_length b]
 | .st t=>zcells_length t
 | .arr n e=>by simp [zcells,Ty.size,zcells_length e]
def eatN (f:List Value→Option (List Value)):Nat→List Value→Option (List Value)
 | 0,l=>some l
 | n+1,l=>(f l).bind (eatN f n)
theorem eatN_eq {f:List Value→Option (List Value)} {z:List Value} (hf:∀l r,f l=some r→l=z++r):∀(n:Nat) (l r:List Value),eatN f n l=some r→l=(List.replicate n z).flatten++r
 | 0,l,r,h=>by simp only [eatN,Option.some.injEq] at h;simp [h]
 | n+1,l,r,h=>by
  simp only [eatN] at h
  cases hq:f l with
  | none=>rw [hq] at h;simp at h
  | some m=>
   rw [hq] at h
   simp only [Option.bind_some] at h
   rw [hf l m hq,eatN_eq hf n m r h];simp [List.replicate_succ]
def eatZero:Ty→List Value→Option (List Value)
 | .int k,.int j n::r=>if decide (j=k)&&decide (n=0) then some r else none
 | .bool,.bool b::r=>if b then none else some r
 | .str,.string s::r=>if decide (s=ByteArray.empty) then some r else none
 | .slice _,.slice none 0 0::r=>some r
 | .unit,l=>some l
 | .prod a b,l=>(eatZero a l).bind (eatZero b)
 | .st t,l=>eatZero t l
 | .arr n e,l=>eatN (eatZero e) n l
 | _,_=>none
theorem eatZero_eq:∀{τ:Ty} {l r:List Value},eatZero τ l=some r→l=zcells τ++r
 | .int k,l,r,h=>by
  unfold eatZero at h
  split at h<;>simp_all [zcells]
 | .bool,l,r,h=>by
  unfold eatZero at h
  split at h<;>simp_all [zcells]
 | .str,l,r,h=>by
  unfold eatZero at h
  split at h<;>simp_all [zcells]
 | .slice e,l,r,h=>by
  unfold eatZero at h
  split at h<;>simp_all [zcells]
 | .unit,l,r,h=>by simp only [eatZero,Option.some.injEq] at h;simp [zcells,h]
 | .prod a b,l,r,h=>by
  simp only [eatZero] at h
  cases hq:eatZero a l with
  | none=>rw [hq] at h;simp at h
  | some m=>
   rw [hq] at h
   simp only [Option.bind_some] at h
   rw [eatZero_eq hq,eatZero_eq h];simp [zcells]
 | .st t,l,r,h=>by simp only [eatZero] at h;exact eatZero_eq (τ:=t) h
 | .arr n e,l,r,h=>by simp only [eatZero] at h;exact eatN_eq (fun l r h=>eatZero_eq (τ:=e) h) n l r h
def leafTy:Ty→Bool
 | .prod _ _=>false
 | .unit=>false
 | _=>true
def fieldsOK (T:Tab):List Field→Ty→Nat→Bool
 | [],.unit,_=>true
 | [f],τ,off=>Nat.beq f.offset off&&(match T f.type with | some σ=>σ.beq τ | none=>false)&&Nat.blt 0 τ.size&&leafTy τ
 | f::r,.prod a b,off=>Nat.beq f.offset off&&(match T f.type with | some σ=>σ.beq a | none=>false)&&Nat.blt 0 a.size&&fieldsOK T r b (off+a.size)
 | _,_,_=>false
def descOK (T:Tab):TypeDesc→Ty→Bool
 | .bool,.bool=>true
 | .int k,.int j=>decide (k=j)
 | .string,.str=>true
 | .slice e,.slice τ=>(match T e with | some σ=>σ.beq τ | none=>false)&&Nat.blt 0 τ.size
 | .struct fs,.st τ=>fieldsOK T fs.toList τ 0
 | .array n e,.arr m τ=>Nat.beq n m&&(match T e with | some σ=>σ.beq τ | none=>false)&&Nat.blt 0 τ.size
 | _,_=>false
def isAggB:Ty→Bool
 | .st _=>true
 | .arr _ _=>true
 | _=>false
def rowOK (P:Program) (T:Tab) (t:TypeId) (τ:Ty):Bool:=
 match P.info? t,P.underlying t with
 | some i,some d=>Nat.beq i.size τ.size&&descOK T d τ&&Nat.ble i.bytes 4096&&
   (match i.zero with
    | some z=>(match eatZero τ z.cells.toList with | some []=>true | _=>false)&&(match z with | .agg _=>isAggB τ | .tuple _=>false | _=>!isAggB τ)
    | none=>false)
 | _,_=>false
def tabOf:List (Nat×Ty)→Tab
 | [],_=>none
 | (n,τ)::l,t=>if Nat.beq t n then some τ else tabOf l t
structure TOK (P:Program) (T:Tab):Prop where
 row:∀t τ,T t=some τ→rowOK P T t τ=true
theorem TOK.of_list {P:Program} {l:List (Nat×Ty)} (h:l.all (fun r=>rowOK P (tabOf l) r.1 r.2)=true):TOK P (tabOf l):=by
 refine ⟨fun t τ ht=>?_⟩
 have key:∀m:List (Nat×Ty),tabOf m t=some τ→(t,τ)∈m:=by
  intro m
  induction m with
  | nil=>intro h;simp [tabOf] at h
  | cons r m ih=>
   intro h
   simp only [tabOf] at h
   cases hb:Nat.beq t r.1 with
   | true=>rw [hb] at h;simp at h;rw [Nat.eq_of_beq_eq_true hb,←h];exact List.mem_cons_self
   | false=>rw [hb] at h;simp at h;exact List.mem_cons_of_mem _ (ih h)
 exact List.all_eq_true.1 h _ (key l ht)
structure Row (P:Program) (T:Tab) (t:TypeId) (τ:Ty):Prop where
 size:(P.info? t).map (·.size)=some τ.size
 desc:∃d,P.underlying t=some d∧descOK T d τ=true
 zero:∃i,P.info? t=some i∧i.zero=some (valOf τ (zcells τ))∧i.bytes≤4096∧i.size=τ.size
theorem cells_valOf {τ:Ty} {cs:List Value} (h:cs.length=τ.size) (h1:∀v∈cs,v.oneCell'=true) (hz:isAggB τ=false→τ.size=1):(valOf τ cs).cells=cs.toArray:=by
 have key:isAggB τ=false→valOf τ cs=cs.headD undef→(valOf τ cs).cells=cs.toArray:=fun ha he=>by
  rw [hz ha] at h
  obtain ⟨v,rfl⟩:=List.length_eq_one_iff.1 h
  rw [he]
  have:=h1 v (by simp)
  cases v<;>simp_all [Value.cells,Value.oneCell']
 cases τ<;>first | rfl | exact key rfl rfl
theorem TOK.get {P:Program} {T:Tab} (h:TOK P T) {t:TypeId} {τ:Ty} (ht:T t=some τ):Row P T t τ:=by
 have:=h.row t τ ht
 unfold rowOK at this
 split at this
 ·rename_i i d hi hd
  simp only [Bool.and_eq_true] at this
  obtain ⟨⟨⟨h1,h2⟩,h3⟩,h4⟩:=this
  have hs:=Nat.eq_of_beq_eq_true h1
  refine ⟨by rw [hi];simp [hs],⟨d,hd,h2⟩,i,hi,?_,Nat.le_of_ble_eq_true h3,hs⟩
  split at h4
  ·rename_i z hz
   rw [hz]
   simp only [Bool.and_eq_true] at h4
   obtain ⟨h5,h6⟩:=h4
   have hcells:z.cells.toList=zcells τ:=by
    split at h5
    ·rename_i he
     simpa using eatZero_eq he
    ·cases h5
   congr 1
   cases τ with
   | st t=>cases z<;>simp_all [isAggB,valOf,Value.cells];rw [←hcells]
   | arr n e=>cases z<;>simp_all [isAggB,valOf,Value.cells];rw [←hcells]
   | int k=>cases z<;>simp_all [isAggB,valOf,Value.cells,zcells]
   | bool=>cases z<;>simp_all [isAggB,valOf,Value.cells,zcells]
   | str=>cases z<;>simp_all [isAggB,valOf,Value.cells,zcells]
   | slice e=>cases z<;>simp_all [isAggB,valOf,Value.cells,zcells]
   | unit=>cases d<;>simp_all [descOK]
   | prod a b=>cases d<;>simp_all [descOK]
  ·cases h4
 ·cases this
end Go.Rd
namespace Go.Rd
theorem fieldsOK_get {T:Tab}:∀{l:List Field} {τ σ:Ty} {off f k:Nat},fieldsOK T l τ off=true→fieldOff τ f=some (k,σ)→
  ∃fld,l[f]?=some fld∧fld.offset=off+k∧T fld.type=some σ∧0<σ.size
 | [],.unit,_,_,f,_,_,h=>by simp [fieldOff] at h
 | [],.int _,_,_,_,_,h,_=>by simp [fieldsOK] at h
 | [],.bool,_,_,_,_,h,_=>by simp [fieldsOK] at h
 | [],.str,_,_,_,_,h,_=>by simp [fieldsOK] at h
 | [],.slice _,_,_,_,_,h,_=>by simp [fieldsOK] at h
 | [],.prod _ _,_,_,_,_,h,_=>by simp [fieldsOK] at h
 | [],.st _,_,_,_,_,h,_=>by simp [fieldsOK] at h
 | [],.arr _ _,_,_,_,_,h,_=>by simp [fieldsOK] at h
 | [x],τ,σ,off,f,k,h,hk=>by
  simp only [fieldsOK,Bool.and_eq_true] at h
  obtain ⟨⟨⟨h1,h2⟩,h3⟩,h5⟩:=h
  have hf:f=0∧k=0∧σ=τ:=by
   cases τ<;>first | (simp [leafTy] at h5;done) | (cases f with
    | zero=>simp only [fieldOff,Option.some.injEq,Prod.mk.injEq] at hk;exact ⟨rfl,hk.1.symm,hk.2.symm⟩
    | succ f=>simp [fieldOff] at hk)
  obtain ⟨rfl,rfl,rfl⟩:=hf
  refine ⟨x,rfl,by simpa using Nat.eq_of_beq_eq_true h1,?_,by simpa [Nat.blt_eq] using h3⟩
  split at h2
  ·rename_i σ' hσ;rw [hσ,Ty.eq_of_beq h2]
  ·cases h2
 | x::y::r,τ,σ,off,f,k,h,hk=>by
  cases τ with
  | prod a b=>
   simp only [fieldsOK,Bool.and_eq_true] at h
   obtain ⟨⟨⟨h1,h2⟩,h3⟩,h4⟩:=h
   cases f with
   | zero=>
    simp only [fieldOff,Option.some.injEq,Prod.mk.injEq] at hk
    obtain ⟨rfl,rfl⟩:=hk
    refine ⟨x,rfl,by simpa using Nat.eq_of_beq_eq_true h1,?_,by simpa [Nat.blt_eq] using h3⟩
    split at h2
    ·rename_i σ' hσ;rw [hσ,Ty.eq_of_beq h2]
    ·cases h2
   | succ f=>
    simp only [fieldOff] at hk
    cases hq:fieldOff b f with
    | none=>rw [hq] at hk;simp at hk
    | some z=>
     rw [hq] at hk
     simp only [Option.map_some,Option.some.injEq,Prod.mk.injEq] at hk
     obtain ⟨rfl,rfl⟩:=hk
     obtain ⟨fld,g1,g2,g3,g4⟩:=fieldsOK_get h4 (k:=z.1) (σ:=z.2) hq
     exact ⟨fld,by simpa using g1,by omega,g3,g4⟩
  | _=>simp [fieldsOK] at h
section
variable {P:Program} {T:Tab} {w:World}
theorem Row.agg {t:TypeId} {τ:Ty} (h:Row P T t τ):∃d,P.underlying t=some d∧d.isRow=isAggB τ:=by
 obtain ⟨d,hd,hk⟩:=h.desc
 exact ⟨d,hd,by cases d<;>cases τ<;>simp_all [descOK,isAggB,TypeDesc.isRow]⟩
theorem size_of_leaf {τ:Ty} (h:isAggB τ=false) (h':leafTy τ=true):τ.size=1:=by
 cases τ<;>simp_all [isAggB,Ty.size,leafTy]
theorem Row.leaf {t:TypeId} {τ:Ty} (h:Row P T t τ):leafTy τ=true:=by
 obtain ⟨d,hd,hk⟩:=h.desc
 cases d<;>cases τ<;>simp_all [descOK,leafTy]
theorem valOf_leaf {τ:Ty} {cs:List Value} (h:isAggB τ=false) (h':leafTy τ=true) (hl:cs.length=τ.size):∃v,cs=[v]∧valOf τ cs=v:=by
 rw [size_of_leaf h h'] at hl
 obtain ⟨v,rfl⟩:=List.length_eq_one_iff.1 hl
 exact ⟨v,rfl,by cases τ<;>first | rfl | simp [isAggB] at h⟩
theorem At.range {b o:Nat} {cs:List Value} (h:At w b o cs):w.rangeAt b o cs:=fun j v hj=>h j v hj
theorem run_loadAt {t:TypeId} {τ:Ty} (ht:Row P T t τ) {b o:Nat} {cs:List Value} (hat:At w b o cs) (hl:cs.length=τ.size):
  (Instr.loadAt t (.pointer (some ⟨b,o,none⟩))).run P w=.ok (valOf τ cs) w:=by
 obtain ⟨d,hd,hagg⟩:=ht.agg
 have hs:(P.info? t).map (·.size)=some cs.length:=by rw [hl];exact ht.size
 cases hb:isAggB τ with
 | true=>
  rw [hb] at hagg
  rw [run_loadAt_mid w b o t cs d hat.range hd hagg hs]
  cases τ<;>first | rfl | simp [isAggB] at hb
 | false=>
  rw [hb] at hagg
  obtain ⟨v,rfl,hv⟩:=valOf_leaf hb ht.leaf hl
  rw [hv]
  have hc:w.cell? ⟨b,o,none⟩=some v:=hat.cell (i:=0) rfl
  have hag:(isAgg t).run P w=.ok false w:=by
   unfold isAgg
   rw [Sem.run_bind,run_underlying hd w]
   cases d<;>simp_all
  simp [Instr.loadAt,Instr.sureAddr,loadVar,Sem.run_bind,hag,hc]
theorem run_storeAt {t:TypeId} {τ:Ty} (ht:Row P T t τ) {b o:Nat} {cs:List Value} (hl:cs.length=τ.size) (h1:∀v∈cs,v.oneCell'=true)
  (hc:∀j,j<cs.length→(w.cell? ⟨b,o+j,none⟩).isSome=true) (hf:∀j,w.frozen? ⟨b,j,none⟩=false):
  (Instr.storeAt t (.pointer (some ⟨b,o,none⟩)) (valOf τ cs)).run P w=.ok () (w.setCells b o cs):=by
 have hcl:=cells_valOf hl h1 (fun h=>size_of_leaf h ht.leaf)
 have hs:=ht.size
 have hst:=run_storeCells_cells (P:=P) b o cs 0 w (by simpa using hc) (fun j _=>hf _) h1
 rw [Nat.add_zero] at hst
 cases hq:P.info? t with
 | none=>rw [hq] at hs;simp at hs
 | some i=>
  rw [hq] at hs
  simp at hs
  simp [Instr.storeAt,Instr.sureAddr,storeVar,sizeOf,typeInfo,hq,hcl,hs,hl,hst]
theorem run_alloc {t:TypeId} {τ:Ty} (ht:Row P T t τ) (hz:∀v∈zcells τ,v.oneCell'=true):
  (Instr.alloc t true (.tuple #[])).run P w=.ok (.pointer (some ⟨w.heap.size,0,none⟩)) { w with heap:=w.heap.push (.cells (zcells τ).toArray t (0,0)) }:=by
 obtain ⟨i,hi,hzv,_⟩:=ht.zero
 have hcl:=cells_valOf (zcells_length τ) hz (fun h=>size_of_leaf h ht.leaf)
 simp [Instr.alloc,zeroValue,typeInfo,hi,hzv,newVar,newRow,hcl]
theorem run_box {t:TypeId} {τ:Ty} (ht:Row P T t τ) {cs:List Value} (hl:cs.length=τ.size) (h1:∀v∈cs,v.oneCell'=true):
  (Instr.box t (valOf τ cs)).run P w=.ok (.pointer (some ⟨w.heap.size,0,none⟩)) { w with heap:=w.heap.push (.cells cs.toArray t (0,0)) }:=by
 have hcl:=cells_valOf hl h1 (fun h=>size_of_leaf h ht.leaf)
 simp [Instr.box,newVar,newRow,hcl]
theorem zcells_one:∀(τ:Ty),∀v∈zcells τ,v.oneCell'=true
 | .int _,v,h=>by simp [zcells] at h;rw [h];rfl
 | .bool,v,h=>by simp [zcells] at h;rw [h];rfl
 | .str,v,h=>by simp [zcells] at h;rw [h];rfl
 | .slice _,v,h=>by simp [zcells] at h;rw [h];rfl
 | .unit,v,h=>by simp [zcells] at h
 | .prod a b,v,h=>by
  simp only [zcells,List.mem_append] at h
  rcases h with h | h
  ·exact zcells_one a v h
  ·exact zcells_one b v h
 | .st t,v,h=>zcells_one t v h
 | .arr n e,v,h=>by
  simp only [zcells,List.mem_flatten] at h
  obtain ⟨l,hl,hv⟩:=h
  rw [List.eq_of_mem_replicate hl] at hv
  exact zcells_one e v hv
theorem run_fieldAt {s:TypeId} {τ σ:Ty} (hs:Row P T s (.st τ)) (hT:TOK P T) {f k:Nat} (hf:fieldOff τ f=some (k,σ)) {b q:Nat}:
  (Instr.fieldAt s (.pointer (some ⟨b,q,none⟩)) f).run P w=.ok (.pointer (some ⟨b,q+k,none⟩)) w:=by
 obtain ⟨d,hd,hk⟩:=hs.desc
 cases d<;>simp [descOK] at hk
 rename_i fs
 obtain ⟨fld,g1,g2,g3,g4⟩:=fieldsOK_get hk hf
 have hrow:=(hT.get g3).size
 have hu:=run_underlying hd w
 have g1':fs[f]?=some fld:=by simpa using g1
 cases hq:P.info? fld.type with
 | none=>rw [hq] at hrow;simp at hrow
 | some i=>
  rw [hq] at hrow
  simp at hrow
  have hne:i.size≠0:=by omega
  have hadd:(⟨b,q,none⟩:Addr).add fld.offset=⟨b,q+k,none⟩:=by
   rw [g2];unfold Addr.add;split<;>simp_all
  simp [Instr.fieldAt,hu,g1',Instr.sureAddr,fieldPlace,sizeOf,typeInfo,hq,hne,hadd]
end
end Go.Rd
namespace Go.Rd
theorem okP_valid {rt:Roots} {p:Place} (h:okP rt p=true):validP rt p:=by
 unfold okP at h
 simp only [Bool.and_eq_true] at h
 obtain ⟨h1,h2⟩:=h
 split at h2
 ·rename_i t ht
  simp only [Bool.and_eq_true,Bool.or_eq_true] at h2
  refine ⟨h1,t,ht,fun hs=>?_,fun hs=>?_,Nat.le_of_ble_eq_true h2.2⟩
  ·rcases h2.1.1 with h | h
   ·exact absurd (List.isEmpty_iff.1 h) hs
   ·exact Nat.eq_of_beq_eq_true h
  ·rcases h2.1.2 with h | h
   ·have:=Nat.le_of_ble_eq_true h;omega
   ·exact Nat.eq_of_beq_eq_true h
 ·cases h2
theorem okA_valid {rt:Roots} {p:Place} (h:okA rt p=true):validA rt p:=by
 unfold okA at h
 simp only [Bool.and_eq_true] at h
 obtain ⟨h1,h2⟩:=h
 split at h2
 ·rename_i t ht
  simp only [Bool.and_eq_true,Bool.or_eq_true] at h2
  refine ⟨h1,t,ht,Nat.eq_of_beq_eq_true h2.1.1,fun hs=>?_,Nat.le_of_ble_eq_true h2.2⟩
  rcases h2.1.2 with h | h
  ·exact absurd (List.isEmpty_iff.1 h) hs
  ·exact Nat.eq_of_beq_eq_true h
 ·cases h2
theorem walkH_shift {w:World} {B:Nat→Prop} (k:Nat):∀(l:List Step) (b o b' q:Nat),l≠[]→walkH w B b o l b' q→walkH w B b o (shiftLast k l) b' (q+k)
 | [],_,_,_,_,hne,_=>absurd rfl hne
 | [s],b,o,b',q,_,h=>by
  obtain ⟨n,es,so,cnt⟩:=s
  cases cnt with
  | none=>
   obtain ⟨a0,len,cap,h1,h2,h3,h4⟩:=h
   obtain ⟨rfl,rfl⟩:=h4
   exact ⟨b',len,cap,h1,h2,h3,rfl,by simp [Nat.add_assoc]⟩
  | some c=>
   obtain ⟨h1,h2⟩:=h
   obtain ⟨rfl,rfl⟩:=h2
   exact ⟨h1,rfl,by simp [Nat.add_assoc]⟩
 | s::s'::r,b,o,b',q,_,h=>by
  obtain ⟨n,es,so,cnt⟩:=s
  cases cnt with
  | none=>
   obtain ⟨a0,len,cap,h1,h2,h3,h4⟩:=h
   exact ⟨a0,len,cap,h1,h2,h3,walkH_shift k (s'::r) _ _ _ _ (by simp) h4⟩
  | some c=>exact ⟨h.1,walkH_shift k (s'::r) _ _ _ _ (by simp) h.2⟩
theorem shiftLast_head {k:Nat}:∀{s:Step} {l:List Step},∃s' l',shiftLast k (s::l)=s'::l'∧s'.cnt=s.cnt∧s'.n=s.n∧s'.es=s.es∧(l≠[]→s'=s∧l'=shiftLast k l)∧(l=[]→l'=[]∧s'.off=s.off+k)
 | s,[]=>⟨_,_,rfl,rfl,rfl,rfl,fun h=>absurd rfl h,fun _=>⟨rfl,rfl⟩⟩
 | s,s'::r=>⟨_,_,rfl,rfl,rfl,rfl,fun _=>⟨rfl,rfl⟩,fun h=>by simp at h⟩
theorem Place.shift_root (p:Place) (k:Nat):(p.shift k).root=p.root:=by unfold Place.shift;split<;>rfl
theorem Place.shift_nil {p:Place} {k:Nat} (h:p.steps=[]):p.shift k={ p with off:=p.off+k,s0:=0,s1:=0 }:=by
 unfold Place.shift;rw [h]
theorem Place.shift_cons {p:Place} {k:Nat} (h:p.steps≠[]):p.shift k={ p with steps:=shiftLast k p.steps }:=by
 unfold Place.shift;split
 ·rename_i e;exact absurd e h
 ·rfl
theorem walkP_shift {w:World} {B:Nat→Prop} {L:Loc} {p:Place} {b q:Nat} (k:Nat) (h:walkP w B L p b q):walkP w B L (p.shift k) b (q+k):=by
 by_cases hs:p.steps=[]
 ·rw [Place.shift_nil hs]
  unfold walkP at *
  cases L with
  | mem b0 o0=>dsimp only at *;rw [hs] at h ⊢;obtain ⟨rfl,rfl⟩:=h;exact ⟨rfl,by omega⟩
  | reg cs=>dsimp only at *;rw [hs] at h;exact h.elim
 ·rw [Place.shift_cons hs]
  unfold walkP at *
  cases L with
  | mem b0 o0=>exact walkH_shift k _ _ _ _ _ hs h
  | reg cs=>
   dsimp only at *
   cases hl:p.steps with
   | nil=>exact absurd hl hs
   | cons s r=>
    rw [hl] at h
    obtain ⟨g0,a0,len,cap,g1,g2,g3,g4⟩:=h
    obtain ⟨s',l',e,e1,e2,e3,e4,e5⟩:=shiftLast_head (k:=k) (s:=s) (l:=r)
    rw [e]
    refine ⟨by rw [e1];exact g0,a0,len,cap,g1,by rw [e2];exact g2,g3,?_⟩
    cases r with
    | nil=>
     obtain ⟨e6,e7⟩:=e5 rfl
     obtain ⟨rfl,rfl⟩:=g4
     rw [e6,e2,e3,e7];exact ⟨rfl,by omega⟩
    | cons s2 r2=>
     obtain ⟨rfl,rfl⟩:=e4 (by simp)
     exact walkH_shift k _ _ _ _ _ (by simp) g4
theorem allImm_rep {S:Nat→Prop} {w:World}:{τ:Ty}→{o:Ow}→{cs:List Value}→{x:τ.den}→{F:List Nat}→allImm τ o=true→Rep S w τ o cs x F→Rep S w τ .imm cs x []
 | .int k,o,_,_,_,ha,h=>⟨rfl,h.2.1,fun _=>h.2.2 (by rintro rfl;simp [allImm] at ha)⟩
 | .bool,o,_,_,_,ha,h=>⟨rfl,h.2.1,fun _=>h.2.2 (by rintro rfl;simp [allImm] at ha)⟩
 | .str,o,_,_,_,ha,h=>⟨rfl,h.2.1,fun _=>h.2.2 (by rintro rfl;simp [allImm] at ha)⟩
 | .unit,_,_,_,_,_,h=>⟨h.1,rfl⟩
 | .prod a b,_,_,_,_,ha,⟨c1,c2,F1,F2,hc,hf,h1,h2⟩=>by
  simp only [allImm,Bool.and_eq_true] at ha
  exact ⟨c1,c2,[],[],hc,rfl,allImm_rep ha.1 h1,allImm_rep ha.2 h2⟩
 | .st t,_,_,_,_,ha,h=>allImm_rep (τ:=t) ha h
 | .arr n e,o,_,_,_,ha,h=>⟨rfl,h.2.1,fun _=>h.2.2 (by rintro rfl;simp [allImm] at ha)⟩
 | .slice e,o,_,_,_,ha,h=>by
  cases o with
  | imm=>exact ⟨rfl,h.2⟩
  | dead=>simp [allImm] at ha
  | own _ _=>simp [allImm] at ha
  | pr _ _=>simp [allImm] at ha
theorem allImm_imm:∀τ:Ty,allImm τ .imm=true
 | .int _=>rfl
 | .bool=>rfl
 | .str=>rfl
 | .unit=>rfl
 | .slice _=>rfl
 | .arr _ _=>rfl
 | .prod a b=>by simp [allImm,Ow.fst,Ow.snd,allImm_imm a,allImm_imm b]
 | .st t=>allImm_imm t
theorem Rep.one {S:Nat→Prop} {w:World}:{τ:Ty}→{o:Ow}→{cs:List Value}→{x:τ.den}→{F:List Nat}→Rep S w τ o cs x F→allImm τ o=true∨wk τ .imm o=true→∀v∈cs,v.oneCell'=true
 | .int k,o,cs,_,_,h,ha=>by
  have:=(h.2.2 (by rintro rfl;simp [allImm,wk] at ha)).1
  intro v hv;rw [this] at hv;simp at hv;rw [hv];rfl
 | .bool,o,_,_,_,h,ha=>by
  have:=(h.2.2 (by rintro rfl;simp [allImm,wk] at ha))
  intro v hv;rw [this] at hv;simp at hv;rw [hv];rfl
 | .str,o,_,_,_,h,ha=>by
  have:=(h.2.2 (by rintro rfl;simp [allImm,wk] at ha)).1
  intro v hv;rw [this] at hv;simp at hv;rw [hv];rfl
 | .unit,_,_,_,_,h,_=>by intro v hv;rw [h.1] at hv;simp at hv
 | .prod a b,_,_,_,_,⟨c1,c2,F1,F2,hc,hf,h1,h2⟩,ha=>by
  simp only [allImm,wk,Bool.and_eq_true] at ha
  have ha1:=ha.imp And.left And.left
  have ha2:=ha.imp And.right And.right
  intro v hv
  rw [hc] at hv
  rcases List.mem_append.1 hv with h | h
  ·exact Rep.one h1 ha1 v h
  ·exact Rep.one h2 ha2 v h
 | .st t,_,_,_,_,h,ha=>Rep.one (τ:=t) h ha
 | .slice e,o,_,_,_,h,ha=>by
  cases o with
  | dead=>simp [allImm,wk] at ha
  | own _ _=>obtain ⟨a,cap,hc,_⟩:=h;intro v hv;rw [hc] at hv;simp at hv;rw [hv];rfl
  | imm=>obtain ⟨_,a,cap,hc,_⟩:=h;intro v hv;rw [hc] at hv;simp at hv;rw [hv];rfl
  | pr _ _=>obtain ⟨_,a,cap,hc,_⟩:=h;intro v hv;rw [hc] at hv;simp at hv;rw [hv];rfl
 | .arr n e,o,cs,x,_,h,ha=>by
  obtain ⟨h1,h2,h3⟩:=h
  obtain ⟨h4,h5⟩:=h3 (by rintro rfl;simp [allImm,wk] at ha)
  intro v hv
  obtain ⟨j,hj⟩:=List.mem_iff_getElem?.1 hv
  have hjl:=(List.getElem?_eq_some_iff.1 hj).1
  by_cases he:e.size=0
  ·rw [h2,he] at hjl;simp at hjl
  ·have hi:j / e.size<n:=by
    rw [Nat.div_lt_iff_lt_mul (by omega)];omega
   have hr:=h5 (j / e.size) _ (List.getElem?_eq_getElem (by rw [h4];exact hi))
   refine Rep.one hr (.inl (allImm_imm e)) v ?_
   ·refine List.mem_iff_getElem?.2 ⟨j % e.size,?_⟩
    rw [List.getElem?_take_of_lt (Nat.mod_lt _ (by omega)),List.getElem?_drop]
    rw [Nat.div_add_mod' ]
    exact hj
end Go.Rd
namespace Go.Rd
section
variable {c:Ctx} {sl:Slots} {rt:Roots} {ρ:Nat→Loc} {Fo:Nat→List Nat} {X:List Nat} {a:Act} {w:World}
theorem RR.lookP (h:RR c sl rt ρ Fo X a w) {p:Place} {t:Root} (ht:rt p.root=some t) {σ:Ty} {o':Ow} {y:σ.den} (hl:look σ p.steps t.τ t.o t.x p.off=some (o',y))
  {B:Nat→Prop} {b q:Nat} (hw:walkP w B (ρ p.root) p b q):
  ∃m Fm,At w b q m∧Rep (Stab c w rt Fo X) w σ o' m y Fm∧(∀j,w.frozen? ⟨b,j,none⟩=false)∧b∈Fo p.root∧(∀k∈Fm,k∈Fo p.root):=by
 have hroot:=h.roots _ _ ht
 have hnd:=h.nodup _ _ ht
 unfold RootOK at hroot
 unfold walkP at hw
 cases hL:ρ p.root with
 | mem b0 o0=>
  rw [hL] at hroot hw
  obtain ⟨cs,F',e,hat,hfz,hrep,_⟩:=hroot
  obtain ⟨m,Fm,Fr,g1,g2,g3,g4,g5,_⟩:=focusH p.steps hrep hat hfz (by rw [←e];exact hnd) hl hw
  refine ⟨m,Fm,g1,g2,g5,?_,fun k hk=>?_⟩
  ·rw [e]
   rcases List.mem_cons.1 g4 with rfl | h1
   ·exact List.mem_cons_self
   ·exact List.mem_cons_of_mem _ (g3.mem_iff.2 (List.mem_append_right _ h1))
  ·rw [e];exact List.mem_cons_of_mem _ (g3.mem_iff.2 (List.mem_append_left _ hk))
 | reg cs=>
  rw [hL] at hroot hw
  obtain ⟨hrep,_⟩:=hroot
  dsimp only at hw
  cases hs:p.steps with
  | nil=>rw [hs] at hw;exact hw.elim
  | cons s r=>
   rw [hs] at hw hl
   obtain ⟨g0,a0,len,cap,k1,k2,k3,k4⟩:=hw
   obtain ⟨m,Fm,Fr,g1,g2,g3,g4,g5,_⟩:=focusR hrep hnd hl g0 k1 k2 k4
   exact ⟨m,Fm,g1,g2,g5,g3.mem_iff.2 (List.mem_append_right _ g4),fun k hk=>g3.mem_iff.2 (List.mem_append_left _ hk)⟩
theorem RR.hdrA (h:RR c sl rt ρ Fo X a w) {p:Place} {t:Root} (ht:rt p.root=some t) {e:Ty} {o':Ow} {y:List e.den} (hl:look (.slice e) p.steps t.τ t.o t.x p.off=some (o',y))
  {B:Nat→Prop} {v:Value} (hh:hdrAt w B (ρ p.root) p v):
  ∃Fm,Rep (Stab c w rt Fo X) w (.slice e) o' [v] y Fm∧(∀k∈Fm,Bof c w rt ρ Fo X p.root k)∧Fm.Nodup:=by
 have hnd:=h.nodup _ _ ht
 rcases hdrAt_cases hh with ⟨cs,e1,e2,e3⟩ | ⟨b,q,hw,hc⟩
 ·have hroot:=h.roots _ _ ht
  unfold RootOK at hroot
  rw [e1] at hroot
  obtain ⟨hrep,_⟩:=hroot
  rw [e2] at hl
  obtain ⟨pp,m,qq,Fp,Fm,Fq,hcs,hp,hf,hm,_⟩:=subAt_focus hl hrep
  have hl1:=hm.length
  simp only [Ty.size] at hl1
  obtain ⟨u,rfl⟩:=List.length_eq_one_iff.1 hl1
  rw [hcs,←hp,List.append_assoc,List.getElem?_append_right (Nat.le_refl _),Nat.sub_self] at e3
  simp at e3
  subst e3
  rw [hf] at hnd
  exact ⟨Fm,hm,fun k hk=>.inr ⟨by rw [hf];simp [hk],fun b0 o0 e0=>by rw [e1] at e0;cases e0⟩,(List.nodup_append.1 (List.nodup_append.1 hnd).1).2.1⟩
 ·obtain ⟨m,Fm,g1,g2,g3,g4,g5⟩:=h.lookP ht hl hw
  have hl1:=g2.length
  simp only [Ty.size] at hl1
  obtain ⟨u,rfl⟩:=List.length_eq_one_iff.1 hl1
  have:=g1.cell (i:=0) rfl
  rw [Nat.add_zero,hc] at this
  simp only [Option.some.injEq] at this
  subst this
  obtain ⟨F2,hs,hk⟩:=(show ∃F2:List Nat,F2.Nodup∧Rep (Stab c w rt Fo X) w (.slice e) o' [v] y F2∧∀k∈F2,Bof c w rt ρ Fo X p.root k from by
   have hroot:=h.roots _ _ ht
   unfold RootOK at hroot
   unfold walkP at hw
   cases hL:ρ p.root with
   | mem b0 o0=>
    rw [hL] at hroot hw
    obtain ⟨cs,F',e0,hat,hfz,hrep,_⟩:=hroot
    rw [e0] at hnd
    obtain ⟨m,Fm,Fr,k1,k2,k3,_⟩:=focusH p.steps hrep hat hfz hnd hl hw
    have hl2:=k2.length
    simp only [Ty.size] at hl2
    obtain ⟨u',rfl⟩:=List.length_eq_one_iff.1 hl2
    have:=k1.cell (i:=0) rfl
    rw [Nat.add_zero,hc] at this
    cases this
    exact ⟨Fm,(List.nodup_append.1 (k3.nodup_iff.1 (List.nodup_cons.1 hnd).2)).1,k2,fun k hk=>.inr ⟨by rw [e0];exact List.mem_cons_of_mem _ (k3.mem_iff.2 (List.mem_append_left _ hk)),fun b1 o1 e1 e2=>by rw [hL] at e1;cases e1;subst e2;exact (List.nodup_cons.1 hnd).1 (k3.mem_iff.2 (List.mem_append_left _ hk))⟩⟩
   | reg cs=>
    rw [hL] at hroot hw
    obtain ⟨hrep,_⟩:=hroot
    dsimp only at hw
    cases hs:p.steps with
    | nil=>rw [hs] at hw;exact hw.elim
    | cons s r=>
     rw [hs] at hw hl
     obtain ⟨g0,a0,len,cap,j1,j2,j3,j4⟩:=hw
     obtain ⟨m,Fm,Fr,k1,k2,k3,_⟩:=focusR hrep hnd hl g0 j1 j2 j4
     have hl2:=k2.length
     simp only [Ty.size] at hl2
     obtain ⟨u',rfl⟩:=List.length_eq_one_iff.1 hl2
     have:=k1.cell (i:=0) rfl
     rw [Nat.add_zero,hc] at this
     cases this
     exact ⟨Fm,(List.nodup_append.1 (k3.nodup_iff.1 hnd)).1,k2,fun k hk=>.inr ⟨k3.mem_iff.2 (List.mem_append_left _ hk),fun b1 o1 e1=>by rw [hL] at e1;cases e1⟩⟩)
  exact ⟨F2,hk.1,hk.2,hs⟩
theorem now_s1 {t:Root} {p:Place}:(p.now t).s1≤t.v1 (p.now t).off:=by
 unfold Place.now
 dsimp only
 split
 ·exact Nat.zero_le _
 ·exact Nat.le_refl _
theorem hdrAt_of {w:World} {B:Nat→Prop} {L:Loc} {p:Place} {t:Root} {b q:Nat} {v:Value} (hw:walkP w B L p b q) (hc:w.cell? ⟨b,q,none⟩=some v):hdrAt w B L (p.now t) v:=
 hdrAt_walk (p:=p.now t) (by unfold walkP at *;exact hw) hc
theorem VRs.append {E:Env}:∀{l m:List V} {cs ds:List Value},VRs E l cs→VRs E m ds→VRs E (l++m) (cs++ds)
 | [],_,_,_,h,h'=>by rw [show _=[] from h];exact h'
 | _::l,_,_,_,⟨v,r,e,h1,h2⟩,h'=>⟨v,_,by rw [e];rfl,h1,h2.append h'⟩
theorem leavesV_sound {E:Env} {L:Loc} {t:Root} {r:Nat} (hL:E.ρ r=L):
  ∀{σ:Ty} {o:Ow} {y:σ.den} {p:Place} {l:List V} {m:List Value} {F:List Nat} {b q:Nat},leavesV t σ o y p=some l→p.root=r→Rep E.S E.w σ o m y F→At E.w b q m→walkP E.w (E.B r) L p b q→
   VRs E l m
 | .slice e,o,y,p,l,m,F,b,q,hl,hr,hrep,hat,hw=>by
  cases o with
  | imm=>
   simp only [leavesV,Option.some.injEq] at hl
   subst hl
   have hl1:=hrep.length
   simp only [Ty.size] at hl1
   obtain ⟨u,rfl⟩:=List.length_eq_one_iff.1 hl1
   exact ⟨u,[],rfl,⟨[u],rfl,allImm_rep (τ:=.slice e) (o:=.imm) rfl hrep⟩,rfl⟩
  | dead=>simp [leavesV] at hl
  | pr _ _=>simp [leavesV] at hl
  | own hh oe=>
   cases hh with
   | some _=>simp [leavesV] at hl
   | none=>
    simp only [leavesV,Option.some.injEq] at hl
    subst hl
    obtain ⟨a,cap,rfl,_⟩:=hrep
    refine ⟨_,[],rfl,fun hv=>⟨a,_,cap,?_,rfl⟩,rfl⟩
    have hr':(p.now t).root=r:=hr
    rw [hr',hL]
    exact hdrAt_of hw (by have:=hat.cell (i:=0) rfl;rwa [Nat.add_zero] at this)
 | .prod σ1 σ2,o,y,p,l,m,F,b,q,hl,hr,hrep,hat,hw=>by
  obtain ⟨c1,c2,F1,F2,rfl,rfl,h1,h2⟩:=hrep
  simp only [leavesV] at hl
  cases e1:leavesV t σ1 o.fst y.1 p with
  | none=>rw [e1] at hl;simp at hl
  | some l1=>
   cases e2:leavesV t σ2 o.snd y.2 (p.shift σ1.size) with
   | none=>rw [e1,e2] at hl;simp at hl
   | some l2=>
    rw [e1,e2] at hl
    simp only [Option.some.injEq] at hl
    subst hl
    rw [At.append] at hat
    refine (leavesV_sound hL e1 hr h1 hat.1 hw).append (leavesV_sound hL e2 (by rw [Place.shift_root];exact hr) h2 ?_ (walkP_shift _ hw))
    rw [←h1.length];exact hat.2
 | .st s,o,y,p,l,m,F,b,q,hl,hr,hrep,hat,hw=>leavesV_sound (σ:=s) hL hl hr hrep hat hw
 | .unit,o,y,p,l,m,F,b,q,hl,hr,hrep,hat,hw=>by
  simp only [leavesV,Option.some.injEq] at hl
  subst hl
  exact hrep.1
 | .arr _ _,o,y,p,l,m,F,b,q,hl,hr,hrep,hat,hw=>by simp [leavesV] at hl
 | .int k,o,y,p,l,m,F,b,q,hl,hr,hrep,hat,hw=>by
  cases o<;>simp only [leavesV,Option.some.injEq] at hl<;>first | (simp at hl;done) | (subst hl;exact ⟨_,[],(hrep.2.2 (by simp)).1,⟨_,rfl,rfl,rfl,fun _=>⟨rfl,(hrep.2.2 (by simp)).2⟩⟩,rfl⟩)
 | .bool,o,y,p,l,m,F,b,q,hl,hr,hrep,hat,hw=>by
  cases o<;>simp only [leavesV,Option.some.injEq] at hl<;>first | (simp at hl;done) | (subst hl;exact ⟨_,[],(hrep.2.2 (by simp)),⟨_,rfl,rfl,rfl,fun _=>rfl⟩,rfl⟩)
 | .str,o,y,p,l,m,F,b,q,hl,hr,hrep,hat,hw=>by
  cases o<;>simp only [leavesV,Option.some.injEq] at hl<;>first | (simp at hl;done) | (subst hl;exact ⟨_,[],(hrep.2.2 (by simp)).1,⟨_,rfl,rfl,rfl,fun _=>⟨rfl,(hrep.2.2 (by simp)).2⟩⟩,rfl⟩)
theorem ldV_sound {E:Env} {L:Loc} {t:Root} {r:Nat} (hL:E.ρ r=L) {σ:Ty} {o:Ow} {y:σ.den} {p:Place} {u:V} {m:List Value} {F:List Nat} {b q:Nat}
  (hl:ldV t σ o y p=some u) (hr:p.root=r) (hrep:Rep E.S E.w σ o m y F) (hat:At E.w b q m) (hw:walkP E.w (E.B r) L p b q):VR E u (valOf σ m):=by
 unfold ldV at hl
 split at hl
 ·rename_i ha
  simp only [Option.some.injEq] at hl
  subst hl
  exact ⟨m,rfl,allImm_rep ha hrep⟩
 ·split at hl
  ·rename_i e y _
   split at hl
   ·rename_i hh oe _
    simp only [Option.some.injEq] at hl
    subst hl
    obtain ⟨ad,cap,hcs,_⟩:=hrep
    subst hcs
    have hc:=hat.cell (i:=0) rfl
    rw [Nat.add_zero] at hc
    have hr':(p.now t).root=r:=hr
    refine fun _=>⟨ad,_,cap,?_,rfl⟩
    rw [hr',hL]
    exact hdrAt_of hw hc
   ·cases hl
  ·rename_i s y _
   cases e1:leavesV t s o y p with
   | none=>rw [e1] at hl;simp at hl
   | some l=>
    rw [e1] at hl
    simp only [Option.map_some,Option.some.injEq] at hl
    subst hl
    exact ⟨m,rfl,leavesV_sound (σ:=s) hL e1 hr hrep hat hw⟩
  ·cases hl
end
end Go.Rd
namespace Go.Rd
def constV:Value→Option V
 | .int k n=>if decide (k.min≤n)&&decide (n≤k.max) then some (.dat (.int k) n) else none
 | .bool b=>some (.dat .bool b)
 | .string s=>if Nat.ble s.size LMAX then some (.dat .str s) else none
 | .slice none 0 0=>some .nils
 | _=>none
def opnd (sl:Slots):Operand→Option V
 | .tmp t=>sl t
 | .const v=>constV v
 | _=>none
def hasG (c:Nat) (w:Bool):List (Nat×Bool)→Bool
 | []=>false
 | p::l=>(Nat.beq c p.1&&(w == p.2))||hasG c w l
def ungrd (gs:List (Nat×Bool)):V→Option V
 | .grd c w u=>if hasG c w gs then ungrd gs u else none
 | v=>some v
def opnds (sl:Slots) (g:List (Nat×Bool)):List Operand→Option (List V)
 | []=>some []
 | x::l=>match opnd sl x with
  | some v=>match ungrd g v,opnds sl g l with
   | some v,some r=>some (v::r)
   | _,_=>none
  | none=>none
def opsOf:Op→Option (List Operand)
 | .move x | .assign x | .box _ x | .load _ x | .nilCheck x | .unOp _ _ x | .convert _ _ x | .fieldAddr _ x _ | .field _ x _ | .extract x _=>some [x]
 | .store _ x y | .binOp _ _ x y _ | .indexAddr _ x y | .index _ x y | .makeSlice _ x y=>some [x,y]
 | .alloc _=>some []
 | .build _ ps | .buildSlice _ _ ps=>some (ps.toList.map (·.2))
 | .slice _ x lo hi none=>some (x::lo.toList++hi.toList)
 | .call k=>some k.args.toList
 | _=>none
def operandsOf (sl:Slots) (g:List (Nat×Bool)):Op→Option (List V)
 | .pick (.tmp s) x y=>match opnds sl g [.tmp s],opnds sl ((s,true)::g) [x],opnds sl ((s,false)::g) [y] with
  | some [.dat τ b],some [v],some [u]=>some [.dat τ b,v,u]
  | _,_,_=>none
 | op=>match opsOf op with
  | some l=>opnds sl g l
  | none=>none
mutual
def V.roots:V→List Nat
 | .ptr p=>[p.root]
 | .ali p _ _=>[p.root]
 | .grd _ _ u=>u.roots
 | .mix _ l=>V.rootsAll l
 | .tup l=>V.rootsAll l
 | _=>[]
def V.rootsAll:List V→List Nat
 | []=>[]
 | u::l=>u.roots++V.rootsAll l
end
mutual
def V.hasGrd:V→Bool
 | .grd _ _ _=>true
 | .mix _ l=>V.anyGrd l
 | .tup l=>V.anyGrd l
 | _=>false
def V.anyGrd:List V→Bool
 | []=>false
 | u::l=>u.hasGrd||V.anyGrd l
end
mutual
theorem V.lean_of:(u:V)→u.hasGrd=false→∀n,u.leans n=false
 | .grd _ _ _,h,_=>by simp [V.hasGrd] at h
 | .mix _ l,h,n=>V.leans_of l (by simpa [V.hasGrd] using h) n
 | .tup l,h,n=>V.leans_of l (by simpa [V.hasGrd] using h) n
 | .dat _ _,_,_=>rfl
 | .nils,_,_=>rfl
 | .ptr _,_,_=>rfl
 | .ali _ _ _,_,_=>rfl
 | .ipt _ _ _,_,_=>rfl
theorem V.leans_of:(l:List V)→V.anyGrd l=false→∀n,V.leansAny l n=false
 | [],_,_=>rfl
 | u::l,h,n=>by
  simp only [V.anyGrd,Bool.or_eq_false_iff] at h
  simp only [V.leansAny,V.lean_of u h.1 n,V.leans_of l h.2 n,Bool.or_false]
end
def hasNat (n:Nat):List Nat→Bool
 | []=>false
 | m::l=>Nat.beq n m||hasNat n l
def ret1 (d:Option Nat) (v:V) (us:List (Nat×Root)):Pr Dl:=match d with
 | some d=>.ret ⟨some (d,some v),us⟩
 | none=>.ret ⟨none,us⟩
def rootPtr (d:Nat):V:=.ptr ⟨d,0,[],0,0⟩
def pickV (g:Bool):V→V→Option V
 | .dat τ x,.dat τ' y=>if h:τ'.beq τ=true then some (.dat τ (bif g then x else recast h y)) else none
 | _,_=>none
def grabPart (rt:Roots) (us:List (Nat×Root)) (mv:Bool) (σ:Ty) (i:Nat) (ps:List (Nat×V)):Option (Ow×σ.den×List (Nat×Root)):=
 match ps.find? (fun q=>Nat.beq q.1 i) with
 | some q=>grab rt us mv σ q.2
 | none=>some (Ow.full σ,σ.zero,us)
def buildAt (rt:Roots) (mv:Bool):(τ:Ty)→Nat→List (Nat×Root)→List (Nat×V)→Option (Ow×τ.den×List (Nat×Root))
 | .prod a b,i,us,ps=>
  match grabPart rt us mv a i ps with
  | some (oa,x,us')=>match buildAt rt mv b (i+1) us' ps with
   | some (ob,y,us'')=>some (.pr oa ob,(x,y),us'')
   | none=>none
  | none=>none
 | .unit,_,us,_=>some (.imm,(),us)
 | τ,i,us,ps=>grabPart rt us mv τ i ps
def nFields:Ty→Nat
 | .prod _ b=>nFields b+1
 | .unit=>0
 | _=>1
def idxOK (n:Nat):List Nat→Bool
 | []=>true
 | i::l=>Nat.blt i n&&!hasNat i l&&idxOK n l
def elems (rt:Roots) (mv:Bool) (e:Ty):List (Nat×Root)→List V→Option (Ow×List e.den×List (Nat×Root))
 | us,[]=>some (Ow.full e,[],us)
 | us,v::l=>match grab rt us mv e v with
  | some (o,x,us')=>match elems rt mv e us' l with
   | some (o',xs,us'')=>if wk e (meet e o o') o&&wk e (meet e o o') o' then some (meet e o o',x::xs,us'') else none
   | none=>none
  | none=>none
def rdG (rt:Roots) (us:List (Nat×Root)) (e:Ty):V→Option (List e.den)
 | .dat τ x=>if h:τ.beq (.slice e)=true then some (recast h x) else none
 | .nils=>some []
 | .ali p e2 rg=>if e2.beq e&&okA rt p then
   (match lk us rt p.root with
   | some t=>match look (.slice e) p.steps t.τ t.o t.x p.off with
    | some (o,y)=>if wk (.slice e) .imm o then some (cutL rg y) else none
    | none=>none
   | none=>none) else none
 | _=>none
def appSrc (rt:Roots) (us:List (Nat×Root)) (e:Ty) (x:V):Option (Ow×List e.den×List (Nat×Root)):=
 if e.hasSlice then (match grab rt us false (.slice e) x with
  | some (.imm,ys,us')=>some (.imm,ys,us')
  | some (.own none ox,ys,us')=>some (ox,ys,us')
  | _=>none)
 else (rdG rt us e x).map fun ys=>(.imm,ys,us)
def dlAppend (T:Tab) (ts:Array TypeId) (d:Nat) (s x:V) (rt:Roots):Pr Dl:=
 match ts[0]?,ts[1]? with
 | some t,some tx=>match T t,T tx with
  | some (.slice e),some (.slice e2)=>if e.beq e2 then
    match grab rt [] true (.slice e) s with
    | some (.own none oe,xs,us)=>match appSrc rt us e x with
     | some (ox,ys,us')=>
      if wk e (meet e oe ox) oe&&wk e (meet e oe ox) ox&&wk e .imm ox&&(lk us' rt d).isNone then
       .asrt (Nat.ble (List.length xs+List.length ys) 4294967296) (.ret ⟨some (d,some (.ali ⟨d,0,[],0,0⟩ e none)),(d,.fresh (.slice e) (.own none (meet e oe ox)) (List.append xs ys) true)::us'⟩)
      else .fail
     | none=>.fail
    | _=>.fail
   else .fail
  | _,_=>.fail
 | _,_=>.fail
def copyL {α:Type} (y:List α) (lo:Nat) (zs:List α):List α:=List.append (List.append (y.take lo) zs) (y.drop (lo+zs.length))
def dlCopy (T:Tab) (ts:Array TypeId) (d:Option Nat) (s x:V) (rt:Roots):Pr Dl:=
 match s with
 | .ali p e rg=>match ts[0]? with
  | some t0=>match T t0 with
   | some (.slice e2)=>if e2.beq e&&!e.hasSlice&&p.steps.isEmpty&&okA rt p then
     match rt p.root,rdG rt [] e x with
     | some t,some zs=>
      match subAt (.slice e) t.τ t.o t.x p.off with
      | some (.own none _,y)=>
       if wk t.τ (modO (fun _ _=>.own none .imm) t.τ t.o p.off) t.o then
        match setAt (.slice e) (.own none .imm,copyL y (cutLo rg) (zs.take (Nat.min (List.length zs) (List.length (cutL rg y))))) t.τ (modO (fun _ _=>.own none .imm) t.τ t.o p.off) t.x p.off with
        | some (o3,x3)=>ret1 d (.dat (.int .i64) (Int.ofNat (Nat.min (List.length zs) (List.length (cutL rg y))))) [(p.root,{ t with o:=o3,x:=x3 })]
        | none=>.fail
       else .fail
      | _=>.fail
     | _,_=>.fail
    else .fail
   | _=>.fail
  | none=>.fail
 | _=>.fail
def core (T:Tab) (eqs:Nat→Bool) (mv:Bool) (op:Op) (d:Option Nat) (vs:List V) (rt:Roots):Pr Dl:=
 match op,vs with
 | .move _,[v]=>if v.hasGrd then .fail else ret1 d v []
 | .assign _,[v]=>if v.hasGrd then .fail else ret1 d v []
 | .pick _ _ _,[.dat .bool g,x,y]=>match pickV g x y with
  | some v=>ret1 d v []
  | none=>.fail
 | .alloc t,[]=>match T t,d with
  | some τ,some d=>if (rt d).isNone then .ret ⟨some (d,some (rootPtr d)),[(d,.fresh τ (.full τ) τ.zero false)]⟩ else .fail
  | _,_=>.fail
 | .box t _,[v]=>match T t,d with
  | some τ,some d=>match grab rt [] mv τ v with
   | some (o,x,us)=>if (lk us rt d).isNone then .ret ⟨some (d,some (rootPtr d)),(d,.fresh τ o x false)::us⟩ else .fail
   | none=>.fail
  | _,_=>.fail
 | .load t _,[v]=>match T t with
  | some σ=>if mv then (match σ,v,d with
    | .slice e,.ptr p,some d=>Pr.ofOpt (dlTake rt d e p)
    | _,_,_=>.fail)
   else match dlLoad rt σ v with
   | some u=>ret1 d u []
   | none=>.fail
  | none=>.fail
 | .store t _ _,[.ptr p,v]=>match T t with
  | some σ=>match d with
   | none=>(match dlFill rt mv σ p v with
    | some (i,n,Δ)=>.asrt (Nat.beq i n) (.ret Δ)
    | none=>Pr.ofOpt (dlStore rt mv σ p v))
   | some _=>.fail
  | none=>.fail
 | .fieldAddr s _ f,[v]=>match dlField T rt s f v with
  | some u=>ret1 d u []
  | none=>.fail
 | .indexAddr t _ _,[v,.dat (.int _) i]=>(dlIndexAddr T rt t i v).andThen fun u=>ret1 d u []
 | .index t _ _,[v,.dat (.int _) i]=>(dlIndex T t i v).andThen fun u=>ret1 d u []
 | .binOp o t _ _ _,[x,y]=>(dlBin T eqs o t x y).andThen fun u=>ret1 d u []
 | .unOp .not _ _,[.dat .bool b]=>ret1 d (.dat .bool (!b)) []
 | .convert s t _,[.dat (.int _) n]=>match T s,T t with
  | some _,some (.int k)=>ret1 d (.dat (.int k) (k.wrap n)) []
  | _,_=>.fail
 | .nilCheck _,[.ptr p]=>if okP rt p then ret1 d (.ptr p) [] else .fail
 | .nilCheck _,[.ipt τ x off]=>ret1 d (.ipt τ x off) []
 | .extract _ i,[.tup l]=>match l[i]? with
  | some v=>if V.anyGrd l then .fail else ret1 d v []
  | none=>.fail
 | .build t ps,vs=>match T t,d with
  | some (.st τ),some d=>if idxOK (nFields τ) (ps.toList.map (·.1)) then match buildAt rt mv τ 0 [] ((ps.toList.map (·.1)).zip vs) with
   | some (o,x,us)=>
    if allImm τ o then ret1 (some d) (.dat (.st τ) x) us
    else if (lk us rt d).isNone then
     match leavesV (.fresh (.st τ) o x true) τ o x ⟨d,0,[],0,0⟩ with
     | some l=>.ret ⟨some (d,some (.mix (.st τ) l)),(d,.fresh (.st τ) o x true)::us⟩
     | none=>.fail
    else .fail
   | none=>.fail else .fail
  | some (.arr n e),_=>
   if ps.toList.isEmpty then ret1 d (.dat (.arr n e) (Ty.zero (.arr n e))) []
   else if Nat.beq n vs.length&&(ps.toList.map (·.1) == List.range n) then
    match elems rt mv e [] vs with
    | some (o,xs,us)=>if allImm e o then ret1 d (.dat (.arr n e) xs) us else .fail
    | none=>.fail
   else .fail
  | _,_=>.fail
 | .buildSlice t n ps,vs=>match T t,d with
  | some (.slice e),some d=>if Nat.beq n vs.length&&(ps.toList.map (·.1) == List.range n)&&Nat.ble (n * e.size) 16777216 then
    match elems rt mv e [] vs with
    | some (o,xs,us)=>if (lk us rt d).isNone then .ret ⟨some (d,some (.ali ⟨d,0,[],0,0⟩ e none)),(d,.fresh (.slice e) (.own none o) xs true)::us⟩ else .fail
    | none=>.fail
   else .fail
  | _,_=>.fail
 | .makeSlice t _ _,[.dat (.int _) n,.dat (.int _) m]=>match T t,d with
  | some (.slice e),some d=>if (rt d).isNone then .asrt (decide (0≤n)&&decide (n≤m)&&decide (m≤4294967296)) (.ret ⟨some (d,some (.ali ⟨d,0,[],0,0⟩ e none)),[(d,.fresh (.slice e) (.own none (.full e)) (List.replicate n.toNat e.zero) true)]⟩) else .fail
  | _,_=>.fail
 | .slice t _ lo hi none,v::l=>match T t with
  | some (.slice e)=>match lo,hi,l with
   | none,none,[]=>(dlSlice e v none none rt).andThen fun u=>ret1 d u []
   | some _,none,[.dat (.int _) n]=>(dlSlice e v (some n) none rt).andThen fun u=>ret1 d u []
   | none,some _,[.dat (.int _) m]=>(dlSlice e v none (some m) rt).andThen fun u=>ret1 d u []
   | some _,some _,[.dat (.int _) n,.dat (.int _) m]=>(dlSlice e v (some n) (some m) rt).andThen fun u=>ret1 d u []
   | _,_,_=>.fail
  | _=>.fail
 | .call { callee:=.builtin .len,argTypes:=ts,.. },[v]=>match ts[0]? with
  | some t=>match dlLen T t rt v with
   | some n=>ret1 d (.dat (.int .i64) n) []
   | none=>.fail
  | none=>.fail
 | .call { callee:=.builtin .append,argTypes:=ts,.. },[s,x]=>match d with
  | some d=>if Nat.beq ts.size 2 then dlAppend T ts d s x rt else .fail
  | none=>.fail
 | .call { callee:=.builtin .copy,argTypes:=ts,.. },[s,x]=>dlCopy T ts d s x rt
 | .call { callee:=.builtin .min,.. },[.dat (.int k) x,.dat (.int k') y]=>if decide (k=k') then ret1 d (.dat (.int k) (if y<x then y else x)) [] else .fail
 | .call { callee:=.builtin .max,.. },[.dat (.int k) x,.dat (.int k') y]=>if decide (k=k') then ret1 d (.dat (.int k) (if y > x then y else x)) [] else .fail
 | _,_=>.fail
end Go.Rd
namespace Go.Rd
theorem rep_int {S:Nat→Prop} {w:World} {k:IntKind} {n:Int} (h1:k.min≤n) (h2:n≤k.max):Rep S w (.int k) .imm [.int k n] n []:=⟨rfl,rfl,fun _=>⟨rfl,h1,h2⟩⟩
theorem VR_int {E:Env} {k:IntKind} {n:Int} (h1:k.min≤n) (h2:n≤k.max):VR E (.dat (.int k) n) (.int k n):=⟨_,rfl,rep_int h1 h2⟩
theorem VR_bool {E:Env} {b:Bool}:VR E (.dat .bool b) (.bool b):=⟨[.bool b],rfl,rfl,rfl,fun _=>rfl⟩
theorem VR_int_inv {E:Env} {k:IntKind} {n:Int} {v:Value} (h:VR E (.dat (.int k) n) v):v=.int k n∧k.min≤n∧n≤k.max:=by
 obtain ⟨cs,hv,_,_,h⟩:=h
 obtain ⟨rfl,h1,h2⟩:=h (by simp)
 exact ⟨hv,h1,h2⟩
theorem VR_bool_inv {E:Env} {b:Bool} {v:Value} (h:VR E (.dat .bool b) v):v=.bool b:=by
 obtain ⟨cs,hv,_,_,h⟩:=h
 rw [h (by simp)] at hv;exact hv
theorem constV_sound {E:Env} {v:Value} {u:V} (h:constV v=some u):VR E u v∧(∀Q,u.holds Q)∧∀n,u.leans n=false:=by
 unfold constV at h
 split at h
 ·split at h
  ·rename_i h'
   simp only [Bool.and_eq_true,decide_eq_true_eq] at h'
   cases h;exact ⟨VR_int h'.1 h'.2,fun _=>trivial,fun _=>rfl⟩
  ·cases h
 ·cases h;exact ⟨VR_bool,fun _=>trivial,fun _=>rfl⟩
 ·split at h
  ·rename_i s h'
   cases h;exact ⟨⟨[.string s],rfl,rfl,rfl,fun _=>⟨rfl,Nat.le_of_ble_eq_true h'⟩⟩,fun _=>trivial,fun _=>rfl⟩
  ·cases h
 ·cases h;exact ⟨rfl,fun _=>trivial,fun _=>rfl⟩
 ·cases h
section
variable {c:Ctx} {sl:Slots} {rt:Roots} {ρ:Nat→Loc} {Fo:Nat→List Nat} {X:List Nat} {a:Act} {w:World}
theorem RR.opnd (h:RR c sl rt ρ Fo X a w) {x:Operand} {u:V} (hx:opnd sl x=some u):VR (envOf c sl rt ρ Fo X w) u (a.eval x)∧u.holds (PlaceOK rt):=by
 cases x with
 | tmp t=>exact ⟨h.slots t u hx,h.named t u hx⟩
 | const v=>obtain ⟨h1,h2,_⟩:=constV_sound (E:=envOf c sl rt ρ Fo X w) hx;exact ⟨h1,h2 _⟩
 | global _=>simp [Rd.opnd] at hx
 | func _=>simp [Rd.opnd] at hx
def GuardOK (sl:Slots) (gs:List (Nat×Bool)):Prop:=∀s wt,hasG s wt gs=true→gb (sl s)=some wt
theorem ungrd_sound {E:Env} {g:List (Nat×Bool)} (hg:GuardOK E.sl g):∀{u u':V} {v:Value},ungrd g u=some u'→VR E u v→VR E u' v
 | .grd c w u,u',v,h,hv=>by
  simp only [ungrd] at h
  split at h
  ·rename_i hb;exact ungrd_sound hg h (hv.1 (hg _ _ hb))
  ·cases h
 | .dat _ _,u',v,h,hv=>by cases h;exact hv
 | .nils,u',v,h,hv=>by cases h;exact hv
 | .ptr _,u',v,h,hv=>by cases h;exact hv
 | .ali _ _ _,u',v,h,hv=>by cases h;exact hv
 | .mix _ _,u',v,h,hv=>by cases h;exact hv
 | .ipt _ _ _,u',v,h,hv=>by cases h;exact hv
 | .tup _,u',v,h,hv=>by cases h;exact hv
theorem ungrd_holds {Q:Place→Prop} {g:List (Nat×Bool)}:∀{u u':V},ungrd g u=some u'→u.holds Q→u'.holds Q
 | .grd c w u,u',h,hv=>by
  simp only [ungrd] at h
  split at h
  ·exact ungrd_holds (u:=u) h hv
  ·cases h
 | .dat _ _,u',h,hv=>by cases h;exact hv
 | .nils,u',h,hv=>by cases h;exact hv
 | .ptr _,u',h,hv=>by cases h;exact hv
 | .ali _ _ _,u',h,hv=>by cases h;exact hv
 | .mix _ _,u',h,hv=>by cases h;exact hv
 | .ipt _ _ _,u',h,hv=>by cases h;exact hv
 | .tup _,u',h,hv=>by cases h;exact hv
theorem RR.opnds (h:RR c sl rt ρ Fo X a w) {g:List (Nat×Bool)} (hg:GuardOK sl g):∀{l:List Operand} {vs:List V},opnds sl g l=some vs→VRs (envOf c sl rt ρ Fo X w) vs (l.map a.eval)∧V.holdsAll (PlaceOK rt) vs
 | [],vs,hl=>by simp only [Rd.opnds,Option.some.injEq] at hl;subst hl;exact ⟨rfl,trivial⟩
 | x::l,vs,hl=>by
  simp only [Rd.opnds] at hl
  cases h1:Rd.opnd sl x with
  | none=>rw [h1] at hl;simp at hl
  | some u=>
   rw [h1] at hl
   dsimp only at hl
   cases h2:ungrd g u with
   | none=>rw [h2] at hl;simp at hl
   | some u'=>
    cases h3:Rd.opnds sl g l with
    | none=>rw [h2,h3] at hl;simp at hl
    | some r=>
     rw [h2,h3] at hl
     simp only [Option.some.injEq] at hl
     subst hl
     obtain ⟨k1,k2⟩:=h.opnd h1
     obtain ⟨k3,k4⟩:=RR.opnds h hg h3
     exact ⟨⟨_,_,rfl,ungrd_sound (E:=envOf c sl rt ρ Fo X w) hg h2 k1,k3⟩,ungrd_holds h2 k2,k4⟩
def Good (c:Ctx) (sl:Slots) (rt:Roots) (K:Act→World→Prop):Prop:=∀ρ Fo a w,RR c sl rt ρ Fo [] a w→K a w
def DstOK (c:Ctx) (sl:Slots) (d:Option Nat):Prop:=∀n,d=some n→n<c.nt∧Free sl n
theorem fin1 {us:List (Nat×Root)} {rt':Roots} (e:lk us rt=rt') (h:RR c sl rt' ρ Fo [] a w) {d:Option Nat} (hd:DstOK c sl d) {u:V} {v:Value} (hv:VR (envOf c sl rt' ρ Fo [] w) u v) (hh:u.holds (PlaceOK rt'))
  (hl:∀n,u.leans n=false) {Δ:Dl} (hy:Yields (ret1 d u us) Δ) {K:Act→World→Prop} (hK:Good c (Δ.slots sl) (lk Δ.rt rt) K):K (a.put d v) w:=by
 subst e
 cases d with
 | none=>
  simp only [ret1] at hy
  cases hy
  exact hK _ _ _ _ h
 | some d=>
  simp only [ret1] at hy
  cases hy
  obtain ⟨h1,h2⟩:=hd d rfl
  exact hK _ _ _ _ (h.slot d (some u) v h1 h2 (fun x hx=>by cases hx;exact hl d) (fun x hx=>by cases hx;exact hv) (fun x hx=>by cases hx;exact hh))
theorem fin0 (h:RR c sl rt ρ Fo [] a w) {d:Option Nat} (hd:DstOK c sl d) {u:V} {v:Value} {Δ:Dl} (hy:Yields (ret1 d u []) Δ) {K:Act→World→Prop} (hK:Good c (Δ.slots sl) (lk Δ.rt rt) K)
  (hv:VR (envOf c sl rt ρ Fo [] w) u v) (hh:u.holds (PlaceOK rt)) (hl:∀n,u.leans n=false):K (a.put d v) w:=fin1 (us:=[]) rfl h hd hv hh hl hy hK
theorem wp_value {P:Program} {o:Oper} {K:Act→World→Prop} {Q:Exit→Act→World→Prop} {v:Value} {w':World} (h:(execOp a.eval o).run P w=.ok (.value v) w') (hk:K (a.put o.dst v) w'):o.wp P a w K Q:=by
 unfold Oper.wp;rw [h];exact hk
theorem wp_skip' {P:Program} {o:Oper} {K:Act→World→Prop} {Q:Exit→Act→World→Prop} {w':World} (h:(execOp a.eval o).run P w=.ok .skip w') (hk:K (a.put o.dst undef) w'):o.wp P a w K Q:=by
 unfold Oper.wp;rw [h];exact hk
theorem wrap_in (k:IntKind) (n:Int):k.min≤k.wrap n∧k.wrap n≤k.max:=by
 have hpos:(0:Int)<2 ^ k.bits:=by cases k<;>decide
 have h1:=Int.emod_nonneg n (Int.ne_of_gt hpos)
 have h2:=Int.emod_lt_of_pos n hpos
 cases k<;>simp only [IntKind.wrap,IntKind.min,IntKind.max,IntKind.bits,IntKind.signed] at *<;>simp at *<;>(try split)<;>omega
end
end Go.Rd
namespace Go.Rd
theorem validP_sub {rt rt':Roots} (hs:∀r t,rt' r=some t→rt r=some t) {p:Place} (h:validP rt' p):validP rt p:=by
 obtain ⟨h1,t,h2,h3⟩:=h;exact ⟨h1,t,hs _ _ h2,h3⟩
theorem validA_sub {rt rt':Roots} (hs:∀r t,rt' r=some t→rt r=some t) {p:Place} (h:validA rt' p):validA rt p:=by
 obtain ⟨h1,t,h2,h3⟩:=h;exact ⟨h1,t,hs _ _ h2,h3⟩
section
variable {P:Program} {T:Tab} {c:Ctx} {sl:Slots} {rt rt':Roots} {ρ:Nat→Loc} {Fo:Nat→List Nat} {X:List Nat} {a:Act} {w:World} {K:Act→World→Prop} {Q:Exit→Act→World→Prop} {o:Oper} {Δ:Dl}
theorem leavesV_ok {t:Root}:∀{σ:Ty} {o:Ow} {y:σ.den} {p:Place} {l:List V},rt p.root=some t→leavesV t σ o y p=some l→V.holdsAll (PlaceOK rt) l∧∀n,V.leansAny l n=false
 | .slice e,o,y,p,l,hr,hl=>by
  cases o with
  | imm=>simp only [leavesV,Option.some.injEq] at hl;subst hl;exact ⟨⟨trivial,trivial⟩,fun _=>rfl⟩
  | dead=>simp [leavesV] at hl
  | pr _ _=>simp [leavesV] at hl
  | own hh oe=>
   cases hh with
   | some _=>simp [leavesV] at hl
   | none=>simp only [leavesV,Option.some.injEq] at hl;subst hl;exact ⟨⟨⟨t,hr,Nat.le_refl _,now_s1⟩,trivial⟩,fun _=>rfl⟩
 | .prod a b,o,y,p,l,hr,hl=>by
  simp only [leavesV] at hl
  cases e1:leavesV t a o.fst y.1 p with
  | none=>rw [e1] at hl;simp at hl
  | some l1=>
   cases e2:leavesV t b o.snd y.2 (p.shift a.size) with
   | none=>rw [e1,e2] at hl;simp at hl
   | some l2=>
    rw [e1,e2] at hl
    simp only [Option.some.injEq] at hl
    subst hl
    obtain ⟨h1,h2⟩:=leavesV_ok hr e1
    obtain ⟨h3,h4⟩:=leavesV_ok (by rw [Place.shift_root];exact hr) e2
    have ap:∀(l m:List V),V.holdsAll (PlaceOK rt) l→V.holdsAll (PlaceOK rt) m→V.holdsAll (PlaceOK rt) (l++m):=by
     intro l
     induction l with
     | nil=>intro m _ h;exact h
     | cons x l ih=>intro m h h';exact ⟨h.1,ih m h.2 h'⟩
    have bp:∀(l m:List V) (n:Nat),V.leansAny l n=false→V.leansAny m n=false→V.leansAny (l++m) n=false:=by
     intro l
     induction l with
     | nil=>intro m n _ h;exact h
     | cons x l ih=>intro m n h h';simp only [V.leansAny,Bool.or_eq_false_iff] at h;simp only [List.cons_append,V.leansAny,h.1,ih m n h.2 h',Bool.or_false]
    exact ⟨ap _ _ h1 h3,fun n=>bp _ _ n (h2 n) (h4 n)⟩
 | .st s,o,y,p,l,hr,hl=>leavesV_ok (σ:=s) hr hl
 | .unit,o,y,p,l,hr,hl=>by simp only [leavesV,Option.some.injEq] at hl;subst hl;exact ⟨trivial,fun _=>rfl⟩
 | .arr _ _,o,y,p,l,hr,hl=>by simp [leavesV] at hl
 | .int k,o,y,p,l,hr,hl=>by
  cases o<;>simp only [leavesV,Option.some.injEq] at hl<;>first | (simp at hl;done) | (subst hl;exact ⟨⟨trivial,trivial⟩,fun _=>rfl⟩)
 | .bool,o,y,p,l,hr,hl=>by
  cases o<;>simp only [leavesV,Option.some.injEq] at hl<;>first | (simp at hl;done) | (subst hl;exact ⟨⟨trivial,trivial⟩,fun _=>rfl⟩)
 | .str,o,y,p,l,hr,hl=>by
  cases o<;>simp only [leavesV,Option.some.injEq] at hl<;>first | (simp at hl;done) | (subst hl;exact ⟨⟨trivial,trivial⟩,fun _=>rfl⟩)
theorem ldV_ok {t:Root} {σ:Ty} {o:Ow} {y:σ.den} {p:Place} {u:V} (hr:rt p.root=some t) (hl:ldV t σ o y p=some u):u.holds (PlaceOK rt)∧∀n,u.leans n=false:=by
 unfold ldV at hl
 split at hl
 ·simp only [Option.some.injEq] at hl;subst hl;exact ⟨trivial,fun _=>rfl⟩
 ·split at hl
  ·split at hl
   ·simp only [Option.some.injEq] at hl;subst hl;exact ⟨⟨t,hr,Nat.le_refl _,now_s1⟩,fun _=>rfl⟩
   ·cases hl
  ·rename_i s y _
   cases e1:leavesV t s o y p with
   | none=>rw [e1] at hl;simp at hl
   | some l=>
    rw [e1] at hl
    simp only [Option.map_some,Option.some.injEq] at hl
    subst hl
    exact leavesV_ok hr e1
  ·cases hl
theorem op_load (hT:TOK P T) (hs:∀r t,rt' r=some t→rt r=some t) (h:RR c sl rt ρ Fo [] a w) {t:TypeId} {x:Operand} (ho:o.op=.load t x) {v:V} (hv:VR (envOf c sl rt ρ Fo [] w) v (a.eval x)) {σ:Ty} (ht:T t=some σ)
  {u:V} (hl:dlLoad rt' σ v=some u) (hd:DstOK c sl o.dst) (hy:Yields (ret1 o.dst u []) Δ) (hK:Good c (Δ.slots sl) (lk Δ.rt rt) K):o.wp P a w K Q:=by
 unfold dlLoad at hl
 split at hl
 ·rename_i p
  split at hl
  ·rename_i hok
   split at hl
   ·rename_i t0 ht0
    have ht0:=hs _ _ ht0
    split at hl
    ·rename_i o' y hlk
     have hvp:=validP_sub hs (okP_valid hok)
     obtain ⟨b,q,hw,e⟩:=hv hvp
     obtain ⟨m,Fm,g1,g2,_⟩:=h.lookP ht0 hlk hw
     obtain ⟨k1,k2⟩:=ldV_ok ht0 hl
     have hsnd:=ldV_sound (E:=envOf c sl rt ρ Fo [] w) (r:=p.root) rfl hl rfl g2 g1 hw
     refine wp_value (w':=w) (v:=valOf σ m) ?_ (fin0 h hd hy hK hsnd k1 k2)
     have:=run_loadAt (w:=w) (hT.get ht) g1 g2.length
     simp [execOp,ho,e,this]
    ·cases hl
   ·cases hl
  ·cases hl
 ·rename_i τ xx off
  split at hl
  ·rename_i y hsub
   simp only [Option.some.injEq] at hl
   subst hl
   obtain ⟨b,q,cs,hS,hat,hr,e⟩:=hv
   obtain ⟨pp,m,qq,Fp,Fm,Fq,hcs,hp,hf,hm,_⟩:=subAt_focus hsub hr
   have hFm:Fm=[]:=by
    have:=congrArg List.length hf
    simp at this
    exact List.eq_nil_of_length_eq_zero (by omega)
   subst hFm hcs
   have hatm:=subAt_at hat
   rw [hp] at hatm
   refine wp_value (w':=w) (v:=valOf σ m) ?_ (fin0 h hd hy hK ⟨m,rfl,hm⟩ trivial (fun _=>rfl))
   have:=run_loadAt (w:=w) (hT.get ht) hatm hm.length
   simp [execOp,ho,e,this]
  ·cases hl
 ·cases hl
theorem op_field (hT:TOK P T) (hs:∀r t,rt' r=some t→rt r=some t) (h:RR c sl rt ρ Fo [] a w) {s:TypeId} {x:Operand} {f:Nat} (ho:o.op=.fieldAddr s x f) {v:V} (hv:VR (envOf c sl rt ρ Fo [] w) v (a.eval x)) (hh:v.holds (PlaceOK rt))
  {u:V} (hl:dlField T rt' s f v=some u) (hd:DstOK c sl o.dst) (hy:Yields (ret1 o.dst u []) Δ) (hK:Good c (Δ.slots sl) (lk Δ.rt rt) K):o.wp P a w K Q:=by
 unfold dlField at hl
 split at hl
 ·rename_i p
  split at hl
  ·rename_i hok
   split at hl
   ·rename_i τ ht
    cases hf:fieldOff τ f with
    | none=>rw [hf] at hl;simp at hl
    | some r=>
     rw [hf] at hl
     simp only [Option.map_some,Option.some.injEq] at hl
     subst hl
     obtain ⟨b,q,hw,e⟩:=hv (validP_sub hs (okP_valid hok))
     refine wp_value (w':=w) (v:=.pointer (some ⟨b,q+r.1,none⟩)) ?_ (fin0 h hd hy hK (fun _=>⟨b,q+r.1,?_,rfl⟩) ?_ (fun _=>rfl))
     ·have:=run_fieldAt (w:=w) (hT.get ht) hT hf (b:=b) (q:=q)
      simp [execOp,ho,e,this]
     ·have:=walkP_shift r.1 hw
      rw [Place.shift_root];exact this
     ·obtain ⟨t,h1,h2,h3⟩:=hh
      refine ⟨t,by rw [Place.shift_root];exact h1,?_⟩
      by_cases hst:p.steps=[]
      ·rw [Place.shift_nil hst];exact ⟨Nat.zero_le _,Nat.zero_le _⟩
      ·rw [Place.shift_cons hst];exact ⟨h2,h3⟩
   ·cases hl
  ·cases hl
 ·rename_i τ xx off
  split at hl
  ·rename_i τ' ht
   cases hf:fieldOff τ' f with
   | none=>rw [hf] at hl;simp at hl
   | some r=>
    rw [hf] at hl
    simp only [Option.map_some,Option.some.injEq] at hl
    subst hl
    obtain ⟨b,q,cs,hS,hat,hr,e⟩:=hv
    refine wp_value (w':=w) (v:=.pointer (some ⟨b,q+off+r.1,none⟩)) ?_ (fin0 h hd hy hK ⟨b,q,cs,hS,hat,hr,by rw [Nat.add_assoc]⟩ trivial (fun _=>rfl))
    have:=run_fieldAt (w:=w) (hT.get ht) hT hf (b:=b) (q:=q+off)
    simp [execOp,ho,e,this]
  ·cases hl
 ·cases hl
end
end Go.Rd
namespace Go.Rd
theorem walkH_snoc {w:World} {B:Nat→Prop} {n es so a0 len cap:Nat}:∀(l:List Step) (b o b' q:Nat),walkH w B b o l b' q→w.cell? ⟨b',q,none⟩=some (.slice (some ⟨a0,0,none⟩) len cap)→n<len→B a0→
  walkH w B b o (l++[⟨n,es,so,none⟩]) a0 (n * es+so)
 | [],b,o,b',q,h,hc,hn,hB=>by obtain ⟨rfl,rfl⟩:=h;exact ⟨a0,len,cap,hc,hn,hB,rfl,rfl⟩
 | s::r,b,o,b',q,h,hc,hn,hB=>by
  obtain ⟨m,em,mo,cnt⟩:=s
  cases cnt with
  | none=>obtain ⟨a1,l1,c1,h1,h2,h3,h4⟩:=h;exact ⟨a1,l1,c1,h1,h2,h3,walkH_snoc r _ _ _ _ h4 hc hn hB⟩
  | some k=>exact ⟨h.1,walkH_snoc r _ _ _ _ h.2 hc hn hB⟩
theorem walkH_snoc_arr {w:World} {B:Nat→Prop} {n es so k:Nat}:∀(l:List Step) (b o b' q:Nat),walkH w B b o l b' q→n<k→walkH w B b o (l++[⟨n,es,so,some k⟩]) b' (q+n * es+so)
 | [],b,o,b',q,h,hn=>by obtain ⟨rfl,rfl⟩:=h;exact ⟨hn,rfl,rfl⟩
 | s::r,b,o,b',q,h,hn=>by
  obtain ⟨m,em,mo,cnt⟩:=s
  cases cnt with
  | none=>obtain ⟨a1,l1,c1,h1,h2,h3,h4⟩:=h;exact ⟨a1,l1,c1,h1,h2,h3,walkH_snoc_arr r _ _ _ _ h4 hn⟩
  | some k=>exact ⟨h.1,walkH_snoc_arr r _ _ _ _ h.2 hn⟩
theorem walkP_snoc {w:World} {B:Nat→Prop} {L:Loc} {p p':Place} {n es so a0 len cap:Nat} (hp:p'.steps=p.steps++[⟨n,es,so,none⟩]) (ho:p'.off=p.off)
  (h:hdrAt w B L p (.slice (some ⟨a0,0,none⟩) len cap)) (hn:n<len) (hB:B a0):walkP w B L p' a0 (n * es+so):=by
 rcases hdrAt_cases h with ⟨cs,rfl,e2,e3⟩ | ⟨b,q,hw,hc⟩
 ·unfold walkP
  rw [hp,e2,ho]
  exact ⟨rfl,a0,len,cap,e3,hn,hB,rfl,rfl⟩
 ·unfold walkP at *
  cases L with
  | mem b0 o0=>
   dsimp only at *
   rw [hp,ho];exact walkH_snoc _ _ _ _ _ hw hc hn hB
  | reg cs=>
   dsimp only at *
   cases hs:p.steps with
   | nil=>rw [hs] at hw;exact hw.elim
   | cons s r=>
    rw [hs] at hw
    rw [hp,hs,ho]
    obtain ⟨g0,a1,l1,c1,g1,g2,g3,g4⟩:=hw
    exact ⟨g0,a1,l1,c1,g1,g2,g3,walkH_snoc _ _ _ _ _ g4 hc hn hB⟩
theorem walkP_snoc_arr {w:World} {B:Nat→Prop} {L:Loc} {p p':Place} {n es k b q:Nat} (hp:p'.steps=p.steps++[⟨n,es,0,some k⟩]) (ho:p'.off=p.off)
  (h:walkP w B L p b q) (hn:n<k):walkP w B L p' b (q+n * es):=by
 unfold walkP at *
 cases L with
 | mem b0 o0=>dsimp only at *;rw [hp,ho];exact walkH_snoc_arr (so:=0) _ _ _ _ _ h hn
 | reg cs=>
  dsimp only at *
  cases hs:p.steps with
  | nil=>rw [hs] at h;exact h.elim
  | cons s r=>
   rw [hs] at h
   rw [hp,hs,ho]
   obtain ⟨g0,a1,l1,c1,g1,g2,g3,g4⟩:=h
   exact ⟨g0,a1,l1,c1,g1,g2,g3,walkH_snoc_arr (so:=0) _ _ _ _ _ g4 hn⟩
theorem inR_iff {i:Int} {n:Nat} (h:inR i n=true):0≤i∧i<n∧i.toNat<n:=by
 simp only [inR,Bool.and_eq_true,decide_eq_true_eq] at h
 exact ⟨h.1,h.2,by omega⟩
section
variable {P:Program} {T:Tab} {c:Ctx} {sl:Slots} {rt rt':Roots} {ρ:Nat→Loc} {Fo:Nat→List Nat} {X:List Nat} {a:Act} {w:World} {K:Act→World→Prop} {Q:Exit→Act→World→Prop} {o:Oper} {Δ:Dl}
theorem Row.slice_elem (hT:TOK P T) {t:TypeId} {e:Ty} (h:Row P T t (.slice e)):∃e',P.underlying t=some (.slice e')∧Row P T e' e∧0<e.size:=by
 obtain ⟨d,hd,hk⟩:=h.desc
 cases d<;>simp [descOK] at hk
 rename_i e'
 obtain ⟨h1,h2⟩:=hk
 split at h1
 ·rename_i σ hσ
  have:=Ty.eq_of_beq h1
  subst this
  exact ⟨e',hd,hT.get hσ,by simpa [Nat.blt_eq] using h2⟩
 ·cases h1
theorem Row.arr_elem (hT:TOK P T) {t:TypeId} {n:Nat} {e:Ty} (h:Row P T t (.arr n e)):∃e',P.underlying t=some (.array n e')∧Row P T e' e∧0<e.size:=by
 obtain ⟨d,hd,hk⟩:=h.desc
 cases d<;>simp [descOK] at hk
 rename_i m e'
 obtain ⟨⟨h0,h1⟩,h2⟩:=hk
 subst h0
 split at h1
 ·rename_i σ hσ
  have:=Ty.eq_of_beq h1
  subst this
  exact ⟨e',hd,hT.get hσ,by simpa [Nat.blt_eq] using h2⟩
 ·cases h1
theorem run_sizeOf {t:TypeId} {τ:Ty} (h:Row P T t τ):(sizeOf t).run P w=.ok τ.size w:=by
 have:=h.size
 cases hq:P.info? t with
 | none=>rw [hq] at this;simp at this
 | some i=>rw [hq] at this;simp at this;simp [sizeOf,typeInfo,hq,this]
theorem addr_add (b o k:Nat):(⟨b,o,none⟩:Addr).add k=⟨b,o+k,none⟩:=by unfold Addr.add;split<;>simp_all
theorem run_indexAt_slice (hT:TOK P T) {t:TypeId} {e:Ty} (h:Row P T t (.slice e)) {b off len cap:Nat} {k:IntKind} {i:Int} (h0:0≤i) (h1:i<len):
  (Instr.indexAt t (.slice (some ⟨b,off,none⟩) len cap) (.int k i)).run P w=.ok (.pointer (some ⟨b,off+i.toNat * e.size,none⟩)) w:=by
 obtain ⟨e',hd,hr,_⟩:=h.slice_elem hT
 simp [Instr.indexAt,asIntOf,run_underlying hd,h0,h1,run_sizeOf hr,addr_add]
theorem run_indexAt_arr (hT:TOK P T) {t:TypeId} {e:Ty} {n:Nat} (h:Row P T t (.arr n e)) {b off:Nat} {k:IntKind} {i:Int} (h0:0≤i) (h1:i<n):
  (Instr.indexAt t (.pointer (some ⟨b,off,none⟩)) (.int k i)).run P w=.ok (.pointer (some ⟨b,off+i.toNat * e.size,none⟩)) w:=by
 obtain ⟨e',hd,hr,_⟩:=h.arr_elem hT
 simp [Instr.indexAt,asIntOf,run_underlying hd,Instr.sureAddr,h0,h1,run_sizeOf hr,addr_add]
theorem cutL_length {α:Type} {rg:Option (Nat×Nat)} {l:List α} {es:Nat} {ad:Option Addr} {cap:Nat} {v:Value} (h:cutOf es ad l.length cap rg v):
  match rg with | none=>(cutL rg l).length=l.length | some (lo,hi)=>(cutL rg l).length=hi-lo∧lo≤hi∧hi≤l.length:=by
 cases rg with
 | none=>rfl
 | some r=>obtain ⟨h1,h2,_⟩:=h;simp [cutL];omega
theorem op_indexAddr (hT:TOK P T) (hs:∀r t,rt' r=some t→rt r=some t) (h:RR c sl rt ρ Fo [] a w) {t:TypeId} {x y:Operand} (ho:o.op=.indexAddr t x y) {v:V} {k:IntKind} {i:Int}
  (hv:VR (envOf c sl rt ρ Fo [] w) v (a.eval x)) (hi:VR (envOf c sl rt ρ Fo [] w) (.dat (.int k) i) (a.eval y)) (hd:DstOK c sl o.dst)
  (hy:Yields ((dlIndexAddr T rt' t i v).andThen fun u=>ret1 o.dst u []) Δ) (hK:Good c (Δ.slots sl) (lk Δ.rt rt) K):o.wp P a w K Q:=by
 obtain ⟨hi1,_,_⟩:=VR_int_inv hi
 obtain ⟨u,hyu,hy⟩:=hy.andThen
 unfold dlIndexAddr at hyu
 split at hyu
 ·rename_i p e rg
  split at hyu
  ·rename_i e' ht
   split at hyu
   ·rename_i hb
    simp only [Bool.and_eq_true] at hb
    have:=Ty.eq_of_beq hb.1
    subst this
    split at hyu
    ·rename_i t0 ht0
     have ht0:=hs _ _ ht0
     obtain ⟨ad,len,cap,hh,hc⟩:=hv (validA_sub hs (okA_valid hb.2))
     have hall:=(okA_valid hb.2).1
     split at hyu
     ·rename_i oe yy hlk
      cases hyu with
      | asrt hin hyu=>
       cases hyu
       obtain ⟨i0,i1,i2⟩:=inR_iff hin
       obtain ⟨Fm,hrep,hBm,hnd⟩:=h.hdrA ht0 hlk hh
       obtain ⟨ad',cap',e1,hlen,hmax,hown⟩:=hrep
       simp only [List.cons.injEq,and_true,Value.slice.injEq] at e1
       obtain ⟨rfl,rfl,rfl⟩:=e1
       have hcl:=cutL_length (l:=yy) hc
       rcases hown with ⟨rfl,rfl,rfl⟩ | ⟨b1,Fs,rfl,rfl,_⟩
       ·exfalso
        have:yy.length=0:=by omega
        cases rg with
        | none=>simp [cutL] at i2;omega
        | some r=>simp [cutL] at i2;omega
       ·have hB1:=hBm b1 List.mem_cons_self
        have hreal:∃len2 cap2,a.eval x=.slice (some ⟨b1,cutLo rg * e.size,none⟩) len2 cap2∧(i:Int)<len2∧cutLo rg+i.toNat<yy.length:=by
         cases rg with
         | none=>exact ⟨yy.length,cap,(show a.eval x=Value.slice _ yy.length cap from hc).trans (by simp [cutLo]),by simp only [cutL] at i1;exact i1,by simp only [cutL] at i2;simpa [cutLo] using i2⟩
         | some r=>
          obtain ⟨lo,hi⟩:=r
          obtain ⟨c1,c2,c3⟩:=hc
          obtain ⟨k1,k2,k3⟩:=hcl
          refine ⟨hi-lo,cap-lo,?_,by rw [k1] at i1;exact i1,by rw [k1] at i2;simp only [cutLo];omega⟩
          rw [c3]
          split
          ·rw [k1] at i2;omega
          ·simp [addr_add,cutLo]
        obtain ⟨len2,cap2,hr1,hr2,hr3⟩:=hreal
        refine wp_value (w':=w) (v:=.pointer (some ⟨b1,(cutLo rg+i.toNat) * e.size+0,none⟩)) ?_ (fin0 h hd hy hK (fun _=>⟨b1,_,walkP_snoc (p:=p) rfl rfl hh hr3 hB1,rfl⟩) ⟨t0,ht0,Nat.le_refl _,Nat.le_refl _⟩ (fun _=>rfl))
        have:=run_indexAt_slice (w:=w) hT (hT.get ht) (k:=k) (b:=b1) (off:=cutLo rg * e.size) (len:=len2) (cap:=cap2) i0 hr2
        simp [execOp,ho,hr1,hi1,this,Nat.add_mul]
     ·rename_i yy hlk
      cases hyu with
      | asrt hin hyu=>
       cases hyu
       obtain ⟨i0,i1,i2⟩:=inR_iff hin
       obtain ⟨Fm,hrep,_,_⟩:=h.hdrA ht0 hlk hh
       obtain ⟨_,ad',cap',e1,hlen,hmax,hown⟩:=hrep
       simp only [List.cons.injEq,and_true,Value.slice.injEq] at e1
       obtain ⟨rfl,rfl,rfl⟩:=e1
       have hcl:=cutL_length (l:=yy) hc
       rcases hown with rfl | ⟨b1,off1,rfl,hS,hel⟩
       ·exfalso
        cases rg with
        | none=>simp [cutL] at i2
        | some r=>simp [cutL] at i2
       ·have hreal:∃len2 cap2,a.eval x=.slice (some ⟨b1,off1+cutLo rg * e.size,none⟩) len2 cap2∧(i:Int)<len2∧cutLo rg+i.toNat<yy.length∧(cutL rg yy).getD i.toNat e.zero=yy.getD (cutLo rg+i.toNat) e.zero:=by
         cases rg with
         | none=>exact ⟨yy.length,cap,(show a.eval x=Value.slice _ yy.length cap from hc).trans (by simp [cutLo]),by simp only [cutL] at i1;exact i1,by simp only [cutL] at i2;simpa [cutLo] using i2,by simp [cutL,cutLo]⟩
         | some r=>
          obtain ⟨lo,hi⟩:=r
          obtain ⟨c1,c2,c3⟩:=hc
          obtain ⟨k1,k2,k3⟩:=hcl
          refine ⟨hi-lo,cap-lo,?_,by rw [k1] at i1;exact i1,by rw [k1] at i2;simp only [cutLo];omega,?_⟩
          ·rw [c3]
           split
           ·rw [k1] at i2;omega
           ·simp [addr_add,cutLo]
          ·rw [k1] at i2
           simp only [cutL,List.getD,cutLo]
           rw [List.getElem?_take_of_lt i2,List.getElem?_drop]
        obtain ⟨len2,cap2,hr1,hr2,hr3,hr4⟩:=hreal
        obtain ⟨ci,hat,hr⟩:=hel _ _ (getD_of (d:=e.zero) hr3)
        rw [←hr4] at hr
        refine wp_value (w':=w) (v:=.pointer (some ⟨b1,off1+(cutLo rg+i.toNat) * e.size+0,none⟩)) ?_ (fin0 h hd hy hK ⟨b1,_,ci,hS,hat,hr,rfl⟩ trivial (fun _=>rfl))
        have:=run_indexAt_slice (w:=w) hT (hT.get ht) (k:=k) (b:=b1) (off:=off1+cutLo rg * e.size) (len:=len2) (cap:=cap2) i0 hr2
        simp [execOp,ho,hr1,hi1,this,Nat.add_mul,Nat.add_assoc]
     ·cases hyu
    ·cases hyu
   ·cases hyu
  ·cases hyu
 ·rename_i e xs
  split at hyu
  ·rename_i e' ht
   split at hyu
   ·rename_i hb
    have:=Ty.eq_of_beq hb
    subst this
    cases hyu with
    | asrt hin hyu=>
     cases hyu
     obtain ⟨i0,i1,i2⟩:=inR_iff hin
     obtain ⟨cs,hval,_,ad,cap,hcs,hlen,hmax,hel⟩:=hv
     rcases hel with hnil | ⟨b1,off1,rfl,hS,hel⟩
     ·rw [hnil] at i2;simp at i2
     ·obtain ⟨ci,hat,hr⟩:=hel _ _ (getD_of (d:=e.zero) i2)
      refine wp_value (w':=w) (v:=.pointer (some ⟨b1,off1+i.toNat * e.size+0,none⟩)) ?_ (fin0 h hd hy hK ⟨b1,_,ci,hS,hat,hr,rfl⟩ trivial (fun _=>rfl))
      have:=run_indexAt_slice (w:=w) hT (hT.get ht) (k:=k) (b:=b1) (off:=off1) (len:=List.length xs) (cap:=cap) i0 i1
      have hx:a.eval x=.slice (some ⟨b1,off1,none⟩) (List.length xs) cap:=by rw [hval,hcs];rfl
      simp [execOp,ho,hx,hi1,this]
   ·cases hyu
  ·cases hyu
 ·rename_i p
  split at hyu
  ·rename_i n e ht
   split at hyu
   ·rename_i hb
    simp only [Bool.and_eq_true] at hb
    cases hyu with
    | asrt hin hyu=>
     cases hyu
     obtain ⟨i0,i1,i2⟩:=inR_iff hin
     have hvp:=validP_sub hs (okP_valid hb.1)
     obtain ⟨b,q,hw,e1⟩:=hv hvp
     obtain ⟨_,t0,ht0,_⟩:=okP_valid hb.1
     rw [ht0] at hy
     refine wp_value (w':=w) (v:=.pointer (some ⟨b,q+i.toNat * e.size,none⟩)) ?_ (fin0 h hd hy hK (fun _=>⟨b,_,walkP_snoc_arr (p:=p) rfl rfl hw i2,rfl⟩) ⟨t0,hs _ _ ht0,Nat.le_refl _,Nat.le_refl _⟩ (fun _=>rfl))
     have:=run_indexAt_arr (w:=w) hT (hT.get ht) (k:=k) (b:=b) (off:=q) i0 i1
     simp [execOp,ho,e1,hi1,this]
   ·cases hyu
  ·cases hyu
 ·cases hyu
end
end Go.Rd
namespace Go.Rd
section
variable {P:Program} {T:Tab} {c:Ctx} {sl:Slots} {rt rt':Roots} {ρ:Nat→Loc} {Fo:Nat→List Nat} {X:List Nat} {a:Act} {w:World} {K:Act→World→Prop} {Q:Exit→Act→World→Prop} {o:Oper} {Δ:Dl}
theorem rem_in {k:IntKind} {x y:Int} (h1:k.min≤x) (h2:x≤k.max):k.min≤x.tmod y∧x.tmod y≤k.max:=by
 have hm:k.min≤0:=by cases k<;>decide
 have hM:0≤k.max:=by cases k<;>decide
 have key:∀(n m:Nat),Int.tmod (n:Int) (m:Int)≤n∧0≤Int.tmod (n:Int) (m:Int):=fun n m=>by
  rw [←Int.ofNat_tmod]
  exact ⟨Int.ofNat_le.2 (Nat.mod_le _ _),Int.natCast_nonneg _⟩
 have key2:∀(n:Nat) (z:Int),Int.tmod (n:Int) z≤n∧0≤Int.tmod (n:Int) z:=fun n z=>by
  rcases Int.eq_nat_or_neg z with ⟨m,rfl | rfl⟩
  ·exact key n m
  ·rw [Int.tmod_neg];exact key n m
 rcases Int.eq_nat_or_neg x with ⟨n,rfl | rfl⟩
 ·have:=key2 n y;omega
 ·have:=key2 n y
  rw [Int.neg_tmod];omega
def Gives (P:Program) (E:Env) (w:World) (s:Sem Value) (u:V):Prop:=∃v,s.run P w=.ok v w∧VR E u v∧(∀Q,u.holds Q)∧∀n,u.leans n=false
theorem Gives.int {E:Env} {s:Sem Value} {k:IntKind} {n:Int} (h:s.run P w=.ok (.int k n) w) (h1:k.min≤n) (h2:n≤k.max):Gives P E w s (.dat (.int k) n):=
 ⟨_,h,VR_int h1 h2,fun _=>trivial,fun _=>rfl⟩
theorem Gives.bool {E:Env} {s:Sem Value} {b:Bool} (h:s.run P w=.ok (.bool b) w):Gives P E w s (.dat .bool b):=⟨_,h,VR_bool,fun _=>trivial,fun _=>rfl⟩
theorem beq_decide (x y:Int):(x == y)=decide (x=y):=by
 rw [Bool.eq_iff_iff];simp
theorem intOp_sound {E:Env} {op:BinOp} {t:TypeId} {k:IntKind} {x y:Int} {u:V} (hx1:k.min≤x) (hx2:x≤k.max) (hy:Yields (intOp op k x y) u):
  Gives P E w (binOp op t (.int k x) (.int k y)) u:=by
 cases op with
 | add=>cases hy;exact .int (by simp [binOp,Op.intArith]) (wrap_in k _).1 (wrap_in k _).2
 | sub=>cases hy;exact .int (by simp [binOp,Op.intArith]) (wrap_in k _).1 (wrap_in k _).2
 | mul=>cases hy;exact .int (by simp [binOp,Op.intArith]) (wrap_in k _).1 (wrap_in k _).2
 | quo=>
  cases hy with
  | asrt h0 hy=>
   cases hy
   have h0':¬y=0:=by simpa using h0
   exact .int (by simp [binOp,Op.intDiv,h0']) (wrap_in k _).1 (wrap_in k _).2
 | rem=>
  cases hy with
  | asrt h0 hy=>
   cases hy
   have h0':¬y=0:=by simpa using h0
   exact .int (by simp [binOp,Op.intDiv,h0']) (rem_in hx1 hx2).1 (rem_in hx1 hx2).2
 | and=>cases hy;exact .int (by simp [binOp,Op.intBits]) (wrap_in k _).1 (wrap_in k _).2
 | or=>cases hy;exact .int (by simp [binOp,Op.intBits]) (wrap_in k _).1 (wrap_in k _).2
 | xor=>cases hy;exact .int (by simp [binOp,Op.intBits]) (wrap_in k _).1 (wrap_in k _).2
 | eql=>cases hy;exact .bool (by simp [binOp,Op.intCmp,beq_decide])
 | neq=>cases hy;exact .bool (by simp [binOp,Op.intCmp,bne,beq_decide])
 | lss=>cases hy;exact .bool (by simp [binOp,Op.intCmp])
 | leq=>cases hy;exact .bool (by simp [binOp,Op.intCmp])
 | gtr=>cases hy;exact .bool (by simp [binOp,Op.intCmp])
 | geq=>cases hy;exact .bool (by simp [binOp,Op.intCmp])
 | andNot=>cases hy
 | shl=>cases hy
 | shr=>cases hy
theorem shOp_sound {E:Env} {op:BinOp} {t:TypeId} {k k':IntKind} {x y:Int} {u:V} (hx1:k.min≤x) (hx2:x≤k.max) (hy:Yields (shOp op k x y) u):
  Gives P E w (binOp op t (.int k x) (.int k' y)) u:=by
 cases op with
 | shl=>
  cases hy with
  | asrt h0 hy=>
   cases hy
   have h0':¬y<0:=by simpa using h0
   exact .int (by simp [binOp,Op.shift,h0']) (wrap_in k _).1 (wrap_in k _).2
 | shr=>
  cases hy with
  | asrt h0 hy=>
   cases hy
   have h0':¬y<0:=by simpa using h0
   refine .int (by simp [binOp,Op.shift,h0']) ?_ ?_
   ·generalize hp:(2:Int) ^ (Nat.min y.toNat k.bits)=p
    have hpos:0<p:=by rw [←hp];exact Int.pow_pos (by decide)
    have hm:k.min≤0:=by cases k<;>decide
    rcases Int.le_total 0 x with h | h
    ·have:=Int.fdiv_nonneg h (Int.le_of_lt hpos);omega
    ·have:x≤x.fdiv p:=by
      rw [Int.fdiv_eq_ediv_of_nonneg _ (Int.le_of_lt hpos)]
      exact Int.le_ediv_of_mul_le hpos (by have:=Int.mul_le_mul_of_nonpos_left h (show (1:Int)≤p by omega);omega)
     omega
   ·generalize hp:(2:Int) ^ (Nat.min y.toNat k.bits)=p
    have hpos:0<p:=by rw [←hp];exact Int.pow_pos (by decide)
    have hM:0≤k.max:=by cases k<;>decide
    rw [Int.fdiv_eq_ediv_of_nonneg _ (Int.le_of_lt hpos)]
    rcases Int.le_total 0 x with h | h
    ·have:=Int.ediv_le_self p h;omega
    ·have:=Int.ediv_le_ediv hpos h;rw [Int.zero_ediv] at this;omega
 | _=>cases hy
def EqOK (P:Program) (T:Tab) (eqs:Nat→Bool):Prop:=
 ∀t τ,eqs t=true→T t=some (.st τ)→∀(w:World) (S:Nat→Prop) (X Y:Operand) (xs ys:List Value) (x y:τ.den) (b:Bool),Rep S w τ .imm xs x []→Rep S w τ .imm ys y []→eqD τ x y=some b→
  (do eqGuard .eql t X Y (.agg xs.toArray) (.agg ys.toArray);binOp .eql t (.agg xs.toArray) (.agg ys.toArray)).run P w=.ok (.bool b) w∧
  (do eqGuard .neq t X Y (.agg xs.toArray) (.agg ys.toArray);binOp .neq t (.agg xs.toArray) (.agg ys.toArray)).run P w=.ok (.bool (!b)) w
theorem Gives.fin {s:Sem Value} {u:V} (g:Gives P (envOf c sl rt ρ Fo [] w) w s u) (h:RR c sl rt ρ Fo [] a w) (he:execOp a.eval o=(do pure (.value (←s)))) (hd:DstOK c sl o.dst)
  (hy:Yields (ret1 o.dst u []) Δ) (hK:Good c (Δ.slots sl) (lk Δ.rt rt) K):o.wp P a w K Q:=by
 obtain ⟨v,h1,h2,h3,h4⟩:=g
 refine wp_value (w':=w) (v:=v) ?_ (fin0 h hd hy hK h2 (h3 _) h4)
 rw [he];simp [h1]
theorem run_eqGuard_int {op:BinOp} {t:TypeId} {X Y:Operand} {k k':IntKind} {x y:Int}:(eqGuard op t X Y (.int k x) (.int k' y)).run P w=.ok () w:=by
 unfold eqGuard
 cases op<;>simp
theorem run_eqGuard_bool {op:BinOp} {t:TypeId} {X Y:Operand} {x y:Bool}:(eqGuard op t X Y (.bool x) (.bool y)).run P w=.ok () w:=by
 unfold eqGuard
 cases op<;>simp
theorem run_equalIn_bool {t:TypeId} (h:P.underlying t=some .bool) {d:Nat} {x y:Bool}:(Op.equalIn (d+1) t (.bool x) (.bool y)).run P w=.ok (x == y) w:=by
 simp [Op.equalIn,run_underlying h]
theorem run_equal_bool {t:TypeId} (h:P.underlying t=some .bool) {x y:Bool}:(Op.equal t (.bool x) (.bool y)).run P w=.ok (x == y) w:=run_equalIn_bool (d:=9999) h
theorem run_bin_bool {t:TypeId} (h:P.underlying t=some .bool) {x y:Bool}:(binOp .eql t (.bool x) (.bool y)).run P w=.ok (.bool (x == y)) w∧(binOp .neq t (.bool x) (.bool y)).run P w=.ok (.bool (!(x == y))) w:=by
 have h1:binOp .eql t (.bool x) (.bool y)=(do pure (.bool (←Op.equal t (.bool x) (.bool y)))):=rfl
 have h2:binOp .neq t (.bool x) (.bool y)=(do pure (.bool (!(←Op.equal t (.bool x) (.bool y))))):=rfl
 rw [h1,h2]
 constructor
 ·rw [Sem.run_bind,run_equal_bool h];rfl
 ·rw [Sem.run_bind,run_equal_bool h];rfl
theorem op_bin (hT:TOK P T) {eqs:Nat→Bool} (hE:EqOK P T eqs) (h:RR c sl rt ρ Fo [] a w) {op:BinOp} {t t':TypeId} {X Y:Operand} (ho:o.op=.binOp op t X Y t') {u1 u2:V}
  (h1:VR (envOf c sl rt ρ Fo [] w) u1 (a.eval X)) (h2:VR (envOf c sl rt ρ Fo [] w) u2 (a.eval Y)) (hd:DstOK c sl o.dst)
  (hy:Yields ((dlBin T eqs op t u1 u2).andThen fun u=>ret1 o.dst u []) Δ) (hK:Good c (Δ.slots sl) (lk Δ.rt rt) K):o.wp P a w K Q:=by
 obtain ⟨u,hyu,hy2⟩:=hy.andThen
 clear hy
 have he:execOp a.eval o=(do pure (.value (←(do eqGuard op t X Y (a.eval X) (a.eval Y);binOp op t (a.eval X) (a.eval Y))))):=by simp [execOp,ho]
 unfold dlBin at hyu
 split at hyu
 ·rename_i k x k' y
  obtain ⟨e1,x1,x2⟩:=VR_int_inv h1
  obtain ⟨e2,y1,y2⟩:=VR_int_inv h2
  have key:∀{u:V},Gives P (envOf c sl rt ρ Fo [] w) w (binOp op t (.int k x) (.int k' y)) u→Gives P (envOf c sl rt ρ Fo [] w) w (do eqGuard op t X Y (a.eval X) (a.eval Y);binOp op t (a.eval X) (a.eval Y)) u:=by
   rintro u ⟨v,g1,g2⟩
   exact ⟨v,by rw [e1,e2];simp [run_eqGuard_int,g1],g2⟩
  split at hyu
  ·exact (key (shOp_sound x1 x2 hyu)).fin h he hd hy2 hK
  ·exact (key (shOp_sound x1 x2 hyu)).fin h he hd hy2 hK
  ·split at hyu
   ·rename_i hk
    have hk:k=k':=by simpa using hk
    subst hk
    exact (key (intOp_sound x1 x2 hyu)).fin h he hd hy2 hK
   ·cases hyu
 ·rename_i x y
  have e1:=VR_bool_inv h1
  have e2:=VR_bool_inv h2
  split at hyu
  ·rename_i ht
   obtain ⟨d,hdd,hkk⟩:=(hT.get ht).desc
   have hud:P.underlying t=some .bool:=by cases d<;>simp_all [descOK]
   cases hyu
   refine Gives.fin (.bool ?_) h he hd hy2 hK
   rw [e1,e2,Sem.run_bind,run_eqGuard_bool]
   exact (run_bin_bool hud).1
  ·rename_i ht
   obtain ⟨d,hdd,hkk⟩:=(hT.get ht).desc
   have hud:P.underlying t=some .bool:=by cases d<;>simp_all [descOK]
   cases hyu
   refine Gives.fin (.bool ?_) h he hd hy2 hK
   rw [e1,e2,Sem.run_bind,run_eqGuard_bool]
   exact (run_bin_bool hud).2
  ·cases hyu
 ·rename_i x y
  obtain ⟨cs,g1,_,_,g2⟩:=h1
  obtain ⟨ds,k1,_,_,k2⟩:=h2
  have e1:a.eval X=.string x:=by rw [g1,(g2 (by simp)).1];rfl
  have e2:a.eval Y=.string y:=by rw [k1,(k2 (by simp)).1];rfl
  split at hyu
  ·cases hyu
   refine Gives.fin (.bool ?_) h he hd hy2 hK
   rw [e1,e2]
   simp [eqGuard,binOp,Op.stringOp]
  ·cases hyu
   refine Gives.fin (.bool ?_) h he hd hy2 hK
   rw [e1,e2]
   simp [eqGuard,binOp,Op.stringOp]
  ·cases hyu
 ·rename_i τ x τ' y
  split at hyu
  ·rename_i hq
   split at hyu
   ·rename_i τ'' ht
    split at hyu
    ·rename_i hb
     have:=Ty.eq_of_beq hb
     subst this
     split at hyu
     ·rename_i hb2
      have:=Ty.eq_of_beq hb2
      subst this
      obtain ⟨cs,g1,g2⟩:=h1
      obtain ⟨ds,k1,k2⟩:=h2
      split at hyu
      ·rename_i b heq
       cases hyu
       refine Gives.fin (.bool ?_) h he hd hy2 hK
       rw [g1,k1]
       exact (hE t τ' hq ht w _ X Y cs ds x y b g2 k2 heq).1
      ·rename_i b heq
       cases hyu
       refine Gives.fin (.bool ?_) h he hd hy2 hK
       rw [g1,k1]
       exact (hE t τ' hq ht w _ X Y cs ds x y b g2 k2 heq).2
      ·cases hyu
     ·cases hyu
    ·cases hyu
   ·cases hyu
  ·cases hyu
 ·cases hyu
end
end Go.Rd
namespace Go.Rd
section
variable {P:Program} {T:Tab} {c:Ctx} {sl:Slots} {rt rt':Roots} {ρ:Nat→Loc} {Fo:Nat→List Nat} {X:List Nat} {a:Act} {w:World} {K:Act→World→Prop} {Q:Exit→Act→World→Prop} {o:Oper} {Δ:Dl}
theorem op_convert (hT:TOK P T) (h:RR c sl rt ρ Fo [] a w) {s t:TypeId} {x:Operand} (ho:o.op=.convert s t x) {k k':IntKind} {n:Int} {σ:Ty} (hs:T s=some σ) (ht:T t=some (.int k))
  (hv:VR (envOf c sl rt ρ Fo [] w) (.dat (.int k') n) (a.eval x)) (hd:DstOK c sl o.dst) (hy:Yields (ret1 o.dst (.dat (.int k) (k.wrap n)) []) Δ) (hK:Good c (Δ.slots sl) (lk Δ.rt rt) K):o.wp P a w K Q:=by
 obtain ⟨e1,_,_⟩:=VR_int_inv hv
 obtain ⟨d,hd1,_⟩:=(hT.get hs).desc
 obtain ⟨d',hd2,hk2⟩:=(hT.get ht).desc
 have hu:P.underlying t=some (.int k):=by cases d'<;>simp_all [descOK]
 have he:execOp a.eval o=(do pure (.value (←convert s t (a.eval x)))):=by simp [execOp,ho]
 refine Gives.fin (.int ?_ (wrap_in k _).1 (wrap_in k _).2) h he hd hy hK
 rw [e1]
 unfold convert
 simp [run_underlying hd1,run_underlying hu,Conv.intToInt]
theorem op_not (h:RR c sl rt ρ Fo [] a w) {t:TypeId} {x:Operand} (ho:o.op=.unOp .not t x) {b:Bool}
  (hv:VR (envOf c sl rt ρ Fo [] w) (.dat .bool b) (a.eval x)) (hd:DstOK c sl o.dst) (hy:Yields (ret1 o.dst (.dat .bool (!b)) []) Δ) (hK:Good c (Δ.slots sl) (lk Δ.rt rt) K):o.wp P a w K Q:=by
 have he:execOp a.eval o=(do pure (.value (←Op.unary .not (a.eval x)))):=by simp [execOp,ho]
 refine Gives.fin (.bool ?_) h he hd hy hK
 rw [VR_bool_inv hv];rfl
theorem op_nilCheck_ptr (hs:∀r t,rt' r=some t→rt r=some t) (h:RR c sl rt ρ Fo [] a w) {x:Operand} (ho:o.op=.nilCheck x) {p:Place} (hok:okP rt' p=true)
  (hv:VR (envOf c sl rt ρ Fo [] w) (.ptr p) (a.eval x)) (hh:(V.ptr p).holds (PlaceOK rt)) (hd:DstOK c sl o.dst) (hy:Yields (ret1 o.dst (.ptr p) []) Δ) (hK:Good c (Δ.slots sl) (lk Δ.rt rt) K):o.wp P a w K Q:=by
 obtain ⟨b,q,hw,e⟩:=hv (validP_sub hs (okP_valid hok))
 refine wp_value (w':=w) (v:=a.eval x) ?_ (fin0 h hd hy hK hv hh (fun _=>rfl))
 simp [execOp,ho,e]
theorem op_nilCheck_ipt (h:RR c sl rt ρ Fo [] a w) {x:Operand} (ho:o.op=.nilCheck x) {τ:Ty} {y:τ.den} {off:Nat}
  (hv:VR (envOf c sl rt ρ Fo [] w) (.ipt τ y off) (a.eval x)) (hd:DstOK c sl o.dst) (hy:Yields (ret1 o.dst (.ipt τ y off) []) Δ) (hK:Good c (Δ.slots sl) (lk Δ.rt rt) K):o.wp P a w K Q:=by
 obtain ⟨b,q,cs,hS,hat,hr,e⟩:=hv
 refine wp_value (w':=w) (v:=a.eval x) ?_ (fin0 h hd hy hK ⟨b,q,cs,hS,hat,hr,e⟩ trivial (fun _=>rfl))
 simp [execOp,ho,e]
theorem VRs.get {E:Env}:∀{l:List V} {vs:List Value} {i:Nat} {u:V},VRs E l vs→l[i]?=some u→∃v,vs[i]?=some v∧VR E u v
 | [],_,_,_,_,h=>by simp at h
 | x::l,vs,i,u,⟨v,r,e,h1,h2⟩,h=>by
  subst e
  cases i with
  | zero=>simp at h;subst h;exact ⟨v,rfl,h1⟩
  | succ i=>obtain ⟨v',g1,g2⟩:=h2.get (by simpa using h);exact ⟨v',by simpa using g1,g2⟩
theorem holdsAll_get {Q:Place→Prop}:∀{l:List V} {i:Nat} {u:V},V.holdsAll Q l→l[i]?=some u→u.holds Q
 | [],_,_,_,h=>by simp at h
 | x::l,i,u,h',h=>by
  cases i with
  | zero=>simp at h;subst h;exact h'.1
  | succ i=>exact holdsAll_get h'.2 (by simpa using h)
theorem leansAny_get {n:Nat}:∀{l:List V} {i:Nat} {u:V},V.leansAny l n=false→l[i]?=some u→u.leans n=false
 | [],_,_,_,h=>by simp at h
 | x::l,i,u,h',h=>by
  simp only [V.leansAny,Bool.or_eq_false_iff] at h'
  cases i with
  | zero=>simp at h;subst h;exact h'.1
  | succ i=>exact leansAny_get h'.2 (by simpa using h)
theorem op_extract (h:RR c sl rt ρ Fo [] a w) {x:Operand} {i:Nat} (ho:o.op=.extract x i) {l:List V} {u:V} (hi:l[i]?=some u)
  (hv:VR (envOf c sl rt ρ Fo [] w) (.tup l) (a.eval x)) (hh:(V.tup l).holds (PlaceOK rt)) (hl:∀n,(V.tup l).leans n=false) (hd:DstOK c sl o.dst) (hy:Yields (ret1 o.dst u []) Δ) (hK:Good c (Δ.slots sl) (lk Δ.rt rt) K):o.wp P a w K Q:=by
 obtain ⟨vs,e,hvs⟩:=hv
 obtain ⟨v,g1,g2⟩:=hvs.get hi
 refine wp_value (w':=w) (v:=v) ?_ (fin0 h hd hy hK g2 (holdsAll_get hh hi) (fun n=>leansAny_get (hl n) hi))
 simp [execOp,ho,e,Instr.extract,g1]
theorem rdA_get (hs:∀r t,rt' r=some t→rt r=some t) (h:RR c sl rt ρ Fo X a w) {p:Place} {e:Ty} {rg:Option (Nat×Nat)} {v:Value} {y:List e.den}
  (hv:VR (envOf c sl rt ρ Fo X w) (.ali p e rg) v) (hy:rdA rt' p e rg=some y):
  ∃(yy:List e.den) (o':Ow) (Fm:List Nat) (ad:Option Addr) (cap:Nat),y=cutL rg yy∧Rep (Stab c w rt Fo X) w (.slice e) o' [.slice ad yy.length cap] yy Fm∧Fm.Nodup∧wk (.slice e) .imm o'=true∧cutOf e.size ad yy.length cap rg v∧(∀k∈Fm,Bof c w rt ρ Fo X p.root k):=by
 unfold rdA at hy
 split at hy
 ·rename_i hok
  split at hy
  ·rename_i t0 ht0
   have ht0:=hs _ _ ht0
   split at hy
   ·rename_i o' yy hlk
    split at hy
    ·rename_i hwk
     simp only [Option.some.injEq] at hy
     obtain ⟨ad,len,cap,hh,hc⟩:=hv (validA_sub hs (okA_valid hok))
     obtain ⟨Fm,hrep,hB,hnd⟩:=h.hdrA ht0 hlk hh
     have hlen:len=List.length yy:=by
      cases o' with
      | dead=>simp [wk] at hwk
      | pr _ _=>simp [wk] at hwk
      | own _ _=>obtain ⟨a1,c1,e1,_⟩:=hrep;simp only [List.cons.injEq,and_true,Value.slice.injEq] at e1;exact e1.2.1
      | imm=>obtain ⟨_,a1,c1,e1,_⟩:=hrep;simp only [List.cons.injEq,and_true,Value.slice.injEq] at e1;exact e1.2.1
     subst hlen
     exact ⟨yy,o',Fm,ad,cap,hy.symm,hrep,hnd,hwk,hc,hB⟩
    ·cases hy
   ·cases hy
  ·cases hy
 ·cases hy
theorem Rep.slice_max {S:Nat→Prop} {e:Ty} {o':Ow} {ad:Option Addr} {n cap:Nat} {yy:List e.den} {Fm:List Nat} (h:Rep S w (.slice e) o' [.slice ad n cap] yy Fm) (hw:wk (.slice e) .imm o'=true):yy.length≤LMAX:=by
 cases o' with
 | dead=>simp [wk] at hw
 | pr _ _=>simp [wk] at hw
 | own _ _=>obtain ⟨a1,c1,e1,_,h2,_⟩:=h;exact h2
 | imm=>obtain ⟨_,a1,c1,e1,_,h2,_⟩:=h;exact h2
theorem i64_len {n:Nat} (h:n≤LMAX):IntKind.i64.min≤(n:Int)∧(n:Int)≤IntKind.i64.max:=by
 unfold LMAX at h
 simp only [IntKind.min,IntKind.max,IntKind.signed,IntKind.bits]
 constructor<;>simp<;>omega
theorem op_len (hT:TOK P T) (hs:∀r t,rt' r=some t→rt r=some t) (h:RR c sl rt ρ Fo [] a w) {args:Array Operand} {ts:Array TypeId} {x:Operand} (hargs:args.toList=[x])
  (ho:o.op=.call { callee:=.builtin .len,args:=args,argTypes:=ts }) {t:TypeId} (hts:ts[0]?=some t) {v:V} {n:Int}
  (hv:VR (envOf c sl rt ρ Fo [] w) v (a.eval x)) (hl:dlLen T t rt' v=some n) (hd:DstOK c sl o.dst) (hy:Yields (ret1 o.dst (.dat (.int .i64) n) []) Δ) (hK:Good c (Δ.slots sl) (lk Δ.rt rt) K):o.wp P a w K Q:=by
 have hx:args=#[x]:=Array.ext' (by simpa using hargs)
 subst hx
 have he:execOp a.eval o=(do pure (.value (←Builtin.len_ ts o.type #[a.eval x]))):=by
  simp [execOp,ho,resolve,invoke,builtin]
 have main:∀m:Nat,m≤LMAX→n=(m:Int)→(Builtin.len_ ts o.type #[a.eval x]).run P w=.ok (goInt m) w→o.wp P a w K Q:=fun m hm e hrun=>by
  subst e
  exact Gives.fin (.int hrun (i64_len hm).1 (i64_len hm).2) h he hd hy hK
 have hsl:∀e,T t=some (.slice e)→∃e',P.underlying t=some (.slice e'):=fun e ht=>by
  obtain ⟨e',h1,_⟩:=(hT.get ht).slice_elem hT;exact ⟨e',h1⟩
 unfold dlLen at hl
 split at hl
 ·rename_i e xs
  split at hl
  ·rename_i e2 ht
   obtain ⟨e',hu⟩:=hsl _ ht
   simp only [Option.some.injEq] at hl
   obtain ⟨cs,hval,_,ad,cap,hcs,_,hmax,_⟩:=hv
   refine main _ hmax hl.symm ?_
   rw [hval,hcs]
   simp [Builtin.len_,hts,run_underlying hu,valOf]
  ·cases hl
 ·rename_i x'
  split at hl
  ·rename_i ht
   obtain ⟨d,hdd,hkk⟩:=(hT.get ht).desc
   have hud:P.underlying t=some .string:=by cases d<;>simp_all [descOK]
   simp only [Option.some.injEq] at hl
   obtain ⟨cs,g1,_,_,g2⟩:=hv
   obtain ⟨g3,g4⟩:=g2 (by simp)
   refine main _ g4 hl.symm ?_
   rw [g1,g3]
   simp [Builtin.len_,hts,run_underlying hud,valOf]
  ·cases hl
 ·split at hl
  ·rename_i e2 ht
   obtain ⟨e',hu⟩:=hsl _ ht
   simp only [Option.some.injEq] at hl
   have hv':a.eval x=.slice none 0 0:=hv
   refine main 0 (Nat.zero_le _) hl.symm ?_
   rw [hv']
   simp [Builtin.len_,hts,run_underlying hu]
  ·cases hl
 ·rename_i p e rg
  split at hl
  ·rename_i e2 ht
   obtain ⟨e',hu⟩:=hsl _ ht
   cases hrd:rdA rt' p e rg with
   | none=>rw [hrd] at hl;simp at hl
   | some y=>
    rw [hrd] at hl
    simp only [Option.map_some,Option.some.injEq] at hl
    obtain ⟨yy,o',Fm,ad,cap,rfl,hrep,_,hwk,hc,_⟩:=rdA_get hs h hv hrd
    have hmax:=hrep.slice_max hwk
    have hcl:=cutL_length (l:=yy) hc
    cases rg with
    | none=>
     refine main yy.length hmax (by rw [←hl];rfl) ?_
     rw [show a.eval x=_ from hc]
     simp [Builtin.len_,hts,run_underlying hu]
    | some r=>
     obtain ⟨lo,hi⟩:=r
     obtain ⟨c1,c2,c3⟩:=hc
     obtain ⟨k1,k2,k3⟩:=hcl
     refine main (hi-lo) (by omega) (by rw [←hl,k1]) ?_
     rw [c3]
     simp [Builtin.len_,hts,run_underlying hu]
  ·cases hl
 ·cases hl
end
end Go.Rd
namespace Go.Rd
section
variable {P:Program} {T:Tab} {c:Ctx} {sl:Slots} {rt rt':Roots} {ρ:Nat→Loc} {Fo:Nat→List Nat} {X:List Nat} {a:Act} {w:World} {K:Act→World→Prop} {Q:Exit→Act→World→Prop} {o:Oper} {Δ:Dl}
theorem Rep.cut {S:Nat→Prop} {e:Ty} {ad:Option Addr} {n cap lo hi:Nat} {xs:List e.den} (h:Rep S w (.slice e) .imm [.slice ad n cap] xs []) (h1:lo≤hi) (h2:hi≤n):
  Rep S w (.slice e) .imm [.slice (if cap=lo then ad else ad.map (·.add (lo * e.size))) (hi-lo) (cap-lo)] ((List.drop lo xs).take (hi-lo)) []:=by
 obtain ⟨_,ad',cap',e1,hlen,hmax,hel⟩:=h
 simp only [List.cons.injEq,and_true,Value.slice.injEq] at e1
 obtain ⟨rfl,rfl,rfl⟩:=e1
 have hl:((List.drop lo xs).take (hi-lo)).length=hi-lo:=by simp;omega
 refine ⟨rfl,_,_,by rw [hl],by rw [hl];omega,by rw [hl];omega,?_⟩
 by_cases hz:hi-lo=0
 ·left;rw [hz];simp
 ·rcases hel with hnil | ⟨b,off,rfl,hS,hel⟩
  ·rw [hnil] at h2;simp at h2;omega
  ·right
   have hne:¬cap=lo:=by omega
   refine ⟨b,off+lo * e.size,by rw [if_neg hne];simp [addr_add],hS,fun i y hy=>?_⟩
   have hi':i<hi-lo:=by
    have:=(List.getElem?_eq_some_iff.1 hy).1;omega
   rw [List.getElem?_take_of_lt hi',List.getElem?_drop] at hy
   obtain ⟨ci,hat,hr⟩:=hel _ y hy
   exact ⟨ci,by rw [show off+lo * e.size+i * e.size=off+(lo+i) * e.size by rw [Nat.add_mul];omega];exact hat,hr⟩
theorem run_sliceAt (hT:TOK P T) {t:TypeId} {e:Ty} (ht:Row P T t (.slice e)) {ad:Option Addr} {n cap:Nat} {lo hi:Option Int} {kl kh:IntKind}
  (h1:0≤lo.getD 0) (h2:lo.getD 0≤hi.getD (n:Int)) (h3:hi.getD (n:Int)≤(n:Int)) (h4:n≤cap):
  (Instr.sliceAt t (.slice ad n cap) (lo.map (.int kl)) (hi.map (.int kh)) none).run P w=
   .ok (.slice (if cap=(lo.getD 0).toNat then ad else ad.map (·.add ((lo.getD 0).toNat * e.size))) ((hi.getD (n:Int)).toNat-(lo.getD 0).toNat) (cap-(lo.getD 0).toNat)) w:=by
 obtain ⟨e',hd,hr,_⟩:=ht.slice_elem hT
 have hh:∀m:Int,hi=some m→0≤m∧m≤cap:=fun m e=>by rw [e] at h2 h3;simp at h2 h3;omega
 have hl:∀m:Int,lo=some m→0≤m∧m≤((hi.getD (n:Int)).toNat:Int):=fun m e=>by rw [e] at h1 h2;simp at h1 h2;omega
 unfold Instr.sliceAt
 cases hi with
 | none=>
  cases lo with
  | none=>simp [run_underlying hd,Instr.slice,Instr.sliceBounds,run_sizeOf hr]
  | some m=>
   obtain ⟨g1,g2⟩:=hl m rfl
   simp at g2
   simp [run_underlying hd,Instr.slice,Instr.sliceBounds,run_sizeOf hr,Instr.sliceBound,asIntOf,g1,g2]
 | some k=>
  obtain ⟨k1,k2⟩:=hh k rfl
  cases lo with
  | none=>simp [run_underlying hd,Instr.slice,Instr.sliceBounds,run_sizeOf hr,Instr.sliceBound,asIntOf,k1,k2]
  | some m=>
   obtain ⟨g1,g2⟩:=hl m rfl
   simp only [Option.getD_some] at g2
   have g2':m≤k:=by omega
   have g3:(k.toNat:Int)=k:=Int.toNat_of_nonneg k1
   simp [run_underlying hd,Instr.slice,Instr.sliceBounds,run_sizeOf hr,Instr.sliceBound,asIntOf,k1,k2,g1,g2',g3]
theorem op_slice (hT:TOK P T) (hs:∀r t,rt' r=some t→rt r=some t) (h:RR c sl rt ρ Fo [] a w) {t:TypeId} {x:Operand} {lo hi:Option Operand} (ho:o.op=.slice t x lo hi none)
  {e:Ty} (ht:T t=some (.slice e)) {v:V} {l m:Option Int} {kl kh:IntKind} (hlo:lo.map a.eval=l.map (.int kl)) (hhi:hi.map a.eval=m.map (.int kh))
  (hv:VR (envOf c sl rt ρ Fo [] w) v (a.eval x)) (hh:v.holds (PlaceOK rt)) (hd:DstOK c sl o.dst)
  (hy:Yields ((dlSlice e v l m rt').andThen fun u=>ret1 o.dst u []) Δ) (hK:Good c (Δ.slots sl) (lk Δ.rt rt) K):o.wp P a w K Q:=by
 obtain ⟨u,hyu,hy2⟩:=hy.andThen
 clear hy
 have he:execOp a.eval o=(do pure (.value (←Instr.sliceAt t (a.eval x) (l.map (.int kl)) (m.map (.int kh)) none))):=by
  rw [←hlo,←hhi];simp [execOp,ho]
 unfold dlSlice at hyu
 split at hyu
 ·rename_i e2 xs
  split at hyu
  ·rename_i hb
   have:=Ty.eq_of_beq hb
   subst this
   cases hyu with
   | asrt hc hyu=>
    cases hyu
    simp only [Bool.and_eq_true,decide_eq_true_eq] at hc
    obtain ⟨⟨c1,c2⟩,c3⟩:=hc
    obtain ⟨cs,hval,hrep⟩:=hv
    have hrep':=hrep
    obtain ⟨_,ad,cap,hcs,hlen,hmax,_⟩:=hrep'
    subst hcs
    have hrun:=run_sliceAt (w:=w) hT (hT.get ht) (ad:=ad) (kl:=kl) (kh:=kh) c1 c2 c3 hlen
    refine wp_value (w':=w) ?_ (fin0 h hd hy2 hK ⟨_,rfl,hrep.cut (lo:=(l.getD 0).toNat) (hi:=(m.getD (List.length xs:Int)).toNat) (by omega) (by omega)⟩ trivial (fun _=>rfl))
    rw [he,hval]
    simp only [valOf,List.headD_cons] at *
    simp [hrun]
  ·cases hyu
 ·rename_i p e2
  split at hyu
  ·rename_i hb
   have:=Ty.eq_of_beq hb
   subst this
   split at hyu
   ·rename_i y hrd
    cases hyu with
    | asrt hc hyu=>
     cases hyu
     simp only [Bool.and_eq_true,decide_eq_true_eq] at hc
     obtain ⟨⟨c1,c2⟩,c3⟩:=hc
     obtain ⟨yy,o',Fm,ad,cap,rfl,hrep,_,hwk,hcut,_⟩:=rdA_get hs h hv hrd
     have hvv:a.eval x=.slice ad (List.length y) cap:=hcut
     have hlen:(List.length y)≤cap:=by
      cases o' with
      | dead=>simp [wk] at hwk
      | pr _ _=>simp [wk] at hwk
      | own _ _=>obtain ⟨a1,c1,e1,h2,_⟩:=hrep;simp only [List.cons.injEq,and_true,Value.slice.injEq] at e1;rw [e1.2.2];exact h2
      | imm=>obtain ⟨_,a1,c1,e1,h2,_⟩:=hrep;simp only [List.cons.injEq,and_true,Value.slice.injEq] at e1;rw [e1.2.2];exact h2
     have hrun:=run_sliceAt (w:=w) hT (hT.get ht) (ad:=ad) (kl:=kl) (kh:=kh) c1 c2 c3 hlen
     refine wp_value (w':=w) ?_ (fin0 h hd hy2 hK (v:=.slice (if cap=(l.getD 0).toNat then ad else ad.map (·.add ((l.getD 0).toNat * e2.size))) ((m.getD ((List.length y):Int)).toNat-(l.getD 0).toNat) (cap-(l.getD 0).toNat)) (fun hva=>?_) hh (fun _=>rfl))
     ·rw [he,hvv]
      simp [hrun]
     ·obtain ⟨ad2,len2,cap2,k1,k2⟩:=hv hva
      have:a.eval x=.slice ad2 len2 cap2:=k2
      rw [hvv] at this
      simp only [Value.slice.injEq] at this
      obtain ⟨rfl,rfl,rfl⟩:=this
      exact ⟨ad,(List.length y),cap,k1,by omega,by omega,rfl⟩
   ·cases hyu
  ·cases hyu
 ·cases hyu
theorem op_min (h:RR c sl rt ρ Fo [] a w) {args:Array Operand} {ts:Array TypeId} {x y:Operand} (hargs:args.toList=[x,y])
  (ho:o.op=.call { callee:=.builtin .min,args:=args,argTypes:=ts }) {k:IntKind} {m n:Int}
  (h1:VR (envOf c sl rt ρ Fo [] w) (.dat (.int k) m) (a.eval x)) (h2:VR (envOf c sl rt ρ Fo [] w) (.dat (.int k) n) (a.eval y)) (hd:DstOK c sl o.dst) (hy:Yields (ret1 o.dst (.dat (.int k) (if n<m then n else m)) []) Δ) (hK:Good c (Δ.slots sl) (lk Δ.rt rt) K):o.wp P a w K Q:=by
 have hx:args=#[x,y]:=Array.ext' (by simpa using hargs)
 subst hx
 have he:execOp a.eval o=(do pure (.value (←Builtin.min_ ts o.type #[a.eval x,a.eval y]))):=by
  simp [execOp,ho,resolve,invoke,builtin]
 obtain ⟨e1,x1,x2⟩:=VR_int_inv h1
 obtain ⟨e2,y1,y2⟩:=VR_int_inv h2
 refine Gives.fin (.int ?_ ?_ ?_) h he hd hy hK
 ·rw [e1,e2];simp [Builtin.min_,Builtin.min2]
 ·split<;>assumption
 ·split<;>assumption
theorem op_max (h:RR c sl rt ρ Fo [] a w) {args:Array Operand} {ts:Array TypeId} {x y:Operand} (hargs:args.toList=[x,y])
  (ho:o.op=.call { callee:=.builtin .max,args:=args,argTypes:=ts }) {k:IntKind} {m n:Int}
  (h1:VR (envOf c sl rt ρ Fo [] w) (.dat (.int k) m) (a.eval x)) (h2:VR (envOf c sl rt ρ Fo [] w) (.dat (.int k) n) (a.eval y)) (hd:DstOK c sl o.dst) (hy:Yields (ret1 o.dst (.dat (.int k) (if n > m then n else m)) []) Δ) (hK:Good c (Δ.slots sl) (lk Δ.rt rt) K):o.wp P a w K Q:=by
 have hx:args=#[x,y]:=Array.ext' (by simpa using hargs)
 subst hx
 have he:execOp a.eval o=(do pure (.value (←Builtin.max_ ts o.type #[a.eval x,a.eval y]))):=by
  simp [execOp,ho,resolve,invoke,builtin]
 obtain ⟨e1,x1,x2⟩:=VR_int_inv h1
 obtain ⟨e2,y1,y2⟩:=VR_int_inv h2
 refine Gives.fin (.int ?_ ?_ ?_) h he hd hy hK
 ·rw [e1,e2];simp [Builtin.max_,Builtin.max2]
 ·split<;>assumption
 ·split<;>assumption
end
end Go.Rd
namespace Go.Rd
theorem lk_sub {rt rt':Roots} (hs:∀r t,rt' r=some t→rt r=some t):∀(us:List (Nat×Root)) (r:Nat) (t:Root),lk us rt' r=some t→lk us rt r=some t
 | [],r,t,h=>hs r t h
 | (q,u)::us,r,t,h=>by
  simp only [lk] at *
  by_cases e:r=q
  ·subst e;rw [upd_same] at h ⊢;exact h
  ·rw [upd_ne e] at h ⊢;exact lk_sub hs us r t h
theorem subAt_modO {f:Ty→Ow→Ow} {e:Ty}:∀{τ:Ty} {o o':Ow} {x:τ.den} {y:List e.den} {off:Nat},subAt (.slice e) τ o x off=some (o',y)→subAt (.slice e) τ (modO f τ o off) x off=some (f e o',y)
 | .slice e',o,o',x,y,off,h=>by
  by_cases hb:(Ty.slice e').beq (.slice e)=true
  ·have:=Ty.eq_of_beq hb
   simp only [Ty.slice.injEq] at this
   subst this
   simp only [subAt,dif_pos hb] at h ⊢
   cases hz:Nat.beq off 0 with
   | false=>rw [hz] at h;simp at h
   | true=>
    rw [hz] at h
    simp only [if_true,Option.some.injEq,Prod.mk.injEq] at h ⊢
    simp only [modO,hz,if_true]
    exact ⟨by rw [h.1],h.2⟩
  ·simp only [subAt,dif_neg hb] at h;simp at h
 | .prod a b,o,o',x,y,off,h=>by
  have hne:¬(Ty.prod a b).beq (.slice e)=true:=by simp [Ty.beq]
  simp only [subAt,dif_neg hne] at h ⊢
  simp only [modO]
  cases hz:Nat.ble a.size off with
  | true=>rw [hz] at h;simp only [if_true] at h ⊢;exact subAt_modO h
  | false=>rw [hz] at h;simp only [Bool.false_eq_true,if_false] at h ⊢;exact subAt_modO h
 | .st t,o,o',x,y,off,h=>by
  have hne:¬(Ty.st t).beq (.slice e)=true:=by simp [Ty.beq]
  simp only [subAt,dif_neg hne] at h ⊢
  exact subAt_modO (τ:=t) h
 | .int _,_,_,_,_,_,h=>by simp [subAt,Ty.beq] at h
 | .bool,_,_,_,_,_,h=>by simp [subAt,Ty.beq] at h
 | .str,_,_,_,_,_,h=>by simp [subAt,Ty.beq] at h
 | .unit,_,_,_,_,_,h=>by simp [subAt,Ty.beq] at h
 | .arr _ _,_,_,_,_,_,h=>by simp [subAt,Ty.beq] at h
theorem subSl_modO {f:Ty→Ow→Ow}:∀{τ:Ty} {o o':Ow} {x:τ.den} {e:Ty} {y:List e.den} {off:Nat},subSl τ o x off=some ⟨e,o',y⟩→subSl τ (modO f τ o off) x off=some ⟨e,f e o',y⟩
 | .slice e',o,o',x,e,y,off,h=>by
  simp only [subSl] at h ⊢
  cases hz:Nat.beq off 0 with
  | false=>rw [hz] at h;simp at h
  | true=>
   rw [hz] at h
   simp only [if_true,Option.some.injEq,Sigma.mk.injEq] at h ⊢
   obtain ⟨rfl,h⟩:=h
   have h:=eq_of_heq h
   cases h
   simp [modO,hz]
 | .prod a b,o,o',x,e,y,off,h=>by
  simp only [subSl] at h ⊢
  simp only [modO]
  cases hz:Nat.ble a.size off with
  | true=>rw [hz] at h;simp only [if_true] at h ⊢;exact subSl_modO h
  | false=>rw [hz] at h;simp only [Bool.false_eq_true,if_false] at h ⊢;exact subSl_modO h
 | .st t,o,o',x,e,y,off,h=>subSl_modO (τ:=t) h
 | .int _,_,_,_,_,_,_,h=>by simp [subSl] at h
 | .bool,_,_,_,_,_,_,h=>by simp [subSl] at h
 | .str,_,_,_,_,_,_,h=>by simp [subSl] at h
 | .unit,_,_,_,_,_,_,h=>by simp [subSl] at h
 | .arr _ _,_,_,_,_,_,_,h=>by simp [subSl] at h
theorem look_imAt {e:Ty}:∀(l:List Step) {τ:Ty} {o o':Ow} {x:τ.den} {y:List e.den} {off:Nat},l.all (·.cnt.isNone)=true→o'≠.dead→look (.slice e) l τ o x off=some (o',y)→look (.slice e) l τ (imAt l τ o off) x off=some (.imm,y)
 | [],τ,o,o',x,y,off,_,_,h=>subAt_modO (f:=fun _ _=>.imm) h
 | s::r,τ,o,o',x,y,off,hall,hd,h=>by
  obtain ⟨n,es,so,cnt⟩:=s
  cases cnt with
  | some k=>simp at hall
  | none=>
   have hall':r.all (·.cnt.isNone)=true:=by simpa using hall
   simp only [look] at h ⊢
   cases hsl:subSl τ o x off with
   | none=>rw [hsl] at h;simp at h
   | some z=>
    obtain ⟨e1,oz,xs⟩:=z
    rw [hsl] at h
    cases oz with
    | imm=>simp at h
    | dead=>simp at h
    | pr _ _=>simp at h
    | own hh oe=>
     cases hh with
     | some _=>
      dsimp only at h
      split at h
      ·simp only [Option.some.injEq,Prod.mk.injEq] at h
       exact absurd h.1.symm hd
      ·cases h
     | none=>
      simp only [imAt]
      rw [subSl_modO hsl]
      dsimp only at h ⊢
      cases hb:Nat.beq e1.size es with
      | false=>rw [hb] at h;simp at h
      | true=>
       rw [hb] at h
       simp only [if_true] at h ⊢
       exact look_imAt r hall' hd h
def RawF (rt:Roots) (S:Nat→Prop) (w:World) (ρ:Nat→Loc):V→Value→Prop
 | .dat τ x,v=>∃cs,v=valOf τ cs∧Rep S w τ .imm cs x []
 | .nils,v=>v=.slice none 0 0
 | .ali p e rg,v=>okA rt p=true→∃a len cap,hdrAt w (fun _=>True) (ρ p.root) p (.slice a len cap)∧cutOf e.size a len cap rg v
 | _,_=>False
theorem RawF.mono {rt:Roots} {S S':Nat→Prop} {w:World} {ρ:Nat→Loc} (hS:∀b,S b→S' b) {u:V} {v:Value} (h:RawF rt S w ρ u v):RawF rt S' w ρ u v:=by
 cases u with
 | dat τ x=>obtain ⟨cs,h1,h2⟩:=h;exact ⟨cs,h1,h2.mono (fun b hb=>⟨hS b hb,rfl⟩) (fun _ _=>rfl)⟩
 | _=>exact h
section
variable {P:Program} {T:Tab} {c:Ctx} {sl:Slots} {rt rt':Roots} {ρ:Nat→Loc} {Fo:Nat→List Nat} {X:List Nat} {a:Act} {w:World} {K:Act→World→Prop} {Q:Exit→Act→World→Prop} {o:Oper} {Δ:Dl}
theorem Rep.cutOwn {S:Nat→Prop} {e:Ty} {oe:Ow} {ad:Option Addr} {n cap hi:Nat} {xs:List e.den} {F:List Nat} (h:Rep S w (.slice e) (.own none oe) [.slice ad n cap] xs F) (h2:hi≤n):
  ∃F':List Nat,F'.Sublist F∧Rep S w (.slice e) (.own none oe) [.slice ad hi cap] (xs.take hi) F':=by
 obtain ⟨a,cp,e1,h3,h4,h5⟩:=h
 simp only [List.cons.injEq,and_true,Value.slice.injEq] at e1
 obtain ⟨rfl,rfl,rfl⟩:=e1
 have hl:(xs.take hi).length=hi:=by rw [List.length_take];omega
 rcases h5 with ⟨g1,g2,g3⟩ | ⟨b,Fs,g1,g2,g3,g4,g5,g6⟩
 ·exact ⟨F,List.Sublist.refl _,ad,cap,by rw [hl],by rw [hl];omega,by rw [hl];omega,.inl ⟨g1,g2,g3⟩⟩
 ·refine ⟨b::(Fs.take hi).flatten,?_,ad,cap,by rw [hl],by rw [hl];omega,by rw [hl];omega,.inr ⟨b,Fs.take hi,g1,rfl,by rw [List.length_take,hl];omega,g4,g5,fun i y Fi hy hF=>?_⟩⟩
  ·rw [g2]
   refine List.Sublist.cons_cons b ?_
   conv=>rhs;rw [←List.take_append_drop hi Fs]
   rw [List.flatten_append]
   exact List.sublist_append_left _ _
  ·rw [List.getElem?_take] at hy hF
   by_cases hlt:i<hi
   ·rw [if_pos hlt] at hy hF;exact g6 i y Fi hy hF
   ·rw [if_neg hlt] at hy;cases hy
theorem RR.flyWeak' {F F':List Nat} (hp:F'.Sublist F) (h:RR c sl rt ρ Fo (F++X) a w):RR c sl rt ρ Fo (F'++X) a w∧(∀b,Stab c w rt Fo (F++X) b→Stab c w rt Fo (F'++X) b)∧True:=by
 have hp:=hp.append_right X
 have hS:∀b,Stab c w rt Fo (F++X) b→Stab c w rt Fo (F'++X) b:=fun b hb=>⟨hb.1,hb.2.1,hb.2.2.1,fun hm=>hb.2.2.2 (hp.subset hm)⟩
 refine ⟨⟨h.os,h.tape,h.output,h.size,h.frame,h.keepc,h.keepl,fun r t ht=>(h.roots r t ht).mono (fun b hb=>⟨hS b hb,rfl⟩) (fun _ _=>rfl),h.nodup,h.disj,h.inF,h.nodupX.sublist hp,fun b hb=>h.disjX b (hp.subset hb),fun b hb=>h.inX b (hp.subset hb),fun b hb=>h.keepX b (hp.subset hb),fun n u hu=>?_,h.named,h.defers,h.tsz,h.anch⟩,hS,trivial⟩
 have hB:∀r b,Bof c w rt ρ Fo (F++X) r b→Bof c w rt ρ Fo (F'++X) r b:=fun r b hb=>hb.imp (hS b) id
 exact VR.later (N:=fun _=>True) (E:=envOf c sl rt ρ Fo (F++X) w) (E':=envOf c sl rt ρ Fo (F'++X) w) ⟨fun b hb=>⟨hS b hb,rfl⟩,fun p b q _ hp=>⟨hp,walkP_mono (fun _ _ _ h=>h) (hB p.root)⟩,fun p _ _ _ _ hp=>⟨hp,hdrAt_mono (fun _ _ _ h=>h) (hB p.root)⟩⟩ u _ (fun _ _=>rfl) (V.holds_mono (fun _ _=>trivial) u (h.named n u hu)) (h.slots n u hu)
theorem grabF_sound (hs:∀r t,rt' r=some t→rt r=some t) {us us':List (Nat×Root)} (h:RR c sl (lk us rt) ρ Fo X a w) {mv:Bool} {σ:Ty} {u:V} {v:Value} (hv:RawF rt' (Stab c w (lk us rt) Fo X) w ρ u v)
  {oo:Ow} {y:σ.den} (hg:grabF rt' us mv σ u=some (oo,y,us')):
  ∃Fo' F cs,RR c sl (lk us' rt) ρ Fo' (F++X) a w∧v=valOf σ cs∧Rep (Stab c w (lk us' rt) Fo' (F++X)) w σ oo cs y F∧(∀z∈cs,z.oneCell'=true)∧(∀b,Stab c w (lk us rt) Fo X b→Stab c w (lk us' rt) Fo' (F++X) b):=by
 cases u with
 | ptr p=>simp [grabF] at hg
 | mix _ _=>simp [grabF] at hg
 | ipt _ _ _=>simp [grabF] at hg
 | tup _=>simp [grabF] at hg
 | grd _ _ _=>simp [grabF] at hg
 | dat τ x=>
  simp only [grabF] at hg
  split at hg
  ·rename_i hb
   have:=Ty.eq_of_beq hb
   subst this
   simp only [Option.some.injEq,Prod.mk.injEq] at hg
   obtain ⟨rfl,rfl,rfl⟩:=hg
   obtain ⟨cs,h1,h2⟩:=hv
   exact ⟨Fo,[],cs,h,h1,h2,h2.one (.inl (allImm_imm τ)),fun b hb=>hb⟩
  ·cases hg
 | nils=>
  cases σ with
  | slice e=>
   simp only [grabF,Option.some.injEq,Prod.mk.injEq] at hg
   obtain ⟨rfl,rfl,rfl⟩:=hg
   have hv:v=.slice none 0 0:=hv
   exact ⟨Fo,[],[.slice none 0 0],h,by rw [hv];rfl,⟨none,0,rfl,Nat.le_refl _,Nat.zero_le _,.inl ⟨rfl,rfl,rfl⟩⟩,by simp;rfl,fun b hb=>hb⟩
  | _=>simp [grabF] at hg
 | ali p e rg=>
  simp only [grabF] at hg
  split at hg
  ·rename_i hb
   have:=Ty.eq_of_beq hb
   subst this
   split at hg
   ·rename_i hok
    obtain ⟨ad,len,cap,hh,hc⟩:=hv hok
    have hall:=(okA_valid hok).1
    split at hg
    ·rename_i t ht
     have ht:=lk_sub hs us _ _ ht
     split at hg
     ·rename_i yy hlk
      simp only [Option.some.injEq,Prod.mk.injEq] at hg
      obtain ⟨rfl,rfl,rfl⟩:=hg
      obtain ⟨Fm,hrep,_,_⟩:=h.hdrA ht hlk hh
      have e0:=hrep.nil_of_imm
      subst e0
      have hrep':=hrep
      obtain ⟨_,a1,c1,e1,_⟩:=hrep'
      simp only [List.cons.injEq,and_true,Value.slice.injEq] at e1
      obtain ⟨rfl,rfl,rfl⟩:=e1
      cases rg with
      | none=>exact ⟨Fo,[],[v],h,rfl,by rw [show v=_ from hc];exact hrep,by rw [show v=_ from hc];simp;rfl,fun b hb=>hb⟩
      | some r=>
       obtain ⟨lo,hi⟩:=r
       obtain ⟨c1,c2,c3⟩:=hc
       have:=hrep.cut c1 c2
       rw [←c3] at this
       exact ⟨Fo,[],[v],h,rfl,this,by rw [c3];simp;rfl,fun b hb=>hb⟩
     ·rename_i oe yy hlk
      split at hg
      ·rename_i hcond
       simp only [Bool.and_eq_true,List.isEmpty_iff] at hcond
       obtain ⟨hst,hrg⟩:=hcond
       split at hg
       ·rename_i o3 x3 hset
        simp only [Option.some.injEq,Prod.mk.injEq] at hg
        obtain ⟨rfl,rfl,rfl⟩:=hg
        rw [hst] at hlk
        obtain ⟨Fo',Y,m,k1,k2,k4,k3⟩:=h.take ht hlk hset
        have hm0:=k3 p rfl rfl hst _ _ hh
        simp only [Ty.size,Nat.one_ne_zero,or_false] at hm0
        have hl1:=k2.length
        simp only [Ty.size] at hl1
        obtain ⟨z,rfl⟩:=List.length_eq_one_iff.1 hl1
        simp only [List.getElem?_cons_zero,Option.some.injEq] at hm0
        subst hm0
        cases rg with
        | none=>
         have hvv:v=.slice ad len cap:=hc
         exact ⟨Fo',Y,[v],k1,rfl,by rw [hvv];exact k2,by rw [hvv];simp;rfl,k4⟩
        | some r=>
         obtain ⟨lo,hi⟩:=r
         obtain ⟨c1,c2,c3⟩:=hc
         have h0:lo=0:=by
          simp only [Option.isNone_some,Bool.false_and,Bool.false_or,Bool.and_eq_true,fromStart] at hrg
          exact Nat.eq_of_beq_eq_true hrg.2
         subst h0
         obtain ⟨F',q1,q2⟩:=k2.cutOwn (hi:=hi) c2
         obtain ⟨w1,w2,_⟩:=k1.flyWeak' q1
         have hv2:v=.slice ad hi cap:=by
          rw [c3,Nat.sub_zero,Nat.sub_zero,Nat.zero_mul]
          congr 1
          split
          ·rfl
          ·cases ad with
           | none=>rfl
           | some x=>obtain ⟨xb,xo,xs⟩:=x;simp [Addr.add]
         refine ⟨Fo',F',[v],w1,rfl,?_,by rw [hv2];simp;rfl,fun b hb=>w2 b (k4 b hb)⟩
         rw [hv2]
         show Rep _ w (.slice e) (.own none oe) [.slice ad hi cap] ((yy.drop 0).take (hi-0)) F'
         rw [List.drop_zero,Nat.sub_zero]
         exact q2.mono (fun b hb=>⟨w2 b hb,rfl⟩) (fun _ _=>rfl)
       ·cases hg
      ·split at hg
       ·rename_i hwk
        simp only [Option.some.injEq,Prod.mk.injEq] at hg
        obtain ⟨rfl,rfl,rfl⟩:=hg
        obtain ⟨Fo',k1,k4⟩:=h.weaken ht hwk
        have hlk2:=look_imAt p.steps hall (by simp) hlk
        obtain ⟨Fm,hrep,_,_⟩:=RR.hdrA (p:=p) k1 (upd_same _ _ _) hlk2 hh
        have e0:=hrep.nil_of_imm
        subst e0
        have hrep':=hrep
        obtain ⟨_,a1,c1,e1,_⟩:=hrep'
        simp only [List.cons.injEq,and_true,Value.slice.injEq] at e1
        obtain ⟨rfl,rfl,rfl⟩:=e1
        cases rg with
        | none=>exact ⟨Fo',[],[v],k1,rfl,by rw [show v=_ from hc];exact hrep,by rw [show v=_ from hc];simp;rfl,k4⟩
        | some r=>
         obtain ⟨lo,hi⟩:=r
         obtain ⟨c1,c2,c3⟩:=hc
         have:=hrep.cut c1 c2
         rw [←c3] at this
         exact ⟨Fo',[],[v],k1,rfl,this,by rw [c3];simp;rfl,k4⟩
       ·cases hg
     ·cases hg
    ·cases hg
   ·cases hg
  ·cases hg
theorem Stab.permX {X':List Nat} (hp:X.Perm X') {b:Nat} (h:Stab c w rt Fo X b):Stab c w rt Fo X' b:=⟨h.1,h.2.1,h.2.2.1,fun hm=>h.2.2.2 (hp.mem_iff.2 hm)⟩
theorem RR.permX {X':List Nat} (hp:X.Perm X') (h:RR c sl rt ρ Fo X a w):RR c sl rt ρ Fo X' a w:=by
 have hS:∀b,Stab c w rt Fo X b→Stab c w rt Fo X' b∧Kept w w b:=fun b hb=>⟨hb.permX hp,rfl⟩
 have hB:∀r b,Bof c w rt ρ Fo X r b→Bof c w rt ρ Fo X' r b:=fun r b hb=>hb.imp (fun k=>(hS b k).1) id
 refine ⟨h.os,h.tape,h.output,h.size,h.frame,h.keepc,h.keepl,fun r t hr=>(h.roots r t hr).mono hS (fun _ _=>rfl),h.nodup,h.disj,h.inF,hp.nodup_iff.1 h.nodupX,fun b hb=>h.disjX b (hp.mem_iff.2 hb),fun b hb=>h.inX b (hp.mem_iff.2 hb),
  fun b hb=>h.keepX b (hp.mem_iff.2 hb),fun n u hu=>?_,h.named,h.defers,h.tsz,h.anch⟩
 exact VR.later (N:=PlaceOK rt) (E:=envOf c sl rt ρ Fo X w) (E':=envOf c sl rt ρ Fo X' w) ⟨hS,fun p b q _ hp=>⟨hp,walkP_mono (fun _ _ _ h=>h) (hB _)⟩,fun p _ _ _ _ hp=>⟨hp,hdrAt_mono (fun _ _ _ h=>h) (hB _)⟩⟩ u _ (fun _ _=>rfl) (h.named n u hu) (h.slots n u hu)
theorem hdrAt_weak {B:Nat→Prop} {L:Loc} {p:Place} {v:Value} (h:hdrAt w B L p v):hdrAt w (fun _=>True) L p v:=hdrAt_mono (fun _ _ _ h=>h) (fun _ _=>trivial) h
def V.flat:V→Bool
 | .dat _ _=>true
 | .nils=>true
 | .ali _ _ _=>true
 | _=>false
theorem VR.raw (hs:∀r t,rt' r=some t→rt r=some t) {u:V} {v:Value} (hf:u.flat=true) (hv:VR (envOf c sl rt ρ Fo X w) u v):RawF rt' (Stab c w rt Fo X) w ρ u v:=by
 cases u with
 | dat τ x=>exact hv
 | nils=>exact hv
 | ali p e rg=>
  intro hok
  obtain ⟨ad,len,cap,hh,hc⟩:=hv (validA_sub hs (okA_valid hok))
  exact ⟨ad,len,cap,hdrAt_weak hh,hc⟩
 | _=>simp [V.flat] at hf
def RawL (rt:Roots) (S:Nat→Prop) (w:World) (ρ:Nat→Loc):List V→List Value→Prop
 | [],cs=>cs=[]
 | u::l,cs=>∃v r,cs=v::r∧(u.flat=true→RawF rt S w ρ u v)∧RawL rt S w ρ l r
theorem RawL.mono {rt:Roots} {S S':Nat→Prop} {w:World} {ρ:Nat→Loc} (hS:∀b,S b→S' b):∀{l:List V} {cs:List Value},RawL rt S w ρ l cs→RawL rt S' w ρ l cs
 | [],_,h=>h
 | _::_,_,⟨v,r,e,h1,h2⟩=>⟨v,r,e,fun hf=>(h1 hf).mono hS,h2.mono hS⟩
theorem VRs.raw (hs:∀r t,rt' r=some t→rt r=some t):∀{l:List V} {cs:List Value},VRs (envOf c sl rt ρ Fo X w) l cs→RawL rt' (Stab c w rt Fo X) w ρ l cs
 | [],_,h=>h
 | _::_,_,⟨v,r,e,h1,h2⟩=>⟨v,r,e,fun hf=>h1.raw hs hf,VRs.raw hs h2⟩
theorem grabF_flat {us us':List (Nat×Root)} {mv:Bool} {σ:Ty} {u:V} {oo:Ow} {y:σ.den} (hg:grabF rt' us mv σ u=some (oo,y,us')):u.flat=true:=by
 cases u<;>first | rfl | simp [grabF] at hg
theorem valOf_one {σ:Ty} {cs:List Value} {v:Value} (h1:isAggB σ=false) (h2:leafTy σ=true) (hl:cs.length=σ.size) (e:v=valOf σ cs):cs=[v]:=by
 obtain ⟨z,rfl,hz⟩:=valOf_leaf h1 h2 hl
 rw [e,hz]
theorem grabL_sound (hs:∀r t,rt' r=some t→rt r=some t) {mv:Bool}:∀{σ:Ty} {us us':List (Nat×Root)} {Fo:Nat→List Nat} {X:List Nat} {l r:List V} {ms:List Value} {oo:Ow} {y:σ.den},
  RR c sl (lk us rt) ρ Fo X a w→RawL rt' (Stab c w (lk us rt) Fo X) w ρ l ms→grabL rt' mv σ us l=some (oo,y,us',r)→
  ∃Fo' F cs ds,RR c sl (lk us' rt) ρ Fo' (F++X) a w∧ms=cs++ds∧Rep (Stab c w (lk us' rt) Fo' (F++X)) w σ oo cs y F∧(∀z∈cs,z.oneCell'=true)∧RawL rt' (Stab c w (lk us' rt) Fo' (F++X)) w ρ r ds∧
   (∀b,Stab c w (lk us rt) Fo X b→Stab c w (lk us' rt) Fo' (F++X) b):=by
 intro σ
 have leafCase:∀(σ:Ty),isAggB σ=false→leafTy σ=true→∀{us us':List (Nat×Root)} {Fo:Nat→List Nat} {X:List Nat} {v:V} {l r:List V} {ms:List Value} {oo:Ow} {y:σ.den},
   RR c sl (lk us rt) ρ Fo X a w→RawL rt' (Stab c w (lk us rt) Fo X) w ρ (v::l) ms→((grabF rt' us mv σ v).map fun y=>(y.1,y.2.1,y.2.2,l))=some (oo,y,us',r)→
   ∃Fo' F cs ds,RR c sl (lk us' rt) ρ Fo' (F++X) a w∧ms=cs++ds∧Rep (Stab c w (lk us' rt) Fo' (F++X)) w σ oo cs y F∧(∀z∈cs,z.oneCell'=true)∧RawL rt' (Stab c w (lk us' rt) Fo' (F++X)) w ρ r ds∧
    (∀b,Stab c w (lk us rt) Fo X b→Stab c w (lk us' rt) Fo' (F++X) b):=by
  intro σ h1 h2 us us' Fo X v l r ms oo y h hraw hg
  obtain ⟨z,rest,rfl,hz,hrest⟩:=hraw
  cases hq:grabF rt' us mv σ v with
  | none=>rw [hq] at hg;simp at hg
  | some q=>
   rw [hq] at hg
   obtain ⟨q1,q2,q3⟩:=q
   simp only [Option.map_some,Option.some.injEq,Prod.mk.injEq] at hg
   obtain ⟨rfl,rfl,rfl,rfl⟩:=hg
   obtain ⟨Fo',F,cs,k1,k2,k3,k4,k5⟩:=grabF_sound hs h (hz (grabF_flat hq)) hq
   have e:=valOf_one h1 h2 k3.length k2
   exact ⟨Fo',F,cs,rest,k1,by rw [e];rfl,k3,k4,hrest.mono k5,k5⟩
 induction σ with
 | prod σ1 σ2 ih1 ih2=>
  intro us us' Fo X l r ms oo y h hraw hg
  simp only [grabL] at hg
  cases e1:grabL rt' mv σ1 us l with
  | none=>rw [e1] at hg;simp at hg
  | some q1=>
   obtain ⟨o1,x1,us1,r1⟩:=q1
   rw [e1] at hg
   dsimp only at hg
   cases e2:grabL rt' mv σ2 us1 r1 with
   | none=>rw [e2] at hg;simp at hg
   | some q2=>
    obtain ⟨o2,x2,us2,r2⟩:=q2
    rw [e2] at hg
    simp only [Option.some.injEq,Prod.mk.injEq] at hg
    obtain ⟨rfl,rfl,rfl,rfl⟩:=hg
    obtain ⟨Fo1,F1,c1,d1,k1,k2,k3,k4,k5,k6⟩:=ih1 h hraw e1
    obtain ⟨Fo2,F2,c2,d2,m1,m2,m3,m4,m5,m6⟩:=ih2 k1 k5 e2
    have hperm:(F2++(F1++X)).Perm ((F1++F2)++X):=List.perm_iff_count.2 fun a=>by
     simp only [List.count_append];omega
    have hS:∀b,Stab c w (lk us2 rt) Fo2 (F2++(F1++X)) b→Stab c w (lk us2 rt) Fo2 ((F1++F2)++X) b:=fun b hb=>hb.permX hperm
    refine ⟨Fo2,F1++F2,c1++c2,d2,m1.permX hperm,by rw [k2,m2];simp,⟨c1,c2,F1,F2,rfl,rfl,k3.mono (fun b hb=>⟨hS b (m6 b hb),rfl⟩) (fun _ _=>rfl),m3.mono (fun b hb=>⟨hS b hb,rfl⟩) (fun _ _=>rfl)⟩,?_,m5.mono hS,fun b hb=>hS b (m6 b (k6 b hb))⟩
    intro z hz
    rcases List.mem_append.1 hz with hz | hz
    ·exact k4 z hz
    ·exact m4 z hz
 | st t ih=>
  intro us us' Fo X l r ms oo y h hraw hg
  exact ih h hraw hg
 | unit=>
  intro us us' Fo X l r ms oo y h hraw hg
  simp only [grabL,Option.some.injEq,Prod.mk.injEq] at hg
  obtain ⟨rfl,_,rfl,rfl⟩:=hg
  exact ⟨Fo,[],[],ms,h,rfl,⟨rfl,rfl⟩,by simp,hraw,fun b hb=>hb⟩
 | arr _ _ _=>intro us us' Fo X l r ms oo y h hraw hg;simp [grabL] at hg
 | int k=>
  intro us us' Fo X l r ms oo y h hraw hg
  cases l with
  | nil=>simp [grabL] at hg
  | cons v l=>simp only [grabL] at hg;exact leafCase (.int k) rfl rfl h hraw hg
 | bool=>
  intro us us' Fo X l r ms oo y h hraw hg
  cases l with
  | nil=>simp [grabL] at hg
  | cons v l=>simp only [grabL] at hg;exact leafCase .bool rfl rfl h hraw hg
 | str=>
  intro us us' Fo X l r ms oo y h hraw hg
  cases l with
  | nil=>simp [grabL] at hg
  | cons v l=>simp only [grabL] at hg;exact leafCase .str rfl rfl h hraw hg
 | slice e _=>
  intro us us' Fo X l r ms oo y h hraw hg
  cases l with
  | nil=>simp [grabL] at hg
  | cons v l=>simp only [grabL] at hg;exact leafCase (.slice e) rfl rfl h hraw hg
theorem grab_sound (hs:∀r t,rt' r=some t→rt r=some t) {us us':List (Nat×Root)} (h:RR c sl (lk us rt) ρ Fo X a w) {mv:Bool} {σ:Ty} {u:V} {v:Value}
  (hv:(u.flat=true→RawF rt' (Stab c w (lk us rt) Fo X) w ρ u v)∧∀τ l,u=.mix τ l→∃cs,v=.agg cs.toArray∧RawL rt' (Stab c w (lk us rt) Fo X) w ρ l cs)
  {oo:Ow} {y:σ.den} (hg:grab rt' us mv σ u=some (oo,y,us')):
  ∃Fo' F cs,RR c sl (lk us' rt) ρ Fo' (F++X) a w∧v=valOf σ cs∧Rep (Stab c w (lk us' rt) Fo' (F++X)) w σ oo cs y F∧(∀z∈cs,z.oneCell'=true)∧(∀b,Stab c w (lk us rt) Fo X b→Stab c w (lk us' rt) Fo' (F++X) b):=by
 unfold grab at hg
 split at hg
 ·rename_i τ l
  split at hg
  ·rename_i hb
   rw [Bool.and_eq_true] at hb
   have:=Ty.eq_of_beq hb.1
   subst this
   split at hg
   ·rename_i o1 y1 us1 hq
    simp only [Option.some.injEq,Prod.mk.injEq] at hg
    obtain ⟨rfl,rfl,rfl⟩:=hg
    obtain ⟨cs,e,hraw⟩:=hv.2 _ l rfl
    obtain ⟨Fo',F,c1,d1,k1,k2,k3,k4,k5,k6⟩:=grabL_sound hs h hraw hq
    have:d1=[]:=k5
    subst this
    exact ⟨Fo',F,c1,k1,by rw [e,k2];cases τ<;>first | (simp [valOf];done) | simp [isSt] at hb,k3,k4,k6⟩
   ·cases hg
  ·cases hg
 ·exact grabF_sound hs h (hv.1 (grabF_flat hg)) hg
theorem VR.grabs (hs:∀r t,rt' r=some t→rt r=some t) {u:V} {v:Value} (hv:VR (envOf c sl rt ρ Fo X w) u v):
  (u.flat=true→RawF rt' (Stab c w rt Fo X) w ρ u v)∧∀τ l,u=.mix τ l→∃cs,v=.agg cs.toArray∧RawL rt' (Stab c w rt Fo X) w ρ l cs:=by
 refine ⟨fun hf=>hv.raw hs hf,fun τ l e=>?_⟩
 subst e
 obtain ⟨cs,e,hl⟩:=hv
 exact ⟨cs,e,hl.raw hs⟩
end
end Go.Rd
namespace Go.Rd
section
variable {P:Program} {T:Tab} {c:Ctx} {sl:Slots} {rt rt':Roots} {ρ:Nat→Loc} {Fo:Nat→List Nat} {X:List Nat} {a:Act} {w:World} {K:Act→World→Prop} {Q:Exit→Act→World→Prop} {o:Oper} {Δ:Dl}
theorem seg_replicate {α:Type} {l:List α}:∀{n i:Nat},i<n→(((List.replicate n l).flatten).drop (i * l.length)).take l.length=l
 | n+1,0,_=>by simp [List.replicate_succ]
 | n+1,i+1,h=>by
  rw [List.replicate_succ,List.flatten_cons,Nat.add_mul,Nat.one_mul,Nat.add_comm,←List.drop_drop,List.drop_left]
  exact seg_replicate (by omega)
theorem Rep.zero_imm {S:Nat→Prop}:∀τ:Ty,Rep S w τ .imm (zcells τ) τ.zero []
 | .int k=>⟨rfl,rfl,fun _=>⟨rfl,by show k.min≤0;cases k<;>decide,by show 0≤k.max;cases k<;>decide⟩⟩
 | .bool=>⟨rfl,rfl,fun _=>rfl⟩
 | .str=>⟨rfl,rfl,fun _=>⟨rfl,Nat.zero_le _⟩⟩
 | .unit=>⟨rfl,rfl⟩
 | .slice _=>⟨rfl,none,0,rfl,Nat.le_refl _,Nat.zero_le _,.inl rfl⟩
 | .prod a b=>⟨zcells a,zcells b,[],[],rfl,rfl,Rep.zero_imm a,Rep.zero_imm b⟩
 | .st t=>Rep.zero_imm t
 | .arr n e=>by
  refine ⟨rfl,by rw [zcells_length];rfl,fun _=>⟨by simp [Ty.zero],fun i y hy=>?_⟩⟩
  have hi:i<n:=by have:=(List.getElem?_eq_some_iff.1 hy).1;simpa [Ty.zero] using this
  have e1:y=e.zero:=by
   simp only [Ty.zero] at hy
   rw [List.getElem?_replicate,if_pos hi] at hy
   cases hy;rfl
  rw [e1,←zcells_length e]
  show Rep S w e .imm (List.take (zcells e).length (List.drop (i * (zcells e).length) (List.replicate n (zcells e)).flatten)) e.zero []
  rw [seg_replicate hi]
  exact Rep.zero_imm e
theorem Rep.zero {S:Nat→Prop}:∀τ:Ty,Rep S w τ (.full τ) (zcells τ) τ.zero []
 | .int k=>Rep.zero_imm (.int k)
 | .bool=>⟨rfl,rfl,fun _=>rfl⟩
 | .str=>⟨rfl,rfl,fun _=>⟨rfl,Nat.zero_le _⟩⟩
 | .unit=>⟨rfl,rfl⟩
 | .slice _=>⟨none,0,rfl,Nat.le_refl _,Nat.zero_le _,.inl ⟨rfl,rfl,rfl⟩⟩
 | .prod a b=>⟨zcells a,zcells b,[],[],rfl,rfl,Rep.zero a,Rep.zero b⟩
 | .st t=>Rep.zero t
 | .arr n e=>Rep.zero_imm (.arr n e)
theorem RR.newMem {F:List Nat} (h:RR c sl rt ρ Fo (F++X) a w) {d:Nat} (hd:rt d=none) {τ:Ty} {oo:Ow} {x:τ.den} {cs:List Value} (hrep:Rep (Stab c w rt Fo (F++X)) w τ oo cs x F) (te:TypeId):
  ∃ρ' Fo',RR c sl (upd rt d (some (Root.fresh τ oo x false))) ρ' Fo' X a { w with heap:=w.heap.push (.cells cs.toArray te (0,0)) }∧ρ' d=.mem w.heap.size 0∧(∀k,k≠d→ρ' k=ρ k)∧
   (∀b,Stab c w rt Fo (F++X) b→Stab c { w with heap:=w.heap.push (.cells cs.toArray te (0,0)) } (upd rt d (some (Root.fresh τ oo x false))) Fo' X b):=by
 have h1:=h.newBlock (.cells cs.toArray te (0,0))
 have hk:∀b,b<w.heap.size→Kept w { w with heap:=w.heap.push (.cells cs.toArray te (0,0)) } b:=fun b hb=>kept_push hb
 have hS1:∀b,Stab c w rt Fo (F++X) b→Stab c { w with heap:=w.heap.push (.cells cs.toArray te (0,0)) } rt Fo (w.heap.size::(F++X)) b∧Kept w { w with heap:=w.heap.push (.cells cs.toArray te (0,0)) } b:=fun b hb=>
  ⟨⟨by have:=hb.1;simp;omega,hb.2.1,hb.2.2.1,fun hm=>by
   rcases List.mem_cons.1 hm with rfl | hm
   ·have:=hb.1;omega
   ·exact hb.2.2.2 hm⟩,hk b hb.1⟩
 have h2:RR c sl rt ρ Fo ((w.heap.size::F)++X) a { w with heap:=w.heap.push (.cells cs.toArray te (0,0)) }:=by simpa using h1
 have hrep2:=hrep.mono hS1 (fun b hb=>hk b (h.inX b (List.mem_append_left _ hb)).1)
 have h3:=h2.newRoot d hd (Root.fresh τ oo x false) (.mem w.heap.size 0) ⟨cs,F,rfl,at_push,fun j=>frozen_push,hrep2,fun i _ _ hkk=>by
  have:=h.keepl _ _ hkk;have:=h.size;omega,fun b hb j hkk=>h.keepX b (List.mem_append_left _ hb) j hkk⟩
 refine ⟨_,_,h3,updL_same _ _ _,fun k hk=>updL_ne hk,fun b hb=>?_⟩
 obtain ⟨g1,g2,g3,g4⟩:=(hS1 b hb).1
 refine ⟨g1,g2,fun r t hr hm=>?_,fun hm=>g4 (by simp [hm])⟩
 by_cases e:r=d
 ·subst e;rw [updL_same] at hm
  rcases List.mem_cons.1 hm with rfl | hm
  ·exact g4 List.mem_cons_self
  ·exact g4 (by simp [hm])
 ·rw [updL_ne e] at hm;rw [upd_ne e] at hr;exact g3 r t hr hm
theorem VR.rootPtr {d:Nat} {b:Nat} (hρ:ρ d=.mem b 0) {w:World}:VR (envOf c sl rt ρ Fo X w) (rootPtr d) (.pointer (some ⟨b,0,none⟩)):=fun _=>
 ⟨b,0,by
  show walkP w _ (ρ d) _ b 0
  rw [hρ];exact ⟨rfl,rfl⟩,rfl⟩
theorem op_alloc (hT:TOK P T) (h:RR c sl rt ρ Fo [] a w) {t:TypeId} (ho:o.op=.alloc t) {τ:Ty} (ht:T t=some τ) {d:Nat} (hdst:o.dst=some d) (hnone:rt d=none) (hd:DstOK c sl o.dst)
  (hK:Good c (upd sl d (some (rootPtr d))) (upd rt d (some (Root.fresh τ (.full τ) τ.zero false))) K):o.wp P a w K Q:=by
 obtain ⟨ρ',Fo',k1,k2,k3,_⟩:=RR.newMem (F:=[]) (X:=[]) h hnone (Rep.zero τ) t
 obtain ⟨h1,h2⟩:=hd d hdst
 refine wp_value (w':={ w with heap:=w.heap.push (.cells (zcells τ).toArray t (0,0)) }) (v:=.pointer (some ⟨w.heap.size,0,none⟩)) ?_ ?_
 ·simp only [execOp,ho]
  rw [Sem.run_bind,run_alloc (hT.get ht) (zcells_one τ)];rfl
 ·rw [hdst]
  exact hK _ _ _ _ (k1.slot d (some (rootPtr d)) _ h1 h2 (fun x hx=>by cases hx;rfl) (fun x hx=>by cases hx;exact VR.rootPtr k2) (fun x hx=>by cases hx;exact ⟨_,upd_same _ _ _,Nat.zero_le _,Nat.zero_le _⟩))
theorem op_box (hT:TOK P T) (hs:∀r t,rt' r=some t→rt r=some t) (h:RR c sl rt ρ Fo [] a w) {t:TypeId} {x:Operand} (ho:o.op=.box t x) {τ:Ty} (ht:T t=some τ) {d:Nat} (hdst:o.dst=some d) (hd:DstOK c sl o.dst)
  {u:V} (hv:VR (envOf c sl rt ρ Fo [] w) u (a.eval x)) {mv:Bool} {oo:Ow} {y:τ.den} {us:List (Nat×Root)} (hg:grab rt' [] mv τ u=some (oo,y,us)) (hnone:lk us rt d=none)
  (hK:Good c (upd sl d (some (rootPtr d))) (upd (lk us rt) d (some (Root.fresh τ oo y false))) K):o.wp P a w K Q:=by
 obtain ⟨Fo1,F,cs,k1,k2,k3,k4,k5⟩:=grab_sound (us:=[]) hs h (hv.grabs hs) hg
 obtain ⟨ρ',Fo',m1,m2,m3,_⟩:=RR.newMem (F:=F) (X:=[]) k1 hnone k3 t
 obtain ⟨h1,h2⟩:=hd d hdst
 refine wp_value (w':={ w with heap:=w.heap.push (.cells cs.toArray t (0,0)) }) (v:=.pointer (some ⟨w.heap.size,0,none⟩)) ?_ ?_
 ·simp only [execOp,ho]
  rw [Sem.run_bind,k2,run_box (hT.get ht) k3.length k4];rfl
 ·rw [hdst]
  exact hK _ _ _ _ (m1.slot d (some (rootPtr d)) _ h1 h2 (fun x hx=>by cases hx;rfl) (fun x hx=>by cases hx;exact VR.rootPtr m2) (fun x hx=>by cases hx;exact ⟨_,upd_same _ _ _,Nat.zero_le _,Nat.zero_le _⟩))
end
end Go.Rd
