/-
  redundancylaw16.SignalReturns: a handler that returns at once leads back to where the thread was, with all registers and a count that is greater by 1, and no signal can be delivered in between: the function returns true, whatever the list of numbers and the number of the thread, and the list reads as it did. No condition.
-/
import Derived.ProofKit
import Derived.SizedLaws
import Derived.Test.YtmobdlmlgjngfaaGreatRows
import Derived.Test.YtmobdlmlgjngfaaGreatKe
namespace Go.Rd
theorem r17_Open_L15_ok (v1 v2 v9:Int) (r6 f:Files) (h:FilesOK f) (h1:0≤v1∧v1<(f.1.length:Int)) (h9:0≤v9∧v9<8):Ok (Fn.r17_Open_L15 ((v1,v2,v9,()),(r6,f,()),())) fun r=>FilesOK r.2.1∧-1≤r.2.2.1∧r.2.2.1≤8:=by
 rw [Fn.r17_Open_L15_eq]
 simp only [lt,Nat.zero_add]
 have i1:inR v9 f.2.length=true:=inR_of h9.1 (by rw [h.n2];omega)
 have o1:OpenOK f.1 (v1,0,decide ((0:Int)<v2)):=.inr ⟨h1,Int.le_refl 0,Int.natCast_nonneg _⟩
 have f1:=h.setO o1 v9.toNat
 have b1:-1≤v9:=by omega
 have b2:v9≤8:=by omega
 refine .need i1 (.ite (fun _=>.need (inR_of h1.1 h1.2) (.need (by rw [List.length_set];exact i1) (.some ⟨?_,b1,b2⟩))) fun _=>.some ⟨f1,b1,b2⟩)
 refine f1.setO ?_ _
 rw [getD_nat (by rw [List.length_set,h.n2];omega),List.getElem_set_self]
 exact .inr ⟨h1,Int.natCast_nonneg _,Int.le_refl _⟩
theorem r17_Open_ok (f:Files) (h:FilesOK f) (a b:Int):Ok (Fn.r17_Open (f,a,b,())) fun r=>FilesOK r.2.1∧-1≤r.2.2.1∧r.2.2.1≤8:=by
 rw [Fn.r17_Open_eq]
 refine .bindE h.copy (.tail ?_)
 have n1:=h.n1
 have n2:=h.n2
 refine Ok.while (L:=fun k:Nat=>Fn.r17_Open_L3 ((a,b,(k:Int),()),(f,([],[]),f,()),())) (P:=fun r=>FilesOK r.2.1∧-1≤r.2.2.1∧r.2.2.1≤8) (fun k=>k≤8) (fun k=>8-k) (fun k hk8 hk=>?_) 0 (by omega)
 rw [Fn.r17_Open_L3_eq]
 have hin:((!((decide ((k:Int)<(((List.length f.2):Nat):Int)))&&true))||(inR (k:Int) (List.length f.2)))=true:=by unfold inR;grind
 refine .need hin (.ite (fun hc=>.tail ?_) fun hc=>.ite (fun _=>.some ⟨h,by simp,by simp⟩) fun hx=>?_)
 ·have:k<8:=by
   by_cases hh:k<8
   ·exact hh
   ·have:¬((k:Int)<(f.2.length:Int)):=by omega
    simp [this] at hc
  rw [wr (n:=(k:Int)+1) (by omega) (by omega)]
  exact hk (k+1) (by omega) (by omega)
 ·have a1:¬a<0:=by grind
  have a2:¬(f.1.length:Int)≤a:=by grind
  have a3:(k:Int)≠(f.2.length:Int):=by grind
  have ha:0≤a∧a<(f.1.length:Int):=by omega
  refine .ite (fun _=>.need (inR_of ha.1 ha.2) (.tail ?_)) fun _=>.tail (r17_Open_L15_ok a b k _ f h ha (by omega))
  have hne:∀o:Open,OpenOK f.1 o→o.1≠a→OpenOK (List.set f.1 a.toNat []) o:=fun o ho hn=>by
   rcases ho with e | ⟨e1,e2,e3⟩
   ·exact .inl e
   ·refine .inr ⟨by simpa using e1,e2,?_⟩
    rw [getD_nat (by simp;omega),List.getElem_set_ne (by omega)]
    rw [getD_nat (by omega)] at e3
    exact e3
  simp only [Nat.zero_add]
  rw [n2]
  refine Ok.loop (L:=fun i (g:Files)=>Fn.r17_Open_L10 ((a,b,(k:Int),((8:Nat):Int),i,()),(([],[]),g,()),())) (P:=fun r=>FilesOK r.2.1∧-1≤r.2.2.1∧r.2.2.1≤8) (n:=8) (fun i g=>g.1=List.set f.1 a.toNat []∧g.2.length=8∧(∀j,j<i→OpenOK (List.set f.1 a.toNat []) (List.getD g.2 j zOpen))∧∀j,i≤j→j<8→OpenOK f.1 (List.getD g.2 j zOpen))
   (fun i g hi hg hk2=>?_) (fun g hg=>?_) (List.set f.1 a.toNat [],f.2) ⟨rfl,n2,fun j hj=>by omega,fun j _ hj=>h.open hj⟩
  ·obtain ⟨g1,g2,g3,g4⟩:=hg
   rw [Fn.r17_Open_L10_eq]
   simp only [lt,Int.toNat_natCast,Nat.zero_add]
   have go:=g4 i (Nat.le_refl _) hi
   have gi:inR (i:Int) g.2.length=true:=inR_nat (by omega)
   refine .ite (fun _=>.need gi (.ite (fun he=>.need gi (.tail ?_)) fun he=>.tail ?_)) (fun hc=>by simp at hc;omega)
   ·rw [Fn.r17_Open_L14_eq,wr (n:=(i:Int)+1) (by omega) (by omega)]
    have he:(List.getD g.2 i zOpen).1=a:=by simpa using he
    refine .tail (hk2 _ ⟨g1,by simp [g2],fun j hj=>?_,fun j hj hj8=>?_⟩)
    ·by_cases e:j=i
     ·subst e
      rw [getD_nat (by simp;omega),List.getElem_set_self]
      refine .inr ⟨?_,Int.le_refl _,Int.natCast_nonneg _⟩
      show 0≤(List.getD g.2 j zOpen).1∧(List.getD g.2 j zOpen).1<_
      rw [he];simpa using ha
     ·rw [getD_nat (by simp;omega),List.getElem_set_ne (fun hh=>e hh.symm),←getD_nat (z:=zOpen)]
      exact g3 j (by omega)
    ·rw [getD_nat (by simp;omega),List.getElem_set_ne (by omega),←getD_nat (z:=zOpen)]
     exact g4 j (by omega) hj8
   ·rw [Fn.r17_Open_L14_eq,wr (n:=(i:Int)+1) (by omega) (by omega)]
    refine .tail (hk2 g ⟨g1,g2,fun j hj=>?_,fun j hj hj8=>g4 j (by omega) hj8⟩)
    by_cases e:j=i
    ·subst e
     exact hne _ go (by simpa using he)
    ·exact g3 j (by omega)
  ·obtain ⟨g1,g2,g3,g4⟩:=hg
   rw [Fn.r17_Open_L10_eq]
   refine .ite (fun hc=>by simp at hc) fun _=>.tail (r17_Open_L15_ok a b k _ g ⟨by rw [g1];simpa using n1,g2,by rw [g1];exact set_all h.files FileOK.nil,fun o ho=>?_⟩ (by rw [g1];simpa using ha) (by omega))
   obtain ⟨j,hj,rfl⟩:=List.getElem_of_mem ho
   have:=g3 j (by omega)
   rw [getD_nat hj] at this
   rw [g1]
   exact this
theorem r17_Valid_ok (f:Files) (h:FilesOK f):Ok (Fn.r17_Valid (f,())) fun _=>True:=by
 rw [Fn.r17_Valid_eq]
 have n1:=h.n1
 have n2:=h.n2
 refine .ite (fun _=>.some trivial) fun _=>.tail (Ok.loop (L:=fun i (_:Unit)=>Fn.r17_Valid_L4 ((f.1,(f.1.length:Int),i,()),(f,()),())) (n:=f.1.length) (fun _ _=>True) (fun i _ hi _ hk=>?_) (fun _ _=>?_) () trivial)
 ·rw [Fn.r17_Valid_L4_eq,wr (n:=(i:Int)+1) (by omega) (by omega)]
  have hx:(List.getD f.1 i []).length≤BIG:=by
   have:=(h.file i).1
   show _≤9000000000000000000
   omega
  exact .ite (fun _=>.need (inR_nat hi) ((r12_Cells_ok _ hx _).bind fun _ _=>.ite (fun _=>.some trivial) fun _=>.tail (hk () trivial))) (fun hc=>by simp at hc;omega)
 ·rw [Fn.r17_Valid_L4_eq]
  refine .ite (fun hc=>by simp at hc) fun _=>.tail (Ok.loop (L:=fun i (_:Unit)=>Fn.r17_Valid_L10 ((f.2,(f.2.length:Int),i,()),(f,()),())) (n:=f.2.length) (fun _ _=>True) (fun i _ hi _ hk=>?_) (fun _ _=>?_) () trivial)
  ·rw [Fn.r17_Valid_L10_eq,wr (n:=(i:Int)+1) (by omega) (by omega)]
   simp only [lt,Int.toNat_natCast]
   refine .ite (fun _=>.need (inR_nat hi) (.need ?_ (.ite (fun _=>.some trivial) fun _=>.tail (hk () trivial)))) (fun hc=>by simp at hc;omega)
   unfold inR;grind
  ·rw [Fn.r17_Valid_L10_eq]
   exact .ite (fun hc=>by simp at hc) fun _=>.some trivial
structure FilesNew (f:Files):Prop where
 ok:FilesOK f
 plain:∀x∈f.1,∀c∈x,c.1=0∧c.2.2=(0,0)
 closed:∀o∈f.2,o=(-1,0,false)
theorem r12_Cell_plain (c:Canon) (h:c.1=0∧c.2.2=(0,0)):Fn.r12_Cell (c,())=some ((),(true,())):=by
 rw [Fn.r12_Cell_eq]
 obtain ⟨h1,h2⟩:=h
 simp [lt,h1,h2]
theorem r12_Cells_plain (l:List Canon) (hl:l.length≤BIG) (n:Int) (hn:(l.length:Int)≤n) (h:∀c∈l,c.1=0∧c.2.2=(0,0)):Fn.r12_Cells (l,n,())=some ((),(true,())):=by
 have key:Ok (Fn.r12_Cells (l,n,())) fun r=>r=((),(true,())):=by
  rw [Fn.r12_Cells_eq]
  refine .tail (Ok.loop (L:=fun i (_:Unit)=>Fn.r12_Cells_L2 ((l,n,l,(l.length:Int),i,()),(),())) (n:=l.length) (fun _ _=>True) (fun i _ hi _ hk=>?_) (fun _ _=>?_) () trivial)
  ·rw [Fn.r12_Cells_L2_eq,wr1 hi hl]
   simp only [Int.toNat_natCast,getD_nat hi]
   exact .ite (fun _=>.need (inR_nat hi) (.bindE (r12_Cell_plain _ (h _ (List.getElem_mem hi))) (.ite (fun hc=>by simp at hc) fun _=>.tail (hk () trivial)))) (fun hc=>by simp at hc;omega)
  ·rw [Fn.r12_Cells_L2_eq]
   refine .ite (fun hc=>by simp at hc) fun _=>.some ?_
   simp [hn]
 obtain ⟨r,e,rfl⟩:=key
 exact e
theorem r17_Valid_new (f:Files) (h:FilesNew f):Fn.r17_Valid (f,())=some ((),(true,())):=by
 have key:Ok (Fn.r17_Valid (f,())) fun r=>r=((),(true,())):=by
  rw [Fn.r17_Valid_eq]
  have n1:=h.ok.n1
  have n2:=h.ok.n2
  refine .ite (fun hc=>by grind) fun _=>.tail (Ok.loop (L:=fun i (_:Unit)=>Fn.r17_Valid_L4 ((f.1,(f.1.length:Int),i,()),(f,()),())) (n:=f.1.length) (fun _ _=>True) (fun i _ hi _ hk=>?_) (fun _ _=>?_) () trivial)
  ·rw [Fn.r17_Valid_L4_eq,wr (n:=(i:Int)+1) (by omega) (by omega)]
   simp only [Int.toNat_natCast,getD_nat hi]
   have h64:=(h.ok.files _ (List.getElem_mem hi)).1
   have hx:f.1[i].length≤BIG:=by show _≤9000000000000000000;omega
   exact .ite (fun _=>.need (inR_nat hi) (.bindE (r12_Cells_plain _ hx _ (by omega) (h.plain _ (List.getElem_mem hi))) (.ite (fun hc=>by simp at hc) fun _=>.tail (hk () trivial)))) (fun hc=>by simp at hc;omega)
  ·rw [Fn.r17_Valid_L4_eq]
   refine .ite (fun hc=>by simp at hc) fun _=>.tail (Ok.loop (L:=fun i (_:Unit)=>Fn.r17_Valid_L10 ((f.2,(f.2.length:Int),i,()),(f,()),())) (n:=f.2.length) (fun _ _=>True) (fun i _ hi _ hk=>?_) (fun _ _=>?_) () trivial)
   ·rw [Fn.r17_Valid_L10_eq,wr (n:=(i:Int)+1) (by omega) (by omega)]
    have hx:=h.closed _ (List.getElem_mem hi)
    simp only [lt,Int.toNat_natCast,getD_nat hi,hx]
    refine .ite (fun _=>.need (inR_nat hi) (.need (by simp) (.ite (fun hc=>?_) fun _=>.tail (hk () trivial)))) (fun hc=>by simp at hc;omega)
    exfalso
    have:¬((f.1.length:Int)≤-1):=by omega
    simp [this] at hc
   ·rw [Fn.r17_Valid_L10_eq]
    exact .ite (fun hc=>by simp at hc) fun _=>.some rfl
 obtain ⟨r,e,rfl⟩:=key
 exact e
def WordsOK (n:Nat) (l:List Int):Prop:=l.length≤n∧∀v∈l,0≤v∧v≤65535
theorem r17_New_ok (ls:List (List Int)) (h4:ls.length≤4) (hw:∀l∈ls,WordsOK 64 l):Ok (Fn.r17_New (ls,())) fun r=>r.2.2.1=0∧FilesNew r.2.1:=by
 rw [Fn.r17_New_eq]
 simp only [lt]
 refine .need rfl (.tail ?_)
 rw [show (List.replicate (Int.toNat (8:Int)) zOpen).length=8 from rfl]
 refine Ok.loop (L:=fun i (f:Files)=>Fn.r17_New_L3 ((ls,((8:Nat):Int),i,()),(([],[]),f,()),())) (P:=fun r=>r.2.2.1=0∧FilesNew r.2.1) (n:=8) (fun i f=>f.1=[]∧f.2.length=8∧(∀j,j<i→List.getD f.2 j zOpen=(-1,0,false))∧∀j,i≤j→List.getD f.2 j zOpen=zOpen) (fun i f hi hf hk=>?_) (fun f hf=>?_) _ ⟨rfl,rfl,fun j hj=>by omega,fun j _=>?_⟩
 ·obtain ⟨f1,f2,f3,f4⟩:=hf
  rw [Fn.r17_New_L3_eq,wr (n:=(i:Int)+1) (by omega) (by omega)]
  simp only [Int.toNat_natCast,Nat.zero_add,f4 i (Nat.le_refl _)]
  refine .ite (fun _=>.need (inR_nat (by omega)) (.tail (hk _ ⟨f1,by simp [f2],fun j hj=>?_,fun j hj=>?_⟩))) (fun hc=>by simp at hc;omega)
  ·by_cases e:j=i
   ·subst e
    rw [getD_nat (by simp;omega),List.getElem_set_self]
    rfl
   ·rw [getD_nat (by simp;omega),List.getElem_set_ne (fun hh=>e hh.symm),←getD_nat (z:=zOpen)]
    exact f3 j (by omega)
  ·rw [List.getD_eq_getElem?_getD,List.getElem?_set_ne (by omega),←List.getD_eq_getElem?_getD]
   exact f4 j (by omega)
 ·obtain ⟨f1,f2,f3,f4⟩:=hf
  rw [Fn.r17_New_L3_eq]
  have hcl:∀o∈f.2,o=(-1,0,false):=fun o ho=>by
   obtain ⟨j,hj,rfl⟩:=List.getElem_of_mem ho
   have:=f3 j (by omega)
   rw [getD_nat hj] at this
   exact this
  refine .ite (fun hc=>by simp at hc) fun _=>.tail (Ok.loop (L:=fun i (f:Files)=>Fn.r17_New_L8 ((ls,(ls.length:Int),i,()),(([],[]),f,()),())) (P:=fun r=>r.2.2.1=0∧FilesNew r.2.1) (n:=ls.length) (fun i f=>f.1.length=i∧f.2.length=8∧(∀x∈f.1,FileOK x∧∀c∈x,c.1=0∧c.2.2=(0,0))∧∀o∈f.2,o=(-1,0,false)) (fun i f hi hf hk=>?_) (fun f hf=>?_) f ⟨by rw [f1];rfl,f2,by rw [f1];simp,hcl⟩)
  ·obtain ⟨g1,g2,g3,g4⟩:=hf
   rw [Fn.r17_New_L8_eq]
   simp only [lt,Int.toNat_natCast,getD_nat hi]
   obtain ⟨w1,w2⟩:=hw _ (List.getElem_mem hi)
   refine .ite (fun _=>.need (inR_nat hi) (.tail ?_)) (fun hc=>by simp at hc;omega)
   refine Ok.loop (L:=fun j (acc:List Canon)=>Fn.r17_New_L12 ((acc,ls,(ls.length:Int),(i:Int),ls[i],(ls[i].length:Int),j,()),(([],[]),f,()),())) (P:=fun r=>r.2.2.1=0∧FilesNew r.2.1) (n:=ls[i].length) (fun j acc=>acc.length=j∧∀c∈acc,KC c∧c.1=0∧c.2.2=(0,0)) (fun j acc hj ha hk2=>?_) (fun acc ha=>?_) [] ⟨rfl,by simp⟩
   ·obtain ⟨a1,a2⟩:=ha
    rw [Fn.r17_New_L12_eq]
    simp only [lt,Int.toNat_natCast,getD_nat hj,wr (n:=(j:Int)+1) (by omega) (by omega)]
    refine .ite (fun _=>.need (inR_nat hj) (.need (by simp;omega) (.tail (hk2 _ ⟨by simp [a1],fun c hc=>?_⟩)))) (fun hc=>by simp at hc;omega)
    simp only [List.append_eq,List.mem_append,List.mem_singleton] at hc
    rcases hc with hc | rfl
    ·exact a2 c hc
    ·exact ⟨⟨by simp,w2 _ (List.getElem_mem hj)⟩,rfl,rfl⟩
   ·obtain ⟨a1,a2⟩:=ha
    rw [Fn.r17_New_L12_eq]
    simp only [lt,wr (n:=(i:Int)+1) (by omega) (by omega)]
    refine .ite (fun hc=>by simp at hc) fun _=>.need (by simp;omega) (.tail (hk _ ⟨by simp [g1],g2,fun x hx=>?_,g4⟩))
    simp only [List.append_eq,List.mem_append,List.mem_singleton] at hx
    rcases hx with hx | rfl
    ·exact g3 x hx
    ·exact ⟨⟨by omega,fun c hc=>(a2 c hc).1⟩,fun c hc=>(a2 c hc).2⟩
  ·obtain ⟨g1,g2,g3,g4⟩:=hf
   have fn:FilesNew f:=⟨⟨by omega,g2,fun x hx=>(g3 x hx).1,fun o ho=>.inl (by rw [g4 o ho])⟩,fun x hx=>(g3 x hx).2,g4⟩
   rw [Fn.r17_New_L8_eq]
   exact .ite (fun hc=>by simp at hc) fun _=>.bindE (r17_Valid_new f fn) (.ite (fun hc=>by simp at hc) fun _=>.some ⟨rfl,fn⟩)
 ·rw [List.getD_eq_getElem?_getD,List.getElem?_replicate]
  split<;>rfl
end Go.Rd
namespace Go.Rd
structure OutsideOK (o:Outside):Prop where
 c1:o.1.length≤64
 c2:o.2.1.length≤64
 inp:o.2.2.1.length≤2∧∀l∈o.2.2.1,WordsOK 64 l
 files:FilesOK o.2.2.2.1
 outs:o.2.2.2.2.length≤200∧∀x∈o.2.2.2.2,x.2.2.length≤65536
theorem r18_CopyInputs_spec (ls:List (List Int)) (h1:ls.length≤65536) (h2:∀l∈ls,l.length≤65536):Fn.r18_CopyInputs (ls,())=some ((),(ls,())):=by
 have key:Ok (Fn.r18_CopyInputs (ls,())) fun r=>r=((),(ls,())):=by
  rw [Fn.r18_CopyInputs_eq]
  refine .tail (Ok.loop (L:=fun i (acc:List (List Int))=>Fn.r18_CopyInputs_L3 ((acc,ls,(ls.length:Int),i,()),(),())) (n:=ls.length) (fun i acc=>acc=ls.take i) (fun i acc hi hr hk=>?_) (fun acc hr=>?_) [] (by simp))
  ·rw [Fn.r18_CopyInputs_L3_eq]
   have hx:=h2 _ (List.getElem_mem hi)
   simp only [lt,Int.toNat_natCast,getD_nat hi,wr (n:=(i:Int)+1) (by omega) (by omega)]
   refine .ite (fun _=>.need (inR_nat hi) (.need (by simp;omega) (.need ?_ (.tail (hk _ ?_))))) (fun hc=>by simp at hc;omega)
   ·rw [hr];simp;omega
   ·rw [hr]
    simp only [List.append_eq,List.nil_append]
    rw [List.take_succ_eq_append_getElem hi]
  ·rw [Fn.r18_CopyInputs_L3_eq]
   refine .ite (fun hc=>by simp at hc) fun _=>.some ?_
   rw [hr];simp
 obtain ⟨r,e,rfl⟩:=key
 exact e
theorem r18_Copy_spec (ls:List Output) (h1:ls.length≤65536) (h2:∀l∈ls,l.2.2.length≤65536):Fn.r18_Copy (ls,())=some ((),(ls,())):=by
 have key:Ok (Fn.r18_Copy (ls,())) fun r=>r=((),(ls,())):=by
  rw [Fn.r18_Copy_eq]
  refine .tail (Ok.loop (L:=fun i (acc:List Output)=>Fn.r18_Copy_L3 ((acc,ls,(ls.length:Int),i,()),(),())) (n:=ls.length) (fun i acc=>acc=ls.take i) (fun i acc hi hr hk=>?_) (fun acc hr=>?_) [] (by simp))
  ·rw [Fn.r18_Copy_L3_eq]
   have hx:=h2 _ (List.getElem_mem hi)
   simp only [lt,Int.toNat_natCast,getD_nat hi,wr (n:=(i:Int)+1) (by omega) (by omega)]
   refine .ite (fun _=>.need (inR_nat hi) (.need (by simp;omega) (.need ?_ (.tail (hk _ ?_))))) (fun hc=>by simp at hc;omega)
   ·rw [hr];simp;omega
   ·rw [hr]
    simp only [List.append_eq,List.nil_append]
    rw [List.take_succ_eq_append_getElem hi]
  ·rw [Fn.r18_Copy_L3_eq]
   refine .ite (fun hc=>by simp at hc) fun _=>.some ?_
   rw [hr];simp
 obtain ⟨r,e,rfl⟩:=key
 exact e
theorem OutsideOK.copyIn {o:Outside} (h:OutsideOK o):Fn.r18_CopyInputs (o.2.2.1,())=some ((),(o.2.2.1,())):=r18_CopyInputs_spec _ (by have:=h.inp.1;omega) fun l hl=>by have:=(h.inp.2 l hl).1;omega
theorem OutsideOK.copyOut {o:Outside} (h:OutsideOK o):Fn.r18_Copy (o.2.2.2.2,())=some ((),(o.2.2.2.2,())):=r18_Copy_spec _ (by have:=h.outs.1;omega) h.outs.2
theorem r19_Copy_spec (o:Outside) (h:OutsideOK o):Fn.r19_Copy (o,())=some ((),(o,())):=by
 have key:Ok (Fn.r19_Copy (o,())) fun r=>r=((),(o,())):=by
  rw [Fn.r19_Copy_eq]
  have:=h.c1
  have:=h.c2
  exact .need (by simp;omega) (.need (by simp;omega) (.bindE h.copyIn (.bindE h.files.copy (.bindE h.copyOut (.some rfl)))))
 obtain ⟨r,e,rfl⟩:=key
 exact e
theorem r18_Ordered_ok (ls:List Output) (h1:ls.length≤65536):Ok (Fn.r18_Ordered (ls,())) fun r=>ls=[]→r.2.1=true:=by
 rw [Fn.r18_Ordered_eq]
 refine .tail (Ok.loop (L:=fun i (_:Unit)=>Fn.r18_Ordered_L2 ((ls,(ls.length:Int),i,()),(),())) (n:=ls.length) (fun _ _=>True) (fun i _ hi _ hk=>?_) (fun _ _=>?_) () trivial)
 ·rw [Fn.r18_Ordered_L2_eq,wr (n:=(i:Int)+1) (by omega) (by omega)]
  refine .ite (fun _=>.need (inR_nat hi) (.ite (fun _=>.some fun h=>?_) fun _=>.tail (hk () trivial))) (fun hc=>by simp at hc;omega)
  rw [h] at hi;simp at hi
 ·rw [Fn.r18_Ordered_L2_eq]
  exact .ite (fun hc=>by simp at hc) fun _=>.some fun _=>rfl
theorem r18_Send_ok (ls:List Output) (h1:ls.length≤200) (h2:∀l∈ls,l.2.2.length≤65536) (a:Int) (v:List Canon):Ok (Fn.r18_Send (ls,a,v,())) fun r=>r.2.1.length≤200∧∀x∈r.2.1,x.2.2.length≤65536:=by
 rw [Fn.r18_Send_eq]
 refine .bindE (r18_Copy_spec ls (by omega) h2) (.ite (fun _=>.some ⟨h1,h2⟩) fun hx=>?_)
 have b1:¬(200:Int)≤(ls.length:Int):=by grind
 have b2:¬(16:Int)<(v.length:Int):=by grind
 refine .need (by simp;omega) (.need (by simp;omega) (.some ⟨?_,fun x hx=>?_⟩))
 ·simp only [List.append_eq,List.length_append,List.length_cons,List.length_nil];omega
 ·simp only [List.append_eq,List.mem_append,List.mem_singleton,List.nil_append] at hx
  rcases hx with hx | rfl
  ·exact h2 x hx
  ·show v.length≤65536;omega
theorem r18_Receive_ok (ls:List (List Int)) (h1:ls.length≤2) (h2:∀l∈ls,WordsOK 64 l) (a b:Int):Ok (Fn.r18_Receive (ls,a,b,())) fun r=>(r.2.1.length≤2∧∀l∈r.2.1,WordsOK 64 l)∧r.2.2.1.length≤64∧∀c∈r.2.2.1,KC c:=by
 rw [Fn.r18_Receive_eq]
 simp only [lt]
 refine .bindE (r18_CopyInputs_spec ls (by omega) fun l hl=>by have:=(h2 l hl).1;omega) (.ite (fun _=>.some ⟨⟨h1,h2⟩,by simp,by simp⟩) fun hx=>?_)
 have a0:0≤a∧a<(ls.length:Int):=by grind
 have b0:0≤b:=by grind
 have i1:inR a ls.length=true:=inR_of a0.1 a0.2
 have hlt:a.toNat<ls.length:=by omega
 have hl:=h2 _ (List.getElem_mem hlt)
 rw [←getD_nat (z:=[]) hlt] at hl
 generalize hxx:List.getD ls a.toNat []=x at *
 obtain ⟨x1,x2⟩:=hl
 have hmin:0≤(if (x.length:Int)<b then (x.length:Int) else b)∧(if (x.length:Int)<b then (x.length:Int) else b)≤(x.length:Int):=by split<;>omega
 generalize (if (x.length:Int)<b then (x.length:Int) else b)=k at *
 refine .need i1 (.need i1 (.need (by simp only [decide_eq_true_eq,Bool.and_eq_true];omega) (.tail ?_)))
 have t1:(List.take (k.toNat-Int.toNat 0) (List.drop (Int.toNat 0) x)).length≤64:=by rw [List.length_take,List.length_drop];omega
 have t2:∀v∈List.take (k.toNat-Int.toNat 0) (List.drop (Int.toNat 0) x),0≤v∧v≤65535:=fun v hv=>x2 v (List.mem_of_mem_drop (List.mem_of_mem_take hv))
 generalize List.take (k.toNat-Int.toNat 0) (List.drop (Int.toNat 0) x)=y at *
 refine Ok.loop (L:=fun j (acc:List Canon)=>Fn.r18_Receive_L7 ((a,ls,k,acc,y,(y.length:Int),j,()),(),())) (n:=y.length) (fun j acc=>acc.length=j∧∀c∈acc,KC c) (fun j acc hj ha hk2=>?_) (fun acc ha=>?_) [] ⟨rfl,by simp⟩
 ·obtain ⟨a1,a2⟩:=ha
  rw [Fn.r18_Receive_L7_eq]
  simp only [lt,Int.toNat_natCast,getD_nat hj,wr (n:=(j:Int)+1) (by omega) (by omega)]
  refine .ite (fun _=>.need (inR_nat hj) (.need (by simp;omega) (.tail (hk2 _ ⟨by simp [a1],fun c hc=>?_⟩)))) (fun hc=>by simp at hc;omega)
  simp only [List.append_eq,List.mem_append,List.mem_singleton] at hc
  rcases hc with hc | rfl
  ·exact a2 c hc
  ·exact ⟨by simp,t2 _ (List.getElem_mem hj)⟩
 ·obtain ⟨a1,a2⟩:=ha
  rw [Fn.r18_Receive_L7_eq]
  simp only [lt,Nat.zero_add,hxx]
  refine .ite (fun hc=>by simp at hc) fun _=>.need i1 (.need (by simp only [decide_eq_true_eq,Bool.and_eq_true];omega) (.need i1 (.some ⟨⟨by simpa using h1,set_all h2 ⟨?_,fun v hv=>x2 v (List.mem_of_mem_drop (List.mem_of_mem_take hv))⟩⟩,by dsimp only;omega,a2⟩)))
  rw [List.length_take,List.length_drop];omega
theorem r19_Valid_ok (o:Outside) (h:OutsideOK o):Ok (Fn.r19_Valid (o,())) fun r=>(FilesNew o.2.2.2.1∧o.2.2.2.2=[])→r.2.1=true:=by
 rw [Fn.r19_Valid_eq]
 have h2:=h.inp
 have h3:=h.outs
 have c1:=h.c1
 have c2:=h.c2
 refine .tail (Ok.loop (L:=fun i (_:Unit)=>Fn.r19_Valid_L2 ((o.2.2.1,(o.2.2.1.length:Int),i,()),(o,()),())) (n:=o.2.2.1.length) (fun _ _=>True) (fun i _ hi _ hk=>?_) (fun _ _=>?_) () trivial)
 ·rw [Fn.r19_Valid_L2_eq,wr (n:=(i:Int)+1) (by omega) (by omega)]
  simp only [Int.toNat_natCast,getD_nat hi]
  have:=(h2.2 _ (List.getElem_mem hi)).1
  exact .ite (fun _=>.need (inR_nat hi) (.ite (fun hc=>by simp at hc;omega) fun _=>.tail (hk () trivial))) (fun hc=>by simp at hc;omega)
 ·rw [Fn.r19_Valid_L2_eq]
  refine .ite (fun hc=>by simp at hc) fun _=>.tail (Ok.loop (L:=fun i (_:Unit)=>Fn.r19_Valid_L8 ((o.2.2.2.2,(o.2.2.2.2.length:Int),i,()),(o,()),())) (n:=o.2.2.2.2.length) (fun _ _=>True) (fun i _ hi _ hk=>?_) (fun _ _=>?_) () trivial)
  ·rw [Fn.r19_Valid_L8_eq,wr (n:=(i:Int)+1) (by omega) (by omega)]
   simp only [Int.toNat_natCast,getD_nat hi]
   have hx:o.2.2.2.2[i].2.2.length≤BIG:=by
    have:=h3.2 _ (List.getElem_mem hi)
    show _≤9000000000000000000
    omega
   refine .ite (fun _=>.need (inR_nat hi) ((r12_Cells_ok _ hx _).bind fun _ _=>.ite (fun _=>.some fun hh=>?_) fun _=>.tail (hk () trivial))) (fun hc=>by simp at hc;omega)
   rw [hh.2] at hi;simp at hi
  ·rw [Fn.r19_Valid_L8_eq]
   simp only [lt]
   have e1:(bif (bif (decide ((((List.length o.1):Nat):Int)≤(64:Int))) then (decide ((((List.length o.2.1):Nat):Int)≤(64:Int))) else false) then (decide ((((List.length o.2.2.1):Nat):Int)≤(2:Int))) else false)=true:=by grind
   have e2:decide (((o.2.2.2.2.length:Nat):Int)≤200)=true:=decide_eq_true (by omega)
   rw [e1,e2]
   refine .ite (fun hc=>by simp at hc) fun _=>Ok.bind (P:=fun y=>FilesNew o.2.2.2.1→y.2.1=true) ?_ fun y hy=>Ok.bind (P:=fun z=>y.2.1=true→o.2.2.2.2=[]→z.2.1=true) (.ite (fun _=>(r18_Ordered_ok _ (by omega)).mono fun _ h _=>h) fun hc=>.some fun hh=>by simp [hh] at hc) fun z hz=>.some fun hh=>?_
   ·refine .ite (fun _=>?_) fun hc=>by simp at hc
    by_cases hn:FilesNew o.2.2.2.1
    ·exact .of (r17_Valid_new _ hn) fun _=>rfl
    ·exact (r17_Valid_ok _ h.files).mono fun _ _ hh=>absurd hh hn
   ·have q1:=hy hh.1
    have q2:=hz q1 hh.2
    simp [q1,q2]
theorem r19_Begin_ok (fs ins:List (List Int)) (c1 c2:List Int) (hf:fs.length≤4∧∀l∈fs,WordsOK 64 l) (hi:ins.length≤2∧∀l∈ins,WordsOK 64 l) (h1:c1.length≤64) (h2:c2.length≤64):
  Ok (Fn.r19_Begin (fs,ins,c1,c2,())) fun r=>OutsideOK r.2.1∧FilesNew r.2.1.2.2.2.1∧r.2.1.2.2.2.2=[]:=by
 rw [Fn.r19_Begin_eq]
 simp only [lt]
 refine (r17_New_ok fs hf.1 hf.2).bind fun y hy=>.ite (fun hc=>by rw [hy.1] at hc;simp at hc) fun _=>.need (by simp;omega) (.need (by simp;omega) (.bindE (r18_CopyInputs_spec ins (by omega) fun l hl=>by have:=(hi.2 l hl).1;omega) ?_))
 have ho:OutsideOK (c1,c2,ins,y.2.1,[]):=⟨h1,h2,hi,hy.2.ok,by simp⟩
 refine (r19_Valid_ok (c1,c2,ins,y.2.1,[]) ho).bind fun z hz=>?_
 have hz:=hz ⟨hy.2,rfl⟩
 rw [hz]
 exact .ite (fun hc=>by simp at hc) fun _=>.some ⟨ho,hy.2,rfl⟩
theorem r19_Value_ok (a:Int) (b:Bool):Ok (Fn.r19_Value (a,b,())) fun r=>KC r.2.1.1∧r.2.1.2.1=[]:=by
 rw [Fn.r19_Value_eq]
 exact .ite (fun _=>.some ⟨⟨by simp,wr16_range _⟩,rfl⟩) fun _=>.some ⟨⟨by simp,wr16_range _⟩,rfl⟩
theorem r19_Acts_ok (a:Int):Ok (Fn.r19_Acts (a,())) fun _=>True:=by
 rw [Fn.r19_Acts_eq];exact .some trivial
theorem do_end (r4:Outside) (r5:Result) (o:Outside) (r:Result) {P:Unit×Outside×Result×Int×Unit→Prop} (h:P ((),(o,(r,(0,()))))):Ok ((Fn.r19_Do_L43 ((),((r4,(r5,(o,(r,())))),()))).bind some) P:=
 .tail (by rw [Fn.r19_Do_L43_eq];exact .some h)
def DoP (r:Unit×Outside×Result×Int×Unit):Prop:=r.2.2.2.1=0→OutsideOK r.2.1∧ResOK r.2.2.1
theorem do_fin (r4:Outside) (r5:Result) (o:Outside) (r:Result) (ho:OutsideOK o) (hr:ResOK r):Ok ((Fn.r19_Do_L43 ((),((r4,(r5,(o,(r,())))),()))).bind some) DoP:=do_end r4 r5 o r fun _=>⟨ho,hr⟩
theorem r19_Do_ok {C:Nat} (o:Outside) (h:OutsideOK o) (q:Request) (hq:ReqOK C q):Ok (Fn.r19_Do (o,q,())) DoP:=by
 rw [Fn.r19_Do_eq]
 simp only [lt]
 have ha3:=nargs_le q.2.2.2.2.2.1
 have hqa:=hq.args
 refine (r19_Valid_ok o h).bind fun y1 _=>Ok.bind (P:=fun _=>True) (.ite (fun _=>r12_Valid_ok q hq) fun _=>.some trivial) fun y2 _=>Ok.bind (P:=fun _=>True) (.ite (fun _=>r19_Acts_ok _) fun _=>.some trivial) fun y3 _=>Ok.bind (P:=fun _=>True) (.ite (fun _=>r12_Kinds_ok q hq) fun _=>.some trivial) fun y4 _=>
  Ok.bind (P:=fun y=>y.2.1=2→3≤q.2.2.2.2.2.2.1.length) (.ite (fun _=>.of (r12_Buffer_spec _) fun hb=>?_) fun _=>.some fun hh=>by simp at hh) fun y5 hy5=>.need ?_ (.ite (fun _=>.some fun hh=>by simp at hh) fun _=>.bindE (r19_Copy_spec o h) (.tail ?_))
 ·rw [hqa]
  unfold bufK at hb
  unfold nargs
  grind
 ·unfold inR;grind
 refine Ok.loop (L:=fun k (v:List Int)=>Fn.r19_Do_L6 ((v,q.2.2.2.2.2.2.1,(q.2.2.2.2.2.2.1.length:Int),k,()),(o,q,zOutside,zResult,o,()),())) (P:=DoP) (n:=q.2.2.2.2.2.2.1.length) (fun _ v=>v.length=3∧∀x∈v,0≤x∧x≤65535) (fun k v hk1 hv hk=>?_) (fun v hv=>?_) _ ⟨rfl,by simp⟩
 ·obtain ⟨v1,v2⟩:=hv
  rw [Fn.r19_Do_L6_eq]
  simp only [Int.toNat_natCast,getD_nat hk1,wr (n:=(k:Int)+1) (by omega) (by omega)]
  have hx:=(hq.vals _ (List.getElem_mem hk1)).2
  rw [wr (n:=q.2.2.2.2.2.2.1[k].2.1) (by omega) (by omega)]
  exact .ite (fun _=>.need (inR_nat hk1) (.need (inR_nat (by omega)) (.tail (hk _ ⟨by simp [v1],set_all v2 hx⟩)))) (fun hc=>by simp at hc;omega)
 ·obtain ⟨v1,v2⟩:=hv
  rw [Fn.r19_Do_L6_eq]
  simp only [lt,Nat.zero_add]
  rw [show Int.toNat 0=0 from rfl,show Int.toNat 1=1 from rfl,show Int.toNat 2=2 from rfl]
  have hv2:0≤List.getD v 2 0∧List.getD v 2 0≤65535:=getD_all (P:=fun x=>0≤x∧x≤65535) v2 (by omega) 2
  have i0:inR 0 v.length=true:=inR_of (by omega) (by omega)
  have i1:inR 1 v.length=true:=inR_of (by omega) (by omega)
  have i2:inR 2 v.length=true:=inR_of (by omega) (by omega)
  have res:∀(c:Canon) (n:Int) (b:Bool),KC c→ResOK (c,[],n,b):=fun c n b hc=>⟨hc,by simp,by simp⟩
  have res2:∀(c:Canon) (l:List Canon) (n:Int) (b:Bool),KC c→l.length≤64→(∀x∈l,KC x)→ResOK (c,l,n,b):=fun c l n b hc h1 h2=>⟨hc,by show l.length≤65536;omega,h2⟩
  have hb:=hq.buf
  have e1:∀y:Unit×Result×Unit,(KC y.2.1.1∧y.2.1.2.1=[])→ResOK (y.2.1.1,y.2.1.2):=fun y hy=>⟨hy.1,by show y.2.1.2.1.length≤_;rw [hy.2];simp,by show ∀c∈y.2.1.2.1,_;rw [hy.2];simp⟩
  refine .ite (fun hc=>by simp at hc) fun _=>(r19_Value_ok 0 false).bind fun z hz=>?_
  refine .ite (fun _=>.need i0 ((r17_Write_ok _ h.files _ _ (by omega) hq.bvals).bind fun a ha=>(r19_Value_ok _ _).bind fun b hb=>do_fin _ _ _ _ ⟨h.c1,h.c2,h.inp,ha,h.outs⟩ (e1 b hb))) fun _=>?_
  refine .ite (fun _=>.need i0 (.need i2 ((r17_Read_ok _ h.files _ _ (by omega)).bind fun a ha=>(r19_Value_ok _ _).bind fun b hb=>do_fin _ _ _ _ ⟨h.c1,h.c2,h.inp,ha.1,h.outs⟩ (res2 _ _ _ _ hb.1 ha.2.1 ha.2.2)))) fun _=>?_
  refine .ite (fun _=>.need i0 (.need i1 ((r17_Open_ok _ h.files _ _).bind fun a ha=>.ite (fun _=>do_fin _ _ _ _ ⟨h.c1,h.c2,h.inp,ha.1,h.outs⟩ ⟨⟨by simp,wr16_range _⟩,by show z.2.1.2.1.length≤_;rw [hz.2];simp,by show ∀c∈z.2.1.2.1,_;rw [hz.2];simp⟩) fun _=>do_fin _ _ _ _ ⟨h.c1,h.c2,h.inp,ha.1,h.outs⟩ (e1 z hz)))) fun _=>?_
  refine .ite (fun _=>.need i0 ((r17_Close_ok _ h.files _).bind fun a ha=>(r19_Value_ok _ _).bind fun b hb=>do_fin _ _ _ _ ⟨h.c1,h.c2,h.inp,ha,h.outs⟩ (e1 b hb))) fun _=>?_
  refine .ite (fun _=>.need i0 (.need i1 ((r17_Seek_ok _ h.files _ _).bind fun a ha=>(r19_Value_ok _ _).bind fun b hb=>do_fin _ _ _ _ ⟨h.c1,h.c2,h.inp,ha,h.outs⟩ (e1 b hb)))) fun _=>?_
  refine .ite (fun _=>.ite (fun hp=>?_) fun _=>do_fin _ _ _ _ h (e1 z hz)) fun _=>?_
  ·have hp:=of_decide_eq_true hp
   have c1:=h.c1
   refine .need (inR_of (by omega) hp) ((r19_Value_ok _ _).bind fun b hb=>.need (by simp only [decide_eq_true_eq,Bool.and_eq_true];omega) (do_fin _ _ _ _ ⟨?_,h.c2,h.inp,h.files,h.outs⟩ (e1 b hb)))
   show (List.take _ _).length≤64
   rw [List.length_take,List.length_drop];omega
  refine .ite (fun _=>.ite (fun hp=>?_) fun _=>do_fin _ _ _ _ h (e1 z hz)) fun _=>?_
  ·have hp:=of_decide_eq_true hp
   have c2:=h.c2
   refine .need (inR_of (by omega) hp) ((r19_Value_ok _ _).bind fun b hb=>.need (by simp only [decide_eq_true_eq,Bool.and_eq_true];omega) (do_fin _ _ _ _ ⟨h.c1,?_,h.inp,h.files,h.outs⟩ (e1 b hb)))
   show (List.take _ _).length≤64
   rw [List.length_take,List.length_drop];omega
  refine .ite (fun _=>.need i0 ((r18_Send_ok _ h.outs.1 h.outs.2 _ _).bind fun a ha=>(r19_Value_ok _ _).bind fun b hb=>do_fin _ _ _ _ ⟨h.c1,h.c2,h.inp,h.files,ha⟩ (e1 b hb))) fun _=>?_
  exact .ite (fun _=>.need i0 (.need i2 ((r18_Receive_ok _ h.inp.1 h.inp.2 _ _).bind fun a ha=>(r19_Value_ok _ _).bind fun b hb=>do_fin _ _ _ _ ⟨h.c1,h.c2,ha.1,h.files,h.outs⟩ (res2 _ _ _ _ hb.1 ha.2.1 ha.2.2)))) fun _=>do_fin _ _ _ _ h (e1 z hz)
end Go.Rd
namespace Go.Rd
structure RunOK (p:Prog) (r:Run) (K:Int) (N R:Nat):Prop where
 prog:r.1=p
 pok:ProgOK p
 mach:MachOK p r.2.1 K
 out:OutsideOK r.2.2.1
 locks:LocksOK r.2.2.2.1 N
 recd:r.2.2.2.2.1.length≤R
 joins:r.2.2.2.2.2.length=4
theorem RunOK.mono {p:Prog} {r:Run} {K K':Int} {N N' R R':Nat} (h:RunOK p r K N R) (hk:K≤K') (hn:N≤N') (hr:R≤R'):RunOK p r K' N' R':=
 ⟨h.prog,h.pok,h.mach.mono hk,h.out,h.locks.mono hn,Nat.le_trans h.recd hr,h.joins⟩
theorem r21_proper_ok (s:List Int) (f:Files) (h:FilesNew f):Fn.r21_proper (s,f,())=some ((),(true,())):=by
 have key:Ok (Fn.r21_proper (s,f,())) fun r=>r=((),(true,())):=by
  rw [Fn.r21_proper_eq]
  have n1:=h.ok.n1
  refine .tail (Ok.loop (L:=fun i (_:Unit)=>Fn.r21_proper_L2 ((s,f.1,(f.1.length:Int),i,()),(),())) (n:=f.1.length) (fun _ _=>True) (fun i _ hi _ hk=>?_) (fun _ _=>?_) () trivial)
  ·rw [Fn.r21_proper_L2_eq]
   simp only [lt,Int.toNat_natCast,getD_nat hi]
   have h64:=(h.ok.files _ (List.getElem_mem hi)).1
   have hpl:=h.plain _ (List.getElem_mem hi)
   refine .ite (fun _=>.need (inR_nat hi) (.tail ?_)) (fun hc=>by simp at hc;omega)
   refine Ok.loop (L:=fun j (_:Unit)=>Fn.r21_proper_L5 ((s,f.1,(f.1.length:Int),(i:Int),f.1[i],(f.1[i].length:Int),j,()),(),())) (n:=f.1[i].length) (fun _ _=>True) (fun j _ hj _ hk2=>?_) (fun _ _=>?_) () trivial
   ·rw [Fn.r21_proper_L5_eq,wr (n:=(j:Int)+1) (by omega) (by omega)]
    simp only [Int.toNat_natCast,getD_nat hj]
    have hx:=hpl _ (List.getElem_mem hj)
    refine .ite (fun _=>.need (inR_nat hj) (.bindE (r03_Proper_spec _ _) (.ite (fun hc=>?_) fun _=>.tail (hk2 () trivial)))) (fun hc=>by simp at hc;omega)
    unfold properB at hc
    simp [hx.1,hx.2] at hc
   ·rw [Fn.r21_proper_L5_eq,wr (n:=(i:Int)+1) (by omega) (by omega)]
    exact .ite (fun hc=>by simp at hc) fun _=>.tail (hk () trivial)
  ·rw [Fn.r21_proper_L2_eq]
   exact .ite (fun hc=>by simp at hc) fun _=>.some rfl
 obtain ⟨r,e,rfl⟩:=key
 exact e
theorem r21_Begin_ok (p:Prog) (hp:ProgOK p) (l:Layout) (hl:LayoutOK l p.2.1) (o:Outside) (ho:OutsideOK o) (hn:FilesNew o.2.2.2.1) (he:o.2.2.2.2=[]):
  Ok (Fn.r21_Begin (p,l,o,())) fun r=>RunOK p r.2.1 0 0 0:=by
 rw [Fn.r21_Begin_eq]
 simp only [lt]
 refine (r08_Start_ok p hp l hl).bind fun y hy=>.ite (fun hc=>by rw [hy.1] at hc;simp at hc) fun _=>(r19_Valid_ok o ho).bind fun z hz=>?_
 have hz:=hz ⟨hn,he⟩
 rw [hz]
 refine Ok.bind (P:=fun w=>w.2.1=true) (.ite (fun _=>.of (r21_proper_ok _ _ hn) rfl) fun hc=>by simp at hc) fun w hw=>.ite (fun hc=>by rw [hw] at hc;simp at hc) fun _=>.bindE (r19_Copy_spec o ho) (r15_New_ok.bind fun v hv=>.tail ?_)
 refine Ok.loop (L:=fun i (r:Run)=>Fn.r21_Begin_L8 ((i,()),(zRun,r,()),())) (P:=fun r=>RunOK p r.2.1 0 0 0) (n:=4) (fun i r=>r.1=p∧MachOK p r.2.1 0∧OutsideOK r.2.2.1∧LocksOK r.2.2.2.1 0∧r.2.2.2.2.1=[]∧r.2.2.2.2.2.length=i) (fun i r hi hr hk=>?_) (fun r hr=>?_) (p,y.2.1,o,v.2.1,[],[]) ⟨rfl,hy.2.1,ho,hv,rfl,rfl⟩
 ·obtain ⟨a1,a2,a3,a4,a5,a6⟩:=hr
  rw [Fn.r21_Begin_L8_eq]
  simp only [lt,wr (n:=(i:Int)+1) (by omega) (by omega)]
  exact .ite (fun _=>.need (by simp;omega) (.tail (hk _ ⟨a1,a2,a3,a4,a5,by simp [a6]⟩))) (fun hc=>by simp at hc;omega)
 ·obtain ⟨a1,a2,a3,a4,a5,a6⟩:=hr
  rw [Fn.r21_Begin_L8_eq]
  exact .ite (fun hc=>by simp at hc) fun _=>.some ⟨a1,hp,a2,a3,a4,by show r.2.2.2.2.1.length≤0;rw [a5];simp,a6⟩
theorem r21_copied_ok {p:Prog} {K:Int} {N R:Nat} (r:Run) (h:RunOK p r K N R) (hR:R≤65536):Fn.r21_copied (r,())=some ((),(r,())):=by
 have key:Ok (Fn.r21_copied (r,())) fun y=>y=((),(r,())):=by
  rw [Fn.r21_copied_eq]
  have:=h.recd
  have:=h.joins
  exact .need (by simp;omega) (.need (by simp;omega) (.some rfl))
 obtain ⟨y,e,rfl⟩:=key
 exact e
def WakeP (p:Prog) (a:Prog×Machine×Outside×Locks×List Entry) (K:Int) (r:((Prog×Machine×Outside×Locks×List Entry)×Unit)×Unit):Prop:=
 r.1.1.1=a.1∧MachOK p r.1.1.2.1 K∧r.1.1.2.2.1=a.2.2.1∧r.1.1.2.2.2.1=a.2.2.2.1∧r.1.1.2.2.2.2.length=a.2.2.2.2.length+1
theorem r21_wake_ok (p:Prog) (hp:ProgOK p) (a:Prog×Machine×Outside×Locks×List Entry) (K:Int) (hK1:K≤1099511627776) (h1:a.1=p) (hm:MachOK p a.2.1 K) (hl:a.2.2.2.2.length≤65536) (i c:Int):
  Ok (Fn.r21_wake (a,i,c,())) (WakeP p a K):=by
 rw [Fn.r21_wake_eq]
 simp only [lt]
 subst h1
 refine (r19_Value_ok _ _).bind fun y hy=>(r14_Wake_ok a.1 hp a.2.1 K hK1 hm i (y.2.1.1,y.2.1.2) ⟨hy.1,by show y.2.1.2.1.length≤_;rw [hy.2];simp,by show ∀c∈y.2.1.2.1,_;rw [hy.2];simp⟩).bind fun z hz=>.need (by simp;omega) (.some ⟨rfl,hz.1,rfl,rfl,by simp⟩)
theorem RunOK.wake {p:Prog} {r:Run} {K:Int} {N R:Nat} (h:RunOK p r K N R) {w:((Prog×Machine×Outside×Locks×List Entry)×Unit)×Unit} (hw:WakeP p (r.1,r.2.1,r.2.2.1,r.2.2.2.1,r.2.2.2.2.1) K w) {js:List Int} (hj:js.length=4):
  RunOK p (w.1.1.1,w.1.1.2.1,w.1.1.2.2.1,w.1.1.2.2.2.1,w.1.1.2.2.2.2,js) K N (R+1):=by
 obtain ⟨w1,w2,w3,w4,w5⟩:=hw
 refine ⟨w1.trans h.prog,h.pok,w2,?_,?_,?_,hj⟩
 ·show OutsideOK w.1.1.2.2.1;rw [w3];exact h.out
 ·show LocksOK w.1.1.2.2.2.1 N;rw [w4];exact h.locks
 ·show w.1.1.2.2.2.2.length≤R+1
  rw [w5]
  have:=h.recd
  show r.2.2.2.2.1.length+1≤R+1
  omega
def PerfP (p:Prog) (K:Int) (N R:Nat) (r:(Run×Unit)×Result×Int×Unit):Prop:=RunOK p r.1.1 K (N+1) R∧ResOK r.2.1
theorem res_of {y:Unit×Result×Unit} (hy:KC y.2.1.1∧y.2.1.2.1=[]) (n:Int) (b:Bool):ResOK (y.2.1.1,y.2.1.2.1,n,b):=⟨hy.1,by show y.2.1.2.1.length≤_;rw [hy.2];simp,by show ∀c∈y.2.1.2.1,_;rw [hy.2];simp⟩
theorem r21_perform_L18_ok (p:Prog) (K:Int) (N R:Nat) (r:Run) (h:RunOK p r K N R) (x:Result):Ok (Fn.r21_perform_L18 (((((List.length r.2.1.2.2):Nat):Int),((0:Int),())),((x,(r,())),()))) (PerfP p K N R):=by
 have e4:=h.mach.len
 have h':=h.mono (Int.le_refl K) (Nat.le_succ N) (Nat.le_refl R)
 rw [e4]
 refine Ok.loop (L:=fun i (_:Unit)=>Fn.r21_perform_L18 ((((4:Nat):Int),i,()),(x,r,()),())) (P:=PerfP p K N R) (n:=4) (fun _ _=>True) (fun i _ hi _ hk=>?_) (fun _ _=>?_) () trivial
 ·rw [Fn.r21_perform_L18_eq,wr (n:=(i:Int)+1) (by omega) (by omega)]
  exact .ite (fun _=>.need (inR_nat (by omega)) (.ite (fun _=>(r19_Value_ok _ _).bind fun y hy=>.some ⟨h',res_of hy _ _⟩) fun _=>.tail (hk () trivial))) (fun hc=>by simp at hc;omega)
 ·rw [Fn.r21_perform_L18_eq]
  exact .ite (fun hc=>by simp at hc) fun _=>(r19_Value_ok _ _).bind fun y hy=>.some ⟨h',res_of hy _ _⟩
theorem r21_perform_L37_ok (p:Prog) (K:Int) (N R:Nat) (r:Run) (h:RunOK p r K N R) (q:Request) (hq:ReqOK p.1.length q) (x:Result):Ok (Fn.r21_perform_L37 ((),((q,(x,(r,()))),()))) (PerfP p K N R):=by
 have h':=h.mono (Int.le_refl K) (Nat.le_succ N) (Nat.le_refl R)
 rw [Fn.r21_perform_L37_eq]
 refine (r19_Do_ok _ h.out q hq).bind fun y hy=>.ite (fun _=>.some ⟨h',⟨⟨by simp,by simp⟩,by simp,by simp⟩⟩) fun hc=>?_
 obtain ⟨y1,y2⟩:=hy (by simpa using hc)
 exact .some ⟨⟨h'.prog,h'.pok,h'.mach,y1,h'.locks,h'.recd,h'.joins⟩,y2⟩
theorem r21_perform_ok (p:Prog) (K:Int) (N R:Nat) (hN:N≤4000000) (r:Run) (h:RunOK p r K N R) (q:Request) (hq:ReqOK p.1.length q):Ok (Fn.r21_perform (r,q,())) (PerfP p K N R):=by
 have h':=h.mono (Int.le_refl K) (Nat.le_succ N) (Nat.le_refl R)
 rw [Fn.r21_perform_eq]
 simp only [lt]
 have e4:=h.mach.len
 have ha:=hq.args
 have hj:=h.joins
 have hid:=hq.id
 have z0:KC zCanon:=by unfold KC zCanon;simp
 have hx0:KC (List.getD q.2.2.2.2.2.2.1 (Int.toNat 0) zCanon):=getD_all (P:=KC) hq.vals z0 _
 obtain ⟨_,x0,x1⟩:=hx0
 rw [wr (n:=(List.getD q.2.2.2.2.2.2.1 (Int.toNat 0) zCanon).2.1) (by omega) (by omega)]
 generalize (List.getD q.2.2.2.2.2.2.1 (Int.toNat 0) zCanon).2.1=x at *
 have call:q.2.2.2.2.2.1=8∨q.2.2.2.2.2.1=9∨q.2.2.2.2.2.1=11→inR 0 q.2.2.2.2.2.2.1.length=true:=fun hc=>by
  rcases hc with e | e | e<;>rw [ha,e]<;>rfl
 have ij:inR q.1 r.2.2.2.2.2.length=true:=inR_of hid.1 (by omega)
 have l18:=fun x=>Ok.tail (r21_perform_L18_ok p K N R r h x)
 have l37:=fun x=>Ok.tail (r21_perform_L37_ok p K N R r h q hq x)
 simp only [Nat.zero_add]
 have hB:(bif (decide (x=q.1)) then true else (decide ((4:Int)≤x)))=false→inR x r.2.1.2.2.length=true:=fun hb=>inR_of x0 (by grind)
 generalize (bif (decide (x=q.1)) then true else (decide ((4:Int)≤x)))=B at *
 have g1:((!((!B)&&true))||inR x r.2.1.2.2.length)=true:=by
  cases B with
  | true=>rfl
  | false=>rw [hB rfl];rfl
 have g2:∀b:Bool,(bif B then true else b)=false→inR x r.2.1.2.2.length=true:=fun b hb=>by
  cases B with
  | true=>cases hb
  | false=>exact hB rfl
 repeat' first
  | with_reducible refine Ok.need (call (.inl (of_decide_eq_true ‹decide (q.2.2.2.2.2.1=8)=true›))) ?_
  | with_reducible refine Ok.need (call (.inr (.inl (of_decide_eq_true ‹decide (q.2.2.2.2.2.1=9)=true›)))) ?_
  | with_reducible refine Ok.need (call (.inr (.inr (of_decide_eq_true ‹decide (q.2.2.2.2.2.1=11)=true›)))) ?_
  | with_reducible refine Ok.need g1 ?_
  | with_reducible refine Ok.need ij ?_
  | with_reducible refine Ok.need (g2 _ (by assumption)) ?_
  | with_reducible refine Ok.ite (fun _=>?_) (fun _=>?_)
  | with_reducible refine (r19_Value_ok _ _).bind fun y hy=>?_
  | with_reducible refine (r15_Take_ok _ N hN h.locks _ _).bind fun w hw=>?_
  | with_reducible refine (r15_Give_ok _ N hN h.locks _ _).bind fun w hw=>?_
  | with_reducible exact l18 _
  | with_reducible exact l37 _
  | exact .some ⟨h',res_of hy _ _⟩
  | exact .some ⟨⟨h.prog,h.pok,h.mach,h.out,hw,h.recd,h.joins⟩,res_of hy _ _⟩
  | exact .some ⟨⟨h.prog,h.pok,h.mach,h.out,hw.mono (Nat.le_succ N),h.recd,h.joins⟩,res_of hy _ _⟩
  | exact .some ⟨⟨h'.prog,h'.pok,h'.mach,h'.out,h'.locks,h'.recd,List.length_set.trans h.joins⟩,res_of hy _ _⟩
def CalledP (p:Prog) (K:Int) (N R:Nat) (r:(Run×Unit)×Unit):Prop:=RunOK p r.1.1 K (N+1) (R+2)
theorem r21_called_L4_ok (p:Prog) (K:Int) (hK0:0≤K) (hK1:K≤1099511627776) (N R:Nat) (hN:N≤4000000) (hR:R≤60000) (r:Run) (h:RunOK p r K N R) (q:Request) (hq:ReqOK p.1.length q) (v:Int):Ok (Fn.r21_called_L4 ((v,()),((q,(r,())),()))) (CalledP p K N R):=by
 rw [Fn.r21_called_L4_eq]
 simp only [lt]
 refine (r21_perform_ok p K N R hN r h q hq).bind fun y hy=>?_
 obtain ⟨y1,y2⟩:=hy
 have hrc:=y1.recd
 rw [y1.prog]
 refine (r14_Put_ok p h.pok y.1.1.2.1 K hK0 hK1 y1.mach q hq y.2.1 y2).bind fun z hz=>.need (by simp;omega) ?_
 have base:RunOK p (p,z.2.1,y.1.1.2.2.1,y.1.1.2.2.2.1,List.append y.1.1.2.2.2.2.1 [(2,q.1,0,q,y.2.1)],y.1.1.2.2.2.2.2) K (N+1) (R+1):=
  ⟨rfl,h.pok,hz.1,y1.out,y1.locks,by simp only [List.append_eq,List.length_append,List.length_cons,List.length_nil];omega,y1.joins⟩
 refine .ite (fun _=>?_) fun _=>.some (base.mono (Int.le_refl _) (Nat.le_refl _) (Nat.le_succ _))
 refine (r21_wake_ok p h.pok (p,z.2.1,y.1.1.2.2.1,y.1.1.2.2.2.1,List.append y.1.1.2.2.2.2.1 [(2,q.1,0,q,y.2.1)]) K hK1 rfl hz.1 (by simp only [List.append_eq,List.length_append,List.length_cons,List.length_nil];omega) _ _).bind fun w hw=>.some ?_
 exact base.wake hw y1.joins
theorem r21_called_ok (p:Prog) (K:Int) (hK0:0≤K) (hK1:K≤1099511627776) (N R:Nat) (hN:N≤4000000) (hR:R≤60000) (r:Run) (h:RunOK p r K N R) (q:Request) (hq:ReqOK p.1.length q):Ok (Fn.r21_called (r,q,())) (CalledP p K N R):=by
 rw [Fn.r21_called_eq]
 refine .ite (fun hc=>.need ?_ ((r15_Give_ok _ N hN h.locks _ _).bind fun _ _=>.tail (r21_called_L4_ok p K hK0 hK1 N R hN hR r h q hq _))) fun _=>.tail (r21_called_L4_ok p K hK0 hK1 N R hN hR r h q hq _)
 rw [hq.args,of_decide_eq_true hc];rfl
theorem r21_ended_L8_ok (p:Prog) (K:Int) (hK1:K≤1099511627776) (N R:Nat) (hR:R≤60000) (i:Nat) (hi:i<4) (r:Run) (h:RunOK p r K N R):
  Ok (Fn.r21_ended_L8 (((i:Int),((((List.length r.2.2.2.2.2):Nat):Int),((0:Int),()))),((r,()),()))) fun y=>RunOK p y.1.1 K N (R+4):=by
 rw [h.joins]
 refine Ok.loop (L:=fun j (r:Run)=>Fn.r21_ended_L8 (((i:Int),((4:Nat):Int),j,()),(r,()),())) (P:=fun y=>RunOK p y.1.1 K N (R+4)) (n:=4) (fun j r=>RunOK p r K N (R+j)) (fun j r hj hr hk=>?_) (fun r hr=>?_) r h
 ·rw [Fn.r21_ended_L8_eq]
  simp only [lt,wr (n:=(j:Int)+1) (by omega) (by omega)]
  have e4:=hr.joins
  have m4:=hr.mach.len
  have ij:inR (j:Int) r.2.2.2.2.2.length=true:=inR_nat (by omega)
  have hrc:=hr.recd
  refine .ite (fun _=>.need ij (.ite (fun _=>.need (inR_nat (by omega)) ((r21_wake_ok p h.pok (r.1,r.2.1,r.2.2.1,r.2.2.2.1,r.2.2.2.2.1) K hK1 hr.prog hr.mach (by dsimp only;omega) _ _).bind fun w hw=>.need ij (.tail (hk _ ?_)))) fun _=>.tail (hk _ (hr.mono (Int.le_refl _) (Nat.le_refl _) (by omega))))) (fun hc=>by simp at hc;omega)
  exact hr.wake hw (List.length_set.trans e4)
 ·rw [Fn.r21_ended_L8_eq]
  exact .ite (fun hc=>by simp at hc) fun _=>.some hr
theorem r21_ended_ok (p:Prog) (K:Int) (hK1:K≤1099511627776) (N R:Nat) (hN:N≤4000000) (hR:R≤50000) (i:Nat) (hi:i<4) (r:Run) (h:RunOK p r K N R):
  Ok (Fn.r21_ended (r,(i:Int),())) fun y=>RunOK p y.1.1 K N (R+8):=by
 rw [Fn.r21_ended_eq]
 refine (r15_Drop_ok _ N hN h.locks _).bind fun y hy=>.tail ?_
 obtain ⟨y1,y2⟩:=hy
 refine Ok.loop (L:=fun j (r:Run)=>Fn.r21_ended_L3 (((i:Int),y.2.2.1,((y.2.2.1.length:Nat):Int),j,()),(r,()),())) (P:=fun y=>RunOK p y.1.1 K N (R+8)) (n:=y.2.2.1.length) (fun j r=>RunOK p r K N (R+j)) (fun j r hj hr hk=>?_) (fun r hr=>?_) _ ⟨h.prog,h.pok,h.mach,h.out,y1,h.recd,h.joins⟩
 ·rw [Fn.r21_ended_L3_eq]
  simp only [wr (n:=(j:Int)+1) (by omega) (by omega)]
  have hrc:=hr.recd
  refine .ite (fun _=>.need (inR_nat hj) ((r21_wake_ok p h.pok (r.1,r.2.1,r.2.2.1,r.2.2.2.1,r.2.2.2.2.1) K hK1 hr.prog hr.mach (by dsimp only;omega) _ _).bind fun w hw=>.tail (hk _ ?_))) (fun hc=>by simp at hc;omega)
  exact hr.wake hw hr.joins
 ·rw [Fn.r21_ended_L3_eq]
  exact .ite (fun hc=>by simp at hc) fun _=>.tail ((r21_ended_L8_ok p K hK1 N (R+y.2.2.1.length) (by omega) i hi r hr).mono fun z hz=>hz.mono (Int.le_refl _) (Nat.le_refl _) (by omega))
def NextP (p:Prog) (K:Int) (N:Nat) (r:Unit×Run×Int×Unit):Prop:=r.2.2.1=0∧RunOK p r.2.1 (K+64) (N+1) 300
theorem r21_Next_L12_ok (p:Prog) (K:Int) (hK0:0≤K) (hK1:K+64≤1099511627776) (N:Nat) (hN:N≤3000000) (i:Nat) (hi:i<4) (n:Int) (hn0:1≤n) (hn1:n≤64) (z r:Run) (h:RunOK p r K N 200):
  Ok (Fn.r21_Next_L12 (((i:Int),(n,())),((z,(r,())),()))) (NextP p K N):=by
 rw [Fn.r21_Next_L12_eq]
 simp only [lt,Int.toNat_natCast,Nat.zero_add]
 have hp:=h.pok
 have hrc:=h.recd
 rw [h.prog]
 refine (r12_Take_ok p hp r.2.1 K i hi h.mach n hn0 hn1 hK1).bind fun y hy=>.need (by simp;omega) ?_
 obtain ⟨y1,y2,y3,y4,y5⟩:=hy
 have base:RunOK p (p,y.2.1,r.2.2.1,r.2.2.2.1,List.append r.2.2.2.2.1 [(1,(i:Int),n,y.2.2.1,(0,0,0,0),[],0,false)],r.2.2.2.2.2) (K+64) N 201:=
  ⟨rfl,hp,y2,h.out,h.locks,by simp only [List.append_eq,List.length_append,List.length_cons,List.length_nil];omega,h.joins⟩
 have fin:∀x:Run,RunOK p x (K+64) (N+1) 250→inR (i:Int) x.2.1.2.2.length=true:=fun x hx=>inR_nat (by rw [hx.mach.len];exact hi)
 refine .ite (fun hs=>(r21_called_ok p (K+64) (by omega) hK1 N 201 (by omega) (by omega) _ base _ (y5 (by simpa using hs))).bind fun w hw=>?_) fun _=>?_
 ·have hw:RunOK p w.1.1 (K+64) (N+1) 203:=hw
  refine .need (fin _ (hw.mono (Int.le_refl _) (Nat.le_refl _) (by omega))) (.ite (fun _=>(r21_ended_ok p (K+64) hK1 (N+1) 203 (by omega) (by omega) i hi _ hw).bind fun v hv=>.some ⟨rfl,hv.mono (Int.le_refl _) (Nat.le_refl _) (by omega)⟩) fun _=>.some ⟨rfl,hw.mono (Int.le_refl _) (Nat.le_refl _) (by omega)⟩)
 ·refine .need (fin _ (base.mono (Int.le_refl _) (Nat.le_succ _) (by omega))) (.ite (fun _=>(r21_ended_ok p (K+64) hK1 N 201 (by omega) (by omega) i hi _ base).bind fun v hv=>.some ⟨rfl,hv.mono (Int.le_refl _) (Nat.le_succ _) (by omega)⟩) fun _=>.some ⟨rfl,base.mono (Int.le_refl _) (Nat.le_succ _) (by omega)⟩)
theorem r21_Next_ok (p:Prog) (K:Int) (hK0:0≤K) (hK1:K+64≤1099511627776) (N:Nat) (hN:N≤3000000) (r:Run) (h:RunOK p r K N 300) (c:Open):
  ((∃e,e≠0∧Fn.r21_Next_e (r,c,())=some ((),(zRun,(e,()))))∧Fn.r21_Next (r,c,())=Fn.r21_Next_e (r,c,()))∨(Fn.r21_Next_e (r,c,())=none∧Ok (Fn.r21_Next (r,c,())) (NextP p K N)):=by
 obtain ⟨y,hy,y1,y2⟩:=r10_Ready_ok r.2.1.2.2 h.mach.len
 rw [Fn.r21_Next_eq,Fn.r21_Next_e_eq]
 simp only [lt,hy,Option.bind_some]
 by_cases h0:((y.2.1.length:Nat):Int)=0
 ·exact .inl ⟨⟨15,by decide,by simp only [h0,decide_true,cond_true];rfl⟩,by simp only [h0,decide_true,cond_true]⟩
 ·by_cases h1:(192:Int)<(r.2.2.2.2.1.length:Int)
  ·exact .inl ⟨⟨3,by decide,by simp only [h0,h1,decide_true,decide_false,cond_true,cond_false];rfl⟩,by simp only [h0,h1,decide_true,decide_false,cond_true,cond_false]⟩
  ·refine .inr ?_
   have m1:=modI_range (v:=c.1) (n:=(y.2.1.length:Int)) (by omega)
   have m2:=modI_range (v:=c.2.1) (n:=64) (by omega)
   simp only [h0,h1,decide_false,cond_false,r01_Mod_spec c.1 _ (by omega:(0:Int)<(y.2.1.length:Int)) (by omega),r01_Mod_spec c.2.1 64 (by omega) (by omega),Option.bind_some]
   refine ⟨by cases inR (modI c.1 ↑y.2.1.length) y.2.1.length<;>rfl,.need (inR_of m1.1 m1.2) ?_⟩
   have hlt:(modI c.1 ↑y.2.1.length).toNat<y.2.1.length:=by omega
   simp only [Nat.zero_add,getD_nat hlt]
   obtain ⟨q1,q2,q3⟩:=y2 _ (List.getElem_mem hlt)
   generalize y.2.1[(modI c.1 ↑y.2.1.length).toNat]=id at *
   obtain ⟨i,rfl⟩:∃i:Nat,id=(i:Int):=⟨id.toNat,by omega⟩
   have hrc:=h.recd
   have base:RunOK p r K N 192:=⟨h.prog,h.pok,h.mach,h.out,h.locks,by omega,h.joins⟩
   rw [wr (n:=1+modI c.2.1 64) (by omega) (by omega)]
   refine .bindE (r21_copied_ok r h (by omega)) (Ok.bind (P:=fun _=>True) (.ite (fun _=>(r16_Can_ok _ _).mono fun _ _=>trivial) fun _=>.some trivial) fun z _=>.ite (fun _=>?_) fun _=>.tail (r21_Next_L12_ok p K hK0 hK1 N hN i (by omega) _ (by omega) (by omega) _ _ (base.mono (Int.le_refl _) (Nat.le_refl _) (by omega))))
   refine (r16_Deliver_ok p h.pok r.2.1 K h.mach _).bind fun w hw=>.need (by simp;omega) (.tail (r21_Next_L12_ok p K hK0 hK1 N hN i (by omega) _ (by omega) (by omega) _ _ ⟨h.prog,h.pok,hw.1,h.out,h.locks,?_,h.joins⟩))
   show (List.append _ _).length≤200
   simp only [List.append_eq,List.length_append,List.length_cons,List.length_nil]
   have:=base.recd
   omega
end Go.Rd
namespace Go.Rd
structure ViewOK (C:Nat) (v:View) (K:Int):Prop where
 st:0≤v.1∧v.1≤4
 pc:0≤v.2.1∧v.2.1≤255
 count:0≤v.2.2.1∧v.2.2.1≤K
 hand:-1≤v.2.2.2.1∧v.2.2.2.1<(C:Int)
 saved:-1≤v.2.2.2.2.1∧v.2.2.2.2.1≤255
 trap:0≤v.2.2.2.2.2.1∧v.2.2.2.2.2.1≤6
 len:v.2.2.2.2.2.2.2.length=8
 regs:∀c∈v.2.2.2.2.2.2.2,KC c
structure StateOK (p:Prog) (s:State) (K:Int):Prop where
 len1:s.1.length=p.2.1.length
 regs:RegsOK p.2.1 s.1
 len2:s.2.length=4
 views:∀v∈s.2,ViewOK p.1.length v K
theorem r13_State_ok (p:Prog) (hp:ProgOK p) (m:Machine) (K:Int) (hm:MachOK p m K):Ok (Fn.r13_State (p,m,())) fun r=>StateOK p r.2.1 K:=by
 rw [Fn.r13_State_eq]
 refine (r05_Regions_ok m.2.1 hm.mem m.1 p.2.1 hp.sizes hm.lay).bind fun y hy=>.tail ?_
 obtain ⟨y1,y2⟩:=hy
 have e4:=hm.len
 rw [e4]
 refine Ok.loop (L:=fun i (s:State)=>Fn.r13_State_L3 ((m.2.2,((4:Nat):Int),i,()),(p,m,zState,s,()),())) (P:=fun r=>StateOK p r.2.1 K) (n:=4) (fun i s=>s.1=y.2.1∧s.2.length=i∧∀v∈s.2,ViewOK p.1.length v K) (fun i s hi hs hk=>?_) (fun s hs=>?_) (y.2.1,[]) ⟨rfl,rfl,by simp⟩
 ·obtain ⟨s1,s2,s3⟩:=hs
  rw [Fn.r13_State_L3_eq]
  simp only [lt,Int.toNat_natCast]
  have ht:=hm.getD hi
  generalize List.getD m.2.2 i zThread=t at *
  have hl:=ht.len
  refine .ite (fun _=>.need (inR_nat (by omega)) (.tail ?_)) (fun hc=>by simp at hc;omega)
  refine Ok.loop (L:=fun j (v:View)=>Fn.r13_State_L7 ((m.2.2,((4:Nat):Int),(i:Int),t.2.1,(t.2.1.length:Int),j,()),(p,m,zState,s,v,()),())) (P:=fun r=>StateOK p r.2.1 K) (n:=t.2.1.length) (fun j v=>v.1=t.1∧v.2.1=t.2.2.1∧v.2.2.1=t.2.2.2.1∧v.2.2.2.1=t.2.2.2.2.1∧v.2.2.2.2.1=t.2.2.2.2.2.1∧v.2.2.2.2.2.1=t.2.2.2.2.2.2.1∧v.2.2.2.2.2.2.2.length=j∧∀c∈v.2.2.2.2.2.2.2,KC c)
   (fun j v hj hv hk2=>?_) (fun v hv=>?_) (t.1,t.2.2.1,t.2.2.2.1,t.2.2.2.2.1,t.2.2.2.2.2.1,t.2.2.2.2.2.2.1,t.2.2.2.2.2.2.2,[]) ⟨rfl,rfl,rfl,rfl,rfl,rfl,rfl,by simp⟩
  ·obtain ⟨v1,v2,v3,v4,v5,v6,v7,v8⟩:=hv
   rw [Fn.r13_State_L7_eq]
   simp only [lt,Int.toNat_natCast,getD_nat hj,wr (n:=(j:Int)+1) (by omega) (by omega)]
   refine .ite (fun _=>.need (inR_nat hj) ((r03_Canon_ok m.1 p.2.1 hp.sizes hm.lay _ (ht.regs _ (List.getElem_mem hj))).bind fun x hx=>.need (by simp;omega) (.tail (hk2 _ ⟨v1,v2,v3,v4,v5,v6,by simp [v7],fun c hc=>?_⟩)))) (fun hc=>by simp at hc;omega)
   simp only [List.append_eq,List.mem_append,List.mem_singleton] at hc
   rcases hc with hc | rfl
   ·exact v8 c hc
   ·exact hx.1
  ·obtain ⟨v1,v2,v3,v4,v5,v6,v7,v8⟩:=hv
   rw [Fn.r13_State_L7_eq]
   simp only [lt,wr (n:=(i:Int)+1) (by omega) (by omega)]
   refine .ite (fun hc=>by simp at hc) fun _=>.need (by simp;omega) (.tail (hk _ ⟨s1,by simp [s2],fun w hw=>?_⟩))
   simp only [List.append_eq,List.mem_append,List.mem_singleton] at hw
   rcases hw with hw | rfl
   ·exact s3 w hw
   ·exact ⟨by rw [v1];exact ht.st,by rw [v2];exact ht.pc,by rw [v3];exact ht.count,by rw [v4];exact ht.hand,by rw [v5];exact ht.saved,by rw [v6];exact ht.trap,v7.trans hl,v8⟩
 ·obtain ⟨s1,s2,s3⟩:=hs
  rw [Fn.r13_State_L3_eq]
  exact .ite (fun hc=>by simp at hc) fun _=>.some ⟨by show s.1.length=_;rw [s1];exact y1,by show RegsOK _ s.1;rw [s1];exact y2,s2,s3⟩
theorem r13_threads_ok (vs:List View) (h4:vs.length≤4) (h8:∀v∈vs,v.2.2.2.2.2.2.2.length≤32):Ok (Fn.r13_threads (vs,())) fun _=>True:=by
 rw [Fn.r13_threads_eq]
 refine .tail (Ok.loop (L:=fun i (_:Unit)=>Fn.r13_threads_L2 ((vs,vs,(vs.length:Int),i,()),(),())) (n:=vs.length) (fun _ _=>True) (fun i _ hi _ hk=>?_) (fun _ _=>?_) () trivial)
 ·rw [Fn.r13_threads_L2_eq]
  simp only [lt,Int.toNat_natCast,getD_nat hi,wr (n:=(i:Int)+1) (by omega) (by omega)]
  have hx:(vs[i].2.2.2.2.2.2.2).length≤BIG:=by
   have:=h8 _ (List.getElem_mem hi)
   show _≤9000000000000000000
   omega
  exact .ite (fun _=>.need (inR_nat hi) (Ok.bind (P:=fun _=>True) (.ite (fun _=>(r12_Cells_ok _ hx _).mono fun _ _=>trivial) fun _=>.some trivial) fun _ _=>.ite (fun _=>.some trivial) fun _=>.tail (hk () trivial))) (fun hc=>by simp at hc;omega)
 ·rw [Fn.r13_threads_L2_eq]
  exact .ite (fun hc=>by simp at hc) fun _=>.some trivial
theorem r13_Valid_ok (p:Prog) (hp:ProgOK p) (s:State) (K:Int) (hs:StateOK p s K):Ok (Fn.r13_Valid (p,s,())) fun _=>True:=by
 rw [Fn.r13_Valid_eq]
 simp only [lt]
 have h4:=hp.sizes.1.2
 have l1:=hs.len1
 refine .bindE (r08_Check_ok p hp) (Ok.bind (P:=fun _=>True) (.ite (fun _=>r13_threads_ok _ (by rw [hs.len2];decide) fun v hv=>by rw [(hs.views v hv).len];decide) fun _=>.some trivial) fun _ _=>.ite (fun _=>.some trivial) fun _=>.tail ?_)
 refine Ok.loop (L:=fun i (_:Unit)=>Fn.r13_Valid_L4 ((s.1,(s.1.length:Int),i,()),(p,()),())) (n:=s.1.length) (fun _ _=>True) (fun i _ hi _ hk=>?_) (fun _ _=>?_) () trivial
 ·rw [Fn.r13_Valid_L4_eq]
  simp only [lt,Int.toNat_natCast,getD_nat hi,wr (n:=(i:Int)+1) (by omega) (by omega)]
  have hx:s.1[i].length≤BIG:=by
   have h1:=(hs.regs i hi).1
   have h2:=(hp.sizes.at (i:=i) (by omega)).2
   show _≤9000000000000000000
   omega
  exact .ite (fun _=>.need (inR_nat hi) (.need (inR_nat (by omega)) (Ok.bind (P:=fun _=>True) (.ite (fun _=>(r12_Cells_ok _ hx _).mono fun _ _=>trivial) fun _=>.some trivial) fun _ _=>.ite (fun _=>.some trivial) fun _=>.tail (hk () trivial)))) (fun hc=>by simp at hc;omega)
 ·rw [Fn.r13_Valid_L4_eq]
  exact .ite (fun hc=>by simp at hc) fun _=>.some trivial
theorem r13_lists_ok (s:State) (h1:s.1.length≤4) (h1':∀x∈s.1,x.length≤32) (h2:s.2.length=4) (h8:∀v∈s.2,v.2.2.2.2.2.2.2.length≤32):Ok (Fn.r13_lists (s,())) fun r=>r.2.1.length≤8∧∀x∈r.2.1,x.length≤32:=by
 rw [Fn.r13_lists_eq]
 refine .need (by simp;omega) (.tail ?_)
 refine Ok.loop (L:=fun i (acc:List (List Canon))=>Fn.r13_lists_L3 ((acc,s.2,(s.2.length:Int),i,()),(),())) (P:=fun r=>r.2.1.length≤8∧∀x∈r.2.1,x.length≤32) (n:=s.2.length) (fun i acc=>acc.length≤4+i∧∀x∈acc,x.length≤32) (fun i acc hi ha hk=>?_) (fun acc ha=>?_) _ ⟨by simpa using h1,by simpa using h1'⟩
 ·obtain ⟨a1,a2⟩:=ha
  rw [Fn.r13_lists_L3_eq]
  simp only [lt,Int.toNat_natCast,getD_nat hi,wr (n:=(i:Int)+1) (by omega) (by omega)]
  refine .ite (fun _=>.need (inR_nat hi) (.need (by simp;omega) (.tail (hk _ ⟨?_,fun x hx=>?_⟩)))) (fun hc=>by simp at hc;omega)
  ·simp only [List.append_eq,List.length_append,List.length_cons,List.length_nil];omega
  ·simp only [List.append_eq,List.mem_append,List.mem_singleton] at hx
   rcases hx with hx | rfl
   ·exact a2 x hx
   ·exact h8 _ (List.getElem_mem hi)
 ·obtain ⟨a1,a2⟩:=ha
  rw [Fn.r13_lists_L3_eq]
  exact .ite (fun hc=>by simp at hc) fun _=>.some ⟨by dsimp only;omega,a2⟩
def InjP (p:Prog) (K:Int) (r:Unit×Machine×Bool×Unit):Prop:=r.2.2.1=true→MachOK p r.2.1 K
theorem r13_Inject_ok (p:Prog) (hp:ProgOK p) (l:Layout) (hl:LayoutOK l p.2.1) (s:State) (K:Int) (hs:StateOK p s K):Ok (Fn.r13_Inject (p,l,s,())) (InjP p K):=by
 rw [Fn.r13_Inject_eq]
 simp only [lt]
 have h4:=hp.sizes.1.2
 have l1:=hs.len1
 have l2:=hs.len2
 have ll:=hl.len
 refine (r13_Valid_ok p hp s K hs).bind fun y _=>Ok.bind (P:=fun _=>True) (.ite (fun _=>.of (r03_Valid_true l _ hp.sizes hl) trivial) fun _=>.some trivial) fun z _=>.ite (fun _=>.some fun h=>by simp at h) fun _=>
  (r13_lists_ok s (by omega) (fun x hx=>?_) l2 fun v hv=>by rw [(hs.views v hv).len];decide).bind fun q hq=>.tail ?_
 ·obtain ⟨i,hi,rfl⟩:=List.getElem_of_mem hx
  have h1:=(hs.regs i hi).1
  have h2:=(hp.sizes.at (i:=i) (by omega)).2
  omega
 obtain ⟨q1,q2⟩:=hq
 refine Ok.loop (L:=fun i (_:Unit)=>Fn.r13_Inject_L4 ((q.2.1,(q.2.1.length:Int),i,()),(p,l,s,zMachine,()),())) (P:=InjP p K) (n:=q.2.1.length) (fun _ _=>True) (fun i _ hi _ hk=>?_) (fun _ _=>?_) () trivial
 ·rw [Fn.r13_Inject_L4_eq]
  simp only [lt,Int.toNat_natCast,Nat.zero_add,getD_nat hi]
  have hx:=q2 _ (List.getElem_mem hi)
  refine .ite (fun _=>.need (inR_nat hi) (.tail ?_)) (fun hc=>by simp at hc;omega)
  refine Ok.loop (L:=fun j (_:Unit)=>Fn.r13_Inject_L7 ((q.2.1,(q.2.1.length:Int),(i:Int),q.2.1[i],(q.2.1[i].length:Int),j,()),(p,l,s,zMachine,()),())) (P:=InjP p K) (n:=q.2.1[i].length) (fun _ _=>True) (fun j _ hj _ hk2=>?_) (fun _ _=>?_) () trivial
  ·rw [Fn.r13_Inject_L7_eq,wr (n:=(j:Int)+1) (by omega) (by omega)]
   exact .ite (fun _=>.need (inR_nat hj) (.bindE (r03_Proper_spec _ _) (.ite (fun _=>.some fun h=>by simp at h) fun _=>.tail (hk2 () trivial)))) (fun hc=>by simp at hc;omega)
  ·rw [Fn.r13_Inject_L7_eq,wr (n:=(i:Int)+1) (by omega) (by omega)]
   exact .ite (fun hc=>by simp at hc) fun _=>.tail (hk () trivial)
 rw [Fn.r13_Inject_L4_eq]
 refine .ite (fun hc=>by simp at hc) fun _=>.need (by simp;omega) (.need rfl (r04_Empty_ok.bind fun e he=>.tail ?_))
 have he:=empty_lines he
 refine Ok.loop (L:=fun i (m:Machine)=>Fn.r13_Inject_L15 ((s.1,(s.1.length:Int),i,()),(p,l,s,zMachine,m,()),())) (P:=InjP p K) (n:=s.1.length) (fun _ m=>m.1=l∧MemOK m.2.1∧m.2.2=[]) (fun i m hi hm hk=>?_) (fun m hm=>?_) (l,(List.replicate (Int.toNat (512:Int)) zCell,e.2.1),[]) ⟨rfl,⟨by rw [List.length_replicate];rfl,fun c hc=>?_,he.1,he.2⟩,rfl⟩
 ·have hm0:=hm
  rw [Fn.r13_Inject_L15_eq]
  simp only [lt,Int.toNat_natCast,getD_nat hi]
  obtain ⟨g1,g2⟩:=hs.regs i hi
  obtain ⟨lo1,lo2⟩:=hl.low i (by omega)
  obtain ⟨sz1,sz2⟩:=hp.sizes.at (i:=i) (by omega)
  refine .ite (fun _=>.need (inR_nat hi) (.tail ?_)) (fun hc=>by simp at hc;omega)
  refine Ok.loop (L:=fun j (m:Machine)=>Fn.r13_Inject_L18 (((i:Int),s.1,(s.1.length:Int),(i:Int),s.1[i],(s.1[i].length:Int),j,()),(p,l,s,zMachine,m,()),())) (P:=InjP p K) (n:=s.1[i].length) (fun _ m=>m.1=l∧MemOK m.2.1∧m.2.2=[]) (fun j m hj hm hk2=>?_) (fun m hm=>?_) m hm
  ·obtain ⟨m1,m2,m3⟩:=hm
   rw [Fn.r13_Inject_L18_eq]
   simp only [lt,Int.toNat_natCast,Nat.zero_add,getD_nat hj,getD_gI]
   rw [wr (n:=gI l.1 i+(j:Int)) (by omega) (by omega),wr (n:=(j:Int)+1) (by omega) (by omega)]
   refine .ite (fun _=>.need (inR_nat hj) (.need (inR_nat (by omega)) ((r03_Raw_cell l p.2.1 hl _ (g2 _ (List.getElem_mem hj))).bind fun x hx=>.need (inR_of (by omega) (by rw [m2.len];omega)) (.tail (hk2 _ ⟨m1,⟨?_,set_all m2.cells hx,m2.lens,m2.lines⟩,m3⟩))))) (fun hc=>by simp at hc;omega)
   show (List.set _ _ _).length=512
   rw [List.length_set];exact m2.len
  ·rw [Fn.r13_Inject_L18_eq,wr (n:=(i:Int)+1) (by omega) (by omega)]
   exact .ite (fun hc=>by simp at hc) fun _=>.tail (hk m hm)
 ·obtain ⟨m1,m2,m3⟩:=hm
  rw [Fn.r13_Inject_L15_eq]
  refine .ite (fun hc=>by simp at hc) fun _=>.tail ?_
  rw [l2]
  refine Ok.loop (L:=fun i (m:Machine)=>Fn.r13_Inject_L24 ((s.2,((4:Nat):Int),i,()),(p,l,zMachine,m,()),())) (P:=InjP p K) (n:=4) (fun i m=>m.1=l∧MemOK m.2.1∧m.2.2.length=i∧∀t∈m.2.2,ThreadOK p.1.length t K) (fun i m hi hm hk=>?_) (fun m hm=>?_) m ⟨m1,m2,by rw [m3];rfl,by rw [m3];simp⟩
  ·obtain ⟨n1,n2,n3,n4⟩:=hm
   rw [Fn.r13_Inject_L24_eq]
   have hi2:i<s.2.length:=by omega
   simp only [lt,Int.toNat_natCast,getD_nat hi2]
   have hv:=hs.views _ (List.getElem_mem hi2)
   generalize s.2[i]=v at *
   have hvl:=hv.len
   refine .ite (fun _=>.need (inR_nat hi2) (.tail ?_)) (fun hc=>by simp at hc;omega)
   refine Ok.loop (L:=fun j (t:Thread)=>Fn.r13_Inject_L28 ((s.2,((4:Nat):Int),(i:Int),v.2.2.2.2.2.2.2,(v.2.2.2.2.2.2.2.length:Int),j,()),(p,l,zMachine,m,t,()),())) (P:=InjP p K) (n:=v.2.2.2.2.2.2.2.length) (fun j t=>t.1=v.1∧t.2.1.length=j∧(∀c∈t.2.1,CellOK c)∧t.2.2=(v.2.1,v.2.2.1,v.2.2.2.1,v.2.2.2.2.1,v.2.2.2.2.2.1,v.2.2.2.2.2.2.1))
    (fun j t hj ht hk2=>?_) (fun t ht=>?_) (v.1,[],v.2.1,v.2.2.1,v.2.2.2.1,v.2.2.2.2.1,v.2.2.2.2.2.1,v.2.2.2.2.2.2.1) ⟨rfl,rfl,by simp,rfl⟩
   ·obtain ⟨t1,t2,t3,t4⟩:=ht
    rw [Fn.r13_Inject_L28_eq]
    simp only [lt,Int.toNat_natCast,getD_nat hj,wr (n:=(j:Int)+1) (by omega) (by omega)]
    refine .ite (fun _=>.need (inR_nat hj) ((r03_Raw_cell l p.2.1 hl _ (hv.regs _ (List.getElem_mem hj))).bind fun x hx=>.need (by simp;omega) (.tail (hk2 _ ⟨t1,by simp [t2],fun c hc=>?_,t4⟩)))) (fun hc=>by simp at hc;omega)
    simp only [List.append_eq,List.mem_append,List.mem_singleton] at hc
    rcases hc with hc | rfl
    ·exact t3 c hc
    ·exact hx
   ·obtain ⟨t1,t2,t3,t4⟩:=ht
    rw [Fn.r13_Inject_L28_eq]
    simp only [lt,wr (n:=(i:Int)+1) (by omega) (by omega)]
    have tk:ThreadOK p.1.length t K:=⟨by rw [t1];exact hv.st,t2.trans hvl,t3,by rw [t4];exact hv.pc,by rw [t4];exact hv.count,by rw [t4];exact hv.hand,by rw [t4];exact hv.saved,by rw [t4];exact hv.trap⟩
    refine .ite (fun hc=>by simp at hc) fun _=>.need (by simp;omega) (.tail (hk _ ⟨n1,n2,by simp [n3],fun w hw=>?_⟩))
    simp only [List.append_eq,List.mem_append,List.mem_singleton] at hw
    rcases hw with hw | rfl
    ·exact n4 w hw
    ·exact tk
  ·obtain ⟨n1,n2,n3,n4⟩:=hm
   rw [Fn.r13_Inject_L24_eq]
   exact .ite (fun hc=>by simp at hc) fun _=>.some fun _=>⟨by show LayoutOK m.1 _;rw [n1];exact hl,n2,n3,n4⟩
 ·rw [List.mem_replicate] at hc
  rw [hc.2];exact CellOK.zero
end Go.Rd
namespace Go.Rd
def DeckOK (d:Deck):Prop:=d.1.length≤BIG∧0≤d.2∧d.2≤(d.1.length:Int)
theorem mk_Mod_spec (v n:Int) (h0:0<n) (h1:n≤4611686018427387904):Fn.mk_Mod (v,n,())=some ((),(modI v n,())):=by
 rw [Fn.mk_Mod_eq,r01_Mod_spec v n h0 h1];rfl
theorem dk_Next_ok (d:Deck) (h:DeckOK d) (n:Int) (h0:0<n) (h1:n≤4611686018427387904):Ok (Fn.dk_Next (d,n,())) fun r=>DeckOK r.1.1∧0≤r.2.1∧r.2.1<n:=by
 obtain ⟨a,b,c⟩:=h
 have a':d.1.length≤9000000000000000000:=a
 rw [Fn.dk_Next_eq]
 simp only [lt]
 refine .ite (fun _=>.some ⟨⟨a,b,c⟩,by simp,h0⟩) fun hc=>?_
 have hc:¬(d.1.length:Int)≤d.2:=by simpa using hc
 rw [wr (n:=d.2+1) (by omega) (by omega),wr (n:=d.2+1-1) (by omega) (by omega)]
 refine .need (inR_of (by omega) (by omega)) (.bindE (mk_Mod_spec _ n h0 h1) (.some ⟨⟨a,?_,?_⟩,modI_range h0⟩))
 ·show 0≤d.2+1;omega
 ·show d.2+1≤(d.1.length:Int);omega
def WordP (r:(Deck×Unit)×Int×Unit):Prop:=DeckOK r.1.1∧0≤r.2.1∧r.2.1≤65535
theorem dk_Word_ok (d:Deck) (h:DeckOK d):Ok (Fn.dk_Word (d,())) WordP:=by
 rw [Fn.dk_Word_eq]
 refine (dk_Next_ok d h 5 (by omega) (by omega)).bind fun y hy=>?_
 repeat' first
  | with_reducible refine Ok.ite (fun _=>?_) (fun _=>?_)
  | refine (dk_Next_ok _ hy.1 _ (by omega) (by omega)).bind fun z hz=>.some ⟨hz.1,wr16_range _⟩
theorem dk_Words_ok (d:Deck) (h:DeckOK d) (n:Int) (h0:0≤n) (h1:n≤65536):Ok (Fn.dk_Words (d,n,())) fun r=>DeckOK r.1.1∧(r.2.1.length:Int)≤n∧∀v∈r.2.1,0≤v∧v≤65535:=by
 rw [Fn.dk_Words_eq]
 rw [wr (n:=n+1) (by omega) (by omega)]
 refine (dk_Next_ok d h (n+1) (by omega) (by omega)).bind fun y hy=>.tail ?_
 obtain ⟨y1,y2,y3⟩:=hy
 refine Ok.while (L:=fun st:List Int×Int×Deck=>Fn.dk_Words_L3 ((st.1,st.2.1,()),(st.2.2,()),())) (P:=fun r=>DeckOK r.1.1∧(r.2.1.length:Int)≤n∧∀v∈r.2.1,0≤v∧v≤65535)
  (fun st=>DeckOK st.2.2∧0≤st.2.1∧(st.1.length:Int)+st.2.1≤n∧∀v∈st.1,0≤v∧v≤65535) (fun st=>st.2.1.toNat) (fun st hst hk=>?_) ([],y.2.1,y.1.1) ⟨y1,y2,by simp;omega,by simp⟩
 obtain ⟨s1,s2,s3,s4⟩:=hst
 rw [Fn.dk_Words_L3_eq]
 simp only [lt]
 refine .ite (fun hc=>(dk_Word_ok _ s1).bind fun z hz=>.need (by simp;omega) (.tail ?_)) fun _=>.some ⟨s1,by dsimp only;omega,s4⟩
 have hc:=of_decide_eq_true hc
 rw [wr (n:=st.2.1-1) (by omega) (by omega)]
 refine hk (List.append st.1 [z.2.1],st.2.1-1,z.1.1) ⟨hz.1,by dsimp only;omega,by simp;omega,fun v hv=>?_⟩ (by dsimp only;omega)
 simp only [List.append_eq,List.mem_append,List.mem_singleton] at hv
 rcases hv with hv | rfl
 ·exact s4 v hv
 ·exact hz.2
theorem dk_Sizes_ok (d:Deck) (h:DeckOK d):Ok (Fn.dk_Sizes (d,())) fun r=>DeckOK r.1.1∧SizesOK r.2.1:=by
 rw [Fn.dk_Sizes_eq]
 refine (dk_Next_ok d h 9 (by omega) (by omega)).bind fun y hy=>(dk_Next_ok _ hy.1 4 (by omega) (by omega)).bind fun z hz=>.tail ?_
 rw [wr (n:=4+y.2.1) (by omega) (by omega)]
 refine Ok.while (L:=fun st:List Int×Int×Deck=>Fn.dk_Sizes_L3 ((st.1,st.2.1,()),(st.2.2,()),())) (P:=fun r=>DeckOK r.1.1∧SizesOK r.2.1)
  (fun st=>DeckOK st.2.2∧0≤st.2.1∧(st.1.length:Int)+st.2.1≤4∧1≤st.1.length∧∀v∈st.1,1≤v∧v≤32) (fun st=>st.2.1.toNat) (fun st hst hk=>?_) ([4+y.2.1],z.2.1,z.1.1) ⟨hz.1,hz.2.1,by simp;omega,by simp,by simp;omega⟩
 obtain ⟨s1,s2,s3,s4,s5⟩:=hst
 rw [Fn.dk_Sizes_L3_eq]
 simp only [lt]
 refine .ite (fun hc=>(dk_Next_ok _ s1 3 (by omega) (by omega)).bind fun a ha=>.need (inR_of ha.2.1 (by simpa using ha.2.2)) ?_) fun hc=>.some ⟨s1,⟨s4,by dsimp only;omega⟩,s5⟩
 have hc:=of_decide_eq_true hc
 have hx:6≤List.getD [(6:Int),12,32] (0+a.2.1.toNat) 0∧List.getD [(6:Int),12,32] (0+a.2.1.toNat) 0≤32:=by
  rw [getD_nat (by simp;omega)]
  exact (show ∀x∈[(6:Int),12,32],6≤x∧x≤32 by simp) _ (List.getElem_mem _)
 generalize List.getD [(6:Int),12,32] (0+a.2.1.toNat) 0=x at *
 refine (dk_Next_ok _ ha.1 x (by omega) (by omega)).bind fun b hb=>.need (by simp;omega) (.tail ?_)
 rw [wr (n:=st.2.1-1) (by omega) (by omega),wr (n:=1+b.2.1) (by omega) (by omega)]
 refine hk (List.append st.1 [1+b.2.1],st.2.1-1,b.1.1) ⟨hb.1,by dsimp only;omega,by simp;omega,by simp,fun v hv=>?_⟩ (by dsimp only;omega)
 simp only [List.append_eq,List.mem_append,List.mem_singleton] at hv
 rcases hv with hv | rfl
 ·exact s5 v hv
 ·omega
theorem dk_Layout_ok (d:Deck) (h:DeckOK d) (s:List Int) (hs:SizesOK s):Ok (Fn.dk_Layout (d,s,())) fun r=>DeckOK r.1.1∧LayoutOK r.2.1 s:=by
 rw [Fn.dk_Layout_eq]
 refine (dk_Next_ok d h 1048576 (by omega) (by omega)).bind fun y hy=>?_
 obtain ⟨l,e,hl⟩:=r03_Make_spec s hs y.2.1 (by omega) (by omega)
 exact .bindE e (.some ⟨hy.1,hl⟩)
theorem dk_Canon_ok (d:Deck) (h:DeckOK d) (s:List Int) (hs:SizesOK s):Ok (Fn.dk_Canon (d,s,())) fun r=>DeckOK r.1.1∧KC r.2.1:=by
 rw [Fn.dk_Canon_eq]
 refine (dk_Next_ok d h 6 (by omega) (by omega)).bind fun y hy=>.ite (fun _=>?_) fun _=>.ite (fun _=>(dk_Next_ok _ hy.1 10 (by omega) (by omega)).bind fun z hz=>.some ⟨hz.1,by simp,wr16_range _⟩) fun _=>(dk_Word_ok _ hy.1).bind fun z hz=>.some ⟨hz.1,by simp,hz.2⟩
 obtain ⟨n,e,n1,n2⟩:=r02_Total_spec s hs
 exact .bindE e ((dk_Next_ok _ hy.1 n (by omega) (by omega)).bind fun z hz=>(r02_At_ok s _ hs.big).bind fun w _=>.some ⟨hz.1,by simp,by simp⟩)
theorem dk_Choice_ok (d:Deck) (h:DeckOK d):Ok (Fn.dk_Choice (d,())) fun r=>DeckOK r.1.1:=by
 rw [Fn.dk_Choice_eq]
 simp only [lt]
 exact (dk_Next_ok d h 4 (by omega) (by omega)).bind fun y hy=>(dk_Next_ok _ hy.1 6 (by omega) (by omega)).bind fun z hz=>.need (inR_of hz.2.1 (by simpa using hz.2.2)) ((dk_Next_ok _ hz.1 4 (by omega) (by omega)).bind fun w hw=>.some hw.1)
theorem dk_Outside_ok (d:Deck) (h:DeckOK d):Ok (Fn.dk_Outside (d,())) fun r=>DeckOK r.1.1∧OutsideOK r.2.1∧FilesNew r.2.1.2.2.2.1∧r.2.1.2.2.2.2=[]:=by
 rw [Fn.dk_Outside_eq]
 have w:∀{n:Int} {l:List Int},((l.length:Int)≤n∧∀v∈l,0≤v∧v≤65535)→n≤64→WordsOK 64 l:=fun h hn=>⟨by omega,h.2⟩
 refine (dk_Words_ok d h 5 (by omega) (by omega)).bind fun a ha=>(dk_Words_ok _ ha.1 3 (by omega) (by omega)).bind fun b hb=>(dk_Words_ok _ hb.1 8 (by omega) (by omega)).bind fun c hc=>(dk_Words_ok _ hc.1 4 (by omega) (by omega)).bind fun e he=>(dk_Words_ok _ he.1 5 (by omega) (by omega)).bind fun f hf=>(dk_Words_ok _ hf.1 5 (by omega) (by omega)).bind fun g hg=>?_
 refine (r19_Begin_ok [a.2.1,b.2.1] [c.2.1,e.2.1] f.2.1 g.2.1 ⟨by simp,fun l hl=>?_⟩ ⟨by simp,fun l hl=>?_⟩ (by have:=hf.2.1;omega) (by have:=hg.2.1;omega)).bind fun z hz=>.some ⟨hg.1,hz⟩
 ·simp only [List.mem_cons,List.not_mem_nil,or_false] at hl
  rcases hl with rfl | rfl
  ·exact w ha.2 (by omega)
  ·exact w hb.2 (by omega)
 ·simp only [List.mem_cons,List.not_mem_nil,or_false] at hl
  rcases hl with rfl | rfl
  ·exact w hc.2 (by omega)
  ·exact w he.2 (by omega)
structure InstrPre (i:Instr) (ns:Nat):Prop where
 op0:0≤i.1
 op1:i.1≤24
 a:0≤i.2.1∧i.2.1<8∧(uB i.1 0=false→i.2.1=0)
 b:0≤i.2.2.1∧i.2.2.1<8∧(uB i.1 1=false→i.2.2.1=0)
 c:0≤i.2.2.2.1∧i.2.2.2.1<8∧(uB i.1 2=false→i.2.2.2.1=0)
 imm:0≤i.2.2.2.2∧i.2.2.2.2≤65535∧(uB i.1 3=false→i.2.2.2.2=0)
 lea:i.1=15→i.2.2.2.2<(ns:Int)
 sys:i.1=23→i.2.2.2.2≤15
theorem pre_li {ns:Nat} {a n:Int} (ha:0≤a∧a<8) (hn:0≤n∧n≤65535):InstrPre (1,a,0,0,n) ns:=⟨by simp,by simp,⟨ha.1,ha.2,fun h=>by cases h⟩,by simp,by simp,⟨hn.1,hn.2,fun h=>by cases h⟩,by simp,by simp⟩
theorem pre_mov {ns:Nat} {a b:Int} (ha:0≤a∧a<8) (hb:0≤b∧b<8):InstrPre (2,a,b,0,0) ns:=⟨by simp,by simp,⟨ha.1,ha.2,fun h=>by cases h⟩,⟨hb.1,hb.2,fun h=>by cases h⟩,by simp,by simp,by simp,by simp⟩
theorem pre_sys {ns:Nat} {n:Int} (hn:0≤n∧n≤15):InstrPre (23,0,0,0,n) ns:=⟨by simp,by simp,by simp,by simp,by simp,⟨hn.1,by show n≤65535;omega,fun h=>by cases h⟩,by simp,fun _=>hn.2⟩
theorem pre_lea {ns:Nat} {a n:Int} (ha:0≤a∧a<8) (hn:0≤n∧n<(ns:Int)) (h4:ns≤4):InstrPre (15,a,0,0,n) ns:=⟨by simp,by simp,⟨ha.1,ha.2,fun h=>by cases h⟩,by simp,by simp,⟨hn.1,by show n≤65535;omega,fun h=>by cases h⟩,fun _=>hn.2,by simp⟩
theorem pre_ld {ns:Nat} {a b n:Int} (ha:0≤a∧a<8) (hb:0≤b∧b<8) (hn:0≤n∧n≤65535):InstrPre (16,a,b,0,n) ns:=⟨by simp,by simp,⟨ha.1,ha.2,fun h=>by cases h⟩,⟨hb.1,hb.2,fun h=>by cases h⟩,by simp,⟨hn.1,hn.2,fun h=>by cases h⟩,by simp,by simp⟩
theorem pre_st {ns:Nat} {a b n:Int} (ha:0≤a∧a<8) (hb:0≤b∧b<8) (hn:0≤n∧n≤65535):InstrPre (17,a,b,0,n) ns:=⟨by simp,by simp,⟨ha.1,ha.2,fun h=>by cases h⟩,⟨hb.1,hb.2,fun h=>by cases h⟩,by simp,⟨hn.1,hn.2,fun h=>by cases h⟩,by simp,by simp⟩
theorem pre_jnz {ns:Nat} {a n:Int} (ha:0≤a∧a<8) (hn:0≤n∧n≤65535):InstrPre (20,a,0,0,n) ns:=⟨by simp,by simp,⟨ha.1,ha.2,fun h=>by cases h⟩,by simp,by simp,⟨hn.1,hn.2,fun h=>by cases h⟩,by simp,by simp⟩
theorem pre_jmp {ns:Nat} {n:Int} (hn:0≤n∧n≤65535):InstrPre (18,0,0,0,n) ns:=⟨by simp,by simp,by simp,by simp,by simp,⟨hn.1,hn.2,fun h=>by cases h⟩,by simp,by simp⟩
theorem pre_rti {ns:Nat}:InstrPre (24,0,0,0,0) ns:=⟨by simp,by simp,by simp,by simp,by simp,by simp,by simp,by simp⟩
theorem pre_op {ns:Nat} {op a b c:Int} (ho:op∈[(3:Int),4,5,10,13,14,11,9]) (ha:0≤a∧a<8) (hb:0≤b∧b<8) (hc:0≤c∧c<8):InstrPre (op,a,b,c,0) ns:=by
 simp only [List.mem_cons,List.not_mem_nil,or_false] at ho
 rcases ho with rfl | rfl | rfl | rfl | rfl | rfl | rfl | rfl <;>
  exact ⟨by simp,by simp,⟨ha.1,ha.2,fun h=>by cases h⟩,⟨hb.1,hb.2,fun h=>by cases h⟩,⟨hc.1,hc.2,fun h=>by cases h⟩,by simp,by simp,by simp⟩
def InstrP (ns:Nat) (r:(Deck×Unit)×Instr×Unit):Prop:=DeckOK r.1.1∧InstrPre r.2.1 ns
theorem dk_Instr_L9_ok (ns:Nat) (hns:1≤ns∧ns≤4) (most:Int) (hm:1≤most∧most≤65535) (d:Deck) (h:DeckOK d) (z i:Instr) (h0:0≤i.1∧i.1≤24) (ha:0≤i.2.1∧i.2.1<8∧(uB i.1 0=false→i.2.1=0)) (hb:0≤i.2.2.1∧i.2.2.1<8∧(uB i.1 1=false→i.2.2.1=0))
  (hc:0≤i.2.2.2.1∧i.2.2.2.1<8∧(uB i.1 2=false→i.2.2.2.1=0)) (hi:i.2.2.2.2=0):
  Ok (Fn.dk_Instr_L9 (((ns:Int),most,()),(z,i,usesL i.1,d,()),())) (InstrP ns):=by
 rw [Fn.dk_Instr_L9_eq]
 have u3:isJump i.1=true→uB i.1 3=true:=fun h=>by
  unfold isJump at h
  unfold uB usesL
  grind
 have j:∀x:Int,isJump i.1=true→i.1≠15∧i.1≠23:=fun x h=>by
  unfold isJump at h
  grind
 refine .bindE (r06_Jump_spec _) (.ite (fun hj=>(dk_Next_ok d h most (by omega) (by omega)).bind fun y hy=>.some ⟨hy.1,⟨h0.1,h0.2,ha,hb,hc,⟨hy.2.1,by show y.2.1≤65535;omega,fun hh=>?_⟩,fun hh=>absurd hh (j 0 hj).1,fun hh=>absurd hh (j 0 hj).2⟩⟩) fun _=>?_)
 ·have:=u3 hj
  rw [this] at hh;cases hh
 refine .ite (fun hj=>(dk_Next_ok d h ns (by omega) (by omega)).bind fun y hy=>.some ⟨hy.1,⟨h0.1,h0.2,ha,hb,hc,⟨hy.2.1,by show y.2.1≤65535;omega,fun hh=>?_⟩,fun _=>hy.2.2,fun hh=>?_⟩⟩) fun h15=>?_
 ·have e:=of_decide_eq_true hj
  dsimp only at hh;rw [e] at hh;cases hh
 ·have e:=of_decide_eq_true hj
  dsimp only at hh;rw [e] at hh;cases hh
 refine .ite (fun hj=>(dk_Next_ok d h 16 (by omega) (by omega)).bind fun y hy=>.some ⟨hy.1,⟨h0.1,h0.2,ha,hb,hc,⟨hy.2.1,by show y.2.1≤65535;omega,fun hh=>?_⟩,fun hh=>?_,fun _=>by show y.2.1≤15;omega⟩⟩) fun h23=>.need rfl ?_
 ·have e:=of_decide_eq_true hj
  dsimp only at hh;rw [e] at hh;cases hh
 ·have e:=of_decide_eq_true hj
  dsimp only at hh;rw [e] at hh;cases hh
 have n15:=of_decide_eq_false h15
 have n23:=of_decide_eq_false h23
 refine .ite (fun hu=>(dk_Word_ok d h).bind fun y hy=>.some ⟨hy.1,?_⟩) fun hu=>.some ⟨h,⟨h0.1,h0.2,ha,hb,hc,⟨by rw [hi];simp,by rw [hi];simp,fun _=>hi⟩,fun hh=>absurd hh n15,fun hh=>absurd hh n23⟩⟩
 obtain ⟨_,y1,y2⟩:=hy
 rw [wr (n:=y.2.1) (by omega) (by omega)]
 refine ⟨h0.1,h0.2,ha,hb,hc,⟨y1,y2,fun hh=>?_⟩,fun hh=>absurd hh n15,fun hh=>absurd hh n23⟩
 unfold uB at hh
 rw [show Int.toNat 3=3 from rfl] at hu
 rw [hu] at hh;cases hh
theorem dk_Instr_ok (ns:Nat) (hns:1≤ns∧ns≤4) (most:Int) (hm:1≤most∧most≤65535) (d:Deck) (h:DeckOK d):Ok (Fn.dk_Instr (d,(ns:Int),most,())) (InstrP ns):=by
 rw [Fn.dk_Instr_eq]
 simp only [lt]
 refine (dk_Next_ok d h 25 (by omega) (by omega)).bind fun y hy=>.bindE (r06_Uses_spec _ hy.2.1 (by omega)) (.need rfl ?_)
 obtain ⟨y0,y1,y2⟩:=hy
 have step7:∀(d:Deck) (i:Instr),DeckOK d→i.1=y.2.1→(0≤i.2.1∧i.2.1<8∧(uB i.1 0=false→i.2.1=0))→(0≤i.2.2.1∧i.2.2.1<8∧(uB i.1 1=false→i.2.2.1=0))→i.2.2.2.1=0→i.2.2.2.2=0→
   Ok (Fn.dk_Instr_L7 (((ns:Int),most,()),(zInstr,i,usesL y.2.1,d,()),())) (InstrP ns):=fun d i hd e ha hb hc hi=>by
  rw [Fn.dk_Instr_L7_eq,←e]
  refine .need rfl (.ite (fun hu=>(dk_Next_ok d hd 8 (by omega) (by omega)).bind fun w hw=>.tail ?_) fun hu=>.tail ?_)
  ·exact dk_Instr_L9_ok ns hns most hm _ hw.1 _ (i.1,i.2.1,i.2.2.1,w.2.1,i.2.2.2.2) (by dsimp only;omega) ha hb ⟨hw.2.1,hw.2.2,fun hh=>by
    unfold uB at hh
    rw [show Int.toNat 2=2 from rfl] at hu
    dsimp only at hh
    rw [hu] at hh;cases hh⟩ hi
  ·exact dk_Instr_L9_ok ns hns most hm _ hd _ i (by omega) ha hb ⟨by omega,by omega,fun _=>hc⟩ hi
 have step5:∀(d:Deck) (i:Instr),DeckOK d→i.1=y.2.1→(0≤i.2.1∧i.2.1<8∧(uB i.1 0=false→i.2.1=0))→i.2.2.1=0→i.2.2.2.1=0→i.2.2.2.2=0→
   Ok (Fn.dk_Instr_L5 (((ns:Int),most,()),(zInstr,i,usesL y.2.1,d,()),())) (InstrP ns):=fun d i hd e ha hb hc hi=>by
  rw [Fn.dk_Instr_L5_eq]
  refine .need rfl (.ite (fun hu=>(dk_Next_ok d hd 8 (by omega) (by omega)).bind fun w hw=>.tail ?_) fun hu=>.tail ?_)
  ·exact step7 _ (i.1,i.2.1,w.2.1,i.2.2.2) hw.1 e ha ⟨hw.2.1,hw.2.2,fun hh=>by
    unfold uB at hh
    rw [show Int.toNat 1=1 from rfl] at hu
    dsimp only at hh
    rw [e,hu] at hh;cases hh⟩ hc hi
  ·exact step7 _ i hd e ha ⟨by omega,by omega,fun _=>hb⟩ hc hi
 refine .ite (fun hu=>(dk_Next_ok _ y0 8 (by omega) (by omega)).bind fun w hw=>.tail ?_) fun hu=>.tail ?_
 ·exact step5 _ (y.2.1,w.2.1,0,0,0) hw.1 rfl ⟨hw.2.1,hw.2.2,fun hh=>by
   unfold uB at hh
   rw [show Int.toNat 0=0 from rfl] at hu
   dsimp only at hh
   rw [hu] at hh;cases hh⟩ rfl rfl rfl
 ·exact step5 _ (y.2.1,0,0,0,0) y0 rfl ⟨by simp,by simp,fun _=>rfl⟩ rfl rfl rfl
end Go.Rd
namespace Go.Rd
def AllI (ns:Nat) (l:List Instr):Prop:=∀i∈l,InstrPre i ns
theorem all_nil {ns:Nat}:AllI ns []:=fun i hi=>by simp at hi
theorem all_cons {ns:Nat} {i:Instr} {l:List Instr} (h:InstrPre i ns) (hl:AllI ns l):AllI ns (List.cons i l):=fun j hj=>by
 rcases List.mem_cons.1 hj with rfl | hj
 ·exact h
 ·exact hl j hj
theorem all_app {ns:Nat} {l m:List Instr} (h:AllI ns l) (hm:AllI ns m):AllI ns (List.append l m):=fun j hj=>by
 rcases List.mem_append.1 hj with hj | hj
 ·exact h j hj
 ·exact hm j hj
theorem all_app2 {ns:Nat} {l m:List Instr} (h:AllI ns l) (hm:AllI ns m):AllI ns (l++m):=all_app h hm
def PartP (ns:Nat) (r:(Deck×Unit)×List Instr×Unit):Prop:=DeckOK r.1.1∧AllI ns r.2.1∧r.2.1.length≤8
theorem all_getD2 {ns:Nat} {a b:List Instr} {k:Nat} (ha:AllI ns a) (hb:AllI ns b):AllI ns (List.getD (List.cons a (List.cons b [])) k []):=
 getD_all (P:=AllI ns) (fun x hx=>by
  rcases List.mem_cons.1 hx with rfl | hx
  ·exact ha
  ·rcases List.mem_cons.1 hx with rfl | hx
   ·exact hb
   ·simp at hx) all_nil k
theorem len_getD2 {a b:List Instr} {k:Nat} (ha:a.length≤8) (hb:b.length≤8):(List.getD (List.cons a (List.cons b [])) k []).length≤8:=
 getD_all (P:=fun l:List Instr=>l.length≤8) (fun x hx=>by
  rcases List.mem_cons.1 hx with rfl | hx
  ·exact ha
  ·rcases List.mem_cons.1 hx with rfl | hx
   ·exact hb
   ·simp at hx) (by simp) k
theorem sys_of {l:List Int} {k:Nat} (h:∀x∈l,0≤x∧x≤15):0≤List.getD l k 0∧List.getD l k 0≤15:=getD_all (P:=fun (x:Int)=>0≤x∧x≤15) h (by decide) k
theorem part_some {ns:Nat} {d:Deck} {l:List Instr} (hd:DeckOK d) (ha:AllI ns l) (hl:l.length≤8):Ok (some ((d,()),(l,()))) (PartP ns):=.some ⟨hd,ha,hl⟩
theorem Next_some (d:Deck) (n:Int) (h:DeckOK d) (h0:0<n) (h1:n≤65536) {β:Type} {f:(Deck×Unit)×Int×Unit→Option β} {P:β→Prop} (hf:∀d' k,DeckOK d'→0≤k→k<n→Ok (f ((d',()),(k,()))) P):Ok ((Fn.dk_Next (d,(n,()))).bind f) P:=
 (dk_Next_ok d h n h0 (by omega)).bind fun y hy=>hf y.1.1 y.2.1 hy.1 hy.2.1 hy.2.2
theorem Word_some (d:Deck) (h:DeckOK d) {β:Type} {f:(Deck×Unit)×Int×Unit→Option β} {P:β→Prop} (hf:∀d' k,DeckOK d'→0≤k→k≤65535→Ok (f ((d',()),(k,()))) P):Ok ((Fn.dk_Word (d,())).bind f) P:=
 (dk_Word_ok d h).bind fun y hy=>hf y.1.1 y.2.1 hy.1 hy.2.1 hy.2.2
theorem reg3 {n:Int} (h0:0≤n) (h1:n<5):0≤Go.IntKind.wrap Go.IntKind.i64 (3+n)∧Go.IntKind.wrap Go.IntKind.i64 (3+n)<8:=by
 rw [wr (by omega) (by omega)];omega
theorem imm_wrap {n:Int} (h0:0≤n) (h1:n≤65535):0≤Go.IntKind.wrap Go.IntKind.i64 n∧Go.IntKind.wrap Go.IntKind.i64 n≤65535:=by
 rw [wr (by omega) (by omega)];exact ⟨h0,h1⟩
theorem dk_part_L39_ok (ns:Nat) (s:List Int) (hs:s.length=ns) (hns:1≤ns∧ns≤4) (most:Int) (hm:1≤most∧most≤65535) (d:Deck) (h:DeckOK d):Ok (Fn.dk_part_L39 ((s,(most,())),((d,()),()))) (PartP ns):=by
 rw [Fn.dk_part_L39_eq,hs]
 exact (dk_Instr_ok ns hns most hm d h).bind fun y hy=>part_some hy.1 (all_cons hy.2 all_nil) (by simp)
set_option maxHeartbeats 20000000 in
theorem dk_part_ok (s:List Int) (hs:SizesOK s) (most at0:Int) (hm:1≤most∧most≤65535) (hat:0≤at0∧at0≤60000) (d:Deck) (h:DeckOK d):Ok (Fn.dk_part (d,s,most,at0,())) (PartP s.length):=by
 rw [Fn.dk_part_eq]
 have h4:=hs.1
 refine Next_some d _ h (by omega) (by omega) fun d1 k1 e1 k10 k11=>.need (inR_of k10 k11) ?_
 have hx:1≤List.getD s k1.toNat 0∧List.getD s k1.toNat 0≤32:=by
  rw [getD_nat (by omega)];exact hs.2 _ (List.getElem_mem _)
 have l39:=fun d h=>Ok.tail (dk_part_L39_ok s.length s rfl h4 most hm d h)
 have plea:InstrPre (15,6,0,0,k1) s.length:=pre_lea (by omega) ⟨k10,k11⟩ h4.2
 have plea1:InstrPre (15,1,0,0,k1) s.length:=pre_lea (by omega) ⟨k10,k11⟩ h4.2
 simp only [lt,Fn.mk_li_eq,Fn.mk_mov_eq,Fn.mk_sys_eq,Option.bind_some]
 generalize List.getD s k1.toNat 0=sz at *
 have hmin:0<(if Go.IntKind.wrap Go.IntKind.i64 (sz+1)<5 then Go.IntKind.wrap Go.IntKind.i64 (sz+1) else 5)∧(if Go.IntKind.wrap Go.IntKind.i64 (sz+1)<5 then Go.IntKind.wrap Go.IntKind.i64 (sz+1) else 5)≤5:=by
  rw [wr (by omega) (by omega)];split<;>omega
 refine Next_some d1 _ e1 hmin.1 (by omega) fun d2 k2 e2 k20 k21=>Next_some d2 _ e2 (by omega) (by omega) fun d4 k4 e4 k40 k41=>?_
 have k2b:k2≤5:=by omega
 have pli:InstrPre (1,2,0,0,k2) s.length:=pre_li (by omega) (by omega)
 have pj:InstrPre (20,5,0,0,Go.IntKind.wrap Go.IntKind.i64 (at0+2)) s.length:=pre_jnz (by omega) (imm_wrap (by omega) (by omega))
 have psub:InstrPre (4,5,5,4,0) s.length:=pre_op (by simp) (by omega) (by omega) (by omega)
 have hmo:∀{k:Nat},k<2→0<List.getD [most,5] k 0∧List.getD [most,5] k 0≤65536:=fun {k} hk=>by
  rw [getD_nat (by simpa using hk)]
  exact (show ∀x∈[most,5],0<x∧x≤65536 by simp;omega) _ (List.getElem_mem _)
 have hmo2:∀(k:Nat) (x:Int),x<List.getD [most,5] k 0→x≤65535:=fun k x hk=>by
  have:List.getD [most,5] k 0≤65536:=getD_all (P:=fun (x:Int)=>x≤65536) (show ∀x∈[most,5],x≤65536 by simp;omega) (by decide) k
  omega
 clear hmin k21 e1 h hs
 dsimp only
 have n2:∀{k:Int},0≤k→k<2→0+k.toNat<2:=fun h0 h1=>by omega
 repeat' first
  | with_reducible refine Ok.need (by simp) ?_
  | with_reducible refine Ok.ite (fun _=>?_) (fun _=>?_)
 all_goals repeat' first
  | with_reducible exact l39 _ (by assumption)
  | with_reducible refine Next_some _ _ (by assumption) (by omega) (by omega) fun d' k' _ _ _=>?_
  | with_reducible refine Next_some _ _ (by assumption) (hmo (n2 (by assumption) (by assumption))).1 (hmo (n2 (by assumption) (by assumption))).2 fun d' k' _ _ _=>?_
  | with_reducible refine Word_some _ (by assumption) fun d' k' _ _ _=>?_
  | with_reducible refine Ok.need (inR_of (by assumption) (by assumption)) ?_
  | with_reducible refine Ok.need (inR_of (by assumption) (by simp<;>omega)) ?_
  | with_reducible refine Ok.need (by simp) ?_
  | with_reducible refine Ok.ite (fun _=>?_) (fun _=>?_)
  | with_reducible refine part_some (by assumption) ?_ ?_
  | dsimp only
 all_goals first
  | with_reducible exact len_getD2 (by simp) (by simp)
  | with_reducible refine all_getD2 ?_ ?_
  | simp only [List.append_eq,List.length_append,List.length_cons,List.length_nil,Nat.reduceAdd,Nat.reduceLeDiff]
  | skip
 all_goals repeat' first
  | with_reducible exact all_nil
  | with_reducible assumption
  | with_reducible refine all_cons ?_ ?_
  | with_reducible refine all_app ?_ ?_
  | with_reducible refine all_app2 ?_ ?_
 all_goals repeat' first
  | with_reducible refine pre_li ?_ ?_
  | with_reducible refine pre_mov ?_ ?_
  | with_reducible refine pre_sys ?_
  | with_reducible refine pre_ld ?_ ?_ ?_
  | with_reducible refine pre_st ?_ ?_ ?_
  | refine pre_op (by rw [getD_nat (by simp;omega)];exact List.getElem_mem _) ?_ ?_ ?_
 all_goals first
  | decide
  | omega
  | exact reg3 (by omega) (by omega)
  | exact imm_wrap (by omega) (by omega)
  | exact sys_of (by simp)
  | exact ⟨by assumption,hmo2 _ _ (by assumption)⟩
end Go.Rd
namespace Go.Rd
theorem InstrPre.ok {i:Instr} {ns nc:Nat} (h:InstrPre i ns) (hj:isJump i.1=true→i.2.2.2.2<(nc:Int)):InstrOK i nc ns:=⟨h.op0,h.op1,h.a,h.b,h.c,h.imm,hj,h.lea,h.sys⟩
def ProgP (r:(Deck×Unit)×Prog×Unit):Prop:=DeckOK r.1.1∧ProgOK r.2.1
structure PrePr (p:Prog) (n:Nat):Prop where
 sizes:SizesOK p.2.1
 data:DataOK p.2.2 p.2.1
 code:AllI p.2.1.length p.1
 len:p.1.length≤n
theorem dk_Program_L22_ok (p0:Prog) (p:Prog) (h:PrePr p 64) (hl:1≤p.1.length) (d:Deck) (hd:DeckOK d):Ok (Fn.dk_Program_L22 (((((List.length p.1):Nat):Int),((0:Int),())),((p0,(p,(d,()))),()))) ProgP:=by
 have h64:=h.len
 generalize hn:p.1.length=n at *
 refine Ok.loop (L:=fun i (q:Prog)=>Fn.dk_Program_L22 (((n:Int),i,()),(p0,q,d,()),())) (P:=ProgP) (n:=n) (fun i q=>q.2=p.2∧q.1.length=n∧AllI p.2.1.length q.1∧∀j (hj:j<q.1.length),j<i→isJump q.1[j].1=true→q.1[j].2.2.2.2<(n:Int)) (fun i q hi hq hk=>?_) (fun q hq=>?_) p ⟨rfl,hn,h.code,fun j _ hj=>by omega⟩
 ·obtain ⟨q1,q2,q3,q4⟩:=hq
  have hi2:i<q.1.length:=by omega
  rw [Fn.dk_Program_L22_eq]
  simp only [lt,Int.toNat_natCast,Nat.zero_add,getD_nat hi2,wr (n:=(i:Int)+1) (by omega) (by omega)]
  have hin:inR (i:Int) q.1.length=true:=inR_nat hi2
  have hpre:=q3 _ (List.getElem_mem hi2)
  refine .ite (fun _=>.need hin (.bindE (r06_Jump_spec _) (.need (by rw [hin];simp) (.ite (fun hc=>.need hin (.tail (hk _ ⟨q1,by simp [q2],set_all q3 ?_,fun j hj hj2 hjj=>?_⟩))) fun hc=>.tail (hk q ⟨q1,q2,q3,fun j hj hj2 hjj=>?_⟩))))) (fun hc=>by simp at hc;omega)
  ·exact ⟨hpre.op0,hpre.op1,hpre.a,hpre.b,hpre.c,⟨by show (0:Int)≤0;omega,by show (0:Int)≤65535;omega,fun _=>rfl⟩,fun hh=>by have:=hpre.lea hh;have:=hpre.imm.1;show (0:Int)<_;omega,fun _=>by show (0:Int)≤15;omega⟩
  ·by_cases e:j=i
   ·subst e
    simp only [List.getElem_set_self]
    omega
   ·simp only [List.getElem_set_ne (fun hh=>e hh.symm)] at hjj ⊢
    exact q4 j (by simpa using hj) (by omega) hjj
  ·by_cases e:j=i
   ·subst e
    rw [hjj] at hc
    simp only [cond_true,decide_eq_false_iff_not] at hc
    omega
   ·exact q4 j hj (by omega) hjj
 ·obtain ⟨q1,q2,q3,q4⟩:=hq
  rw [Fn.dk_Program_L22_eq]
  refine .ite (fun hc=>by simp at hc) fun _=>.some ⟨hd,?_⟩
  have e:(q.1,q.2.1,q.2.2)=(q.1,p.2.1,p.2.2):=by rw [q1]
  show ProgOK (q.1,q.2.1,q.2.2)
  rw [e]
  refine ⟨h.sizes,h.data,⟨by show 1≤q.1.length;omega,by show q.1.length≤64;omega⟩,fun x hx=>?_⟩
  have hx:x∈q.1:=hx
  show InstrOK x q.1.length p.2.1.length
  obtain ⟨j,hj,rfl⟩:=List.getElem_of_mem hx
  exact (q3 _ hx).ok fun hjj=>by
   have:=q4 j hj (by omega) hjj
   omega
theorem dk_Program_L18_ok (p0 p:Prog) (h:PrePr p 63) (d:Deck) (hd:DeckOK d):Ok (Fn.dk_Program_L18 ((),((p0,(p,(d,()))),()))) ProgP:=by
 rw [Fn.dk_Program_L18_eq]
 have hl:=h.len
 refine Next_some d 9 hd (by omega) (by omega) fun d1 k hd1 k0 k1=>?_
 simp only [lt,Fn.mk_li_eq,Fn.mk_sys_eq,Option.bind_some]
 have ha:AllI p.2.1.length (List.append p.1 [(1,0,0,0,k),(23,0,0,0,0)]):=all_app h.code (all_cons (pre_li (by omega) (by omega)) (all_cons (pre_sys (by omega)) all_nil))
 have hlen:(List.append p.1 [(1,0,0,0,k),(23,0,0,0,0)]).length=p.1.length+2:=by simp
 generalize List.append p.1 [(1,0,0,0,k),(23,0,0,0,0)]=l at *
 refine .need (by simp;omega) (.ite (fun hc=>.need (by simp only [decide_eq_true_eq,Bool.and_eq_true] at hc ⊢;omega) (.tail ?_)) fun hc=>.tail ?_)
 ·have hc:=of_decide_eq_true hc
  rw [Fn.dk_Program_L21_eq]
  have e:(List.take (Int.toNat 64-Int.toNat 0) (List.drop (Int.toNat 0) l)).length=64:=by rw [List.length_take,List.length_drop];omega
  exact .tail (dk_Program_L22_ok _ (List.take (Int.toNat 64-Int.toNat 0) (List.drop (Int.toNat 0) l),p.2) ⟨h.sizes,h.data,fun x hx=>ha x (List.mem_of_mem_drop (List.mem_of_mem_take hx)),by dsimp only;omega⟩ (by dsimp only;omega) _ hd1)
 ·have hc:=of_decide_eq_false hc
  rw [Fn.dk_Program_L21_eq]
  exact .tail (dk_Program_L22_ok _ (l,p.2) ⟨h.sizes,h.data,ha,by dsimp only;omega⟩ (by dsimp only;omega) _ hd1)
theorem dk_Program_L8_ok (p0:Prog):∀(v:Nat),v≤12→∀(p:Prog),PrePr p 62→∀d:Deck,DeckOK d→Ok (Fn.dk_Program_L8 (((v:Int),()),((p0,(p,(d,()))),()))) ProgP:=by
 intro v
 induction v with
 | zero=>
  intro _ p h d hd
  rw [Fn.dk_Program_L8_eq]
  have hl:=h.len
  simp only [lt,wr (n:=(p.1.length:Int)+1) (by omega) (by omega)]
  refine .ite (fun hc=>by simp at hc) fun _=>Next_some d 4 hd (by omega) (by omega) fun d1 k hd1 k0 k1=>.ite (fun _=>Next_some d1 _ hd1 (by omega) (by omega) fun d2 k2 hd2 k20 k21=>.need (by simp;omega) (.tail ?_)) fun _=>.ite (fun _=>.need (by simp;omega) (.tail ?_)) fun _=>.tail (dk_Program_L18_ok p0 p ⟨h.sizes,h.data,h.code,by omega⟩ _ hd1)
  ·exact dk_Program_L18_ok p0 (List.append p.1 [(18,0,0,0,k2)],p.2) ⟨h.sizes,h.data,all_app h.code (all_cons (pre_jmp (by omega)) all_nil),by simp only [List.append_eq,List.length_append,List.length_cons,List.length_nil];omega⟩ _ hd2
  ·exact dk_Program_L18_ok p0 (List.append p.1 [(24,0,0,0,0)],p.2) ⟨h.sizes,h.data,all_app h.code (all_cons pre_rti all_nil),by simp only [List.append_eq,List.length_append,List.length_cons,List.length_nil];omega⟩ _ hd1
 | succ v ih=>
  intro hv p h d hd
  rw [Fn.dk_Program_L8_eq]
  have hl:=h.len
  simp only [lt,wr (n:=(p.1.length:Int)+1) (by omega) (by omega)]
  refine .ite (fun _=>(dk_part_ok p.2.1 h.sizes _ _ (by omega) (by omega) d hd).bind fun y hy=>?_) (fun hc=>by simp at hc<;>omega)
  obtain ⟨y1,y2,y3⟩:=hy
  rw [wr (n:=(p.1.length:Int)+(y.2.1.length:Int)) (by omega) (by omega)]
  have e:((v+1:Nat):Int)-1=(v:Int):=by omega
  refine .ite (fun hc=>.need (by rw [Nat.ble_eq];omega) (.tail ?_)) fun _=>.tail ?_
  ·have hc:=of_decide_eq_true hc
   rw [Fn.dk_Program_L9_eq,wr (by omega) (by omega),e]
   exact .tail (ih (by omega) (List.append p.1 y.2.1,p.2) ⟨h.sizes,h.data,all_app h.code y2,by simp only [List.append_eq,List.length_append];omega⟩ _ y1)
  ·rw [Fn.dk_Program_L9_eq,wr (by omega) (by omega),e]
   exact .tail (ih (by omega) p h _ y1)
theorem dk_Program_ok (d:Deck) (hd:DeckOK d):Ok (Fn.dk_Program (d,())) ProgP:=by
 rw [Fn.dk_Program_eq]
 refine (dk_Sizes_ok d hd).bind fun y hy=>.tail ?_
 obtain ⟨y1,hs⟩:=hy
 have h4:=hs.1.2
 refine Ok.loop (L:=fun i (st:Prog×Deck)=>Fn.dk_Program_L3 ((y.2.1,(y.2.1.length:Int),i,()),(zProg,st.1,st.2,()),())) (P:=ProgP) (n:=y.2.1.length) (fun i st=>DeckOK st.2∧st.1.1=[]∧st.1.2.1=y.2.1∧st.1.2.2.length=i∧(∀j (hj:j<st.1.2.2.length),((st.1.2.2[j]).length:Int)≤gI y.2.1 j)∧∀l∈st.1.2.2,∀v∈l,0≤v∧v≤65535)
  (fun i st hi hst hk=>?_) (fun st hst=>?_) (([],y.2.1,[]),y.1.1) ⟨y1,rfl,rfl,rfl,fun j hj=>by simp at hj,by simp⟩
 ·obtain ⟨s1,s2,s3,s4,s5,s6⟩:=hst
  rw [Fn.dk_Program_L3_eq]
  obtain ⟨z1,z2⟩:=hs.at hi
  simp only [lt,Int.toNat_natCast,getD_gI,wr (n:=(i:Int)+1) (by omega) (by omega)]
  refine .ite (fun _=>.need (inR_nat hi) ((dk_Words_ok _ s1 _ (by omega) (by omega)).bind fun w hw=>.need (by simp;omega) (.tail (hk (_,_) ⟨hw.1,s2,s3,by simp [s4],fun j hj=>?_,fun l hl=>?_⟩)))) (fun hc=>by simp at hc;omega)
  ·by_cases e:j<st.1.2.2.length
   ·simp only [List.append_eq,List.getElem_append_left e]
    exact s5 j e
   ·have:j=i:=by simp at hj;omega
    subst this
    simp only [List.append_eq,List.getElem_append_right (show st.1.2.2.length≤j by omega)]
    simpa [s4] using hw.2.1
  ·simp only [List.append_eq,List.mem_append,List.mem_singleton] at hl
   rcases hl with hl | rfl
   ·exact s6 l hl
   ·exact hw.2.2
 ·obtain ⟨s1,s2,s3,s4,s5,s6⟩:=hst
  rw [Fn.dk_Program_L3_eq]
  refine .ite (fun hc=>by simp at hc) fun _=>Next_some _ 12 s1 (by omega) (by omega) fun d1 k hd1 k0 k1=>.tail ?_
  rw [wr (n:=1+k) (by omega) (by omega)]
  obtain ⟨v,hv⟩:∃v:Nat,1+k=(v:Int):=⟨(1+k).toNat,by omega⟩
  rw [hv]
  exact dk_Program_L8_ok _ v (by omega) st.1 ⟨by rw [s3];exact hs,⟨by rw [s3];exact s4,by rw [s3];exact s5,s6⟩,by rw [s2];exact all_nil,by rw [s2];simp⟩ _ hd1
def RunP (r:(Deck×Unit)×Run×Unit):Prop:=DeckOK r.1.1∧∃p,RunOK p r.2.1 4096 64 300
theorem dk_Run_L4_ok (p:Prog) (z:Run):∀(v:Nat),v≤18→∀(r:Run),RunOK p r (64 * (18-v:Nat)) (18-v) 300→∀d:Deck,DeckOK d→Ok (Fn.dk_Run_L4 (((v:Int),()),((z,(r,(d,()))),()))) RunP:=by
 intro v
 induction v with
 | zero=>
  intro _ r h d hd
  rw [Fn.dk_Run_L4_eq]
  simp only [lt]
  exact .ite (fun hc=>by simp at hc) fun _=>.some ⟨hd,p,h.mono (by omega) (by omega) (Nat.le_refl _)⟩
 | succ v ih=>
  intro hv r h d hd
  rw [Fn.dk_Run_L4_eq]
  simp only [lt]
  have e:((v+1:Nat):Int)-1=(v:Int):=by omega
  rw [wr (n:=((v+1:Nat):Int)-1) (by omega) (by omega),e]
  refine .ite (fun _=>(dk_Choice_ok d hd).bind fun y hy=>?_) (fun hc=>by simp at hc<;>omega)
  have hn:=r21_Next_ok p (64 * (18-(v+1):Nat)) (by omega) (by omega) (18-(v+1)) (by omega) r h y.2.1
  rcases hn with ⟨⟨e1,e2,e3⟩,e4⟩ | ⟨e1,e2⟩
  ·have e3':Fn.r21_Next_e (((r.1.1,(r.1.2.1,r.1.2.2)),(((r.2.1.1.1,r.2.1.1.2),((r.2.1.2.1.1,r.2.1.2.1.2),r.2.1.2.2)),((r.2.2.1.1,(r.2.2.1.2.1,(r.2.2.1.2.2.1,((r.2.2.1.2.2.2.1.1,r.2.2.1.2.2.2.1.2),r.2.2.1.2.2.2.2)))),((r.2.2.2.1.1,r.2.2.2.1.2),(r.2.2.2.2.1,r.2.2.2.2.2))))),(y.2.1,()))=some ((),(zRun,(e1,()))):=e3
   rw [e3']
   simp only [Option.isSome_some,cond_true,Option.bind_some]
   refine .ite (fun _=>.some ⟨hy,p,h.mono (by omega) (by omega) (Nat.le_refl _)⟩) fun hc=>?_
   simp at hc
   exact absurd hc e2
  ·have e1':Fn.r21_Next_e (((r.1.1,(r.1.2.1,r.1.2.2)),(((r.2.1.1.1,r.2.1.1.2),((r.2.1.2.1.1,r.2.1.2.1.2),r.2.1.2.2)),((r.2.2.1.1,(r.2.2.1.2.1,(r.2.2.1.2.2.1,((r.2.2.1.2.2.2.1.1,r.2.2.1.2.2.2.1.2),r.2.2.1.2.2.2.2)))),((r.2.2.2.1.1,r.2.2.2.1.2),(r.2.2.2.2.1,r.2.2.2.2.2))))),(y.2.1,()))=none:=e1
   rw [e1']
   simp only [Option.isSome_none,cond_false]
   refine e2.bind fun w hw=>.ite (fun hc=>?_) fun _=>.tail (ih (by omega) _ (hw.2.mono (by omega) (by omega) (Nat.le_refl _)) _ hy)
   rw [hw.1] at hc;simp at hc
theorem dk_Run_ok (d:Deck) (hd:DeckOK d):Ok (Fn.dk_Run (d,())) RunP:=by
 rw [Fn.dk_Run_eq]
 refine (dk_Program_ok d hd).bind fun a ha=>(dk_Layout_ok _ ha.1 _ ha.2.sizes).bind fun b hb=>(dk_Outside_ok _ hb.1).bind fun c hc=>(r21_Begin_ok a.2.1 ha.2 b.2.1 hb.2 c.2.1 hc.2.1 hc.2.2.1 hc.2.2.2).bind fun e he=>Next_some _ 16 hc.1 (by omega) (by omega) fun d1 k hd1 k0 k1=>.tail ?_
 rw [wr (n:=3+k) (by omega) (by omega)]
 obtain ⟨v,hv⟩:∃v:Nat,3+k=(v:Int):=⟨(3+k).toNat,by omega⟩
 rw [hv]
 exact dk_Run_L4_ok a.2.1 _ v (by omega) e.2.1 (he.mono (by omega) (by omega) (by omega)) _ hd1
end Go.Rd
namespace Go.Rd
def MachP (r:(Deck×Unit)×Prog×Machine×Unit):Prop:=DeckOK r.1.1∧ProgOK r.2.1∧MachOK r.2.1 r.2.2.1 4096
theorem StateOK.setR {p:Prog} {s:State} {K:Int} (h:StateOK p s K) (k:Nat) {c:Canon} (hc:KC c):StateOK p (List.set s.1 0 (List.set (List.getD s.1 0 []) k c),s.2) K:=by
 refine ⟨by simp [h.len1],fun i hi=>?_,h.len2,h.views⟩
 have hi2:i<s.1.length:=by simpa using hi
 by_cases e:i=0
 ·subst e
  dsimp only
  rw [List.getElem_set_self,List.length_set,getD_nat hi2]
  exact ⟨(h.regs 0 hi2).1,set_all (h.regs 0 hi2).2 hc⟩
 ·dsimp only
  rw [List.getElem_set_ne (fun hh=>e hh.symm)]
  exact h.regs i hi2
theorem StateOK.setV {p:Prog} {s:State} {K:Int} (h:StateOK p s K) (k:Nat) {v:View} (hv:ViewOK p.1.length v K):StateOK p (s.1,List.set s.2 k v) K:=⟨h.len1,h.regs,by simp [h.len2],set_all (P:=fun v=>ViewOK p.1.length v K) h.views hv⟩
theorem dk_Machine_ok (d:Deck) (hd:DeckOK d):Ok (Fn.dk_Machine (d,())) MachP:=by
 rw [Fn.dk_Machine_eq]
 refine (dk_Run_ok d hd).bind fun y hy=>?_
 obtain ⟨y1,p,hr⟩:=hy
 have hp:=hr.pok
 have hm:=hr.mach
 have hpr:=hr.prog
 simp only [lt]
 refine Next_some _ 3 y1 (by omega) (by omega) fun d1 k hd1 k0 k1=>.ite (fun _=>?_) fun _=>.some ⟨hd1,by show ProgOK y.2.1.1;rw [hpr];exact hp,by show MachOK y.2.1.1 y.2.1.2.1 4096;rw [hpr];exact hm⟩
 have hst:=r13_State_ok p hp y.2.1.2.1 4096 hm
 rw [←hpr] at hst
 refine hst.bind fun w hw=>?_
 rw [hpr] at hw
 have hz:=hp.sizes.1.1
 have hwl:=hw.len1
 refine .need (inR_of (by omega) (by omega)) (.tail ?_)
 have hlay:=hm.lay
 have fin:∀(s:State) (d:Deck),StateOK p s 4096→DeckOK d→Ok (Fn.dk_Machine_L12 (((((List.length s.2):Nat):Int),((0:Int),())),((zProg,(zMachine,(y.2.1,(y.2.1.2.1,(s,(d,())))))),()))) MachP:=fun s d hs hd=>by
  rw [hs.len2]
  refine Ok.loop (L:=fun i (st:State×Deck)=>Fn.dk_Machine_L12 ((((4:Nat):Int),i,()),(zProg,zMachine,y.2.1,y.2.1.2.1,st.1,st.2,()),())) (P:=MachP) (n:=4) (fun _ st=>StateOK p st.1 4096∧DeckOK st.2) (fun i st hi hst hk=>?_) (fun st hst=>?_) (s,d) ⟨hs,hd⟩
  ·obtain ⟨s1,s2⟩:=hst
   rw [Fn.dk_Machine_L12_eq]
   have hi2:i<st.1.2.length:=by rw [s1.len2];exact hi
   have hv0:=s1.views _ (List.getElem_mem hi2)
   have e8:(List.getD st.1.2 (0+Int.toNat (i:Int)) zView).2.2.2.2.2.2.2.length=8:=by
    rw [Nat.zero_add,Int.toNat_natCast,getD_nat hi2];exact hv0.len
   rw [e8]
   refine .ite (fun _=>.need (inR_nat hi2) (.tail ?_)) (fun hc=>by simp at hc;omega)
   refine Ok.loop (L:=fun j (st:State×Deck)=>Fn.dk_Machine_L15 (((i:Int),((4:Nat):Int),(i:Int),((8:Nat):Int),j,()),(zProg,zMachine,y.2.1,y.2.1.2.1,st.1,st.2,()),())) (P:=MachP) (n:=8) (fun _ st=>StateOK p st.1 4096∧DeckOK st.2) (fun j st hj hst hk2=>?_) (fun st hst=>?_) st ⟨s1,s2⟩
   ·obtain ⟨s1,s2⟩:=hst
    rw [Fn.dk_Machine_L15_eq]
    have hi2:i<st.1.2.length:=by rw [s1.len2];exact hi
    have hv:=s1.views _ (List.getElem_mem hi2)
    simp only [lt,Int.toNat_natCast,Nat.zero_add,getD_nat hi2]
    have e8:=hv.len
    refine .ite (fun _=>Next_some _ 3 s2 (by omega) (by omega) fun d2 k2 hd2 k20 k21=>.ite (fun _=>.need (inR_nat hi2) ?_) fun _=>.tail ?_) (fun hc=>by simp at hc;omega)
    ·have hcn:=dk_Canon_ok d2 hd2 p.2.1 hp.sizes
     rw [←hpr] at hcn
     refine hcn.bind fun c hc=>.need (inR_nat (by omega)) (.tail ?_)
     rw [Fn.dk_Machine_L19_eq,wr (n:=(j:Int)+1) (by omega) (by omega)]
     exact .tail (hk2 (_,_) ⟨s1.setV i ⟨hv.st,hv.pc,hv.count,hv.hand,hv.saved,hv.trap,by show (List.set _ _ _).length=8;rw [List.length_set];exact e8,set_all hv.regs hc.2⟩,hc.1⟩)
    ·rw [Fn.dk_Machine_L19_eq,wr (n:=(j:Int)+1) (by omega) (by omega)]
     exact .tail (hk2 (st.1,d2) ⟨s1,hd2⟩)
   ·obtain ⟨s1,s2⟩:=hst
    rw [Fn.dk_Machine_L15_eq]
    have hi2:i<st.1.2.length:=by rw [s1.len2];exact hi
    have hv:=s1.views _ (List.getElem_mem hi2)
    simp only [lt,Int.toNat_natCast,Nat.zero_add,getD_nat hi2,wr (n:=(i:Int)+1) (by omega) (by omega)]
    refine .ite (fun hc=>by simp at hc) fun _=>Next_some _ 4 s2 (by omega) (by omega) fun d2 k2 hd2 k20 k21=>.ite (fun _=>Next_some _ 5 hd2 (by omega) (by omega) fun d3 k3 hd3 k30 k31=>.need (inR_nat hi2) (.tail (hk (_,_) ⟨s1.setV i ⟨⟨k30,by show k3≤4;omega⟩,hv.pc,hv.count,hv.hand,hv.saved,hv.trap,hv.len,hv.regs⟩,hd3⟩))) fun _=>.tail (hk (st.1,d2) ⟨s1,hd2⟩)
  ·obtain ⟨s1,s2⟩:=hst
   rw [Fn.dk_Machine_L12_eq]
   have hinj:=r13_Inject_ok p hp y.2.1.2.1.1 hlay st.1 4096 s1
   rw [←hpr] at hinj
   refine .ite (fun hc=>by simp at hc) fun _=>hinj.bind fun z hz=>.ite (fun ht=>.some ⟨s2,by show ProgOK y.2.1.1;rw [hpr];exact hp,by show MachOK y.2.1.1 z.2.1 4096;exact hz ht⟩) fun _=>.some ⟨s2,by show ProgOK y.2.1.1;rw [hpr];exact hp,by show MachOK y.2.1.1 y.2.1.2.1 4096;rw [hpr];exact hm⟩
 have e0:(List.getD w.2.1.1 (0+Int.toNat 0) []).length=(List.getD w.2.1.1 0 []).length:=rfl
 rw [e0]
 generalize hn:(List.getD w.2.1.1 0 []).length=n
 have hn32:n≤32:=by
  have h1:=(hw.regs 0 (by omega)).1
  have h2:=(hp.sizes.at (i:=0) (by omega)).2
  rw [getD_nat (by omega)] at hn
  omega
 refine Ok.loop (L:=fun i (st:State×Deck)=>Fn.dk_Machine_L6 (((n:Int),i,()),(zProg,zMachine,y.2.1,y.2.1.2.1,st.1,st.2,()),())) (P:=MachP) (n:=n) (fun _ st=>StateOK p st.1 4096∧DeckOK st.2∧(List.getD st.1.1 0 []).length=n) (fun i st hi hst hk=>?_) (fun st hst=>?_) (w.2.1,d1) ⟨hw,hd1,hn⟩
 ·obtain ⟨s1,s2,s3⟩:=hst
  rw [Fn.dk_Machine_L6_eq]
  simp only [lt,Int.toNat_natCast,Nat.zero_add]
  have l1:=s1.len1
  refine .ite (fun _=>Next_some _ 3 s2 (by omega) (by omega) fun d2 k2 hd2 k20 k21=>.ite (fun _=>.need (inR_of (by omega) (by omega)) ?_) fun _=>.tail ?_) (fun hc=>by simp at hc;omega)
  ·have hcn:=dk_Canon_ok d2 hd2 p.2.1 hp.sizes
   rw [←hpr] at hcn
   rw [show Int.toNat 0=0 from rfl]
   refine hcn.bind fun c hc=>.need (inR_nat (by omega)) (.tail ?_)
   rw [Fn.dk_Machine_L10_eq,wr (n:=(i:Int)+1) (by omega) (by omega)]
   refine .tail (hk (_,_) ⟨s1.setR i hc.2,hc.1,?_⟩)
   rw [getD_nat (by simp;omega),List.getElem_set_self,List.length_set]
   exact s3
  ·rw [Fn.dk_Machine_L10_eq,wr (n:=(i:Int)+1) (by omega) (by omega)]
   exact .tail (hk (st.1,d2) ⟨s1,hd2,s3⟩)
 ·obtain ⟨s1,s2,s3⟩:=hst
  rw [Fn.dk_Machine_L6_eq]
  exact .ite (fun hc=>by simp at hc) fun _=>.tail (fin _ _ s1 s2)
theorem law16_handling_ok (d:Deck) (hd:DeckOK d):Ok (Fn.law16_handling (d,())) fun r=>ProgOK r.2.1∧MachOK r.2.1 r.2.2.1 4096:=by
 rw [Fn.law16_handling_eq]
 refine (dk_Machine_ok d hd).bind fun y hy=>.tail ?_
 obtain ⟨y1,hp,hm⟩:=hy
 rw [hm.len]
 have hcl:=hp.len
 refine Ok.loop (L:=fun i (st:Machine×Deck)=>Fn.law16_handling_L3 ((((4:Nat):Int),i,()),(zProg,zMachine,y.2.1,st.1,st.2,()),())) (P:=fun r=>ProgOK r.2.1∧MachOK r.2.1 r.2.2.1 4096) (n:=4) (fun _ st=>MachOK y.2.1 st.1 4096∧DeckOK st.2) (fun i st hi hst hk=>?_) (fun st hst=>?_) (y.2.2.1,y.1.1) ⟨hm,y1⟩
 ·obtain ⟨s1,s2⟩:=hst
  rw [Fn.law16_handling_L3_eq]
  simp only [lt]
  have l7:∀(m:Machine) (d:Deck),MachOK y.2.1 m 4096→DeckOK d→Ok (Fn.law16_handling_L7 (((i:Int),(((4:Nat):Int),((i:Int),()))),((zProg,(zMachine,(y.2.1,(m,(d,()))))),()))) fun r=>ProgOK r.2.1∧MachOK r.2.1 r.2.2.1 4096:=fun m d hm hd=>by
   rw [Fn.law16_handling_L7_eq]
   simp only [lt,Int.toNat_natCast,Nat.zero_add,wr (n:=(i:Int)+1) (by omega) (by omega)]
   have hl:=hm.len
   have hin:inR (i:Int) m.2.2.length=true:=inR_nat (by omega)
   have ht:=hm.getD hi
   have g:∀(x y:Thread),List.getD (m.2.2.set i x) i y=x:=fun x y=>by
    rw [getD_nat (by simp;omega)];simp
   simp only [g,List.set_set]
   generalize List.getD m.2.2 i zThread=t at *
   have tsave:∀k:Int,0≤k→k<65→ThreadOK y.2.1.1.length (t.1,t.2.1,t.2.2.1,t.2.2.2.1,t.2.2.2.2.1,k,t.2.2.2.2.2.2) 4096:=fun k h0 h1=>⟨ht.st,ht.len,ht.regs,ht.pc,ht.count,ht.hand,⟨by show -1≤k;omega,by show k≤255;omega⟩,ht.trap⟩
   refine Next_some _ 4 hd (by omega) (by omega) fun d1 k1 hd1 k10 k11=>.ite (fun _=>Next_some _ _ hd1 (by omega) (by omega) fun d2 k2 hd2 k20 k21=>.need hin (Next_some _ 2 hd2 (by omega) (by omega) fun d3 k3 hd3 k30 k31=>.ite (fun _=>.need (by simpa using hin) (.tail (hk (_,_) ⟨hm.set (status_ok (tsave k2 k20 (by omega)) (by omega) (by omega)) i,hd3⟩))) fun _=>.tail (hk (_,_) ⟨hm.set (tsave k2 k20 (by omega)) i,hd3⟩)))
    fun _=>Next_some _ 2 hd1 (by omega) (by omega) fun d2 k2 hd2 k20 k21=>.ite (fun _=>.need hin (.tail (hk (_,_) ⟨hm.set (status_ok ht (by omega) (by omega)) i,hd2⟩))) fun _=>.tail (hk (_,_) ⟨hm,hd2⟩)
  have hl:=s1.len
  refine .ite (fun _=>Next_some _ 2 s2 (by omega) (by omega) fun d1 k1 hd1 k10 k11=>.ite (fun _=>Next_some _ _ hd1 (by omega) (by omega) fun d2 k2 hd2 k20 k21=>.need (inR_nat (by omega)) (.tail ?_)) fun _=>.tail (l7 _ _ s1 hd1)) (fun hc=>by simp at hc;omega)
  simp only [Int.toNat_natCast,Nat.zero_add]
  have ht:=s1.getD hi
  generalize List.getD st.1.2.2 i zThread=t at *
  have t1:ThreadOK y.2.1.1.length (t.1,t.2.1,t.2.2.1,t.2.2.2.1,k2,t.2.2.2.2.2) 4096:=⟨ht.st,ht.len,ht.regs,ht.pc,ht.count,⟨by show -1≤k2;omega,k21⟩,ht.saved,ht.trap⟩
  exact l7 _ _ (s1.set t1 i) hd2
 ·obtain ⟨s1,s2⟩:=hst
  rw [Fn.law16_handling_L3_eq]
  exact .ite (fun hc=>by simp at hc) fun _=>.some ⟨hp,s1⟩
end Go.Rd
namespace Go.Rd
theorem r01_Same_refl (l:List Cell) (hl:l.length≤BIG):Fn.r01_Same (l,l,())=some ((),(true,())):=by
 have key:Ok (Fn.r01_Same (l,l,())) fun r=>r=((),(true,())):=by
  rw [Fn.r01_Same_eq]
  refine .ite (fun hc=>by simp at hc) fun _=>.tail (Ok.loop (L:=fun i (_:Unit)=>Fn.r01_Same_L4 ((l,l,(l.length:Int),i,()),(),())) (n:=l.length) (fun _ _=>True) (fun i _ hi _ hk=>?_) (fun _ _=>?_) () trivial)
  ·rw [Fn.r01_Same_L4_eq,wr1 hi hl]
   exact .ite (fun _=>.need (inR_nat hi) (.need (inR_nat hi) (.ite (fun hc=>by simp at hc) fun _=>.tail (hk () trivial)))) (fun hc=>by simp at hc;omega)
  ·rw [Fn.r01_Same_L4_eq]
   exact .ite (fun hc=>by simp at hc) fun _=>.some rfl
 obtain ⟨r,e,rfl⟩:=key
 exact e
theorem r03_Same_refl (l:Layout) (hl:l.1.length≤BIG):Fn.r03_Same (l,l,())=some ((),(true,())):=by
 have key:Ok (Fn.r03_Same (l,l,())) fun r=>r=((),(true,())):=by
  rw [Fn.r03_Same_eq]
  refine .ite (fun hc=>by simp at hc) fun _=>.tail (Ok.loop (L:=fun i (_:Unit)=>Fn.r03_Same_L4 (((l.1.length:Int),i,()),(l,l,()),())) (n:=l.1.length) (fun _ _=>True) (fun i _ hi _ hk=>?_) (fun _ _=>?_) () trivial)
  ·rw [Fn.r03_Same_L4_eq,wr1 hi hl]
   exact .ite (fun _=>.need (inR_nat hi) (.need (inR_nat hi) (.ite (fun hc=>by simp at hc) fun _=>.tail (hk () trivial)))) (fun hc=>by simp at hc;omega)
  ·rw [Fn.r03_Same_L4_eq]
   exact .ite (fun hc=>by simp at hc) fun _=>.some rfl
 obtain ⟨r,e,rfl⟩:=key
 exact e
theorem r04_Same_refl (m:Memory) (h1:m.1.length≤BIG) (h2:m.2.length≤BIG) (h3:∀x∈m.2,x.2.2.length≤BIG):Fn.r04_Same (m,m,())=some ((),(true,())):=by
 have key:Ok (Fn.r04_Same (m,m,())) fun r=>r=((),(true,())):=by
  rw [Fn.r04_Same_eq]
  refine .bindE (r01_Same_refl _ h1) (.ite (fun hc=>by simp at hc) fun _=>.tail (Ok.loop (L:=fun i (_:Unit)=>Fn.r04_Same_L4 (((m.2.length:Int),i,()),(m,m,()),())) (n:=m.2.length) (fun _ _=>True) (fun i _ hi _ hk=>?_) (fun _ _=>?_) () trivial))
  ·rw [Fn.r04_Same_L4_eq,wr1 hi h2]
   simp only [lt,Int.toNat_natCast,getD_nat hi,decide_true,Bool.not_true,cond_false,beq_self_eq_true]
   exact .ite (fun _=>.need (inR_nat hi) (.need (inR_nat hi) (Ok.bind (P:=fun y=>y.2.1=true) (.ite (fun _=>.of (r01_Same_refl _ (h3 _ (List.getElem_mem hi))) rfl) fun hc=>by simp at hc) fun y hy=>.ite (fun hc=>by rw [hy] at hc;simp at hc) fun _=>.tail (hk () trivial)))) (fun hc=>by simp at hc;omega)
  ·rw [Fn.r04_Same_L4_eq]
   exact .ite (fun hc=>by simp at hc) fun _=>.some rfl
 obtain ⟨r,e,rfl⟩:=key
 exact e
theorem r10_Same_refl (t:Thread) (h:t.2.1.length≤BIG):Fn.r10_Same (t,t,())=some ((),(true,())):=by
 rw [Fn.r10_Same_eq]
 simp only [lt,decide_true,cond_true,Bool.and_self,r01_Same_refl _ h,Option.bind_some]
structure MSmall (m:Machine):Prop where
 h0:m.1.1.length≤4294967296
 h1:m.2.1.1.length≤4294967296
 h2:m.2.1.2.length≤4294967296
 h3:∀x∈m.2.1.2,x.2.2.length≤4294967296
 h4:m.2.2.length≤4294967296
 h5:∀t∈m.2.2,t.2.1.length≤4294967296
theorem MachOK.fits {p:Prog} {m:Machine} {K:Int} (hp:ProgOK p) (h:MachOK p m K):MSmall m:=by
 refine ⟨?_,by rw [h.mem.len];decide,by rw [h.mem.lens];decide,fun x hx=>?_,by rw [h.len];decide,fun t ht=>by rw [(h.thr t ht).len];decide⟩
 ·have:=h.lay.len
  have:=hp.sizes.1.2
  omega
 ·obtain ⟨i,hi,rfl⟩:=List.getElem_of_mem hx
  rcases h.mem.lines i hi with ⟨_,_,q⟩ | ⟨_,q,_⟩<;>rw [q]<;>decide
theorem MSmall.copy {m:Machine} (h:MSmall m):Fn.r08_Copy (m,())=some ((),(m,())):=r08_Copy_spec m h.h0 h.h1 h.h2 h.h3 h.h4 h.h5
theorem le_big {n:Nat} (h:n≤4294967296):n≤BIG:=by
 show n≤9000000000000000000
 omega
theorem r11_Same_refl (m:Machine) (h:MSmall m):Fn.r11_Same (m,m,())=some ((),(true,())):=by
 have key:Ok (Fn.r11_Same (m,m,())) fun r=>r=((),(true,())):=by
  rw [Fn.r11_Same_eq]
  simp only [lt,r03_Same_refl _ (le_big h.h0),r04_Same_refl _ (le_big h.h1) (le_big h.h2) fun x hx=>le_big (h.h3 x hx),Option.bind_some,Bool.not_true,Bool.not_false,Bool.and_self,cond_true,cond_false,decide_true]
  refine .tail (Ok.loop (L:=fun i (_:Unit)=>Fn.r11_Same_L4 (((m.2.2.length:Int),i,()),(m,m,()),())) (n:=m.2.2.length) (fun _ _=>True) (fun i _ hi _ hk=>?_) (fun _ _=>?_) () trivial)
  ·rw [Fn.r11_Same_L4_eq,wr1 hi (le_big h.h4)]
   simp only [Int.toNat_natCast,getD_nat hi]
   exact .ite (fun _=>.need (inR_nat hi) (.need (inR_nat hi) (.bindE (r10_Same_refl _ (le_big (h.h5 _ (List.getElem_mem hi)))) (.ite (fun hc=>by simp at hc) fun _=>.tail (hk () trivial))))) (fun hc=>by simp at hc;omega)
  ·rw [Fn.r11_Same_L4_eq]
   exact .ite (fun hc=>by simp at hc) fun _=>.some rfl
 obtain ⟨r,e,rfl⟩:=key
 exact e
theorem clone_cells (l:List Cell) (h:l.length≤4294967296):Fn.g_slices_Clone___Cell_Cell_ (l,())=some ((),(l,())):=by
 rw [Fn.g_slices_Clone___Cell_Cell__eq,show Nat.ble l.length 4294967296=true from by rw [Nat.ble_eq];exact h];rfl
theorem clone_lines (l:List Line) (h:l.length≤4294967296):Fn.g_slices_Clone___Line_Line_ (l,())=some ((),(l,())):=by
 rw [Fn.g_slices_Clone___Line_Line__eq,show Nat.ble l.length 4294967296=true from by rw [Nat.ble_eq];exact h];rfl
theorem clone_ints (l:List Int) (h:l.length≤4294967296):Fn.g_slices_Clone___int_int_ (l,())=some ((),(l,())):=by
 rw [Fn.g_slices_Clone___int_int__eq,show Nat.ble l.length 4294967296=true from by rw [Nat.ble_eq];exact h];rfl
theorem memory_Copy_spec (m:Memory) (h1:m.1.length≤4294967296) (h2:m.2.length≤4294967296) (h3:∀x∈m.2,x.2.2.length≤4294967296):Fn.memory_Copy (m,())=some ((),(m,())):=by
 have key:Ok (Fn.memory_Copy (m,())) fun r=>r=((),(m,())):=by
  rw [Fn.memory_Copy_eq]
  refine .bindE (clone_cells _ h1) (.bindE (clone_lines _ h2) (.tail ?_))
  refine Ok.loop (L:=fun i (r3:Memory)=>Fn.memory_Copy_L3 (((m.2.length:Int),i,()),(([],[]),r3,()),())) (n:=m.2.length) (fun i r3=>r3=m) (fun i r3 hi hr hk=>?_) (fun r3 hr=>?_) m rfl
  ·rw [Fn.memory_Copy_L3_eq,hr,wr (n:=(i:Int)+1) (by omega) (by omega)]
   have hx:=h3 _ (List.getElem_mem hi)
   simp only [lt,Int.toNat_natCast,Nat.zero_add,getD_nat hi]
   refine .ite (fun _=>.need (inR_nat hi) (.bindE (clone_cells _ hx) (.need (inR_nat hi) (.tail (hk _ ?_))))) (fun hc=>by simp at hc;omega)
   have:List.set m.2 i m.2[i]=m.2:=List.set_getElem_self hi
   show (m.1,List.set m.2 i m.2[i])=m
   rw [this]
  ·rw [Fn.memory_Copy_L3_eq]
   exact .ite (fun hc=>by simp at hc) fun _=>.some (by rw [hr])
 obtain ⟨r,e,rfl⟩:=key
 exact e
theorem layout_Copy_spec (l:Layout) (h:l.1.length≤4294967296):Fn.layout_Copy (l,())=some ((),(l,())):=by
 rw [Fn.layout_Copy_eq,clone_ints _ h];rfl
theorem MSmall.pcopy {m:Machine} (h:MSmall m):Fn.program_Copy (m,())=some ((),(m,())):=by
 have key:Ok (Fn.program_Copy (m,())) fun r=>r=((),(m,())):=by
  rw [Fn.program_Copy_eq]
  have h4:=h.h4
  refine .bindE (layout_Copy_spec _ h.h0) (.bindE (memory_Copy_spec _ h.h1 h.h2 h.h3) (.tail ?_))
  refine Ok.loop (L:=fun i (r3:Machine)=>Fn.program_Copy_L3 ((m.2.2,(m.2.2.length:Int),i,()),(zMachine,r3,()),())) (n:=m.2.2.length) (fun i r3=>r3=(m.1,m.2.1,m.2.2.take i)) (fun i r3 hi hr hk=>?_) (fun r3 hr=>?_) (m.1,m.2.1,[]) (by simp)
  ·rw [Fn.program_Copy_L3_eq,wr (n:=(i:Int)+1) (by omega) (by omega)]
   have hx:=h.h5 _ (List.getElem_mem hi)
   simp only [lt,Int.toNat_natCast,getD_nat hi]
   refine .ite (fun _=>.need (inR_nat hi) (.bindE (clone_cells _ hx) (.need ?_ (.tail (hk _ ?_))))) (fun hc=>by simp at hc;omega)
   ·rw [hr];simp;omega
   ·rw [hr]
    simp only [List.append_eq,Prod.mk.injEq,true_and]
    rw [List.take_succ_eq_append_getElem hi]
  ·rw [Fn.program_Copy_L3_eq]
   refine .ite (fun hc=>by simp at hc) fun _=>.some ?_
   rw [hr];simp
 obtain ⟨r,e,rfl⟩:=key
 exact e
def canB (m:Machine) (i:Int):Bool:=decide (0≤i∧i<(m.2.2.length:Int))&&(decide ((List.getD m.2.2 i.toNat zThread).1=1)&&(!decide ((List.getD m.2.2 i.toNat zThread).2.2.2.2.1=-1))&&decide ((List.getD m.2.2 i.toNat zThread).2.2.2.2.2.1=-1))
theorem r16_Can_spec (m:Machine) (i:Int):Fn.r16_Can (m,i,())=some ((),(canB m i,())):=by
 obtain ⟨r,e,h⟩:=r16_Can_ok m i
 rw [e]
 obtain ⟨r1,r2,r3⟩:=r
 simp only at h
 rw [h];rfl
theorem signal_Can_spec (m:Machine) (i:Int):Fn.signal_Can (m,i,())=some ((),(canB m i,())):=by
 rw [←r16_Can_spec,Fn.signal_Can_eq,Fn.r16_Can_eq]
def delT (t:Thread):Thread:=(t.1,t.2.1,t.2.2.2.2.1,t.2.2.2.1,t.2.2.2.2.1,t.2.2.1,t.2.2.2.2.2.2)
def delM (m:Machine) (i:Int):Machine:=(m.1,m.2.1,List.set m.2.2 i.toNat (delT (List.getD m.2.2 i.toNat zThread)))
theorem can_range {m:Machine} {i:Int} (h:canB m i=true):0≤i∧i<(m.2.2.length:Int):=by
 unfold canB at h;grind
theorem signal_Deliver_spec (m:Machine) (h:MSmall m) (i:Int):Fn.signal_Deliver (m,i,())=some ((),(bif canB m i then delM m i else m,(canB m i,()))):=by
 rw [Fn.signal_Deliver_eq]
 simp only [lt,h.pcopy,Option.bind_some,signal_Can_spec]
 cases hc:canB m i with
 | false=>rfl
 | true=>
  obtain ⟨h0,h1⟩:=can_range hc
  have hlt:i.toNat<m.2.2.length:=by omega
  have g:∀(x y:Thread),List.getD (m.2.2.set i.toNat x) i.toNat y=x:=fun x y=>by
   rw [getD_nat (by simpa using hlt)];simp
  simp only [Nat.zero_add,inR_of h0 h1,g,List.set_set,Bool.not_true,cond_false,cond_true]
  rfl
theorem r16_Deliver_spec (m:Machine) (h:MSmall m) (i:Int):Fn.r16_Deliver (m,i,())=some ((),(bif canB m i then delM m i else m,(canB m i,()))):=by
 rw [Fn.r16_Deliver_eq]
 simp only [lt,h.copy,Option.bind_some,r16_Can_spec]
 cases hc:canB m i with
 | false=>rfl
 | true=>
  obtain ⟨h0,h1⟩:=can_range hc
  have hlt:i.toNat<m.2.2.length:=by omega
  have g:∀(x y:Thread),List.getD (m.2.2.set i.toNat x) i.toNat y=x:=fun x y=>by
   rw [getD_nat (by simpa using hlt)];simp
  simp only [Nat.zero_add,inR_of h0 h1,g,List.set_set,Bool.not_true,cond_false,cond_true]
  rfl
def depthL:List Thread→Int
 | []=>0
 | t::ts=>(if t.2.2.2.2.2.1=-1 then 0 else 1)+depthL ts
theorem depth_snoc (l:List Thread) (t:Thread):depthL (l++[t])=depthL l+(if t.2.2.2.2.2.1=-1 then 0 else 1):=by
 induction l with
 | nil=>simp [depthL]
 | cons a l ih=>simp only [List.cons_append,depthL,ih];omega
theorem depth_le (l:List Thread):0≤depthL l∧depthL l≤(l.length:Int):=by
 induction l with
 | nil=>simp [depthL]
 | cons a l ih=>simp only [depthL,List.length_cons];split<;>omega
theorem signal_Depth_spec (m:Machine) (h:m.2.2.length≤4294967296):Fn.signal_Depth (m,())=some ((),(depthL m.2.2,())):=by
 have key:Ok (Fn.signal_Depth (m,())) fun r=>r=((),(depthL m.2.2,())):=by
  rw [Fn.signal_Depth_eq]
  refine .tail (Ok.loop (L:=fun i (v:Int)=>Fn.signal_Depth_L3 ((v,m.2.2,(m.2.2.length:Int),i,()),(),())) (n:=m.2.2.length) (fun i v=>v=depthL (m.2.2.take i)) (fun i v hi hv hk=>?_) (fun v hv=>?_) 0 (by simp [depthL]))
  ·rw [Fn.signal_Depth_L3_eq]
   have hd:=depth_le (m.2.2.take i)
   have hl:(m.2.2.take i).length≤i:=by rw [List.length_take];exact Nat.min_le_left _ _
   simp only [lt,Int.toNat_natCast,getD_nat hi,wr (n:=(i:Int)+1) (by omega) (by omega)]
   have hs:=depth_snoc (m.2.2.take i) m.2.2[i]
   rw [←List.take_succ_eq_append_getElem hi] at hs
   rw [wr (n:=v+1) (by omega) (by omega)]
   refine .ite (fun _=>.need (inR_nat hi) (.ite (fun hc=>.tail (hk _ ?_)) fun hc=>.tail (hk _ ?_))) (fun hc=>by simp at hc;omega)
   ·simp only [Bool.not_eq_eq_eq_not,Bool.not_true,decide_eq_false_iff_not] at hc
    rw [hs,if_neg hc,hv]
   ·simp only [Bool.not_eq_eq_eq_not,Bool.not_false,decide_eq_true_eq] at hc
    rw [hs,if_pos hc,hv];omega
  ·rw [Fn.signal_Depth_L3_eq]
   refine .ite (fun hc=>by simp at hc) fun _=>.some ?_
   rw [hv];simp
 obtain ⟨r,e,rfl⟩:=key
 exact e
def awakeM:Machine:=(([],0),([],[]),[(1,[],5,0,-1,-1,0,0),(1,[],5,0,9,-1,0,0)])
theorem awake_fits:MSmall awakeM:=⟨by decide,by decide,by decide,by decide,by decide,by decide⟩
theorem law16_awake_spec:Fn.law16_awake ()=some ((),(true,())):=by
 rw [Fn.law16_awake_eq]
 simp only [lt]
 have e1:=signal_Deliver_spec awakeM awake_fits 1
 have e2:=signal_Can_spec awakeM 0
 have e3:=signal_Can_spec awakeM 1
 have e4:=signal_Depth_spec (delM awakeM 1) (by decide)
 have c1:canB awakeM 1=true:=by decide
 have c0:canB awakeM 0=false:=by decide
 rw [c1] at e1 e3
 rw [c0] at e2
 unfold awakeM at e1 e2 e3
 rw [e1]
 simp only [Option.bind_some,e2,e3]
 exact e4▸rfl
end Go.Rd
namespace Go.Rd
theorem MSmall.set {m:Machine} (h:MSmall m) {t:Thread} (ht:t.2.1.length≤4294967296) (i:Nat):MSmall (m.1,m.2.1,List.set m.2.2 i t):=
 ⟨h.h0,h.h1,h.h2,h.h3,by simpa using h.h4,set_all (P:=fun t:Thread=>t.2.1.length≤4294967296) h.h5 ht⟩
theorem MSmall.regs {m:Machine} (h:MSmall m) (i:Nat):(List.getD m.2.2 i zThread).2.1.length≤4294967296:=getD_all (P:=fun t:Thread=>t.2.1.length≤4294967296) h.h5 (by decide) i
theorem MSmall.del {m:Machine} (h:MSmall m) (i:Int):MSmall (delM m i):=h.set (t:=delT (List.getD m.2.2 i.toNat zThread)) (h.regs i.toNat) i.toNat
theorem deck_new (l:List Int) (hl:l.length≤BIG):DeckOK (l,0):=⟨hl,by simp,by simp⟩
end Go.Rd
namespace Go.Rd
open Go.ChangeShapes Go.WideShapes Go.ChangeAt Go.RowKit
variable {H:Type} {enc:TypeId×Value→H} {P:Program}
theorem trodAll_kept (hl:laidOutB P=true) {W W':World} {sp:Nat→Bool} (hk:∀p:MemPlace,p.block<W.heap.size→W.sameAt W' p):∀{ts:List TypeId} {vs:List Value} {ds:List (DataW H)} {ps:List MemPlace},
  (∀t∈ts,P.readableRec t=true∧t<P.types.size)→DataW.TrodAll enc P W 0 (fun _=>true) true ts vs ds ps→(∀p∈ps,p.block<W.heap.size)→(∀p∈ps,sp p.block=true)→DataW.TrodAll enc P W' 0 sp true ts vs ds ps
 | [],[],[],_,_,h,_,_=>h
 | t::ts,v::vs,d::ds,_,ht,⟨p,q,h1,h2,e⟩,hlt,hsp=>by
  subst e
  refine ⟨p,q,WideElems.Trod_stays hl (ht t (List.mem_cons_self ..)).1 (ht t (List.mem_cons_self ..)).2 h1 (fun x hx=>hk x (hlt x (List.mem_append_left _ hx))) (fun x hx=>hsp x (List.mem_append_left _ hx)),?_,rfl⟩
  exact trodAll_kept hl hk (fun t h=>ht t (List.mem_cons_of_mem _ h)) h2 (fun x hx=>hlt x (List.mem_append_right _ hx)) (fun x hx=>hsp x (List.mem_append_right _ hx))
theorem post_true {f:Func} {s:ChangeSpec} {apart fresh handsOn again:Bool} {W W':World} {args:Array Value} {ds:List (DataW H)} {before:List MemPlace} {tb:TypeId}
  (hl:laidOutB P=true) (hr:∀t∈f.params.toList,P.readableRec t=true∧t<P.types.size) (hv:s.vars=[]) (hW:DataW.Whole enc P f.params.toList s.vars apart W args.toList ds [] before)
  (hft:f.resultTypes=#[tb]) (htb:P.underlying tb=some .bool) (hfn:s.fn H (ds++[])={ results:=[.lit (.bool true)],args:=ds }) (hos:W'.os=W.os) (hout:W'.output=W.output)
  (hk:∀b,b<W.heap.size→Kept W W' b):s.post enc P f apart fresh handsOn again W args (.bool true) W':=by
 have hlt:=hW.lt
 obtain ⟨p,q,hA,hV,hp,hz,hn⟩:=id hW
 rw [hv] at hV
 obtain ⟨_,hq⟩:=trodVars_none hV
 subst hq
 rw [List.append_nil] at hp
 subst hp
 have same:∀x:MemPlace,x.block<W.heap.size→W.sameAt W' x:=fun x hx=>match x,hx with
  | .cell b off,hx=>(hk b hx).cell off
  | .map b,hx=>hk b hx
 have args':∀sp:Nat→Bool,(∀x∈before,sp x.block=true)→DataW.TrodAll enc P W' 0 sp true f.params.toList args.toList ds before:=fun sp hsp=>trodAll_kept hl same hr hA hlt hsp
 have res:∀(b:Nat) (sp:Nat→Bool) (hd:Bool),DataW.TrodAll enc P W' b sp hd f.resultTypes.toList ((Value.bool true).resultList f.resultTypes.size) [(.lit (.bool true):DataW H)] []:=fun b sp hd=>by
  rw [hft];exact trodAll_mk1 (shut_bool htb true)
 have kept:W.keptBut W' (fun x=>x∈before∧(x∈([]:List MemPlace)∨x∈before∨x∈([]:List MemPlace))):=by
  refine ⟨hos,hout,fun i hi=>?_⟩
  rw [show W'.heap[i]?=W.heap[i]? from hk i hi]
  exact (World.keptBut_refl W (fun x=>x∈before∧(x∈([]:List MemPlace)∨x∈before∨x∈([]:List MemPlace)))).2.2 i hi
 refine ⟨ds,[],before,[],before,[],hW,?_,?_,?_,kept,fun _=>⟨ok_one hft rfl (okWide_bool_mk htb true),(.lit (.bool true))::ds,[],before,⟨before,[],?_,?_,by simp,?_,hn⟩,fun x hx _=>hx⟩⟩
 ·rw [hfn];exact res _ _ _
 ·rw [hfn];exact args' _ fun x hx=>by simpa using hlt x hx
 ·rw [hfn,hv];rfl
 ·have:=trodAll_append (args' (fun _=>true) fun _ _=>rfl) (res 0 (fun _=>true) true)
  simpa using this
 ·rw [hv];rfl
 ·intro b off hx
  rw [(hk b (hlt _ hx)).frozen off]
  exact hz b off hx
theorem ints_in {W:World} {t e:TypeId} {v:Value} {d:DataW H} {ps:List MemPlace} (ht:P.underlying t=some (.slice e)) (he:P.underlying e=some (.int .i64)) (hc:P.cellsOf e=1)
  (hval:∃a len cap,v=.slice a len cap) (h:DataW.Trod enc P W 0 (fun _=>true) true t v d ps) (hs:∀elems spare,d=.slice elems spare→elems.length≤LMAX):
  ∃zs:List Int,Rep (fun b=>b<W.heap.size) W (.slice (.int .i64)) .imm [v] zs []∧zs.length≤LMAX:=by
 obtain ⟨a0,len,cap,rfl⟩:=hval
 obtain ⟨fuel,hf⟩:=h
 rcases open_ints ht he hc hf with ⟨hcs,hx⟩ | ⟨a,len',cap',zs,hcs,_,hl,hm,hz,hx,hcell,hwz⟩
 ·simp [Value.cells] at hcs
  obtain ⟨rfl,rfl,rfl⟩:=hcs
  exact ⟨[],⟨rfl,none,0,rfl,Nat.le_refl _,by simp,.inl rfl⟩,by simp⟩
 ·simp [Value.cells] at hcs
  obtain ⟨rfl,rfl,rfl⟩:=hcs
  simp only [Prod.mk.injEq] at hx
  obtain ⟨rfl,rfl⟩:=hx
  simp only [if_true] at hz
  have hlen:(zs.take len).length=len:=by rw [List.length_take];omega
  have hmx:=hs _ _ rfl
  simp only [lits,List.length_map,hlen] at hmx
  refine ⟨zs.take len,⟨rfl,some a,cap,by rw [hlen],by rw [hlen];exact hl,by rw [hlen];exact hmx,?_⟩,by rw [hlen];exact hmx⟩
  by_cases h0:len=0
  ·left;subst h0;simp
  ·right
   obtain ⟨b,off,spot⟩:=a
   have hc0:=hcell 0 (by omega)
   have hspot:spot=none:=by simpa [Addr.add] using World.cell?_spot hc0
   subst hspot
   refine ⟨b,off,rfl,?_,fun i y hy=>⟨[.int .i64 y],fun j u hj=>?_,rfl,rfl,fun _=>⟨rfl,?_⟩⟩⟩
   ·have hc0:W.cell? ⟨b,off+0,none⟩=some (.int .i64 (zs.getD 0 0)):=by rw [←add_plain];exact hcell 0 (by omega)
    unfold World.cell? at hc0
    by_cases hb:b<W.heap.size
    ·exact hb
    ·rw [Array.getElem?_eq_none (by show W.heap.size≤b;omega)] at hc0
     simp at hc0
   ·have hi:i<len:=by
     by_cases hi:i<len
     ·exact hi
     ·rw [List.getElem?_eq_none (by omega)] at hy;cases hy
    have hj0:j=0:=by
     by_cases hj0:j=0
     ·exact hj0
     ·rw [List.getElem?_eq_none (by simp;omega)] at hj;cases hj
    subst hj0
    simp at hj
    subst hj
    have hci:W.cell? ⟨b,off+i,none⟩=some (.int .i64 (zs.getD i 0)):=by rw [←add_plain];exact hcell i (by omega)
    have:zs.getD i 0=y:=by
     rw [List.getElem?_take_of_lt hi] at hy
     rw [List.getD_eq_getElem?_getD,hy];rfl
    rw [this] at hci
    simpa [Ty.size] using hci
   ·have hy2:y∈zs:=List.mem_of_mem_take (List.mem_of_getElem? hy)
    have:=hwz y hy2
    simpa [Lit.wf] using this
theorem calls_true {f:FuncId} {s:Sum} {vs:List Value} {W:World} {x:TupD s.ins} {z:TupL s.ins} {y:TupD s.outs} (hm:Meets P f s) (hin:s.inp=none) (hv:s.f x=some (z,y)) (hA:ArgsRep (fun b=>b<W.heap.size) W s.ins vs x [] [])
  (hout:∀(S:Nat→Prop) (w:World) (rs:List Value) R L2,ArgsRep S w s.outs rs y R L2→rs=[.bool true]):
  Calls P f vs.toArray W fun e W'=>e=.returned (.bool true)∧W'.os=W.os∧W'.output=W.output∧∀b,b<W.heap.size→Kept W W' b:=by
 refine (hm x z y hv W (fun b=>b<W.heap.size) vs [] [] hA List.nodup_nil (by simp) (fun b hb=>⟨hb,by simp⟩)).mono fun e W' h=>?_
 obtain ⟨rs,R1,R2,L2,e1,e2,e3,e4,e5,e6,e7,e8,e9,e10,e11⟩:=h
 unfold ResRep at e11
 rw [hin] at e11
 have:=hout _ _ _ _ _ e11
 subst this
 exact ⟨e1,e2,e4,fun b hb=>e6 b hb (by simp)⟩
end Go.Rd
namespace Go.Rd
theorem ProgOK.rti {p:Prog} (h:ProgOK p) (k:Nat):ProgOK (List.set p.1 k (24,0,0,0,0),p.2):=
 ⟨h.sizes,h.data,by simpa using h.len,set_all (P:=fun i=>InstrOK i (List.set p.1 k (24,0,0,0,0)).length p.2.1.length) (fun i hi=>by simpa using h.code i hi) ⟨by simp,by simp,by simp,by simp,by simp,by simp,(fun h=>by cases h),by simp,by simp⟩⟩
theorem MachOK.code {p q:Prog} {m:Machine} {K:Int} (h:MachOK p m K) (h1:q.1.length=p.1.length) (h2:q.2.1=p.2.1):MachOK q m K:=
 ⟨by rw [h2];exact h.lay,h.mem,h.len,by rw [h1];exact h.thr⟩
def retT (t:Thread):Thread:=(t.1,t.2.1,t.2.2.1,t.2.2.2.1+1,t.2.2.2.2)
theorem one_rti (p:Prog) (m:Machine) (i:Nat) (hi:i<m.2.2.length) (t:Thread) (ht:List.getD m.2.2 i zThread=t) (h0:0≤t.2.2.1) (h1:t.2.2.1<(p.1.length:Int)) (hp:List.getD p.1 t.2.2.1.toNat zInstr=(24,0,0,0,0))
  (hr:t.2.1.length=8) (hs:t.2.2.2.2.2.1≠-1) (hc0:0≤t.2.2.2.1) (hc:t.2.2.2.1≤1099511627776):
  Fn.r11_one (p,m,(i:Int),())=some (((m.1,m.2.1,List.set m.2.2 i (t.1,t.2.1,t.2.2.2.2.2.1,t.2.2.2.1+1,t.2.2.2.2.1,-1,t.2.2.2.2.2.2)),()),(-1,())):=by
 rw [Fn.r11_one_eq]
 have g:∀(x y:Thread),List.getD (m.2.2.set i x) i y=x:=fun x y=>by
  rw [getD_nat (by simpa using hi)];simp
 have n1:¬((p.1.length:Int)≤t.2.2.1):=by omega
 have r0:inR 0 t.2.1.length=true:=inR_of (by omega) (by omega)
 have e24:∀(k:Int),k≠24→decide ((24:Int)=k)=false:=fun k h=>decide_eq_false fun e=>h e.symm
 simp only [lt,Int.toNat_natCast,Nat.zero_add,ht,inR_nat hi,n1,decide_false,cond_true,cond_false,inR_of h0 h1,hp,r0,e24 0 (by decide),e24 1 (by decide),e24 2 (by decide),e24 15 (by decide),e24 16 (by decide),e24 17 (by decide),e24 18 (by decide),e24 19 (by decide),e24 20 (by decide),e24 21 (by decide),e24 22 (by decide),decide_true,hs]
 rw [Fn.r11_one_L54_eq,Fn.r06_Branch_eq,Fn.r06_Jump_eq]
 simp only [lt,g,List.set_set,wr (n:=t.2.2.2.1+1) (by omega) (by omega),Option.bind_some]
 rfl
theorem depth_set (l:List Thread) (i:Nat) (h:i<l.length) (t:Thread) (h0:l[i].2.2.2.2.2.1=-1) (h1:t.2.2.2.2.2.1≠-1):depthL (List.set l i t)=depthL l+1:=by
 induction l generalizing i with
 | nil=>simp at h
 | cons a l ih=>
  cases i with
  | zero=>
   simp only [List.getElem_cons_zero] at h0
   simp only [List.set_cons_zero,depthL,if_pos h0,if_neg h1];omega
  | succ i=>
   simp only [List.getElem_cons_succ] at h0
   simp only [List.set_cons_succ,depthL,ih i (by simpa using h) h0];omega
theorem SignalReturns_plain (l:List Int) (hl:l.length≤BIG) (t:Int):Fn.law16_SignalReturns (l,t,())=some ((),(true,())):=by
 rw [Fn.law16_SignalReturns_eq,Fn.mk_New_eq]
 obtain ⟨y,e,hp,hm⟩:=law16_handling_ok (l,0) (deck_new l hl)
 have hi:=modI_range (v:=t) (n:=4) (by omega)
 have hs:=hm.fits hp
 have h4:=hm.len
 simp only [lt,Option.bind_some,e,mk_Mod_spec t 4 (by omega) (by omega)]
 obtain ⟨i,hi0⟩:∃i:Nat,modI t 4=(i:Int):=⟨(modI t 4).toNat,by omega⟩
 rw [hi0] at hi ⊢
 have hi4:i<4:=by omega
 have ec:Fn.signal_Can ((((y.2.2.1.1.1,y.2.2.1.1.2),((y.2.2.1.2.1.1,y.2.2.1.2.1.2),y.2.2.1.2.2)):Machine),((i:Int),()))=some ((),(canB y.2.2.1 i,())):=signal_Can_spec y.2.2.1 i
 have ed:Fn.signal_Deliver ((((y.2.2.1.1.1,y.2.2.1.1.2),((y.2.2.1.2.1.1,y.2.2.1.2.1.2),y.2.2.1.2.2)):Machine),((i:Int),()))=some ((),(bif canB y.2.2.1 i then delM y.2.2.1 i else y.2.2.1,(canB y.2.2.1 i,()))):=signal_Deliver_spec y.2.2.1 hs i
 simp only [ed,Option.bind_some]
 generalize y.2.2.1=m at *
 generalize y.2.1=p at *
 have key:∀{r:Unit×Bool×Unit} {o:Option (Unit×Bool×Unit)},Ok o (fun x=>x=r)→o=some r:=fun h=>by
  obtain ⟨a,e,rfl⟩:=h;exact e
 refine key ?_
 cases hc:canB m i with
 | false=>
  rw [hc] at ec
  refine .ite (fun _=>.bindE (r11_Same_refl m hs) (.bindE (a:=((),(false,()))) ec ?_)) (fun h=>by simp at h)
  exact .bindE law16_awake_spec (.some rfl)
 | true=>
  have hlt:i<m.2.2.length:=by omega
  have ht:=hm.getD hi4
  have hg:=getD_nat (z:=zThread) hlt
  have hcan:=hc
  unfold canB at hcan
  rw [Int.toNat_natCast] at hcan
  have hst:(List.getD m.2.2 i zThread).1=1:=by grind
  have hh:(List.getD m.2.2 i zThread).2.2.2.2.1≠-1:=by grind
  have hsv:(List.getD m.2.2 i zThread).2.2.2.2.2.1=-1:=by grind
  have mdel:MachOK p (delM m i) 4096:=by
   obtain ⟨r,e1,e2⟩:=r16_Deliver_ok p hp m 4096 hm i
   rw [r16_Deliver_spec m hs i,hc] at e1
   cases e1
   exact e2.1
  have hsd:=hs.del i
  have hd2:(delM m i).2.2=List.set m.2.2 i (delT (List.getD m.2.2 i zThread)):=by unfold delM;rw [Int.toNat_natCast]
  have hld:(delM m i).2.2.length=4:=mdel.len
  have hgd:List.getD (delM m i).2.2 i zThread=delT (List.getD m.2.2 i zThread):=by
   rw [hd2,getD_nat (by simpa using hlt),List.getElem_set_self]
  have hdep:depthL (delM m i).2.2=depthL m.2.2+1:=by
   rw [hd2]
   refine depth_set _ _ hlt _ (by rw [←hg];exact hsv) ?_
   have:=ht.pc
   show (List.getD m.2.2 i zThread).2.2.1≠-1
   omega
  have hcd:canB (delM m i) i=false:=by
   have:=ht.pc
   have e1:(List.getD (delM m i).2.2 i zThread).2.2.2.2.2.1≠-1:=by
    rw [hgd];show (List.getD m.2.2 i zThread).2.2.1≠-1;omega
   unfold canB
   rw [Int.toNat_natCast,decide_eq_false e1]
   simp
  have hcan2:=signal_Can_spec (delM m i) i
  rw [hcd] at hcan2
  have hdl:=depth_le m.2.2
  have hwr:Go.IntKind.wrap Go.IntKind.i64 (depthL m.2.2+1)=depthL m.2.2+1:=wr (by omega) (by omega)
  have hrange:=ht.hand
  have hlen:=hp.len.2
  have hcount:=ht.count
  have hself:=ht.len
  have hpc:=ht.pc
  generalize hu:List.getD m.2.2 i zThread=u at *
  obtain ⟨h,hh2⟩:∃h:Nat,u.2.2.2.2.1=(h:Int):=⟨u.2.2.2.2.1.toNat,by omega⟩
  have hhl:h<p.1.length:=by omega
  have hp':=hp.rti h
  have m':MachOK (List.set p.1 h (24,0,0,0,0),p.2) (delM m i) 4096:=mdel.code (by simp) rfl
  have hone:=one_rti (List.set p.1 h (24,0,0,0,0),p.2) (delM m i) i (by omega) (delT u) hgd (by show 0≤u.2.2.2.2.1;omega) (by show u.2.2.2.2.1<_;rw [hh2];simpa using hhl)
   (by show List.getD (List.set p.1 h (24,0,0,0,0)) u.2.2.2.2.1.toNat zInstr=_;rw [hh2,Int.toNat_natCast,getD_nat (by simpa using hhl),List.getElem_set_self]) hself (by show u.2.2.1≠-1;omega) hcount.1 (by show u.2.2.2.1≤_;omega)
  have hret:((delM m i).1,(delM m i).2.1,List.set (delM m i).2.2 i ((delT u).1,(delT u).2.1,(delT u).2.2.2.2.2.1,(delT u).2.2.2.1+1,(delT u).2.2.2.2.1,-1,(delT u).2.2.2.2.2.2))=(m.1,m.2.1,List.set m.2.2 i (retT u)):=by
   rw [hd2,List.set_set]
   obtain ⟨a,b,c,d,e,f,g⟩:=u
   simp only at hsv
   subst hsv
   rfl
  rw [hret] at hone
  have hsr:MSmall (m.1,m.2.1,List.set m.2.2 i (retT u)):=hs.set (by show u.2.1.length≤_;omega) i
  have hcr:canB (m.1,m.2.1,List.set m.2.2 i (retT u)) i=true:=by
   unfold canB
   rw [Int.toNat_natCast,getD_nat (by simpa using hlt)]
   simp only [List.getElem_set_self,List.length_set]
   show (decide (0≤(i:Int)∧(i:Int)<(m.2.2.length:Int))&&(decide (u.1=1)&&(!decide (u.2.2.2.2.1=-1))&&decide (u.2.2.2.2.2.1=-1)))=true
   have:=hlt
   grind
  have hcan3:=signal_Can_spec (m.1,m.2.1,List.set m.2.2 i (retT u)) i
  rw [hcr] at hcan3
  refine .ite (fun h=>by simp at h) fun _=>?_
  simp only [cond_true,hld,Int.cast_ofNat_Int,decide_true,Bool.not_true,Bool.not_false,Bool.and_self,cond_false]
  refine .bindE hcan2 ?_
  simp only [cond_false,Bool.not_false,Bool.and_self,cond_true]
  refine .bindE (signal_Depth_spec (delM m i) hsd.h4) (.bindE (signal_Depth_spec m hs.h4) ?_)
  simp only [hdep,hwr,decide_true,Bool.not_true,cond_false]
  refine .need (by simp;omega) (.need (inR_nat hlt) ?_)
  simp only [Int.toNat_natCast,hu,hh2,Nat.zero_add,List.append_eq,List.nil_append]
  refine .ite (fun hb=>by grind) fun _=>.need (inR_nat hhl) ?_
  have hOne:Fn.r11_One ((List.set p.1 h (24,0,0,0,0),p.2),(delM m i,((i:Int),())))=some ((),((m.1,m.2.1,List.set m.2.2 i (retT u)),(-1,(0,())))):=by
   have key2:∀{r:Unit×Machine×Int×Int×Unit} {o:Option (Unit×Machine×Int×Int×Unit)},Ok o (fun x=>x=r)→o=some r:=fun h=>by
    obtain ⟨a,e,rfl⟩:=h;exact e
   refine key2 ?_
   rw [Fn.r11_One_eq]
   simp only [lt]
   refine .bindE (r11_Valid_true _ _ 4096 (by omega) hp' m') (.ite (fun hb=>by grind) fun _=>.need (inR_nat (by omega)) ?_)
   rw [Int.toNat_natCast,hgd]
   exact .ite (fun hb=>by
    have:(delT u).1=1:=hst
    rw [this] at hb;simp at hb) fun _=>.bindE hsd.copy (.bindE hone (.some rfl))
  refine .bindE hOne (.bindE hs.copy (.need (inR_nat hlt) (.need (inR_nat hlt) ?_)))
  simp only [hu,wr (n:=u.2.2.2.1+1) (by omega) (by omega),decide_true,cond_true,Bool.and_self]
  refine .bindE (r11_Same_refl _ hsr) (.bindE hcan3 (.bindE law16_awake_spec (.some rfl)))
end Go.Rd
namespace Go.Proofs.YtmobdlmlgjngfaaGreat
open Go.ChangeShapes Go.WideShapes Go.ChangeAt Go.RowKit Go.Rd
theorem Tryz.own:ownKnob Tryz.prog.godebug=none:=by kernel_rfl
theorem Tryz.laidOut:laidOutB Tryz.prog=true:=by kernel_rfl
theorem par4:∀t∈Tryz.f4.params.toList,Tryz.prog.readableRec t=true∧t<Tryz.prog.types.size:=by
 rw [Tryz.params4]
 intro t ht
 rcases List.mem_cons.1 ht with rfl | ht
 ·exact ⟨by kernel_rfl,of_decide_eq_true (by kernel_rfl)⟩
 ·rcases List.mem_cons.1 ht with rfl | ht
  ·exact ⟨by kernel_rfl,of_decide_eq_true (by kernel_rfl)⟩
  ·cases ht
set_option maxRecDepth 100000 in
theorem signalReturns_lifted (os:Os) (started:os.Started) (H:Type) (enc:TypeId×Value→H):
  ReturnsInHanded {} Tryz.checked os 4 .any (Rows.signalReturnsSpec.pre6 enc Tryz.prog Tryz.f4 Rows.signalReturnsRow.domain false) (Rows.signalReturnsSpec.post enc Tryz.prog Tryz.f4 false true false false):=by
 refine returnsInHanded_of_change_sized (C:=Tryz.checked) Tryz.own started (by kernel_rfl) Tryz.func4
  (ChangeSpec.witness6 (enc:=enc) (C:=Tryz.checked) false ⟨#[],#[.slice none 0 0,.int .i64 0],[]⟩ 8 (by kernel_rfl) (by kernel_rfl) (by kernel_rfl) (by kernel_rfl)) ?_
 intro W base args ds gs before hval0 hW _ hsz _
 have hval:∀(j:Nat) t v,Tryz.f4.params[j]?=some t→args[j]?=some v→Value.okWide Tryz.prog W .any base t v:=hval0
 have hW':=hW
 obtain ⟨p,q,hA0,hV,rfl,hfz,hnd⟩:=hW
 have hA:DataW.TrodAll enc Tryz.prog W 0 (fun _=>true) true Tryz.f4.params.toList args.toList ds p:=hA0
 rw [Tryz.params4] at hA hval
 obtain ⟨v0,v1,d0,d1,p0,p1,rfl,rfl,rfl,h0,h1⟩:=trodAll_two hA
 obtain ⟨rfl,rfl⟩:=trodVars_none hV
 obtain ⟨a,rfl,rfl,rfl,wa⟩:=open_int Tryz.underlying3 (hval 1 3 v1 rfl rfl) h1
 have hb8:Tryz.prog.bytesOf 3=8:=by kernel_rfl
 obtain ⟨zs,hrep,hlen⟩:=ints_in Tryz.underlying22 Tryz.underlying3 (by kernel_rfl) (okWide_slice Tryz.underlying22 (hval 0 22 v0 rfl rfl)) h0 fun elems spare hd=>by
  have hz:=sized_slice (P:=Tryz.prog) hsz (j:=0) (t:=22) (e:=3) (elems:=elems) (spare:=spare) (by kernel_rfl) (by rw [hd];rfl) Tryz.underlying22
  rw [hb8] at hz
  unfold reachBytes at hz
  unfold LMAX
  omega
 have hwf:IntKind.min .i64≤a∧a≤IntKind.max .i64:=by simpa [Lit.wf] using wa
 refine (calls_true (s:=s_law16_SignalReturns) (x:=(zs,(a,()))) m_law16_SignalReturns rfl (SignalReturns_plain zs (Nat.le_trans hlen (by decide)) a)
  ⟨[v0],[.int .i64 a],rfl,hrep,[.int .i64 a],[],rfl,⟨rfl,rfl,fun _=>⟨rfl,hwf⟩⟩,rfl,rfl,rfl⟩ ?_).mono fun e W' h=>?_
 ·rintro S w rs R L2 ⟨cs,r,rfl,⟨_,_,h1⟩,rfl,_⟩
  rw [h1 (by simp)];rfl
 ·obtain ⟨he,hos,hout,hk⟩:=h
  exact ⟨.bool true,he,post_true Tryz.laidOut par4 rfl hW' (by kernel_rfl) Tryz.underlying4 rfl hos hout hk⟩
theorem signalReturns_holds:Rows.SignalReturnsSaid:=
 OpenClaim.holds_of_wide 4 Tryz.f4 rfl rfl rfl rfl rfl rfl rfl ⟨rfl,rfl,rfl,rfl,rfl⟩ rfl rfl rfl rfl rfl (by kernel_rfl) Tryz.func4 (by kernel_rfl)
  (of_decide_eq_true (by kernel_rfl)) (by unfold Func.isWrapper;first | (rw [if_pos (by decide +kernel)];kernel_rfl) | (rw [if_neg (by decide +kernel)];exact ⟨rfl,rfl⟩))
  (fun os started H enc _=>signalReturns_lifted os started H enc)
end Go.Proofs.YtmobdlmlgjngfaaGreat
