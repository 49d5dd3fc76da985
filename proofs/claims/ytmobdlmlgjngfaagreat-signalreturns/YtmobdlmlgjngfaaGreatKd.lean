/-
  Part 4 of what the proof rests on: it states nothing of its own that is claimed.
-/
import Derived.Test.YtmobdlmlgjngfaaGreatKc
namespace Go.Rd
open Go.Proofs
noncomputable section
def ins_dk_part:List Par:=[(ty65,.lend .imm .imm),(ty22,.data),(ty3,.data),(ty3,.data)]
def outs_dk_part:List Par:=[(ty35,.data)]
def C_dk_part:FnC:={ G:=⟨tab,eqs,ctrL [(21,s_dk_Next),(58,s_dk_Word),(80,s_mk_li),(81,s_mk_sys),(98,s_mk_mov),(99,s_dk_Instr)]⟩,nt:=232,mv:=mvL [(2,6),(3,4),(3,3),(6,7),(6,6),(6,4),(8,15),(8,14),(8,12),(10,2),(10,1),(13,12),(13,11),(13,10),(16,12),(16,11),(16,10),(19,8),(19,7),(19,5),(19,3),(19,2),(19,1),(21,9),(21,8),(21,5),(21,3),(21,2),(21,1),(23,8),(23,5),(23,4),(23,2),(25,11),(25,10),(25,9),(25,6),(25,3),(25,1),(27,11),(27,9),(27,8),(27,6),(27,2),(29,10),(29,9),(29,7),(29,5),(32,9),(32,8),(32,5),(32,2),(34,6),(34,3),(34,2),(36,15),(36,14),(36,11),(36,8),(36,2),(38,9),(38,8),(38,3),(38,1),(39,5),(39,4),(39,2)],pre:=preL [],cuts:=[39],sh:=shL [(39,⟨[(1,ty22,.data),(2,ty2,.data)],[(0,700000,0)],[],[(700000,ty64,.imm)],[]⟩)],anchs:=[700000] }
def Fn.dk_part_L39 (d:(((List Int)×(Int×Unit))×((Deck×Unit)×Unit))):Option ((Deck×Unit)×((List Instr)×Unit)):=aO C_dk_part ins_dk_part outs_dk_part Tryz.f79 39 d
def Fn.dk_part (x:(Deck×((List Int)×(Int×(Int×Unit))))):Option ((Deck×Unit)×((List Instr)×Unit)):=fO C_dk_part ins_dk_part outs_dk_part Tryz.f79 x
def s_dk_part:Sum:=⟨ins_dk_part,outs_dk_part,Fn.dk_part,none⟩
theorem m_dk_part:Meets Tryz.prog 79 s_dk_part:=meets_fn (C:=C_dk_part) (cfg_ok tok eqs_ok ⟨⟨m_dk_Next,Tryz.call21⟩,⟨⟨m_dk_Word,Tryz.call58⟩,⟨⟨m_mk_li,Tryz.call80⟩,⟨⟨m_mk_sys,Tryz.call81⟩,⟨⟨m_mk_mov,Tryz.call98⟩,⟨⟨m_dk_Instr,Tryz.call99⟩,trivial⟩⟩⟩⟩⟩⟩) mixed Tryz.func79 rfl rfl rfl (by kernel_rfl) (by kernel_rfl)
theorem Fn.dk_part_eq (a0:Deck) (a1:(List Int)) (a2:Int) (a3:Int):Fn.dk_part (a0,a1,a2,a3,()) =
 (Fn.dk_Next (a0,((((List.length a1):Nat):Int),()))).bind fun y1 =>
 bif (inR y1.2.1 (List.length a1)) then
 lt (List.getD a1 (Int.toNat y1.2.1) (0:Int)) fun x496 =>
 lt (IntKind.wrap .i64 (x496+(1:Int))) fun x497 =>
 (Fn.dk_Next (y1.1.1,((if x497<(5:Int) then x497 else (5:Int)),()))).bind fun y2 =>
 (Fn.mk_li ((2:Int),(y2.2.1,()))).bind fun y3 =>
 (Fn.dk_Next (y2.1.1,((20:Int),()))).bind fun y4 =>
 bif (decide (y4.2.1=(0:Int))) then
 (Fn.dk_Next (y4.1.1,((3:Int),()))).bind fun y5 =>
 (Fn.dk_Word (y5.1.1,())).bind fun y6 =>
 (Fn.mk_li ((IntKind.wrap .i64 ((3:Int)+y5.2.1)),((IntKind.wrap .i64 y6.2.1),()))).bind fun y7 =>
 some ((y6.1.1,()),((List.cons y7.2.1 ([]:(List Instr))),()))
 else
 lt (List.cons (9:Int) ([]:(List Int))) fun x498 =>
 bif (decide (y4.2.1=(1:Int))) then
 (Fn.dk_Next (y4.1.1,((8:Int),()))).bind fun y8 =>
 lt (List.cons (3:Int) (List.cons (4:Int) (List.cons (5:Int) (List.cons (10:Int) (List.cons (13:Int) (List.cons (14:Int) (List.cons (11:Int) x498))))))) fun x499 =>
 bif (inR y8.2.1 (List.length x499)) then
 (Fn.dk_Next (y8.1.1,((3:Int),()))).bind fun y9 =>
 (Fn.dk_Next (y9.1.1,((3:Int),()))).bind fun y10 =>
 (Fn.dk_Next (y10.1.1,((3:Int),()))).bind fun y11 =>
 some ((y11.1.1,()),((List.cons ((List.getD x499 (0+(Int.toNat y8.2.1)) (0:Int)),((IntKind.wrap .i64 ((3:Int)+y9.2.1)),((IntKind.wrap .i64 ((3:Int)+y10.2.1)),((IntKind.wrap .i64 ((3:Int)+y11.2.1)),(0:Int))))) ([]:(List Instr))),()))
 else none
 else
 lt ((15:Int),((6:Int),((0:Int),((0:Int),y1.2.1)))) fun x500 =>
 bif (decide (y4.2.1=(2:Int))) then
 some ((y4.1.1,()),((List.cons x500 ([]:(List Instr))),()))
 else
 lt (List.cons a2 (List.cons (5:Int) ([]:(List Int)))) fun x501 =>
 lt (List.cons (1:Int) (List.cons (2:Int) ([]:(List Int)))) fun x502 =>
 lt (List.cons (12:Int) (List.cons (11:Int) ([]:(List Int)))) fun x503 =>
 lt (List.cons (6:Int) (List.cons (7:Int) (List.cons (15:Int) ([]:(List Int))))) fun x504 =>
 lt (List.cons ((4:Int),((5:Int),((5:Int),((4:Int),(0:Int))))) (List.cons ((20:Int),((5:Int),((0:Int),((0:Int),(IntKind.wrap .i64 (a3+(2:Int))))))) ([]:(List Instr)))) fun x505 =>
 lt (List.cons ((15:Int),((1:Int),((0:Int),((0:Int),y1.2.1)))) (List.cons y3.2.1 ([]:(List Instr)))) fun x506 =>
 bif (decide (y4.2.1=(3:Int))) then
 bif (decide (y4.2.1=(3:Int))) then
 (Fn.dk_Next (y4.1.1,((5:Int),()))).bind fun y12 =>
 bif (inR y1.2.1 (List.length a1)) then
 (Fn.dk_Next (y12.1.1,(x496,()))).bind fun y13 =>
 some ((y13.1.1,()),((List.cons x500 (List.cons ((17:Int),((6:Int),((IntKind.wrap .i64 ((3:Int)+y12.2.1)),((0:Int),y13.2.1)))) ([]:(List Instr)))),()))
 else none
 else
 bif (decide (y4.2.1=(5:Int))) then
 bif (decide (y4.2.1=(5:Int))) then
 (Fn.dk_Next (y4.1.1,((4:Int),()))).bind fun y14 =>
 bif (inR y1.2.1 (List.length a1)) then
 (Fn.dk_Next (y14.1.1,(x496,()))).bind fun y15 =>
 some ((y15.1.1,()),((List.cons x500 (List.cons ((16:Int),((IntKind.wrap .i64 ((3:Int)+y14.2.1)),((6:Int),((0:Int),y15.2.1)))) ([]:(List Instr)))),()))
 else none
 else
 bif (decide (y4.2.1=(7:Int))) then
 bif (decide (y4.2.1=(7:Int))) then
 (Fn.dk_Next (y4.1.1,((3:Int),()))).bind fun y16 =>
 (Fn.mk_li ((0:Int),(y16.2.1,()))).bind fun y17 =>
 lt (List.cons y17.2.1 ([]:(List Instr))) fun x507 =>
 bif (Nat.ble ((List.length x507)+(List.length x506)) 4294967296) then
 (Fn.mk_sys ((13:Int),())).bind fun y18 =>
 lt (List.cons y18.2.1 ([]:(List Instr))) fun x508 =>
 bif (Nat.ble ((List.length (List.append x507 x506))+(List.length x508)) 4294967296) then
 some ((y16.1.1,()),((List.append (List.append x507 x506) x508),()))
 else none
 else none
 else
 bif (decide (y4.2.1=(9:Int))) then
 (Fn.dk_Next (y4.1.1,((3:Int),()))).bind fun y19 =>
 (Fn.mk_li ((0:Int),(y19.2.1,()))).bind fun y20 =>
 lt (List.cons y20.2.1 ([]:(List Instr))) fun x509 =>
 bif (Nat.ble ((List.length x509)+(List.length x506)) 4294967296) then
 (Fn.mk_sys ((14:Int),())).bind fun y21 =>
 (Fn.mk_mov ((3:Int),((0:Int),()))).bind fun y22 =>
 lt (List.cons y21.2.1 (List.cons y22.2.1 ([]:(List Instr)))) fun x510 =>
 bif (Nat.ble ((List.length (List.append x509 x506))+(List.length x510)) 4294967296) then
 some ((y19.1.1,()),((List.append (List.append x509 x506) x510),()))
 else none
 else none
 else
 bif (decide (y4.2.1=(10:Int))) then
 (Fn.dk_Next (y4.1.1,((3:Int),()))).bind fun y23 =>
 (Fn.mk_li ((0:Int),(y23.2.1,()))).bind fun y24 =>
 (Fn.dk_Next (y23.1.1,((4:Int),()))).bind fun y25 =>
 (Fn.mk_li ((1:Int),(y25.2.1,()))).bind fun y26 =>
 (Fn.mk_sys ((3:Int),())).bind fun y27 =>
 (Fn.mk_mov ((7:Int),((0:Int),()))).bind fun y28 =>
 some ((y25.1.1,()),((List.cons y24.2.1 (List.cons y26.2.1 (List.cons y27.2.1 (List.cons y28.2.1 ([]:(List Instr)))))),()))
 else
 bif (decide (y4.2.1=(11:Int))) then
 (Fn.mk_mov ((0:Int),((7:Int),()))).bind fun y29 =>
 lt (List.cons y29.2.1 ([]:(List Instr))) fun x511 =>
 bif (Nat.ble ((List.length x511)+(List.length x506)) 4294967296) then
 (Fn.dk_Next (y4.1.1,((2:Int),()))).bind fun y30 =>
 bif (inR y30.2.1 (List.length x502)) then
 (Fn.mk_sys ((List.getD x502 (0+(Int.toNat y30.2.1)) (0:Int)),())).bind fun y31 =>
 lt (List.cons y31.2.1 ([]:(List Instr))) fun x512 =>
 bif (Nat.ble ((List.length (List.append x511 x506))+(List.length x512)) 4294967296) then
 some ((y30.1.1,()),((List.append (List.append x511 x506) x512),()))
 else none
 else none
 else none
 else
 bif (decide (y4.2.1=(12:Int))) then
 (Fn.mk_mov ((0:Int),((7:Int),()))).bind fun y32 =>
 (Fn.mk_sys ((4:Int),())).bind fun y33 =>
 (Fn.mk_mov ((0:Int),((7:Int),()))).bind fun y34 =>
 (Fn.dk_Next (y4.1.1,((4:Int),()))).bind fun y35 =>
 (Fn.mk_li ((1:Int),(y35.2.1,()))).bind fun y36 =>
 (Fn.mk_sys ((5:Int),())).bind fun y37 =>
 (Fn.dk_Next (y35.1.1,((2:Int),()))).bind fun y38 =>
 lt (List.cons (List.cons y32.2.1 (List.cons y33.2.1 ([]:(List Instr)))) (List.cons (List.cons y34.2.1 (List.cons y36.2.1 (List.cons y37.2.1 ([]:(List Instr))))) ([]:(List (List Instr))))) fun x513 =>
 bif (inR y38.2.1 (List.length x513)) then
 some ((y38.1.1,()),((List.getD x513 (0+(Int.toNat y38.2.1)) ([]:(List Instr))),()))
 else none
 else
 bif (decide (y4.2.1=(13:Int))) then
 (Fn.dk_Next (y4.1.1,((3:Int),()))).bind fun y39 =>
 bif (inR y39.2.1 (List.length x504)) then
 (Fn.mk_sys ((List.getD x504 (0+(Int.toNat y39.2.1)) (0:Int)),())).bind fun y40 =>
 (Fn.dk_Next (y39.1.1,((3:Int),()))).bind fun y41 =>
 (Fn.mk_mov ((IntKind.wrap .i64 ((3:Int)+y41.2.1)),((0:Int),()))).bind fun y42 =>
 some ((y41.1.1,()),((List.cons y40.2.1 (List.cons y42.2.1 ([]:(List Instr)))),()))
 else none
 else
 bif (decide (y4.2.1=(14:Int))) then
 bif (decide (y4.2.1=(14:Int))) then
 (Fn.dk_Next (y4.1.1,((3:Int),()))).bind fun y43 =>
 (Fn.mk_li ((0:Int),(y43.2.1,()))).bind fun y44 =>
 (Fn.dk_Next (y43.1.1,((2:Int),()))).bind fun y45 =>
 bif (inR y45.2.1 (List.length (List.cons (8:Int) x498))) then
 (Fn.mk_sys ((List.getD (List.cons (8:Int) x498) (0+(Int.toNat y45.2.1)) (0:Int)),())).bind fun y46 =>
 some ((y45.1.1,()),((List.cons y44.2.1 (List.cons y46.2.1 ([]:(List Instr)))),()))
 else none
 else
 bif (decide (y4.2.1=(16:Int))) then
 (Fn.dk_Next (y4.1.1,(a2,()))).bind fun y47 =>
 (Fn.mk_li ((0:Int),(y47.2.1,()))).bind fun y48 =>
 (Fn.mk_mov ((1:Int),((3:Int),()))).bind fun y49 =>
 (Fn.mk_sys ((10:Int),())).bind fun y50 =>
 some ((y47.1.1,()),((List.cons y48.2.1 (List.cons y49.2.1 (List.cons y50.2.1 ([]:(List Instr))))),()))
 else
 bif (decide (y4.2.1=(17:Int))) then
 (Fn.dk_Next (y4.1.1,((2:Int),()))).bind fun y51 =>
 bif (inR y51.2.1 (List.length x501)) then
 (Fn.dk_Next (y51.1.1,((List.getD x501 (0+(Int.toNat y51.2.1)) (0:Int)),()))).bind fun y52 =>
 (Fn.mk_li ((0:Int),(y52.2.1,()))).bind fun y53 =>
 (Fn.dk_Next (y52.1.1,((2:Int),()))).bind fun y54 =>
 bif (inR y54.2.1 (List.length x503)) then
 (Fn.mk_sys ((List.getD x503 (0+(Int.toNat y54.2.1)) (0:Int)),())).bind fun y55 =>
 some ((y54.1.1,()),((List.cons y53.2.1 (List.cons y55.2.1 ([]:(List Instr)))),()))
 else none
 else none
 else
 bif (decide (y4.2.1=(18:Int))) then
 (Fn.dk_Next (y4.1.1,((4:Int),()))).bind fun y56 =>
 (Fn.mk_li ((5:Int),((IntKind.wrap .i64 ((1:Int)+y56.2.1)),()))).bind fun y57 =>
 (Fn.mk_li ((4:Int),((1:Int),()))).bind fun y58 =>
 some ((y56.1.1,()),((List.cons y57.2.1 (List.cons y58.2.1 x505)),()))
 else
 (Fn.dk_part_L39 ((a1,(a2,())),((y4.1.1,()),()))).bind some
 else
 bif (decide (y4.2.1=(15:Int))) then
 (Fn.dk_Next (y4.1.1,((3:Int),()))).bind fun y59 =>
 (Fn.mk_li ((0:Int),(y59.2.1,()))).bind fun y60 =>
 (Fn.dk_Next (y59.1.1,((2:Int),()))).bind fun y61 =>
 bif (inR y61.2.1 (List.length (List.cons (8:Int) x498))) then
 (Fn.mk_sys ((List.getD (List.cons (8:Int) x498) (0+(Int.toNat y61.2.1)) (0:Int)),())).bind fun y62 =>
 some ((y61.1.1,()),((List.cons y60.2.1 (List.cons y62.2.1 ([]:(List Instr)))),()))
 else none
 else
 bif (decide (y4.2.1=(16:Int))) then
 (Fn.dk_Next (y4.1.1,(a2,()))).bind fun y63 =>
 (Fn.mk_li ((0:Int),(y63.2.1,()))).bind fun y64 =>
 (Fn.mk_mov ((1:Int),((3:Int),()))).bind fun y65 =>
 (Fn.mk_sys ((10:Int),())).bind fun y66 =>
 some ((y63.1.1,()),((List.cons y64.2.1 (List.cons y65.2.1 (List.cons y66.2.1 ([]:(List Instr))))),()))
 else
 bif (decide (y4.2.1=(17:Int))) then
 (Fn.dk_Next (y4.1.1,((2:Int),()))).bind fun y67 =>
 bif (inR y67.2.1 (List.length x501)) then
 (Fn.dk_Next (y67.1.1,((List.getD x501 (0+(Int.toNat y67.2.1)) (0:Int)),()))).bind fun y68 =>
 (Fn.mk_li ((0:Int),(y68.2.1,()))).bind fun y69 =>
 (Fn.dk_Next (y68.1.1,((2:Int),()))).bind fun y70 =>
 bif (inR y70.2.1 (List.length x503)) then
 (Fn.mk_sys ((List.getD x503 (0+(Int.toNat y70.2.1)) (0:Int)),())).bind fun y71 =>
 some ((y70.1.1,()),((List.cons y69.2.1 (List.cons y71.2.1 ([]:(List Instr)))),()))
 else none
 else none
 else
 bif (decide (y4.2.1=(18:Int))) then
 (Fn.dk_Next (y4.1.1,((4:Int),()))).bind fun y72 =>
 (Fn.mk_li ((5:Int),((IntKind.wrap .i64 ((1:Int)+y72.2.1)),()))).bind fun y73 =>
 (Fn.mk_li ((4:Int),((1:Int),()))).bind fun y74 =>
 some ((y72.1.1,()),((List.cons y73.2.1 (List.cons y74.2.1 x505)),()))
 else
 (Fn.dk_part_L39 ((a1,(a2,())),((y4.1.1,()),()))).bind some
 else
 bif (decide (y4.2.1=(8:Int))) then
 (Fn.dk_Next (y4.1.1,((3:Int),()))).bind fun y75 =>
 (Fn.mk_li ((0:Int),(y75.2.1,()))).bind fun y76 =>
 lt (List.cons y76.2.1 ([]:(List Instr))) fun x514 =>
 bif (Nat.ble ((List.length x514)+(List.length x506)) 4294967296) then
 (Fn.mk_sys ((13:Int),())).bind fun y77 =>
 lt (List.cons y77.2.1 ([]:(List Instr))) fun x515 =>
 bif (Nat.ble ((List.length (List.append x514 x506))+(List.length x515)) 4294967296) then
 some ((y75.1.1,()),((List.append (List.append x514 x506) x515),()))
 else none
 else none
 else
 bif (decide (y4.2.1=(9:Int))) then
 (Fn.dk_Next (y4.1.1,((3:Int),()))).bind fun y78 =>
 (Fn.mk_li ((0:Int),(y78.2.1,()))).bind fun y79 =>
 lt (List.cons y79.2.1 ([]:(List Instr))) fun x516 =>
 bif (Nat.ble ((List.length x516)+(List.length x506)) 4294967296) then
 (Fn.mk_sys ((14:Int),())).bind fun y80 =>
 (Fn.mk_mov ((3:Int),((0:Int),()))).bind fun y81 =>
 lt (List.cons y80.2.1 (List.cons y81.2.1 ([]:(List Instr)))) fun x517 =>
 bif (Nat.ble ((List.length (List.append x516 x506))+(List.length x517)) 4294967296) then
 some ((y78.1.1,()),((List.append (List.append x516 x506) x517),()))
 else none
 else none
 else
 bif (decide (y4.2.1=(10:Int))) then
 (Fn.dk_Next (y4.1.1,((3:Int),()))).bind fun y82 =>
 (Fn.mk_li ((0:Int),(y82.2.1,()))).bind fun y83 =>
 (Fn.dk_Next (y82.1.1,((4:Int),()))).bind fun y84 =>
 (Fn.mk_li ((1:Int),(y84.2.1,()))).bind fun y85 =>
 (Fn.mk_sys ((3:Int),())).bind fun y86 =>
 (Fn.mk_mov ((7:Int),((0:Int),()))).bind fun y87 =>
 some ((y84.1.1,()),((List.cons y83.2.1 (List.cons y85.2.1 (List.cons y86.2.1 (List.cons y87.2.1 ([]:(List Instr)))))),()))
 else
 bif (decide (y4.2.1=(11:Int))) then
 (Fn.mk_mov ((0:Int),((7:Int),()))).bind fun y88 =>
 lt (List.cons y88.2.1 ([]:(List Instr))) fun x518 =>
 bif (Nat.ble ((List.length x518)+(List.length x506)) 4294967296) then
 (Fn.dk_Next (y4.1.1,((2:Int),()))).bind fun y89 =>
 bif (inR y89.2.1 (List.length x502)) then
 (Fn.mk_sys ((List.getD x502 (0+(Int.toNat y89.2.1)) (0:Int)),())).bind fun y90 =>
 lt (List.cons y90.2.1 ([]:(List Instr))) fun x519 =>
 bif (Nat.ble ((List.length (List.append x518 x506))+(List.length x519)) 4294967296) then
 some ((y89.1.1,()),((List.append (List.append x518 x506) x519),()))
 else none
 else none
 else none
 else
 bif (decide (y4.2.1=(12:Int))) then
 (Fn.mk_mov ((0:Int),((7:Int),()))).bind fun y91 =>
 (Fn.mk_sys ((4:Int),())).bind fun y92 =>
 (Fn.mk_mov ((0:Int),((7:Int),()))).bind fun y93 =>
 (Fn.dk_Next (y4.1.1,((4:Int),()))).bind fun y94 =>
 (Fn.mk_li ((1:Int),(y94.2.1,()))).bind fun y95 =>
 (Fn.mk_sys ((5:Int),())).bind fun y96 =>
 (Fn.dk_Next (y94.1.1,((2:Int),()))).bind fun y97 =>
 lt (List.cons (List.cons y91.2.1 (List.cons y92.2.1 ([]:(List Instr)))) (List.cons (List.cons y93.2.1 (List.cons y95.2.1 (List.cons y96.2.1 ([]:(List Instr))))) ([]:(List (List Instr))))) fun x520 =>
 bif (inR y97.2.1 (List.length x520)) then
 some ((y97.1.1,()),((List.getD x520 (0+(Int.toNat y97.2.1)) ([]:(List Instr))),()))
 else none
 else
 bif (decide (y4.2.1=(13:Int))) then
 (Fn.dk_Next (y4.1.1,((3:Int),()))).bind fun y98 =>
 bif (inR y98.2.1 (List.length x504)) then
 (Fn.mk_sys ((List.getD x504 (0+(Int.toNat y98.2.1)) (0:Int)),())).bind fun y99 =>
 (Fn.dk_Next (y98.1.1,((3:Int),()))).bind fun y100 =>
 (Fn.mk_mov ((IntKind.wrap .i64 ((3:Int)+y100.2.1)),((0:Int),()))).bind fun y101 =>
 some ((y100.1.1,()),((List.cons y99.2.1 (List.cons y101.2.1 ([]:(List Instr)))),()))
 else none
 else
 bif (decide (y4.2.1=(14:Int))) then
 bif (decide (y4.2.1=(14:Int))) then
 (Fn.dk_Next (y4.1.1,((3:Int),()))).bind fun y102 =>
 (Fn.mk_li ((0:Int),(y102.2.1,()))).bind fun y103 =>
 (Fn.dk_Next (y102.1.1,((2:Int),()))).bind fun y104 =>
 bif (inR y104.2.1 (List.length (List.cons (8:Int) x498))) then
 (Fn.mk_sys ((List.getD (List.cons (8:Int) x498) (0+(Int.toNat y104.2.1)) (0:Int)),())).bind fun y105 =>
 some ((y104.1.1,()),((List.cons y103.2.1 (List.cons y105.2.1 ([]:(List Instr)))),()))
 else none
 else
 bif (decide (y4.2.1=(16:Int))) then
 (Fn.dk_Next (y4.1.1,(a2,()))).bind fun y106 =>
 (Fn.mk_li ((0:Int),(y106.2.1,()))).bind fun y107 =>
 (Fn.mk_mov ((1:Int),((3:Int),()))).bind fun y108 =>
 (Fn.mk_sys ((10:Int),())).bind fun y109 =>
 some ((y106.1.1,()),((List.cons y107.2.1 (List.cons y108.2.1 (List.cons y109.2.1 ([]:(List Instr))))),()))
 else
 bif (decide (y4.2.1=(17:Int))) then
 (Fn.dk_Next (y4.1.1,((2:Int),()))).bind fun y110 =>
 bif (inR y110.2.1 (List.length x501)) then
 (Fn.dk_Next (y110.1.1,((List.getD x501 (0+(Int.toNat y110.2.1)) (0:Int)),()))).bind fun y111 =>
 (Fn.mk_li ((0:Int),(y111.2.1,()))).bind fun y112 =>
 (Fn.dk_Next (y111.1.1,((2:Int),()))).bind fun y113 =>
 bif (inR y113.2.1 (List.length x503)) then
 (Fn.mk_sys ((List.getD x503 (0+(Int.toNat y113.2.1)) (0:Int)),())).bind fun y114 =>
 some ((y113.1.1,()),((List.cons y112.2.1 (List.cons y114.2.1 ([]:(List Instr)))),()))
 else none
 else none
 else
 bif (decide (y4.2.1=(18:Int))) then
 (Fn.dk_Next (y4.1.1,((4:Int),()))).bind fun y115 =>
 (Fn.mk_li ((5:Int),((IntKind.wrap .i64 ((1:Int)+y115.2.1)),()))).bind fun y116 =>
 (Fn.mk_li ((4:Int),((1:Int),()))).bind fun y117 =>
 some ((y115.1.1,()),((List.cons y116.2.1 (List.cons y117.2.1 x505)),()))
 else
 (Fn.dk_part_L39 ((a1,(a2,())),((y4.1.1,()),()))).bind some
 else
 bif (decide (y4.2.1=(15:Int))) then
 (Fn.dk_Next (y4.1.1,((3:Int),()))).bind fun y118 =>
 (Fn.mk_li ((0:Int),(y118.2.1,()))).bind fun y119 =>
 (Fn.dk_Next (y118.1.1,((2:Int),()))).bind fun y120 =>
 bif (inR y120.2.1 (List.length (List.cons (8:Int) x498))) then
 (Fn.mk_sys ((List.getD (List.cons (8:Int) x498) (0+(Int.toNat y120.2.1)) (0:Int)),())).bind fun y121 =>
 some ((y120.1.1,()),((List.cons y119.2.1 (List.cons y121.2.1 ([]:(List Instr)))),()))
 else none
 else
 bif (decide (y4.2.1=(16:Int))) then
 (Fn.dk_Next (y4.1.1,(a2,()))).bind fun y122 =>
 (Fn.mk_li ((0:Int),(y122.2.1,()))).bind fun y123 =>
 (Fn.mk_mov ((1:Int),((3:Int),()))).bind fun y124 =>
 (Fn.mk_sys ((10:Int),())).bind fun y125 =>
 some ((y122.1.1,()),((List.cons y123.2.1 (List.cons y124.2.1 (List.cons y125.2.1 ([]:(List Instr))))),()))
 else
 bif (decide (y4.2.1=(17:Int))) then
 (Fn.dk_Next (y4.1.1,((2:Int),()))).bind fun y126 =>
 bif (inR y126.2.1 (List.length x501)) then
 (Fn.dk_Next (y126.1.1,((List.getD x501 (0+(Int.toNat y126.2.1)) (0:Int)),()))).bind fun y127 =>
 (Fn.mk_li ((0:Int),(y127.2.1,()))).bind fun y128 =>
 (Fn.dk_Next (y127.1.1,((2:Int),()))).bind fun y129 =>
 bif (inR y129.2.1 (List.length x503)) then
 (Fn.mk_sys ((List.getD x503 (0+(Int.toNat y129.2.1)) (0:Int)),())).bind fun y130 =>
 some ((y129.1.1,()),((List.cons y128.2.1 (List.cons y130.2.1 ([]:(List Instr)))),()))
 else none
 else none
 else
 bif (decide (y4.2.1=(18:Int))) then
 (Fn.dk_Next (y4.1.1,((4:Int),()))).bind fun y131 =>
 (Fn.mk_li ((5:Int),((IntKind.wrap .i64 ((1:Int)+y131.2.1)),()))).bind fun y132 =>
 (Fn.mk_li ((4:Int),((1:Int),()))).bind fun y133 =>
 some ((y131.1.1,()),((List.cons y132.2.1 (List.cons y133.2.1 x505)),()))
 else
 (Fn.dk_part_L39 ((a1,(a2,())),((y4.1.1,()),()))).bind some
 else
 bif (decide (y4.2.1=(6:Int))) then
 (Fn.dk_Next (y4.1.1,((4:Int),()))).bind fun y134 =>
 bif (inR y1.2.1 (List.length a1)) then
 (Fn.dk_Next (y134.1.1,(x496,()))).bind fun y135 =>
 some ((y135.1.1,()),((List.cons x500 (List.cons ((16:Int),((IntKind.wrap .i64 ((3:Int)+y134.2.1)),((6:Int),((0:Int),y135.2.1)))) ([]:(List Instr)))),()))
 else none
 else
 bif (decide (y4.2.1=(7:Int))) then
 bif (decide (y4.2.1=(7:Int))) then
 (Fn.dk_Next (y4.1.1,((3:Int),()))).bind fun y136 =>
 (Fn.mk_li ((0:Int),(y136.2.1,()))).bind fun y137 =>
 lt (List.cons y137.2.1 ([]:(List Instr))) fun x521 =>
 bif (Nat.ble ((List.length x521)+(List.length x506)) 4294967296) then
 (Fn.mk_sys ((13:Int),())).bind fun y138 =>
 lt (List.cons y138.2.1 ([]:(List Instr))) fun x522 =>
 bif (Nat.ble ((List.length (List.append x521 x506))+(List.length x522)) 4294967296) then
 some ((y136.1.1,()),((List.append (List.append x521 x506) x522),()))
 else none
 else none
 else
 bif (decide (y4.2.1=(9:Int))) then
 (Fn.dk_Next (y4.1.1,((3:Int),()))).bind fun y139 =>
 (Fn.mk_li ((0:Int),(y139.2.1,()))).bind fun y140 =>
 lt (List.cons y140.2.1 ([]:(List Instr))) fun x523 =>
 bif (Nat.ble ((List.length x523)+(List.length x506)) 4294967296) then
 (Fn.mk_sys ((14:Int),())).bind fun y141 =>
 (Fn.mk_mov ((3:Int),((0:Int),()))).bind fun y142 =>
 lt (List.cons y141.2.1 (List.cons y142.2.1 ([]:(List Instr)))) fun x524 =>
 bif (Nat.ble ((List.length (List.append x523 x506))+(List.length x524)) 4294967296) then
 some ((y139.1.1,()),((List.append (List.append x523 x506) x524),()))
 else none
 else none
 else
 bif (decide (y4.2.1=(10:Int))) then
 (Fn.dk_Next (y4.1.1,((3:Int),()))).bind fun y143 =>
 (Fn.mk_li ((0:Int),(y143.2.1,()))).bind fun y144 =>
 (Fn.dk_Next (y143.1.1,((4:Int),()))).bind fun y145 =>
 (Fn.mk_li ((1:Int),(y145.2.1,()))).bind fun y146 =>
 (Fn.mk_sys ((3:Int),())).bind fun y147 =>
 (Fn.mk_mov ((7:Int),((0:Int),()))).bind fun y148 =>
 some ((y145.1.1,()),((List.cons y144.2.1 (List.cons y146.2.1 (List.cons y147.2.1 (List.cons y148.2.1 ([]:(List Instr)))))),()))
 else
 bif (decide (y4.2.1=(11:Int))) then
 (Fn.mk_mov ((0:Int),((7:Int),()))).bind fun y149 =>
 lt (List.cons y149.2.1 ([]:(List Instr))) fun x525 =>
 bif (Nat.ble ((List.length x525)+(List.length x506)) 4294967296) then
 (Fn.dk_Next (y4.1.1,((2:Int),()))).bind fun y150 =>
 bif (inR y150.2.1 (List.length x502)) then
 (Fn.mk_sys ((List.getD x502 (0+(Int.toNat y150.2.1)) (0:Int)),())).bind fun y151 =>
 lt (List.cons y151.2.1 ([]:(List Instr))) fun x526 =>
 bif (Nat.ble ((List.length (List.append x525 x506))+(List.length x526)) 4294967296) then
 some ((y150.1.1,()),((List.append (List.append x525 x506) x526),()))
 else none
 else none
 else none
 else
 bif (decide (y4.2.1=(12:Int))) then
 (Fn.mk_mov ((0:Int),((7:Int),()))).bind fun y152 =>
 (Fn.mk_sys ((4:Int),())).bind fun y153 =>
 (Fn.mk_mov ((0:Int),((7:Int),()))).bind fun y154 =>
 (Fn.dk_Next (y4.1.1,((4:Int),()))).bind fun y155 =>
 (Fn.mk_li ((1:Int),(y155.2.1,()))).bind fun y156 =>
 (Fn.mk_sys ((5:Int),())).bind fun y157 =>
 (Fn.dk_Next (y155.1.1,((2:Int),()))).bind fun y158 =>
 lt (List.cons (List.cons y152.2.1 (List.cons y153.2.1 ([]:(List Instr)))) (List.cons (List.cons y154.2.1 (List.cons y156.2.1 (List.cons y157.2.1 ([]:(List Instr))))) ([]:(List (List Instr))))) fun x527 =>
 bif (inR y158.2.1 (List.length x527)) then
 some ((y158.1.1,()),((List.getD x527 (0+(Int.toNat y158.2.1)) ([]:(List Instr))),()))
 else none
 else
 bif (decide (y4.2.1=(13:Int))) then
 (Fn.dk_Next (y4.1.1,((3:Int),()))).bind fun y159 =>
 bif (inR y159.2.1 (List.length x504)) then
 (Fn.mk_sys ((List.getD x504 (0+(Int.toNat y159.2.1)) (0:Int)),())).bind fun y160 =>
 (Fn.dk_Next (y159.1.1,((3:Int),()))).bind fun y161 =>
 (Fn.mk_mov ((IntKind.wrap .i64 ((3:Int)+y161.2.1)),((0:Int),()))).bind fun y162 =>
 some ((y161.1.1,()),((List.cons y160.2.1 (List.cons y162.2.1 ([]:(List Instr)))),()))
 else none
 else
 bif (decide (y4.2.1=(14:Int))) then
 bif (decide (y4.2.1=(14:Int))) then
 (Fn.dk_Next (y4.1.1,((3:Int),()))).bind fun y163 =>
 (Fn.mk_li ((0:Int),(y163.2.1,()))).bind fun y164 =>
 (Fn.dk_Next (y163.1.1,((2:Int),()))).bind fun y165 =>
 bif (inR y165.2.1 (List.length (List.cons (8:Int) x498))) then
 (Fn.mk_sys ((List.getD (List.cons (8:Int) x498) (0+(Int.toNat y165.2.1)) (0:Int)),())).bind fun y166 =>
 some ((y165.1.1,()),((List.cons y164.2.1 (List.cons y166.2.1 ([]:(List Instr)))),()))
 else none
 else
 bif (decide (y4.2.1=(16:Int))) then
 (Fn.dk_Next (y4.1.1,(a2,()))).bind fun y167 =>
 (Fn.mk_li ((0:Int),(y167.2.1,()))).bind fun y168 =>
 (Fn.mk_mov ((1:Int),((3:Int),()))).bind fun y169 =>
 (Fn.mk_sys ((10:Int),())).bind fun y170 =>
 some ((y167.1.1,()),((List.cons y168.2.1 (List.cons y169.2.1 (List.cons y170.2.1 ([]:(List Instr))))),()))
 else
 bif (decide (y4.2.1=(17:Int))) then
 (Fn.dk_Next (y4.1.1,((2:Int),()))).bind fun y171 =>
 bif (inR y171.2.1 (List.length x501)) then
 (Fn.dk_Next (y171.1.1,((List.getD x501 (0+(Int.toNat y171.2.1)) (0:Int)),()))).bind fun y172 =>
 (Fn.mk_li ((0:Int),(y172.2.1,()))).bind fun y173 =>
 (Fn.dk_Next (y172.1.1,((2:Int),()))).bind fun y174 =>
 bif (inR y174.2.1 (List.length x503)) then
 (Fn.mk_sys ((List.getD x503 (0+(Int.toNat y174.2.1)) (0:Int)),())).bind fun y175 =>
 some ((y174.1.1,()),((List.cons y173.2.1 (List.cons y175.2.1 ([]:(List Instr)))),()))
 else none
 else none
 else
 bif (decide (y4.2.1=(18:Int))) then
 (Fn.dk_Next (y4.1.1,((4:Int),()))).bind fun y176 =>
 (Fn.mk_li ((5:Int),((IntKind.wrap .i64 ((1:Int)+y176.2.1)),()))).bind fun y177 =>
 (Fn.mk_li ((4:Int),((1:Int),()))).bind fun y178 =>
 some ((y176.1.1,()),((List.cons y177.2.1 (List.cons y178.2.1 x505)),()))
 else
 (Fn.dk_part_L39 ((a1,(a2,())),((y4.1.1,()),()))).bind some
 else
 bif (decide (y4.2.1=(15:Int))) then
 (Fn.dk_Next (y4.1.1,((3:Int),()))).bind fun y179 =>
 (Fn.mk_li ((0:Int),(y179.2.1,()))).bind fun y180 =>
 (Fn.dk_Next (y179.1.1,((2:Int),()))).bind fun y181 =>
 bif (inR y181.2.1 (List.length (List.cons (8:Int) x498))) then
 (Fn.mk_sys ((List.getD (List.cons (8:Int) x498) (0+(Int.toNat y181.2.1)) (0:Int)),())).bind fun y182 =>
 some ((y181.1.1,()),((List.cons y180.2.1 (List.cons y182.2.1 ([]:(List Instr)))),()))
 else none
 else
 bif (decide (y4.2.1=(16:Int))) then
 (Fn.dk_Next (y4.1.1,(a2,()))).bind fun y183 =>
 (Fn.mk_li ((0:Int),(y183.2.1,()))).bind fun y184 =>
 (Fn.mk_mov ((1:Int),((3:Int),()))).bind fun y185 =>
 (Fn.mk_sys ((10:Int),())).bind fun y186 =>
 some ((y183.1.1,()),((List.cons y184.2.1 (List.cons y185.2.1 (List.cons y186.2.1 ([]:(List Instr))))),()))
 else
 bif (decide (y4.2.1=(17:Int))) then
 (Fn.dk_Next (y4.1.1,((2:Int),()))).bind fun y187 =>
 bif (inR y187.2.1 (List.length x501)) then
 (Fn.dk_Next (y187.1.1,((List.getD x501 (0+(Int.toNat y187.2.1)) (0:Int)),()))).bind fun y188 =>
 (Fn.mk_li ((0:Int),(y188.2.1,()))).bind fun y189 =>
 (Fn.dk_Next (y188.1.1,((2:Int),()))).bind fun y190 =>
 bif (inR y190.2.1 (List.length x503)) then
 (Fn.mk_sys ((List.getD x503 (0+(Int.toNat y190.2.1)) (0:Int)),())).bind fun y191 =>
 some ((y190.1.1,()),((List.cons y189.2.1 (List.cons y191.2.1 ([]:(List Instr)))),()))
 else none
 else none
 else
 bif (decide (y4.2.1=(18:Int))) then
 (Fn.dk_Next (y4.1.1,((4:Int),()))).bind fun y192 =>
 (Fn.mk_li ((5:Int),((IntKind.wrap .i64 ((1:Int)+y192.2.1)),()))).bind fun y193 =>
 (Fn.mk_li ((4:Int),((1:Int),()))).bind fun y194 =>
 some ((y192.1.1,()),((List.cons y193.2.1 (List.cons y194.2.1 x505)),()))
 else
 (Fn.dk_part_L39 ((a1,(a2,())),((y4.1.1,()),()))).bind some
 else
 bif (decide (y4.2.1=(8:Int))) then
 (Fn.dk_Next (y4.1.1,((3:Int),()))).bind fun y195 =>
 (Fn.mk_li ((0:Int),(y195.2.1,()))).bind fun y196 =>
 lt (List.cons y196.2.1 ([]:(List Instr))) fun x528 =>
 bif (Nat.ble ((List.length x528)+(List.length x506)) 4294967296) then
 (Fn.mk_sys ((13:Int),())).bind fun y197 =>
 lt (List.cons y197.2.1 ([]:(List Instr))) fun x529 =>
 bif (Nat.ble ((List.length (List.append x528 x506))+(List.length x529)) 4294967296) then
 some ((y195.1.1,()),((List.append (List.append x528 x506) x529),()))
 else none
 else none
 else
 bif (decide (y4.2.1=(9:Int))) then
 (Fn.dk_Next (y4.1.1,((3:Int),()))).bind fun y198 =>
 (Fn.mk_li ((0:Int),(y198.2.1,()))).bind fun y199 =>
 lt (List.cons y199.2.1 ([]:(List Instr))) fun x530 =>
 bif (Nat.ble ((List.length x530)+(List.length x506)) 4294967296) then
 (Fn.mk_sys ((14:Int),())).bind fun y200 =>
 (Fn.mk_mov ((3:Int),((0:Int),()))).bind fun y201 =>
 lt (List.cons y200.2.1 (List.cons y201.2.1 ([]:(List Instr)))) fun x531 =>
 bif (Nat.ble ((List.length (List.append x530 x506))+(List.length x531)) 4294967296) then
 some ((y198.1.1,()),((List.append (List.append x530 x506) x531),()))
 else none
 else none
 else
 bif (decide (y4.2.1=(10:Int))) then
 (Fn.dk_Next (y4.1.1,((3:Int),()))).bind fun y202 =>
 (Fn.mk_li ((0:Int),(y202.2.1,()))).bind fun y203 =>
 (Fn.dk_Next (y202.1.1,((4:Int),()))).bind fun y204 =>
 (Fn.mk_li ((1:Int),(y204.2.1,()))).bind fun y205 =>
 (Fn.mk_sys ((3:Int),())).bind fun y206 =>
 (Fn.mk_mov ((7:Int),((0:Int),()))).bind fun y207 =>
 some ((y204.1.1,()),((List.cons y203.2.1 (List.cons y205.2.1 (List.cons y206.2.1 (List.cons y207.2.1 ([]:(List Instr)))))),()))
 else
 bif (decide (y4.2.1=(11:Int))) then
 (Fn.mk_mov ((0:Int),((7:Int),()))).bind fun y208 =>
 lt (List.cons y208.2.1 ([]:(List Instr))) fun x532 =>
 bif (Nat.ble ((List.length x532)+(List.length x506)) 4294967296) then
 (Fn.dk_Next (y4.1.1,((2:Int),()))).bind fun y209 =>
 bif (inR y209.2.1 (List.length x502)) then
 (Fn.mk_sys ((List.getD x502 (0+(Int.toNat y209.2.1)) (0:Int)),())).bind fun y210 =>
 lt (List.cons y210.2.1 ([]:(List Instr))) fun x533 =>
 bif (Nat.ble ((List.length (List.append x532 x506))+(List.length x533)) 4294967296) then
 some ((y209.1.1,()),((List.append (List.append x532 x506) x533),()))
 else none
 else none
 else none
 else
 bif (decide (y4.2.1=(12:Int))) then
 (Fn.mk_mov ((0:Int),((7:Int),()))).bind fun y211 =>
 (Fn.mk_sys ((4:Int),())).bind fun y212 =>
 (Fn.mk_mov ((0:Int),((7:Int),()))).bind fun y213 =>
 (Fn.dk_Next (y4.1.1,((4:Int),()))).bind fun y214 =>
 (Fn.mk_li ((1:Int),(y214.2.1,()))).bind fun y215 =>
 (Fn.mk_sys ((5:Int),())).bind fun y216 =>
 (Fn.dk_Next (y214.1.1,((2:Int),()))).bind fun y217 =>
 lt (List.cons (List.cons y211.2.1 (List.cons y212.2.1 ([]:(List Instr)))) (List.cons (List.cons y213.2.1 (List.cons y215.2.1 (List.cons y216.2.1 ([]:(List Instr))))) ([]:(List (List Instr))))) fun x534 =>
 bif (inR y217.2.1 (List.length x534)) then
 some ((y217.1.1,()),((List.getD x534 (0+(Int.toNat y217.2.1)) ([]:(List Instr))),()))
 else none
 else
 bif (decide (y4.2.1=(13:Int))) then
 (Fn.dk_Next (y4.1.1,((3:Int),()))).bind fun y218 =>
 bif (inR y218.2.1 (List.length x504)) then
 (Fn.mk_sys ((List.getD x504 (0+(Int.toNat y218.2.1)) (0:Int)),())).bind fun y219 =>
 (Fn.dk_Next (y218.1.1,((3:Int),()))).bind fun y220 =>
 (Fn.mk_mov ((IntKind.wrap .i64 ((3:Int)+y220.2.1)),((0:Int),()))).bind fun y221 =>
 some ((y220.1.1,()),((List.cons y219.2.1 (List.cons y221.2.1 ([]:(List Instr)))),()))
 else none
 else
 bif (decide (y4.2.1=(14:Int))) then
 bif (decide (y4.2.1=(14:Int))) then
 (Fn.dk_Next (y4.1.1,((3:Int),()))).bind fun y222 =>
 (Fn.mk_li ((0:Int),(y222.2.1,()))).bind fun y223 =>
 (Fn.dk_Next (y222.1.1,((2:Int),()))).bind fun y224 =>
 bif (inR y224.2.1 (List.length (List.cons (8:Int) x498))) then
 (Fn.mk_sys ((List.getD (List.cons (8:Int) x498) (0+(Int.toNat y224.2.1)) (0:Int)),())).bind fun y225 =>
 some ((y224.1.1,()),((List.cons y223.2.1 (List.cons y225.2.1 ([]:(List Instr)))),()))
 else none
 else
 bif (decide (y4.2.1=(16:Int))) then
 (Fn.dk_Next (y4.1.1,(a2,()))).bind fun y226 =>
 (Fn.mk_li ((0:Int),(y226.2.1,()))).bind fun y227 =>
 (Fn.mk_mov ((1:Int),((3:Int),()))).bind fun y228 =>
 (Fn.mk_sys ((10:Int),())).bind fun y229 =>
 some ((y226.1.1,()),((List.cons y227.2.1 (List.cons y228.2.1 (List.cons y229.2.1 ([]:(List Instr))))),()))
 else
 bif (decide (y4.2.1=(17:Int))) then
 (Fn.dk_Next (y4.1.1,((2:Int),()))).bind fun y230 =>
 bif (inR y230.2.1 (List.length x501)) then
 (Fn.dk_Next (y230.1.1,((List.getD x501 (0+(Int.toNat y230.2.1)) (0:Int)),()))).bind fun y231 =>
 (Fn.mk_li ((0:Int),(y231.2.1,()))).bind fun y232 =>
 (Fn.dk_Next (y231.1.1,((2:Int),()))).bind fun y233 =>
 bif (inR y233.2.1 (List.length x503)) then
 (Fn.mk_sys ((List.getD x503 (0+(Int.toNat y233.2.1)) (0:Int)),())).bind fun y234 =>
 some ((y233.1.1,()),((List.cons y232.2.1 (List.cons y234.2.1 ([]:(List Instr)))),()))
 else none
 else none
 else
 bif (decide (y4.2.1=(18:Int))) then
 (Fn.dk_Next (y4.1.1,((4:Int),()))).bind fun y235 =>
 (Fn.mk_li ((5:Int),((IntKind.wrap .i64 ((1:Int)+y235.2.1)),()))).bind fun y236 =>
 (Fn.mk_li ((4:Int),((1:Int),()))).bind fun y237 =>
 some ((y235.1.1,()),((List.cons y236.2.1 (List.cons y237.2.1 x505)),()))
 else
 (Fn.dk_part_L39 ((a1,(a2,())),((y4.1.1,()),()))).bind some
 else
 bif (decide (y4.2.1=(15:Int))) then
 (Fn.dk_Next (y4.1.1,((3:Int),()))).bind fun y238 =>
 (Fn.mk_li ((0:Int),(y238.2.1,()))).bind fun y239 =>
 (Fn.dk_Next (y238.1.1,((2:Int),()))).bind fun y240 =>
 bif (inR y240.2.1 (List.length (List.cons (8:Int) x498))) then
 (Fn.mk_sys ((List.getD (List.cons (8:Int) x498) (0+(Int.toNat y240.2.1)) (0:Int)),())).bind fun y241 =>
 some ((y240.1.1,()),((List.cons y239.2.1 (List.cons y241.2.1 ([]:(List Instr)))),()))
 else none
 else
 bif (decide (y4.2.1=(16:Int))) then
 (Fn.dk_Next (y4.1.1,(a2,()))).bind fun y242 =>
 (Fn.mk_li ((0:Int),(y242.2.1,()))).bind fun y243 =>
 (Fn.mk_mov ((1:Int),((3:Int),()))).bind fun y244 =>
 (Fn.mk_sys ((10:Int),())).bind fun y245 =>
 some ((y242.1.1,()),((List.cons y243.2.1 (List.cons y244.2.1 (List.cons y245.2.1 ([]:(List Instr))))),()))
 else
 bif (decide (y4.2.1=(17:Int))) then
 (Fn.dk_Next (y4.1.1,((2:Int),()))).bind fun y246 =>
 bif (inR y246.2.1 (List.length x501)) then
 (Fn.dk_Next (y246.1.1,((List.getD x501 (0+(Int.toNat y246.2.1)) (0:Int)),()))).bind fun y247 =>
 (Fn.mk_li ((0:Int),(y247.2.1,()))).bind fun y248 =>
 (Fn.dk_Next (y247.1.1,((2:Int),()))).bind fun y249 =>
 bif (inR y249.2.1 (List.length x503)) then
 (Fn.mk_sys ((List.getD x503 (0+(Int.toNat y249.2.1)) (0:Int)),())).bind fun y250 =>
 some ((y249.1.1,()),((List.cons y248.2.1 (List.cons y250.2.1 ([]:(List Instr)))),()))
 else none
 else none
 else
 bif (decide (y4.2.1=(18:Int))) then
 (Fn.dk_Next (y4.1.1,((4:Int),()))).bind fun y251 =>
 (Fn.mk_li ((5:Int),((IntKind.wrap .i64 ((1:Int)+y251.2.1)),()))).bind fun y252 =>
 (Fn.mk_li ((4:Int),((1:Int),()))).bind fun y253 =>
 some ((y251.1.1,()),((List.cons y252.2.1 (List.cons y253.2.1 x505)),()))
 else
 (Fn.dk_part_L39 ((a1,(a2,())),((y4.1.1,()),()))).bind some
 else
 bif (decide (y4.2.1=(4:Int))) then
 (Fn.dk_Next (y4.1.1,((5:Int),()))).bind fun y254 =>
 bif (inR y1.2.1 (List.length a1)) then
 (Fn.dk_Next (y254.1.1,(x496,()))).bind fun y255 =>
 some ((y255.1.1,()),((List.cons x500 (List.cons ((17:Int),((6:Int),((IntKind.wrap .i64 ((3:Int)+y254.2.1)),((0:Int),y255.2.1)))) ([]:(List Instr)))),()))
 else none
 else
 bif (decide (y4.2.1=(5:Int))) then
 bif (decide (y4.2.1=(5:Int))) then
 (Fn.dk_Next (y4.1.1,((4:Int),()))).bind fun y256 =>
 bif (inR y1.2.1 (List.length a1)) then
 (Fn.dk_Next (y256.1.1,(x496,()))).bind fun y257 =>
 some ((y257.1.1,()),((List.cons x500 (List.cons ((16:Int),((IntKind.wrap .i64 ((3:Int)+y256.2.1)),((6:Int),((0:Int),y257.2.1)))) ([]:(List Instr)))),()))
 else none
 else
 bif (decide (y4.2.1=(7:Int))) then
 bif (decide (y4.2.1=(7:Int))) then
 (Fn.dk_Next (y4.1.1,((3:Int),()))).bind fun y258 =>
 (Fn.mk_li ((0:Int),(y258.2.1,()))).bind fun y259 =>
 lt (List.cons y259.2.1 ([]:(List Instr))) fun x535 =>
 bif (Nat.ble ((List.length x535)+(List.length x506)) 4294967296) then
 (Fn.mk_sys ((13:Int),())).bind fun y260 =>
 lt (List.cons y260.2.1 ([]:(List Instr))) fun x536 =>
 bif (Nat.ble ((List.length (List.append x535 x506))+(List.length x536)) 4294967296) then
 some ((y258.1.1,()),((List.append (List.append x535 x506) x536),()))
 else none
 else none
 else
 bif (decide (y4.2.1=(9:Int))) then
 (Fn.dk_Next (y4.1.1,((3:Int),()))).bind fun y261 =>
 (Fn.mk_li ((0:Int),(y261.2.1,()))).bind fun y262 =>
 lt (List.cons y262.2.1 ([]:(List Instr))) fun x537 =>
 bif (Nat.ble ((List.length x537)+(List.length x506)) 4294967296) then
 (Fn.mk_sys ((14:Int),())).bind fun y263 =>
 (Fn.mk_mov ((3:Int),((0:Int),()))).bind fun y264 =>
 lt (List.cons y263.2.1 (List.cons y264.2.1 ([]:(List Instr)))) fun x538 =>
 bif (Nat.ble ((List.length (List.append x537 x506))+(List.length x538)) 4294967296) then
 some ((y261.1.1,()),((List.append (List.append x537 x506) x538),()))
 else none
 else none
 else
 bif (decide (y4.2.1=(10:Int))) then
 (Fn.dk_Next (y4.1.1,((3:Int),()))).bind fun y265 =>
 (Fn.mk_li ((0:Int),(y265.2.1,()))).bind fun y266 =>
 (Fn.dk_Next (y265.1.1,((4:Int),()))).bind fun y267 =>
 (Fn.mk_li ((1:Int),(y267.2.1,()))).bind fun y268 =>
 (Fn.mk_sys ((3:Int),())).bind fun y269 =>
 (Fn.mk_mov ((7:Int),((0:Int),()))).bind fun y270 =>
 some ((y267.1.1,()),((List.cons y266.2.1 (List.cons y268.2.1 (List.cons y269.2.1 (List.cons y270.2.1 ([]:(List Instr)))))),()))
 else
 bif (decide (y4.2.1=(11:Int))) then
 (Fn.mk_mov ((0:Int),((7:Int),()))).bind fun y271 =>
 lt (List.cons y271.2.1 ([]:(List Instr))) fun x539 =>
 bif (Nat.ble ((List.length x539)+(List.length x506)) 4294967296) then
 (Fn.dk_Next (y4.1.1,((2:Int),()))).bind fun y272 =>
 bif (inR y272.2.1 (List.length x502)) then
 (Fn.mk_sys ((List.getD x502 (0+(Int.toNat y272.2.1)) (0:Int)),())).bind fun y273 =>
 lt (List.cons y273.2.1 ([]:(List Instr))) fun x540 =>
 bif (Nat.ble ((List.length (List.append x539 x506))+(List.length x540)) 4294967296) then
 some ((y272.1.1,()),((List.append (List.append x539 x506) x540),()))
 else none
 else none
 else none
 else
 bif (decide (y4.2.1=(12:Int))) then
 (Fn.mk_mov ((0:Int),((7:Int),()))).bind fun y274 =>
 (Fn.mk_sys ((4:Int),())).bind fun y275 =>
 (Fn.mk_mov ((0:Int),((7:Int),()))).bind fun y276 =>
 (Fn.dk_Next (y4.1.1,((4:Int),()))).bind fun y277 =>
 (Fn.mk_li ((1:Int),(y277.2.1,()))).bind fun y278 =>
 (Fn.mk_sys ((5:Int),())).bind fun y279 =>
 (Fn.dk_Next (y277.1.1,((2:Int),()))).bind fun y280 =>
 lt (List.cons (List.cons y274.2.1 (List.cons y275.2.1 ([]:(List Instr)))) (List.cons (List.cons y276.2.1 (List.cons y278.2.1 (List.cons y279.2.1 ([]:(List Instr))))) ([]:(List (List Instr))))) fun x541 =>
 bif (inR y280.2.1 (List.length x541)) then
 some ((y280.1.1,()),((List.getD x541 (0+(Int.toNat y280.2.1)) ([]:(List Instr))),()))
 else none
 else
 bif (decide (y4.2.1=(13:Int))) then
 (Fn.dk_Next (y4.1.1,((3:Int),()))).bind fun y281 =>
 bif (inR y281.2.1 (List.length x504)) then
 (Fn.mk_sys ((List.getD x504 (0+(Int.toNat y281.2.1)) (0:Int)),())).bind fun y282 =>
 (Fn.dk_Next (y281.1.1,((3:Int),()))).bind fun y283 =>
 (Fn.mk_mov ((IntKind.wrap .i64 ((3:Int)+y283.2.1)),((0:Int),()))).bind fun y284 =>
 some ((y283.1.1,()),((List.cons y282.2.1 (List.cons y284.2.1 ([]:(List Instr)))),()))
 else none
 else
 bif (decide (y4.2.1=(14:Int))) then
 bif (decide (y4.2.1=(14:Int))) then
 (Fn.dk_Next (y4.1.1,((3:Int),()))).bind fun y285 =>
 (Fn.mk_li ((0:Int),(y285.2.1,()))).bind fun y286 =>
 (Fn.dk_Next (y285.1.1,((2:Int),()))).bind fun y287 =>
 bif (inR y287.2.1 (List.length (List.cons (8:Int) x498))) then
 (Fn.mk_sys ((List.getD (List.cons (8:Int) x498) (0+(Int.toNat y287.2.1)) (0:Int)),())).bind fun y288 =>
 some ((y287.1.1,()),((List.cons y286.2.1 (List.cons y288.2.1 ([]:(List Instr)))),()))
 else none
 else
 bif (decide (y4.2.1=(16:Int))) then
 (Fn.dk_Next (y4.1.1,(a2,()))).bind fun y289 =>
 (Fn.mk_li ((0:Int),(y289.2.1,()))).bind fun y290 =>
 (Fn.mk_mov ((1:Int),((3:Int),()))).bind fun y291 =>
 (Fn.mk_sys ((10:Int),())).bind fun y292 =>
 some ((y289.1.1,()),((List.cons y290.2.1 (List.cons y291.2.1 (List.cons y292.2.1 ([]:(List Instr))))),()))
 else
 bif (decide (y4.2.1=(17:Int))) then
 (Fn.dk_Next (y4.1.1,((2:Int),()))).bind fun y293 =>
 bif (inR y293.2.1 (List.length x501)) then
 (Fn.dk_Next (y293.1.1,((List.getD x501 (0+(Int.toNat y293.2.1)) (0:Int)),()))).bind fun y294 =>
 (Fn.mk_li ((0:Int),(y294.2.1,()))).bind fun y295 =>
 (Fn.dk_Next (y294.1.1,((2:Int),()))).bind fun y296 =>
 bif (inR y296.2.1 (List.length x503)) then
 (Fn.mk_sys ((List.getD x503 (0+(Int.toNat y296.2.1)) (0:Int)),())).bind fun y297 =>
 some ((y296.1.1,()),((List.cons y295.2.1 (List.cons y297.2.1 ([]:(List Instr)))),()))
 else none
 else none
 else
 bif (decide (y4.2.1=(18:Int))) then
 (Fn.dk_Next (y4.1.1,((4:Int),()))).bind fun y298 =>
 (Fn.mk_li ((5:Int),((IntKind.wrap .i64 ((1:Int)+y298.2.1)),()))).bind fun y299 =>
 (Fn.mk_li ((4:Int),((1:Int),()))).bind fun y300 =>
 some ((y298.1.1,()),((List.cons y299.2.1 (List.cons y300.2.1 x505)),()))
 else
 (Fn.dk_part_L39 ((a1,(a2,())),((y4.1.1,()),()))).bind some
 else
 bif (decide (y4.2.1=(15:Int))) then
 (Fn.dk_Next (y4.1.1,((3:Int),()))).bind fun y301 =>
 (Fn.mk_li ((0:Int),(y301.2.1,()))).bind fun y302 =>
 (Fn.dk_Next (y301.1.1,((2:Int),()))).bind fun y303 =>
 bif (inR y303.2.1 (List.length (List.cons (8:Int) x498))) then
 (Fn.mk_sys ((List.getD (List.cons (8:Int) x498) (0+(Int.toNat y303.2.1)) (0:Int)),())).bind fun y304 =>
 some ((y303.1.1,()),((List.cons y302.2.1 (List.cons y304.2.1 ([]:(List Instr)))),()))
 else none
 else
 bif (decide (y4.2.1=(16:Int))) then
 (Fn.dk_Next (y4.1.1,(a2,()))).bind fun y305 =>
 (Fn.mk_li ((0:Int),(y305.2.1,()))).bind fun y306 =>
 (Fn.mk_mov ((1:Int),((3:Int),()))).bind fun y307 =>
 (Fn.mk_sys ((10:Int),())).bind fun y308 =>
 some ((y305.1.1,()),((List.cons y306.2.1 (List.cons y307.2.1 (List.cons y308.2.1 ([]:(List Instr))))),()))
 else
 bif (decide (y4.2.1=(17:Int))) then
 (Fn.dk_Next (y4.1.1,((2:Int),()))).bind fun y309 =>
 bif (inR y309.2.1 (List.length x501)) then
 (Fn.dk_Next (y309.1.1,((List.getD x501 (0+(Int.toNat y309.2.1)) (0:Int)),()))).bind fun y310 =>
 (Fn.mk_li ((0:Int),(y310.2.1,()))).bind fun y311 =>
 (Fn.dk_Next (y310.1.1,((2:Int),()))).bind fun y312 =>
 bif (inR y312.2.1 (List.length x503)) then
 (Fn.mk_sys ((List.getD x503 (0+(Int.toNat y312.2.1)) (0:Int)),())).bind fun y313 =>
 some ((y312.1.1,()),((List.cons y311.2.1 (List.cons y313.2.1 ([]:(List Instr)))),()))
 else none
 else none
 else
 bif (decide (y4.2.1=(18:Int))) then
 (Fn.dk_Next (y4.1.1,((4:Int),()))).bind fun y314 =>
 (Fn.mk_li ((5:Int),((IntKind.wrap .i64 ((1:Int)+y314.2.1)),()))).bind fun y315 =>
 (Fn.mk_li ((4:Int),((1:Int),()))).bind fun y316 =>
 some ((y314.1.1,()),((List.cons y315.2.1 (List.cons y316.2.1 x505)),()))
 else
 (Fn.dk_part_L39 ((a1,(a2,())),((y4.1.1,()),()))).bind some
 else
 bif (decide (y4.2.1=(8:Int))) then
 (Fn.dk_Next (y4.1.1,((3:Int),()))).bind fun y317 =>
 (Fn.mk_li ((0:Int),(y317.2.1,()))).bind fun y318 =>
 lt (List.cons y318.2.1 ([]:(List Instr))) fun x542 =>
 bif (Nat.ble ((List.length x542)+(List.length x506)) 4294967296) then
 (Fn.mk_sys ((13:Int),())).bind fun y319 =>
 lt (List.cons y319.2.1 ([]:(List Instr))) fun x543 =>
 bif (Nat.ble ((List.length (List.append x542 x506))+(List.length x543)) 4294967296) then
 some ((y317.1.1,()),((List.append (List.append x542 x506) x543),()))
 else none
 else none
 else
 bif (decide (y4.2.1=(9:Int))) then
 (Fn.dk_Next (y4.1.1,((3:Int),()))).bind fun y320 =>
 (Fn.mk_li ((0:Int),(y320.2.1,()))).bind fun y321 =>
 lt (List.cons y321.2.1 ([]:(List Instr))) fun x544 =>
 bif (Nat.ble ((List.length x544)+(List.length x506)) 4294967296) then
 (Fn.mk_sys ((14:Int),())).bind fun y322 =>
 (Fn.mk_mov ((3:Int),((0:Int),()))).bind fun y323 =>
 lt (List.cons y322.2.1 (List.cons y323.2.1 ([]:(List Instr)))) fun x545 =>
 bif (Nat.ble ((List.length (List.append x544 x506))+(List.length x545)) 4294967296) then
 some ((y320.1.1,()),((List.append (List.append x544 x506) x545),()))
 else none
 else none
 else
 bif (decide (y4.2.1=(10:Int))) then
 (Fn.dk_Next (y4.1.1,((3:Int),()))).bind fun y324 =>
 (Fn.mk_li ((0:Int),(y324.2.1,()))).bind fun y325 =>
 (Fn.dk_Next (y324.1.1,((4:Int),()))).bind fun y326 =>
 (Fn.mk_li ((1:Int),(y326.2.1,()))).bind fun y327 =>
 (Fn.mk_sys ((3:Int),())).bind fun y328 =>
 (Fn.mk_mov ((7:Int),((0:Int),()))).bind fun y329 =>
 some ((y326.1.1,()),((List.cons y325.2.1 (List.cons y327.2.1 (List.cons y328.2.1 (List.cons y329.2.1 ([]:(List Instr)))))),()))
 else
 bif (decide (y4.2.1=(11:Int))) then
 (Fn.mk_mov ((0:Int),((7:Int),()))).bind fun y330 =>
 lt (List.cons y330.2.1 ([]:(List Instr))) fun x546 =>
 bif (Nat.ble ((List.length x546)+(List.length x506)) 4294967296) then
 (Fn.dk_Next (y4.1.1,((2:Int),()))).bind fun y331 =>
 bif (inR y331.2.1 (List.length x502)) then
 (Fn.mk_sys ((List.getD x502 (0+(Int.toNat y331.2.1)) (0:Int)),())).bind fun y332 =>
 lt (List.cons y332.2.1 ([]:(List Instr))) fun x547 =>
 bif (Nat.ble ((List.length (List.append x546 x506))+(List.length x547)) 4294967296) then
 some ((y331.1.1,()),((List.append (List.append x546 x506) x547),()))
 else none
 else none
 else none
 else
 bif (decide (y4.2.1=(12:Int))) then
 (Fn.mk_mov ((0:Int),((7:Int),()))).bind fun y333 =>
 (Fn.mk_sys ((4:Int),())).bind fun y334 =>
 (Fn.mk_mov ((0:Int),((7:Int),()))).bind fun y335 =>
 (Fn.dk_Next (y4.1.1,((4:Int),()))).bind fun y336 =>
 (Fn.mk_li ((1:Int),(y336.2.1,()))).bind fun y337 =>
 (Fn.mk_sys ((5:Int),())).bind fun y338 =>
 (Fn.dk_Next (y336.1.1,((2:Int),()))).bind fun y339 =>
 lt (List.cons (List.cons y333.2.1 (List.cons y334.2.1 ([]:(List Instr)))) (List.cons (List.cons y335.2.1 (List.cons y337.2.1 (List.cons y338.2.1 ([]:(List Instr))))) ([]:(List (List Instr))))) fun x548 =>
 bif (inR y339.2.1 (List.length x548)) then
 some ((y339.1.1,()),((List.getD x548 (0+(Int.toNat y339.2.1)) ([]:(List Instr))),()))
 else none
 else
 bif (decide (y4.2.1=(13:Int))) then
 (Fn.dk_Next (y4.1.1,((3:Int),()))).bind fun y340 =>
 bif (inR y340.2.1 (List.length x504)) then
 (Fn.mk_sys ((List.getD x504 (0+(Int.toNat y340.2.1)) (0:Int)),())).bind fun y341 =>
 (Fn.dk_Next (y340.1.1,((3:Int),()))).bind fun y342 =>
 (Fn.mk_mov ((IntKind.wrap .i64 ((3:Int)+y342.2.1)),((0:Int),()))).bind fun y343 =>
 some ((y342.1.1,()),((List.cons y341.2.1 (List.cons y343.2.1 ([]:(List Instr)))),()))
 else none
 else
 bif (decide (y4.2.1=(14:Int))) then
 bif (decide (y4.2.1=(14:Int))) then
 (Fn.dk_Next (y4.1.1,((3:Int),()))).bind fun y344 =>
 (Fn.mk_li ((0:Int),(y344.2.1,()))).bind fun y345 =>
 (Fn.dk_Next (y344.1.1,((2:Int),()))).bind fun y346 =>
 bif (inR y346.2.1 (List.length (List.cons (8:Int) x498))) then
 (Fn.mk_sys ((List.getD (List.cons (8:Int) x498) (0+(Int.toNat y346.2.1)) (0:Int)),())).bind fun y347 =>
 some ((y346.1.1,()),((List.cons y345.2.1 (List.cons y347.2.1 ([]:(List Instr)))),()))
 else none
 else
 bif (decide (y4.2.1=(16:Int))) then
 (Fn.dk_Next (y4.1.1,(a2,()))).bind fun y348 =>
 (Fn.mk_li ((0:Int),(y348.2.1,()))).bind fun y349 =>
 (Fn.mk_mov ((1:Int),((3:Int),()))).bind fun y350 =>
 (Fn.mk_sys ((10:Int),())).bind fun y351 =>
 some ((y348.1.1,()),((List.cons y349.2.1 (List.cons y350.2.1 (List.cons y351.2.1 ([]:(List Instr))))),()))
 else
 bif (decide (y4.2.1=(17:Int))) then
 (Fn.dk_Next (y4.1.1,((2:Int),()))).bind fun y352 =>
 bif (inR y352.2.1 (List.length x501)) then
 (Fn.dk_Next (y352.1.1,((List.getD x501 (0+(Int.toNat y352.2.1)) (0:Int)),()))).bind fun y353 =>
 (Fn.mk_li ((0:Int),(y353.2.1,()))).bind fun y354 =>
 (Fn.dk_Next (y353.1.1,((2:Int),()))).bind fun y355 =>
 bif (inR y355.2.1 (List.length x503)) then
 (Fn.mk_sys ((List.getD x503 (0+(Int.toNat y355.2.1)) (0:Int)),())).bind fun y356 =>
 some ((y355.1.1,()),((List.cons y354.2.1 (List.cons y356.2.1 ([]:(List Instr)))),()))
 else none
 else none
 else
 bif (decide (y4.2.1=(18:Int))) then
 (Fn.dk_Next (y4.1.1,((4:Int),()))).bind fun y357 =>
 (Fn.mk_li ((5:Int),((IntKind.wrap .i64 ((1:Int)+y357.2.1)),()))).bind fun y358 =>
 (Fn.mk_li ((4:Int),((1:Int),()))).bind fun y359 =>
 some ((y357.1.1,()),((List.cons y358.2.1 (List.cons y359.2.1 x505)),()))
 else
 (Fn.dk_part_L39 ((a1,(a2,())),((y4.1.1,()),()))).bind some
 else
 bif (decide (y4.2.1=(15:Int))) then
 (Fn.dk_Next (y4.1.1,((3:Int),()))).bind fun y360 =>
 (Fn.mk_li ((0:Int),(y360.2.1,()))).bind fun y361 =>
 (Fn.dk_Next (y360.1.1,((2:Int),()))).bind fun y362 =>
 bif (inR y362.2.1 (List.length (List.cons (8:Int) x498))) then
 (Fn.mk_sys ((List.getD (List.cons (8:Int) x498) (0+(Int.toNat y362.2.1)) (0:Int)),())).bind fun y363 =>
 some ((y362.1.1,()),((List.cons y361.2.1 (List.cons y363.2.1 ([]:(List Instr)))),()))
 else none
 else
 bif (decide (y4.2.1=(16:Int))) then
 (Fn.dk_Next (y4.1.1,(a2,()))).bind fun y364 =>
 (Fn.mk_li ((0:Int),(y364.2.1,()))).bind fun y365 =>
 (Fn.mk_mov ((1:Int),((3:Int),()))).bind fun y366 =>
 (Fn.mk_sys ((10:Int),())).bind fun y367 =>
 some ((y364.1.1,()),((List.cons y365.2.1 (List.cons y366.2.1 (List.cons y367.2.1 ([]:(List Instr))))),()))
 else
 bif (decide (y4.2.1=(17:Int))) then
 (Fn.dk_Next (y4.1.1,((2:Int),()))).bind fun y368 =>
 bif (inR y368.2.1 (List.length x501)) then
 (Fn.dk_Next (y368.1.1,((List.getD x501 (0+(Int.toNat y368.2.1)) (0:Int)),()))).bind fun y369 =>
 (Fn.mk_li ((0:Int),(y369.2.1,()))).bind fun y370 =>
 (Fn.dk_Next (y369.1.1,((2:Int),()))).bind fun y371 =>
 bif (inR y371.2.1 (List.length x503)) then
 (Fn.mk_sys ((List.getD x503 (0+(Int.toNat y371.2.1)) (0:Int)),())).bind fun y372 =>
 some ((y371.1.1,()),((List.cons y370.2.1 (List.cons y372.2.1 ([]:(List Instr)))),()))
 else none
 else none
 else
 bif (decide (y4.2.1=(18:Int))) then
 (Fn.dk_Next (y4.1.1,((4:Int),()))).bind fun y373 =>
 (Fn.mk_li ((5:Int),((IntKind.wrap .i64 ((1:Int)+y373.2.1)),()))).bind fun y374 =>
 (Fn.mk_li ((4:Int),((1:Int),()))).bind fun y375 =>
 some ((y373.1.1,()),((List.cons y374.2.1 (List.cons y375.2.1 x505)),()))
 else
 (Fn.dk_part_L39 ((a1,(a2,())),((y4.1.1,()),()))).bind some
 else
 bif (decide (y4.2.1=(6:Int))) then
 (Fn.dk_Next (y4.1.1,((4:Int),()))).bind fun y376 =>
 bif (inR y1.2.1 (List.length a1)) then
 (Fn.dk_Next (y376.1.1,(x496,()))).bind fun y377 =>
 some ((y377.1.1,()),((List.cons x500 (List.cons ((16:Int),((IntKind.wrap .i64 ((3:Int)+y376.2.1)),((6:Int),((0:Int),y377.2.1)))) ([]:(List Instr)))),()))
 else none
 else
 bif (decide (y4.2.1=(7:Int))) then
 bif (decide (y4.2.1=(7:Int))) then
 (Fn.dk_Next (y4.1.1,((3:Int),()))).bind fun y378 =>
 (Fn.mk_li ((0:Int),(y378.2.1,()))).bind fun y379 =>
 lt (List.cons y379.2.1 ([]:(List Instr))) fun x549 =>
 bif (Nat.ble ((List.length x549)+(List.length x506)) 4294967296) then
 (Fn.mk_sys ((13:Int),())).bind fun y380 =>
 lt (List.cons y380.2.1 ([]:(List Instr))) fun x550 =>
 bif (Nat.ble ((List.length (List.append x549 x506))+(List.length x550)) 4294967296) then
 some ((y378.1.1,()),((List.append (List.append x549 x506) x550),()))
 else none
 else none
 else
 bif (decide (y4.2.1=(9:Int))) then
 (Fn.dk_Next (y4.1.1,((3:Int),()))).bind fun y381 =>
 (Fn.mk_li ((0:Int),(y381.2.1,()))).bind fun y382 =>
 lt (List.cons y382.2.1 ([]:(List Instr))) fun x551 =>
 bif (Nat.ble ((List.length x551)+(List.length x506)) 4294967296) then
 (Fn.mk_sys ((14:Int),())).bind fun y383 =>
 (Fn.mk_mov ((3:Int),((0:Int),()))).bind fun y384 =>
 lt (List.cons y383.2.1 (List.cons y384.2.1 ([]:(List Instr)))) fun x552 =>
 bif (Nat.ble ((List.length (List.append x551 x506))+(List.length x552)) 4294967296) then
 some ((y381.1.1,()),((List.append (List.append x551 x506) x552),()))
 else none
 else none
 else
 bif (decide (y4.2.1=(10:Int))) then
 (Fn.dk_Next (y4.1.1,((3:Int),()))).bind fun y385 =>
 (Fn.mk_li ((0:Int),(y385.2.1,()))).bind fun y386 =>
 (Fn.dk_Next (y385.1.1,((4:Int),()))).bind fun y387 =>
 (Fn.mk_li ((1:Int),(y387.2.1,()))).bind fun y388 =>
 (Fn.mk_sys ((3:Int),())).bind fun y389 =>
 (Fn.mk_mov ((7:Int),((0:Int),()))).bind fun y390 =>
 some ((y387.1.1,()),((List.cons y386.2.1 (List.cons y388.2.1 (List.cons y389.2.1 (List.cons y390.2.1 ([]:(List Instr)))))),()))
 else
 bif (decide (y4.2.1=(11:Int))) then
 (Fn.mk_mov ((0:Int),((7:Int),()))).bind fun y391 =>
 lt (List.cons y391.2.1 ([]:(List Instr))) fun x553 =>
 bif (Nat.ble ((List.length x553)+(List.length x506)) 4294967296) then
 (Fn.dk_Next (y4.1.1,((2:Int),()))).bind fun y392 =>
 bif (inR y392.2.1 (List.length x502)) then
 (Fn.mk_sys ((List.getD x502 (0+(Int.toNat y392.2.1)) (0:Int)),())).bind fun y393 =>
 lt (List.cons y393.2.1 ([]:(List Instr))) fun x554 =>
 bif (Nat.ble ((List.length (List.append x553 x506))+(List.length x554)) 4294967296) then
 some ((y392.1.1,()),((List.append (List.append x553 x506) x554),()))
 else none
 else none
 else none
 else
 bif (decide (y4.2.1=(12:Int))) then
 (Fn.mk_mov ((0:Int),((7:Int),()))).bind fun y394 =>
 (Fn.mk_sys ((4:Int),())).bind fun y395 =>
 (Fn.mk_mov ((0:Int),((7:Int),()))).bind fun y396 =>
 (Fn.dk_Next (y4.1.1,((4:Int),()))).bind fun y397 =>
 (Fn.mk_li ((1:Int),(y397.2.1,()))).bind fun y398 =>
 (Fn.mk_sys ((5:Int),())).bind fun y399 =>
 (Fn.dk_Next (y397.1.1,((2:Int),()))).bind fun y400 =>
 lt (List.cons (List.cons y394.2.1 (List.cons y395.2.1 ([]:(List Instr)))) (List.cons (List.cons y396.2.1 (List.cons y398.2.1 (List.cons y399.2.1 ([]:(List Instr))))) ([]:(List (List Instr))))) fun x555 =>
 bif (inR y400.2.1 (List.length x555)) then
 some ((y400.1.1,()),((List.getD x555 (0+(Int.toNat y400.2.1)) ([]:(List Instr))),()))
 else none
 else
 bif (decide (y4.2.1=(13:Int))) then
 (Fn.dk_Next (y4.1.1,((3:Int),()))).bind fun y401 =>
 bif (inR y401.2.1 (List.length x504)) then
 (Fn.mk_sys ((List.getD x504 (0+(Int.toNat y401.2.1)) (0:Int)),())).bind fun y402 =>
 (Fn.dk_Next (y401.1.1,((3:Int),()))).bind fun y403 =>
 (Fn.mk_mov ((IntKind.wrap .i64 ((3:Int)+y403.2.1)),((0:Int),()))).bind fun y404 =>
 some ((y403.1.1,()),((List.cons y402.2.1 (List.cons y404.2.1 ([]:(List Instr)))),()))
 else none
 else
 bif (decide (y4.2.1=(14:Int))) then
 bif (decide (y4.2.1=(14:Int))) then
 (Fn.dk_Next (y4.1.1,((3:Int),()))).bind fun y405 =>
 (Fn.mk_li ((0:Int),(y405.2.1,()))).bind fun y406 =>
 (Fn.dk_Next (y405.1.1,((2:Int),()))).bind fun y407 =>
 bif (inR y407.2.1 (List.length (List.cons (8:Int) x498))) then
 (Fn.mk_sys ((List.getD (List.cons (8:Int) x498) (0+(Int.toNat y407.2.1)) (0:Int)),())).bind fun y408 =>
 some ((y407.1.1,()),((List.cons y406.2.1 (List.cons y408.2.1 ([]:(List Instr)))),()))
 else none
 else
 bif (decide (y4.2.1=(16:Int))) then
 (Fn.dk_Next (y4.1.1,(a2,()))).bind fun y409 =>
 (Fn.mk_li ((0:Int),(y409.2.1,()))).bind fun y410 =>
 (Fn.mk_mov ((1:Int),((3:Int),()))).bind fun y411 =>
 (Fn.mk_sys ((10:Int),())).bind fun y412 =>
 some ((y409.1.1,()),((List.cons y410.2.1 (List.cons y411.2.1 (List.cons y412.2.1 ([]:(List Instr))))),()))
 else
 bif (decide (y4.2.1=(17:Int))) then
 (Fn.dk_Next (y4.1.1,((2:Int),()))).bind fun y413 =>
 bif (inR y413.2.1 (List.length x501)) then
 (Fn.dk_Next (y413.1.1,((List.getD x501 (0+(Int.toNat y413.2.1)) (0:Int)),()))).bind fun y414 =>
 (Fn.mk_li ((0:Int),(y414.2.1,()))).bind fun y415 =>
 (Fn.dk_Next (y414.1.1,((2:Int),()))).bind fun y416 =>
 bif (inR y416.2.1 (List.length x503)) then
 (Fn.mk_sys ((List.getD x503 (0+(Int.toNat y416.2.1)) (0:Int)),())).bind fun y417 =>
 some ((y416.1.1,()),((List.cons y415.2.1 (List.cons y417.2.1 ([]:(List Instr)))),()))
 else none
 else none
 else
 bif (decide (y4.2.1=(18:Int))) then
 (Fn.dk_Next (y4.1.1,((4:Int),()))).bind fun y418 =>
 (Fn.mk_li ((5:Int),((IntKind.wrap .i64 ((1:Int)+y418.2.1)),()))).bind fun y419 =>
 (Fn.mk_li ((4:Int),((1:Int),()))).bind fun y420 =>
 some ((y418.1.1,()),((List.cons y419.2.1 (List.cons y420.2.1 x505)),()))
 else
 (Fn.dk_part_L39 ((a1,(a2,())),((y4.1.1,()),()))).bind some
 else
 bif (decide (y4.2.1=(15:Int))) then
 (Fn.dk_Next (y4.1.1,((3:Int),()))).bind fun y421 =>
 (Fn.mk_li ((0:Int),(y421.2.1,()))).bind fun y422 =>
 (Fn.dk_Next (y421.1.1,((2:Int),()))).bind fun y423 =>
 bif (inR y423.2.1 (List.length (List.cons (8:Int) x498))) then
 (Fn.mk_sys ((List.getD (List.cons (8:Int) x498) (0+(Int.toNat y423.2.1)) (0:Int)),())).bind fun y424 =>
 some ((y423.1.1,()),((List.cons y422.2.1 (List.cons y424.2.1 ([]:(List Instr)))),()))
 else none
 else
 bif (decide (y4.2.1=(16:Int))) then
 (Fn.dk_Next (y4.1.1,(a2,()))).bind fun y425 =>
 (Fn.mk_li ((0:Int),(y425.2.1,()))).bind fun y426 =>
 (Fn.mk_mov ((1:Int),((3:Int),()))).bind fun y427 =>
 (Fn.mk_sys ((10:Int),())).bind fun y428 =>
 some ((y425.1.1,()),((List.cons y426.2.1 (List.cons y427.2.1 (List.cons y428.2.1 ([]:(List Instr))))),()))
 else
 bif (decide (y4.2.1=(17:Int))) then
 (Fn.dk_Next (y4.1.1,((2:Int),()))).bind fun y429 =>
 bif (inR y429.2.1 (List.length x501)) then
 (Fn.dk_Next (y429.1.1,((List.getD x501 (0+(Int.toNat y429.2.1)) (0:Int)),()))).bind fun y430 =>
 (Fn.mk_li ((0:Int),(y430.2.1,()))).bind fun y431 =>
 (Fn.dk_Next (y430.1.1,((2:Int),()))).bind fun y432 =>
 bif (inR y432.2.1 (List.length x503)) then
 (Fn.mk_sys ((List.getD x503 (0+(Int.toNat y432.2.1)) (0:Int)),())).bind fun y433 =>
 some ((y432.1.1,()),((List.cons y431.2.1 (List.cons y433.2.1 ([]:(List Instr)))),()))
 else none
 else none
 else
 bif (decide (y4.2.1=(18:Int))) then
 (Fn.dk_Next (y4.1.1,((4:Int),()))).bind fun y434 =>
 (Fn.mk_li ((5:Int),((IntKind.wrap .i64 ((1:Int)+y434.2.1)),()))).bind fun y435 =>
 (Fn.mk_li ((4:Int),((1:Int),()))).bind fun y436 =>
 some ((y434.1.1,()),((List.cons y435.2.1 (List.cons y436.2.1 x505)),()))
 else
 (Fn.dk_part_L39 ((a1,(a2,())),((y4.1.1,()),()))).bind some
 else
 bif (decide (y4.2.1=(8:Int))) then
 (Fn.dk_Next (y4.1.1,((3:Int),()))).bind fun y437 =>
 (Fn.mk_li ((0:Int),(y437.2.1,()))).bind fun y438 =>
 lt (List.cons y438.2.1 ([]:(List Instr))) fun x556 =>
 bif (Nat.ble ((List.length x556)+(List.length x506)) 4294967296) then
 (Fn.mk_sys ((13:Int),())).bind fun y439 =>
 lt (List.cons y439.2.1 ([]:(List Instr))) fun x557 =>
 bif (Nat.ble ((List.length (List.append x556 x506))+(List.length x557)) 4294967296) then
 some ((y437.1.1,()),((List.append (List.append x556 x506) x557),()))
 else none
 else none
 else
 bif (decide (y4.2.1=(9:Int))) then
 (Fn.dk_Next (y4.1.1,((3:Int),()))).bind fun y440 =>
 (Fn.mk_li ((0:Int),(y440.2.1,()))).bind fun y441 =>
 lt (List.cons y441.2.1 ([]:(List Instr))) fun x558 =>
 bif (Nat.ble ((List.length x558)+(List.length x506)) 4294967296) then
 (Fn.mk_sys ((14:Int),())).bind fun y442 =>
 (Fn.mk_mov ((3:Int),((0:Int),()))).bind fun y443 =>
 lt (List.cons y442.2.1 (List.cons y443.2.1 ([]:(List Instr)))) fun x559 =>
 bif (Nat.ble ((List.length (List.append x558 x506))+(List.length x559)) 4294967296) then
 some ((y440.1.1,()),((List.append (List.append x558 x506) x559),()))
 else none
 else none
 else
 bif (decide (y4.2.1=(10:Int))) then
 (Fn.dk_Next (y4.1.1,((3:Int),()))).bind fun y444 =>
 (Fn.mk_li ((0:Int),(y444.2.1,()))).bind fun y445 =>
 (Fn.dk_Next (y444.1.1,((4:Int),()))).bind fun y446 =>
 (Fn.mk_li ((1:Int),(y446.2.1,()))).bind fun y447 =>
 (Fn.mk_sys ((3:Int),())).bind fun y448 =>
 (Fn.mk_mov ((7:Int),((0:Int),()))).bind fun y449 =>
 some ((y446.1.1,()),((List.cons y445.2.1 (List.cons y447.2.1 (List.cons y448.2.1 (List.cons y449.2.1 ([]:(List Instr)))))),()))
 else
 bif (decide (y4.2.1=(11:Int))) then
 (Fn.mk_mov ((0:Int),((7:Int),()))).bind fun y450 =>
 lt (List.cons y450.2.1 ([]:(List Instr))) fun x560 =>
 bif (Nat.ble ((List.length x560)+(List.length x506)) 4294967296) then
 (Fn.dk_Next (y4.1.1,((2:Int),()))).bind fun y451 =>
 bif (inR y451.2.1 (List.length x502)) then
 (Fn.mk_sys ((List.getD x502 (0+(Int.toNat y451.2.1)) (0:Int)),())).bind fun y452 =>
 lt (List.cons y452.2.1 ([]:(List Instr))) fun x561 =>
 bif (Nat.ble ((List.length (List.append x560 x506))+(List.length x561)) 4294967296) then
 some ((y451.1.1,()),((List.append (List.append x560 x506) x561),()))
 else none
 else none
 else none
 else
 bif (decide (y4.2.1=(12:Int))) then
 (Fn.mk_mov ((0:Int),((7:Int),()))).bind fun y453 =>
 (Fn.mk_sys ((4:Int),())).bind fun y454 =>
 (Fn.mk_mov ((0:Int),((7:Int),()))).bind fun y455 =>
 (Fn.dk_Next (y4.1.1,((4:Int),()))).bind fun y456 =>
 (Fn.mk_li ((1:Int),(y456.2.1,()))).bind fun y457 =>
 (Fn.mk_sys ((5:Int),())).bind fun y458 =>
 (Fn.dk_Next (y456.1.1,((2:Int),()))).bind fun y459 =>
 lt (List.cons (List.cons y453.2.1 (List.cons y454.2.1 ([]:(List Instr)))) (List.cons (List.cons y455.2.1 (List.cons y457.2.1 (List.cons y458.2.1 ([]:(List Instr))))) ([]:(List (List Instr))))) fun x562 =>
 bif (inR y459.2.1 (List.length x562)) then
 some ((y459.1.1,()),((List.getD x562 (0+(Int.toNat y459.2.1)) ([]:(List Instr))),()))
 else none
 else
 bif (decide (y4.2.1=(13:Int))) then
 (Fn.dk_Next (y4.1.1,((3:Int),()))).bind fun y460 =>
 bif (inR y460.2.1 (List.length x504)) then
 (Fn.mk_sys ((List.getD x504 (0+(Int.toNat y460.2.1)) (0:Int)),())).bind fun y461 =>
 (Fn.dk_Next (y460.1.1,((3:Int),()))).bind fun y462 =>
 (Fn.mk_mov ((IntKind.wrap .i64 ((3:Int)+y462.2.1)),((0:Int),()))).bind fun y463 =>
 some ((y462.1.1,()),((List.cons y461.2.1 (List.cons y463.2.1 ([]:(List Instr)))),()))
 else none
 else
 bif (decide (y4.2.1=(14:Int))) then
 bif (decide (y4.2.1=(14:Int))) then
 (Fn.dk_Next (y4.1.1,((3:Int),()))).bind fun y464 =>
 (Fn.mk_li ((0:Int),(y464.2.1,()))).bind fun y465 =>
 (Fn.dk_Next (y464.1.1,((2:Int),()))).bind fun y466 =>
 bif (inR y466.2.1 (List.length (List.cons (8:Int) x498))) then
 (Fn.mk_sys ((List.getD (List.cons (8:Int) x498) (0+(Int.toNat y466.2.1)) (0:Int)),())).bind fun y467 =>
 some ((y466.1.1,()),((List.cons y465.2.1 (List.cons y467.2.1 ([]:(List Instr)))),()))
 else none
 else
 bif (decide (y4.2.1=(16:Int))) then
 (Fn.dk_Next (y4.1.1,(a2,()))).bind fun y468 =>
 (Fn.mk_li ((0:Int),(y468.2.1,()))).bind fun y469 =>
 (Fn.mk_mov ((1:Int),((3:Int),()))).bind fun y470 =>
 (Fn.mk_sys ((10:Int),())).bind fun y471 =>
 some ((y468.1.1,()),((List.cons y469.2.1 (List.cons y470.2.1 (List.cons y471.2.1 ([]:(List Instr))))),()))
 else
 bif (decide (y4.2.1=(17:Int))) then
 (Fn.dk_Next (y4.1.1,((2:Int),()))).bind fun y472 =>
 bif (inR y472.2.1 (List.length x501)) then
 (Fn.dk_Next (y472.1.1,((List.getD x501 (0+(Int.toNat y472.2.1)) (0:Int)),()))).bind fun y473 =>
 (Fn.mk_li ((0:Int),(y473.2.1,()))).bind fun y474 =>
 (Fn.dk_Next (y473.1.1,((2:Int),()))).bind fun y475 =>
 bif (inR y475.2.1 (List.length x503)) then
 (Fn.mk_sys ((List.getD x503 (0+(Int.toNat y475.2.1)) (0:Int)),())).bind fun y476 =>
 some ((y475.1.1,()),((List.cons y474.2.1 (List.cons y476.2.1 ([]:(List Instr)))),()))
 else none
 else none
 else
 bif (decide (y4.2.1=(18:Int))) then
 (Fn.dk_Next (y4.1.1,((4:Int),()))).bind fun y477 =>
 (Fn.mk_li ((5:Int),((IntKind.wrap .i64 ((1:Int)+y477.2.1)),()))).bind fun y478 =>
 (Fn.mk_li ((4:Int),((1:Int),()))).bind fun y479 =>
 some ((y477.1.1,()),((List.cons y478.2.1 (List.cons y479.2.1 x505)),()))
 else
 (Fn.dk_part_L39 ((a1,(a2,())),((y4.1.1,()),()))).bind some
 else
 bif (decide (y4.2.1=(15:Int))) then
 (Fn.dk_Next (y4.1.1,((3:Int),()))).bind fun y480 =>
 (Fn.mk_li ((0:Int),(y480.2.1,()))).bind fun y481 =>
 (Fn.dk_Next (y480.1.1,((2:Int),()))).bind fun y482 =>
 bif (inR y482.2.1 (List.length (List.cons (8:Int) x498))) then
 (Fn.mk_sys ((List.getD (List.cons (8:Int) x498) (0+(Int.toNat y482.2.1)) (0:Int)),())).bind fun y483 =>
 some ((y482.1.1,()),((List.cons y481.2.1 (List.cons y483.2.1 ([]:(List Instr)))),()))
 else none
 else
 bif (decide (y4.2.1=(16:Int))) then
 (Fn.dk_Next (y4.1.1,(a2,()))).bind fun y484 =>
 (Fn.mk_li ((0:Int),(y484.2.1,()))).bind fun y485 =>
 (Fn.mk_mov ((1:Int),((3:Int),()))).bind fun y486 =>
 (Fn.mk_sys ((10:Int),())).bind fun y487 =>
 some ((y484.1.1,()),((List.cons y485.2.1 (List.cons y486.2.1 (List.cons y487.2.1 ([]:(List Instr))))),()))
 else
 bif (decide (y4.2.1=(17:Int))) then
 (Fn.dk_Next (y4.1.1,((2:Int),()))).bind fun y488 =>
 bif (inR y488.2.1 (List.length x501)) then
 (Fn.dk_Next (y488.1.1,((List.getD x501 (0+(Int.toNat y488.2.1)) (0:Int)),()))).bind fun y489 =>
 (Fn.mk_li ((0:Int),(y489.2.1,()))).bind fun y490 =>
 (Fn.dk_Next (y489.1.1,((2:Int),()))).bind fun y491 =>
 bif (inR y491.2.1 (List.length x503)) then
 (Fn.mk_sys ((List.getD x503 (0+(Int.toNat y491.2.1)) (0:Int)),())).bind fun y492 =>
 some ((y491.1.1,()),((List.cons y490.2.1 (List.cons y492.2.1 ([]:(List Instr)))),()))
 else none
 else none
 else
 bif (decide (y4.2.1=(18:Int))) then
 (Fn.dk_Next (y4.1.1,((4:Int),()))).bind fun y493 =>
 (Fn.mk_li ((5:Int),((IntKind.wrap .i64 ((1:Int)+y493.2.1)),()))).bind fun y494 =>
 (Fn.mk_li ((4:Int),((1:Int),()))).bind fun y495 =>
 some ((y493.1.1,()),((List.cons y494.2.1 (List.cons y495.2.1 x505)),()))
 else
 (Fn.dk_part_L39 ((a1,(a2,())),((y4.1.1,()),()))).bind some
 else none :=
 (fE C_dk_part ins_dk_part outs_dk_part Tryz.f79 (a0,a1,a2,a3,())).trans (by kernel_rfl)
theorem Fn.dk_part_L39_eq (v1:(List Int)) (v2:Int) (r700000:Deck):Fn.dk_part_L39 ((v1,v2,()),(r700000,()),()) =
 (Fn.dk_Instr (r700000,((((List.length v1):Nat):Int),(v2,())))).bind fun y1 =>
 some ((y1.1.1,()),((List.cons y1.2.1 ([]:(List Instr))),())) :=
 (aE C_dk_part ins_dk_part outs_dk_part Tryz.f79 39 ((v1,v2,()),(r700000,()),())).trans (by kernel_rfl)
def ins_dk_Program:List Par:=[(ty65,.lend .imm .imm)]
def outs_dk_Program:List Par:=[(ty38,.own (.pr (.own none (.pr .imm (.pr .imm (.pr .imm (.pr .imm .imm))))) (.pr .imm (.own none (.own none .imm)))))]
def C_dk_Program:FnC:={ G:=⟨tab,eqs,ctrL [(21,s_dk_Next),(68,s_r06_Jump),(77,s_dk_Sizes),(78,s_dk_Words),(79,s_dk_part),(80,s_mk_li),(81,s_mk_sys)]⟩,nt:=131,mv:=mvL [(1,4),(1,2),(5,8),(5,5),(12,5),(15,12),(15,9),(15,8),(17,6),(17,3),(18,9),(18,6),(18,4),(18,3),(20,4),(27,1),(20,4)],pre:=preL [],cuts:=[3,8,9,18,21,22],sh:=shL [(3,⟨[(13,ty22,.data),(14,ty2,.data),(15,ty2,.data)],[(0,700000,0),(2,2,0),(3,3,0)],[],[(2,ty37,(.pr (.own none (.pr .imm (.pr .imm (.pr .imm (.pr .imm .imm))))) (.pr (.own none .imm) (.own none (.own none .imm))))),(3,ty37,(.pr (.own none (.pr .imm (.pr .imm (.pr .imm (.pr .imm .imm))))) (.pr .imm (.own none (.own none .imm))))),(700000,ty64,.imm)],[]⟩),(8,⟨[(6,ty2,.data)],[(0,700000,0),(2,2,0),(3,3,0)],[],[(2,ty37,(.pr (.own none (.pr .imm (.pr .imm (.pr .imm (.pr .imm .imm))))) (.pr (.own none .imm) (.own none (.own none .imm))))),(3,ty37,(.pr (.own none (.pr .imm (.pr .imm (.pr .imm (.pr .imm .imm))))) (.pr .imm (.own none (.own none .imm))))),(700000,ty64,.imm)],[]⟩),(9,⟨[(6,ty2,.data)],[(0,700000,0),(2,2,0),(3,3,0)],[],[(2,ty37,(.pr (.own none (.pr .imm (.pr .imm (.pr .imm (.pr .imm .imm))))) (.pr (.own none .imm) (.own none (.own none .imm))))),(3,ty37,(.pr (.own none (.pr .imm (.pr .imm (.pr .imm (.pr .imm .imm))))) (.pr .imm (.own none (.own none .imm))))),(700000,ty64,.imm)],[]⟩),(18,⟨[],[(0,700000,0),(2,2,0),(3,3,0)],[],[(2,ty37,(.pr (.own none (.pr .imm (.pr .imm (.pr .imm (.pr .imm .imm))))) (.pr (.own none .imm) (.own none (.own none .imm))))),(3,ty37,(.pr (.own none (.pr .imm (.pr .imm (.pr .imm (.pr .imm .imm))))) (.pr .imm (.own none (.own none .imm))))),(700000,ty64,.imm)],[]⟩),(21,⟨[],[(2,2,0),(3,3,0)],[],[(2,ty37,(.pr (.own none (.pr .imm (.pr .imm (.pr .imm (.pr .imm .imm))))) (.pr (.own none .imm) (.own none (.own none .imm))))),(3,ty37,(.pr (.own none (.pr .imm (.pr .imm (.pr .imm (.pr .imm .imm))))) (.pr .imm (.own none (.own none .imm))))),(700000,ty64,.imm)],[]⟩),(22,⟨[(101,ty2,.data),(102,ty2,.data)],[(2,2,0),(3,3,0)],[],[(2,ty37,(.pr (.own none (.pr .imm (.pr .imm (.pr .imm (.pr .imm .imm))))) (.pr (.own none .imm) (.own none (.own none .imm))))),(3,ty37,(.pr (.own none (.pr .imm (.pr .imm (.pr .imm (.pr .imm .imm))))) (.pr .imm (.own none (.own none .imm))))),(700000,ty64,.imm)],[]⟩)],anchs:=[700000] }
def Fn.dk_Program_L3 (d:(((List Int)×(Int×(Int×Unit)))×((Prog×(Prog×(Deck×Unit)))×Unit))):Option ((Deck×Unit)×(Prog×Unit)):=aO C_dk_Program ins_dk_Program outs_dk_Program Tryz.f48 3 d
def Fn.dk_Program_L8 (d:((Int×Unit)×((Prog×(Prog×(Deck×Unit)))×Unit))):Option ((Deck×Unit)×(Prog×Unit)):=aO C_dk_Program ins_dk_Program outs_dk_Program Tryz.f48 8 d
def Fn.dk_Program_L9 (d:((Int×Unit)×((Prog×(Prog×(Deck×Unit)))×Unit))):Option ((Deck×Unit)×(Prog×Unit)):=aO C_dk_Program ins_dk_Program outs_dk_Program Tryz.f48 9 d
def Fn.dk_Program_L18 (d:(Unit×((Prog×(Prog×(Deck×Unit)))×Unit))):Option ((Deck×Unit)×(Prog×Unit)):=aO C_dk_Program ins_dk_Program outs_dk_Program Tryz.f48 18 d
def Fn.dk_Program_L21 (d:(Unit×((Prog×(Prog×(Deck×Unit)))×Unit))):Option ((Deck×Unit)×(Prog×Unit)):=aO C_dk_Program ins_dk_Program outs_dk_Program Tryz.f48 21 d
def Fn.dk_Program_L22 (d:((Int×(Int×Unit))×((Prog×(Prog×(Deck×Unit)))×Unit))):Option ((Deck×Unit)×(Prog×Unit)):=aO C_dk_Program ins_dk_Program outs_dk_Program Tryz.f48 22 d
def Fn.dk_Program (x:(Deck×Unit)):Option ((Deck×Unit)×(Prog×Unit)):=fO C_dk_Program ins_dk_Program outs_dk_Program Tryz.f48 x
def s_dk_Program:Sum:=⟨ins_dk_Program,outs_dk_Program,Fn.dk_Program,none⟩
theorem m_dk_Program:Meets Tryz.prog 48 s_dk_Program:=meets_fn (C:=C_dk_Program) (cfg_ok tok eqs_ok ⟨⟨m_dk_Next,Tryz.call21⟩,⟨⟨m_r06_Jump,Tryz.call68⟩,⟨⟨m_dk_Sizes,Tryz.call77⟩,⟨⟨m_dk_Words,Tryz.call78⟩,⟨⟨m_dk_part,Tryz.call79⟩,⟨⟨m_mk_li,Tryz.call80⟩,⟨⟨m_mk_sys,Tryz.call81⟩,trivial⟩⟩⟩⟩⟩⟩⟩) mixed Tryz.func48 rfl rfl rfl (by kernel_rfl) (by kernel_rfl)
theorem Fn.dk_Program_eq (a0:Deck):Fn.dk_Program (a0,()) =
 (Fn.dk_Sizes (a0,())).bind fun y1 =>
 (Fn.dk_Program_L3 ((y1.2.1,((((List.length y1.2.1):Nat):Int),((0:Int),()))),(((([]:(List Instr)),(([]:(List Int)),([]:(List (List Int))))),((([]:(List Instr)),(y1.2.1,([]:(List (List Int))))),(y1.1.1,()))),()))).bind some :=
 (fE C_dk_Program ins_dk_Program outs_dk_Program Tryz.f48 (a0,())).trans (by kernel_rfl)
theorem Fn.dk_Program_L3_eq (v13:(List Int)) (v14:Int) (v15:Int) (r2:Prog) (r3:Prog) (r700000:Deck):Fn.dk_Program_L3 ((v13,v14,v15,()),(r2,r3,r700000,()),()) =
 bif (decide (v15<v14)) then
 bif (inR v15 (List.length v13)) then
 (Fn.dk_Words (r700000,((List.getD v13 (Int.toNat v15) (0:Int)),()))).bind fun y1 =>
 lt (List.cons y1.2.1 ([]:(List (List Int)))) fun x3 =>
 bif (Nat.ble ((List.length r3.2.2)+(List.length x3)) 4294967296) then
 (Fn.dk_Program_L3 ((v13,(v14,((IntKind.wrap .i64 (v15+(1:Int))),()))),((r2,((r3.1,(r3.2.1,(List.append r3.2.2 x3))),(y1.1.1,()))),()))).bind some
 else none
 else none
 else
 (Fn.dk_Next (r700000,((12:Int),()))).bind fun y2 =>
 (Fn.dk_Program_L8 (((IntKind.wrap .i64 ((1:Int)+y2.2.1)),()),((r2,(r3,(y2.1.1,()))),()))).bind some :=
 (aE C_dk_Program ins_dk_Program outs_dk_Program Tryz.f48 3 ((v13,v14,v15,()),(r2,r3,r700000,()),())).trans (by kernel_rfl)
theorem Fn.dk_Program_L8_eq (v6:Int) (r2:Prog) (r3:Prog) (r700000:Deck):Fn.dk_Program_L8 ((v6,()),(r2,r3,r700000,()),()) =
 lt (IntKind.wrap .i64 ((((List.length r3.1):Nat):Int)+(1:Int))) fun x4 =>
 bif (decide ((0:Int)<v6)) then
 (Fn.dk_part (r700000,(r3.2.1,(x4,((((List.length r3.1):Nat):Int),()))))).bind fun y1 =>
 bif (decide ((IntKind.wrap .i64 ((((List.length r3.1):Nat):Int)+(((List.length y1.2.1):Nat):Int)))≤(62:Int))) then
 bif (Nat.ble ((List.length r3.1)+(List.length y1.2.1)) 4294967296) then
 (Fn.dk_Program_L9 ((v6,()),((r2,(((List.append r3.1 y1.2.1),r3.2),(y1.1.1,()))),()))).bind some
 else none
 else
 (Fn.dk_Program_L9 ((v6,()),((r2,(r3,(y1.1.1,()))),()))).bind some
 else
 (Fn.dk_Next (r700000,((4:Int),()))).bind fun y2 =>
 bif (decide (y2.2.1=(0:Int))) then
 (Fn.dk_Next (y2.1.1,(x4,()))).bind fun y3 =>
 lt (List.cons ((18:Int),((0:Int),((0:Int),((0:Int),y3.2.1)))) ([]:(List Instr))) fun x5 =>
 bif (Nat.ble ((List.length r3.1)+(List.length x5)) 4294967296) then
 (Fn.dk_Program_L18 ((),((r2,(((List.append r3.1 x5),r3.2),(y3.1.1,()))),()))).bind some
 else none
 else
 bif (decide (y2.2.1=(1:Int))) then
 lt (List.cons ((24:Int),((0:Int),((0:Int),((0:Int),(0:Int))))) ([]:(List Instr))) fun x6 =>
 bif (Nat.ble ((List.length r3.1)+(List.length x6)) 4294967296) then
 (Fn.dk_Program_L18 ((),((r2,(((List.append r3.1 x6),r3.2),(y2.1.1,()))),()))).bind some
 else none
 else
 (Fn.dk_Program_L18 ((),((r2,(r3,(y2.1.1,()))),()))).bind some :=
 (aE C_dk_Program ins_dk_Program outs_dk_Program Tryz.f48 8 ((v6,()),(r2,r3,r700000,()),())).trans (by kernel_rfl)
theorem Fn.dk_Program_L9_eq (v6:Int) (r2:Prog) (r3:Prog) (r700000:Deck):Fn.dk_Program_L9 ((v6,()),(r2,r3,r700000,()),()) =
 (Fn.dk_Program_L8 (((IntKind.wrap .i64 (v6 - (1:Int))),()),((r2,(r3,(r700000,()))),()))).bind some :=
 (aE C_dk_Program ins_dk_Program outs_dk_Program Tryz.f48 9 ((v6,()),(r2,r3,r700000,()),())).trans (by kernel_rfl)
theorem Fn.dk_Program_L18_eq (r2:Prog) (r3:Prog) (r700000:Deck):Fn.dk_Program_L18 ((),(r2,r3,r700000,()),()) =
 (Fn.dk_Next (r700000,((9:Int),()))).bind fun y1 =>
 (Fn.mk_li ((0:Int),(y1.2.1,()))).bind fun y2 =>
 (Fn.mk_sys ((0:Int),())).bind fun y3 =>
 lt (List.cons y2.2.1 (List.cons y3.2.1 ([]:(List Instr)))) fun x4 =>
 bif (Nat.ble ((List.length r3.1)+(List.length x4)) 4294967296) then
 lt (((List.length (List.append r3.1 x4)):Nat):Int) fun x5 =>
 bif (decide ((64:Int)<x5)) then
 bif (((decide ((0:Int)≤(0:Int)))&&(decide ((0:Int)≤(64:Int))))&&(decide ((64:Int)≤x5))) then
 (Fn.dk_Program_L21 ((),((r2,(((List.take ((Int.toNat (64:Int)) - (Int.toNat (0:Int))) (List.drop (Int.toNat (0:Int)) (List.append r3.1 x4))),r3.2),(y1.1.1,()))),()))).bind some
 else none
 else
 (Fn.dk_Program_L21 ((),((r2,(((List.append r3.1 x4),r3.2),(y1.1.1,()))),()))).bind some
 else none :=
 (aE C_dk_Program ins_dk_Program outs_dk_Program Tryz.f48 18 ((),(r2,r3,r700000,()),())).trans (by kernel_rfl)
theorem Fn.dk_Program_L21_eq (r2:Prog) (r3:Prog) (r700000:Deck):Fn.dk_Program_L21 ((),(r2,r3,r700000,()),()) =
 (Fn.dk_Program_L22 (((((List.length r3.1):Nat):Int),((0:Int),())),((r2,(r3,(r700000,()))),()))).bind some :=
 (aE C_dk_Program ins_dk_Program outs_dk_Program Tryz.f48 21 ((),(r2,r3,r700000,()),())).trans (by kernel_rfl)
theorem Fn.dk_Program_L22_eq (v101:Int) (v102:Int) (r2:Prog) (r3:Prog) (r700000:Deck):Fn.dk_Program_L22 ((v101,v102,()),(r2,r3,r700000,()),()) =
 bif (decide (v102<v101)) then
 bif (inR v102 (List.length r3.1)) then
 lt (List.getD r3.1 (0+(Int.toNat v102)) zInstr) fun x2 =>
 (Fn.r06_Jump (x2.1,())).bind fun y1 =>
 bif ((!(y1.2.1&&true))||(inR v102 (List.length r3.1))) then
 lt (v101,((IntKind.wrap .i64 (v102+(1:Int))),())) fun x3 =>
 bif (bif y1.2.1 then (decide ((((List.length r3.1):Nat):Int)≤x2.2.2.2.2)) else false) then
 bif (inR v102 (List.length r3.1)) then
 (Fn.dk_Program_L22 (x3,((r2,(((List.set r3.1 (0+(Int.toNat v102)) (x2.1,(x2.2.1,(x2.2.2.1,(x2.2.2.2.1,(0:Int)))))),r3.2),(r700000,()))),()))).bind some
 else none
 else
 (Fn.dk_Program_L22 (x3,((r2,(r3,(r700000,()))),()))).bind some
 else none
 else none
 else
 some ((r700000,()),((r3.1,(r3.2.1,r3.2.2)),())) :=
 (aE C_dk_Program ins_dk_Program outs_dk_Program Tryz.f48 22 ((v101,v102,()),(r2,r3,r700000,()),())).trans (by kernel_rfl)
def ins_r02_Valid:List Par:=[(ty22,.data)]
def outs_r02_Valid:List Par:=[(ty4,.data)]
def C_r02_Valid:FnC:={ G:=⟨tab,eqs,ctrL []⟩,nt:=26,mv:=mvL [(7,5)],pre:=preL [],cuts:=[2],sh:=shL [(2,⟨[(0,ty22,.data),(5,ty22,.data),(6,ty2,.data),(7,ty2,.data)],[],[],[],[]⟩)],anchs:=[] }
def Fn.r02_Valid_L2 (d:(((List Int)×((List Int)×(Int×(Int×Unit))))×(Unit×Unit))):Option (Unit×(Bool×Unit)):=aO C_r02_Valid ins_r02_Valid outs_r02_Valid Tryz.f66 2 d
def Fn.r02_Valid (x:((List Int)×Unit)):Option (Unit×(Bool×Unit)):=fO C_r02_Valid ins_r02_Valid outs_r02_Valid Tryz.f66 x
def s_r02_Valid:Sum:=⟨ins_r02_Valid,outs_r02_Valid,Fn.r02_Valid,none⟩
theorem m_r02_Valid:Meets Tryz.prog 66 s_r02_Valid:=meets_fn (C:=C_r02_Valid) (cfg_ok tok eqs_ok trivial) mixed Tryz.func66 rfl rfl rfl (by kernel_rfl) (by kernel_rfl)
theorem Fn.r02_Valid_eq (a0:(List Int)):Fn.r02_Valid (a0,()) =
 (Fn.r02_Valid_L2 ((a0,(a0,((((List.length a0):Nat):Int),((0:Int),())))),((),()))).bind some :=
 (fE C_r02_Valid ins_r02_Valid outs_r02_Valid Tryz.f66 (a0,())).trans (by kernel_rfl)
theorem Fn.r02_Valid_L2_eq (v0:(List Int)) (v5:(List Int)) (v6:Int) (v7:Int):Fn.r02_Valid_L2 ((v0,v5,v6,v7,()),(),()) =
 bif (decide (v7<v6)) then
 bif (inR v7 (List.length v5)) then
 lt (List.getD v5 (Int.toNat v7) (0:Int)) fun x1 =>
 bif (bif (decide (x1<(1:Int))) then true else (decide ((32:Int)<x1))) then
 some ((),(false,()))
 else
 (Fn.r02_Valid_L2 ((v0,(v5,(v6,((IntKind.wrap .i64 (v7+(1:Int))),())))),((),()))).bind some
 else none
 else
 some ((),((bif (decide ((1:Int)≤(((List.length v0):Nat):Int))) then (decide ((((List.length v0):Nat):Int)≤(4:Int))) else false),())) :=
 (aE C_r02_Valid ins_r02_Valid outs_r02_Valid Tryz.f66 2 ((v0,v5,v6,v7,()),(),())).trans (by kernel_rfl)
def ins_r06_Valid:List Par:=[(ty54,.data)]
def outs_r06_Valid:List Par:=[(ty4,.data)]
def C_r06_Valid:FnC:={ G:=⟨tab,eqs,ctrL [(68,s_r06_Jump),(97,s_r06_Uses)]⟩,nt:=86,mv:=mvL [(0,0),(3,4)],pre:=preL [],cuts:=[5],sh:=shL [(5,⟨[(23,ty22,.own (.own none .imm)),(24,ty2,.data),(25,ty2,.data)],[(1,1,0),(3,3,0)],[],[(1,ty53,.imm),(3,ty186,.imm)],[]⟩)],anchs:=[] }
def Fn.r06_Valid_L5 (d:(((List Int)×(Int×(Int×Unit)))×((Instr×((List Bool)×Unit))×Unit))):Option (Unit×(Bool×Unit)):=aO C_r06_Valid ins_r06_Valid outs_r06_Valid Tryz.f67 5 d
def Fn.r06_Valid (x:(Instr×Unit)):Option (Unit×(Bool×Unit)):=fO C_r06_Valid ins_r06_Valid outs_r06_Valid Tryz.f67 x
def s_r06_Valid:Sum:=⟨ins_r06_Valid,outs_r06_Valid,Fn.r06_Valid,none⟩
theorem m_r06_Valid:Meets Tryz.prog 67 s_r06_Valid:=meets_fn (C:=C_r06_Valid) (cfg_ok tok eqs_ok ⟨⟨m_r06_Jump,Tryz.call68⟩,⟨⟨m_r06_Uses,Tryz.call97⟩,trivial⟩⟩) mixed Tryz.func67 rfl rfl rfl (by kernel_rfl) (by kernel_rfl)
theorem Fn.r06_Valid_eq (a0:Instr):Fn.r06_Valid (a0,()) =
 bif (bif (decide (a0.1<(0:Int))) then true else (decide ((24:Int)<a0.1))) then
 some ((),(false,()))
 else
 (Fn.r06_Uses (a0.1,())).bind fun y1 =>
 lt (List.cons a0.2.1 (List.cons a0.2.2.1 (List.cons a0.2.2.2.1 ([]:(List Int))))) fun x2 =>
 (Fn.r06_Valid_L5 ((x2,((((List.length x2):Nat):Int),((0:Int),()))),((a0,(y1.2.1,())),()))).bind some :=
 (fE C_r06_Valid ins_r06_Valid outs_r06_Valid Tryz.f67 (a0,())).trans (by kernel_rfl)
theorem Fn.r06_Valid_L5_eq (v23:(List Int)) (v24:Int) (v25:Int) (r1:Instr) (r3:(List Bool)):Fn.r06_Valid_L5 ((v23,v24,v25,()),(r1,r3,()),()) =
 bif (decide (v25<v24)) then
 bif (inR v25 (List.length v23)) then
 lt (List.getD v23 (0+(Int.toNat v25)) (0:Int)) fun x2 =>
 lt (bif (decide (x2<(0:Int))) then true else (decide ((8:Int)≤x2))) fun x3 =>
 bif ((!((!x3)&&true))||(inR v25 4)) then
 bif (bif x3 then true else (bif (!(List.getD r3 (Int.toNat v25) false)) then (!(decide (x2=(0:Int)))) else false)) then
 some ((),(false,()))
 else
 (Fn.r06_Valid_L5 ((v23,(v24,((IntKind.wrap .i64 (v25+(1:Int))),()))),((r1,(r3,())),()))).bind some
 else none
 else none
 else
 lt (bif (decide (r1.2.2.2.2<(0:Int))) then true else (decide ((65535:Int)<r1.2.2.2.2))) fun x4 =>
 bif ((!((!x4)&&true))||(inR (3:Int) 4)) then
 bif (bif x4 then true else (bif (!(List.getD r3 (Int.toNat (3:Int)) false)) then (!(decide (r1.2.2.2.2=(0:Int)))) else false)) then
 some ((),(false,()))
 else
 (Fn.r06_Jump (r1.1,())).bind fun y1 =>
 bif y1.2.1 then
 some ((),((decide (r1.2.2.2.2<(64:Int))),()))
 else
 bif (decide (r1.1=(15:Int))) then
 some ((),((decide (r1.2.2.2.2<(4:Int))),()))
 else
 bif (decide (r1.1=(23:Int))) then
 some ((),((decide (r1.2.2.2.2≤(15:Int))),()))
 else
 some ((),(true,()))
 else none :=
 (aE C_r06_Valid ins_r06_Valid outs_r06_Valid Tryz.f67 5 ((v23,v24,v25,()),(r1,r3,()),())).trans (by kernel_rfl)
def ins_r08_Check:List Par:=[(ty38,.data)]
def outs_r08_Check:List Par:=[(ty55,.data)]
def C_r08_Check:FnC:={ G:=⟨tab,eqs,ctrL [(66,s_r02_Valid),(67,s_r06_Valid),(68,s_r06_Jump)]⟩,nt:=92,mv:=mvL [(0,0),(6,1),(14,1)],pre:=preL [],cuts:=[4,12,18],sh:=shL [(4,⟨[(23,ty36,.data),(24,ty2,.data),(25,ty2,.data)],[(1,1,0)],[],[(1,ty37,.imm)],[]⟩),(12,⟨[(50,ty35,.data),(51,ty2,.data),(52,ty2,.data)],[(1,1,0)],[],[(1,ty37,.imm)],[]⟩),(18,⟨[(61,ty35,.data),(62,ty2,.data),(63,ty2,.data)],[(1,1,0)],[],[(1,ty37,.imm)],[]⟩)],anchs:=[] }
def Fn.r08_Check_L4 (d:(((List (List Int))×(Int×(Int×Unit)))×((Prog×Unit)×Unit))):Option (Unit×(Int×Unit)):=aO C_r08_Check ins_r08_Check outs_r08_Check Tryz.f38 4 d
def Fn.r08_Check_L12 (d:(((List Instr)×(Int×(Int×Unit)))×((Prog×Unit)×Unit))):Option (Unit×(Int×Unit)):=aO C_r08_Check ins_r08_Check outs_r08_Check Tryz.f38 12 d
def Fn.r08_Check_L18 (d:(((List Instr)×(Int×(Int×Unit)))×((Prog×Unit)×Unit))):Option (Unit×(Int×Unit)):=aO C_r08_Check ins_r08_Check outs_r08_Check Tryz.f38 18 d
def Fn.r08_Check (x:(Prog×Unit)):Option (Unit×(Int×Unit)):=fO C_r08_Check ins_r08_Check outs_r08_Check Tryz.f38 x
def s_r08_Check:Sum:=⟨ins_r08_Check,outs_r08_Check,Fn.r08_Check,none⟩
theorem m_r08_Check:Meets Tryz.prog 38 s_r08_Check:=meets_fn (C:=C_r08_Check) (cfg_ok tok eqs_ok ⟨⟨m_r02_Valid,Tryz.call66⟩,⟨⟨m_r06_Valid,Tryz.call67⟩,⟨⟨m_r06_Jump,Tryz.call68⟩,trivial⟩⟩⟩) mixed Tryz.func38 rfl rfl rfl (by kernel_rfl) (by kernel_rfl)
theorem Fn.r08_Check_eq (a0:Prog):Fn.r08_Check (a0,()) =
 (Fn.r02_Valid (a0.2.1,())).bind fun y1 =>
 lt (((List.length a0.2.2):Nat):Int) fun x2 =>
 bif (bif (!y1.2.1) then true else (!(decide (x2=(((List.length a0.2.1):Nat):Int))))) then
 some ((),((1:Int),()))
 else
 (Fn.r08_Check_L4 ((a0.2.2,(x2,((0:Int),()))),((a0,()),()))).bind some :=
 (fE C_r08_Check ins_r08_Check outs_r08_Check Tryz.f38 (a0,())).trans (by kernel_rfl)
theorem Fn.r08_Check_L4_eq (v23:(List (List Int))) (v24:Int) (v25:Int) (r1:Prog):Fn.r08_Check_L4 ((v23,v24,v25,()),(r1,()),()) =
 bif (decide (v25<v24)) then
 bif (inR v25 (List.length v23)) then
 bif (inR v25 (List.length r1.2.1)) then
 bif (decide ((List.getD r1.2.1 (Int.toNat v25) (0:Int))<(((List.length (List.getD v23 (Int.toNat v25) ([]:(List Int)))):Nat):Int))) then
 some ((),((1:Int),()))
 else
 (Fn.r08_Check_L4 ((v23,(v24,((IntKind.wrap .i64 (v25+(1:Int))),()))),((r1,()),()))).bind some
 else none
 else none
 else
 bif (bif (decide ((((List.length r1.1):Nat):Int)<(1:Int))) then true else (decide ((64:Int)<(((List.length r1.1):Nat):Int)))) then
 some ((),((3:Int),()))
 else
 (Fn.r08_Check_L12 ((r1.1,((((List.length r1.1):Nat):Int),((0:Int),()))),((r1,()),()))).bind some :=
 (aE C_r08_Check ins_r08_Check outs_r08_Check Tryz.f38 4 ((v23,v24,v25,()),(r1,()),())).trans (by kernel_rfl)
theorem Fn.r08_Check_L12_eq (v50:(List Instr)) (v51:Int) (v52:Int) (r1:Prog):Fn.r08_Check_L12 ((v50,v51,v52,()),(r1,()),()) =
 bif (decide (v52<v51)) then
 bif (inR v52 (List.length v50)) then
 (Fn.r06_Valid ((List.getD v50 (Int.toNat v52) zInstr),())).bind fun y1 =>
 bif (!y1.2.1) then
 some ((),((5:Int),()))
 else
 (Fn.r08_Check_L12 ((v50,(v51,((IntKind.wrap .i64 (v52+(1:Int))),()))),((r1,()),()))).bind some
 else none
 else
 (Fn.r08_Check_L18 ((r1.1,((((List.length r1.1):Nat):Int),((0:Int),()))),((r1,()),()))).bind some :=
 (aE C_r08_Check ins_r08_Check outs_r08_Check Tryz.f38 12 ((v50,v51,v52,()),(r1,()),())).trans (by kernel_rfl)
theorem Fn.r08_Check_L18_eq (v61:(List Instr)) (v62:Int) (v63:Int) (r1:Prog):Fn.r08_Check_L18 ((v61,v62,v63,()),(r1,()),()) =
 bif (decide (v63<v62)) then
 bif (inR v63 (List.length v61)) then
 lt (List.getD v61 (Int.toNat v63) zInstr) fun x2 =>
 (Fn.r06_Jump (x2.1,())).bind fun y1 =>
 bif (bif (bif y1.2.1 then (decide ((((List.length r1.1):Nat):Int)≤x2.2.2.2.2)) else false) then true else (bif (decide (x2.1=(15:Int))) then (decide ((((List.length r1.2.1):Nat):Int)≤x2.2.2.2.2)) else false)) then
 some ((),((6:Int),()))
 else
 (Fn.r08_Check_L18 ((v61,(v62,((IntKind.wrap .i64 (v63+(1:Int))),()))),((r1,()),()))).bind some
 else none
 else
 some ((),((0:Int),())) :=
 (aE C_r08_Check ins_r08_Check outs_r08_Check Tryz.f38 18 ((v61,v62,v63,()),(r1,()),())).trans (by kernel_rfl)
def ins_r03_Valid:List Par:=[(ty25,.data),(ty22,.data)]
def outs_r03_Valid:List Par:=[(ty4,.data)]
def C_r03_Valid:FnC:={ G:=⟨tab,eqs,ctrL [(66,s_r02_Valid)]⟩,nt:=69,mv:=mvL [(0,0)],pre:=preL [],cuts:=[4,9],sh:=shL [(4,⟨[(1,ty22,.data),(21,ty22,.data),(22,ty2,.data),(23,ty2,.data)],[(2,2,0)],[],[(2,ty24,.imm)],[]⟩),(9,⟨[(1,ty22,.data),(5,ty2,.data),(6,ty2,.data),(21,ty22,.data),(22,ty2,.data),(23,ty2,.data),(42,ty22,.data),(43,ty2,.data),(44,ty2,.data)],[(2,2,0)],[],[(2,ty24,.imm)],[]⟩)],anchs:=[] }
def Fn.r03_Valid_L4 (d:(((List Int)×((List Int)×(Int×(Int×Unit))))×((Layout×Unit)×Unit))):Option (Unit×(Bool×Unit)):=aO C_r03_Valid ins_r03_Valid outs_r03_Valid Tryz.f39 4 d
def Fn.r03_Valid_L9 (d:(((List Int)×(Int×(Int×((List Int)×(Int×(Int×((List Int)×(Int×(Int×Unit)))))))))×((Layout×Unit)×Unit))):Option (Unit×(Bool×Unit)):=aO C_r03_Valid ins_r03_Valid outs_r03_Valid Tryz.f39 9 d
def Fn.r03_Valid (x:(Layout×((List Int)×Unit))):Option (Unit×(Bool×Unit)):=fO C_r03_Valid ins_r03_Valid outs_r03_Valid Tryz.f39 x
def s_r03_Valid:Sum:=⟨ins_r03_Valid,outs_r03_Valid,Fn.r03_Valid,none⟩
theorem m_r03_Valid:Meets Tryz.prog 39 s_r03_Valid:=meets_fn (C:=C_r03_Valid) (cfg_ok tok eqs_ok ⟨⟨m_r02_Valid,Tryz.call66⟩,trivial⟩) mixed Tryz.func39 rfl rfl rfl (by kernel_rfl) (by kernel_rfl)
theorem Fn.r03_Valid_eq (a0:Layout) (a1:(List Int)):Fn.r03_Valid (a0,a1,()) =
 (Fn.r02_Valid (a1,())).bind fun y1 =>
 bif (bif (!y1.2.1) then true else (!(decide ((((List.length a0.1):Nat):Int)=(((List.length a1):Nat):Int))))) then
 some ((),(false,()))
 else
 (Fn.r03_Valid_L4 ((a1,(a0.1,((((List.length a0.1):Nat):Int),((0:Int),())))),((a0,()),()))).bind some :=
 (fE C_r03_Valid ins_r03_Valid outs_r03_Valid Tryz.f39 (a0,a1,())).trans (by kernel_rfl)
theorem Fn.r03_Valid_L4_eq (v1:(List Int)) (v21:(List Int)) (v22:Int) (v23:Int) (r2:Layout):Fn.r03_Valid_L4 ((v1,v21,v22,v23,()),(r2,()),()) =
 bif (decide (v23<v22)) then
 bif (inR v23 (List.length v21)) then
 lt (List.getD v21 (Int.toNat v23) (0:Int)) fun x1 =>
 bif ((!((!(decide (x1<(0:Int))))&&true))||(inR v23 (List.length v1))) then
 bif (bif (decide (x1<(0:Int))) then true else (decide ((IntKind.wrap .i64 ((512:Int) - (List.getD v1 (Int.toNat v23) (0:Int))))<x1))) then
 some ((),(false,()))
 else
 bif (((decide ((0:Int)≤(0:Int)))&&(decide ((0:Int)≤v23)))&&(decide (v23≤(((List.length r2.1):Nat):Int)))) then
 lt (List.take ((Int.toNat v23) - (Int.toNat (0:Int))) (List.drop (Int.toNat (0:Int)) r2.1)) fun x2 =>
 (Fn.r03_Valid_L9 ((v1,(v23,(x1,(v21,(v22,(v23,(x2,((((List.length x2):Nat):Int),((0:Int),()))))))))),((r2,()),()))).bind some
 else none
 else none
 else none
 else
 some ((),(true,())) :=
 (aE C_r03_Valid ins_r03_Valid outs_r03_Valid Tryz.f39 4 ((v1,v21,v22,v23,()),(r2,()),())).trans (by kernel_rfl)
theorem Fn.r03_Valid_L9_eq (v1:(List Int)) (v5:Int) (v6:Int) (v21:(List Int)) (v22:Int) (v23:Int) (v42:(List Int)) (v43:Int) (v44:Int) (r2:Layout):Fn.r03_Valid_L9 ((v1,v5,v6,v21,v22,v23,v42,v43,v44,()),(r2,()),()) =
 bif (decide (v44<v43)) then
 bif (inR v44 (List.length v42)) then
 bif (inR v5 (List.length v1)) then
 lt (List.getD v42 (Int.toNat v44) (0:Int)) fun x1 =>
 bif ((!((decide (x1≤(IntKind.wrap .i64 (v6+(List.getD v1 (Int.toNat v5) (0:Int))))))&&true))||(inR v44 (List.length v1))) then
 bif (bif (decide (x1≤(IntKind.wrap .i64 (v6+(List.getD v1 (Int.toNat v5) (0:Int)))))) then (decide (v6≤(IntKind.wrap .i64 (x1+(List.getD v1 (Int.toNat v44) (0:Int)))))) else false) then
 some ((),(false,()))
 else
 (Fn.r03_Valid_L9 ((v1,(v5,(v6,(v21,(v22,(v23,(v42,(v43,((IntKind.wrap .i64 (v44+(1:Int))),()))))))))),((r2,()),()))).bind some
 else none
 else none
 else none
 else
 (Fn.r03_Valid_L4 ((v1,(v21,(v22,((IntKind.wrap .i64 (v23+(1:Int))),())))),((r2,()),()))).bind some :=
 (aE C_r03_Valid ins_r03_Valid outs_r03_Valid Tryz.f39 9 ((v1,v5,v6,v21,v22,v23,v42,v43,v44,()),(r2,()),())).trans (by kernel_rfl)
def ins_r04_Empty:List Par:=[]
def outs_r04_Empty:List Par:=[(ty27,.own (.own none (.pr .imm (.pr .imm (.own none (.pr .imm .imm))))))]
def C_r04_Empty:FnC:={ G:=⟨tab,eqs,ctrL []⟩,nt:=15,mv:=mvL [],pre:=preL [],cuts:=[3],sh:=shL [(3,⟨[(1,ty27,.own (.own none (.pr .imm (.pr .imm (.own none (.pr .imm .imm)))))),(5,ty2,.data),(6,ty2,.data)],[],[],[],[]⟩)],anchs:=[] }
def Fn.r04_Empty_L3 (d:(((List Line)×(Int×(Int×Unit)))×(Unit×Unit))):Option (Unit×((List Line)×Unit)):=aO C_r04_Empty ins_r04_Empty outs_r04_Empty Tryz.f62 3 d
def Fn.r04_Empty (x:Unit):Option (Unit×((List Line)×Unit)):=fO C_r04_Empty ins_r04_Empty outs_r04_Empty Tryz.f62 x
def s_r04_Empty:Sum:=⟨ins_r04_Empty,outs_r04_Empty,Fn.r04_Empty,none⟩
theorem m_r04_Empty:Meets Tryz.prog 62 s_r04_Empty:=meets_fn (C:=C_r04_Empty) (cfg_ok tok eqs_ok trivial) mixed Tryz.func62 rfl rfl rfl (by kernel_rfl) (by kernel_rfl)
theorem Fn.r04_Empty_eq:Fn.r04_Empty () =
 bif (((decide (0≤(4:Int)))&&(decide ((4:Int)≤(4:Int))))&&(decide ((4:Int)≤4294967296))) then
 lt (List.replicate (Int.toNat (4:Int)) zLine) fun x1 =>
 (Fn.r04_Empty_L3 ((x1,((((List.length x1):Nat):Int),((0:Int),()))),((),()))).bind some
 else none :=
 (fE C_r04_Empty ins_r04_Empty outs_r04_Empty Tryz.f62 ()).trans (by kernel_rfl)
theorem Fn.r04_Empty_L3_eq (v1:(List Line)) (v5:Int) (v6:Int):Fn.r04_Empty_L3 ((v1,v5,v6,()),(),()) =
 bif (decide (v6<v5)) then
 bif (inR v6 (List.length v1)) then
 (Fn.r04_Empty_L3 (((List.set v1 (0+(Int.toNat v6)) ((-(1:Int)),(List.getD v1 (0+(Int.toNat v6)) zLine).2)),(v5,((IntKind.wrap .i64 (v6+(1:Int))),()))),((),()))).bind some
 else none
 else
 some ((),(v1,())) :=
 (aE C_r04_Empty ins_r04_Empty outs_r04_Empty Tryz.f62 3 ((v1,v5,v6,()),(),())).trans (by kernel_rfl)
def ins_r04_Load:List Par:=[(ty38,.data),(ty25,.data)]
def outs_r04_Load:List Par:=[(ty29,.own (.pr (.own none (.pr .imm .imm)) (.own none (.pr .imm (.pr .imm (.own none (.pr .imm .imm))))))),(ty55,.data)]
def C_r04_Load:FnC:={ G:=⟨tab,eqs,ctrL [(39,s_r03_Valid),(62,s_r04_Empty)]⟩,nt:=68,mv:=mvL [(0,1),(0,0),(2,1),(3,4),(3,2),(8,1),(9,1),(12,12),(15,1)],pre:=preL [],cuts:=[5,10],sh:=shL [(5,⟨[(30,ty36,.data),(31,ty2,.data),(32,ty2,.data)],[(2,2,0),(3,3,0),(4,4,0),(6,6,0)],[],[(2,ty37,.imm),(3,ty24,.imm),(4,ty28,(.pr (.own none (.pr .imm .imm)) (.own none (.pr .imm (.pr .imm (.own none (.pr .imm .imm))))))),(6,ty28,(.pr (.own none (.pr .imm .imm)) (.own none (.pr .imm (.pr .imm (.own none (.pr .imm .imm)))))))],[]⟩),(10,⟨[(7,ty2,.data),(30,ty36,.data),(31,ty2,.data),(32,ty2,.data),(46,ty74,.data),(47,ty2,.data),(48,ty2,.data)],[(2,2,0),(3,3,0),(4,4,0),(6,6,0)],[],[(2,ty37,.imm),(3,ty24,.imm),(4,ty28,(.pr (.own none (.pr .imm .imm)) (.own none (.pr .imm (.pr .imm (.own none (.pr .imm .imm))))))),(6,ty28,(.pr (.own none (.pr .imm .imm)) (.own none (.pr .imm (.pr .imm (.own none (.pr .imm .imm)))))))],[]⟩)],anchs:=[] }
def Fn.r04_Load_L5 (d:(((List (List Int))×(Int×(Int×Unit)))×((Prog×(Layout×(Memory×(Memory×Unit))))×Unit))):Option (Unit×(Memory×(Int×Unit))):=aO C_r04_Load ins_r04_Load outs_r04_Load Tryz.f100 5 d
def Fn.r04_Load_L10 (d:((Int×((List (List Int))×(Int×(Int×((List Int)×(Int×(Int×Unit)))))))×((Prog×(Layout×(Memory×(Memory×Unit))))×Unit))):Option (Unit×(Memory×(Int×Unit))):=aO C_r04_Load ins_r04_Load outs_r04_Load Tryz.f100 10 d
def Fn.r04_Load (x:(Prog×(Layout×Unit))):Option (Unit×(Memory×(Int×Unit))):=fO C_r04_Load ins_r04_Load outs_r04_Load Tryz.f100 x
def s_r04_Load:Sum:=⟨ins_r04_Load,outs_r04_Load,Fn.r04_Load,none⟩
theorem m_r04_Load:Meets Tryz.prog 100 s_r04_Load:=meets_fn (C:=C_r04_Load) (cfg_ok tok eqs_ok ⟨⟨m_r03_Valid,Tryz.call39⟩,⟨⟨m_r04_Empty,Tryz.call62⟩,trivial⟩⟩) mixed Tryz.func100 rfl rfl rfl (by kernel_rfl) (by kernel_rfl)
theorem Fn.r04_Load_eq (a0:Prog) (a1:Layout):Fn.r04_Load (a0,a1,()) =
 (Fn.r03_Valid (a1,(a0.2.1,()))).bind fun y1 =>
 lt (([]:(List Cell)),([]:(List Line))) fun x3 =>
 lt (((List.length a0.2.2):Nat):Int) fun x4 =>
 bif (bif (!y1.2.1) then true else (!(decide (x4=(((List.length a0.2.1):Nat):Int))))) then
 some ((),(x3,((1:Int),())))
 else
 bif (((decide (0≤(512:Int)))&&(decide ((512:Int)≤(512:Int))))&&(decide ((512:Int)≤4294967296))) then
 (Fn.r04_Empty ()).bind fun y2 =>
 (Fn.r04_Load_L5 ((a0.2.2,(x4,((0:Int),()))),((a0,(a1,(x3,(((List.replicate (Int.toNat (512:Int)) zCell),y2.2.1),())))),()))).bind some
 else none :=
 (fE C_r04_Load ins_r04_Load outs_r04_Load Tryz.f100 (a0,a1,())).trans (by kernel_rfl)
theorem Fn.r04_Load_L5_eq (v30:(List (List Int))) (v31:Int) (v32:Int) (r2:Prog) (r3:Layout) (r4:Memory) (r6:Memory):Fn.r04_Load_L5 ((v30,v31,v32,()),(r2,r3,r4,r6,()),()) =
 bif (decide (v32<v31)) then
 bif (inR v32 (List.length v30)) then
 bif (inR v32 (List.length r2.2.1)) then
 lt (List.getD v30 (Int.toNat v32) ([]:(List Int))) fun x1 =>
 bif (decide ((List.getD r2.2.1 (Int.toNat v32) (0:Int))<(((List.length x1):Nat):Int))) then
 some ((),((([]:(List Cell)),([]:(List Line))),((1:Int),())))
 else
 (Fn.r04_Load_L10 ((v32,(v30,(v31,(v32,(x1,((((List.length x1):Nat):Int),((0:Int),()))))))),((r2,(r3,(r4,(r6,())))),()))).bind some
 else none
 else none
 else
 some ((),((r6.1,r6.2),((0:Int),()))) :=
 (aE C_r04_Load ins_r04_Load outs_r04_Load Tryz.f100 5 ((v30,v31,v32,()),(r2,r3,r4,r6,()),())).trans (by kernel_rfl)
theorem Fn.r04_Load_L10_eq (v7:Int) (v30:(List (List Int))) (v31:Int) (v32:Int) (v46:(List Int)) (v47:Int) (v48:Int) (r2:Prog) (r3:Layout) (r4:Memory) (r6:Memory):Fn.r04_Load_L10 ((v7,v30,v31,v32,v46,v47,v48,()),(r2,r3,r4,r6,()),()) =
 bif (decide (v48<v47)) then
 bif (inR v48 (List.length v46)) then
 bif (inR v7 (List.length r3.1)) then
 lt (IntKind.wrap .i64 ((List.getD r3.1 (Int.toNat v7) (0:Int))+v48)) fun x1 =>
 bif (inR x1 (List.length r6.1)) then
 (Fn.r04_Load_L10 ((v7,(v30,(v31,(v32,(v46,(v47,((IntKind.wrap .i64 (v48+(1:Int))),()))))))),((r2,(r3,(r4,(((List.set r6.1 (0+(Int.toNat x1)) ((List.getD r6.1 (0+(Int.toNat x1)) zCell).1,(List.getD v46 (Int.toNat v48) (0:Int)))),r6.2),())))),()))).bind some
 else none
 else none
 else none
 else
 (Fn.r04_Load_L5 ((v30,(v31,((IntKind.wrap .i64 (v32+(1:Int))),()))),((r2,(r3,(r4,(r6,())))),()))).bind some :=
 (aE C_r04_Load ins_r04_Load outs_r04_Load Tryz.f100 10 ((v7,v30,v31,v32,v46,v47,v48,()),(r2,r3,r4,r6,()),())).trans (by kernel_rfl)
def ins_r08_Start:List Par:=[(ty38,.data),(ty25,.data)]
def outs_r08_Start:List Par:=[(ty32,.own (.pr (.pr (.own none .imm) .imm) (.pr (.pr (.own none (.pr .imm .imm)) (.own none (.pr .imm (.pr .imm (.own none (.pr .imm .imm)))))) (.own none (.pr .imm (.pr (.own none (.pr .imm .imm)) (.pr .imm (.pr .imm (.pr .imm (.pr .imm (.pr .imm .imm))))))))))),(ty55,.data)]
def C_r08_Start:FnC:={ G:=⟨tab,eqs,ctrL [(38,s_r08_Check),(39,s_r03_Valid),(100,s_r04_Load)]⟩,nt:=54,mv:=mvL [(0,1),(0,0),(3,2),(5,1),(6,7),(7,9),(7,7),(7,5),(11,3),(11,1),(14,6),(14,3),(16,1)],pre:=preL [],cuts:=[9],sh:=shL [(9,⟨[(38,ty2,.data)],[(4,4,0),(9,9,0)],[],[(4,ty31,(.pr (.pr (.own none .imm) .imm) (.pr (.pr (.own none (.pr .imm .imm)) (.own none (.pr .imm (.pr .imm (.own none (.pr .imm .imm)))))) (.own none (.pr .imm (.pr (.own none (.pr .imm .imm)) (.pr .imm (.pr .imm (.pr .imm (.pr .imm (.pr .imm .imm))))))))))),(9,ty31,(.pr (.pr (.own none .imm) .imm) (.pr (.pr (.own none (.pr .imm .imm)) (.own none (.pr .imm (.pr .imm (.own none (.pr .imm .imm)))))) (.own none (.pr .imm (.pr (.own none (.pr .imm .imm)) (.pr .imm (.pr .imm (.pr .imm (.pr .imm (.pr .imm .imm)))))))))))],[]⟩)],anchs:=[] }
def Fn.r08_Start_L9 (d:((Int×Unit)×((Machine×(Machine×Unit))×Unit))):Option (Unit×(Machine×(Int×Unit))):=aO C_r08_Start ins_r08_Start outs_r08_Start Tryz.f82 9 d
def Fn.r08_Start (x:(Prog×(Layout×Unit))):Option (Unit×(Machine×(Int×Unit))):=fO C_r08_Start ins_r08_Start outs_r08_Start Tryz.f82 x
def s_r08_Start:Sum:=⟨ins_r08_Start,outs_r08_Start,Fn.r08_Start,none⟩
theorem m_r08_Start:Meets Tryz.prog 82 s_r08_Start:=meets_fn (C:=C_r08_Start) (cfg_ok tok eqs_ok ⟨⟨m_r08_Check,Tryz.call38⟩,⟨⟨m_r03_Valid,Tryz.call39⟩,⟨⟨m_r04_Load,Tryz.call100⟩,trivial⟩⟩⟩) mixed Tryz.func82 rfl rfl rfl (by kernel_rfl) (by kernel_rfl)
theorem Fn.r08_Start_eq (a0:Prog) (a1:Layout):Fn.r08_Start (a0,a1,()) =
 (Fn.r08_Check (a0,())).bind fun y1 =>
 lt ((([]:(List Int)),(0:Int)),((([]:(List Cell)),([]:(List Line))),([]:(List Thread)))) fun x4 =>
 bif (!(decide (y1.2.1=(0:Int)))) then
 some ((),(x4,(y1.2.1,())))
 else
 (Fn.r03_Valid (a1,(a0.2.1,()))).bind fun y2 =>
 bif (!y2.2.1) then
 some ((),(x4,((1:Int),())))
 else
 (Fn.r04_Load (a0,(a1,()))).bind fun y3 =>
 bif (Nat.ble ((List.length ([]:(List Int)))+(List.length a1.1)) 4294967296) then
 (Fn.r08_Start_L9 (((0:Int),()),((x4,((((List.append ([]:(List Int)) a1.1),a1.2),((y3.2.1.1,y3.2.1.2),([]:(List Thread)))),())),()))).bind some
 else none :=
 (fE C_r08_Start ins_r08_Start outs_r08_Start Tryz.f82 (a0,a1,())).trans (by kernel_rfl)
theorem Fn.r08_Start_L9_eq (v38:Int) (r4:Machine) (r9:Machine):Fn.r08_Start_L9 ((v38,()),(r4,r9,()),()) =
 bif (decide (v38<(4:Int))) then
 bif (((decide (0≤(8:Int)))&&(decide ((8:Int)≤(8:Int))))&&(decide ((8:Int)≤4294967296))) then
 lt ((List.replicate (Int.toNat (8:Int)) zCell),((0:Int),((0:Int),((-(1:Int)),((-(1:Int)),((0:Int),(0:Int))))))) fun x1 =>
 lt ((IntKind.wrap .i64 (v38+(1:Int))),()) fun x2 =>
 bif (decide (v38=(0:Int))) then
 lt (List.cons ((1:Int),x1) ([]:(List Thread))) fun x3 =>
 bif (Nat.ble ((List.length r9.2.2)+(List.length x3)) 4294967296) then
 (Fn.r08_Start_L9 (x2,((r4,((r9.1,(r9.2.1,(List.append r9.2.2 x3))),())),()))).bind some
 else none
 else
 lt (List.cons ((0:Int),x1) ([]:(List Thread))) fun x4 =>
 bif (Nat.ble ((List.length r9.2.2)+(List.length x4)) 4294967296) then
 (Fn.r08_Start_L9 (x2,((r4,((r9.1,(r9.2.1,(List.append r9.2.2 x4))),())),()))).bind some
 else none
 else none
 else
 some ((),(((r9.1.1,r9.1.2),((r9.2.1.1,r9.2.1.2),r9.2.2)),((0:Int),()))) :=
 (aE C_r08_Start ins_r08_Start outs_r08_Start Tryz.f82 9 ((v38,()),(r4,r9,()),())).trans (by kernel_rfl)
def ins_r12_Cell:List Par:=[(ty95,.data)]
def outs_r12_Cell:List Par:=[(ty4,.data)]
def C_r12_Cell:FnC:={ G:=⟨tab,eqs,ctrL []⟩,nt:=57,mv:=mvL [(0,0)],pre:=preL [],cuts:=[],sh:=shL [],anchs:=[] }
def Fn.r12_Cell (x:(Canon×Unit)):Option (Unit×(Bool×Unit)):=fO C_r12_Cell ins_r12_Cell outs_r12_Cell Tryz.f117 x
def s_r12_Cell:Sum:=⟨ins_r12_Cell,outs_r12_Cell,Fn.r12_Cell,none⟩
theorem m_r12_Cell:Meets Tryz.prog 117 s_r12_Cell:=meets_fn (C:=C_r12_Cell) (cfg_ok tok eqs_ok trivial) mixed Tryz.func117 rfl rfl rfl (by kernel_rfl) (by kernel_rfl)
theorem Fn.r12_Cell_eq (a0:Canon):Fn.r12_Cell (a0,()) =
 lt ((),((bif (decide (a0.2.2.1=(0:Int))) then (decide (a0.2.2.2=(0:Int))) else false),())) fun x1 =>
 lt ((),((bif (bif (decide (a0.2.1=(0:Int))) then (decide ((0:Int)≤a0.2.2.2)) else false) then (decide (a0.2.2.2≤(65535:Int))) else false),())) fun x2 =>
 lt ((),((bif (bif (bif (bif (decide (a0.2.1=(0:Int))) then (decide ((0:Int)≤a0.2.2.1)) else false) then (decide (a0.2.2.1<(4:Int))) else false) then (decide ((0:Int)≤a0.2.2.2)) else false) then (decide (a0.2.2.2<(32:Int))) else false),())) fun x3 =>
 bif (decide (a0.1=(0:Int))) then
 bif (decide (a0.1=(0:Int))) then
 some x1
 else
 bif (decide (a0.1=(1:Int))) then
 bif (decide (a0.2.2.1=(-(1:Int)))) then
 some x2
 else
 some x3
 else
 some ((),(false,()))
 else
 bif (decide (a0.1=(2:Int))) then
 some x1
 else
 bif (decide (a0.1=(1:Int))) then
 bif (decide (a0.2.2.1=(-(1:Int)))) then
 some x2
 else
 some x3
 else
 some ((),(false,())) :=
 (fE C_r12_Cell ins_r12_Cell outs_r12_Cell Tryz.f117 (a0,())).trans (by kernel_rfl)
def ins_r12_Cells:List Par:=[(ty93,.data),(ty3,.data)]
def outs_r12_Cells:List Par:=[(ty4,.data)]
def C_r12_Cells:FnC:={ G:=⟨tab,eqs,ctrL [(117,s_r12_Cell)]⟩,nt:=21,mv:=mvL [(4,1),(7,1)],pre:=preL [],cuts:=[2],sh:=shL [(2,⟨[(0,ty93,.data),(1,ty2,.data),(7,ty93,.data),(8,ty2,.data),(9,ty2,.data)],[],[],[],[]⟩)],anchs:=[] }
def Fn.r12_Cells_L2 (d:(((List Canon)×(Int×((List Canon)×(Int×(Int×Unit)))))×(Unit×Unit))):Option (Unit×(Bool×Unit)):=aO C_r12_Cells ins_r12_Cells outs_r12_Cells Tryz.f96 2 d
def Fn.r12_Cells (x:((List Canon)×(Int×Unit))):Option (Unit×(Bool×Unit)):=fO C_r12_Cells ins_r12_Cells outs_r12_Cells Tryz.f96 x
def s_r12_Cells:Sum:=⟨ins_r12_Cells,outs_r12_Cells,Fn.r12_Cells,none⟩
theorem m_r12_Cells:Meets Tryz.prog 96 s_r12_Cells:=meets_fn (C:=C_r12_Cells) (cfg_ok tok eqs_ok ⟨⟨m_r12_Cell,Tryz.call117⟩,trivial⟩) mixed Tryz.func96 rfl rfl rfl (by kernel_rfl) (by kernel_rfl)
theorem Fn.r12_Cells_eq (a0:(List Canon)) (a1:Int):Fn.r12_Cells (a0,a1,()) =
 (Fn.r12_Cells_L2 ((a0,(a1,(a0,((((List.length a0):Nat):Int),((0:Int),()))))),((),()))).bind some :=
 (fE C_r12_Cells ins_r12_Cells outs_r12_Cells Tryz.f96 (a0,a1,())).trans (by kernel_rfl)
theorem Fn.r12_Cells_L2_eq (v0:(List Canon)) (v1:Int) (v7:(List Canon)) (v8:Int) (v9:Int):Fn.r12_Cells_L2 ((v0,v1,v7,v8,v9,()),(),()) =
 bif (decide (v9<v8)) then
 bif (inR v9 (List.length v7)) then
 (Fn.r12_Cell ((List.getD v7 (Int.toNat v9) zCanon),())).bind fun y1 =>
 bif (!y1.2.1) then
 some ((),(false,()))
 else
 (Fn.r12_Cells_L2 ((v0,(v1,(v7,(v8,((IntKind.wrap .i64 (v9+(1:Int))),()))))),((),()))).bind some
 else none
 else
 some ((),((decide ((((List.length v0):Nat):Int)≤v1)),())) :=
 (aE C_r12_Cells ins_r12_Cells outs_r12_Cells Tryz.f96 2 ((v0,v1,v7,v8,v9,()),(),())).trans (by kernel_rfl)
def ins_r17_Valid:List Par:=[(ty78,.data)]
def outs_r17_Valid:List Par:=[(ty4,.data)]
def C_r17_Valid:FnC:={ G:=⟨tab,eqs,ctrL [(96,s_r12_Cells)]⟩,nt:=83,mv:=mvL [(0,0),(6,1)],pre:=preL [],cuts:=[4,10],sh:=shL [(4,⟨[(18,ty75,.data),(19,ty2,.data),(20,ty2,.data)],[(1,1,0)],[],[(1,ty77,.imm)],[]⟩),(10,⟨[(29,ty76,.data),(30,ty2,.data),(31,ty2,.data)],[(1,1,0)],[],[(1,ty77,.imm)],[]⟩)],anchs:=[] }
def Fn.r17_Valid_L4 (d:(((List (List Canon))×(Int×(Int×Unit)))×((Files×Unit)×Unit))):Option (Unit×(Bool×Unit)):=aO C_r17_Valid ins_r17_Valid outs_r17_Valid Tryz.f101 4 d
def Fn.r17_Valid_L10 (d:(((List Open)×(Int×(Int×Unit)))×((Files×Unit)×Unit))):Option (Unit×(Bool×Unit)):=aO C_r17_Valid ins_r17_Valid outs_r17_Valid Tryz.f101 10 d
def Fn.r17_Valid (x:(Files×Unit)):Option (Unit×(Bool×Unit)):=fO C_r17_Valid ins_r17_Valid outs_r17_Valid Tryz.f101 x
def s_r17_Valid:Sum:=⟨ins_r17_Valid,outs_r17_Valid,Fn.r17_Valid,none⟩
theorem m_r17_Valid:Meets Tryz.prog 101 s_r17_Valid:=meets_fn (C:=C_r17_Valid) (cfg_ok tok eqs_ok ⟨⟨m_r12_Cells,Tryz.call96⟩,trivial⟩) mixed Tryz.func101 rfl rfl rfl (by kernel_rfl) (by kernel_rfl)
theorem Fn.r17_Valid_eq (a0:Files):Fn.r17_Valid (a0,()) =
 bif (bif (decide ((4:Int)<(((List.length a0.1):Nat):Int))) then true else (!(decide ((((List.length a0.2):Nat):Int)=(8:Int))))) then
 some ((),(false,()))
 else
 (Fn.r17_Valid_L4 ((a0.1,((((List.length a0.1):Nat):Int),((0:Int),()))),((a0,()),()))).bind some :=
 (fE C_r17_Valid ins_r17_Valid outs_r17_Valid Tryz.f101 (a0,())).trans (by kernel_rfl)
theorem Fn.r17_Valid_L4_eq (v18:(List (List Canon))) (v19:Int) (v20:Int) (r1:Files):Fn.r17_Valid_L4 ((v18,v19,v20,()),(r1,()),()) =
 bif (decide (v20<v19)) then
 bif (inR v20 (List.length v18)) then
 (Fn.r12_Cells ((List.getD v18 (Int.toNat v20) ([]:(List Canon))),((64:Int),()))).bind fun y1 =>
 bif (!y1.2.1) then
 some ((),(false,()))
 else
 (Fn.r17_Valid_L4 ((v18,(v19,((IntKind.wrap .i64 (v20+(1:Int))),()))),((r1,()),()))).bind some
 else none
 else
 (Fn.r17_Valid_L10 ((r1.2,((((List.length r1.2):Nat):Int),((0:Int),()))),((r1,()),()))).bind some :=
 (aE C_r17_Valid ins_r17_Valid outs_r17_Valid Tryz.f101 4 ((v18,v19,v20,()),(r1,()),())).trans (by kernel_rfl)
theorem Fn.r17_Valid_L10_eq (v29:(List Open)) (v30:Int) (v31:Int) (r1:Files):Fn.r17_Valid_L10 ((v29,v30,v31,()),(r1,()),()) =
 bif (decide (v31<v30)) then
 bif (inR v31 (List.length v29)) then
 lt (List.getD v29 (Int.toNat v31) zOpen) fun x1 =>
 lt (bif (bif (bif (decide (x1.1=(-(1:Int)))) then (bif (!(decide (x1.2.1=(0:Int)))) then true else x1.2.2) else false) then true else (decide (x1.1<(-(1:Int))))) then true else (decide ((((List.length r1.1):Nat):Int)≤x1.1))) fun x2 =>
 bif ((!((!x2)&&((decide ((0:Int)≤x1.1))&&((!(decide (x1.2.1<(0:Int))))&&true))))||(inR x1.1 (List.length r1.1))) then
 bif (bif x2 then true else (bif (decide ((0:Int)≤x1.1)) then (bif (decide (x1.2.1<(0:Int))) then true else (decide ((((List.length (List.getD r1.1 (Int.toNat x1.1) ([]:(List Canon)))):Nat):Int)<x1.2.1))) else false)) then
 some ((),(false,()))
 else
 (Fn.r17_Valid_L10 ((v29,(v30,((IntKind.wrap .i64 (v31+(1:Int))),()))),((r1,()),()))).bind some
 else none
 else none
 else
 some ((),(true,())) :=
 (aE C_r17_Valid ins_r17_Valid outs_r17_Valid Tryz.f101 10 ((v29,v30,v31,()),(r1,()),())).trans (by kernel_rfl)
def ins_r18_Ordered:List Par:=[(ty79,.data)]
def outs_r18_Ordered:List Par:=[(ty4,.data)]
def C_r18_Ordered:FnC:={ G:=⟨tab,eqs,ctrL []⟩,nt:=33,mv:=mvL [(1,1),(4,17)],pre:=preL [],cuts:=[2],sh:=shL [(2,⟨[(5,ty79,.data),(6,ty2,.data),(7,ty2,.data)],[],[],[],[]⟩)],anchs:=[] }
def Fn.r18_Ordered_L2 (d:(((List Output)×(Int×(Int×Unit)))×(Unit×Unit))):Option (Unit×(Bool×Unit)):=aO C_r18_Ordered ins_r18_Ordered outs_r18_Ordered Tryz.f102 2 d
def Fn.r18_Ordered (x:((List Output)×Unit)):Option (Unit×(Bool×Unit)):=fO C_r18_Ordered ins_r18_Ordered outs_r18_Ordered Tryz.f102 x
def s_r18_Ordered:Sum:=⟨ins_r18_Ordered,outs_r18_Ordered,Fn.r18_Ordered,none⟩
theorem m_r18_Ordered:Meets Tryz.prog 102 s_r18_Ordered:=meets_fn (C:=C_r18_Ordered) (cfg_ok tok eqs_ok trivial) mixed Tryz.func102 rfl rfl rfl (by kernel_rfl) (by kernel_rfl)
theorem Fn.r18_Ordered_eq (a0:(List Output)):Fn.r18_Ordered (a0,()) =
 (Fn.r18_Ordered_L2 ((a0,((((List.length a0):Nat):Int),((0:Int),()))),((),()))).bind some :=
 (fE C_r18_Ordered ins_r18_Ordered outs_r18_Ordered Tryz.f102 (a0,())).trans (by kernel_rfl)
theorem Fn.r18_Ordered_L2_eq (v5:(List Output)) (v6:Int) (v7:Int):Fn.r18_Ordered_L2 ((v5,v6,v7,()),(),()) =
 bif (decide (v7<v6)) then
 bif (inR v7 (List.length v5)) then
 lt (List.getD v5 (Int.toNat v7) zOutput) fun x1 =>
 bif (bif (bif (bif (!(decide (x1.1=v7))) then true else (decide (x1.2.1<(0:Int)))) then true else (decide ((2:Int)≤x1.2.1))) then true else (decide ((16:Int)<(((List.length x1.2.2):Nat):Int)))) then
 some ((),(false,()))
 else
 (Fn.r18_Ordered_L2 ((v5,(v6,((IntKind.wrap .i64 (v7+(1:Int))),()))),((),()))).bind some
 else none
 else
 some ((),(true,())) :=
 (aE C_r18_Ordered ins_r18_Ordered outs_r18_Ordered Tryz.f102 2 ((v5,v6,v7,()),(),())).trans (by kernel_rfl)
def ins_r19_Valid:List Par:=[(ty81,.data)]
def outs_r19_Valid:List Par:=[(ty4,.data)]
def C_r19_Valid:FnC:={ G:=⟨tab,eqs,ctrL [(96,s_r12_Cells),(101,s_r17_Valid),(102,s_r18_Ordered)]⟩,nt:=62,mv:=mvL [(0,0),(4,1),(10,2),(13,30)],pre:=preL [],cuts:=[2,8],sh:=shL [(2,⟨[(8,ty36,.data),(9,ty2,.data),(10,ty2,.data)],[(1,1,0)],[],[(1,ty80,.imm)],[]⟩),(8,⟨[(19,ty79,.data),(20,ty2,.data),(21,ty2,.data)],[(1,1,0)],[],[(1,ty80,.imm)],[]⟩)],anchs:=[] }
def Fn.r19_Valid_L2 (d:(((List (List Int))×(Int×(Int×Unit)))×((Outside×Unit)×Unit))):Option (Unit×(Bool×Unit)):=aO C_r19_Valid ins_r19_Valid outs_r19_Valid Tryz.f83 2 d
def Fn.r19_Valid_L8 (d:(((List Output)×(Int×(Int×Unit)))×((Outside×Unit)×Unit))):Option (Unit×(Bool×Unit)):=aO C_r19_Valid ins_r19_Valid outs_r19_Valid Tryz.f83 8 d
def Fn.r19_Valid (x:(Outside×Unit)):Option (Unit×(Bool×Unit)):=fO C_r19_Valid ins_r19_Valid outs_r19_Valid Tryz.f83 x
def s_r19_Valid:Sum:=⟨ins_r19_Valid,outs_r19_Valid,Fn.r19_Valid,none⟩
theorem m_r19_Valid:Meets Tryz.prog 83 s_r19_Valid:=meets_fn (C:=C_r19_Valid) (cfg_ok tok eqs_ok ⟨⟨m_r12_Cells,Tryz.call96⟩,⟨⟨m_r17_Valid,Tryz.call101⟩,⟨⟨m_r18_Ordered,Tryz.call102⟩,trivial⟩⟩⟩) mixed Tryz.func83 rfl rfl rfl (by kernel_rfl) (by kernel_rfl)
theorem Fn.r19_Valid_eq (a0:Outside):Fn.r19_Valid (a0,()) =
 (Fn.r19_Valid_L2 ((a0.2.2.1,((((List.length a0.2.2.1):Nat):Int),((0:Int),()))),((a0,()),()))).bind some :=
 (fE C_r19_Valid ins_r19_Valid outs_r19_Valid Tryz.f83 (a0,())).trans (by kernel_rfl)
theorem Fn.r19_Valid_L2_eq (v8:(List (List Int))) (v9:Int) (v10:Int) (r1:Outside):Fn.r19_Valid_L2 ((v8,v9,v10,()),(r1,()),()) =
 bif (decide (v10<v9)) then
 bif (inR v10 (List.length v8)) then
 bif (decide ((64:Int)<(((List.length (List.getD v8 (Int.toNat v10) ([]:(List Int)))):Nat):Int))) then
 some ((),(false,()))
 else
 (Fn.r19_Valid_L2 ((v8,(v9,((IntKind.wrap .i64 (v10+(1:Int))),()))),((r1,()),()))).bind some
 else none
 else
 (Fn.r19_Valid_L8 ((r1.2.2.2.2,((((List.length r1.2.2.2.2):Nat):Int),((0:Int),()))),((r1,()),()))).bind some :=
 (aE C_r19_Valid ins_r19_Valid outs_r19_Valid Tryz.f83 2 ((v8,v9,v10,()),(r1,()),())).trans (by kernel_rfl)
theorem Fn.r19_Valid_L8_eq (v19:(List Output)) (v20:Int) (v21:Int) (r1:Outside):Fn.r19_Valid_L8 ((v19,v20,v21,()),(r1,()),()) =
 bif (decide (v21<v20)) then
 bif (inR v21 (List.length v19)) then
 (Fn.r12_Cells ((List.getD v19 (Int.toNat v21) zOutput).2.2,((16:Int),()))).bind fun y1 =>
 bif (!y1.2.1) then
 some ((),(false,()))
 else
 (Fn.r19_Valid_L8 ((v19,(v20,((IntKind.wrap .i64 (v21+(1:Int))),()))),((r1,()),()))).bind some
 else none
 else
 lt (bif (bif (decide ((((List.length r1.1):Nat):Int)≤(64:Int))) then (decide ((((List.length r1.2.1):Nat):Int)≤(64:Int))) else false) then (decide ((((List.length r1.2.2.1):Nat):Int)≤(2:Int))) else false) fun x4 =>
 (bif (x4&&true) then (Fn.r17_Valid (r1.2.2.2.1,())) else (Option.some ((),(false,())))).bind fun y2 =>
 lt (bif (bif x4 then y2.2.1 else false) then (decide ((((List.length r1.2.2.2.2):Nat):Int)≤(200:Int))) else false) fun x5 =>
 (bif (x5&&true) then (Fn.r18_Ordered (r1.2.2.2.2,())) else (Option.some ((),(false,())))).bind fun y3 =>
 some ((),((bif x5 then y3.2.1 else false),())) :=
 (aE C_r19_Valid ins_r19_Valid outs_r19_Valid Tryz.f83 8 ((v19,v20,v21,()),(r1,()),())).trans (by kernel_rfl)
def ins_r02_Inside:List Par:=[(ty22,.data),(ty129,.data)]
def outs_r02_Inside:List Par:=[(ty4,.data)]
def C_r02_Inside:FnC:={ G:=⟨tab,eqs,ctrL []⟩,nt:=30,mv:=mvL [(0,0)],pre:=preL [],cuts:=[],sh:=shL [],anchs:=[] }
def Fn.r02_Inside (x:((List Int)×(Place2×Unit))):Option (Unit×(Bool×Unit)):=fO C_r02_Inside ins_r02_Inside outs_r02_Inside Tryz.f72 x
def s_r02_Inside:Sum:=⟨ins_r02_Inside,outs_r02_Inside,Fn.r02_Inside,none⟩
theorem m_r02_Inside:Meets Tryz.prog 72 s_r02_Inside:=meets_fn (C:=C_r02_Inside) (cfg_ok tok eqs_ok trivial) mixed Tryz.func72 rfl rfl rfl (by kernel_rfl) (by kernel_rfl)
theorem Fn.r02_Inside_eq (a0:(List Int)) (a1:Place2):Fn.r02_Inside (a0,a1,()) =
 lt (bif (bif (decide ((0:Int)≤a1.1)) then (decide (a1.1<(((List.length a0):Nat):Int))) else false) then (decide ((0:Int)≤a1.2)) else false) fun x1 =>
 bif ((!(x1&&true))||(inR a1.1 (List.length a0))) then
 some ((),((bif x1 then (decide (a1.2<(List.getD a0 (Int.toNat a1.1) (0:Int)))) else false),()))
 else none :=
 (fE C_r02_Inside ins_r02_Inside outs_r02_Inside Tryz.f72 (a0,a1,())).trans (by kernel_rfl)
def ins_r03_Proper:List Par:=[(ty22,.data),(ty95,.data)]
def outs_r03_Proper:List Par:=[(ty4,.data)]
def C_r03_Proper:FnC:={ G:=⟨tab,eqs,ctrL [(72,s_r02_Inside)]⟩,nt:=32,mv:=mvL [(0,0),(6,10),(6,9)],pre:=preL [],cuts:=[],sh:=shL [],anchs:=[] }
def Fn.r03_Proper (x:((List Int)×(Canon×Unit))):Option (Unit×(Bool×Unit)):=fO C_r03_Proper ins_r03_Proper outs_r03_Proper Tryz.f61 x
def s_r03_Proper:Sum:=⟨ins_r03_Proper,outs_r03_Proper,Fn.r03_Proper,none⟩
theorem m_r03_Proper:Meets Tryz.prog 61 s_r03_Proper:=meets_fn (C:=C_r03_Proper) (cfg_ok tok eqs_ok ⟨⟨m_r02_Inside,Tryz.call72⟩,trivial⟩) mixed Tryz.func61 rfl rfl rfl (by kernel_rfl) (by kernel_rfl)
theorem Fn.r03_Proper_eq (a0:(List Int)) (a1:Canon):Fn.r03_Proper (a0,a1,()) =
 lt ((),((bif (decide (a1.2.2.1=(0:Int))) then (decide (a1.2.2.2=(0:Int))) else false),())) fun x3 =>
 bif (decide (a1.1=(0:Int))) then
 bif (decide (a1.1=(0:Int))) then
 some x3
 else
 bif (decide (a1.1=(1:Int))) then
 (bif ((decide (a1.2.1=(0:Int)))&&true) then (Fn.r02_Inside (a0,((a1.2.2.1,a1.2.2.2),()))) else (Option.some ((),(false,())))).bind fun y1 =>
 some ((),((bif (decide (a1.2.1=(0:Int))) then y1.2.1 else false),()))
 else
 some ((),(false,()))
 else
 bif (decide (a1.1=(2:Int))) then
 some x3
 else
 bif (decide (a1.1=(1:Int))) then
 (bif ((decide (a1.2.1=(0:Int)))&&true) then (Fn.r02_Inside (a0,((a1.2.2.1,a1.2.2.2),()))) else (Option.some ((),(false,())))).bind fun y2 =>
 some ((),((bif (decide (a1.2.1=(0:Int))) then y2.2.1 else false),()))
 else
 some ((),(false,())) :=
 (fE C_r03_Proper ins_r03_Proper outs_r03_Proper Tryz.f61 (a0,a1,())).trans (by kernel_rfl)
def ins_r21_proper:List Par:=[(ty22,.data),(ty78,.data)]
def outs_r21_proper:List Par:=[(ty4,.data)]
def C_r21_proper:FnC:={ G:=⟨tab,eqs,ctrL [(61,s_r03_Proper)]⟩,nt:=28,mv:=mvL [(0,0),(1,2),(4,1)],pre:=preL [],cuts:=[2,5],sh:=shL [(2,⟨[(0,ty22,.data),(10,ty75,.data),(11,ty2,.data),(12,ty2,.data)],[],[],[],[]⟩),(5,⟨[(0,ty22,.data),(10,ty75,.data),(11,ty2,.data),(12,ty2,.data),(16,ty93,.data),(17,ty2,.data),(18,ty2,.data)],[],[],[],[]⟩)],anchs:=[] }
def Fn.r21_proper_L2 (d:(((List Int)×((List (List Canon))×(Int×(Int×Unit))))×(Unit×Unit))):Option (Unit×(Bool×Unit)):=aO C_r21_proper ins_r21_proper outs_r21_proper Tryz.f84 2 d
def Fn.r21_proper_L5 (d:(((List Int)×((List (List Canon))×(Int×(Int×((List Canon)×(Int×(Int×Unit)))))))×(Unit×Unit))):Option (Unit×(Bool×Unit)):=aO C_r21_proper ins_r21_proper outs_r21_proper Tryz.f84 5 d
def Fn.r21_proper (x:((List Int)×(Files×Unit))):Option (Unit×(Bool×Unit)):=fO C_r21_proper ins_r21_proper outs_r21_proper Tryz.f84 x
def s_r21_proper:Sum:=⟨ins_r21_proper,outs_r21_proper,Fn.r21_proper,none⟩
theorem m_r21_proper:Meets Tryz.prog 84 s_r21_proper:=meets_fn (C:=C_r21_proper) (cfg_ok tok eqs_ok ⟨⟨m_r03_Proper,Tryz.call61⟩,trivial⟩) mixed Tryz.func84 rfl rfl rfl (by kernel_rfl) (by kernel_rfl)
theorem Fn.r21_proper_eq (a0:(List Int)) (a1:Files):Fn.r21_proper (a0,a1,()) =
 (Fn.r21_proper_L2 ((a0,(a1.1,((((List.length a1.1):Nat):Int),((0:Int),())))),((),()))).bind some :=
 (fE C_r21_proper ins_r21_proper outs_r21_proper Tryz.f84 (a0,a1,())).trans (by kernel_rfl)
theorem Fn.r21_proper_L2_eq (v0:(List Int)) (v10:(List (List Canon))) (v11:Int) (v12:Int):Fn.r21_proper_L2 ((v0,v10,v11,v12,()),(),()) =
 bif (decide (v12<v11)) then
 bif (inR v12 (List.length v10)) then
 lt (List.getD v10 (Int.toNat v12) ([]:(List Canon))) fun x1 =>
 (Fn.r21_proper_L5 ((v0,(v10,(v11,(v12,(x1,((((List.length x1):Nat):Int),((0:Int),()))))))),((),()))).bind some
 else none
 else
 some ((),(true,())) :=
 (aE C_r21_proper ins_r21_proper outs_r21_proper Tryz.f84 2 ((v0,v10,v11,v12,()),(),())).trans (by kernel_rfl)
theorem Fn.r21_proper_L5_eq (v0:(List Int)) (v10:(List (List Canon))) (v11:Int) (v12:Int) (v16:(List Canon)) (v17:Int) (v18:Int):Fn.r21_proper_L5 ((v0,v10,v11,v12,v16,v17,v18,()),(),()) =
 bif (decide (v18<v17)) then
 bif (inR v18 (List.length v16)) then
 (Fn.r03_Proper (v0,((List.getD v16 (Int.toNat v18) zCanon),()))).bind fun y1 =>
 bif (!y1.2.1) then
 some ((),(false,()))
 else
 (Fn.r21_proper_L5 ((v0,(v10,(v11,(v12,(v16,(v17,((IntKind.wrap .i64 (v18+(1:Int))),()))))))),((),()))).bind some
 else none
 else
 (Fn.r21_proper_L2 ((v0,(v10,(v11,((IntKind.wrap .i64 (v12+(1:Int))),())))),((),()))).bind some :=
 (aE C_r21_proper ins_r21_proper outs_r21_proper Tryz.f84 5 ((v0,v10,v11,v12,v16,v17,v18,()),(),())).trans (by kernel_rfl)
def ins_r18_CopyInputs:List Par:=[(ty36,.data)]
def outs_r18_CopyInputs:List Par:=[(ty36,.own (.own none (.own none .imm)))]
def C_r18_CopyInputs:FnC:={ G:=⟨tab,eqs,ctrL []⟩,nt:=19,mv:=mvL [(2,1),(5,4),(5,3),(5,2)],pre:=preL [],cuts:=[3],sh:=shL [(3,⟨[(3,ty36,.own (.own none (.own none .imm))),(6,ty36,.data),(7,ty2,.data),(8,ty2,.data)],[],[],[],[]⟩)],anchs:=[] }
def Fn.r18_CopyInputs_L3 (d:(((List (List Int))×((List (List Int))×(Int×(Int×Unit))))×(Unit×Unit))):Option (Unit×((List (List Int))×Unit)):=aO C_r18_CopyInputs ins_r18_CopyInputs outs_r18_CopyInputs Tryz.f103 3 d
def Fn.r18_CopyInputs (x:((List (List Int))×Unit)):Option (Unit×((List (List Int))×Unit)):=fO C_r18_CopyInputs ins_r18_CopyInputs outs_r18_CopyInputs Tryz.f103 x
def s_r18_CopyInputs:Sum:=⟨ins_r18_CopyInputs,outs_r18_CopyInputs,Fn.r18_CopyInputs,none⟩
theorem m_r18_CopyInputs:Meets Tryz.prog 103 s_r18_CopyInputs:=meets_fn (C:=C_r18_CopyInputs) (cfg_ok tok eqs_ok trivial) mixed Tryz.func103 rfl rfl rfl (by kernel_rfl) (by kernel_rfl)
theorem Fn.r18_CopyInputs_eq (a0:(List (List Int))):Fn.r18_CopyInputs (a0,()) =
 (Fn.r18_CopyInputs_L3 ((([]:(List (List Int))),(a0,((((List.length a0):Nat):Int),((0:Int),())))),((),()))).bind some :=
 (fE C_r18_CopyInputs ins_r18_CopyInputs outs_r18_CopyInputs Tryz.f103 (a0,())).trans (by kernel_rfl)
theorem Fn.r18_CopyInputs_L3_eq (v3:(List (List Int))) (v6:(List (List Int))) (v7:Int) (v8:Int):Fn.r18_CopyInputs_L3 ((v3,v6,v7,v8,()),(),()) =
 bif (decide (v8<v7)) then
 bif (inR v8 (List.length v6)) then
 lt (List.getD v6 (Int.toNat v8) ([]:(List Int))) fun x1 =>
 bif (Nat.ble ((List.length ([]:(List Int)))+(List.length x1)) 4294967296) then
 lt (List.cons (List.append ([]:(List Int)) x1) ([]:(List (List Int)))) fun x2 =>
 bif (Nat.ble ((List.length v3)+(List.length x2)) 4294967296) then
 (Fn.r18_CopyInputs_L3 (((List.append v3 x2),(v6,(v7,((IntKind.wrap .i64 (v8+(1:Int))),())))),((),()))).bind some
 else none
 else none
 else none
 else
 some ((),(v3,())) :=
 (aE C_r18_CopyInputs ins_r18_CopyInputs outs_r18_CopyInputs Tryz.f103 3 ((v3,v6,v7,v8,()),(),())).trans (by kernel_rfl)
def ins_r17_Copy:List Par:=[(ty78,.data)]
def outs_r17_Copy:List Par:=[(ty78,.own (.pr (.own none (.own none (.pr .imm (.pr .imm (.pr .imm .imm))))) (.own none (.pr .imm (.pr .imm .imm)))))]
def C_r17_Copy:FnC:={ G:=⟨tab,eqs,ctrL []⟩,nt:=26,mv:=mvL [(0,0),(1,5),(1,3),(2,2),(5,7),(5,4),(5,3),(7,1)],pre:=preL [],cuts:=[3],sh:=shL [(3,⟨[(11,ty75,.data),(12,ty2,.data),(13,ty2,.data)],[(2,2,0),(3,3,0)],[],[(2,ty77,(.pr (.own none (.own none (.pr .imm (.pr .imm (.pr .imm .imm))))) (.own none (.pr .imm (.pr .imm .imm))))),(3,ty77,(.pr (.own none (.own none (.pr .imm (.pr .imm (.pr .imm .imm))))) (.own none (.pr .imm (.pr .imm .imm)))))],[]⟩)],anchs:=[] }
def Fn.r17_Copy_L3 (d:(((List (List Canon))×(Int×(Int×Unit)))×((Files×(Files×Unit))×Unit))):Option (Unit×(Files×Unit)):=aO C_r17_Copy ins_r17_Copy outs_r17_Copy Tryz.f104 3 d
def Fn.r17_Copy (x:(Files×Unit)):Option (Unit×(Files×Unit)):=fO C_r17_Copy ins_r17_Copy outs_r17_Copy Tryz.f104 x
def s_r17_Copy:Sum:=⟨ins_r17_Copy,outs_r17_Copy,Fn.r17_Copy,none⟩
theorem m_r17_Copy:Meets Tryz.prog 104 s_r17_Copy:=meets_fn (C:=C_r17_Copy) (cfg_ok tok eqs_ok trivial) mixed Tryz.func104 rfl rfl rfl (by kernel_rfl) (by kernel_rfl)
theorem Fn.r17_Copy_eq (a0:Files):Fn.r17_Copy (a0,()) =
 bif (Nat.ble ((List.length ([]:(List Open)))+(List.length a0.2)) 4294967296) then
 (Fn.r17_Copy_L3 ((a0.1,((((List.length a0.1):Nat):Int),((0:Int),()))),(((([]:(List (List Canon))),([]:(List Open))),((([]:(List (List Canon))),(List.append ([]:(List Open)) a0.2)),())),()))).bind some
 else none :=
 (fE C_r17_Copy ins_r17_Copy outs_r17_Copy Tryz.f104 (a0,())).trans (by kernel_rfl)
theorem Fn.r17_Copy_L3_eq (v11:(List (List Canon))) (v12:Int) (v13:Int) (r2:Files) (r3:Files):Fn.r17_Copy_L3 ((v11,v12,v13,()),(r2,r3,()),()) =
 bif (decide (v13<v12)) then
 bif (inR v13 (List.length v11)) then
 lt (List.getD v11 (Int.toNat v13) ([]:(List Canon))) fun x1 =>
 bif (Nat.ble ((List.length ([]:(List Canon)))+(List.length x1)) 4294967296) then
 lt (List.cons (List.append ([]:(List Canon)) x1) ([]:(List (List Canon)))) fun x2 =>
 bif (Nat.ble ((List.length r3.1)+(List.length x2)) 4294967296) then
 (Fn.r17_Copy_L3 ((v11,(v12,((IntKind.wrap .i64 (v13+(1:Int))),()))),((r2,(((List.append r3.1 x2),r3.2),())),()))).bind some
 else none
 else none
 else none
 else
 some ((),((r3.1,r3.2),())) :=
 (aE C_r17_Copy ins_r17_Copy outs_r17_Copy Tryz.f104 3 ((v11,v12,v13,()),(r2,r3,()),())).trans (by kernel_rfl)
def ins_r18_Copy:List Par:=[(ty79,.data)]
def outs_r18_Copy:List Par:=[(ty79,.own (.own none (.pr .imm (.pr .imm (.own none (.pr .imm (.pr .imm (.pr .imm .imm))))))))]
def C_r18_Copy:FnC:={ G:=⟨tab,eqs,ctrL []⟩,nt:=22,mv:=mvL [(2,1),(5,4),(6,3),(6,2)],pre:=preL [],cuts:=[3],sh:=shL [(3,⟨[(3,ty79,.own (.own none (.pr .imm (.pr .imm (.own none (.pr .imm (.pr .imm (.pr .imm .imm)))))))),(6,ty79,.data),(7,ty2,.data),(8,ty2,.data)],[],[],[],[]⟩)],anchs:=[] }
def Fn.r18_Copy_L3 (d:(((List Output)×((List Output)×(Int×(Int×Unit))))×(Unit×Unit))):Option (Unit×((List Output)×Unit)):=aO C_r18_Copy ins_r18_Copy outs_r18_Copy Tryz.f105 3 d
def Fn.r18_Copy (x:((List Output)×Unit)):Option (Unit×((List Output)×Unit)):=fO C_r18_Copy ins_r18_Copy outs_r18_Copy Tryz.f105 x
def s_r18_Copy:Sum:=⟨ins_r18_Copy,outs_r18_Copy,Fn.r18_Copy,none⟩
theorem m_r18_Copy:Meets Tryz.prog 105 s_r18_Copy:=meets_fn (C:=C_r18_Copy) (cfg_ok tok eqs_ok trivial) mixed Tryz.func105 rfl rfl rfl (by kernel_rfl) (by kernel_rfl)
theorem Fn.r18_Copy_eq (a0:(List Output)):Fn.r18_Copy (a0,()) =
 (Fn.r18_Copy_L3 ((([]:(List Output)),(a0,((((List.length a0):Nat):Int),((0:Int),())))),((),()))).bind some :=
 (fE C_r18_Copy ins_r18_Copy outs_r18_Copy Tryz.f105 (a0,())).trans (by kernel_rfl)
theorem Fn.r18_Copy_L3_eq (v3:(List Output)) (v6:(List Output)) (v7:Int) (v8:Int):Fn.r18_Copy_L3 ((v3,v6,v7,v8,()),(),()) =
 bif (decide (v8<v7)) then
 bif (inR v8 (List.length v6)) then
 lt (List.getD v6 (Int.toNat v8) zOutput) fun x1 =>
 bif (Nat.ble ((List.length ([]:(List Canon)))+(List.length x1.2.2)) 4294967296) then
 lt (List.cons (x1.1,(x1.2.1,(List.append ([]:(List Canon)) x1.2.2))) ([]:(List Output))) fun x2 =>
 bif (Nat.ble ((List.length v3)+(List.length x2)) 4294967296) then
 (Fn.r18_Copy_L3 (((List.append v3 x2),(v6,(v7,((IntKind.wrap .i64 (v8+(1:Int))),())))),((),()))).bind some
 else none
 else none
 else none
 else
 some ((),(v3,())) :=
 (aE C_r18_Copy ins_r18_Copy outs_r18_Copy Tryz.f105 3 ((v3,v6,v7,v8,()),(),())).trans (by kernel_rfl)
def ins_r19_Copy:List Par:=[(ty81,.data)]
def outs_r19_Copy:List Par:=[(ty81,.own (.pr (.own none .imm) (.pr (.own none .imm) (.pr (.own none (.own none .imm)) (.pr (.pr (.own none (.own none (.pr .imm (.pr .imm (.pr .imm .imm))))) (.own none (.pr .imm (.pr .imm .imm)))) (.own none (.pr .imm (.pr .imm (.own none (.pr .imm (.pr .imm (.pr .imm .imm))))))))))))]
def C_r19_Copy:FnC:={ G:=⟨tab,eqs,ctrL [(103,s_r18_CopyInputs),(104,s_r17_Copy),(105,s_r18_Copy)]⟩,nt:=19,mv:=mvL [(0,0),(1,16),(1,15),(1,14)],pre:=preL [],cuts:=[],sh:=shL [],anchs:=[] }
def Fn.r19_Copy (x:(Outside×Unit)):Option (Unit×(Outside×Unit)):=fO C_r19_Copy ins_r19_Copy outs_r19_Copy Tryz.f85 x
def s_r19_Copy:Sum:=⟨ins_r19_Copy,outs_r19_Copy,Fn.r19_Copy,none⟩
theorem m_r19_Copy:Meets Tryz.prog 85 s_r19_Copy:=meets_fn (C:=C_r19_Copy) (cfg_ok tok eqs_ok ⟨⟨m_r18_CopyInputs,Tryz.call103⟩,⟨⟨m_r17_Copy,Tryz.call104⟩,⟨⟨m_r18_Copy,Tryz.call105⟩,trivial⟩⟩⟩) mixed Tryz.func85 rfl rfl rfl (by kernel_rfl) (by kernel_rfl)
theorem Fn.r19_Copy_eq (a0:Outside):Fn.r19_Copy (a0,()) =
 bif (Nat.ble ((List.length ([]:(List Int)))+(List.length a0.1)) 4294967296) then
 bif (Nat.ble ((List.length ([]:(List Int)))+(List.length a0.2.1)) 4294967296) then
 (Fn.r18_CopyInputs (a0.2.2.1,())).bind fun y1 =>
 (Fn.r17_Copy (a0.2.2.2.1,())).bind fun y2 =>
 (Fn.r18_Copy (a0.2.2.2.2,())).bind fun y3 =>
 some ((),(((List.append ([]:(List Int)) a0.1),((List.append ([]:(List Int)) a0.2.1),(y1.2.1,((y2.2.1.1,y2.2.1.2),y3.2.1)))),()))
 else none
 else none :=
 (fE C_r19_Copy ins_r19_Copy outs_r19_Copy Tryz.f85 (a0,())).trans (by kernel_rfl)
def ins_r15_New:List Par:=[]
def outs_r15_New:List Par:=[(ty84,.own (.pr (.own none .imm) (.own none (.own none .imm))))]
def C_r15_New:FnC:={ G:=⟨tab,eqs,ctrL []⟩,nt:=18,mv:=mvL [(1,4),(1,2),(7,1)],pre:=preL [],cuts:=[3],sh:=shL [(3,⟨[(8,ty2,.data),(9,ty2,.data)],[(0,0,0),(1,1,0)],[],[(0,ty83,(.pr (.own none .imm) (.own none (.own none .imm)))),(1,ty83,(.pr (.own none .imm) (.own none (.own none .imm))))],[]⟩)],anchs:=[] }
def Fn.r15_New_L3 (d:((Int×(Int×Unit))×((Locks×(Locks×Unit))×Unit))):Option (Unit×(Locks×Unit)):=aO C_r15_New ins_r15_New outs_r15_New Tryz.f86 3 d
def Fn.r15_New (x:Unit):Option (Unit×(Locks×Unit)):=fO C_r15_New ins_r15_New outs_r15_New Tryz.f86 x
def s_r15_New:Sum:=⟨ins_r15_New,outs_r15_New,Fn.r15_New,none⟩
theorem m_r15_New:Meets Tryz.prog 86 s_r15_New:=meets_fn (C:=C_r15_New) (cfg_ok tok eqs_ok trivial) mixed Tryz.func86 rfl rfl rfl (by kernel_rfl) (by kernel_rfl)
theorem Fn.r15_New_eq:Fn.r15_New () =
 bif (((decide (0≤(4:Int)))&&(decide ((4:Int)≤(4:Int))))&&(decide ((4:Int)≤4294967296))) then
 bif (((decide (0≤(4:Int)))&&(decide ((4:Int)≤(4:Int))))&&(decide ((4:Int)≤4294967296))) then
 lt (List.replicate (Int.toNat (4:Int)) (0:Int)) fun x1 =>
 (Fn.r15_New_L3 (((((List.length x1):Nat):Int),((0:Int),())),(((([]:(List Int)),([]:(List (List Int)))),((x1,(List.replicate (Int.toNat (4:Int)) ([]:(List Int)))),())),()))).bind some
 else none
 else none :=
 (fE C_r15_New ins_r15_New outs_r15_New Tryz.f86 ()).trans (by kernel_rfl)
theorem Fn.r15_New_L3_eq (v8:Int) (v9:Int) (r0:Locks) (r1:Locks):Fn.r15_New_L3 ((v8,v9,()),(r0,r1,()),()) =
 bif (decide (v9<v8)) then
 bif (inR v9 (List.length r1.1)) then
 (Fn.r15_New_L3 ((v8,((IntKind.wrap .i64 (v9+(1:Int))),())),((r0,(((List.set r1.1 (0+(Int.toNat v9)) (-(1:Int))),r1.2),())),()))).bind some
 else none
 else
 some ((),((r1.1,r1.2),())) :=
 (aE C_r15_New ins_r15_New outs_r15_New Tryz.f86 3 ((v8,v9,()),(r0,r1,()),())).trans (by kernel_rfl)
def ins_r21_Begin:List Par:=[(ty38,.data),(ty25,.data),(ty81,.data)]
def outs_r21_Begin:List Par:=[(ty87,.own (.pr (.pr .imm (.pr .imm .imm)) (.pr (.pr (.pr (.own none .imm) .imm) (.pr (.pr (.own none (.pr .imm .imm)) (.own none (.pr .imm (.pr .imm (.own none (.pr .imm .imm)))))) (.own none (.pr .imm (.pr (.own none (.pr .imm .imm)) (.pr .imm (.pr .imm (.pr .imm (.pr .imm (.pr .imm .imm)))))))))) (.pr (.pr (.own none .imm) (.pr (.own none .imm) (.pr (.own none (.own none .imm)) (.pr (.pr (.own none (.own none (.pr .imm (.pr .imm (.pr .imm .imm))))) (.own none (.pr .imm (.pr .imm .imm)))) (.own none (.pr .imm (.pr .imm (.own none (.pr .imm (.pr .imm (.pr .imm .imm))))))))))) (.pr (.pr (.own none .imm) (.own none (.own none .imm))) (.pr (.own none (.pr .imm (.pr .imm (.pr .imm (.pr (.pr .imm (.pr .imm (.pr .imm (.pr .imm (.pr .imm (.pr .imm (.pr (.own none (.pr .imm (.pr .imm (.pr .imm .imm)))) (.own none (.pr .imm (.pr .imm (.pr .imm .imm))))))))))) (.pr (.pr .imm (.pr .imm (.pr .imm .imm))) (.pr (.own none (.pr .imm (.pr .imm (.pr .imm .imm)))) (.pr .imm .imm)))))))) (.own none .imm))))))),(ty55,.data)]
def C_r21_Begin:FnC:={ G:=⟨tab,eqs,ctrL [(82,s_r08_Start),(83,s_r19_Valid),(84,s_r21_proper),(85,s_r19_Copy),(86,s_r15_New)]⟩,nt:=48,mv:=mvL [(0,2),(0,1),(0,0),(1,7),(3,2),(5,1),(6,7),(6,5),(6,3),(9,5),(11,1)],pre:=preL [],cuts:=[8],sh:=shL [(8,⟨[(39,ty2,.data)],[(6,6,0),(10,10,0)],[],[(6,ty86,(.pr (.pr (.own none (.pr .imm (.pr .imm (.pr .imm (.pr .imm .imm))))) (.pr (.own none .imm) (.own none (.own none .imm)))) (.pr (.pr (.pr (.own none .imm) .imm) (.pr (.pr (.own none (.pr .imm .imm)) (.own none (.pr .imm (.pr .imm (.own none (.pr .imm .imm)))))) (.own none (.pr .imm (.pr (.own none (.pr .imm .imm)) (.pr .imm (.pr .imm (.pr .imm (.pr .imm (.pr .imm .imm)))))))))) (.pr (.pr (.own none .imm) (.pr (.own none .imm) (.pr (.own none (.own none .imm)) (.pr (.pr (.own none (.own none (.pr .imm (.pr .imm (.pr .imm .imm))))) (.own none (.pr .imm (.pr .imm .imm)))) (.own none (.pr .imm (.pr .imm (.own none (.pr .imm (.pr .imm (.pr .imm .imm))))))))))) (.pr (.pr (.own none .imm) (.own none (.own none .imm))) (.pr (.own none (.pr .imm (.pr .imm (.pr .imm (.pr (.pr .imm (.pr .imm (.pr .imm (.pr .imm (.pr .imm (.pr .imm (.pr (.own none (.pr .imm (.pr .imm (.pr .imm .imm)))) (.own none (.pr .imm (.pr .imm (.pr .imm .imm))))))))))) (.pr (.pr .imm (.pr .imm (.pr .imm .imm))) (.pr (.own none (.pr .imm (.pr .imm (.pr .imm .imm)))) (.pr .imm .imm)))))))) (.own none .imm))))))),(10,ty86,(.pr (.pr .imm (.pr .imm .imm)) (.pr (.pr (.pr (.own none .imm) .imm) (.pr (.pr (.own none (.pr .imm .imm)) (.own none (.pr .imm (.pr .imm (.own none (.pr .imm .imm)))))) (.own none (.pr .imm (.pr (.own none (.pr .imm .imm)) (.pr .imm (.pr .imm (.pr .imm (.pr .imm (.pr .imm .imm)))))))))) (.pr (.pr (.own none .imm) (.pr (.own none .imm) (.pr (.own none (.own none .imm)) (.pr (.pr (.own none (.own none (.pr .imm (.pr .imm (.pr .imm .imm))))) (.own none (.pr .imm (.pr .imm .imm)))) (.own none (.pr .imm (.pr .imm (.own none (.pr .imm (.pr .imm (.pr .imm .imm))))))))))) (.pr (.pr (.own none .imm) (.own none (.own none .imm))) (.pr (.own none (.pr .imm (.pr .imm (.pr .imm (.pr (.pr .imm (.pr .imm (.pr .imm (.pr .imm (.pr .imm (.pr .imm (.pr (.own none (.pr .imm (.pr .imm (.pr .imm .imm)))) (.own none (.pr .imm (.pr .imm (.pr .imm .imm))))))))))) (.pr (.pr .imm (.pr .imm (.pr .imm .imm))) (.pr (.own none (.pr .imm (.pr .imm (.pr .imm .imm)))) (.pr .imm .imm)))))))) (.own none .imm)))))))],[]⟩)],anchs:=[] }
def Fn.r21_Begin_L8 (d:((Int×Unit)×((Run×(Run×Unit))×Unit))):Option (Unit×(Run×(Int×Unit))):=aO C_r21_Begin ins_r21_Begin outs_r21_Begin Tryz.f49 8 d
def Fn.r21_Begin (x:(Prog×(Layout×(Outside×Unit)))):Option (Unit×(Run×(Int×Unit))):=fO C_r21_Begin ins_r21_Begin outs_r21_Begin Tryz.f49 x
def s_r21_Begin:Sum:=⟨ins_r21_Begin,outs_r21_Begin,Fn.r21_Begin,none⟩
theorem m_r21_Begin:Meets Tryz.prog 49 s_r21_Begin:=meets_fn (C:=C_r21_Begin) (cfg_ok tok eqs_ok ⟨⟨m_r08_Start,Tryz.call82⟩,⟨⟨m_r19_Valid,Tryz.call83⟩,⟨⟨m_r21_proper,Tryz.call84⟩,⟨⟨m_r19_Copy,Tryz.call85⟩,⟨⟨m_r15_New,Tryz.call86⟩,trivial⟩⟩⟩⟩⟩) mixed Tryz.func49 rfl rfl rfl (by kernel_rfl) (by kernel_rfl)
theorem Fn.r21_Begin_eq (a0:Prog) (a1:Layout) (a2:Outside):Fn.r21_Begin (a0,a1,a2,()) =
 (Fn.r08_Start (a0,(a1,()))).bind fun y1 =>
 lt (([]:(List Entry)),([]:(List Int))) fun x6 =>
 lt ((([]:(List Instr)),(([]:(List Int)),([]:(List (List Int))))),(((([]:(List Int)),(0:Int)),((([]:(List Cell)),([]:(List Line))),([]:(List Thread)))),((([]:(List Int)),(([]:(List Int)),(([]:(List (List Int))),((([]:(List (List Canon))),([]:(List Open))),([]:(List Output)))))),((([]:(List Int)),([]:(List (List Int)))),x6)))) fun x7 =>
 bif (!(decide (y1.2.2.1=(0:Int)))) then
 some ((),(x7,(y1.2.2.1,())))
 else
 (Fn.r19_Valid (a2,())).bind fun y2 =>
 (bif ((!(!y2.2.1))&&true) then (Fn.r21_proper (a0.2.1,(a2.2.2.2.1,()))) else (Option.some ((),(false,())))).bind fun y3 =>
 bif (bif (!y2.2.1) then true else (!y3.2.1)) then
 some ((),(x7,((1:Int),())))
 else
 (Fn.r19_Copy (a2,())).bind fun y4 =>
 (Fn.r15_New ()).bind fun y5 =>
 (Fn.r21_Begin_L8 (((0:Int),()),((x7,(((a0.1,(a0.2.1,a0.2.2)),(((y1.2.1.1.1,y1.2.1.1.2),((y1.2.1.2.1.1,y1.2.1.2.1.2),y1.2.1.2.2)),((y4.2.1.1,(y4.2.1.2.1,(y4.2.1.2.2.1,((y4.2.1.2.2.2.1.1,y4.2.1.2.2.2.1.2),y4.2.1.2.2.2.2)))),((y5.2.1.1,y5.2.1.2),x6)))),())),()))).bind some :=
 (fE C_r21_Begin ins_r21_Begin outs_r21_Begin Tryz.f49 (a0,a1,a2,())).trans (by kernel_rfl)
theorem Fn.r21_Begin_L8_eq (v39:Int) (r6:Run) (r10:Run):Fn.r21_Begin_L8 ((v39,()),(r6,r10,()),()) =
 bif (decide (v39<(4:Int))) then
 lt (List.cons (-(1:Int)) ([]:(List Int))) fun x1 =>
 bif (Nat.ble ((List.length r10.2.2.2.2.2)+(List.length x1)) 4294967296) then
 (Fn.r21_Begin_L8 (((IntKind.wrap .i64 (v39+(1:Int))),()),((r6,((r10.1,(r10.2.1,(r10.2.2.1,(r10.2.2.2.1,(r10.2.2.2.2.1,(List.append r10.2.2.2.2.2 x1)))))),())),()))).bind some
 else none
 else
 some ((),(((r10.1.1,(r10.1.2.1,r10.1.2.2)),(((r10.2.1.1.1,r10.2.1.1.2),((r10.2.1.2.1.1,r10.2.1.2.1.2),r10.2.1.2.2)),((r10.2.2.1.1,(r10.2.2.1.2.1,(r10.2.2.1.2.2.1,((r10.2.2.1.2.2.2.1.1,r10.2.2.1.2.2.2.1.2),r10.2.2.1.2.2.2.2)))),((r10.2.2.2.1.1,r10.2.2.2.1.2),(r10.2.2.2.2.1,r10.2.2.2.2.2))))),((0:Int),()))) :=
 (aE C_r21_Begin ins_r21_Begin outs_r21_Begin Tryz.f49 8 ((v39,()),(r6,r10,()),())).trans (by kernel_rfl)
def ins_r03_Make:List Par:=[(ty22,.data),(ty3,.data)]
def outs_r03_Make:List Par:=[(ty25,.own (.pr (.own none .imm) .imm)),(ty55,.data)]
def C_r03_Make:FnC:={ G:=⟨tab,eqs,ctrL [(66,s_r02_Valid)]⟩,nt:=65,mv:=mvL [(2,1),(4,7),(4,5),(13,1)],pre:=preL [],cuts:=[7],sh:=shL [(7,⟨[(0,ty22,.data),(1,ty2,.data),(6,ty2,.data),(8,ty2,.data),(36,ty2,.data),(37,ty2,.data)],[(4,4,0),(7,7,0)],[],[(4,ty24,(.pr (.own none .imm) .imm)),(7,ty24,(.pr (.own none .imm) .imm))],[]⟩)],anchs:=[] }
def Fn.r03_Make_L7 (d:(((List Int)×(Int×(Int×(Int×(Int×(Int×Unit))))))×((Layout×(Layout×Unit))×Unit))):Option (Unit×(Layout×(Int×Unit))):=aO C_r03_Make ins_r03_Make outs_r03_Make Tryz.f87 7 d
def Fn.r03_Make (x:((List Int)×(Int×Unit))):Option (Unit×(Layout×(Int×Unit))):=fO C_r03_Make ins_r03_Make outs_r03_Make Tryz.f87 x
def s_r03_Make:Sum:=⟨ins_r03_Make,outs_r03_Make,Fn.r03_Make,none⟩
theorem m_r03_Make:Meets Tryz.prog 87 s_r03_Make:=meets_fn (C:=C_r03_Make) (cfg_ok tok eqs_ok ⟨⟨m_r02_Valid,Tryz.call66⟩,trivial⟩) mixed Tryz.func87 rfl rfl rfl (by kernel_rfl) (by kernel_rfl)
theorem Fn.r03_Make_eq (a0:(List Int)) (a1:Int):Fn.r03_Make (a0,a1,()) =
 (Fn.r02_Valid (a0,())).bind fun y1 =>
 bif (bif (bif (!y1.2.1) then true else (decide (a1<(0:Int)))) then true else (decide ((1073741824:Int)<a1))) then
 some ((),((([]:(List Int)),(0:Int)),((1:Int),())))
 else
 bif (((decide (0≤(((List.length a0):Nat):Int)))&&(decide ((((List.length a0):Nat):Int)≤(((List.length a0):Nat):Int))))&&(decide ((((List.length a0):Nat):Int)≤4294967296))) then
 bif (!(decide ((((List.length a0):Nat):Int)=(0:Int)))) then
 bif (!(decide ((50:Int)=(0:Int)))) then
 (Fn.r03_Make_L7 ((a0,(a1,((((List.length a0):Nat):Int),((IntKind.wrap .i64 ((1:Int)+(Int.tmod (IntKind.wrap .i64 (Int.tdiv a1 (((List.length a0):Nat):Int))) (50:Int)))),((((List.length a0):Nat):Int),((0:Int),())))))),(((([]:(List Int)),(0:Int)),(((List.replicate (Int.toNat (((List.length a0):Nat):Int)) (0:Int)),(IntKind.wrap .u16 (IntKind.wrap .i64 ((40503:Int) * a1)))),())),()))).bind some
 else none
 else none
 else none :=
 (fE C_r03_Make ins_r03_Make outs_r03_Make Tryz.f87 (a0,a1,())).trans (by kernel_rfl)
theorem Fn.r03_Make_L7_eq (v0:(List Int)) (v1:Int) (v6:Int) (v8:Int) (v36:Int) (v37:Int) (r4:Layout) (r7:Layout):Fn.r03_Make_L7 ((v0,v1,v6,v8,v36,v37,()),(r4,r7,()),()) =
 bif (decide (v37<v36)) then
 bif (!(decide (v6=(0:Int)))) then
 lt (Int.tmod (IntKind.wrap .i64 (v37+v1)) v6) fun x1 =>
 bif (inR x1 (List.length r7.1)) then
 bif (inR x1 (List.length v0)) then
 lt (IntKind.wrap .i64 ((50:Int) * v6)) fun x2 =>
 bif (!(decide (x2=(0:Int)))) then
 bif (!(decide ((40:Int)=(0:Int)))) then
 (Fn.r03_Make_L7 ((v0,(v1,(v6,((IntKind.wrap .i64 (v8+(IntKind.wrap .i64 ((IntKind.wrap .i64 ((List.getD v0 (Int.toNat x1) (0:Int))+(1:Int)))+(Int.tmod (IntKind.wrap .i64 (Int.tdiv v1 x2)) (40:Int)))))),(v36,((IntKind.wrap .i64 (v37+(1:Int))),())))))),((r4,(((List.set r7.1 (0+(Int.toNat x1)) v8),r7.2),())),()))).bind some
 else none
 else none
 else none
 else none
 else none
 else
 some ((),((r7.1,r7.2),((0:Int),()))) :=
 (aE C_r03_Make ins_r03_Make outs_r03_Make Tryz.f87 7 ((v0,v1,v6,v8,v36,v37,()),(r4,r7,()),())).trans (by kernel_rfl)
def ins_dk_Layout:List Par:=[(ty65,.lend .imm .imm),(ty22,.data)]
def outs_dk_Layout:List Par:=[(ty25,.own (.pr (.own none .imm) .imm))]
def C_dk_Layout:FnC:={ G:=⟨tab,eqs,ctrL [(21,s_dk_Next),(87,s_r03_Make)]⟩,nt:=15,mv:=mvL [(1,8),(1,3),(1,2),(2,1)],pre:=preL [],cuts:=[],sh:=shL [],anchs:=[700000] }
def Fn.dk_Layout (x:(Deck×((List Int)×Unit))):Option ((Deck×Unit)×(Layout×Unit)):=fO C_dk_Layout ins_dk_Layout outs_dk_Layout Tryz.f50 x
def s_dk_Layout:Sum:=⟨ins_dk_Layout,outs_dk_Layout,Fn.dk_Layout,none⟩
theorem m_dk_Layout:Meets Tryz.prog 50 s_dk_Layout:=meets_fn (C:=C_dk_Layout) (cfg_ok tok eqs_ok ⟨⟨m_dk_Next,Tryz.call21⟩,⟨⟨m_r03_Make,Tryz.call87⟩,trivial⟩⟩) mixed Tryz.func50 rfl rfl rfl (by kernel_rfl) (by kernel_rfl)
theorem Fn.dk_Layout_eq (a0:Deck) (a1:(List Int)):Fn.dk_Layout (a0,a1,()) =
 (Fn.dk_Next (a0,((1048576:Int),()))).bind fun y1 =>
 (Fn.r03_Make (a1,(y1.2.1,()))).bind fun y2 =>
 some ((y1.1.1,()),((y2.2.1.1,y2.2.1.2),())) :=
 (fE C_dk_Layout ins_dk_Layout outs_dk_Layout Tryz.f50 (a0,a1,())).trans (by kernel_rfl)
def ins_r17_New:List Par:=[(ty36,.data)]
def outs_r17_New:List Par:=[(ty78,.own (.pr (.own none (.own none (.pr .imm (.pr .imm (.pr .imm .imm))))) (.own none (.pr .imm (.pr .imm .imm))))),(ty55,.data)]
def C_r17_New:FnC:={ G:=⟨tab,eqs,ctrL [(101,s_r17_Valid)]⟩,nt:=55,mv:=mvL [(1,3),(1,1),(7,1),(11,1),(14,4),(14,3),(14,2),(16,6),(16,3),(19,1),(20,1)],pre:=preL [],cuts:=[3,8,12],sh:=shL [(3,⟨[(0,ty36,.data),(15,ty2,.data),(16,ty2,.data)],[(2,2,0),(4,4,0)],[],[(2,ty77,(.pr (.own none (.own none (.pr .imm (.pr .imm (.pr .imm .imm))))) (.own none (.pr .imm (.pr .imm .imm))))),(4,ty77,(.pr (.own none (.own none (.pr .imm (.pr .imm (.pr .imm .imm))))) (.own none (.pr .imm (.pr .imm .imm)))))],[]⟩),(8,⟨[(25,ty36,.data),(26,ty2,.data),(27,ty2,.data)],[(2,2,0),(4,4,0)],[],[(2,ty77,(.pr (.own none (.own none (.pr .imm (.pr .imm (.pr .imm .imm))))) (.own none (.pr .imm (.pr .imm .imm))))),(4,ty77,(.pr (.own none (.own none (.pr .imm (.pr .imm (.pr .imm .imm))))) (.own none (.pr .imm (.pr .imm .imm)))))],[]⟩),(12,⟨[(8,ty93,.own (.own none (.pr .imm (.pr .imm (.pr .imm .imm))))),(25,ty36,.data),(26,ty2,.data),(27,ty2,.data),(31,ty74,.data),(32,ty2,.data),(33,ty2,.data)],[(2,2,0),(4,4,0)],[],[(2,ty77,(.pr (.own none (.own none (.pr .imm (.pr .imm (.pr .imm .imm))))) (.own none (.pr .imm (.pr .imm .imm))))),(4,ty77,(.pr (.own none (.own none (.pr .imm (.pr .imm (.pr .imm .imm))))) (.own none (.pr .imm (.pr .imm .imm)))))],[]⟩)],anchs:=[] }
def Fn.r17_New_L3 (d:(((List (List Int))×(Int×(Int×Unit)))×((Files×(Files×Unit))×Unit))):Option (Unit×(Files×(Int×Unit))):=aO C_r17_New ins_r17_New outs_r17_New Tryz.f106 3 d
def Fn.r17_New_L8 (d:(((List (List Int))×(Int×(Int×Unit)))×((Files×(Files×Unit))×Unit))):Option (Unit×(Files×(Int×Unit))):=aO C_r17_New ins_r17_New outs_r17_New Tryz.f106 8 d
def Fn.r17_New_L12 (d:(((List Canon)×((List (List Int))×(Int×(Int×((List Int)×(Int×(Int×Unit)))))))×((Files×(Files×Unit))×Unit))):Option (Unit×(Files×(Int×Unit))):=aO C_r17_New ins_r17_New outs_r17_New Tryz.f106 12 d
def Fn.r17_New (x:((List (List Int))×Unit)):Option (Unit×(Files×(Int×Unit))):=fO C_r17_New ins_r17_New outs_r17_New Tryz.f106 x
def s_r17_New:Sum:=⟨ins_r17_New,outs_r17_New,Fn.r17_New,none⟩
theorem m_r17_New:Meets Tryz.prog 106 s_r17_New:=meets_fn (C:=C_r17_New) (cfg_ok tok eqs_ok ⟨⟨m_r17_Valid,Tryz.call101⟩,trivial⟩) mixed Tryz.func106 rfl rfl rfl (by kernel_rfl) (by kernel_rfl)
theorem Fn.r17_New_eq (a0:(List (List Int))):Fn.r17_New (a0,()) =
 bif (((decide (0≤(8:Int)))&&(decide ((8:Int)≤(8:Int))))&&(decide ((8:Int)≤4294967296))) then
 lt (List.replicate (Int.toNat (8:Int)) zOpen) fun x1 =>
 (Fn.r17_New_L3 ((a0,((((List.length x1):Nat):Int),((0:Int),()))),(((([]:(List (List Canon))),([]:(List Open))),((([]:(List (List Canon))),x1),())),()))).bind some
 else none :=
 (fE C_r17_New ins_r17_New outs_r17_New Tryz.f106 (a0,())).trans (by kernel_rfl)
theorem Fn.r17_New_L3_eq (v0:(List (List Int))) (v15:Int) (v16:Int) (r2:Files) (r4:Files):Fn.r17_New_L3 ((v0,v15,v16,()),(r2,r4,()),()) =
 bif (decide (v16<v15)) then
 bif (inR v16 (List.length r4.2)) then
 (Fn.r17_New_L3 ((v0,(v15,((IntKind.wrap .i64 (v16+(1:Int))),()))),((r2,((r4.1,(List.set r4.2 (0+(Int.toNat v16)) ((-(1:Int)),(List.getD r4.2 (0+(Int.toNat v16)) zOpen).2))),())),()))).bind some
 else none
 else
 (Fn.r17_New_L8 ((v0,((((List.length v0):Nat):Int),((0:Int),()))),((r2,(r4,())),()))).bind some :=
 (aE C_r17_New ins_r17_New outs_r17_New Tryz.f106 3 ((v0,v15,v16,()),(r2,r4,()),())).trans (by kernel_rfl)
theorem Fn.r17_New_L8_eq (v25:(List (List Int))) (v26:Int) (v27:Int) (r2:Files) (r4:Files):Fn.r17_New_L8 ((v25,v26,v27,()),(r2,r4,()),()) =
 bif (decide (v27<v26)) then
 bif (inR v27 (List.length v25)) then
 lt (List.getD v25 (Int.toNat v27) ([]:(List Int))) fun x2 =>
 (Fn.r17_New_L12 ((([]:(List Canon)),(v25,(v26,(v27,(x2,((((List.length x2):Nat):Int),((0:Int),()))))))),((r2,(r4,())),()))).bind some
 else none
 else
 (Fn.r17_Valid ((r4.1,r4.2),())).bind fun y1 =>
 bif (!y1.2.1) then
 some ((),((([]:(List (List Canon))),([]:(List Open))),((3:Int),())))
 else
 some ((),((r4.1,r4.2),((0:Int),()))) :=
 (aE C_r17_New ins_r17_New outs_r17_New Tryz.f106 8 ((v25,v26,v27,()),(r2,r4,()),())).trans (by kernel_rfl)
theorem Fn.r17_New_L12_eq (v8:(List Canon)) (v25:(List (List Int))) (v26:Int) (v27:Int) (v31:(List Int)) (v32:Int) (v33:Int) (r2:Files) (r4:Files):Fn.r17_New_L12 ((v8,v25,v26,v27,v31,v32,v33,()),(r2,r4,()),()) =
 bif (decide (v33<v32)) then
 bif (inR v33 (List.length v31)) then
 lt (List.cons ((0:Int),((List.getD v31 (Int.toNat v33) (0:Int)),((0:Int),(0:Int)))) ([]:(List Canon))) fun x1 =>
 bif (Nat.ble ((List.length v8)+(List.length x1)) 4294967296) then
 (Fn.r17_New_L12 (((List.append v8 x1),(v25,(v26,(v27,(v31,(v32,((IntKind.wrap .i64 (v33+(1:Int))),()))))))),((r2,(r4,())),()))).bind some
 else none
 else none
 else
 lt (List.cons v8 ([]:(List (List Canon)))) fun x2 =>
 bif (Nat.ble ((List.length r4.1)+(List.length x2)) 4294967296) then
 (Fn.r17_New_L8 ((v25,(v26,((IntKind.wrap .i64 (v27+(1:Int))),()))),((r2,(((List.append r4.1 x2),r4.2),())),()))).bind some
 else none :=
 (aE C_r17_New ins_r17_New outs_r17_New Tryz.f106 12 ((v8,v25,v26,v27,v31,v32,v33,()),(r2,r4,()),())).trans (by kernel_rfl)
def ins_r19_Begin:List Par:=[(ty36,.data),(ty36,.data),(ty74,.data),(ty74,.data)]
def outs_r19_Begin:List Par:=[(ty81,.own (.pr (.own none .imm) (.pr (.own none .imm) (.pr (.own none (.own none .imm)) (.pr (.pr (.own none (.own none (.pr .imm (.pr .imm (.pr .imm .imm))))) (.own none (.pr .imm (.pr .imm .imm)))) (.own none (.pr .imm (.pr .imm (.own none (.pr .imm (.pr .imm (.pr .imm .imm)))))))))))),(ty55,.data)]
def C_r19_Begin:FnC:={ G:=⟨tab,eqs,ctrL [(83,s_r19_Valid),(103,s_r18_CopyInputs),(106,s_r17_New)]⟩,nt:=35,mv:=mvL [(1,6),(1,1),(3,2),(4,9),(4,7),(4,5),(4,3),(4,1),(6,1),(7,1)],pre:=preL [],cuts:=[],sh:=shL [],anchs:=[] }
def Fn.r19_Begin (x:((List (List Int))×((List (List Int))×((List Int)×((List Int)×Unit))))):Option (Unit×(Outside×(Int×Unit))):=fO C_r19_Begin ins_r19_Begin outs_r19_Begin Tryz.f88 x
def s_r19_Begin:Sum:=⟨ins_r19_Begin,outs_r19_Begin,Fn.r19_Begin,none⟩
theorem m_r19_Begin:Meets Tryz.prog 88 s_r19_Begin:=meets_fn (C:=C_r19_Begin) (cfg_ok tok eqs_ok ⟨⟨m_r19_Valid,Tryz.call83⟩,⟨⟨m_r18_CopyInputs,Tryz.call103⟩,⟨⟨m_r17_New,Tryz.call106⟩,trivial⟩⟩⟩) mixed Tryz.func88 rfl rfl rfl (by kernel_rfl) (by kernel_rfl)
theorem Fn.r19_Begin_eq (a0:(List (List Int))) (a1:(List (List Int))) (a2:(List Int)) (a3:(List Int)):Fn.r19_Begin (a0,a1,a2,a3,()) =
 (Fn.r17_New (a0,())).bind fun y1 =>
 lt (([]:(List Int)),(([]:(List Int)),(([]:(List (List Int))),((([]:(List (List Canon))),([]:(List Open))),([]:(List Output)))))) fun x4 =>
 bif (!(decide (y1.2.2.1=(0:Int)))) then
 some ((),(x4,(y1.2.2.1,())))
 else
 bif (Nat.ble ((List.length ([]:(List Int)))+(List.length a2)) 4294967296) then
 bif (Nat.ble ((List.length ([]:(List Int)))+(List.length a3)) 4294967296) then
 (Fn.r18_CopyInputs (a1,())).bind fun y2 =>
 lt ((List.append ([]:(List Int)) a2),((List.append ([]:(List Int)) a3),(y2.2.1,((y1.2.1.1,y1.2.1.2),([]:(List Output)))))) fun x5 =>
 (Fn.r19_Valid (x5,())).bind fun y3 =>
 bif (!y3.2.1) then
 some ((),(x4,((3:Int),())))
 else
 some ((),(x5,((0:Int),())))
 else none
 else none :=
 (fE C_r19_Begin ins_r19_Begin outs_r19_Begin Tryz.f88 (a0,a1,a2,a3,())).trans (by kernel_rfl)
def ins_dk_Outside:List Par:=[(ty65,.lend .imm .imm)]
def outs_dk_Outside:List Par:=[(ty81,.own (.pr (.own none .imm) (.pr (.own none .imm) (.pr (.own none (.own none .imm)) (.pr (.pr (.own none (.own none (.pr .imm (.pr .imm (.pr .imm .imm))))) (.own none (.pr .imm (.pr .imm .imm)))) (.own none (.pr .imm (.pr .imm (.own none (.pr .imm (.pr .imm (.pr .imm .imm))))))))))))]
def C_dk_Outside:FnC:={ G:=⟨tab,eqs,ctrL [(78,s_dk_Words),(88,s_r19_Begin)]⟩,nt:=24,mv:=mvL [(1,19),(1,14),(1,13),(1,9),(1,4),(2,1)],pre:=preL [],cuts:=[],sh:=shL [],anchs:=[700000] }
def Fn.dk_Outside (x:(Deck×Unit)):Option ((Deck×Unit)×(Outside×Unit)):=fO C_dk_Outside ins_dk_Outside outs_dk_Outside Tryz.f51 x
def s_dk_Outside:Sum:=⟨ins_dk_Outside,outs_dk_Outside,Fn.dk_Outside,none⟩
theorem m_dk_Outside:Meets Tryz.prog 51 s_dk_Outside:=meets_fn (C:=C_dk_Outside) (cfg_ok tok eqs_ok ⟨⟨m_dk_Words,Tryz.call78⟩,⟨⟨m_r19_Begin,Tryz.call88⟩,trivial⟩⟩) mixed Tryz.func51 rfl rfl rfl (by kernel_rfl) (by kernel_rfl)
theorem Fn.dk_Outside_eq (a0:Deck):Fn.dk_Outside (a0,()) =
 (Fn.dk_Words (a0,((5:Int),()))).bind fun y1 =>
 (Fn.dk_Words (y1.1.1,((3:Int),()))).bind fun y2 =>
 (Fn.dk_Words (y2.1.1,((8:Int),()))).bind fun y3 =>
 (Fn.dk_Words (y3.1.1,((4:Int),()))).bind fun y4 =>
 (Fn.dk_Words (y4.1.1,((5:Int),()))).bind fun y5 =>
 (Fn.dk_Words (y5.1.1,((5:Int),()))).bind fun y6 =>
 (Fn.r19_Begin ((List.cons y1.2.1 (List.cons y2.2.1 ([]:(List (List Int))))),((List.cons y3.2.1 (List.cons y4.2.1 ([]:(List (List Int))))),(y5.2.1,(y6.2.1,()))))).bind fun y7 =>
 some ((y6.1.1,()),((y7.2.1.1,(y7.2.1.2.1,(y7.2.1.2.2.1,((y7.2.1.2.2.2.1.1,y7.2.1.2.2.2.1.2),y7.2.1.2.2.2.2)))),())) :=
 (fE C_dk_Outside ins_dk_Outside outs_dk_Outside Tryz.f51 (a0,())).trans (by kernel_rfl)
def ins_r16_Can:List Par:=[(ty32,.data),(ty3,.data)]
def outs_r16_Can:List Par:=[(ty4,.data)]
def C_r16_Can:FnC:={ G:=⟨tab,eqs,ctrL []⟩,nt:=33,mv:=mvL [(0,0),(3,6)],pre:=preL [],cuts:=[],sh:=shL [],anchs:=[] }
def Fn.r16_Can (x:(Machine×(Int×Unit))):Option (Unit×(Bool×Unit)):=fO C_r16_Can ins_r16_Can outs_r16_Can Tryz.f14 x
def s_r16_Can:Sum:=⟨ins_r16_Can,outs_r16_Can,Fn.r16_Can,none⟩
theorem m_r16_Can:Meets Tryz.prog 14 s_r16_Can:=meets_fn (C:=C_r16_Can) (cfg_ok tok eqs_ok trivial) mixed Tryz.func14 rfl rfl rfl (by kernel_rfl) (by kernel_rfl)
theorem Fn.r16_Can_eq (a0:Machine) (a1:Int):Fn.r16_Can (a0,a1,()) =
 bif (bif (decide (a1<(0:Int))) then true else (decide ((((List.length a0.2.2):Nat):Int)≤a1))) then
 some ((),(false,()))
 else
 bif (inR a1 (List.length a0.2.2)) then
 lt (List.getD a0.2.2 (Int.toNat a1) zThread) fun x1 =>
 some ((),((bif (bif (decide (x1.1=(1:Int))) then (!(decide (x1.2.2.2.2.1=(-(1:Int))))) else false) then (decide (x1.2.2.2.2.2.1=(-(1:Int)))) else false),()))
 else none :=
 (fE C_r16_Can ins_r16_Can outs_r16_Can Tryz.f14 (a0,a1,())).trans (by kernel_rfl)
def ins_r04_Copy:List Par:=[(ty29,.data)]
def outs_r04_Copy:List Par:=[(ty29,.own (.pr (.own none (.pr .imm .imm)) (.own none (.pr .imm (.pr .imm (.own none (.pr .imm .imm)))))))]
def C_r04_Copy:FnC:={ G:=⟨tab,eqs,ctrL []⟩,nt:=29,mv:=mvL [(0,0),(1,5),(1,3),(2,2),(5,4),(6,6),(6,3),(8,1)],pre:=preL [],cuts:=[3],sh:=shL [(3,⟨[(11,ty27,.data),(12,ty2,.data),(13,ty2,.data)],[(2,2,0),(3,3,0)],[],[(2,ty28,(.pr (.own none (.pr .imm .imm)) (.own none (.pr .imm (.pr .imm (.own none (.pr .imm .imm))))))),(3,ty28,(.pr (.own none (.pr .imm .imm)) (.own none (.pr .imm (.pr .imm (.own none (.pr .imm .imm)))))))],[]⟩)],anchs:=[] }
def Fn.r04_Copy_L3 (d:(((List Line)×(Int×(Int×Unit)))×((Memory×(Memory×Unit))×Unit))):Option (Unit×(Memory×Unit)):=aO C_r04_Copy ins_r04_Copy outs_r04_Copy Tryz.f29 3 d
def Fn.r04_Copy (x:(Memory×Unit)):Option (Unit×(Memory×Unit)):=fO C_r04_Copy ins_r04_Copy outs_r04_Copy Tryz.f29 x
def s_r04_Copy:Sum:=⟨ins_r04_Copy,outs_r04_Copy,Fn.r04_Copy,none⟩
theorem m_r04_Copy:Meets Tryz.prog 29 s_r04_Copy:=meets_fn (C:=C_r04_Copy) (cfg_ok tok eqs_ok trivial) mixed Tryz.func29 rfl rfl rfl (by kernel_rfl) (by kernel_rfl)
theorem Fn.r04_Copy_eq (a0:Memory):Fn.r04_Copy (a0,()) =
 bif (Nat.ble ((List.length ([]:(List Cell)))+(List.length a0.1)) 4294967296) then
 (Fn.r04_Copy_L3 ((a0.2,((((List.length a0.2):Nat):Int),((0:Int),()))),(((([]:(List Cell)),([]:(List Line))),(((List.append ([]:(List Cell)) a0.1),([]:(List Line))),())),()))).bind some
 else none :=
 (fE C_r04_Copy ins_r04_Copy outs_r04_Copy Tryz.f29 (a0,())).trans (by kernel_rfl)
theorem Fn.r04_Copy_L3_eq (v11:(List Line)) (v12:Int) (v13:Int) (r2:Memory) (r3:Memory):Fn.r04_Copy_L3 ((v11,v12,v13,()),(r2,r3,()),()) =
 bif (decide (v13<v12)) then
 bif (inR v13 (List.length v11)) then
 lt (List.getD v11 (Int.toNat v13) zLine) fun x1 =>
 bif (Nat.ble ((List.length ([]:(List Cell)))+(List.length x1.2.2)) 4294967296) then
 lt (List.cons (x1.1,(x1.2.1,(List.append ([]:(List Cell)) x1.2.2))) ([]:(List Line))) fun x2 =>
 bif (Nat.ble ((List.length r3.2)+(List.length x2)) 4294967296) then
 (Fn.r04_Copy_L3 ((v11,(v12,((IntKind.wrap .i64 (v13+(1:Int))),()))),((r2,((r3.1,(List.append r3.2 x2)),())),()))).bind some
 else none
 else none
 else none
 else
 some ((),((r3.1,r3.2),())) :=
 (aE C_r04_Copy ins_r04_Copy outs_r04_Copy Tryz.f29 3 ((v11,v12,v13,()),(r2,r3,()),())).trans (by kernel_rfl)
def ins_r08_Copy:List Par:=[(ty32,.data)]
def outs_r08_Copy:List Par:=[(ty32,.own (.pr (.pr (.own none .imm) .imm) (.pr (.pr (.own none (.pr .imm .imm)) (.own none (.pr .imm (.pr .imm (.own none (.pr .imm .imm)))))) (.own none (.pr .imm (.pr (.own none (.pr .imm .imm)) (.pr .imm (.pr .imm (.pr .imm (.pr .imm (.pr .imm .imm)))))))))))]
def C_r08_Copy:FnC:={ G:=⟨tab,eqs,ctrL [(29,s_r04_Copy)]⟩,nt:=37,mv:=mvL [(0,0),(1,13),(1,11),(2,2),(5,4),(6,6),(6,3),(8,1)],pre:=preL [],cuts:=[3],sh:=shL [(3,⟨[(19,ty30,.data),(20,ty2,.data),(21,ty2,.data)],[(2,2,0),(3,3,0)],[],[(2,ty31,(.pr (.pr (.own none .imm) .imm) (.pr (.pr (.own none (.pr .imm .imm)) (.own none (.pr .imm (.pr .imm (.own none (.pr .imm .imm)))))) (.own none (.pr .imm (.pr (.own none (.pr .imm .imm)) (.pr .imm (.pr .imm (.pr .imm (.pr .imm (.pr .imm .imm))))))))))),(3,ty31,(.pr (.pr (.own none .imm) .imm) (.pr (.pr (.own none (.pr .imm .imm)) (.own none (.pr .imm (.pr .imm (.own none (.pr .imm .imm)))))) (.own none (.pr .imm (.pr (.own none (.pr .imm .imm)) (.pr .imm (.pr .imm (.pr .imm (.pr .imm (.pr .imm .imm)))))))))))],[]⟩)],anchs:=[] }
def Fn.r08_Copy_L3 (d:(((List Thread)×(Int×(Int×Unit)))×((Machine×(Machine×Unit))×Unit))):Option (Unit×(Machine×Unit)):=aO C_r08_Copy ins_r08_Copy outs_r08_Copy Tryz.f19 3 d
def Fn.r08_Copy (x:(Machine×Unit)):Option (Unit×(Machine×Unit)):=fO C_r08_Copy ins_r08_Copy outs_r08_Copy Tryz.f19 x
def s_r08_Copy:Sum:=⟨ins_r08_Copy,outs_r08_Copy,Fn.r08_Copy,none⟩
theorem m_r08_Copy:Meets Tryz.prog 19 s_r08_Copy:=meets_fn (C:=C_r08_Copy) (cfg_ok tok eqs_ok ⟨⟨m_r04_Copy,Tryz.call29⟩,trivial⟩) mixed Tryz.func19 rfl rfl rfl (by kernel_rfl) (by kernel_rfl)
theorem Fn.r08_Copy_eq (a0:Machine):Fn.r08_Copy (a0,()) =
 bif (Nat.ble ((List.length ([]:(List Int)))+(List.length a0.1.1)) 4294967296) then
 (Fn.r04_Copy (a0.2.1,())).bind fun y1 =>
 (Fn.r08_Copy_L3 ((a0.2.2,((((List.length a0.2.2):Nat):Int),((0:Int),()))),((((([]:(List Int)),(0:Int)),((([]:(List Cell)),([]:(List Line))),([]:(List Thread)))),((((List.append ([]:(List Int)) a0.1.1),a0.1.2),((y1.2.1.1,y1.2.1.2),([]:(List Thread)))),())),()))).bind some
 else none :=
 (fE C_r08_Copy ins_r08_Copy outs_r08_Copy Tryz.f19 (a0,())).trans (by kernel_rfl)
theorem Fn.r08_Copy_L3_eq (v19:(List Thread)) (v20:Int) (v21:Int) (r2:Machine) (r3:Machine):Fn.r08_Copy_L3 ((v19,v20,v21,()),(r2,r3,()),()) =
 bif (decide (v21<v20)) then
 bif (inR v21 (List.length v19)) then
 lt (List.getD v19 (Int.toNat v21) zThread) fun x1 =>
 bif (Nat.ble ((List.length ([]:(List Cell)))+(List.length x1.2.1)) 4294967296) then
 lt (List.cons (x1.1,((List.append ([]:(List Cell)) x1.2.1),(x1.2.2.1,(x1.2.2.2.1,(x1.2.2.2.2.1,(x1.2.2.2.2.2.1,(x1.2.2.2.2.2.2.1,x1.2.2.2.2.2.2.2))))))) ([]:(List Thread))) fun x2 =>
 bif (Nat.ble ((List.length r3.2.2)+(List.length x2)) 4294967296) then
 (Fn.r08_Copy_L3 ((v19,(v20,((IntKind.wrap .i64 (v21+(1:Int))),()))),((r2,((r3.1,(r3.2.1,(List.append r3.2.2 x2))),())),()))).bind some
 else none
 else none
 else none
 else
 some ((),(((r3.1.1,r3.1.2),((r3.2.1.1,r3.2.1.2),r3.2.2)),())) :=
 (aE C_r08_Copy ins_r08_Copy outs_r08_Copy Tryz.f19 3 ((v19,v20,v21,()),(r2,r3,()),())).trans (by kernel_rfl)
def ins_r16_Deliver:List Par:=[(ty32,.data),(ty3,.data)]
def outs_r16_Deliver:List Par:=[(ty32,.own (.pr (.pr (.own none .imm) .imm) (.pr (.pr (.own none (.pr .imm .imm)) (.own none (.pr .imm (.pr .imm (.own none (.pr .imm .imm)))))) (.own none (.pr .imm (.pr (.own none (.pr .imm .imm)) (.pr .imm (.pr .imm (.pr .imm (.pr .imm (.pr .imm .imm))))))))))),(ty4,.data)]
def C_r16_Deliver:FnC:={ G:=⟨tab,eqs,ctrL [(14,s_r16_Can),(19,s_r08_Copy)]⟩,nt:=34,mv:=mvL [(0,0),(1,3),(3,1),(5,15),(5,12),(6,1)],pre:=preL [],cuts:=[],sh:=shL [],anchs:=[] }
def Fn.r16_Deliver (x:(Machine×(Int×Unit))):Option (Unit×(Machine×(Bool×Unit))):=fO C_r16_Deliver ins_r16_Deliver outs_r16_Deliver Tryz.f12 x
def s_r16_Deliver:Sum:=⟨ins_r16_Deliver,outs_r16_Deliver,Fn.r16_Deliver,none⟩
theorem m_r16_Deliver:Meets Tryz.prog 12 s_r16_Deliver:=meets_fn (C:=C_r16_Deliver) (cfg_ok tok eqs_ok ⟨⟨m_r16_Can,Tryz.call14⟩,⟨⟨m_r08_Copy,Tryz.call19⟩,trivial⟩⟩) mixed Tryz.func12 rfl rfl rfl (by kernel_rfl) (by kernel_rfl)
theorem Fn.r16_Deliver_eq (a0:Machine) (a1:Int):Fn.r16_Deliver (a0,a1,()) =
 (Fn.r08_Copy (a0,())).bind fun y1 =>
 (Fn.r16_Can (a0,(a1,()))).bind fun y2 =>
 bif (!y2.2.1) then
 some ((),(((y1.2.1.1.1,y1.2.1.1.2),((y1.2.1.2.1.1,y1.2.1.2.1.2),y1.2.1.2.2)),(false,())))
 else
 bif (inR a1 (List.length y1.2.1.2.2)) then
 lt (List.getD y1.2.1.2.2 (0+(Int.toNat a1)) zThread) fun x3 =>
 lt (List.set y1.2.1.2.2 (0+(Int.toNat a1)) (x3.1,(x3.2.1,(x3.2.2.1,(x3.2.2.2.1,(x3.2.2.2.2.1,(x3.2.2.1,x3.2.2.2.2.2.2))))))) fun x4 =>
 lt (List.getD x4 (0+(Int.toNat a1)) zThread) fun x5 =>
 some ((),(((y1.2.1.1.1,y1.2.1.1.2),((y1.2.1.2.1.1,y1.2.1.2.1.2),(List.set x4 (0+(Int.toNat a1)) (x5.1,(x5.2.1,(x3.2.2.2.2.1,x5.2.2.2)))))),(true,())))
 else none :=
 (fE C_r16_Deliver ins_r16_Deliver outs_r16_Deliver Tryz.f12 (a0,a1,())).trans (by kernel_rfl)
def ins_r10_Ready:List Par:=[(ty30,.data)]
def outs_r10_Ready:List Par:=[(ty22,.own (.own none .imm))]
def C_r10_Ready:FnC:={ G:=⟨tab,eqs,ctrL []⟩,nt:=22,mv:=mvL [(2,1),(6,3),(6,2)],pre:=preL [],cuts:=[3],sh:=shL [(3,⟨[(3,ty22,.own (.own none .imm)),(6,ty30,.data),(7,ty2,.data),(8,ty2,.data)],[],[],[],[]⟩)],anchs:=[] }
def Fn.r10_Ready_L3 (d:(((List Int)×((List Thread)×(Int×(Int×Unit))))×(Unit×Unit))):Option (Unit×((List Int)×Unit)):=aO C_r10_Ready ins_r10_Ready outs_r10_Ready Tryz.f89 3 d
def Fn.r10_Ready (x:((List Thread)×Unit)):Option (Unit×((List Int)×Unit)):=fO C_r10_Ready ins_r10_Ready outs_r10_Ready Tryz.f89 x
def s_r10_Ready:Sum:=⟨ins_r10_Ready,outs_r10_Ready,Fn.r10_Ready,none⟩
theorem m_r10_Ready:Meets Tryz.prog 89 s_r10_Ready:=meets_fn (C:=C_r10_Ready) (cfg_ok tok eqs_ok trivial) mixed Tryz.func89 rfl rfl rfl (by kernel_rfl) (by kernel_rfl)
theorem Fn.r10_Ready_eq (a0:(List Thread)):Fn.r10_Ready (a0,()) =
 (Fn.r10_Ready_L3 ((([]:(List Int)),(a0,((((List.length a0):Nat):Int),((0:Int),())))),((),()))).bind some :=
 (fE C_r10_Ready ins_r10_Ready outs_r10_Ready Tryz.f89 (a0,())).trans (by kernel_rfl)
theorem Fn.r10_Ready_L3_eq (v3:(List Int)) (v6:(List Thread)) (v7:Int) (v8:Int):Fn.r10_Ready_L3 ((v3,v6,v7,v8,()),(),()) =
 bif (decide (v8<v7)) then
 bif (inR v8 (List.length v6)) then
 lt (v6,(v7,((IntKind.wrap .i64 (v8+(1:Int))),()))) fun x1 =>
 bif (decide ((List.getD v6 (Int.toNat v8) zThread).1=(1:Int))) then
 bif (Nat.ble ((List.length v3)+(List.length (List.cons v8 ([]:(List Int))))) 4294967296) then
 (Fn.r10_Ready_L3 (((List.append v3 (List.cons v8 ([]:(List Int)))),x1),((),()))).bind some
 else none
 else
 (Fn.r10_Ready_L3 ((v3,x1),((),()))).bind some
 else none
 else
 some ((),(v3,())) :=
 (aE C_r10_Ready ins_r10_Ready outs_r10_Ready Tryz.f89 3 ((v3,v6,v7,v8,()),(),())).trans (by kernel_rfl)
def ins_r21_copied:List Par:=[(ty87,.data)]
def outs_r21_copied:List Par:=[(ty87,.own (.pr (.pr .imm (.pr .imm .imm)) (.pr (.pr (.pr .imm .imm) (.pr (.pr .imm .imm) .imm)) (.pr (.pr .imm (.pr .imm (.pr .imm (.pr (.pr .imm .imm) .imm)))) (.pr (.pr .imm .imm) (.pr (.own none (.pr .imm (.pr .imm (.pr .imm (.pr (.pr .imm (.pr .imm (.pr .imm (.pr .imm (.pr .imm (.pr .imm (.pr .imm .imm))))))) (.pr (.pr .imm (.pr .imm (.pr .imm .imm))) (.pr .imm (.pr .imm .imm)))))))) (.own none .imm)))))))]
def C_r21_copied:FnC:={ G:=⟨tab,eqs,ctrL []⟩,nt:=12,mv:=mvL [(0,0),(1,4),(2,4),(3,1)],pre:=preL [],cuts:=[],sh:=shL [],anchs:=[] }
def Fn.r21_copied (x:(Run×Unit)):Option (Unit×(Run×Unit)):=fO C_r21_copied ins_r21_copied outs_r21_copied Tryz.f90 x
def s_r21_copied:Sum:=⟨ins_r21_copied,outs_r21_copied,Fn.r21_copied,none⟩
theorem m_r21_copied:Meets Tryz.prog 90 s_r21_copied:=meets_fn (C:=C_r21_copied) (cfg_ok tok eqs_ok trivial) mixed Tryz.func90 rfl rfl rfl (by kernel_rfl) (by kernel_rfl)
theorem Fn.r21_copied_eq (a0:Run):Fn.r21_copied (a0,()) =
 bif (Nat.ble ((List.length ([]:(List Int)))+(List.length a0.2.2.2.2.2)) 4294967296) then
 bif (Nat.ble ((List.length ([]:(List Entry)))+(List.length a0.2.2.2.2.1)) 4294967296) then
 some ((),(((a0.1.1,(a0.1.2.1,a0.1.2.2)),(((a0.2.1.1.1,a0.2.1.1.2),((a0.2.1.2.1.1,a0.2.1.2.1.2),a0.2.1.2.2)),((a0.2.2.1.1,(a0.2.2.1.2.1,(a0.2.2.1.2.2.1,((a0.2.2.1.2.2.2.1.1,a0.2.2.1.2.2.2.1.2),a0.2.2.1.2.2.2.2)))),((a0.2.2.2.1.1,a0.2.2.2.1.2),((List.append ([]:(List Entry)) a0.2.2.2.2.1),(List.append ([]:(List Int)) a0.2.2.2.2.2)))))),()))
 else none
 else none :=
 (fE C_r21_copied ins_r21_copied outs_r21_copied Tryz.f90 (a0,())).trans (by kernel_rfl)
def ins_r03_Resolve:List Par:=[(ty25,.data),(ty22,.data),(ty3,.data)]
def outs_r03_Resolve:List Par:=[(ty129,.data),(ty4,.data)]
def C_r03_Resolve:FnC:={ G:=⟨tab,eqs,ctrL []⟩,nt:=38,mv:=mvL [(0,0),(1,2),(5,5),(5,4),(7,1)],pre:=preL [],cuts:=[2],sh:=shL [(2,⟨[(1,ty22,.data),(2,ty2,.data),(11,ty22,.data),(12,ty2,.data),(13,ty2,.data)],[(6,6,0)],[],[(6,ty128,(.pr .imm .imm))],[]⟩)],anchs:=[] }
def Fn.r03_Resolve_L2 (d:(((List Int)×(Int×((List Int)×(Int×(Int×Unit)))))×((Place2×Unit)×Unit))):Option (Unit×(Place2×(Bool×Unit))):=aO C_r03_Resolve ins_r03_Resolve outs_r03_Resolve Tryz.f71 2 d
def Fn.r03_Resolve (x:(Layout×((List Int)×(Int×Unit)))):Option (Unit×(Place2×(Bool×Unit))):=fO C_r03_Resolve ins_r03_Resolve outs_r03_Resolve Tryz.f71 x
def s_r03_Resolve:Sum:=⟨ins_r03_Resolve,outs_r03_Resolve,Fn.r03_Resolve,none⟩
theorem m_r03_Resolve:Meets Tryz.prog 71 s_r03_Resolve:=meets_fn (C:=C_r03_Resolve) (cfg_ok tok eqs_ok trivial) mixed Tryz.func71 rfl rfl rfl (by kernel_rfl) (by kernel_rfl)
theorem Fn.r03_Resolve_eq (a0:Layout) (a1:(List Int)) (a2:Int):Fn.r03_Resolve (a0,a1,a2,()) =
 (Fn.r03_Resolve_L2 ((a1,(a2,(a0.1,((((List.length a0.1):Nat):Int),((0:Int),()))))),((((0:Int),(0:Int)),()),()))).bind some :=
 (fE C_r03_Resolve ins_r03_Resolve outs_r03_Resolve Tryz.f71 (a0,a1,a2,())).trans (by kernel_rfl)
theorem Fn.r03_Resolve_L2_eq (v1:(List Int)) (v2:Int) (v11:(List Int)) (v12:Int) (v13:Int) (r6:Place2):Fn.r03_Resolve_L2 ((v1,v2,v11,v12,v13,()),(r6,()),()) =
 bif (decide (v13<v12)) then
 bif (inR v13 (List.length v11)) then
 lt (List.getD v11 (Int.toNat v13) (0:Int)) fun x1 =>
 bif ((!((decide (x1≤v2))&&true))||(inR v13 (List.length v1))) then
 bif (bif (decide (x1≤v2)) then (decide (v2<(IntKind.wrap .i64 (x1+(List.getD v1 (Int.toNat v13) (0:Int)))))) else false) then
 some ((),((v13,(IntKind.wrap .i64 (v2 - x1))),(true,())))
 else
 (Fn.r03_Resolve_L2 ((v1,(v2,(v11,(v12,((IntKind.wrap .i64 (v13+(1:Int))),()))))),((r6,()),()))).bind some
 else none
 else none
 else
 some ((),(((0:Int),(0:Int)),(false,()))) :=
 (aE C_r03_Resolve ins_r03_Resolve outs_r03_Resolve Tryz.f71 2 ((v1,v2,v11,v12,v13,()),(r6,()),())).trans (by kernel_rfl)
def ins_r03_Canon:List Par:=[(ty25,.data),(ty22,.data),(ty103,.data)]
def outs_r03_Canon:List Par:=[(ty95,.data)]
def C_r03_Canon:FnC:={ G:=⟨tab,eqs,ctrL [(71,s_r03_Resolve)]⟩,nt:=43,mv:=mvL [(0,1),(0,0),(3,3),(3,2),(5,6),(5,5),(6,10),(6,5),(8,5),(8,4),(9,4),(9,3)],pre:=preL [],cuts:=[],sh:=shL [],anchs:=[] }
def Fn.r03_Canon (x:(Layout×((List Int)×(Cell×Unit)))):Option (Unit×(Canon×Unit)):=fO C_r03_Canon ins_r03_Canon outs_r03_Canon Tryz.f55 x
def s_r03_Canon:Sum:=⟨ins_r03_Canon,outs_r03_Canon,Fn.r03_Canon,none⟩
theorem m_r03_Canon:Meets Tryz.prog 55 s_r03_Canon:=meets_fn (C:=C_r03_Canon) (cfg_ok tok eqs_ok ⟨⟨m_r03_Resolve,Tryz.call71⟩,trivial⟩) mixed Tryz.func55 rfl rfl rfl (by kernel_rfl) (by kernel_rfl)
theorem Fn.r03_Canon_eq (a0:Layout) (a1:(List Int)) (a2:Cell):Fn.r03_Canon (a0,a1,a2,()) =
 bif (decide (a2.1=(0:Int))) then
 some ((),(((0:Int),(a2.2,((0:Int),(0:Int)))),()))
 else
 bif (decide (a2.1=(2:Int))) then
 some ((),(((2:Int),((IntKind.wrap .u16 (a2.2 - a0.2)),((0:Int),(0:Int)))),()))
 else
 lt (IntKind.wrap .i64 a2.2) fun x2 =>
 (Fn.r03_Resolve (a0,(a1,(x2,())))).bind fun y1 =>
 bif y1.2.2.1 then
 some ((),(((1:Int),((0:Int),(y1.2.1.1,y1.2.1.2))),()))
 else
 some ((),(((1:Int),((0:Int),((-(1:Int)),x2))),())) :=
 (fE C_r03_Canon ins_r03_Canon outs_r03_Canon Tryz.f55 (a0,a1,a2,())).trans (by kernel_rfl)
def ins_r05_Look:List Par:=[(ty29,.data),(ty3,.data)]
def outs_r05_Look:List Par:=[(ty103,.data)]
def C_r05_Look:FnC:={ G:=⟨tab,eqs,ctrL []⟩,nt:=30,mv:=mvL [(0,0),(4,6),(5,5)],pre:=preL [],cuts:=[],sh:=shL [],anchs:=[] }
def Fn.r05_Look (x:(Memory×(Int×Unit))):Option (Unit×(Cell×Unit)):=fO C_r05_Look ins_r05_Look outs_r05_Look Tryz.f94 x
def s_r05_Look:Sum:=⟨ins_r05_Look,outs_r05_Look,Fn.r05_Look,none⟩
theorem m_r05_Look:Meets Tryz.prog 94 s_r05_Look:=meets_fn (C:=C_r05_Look) (cfg_ok tok eqs_ok trivial) mixed Tryz.func94 rfl rfl rfl (by kernel_rfl) (by kernel_rfl)
theorem Fn.r05_Look_eq (a0:Memory) (a1:Int):Fn.r05_Look (a0,a1,()) =
 bif (!(decide ((4:Int)=(0:Int)))) then
 bif (!(decide ((4:Int)=(0:Int)))) then
 lt (IntKind.wrap .i64 (Int.tdiv a1 (4:Int))) fun x1 =>
 bif (inR (Int.tmod x1 (4:Int)) (List.length a0.2)) then
 lt (List.getD a0.2 (Int.toNat (Int.tmod x1 (4:Int))) zLine) fun x2 =>
 bif (decide (x2.1=x1)) then
 bif (!(decide ((4:Int)=(0:Int)))) then
 bif (inR (Int.tmod a1 (4:Int)) (List.length x2.2.2)) then
 some ((),((List.getD x2.2.2 (Int.toNat (Int.tmod a1 (4:Int))) zCell),()))
 else none
 else none
 else
 bif (inR a1 (List.length a0.1)) then
 some ((),((List.getD a0.1 (Int.toNat a1) zCell),()))
 else none
 else none
 else none
 else none :=
 (fE C_r05_Look ins_r05_Look outs_r05_Look Tryz.f94 (a0,a1,())).trans (by kernel_rfl)
def ins_r01_Valid:List Par:=[(ty103,.data)]
def outs_r01_Valid:List Par:=[(ty4,.data)]
def C_r01_Valid:FnC:={ G:=⟨tab,eqs,ctrL []⟩,nt:=6,mv:=mvL [(0,0)],pre:=preL [],cuts:=[],sh:=shL [],anchs:=[] }
def Fn.r01_Valid (x:(Cell×Unit)):Option (Unit×(Bool×Unit)):=fO C_r01_Valid ins_r01_Valid outs_r01_Valid Tryz.f70 x
def s_r01_Valid:Sum:=⟨ins_r01_Valid,outs_r01_Valid,Fn.r01_Valid,none⟩
theorem m_r01_Valid:Meets Tryz.prog 70 s_r01_Valid:=meets_fn (C:=C_r01_Valid) (cfg_ok tok eqs_ok trivial) mixed Tryz.func70 rfl rfl rfl (by kernel_rfl) (by kernel_rfl)
theorem Fn.r01_Valid_eq (a0:Cell):Fn.r01_Valid (a0,()) =
 some ((),((decide (a0.1≤(2:Int))),())) :=
 (fE C_r01_Valid ins_r01_Valid outs_r01_Valid Tryz.f70 (a0,())).trans (by kernel_rfl)
def ins_r04_all:List Par:=[(ty26,.data)]
def outs_r04_all:List Par:=[(ty4,.data)]
def C_r04_all:FnC:={ G:=⟨tab,eqs,ctrL [(70,s_r01_Valid)]⟩,nt:=15,mv:=mvL [(1,1),(4,1)],pre:=preL [],cuts:=[2],sh:=shL [(2,⟨[(5,ty26,.data),(6,ty2,.data),(7,ty2,.data)],[],[],[],[]⟩)],anchs:=[] }
def Fn.r04_all_L2 (d:(((List Cell)×(Int×(Int×Unit)))×(Unit×Unit))):Option (Unit×(Bool×Unit)):=aO C_r04_all ins_r04_all outs_r04_all Tryz.f69 2 d
def Fn.r04_all (x:((List Cell)×Unit)):Option (Unit×(Bool×Unit)):=fO C_r04_all ins_r04_all outs_r04_all Tryz.f69 x
def s_r04_all:Sum:=⟨ins_r04_all,outs_r04_all,Fn.r04_all,none⟩
theorem m_r04_all:Meets Tryz.prog 69 s_r04_all:=meets_fn (C:=C_r04_all) (cfg_ok tok eqs_ok ⟨⟨m_r01_Valid,Tryz.call70⟩,trivial⟩) mixed Tryz.func69 rfl rfl rfl (by kernel_rfl) (by kernel_rfl)
theorem Fn.r04_all_eq (a0:(List Cell)):Fn.r04_all (a0,()) =
 (Fn.r04_all_L2 ((a0,((((List.length a0):Nat):Int),((0:Int),()))),((),()))).bind some :=
 (fE C_r04_all ins_r04_all outs_r04_all Tryz.f69 (a0,())).trans (by kernel_rfl)
theorem Fn.r04_all_L2_eq (v5:(List Cell)) (v6:Int) (v7:Int):Fn.r04_all_L2 ((v5,v6,v7,()),(),()) =
 bif (decide (v7<v6)) then
 bif (inR v7 (List.length v5)) then
 (Fn.r01_Valid ((List.getD v5 (Int.toNat v7) zCell),())).bind fun y1 =>
 bif (!y1.2.1) then
 some ((),(false,()))
 else
 (Fn.r04_all_L2 ((v5,(v6,((IntKind.wrap .i64 (v7+(1:Int))),()))),((),()))).bind some
 else none
 else
 some ((),(true,())) :=
 (aE C_r04_all ins_r04_all outs_r04_all Tryz.f69 2 ((v5,v6,v7,()),(),())).trans (by kernel_rfl)
def ins_r04_Valid:List Par:=[(ty29,.data)]
def outs_r04_Valid:List Par:=[(ty4,.data)]
def C_r04_Valid:FnC:={ G:=⟨tab,eqs,ctrL [(69,s_r04_all)]⟩,nt:=68,mv:=mvL [(0,0),(3,2),(7,5),(9,24)],pre:=preL [],cuts:=[4],sh:=shL [(4,⟨[(22,ty27,.data),(23,ty2,.data),(24,ty2,.data)],[],[],[],[]⟩)],anchs:=[] }
def Fn.r04_Valid_L4 (d:(((List Line)×(Int×(Int×Unit)))×(Unit×Unit))):Option (Unit×(Bool×Unit)):=aO C_r04_Valid ins_r04_Valid outs_r04_Valid Tryz.f40 4 d
def Fn.r04_Valid (x:(Memory×Unit)):Option (Unit×(Bool×Unit)):=fO C_r04_Valid ins_r04_Valid outs_r04_Valid Tryz.f40 x
def s_r04_Valid:Sum:=⟨ins_r04_Valid,outs_r04_Valid,Fn.r04_Valid,none⟩
theorem m_r04_Valid:Meets Tryz.prog 40 s_r04_Valid:=meets_fn (C:=C_r04_Valid) (cfg_ok tok eqs_ok ⟨⟨m_r04_all,Tryz.call69⟩,trivial⟩) mixed Tryz.func40 rfl rfl rfl (by kernel_rfl) (by kernel_rfl)
theorem Fn.r04_Valid_eq (a0:Memory):Fn.r04_Valid (a0,()) =
 lt (bif (!(decide ((((List.length a0.1):Nat):Int)=(512:Int)))) then true else (!(decide ((((List.length a0.2):Nat):Int)=(4:Int))))) fun x2 =>
 (bif ((!x2)&&true) then (Fn.r04_all (a0.1,())) else (Option.some ((),(false,())))).bind fun y1 =>
 bif (bif x2 then true else (!y1.2.1)) then
 some ((),(false,()))
 else
 (Fn.r04_Valid_L4 ((a0.2,((((List.length a0.2):Nat):Int),((0:Int),()))),((),()))).bind some :=
 (fE C_r04_Valid ins_r04_Valid outs_r04_Valid Tryz.f40 (a0,())).trans (by kernel_rfl)
theorem Fn.r04_Valid_L4_eq (v22:(List Line)) (v23:Int) (v24:Int):Fn.r04_Valid_L4 ((v22,v23,v24,()),(),()) =
 bif (decide (v24<v23)) then
 bif (inR v24 (List.length v22)) then
 lt (List.getD v22 (Int.toNat v24) zLine) fun x2 =>
 lt (((List.length x2.2.2):Nat):Int) fun x3 =>
 bif (decide (x2.1=(-(1:Int)))) then
 bif (bif x2.2.1 then true else (decide ((0:Int)<x3))) then
 some ((),(false,()))
 else
 (Fn.r04_Valid_L4 ((v22,(v23,((IntKind.wrap .i64 (v24+(1:Int))),()))),((),()))).bind some
 else
 lt (bif (decide (x2.1<(0:Int))) then true else (decide ((128:Int)≤x2.1))) fun x4 =>
 bif ((!((!x4)&&true))||(!(decide ((4:Int)=(0:Int))))) then
 lt (bif (bif x4 then true else (!(decide ((Int.tmod x2.1 (4:Int))=v24)))) then true else (!(decide (x3=(4:Int))))) fun x5 =>
 (bif ((!x5)&&true) then (Fn.r04_all (x2.2.2,())) else (Option.some ((),(false,())))).bind fun y1 =>
 bif (bif x5 then true else (!y1.2.1)) then
 some ((),(false,()))
 else
 (Fn.r04_Valid_L4 ((v22,(v23,((IntKind.wrap .i64 (v24+(1:Int))),()))),((),()))).bind some
 else none
 else none
 else
 some ((),(true,())) :=
 (aE C_r04_Valid ins_r04_Valid outs_r04_Valid Tryz.f40 4 ((v22,v23,v24,()),(),())).trans (by kernel_rfl)
def ins_r10_Valid:List Par:=[(ty52,.data)]
def outs_r10_Valid:List Par:=[(ty4,.data)]
def C_r10_Valid:FnC:={ G:=⟨tab,eqs,ctrL [(70,s_r01_Valid)]⟩,nt:=80,mv:=mvL [(0,0),(4,1)],pre:=preL [],cuts:=[2],sh:=shL [(2,⟨[(6,ty26,.data),(7,ty2,.data),(8,ty2,.data)],[(1,1,0)],[],[(1,ty51,.imm)],[]⟩)],anchs:=[] }
def Fn.r10_Valid_L2 (d:(((List Cell)×(Int×(Int×Unit)))×((Thread×Unit)×Unit))):Option (Unit×(Bool×Unit)):=aO C_r10_Valid ins_r10_Valid outs_r10_Valid Tryz.f41 2 d
def Fn.r10_Valid (x:(Thread×Unit)):Option (Unit×(Bool×Unit)):=fO C_r10_Valid ins_r10_Valid outs_r10_Valid Tryz.f41 x
def s_r10_Valid:Sum:=⟨ins_r10_Valid,outs_r10_Valid,Fn.r10_Valid,none⟩
theorem m_r10_Valid:Meets Tryz.prog 41 s_r10_Valid:=meets_fn (C:=C_r10_Valid) (cfg_ok tok eqs_ok ⟨⟨m_r01_Valid,Tryz.call70⟩,trivial⟩) mixed Tryz.func41 rfl rfl rfl (by kernel_rfl) (by kernel_rfl)
theorem Fn.r10_Valid_eq (a0:Thread):Fn.r10_Valid (a0,()) =
 (Fn.r10_Valid_L2 ((a0.2.1,((((List.length a0.2.1):Nat):Int),((0:Int),()))),((a0,()),()))).bind some :=
 (fE C_r10_Valid ins_r10_Valid outs_r10_Valid Tryz.f41 (a0,())).trans (by kernel_rfl)
theorem Fn.r10_Valid_L2_eq (v6:(List Cell)) (v7:Int) (v8:Int) (r1:Thread):Fn.r10_Valid_L2 ((v6,v7,v8,()),(r1,()),()) =
 bif (decide (v8<v7)) then
 bif (inR v8 (List.length v6)) then
 (Fn.r01_Valid ((List.getD v6 (Int.toNat v8) zCell),())).bind fun y1 =>
 bif (!y1.2.1) then
 some ((),(false,()))
 else
 (Fn.r10_Valid_L2 ((v6,(v7,((IntKind.wrap .i64 (v8+(1:Int))),()))),((r1,()),()))).bind some
 else none
 else
 some ((),((bif (bif (bif (bif (bif (bif (bif (bif (bif (bif (bif (bif (decide ((0:Int)≤r1.1)) then (decide (r1.1≤(4:Int))) else false) then (decide ((((List.length r1.2.1):Nat):Int)=(8:Int))) else false) then (decide ((0:Int)≤r1.2.2.1)) else false) then (decide (r1.2.2.1≤(255:Int))) else false) then (decide ((0:Int)≤r1.2.2.2.1)) else false) then (decide (r1.2.2.2.1≤(1099511627776:Int))) else false) then (decide ((-(1:Int))≤r1.2.2.2.2.1)) else false) then (decide (r1.2.2.2.2.1≤(255:Int))) else false) then (decide ((-(1:Int))≤r1.2.2.2.2.2.1)) else false) then (decide (r1.2.2.2.2.2.1≤(255:Int))) else false) then (decide ((0:Int)≤r1.2.2.2.2.2.2.1)) else false) then (decide (r1.2.2.2.2.2.2.1≤(6:Int))) else false),())) :=
 (aE C_r10_Valid ins_r10_Valid outs_r10_Valid Tryz.f41 2 ((v6,v7,v8,()),(r1,()),())).trans (by kernel_rfl)
def ins_r11_Valid:List Par:=[(ty38,.data),(ty32,.data)]
def outs_r11_Valid:List Par:=[(ty4,.data)]
def C_r11_Valid:FnC:={ G:=⟨tab,eqs,ctrL [(38,s_r08_Check),(39,s_r03_Valid),(40,s_r04_Valid),(41,s_r10_Valid)]⟩,nt:=41,mv:=mvL [(0,1),(0,0),(3,2),(6,1)],pre:=preL [],cuts:=[4],sh:=shL [(4,⟨[(31,ty30,.data),(32,ty2,.data),(33,ty2,.data)],[],[],[],[]⟩)],anchs:=[] }
def Fn.r11_Valid_L4 (d:(((List Thread)×(Int×(Int×Unit)))×(Unit×Unit))):Option (Unit×(Bool×Unit)):=aO C_r11_Valid ins_r11_Valid outs_r11_Valid Tryz.f27 4 d
def Fn.r11_Valid (x:(Prog×(Machine×Unit))):Option (Unit×(Bool×Unit)):=fO C_r11_Valid ins_r11_Valid outs_r11_Valid Tryz.f27 x
def s_r11_Valid:Sum:=⟨ins_r11_Valid,outs_r11_Valid,Fn.r11_Valid,none⟩
theorem m_r11_Valid:Meets Tryz.prog 27 s_r11_Valid:=meets_fn (C:=C_r11_Valid) (cfg_ok tok eqs_ok ⟨⟨m_r08_Check,Tryz.call38⟩,⟨⟨m_r03_Valid,Tryz.call39⟩,⟨⟨m_r04_Valid,Tryz.call40⟩,⟨⟨m_r10_Valid,Tryz.call41⟩,trivial⟩⟩⟩⟩) mixed Tryz.func27 rfl rfl rfl (by kernel_rfl) (by kernel_rfl)
theorem Fn.r11_Valid_eq (a0:Prog) (a1:Machine):Fn.r11_Valid (a0,a1,()) =
 (Fn.r08_Check (a0,())).bind fun y1 =>
 (bif ((!(!(decide (y1.2.1=(0:Int)))))&&true) then (Fn.r03_Valid (a1.1,(a0.2.1,()))) else (Option.some ((),(false,())))).bind fun y2 =>
 lt (bif (!(decide (y1.2.1=(0:Int)))) then true else (!y2.2.1)) fun x4 =>
 (bif ((!x4)&&true) then (Fn.r04_Valid (a1.2.1,())) else (Option.some ((),(false,())))).bind fun y3 =>
 lt (((List.length a1.2.2):Nat):Int) fun x5 =>
 bif (bif (bif x4 then true else (!y3.2.1)) then true else (!(decide (x5=(4:Int))))) then
 some ((),(false,()))
 else
 (Fn.r11_Valid_L4 ((a1.2.2,(x5,((0:Int),()))),((),()))).bind some :=
 (fE C_r11_Valid ins_r11_Valid outs_r11_Valid Tryz.f27 (a0,a1,())).trans (by kernel_rfl)
theorem Fn.r11_Valid_L4_eq (v31:(List Thread)) (v32:Int) (v33:Int):Fn.r11_Valid_L4 ((v31,v32,v33,()),(),()) =
 bif (decide (v33<v32)) then
 bif (inR v33 (List.length v31)) then
 (Fn.r10_Valid ((List.getD v31 (Int.toNat v33) zThread),())).bind fun y1 =>
 bif (!y1.2.1) then
 some ((),(false,()))
 else
 (Fn.r11_Valid_L4 ((v31,(v32,((IntKind.wrap .i64 (v33+(1:Int))),()))),((),()))).bind some
 else none
 else
 some ((),(true,())) :=
 (aE C_r11_Valid ins_r11_Valid outs_r11_Valid Tryz.f27 4 ((v31,v32,v33,()),(),())).trans (by kernel_rfl)
def ins_r11_trap:List Par:=[(ty52,.lend (.full ty52) (.full ty52)),(ty3,.data)]
def outs_r11_trap:List Par:=[(ty3,.data)]
def C_r11_trap:FnC:={ G:=⟨tab,eqs,ctrL []⟩,nt:=15,mv:=mvL [(1,9)],pre:=preL [],cuts:=[],sh:=shL [],anchs:=[700000] }
def Fn.r11_trap (x:(Thread×(Int×Unit))):Option ((Thread×Unit)×(Int×Unit)):=fO C_r11_trap ins_r11_trap outs_r11_trap Tryz.f42 x
def s_r11_trap:Sum:=⟨ins_r11_trap,outs_r11_trap,Fn.r11_trap,none⟩
theorem m_r11_trap:Meets Tryz.prog 42 s_r11_trap:=meets_fn (C:=C_r11_trap) (cfg_ok tok eqs_ok trivial) mixed Tryz.func42 rfl rfl rfl (by kernel_rfl) (by kernel_rfl)
theorem Fn.r11_trap_eq (a0:Thread) (a1:Int):Fn.r11_trap (a0,a1,()) =
 some ((((4:Int),(a0.2.1,(a0.2.2.1,(a0.2.2.2.1,(a0.2.2.2.2.1,(a0.2.2.2.2.2.1,(a1,(0:Int)))))))),()),((2:Int),())) :=
 (fE C_r11_trap ins_r11_trap outs_r11_trap Tryz.f42 (a0,a1,())).trans (by kernel_rfl)
def ins_r09_Move:List Par:=[(ty25,.data),(ty22,.data),(ty103,.data),(ty23,.data),(ty4,.data)]
def outs_r09_Move:List Par:=[(ty103,.data),(ty3,.data)]
def C_r09_Move:FnC:={ G:=⟨tab,eqs,ctrL [(71,s_r03_Resolve),(72,s_r02_Inside)]⟩,nt:=59,mv:=mvL [(0,1),(0,0),(2,1),(3,10),(5,1),(7,6),(8,6),(10,1),(11,11),(11,10)],pre:=preL [],cuts:=[],sh:=shL [],anchs:=[] }
def Fn.r09_Move (x:(Layout×((List Int)×(Cell×(Int×(Bool×Unit)))))):Option (Unit×(Cell×(Int×Unit))):=fO C_r09_Move ins_r09_Move outs_r09_Move Tryz.f43 x
def s_r09_Move:Sum:=⟨ins_r09_Move,outs_r09_Move,Fn.r09_Move,none⟩
theorem m_r09_Move:Meets Tryz.prog 43 s_r09_Move:=meets_fn (C:=C_r09_Move) (cfg_ok tok eqs_ok ⟨⟨m_r03_Resolve,Tryz.call71⟩,⟨⟨m_r02_Inside,Tryz.call72⟩,trivial⟩⟩) mixed Tryz.func43 rfl rfl rfl (by kernel_rfl) (by kernel_rfl)
theorem Fn.r09_Move_eq (a0:Layout) (a1:(List Int)) (a2:Cell) (a3:Int) (a4:Bool):Fn.r09_Move (a0,a1,a2,a3,a4,()) =
 bif (!(decide (a2.1=(1:Int)))) then
 some ((),(((0:Int),(0:Int)),((3:Int),())))
 else
 (Fn.r03_Resolve (a0,(a1,((IntKind.wrap .i64 a2.2),())))).bind fun y1 =>
 lt ((),(((0:Int),(0:Int)),((4:Int),()))) fun x4 =>
 bif (!y1.2.2.1) then
 some x4
 else
 lt (IntKind.wrap .i64 a3) fun x5 =>
 lt (List.getD a0.1 (Int.toNat y1.2.1.1) (0:Int)) fun x6 =>
 bif a4 then
 lt (IntKind.wrap .i64 (y1.2.1.2 - x5)) fun x7 =>
 (Fn.r02_Inside (a1,((y1.2.1.1,x7),()))).bind fun y2 =>
 bif (!y2.2.1) then
 some x4
 else
 bif (inR y1.2.1.1 (List.length a0.1)) then
 some ((),(((1:Int),(IntKind.wrap .u16 (IntKind.wrap .i64 (x6+x7)))),((0:Int),())))
 else none
 else
 lt (IntKind.wrap .i64 (y1.2.1.2+x5)) fun x8 =>
 (Fn.r02_Inside (a1,((y1.2.1.1,x8),()))).bind fun y3 =>
 bif (!y3.2.1) then
 some x4
 else
 bif (inR y1.2.1.1 (List.length a0.1)) then
 some ((),(((1:Int),(IntKind.wrap .u16 (IntKind.wrap .i64 (x6+x8)))),((0:Int),())))
 else none :=
 (fE C_r09_Move ins_r09_Move outs_r09_Move Tryz.f43 (a0,a1,a2,a3,a4,())).trans (by kernel_rfl)
def ins_r05_Fetch:List Par:=[(ty29,.lend (.full ty29) (.full ty29)),(ty3,.data)]
def outs_r05_Fetch:List Par:=[(ty3,.data)]
def C_r05_Fetch:FnC:={ G:=⟨tab,eqs,ctrL []⟩,nt:=64,mv:=mvL [(8,14),(8,11)],pre:=preL [],cuts:=[],sh:=shL [],anchs:=[700000],inp:=(some ⟨1,ty61,0⟩) }
def Fn.r05_Fetch (x:(Memory×(Int×Unit))):Option ((Memory×Unit)×(Int×Unit)):=fO C_r05_Fetch ins_r05_Fetch outs_r05_Fetch Tryz.f73 x
def s_r05_Fetch:Sum:=⟨ins_r05_Fetch,outs_r05_Fetch,Fn.r05_Fetch,(some ⟨1,ty61,0⟩)⟩
theorem m_r05_Fetch:Meets Tryz.prog 73 s_r05_Fetch:=meets_fn (C:=C_r05_Fetch) (cfg_ok tok eqs_ok trivial) mixed Tryz.func73 rfl rfl rfl (by kernel_rfl) (by kernel_rfl)
theorem Fn.r05_Fetch_eq (a0:Memory) (a1:Int):Fn.r05_Fetch (a0,a1,()) =
 bif (!(decide ((4:Int)=(0:Int)))) then
 bif (!(decide ((4:Int)=(0:Int)))) then
 lt (IntKind.wrap .i64 (Int.tdiv a1 (4:Int))) fun x1 =>
 bif (inR (Int.tmod x1 (4:Int)) (List.length a0.2)) then
 lt (List.getD a0.2 (0+(Int.toNat (Int.tmod x1 (4:Int)))) zLine) fun x2 =>
 lt ((Int.ofNat (0+(Int.toNat (Int.tmod x1 (4:Int))))),()) fun x3 =>
 bif (decide (x2.1=x1)) then
 some ((a0,()),x3)
 else
 lt (IntKind.wrap .i64 (x1 * (4:Int))) fun x4 =>
 lt (IntKind.wrap .i64 ((IntKind.wrap .i64 (x1+(1:Int))) * (4:Int))) fun x5 =>
 lt (List.set a0.2 (0+(Int.toNat (Int.tmod x1 (4:Int)))) (x1,x2.2)) fun x6 =>
 lt (List.getD x6 (0+(Int.toNat (Int.tmod x1 (4:Int)))) zLine) fun x7 =>
 lt (List.set x6 (0+(Int.toNat (Int.tmod x1 (4:Int)))) (x7.1,(false,x7.2.2))) fun x8 =>
 lt (List.getD x8 (0+(Int.toNat (Int.tmod x1 (4:Int)))) zLine) fun x9 =>
 bif x2.2.1 then
 lt (IntKind.wrap .i64 (x2.1 * (4:Int))) fun x10 =>
 bif (((decide ((0:Int)≤x10))&&(decide (x10≤(((List.length a0.1):Nat):Int))))&&(decide ((((List.length a0.1):Nat):Int)≤(((List.length a0.1):Nat):Int)))) then
 lt (List.take (Nat.min (List.length x2.2.2) (List.length (List.take ((Int.toNat (((List.length a0.1):Nat):Int)) - (Int.toNat x10)) (List.drop (Int.toNat x10) a0.1)))) x2.2.2) fun x11 =>
 lt (List.append (List.append (List.take (Int.toNat x10) a0.1) x11) (List.drop ((Int.toNat x10)+(List.length x11)) a0.1)) fun x12 =>
 bif (((decide ((0:Int)≤x4))&&(decide (x4≤x5)))&&(decide (x5≤(((List.length x12):Nat):Int)))) then
 lt (List.take ((Int.toNat x5) - (Int.toNat x4)) (List.drop (Int.toNat x4) x12)) fun x13 =>
 bif (Nat.ble ((List.length ([]:(List Cell)))+(List.length x13)) 4294967296) then
 some (((x12,(List.set x8 (0+(Int.toNat (Int.tmod x1 (4:Int)))) (x9.1,(x9.2.1,(List.append ([]:(List Cell)) x13))))),()),x3)
 else none
 else none
 else none
 else
 bif (((decide ((0:Int)≤x4))&&(decide (x4≤x5)))&&(decide (x5≤(((List.length a0.1):Nat):Int)))) then
 lt (List.take ((Int.toNat x5) - (Int.toNat x4)) (List.drop (Int.toNat x4) a0.1)) fun x14 =>
 bif (Nat.ble ((List.length ([]:(List Cell)))+(List.length x14)) 4294967296) then
 some (((a0.1,(List.set x8 (0+(Int.toNat (Int.tmod x1 (4:Int)))) (x9.1,(x9.2.1,(List.append ([]:(List Cell)) x14))))),()),x3)
 else none
 else none
 else none
 else none
 else none :=
 (fE C_r05_Fetch ins_r05_Fetch outs_r05_Fetch Tryz.f73 (a0,a1,())).trans (by kernel_rfl)
def ins_r05_Load:List Par:=[(ty29,.lend (.full ty29) (.full ty29)),(ty3,.data)]
def outs_r05_Load:List Par:=[(ty103,.data)]
def C_r05_Load:FnC:={ G:=⟨tab,eqs,ctrL [(73,s_r05_Fetch)]⟩,nt:=15,mv:=mvL [(1,10)],pre:=preL [],cuts:=[],sh:=shL [],anchs:=[700000] }
def Fn.r05_Load (x:(Memory×(Int×Unit))):Option ((Memory×Unit)×(Cell×Unit)):=fO C_r05_Load ins_r05_Load outs_r05_Load Tryz.f44 x
def s_r05_Load:Sum:=⟨ins_r05_Load,outs_r05_Load,Fn.r05_Load,none⟩
theorem m_r05_Load:Meets Tryz.prog 44 s_r05_Load:=meets_fn (C:=C_r05_Load) (cfg_ok tok eqs_ok ⟨⟨m_r05_Fetch,Tryz.call73⟩,trivial⟩) mixed Tryz.func44 rfl rfl rfl (by kernel_rfl) (by kernel_rfl)
theorem Fn.r05_Load_eq (a0:Memory) (a1:Int):Fn.r05_Load (a0,a1,()) =
 (Fn.r05_Fetch (a0,(a1,()))).bind fun y1 =>
 bif (!(decide ((4:Int)=(0:Int)))) then
 bif (inR (Int.tmod a1 (4:Int)) (List.length (List.getD y1.1.1.2 (Int.toNat y1.2.1) zLine).2.2)) then
 some ((y1.1.1,()),((List.getD (List.getD y1.1.1.2 (Int.toNat y1.2.1) zLine).2.2 (0+(Int.toNat (Int.tmod a1 (4:Int)))) zCell),()))
 else none
 else none :=
 (fE C_r05_Load ins_r05_Load outs_r05_Load Tryz.f44 (a0,a1,())).trans (by kernel_rfl)
def ins_r05_Store:List Par:=[(ty29,.lend (.full ty29) (.full ty29)),(ty3,.data),(ty103,.data)]
def outs_r05_Store:List Par:=[]
def C_r05_Store:FnC:={ G:=⟨tab,eqs,ctrL [(73,s_r05_Fetch)]⟩,nt:=21,mv:=mvL [(0,0),(2,9)],pre:=preL [],cuts:=[],sh:=shL [],anchs:=[700000] }
def Fn.r05_Store (x:(Memory×(Int×(Cell×Unit)))):Option ((Memory×Unit)×Unit):=fO C_r05_Store ins_r05_Store outs_r05_Store Tryz.f45 x
def s_r05_Store:Sum:=⟨ins_r05_Store,outs_r05_Store,Fn.r05_Store,none⟩
theorem m_r05_Store:Meets Tryz.prog 45 s_r05_Store:=meets_fn (C:=C_r05_Store) (cfg_ok tok eqs_ok ⟨⟨m_r05_Fetch,Tryz.call73⟩,trivial⟩) mixed Tryz.func45 rfl rfl rfl (by kernel_rfl) (by kernel_rfl)
theorem Fn.r05_Store_eq (a0:Memory) (a1:Int) (a2:Cell):Fn.r05_Store (a0,a1,a2,()) =
 (Fn.r05_Fetch (a0,(a1,()))).bind fun y1 =>
 bif (!(decide ((4:Int)=(0:Int)))) then
 lt (List.getD y1.1.1.2 (Int.toNat y1.2.1) zLine) fun x2 =>
 bif (inR (Int.tmod a1 (4:Int)) (List.length x2.2.2)) then
 lt (List.set y1.1.1.2 (Int.toNat y1.2.1) (x2.1,(x2.2.1,(List.set x2.2.2 (0+(Int.toNat (Int.tmod a1 (4:Int)))) a2)))) fun x3 =>
 lt (List.getD x3 (Int.toNat y1.2.1) zLine) fun x4 =>
 some (((y1.1.1.1,(List.set x3 (Int.toNat y1.2.1) (x4.1,(true,x4.2.2)))),()),())
 else none
 else none :=
 (fE C_r05_Store ins_r05_Store outs_r05_Store Tryz.f45 (a0,a1,a2,())).trans (by kernel_rfl)
def ins_r09_flag:List Par:=[(ty4,.data)]
def outs_r09_flag:List Par:=[(ty103,.data)]
def C_r09_flag:FnC:={ G:=⟨tab,eqs,ctrL []⟩,nt:=6,mv:=mvL [(2,1),(3,1)],pre:=preL [],cuts:=[],sh:=shL [],anchs:=[] }
def Fn.r09_flag (x:(Bool×Unit)):Option (Unit×(Cell×Unit)):=fO C_r09_flag ins_r09_flag outs_r09_flag Tryz.f74 x
def s_r09_flag:Sum:=⟨ins_r09_flag,outs_r09_flag,Fn.r09_flag,none⟩
theorem m_r09_flag:Meets Tryz.prog 74 s_r09_flag:=meets_fn (C:=C_r09_flag) (cfg_ok tok eqs_ok trivial) mixed Tryz.func74 rfl rfl rfl (by kernel_rfl) (by kernel_rfl)
theorem Fn.r09_flag_eq (a0:Bool):Fn.r09_flag (a0,()) =
 bif a0 then
 some ((),(((0:Int),(1:Int)),()))
 else
 some ((),(((0:Int),(0:Int)),())) :=
 (fE C_r09_flag ins_r09_flag outs_r09_flag Tryz.f74 (a0,())).trans (by kernel_rfl)
def ins_r09_numbers:List Par:=[(ty3,.data),(ty23,.data),(ty23,.data)]
def outs_r09_numbers:List Par:=[(ty103,.data),(ty3,.data)]
def C_r09_numbers:FnC:={ G:=⟨tab,eqs,ctrL [(74,s_r09_flag)]⟩,nt:=79,mv:=mvL [(3,4),(3,3),(5,4),(5,3),(7,4),(7,3),(11,1),(13,4),(13,3),(14,4),(14,3),(16,4),(16,3),(18,4),(18,3),(20,4),(20,3),(22,5),(22,4),(24,5),(24,4),(25,4),(25,3)],pre:=preL [],cuts:=[],sh:=shL [],anchs:=[] }
def Fn.r09_numbers (x:(Int×(Int×(Int×Unit)))):Option (Unit×(Cell×(Int×Unit))):=fO C_r09_numbers ins_r09_numbers outs_r09_numbers Tryz.f75 x
def s_r09_numbers:Sum:=⟨ins_r09_numbers,outs_r09_numbers,Fn.r09_numbers,none⟩
theorem m_r09_numbers:Meets Tryz.prog 75 s_r09_numbers:=meets_fn (C:=C_r09_numbers) (cfg_ok tok eqs_ok ⟨⟨m_r09_flag,Tryz.call74⟩,trivial⟩) mixed Tryz.func75 rfl rfl rfl (by kernel_rfl) (by kernel_rfl)
theorem Fn.r09_numbers_eq (a0:Int) (a1:Int) (a2:Int):Fn.r09_numbers (a0,a1,a2,()) =
 bif (decide (a0=(3:Int))) then
 some ((),(((0:Int),(IntKind.wrap .u16 (a1+a2))),((0:Int),())))
 else
 bif (decide (a0=(4:Int))) then
 some ((),(((0:Int),(IntKind.wrap .u16 (a1 - a2))),((0:Int),())))
 else
 bif (decide (a0=(5:Int))) then
 some ((),(((0:Int),(IntKind.wrap .u16 (a1 * a2))),((0:Int),())))
 else
 lt ((2:Int) ^ (Nat.min (Int.toNat (Int.tmod a2 (16:Int))) 16)) fun x3 =>
 lt ((),(((0:Int),(Int.tmod a1 a2)),((0:Int),()))) fun x4 =>
 lt ((),(((0:Int),(0:Int)),((5:Int),()))) fun x5 =>
 lt ((),(((0:Int),(IntKind.wrap .u16 (Int.tdiv a1 a2))),((0:Int),()))) fun x6 =>
 lt ((),(((0:Int),(Int.fdiv a1 x3)),((0:Int),()))) fun x7 =>
 lt ((),(((0:Int),(IntKind.wrap .u16 (a1 * x3))),((0:Int),()))) fun x8 =>
 lt ((),(((0:Int),(IntKind.wrap .u16 (((BitVec.toNat ((BitVec.ofInt 16 a1) &&& (BitVec.ofInt 16 a2))):Nat):Int))),((0:Int),()))) fun x9 =>
 lt ((),(((0:Int),(IntKind.wrap .u16 (((BitVec.toNat ((BitVec.ofInt 16 a1) ^^^ (BitVec.ofInt 16 a2))):Nat):Int))),((0:Int),()))) fun x10 =>
 lt ((),(((0:Int),(IntKind.wrap .u16 (((BitVec.toNat ((BitVec.ofInt 16 a1) ||| (BitVec.ofInt 16 a2))):Nat):Int))),((0:Int),()))) fun x11 =>
 bif (decide (a0=(6:Int))) then
 bif (decide (a0=(6:Int))) then
 bif (decide (a2=(0:Int))) then
 some x5
 else
 bif (decide (a0=(6:Int))) then
 bif (!(decide (a2=(0:Int)))) then
 some x6
 else none
 else
 bif (!(decide (a2=(0:Int)))) then
 some x4
 else none
 else
 bif (decide (a0=(8:Int))) then
 some x9
 else
 bif (decide (a0=(9:Int))) then
 some x11
 else
 bif (decide (a0=(10:Int))) then
 some x10
 else
 bif (decide (a0=(11:Int))) then
 bif (!(decide ((16:Int)=(0:Int)))) then
 bif (decide ((0:Int)≤(Int.tmod a2 (16:Int)))) then
 some x8
 else none
 else none
 else
 bif (decide (a0=(12:Int))) then
 bif (!(decide ((16:Int)=(0:Int)))) then
 bif (decide ((0:Int)≤(Int.tmod a2 (16:Int)))) then
 some x7
 else none
 else none
 else
 (Fn.r09_flag ((decide (a1<a2)),())).bind fun y1 =>
 some ((),(y1.2.1,((0:Int),())))
 else
 bif (decide (a0=(7:Int))) then
 bif (decide (a2=(0:Int))) then
 some x5
 else
 bif (decide (a0=(6:Int))) then
 bif (!(decide (a2=(0:Int)))) then
 some x6
 else none
 else
 bif (!(decide (a2=(0:Int)))) then
 some x4
 else none
 else
 bif (decide (a0=(8:Int))) then
 some x9
 else
 bif (decide (a0=(9:Int))) then
 some x11
 else
 bif (decide (a0=(10:Int))) then
 some x10
 else
 bif (decide (a0=(11:Int))) then
 bif (!(decide ((16:Int)=(0:Int)))) then
 bif (decide ((0:Int)≤(Int.tmod a2 (16:Int)))) then
 some x8
 else none
 else none
 else
 bif (decide (a0=(12:Int))) then
 bif (!(decide ((16:Int)=(0:Int)))) then
 bif (decide ((0:Int)≤(Int.tmod a2 (16:Int)))) then
 some x7
 else none
 else none
 else
 (Fn.r09_flag ((decide (a1<a2)),())).bind fun y2 =>
 some ((),(y2.2.1,((0:Int),()))) :=
 (fE C_r09_numbers ins_r09_numbers outs_r09_numbers Tryz.f75 (a0,a1,a2,())).trans (by kernel_rfl)
def ins_r09_apart:List Par:=[(ty25,.data),(ty22,.data),(ty103,.data),(ty103,.data)]
def outs_r09_apart:List Par:=[(ty129,.data),(ty129,.data),(ty4,.data)]
def C_r09_apart:FnC:={ G:=⟨tab,eqs,ctrL [(71,s_r03_Resolve)]⟩,nt:=46,mv:=mvL [(0,2),(0,1),(0,0),(1,10),(2,10),(2,5),(3,14),(3,13)],pre:=preL [],cuts:=[],sh:=shL [],anchs:=[] }
def Fn.r09_apart (x:(Layout×((List Int)×(Cell×(Cell×Unit))))):Option (Unit×(Place2×(Place2×(Bool×Unit)))):=fO C_r09_apart ins_r09_apart outs_r09_apart Tryz.f76 x
def s_r09_apart:Sum:=⟨ins_r09_apart,outs_r09_apart,Fn.r09_apart,none⟩
theorem m_r09_apart:Meets Tryz.prog 76 s_r09_apart:=meets_fn (C:=C_r09_apart) (cfg_ok tok eqs_ok ⟨⟨m_r03_Resolve,Tryz.call71⟩,trivial⟩) mixed Tryz.func76 rfl rfl rfl (by kernel_rfl) (by kernel_rfl)
theorem Fn.r09_apart_eq (a0:Layout) (a1:(List Int)) (a2:Cell) (a3:Cell):Fn.r09_apart (a0,a1,a2,a3,()) =
 (Fn.r03_Resolve (a0,(a1,((IntKind.wrap .i64 a2.2),())))).bind fun y1 =>
 (Fn.r03_Resolve (a0,(a1,((IntKind.wrap .i64 a3.2),())))).bind fun y2 =>
 some ((),(y1.2.1,(y2.2.1,((bif (bif y1.2.2.1 then y2.2.2.1 else false) then (decide (y1.2.1.1=y2.2.1.1)) else false),())))) :=
 (fE C_r09_apart ins_r09_apart outs_r09_apart Tryz.f76 (a0,a1,a2,a3,())).trans (by kernel_rfl)
def ins_r09_Do:List Par:=[(ty25,.data),(ty22,.data),(ty3,.data),(ty103,.data),(ty103,.data)]
def outs_r09_Do:List Par:=[(ty103,.data),(ty3,.data)]
def C_r09_Do:FnC:={ G:=⟨tab,eqs,ctrL [(43,s_r09_Move),(74,s_r09_flag),(75,s_r09_numbers),(76,s_r09_apart)]⟩,nt:=154,mv:=mvL [(0,2),(0,1),(0,0),(2,1),(4,4),(4,3),(6,8),(6,5),(8,8),(8,5),(10,8),(10,5),(12,8),(12,5),(14,12),(14,11),(14,4),(16,1),(18,6),(18,5),(19,7),(19,6),(20,1)],pre:=preL [],cuts:=[],sh:=shL [],anchs:=[] }
def Fn.r09_Do (x:(Layout×((List Int)×(Int×(Cell×(Cell×Unit)))))):Option (Unit×(Cell×(Int×Unit))):=fO C_r09_Do ins_r09_Do outs_r09_Do Tryz.f46 x
def s_r09_Do:Sum:=⟨ins_r09_Do,outs_r09_Do,Fn.r09_Do,none⟩
theorem m_r09_Do:Meets Tryz.prog 46 s_r09_Do:=meets_fn (C:=C_r09_Do) (cfg_ok tok eqs_ok ⟨⟨m_r09_Move,Tryz.call43⟩,⟨⟨m_r09_flag,Tryz.call74⟩,⟨⟨m_r09_numbers,Tryz.call75⟩,⟨⟨m_r09_apart,Tryz.call76⟩,trivial⟩⟩⟩⟩) mixed Tryz.func46 rfl rfl rfl (by kernel_rfl) (by kernel_rfl)
theorem Fn.r09_Do_eq (a0:Layout) (a1:(List Int)) (a2:Int) (a3:Cell) (a4:Cell):Fn.r09_Do (a0,a1,a2,a3,a4,()) =
 bif (bif (decide (a2<(3:Int))) then true else (decide ((14:Int)<a2))) then
 some ((),(((0:Int),(0:Int)),((1:Int),())))
 else
 bif (decide (a2=(14:Int))) then
 (Fn.r09_flag (((decide (a3.1=a4.1))&&(decide (a3.2=a4.2))),())).bind fun y1 =>
 some ((),(y1.2.1,((0:Int),())))
 else
 bif (bif (decide (a3.1=(0:Int))) then (decide (a4.1=(0:Int))) else false) then
 (Fn.r09_numbers (a2,(a3.2,(a4.2,())))).bind fun y2 =>
 some ((),(y2.2.1,(y2.2.2.1,())))
 else
 bif (bif (bif (decide (a2=(3:Int))) then (decide (a3.1=(1:Int))) else false) then (decide (a4.1=(0:Int))) else false) then
 (Fn.r09_Move (a0,(a1,(a3,(a4.2,(false,())))))).bind fun y3 =>
 some ((),(y3.2.1,(y3.2.2.1,())))
 else
 bif (bif (bif (decide (a2=(3:Int))) then (decide (a3.1=(0:Int))) else false) then (decide (a4.1=(1:Int))) else false) then
 (Fn.r09_Move (a0,(a1,(a4,(a3.2,(false,())))))).bind fun y4 =>
 some ((),(y4.2.1,(y4.2.2.1,())))
 else
 bif (bif (bif (decide (a2=(4:Int))) then (decide (a3.1=(1:Int))) else false) then (decide (a4.1=(0:Int))) else false) then
 (Fn.r09_Move (a0,(a1,(a3,(a4.2,(true,())))))).bind fun y5 =>
 some ((),(y5.2.1,(y5.2.2.1,())))
 else
 bif (bif (bif (bif (decide (a2=(4:Int))) then true else (decide (a2=(13:Int)))) then (decide (a3.1=(1:Int))) else false) then (decide (a4.1=(1:Int))) else false) then
 (Fn.r09_apart (a0,(a1,(a3,(a4,()))))).bind fun y6 =>
 bif (!y6.2.2.2.1) then
 some ((),(((0:Int),(0:Int)),((4:Int),())))
 else
 bif (decide (a2=(13:Int))) then
 (Fn.r09_flag ((decide (y6.2.1.2<y6.2.2.1.2)),())).bind fun y7 =>
 some ((),(y7.2.1,((0:Int),())))
 else
 some ((),(((0:Int),(IntKind.wrap .u16 (IntKind.wrap .i64 (y6.2.1.2 - y6.2.2.1.2)))),((0:Int),())))
 else
 some ((),(((0:Int),(0:Int)),((3:Int),()))) :=
 (fE C_r09_Do ins_r09_Do outs_r09_Do Tryz.f46 (a0,a1,a2,a3,a4,())).trans (by kernel_rfl)
def ins_r06_Branch:List Par:=[(ty3,.data)]
def outs_r06_Branch:List Par:=[(ty4,.data)]
def C_r06_Branch:FnC:={ G:=⟨tab,eqs,ctrL [(68,s_r06_Jump)]⟩,nt:=13,mv:=mvL [],pre:=preL [],cuts:=[],sh:=shL [],anchs:=[] }
def Fn.r06_Branch (x:(Int×Unit)):Option (Unit×(Bool×Unit)):=fO C_r06_Branch ins_r06_Branch outs_r06_Branch Tryz.f47 x
def s_r06_Branch:Sum:=⟨ins_r06_Branch,outs_r06_Branch,Fn.r06_Branch,none⟩
theorem m_r06_Branch:Meets Tryz.prog 47 s_r06_Branch:=meets_fn (C:=C_r06_Branch) (cfg_ok tok eqs_ok ⟨⟨m_r06_Jump,Tryz.call68⟩,trivial⟩) mixed Tryz.func47 rfl rfl rfl (by kernel_rfl) (by kernel_rfl)
theorem Fn.r06_Branch_eq (a0:Int):Fn.r06_Branch (a0,()) =
 (Fn.r06_Jump (a0,())).bind fun y1 =>
 some ((),((bif (bif y1.2.1 then true else (decide (a0=(22:Int)))) then true else (decide (a0=(24:Int)))),())) :=
 (fE C_r06_Branch ins_r06_Branch outs_r06_Branch Tryz.f47 (a0,())).trans (by kernel_rfl)
def ins_r11_one:List Par:=[(ty38,.data),(ty32,.lend (.full ty32) (.full ty32)),(ty3,.data)]
def outs_r11_one:List Par:=[(ty3,.data)]
def C_r11_one:FnC:={ G:=⟨tab,eqs,ctrL [(42,s_r11_trap),(43,s_r09_Move),(44,s_r05_Load),(45,s_r05_Store),(46,s_r09_Do),(47,s_r06_Branch)]⟩,nt:=284,mv:=mvL [(0,0),(3,1),(14,11),(14,9),(16,8),(18,18),(18,16),(23,1),(24,15),(26,2),(28,14),(28,12),(29,7),(35,1),(39,10),(39,8),(43,1),(45,1),(49,1),(52,8),(8,22),(10,2),(11,8),(54,4),(55,2),(56,7)],pre:=preL [],cuts:=[24,54],sh:=shL [(24,⟨[(9,ty2,.data)],[(1,1700000,0),(3,3,0),(8,8,0),(11,11,0),(12,12,0)],[],[(3,ty37,.imm),(8,ty53,.imm),(11,ty102,.imm),(12,ty102,.imm),(1700000,ty31,(.pr (.pr (.own none .imm) .imm) (.pr (.pr (.own none (.pr .imm .imm)) (.own none (.pr .imm (.pr .imm (.own none (.pr .imm .imm)))))) (.own none (.pr .imm (.pr (.own none (.pr .imm .imm)) (.pr .imm (.pr .imm (.pr .imm (.pr .imm (.pr .imm .imm)))))))))))],[(7,1700000,4,8,0)]⟩),(54,⟨[(9,ty2,.data)],[(8,8,0)],[],[(8,ty53,.imm),(1700000,ty31,(.pr (.pr (.own none .imm) .imm) (.pr (.pr (.own none (.pr .imm .imm)) (.own none (.pr .imm (.pr .imm (.own none (.pr .imm .imm)))))) (.own none (.pr .imm (.pr (.own none (.pr .imm .imm)) (.pr .imm (.pr .imm (.pr .imm (.pr .imm (.pr .imm .imm)))))))))))],[(7,1700000,4,8,0)]⟩)],anchs:=[1700000] }
def Fn.r11_one_L24 (d:((Int×Unit)×((Prog×(Instr×(Cell×(Cell×(Machine×Unit)))))×(Nat×Unit)))):Option ((Machine×Unit)×(Int×Unit)):=aO C_r11_one ins_r11_one outs_r11_one Tryz.f28 24 d
def Fn.r11_one_L54 (d:((Int×Unit)×((Instr×(Machine×Unit))×(Nat×Unit)))):Option ((Machine×Unit)×(Int×Unit)):=aO C_r11_one ins_r11_one outs_r11_one Tryz.f28 54 d
def Fn.r11_one (x:(Prog×(Machine×(Int×Unit)))):Option ((Machine×Unit)×(Int×Unit)):=fO C_r11_one ins_r11_one outs_r11_one Tryz.f28 x
def s_r11_one:Sum:=⟨ins_r11_one,outs_r11_one,Fn.r11_one,none⟩
theorem m_r11_one:Meets Tryz.prog 28 s_r11_one:=meets_fn (C:=C_r11_one) (cfg_ok tok eqs_ok ⟨⟨m_r11_trap,Tryz.call42⟩,⟨⟨m_r09_Move,Tryz.call43⟩,⟨⟨m_r05_Load,Tryz.call44⟩,⟨⟨m_r05_Store,Tryz.call45⟩,⟨⟨m_r09_Do,Tryz.call46⟩,⟨⟨m_r06_Branch,Tryz.call47⟩,trivial⟩⟩⟩⟩⟩⟩) mixed Tryz.func28 rfl rfl rfl (by kernel_rfl) (by kernel_rfl)
theorem Fn.r11_one_eq (a0:Prog) (a1:Machine) (a2:Int):Fn.r11_one (a0,a1,a2,()) =
 bif (inR a2 (List.length a1.2.2)) then
 lt (List.getD a1.2.2 (0+(Int.toNat a2)) zThread) fun x26 =>
 bif (decide ((((List.length a0.1):Nat):Int)≤x26.2.2.1)) then
 (Fn.r11_trap (x26,((2:Int),()))).bind fun y1 =>
 some (((a1.1,(a1.2.1,(List.set a1.2.2 (0+(Int.toNat a2)) y1.1.1))),()),(y1.2.1,()))
 else
 bif (inR x26.2.2.1 (List.length a0.1)) then
 lt (List.getD a0.1 (Int.toNat x26.2.2.1) zInstr) fun x27 =>
 bif (inR x27.2.1 (List.length x26.2.1)) then
 bif (inR x27.2.2.1 (List.length x26.2.1)) then
 lt (IntKind.wrap .i64 (x26.2.2.1+(1:Int))) fun x28 =>
 lt ((x27,(a1,())),((0+(Int.toNat a2)),())) fun x29 =>
 bif (decide (x27.1=(0:Int))) then
 (Fn.r11_one_L54 ((x28,()),x29)).bind some
 else
 bif (decide (x27.1=(1:Int))) then
 bif (inR x27.2.1 (List.length x26.2.1)) then
 (Fn.r11_one_L54 ((x28,()),((x27,((a1.1,(a1.2.1,(List.set a1.2.2 (0+(Int.toNat a2)) (x26.1,((List.set x26.2.1 (0+(Int.toNat x27.2.1)) ((0:Int),(IntKind.wrap .u16 x27.2.2.2.2))),x26.2.2))))),())),((0+(Int.toNat a2)),())))).bind some
 else none
 else
 lt (List.getD x26.2.1 (0+(Int.toNat x27.2.2.1)) zCell) fun x30 =>
 bif (decide (x27.1=(2:Int))) then
 bif (inR x27.2.1 (List.length x26.2.1)) then
 (Fn.r11_one_L54 ((x28,()),((x27,((a1.1,(a1.2.1,(List.set a1.2.2 (0+(Int.toNat a2)) (x26.1,((List.set x26.2.1 (0+(Int.toNat x27.2.1)) x30),x26.2.2))))),())),((0+(Int.toNat a2)),())))).bind some
 else none
 else
 bif (decide (x27.1=(15:Int))) then
 bif (inR x27.2.2.2.2 (List.length a1.1.1)) then
 bif (inR x27.2.1 (List.length x26.2.1)) then
 (Fn.r11_one_L54 ((x28,()),((x27,((a1.1,(a1.2.1,(List.set a1.2.2 (0+(Int.toNat a2)) (x26.1,((List.set x26.2.1 (0+(Int.toNat x27.2.1)) ((1:Int),(IntKind.wrap .u16 (List.getD a1.1.1 (0+(Int.toNat x27.2.2.2.2)) (0:Int))))),x26.2.2))))),())),((0+(Int.toNat a2)),())))).bind some
 else none
 else none
 else
 lt (List.set a1.2.2 (0+(Int.toNat a2)) ((2:Int),x26.2)) fun x31 =>
 lt (List.getD x31 (0+(Int.toNat a2)) zThread) fun x32 =>
 lt (List.getD x26.2.1 (0+(Int.toNat x27.2.1)) zCell) fun x33 =>
 lt (((a1.1,(a1.2.1,(List.set x31 (0+(Int.toNat a2)) (x32.1,(x32.2.1,(x28,x32.2.2.2)))))),()),((1:Int),())) fun x34 =>
 bif (decide (x27.1=(16:Int))) then
 bif (decide (x27.1=(16:Int))) then
 bif (decide (x27.1=(17:Int))) then
 (Fn.r11_one_L24 ((x28,()),((a0,(x27,(x30,(x33,(a1,()))))),((0+(Int.toNat a2)),())))).bind some
 else
 (Fn.r11_one_L24 ((x28,()),((a0,(x27,(x30,(x30,(a1,()))))),((0+(Int.toNat a2)),())))).bind some
 else
 bif (decide (x27.1=(18:Int))) then
 (Fn.r11_one_L54 ((x27.2.2.2.2,()),x29)).bind some
 else
 bif (decide (x27.1=(19:Int))) then
 bif (decide (x27.1=(19:Int))) then
 bif (!(decide (x33.1=(0:Int)))) then
 (Fn.r11_trap (x26,((3:Int),()))).bind fun y2 =>
 some (((a1.1,(a1.2.1,(List.set a1.2.2 (0+(Int.toNat a2)) y2.1.1))),()),(y2.2.1,()))
 else
 bif ((decide (x33.2=(0:Int))) == (decide (x27.1=(19:Int)))) then
 (Fn.r11_one_L54 ((x27.2.2.2.2,()),x29)).bind some
 else
 (Fn.r11_one_L54 ((x28,()),x29)).bind some
 else
 bif (decide (x27.1=(21:Int))) then
 bif (inR x27.2.1 (List.length x26.2.1)) then
 (Fn.r11_one_L54 ((x27.2.2.2.2,()),((x27,((a1.1,(a1.2.1,(List.set a1.2.2 (0+(Int.toNat a2)) (x26.1,((List.set x26.2.1 (0+(Int.toNat x27.2.1)) ((0:Int),(IntKind.wrap .u16 x28))),x26.2.2))))),())),((0+(Int.toNat a2)),())))).bind some
 else none
 else
 bif (decide (x27.1=(22:Int))) then
 bif (!(decide (x33.1=(0:Int)))) then
 (Fn.r11_trap (x26,((3:Int),()))).bind fun y3 =>
 some (((a1.1,(a1.2.1,(List.set a1.2.2 (0+(Int.toNat a2)) y3.1.1))),()),(y3.2.1,()))
 else
 bif (decide ((255:Int)<x33.2)) then
 (Fn.r11_trap (x26,((2:Int),()))).bind fun y4 =>
 some (((a1.1,(a1.2.1,(List.set a1.2.2 (0+(Int.toNat a2)) y4.1.1))),()),(y4.2.1,()))
 else
 (Fn.r11_one_L54 (((IntKind.wrap .i64 x33.2),()),x29)).bind some
 else
 bif (decide (x27.1=(24:Int))) then
 bif (decide (x26.2.2.2.2.2.1=(-(1:Int)))) then
 (Fn.r11_trap (x26,((1:Int),()))).bind fun y5 =>
 some (((a1.1,(a1.2.1,(List.set a1.2.2 (0+(Int.toNat a2)) y5.1.1))),()),(y5.2.1,()))
 else
 (Fn.r11_one_L54 ((x26.2.2.2.2.2.1,()),((x27,((a1.1,(a1.2.1,(List.set a1.2.2 (0+(Int.toNat a2)) (x26.1,(x26.2.1,(x26.2.2.1,(x26.2.2.2.1,(x26.2.2.2.2.1,((-(1:Int)),x26.2.2.2.2.2.2))))))))),())),((0+(Int.toNat a2)),())))).bind some
 else
 bif (decide (x27.1=(23:Int))) then
 some x34
 else
 bif (inR x27.2.2.2.1 (List.length x26.2.1)) then
 (Fn.r09_Do ((a1.1.1,a1.1.2),(a0.2.1,(x27.1,(x30,((List.getD x26.2.1 (0+(Int.toNat x27.2.2.2.1)) zCell),())))))).bind fun y6 =>
 bif (!(decide (y6.2.2.1=(0:Int)))) then
 (Fn.r11_trap (x26,(y6.2.2.1,()))).bind fun y7 =>
 some (((a1.1,(a1.2.1,(List.set a1.2.2 (0+(Int.toNat a2)) y7.1.1))),()),(y7.2.1,()))
 else
 bif (inR x27.2.1 (List.length x26.2.1)) then
 (Fn.r11_one_L54 ((x28,()),((x27,((a1.1,(a1.2.1,(List.set a1.2.2 (0+(Int.toNat a2)) (x26.1,((List.set x26.2.1 (0+(Int.toNat x27.2.1)) y6.2.1),x26.2.2))))),())),((0+(Int.toNat a2)),())))).bind some
 else none
 else none
 else
 bif (decide (x27.1=(20:Int))) then
 bif (!(decide (x33.1=(0:Int)))) then
 (Fn.r11_trap (x26,((3:Int),()))).bind fun y8 =>
 some (((a1.1,(a1.2.1,(List.set a1.2.2 (0+(Int.toNat a2)) y8.1.1))),()),(y8.2.1,()))
 else
 bif ((decide (x33.2=(0:Int))) == (decide (x27.1=(19:Int)))) then
 (Fn.r11_one_L54 ((x27.2.2.2.2,()),x29)).bind some
 else
 (Fn.r11_one_L54 ((x28,()),x29)).bind some
 else
 bif (decide (x27.1=(21:Int))) then
 bif (inR x27.2.1 (List.length x26.2.1)) then
 (Fn.r11_one_L54 ((x27.2.2.2.2,()),((x27,((a1.1,(a1.2.1,(List.set a1.2.2 (0+(Int.toNat a2)) (x26.1,((List.set x26.2.1 (0+(Int.toNat x27.2.1)) ((0:Int),(IntKind.wrap .u16 x28))),x26.2.2))))),())),((0+(Int.toNat a2)),())))).bind some
 else none
 else
 bif (decide (x27.1=(22:Int))) then
 bif (!(decide (x33.1=(0:Int)))) then
 (Fn.r11_trap (x26,((3:Int),()))).bind fun y9 =>
 some (((a1.1,(a1.2.1,(List.set a1.2.2 (0+(Int.toNat a2)) y9.1.1))),()),(y9.2.1,()))
 else
 bif (decide ((255:Int)<x33.2)) then
 (Fn.r11_trap (x26,((2:Int),()))).bind fun y10 =>
 some (((a1.1,(a1.2.1,(List.set a1.2.2 (0+(Int.toNat a2)) y10.1.1))),()),(y10.2.1,()))
 else
 (Fn.r11_one_L54 (((IntKind.wrap .i64 x33.2),()),x29)).bind some
 else
 bif (decide (x27.1=(24:Int))) then
 bif (decide (x26.2.2.2.2.2.1=(-(1:Int)))) then
 (Fn.r11_trap (x26,((1:Int),()))).bind fun y11 =>
 some (((a1.1,(a1.2.1,(List.set a1.2.2 (0+(Int.toNat a2)) y11.1.1))),()),(y11.2.1,()))
 else
 (Fn.r11_one_L54 ((x26.2.2.2.2.2.1,()),((x27,((a1.1,(a1.2.1,(List.set a1.2.2 (0+(Int.toNat a2)) (x26.1,(x26.2.1,(x26.2.2.1,(x26.2.2.2.1,(x26.2.2.2.2.1,((-(1:Int)),x26.2.2.2.2.2.2))))))))),())),((0+(Int.toNat a2)),())))).bind some
 else
 bif (decide (x27.1=(23:Int))) then
 some x34
 else
 bif (inR x27.2.2.2.1 (List.length x26.2.1)) then
 (Fn.r09_Do ((a1.1.1,a1.1.2),(a0.2.1,(x27.1,(x30,((List.getD x26.2.1 (0+(Int.toNat x27.2.2.2.1)) zCell),())))))).bind fun y12 =>
 bif (!(decide (y12.2.2.1=(0:Int)))) then
 (Fn.r11_trap (x26,(y12.2.2.1,()))).bind fun y13 =>
 some (((a1.1,(a1.2.1,(List.set a1.2.2 (0+(Int.toNat a2)) y13.1.1))),()),(y13.2.1,()))
 else
 bif (inR x27.2.1 (List.length x26.2.1)) then
 (Fn.r11_one_L54 ((x28,()),((x27,((a1.1,(a1.2.1,(List.set a1.2.2 (0+(Int.toNat a2)) (x26.1,((List.set x26.2.1 (0+(Int.toNat x27.2.1)) y12.2.1),x26.2.2))))),())),((0+(Int.toNat a2)),())))).bind some
 else none
 else none
 else
 bif (decide (x27.1=(17:Int))) then
 bif (decide (x27.1=(17:Int))) then
 (Fn.r11_one_L24 ((x28,()),((a0,(x27,(x30,(x33,(a1,()))))),((0+(Int.toNat a2)),())))).bind some
 else
 (Fn.r11_one_L24 ((x28,()),((a0,(x27,(x30,(x30,(a1,()))))),((0+(Int.toNat a2)),())))).bind some
 else
 bif (decide (x27.1=(18:Int))) then
 (Fn.r11_one_L54 ((x27.2.2.2.2,()),x29)).bind some
 else
 bif (decide (x27.1=(19:Int))) then
 bif (decide (x27.1=(19:Int))) then
 bif (!(decide (x33.1=(0:Int)))) then
 (Fn.r11_trap (x26,((3:Int),()))).bind fun y14 =>
 some (((a1.1,(a1.2.1,(List.set a1.2.2 (0+(Int.toNat a2)) y14.1.1))),()),(y14.2.1,()))
 else
 bif ((decide (x33.2=(0:Int))) == (decide (x27.1=(19:Int)))) then
 (Fn.r11_one_L54 ((x27.2.2.2.2,()),x29)).bind some
 else
 (Fn.r11_one_L54 ((x28,()),x29)).bind some
 else
 bif (decide (x27.1=(21:Int))) then
 bif (inR x27.2.1 (List.length x26.2.1)) then
 (Fn.r11_one_L54 ((x27.2.2.2.2,()),((x27,((a1.1,(a1.2.1,(List.set a1.2.2 (0+(Int.toNat a2)) (x26.1,((List.set x26.2.1 (0+(Int.toNat x27.2.1)) ((0:Int),(IntKind.wrap .u16 x28))),x26.2.2))))),())),((0+(Int.toNat a2)),())))).bind some
 else none
 else
 bif (decide (x27.1=(22:Int))) then
 bif (!(decide (x33.1=(0:Int)))) then
 (Fn.r11_trap (x26,((3:Int),()))).bind fun y15 =>
 some (((a1.1,(a1.2.1,(List.set a1.2.2 (0+(Int.toNat a2)) y15.1.1))),()),(y15.2.1,()))
 else
 bif (decide ((255:Int)<x33.2)) then
 (Fn.r11_trap (x26,((2:Int),()))).bind fun y16 =>
 some (((a1.1,(a1.2.1,(List.set a1.2.2 (0+(Int.toNat a2)) y16.1.1))),()),(y16.2.1,()))
 else
 (Fn.r11_one_L54 (((IntKind.wrap .i64 x33.2),()),x29)).bind some
 else
 bif (decide (x27.1=(24:Int))) then
 bif (decide (x26.2.2.2.2.2.1=(-(1:Int)))) then
 (Fn.r11_trap (x26,((1:Int),()))).bind fun y17 =>
 some (((a1.1,(a1.2.1,(List.set a1.2.2 (0+(Int.toNat a2)) y17.1.1))),()),(y17.2.1,()))
 else
 (Fn.r11_one_L54 ((x26.2.2.2.2.2.1,()),((x27,((a1.1,(a1.2.1,(List.set a1.2.2 (0+(Int.toNat a2)) (x26.1,(x26.2.1,(x26.2.2.1,(x26.2.2.2.1,(x26.2.2.2.2.1,((-(1:Int)),x26.2.2.2.2.2.2))))))))),())),((0+(Int.toNat a2)),())))).bind some
 else
 bif (decide (x27.1=(23:Int))) then
 some x34
 else
 bif (inR x27.2.2.2.1 (List.length x26.2.1)) then
 (Fn.r09_Do ((a1.1.1,a1.1.2),(a0.2.1,(x27.1,(x30,((List.getD x26.2.1 (0+(Int.toNat x27.2.2.2.1)) zCell),())))))).bind fun y18 =>
 bif (!(decide (y18.2.2.1=(0:Int)))) then
 (Fn.r11_trap (x26,(y18.2.2.1,()))).bind fun y19 =>
 some (((a1.1,(a1.2.1,(List.set a1.2.2 (0+(Int.toNat a2)) y19.1.1))),()),(y19.2.1,()))
 else
 bif (inR x27.2.1 (List.length x26.2.1)) then
 (Fn.r11_one_L54 ((x28,()),((x27,((a1.1,(a1.2.1,(List.set a1.2.2 (0+(Int.toNat a2)) (x26.1,((List.set x26.2.1 (0+(Int.toNat x27.2.1)) y18.2.1),x26.2.2))))),())),((0+(Int.toNat a2)),())))).bind some
 else none
 else none
 else
 bif (decide (x27.1=(20:Int))) then
 bif (!(decide (x33.1=(0:Int)))) then
 (Fn.r11_trap (x26,((3:Int),()))).bind fun y20 =>
 some (((a1.1,(a1.2.1,(List.set a1.2.2 (0+(Int.toNat a2)) y20.1.1))),()),(y20.2.1,()))
 else
 bif ((decide (x33.2=(0:Int))) == (decide (x27.1=(19:Int)))) then
 (Fn.r11_one_L54 ((x27.2.2.2.2,()),x29)).bind some
 else
 (Fn.r11_one_L54 ((x28,()),x29)).bind some
 else
 bif (decide (x27.1=(21:Int))) then
 bif (inR x27.2.1 (List.length x26.2.1)) then
 (Fn.r11_one_L54 ((x27.2.2.2.2,()),((x27,((a1.1,(a1.2.1,(List.set a1.2.2 (0+(Int.toNat a2)) (x26.1,((List.set x26.2.1 (0+(Int.toNat x27.2.1)) ((0:Int),(IntKind.wrap .u16 x28))),x26.2.2))))),())),((0+(Int.toNat a2)),())))).bind some
 else none
 else
 bif (decide (x27.1=(22:Int))) then
 bif (!(decide (x33.1=(0:Int)))) then
 (Fn.r11_trap (x26,((3:Int),()))).bind fun y21 =>
 some (((a1.1,(a1.2.1,(List.set a1.2.2 (0+(Int.toNat a2)) y21.1.1))),()),(y21.2.1,()))
 else
 bif (decide ((255:Int)<x33.2)) then
 (Fn.r11_trap (x26,((2:Int),()))).bind fun y22 =>
 some (((a1.1,(a1.2.1,(List.set a1.2.2 (0+(Int.toNat a2)) y22.1.1))),()),(y22.2.1,()))
 else
 (Fn.r11_one_L54 (((IntKind.wrap .i64 x33.2),()),x29)).bind some
 else
 bif (decide (x27.1=(24:Int))) then
 bif (decide (x26.2.2.2.2.2.1=(-(1:Int)))) then
 (Fn.r11_trap (x26,((1:Int),()))).bind fun y23 =>
 some (((a1.1,(a1.2.1,(List.set a1.2.2 (0+(Int.toNat a2)) y23.1.1))),()),(y23.2.1,()))
 else
 (Fn.r11_one_L54 ((x26.2.2.2.2.2.1,()),((x27,((a1.1,(a1.2.1,(List.set a1.2.2 (0+(Int.toNat a2)) (x26.1,(x26.2.1,(x26.2.2.1,(x26.2.2.2.1,(x26.2.2.2.2.1,((-(1:Int)),x26.2.2.2.2.2.2))))))))),())),((0+(Int.toNat a2)),())))).bind some
 else
 bif (decide (x27.1=(23:Int))) then
 some x34
 else
 bif (inR x27.2.2.2.1 (List.length x26.2.1)) then
 (Fn.r09_Do ((a1.1.1,a1.1.2),(a0.2.1,(x27.1,(x30,((List.getD x26.2.1 (0+(Int.toNat x27.2.2.2.1)) zCell),())))))).bind fun y24 =>
 bif (!(decide (y24.2.2.1=(0:Int)))) then
 (Fn.r11_trap (x26,(y24.2.2.1,()))).bind fun y25 =>
 some (((a1.1,(a1.2.1,(List.set a1.2.2 (0+(Int.toNat a2)) y25.1.1))),()),(y25.2.1,()))
 else
 bif (inR x27.2.1 (List.length x26.2.1)) then
 (Fn.r11_one_L54 ((x28,()),((x27,((a1.1,(a1.2.1,(List.set a1.2.2 (0+(Int.toNat a2)) (x26.1,((List.set x26.2.1 (0+(Int.toNat x27.2.1)) y24.2.1),x26.2.2))))),())),((0+(Int.toNat a2)),())))).bind some
 else none
 else none
 else none
 else none
 else none
 else none :=
 (fE C_r11_one ins_r11_one outs_r11_one Tryz.f28 (a0,a1,a2,())).trans (by kernel_rfl)
theorem Fn.r11_one_L24_eq (v9:Int) (r3:Prog) (r8:Instr) (r11:Cell) (r12:Cell) (r1700000:Machine) (n7:Nat):Fn.r11_one_L24 ((v9,()),(r3,r8,r11,r12,r1700000,()),(n7,())) =
 (Fn.r09_Move ((r1700000.1.1,r1700000.1.2),(r3.2.1,(r12,((IntKind.wrap .u16 r8.2.2.2.2),(false,())))))).bind fun y1 =>
 lt (List.getD r1700000.2.2 n7 zThread) fun x5 =>
 bif (!(decide (y1.2.2.1=(0:Int)))) then
 (Fn.r11_trap (x5,(y1.2.2.1,()))).bind fun y2 =>
 some (((r1700000.1,(r1700000.2.1,(List.set r1700000.2.2 n7 y2.1.1))),()),(y2.2.1,()))
 else
 lt (IntKind.wrap .i64 y1.2.1.2) fun x6 =>
 bif (decide (r8.1=(16:Int))) then
 (Fn.r05_Load (r1700000.2.1,(x6,()))).bind fun y3 =>
 bif (inR r8.2.1 (List.length x5.2.1)) then
 (Fn.r11_one_L54 ((v9,()),((r8,((r1700000.1,(y3.1.1,(List.set r1700000.2.2 n7 (x5.1,((List.set x5.2.1 (0+(Int.toNat r8.2.1)) y3.2.1),x5.2.2))))),())),(n7,())))).bind some
 else none
 else
 (Fn.r05_Store (r1700000.2.1,(x6,(r11,())))).bind fun y4 =>
 (Fn.r11_one_L54 ((v9,()),((r8,((r1700000.1,(y4.1.1,r1700000.2.2)),())),(n7,())))).bind some :=
 (aE C_r11_one ins_r11_one outs_r11_one Tryz.f28 24 ((v9,()),(r3,r8,r11,r12,r1700000,()),(n7,()))).trans (by kernel_rfl)
theorem Fn.r11_one_L54_eq (v9:Int) (r8:Instr) (r1700000:Machine) (n7:Nat):Fn.r11_one_L54 ((v9,()),(r8,r1700000,()),(n7,())) =
 (Fn.r06_Branch (r8.1,())).bind fun y1 =>
 lt (List.getD r1700000.2.2 n7 zThread) fun x2 =>
 lt (List.set r1700000.2.2 n7 (x2.1,(x2.2.1,(v9,x2.2.2.2)))) fun x3 =>
 bif y1.2.1 then
 some (((r1700000.1,(r1700000.2.1,(List.set x3 n7 ((List.getD x3 n7 zThread).1,((List.getD x3 n7 zThread).2.1,((List.getD x3 n7 zThread).2.2.1,((IntKind.wrap .i64 ((List.getD x3 n7 zThread).2.2.2.1+(1:Int))),(List.getD x3 n7 zThread).2.2.2.2))))))),()),((-(1:Int)),()))
 else
 some (((r1700000.1,(r1700000.2.1,x3)),()),((-(1:Int)),())) :=
 (aE C_r11_one ins_r11_one outs_r11_one Tryz.f28 54 ((v9,()),(r8,r1700000,()),(n7,()))).trans (by kernel_rfl)
def ins_r11_Slice:List Par:=[(ty38,.data),(ty32,.data),(ty3,.data),(ty3,.data)]
def outs_r11_Slice:List Par:=[(ty32,.own (.pr (.pr (.own none .imm) .imm) (.pr (.pr (.own none (.pr .imm .imm)) (.own none (.pr .imm (.pr .imm (.own none (.pr .imm .imm)))))) (.own none (.pr .imm (.pr (.own none (.pr .imm .imm)) (.pr .imm (.pr .imm (.pr .imm (.pr .imm (.pr .imm .imm))))))))))),(ty3,.data),(ty55,.data)]
def C_r11_Slice:FnC:={ G:=⟨tab,eqs,ctrL [(19,s_r08_Copy),(27,s_r11_Valid),(28,s_r11_one)]⟩,nt:=69,mv:=mvL [(0,1),(0,0),(2,1),(3,3),(5,1),(9,2),(11,1)],pre:=preL [],cuts:=[7],sh:=shL [(7,⟨[(2,ty2,.data),(12,ty2,.data)],[(4,4,0),(8,8,0),(11,11,0)],[],[(4,ty37,.imm),(8,ty31,(.pr (.pr (.own none .imm) .imm) (.pr (.pr (.own none (.pr .imm .imm)) (.own none (.pr .imm (.pr .imm (.own none (.pr .imm .imm)))))) (.own none (.pr .imm (.pr (.own none (.pr .imm .imm)) (.pr .imm (.pr .imm (.pr .imm (.pr .imm (.pr .imm .imm))))))))))),(11,ty31,(.pr (.pr (.own none .imm) .imm) (.pr (.pr (.own none (.pr .imm .imm)) (.own none (.pr .imm (.pr .imm (.own none (.pr .imm .imm)))))) (.own none (.pr .imm (.pr (.own none (.pr .imm .imm)) (.pr .imm (.pr .imm (.pr .imm (.pr .imm (.pr .imm .imm)))))))))))],[]⟩)],anchs:=[] }
def Fn.r11_Slice_L7 (d:((Int×(Int×Unit))×((Prog×(Machine×(Machine×Unit)))×Unit))):Option (Unit×(Machine×(Int×(Int×Unit)))):=aO C_r11_Slice ins_r11_Slice outs_r11_Slice Tryz.f107 7 d
def Fn.r11_Slice (x:(Prog×(Machine×(Int×(Int×Unit))))):Option (Unit×(Machine×(Int×(Int×Unit)))):=fO C_r11_Slice ins_r11_Slice outs_r11_Slice Tryz.f107 x
def s_r11_Slice:Sum:=⟨ins_r11_Slice,outs_r11_Slice,Fn.r11_Slice,none⟩
theorem m_r11_Slice:Meets Tryz.prog 107 s_r11_Slice:=meets_fn (C:=C_r11_Slice) (cfg_ok tok eqs_ok ⟨⟨m_r08_Copy,Tryz.call19⟩,⟨⟨m_r11_Valid,Tryz.call27⟩,⟨⟨m_r11_one,Tryz.call28⟩,trivial⟩⟩⟩) mixed Tryz.func107 rfl rfl rfl (by kernel_rfl) (by kernel_rfl)
theorem Fn.r11_Slice_eq (a0:Prog) (a1:Machine) (a2:Int) (a3:Int):Fn.r11_Slice (a0,a1,a2,a3,()) =
 (Fn.r11_Valid (a0,(a1,()))).bind fun y1 =>
 lt ((([]:(List Int)),(0:Int)),((([]:(List Cell)),([]:(List Line))),([]:(List Thread)))) fun x3 =>
 bif (bif (bif (bif (bif (!y1.2.1) then true else (decide (a2<(0:Int)))) then true else (decide ((4:Int)≤a2))) then true else (decide (a3<(1:Int)))) then true else (decide ((64:Int)<a3))) then
 some ((),(x3,((0:Int),((1:Int),()))))
 else
 (Fn.r08_Copy (a1,())).bind fun y2 =>
 bif (inR a2 (List.length a1.2.2)) then
 lt ((y2.2.1.1.1,y2.2.1.1.2),((y2.2.1.2.1.1,y2.2.1.2.1.2),y2.2.1.2.2)) fun x4 =>
 bif (!(decide ((List.getD a1.2.2 (Int.toNat a2) zThread).1=(1:Int)))) then
 some ((),(x4,((3:Int),((0:Int),()))))
 else
 bif (inR a2 (List.length y2.2.1.2.2)) then
 (Fn.r11_Slice_L7 ((a2,((IntKind.wrap .i64 ((List.getD y2.2.1.2.2 (0+(Int.toNat a2)) zThread).2.2.2.1+a3)),())),((a0,(x3,(x4,()))),()))).bind some
 else none
 else none :=
 (fE C_r11_Slice ins_r11_Slice outs_r11_Slice Tryz.f107 (a0,a1,a2,a3,())).trans (by kernel_rfl)
theorem Fn.r11_Slice_L7_eq (v2:Int) (v12:Int) (r4:Prog) (r8:Machine) (r11:Machine):Fn.r11_Slice_L7 ((v2,v12,()),(r4,r8,r11,()),()) =
 (Fn.r11_one (r4,(r11,(v2,())))).bind fun y1 =>
 lt ((y1.1.1.1.1,y1.1.1.1.2),((y1.1.1.2.1.1,y1.1.1.2.1.2),y1.1.1.2.2)) fun x2 =>
 bif (!(decide (y1.2.1=(-(1:Int))))) then
 some ((),(x2,(y1.2.1,((0:Int),()))))
 else
 bif (inR v2 (List.length y1.1.1.2.2)) then
 bif (decide ((List.getD y1.1.1.2.2 (0+(Int.toNat v2)) zThread).2.2.2.1=v12)) then
 some ((),(x2,((0:Int),((0:Int),()))))
 else
 (Fn.r11_Slice_L7 ((v2,(v12,())),((r4,(r8,(y1.1.1,()))),()))).bind some
 else none :=
 (aE C_r11_Slice ins_r11_Slice outs_r11_Slice Tryz.f107 7 ((v2,v12,()),(r4,r8,r11,()),())).trans (by kernel_rfl)
def ins_r12_Buffer:List Par:=[(ty3,.data)]
def outs_r12_Buffer:List Par:=[(ty3,.data)]
def C_r12_Buffer:FnC:={ G:=⟨tab,eqs,ctrL []⟩,nt:=24,mv:=mvL [],pre:=preL [],cuts:=[],sh:=shL [],anchs:=[] }
def Fn.r12_Buffer (x:(Int×Unit)):Option (Unit×(Int×Unit)):=fO C_r12_Buffer ins_r12_Buffer outs_r12_Buffer Tryz.f111 x
def s_r12_Buffer:Sum:=⟨ins_r12_Buffer,outs_r12_Buffer,Fn.r12_Buffer,none⟩
theorem m_r12_Buffer:Meets Tryz.prog 111 s_r12_Buffer:=meets_fn (C:=C_r12_Buffer) (cfg_ok tok eqs_ok trivial) mixed Tryz.func111 rfl rfl rfl (by kernel_rfl) (by kernel_rfl)
theorem Fn.r12_Buffer_eq (a0:Int):Fn.r12_Buffer (a0,()) =
 bif (bif (decide (a0<(0:Int))) then true else (decide ((15:Int)<a0))) then
 some ((),((-(1:Int)),()))
 else
 bif (bif (decide (a0=(1:Int))) then true else (decide (a0=(13:Int)))) then
 some ((),((1:Int),()))
 else
 bif (bif (decide (a0=(2:Int))) then true else (decide (a0=(14:Int)))) then
 some ((),((2:Int),()))
 else
 some ((),((0:Int),())) :=
 (fE C_r12_Buffer ins_r12_Buffer outs_r12_Buffer Tryz.f111 (a0,())).trans (by kernel_rfl)
def ins_r12_kinds:List Par:=[(ty3,.data)]
def outs_r12_kinds:List Par:=[(ty9,.data)]
def C_r12_kinds:FnC:={ G:=⟨tab,eqs,ctrL []⟩,nt:=24,mv:=mvL [],pre:=preL [],cuts:=[22],sh:=shL [(22,⟨[],[],[],[],[]⟩)],anchs:=[] }
def Fn.r12_kinds_L22 (d:(Unit×(Unit×Unit))):Option (Unit×(ByteArray×Unit)):=aO C_r12_kinds ins_r12_kinds outs_r12_kinds Tryz.f118 22 d
def Fn.r12_kinds (x:(Int×Unit)):Option (Unit×(ByteArray×Unit)):=fO C_r12_kinds ins_r12_kinds outs_r12_kinds Tryz.f118 x
def s_r12_kinds:Sum:=⟨ins_r12_kinds,outs_r12_kinds,Fn.r12_kinds,none⟩
theorem m_r12_kinds:Meets Tryz.prog 118 s_r12_kinds:=meets_fn (C:=C_r12_kinds) (cfg_ok tok eqs_ok trivial) mixed Tryz.func118 rfl rfl rfl (by kernel_rfl) (by kernel_rfl)
theorem Fn.r12_kinds_eq (a0:Int):Fn.r12_kinds (a0,()) =
 lt (List.cons (78:UInt8) ([]:(List UInt8))) fun x1 =>
 lt ((),((ByteArray.mk (List.toArray (List.cons (72:UInt8) ([]:(List UInt8))))),())) fun x2 =>
 lt ((),((ByteArray.mk (List.toArray x1)),())) fun x3 =>
 lt ((),((ByteArray.mk (List.toArray (List.cons (72:UInt8) x1))),())) fun x4 =>
 lt ((),((ByteArray.mk (List.toArray (List.cons (78:UInt8) (List.cons (88:UInt8) ([]:(List UInt8)))))),())) fun x5 =>
 lt ((),((ByteArray.mk (List.toArray (List.cons (78:UInt8) x1))),())) fun x6 =>
 lt ((),((ByteArray.mk (List.toArray (List.cons (78:UInt8) (List.cons (80:UInt8) x1)))),())) fun x7 =>
 lt ((),((ByteArray.mk (List.toArray (List.cons (72:UInt8) (List.cons (80:UInt8) x1)))),())) fun x8 =>
 bif (decide (a0=(0:Int))) then
 bif (decide (a0=(0:Int))) then
 some x3
 else
 bif (decide (a0=(1:Int))) then
 bif (decide (a0=(1:Int))) then
 some x8
 else
 bif (decide (a0=(3:Int))) then
 some x6
 else
 bif (decide (a0=(4:Int))) then
 some x2
 else
 bif (decide (a0=(5:Int))) then
 some x4
 else
 bif (decide (a0=(10:Int))) then
 some x5
 else
 bif (decide (a0=(13:Int))) then
 bif (decide (a0=(13:Int))) then
 some x7
 else
 (Fn.r12_kinds_L22 ((),((),()))).bind some
 else
 bif (decide (a0=(14:Int))) then
 some x7
 else
 (Fn.r12_kinds_L22 ((),((),()))).bind some
 else
 bif (decide (a0=(2:Int))) then
 some x8
 else
 bif (decide (a0=(3:Int))) then
 some x6
 else
 bif (decide (a0=(4:Int))) then
 some x2
 else
 bif (decide (a0=(5:Int))) then
 some x4
 else
 bif (decide (a0=(10:Int))) then
 some x5
 else
 bif (decide (a0=(13:Int))) then
 bif (decide (a0=(13:Int))) then
 some x7
 else
 (Fn.r12_kinds_L22 ((),((),()))).bind some
 else
 bif (decide (a0=(14:Int))) then
 some x7
 else
 (Fn.r12_kinds_L22 ((),((),()))).bind some
 else
 bif (decide (a0=(8:Int))) then
 bif (decide (a0=(8:Int))) then
 some x3
 else
 bif (decide (a0=(1:Int))) then
 bif (decide (a0=(1:Int))) then
 some x8
 else
 bif (decide (a0=(3:Int))) then
 some x6
 else
 bif (decide (a0=(4:Int))) then
 some x2
 else
 bif (decide (a0=(5:Int))) then
 some x4
 else
 bif (decide (a0=(10:Int))) then
 some x5
 else
 bif (decide (a0=(13:Int))) then
 bif (decide (a0=(13:Int))) then
 some x7
 else
 (Fn.r12_kinds_L22 ((),((),()))).bind some
 else
 bif (decide (a0=(14:Int))) then
 some x7
 else
 (Fn.r12_kinds_L22 ((),((),()))).bind some
 else
 bif (decide (a0=(2:Int))) then
 some x8
 else
 bif (decide (a0=(3:Int))) then
 some x6
 else
 bif (decide (a0=(4:Int))) then
 some x2
 else
 bif (decide (a0=(5:Int))) then
 some x4
 else
 bif (decide (a0=(10:Int))) then
 some x5
 else
 bif (decide (a0=(13:Int))) then
 bif (decide (a0=(13:Int))) then
 some x7
 else
 (Fn.r12_kinds_L22 ((),((),()))).bind some
 else
 bif (decide (a0=(14:Int))) then
 some x7
 else
 (Fn.r12_kinds_L22 ((),((),()))).bind some
 else
 bif (decide (a0=(9:Int))) then
 bif (decide (a0=(9:Int))) then
 some x3
 else
 bif (decide (a0=(1:Int))) then
 bif (decide (a0=(1:Int))) then
 some x8
 else
 bif (decide (a0=(3:Int))) then
 some x6
 else
 bif (decide (a0=(4:Int))) then
 some x2
 else
 bif (decide (a0=(5:Int))) then
 some x4
 else
 bif (decide (a0=(10:Int))) then
 some x5
 else
 bif (decide (a0=(13:Int))) then
 bif (decide (a0=(13:Int))) then
 some x7
 else
 (Fn.r12_kinds_L22 ((),((),()))).bind some
 else
 bif (decide (a0=(14:Int))) then
 some x7
 else
 (Fn.r12_kinds_L22 ((),((),()))).bind some
 else
 bif (decide (a0=(2:Int))) then
 some x8
 else
 bif (decide (a0=(3:Int))) then
 some x6
 else
 bif (decide (a0=(4:Int))) then
 some x2
 else
 bif (decide (a0=(5:Int))) then
 some x4
 else
 bif (decide (a0=(10:Int))) then
 some x5
 else
 bif (decide (a0=(13:Int))) then
 bif (decide (a0=(13:Int))) then
 some x7
 else
 (Fn.r12_kinds_L22 ((),((),()))).bind some
 else
 bif (decide (a0=(14:Int))) then
 some x7
 else
 (Fn.r12_kinds_L22 ((),((),()))).bind some
 else
 bif (decide (a0=(11:Int))) then
 bif (decide (a0=(11:Int))) then
 some x3
 else
 bif (decide (a0=(1:Int))) then
 bif (decide (a0=(1:Int))) then
 some x8
 else
 bif (decide (a0=(3:Int))) then
 some x6
 else
 bif (decide (a0=(4:Int))) then
 some x2
 else
 bif (decide (a0=(5:Int))) then
 some x4
 else
 bif (decide (a0=(10:Int))) then
 some x5
 else
 bif (decide (a0=(13:Int))) then
 bif (decide (a0=(13:Int))) then
 some x7
 else
 (Fn.r12_kinds_L22 ((),((),()))).bind some
 else
 bif (decide (a0=(14:Int))) then
 some x7
 else
 (Fn.r12_kinds_L22 ((),((),()))).bind some
 else
 bif (decide (a0=(2:Int))) then
 some x8
 else
 bif (decide (a0=(3:Int))) then
 some x6
 else
 bif (decide (a0=(4:Int))) then
 some x2
 else
 bif (decide (a0=(5:Int))) then
 some x4
 else
 bif (decide (a0=(10:Int))) then
 some x5
 else
 bif (decide (a0=(13:Int))) then
 bif (decide (a0=(13:Int))) then
 some x7
 else
 (Fn.r12_kinds_L22 ((),((),()))).bind some
 else
 bif (decide (a0=(14:Int))) then
 some x7
 else
 (Fn.r12_kinds_L22 ((),((),()))).bind some
 else
 bif (decide (a0=(12:Int))) then
 some x3
 else
 bif (decide (a0=(1:Int))) then
 bif (decide (a0=(1:Int))) then
 some x8
 else
 bif (decide (a0=(3:Int))) then
 some x6
 else
 bif (decide (a0=(4:Int))) then
 some x2
 else
 bif (decide (a0=(5:Int))) then
 some x4
 else
 bif (decide (a0=(10:Int))) then
 some x5
 else
 bif (decide (a0=(13:Int))) then
 bif (decide (a0=(13:Int))) then
 some x7
 else
 (Fn.r12_kinds_L22 ((),((),()))).bind some
 else
 bif (decide (a0=(14:Int))) then
 some x7
 else
 (Fn.r12_kinds_L22 ((),((),()))).bind some
 else
 bif (decide (a0=(2:Int))) then
 some x8
 else
 bif (decide (a0=(3:Int))) then
 some x6
 else
 bif (decide (a0=(4:Int))) then
 some x2
 else
 bif (decide (a0=(5:Int))) then
 some x4
 else
 bif (decide (a0=(10:Int))) then
 some x5
 else
 bif (decide (a0=(13:Int))) then
 bif (decide (a0=(13:Int))) then
 some x7
 else
 (Fn.r12_kinds_L22 ((),((),()))).bind some
 else
 bif (decide (a0=(14:Int))) then
 some x7
 else
 (Fn.r12_kinds_L22 ((),((),()))).bind some :=
 (fE C_r12_kinds ins_r12_kinds outs_r12_kinds Tryz.f118 (a0,())).trans (by kernel_rfl)
theorem Fn.r12_kinds_L22_eq:Fn.r12_kinds_L22 ((),(),()) =
 some ((),((ByteArray.mk (List.toArray ([]:(List UInt8)))),())) :=
 (aE C_r12_kinds ins_r12_kinds outs_r12_kinds Tryz.f118 22 ((),(),())).trans (by kernel_rfl)
def ins_r12_fits:List Par:=[(ty5,.data),(ty5,.data)]
def outs_r12_fits:List Par:=[(ty4,.data)]
def C_r12_fits:FnC:={ G:=⟨tab,eqs,ctrL []⟩,nt:=18,mv:=mvL [],pre:=preL [],cuts:=[],sh:=shL [],anchs:=[] }
def Fn.r12_fits (x:(Int×(Int×Unit))):Option (Unit×(Bool×Unit)):=fO C_r12_fits ins_r12_fits outs_r12_fits Tryz.f119 x
def s_r12_fits:Sum:=⟨ins_r12_fits,outs_r12_fits,Fn.r12_fits,none⟩
theorem m_r12_fits:Meets Tryz.prog 119 s_r12_fits:=meets_fn (C:=C_r12_fits) (cfg_ok tok eqs_ok trivial) mixed Tryz.func119 rfl rfl rfl (by kernel_rfl) (by kernel_rfl)
theorem Fn.r12_fits_eq (a0:Int) (a1:Int):Fn.r12_fits (a0,a1,()) =
 bif (decide (a0=(78:Int))) then
 some ((),((decide (a1=(0:Int))),()))
 else
 bif (decide (a0=(72:Int))) then
 some ((),((decide (a1=(2:Int))),()))
 else
 bif (decide (a0=(80:Int))) then
 some ((),((decide (a1=(1:Int))),()))
 else
 some ((),(true,())) :=
 (fE C_r12_fits ins_r12_fits outs_r12_fits Tryz.f119 (a0,a1,())).trans (by kernel_rfl)
def ins_r09_Within:List Par:=[(ty25,.data),(ty22,.data),(ty103,.data),(ty3,.data)]
def outs_r09_Within:List Par:=[(ty3,.data),(ty3,.data)]
def C_r09_Within:FnC:={ G:=⟨tab,eqs,ctrL [(71,s_r03_Resolve)]⟩,nt:=45,mv:=mvL [(0,1),(0,0),(3,10)],pre:=preL [],cuts:=[],sh:=shL [],anchs:=[] }
def Fn.r09_Within (x:(Layout×((List Int)×(Cell×(Int×Unit))))):Option (Unit×(Int×(Int×Unit))):=fO C_r09_Within ins_r09_Within outs_r09_Within Tryz.f120 x
def s_r09_Within:Sum:=⟨ins_r09_Within,outs_r09_Within,Fn.r09_Within,none⟩
theorem m_r09_Within:Meets Tryz.prog 120 s_r09_Within:=meets_fn (C:=C_r09_Within) (cfg_ok tok eqs_ok ⟨⟨m_r03_Resolve,Tryz.call71⟩,trivial⟩) mixed Tryz.func120 rfl rfl rfl (by kernel_rfl) (by kernel_rfl)
theorem Fn.r09_Within_eq (a0:Layout) (a1:(List Int)) (a2:Cell) (a3:Int):Fn.r09_Within (a0,a1,a2,a3,()) =
 bif (!(decide (a2.1=(1:Int)))) then
 some ((),((0:Int),((3:Int),())))
 else
 lt (IntKind.wrap .i64 a2.2) fun x2 =>
 (Fn.r03_Resolve (a0,(a1,(x2,())))).bind fun y1 =>
 lt (bif (!y1.2.2.1) then true else (decide (a3<(0:Int)))) fun x3 =>
 bif ((!((!x3)&&true))||(inR y1.2.1.1 (List.length a1))) then
 bif (bif x3 then true else (decide ((IntKind.wrap .i64 ((List.getD a1 (Int.toNat y1.2.1.1) (0:Int)) - y1.2.1.2))<a3))) then
 some ((),((0:Int),((4:Int),())))
 else
 some ((),(x2,((0:Int),())))
 else none :=
 (fE C_r09_Within ins_r09_Within outs_r09_Within Tryz.f120 (a0,a1,a2,a3,())).trans (by kernel_rfl)
def ins_r12_Check:List Par:=[(ty38,.data),(ty32,.data),(ty3,.data)]
def outs_r12_Check:List Par:=[(ty3,.data)]
def C_r12_Check:FnC:={ G:=⟨tab,eqs,ctrL [(111,s_r12_Buffer),(118,s_r12_kinds),(119,s_r12_fits),(120,s_r09_Within)]⟩,nt:=94,mv:=mvL [(0,1),(0,0),(14,15)],pre:=preL [],cuts:=[5],sh:=shL [(5,⟨[(8,ty2,.data),(9,ty9,.data),(29,ty2,.data),(30,ty2,.data)],[(3,3,0),(4,4,0),(7,7,0)],[],[(3,ty37,.imm),(4,ty31,.imm),(7,ty51,.imm)],[]⟩)],anchs:=[] }
def Fn.r12_Check_L5 (d:((Int×(ByteArray×(Int×(Int×Unit))))×((Prog×(Machine×(Thread×Unit)))×Unit))):Option (Unit×(Int×Unit)):=aO C_r12_Check ins_r12_Check outs_r12_Check Tryz.f108 5 d
def Fn.r12_Check (x:(Prog×(Machine×(Int×Unit)))):Option (Unit×(Int×Unit)):=fO C_r12_Check ins_r12_Check outs_r12_Check Tryz.f108 x
def s_r12_Check:Sum:=⟨ins_r12_Check,outs_r12_Check,Fn.r12_Check,none⟩
theorem m_r12_Check:Meets Tryz.prog 108 s_r12_Check:=meets_fn (C:=C_r12_Check) (cfg_ok tok eqs_ok ⟨⟨m_r12_Buffer,Tryz.call111⟩,⟨⟨m_r12_kinds,Tryz.call118⟩,⟨⟨m_r12_fits,Tryz.call119⟩,⟨⟨m_r09_Within,Tryz.call120⟩,trivial⟩⟩⟩⟩) mixed Tryz.func108 rfl rfl rfl (by kernel_rfl) (by kernel_rfl)
theorem Fn.r12_Check_eq (a0:Prog) (a1:Machine) (a2:Int):Fn.r12_Check (a0,a1,a2,()) =
 bif (inR a2 (List.length a1.2.2)) then
 lt (List.getD a1.2.2 (Int.toNat a2) zThread) fun x2 =>
 lt (IntKind.wrap .i64 (x2.2.2.1 - (1:Int))) fun x3 =>
 bif (inR x3 (List.length a0.1)) then
 (Fn.r12_kinds ((List.getD a0.1 (Int.toNat x3) zInstr).2.2.2.2,())).bind fun y1 =>
 (Fn.r12_Check_L5 (((List.getD a0.1 (Int.toNat x3) zInstr).2.2.2.2,(y1.2.1,((((ByteArray.size y1.2.1):Nat):Int),((0:Int),())))),((a0,(a1,(x2,()))),()))).bind some
 else none
 else none :=
 (fE C_r12_Check ins_r12_Check outs_r12_Check Tryz.f108 (a0,a1,a2,())).trans (by kernel_rfl)
theorem Fn.r12_Check_L5_eq (v8:Int) (v9:ByteArray) (v29:Int) (v30:Int) (r3:Prog) (r4:Machine) (r7:Thread):Fn.r12_Check_L5 ((v8,v9,v29,v30,()),(r3,r4,r7,()),()) =
 bif (decide (v30<v29)) then
 bif (inR v30 (ByteArray.size v9)) then
 bif (inR v30 (List.length r7.2.1)) then
 (Fn.r12_fits ((((UInt8.toNat (List.getD (ByteArray.toList v9) (Int.toNat v30) (0:UInt8))):Nat):Int),((List.getD r7.2.1 (Int.toNat v30) zCell).1,()))).bind fun y1 =>
 bif (!y1.2.1) then
 some ((),((6:Int),()))
 else
 (Fn.r12_Check_L5 ((v8,(v9,(v29,((IntKind.wrap .i64 (v30+(1:Int))),())))),((r3,(r4,(r7,()))),()))).bind some
 else none
 else none
 else
 (Fn.r12_Buffer (v8,())).bind fun y2 =>
 lt (bif (decide (v8=(10:Int))) then true else (decide (v8=(12:Int)))) fun x4 =>
 lt (bif x4 then (decide ((((List.length r3.1):Nat):Int)≤(IntKind.wrap .i64 (List.getD r7.2.1 (Int.toNat (0:Int)) zCell).2))) else false) fun x5 =>
 bif (decide ((0:Int)<y2.2.1)) then
 bif (inR (1:Int) (List.length r7.2.1)) then
 bif (inR (2:Int) (List.length r7.2.1)) then
 (Fn.r09_Within (r4.1,(r3.2.1,((List.getD r7.2.1 (Int.toNat (1:Int)) zCell),((IntKind.wrap .i64 (List.getD r7.2.1 (Int.toNat (2:Int)) zCell).2),()))))).bind fun y3 =>
 bif ((!((!(!(decide (y3.2.2.1=(0:Int)))))&&true))||(inR (2:Int) (List.length r7.2.1))) then
 bif (bif (!(decide (y3.2.2.1=(0:Int)))) then true else (decide ((16:Int)<(List.getD r7.2.1 (Int.toNat (2:Int)) zCell).2))) then
 some ((),((6:Int),()))
 else
 bif ((!(x4&&true))||(inR (0:Int) (List.length r7.2.1))) then
 bif x5 then
 some ((),((6:Int),()))
 else
 some ((),((0:Int),()))
 else none
 else none
 else none
 else none
 else
 bif ((!(x4&&true))||(inR (0:Int) (List.length r7.2.1))) then
 bif x5 then
 some ((),((6:Int),()))
 else
 some ((),((0:Int),()))
 else none :=
 (aE C_r12_Check ins_r12_Check outs_r12_Check Tryz.f108 5 ((v8,v9,v29,v30,()),(r3,r4,r7,()),())).trans (by kernel_rfl)
def ins_r10_copied:List Par:=[(ty52,.data)]
def outs_r10_copied:List Par:=[(ty52,.own (.pr .imm (.pr (.own none (.pr .imm .imm)) (.pr .imm (.pr .imm (.pr .imm (.pr .imm (.pr .imm .imm))))))))]
def C_r10_copied:FnC:={ G:=⟨tab,eqs,ctrL []⟩,nt:=8,mv:=mvL [(0,0),(1,4),(2,1)],pre:=preL [],cuts:=[],sh:=shL [],anchs:=[] }
def Fn.r10_copied (x:(Thread×Unit)):Option (Unit×(Thread×Unit)):=fO C_r10_copied ins_r10_copied outs_r10_copied Tryz.f121 x
def s_r10_copied:Sum:=⟨ins_r10_copied,outs_r10_copied,Fn.r10_copied,none⟩
theorem m_r10_copied:Meets Tryz.prog 121 s_r10_copied:=meets_fn (C:=C_r10_copied) (cfg_ok tok eqs_ok trivial) mixed Tryz.func121 rfl rfl rfl (by kernel_rfl) (by kernel_rfl)
theorem Fn.r10_copied_eq (a0:Thread):Fn.r10_copied (a0,()) =
 bif (Nat.ble ((List.length ([]:(List Cell)))+(List.length a0.2.1)) 4294967296) then
 some ((),((a0.1,((List.append ([]:(List Cell)) a0.2.1),(a0.2.2.1,(a0.2.2.2.1,(a0.2.2.2.2.1,(a0.2.2.2.2.2.1,(a0.2.2.2.2.2.2.1,a0.2.2.2.2.2.2.2))))))),()))
 else none :=
 (fE C_r10_copied ins_r10_copied outs_r10_copied Tryz.f121 (a0,())).trans (by kernel_rfl)
def ins_r10_End:List Par:=[(ty52,.data),(ty3,.data),(ty23,.data)]
def outs_r10_End:List Par:=[(ty52,.own (.pr .imm (.pr (.own none (.pr .imm .imm)) (.pr .imm (.pr .imm (.pr .imm (.pr .imm (.pr .imm .imm))))))))]
def C_r10_End:FnC:={ G:=⟨tab,eqs,ctrL [(121,s_r10_copied)]⟩,nt:=16,mv:=mvL [(0,0),(1,3),(1,1),(2,7),(2,5),(3,1)],pre:=preL [],cuts:=[],sh:=shL [],anchs:=[] }
def Fn.r10_End (x:(Thread×(Int×(Int×Unit)))):Option (Unit×(Thread×Unit)):=fO C_r10_End ins_r10_End outs_r10_End Tryz.f109 x
def s_r10_End:Sum:=⟨ins_r10_End,outs_r10_End,Fn.r10_End,none⟩
theorem m_r10_End:Meets Tryz.prog 109 s_r10_End:=meets_fn (C:=C_r10_End) (cfg_ok tok eqs_ok ⟨⟨m_r10_copied,Tryz.call121⟩,trivial⟩) mixed Tryz.func109 rfl rfl rfl (by kernel_rfl) (by kernel_rfl)
theorem Fn.r10_End_eq (a0:Thread) (a1:Int) (a2:Int):Fn.r10_End (a0,a1,a2,()) =
 (Fn.r10_copied (a0,())).bind fun y1 =>
 some ((),(((4:Int),(y1.2.1.2.1,(y1.2.1.2.2.1,(y1.2.1.2.2.2.1,(y1.2.1.2.2.2.2.1,(y1.2.1.2.2.2.2.2.1,(a1,a2))))))),())) :=
 (fE C_r10_End ins_r10_End outs_r10_End Tryz.f109 (a0,a1,a2,())).trans (by kernel_rfl)
def ins_r12_Arguments:List Par:=[(ty3,.data)]
def outs_r12_Arguments:List Par:=[(ty3,.data)]
def C_r12_Arguments:FnC:={ G:=⟨tab,eqs,ctrL [(118,s_r12_kinds)]⟩,nt:=12,mv:=mvL [(3,2),(3,1)],pre:=preL [],cuts:=[],sh:=shL [],anchs:=[] }
def Fn.r12_Arguments (x:(Int×Unit)):Option (Unit×(Int×Unit)):=fO C_r12_Arguments ins_r12_Arguments outs_r12_Arguments Tryz.f110 x
def s_r12_Arguments:Sum:=⟨ins_r12_Arguments,outs_r12_Arguments,Fn.r12_Arguments,none⟩
theorem m_r12_Arguments:Meets Tryz.prog 110 s_r12_Arguments:=meets_fn (C:=C_r12_Arguments) (cfg_ok tok eqs_ok ⟨⟨m_r12_kinds,Tryz.call118⟩,trivial⟩) mixed Tryz.func110 rfl rfl rfl (by kernel_rfl) (by kernel_rfl)
theorem Fn.r12_Arguments_eq (a0:Int):Fn.r12_Arguments (a0,()) =
 bif (bif (decide (a0<(0:Int))) then true else (decide ((15:Int)<a0))) then
 some ((),((-(1:Int)),()))
 else
 (Fn.r12_kinds (a0,())).bind fun y1 =>
 some ((),((((ByteArray.size y1.2.1):Nat):Int),())) :=
 (fE C_r12_Arguments ins_r12_Arguments outs_r12_Arguments Tryz.f110 (a0,())).trans (by kernel_rfl)
def ins_r12_Take:List Par:=[(ty38,.data),(ty32,.data),(ty3,.data),(ty3,.data)]
def outs_r12_Take:List Par:=[(ty32,.own (.pr (.pr (.own none .imm) .imm) (.pr (.pr (.own none (.pr .imm .imm)) (.own none (.pr .imm (.pr .imm (.own none (.pr .imm .imm)))))) (.own none (.pr .imm (.pr .imm (.pr .imm (.pr .imm (.pr .imm (.pr .imm (.pr .imm .imm))))))))))),(ty173,.own (.pr .imm (.pr .imm (.pr .imm (.pr .imm (.pr .imm (.pr .imm (.pr (.own none (.pr .imm (.pr .imm (.pr .imm .imm)))) (.own none (.pr .imm (.pr .imm (.pr .imm .imm)))))))))))),(ty55,.data)]
def C_r12_Take:FnC:={ G:=⟨tab,eqs,ctrL [(55,s_r03_Canon),(94,s_r05_Look),(107,s_r11_Slice),(108,s_r12_Check),(109,s_r10_End),(110,s_r12_Arguments),(111,s_r12_Buffer)]⟩,nt:=137,mv:=mvL [(0,1),(0,0),(1,10),(3,4),(3,3),(5,8),(8,3),(12,7),(13,4),(18,15),(18,12),(24,21),(24,18),(26,3),(26,2)],pre:=preL [],cuts:=[16,22],sh:=shL [(16,⟨[(80,ty2,.data),(81,ty2,.data)],[(4,4,0),(8,8,0),(9,9,0),(11,11,0),(14,14,0),(15,15,0)],[],[(4,ty37,.imm),(8,ty31,(.pr (.pr (.own none .imm) .imm) (.pr (.pr (.own none (.pr .imm .imm)) (.own none (.pr .imm (.pr .imm (.own none (.pr .imm .imm)))))) (.own none (.pr .imm (.pr (.own none (.pr .imm .imm)) (.pr .imm (.pr .imm (.pr .imm (.pr .imm (.pr .imm .imm))))))))))),(9,ty172,(.pr .imm (.pr .imm (.pr .imm (.pr .imm (.pr .imm (.pr .imm (.pr (.own none (.pr .imm (.pr .imm (.pr .imm .imm)))) (.own none (.pr .imm (.pr .imm (.pr .imm .imm)))))))))))),(11,ty31,(.pr (.pr (.own none .imm) .imm) (.pr (.pr (.own none (.pr .imm .imm)) (.own none (.pr .imm (.pr .imm (.own none (.pr .imm .imm)))))) (.own none (.pr .imm (.pr .imm (.pr .imm (.pr .imm (.pr .imm (.pr .imm (.pr .imm .imm))))))))))),(14,ty51,(.pr .imm (.pr .imm (.pr .imm (.pr .imm (.pr .imm (.pr .imm (.pr .imm .imm)))))))),(15,ty172,(.pr .imm (.pr .imm (.pr .imm (.pr .imm (.pr .imm (.pr .imm (.pr (.own none (.pr .imm (.pr .imm (.pr .imm .imm)))) (.own none (.pr .imm (.pr .imm (.pr .imm .imm))))))))))))],[]⟩),(22,⟨[(109,ty2,.data),(110,ty2,.data)],[(4,4,0),(8,8,0),(9,9,0),(11,11,0),(14,14,0),(15,15,0)],[],[(4,ty37,.imm),(8,ty31,(.pr (.pr (.own none .imm) .imm) (.pr (.pr (.own none (.pr .imm .imm)) (.own none (.pr .imm (.pr .imm (.own none (.pr .imm .imm)))))) (.own none (.pr .imm (.pr (.own none (.pr .imm .imm)) (.pr .imm (.pr .imm (.pr .imm (.pr .imm (.pr .imm .imm))))))))))),(9,ty172,(.pr .imm (.pr .imm (.pr .imm (.pr .imm (.pr .imm (.pr .imm (.pr (.own none (.pr .imm (.pr .imm (.pr .imm .imm)))) (.own none (.pr .imm (.pr .imm (.pr .imm .imm)))))))))))),(11,ty31,(.pr (.pr (.own none .imm) .imm) (.pr (.pr (.own none (.pr .imm .imm)) (.own none (.pr .imm (.pr .imm (.own none (.pr .imm .imm)))))) (.own none (.pr .imm (.pr .imm (.pr .imm (.pr .imm (.pr .imm (.pr .imm (.pr .imm .imm))))))))))),(14,ty51,(.pr .imm (.pr .imm (.pr .imm (.pr .imm (.pr .imm (.pr .imm (.pr .imm .imm)))))))),(15,ty172,(.pr .imm (.pr .imm (.pr .imm (.pr .imm (.pr .imm (.pr .imm (.pr (.own none (.pr .imm (.pr .imm (.pr .imm .imm)))) (.own none (.pr .imm (.pr .imm (.pr .imm .imm))))))))))))],[]⟩)],anchs:=[] }
def Fn.r12_Take_L16 (d:((Int×(Int×Unit))×((Prog×(Machine×(Request×(Machine×(Thread×(Request×Unit))))))×Unit))):Option (Unit×(Machine×(Request×(Int×Unit)))):=aO C_r12_Take ins_r12_Take outs_r12_Take Tryz.f91 16 d
def Fn.r12_Take_L22 (d:((Int×(Int×Unit))×((Prog×(Machine×(Request×(Machine×(Thread×(Request×Unit))))))×Unit))):Option (Unit×(Machine×(Request×(Int×Unit)))):=aO C_r12_Take ins_r12_Take outs_r12_Take Tryz.f91 22 d
def Fn.r12_Take (x:(Prog×(Machine×(Int×(Int×Unit))))):Option (Unit×(Machine×(Request×(Int×Unit)))):=fO C_r12_Take ins_r12_Take outs_r12_Take Tryz.f91 x
def s_r12_Take:Sum:=⟨ins_r12_Take,outs_r12_Take,Fn.r12_Take,none⟩
theorem m_r12_Take:Meets Tryz.prog 91 s_r12_Take:=meets_fn (C:=C_r12_Take) (cfg_ok tok eqs_ok ⟨⟨m_r03_Canon,Tryz.call55⟩,⟨⟨m_r05_Look,Tryz.call94⟩,⟨⟨m_r11_Slice,Tryz.call107⟩,⟨⟨m_r12_Check,Tryz.call108⟩,⟨⟨m_r10_End,Tryz.call109⟩,⟨⟨m_r12_Arguments,Tryz.call110⟩,⟨⟨m_r12_Buffer,Tryz.call111⟩,trivial⟩⟩⟩⟩⟩⟩⟩) mixed Tryz.func91 rfl rfl rfl (by kernel_rfl) (by kernel_rfl)
theorem Fn.r12_Take_eq (a0:Prog) (a1:Machine) (a2:Int) (a3:Int):Fn.r12_Take (a0,a1,a2,a3,()) =
 (Fn.r11_Slice (a0,(a1,(a2,(a3,()))))).bind fun y1 =>
 lt (([]:(List Canon)),([]:(List Canon))) fun x5 =>
 lt ((([]:(List Int)),(0:Int)),((([]:(List Cell)),([]:(List Line))),([]:(List Thread)))) fun x6 =>
 lt ((0:Int),((0:Int),((0:Int),((0:Int),((0:Int),((0:Int),x5)))))) fun x7 =>
 bif (!(decide (y1.2.2.2.1=(0:Int)))) then
 some ((),(x6,(x7,(y1.2.2.2.1,()))))
 else
 bif (inR a2 (List.length y1.2.1.2.2)) then
 lt (List.getD y1.2.1.2.2 (0+(Int.toNat a2)) zThread) fun x8 =>
 lt ((y1.2.1.1.1,y1.2.1.1.2),((y1.2.1.2.1.1,y1.2.1.2.1.2),y1.2.1.2.2)) fun x9 =>
 lt (x8.2.2.2.1,(x8.2.2.1,((0:Int),x5))) fun x10 =>
 bif (decide (y1.2.2.1=(2:Int))) then
 some ((),(x9,((a2,(y1.2.2.1,(x8.2.2.2.2.2.2.1,x10))),((0:Int),()))))
 else
 bif (decide (y1.2.2.1=(1:Int))) then
 (Fn.r12_Check (a0,(x9,(a2,())))).bind fun y2 =>
 lt (x8.1,(x8.2.1,(x8.2.2.1,(x8.2.2.2.1,(x8.2.2.2.2.1,(x8.2.2.2.2.2.1,(x8.2.2.2.2.2.2.1,x8.2.2.2.2.2.2.2))))))) fun x11 =>
 bif (!(decide (y2.2.1=(0:Int)))) then
 (Fn.r10_End (x11,(y2.2.1,((0:Int),())))).bind fun y3 =>
 bif (inR a2 (List.length y1.2.1.2.2)) then
 some ((),(((y1.2.1.1.1,y1.2.1.1.2),((y1.2.1.2.1.1,y1.2.1.2.1.2),(List.set y1.2.1.2.2 (0+(Int.toNat a2)) (y3.2.1.1,(y3.2.1.2.1,(y3.2.1.2.2.1,(y3.2.1.2.2.2.1,(y3.2.1.2.2.2.2.1,(y3.2.1.2.2.2.2.2.1,(y3.2.1.2.2.2.2.2.2.1,y3.2.1.2.2.2.2.2.2.2)))))))))),((a2,((2:Int),(y2.2.1,x10))),((0:Int),()))))
 else none
 else
 lt (IntKind.wrap .i64 (x8.2.2.1 - (1:Int))) fun x12 =>
 bif (inR x12 (List.length a0.1)) then
 (Fn.r12_Arguments ((List.getD a0.1 (Int.toNat x12) zInstr).2.2.2.2,())).bind fun y4 =>
 (Fn.r12_Take_L16 ((y4.2.1,((0:Int),())),((a0,(x6,(x7,(x9,(x11,((a2,(y1.2.2.1,((0:Int),(x8.2.2.2.1,(x8.2.2.1,((List.getD a0.1 (Int.toNat x12) zInstr).2.2.2.2,x5)))))),())))))),()))).bind some
 else none
 else
 some ((),(x9,((a2,(y1.2.2.1,((0:Int),x10))),((0:Int),()))))
 else none :=
 (fE C_r12_Take ins_r12_Take outs_r12_Take Tryz.f91 (a0,a1,a2,a3,())).trans (by kernel_rfl)
theorem Fn.r12_Take_L16_eq (v80:Int) (v81:Int) (r4:Prog) (r8:Machine) (r9:Request) (r11:Machine) (r14:Thread) (r15:Request):Fn.r12_Take_L16 ((v80,v81,()),(r4,r8,r9,r11,r14,r15,()),()) =
 bif (decide (v81<v80)) then
 bif (inR v81 (List.length r14.2.1)) then
 (Fn.r03_Canon ((r11.1.1,r11.1.2),(r4.2.1,((List.getD r14.2.1 (Int.toNat v81) zCell),())))).bind fun y1 =>
 lt (List.cons y1.2.1 ([]:(List Canon))) fun x3 =>
 bif (Nat.ble ((List.length r15.2.2.2.2.2.2.1)+(List.length x3)) 4294967296) then
 (Fn.r12_Take_L16 ((v80,((IntKind.wrap .i64 (v81+(1:Int))),())),((r4,(r8,(r9,(r11,(r14,((r15.1,(r15.2.1,(r15.2.2.1,(r15.2.2.2.1,(r15.2.2.2.2.1,(r15.2.2.2.2.2.1,((List.append r15.2.2.2.2.2.2.1 x3),r15.2.2.2.2.2.2.2))))))),())))))),()))).bind some
 else none
 else none
 else
 (Fn.r12_Buffer (r15.2.2.2.2.2.1,())).bind fun y2 =>
 bif (decide (y2.2.1=(1:Int))) then
 bif (inR (2:Int) (List.length r14.2.1)) then
 (Fn.r12_Take_L22 (((IntKind.wrap .i64 (List.getD r14.2.1 (Int.toNat (2:Int)) zCell).2),((0:Int),())),((r4,(r8,(r9,(r11,(r14,(r15,())))))),()))).bind some
 else none
 else
 some ((),(((r11.1.1,r11.1.2),((r11.2.1.1,r11.2.1.2),r11.2.2)),((r15.1,(r15.2.1,(r15.2.2.1,(r15.2.2.2.1,(r15.2.2.2.2.1,(r15.2.2.2.2.2.1,(r15.2.2.2.2.2.2.1,r15.2.2.2.2.2.2.2))))))),((0:Int),())))) :=
 (aE C_r12_Take ins_r12_Take outs_r12_Take Tryz.f91 16 ((v80,v81,()),(r4,r8,r9,r11,r14,r15,()),())).trans (by kernel_rfl)
theorem Fn.r12_Take_L22_eq (v109:Int) (v110:Int) (r4:Prog) (r8:Machine) (r9:Request) (r11:Machine) (r14:Thread) (r15:Request):Fn.r12_Take_L22 ((v109,v110,()),(r4,r8,r9,r11,r14,r15,()),()) =
 bif (decide (v110<v109)) then
 bif (inR (1:Int) (List.length r14.2.1)) then
 (Fn.r05_Look ((r11.2.1.1,r11.2.1.2),((IntKind.wrap .i64 ((IntKind.wrap .i64 (List.getD r14.2.1 (Int.toNat (1:Int)) zCell).2)+v110)),()))).bind fun y1 =>
 (Fn.r03_Canon ((r11.1.1,r11.1.2),(r4.2.1,(y1.2.1,())))).bind fun y2 =>
 lt (List.cons y2.2.1 ([]:(List Canon))) fun x3 =>
 bif (Nat.ble ((List.length r15.2.2.2.2.2.2.2)+(List.length x3)) 4294967296) then
 (Fn.r12_Take_L22 ((v109,((IntKind.wrap .i64 (v110+(1:Int))),())),((r4,(r8,(r9,(r11,(r14,((r15.1,(r15.2.1,(r15.2.2.1,(r15.2.2.2.1,(r15.2.2.2.2.1,(r15.2.2.2.2.2.1,(r15.2.2.2.2.2.2.1,(List.append r15.2.2.2.2.2.2.2 x3)))))))),())))))),()))).bind some
 else none
 else none
 else
 some ((),(((r11.1.1,r11.1.2),((r11.2.1.1,r11.2.1.2),r11.2.2)),((r15.1,(r15.2.1,(r15.2.2.1,(r15.2.2.2.1,(r15.2.2.2.2.1,(r15.2.2.2.2.2.1,(r15.2.2.2.2.2.2.1,r15.2.2.2.2.2.2.2))))))),((0:Int),())))) :=
 (aE C_r12_Take ins_r12_Take outs_r12_Take Tryz.f91 22 ((v109,v110,()),(r4,r8,r9,r11,r14,r15,()),())).trans (by kernel_rfl)
def ins_r15_Copy:List Par:=[(ty84,.data)]
def outs_r15_Copy:List Par:=[(ty84,.own (.pr (.own none .imm) (.own none (.own none .imm))))]
def C_r15_Copy:FnC:={ G:=⟨tab,eqs,ctrL []⟩,nt:=26,mv:=mvL [(0,0),(1,5),(1,3),(2,2),(5,7),(5,4),(5,3),(7,1)],pre:=preL [],cuts:=[3],sh:=shL [(3,⟨[(11,ty82,.data),(12,ty2,.data),(13,ty2,.data)],[(2,2,0),(3,3,0)],[],[(2,ty83,(.pr (.own none .imm) (.own none (.own none .imm)))),(3,ty83,(.pr (.own none .imm) (.own none (.own none .imm))))],[]⟩)],anchs:=[] }
def Fn.r15_Copy_L3 (d:(((List (List Int))×(Int×(Int×Unit)))×((Locks×(Locks×Unit))×Unit))):Option (Unit×(Locks×Unit)):=aO C_r15_Copy ins_r15_Copy outs_r15_Copy Tryz.f122 3 d
def Fn.r15_Copy (x:(Locks×Unit)):Option (Unit×(Locks×Unit)):=fO C_r15_Copy ins_r15_Copy outs_r15_Copy Tryz.f122 x
def s_r15_Copy:Sum:=⟨ins_r15_Copy,outs_r15_Copy,Fn.r15_Copy,none⟩
theorem m_r15_Copy:Meets Tryz.prog 122 s_r15_Copy:=meets_fn (C:=C_r15_Copy) (cfg_ok tok eqs_ok trivial) mixed Tryz.func122 rfl rfl rfl (by kernel_rfl) (by kernel_rfl)
theorem Fn.r15_Copy_eq (a0:Locks):Fn.r15_Copy (a0,()) =
 bif (Nat.ble ((List.length ([]:(List Int)))+(List.length a0.1)) 4294967296) then
 (Fn.r15_Copy_L3 ((a0.2,((((List.length a0.2):Nat):Int),((0:Int),()))),(((([]:(List Int)),([]:(List (List Int)))),(((List.append ([]:(List Int)) a0.1),([]:(List (List Int)))),())),()))).bind some
 else none :=
 (fE C_r15_Copy ins_r15_Copy outs_r15_Copy Tryz.f122 (a0,())).trans (by kernel_rfl)
theorem Fn.r15_Copy_L3_eq (v11:(List (List Int))) (v12:Int) (v13:Int) (r2:Locks) (r3:Locks):Fn.r15_Copy_L3 ((v11,v12,v13,()),(r2,r3,()),()) =
 bif (decide (v13<v12)) then
 bif (inR v13 (List.length v11)) then
 lt (List.getD v11 (Int.toNat v13) ([]:(List Int))) fun x1 =>
 bif (Nat.ble ((List.length ([]:(List Int)))+(List.length x1)) 4294967296) then
 lt (List.cons (List.append ([]:(List Int)) x1) ([]:(List (List Int)))) fun x2 =>
 bif (Nat.ble ((List.length r3.2)+(List.length x2)) 4294967296) then
 (Fn.r15_Copy_L3 ((v11,(v12,((IntKind.wrap .i64 (v13+(1:Int))),()))),((r2,((r3.1,(List.append r3.2 x2)),())),()))).bind some
 else none
 else none
 else none
 else
 some ((),((r3.1,r3.2),())) :=
 (aE C_r15_Copy ins_r15_Copy outs_r15_Copy Tryz.f122 3 ((v11,v12,v13,()),(r2,r3,()),())).trans (by kernel_rfl)
def ins_r15_Give:List Par:=[(ty84,.data),(ty3,.data),(ty3,.data)]
def outs_r15_Give:List Par:=[(ty84,.data),(ty3,.data),(ty4,.data)]
def C_r15_Give:FnC:={ G:=⟨tab,eqs,ctrL [(122,s_r15_Copy)]⟩,nt:=66,mv:=mvL [(0,0),(1,3),(3,1),(7,10),(8,6)],pre:=preL [(8,[(9,.imm)])],cuts:=[],sh:=shL [],anchs:=[] }
def Fn.r15_Give (x:(Locks×(Int×(Int×Unit)))):Option (Unit×(Locks×(Int×(Bool×Unit)))):=fO C_r15_Give ins_r15_Give outs_r15_Give Tryz.f112 x
def s_r15_Give:Sum:=⟨ins_r15_Give,outs_r15_Give,Fn.r15_Give,none⟩
theorem m_r15_Give:Meets Tryz.prog 112 s_r15_Give:=meets_fn (C:=C_r15_Give) (cfg_ok tok eqs_ok ⟨⟨m_r15_Copy,Tryz.call122⟩,trivial⟩) mixed Tryz.func112 rfl rfl rfl (by kernel_rfl) (by kernel_rfl)
theorem Fn.r15_Give_eq (a0:Locks) (a1:Int) (a2:Int):Fn.r15_Give (a0,a1,a2,()) =
 (Fn.r15_Copy (a0,())).bind fun y1 =>
 lt (bif (decide (a1<(0:Int))) then true else (decide ((4:Int)≤a1))) fun x2 =>
 bif ((!((!x2)&&true))||(inR a1 (List.length a0.1))) then
 bif (bif x2 then true else (!(decide ((List.getD a0.1 (Int.toNat a1) (0:Int))=a2)))) then
 some ((),((y1.2.1.1,y1.2.1.2),((-(1:Int)),(false,()))))
 else
 bif (inR a1 (List.length y1.2.1.1)) then
 bif (inR a1 (List.length y1.2.1.2)) then
 lt (List.getD y1.2.1.2 (0+(Int.toNat a1)) ([]:(List Int))) fun x3 =>
 lt (List.set y1.2.1.1 (0+(Int.toNat a1)) (-(1:Int))) fun x4 =>
 bif (decide ((0:Int)<(((List.length x3):Nat):Int))) then
 bif (inR a1 (List.length y1.2.1.2)) then
 bif (inR (0:Int) (List.length x3)) then
 bif (inR a1 (List.length x4)) then
 bif (inR a1 (List.length y1.2.1.2)) then
 bif (((decide ((0:Int)≤(1:Int)))&&(decide ((1:Int)≤(((List.length x3):Nat):Int))))&&(decide ((((List.length x3):Nat):Int)≤(((List.length x3):Nat):Int)))) then
 bif (inR a1 (List.length y1.2.1.2)) then
 lt (List.set x4 (0+(Int.toNat a1)) (List.getD x3 (0+(Int.toNat (0:Int))) (0:Int))) fun x5 =>
 bif (inR a1 (List.length x5)) then
 some ((),((x5,(List.set y1.2.1.2 (0+(Int.toNat a1)) (List.take ((Int.toNat (((List.length x3):Nat):Int)) - (Int.toNat (1:Int))) (List.drop (Int.toNat (1:Int)) x3)))),((List.getD x5 (Int.toNat a1) (0:Int)),(true,()))))
 else none
 else none
 else none
 else none
 else none
 else none
 else none
 else
 bif (inR a1 (List.length x4)) then
 some ((),((x4,y1.2.1.2),((List.getD x4 (Int.toNat a1) (0:Int)),(true,()))))
 else none
 else none
 else none
 else none :=
 (fE C_r15_Give ins_r15_Give outs_r15_Give Tryz.f112 (a0,a1,a2,())).trans (by kernel_rfl)
def ins_r19_Value:List Par:=[(ty3,.data),(ty4,.data)]
def outs_r19_Value:List Par:=[(ty175,.own (.pr (.pr .imm (.pr .imm (.pr .imm .imm))) (.pr (.own none (.pr .imm (.pr .imm (.pr .imm .imm)))) (.pr .imm .imm))))]
def C_r19_Value:FnC:={ G:=⟨tab,eqs,ctrL []⟩,nt:=11,mv:=mvL [(3,4),(3,3),(3,2)],pre:=preL [],cuts:=[],sh:=shL [],anchs:=[] }
def Fn.r19_Value (x:(Int×(Bool×Unit))):Option (Unit×(Result×Unit)):=fO C_r19_Value ins_r19_Value outs_r19_Value Tryz.f123 x
def s_r19_Value:Sum:=⟨ins_r19_Value,outs_r19_Value,Fn.r19_Value,none⟩
theorem m_r19_Value:Meets Tryz.prog 123 s_r19_Value:=meets_fn (C:=C_r19_Value) (cfg_ok tok eqs_ok trivial) mixed Tryz.func123 rfl rfl rfl (by kernel_rfl) (by kernel_rfl)
theorem Fn.r19_Value_eq (a0:Int) (a1:Bool):Fn.r19_Value (a0,a1,()) =
 lt (([]:(List Canon)),((-(1:Int)),false)) fun x1 =>
 bif (!a1) then
 some ((),((((0:Int),((IntKind.wrap .u16 (65535:Int)),((0:Int),(0:Int)))),x1),()))
 else
 some ((),((((0:Int),((IntKind.wrap .u16 a0),((0:Int),(0:Int)))),x1),())) :=
 (fE C_r19_Value ins_r19_Value outs_r19_Value Tryz.f123 (a0,a1,())).trans (by kernel_rfl)
def ins_r15_Take:List Par:=[(ty84,.data),(ty3,.data),(ty3,.data)]
def outs_r15_Take:List Par:=[(ty84,.own (.pr (.own none .imm) (.own none (.own none .imm)))),(ty3,.data)]
def C_r15_Take:FnC:={ G:=⟨tab,eqs,ctrL [(122,s_r15_Copy)]⟩,nt:=75,mv:=mvL [(0,0),(1,3),(3,1),(7,1),(11,1),(15,5),(16,1),(17,12),(17,9),(18,1),(17,7)],pre:=preL [],cuts:=[5,8],sh:=shL [(5,⟨[(1,ty2,.data),(2,ty2,.data),(32,ty82,.data),(33,ty2,.data),(34,ty2,.data)],[(3,3,0),(6,6,0),(8,8,0)],[],[(3,ty83,.imm),(6,ty83,(.pr (.own none .imm) (.own none (.own none .imm)))),(8,ty83,(.pr (.own none .imm) (.own none (.own none .imm))))],[]⟩),(8,⟨[(1,ty2,.data),(2,ty2,.data),(32,ty82,.data),(33,ty2,.data),(34,ty2,.data),(38,ty22,.data),(39,ty2,.data),(40,ty2,.data)],[(3,3,0),(6,6,0),(8,8,0)],[],[(3,ty83,.imm),(6,ty83,(.pr (.own none .imm) (.own none (.own none .imm)))),(8,ty83,(.pr (.own none .imm) (.own none (.own none .imm))))],[]⟩)],anchs:=[] }
def Fn.r15_Take_L5 (d:((Int×(Int×((List (List Int))×(Int×(Int×Unit)))))×((Locks×(Locks×(Locks×Unit)))×Unit))):Option (Unit×(Locks×(Int×Unit))):=aO C_r15_Take ins_r15_Take outs_r15_Take Tryz.f124 5 d
def Fn.r15_Take_L8 (d:((Int×(Int×((List (List Int))×(Int×(Int×((List Int)×(Int×(Int×Unit))))))))×((Locks×(Locks×(Locks×Unit)))×Unit))):Option (Unit×(Locks×(Int×Unit))):=aO C_r15_Take ins_r15_Take outs_r15_Take Tryz.f124 8 d
def Fn.r15_Take (x:(Locks×(Int×(Int×Unit)))):Option (Unit×(Locks×(Int×Unit))):=fO C_r15_Take ins_r15_Take outs_r15_Take Tryz.f124 x
def s_r15_Take:Sum:=⟨ins_r15_Take,outs_r15_Take,Fn.r15_Take,none⟩
theorem m_r15_Take:Meets Tryz.prog 124 s_r15_Take:=meets_fn (C:=C_r15_Take) (cfg_ok tok eqs_ok ⟨⟨m_r15_Copy,Tryz.call122⟩,trivial⟩) mixed Tryz.func124 rfl rfl rfl (by kernel_rfl) (by kernel_rfl)
theorem Fn.r15_Take_eq (a0:Locks) (a1:Int) (a2:Int):Fn.r15_Take (a0,a1,a2,()) =
 (Fn.r15_Copy (a0,())).bind fun y1 =>
 lt (bif (decide (a1<(0:Int))) then true else (decide ((4:Int)≤a1))) fun x2 =>
 bif ((!((!x2)&&true))||(inR a1 (List.length a0.1))) then
 bif (bif x2 then true else (decide ((List.getD a0.1 (Int.toNat a1) (0:Int))=a2))) then
 some ((),((y1.2.1.1,y1.2.1.2),((2:Int),())))
 else
 (Fn.r15_Take_L5 ((a1,(a2,(a0.2,((((List.length a0.2):Nat):Int),((0:Int),()))))),((a0,((([]:(List Int)),([]:(List (List Int)))),((y1.2.1.1,y1.2.1.2),()))),()))).bind some
 else none :=
 (fE C_r15_Take ins_r15_Take outs_r15_Take Tryz.f124 (a0,a1,a2,())).trans (by kernel_rfl)
theorem Fn.r15_Take_L5_eq (v1:Int) (v2:Int) (v32:(List (List Int))) (v33:Int) (v34:Int) (r3:Locks) (r6:Locks) (r8:Locks):Fn.r15_Take_L5 ((v1,v2,v32,v33,v34,()),(r3,r6,r8,()),()) =
 bif (decide (v34<v33)) then
 bif (inR v34 (List.length v32)) then
 lt (List.getD v32 (Int.toNat v34) ([]:(List Int))) fun x1 =>
 (Fn.r15_Take_L8 ((v1,(v2,(v32,(v33,(v34,(x1,((((List.length x1):Nat):Int),((0:Int),())))))))),((r3,(r6,(r8,()))),()))).bind some
 else none
 else
 bif (inR v1 (List.length r3.1)) then
 bif (decide ((List.getD r3.1 (Int.toNat v1) (0:Int))=(-(1:Int)))) then
 bif (inR v1 (List.length r8.1)) then
 some ((),(((List.set r8.1 (0+(Int.toNat v1)) v2),r8.2),((0:Int),())))
 else none
 else
 bif (inR v1 (List.length r8.2)) then
 lt (List.getD r8.2 (0+(Int.toNat v1)) ([]:(List Int))) fun x2 =>
 bif (Nat.ble ((List.length x2)+(List.length (List.cons v2 ([]:(List Int))))) 4294967296) then
 bif (inR v1 (List.length r8.2)) then
 bif (Nat.beq (0+(Int.toNat v1)) (0+(Int.toNat v1))) then
 some ((),((r8.1,(List.set r8.2 (0+(Int.toNat v1)) (List.append x2 (List.cons v2 ([]:(List Int)))))),((1:Int),())))
 else none
 else none
 else none
 else none
 else none :=
 (aE C_r15_Take ins_r15_Take outs_r15_Take Tryz.f124 5 ((v1,v2,v32,v33,v34,()),(r3,r6,r8,()),())).trans (by kernel_rfl)
theorem Fn.r15_Take_L8_eq (v1:Int) (v2:Int) (v32:(List (List Int))) (v33:Int) (v34:Int) (v38:(List Int)) (v39:Int) (v40:Int) (r3:Locks) (r6:Locks) (r8:Locks):Fn.r15_Take_L8 ((v1,v2,v32,v33,v34,v38,v39,v40,()),(r3,r6,r8,()),()) =
 bif (decide (v40<v39)) then
 bif (inR v40 (List.length v38)) then
 bif (decide ((List.getD v38 (Int.toNat v40) (0:Int))=v2)) then
 some ((),((r8.1,r8.2),((2:Int),())))
 else
 (Fn.r15_Take_L8 ((v1,(v2,(v32,(v33,(v34,(v38,(v39,((IntKind.wrap .i64 (v40+(1:Int))),())))))))),((r3,(r6,(r8,()))),()))).bind some
 else none
 else
 (Fn.r15_Take_L5 ((v1,(v2,(v32,(v33,((IntKind.wrap .i64 (v34+(1:Int))),()))))),((r3,(r6,(r8,()))),()))).bind some :=
 (aE C_r15_Take ins_r15_Take outs_r15_Take Tryz.f124 8 ((v1,v2,v32,v33,v34,v38,v39,v40,()),(r3,r6,r8,()),())).trans (by kernel_rfl)
def ins_r12_Valid:List Par:=[(ty173,.data)]
def outs_r12_Valid:List Par:=[(ty4,.data)]
def C_r12_Valid:FnC:={ G:=⟨tab,eqs,ctrL [(96,s_r12_Cells)]⟩,nt:=71,mv:=mvL [(0,0),(1,66)],pre:=preL [],cuts:=[],sh:=shL [],anchs:=[] }
def Fn.r12_Valid (x:(Request×Unit)):Option (Unit×(Bool×Unit)):=fO C_r12_Valid ins_r12_Valid outs_r12_Valid Tryz.f126 x
def s_r12_Valid:Sum:=⟨ins_r12_Valid,outs_r12_Valid,Fn.r12_Valid,none⟩
theorem m_r12_Valid:Meets Tryz.prog 126 s_r12_Valid:=meets_fn (C:=C_r12_Valid) (cfg_ok tok eqs_ok ⟨⟨m_r12_Cells,Tryz.call96⟩,trivial⟩) mixed Tryz.func126 rfl rfl rfl (by kernel_rfl) (by kernel_rfl)
theorem Fn.r12_Valid_eq (a0:Request):Fn.r12_Valid (a0,()) =
 lt (bif (bif (bif (bif (bif (bif (bif (bif (bif (bif (bif (decide ((0:Int)≤a0.1)) then (decide (a0.1<(4:Int))) else false) then (decide ((0:Int)≤a0.2.1)) else false) then (decide (a0.2.1≤(3:Int))) else false) then (decide ((0:Int)≤a0.2.2.1)) else false) then (decide (a0.2.2.1≤(6:Int))) else false) then (decide ((0:Int)≤a0.2.2.2.1)) else false) then (decide (a0.2.2.2.1≤(1099511627776:Int))) else false) then (decide ((0:Int)≤a0.2.2.2.2.1)) else false) then (decide (a0.2.2.2.2.1≤(255:Int))) else false) then (decide ((0:Int)≤a0.2.2.2.2.2.1)) else false) then (decide (a0.2.2.2.2.2.1≤(15:Int))) else false) fun x3 =>
 (bif (x3&&true) then (Fn.r12_Cells (a0.2.2.2.2.2.2.1,((3:Int),()))) else (Option.some ((),(false,())))).bind fun y1 =>
 (bif ((bif x3 then y1.2.1 else false)&&true) then (Fn.r12_Cells (a0.2.2.2.2.2.2.2,((16:Int),()))) else (Option.some ((),(false,())))).bind fun y2 =>
 some ((),((bif (bif x3 then y1.2.1 else false) then y2.2.1 else false),())) :=
 (fE C_r12_Valid ins_r12_Valid outs_r12_Valid Tryz.f126 (a0,())).trans (by kernel_rfl)
def ins_r19_Acts:List Par:=[(ty3,.data)]
def outs_r19_Acts:List Par:=[(ty4,.data)]
def C_r19_Acts:FnC:={ G:=⟨tab,eqs,ctrL []⟩,nt:=17,mv:=mvL [],pre:=preL [],cuts:=[],sh:=shL [],anchs:=[] }
def Fn.r19_Acts (x:(Int×Unit)):Option (Unit×(Bool×Unit)):=fO C_r19_Acts ins_r19_Acts outs_r19_Acts Tryz.f130 x
def s_r19_Acts:Sum:=⟨ins_r19_Acts,outs_r19_Acts,Fn.r19_Acts,none⟩
theorem m_r19_Acts:Meets Tryz.prog 130 s_r19_Acts:=meets_fn (C:=C_r19_Acts) (cfg_ok tok eqs_ok trivial) mixed Tryz.func130 rfl rfl rfl (by kernel_rfl) (by kernel_rfl)
theorem Fn.r19_Acts_eq (a0:Int):Fn.r19_Acts (a0,()) =
 some ((),((bif (bif (bif (decide ((1:Int)≤a0)) then (decide (a0≤(7:Int))) else false) then true else (decide (a0=(13:Int)))) then true else (decide (a0=(14:Int)))),())) :=
 (fE C_r19_Acts ins_r19_Acts outs_r19_Acts Tryz.f130 (a0,())).trans (by kernel_rfl)
def ins_r12_Kinds:List Par:=[(ty173,.data)]
def outs_r12_Kinds:List Par:=[(ty4,.data)]
def C_r12_Kinds:FnC:={ G:=⟨tab,eqs,ctrL [(118,s_r12_kinds),(119,s_r12_fits)]⟩,nt:=31,mv:=mvL [(0,0),(4,2),(7,5)],pre:=preL [],cuts:=[5],sh:=shL [(5,⟨[(3,ty9,.data),(16,ty93,.data),(17,ty2,.data),(18,ty2,.data)],[],[],[],[]⟩)],anchs:=[] }
def Fn.r12_Kinds_L5 (d:((ByteArray×((List Canon)×(Int×(Int×Unit))))×(Unit×Unit))):Option (Unit×(Bool×Unit)):=aO C_r12_Kinds ins_r12_Kinds outs_r12_Kinds Tryz.f131 5 d
def Fn.r12_Kinds (x:(Request×Unit)):Option (Unit×(Bool×Unit)):=fO C_r12_Kinds ins_r12_Kinds outs_r12_Kinds Tryz.f131 x
def s_r12_Kinds:Sum:=⟨ins_r12_Kinds,outs_r12_Kinds,Fn.r12_Kinds,none⟩
theorem m_r12_Kinds:Meets Tryz.prog 131 s_r12_Kinds:=meets_fn (C:=C_r12_Kinds) (cfg_ok tok eqs_ok ⟨⟨m_r12_kinds,Tryz.call118⟩,⟨⟨m_r12_fits,Tryz.call119⟩,trivial⟩⟩) mixed Tryz.func131 rfl rfl rfl (by kernel_rfl) (by kernel_rfl)
theorem Fn.r12_Kinds_eq (a0:Request):Fn.r12_Kinds (a0,()) =
 (Fn.r12_kinds (a0.2.2.2.2.2.1,())).bind fun y1 =>
 lt (((List.length a0.2.2.2.2.2.2.1):Nat):Int) fun x2 =>
 bif (!(decide ((((ByteArray.size y1.2.1):Nat):Int)=x2))) then
 some ((),(false,()))
 else
 (Fn.r12_Kinds_L5 ((y1.2.1,(a0.2.2.2.2.2.2.1,(x2,((0:Int),())))),((),()))).bind some :=
 (fE C_r12_Kinds ins_r12_Kinds outs_r12_Kinds Tryz.f131 (a0,())).trans (by kernel_rfl)
theorem Fn.r12_Kinds_L5_eq (v3:ByteArray) (v16:(List Canon)) (v17:Int) (v18:Int):Fn.r12_Kinds_L5 ((v3,v16,v17,v18,()),(),()) =
 bif (decide (v18<v17)) then
 bif (inR v18 (List.length v16)) then
 bif (inR v18 (ByteArray.size v3)) then
 (Fn.r12_fits ((((UInt8.toNat (List.getD (ByteArray.toList v3) (Int.toNat v18) (0:UInt8))):Nat):Int),((List.getD v16 (Int.toNat v18) zCanon).1,()))).bind fun y1 =>
 bif (!y1.2.1) then
 some ((),(false,()))
 else
 (Fn.r12_Kinds_L5 ((v3,(v16,(v17,((IntKind.wrap .i64 (v18+(1:Int))),())))),((),()))).bind some
 else none
 else none
 else
 some ((),(true,())) :=
 (aE C_r12_Kinds ins_r12_Kinds outs_r12_Kinds Tryz.f131 5 ((v3,v16,v17,v18,()),(),())).trans (by kernel_rfl)
def ins_r17_open:List Par:=[(ty78,.data),(ty3,.data)]
def outs_r17_open:List Par:=[(ty4,.data)]
def C_r17_open:FnC:={ G:=⟨tab,eqs,ctrL []⟩,nt:=23,mv:=mvL [(0,0)],pre:=preL [],cuts:=[],sh:=shL [],anchs:=[] }
def Fn.r17_open (x:(Files×(Int×Unit))):Option (Unit×(Bool×Unit)):=fO C_r17_open ins_r17_open outs_r17_open Tryz.f141 x
def s_r17_open:Sum:=⟨ins_r17_open,outs_r17_open,Fn.r17_open,none⟩
theorem m_r17_open:Meets Tryz.prog 141 s_r17_open:=meets_fn (C:=C_r17_open) (cfg_ok tok eqs_ok trivial) mixed Tryz.func141 rfl rfl rfl (by kernel_rfl) (by kernel_rfl)
theorem Fn.r17_open_eq (a0:Files) (a1:Int):Fn.r17_open (a0,a1,()) =
 lt (bif (decide ((0:Int)≤a1)) then (decide (a1<(((List.length a0.2):Nat):Int))) else false) fun x1 =>
 bif ((!(x1&&true))||(inR a1 (List.length a0.2))) then
 some ((),((bif x1 then (!(decide ((List.getD a0.2 (Int.toNat a1) zOpen).1=(-(1:Int))))) else false),()))
 else none :=
 (fE C_r17_open ins_r17_open outs_r17_open Tryz.f141 (a0,a1,())).trans (by kernel_rfl)
def ins_r17_Write:List Par:=[(ty78,.data),(ty3,.data),(ty93,.data)]
def outs_r17_Write:List Par:=[(ty78,.own (.pr (.own none (.own none (.pr .imm (.pr .imm (.pr .imm .imm))))) (.own none (.pr .imm (.pr .imm .imm))))),(ty3,.data),(ty4,.data)]
def C_r17_Write:FnC:={ G:=⟨tab,eqs,ctrL [(96,s_r12_Cells),(104,s_r17_Copy),(141,s_r17_open)]⟩,nt:=108,mv:=mvL [(0,0),(1,3),(3,1),(5,7),(12,6),(14,8),(15,8),(16,2),(6,7)],pre:=preL [],cuts:=[8],sh:=shL [(8,⟨[(2,ty93,.data),(11,ty2,.data),(12,ty93,.own (.own none (.pr .imm (.pr .imm (.pr .imm .imm))))),(57,ty2,.data),(58,ty2,.data)],[(6,6,0),(9,9,0)],[],[(6,ty77,(.pr (.own none (.own none (.pr .imm (.pr .imm (.pr .imm .imm))))) (.own none (.pr .imm (.pr .imm .imm))))),(9,ty77,(.pr (.own (some 0) (.own none (.pr .imm (.pr .imm (.pr .imm .imm))))) (.own none (.pr .imm (.pr .imm .imm)))))],[(10,9,1,3,0)]⟩)],anchs:=[] }
def Fn.r17_Write_L8 (d:(((List Canon)×(Int×((List Canon)×(Int×(Int×Unit)))))×((Files×((Files×Nat)×Unit))×(Nat×Unit)))):Option (Unit×(Files×(Int×(Bool×Unit)))):=aO C_r17_Write ins_r17_Write outs_r17_Write Tryz.f132 8 d
def Fn.r17_Write (x:(Files×(Int×((List Canon)×Unit)))):Option (Unit×(Files×(Int×(Bool×Unit)))):=fO C_r17_Write ins_r17_Write outs_r17_Write Tryz.f132 x
def s_r17_Write:Sum:=⟨ins_r17_Write,outs_r17_Write,Fn.r17_Write,none⟩
theorem m_r17_Write:Meets Tryz.prog 132 s_r17_Write:=meets_fn (C:=C_r17_Write) (cfg_ok tok eqs_ok ⟨⟨m_r12_Cells,Tryz.call96⟩,⟨⟨m_r17_Copy,Tryz.call104⟩,⟨⟨m_r17_open,Tryz.call141⟩,trivial⟩⟩⟩) mixed Tryz.func132 rfl rfl rfl (by kernel_rfl) (by kernel_rfl)
theorem Fn.r17_Write_eq (a0:Files) (a1:Int) (a2:(List Canon)):Fn.r17_Write (a0,a1,a2,()) =
 (Fn.r17_Copy (a0,())).bind fun y1 =>
 (Fn.r17_open (a0,(a1,()))).bind fun y2 =>
 bif ((!((!(!y2.2.1))&&true))||(inR a1 (List.length a0.2))) then
 lt (bif (!y2.2.1) then true else (!(List.getD a0.2 (Int.toNat a1) zOpen).2.2)) fun x4 =>
 (bif ((!x4)&&true) then (Fn.r12_Cells (a2,((((List.length a2):Nat):Int),()))) else (Option.some ((),(false,())))).bind fun y3 =>
 bif (bif x4 then true else (!y3.2.1)) then
 some ((),((y1.2.1.1,y1.2.1.2),((0:Int),(false,()))))
 else
 bif (inR a1 (List.length y1.2.1.2)) then
 lt (List.getD y1.2.1.2 (0+(Int.toNat a1)) zOpen) fun x5 =>
 bif (inR x5.1 (List.length y1.2.1.1)) then
 lt (IntKind.wrap .i64 ((64:Int) - x5.2.1)) fun x6 =>
 lt (if x6<(((List.length a2):Nat):Int) then x6 else (((List.length a2):Nat):Int)) fun x7 =>
 (Fn.r17_Write_L8 ((a2,(x7,((List.getD y1.2.1.1 (0+(Int.toNat x5.1)) ([]:(List Canon))),(x7,((0:Int),()))))),(((([]:(List (List Canon))),([]:(List Open))),(((y1.2.1.1,y1.2.1.2),(0+(Int.toNat x5.1))),())),((0+(Int.toNat a1)),())))).bind some
 else none
 else none
 else none :=
 (fE C_r17_Write ins_r17_Write outs_r17_Write Tryz.f132 (a0,a1,a2,())).trans (by kernel_rfl)
theorem Fn.r17_Write_L8_eq (v2:(List Canon)) (v11:Int) (v12:(List Canon)) (v57:Int) (v58:Int) (r6:Files) (r9:Files) (k9:Nat) (n10:Nat):Fn.r17_Write_L8 ((v2,v11,v12,v57,v58,()),(r6,(r9,k9),()),(n10,())) =
 bif (decide (v58<v57)) then
 lt (List.getD v2 (Int.toNat v58) zCanon) fun x1 =>
 lt (IntKind.wrap .i64 ((List.getD r9.2 n10 zOpen).2.1+v58)) fun x2 =>
 lt (v57,((IntKind.wrap .i64 (v58+(1:Int))),())) fun x3 =>
 bif (decide (x2<(((List.length v12):Nat):Int))) then
 bif (inR v58 (List.length v2)) then
 bif (inR x2 (List.length v12)) then
 (Fn.r17_Write_L8 ((v2,(v11,((List.set v12 (0+(Int.toNat x2)) x1),x3))),((r6,((r9,k9),())),(n10,())))).bind some
 else none
 else none
 else
 bif (inR v58 (List.length v2)) then
 bif (Nat.ble ((List.length v12)+(List.length (List.cons x1 ([]:(List Canon))))) 4294967296) then
 (Fn.r17_Write_L8 ((v2,(v11,((List.append v12 (List.cons x1 ([]:(List Canon)))),x3))),((r6,((r9,k9),())),(n10,())))).bind some
 else none
 else none
 else
 bif (inR (List.getD r9.2 n10 zOpen).1 (List.length r9.1)) then
 bif (Nat.beq k9 (0+(Int.toNat (List.getD r9.2 n10 zOpen).1))) then
 some ((),(((List.set r9.1 (0+(Int.toNat (List.getD r9.2 n10 zOpen).1)) v12),(List.set r9.2 n10 ((List.getD r9.2 n10 zOpen).1,((IntKind.wrap .i64 ((List.getD r9.2 n10 zOpen).2.1+v11)),(List.getD r9.2 n10 zOpen).2.2)))),(v11,(true,()))))
 else none
 else none :=
 (aE C_r17_Write ins_r17_Write outs_r17_Write Tryz.f132 8 ((v2,v11,v12,v57,v58,()),(r6,(r9,k9),()),(n10,()))).trans (by kernel_rfl)
def ins_r17_Read:List Par:=[(ty78,.data),(ty3,.data),(ty3,.data)]
def outs_r17_Read:List Par:=[(ty78,.own (.pr (.own none (.own none (.pr .imm (.pr .imm (.pr .imm .imm))))) (.own none (.pr .imm (.pr .imm .imm))))),(ty93,.own (.own none (.pr .imm (.pr .imm (.pr .imm .imm))))),(ty4,.data)]
def C_r17_Read:FnC:={ G:=⟨tab,eqs,ctrL [(104,s_r17_Copy),(141,s_r17_open)]⟩,nt:=77,mv:=mvL [(0,0),(1,3),(3,1),(6,8),(7,12),(8,8),(9,2)],pre:=preL [],cuts:=[],sh:=shL [],anchs:=[] }
def Fn.r17_Read (x:(Files×(Int×(Int×Unit)))):Option (Unit×(Files×((List Canon)×(Bool×Unit)))):=fO C_r17_Read ins_r17_Read outs_r17_Read Tryz.f133 x
def s_r17_Read:Sum:=⟨ins_r17_Read,outs_r17_Read,Fn.r17_Read,none⟩
theorem m_r17_Read:Meets Tryz.prog 133 s_r17_Read:=meets_fn (C:=C_r17_Read) (cfg_ok tok eqs_ok ⟨⟨m_r17_Copy,Tryz.call104⟩,⟨⟨m_r17_open,Tryz.call141⟩,trivial⟩⟩) mixed Tryz.func133 rfl rfl rfl (by kernel_rfl) (by kernel_rfl)
theorem Fn.r17_Read_eq (a0:Files) (a1:Int) (a2:Int):Fn.r17_Read (a0,a1,a2,()) =
 (Fn.r17_Copy (a0,())).bind fun y1 =>
 (Fn.r17_open (a0,(a1,()))).bind fun y2 =>
 lt (bif (!y2.2.1) then true else (decide (a2<(0:Int)))) fun x3 =>
 bif ((!((!x3)&&true))||(inR a1 (List.length a0.2))) then
 bif (bif x3 then true else (List.getD a0.2 (Int.toNat a1) zOpen).2.2) then
 some ((),((y1.2.1.1,y1.2.1.2),(([]:(List Canon)),(false,()))))
 else
 bif (inR a1 (List.length y1.2.1.2)) then
 lt (List.getD y1.2.1.2 (0+(Int.toNat a1)) zOpen) fun x4 =>
 bif (inR x4.1 (List.length y1.2.1.1)) then
 lt (List.getD y1.2.1.1 (0+(Int.toNat x4.1)) ([]:(List Canon))) fun x5 =>
 lt (IntKind.wrap .i64 ((((List.length x5):Nat):Int) - x4.2.1)) fun x6 =>
 lt (IntKind.wrap .i64 (x4.2.1+(if x6<a2 then x6 else a2))) fun x7 =>
 bif (((decide ((0:Int)≤x4.2.1))&&(decide (x4.2.1≤x7)))&&(decide (x7≤(((List.length x5):Nat):Int)))) then
 lt (List.take ((Int.toNat x7) - (Int.toNat x4.2.1)) (List.drop (Int.toNat x4.2.1) x5)) fun x8 =>
 bif (Nat.ble ((List.length ([]:(List Canon)))+(List.length x8)) 4294967296) then
 some ((),((y1.2.1.1,(List.set y1.2.1.2 (0+(Int.toNat a1)) (x4.1,(x7,x4.2.2)))),((List.append ([]:(List Canon)) x8),(true,()))))
 else none
 else none
 else none
 else none
 else none :=
 (fE C_r17_Read ins_r17_Read outs_r17_Read Tryz.f133 (a0,a1,a2,())).trans (by kernel_rfl)
def ins_r17_Open:List Par:=[(ty78,.data),(ty3,.data),(ty3,.data)]
def outs_r17_Open:List Par:=[(ty78,.own (.pr (.own none (.own none (.pr .imm (.pr .imm (.pr .imm .imm))))) (.own none (.pr .imm (.pr .imm .imm))))),(ty3,.data)]
def C_r17_Open:FnC:={ G:=⟨tab,eqs,ctrL [(104,s_r17_Copy)]⟩,nt:=103,mv:=mvL [(0,0),(1,3),(5,21),(6,1),(15,8),(17,11),(18,2)],pre:=preL [],cuts:=[3,10,14,15],sh:=shL [(3,⟨[(1,ty2,.data),(2,ty2,.data),(9,ty2,.data)],[(3,3,0),(6,6,0),(8,8,0)],[],[(3,ty77,.imm),(6,ty77,(.pr (.own none (.own none (.pr .imm (.pr .imm (.pr .imm .imm))))) (.own none (.pr .imm (.pr .imm .imm))))),(8,ty77,(.pr (.own none (.own none (.pr .imm (.pr .imm (.pr .imm .imm))))) (.own none (.pr .imm (.pr .imm .imm)))))],[]⟩),(10,⟨[(1,ty2,.data),(2,ty2,.data),(9,ty2,.data),(62,ty2,.data),(63,ty2,.data)],[(6,6,0),(8,8,0)],[],[(6,ty77,(.pr (.own none (.own none (.pr .imm (.pr .imm (.pr .imm .imm))))) (.own none (.pr .imm (.pr .imm .imm))))),(8,ty77,(.pr (.own none (.own none (.pr .imm (.pr .imm (.pr .imm .imm))))) (.own none (.pr .imm (.pr .imm .imm)))))],[]⟩),(14,⟨[(1,ty2,.data),(2,ty2,.data),(9,ty2,.data),(62,ty2,.data),(63,ty2,.data)],[(6,6,0),(8,8,0)],[],[(6,ty77,(.pr (.own none (.own none (.pr .imm (.pr .imm (.pr .imm .imm))))) (.own none (.pr .imm (.pr .imm .imm))))),(8,ty77,(.pr (.own none (.own none (.pr .imm (.pr .imm (.pr .imm .imm))))) (.own none (.pr .imm (.pr .imm .imm)))))],[]⟩),(15,⟨[(1,ty2,.data),(2,ty2,.data),(9,ty2,.data)],[(6,6,0),(8,8,0)],[],[(6,ty77,(.pr (.own none (.own none (.pr .imm (.pr .imm (.pr .imm .imm))))) (.own none (.pr .imm (.pr .imm .imm))))),(8,ty77,(.pr (.own none (.own none (.pr .imm (.pr .imm (.pr .imm .imm))))) (.own none (.pr .imm (.pr .imm .imm)))))],[]⟩)],anchs:=[] }
def Fn.r17_Open_L3 (d:((Int×(Int×(Int×Unit)))×((Files×(Files×(Files×Unit)))×Unit))):Option (Unit×(Files×(Int×Unit))):=aO C_r17_Open ins_r17_Open outs_r17_Open Tryz.f134 3 d
def Fn.r17_Open_L10 (d:((Int×(Int×(Int×(Int×(Int×Unit)))))×((Files×(Files×Unit))×Unit))):Option (Unit×(Files×(Int×Unit))):=aO C_r17_Open ins_r17_Open outs_r17_Open Tryz.f134 10 d
def Fn.r17_Open_L14 (d:((Int×(Int×(Int×(Int×(Int×Unit)))))×((Files×(Files×Unit))×Unit))):Option (Unit×(Files×(Int×Unit))):=aO C_r17_Open ins_r17_Open outs_r17_Open Tryz.f134 14 d
def Fn.r17_Open_L15 (d:((Int×(Int×(Int×Unit)))×((Files×(Files×Unit))×Unit))):Option (Unit×(Files×(Int×Unit))):=aO C_r17_Open ins_r17_Open outs_r17_Open Tryz.f134 15 d
def Fn.r17_Open (x:(Files×(Int×(Int×Unit)))):Option (Unit×(Files×(Int×Unit))):=fO C_r17_Open ins_r17_Open outs_r17_Open Tryz.f134 x
def s_r17_Open:Sum:=⟨ins_r17_Open,outs_r17_Open,Fn.r17_Open,none⟩
theorem m_r17_Open:Meets Tryz.prog 134 s_r17_Open:=meets_fn (C:=C_r17_Open) (cfg_ok tok eqs_ok ⟨⟨m_r17_Copy,Tryz.call104⟩,trivial⟩) mixed Tryz.func134 rfl rfl rfl (by kernel_rfl) (by kernel_rfl)
theorem Fn.r17_Open_eq (a0:Files) (a1:Int) (a2:Int):Fn.r17_Open (a0,a1,a2,()) =
 (Fn.r17_Copy (a0,())).bind fun y1 =>
 (Fn.r17_Open_L3 ((a1,(a2,((0:Int),()))),((a0,((([]:(List (List Canon))),([]:(List Open))),((y1.2.1.1,y1.2.1.2),()))),()))).bind some :=
 (fE C_r17_Open ins_r17_Open outs_r17_Open Tryz.f134 (a0,a1,a2,())).trans (by kernel_rfl)
theorem Fn.r17_Open_L3_eq (v1:Int) (v2:Int) (v9:Int) (r3:Files) (r6:Files) (r8:Files):Fn.r17_Open_L3 ((v1,v2,v9,()),(r3,r6,r8,()),()) =
 bif ((!((decide (v9<(((List.length r3.2):Nat):Int)))&&true))||(inR v9 (List.length r3.2))) then
 bif (bif (decide (v9<(((List.length r3.2):Nat):Int))) then (!(decide ((List.getD r3.2 (Int.toNat v9) zOpen).1=(-(1:Int))))) else false) then
 (Fn.r17_Open_L3 ((v1,(v2,((IntKind.wrap .i64 (v9+(1:Int))),()))),((r3,(r6,(r8,()))),()))).bind some
 else
 bif (bif (bif (bif (bif (decide (v1<(0:Int))) then true else (decide ((((List.length r3.1):Nat):Int)≤v1))) then true else (decide (v2<(0:Int)))) then true else (decide ((2:Int)<v2))) then true else (decide (v9=(((List.length r3.2):Nat):Int)))) then
 some ((),((r8.1,r8.2),((-(1:Int)),())))
 else
 bif (decide (v2=(1:Int))) then
 bif (inR v1 (List.length r8.1)) then
 (Fn.r17_Open_L10 ((v1,(v2,(v9,((((List.length r8.2):Nat):Int),((0:Int),()))))),((r6,(((List.set r8.1 (0+(Int.toNat v1)) ([]:(List Canon))),r8.2),())),()))).bind some
 else none
 else
 (Fn.r17_Open_L15 ((v1,(v2,(v9,()))),((r6,(r8,())),()))).bind some
 else none :=
 (aE C_r17_Open ins_r17_Open outs_r17_Open Tryz.f134 3 ((v1,v2,v9,()),(r3,r6,r8,()),())).trans (by kernel_rfl)
theorem Fn.r17_Open_L10_eq (v1:Int) (v2:Int) (v9:Int) (v62:Int) (v63:Int) (r6:Files) (r8:Files):Fn.r17_Open_L10 ((v1,v2,v9,v62,v63,()),(r6,r8,()),()) =
 bif (decide (v63<v62)) then
 bif (inR v63 (List.length r8.2)) then
 lt (List.getD r8.2 (0+(Int.toNat v63)) zOpen) fun x1 =>
 bif (decide (x1.1=v1)) then
 bif (inR v63 (List.length r8.2)) then
 (Fn.r17_Open_L14 ((v1,(v2,(v9,(v62,(v63,()))))),((r6,((r8.1,(List.set r8.2 (0+(Int.toNat v63)) (x1.1,((0:Int),x1.2.2)))),())),()))).bind some
 else none
 else
 (Fn.r17_Open_L14 ((v1,(v2,(v9,(v62,(v63,()))))),((r6,(r8,())),()))).bind some
 else none
 else
 (Fn.r17_Open_L15 ((v1,(v2,(v9,()))),((r6,(r8,())),()))).bind some :=
 (aE C_r17_Open ins_r17_Open outs_r17_Open Tryz.f134 10 ((v1,v2,v9,v62,v63,()),(r6,r8,()),())).trans (by kernel_rfl)
theorem Fn.r17_Open_L14_eq (v1:Int) (v2:Int) (v9:Int) (v62:Int) (v63:Int) (r6:Files) (r8:Files):Fn.r17_Open_L14 ((v1,v2,v9,v62,v63,()),(r6,r8,()),()) =
 (Fn.r17_Open_L10 ((v1,(v2,(v9,(v62,((IntKind.wrap .i64 (v63+(1:Int))),()))))),((r6,(r8,())),()))).bind some :=
 (aE C_r17_Open ins_r17_Open outs_r17_Open Tryz.f134 14 ((v1,v2,v9,v62,v63,()),(r6,r8,()),())).trans (by kernel_rfl)
theorem Fn.r17_Open_L15_eq (v1:Int) (v2:Int) (v9:Int) (r6:Files) (r8:Files):Fn.r17_Open_L15 ((v1,v2,v9,()),(r6,r8,()),()) =
 bif (inR v9 (List.length r8.2)) then
 lt (List.set r8.2 (0+(Int.toNat v9)) (v1,((0:Int),(decide ((0:Int)<v2))))) fun x1 =>
 bif (decide (v2=(2:Int))) then
 bif (inR v1 (List.length r8.1)) then
 bif (inR v9 (List.length x1)) then
 lt (List.getD x1 (0+(Int.toNat v9)) zOpen) fun x2 =>
 some ((),((r8.1,(List.set x1 (0+(Int.toNat v9)) (x2.1,((((List.length (List.getD r8.1 (0+(Int.toNat v1)) ([]:(List Canon)))):Nat):Int),x2.2.2)))),(v9,())))
 else none
 else none
 else
 some ((),((r8.1,x1),(v9,())))
 else none :=
 (aE C_r17_Open ins_r17_Open outs_r17_Open Tryz.f134 15 ((v1,v2,v9,()),(r6,r8,()),())).trans (by kernel_rfl)
def ins_r17_Close:List Par:=[(ty78,.data),(ty3,.data)]
def outs_r17_Close:List Par:=[(ty78,.own (.pr (.own none (.own none (.pr .imm (.pr .imm (.pr .imm .imm))))) (.own none (.pr .imm (.pr .imm .imm))))),(ty4,.data)]
def C_r17_Close:FnC:={ G:=⟨tab,eqs,ctrL [(104,s_r17_Copy),(141,s_r17_open)]⟩,nt:=20,mv:=mvL [(0,0),(1,3),(3,1),(4,5),(5,1)],pre:=preL [],cuts:=[],sh:=shL [],anchs:=[] }
def Fn.r17_Close (x:(Files×(Int×Unit))):Option (Unit×(Files×(Bool×Unit))):=fO C_r17_Close ins_r17_Close outs_r17_Close Tryz.f135 x
def s_r17_Close:Sum:=⟨ins_r17_Close,outs_r17_Close,Fn.r17_Close,none⟩
theorem m_r17_Close:Meets Tryz.prog 135 s_r17_Close:=meets_fn (C:=C_r17_Close) (cfg_ok tok eqs_ok ⟨⟨m_r17_Copy,Tryz.call104⟩,⟨⟨m_r17_open,Tryz.call141⟩,trivial⟩⟩) mixed Tryz.func135 rfl rfl rfl (by kernel_rfl) (by kernel_rfl)
theorem Fn.r17_Close_eq (a0:Files) (a1:Int):Fn.r17_Close (a0,a1,()) =
 (Fn.r17_Copy (a0,())).bind fun y1 =>
 (Fn.r17_open (a0,(a1,()))).bind fun y2 =>
 bif (!y2.2.1) then
 some ((),((y1.2.1.1,y1.2.1.2),(false,())))
 else
 bif (inR a1 (List.length y1.2.1.2)) then
 some ((),((y1.2.1.1,(List.set y1.2.1.2 (0+(Int.toNat a1)) ((-(1:Int)),((0:Int),false)))),(true,())))
 else none :=
 (fE C_r17_Close ins_r17_Close outs_r17_Close Tryz.f135 (a0,a1,())).trans (by kernel_rfl)
def ins_r17_Seek:List Par:=[(ty78,.data),(ty3,.data),(ty3,.data)]
def outs_r17_Seek:List Par:=[(ty78,.own (.pr (.own none (.own none (.pr .imm (.pr .imm (.pr .imm .imm))))) (.own none (.pr .imm (.pr .imm .imm))))),(ty4,.data)]
def C_r17_Seek:FnC:={ G:=⟨tab,eqs,ctrL [(104,s_r17_Copy),(141,s_r17_open)]⟩,nt:=42,mv:=mvL [(0,0),(1,3),(2,20),(3,1),(4,6),(5,1)],pre:=preL [],cuts:=[],sh:=shL [],anchs:=[] }
def Fn.r17_Seek (x:(Files×(Int×(Int×Unit)))):Option (Unit×(Files×(Bool×Unit))):=fO C_r17_Seek ins_r17_Seek outs_r17_Seek Tryz.f136 x
def s_r17_Seek:Sum:=⟨ins_r17_Seek,outs_r17_Seek,Fn.r17_Seek,none⟩
theorem m_r17_Seek:Meets Tryz.prog 136 s_r17_Seek:=meets_fn (C:=C_r17_Seek) (cfg_ok tok eqs_ok ⟨⟨m_r17_Copy,Tryz.call104⟩,⟨⟨m_r17_open,Tryz.call141⟩,trivial⟩⟩) mixed Tryz.func136 rfl rfl rfl (by kernel_rfl) (by kernel_rfl)
theorem Fn.r17_Seek_eq (a0:Files) (a1:Int) (a2:Int):Fn.r17_Seek (a0,a1,a2,()) =
 (Fn.r17_Copy (a0,())).bind fun y1 =>
 (Fn.r17_open (a0,(a1,()))).bind fun y2 =>
 lt (bif (!y2.2.1) then true else (decide (a2<(0:Int)))) fun x3 =>
 bif ((!((!x3)&&true))||(inR a1 (List.length a0.2))) then
 bif ((!((!x3)&&true))||(inR (List.getD a0.2 (Int.toNat a1) zOpen).1 (List.length a0.1))) then
 bif (bif x3 then true else (decide ((((List.length (List.getD a0.1 (Int.toNat (List.getD a0.2 (Int.toNat a1) zOpen).1) ([]:(List Canon)))):Nat):Int)<a2))) then
 some ((),((y1.2.1.1,y1.2.1.2),(false,())))
 else
 bif (inR a1 (List.length y1.2.1.2)) then
 lt (List.getD y1.2.1.2 (0+(Int.toNat a1)) zOpen) fun x4 =>
 some ((),((y1.2.1.1,(List.set y1.2.1.2 (0+(Int.toNat a1)) (x4.1,(a2,x4.2.2)))),(true,())))
 else none
 else none
 else none :=
 (fE C_r17_Seek ins_r17_Seek outs_r17_Seek Tryz.f136 (a0,a1,a2,())).trans (by kernel_rfl)
def ins_r18_Send:List Par:=[(ty79,.data),(ty3,.data),(ty93,.data)]
def outs_r18_Send:List Par:=[(ty79,.own (.own none (.pr .imm (.pr .imm (.own none (.pr .imm (.pr .imm (.pr .imm .imm)))))))),(ty3,.data),(ty4,.data)]
def C_r18_Send:FnC:={ G:=⟨tab,eqs,ctrL [(105,s_r18_Copy)]⟩,nt:=40,mv:=mvL [(4,10),(4,8),(4,7),(4,6),(4,2)],pre:=preL [],cuts:=[],sh:=shL [],anchs:=[] }
def Fn.r18_Send (x:((List Output)×(Int×((List Canon)×Unit)))):Option (Unit×((List Output)×(Int×(Bool×Unit)))):=fO C_r18_Send ins_r18_Send outs_r18_Send Tryz.f137 x
def s_r18_Send:Sum:=⟨ins_r18_Send,outs_r18_Send,Fn.r18_Send,none⟩
theorem m_r18_Send:Meets Tryz.prog 137 s_r18_Send:=meets_fn (C:=C_r18_Send) (cfg_ok tok eqs_ok ⟨⟨m_r18_Copy,Tryz.call105⟩,trivial⟩) mixed Tryz.func137 rfl rfl rfl (by kernel_rfl) (by kernel_rfl)
theorem Fn.r18_Send_eq (a0:(List Output)) (a1:Int) (a2:(List Canon)):Fn.r18_Send (a0,a1,a2,()) =
 (Fn.r18_Copy (a0,())).bind fun y1 =>
 bif (bif (bif (bif (decide (a1<(0:Int))) then true else (decide ((2:Int)≤a1))) then true else (decide ((200:Int)≤(((List.length a0):Nat):Int)))) then true else (decide ((16:Int)<(((List.length a2):Nat):Int)))) then
 some ((),(y1.2.1,((0:Int),(false,()))))
 else
 bif (Nat.ble ((List.length ([]:(List Canon)))+(List.length a2)) 4294967296) then
 lt (List.cons ((((List.length a0):Nat):Int),(a1,(List.append ([]:(List Canon)) a2))) ([]:(List Output))) fun x2 =>
 bif (Nat.ble ((List.length y1.2.1)+(List.length x2)) 4294967296) then
 some ((),((List.append y1.2.1 x2),((((List.length a2):Nat):Int),(true,()))))
 else none
 else none :=
 (fE C_r18_Send ins_r18_Send outs_r18_Send Tryz.f137 (a0,a1,a2,())).trans (by kernel_rfl)
def ins_r18_Receive:List Par:=[(ty36,.data),(ty3,.data),(ty3,.data)]
def outs_r18_Receive:List Par:=[(ty36,.own (.own none .imm)),(ty93,.own (.own none (.pr .imm (.pr .imm (.pr .imm .imm))))),(ty4,.data)]
def C_r18_Receive:FnC:={ G:=⟨tab,eqs,ctrL [(103,s_r18_CopyInputs)]⟩,nt:=64,mv:=mvL [(4,6),(9,4),(9,3),(9,2),(11,9)],pre:=preL [],cuts:=[7],sh:=shL [(7,⟨[(1,ty2,.data),(9,ty36,.own (.own none (.own none .imm))),(10,ty2,.data),(11,ty93,.own (.own none (.pr .imm (.pr .imm (.pr .imm .imm))))),(41,ty74,.data),(42,ty2,.data),(43,ty2,.data)],[],[],[],[]⟩)],anchs:=[] }
def Fn.r18_Receive_L7 (d:((Int×((List (List Int))×(Int×((List Canon)×((List Int)×(Int×(Int×Unit)))))))×(Unit×Unit))):Option (Unit×((List (List Int))×((List Canon)×(Bool×Unit)))):=aO C_r18_Receive ins_r18_Receive outs_r18_Receive Tryz.f138 7 d
def Fn.r18_Receive (x:((List (List Int))×(Int×(Int×Unit)))):Option (Unit×((List (List Int))×((List Canon)×(Bool×Unit)))):=fO C_r18_Receive ins_r18_Receive outs_r18_Receive Tryz.f138 x
def s_r18_Receive:Sum:=⟨ins_r18_Receive,outs_r18_Receive,Fn.r18_Receive,none⟩
theorem m_r18_Receive:Meets Tryz.prog 138 s_r18_Receive:=meets_fn (C:=C_r18_Receive) (cfg_ok tok eqs_ok ⟨⟨m_r18_CopyInputs,Tryz.call103⟩,trivial⟩) mixed Tryz.func138 rfl rfl rfl (by kernel_rfl) (by kernel_rfl)
theorem Fn.r18_Receive_eq (a0:(List (List Int))) (a1:Int) (a2:Int):Fn.r18_Receive (a0,a1,a2,()) =
 (Fn.r18_CopyInputs (a0,())).bind fun y1 =>
 bif (bif (bif (decide (a1<(0:Int))) then true else (decide ((((List.length a0):Nat):Int)≤a1))) then true else (decide (a2<(0:Int)))) then
 some ((),(y1.2.1,(([]:(List Canon)),(false,()))))
 else
 bif (inR a1 (List.length a0)) then
 bif (inR a1 (List.length a0)) then
 lt (List.getD a0 (Int.toNat a1) ([]:(List Int))) fun x2 =>
 lt (if (((List.length x2):Nat):Int)<a2 then (((List.length x2):Nat):Int) else a2) fun x3 =>
 bif (((decide ((0:Int)≤(0:Int)))&&(decide ((0:Int)≤x3)))&&(decide (x3≤(((List.length x2):Nat):Int)))) then
 lt (List.take ((Int.toNat x3) - (Int.toNat (0:Int))) (List.drop (Int.toNat (0:Int)) x2)) fun x4 =>
 (Fn.r18_Receive_L7 ((a1,(y1.2.1,(x3,(([]:(List Canon)),(x4,((((List.length x4):Nat):Int),((0:Int),()))))))),((),()))).bind some
 else none
 else none
 else none :=
 (fE C_r18_Receive ins_r18_Receive outs_r18_Receive Tryz.f138 (a0,a1,a2,())).trans (by kernel_rfl)
theorem Fn.r18_Receive_L7_eq (v1:Int) (v9:(List (List Int))) (v10:Int) (v11:(List Canon)) (v41:(List Int)) (v42:Int) (v43:Int):Fn.r18_Receive_L7 ((v1,v9,v10,v11,v41,v42,v43,()),(),()) =
 bif (decide (v43<v42)) then
 bif (inR v43 (List.length v41)) then
 lt (List.cons ((0:Int),((List.getD v41 (Int.toNat v43) (0:Int)),((0:Int),(0:Int)))) ([]:(List Canon))) fun x1 =>
 bif (Nat.ble ((List.length v11)+(List.length x1)) 4294967296) then
 (Fn.r18_Receive_L7 ((v1,(v9,(v10,((List.append v11 x1),(v41,(v42,((IntKind.wrap .i64 (v43+(1:Int))),()))))))),((),()))).bind some
 else none
 else none
 else
 bif (inR v1 (List.length v9)) then
 lt (List.getD v9 (0+(Int.toNat v1)) ([]:(List Int))) fun x2 =>
 bif (((decide ((0:Int)≤v10))&&(decide (v10≤(((List.length x2):Nat):Int))))&&(decide ((((List.length x2):Nat):Int)≤(((List.length x2):Nat):Int)))) then
 bif (inR v1 (List.length v9)) then
 some ((),((List.set v9 (0+(Int.toNat v1)) (List.take ((Int.toNat (((List.length x2):Nat):Int)) - (Int.toNat v10)) (List.drop (Int.toNat v10) x2))),(v11,(true,()))))
 else none
 else none
 else none :=
 (aE C_r18_Receive ins_r18_Receive outs_r18_Receive Tryz.f138 7 ((v1,v9,v10,v11,v41,v42,v43,()),(),())).trans (by kernel_rfl)
end
end Go.Rd
