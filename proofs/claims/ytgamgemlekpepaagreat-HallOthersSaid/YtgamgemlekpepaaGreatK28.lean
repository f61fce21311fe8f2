/-
  The function narthex/node.first, lent own memory. Written by a program of ours (lb.py). No statement of the seat is proved here.
-/
import Derived.Test.YtgamgemlekpepaaGreatK23
import Derived.Test.YtgamgemlekpepaaGreatK24
set_option maxRecDepth 100000
set_option maxHeartbeats 40000000
namespace Go.Proofs.YtgamgemlekpepaaGreat
namespace NX
open Go
noncomputable section
def Zgt (_x1 _x2:Int) (_x3 _x4:Int) (_x5:List SX) (_x6:List Int) (x7:List SE) (_x8:List KE) (_x9:List Int) (_x10:List KE):Option (SE×Bool):=
 ifb (decide ((ln SE.row x7)=0)) (
 some ((SE.mk 0 (([]:List Int)) 0 0),false)) (
 (at_ x7 0).bind fun x11=>
 some (x11,true))
theorem Zht {x1 x2 x3 x4 x5 x6 x7 x8 x9 x10 r} (h:Zgt x1 x2 x3 x4 x5 x6 x7 x8 x9 x10=some r):FTx 110 [.agg [.iv x1,.iv x2,.osl 0,.iv x3,.osl 1,.iv x4,.osl 2,.osl 3,.osl 4,.osl 5]] [] [Z5k x5,Sq4 x6,Z3k x7,Z6k x8,Sq4 x9,Z6k x10] (.tup [.agg [.iv r.1.ID,Sp1 r.1.NE,.iv r.1.SS,.iv r.1.Age],.bv r.2]) [] [Z5k x5,Sq4 x6,Z3k x7,Z6k x8,Sq4 x9,Z6k x10]:=by
 refine Ft Zbn fun w0 M0=>?_;have ok:=Zbn;rw [Zgt] at h;refine Vg 15 ?_;refine MI h (fun h=>?_) fun h=>?_
 ·exact W
 ·refine Vg 6 ?_;have ⟨x11,ex11,h⟩:=Bs h;refine Zee SE.row ex11 trivial rfl rfl rfl (Zne SE.row ex11 trivial rfl rfl rfl ?_);exact W
def Zit:Int→Option (Bool×Int)
| x15=>some (decide (x15=0),x15)
def Zjt (x2 x7:Int):Bool→Option (Bool×Int)
| x14=>
 ifb x14 (
 Zit x2) (
 Zit x7)
def Zkt (x1:Bool) (x2:Int) (_x3 _x4:Int) (_x5 _x6 x7:Int) (_x8:List SX) (_x9:List Int) (_x10:List SE) (_x11:List KE) (_x12:List Int) (_x13:List KE):Option (Bool×Int):=
 ifb (decide (x7=0)) (
 (Zjt x2 x7) (!x1)) (
 (Zjt x2 x7) false)
theorem Zlt {x1 x2 x3 x4 x5 x6 x7 x8 x9 x10 x11 x12 x13 r} (h:Zkt x1 x2 x3 x4 x5 x6 x7 x8 x9 x10 x11 x12 x13=some r):FTx 69 [.ptr 0 0,.bv x1,.iv x2] [some ⟨138,[.iv x3,.iv x4,.osl 0,.iv x5,.osl 1,.iv x6,.osl 2,.osl 3,.osl 4,.osl 5,.nl,.nl,.iv x7]⟩] [Z5k x8,Sq4 x9,Z3k x10,Z6k x11,Sq4 x12,Z6k x13] (.bv r.1) [some ⟨138,[.iv x3,.iv x4,.osl 0,.iv x5,.osl 1,.iv x6,.osl 2,.osl 3,.osl 4,.osl 5,.nl,.nl,.iv r.2]⟩] [Z5k x8,Sq4 x9,Z3k x10,Z6k x11,Sq4 x12,Z6k x13]:=by
 refine Ft Z1n fun w0 M0=>?_;have ok:=Z1n;rw [Zkt] at h;refine Vg 13 ?_;refine Vk [0,1,1,1] (fun x14=>[(15,.bv x14)]) (Zjt x2 x7) r ?_ fun J1=>?_
 ·intro x14 h;rw [Zjt] at h;refine Vm [0,1] (fun x15=>([],[(0,12,.iv x15)],[],[])) Zit r ?_ fun J2=>?_
  ·intro x15 h;rw [Zit] at h;exact W
  ·exact W
 ·exact W
def Zmt:Int→Option (Bool×Int)
| x14=>some (decide (x14=0),x14)
def Znt (x1 x6:Int):Bool→Option (Bool×Int)
| x13=>
 ifb x13 (
 Zmt x1) (
 Zmt x6)
def Zot (x1 _x2:Int) (_x3 _x4:Int) (_x5 x6:Int) (_x7:List SX) (_x8:List Int) (_x9:List SE) (_x10:List KE) (_x11:List Int) (_x12:List KE):Option (Bool×Int):=
 ifb (decide (x6=0)) (
 (Znt x1 x6) true) (
 (Znt x1 x6) false)
theorem Zpt {x1 x2 x3 x4 x5 x6 x7 x8 x9 x10 x11 x12 r} (h:Zot x1 x2 x3 x4 x5 x6 x7 x8 x9 x10 x11 x12=some r):FTx 69 [.ptr 0 0,.ff,.iv x1] [some ⟨138,[.iv x2,.iv x3,.osl 0,.iv x4,.osl 1,.iv x5,.osl 2,.osl 3,.osl 4,.osl 5,.nl,.nl,.iv x6]⟩] [Z5k x7,Sq4 x8,Z3k x9,Z6k x10,Sq4 x11,Z6k x12] (.bv r.1) [some ⟨138,[.iv x2,.iv x3,.osl 0,.iv x4,.osl 1,.iv x5,.osl 2,.osl 3,.osl 4,.osl 5,.nl,.nl,.iv r.2]⟩] [Z5k x7,Sq4 x8,Z3k x9,Z6k x10,Sq4 x11,Z6k x12]:=by
 refine Ft Z1n fun w0 M0=>?_;have ok:=Z1n;rw [Zot] at h;refine Vg 13 ?_;refine Vk [0,1,1,1] (fun x13=>[(15,.bv x13)]) (Znt x1 x6) r ?_ fun J1=>?_
 ·intro x13 h;rw [Znt] at h;refine Vm [0,1] (fun x14=>([],[(0,12,.iv x14)],[],[])) Zmt r ?_ fun J2=>?_
  ·intro x14 h;rw [Zmt] at h;exact W
  ·exact W
 ·exact W
def Zqt (x1:node_node) (x2:Int):Option Int:=
 (Zkk x1.NO.DK.DI.SD ((fun z=>Zsn z x2))).bind fun x3=>
 some x3
theorem Zrt {x1 x2 r} (h:Zqt x1 x2=some r):FPx 66 [.elt (node_node.row x1) 0,.iv x2] (.iv r):=by have ok:=oJ 66 Tryz.f66 [.t 4] 2 12;refine FP ok fun w0 H0=>?_;rw [Zqt] at h;refine Vg 15 ?_;refine VN (LR.block 0 rfl rfl) h (fun e=>Zlk e ⟨by kernel_rfl,rfl,fun z r hz=>Ztn hz⟩) fun _ _ h=>?_;exact W
@[go_sem] def e176:EC:=eQ Tryz.f176
theorem Zst:FnOK Tryz.prog 176 Tryz.f176 e176 [.t 4] 2 40:=okA
def Ztt (x1 x2:Int) (x3 _x4:Int) (_x5 _x6 _x7:Int) (_x8:List SX) (_x9:List Int) (_x10:List SE) (_x11:List KE) (_x12:List Int) (_x13:List KE):Option (List EV):=
 (Z8c 56 [] ([EV.mk x1 x3 0 x2 (([]:List Int))])).bind fun x14=>
 some x14
theorem Zut {x1 x2 x3 x4 x5 x6 x7 x8 x9 x10 x11 x12 x13 r} (h:Ztt x1 x2 x3 x4 x5 x6 x7 x8 x9 x10 x11 x12 x13=some r):FTx 81 [.ptr 0 0,.iv x1,.iv x2] [some ⟨138,[.iv x3,.iv x4,.osl 0,.iv x5,.osl 1,.iv x6,.osl 2,.osl 3,.osl 4,.osl 5,.nl,.nl,.iv x7]⟩] [Z5k x8,Sq4 x9,Z3k x10,Z6k x11,Sq4 x12,Z6k x13] (.tup []) [some ⟨138,[.iv x3,.iv x4,.osl 0,.iv x5,.osl 1,.iv x6,.osl 2,.osl 3,.osl 4,.osl 5,.nl,.osl 7,.iv x7]⟩] [Z5k x8,Sq4 x9,Z3k x10,Z6k x11,Sq4 x12,Z6k x13,none,Z8k r]:=by refine Ft Zun fun w0 M0=>?_;have ok:=Zun;rw [Ztt] at h;refine Zgj fun all H=>Ds (GP H 14 6 [14,6] [(6,[.ptr 0 0,.ptr 0 0,.ptr 0 0,.ptr 0 11,.nl,.iv x1,.ptr 0 0,.ptr 0 0,.ptr 0 0,.ptr 0 0,.ptr 0 0,.ptr 0 0,.iv x3,.iv x2])] (Ds ?_));refine Zna 14 rfl (Zzf (.agg [.iv x1,.iv x3,.iv 0,.iv x2,Sp1 (([]:List Int))]) H.1 rfl trivial (by simp [go_sem]) (Ds ?_));refine R1 ?_;refine Zna 16 rfl ?_;have ⟨x14,ex14,h⟩:=Bs h;refine Zoc EV.row ex14 H.1 rfl trivial rfl rfl ?_;refine Gn H 2 1 ?_;refine R1 ?_;refine GD ?_;exact W
def Zvt (_x1 _x2:Int) (_x3 _x4:Int) (x5:List SE) (_x6:List SX) (_x7:List Int) (_x8:List KE) (_x9:List Int) (_x10:List KE):Option (SE×Bool):=
 ifb (decide ((ln SE.row x5)=0)) (
 some ((SE.mk 0 (([]:List Int)) 0 0),false)) (
 (at_ x5 0).bind fun x11=>
 some (x11,true))
theorem Zwt {x1 x2 x3 x4 x5 x6 x7 x8 x9 x10 r} (h:Zvt x1 x2 x3 x4 x5 x6 x7 x8 x9 x10=some r):FTx 110 [.agg [.iv x1,.iv x2,.osl 0,.iv x3,.osl 1,.iv x4,Sp5 x5,.osl 2,.osl 3,.osl 4]] [] [Z5k x6,Sq4 x7,Z6k x8,Sq4 x9,Z6k x10] (.tup [.agg [.iv r.1.ID,Sp1 r.1.NE,.iv r.1.SS,.iv r.1.Age],.bv r.2]) [] [Z5k x6,Sq4 x7,Z6k x8,Sq4 x9,Z6k x10]:=by refine Ft Zbn fun w0 M0=>?_;have ok:=Zbn;rw [Zvt] at h;exact W
def Zxt (x1 x2:Int) (x3 _x4:Int) (_x5 _x6:Int) (_x7:List SE) (_x8:Int) (_x9:List SX) (_x10:List Int) (_x11:List KE) (_x12:List Int) (_x13:List KE) (x14:List EV):Option (List EV):=
 (Z8c 56 x14 ([EV.mk x1 x3 x2 0 (([]:List Int))])).bind fun x15=>
 some x15
theorem Zyt {x1 x2 x3 x4 x5 x6 x7 x8 x9 x10 x11 x12 x13 x14 r} (h:Zxt x1 x2 x3 x4 x5 x6 x7 x8 x9 x10 x11 x12 x13 x14=some r):FTx 125 [.ptr 0 0,.iv x1,.iv x2] [some ⟨138,[.iv x3,.iv x4,.osl 0,.iv x5,.osl 1,.iv x6,Sp5 x7,.osl 2,.osl 3,.osl 4,.nl,.osl 5,.iv x8]⟩] [Z5k x9,Sq4 x10,Z6k x11,Sq4 x12,Z6k x13,Z8k x14] (.tup []) [some ⟨138,[.iv x3,.iv x4,.osl 0,.iv x5,.osl 1,.iv x6,Sp5 x7,.osl 2,.osl 3,.osl 4,.nl,.osl 7,.iv x8]⟩] [Z5k x9,Sq4 x10,Z6k x11,Sq4 x12,Z6k x13,none,none,Z8k r]:=by
 refine Ft Zan fun w0 M0=>?_;have ok:=Zan;rw [Zxt] at h;refine Zgj fun all H=>Ds (GP H 13 7 [4,1,9,6] [(6,[.ptr 0 0,.ptr 0 0,.ptr 0 0,.ptr 0 11]),(1,[.iv x1,.ptr 0 0,.ptr 0 0,.ptr 0 0,.ptr 0 0,.ptr 0 0,.ptr 0 0,.iv x3,.iv x2])] (Ds ?_));refine Zoa 4 14 rfl ?_ ?_
 ·refine RV ?_;refine Zna 14 rfl (Zzf (.agg [.iv x1,.iv x3,.iv x2,.iv 0,Sp1 (([]:List Int))]) H.1 rfl trivial (by simp [go_sem]) (Ds ?_));refine R1 ?_;refine Zna 16 rfl ?_;have ⟨x15,ex15,h⟩:=Bs h;refine GA EV.row ex15 H.1 ?_;refine Gn H 2 1 ?_;refine GE H.1 19 (Ds ?_);refine GD ?_;exact W
 ·refine Zzf (.agg [.iv x1,.iv x3,.iv x2,.iv 0,Sp1 (([]:List Int))]) H.1 rfl trivial (by simp [go_sem]) (Ds ?_);refine Zoa 4 15 rfl ?_ ?_
  ·refine RV ?_;refine R1 ?_;refine Zna 16 rfl ?_;have ⟨x15,ex15,h⟩:=Bs h;refine GA EV.row ex15 H.1 ?_;refine Gn H 2 1 ?_;refine R1 ?_;refine GD ?_;exact W
  ·refine RV ?_;refine R1 ?_;refine Zna 16 rfl ?_;have ⟨x15,ex15,h⟩:=Bs h;refine GA EV.row ex15 H.1 ?_;refine Gn H 2 1 ?_;refine R1 ?_;refine GD ?_;exact W
@[go_sem] def e140:EC:=eQ Tryz.f140
theorem Zzt:FnOK Tryz.prog 140 Tryz.f140 e140 [.t 4] 2 40:=okA
def Z0u:Bool→Option Bool
| x4=>some x4
def Z1u (x1 x2:SE):Option Bool:=
 ifb (decide (x1.ID=x2.ID)) (
 ifb (decide (x1.SS=x2.SS)) (
 ifb (decide (x1.Age=x2.Age)) (
 (Zvm x1.NE x2.NE).bind fun x3=>
 Z0u x3) (
 Z0u false)) (
 Z0u false)) (
 Z0u false)
theorem Z2u {x1 x2 r} (h:Z1u x1 x2=some r):FPx 144 [.agg (SE.row x1),.agg (SE.row x2)] (.bv r):=by
 have ok:=oJ 144 Tryz.f144 [.t 4] 2 29;refine FP ok fun w0 H0=>?_;rw [Z1u] at h;refine Vg 14 ?_;refine Vl [] (fun x4=>([(4,.bv x4)],[],[])) Z0u r ?_ fun J1=>?_
 ·intro x4 h;rw [Z0u] at h;exact W
 ·refine MC 10 h (fun h=>?_) fun h=>?_
  ·refine Vg 7 ?_;refine MC 17 h (fun h=>?_) fun h=>?_
   ·refine Vg 7 ?_;refine MC 24 h (fun h=>?_) fun h=>?_
    ·refine Vg 4 ?_;refine VB h Zwm fun _ _ h=>?_;exact W
    ·exact W
   ·exact W
  ·exact W
theorem Z3u {l r} (h:Zym l=some r):
  Z1f Tryz.prog 64 [.osl 0] [] [some ⟨121,2,l.map KE.row⟩] (.osl 1) [] [some ⟨121,2,l.map KE.row⟩,some ⟨121,2,r.map KE.row⟩]:=by
 unfold Zym at h;refine FT Zxm fun w0 M0=>?_;dsimp only[lun,List.cons_append,List.nil_append];refine Zg6 100 ?_;dsimp only[go_sem];refine An ?_;refine Z8i trivial rfl rfl (fun hn=>?_) ?_
 ·refine Zg6 100 ?_;dsimp only[go_sem];refine An ?_;refine Zcb 2 121 2 rfl rfl ?_;dsimp only[go_sem];have hn:l=[]:=by simpa using hn
  subst hn;obtain rfl:r=[]:=by simpa [Z8c] using h.symm
  exact Zmj Zxm
 ·refine Zg6 100 ?_;dsimp only[go_sem];refine An ?_;refine Zmc KE.row (l':=[]) h trivial rfl rfl rfl ?_;refine Zg6 100 ?_;dsimp only[go_sem];refine An ?_;refine Zij 2 1 ?_;dsimp only[go_sem];exact Zmj Zxm
def Z4u (_x1 _x2:Int) (_x3 _x4:Int) (x5:List SE) (_x6:List Int) (_x7:List SX) (_x8:List Int) (_x9 _x10:List KE):Option (SE×Bool):=
 ifb (decide ((ln SE.row x5)=0)) (
 some ((SE.mk 0 (([]:List Int)) 0 0),false)) (
 (at_ x5 0).bind fun x11=>
 some (x11,true))
theorem Z5u {x1 x2 x3 x4 x5 x6 x7 x8 x9 x10 r} (h:Z4u x1 x2 x3 x4 x5 x6 x7 x8 x9 x10=some r):FTx 110 [.agg [.iv x1,.iv x2,.osl 0,.iv x3,.osl 1,.iv x4,Sp5 x5,.osl 2,Sp1 x6,.osl 3]] [] [Z5k x7,Sq4 x8,Z6k x9,Z6k x10] (.tup [.agg [.iv r.1.ID,Sp1 r.1.NE,.iv r.1.SS,.iv r.1.Age],.bv r.2]) [] [Z5k x7,Sq4 x8,Z6k x9,Z6k x10]:=by refine Ft Zbn fun w0 M0=>?_;have ok:=Zbn;rw [Z4u] at h;exact W
def Z6u (x1:SX) (x2:Int) (x3 _x4 _x5:Int) (_x6:List SX) (_x7:List Int) (x8:List ML):Option (List ML):=
 (Z8c 40 x8 ([ML.mk x3 x1.PE (Msg.mk x2 x1.EP 0)])).bind fun x9=>
 some x9
theorem Z7u {x1 x2 x3 x4 x5 x6 x7 x8 r} (h:Z6u x1 x2 x3 x4 x5 x6 x7 x8=some r):FTx 243 [.ptr 0 0,.agg (SX.row x1),.iv x2] [some ⟨248,[.iv x3,.iv x4,.osl 0,.iv x5,.osl 1,.osl 2]⟩] [Z5k x6,Sq4 x7,Sq6 x8] (.tup []) [some ⟨248,[.iv x3,.iv x4,.osl 0,.iv x5,.osl 1,.osl 4]⟩] [Z5k x6,Sq4 x7,none,none,Sq6 r]:=by refine Ft Zqm fun w0 M0=>?_;have ok:=Zqm;rw [Z6u] at h;refine Vg 4 ?_;have ⟨x9,ex9,h⟩:=Bs h;refine Zgj fun all H=>Gs ?_;exact W
def Z8u (x1 x2:Int) (x3 _x4:Int) (_x5 _x6:Int) (_x7:List SE) (_x8:List Int) (_x9:Int) (_x10:List SX) (_x11:List Int) (_x12 _x13:List KE) (_x14:List ML) (x15:List EV):Option (List EV):=
 (Z8c 56 x15 ([EV.mk x1 x3 x2 0 (([]:List Int))])).bind fun x16=>
 some x16
theorem Z9u {x1 x2 x3 x4 x5 x6 x7 x8 x9 x10 x11 x12 x13 x14 x15 r} (h:Z8u x1 x2 x3 x4 x5 x6 x7 x8 x9 x10 x11 x12 x13 x14 x15=some r):FTx 125 [.ptr 0 0,.iv x1,.iv x2] [some ⟨138,[.iv x3,.iv x4,.osl 0,.iv x5,.osl 1,.iv x6,Sp5 x7,.osl 2,Sp1 x8,.osl 3,.osl 4,.osl 5,.iv x9]⟩] [Z5k x10,Sq4 x11,Z6k x12,Z6k x13,Sq6 x14,Z8k x15] (.tup []) [some ⟨138,[.iv x3,.iv x4,.osl 0,.iv x5,.osl 1,.iv x6,Sp5 x7,.osl 2,Sp1 x8,.osl 3,.osl 4,.osl 7,.iv x9]⟩] [Z5k x10,Sq4 x11,Z6k x12,Z6k x13,Sq6 x14,none,none,Z8k r]:=by
 refine Ft Zan fun w0 M0=>?_;have ok:=Zan;rw [Z8u] at h;refine Zgj fun all H=>Ds (GP H 13 7 [4,1,9,6] [(6,[.ptr 0 0,.ptr 0 0,.ptr 0 0,.ptr 0 11]),(1,[.iv x1,.ptr 0 0,.ptr 0 0,.ptr 0 0,.ptr 0 0,.ptr 0 0,.ptr 0 0,.iv x3,.iv x2])] (Ds ?_));refine Zoa 4 14 rfl ?_ ?_
 ·refine RV ?_;refine Zna 14 rfl (Zzf (.agg [.iv x1,.iv x3,.iv x2,.iv 0,Sp1 (([]:List Int))]) H.1 rfl trivial (by simp [go_sem]) (Ds ?_));refine R1 ?_;refine Zna 16 rfl ?_;have ⟨x16,ex16,h⟩:=Bs h;refine GA EV.row ex16 H.1 ?_;refine Gn H 2 1 ?_;refine GE H.1 19 (Ds ?_);refine GD ?_;exact W
 ·refine Zzf (.agg [.iv x1,.iv x3,.iv x2,.iv 0,Sp1 (([]:List Int))]) H.1 rfl trivial (by simp [go_sem]) (Ds ?_);refine Zoa 4 15 rfl ?_ ?_
  ·refine RV ?_;refine R1 ?_;refine Zna 16 rfl ?_;have ⟨x16,ex16,h⟩:=Bs h;refine GA EV.row ex16 H.1 ?_;refine Gn H 2 1 ?_;refine R1 ?_;refine GD ?_;exact W
  ·refine RV ?_;refine R1 ?_;refine Zna 16 rfl ?_;have ⟨x16,ex16,h⟩:=Bs h;refine GA EV.row ex16 H.1 ?_;refine Gn H 2 1 ?_;refine R1 ?_;refine GD ?_;exact W
def Zau (x1:SX) (x2:Int) (x3 _x4:Int) (_x5 _x6:Int) (_x7:List SE) (_x8:List Int) (_x9:Int) (_x10:List SX) (_x11:List Int) (_x12 _x13:List KE) (x14:List ML) (_x15:List EV):Option (List ML):=
 (Z8c 40 x14 ([ML.mk x3 x1.PE (Msg.mk x2 x1.EP 0)])).bind fun x16=>
 some x16
theorem Zbu {x1 x2 x3 x4 x5 x6 x7 x8 x9 x10 x11 x12 x13 x14 x15 r} (h:Zau x1 x2 x3 x4 x5 x6 x7 x8 x9 x10 x11 x12 x13 x14 x15=some r):FTx 210 [.ptr 0 0,.agg (SX.row x1),.iv x2] [some ⟨138,[.iv x3,.iv x4,.osl 0,.iv x5,.osl 1,.iv x6,Sp5 x7,.osl 2,Sp1 x8,.osl 3,.osl 4,.osl 5,.iv x9]⟩] [Z5k x10,Sq4 x11,Z6k x12,Z6k x13,Sq6 x14,Z8k x15] (.tup []) [some ⟨138,[.iv x3,.iv x4,.osl 0,.iv x5,.osl 1,.iv x6,Sp5 x7,.osl 2,Sp1 x8,.osl 3,.osl 7,.osl 5,.iv x9]⟩] [Z5k x10,Sq4 x11,Z6k x12,Z6k x13,none,Z8k x15,none,Sq6 r]:=by refine Ft Zvn fun w0 M0=>?_;have ok:=Zvn;rw [Zau] at h;refine Vg 4 ?_;have ⟨x16,ex16,h⟩:=Bs h;refine Zgj fun all H=>Gs ?_;exact W
def Zcu (x1 x2:Int) (x3 _x4:Int) (_x5 _x6:Int) (_x7:List SE) (_x8:List Int) (_x9:Int) (_x10:List SX) (_x11:List Int) (_x12 _x13:List KE) (_x14:List ML) (x15:List EV):Option (List EV):=
 (Z8c 56 x15 ([EV.mk x1 x3 0 x2 (([]:List Int))])).bind fun x16=>
 some x16
theorem Zdu {x1 x2 x3 x4 x5 x6 x7 x8 x9 x10 x11 x12 x13 x14 x15 r} (h:Zcu x1 x2 x3 x4 x5 x6 x7 x8 x9 x10 x11 x12 x13 x14 x15=some r):FTx 81 [.ptr 0 0,.iv x1,.iv x2] [some ⟨138,[.iv x3,.iv x4,.osl 0,.iv x5,.osl 1,.iv x6,Sp5 x7,.osl 2,Sp1 x8,.osl 3,.osl 4,.osl 5,.iv x9]⟩] [Z5k x10,Sq4 x11,Z6k x12,Z6k x13,Sq6 x14,Z8k x15] (.tup []) [some ⟨138,[.iv x3,.iv x4,.osl 0,.iv x5,.osl 1,.iv x6,Sp5 x7,.osl 2,Sp1 x8,.osl 3,.osl 4,.osl 7,.iv x9]⟩] [Z5k x10,Sq4 x11,Z6k x12,Z6k x13,Sq6 x14,none,none,Z8k r]:=by
 refine Ft Zun fun w0 M0=>?_;have ok:=Zun;rw [Zcu] at h;refine Zgj fun all H=>Ds (GP H 13 7 [4,1,9,6] [(6,[.ptr 0 0,.ptr 0 0,.ptr 0 0,.ptr 0 11]),(1,[.iv x1,.ptr 0 0,.ptr 0 0,.ptr 0 0,.ptr 0 0,.ptr 0 0,.ptr 0 0,.iv x3,.iv x2])] (Ds ?_));refine Zoa 4 14 rfl ?_ ?_
 ·refine RV ?_;refine Zna 14 rfl (Zzf (.agg [.iv x1,.iv x3,.iv 0,.iv x2,Sp1 (([]:List Int))]) H.1 rfl trivial (by simp [go_sem]) (Ds ?_));refine R1 ?_;refine Zna 16 rfl ?_;have ⟨x16,ex16,h⟩:=Bs h;refine GA EV.row ex16 H.1 ?_;refine Gn H 2 1 ?_;refine GE H.1 19 (Ds ?_);refine GD ?_;exact W
 ·refine Zzf (.agg [.iv x1,.iv x3,.iv 0,.iv x2,Sp1 (([]:List Int))]) H.1 rfl trivial (by simp [go_sem]) (Ds ?_);refine Zoa 4 15 rfl ?_ ?_
  ·refine RV ?_;refine R1 ?_;refine Zna 16 rfl ?_;have ⟨x16,ex16,h⟩:=Bs h;refine GA EV.row ex16 H.1 ?_;refine Gn H 2 1 ?_;refine R1 ?_;refine GD ?_;exact W
  ·refine RV ?_;refine R1 ?_;refine Zna 16 rfl ?_;have ⟨x16,ex16,h⟩:=Bs h;refine GA EV.row ex16 H.1 ?_;refine Gn H 2 1 ?_;refine R1 ?_;refine GD ?_;exact W
def Zeu:Bool→Option Bool
| x3=>some (!x3)
def Zfu (x1:KE) (x2:Int):Option Bool:=
 ifb (decide (x2<x1.PE)) (
 ifb (decide (x1.PE<64)) (
 ifb (decide (1≤x1.EP)) (
 Zeu (decide (x1.EP≤65535))) (
 Zeu false)) (
 Zeu false)) (
 Zeu false)
theorem Zgu {x1 x2 r} (h:Zfu x1 x2=some r):FTx 106 [.agg (KE.row x1),.ptr 0 0] [some ⟨3,[.iv x2]⟩] [] (.bv r) [some ⟨3,[.iv x1.PE]⟩] []:=by
 refine Ft Z9o fun w0 M0=>?_;have ok:=Z9o;rw [Zfu] at h;refine Vg 12 ?_;refine Vk [1,2] (fun x3=>[(4,.bv x3)]) Zeu r ?_ fun J1=>?_
 ·intro x3 h;rw [Zeu] at h;exact W
 ·exact W
def Zhu:Bool→Option Bool
| x5=>some x5
def Ziu (x1:SX) (x2:NO):Bool→Option Bool
| x3=>
 ifb (decide (64≤x1.PE)) (
 Zhu true) (
 ifb (decide (x1.EP<1)) (
 Zhu true) (
 (Zco x2 x1.PE).bind fun x4=>
 ifb (!decide (x4=x1.EP)) (
 Zhu true) (
 ifb x3 (
 Zhu (decide (x1.PE<x2.DK.DI.ID))) (
 Zhu false))))
def Zju (x1:SX) (x2:NO):Option Bool:=
 ifb (decide (x1.SS=1)) (
 (Ziu x1 x2) true) (
 (Ziu x1 x2) (decide (x1.SS=3)))
theorem Zku {x1 x2 r} (h:Zju x1 x2=some r):FPx 105 [.agg (SX.row x1),.elt (NO.row x2) 0] (.bv r):=by
 have ok:=oJ 105 Tryz.f105 [.t 3] 2 40;refine FP ok fun w0 H0=>?_;rw [Zju] at h;refine Vg 11 ?_;refine Vk [1,2] (fun x3=>[(4,.bv x3)]) (Ziu x1 x2) r ?_ fun J1=>?_
 ·intro x3 h;rw [Ziu] at h;refine Vg 1 ?_;refine Vl [] (fun x5=>([(3,.bv x5)],[],[])) Zhu r ?_ fun J2=>?_
  ·intro x5 h;rw [Zhu] at h;exact W
  ·refine Zgj fun all H=>Ds (GP H 4 26 [4,26] [(13,[.ptr 0 0,.iv x1.PE,.bv (decide (64≤x1.PE)),.bv (decide (64≤x1.PE))])] (Ds ?_));refine Zdd 16 h rfl (fun _ h=>?_) fun _ h=>?_
   ·refine Ds (GP H 26 0 [30] [(3,[.tt]),(13,[.un,.un,.un,.tt,.tt,.un,.un,.un,.un,.un,.un,.un,.tt,.tt,.un,.un,.un,.un,.un,.un,.un,.un,.un,.un,.tt])] (Ds ?_));refine GD ?_;exact W
   ·refine Ds (GP H 5 21 [9,21] [(17,[.ptr 0 1,.iv x1.EP,.bv (decide (x1.EP<1)),.bv (decide (x1.EP<1)),.bv (decide (x1.EP<1))])] (Ds ?_));refine Zdd 21 h rfl (fun _ h=>?_) fun _ h=>?_
    ·refine Ds (GP H 21 0 [30] [(3,[.tt]),(18,[.un,.un,.un,.un,.un,.un,.un,.tt,.tt,.un,.un,.un,.un,.un,.un,.un,.un,.un,.un,.tt])] (Ds ?_));refine GD ?_;exact W
    ·refine Ds (GP H 5 16 [12,1,2,15] [(22,[.agg (NO.row x2),.ptr 0 0,.iv x1.PE]),(1,[.ptr 0 1,.iv x1.EP])] (Ds ?_));refine RB h Zdo fun x4 _ h=>?_;refine GP H 3 12 [18,12] [(28,[.bv (!decide (x4=x1.EP)),.bv (!decide (x4=x1.EP)),.bv (!decide (x4=x1.EP))])] (Ds ?_);refine Zdd 30 h rfl (fun _ h=>?_) fun _ h=>?_
     ·refine Ds (GP H 12 0 [30] [(3,[.tt]),(27,[.un,.un,.un,.un,.un,.un,.un,.un,.un,.un,.tt])] (Ds ?_));refine GD ?_;exact W
     ·refine Gn H 2 10 ?_;refine Zdd 32 h rfl (fun _ h=>?_) fun _ h=>?_
      ·refine Ds (GP H 10 0 [30] [(3,[.bv (decide (x1.PE<x2.DK.DI.ID))]),(29,[.ptr 0 0,.iv x1.PE,.elt (NO.row x2) 0,.elt (NO.row x2) 0,.elt (NO.row x2) 0,.iv x2.DK.DI.ID,.bv (decide (x1.PE<x2.DK.DI.ID)),.bv (decide (x1.PE<x2.DK.DI.ID)),.bv (decide (x1.PE<x2.DK.DI.ID))])] (Ds ?_));refine GD ?_;exact W
      ·refine Ds (GP H 10 0 [30] [(3,[.ff]),(29,[.un,.un,.un,.un,.un,.un,.un,.ff,.ff])] (Ds ?_));refine GD ?_;exact W
 ·exact W
def Zlu (x1 x2:Int) (x3 _x4:Int) (_x5 _x6:Int) (_x7:List Int) (_x8:Int) (_x9:List SX) (_x10:List Int) (_x11:List SE) (_x12 _x13:List KE):Option (List EV):=
 (Z8c 56 [] ([EV.mk x1 x3 0 x2 (([]:List Int))])).bind fun x14=>
 some x14
theorem Zmu {x1 x2 x3 x4 x5 x6 x7 x8 x9 x10 x11 x12 x13 r} (h:Zlu x1 x2 x3 x4 x5 x6 x7 x8 x9 x10 x11 x12 x13=some r):FTx 81 [.ptr 0 0,.iv x1,.iv x2] [some ⟨138,[.iv x3,.iv x4,.osl 0,.iv x5,.osl 1,.iv x6,.osl 2,.osl 3,Sp1 x7,.osl 4,.nl,.nl,.iv x8]⟩] [Z5k x9,Sq4 x10,Z3k x11,Z6k x12,Z6k x13] (.tup []) [some ⟨138,[.iv x3,.iv x4,.osl 0,.iv x5,.osl 1,.iv x6,.osl 2,.osl 3,Sp1 x7,.osl 4,.nl,.osl 6,.iv x8]⟩] [Z5k x9,Sq4 x10,Z3k x11,Z6k x12,Z6k x13,none,Z8k r]:=by refine Ft Zun fun w0 M0=>?_;have ok:=Zun;rw [Zlu] at h;refine Zgj fun all H=>Ds (GP H 14 6 [14,6] [(6,[.ptr 0 0,.ptr 0 0,.ptr 0 0,.ptr 0 11,.nl,.iv x1,.ptr 0 0,.ptr 0 0,.ptr 0 0,.ptr 0 0,.ptr 0 0,.ptr 0 0,.iv x3,.iv x2])] (Ds ?_));refine Zna 14 rfl (Zzf (.agg [.iv x1,.iv x3,.iv 0,.iv x2,Sp1 (([]:List Int))]) H.1 rfl trivial (by simp [go_sem]) (Ds ?_));refine R1 ?_;refine Zna 16 rfl ?_;have ⟨x14,ex14,h⟩:=Bs h;refine Zoc EV.row ex14 H.1 rfl trivial rfl rfl ?_;refine Gn H 2 1 ?_;refine R1 ?_;refine GD ?_;exact W
end
end NX
end Go.Proofs.YtgamgemlekpepaaGreat
