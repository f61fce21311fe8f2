/-
  The function (*narthex/node.node).put, lent own memory. Written by a program of ours (lb.py). No statement of the seat is proved here.
-/
import Derived.Test.YtgamgemlekpepaaGreatK39
set_option maxRecDepth 100000
set_option maxHeartbeats 40000000
namespace Go.Proofs.YtgamgemlekpepaaGreat
namespace NX
open Go
noncomputable section
def Zl51 (x1:SX) (x2:Int) (x3 x4:Int) (x5 x6:Int) (x7:List SX) (x8:List Int) (x9:List SE) (x10:List KE) (x11:List Int) (x12:List KE):Option (List SX×List KE):=
 (Zhn x7 x1.PE ((fun z=>Zjn z.1 z.2))).bind fun x13=>
 (Zh21 x7 x13.1 ([x1])).bind fun x14=>
 (Zd41 x1.PE x1.EP x2 x3 x4 x5 x6 x14 x8 x9 x10 x11 x12).bind fun x15=>
 some (x14,x15)
theorem Zm51 {x1 x2 x3 x4 x5 x6 x7 x8 x9 x10 x11 x12 r} (h:Zl51 x1 x2 x3 x4 x5 x6 x7 x8 x9 x10 x11 x12=some r):FTx 70 [.ptr 0 0,.agg (SX.row x1)] [some ⟨138,[.iv x2,.iv x3,.osl 0,.iv x4,.osl 1,.iv x5,.osl 2,.osl 3,.osl 4,.osl 5,.nl,.nl,.iv x6]⟩] [Z5k x7,Sq4 x8,Z3k x9,Z6k x10,Sq4 x11,Z6k x12] (.tup []) [some ⟨138,[.iv x2,.iv x3,.osl 7,.iv x4,.osl 1,.iv x5,.osl 2,.osl 9,.osl 4,.osl 5,.nl,.nl,.iv x6]⟩] [none,Sq4 x8,Z3k x9,none,Sq4 x11,Z6k x12,none,Z5k r.1,none,Z6k r.2]:=by
 refine Ft ok70 fun w0 M0=>?_;have ok:=ok70;rw [Zl51] at h;refine Vg 5 ?_;refine Zgj fun all H=>Ds (GP H 8 7 [6,1,2,6] [(7,[.ptr 0 0,.ptr 0 0,.ptr 0 0,.ptr 0 0,.ptr 0 0,.ptr 0 2]),(1,[.ptr 1 0,.iv x1.PE])] (Ds ?_));refine R1 ?_;refine RQ (LR.slice 0 rfl) h (fun e=>Zin e ⟨by kernel_rfl,rfl,fun z r hz=>Zkn hz⟩) fun x13 _ h=>?_;refine GP H 5 0 [15] [(4,[.iv x13.1,.bv x13.2,.tup [.iv x13.1,.bv x13.2]]),(10,[.iv x13.1,.bv x13.2])] (Ds ?_);refine GD (Vg 1 ?_);refine Zgj fun all H=>Ds (GP H 9 9 [7,1,2,8] [(19,[.ptr 0 0,.ptr 0 0,.ptr 0 0,.ptr 0 0,.ptr 0 0,.ptr 0 0,.ptr 0 2]),(1,[.iv x13.1,.agg (SX.row x1)])] (Ds ?_));refine Zoa 7 10 rfl ?_ ?_
 ·refine RV ?_;refine R1 ?_;refine RR [] [0,6] 2 7 h Zi21 fun x14 ex14 h=>?_;refine GP H 5 1 [17,1] [(31,[.ptr 0 0,.ptr 0 0,.ptr 0 0,.ptr 0 0,.ptr 0 2])] (Ds ?_);refine GE H.1 17 (Ds ?_);refine GD (Vg 6 ?_);refine VR [0] [7,1,2,3,4,5] 2 8 h Ze41 fun x15 ex15 h=>?_;exact W
 ·refine RV ?_;refine R1 ?_;refine RR [] [0,6] 2 7 h Zi21 fun _ _ h=>?_;refine GP H 5 1 [17,1] [(31,[.ptr 0 0,.ptr 0 0,.ptr 0 0,.ptr 0 0,.ptr 0 2])] (Ds ?_);refine GE H.1 17 (Ds ?_);refine GD (Vg 6 ?_);refine VR [0] [7,1,2,3,4,5] 2 8 h Ze41 fun _ _ h=>?_;exact W
def Zn51:(Int×List SE×List Int)→Option (List Int×List SE)
| (x31,x32,x33)=>
 (vw_ (ln SE.row x32) x31 (ln SE.row x32)).bind fun _=>
 (Zug x32 (Int.toNat (x31)) (Int.toNat (ln SE.row x32)-Int.toNat (x31)) (SE.mk 0 (([]:List Int)) 0 0)).bind fun x35=>
 (Z9c x35 0 x31).bind fun x36=>
 some (x33,x36)
def Zo51 (x14:Int) (x18:(Bool×List Int)):(Int×List SE)→Option ((Int×Int×List SE×List Int) ⊕ (List Int×List SE))
| (x20,x21)=>some (.inl (x20,wr (x14+1),x21,x18.2))
def Zp51 (x1:Int):(Int×Int×List SE×List Int)→Option ((Int×Int×List SE×List Int) ⊕ (List Int×List SE))
| (x13,x14,x15,x16)=>
 ifb (decide (x14<(ln SE.row x15))) (
 (at_ x15 x14).bind fun x17=>
 (Zn21 x17 x1 x16).bind fun x18=>
 ifb (!x18.1) (
 (at_ x15 x13).bind fun _=>
 (Zo51 x14 x18) (wr (x13+1),x15.set (Int.toNat (x13)) x17)) (
 (Zo51 x14 x18) (x13,x15))) (
 Option.map Sum.inr (Zn51 (x13,x15,x16)))
def Zq51 (x1:Int) (x2:List SE):Option (List Int×List SE):=
 (Zh41 x1 x2).bind fun x3=>
 ifb (decide (x3.1=((-1)))) (
 some (x3.2,x2)) (
 loop (Zp51 x1) (x3.1,wr (x3.1+1),x2,x3.2))
theorem Zr51 {x1 x2 r} (h:Zq51 x1 x2=some r):FTx 176 [.osl 0,.clo 177 [.ptr 0 0,.ptr 1 0]] [some ⟨3,[.iv x1]⟩,some ⟨40,[.nl]⟩] [Z3k x2] (.osl 2) [some ⟨3,[.iv x1]⟩,some ⟨40,[.osl 1]⟩] [none,Sq4 r.1,Z3k r.2]:=by
 refine Ft Zst fun w0 M0=>?_;have ok:=Zst;rw [Zq51] at h;refine Vg 8 ?_;have ⟨x3,ex3,h⟩:=Bs h;refine Z9f [true,true] [true] trivial (Zi41 ex3) (h:=?_);refine Vg 8 ?_;refine MI h (fun h=>?_) fun h=>?_
 ·refine Vg 5 ?_;refine Zlj 131 4 (Ds ?_);refine Zij 0 2 ?_;exact W
 ·refine Vg 8 ?_;refine Vm [0,1] (fun s=>([(5,.iv s.1)],[],[],[(0,Z3k s.2.1),(1,Sq4 s.2.2)])) Zn51 r ?_ fun J1=>?_
  ·rintro ⟨x31,x32,x33⟩ h;rw [Zn51] at h;refine Vg 4 ?_;have ⟨x34,ex34,h⟩:=Bs h;refine Zxg SE.row ex34 trivial rfl rfl rfl rfl ?_;have ⟨x35,ex35,h⟩:=Bs h;refine Z1h SE.row ex35 trivial rfl rfl (by first | exact Zrb _ | simp [go_sem]) (by first | rfl | simp [go_sem]) rfl rfl (Vg 5 ?_);have ⟨x36,ex36,h⟩:=Bs h;refine Zjf SE.row ex36 trivial rfl rfl rfl rfl ?_;exact W
  ·refine Vg 1 ?_;refine Mm h [0,2] (fun s=>([(5,.iv s.1),(6,.iv s.2.1)],[],[],[(0,Z3k s.2.2.1),(1,Sq4 s.2.2.2)])) ?_;rintro n1 ⟨x13,x14,x15,x16⟩ y1 h hin1 hout1;rw [Zp51] at h;refine Vg 8 ?_;refine MI h (fun h=>?_) fun h=>?_
   ·refine Vg 7 ?_;have ⟨x17,ex17,h⟩:=Bs h;refine Zee SE.row ex17 trivial rfl rfl rfl (Zne SE.row ex17 trivial rfl rfl rfl (Vg 7 ?_));have ⟨x18,ex18,h⟩:=Bs h;refine Zbf [true,true,false] [false,true] trivial rfl (Zbj [0,1] [1] 3 2 (Zo21 ex18)) (by kernel_rfl) (h:=?_);refine Vg 2 ?_;refine Vl [0,2,4,1] (fun s=>([(5,.iv s.1)],[some ⟨3,[.iv x1]⟩,some ⟨40,[.osl 3]⟩],[Z3k s.2,none,none,Sq4 x18.2])) (Zo51 x14 x18) y1 ?_ fun J2=>?_
    ·rintro ⟨x20,x21⟩ h;rw [Zo51] at h;refine Vg 6 ?_;refine Zij 3 1 ?_;exact W
    ·refine MI h (fun h=>?_) fun h=>?_
     ·refine Vg 5 ?_;have ⟨x19,ex19,h⟩:=Bs h;refine Zee SE.row ex19 trivial rfl rfl rfl (Zve (SE.row x17) SE.row (y':=x17) ex19 trivial rfl rfl rfl (by first | exact Zrb _ | simp [go_sem]) rfl rfl rfl rfl ?_);exact W
     ·exact W
   ·exact W
@[go_sem] def e179:EC:=eQ Tryz.f179
theorem Zs51:FnOK Tryz.prog 179 Tryz.f179 e179 [] 1 34:=okA
def Zt51:(List Int×List ML)→Option (List Int×List ML)
| (x54,x55)=>some (x54,x55)
def Zu51 (x25:Int):(List Int×List ML)→Option ((Int×List Int×List ML) ⊕ (List Int×List ML))
| (x34,x35)=>some (.inl (wr (x25+1),x34,x35))
def Zv51 (x1 x2:Int) (x3 x4:Int) (x5:List SE) (x7:Int) (x8:List SX) (x9:List Int) (x10 x11:List KE) (x13:List EV) (x25:Int) (x26:List Int) (x27:List ML) (x28:SX):Bool→Option ((Int×List Int×List ML) ⊕ (List Int×List ML))
| x31=>
 ifb x31 (
 (Zau x28 5 x1 x2 x3 x4 x5 x26 x7 x8 x9 x10 x11 x27 x13).bind fun x32=>
 (Zy11 x26 x28.PE).bind fun x33=>
 (Zu51 x25) (x33,x32)) (
 (Zu51 x25) (x26,x27))
def Zw51 (x1 x2:Int) (x3 x4:Int) (x5:List SE) (x7:Int) (x8:List SX) (x9:List Int) (x10 x11:List KE) (x13:List EV):(Int×List Int×List ML)→Option ((Int×List Int×List ML) ⊕ (List Int×List ML))
| (x25,x26,x27)=>
 ifb (decide (x25<(ln SX.row x8))) (
 (at_ x8 x25).bind fun x28=>
 (Zwn x28).bind fun x29=>
 ifb x29 (
 (Z1x x26 x28.PE).bind fun x30=>
 (Zv51 x1 x2 x3 x4 x5 x7 x8 x9 x10 x11 x13 x25 x26 x27 x28) (!x30)) (
 (Zv51 x1 x2 x3 x4 x5 x7 x8 x9 x10 x11 x13 x25 x26 x27 x28) false)) (
 Option.map Sum.inr (Zt51 (x26,x27)))
def Zx51 (x1 x2:Int) (x3 x4:Int) (x5:List SE) (x6:List Int) (x7:Int) (x8:List SX) (x9:List Int) (x10 x11:List KE) (x12:List ML) (x13:List EV):Option (List Int×List ML):=loop (Zw51 x1 x2 x3 x4 x5 x7 x8 x9 x10 x11 x13) (0,x6,x12)
theorem Zy51 {x1 x2 x3 x4 x5 x6 x7 x8 x9 x10 x11 x12 x13 r} (h:Zx51 x1 x2 x3 x4 x5 x6 x7 x8 x9 x10 x11 x12 x13=some r):FTx 183 [.ptr 0 0] [some ⟨138,[.iv x1,.iv x2,.osl 0,.iv x3,.osl 1,.iv x4,Sp5 x5,.osl 2,Sp1 x6,.osl 3,.osl 4,.osl 5,.iv x7]⟩] [Z5k x8,Sq4 x9,Z6k x10,Z6k x11,Sq6 x12,Z8k x13] (.tup []) [some ⟨138,[.iv x1,.iv x2,.osl 0,.iv x3,.osl 1,.iv x4,Sp5 x5,.osl 2,Sp1 r.1,.osl 3,.osl 7,.osl 5,.iv x7]⟩] [Z5k x8,Sq4 x9,Z6k x10,Z6k x11,none,Z8k x13,none,Sq6 r.2]:=by
 refine Ft Zj41 fun w0 M0=>?_;have ok:=Zj41;rw [Zx51] at h;refine Vg 12 ?_;refine Vl [] (fun s=>([],[some ⟨138,[.iv x1,.iv x2,.osl 0,.iv x3,.osl 1,.iv x4,Sp5 x5,.osl 2,Sp1 s.1,.osl 3,.osl 7,.osl 5,.iv x7]⟩],[Z5k x8,Sq4 x9,Z6k x10,Z6k x11,none,Z8k x13,none,Sq6 s.2])) Zt51 r ?_ fun J1=>?_
 ·rintro ⟨x54,x55⟩ h;rw [Zt51] at h;exact W
 ·refine Vg 1 ?_;refine Zlj 53 5 (Ds ?_);refine Zlj 53 5 (Ds ?_);refine Zij 4 7 (Ds ?_);refine Mm h [0,1,9,2] (fun s=>([(12,.iv s.1)],[(0,8,Sp1 s.2.1)],[],[(6,none),(7,Sq6 s.2.2)])) ?_;rintro n1 ⟨x25,x26,x27⟩ y1 h hin1 hout1;rw [Zw51] at h;refine Vg 5 ?_;refine MI h (fun h=>?_) fun h=>?_
  ·refine Vg 5 ?_;have ⟨x28,ex28,h⟩:=Bs h;refine Zee SX.row ex28 trivial rfl rfl rfl (Zne SX.row ex28 trivial rfl rfl rfl (Vg 4 ?_));refine Vk [0,1,2,1,6,3] (fun x31=>[(28,.bv x31)]) (Zv51 x1 x2 x3 x4 x5 x7 x8 x9 x10 x11 x13 x25 x26 x27 x28) y1 ?_ fun J2=>?_
   ·intro x31 h;rw [Zv51] at h;refine Vl [0,1,9,3] (fun s=>([],[some ⟨138,[.iv x1,.iv x2,.osl 0,.iv x3,.osl 1,.iv x4,Sp5 x5,.osl 2,Sp1 s.1,.osl 3,.osl 7,.osl 5,.iv x7]⟩],[Z5k x8,Sq4 x9,Z6k x10,Z6k x11,none,Z8k x13,none,Sq6 s.2])) (Zu51 x25) y1 ?_ fun J3=>?_
    ·rintro ⟨x34,x35⟩ h;rw [Zu51] at h;exact W
    ·refine MI h (fun h=>?_) fun h=>?_
     ·refine Vg 4 ?_;refine VR [0] [0,1,2,3,7,5] 2 8 h Zbu fun _ _ h=>?_;refine Vg 1 ?_;have ⟨x33,ex33,h⟩:=Bs h;have q0:=Zz11 ex33;refine Zgj fun all H=>Gs ?_;refine Zij 9 7 ?_;exact W
     ·exact W
   ·refine Zgj fun all H=>?_;refine Gn H 1 12 ?_;refine RB h Zxn fun _ _ h=>?_;refine Gn H 1 10 ?_;refine Zdd 18 h rfl (fun _ h=>?_) fun _ h=>?_
    ·refine Ds (GP H 7 3 [10,3] [(19,[.ptr 0 0,.ptr 0 0,.ptr 0 0,.ptr 0 8,Sp1 x26,.ptr 1 0,.iv x28.PE])] (Ds ?_));refine RB h Z2x fun _ _ h=>?_;refine Gn H 2 0 ?_;refine GD ?_;exact W
    ·refine Ds (GP H 10 0 [13] [(19,[.un,.un,.un,.un,.un,.un,.un,.un,.un,.ff])] (Ds ?_));refine GD ?_;exact W
  ·exact W
def Zz51 (x1:SX) (x2:Int) (x3 x4 x5:Int) (x6:List SE) (x7:List Int) (x8:Int) (x9:List SX) (x10:List Int) (x11 x12:List KE) (x13:List ML) (x14:List EV):Option (List SX×List KE):=
 (Zhn x9 x1.PE ((fun z=>Zjn z.1 z.2))).bind fun x15=>
 (Zh21 x9 x15.1 ([x1])).bind fun x16=>
 (Zl41 x1.PE x1.EP x2 x3 x4 x5 x6 x7 x8 x16 x10 x11 x12 x13 x14).bind fun x17=>
 some (x16,x17)
theorem Z061 {x1 x2 x3 x4 x5 x6 x7 x8 x9 x10 x11 x12 x13 x14 r} (h:Zz51 x1 x2 x3 x4 x5 x6 x7 x8 x9 x10 x11 x12 x13 x14=some r):FTx 70 [.ptr 0 0,.agg (SX.row x1)] [some ⟨138,[.iv x2,.iv x3,.osl 0,.iv x4,.osl 1,.iv x5,Sp5 x6,.osl 2,Sp1 x7,.osl 3,.osl 4,.osl 5,.iv x8]⟩] [Z5k x9,Sq4 x10,Z6k x11,Z6k x12,Sq6 x13,Z8k x14] (.tup []) [some ⟨138,[.iv x2,.iv x3,.osl 7,.iv x4,.osl 1,.iv x5,Sp5 x6,.osl 9,Sp1 x7,.osl 3,.osl 4,.osl 5,.iv x8]⟩] [none,Sq4 x10,none,Z6k x12,Sq6 x13,Z8k x14,none,Z5k r.1,none,Z6k r.2]:=by
 refine Ft ok70 fun w0 M0=>?_;have ok:=ok70;rw [Zz51] at h;refine Vg 5 ?_;refine Zgj fun all H=>Ds (GP H 8 7 [6,1,2,6] [(7,[.ptr 0 0,.ptr 0 0,.ptr 0 0,.ptr 0 0,.ptr 0 0,.ptr 0 2]),(1,[.ptr 1 0,.iv x1.PE])] (Ds ?_));refine R1 ?_;refine RQ (LR.slice 0 rfl) h (fun e=>Zin e ⟨by kernel_rfl,rfl,fun z r hz=>Zkn hz⟩) fun x15 _ h=>?_;refine GP H 5 0 [15] [(4,[.iv x15.1,.bv x15.2,.tup [.iv x15.1,.bv x15.2]]),(10,[.iv x15.1,.bv x15.2])] (Ds ?_);refine GD (Vg 1 ?_);refine Zgj fun all H=>Ds (GP H 9 9 [7,1,2,8] [(19,[.ptr 0 0,.ptr 0 0,.ptr 0 0,.ptr 0 0,.ptr 0 0,.ptr 0 0,.ptr 0 2]),(1,[.iv x15.1,.agg (SX.row x1)])] (Ds ?_));refine Zoa 7 10 rfl ?_ ?_
 ·refine RV ?_;refine R1 ?_;refine RR [] [0,6] 2 7 h Zi21 fun x16 ex16 h=>?_;refine GP H 5 1 [17,1] [(31,[.ptr 0 0,.ptr 0 0,.ptr 0 0,.ptr 0 0,.ptr 0 2])] (Ds ?_);refine GE H.1 17 (Ds ?_);refine GD (Vg 6 ?_);refine VR [0] [7,1,2,3,4,5] 2 8 h Zm41 fun x17 ex17 h=>?_;exact W
 ·refine RV ?_;refine R1 ?_;refine RR [] [0,6] 2 7 h Zi21 fun _ _ h=>?_;refine GP H 5 1 [17,1] [(31,[.ptr 0 0,.ptr 0 0,.ptr 0 0,.ptr 0 0,.ptr 0 2])] (Ds ?_);refine GE H.1 17 (Ds ?_);refine GD (Vg 6 ?_);refine VR [0] [7,1,2,3,4,5] 2 8 h Zm41 fun _ _ h=>?_;exact W
@[go_sem] def e109:EC:=eQ Tryz.f109
theorem Z161:FnOK Tryz.prog 109 Tryz.f109 e109 [.t 6] 3 37:=okA
def Z261:Bool→Option Bool
| x5=>some x5
def Z361 (x1:SE) (x2:NO):Option Bool:=
 ifb (decide (x1.SS=0)) (
 (Z0t x2).bind fun x3=>
 (Zz31 x1.NE x3).bind fun x4=>
 Z261 (!x4)) (
 Z261 false)
theorem Z461 {x1 x2 r} (h:Z361 x1 x2=some r):FPx 115 [.agg (SE.row x1),.elt (NO.row x2) 0] (.bv r):=by
 have ok:=oJ 115 Tryz.f115 [.t 3] 2 13;refine FP ok fun w0 H0=>?_;rw [Z361] at h;refine Vg 6 ?_;refine Vl [] (fun x5=>([(3,.bv x5)],[],[])) Z261 r ?_ fun J1=>?_
 ·intro x5 h;rw [Z261] at h;exact W
 ·refine Zgj fun all H=>?_;refine Gn H 4 8 ?_;refine Zdd 7 h rfl (fun _ h=>?_) fun _ h=>?_
  ·refine Gn H 3 5 ?_;refine RB h Z1t fun _ _ h=>?_;refine RB h Z041 fun _ _ h=>?_;refine Gn H 3 0 ?_;refine GD ?_;exact W
  ·refine Ds (GP H 8 0 [12] [(14,[.ff])] (Ds ?_));refine GD ?_;exact W
def Z561 (x1 x2:Int):(Bool×List SX)→Option (Int×Int×Int×List SX)
| (x12,x13)=>
 ifb x12 (
 some (0,0,132,([]:List SX))) (
 some (x1,x2,0,x13))
def Z661 (x1 x2 x7:Int) (x8:List SX) (x9:SX):Bool→Option (Int×Int×Int×List SX)
| x11=>
 ifb x11 (
 (Z561 x1 x2) (x9.TO,x8.set (Int.toNat (x7)) (SX.mk x9.PE x9.EP x9.SS x9.FK x9.DY true x9.BO x9.Ask))) (
 some (0,0,133,([]:List SX)))
def Z761 (x1 x2:Int) (x4:Msg) (x7:Int) (x8:List SX) (x9:SX):Bool→Option (Int×Int×Int×List SX)
| x10=>
 ifb x10 (
 (Z561 x1 x2) (x9.FK,x8.set (Int.toNat (x7)) (SX.mk x9.PE x9.EP x9.SS true x9.DY x9.TO x9.BO x9.Ask))) (
 ifb (decide (x4.KI=2)) (
 (Z661 x1 x2 x7 x8 x9) (decide (x4.Num=0))) (
 (Z661 x1 x2 x7 x8 x9) false))
def Z861 (x1 x2 x3:Int) (x4:Msg) (x5:List SX):Option (Int×Int×Int×List SX):=
 (Zb21 (DI.mk x1 x2 x5)).bind fun x6=>
 ifb (!decide (x6=0)) (
 some (0,0,x6,([]:List SX))) (
 (Zkk x5 ((fun z=>Zhm z x3 x4))).bind fun x7=>
 ifb (decide (x7<0)) (
 some (0,0,131,([]:List SX))) (
 (Zkm x5).bind fun x8=>
 (at_ x8 x7).bind fun x9=>
 ifb (decide (x4.KI=1)) (
 (Z761 x1 x2 x4 x7 x8 x9) (decide (x4.Num=0))) (
 (Z761 x1 x2 x4 x7 x8 x9) false)))
theorem Z961 {x1 x2 x3 x4 x5 r} (h:Z861 x1 x2 x3 x4 x5=some r):FTx 187 [.agg [.iv x1,.iv x2,.osl 0],.iv x3,.agg (Msg.row x4)] [] [Z5k x5] (.tup [.agg [.iv r.1,.iv r.2.1,.osl 1],.iv r.2.2.1]) [] [Z5k x5,Z5k r.2.2.2]:=by
 refine Ft Z541 fun w0 M0=>?_;have ok:=Z541;rw [Z861] at h;refine Vg 12 ?_;refine VN (LR.slice 0 rfl) h Zc21 fun _ _ h=>?_;refine Vg 7 ?_;refine MI h (fun h=>?_) fun h=>?_
 ·refine Vg 7 ?_;refine Zkj 3 2 112 8 ?_;exact W
 ·refine Vg 6 ?_;refine VN (((LR.slice 0 rfl).block 1 rfl rfl).block 2 rfl rfl) h (fun e=>Zlk e ⟨by kernel_rfl,rfl,fun z r hz=>Zim hz⟩) fun x7 _ h=>?_;refine Vg 8 ?_;refine MI h (fun h=>?_) fun h=>?_
  ·refine Vg 6 ?_;refine Zkj 3 2 112 8 ?_;exact W
  ·refine Vg 5 ?_;refine VR [] [0] 4 1 h Zet fun x8 _ h=>?_;refine Vg 8 ?_;have ⟨x9,ex9,h⟩:=Bs h;refine Zee SX.row ex9 trivial rfl rfl rfl (Vg 14 ?_);refine Vm [3,1,1,2,3,1] (fun x10=>([(34,.bv x10)],[],[(1,none)],[])) (Z761 x1 x2 x4 x7 x8 x9) r ?_ fun J1=>?_
   ·intro x10 h;rw [Z761] at h;refine Vm [3,1,2,1] (fun s=>([(11,.bv s.1)],[],[(2,none)],[(1,Z5k s.2)])) (Z561 x1 x2) r ?_ fun J2=>?_
    ·rintro ⟨x12,x13⟩ h;rw [Z561] at h;refine Vg 6 ?_;refine MI h (fun h=>?_) fun h=>?_
     ·refine Vg 6 ?_;refine Zkj 3 2 112 8 (Ds ?_);refine Zij 2 1 ?_;exact W
     ·exact W
    ·refine MI h (fun h=>?_) fun h=>?_
     ·refine Vg 5 ?_;refine Zle SX.row ex9 trivial rfl rfl rfl (Vg 3 ?_);refine Zve [.bv true] SX.row (y':=(SX.mk x9.PE x9.EP x9.SS true x9.DY x9.TO x9.BO x9.Ask)) ex9 trivial rfl rfl rfl (by first | exact Zrb _ | simp [go_sem]) rfl rfl rfl rfl ?_;exact W
     ·refine Vg 6 ?_;refine Vm [3,1,2,1,3,1] (fun x11=>([(50,.bv x11)],[],[(2,none)],[])) (Z661 x1 x2 x7 x8 x9) r ?_ fun J3=>?_
      ·intro x11 h;rw [Z661] at h;refine MI h (fun h=>?_) fun h=>?_
       ·refine Vg 5 ?_;refine Zle SX.row ex9 trivial rfl rfl rfl (Vg 3 ?_);refine Zve [.bv true] SX.row (y':=(SX.mk x9.PE x9.EP x9.SS x9.FK x9.DY true x9.BO x9.Ask)) ex9 trivial rfl rfl rfl (by first | exact Zrb _ | simp [go_sem]) rfl rfl rfl rfl ?_;exact W
       ·refine Vg 6 ?_;refine Zkj 3 2 112 8 (Ds ?_);refine Zij 2 1 ?_;exact W
      ·exact W
   ·exact W
def Za61:(List Int×Int)→Option (List Int×Int×Int)
| (x17,x18)=>some (x17,x18,0)
def Zb61 (x1:Graph):(List Int×Int)→Option ((List Int×Int) ⊕ (List Int×Int×Int))
| (x8,x9)=>
 (Zfs x8 0).bind fun x10=>
 ifb x10 (
 (Zz41 x1 x8).bind fun x11=>
 some (.inl (x11.1,wr (x9+1)))) (
 Option.map Sum.inr (Za61 (x8,x9)))
def Zc61 (x1:Graph):Option (List Int×Int×Int):=
 (Z711 x1).bind fun x2=>
 ifb (!decide (x2=0)) (
 some (([]:List Int),0,x2)) (
 (mk_ 8 x1.N 0).bind fun x3=>
 loop (Zb61 x1) (x3,0))
theorem Zd61 {x1 r} (h:Zc61 x1=some r):FPx 87 [.agg (Graph.row x1)] (.tup [Sp1 r.1,.iv r.2.1,.iv r.2.2]):=by
 have ok:=oJ 87 Tryz.f87 [.t 2,.t 3,.t 4] 1 27;refine FP ok fun w0 H0=>?_;rw [Zc61] at h;refine Vg 11 ?_;refine VB h Z811 fun _ _ h=>?_;refine Vg 7 ?_;refine MI h (fun h=>?_) fun h=>?_
 ·exact W
 ·refine Vg 5 ?_;have ⟨x3,ex3,h⟩:=Bs h;refine Zhf Z4d ex3 trivial rfl rfl rfl rfl (Vg 4 ?_);refine Vl [] (fun s=>([(6,Sp1 s.1),(7,.iv s.2)],[],[])) Za61 r ?_ fun J1=>?_
  ·rintro ⟨x17,x18⟩ h;rw [Za61] at h;exact W
  ·refine Vg 1 ?_;refine Zjj 0 (Ds ?_);refine Ml h [1,1] (fun s=>([(6,Sp1 s.1),(7,.iv s.2)],[some ⟨24,Graph.row x1⟩],[])) ?_;rintro n1 ⟨x8,x9⟩ y1 h hin1 hout1;rw [Zb61] at h;refine Vg 4 ?_;refine VB h Zgs fun _ _ h=>?_;refine Vg 1 ?_;refine MI h (fun h=>?_) fun h=>?_
   ·refine Vg 6 ?_;refine VB h Z051 fun _ _ h=>?_;exact W
   ·exact W
def Ze61:List DK→Option Bar
| x22=>some (Bar.mk x22 (([]:List ML)))
def Zf61 (x2:SN):(Int×List DK)→Option ((Int×List DK) ⊕ Bar)
| (x7,x8)=>
 ifb (decide (x7<(ln DI.row x2.DZ))) (
 (at_ x2.DZ x7).bind fun x9=>
 (Z8c 72 x8 ([DK.mk x9 0 (([]:List Int))])).bind fun x10=>
 some (.inl (wr (x7+1),x10))) (
 Option.map Sum.inr (Ze61 x8))
def Zg61 (x1:Graph):Option Bar:=
 (Z151 x1).bind fun x2=>
 loop (Zf61 x2) (0,([]:List DK))
theorem Zh61 {x1 r} (h:Zg61 x1=some r):FPx 24 [.agg (Graph.row x1)] (.agg (Bar.row r)):=by
 have ok:=oJ 24 Tryz.f24 [.c 2 (some 2)] 1 27;refine FP ok fun w0 H0=>?_;rw [Zg61] at h;refine Vg 8 ?_;refine VB h Z251 fun _ _ h=>?_;refine Vg 14 ?_;refine Vl [2,1,1,1] (fun x22=>([],[none,some ⟨73,[.nl,.nl]⟩,none,some ⟨73,[.osl 0,.nl]⟩],[Z4k x22])) Ze61 r ?_ fun J1=>?_
 ·intro x22 h;rw [Ze61] at h;refine Vg 5 ?_;refine Zjj 0 ?_;exact W
 ·refine Vg 1 ?_;refine Zkj 3 0 61 5 (Ds ?_);refine Mm h [2,3] (fun s=>([(5,.iv s.1)],[],[(0,none)],[(0,Z4k s.2)])) ?_;rintro n1 ⟨x7,x8⟩ y1 h hin1 hout1;rw [Zf61] at h;refine Vg 9 ?_;refine MI h (fun h=>?_) fun h=>?_
  ·refine Vg 3 ?_;refine Zgj fun all H=>?_;refine Gn H 4 8 ?_;have ⟨x9,ex9,h⟩:=Bs h;refine Zkc H.1 H.2.1 H.2.2.1 H.2.2.2 5 DI.row ex9 rfl rfl trivial rfl rfl rfl rfl (Gn H 1 6 ?_);refine Zoa 1 7 rfl ?_ ?_
   ·refine RV ?_;refine Zna 7 rfl (Zzf (.agg [.iv x9.ID,.iv x9.PH,Sp3 x9.SD,.iv 0,Sp1 (([]:List Int))]) H.1 rfl trivial (by simp [go_sem]) (Ds ?_));refine R1 ?_;refine Zna 9 rfl ?_;have ⟨x10,ex10,h⟩:=Bs h;refine GA DK.row ex10 H.1 ?_;refine Gn H 1 1 ?_;refine Zna 11 rfl (RV ?_);refine GD (Vg 6 ?_);refine Zij 2 0 ?_;exact W
   ·refine Zzf (.agg [.iv x9.ID,.iv x9.PH,Sp3 x9.SD,.iv 0,Sp1 (([]:List Int))]) H.1 rfl trivial (by simp [go_sem]) (Ds ?_);refine Zoa 1 8 rfl ?_ ?_
    ·refine RV ?_;refine R1 ?_;refine Zna 9 rfl ?_;have ⟨x10,ex10,h⟩:=Bs h;refine GA DK.row ex10 H.1 ?_;refine Gn H 1 1 ?_;refine R1 ?_;refine GD (Vg 6 ?_);refine Zij 2 0 ?_;exact W
    ·refine RV ?_;refine R1 ?_;refine Zna 9 rfl ?_;have ⟨x10,ex10,h⟩:=Bs h;refine GA DK.row ex10 H.1 ?_;refine Gn H 1 1 ?_;refine R1 ?_;refine GD (Vg 6 ?_);refine Zij 2 0 ?_;exact W
  ·exact W
@[go_sem] def e126:EC:=eQ Tryz.f126
theorem Zi61:FnOK Tryz.prog 126 Tryz.f126 e126 [] 1 19:=okA
def Zj61 (x1 x2 x3:Int) (x4:List SX) (x5:List Int):Option (Int×Int×Int×List SX):=
 (Za41 (DK.mk (DI.mk x1 x2 x4) x3 x5)).bind fun x6=>
 ifb (!decide (x6=0)) (
 some (0,0,x6,([]:List SX))) (
 ifb (decide (x3=0)) (
 some (0,0,152,([]:List SX))) (
 (Z1y x1 x2 x3 x4 x5).bind fun x7=>
 some (x1,x2,0,x7.1)))
theorem Zk61 {x1 x2 x3 x4 x5 r} (h:Zj61 x1 x2 x3 x4 x5=some r):FTx 169 [.agg [.iv x1,.iv x2,.osl 0,.iv x3,.osl 1]] [] [Z5k x4,Sq4 x5] (.tup [.agg [.iv r.1,.iv r.2.1,.osl 2,.iv 0,.nl],.iv r.2.2.1]) [] [Z5k x4,Sq4 x5,Z5k r.2.2.2]:=by
 refine Ft Zk51 fun w0 M0=>?_;have ok:=Zk51;rw [Zj61] at h;refine Vg 10 ?_;refine VN ((LR.slice 0 rfl).slice 1 rfl) h Zb41 fun _ _ h=>?_;refine Vg 7 ?_;refine MI h (fun h=>?_) fun h=>?_
 ·refine Vg 7 ?_;refine Zkj 1 2 112 8 ?_;exact W
 ·refine Vg 8 ?_;refine MI h (fun h=>?_) fun h=>?_
  ·refine Vg 6 ?_;refine Zkj 1 2 112 8 ?_;exact W
  ·refine Vg 4 ?_;refine VR [] [0,1] 2 2 h Z2y fun _ _ h=>?_;exact W
end
end NX
end Go.Proofs.YtgamgemlekpepaaGreat
