/-
  The function narthex/set.Both: its code compiled, a model, and that the code answers as the model. Written by a program of ours (lb.py). No statement of the seat is proved here.
-/
import Derived.Test.YtgamgemlekpepaaGreatK36
import Derived.Test.YtgamgemlekpepaaGreatK37
set_option maxRecDepth 100000
set_option maxHeartbeats 40000000
namespace Go.Proofs.YtgamgemlekpepaaGreat
namespace NX
open Go
noncomputable section
def Z931 (x1 x2:List Int):Option (List Int):=
 (Z601 x1 ((fun z=>Zz01 z x2))).bind fun x3=>
 some x3
theorem Za31 {x1 x2 r} (h:Z931 x1 x2=some r):FPx 112 [Sp1 x1,Sp1 x2] (Sp1 r):=by have ok:=oJ 112 Tryz.f112 [.t 4] 2 6;refine FP ok fun w0 H0=>?_;rw [Z931] at h;refine Vg 9 ?_;refine Zf8 0 rfl rfl (Ds ?_);refine VB h (fun e=>Z701 e ⟨by kernel_rfl,rfl,fun z r hz=>Z011 hz⟩) fun _ _ h=>?_;exact W
def Zb31 (x1:Graph) (x2:List Int):Bool→Option Bool
| x5=>
 ifb x5 (
 some false) (
 (Znu x1.Edges ((fun z=>Z5p z x2))).bind fun x6=>
 some (!x6))
def Zc31 (x1:Graph) (x2:List Int):Option Bool:=
 (Z711 x1).bind fun x3=>
 ifb (!decide (x3=0)) (
 (Zb31 x1 x2) true) (
 ifb (!decide ((ln Z4d x2)=x1.N)) (
 (Zb31 x1 x2) true) (
 (Z1s x2 ((fun z=>Z3p z))).bind fun x4=>
 (Zb31 x1 x2) x4))
theorem Zd31 {x1 x2 r} (h:Zc31 x1 x2=some r):FPx 147 [.agg (Graph.row x1),Sp1 x2] (.bv r):=by
 have ok:=oJ 147 Tryz.f147 [.t 4] 2 22;refine FP ok fun w0 H0=>?_;rw [Zc31] at h;refine Vg 10 ?_;refine VB h Z811 fun _ _ h=>?_;refine Vg 2 ?_;refine Vk [2,2] (fun x5=>[(18,.bv x5)]) (Zb31 x1 x2) r ?_ fun J1=>?_
 ·intro x5 h;rw [Zb31] at h;refine MI h (fun h=>?_) fun h=>?_
  ·exact W
  ·refine Vg 6 ?_;refine VN (LR.block 1 rfl rfl) h (fun e=>Zou e ⟨by kernel_rfl,rfl,fun z r hz=>Z6p hz⟩) fun _ _ h=>?_;exact W
 ·refine MC 8 h (fun h=>?_) fun h=>?_
  ·exact W
  ·refine Vg 7 ?_;refine MC 15 h (fun h=>?_) fun h=>?_
   ·exact W
   ·refine Vg 1 ?_;refine VB h (fun e=>Z2s e ⟨by kernel_rfl,rfl,fun z r hz=>Z4p hz⟩) fun _ _ h=>?_;exact W
def Ze31:List Int→Option (List Int)
| x23=>
 (Z8s x23).bind fun x24=>
 some x24
def Zf31 (x10:Int):List Int→Option ((Int×List Int) ⊕ (List Int))
| x15=>some (.inl (wr (x10+1),x15))
def Zg31 (x1:Graph) (x2:Int):(Int×List Int)→Option ((Int×List Int) ⊕ (List Int))
| (x10,x11)=>
 ifb (decide (x10<(ln Edge.row x1.Edges))) (
 (at_ x1.Edges x10).bind fun x12=>
 ifb (decide (x2=x12.A)) (
 (Z8c 8 x11 ([x12.B])).bind fun x13=>
 (Zf31 x10) x13) (
 ifb (decide (x2=x12.B)) (
 (Z8c 8 x11 ([x12.A])).bind fun x14=>
 (Zf31 x10) x14) (
 (Zf31 x10) x11))) (
 Option.map Sum.inr (Ze31 x11))
def Zh31 (x1:Graph) (x2:Int):Option (List Int):=
 (Z711 x1).bind fun x3=>
 ifb (!decide (x3=0)) (
 some (([]:List Int))) (
 loop (Zg31 x1 x2) (0,([]:List Int)))
theorem Zi31 {x1 x2 r} (h:Zh31 x1 x2=some r):FOx 148 [.agg (Graph.row x1),.iv x2] 3 1 (List.map Z4d r):=by
 have ok:=oJ 148 Tryz.f148 [.t 4] 2 38;refine Zrd ok rfl fun w0 H0=>?_;rw [Zh31] at h;refine Vg 9 ?_;refine VB h Z811 fun _ _ h=>?_;refine Vg 2 ?_;refine MI h (fun h=>?_) fun h=>?_
 ·refine Vg 4 ?_;refine Zcb 4 3 1 rfl rfl (Ds ?_);exact Zae Z4d ok h rfl rfl
 ·refine Vg 13 ?_;refine Vl [] (fun x23=>([(5,.osl 0)],[],[Sq4 x23])) Ze31 r ?_ fun J1=>?_
  ·intro x23 h;rw [Ze31] at h;refine Vg 3 ?_;refine Zjj 0 (Ds ?_);have ⟨x24,ex24,h⟩:=Bs h;refine Zud trivial (Z9s ex24) (h:=?_);refine Vg 2 ?_;exact Zae Z4d ok h rfl rfl
  ·refine Vg 1 ?_;refine Zcb 5 3 1 rfl rfl (Ds ?_);refine Ml h [1,1,3,1,6,2] (fun s=>([(14,.iv s.1)],[],[Sq4 s.2])) ?_;rintro n1 ⟨x10,x11⟩ y1 h hin1 hout1;rw [Zg31] at h;refine Vg 5 ?_;refine MI h (fun h=>?_) fun h=>?_
   ·refine Vg 5 ?_;have ⟨x12,ex12,h⟩:=Bs h;refine Zjc Edge.row ex12 trivial rfl rfl rfl (Vg 16 ?_);refine Vl [1,1,3,1,6,3] (fun x15=>([],[],[Sq4 x15])) (Zf31 x10) y1 ?_ fun J2=>?_
    ·intro x15 h;rw [Zf31] at h;exact W
    ·refine MI h (fun h=>?_) fun h=>?_
     ·refine Vg 5 ?_;have ⟨x13,ex13,h⟩:=Bs h;refine Zmc Z4d ex13 trivial rfl rfl rfl (Vg 2 ?_);refine Zij 2 0 ?_;exact W
     ·refine Vg 7 ?_;refine MI h (fun h=>?_) fun h=>?_
      ·refine Vg 5 ?_;have ⟨x14,ex14,h⟩:=Bs h;refine Zmc Z4d ex14 trivial rfl rfl rfl (Vg 2 ?_);refine Zij 2 0 ?_;exact W
      ·exact W
   ·exact W
theorem Zj31 {x1 x2 r} (h:Zh31 x1 x2=some r):FPx 148 [.agg (Graph.row x1),.iv x2] (Sp1 r):=(Zi31 h).sealed
def Zk31:(List Int×Int)→Option (List Int×Int)
| (x27,x28)=>some (x27,x28)
def Zl31 (x1:Graph):(List Int×Int)→Option ((List Int×Int) ⊕ (List Int×Int))
| (x18,x19)=>
 (Z2l x18 0).bind fun x20=>
 ifb x20 (
 (Zd11 x1 x18).bind fun x21=>
 some (.inl (x21,wr (x19+1)))) (
 Option.map Sum.inr (Zk31 (x18,x19)))
def Zm31 (x1:Graph):List Int→Option (List Int×Int)
| x13=>loop (Zl31 x1) (x13,0)
def Zn31 (x1:Graph):(Int×List Int)→Option ((Int×List Int) ⊕ (List Int×Int))
| (x5,x6)=>
 ifb (decide (x5<x1.N)) (
 (Z8c 8 x6 ([0])).bind fun x7=>
 some (.inl (wr (x5+1),x7))) (
 Option.map Sum.inr ((Zm31 x1) x6))
def Zo31 (x1:Graph):Option (List Int×Int):=loop (Zn31 x1) (0,([]:List Int))
theorem Zp31 {x1 r} (h:Zo31 x1=some r):FPx 89 [.agg (Graph.row x1)] (.tup [Sp1 r.1,.iv r.2]):=by
 have ok:=oJ 89 Tryz.f89 [.t 2,.t 3] 1 25;refine FP ok fun w0 H0=>?_;rw [Zo31] at h;refine Vg 17 ?_;refine Vm [1,1,2,2] (fun x13=>([],[],[],[(0,Sq4 x13)])) (Zm31 x1) r ?_ fun J1=>?_
 ·intro x13 h;rw [Zm31] at h;refine Vg 1 ?_;refine Vl [] (fun s=>([(4,Sp1 s.1),(5,.iv s.2)],[],[])) Zk31 r ?_ fun J2=>?_
  ·rintro ⟨x27,x28⟩ h;rw [Zk31] at h;exact W
  ·refine Vg 1 ?_;refine Zjj 0 (Ds ?_);refine Ml h [1,1] (fun s=>([(4,Sp1 s.1),(5,.iv s.2)],[some ⟨24,Graph.row x1⟩],[])) ?_;rintro n1 ⟨x18,x19⟩ y1 h hin1 hout1;rw [Zl31] at h;refine Vg 4 ?_;refine VB h Z3l fun _ _ h=>?_;refine Vg 1 ?_;refine MI h (fun h=>?_) fun h=>?_
   ·refine Vg 6 ?_;refine VB h Zf11 fun _ _ h=>?_;exact W
   ·exact W
 ·refine Vg 1 ?_;refine Mm h [1,1,2,2] (fun s=>([(6,.iv s.1)],[],[],[(0,Sq4 s.2)])) ?_;rintro n1 ⟨x5,x6⟩ y1 h hin1 hout1;rw [Zn31] at h;refine Vg 8 ?_;refine MI h (fun h=>?_) fun h=>?_
  ·refine Vg 6 ?_;have ⟨x7,ex7,h⟩:=Bs h;refine Zmc Z4d ex7 trivial rfl rfl rfl (Vg 8 ?_);refine Zij 2 0 ?_;exact W
  ·exact W
def Zq31 (x1:DK):List KE→Option (NO×Bool)
| x30=>
 (Zo11 (NO.mk x1 (BK.mk 0 (([]:List SE))) x30 (([]:List Int)) (([]:List KE)))).bind fun x31=>
 ifb (!x31) (
 some ((NO.mk (DK.mk (DI.mk 0 0 (([]:List SX))) 0 (([]:List Int))) (BK.mk 0 (([]:List SE))) (([]:List KE)) (([]:List Int)) (([]:List KE))),false)) (
 some ((NO.mk x1 (BK.mk 0 (([]:List SE))) x30 (([]:List Int)) (([]:List KE))),true))
def Zr31 (x1:DK):(Int×List KE)→Option ((Int×List KE) ⊕ (NO×Bool))
| (x7,x8)=>
 ifb (decide (x7<(ln SX.row x1.DI.SD))) (
 (at_ x1.DI.SD x7).bind fun x9=>
 (at_ x1.DI.SD x7).bind fun x10=>
 (Z8c 16 x8 ([KE.mk x9.PE x10.EP])).bind fun x11=>
 some (.inl (wr (x7+1),x11))) (
 Option.map Sum.inr ((Zq31 x1) x8))
def Zs31 (x1:DK):Option (NO×Bool):=loop (Zr31 x1) (0,([]:List KE))
theorem Zt31 {x1 r} (h:Zs31 x1=some r):FPx 25 [.agg (DK.row x1)] (.tup [.agg (NO.row r.1),.bv r.2]):=by
 have ok:=oJ 25 Tryz.f25 [.c 2 (some 10),.t 3] 1 40;refine FP ok fun w0 H0=>?_;rw [Zs31] at h;refine Vg 18 ?_;refine Vl [2,1,1,1] (fun x30=>([],[none,some ⟨67,[.iv 0,.iv 0,.nl,.iv 0,.nl,.iv 0,.nl,.nl,.nl,.nl]⟩,some ⟨67,[.iv x1.DI.ID,.iv x1.DI.PH,Sp3 x1.DI.SD,.iv x1.TH,Sp1 x1.NE,.iv 0,.nl,.osl 0,.nl,.nl]⟩],[Z6k x30])) (Zq31 x1) r ?_ fun J1=>?_
 ·intro x30 h;rw [Zq31] at h;refine Vg 4 ?_;refine VN (LR.slice 0 rfl) h Zp11 fun _ _ h=>?_;refine Vg 2 ?_;refine MI h (fun h=>?_) fun h=>?_
  ·exact W
  ·refine Vg 7 ?_;refine Zjj 0 ?_;exact W
 ·refine Vg 1 ?_;refine Zkj 2 7 121 2 (Ds ?_);refine Mm h [1,2,1,1] (fun s=>([(5,.iv s.1)],[],[],[(0,Z6k s.2)])) ?_;rintro n1 ⟨x7,x8⟩ y1 h hin1 hout1;rw [Zr31] at h;refine Vg 10 ?_;refine MI h (fun h=>?_) fun h=>?_
  ·refine Vg 3 ?_;refine Zgj fun all H=>Ds (GP H 9 12 [1,1,4,3,4,8] [(16,[.ptr 2 7]),(1,[.ptr 0 0,.ptr 0 2,Sp3 x1.DI.SD,.iv x7]),(3,[.ptr 0 0,.ptr 0 2,Sp3 x1.DI.SD,.iv x7])] (Ds ?_));have ⟨x9,ex9,h⟩:=Bs h;refine Zkc H.1 H.2.1 H.2.2.1 H.2.2.2 6 SX.row ex9 rfl rfl trivial rfl rfl rfl rfl (Gn H 2 9 ?_);have ⟨x10,ex10,h⟩:=Bs h;refine Zkc H.1 H.2.1 H.2.2.1 H.2.2.2 13 SX.row ex10 rfl rfl trivial rfl rfl rfl rfl (GP H 3 5 [1,1,15,4] [(30,[.elt (SX.row x10) 1,.iv x10.EP,.agg [.iv x9.PE,.iv x10.EP]])] (Ds ?_));refine Zoa 1 17 rfl ?_ ?_
   ·refine RV ?_;refine R1 ?_;refine Zna 18 rfl ?_;have ⟨x11,ex11,h⟩:=Bs h;refine GA KE.row ex11 H.1 ?_;refine Gn H 1 1 ?_;refine R1 ?_;refine GD (Vg 6 ?_);refine Zij 2 0 ?_;exact W
   ·refine RV ?_;refine R1 ?_;refine Zna 18 rfl ?_;have ⟨x11,ex11,h⟩:=Bs h;refine GA KE.row ex11 H.1 ?_;refine Gn H 1 1 ?_;refine R1 ?_;refine GD (Vg 6 ?_);refine Zij 2 0 ?_;exact W
  ·exact W
def Zu31:Bool→Option Bool
| x5=>some x5
def Zv31 (x1 x2:HL):Option Bool:=
 (Zmr x1.NS x2.NS ((fun z=>Zr01 z.1 z.2))).bind fun x3=>
 ifb x3 (
 (Zrr x1.ML x2.ML).bind fun x4=>
 Zu31 x4) (
 Zu31 false)
theorem Zw31 {x1 x2 r} (h:Zv31 x1 x2=some r):FPx 19 [.agg (HL.row x1),.agg (HL.row x2)] (.bv r):=by
 have ok:=oJ 19 Tryz.f19 [.t 4] 2 15;refine FP ok fun w0 H0=>?_;rw [Zv31] at h;refine Vg 12 ?_;refine VB h (fun e=>Znr e ⟨by kernel_rfl,rfl,fun z r hz=>Zs01 hz⟩) fun _ _ h=>?_;refine Vg 1 ?_;refine Vl [] (fun x5=>([(4,.bv x5)],[],[])) Zu31 r ?_ fun J1=>?_
 ·intro x5 h;rw [Zu31] at h;exact W
 ·refine MC 10 h (fun h=>?_) fun h=>?_
  ·refine Vg 4 ?_;refine VB h Zsr fun _ _ h=>?_;exact W
  ·exact W
def Zx31 (x1:List Int) (x2:Int):Option (List Int):=
 (Z021 x1 ([x2])).bind fun x3=>
 some x3
theorem Zy31 {x1 x2 r} (h:Zx31 x1 x2=some r):FPx 80 [Sp1 x1,.iv x2] (Sp1 r):=by have ok:=oJ 80 Tryz.f80 [.t 4] 2 7;refine FP ok fun w0 H0=>?_;rw [Zx31] at h;refine Vg 9 ?_;refine Zjj 0 (Ds ?_);refine VB h Z121 fun _ _ h=>?_;exact W
def Zz31 (x1 x2:List Int):Option Bool:=
 (Z021 x1 x2).bind fun x3=>
 some (decide ((ln Z4d x3)=0))
theorem Z041 {x1 x2 r} (h:Zz31 x1 x2=some r):FPx 116 [Sp1 x1,Sp1 x2] (.bv r):=by have ok:=oJ 116 Tryz.f116 [.t 4] 2 8;refine FP ok fun w0 H0=>?_;rw [Zz31] at h;refine Vg 8 ?_;refine VB h Z121 fun _ _ h=>?_;exact W
def Z141 (x1:BK) (x2:Int):Int→Option (BK×Int)
| x6=>
 ifb (!decide (x6=0)) (
 some ((BK.mk 0 (([]:List SE))),x6)) (
 (Zax x1).bind fun x7=>
 (Zms (BK.mk x1.LA x7) x2).bind fun x8=>
 (Zks x8 (wr (x8+1)) x7).bind fun x11=>
 some ((BK.mk x1.LA x11),0))
def Z241 (x1:BK) (x2:Int) (x4:(Int×Int)):Bool→Option (BK×Int)
| x5=>
 ifb x5 (
 (Z141 x1 x2) 175) (
 (Z141 x1 x2) x4.2)
def Z341 (x1:BK) (x2:Int) (x3:Int):Option (BK×Int):=
 (Z821 x1 x2).bind fun x4=>
 ifb (decide (x4.2=0)) (
 (Z241 x1 x2 x4) (!decide (x4.1=x3))) (
 (Z241 x1 x2 x4) false)
theorem Z441 {x1 x2 x3 r} (h:Z341 x1 x2 x3=some r):FPx 168 [.agg (BK.row x1),.iv x2,.iv x3] (.tup [.agg (BK.row r.1),.iv r.2]):=by
 have ok:=oJ 168 Tryz.f168 [.c 6 (some 2),.t 7] 3 38;refine FP ok fun w0 H0=>?_;rw [Z341] at h;refine Vg 10 ?_;refine VB h Z921 fun x4 _ h=>?_;refine Vg 12 ?_;refine Vk [1,1,1,1,2,1,2,1] (fun x5=>[(22,.bv x5)]) (Z241 x1 x2 x4) r ?_ fun J1=>?_
 ·intro x5 h;rw [Z241] at h;refine Vk [1,1,1,1,2,1] (fun x6=>[(9,.iv x6)]) (Z141 x1 x2) r ?_ fun J2=>?_
  ·intro x6 h;rw [Z141] at h;refine Vg 6 ?_;refine MI h (fun h=>?_) fun h=>?_
   ·exact W
   ·refine Vg 4 ?_;refine VR [] [] 2 0 h Zbx fun _ _ h=>?_;refine Vg 3 ?_;refine Zgj fun all H=>?_;refine Gn H 3 9 ?_;refine Zpa 1 2 5 rfl ?_ ?_ ?_
    ·refine RV ?_;refine Zoa 2 5 rfl ?_ ?_
     ·refine RV ?_;have ⟨x8,ex8,h⟩:=Bs h;refine Zoa 4 5 rfl ?_ ?_
      ·refine GK H.1 (LR.slice 0 rfl) (Zns ex8) (Ds ?_);refine R1 ?_;refine Zna 7 rfl (GK H.1 (LR.slice 0 rfl) (Zns ex8) ?_);refine Gn H 1 3 ?_;refine RR [] [0] 2 1 h Zls fun x11 ex11 h=>?_;refine Gn H 1 1 ?_;refine R1 ?_;refine GD (Vg 6 ?_);refine Zjj 1 ?_;exact W
      ·refine RV ?_;refine Zna 4 rfl (GK H.1 (LR.slice 0 rfl) (Zns ex8) (Ds ?_));refine Zna 7 rfl (GK H.1 (LR.slice 0 rfl) (Zns ex8) ?_);refine Gn H 1 3 ?_;refine RR [] [0] 2 1 h Zls fun x11 ex11 h=>?_;refine Gn H 1 1 ?_;refine R1 ?_;refine GD (Vg 6 ?_);refine Zjj 1 ?_;exact W
     ·refine RV ?_;refine R1 ?_;refine RQ (LR.slice 0 rfl) h Zns fun x8 ex8 h=>?_;refine Zna 7 rfl (GK H.1 (LR.slice 0 rfl) (Zns ex8) ?_);refine Gn H 1 3 ?_;refine RR [] [0] 2 1 h Zls fun x10 ex10 h=>?_;refine Gn H 1 1 ?_;refine R1 ?_;refine GD (Vg 6 ?_);refine Zjj 1 ?_;exact W
    ·refine RV ?_;have ⟨x8,ex8,h⟩:=Bs h;refine Zpa 1 4 5 rfl ?_ ?_ ?_
     ·refine RV ?_;refine Zoa 4 5 rfl ?_ ?_
      ·refine GK H.1 (LR.slice 0 rfl) (Zns ex8) (Ds ?_);refine R1 ?_;refine Zna 7 rfl (GK H.1 (LR.slice 0 rfl) (Zns ex8) ?_);refine Gn H 1 3 ?_;refine RR [] [0] 2 1 h Zls fun x11 ex11 h=>?_;refine Gn H 1 1 ?_;refine R1 ?_;refine GD (Vg 6 ?_);refine Zjj 1 ?_;exact W
      ·refine RV ?_;refine Zna 4 rfl (GK H.1 (LR.slice 0 rfl) (Zns ex8) (Ds ?_));refine Zna 7 rfl (GK H.1 (LR.slice 0 rfl) (Zns ex8) ?_);refine Gn H 1 3 ?_;refine RR [] [0] 2 1 h Zls fun x11 ex11 h=>?_;refine Gn H 1 1 ?_;refine R1 ?_;refine GD (Vg 6 ?_);refine Zjj 1 ?_;exact W
     ·refine GK H.1 (LR.slice 0 rfl) (Zns ex8) (Ds ?_);refine Zoa 1 5 rfl ?_ ?_
      ·refine RV ?_;refine R1 ?_;refine Zna 7 rfl (GK H.1 (LR.slice 0 rfl) (Zns ex8) ?_);refine Gn H 1 3 ?_;refine RR [] [0] 2 1 h Zls fun x11 ex11 h=>?_;refine Gn H 1 1 ?_;refine R1 ?_;refine GD (Vg 6 ?_);refine Zjj 1 ?_;exact W
      ·refine RV ?_;refine Zoa 1 7 rfl ?_ ?_
       ·refine RV ?_;refine Zna 7 rfl (GK H.1 (LR.slice 0 rfl) (Zns ex8) ?_);refine Gn H 1 3 ?_;refine RR [] [0] 2 1 h Zls fun x11 ex11 h=>?_;refine Gn H 1 1 ?_;refine R1 ?_;refine GD (Vg 6 ?_);refine Zjj 1 ?_;exact W
       ·refine GK H.1 (LR.slice 0 rfl) (Zns ex8) ?_;refine Gn H 1 4 ?_;refine R1 ?_;refine RR [] [0] 2 1 h Zls fun x11 ex11 h=>?_;refine Gn H 1 1 ?_;refine R1 ?_;refine GD (Vg 6 ?_);refine Zjj 1 ?_;exact W
     ·refine RV ?_;refine Zoa 1 4 rfl ?_ ?_
      ·refine RV ?_;refine Zna 4 rfl (GK H.1 (LR.slice 0 rfl) (Zns ex8) (Ds ?_));refine Zna 7 rfl (GK H.1 (LR.slice 0 rfl) (Zns ex8) ?_);refine Gn H 1 3 ?_;refine RR [] [0] 2 1 h Zls fun x11 ex11 h=>?_;refine Gn H 1 1 ?_;refine R1 ?_;refine GD (Vg 6 ?_);refine Zjj 1 ?_;exact W
      ·refine GK H.1 (LR.slice 0 rfl) (Zns ex8) (Ds ?_);refine Zoa 1 7 rfl ?_ ?_
       ·refine RV ?_;refine Zna 7 rfl (GK H.1 (LR.slice 0 rfl) (Zns ex8) ?_);refine Gn H 1 3 ?_;refine RR [] [0] 2 1 h Zls fun x11 ex11 h=>?_;refine Gn H 1 1 ?_;refine R1 ?_;refine GD (Vg 6 ?_);refine Zjj 1 ?_;exact W
       ·refine GK H.1 (LR.slice 0 rfl) (Zns ex8) ?_;refine Gn H 1 4 ?_;refine R1 ?_;refine RR [] [0] 2 1 h Zls fun x11 ex11 h=>?_;refine Gn H 1 1 ?_;refine R1 ?_;refine GD (Vg 6 ?_);refine Zjj 1 ?_;exact W
    ·refine RV ?_;refine Zoa 1 2 rfl ?_ ?_
     ·refine RV ?_;refine R1 ?_;refine RQ (LR.slice 0 rfl) h Zns fun x8 ex8 h=>?_;refine Zna 7 rfl (GK H.1 (LR.slice 0 rfl) (Zns ex8) ?_);refine Gn H 1 3 ?_;refine RR [] [0] 2 1 h Zls fun _ _ h=>?_;refine Gn H 1 1 ?_;refine R1 ?_;refine GD (Vg 6 ?_);refine Zjj 1 ?_;exact W
     ·refine RV ?_;have ⟨x8,ex8,h⟩:=Bs h;refine Zoa 1 4 rfl ?_ ?_
      ·refine RV ?_;refine Zna 4 rfl (GK H.1 (LR.slice 0 rfl) (Zns ex8) (Ds ?_));refine Zna 7 rfl (GK H.1 (LR.slice 0 rfl) (Zns ex8) ?_);refine Gn H 1 3 ?_;refine RR [] [0] 2 1 h Zls fun x11 ex11 h=>?_;refine Gn H 1 1 ?_;refine R1 ?_;refine GD (Vg 6 ?_);refine Zjj 1 ?_;exact W
      ·refine GK H.1 (LR.slice 0 rfl) (Zns ex8) (Ds ?_);refine Zoa 1 7 rfl ?_ ?_
       ·refine RV ?_;refine Zna 7 rfl (GK H.1 (LR.slice 0 rfl) (Zns ex8) ?_);refine Gn H 1 3 ?_;refine RR [] [0] 2 1 h Zls fun x11 ex11 h=>?_;refine Gn H 1 1 ?_;refine R1 ?_;refine GD (Vg 6 ?_);refine Zjj 1 ?_;exact W
       ·refine GK H.1 (LR.slice 0 rfl) (Zns ex8) ?_;refine Gn H 1 4 ?_;refine R1 ?_;refine RR [] [0] 2 1 h Zls fun _ _ h=>?_;refine Gn H 1 1 ?_;refine R1 ?_;refine GD (Vg 6 ?_);refine Zjj 1 ?_;exact W
  ·exact W
 ·exact W
@[go_sem] def e187:EC:=eQ Tryz.f187
theorem Z541:FnOK Tryz.prog 187 Tryz.f187 e187 [.c 6 (some 3),.t 7] 3 66:=okA
@[go_sem] def e232:EC:=eQ Tryz.f232
theorem Z641:FnOK Tryz.prog 232 Tryz.f232 e232 [.c 2 (some 3),.t 3,.t 4] 1 111:=okA
def Z741:Bool→Option Int
| x7=>
 ifb x7 (
 some 150) (
 some 0)
def Z841 (x1:DK):Bool→Option Int
| x5=>
 ifb x5 (
 Z741 x5) (
 (Z1s x1.NE ((fun z=>Zjx z x1))).bind fun x6=>
 Z741 x6)
def Z941 (x1:DK):Bool→Option Int
| x3=>
 ifb x3 (
 some 150) (
 (Zml x1.NE).bind fun x4=>
 ifb (!x4) (
 Z741 (!x4)) (
 ifb (decide (x1.TH=0)) (
 (Z841 x1) (decide (0<(ln Z4d x1.NE)))) (
 (Z841 x1) false)))
def Za41 (x1:DK):Option Int:=
 (Zb21 x1.DI).bind fun x2=>
 ifb (!decide (x2=0)) (
 (Z941 x1) (!decide (x2=0))) (
 ifb (decide (x1.TH<0)) (
 (Z941 x1) (decide (x1.TH<0))) (
 (Z941 x1) (decide (2<x1.TH))))
theorem Zb41 {x1 r} (h:Za41 x1=some r):FPx 55 [.agg (DK.row x1)] (.iv r):=by
 have ok:=oJ 55 Tryz.f55 [.t 2] 1 33;refine FP ok fun w0 H0=>?_;rw [Za41] at h;refine Vg 17 ?_;refine VB h Zc21 fun _ _ h=>?_;refine Vg 3 ?_;refine Vk [1,1,1,1] (fun x3=>[(5,.bv x3)]) (Z941 x1) r ?_ fun J1=>?_
 ·intro x3 h;rw [Z941] at h;refine MI h (fun h=>?_) fun h=>?_
  ·exact W
  ·refine Vg 5 ?_;refine VB h Znl fun _ _ h=>?_;refine Vg 3 ?_;refine Vl [] (fun x7=>([(16,.bv x7)],[],[])) Z741 r ?_ fun J2=>?_
   ·intro x7 h;rw [Z741] at h;exact W
   ·refine MI h (fun h=>?_) fun h=>?_
    ·exact W
    ·refine Vg 6 ?_;refine Vk [1,1,1,1] (fun x5=>[(16,.bv x5)]) (Z841 x1) r ?_ fun J3=>?_
     ·intro x5 h;rw [Z841] at h;refine MI h (fun h=>?_) fun h=>?_
      ·exact W
      ·refine Vg 4 ?_;refine VN (LR.block 0 rfl rfl) h (fun e=>Z2s e ⟨by kernel_rfl,rfl,fun z r hz=>Zkx hz⟩) fun _ _ h=>?_;exact W
     ·exact W
 ·exact W
@[go_sem] def e70:EC:=eQ Tryz.f70
theorem ok70:FnOK Tryz.prog 70 Tryz.f70 e70 [] 2 40:=okA
def Zc41 (x2:Int) (x14:(Int×Bool)):List KE→Option (List KE)
| x16=>
 (at_ x16 x14.1).bind fun x17=>
 some (x16.set (Int.toNat (x14.1)) (KE.mk x17.PE x2))
def Zd41 (x1 x2:Int) (_x3 _x4:Int) (_x5 _x6 _x7:Int) (_x8:List SX) (_x9:List Int) (_x10:List SE) (x11:List KE) (_x12:List Int) (_x13:List KE):Option (List KE):=
 (Zon x11 x1 ((fun z=>Zqn z.1 z.2))).bind fun x14=>
 ifb (!x14.2) (
 (Zj21 x11 x14.1 ([KE.mk x1 0])).bind fun x15=>
 (Zc41 x2 x14) x15) (
 (Zc41 x2 x14) x11)
theorem Ze41 {x1 x2 x3 x4 x5 x6 x7 x8 x9 x10 x11 x12 x13 r} (h:Zd41 x1 x2 x3 x4 x5 x6 x7 x8 x9 x10 x11 x12 x13=some r):FTx 132 [.ptr 0 0,.iv x1,.iv x2] [some ⟨138,[.iv x3,.iv x4,.osl 0,.iv x5,.osl 1,.iv x6,.osl 2,.osl 3,.osl 4,.osl 5,.nl,.nl,.iv x7]⟩] [Z5k x8,Sq4 x9,Z3k x10,Z6k x11,Sq4 x12,Z6k x13] (.tup []) [some ⟨138,[.iv x3,.iv x4,.osl 0,.iv x5,.osl 1,.iv x6,.osl 2,.osl 7,.osl 4,.osl 5,.nl,.nl,.iv x7]⟩] [Z5k x8,Sq4 x9,Z3k x10,none,Sq4 x12,Z6k x13,none,Z6k r]:=by
 refine Ft Zg21 fun w0 M0=>?_;have ok:=Zg21;rw [Zd41] at h;refine Vg 8 ?_;refine VN (LR.slice 3 rfl) h (fun e=>Zpn e ⟨by kernel_rfl,rfl,fun z r hz=>Zrn hz⟩) fun x14 _ h=>?_;refine Vg 12 ?_;refine Vl [0,1,1,1,3,1] (fun x16=>([],[some ⟨138,[.iv x3,.iv x4,.osl 0,.iv x5,.osl 1,.iv x6,.osl 2,.osl 7,.osl 4,.osl 5,.nl,.nl,.iv x7]⟩],[Z5k x8,Sq4 x9,Z3k x10,none,Sq4 x12,Z6k x13,none,Z6k x16])) (Zc41 x2 x14) r ?_ fun J1=>?_
 ·intro x16 h;rw [Zc41] at h;refine Vg 8 ?_;have ⟨x17,ex17,h⟩:=Bs h;refine Zee KE.row ex17 trivial rfl rfl rfl (Vg 1 ?_);refine Zve [.iv x2] KE.row (y':=(KE.mk x17.PE x2)) ex17 trivial rfl rfl rfl (by first | exact Zrb _ | simp [go_sem]) rfl rfl rfl rfl ?_;exact W
 ·refine MI h (fun h=>?_) fun h=>?_
  ·refine Vg 11 ?_;refine VR [] [3,6] 1 7 h Zk21 fun _ _ h=>?_;exact W
  ·refine Vg 1 ?_;refine Zlj 121 2 (Ds ?_);refine Zlj 121 2 (Ds ?_);refine Zij 3 7 ?_;exact W
end
end NX
end Go.Proofs.YtgamgemlekpepaaGreat
