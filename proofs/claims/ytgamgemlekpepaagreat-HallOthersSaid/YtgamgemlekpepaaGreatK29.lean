/-
  The function slices.ContainsFunc[[]narthex/api.Edge,narthex/api.Edge]: its code compiled, a model, and that the code answers as the model. Written by a program of ours (lb.py). No statement of the seat is proved here.
-/
import Derived.Test.YtgamgemlekpepaaGreatK23
import Derived.Test.YtgamgemlekpepaaGreatK24
import Derived.Test.YtgamgemlekpepaaGreatK25
import Derived.Test.YtgamgemlekpepaaGreatK26
set_option maxRecDepth 100000
set_option maxHeartbeats 40000000
namespace Go.Proofs.YtgamgemlekpepaaGreat
namespace NX
open Go
noncomputable section
def Znu (x1:List Edge) (p1:(Edge→Option Bool)):Option Bool:=
 (Zso x1 p1).bind fun x2=>
 some (decide (0≤x2))
theorem Zou {x1 g1 caps1 p1 r} (h:Znu x1 p1=some r) (hc1:CloOK Tryz.prog g1 caps1 (fun z=>[.agg (Edge.row z)]) p1 (fun z=>.bv z)):FPx 191 [Sp8 x1,.clo g1 caps1] (.bv r):=by have ok:=oJ 191 Tryz.f191 [.t 4] 2 7;refine FP ok fun w0 H0=>?_;rw [Znu] at h;refine Vg 8 ?_;refine VB h (fun e=>Zto e hc1) (fun _ _ h=>?_) (hp:=(by first | rfl | simp [go_sem,hc1.pu]));refine Vg 3 ?_;exact MD ok h
def Zpu (x1 x2:Int):Option Int:=
 (Zxo x1).bind fun x3=>
 (Zxo x2).bind fun x4=>
 ifb x3 (
 ifb x4 (
 some 0) (
 some (-1))) (
 ifb x4 (
 some 1) (
 ifb (decide (x1<x2)) (
 some (-1)) (
 ifb (decide (x2<x1)) (
 some 1) (
 some 0))))
theorem Zqu {x1 x2 r} (h:Zpu x1 x2=some r):FPx 216 [.iv x1,.iv x2] (.iv r):=by have ok:=oJ 216 Tryz.f216 [.t 4] 2 18;refine FP ok fun w0 H0=>?_;rw [Zpu] at h;refine Vg 7 ?_;refine VB h Zyo fun _ _ h=>?_;refine Vg 5 ?_;refine VB h Zyo fun _ _ h=>?_;exact W
def Zru:Unit→Option Bool
| ()=>some true
def Zsu (x8:Int):Bool→Option (Int ⊕ Bool)
| x12=>
 ifb x12 (
 Option.map Sum.inr (some false)) (
 some (.inl (wr (x8+1))))
def Ztu (x1:Graph):Int→Option (Int ⊕ Bool)
| x8=>
 ifb (decide (x8<(ln Edge.row x1.Edges))) (
 (at_ x1.Edges x8).bind fun x9=>
 ifb (decide (x9.A<0)) (
 (Zsu x8) true) (
 ifb (decide (x9.B≤x9.A)) (
 (Zsu x8) true) (
 ifb (decide (x1.N≤x9.B)) (
 (Zsu x8) true) (
 ifb (decide (0<x8)) (
 (at_ x1.Edges (wr (x8-1))).bind fun x10=>
 (Z8p x10 x9).bind fun x11=>
 (Zsu x8) (!x11)) (
 (Zsu x8) false))))) (
 Option.map Sum.inr (Zru ()))
def Zuu (x1:Graph):Bool→Option Bool
| x2=>
 ifb x2 (
 some false) (
 loop (Ztu x1) 0)
def Zvu (x1:Graph):Option Bool:=
 ifb (decide (x1.N<0)) (
 (Zuu x1) true) (
 ifb (decide (64<x1.N)) (
 (Zuu x1) true) (
 (Zuu x1) (decide (400<(ln Edge.row x1.Edges)))))
theorem Zwu {x1 r} (h:Zvu x1=some r):FPx 8 [.agg (Graph.row x1)] (.bv r):=by
 have ok:=oJ 8 Tryz.f8 [.t 2] 1 62;refine FP ok fun w0 H0=>?_;rw [Zvu] at h;refine Vg 12 ?_;refine Vk [1,1] (fun x2=>[(18,.bv x2)]) (Zuu x1) r ?_ fun J1=>?_
 ·intro x2 h;rw [Zuu] at h;refine MI h (fun h=>?_) fun h=>?_
  ·exact W
  ·refine Vg 6 ?_;refine Vl [] (fun _=>([],[],[])) Zru r ?_ fun J2=>?_
   ·rintro ⟨⟩ h;rw [Zru] at h;exact W
   ·refine Vg 1 ?_;refine Mk h [1,1] (fun x8=>[(3,.iv x8)]) ?_;rintro n1 x8 y1 h hin1 hout1;rw [Ztu] at h;refine Vg 9 ?_;refine MI h (fun h=>?_) fun h=>?_
    ·refine Vg 8 ?_;have ⟨x9,ex9,h⟩:=Bs h;refine Zjc Edge.row ex9 trivial rfl rfl rfl (Vg 5 ?_);refine Vl [1,1,1,1] (fun x12=>([(62,.bv x12)],[some ⟨24,Graph.row x1⟩],[])) (Zsu x8) y1 ?_ fun J3=>?_
     ·intro x12 h;rw [Zsu] at h;exact W
     ·refine Zgj fun all H=>Ds (GP H 4 28 [4,28] [(31,[.ptr 1 0,.iv x9.A,.bv (decide (x9.A<0)),.bv (decide (x9.A<0))])] (Ds ?_));refine Zdd 34 h rfl (fun _ h=>?_) fun _ h=>?_
      ·refine Ds (GP H 28 0 [32] [(35,[.un,.un,.un,.un,.un,.tt,.tt,.un,.un,.un,.un,.un,.tt,.tt,.un,.un,.un,.un,.un,.un,.un,.un,.un,.un,.un,.un,.un,.tt])] (Ds ?_));refine GD ?_;exact W
      ·refine Ds (GP H 7 21 [11,21] [(35,[.ptr 1 0,.iv x9.A,.ptr 1 1,.iv x9.B,.bv (decide (x9.B≤x9.A)),.bv (decide (x9.B≤x9.A)),.bv (decide (x9.B≤x9.A))])] (Ds ?_));refine Zdd 41 h rfl (fun _ h=>?_) fun _ h=>?_
       ·refine Ds (GP H 21 0 [32] [(42,[.un,.un,.un,.un,.un,.tt,.tt,.un,.un,.un,.un,.un,.un,.un,.un,.un,.un,.un,.un,.un,.tt])] (Ds ?_));refine GD ?_;exact W
       ·refine Ds (GP H 7 14 [18,14] [(42,[.ptr 1 1,.iv x9.B,.ptr 0 0,.iv x1.N,.bv (decide (x1.N≤x9.B)),.bv (decide (x1.N≤x9.B)),.bv (decide (x1.N≤x9.B))])] (Ds ?_));refine Zdd 48 h rfl (fun _ h=>?_) fun _ h=>?_
        ·refine Ds (GP H 14 0 [32] [(49,[.un,.un,.un,.un,.un,.un,.un,.un,.un,.un,.un,.un,.un,.tt])] (Ds ?_));refine GD ?_;exact W
        ·refine Ds (GP H 3 11 [21,11] [(49,[.iv x8,.bv (decide (0<x8)),.bv (decide (0<x8))])] (Ds ?_));refine Zdd 51 h rfl (fun _ h=>?_) fun _ h=>?_
         ·refine Ds (GP H 5 6 [25,2,1,4] [(52,[.ptr 0 1,Sp8 x1.Edges,.iv x8,.iv (wr (x8-1))]),(2,[.agg (Edge.row x9)])] (Ds ?_));have ⟨x10,ex10,h⟩:=Bs h;refine Zkc H.1 H.2.1 H.2.2.1 H.2.2.2 25 Edge.row ex10 rfl rfl trivial rfl rfl rfl rfl (Gn H 1 4 ?_);refine RB h Z9p fun x11 _ h=>?_;refine GP H 3 0 [32] [(60,[.bv (!x11),.bv (!x11),.bv (!x11)])] (Ds ?_);refine GD ?_;exact W
         ·refine Ds (GP H 11 0 [32] [(52,[.un,.un,.un,.un,.un,.un,.un,.un,.un,.ff,.ff])] (Ds ?_));refine GD ?_;exact W
    ·exact W
 ·exact W
def Zxu:List DI→Option (List DI)
| x64=>some x64
def Zyu (x29:Int) (x30:List DI):List SX→Option ((Int×List DI) ⊕ (List DI))
| x56=>
 (Z8c 40 x30 ([DI.mk x29 0 x56])).bind fun x57=>
 some (.inl (wr (x29+1),x57))
def Zzu (x39:Int):List SX→Option ((Int×List SX) ⊕ ((Int×List DI) ⊕ (List DI)))
| x46=>some (.inl (wr (x39+1),x46))
def Z0v (x39:Int) (x40:List SX):SX→Option ((Int×List SX) ⊕ ((Int×List DI) ⊕ (List DI)))
| x44=>
 (Z8c 32 x40 ([x44])).bind fun x45=>
 (Zzu x39) x45
def Z1v (x1:Graph) (x2:List Int) (x29:Int) (x30:List DI):(Int×List SX)→Option ((Int×List SX) ⊕ ((Int×List DI) ⊕ (List DI)))
| (x39,x40)=>
 ifb (decide (x39<x1.N)) (
 (Zdp x1 x29 x39).bind fun x41=>
 ifb (!x41) (
 (Zzu x39) x40) (
 (at_ x2 x29).bind fun x42=>
 (at_ x2 x39).bind fun x43=>
 ifb (decide (x42<x43)) (
 (Z0v x39 x40) (SX.mk x39 1 0 false false true false true)) (
 (Z0v x39 x40) (SX.mk x39 1 0 true true false true false)))) (
 Option.map Sum.inr ((Zyu x29 x30) x40))
def Z2v (x1:Graph) (x2:List Int):(Int×List DI)→Option ((Int×List DI) ⊕ (List DI))
| (x29,x30)=>
 ifb (decide (x29<x1.N)) (
 loop (Z1v x1 x2 x29 x30) (0,([]:List SX))) (
 Option.map Sum.inr (Zxu x30))
def Z3v (x1:Graph) (x2:List Int):Option (List DI):=loop (Z2v x1 x2) (0,([]:List DI))
theorem Z4v {x1 x2 r} (h:Z3v x1 x2=some r):FOx 90 [.agg (Graph.row x1),Sp1 x2] 58 3 (List.map DI.row r):=by
 have ok:=oJ 90 Tryz.f90 [.t 4] 2 55;refine Zrd ok rfl fun w0 H0=>?_;rw [Z3v] at h;refine Vg 15 ?_;refine Vl [5,1] (fun x64=>([],[],[Zak x64])) Zxu r ?_ fun J1=>?_
 ·intro x64 h;rw [Zxu] at h;refine Vg 5 ?_;exact Zae DI.row ok h rfl rfl
 ·refine Vg 1 ?_;refine Mm h [1,2,2,1] (fun s=>([(6,.iv s.1)],[],[],[(0,Zak s.2)])) ?_;rintro n1 ⟨x29,x30⟩ y1 h hin1 hout1;rw [Z2v] at h;refine Vg 8 ?_;refine MI h (fun h=>?_) fun h=>?_
  ·refine Vg 15 ?_;refine Vl [1,2,2,3] (fun x56=>([],[some ⟨24,Graph.row x1⟩,some ⟨58,[.iv x29,.iv 0,.osl 1]⟩],[Zak x30,Z5k x56])) (Zyu x29 x30) y1 ?_ fun J2=>?_
   ·intro x56 h;rw [Zyu] at h;refine Vg 3 ?_;refine Zjj 1 ?_;refine Vg 1 ?_;have ⟨x57,ex57,h⟩:=Bs h;refine Zmc DI.row ex57 trivial rfl rfl rfl (Vg 8 ?_);refine Zij 3 0 ?_;exact W
   ·refine Vg 1 ?_;refine Zkj 1 2 112 8 (Ds ?_);refine Mm h [1,2,2,3] (fun s=>([(8,.iv s.1)],[],[],[(1,Z5k s.2)])) ?_;rintro n2 ⟨x39,x40⟩ y2 h hin2 hout2;rw [Z1v] at h;refine Vg 8 ?_;refine MI h (fun h=>?_) fun h=>?_
    ·refine Vg 2 ?_;refine Vm [1,2,2,4] (fun x46=>([],[],[],[(1,Z5k x46)])) (Zzu x39) y2 ?_ fun J3=>?_
     ·intro x46 h;rw [Zzu] at h;exact W
     ·refine Vg 7 ?_;refine VB h Zep fun _ _ h=>?_;refine Vg 2 ?_;refine MI h (fun h=>?_) fun h=>?_
      ·exact W
      ·refine Vg 10 ?_;have ⟨x42,ex42,h⟩:=Bs h;have ⟨x43,ex43,h⟩:=Bs h;refine Zgj fun all H=>Gs ?_;refine Vm [1,2,2,5] (fun x44=>([],[(2,0,.iv x44.PE),(2,1,.iv x44.EP),(2,2,.iv x44.SS),(2,3,.bv x44.FK),(2,4,.bv x44.DY),(2,5,.bv x44.TO),(2,6,.bv x44.BO),(2,7,.bv x44.Ask)],[],[])) (Z0v x39 x40) y2 ?_ fun J4=>?_
       ·intro x44 h;rw [Z0v] at h;refine Vg 5 ?_;have ⟨x45,ex45,h⟩:=Bs h;refine Zmc SX.row ex45 trivial rfl rfl rfl (Vg 4 ?_);refine Zij 3 1 ?_;exact W
       ·exact W
    ·exact W
  ·exact W
theorem Z5v {x1 x2 r} (h:Z3v x1 x2=some r):FPx 90 [.agg (Graph.row x1),Sp1 x2] (Z9k r):=(Z4v h).sealed
def Z6v (x1:DK):Option DK:=
 (Zvp x1.DI).bind fun x2=>
 (Z8c 8 (([]:List Int)) x1.NE).bind fun x3=>
 some (DK.mk x2 x1.TH x3)
theorem Z7v {x1 r} (h:Z6v x1=some r):FPx 59 [.agg (DK.row x1)] (.agg (DK.row r)):=by have ok:=oJ 59 Tryz.f59 [.c 2 (some 5)] 1 12;refine FP ok fun w0 H0=>?_;rw [Z6v] at h;refine Vg 9 ?_;refine VB h Zwp fun _ _ h=>?_;refine Vg 8 ?_;have ⟨x3,ex3,h⟩:=Bs h;refine Zmc Z4d ex3 trivial rfl rfl rfl (Vg 8 ?_);refine Zjj 1 ?_;exact W
def Z8v:Bool→Option Bool
| x3=>some x3
def Z9v (x1:NO):Option Bool:=
 ifb (decide ((ln SX.row x1.DK.DI.SD)≤70)) (
 ifb (decide ((ln Z4d x1.DK.NE)≤70)) (
 ifb (decide ((ln KE.row x1.KN)≤70)) (
 ifb (decide ((ln Z4d x1.TL)≤70)) (
 ifb (decide ((ln KE.row x1.AK)≤70)) (
 (Z4q x1.BK).bind fun x2=>
 Z8v x2) (
 Z8v false)) (
 Z8v false)) (
 Z8v false)) (
 Z8v false)) (
 Z8v false)
theorem Zav {x1 r} (h:Z9v x1=some r):FPx 31 [.agg (NO.row x1)] (.bv r):=by
 have ok:=oJ 31 Tryz.f31 [.t 2] 1 38;refine FP ok fun w0 H0=>?_;rw [Z9v] at h;refine Vg 14 ?_;refine Vl [] (fun x3=>([(2,.bv x3)],[],[])) Z8v r ?_ fun J1=>?_
 ·intro x3 h;rw [Z8v] at h;exact W
 ·refine MC 9 h (fun h=>?_) fun h=>?_
  ·refine Vg 7 ?_;refine MC 16 h (fun h=>?_) fun h=>?_
   ·refine Vg 6 ?_;refine MC 22 h (fun h=>?_) fun h=>?_
    ·refine Vg 6 ?_;refine MC 28 h (fun h=>?_) fun h=>?_
     ·refine Vg 6 ?_;refine MC 34 h (fun h=>?_) fun h=>?_
      ·refine Vg 2 ?_;refine VB h Z5q fun _ _ h=>?_;exact W
      ·exact W
     ·exact W
    ·exact W
   ·exact W
  ·exact W
def Zbv:Bool→Option Bool
| x5=>some x5
def Zcv (x1 x2:DK):Option Bool:=
 (Z4m x1.DI x2.DI).bind fun x3=>
 ifb x3 (
 ifb (decide (x1.TH=x2.TH)) (
 (Z6l x1.NE x2.NE).bind fun x4=>
 Zbv x4) (
 Zbv false)) (
 Zbv false)
theorem Zdv {x1 x2 r} (h:Zcv x1 x2=some r):FPx 32 [.agg (DK.row x1),.agg (DK.row x2)] (.bv r):=by
 have ok:=oJ 32 Tryz.f32 [.t 4] 2 22;refine FP ok fun w0 H0=>?_;rw [Zcv] at h;refine Vg 12 ?_;refine VB h Z5m fun _ _ h=>?_;refine Vg 1 ?_;refine Vl [] (fun x5=>([(4,.bv x5)],[],[])) Zbv r ?_ fun J1=>?_
 ·intro x5 h;rw [Zbv] at h;exact W
 ·refine MC 10 h (fun h=>?_) fun h=>?_
  ·refine Vg 7 ?_;refine MC 17 h (fun h=>?_) fun h=>?_
   ·refine Vg 4 ?_;refine VB h Z7l fun _ _ h=>?_;exact W
   ·exact W
  ·exact W
def Zev:Unit→Option Bool
| ()=>some true
def Zfv (x11:Int):Bool→Option (Int ⊕ Bool)
| x17=>
 ifb x17 (
 Option.map Sum.inr (some false)) (
 some (.inl (wr (x11+1))))
def Zgv (x11:Int):(SE×SE)→Option (Int ⊕ Bool)
| (x14,x15)=>
 ifb (!decide (x14.ID=x15.ID)) (
 (Zfv x11) true) (
 ifb (!decide (x14.SS=x15.SS)) (
 (Zfv x11) true) (
 ifb (!decide (x14.Age=x15.Age)) (
 (Zfv x11) true) (
 (Z6l x14.NE x15.NE).bind fun x16=>
 (Zfv x11) (!x16))))
def Zhv (x1 x2:BK):Int→Option (Int ⊕ Bool)
| x11=>
 ifb (decide (x11<(ln SE.row x1.SE))) (
 (at_ x1.SE x11).bind fun x12=>
 (at_ x2.SE x11).bind fun x13=>
 (Zgv x11) (x12,x13)) (
 Option.map Sum.inr (Zev ()))
def Ziv (x1 x2:BK):Bool→Option Bool
| x3=>
 ifb x3 (
 some false) (
 loop (Zhv x1 x2) 0)
def Zjv (x1 x2:BK):Option Bool:=
 ifb (!decide (x1.LA=x2.LA)) (
 (Ziv x1 x2) true) (
 (Ziv x1 x2) (!decide ((ln SE.row x1.SE)=(ln SE.row x2.SE))))
theorem Zkv {x1 x2 r} (h:Zjv x1 x2=some r):FPx 33 [.agg (BK.row x1),.agg (BK.row x2)] (.bv r):=by
 have ok:=oJ 33 Tryz.f33 [.t 4] 2 64;refine FP ok fun w0 H0=>?_;rw [Zjv] at h;refine Vg 15 ?_;refine Vk [2,2] (fun x3=>[(21,.bv x3)]) (Ziv x1 x2) r ?_ fun J1=>?_
 ·intro x3 h;rw [Ziv] at h;refine MI h (fun h=>?_) fun h=>?_
  ·exact W
  ·refine Vg 6 ?_;refine Vl [] (fun _=>([],[],[])) Zev r ?_ fun J2=>?_
   ·rintro ⟨⟩ h;rw [Zev] at h;exact W
   ·refine Vg 1 ?_;refine Mk h [2,2] (fun x11=>[(5,.iv x11)]) ?_;rintro n1 x11 y1 h hin1 hout1;rw [Zhv] at h;refine Vg 9 ?_;refine MI h (fun h=>?_) fun h=>?_
    ·refine Vg 4 ?_;refine Vl [2,2,1,1] (fun s=>([(6,.ptr 2 0),(7,.ptr 3 0)],[some ⟨64,BK.row x1⟩,some ⟨64,BK.row x2⟩,some ⟨131,[.iv s.1.ID,Sp1 s.1.NE,.iv s.1.SS,.iv s.1.Age]⟩,some ⟨131,[.iv s.2.ID,Sp1 s.2.NE,.iv s.2.SS,.iv s.2.Age]⟩],[])) (Zgv x11) y1 ?_ fun J3=>?_
     ·rintro ⟨x14,x15⟩ h;rw [Zgv] at h;refine Vg 8 ?_;refine Vl [2,2,1,1] (fun x17=>([(65,.bv x17)],[some ⟨64,BK.row x1⟩,some ⟨64,BK.row x2⟩],[])) (Zfv x11) y1 ?_ fun J4=>?_
      ·intro x17 h;rw [Zfv] at h;exact W
      ·refine MC 44 h (fun h=>?_) fun h=>?_
       ·exact W
       ·refine Vg 7 ?_;refine MC 51 h (fun h=>?_) fun h=>?_
        ·exact W
        ·refine Vg 7 ?_;refine MC 58 h (fun h=>?_) fun h=>?_
         ·exact W
         ·refine Vg 4 ?_;refine VB h Z7l fun _ _ h=>?_;exact W
     ·refine Zgj fun all H=>Ds (GP H 5 9 [3,2,1,1,1,6] [(29,[.ptr 0 1,Sp5 x1.SE,.iv x11]),(2,[.ptr 1 1]),(1,[.iv x11])] (Ds ?_));have ⟨x12,ex12,h⟩:=Bs h;refine Zkc H.1 H.2.1 H.2.2.1 H.2.2.2 3 SE.row ex12 rfl rfl trivial rfl rfl rfl rfl (Gn H 1 7 ?_);refine Zpa 6 10 11 rfl ?_ ?_ ?_
      ·refine RV ?_;have ⟨x13,ex13,h⟩:=Bs h;refine Zkc H.1 H.2.1 H.2.2.1 H.2.2.2 8 SE.row ex13 rfl rfl trivial rfl rfl rfl rfl (Zpa 9 10 11 rfl ?_ ?_ ?_)
       ·refine RV ?_;refine Zoa 10 11 rfl ?_ ?_
        ·refine RV ?_;refine R1 ?_;refine R1 ?_;refine R1 ?_;refine GD ?_;exact W
        ·refine RV ?_;refine R1 ?_;refine R1 ?_;refine R1 ?_;refine GD (Z4e 2 3 rfl rfl ?_);exact W
       ·refine RV ?_;refine Zoa 9 11 rfl ?_ ?_
        ·refine RV ?_;refine R1 ?_;refine R1 ?_;refine R1 ?_;refine GD ?_;exact W
        ·refine RV ?_;refine Zoa 9 12 rfl ?_ ?_
         ·refine RV ?_;refine R1 ?_;refine R1 ?_;refine GD ?_;exact W
         ·refine RV ?_;refine Gn H 1 1 ?_;refine R1 ?_;refine GD ?_;exact W
       ·refine RV ?_;refine Zoa 9 10 rfl ?_ ?_
        ·refine RV ?_;refine R1 ?_;refine R1 ?_;refine R1 ?_;refine GD (Z4e 2 3 rfl rfl ?_);exact W
        ·refine RV ?_;refine Zoa 9 12 rfl ?_ ?_
         ·refine RV ?_;refine R1 ?_;refine R1 ?_;refine GD (Z4e 2 3 rfl rfl ?_);exact W
         ·refine RV ?_;refine Gn H 1 1 ?_;refine R1 ?_;refine GD (Z4e 2 3 rfl rfl ?_);exact W
      ·refine RV ?_;refine Zoa 6 11 rfl ?_ ?_
       ·refine RV ?_;have ⟨x13,ex13,h⟩:=Bs h;refine Zkc H.1 H.2.1 H.2.2.1 H.2.2.2 8 SE.row ex13 rfl rfl trivial rfl rfl rfl rfl (Zoa 9 11 rfl ?_ ?_)
        ·refine RV ?_;refine R1 ?_;refine R1 ?_;refine R1 ?_;refine GD ?_;exact W
        ·refine RV ?_;refine Zoa 9 12 rfl ?_ ?_
         ·refine RV ?_;refine R1 ?_;refine R1 ?_;refine GD ?_;exact W
         ·refine RV ?_;refine Gn H 1 1 ?_;refine R1 ?_;refine GD ?_;exact W
       ·refine RV ?_;refine Zoa 6 12 rfl ?_ ?_
        ·refine RV ?_;have ⟨x13,ex13,h⟩:=Bs h;refine Zkc H.1 H.2.1 H.2.2.1 H.2.2.2 8 SE.row ex13 rfl rfl trivial rfl rfl rfl rfl (Zoa 9 12 rfl ?_ ?_)
         ·refine RV ?_;refine R1 ?_;refine R1 ?_;refine GD ?_;exact W
         ·refine RV ?_;refine Gn H 1 1 ?_;refine R1 ?_;refine GD ?_;exact W
        ·refine RV ?_;refine Gn H 1 3 ?_;have ⟨x13,ex13,h⟩:=Bs h;refine Zkc H.1 H.2.1 H.2.2.1 H.2.2.2 8 SE.row ex13 rfl rfl trivial rfl rfl rfl rfl (Gn H 1 1 ?_);refine R1 ?_;refine GD ?_;exact W
      ·refine RV ?_;refine Zoa 6 10 rfl ?_ ?_
       ·refine RV ?_;have ⟨x13,ex13,h⟩:=Bs h;refine Zkc H.1 H.2.1 H.2.2.1 H.2.2.2 8 SE.row ex13 rfl rfl trivial rfl rfl rfl rfl (Zoa 9 10 rfl ?_ ?_)
        ·refine RV ?_;refine R1 ?_;refine R1 ?_;refine R1 ?_;refine GD (Z4e 2 3 rfl rfl ?_);exact W
        ·refine RV ?_;refine Zoa 9 12 rfl ?_ ?_
         ·refine RV ?_;refine R1 ?_;refine R1 ?_;refine GD (Z4e 2 3 rfl rfl ?_);exact W
         ·refine RV ?_;refine Gn H 1 1 ?_;refine R1 ?_;refine GD (Z4e 2 3 rfl rfl ?_);exact W
       ·refine RV ?_;refine Zoa 6 12 rfl ?_ ?_
        ·refine RV ?_;have ⟨x13,ex13,h⟩:=Bs h;refine Zkc H.1 H.2.1 H.2.2.1 H.2.2.2 8 SE.row ex13 rfl rfl trivial rfl rfl rfl rfl (Zoa 9 12 rfl ?_ ?_)
         ·refine RV ?_;refine R1 ?_;refine R1 ?_;refine GD (Z4e 2 3 rfl rfl ?_);exact W
         ·refine RV ?_;refine Gn H 1 1 ?_;refine R1 ?_;refine GD (Z4e 2 3 rfl rfl ?_);exact W
        ·refine RV ?_;refine Gn H 1 3 ?_;have ⟨x13,ex13,h⟩:=Bs h;refine Zkc H.1 H.2.1 H.2.2.1 H.2.2.2 8 SE.row ex13 rfl rfl trivial rfl rfl rfl rfl (Gn H 1 1 ?_);refine R1 ?_;refine GD (Z4e 2 3 rfl rfl ?_);exact W
    ·exact W
 ·exact W
def Zlv:Unit→Option Bool
| ()=>some true
def Zmv (x10:Int):Bool→Option (Int ⊕ Bool)
| x15=>
 ifb x15 (
 Option.map Sum.inr (some false)) (
 some (.inl (wr (x10+1))))
def Znv (x1:DK):Int→Option (Int ⊕ Bool)
| x10=>
 ifb (decide (x10<(ln Z4d x1.NE))) (
 (at_ x1.NE x10).bind fun x11=>
 (Zmq x1 x11).bind fun x12=>
 ifb (decide (x12<0)) (
 (Zmv x10) true) (
 ifb (decide (0<x10)) (
 (at_ x1.NE (wr (x10-1))).bind fun x13=>
 (at_ x1.NE x10).bind fun x14=>
 (Zmv x10) (decide (x14≤x13))) (
 (Zmv x10) false))) (
 Option.map Sum.inr (Zlv ()))
def Zov (x1:DK):Bool→Option Bool
| x3=>
 ifb x3 (
 some false) (
 loop (Znv x1) 0)
def Zpv (x1:DK):Option Bool:=
 (Ziq x1.DI).bind fun x2=>
 ifb (!x2) (
 (Zov x1) true) (
 ifb (decide (x1.TH<0)) (
 (Zov x1) true) (
 ifb (decide (2<x1.TH)) (
 (Zov x1) true) (
 ifb (decide (x1.TH=0)) (
 (Zov x1) (decide (0<(ln Z4d x1.NE)))) (
 (Zov x1) false))))
theorem Zqv {x1 r} (h:Zpv x1=some r):FPx 91 [.agg (DK.row x1)] (.bv r):=by
 have ok:=oJ 91 Tryz.f91 [.t 2] 1 61;refine FP ok fun w0 H0=>?_;rw [Zpv] at h;refine Vg 10 ?_;refine VB h Zjq fun _ _ h=>?_;refine Vg 2 ?_;refine Vk [1,1] (fun x3=>[(28,.bv x3)]) (Zov x1) r ?_ fun J1=>?_
 ·intro x3 h;rw [Zov] at h;refine MI h (fun h=>?_) fun h=>?_
  ·exact W
  ·refine Vg 6 ?_;refine Vl [] (fun _=>([],[],[])) Zlv r ?_ fun J2=>?_
   ·rintro ⟨⟩ h;rw [Zlv] at h;exact W
   ·refine Vg 1 ?_;refine Mk h [1,1] (fun x10=>[(3,.iv x10)]) ?_;rintro n1 x10 y1 h hin1 hout1;rw [Znv] at h;refine Vg 9 ?_;refine MI h (fun h=>?_) fun h=>?_
    ·refine Vg 4 ?_;refine Vk [1,1,1,1] (fun x15=>[(61,.bv x15)]) (Zmv x10) y1 ?_ fun J3=>?_
     ·intro x15 h;rw [Zmv] at h;exact W
     ·refine Zgj fun all H=>Ds (GP H 4 22 [4,22] [(36,[.agg (DK.row x1),.ptr 0 4,Sp1 x1.NE,.iv x10])] (Ds ?_));have ⟨x11,ex11,h⟩:=Bs h;refine Zkc H.1 H.2.1 H.2.2.1 H.2.2.2 4 Z4d ex11 rfl rfl trivial rfl rfl rfl rfl (Gn H 1 20 ?_);refine RB h Znq fun _ _ h=>?_;refine Gn H 2 17 ?_;refine Zdd 44 h rfl (fun _ h=>?_) fun _ h=>?_
      ·refine Ds (GP H 17 0 [26] [(45,[.un,.un,.un,.un,.un,.un,.un,.un,.un,.un,.un,.un,.un,.un,.un,.un,.tt])] (Ds ?_));refine GD ?_;exact W
      ·refine Ds (GP H 3 14 [12,14] [(45,[.iv x10,.bv (decide (0<x10)),.bv (decide (0<x10))])] (Ds ?_));refine Zdd 47 h rfl (fun _ h=>?_) fun _ h=>?_
       ·refine Ds (GP H 7 7 [16,2,3,5] [(48,[.ptr 0 4,Sp1 x1.NE,.iv x10,.iv (wr (x10-1))]),(2,[.ptr 0 4,Sp1 x1.NE,.iv x10])] (Ds ?_));have ⟨x13,ex13,h⟩:=Bs h;refine Zkc H.1 H.2.1 H.2.2.1 H.2.2.2 16 Z4d ex13 rfl rfl trivial rfl rfl rfl rfl (Gn H 1 5 ?_);have ⟨x14,ex14,h⟩:=Bs h;refine Zkc H.1 H.2.1 H.2.2.1 H.2.2.2 21 Z4d ex14 rfl rfl trivial rfl rfl rfl rfl (GP H 4 0 [26] [(58,[.iv x14,.bv (decide (x14≤x13)),.bv (decide (x14≤x13)),.bv (decide (x14≤x13))])] (Ds ?_));refine GD ?_;exact W
       ·refine Ds (GP H 14 0 [26] [(48,[.un,.un,.un,.un,.un,.un,.un,.un,.un,.un,.un,.un,.ff,.ff])] (Ds ?_));refine GD ?_;exact W
    ·exact W
 ·exact W
end
end NX
end Go.Proofs.YtgamgemlekpepaaGreat
