/-
  The function narthex/narthexref03.Check: its code compiled, a model, and that the code answers as the model. Written by a program of ours (lb.py). No statement of the seat is proved here.
-/
import Derived.Test.YtgamgemlekpepaaGreatH16
import Derived.Test.YtgamgemlekpepaaGreatH17
set_option maxRecDepth 100000
set_option maxHeartbeats 4000000
namespace Go.Proofs.YtgamgemlekpepaaGreat
namespace NX
open Go
noncomputable section
@[go_sem] def e8:EC:=eQ Tryz.f8
def Zdu:Unit→Option Bool
| ()=>some true
def Zeu (x8:Int):Bool→Option (Int ⊕ Bool)
| x12=>
 ifb x12 (
 Option.map Sum.inr (some false)) (
 some (.inl (wr (x8+1))))
def Zfu (x1:Graph):Int→Option (Int ⊕ Bool)
| x8=>
 ifb (decide (x8<(ln Edge.row x1.Edges))) (
 (at_ x1.Edges x8).bind fun x9=>
 ifb (decide (x9.A<0)) (
 (Zeu x8) true) (
 ifb (decide (x9.B≤x9.A)) (
 (Zeu x8) true) (
 ifb (decide (x1.N≤x9.B)) (
 (Zeu x8) true) (
 ifb (decide (0<x8)) (
 (at_ x1.Edges (wr (x8-1))).bind fun x10=>
 (Zzo x10 x9).bind fun x11=>
 (Zeu x8) (!x11)) (
 (Zeu x8) false))))) (
 Option.map Sum.inr (Zdu ()))
def Zgu (x1:Graph):Bool→Option Bool
| x2=>
 ifb x2 (
 some false) (
 loop (Zfu x1) 0)
def Zhu (x1:Graph):Option Bool:=
 ifb (decide (x1.N<0)) (
 (Zgu x1) true) (
 ifb (decide (64<x1.N)) (
 (Zgu x1) true) (
 (Zgu x1) (decide (400<(ln Edge.row x1.Edges)))))
theorem Ziu {x1 r} (h:Zhu x1=some r):Zy6 Tryz.prog 8 [.agg (Graph.row x1)] (.bv r):=by
 have ok:=oK 8 Tryz.f8 e8 [.t 2] 1 62;refine FP ok fun w0 H0=>?_;rw [Zhu] at h;refine Vg 12 ?_;refine Vk [1,1] (fun x2=>[(18,.bv x2)]) (Zgu x1) r ?_ fun J1=>?_
 ·intro x2 h;rw [Zgu] at h;(try dsimp only);refine MI h (fun h=>?_) fun h=>?_
  ·exact W
  ·refine Vg 6 ?_;refine Vl [] (fun _=>([],[],[])) Zdu r ?_ fun J2=>?_
   ·rintro ⟨⟩ h;rw [Zdu] at h;exact W
   ·refine Vg 1 ?_;refine Mk h [1,1] (fun x8=>[(3,.iv x8)]) ?_;rintro n1 x8 y1 h hin1 hout1;rw [Zfu] at h;(try dsimp only);refine Vg 9 ?_;refine MI h (fun h=>?_) fun h=>?_
    ·refine Vg 8 ?_;have ⟨x9,ex9,h⟩:=Bs h;refine Zic Edge.row ex9 trivial rfl rfl rfl (Vg 5 ?_);refine Vl [1,1,1,1] (fun x12=>([(62,.bv x12)],[some ⟨24,Graph.row x1⟩],[])) (Zeu x8) y1 ?_ fun J3=>?_
     ·intro x12 h;rw [Zeu] at h;exact W
     ·refine Zej fun all H=>Ds (GP H 4 28 [4,28] [(31,[.ptr 1 0,.iv x9.A,.bv (decide (x9.A<0)),.bv (decide (x9.A<0))])] (Ds ?_));refine Zcd 34 h rfl (fun _ h=>?_) fun _ h=>?_
      ·refine Ds (GP H 28 0 [32] [(35,[.un,.un,.un,.un,.un,.tt,.tt,.un,.un,.un,.un,.un,.tt,.tt,.un,.un,.un,.un,.un,.un,.un,.un,.un,.un,.un,.un,.un,.tt])] (Ds ?_));refine GD ?_;exact W
      ·refine Ds (GP H 7 21 [11,21] [(35,[.ptr 1 0,.iv x9.A,.ptr 1 1,.iv x9.B,.bv (decide (x9.B≤x9.A)),.bv (decide (x9.B≤x9.A)),.bv (decide (x9.B≤x9.A))])] (Ds ?_));refine Zcd 41 h rfl (fun _ h=>?_) fun _ h=>?_
       ·refine Ds (GP H 21 0 [32] [(42,[.un,.un,.un,.un,.un,.tt,.tt,.un,.un,.un,.un,.un,.un,.un,.un,.un,.un,.un,.un,.un,.tt])] (Ds ?_));refine GD ?_;exact W
       ·refine Ds (GP H 7 14 [18,14] [(42,[.ptr 1 1,.iv x9.B,.ptr 0 0,.iv x1.N,.bv (decide (x1.N≤x9.B)),.bv (decide (x1.N≤x9.B)),.bv (decide (x1.N≤x9.B))])] (Ds ?_));refine Zcd 48 h rfl (fun _ h=>?_) fun _ h=>?_
        ·refine Ds (GP H 14 0 [32] [(49,[.un,.un,.un,.un,.un,.un,.un,.un,.un,.un,.un,.un,.un,.tt])] (Ds ?_));refine GD ?_;exact W
        ·refine Ds (GP H 3 11 [21,11] [(49,[.iv x8,.bv (decide (0<x8)),.bv (decide (0<x8))])] (Ds ?_));refine Zcd 51 h rfl (fun _ h=>?_) fun _ h=>?_
         ·refine Ds (GP H 5 6 [25,2,1,4] [(52,[.ptr 0 1,Sp8 x1.Edges,.iv x8,.iv (wr (x8-1))]),(2,[.agg (Edge.row x9)])] (Ds ?_));have ⟨x10,ex10,h⟩:=Bs h;refine Zjc H.1 H.2.1 H.2.2.1 H.2.2.2 25 Edge.row ex10 rfl rfl trivial rfl rfl rfl rfl (Gn H 1 4 ?_);refine Zma 28 rfl (GB H.1 h Z0p fun x11 _ h=>?_);refine Ds (GP H 3 0 [32] [(60,[.bv (!x11),.bv (!x11),.bv (!x11)])] (Ds ?_));refine GD ?_;exact W
         ·refine Ds (GP H 11 0 [32] [(52,[.un,.un,.un,.un,.un,.un,.un,.un,.un,.ff,.ff])] (Ds ?_));refine GD ?_;exact W
    ·exact W
 ·exact W
@[go_sem] def e90:EC:=eQ Tryz.f90
def Zju:List DI→Option (List DI)
| x64=>some x64
def Zku (x29:Int) (x30:List DI):List Side→Option ((Int×List DI) ⊕ (List DI))
| x56=>
 (Z7c 40 x30 ([DI.mk x29 0 x56])).bind fun x57=>
 some (.inl (wr (x29+1),x57))
def Zlu (x39:Int):List Side→Option ((Int×List Side) ⊕ ((Int×List DI) ⊕ (List DI)))
| x46=>some (.inl (wr (x39+1),x46))
def Zmu (x39:Int) (x40:List Side):Side→Option ((Int×List Side) ⊕ ((Int×List DI) ⊕ (List DI)))
| x44=>
 (Z7c 32 x40 ([x44])).bind fun x45=>
 (Zlu x39) x45
def Znu (x1:Graph) (x2:List Int) (x29:Int) (x30:List DI):(Int×List Side)→Option ((Int×List Side) ⊕ ((Int×List DI) ⊕ (List DI)))
| (x39,x40)=>
 ifb (decide (x39<x1.N)) (
 (Z4p x1 x29 x39).bind fun x41=>
 ifb (!x41) (
 (Zlu x39) x40) (
 (at_ x2 x29).bind fun x42=>
 (at_ x2 x39).bind fun x43=>
 ifb (decide (x42<x43)) (
 (Zmu x39 x40) (Side.mk x39 1 0 false false true false true)) (
 (Zmu x39 x40) (Side.mk x39 1 0 true true false true false)))) (
 Option.map Sum.inr ((Zku x29 x30) x40))
def Zou (x1:Graph) (x2:List Int):(Int×List DI)→Option ((Int×List DI) ⊕ (List DI))
| (x29,x30)=>
 ifb (decide (x29<x1.N)) (
 loop (Znu x1 x2 x29 x30) (0,([]:List Side))) (
 Option.map Sum.inr (Zju x30))
def Zpu (x1:Graph) (x2:List Int):Option (List DI):=loop (Zou x1 x2) (0,([]:List DI))
theorem Zqu {x1 x2 r} (h:Zpu x1 x2=some r):Zpd Tryz.prog 90 [.agg (Graph.row x1),Sp1 x2] 58 3 (List.map DI.row r):=by
 have ok:=oK 90 Tryz.f90 e90 [.t 4] 2 55;refine Zqd ok rfl fun w0 H0=>?_;rw [Zpu] at h;refine Vg 15 ?_;refine Vl [5,1] (fun x64=>([],[],[Z1k x64])) Zju r ?_ fun J1=>?_
 ·intro x64 h;rw [Zju] at h;(try dsimp only);refine Vg 5 ?_;exact Z9e DI.row ok h rfl rfl
 ·refine Vg 1 ?_;refine Mm h [1,2,2,1] (fun s=>([(6,.iv s.1)],[],[],[(0,Z1k s.2)])) ?_;rintro n1 ⟨x29,x30⟩ y1 h hin1 hout1;rw [Zou] at h;(try dsimp only);refine Vg 8 ?_;refine MI h (fun h=>?_) fun h=>?_
  ·refine Vg 15 ?_;refine Vl [1,2,2,3] (fun x56=>([],[some ⟨24,Graph.row x1⟩,some ⟨58,[.iv x29,.iv 0,.osl 1]⟩],[Z1k x30,Zwj x56])) (Zku x29 x30) y1 ?_ fun J2=>?_
   ·intro x56 h;rw [Zku] at h;(try dsimp only);refine Vg 3 ?_;refine Zhj 1 ?_;refine Vg 1 ?_;have ⟨x57,ex57,h⟩:=Bs h;refine Zlc DI.row ex57 trivial rfl rfl rfl (Vg 8 ?_);refine Zgj 3 0 ?_;exact W
   ·refine Vg 1 ?_;refine Zij 1 2 112 8 (Ds ?_);refine Mm h [1,2,2,3] (fun s=>([(8,.iv s.1)],[],[],[(1,Zwj s.2)])) ?_;rintro n2 ⟨x39,x40⟩ y2 h hin2 hout2;rw [Znu] at h;(try dsimp only);refine Vg 8 ?_;refine MI h (fun h=>?_) fun h=>?_
    ·refine Vg 2 ?_;refine Vm [1,2,2,4] (fun x46=>([],[],[],[(1,Zwj x46)])) (Zlu x39) y2 ?_ fun J3=>?_
     ·intro x46 h;rw [Zlu] at h;exact W
     ·refine Vg 7 ?_;refine VB h Z5p fun _ _ h=>?_;refine Vg 2 ?_;refine MI h (fun h=>?_) fun h=>?_
      ·exact W
      ·refine Vg 10 ?_;have ⟨x42,ex42,h⟩:=Bs h;have ⟨x43,ex43,h⟩:=Bs h;refine Zej fun all H=>Gs ?_;refine Vm [1,2,2,5] (fun x44=>([],[(2,0,.iv x44.Peer),(2,1,.iv x44.Epoch),(2,2,.iv x44.State),(2,3,.bv x44.Fork),(2,4,.bv x44.DY),(2,5,.bv x44.Token),(2,6,.bv x44.BO),(2,7,.bv x44.Ask)],[],[])) (Zmu x39 x40) y2 ?_ fun J4=>?_
       ·intro x44 h;rw [Zmu] at h;(try dsimp only);refine Vg 5 ?_;have ⟨x45,ex45,h⟩:=Bs h;refine Zlc Side.row ex45 trivial rfl rfl rfl (Vg 4 ?_);refine Zgj 3 1 ?_;exact W
       ·exact W
    ·exact W
  ·exact W
theorem Zru {x1 x2 r} (h:Zpu x1 x2=some r):Zy6 Tryz.prog 90 [.agg (Graph.row x1),Sp1 x2] (Z0k r):=(Zqu h).sealed
@[go_sem] def e59:EC:=eQ Tryz.f59
def Zsu (x1:DK):Option DK:=
 (Zmp x1.DI).bind fun x2=>
 (Z7c 8 (([]:List Int)) x1.Need).bind fun x3=>
 some (DK.mk x2 x1.TH x3)
theorem Ztu {x1 r} (h:Zsu x1=some r):Zy6 Tryz.prog 59 [.agg (DK.row x1)] (.agg (DK.row r)):=by have ok:=oK 59 Tryz.f59 e59 [.c 2 (some 5)] 1 12;refine FP ok fun w0 H0=>?_;rw [Zsu] at h;refine Vg 9 ?_;refine VB h Znp fun _ _ h=>?_;refine Vg 8 ?_;have ⟨x3,ex3,h⟩:=Bs h;refine Zlc Z3d ex3 trivial rfl rfl rfl (Vg 8 ?_);refine Zhj 1 ?_;exact W
@[go_sem] def e32:EC:=eQ Tryz.f32
def Zuu:Bool→Option Bool
| x5=>some x5
def Zvu (x1 x2:DK):Option Bool:=
 (Zvl x1.DI x2.DI).bind fun x3=>
 ifb x3 (
 ifb (decide (x1.TH=x2.TH)) (
 (Zxk x1.Need x2.Need).bind fun x4=>
 Zuu x4) (
 Zuu false)) (
 Zuu false)
theorem Zwu {x1 x2 r} (h:Zvu x1 x2=some r):Zy6 Tryz.prog 32 [.agg (DK.row x1),.agg (DK.row x2)] (.bv r):=by
 have ok:=oK 32 Tryz.f32 e32 [.t 4] 2 22;refine FP ok fun w0 H0=>?_;rw [Zvu] at h;refine Vg 12 ?_;refine VB h Zwl fun _ _ h=>?_;refine Vg 1 ?_;refine Vl [] (fun x5=>([(4,.bv x5)],[],[])) Zuu r ?_ fun J1=>?_
 ·intro x5 h;rw [Zuu] at h;exact W
 ·refine MC 10 h (fun h=>?_) fun h=>?_
  ·refine Vg 7 ?_;refine MC 17 h (fun h=>?_) fun h=>?_
   ·refine Vg 4 ?_;refine VB h Zyk fun _ _ h=>?_;exact W
   ·exact W
  ·exact W
@[go_sem] def e33:EC:=eQ Tryz.f33
def Zxu:Unit→Option Bool
| ()=>some true
def Zyu (x11:Int):Bool→Option (Int ⊕ Bool)
| x17=>
 ifb x17 (
 Option.map Sum.inr (some false)) (
 some (.inl (wr (x11+1))))
def Zzu (x11:Int):(Sess×Sess)→Option (Int ⊕ Bool)
| (x14,x15)=>
 ifb (!decide (x14.ID=x15.ID)) (
 (Zyu x11) true) (
 ifb (!decide (x14.State=x15.State)) (
 (Zyu x11) true) (
 ifb (!decide (x14.Age=x15.Age)) (
 (Zyu x11) true) (
 (Zxk x14.Need x15.Need).bind fun x16=>
 (Zyu x11) (!x16))))
def Z0v (x1 x2:Book):Int→Option (Int ⊕ Bool)
| x11=>
 ifb (decide (x11<(ln Sess.row x1.Sess))) (
 (at_ x1.Sess x11).bind fun x12=>
 (at_ x2.Sess x11).bind fun x13=>
 (Zzu x11) (x12,x13)) (
 Option.map Sum.inr (Zxu ()))
def Z1v (x1 x2:Book):Bool→Option Bool
| x3=>
 ifb x3 (
 some false) (
 loop (Z0v x1 x2) 0)
def Z2v (x1 x2:Book):Option Bool:=
 ifb (!decide (x1.Last=x2.Last)) (
 (Z1v x1 x2) true) (
 (Z1v x1 x2) (!decide ((ln Sess.row x1.Sess)=(ln Sess.row x2.Sess))))
theorem Z3v {x1 x2 r} (h:Z2v x1 x2=some r):Zy6 Tryz.prog 33 [.agg (Book.row x1),.agg (Book.row x2)] (.bv r):=by
 have ok:=oK 33 Tryz.f33 e33 [.t 4] 2 64;refine FP ok fun w0 H0=>?_;rw [Z2v] at h;refine Vg 15 ?_;refine Vk [2,2] (fun x3=>[(21,.bv x3)]) (Z1v x1 x2) r ?_ fun J1=>?_
 ·intro x3 h;rw [Z1v] at h;(try dsimp only);refine MI h (fun h=>?_) fun h=>?_
  ·exact W
  ·refine Vg 6 ?_;refine Vl [] (fun _=>([],[],[])) Zxu r ?_ fun J2=>?_
   ·rintro ⟨⟩ h;rw [Zxu] at h;exact W
   ·refine Vg 1 ?_;refine Mk h [2,2] (fun x11=>[(5,.iv x11)]) ?_;rintro n1 x11 y1 h hin1 hout1;rw [Z0v] at h;(try dsimp only);refine Vg 9 ?_;refine MI h (fun h=>?_) fun h=>?_
    ·refine Vg 4 ?_;refine Vl [2,2,1,1] (fun s=>([(6,.ptr 2 0),(7,.ptr 3 0)],[some ⟨64,Book.row x1⟩,some ⟨64,Book.row x2⟩,some ⟨131,[.iv s.1.ID,Sp1 s.1.Need,.iv s.1.State,.iv s.1.Age]⟩,some ⟨131,[.iv s.2.ID,Sp1 s.2.Need,.iv s.2.State,.iv s.2.Age]⟩],[])) (Zzu x11) y1 ?_ fun J3=>?_
     ·rintro ⟨x14,x15⟩ h;rw [Zzu] at h;(try dsimp only);refine Vg 8 ?_;refine Vl [2,2,1,1] (fun x17=>([(65,.bv x17)],[some ⟨64,Book.row x1⟩,some ⟨64,Book.row x2⟩],[])) (Zyu x11) y1 ?_ fun J4=>?_
      ·intro x17 h;rw [Zyu] at h;exact W
      ·refine MC 44 h (fun h=>?_) fun h=>?_
       ·exact W
       ·refine Vg 7 ?_;refine MC 51 h (fun h=>?_) fun h=>?_
        ·exact W
        ·refine Vg 7 ?_;refine MC 58 h (fun h=>?_) fun h=>?_
         ·exact W
         ·refine Vg 4 ?_;refine VB h Zyk fun _ _ h=>?_;exact W
     ·refine Zej fun all H=>Ds (GP H 5 9 [3,2,1,1,1,6] [(29,[.ptr 0 1,Sp5 x1.Sess,.iv x11]),(2,[.ptr 1 1]),(1,[.iv x11])] (Ds ?_));have ⟨x12,ex12,h⟩:=Bs h;refine Zjc H.1 H.2.1 H.2.2.1 H.2.2.2 3 Sess.row ex12 rfl rfl trivial rfl rfl rfl rfl (Gn H 1 7 ?_);refine Zoa 6 10 11 rfl ?_ ?_ ?_
      ·refine RV ?_;have ⟨x13,ex13,h⟩:=Bs h;refine Zjc H.1 H.2.1 H.2.2.1 H.2.2.2 8 Sess.row ex13 rfl rfl trivial rfl rfl rfl rfl (Zoa 9 10 11 rfl ?_ ?_ ?_)
       ·refine RV ?_;refine Zna 10 11 rfl ?_ ?_
        ·refine RV ?_;refine R1 ?_;refine R1 ?_;refine R1 ?_;refine GD ?_;exact W
        ·refine RV ?_;refine R1 ?_;refine R1 ?_;refine R1 ?_;refine GD (Z3e 2 3 rfl rfl ?_);exact W
       ·refine RV ?_;refine Zna 9 11 rfl ?_ ?_
        ·refine RV ?_;refine R1 ?_;refine R1 ?_;refine R1 ?_;refine GD ?_;exact W
        ·refine RV ?_;refine Zna 9 12 rfl ?_ ?_
         ·refine RV ?_;refine R1 ?_;refine R1 ?_;refine GD ?_;exact W
         ·refine RV ?_;refine Gn H 1 1 ?_;refine R1 ?_;refine GD ?_;exact W
       ·refine RV ?_;refine Zna 9 10 rfl ?_ ?_
        ·refine RV ?_;refine R1 ?_;refine R1 ?_;refine R1 ?_;refine GD (Z3e 2 3 rfl rfl ?_);exact W
        ·refine RV ?_;refine Zna 9 12 rfl ?_ ?_
         ·refine RV ?_;refine R1 ?_;refine R1 ?_;refine GD (Z3e 2 3 rfl rfl ?_);exact W
         ·refine RV ?_;refine Gn H 1 1 ?_;refine R1 ?_;refine GD (Z3e 2 3 rfl rfl ?_);exact W
      ·refine RV ?_;refine Zna 6 11 rfl ?_ ?_
       ·refine RV ?_;have ⟨x13,ex13,h⟩:=Bs h;refine Zjc H.1 H.2.1 H.2.2.1 H.2.2.2 8 Sess.row ex13 rfl rfl trivial rfl rfl rfl rfl (Zna 9 11 rfl ?_ ?_)
        ·refine RV ?_;refine R1 ?_;refine R1 ?_;refine R1 ?_;refine GD ?_;exact W
        ·refine RV ?_;refine Zna 9 12 rfl ?_ ?_
         ·refine RV ?_;refine R1 ?_;refine R1 ?_;refine GD ?_;exact W
         ·refine RV ?_;refine Gn H 1 1 ?_;refine R1 ?_;refine GD ?_;exact W
       ·refine RV ?_;refine Zna 6 12 rfl ?_ ?_
        ·refine RV ?_;have ⟨x13,ex13,h⟩:=Bs h;refine Zjc H.1 H.2.1 H.2.2.1 H.2.2.2 8 Sess.row ex13 rfl rfl trivial rfl rfl rfl rfl (Zna 9 12 rfl ?_ ?_)
         ·refine RV ?_;refine R1 ?_;refine R1 ?_;refine GD ?_;exact W
         ·refine RV ?_;refine Gn H 1 1 ?_;refine R1 ?_;refine GD ?_;exact W
        ·refine RV ?_;refine Gn H 1 3 ?_;have ⟨x13,ex13,h⟩:=Bs h;refine Zjc H.1 H.2.1 H.2.2.1 H.2.2.2 8 Sess.row ex13 rfl rfl trivial rfl rfl rfl rfl (Gn H 1 1 ?_);refine R1 ?_;refine GD ?_;exact W
      ·refine RV ?_;refine Zna 6 10 rfl ?_ ?_
       ·refine RV ?_;have ⟨x13,ex13,h⟩:=Bs h;refine Zjc H.1 H.2.1 H.2.2.1 H.2.2.2 8 Sess.row ex13 rfl rfl trivial rfl rfl rfl rfl (Zna 9 10 rfl ?_ ?_)
        ·refine RV ?_;refine R1 ?_;refine R1 ?_;refine R1 ?_;refine GD (Z3e 2 3 rfl rfl ?_);exact W
        ·refine RV ?_;refine Zna 9 12 rfl ?_ ?_
         ·refine RV ?_;refine R1 ?_;refine R1 ?_;refine GD (Z3e 2 3 rfl rfl ?_);exact W
         ·refine RV ?_;refine Gn H 1 1 ?_;refine R1 ?_;refine GD (Z3e 2 3 rfl rfl ?_);exact W
       ·refine RV ?_;refine Zna 6 12 rfl ?_ ?_
        ·refine RV ?_;have ⟨x13,ex13,h⟩:=Bs h;refine Zjc H.1 H.2.1 H.2.2.1 H.2.2.2 8 Sess.row ex13 rfl rfl trivial rfl rfl rfl rfl (Zna 9 12 rfl ?_ ?_)
         ·refine RV ?_;refine R1 ?_;refine R1 ?_;refine GD (Z3e 2 3 rfl rfl ?_);exact W
         ·refine RV ?_;refine Gn H 1 1 ?_;refine R1 ?_;refine GD (Z3e 2 3 rfl rfl ?_);exact W
        ·refine RV ?_;refine Gn H 1 3 ?_;have ⟨x13,ex13,h⟩:=Bs h;refine Zjc H.1 H.2.1 H.2.2.1 H.2.2.2 8 Sess.row ex13 rfl rfl trivial rfl rfl rfl rfl (Gn H 1 1 ?_);refine R1 ?_;refine GD (Z3e 2 3 rfl rfl ?_);exact W
    ·exact W
 ·exact W
@[go_sem] def e91:EC:=eQ Tryz.f91
def Z4v:Unit→Option Bool
| ()=>some true
def Z5v (x10:Int):Bool→Option (Int ⊕ Bool)
| x15=>
 ifb x15 (
 Option.map Sum.inr (some false)) (
 some (.inl (wr (x10+1))))
def Z6v (x1:DK):Int→Option (Int ⊕ Bool)
| x10=>
 ifb (decide (x10<(ln Z3d x1.Need))) (
 (at_ x1.Need x10).bind fun x11=>
 (Z8q x1 x11).bind fun x12=>
 ifb (decide (x12<0)) (
 (Z5v x10) true) (
 ifb (decide (0<x10)) (
 (at_ x1.Need (wr (x10-1))).bind fun x13=>
 (at_ x1.Need x10).bind fun x14=>
 (Z5v x10) (decide (x14≤x13))) (
 (Z5v x10) false))) (
 Option.map Sum.inr (Z4v ()))
def Z7v (x1:DK):Bool→Option Bool
| x3=>
 ifb x3 (
 some false) (
 loop (Z6v x1) 0)
def Z8v (x1:DK):Option Bool:=
 (Z4q x1.DI).bind fun x2=>
 ifb (!x2) (
 (Z7v x1) true) (
 ifb (decide (x1.TH<0)) (
 (Z7v x1) true) (
 ifb (decide (2<x1.TH)) (
 (Z7v x1) true) (
 ifb (decide (x1.TH=0)) (
 (Z7v x1) (decide (0<(ln Z3d x1.Need)))) (
 (Z7v x1) false))))
theorem Z9v {x1 r} (h:Z8v x1=some r):Zy6 Tryz.prog 91 [.agg (DK.row x1)] (.bv r):=by
 have ok:=oK 91 Tryz.f91 e91 [.t 2] 1 61;refine FP ok fun w0 H0=>?_;rw [Z8v] at h;refine Vg 10 ?_;refine VB h Z5q fun _ _ h=>?_;refine Vg 2 ?_;refine Vk [1,1] (fun x3=>[(28,.bv x3)]) (Z7v x1) r ?_ fun J1=>?_
 ·intro x3 h;rw [Z7v] at h;(try dsimp only);refine MI h (fun h=>?_) fun h=>?_
  ·exact W
  ·refine Vg 6 ?_;refine Vl [] (fun _=>([],[],[])) Z4v r ?_ fun J2=>?_
   ·rintro ⟨⟩ h;rw [Z4v] at h;exact W
   ·refine Vg 1 ?_;refine Mk h [1,1] (fun x10=>[(3,.iv x10)]) ?_;rintro n1 x10 y1 h hin1 hout1;rw [Z6v] at h;(try dsimp only);refine Vg 9 ?_;refine MI h (fun h=>?_) fun h=>?_
    ·refine Vg 4 ?_;refine Vk [1,1,1,1] (fun x15=>[(61,.bv x15)]) (Z5v x10) y1 ?_ fun J3=>?_
     ·intro x15 h;rw [Z5v] at h;exact W
     ·refine Zej fun all H=>Ds (GP H 4 22 [4,22] [(36,[.agg (DK.row x1),.ptr 0 4,Sp1 x1.Need,.iv x10])] (Ds ?_));have ⟨x11,ex11,h⟩:=Bs h;refine Zjc H.1 H.2.1 H.2.2.1 H.2.2.2 4 Z3d ex11 rfl rfl trivial rfl rfl rfl rfl (Gn H 1 20 ?_);refine Zma 6 rfl (GB H.1 h Z9q fun _ _ h=>?_);refine Gn H 2 17 ?_;refine Zcd 44 h rfl (fun _ h=>?_) fun _ h=>?_
      ·refine Ds (GP H 17 0 [26] [(45,[.un,.un,.un,.un,.un,.un,.un,.un,.un,.un,.un,.un,.un,.un,.un,.un,.tt])] (Ds ?_));refine GD ?_;exact W
      ·refine Ds (GP H 3 14 [12,14] [(45,[.iv x10,.bv (decide (0<x10)),.bv (decide (0<x10))])] (Ds ?_));refine Zcd 47 h rfl (fun _ h=>?_) fun _ h=>?_
       ·refine Ds (GP H 7 7 [16,2,3,5] [(48,[.ptr 0 4,Sp1 x1.Need,.iv x10,.iv (wr (x10-1))]),(2,[.ptr 0 4,Sp1 x1.Need,.iv x10])] (Ds ?_));have ⟨x13,ex13,h⟩:=Bs h;refine Zjc H.1 H.2.1 H.2.2.1 H.2.2.2 16 Z3d ex13 rfl rfl trivial rfl rfl rfl rfl (Gn H 1 5 ?_);have ⟨x14,ex14,h⟩:=Bs h;refine Zjc H.1 H.2.1 H.2.2.1 H.2.2.2 21 Z3d ex14 rfl rfl trivial rfl rfl rfl rfl (GP H 4 0 [26] [(58,[.iv x14,.bv (decide (x14≤x13)),.bv (decide (x14≤x13)),.bv (decide (x14≤x13))])] (Ds ?_));refine GD ?_;exact W
       ·refine Ds (GP H 14 0 [26] [(48,[.un,.un,.un,.un,.un,.un,.un,.un,.un,.un,.un,.un,.ff,.ff])] (Ds ?_));refine GD ?_;exact W
    ·exact W
 ·exact W
@[go_sem] def e92:EC:=eQ Tryz.f92
def Zav:Unit→Option Bool
| ()=>some true
def Zbv (x11:Int):Unit→Option (Int ⊕ Bool)
| ()=>some (.inl (wr (x11+1)))
def Zcv (x11:Int):Bool→Option (Int ⊕ Bool)
| x18=>
 ifb x18 (
 Option.map Sum.inr (some false)) (
 (Zbv x11) ())
def Zdv (x11:Int) (x12:Sess):Bool→Option (Int ⊕ Bool)
| x17=>
 ifb x17 (
 (Zbv x11) ()) (
 ifb (!decide (x12.State=1)) (
 (Zcv x11) true) (
 (Zcv x11) (decide (0<x11))))
def Zev (x11:Int) (x12:Sess):Bool→Option (Int ⊕ Bool)
| x16=>
 ifb x16 (
 Option.map Sum.inr (some false)) (
 ifb (decide (x12.State=0)) (
 (Zdv x11 x12) (decide (x12.Age=0))) (
 (Zdv x11 x12) false))
def Zfv (x1:Book):Int→Option (Int ⊕ Bool)
| x11=>
 ifb (decide (x11<(ln Sess.row x1.Sess))) (
 (at_ x1.Sess x11).bind fun x12=>
 ifb (decide (x12.ID<1)) (
 (Zev x11 x12) true) (
 ifb (decide (x1.Last<x12.ID)) (
 (Zev x11 x12) true) (
 ifb (decide (0<x11)) (
 (at_ x1.Sess (wr (x11-1))).bind fun x13=>
 ifb (decide (x12.ID≤x13.ID)) (
 (Zev x11 x12) true) (
 (Zdq x12.Need).bind fun x14=>
 ifb (!x14) (
 (Zev x11 x12) true) (
 (Zev x11 x12) (decide (x12.Age<0))))) (
 (Zdq x12.Need).bind fun x15=>
 ifb (!x15) (
 (Zev x11 x12) true) (
 (Zev x11 x12) (decide (x12.Age<0))))))) (
 Option.map Sum.inr (Zav ()))
def Zgv (x1:Book):Bool→Option Bool
| x2=>
 ifb x2 (
 some false) (
 loop (Zfv x1) 0)
def Zhv (x1:Book):Option Bool:=
 ifb (decide (x1.Last<0)) (
 (Zgv x1) true) (
 (Zgv x1) (decide (8<(ln Sess.row x1.Sess))))
theorem Ziv {x1 r} (h:Zhv x1=some r):Zy6 Tryz.prog 92 [.agg (Book.row x1)] (.bv r):=by
 have ok:=oK 92 Tryz.f92 e92 [.t 2] 1 77;refine FP ok fun w0 H0=>?_;rw [Zhv] at h;refine Vg 12 ?_;refine Vk [1,1] (fun x2=>[(13,.bv x2)]) (Zgv x1) r ?_ fun J1=>?_
 ·intro x2 h;rw [Zgv] at h;(try dsimp only);refine MI h (fun h=>?_) fun h=>?_
  ·exact W
  ·refine Vg 6 ?_;refine Vl [] (fun _=>([],[],[])) Zav r ?_ fun J2=>?_
   ·rintro ⟨⟩ h;rw [Zav] at h;exact W
   ·refine Vg 1 ?_;refine Mk h [1,1] (fun x11=>[(3,.iv x11)]) ?_;rintro n1 x11 y1 h hin1 hout1;rw [Zfv] at h;(try dsimp only);refine Vg 9 ?_;refine MI h (fun h=>?_) fun h=>?_
    ·refine Vg 2 ?_;refine Vk [1,1,1,1] (fun _=>[]) (Zbv x11) y1 ?_ fun J3=>?_
     ·rintro ⟨⟩ h;rw [Zbv] at h;exact W
     ·refine Vg 6 ?_;have ⟨x12,ex12,h⟩:=Bs h;refine Zic Sess.row ex12 trivial rfl rfl rfl (Vg 6 ?_);refine Vk [1,1,1,2] (fun x16=>[(62,.bv x16)]) (Zev x11 x12) y1 ?_ fun J4=>?_
      ·intro x16 h;rw [Zev] at h;(try dsimp only);refine MI h (fun h=>?_) fun h=>?_
       ·exact W
       ·refine Vg 8 ?_;refine Vk [1,1,1,2] (fun x17=>[(70,.bv x17)]) (Zdv x11 x12) y1 ?_ fun J5=>?_
        ·intro x17 h;rw [Zdv] at h;(try dsimp only);refine MI h (fun h=>?_) fun h=>?_
         ·exact W
         ·refine Vg 7 ?_;refine Vl [1,1,1,1] (fun x18=>([(77,.bv x18)],[some ⟨64,Book.row x1⟩],[])) (Zcv x11) y1 ?_ fun J6=>?_
          ·intro x18 h;rw [Zcv] at h;exact W
          ·exact W
        ·exact W
      ·refine Zej fun all H=>Ds (GP H 4 33 [4,33] [(26,[.ptr 1 0,.iv x12.ID,.bv (decide (x12.ID<1)),.bv (decide (x12.ID<1))])] (Ds ?_));refine Zcd 29 h rfl (fun _ h=>?_) fun _ h=>?_
       ·refine Ds (GP H 33 0 [37] [(30,[.un,.un,.un,.un,.un,.tt,.tt,.un,.un,.un,.un,.un,.un,.un,.un,.un,.un,.un,.un,.un,.un,.tt,.tt,.un,.un,.un,.un,.tt,.tt,.un,.un,.un,.tt])] (Ds ?_));refine GD ?_;exact W
       ·refine Ds (GP H 7 26 [11,26] [(30,[.ptr 1 0,.iv x12.ID,.ptr 0 0,.iv x1.Last,.bv (decide (x1.Last<x12.ID)),.bv (decide (x1.Last<x12.ID)),.bv (decide (x1.Last<x12.ID))])] (Ds ?_));refine Zcd 36 h rfl (fun _ h=>?_) fun _ h=>?_
        ·refine Ds (GP H 26 0 [37] [(37,[.un,.un,.un,.un,.un,.un,.un,.un,.un,.un,.un,.un,.un,.un,.tt,.tt,.un,.un,.un,.un,.tt,.tt,.un,.un,.un,.tt])] (Ds ?_));refine GD ?_;exact W
        ·refine Ds (GP H 3 23 [14,23] [(37,[.iv x11,.bv (decide (0<x11)),.bv (decide (0<x11))])] (Ds ?_));refine Zcd 39 h rfl (fun _ h=>?_) fun _ h=>?_
         ·refine Ds (GP H 6 17 [18,3,2,14] [(40,[.ptr 0 1,Sp5 x1.Sess,.iv x11,.iv (wr (x11-1))]),(3,[.ptr 1 0,.iv x12.ID])] (Ds ?_));have ⟨x13,ex13,h⟩:=Bs h;refine Zjc H.1 H.2.1 H.2.2.1 H.2.2.2 18 Sess.row ex13 rfl rfl trivial rfl rfl rfl rfl (GP H 6 10 [27,10] [(45,[.elt (Sess.row x13) 0,.iv x13.ID]),(2,[.bv (decide (x12.ID≤x13.ID)),.bv (decide (x12.ID≤x13.ID)),.bv (decide (x12.ID≤x13.ID)),.bv (decide (x12.ID≤x13.ID))])] (Ds ?_));refine Zcd 52 h rfl (fun _ h=>?_) fun _ h=>?_
          ·refine Ds (GP H 10 0 [37] [(53,[.un,.un,.un,.un,.tt,.tt,.un,.un,.un,.tt])] (Ds ?_));refine GD ?_;exact W
          ·refine Ds (GP H 2 8 [29,8] [(53,[.ptr 1 1,Sp1 x12.Need])] (Ds ?_));refine Zma 29 rfl (GB H.1 h Zeq fun x14 _ h=>?_);refine Ds (GP H 3 4 [33,4] [(56,[.bv (!x14),.bv (!x14),.bv (!x14)])] (Ds ?_));refine Zcd 58 h rfl (fun _ h=>?_) fun _ h=>?_
           ·refine Ds (GP H 4 0 [37] [(59,[.un,.un,.un,.tt])] (Ds ?_));refine GD ?_;exact W
           ·refine Ds (GP H 4 0 [37] [(59,[.ptr 1 3,.iv x12.Age,.bv (decide (x12.Age<0)),.bv (decide (x12.Age<0))])] (Ds ?_));refine GD ?_;exact W
         ·refine Ds (GP H 15 8 [29,8] [(40,[.un,.un,.un,.un,.un,.un,.un,.un,.un,.un,.ff,.ff,.ff,.ptr 1 1,Sp1 x12.Need])] (Ds ?_));refine Zma 29 rfl (GB H.1 h Zeq fun x15 _ h=>?_);refine Ds (GP H 3 4 [33,4] [(56,[.bv (!x15),.bv (!x15),.bv (!x15)])] (Ds ?_));refine Zcd 58 h rfl (fun _ h=>?_) fun _ h=>?_
          ·refine Ds (GP H 4 0 [37] [(59,[.un,.un,.un,.tt])] (Ds ?_));refine GD ?_;exact W
          ·refine Ds (GP H 4 0 [37] [(59,[.ptr 1 3,.iv x12.Age,.bv (decide (x12.Age<0)),.bv (decide (x12.Age<0))])] (Ds ?_));refine GD ?_;exact W
    ·exact W
 ·exact W
@[go_sem] def e156:EC:=eQ Tryz.f156
def Zjv:Bool→Option Bool
| x6=>some x6
def Zkv (x1:Node) (x2:KE):Option Bool:=
 (Zzl x1.DK.DI x2.Peer).bind fun x3=>
 ifb (!x3.2) (
 ifb (decide (0≤x2.Peer)) (
 ifb (decide (x2.Peer<x1.DK.DI.ID)) (
 ifb (decide (x2.Epoch≤65535)) (
 (Zhq x1.KN x2.Peer).bind fun x4=>
 ifb (decide (x4<x2.Epoch)) (
 (Zhq x1.AK x2.Peer).bind fun x5=>
 Zjv (decide (x5=0))) (
 Zjv false)) (
 Zjv false)) (
 Zjv false)) (
 Zjv false)) (
 Zjv false)
theorem Zlv {x1 x2 r} (h:Zkv x1 x2=some r):Zy6 Tryz.prog 156 [.agg (Node.row x1),.agg (KE.row x2)] (.bv r):=by
 have ok:=oK 156 Tryz.f156 e156 [.t 4] 2 53;refine FP ok fun w0 H0=>?_;rw [Zkv] at h;refine Vg 13 ?_;refine VB h Z0m fun x3 _ h=>?_;refine Vg 8 ?_;refine Vl [] (fun x6=>([(4,.bv x6)],[],[])) Zjv r ?_ fun J1=>?_
 ·intro x6 h;rw [Zjv] at h;exact W
 ·refine Zej fun all H=>Ds (GP H 3 37 [3,37] [(16,[.bv x3.2,.bv (!x3.2),.bv (!x3.2)])] (Ds ?_));refine Zcd 18 h rfl (fun _ h=>?_) fun _ h=>?_
  ·refine Ds (GP H 5 32 [8,32] [(19,[.ptr 1 0,.iv x2.Peer,.bv (decide (0≤x2.Peer)),.bv (decide (0≤x2.Peer)),.bv (decide (0≤x2.Peer))])] (Ds ?_));refine Zcd 23 h rfl (fun _ h=>?_) fun _ h=>?_
   ·refine Ds (GP H 9 23 [17,23] [(24,[.ptr 1 0,.iv x2.Peer,.ptr 0 0,.ptr 0 0,.ptr 0 0,.iv x1.DK.DI.ID,.bv (decide (x2.Peer<x1.DK.DI.ID)),.bv (decide (x2.Peer<x1.DK.DI.ID)),.bv (decide (x2.Peer<x1.DK.DI.ID))])] (Ds ?_));refine Zcd 32 h rfl (fun _ h=>?_) fun _ h=>?_
    ·refine Ds (GP H 5 18 [22,18] [(33,[.ptr 1 1,.iv x2.Epoch,.bv (decide (x2.Epoch≤65535)),.bv (decide (x2.Epoch≤65535)),.bv (decide (x2.Epoch≤65535))])] (Ds ?_));refine Zcd 37 h rfl (fun _ h=>?_) fun _ h=>?_
     ·refine Ds (GP H 6 12 [28,12] [(38,[.ptr 1 1,.iv x2.Epoch,.ptr 0 7,Sp2 x1.KN,.ptr 1 0,.iv x2.Peer])] (Ds ?_));refine Zma 28 rfl (GB H.1 h Ziq fun x4 _ h=>?_);refine Ds (GP H 3 8 [32,8] [(45,[.bv (decide (x4<x2.Epoch)),.bv (decide (x4<x2.Epoch)),.bv (decide (x4<x2.Epoch))])] (Ds ?_));refine Zcd 47 h rfl (fun _ h=>?_) fun _ h=>?_
      ·refine Ds (GP H 4 4 [36,4] [(48,[.ptr 0 9,Sp2 x1.AK,.ptr 1 0,.iv x2.Peer])] (Ds ?_));refine Zma 36 rfl (GB H.1 h Ziq fun x5 _ h=>?_);refine Ds (GP H 3 0 [40] [(4,[.bv (decide (x5=0))]),(48,[.bv (decide (x5=0)),.bv (decide (x5=0))])] (Ds ?_));refine GD ?_;exact W
      ·refine Ds (GP H 8 0 [40] [(54,[.ff])] (Ds ?_));refine GD ?_;exact W
     ·refine Ds (GP H 18 0 [40] [(46,[.ff,.ff]),(6,[.ff])] (Ds ?_));refine GD ?_;exact W
    ·refine Ds (GP H 23 0 [40] [(36,[.ff,.ff]),(8,[.ff,.ff]),(6,[.ff])] (Ds ?_));refine GD ?_;exact W
   ·refine Ds (GP H 32 0 [40] [(31,[.ff,.ff]),(3,[.ff,.ff]),(8,[.ff,.ff]),(6,[.ff])] (Ds ?_));refine GD ?_;exact W
  ·refine Ds (GP H 37 0 [40] [(22,[.ff,.ff]),(7,[.ff,.ff]),(3,[.ff,.ff]),(8,[.ff,.ff]),(6,[.ff])] (Ds ?_));refine GD ?_;exact W
@[go_sem] def e96:EC:=eQ Tryz.f96
def Zmv:Unit→Option Bool
| ()=>some true
def Znv (x1 x2:List Int):Int→Option (Int ⊕ Bool)
| x6=>
 ifb (decide (x6<(ln Z3d x1))) (
 (at_ x1 x6).bind fun x7=>
 (Ztk x2 x7).bind fun x8=>
 ifb (!x8) (
 Option.map Sum.inr (some false)) (
 some (.inl (wr (x6+1))))) (
 Option.map Sum.inr (Zmv ()))
def Zov (x1 x2:List Int):Option Bool:=loop (Znv x1 x2) 0
theorem Zpv {x1 x2 r} (h:Zov x1 x2=some r):Zy6 Tryz.prog 96 [Sp1 x1,Sp1 x2] (.bv r):=by
 have ok:=oK 96 Tryz.f96 e96 [.t 4] 2 17;refine FP ok fun w0 H0=>?_;rw [Zov] at h;refine Vg 9 ?_;refine Vk [] (fun _=>[]) Zmv r ?_ fun J1=>?_
 ·rintro ⟨⟩ h;rw [Zmv] at h;exact W
 ·refine Vg 1 ?_;refine Mk h [0,2] (fun x6=>[(5,.iv x6)]) ?_;rintro n1 x6 y1 h hin1 hout1;rw [Znv] at h;(try dsimp only);refine Vg 8 ?_;refine MI h (fun h=>?_) fun h=>?_
  ·refine Vg 8 ?_;have ⟨x7,ex7,h⟩:=Bs h;refine Zic Z3d ex7 trivial rfl rfl rfl (Vg 1 ?_);refine VB h Zuk fun _ _ h=>?_;exact W
  ·exact W
@[go_sem] def e26:EC:=eQ Tryz.f26
def Zqv:Bool→Option Bool
| x5=>some x5
def Zrv (x1:Mail) (x2:Hall):Option Bool:=
 (Zqq x2 x1.From).bind fun x3=>
 ifb (!x3) (
 Zqv true) (
 (Zqq x2 x1.To).bind fun x4=>
 ifb (!x4) (
 Zqv true) (
 Zqv (decide (x1.From=x1.To))))
theorem Zsv {x1 x2 r} (h:Zrv x1 x2=some r):Zy6 Tryz.prog 26 [.agg (Mail.row x1),.elt (Hall.row x2) 0] (.bv r):=by
 have ok:=oK 26 Tryz.f26 e26 [.t 3] 2 21;refine FP ok fun w0 H0=>?_;rw [Zrv] at h;refine Vg 10 ?_;refine VB h Zrq fun _ _ h=>?_;refine Vg 2 ?_;refine Vl [] (fun x5=>([(3,.bv x5)],[],[])) Zqv r ?_ fun J1=>?_
 ·intro x5 h;rw [Zqv] at h;exact W
 ·refine MC 9 h (fun h=>?_) fun h=>?_
  ·exact W
  ·refine Vg 3 ?_;refine VB h Zrq fun _ _ h=>?_;exact W
@[go_sem] def e29:EC:=eQ Tryz.f29
def Ztv (x1:List Mail) (p1:(Mail→Option Bool)):Option Bool:=
 (Zuq x1 p1).bind fun x2=>
 some (decide (0≤x2))
theorem Zuv {x1 g1 caps1 p1 r} (h:Ztv x1 p1=some r) (hc1:CloOK Tryz.prog g1 caps1 (fun z=>[.agg (Mail.row z)]) p1 (fun z=>.bv z)):Zy6 Tryz.prog 29 [Sp9 x1,.clo g1 caps1] (.bv r):=by have ok:=oK 29 Tryz.f29 e29 [.t 4] 2 7;refine FP ok fun w0 H0=>?_;rw [Ztv] at h;refine Vg 8 ?_;refine VB h (fun e=>Zvq e hc1) (fun _ _ h=>?_) (hp:=(by first | rfl | simp [go_sem,hc1.pu]));refine Vg 3 ?_;exact MD ok h
def Zvv:List Mail→Option (List Mail)
| x4=>some x4
def Zwv (x1:Int):Unit→Option (List Mail)
| ()=>
 ifb (decide (0<(wr (x1-(wr (0-0)))))) (
 (Zpf 40 (wr (x1-(wr (0-0)))) (Mail.mk 0 0 (Msg.mk 0 0 0))).bind fun x2=>
 (Z8c x2 0 0).bind fun x3=>
 Zvv x3) (
 Zvv (([]:List Mail)))
def Zxv (x1:Int):Option (List Mail):=
 ifb (decide (x1<0)) (
 none) (
 (Zwv x1) ())
theorem Zyv {x1 r} (h:Zxv x1=some r):Z0f Tryz.prog 74 [.nl,.iv x1] [] [] (.osl 0) [] [Sq6 r]:=by
 refine FT Zyq fun w0 M0=>?_;have ok:=Zyq;rw [Zxv] at h;dsimp only[lun,List.cons_append,List.nil_append];refine Vg 10 ?_;refine Vk [0,2] (fun _=>[]) (Zwv x1) r ?_ fun J1=>?_
 ·rintro ⟨⟩ h;rw [Zwv] at h;(try dsimp only);refine Vg 5 ?_;refine Znf trivial rfl (Vg 11 ?_);refine Vl [] (fun x4=>([(0,.osl 0)],[],[Sq6 x4])) Zvv r ?_ fun J2=>?_
  ·intro x4 h;rw [Zvv] at h;(try dsimp only);refine Vg 5 ?_;obtain rfl:=Option.some.inj h;exact Zkj Zyq
  ·refine MI h (fun h=>?_) fun h=>?_
   ·refine Vg 3 ?_;refine Znf trivial rfl (Zkf trivial rfl rfl rfl (Vg 1 ?_));have ⟨x2,ex2,h⟩:=Bs h;refine Zrf Mail.row ex2 trivial rfl rfl rfl rfl (Vg 2 ?_);have ⟨x3,ex3,h⟩:=Bs h;refine Zif Mail.row ex3 trivial rfl rfl rfl rfl (Vg 2 ?_);refine Zgj 1 0 ?_;exact W
   ·refine Vg 1 ?_;refine Zbb 0 53 5 rfl rfl ?_;exact W
 ·refine MI h (fun h=>?_) fun h=>?_
  ·cases h
  ·exact W
end
end NX
end Go.Proofs.YtgamgemlekpepaaGreat
