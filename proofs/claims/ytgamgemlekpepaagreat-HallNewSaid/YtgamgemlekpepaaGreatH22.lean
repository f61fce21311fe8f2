/-
  The function narthex/narthexlaw18.Own: its code compiled, a model, and that the code answers as the model. Written by a program of ours (lb.py). No statement of the seat is proved here.
-/
import Derived.Test.YtgamgemlekpepaaGreatH20
import Derived.Test.YtgamgemlekpepaaGreatH21
set_option maxRecDepth 100000
set_option maxHeartbeats 4000000
namespace Go.Proofs.YtgamgemlekpepaaGreat
namespace NX
open Go
noncomputable section
@[go_sem] def e30:EC:=eQ Tryz.f30
def Zmy (x2:DK) (x3:Book):(List KE×List Int×List KE)→Option Node
| (x9,x10,x11)=>some (Node.mk x2 x3 x9 x10 x11)
def Zny (x1:Node):Option Node:=
 (Zsu x1.DK).bind fun x2=>
 (Zqp x1.Book).bind fun x3=>
 (Z7c 16 (([]:List KE)) x1.KN).bind fun x4=>
 (Z7c 8 (([]:List Int)) x1.Told).bind fun x6=>
 (Z7c 16 (([]:List KE)) x1.AK).bind fun x8=>
 (Zmy x2 x3) (x4,x6,x8)
theorem Zoy {x1 r} (h:Zny x1=some r):Zy6 Tryz.prog 30 [.agg (Node.row x1)] (.agg (Node.row r)):=by
 have ok:=oK 30 Tryz.f30 e30 [.c 2 (some 10)] 1 26;refine FP ok fun w0 H0=>?_;rw [Zny] at h;refine Vg 6 ?_;have ⟨x2,ex2,h⟩:=Bs h;have ⟨x3,ex3,h⟩:=Bs h;have q0:=Ztu ex2;have q1:=Zrp ex3;refine Zej fun all H=>Gs ?_;refine Vg 1 ?_;refine Vl [1,2] (fun s=>([],[some ⟨67,[.iv x2.DI.ID,.iv x2.DI.PH,Sp3 x2.DI.SD,.iv x2.TH,Sp1 x2.Need,.iv x3.Last,Sp5 x3.Sess,.osl 1,.osl 3,.osl 5]⟩,some ⟨67,[.iv 0,.iv 0,.nl,.iv 0,.nl,.iv 0,.nl,.nl,.nl,.nl]⟩],[none,Zxj s.1,none,Sq4 s.2.1,none,Zxj s.2.2])) (Zmy x2 x3) r ?_ fun J1=>?_
 ·rintro ⟨x9,x10,x11⟩ h;rw [Zmy] at h;(try dsimp only);refine Vg 5 ?_;refine Zhj 1 (Ds ?_);refine Zhj 3 (Ds ?_);refine Zhj 5 ?_;exact W
 ·refine Zej fun all H=>Ds (GP H 6 12 [0,1,2,2,2,2,2,7] [(12,[.ptr 0 7,Sp2 x1.KN]),(2,[.ptr 0 8,Sp1 x1.Told]),(2,[.ptr 0 9,Sp2 x1.AK])] (Ds ?_));refine Zoa 0 4 8 rfl ?_ ?_ ?_
  ·refine RV ?_;have ⟨x4,ex4,h⟩:=Bs h;refine Zoa 3 4 8 rfl ?_ ?_ ?_
   ·refine GA KE.row ex4 H.1 ?_;refine Gn H 1 9 ?_;refine Zna 4 8 rfl ?_ ?_
    ·refine RV ?_;have ⟨x6,ex6,h⟩:=Bs h;refine Zna 7 8 rfl ?_ ?_
     ·refine GA Z3d ex6 H.1 (Ds ?_);refine R1 ?_;refine Zma 11 rfl ?_;have ⟨x8,ex8,h⟩:=Bs h;refine GA KE.row ex8 H.1 (Ds ?_);refine R1 ?_;refine Gn H 1 3 ?_;refine R1 ?_;refine GN H 1 1 (Ds ?_);refine An (R1 ?_);refine GD ?_;exact W
     ·refine RV ?_;refine Zma 7 rfl (GA Z3d ex6 H.1 (Ds ?_));refine Zma 11 rfl ?_;have ⟨x8,ex8,h⟩:=Bs h;refine GA KE.row ex8 H.1 (Ds ?_);refine R1 ?_;refine Gn H 1 3 ?_;refine R1 ?_;refine GN H 1 1 (Ds ?_);refine An (R1 ?_);refine GD (Zgj 4 3 ?_);exact W
    ·refine RV ?_;refine R1 ?_;refine Zma 7 rfl ?_;have ⟨x6,ex6,h⟩:=Bs h;refine GA Z3d ex6 H.1 (Ds ?_);refine Zma 11 rfl ?_;have ⟨x7,ex7,h⟩:=Bs h;refine GA KE.row ex7 H.1 (Ds ?_);refine R1 ?_;refine Gn H 1 3 ?_;refine Zma 15 rfl (RV ?_);refine Gn H 1 1 ?_;refine R1 ?_;refine GD (Zgj 4 3 ?_);exact W
   ·refine RV ?_;refine Zna 3 8 rfl ?_ ?_
    ·refine GA KE.row ex4 H.1 ?_;refine Gn H 1 8 ?_;have ⟨x6,ex6,h⟩:=Bs h;refine Zna 7 8 rfl ?_ ?_
     ·refine GA Z3d ex6 H.1 (Ds ?_);refine R1 ?_;refine Zma 11 rfl ?_;have ⟨x8,ex8,h⟩:=Bs h;refine GA KE.row ex8 H.1 (Ds ?_);refine R1 ?_;refine Gn H 1 3 ?_;refine R1 ?_;refine GN H 1 1 (Ds ?_);refine An (R1 ?_);refine GD (Zgj 2 1 ?_);exact W
     ·refine RV ?_;refine Zma 7 rfl (GA Z3d ex6 H.1 (Ds ?_));refine Zma 11 rfl ?_;have ⟨x8,ex8,h⟩:=Bs h;refine GA KE.row ex8 H.1 (Ds ?_);refine R1 ?_;refine Gn H 1 3 ?_;refine R1 ?_;refine GN H 1 1 (Ds ?_);refine An (R1 ?_);refine GD (Zgj 2 1 (Zgj 4 3 ?_));exact W
    ·refine RV ?_;refine Zma 3 rfl (GA KE.row ex4 H.1 ?_);refine Gn H 1 7 ?_;refine Zma 7 rfl ?_;have ⟨x6,ex6,h⟩:=Bs h;refine GA Z3d ex6 H.1 (Ds ?_);refine Zma 11 rfl ?_;have ⟨x7,ex7,h⟩:=Bs h;refine GA KE.row ex7 H.1 (Ds ?_);refine R1 ?_;refine Gn H 1 3 ?_;refine R1 ?_;refine Gn H 1 1 ?_;refine R1 ?_;refine GD (Zgj 3 1 (Zgj 4 3 ?_));exact W
   ·refine RV ?_;refine Zna 3 4 rfl ?_ ?_
    ·refine GA KE.row ex4 H.1 ?_;refine Gn H 1 8 ?_;refine R1 ?_;refine Zma 7 rfl ?_;have ⟨x6,ex6,h⟩:=Bs h;refine GA Z3d ex6 H.1 (Ds ?_);refine Zma 11 rfl ?_;have ⟨x7,ex7,h⟩:=Bs h;refine GA KE.row ex7 H.1 (Ds ?_);refine R1 ?_;refine Gn H 1 3 ?_;refine R1 ?_;refine Gn H 1 1 ?_;refine R1 ?_;refine GD (Zgj 2 1 (Zgj 4 3 ?_));exact W
    ·refine RV ?_;refine Zma 3 rfl (GA KE.row ex4 H.1 ?_);refine Gn H 1 7 ?_;refine Zma 7 rfl ?_;have ⟨x6,ex6,h⟩:=Bs h;refine GA Z3d ex6 H.1 (Ds ?_);refine Zma 11 rfl ?_;have ⟨x7,ex7,h⟩:=Bs h;refine GA KE.row ex7 H.1 (Ds ?_);refine R1 ?_;refine Gn H 1 3 ?_;refine R1 ?_;refine Gn H 1 1 ?_;refine R1 ?_;refine GD (Zgj 3 1 (Zgj 4 3 ?_));exact W
  ·refine RV ?_;refine Zna 0 8 rfl ?_ ?_
   ·refine RV ?_;have ⟨x4,ex4,h⟩:=Bs h;refine Zna 3 8 rfl ?_ ?_
    ·refine GA KE.row ex4 H.1 ?_;refine Gn H 1 8 ?_;have ⟨x6,ex6,h⟩:=Bs h;refine Zna 7 8 rfl ?_ ?_
     ·refine GA Z3d ex6 H.1 (Ds ?_);refine R1 ?_;refine Zma 11 rfl ?_;have ⟨x8,ex8,h⟩:=Bs h;refine GA KE.row ex8 H.1 (Ds ?_);refine R1 ?_;refine Gn H 1 3 ?_;refine R1 ?_;refine GN H 1 1 (Ds ?_);refine An (R1 ?_);refine GD (Zgj 2 1 ?_);exact W
     ·refine RV ?_;refine Zma 7 rfl (GA Z3d ex6 H.1 (Ds ?_));refine Zma 11 rfl ?_;have ⟨x8,ex8,h⟩:=Bs h;refine GA KE.row ex8 H.1 (Ds ?_);refine R1 ?_;refine Gn H 1 3 ?_;refine R1 ?_;refine GN H 1 1 (Ds ?_);refine An (R1 ?_);refine GD (Zgj 2 1 (Zgj 4 3 ?_));exact W
    ·refine RV ?_;refine Zma 3 rfl (GA KE.row ex4 H.1 ?_);refine Gn H 1 7 ?_;refine Zma 7 rfl ?_;have ⟨x6,ex6,h⟩:=Bs h;refine GA Z3d ex6 H.1 (Ds ?_);refine Zma 11 rfl ?_;have ⟨x7,ex7,h⟩:=Bs h;refine GA KE.row ex7 H.1 (Ds ?_);refine R1 ?_;refine Gn H 1 3 ?_;refine R1 ?_;refine Gn H 1 1 ?_;refine R1 ?_;refine GD (Zgj 3 1 (Zgj 4 3 ?_));exact W
   ·refine RV ?_;refine R1 ?_;refine Zma 3 rfl ?_;have ⟨x4,ex4,h⟩:=Bs h;refine GA KE.row ex4 H.1 ?_;refine Gn H 1 7 ?_;refine Zma 7 rfl ?_;have ⟨x5,ex5,h⟩:=Bs h;refine GA Z3d ex5 H.1 (Ds ?_);refine Zma 11 rfl ?_;have ⟨x6,ex6,h⟩:=Bs h;refine GA KE.row ex6 H.1 (Ds ?_);refine R1 ?_;refine Gn H 1 3 ?_;refine R1 ?_;refine Gn H 1 1 ?_;refine R1 ?_;refine GD (Zgj 3 1 (Zgj 4 3 ?_));exact W
  ·refine RV ?_;refine Zna 0 4 rfl ?_ ?_
   ·refine RV ?_;have ⟨x4,ex4,h⟩:=Bs h;refine Zna 3 4 rfl ?_ ?_
    ·refine GA KE.row ex4 H.1 ?_;refine Gn H 1 8 ?_;refine R1 ?_;refine Zma 7 rfl ?_;have ⟨x6,ex6,h⟩:=Bs h;refine GA Z3d ex6 H.1 (Ds ?_);refine Zma 11 rfl ?_;have ⟨x7,ex7,h⟩:=Bs h;refine GA KE.row ex7 H.1 (Ds ?_);refine R1 ?_;refine Gn H 1 3 ?_;refine R1 ?_;refine Gn H 1 1 ?_;refine R1 ?_;refine GD (Zgj 2 1 (Zgj 4 3 ?_));exact W
    ·refine RV ?_;refine Zma 3 rfl (GA KE.row ex4 H.1 ?_);refine Gn H 1 7 ?_;refine Zma 7 rfl ?_;have ⟨x6,ex6,h⟩:=Bs h;refine GA Z3d ex6 H.1 (Ds ?_);refine Zma 11 rfl ?_;have ⟨x7,ex7,h⟩:=Bs h;refine GA KE.row ex7 H.1 (Ds ?_);refine R1 ?_;refine Gn H 1 3 ?_;refine R1 ?_;refine Gn H 1 1 ?_;refine R1 ?_;refine GD (Zgj 3 1 (Zgj 4 3 ?_));exact W
   ·refine RV ?_;refine R1 ?_;refine Zma 3 rfl ?_;have ⟨x4,ex4,h⟩:=Bs h;refine GA KE.row ex4 H.1 ?_;refine Gn H 1 7 ?_;refine Zma 7 rfl ?_;have ⟨x5,ex5,h⟩:=Bs h;refine GA Z3d ex5 H.1 (Ds ?_);refine Zma 11 rfl ?_;have ⟨x6,ex6,h⟩:=Bs h;refine GA KE.row ex6 H.1 (Ds ?_);refine R1 ?_;refine Gn H 1 3 ?_;refine R1 ?_;refine Gn H 1 1 ?_;refine R1 ?_;refine GD (Zgj 3 1 (Zgj 4 3 ?_));exact W
@[go_sem] def e15:EC:=eQ Tryz.f15
def Zpy:Bool→Option Bool
| x8=>some x8
def Zqy (x1 x2:Node):Option Bool:=
 (Zvu x1.DK x2.DK).bind fun x3=>
 ifb x3 (
 (Z2v x1.Book x2.Book).bind fun x4=>
 ifb x4 (
 (Zvp x1.KN x2.KN).bind fun x5=>
 ifb x5 (
 (Zxk x1.Told x2.Told).bind fun x6=>
 ifb x6 (
 (Zvp x1.AK x2.AK).bind fun x7=>
 Zpy x7) (
 Zpy false)) (
 Zpy false)) (
 Zpy false)) (
 Zpy false)
theorem Zry {x1 x2 r} (h:Zqy x1 x2=some r):Zy6 Tryz.prog 15 [.agg (Node.row x1),.agg (Node.row x2)] (.bv r):=by
 have ok:=oK 15 Tryz.f15 e15 [.t 4] 2 36;refine FP ok fun w0 H0=>?_;rw [Zqy] at h;refine Vg 12 ?_;refine VB h Zwu fun _ _ h=>?_;refine Vg 1 ?_;refine Vl [] (fun x8=>([(4,.bv x8)],[],[])) Zpy r ?_ fun J1=>?_
 ·intro x8 h;rw [Zpy] at h;exact W
 ·refine MC 10 h (fun h=>?_) fun h=>?_
  ·refine Vg 4 ?_;refine VB h Z3v fun _ _ h=>?_;refine Vg 2 ?_;refine MC 17 h (fun h=>?_) fun h=>?_
   ·refine Vg 4 ?_;refine VB h Zwp fun _ _ h=>?_;refine Vg 2 ?_;refine MC 24 h (fun h=>?_) fun h=>?_
    ·refine Vg 4 ?_;refine VB h Zyk fun _ _ h=>?_;refine Vg 2 ?_;refine MC 31 h (fun h=>?_) fun h=>?_
     ·refine Vg 4 ?_;refine VB h Zwp fun _ _ h=>?_;exact W
     ·exact W
    ·exact W
   ·exact W
  ·exact W
@[go_sem] def e93:EC:=eQ Tryz.f93
def Zsy (x1:Node):Unit→Option Bool
| ()=>some (decide (x1.DK.DI.ID≤63))
def Zty (x1:Node):Int→Option (Int ⊕ Bool)
| x49=>
 ifb (decide (x49<(ln KE.row x1.AK))) (
 (Z8c x1.AK 0 x49).bind fun x50=>
 (at_ x1.AK x49).bind fun x51=>
 (Zkv (Node.mk x1.DK x1.Book x1.KN x1.Told x50) x51).bind fun x52=>
 ifb (!x52) (
 Option.map Sum.inr (some false)) (
 some (.inl (wr (x49+1))))) (
 Option.map Sum.inr ((Zsy x1) ()))
def Zuy (x1:Node):Unit→Option Bool
| ()=>loop (Zty x1) 0
def Zvy (x33:Int):Bool→Option (Int ⊕ Bool)
| x41=>
 ifb x41 (
 Option.map Sum.inr (some false)) (
 some (.inl (wr (x33+1))))
def Zwy (x1:Node) (x33:Int):(Bool×Side)→Option (Int ⊕ Bool)
| (x37,x38)=>
 ifb (!x37) (
 (Zvy x33) true) (
 ifb (!decide (x38.State=1)) (
 (Zvy x33) true) (
 ifb (decide (0<x33)) (
 (at_ x1.Told (wr (x33-1))).bind fun x39=>
 (at_ x1.Told x33).bind fun x40=>
 (Zvy x33) (decide (x40≤x39))) (
 (Zvy x33) false)))
def Zxy (x1:Node):Int→Option (Int ⊕ Bool)
| x33=>
 ifb (decide (x33<(ln Z3d x1.Told))) (
 (at_ x1.Told x33).bind fun x34=>
 (Zzl x1.DK.DI x34).bind fun x35=>
 (Zwy x1 x33) (x35.2,x35.1)) (
 Option.map Sum.inr ((Zuy x1) ()))
def Zyy (x1:Node):Unit→Option Bool
| ()=>loop (Zxy x1) 0
def Zzy (x17:Int):Bool→Option (Int ⊕ Bool)
| x20=>
 ifb x20 (
 Option.map Sum.inr (some false)) (
 some (.inl (wr (x17+1))))
def Z0z (x1:Node):Int→Option (Int ⊕ Bool)
| x17=>
 ifb (decide (x17<(ln Side.row x1.DK.DI.SD))) (
 (at_ x1.DK.DI.SD x17).bind fun x18=>
 ifb (decide (63<x18.Peer)) (
 (Zzy x17) true) (
 ifb (decide (x18.Epoch<1)) (
 (Zzy x17) true) (
 (Zhq x1.KN x18.Peer).bind fun x19=>
 ifb (!decide (x19=x18.Epoch)) (
 (Zzy x17) true) (
 ifb (decide (x18.Peer<x1.DK.DI.ID)) (
 ifb (decide (x18.State=1)) (
 (Zzy x17) true) (
 (Zzy x17) (decide (x18.State=3)))) (
 (Zzy x17) false))))) (
 Option.map Sum.inr ((Zyy x1) ()))
def Z1z (x1:Node):Unit→Option Bool
| ()=>loop (Z0z x1) 0
def Z2z (x6:Int):Bool→Option (Int ⊕ Bool)
| x9=>
 ifb x9 (
 Option.map Sum.inr (some false)) (
 some (.inl (wr (x6+1))))
def Z3z (x1:Node):Int→Option (Int ⊕ Bool)
| x6=>
 ifb (decide (x6<(ln KE.row x1.KN))) (
 (at_ x1.KN x6).bind fun x7=>
 ifb (decide (x7.Peer<0)) (
 (Z2z x6) true) (
 ifb (decide (63<x7.Peer)) (
 (Z2z x6) true) (
 ifb (decide (0<x6)) (
 (at_ x1.KN (wr (x6-1))).bind fun x8=>
 ifb (decide (x7.Peer≤x8.Peer)) (
 (Z2z x6) true) (
 ifb (decide (x7.Epoch<1)) (
 (Z2z x6) true) (
 (Z2z x6) (decide (65535<x7.Epoch))))) (
 ifb (decide (x7.Epoch<1)) (
 (Z2z x6) true) (
 (Z2z x6) (decide (65535<x7.Epoch))))))) (
 Option.map Sum.inr ((Z1z x1) ()))
def Z4z (x1:Node):Option Bool:=loop (Z3z x1) 0
theorem Z5z {x1 r} (h:Z4z x1=some r):Zy6 Tryz.prog 93 [.agg (Node.row x1)] (.bv r):=by
 have ok:=oK 93 Tryz.f93 e93 [.t 2] 1 180;refine FP ok fun w0 H0=>?_;rw [Z4z] at h;refine Vg 10 ?_;refine Vk [1,1] (fun _=>[]) (Z1z x1) r ?_ fun J1=>?_
 ·rintro ⟨⟩ h;rw [Z1z] at h;(try dsimp only);refine Vg 5 ?_;refine Vk [1,1] (fun _=>[]) (Zyy x1) r ?_ fun J3=>?_
  ·rintro ⟨⟩ h;rw [Zyy] at h;(try dsimp only);refine Vg 5 ?_;refine Vk [1,1] (fun _=>[]) (Zuy x1) r ?_ fun J5=>?_
   ·rintro ⟨⟩ h;rw [Zuy] at h;(try dsimp only);refine Vg 5 ?_;refine Vk [1,1] (fun _=>[]) (Zsy x1) r ?_ fun J8=>?_
    ·rintro ⟨⟩ h;rw [Zsy] at h;exact W
    ·refine Vg 1 ?_;refine Mk h [1,1] (fun x49=>[(10,.iv x49)]) ?_;rintro n1 x49 y1 h hin1 hout1;rw [Zty] at h;(try dsimp only);refine Vg 9 ?_;refine MI h (fun h=>?_) fun h=>?_
     ·refine Vg 14 ?_;have ⟨x50,ex50,h⟩:=Bs h;refine Zkd KE.row ex50 trivial rfl rfl rfl rfl (Vg 4 ?_);have ⟨x51,ex51,h⟩:=Bs h;have ⟨x52,ex52,h⟩:=Bs h;have q0:=Zlv ex52;refine Zej fun all H=>Gs ?_;exact W
     ·exact W
   ·refine Vg 1 ?_;refine Mk h [1,1] (fun x33=>[(7,.iv x33)]) ?_;rintro n1 x33 y1 h hin1 hout1;rw [Zxy] at h;(try dsimp only);refine Vg 9 ?_;refine MI h (fun h=>?_) fun h=>?_
    ·refine Vg 4 ?_;refine Vl [1,1,5,1] (fun s=>([(8,.ptr 1 0),(9,.bv s.1)],[some ⟨67,Node.row x1⟩,some ⟨112,[.iv s.2.Peer,.iv s.2.Epoch,.iv s.2.State,.bv s.2.Fork,.bv s.2.DY,.bv s.2.Token,.bv s.2.BO,.bv s.2.Ask]⟩],[])) (Zwy x1 x33) y1 ?_ fun J6=>?_
     ·rintro ⟨x37,x38⟩ h;rw [Zwy] at h;(try dsimp only);refine Vg 1 ?_;refine Vl [1,1,5,1] (fun x41=>([(154,.bv x41)],[some ⟨67,Node.row x1⟩],[])) (Zvy x33) y1 ?_ fun J7=>?_
      ·intro x41 h;rw [Zvy] at h;exact W
      ·refine Zej fun all H=>Ds (GP H 3 22 [3,22] [(130,[.bv x37,.bv (!x37),.bv (!x37)])] (Ds ?_));refine Zcd 132 h rfl (fun _ h=>?_) fun _ h=>?_
       ·refine Ds (GP H 22 0 [25] [(133,[.un,.un,.un,.tt,.tt,.un,.un,.un,.un,.un,.un,.un,.un,.un,.un,.un,.un,.un,.un,.un,.un,.tt])] (Ds ?_));refine GD ?_;exact W
       ·refine Ds (GP H 5 17 [8,17] [(133,[.ptr 1 2,.iv x38.State,.bv (!decide (x38.State=1)),.bv (!decide (x38.State=1)),.bv (!decide (x38.State=1))])] (Ds ?_));refine Zcd 137 h rfl (fun _ h=>?_) fun _ h=>?_
        ·refine Ds (GP H 17 0 [25] [(138,[.un,.un,.un,.un,.un,.un,.un,.un,.un,.un,.un,.un,.un,.un,.un,.un,.tt])] (Ds ?_));refine GD ?_;exact W
        ·refine Ds (GP H 3 14 [11,14] [(138,[.iv x33,.bv (decide (0<x33)),.bv (decide (0<x33))])] (Ds ?_));refine Zcd 140 h rfl (fun _ h=>?_) fun _ h=>?_
         ·refine Ds (GP H 7 7 [15,2,3,5] [(141,[.ptr 0 8,Sp1 x1.Told,.iv x33,.iv (wr (x33-1))]),(2,[.ptr 0 8,Sp1 x1.Told,.iv x33])] (Ds ?_));have ⟨x39,ex39,h⟩:=Bs h;refine Zjc H.1 H.2.1 H.2.2.1 H.2.2.2 15 Z3d ex39 rfl rfl trivial rfl rfl rfl rfl (Gn H 1 5 ?_);have ⟨x40,ex40,h⟩:=Bs h;refine Zjc H.1 H.2.1 H.2.2.1 H.2.2.2 20 Z3d ex40 rfl rfl trivial rfl rfl rfl rfl (GP H 4 0 [25] [(151,[.iv x40,.bv (decide (x40≤x39)),.bv (decide (x40≤x39)),.bv (decide (x40≤x39))])] (Ds ?_));refine GD ?_;exact W
         ·refine Ds (GP H 14 0 [25] [(141,[.un,.un,.un,.un,.un,.un,.un,.un,.un,.un,.un,.un,.ff,.ff])] (Ds ?_));refine GD ?_;exact W
     ·have ⟨x34,ex34,h⟩:=Bs h;have ⟨x35,ex35,h⟩:=Bs h;have q0:=Z0m ex35;refine Zej fun all H=>Gs ?_;exact W
    ·exact W
  ·refine Vg 1 ?_;refine Mk h [1,1] (fun x17=>[(5,.iv x17)]) ?_;rintro n1 x17 y1 h hin1 hout1;rw [Z0z] at h;(try dsimp only);refine Vg 11 ?_;refine MI h (fun h=>?_) fun h=>?_
   ·refine Vg 10 ?_;have ⟨x18,ex18,h⟩:=Bs h;refine Zic Side.row ex18 trivial rfl rfl rfl (Vg 5 ?_);refine Vl [1,1,3,1] (fun x20=>([(110,.bv x20)],[some ⟨67,Node.row x1⟩],[])) (Zzy x17) y1 ?_ fun J4=>?_
    ·intro x20 h;rw [Zzy] at h;exact W
    ·refine Zej fun all H=>Ds (GP H 4 33 [4,33] [(74,[.ptr 1 0,.iv x18.Peer,.bv (decide (63<x18.Peer)),.bv (decide (63<x18.Peer))])] (Ds ?_));refine Zcd 77 h rfl (fun _ h=>?_) fun _ h=>?_
     ·refine Ds (GP H 33 0 [37] [(78,[.un,.un,.un,.tt,.tt,.un,.un,.un,.un,.un,.un,.un,.un,.tt,.tt,.un,.un,.un,.un,.un,.un,.un,.un,.un,.un,.un,.un,.un,.un,.un,.un,.un,.tt])] (Ds ?_));refine GD ?_;exact W
     ·refine Ds (GP H 5 28 [9,28] [(78,[.ptr 1 1,.iv x18.Epoch,.bv (decide (x18.Epoch<1)),.bv (decide (x18.Epoch<1)),.bv (decide (x18.Epoch<1))])] (Ds ?_));refine Zcd 82 h rfl (fun _ h=>?_) fun _ h=>?_
      ·refine Ds (GP H 28 0 [37] [(83,[.un,.un,.un,.un,.un,.un,.un,.un,.tt,.tt,.un,.un,.un,.un,.un,.un,.un,.un,.un,.un,.un,.un,.un,.un,.un,.un,.un,.tt])] (Ds ?_));refine GD ?_;exact W
      ·refine Ds (GP H 6 22 [13,1,2,21] [(83,[.ptr 0 7,Sp2 x1.KN,.ptr 1 0,.iv x18.Peer]),(1,[.ptr 1 1,.iv x18.Epoch])] (Ds ?_));refine Zma 13 rfl (GB H.1 h Ziq fun x19 _ h=>?_);refine Ds (GP H 3 18 [19,18] [(90,[.bv (!decide (x19=x18.Epoch)),.bv (!decide (x19=x18.Epoch)),.bv (!decide (x19=x18.Epoch))])] (Ds ?_));refine Zcd 92 h rfl (fun _ h=>?_) fun _ h=>?_
       ·refine Ds (GP H 18 0 [37] [(93,[.un,.un,.un,.un,.un,.un,.un,.un,.un,.un,.un,.un,.un,.un,.un,.un,.un,.tt])] (Ds ?_));refine GD ?_;exact W
       ·refine Ds (GP H 8 10 [27,10] [(93,[.ptr 1 0,.iv x18.Peer,.ptr 0 0,.ptr 0 0,.ptr 0 0,.iv x1.DK.DI.ID,.bv (decide (x18.Peer<x1.DK.DI.ID)),.bv (decide (x18.Peer<x1.DK.DI.ID))])] (Ds ?_));refine Zcd 100 h rfl (fun _ h=>?_) fun _ h=>?_
        ·refine Ds (GP H 4 6 [31,6] [(101,[.ptr 1 2,.iv x18.State,.bv (decide (x18.State=1)),.bv (decide (x18.State=1))])] (Ds ?_));refine Zcd 104 h rfl (fun _ h=>?_) fun _ h=>?_
         ·refine Ds (GP H 6 0 [37] [(105,[.un,.un,.un,.tt,.tt,.tt])] (Ds ?_));refine GD ?_;exact W
         ·refine Ds (GP H 6 0 [37] [(105,[.ptr 1 2,.iv x18.State,.bv (decide (x18.State=3)),.bv (decide (x18.State=3)),.bv (decide (x18.State=3)),.bv (decide (x18.State=3))])] (Ds ?_));refine GD ?_;exact W
        ·refine Ds (GP H 10 0 [37] [(101,[.un,.un,.un,.un,.un,.un,.un,.un,.ff,.ff])] (Ds ?_));refine GD ?_;exact W
   ·exact W
 ·refine Vg 1 ?_;refine Mk h [1,1] (fun x6=>[(3,.iv x6)]) ?_;rintro n1 x6 y1 h hin1 hout1;rw [Z3z] at h;(try dsimp only);refine Vg 9 ?_;refine MI h (fun h=>?_) fun h=>?_
  ·refine Vg 8 ?_;have ⟨x7,ex7,h⟩:=Bs h;refine Zic KE.row ex7 trivial rfl rfl rfl (Vg 5 ?_);refine Vl [1,1,1,1] (fun x9=>([(57,.bv x9)],[some ⟨67,Node.row x1⟩],[])) (Z2z x6) y1 ?_ fun J2=>?_
   ·intro x9 h;rw [Z2z] at h;exact W
   ·refine Zej fun all H=>Ds (GP H 4 30 [4,30] [(24,[.ptr 1 0,.iv x7.Peer,.bv (decide (x7.Peer<0)),.bv (decide (x7.Peer<0))])] (Ds ?_));refine Zcd 27 h rfl (fun _ h=>?_) fun _ h=>?_
    ·refine Ds (GP H 30 0 [34] [(28,[.un,.un,.un,.tt,.tt,.un,.un,.un,.un,.un,.un,.un,.un,.un,.un,.un,.un,.un,.un,.tt,.tt,.un,.un,.un,.tt,.tt,.un,.un,.un,.tt])] (Ds ?_));refine GD ?_;exact W
    ·refine Ds (GP H 5 25 [9,25] [(28,[.ptr 1 0,.iv x7.Peer,.bv (decide (63<x7.Peer)),.bv (decide (63<x7.Peer)),.bv (decide (63<x7.Peer))])] (Ds ?_));refine Zcd 32 h rfl (fun _ h=>?_) fun _ h=>?_
     ·refine Ds (GP H 25 0 [34] [(33,[.un,.un,.un,.un,.un,.un,.un,.un,.un,.un,.un,.un,.un,.un,.tt,.tt,.un,.un,.un,.tt,.tt,.un,.un,.un,.tt])] (Ds ?_));refine GD ?_;exact W
     ·refine Ds (GP H 3 22 [12,22] [(33,[.iv x6,.bv (decide (0<x6)),.bv (decide (0<x6))])] (Ds ?_));refine Zcd 35 h rfl (fun _ h=>?_) fun _ h=>?_
      ·refine Ds (GP H 6 16 [16,3,2,13] [(36,[.ptr 0 7,Sp2 x1.KN,.iv x6,.iv (wr (x6-1))]),(3,[.ptr 1 0,.iv x7.Peer])] (Ds ?_));have ⟨x8,ex8,h⟩:=Bs h;refine Zjc H.1 H.2.1 H.2.2.1 H.2.2.2 16 KE.row ex8 rfl rfl trivial rfl rfl rfl rfl (GP H 6 9 [25,9] [(41,[.elt (KE.row x8) 0,.iv x8.Peer]),(2,[.bv (decide (x7.Peer≤x8.Peer)),.bv (decide (x7.Peer≤x8.Peer)),.bv (decide (x7.Peer≤x8.Peer)),.bv (decide (x7.Peer≤x8.Peer))])] (Ds ?_));refine Zcd 48 h rfl (fun _ h=>?_) fun _ h=>?_
       ·refine Ds (GP H 9 0 [34] [(49,[.un,.un,.un,.tt,.tt,.un,.un,.un,.tt])] (Ds ?_));refine GD ?_;exact W
       ·refine Ds (GP H 5 4 [30,4] [(49,[.ptr 1 1,.iv x7.Epoch,.bv (decide (x7.Epoch<1)),.bv (decide (x7.Epoch<1)),.bv (decide (x7.Epoch<1))])] (Ds ?_));refine Zcd 53 h rfl (fun _ h=>?_) fun _ h=>?_
        ·refine Ds (GP H 4 0 [34] [(54,[.un,.un,.un,.tt])] (Ds ?_));refine GD ?_;exact W
        ·refine Ds (GP H 4 0 [34] [(54,[.ptr 1 1,.iv x7.Epoch,.bv (decide (65535<x7.Epoch)),.bv (decide (65535<x7.Epoch))])] (Ds ?_));refine GD ?_;exact W
      ·refine Ds (GP H 18 4 [30,4] [(36,[.un,.un,.un,.un,.un,.un,.un,.un,.un,.un,.ff,.ff,.ff,.ptr 1 1,.iv x7.Epoch,.bv (decide (x7.Epoch<1)),.bv (decide (x7.Epoch<1)),.bv (decide (x7.Epoch<1))])] (Ds ?_));refine Zcd 53 h rfl (fun _ h=>?_) fun _ h=>?_
       ·refine Ds (GP H 4 0 [34] [(54,[.un,.un,.un,.tt])] (Ds ?_));refine GD ?_;exact W
       ·refine Ds (GP H 4 0 [34] [(54,[.ptr 1 1,.iv x7.Epoch,.bv (decide (65535<x7.Epoch)),.bv (decide (65535<x7.Epoch))])] (Ds ?_));refine GD ?_;exact W
  ·exact W
def Z6z (x10:List Side) (x11:List Int) (x15:List KE) (x16:List Int) (x17:List KE):List Sess→Option (List Side×List Int×List KE×List Int×List KE×List Sess)
| x46=>some (x10,x11,x15,x16,x17,x46)
def Z7z (x25:Int):List Sess→Option ((Int×List Sess) ⊕ (List Side×List Int×List KE×List Int×List KE×List Sess))
| x30=>some (.inl (wr (x25+1),x30))
def Z8z (x10:List Side) (x11:List Int) (x15:List KE) (x16:List Int) (x17:List KE) (x18:List Sess):(Int×List Sess)→Option ((Int×List Sess) ⊕ (List Side×List Int×List KE×List Int×List KE×List Sess))
| (x25,x26)=>
 ifb (decide (x25<(ln Sess.row x18))) (
 (at_ x26 x25).bind fun x27=>
 (Z0l x27.Need).bind fun x28=>
 (Z7z x25) (x26.set (Int.toNat (x25)) (Sess.mk x27.ID x28 x27.State x27.Age))) (
 Option.map Sum.inr ((Z6z x10 x11 x15 x16 x17) x26))
def Z9z (x10:List Side) (x11:List Int):(List KE×List Int×List KE)→Option (List Side×List Int×List KE×List Int×List KE×List Sess)
| (x15,x16,x17)=>
 (Zfl (([]:List Sess))).bind fun x18=>
 loop (Z8z x10 x11 x15 x16 x17 x18) (0,x18)
def Zaz (x7:List KE):(List Side×List Int)→Option (List Side×List Int×List KE×List Int×List KE×List Sess)
| (x10,x11)=>
 (Zpm x7).bind fun x12=>
 (Z0l (([]:List Int))).bind fun x13=>
 (Zpm (([]:List KE))).bind fun x14=>
 (Z9z x10 x11) (x12,x13,x14)
def Zbz (_x1 _x2:Int) (x3:List Side) (_x4:Int) (x5:List Int) (_x6:Int) (x7:List KE):Option (List Side×List Int×List KE×List Int×List KE×List Sess):=
 (Zbm x3).bind fun x8=>
 (Z0l x5).bind fun x9=>
 (Zaz x7) (x8,x9)
theorem Zcz {x1 x2 x3 x4 x5 x6 x7 r} (h:Zbz x1 x2 x3 x4 x5 x6 x7=some r):Z0f Tryz.prog 52 [.agg [.iv x1,.iv x2,Sp3 x3,.iv x4,Sp1 x5,.iv x6,.nl,.osl 0,.nl,.nl]] [] [Zxj x7] (.agg [.iv x1,.iv x2,.osl 1,.iv x4,.osl 2,.iv x6,.osl 6,.osl 3,.osl 4,.osl 5]) [] [Zxj x7,Zwj r.1,Sq4 r.2.1,Zxj r.2.2.1,Sq4 r.2.2.2.1,Zxj r.2.2.2.2.1,Zuj r.2.2.2.2.2]:=by
 refine FT Zks fun w0 M0=>?_;have ok:=Zks;rw [Zbz] at h;dsimp only[lun,List.cons_append,List.nil_append];refine Vg 6 ?_;refine Vl [1,2] (fun s=>([],[some ⟨67,[.iv x1,.iv x2,.osl 1,.iv x4,.osl 2,.iv x6,.nl,.osl 0,.nl,.nl]⟩,some ⟨67,[.iv 0,.iv 0,.nl,.iv 0,.nl,.iv 0,.nl,.nl,.nl,.nl]⟩],[Zxj x7,Zwj s.1,Sq4 s.2])) (Zaz x7) r ?_ fun J1=>?_
 ·rintro ⟨x10,x11⟩ h;rw [Zaz] at h;(try dsimp only);refine Vg 1 ?_;refine Vl [1,2] (fun s=>([],[some ⟨67,[.iv x1,.iv x2,.osl 1,.iv x4,.osl 2,.iv x6,.nl,.osl 3,.osl 4,.osl 5]⟩,some ⟨67,[.iv 0,.iv 0,.nl,.iv 0,.nl,.iv 0,.nl,.nl,.nl,.nl]⟩],[Zxj x7,Zwj x10,Sq4 x11,Zxj s.1,Sq4 s.2.1,Zxj s.2.2])) (Z9z x10 x11) r ?_ fun J2=>?_
  ·rintro ⟨x15,x16,x17⟩ h;rw [Z9z] at h;(try dsimp only);refine Vg 5 ?_;have ⟨x18,ex18,h⟩:=Bs h;refine Ztd trivial (Zgl ex18) (h:=?_);refine Vg 13 ?_;refine Vm [1,2] (fun x46=>([],[],[],[(6,Zuj x46)])) (Z6z x10 x11 x15 x16 x17) r ?_ fun J3=>?_
   ·intro x46 h;rw [Z6z] at h;(try dsimp only);refine Vg 5 ?_;obtain rfl:=Option.some.inj h;exact Zkj Zks
   ·refine Vg 1 ?_;refine Mm h [1,2,36,1] (fun s=>([(40,.iv s.1)],[],[],[(6,Zuj s.2)])) ?_;rintro n1 ⟨x25,x26⟩ y1 h hin1 hout1;rw [Z8z] at h;(try dsimp only);refine Vg 5 ?_;refine MI h (fun h=>?_) fun h=>?_
    ·refine Vg 8 ?_;refine Vm [1,2,36,2] (fun x30=>([],[],[],[(6,Zuj x30)])) (Z7z x25) y1 ?_ fun J4=>?_
     ·intro x30 h;rw [Z7z] at h;exact W
     ·refine Zej fun all H=>Ds (GP H 6 9 [2,1,3,1,1,7] [(43,[.ptr 0 5,.ptr 0 6]),(1,[.iv x25,.ptr 0 5,.ptr 0 6]),(1,[.iv x25])] (Ds ?_));refine Zna 2 6 rfl ?_ ?_
      ·refine RV ?_;refine R1 ?_;have ⟨x27,ex27,h⟩:=Bs h;refine RO ?_;refine RI ?_;refine Gn H 1 5 ?_;refine RO ?_;refine RL ?_;refine Zma 11 rfl (GB H.1 h Z2l fun x28 ex28 h=>?_);refine Ds ?_;refine RO ?_;refine RI ?_;refine Gn H 1 1 ?_;refine Zma 14 rfl (Zuf H.1 [Sp1 x28] Sess.row (y':=(Sess.mk x27.ID x28 x27.State x27.Age)) ex27 rfl trivial rfl rfl rfl (by first | exact Zqb _ | simp [go_sem]) rfl rfl rfl rfl (Ds ?_));refine GD ?_;exact W
      ·refine RV ?_;have ⟨x27,ex27,h⟩:=Bs h;refine Zna 2 8 rfl ?_ ?_
       ·refine RV ?_;refine RO ?_;refine RI ?_;refine Gn H 1 5 ?_;refine RO ?_;refine RL ?_;refine Zma 11 rfl (GB H.1 h Z2l fun x28 ex28 h=>?_);refine Ds ?_;refine Zma 12 rfl (GI H.1 Sess.row ex27 (Ds ?_));refine Gn H 1 1 ?_;refine Zma 14 rfl (Zuf H.1 [Sp1 x28] Sess.row (y':=(Sess.mk x27.ID x28 x27.State x27.Age)) ex27 rfl trivial rfl rfl rfl (by first | exact Zqb _ | simp [go_sem]) rfl rfl rfl rfl (Ds ?_));refine GD ?_;exact W
       ·refine RI ?_;refine Gn H 1 6 ?_;refine Zna 2 10 rfl ?_ ?_
        ·refine RV ?_;refine RO ?_;refine RL ?_;refine Zma 11 rfl (GB H.1 h Z2l fun x28 ex28 h=>?_);refine Ds ?_;refine RO ?_;refine RI ?_;refine Gn H 1 1 ?_;refine Zma 14 rfl (Zuf H.1 [Sp1 x28] Sess.row (y':=(Sess.mk x27.ID x28 x27.State x27.Age)) ex27 rfl trivial rfl rfl rfl (by first | exact Zqb _ | simp [go_sem]) rfl rfl rfl rfl (Ds ?_));refine GD ?_;exact W
        ·refine RL ?_;have ⟨x28,ex28,h⟩:=Bs h;refine Zna 2 11 rfl ?_ ?_
         ·refine RV ?_;refine Zma 11 rfl (GC H.1 (Z2l ex28) (Ds ?_));refine RO ?_;refine RI ?_;refine Gn H 1 1 ?_;refine Zma 14 rfl (Zuf H.1 [Sp1 x28] Sess.row (y':=(Sess.mk x27.ID x28 x27.State x27.Age)) ex27 rfl trivial rfl rfl rfl (by first | exact Zqb _ | simp [go_sem]) rfl rfl rfl rfl (Ds ?_));refine GD ?_;exact W
         ·refine GC H.1 (Z2l ex28) (Ds ?_);refine R1 ?_;refine RO ?_;refine RI ?_;refine Gn H 1 1 ?_;refine Zma 14 rfl (Zuf H.1 [Sp1 x28] Sess.row (y':=(Sess.mk x27.ID x28 x27.State x27.Age)) ex27 rfl trivial rfl rfl rfl (by first | exact Zqb _ | simp [go_sem]) rfl rfl rfl rfl (Ds ?_));refine GD ?_;exact W
    ·exact W
  ·refine Zej fun all H=>Ds (GP H 5 10 [1,2,2,1,2,7] [(18,[.ptr 0 7]),(2,[.ptr 0 8,.nl]),(1,[.ptr 0 9,.nl])] (Ds ?_));refine R1 ?_;refine Zma 2 rfl (GR H.1 [] [0] 2 3 h Zpt fun _ _ h=>?_);refine Ds ?_;refine GN H 1 7 (Ds ?_);refine An (Zma 5 rfl ?_);have ⟨x13,ex13,h⟩:=Bs h;refine Zud H.1 rfl trivial (Z1l ex13) (h:=Ds ?_);refine Zma 8 rfl ?_;have ⟨x14,ex14,h⟩:=Bs h;refine Zud H.1 rfl trivial (Zqm ex14) (h:=Ds ?_);refine R1 ?_;refine Gn H 1 3 ?_;refine R1 ?_;refine Gn H 1 1 ?_;refine R1 ?_;refine GD ?_;exact W
 ·refine Zej fun all H=>Ds (GP H 7 9 [4,1,3,8] [(4,[.ptr 0 0,.ptr 0 0,.ptr 0 2,Sp3 x3]),(1,[.ptr 0 0,.ptr 0 4,Sp1 x5])] (Ds ?_));refine Zma 4 rfl ?_;have ⟨x8,ex8,h⟩:=Bs h;refine Zud H.1 rfl trivial (Zcm ex8) (h:=?_);refine Gn H 3 5 ?_;refine Zma 8 rfl ?_;have ⟨x9,ex9,h⟩:=Bs h;refine Zud H.1 rfl trivial (Z1l ex9) (h:=Ds ?_);refine R1 ?_;refine Gn H 2 1 ?_;refine R1 ?_;refine GD ?_;exact W
@[go_sem] def e42:EC:=eQ Tryz.f42
def Zdz:List Mail→Option (List Mail)
| x31=>some x31
def Zez (x1:(List (List Mail))):(Int×List Mail)→Option ((Int×List Mail) ⊕ (List Mail))
| (x21,x22)=>
 ifb (decide (x21<(ln (Z7d 5 Mail.row) x1))) (
 (at_ x1 x21).bind fun x23=>
 (Z7c 40 x22 x23).bind fun x24=>
 some (.inl (wr (x21+1),x24))) (
 Option.map Sum.inr (Zdz x22))
def Zfz (x1:(List (List Mail))):Int→Option (List Mail)
| x15=>
 (Zxv x15).bind fun x16=>
 loop (Zez x1) (0,x16)
def Zgz (x5 x6:Int) (x7:List Mail):Unit→Option ((Int×Int) ⊕ (List Mail))
| ()=>some (.inl (wr (x5+(ln Mail.row x7)),wr (x6+1)))
def Zhz (x1:(List (List Mail))):(Int×Int)→Option ((Int×Int) ⊕ (List Mail))
| (x5,x6)=>
 ifb (decide (x6<(ln (Z7d 5 Mail.row) x1))) (
 (at_ x1 x6).bind fun x7=>
 ifb (decide ((wr (x5+(ln Mail.row x7)))<0)) (
 none) (
 (Zgz x5 x6 x7) ())) (
 Option.map Sum.inr ((Zfz x1) x5))
def Ziz (x1:(List (List Mail))):Option (List Mail):=loop (Zhz x1) (0,0)
theorem Zjz {x1 r} (h:Ziz x1=some r):Zpd Tryz.prog 42 [.sl 1 (List.map (Z7d 5 Mail.row) x1)] 53 5 (List.map Mail.row r):=by
 have ok:=oK 42 Tryz.f42 e42 [.t 2] 1 35;refine Zqd ok rfl fun w0 H0=>?_;rw [Ziz] at h;refine Vg 15 ?_;refine Vk [0,1] (fun x15=>[(3,.iv x15)]) (Zfz x1) r ?_ fun J1=>?_
 ·intro x15 h;rw [Zfz] at h;(try dsimp only);refine Vg 3 ?_;have ⟨x16,ex16,h⟩:=Bs h;refine Z8f [] [] trivial (Zyv ex16) (h:=?_);refine Vg 9 ?_;refine Vl [6,1] (fun x31=>([],[],[Sq6 x31])) Zdz r ?_ fun J3=>?_
  ·intro x31 h;rw [Zdz] at h;(try dsimp only);refine Vg 5 ?_;exact Z9e Mail.row ok h rfl rfl
  ·refine Vg 1 ?_;refine Ml h [6,1,18,2] (fun s=>([(27,.iv s.1)],[],[Sq6 s.2])) ?_;rintro n1 ⟨x21,x22⟩ y1 h hin1 hout1;rw [Zez] at h;(try dsimp only);refine Vg 5 ?_;refine MI h (fun h=>?_) fun h=>?_
   ·refine Vg 5 ?_;have ⟨x23,ex23,h⟩:=Bs h;refine Zic (Z7d 5 Mail.row) ex23 trivial rfl rfl rfl (Vg 6 ?_);have ⟨x24,ex24,h⟩:=Bs h;refine Zlc Mail.row ex24 trivial rfl rfl rfl (Vg 7 ?_);refine Zgj 1 0 ?_;exact W
   ·exact W
 ·refine Vg 1 ?_;refine Mk h [0,1,8,2] (fun s=>[(3,.iv s.1),(11,.iv s.2)]) ?_;rintro n1 ⟨x5,x6⟩ y1 h hin1 hout1;rw [Zhz] at h;(try dsimp only);refine Vg 5 ?_;refine MI h (fun h=>?_) fun h=>?_
  ·refine Vg 5 ?_;have ⟨x7,ex7,h⟩:=Bs h;refine Zic (Z7d 5 Mail.row) ex7 trivial rfl rfl rfl (Vg 16 ?_);refine Vk [0,1,2,1,5,3] (fun _=>[]) (Zgz x5 x6 x7) y1 ?_ fun J2=>?_
   ·rintro ⟨⟩ h;rw [Zgz] at h;exact W
   ·refine MI h (fun h=>?_) fun h=>?_
    ·cases h
    ·exact W
  ·exact W
@[go_sem] def e234:EC:=eQ Tryz.f234
def Zkz (x1 x2:List Int):Option (List Int):=
 (Ziw ([x1,x2])).bind fun x3=>
 (Zur x3).bind fun x4=>
 some x4
theorem Zlz {x1 x2 r} (h:Zkz x1 x2=some r):Zpd Tryz.prog 234 [Sp1 x1,Sp1 x2] 3 1 (List.map Z3d r):=by have ok:=oK 234 Tryz.f234 e234 [.t 4] 2 8;refine Zqd ok rfl fun w0 H0=>?_;rw [Zkz] at h;refine Vg 9 ?_;refine Zhj 0 (Ds ?_);have ⟨x3,ex3,h⟩:=Bs h;refine Ztd trivial (Zjw ex3) (h:=?_);refine Zhj 1 (Ds ?_);have ⟨x4,ex4,h⟩:=Bs h;refine Ztd trivial (Zvr ex4) (h:=?_);refine Vg 2 ?_;exact Z9e Z3d ok h rfl rfl
theorem Zmz {x1 x2 r} (h:Zkz x1 x2=some r):Zy6 Tryz.prog 234 [Sp1 x1,Sp1 x2] (Sp1 r):=(Zlz h).sealed
@[go_sem] def e188:EC:=eQ Tryz.f188
def Znz (x1:Int) (x2:List Int):Option Bool:=
 (Zkw x2 x1).bind fun x3=>
 some (!x3)
theorem Zoz {x1 x2 r} (h:Znz x1 x2=some r):Zy6 Tryz.prog 188 [.iv x1,.elt ((Z7d 1 Z3d) x2) 0] (.bv r):=by have ok:=oK 188 Tryz.f188 e188 [.t 3] 2 6;refine FP ok fun w0 H0=>?_;rw [Znz] at h;refine Vg 8 ?_;refine VB h Zlw fun _ _ h=>?_;exact W
@[go_sem] def e162:EC:=eQ Tryz.f162
def Zpz (x1:List Int) (p1:(Int→Option Bool)):Option (List Int):=
 (Zur x1).bind fun x2=>
 (Zpw x2 ((fun z=>Z8l z p1))).bind fun x3=>
 some x3
theorem Zqz {x1 g1 caps1 p1 r} (h:Zpz x1 p1=some r) (hc1:CloOK Tryz.prog g1 caps1 (fun z=>[.iv z]) p1 (fun z=>.bv z)):Zy6 Tryz.prog 162 [Sp1 x1,.clo g1 caps1] (Sp1 r):=by have ok:=oK 162 Tryz.f162 e162 [.t 4] 2 7;refine FP ok fun w0 H0=>?_;rw [Zpz] at h;refine Vg 8 ?_;have ⟨x2,ex2,h⟩:=Bs h;refine Ztd trivial (Zvr ex2) (hp:=(by first | rfl | simp [go_sem,hc1.pu])) (h:=?_);refine Vg 1 ?_;refine Ze8 0 rfl (by first | rfl | simp [go_sem,hc1.pu]) (Ds ?_);have ⟨x3,ex3,h⟩:=Bs h;refine Z8f [false] [true] trivial (Z9j [] [0] 1 1 (Zqw ex3 ⟨by kernel_rfl,rfl,fun z r hz=>Z9l hz hc1⟩)) (ha:=(by first | exact Zqb _ | simp [go_sem,Zyi _ _ _ _ _ hc1.pu])) (h:=?_);refine Vg 2 ?_;refine Zhj 1 (Ds ?_);exact MD ok h
@[go_sem] def e56:EC:=eQ Tryz.f56
def Zrz:Unit→Option Int
| ()=>some 0
def Zsz (x12:Int) (x13:Sess):Bool→Option ((Int×Int) ⊕ Int)
| x18=>
 ifb x18 (
 Option.map Sum.inr (some 170)) (
 some (.inl (x13.ID,wr (x12+1))))
def Ztz (x12:Int) (x13:Sess) (x14:Bool):Bool→Option ((Int×Int) ⊕ Int)
| x17=>
 ifb x17 (
 Option.map Sum.inr (some 170)) (
 ifb (!x14) (
 ifb (!decide (x13.State=0)) (
 (Zsz x12 x13) true) (
 (Zsz x12 x13) (!decide (x13.Age=0)))) (
 (Zsz x12 x13) false))
def Zuz (x1:Book) (x11:Int) (x12:Int) (x13:Sess):Bool→Option ((Int×Int) ⊕ Int)
| x14=>
 ifb (decide (x13.ID≤x11)) (
 (Ztz x12 x13 x14) (decide (x13.ID≤x11))) (
 ifb (decide (x1.Last<x13.ID)) (
 (Ztz x12 x13 x14) (decide (x1.Last<x13.ID))) (
 (Zww x13.Need).bind fun x15=>
 ifb x15 (
 (Ztz x12 x13 x14) x15) (
 (Zdl x13.Need).bind fun x16=>
 ifb (!x16) (
 (Ztz x12 x13 x14) (!x16)) (
 (Ztz x12 x13 x14) (decide (x13.Age<0))))))
def Zvz (x1:Book):(Int×Int)→Option ((Int×Int) ⊕ Int)
| (x11,x12)=>
 ifb (decide (x12<(ln Sess.row x1.Sess))) (
 (at_ x1.Sess x12).bind fun x13=>
 ifb (decide (x13.State=1)) (
 (Zuz x1 x11 x12 x13) (decide (x12=0))) (
 (Zuz x1 x11 x12 x13) false)) (
 Option.map Sum.inr (Zrz ()))
def Zwz (x1:Book):Bool→Option Int
| x2=>
 ifb x2 (
 some 170) (
 loop (Zvz x1) (0,0))
def Zxz (x1:Book):Option Int:=
 ifb (decide (x1.Last<0)) (
 (Zwz x1) true) (
 (Zwz x1) (decide (8<(ln Sess.row x1.Sess))))
theorem Zyz {x1 r} (h:Zxz x1=some r):Zy6 Tryz.prog 56 [.agg (Book.row x1)] (.iv r):=by
 have ok:=oK 56 Tryz.f56 e56 [.t 2] 1 66;refine FP ok fun w0 H0=>?_;rw [Zxz] at h;refine Vg 12 ?_;refine Vk [1,1] (fun x2=>[(15,.bv x2)]) (Zwz x1) r ?_ fun J1=>?_
 ·intro x2 h;rw [Zwz] at h;(try dsimp only);refine MI h (fun h=>?_) fun h=>?_
  ·exact W
  ·refine Vg 13 ?_;refine Vl [] (fun _=>([],[],[])) Zrz r ?_ fun J2=>?_
   ·rintro ⟨⟩ h;rw [Zrz] at h;exact W
   ·refine Vg 1 ?_;refine Mk h [1,1,15,2] (fun s=>[(3,.iv s.1),(19,.iv s.2)]) ?_;rintro n1 ⟨x11,x12⟩ y1 h hin1 hout1;rw [Zvz] at h;(try dsimp only);refine Vg 5 ?_;refine MI h (fun h=>?_) fun h=>?_
    ·refine Vg 6 ?_;have ⟨x13,ex13,h⟩:=Bs h;refine Zic Sess.row ex13 trivial rfl rfl rfl (Vg 11 ?_);refine Vk [1,1,1,1,1,1,11,3] (fun x14=>[(6,.bv x14)]) (Zuz x1 x11 x12 x13) y1 ?_ fun J3=>?_
     ·intro x14 h;rw [Zuz] at h;(try dsimp only);refine Vg 11 ?_;refine Vk [1,1,3,2,10,3] (fun x17=>[(31,.bv x17)]) (Ztz x12 x13 x14) y1 ?_ fun J4=>?_
      ·intro x17 h;rw [Ztz] at h;(try dsimp only);refine MI h (fun h=>?_) fun h=>?_
       ·exact W
       ·refine Vg 5 ?_;refine Vk [1,1,3,1,11,3] (fun x18=>[(51,.bv x18)]) (Zsz x12 x13) y1 ?_ fun J5=>?_
        ·intro x18 h;rw [Zsz] at h;exact W
        ·exact W
      ·refine MI h (fun h=>?_) fun h=>?_
       ·exact W
       ·refine Vg 9 ?_;refine MI h (fun h=>?_) fun h=>?_
        ·exact W
        ·refine Vg 4 ?_;refine VB h Zxw fun _ _ h=>?_;refine Vg 2 ?_;refine MI h (fun h=>?_) fun h=>?_
         ·exact W
         ·refine Vg 4 ?_;refine VB h Zel fun _ _ h=>?_;exact W
     ·exact W
    ·exact W
 ·exact W
def Zzz (x1:List Side) (x2:Int) (x3:DI):Option (Bool×Int):=
 (Z0x x1 x2 x3).bind fun x4=>
 some (decide (0≤x4.1),x4.2)
theorem Z001 {x1 x2 x3 r} (h:Zzz x1 x2 x3=some r):Z0f Tryz.prog 99 [Sp3 x1,.clo 157 [.ptr 0 0,.ptr 1 0]] [some ⟨3,[.iv x2]⟩,some ⟨58,DI.row x3⟩] [] (.bv r.1) [some ⟨3,[.iv r.2]⟩,some ⟨58,DI.row x3⟩] []:=by refine FT Zfr fun w0 M0=>?_;rw [Zzz] at h;dsimp only[lun,List.cons_append,List.nil_append];refine Vg 8 ?_;have ⟨x4,ex4,h⟩:=Bs h;refine Z8f [true,true] [] trivial (Z1x ex4) (h:=?_);refine Vg 3 ?_;obtain rfl:=Option.some.inj h;exact Zkj Zfr
@[go_sem] def e233:EC:=eQ Tryz.f233
theorem Z101:FnOK Tryz.prog 233 Tryz.f233 e233 [] 1 134:=okA
@[go_sem] def e131:EC:=(by have h:=hF Tryz.f131;(conv at h=>rhs;reduce);dsimp only[go_sem] at h;exact ⟨_,h⟩:DP Tryz.f131).1
theorem Z201:FnOK Tryz.prog 131 Tryz.f131 e131 [.t 6] 3 92:=okA
@[go_sem] def e175:EC:=(by have h:=hF Tryz.f175;(conv at h=>rhs;reduce);dsimp only[go_sem] at h;exact ⟨_,h⟩:DP Tryz.f175).1
theorem Z301:FnOK Tryz.prog 175 Tryz.f175 e175 [.t 6] 3 92:=okA
@[go_sem] def e177:EC:=eQ Tryz.f177
theorem Z401:FnOK Tryz.prog 177 Tryz.f177 e177 [.t 4] 3 19:=okA
@[go_sem] def e180:EC:=eQ Tryz.f180
def Z501:Bool→Option Bool
| x5=>some x5
def Z601 (x1:Side) (x2:node_node):Option Bool:=
 (Znn x1).bind fun x3=>
 ifb x3 (
 (Zkw x2.Node.Told x1.Peer).bind fun x4=>
 Z501 (!x4)) (
 Z501 false)
theorem Z701 {x1 x2 r} (h:Z601 x1 x2=some r):Zy6 Tryz.prog 180 [.agg (Side.row x1),.elt ((Zqh node_node.row) x2) 0] (.bv r):=by
 have ok:=oK 180 Tryz.f180 e180 [.t 3] 2 15;refine FP ok fun w0 H0=>?_;rw [Z601] at h;refine Vg 6 ?_;refine Vl [] (fun x5=>([(3,.bv x5)],[],[])) Z501 r ?_ fun J1=>?_
 ·intro x5 h;rw [Z501] at h;exact W
 ·refine Zej fun all H=>?_;refine Gn H 1 13 ?_;refine Zma 1 rfl (GB H.1 h Zon fun _ _ h=>?_);refine Gn H 1 11 ?_;refine Zcd 6 h rfl (fun _ h=>?_) fun _ h=>?_
  ·refine Ds (GP H 7 4 [10,4] [(7,[.elt (node_node.row x2) 0,.elt (node_node.row x2) 0,.elt (node_node.row x2) 0,.elt (node_node.row x2) 8,Sp1 x2.Node.Told,.ptr 0 0,.iv x1.Peer])] (Ds ?_));refine Zma 10 rfl (GB H.1 h Zlw fun _ _ h=>?_);refine Gn H 3 0 ?_;refine GD ?_;exact W
  ·refine Ds (GP H 11 0 [14] [(16,[.ff])] (Ds ?_));refine GD ?_;exact W
@[go_sem] def e184:EC:=eQ Tryz.f184
theorem Z801:FnOK Tryz.prog 184 Tryz.f184 e184 [] 1 70:=okA
@[go_sem] def e49:EC:=eQ Tryz.f49
def Z901:Bool→Option Bool
| x8=>some x8
def Za01 (x1 x2:Node):Option Bool:=
 (Z5x x1.DK x2.DK).bind fun x3=>
 ifb x3 (
 (Zox x1.Book x2.Book).bind fun x4=>
 ifb x4 (
 (Zyn x1.KN x2.KN).bind fun x5=>
 ifb x5 (
 (Zmm x1.Told x2.Told).bind fun x6=>
 ifb x6 (
 (Zyn x1.AK x2.AK).bind fun x7=>
 Z901 x7) (
 Z901 false)) (
 Z901 false)) (
 Z901 false)) (
 Z901 false)
theorem Zb01 {x1 x2 r} (h:Za01 x1 x2=some r):Zy6 Tryz.prog 49 [.agg (Node.row x1),.agg (Node.row x2)] (.bv r):=by
 have ok:=oK 49 Tryz.f49 e49 [.t 4] 2 36;refine FP ok fun w0 H0=>?_;rw [Za01] at h;refine Vg 12 ?_;refine VB h Z6x fun _ _ h=>?_;refine Vg 1 ?_;refine Vl [] (fun x8=>([(4,.bv x8)],[],[])) Z901 r ?_ fun J1=>?_
 ·intro x8 h;rw [Z901] at h;exact W
 ·refine MC 10 h (fun h=>?_) fun h=>?_
  ·refine Vg 4 ?_;refine VB h Zpx fun _ _ h=>?_;refine Vg 2 ?_;refine MC 17 h (fun h=>?_) fun h=>?_
   ·refine Vg 4 ?_;refine VB h Zzn fun _ _ h=>?_;refine Vg 2 ?_;refine MC 24 h (fun h=>?_) fun h=>?_
    ·refine Vg 4 ?_;refine VB h Znm fun _ _ h=>?_;refine Vg 2 ?_;refine MC 31 h (fun h=>?_) fun h=>?_
     ·refine Vg 4 ?_;refine VB h Zzn fun _ _ h=>?_;exact W
     ·exact W
    ·exact W
   ·exact W
  ·exact W
end
end NX
end Go.Proofs.YtgamgemlekpepaaGreat
