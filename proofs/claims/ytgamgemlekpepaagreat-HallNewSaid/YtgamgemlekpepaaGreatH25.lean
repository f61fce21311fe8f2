/-
  The function narthex/graph.Near: its code compiled, a model, and that the code answers as the model. Written by a program of ours (lb.py). No statement of the seat is proved here.
-/
import Derived.Test.YtgamgemlekpepaaGreatH24
set_option maxRecDepth 100000
set_option maxHeartbeats 4000000
namespace Go.Proofs.YtgamgemlekpepaaGreat
namespace NX
open Go
noncomputable section
@[go_sem] def e148:EC:=eQ Tryz.f148
def Zx21:List Int→Option (List Int)
| x23=>
 (Zur x23).bind fun x24=>
 some x24
def Zy21 (x10:Int):List Int→Option ((Int×List Int) ⊕ (List Int))
| x15=>some (.inl (wr (x10+1),x15))
def Zz21 (x1:Graph) (x2:Int):(Int×List Int)→Option ((Int×List Int) ⊕ (List Int))
| (x10,x11)=>
 ifb (decide (x10<(ln Edge.row x1.Edges))) (
 (at_ x1.Edges x10).bind fun x12=>
 ifb (decide (x2=x12.A)) (
 (Z7c 8 x11 ([x12.B])).bind fun x13=>
 (Zy21 x10) x13) (
 ifb (decide (x2=x12.B)) (
 (Z7c 8 x11 ([x12.A])).bind fun x14=>
 (Zy21 x10) x14) (
 (Zy21 x10) x11))) (
 Option.map Sum.inr (Zx21 x11))
def Z031 (x1:Graph) (x2:Int):Option (List Int):=
 (Zq01 x1).bind fun x3=>
 ifb (!decide (x3=0)) (
 some (([]:List Int))) (
 loop (Zz21 x1 x2) (0,([]:List Int)))
theorem Z131 {x1 x2 r} (h:Z031 x1 x2=some r):Zpd Tryz.prog 148 [.agg (Graph.row x1),.iv x2] 3 1 (List.map Z3d r):=by
 have ok:=oK 148 Tryz.f148 e148 [.t 4] 2 38;refine Zqd ok rfl fun w0 H0=>?_;rw [Z031] at h;refine Vg 9 ?_;refine VB h Zr01 fun _ _ h=>?_;refine Vg 2 ?_;refine MI h (fun h=>?_) fun h=>?_
 ·refine Vg 4 ?_;refine Zbb 4 3 1 rfl rfl (Ds ?_);exact Z9e Z3d ok h rfl rfl
 ·refine Vg 13 ?_;refine Vl [] (fun x23=>([(5,.osl 0)],[],[Sq4 x23])) Zx21 r ?_ fun J1=>?_
  ·intro x23 h;rw [Zx21] at h;(try dsimp only);refine Vg 3 ?_;refine Zhj 0 (Ds ?_);have ⟨x24,ex24,h⟩:=Bs h;refine Ztd trivial (Zvr ex24) (h:=?_);refine Vg 2 ?_;exact Z9e Z3d ok h rfl rfl
  ·refine Vg 1 ?_;refine Zbb 5 3 1 rfl rfl (Ds ?_);refine Ml h [1,1,3,1,6,2] (fun s=>([(14,.iv s.1)],[],[Sq4 s.2])) ?_;rintro n1 ⟨x10,x11⟩ y1 h hin1 hout1;rw [Zz21] at h;(try dsimp only);refine Vg 5 ?_;refine MI h (fun h=>?_) fun h=>?_
   ·refine Vg 5 ?_;have ⟨x12,ex12,h⟩:=Bs h;refine Zic Edge.row ex12 trivial rfl rfl rfl (Vg 16 ?_);refine Vl [1,1,3,1,6,3] (fun x15=>([],[],[Sq4 x15])) (Zy21 x10) y1 ?_ fun J2=>?_
    ·intro x15 h;rw [Zy21] at h;exact W
    ·refine MI h (fun h=>?_) fun h=>?_
     ·refine Vg 5 ?_;have ⟨x13,ex13,h⟩:=Bs h;refine Zlc Z3d ex13 trivial rfl rfl rfl (Vg 2 ?_);refine Zgj 2 0 ?_;exact W
     ·refine Vg 7 ?_;refine MI h (fun h=>?_) fun h=>?_
      ·refine Vg 5 ?_;have ⟨x14,ex14,h⟩:=Bs h;refine Zlc Z3d ex14 trivial rfl rfl rfl (Vg 2 ?_);refine Zgj 2 0 ?_;exact W
      ·exact W
   ·exact W
theorem Z231 {x1 x2 r} (h:Z031 x1 x2=some r):Zy6 Tryz.prog 148 [.agg (Graph.row x1),.iv x2] (Sp1 r):=(Z131 h).sealed
@[go_sem] def e89:EC:=eQ Tryz.f89
def Z331:(List Int×Int)→Option (List Int×Int)
| (x27,x28)=>some (x27,x28)
def Z431 (x1:Graph):(List Int×Int)→Option ((List Int×Int) ⊕ (List Int×Int))
| (x18,x19)=>
 (Ztk x18 0).bind fun x20=>
 ifb x20 (
 (Zw01 x1 x18).bind fun x21=>
 some (.inl (x21,wr (x19+1)))) (
 Option.map Sum.inr (Z331 (x18,x19)))
def Z531 (x1:Graph):List Int→Option (List Int×Int)
| x13=>loop (Z431 x1) (x13,0)
def Z631 (x1:Graph):(Int×List Int)→Option ((Int×List Int) ⊕ (List Int×Int))
| (x5,x6)=>
 ifb (decide (x5<x1.N)) (
 (Z7c 8 x6 ([0])).bind fun x7=>
 some (.inl (wr (x5+1),x7))) (
 Option.map Sum.inr ((Z531 x1) x6))
def Z731 (x1:Graph):Option (List Int×Int):=loop (Z631 x1) (0,([]:List Int))
theorem Z831 {x1 r} (h:Z731 x1=some r):Zy6 Tryz.prog 89 [.agg (Graph.row x1)] (.tup [Sp1 r.1,.iv r.2]):=by
 have ok:=oK 89 Tryz.f89 e89 [.t 2,.t 3] 1 25;refine FP ok fun w0 H0=>?_;rw [Z731] at h;refine Vg 17 ?_;refine Vm [1,1,2,2] (fun x13=>([],[],[],[(0,Sq4 x13)])) (Z531 x1) r ?_ fun J1=>?_
 ·intro x13 h;rw [Z531] at h;(try dsimp only);refine Vg 1 ?_;refine Vl [] (fun s=>([(4,Sp1 s.1),(5,.iv s.2)],[],[])) Z331 r ?_ fun J2=>?_
  ·rintro ⟨x27,x28⟩ h;rw [Z331] at h;exact W
  ·refine Vg 1 ?_;refine Zhj 0 (Ds ?_);refine Ml h [1,1] (fun s=>([(4,Sp1 s.1),(5,.iv s.2)],[some ⟨24,Graph.row x1⟩],[])) ?_;rintro n1 ⟨x18,x19⟩ y1 h hin1 hout1;rw [Z431] at h;(try dsimp only);refine Vg 4 ?_;refine VB h Zuk fun _ _ h=>?_;refine Vg 1 ?_;refine MI h (fun h=>?_) fun h=>?_
   ·refine Vg 6 ?_;refine VB h Zy01 fun _ _ h=>?_;exact W
   ·exact W
 ·refine Vg 1 ?_;refine Mm h [1,1,2,2] (fun s=>([(6,.iv s.1)],[],[],[(0,Sq4 s.2)])) ?_;rintro n1 ⟨x5,x6⟩ y1 h hin1 hout1;rw [Z631] at h;(try dsimp only);refine Vg 8 ?_;refine MI h (fun h=>?_) fun h=>?_
  ·refine Vg 6 ?_;have ⟨x7,ex7,h⟩:=Bs h;refine Zlc Z3d ex7 trivial rfl rfl rfl (Vg 8 ?_);refine Zgj 2 0 ?_;exact W
  ·exact W
@[go_sem] def e25:EC:=eQ Tryz.f25
def Z931 (x1:DK):List KE→Option (Node×Bool)
| x30=>
 (Z711 (Node.mk x1 (Book.mk 0 (([]:List Sess))) x30 (([]:List Int)) (([]:List KE)))).bind fun x31=>
 ifb (!x31) (
 some ((Node.mk (DK.mk (DI.mk 0 0 (([]:List Side))) 0 (([]:List Int))) (Book.mk 0 (([]:List Sess))) (([]:List KE)) (([]:List Int)) (([]:List KE))),false)) (
 some ((Node.mk x1 (Book.mk 0 (([]:List Sess))) x30 (([]:List Int)) (([]:List KE))),true))
def Za31 (x1:DK):(Int×List KE)→Option ((Int×List KE) ⊕ (Node×Bool))
| (x7,x8)=>
 ifb (decide (x7<(ln Side.row x1.DI.SD))) (
 (at_ x1.DI.SD x7).bind fun x9=>
 (at_ x1.DI.SD x7).bind fun x10=>
 (Z7c 16 x8 ([KE.mk x9.Peer x10.Epoch])).bind fun x11=>
 some (.inl (wr (x7+1),x11))) (
 Option.map Sum.inr ((Z931 x1) x8))
def Zb31 (x1:DK):Option (Node×Bool):=loop (Za31 x1) (0,([]:List KE))
theorem Zc31 {x1 r} (h:Zb31 x1=some r):Zy6 Tryz.prog 25 [.agg (DK.row x1)] (.tup [.agg (Node.row r.1),.bv r.2]):=by
 have ok:=oK 25 Tryz.f25 e25 [.c 2 (some 10),.t 3] 1 40;refine FP ok fun w0 H0=>?_;rw [Zb31] at h;refine Vg 18 ?_;refine Vl [2,1,1,1] (fun x30=>([],[none,some ⟨67,[.iv 0,.iv 0,.nl,.iv 0,.nl,.iv 0,.nl,.nl,.nl,.nl]⟩,some ⟨67,[.iv x1.DI.ID,.iv x1.DI.PH,Sp3 x1.DI.SD,.iv x1.TH,Sp1 x1.Need,.iv 0,.nl,.osl 0,.nl,.nl]⟩],[Zxj x30])) (Z931 x1) r ?_ fun J1=>?_
 ·intro x30 h;rw [Z931] at h;(try dsimp only);refine Vg 4 ?_;refine VN (LR.slice 0 rfl) h Z811 fun _ _ h=>?_;refine Vg 2 ?_;refine MI h (fun h=>?_) fun h=>?_
  ·exact W
  ·refine Vg 7 ?_;refine Zhj 0 ?_;exact W
 ·refine Vg 1 ?_;refine Zij 2 7 121 2 (Ds ?_);refine Mm h [1,2,1,1] (fun s=>([(5,.iv s.1)],[],[],[(0,Zxj s.2)])) ?_;rintro n1 ⟨x7,x8⟩ y1 h hin1 hout1;rw [Za31] at h;(try dsimp only);refine Vg 10 ?_;refine MI h (fun h=>?_) fun h=>?_
  ·refine Vg 3 ?_;refine Zej fun all H=>Ds (GP H 9 12 [1,1,4,3,4,8] [(16,[.ptr 2 7]),(1,[.ptr 0 0,.ptr 0 2,Sp3 x1.DI.SD,.iv x7]),(3,[.ptr 0 0,.ptr 0 2,Sp3 x1.DI.SD,.iv x7])] (Ds ?_));have ⟨x9,ex9,h⟩:=Bs h;refine Zjc H.1 H.2.1 H.2.2.1 H.2.2.2 6 Side.row ex9 rfl rfl trivial rfl rfl rfl rfl (Gn H 2 9 ?_);have ⟨x10,ex10,h⟩:=Bs h;refine Zjc H.1 H.2.1 H.2.2.1 H.2.2.2 13 Side.row ex10 rfl rfl trivial rfl rfl rfl rfl (GP H 3 5 [1,1,15,4] [(30,[.elt (Side.row x10) 1,.iv x10.Epoch,.agg [.iv x9.Peer,.iv x10.Epoch]])] (Ds ?_));refine Zna 1 17 rfl ?_ ?_
   ·refine RV ?_;refine R1 ?_;refine Zma 18 rfl ?_;have ⟨x11,ex11,h⟩:=Bs h;refine GA KE.row ex11 H.1 ?_;refine Gn H 1 1 ?_;refine R1 ?_;refine GD (Vg 6 ?_);refine Zgj 2 0 ?_;exact W
   ·refine RV ?_;refine R1 ?_;refine Zma 18 rfl ?_;have ⟨x11,ex11,h⟩:=Bs h;refine GA KE.row ex11 H.1 ?_;refine Gn H 1 1 ?_;refine R1 ?_;refine GD (Vg 6 ?_);refine Zgj 2 0 ?_;exact W
  ·exact W
@[go_sem] def e19:EC:=eQ Tryz.f19
def Zd31:Bool→Option Bool
| x5=>some x5
def Ze31 (x1 x2:Hall):Option Bool:=
 (Z8r x1.Nodes x2.Nodes ((fun z=>Za01 z.1 z.2))).bind fun x3=>
 ifb x3 (
 (Zdr x1.Mail x2.Mail).bind fun x4=>
 Zd31 x4) (
 Zd31 false)
theorem Zf31 {x1 x2 r} (h:Ze31 x1 x2=some r):Zy6 Tryz.prog 19 [.agg (Hall.row x1),.agg (Hall.row x2)] (.bv r):=by
 have ok:=oK 19 Tryz.f19 e19 [.t 4] 2 15;refine FP ok fun w0 H0=>?_;rw [Ze31] at h;refine Vg 12 ?_;refine VB h (fun e=>Z9r e ⟨by kernel_rfl,rfl,fun z r hz=>Zb01 hz⟩) fun _ _ h=>?_;refine Vg 1 ?_;refine Vl [] (fun x5=>([(4,.bv x5)],[],[])) Zd31 r ?_ fun J1=>?_
 ·intro x5 h;rw [Zd31] at h;exact W
 ·refine MC 10 h (fun h=>?_) fun h=>?_
  ·refine Vg 4 ?_;refine VB h Zer fun _ _ h=>?_;exact W
  ·exact W
@[go_sem] def e80:EC:=eQ Tryz.f80
def Zg31 (x1:List Int) (x2:Int):Option (List Int):=
 (Zj11 x1 ([x2])).bind fun x3=>
 some x3
theorem Zh31 {x1 x2 r} (h:Zg31 x1 x2=some r):Zy6 Tryz.prog 80 [Sp1 x1,.iv x2] (Sp1 r):=by have ok:=oK 80 Tryz.f80 e80 [.t 4] 2 7;refine FP ok fun w0 H0=>?_;rw [Zg31] at h;refine Vg 9 ?_;refine Zhj 0 (Ds ?_);refine VB h Zk11 fun _ _ h=>?_;exact W
@[go_sem] def e116:EC:=eQ Tryz.f116
def Zi31 (x1 x2:List Int):Option Bool:=
 (Zj11 x1 x2).bind fun x3=>
 some (decide ((ln Z3d x3)=0))
theorem Zj31 {x1 x2 r} (h:Zi31 x1 x2=some r):Zy6 Tryz.prog 116 [Sp1 x1,Sp1 x2] (.bv r):=by have ok:=oK 116 Tryz.f116 e116 [.t 4] 2 8;refine FP ok fun w0 H0=>?_;rw [Zi31] at h;refine Vg 8 ?_;refine VB h Zk11 fun _ _ h=>?_;exact W
@[go_sem] def e168:EC:=eQ Tryz.f168
def Zk31 (x1:Book) (x2:Int):Int→Option (Book×Int)
| x6=>
 ifb (!decide (x6=0)) (
 some ((Book.mk 0 (([]:List Sess))),x6)) (
 (Ztw x1).bind fun x7=>
 (Z8s (Book.mk x1.Last x7) x2).bind fun x8=>
 (Z6s x8 (wr (x8+1)) x7).bind fun x11=>
 some ((Book.mk x1.Last x11),0))
def Zl31 (x1:Book) (x2:Int) (x4:(Int×Int)):Bool→Option (Book×Int)
| x5=>
 ifb x5 (
 (Zk31 x1 x2) 175) (
 (Zk31 x1 x2) x4.2)
def Zm31 (x1:Book) (x2:Int) (x3:Int):Option (Book×Int):=
 (Zr11 x1 x2).bind fun x4=>
 ifb (decide (x4.2=0)) (
 (Zl31 x1 x2 x4) (!decide (x4.1=x3))) (
 (Zl31 x1 x2 x4) false)
theorem Zn31 {x1 x2 x3 r} (h:Zm31 x1 x2 x3=some r):Zy6 Tryz.prog 168 [.agg (Book.row x1),.iv x2,.iv x3] (.tup [.agg (Book.row r.1),.iv r.2]):=by
 have ok:=oK 168 Tryz.f168 e168 [.c 6 (some 2),.t 7] 3 38;refine FP ok fun w0 H0=>?_;rw [Zm31] at h;refine Vg 10 ?_;refine VB h Zs11 fun x4 _ h=>?_;refine Vg 12 ?_;refine Vk [1,1,1,1,2,1,2,1] (fun x5=>[(22,.bv x5)]) (Zl31 x1 x2 x4) r ?_ fun J1=>?_
 ·intro x5 h;rw [Zl31] at h;(try dsimp only);refine Vk [1,1,1,1,2,1] (fun x6=>[(9,.iv x6)]) (Zk31 x1 x2) r ?_ fun J2=>?_
  ·intro x6 h;rw [Zk31] at h;(try dsimp only);refine Vg 6 ?_;refine MI h (fun h=>?_) fun h=>?_
   ·exact W
   ·refine Vg 4 ?_;refine VR [] [] 2 0 h Zuw fun _ _ h=>?_;refine Vg 3 ?_;refine Zej fun all H=>?_;refine Gn H 3 9 ?_;refine Zoa 1 2 5 rfl ?_ ?_ ?_
    ·refine RV ?_;refine Zna 2 5 rfl ?_ ?_
     ·refine RV ?_;have ⟨x8,ex8,h⟩:=Bs h;refine Zna 4 5 rfl ?_ ?_
      ·refine GK H.1 (LR.slice 0 rfl) (Z9s ex8) (Ds ?_);refine R1 ?_;refine Zma 7 rfl (GK H.1 (LR.slice 0 rfl) (Z9s ex8) ?_);refine Gn H 1 3 ?_;refine Zma 9 rfl (GR H.1 [] [0] 2 1 h Z7s fun x11 ex11 h=>?_);refine Gn H 1 1 ?_;refine R1 ?_;refine GD (Vg 6 ?_);refine Zhj 1 ?_;exact W
      ·refine RV ?_;refine Zma 4 rfl (GK H.1 (LR.slice 0 rfl) (Z9s ex8) (Ds ?_));refine Zma 7 rfl (GK H.1 (LR.slice 0 rfl) (Z9s ex8) ?_);refine Gn H 1 3 ?_;refine Zma 9 rfl (GR H.1 [] [0] 2 1 h Z7s fun x11 ex11 h=>?_);refine Gn H 1 1 ?_;refine R1 ?_;refine GD (Vg 6 ?_);refine Zhj 1 ?_;exact W
     ·refine RV ?_;refine R1 ?_;refine Zma 4 rfl (GQ H.1 (LR.slice 0 rfl) h Z9s fun x8 ex8 h=>?_);refine Ds ?_;refine Zma 7 rfl (GK H.1 (LR.slice 0 rfl) (Z9s ex8) ?_);refine Gn H 1 3 ?_;refine Zma 9 rfl (GR H.1 [] [0] 2 1 h Z7s fun x10 ex10 h=>?_);refine Gn H 1 1 ?_;refine R1 ?_;refine GD (Vg 6 ?_);refine Zhj 1 ?_;exact W
    ·refine RV ?_;have ⟨x8,ex8,h⟩:=Bs h;refine Zoa 1 4 5 rfl ?_ ?_ ?_
     ·refine RV ?_;refine Zna 4 5 rfl ?_ ?_
      ·refine GK H.1 (LR.slice 0 rfl) (Z9s ex8) (Ds ?_);refine R1 ?_;refine Zma 7 rfl (GK H.1 (LR.slice 0 rfl) (Z9s ex8) ?_);refine Gn H 1 3 ?_;refine Zma 9 rfl (GR H.1 [] [0] 2 1 h Z7s fun x11 ex11 h=>?_);refine Gn H 1 1 ?_;refine R1 ?_;refine GD (Vg 6 ?_);refine Zhj 1 ?_;exact W
      ·refine RV ?_;refine Zma 4 rfl (GK H.1 (LR.slice 0 rfl) (Z9s ex8) (Ds ?_));refine Zma 7 rfl (GK H.1 (LR.slice 0 rfl) (Z9s ex8) ?_);refine Gn H 1 3 ?_;refine Zma 9 rfl (GR H.1 [] [0] 2 1 h Z7s fun x11 ex11 h=>?_);refine Gn H 1 1 ?_;refine R1 ?_;refine GD (Vg 6 ?_);refine Zhj 1 ?_;exact W
     ·refine GK H.1 (LR.slice 0 rfl) (Z9s ex8) (Ds ?_);refine Zna 1 5 rfl ?_ ?_
      ·refine RV ?_;refine R1 ?_;refine Zma 7 rfl (GK H.1 (LR.slice 0 rfl) (Z9s ex8) ?_);refine Gn H 1 3 ?_;refine Zma 9 rfl (GR H.1 [] [0] 2 1 h Z7s fun x11 ex11 h=>?_);refine Ds ?_;refine Gn H 1 1 ?_;refine R1 ?_;refine GD (Vg 6 ?_);refine Zhj 1 ?_;exact W
      ·refine RV ?_;refine Zna 1 7 rfl ?_ ?_
       ·refine RV ?_;refine Zma 7 rfl (GK H.1 (LR.slice 0 rfl) (Z9s ex8) ?_);refine Gn H 1 3 ?_;refine Zma 9 rfl (GR H.1 [] [0] 2 1 h Z7s fun x11 ex11 h=>?_);refine Gn H 1 1 ?_;refine R1 ?_;refine GD (Vg 6 ?_);refine Zhj 1 ?_;exact W
       ·refine GK H.1 (LR.slice 0 rfl) (Z9s ex8) ?_;refine Gn H 1 4 ?_;refine R1 ?_;refine Zma 9 rfl (GR H.1 [] [0] 2 1 h Z7s fun x11 ex11 h=>?_);refine Gn H 1 1 ?_;refine R1 ?_;refine GD (Vg 6 ?_);refine Zhj 1 ?_;exact W
     ·refine RV ?_;refine Zna 1 4 rfl ?_ ?_
      ·refine RV ?_;refine Zma 4 rfl (GK H.1 (LR.slice 0 rfl) (Z9s ex8) (Ds ?_));refine Zma 7 rfl (GK H.1 (LR.slice 0 rfl) (Z9s ex8) ?_);refine Gn H 1 3 ?_;refine Zma 9 rfl (GR H.1 [] [0] 2 1 h Z7s fun x11 ex11 h=>?_);refine Gn H 1 1 ?_;refine R1 ?_;refine GD (Vg 6 ?_);refine Zhj 1 ?_;exact W
      ·refine GK H.1 (LR.slice 0 rfl) (Z9s ex8) (Ds ?_);refine Zna 1 7 rfl ?_ ?_
       ·refine RV ?_;refine Zma 7 rfl (GK H.1 (LR.slice 0 rfl) (Z9s ex8) ?_);refine Gn H 1 3 ?_;refine Zma 9 rfl (GR H.1 [] [0] 2 1 h Z7s fun x11 ex11 h=>?_);refine Gn H 1 1 ?_;refine R1 ?_;refine GD (Vg 6 ?_);refine Zhj 1 ?_;exact W
       ·refine GK H.1 (LR.slice 0 rfl) (Z9s ex8) ?_;refine Gn H 1 4 ?_;refine R1 ?_;refine Zma 9 rfl (GR H.1 [] [0] 2 1 h Z7s fun x11 ex11 h=>?_);refine Gn H 1 1 ?_;refine R1 ?_;refine GD (Vg 6 ?_);refine Zhj 1 ?_;exact W
    ·refine RV ?_;refine Zna 1 2 rfl ?_ ?_
     ·refine RV ?_;refine R1 ?_;refine Zma 4 rfl (GQ H.1 (LR.slice 0 rfl) h Z9s fun x8 ex8 h=>?_);refine Ds ?_;refine Zma 7 rfl (GK H.1 (LR.slice 0 rfl) (Z9s ex8) ?_);refine Gn H 1 3 ?_;refine Zma 9 rfl (GR H.1 [] [0] 2 1 h Z7s fun _ _ h=>?_);refine Gn H 1 1 ?_;refine R1 ?_;refine GD (Vg 6 ?_);refine Zhj 1 ?_;exact W
     ·refine RV ?_;have ⟨x8,ex8,h⟩:=Bs h;refine Zna 1 4 rfl ?_ ?_
      ·refine RV ?_;refine Zma 4 rfl (GK H.1 (LR.slice 0 rfl) (Z9s ex8) (Ds ?_));refine Zma 7 rfl (GK H.1 (LR.slice 0 rfl) (Z9s ex8) ?_);refine Gn H 1 3 ?_;refine Zma 9 rfl (GR H.1 [] [0] 2 1 h Z7s fun x11 ex11 h=>?_);refine Gn H 1 1 ?_;refine R1 ?_;refine GD (Vg 6 ?_);refine Zhj 1 ?_;exact W
      ·refine GK H.1 (LR.slice 0 rfl) (Z9s ex8) (Ds ?_);refine Zna 1 7 rfl ?_ ?_
       ·refine RV ?_;refine Zma 7 rfl (GK H.1 (LR.slice 0 rfl) (Z9s ex8) ?_);refine Gn H 1 3 ?_;refine Zma 9 rfl (GR H.1 [] [0] 2 1 h Z7s fun x11 ex11 h=>?_);refine Gn H 1 1 ?_;refine R1 ?_;refine GD (Vg 6 ?_);refine Zhj 1 ?_;exact W
       ·refine GK H.1 (LR.slice 0 rfl) (Z9s ex8) ?_;refine Gn H 1 4 ?_;refine R1 ?_;refine Zma 9 rfl (GR H.1 [] [0] 2 1 h Z7s fun _ _ h=>?_);refine Gn H 1 1 ?_;refine R1 ?_;refine GD (Vg 6 ?_);refine Zhj 1 ?_;exact W
  ·exact W
 ·exact W
@[go_sem] def e187:EC:=eQ Tryz.f187
theorem Zo31:FnOK Tryz.prog 187 Tryz.f187 e187 [.c 6 (some 3),.t 7] 3 66:=okA
@[go_sem] def e232:EC:=eQ Tryz.f232
theorem Zp31:FnOK Tryz.prog 232 Tryz.f232 e232 [.c 2 (some 3),.t 3,.t 4] 1 111:=okA
@[go_sem] def e55:EC:=eQ Tryz.f55
def Zq31:Bool→Option Int
| x7=>
 ifb x7 (
 some 150) (
 some 0)
def Zr31 (x1:DK):Bool→Option Int
| x5=>
 ifb x5 (
 Zq31 x5) (
 (Znr x1.Need ((fun z=>Z2x z x1))).bind fun x6=>
 Zq31 x6)
def Zs31 (x1:DK):Bool→Option Int
| x3=>
 ifb x3 (
 some 150) (
 (Zdl x1.Need).bind fun x4=>
 ifb (!x4) (
 Zq31 (!x4)) (
 ifb (decide (x1.TH=0)) (
 (Zr31 x1) (decide (0<(ln Z3d x1.Need)))) (
 (Zr31 x1) false)))
def Zt31 (x1:DK):Option Int:=
 (Zu11 x1.DI).bind fun x2=>
 ifb (!decide (x2=0)) (
 (Zs31 x1) (!decide (x2=0))) (
 ifb (decide (x1.TH<0)) (
 (Zs31 x1) (decide (x1.TH<0))) (
 (Zs31 x1) (decide (2<x1.TH))))
theorem Zu31 {x1 r} (h:Zt31 x1=some r):Zy6 Tryz.prog 55 [.agg (DK.row x1)] (.iv r):=by
 have ok:=oK 55 Tryz.f55 e55 [.t 2] 1 33;refine FP ok fun w0 H0=>?_;rw [Zt31] at h;refine Vg 17 ?_;refine VB h Zv11 fun _ _ h=>?_;refine Vg 3 ?_;refine Vk [1,1,1,1] (fun x3=>[(5,.bv x3)]) (Zs31 x1) r ?_ fun J1=>?_
 ·intro x3 h;rw [Zs31] at h;(try dsimp only);refine MI h (fun h=>?_) fun h=>?_
  ·exact W
  ·refine Vg 5 ?_;refine VB h Zel fun _ _ h=>?_;refine Vg 3 ?_;refine Vl [] (fun x7=>([(16,.bv x7)],[],[])) Zq31 r ?_ fun J2=>?_
   ·intro x7 h;rw [Zq31] at h;exact W
   ·refine MI h (fun h=>?_) fun h=>?_
    ·exact W
    ·refine Vg 6 ?_;refine Vk [1,1,1,1] (fun x5=>[(16,.bv x5)]) (Zr31 x1) r ?_ fun J3=>?_
     ·intro x5 h;rw [Zr31] at h;(try dsimp only);refine MI h (fun h=>?_) fun h=>?_
      ·exact W
      ·refine Vg 4 ?_;refine VN (LR.block 0 rfl rfl) h (fun e=>Zor e ⟨by kernel_rfl,rfl,fun z r hz=>Z3x hz⟩) fun _ _ h=>?_;exact W
     ·exact W
 ·exact W
@[go_sem] def e70:EC:=eQ Tryz.f70
theorem ok70:FnOK Tryz.prog 70 Tryz.f70 e70 [] 2 40:=okA
def Zv31 (x2:Int) (x14:(Int×Bool)):List KE→Option (List KE)
| x16=>
 (at_ x16 x14.1).bind fun x17=>
 some (x16.set (Int.toNat (x14.1)) (KE.mk x17.Peer x2))
def Zw31 (x1 x2:Int) (_x3 _x4:Int) (_x5 _x6 _x7:Int) (_x8:List Side) (_x9:List Int) (_x10:List Sess) (x11:List KE) (_x12:List Int) (_x13:List KE):Option (List KE):=
 (Zfn x11 x1 ((fun z=>Zhn z.1 z.2))).bind fun x14=>
 ifb (!x14.2) (
 (Z221 x11 x14.1 ([KE.mk x1 0])).bind fun x15=>
 (Zv31 x2 x14) x15) (
 (Zv31 x2 x14) x11)
theorem Zx31 {x1 x2 x3 x4 x5 x6 x7 x8 x9 x10 x11 x12 x13 r} (h:Zw31 x1 x2 x3 x4 x5 x6 x7 x8 x9 x10 x11 x12 x13=some r):Z0f Tryz.prog 132 [.ptr 0 0,.iv x1,.iv x2] [some ⟨138,[.iv x3,.iv x4,.osl 0,.iv x5,.osl 1,.iv x6,.osl 2,.osl 3,.osl 4,.osl 5,.nl,.nl,.iv x7]⟩] [Zwj x8,Sq4 x9,Zuj x10,Zxj x11,Sq4 x12,Zxj x13] (.tup []) [some ⟨138,[.iv x3,.iv x4,.osl 0,.iv x5,.osl 1,.iv x6,.osl 2,.osl 7,.osl 4,.osl 5,.nl,.nl,.iv x7]⟩] [Zwj x8,Sq4 x9,Zuj x10,none,Sq4 x12,Zxj x13,none,Zxj r]:=by
 refine FT Zz11 fun w0 M0=>?_;have ok:=Zz11;rw [Zw31] at h;dsimp only[lun,List.cons_append,List.nil_append];refine Vg 8 ?_;refine VN (LR.slice 3 rfl) h (fun e=>Zgn e ⟨by kernel_rfl,rfl,fun z r hz=>Zin hz⟩) fun x14 _ h=>?_;refine Vg 12 ?_;refine Vl [0,1,1,1,3,1] (fun x16=>([],[some ⟨138,[.iv x3,.iv x4,.osl 0,.iv x5,.osl 1,.iv x6,.osl 2,.osl 7,.osl 4,.osl 5,.nl,.nl,.iv x7]⟩],[Zwj x8,Sq4 x9,Zuj x10,none,Sq4 x12,Zxj x13,none,Zxj x16])) (Zv31 x2 x14) r ?_ fun J1=>?_
 ·intro x16 h;rw [Zv31] at h;(try dsimp only);refine Vg 8 ?_;have ⟨x17,ex17,h⟩:=Bs h;refine Zde KE.row ex17 trivial rfl rfl rfl (Vg 1 ?_);refine Zue [.iv x2] KE.row (y':=(KE.mk x17.Peer x2)) ex17 trivial rfl rfl rfl (by first | exact Zqb _ | simp [go_sem]) rfl rfl rfl rfl (Vg 1 ?_);obtain rfl:=Option.some.inj h;exact Zlj Zz11
 ·refine MI h (fun h=>?_) fun h=>?_
  ·refine Vg 11 ?_;refine VR [] [3,6] 1 7 h Z321 fun _ _ h=>?_;exact W
  ·refine Vg 1 ?_;refine Zjj 121 2 (Ds ?_);refine Zjj 121 2 (Ds ?_);refine Zgj 3 7 ?_;exact W
def Zy31:List Int→Option (Int×List Int)
| x18=>some ((-1),x18)
def Zz31 (x1:Int) (x2:List Sess):(Int×List Int)→Option ((Int×List Int) ⊕ (Int×List Int))
| (x7,x8)=>
 ifb (decide (x7<(ln Sess.row x2))) (
 (at_ x2 x7).bind fun x9=>
 (Z621 x9 x1 x8).bind fun x10=>
 ifb x10.1 (
 Option.map Sum.inr (some (x7,x10.2))) (
 some (.inl (wr (x7+1),x10.2)))) (
 Option.map Sum.inr (Zy31 x8))
def Z041 (x1:Int) (x2:List Sess):Option (Int×List Int):=loop (Zz31 x1 x2) (0,([]:List Int))
theorem Z141 {x1 x2 r} (h:Z041 x1 x2=some r):Z0f Tryz.prog 164 [.osl 0,.clo 177 [.ptr 0 0,.ptr 1 0]] [some ⟨3,[.iv x1]⟩,some ⟨40,[.nl]⟩] [Zuj x2] (.iv r.1) [some ⟨3,[.iv x1]⟩,some ⟨40,[.osl 1]⟩] [Zuj x2,Sq4 r.2]:=by
 refine FT Zik fun w0 M0=>?_;have ok:=Zik;rw [Z041] at h;dsimp only[lun,List.cons_append,List.nil_append];refine Vg 11 ?_;refine Vl [] (fun x18=>([],[some ⟨3,[.iv x1]⟩,some ⟨40,[.osl 1]⟩],[Zuj x2,Sq4 x18])) Zy31 r ?_ fun J1=>?_
 ·intro x18 h;rw [Zy31] at h;(try dsimp only);refine Vg 4 ?_;obtain rfl:=Option.some.inj h;exact Zkj Zik
 ·refine Vg 1 ?_;refine Zij 1 0 3 1 (Ds ?_);refine Mm h [0,2,5,1] (fun s=>([(8,.iv s.1)],[],[],[(1,Sq4 s.2)])) ?_;rintro n1 ⟨x7,x8⟩ y1 h hin1 hout1;rw [Zz31] at h;(try dsimp only);refine Vg 5 ?_;refine MI h (fun h=>?_) fun h=>?_
  ·refine Vg 13 ?_;have ⟨x9,ex9,h⟩:=Bs h;refine Zde Sess.row ex9 trivial rfl rfl rfl (Zme Sess.row ex9 trivial rfl rfl rfl ?_);have ⟨x10,ex10,h⟩:=Bs h;refine Zaf [true,true] [false,true] trivial rfl (Z9j [0,1] [1] 2 2 (Z721 ex10)) (by kernel_rfl) (h:=?_);refine Vg 1 ?_;refine MI h (fun h=>?_) fun h=>?_
   ·refine Vg 5 ?_;refine Zgj 3 1 (Ds ?_);obtain rfl:=Option.some.inj (Zdc h hout1);exact Zkj Zik
   ·refine Vg 6 ?_;refine Zgj 3 1 ?_;exact W
  ·exact W
@[go_sem] def e183:EC:=eQ Tryz.f183
theorem Z241:FnOK Tryz.prog 183 Tryz.f183 e183 [] 1 44:=okA
def Z341 (x2:Int) (x16:(Int×Bool)):List KE→Option (List KE)
| x18=>
 (at_ x18 x16.1).bind fun x19=>
 some (x18.set (Int.toNat (x16.1)) (KE.mk x19.Peer x2))
def Z441 (x1 x2:Int) (_x3 _x4:Int) (_x5 _x6:Int) (_x7:List Sess) (_x8:List Int) (_x9:Int) (_x10:List Side) (_x11:List Int) (x12 _x13:List KE) (_x14:List Mail) (_x15:List Event):Option (List KE):=
 (Zfn x12 x1 ((fun z=>Zhn z.1 z.2))).bind fun x16=>
 ifb (!x16.2) (
 (Z221 x12 x16.1 ([KE.mk x1 0])).bind fun x17=>
 (Z341 x2 x16) x17) (
 (Z341 x2 x16) x12)
theorem Z541 {x1 x2 x3 x4 x5 x6 x7 x8 x9 x10 x11 x12 x13 x14 x15 r} (h:Z441 x1 x2 x3 x4 x5 x6 x7 x8 x9 x10 x11 x12 x13 x14 x15=some r):Z0f Tryz.prog 132 [.ptr 0 0,.iv x1,.iv x2] [some ⟨138,[.iv x3,.iv x4,.osl 0,.iv x5,.osl 1,.iv x6,Sp5 x7,.osl 2,Sp1 x8,.osl 3,.osl 4,.osl 5,.iv x9]⟩] [Zwj x10,Sq4 x11,Zxj x12,Zxj x13,Sq6 x14,Zzj x15] (.tup []) [some ⟨138,[.iv x3,.iv x4,.osl 0,.iv x5,.osl 1,.iv x6,Sp5 x7,.osl 7,Sp1 x8,.osl 3,.osl 4,.osl 5,.iv x9]⟩] [Zwj x10,Sq4 x11,none,Zxj x13,Sq6 x14,Zzj x15,none,Zxj r]:=by
 refine FT Zz11 fun w0 M0=>?_;have ok:=Zz11;rw [Z441] at h;dsimp only[lun,List.cons_append,List.nil_append];refine Vg 8 ?_;refine VN (LR.slice 2 rfl) h (fun e=>Zgn e ⟨by kernel_rfl,rfl,fun z r hz=>Zin hz⟩) fun x16 _ h=>?_;refine Vg 12 ?_;refine Vl [0,1,1,1,3,1] (fun x18=>([],[some ⟨138,[.iv x3,.iv x4,.osl 0,.iv x5,.osl 1,.iv x6,Sp5 x7,.osl 7,Sp1 x8,.osl 3,.osl 4,.osl 5,.iv x9]⟩],[Zwj x10,Sq4 x11,none,Zxj x13,Sq6 x14,Zzj x15,none,Zxj x18])) (Z341 x2 x16) r ?_ fun J1=>?_
 ·intro x18 h;rw [Z341] at h;(try dsimp only);refine Vg 8 ?_;have ⟨x19,ex19,h⟩:=Bs h;refine Zde KE.row ex19 trivial rfl rfl rfl (Vg 1 ?_);refine Zue [.iv x2] KE.row (y':=(KE.mk x19.Peer x2)) ex19 trivial rfl rfl rfl (by first | exact Zqb _ | simp [go_sem]) rfl rfl rfl rfl (Vg 1 ?_);obtain rfl:=Option.some.inj h;exact Zlj Zz11
 ·refine MI h (fun h=>?_) fun h=>?_
  ·refine Vg 11 ?_;refine VR [] [2,6] 1 7 h Z321 fun _ _ h=>?_;exact W
  ·refine Vg 1 ?_;refine Zjj 121 2 (Ds ?_);refine Zjj 121 2 (Ds ?_);refine Zgj 2 7 ?_;exact W
@[go_sem] def e88:EC:=eQ Tryz.f88
def Z641:List DI→Option (List DI×Int)
| x68=>some (x68,0)
def Z741 (x31:Int) (x32:List DI):List Side→Option ((Int×List DI) ⊕ (List DI×Int))
| x59=>
 (Z7c 40 x32 ([DI.mk x31 0 x59])).bind fun x60=>
 some (.inl (wr (x31+1),x60))
def Z841 (x2:List Int) (x31:Int) (x32:List DI) (x33:List Int):(Int×List Side)→Option ((Int×List Side) ⊕ ((Int×List DI) ⊕ (List DI×Int)))
| (x40,x41)=>
 ifb (decide (x40<(ln Z3d x33))) (
 (at_ x33 x40).bind fun x42=>
 (at_ x2 x31).bind fun x43=>
 (at_ x2 x42).bind fun x44=>
 (Z7c 32 x41 ([Side.mk x42 1 0 (decide (x44<x43)) (decide (x44<x43)) (!(decide (x44<x43))) (decide (x44<x43)) (!(decide (x44<x43)))])).bind fun x45=>
 some (.inl (wr (x40+1),x45))) (
 Option.map Sum.inr ((Z741 x31 x32) x41))
def Z941 (x1:Graph) (x2:List Int):(Int×List DI)→Option ((Int×List DI) ⊕ (List DI×Int))
| (x31,x32)=>
 ifb (decide (x31<x1.N)) (
 (Z031 x1 x31).bind fun x33=>
 loop (Z841 x2 x31 x32 x33) (0,([]:List Side))) (
 Option.map Sum.inr (Z641 x32))
def Za41 (x1:Graph) (x2:List Int):Option (List DI×Int):=
 (Zq01 x1).bind fun x3=>
 ifb (!decide (x3=0)) (
 some (([]:List DI),x3)) (
 (Zv21 x1 x2).bind fun x4=>
 ifb (!x4) (
 some (([]:List DI),120)) (
 loop (Z941 x1 x2) (0,([]:List DI))))
theorem Zb41 {x1 x2 r} (h:Za41 x1 x2=some r):Zy6 Tryz.prog 88 [.agg (Graph.row x1),Sp1 x2] (.tup [Z0k r.1,.iv r.2]):=by
 have ok:=oK 88 Tryz.f88 e88 [.t 4,.t 5] 2 65;refine FP ok fun w0 H0=>?_;rw [Za41] at h;refine Vg 10 ?_;refine VB h Zr01 fun _ _ h=>?_;refine Vg 7 ?_;refine MI h (fun h=>?_) fun h=>?_
 ·exact W
 ·refine Vg 6 ?_;refine VB h Zw21 fun _ _ h=>?_;refine Vg 2 ?_;refine MI h (fun h=>?_) fun h=>?_
  ·exact W
  ·refine Vg 12 ?_;refine Vl [] (fun x68=>([(7,.osl 0)],[],[Z1k x68])) Z641 r ?_ fun J1=>?_
   ·intro x68 h;rw [Z641] at h;(try dsimp only);refine Vg 6 ?_;refine Zhj 0 ?_;exact W
   ·refine Vg 1 ?_;refine Zbb 7 58 3 rfl rfl (Ds ?_);refine Mm h [1,2,4,1,15,1] (fun s=>([(24,.iv s.1)],[],[],[(0,Z1k s.2)])) ?_;rintro n1 ⟨x31,x32⟩ y1 h hin1 hout1;rw [Z941] at h;(try dsimp only);refine Vg 5 ?_;refine MI h (fun h=>?_) fun h=>?_
    ·refine Vg 20 ?_;refine VB h Z231 fun _ _ h=>?_;refine Vg 3 ?_;refine Vl [1,2,4,1,1,1,13,2] (fun x59=>([],[some ⟨24,Graph.row x1⟩,some ⟨58,[.iv x31,.iv 0,.osl 1]⟩],[Z1k x32,Zwj x59])) (Z741 x31 x32) y1 ?_ fun J2=>?_
     ·intro x59 h;rw [Z741] at h;(try dsimp only);refine Vg 3 ?_;refine Zhj 1 ?_;refine Vg 1 ?_;have ⟨x60,ex60,h⟩:=Bs h;refine Zlc DI.row ex60 trivial rfl rfl rfl (Vg 7 ?_);refine Zgj 3 0 ?_;exact W
     ·refine Vg 1 ?_;refine Zij 1 2 112 8 (Ds ?_);refine Mm h [1,2,4,3,13,2,6,2] (fun s=>([(33,.iv s.1)],[],[],[(1,Zwj s.2)])) ?_;rintro n2 ⟨x40,x41⟩ y2 h hin2 hout2;rw [Z841] at h;(try dsimp only);refine Vg 5 ?_;refine MI h (fun h=>?_) fun h=>?_
      ·refine Vg 5 ?_;have ⟨x42,ex42,h⟩:=Bs h;refine Zic Z3d ex42 trivial rfl rfl rfl (Vg 4 ?_);have ⟨x43,ex43,h⟩:=Bs h;have ⟨x44,ex44,h⟩:=Bs h;refine Zej fun all H=>Gs ?_;refine Vg 13 ?_;have ⟨x45,ex45,h⟩:=Bs h;refine Zlc Side.row ex45 trivial rfl rfl rfl (Vg 8 ?_);refine Zgj 3 1 ?_;exact W
      ·exact W
    ·exact W
@[go_sem] def e146:EC:=eQ Tryz.f146
def Zc41:List Int→Option (List Int×Int)
| x54=>some (x54,0)
def Zd41 (x26:Int):List Int→Option ((Int×List Int) ⊕ (List Int×Int))
| x46=>some (.inl (wr (x26+1),x46))
def Ze41 (x2:List Int) (x26:Int) (x28:List Int):List Int→Option ((List Int) ⊕ ((Int×List Int) ⊕ (List Int×Int)))
| x35=>
 (Znr x28 ((fun z=>Zbp z x2 x35 x26))).bind fun x36=>
 ifb x36 (
 (at_ x35 x26).bind fun x37=>
 some (.inl (x35.set (Int.toNat (x26)) (wr (x37+1))))) (
 Option.map Sum.inr ((Zd41 x26) x35))
def Zf41 (x2:List Int) (x26:Int) (x27 x28:List Int):Bool→Option ((Int×List Int) ⊕ (List Int×Int))
| x31=>
 ifb x31 (
 (Zd41 x26) x27) (
 (at_ x27 x26).bind fun _=>
 loop (Ze41 x2 x26 x28) (x27.set (Int.toNat (x26)) 1))
def Zg41 (x1:Graph) (x2:List Int):(Int×List Int)→Option ((Int×List Int) ⊕ (List Int×Int))
| (x26,x27)=>
 ifb (decide (x26<x1.N)) (
 (Z031 x1 x26).bind fun x28=>
 (at_ x2 x26).bind fun x29=>
 ifb (!decide (x29=0)) (
 (Zf41 x2 x26 x27 x28) true) (
 (Znr x28 ((fun z=>Z9p z x2 x26))).bind fun x30=>
 (Zf41 x2 x26 x27 x28) x30)) (
 Option.map Sum.inr (Zc41 x27))
def Zh41 (x1:Graph) (x2:List Int):Bool→Option (List Int×Int)
| x5=>
 ifb x5 (
 some (([]:List Int),110)) (
 (Z0l x2).bind fun x6=>
 loop (Zg41 x1 x2) (0,x6))
def Zi41 (x1:Graph) (x2:List Int):Option (List Int×Int):=
 (Zq01 x1).bind fun x3=>
 ifb (!decide (x3=0)) (
 some (([]:List Int),x3)) (
 ifb (!decide ((ln Z3d x2)=x1.N)) (
 (Zh41 x1 x2) true) (
 (Znr x2 ((fun z=>Z6p z))).bind fun x4=>
 (Zh41 x1 x2) x4))
theorem Zj41 {x1 x2 r} (h:Zi41 x1 x2=some r):Zy6 Tryz.prog 146 [.agg (Graph.row x1),Sp1 x2] (.tup [Sp1 r.1,.iv r.2]):=by
 have ok:=oK 146 Tryz.f146 e146 [.t 4,.t 5] 2 56;refine FP ok fun w0 H0=>?_;rw [Zi41] at h;refine Vg 11 ?_;refine VB h Zr01 fun _ _ h=>?_;refine Vg 7 ?_;refine MI h (fun h=>?_) fun h=>?_
 ·exact W
 ·refine Vg 10 ?_;refine Vk [2,2] (fun x5=>[(23,.bv x5)]) (Zh41 x1 x2) r ?_ fun J1=>?_
  ·intro x5 h;rw [Zh41] at h;(try dsimp only);refine MI h (fun h=>?_) fun h=>?_
   ·exact W
   ·refine Vg 4 ?_;have ⟨x6,ex6,h⟩:=Bs h;refine Ztd trivial (Z1l ex6) (h:=?_);refine Vg 10 ?_;refine Vm [7,1] (fun x54=>([],[],[(0,none),(1,none)],[(0,Sq4 x54)])) Zc41 r ?_ fun J2=>?_
    ·intro x54 h;rw [Zc41] at h;(try dsimp only);refine Vg 6 ?_;refine Zhj 0 ?_;exact W
    ·refine Vg 1 ?_;refine Mm h [2,2,3,1,19,1] (fun s=>([(28,.iv s.1)],[],[],[(0,Sq4 s.2)])) ?_;rintro n1 ⟨x26,x27⟩ y1 h hin1 hout1;rw [Zg41] at h;(try dsimp only);refine Vg 5 ?_;refine MI h (fun h=>?_) fun h=>?_
     ·refine Vg 2 ?_;refine Vm [2,2,3,1,19,2] (fun x46=>([],[],[],[(0,Sq4 x46)])) (Zd41 x26) y1 ?_ fun J3=>?_
      ·intro x46 h;rw [Zd41] at h;exact W
      ·refine Vg 11 ?_;refine VB h Z231 fun x28 _ h=>?_;refine Vg 7 ?_;have ⟨x29,ex29,h⟩:=Bs h;refine Zic Z3d ex29 trivial rfl rfl rfl (Vg 3 ?_);refine Vk [2,2,3,3,17,2] (fun x31=>[(43,.bv x31)]) (Zf41 x2 x26 x27 x28) y1 ?_ fun J4=>?_
       ·intro x31 h;rw [Zf41] at h;(try dsimp only);refine MI h (fun h=>?_) fun h=>?_
        ·exact W
        ·refine Vg 5 ?_;have ⟨x32,ex32,h⟩:=Bs h;refine Zde Z3d ex32 trivial rfl rfl rfl (Zue [.iv 1] Z3d (y':=1) ex32 trivial rfl rfl rfl (by first | exact Zqb _ | simp [go_sem]) rfl rfl rfl rfl (Vg 2 ?_));refine Mm h [2,2,3,3,17,2] (fun x35=>([],[],[],[(0,Sq4 x35)])) ?_;rintro n2 x35 y2 h hin2 hout2;rw [Ze41] at h;(try dsimp only);refine Vg 5 ?_;refine VN ((((LR.slice 0 rfl).block 1 rfl rfl).block 2 rfl rfl).block 3 rfl rfl) h (fun e=>Zor e ⟨by kernel_rfl,rfl,fun z r hz=>Zcp hz⟩) fun _ _ h=>?_;refine Vg 1 ?_;refine MI h (fun h=>?_) fun h=>?_
         ·refine Vg 5 ?_;have ⟨x37,ex37,h⟩:=Bs h;refine Zde Z3d ex37 trivial rfl rfl rfl (Zke Z3d ex37 trivial rfl rfl rfl (Vg 1 ?_));refine Zde Z3d ex37 trivial rfl rfl rfl (Zue [.iv (wr (x37+1))] Z3d (y':=wr (x37+1)) ex37 trivial rfl rfl rfl (by first | exact Zqb _ | simp [go_sem]) rfl rfl rfl rfl ?_);exact W
         ·exact W
       ·refine MC 39 h (fun h=>?_) fun h=>?_
        ·exact W
        ·refine Vg 2 ?_;refine VN ((LR.block 1 rfl rfl).block 3 rfl rfl) h (fun e=>Zor e ⟨by kernel_rfl,rfl,fun z r hz=>Zap hz⟩) fun _ _ h=>?_;exact W
     ·exact W
  ·refine MC 20 h (fun h=>?_) fun h=>?_
   ·exact W
   ·refine Vg 1 ?_;refine VB h (fun e=>Zor e ⟨by kernel_rfl,rfl,fun z r hz=>Z7p hz⟩) fun _ _ h=>?_;exact W
@[go_sem] def e53:EC:=eQ Tryz.f53
def Zk41 (x1:Graph):Option Scene:=
 (Z731 x1).bind fun x2=>
 (Zpu x1 x2.1).bind fun x3=>
 some (Scene.mk x3 (([]:List Mail)))
theorem Zl41 {x1 r} (h:Zk41 x1=some r):Zy6 Tryz.prog 53 [.agg (Graph.row x1)] (.agg (Scene.row r)):=by have ok:=oK 53 Tryz.f53 e53 [.c 2 (some 2)] 1 13;refine FP ok fun w0 H0=>?_;rw [Zk41] at h;refine Vg 8 ?_;refine VB h Z831 fun _ _ h=>?_;refine Vg 10 ?_;refine VB h Zru fun _ _ h=>?_;exact W
@[go_sem] def e124:EC:=eQ Tryz.f124
def Zm41 (x1:Book) (x2:Int):Option (Book×Int):=
 (Zm31 x1 x2 1).bind fun x3=>
 some (x3.1,x3.2)
theorem Zn41 {x1 x2 r} (h:Zm41 x1 x2=some r):Zy6 Tryz.prog 124 [.agg (Book.row x1),.iv x2] (.tup [.agg (Book.row r.1),.iv r.2]):=by have ok:=oK 124 Tryz.f124 e124 [.c 4 (some 2),.t 5] 2 9;refine FP ok fun w0 H0=>?_;rw [Zm41] at h;refine Vg 10 ?_;refine VB h Zn31 fun _ _ h=>?_;exact W
@[go_sem] def e127:EC:=eQ Tryz.f127
def Zo41 (x1:Book) (x2:Int):Option (Book×Int):=
 (Zm31 x1 x2 0).bind fun x3=>
 some (x3.1,x3.2)
theorem Zp41 {x1 x2 r} (h:Zo41 x1 x2=some r):Zy6 Tryz.prog 127 [.agg (Book.row x1),.iv x2] (.tup [.agg (Book.row r.1),.iv r.2]):=by have ok:=oK 127 Tryz.f127 e127 [.c 4 (some 2),.t 5] 2 9;refine FP ok fun w0 H0=>?_;rw [Zo41] at h;refine Vg 10 ?_;refine VB h Zn31 fun _ _ h=>?_;exact W
@[go_sem] def e211:EC:=eQ Tryz.f211
theorem Zq41:FnOK Tryz.prog 211 Tryz.f211 e211 [] 1 84:=okA
end
end NX
end Go.Proofs.YtgamgemlekpepaaGreat
