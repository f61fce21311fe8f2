/-
  The function narthex/node.Act: its code compiled, a model, and that the code answers as the model. Written by a program of ours (lb.py). No statement of the seat is proved here.
-/
import Derived.Test.YtdjkbodnjhgbcaaGreatP27
set_option maxRecDepth 100000
set_option maxHeartbeats 4000000
namespace Go.Proofs.YtdjkbodnjhgbcaaGreat
namespace NX
open Go
noncomputable section
@[go_sem] def e11:EC:=(by have h:=hF Tryz.f11;(conv at h=>rhs;reduce);dsimp only[go_sem] at h;exact ⟨_,h⟩:DP Tryz.f11).1
theorem ok11:FnOK Tryz.prog 11 Tryz.f11 e11 [.c 4 (some 10),.t 5,.t 6,.t 7] 2 116:=okA
def Z9l (x3:(List Side×List Int×List KE×List Int×List KE×List Sess)):(Int×Int×Int×Int×List Sess×Int×List Side×List Int×List KE×List Event)→Option (Node×List Mail×List Event×Int)
| (x26,x27,x28,x29,x30,x31,x32,x33,x34,x35)=>
 (Z7l x26 x27 x28 x29 x30 x3.2.2.2.1 x31 x32 x33 x34 x3.2.2.2.2.1 x35).bind fun x36=>
 some ((Node.mk (DK.mk (DI.mk x36.1 x36.2.1 x36.2.2.2.2.2.2.2.1) x36.2.2.1 x36.2.2.2.2.2.2.2.2.1) (Book.mk x36.2.2.2.1 x36.2.2.2.2.1) x36.2.2.2.2.2.2.2.2.2.1 x36.2.2.2.2.2.1 x36.2.2.2.2.2.2.2.2.2.2.1),x36.2.2.2.2.2.2.2.2.2.2.2.1,x36.2.2.2.2.2.2.2.2.2.2.2.2,x36.2.2.2.2.2.2.1)
def Zal (x1:Node) (x2:Do) (x3:(List Side×List Int×List KE×List Int×List KE×List Sess)) (x5:Int) (x6:Int):Int→Option (Node×List Mail×List Event×Int)
| x11=>
 (Z2c (decide (x5<0)) 183 x1.DK.DI.ID x1.DK.DI.PH x1.DK.TH x1.Book.Last x11 x3.1 x3.2.1 x3.2.2.2.2.2 x3.2.2.1 x3.2.2.2.1 x3.2.2.2.2.1).bind fun x12=>
 (Z2c (decide (x6<65535)) 186 x1.DK.DI.ID x1.DK.DI.PH x1.DK.TH x1.Book.Last x12.2 x3.1 x3.2.1 x3.2.2.2.2.2 x3.2.2.1 x3.2.2.2.1 x3.2.2.2.2.1).bind fun x13=>
 ifb x13.1 (
 (Zmi (Side.mk x2.Peer (wr (x6+1)) 1 true true false true false) x1.DK.DI.ID x1.DK.DI.PH x1.DK.TH x1.Book.Last x13.2 x3.1 x3.2.1 x3.2.2.2.2.2 x3.2.2.1 x3.2.2.2.1 x3.2.2.2.2.1).bind fun x14=>
 (Z9l x3) (x1.DK.DI.ID,x1.DK.DI.PH,x1.DK.TH,x1.Book.Last,x3.2.2.2.2.2,x13.2,x14.1,x3.2.1,x14.2,([]:List Event))) (
 (Z9l x3) (x1.DK.DI.ID,x1.DK.DI.PH,x1.DK.TH,x1.Book.Last,x3.2.2.2.2.2,x13.2,x3.1,x3.2.1,x3.2.2.1,([]:List Event)))
def Zbl (x1:Node) (x2:Do) (x3:(List Side×List Int×List KE×List Int×List KE×List Sess)):(Bool×Int)→Option (Node×List Mail×List Event×Int)
| (x22,x23)=>
 ifb x22 (
 (Zck x2.Peer x1.DK.DI.ID x1.DK.DI.PH x1.DK.TH x1.Book.Last x23 x3.1 x3.2.1 x3.2.2.2.2.2 x3.2.2.1 x3.2.2.2.1 x3.2.2.2.2.1).bind fun x24=>
 (Z9l x3) (x24.1,x24.2.1,x24.2.2.1,x24.2.2.2.1,x24.2.2.2.2.1,x23,x24.2.2.2.2.2.2.1,x24.2.2.2.2.2.2.2,x3.2.2.1,x24.2.2.2.2.2.1)) (
 (Z9l x3) (x1.DK.DI.ID,x1.DK.DI.PH,x1.DK.TH,x1.Book.Last,x3.2.2.2.2.2,x23,x3.1,x3.2.1,x3.2.2.1,([]:List Event)))
def Zcl (x1:Node) (x2:Do) (x3:(List Side×List Int×List KE×List Int×List KE×List Sess)) (x5:Int):Int→Option (Node×List Mail×List Event×Int)
| x17=>
 (Z2c (decide (0≤x5)) 184 x1.DK.DI.ID x1.DK.DI.PH x1.DK.TH x1.Book.Last x17 x3.1 x3.2.1 x3.2.2.2.2.2 x3.2.2.1 x3.2.2.2.1 x3.2.2.2.2.1).bind fun x18=>
 ifb x18.1 (
 (at_ x3.1 x5).bind fun x19=>
 (Z19 x19).bind fun x20=>
 (Z2c x20 185 x1.DK.DI.ID x1.DK.DI.PH x1.DK.TH x1.Book.Last x18.2 x3.1 x3.2.1 x3.2.2.2.2.2 x3.2.2.1 x3.2.2.2.1 x3.2.2.2.2.1).bind fun x21=>
 (Zbl x1 x2 x3) (x21.1,x21.2)) (
 (Zbl x1 x2 x3) (false,x18.2))
def Zdl (x1:Node) (x2:Do) (x3:(List Side×List Int×List KE×List Int×List KE×List Sess)) (x4:Int) (x5 x6:Int):Bool→Option (Node×List Mail×List Event×Int)
| x7=>
 ifb x7 (
 ifb (decide (x4=0)) (
 (Z5k x2 x1.DK.DI.ID x1.DK.DI.PH x1.DK.TH x1.Book.Last x4 x3.1 x3.2.1 x3.2.2.2.2.2 x3.2.2.1 x3.2.2.2.1 x3.2.2.2.2.1).bind fun x8=>
 (Z9l x3) (x8.1,x8.2.1,x8.2.2.1,x8.2.2.2.1,x8.2.2.2.2.1,x8.2.2.2.2.2.1,x8.2.2.2.2.2.2.2.1,x8.2.2.2.2.2.2.2.2,x3.2.2.1,x8.2.2.2.2.2.2.1)) (
 (Z9l x3) (x1.DK.DI.ID,x1.DK.DI.PH,x1.DK.TH,x1.Book.Last,x3.2.2.2.2.2,x4,x3.1,x3.2.1,x3.2.2.1,([]:List Event)))) (
 ifb (decide (x2.Kind=4)) (
 ifb (decide (x1.DK.DI.ID<x2.Peer)) (
 (Z2c (decide (x2.Peer<64)) 182 x1.DK.DI.ID x1.DK.DI.PH x1.DK.TH x1.Book.Last x4 x3.1 x3.2.1 x3.2.2.2.2.2 x3.2.2.1 x3.2.2.2.1 x3.2.2.2.2.1).bind fun x9=>
 (Zal x1 x2 x3 x5 x6) x9.2) (
 (Z6c 182 x1.DK.DI.ID x1.DK.DI.PH x1.DK.TH x1.Book.Last x4 x3.1 x3.2.1 x3.2.2.2.2.2 x3.2.2.1 x3.2.2.2.1 x3.2.2.2.2.1).bind fun x10=>
 (Zal x1 x2 x3 x5 x6) x10.2)) (
 ifb (decide (x2.Kind=5)) (
 ifb (decide (x1.DK.DI.ID<x2.Peer)) (
 (Z2c (decide (x2.Peer<64)) 182 x1.DK.DI.ID x1.DK.DI.PH x1.DK.TH x1.Book.Last x4 x3.1 x3.2.1 x3.2.2.2.2.2 x3.2.2.1 x3.2.2.2.1 x3.2.2.2.2.1).bind fun x15=>
 (Zcl x1 x2 x3 x5) x15.2) (
 (Z6c 182 x1.DK.DI.ID x1.DK.DI.PH x1.DK.TH x1.Book.Last x4 x3.1 x3.2.1 x3.2.2.2.2.2 x3.2.2.1 x3.2.2.2.1 x3.2.2.2.2.1).bind fun x16=>
 (Zcl x1 x2 x3 x5) x16.2)) (
 (Z6c 188 x1.DK.DI.ID x1.DK.DI.PH x1.DK.TH x1.Book.Last x4 x3.1 x3.2.1 x3.2.2.2.2.2 x3.2.2.1 x3.2.2.2.1 x3.2.2.2.2.1).bind fun x25=>
 (Z9l x3) (x1.DK.DI.ID,x1.DK.DI.PH,x1.DK.TH,x1.Book.Last,x3.2.2.2.2.2,x25.2,x3.1,x3.2.1,x3.2.2.1,([]:List Event)))))
def Zel (x1:Node) (x2:Do):Option (Node×List Mail×List Event×Int):=
 (Z8e x1).bind fun x3=>
 (Zkk x1).bind fun x4=>
 (Z8c (node_node.mk (Node.mk (DK.mk (DI.mk x1.DK.DI.ID x1.DK.DI.PH x3.1) x1.DK.TH x3.2.1) (Book.mk x1.Book.Last x3.2.2.2.2.2) x3.2.2.1 x3.2.2.2.1 x3.2.2.2.2.1) (([]:List Mail)) (([]:List Event)) x4) x2.Peer).bind fun x5=>
 (Zy9 x1 x2.Peer).bind fun x6=>
 ifb (decide (x2.Kind=0)) (
 (Zdl x1 x2 x3 x4 x5 x6) (decide (x2.Kind=0))) (
 ifb (decide (x2.Kind=1)) (
 (Zdl x1 x2 x3 x4 x5 x6) (decide (x2.Kind=1))) (
 ifb (decide (x2.Kind=2)) (
 (Zdl x1 x2 x3 x4 x5 x6) (decide (x2.Kind=2))) (
 (Zdl x1 x2 x3 x4 x5 x6) (decide (x2.Kind=3)))))
theorem Zfl (x1:Node) (x2:Do) (r:(Node×List Mail×List Event×Int)) (h:Zel x1 x2=some r):Z03 Tryz.prog 11 [.agg (Node.row x1),.agg (Do.row x2)] (.tup [.agg (Node.row r.1),Sp4 r.2.1,Sp5 r.2.2.1,.iv r.2.2.2]):=by
 refine FP ok11 fun w0 H0=>?_
 rw [Zel] at h
 refine Vg 10 ?_;refine Zz6 fun all H=>?_;refine Gn H 2 5 ?_;refine Z64 1 rfl ?_;have ⟨x3,ex3,h⟩:=Bs h;refine Z77 H.1 [] [] 3 0 (Z9e x1 _ ex3) ?_;dsimp only[go_sem];refine Z64 3 rfl ?_;have ⟨x4,ex4,h⟩:=Bs h;refine GC H.1 (Zlk x1 _ ex4) ?_;dsimp only[go_sem];refine GN H 1 2 ?_;dsimp only[go_sem]
 refine An (GE H.1 5 ?_);refine Gn H 1 0 ?_;refine GD (Vg 5 ?_);have ⟨x5,ex5,h⟩:=Bs h
 refine VL (((((((LR.slice 0 rfl).slice 1 rfl).slice 2 rfl).slice 3 rfl).slice 4 rfl).slice 5 rfl).block 3 rfl rfl) (Z9c (node_node.mk (Node.mk (DK.mk (DI.mk x1.DK.DI.ID x1.DK.DI.PH x3.1) x1.DK.TH x3.2.1) (Book.mk x1.Book.Last x3.2.2.2.2.2) x3.2.2.1 x3.2.2.2.1 x3.2.2.2.2.1) (([]:List Mail)) (([]:List Event)) x4) x2.Peer _ ex5) (Vg 7 ?_);have ⟨x6,ex6,h⟩:=Bs h;refine VC (Zz9 x1 x2.Peer _ ex6) (Zv2 15 ?_)
 dsimp only[go_sem];refine An ?_
 refine Zo4 (fun (x7:Bool)=>⟨(.any :: .any :: .ptr 0 0 :: .ptr 1 0 :: .ptr 2 0::an 3 (.ptr 3 0 :: .iv x5 :: .iv x6::an 15 (.iv x2.Kind :: .any :: .any :: .bv x7::an 88 []))),[some ⟨35,Node.row x1⟩,some ⟨38,Do.row x2⟩,some ⟨35,[.iv 0,.iv 0,.nl,.iv 0,.nl,.iv 0,.nl,.nl,.nl,.nl]⟩,some ⟨81,[.iv x1.DK.DI.ID,.iv x1.DK.DI.PH,.osl 0,.iv x1.DK.TH,.osl 1,.iv x1.Book.Last,.osl 5,.osl 2,.osl 3,.osl 4,.nl,.nl,.iv x4]⟩],[Sq6 x3.1,Sq7 x3.2.1,Sq8 x3.2.2.1,Sq7 x3.2.2.2.1,Sq8 x3.2.2.2.2.1,Sq9 x3.2.2.2.2.2]⟩) (Zdl x1 x2 x3 x4 x5 x6) r ?_ fun J1=>?_
 ·intro x7 h;rw [Zdl] at h;(try dsimp only)
  refine Zo4 (fun ((x26,x27,x28,x29,x30,x31,x32,x33,x34,x35):(Int×Int×Int×Int×List Sess×Int×List Side×List Int×List KE×List Event))=>⟨an 4 (.ptr 2 0::an 3 (.ptr 3 0::an 109 [])),[none,none,some ⟨35,[.iv 0,.iv 0,.nl,.iv 0,.nl,.iv 0,.nl,.nl,.nl,.nl]⟩,some ⟨81,[.iv x26,.iv x27,.osl 0,.iv x28,.osl 1,.iv x29,Sp3 x30,.osl 2,.osl 3,.osl 4,.nl,.osl 6,.iv x31]⟩],[Sq6 x32,Sq7 x33,Sq8 x34,Sq7 x3.2.2.2.1,Sq8 x3.2.2.2.2.1,none,Z97 x35]⟩) (Z9l x3) r ?_ fun J2=>?_
  ·rintro ⟨x26,x27,x28,x29,x30,x31,x32,x33,x34,x35⟩ h;rw [Z9l] at h;(try dsimp only);refine Vg 4 ?_;refine Z17 3 ?_;dsimp only[go_sem];have ⟨x36,ex36,h⟩:=Bs h;refine Z67 [3] [0,1,2,4,6] 4 7 (Z8l x26 x27 x28 x29 x30 x3.2.2.2.1 x31 x32 x33 x34 x3.2.2.2.2.1 x35 _ ex36) ?_;refine Vg 9 ?_;refine Z17 7 ?_;dsimp only[go_sem]
   refine Z17 8 ?_;dsimp only[go_sem];refine Z17 9 ?_;dsimp only[go_sem];refine Z17 10 ?_;dsimp only[go_sem];refine Z17 11 ?_;dsimp only[go_sem];refine Z17 12 ?_;dsimp only[go_sem];exact MD ok11 h
  ·refine MI h (fun h=>?_) fun h=>?_
   ·refine Vg 8 ?_;refine MI h (fun h=>?_) fun h=>?_
    ·refine Vg 3 ?_;have ⟨x8,ex8,h⟩:=Bs h;refine Z67 [3] [0,1,5,2,3,4] 4 6 (Z6k x2 x1.DK.DI.ID x1.DK.DI.PH x1.DK.TH x1.Book.Last x4 x3.1 x3.2.1 x3.2.2.2.2.2 x3.2.2.1 x3.2.2.2.1 x3.2.2.2.2.1 _ ex8) ?_;refine Vg 1 ?_;refine Z07 8 0 (Z07 9 1 ?_);dsimp only[go_sem]
     exact Zx4 J2 h
    ·refine Vg 1 ?_;refine Z17 5 ?_;dsimp only[go_sem];refine Z27 3 11 57 5 ?_;dsimp only[go_sem];exact Zx4 J2 h
   ·refine Vg 5 ?_;refine MI h (fun h=>?_) fun h=>?_
    ·refine Vg 11 ?_
     refine Zo4 (fun (x11:Int)=>⟨an 3 (.ptr 1 0 :: .ptr 2 0::an 3 (.ptr 3 0 :: .iv x5 :: .iv x6::an 107 [])),[none,some ⟨38,Do.row x2⟩,some ⟨35,[.iv 0,.iv 0,.nl,.iv 0,.nl,.iv 0,.nl,.nl,.nl,.nl]⟩,some ⟨81,[.iv x1.DK.DI.ID,.iv x1.DK.DI.PH,.osl 0,.iv x1.DK.TH,.osl 1,.iv x1.Book.Last,.osl 5,.osl 2,.osl 3,.osl 4,.nl,.nl,.iv x11]⟩],[Sq6 x3.1,Sq7 x3.2.1,Sq8 x3.2.2.1,Sq7 x3.2.2.2.1,Sq8 x3.2.2.2.2.1,Sq9 x3.2.2.2.2.2]⟩) (Zal x1 x2 x3 x5 x6) r ?_ fun J3=>?_
     ·intro x11 h;rw [Zal] at h;(try dsimp only);refine Vg 5 ?_;have ⟨x12,ex12,h⟩:=Bs h;refine Z67 [3] [0,1,5,2,3,4] 4 6 (Z3c (decide (x5<0)) 183 x1.DK.DI.ID x1.DK.DI.PH x1.DK.TH x1.Book.Last x11 x3.1 x3.2.1 x3.2.2.2.2.2 x3.2.2.1 x3.2.2.2.1 x3.2.2.2.2.1 _ ex12) ?_;refine Vg 6 ?_;have ⟨x13,ex13,h⟩:=Bs h
      refine Z67 [3] [0,1,5,2,3,4] 4 6 (Z3c (decide (x6<65535)) 186 x1.DK.DI.ID x1.DK.DI.PH x1.DK.TH x1.Book.Last x12.2 x3.1 x3.2.1 x3.2.2.2.2.2 x3.2.2.1 x3.2.2.2.1 x3.2.2.2.2.1 _ ex13) ?_;refine Vg 1 ?_;refine MI h (fun h=>?_) fun h=>?_
      ·refine Vg 7 ?_;have ⟨x14,ex14,h⟩:=Bs h;refine Z67 [3] [0,1,5,2,3,4] 4 6 (Zni (Side.mk x2.Peer (wr (x6+1)) 1 true true false true false) x1.DK.DI.ID x1.DK.DI.PH x1.DK.TH x1.Book.Last x13.2 x3.1 x3.2.1 x3.2.2.2.2.2 x3.2.2.1 x3.2.2.2.1 x3.2.2.2.2.1 _ ex14) ?_;refine Vg 1 ?_;refine Z17 5 ?_;dsimp only[go_sem]
       refine Z27 3 11 57 5 ?_;dsimp only[go_sem];refine Z07 10 6 (Z07 7 0 (Z07 9 2 ?_));dsimp only[go_sem];exact Zx4 J2 h
      ·refine Vg 1 ?_;refine Z17 5 ?_;dsimp only[go_sem];refine Z27 3 11 57 5 ?_;dsimp only[go_sem];exact Zx4 J2 h
     ·refine MC 52 h (fun h=>?_) fun h=>?_
      ·refine Vg 4 ?_;have ⟨x9,ex9,h⟩:=Bs h;refine Z67 [3] [0,1,5,2,3,4] 4 6 (Z3c (decide (x2.Peer<64)) 182 x1.DK.DI.ID x1.DK.DI.PH x1.DK.TH x1.Book.Last x4 x3.1 x3.2.1 x3.2.2.2.2.2 x3.2.2.1 x3.2.2.2.1 x3.2.2.2.2.1 _ ex9) ?_;refine Vg 1 ?_;exact Zx4 J3 h
      ·refine Vg 4 ?_;have ⟨x10,ex10,h⟩:=Bs h;refine Z67 [3] [0,1,5,2,3,4] 4 6 (Z7c 182 x1.DK.DI.ID x1.DK.DI.PH x1.DK.TH x1.Book.Last x4 x3.1 x3.2.1 x3.2.2.2.2.2 x3.2.2.1 x3.2.2.2.1 x3.2.2.2.2.1 _ ex10) ?_;refine Vg 1 ?_;exact Zx4 J3 h
    ·refine Vg 5 ?_;refine MI h (fun h=>?_) fun h=>?_
     ·refine Vg 11 ?_
      refine Zo4 (fun (x17:Int)=>⟨an 3 (.ptr 1 0 :: .ptr 2 0::an 3 (.ptr 3 0 :: .iv x5::an 108 [])),[none,some ⟨38,Do.row x2⟩,some ⟨35,[.iv 0,.iv 0,.nl,.iv 0,.nl,.iv 0,.nl,.nl,.nl,.nl]⟩,some ⟨81,[.iv x1.DK.DI.ID,.iv x1.DK.DI.PH,.osl 0,.iv x1.DK.TH,.osl 1,.iv x1.Book.Last,.osl 5,.osl 2,.osl 3,.osl 4,.nl,.nl,.iv x17]⟩],[Sq6 x3.1,Sq7 x3.2.1,Sq8 x3.2.2.1,Sq7 x3.2.2.2.1,Sq8 x3.2.2.2.2.1,Sq9 x3.2.2.2.2.2]⟩) (Zcl x1 x2 x3 x5) r ?_ fun J4=>?_
      ·intro x17 h;rw [Zcl] at h;(try dsimp only);refine Vg 5 ?_;have ⟨x18,ex18,h⟩:=Bs h;refine Z67 [3] [0,1,5,2,3,4] 4 6 (Z3c (decide (0≤x5)) 184 x1.DK.DI.ID x1.DK.DI.PH x1.DK.TH x1.Book.Last x17 x3.1 x3.2.1 x3.2.2.2.2.2 x3.2.2.1 x3.2.2.2.1 x3.2.2.2.2.1 _ ex18) ?_;refine Vg 1 ?_
       refine Zo4 (fun ((x22,x23):(Bool×Int))=>⟨an 3 (.ptr 1 0 :: .ptr 2 0::an 3 (.ptr 3 0::an 98 (.bv x22::an 10 []))),[none,some ⟨38,Do.row x2⟩,some ⟨35,[.iv 0,.iv 0,.nl,.iv 0,.nl,.iv 0,.nl,.nl,.nl,.nl]⟩,some ⟨81,[.iv x1.DK.DI.ID,.iv x1.DK.DI.PH,.osl 0,.iv x1.DK.TH,.osl 1,.iv x1.Book.Last,.osl 5,.osl 2,.osl 3,.osl 4,.nl,.nl,.iv x23]⟩],[Sq6 x3.1,Sq7 x3.2.1,Sq8 x3.2.2.1,Sq7 x3.2.2.2.1,Sq8 x3.2.2.2.2.1,Sq9 x3.2.2.2.2.2]⟩) (Zbl x1 x2 x3) r ?_ fun J5=>?_
       ·rintro ⟨x22,x23⟩ h;rw [Zbl] at h;(try dsimp only);refine MI h (fun h=>?_) fun h=>?_
        ·refine Vg 4 ?_;have ⟨x24,ex24,h⟩:=Bs h;refine Z67 [3] [0,1,5,2,3,4] 4 6 (Zdk x2.Peer x1.DK.DI.ID x1.DK.DI.PH x1.DK.TH x1.Book.Last x23 x3.1 x3.2.1 x3.2.2.2.2.2 x3.2.2.1 x3.2.2.2.1 x3.2.2.2.2.1 _ ex24) ?_;refine Vg 1 ?_;refine Z07 7 6 (Z07 8 0 ?_);dsimp only[go_sem]
         refine Z07 9 1 ?_;dsimp only[go_sem];exact Zx4 J2 h
        ·refine Vg 1 ?_;refine Z17 5 ?_;dsimp only[go_sem];refine Z27 3 11 57 5 ?_;dsimp only[go_sem];exact Zx4 J2 h
       ·refine MC 93 h (fun h=>?_) fun h=>?_
        ·refine Vg 9 ?_;have ⟨x19,ex19,h⟩:=Bs h;refine Zd5 Side.row ex19 trivial rfl rfl rfl (Zg5 Side.row ex19 trivial rfl rfl rfl ?_);have ⟨x20,ex20,h⟩:=Bs h;refine VC (Z29 x19 _ ex20) ?_;have ⟨x21,ex21,h⟩:=Bs h
         refine Z67 [3] [0,1,5,2,3,4] 4 6 (Z3c x20 185 x1.DK.DI.ID x1.DK.DI.PH x1.DK.TH x1.Book.Last x18.2 x3.1 x3.2.1 x3.2.2.2.2.2 x3.2.2.1 x3.2.2.2.1 x3.2.2.2.2.1 _ ex21) ?_;refine Vg 2 ?_;exact Zx4 J5 h
        ·refine Vg 15 ?_;exact Zx4 J5 h
      ·refine MC 83 h (fun h=>?_) fun h=>?_
       ·refine Vg 4 ?_;have ⟨x15,ex15,h⟩:=Bs h;refine Z67 [3] [0,1,5,2,3,4] 4 6 (Z3c (decide (x2.Peer<64)) 182 x1.DK.DI.ID x1.DK.DI.PH x1.DK.TH x1.Book.Last x4 x3.1 x3.2.1 x3.2.2.2.2.2 x3.2.2.1 x3.2.2.2.1 x3.2.2.2.2.1 _ ex15) ?_;refine Vg 1 ?_;exact Zx4 J4 h
       ·refine Vg 4 ?_;have ⟨x16,ex16,h⟩:=Bs h;refine Z67 [3] [0,1,5,2,3,4] 4 6 (Z7c 182 x1.DK.DI.ID x1.DK.DI.PH x1.DK.TH x1.Book.Last x4 x3.1 x3.2.1 x3.2.2.2.2.2 x3.2.2.1 x3.2.2.2.1 x3.2.2.2.2.1 _ ex16) ?_;refine Vg 1 ?_;exact Zx4 J4 h
     ·refine Vg 2 ?_;have ⟨x25,ex25,h⟩:=Bs h;refine Z67 [3] [0,1,5,2,3,4] 4 6 (Z7c 188 x1.DK.DI.ID x1.DK.DI.PH x1.DK.TH x1.Book.Last x4 x3.1 x3.2.1 x3.2.2.2.2.2 x3.2.2.1 x3.2.2.2.1 x3.2.2.2.2.1 _ ex25) ?_;refine Vg 1 ?_;refine Z17 5 ?_;dsimp only[go_sem];refine Z27 3 11 57 5 ?_;dsimp only[go_sem]
      exact Zx4 J2 h
 ·refine MI h (fun h=>?_) fun h=>?_
  ·refine Vg 1 ?_;exact Zx4 J1 h
  ·refine Vg 5 ?_;refine MI h (fun h=>?_) fun h=>?_
   ·refine Vg 1 ?_;exact Zx4 J1 h
   ·refine Vg 5 ?_;refine MI h (fun h=>?_) fun h=>?_
    ·refine Vg 1 ?_;exact Zx4 J1 h
    ·refine Vg 4 ?_;exact Zx4 J1 h
end
end NX
end Go.Proofs.YtdjkbodnjhgbcaaGreat
