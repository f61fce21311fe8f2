/-
  The function narthex/node.Get: its code compiled, a model, and that the code answers as the model. Written by a program of ours (lb.py). No statement of the seat is proved here.
-/
import Derived.Test.YtdjkbodnjhgbcaaGreatP27
set_option maxRecDepth 100000
set_option maxHeartbeats 4000000
namespace Go.Proofs.YtdjkbodnjhgbcaaGreat
namespace NX
open Go
noncomputable section
@[go_sem] def e13:EC:=(by have h:=hF Tryz.f13;(conv at h=>rhs;reduce);dsimp only[go_sem] at h;exact ⟨_,h⟩:DP Tryz.f13).1
theorem ok13:FnOK Tryz.prog 13 Tryz.f13 e13 [.c 6 (some 10),.t 7,.t 8,.t 9] 3 167:=okA
def Zgl (x11:List KE):(Int×Int×Int×Int×List Sess×List Int×Int×List Side×List Int×List KE×List Event)→Option (Node×List Mail×List Event×Int)
| (x60,x61,x62,x63,x64,x65,x66,x67,x68,x69,x70)=>
 (Z7l x60 x61 x62 x63 x64 x65 x66 x67 x68 x11 x69 x70).bind fun x71=>
 some ((Node.mk (DK.mk (DI.mk x71.1 x71.2.1 x71.2.2.2.2.2.2.2.1) x71.2.2.1 x71.2.2.2.2.2.2.2.2.1) (Book.mk x71.2.2.2.1 x71.2.2.2.2.1) x71.2.2.2.2.2.2.2.2.2.1 x71.2.2.2.2.2.1 x71.2.2.2.2.2.2.2.2.2.2.1),x71.2.2.2.2.2.2.2.2.2.2.2.1,x71.2.2.2.2.2.2.2.2.2.2.2.2,x71.2.2.2.2.2.2.1)
def Zhl (x1:Node) (x2:Int) (x3:Msg) (x9:List Side) (x10:List Int) (x11:List KE) (x12:List Int) (x13:List KE) (x14:List Sess) (x15:(Bool×Int)):Bool→Option (Node×List Mail×List Event×Int)
| x19=>
 ifb x19 (
 (Zok x2 x3 x1.DK.DI.ID x1.DK.DI.PH x1.DK.TH x1.Book.Last x15.2 x9 x10 x14 x11 x12 x13).bind fun x20=>
 (Zgl x11) (x20.1,x20.2.1,x20.2.2.1,x1.Book.Last,x14,x12,x20.2.2.2.1,x20.2.2.2.2.1,x20.2.2.2.2.2,x13,([]:List Event))) (
 (Zgl x11) (x1.DK.DI.ID,x1.DK.DI.PH,x1.DK.TH,x1.Book.Last,x14,x12,x15.2,x9,x10,x13,([]:List Event)))
def Zil (x1:Node) (x2:Int) (x3:Msg) (x9:List Side) (x10:List Int) (x11:List KE) (x12:List Int) (x13:List KE) (x14:List Sess):(Bool×Int)→Option (Node×List Mail×List Event×Int)
| (x31,x32)=>
 ifb x31 (
 (Zj4 16 x13 ([KE.mk x2 x3.Epoch])).bind fun x33=>
 (Zgl x11) (x1.DK.DI.ID,x1.DK.DI.PH,x1.DK.TH,x1.Book.Last,x14,x12,x32,x9,x10,x33,([]:List Event))) (
 (Zgl x11) (x1.DK.DI.ID,x1.DK.DI.PH,x1.DK.TH,x1.Book.Last,x14,x12,x32,x9,x10,x13,([]:List Event)))
def Zjl (x1:Node) (x2:Int) (x9:List Side) (x10:List Int) (x11:List KE) (x12:List Int) (x13:List KE) (x14:List Sess) (x16:Int):(Bool×Int)→Option (Node×List Mail×List Event×Int)
| (x41,x42)=>
 ifb x41 (
 (at_ x9 x16).bind fun x43=>
 (Zjh x12 x2).bind fun x44=>
 (Z0d 6 x2 x1.DK.DI.ID x1.DK.DI.PH x1.DK.TH x1.Book.Last x44 x42 (x9.set (Int.toNat (x16)) (Side.mk x43.Peer x43.Epoch 0 x43.Fork x43.DY x43.Token x43.BO x43.Ask)) x10 x14 x11 x13).bind fun x45=>
 (Zgl x11) (x1.DK.DI.ID,x1.DK.DI.PH,x1.DK.TH,x1.Book.Last,x14,x44,x42,x9.set (Int.toNat (x16)) (Side.mk x43.Peer x43.Epoch 0 x43.Fork x43.DY x43.Token x43.BO x43.Ask),x10,x13,x45)) (
 (Zgl x11) (x1.DK.DI.ID,x1.DK.DI.PH,x1.DK.TH,x1.Book.Last,x14,x12,x42,x9,x10,x13,([]:List Event)))
def Zkl (x1:Node) (x2:Int) (x9:List Side) (x10:List Int) (x11:List KE) (x12:List Int) (x13:List KE) (x14:List Sess):(Bool×Int)→Option (Node×List Mail×List Event×Int)
| (x51,x52)=>
 ifb x51 (
 (Zck x2 x1.DK.DI.ID x1.DK.DI.PH x1.DK.TH x1.Book.Last x52 x9 x10 x14 x11 x12 x13).bind fun x53=>
 (Zgl x11) (x53.1,x53.2.1,x53.2.2.1,x53.2.2.2.1,x53.2.2.2.2.1,x12,x52,x53.2.2.2.2.2.2.1,x53.2.2.2.2.2.2.2,x13,x53.2.2.2.2.2.1)) (
 (Zgl x11) (x1.DK.DI.ID,x1.DK.DI.PH,x1.DK.TH,x1.Book.Last,x14,x12,x52,x9,x10,x13,([]:List Event)))
def Zll (x1:Node) (x2:Int) (x3:Msg) (x9:List Side) (x10:List Int) (x11:List KE) (x12:List Int) (x13:List KE) (x14:List Sess) (x15:(Bool×Int)) (x16:Int):Bool→Option (Node×List Mail×List Event×Int)
| x17=>
 ifb x17 (
 ifb (decide (x15.2=0)) (
 ifb (decide (0≤x16)) (
 (at_ x9 x16).bind fun x18=>
 (Zhl x1 x2 x3 x9 x10 x11 x12 x13 x14 x15) (decide (x18.Epoch=x3.Epoch))) (
 (Zhl x1 x2 x3 x9 x10 x11 x12 x13 x14 x15) false)) (
 (Zhl x1 x2 x3 x9 x10 x11 x12 x13 x14 x15) false)) (
 ifb (decide (x3.Kind=5)) (
 (Z0f x1 (KE.mk x2 x3.Epoch)).bind fun x21=>
 ifb x21 (
 (Zu8 x1.AK).bind fun x23=>
 (Zj4 16 x23 ([KE.mk x2 x3.Epoch])).bind fun x25=>
 (Z4f x25).bind fun x26=>
 (Z2c x26 187 x1.DK.DI.ID x1.DK.DI.PH x1.DK.TH x1.Book.Last x15.2 x9 x10 x14 x11 x12 x13).bind fun x27=>
 (Zil x1 x2 x3 x9 x10 x11 x12 x13 x14) (x27.1,x27.2)) (
 (Z6c 187 x1.DK.DI.ID x1.DK.DI.PH x1.DK.TH x1.Book.Last x15.2 x9 x10 x14 x11 x12 x13).bind fun x28=>
 (Zil x1 x2 x3 x9 x10 x11 x12 x13 x14) (x28.1,x28.2))) (
 ifb (decide (x3.Kind=6)) (
 (Z8a 1 x16 (node_node.mk (Node.mk (DK.mk (DI.mk x1.DK.DI.ID x1.DK.DI.PH x9) x1.DK.TH x10) (Book.mk x1.Book.Last x14) x11 x12 x13) (([]:List Mail)) (([]:List Event)) x15.2) x3).bind fun x35=>
 ifb x35 (
 (Zgd x1.Told x2).bind fun x37=>
 (Z2c x37 187 x1.DK.DI.ID x1.DK.DI.PH x1.DK.TH x1.Book.Last x15.2 x9 x10 x14 x11 x12 x13).bind fun x38=>
 (Zjl x1 x2 x9 x10 x11 x12 x13 x14 x16) (x38.1,x38.2)) (
 (Z6c 187 x1.DK.DI.ID x1.DK.DI.PH x1.DK.TH x1.Book.Last x15.2 x9 x10 x14 x11 x12 x13).bind fun x39=>
 (Zjl x1 x2 x9 x10 x11 x12 x13 x14 x16) (x39.1,x39.2))) (
 ifb (decide (x3.Kind=7)) (
 (Z8a 0 x16 (node_node.mk (Node.mk (DK.mk (DI.mk x1.DK.DI.ID x1.DK.DI.PH x9) x1.DK.TH x10) (Book.mk x1.Book.Last x14) x11 x12 x13) (([]:List Mail)) (([]:List Event)) x15.2) x3).bind fun x47=>
 ifb x47 (
 (Z2c (decide (x2<x1.DK.DI.ID)) 187 x1.DK.DI.ID x1.DK.DI.PH x1.DK.TH x1.Book.Last x15.2 x9 x10 x14 x11 x12 x13).bind fun x49=>
 (Zkl x1 x2 x9 x10 x11 x12 x13 x14) (x49.1,x49.2)) (
 (Z6c 187 x1.DK.DI.ID x1.DK.DI.PH x1.DK.TH x1.Book.Last x15.2 x9 x10 x14 x11 x12 x13).bind fun x50=>
 (Zkl x1 x2 x9 x10 x11 x12 x13 x14) (x50.1,x50.2))) (
 ifb (decide (x3.Kind=8)) (
 (Z8a 3 x16 (node_node.mk (Node.mk (DK.mk (DI.mk x1.DK.DI.ID x1.DK.DI.PH x9) x1.DK.TH x10) (Book.mk x1.Book.Last x14) x11 x12 x13) (([]:List Mail)) (([]:List Event)) x15.2) x3).bind fun x54=>
 (Z2c x54 187 x1.DK.DI.ID x1.DK.DI.PH x1.DK.TH x1.Book.Last x15.2 x9 x10 x14 x11 x12 x13).bind fun x56=>
 ifb x56.1 (
 (Z7g x2 x1.DK.DI.ID x1.DK.DI.PH x1.DK.TH x1.Book.Last x56.2 x9 x10 x14 x11 x12 x13).bind fun x57=>
 (Zac 8 x2 x1.DK.DI.ID x1.DK.DI.PH x1.DK.TH x1.Book.Last x56.2 x57 x10 x14 x11 x12 x13).bind fun x58=>
 (Zgl x11) (x1.DK.DI.ID,x1.DK.DI.PH,x1.DK.TH,x1.Book.Last,x14,x12,x56.2,x57,x10,x13,x58)) (
 (Zgl x11) (x1.DK.DI.ID,x1.DK.DI.PH,x1.DK.TH,x1.Book.Last,x14,x12,x56.2,x9,x10,x13,([]:List Event)))) (
 (Z6c 187 x1.DK.DI.ID x1.DK.DI.PH x1.DK.TH x1.Book.Last x15.2 x9 x10 x14 x11 x12 x13).bind fun x59=>
 (Zgl x11) (x1.DK.DI.ID,x1.DK.DI.PH,x1.DK.TH,x1.Book.Last,x14,x12,x59.2,x9,x10,x13,([]:List Event)))))))
def Zml (x1:Node) (x2:Int) (x3:Msg):(Int×List Side×List Int×List KE×List Int×List KE×List Sess)→Option (Node×List Mail×List Event×Int)
| (x8,x9,x10,x11,x12,x13,x14)=>
 (Z2c (decide (x3.Num=0)) 187 x1.DK.DI.ID x1.DK.DI.PH x1.DK.TH x1.Book.Last x8 x9 x10 x14 x11 x12 x13).bind fun x15=>
 (Z8c (node_node.mk (Node.mk (DK.mk (DI.mk x1.DK.DI.ID x1.DK.DI.PH x9) x1.DK.TH x10) (Book.mk x1.Book.Last x14) x11 x12 x13) (([]:List Mail)) (([]:List Event)) x15.2) x2).bind fun x16=>
 ifb (decide (x3.Kind=1)) (
 (Zll x1 x2 x3 x9 x10 x11 x12 x13 x14 x15 x16) (decide (x3.Kind=1))) (
 ifb (decide (x3.Kind=2)) (
 (Zll x1 x2 x3 x9 x10 x11 x12 x13 x14 x15 x16) (decide (x3.Kind=2))) (
 ifb (decide (x3.Kind=3)) (
 (Zll x1 x2 x3 x9 x10 x11 x12 x13 x14 x15 x16) (decide (x3.Kind=3))) (
 (Zll x1 x2 x3 x9 x10 x11 x12 x13 x14 x15 x16) (decide (x3.Kind=4)))))
def Znl (x1:Node) (x2:Int) (x3:Msg):Option (Node×List Mail×List Event×Int):=
 (Z8e x1).bind fun x4=>
 (Zkk x1).bind fun x6=>
 (Zml x1 x2 x3) (x6,x4.1,x4.2.1,x4.2.2.1,x4.2.2.2.1,x4.2.2.2.2.1,x4.2.2.2.2.2)
theorem k_node_Get (x1:Node) (x2:Int) (x3:Msg) (r:(Node×List Mail×List Event×Int)) (h:Znl x1 x2 x3=some r):Z03 Tryz.prog 13 [.agg (Node.row x1),.iv x2,.agg (Msg.row x3)] (.tup [.agg (Node.row r.1),Sp4 r.2.1,Sp5 r.2.2.1,.iv r.2.2.2]):=by
 refine FP ok13 fun w0 H0=>?_
 rw [Znl] at h
 refine Vg 10 ?_
 refine Zo4 (fun ((x8,x9,x10,x11,x12,x13,x14):(Int×List Side×List Int×List KE×List Int×List KE×List Sess))=>⟨(.any :: .iv x2 :: .any :: .ptr 0 0 :: .any :: .ptr 1 0 :: .ptr 2 0::an 3 (.ptr 4 0::an 159 [])),[some ⟨35,Node.row x1⟩,some ⟨41,Msg.row x3⟩,some ⟨35,[.iv 0,.iv 0,.nl,.iv 0,.nl,.iv 0,.nl,.nl,.nl,.nl]⟩,some ⟨81,[.iv x1.DK.DI.ID,.iv x1.DK.DI.PH,.osl 0,.iv x1.DK.TH,.osl 1,.iv x1.Book.Last,.osl 5,.osl 2,.osl 3,.osl 4,.nl,.nl,.iv x8]⟩,some ⟨79,[.ptr 3 0]⟩],[Sq6 x9,Sq7 x10,Sq8 x11,Sq7 x12,Sq8 x13,Sq9 x14]⟩) (Zml x1 x2 x3) r ?_ fun J1=>?_
 ·rintro ⟨x8,x9,x10,x11,x12,x13,x14⟩ h;rw [Zml] at h;(try dsimp only);refine Vg 6 ?_;have ⟨x15,ex15,h⟩:=Bs h;refine Z67 [3] [0,1,5,2,3,4] 5 6 (Z3c (decide (x3.Num=0)) 187 x1.DK.DI.ID x1.DK.DI.PH x1.DK.TH x1.Book.Last x8 x9 x10 x14 x11 x12 x13 _ ex15) ?_;refine Vg 5 ?_;have ⟨x16,ex16,h⟩:=Bs h
  refine VL (((((((LR.slice 0 rfl).slice 1 rfl).slice 2 rfl).slice 3 rfl).slice 4 rfl).slice 5 rfl).block 3 rfl rfl) (Z9c (node_node.mk (Node.mk (DK.mk (DI.mk x1.DK.DI.ID x1.DK.DI.PH x9) x1.DK.TH x10) (Book.mk x1.Book.Last x14) x11 x12 x13) (([]:List Mail)) (([]:List Event)) x15.2) x2 _ ex16) (Vg 21 ?_)
  refine Zo4 (fun (x17:Bool)=>⟨(.any :: .iv x2 :: .any :: .ptr 0 0 :: .any :: .ptr 1 0 :: .ptr 2 0::an 3 (.ptr 4 0 :: .ptr 5 0 :: .clo 40 [.ptr 5 0,.ptr 4 0,.ptr 1 0]::an 17 (.iv x3.Kind :: .any :: .any :: .bv x17::an 136 []))),[some ⟨35,Node.row x1⟩,some ⟨41,Msg.row x3⟩,some ⟨35,[.iv 0,.iv 0,.nl,.iv 0,.nl,.iv 0,.nl,.nl,.nl,.nl]⟩,some ⟨81,[.iv x1.DK.DI.ID,.iv x1.DK.DI.PH,.osl 0,.iv x1.DK.TH,.osl 1,.iv x1.Book.Last,.osl 5,.osl 2,.osl 3,.osl 4,.nl,.nl,.iv x15.2]⟩,some ⟨79,[.ptr 3 0]⟩,some ⟨3,[.iv x16]⟩],[Sq6 x9,Sq7 x10,Sq8 x11,Sq7 x12,Sq8 x13,Sq9 x14]⟩) (Zll x1 x2 x3 x9 x10 x11 x12 x13 x14 x15 x16) r ?_ fun J2=>?_
  ·intro x17 h;rw [Zll] at h;(try dsimp only)
   refine Zo4 (fun ((x60,x61,x62,x63,x64,x65,x66,x67,x68,x69,x70):(Int×Int×Int×Int×List Sess×List Int×Int×List Side×List Int×List KE×List Event))=>⟨an 6 (.ptr 2 0::an 3 (.ptr 4 0::an 159 [])),[none,none,some ⟨35,[.iv 0,.iv 0,.nl,.iv 0,.nl,.iv 0,.nl,.nl,.nl,.nl]⟩,some ⟨81,[.iv x60,.iv x61,.osl 0,.iv x62,.osl 1,.iv x63,Sp3 x64,.osl 2,Sp0 x65,.osl 4,.nl,.osl 6,.iv x66]⟩,some ⟨79,[.ptr 3 0]⟩],[Sq6 x67,Sq7 x68,Sq8 x11,none,Sq8 x69,none,Z97 x70]⟩) (Zgl x11) r ?_ fun J3=>?_
   ·rintro ⟨x60,x61,x62,x63,x64,x65,x66,x67,x68,x69,x70⟩ h;rw [Zgl] at h;(try dsimp only);refine Vg 4 ?_;have ⟨x71,ex71,h⟩:=Bs h;refine Z67 [3] [0,1,2,4,6] 5 7 (Z8l x60 x61 x62 x63 x64 x65 x66 x67 x68 x11 x69 x70 _ ex71) ?_;refine Vg 9 ?_;refine Z17 7 ?_;dsimp only[go_sem];refine Z17 8 ?_;dsimp only[go_sem]
    refine Z17 9 ?_;dsimp only[go_sem];refine Z17 10 ?_;dsimp only[go_sem];refine Z17 11 ?_;dsimp only[go_sem];refine Z17 12 ?_;dsimp only[go_sem];exact MD ok13 h
   ·refine MI h (fun h=>?_) fun h=>?_
    ·refine Vg 1 ?_
     refine Zo4 (fun (x19:Bool)=>⟨(.any :: .iv x2::an 3 (.ptr 1 0 :: .ptr 2 0::an 3 (.ptr 4 0::an 51 (.bv x19::an 107 [])))),[none,some ⟨41,Msg.row x3⟩,some ⟨35,[.iv 0,.iv 0,.nl,.iv 0,.nl,.iv 0,.nl,.nl,.nl,.nl]⟩,some ⟨81,[.iv x1.DK.DI.ID,.iv x1.DK.DI.PH,.osl 0,.iv x1.DK.TH,.osl 1,.iv x1.Book.Last,.osl 5,.osl 2,.osl 3,.osl 4,.nl,.nl,.iv x15.2]⟩,some ⟨79,[.ptr 3 0]⟩],[Sq6 x9,Sq7 x10,Sq8 x11,Sq7 x12,Sq8 x13,Sq9 x14]⟩) (Zhl x1 x2 x3 x9 x10 x11 x12 x13 x14 x15) r ?_ fun J4=>?_
     ·intro x19 h;rw [Zhl] at h;(try dsimp only);refine MI h (fun h=>?_) fun h=>?_
      ·refine Vg 4 ?_;have ⟨x20,ex20,h⟩:=Bs h;refine Z67 [3] [0,1,5,2,3,4] 5 6 (Zpk x2 x3 x1.DK.DI.ID x1.DK.DI.PH x1.DK.TH x1.Book.Last x15.2 x9 x10 x14 x11 x12 x13 _ ex20) ?_;refine Vg 1 ?_;refine Z17 5 ?_;dsimp only[go_sem];refine Z17 3 ?_;dsimp only[go_sem];refine Z27 3 11 57 5 ?_
       dsimp only[go_sem];refine Z37 65 8 ?_;dsimp only[go_sem];refine Z07 6 9 (Z07 8 6 ?_);dsimp only[go_sem];refine Z07 9 0 (Z07 7 1 ?_);dsimp only[go_sem];exact Zx4 J3 h
      ·refine Vg 1 ?_;refine Z17 5 ?_;dsimp only[go_sem];refine Z17 3 ?_;dsimp only[go_sem];refine Z27 3 11 57 5 ?_;dsimp only[go_sem];exact Zx4 J3 h
     ·refine Zz6 fun all H=>?_;dsimp only[go_sem];refine GE H.1 0 ?_;dsimp only[go_sem];refine GP H 5 19 [6,19] [(39,[.ptr 3 0,.ptr 3 12,.iv x15.2,.bv (decide (x15.2=0)),.bv (decide (x15.2=0))])] ?_;dsimp only[go_sem];refine Z25 43 h rfl (fun _ h=>?_) fun _ h=>?_
      ·dsimp only[go_sem];refine GP H 4 15 [10,15] [(44,[.iv x16,.bv (decide (0≤x16)),.bv (decide (0≤x16)),.bv (decide (0≤x16))])] ?_;dsimp only[go_sem];refine Z25 47 h rfl (fun _ h=>?_) fun _ h=>?_
       ·dsimp only[go_sem];refine GP H 3 12 [10,7,1,3,2,2] [(55,[.iv x16]),(3,[.ptr 1 1,.iv x3.Epoch])] ?_;dsimp only[go_sem];refine GE H.1 10 ?_;dsimp only[go_sem];refine GP H 5 6 [16,1,1,3,2,2] [(49,[.ptr 3 0,.ptr 3 0,.ptr 3 0,.ptr 3 0,.ptr 3 2])] ?_;dsimp only[go_sem];refine GE H.1 16 ?_;dsimp only[go_sem];have ⟨x18,ex18,h⟩:=Bs h;refine Z64 18 rfl ?_
        refine GI H.1 Side.row ex18 ?_;refine Gn H 1 3 ?_;refine Z64 20 rfl (GL H.1 Side.row ex18 ?_);refine Gn H 2 0 ?_;refine GD ?_;exact Zx4 J4 h
       ·dsimp only[go_sem];refine GP H 15 0 [25] [(48,[.un,.un,.un,.un,.un,.un,.un,.un,.un,.un,.un,.un,.un,.un,.ff])] ?_;dsimp only[go_sem];refine GD ?_;exact Zx4 J4 h
      ·dsimp only[go_sem];refine GP H 19 0 [25] [(44,[.un,.un,.ff,.ff,.un,.un,.un,.un,.un,.un,.un,.un,.un,.un,.un,.un,.un,.un,.ff])] ?_;dsimp only[go_sem];refine GD ?_;exact Zx4 J4 h
    ·refine Vg 5 ?_;refine MI h (fun h=>?_) fun h=>?_
     ·refine Vg 10 ?_
      refine Zo4 (fun ((x31,x32):(Bool×Int))=>⟨an 6 (.ptr 2 0::an 3 (.ptr 4 0 :: .any :: .any :: .ptr 6 0::an 72 (.bv x31::an 83 []))),[none,none,some ⟨35,[.iv 0,.iv 0,.nl,.iv 0,.nl,.iv 0,.nl,.nl,.nl,.nl]⟩,some ⟨81,[.iv x1.DK.DI.ID,.iv x1.DK.DI.PH,.osl 0,.iv x1.DK.TH,.osl 1,.iv x1.Book.Last,.osl 5,.osl 2,.osl 3,.osl 4,.nl,.nl,.iv x32]⟩,some ⟨79,[.ptr 3 0]⟩,none,some ⟨95,[.iv x2,.iv x3.Epoch]⟩],[Sq6 x9,Sq7 x10,Sq8 x11,Sq7 x12,Sq8 x13,Sq9 x14]⟩) (Zil x1 x2 x3 x9 x10 x11 x12 x13 x14) r ?_ fun J5=>?_
      ·rintro ⟨x31,x32⟩ h;rw [Zil] at h;(try dsimp only);refine MI h (fun h=>?_) fun h=>?_
       ·refine Zz6 fun all H=>?_;refine Gn H 1 12 ?_;refine Z84 0 1 7 rfl ?_ ?_ ?_
        ·refine GV H.1 ?_;dsimp only[go_sem];refine Z74 1 7 rfl ?_ ?_
         ·refine GV H.1 ?_;refine Gn H 3 7 ?_;refine Z74 5 7 rfl ?_ ?_
          ·refine GV H.1 ?_;dsimp only[go_sem];refine GE H.1 7 ?_;dsimp only[go_sem];refine Z64 8 rfl ?_;have ⟨x33,ex33,h⟩:=Bs h;refine GA KE.row ex33 H.1 ?_;refine Gn H 3 1 ?_;refine GE H.1 12 ?_;dsimp only[go_sem];refine GD (Z17 5 ?_);dsimp only[go_sem];refine Z17 3 ?_;dsimp only[go_sem];refine Z27 3 11 57 5 ?_
           dsimp only[go_sem];refine Z07 8 6 (Z07 7 4 ?_);dsimp only[go_sem];exact Zx4 J3 h
          ·refine GV H.1 ?_;dsimp only[go_sem];refine GE H.1 5 ?_;dsimp only[go_sem];refine Z64 8 rfl ?_;have ⟨x33,ex33,h⟩:=Bs h;refine GA KE.row ex33 H.1 ?_;refine Gn H 3 1 ?_;refine GE H.1 12 ?_;dsimp only[go_sem];refine GD (Z17 5 ?_);dsimp only[go_sem];refine Z17 3 ?_;dsimp only[go_sem];refine Z27 3 11 57 5 ?_
           dsimp only[go_sem];refine Z07 8 6 (Z07 7 4 ?_);dsimp only[go_sem];exact Zx4 J3 h
         ·refine GV H.1 ?_;dsimp only[go_sem];refine GE H.1 1 ?_;refine Gn H 3 6 ?_;refine GE H.1 5 ?_;dsimp only[go_sem];refine Z64 8 rfl ?_;have ⟨x33,ex33,h⟩:=Bs h;refine GA KE.row ex33 H.1 ?_;refine Gn H 3 1 ?_;refine GE H.1 12 ?_;dsimp only[go_sem]
          refine GD (Z17 5 ?_);dsimp only[go_sem];refine Z17 3 ?_;dsimp only[go_sem];refine Z27 3 11 57 5 ?_;dsimp only[go_sem];refine Z07 8 6 (Z07 7 4 ?_);dsimp only[go_sem];exact Zx4 J3 h
        ·refine GV H.1 ?_;refine Gn H 3 8 ?_;refine Z84 0 5 7 rfl ?_ ?_ ?_
         ·refine GV H.1 ?_;dsimp only[go_sem];refine Z74 5 7 rfl ?_ ?_
          ·refine GV H.1 ?_;dsimp only[go_sem];refine GE H.1 7 ?_;dsimp only[go_sem];refine Z64 8 rfl ?_;have ⟨x33,ex33,h⟩:=Bs h;refine GA KE.row ex33 H.1 ?_;refine Gn H 3 1 ?_;refine GE H.1 12 ?_;dsimp only[go_sem];refine GD (Z17 5 ?_);dsimp only[go_sem];refine Z17 3 ?_;dsimp only[go_sem];refine Z27 3 11 57 5 ?_
           dsimp only[go_sem];refine Z07 8 6 (Z07 7 4 ?_);dsimp only[go_sem];exact Zx4 J3 h
          ·refine GV H.1 ?_;dsimp only[go_sem];refine GE H.1 5 ?_;dsimp only[go_sem];refine Z64 8 rfl ?_;have ⟨x33,ex33,h⟩:=Bs h;refine GA KE.row ex33 H.1 ?_;refine Gn H 3 1 ?_;refine GE H.1 12 ?_;dsimp only[go_sem];refine GD (Z17 5 ?_);dsimp only[go_sem];refine Z17 3 ?_;dsimp only[go_sem];refine Z27 3 11 57 5 ?_
           dsimp only[go_sem];refine Z07 8 6 (Z07 7 4 ?_);dsimp only[go_sem];exact Zx4 J3 h
         ·refine GV H.1 ?_;dsimp only[go_sem];refine Z74 0 7 rfl ?_ ?_
          ·refine GV H.1 ?_;dsimp only[go_sem];refine GE H.1 7 ?_;dsimp only[go_sem];refine Z64 8 rfl ?_;have ⟨x33,ex33,h⟩:=Bs h;refine GA KE.row ex33 H.1 ?_;refine Gn H 3 1 ?_;refine GE H.1 12 ?_;dsimp only[go_sem];refine GD (Z17 5 ?_);dsimp only[go_sem];refine Z17 3 ?_;dsimp only[go_sem];refine Z27 3 11 57 5 ?_
           dsimp only[go_sem];refine Z07 8 6 (Z07 7 4 ?_);dsimp only[go_sem];exact Zx4 J3 h
          ·refine GV H.1 ?_;dsimp only[go_sem];have ⟨x33,ex33,h⟩:=Bs h;refine Z74 0 8 rfl ?_ ?_
           ·refine GV H.1 ?_;dsimp only[go_sem];refine Z64 8 rfl (GA KE.row ex33 H.1 ?_);refine Gn H 3 1 ?_;refine GE H.1 12 ?_;dsimp only[go_sem];refine GD (Z17 5 ?_);dsimp only[go_sem];refine Z17 3 ?_;dsimp only[go_sem];refine Z27 3 11 57 5 ?_;dsimp only[go_sem];refine Z07 8 6 (Z07 7 4 ?_)
            dsimp only[go_sem];exact Zx4 J3 h
           ·refine GA KE.row ex33 H.1 ?_;dsimp only[go_sem];refine GE H.1 0 ?_;refine Gn H 3 1 ?_;refine GE H.1 12 ?_;dsimp only[go_sem];refine GD (Z17 5 ?_);dsimp only[go_sem];refine Z17 3 ?_;dsimp only[go_sem];refine Z27 3 11 57 5 ?_;dsimp only[go_sem];refine Z07 8 6 (Z07 7 4 ?_)
            dsimp only[go_sem];exact Zx4 J3 h
         ·refine GV H.1 ?_;dsimp only[go_sem];refine Z74 0 5 rfl ?_ ?_
          ·refine GV H.1 ?_;dsimp only[go_sem];refine GE H.1 5 ?_;dsimp only[go_sem];refine Z64 8 rfl ?_;have ⟨x33,ex33,h⟩:=Bs h;refine GA KE.row ex33 H.1 ?_;refine Gn H 3 1 ?_;refine GE H.1 12 ?_;dsimp only[go_sem];refine GD (Z17 5 ?_);dsimp only[go_sem];refine Z17 3 ?_;dsimp only[go_sem];refine Z27 3 11 57 5 ?_
           dsimp only[go_sem];refine Z07 8 6 (Z07 7 4 ?_);dsimp only[go_sem];exact Zx4 J3 h
          ·refine GV H.1 ?_;dsimp only[go_sem];have ⟨x33,ex33,h⟩:=Bs h;refine Z74 0 8 rfl ?_ ?_
           ·refine GV H.1 ?_;dsimp only[go_sem];refine Z64 8 rfl (GA KE.row ex33 H.1 ?_);refine Gn H 3 1 ?_;refine GE H.1 12 ?_;dsimp only[go_sem];refine GD (Z17 5 ?_);dsimp only[go_sem];refine Z17 3 ?_;dsimp only[go_sem];refine Z27 3 11 57 5 ?_;dsimp only[go_sem];refine Z07 8 6 (Z07 7 4 ?_)
            dsimp only[go_sem];exact Zx4 J3 h
           ·refine GA KE.row ex33 H.1 ?_;dsimp only[go_sem];refine GE H.1 0 ?_;refine Gn H 3 1 ?_;refine GE H.1 12 ?_;dsimp only[go_sem];refine GD (Z17 5 ?_);dsimp only[go_sem];refine Z17 3 ?_;dsimp only[go_sem];refine Z27 3 11 57 5 ?_;dsimp only[go_sem];refine Z07 8 6 (Z07 7 4 ?_)
            dsimp only[go_sem];exact Zx4 J3 h
        ·refine GV H.1 ?_;dsimp only[go_sem];refine Z74 0 1 rfl ?_ ?_
         ·refine GV H.1 ?_;dsimp only[go_sem];refine GE H.1 1 ?_;refine Gn H 3 6 ?_;refine GE H.1 5 ?_;dsimp only[go_sem];refine Z64 8 rfl ?_;have ⟨x33,ex33,h⟩:=Bs h;refine GA KE.row ex33 H.1 ?_;refine Gn H 3 1 ?_;refine GE H.1 12 ?_;dsimp only[go_sem]
          refine GD (Z17 5 ?_);dsimp only[go_sem];refine Z17 3 ?_;dsimp only[go_sem];refine Z27 3 11 57 5 ?_;dsimp only[go_sem];refine Z07 8 6 (Z07 7 4 ?_);dsimp only[go_sem];exact Zx4 J3 h
         ·refine GV H.1 ?_;refine Gn H 3 7 ?_;refine Z74 0 5 rfl ?_ ?_
          ·refine GV H.1 ?_;dsimp only[go_sem];refine GE H.1 5 ?_;dsimp only[go_sem];refine Z64 8 rfl ?_;have ⟨x33,ex33,h⟩:=Bs h;refine GA KE.row ex33 H.1 ?_;refine Gn H 3 1 ?_;refine GE H.1 12 ?_;dsimp only[go_sem];refine GD (Z17 5 ?_);dsimp only[go_sem];refine Z17 3 ?_;dsimp only[go_sem];refine Z27 3 11 57 5 ?_
           dsimp only[go_sem];refine Z07 8 6 (Z07 7 4 ?_);dsimp only[go_sem];exact Zx4 J3 h
          ·refine GV H.1 ?_;dsimp only[go_sem];have ⟨x33,ex33,h⟩:=Bs h;refine Z74 0 8 rfl ?_ ?_
           ·refine GV H.1 ?_;dsimp only[go_sem];refine Z64 8 rfl (GA KE.row ex33 H.1 ?_);refine Gn H 3 1 ?_;refine GE H.1 12 ?_;dsimp only[go_sem];refine GD (Z17 5 ?_);dsimp only[go_sem];refine Z17 3 ?_;dsimp only[go_sem];refine Z27 3 11 57 5 ?_;dsimp only[go_sem];refine Z07 8 6 (Z07 7 4 ?_)
            dsimp only[go_sem];exact Zx4 J3 h
           ·refine GA KE.row ex33 H.1 ?_;dsimp only[go_sem];refine GE H.1 0 ?_;refine Gn H 3 1 ?_;refine GE H.1 12 ?_;dsimp only[go_sem];refine GD (Z17 5 ?_);dsimp only[go_sem];refine Z17 3 ?_;dsimp only[go_sem];refine Z27 3 11 57 5 ?_;dsimp only[go_sem];refine Z07 8 6 (Z07 7 4 ?_)
            dsimp only[go_sem];exact Zx4 J3 h
       ·refine Vg 1 ?_;refine Z17 5 ?_;dsimp only[go_sem];refine Z17 3 ?_;dsimp only[go_sem];refine Z27 3 11 57 5 ?_;dsimp only[go_sem];exact Zx4 J3 h
      ·refine Zz6 fun all H=>?_;refine Gn H 2 12 ?_;have ⟨x21,ex21,h⟩:=Bs h;refine Z74 0 3 rfl ?_ ?_
       ·refine GV H.1 ?_;dsimp only[go_sem];refine Z64 3 rfl (GC H.1 (Z1f x1 (KE.mk x2 x3.Epoch) _ ex21) ?_);refine Gn H 1 9 ?_;refine Z25 77 h rfl (fun _ h=>?_) fun _ h=>?_
        ·refine Gn H 3 6 ?_;have ⟨x23,ex23,h⟩:=Bs h;refine Z74 7 9 rfl ?_ ?_
         ·refine Z85 H.1 rfl trivial (Zv8 x1.AK _ ex23) (h:=?_);dsimp only[go_sem];refine GE H.1 9 ?_;dsimp only[go_sem];refine Z64 10 rfl ?_;have ⟨x25,ex25,h⟩:=Bs h;refine GA KE.row ex25 H.1 ?_;dsimp only[go_sem];refine Z64 11 rfl ?_;have ⟨x26,ex26,h⟩:=Bs h;refine GK H.1 (LR.slice 8 rfl) (Z5f x25 _ ex26) ?_;refine Gn H 1 1 ?_
          refine Z64 13 rfl ?_;have ⟨x27,ex27,h⟩:=Bs h;refine Z87 H.1 [3] [0,1,5,2,3,4] 7 9 (Z3c x26 187 x1.DK.DI.ID x1.DK.DI.PH x1.DK.TH x1.Book.Last x15.2 x9 x10 x14 x11 x12 x13 _ ex27) ?_;dsimp only[go_sem];refine GD ?_;exact Zx4 J5 h
         ·refine GV H.1 ?_;dsimp only[go_sem];refine Z64 7 rfl (Z85 H.1 rfl trivial (Zv8 x1.AK _ ex23) (h:=?_));dsimp only[go_sem];refine Z64 10 rfl ?_;have ⟨x25,ex25,h⟩:=Bs h;refine GA KE.row ex25 H.1 ?_;dsimp only[go_sem];refine Z64 11 rfl ?_;have ⟨x26,ex26,h⟩:=Bs h;refine GK H.1 (LR.slice 8 rfl) (Z5f x25 _ ex26) ?_;refine Gn H 1 1 ?_
          refine Z64 13 rfl ?_;have ⟨x27,ex27,h⟩:=Bs h;refine Z87 H.1 [3] [0,1,5,2,3,4] 7 9 (Z3c x26 187 x1.DK.DI.ID x1.DK.DI.PH x1.DK.TH x1.Book.Last x15.2 x9 x10 x14 x11 x12 x13 _ ex27) ?_;dsimp only[go_sem];refine GD ?_;exact Zx4 J5 h
        ·dsimp only[go_sem];refine GP H 8 1 [13,1] [(78,[.un,.un,.un,.un,.un,.un,.un,.ff])] ?_;dsimp only[go_sem];refine Z64 13 rfl ?_;have ⟨x28,ex28,h⟩:=Bs h;refine Z87 H.1 [3] [0,1,5,2,3,4] 7 6 (Z7c 187 x1.DK.DI.ID x1.DK.DI.PH x1.DK.TH x1.Book.Last x15.2 x9 x10 x14 x11 x12 x13 _ ex28) ?_;dsimp only[go_sem];refine GD ?_
         exact Zx4 J5 h
       ·refine GC H.1 (Z1f x1 (KE.mk x2 x3.Epoch) _ ex21) ?_;refine Gn H 1 10 ?_;refine Z25 77 h rfl (fun _ h=>?_) fun _ h=>?_
        ·refine Gn H 3 7 ?_;have ⟨x23,ex23,h⟩:=Bs h;refine Z84 0 7 9 rfl ?_ ?_ ?_
         ·refine GV H.1 ?_;dsimp only[go_sem];refine Z74 7 9 rfl ?_ ?_
          ·refine Z85 H.1 rfl trivial (Zv8 x1.AK _ ex23) (h:=?_);dsimp only[go_sem];refine GE H.1 9 ?_;dsimp only[go_sem];refine Z64 10 rfl ?_;have ⟨x25,ex25,h⟩:=Bs h;refine GA KE.row ex25 H.1 ?_;dsimp only[go_sem];refine Z64 11 rfl ?_;have ⟨x26,ex26,h⟩:=Bs h;refine GK H.1 (LR.slice 8 rfl) (Z5f x25 _ ex26) ?_;refine Gn H 1 1 ?_
           refine Z64 13 rfl ?_;have ⟨x27,ex27,h⟩:=Bs h;refine Z87 H.1 [3] [0,1,5,2,3,4] 7 9 (Z3c x26 187 x1.DK.DI.ID x1.DK.DI.PH x1.DK.TH x1.Book.Last x15.2 x9 x10 x14 x11 x12 x13 _ ex27) ?_;dsimp only[go_sem];refine GD ?_;exact Zx4 J5 h
          ·refine GV H.1 ?_;dsimp only[go_sem];refine Z64 7 rfl (Z85 H.1 rfl trivial (Zv8 x1.AK _ ex23) (h:=?_));dsimp only[go_sem];refine Z64 10 rfl ?_;have ⟨x25,ex25,h⟩:=Bs h;refine GA KE.row ex25 H.1 ?_;dsimp only[go_sem];refine Z64 11 rfl ?_;have ⟨x26,ex26,h⟩:=Bs h;refine GK H.1 (LR.slice 8 rfl) (Z5f x25 _ ex26) ?_;refine Gn H 1 1 ?_
           refine Z64 13 rfl ?_;have ⟨x27,ex27,h⟩:=Bs h;refine Z87 H.1 [3] [0,1,5,2,3,4] 7 9 (Z3c x26 187 x1.DK.DI.ID x1.DK.DI.PH x1.DK.TH x1.Book.Last x15.2 x9 x10 x14 x11 x12 x13 _ ex27) ?_;dsimp only[go_sem];refine GD ?_;exact Zx4 J5 h
         ·refine Z85 H.1 rfl trivial (Zv8 x1.AK _ ex23) (h:=?_);dsimp only[go_sem];refine Z74 0 9 rfl ?_ ?_
          ·refine GV H.1 ?_;dsimp only[go_sem];refine GE H.1 9 ?_;dsimp only[go_sem];refine Z64 10 rfl ?_;have ⟨x25,ex25,h⟩:=Bs h;refine GA KE.row ex25 H.1 ?_;dsimp only[go_sem];refine Z64 11 rfl ?_;have ⟨x26,ex26,h⟩:=Bs h;refine GK H.1 (LR.slice 8 rfl) (Z5f x25 _ ex26) ?_;refine Gn H 1 1 ?_;refine Z64 13 rfl ?_;have ⟨x27,ex27,h⟩:=Bs h
           refine Z87 H.1 [3] [0,1,5,2,3,4] 7 9 (Z3c x26 187 x1.DK.DI.ID x1.DK.DI.PH x1.DK.TH x1.Book.Last x15.2 x9 x10 x14 x11 x12 x13 _ ex27) ?_;dsimp only[go_sem];refine GD ?_;exact Zx4 J5 h
          ·refine GV H.1 ?_;dsimp only[go_sem];have ⟨x25,ex25,h⟩:=Bs h;refine Z74 0 10 rfl ?_ ?_
           ·refine GV H.1 ?_;dsimp only[go_sem];refine Z64 10 rfl (GA KE.row ex25 H.1 ?_);dsimp only[go_sem];refine Z64 11 rfl ?_;have ⟨x27,ex27,h⟩:=Bs h;refine GK H.1 (LR.slice 8 rfl) (Z5f x25 _ ex27) ?_;refine Gn H 1 1 ?_;refine Z64 13 rfl ?_;have ⟨x28,ex28,h⟩:=Bs h
            refine Z87 H.1 [3] [0,1,5,2,3,4] 7 9 (Z3c x27 187 x1.DK.DI.ID x1.DK.DI.PH x1.DK.TH x1.Book.Last x15.2 x9 x10 x14 x11 x12 x13 _ ex28) ?_;dsimp only[go_sem];refine GD ?_;exact Zx4 J5 h
           ·refine GA KE.row ex25 H.1 ?_;dsimp only[go_sem];have ⟨x27,ex27,h⟩:=Bs h;refine Z74 0 11 rfl ?_ ?_
            ·refine GV H.1 ?_;dsimp only[go_sem];refine Z64 11 rfl (GK H.1 (LR.slice 8 rfl) (Z5f x25 _ ex27) ?_);refine Gn H 1 1 ?_;refine Z64 13 rfl ?_;have ⟨x29,ex29,h⟩:=Bs h
             refine Z87 H.1 [3] [0,1,5,2,3,4] 7 9 (Z3c x27 187 x1.DK.DI.ID x1.DK.DI.PH x1.DK.TH x1.Book.Last x15.2 x9 x10 x14 x11 x12 x13 _ ex29) ?_;dsimp only[go_sem];refine GD ?_;exact Zx4 J5 h
            ·refine GK H.1 (LR.slice 8 rfl) (Z5f x25 _ ex27) ?_;refine Gn H 1 2 ?_;refine GE H.1 0 ?_;dsimp only[go_sem];refine Z64 13 rfl ?_;have ⟨x29,ex29,h⟩:=Bs h
             refine Z87 H.1 [3] [0,1,5,2,3,4] 7 9 (Z3c x27 187 x1.DK.DI.ID x1.DK.DI.PH x1.DK.TH x1.Book.Last x15.2 x9 x10 x14 x11 x12 x13 _ ex29) ?_;dsimp only[go_sem];refine GD ?_;exact Zx4 J5 h
         ·refine GV H.1 ?_;dsimp only[go_sem];refine Z74 0 7 rfl ?_ ?_
          ·refine GV H.1 ?_;dsimp only[go_sem];refine Z64 7 rfl (Z85 H.1 rfl trivial (Zv8 x1.AK _ ex23) (h:=?_));dsimp only[go_sem];refine Z64 10 rfl ?_;have ⟨x25,ex25,h⟩:=Bs h;refine GA KE.row ex25 H.1 ?_;dsimp only[go_sem];refine Z64 11 rfl ?_;have ⟨x26,ex26,h⟩:=Bs h;refine GK H.1 (LR.slice 8 rfl) (Z5f x25 _ ex26) ?_;refine Gn H 1 1 ?_
           refine Z64 13 rfl ?_;have ⟨x27,ex27,h⟩:=Bs h;refine Z87 H.1 [3] [0,1,5,2,3,4] 7 9 (Z3c x26 187 x1.DK.DI.ID x1.DK.DI.PH x1.DK.TH x1.Book.Last x15.2 x9 x10 x14 x11 x12 x13 _ ex27) ?_;dsimp only[go_sem];refine GD ?_;exact Zx4 J5 h
          ·refine Z85 H.1 rfl trivial (Zv8 x1.AK _ ex23) (h:=?_);dsimp only[go_sem];have ⟨x25,ex25,h⟩:=Bs h;refine Z74 0 10 rfl ?_ ?_
           ·refine GV H.1 ?_;dsimp only[go_sem];refine Z64 10 rfl (GA KE.row ex25 H.1 ?_);dsimp only[go_sem];refine Z64 11 rfl ?_;have ⟨x27,ex27,h⟩:=Bs h;refine GK H.1 (LR.slice 8 rfl) (Z5f x25 _ ex27) ?_;refine Gn H 1 1 ?_;refine Z64 13 rfl ?_;have ⟨x28,ex28,h⟩:=Bs h
            refine Z87 H.1 [3] [0,1,5,2,3,4] 7 9 (Z3c x27 187 x1.DK.DI.ID x1.DK.DI.PH x1.DK.TH x1.Book.Last x15.2 x9 x10 x14 x11 x12 x13 _ ex28) ?_;dsimp only[go_sem];refine GD ?_;exact Zx4 J5 h
           ·refine GA KE.row ex25 H.1 ?_;dsimp only[go_sem];have ⟨x27,ex27,h⟩:=Bs h;refine Z74 0 11 rfl ?_ ?_
            ·refine GV H.1 ?_;dsimp only[go_sem];refine Z64 11 rfl (GK H.1 (LR.slice 8 rfl) (Z5f x25 _ ex27) ?_);refine Gn H 1 1 ?_;refine Z64 13 rfl ?_;have ⟨x29,ex29,h⟩:=Bs h
             refine Z87 H.1 [3] [0,1,5,2,3,4] 7 9 (Z3c x27 187 x1.DK.DI.ID x1.DK.DI.PH x1.DK.TH x1.Book.Last x15.2 x9 x10 x14 x11 x12 x13 _ ex29) ?_;dsimp only[go_sem];refine GD ?_;exact Zx4 J5 h
            ·refine GK H.1 (LR.slice 8 rfl) (Z5f x25 _ ex27) ?_;refine Gn H 1 2 ?_;refine GE H.1 0 ?_;dsimp only[go_sem];refine Z64 13 rfl ?_;have ⟨x29,ex29,h⟩:=Bs h
             refine Z87 H.1 [3] [0,1,5,2,3,4] 7 9 (Z3c x27 187 x1.DK.DI.ID x1.DK.DI.PH x1.DK.TH x1.Book.Last x15.2 x9 x10 x14 x11 x12 x13 _ ex29) ?_;dsimp only[go_sem];refine GD ?_;exact Zx4 J5 h
        ·dsimp only[go_sem];refine GP H 8 2 [0,1,12,1] [(78,[.un,.un,.un,.un,.un,.un,.un,.ff])] ?_;dsimp only[go_sem];refine GE H.1 0 ?_;dsimp only[go_sem];refine Z64 13 rfl ?_;have ⟨x30,ex30,h⟩:=Bs h
         refine Z87 H.1 [3] [0,1,5,2,3,4] 7 6 (Z7c 187 x1.DK.DI.ID x1.DK.DI.PH x1.DK.TH x1.Book.Last x15.2 x9 x10 x14 x11 x12 x13 _ ex30) ?_;dsimp only[go_sem];refine GD ?_;exact Zx4 J5 h
     ·refine Vg 5 ?_;refine MI h (fun h=>?_) fun h=>?_
      ·refine Vg 1 ?_
       refine Zo4 (fun ((x41,x42):(Bool×Int))=>⟨(.any :: .iv x2::an 4 (.ptr 2 0::an 3 (.ptr 4 0 :: .ptr 5 0::an 98 (.bv x41::an 59 [])))),[none,none,some ⟨35,[.iv 0,.iv 0,.nl,.iv 0,.nl,.iv 0,.nl,.nl,.nl,.nl]⟩,some ⟨81,[.iv x1.DK.DI.ID,.iv x1.DK.DI.PH,.osl 0,.iv x1.DK.TH,.osl 1,.iv x1.Book.Last,.osl 5,.osl 2,.osl 3,.osl 4,.nl,.nl,.iv x42]⟩,some ⟨79,[.ptr 3 0]⟩,some ⟨3,[.iv x16]⟩],[Sq6 x9,Sq7 x10,Sq8 x11,Sq7 x12,Sq8 x13,Sq9 x14]⟩) (Zjl x1 x2 x9 x10 x11 x12 x13 x14 x16) r ?_ fun J6=>?_
       ·rintro ⟨x41,x42⟩ h;rw [Zjl] at h;(try dsimp only);refine MI h (fun h=>?_) fun h=>?_
        ·refine Vg 1 ?_;refine Zz6 fun all H=>?_;refine Gn H 1 10 ?_;refine GE H.1 0 ?_;refine Gn H 5 4 ?_;refine GE H.1 6 ?_;dsimp only[go_sem];have ⟨x43,ex43,h⟩:=Bs h;refine Z64 8 rfl (GI H.1 Side.row ex43 ?_);dsimp only[go_sem]
         refine Gn H 1 1 ?_;refine Z64 10 rfl (Zv5 H.1 [.iv 0] Side.row (y':=(Side.mk x43.Peer x43.Epoch 0 x43.Fork x43.DY x43.Token x43.BO x43.Ask)) ex43 rfl trivial rfl rfl rfl (by first | exact Zi4 _ | simp [go_sem]) rfl rfl rfl rfl ?_);dsimp only[go_sem];refine GD (Vg 1 ?_);refine Z17 3 ?_;dsimp only[go_sem];refine Zz6 fun all H=>?_;dsimp only[go_sem];refine GN H 1 11 ?_
         dsimp only[go_sem];refine An (Z74 0 1 rfl ?_ ?_)
         ·refine GV H.1 ?_;dsimp only[go_sem];refine GE H.1 1 ?_;refine Gn H 4 5 ?_;refine Z64 7 rfl ?_;have ⟨x44,ex44,h⟩:=Bs h;refine GC H.1 (Zkh x12 x2 _ ex44) ?_;refine Gn H 3 1 ?_;refine GE H.1 11 ?_;dsimp only[go_sem];refine GD (Vg 3 ?_)
          have ⟨x45,ex45,h⟩:=Bs h;refine Z67 [3] [0,1,5,2,4] 6 6 (Z1d 6 x2 x1.DK.DI.ID x1.DK.DI.PH x1.DK.TH x1.Book.Last x44 x42 (x9.set (Int.toNat (x16)) (Side.mk x43.Peer x43.Epoch 0 x43.Fork x43.DY x43.Token x43.BO x43.Ask)) x10 x14 x11 x13 _ ex45) ?_;refine Vg 1 ?_;refine Z17 5 ?_;dsimp only[go_sem];refine Z07 7 6 ?_
          dsimp only[go_sem];exact Zx4 J3 h
         ·refine GV H.1 ?_;refine Gn H 4 6 ?_;have ⟨x44,ex44,h⟩:=Bs h;refine Z74 0 7 rfl ?_ ?_
          ·refine GV H.1 ?_;dsimp only[go_sem];refine Z64 7 rfl (GC H.1 (Zkh x12 x2 _ ex44) ?_);refine Gn H 3 1 ?_;refine GE H.1 11 ?_;dsimp only[go_sem];refine GD (Vg 3 ?_);have ⟨x46,ex46,h⟩:=Bs h
           refine Z67 [3] [0,1,5,2,4] 6 6 (Z1d 6 x2 x1.DK.DI.ID x1.DK.DI.PH x1.DK.TH x1.Book.Last x44 x42 (x9.set (Int.toNat (x16)) (Side.mk x43.Peer x43.Epoch 0 x43.Fork x43.DY x43.Token x43.BO x43.Ask)) x10 x14 x11 x13 _ ex46) ?_;refine Vg 1 ?_;refine Z17 5 ?_;dsimp only[go_sem];refine Z07 7 6 ?_;dsimp only[go_sem]
           exact Zx4 J3 h
          ·refine GC H.1 (Zkh x12 x2 _ ex44) ?_;dsimp only[go_sem];refine GE H.1 0 ?_;refine Gn H 3 1 ?_;refine GE H.1 11 ?_;dsimp only[go_sem];refine GD (Vg 3 ?_);have ⟨x46,ex46,h⟩:=Bs h
           refine Z67 [3] [0,1,5,2,4] 6 6 (Z1d 6 x2 x1.DK.DI.ID x1.DK.DI.PH x1.DK.TH x1.Book.Last x44 x42 (x9.set (Int.toNat (x16)) (Side.mk x43.Peer x43.Epoch 0 x43.Fork x43.DY x43.Token x43.BO x43.Ask)) x10 x14 x11 x13 _ ex46) ?_;refine Vg 1 ?_;refine Z17 5 ?_;dsimp only[go_sem];refine Z07 7 6 ?_;dsimp only[go_sem]
           exact Zx4 J3 h
        ·refine Vg 1 ?_;refine Z17 5 ?_;dsimp only[go_sem];refine Z17 3 ?_;dsimp only[go_sem];refine Z27 3 11 57 5 ?_;dsimp only[go_sem];exact Zx4 J3 h
       ·refine Zz6 fun all H=>?_;refine Gn H 1 9 ?_;have ⟨x35,ex35,h⟩:=Bs h;refine Z74 0 2 rfl ?_ ?_
        ·refine GV H.1 ?_;dsimp only[go_sem];refine Z64 2 rfl (Zy4 H.1 rfl trivial ((((((((((LR.slice 0 rfl).slice 1 rfl).slice 2 rfl).slice 3 rfl).slice 4 rfl).slice 5 rfl).block 1 rfl rfl).block 3 rfl rfl).block 4 rfl rfl).block 5 rfl rfl) rfl (Z9a 1 x16 (node_node.mk (Node.mk (DK.mk (DI.mk x1.DK.DI.ID x1.DK.DI.PH x9) x1.DK.TH x10) (Book.mk x1.Book.Last x14) x11 x12 x13) (([]:List Mail)) (([]:List Event)) x15.2) x3 _ ex35) (by kernel_rfl) (h:=?_));dsimp only[go_sem]
         refine Gn H 1 6 ?_;refine Z25 104 h rfl (fun _ h=>?_) fun _ h=>?_
         ·refine Gn H 3 3 ?_;refine Z64 7 rfl ?_;have ⟨x37,ex37,h⟩:=Bs h;refine GC H.1 (Zhd x1.Told x2 _ ex37) ?_;refine Gn H 1 1 ?_;refine Z64 9 rfl ?_;have ⟨x38,ex38,h⟩:=Bs h
          refine Z87 H.1 [3] [0,1,5,2,3,4] 6 6 (Z3c x37 187 x1.DK.DI.ID x1.DK.DI.PH x1.DK.TH x1.Book.Last x15.2 x9 x10 x14 x11 x12 x13 _ ex38) ?_;dsimp only[go_sem];refine GD ?_;exact Zx4 J6 h
         ·refine Gn H 5 1 ?_;refine Z64 9 rfl ?_;have ⟨x39,ex39,h⟩:=Bs h;refine Z87 H.1 [3] [0,1,5,2,3,4] 6 6 (Z7c 187 x1.DK.DI.ID x1.DK.DI.PH x1.DK.TH x1.Book.Last x15.2 x9 x10 x14 x11 x12 x13 _ ex39) ?_;dsimp only[go_sem];refine GD ?_;exact Zx4 J6 h
        ·refine Zy4 H.1 rfl trivial ((((((((((LR.slice 0 rfl).slice 1 rfl).slice 2 rfl).slice 3 rfl).slice 4 rfl).slice 5 rfl).block 1 rfl rfl).block 3 rfl rfl).block 4 rfl rfl).block 5 rfl rfl) rfl (Z9a 1 x16 (node_node.mk (Node.mk (DK.mk (DI.mk x1.DK.DI.ID x1.DK.DI.PH x9) x1.DK.TH x10) (Book.mk x1.Book.Last x14) x11 x12 x13) (([]:List Mail)) (([]:List Event)) x15.2) x3 _ ex35) (by kernel_rfl) (h:=?_);refine Gn H 1 7 ?_
         refine Z25 104 h rfl (fun _ h=>?_) fun _ h=>?_
         ·refine Gn H 3 4 ?_;have ⟨x37,ex37,h⟩:=Bs h;refine Z74 0 7 rfl ?_ ?_
          ·refine GV H.1 ?_;dsimp only[go_sem];refine Z64 7 rfl (GC H.1 (Zhd x1.Told x2 _ ex37) ?_);refine Gn H 1 1 ?_;refine Z64 9 rfl ?_;have ⟨x39,ex39,h⟩:=Bs h
           refine Z87 H.1 [3] [0,1,5,2,3,4] 6 6 (Z3c x37 187 x1.DK.DI.ID x1.DK.DI.PH x1.DK.TH x1.Book.Last x15.2 x9 x10 x14 x11 x12 x13 _ ex39) ?_;dsimp only[go_sem];refine GD ?_;exact Zx4 J6 h
          ·refine GC H.1 (Zhd x1.Told x2 _ ex37) ?_;refine Gn H 1 2 ?_;refine GE H.1 0 ?_;dsimp only[go_sem];refine Z64 9 rfl ?_;have ⟨x39,ex39,h⟩:=Bs h
           refine Z87 H.1 [3] [0,1,5,2,3,4] 6 6 (Z3c x37 187 x1.DK.DI.ID x1.DK.DI.PH x1.DK.TH x1.Book.Last x15.2 x9 x10 x14 x11 x12 x13 _ ex39) ?_;dsimp only[go_sem];refine GD ?_;exact Zx4 J6 h
         ·refine Gn H 5 2 ?_;refine GE H.1 0 ?_;dsimp only[go_sem];refine Z64 9 rfl ?_;have ⟨x40,ex40,h⟩:=Bs h;refine Z87 H.1 [3] [0,1,5,2,3,4] 6 6 (Z7c 187 x1.DK.DI.ID x1.DK.DI.PH x1.DK.TH x1.Book.Last x15.2 x9 x10 x14 x11 x12 x13 _ ex40) ?_;dsimp only[go_sem];refine GD ?_
          exact Zx4 J6 h
      ·refine Vg 5 ?_;refine MI h (fun h=>?_) fun h=>?_
       ·refine Vg 1 ?_
        refine Zo4 (fun ((x51,x52):(Bool×Int))=>⟨(.any :: .iv x2::an 4 (.ptr 2 0::an 3 (.ptr 4 0::an 137 (.bv x51::an 21 [])))),[none,none,some ⟨35,[.iv 0,.iv 0,.nl,.iv 0,.nl,.iv 0,.nl,.nl,.nl,.nl]⟩,some ⟨81,[.iv x1.DK.DI.ID,.iv x1.DK.DI.PH,.osl 0,.iv x1.DK.TH,.osl 1,.iv x1.Book.Last,.osl 5,.osl 2,.osl 3,.osl 4,.nl,.nl,.iv x52]⟩,some ⟨79,[.ptr 3 0]⟩],[Sq6 x9,Sq7 x10,Sq8 x11,Sq7 x12,Sq8 x13,Sq9 x14]⟩) (Zkl x1 x2 x9 x10 x11 x12 x13 x14) r ?_ fun J7=>?_
        ·rintro ⟨x51,x52⟩ h;rw [Zkl] at h;(try dsimp only);refine MI h (fun h=>?_) fun h=>?_
         ·refine Vg 3 ?_;have ⟨x53,ex53,h⟩:=Bs h;refine Z67 [3] [0,1,5,2,3,4] 5 6 (Zdk x2 x1.DK.DI.ID x1.DK.DI.PH x1.DK.TH x1.Book.Last x52 x9 x10 x14 x11 x12 x13 _ ex53) ?_;refine Vg 1 ?_;refine Z17 3 ?_;dsimp only[go_sem];refine Z07 7 6 (Z07 8 0 ?_)
          dsimp only[go_sem];refine Z07 9 1 ?_;dsimp only[go_sem];exact Zx4 J3 h
         ·refine Vg 1 ?_;refine Z17 5 ?_;dsimp only[go_sem];refine Z17 3 ?_;dsimp only[go_sem];refine Z27 3 11 57 5 ?_;dsimp only[go_sem];exact Zx4 J3 h
        ·refine Zz6 fun all H=>?_;refine Gn H 1 11 ?_;have ⟨x47,ex47,h⟩:=Bs h;refine Z74 0 2 rfl ?_ ?_
         ·refine GV H.1 ?_;dsimp only[go_sem];refine Z64 2 rfl (Zy4 H.1 rfl trivial ((((((((((LR.slice 0 rfl).slice 1 rfl).slice 2 rfl).slice 3 rfl).slice 4 rfl).slice 5 rfl).block 1 rfl rfl).block 3 rfl rfl).block 4 rfl rfl).block 5 rfl rfl) rfl (Z9a 0 x16 (node_node.mk (Node.mk (DK.mk (DI.mk x1.DK.DI.ID x1.DK.DI.PH x9) x1.DK.TH x10) (Book.mk x1.Book.Last x14) x11 x12 x13) (([]:List Mail)) (([]:List Event)) x15.2) x3 _ ex47) (by kernel_rfl) (h:=?_));dsimp only[go_sem]
          refine Gn H 1 8 ?_;refine Z25 140 h rfl (fun _ h=>?_) fun _ h=>?_
          ·dsimp only[go_sem];refine GP H 7 1 [11,1] [(141,[.iv x2,.ptr 0 0,.ptr 0 0,.ptr 0 0,.iv x1.DK.DI.ID,.bv (decide (x2<x1.DK.DI.ID)),.bv (decide (x2<x1.DK.DI.ID))])] ?_;dsimp only[go_sem];refine Z64 11 rfl ?_;have ⟨x49,ex49,h⟩:=Bs h
           refine Z87 H.1 [3] [0,1,5,2,3,4] 6 6 (Z3c (decide (x2<x1.DK.DI.ID)) 187 x1.DK.DI.ID x1.DK.DI.PH x1.DK.TH x1.Book.Last x15.2 x9 x10 x14 x11 x12 x13 _ ex49) ?_;dsimp only[go_sem];refine GD ?_;exact Zx4 J7 h
          ·dsimp only[go_sem];refine GP H 7 1 [11,1] [(141,[.un,.un,.un,.un,.un,.un,.ff])] ?_;dsimp only[go_sem];refine Z64 11 rfl ?_;have ⟨x50,ex50,h⟩:=Bs h;refine Z87 H.1 [3] [0,1,5,2,3,4] 6 6 (Z7c 187 x1.DK.DI.ID x1.DK.DI.PH x1.DK.TH x1.Book.Last x15.2 x9 x10 x14 x11 x12 x13 _ ex50) ?_;dsimp only[go_sem];refine GD ?_
           exact Zx4 J7 h
         ·refine Zy4 H.1 rfl trivial ((((((((((LR.slice 0 rfl).slice 1 rfl).slice 2 rfl).slice 3 rfl).slice 4 rfl).slice 5 rfl).block 1 rfl rfl).block 3 rfl rfl).block 4 rfl rfl).block 5 rfl rfl) rfl (Z9a 0 x16 (node_node.mk (Node.mk (DK.mk (DI.mk x1.DK.DI.ID x1.DK.DI.PH x9) x1.DK.TH x10) (Book.mk x1.Book.Last x14) x11 x12 x13) (([]:List Mail)) (([]:List Event)) x15.2) x3 _ ex47) (by kernel_rfl) (h:=?_);refine Gn H 1 9 ?_
          refine Z25 140 h rfl (fun _ h=>?_) fun _ h=>?_
          ·dsimp only[go_sem];refine GP H 7 2 [0,1,10,1] [(141,[.iv x2,.ptr 0 0,.ptr 0 0,.ptr 0 0,.iv x1.DK.DI.ID,.bv (decide (x2<x1.DK.DI.ID)),.bv (decide (x2<x1.DK.DI.ID))])] ?_;dsimp only[go_sem];refine GE H.1 0 ?_;dsimp only[go_sem];refine Z64 11 rfl ?_;have ⟨x49,ex49,h⟩:=Bs h
           refine Z87 H.1 [3] [0,1,5,2,3,4] 6 6 (Z3c (decide (x2<x1.DK.DI.ID)) 187 x1.DK.DI.ID x1.DK.DI.PH x1.DK.TH x1.Book.Last x15.2 x9 x10 x14 x11 x12 x13 _ ex49) ?_;dsimp only[go_sem];refine GD ?_;exact Zx4 J7 h
          ·dsimp only[go_sem];refine GP H 7 2 [0,1,10,1] [(141,[.un,.un,.un,.un,.un,.un,.ff])] ?_;dsimp only[go_sem];refine GE H.1 0 ?_;dsimp only[go_sem];refine Z64 11 rfl ?_;have ⟨x50,ex50,h⟩:=Bs h
           refine Z87 H.1 [3] [0,1,5,2,3,4] 6 6 (Z7c 187 x1.DK.DI.ID x1.DK.DI.PH x1.DK.TH x1.Book.Last x15.2 x9 x10 x14 x11 x12 x13 _ ex50) ?_;dsimp only[go_sem];refine GD ?_;exact Zx4 J7 h
       ·refine Vg 5 ?_;refine MI h (fun h=>?_) fun h=>?_
        ·refine Vg 1 ?_;refine Zz6 fun all H=>?_;refine Gn H 1 3 ?_;have ⟨x54,ex54,h⟩:=Bs h;refine Z74 0 2 rfl ?_ ?_
         ·refine GV H.1 ?_;dsimp only[go_sem];refine Z64 2 rfl (Zy4 H.1 rfl trivial ((((((((((LR.slice 0 rfl).slice 1 rfl).slice 2 rfl).slice 3 rfl).slice 4 rfl).slice 5 rfl).block 1 rfl rfl).block 3 rfl rfl).block 4 rfl rfl).block 5 rfl rfl) rfl (Z9a 3 x16 (node_node.mk (Node.mk (DK.mk (DI.mk x1.DK.DI.ID x1.DK.DI.PH x9) x1.DK.TH x10) (Book.mk x1.Book.Last x14) x11 x12 x13) (([]:List Mail)) (([]:List Event)) x15.2) x3 _ ex54) (by kernel_rfl) (h:=?_));dsimp only[go_sem]
          refine Z64 3 rfl ?_;have ⟨x56,ex56,h⟩:=Bs h;refine Z87 H.1 [3] [0,1,5,2,3,4] 6 6 (Z3c x54 187 x1.DK.DI.ID x1.DK.DI.PH x1.DK.TH x1.Book.Last x15.2 x9 x10 x14 x11 x12 x13 _ ex56) ?_;dsimp only[go_sem];refine GD (MI h (fun h=>?_) fun h=>?_)
          ·refine Vg 4 ?_;have ⟨x57,ex57,h⟩:=Bs h;refine Z67 [3] [0,1,5,2,3,4] 6 6 (Z8g x2 x1.DK.DI.ID x1.DK.DI.PH x1.DK.TH x1.Book.Last x56.2 x9 x10 x14 x11 x12 x13 _ ex57) ?_;refine Vg 4 ?_;have ⟨x58,ex58,h⟩:=Bs h
           refine Z67 [3] [6,1,5,2,3,4] 6 7 (Zbc 8 x2 x1.DK.DI.ID x1.DK.DI.PH x1.DK.TH x1.Book.Last x56.2 x57 x10 x14 x11 x12 x13 _ ex58) ?_;refine Vg 1 ?_;refine Z17 5 ?_;dsimp only[go_sem];refine Z17 3 ?_;dsimp only[go_sem];refine Z37 65 8 ?_;dsimp only[go_sem];refine Z07 6 9 ?_;dsimp only[go_sem]
           refine Z07 8 6 (Z07 9 0 ?_);dsimp only[go_sem];exact Zx4 J3 h
          ·refine Vg 1 ?_;refine Z17 5 ?_;dsimp only[go_sem];refine Z17 3 ?_;dsimp only[go_sem];refine Z27 3 11 57 5 ?_;dsimp only[go_sem];exact Zx4 J3 h
         ·refine Zy4 H.1 rfl trivial ((((((((((LR.slice 0 rfl).slice 1 rfl).slice 2 rfl).slice 3 rfl).slice 4 rfl).slice 5 rfl).block 1 rfl rfl).block 3 rfl rfl).block 4 rfl rfl).block 5 rfl rfl) rfl (Z9a 3 x16 (node_node.mk (Node.mk (DK.mk (DI.mk x1.DK.DI.ID x1.DK.DI.PH x9) x1.DK.TH x10) (Book.mk x1.Book.Last x14) x11 x12 x13) (([]:List Mail)) (([]:List Event)) x15.2) x3 _ ex54) (by kernel_rfl) (h:=?_);dsimp only[go_sem];refine GE H.1 0 ?_;dsimp only[go_sem]
          refine Z64 3 rfl ?_;have ⟨x56,ex56,h⟩:=Bs h;refine Z87 H.1 [3] [0,1,5,2,3,4] 6 6 (Z3c x54 187 x1.DK.DI.ID x1.DK.DI.PH x1.DK.TH x1.Book.Last x15.2 x9 x10 x14 x11 x12 x13 _ ex56) ?_;dsimp only[go_sem];refine GD (MI h (fun h=>?_) fun h=>?_)
          ·refine Vg 4 ?_;have ⟨x57,ex57,h⟩:=Bs h;refine Z67 [3] [0,1,5,2,3,4] 6 6 (Z8g x2 x1.DK.DI.ID x1.DK.DI.PH x1.DK.TH x1.Book.Last x56.2 x9 x10 x14 x11 x12 x13 _ ex57) ?_;refine Vg 4 ?_;have ⟨x58,ex58,h⟩:=Bs h
           refine Z67 [3] [6,1,5,2,3,4] 6 7 (Zbc 8 x2 x1.DK.DI.ID x1.DK.DI.PH x1.DK.TH x1.Book.Last x56.2 x57 x10 x14 x11 x12 x13 _ ex58) ?_;refine Vg 1 ?_;refine Z17 5 ?_;dsimp only[go_sem];refine Z17 3 ?_;dsimp only[go_sem];refine Z37 65 8 ?_;dsimp only[go_sem];refine Z07 6 9 ?_;dsimp only[go_sem]
           refine Z07 8 6 (Z07 9 0 ?_);dsimp only[go_sem];exact Zx4 J3 h
          ·refine Vg 1 ?_;refine Z17 5 ?_;dsimp only[go_sem];refine Z17 3 ?_;dsimp only[go_sem];refine Z27 3 11 57 5 ?_;dsimp only[go_sem];exact Zx4 J3 h
        ·refine Vg 2 ?_;have ⟨x59,ex59,h⟩:=Bs h;refine Z67 [3] [0,1,5,2,3,4] 6 6 (Z7c 187 x1.DK.DI.ID x1.DK.DI.PH x1.DK.TH x1.Book.Last x15.2 x9 x10 x14 x11 x12 x13 _ ex59) ?_;refine Vg 1 ?_;refine Z17 5 ?_;dsimp only[go_sem];refine Z17 3 ?_;dsimp only[go_sem];refine Z27 3 11 57 5 ?_
         dsimp only[go_sem];exact Zx4 J3 h
  ·refine MI h (fun h=>?_) fun h=>?_
   ·refine Vg 1 ?_;exact Zx4 J2 h
   ·refine Vg 5 ?_;refine MI h (fun h=>?_) fun h=>?_
    ·refine Vg 1 ?_;exact Zx4 J2 h
    ·refine Vg 5 ?_;refine MI h (fun h=>?_) fun h=>?_
     ·refine Vg 1 ?_;exact Zx4 J2 h
     ·refine Vg 4 ?_;exact Zx4 J2 h
 ·refine Zz6 fun all H=>?_;refine Gn H 2 6 ?_;have ⟨x4,ex4,h⟩:=Bs h;refine Z74 1 6 rfl ?_ ?_
  ·refine Z77 H.1 [] [] 3 0 (Z9e x1 _ ex4) ?_;dsimp only[go_sem];have ⟨x6,ex6,h⟩:=Bs h;refine Z74 3 6 rfl ?_ ?_
   ·refine GC H.1 (Zlk x1 _ ex6) ?_;refine Gn H 1 3 ?_;refine Z74 5 6 rfl ?_ ?_
    ·refine GV H.1 ?_;dsimp only[go_sem];refine GE H.1 6 ?_;dsimp only[go_sem];refine GE H.1 7 ?_;dsimp only[go_sem];refine GD ?_;exact Zx4 J1 h
    ·refine GV H.1 ?_;dsimp only[go_sem];refine GE H.1 5 ?_;dsimp only[go_sem];refine GE H.1 7 ?_;dsimp only[go_sem];refine GD (V_swB 3 4 rfl rfl ?_);dsimp only[go_sem];exact Zx4 J1 h
   ·refine GV H.1 ?_;dsimp only[go_sem];refine Z64 3 rfl (GC H.1 (Zlk x1 _ ex6) ?_);refine Gn H 1 2 ?_;refine GE H.1 5 ?_;dsimp only[go_sem];refine GE H.1 7 ?_;dsimp only[go_sem];refine GD (V_swB 3 4 rfl rfl ?_);dsimp only[go_sem];exact Zx4 J1 h
  ·refine GV H.1 ?_;dsimp only[go_sem];refine Z64 1 rfl (Z77 H.1 [] [] 4 0 (Z9e x1 _ ex4) ?_);dsimp only[go_sem];refine Z64 3 rfl ?_;have ⟨x6,ex6,h⟩:=Bs h;refine GC H.1 (Zlk x1 _ ex6) ?_;refine Gn H 1 2 ?_;refine GE H.1 5 ?_;dsimp only[go_sem];refine GE H.1 7 ?_;dsimp only[go_sem]
   refine GD (V_swB 3 4 rfl rfl ?_);dsimp only[go_sem];exact Zx4 J1 h
end
end NX
end Go.Proofs.YtdjkbodnjhgbcaaGreat
