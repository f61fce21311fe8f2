/-
  The function (*narthex/node.node).place: its code compiled, a model, and that the code answers as the model. Written by a program of ours (lb.py). No statement of the seat is proved here.
-/
import Derived.Test.YtdjkbodnjhgbcaaGreatB15
import Derived.Test.YtdjkbodnjhgbcaaGreatB16
set_option maxRecDepth 100000
set_option maxHeartbeats 4000000
namespace Go.Proofs.YtdjkbodnjhgbcaaGreat
namespace NX
open Go
noncomputable section
@[go_sem] def e30:EC:=(by have h:=hF Tryz.f30;(conv at h=>rhs;reduce);dsimp only[go_sem] at h;exact ⟨_,h⟩:DP Tryz.f30).1
theorem ok30:FnOK Tryz.prog 30 Tryz.f30 e30 [.t 4] 2 12:=okA
def Z9c (x1:node_node) (x2:Int):Option Int:=
 (Zf7 x1.Node.DK.DI.SD ((fun z=>Zj9 z x2))).bind fun x3=>
 some x3
theorem Zac (x1:node_node) (x2:Int) (r:Int) (h:Z9c x1 x2=some r):Z03 Tryz.prog 30 [.elt (node_node.row x1) 0,.iv x2] (.iv r):=by
 refine FP ok30 fun w0 H0=>?_
 rw [Z9c] at h
 refine Zv2 15 ?_;dsimp only[go_sem];refine An ?_;have ⟨x3,ex3,h⟩:=Bs h;refine VL (LR.block 0 rfl rfl) (Zg7 x1.Node.DK.DI.SD _ _ ((fun z=>Zj9 z x2)) ⟨by kernel_rfl,rfl,fun z r hz=>Zk9 z x2 r hz⟩ _ ex3) (Zv2 2 ?_);dsimp only[go_sem];refine An ?_;exact Zw4 (res:=fun (r:Int)=>.iv r) ok30 h
@[go_sem] def e124:EC:=(by have h:=hF Tryz.f124;(conv at h=>rhs;reduce);dsimp only[go_sem] at h;exact ⟨_,h⟩:DP Tryz.f124).1
theorem ok124:FnOK Tryz.prog 124 Tryz.f124 e124 [.t 4] 2 40:=okA
def Zbc (x1 x2:Int) (x3 _x4:Int) (_x5 _x6 _x7:Int) (_x8:List Side) (_x9:List Int) (_x10:List Sess) (_x11:List KE) (_x12:List Int) (_x13:List KE):Option (List Event):=
 (Zj4 56 [] ([Event.mk x1 x3 0 x2 (([]:List Int))])).bind fun x14=>
 some x14
theorem Zcc (x1 x2:Int) (x3 x4:Int) (x5 x6 x7:Int) (x8:List Side) (x9:List Int) (x10:List Sess) (x11:List KE) (x12:List Int) (x13:List KE) (r:List Event) (h:Zbc x1 x2 x3 x4 x5 x6 x7 x8 x9 x10 x11 x12 x13=some r):Zr5 Tryz.prog 47 [.ptr 0 0,.iv x1,.iv x2] [some ⟨81,[.iv x3,.iv x4,.osl 0,.iv x5,.osl 1,.iv x6,.osl 2,.osl 3,.osl 4,.osl 5,.nl,.nl,.iv x7]⟩] [Sq6 x8,Sq7 x9,Sq9 x10,Sq8 x11,Sq7 x12,Sq8 x13] (.tup []) [some ⟨81,[.iv x3,.iv x4,.osl 0,.iv x5,.osl 1,.iv x6,.osl 2,.osl 3,.osl 4,.osl 5,.nl,.osl 7,.iv x7]⟩] [Sq6 x8,Sq7 x9,Sq9 x10,Sq8 x11,Sq7 x12,Sq8 x13,none,Za7 r]:=by
 refine FT ok47 fun w0 M0=>?_
 rw [Zbc] at h
 dsimp only[lun,List.cons_append,List.nil_append]
 refine Z07 fun all H=>?_;dsimp only[go_sem];refine GP H 14 6 [14,6] [(6,[.ptr 0 0,.ptr 0 0,.ptr 0 0,.ptr 0 11,.nl,.iv x1,.ptr 0 0,.ptr 0 0,.ptr 0 0,.ptr 0 0,.ptr 0 0,.ptr 0 0,.iv x3,.iv x2])] ?_;dsimp only[go_sem];refine Z64 14 rfl (Zy5 (.agg [.iv x1,.iv x3,.iv 0,.iv x2,Sp0 (([]:List Int))]) H.1 rfl trivial (by simp [go_sem]) ?_);dsimp only[go_sem];refine GE H.1 15 ?_;dsimp only[go_sem];refine Z64 16 rfl ?_
 have ⟨x14,ex14,h⟩:=Bs h;refine Zv4 Event.row ex14 H.1 rfl trivial rfl rfl ?_;dsimp only[go_sem];refine GN H 2 1 ?_;dsimp only[go_sem];refine An (GE H.1 19 ?_);dsimp only[go_sem];refine GD ?_;obtain rfl:=Option.some.inj h;exact Z67 ok47
def Zdc (_x1 _x2:Int) (_x3 _x4:Int) (x5:List Sess) (_x6:List Side) (_x7:List Int) (_x8:List KE) (_x9:List Int) (_x10:List KE):Option (Sess×Bool):=
 ifb (decide ((ln Sess.row x5)=0)) (
 some ((Sess.mk 0 (([]:List Int)) 0 0),false)) (
 (at_ x5 0).bind fun x11=>
 some (x11,true))
theorem Zec (x1 x2:Int) (x3 x4:Int) (x5:List Sess) (x6:List Side) (x7:List Int) (x8:List KE) (x9:List Int) (x10:List KE) (r:(Sess×Bool)) (h:Zdc x1 x2 x3 x4 x5 x6 x7 x8 x9 x10=some r):Zr5 Tryz.prog 76 [.agg [.iv x1,.iv x2,.osl 0,.iv x3,.osl 1,.iv x4,Sp3 x5,.osl 2,.osl 3,.osl 4]] [] [Sq6 x6,Sq7 x7,Sq8 x8,Sq7 x9,Sq8 x10] (.tup [.agg [.iv r.1.ID,Sp0 r.1.Need,.iv r.1.State,.iv r.1.Age],.bv r.2]) [] [Sq6 x6,Sq7 x7,Sq8 x8,Sq7 x9,Sq8 x10]:=by
 refine FT ok76 fun w0 M0=>?_
 rw [Zdc] at h
 dsimp only[lun,List.cons_append,List.nil_append]
 refine Zv2 15 ?_;dsimp only[go_sem];refine An (MI h (fun h=>?_) fun h=>?_)
 ·refine Zv2 6 ?_;dsimp only[go_sem];refine An ?_;obtain rfl:=Option.some.inj h;exact Z57 ok76
 ·refine Zv2 6 ?_;dsimp only[go_sem];refine An ?_;have ⟨x11,ex11,h⟩:=Bs h;refine Zs4 Sess.row ex11 trivial rfl rfl rfl (Zv2 4 ?_);dsimp only[go_sem];refine An ?_;obtain rfl:=Option.some.inj h;exact Z57 ok76
def Zfc (x1 x2:Int) (x3 _x4:Int) (_x5 _x6:Int) (_x7:List Sess) (_x8:Int) (_x9:List Side) (_x10:List Int) (_x11:List KE) (_x12:List Int) (_x13:List KE) (x14:List Event):Option (List Event):=
 (Zj4 56 x14 ([Event.mk x1 x3 x2 0 (([]:List Int))])).bind fun x15=>
 some x15
theorem Zgc (x1 x2:Int) (x3 x4:Int) (x5 x6:Int) (x7:List Sess) (x8:Int) (x9:List Side) (x10:List Int) (x11:List KE) (x12:List Int) (x13:List KE) (x14 r:List Event) (h:Zfc x1 x2 x3 x4 x5 x6 x7 x8 x9 x10 x11 x12 x13 x14=some r):Zr5 Tryz.prog 74 [.ptr 0 0,.iv x1,.iv x2] [some ⟨81,[.iv x3,.iv x4,.osl 0,.iv x5,.osl 1,.iv x6,Sp3 x7,.osl 2,.osl 3,.osl 4,.nl,.osl 5,.iv x8]⟩] [Sq6 x9,Sq7 x10,Sq8 x11,Sq7 x12,Sq8 x13,Za7 x14] (.tup []) [some ⟨81,[.iv x3,.iv x4,.osl 0,.iv x5,.osl 1,.iv x6,Sp3 x7,.osl 2,.osl 3,.osl 4,.nl,.osl 7,.iv x8]⟩] [Sq6 x9,Sq7 x10,Sq8 x11,Sq7 x12,Sq8 x13,none,none,Za7 r]:=by
 refine FT ok74 fun w0 M0=>?_
 rw [Zfc] at h
 dsimp only[lun,List.cons_append,List.nil_append]
 refine Z07 fun all H=>?_;dsimp only[go_sem];refine GP H 13 7 [4,1,9,6] [(6,[.ptr 0 0,.ptr 0 0,.ptr 0 0,.ptr 0 11]),(1,[.iv x1,.ptr 0 0,.ptr 0 0,.ptr 0 0,.ptr 0 0,.ptr 0 0,.ptr 0 0,.iv x3,.iv x2])] ?_;dsimp only[go_sem];refine Z74 4 14 rfl ?_ ?_
 ·refine GV H.1 ?_;dsimp only[go_sem];refine Z64 14 rfl (Zy5 (.agg [.iv x1,.iv x3,.iv x2,.iv 0,Sp0 (([]:List Int))]) H.1 rfl trivial (by simp [go_sem]) ?_);dsimp only[go_sem];refine GE H.1 15 ?_;dsimp only[go_sem];refine Z64 16 rfl ?_;have ⟨x15,ex15,h⟩:=Bs h;refine GA Event.row ex15 H.1 ?_;dsimp only[go_sem];refine GN H 2 1 ?_;dsimp only[go_sem];refine An (GE H.1 19 ?_)
  dsimp only[go_sem];refine GD ?_;obtain rfl:=Option.some.inj h;exact Z67 ok74
 ·refine Zy5 (.agg [.iv x1,.iv x3,.iv x2,.iv 0,Sp0 (([]:List Int))]) H.1 rfl trivial (by simp [go_sem]) ?_;dsimp only[go_sem];refine Z74 4 15 rfl ?_ ?_
  ·refine GV H.1 ?_;dsimp only[go_sem];refine GE H.1 15 ?_;dsimp only[go_sem];refine Z64 16 rfl ?_;have ⟨x15,ex15,h⟩:=Bs h;refine GA Event.row ex15 H.1 ?_;dsimp only[go_sem];refine GN H 2 1 ?_;dsimp only[go_sem];refine An (GE H.1 19 ?_);dsimp only[go_sem];refine GD ?_;obtain rfl:=Option.some.inj h;exact Z67 ok74
  ·refine GV H.1 ?_;dsimp only[go_sem];refine GE H.1 4 ?_;dsimp only[go_sem];refine Z64 16 rfl ?_;have ⟨x15,ex15,h⟩:=Bs h;refine GA Event.row ex15 H.1 ?_;dsimp only[go_sem];refine GN H 2 1 ?_;dsimp only[go_sem];refine An (GE H.1 19 ?_);dsimp only[go_sem];refine GD ?_;obtain rfl:=Option.some.inj h;exact Z67 ok74
@[go_sem] def e93:EC:=(by have h:=hF Tryz.f93;(conv at h=>rhs;reduce);dsimp only[go_sem] at h;exact ⟨_,h⟩:DP Tryz.f93).1
theorem ok93:FnOK Tryz.prog 93 Tryz.f93 e93 [.t 4] 2 40:=okA
@[go_sem] def e112:EC:=(by have h:=hF Tryz.f112;(conv at h=>rhs;reduce);dsimp only[go_sem] at h;exact ⟨_,h⟩:DP Tryz.f112).1
theorem ok112:FnOK Tryz.prog 112 Tryz.f112 e112 [.t 4] 2 29:=okA
def Zhc:Bool→Option Bool
| x4=>
 some x4
def Zic (x1 x2:Sess):Option Bool:=
 ifb (decide (x1.ID=x2.ID)) (
 ifb (decide (x1.State=x2.State)) (
 ifb (decide (x1.Age=x2.Age)) (
 (Zt8 x1.Need x2.Need).bind fun x3=>
 Zhc x3) (
 Zhc false)) (
 Zhc false)) (
 Zhc false)
theorem k_sess_Same_1 (x1 x2:Sess) (r:Bool) (h:Zic x1 x2=some r):Z03 Tryz.prog 112 [.agg (Sess.row x1),.agg (Sess.row x2)] (.bv r):=by
 refine FP ok112 fun w0 H0=>?_
 rw [Zic] at h
 refine Zv2 14 ?_;dsimp only[go_sem];refine An (Zo4 (fun (x4:Bool)=>(⟨an 4 (.bv x4::an 26 []),[],[]⟩:St)) Zhc r ?_ fun J1=>?_)
 ·intro x4 h;rw [Zhc] at h;(try dsimp only);exact Zw4 (res:=fun (r:Bool)=>.bv r) ok112 h
 ·refine MC 10 h (fun h=>?_) fun h=>?_
  ·dsimp only[go_sem];refine Zv2 7 ?_;dsimp only[go_sem];refine An (MC 17 h (fun h=>?_) fun h=>?_)
   ·dsimp only[go_sem];refine Zv2 7 ?_;dsimp only[go_sem];refine An (MC 24 h (fun h=>?_) fun h=>?_)
    ·dsimp only[go_sem];refine Zv2 4 ?_;dsimp only[go_sem];refine An ?_;have ⟨x3,ex3,h⟩:=Bs h;refine VC (Zu8 x1.Need x2.Need _ ex3) (Zv2 3 ?_);dsimp only[go_sem];refine An ?_;exact Zy4 J1 (s:=x3) h
    ·dsimp only[go_sem];refine Zv2 8 ?_;dsimp only[go_sem];refine An ?_;exact Zy4 J1 (s:=false) h
   ·dsimp only[go_sem];refine Zv2 15 ?_;dsimp only[go_sem];refine An ?_;exact Zy4 J1 (s:=false) h
  ·dsimp only[go_sem];refine Zv2 22 ?_;dsimp only[go_sem];refine An ?_;exact Zy4 J1 (s:=false) h
theorem Zjc (l r:List KE) (h:Zv8 l=some r):
  Zr5 Tryz.prog 44 [.osl 0] [] [some ⟨95,2,l.map KE.row⟩] (.osl 1) [] [some ⟨95,2,l.map KE.row⟩,some ⟨95,2,r.map KE.row⟩]:=by
 unfold Zv8 at h
 refine FT ok44 fun w0 M0=>?_
 dsimp only[lun,List.cons_append,List.nil_append]
 refine Zv2 100 ?_
 dsimp only[go_sem]
 refine An ?_
 refine V_isnilO trivial rfl rfl (fun hn=>?_) ?_
 ·refine Zv2 100 ?_
  dsimp only[go_sem]
  refine An ?_
  refine Zf4 2 95 2 rfl rfl ?_
  dsimp only[go_sem]
  have hn:l=[]:=by simpa using hn
  subst hn
  obtain rfl:r=[]:=by simpa [Zj4] using h.symm
  exact Z57 ok44
 ·refine Zv2 100 ?_
  dsimp only[go_sem]
  refine An ?_
  refine Zu4 KE.row (l':=[]) h trivial rfl rfl rfl ?_
  refine Zv2 100 ?_
  dsimp only[go_sem]
  refine An ?_
  refine Z17 2 1 ?_
  dsimp only[go_sem]
  exact Z57 ok44
def Zkc (_x1 _x2:Int) (_x3 _x4:Int) (x5:List Sess) (_x6:List Int) (_x7:List Side) (_x8:List Int) (_x9 _x10:List KE):Option (Sess×Bool):=
 ifb (decide ((ln Sess.row x5)=0)) (
 some ((Sess.mk 0 (([]:List Int)) 0 0),false)) (
 (at_ x5 0).bind fun x11=>
 some (x11,true))
theorem Zlc (x1 x2:Int) (x3 x4:Int) (x5:List Sess) (x6:List Int) (x7:List Side) (x8:List Int) (x9 x10:List KE) (r:(Sess×Bool)) (h:Zkc x1 x2 x3 x4 x5 x6 x7 x8 x9 x10=some r):Zr5 Tryz.prog 76 [.agg [.iv x1,.iv x2,.osl 0,.iv x3,.osl 1,.iv x4,Sp3 x5,.osl 2,Sp0 x6,.osl 3]] [] [Sq6 x7,Sq7 x8,Sq8 x9,Sq8 x10] (.tup [.agg [.iv r.1.ID,Sp0 r.1.Need,.iv r.1.State,.iv r.1.Age],.bv r.2]) [] [Sq6 x7,Sq7 x8,Sq8 x9,Sq8 x10]:=by
 refine FT ok76 fun w0 M0=>?_
 rw [Zkc] at h
 dsimp only[lun,List.cons_append,List.nil_append]
 refine Zv2 15 ?_;dsimp only[go_sem];refine An (MI h (fun h=>?_) fun h=>?_)
 ·refine Zv2 6 ?_;dsimp only[go_sem];refine An ?_;obtain rfl:=Option.some.inj h;exact Z57 ok76
 ·refine Zv2 6 ?_;dsimp only[go_sem];refine An ?_;have ⟨x11,ex11,h⟩:=Bs h;refine Zs4 Sess.row ex11 trivial rfl rfl rfl (Zv2 4 ?_);dsimp only[go_sem];refine An ?_;obtain rfl:=Option.some.inj h;exact Z57 ok76
def Zmc (x1:Side) (x2:Int) (x3 _x4 _x5:Int) (_x6:List Side) (_x7:List Int) (x8:List Mail):Option (List Mail):=
 (Zj4 40 x8 ([Mail.mk x3 x1.Peer (Msg.mk x2 x1.Epoch 0)])).bind fun x9=>
 some x9
theorem Znc (x1:Side) (x2:Int) (x3 x4 x5:Int) (x6:List Side) (x7:List Int) (x8 r:List Mail) (h:Zmc x1 x2 x3 x4 x5 x6 x7 x8=some r):Zr5 Tryz.prog 185 [.ptr 0 0,.agg (Side.row x1),.iv x2] [some ⟨178,[.iv x3,.iv x4,.osl 0,.iv x5,.osl 1,.osl 2]⟩] [Sq6 x6,Sq7 x7,Zb7 x8] (.tup []) [some ⟨178,[.iv x3,.iv x4,.osl 0,.iv x5,.osl 1,.osl 4]⟩] [Sq6 x6,Sq7 x7,none,none,Zb7 r]:=by
 refine FT ok185 fun w0 M0=>?_
 rw [Zmc] at h
 dsimp only[lun,List.cons_append,List.nil_append]
 refine Zv2 4 ?_;dsimp only[go_sem];refine An (Z07 fun all H=>?_);dsimp only[go_sem];refine GP H 17 6 [4,1,13,5] [(6,[.ptr 0 0,.ptr 0 0,.ptr 0 0,.ptr 0 5]),(1,[.ptr 0 0,.ptr 0 0,.ptr 0 0,.ptr 0 0,.ptr 0 0,.iv x3,.ptr 1 0,.iv x1.Peer,.iv x2,.ptr 1 1,.iv x1.Epoch,.agg [.iv x2,.iv x1.Epoch,.iv 0],.agg [.iv x3,.iv x1.Peer,.iv x2,.iv x1.Epoch,.iv 0]])] ?_;dsimp only[go_sem];refine Z74 4 18 rfl ?_ ?_
 ·refine GV H.1 ?_;dsimp only[go_sem];refine GE H.1 18 ?_;dsimp only[go_sem];refine Z64 19 rfl ?_;have ⟨x9,ex9,h⟩:=Bs h;refine GA Mail.row ex9 H.1 ?_;dsimp only[go_sem];refine GN H 2 1 ?_;dsimp only[go_sem];refine An (GE H.1 22 ?_);dsimp only[go_sem];refine GD ?_;obtain rfl:=Option.some.inj h;exact Z67 ok185
 ·refine GV H.1 ?_;dsimp only[go_sem];refine GE H.1 4 ?_;dsimp only[go_sem];refine Z64 19 rfl ?_;have ⟨x9,ex9,h⟩:=Bs h;refine GA Mail.row ex9 H.1 ?_;dsimp only[go_sem];refine GN H 2 1 ?_;dsimp only[go_sem];refine An (GE H.1 22 ?_);dsimp only[go_sem];refine GD ?_;obtain rfl:=Option.some.inj h;exact Z67 ok185
def Zoc (x1 x2:Int) (x3 _x4:Int) (_x5 _x6:Int) (_x7:List Sess) (_x8:List Int) (_x9:Int) (_x10:List Side) (_x11:List Int) (_x12 _x13:List KE) (_x14:List Mail) (x15:List Event):Option (List Event):=
 (Zj4 56 x15 ([Event.mk x1 x3 x2 0 (([]:List Int))])).bind fun x16=>
 some x16
theorem Zpc (x1 x2:Int) (x3 x4:Int) (x5 x6:Int) (x7:List Sess) (x8:List Int) (x9:Int) (x10:List Side) (x11:List Int) (x12 x13:List KE) (x14:List Mail) (x15 r:List Event) (h:Zoc x1 x2 x3 x4 x5 x6 x7 x8 x9 x10 x11 x12 x13 x14 x15=some r):Zr5 Tryz.prog 74 [.ptr 0 0,.iv x1,.iv x2] [some ⟨81,[.iv x3,.iv x4,.osl 0,.iv x5,.osl 1,.iv x6,Sp3 x7,.osl 2,Sp0 x8,.osl 3,.osl 4,.osl 5,.iv x9]⟩] [Sq6 x10,Sq7 x11,Sq8 x12,Sq8 x13,Zb7 x14,Za7 x15] (.tup []) [some ⟨81,[.iv x3,.iv x4,.osl 0,.iv x5,.osl 1,.iv x6,Sp3 x7,.osl 2,Sp0 x8,.osl 3,.osl 4,.osl 7,.iv x9]⟩] [Sq6 x10,Sq7 x11,Sq8 x12,Sq8 x13,Zb7 x14,none,none,Za7 r]:=by
 refine FT ok74 fun w0 M0=>?_
 rw [Zoc] at h
 dsimp only[lun,List.cons_append,List.nil_append]
 refine Z07 fun all H=>?_;dsimp only[go_sem];refine GP H 13 7 [4,1,9,6] [(6,[.ptr 0 0,.ptr 0 0,.ptr 0 0,.ptr 0 11]),(1,[.iv x1,.ptr 0 0,.ptr 0 0,.ptr 0 0,.ptr 0 0,.ptr 0 0,.ptr 0 0,.iv x3,.iv x2])] ?_;dsimp only[go_sem];refine Z74 4 14 rfl ?_ ?_
 ·refine GV H.1 ?_;dsimp only[go_sem];refine Z64 14 rfl (Zy5 (.agg [.iv x1,.iv x3,.iv x2,.iv 0,Sp0 (([]:List Int))]) H.1 rfl trivial (by simp [go_sem]) ?_);dsimp only[go_sem];refine GE H.1 15 ?_;dsimp only[go_sem];refine Z64 16 rfl ?_;have ⟨x16,ex16,h⟩:=Bs h;refine GA Event.row ex16 H.1 ?_;dsimp only[go_sem];refine GN H 2 1 ?_;dsimp only[go_sem];refine An (GE H.1 19 ?_)
  dsimp only[go_sem];refine GD ?_;obtain rfl:=Option.some.inj h;exact Z67 ok74
 ·refine Zy5 (.agg [.iv x1,.iv x3,.iv x2,.iv 0,Sp0 (([]:List Int))]) H.1 rfl trivial (by simp [go_sem]) ?_;dsimp only[go_sem];refine Z74 4 15 rfl ?_ ?_
  ·refine GV H.1 ?_;dsimp only[go_sem];refine GE H.1 15 ?_;dsimp only[go_sem];refine Z64 16 rfl ?_;have ⟨x16,ex16,h⟩:=Bs h;refine GA Event.row ex16 H.1 ?_;dsimp only[go_sem];refine GN H 2 1 ?_;dsimp only[go_sem];refine An (GE H.1 19 ?_);dsimp only[go_sem];refine GD ?_;obtain rfl:=Option.some.inj h;exact Z67 ok74
  ·refine GV H.1 ?_;dsimp only[go_sem];refine GE H.1 4 ?_;dsimp only[go_sem];refine Z64 16 rfl ?_;have ⟨x16,ex16,h⟩:=Bs h;refine GA Event.row ex16 H.1 ?_;dsimp only[go_sem];refine GN H 2 1 ?_;dsimp only[go_sem];refine An (GE H.1 19 ?_);dsimp only[go_sem];refine GD ?_;obtain rfl:=Option.some.inj h;exact Z67 ok74
def Zqc (x1:Side) (x2:Int) (x3 _x4:Int) (_x5 _x6:Int) (_x7:List Sess) (_x8:List Int) (_x9:Int) (_x10:List Side) (_x11:List Int) (_x12 _x13:List KE) (x14:List Mail) (_x15:List Event):Option (List Mail):=
 (Zj4 40 x14 ([Mail.mk x3 x1.Peer (Msg.mk x2 x1.Epoch 0)])).bind fun x16=>
 some x16
theorem Zrc (x1:Side) (x2:Int) (x3 x4:Int) (x5 x6:Int) (x7:List Sess) (x8:List Int) (x9:Int) (x10:List Side) (x11:List Int) (x12 x13:List KE) (x14:List Mail) (x15:List Event) (r:List Mail) (h:Zqc x1 x2 x3 x4 x5 x6 x7 x8 x9 x10 x11 x12 x13 x14 x15=some r):Zr5 Tryz.prog 153 [.ptr 0 0,.agg (Side.row x1),.iv x2] [some ⟨81,[.iv x3,.iv x4,.osl 0,.iv x5,.osl 1,.iv x6,Sp3 x7,.osl 2,Sp0 x8,.osl 3,.osl 4,.osl 5,.iv x9]⟩] [Sq6 x10,Sq7 x11,Sq8 x12,Sq8 x13,Zb7 x14,Za7 x15] (.tup []) [some ⟨81,[.iv x3,.iv x4,.osl 0,.iv x5,.osl 1,.iv x6,Sp3 x7,.osl 2,Sp0 x8,.osl 3,.osl 7,.osl 5,.iv x9]⟩] [Sq6 x10,Sq7 x11,Sq8 x12,Sq8 x13,none,Za7 x15,none,Zb7 r]:=by
 refine FT ok153 fun w0 M0=>?_
 rw [Zqc] at h
 dsimp only[lun,List.cons_append,List.nil_append]
 refine Zv2 4 ?_;dsimp only[go_sem];refine An (Z07 fun all H=>?_);dsimp only[go_sem];refine GP H 18 6 [4,1,14,5] [(6,[.ptr 0 0,.ptr 0 0,.ptr 0 0,.ptr 0 10]),(1,[.ptr 0 0,.ptr 0 0,.ptr 0 0,.ptr 0 0,.ptr 0 0,.ptr 0 0,.iv x3,.ptr 1 0,.iv x1.Peer,.iv x2,.ptr 1 1,.iv x1.Epoch,.agg [.iv x2,.iv x1.Epoch,.iv 0],.agg [.iv x3,.iv x1.Peer,.iv x2,.iv x1.Epoch,.iv 0]])] ?_;dsimp only[go_sem];refine Z74 4 19 rfl ?_ ?_
 ·refine GV H.1 ?_;dsimp only[go_sem];refine GE H.1 19 ?_;dsimp only[go_sem];refine Z64 20 rfl ?_;have ⟨x16,ex16,h⟩:=Bs h;refine GA Mail.row ex16 H.1 ?_;dsimp only[go_sem];refine GN H 2 1 ?_;dsimp only[go_sem];refine An (GE H.1 23 ?_);dsimp only[go_sem];refine GD ?_;obtain rfl:=Option.some.inj h;exact Z67 ok153
 ·refine GV H.1 ?_;dsimp only[go_sem];refine GE H.1 4 ?_;dsimp only[go_sem];refine Z64 20 rfl ?_;have ⟨x16,ex16,h⟩:=Bs h;refine GA Mail.row ex16 H.1 ?_;dsimp only[go_sem];refine GN H 2 1 ?_;dsimp only[go_sem];refine An (GE H.1 23 ?_);dsimp only[go_sem];refine GD ?_;obtain rfl:=Option.some.inj h;exact Z67 ok153
def Zsc (x1 x2:Int) (x3 _x4:Int) (_x5 _x6:Int) (_x7:List Sess) (_x8:List Int) (_x9:Int) (_x10:List Side) (_x11:List Int) (_x12 _x13:List KE) (_x14:List Mail) (x15:List Event):Option (List Event):=
 (Zj4 56 x15 ([Event.mk x1 x3 0 x2 (([]:List Int))])).bind fun x16=>
 some x16
theorem Ztc (x1 x2:Int) (x3 x4:Int) (x5 x6:Int) (x7:List Sess) (x8:List Int) (x9:Int) (x10:List Side) (x11:List Int) (x12 x13:List KE) (x14:List Mail) (x15 r:List Event) (h:Zsc x1 x2 x3 x4 x5 x6 x7 x8 x9 x10 x11 x12 x13 x14 x15=some r):Zr5 Tryz.prog 47 [.ptr 0 0,.iv x1,.iv x2] [some ⟨81,[.iv x3,.iv x4,.osl 0,.iv x5,.osl 1,.iv x6,Sp3 x7,.osl 2,Sp0 x8,.osl 3,.osl 4,.osl 5,.iv x9]⟩] [Sq6 x10,Sq7 x11,Sq8 x12,Sq8 x13,Zb7 x14,Za7 x15] (.tup []) [some ⟨81,[.iv x3,.iv x4,.osl 0,.iv x5,.osl 1,.iv x6,Sp3 x7,.osl 2,Sp0 x8,.osl 3,.osl 4,.osl 7,.iv x9]⟩] [Sq6 x10,Sq7 x11,Sq8 x12,Sq8 x13,Zb7 x14,none,none,Za7 r]:=by
 refine FT ok47 fun w0 M0=>?_
 rw [Zsc] at h
 dsimp only[lun,List.cons_append,List.nil_append]
 refine Z07 fun all H=>?_;dsimp only[go_sem];refine GP H 13 7 [4,1,9,6] [(6,[.ptr 0 0,.ptr 0 0,.ptr 0 0,.ptr 0 11]),(1,[.iv x1,.ptr 0 0,.ptr 0 0,.ptr 0 0,.ptr 0 0,.ptr 0 0,.ptr 0 0,.iv x3,.iv x2])] ?_;dsimp only[go_sem];refine Z74 4 14 rfl ?_ ?_
 ·refine GV H.1 ?_;dsimp only[go_sem];refine Z64 14 rfl (Zy5 (.agg [.iv x1,.iv x3,.iv 0,.iv x2,Sp0 (([]:List Int))]) H.1 rfl trivial (by simp [go_sem]) ?_);dsimp only[go_sem];refine GE H.1 15 ?_;dsimp only[go_sem];refine Z64 16 rfl ?_;have ⟨x16,ex16,h⟩:=Bs h;refine GA Event.row ex16 H.1 ?_;dsimp only[go_sem];refine GN H 2 1 ?_;dsimp only[go_sem];refine An (GE H.1 19 ?_)
  dsimp only[go_sem];refine GD ?_;obtain rfl:=Option.some.inj h;exact Z67 ok47
 ·refine Zy5 (.agg [.iv x1,.iv x3,.iv 0,.iv x2,Sp0 (([]:List Int))]) H.1 rfl trivial (by simp [go_sem]) ?_;dsimp only[go_sem];refine Z74 4 15 rfl ?_ ?_
  ·refine GV H.1 ?_;dsimp only[go_sem];refine GE H.1 15 ?_;dsimp only[go_sem];refine Z64 16 rfl ?_;have ⟨x16,ex16,h⟩:=Bs h;refine GA Event.row ex16 H.1 ?_;dsimp only[go_sem];refine GN H 2 1 ?_;dsimp only[go_sem];refine An (GE H.1 19 ?_);dsimp only[go_sem];refine GD ?_;obtain rfl:=Option.some.inj h;exact Z67 ok47
  ·refine GV H.1 ?_;dsimp only[go_sem];refine GE H.1 4 ?_;dsimp only[go_sem];refine Z64 16 rfl ?_;have ⟨x16,ex16,h⟩:=Bs h;refine GA Event.row ex16 H.1 ?_;dsimp only[go_sem];refine GN H 2 1 ?_;dsimp only[go_sem];refine An (GE H.1 19 ?_);dsimp only[go_sem];refine GD ?_;obtain rfl:=Option.some.inj h;exact Z67 ok47
def Zuc:Bool→Option Bool
| x3=>
 some (!x3)
def Zvc (x1:KE) (x2:Int):Option Bool:=
 ifb (decide (x2<x1.Peer)) (
 ifb (decide (x1.Peer<64)) (
 ifb (decide (1≤x1.Epoch)) (
 Zuc (decide (x1.Epoch≤65535))) (
 Zuc false)) (
 Zuc false)) (
 Zuc false)
theorem Zwc (x1:KE) (x2:Int) (r:Bool) (h:Zvc x1 x2=some r):Zr5 Tryz.prog 102 [.agg (KE.row x1),.ptr 0 0] [some ⟨3,[.iv x2]⟩] [] (.bv r) [some ⟨3,[.iv x1.Peer]⟩] []:=by
 refine FT ok102 fun w0 M0=>?_
 rw [Zvc] at h
 dsimp only[lun,List.cons_append,List.nil_append]
 refine Zv2 12 ?_;dsimp only[go_sem];refine An (Zo4 (fun (x3:Bool)=>(⟨(.any :: .ptr 0 0 :: .ptr 1 0 :: .any :: .bv x3::an 23 []),[some ⟨3,[.iv x2]⟩,some ⟨95,KE.row x1⟩],[]⟩:St)) Zuc r ?_ fun J1=>?_)
 ·intro x3 h;rw [Zuc] at h;(try dsimp only);refine Zv2 12 ?_;dsimp only[go_sem];refine An ?_;obtain rfl:=Option.some.inj h;exact Z57 ok102
 ·refine MC 9 h (fun h=>?_) fun h=>?_
  ·dsimp only[go_sem];refine Zv2 5 ?_;dsimp only[go_sem];refine An (MC 14 h (fun h=>?_) fun h=>?_)
   ·dsimp only[go_sem];refine Zv2 5 ?_;dsimp only[go_sem];refine An (MC 19 h (fun h=>?_) fun h=>?_)
    ·dsimp only[go_sem];refine Zv2 6 ?_;dsimp only[go_sem];refine An ?_;exact Zy4 J1 (s:=decide (x1.Epoch≤65535)) h
    ·dsimp only[go_sem];refine Zv2 6 ?_;dsimp only[go_sem];refine An ?_;exact Zy4 J1 (s:=false) h
   ·dsimp only[go_sem];refine Zv2 11 ?_;dsimp only[go_sem];refine An ?_;exact Zy4 J1 (s:=false) h
  ·dsimp only[go_sem];refine Zv2 16 ?_;dsimp only[go_sem];refine An ?_;exact Zy4 J1 (s:=false) h
@[go_sem] def e101:EC:=(by have h:=hF Tryz.f101;(conv at h=>rhs;reduce);dsimp only[go_sem] at h;exact ⟨_,h⟩:DP Tryz.f101).1
theorem ok101:FnOK Tryz.prog 101 Tryz.f101 e101 [.t 3] 2 40:=okA
def Zxc:Bool→Option Bool
| x5=>
 some x5
def Zyc (x1:Side) (x2:Node):Bool→Option Bool
| x3=>
 ifb (decide (64≤x1.Peer)) (
 Zxc true) (
 ifb (decide (x1.Epoch<1)) (
 Zxc true) (
 (Zz9 x2 x1.Peer).bind fun x4=>
 ifb (!decide (x4=x1.Epoch)) (
 Zxc true) (
 ifb x3 (
 Zxc (decide (x1.Peer<x2.DK.DI.ID))) (
 Zxc false))))
def Zzc (x1:Side) (x2:Node):Option Bool:=
 ifb (decide (x1.State=1)) (
 (Zyc x1 x2) true) (
 (Zyc x1 x2) (decide (x1.State=3)))
theorem Z0d (x1:Side) (x2:Node) (r:Bool) (h:Zzc x1 x2=some r):Z03 Tryz.prog 101 [.agg (Side.row x1),.elt (Node.row x2) 0] (.bv r):=by
 refine FP ok101 fun w0 H0=>?_
 rw [Zzc] at h
 refine Zv2 11 ?_;dsimp only[go_sem];refine An ?_
 refine Zo4 (fun (x3:Bool)=>(⟨(.any :: .elt (Node.row x2) 0 :: .ptr 0 0 :: .any :: .bv x3::an 37 []),[some ⟨65,Side.row x1⟩],[]⟩:St)) (Zyc x1 x2) r ?_ fun J1=>?_
 ·intro x3 h;rw [Zyc] at h;(try dsimp only);refine Zv2 1 ?_;dsimp only[go_sem];refine An (Zo4 (fun (x5:Bool)=>(⟨an 3 (.bv x5::an 38 []),[],[]⟩:St)) Zxc r ?_ fun J2=>?_)
  ·intro x5 h;rw [Zxc] at h;(try dsimp only);exact Zw4 (res:=fun (r:Bool)=>.bv r) ok101 h
  ·refine Z07 fun all H=>?_;dsimp only[go_sem];refine GP H 4 26 [4,26] [(13,[.ptr 0 0,.iv x1.Peer,.bv (decide (64≤x1.Peer)),.bv (decide (64≤x1.Peer))])] ?_;dsimp only[go_sem];refine Z35 16 h rfl (fun _ h=>?_) fun _ h=>?_
   ·dsimp only[go_sem];refine GP H 26 0 [30] [(3,[.tt]),(13,[.un,.un,.un,.tt,.tt,.un,.un,.un,.un,.un,.un,.un,.tt,.tt,.un,.un,.un,.un,.un,.un,.un,.un,.un,.un,.tt])] ?_;dsimp only[go_sem];refine GD ?_;exact Zy4 J2 (s:=true) h
   ·dsimp only[go_sem];refine GP H 5 21 [9,21] [(17,[.ptr 0 1,.iv x1.Epoch,.bv (decide (x1.Epoch<1)),.bv (decide (x1.Epoch<1)),.bv (decide (x1.Epoch<1))])] ?_;dsimp only[go_sem];refine Z35 21 h rfl (fun _ h=>?_) fun _ h=>?_
    ·dsimp only[go_sem];refine GP H 21 0 [30] [(3,[.tt]),(18,[.un,.un,.un,.un,.un,.un,.un,.tt,.tt,.un,.un,.un,.un,.un,.un,.un,.un,.un,.un,.tt])] ?_;dsimp only[go_sem];refine GD ?_;exact Zy4 J2 (s:=true) h
    ·dsimp only[go_sem];refine GP H 5 16 [12,1,2,15] [(22,[.agg (Node.row x2),.ptr 0 0,.iv x1.Peer]),(1,[.ptr 0 1,.iv x1.Epoch])] ?_;dsimp only[go_sem];refine Z64 12 rfl ?_;have ⟨x4,ex4,h⟩:=Bs h
     refine GC H.1 (Z0a x2 x1.Peer _ ex4) ?_;dsimp only[go_sem];refine GP H 3 12 [18,12] [(28,[.bv (!decide (x4=x1.Epoch)),.bv (!decide (x4=x1.Epoch)),.bv (!decide (x4=x1.Epoch))])] ?_;dsimp only[go_sem];refine Z35 30 h rfl (fun _ h=>?_) fun _ h=>?_
     ·dsimp only[go_sem];refine GP H 12 0 [30] [(3,[.tt]),(27,[.un,.un,.un,.un,.un,.un,.un,.un,.un,.un,.tt])] ?_;dsimp only[go_sem];refine GD ?_;exact Zy4 J2 (s:=true) h
     ·dsimp only[go_sem];refine GN H 2 10 ?_;dsimp only[go_sem];refine An (Z35 32 h rfl (fun _ h=>?_) fun _ h=>?_)
      ·dsimp only[go_sem]
       refine GP H 10 0 [30] [(3,[.bv (decide (x1.Peer<x2.DK.DI.ID))]),(29,[.ptr 0 0,.iv x1.Peer,.elt (Node.row x2) 0,.elt (Node.row x2) 0,.elt (Node.row x2) 0,.iv x2.DK.DI.ID,.bv (decide (x1.Peer<x2.DK.DI.ID)),.bv (decide (x1.Peer<x2.DK.DI.ID)),.bv (decide (x1.Peer<x2.DK.DI.ID))])] ?_
       dsimp only[go_sem];refine GD ?_;exact Zy4 J2 (s:=decide (x1.Peer<x2.DK.DI.ID)) h
      ·dsimp only[go_sem];refine GP H 10 0 [30] [(3,[.ff]),(29,[.un,.un,.un,.un,.un,.un,.un,.ff,.ff])] ?_;dsimp only[go_sem];refine GD ?_;exact Zy4 J2 (s:=false) h
 ·refine MC 8 h (fun h=>?_) fun h=>?_
  ·dsimp only[go_sem];refine Zv2 6 ?_;dsimp only[go_sem];refine An ?_;exact Zy4 J1 (s:=true) h
  ·dsimp only[go_sem];refine Zv2 6 ?_;dsimp only[go_sem];refine An ?_;exact Zy4 J1 (s:=decide (x1.State=3)) h
def Z1d (x1 x2:Int) (x3 _x4:Int) (_x5 _x6:Int) (_x7:List Int) (_x8:Int) (_x9:List Side) (_x10:List Int) (_x11:List Sess) (_x12 _x13:List KE):Option (List Event):=
 (Zj4 56 [] ([Event.mk x1 x3 0 x2 (([]:List Int))])).bind fun x14=>
 some x14
theorem Z2d (x1 x2:Int) (x3 x4:Int) (x5 x6:Int) (x7:List Int) (x8:Int) (x9:List Side) (x10:List Int) (x11:List Sess) (x12 x13:List KE) (r:List Event) (h:Z1d x1 x2 x3 x4 x5 x6 x7 x8 x9 x10 x11 x12 x13=some r):Zr5 Tryz.prog 47 [.ptr 0 0,.iv x1,.iv x2] [some ⟨81,[.iv x3,.iv x4,.osl 0,.iv x5,.osl 1,.iv x6,.osl 2,.osl 3,Sp0 x7,.osl 4,.nl,.nl,.iv x8]⟩] [Sq6 x9,Sq7 x10,Sq9 x11,Sq8 x12,Sq8 x13] (.tup []) [some ⟨81,[.iv x3,.iv x4,.osl 0,.iv x5,.osl 1,.iv x6,.osl 2,.osl 3,Sp0 x7,.osl 4,.nl,.osl 6,.iv x8]⟩] [Sq6 x9,Sq7 x10,Sq9 x11,Sq8 x12,Sq8 x13,none,Za7 r]:=by
 refine FT ok47 fun w0 M0=>?_
 rw [Z1d] at h
 dsimp only[lun,List.cons_append,List.nil_append]
 refine Z07 fun all H=>?_;dsimp only[go_sem];refine GP H 14 6 [14,6] [(6,[.ptr 0 0,.ptr 0 0,.ptr 0 0,.ptr 0 11,.nl,.iv x1,.ptr 0 0,.ptr 0 0,.ptr 0 0,.ptr 0 0,.ptr 0 0,.ptr 0 0,.iv x3,.iv x2])] ?_;dsimp only[go_sem];refine Z64 14 rfl (Zy5 (.agg [.iv x1,.iv x3,.iv 0,.iv x2,Sp0 (([]:List Int))]) H.1 rfl trivial (by simp [go_sem]) ?_);dsimp only[go_sem];refine GE H.1 15 ?_;dsimp only[go_sem];refine Z64 16 rfl ?_
 have ⟨x14,ex14,h⟩:=Bs h;refine Zv4 Event.row ex14 H.1 rfl trivial rfl rfl ?_;dsimp only[go_sem];refine GN H 2 1 ?_;dsimp only[go_sem];refine An (GE H.1 19 ?_);dsimp only[go_sem];refine GD ?_;obtain rfl:=Option.some.inj h;exact Z67 ok47
@[go_sem] def e38:EC:=(by have h:=hF Tryz.f38;(conv at h=>rhs;reduce);dsimp only[go_sem] at h;exact ⟨_,h⟩:DP Tryz.f38).1
theorem ok38:FnOK Tryz.prog 38 Tryz.f38 e38 [.c 2 (some 5)] 1 12:=okA
def Z3d (x1:DK):Option DK:=
 (Zba x1.DI).bind fun x2=>
 (Zj4 8 (([]:List Int)) x1.Need).bind fun x3=>
 some (DK.mk x2 x1.TH x3)
theorem Z4d (x1 r:DK) (h:Z3d x1=some r):Z03 Tryz.prog 38 [.agg (DK.row x1)] (.agg (DK.row r)):=by
 refine FP ok38 fun w0 H0=>?_
 rw [Z3d] at h
 refine Zv2 9 ?_;dsimp only[go_sem];refine An ?_;have ⟨x2,ex2,h⟩:=Bs h;refine VC (Zca x1.DI _ ex2) (Zv2 8 ?_);dsimp only[go_sem];refine An ?_;have ⟨x3,ex3,h⟩:=Bs h;refine Zu4 Z15 ex3 trivial rfl rfl rfl (Zv2 8 ?_);dsimp only[go_sem];refine An (Z27 1 ?_);dsimp only[go_sem];exact Zw4 (res:=fun (r:DK)=>.agg (DK.row r)) ok38 h
@[go_sem] def e10:EC:=(by have h:=hF Tryz.f10;(conv at h=>rhs;reduce);dsimp only[go_sem] at h;exact ⟨_,h⟩:DP Tryz.f10).1
theorem ok10:FnOK Tryz.prog 10 Tryz.f10 e10 [.t 2] 1 38:=okA
def Z5d:Bool→Option Bool
| x3=>
 some x3
def Z6d (x1:Node):Option Bool:=
 ifb (decide ((ln Side.row x1.DK.DI.SD)≤70)) (
 ifb (decide ((ln Z15 x1.DK.Need)≤70)) (
 ifb (decide ((ln KE.row x1.KN)≤70)) (
 ifb (decide ((ln Z15 x1.Told)≤70)) (
 ifb (decide ((ln KE.row x1.AK)≤70)) (
 (Zka x1.Book).bind fun x2=>
 Z5d x2) (
 Z5d false)) (
 Z5d false)) (
 Z5d false)) (
 Z5d false)) (
 Z5d false)
theorem k_narthexref18_Few (x1:Node) (r:Bool) (h:Z6d x1=some r):Z03 Tryz.prog 10 [.agg (Node.row x1)] (.bv r):=by
 refine FP ok10 fun w0 H0=>?_
 rw [Z6d] at h
 refine Zv2 14 ?_;dsimp only[go_sem];refine An (Zo4 (fun (x3:Bool)=>(⟨(.any :: .any :: .bv x3::an 36 []),[],[]⟩:St)) Z5d r ?_ fun J1=>?_)
 ·intro x3 h;rw [Z5d] at h;(try dsimp only);exact Zw4 (res:=fun (r:Bool)=>.bv r) ok10 h
 ·refine MC 9 h (fun h=>?_) fun h=>?_
  ·dsimp only[go_sem];refine Zv2 7 ?_;dsimp only[go_sem];refine An (MC 16 h (fun h=>?_) fun h=>?_)
   ·dsimp only[go_sem];refine Zv2 6 ?_;dsimp only[go_sem];refine An (MC 22 h (fun h=>?_) fun h=>?_)
    ·dsimp only[go_sem];refine Zv2 6 ?_;dsimp only[go_sem];refine An (MC 28 h (fun h=>?_) fun h=>?_)
     ·dsimp only[go_sem];refine Zv2 6 ?_;dsimp only[go_sem];refine An (MC 34 h (fun h=>?_) fun h=>?_)
      ·dsimp only[go_sem];refine Zv2 2 ?_;dsimp only[go_sem];refine An ?_;have ⟨x2,ex2,h⟩:=Bs h;refine VC (Zla x1.Book _ ex2) (Zv2 3 ?_);dsimp only[go_sem];refine An ?_;exact Zy4 J1 (s:=x2) h
      ·dsimp only[go_sem];refine Zv2 6 ?_;dsimp only[go_sem];refine An ?_;exact Zy4 J1 (s:=false) h
     ·dsimp only[go_sem];refine Zv2 12 ?_;dsimp only[go_sem];refine An ?_;exact Zy4 J1 (s:=false) h
    ·dsimp only[go_sem];refine Zv2 18 ?_;dsimp only[go_sem];refine An ?_;exact Zy4 J1 (s:=false) h
   ·dsimp only[go_sem];refine Zv2 24 ?_;dsimp only[go_sem];refine An ?_;exact Zy4 J1 (s:=false) h
  ·dsimp only[go_sem];refine Zv2 31 ?_;dsimp only[go_sem];refine An ?_;exact Zy4 J1 (s:=false) h
@[go_sem] def e63:EC:=(by have h:=hF Tryz.f63;(conv at h=>rhs;reduce);dsimp only[go_sem] at h;exact ⟨_,h⟩:DP Tryz.f63).1
theorem ok63:FnOK Tryz.prog 63 Tryz.f63 e63 [.t 4] 2 36:=okA
def Z7d:Bool→Option Bool
| x4=>
 some x4
def Z8d (x1 x2:Event):Option Bool:=
 ifb (decide (x1.Kind=x2.Kind)) (
 ifb (decide (x1.Node=x2.Node)) (
 ifb (decide (x1.ID=x2.ID)) (
 ifb (decide (x1.Peer=x2.Peer)) (
 (Zt8 x1.Need x2.Need).bind fun x3=>
 Z7d x3) (
 Z7d false)) (
 Z7d false)) (
 Z7d false)) (
 Z7d false)
theorem Z9d (x1 x2:Event) (r:Bool) (h:Z8d x1 x2=some r):Z03 Tryz.prog 63 [.agg (Event.row x1),.agg (Event.row x2)] (.bv r):=by
 refine FP ok63 fun w0 H0=>?_
 rw [Z8d] at h
 refine Zv2 14 ?_;dsimp only[go_sem];refine An (Zo4 (fun (x4:Bool)=>(⟨an 4 (.bv x4::an 33 []),[],[]⟩:St)) Z7d r ?_ fun J1=>?_)
 ·intro x4 h;rw [Z7d] at h;(try dsimp only);exact Zw4 (res:=fun (r:Bool)=>.bv r) ok63 h
 ·refine MC 10 h (fun h=>?_) fun h=>?_
  ·dsimp only[go_sem];refine Zv2 7 ?_;dsimp only[go_sem];refine An (MC 17 h (fun h=>?_) fun h=>?_)
   ·dsimp only[go_sem];refine Zv2 7 ?_;dsimp only[go_sem];refine An (MC 24 h (fun h=>?_) fun h=>?_)
    ·dsimp only[go_sem];refine Zv2 7 ?_;dsimp only[go_sem];refine An (MC 31 h (fun h=>?_) fun h=>?_)
     ·dsimp only[go_sem];refine Zv2 4 ?_;dsimp only[go_sem];refine An ?_;have ⟨x3,ex3,h⟩:=Bs h;refine VC (Zu8 x1.Need x2.Need _ ex3) (Zv2 3 ?_);dsimp only[go_sem];refine An ?_;exact Zy4 J1 (s:=x3) h
     ·dsimp only[go_sem];refine Zv2 8 ?_;dsimp only[go_sem];refine An ?_;exact Zy4 J1 (s:=false) h
    ·dsimp only[go_sem];refine Zv2 15 ?_;dsimp only[go_sem];refine An ?_;exact Zy4 J1 (s:=false) h
   ·dsimp only[go_sem];refine Zv2 22 ?_;dsimp only[go_sem];refine An ?_;exact Zy4 J1 (s:=false) h
  ·dsimp only[go_sem];refine Zv2 29 ?_;dsimp only[go_sem];refine An ?_;exact Zy4 J1 (s:=false) h
@[go_sem] def e186:EC:=(by have h:=hF Tryz.f186;(conv at h=>rhs;reduce);dsimp only[go_sem] at h;exact ⟨_,h⟩:DP Tryz.f186).1
theorem ok186:FnOK Tryz.prog 186 Tryz.f186 e186 [.t 2] 1 35:=okA
def Zad:List Int→Option (List Int)
| x31=>
 some x31
def Zbd (x1:(List (List Int))):(Int×List Int)→Option ((Int×List Int) ⊕ (List Int))
| (x21,x22)=>
 ifb (decide (x21<(ln (Z25 1 Z15) x1))) (
 (at_ x1 x21).bind fun x23=>
 (Zj4 8 x22 x23).bind fun x24=>
 some (.inl (wr (x21+1),x24))) (
 Option.map Sum.inr (Zad x22))
def Zcd (x1:(List (List Int))):Int→Option (List Int)
| x15=>
 (Z3b x15).bind fun x16=>
 loop (Zbd x1) (0,x16)
def Zdd (x5 x6:Int) (x7:List Int):Unit→Option ((Int×Int) ⊕ (List Int))
| ()=>
 some (.inl (wr (x5+(ln Z15 x7)),wr (x6+1)))
def Zed (x1:(List (List Int))):(Int×Int)→Option ((Int×Int) ⊕ (List Int))
| (x5,x6)=>
 ifb (decide (x6<(ln (Z25 1 Z15) x1))) (
 (at_ x1 x6).bind fun x7=>
 ifb (decide ((wr (x5+(ln Z15 x7)))<0)) (
 none) (
 (Zdd x5 x6 x7) ())) (
 Option.map Sum.inr ((Zcd x1) x5))
def Zfd (x1:(List (List Int))):Option (List Int):=
 loop (Zed x1) (0,0)
theorem Zgd (x1:(List (List Int))) (r:List Int) (h:Zfd x1=some r):FunO Tryz.prog 186 [.sl 1 (List.map (Z25 1 Z15) x1)] 3 1 (List.map Z15 r):=by
 refine Z75 ok186 rfl fun w0 H0=>?_
 rw [Zfd] at h
 refine Zv2 15 ?_;dsimp only[go_sem];refine An (Zo4 (fun (x15:Int)=>(⟨(.sl 1 (List.map (Z25 1 Z15) x1) :: .any :: .any :: .iv x15::an 32 []),[],[]⟩:St)) (Zcd x1) r ?_ fun J1=>?_)
 ·intro x15 h;rw [Zcd] at h;(try dsimp only);refine Zv2 3 ?_;dsimp only[go_sem];refine An ?_;have ⟨x16,ex16,h⟩:=Bs h;refine Zt5 [] [] trivial (Z4b x15 _ ex16) (h:=?_);dsimp only[go_sem];refine Zv2 9 ?_;dsimp only[go_sem];refine An (Zo4 (fun (x31:List Int)=>(⟨an 6 (.osl 0::an 29 []),[],[Sq7 x31]⟩:St)) Zad r ?_ fun J3=>?_)
  ·intro x31 h;rw [Zad] at h;(try dsimp only);refine Zv2 5 ?_;dsimp only[go_sem];refine An ?_;exact Zd5 Z15 ok186 h rfl rfl
  ·refine Zv2 1 ?_;dsimp only[go_sem];refine An (Zp4 h (fun ((x21,x22):(Int×List Int))=>(⟨an 6 (.osl 0::an 18 (.sl 1 (List.map (Z25 1 Z15) x1) :: .iv (ln (Z25 1 Z15) x1) :: .iv x21::an 8 [])),[],[Sq7 x22]⟩:St)) (by simp [go_sem]) (by rintro ⟨x21,x22⟩;first | rfl | simp [go_sem]) ?_);rintro n1 ⟨x21,x22⟩ y1 h hin1 hout1;rw [Zbd] at h;(try dsimp only);refine Zv2 5 ?_;dsimp only[go_sem];refine An (MI h (fun h=>?_) fun h=>?_)
   ·refine Zv2 5 ?_;dsimp only[go_sem];refine An ?_;have ⟨x23,ex23,h⟩:=Bs h;refine Zs4 (Z25 1 Z15) ex23 trivial rfl rfl rfl (Zv2 6 ?_);dsimp only[go_sem];refine An ?_;have ⟨x24,ex24,h⟩:=Bs h;refine Zu4 Z15 ex24 trivial rfl rfl rfl (Zv2 7 ?_);dsimp only[go_sem];refine An (Z17 1 0 ?_);dsimp only[go_sem];exact Zx4 h hin1
   ·refine Zv2 1 ?_;dsimp only[go_sem];refine An ?_;exact Zy4 J3 (s:=x22) (Zn4 h hout1)
 ·refine Zv2 1 ?_;dsimp only[go_sem];refine An (Zp4 h (fun ((x5,x6):(Int×Int))=>(⟨(.sl 1 (List.map (Z25 1 Z15) x1) :: .any :: .any :: .iv x5::an 5 (.sl 1 (List.map (Z25 1 Z15) x1) :: .iv (ln (Z25 1 Z15) x1) :: .iv x6::an 24 [])),[],[]⟩:St)) (by simp [go_sem]) (by rintro ⟨x5,x6⟩;first | rfl | simp [go_sem]) ?_);rintro n1 ⟨x5,x6⟩ y1 h hin1 hout1;rw [Zed] at h;(try dsimp only);refine Zv2 5 ?_;dsimp only[go_sem];refine An (MI h (fun h=>?_) fun h=>?_)
  ·refine Zv2 5 ?_;dsimp only[go_sem];refine An ?_;have ⟨x7,ex7,h⟩:=Bs h;refine Zs4 (Z25 1 Z15) ex7 trivial rfl rfl rfl (Zv2 16 ?_);dsimp only[go_sem];refine An (Zo4 (fun (_:Unit)=>(⟨(.sl 1 (List.map (Z25 1 Z15) x1) :: .any :: .any :: .iv (wr (x5+(ln Z15 x7)))::an 5 (.sl 1 (List.map (Z25 1 Z15) x1) :: .iv (ln (Z25 1 Z15) x1) :: .iv x6::an 24 [])),[],[]⟩:St)) (Zdd x5 x6 x7) y1 ?_ fun J2=>?_)
   ·rintro ⟨⟩ h;rw [Zdd] at h;(try dsimp only);refine Zv2 5 ?_;dsimp only[go_sem];refine An ?_;exact Zx4 h hin1
   ·refine MI h (fun h=>?_) fun h=>?_
    ·cases h
    ·refine Zv2 1 ?_;dsimp only[go_sem];refine An ?_;exact Zy4 J2 (s:=()) h
  ·refine Zv2 1 ?_;dsimp only[go_sem];refine An ?_;exact Zy4 J1 (s:=x5) (Zn4 h hout1)
end
end NX
end Go.Proofs.YtdjkbodnjhgbcaaGreat
