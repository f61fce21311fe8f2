/-
  The function (*narthex/node.node).session, lent own memory. Written by a program of ours (lb.py). No statement of the seat is proved here.
-/
import Derived.Test.YtdjkbodnjhgbcaaGreatP15
import Derived.Test.YtdjkbodnjhgbcaaGreatP16
set_option maxRecDepth 100000
set_option maxHeartbeats 4000000
namespace Go.Proofs.YtdjkbodnjhgbcaaGreat
namespace NX
open Go
noncomputable section
def Zec (x1 x2:Int) (x3 _x4:Int) (_x5 _x6:Int) (_x7:List Sess) (_x8:Int) (_x9:List Side) (_x10:List Int) (_x11:List KE) (_x12:List Int) (_x13:List KE) (x14:List Event):Option (List Event):=
 (Zj4 56 x14 ([Event.mk x1 x3 x2 0 (([]:List Int))])).bind fun x15=>
 some x15
theorem Zfc (x1 x2:Int) (x3 x4:Int) (x5 x6:Int) (x7:List Sess) (x8:Int) (x9:List Side) (x10:List Int) (x11:List KE) (x12:List Int) (x13:List KE) (x14 r:List Event) (h:Zec x1 x2 x3 x4 x5 x6 x7 x8 x9 x10 x11 x12 x13 x14=some r):Zq5 Tryz.prog 74 [.ptr 0 0,.iv x1,.iv x2] [some ⟨81,[.iv x3,.iv x4,.osl 0,.iv x5,.osl 1,.iv x6,Sp3 x7,.osl 2,.osl 3,.osl 4,.nl,.osl 5,.iv x8]⟩] [Sq6 x9,Sq7 x10,Sq8 x11,Sq7 x12,Sq8 x13,Z97 x14] (.tup []) [some ⟨81,[.iv x3,.iv x4,.osl 0,.iv x5,.osl 1,.iv x6,Sp3 x7,.osl 2,.osl 3,.osl 4,.nl,.osl 7,.iv x8]⟩] [Sq6 x9,Sq7 x10,Sq8 x11,Sq7 x12,Sq8 x13,none,none,Z97 r]:=by
 refine FT ok74 fun w0 M0=>?_
 rw [Zec] at h
 dsimp only[lun,List.cons_append,List.nil_append]
 refine Zz6 fun all H=>?_;dsimp only[go_sem];refine GP H 13 7 [4,1,9,6] [(6,[.ptr 0 0,.ptr 0 0,.ptr 0 0,.ptr 0 11]),(1,[.iv x1,.ptr 0 0,.ptr 0 0,.ptr 0 0,.ptr 0 0,.ptr 0 0,.ptr 0 0,.iv x3,.iv x2])] ?_;dsimp only[go_sem];refine Z74 4 14 rfl ?_ ?_
 ·refine GV H.1 ?_;dsimp only[go_sem];refine Z64 14 rfl (Zx5 (.agg [.iv x1,.iv x3,.iv x2,.iv 0,Sp0 (([]:List Int))]) H.1 rfl trivial (by simp [go_sem]) ?_);dsimp only[go_sem];refine GE H.1 15 ?_;dsimp only[go_sem];refine Z64 16 rfl ?_;have ⟨x15,ex15,h⟩:=Bs h;refine GA Event.row ex15 H.1 ?_;refine Gn H 2 1 ?_;refine GE H.1 19 ?_
  dsimp only[go_sem];refine GD ?_;obtain rfl:=Option.some.inj h;exact Z57 ok74
 ·refine Zx5 (.agg [.iv x1,.iv x3,.iv x2,.iv 0,Sp0 (([]:List Int))]) H.1 rfl trivial (by simp [go_sem]) ?_;dsimp only[go_sem];refine Z74 4 15 rfl ?_ ?_
  ·refine GV H.1 ?_;dsimp only[go_sem];refine GE H.1 15 ?_;dsimp only[go_sem];refine Z64 16 rfl ?_;have ⟨x15,ex15,h⟩:=Bs h;refine GA Event.row ex15 H.1 ?_;refine Gn H 2 1 ?_;refine GE H.1 19 ?_;dsimp only[go_sem];refine GD ?_;obtain rfl:=Option.some.inj h;exact Z57 ok74
  ·refine GV H.1 ?_;dsimp only[go_sem];refine GE H.1 4 ?_;dsimp only[go_sem];refine Z64 16 rfl ?_;have ⟨x15,ex15,h⟩:=Bs h;refine GA Event.row ex15 H.1 ?_;refine Gn H 2 1 ?_;refine GE H.1 19 ?_;dsimp only[go_sem];refine GD ?_;obtain rfl:=Option.some.inj h;exact Z57 ok74
@[go_sem] def e93:EC:=(by have h:=hF Tryz.f93;(conv at h=>rhs;reduce);dsimp only[go_sem] at h;exact ⟨_,h⟩:DP Tryz.f93).1
theorem ok93:FnOK Tryz.prog 93 Tryz.f93 e93 [.t 4] 2 40:=okA
@[go_sem] def e112:EC:=(by have h:=hF Tryz.f112;(conv at h=>rhs;reduce);dsimp only[go_sem] at h;exact ⟨_,h⟩:DP Tryz.f112).1
theorem ok112:FnOK Tryz.prog 112 Tryz.f112 e112 [.t 4] 2 29:=okA
def Zgc:Bool→Option Bool
| x4=>
 some x4
def Zhc (x1 x2:Sess):Option Bool:=
 ifb (decide (x1.ID=x2.ID)) (
 ifb (decide (x1.State=x2.State)) (
 ifb (decide (x1.Age=x2.Age)) (
 (Zs8 x1.Need x2.Need).bind fun x3=>
 Zgc x3) (
 Zgc false)) (
 Zgc false)) (
 Zgc false)
theorem k_sess_Same_1 (x1 x2:Sess) (r:Bool) (h:Zhc x1 x2=some r):Z03 Tryz.prog 112 [.agg (Sess.row x1),.agg (Sess.row x2)] (.bv r):=by
 refine FP ok112 fun w0 H0=>?_
 rw [Zhc] at h
 refine Vg 14 ?_;refine Zo4 (fun (x4:Bool)=>⟨an 4 (.bv x4::an 26 []),[],[]⟩) Zgc r ?_ fun J1=>?_
 ·intro x4 h;rw [Zgc] at h;(try dsimp only);exact MD ok112 h
 ·refine MC 10 h (fun h=>?_) fun h=>?_
  ·refine Vg 7 ?_;refine MC 17 h (fun h=>?_) fun h=>?_
   ·refine Vg 7 ?_;refine MC 24 h (fun h=>?_) fun h=>?_
    ·refine Vg 4 ?_;have ⟨x3,ex3,h⟩:=Bs h;refine VC (Zt8 x1.Need x2.Need _ ex3) (Vg 3 ?_);exact Zx4 J1 h
    ·refine Vg 8 ?_;exact Zx4 J1 h
   ·refine Vg 15 ?_;exact Zx4 J1 h
  ·refine Vg 22 ?_;exact Zx4 J1 h
theorem Zic (l r:List KE) (h:Zu8 l=some r):
  Zq5 Tryz.prog 44 [.osl 0] [] [some ⟨95,2,l.map KE.row⟩] (.osl 1) [] [some ⟨95,2,l.map KE.row⟩,some ⟨95,2,r.map KE.row⟩]:=by
 unfold Zu8 at h
 refine FT ok44 fun w0 M0=>?_
 dsimp only[lun,List.cons_append,List.nil_append]
 refine Zv2 100 ?_
 dsimp only[go_sem]
 refine An ?_
 refine V_isnilO trivial rfl rfl (fun hn=>?_) ?_
 ·refine Zv2 100 ?_
  dsimp only[go_sem]
  refine An ?_
  refine Zf4 2 95 2 rfl rfl ?_
  dsimp only[go_sem]
  have hn:l=[]:=by simpa using hn
  subst hn
  obtain rfl:r=[]:=by simpa [Zj4] using h.symm
  exact Z47 ok44
 ·refine Zv2 100 ?_
  dsimp only[go_sem]
  refine An ?_
  refine Zu4 KE.row (l':=[]) h trivial rfl rfl rfl ?_
  refine Zv2 100 ?_
  dsimp only[go_sem]
  refine An ?_
  refine Z07 2 1 ?_
  dsimp only[go_sem]
  exact Z47 ok44
def Zjc (_x1 _x2:Int) (_x3 _x4:Int) (x5:List Sess) (_x6:List Int) (_x7:List Side) (_x8:List Int) (_x9 _x10:List KE):Option (Sess×Bool):=
 ifb (decide ((ln Sess.row x5)=0)) (
 some ((Sess.mk 0 (([]:List Int)) 0 0),false)) (
 (at_ x5 0).bind fun x11=>
 some (x11,true))
theorem Zkc (x1 x2:Int) (x3 x4:Int) (x5:List Sess) (x6:List Int) (x7:List Side) (x8:List Int) (x9 x10:List KE) (r:(Sess×Bool)) (h:Zjc x1 x2 x3 x4 x5 x6 x7 x8 x9 x10=some r):Zq5 Tryz.prog 76 [.agg [.iv x1,.iv x2,.osl 0,.iv x3,.osl 1,.iv x4,Sp3 x5,.osl 2,Sp0 x6,.osl 3]] [] [Sq6 x7,Sq7 x8,Sq8 x9,Sq8 x10] (.tup [.agg [.iv r.1.ID,Sp0 r.1.Need,.iv r.1.State,.iv r.1.Age],.bv r.2]) [] [Sq6 x7,Sq7 x8,Sq8 x9,Sq8 x10]:=by
 refine FT ok76 fun w0 M0=>?_
 rw [Zjc] at h
 dsimp only[lun,List.cons_append,List.nil_append]
 refine Vg 15 ?_;refine MI h (fun h=>?_) fun h=>?_
 ·refine Vg 6 ?_;obtain rfl:=Option.some.inj h;exact Z47 ok76
 ·refine Vg 6 ?_;have ⟨x11,ex11,h⟩:=Bs h;refine Zs4 Sess.row ex11 trivial rfl rfl rfl (Vg 4 ?_);obtain rfl:=Option.some.inj h;exact Z47 ok76
def Zlc (x1:Side) (x2:Int) (x3 _x4 _x5:Int) (_x6:List Side) (_x7:List Int) (x8:List Mail):Option (List Mail):=
 (Zj4 40 x8 ([Mail.mk x3 x1.Peer (Msg.mk x2 x1.Epoch 0)])).bind fun x9=>
 some x9
theorem Zmc (x1:Side) (x2:Int) (x3 x4 x5:Int) (x6:List Side) (x7:List Int) (x8 r:List Mail) (h:Zlc x1 x2 x3 x4 x5 x6 x7 x8=some r):Zq5 Tryz.prog 185 [.ptr 0 0,.agg (Side.row x1),.iv x2] [some ⟨178,[.iv x3,.iv x4,.osl 0,.iv x5,.osl 1,.osl 2]⟩] [Sq6 x6,Sq7 x7,Za7 x8] (.tup []) [some ⟨178,[.iv x3,.iv x4,.osl 0,.iv x5,.osl 1,.osl 4]⟩] [Sq6 x6,Sq7 x7,none,none,Za7 r]:=by
 refine FT ok185 fun w0 M0=>?_
 rw [Zlc] at h
 dsimp only[lun,List.cons_append,List.nil_append]
 refine Vg 4 ?_;refine Zz6 fun all H=>?_;dsimp only[go_sem];refine GP H 17 6 [4,1,13,5] [(6,[.ptr 0 0,.ptr 0 0,.ptr 0 0,.ptr 0 5]),(1,[.ptr 0 0,.ptr 0 0,.ptr 0 0,.ptr 0 0,.ptr 0 0,.iv x3,.ptr 1 0,.iv x1.Peer,.iv x2,.ptr 1 1,.iv x1.Epoch,.agg [.iv x2,.iv x1.Epoch,.iv 0],.agg [.iv x3,.iv x1.Peer,.iv x2,.iv x1.Epoch,.iv 0]])] ?_;dsimp only[go_sem];refine Z74 4 18 rfl ?_ ?_
 ·refine GV H.1 ?_;dsimp only[go_sem];refine GE H.1 18 ?_;dsimp only[go_sem];refine Z64 19 rfl ?_;have ⟨x9,ex9,h⟩:=Bs h;refine GA Mail.row ex9 H.1 ?_;refine Gn H 2 1 ?_;refine GE H.1 22 ?_;dsimp only[go_sem];refine GD ?_;obtain rfl:=Option.some.inj h;exact Z57 ok185
 ·refine GV H.1 ?_;dsimp only[go_sem];refine GE H.1 4 ?_;dsimp only[go_sem];refine Z64 19 rfl ?_;have ⟨x9,ex9,h⟩:=Bs h;refine GA Mail.row ex9 H.1 ?_;refine Gn H 2 1 ?_;refine GE H.1 22 ?_;dsimp only[go_sem];refine GD ?_;obtain rfl:=Option.some.inj h;exact Z57 ok185
def Znc (x1 x2:Int) (x3 _x4:Int) (_x5 _x6:Int) (_x7:List Sess) (_x8:List Int) (_x9:Int) (_x10:List Side) (_x11:List Int) (_x12 _x13:List KE) (_x14:List Mail) (x15:List Event):Option (List Event):=
 (Zj4 56 x15 ([Event.mk x1 x3 x2 0 (([]:List Int))])).bind fun x16=>
 some x16
theorem Zoc (x1 x2:Int) (x3 x4:Int) (x5 x6:Int) (x7:List Sess) (x8:List Int) (x9:Int) (x10:List Side) (x11:List Int) (x12 x13:List KE) (x14:List Mail) (x15 r:List Event) (h:Znc x1 x2 x3 x4 x5 x6 x7 x8 x9 x10 x11 x12 x13 x14 x15=some r):Zq5 Tryz.prog 74 [.ptr 0 0,.iv x1,.iv x2] [some ⟨81,[.iv x3,.iv x4,.osl 0,.iv x5,.osl 1,.iv x6,Sp3 x7,.osl 2,Sp0 x8,.osl 3,.osl 4,.osl 5,.iv x9]⟩] [Sq6 x10,Sq7 x11,Sq8 x12,Sq8 x13,Za7 x14,Z97 x15] (.tup []) [some ⟨81,[.iv x3,.iv x4,.osl 0,.iv x5,.osl 1,.iv x6,Sp3 x7,.osl 2,Sp0 x8,.osl 3,.osl 4,.osl 7,.iv x9]⟩] [Sq6 x10,Sq7 x11,Sq8 x12,Sq8 x13,Za7 x14,none,none,Z97 r]:=by
 refine FT ok74 fun w0 M0=>?_
 rw [Znc] at h
 dsimp only[lun,List.cons_append,List.nil_append]
 refine Zz6 fun all H=>?_;dsimp only[go_sem];refine GP H 13 7 [4,1,9,6] [(6,[.ptr 0 0,.ptr 0 0,.ptr 0 0,.ptr 0 11]),(1,[.iv x1,.ptr 0 0,.ptr 0 0,.ptr 0 0,.ptr 0 0,.ptr 0 0,.ptr 0 0,.iv x3,.iv x2])] ?_;dsimp only[go_sem];refine Z74 4 14 rfl ?_ ?_
 ·refine GV H.1 ?_;dsimp only[go_sem];refine Z64 14 rfl (Zx5 (.agg [.iv x1,.iv x3,.iv x2,.iv 0,Sp0 (([]:List Int))]) H.1 rfl trivial (by simp [go_sem]) ?_);dsimp only[go_sem];refine GE H.1 15 ?_;dsimp only[go_sem];refine Z64 16 rfl ?_;have ⟨x16,ex16,h⟩:=Bs h;refine GA Event.row ex16 H.1 ?_;refine Gn H 2 1 ?_;refine GE H.1 19 ?_
  dsimp only[go_sem];refine GD ?_;obtain rfl:=Option.some.inj h;exact Z57 ok74
 ·refine Zx5 (.agg [.iv x1,.iv x3,.iv x2,.iv 0,Sp0 (([]:List Int))]) H.1 rfl trivial (by simp [go_sem]) ?_;dsimp only[go_sem];refine Z74 4 15 rfl ?_ ?_
  ·refine GV H.1 ?_;dsimp only[go_sem];refine GE H.1 15 ?_;dsimp only[go_sem];refine Z64 16 rfl ?_;have ⟨x16,ex16,h⟩:=Bs h;refine GA Event.row ex16 H.1 ?_;refine Gn H 2 1 ?_;refine GE H.1 19 ?_;dsimp only[go_sem];refine GD ?_;obtain rfl:=Option.some.inj h;exact Z57 ok74
  ·refine GV H.1 ?_;dsimp only[go_sem];refine GE H.1 4 ?_;dsimp only[go_sem];refine Z64 16 rfl ?_;have ⟨x16,ex16,h⟩:=Bs h;refine GA Event.row ex16 H.1 ?_;refine Gn H 2 1 ?_;refine GE H.1 19 ?_;dsimp only[go_sem];refine GD ?_;obtain rfl:=Option.some.inj h;exact Z57 ok74
def Zpc (x1:Side) (x2:Int) (x3 _x4:Int) (_x5 _x6:Int) (_x7:List Sess) (_x8:List Int) (_x9:Int) (_x10:List Side) (_x11:List Int) (_x12 _x13:List KE) (x14:List Mail) (_x15:List Event):Option (List Mail):=
 (Zj4 40 x14 ([Mail.mk x3 x1.Peer (Msg.mk x2 x1.Epoch 0)])).bind fun x16=>
 some x16
theorem Zqc (x1:Side) (x2:Int) (x3 x4:Int) (x5 x6:Int) (x7:List Sess) (x8:List Int) (x9:Int) (x10:List Side) (x11:List Int) (x12 x13:List KE) (x14:List Mail) (x15:List Event) (r:List Mail) (h:Zpc x1 x2 x3 x4 x5 x6 x7 x8 x9 x10 x11 x12 x13 x14 x15=some r):Zq5 Tryz.prog 153 [.ptr 0 0,.agg (Side.row x1),.iv x2] [some ⟨81,[.iv x3,.iv x4,.osl 0,.iv x5,.osl 1,.iv x6,Sp3 x7,.osl 2,Sp0 x8,.osl 3,.osl 4,.osl 5,.iv x9]⟩] [Sq6 x10,Sq7 x11,Sq8 x12,Sq8 x13,Za7 x14,Z97 x15] (.tup []) [some ⟨81,[.iv x3,.iv x4,.osl 0,.iv x5,.osl 1,.iv x6,Sp3 x7,.osl 2,Sp0 x8,.osl 3,.osl 7,.osl 5,.iv x9]⟩] [Sq6 x10,Sq7 x11,Sq8 x12,Sq8 x13,none,Z97 x15,none,Za7 r]:=by
 refine FT ok153 fun w0 M0=>?_
 rw [Zpc] at h
 dsimp only[lun,List.cons_append,List.nil_append]
 refine Vg 4 ?_;refine Zz6 fun all H=>?_;dsimp only[go_sem];refine GP H 18 6 [4,1,14,5] [(6,[.ptr 0 0,.ptr 0 0,.ptr 0 0,.ptr 0 10]),(1,[.ptr 0 0,.ptr 0 0,.ptr 0 0,.ptr 0 0,.ptr 0 0,.ptr 0 0,.iv x3,.ptr 1 0,.iv x1.Peer,.iv x2,.ptr 1 1,.iv x1.Epoch,.agg [.iv x2,.iv x1.Epoch,.iv 0],.agg [.iv x3,.iv x1.Peer,.iv x2,.iv x1.Epoch,.iv 0]])] ?_;dsimp only[go_sem];refine Z74 4 19 rfl ?_ ?_
 ·refine GV H.1 ?_;dsimp only[go_sem];refine GE H.1 19 ?_;dsimp only[go_sem];refine Z64 20 rfl ?_;have ⟨x16,ex16,h⟩:=Bs h;refine GA Mail.row ex16 H.1 ?_;refine Gn H 2 1 ?_;refine GE H.1 23 ?_;dsimp only[go_sem];refine GD ?_;obtain rfl:=Option.some.inj h;exact Z57 ok153
 ·refine GV H.1 ?_;dsimp only[go_sem];refine GE H.1 4 ?_;dsimp only[go_sem];refine Z64 20 rfl ?_;have ⟨x16,ex16,h⟩:=Bs h;refine GA Mail.row ex16 H.1 ?_;refine Gn H 2 1 ?_;refine GE H.1 23 ?_;dsimp only[go_sem];refine GD ?_;obtain rfl:=Option.some.inj h;exact Z57 ok153
def Zrc (x1 x2:Int) (x3 _x4:Int) (_x5 _x6:Int) (_x7:List Sess) (_x8:List Int) (_x9:Int) (_x10:List Side) (_x11:List Int) (_x12 _x13:List KE) (_x14:List Mail) (x15:List Event):Option (List Event):=
 (Zj4 56 x15 ([Event.mk x1 x3 0 x2 (([]:List Int))])).bind fun x16=>
 some x16
theorem Zsc (x1 x2:Int) (x3 x4:Int) (x5 x6:Int) (x7:List Sess) (x8:List Int) (x9:Int) (x10:List Side) (x11:List Int) (x12 x13:List KE) (x14:List Mail) (x15 r:List Event) (h:Zrc x1 x2 x3 x4 x5 x6 x7 x8 x9 x10 x11 x12 x13 x14 x15=some r):Zq5 Tryz.prog 47 [.ptr 0 0,.iv x1,.iv x2] [some ⟨81,[.iv x3,.iv x4,.osl 0,.iv x5,.osl 1,.iv x6,Sp3 x7,.osl 2,Sp0 x8,.osl 3,.osl 4,.osl 5,.iv x9]⟩] [Sq6 x10,Sq7 x11,Sq8 x12,Sq8 x13,Za7 x14,Z97 x15] (.tup []) [some ⟨81,[.iv x3,.iv x4,.osl 0,.iv x5,.osl 1,.iv x6,Sp3 x7,.osl 2,Sp0 x8,.osl 3,.osl 4,.osl 7,.iv x9]⟩] [Sq6 x10,Sq7 x11,Sq8 x12,Sq8 x13,Za7 x14,none,none,Z97 r]:=by
 refine FT ok47 fun w0 M0=>?_
 rw [Zrc] at h
 dsimp only[lun,List.cons_append,List.nil_append]
 refine Zz6 fun all H=>?_;dsimp only[go_sem];refine GP H 13 7 [4,1,9,6] [(6,[.ptr 0 0,.ptr 0 0,.ptr 0 0,.ptr 0 11]),(1,[.iv x1,.ptr 0 0,.ptr 0 0,.ptr 0 0,.ptr 0 0,.ptr 0 0,.ptr 0 0,.iv x3,.iv x2])] ?_;dsimp only[go_sem];refine Z74 4 14 rfl ?_ ?_
 ·refine GV H.1 ?_;dsimp only[go_sem];refine Z64 14 rfl (Zx5 (.agg [.iv x1,.iv x3,.iv 0,.iv x2,Sp0 (([]:List Int))]) H.1 rfl trivial (by simp [go_sem]) ?_);dsimp only[go_sem];refine GE H.1 15 ?_;dsimp only[go_sem];refine Z64 16 rfl ?_;have ⟨x16,ex16,h⟩:=Bs h;refine GA Event.row ex16 H.1 ?_;refine Gn H 2 1 ?_;refine GE H.1 19 ?_
  dsimp only[go_sem];refine GD ?_;obtain rfl:=Option.some.inj h;exact Z57 ok47
 ·refine Zx5 (.agg [.iv x1,.iv x3,.iv 0,.iv x2,Sp0 (([]:List Int))]) H.1 rfl trivial (by simp [go_sem]) ?_;dsimp only[go_sem];refine Z74 4 15 rfl ?_ ?_
  ·refine GV H.1 ?_;dsimp only[go_sem];refine GE H.1 15 ?_;dsimp only[go_sem];refine Z64 16 rfl ?_;have ⟨x16,ex16,h⟩:=Bs h;refine GA Event.row ex16 H.1 ?_;refine Gn H 2 1 ?_;refine GE H.1 19 ?_;dsimp only[go_sem];refine GD ?_;obtain rfl:=Option.some.inj h;exact Z57 ok47
  ·refine GV H.1 ?_;dsimp only[go_sem];refine GE H.1 4 ?_;dsimp only[go_sem];refine Z64 16 rfl ?_;have ⟨x16,ex16,h⟩:=Bs h;refine GA Event.row ex16 H.1 ?_;refine Gn H 2 1 ?_;refine GE H.1 19 ?_;dsimp only[go_sem];refine GD ?_;obtain rfl:=Option.some.inj h;exact Z57 ok47
def Ztc:Bool→Option Bool
| x3=>
 some (!x3)
def Zuc (x1:KE) (x2:Int):Option Bool:=
 ifb (decide (x2<x1.Peer)) (
 ifb (decide (x1.Peer<64)) (
 ifb (decide (1≤x1.Epoch)) (
 Ztc (decide (x1.Epoch≤65535))) (
 Ztc false)) (
 Ztc false)) (
 Ztc false)
theorem Zvc (x1:KE) (x2:Int) (r:Bool) (h:Zuc x1 x2=some r):Zq5 Tryz.prog 102 [.agg (KE.row x1),.ptr 0 0] [some ⟨3,[.iv x2]⟩] [] (.bv r) [some ⟨3,[.iv x1.Peer]⟩] []:=by
 refine FT ok102 fun w0 M0=>?_
 rw [Zuc] at h
 dsimp only[lun,List.cons_append,List.nil_append]
 refine Vg 12 ?_;refine Zo4 (fun (x3:Bool)=>⟨(.any :: .ptr 0 0 :: .ptr 1 0 :: .any :: .bv x3::an 23 []),[some ⟨3,[.iv x2]⟩,some ⟨95,KE.row x1⟩],[]⟩) Ztc r ?_ fun J1=>?_
 ·intro x3 h;rw [Ztc] at h;(try dsimp only);refine Vg 12 ?_;obtain rfl:=Option.some.inj h;exact Z47 ok102
 ·refine MC 9 h (fun h=>?_) fun h=>?_
  ·refine Vg 5 ?_;refine MC 14 h (fun h=>?_) fun h=>?_
   ·refine Vg 5 ?_;refine MC 19 h (fun h=>?_) fun h=>?_
    ·refine Vg 6 ?_;exact Zx4 J1 h
    ·refine Vg 6 ?_;exact Zx4 J1 h
   ·refine Vg 11 ?_;exact Zx4 J1 h
  ·refine Vg 16 ?_;exact Zx4 J1 h
@[go_sem] def e101:EC:=(by have h:=hF Tryz.f101;(conv at h=>rhs;reduce);dsimp only[go_sem] at h;exact ⟨_,h⟩:DP Tryz.f101).1
theorem ok101:FnOK Tryz.prog 101 Tryz.f101 e101 [.t 3] 2 40:=okA
def Zwc:Bool→Option Bool
| x5=>
 some x5
def Zxc (x1:Side) (x2:Node):Bool→Option Bool
| x3=>
 ifb (decide (64≤x1.Peer)) (
 Zwc true) (
 ifb (decide (x1.Epoch<1)) (
 Zwc true) (
 (Zy9 x2 x1.Peer).bind fun x4=>
 ifb (!decide (x4=x1.Epoch)) (
 Zwc true) (
 ifb x3 (
 Zwc (decide (x1.Peer<x2.DK.DI.ID))) (
 Zwc false))))
def Zyc (x1:Side) (x2:Node):Option Bool:=
 ifb (decide (x1.State=1)) (
 (Zxc x1 x2) true) (
 (Zxc x1 x2) (decide (x1.State=3)))
theorem Zzc (x1:Side) (x2:Node) (r:Bool) (h:Zyc x1 x2=some r):Z03 Tryz.prog 101 [.agg (Side.row x1),.elt (Node.row x2) 0] (.bv r):=by
 refine FP ok101 fun w0 H0=>?_
 rw [Zyc] at h
 refine Vg 11 ?_
 refine Zo4 (fun (x3:Bool)=>⟨(.any :: .elt (Node.row x2) 0 :: .ptr 0 0 :: .any :: .bv x3::an 37 []),[some ⟨65,Side.row x1⟩],[]⟩) (Zxc x1 x2) r ?_ fun J1=>?_
 ·intro x3 h;rw [Zxc] at h;(try dsimp only);refine Vg 1 ?_;refine Zo4 (fun (x5:Bool)=>⟨an 3 (.bv x5::an 38 []),[],[]⟩) Zwc r ?_ fun J2=>?_
  ·intro x5 h;rw [Zwc] at h;(try dsimp only);exact MD ok101 h
  ·refine Zz6 fun all H=>?_;dsimp only[go_sem];refine GP H 4 26 [4,26] [(13,[.ptr 0 0,.iv x1.Peer,.bv (decide (64≤x1.Peer)),.bv (decide (64≤x1.Peer))])] ?_;dsimp only[go_sem];refine Z25 16 h rfl (fun _ h=>?_) fun _ h=>?_
   ·dsimp only[go_sem];refine GP H 26 0 [30] [(3,[.tt]),(13,[.un,.un,.un,.tt,.tt,.un,.un,.un,.un,.un,.un,.un,.tt,.tt,.un,.un,.un,.un,.un,.un,.un,.un,.un,.un,.tt])] ?_;dsimp only[go_sem];refine GD ?_;exact Zx4 J2 h
   ·dsimp only[go_sem];refine GP H 5 21 [9,21] [(17,[.ptr 0 1,.iv x1.Epoch,.bv (decide (x1.Epoch<1)),.bv (decide (x1.Epoch<1)),.bv (decide (x1.Epoch<1))])] ?_;dsimp only[go_sem];refine Z25 21 h rfl (fun _ h=>?_) fun _ h=>?_
    ·dsimp only[go_sem];refine GP H 21 0 [30] [(3,[.tt]),(18,[.un,.un,.un,.un,.un,.un,.un,.tt,.tt,.un,.un,.un,.un,.un,.un,.un,.un,.un,.un,.tt])] ?_;dsimp only[go_sem];refine GD ?_;exact Zx4 J2 h
    ·dsimp only[go_sem];refine GP H 5 16 [12,1,2,15] [(22,[.agg (Node.row x2),.ptr 0 0,.iv x1.Peer]),(1,[.ptr 0 1,.iv x1.Epoch])] ?_;dsimp only[go_sem];refine Z64 12 rfl ?_;have ⟨x4,ex4,h⟩:=Bs h
     refine GC H.1 (Zz9 x2 x1.Peer _ ex4) ?_;dsimp only[go_sem];refine GP H 3 12 [18,12] [(28,[.bv (!decide (x4=x1.Epoch)),.bv (!decide (x4=x1.Epoch)),.bv (!decide (x4=x1.Epoch))])] ?_;dsimp only[go_sem];refine Z25 30 h rfl (fun _ h=>?_) fun _ h=>?_
     ·dsimp only[go_sem];refine GP H 12 0 [30] [(3,[.tt]),(27,[.un,.un,.un,.un,.un,.un,.un,.un,.un,.un,.tt])] ?_;dsimp only[go_sem];refine GD ?_;exact Zx4 J2 h
     ·refine Gn H 2 10 ?_;refine Z25 32 h rfl (fun _ h=>?_) fun _ h=>?_
      ·dsimp only[go_sem]
       refine GP H 10 0 [30] [(3,[.bv (decide (x1.Peer<x2.DK.DI.ID))]),(29,[.ptr 0 0,.iv x1.Peer,.elt (Node.row x2) 0,.elt (Node.row x2) 0,.elt (Node.row x2) 0,.iv x2.DK.DI.ID,.bv (decide (x1.Peer<x2.DK.DI.ID)),.bv (decide (x1.Peer<x2.DK.DI.ID)),.bv (decide (x1.Peer<x2.DK.DI.ID))])] ?_
       dsimp only[go_sem];refine GD ?_;exact Zx4 J2 h
      ·dsimp only[go_sem];refine GP H 10 0 [30] [(3,[.ff]),(29,[.un,.un,.un,.un,.un,.un,.un,.ff,.ff])] ?_;dsimp only[go_sem];refine GD ?_;exact Zx4 J2 h
 ·refine MC 8 h (fun h=>?_) fun h=>?_
  ·refine Vg 6 ?_;exact Zx4 J1 h
  ·refine Vg 6 ?_;exact Zx4 J1 h
def Z0d (x1 x2:Int) (x3 _x4:Int) (_x5 _x6:Int) (_x7:List Int) (_x8:Int) (_x9:List Side) (_x10:List Int) (_x11:List Sess) (_x12 _x13:List KE):Option (List Event):=
 (Zj4 56 [] ([Event.mk x1 x3 0 x2 (([]:List Int))])).bind fun x14=>
 some x14
theorem Z1d (x1 x2:Int) (x3 x4:Int) (x5 x6:Int) (x7:List Int) (x8:Int) (x9:List Side) (x10:List Int) (x11:List Sess) (x12 x13:List KE) (r:List Event) (h:Z0d x1 x2 x3 x4 x5 x6 x7 x8 x9 x10 x11 x12 x13=some r):Zq5 Tryz.prog 47 [.ptr 0 0,.iv x1,.iv x2] [some ⟨81,[.iv x3,.iv x4,.osl 0,.iv x5,.osl 1,.iv x6,.osl 2,.osl 3,Sp0 x7,.osl 4,.nl,.nl,.iv x8]⟩] [Sq6 x9,Sq7 x10,Sq9 x11,Sq8 x12,Sq8 x13] (.tup []) [some ⟨81,[.iv x3,.iv x4,.osl 0,.iv x5,.osl 1,.iv x6,.osl 2,.osl 3,Sp0 x7,.osl 4,.nl,.osl 6,.iv x8]⟩] [Sq6 x9,Sq7 x10,Sq9 x11,Sq8 x12,Sq8 x13,none,Z97 r]:=by
 refine FT ok47 fun w0 M0=>?_
 rw [Z0d] at h
 dsimp only[lun,List.cons_append,List.nil_append]
 refine Zz6 fun all H=>?_;dsimp only[go_sem];refine GP H 14 6 [14,6] [(6,[.ptr 0 0,.ptr 0 0,.ptr 0 0,.ptr 0 11,.nl,.iv x1,.ptr 0 0,.ptr 0 0,.ptr 0 0,.ptr 0 0,.ptr 0 0,.ptr 0 0,.iv x3,.iv x2])] ?_;dsimp only[go_sem];refine Z64 14 rfl (Zx5 (.agg [.iv x1,.iv x3,.iv 0,.iv x2,Sp0 (([]:List Int))]) H.1 rfl trivial (by simp [go_sem]) ?_);dsimp only[go_sem];refine GE H.1 15 ?_;dsimp only[go_sem];refine Z64 16 rfl ?_
 have ⟨x14,ex14,h⟩:=Bs h;refine Zv4 Event.row ex14 H.1 rfl trivial rfl rfl ?_;refine Gn H 2 1 ?_;refine GE H.1 19 ?_;dsimp only[go_sem];refine GD ?_;obtain rfl:=Option.some.inj h;exact Z57 ok47
@[go_sem] def e38:EC:=(by have h:=hF Tryz.f38;(conv at h=>rhs;reduce);dsimp only[go_sem] at h;exact ⟨_,h⟩:DP Tryz.f38).1
theorem ok38:FnOK Tryz.prog 38 Tryz.f38 e38 [.c 2 (some 5)] 1 12:=okA
def Z2d (x1:DK):Option DK:=
 (Zaa x1.DI).bind fun x2=>
 (Zj4 8 (([]:List Int)) x1.Need).bind fun x3=>
 some (DK.mk x2 x1.TH x3)
theorem Z3d (x1 r:DK) (h:Z2d x1=some r):Z03 Tryz.prog 38 [.agg (DK.row x1)] (.agg (DK.row r)):=by
 refine FP ok38 fun w0 H0=>?_
 rw [Z2d] at h
 refine Vg 9 ?_;have ⟨x2,ex2,h⟩:=Bs h;refine VC (Zba x1.DI _ ex2) (Vg 8 ?_);have ⟨x3,ex3,h⟩:=Bs h;refine Zu4 Z05 ex3 trivial rfl rfl rfl (Vg 8 ?_);refine Z17 1 ?_;dsimp only[go_sem];exact MD ok38 h
@[go_sem] def e10:EC:=(by have h:=hF Tryz.f10;(conv at h=>rhs;reduce);dsimp only[go_sem] at h;exact ⟨_,h⟩:DP Tryz.f10).1
theorem ok10:FnOK Tryz.prog 10 Tryz.f10 e10 [.t 2] 1 38:=okA
def Z4d:Bool→Option Bool
| x3=>
 some x3
def Z5d (x1:Node):Option Bool:=
 ifb (decide ((ln Side.row x1.DK.DI.SD)≤70)) (
 ifb (decide ((ln Z05 x1.DK.Need)≤70)) (
 ifb (decide ((ln KE.row x1.KN)≤70)) (
 ifb (decide ((ln Z05 x1.Told)≤70)) (
 ifb (decide ((ln KE.row x1.AK)≤70)) (
 (Zja x1.Book).bind fun x2=>
 Z4d x2) (
 Z4d false)) (
 Z4d false)) (
 Z4d false)) (
 Z4d false)) (
 Z4d false)
theorem k_narthexref18_Few (x1:Node) (r:Bool) (h:Z5d x1=some r):Z03 Tryz.prog 10 [.agg (Node.row x1)] (.bv r):=by
 refine FP ok10 fun w0 H0=>?_
 rw [Z5d] at h
 refine Vg 14 ?_;refine Zo4 (fun (x3:Bool)=>⟨(.any :: .any :: .bv x3::an 36 []),[],[]⟩) Z4d r ?_ fun J1=>?_
 ·intro x3 h;rw [Z4d] at h;(try dsimp only);exact MD ok10 h
 ·refine MC 9 h (fun h=>?_) fun h=>?_
  ·refine Vg 7 ?_;refine MC 16 h (fun h=>?_) fun h=>?_
   ·refine Vg 6 ?_;refine MC 22 h (fun h=>?_) fun h=>?_
    ·refine Vg 6 ?_;refine MC 28 h (fun h=>?_) fun h=>?_
     ·refine Vg 6 ?_;refine MC 34 h (fun h=>?_) fun h=>?_
      ·refine Vg 2 ?_;have ⟨x2,ex2,h⟩:=Bs h;refine VC (Zka x1.Book _ ex2) (Vg 3 ?_);exact Zx4 J1 h
      ·refine Vg 6 ?_;exact Zx4 J1 h
     ·refine Vg 12 ?_;exact Zx4 J1 h
    ·refine Vg 18 ?_;exact Zx4 J1 h
   ·refine Vg 24 ?_;exact Zx4 J1 h
  ·refine Vg 31 ?_;exact Zx4 J1 h
@[go_sem] def e63:EC:=(by have h:=hF Tryz.f63;(conv at h=>rhs;reduce);dsimp only[go_sem] at h;exact ⟨_,h⟩:DP Tryz.f63).1
theorem ok63:FnOK Tryz.prog 63 Tryz.f63 e63 [.t 4] 2 36:=okA
def Z6d:Bool→Option Bool
| x4=>
 some x4
def Z7d (x1 x2:Event):Option Bool:=
 ifb (decide (x1.Kind=x2.Kind)) (
 ifb (decide (x1.Node=x2.Node)) (
 ifb (decide (x1.ID=x2.ID)) (
 ifb (decide (x1.Peer=x2.Peer)) (
 (Zs8 x1.Need x2.Need).bind fun x3=>
 Z6d x3) (
 Z6d false)) (
 Z6d false)) (
 Z6d false)) (
 Z6d false)
theorem Z8d (x1 x2:Event) (r:Bool) (h:Z7d x1 x2=some r):Z03 Tryz.prog 63 [.agg (Event.row x1),.agg (Event.row x2)] (.bv r):=by
 refine FP ok63 fun w0 H0=>?_
 rw [Z7d] at h
 refine Vg 14 ?_;refine Zo4 (fun (x4:Bool)=>⟨an 4 (.bv x4::an 33 []),[],[]⟩) Z6d r ?_ fun J1=>?_
 ·intro x4 h;rw [Z6d] at h;(try dsimp only);exact MD ok63 h
 ·refine MC 10 h (fun h=>?_) fun h=>?_
  ·refine Vg 7 ?_;refine MC 17 h (fun h=>?_) fun h=>?_
   ·refine Vg 7 ?_;refine MC 24 h (fun h=>?_) fun h=>?_
    ·refine Vg 7 ?_;refine MC 31 h (fun h=>?_) fun h=>?_
     ·refine Vg 4 ?_;have ⟨x3,ex3,h⟩:=Bs h;refine VC (Zt8 x1.Need x2.Need _ ex3) (Vg 3 ?_);exact Zx4 J1 h
     ·refine Vg 8 ?_;exact Zx4 J1 h
    ·refine Vg 15 ?_;exact Zx4 J1 h
   ·refine Vg 22 ?_;exact Zx4 J1 h
  ·refine Vg 29 ?_;exact Zx4 J1 h
@[go_sem] def e186:EC:=(by have h:=hF Tryz.f186;(conv at h=>rhs;reduce);dsimp only[go_sem] at h;exact ⟨_,h⟩:DP Tryz.f186).1
theorem ok186:FnOK Tryz.prog 186 Tryz.f186 e186 [.t 2] 1 35:=okA
def Z9d:List Int→Option (List Int)
| x31=>
 some x31
def Zad (x1:(List (List Int))):(Int×List Int)→Option ((Int×List Int) ⊕ (List Int))
| (x21,x22)=>
 ifb (decide (x21<(ln (Z15 1 Z05) x1))) (
 (at_ x1 x21).bind fun x23=>
 (Zj4 8 x22 x23).bind fun x24=>
 some (.inl (wr (x21+1),x24))) (
 Option.map Sum.inr (Z9d x22))
def Zbd (x1:(List (List Int))):Int→Option (List Int)
| x15=>
 (Z2b x15).bind fun x16=>
 loop (Zad x1) (0,x16)
def Zcd (x5 x6:Int) (x7:List Int):Unit→Option ((Int×Int) ⊕ (List Int))
| ()=>
 some (.inl (wr (x5+(ln Z05 x7)),wr (x6+1)))
def Zdd (x1:(List (List Int))):(Int×Int)→Option ((Int×Int) ⊕ (List Int))
| (x5,x6)=>
 ifb (decide (x6<(ln (Z15 1 Z05) x1))) (
 (at_ x1 x6).bind fun x7=>
 ifb (decide ((wr (x5+(ln Z05 x7)))<0)) (
 none) (
 (Zcd x5 x6 x7) ())) (
 Option.map Sum.inr ((Zbd x1) x5))
def Zed (x1:(List (List Int))):Option (List Int):=
 loop (Zdd x1) (0,0)
theorem Zfd (x1:(List (List Int))) (r:List Int) (h:Zed x1=some r):FunO Tryz.prog 186 [.sl 1 (List.map (Z15 1 Z05) x1)] 3 1 (List.map Z05 r):=by
 refine Z65 ok186 rfl fun w0 H0=>?_
 rw [Zed] at h
 refine Vg 15 ?_;refine Zo4 (fun (x15:Int)=>⟨(.sl 1 (List.map (Z15 1 Z05) x1) :: .any :: .any :: .iv x15::an 32 []),[],[]⟩) (Zbd x1) r ?_ fun J1=>?_
 ·intro x15 h;rw [Zbd] at h;(try dsimp only);refine Vg 3 ?_;have ⟨x16,ex16,h⟩:=Bs h;refine Zs5 [] [] trivial (Z3b x15 _ ex16) (h:=?_);refine Vg 9 ?_;refine Zo4 (fun (x31:List Int)=>⟨an 6 (.osl 0::an 29 []),[],[Sq7 x31]⟩) Z9d r ?_ fun J3=>?_
  ·intro x31 h;rw [Z9d] at h;(try dsimp only);refine Vg 5 ?_;exact Zc5 Z05 ok186 h rfl rfl
  ·refine Vg 1 ?_;refine Zp4 h (fun ((x21,x22):(Int×List Int))=>⟨an 6 (.osl 0::an 18 (.sl 1 (List.map (Z15 1 Z05) x1) :: .iv (ln (Z15 1 Z05) x1) :: .iv x21::an 8 [])),[],[Sq7 x22]⟩) (by simp [go_sem]) (by rintro ⟨x21,x22⟩;first | rfl | simp [go_sem]) ?_;rintro n1 ⟨x21,x22⟩ y1 h hin1 hout1;rw [Zad] at h;(try dsimp only);refine Vg 5 ?_;refine MI h (fun h=>?_) fun h=>?_
   ·refine Vg 5 ?_;have ⟨x23,ex23,h⟩:=Bs h;refine Zs4 (Z15 1 Z05) ex23 trivial rfl rfl rfl (Vg 6 ?_);have ⟨x24,ex24,h⟩:=Bs h;refine Zu4 Z05 ex24 trivial rfl rfl rfl (Vg 7 ?_);refine Z07 1 0 ?_;dsimp only[go_sem];exact Zw4 h hin1
   ·refine Vg 1 ?_;exact Zx4 J3 (Zn4 h hout1)
 ·refine Vg 1 ?_;refine Zp4 h (fun ((x5,x6):(Int×Int))=>⟨(.sl 1 (List.map (Z15 1 Z05) x1) :: .any :: .any :: .iv x5::an 5 (.sl 1 (List.map (Z15 1 Z05) x1) :: .iv (ln (Z15 1 Z05) x1) :: .iv x6::an 24 [])),[],[]⟩) (by simp [go_sem]) (by rintro ⟨x5,x6⟩;first | rfl | simp [go_sem]) ?_;rintro n1 ⟨x5,x6⟩ y1 h hin1 hout1;rw [Zdd] at h;(try dsimp only);refine Vg 5 ?_;refine MI h (fun h=>?_) fun h=>?_
  ·refine Vg 5 ?_;have ⟨x7,ex7,h⟩:=Bs h;refine Zs4 (Z15 1 Z05) ex7 trivial rfl rfl rfl (Vg 16 ?_);refine Zo4 (fun (_:Unit)=>⟨(.sl 1 (List.map (Z15 1 Z05) x1) :: .any :: .any :: .iv (wr (x5+(ln Z05 x7)))::an 5 (.sl 1 (List.map (Z15 1 Z05) x1) :: .iv (ln (Z15 1 Z05) x1) :: .iv x6::an 24 [])),[],[]⟩) (Zcd x5 x6 x7) y1 ?_ fun J2=>?_
   ·rintro ⟨⟩ h;rw [Zcd] at h;(try dsimp only);refine Vg 5 ?_;exact Zw4 h hin1
   ·refine MI h (fun h=>?_) fun h=>?_
    ·cases h
    ·refine Vg 1 ?_;exact Zx4 J2 h
  ·refine Vg 1 ?_;exact Zx4 J1 (Zn4 h hout1)
@[go_sem] def e45:EC:=(by have h:=hF Tryz.f45;(conv at h=>rhs;reduce);dsimp only[go_sem] at h;exact ⟨_,h⟩:DP Tryz.f45).1
theorem ok45:FnOK Tryz.prog 45 Tryz.f45 e45 [.t 4] 2 6:=okA
def Zgd (x1:List Int) (x2:Int):Option Bool:=
 (Z4b x1 x2).bind fun x3=>
 some x3
theorem Zhd (x1:List Int) (x2:Int) (r:Bool) (h:Zgd x1 x2=some r):Z03 Tryz.prog 45 [Sp0 x1,.iv x2] (.bv r):=by
 refine FP ok45 fun w0 H0=>?_
 rw [Zgd] at h
 refine Vg 8 ?_;have ⟨x3,ex3,h⟩:=Bs h;refine VC (Z5b x1 x2 _ ex3) (Vg 2 ?_);exact MD ok45 h
def Zid:(Int×List Int)→Option (List Int)
| (x25,x26)=>
 (vw_ (ln Z05 x26) x25 (ln Z05 x26)).bind fun _=>
 (clr_ x26 (Int.toNat (x25)) (Int.toNat (ln Z05 x26)-Int.toNat (x25)) 0).bind fun x28=>
 (sub_ x28 0 x25).bind fun x29=>
 some x29
def Zjd (x12:Int):(Int×List Int)→Option ((Int×Int×List Int) ⊕ (List Int))
| (x17,x18)=>
 some (.inl (x17,wr (x12+1),x18))
def Zkd (p0:(Int→Option Bool)):(Int×Int×List Int)→Option ((Int×Int×List Int) ⊕ (List Int))
| (x11,x12,x13)=>
 ifb (decide (x12<(ln Z05 x13))) (
 (at_ x13 x12).bind fun x14=>
 (p0 x14).bind fun x15=>
 ifb (!x15) (
 (at_ x13 x11).bind fun _=>
 (Zjd x12) (wr (x11+1),x13.set (Int.toNat (x11)) x14)) (
 (Zjd x12) (x11,x13))) (
 Option.map Sum.inr (Zid (x11,x13)))
def Zld (x1:List Int) (p0:(Int→Option Bool)):Option (List Int):=
 (Zq7 x1 p0).bind fun x2=>
 ifb (decide (x2=((-1)))) (
 some x1) (
 loop (Zkd p0) (x2,wr (x2+1),x1))
theorem Zmd (x1:List Int) (g0:Nat) (caps0:List AV) (p0:(Int→Option Bool)) (hc0:CloOK Tryz.prog g0 caps0 (fun z=>[.iv z]) p0 (fun z=>.bv z)) (r:List Int) (h:Zld x1 p0=some r):Zq5 Tryz.prog 157 [.osl 0,.clo g0 caps0] [] [Sq7 x1] (.osl 1) [] [none,Sq7 r]:=by
 refine FT ok157 fun w0 M0=>?_
 rw [Zld] at h
 dsimp only[lun,List.cons_append,List.nil_append]
 refine Vg 8 ?_;have ⟨x2,ex2,h⟩:=Bs h;refine VL (LR.slice 0 rfl) (Zr7 x1 _ _ p0 hc0 _ ex2) ?_ (hp:=(by first | rfl | simp [go_sem,hc0.pu])) (ha:=(by first | exact Zi4 _ | simp [go_sem,Zg4 _ _ _ hc0.pu]));refine Vg 8 ?_;refine MI h (fun h=>?_) fun h=>?_
 ·refine Vg 5 ?_;refine Z37 3 1 ?_;dsimp only[go_sem];refine Z07 0 1 ?_;dsimp only[go_sem];(try rw [Zb6 _ _ _ hc0.pu]);obtain rfl:=Option.some.inj h;exact Z47 ok157
 ·refine Vg 8 ?_;refine Zo4 (fun ((x25,x26):(Int×List Int))=>⟨(.osl 0::an 4 (.iv x25::an 36 [])),[],[Sq7 x26]⟩) Zid r ?_ fun J1=>?_
  ·rintro ⟨x25,x26⟩ h;rw [Zid] at h;(try dsimp only);refine Vg 4 ?_;have ⟨x27,ex27,h⟩:=Bs h;refine V_viewM Z05 ex27 trivial rfl rfl rfl rfl ?_;have ⟨x28,ex28,h⟩:=Bs h;refine V_clrM Z05 ex28 trivial rfl rfl (by first | exact Zi4 _ | simp [go_sem]) (by first | rfl | simp [go_sem]) rfl rfl (Vg 5 ?_);have ⟨x29,ex29,h⟩:=Bs h;refine V_cutM Z05 ex29 trivial rfl rfl rfl rfl (Vg 2 ?_)
   obtain rfl:=Option.some.inj h;exact Z47 ok157
  ·refine Vg 1 ?_;refine Zp4 h (fun ((x11,x12,x13):(Int×Int×List Int))=>⟨(.osl 0 :: .clo g0 caps0::an 3 (.iv x11 :: .iv x12::an 35 [])),[],[Sq7 x13]⟩) (by simp [go_sem]) (by rintro ⟨x11,x12,x13⟩;first | rfl | simp [go_sem,Zh4 _ hc0.pu]) ?_;rintro n1 ⟨x11,x12,x13⟩ y1 h hin1 hout1;rw [Zkd] at h;(try dsimp only);refine Vg 8 ?_;refine MI h (fun h=>?_) fun h=>?_
   ·refine Vg 7 ?_;have ⟨x14,ex14,h⟩:=Bs h;refine Zd5 Z05 ex14 trivial rfl rfl rfl (Zf5 Z05 ex14 trivial rfl rfl rfl (Vg 6 ?_));have ⟨x15,ex15,h⟩:=Bs h;refine Zz4 trivial rfl hc0 (x:=x14) ex15 (by first | exact Zi4 _ | simp [go_sem]) (by first | rfl | simp [go_sem,hc0.pu]) (Vg 2 ?_)
    refine Zo4 (fun ((x17,x18):(Int×List Int))=>⟨(.osl 0 :: .clo g0 caps0::an 3 (.iv x17 :: .iv x12::an 35 [])),[],[Sq7 x18]⟩) (Zjd x12) y1 ?_ fun J2=>?_
    ·rintro ⟨x17,x18⟩ h;rw [Zjd] at h;(try dsimp only);refine Vg 6 ?_;exact Zw4 h hin1 (hok:=by first | rfl | simp [go_sem,Zh4 _ hc0.pu])
    ·refine MI h (fun h=>?_) fun h=>?_
     ·refine Vg 5 ?_;have ⟨x16,ex16,h⟩:=Bs h;refine Zd5 Z05 ex16 trivial rfl rfl rfl (Zk5 [.iv x14] Z05 (y':=x14) ex16 trivial rfl rfl rfl (by first | exact Zi4 _ | simp [go_sem]) rfl rfl rfl rfl (Vg 6 ?_));exact Zx4 J2 h (hok:=by first | rfl | simp [go_sem,Zh4 _ hc0.pu])
     ·refine Vg 1 ?_;exact Zx4 J2 h (hok:=by first | rfl | simp [go_sem,Zh4 _ hc0.pu])
   ·refine Vg 1 ?_;exact Zx4 J1 (Zn4 h hout1) (hok:=by first | rfl | simp [go_sem])
end
end NX
end Go.Proofs.YtdjkbodnjhgbcaaGreat
