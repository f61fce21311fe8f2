/-
  The function narthex/dine.Get, lent own memory. Written by a program of ours (lb.py). No statement of the seat is proved here.
-/
import Derived.Test.YtdjkbodnjhgbcaaGreatB25
set_option maxRecDepth 100000
set_option maxHeartbeats 4000000
namespace Go.Proofs.YtdjkbodnjhgbcaaGreat
namespace NX
open Go
noncomputable section
def Z5j (x1 x2:Int):(Bool×List Side)→Option (Int×Int×Int×List Side)
| (x12,x13)=>
 ifb x12 (
 some (0,0,132,([]:List Side))) (
 some (x1,x2,0,x13))
def Z6j (x1 x2 x7:Int) (x8:List Side) (x9:Side):Bool→Option (Int×Int×Int×List Side)
| x11=>
 ifb x11 (
 (Z5j x1 x2) (x9.Token,x8.set (Int.toNat (x7)) (Side.mk x9.Peer x9.Epoch x9.State x9.Fork x9.DY true x9.BO x9.Ask))) (
 some (0,0,133,([]:List Side)))
def Z7j (x1 x2:Int) (x4:Msg) (x7:Int) (x8:List Side) (x9:Side):Bool→Option (Int×Int×Int×List Side)
| x10=>
 ifb x10 (
 (Z5j x1 x2) (x9.Fork,x8.set (Int.toNat (x7)) (Side.mk x9.Peer x9.Epoch x9.State true x9.DY x9.Token x9.BO x9.Ask))) (
 ifb (decide (x4.Kind=2)) (
 (Z6j x1 x2 x7 x8 x9) (decide (x4.Num=0))) (
 (Z6j x1 x2 x7 x8 x9) false))
def Z8j (x1 x2 x3:Int) (x4:Msg) (x5:List Side):Option (Int×Int×Int×List Side):=
 (Zmg (DI.mk x1 x2 x5)).bind fun x6=>
 ifb (!decide (x6=0)) (
 some (0,0,x6,([]:List Side))) (
 (Zf7 x5 ((fun z=>Zj8 z x3 x4))).bind fun x7=>
 ifb (decide (x7<0)) (
 some (0,0,131,([]:List Side))) (
 (Zk8 x5).bind fun x8=>
 (at_ x8 x7).bind fun x9=>
 ifb (decide (x4.Kind=1)) (
 (Z7j x1 x2 x4 x7 x8 x9) (decide (x4.Num=0))) (
 (Z7j x1 x2 x4 x7 x8 x9) false)))
theorem t_dine_Get_I1 (x1 x2 x3:Int) (x4:Msg) (x5:List Side) (r:(Int×Int×Int×List Side)) (h:Z8j x1 x2 x3 x4 x5=some r):Zr5 Tryz.prog 136 [.agg [.iv x1,.iv x2,.osl 0],.iv x3,.agg (Msg.row x4)] [] [Sq6 x5] (.tup [.agg [.iv r.1,.iv r.2.1,.osl 1],.iv r.2.2.1]) [] [Sq6 x5,Sq6 r.2.2.2]:=by
 refine FT ok136 fun w0 M0=>?_
 rw [Z8j] at h
 dsimp only[lun,List.cons_append,List.nil_append]
 refine Zv2 12 ?_;dsimp only[go_sem];refine An ?_;have ⟨x6,ex6,h⟩:=Bs h;refine VL (LR.slice 0 rfl) (Zng (DI.mk x1 x2 x5) _ ex6) (Zv2 7 ?_);dsimp only[go_sem];refine An (MI h (fun h=>?_) fun h=>?_)
 ·refine Zv2 7 ?_;dsimp only[go_sem];refine An (Z37 3 2 65 8 ?_);dsimp only[go_sem];obtain rfl:=Option.some.inj h;exact Z57 ok136
 ·refine Zv2 6 ?_;dsimp only[go_sem];refine An ?_;have ⟨x7,ex7,h⟩:=Bs h;refine VL (((LR.slice 0 rfl).block 1 rfl rfl).block 2 rfl rfl) (Zg7 x5 _ _ ((fun z=>Zj8 z x3 x4)) ⟨by kernel_rfl,rfl,fun z r hz=>k_dine_Get_1 z x3 x4 r hz⟩ _ ex7) (Zv2 8 ?_);dsimp only[go_sem];refine An (MI h (fun h=>?_) fun h=>?_)
  ·refine Zv2 6 ?_;dsimp only[go_sem];refine An (Z37 3 2 65 8 ?_);dsimp only[go_sem];obtain rfl:=Option.some.inj h;exact Z57 ok136
  ·refine Zv2 5 ?_;dsimp only[go_sem];refine An ?_;have ⟨x8,ex8,h⟩:=Bs h;refine Z77 [] [0] 4 1 (Zxb x5 _ ex8) ?_;dsimp only[go_sem];refine Zv2 8 ?_;dsimp only[go_sem];refine An ?_;have ⟨x9,ex9,h⟩:=Bs h;refine Ze5 Side.row ex9 trivial rfl rfl rfl (Zv2 14 ?_);dsimp only[go_sem];refine An ?_
   refine Zo4 (fun (x10:Bool)=>(⟨an 3 (.ptr 0 0 :: .any :: .ptr 2 0 :: .ptr 3 0::an 3 (.oel 1 (Int.toNat (x7)*8) 0::an 23 (.bv x10::an 34 []))),[some ⟨25,[.iv x1,.iv x2,.osl 1]⟩,none,some ⟨41,Msg.row x4⟩,some ⟨25,[.iv 0,.iv 0,.nl]⟩],[Sq6 x5,Sq6 x8]⟩:St)) (Z7j x1 x2 x4 x7 x8 x9) r ?_ fun J1=>?_
   ·intro x10 h;rw [Z7j] at h;(try dsimp only);refine Zo4 (fun ((x12,x13):(Bool×List Side))=>(⟨an 3 (.ptr 0 0 :: .any :: .any :: .ptr 3 0::an 4 (.bv x12::an 57 [])),[some ⟨25,[.iv x1,.iv x2,.osl 1]⟩,none,none,some ⟨25,[.iv 0,.iv 0,.nl]⟩],[Sq6 x5,Sq6 x13]⟩:St)) (Z5j x1 x2) r ?_ fun J2=>?_
    ·rintro ⟨x12,x13⟩ h;rw [Z5j] at h;(try dsimp only);refine Zv2 6 ?_;dsimp only[go_sem];refine An (MI h (fun h=>?_) fun h=>?_)
     ·refine Zv2 6 ?_;dsimp only[go_sem];refine An (Z37 3 2 65 8 ?_);dsimp only[go_sem];refine Z17 2 1 ?_;dsimp only[go_sem];obtain rfl:=Option.some.inj h;exact Z57 ok136
     ·refine Zv2 7 ?_;dsimp only[go_sem];refine An ?_;obtain rfl:=Option.some.inj h;exact Z57 ok136
    ·refine MI h (fun h=>?_) fun h=>?_
     ·refine Zv2 5 ?_;dsimp only[go_sem];refine An (Zg5 Side.row ex9 trivial rfl rfl rfl (Zv2 3 ?_));dsimp only[go_sem];refine An (Zl5 [.bv true] Side.row (y':=(Side.mk x9.Peer x9.Epoch x9.State true x9.DY x9.Token x9.BO x9.Ask)) ex9 trivial rfl rfl rfl (by first | exact Zi4 _ | simp [go_sem]) rfl rfl rfl rfl (Zv2 1 ?_));dsimp only[go_sem];refine An ?_;exact Zy4 J2 (s:=(x9.Fork,x8.set (Int.toNat (x7)) (Side.mk x9.Peer x9.Epoch x9.State true x9.DY x9.Token x9.BO x9.Ask))) h
     ·refine Zv2 6 ?_;dsimp only[go_sem];refine An (Zo4 (fun (x11:Bool)=>(⟨an 3 (.ptr 0 0 :: .any :: .any :: .ptr 3 0::an 3 (.oel 1 (Int.toNat (x7)*8) 0::an 39 (.bv x11::an 18 []))),[some ⟨25,[.iv x1,.iv x2,.osl 1]⟩,none,none,some ⟨25,[.iv 0,.iv 0,.nl]⟩],[Sq6 x5,Sq6 x8]⟩:St)) (Z6j x1 x2 x7 x8 x9) r ?_ fun J3=>?_)
      ·intro x11 h;rw [Z6j] at h;(try dsimp only);refine MI h (fun h=>?_) fun h=>?_
       ·refine Zv2 5 ?_;dsimp only[go_sem];refine An (Zg5 Side.row ex9 trivial rfl rfl rfl (Zv2 3 ?_));dsimp only[go_sem];refine An (Zl5 [.bv true] Side.row (y':=(Side.mk x9.Peer x9.Epoch x9.State x9.Fork x9.DY true x9.BO x9.Ask)) ex9 trivial rfl rfl rfl (by first | exact Zi4 _ | simp [go_sem]) rfl rfl rfl rfl (Zv2 1 ?_));dsimp only[go_sem];refine An ?_;exact Zy4 J2 (s:=(x9.Token,x8.set (Int.toNat (x7)) (Side.mk x9.Peer x9.Epoch x9.State x9.Fork x9.DY true x9.BO x9.Ask))) h
       ·refine Zv2 6 ?_;dsimp only[go_sem];refine An (Z37 3 2 65 8 ?_);dsimp only[go_sem];refine Z17 2 1 ?_;dsimp only[go_sem];obtain rfl:=Option.some.inj h;exact Z57 ok136
      ·refine MC 54 h (fun h=>?_) fun h=>?_
       ·dsimp only[go_sem];refine Zv2 6 ?_;dsimp only[go_sem];refine An ?_;exact Zy4 J3 (s:=decide (x4.Num=0)) h
       ·dsimp only[go_sem];refine Zv2 6 ?_;dsimp only[go_sem];refine An ?_;exact Zy4 J3 (s:=false) h
   ·refine MC 38 h (fun h=>?_) fun h=>?_
    ·dsimp only[go_sem];refine Zv2 6 ?_;dsimp only[go_sem];refine An ?_;exact Zy4 J1 (s:=decide (x4.Num=0)) h
    ·dsimp only[go_sem];refine Zv2 6 ?_;dsimp only[go_sem];refine An ?_;exact Zy4 J1 (s:=false) h
@[go_sem] def e75:EC:=(by have h:=hF Tryz.f75;(conv at h=>rhs;reduce);dsimp only[go_sem] at h;exact ⟨_,h⟩:DP Tryz.f75).1
theorem ok75:FnOK Tryz.prog 75 Tryz.f75 e75 [] 1 19:=okA
def Z9j (x1 x2 x3:Int) (x4:List Side) (x5:List Int):Option (Int×Int×Int×List Side):=
 (Zwh (DK.mk (DI.mk x1 x2 x4) x3 x5)).bind fun x6=>
 ifb (!decide (x6=0)) (
 some (0,0,x6,([]:List Side))) (
 ifb (decide (x3=0)) (
 some (0,0,152,([]:List Side))) (
 (Zhe x1 x2 x3 x4 x5).bind fun x7=>
 some (x1,x2,0,x7.1)))
theorem Zaj (x1 x2 x3:Int) (x4:List Side) (x5:List Int) (r:(Int×Int×Int×List Side)) (h:Z9j x1 x2 x3 x4 x5=some r):Zr5 Tryz.prog 117 [.agg [.iv x1,.iv x2,.osl 0,.iv x3,.osl 1]] [] [Sq6 x4,Sq7 x5] (.tup [.agg [.iv r.1,.iv r.2.1,.osl 2,.iv 0,.nl],.iv r.2.2.1]) [] [Sq6 x4,Sq7 x5,Sq6 r.2.2.2]:=by
 refine FT ok117 fun w0 M0=>?_
 rw [Z9j] at h
 dsimp only[lun,List.cons_append,List.nil_append]
 refine Zv2 10 ?_;dsimp only[go_sem];refine An ?_;have ⟨x6,ex6,h⟩:=Bs h;refine VL ((LR.slice 0 rfl).slice 1 rfl) (Zxh (DK.mk (DI.mk x1 x2 x4) x3 x5) _ ex6) (Zv2 7 ?_);dsimp only[go_sem];refine An (MI h (fun h=>?_) fun h=>?_)
 ·refine Zv2 7 ?_;dsimp only[go_sem];refine An (Z37 1 2 65 8 ?_);dsimp only[go_sem];obtain rfl:=Option.some.inj h;exact Z57 ok117
 ·refine Zv2 8 ?_;dsimp only[go_sem];refine An (MI h (fun h=>?_) fun h=>?_)
  ·refine Zv2 6 ?_;dsimp only[go_sem];refine An (Z37 1 2 65 8 ?_);dsimp only[go_sem];obtain rfl:=Option.some.inj h;exact Z57 ok117
  ·refine Zv2 4 ?_;dsimp only[go_sem];refine An ?_;have ⟨x7,ex7,h⟩:=Bs h;refine Z77 [] [0,1] 2 2 (Zie x1 x2 x3 x4 x5 _ ex7) ?_;dsimp only[go_sem];refine Zv2 15 ?_;dsimp only[go_sem];refine An ?_;obtain rfl:=Option.some.inj h;exact Z57 ok117
@[go_sem] def e83:EC:=(by have h:=hF Tryz.f83;(conv at h=>rhs;reduce);dsimp only[go_sem] at h;exact ⟨_,h⟩:DP Tryz.f83).1
theorem ok83:FnOK Tryz.prog 83 Tryz.f83 e83 [.c 4 (some 2),.t 5,.t 6] 2 22:=okA
def Zbj (x1:Book) (x2:Int):Option (Book×List Int×Int):=
 (Zrf x1).bind fun x3=>
 ifb (!decide (x3=0)) (
 some ((Book.mk 0 (([]:List Sess))),([]:List Int),x3)) (
 (Zqd x1).bind fun x4=>
 (Zsi x2 x4).bind fun x5=>
 some ((Book.mk x1.Last x5.2),x5.1,0))
theorem k_sess_Gone (x1:Book) (x2:Int) (r:(Book×List Int×Int)) (h:Zbj x1 x2=some r):Z03 Tryz.prog 83 [.agg (Book.row x1),.iv x2] (.tup [.agg (Book.row r.1),Sp0 r.2.1,.iv r.2.2]):=by
 refine FP ok83 fun w0 H0=>?_
 rw [Zbj] at h
 refine Zv2 12 ?_;dsimp only[go_sem];refine An ?_;have ⟨x3,ex3,h⟩:=Bs h;refine VC (Zsf x1 _ ex3) (Zv2 7 ?_);dsimp only[go_sem];refine An (MI h (fun h=>?_) fun h=>?_)
 ·refine Zv2 8 ?_;dsimp only[go_sem];refine An ?_;exact Zw4 (res:=fun (r:(Book×List Int×Int))=>.tup [.agg (Book.row r.1),Sp0 r.2.1,.iv r.2.2]) ok83 h
 ·refine Zv2 8 ?_;dsimp only[go_sem];refine An ?_;have ⟨x4,ex4,h⟩:=Bs h;refine Z77 [] [] 4 0 (Zrd x1 _ ex4) ?_;dsimp only[go_sem];refine Zv2 7 ?_;dsimp only[go_sem];refine An ?_;have ⟨x5,ex5,h⟩:=Bs h;refine Z77 [1,3] [0] 4 1 (Zti x2 x4 _ ex5) ?_;dsimp only[go_sem];refine Zv2 4 ?_;dsimp only[go_sem];refine An (Z07 fun all H=>?_);dsimp only[go_sem]
  refine Z74 0 1 rfl ?_ ?_
  ·refine GV H.1 ?_;dsimp only[go_sem];refine Z74 1 2 rfl ?_ ?_
   ·refine GV H.1 ?_;dsimp only[go_sem];refine GE H.1 2 ?_;dsimp only[go_sem];refine GN H 2 0 ?_;dsimp only[go_sem];refine An (GD (Z27 2 ?_));dsimp only[go_sem];refine Z27 1 ?_;dsimp only[go_sem];exact Zw4 (res:=fun (r:(Book×List Int×Int))=>.tup [.agg (Book.row r.1),Sp0 r.2.1,.iv r.2.2]) ok83 h
   ·refine GV H.1 ?_;dsimp only[go_sem];refine GE H.1 1 ?_;dsimp only[go_sem];refine GN H 2 0 ?_;dsimp only[go_sem];refine An (GD (Z27 2 ?_));dsimp only[go_sem];refine Z27 1 ?_;dsimp only[go_sem];exact Zw4 (res:=fun (r:(Book×List Int×Int))=>.tup [.agg (Book.row r.1),Sp0 r.2.1,.iv r.2.2]) ok83 h
  ·refine GV H.1 ?_;dsimp only[go_sem];refine GE H.1 0 ?_;dsimp only[go_sem];refine GE H.1 2 ?_;dsimp only[go_sem];refine GN H 2 0 ?_;dsimp only[go_sem];refine An (GD (Z27 2 ?_));dsimp only[go_sem];refine Z27 1 ?_;dsimp only[go_sem];exact Zw4 (res:=fun (r:(Book×List Int×Int))=>.tup [.agg (Book.row r.1),Sp0 r.2.1,.iv r.2.2]) ok83 h
def Zcj (x1 x3:Int) (x4:List Side) (x5:List Int) (x6:List Mail):Int→Option (Int×Int×Int×List Side×List Mail)
| x10=>
 (Zli (DI.mk x1 x10 x4)).bind fun x11=>
 (Zj4 40 x6 x11.2.2.2.2).bind fun x12=>
 (Zah x11.1 x11.2.1 x3 x11.2.2.2.1 x5 x12).bind fun x13=>
 some (x11.1,x11.2.1,x13.1,x13.2.1,x13.2.2)
def Zdj (x1 x2 x3:Int) (x4:List Side) (x5:List Int) (x6:List Mail):Bool→Option (Int×Int×Int×List Side×List Mail)
| x9=>
 ifb x9 (
 (Zcj x1 x3 x4 x5 x6) 0) (
 (Zcj x1 x3 x4 x5 x6) x2)
def Zej (x1 x2 x3:Int) (x4:List Side) (x5:List Int) (x6:List Mail):Bool→Option (Int×Int×Int×List Side×List Mail)
| x7=>
 ifb x7 (
 (Zcj x1 x3 x4 x5 x6) 1) (
 ifb (decide (x2=2)) (
 ifb (!decide (x3=1)) (
 (Zqa x4 ((fun z=>Zm8 z))).bind fun x8=>
 (Zdj x1 x2 x3 x4 x5 x6) (!x8)) (
 (Zdj x1 x2 x3 x4 x5 x6) false)) (
 (Zdj x1 x2 x3 x4 x5 x6) false))
def Zfj (x1 x2 x3:Int) (x4:List Side) (x5:List Int) (x6:List Mail):Option (Int×Int×Int×List Side×List Mail):=
 ifb (decide (x3=1)) (
 (Zej x1 x2 x3 x4 x5 x6) (decide (x2=0))) (
 (Zej x1 x2 x3 x4 x5 x6) false)
theorem Zgj (x1 x2 x3:Int) (x4:List Side) (x5:List Int) (x6:List Mail) (r:(Int×Int×Int×List Side×List Mail)) (h:Zfj x1 x2 x3 x4 x5 x6=some r):Zr5 Tryz.prog 154 [.ptr 0 0] [some ⟨178,[.iv x1,.iv x2,.osl 0,.iv x3,.osl 1,.osl 2]⟩] [Sq6 x4,Sq7 x5,Zb7 x6] (.tup []) [some ⟨178,[.iv r.1,.iv r.2.1,.osl 3,.iv r.2.2.1,.osl 1,.osl 7]⟩] [none,Sq7 x5,none,Sq6 r.2.2.2.1,none,none,none,Zb7 r.2.2.2.2]:=by
 refine FT ok154 fun w0 M0=>?_
 rw [Zfj] at h
 dsimp only[lun,List.cons_append,List.nil_append]
 refine Zv2 15 ?_;dsimp only[go_sem];refine An (Zo4 (fun (x7:Bool)=>(⟨(.ptr 0 0 :: .any :: .clo 173 []::an 3 (.bv x7::an 78 [])),[some ⟨178,[.iv x1,.iv x2,.osl 0,.iv x3,.osl 1,.osl 2]⟩],[Sq6 x4,Sq7 x5,Zb7 x6]⟩:St)) (Zej x1 x2 x3 x4 x5 x6) r ?_ fun J1=>?_)
 ·intro x7 h;rw [Zej] at h;(try dsimp only);refine Zo4 (fun (x10:Int)=>(⟨(.ptr 0 0::an 84 []),[some ⟨178,[.iv x1,.iv x10,.osl 0,.iv x3,.osl 1,.osl 2]⟩],[Sq6 x4,Sq7 x5,Zb7 x6]⟩:St)) (Zcj x1 x3 x4 x5 x6) r ?_ fun J2=>?_
  ·intro x10 h;rw [Zcj] at h;(try dsimp only);refine Zv2 8 ?_;dsimp only[go_sem];refine An (Z27 0 ?_);dsimp only[go_sem];have ⟨x11,ex11,h⟩:=Bs h;refine Z77 [] [] 1 3 (Zmi (DI.mk x1 x10 x4) _ ex11) ?_;dsimp only[go_sem];refine Zv2 26 ?_;dsimp only[go_sem];refine An ?_;have ⟨x12,ex12,h⟩:=Bs h;refine Zu4 Mail.row ex12 trivial rfl rfl rfl (Zv2 6 ?_);dsimp only[go_sem];refine An ?_;have ⟨x13,ex13,h⟩:=Bs h
   refine Z77 [0] [3,1,5] 2 6 (Zbh x11.1 x11.2.1 x3 x11.2.2.2.1 x5 x12 _ ex13) ?_;dsimp only[go_sem];refine Zv2 1 ?_;dsimp only[go_sem];refine An ?_;obtain rfl:=Option.some.inj h;exact Z67 ok154
  ·refine MI h (fun h=>?_) fun h=>?_
   ·refine Zv2 8 ?_;dsimp only[go_sem];refine An ?_;exact Zy4 J2 (s:=1) h
   ·refine Zv2 10 ?_;dsimp only[go_sem];refine An (Zo4 (fun (x9:Bool)=>(⟨(.ptr 0 0::an 26 (.bv x9::an 57 [])),[some ⟨178,[.iv x1,.iv x2,.osl 0,.iv x3,.osl 1,.osl 2]⟩],[Sq6 x4,Sq7 x5,Zb7 x6]⟩:St)) (Zdj x1 x2 x3 x4 x5 x6) r ?_ fun J3=>?_)
    ·intro x9 h;rw [Zdj] at h;(try dsimp only);refine MI h (fun h=>?_) fun h=>?_
     ·refine Zv2 8 ?_;dsimp only[go_sem];refine An ?_;exact Zy4 J2 (s:=0) h
     ·refine Zv2 1 ?_;dsimp only[go_sem];refine An ?_;exact Zy4 J2 (s:=x2) h
    ·refine MC 35 h (fun h=>?_) fun h=>?_
     ·dsimp only[go_sem];refine Zv2 8 ?_;dsimp only[go_sem];refine An (MC 43 h (fun h=>?_) fun h=>?_)
      ·dsimp only[go_sem];refine Zv2 7 ?_;dsimp only[go_sem];refine An ?_;have ⟨x8,ex8,h⟩:=Bs h;refine VL (LR.slice 0 rfl) (Zra x4 _ _ ((fun z=>Zm8 z)) ⟨by kernel_rfl,rfl,fun z r hz=>Zn8 z r hz⟩ _ ex8) (Zv2 4 ?_);dsimp only[go_sem];refine An ?_;exact Zy4 J3 (s:=!x8) h
      ·dsimp only[go_sem];refine Zv2 12 ?_;dsimp only[go_sem];refine An ?_;exact Zy4 J3 (s:=false) h
     ·dsimp only[go_sem];refine Zv2 20 ?_;dsimp only[go_sem];refine An ?_;exact Zy4 J3 (s:=false) h
 ·refine MC 13 h (fun h=>?_) fun h=>?_
  ·dsimp only[go_sem];refine Zv2 10 ?_;dsimp only[go_sem];refine An ?_;exact Zy4 J1 (s:=decide (x2=0)) h
  ·dsimp only[go_sem];refine Zv2 10 ?_;dsimp only[go_sem];refine An ?_;exact Zy4 J1 (s:=false) h
def Zhj:(List Side×List KE×List Mail×List Event)→Option (List Side×List KE×List Mail×List Event)
| (x52,x53,x54,x55)=>
 some (x52,x53,x54,x55)
def Zij (x1 x2:Int) (x3 x4:Int) (x5:List Sess) (x6:List Int) (x7:Int) (x9:List Int) (x11:List KE):(Int×List Side×List KE×List Mail×List Event)→Option ((Int×List Side×List KE×List Mail×List Event) ⊕ (List Side×List KE×List Mail×List Event))
| (x23,x24,x25,x26,x27)=>
 ifb (decide (x23<(ln KE.row x11))) (
 (at_ x11 x23).bind fun x28=>
 (Z0j (Side.mk x28.Peer x28.Epoch 0 false false true false true) x1 x2 x3 x4 x5 x6 x7 x24 x9 x25 x11 x26 x27).bind fun x29=>
 (Zqc (Side.mk x28.Peer x28.Epoch 0 false false true false true) 6 x1 x2 x3 x4 x5 x6 x7 x29.1 x9 x29.2 x11 x26 x27).bind fun x30=>
 (Zsc 6 x28.Peer x1 x2 x3 x4 x5 x6 x7 x29.1 x9 x29.2 x11 x30 x27).bind fun x31=>
 some (.inl (wr (x23+1),x29.1,x29.2,x30,x31))) (
 Option.map Sum.inr (Zhj (x24,x25,x26,x27)))
def Zjj (x1 x2:Int) (x3 x4:Int) (x5:List Sess) (x6:List Int) (x7:Int) (x8:List Side) (x9:List Int) (x10 x11:List KE) (x12:List Mail) (x13:List Event):Option (List Side×List KE×List Mail×List Event):=
 loop (Zij x1 x2 x3 x4 x5 x6 x7 x9 x11) (0,x8,x10,x12,x13)
theorem Zkj (x1 x2:Int) (x3 x4:Int) (x5:List Sess) (x6:List Int) (x7:Int) (x8:List Side) (x9:List Int) (x10 x11:List KE) (x12:List Mail) (x13:List Event) (r:(List Side×List KE×List Mail×List Event)) (h:Zjj x1 x2 x3 x4 x5 x6 x7 x8 x9 x10 x11 x12 x13=some r):Zr5 Tryz.prog 127 [.ptr 0 0] [some ⟨81,[.iv x1,.iv x2,.osl 0,.iv x3,.osl 1,.iv x4,Sp3 x5,.osl 2,Sp0 x6,.osl 3,.osl 4,.osl 5,.iv x7]⟩] [Sq6 x8,Sq7 x9,Sq8 x10,Sq8 x11,Zb7 x12,Za7 x13] (.tup []) [some ⟨81,[.iv x1,.iv x2,.osl 7,.iv x3,.osl 1,.iv x4,Sp3 x5,.osl 9,Sp0 x6,.nl,.osl 11,.osl 13,.iv x7]⟩] [none,Sq7 x9,none,Sq8 x11,none,none,none,Sq6 r.1,none,Sq8 r.2.1,none,Zb7 r.2.2.1,none,Za7 r.2.2.2]:=by
 refine FT ok127 fun w0 M0=>?_
 rw [Zjj] at h
 dsimp only[lun,List.cons_append,List.nil_append]
 refine Zv2 11 ?_;dsimp only[go_sem];refine An ?_
 refine Zo4 (fun ((x52,x53,x54,x55):(List Side×List KE×List Mail×List Event))=>(⟨(.ptr 0 0::an 34 []),[some ⟨81,[.iv x1,.iv x2,.osl 7,.iv x3,.osl 1,.iv x4,Sp3 x5,.osl 9,Sp0 x6,.osl 3,.osl 11,.osl 13,.iv x7]⟩],[none,Sq7 x9,none,Sq8 x11,none,none,none,Sq6 x52,none,Sq8 x53,none,Zb7 x54,none,Za7 x55]⟩:St)) Zhj r ?_ fun J1=>?_
 ·rintro ⟨x52,x53,x54,x55⟩ h;rw [Zhj] at h;(try dsimp only);refine Zv2 7 ?_;dsimp only[go_sem];refine An ?_;obtain rfl:=Option.some.inj h;exact Z67 ok127
 ·refine Zv2 1 ?_;dsimp only[go_sem];refine An (Z47 74 5 ?_);dsimp only[go_sem];refine Z47 74 5 ?_;dsimp only[go_sem];refine Z47 74 5 ?_;dsimp only[go_sem];refine Z47 74 5 ?_;dsimp only[go_sem];refine Z47 74 5 ?_;dsimp only[go_sem];refine Z47 74 5 ?_;dsimp only[go_sem];refine Z17 4 11 ?_;dsimp only[go_sem];refine Z47 57 5 ?_;dsimp only[go_sem];refine Z47 57 5 ?_;dsimp only[go_sem];refine Z17 5 13 (Z17 0 7 ?_);dsimp only[go_sem]
  refine Z17 2 9 ?_;dsimp only[go_sem]
  refine Zp4 h (fun ((x23,x24,x25,x26,x27):(Int×List Side×List KE×List Mail×List Event))=>(⟨(.ptr 0 0::an 8 (.osl 3 :: .iv (ln KE.row x11) :: .iv x23::an 23 [])),[some ⟨81,[.iv x1,.iv x2,.osl 7,.iv x3,.osl 1,.iv x4,Sp3 x5,.osl 9,Sp0 x6,.osl 3,.osl 11,.osl 13,.iv x7]⟩],[none,Sq7 x9,none,Sq8 x11,none,none,none,Sq6 x24,none,Sq8 x25,none,Zb7 x26,none,Za7 x27]⟩:St)) (by simp [go_sem]) (by rintro ⟨x23,x24,x25,x26,x27⟩;first | rfl | simp [go_sem]) ?_
  rintro n1 ⟨x23,x24,x25,x26,x27⟩ y1 h hin1 hout1;rw [Zij] at h;(try dsimp only);refine Zv2 5 ?_;dsimp only[go_sem];refine An (MI h (fun h=>?_) fun h=>?_)
  ·refine Zv2 5 ?_;dsimp only[go_sem];refine An ?_;have ⟨x28,ex28,h⟩:=Bs h;refine Ze5 KE.row ex28 trivial rfl rfl rfl (Zh5 KE.row ex28 trivial rfl rfl rfl (Zv2 17 ?_));dsimp only[go_sem];refine An ?_;have ⟨x29,ex29,h⟩:=Bs h
   refine Z77 [0] [7,1,9,3,11,13] 3 14 (Z1j (Side.mk x28.Peer x28.Epoch 0 false false true false true) x1 x2 x3 x4 x5 x6 x7 x24 x9 x25 x11 x26 x27 _ ex29) ?_;dsimp only[go_sem];refine Zv2 5 ?_;dsimp only[go_sem];refine An ?_;have ⟨x30,ex30,h⟩:=Bs h
   refine Z77 [0] [15,1,17,3,11,13] 3 18 (Zrc (Side.mk x28.Peer x28.Epoch 0 false false true false true) 6 x1 x2 x3 x4 x5 x6 x7 x29.1 x9 x29.2 x11 x26 x27 _ ex30) ?_;dsimp only[go_sem];refine Zv2 5 ?_;dsimp only[go_sem];refine An ?_;have ⟨x31,ex31,h⟩:=Bs h
   refine Z77 [0] [15,1,17,3,19,13] 3 20 (Ztc 6 x28.Peer x1 x2 x3 x4 x5 x6 x7 x29.1 x9 x29.2 x11 x30 x27 _ ex31) ?_;dsimp only[go_sem];refine Zv2 6 ?_;dsimp only[go_sem];refine An (Z17 19 11 (Z17 21 13 ?_));dsimp only[go_sem];refine Z17 15 7 (Z17 17 9 ?_)
   dsimp only[go_sem];exact Zx4 h hin1
  ·refine Zv2 1 ?_;dsimp only[go_sem];refine An ?_;exact Zy4 J1 (s:=(x24,x25,x26,x27)) (Zn4 h hout1)
def Zlj:(Bool×Int)→Option (Bool×Int)
| (x8,x9)=>
 some (x8,x9)
def Zmj (x1:Node) (x2:Int) (p0:(Side→Option Bool)):Option (Bool×Int):=
 ifb (decide (x1.DK.DI.ID<64)) (
 (Z3g x1.KN x2).bind fun x3=>
 ifb (!x3.1) (
 (Zqa x1.DK.DI.SD p0).bind fun x4=>
 ifb (!x4) (
 (Z88 x1.Told).bind fun x5=>
 ifb x5 (
 (Z09 x1 ((fun z=>Zl9 z))).bind fun x6=>
 (Zmh x1.Told x6).bind fun x7=>
 Zlj (x7,x3.2)) (
 Zlj (false,x3.2))) (
 Zlj (false,x3.2))) (
 Zlj (false,x3.2))) (
 Zlj (false,x2))
theorem Znj (x1:Node) (x2:Int) (g0:Nat) (caps0:List AV) (p0:(Side→Option Bool)) (hc0:CloOK Tryz.prog g0 caps0 (fun z=>[.agg (Side.row z)]) p0 (fun z=>.bv z)) (r:(Bool×Int)) (h:Zmj x1 x2 p0=some r):Zr5 Tryz.prog 104 [.agg (Node.row x1),.clo 102 [.ptr 0 0],.clo g0 caps0] [some ⟨3,[.iv x2]⟩] [] (.bv r.1) [some ⟨3,[.iv r.2]⟩] []:=by
 refine FT ok104 fun w0 M0=>?_
 rw [Zmj] at h
 dsimp only[lun,List.cons_append,List.nil_append]
 refine Zv2 6 ?_;dsimp only[go_sem];refine An (Zo4 (fun ((x8,x9):(Bool×Int))=>(⟨an 6 (.bv x8::an 33 []),[some ⟨3,[.iv x9]⟩],[]⟩:St)) Zlj r ?_ fun J1=>?_)
 ·rintro ⟨x8,x9⟩ h;rw [Zlj] at h;(try dsimp only);obtain rfl:=Option.some.inj h;exact Z57 ok104
 ·refine Z07 fun all H=>?_;dsimp only[go_sem];refine GP H 6 28 [6,28] [(7,[.ptr 1 0,.ptr 1 0,.ptr 1 0,.iv x1.DK.DI.ID,.bv (decide (x1.DK.DI.ID<64)),.bv (decide (x1.DK.DI.ID<64))])] ?_;dsimp only[go_sem];refine Z35 12 h rfl (fun _ h=>?_) fun _ h=>?_
  ·dsimp only[go_sem];refine GP H 3 25 [9,25] [(13,[.ptr 1 7,Sp1 x1.KN,.clo 102 [.ptr 0 0]])] ?_;dsimp only[go_sem];refine Z64 9 rfl ?_;have ⟨x3,ex3,h⟩:=Bs h;refine GO_callTF H.1 (by kernel_rfl) [true,false] [] rfl trivial (Zz6 [0] [] 2 0 (Z4g x1.KN x2 _ ex3)) (ha:=(by first | exact Zi4 _ | simp [go_sem,rnFL_pu _ _ _ _ _ hc0.pu])) (h:=?_);dsimp only[go_sem];refine GP H 3 21 [13,21] [(17,[.bv (!x3.1),.bv (!x3.1),.bv (!x3.1)])] ?_
   dsimp only[go_sem];refine Z35 19 h rfl (fun _ h=>?_) fun _ h=>?_
   ·dsimp only[go_sem];refine GP H 5 16 [18,16] [(20,[.ptr 1 0,.ptr 1 0,.ptr 1 2,Sp2 x1.DK.DI.SD,.clo g0 caps0])] ?_;dsimp only[go_sem];refine Z64 18 rfl ?_;have ⟨x4,ex4,h⟩:=Bs h;refine GC H.1 (Zra x1.DK.DI.SD _ _ p0 hc0 _ ex4) ?_ (hp:=(by first | rfl | simp [go_sem,hc0.pu]));dsimp only[go_sem];refine GP H 3 12 [22,12] [(26,[.bv (!x4),.bv (!x4),.bv (!x4)])] ?_;dsimp only[go_sem]
    refine Z35 28 h rfl (fun _ h=>?_) fun _ h=>?_
    ·dsimp only[go_sem];refine GP H 2 10 [24,10] [(29,[.ptr 1 8,Sp0 x1.Told])] ?_;dsimp only[go_sem];refine Z64 24 rfl ?_;have ⟨x5,ex5,h⟩:=Bs h;refine GC H.1 (Z98 x1.Told _ ex5) ?_ (hp:=(by first | rfl | simp [go_sem,hc0.pu]));dsimp only[go_sem];refine GP H 2 7 [27,7] [(32,[.bv x5,.bv x5])] ?_;dsimp only[go_sem];refine Z35 33 h rfl (fun _ h=>?_) fun _ h=>?_
     ·dsimp only[go_sem];refine GP H 3 4 [30,4] [(34,[.ptr 1 8,Sp0 x1.Told,.agg (Node.row x1)])] ?_;dsimp only[go_sem];refine Z64 30 rfl ?_;have ⟨x6,ex6,h⟩:=Bs h
      refine GC H.1 (Z19 x1 _ _ ((fun z=>Zl9 z)) ⟨by kernel_rfl,rfl,fun z r hz=>Zm9 z r hz⟩ _ ex6) ?_ (hp:=(by first | rfl | simp [go_sem,hc0.pu]));dsimp only[go_sem];refine Z64 31 rfl ?_;have ⟨x7,ex7,h⟩:=Bs h;refine GC H.1 (Znh x1.Told x6 _ ex7) ?_ (hp:=(by first | rfl | simp [go_sem,hc0.pu]));dsimp only[go_sem];refine GP H 2 0 [34] [(6,[.bv x7]),(32,[.bv x7])] ?_;dsimp only[go_sem];refine GD ?_
      exact Zy4 J1 (s:=(x7,x3.2)) h (hok:=by first | rfl | simp [go_sem,Zh4 _ hc0.pu])
     ·dsimp only[go_sem];refine GP H 7 0 [34] [(39,[.ff])] ?_;dsimp only[go_sem];refine GD ?_;exact Zy4 J1 (s:=(false,x3.2)) h (hok:=by first | rfl | simp [go_sem,Zh4 _ hc0.pu])
    ·dsimp only[go_sem];refine GP H 12 0 [34] [(32,[.ff,.ff]),(5,[.ff])] ?_;dsimp only[go_sem];refine GD ?_;exact Zy4 J1 (s:=(false,x3.2)) h (hok:=by first | rfl | simp [go_sem,Zh4 _ hc0.pu])
   ·dsimp only[go_sem];refine GP H 21 0 [34] [(27,[.ff,.ff]),(3,[.ff,.ff]),(5,[.ff])] ?_;dsimp only[go_sem];refine GD ?_;exact Zy4 J1 (s:=(false,x3.2)) h (hok:=by first | rfl | simp [go_sem,Zh4 _ hc0.pu])
  ·dsimp only[go_sem];refine GP H 28 0 [34] [(18,[.ff,.ff]),(7,[.ff,.ff]),(3,[.ff,.ff]),(5,[.ff])] ?_;dsimp only[go_sem];refine GD ?_;exact Zy4 J1 (s:=(false,x2)) h (hok:=by first | rfl | simp [go_sem,Zh4 _ hc0.pu])
@[go_sem] def e52:EC:=(by have h:=hF Tryz.f52;(conv at h=>rhs;reduce);dsimp only[go_sem] at h;exact ⟨_,h⟩:DP Tryz.f52).1
theorem ok52:FnOK Tryz.prog 52 Tryz.f52 e52 [.t 2] 1 59:=okA
def Zoj:Bool→Option Bool
| x9=>
 some x9
def Zpj (x1:Node):Bool→Option Bool
| x5=>
 ifb x5 (
 some false) (
 (Z09 x1 ((fun z=>Z4a z))).bind fun x6=>
 (Zjh x1.DK.Need x6).bind fun x7=>
 ifb (decide ((ln Z15 x7)=0)) (
 (Zua x1.Book.Sess ((fun z=>Z3j z x1))).bind fun x8=>
 Zoj (!x8)) (
 Zoj false))
def Zqj (x1:Node) (x2:(Sess×Bool)):Bool→Option Bool
| x3=>
 ifb (!((decide (x1.DK.TH=2))==x3)) (
 (Zpj x1) true) (
 ifb (!decide (x1.DK.TH=0)) (
 ifb (!x2.2) (
 (Zpj x1) true) (
 (Zt8 x2.1.Need x1.DK.Need).bind fun x4=>
 (Zpj x1) (!x4))) (
 (Zpj x1) false))
def Zrj (x1:Node):Option Bool:=
 (Z49 x1).bind fun x2=>
 ifb x2.2 (
 (Zqj x1 x2) (decide (x2.1.State=1))) (
 (Zqj x1 x2) false)
theorem k_node_thirst (x1:Node) (r:Bool) (h:Zrj x1=some r):Z03 Tryz.prog 52 [.agg (Node.row x1)] (.bv r):=by
 refine FP ok52 fun w0 H0=>?_
 rw [Zrj] at h
 refine Zv2 8 ?_;dsimp only[go_sem];refine An ?_;have ⟨x2,ex2,h⟩:=Bs h;refine VC (k_node_first x1 _ ex2) (Zv2 11 ?_);dsimp only[go_sem];refine An ?_
 refine Zo4 (fun (x3:Bool)=>(⟨(.any :: .ptr 0 0 :: .any :: .ptr 1 0 :: .bv x2.2 :: .bv x3::an 54 []),[some ⟨35,Node.row x1⟩,some ⟨60,Sess.row x2.1⟩],[]⟩:St)) (Zqj x1 x2) r ?_ fun J1=>?_
 ·intro x3 h;rw [Zqj] at h;(try dsimp only);refine Zv2 10 ?_;dsimp only[go_sem];refine An (Zo4 (fun (x5:Bool)=>(⟨(.any :: .ptr 0 0::an 40 (.bv x5::an 17 [])),[some ⟨35,Node.row x1⟩],[]⟩:St)) (Zpj x1) r ?_ fun J2=>?_)
  ·intro x5 h;rw [Zpj] at h;(try dsimp only);refine MI h (fun h=>?_) fun h=>?_
   ·refine Zv2 4 ?_;dsimp only[go_sem];refine An ?_;exact Zw4 (res:=fun (r:Bool)=>.bv r) ok52 h
   ·refine Zv2 6 ?_;dsimp only[go_sem];refine An (Zo4 (fun (x9:Bool)=>(⟨(.any :: .any :: .bv x9::an 57 []),[],[]⟩:St)) Zoj r ?_ fun J3=>?_)
    ·intro x9 h;rw [Zoj] at h;(try dsimp only);exact Zw4 (res:=fun (r:Bool)=>.bv r) ok52 h
    ·refine Z07 fun all H=>?_;dsimp only[go_sem];refine GP H 5 13 [5,13] [(43,[.ptr 0 0,.ptr 0 4,Sp0 x1.DK.Need,.agg (Node.row x1),.clo 105 []])] ?_;dsimp only[go_sem]
     refine Z64 5 rfl ?_;have ⟨x6,ex6,h⟩:=Bs h;refine GC H.1 (Z19 x1 _ _ ((fun z=>Z4a z)) ⟨by kernel_rfl,rfl,fun z r hz=>Z5a z r hz⟩ _ ex6) ?_;dsimp only[go_sem];refine Z64 6 rfl ?_;have ⟨x7,ex7,h⟩:=Bs h;refine GC H.1 (k_set_Both x1.DK.Need x6 _ ex7) ?_;dsimp only[go_sem];refine GN H 3 8 ?_;dsimp only[go_sem];refine An (Z35 52 h rfl (fun _ h=>?_) fun _ h=>?_)
     ·dsimp only[go_sem];refine GP H 4 4 [14,4] [(53,[.ptr 0 5,.ptr 0 6,Sp3 x1.Book.Sess,.clo 108 [.ptr 0 0]])] ?_;dsimp only[go_sem];refine Z64 14 rfl ?_;have ⟨x8,ex8,h⟩:=Bs h;refine GK H.1 (LR.block 0 rfl rfl) (Zva x1.Book.Sess _ _ ((fun z=>Z3j z x1)) ⟨by kernel_rfl,rfl,fun z r hz=>Z4j z x1 r hz⟩ _ ex8) ?_;dsimp only[go_sem];refine GN H 3 0 ?_;dsimp only[go_sem];refine An (GD ?_)
      exact Zy4 J3 (s:=!x8) h
     ·dsimp only[go_sem];refine GP H 8 0 [18] [(2,[.ff]),(50,[.un,.un,.un,.un,.un,.un,.ff])] ?_;dsimp only[go_sem];refine GD ?_;exact Zy4 J3 (s:=false) h
  ·refine MC 24 h (fun h=>?_) fun h=>?_
   ·dsimp only[go_sem];refine Zv2 19 ?_;dsimp only[go_sem];refine An ?_;exact Zy4 J2 (s:=true) h
   ·dsimp only[go_sem];refine Zv2 5 ?_;dsimp only[go_sem];refine An (MC 29 h (fun h=>?_) fun h=>?_)
    ·dsimp only[go_sem];refine Zv2 3 ?_;dsimp only[go_sem];refine An (MC 32 h (fun h=>?_) fun h=>?_)
     ·dsimp only[go_sem];refine Zv2 11 ?_;dsimp only[go_sem];refine An ?_;exact Zy4 J2 (s:=true) h
     ·dsimp only[go_sem];refine Zv2 5 ?_;dsimp only[go_sem];refine An ?_;have ⟨x4,ex4,h⟩:=Bs h;refine VC (Zu8 x2.1.Need x1.DK.Need _ ex4) (Zv2 5 ?_);dsimp only[go_sem];refine An ?_;exact Zy4 J2 (s:=!x4) h
    ·dsimp only[go_sem];refine Zv2 14 ?_;dsimp only[go_sem];refine An ?_;exact Zy4 J2 (s:=false) h
 ·refine MC 13 h (fun h=>?_) fun h=>?_
  ·dsimp only[go_sem];refine Zv2 6 ?_;dsimp only[go_sem];refine An ?_;exact Zy4 J1 (s:=decide (x2.1.State=1)) h
  ·dsimp only[go_sem];refine Zv2 6 ?_;dsimp only[go_sem];refine An ?_;exact Zy4 J1 (s:=false) h
@[go_sem] def e87:EC:=(by have h:=hF Tryz.f87;(conv at h=>rhs;reduce);dsimp only[go_sem] at h;exact ⟨_,h⟩:DP Tryz.f87).1
theorem ok87:FnOK Tryz.prog 87 Tryz.f87 e87 [.c 6 (some 5),.t 7] 3 77:=okA
@[go_sem] def e130:EC:=(by have h:=hF Tryz.f130;(conv at h=>rhs;reduce);dsimp only[go_sem] at h;exact ⟨_,h⟩:DP Tryz.f130).1
theorem ok130:FnOK Tryz.prog 130 Tryz.f130 e130 [.c 2 (some 5),.t 3,.t 4] 1 38:=okA
@[go_sem] def e32:EC:=(by have h:=hF Tryz.f32;(conv at h=>rhs;reduce);dsimp only[go_sem] at h;exact ⟨_,h⟩:DP Tryz.f32).1
theorem ok32:FnOK Tryz.prog 32 Tryz.f32 e32 [] 2 159:=okA
def Zsj:(Int×Int×Int×List Side×List Int)→Option (Int×Int×Int×List Side×List Int)
| (x14,x15,x16,x17,x18)=>
 some (x14,x15,x16,x17,x18)
def Ztj (x1 x2:Int) (x3 _x4:Int) (_x5:List Sess) (_x6:Int) (x7:List Side) (x8:List Int) (_x9:List KE) (_x10:List Int) (_x11:List KE) (_x12:List Event):Option (Int×Int×Int×List Side×List Int):=
 (Z9j x1 x2 x3 x7 x8).bind fun x13=>
 ifb (decide (x13.2.2.1=0)) (
 Zsj (x13.1,x13.2.1,0,x13.2.2.2,([]:List Int))) (
 Zsj (x1,x2,x3,x7,x8))
theorem Zuj (x1 x2:Int) (x3 x4:Int) (x5:List Sess) (x6:Int) (x7:List Side) (x8:List Int) (x9:List KE) (x10:List Int) (x11:List KE) (x12:List Event) (r:(Int×Int×Int×List Side×List Int)) (h:Ztj x1 x2 x3 x4 x5 x6 x7 x8 x9 x10 x11 x12=some r):Zr5 Tryz.prog 75 [.ptr 0 0] [some ⟨81,[.iv x1,.iv x2,.osl 0,.iv x3,.osl 1,.iv x4,Sp3 x5,.osl 2,.osl 3,.osl 4,.nl,.osl 5,.iv x6]⟩] [Sq6 x7,Sq7 x8,Sq8 x9,Sq7 x10,Sq8 x11,Za7 x12] (.tup []) [some ⟨81,[.iv r.1,.iv r.2.1,.osl 6,.iv r.2.2.1,.osl 7,.iv x4,Sp3 x5,.osl 2,.osl 3,.osl 4,.nl,.osl 5,.iv x6]⟩] [none,none,Sq8 x9,Sq7 x10,Sq8 x11,Za7 x12,Sq6 r.2.2.2.1,Sq7 r.2.2.2.2]:=by
 refine FT ok75 fun w0 M0=>?_
 rw [Ztj] at h
 dsimp only[lun,List.cons_append,List.nil_append]
 refine Zv2 7 ?_;dsimp only[go_sem];refine An ?_;have ⟨x13,ex13,h⟩:=Bs h;refine Z77 [] [0,1] 1 6 (Zaj x1 x2 x3 x7 x8 _ ex13) ?_;dsimp only[go_sem];refine Zv2 12 ?_;dsimp only[go_sem];refine An ?_
 refine Zo4 (fun ((x14,x15,x16,x17,x18):(Int×Int×Int×List Side×List Int))=>(⟨an 20 [],[some ⟨81,[.iv x14,.iv x15,.osl 6,.iv x16,.osl 7,.iv x4,Sp3 x5,.osl 2,.osl 3,.osl 4,.nl,.osl 5,.iv x6]⟩],[none,none,Sq8 x9,Sq7 x10,Sq8 x11,Za7 x12,Sq6 x17,Sq7 x18]⟩:St)) Zsj r ?_ fun J1=>?_
 ·rintro ⟨x14,x15,x16,x17,x18⟩ h;rw [Zsj] at h;(try dsimp only);obtain rfl:=Option.some.inj h;exact Z67 ok75
 ·refine MI h (fun h=>?_) fun h=>?_
  ·refine Zv2 8 ?_;dsimp only[go_sem];refine An (Z37 0 4 3 1 ?_);dsimp only[go_sem];exact Zy4 J1 (s:=(x13.1,x13.2.1,0,x13.2.2.2,([]:List Int))) h
  ·refine Zv2 1 ?_;dsimp only[go_sem];refine An (Z17 0 6 ?_);dsimp only[go_sem];refine Z47 3 1 ?_;dsimp only[go_sem];refine Z17 1 7 ?_;dsimp only[go_sem];exact Zy4 J1 (s:=(x1,x2,x3,x7,x8)) h
@[go_sem] def e36:EC:=(by have h:=hF Tryz.f36;(conv at h=>rhs;reduce);dsimp only[go_sem] at h;exact ⟨_,h⟩:DP Tryz.f36).1
theorem ok36:FnOK Tryz.prog 36 Tryz.f36 e36 [] 2 76:=okA
@[go_sem] def e51:EC:=(by have h:=hF Tryz.f51;(conv at h=>rhs;reduce);dsimp only[go_sem] at h;exact ⟨_,h⟩:DP Tryz.f51).1
theorem ok51:FnOK Tryz.prog 51 Tryz.f51 e51 [.t 2] 1 21:=okA
def Zvj (x1:Node):Bool→Option Bool
| x4=>
 ifb x4 (
 (Zmj x1 ((-1)) ((fun z=>Zzc z x1))).bind fun x5=>
 some x5.1) (
 some false)
def Zwj (x1:Node):Option Bool:=
 (Zsa x1.AK ((fun z=>Z5g z x1))).bind fun x2=>
 ifb (!x2) (
 (Z5f x1.AK).bind fun x3=>
 (Zvj x1) x3) (
 (Zvj x1) false)
theorem k_node_edges (x1:Node) (r:Bool) (h:Zwj x1=some r):Z03 Tryz.prog 51 [.agg (Node.row x1)] (.bv r):=by
 refine FP ok51 fun w0 H0=>?_
 rw [Zwj] at h
 refine Zv2 26 ?_;dsimp only[go_sem];refine An ?_;have ⟨x2,ex2,h⟩:=Bs h;refine VL (LR.block 0 rfl rfl) (Zta x1.AK _ _ ((fun z=>Z5g z x1)) ⟨by kernel_rfl,rfl,fun z r hz=>Z6g z x1 r hz⟩ _ ex2) (Zv2 2 ?_);dsimp only[go_sem];refine An ?_
 refine Zo4 (fun (x4:Bool)=>(⟨(.any :: .ptr 0 0 :: .any :: .clo 101 [.ptr 0 0] :: .any :: .clo 102 [.ptr 1 0]::an 11 (.bv x4::an 4 [])),[some ⟨35,Node.row x1⟩,some ⟨3,[.iv ((-1))]⟩],[]⟩:St)) (Zvj x1) r ?_ fun J1=>?_
 ·intro x4 h;rw [Zvj] at h;(try dsimp only);refine MI h (fun h=>?_) fun h=>?_
  ·refine Zv2 5 ?_;dsimp only[go_sem];refine An (Zk3 0 rfl rfl ?_);dsimp only[go_sem];have ⟨x5,ex5,h⟩:=Bs h;refine Z77 [1] [] 2 0 (Znj x1 ((-1)) _ _ ((fun z=>Zzc z x1)) ⟨by kernel_rfl,rfl,fun z r hz=>Z0d z x1 r hz⟩ _ ex5) ?_;dsimp only[go_sem];refine Zv2 2 ?_;dsimp only[go_sem];refine An ?_;exact Zw4 (res:=fun (r:Bool)=>.bv r) ok51 h
  ·refine Zv2 5 ?_;dsimp only[go_sem];refine An ?_;exact Zw4 (res:=fun (r:Bool)=>.bv r) ok51 h
 ·refine MC 13 h (fun h=>?_) fun h=>?_
  ·dsimp only[go_sem];refine Zv2 2 ?_;dsimp only[go_sem];refine An ?_;have ⟨x3,ex3,h⟩:=Bs h;refine VC (Z6f x1.AK _ ex3) (Zv2 2 ?_);dsimp only[go_sem];refine An ?_;exact Zy4 J1 (s:=x3) h
  ·dsimp only[go_sem];refine Zv2 5 ?_;dsimp only[go_sem];refine An ?_;exact Zy4 J1 (s:=false) h
@[go_sem] def e41:EC:=(by have h:=hF Tryz.f41;(conv at h=>rhs;reduce);dsimp only[go_sem] at h;exact ⟨_,h⟩:DP Tryz.f41).1
theorem ok41:FnOK Tryz.prog 41 Tryz.f41 e41 [] 3 25:=okA
end
end NX
end Go.Proofs.YtdjkbodnjhgbcaaGreat
