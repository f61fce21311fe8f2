/-
  The function narthex/sess.Open: its code compiled, a model, and that the code answers as the model. Written by a program of ours (lb.py). No statement of the seat is proved here.
-/
import Derived.Test.YtdjkbodnjhgbcaaGreatB21
set_option maxRecDepth 100000
set_option maxHeartbeats 4000000
namespace Go.Proofs.YtdjkbodnjhgbcaaGreat
namespace NX
open Go
noncomputable section
@[go_sem] def e69:EC:=(by have h:=hF Tryz.f69;(conv at h=>rhs;reduce);dsimp only[go_sem] at h;exact ⟨_,h⟩:DP Tryz.f69).1
theorem ok69:FnOK Tryz.prog 69 Tryz.f69 e69 [.c 6 (some 2),.t 7] 3 44:=okA
def Zdg (x1:Book) (x2:Int) (x4:List Int):Int→Option (Book×Int)
| x7=>
 ifb (!decide (x7=0)) (
 some ((Book.mk 0 (([]:List Sess))),x7)) (
 (Zqd x1).bind fun x8=>
 (Zj4 48 x8 ([Sess.mk x2 x4 0 0])).bind fun x9=>
 some ((Book.mk x2 x9),0))
def Zeg (x1:Book) (x2:Int) (x3:List Int):Option (Book×Int):=
 (Zza x3).bind fun x4=>
 (Zrf x1).bind fun x5=>
 ifb (!decide (x5=0)) (
 (Zdg x1 x2 x4) x5) (
 ifb (decide (x2≤x1.Last)) (
 (Zdg x1 x2 x4) 171) (
 (Ztd x4).bind fun x6=>
 ifb x6 (
 (Zdg x1 x2 x4) 172) (
 ifb (decide ((ln Sess.row x1.Sess)=8)) (
 (Zdg x1 x2 x4) 173) (
 (Zdg x1 x2 x4) x5))))
theorem Zfg (x1:Book) (x2:Int) (x3:List Int) (r:(Book×Int)) (h:Zeg x1 x2 x3=some r):Z03 Tryz.prog 69 [.agg (Book.row x1),.iv x2,Sp0 x3] (.tup [.agg (Book.row r.1),.iv r.2]):=by
 refine FP ok69 fun w0 H0=>?_
 rw [Zeg] at h
 refine Zv2 9 ?_;dsimp only[go_sem];refine An ?_;have ⟨x4,ex4,h⟩:=Bs h;refine Z85 trivial (Z0b x3 _ ex4) (h:=?_);refine Zv2 5 ?_;dsimp only[go_sem];refine An ?_;have ⟨x5,ex5,h⟩:=Bs h;refine VC (Zsf x1 _ ex5) (Zv2 10 ?_);dsimp only[go_sem];refine An ?_
 refine Zo4 (fun (x7:Int)=>(⟨(.any :: .iv x2 :: .any :: .ptr 0 0 :: .any :: .any :: .ptr 1 0 :: .any :: .osl 0 :: .iv x7::an 37 []),[some ⟨32,Book.row x1⟩,some ⟨32,[.iv 0,.nl]⟩],[Sq7 x4]⟩:St)) (Zdg x1 x2 x4) r ?_ fun J1=>?_
 ·intro x7 h;rw [Zdg] at h;(try dsimp only);refine Zv2 7 ?_;dsimp only[go_sem];refine An (MI h (fun h=>?_) fun h=>?_)
  ·refine Zv2 7 ?_;dsimp only[go_sem];refine An ?_;exact Zw4 (res:=fun (r:(Book×Int))=>.tup [.agg (Book.row r.1),.iv r.2]) ok69 h
  ·refine Zv2 4 ?_;dsimp only[go_sem];refine An ?_;have ⟨x8,ex8,h⟩:=Bs h;refine Z77 [] [] 2 1 (Zrd x1 _ ex8) ?_;dsimp only[go_sem];refine Zv2 15 ?_;dsimp only[go_sem];refine An (Z27 0 ?_);dsimp only[go_sem];refine Zv2 1 ?_;dsimp only[go_sem];refine An ?_;have ⟨x9,ex9,h⟩:=Bs h;refine Zu4 Sess.row ex9 trivial rfl rfl rfl (Zv2 9 ?_);dsimp only[go_sem];refine An (Z27 3 ?_);dsimp only[go_sem]
   exact Zw4 (res:=fun (r:(Book×Int))=>.tup [.agg (Book.row r.1),.iv r.2]) ok69 h
 ·refine MI h (fun h=>?_) fun h=>?_
  ·refine Zv2 1 ?_;dsimp only[go_sem];refine An ?_;exact Zy4 J1 (s:=x5) h
  ·refine Zv2 8 ?_;dsimp only[go_sem];refine An (MI h (fun h=>?_) fun h=>?_)
   ·refine Zv2 3 ?_;dsimp only[go_sem];refine An ?_;exact Zy4 J1 (s:=171) h
   ·refine Zv2 3 ?_;dsimp only[go_sem];refine An ?_;have ⟨x6,ex6,h⟩:=Bs h;refine VL (LR.slice 0 rfl) (Zud x4 _ ex6) (Zv2 2 ?_);dsimp only[go_sem];refine An (MI h (fun h=>?_) fun h=>?_)
    ·refine Zv2 3 ?_;dsimp only[go_sem];refine An ?_;exact Zy4 J1 (s:=172) h
    ·refine Zv2 8 ?_;dsimp only[go_sem];refine An (MI h (fun h=>?_) fun h=>?_)
     ·refine Zv2 3 ?_;dsimp only[go_sem];refine An ?_;exact Zy4 J1 (s:=173) h
     ·refine Zv2 1 ?_;dsimp only[go_sem];refine An ?_;exact Zy4 J1 (s:=x5) h
@[go_sem] def e131:EC:=(by have h:=hF Tryz.f131;(conv at h=>rhs;reduce);dsimp only[go_sem] at h;exact ⟨_,h⟩:DP Tryz.f131).1
theorem Zgg:FnOK Tryz.prog 131 Tryz.f131 e131 [.c 2 (some 2),.t 3,.t 4] 1 36:=okA
def Zhg (x1:Book):Bool→Option (Book×Int×Int)
| x4=>
 ifb x4 (
 some ((Book.mk 0 (([]:List Sess))),0,175)) (
 (Zqd x1).bind fun x5=>
 (at_ x5 0).bind fun x6=>
 some ((Book.mk x1.Last (x5.set (Int.toNat (0)) (Sess.mk x6.ID x6.Need 1 x6.Age))),x6.ID,0))
def Zig (x1:Book):Option (Book×Int×Int):=
 (Zrf x1).bind fun x2=>
 ifb (!decide (x2=0)) (
 some ((Book.mk 0 (([]:List Sess))),0,x2)) (
 ifb (decide ((ln Sess.row x1.Sess)=0)) (
 (Zhg x1) true) (
 (at_ x1.Sess 0).bind fun x3=>
 (Zhg x1) (decide (x3.State=1))))
theorem Zjg (x1:Book) (r:(Book×Int×Int)) (h:Zig x1=some r):Z03 Tryz.prog 131 [.agg (Book.row x1)] (.tup [.agg (Book.row r.1),.iv r.2.1,.iv r.2.2]):=by
 refine FP Zgg fun w0 H0=>?_
 rw [Zig] at h
 refine Zv2 11 ?_;dsimp only[go_sem];refine An ?_;have ⟨x2,ex2,h⟩:=Bs h;refine VC (Zsf x1 _ ex2) (Zv2 7 ?_);dsimp only[go_sem];refine An (MI h (fun h=>?_) fun h=>?_)
 ·refine Zv2 8 ?_;dsimp only[go_sem];refine An ?_;exact Zw4 (res:=fun (r:(Book×Int×Int))=>.tup [.agg (Book.row r.1),.iv r.2.1,.iv r.2.2]) Zgg h
 ·refine Zv2 9 ?_;dsimp only[go_sem];refine An (Zo4 (fun (x4:Bool)=>(⟨(.any :: .ptr 0 0 :: .ptr 1 0::an 20 (.bv x4::an 13 [])),[some ⟨32,Book.row x1⟩,some ⟨32,[.iv 0,.nl]⟩],[]⟩:St)) (Zhg x1) r ?_ fun J1=>?_)
  ·intro x4 h;rw [Zhg] at h;(try dsimp only);refine MI h (fun h=>?_) fun h=>?_
   ·refine Zv2 7 ?_;dsimp only[go_sem];refine An ?_;exact Zw4 (res:=fun (r:(Book×Int×Int))=>.tup [.agg (Book.row r.1),.iv r.2.1,.iv r.2.2]) Zgg h
   ·refine Zv2 4 ?_;dsimp only[go_sem];refine An ?_;have ⟨x5,ex5,h⟩:=Bs h;refine Z77 [] [] 2 0 (Zrd x1 _ ex5) ?_;dsimp only[go_sem];refine Zv2 6 ?_;dsimp only[go_sem];refine An ?_;have ⟨x6,ex6,h⟩:=Bs h;refine Ze5 Sess.row ex6 trivial rfl rfl rfl (Zv2 1 ?_);dsimp only[go_sem];refine An (Zl5 [.iv 1] Sess.row (y':=(Sess.mk x6.ID x6.Need 1 x6.Age)) ex6 trivial rfl rfl rfl (by first | exact Zi4 _ | simp [go_sem]) rfl rfl rfl rfl (Zv2 2 ?_));dsimp only[go_sem]
    refine An (Z07 fun all H=>?_);dsimp only[go_sem];refine GN H 1 8 ?_;dsimp only[go_sem];refine An (Z74 0 2 rfl ?_ ?_)
    ·refine GV H.1 ?_;dsimp only[go_sem];refine Z74 2 6 rfl ?_ ?_
     ·refine GV H.1 ?_;dsimp only[go_sem];refine Z74 3 6 rfl ?_ ?_
      ·refine GI H.1 Sess.row (Zf5 ex6) ?_;dsimp only[go_sem];refine GN H 1 4 ?_;dsimp only[go_sem];refine An (Z74 5 6 rfl ?_ ?_)
       ·refine GL H.1 Sess.row (Zf5 ex6) ?_;dsimp only[go_sem];refine GE H.1 6 ?_;dsimp only[go_sem];refine GN H 2 0 ?_;dsimp only[go_sem];refine An (GD (Z27 0 ?_));dsimp only[go_sem];exact Zw4 (res:=fun (r:(Book×Int×Int))=>.tup [.agg (Book.row r.1),.iv r.2.1,.iv r.2.2]) Zgg h
       ·refine GV H.1 ?_;dsimp only[go_sem];refine Z64 5 rfl (GL H.1 Sess.row (Zf5 ex6) ?_);dsimp only[go_sem];refine GN H 2 0 ?_;dsimp only[go_sem];refine An (GD (Z27 0 ?_));dsimp only[go_sem];exact Zw4 (res:=fun (r:(Book×Int×Int))=>.tup [.agg (Book.row r.1),.iv r.2.1,.iv r.2.2]) Zgg h
      ·refine GV H.1 ?_;dsimp only[go_sem];refine Z64 3 rfl (GI H.1 Sess.row (Zf5 ex6) ?_);dsimp only[go_sem];refine GN H 1 3 ?_;dsimp only[go_sem];refine An (Z64 5 rfl (GL H.1 Sess.row (Zf5 ex6) ?_));dsimp only[go_sem];refine GN H 2 0 ?_;dsimp only[go_sem];refine An (GD (Z27 0 ?_));dsimp only[go_sem]
       exact Zw4 (res:=fun (r:(Book×Int×Int))=>.tup [.agg (Book.row r.1),.iv r.2.1,.iv r.2.2]) Zgg h
     ·refine GV H.1 ?_;dsimp only[go_sem];refine GE H.1 2 ?_;dsimp only[go_sem];refine Z64 3 rfl (GI H.1 Sess.row (Zf5 ex6) ?_);dsimp only[go_sem];refine GN H 1 3 ?_;dsimp only[go_sem];refine An (Z64 5 rfl (GL H.1 Sess.row (Zf5 ex6) ?_));dsimp only[go_sem];refine GN H 2 0 ?_;dsimp only[go_sem];refine An (GD (Z27 0 ?_));dsimp only[go_sem]
      exact Zw4 (res:=fun (r:(Book×Int×Int))=>.tup [.agg (Book.row r.1),.iv r.2.1,.iv r.2.2]) Zgg h
    ·refine GV H.1 ?_;dsimp only[go_sem];refine Z74 0 3 rfl ?_ ?_
     ·refine GV H.1 ?_;dsimp only[go_sem];refine Z74 3 6 rfl ?_ ?_
      ·refine GI H.1 Sess.row (Zf5 ex6) ?_;dsimp only[go_sem];refine GN H 1 4 ?_;dsimp only[go_sem];refine An (Z74 5 6 rfl ?_ ?_)
       ·refine GL H.1 Sess.row (Zf5 ex6) ?_;dsimp only[go_sem];refine GE H.1 6 ?_;dsimp only[go_sem];refine GN H 2 0 ?_;dsimp only[go_sem];refine An (GD (Z27 0 ?_));dsimp only[go_sem];exact Zw4 (res:=fun (r:(Book×Int×Int))=>.tup [.agg (Book.row r.1),.iv r.2.1,.iv r.2.2]) Zgg h
       ·refine GV H.1 ?_;dsimp only[go_sem];refine Z64 5 rfl (GL H.1 Sess.row (Zf5 ex6) ?_);dsimp only[go_sem];refine GN H 2 0 ?_;dsimp only[go_sem];refine An (GD (Z27 0 ?_));dsimp only[go_sem];exact Zw4 (res:=fun (r:(Book×Int×Int))=>.tup [.agg (Book.row r.1),.iv r.2.1,.iv r.2.2]) Zgg h
      ·refine GV H.1 ?_;dsimp only[go_sem];refine Z64 3 rfl (GI H.1 Sess.row (Zf5 ex6) ?_);dsimp only[go_sem];refine GN H 1 3 ?_;dsimp only[go_sem];refine An (Z64 5 rfl (GL H.1 Sess.row (Zf5 ex6) ?_));dsimp only[go_sem];refine GN H 2 0 ?_;dsimp only[go_sem];refine An (GD (Z27 0 ?_));dsimp only[go_sem]
       exact Zw4 (res:=fun (r:(Book×Int×Int))=>.tup [.agg (Book.row r.1),.iv r.2.1,.iv r.2.2]) Zgg h
     ·refine GI H.1 Sess.row (Zf5 ex6) ?_;dsimp only[go_sem];refine GN H 1 5 ?_;dsimp only[go_sem];refine An (Z74 0 5 rfl ?_ ?_)
      ·refine GV H.1 ?_;dsimp only[go_sem];refine Z74 5 6 rfl ?_ ?_
       ·refine GL H.1 Sess.row (Zf5 ex6) ?_;dsimp only[go_sem];refine GE H.1 6 ?_;dsimp only[go_sem];refine GN H 2 0 ?_;dsimp only[go_sem];refine An (GD (Z27 0 ?_));dsimp only[go_sem];exact Zw4 (res:=fun (r:(Book×Int×Int))=>.tup [.agg (Book.row r.1),.iv r.2.1,.iv r.2.2]) Zgg h
       ·refine GV H.1 ?_;dsimp only[go_sem];refine Z64 5 rfl (GL H.1 Sess.row (Zf5 ex6) ?_);dsimp only[go_sem];refine GN H 2 0 ?_;dsimp only[go_sem];refine An (GD (Z27 0 ?_));dsimp only[go_sem];exact Zw4 (res:=fun (r:(Book×Int×Int))=>.tup [.agg (Book.row r.1),.iv r.2.1,.iv r.2.2]) Zgg h
      ·refine GL H.1 Sess.row (Zf5 ex6) ?_;dsimp only[go_sem];refine GE H.1 0 ?_;dsimp only[go_sem];refine GE H.1 6 ?_;dsimp only[go_sem];refine GN H 2 0 ?_;dsimp only[go_sem];refine An (GD (Z27 0 ?_));dsimp only[go_sem];exact Zw4 (res:=fun (r:(Book×Int×Int))=>.tup [.agg (Book.row r.1),.iv r.2.1,.iv r.2.2]) Zgg h
  ·refine MC 16 h (fun h=>?_) fun h=>?_
   ·dsimp only[go_sem];refine Zv2 8 ?_;dsimp only[go_sem];refine An ?_;exact Zy4 J1 (s:=true) h
   ·dsimp only[go_sem];refine Zv2 2 ?_;dsimp only[go_sem];refine An ?_;have ⟨x3,ex3,h⟩:=Bs h;refine Zs4 Sess.row ex3 trivial rfl rfl rfl (Zv2 5 ?_);dsimp only[go_sem];refine An ?_;exact Zy4 J1 (s:=decide (x3.State=1)) h
@[go_sem] def e148:EC:=(by have h:=hF Tryz.f148;(conv at h=>rhs;reduce);dsimp only[go_sem] at h;exact ⟨_,h⟩:DP Tryz.f148).1
theorem ok148:FnOK Tryz.prog 148 Tryz.f148 e148 [.t 4,.t 5] 2 22:=okA
def Zkg (x1:Book) (x2:Int):Option (Int×Int):=
 (Zrf x1).bind fun x3=>
 ifb (!decide (x3=0)) (
 some (0,x3)) (
 (Zab x1 x2).bind fun x4=>
 ifb (decide (x4<0)) (
 some (0,174)) (
 (at_ x1.Sess x4).bind fun x5=>
 some (x5.State,0)))
theorem k_sess_Poll (x1:Book) (x2:Int) (r:(Int×Int)) (h:Zkg x1 x2=some r):Z03 Tryz.prog 148 [.agg (Book.row x1),.iv x2] (.tup [.iv r.1,.iv r.2]):=by
 refine FP ok148 fun w0 H0=>?_
 rw [Zkg] at h
 refine Zv2 10 ?_;dsimp only[go_sem];refine An ?_;have ⟨x3,ex3,h⟩:=Bs h;refine VC (Zsf x1 _ ex3) (Zv2 7 ?_);dsimp only[go_sem];refine An (MI h (fun h=>?_) fun h=>?_)
 ·refine Zv2 6 ?_;dsimp only[go_sem];refine An ?_;exact Zw4 (res:=fun (r:(Int×Int))=>.tup [.iv r.1,.iv r.2]) ok148 h
 ·refine Zv2 5 ?_;dsimp only[go_sem];refine An ?_;have ⟨x4,ex4,h⟩:=Bs h;refine VC (Zbb x1 x2 _ ex4) (Zv2 8 ?_);dsimp only[go_sem];refine An (MI h (fun h=>?_) fun h=>?_)
  ·refine Zv2 5 ?_;dsimp only[go_sem];refine An ?_;exact Zw4 (res:=fun (r:(Int×Int))=>.tup [.iv r.1,.iv r.2]) ok148 h
  ·refine Zv2 6 ?_;dsimp only[go_sem];refine An ?_;have ⟨x5,ex5,h⟩:=Bs h;refine Zs4 Sess.row ex5 trivial rfl rfl rfl (Zv2 5 ?_);dsimp only[go_sem];refine An ?_;exact Zw4 (res:=fun (r:(Int×Int))=>.tup [.iv r.1,.iv r.2]) ok148 h
@[go_sem] def e97:EC:=(by have h:=hF Tryz.f97;(conv at h=>rhs;reduce);dsimp only[go_sem] at h;exact ⟨_,h⟩:DP Tryz.f97).1
theorem ok97:FnOK Tryz.prog 97 Tryz.f97 e97 [.t 2] 1 30:=okA
def Zlg:Bool→Option Int
| x3=>
 ifb x3 (
 some 130) (
 some 0)
def Zmg (x1:DI):Option Int:=
 ifb (decide (x1.ID<0)) (
 Zlg true) (
 ifb (decide (x1.PH<0)) (
 Zlg true) (
 ifb (decide (2<x1.PH)) (
 Zlg true) (
 ifb (decide (64≤(ln Side.row x1.SD))) (
 Zlg true) (
 (Ztf x1.SD ((-1)) x1).bind fun x2=>
 Zlg x2.1))))
theorem Zng (x1:DI) (r:Int) (h:Zmg x1=some r):Z03 Tryz.prog 97 [.agg (DI.row x1)] (.iv r):=by
 refine FP ok97 fun w0 H0=>?_
 rw [Zmg] at h
 refine Zv2 22 ?_;dsimp only[go_sem];refine An (Zo4 (fun (x3:Bool)=>(⟨an 30 [.bv x3],[],[]⟩:St)) Zlg r ?_ fun J1=>?_)
 ·intro x3 h;rw [Zlg] at h;(try dsimp only);refine MI h (fun h=>?_) fun h=>?_
  ·refine Zv2 4 ?_;dsimp only[go_sem];refine An ?_;exact Zw4 (res:=fun (r:Int)=>.iv r) ok97 h
  ·refine Zv2 5 ?_;dsimp only[go_sem];refine An ?_;exact Zw4 (res:=fun (r:Int)=>.iv r) ok97 h
 ·refine MC 9 h (fun h=>?_) fun h=>?_
  ·dsimp only[go_sem];refine Zv2 22 ?_;dsimp only[go_sem];refine An ?_;exact Zy4 J1 (s:=true) h
  ·dsimp only[go_sem];refine Zv2 5 ?_;dsimp only[go_sem];refine An (MC 14 h (fun h=>?_) fun h=>?_)
   ·dsimp only[go_sem];refine Zv2 17 ?_;dsimp only[go_sem];refine An ?_;exact Zy4 J1 (s:=true) h
   ·dsimp only[go_sem];refine Zv2 5 ?_;dsimp only[go_sem];refine An (MC 19 h (fun h=>?_) fun h=>?_)
    ·dsimp only[go_sem];refine Zv2 12 ?_;dsimp only[go_sem];refine An ?_;exact Zy4 J1 (s:=true) h
    ·dsimp only[go_sem];refine Zv2 6 ?_;dsimp only[go_sem];refine An (MC 25 h (fun h=>?_) fun h=>?_)
     ·dsimp only[go_sem];refine Zv2 6 ?_;dsimp only[go_sem];refine An ?_;exact Zy4 J1 (s:=true) h
     ·dsimp only[go_sem];refine Zv2 3 ?_;dsimp only[go_sem];refine An ?_;have ⟨x2,ex2,h⟩:=Bs h;refine Z77 [1,0] [] 2 0 (Zuf x1.SD ((-1)) x1 _ ex2) ?_;dsimp only[go_sem];refine Zv2 2 ?_;dsimp only[go_sem];refine An ?_;exact Zy4 J1 (s:=x2.1) h
@[go_sem] def e78:EC:=(by have h:=hF Tryz.f78;(conv at h=>rhs;reduce);dsimp only[go_sem] at h;exact ⟨_,h⟩:DP Tryz.f78).1
theorem ok78:FnOK Tryz.prog 78 Tryz.f78 e78 [.c 4 (some 2),.t 5,.t 6] 2 63:=okA
def Zog (x1:Book) (x2:Int) (x4:List Sess):Bool→Option (Book×Int×Int)
| x6=>
 ifb x6 (
 some ((Book.mk x1.Last x4),0,0)) (
 (at_ x4 0).bind fun x7=>
 ifb (decide ((max x7.Age (wr ((min x7.Age 4611686018427387903)+1)))<x2)) (
 some ((Book.mk x1.Last (x4.set (Int.toNat (0)) (Sess.mk x7.ID x7.Need x7.State (max x7.Age (wr ((min x7.Age 4611686018427387903)+1)))))),0,0)) (
 (Z8b 0 1 (x4.set (Int.toNat (0)) (Sess.mk x7.ID x7.Need x7.State (max x7.Age (wr ((min x7.Age 4611686018427387903)+1)))))).bind fun x8=>
 some ((Book.mk x1.Last x8),x7.ID,0)))
def Zpg (x1:Book) (x2:Int):Option (Book×Int×Int):=
 (Zrf x1).bind fun x3=>
 ifb (!decide (x3=0)) (
 some ((Book.mk 0 (([]:List Sess))),0,x3)) (
 (Zqd x1).bind fun x4=>
 ifb (decide ((ln Sess.row x4)=0)) (
 (Zog x1 x2 x4) true) (
 (at_ x4 0).bind fun x5=>
 (Zog x1 x2 x4) (!decide (x5.State=1))))
theorem Zqg (x1:Book) (x2:Int) (r:(Book×Int×Int)) (h:Zpg x1 x2=some r):Z03 Tryz.prog 78 [.agg (Book.row x1),.iv x2] (.tup [.agg (Book.row r.1),.iv r.2.1,.iv r.2.2]):=by
 refine FP ok78 fun w0 H0=>?_
 rw [Zpg] at h
 refine Zv2 11 ?_;dsimp only[go_sem];refine An ?_;have ⟨x3,ex3,h⟩:=Bs h;refine VC (Zsf x1 _ ex3) (Zv2 7 ?_);dsimp only[go_sem];refine An (MI h (fun h=>?_) fun h=>?_)
 ·refine Zv2 8 ?_;dsimp only[go_sem];refine An ?_;exact Zw4 (res:=fun (r:(Book×Int×Int))=>.tup [.agg (Book.row r.1),.iv r.2.1,.iv r.2.2]) ok78 h
 ·refine Zv2 4 ?_;dsimp only[go_sem];refine An ?_;have ⟨x4,ex4,h⟩:=Bs h;refine Z77 [] [] 2 0 (Zrd x1 _ ex4) ?_;dsimp only[go_sem];refine Zv2 10 ?_;dsimp only[go_sem];refine An (Zo4 (fun (x6:Bool)=>(⟨(.any :: .iv x2 :: .ptr 0 0 :: .any :: .ptr 1 0::an 24 (.bv x6::an 35 [])),[some ⟨32,[.iv x1.Last,.osl 0]⟩,some ⟨32,[.iv 0,.nl]⟩],[Sq9 x4]⟩:St)) (Zog x1 x2 x4) r ?_ fun J1=>?_)
  ·intro x6 h;rw [Zog] at h;(try dsimp only);refine MI h (fun h=>?_) fun h=>?_
   ·refine Zv2 7 ?_;dsimp only[go_sem];refine An (Z27 0 ?_);dsimp only[go_sem];exact Zw4 (res:=fun (r:(Book×Int×Int))=>.tup [.agg (Book.row r.1),.iv r.2.1,.iv r.2.2]) ok78 h
   ·refine Zv2 5 ?_;dsimp only[go_sem];refine An ?_;have ⟨x7,ex7,h⟩:=Bs h;refine Ze5 Sess.row ex7 trivial rfl rfl rfl (Zv2 3 ?_);dsimp only[go_sem];refine An (Z07 fun all H=>?_);dsimp only[go_sem];refine GP H 7 8 [4,1,3,7] [(34,[.oel 0 (Int.toNat (0)*4) 0,.oel 0 (Int.toNat (0)*4) 0,.oel 0 (Int.toNat (0)*4) 0,.oel 0 (Int.toNat (0)*4) 3]),(1,[.oel 0 (Int.toNat (0)*4) 0,.oel 0 (Int.toNat (0)*4) 0,.oel 0 (Int.toNat (0)*4) 3])] ?_;dsimp only[go_sem]
    refine Z74 4 8 rfl ?_ ?_
    ·refine GL H.1 Sess.row ex7 ?_;dsimp only[go_sem];refine Z64 8 rfl (GL H.1 Sess.row ex7 ?_);dsimp only[go_sem];refine GE H.1 9 ?_;dsimp only[go_sem];refine GN H 1 4 ?_;dsimp only[go_sem];refine An (GE H.1 11 ?_);dsimp only[go_sem];refine GN H 2 1 ?_;dsimp only[go_sem];refine An (Z64 14 rfl ?_)
     refine Zw5 H.1 [.iv (max x7.Age (wr ((min x7.Age 4611686018427387903)+1)))] Sess.row (y':=(Sess.mk x7.ID x7.Need x7.State (max x7.Age (wr ((min x7.Age 4611686018427387903)+1))))) ex7 rfl trivial rfl rfl rfl (by first | exact Zi4 _ | simp [go_sem]) rfl rfl rfl rfl ?_;dsimp only[go_sem];refine GD (Zv2 6 ?_);dsimp only[go_sem];refine An (Zg5 Sess.row (Zf5 ex7) trivial rfl rfl rfl (Zv2 3 ?_));dsimp only[go_sem];refine An (MI h (fun h=>?_) fun h=>?_)
     ·refine Zv2 7 ?_;dsimp only[go_sem];refine An (Z27 0 ?_);dsimp only[go_sem];exact Zw4 (res:=fun (r:(Book×Int×Int))=>.tup [.agg (Book.row r.1),.iv r.2.1,.iv r.2.2]) ok78 h
     ·refine Zv2 6 ?_;dsimp only[go_sem];refine An (Zg5 Sess.row (Zf5 ex7) trivial rfl rfl rfl (Zv2 6 ?_));dsimp only[go_sem];refine An ?_;have ⟨x8,ex8,h⟩:=Bs h;refine Z77 [] [0] 2 1 (Z9b 0 1 (x4.set (Int.toNat (0)) (Sess.mk x7.ID x7.Need x7.State (max x7.Age (wr ((min x7.Age 4611686018427387903)+1))))) _ ex8) ?_;dsimp only[go_sem];refine Zv2 11 ?_;dsimp only[go_sem];refine An (Z27 1 ?_);dsimp only[go_sem]
      exact Zw4 (res:=fun (r:(Book×Int×Int))=>.tup [.agg (Book.row r.1),.iv r.2.1,.iv r.2.2]) ok78 h
    ·refine GL H.1 Sess.row ex7 ?_;dsimp only[go_sem];refine Z74 4 9 rfl ?_ ?_
     ·refine GL H.1 Sess.row ex7 ?_;dsimp only[go_sem];refine GE H.1 9 ?_;dsimp only[go_sem];refine GN H 1 4 ?_;dsimp only[go_sem];refine An (GE H.1 11 ?_);dsimp only[go_sem];refine GN H 2 1 ?_;dsimp only[go_sem];refine An (Z64 14 rfl ?_)
      refine Zw5 H.1 [.iv (max x7.Age (wr ((min x7.Age 4611686018427387903)+1)))] Sess.row (y':=(Sess.mk x7.ID x7.Need x7.State (max x7.Age (wr ((min x7.Age 4611686018427387903)+1))))) ex7 rfl trivial rfl rfl rfl (by first | exact Zi4 _ | simp [go_sem]) rfl rfl rfl rfl ?_;dsimp only[go_sem];refine GD (Zv2 6 ?_);dsimp only[go_sem];refine An (Zg5 Sess.row (Zf5 ex7) trivial rfl rfl rfl (Zv2 3 ?_));dsimp only[go_sem];refine An (MI h (fun h=>?_) fun h=>?_)
      ·refine Zv2 7 ?_;dsimp only[go_sem];refine An (Z27 0 ?_);dsimp only[go_sem];exact Zw4 (res:=fun (r:(Book×Int×Int))=>.tup [.agg (Book.row r.1),.iv r.2.1,.iv r.2.2]) ok78 h
      ·refine Zv2 6 ?_;dsimp only[go_sem];refine An (Zg5 Sess.row (Zf5 ex7) trivial rfl rfl rfl (Zv2 6 ?_));dsimp only[go_sem];refine An ?_;have ⟨x8,ex8,h⟩:=Bs h;refine Z77 [] [0] 2 1 (Z9b 0 1 (x4.set (Int.toNat (0)) (Sess.mk x7.ID x7.Need x7.State (max x7.Age (wr ((min x7.Age 4611686018427387903)+1))))) _ ex8) ?_;dsimp only[go_sem];refine Zv2 11 ?_;dsimp only[go_sem];refine An (Z27 1 ?_);dsimp only[go_sem]
       exact Zw4 (res:=fun (r:(Book×Int×Int))=>.tup [.agg (Book.row r.1),.iv r.2.1,.iv r.2.2]) ok78 h
     ·refine GV H.1 ?_;dsimp only[go_sem];refine GN H 1 5 ?_;dsimp only[go_sem];refine An (Z64 4 rfl (GL H.1 Sess.row ex7 ?_));dsimp only[go_sem];refine GE H.1 11 ?_;dsimp only[go_sem];refine GN H 2 1 ?_;dsimp only[go_sem];refine An (Z64 14 rfl ?_)
      refine Zw5 H.1 [.iv (max x7.Age (wr ((min x7.Age 4611686018427387903)+1)))] Sess.row (y':=(Sess.mk x7.ID x7.Need x7.State (max x7.Age (wr ((min x7.Age 4611686018427387903)+1))))) ex7 rfl trivial rfl rfl rfl (by first | exact Zi4 _ | simp [go_sem]) rfl rfl rfl rfl ?_;dsimp only[go_sem];refine GD (Zv2 6 ?_);dsimp only[go_sem];refine An (Zg5 Sess.row (Zf5 ex7) trivial rfl rfl rfl (Zv2 3 ?_));dsimp only[go_sem];refine An (MI h (fun h=>?_) fun h=>?_)
      ·refine Zv2 7 ?_;dsimp only[go_sem];refine An (Z27 0 ?_);dsimp only[go_sem];exact Zw4 (res:=fun (r:(Book×Int×Int))=>.tup [.agg (Book.row r.1),.iv r.2.1,.iv r.2.2]) ok78 h
      ·refine Zv2 6 ?_;dsimp only[go_sem];refine An (Zg5 Sess.row (Zf5 ex7) trivial rfl rfl rfl (Zv2 6 ?_));dsimp only[go_sem];refine An ?_;have ⟨x8,ex8,h⟩:=Bs h;refine Z77 [] [0] 2 1 (Z9b 0 1 (x4.set (Int.toNat (0)) (Sess.mk x7.ID x7.Need x7.State (max x7.Age (wr ((min x7.Age 4611686018427387903)+1))))) _ ex8) ?_;dsimp only[go_sem];refine Zv2 11 ?_;dsimp only[go_sem];refine An (Z27 1 ?_);dsimp only[go_sem]
       exact Zw4 (res:=fun (r:(Book×Int×Int))=>.tup [.agg (Book.row r.1),.iv r.2.1,.iv r.2.2]) ok78 h
  ·refine MC 22 h (fun h=>?_) fun h=>?_
   ·dsimp only[go_sem];refine Zv2 8 ?_;dsimp only[go_sem];refine An ?_;exact Zy4 J1 (s:=true) h
   ·dsimp only[go_sem];refine Zv2 2 ?_;dsimp only[go_sem];refine An ?_;have ⟨x5,ex5,h⟩:=Bs h;refine Ze5 Sess.row ex5 trivial rfl rfl rfl (Zv2 1 ?_);dsimp only[go_sem];refine An (Zg5 Sess.row ex5 trivial rfl rfl rfl (Zv2 3 ?_));dsimp only[go_sem];refine An ?_;exact Zy4 J1 (s:=!decide (x5.State=1)) h
@[go_sem] def e82:EC:=(by have h:=hF Tryz.f82;(conv at h=>rhs;reduce);dsimp only[go_sem] at h;exact ⟨_,h⟩:DP Tryz.f82).1
theorem ok82:FnOK Tryz.prog 82 Tryz.f82 e82 [] 3 40:=okA
def Zrg (l:List Side) (i:Int) (vs:List Side):Option (List Side):=insS_ 32 l i vs
theorem Zsg (l:List Side) (i:Int) (vs:List Side) (r:List Side) (h:Zrg l i vs=some r):
  Zr5 Tryz.prog 81 [.osl 0,.iv i,.osl 1] [] [some ⟨65,8,l.map Side.row⟩,some ⟨65,8,List.map Side.row vs⟩] (.osl 2) [] [none,none,some ⟨65,8,r.map Side.row⟩]:=by
 obtain ⟨v,rfl,h⟩:=insS_some h
 obtain ⟨hr,h0,h1,hb,h63⟩:=ins_some h
 have hln:(l.map Side.row).length=l.length:=List.length_map _
 have hw1:wr ((l.length:Int)+1)=(l.length:Int)+1:=IntWalk.i64_in _ ⟨by omega,by omega⟩
 have hw2:wr ((l.length:Int)+1-i)=(l.length:Int)+1-i:=IntWalk.i64_in _ ⟨by omega,by omega⟩
 have hw3:wr (i+1)=i+1:=IntWalk.i64_in _ ⟨by omega,by omega⟩
 obtain ⟨y,hy⟩:∃y,y=v.row:=⟨_,rfl⟩
 have hv1: [v].map Side.row=[y]:=by rw [hy];rfl
 rw [hv1]
 have hr1:(([y]:List (List AV)).length:Int)=1:=rfl
 have hR:(l.map Side.row).take i.toNat++y::(l.map Side.row).drop i.toNat=r.map Side.row:=by rw [hr,hy];simp [List.map_take,List.map_drop]
 have hw4:(i+1).toNat=i.toNat+1:=by omega
 have hw5:((l.length:Int)+1).toNat=l.length+1:=by omega
 refine FunT_room (j:=0) ok81 rfl rfl rfl (by first | rfl | simp [go_sem]) rfl rfl (i<l.length) (fun h=>by rw [hln];omega) (fun w M hc=>?_) (fun w M g cap hq e1 hc e2=>?_)
 ·dsimp only[lun,List.cons_append,List.nil_append]
  refine Zv2 100 ?_
  dsimp only[go_sem]
  refine An ?_
  refine Z53 trivial (Zi6 (l:=i) rfl rfl rfl h0 (by rw [hln];exact h1)) rfl ?_
  refine Zv2 100 ?_
  dsimp only[go_sem]
  refine An ?_
  refine Z32 rfl (fun e=>by simp at e) fun _=>?_
  refine Zv2 100 ?_
  dsimp only[go_sem]
  refine An ?_
  refine Z32 rfl (fun e=>?_) fun hne=>?_
  ·have hi:i=l.length:=by simpa using e
   subst hi
   refine Zv2 100 ?_
   dsimp only[go_sem]
   refine An ?_
   rw [←hv1]
   refine Zu4 Side.row (l':=l) (m':=[v]) (v:=r) ?_ trivial rfl rfl rfl ?_
   ·unfold Zj4;rw [if_pos ⟨by simpa using hb,by simpa using h63⟩,hr];simp
   refine Zv2 100 ?_
   dsimp only[go_sem]
   refine An ?_
   exact Z57 ok81
  ·have hi:i<l.length:=by
    have:¬i=l.length:=by simpa using hne
    omega
   have hc:=hc hi
   have hcl:capV (M.σ 0)<l.length+1:=by simpa [hln] using hc
   refine Zv2 100 ?_
   dsimp only[go_sem]
   refine An ?_
   refine Z53 trivial (Ze6 rfl rfl (by show 0<2;omega)) rfl ?_
   refine Zv2 100 ?_
   dsimp only[go_sem]
   refine An ?_
   rw [show (Ctx.lent Tryz.prog w M [] [some ⟨65,8,l.map Side.row⟩,some ⟨65,8,[y]⟩] 0 2).ps 0=M.σ 0 from rfl]
   simp only [hln,hr1,hw1]
   refine Z32 rfl (fun _=>?_) fun e=>?_
   ·refine Zv2 100 ?_
    dsimp only[go_sem]
    refine An ?_
    refine Z53 trivial (Z56 (l:=0) (h:=i) rfl rfl (by rw [hln]<;>omega) rfl rfl (by omega) h0 (by rw [hln];exact h1)) rfl ?_
    refine Zv2 100 ?_
    dsimp only[go_sem]
    refine An ?_
    simp only [hw1,hw2]
    have hik:i=(i.toNat:Int):=by omega
    refine Z53 trivial (sem_apzV (i:=i.toNat) (m:=(l.length:Int)+1-i) rfl rfl (by rw [hln]<;>omega) (by show 0<2;omega) rfl (by omega) ?_ rfl ?_ (by omega) rfl) rfl ?_
    ·show (capV (M.σ 0):Int)<_;omega
    ·have:(i.toNat:Int)+((l.length:Int)+1-i)=((l.length+1:Nat):Int):=by omega
     rw [this];omega
    refine Zv2 100 ?_
    dsimp only[go_sem]
    refine An ?_
    have hrl:((l.map Side.row).take i.toNat++List.replicate ((l.length:Int)+1-i).toNat [AV.iv 0,AV.iv 0,AV.iv 0,AV.ff,AV.ff,AV.ff,AV.ff,AV.ff]).length=l.length+1:=by
     rw [List.length_append,List.length_take,List.length_replicate,hln];omega
    refine Z53 trivial (Z56 (l:=i) (h:=(l.length:Int)+1) rfl rfl (by rw [hrl]<;>omega) rfl (by simp only [bnd,hrl];rfl) h0 (by omega) (by rw [hrl]<;>omega)) rfl ?_
    refine Zv2 100 ?_
    dsimp only[go_sem]
    refine An ?_
    refine V_asV 44 1 rfl rfl (by show 0<1;omega) ?_
    dsimp only[go_sem]
    refine Z53 trivial (Zj6 ((l.map Side.row).take i.toNat++y::List.replicate ((l.map Side.row).length-i.toNat) [AV.iv 0,AV.iv 0,AV.iv 0,AV.ff,AV.ff,AV.ff,AV.ff,AV.ff]) rfl rfl rfl rfl (by rw [hrl]<;>omega) (by show 0+1≤1;omega) (by rw [hrl]<;>omega) (by show 0<1;omega) (grow1 (by rw [hln]<;>omega) (by rw [hln]<;>omega) (by omega) rfl)) rfl ?_
    refine Zv2 100 ?_
    dsimp only[go_sem]
    refine An ?_
    refine Z07 fun all H=>?_
    dsimp only[go_sem]
    refine GN H 6 3 ?_
    dsimp only[go_sem]
    refine An ?_
    simp only [hw3]
    have hr2:((l.map Side.row).take i.toNat++y::List.replicate ((l.map Side.row).length-i.toNat) [AV.iv 0,AV.iv 0,AV.iv 0,AV.ff,AV.ff,AV.ff,AV.ff,AV.ff]).length=l.length+1:=by
     rw [List.length_append,List.length_take,List.length_cons,List.length_replicate,hln];omega
    refine Z74 4 7 rfl ?_ ?_
    ·refine Z94 H.1 trivial (Z56 (l:=i+1) (h:=(l.length:Int)+1) rfl rfl (by rw [hr2]<;>omega) rfl (by simp only [bnd,hr2];rfl) (by omega) (by omega) (by rw [hr2]<;>omega)) rfl (Z34 _ _) ?_
     dsimp only[go_sem]
     refine Z64 7 rfl ?_
     refine Z94 H.1 trivial (Z56 (l:=i) (h:=(l.length:Int)) rfl rfl (by rw [hln]<;>omega) rfl (by simp only [bnd,hln]) h0 (by omega) (by rw [hln];exact Int.le_refl _)) rfl (Z34 _ _) ?_
     dsimp only[go_sem]
     refine Z64 8 rfl ?_
     refine Z94 (S1:=⟨_,_,_⟩) H.1 trivial (Zj6 (r.map Side.row) rfl rfl rfl rfl (by rw [hr2]<;>omega) (by rw [hln]<;>omega) (by rw [hr2]<;>omega) (by omega) ?_) rfl (fun _ _ _ _ h _ _=>h) ?_
     ·rw [show (i+1).toNat=i.toNat+1 by omega,←hR]
      exact grow2 (by rw [hln]<;>omega) (by rw [hln]<;>omega) (by rw [hln]<;>omega)
     dsimp only[go_sem]
     refine GD ?_
     refine Zv2 100 ?_
     dsimp only[go_sem]
     refine An ?_
     exact Z57 ok81
    ·refine Z94 H.1 trivial (Z56 (l:=i) (h:=(l.length:Int)) rfl rfl (by rw [hln]<;>omega) rfl (by simp only [bnd,hln]) h0 (by omega) (by rw [hln];exact Int.le_refl _)) rfl (Z34 _ _) ?_
     dsimp only[go_sem]
     refine Z64 4 rfl ?_
     refine Z94 H.1 trivial (Z56 (l:=i+1) (h:=(l.length:Int)+1) rfl rfl (by rw [hr2]<;>omega) rfl (by simp only [bnd,hr2];rfl) (by omega) (by omega) (by rw [hr2]<;>omega)) rfl (Z34 _ _) ?_
     dsimp only[go_sem]
     refine Z64 8 rfl ?_
     refine Z94 (S1:=⟨_,_,_⟩) H.1 trivial (Zj6 (r.map Side.row) rfl rfl rfl rfl (by rw [hr2]<;>omega) (by rw [hln]<;>omega) (by rw [hr2]<;>omega) (by omega) ?_) rfl (fun _ _ _ _ h _ _=>h) ?_
     ·rw [show (i+1).toNat=i.toNat+1 by omega,←hR]
      exact grow2 (by rw [hln]<;>omega) (by rw [hln]<;>omega) (by rw [hln]<;>omega)
     dsimp only[go_sem]
     refine GD ?_
     refine Zv2 100 ?_
     dsimp only[go_sem]
     refine An ?_
     exact Z57 ok81
   ·exact absurd e (by simpa using (by omega:(capV (M.σ 0):Int)<l.length+1))
 ·dsimp only[lun,List.cons_append,List.nil_append]
  have hcn:(Ctx.lent Tryz.prog w M [] [some ⟨65,8,l.map Side.row⟩,some ⟨65,8,[y]⟩,none] 0 3).nq=3:=rfl
  have hp0:(Ctx.lent Tryz.prog w M [] [some ⟨65,8,l.map Side.row⟩,some ⟨65,8,[y]⟩,none] 0 3).ps 0 = .slice (some ⟨g,0,none⟩) l.length cap:=by rw [hln] at e1;exact e1
  have hp2:(Ctx.lent Tryz.prog w M [] [some ⟨65,8,l.map Side.row⟩,some ⟨65,8,[y]⟩,none] 0 3).ps 2 = .slice (some ⟨g,0,none⟩) (l.length+1) cap:=by rw [hln] at e2;exact e2
  have hc:l.length+1≤cap:=by rw [hln] at hc;exact hc
  refine Zv2 100 ?_
  dsimp only[go_sem]
  refine An ?_
  refine Z53 trivial (Zi6 (l:=i) rfl rfl rfl h0 (by rw [hln];exact h1)) rfl ?_
  refine Zv2 100 ?_
  dsimp only[go_sem]
  refine An ?_
  refine Z32 rfl (fun e=>by simp at e) fun _=>?_
  refine Zv2 100 ?_
  dsimp only[go_sem]
  refine An ?_
  refine Z32 rfl (fun e=>?_) fun _=>?_
  ·exfalso
   have:i=l.length:=by simpa using e
   omega
  refine Zv2 100 ?_
  dsimp only[go_sem]
  refine An ?_
  refine Z53 trivial (Ze6 rfl rfl (by show 0<3;omega)) rfl ?_
  rw [hp0]
  refine Zv2 100 ?_
  dsimp only [go_sem,capV]
  refine An ?_
  simp only [hln,hr1,hw1]
  refine Z32 rfl (fun e=>?_) fun _=>?_
  ·exfalso
   have:(cap:Int)<l.length+1:=by simpa using e
   omega
  refine Zv2 100 ?_
  dsimp only[go_sem]
  refine An ?_
  simp only [hw1]
  refine Z53 trivial (Zf6 (h:=(l.length:Int)+1) rfl (by show 0<3;omega) (by show 2<3;omega) hp0 hp2 hc rfl rfl rfl) rfl ?_
  refine Zv2 100 ?_
  dsimp only[go_sem]
  refine An ?_
  simp only [hw3]
  refine Z53 trivial (Zg6 (l:=i+1) (h:=(l.length:Int)+1) rfl (by show 2<3;omega) hp2 hc rfl rfl (by omega) (by omega) (by omega)) rfl ?_
  refine Zv2 100 ?_
  dsimp only[go_sem]
  refine An ?_
  refine Z53 trivial (sem_ovl (ft:=Tryz.f119) (tS:=23) (tR:=4) (e:=65) (j:=0) (by kernel_rfl) (by kernel_rfl) (by kernel_rfl) (by kernel_rfl) (by kernel_rfl) (by kernel_rfl) (by kernel_rfl) rfl rfl rfl rfl (by omega) (by show 0<1;omega) (by show 0<(l.map Side.row).length;rw [hln];omega) (by show 0<3;omega) (by show 2<3;omega) hp0 hp2) rfl ?_
  refine Zv2 100 ?_
  dsimp only[go_sem]
  refine An ?_
  have hrs:((l.map Side.row).take (i.toNat+1)++(l.map Side.row).drop i.toNat).length=l.length+1:=by rw [List.length_append,List.length_take,List.length_drop,hln];omega
  refine Z07 fun all H=>?_
  dsimp only[go_sem]
  refine GN H 6 3 ?_
  dsimp only[go_sem]
  refine An ?_
  simp only [hw3]
  refine Z74 4 7 rfl ?_ ?_
  ·refine Z94 H.1 trivial (Zg6 (l:=i+1) (h:=(l.length:Int)+1) rfl (by show 2<3;omega) hp2 hc rfl rfl (by omega) (by omega) (by omega)) rfl (Z34 _ _) ?_
   dsimp only[go_sem]
   refine Z64 7 rfl ?_
   refine Z94 H.1 trivial (Zg6 (l:=i) (h:=(l.length:Int)+1) rfl (by show 2<3;omega) hp2 hc rfl rfl h0 (by omega) (by omega)) rfl (Z34 _ _) ?_
   dsimp only[go_sem]
   simp only [hw4,hw5,Nat.add_sub_add_right]
   refine Z64 8 rfl ?_
   refine Z94 (S1:=⟨_,_,_⟩) H.1 trivial (Zh6 (i:=i.toNat) rfl rfl rfl hln (by omega) (by show 2<3;omega) (by show 0<3;omega) (by show 2<3;omega) hp0 hp2 hc) rfl (fun _ _ _ _ h _ _=>h) ?_
   dsimp only[go_sem]
   refine GD ?_
   refine Zv2 100 ?_
   dsimp only[go_sem]
   refine An ?_
   refine Z53 trivial (Zg6 (l:=i) (h:=(l.length:Int)+1) rfl (by show 2<3;omega) hp2 hc rfl rfl h0 (by omega) (by omega)) rfl ?_
   refine Zv2 100 ?_
   dsimp only[go_sem]
   refine An ?_
   refine V_asV 81 1 rfl rfl (by show 0<1;omega) ?_
   dsimp only[go_sem]
   refine Z53 trivial (Zj6 (r.map Side.row) rfl rfl rfl rfl (by rw [hrs,hw5]<;>omega) (by show 0+1≤1;omega) (by rw [hrs]<;>omega) (by show 0<1;omega) (by rw [←hR];exact shift1 (by rw [hln]<;>omega) (by omega) rfl)) rfl ?_
   refine Zv2 100 ?_
   dsimp only[go_sem]
   refine An ?_
   exact Z57 ok81
  ·refine Z94 H.1 trivial (Zg6 (l:=i) (h:=(l.length:Int)+1) rfl (by show 2<3;omega) hp2 hc rfl rfl h0 (by omega) (by omega)) rfl (Z34 _ _) ?_
   dsimp only[go_sem]
   refine Z64 4 rfl ?_
   refine Z94 H.1 trivial (Zg6 (l:=i+1) (h:=(l.length:Int)+1) rfl (by show 2<3;omega) hp2 hc rfl rfl (by omega) (by omega) (by omega)) rfl (Z34 _ _) ?_
   dsimp only[go_sem]
   simp only [hw4,hw5,Nat.add_sub_add_right]
   refine Z64 8 rfl ?_
   refine Z94 (S1:=⟨_,_,_⟩) H.1 trivial (Zh6 (i:=i.toNat) rfl rfl rfl hln (by omega) (by show 2<3;omega) (by show 0<3;omega) (by show 2<3;omega) hp0 hp2 hc) rfl (fun _ _ _ _ h _ _=>h) ?_
   dsimp only[go_sem]
   refine GD ?_
   refine Zv2 100 ?_
   dsimp only[go_sem]
   refine An ?_
   refine Z53 trivial (Zg6 (l:=i) (h:=(l.length:Int)+1) rfl (by show 2<3;omega) hp2 hc rfl rfl h0 (by omega) (by omega)) rfl ?_
   refine Zv2 100 ?_
   dsimp only[go_sem]
   refine An ?_
   refine V_asV 81 1 rfl rfl (by show 0<1;omega) ?_
   dsimp only[go_sem]
   refine Z53 trivial (Zj6 (r.map Side.row) rfl rfl rfl rfl (by rw [hrs,hw5]<;>omega) (by show 0+1≤1;omega) (by rw [hrs]<;>omega) (by show 0<1;omega) (by rw [←hR];exact shift1 (by rw [hln]<;>omega) (by omega) rfl)) rfl ?_
   refine Zv2 100 ?_
   dsimp only[go_sem]
   refine An ?_
   exact Z57 ok81
end
end NX
end Go.Proofs.YtdjkbodnjhgbcaaGreat
