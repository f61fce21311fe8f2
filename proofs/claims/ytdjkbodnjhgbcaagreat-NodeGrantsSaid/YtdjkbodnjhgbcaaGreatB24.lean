/-
  The function narthex/sess.end: its code compiled, a model, and that the code answers as the model. Written by a program of ours (lb.py). No statement of the seat is proved here.
-/
import Derived.Test.YtdjkbodnjhgbcaaGreatB22
import Derived.Test.YtdjkbodnjhgbcaaGreatB23
set_option maxRecDepth 100000
set_option maxHeartbeats 4000000
namespace Go.Proofs.YtdjkbodnjhgbcaaGreat
namespace NX
open Go
noncomputable section
@[go_sem] def e116:EC:=(by have h:=hF Tryz.f116;(conv at h=>rhs;reduce);dsimp only[go_sem] at h;exact ⟨_,h⟩:DP Tryz.f116).1
theorem Zoh:FnOK Tryz.prog 116 Tryz.f116 e116 [.c 6 (some 2),.t 7] 3 38:=okA
def Zph (x1:Book) (x2:Int):Int→Option (Book×Int)
| x6=>
 ifb (!decide (x6=0)) (
 some ((Book.mk 0 (([]:List Sess))),x6)) (
 (Zqd x1).bind fun x7=>
 (Zab (Book.mk x1.Last x7) x2).bind fun x8=>
 (Z8b x8 (wr (x8+1)) x7).bind fun x11=>
 some ((Book.mk x1.Last x11),0))
def Zqh (x1:Book) (x2:Int) (x4:(Int×Int)):Bool→Option (Book×Int)
| x5=>
 ifb x5 (
 (Zph x1 x2) 175) (
 (Zph x1 x2) x4.2)
def Zrh (x1:Book) (x2:Int) (x3:Int):Option (Book×Int):=
 (Zkg x1 x2).bind fun x4=>
 ifb (decide (x4.2=0)) (
 (Zqh x1 x2 x4) (!decide (x4.1=x3))) (
 (Zqh x1 x2 x4) false)
theorem Zsh (x1:Book) (x2:Int) (x3:Int) (r:(Book×Int)) (h:Zrh x1 x2 x3=some r):Z03 Tryz.prog 116 [.agg (Book.row x1),.iv x2,.iv x3] (.tup [.agg (Book.row r.1),.iv r.2]):=by
 refine FP Zoh fun w0 H0=>?_
 rw [Zrh] at h
 refine Zv2 10 ?_;dsimp only[go_sem];refine An ?_;have ⟨x4,ex4,h⟩:=Bs h;refine VC (k_sess_Poll x1 x2 _ ex4) (Zv2 12 ?_);dsimp only[go_sem];refine An (Zo4 (fun (x5:Bool)=>(⟨(.any :: .iv x2 :: .any :: .ptr 0 0 :: .any :: .any :: .ptr 1 0 :: .any :: .any :: .iv x4.2::an 12 (.bv x5::an 18 [])),[some ⟨32,Book.row x1⟩,some ⟨32,[.iv 0,.nl]⟩],[]⟩:St)) (Zqh x1 x2 x4) r ?_ fun J1=>?_)
 ·intro x5 h;rw [Zqh] at h;(try dsimp only);refine Zo4 (fun (x6:Int)=>(⟨(.any :: .iv x2 :: .any :: .ptr 0 0 :: .any :: .any :: .ptr 1 0 :: .any :: .any :: .iv x6::an 31 []),[some ⟨32,Book.row x1⟩,some ⟨32,[.iv 0,.nl]⟩],[]⟩:St)) (Zph x1 x2) r ?_ fun J2=>?_
  ·intro x6 h;rw [Zph] at h;(try dsimp only);refine Zv2 6 ?_;dsimp only[go_sem];refine An (MI h (fun h=>?_) fun h=>?_)
   ·refine Zv2 7 ?_;dsimp only[go_sem];refine An ?_;exact Zw4 (res:=fun (r:(Book×Int))=>.tup [.agg (Book.row r.1),.iv r.2]) Zoh h
   ·refine Zv2 4 ?_;dsimp only[go_sem];refine An ?_;have ⟨x7,ex7,h⟩:=Bs h;refine Z77 [] [] 2 0 (Zrd x1 _ ex7) ?_;dsimp only[go_sem];refine Zv2 3 ?_;dsimp only[go_sem];refine An (Z07 fun all H=>?_);dsimp only[go_sem];refine GN H 3 9 ?_;dsimp only[go_sem];refine An (Z84 1 2 5 rfl ?_ ?_ ?_)
    ·refine GV H.1 ?_;dsimp only[go_sem];refine Z74 2 5 rfl ?_ ?_
     ·refine GV H.1 ?_;dsimp only[go_sem];have ⟨x8,ex8,h⟩:=Bs h;refine Z74 4 5 rfl ?_ ?_
      ·refine GK H.1 (LR.slice 0 rfl) (Zbb (Book.mk x1.Last x7) x2 _ ex8) ?_;dsimp only[go_sem];refine GE H.1 5 ?_;dsimp only[go_sem];refine Z64 7 rfl (GK H.1 (LR.slice 0 rfl) (Zbb (Book.mk x1.Last x7) x2 _ ex8) ?_);dsimp only[go_sem];refine GN H 1 3 ?_;dsimp only[go_sem];refine An (Z64 9 rfl ?_);have ⟨x11,ex11,h⟩:=Bs h
       refine Z87 H.1 [] [0] 2 1 (Z9b x8 (wr (x8+1)) x7 _ ex11) ?_;dsimp only[go_sem];refine GN H 1 1 ?_;dsimp only[go_sem];refine An (GE H.1 11 ?_);dsimp only[go_sem];refine GD (Zv2 6 ?_);dsimp only[go_sem];refine An (Z27 1 ?_);dsimp only[go_sem];exact Zw4 (res:=fun (r:(Book×Int))=>.tup [.agg (Book.row r.1),.iv r.2]) Zoh h
      ·refine GV H.1 ?_;dsimp only[go_sem];refine Z64 4 rfl (GK H.1 (LR.slice 0 rfl) (Zbb (Book.mk x1.Last x7) x2 _ ex8) ?_);dsimp only[go_sem];refine Z64 7 rfl (GK H.1 (LR.slice 0 rfl) (Zbb (Book.mk x1.Last x7) x2 _ ex8) ?_);dsimp only[go_sem];refine GN H 1 3 ?_;dsimp only[go_sem];refine An (Z64 9 rfl ?_);have ⟨x11,ex11,h⟩:=Bs h
       refine Z87 H.1 [] [0] 2 1 (Z9b x8 (wr (x8+1)) x7 _ ex11) ?_;dsimp only[go_sem];refine GN H 1 1 ?_;dsimp only[go_sem];refine An (GE H.1 11 ?_);dsimp only[go_sem];refine GD (Zv2 6 ?_);dsimp only[go_sem];refine An (Z27 1 ?_);dsimp only[go_sem];exact Zw4 (res:=fun (r:(Book×Int))=>.tup [.agg (Book.row r.1),.iv r.2]) Zoh h
     ·refine GV H.1 ?_;dsimp only[go_sem];refine GE H.1 2 ?_;dsimp only[go_sem];refine Z64 4 rfl ?_;have ⟨x8,ex8,h⟩:=Bs h;refine GK H.1 (LR.slice 0 rfl) (Zbb (Book.mk x1.Last x7) x2 _ ex8) ?_;dsimp only[go_sem];refine Z64 7 rfl (GK H.1 (LR.slice 0 rfl) (Zbb (Book.mk x1.Last x7) x2 _ ex8) ?_);dsimp only[go_sem];refine GN H 1 3 ?_;dsimp only[go_sem];refine An (Z64 9 rfl ?_)
      have ⟨x10,ex10,h⟩:=Bs h;refine Z87 H.1 [] [0] 2 1 (Z9b x8 (wr (x8+1)) x7 _ ex10) ?_;dsimp only[go_sem];refine GN H 1 1 ?_;dsimp only[go_sem];refine An (GE H.1 11 ?_);dsimp only[go_sem];refine GD (Zv2 6 ?_);dsimp only[go_sem];refine An (Z27 1 ?_);dsimp only[go_sem];exact Zw4 (res:=fun (r:(Book×Int))=>.tup [.agg (Book.row r.1),.iv r.2]) Zoh h
    ·refine GV H.1 ?_;dsimp only[go_sem];have ⟨x8,ex8,h⟩:=Bs h;refine Z84 1 4 5 rfl ?_ ?_ ?_
     ·refine GV H.1 ?_;dsimp only[go_sem];refine Z74 4 5 rfl ?_ ?_
      ·refine GK H.1 (LR.slice 0 rfl) (Zbb (Book.mk x1.Last x7) x2 _ ex8) ?_;dsimp only[go_sem];refine GE H.1 5 ?_;dsimp only[go_sem];refine Z64 7 rfl (GK H.1 (LR.slice 0 rfl) (Zbb (Book.mk x1.Last x7) x2 _ ex8) ?_);dsimp only[go_sem];refine GN H 1 3 ?_;dsimp only[go_sem];refine An (Z64 9 rfl ?_);have ⟨x11,ex11,h⟩:=Bs h
       refine Z87 H.1 [] [0] 2 1 (Z9b x8 (wr (x8+1)) x7 _ ex11) ?_;dsimp only[go_sem];refine GN H 1 1 ?_;dsimp only[go_sem];refine An (GE H.1 11 ?_);dsimp only[go_sem];refine GD (Zv2 6 ?_);dsimp only[go_sem];refine An (Z27 1 ?_);dsimp only[go_sem];exact Zw4 (res:=fun (r:(Book×Int))=>.tup [.agg (Book.row r.1),.iv r.2]) Zoh h
      ·refine GV H.1 ?_;dsimp only[go_sem];refine Z64 4 rfl (GK H.1 (LR.slice 0 rfl) (Zbb (Book.mk x1.Last x7) x2 _ ex8) ?_);dsimp only[go_sem];refine Z64 7 rfl (GK H.1 (LR.slice 0 rfl) (Zbb (Book.mk x1.Last x7) x2 _ ex8) ?_);dsimp only[go_sem];refine GN H 1 3 ?_;dsimp only[go_sem];refine An (Z64 9 rfl ?_);have ⟨x11,ex11,h⟩:=Bs h
       refine Z87 H.1 [] [0] 2 1 (Z9b x8 (wr (x8+1)) x7 _ ex11) ?_;dsimp only[go_sem];refine GN H 1 1 ?_;dsimp only[go_sem];refine An (GE H.1 11 ?_);dsimp only[go_sem];refine GD (Zv2 6 ?_);dsimp only[go_sem];refine An (Z27 1 ?_);dsimp only[go_sem];exact Zw4 (res:=fun (r:(Book×Int))=>.tup [.agg (Book.row r.1),.iv r.2]) Zoh h
     ·refine GK H.1 (LR.slice 0 rfl) (Zbb (Book.mk x1.Last x7) x2 _ ex8) ?_;dsimp only[go_sem];refine Z74 1 5 rfl ?_ ?_
      ·refine GV H.1 ?_;dsimp only[go_sem];refine GE H.1 5 ?_;dsimp only[go_sem];refine Z64 7 rfl (GK H.1 (LR.slice 0 rfl) (Zbb (Book.mk x1.Last x7) x2 _ ex8) ?_);dsimp only[go_sem];refine GN H 1 3 ?_;dsimp only[go_sem];refine An (Z64 9 rfl ?_);have ⟨x11,ex11,h⟩:=Bs h;refine Z87 H.1 [] [0] 2 1 (Z9b x8 (wr (x8+1)) x7 _ ex11) ?_;dsimp only[go_sem]
       refine GN H 1 1 ?_;dsimp only[go_sem];refine An (GE H.1 11 ?_);dsimp only[go_sem];refine GD (Zv2 6 ?_);dsimp only[go_sem];refine An (Z27 1 ?_);dsimp only[go_sem];exact Zw4 (res:=fun (r:(Book×Int))=>.tup [.agg (Book.row r.1),.iv r.2]) Zoh h
      ·refine GV H.1 ?_;dsimp only[go_sem];refine Z74 1 7 rfl ?_ ?_
       ·refine GV H.1 ?_;dsimp only[go_sem];refine Z64 7 rfl (GK H.1 (LR.slice 0 rfl) (Zbb (Book.mk x1.Last x7) x2 _ ex8) ?_);dsimp only[go_sem];refine GN H 1 3 ?_;dsimp only[go_sem];refine An (Z64 9 rfl ?_);have ⟨x11,ex11,h⟩:=Bs h;refine Z87 H.1 [] [0] 2 1 (Z9b x8 (wr (x8+1)) x7 _ ex11) ?_;dsimp only[go_sem];refine GN H 1 1 ?_;dsimp only[go_sem];refine An ?_
        refine GE H.1 11 ?_;dsimp only[go_sem];refine GD (Zv2 6 ?_);dsimp only[go_sem];refine An (Z27 1 ?_);dsimp only[go_sem];exact Zw4 (res:=fun (r:(Book×Int))=>.tup [.agg (Book.row r.1),.iv r.2]) Zoh h
       ·refine GK H.1 (LR.slice 0 rfl) (Zbb (Book.mk x1.Last x7) x2 _ ex8) ?_;dsimp only[go_sem];refine GN H 1 4 ?_;dsimp only[go_sem];refine An (GE H.1 1 ?_);dsimp only[go_sem];refine Z64 9 rfl ?_;have ⟨x11,ex11,h⟩:=Bs h;refine Z87 H.1 [] [0] 2 1 (Z9b x8 (wr (x8+1)) x7 _ ex11) ?_;dsimp only[go_sem];refine GN H 1 1 ?_;dsimp only[go_sem];refine An ?_
        refine GE H.1 11 ?_;dsimp only[go_sem];refine GD (Zv2 6 ?_);dsimp only[go_sem];refine An (Z27 1 ?_);dsimp only[go_sem];exact Zw4 (res:=fun (r:(Book×Int))=>.tup [.agg (Book.row r.1),.iv r.2]) Zoh h
     ·refine GV H.1 ?_;dsimp only[go_sem];refine Z74 1 4 rfl ?_ ?_
      ·refine GV H.1 ?_;dsimp only[go_sem];refine Z64 4 rfl (GK H.1 (LR.slice 0 rfl) (Zbb (Book.mk x1.Last x7) x2 _ ex8) ?_);dsimp only[go_sem];refine Z64 7 rfl (GK H.1 (LR.slice 0 rfl) (Zbb (Book.mk x1.Last x7) x2 _ ex8) ?_);dsimp only[go_sem];refine GN H 1 3 ?_;dsimp only[go_sem];refine An (Z64 9 rfl ?_);have ⟨x11,ex11,h⟩:=Bs h
       refine Z87 H.1 [] [0] 2 1 (Z9b x8 (wr (x8+1)) x7 _ ex11) ?_;dsimp only[go_sem];refine GN H 1 1 ?_;dsimp only[go_sem];refine An (GE H.1 11 ?_);dsimp only[go_sem];refine GD (Zv2 6 ?_);dsimp only[go_sem];refine An (Z27 1 ?_);dsimp only[go_sem];exact Zw4 (res:=fun (r:(Book×Int))=>.tup [.agg (Book.row r.1),.iv r.2]) Zoh h
      ·refine GK H.1 (LR.slice 0 rfl) (Zbb (Book.mk x1.Last x7) x2 _ ex8) ?_;dsimp only[go_sem];refine Z74 1 7 rfl ?_ ?_
       ·refine GV H.1 ?_;dsimp only[go_sem];refine Z64 7 rfl (GK H.1 (LR.slice 0 rfl) (Zbb (Book.mk x1.Last x7) x2 _ ex8) ?_);dsimp only[go_sem];refine GN H 1 3 ?_;dsimp only[go_sem];refine An (Z64 9 rfl ?_);have ⟨x11,ex11,h⟩:=Bs h;refine Z87 H.1 [] [0] 2 1 (Z9b x8 (wr (x8+1)) x7 _ ex11) ?_;dsimp only[go_sem];refine GN H 1 1 ?_;dsimp only[go_sem];refine An ?_
        refine GE H.1 11 ?_;dsimp only[go_sem];refine GD (Zv2 6 ?_);dsimp only[go_sem];refine An (Z27 1 ?_);dsimp only[go_sem];exact Zw4 (res:=fun (r:(Book×Int))=>.tup [.agg (Book.row r.1),.iv r.2]) Zoh h
       ·refine GK H.1 (LR.slice 0 rfl) (Zbb (Book.mk x1.Last x7) x2 _ ex8) ?_;dsimp only[go_sem];refine GN H 1 4 ?_;dsimp only[go_sem];refine An (GE H.1 1 ?_);dsimp only[go_sem];refine Z64 9 rfl ?_;have ⟨x11,ex11,h⟩:=Bs h;refine Z87 H.1 [] [0] 2 1 (Z9b x8 (wr (x8+1)) x7 _ ex11) ?_;dsimp only[go_sem];refine GN H 1 1 ?_;dsimp only[go_sem];refine An ?_
        refine GE H.1 11 ?_;dsimp only[go_sem];refine GD (Zv2 6 ?_);dsimp only[go_sem];refine An (Z27 1 ?_);dsimp only[go_sem];exact Zw4 (res:=fun (r:(Book×Int))=>.tup [.agg (Book.row r.1),.iv r.2]) Zoh h
    ·refine GV H.1 ?_;dsimp only[go_sem];refine Z74 1 2 rfl ?_ ?_
     ·refine GV H.1 ?_;dsimp only[go_sem];refine GE H.1 2 ?_;dsimp only[go_sem];refine Z64 4 rfl ?_;have ⟨x8,ex8,h⟩:=Bs h;refine GK H.1 (LR.slice 0 rfl) (Zbb (Book.mk x1.Last x7) x2 _ ex8) ?_;dsimp only[go_sem];refine Z64 7 rfl (GK H.1 (LR.slice 0 rfl) (Zbb (Book.mk x1.Last x7) x2 _ ex8) ?_);dsimp only[go_sem];refine GN H 1 3 ?_;dsimp only[go_sem];refine An (Z64 9 rfl ?_)
      have ⟨x10,ex10,h⟩:=Bs h;refine Z87 H.1 [] [0] 2 1 (Z9b x8 (wr (x8+1)) x7 _ ex10) ?_;dsimp only[go_sem];refine GN H 1 1 ?_;dsimp only[go_sem];refine An (GE H.1 11 ?_);dsimp only[go_sem];refine GD (Zv2 6 ?_);dsimp only[go_sem];refine An (Z27 1 ?_);dsimp only[go_sem];exact Zw4 (res:=fun (r:(Book×Int))=>.tup [.agg (Book.row r.1),.iv r.2]) Zoh h
     ·refine GV H.1 ?_;dsimp only[go_sem];have ⟨x8,ex8,h⟩:=Bs h;refine Z74 1 4 rfl ?_ ?_
      ·refine GV H.1 ?_;dsimp only[go_sem];refine Z64 4 rfl (GK H.1 (LR.slice 0 rfl) (Zbb (Book.mk x1.Last x7) x2 _ ex8) ?_);dsimp only[go_sem];refine Z64 7 rfl (GK H.1 (LR.slice 0 rfl) (Zbb (Book.mk x1.Last x7) x2 _ ex8) ?_);dsimp only[go_sem];refine GN H 1 3 ?_;dsimp only[go_sem];refine An (Z64 9 rfl ?_);have ⟨x11,ex11,h⟩:=Bs h
       refine Z87 H.1 [] [0] 2 1 (Z9b x8 (wr (x8+1)) x7 _ ex11) ?_;dsimp only[go_sem];refine GN H 1 1 ?_;dsimp only[go_sem];refine An (GE H.1 11 ?_);dsimp only[go_sem];refine GD (Zv2 6 ?_);dsimp only[go_sem];refine An (Z27 1 ?_);dsimp only[go_sem];exact Zw4 (res:=fun (r:(Book×Int))=>.tup [.agg (Book.row r.1),.iv r.2]) Zoh h
      ·refine GK H.1 (LR.slice 0 rfl) (Zbb (Book.mk x1.Last x7) x2 _ ex8) ?_;dsimp only[go_sem];refine Z74 1 7 rfl ?_ ?_
       ·refine GV H.1 ?_;dsimp only[go_sem];refine Z64 7 rfl (GK H.1 (LR.slice 0 rfl) (Zbb (Book.mk x1.Last x7) x2 _ ex8) ?_);dsimp only[go_sem];refine GN H 1 3 ?_;dsimp only[go_sem];refine An (Z64 9 rfl ?_);have ⟨x11,ex11,h⟩:=Bs h;refine Z87 H.1 [] [0] 2 1 (Z9b x8 (wr (x8+1)) x7 _ ex11) ?_;dsimp only[go_sem];refine GN H 1 1 ?_;dsimp only[go_sem];refine An ?_
        refine GE H.1 11 ?_;dsimp only[go_sem];refine GD (Zv2 6 ?_);dsimp only[go_sem];refine An (Z27 1 ?_);dsimp only[go_sem];exact Zw4 (res:=fun (r:(Book×Int))=>.tup [.agg (Book.row r.1),.iv r.2]) Zoh h
       ·refine GK H.1 (LR.slice 0 rfl) (Zbb (Book.mk x1.Last x7) x2 _ ex8) ?_;dsimp only[go_sem];refine GN H 1 4 ?_;dsimp only[go_sem];refine An (GE H.1 1 ?_);dsimp only[go_sem];refine Z64 9 rfl ?_;have ⟨x11,ex11,h⟩:=Bs h;refine Z87 H.1 [] [0] 2 1 (Z9b x8 (wr (x8+1)) x7 _ ex11) ?_;dsimp only[go_sem];refine GN H 1 1 ?_;dsimp only[go_sem];refine An ?_
        refine GE H.1 11 ?_;dsimp only[go_sem];refine GD (Zv2 6 ?_);dsimp only[go_sem];refine An (Z27 1 ?_);dsimp only[go_sem];exact Zw4 (res:=fun (r:(Book×Int))=>.tup [.agg (Book.row r.1),.iv r.2]) Zoh h
  ·refine MI h (fun h=>?_) fun h=>?_
   ·refine Zv2 3 ?_;dsimp only[go_sem];refine An ?_;exact Zy4 J2 (s:=175) h
   ·refine Zv2 1 ?_;dsimp only[go_sem];refine An ?_;exact Zy4 J2 (s:=x4.2) h
 ·refine MC 18 h (fun h=>?_) fun h=>?_
  ·dsimp only[go_sem];refine Zv2 5 ?_;dsimp only[go_sem];refine An ?_;exact Zy4 J1 (s:=!decide (x4.1=x3)) h
  ·dsimp only[go_sem];refine Zv2 5 ?_;dsimp only[go_sem];refine An ?_;exact Zy4 J1 (s:=false) h
@[go_sem] def e136:EC:=(by have h:=hF Tryz.f136;(conv at h=>rhs;reduce);dsimp only[go_sem] at h;exact ⟨_,h⟩:DP Tryz.f136).1
theorem ok136:FnOK Tryz.prog 136 Tryz.f136 e136 [.c 6 (some 3),.t 7] 3 66:=okA
@[go_sem] def e174:EC:=(by have h:=hF Tryz.f174;(conv at h=>rhs;reduce);dsimp only[go_sem] at h;exact ⟨_,h⟩:DP Tryz.f174).1
theorem ok174:FnOK Tryz.prog 174 Tryz.f174 e174 [.c 2 (some 3),.t 3,.t 4] 1 111:=okA
@[go_sem] def e49:EC:=(by have h:=hF Tryz.f49;(conv at h=>rhs;reduce);dsimp only[go_sem] at h;exact ⟨_,h⟩:DP Tryz.f49).1
theorem ok49:FnOK Tryz.prog 49 Tryz.f49 e49 [.t 2] 1 33:=okA
def Zth:Bool→Option Int
| x7=>
 ifb x7 (
 some 150) (
 some 0)
def Zuh (x1:DK):Bool→Option Int
| x5=>
 ifb x5 (
 Zth x5) (
 (Zwa x1.Need ((fun z=>Zzd z x1))).bind fun x6=>
 Zth x6)
def Zvh (x1:DK):Bool→Option Int
| x3=>
 ifb x3 (
 some 150) (
 (Z88 x1.Need).bind fun x4=>
 ifb (!x4) (
 Zth (!x4)) (
 ifb (decide (x1.TH=0)) (
 (Zuh x1) (decide (0<(ln Z15 x1.Need)))) (
 (Zuh x1) false)))
def Zwh (x1:DK):Option Int:=
 (Zmg x1.DI).bind fun x2=>
 ifb (!decide (x2=0)) (
 (Zvh x1) (!decide (x2=0))) (
 ifb (decide (x1.TH<0)) (
 (Zvh x1) (decide (x1.TH<0))) (
 (Zvh x1) (decide (2<x1.TH))))
theorem Zxh (x1:DK) (r:Int) (h:Zwh x1=some r):Z03 Tryz.prog 49 [.agg (DK.row x1)] (.iv r):=by
 refine FP ok49 fun w0 H0=>?_
 rw [Zwh] at h
 refine Zv2 17 ?_;dsimp only[go_sem];refine An ?_;have ⟨x2,ex2,h⟩:=Bs h;refine VC (Zng x1.DI _ ex2) (Zv2 3 ?_);dsimp only[go_sem];refine An (Zo4 (fun (x3:Bool)=>(⟨(.any :: .ptr 0 0 :: .any :: .clo 95 [.ptr 0 0] :: .any :: .bv x3::an 28 []),[some ⟨29,DK.row x1⟩],[]⟩:St)) (Zvh x1) r ?_ fun J1=>?_)
 ·intro x3 h;rw [Zvh] at h;(try dsimp only);refine MI h (fun h=>?_) fun h=>?_
  ·refine Zv2 4 ?_;dsimp only[go_sem];refine An ?_;exact Zw4 (res:=fun (r:Int)=>.iv r) ok49 h
  ·refine Zv2 5 ?_;dsimp only[go_sem];refine An ?_;have ⟨x4,ex4,h⟩:=Bs h;refine VC (Z98 x1.Need _ ex4) (Zv2 3 ?_);dsimp only[go_sem];refine An (Zo4 (fun (x7:Bool)=>(⟨an 16 (.bv x7::an 17 []),[],[]⟩:St)) Zth r ?_ fun J2=>?_)
   ·intro x7 h;rw [Zth] at h;(try dsimp only);refine MI h (fun h=>?_) fun h=>?_
    ·refine Zv2 4 ?_;dsimp only[go_sem];refine An ?_;exact Zw4 (res:=fun (r:Int)=>.iv r) ok49 h
    ·refine Zv2 6 ?_;dsimp only[go_sem];refine An ?_;exact Zw4 (res:=fun (r:Int)=>.iv r) ok49 h
   ·refine MI h (fun h=>?_) fun h=>?_
    ·refine Zv2 1 ?_;dsimp only[go_sem];refine An ?_;exact Zy4 J2 (s:=!x4) h
    ·refine Zv2 6 ?_;dsimp only[go_sem];refine An (Zo4 (fun (x5:Bool)=>(⟨(.any :: .ptr 0 0 :: .any :: .clo 95 [.ptr 0 0]::an 12 (.bv x5::an 17 [])),[some ⟨29,DK.row x1⟩],[]⟩:St)) (Zuh x1) r ?_ fun J3=>?_)
     ·intro x5 h;rw [Zuh] at h;(try dsimp only);refine MI h (fun h=>?_) fun h=>?_
      ·refine Zv2 1 ?_;dsimp only[go_sem];refine An ?_;exact Zy4 J2 (s:=x5) h
      ·refine Zv2 4 ?_;dsimp only[go_sem];refine An ?_;have ⟨x6,ex6,h⟩:=Bs h;refine VL (LR.block 0 rfl rfl) (Zxa x1.Need _ _ ((fun z=>Zzd z x1)) ⟨by kernel_rfl,rfl,fun z r hz=>Z0e z x1 r hz⟩ _ ex6) (Zv2 2 ?_);dsimp only[go_sem];refine An ?_;exact Zy4 J2 (s:=x6) h
     ·refine MC 24 h (fun h=>?_) fun h=>?_
      ·dsimp only[go_sem];refine Zv2 7 ?_;dsimp only[go_sem];refine An ?_;exact Zy4 J3 (s:=decide (0<(ln Z15 x1.Need))) h
      ·dsimp only[go_sem];refine Zv2 7 ?_;dsimp only[go_sem];refine An ?_;exact Zy4 J3 (s:=false) h
 ·refine MI h (fun h=>?_) fun h=>?_
  ·refine Zv2 1 ?_;dsimp only[go_sem];refine An ?_;exact Zy4 J1 (s:=!decide (x2=0)) h
  ·refine Zv2 7 ?_;dsimp only[go_sem];refine An (MI h (fun h=>?_) fun h=>?_)
   ·refine Zv2 1 ?_;dsimp only[go_sem];refine An ?_;exact Zy4 J1 (s:=decide (x1.TH<0)) h
   ·refine Zv2 6 ?_;dsimp only[go_sem];refine An ?_;exact Zy4 J1 (s:=decide (2<x1.TH)) h
@[go_sem] def e34:EC:=(by have h:=hF Tryz.f34;(conv at h=>rhs;reduce);dsimp only[go_sem] at h;exact ⟨_,h⟩:DP Tryz.f34).1
theorem ok34:FnOK Tryz.prog 34 Tryz.f34 e34 [] 2 40:=okA
def Zyh (x2:Int) (x14:(Int×Bool)):List KE→Option (List KE)
| x16=>
 (at_ x16 x14.1).bind fun x17=>
 some (x16.set (Int.toNat (x14.1)) (KE.mk x17.Peer x2))
def Zzh (x1 x2:Int) (_x3 _x4:Int) (_x5 _x6 _x7:Int) (_x8:List Side) (_x9:List Int) (_x10:List Sess) (x11:List KE) (_x12:List Int) (_x13:List KE):Option (List KE):=
 (Zf9 x11 x1 ((fun z=>Zh9 z.1 z.2))).bind fun x14=>
 ifb (!x14.2) (
 (Ztg x11 x14.1 ([KE.mk x1 0])).bind fun x15=>
 (Zyh x2 x14) x15) (
 (Zyh x2 x14) x11)
theorem Z0i (x1 x2:Int) (x3 x4:Int) (x5 x6 x7:Int) (x8:List Side) (x9:List Int) (x10:List Sess) (x11:List KE) (x12:List Int) (x13 r:List KE) (h:Zzh x1 x2 x3 x4 x5 x6 x7 x8 x9 x10 x11 x12 x13=some r):Zr5 Tryz.prog 82 [.ptr 0 0,.iv x1,.iv x2] [some ⟨81,[.iv x3,.iv x4,.osl 0,.iv x5,.osl 1,.iv x6,.osl 2,.osl 3,.osl 4,.osl 5,.nl,.nl,.iv x7]⟩] [Sq6 x8,Sq7 x9,Sq9 x10,Sq8 x11,Sq7 x12,Sq8 x13] (.tup []) [some ⟨81,[.iv x3,.iv x4,.osl 0,.iv x5,.osl 1,.iv x6,.osl 2,.osl 7,.osl 4,.osl 5,.nl,.nl,.iv x7]⟩] [Sq6 x8,Sq7 x9,Sq9 x10,none,Sq7 x12,Sq8 x13,none,Sq8 r]:=by
 refine FT ok82 fun w0 M0=>?_
 rw [Zzh] at h
 dsimp only[lun,List.cons_append,List.nil_append]
 refine Zv2 8 ?_;dsimp only[go_sem];refine An ?_;have ⟨x14,ex14,h⟩:=Bs h;refine VL (LR.slice 3 rfl) (Zg9 x11 x1 _ _ ((fun z=>Zh9 z.1 z.2)) ⟨by kernel_rfl,rfl,fun z r hz=>Zi9 z.1 z.2 r hz⟩ _ ex14) (Zv2 12 ?_);dsimp only[go_sem];refine An ?_
 refine Zo4 (fun (x16:List KE)=>(⟨(.ptr 0 0 :: .any :: .iv x2::an 3 (.iv x14.1::an 36 [])),[some ⟨81,[.iv x3,.iv x4,.osl 0,.iv x5,.osl 1,.iv x6,.osl 2,.osl 7,.osl 4,.osl 5,.nl,.nl,.iv x7]⟩],[Sq6 x8,Sq7 x9,Sq9 x10,none,Sq7 x12,Sq8 x13,none,Sq8 x16]⟩:St)) (Zyh x2 x14) r ?_ fun J1=>?_
 ·intro x16 h;rw [Zyh] at h;(try dsimp only);refine Zv2 8 ?_;dsimp only[go_sem];refine An ?_;have ⟨x17,ex17,h⟩:=Bs h;refine Ze5 KE.row ex17 trivial rfl rfl rfl (Zv2 1 ?_);dsimp only[go_sem];refine An (Zl5 [.iv x2] KE.row (y':=(KE.mk x17.Peer x2)) ex17 trivial rfl rfl rfl (by first | exact Zi4 _ | simp [go_sem]) rfl rfl rfl rfl (Zv2 1 ?_));dsimp only[go_sem];refine An ?_;obtain rfl:=Option.some.inj h;exact Z67 ok82
 ·refine MI h (fun h=>?_) fun h=>?_
  ·refine Zv2 11 ?_;dsimp only[go_sem];refine An ?_;have ⟨x15,ex15,h⟩:=Bs h;refine Z77 [] [3,6] 1 7 (Zug x11 x14.1 ([KE.mk x1 0]) _ ex15) ?_;dsimp only[go_sem];refine Zv2 5 ?_;dsimp only[go_sem];refine An ?_;exact Zy4 J1 (s:=x15) h
  ·refine Zv2 1 ?_;dsimp only[go_sem];refine An (Z47 95 2 ?_);dsimp only[go_sem];refine Z47 95 2 ?_;dsimp only[go_sem];refine Z17 3 7 ?_;dsimp only[go_sem];exact Zy4 J1 (s:=x11) h
def Z1i:List Int→Option (Int×List Int)
| x18=>
 some ((-1),x18)
def Z2i (x1:Int) (x2:List Sess):(Int×List Int)→Option ((Int×List Int) ⊕ (Int×List Int))
| (x7,x8)=>
 ifb (decide (x7<(ln Sess.row x2))) (
 (at_ x2 x7).bind fun x9=>
 (Zxg x9 x1 x8).bind fun x10=>
 ifb x10.1 (
 Option.map Sum.inr (some (x7,x10.2))) (
 some (.inl (wr (x7+1),x10.2)))) (
 Option.map Sum.inr (Z1i x8))
def Z3i (x1:Int) (x2:List Sess):Option (Int×List Int):=
 loop (Z2i x1 x2) (0,([]:List Int))
theorem Z4i (x1:Int) (x2:List Sess) (r:(Int×List Int)) (h:Z3i x1 x2=some r):Zr5 Tryz.prog 144 [.osl 0,.clo 125 [.ptr 0 0,.ptr 1 0]] [some ⟨3,[.iv x1]⟩,some ⟨27,[.nl]⟩] [Sq9 x2] (.iv r.1) [some ⟨3,[.iv x1]⟩,some ⟨27,[.osl 1]⟩] [Sq9 x2,Sq7 r.2]:=by
 refine FT ok144 fun w0 M0=>?_
 rw [Z3i] at h
 dsimp only[lun,List.cons_append,List.nil_append]
 refine Zv2 11 ?_;dsimp only[go_sem];refine An (Zo4 (fun (x18:List Int)=>(⟨an 19 [],[some ⟨3,[.iv x1]⟩,some ⟨27,[.osl 1]⟩],[Sq9 x2,Sq7 x18]⟩:St)) Z1i r ?_ fun J1=>?_)
 ·intro x18 h;rw [Z1i] at h;(try dsimp only);refine Zv2 4 ?_;dsimp only[go_sem];refine An ?_;obtain rfl:=Option.some.inj h;exact Z57 ok144
 ·refine Zv2 1 ?_;dsimp only[go_sem];refine An (Z37 1 0 3 1 ?_);dsimp only[go_sem];refine Zp4 h (fun ((x7,x8):(Int×List Int))=>(⟨(.osl 0 :: .clo 125 [.ptr 0 0,.ptr 1 0]::an 5 (.iv (ln Sess.row x2) :: .iv x7::an 10 [])),[some ⟨3,[.iv x1]⟩,some ⟨27,[.osl 1]⟩],[Sq9 x2,Sq7 x8]⟩:St)) (by simp [go_sem]) (by rintro ⟨x7,x8⟩;first | rfl | simp [go_sem]) ?_;rintro n1 ⟨x7,x8⟩ y1 h hin1 hout1;rw [Z2i] at h;(try dsimp only);refine Zv2 5 ?_;dsimp only[go_sem]
  refine An (MI h (fun h=>?_) fun h=>?_)
  ·refine Zv2 13 ?_;dsimp only[go_sem];refine An ?_;have ⟨x9,ex9,h⟩:=Bs h;refine Ze5 Sess.row ex9 trivial rfl rfl rfl (Zh5 Sess.row ex9 trivial rfl rfl rfl ?_);have ⟨x10,ex10,h⟩:=Bs h;refine Zu5 [true,true] [false,true] trivial rfl (Zz6 [0,1] [1] 2 2 (Zyg x9 x1 x8 _ ex10)) (by kernel_rfl) (h:=?_);dsimp only[go_sem];refine Zv2 1 ?_;dsimp only[go_sem];refine An (MI h (fun h=>?_) fun h=>?_)
   ·refine Zv2 5 ?_;dsimp only[go_sem];refine An (Z17 3 1 ?_);dsimp only[go_sem];obtain rfl:=Option.some.inj (Zn4 h hout1);exact Z57 ok144
   ·refine Zv2 6 ?_;dsimp only[go_sem];refine An (Z17 3 1 ?_);dsimp only[go_sem];exact Zx4 h hin1
  ·refine Zv2 1 ?_;dsimp only[go_sem];refine An ?_;exact Zy4 J1 (s:=x8) (Zn4 h hout1)
@[go_sem] def e132:EC:=(by have h:=hF Tryz.f132;(conv at h=>rhs;reduce);dsimp only[go_sem] at h;exact ⟨_,h⟩:DP Tryz.f132).1
theorem ok132:FnOK Tryz.prog 132 Tryz.f132 e132 [] 1 44:=okA
def Z5i (x2:Int) (x16:(Int×Bool)):List KE→Option (List KE)
| x18=>
 (at_ x18 x16.1).bind fun x19=>
 some (x18.set (Int.toNat (x16.1)) (KE.mk x19.Peer x2))
def Z6i (x1 x2:Int) (_x3 _x4:Int) (_x5 _x6:Int) (_x7:List Sess) (_x8:List Int) (_x9:Int) (_x10:List Side) (_x11:List Int) (x12 _x13:List KE) (_x14:List Mail) (_x15:List Event):Option (List KE):=
 (Zf9 x12 x1 ((fun z=>Zh9 z.1 z.2))).bind fun x16=>
 ifb (!x16.2) (
 (Ztg x12 x16.1 ([KE.mk x1 0])).bind fun x17=>
 (Z5i x2 x16) x17) (
 (Z5i x2 x16) x12)
theorem Z7i (x1 x2:Int) (x3 x4:Int) (x5 x6:Int) (x7:List Sess) (x8:List Int) (x9:Int) (x10:List Side) (x11:List Int) (x12 x13:List KE) (x14:List Mail) (x15:List Event) (r:List KE) (h:Z6i x1 x2 x3 x4 x5 x6 x7 x8 x9 x10 x11 x12 x13 x14 x15=some r):Zr5 Tryz.prog 82 [.ptr 0 0,.iv x1,.iv x2] [some ⟨81,[.iv x3,.iv x4,.osl 0,.iv x5,.osl 1,.iv x6,Sp3 x7,.osl 2,Sp0 x8,.osl 3,.osl 4,.osl 5,.iv x9]⟩] [Sq6 x10,Sq7 x11,Sq8 x12,Sq8 x13,Zb7 x14,Za7 x15] (.tup []) [some ⟨81,[.iv x3,.iv x4,.osl 0,.iv x5,.osl 1,.iv x6,Sp3 x7,.osl 7,Sp0 x8,.osl 3,.osl 4,.osl 5,.iv x9]⟩] [Sq6 x10,Sq7 x11,none,Sq8 x13,Zb7 x14,Za7 x15,none,Sq8 r]:=by
 refine FT ok82 fun w0 M0=>?_
 rw [Z6i] at h
 dsimp only[lun,List.cons_append,List.nil_append]
 refine Zv2 8 ?_;dsimp only[go_sem];refine An ?_;have ⟨x16,ex16,h⟩:=Bs h;refine VL (LR.slice 2 rfl) (Zg9 x12 x1 _ _ ((fun z=>Zh9 z.1 z.2)) ⟨by kernel_rfl,rfl,fun z r hz=>Zi9 z.1 z.2 r hz⟩ _ ex16) (Zv2 12 ?_);dsimp only[go_sem];refine An ?_
 refine Zo4 (fun (x18:List KE)=>(⟨(.ptr 0 0 :: .any :: .iv x2::an 3 (.iv x16.1::an 36 [])),[some ⟨81,[.iv x3,.iv x4,.osl 0,.iv x5,.osl 1,.iv x6,Sp3 x7,.osl 7,Sp0 x8,.osl 3,.osl 4,.osl 5,.iv x9]⟩],[Sq6 x10,Sq7 x11,none,Sq8 x13,Zb7 x14,Za7 x15,none,Sq8 x18]⟩:St)) (Z5i x2 x16) r ?_ fun J1=>?_
 ·intro x18 h;rw [Z5i] at h;(try dsimp only);refine Zv2 8 ?_;dsimp only[go_sem];refine An ?_;have ⟨x19,ex19,h⟩:=Bs h;refine Ze5 KE.row ex19 trivial rfl rfl rfl (Zv2 1 ?_);dsimp only[go_sem];refine An (Zl5 [.iv x2] KE.row (y':=(KE.mk x19.Peer x2)) ex19 trivial rfl rfl rfl (by first | exact Zi4 _ | simp [go_sem]) rfl rfl rfl rfl (Zv2 1 ?_));dsimp only[go_sem];refine An ?_;obtain rfl:=Option.some.inj h;exact Z67 ok82
 ·refine MI h (fun h=>?_) fun h=>?_
  ·refine Zv2 11 ?_;dsimp only[go_sem];refine An ?_;have ⟨x17,ex17,h⟩:=Bs h;refine Z77 [] [2,6] 1 7 (Zug x12 x16.1 ([KE.mk x1 0]) _ ex17) ?_;dsimp only[go_sem];refine Zv2 5 ?_;dsimp only[go_sem];refine An ?_;exact Zy4 J1 (s:=x17) h
  ·refine Zv2 1 ?_;dsimp only[go_sem];refine An (Z47 95 2 ?_);dsimp only[go_sem];refine Z47 95 2 ?_;dsimp only[go_sem];refine Z17 2 7 ?_;dsimp only[go_sem];exact Zy4 J1 (s:=x12) h
@[go_sem] def e73:EC:=(by have h:=hF Tryz.f73;(conv at h=>rhs;reduce);dsimp only[go_sem] at h;exact ⟨_,h⟩:DP Tryz.f73).1
theorem ok73:FnOK Tryz.prog 73 Tryz.f73 e73 [.c 4 (some 2),.t 5] 2 9:=okA
def Z8i (x1:Book) (x2:Int):Option (Book×Int):=
 (Zrh x1 x2 1).bind fun x3=>
 some (x3.1,x3.2)
theorem Z9i (x1:Book) (x2:Int) (r:(Book×Int)) (h:Z8i x1 x2=some r):Z03 Tryz.prog 73 [.agg (Book.row x1),.iv x2] (.tup [.agg (Book.row r.1),.iv r.2]):=by
 refine FP ok73 fun w0 H0=>?_
 rw [Z8i] at h
 refine Zv2 10 ?_;dsimp only[go_sem];refine An ?_;have ⟨x3,ex3,h⟩:=Bs h;refine VC (Zsh x1 x2 1 _ ex3) (Zv2 5 ?_);dsimp only[go_sem];refine An ?_;exact Zw4 (res:=fun (r:(Book×Int))=>.tup [.agg (Book.row r.1),.iv r.2]) ok73 h
@[go_sem] def e77:EC:=(by have h:=hF Tryz.f77;(conv at h=>rhs;reduce);dsimp only[go_sem] at h;exact ⟨_,h⟩:DP Tryz.f77).1
theorem ok77:FnOK Tryz.prog 77 Tryz.f77 e77 [.c 4 (some 2),.t 5] 2 9:=okA
def Zai (x1:Book) (x2:Int):Option (Book×Int):=
 (Zrh x1 x2 0).bind fun x3=>
 some (x3.1,x3.2)
theorem k_sess_Cancel (x1:Book) (x2:Int) (r:(Book×Int)) (h:Zai x1 x2=some r):Z03 Tryz.prog 77 [.agg (Book.row x1),.iv x2] (.tup [.agg (Book.row r.1),.iv r.2]):=by
 refine FP ok77 fun w0 H0=>?_
 rw [Zai] at h
 refine Zv2 10 ?_;dsimp only[go_sem];refine An ?_;have ⟨x3,ex3,h⟩:=Bs h;refine VC (Zsh x1 x2 0 _ ex3) (Zv2 5 ?_);dsimp only[go_sem];refine An ?_;exact Zw4 (res:=fun (r:(Book×Int))=>.tup [.agg (Book.row r.1),.iv r.2]) ok77 h
@[go_sem] def e154:EC:=(by have h:=hF Tryz.f154;(conv at h=>rhs;reduce);dsimp only[go_sem] at h;exact ⟨_,h⟩:DP Tryz.f154).1
theorem ok154:FnOK Tryz.prog 154 Tryz.f154 e154 [] 1 84:=okA
end
end NX
end Go.Proofs.YtdjkbodnjhgbcaaGreat
