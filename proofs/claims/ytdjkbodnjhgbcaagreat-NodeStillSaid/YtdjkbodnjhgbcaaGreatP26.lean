/-
  The function (*narthex/node.node).sessions, lent own memory. Written by a program of ours (lb.py). No statement of the seat is proved here.
-/
import Derived.Test.YtdjkbodnjhgbcaaGreatP25
set_option maxRecDepth 100000
set_option maxHeartbeats 4000000
namespace Go.Proofs.YtdjkbodnjhgbcaaGreat
namespace NX
open Go
noncomputable section
def Zzj:(Int×Int×Int×Int×List Sess×Int×List Event×List Side×List Int)→Option (Int×Int×Int×Int×List Sess×Int×List Event×List Side×List Int)
| (x44,x45,x46,x47,x48,x49,x50,x51,x52)=>
 some (x44,x45,x46,x47,x48,x49,x50,x51,x52)
def Z0k (x1:Do) (x2:Int) (x3 x4 x5:Int) (x7:List Side) (x8:List Int) (x9:List Sess) (x16:Book):(Bool×Int)→Option (Int×Int×Int×Int×List Sess×Int×List Event×List Side×List Int)
| (x21,x22)=>
 ifb x21 (
 (Zya x1.Need).bind fun x23=>
 (Zj4 56 [] ([Event.mk 0 x2 x1.ID 0 x23])).bind fun x24=>
 Zzj (x2,x3,x4,x16.Last,x16.Sess,x22,x24,x7,x8)) (
 Zzj (x2,x3,x4,x5,x9,x22,([]:List Event),x7,x8))
def Z1k (x1:Do) (x2:Int) (x3 x4:Int) (x5 x6:Int) (x7:List Side) (x8:List Int) (x9:List Sess) (x10:List KE) (x11:List Int) (x12:List KE):(Int×Book)→Option (Int×Int×Int×Int×List Sess×Int×List Event×List Side×List Int)
| (x15,x16)=>
 (Znb (decide (x15=0)) x15 x2 x3 x4 x5 x9 x6 x7 x8 x10 x11 x12).bind fun x17=>
 ifb x17.1 (
 (Zae x2 x3 x4 x5 x9 x7 x8 x10 x11 x12).bind fun x18=>
 (Zlh x1.Need x18).bind fun x19=>
 (Znb x19 181 x2 x3 x4 x5 x9 x17.2 x7 x8 x10 x11 x12).bind fun x20=>
 (Z0k x1 x2 x3 x4 x5 x7 x8 x9 x16) (x20.1,x20.2)) (
 (Z0k x1 x2 x3 x4 x5 x7 x8 x9 x16) (false,x17.2))
def Z2k (x2 x3 x4:Int) (x7:List Side) (x8:List Int) (x10:List KE) (x11:List Int) (x12:List KE) (x31:(Bool×Int×List Sess×Int)) (x32:List Event):Bool→Option (Int×Int×Int×Int×List Sess×Int×List Event×List Side×List Int)
| x33=>
 ifb x33 (
 (Zsj x2 x3 x4 x31.2.1 x31.2.2.1 x31.2.2.2 x7 x8 x10 x11 x12 x32).bind fun x34=>
 Zzj (x34.1,x34.2.1,x34.2.2.1,x31.2.1,x31.2.2.1,x31.2.2.2,x32,x34.2.2.2.1,x34.2.2.2.2)) (
 Zzj (x2,x3,x4,x31.2.1,x31.2.2.1,x31.2.2.2,x32,x7,x8))
def Z3k (x2 x3 x4:Int) (x7:List Side) (x8:List Int) (x10:List KE) (x11:List Int) (x12:List KE) (x37:Int) (x40:(Bool×Int×List Sess×Int)):Bool→Option (Int×Int×Int×Int×List Sess×Int×List Event×List Side×List Int)
| x41=>
 ifb x41 (
 (Zub 4 x37 x2 x3 x4 x40.2.1 x40.2.2.1 x40.2.2.2 x7 x8 x10 x11 x12).bind fun x42=>
 (Zsj x2 x3 x4 x40.2.1 x40.2.2.1 x40.2.2.2 x7 x8 x10 x11 x12 x42).bind fun x43=>
 Zzj (x43.1,x43.2.1,x43.2.2.1,x40.2.1,x40.2.2.1,x40.2.2.2,x42,x43.2.2.2.1,x43.2.2.2.2)) (
 Zzj (x2,x3,x4,x40.2.1,x40.2.2.1,x40.2.2.2,([]:List Event),x7,x8))
def Z4k (x2 x3:Int) (x4 x5 x6:Int) (x7:List Side) (x8:List Int) (x9:List Sess) (x10:List KE) (x11:List Int) (x12:List KE):(Int×Int×Book)→Option (Int×Int×Int×Int×List Sess×Int×List Event×List Side×List Int)
| (x37,x38,x39)=>
 (Zde x39 x38 x2 x3 x4 x5 x9 x6 x7 x8 x10 x11 x12).bind fun x40=>
 ifb x40.1 (
 (Z3k x2 x3 x4 x7 x8 x10 x11 x12 x37 x40) (!decide (x37=0))) (
 (Z3k x2 x3 x4 x7 x8 x10 x11 x12 x37 x40) false)
def Z5k (x1:Do) (x2:Int) (x3 x4:Int) (x5 x6:Int) (x7:List Side) (x8:List Int) (x9:List Sess) (x10:List KE) (x11:List Int) (x12:List KE):Option (Int×Int×Int×Int×List Sess×Int×List Event×List Side×List Int):=
 ifb (decide (x1.Kind=0)) (
 (Zdg (Book.mk x5 x9) x1.ID x1.Need).bind fun x13=>
 (Z1k x1 x2 x3 x4 x5 x6 x7 x8 x9 x10 x11 x12) (x13.2,x13.1)) (
 ifb (decide (x1.Kind=1)) (
 (Z7i (Book.mk x5 x9) x1.ID).bind fun x25=>
 (Zde x25.1 x25.2 x2 x3 x4 x5 x9 x6 x7 x8 x10 x11 x12).bind fun x26=>
 ifb x26.1 (
 (Zub 2 x1.ID x2 x3 x4 x26.2.1 x26.2.2.1 x26.2.2.2 x7 x8 x10 x11 x12).bind fun x27=>
 (Zsj x2 x3 x4 x26.2.1 x26.2.2.1 x26.2.2.2 x7 x8 x10 x11 x12 x27).bind fun x28=>
 Zzj (x28.1,x28.2.1,x28.2.2.1,x26.2.1,x26.2.2.1,x26.2.2.2,x27,x28.2.2.2.1,x28.2.2.2.2)) (
 Zzj (x2,x3,x4,x26.2.1,x26.2.2.1,x26.2.2.2,([]:List Event),x7,x8))) (
 ifb (decide (x1.Kind=2)) (
 (Zyb x2 x3 x4 x5 x7 x8 x9 x10 x11 x12).bind fun x29=>
 (Z9i (Book.mk x5 x9) x1.ID).bind fun x30=>
 (Zde x30.1 x30.2 x2 x3 x4 x5 x9 x6 x7 x8 x10 x11 x12).bind fun x31=>
 ifb x31.1 (
 (Zub 3 x1.ID x2 x3 x4 x31.2.1 x31.2.2.1 x31.2.2.2 x7 x8 x10 x11 x12).bind fun x32=>
 ifb (decide (x29.1.ID=x1.ID)) (
 (Z2k x2 x3 x4 x7 x8 x10 x11 x12 x31 x32) (decide (x4=1))) (
 (Z2k x2 x3 x4 x7 x8 x10 x11 x12 x31 x32) false)) (
 Zzj (x2,x3,x4,x31.2.1,x31.2.2.1,x31.2.2.2,([]:List Event),x7,x8))) (
 ifb (decide (x1.Kind=3)) (
 (Zog (Book.mk x5 x9) x1.Hold).bind fun x35=>
 (Z4k x2 x3 x4 x5 x6 x7 x8 x9 x10 x11 x12) (x35.2.1,x35.2.2,x35.1)) (
 Zzj (x2,x3,x4,x5,x9,x6,([]:List Event),x7,x8)))))
theorem Z6k (x1:Do) (x2:Int) (x3 x4:Int) (x5 x6:Int) (x7:List Side) (x8:List Int) (x9:List Sess) (x10:List KE) (x11:List Int) (x12:List KE) (r:(Int×Int×Int×Int×List Sess×Int×List Event×List Side×List Int)) (h:Z5k x1 x2 x3 x4 x5 x6 x7 x8 x9 x10 x11 x12=some r):Zq5 Tryz.prog 32 [.ptr 0 0,.agg (Do.row x1)] [some ⟨81,[.iv x2,.iv x3,.osl 0,.iv x4,.osl 1,.iv x5,.osl 2,.osl 3,.osl 4,.osl 5,.nl,.nl,.iv x6]⟩] [Sq6 x7,Sq7 x8,Sq9 x9,Sq8 x10,Sq7 x11,Sq8 x12] (.tup []) [some ⟨81,[.iv r.1,.iv r.2.1,.osl 8,.iv r.2.2.1,.osl 9,.iv r.2.2.2.1,Sp3 r.2.2.2.2.1,.osl 3,.osl 4,.osl 5,.nl,.osl 6,.iv r.2.2.2.2.2.1]⟩] [none,none,none,Sq8 x10,Sq7 x11,Sq8 x12,Z97 r.2.2.2.2.2.2.1,none,Sq6 r.2.2.2.2.2.2.2.1,Sq7 r.2.2.2.2.2.2.2.2]:=by
 refine FT ok32 fun w0 M0=>?_
 rw [Z5k] at h
 dsimp only[lun,List.cons_append,List.nil_append]
 refine Vg 15 ?_
 refine Zo4 (fun ((x44,x45,x46,x47,x48,x49,x50,x51,x52):(Int×Int×Int×Int×List Sess×Int×List Event×List Side×List Int))=>⟨an 161 [],[some ⟨81,[.iv x44,.iv x45,.osl 8,.iv x46,.osl 9,.iv x47,Sp3 x48,.osl 3,.osl 4,.osl 5,.nl,.osl 6,.iv x49]⟩],[none,none,none,Sq8 x10,Sq7 x11,Sq8 x12,Z97 x50,none,Sq6 x51,Sq7 x52]⟩) Zzj r ?_ fun J1=>?_
 ·rintro ⟨x44,x45,x46,x47,x48,x49,x50,x51,x52⟩ h;rw [Zzj] at h;(try dsimp only);refine Vg 1 ?_;obtain rfl:=Option.some.inj h;exact Z57 ok32
 ·refine MI h (fun h=>?_) fun h=>?_
  ·refine Vg 1 ?_;refine Z17 2 ?_;dsimp only[go_sem]
   refine Zo4 (fun ((x15,x16):(Int×Book))=>⟨(.ptr 0 0 :: .any :: .any :: .ptr 1 0 :: .ptr 2 0 :: .iv x15::an 155 []),[some ⟨81,[.iv x2,.iv x3,.osl 0,.iv x4,.osl 1,.iv x5,Sp3 x9,.osl 3,.osl 4,.osl 5,.nl,.nl,.iv x6]⟩,some ⟨38,Do.row x1⟩,some ⟨32,Book.row x16⟩],[Sq6 x7,Sq7 x8,none,Sq8 x10,Sq7 x11,Sq8 x12]⟩) (Z1k x1 x2 x3 x4 x5 x6 x7 x8 x9 x10 x11 x12) r ?_ fun J2=>?_
   ·rintro ⟨x15,x16⟩ h;rw [Z1k] at h;(try dsimp only);refine Vg 1 ?_
    refine Zo4 (fun ((x21,x22):(Bool×Int))=>⟨(.ptr 0 0 :: .any :: .any :: .ptr 1 0 :: .ptr 2 0::an 39 (.bv x21::an 116 [])),[some ⟨81,[.iv x2,.iv x3,.osl 0,.iv x4,.osl 1,.iv x5,Sp3 x9,.osl 3,.osl 4,.osl 5,.nl,.nl,.iv x22]⟩,some ⟨38,Do.row x1⟩,some ⟨32,Book.row x16⟩],[Sq6 x7,Sq7 x8,none,Sq8 x10,Sq7 x11,Sq8 x12]⟩) (Z0k x1 x2 x3 x4 x5 x7 x8 x9 x16) r ?_ fun J3=>?_
    ·rintro ⟨x21,x22⟩ h;rw [Z0k] at h;(try dsimp only);refine MI h (fun h=>?_) fun h=>?_
     ·refine Vg 9 ?_;refine Zz6 fun all H=>?_;dsimp only[go_sem];refine GP H 16 7 [16,7] [(50,[.ptr 0 0,.ptr 0 0,.ptr 0 0,.ptr 0 11,.nl,.ptr 0 0,.ptr 0 0,.ptr 0 0,.ptr 0 0,.ptr 0 0,.ptr 0 0,.iv x2,.ptr 1 1,.iv x1.ID,.ptr 1 4,Sp0 x1.Need])] ?_;dsimp only[go_sem];refine Z64 16 rfl ?_;have ⟨x23,ex23,h⟩:=Bs h;refine GC H.1 (k_set_Of x1.Need _ ex23) ?_;dsimp only[go_sem];refine GN H 1 5 ?_
      dsimp only[go_sem];refine An (GE H.1 18 ?_);dsimp only[go_sem];refine Z64 19 rfl ?_;have ⟨x24,ex24,h⟩:=Bs h;refine Zv4 Event.row ex24 H.1 rfl trivial rfl rfl ?_;refine Gn H 2 1 ?_;refine GE H.1 22 ?_;dsimp only[go_sem];refine GD (Z07 7 6 ?_);dsimp only[go_sem];refine Z37 65 8 ?_;dsimp only[go_sem];refine Z07 0 8 ?_;dsimp only[go_sem]
      refine Z37 3 1 ?_;dsimp only[go_sem];refine Z07 1 9 ?_;dsimp only[go_sem];exact Zx4 J1 h
     ·refine Vg 1 ?_;refine Z27 0 11 57 5 ?_;dsimp only[go_sem];refine Z37 65 8 ?_;dsimp only[go_sem];refine Z37 65 8 ?_;dsimp only[go_sem];refine Z07 0 8 ?_;dsimp only[go_sem];refine Z37 3 1 ?_;dsimp only[go_sem];refine Z07 1 9 ?_;dsimp only[go_sem];exact Zx4 J1 h
    ·refine Zz6 fun all H=>?_;dsimp only[go_sem];refine GP H 4 13 [4,13] [(28,[.ptr 0 0,.iv x15,.bv (decide (x15=0)),.iv x15])] ?_;dsimp only[go_sem];refine Z64 4 rfl ?_;have ⟨x17,ex17,h⟩:=Bs h;refine Z87 H.1 [0] [0,1,3,4,5] 3 6 (Zob (decide (x15=0)) x15 x2 x3 x4 x5 x9 x6 x7 x8 x10 x11 x12 _ ex17) ?_;dsimp only[go_sem];refine GN H 1 11 ?_
     dsimp only[go_sem];refine An (Z25 33 h rfl (fun _ h=>?_) fun _ h=>?_)
     ·dsimp only[go_sem];refine GP H 6 5 [12,5] [(34,[.ptr 0 0,.ptr 1 4,Sp0 x1.Need,.ptr 0 0,.ptr 0 0,.ptr 0 0])] ?_;dsimp only[go_sem];refine GE H.1 12 ?_;dsimp only[go_sem];refine Z64 13 rfl ?_;have ⟨x18,ex18,h⟩:=Bs h;refine Z77 H.1 [] [0,1,3,4,5] 3 6 (Zbe x2 x3 x4 x5 x9 x7 x8 x10 x11 x12 _ ex18) ?_;dsimp only[go_sem];refine Z64 14 rfl ?_
      have ⟨x19,ex19,h⟩:=Bs h;refine GK H.1 (LR.slice 6 rfl) (Zmh x1.Need x18 _ ex19) ?_;dsimp only[go_sem];refine Z64 15 rfl ?_;have ⟨x20,ex20,h⟩:=Bs h;refine Z87 H.1 [0] [0,1,3,4,5] 3 7 (Zob x19 181 x2 x3 x4 x5 x9 x17.2 x7 x8 x10 x11 x12 _ ex20) ?_;refine Gn H 1 0 ?_;refine GD ?_
      exact Zx4 J3 h
     ·dsimp only[go_sem];refine GP H 11 0 [17] [(34,[.un,.un,.un,.un,.un,.un,.un,.un,.un,.un,.ff])] ?_;dsimp only[go_sem];refine GD ?_;exact Zx4 J3 h
   ·refine Zz6 fun all H=>?_;dsimp only[go_sem];refine GP H 9 7 [9,7] [(16,[.ptr 0 0,.ptr 0 0,.ptr 0 0,.ptr 0 5,.agg [.iv x5,Sp3 x9],.ptr 1 1,.iv x1.ID,.ptr 1 4,Sp0 x1.Need])] ?_;dsimp only[go_sem];have ⟨x13,ex13,h⟩:=Bs h;refine Z74 9 13 rfl ?_ ?_
    ·refine GC H.1 (Zeg (Book.mk x5 x9) x1.ID x1.Need _ ex13) ?_;refine Gn H 3 3 ?_;refine GE H.1 13 ?_;dsimp only[go_sem];refine GE H.1 14 ?_;refine Gn H 1 0 ?_;refine GD ?_;exact Zx4 J2 h
    ·refine GV H.1 ?_;dsimp only[go_sem];refine Z64 9 rfl (GC H.1 (Zeg (Book.mk x5 x9) x1.ID x1.Need _ ex13) ?_);refine Gn H 3 2 ?_;refine GE H.1 14 ?_;refine Gn H 1 0 ?_;refine GD ?_;exact Zx4 J2 h
  ·refine Vg 5 ?_;refine MI h (fun h=>?_) fun h=>?_
   ·refine Vg 1 ?_;refine Z17 2 ?_;dsimp only[go_sem];refine Zz6 fun all H=>?_;dsimp only[go_sem];refine GP H 8 4 [8,4] [(74,[.ptr 0 0,.ptr 0 0,.ptr 0 0,.ptr 0 0,.ptr 0 5,.agg [.iv x5,Sp3 x9],.ptr 1 1,.iv x1.ID])] ?_;dsimp only[go_sem];refine Z64 8 rfl ?_;have ⟨x25,ex25,h⟩:=Bs h;refine GC H.1 (Z8i (Book.mk x5 x9) x1.ID _ ex25) ?_;dsimp only[go_sem];refine GN H 2 1 ?_
    dsimp only[go_sem];refine An (Z64 11 rfl ?_);have ⟨x26,ex26,h⟩:=Bs h;refine Z87 H.1 [0] [0,1,3,4,5] 2 6 (Zee x25.1 x25.2 x2 x3 x4 x5 x9 x6 x7 x8 x10 x11 x12 _ ex26) ?_;dsimp only[go_sem];refine GD (MI h (fun h=>?_) fun h=>?_)
    ·refine Vg 5 ?_;have ⟨x27,ex27,h⟩:=Bs h;refine Z67 [0] [0,1,3,4,5] 2 6 (Zvb 2 x1.ID x2 x3 x4 x26.2.1 x26.2.2.1 x26.2.2.2 x7 x8 x10 x11 x12 _ ex27) ?_;refine Vg 3 ?_;have ⟨x28,ex28,h⟩:=Bs h
     refine Z67 [0] [0,1,3,4,5,7] 2 8 (Ztj x2 x3 x4 x26.2.1 x26.2.2.1 x26.2.2.2 x7 x8 x10 x11 x12 x27 _ ex28) ?_;refine Vg 1 ?_;refine Z07 7 6 ?_;dsimp only[go_sem];exact Zx4 J1 h
    ·refine Vg 1 ?_;refine Z27 0 11 57 5 ?_;dsimp only[go_sem];refine Z37 65 8 ?_;dsimp only[go_sem];refine Z37 65 8 ?_;dsimp only[go_sem];refine Z07 0 8 ?_;dsimp only[go_sem];refine Z37 3 1 ?_;dsimp only[go_sem];refine Z07 1 9 ?_;dsimp only[go_sem];exact Zx4 J1 h
   ·refine Vg 5 ?_;refine MI h (fun h=>?_) fun h=>?_
    ·refine Vg 6 ?_;have ⟨x29,ex29,h⟩:=Bs h;refine Z67 [] [0,1,2,3,4,5] 2 6 (Zzb x2 x3 x4 x5 x7 x8 x9 x10 x11 x12 _ ex29) ?_;refine Vg 8 ?_;refine Z17 2 ?_;dsimp only[go_sem];refine Zz6 fun all H=>?_;dsimp only[go_sem]
     refine GP H 8 4 [8,4] [(102,[.ptr 0 0,.ptr 0 0,.ptr 0 0,.ptr 0 0,.ptr 0 5,.agg [.iv x5,Sp3 x9],.ptr 1 1,.iv x1.ID])] ?_;dsimp only[go_sem];refine Z64 8 rfl ?_;have ⟨x30,ex30,h⟩:=Bs h;refine GC H.1 (k_sess_Cancel (Book.mk x5 x9) x1.ID _ ex30) ?_;refine Gn H 2 1 ?_;refine Z64 11 rfl ?_;have ⟨x31,ex31,h⟩:=Bs h
     refine Z87 H.1 [0] [0,1,3,4,5] 3 6 (Zee x30.1 x30.2 x2 x3 x4 x5 x9 x6 x7 x8 x10 x11 x12 _ ex31) ?_;dsimp only[go_sem];refine GD (MI h (fun h=>?_) fun h=>?_)
     ·refine Vg 5 ?_;have ⟨x32,ex32,h⟩:=Bs h;refine Z67 [0] [0,1,3,4,5] 3 6 (Zvb 3 x1.ID x2 x3 x4 x31.2.1 x31.2.2.1 x31.2.2.2 x7 x8 x10 x11 x12 _ ex32) ?_;refine Vg 9 ?_
      refine Zo4 (fun (x33:Bool)=>⟨(.ptr 0 0::an 130 (.bv x33::an 29 [])),[some ⟨81,[.iv x2,.iv x3,.osl 0,.iv x4,.osl 1,.iv x31.2.1,Sp3 x31.2.2.1,.osl 3,.osl 4,.osl 5,.nl,.osl 7,.iv x31.2.2.2]⟩],[Sq6 x7,Sq7 x8,none,Sq8 x10,Sq7 x11,Sq8 x12,none,Z97 x32]⟩) (Z2k x2 x3 x4 x7 x8 x10 x11 x12 x31 x32) r ?_ fun J4=>?_
      ·intro x33 h;rw [Z2k] at h;(try dsimp only);refine MI h (fun h=>?_) fun h=>?_
       ·refine Vg 2 ?_;have ⟨x34,ex34,h⟩:=Bs h;refine Z67 [0] [0,1,3,4,5,7] 1 8 (Ztj x2 x3 x4 x31.2.1 x31.2.2.1 x31.2.2.2 x7 x8 x10 x11 x12 x32 _ ex34) ?_;refine Vg 1 ?_;refine Z07 7 6 ?_;dsimp only[go_sem];exact Zx4 J1 h
       ·refine Vg 1 ?_;refine Z07 7 6 ?_;dsimp only[go_sem];refine Z37 65 8 ?_;dsimp only[go_sem];refine Z07 0 8 ?_;dsimp only[go_sem];refine Z37 3 1 ?_;dsimp only[go_sem];refine Z07 1 9 ?_;dsimp only[go_sem];exact Zx4 J1 h
      ·refine MC 123 h (fun h=>?_) fun h=>?_
       ·refine Vg 9 ?_;exact Zx4 J4 h
       ·refine Vg 9 ?_;exact Zx4 J4 h
     ·refine Vg 1 ?_;refine Z27 0 11 57 5 ?_;dsimp only[go_sem];refine Z37 65 8 ?_;dsimp only[go_sem];refine Z37 65 8 ?_;dsimp only[go_sem];refine Z07 0 8 ?_;dsimp only[go_sem];refine Z37 3 1 ?_;dsimp only[go_sem];refine Z07 1 9 ?_;dsimp only[go_sem];exact Zx4 J1 h
    ·refine Vg 5 ?_;refine MI h (fun h=>?_) fun h=>?_
     ·refine Vg 1 ?_;refine Z17 2 ?_;dsimp only[go_sem]
      refine Zo4 (fun ((x37,x38,x39):(Int×Int×Book))=>⟨(.ptr 0 0::an 7 (.ptr 2 0 :: .iv x37 :: .iv x38::an 150 [])),[some ⟨81,[.iv x2,.iv x3,.osl 0,.iv x4,.osl 1,.iv x5,Sp3 x9,.osl 3,.osl 4,.osl 5,.nl,.nl,.iv x6]⟩,none,some ⟨32,Book.row x39⟩],[Sq6 x7,Sq7 x8,none,Sq8 x10,Sq7 x11,Sq8 x12]⟩) (Z4k x2 x3 x4 x5 x6 x7 x8 x9 x10 x11 x12) r ?_ fun J5=>?_
      ·rintro ⟨x37,x38,x39⟩ h;rw [Z4k] at h;(try dsimp only);refine Vg 5 ?_;have ⟨x40,ex40,h⟩:=Bs h;refine Z67 [0] [0,1,3,4,5] 3 6 (Zee x39 x38 x2 x3 x4 x5 x9 x6 x7 x8 x10 x11 x12 _ ex40) ?_;refine Vg 1 ?_
       refine Zo4 (fun (x41:Bool)=>⟨(.ptr 0 0::an 8 (.iv x37::an 145 (.bv x41::an 5 []))),[some ⟨81,[.iv x2,.iv x3,.osl 0,.iv x4,.osl 1,.iv x40.2.1,Sp3 x40.2.2.1,.osl 3,.osl 4,.osl 5,.nl,.nl,.iv x40.2.2.2]⟩],[Sq6 x7,Sq7 x8,none,Sq8 x10,Sq7 x11,Sq8 x12]⟩) (Z3k x2 x3 x4 x7 x8 x10 x11 x12 x37 x40) r ?_ fun J6=>?_
       ·intro x41 h;rw [Z3k] at h;(try dsimp only);refine MI h (fun h=>?_) fun h=>?_
        ·refine Vg 4 ?_;have ⟨x42,ex42,h⟩:=Bs h;refine Z67 [0] [0,1,3,4,5] 1 6 (Zvb 4 x37 x2 x3 x4 x40.2.1 x40.2.2.1 x40.2.2.2 x7 x8 x10 x11 x12 _ ex42) ?_;refine Vg 3 ?_;have ⟨x43,ex43,h⟩:=Bs h
         refine Z67 [0] [0,1,3,4,5,7] 1 8 (Ztj x2 x3 x4 x40.2.1 x40.2.2.1 x40.2.2.2 x7 x8 x10 x11 x12 x42 _ ex43) ?_;refine Vg 1 ?_;refine Z07 7 6 ?_;dsimp only[go_sem];exact Zx4 J1 h
        ·refine Vg 1 ?_;refine Z27 0 11 57 5 ?_;dsimp only[go_sem];refine Z37 65 8 ?_;dsimp only[go_sem];refine Z37 65 8 ?_;dsimp only[go_sem];refine Z07 0 8 ?_;dsimp only[go_sem];refine Z37 3 1 ?_;dsimp only[go_sem];refine Z07 1 9 ?_;dsimp only[go_sem];exact Zx4 J1 h
       ·refine MC 152 h (fun h=>?_) fun h=>?_
        ·refine Vg 4 ?_;exact Zx4 J6 h
        ·refine Vg 4 ?_;exact Zx4 J6 h
      ·refine Zz6 fun all H=>?_;dsimp only[go_sem];refine GP H 7 9 [7,9] [(137,[.ptr 0 0,.ptr 0 0,.ptr 0 0,.ptr 0 5,.agg [.iv x5,Sp3 x9],.ptr 1 3,.iv x1.Hold])] ?_;dsimp only[go_sem];have ⟨x35,ex35,h⟩:=Bs h;refine Z74 7 12 rfl ?_ ?_
       ·refine GC H.1 (Zpg (Book.mk x5 x9) x1.Hold _ ex35) ?_;dsimp only[go_sem];refine GP H 4 4 [12,4] [(136,[.tup [.agg (Book.row x35.1),.iv x35.2.1,.iv x35.2.2]]),(8,[.agg (Book.row x35.1),.iv x35.2.1,.iv x35.2.2])] ?_;dsimp only[go_sem];refine GE H.1 12 ?_;dsimp only[go_sem];refine GE H.1 13 ?_;dsimp only[go_sem];refine GN H 2 0 ?_
        dsimp only[go_sem];refine An (GD ?_);exact Zx4 J5 h
       ·refine GV H.1 ?_;dsimp only[go_sem];refine Z64 7 rfl (GC H.1 (Zpg (Book.mk x5 x9) x1.Hold _ ex35) ?_);dsimp only[go_sem];refine GP H 4 3 [13,3] [(136,[.tup [.agg (Book.row x35.1),.iv x35.2.1,.iv x35.2.2]]),(8,[.agg (Book.row x35.1),.iv x35.2.1,.iv x35.2.2])] ?_;dsimp only[go_sem];refine GE H.1 13 ?_;dsimp only[go_sem];refine GN H 2 0 ?_
        dsimp only[go_sem];refine An (GD ?_);exact Zx4 J5 h
     ·refine Vg 1 ?_;refine Z17 2 ?_;dsimp only[go_sem];refine Z27 0 11 57 5 ?_;dsimp only[go_sem];refine Z37 65 8 ?_;dsimp only[go_sem];refine Z37 65 8 ?_;dsimp only[go_sem];refine Z07 0 8 ?_;dsimp only[go_sem];refine Z37 3 1 ?_;dsimp only[go_sem];refine Z07 1 9 ?_;dsimp only[go_sem];exact Zx4 J1 h
def Z7k (x18:(Book×List Int×Int)) (x23:Int) (x24 x25:Int) (x26:List Side) (x27:List Int):List Event→Option (Int×Int×Int×Int×List Sess×List Event×List Side×List Int)
| x53=>
 some (x23,x24,x25,x18.1.Last,x18.1.Sess,x53,x26,x27)
def Z8k (x6:Int) (x10:List KE) (x11:List Int) (x12:List KE) (x18:(Book×List Int×Int)) (x23:Int) (x24 x25:Int) (x26:List Side) (x27:List Int):(Int×List Event)→Option ((Int×List Event) ⊕ (Int×Int×Int×Int×List Sess×List Event×List Side×List Int))
| (x32,x33)=>
 ifb (decide (x32<(ln Z05 x18.2.1))) (
 (at_ x18.2.1 x32).bind fun x34=>
 (Zec 5 x34 x23 x24 x25 x18.1.Last x18.1.Sess x6 x26 x27 x10 x11 x12 x33).bind fun x35=>
 some (.inl (wr (x32+1),x35))) (
 Option.map Sum.inr ((Z7k x18 x23 x24 x25 x26 x27) x33))
def Z9k (x6:Int) (x10:List KE) (x11:List Int) (x12:List KE) (x17:List Event) (x18:(Book×List Int×Int)):(Int×Int×Int×List Side×List Int)→Option (Int×Int×Int×Int×List Sess×List Event×List Side×List Int)
| (x23,x24,x25,x26,x27)=>
 loop (Z8k x6 x10 x11 x12 x18 x23 x24 x25 x26 x27) (0,x17)
def Zak (x2 x3:Int) (x4 x5 x6:Int) (x8:List Int) (x9:List Sess) (x10:List KE) (x11:List Int) (x12:List KE) (x16:List Side) (x17:List Event) (x18:(Book×List Int×Int)):Bool→Option (Int×Int×Int×Int×List Sess×List Event×List Side×List Int)
| x21=>
 ifb x21 (
 (Zsj x2 x3 x4 x5 x9 x6 x16 x8 x10 x11 x12 x17).bind fun x22=>
 (Z9k x6 x10 x11 x12 x17 x18) (x22.1,x22.2.1,x22.2.2.1,x22.2.2.2.1,x22.2.2.2.2)) (
 (Z9k x6 x10 x11 x12 x17 x18) (x2,x3,x4,x16,x8))
def Zbk (x1 x2:Int) (x3 x4:Int) (x5 x6:Int) (x8:List Int) (x9:List Sess) (x10:List KE) (x11:List Int) (x12:List KE):List Side→Option (Int×Int×Int×Int×List Sess×List Event×List Side×List Int)
| x16=>
 (Zac 7 x1 x2 x3 x4 x5 x6 x16 x8 x9 x10 x11 x12).bind fun x17=>
 (Zaj (Book.mk x5 x9) x1).bind fun x18=>
 (Zcc x2 x3 x4 x5 x9 x16 x8 x10 x11 x12).bind fun x19=>
 ifb x19.2 (
 ifb (decide (x4=1)) (
 (Z4b x18.2.1 x19.1.ID).bind fun x20=>
 (Zak x2 x3 x4 x5 x6 x8 x9 x10 x11 x12 x16 x17 x18) x20) (
 (Zak x2 x3 x4 x5 x6 x8 x9 x10 x11 x12 x16 x17 x18) false)) (
 (Zak x2 x3 x4 x5 x6 x8 x9 x10 x11 x12 x16 x17 x18) false)
def Zck (x1 x2:Int) (x3 x4:Int) (x5 x6:Int) (x7:List Side) (x8:List Int) (x9:List Sess) (x10:List KE) (x11:List Int) (x12:List KE):Option (Int×Int×Int×Int×List Sess×List Event×List Side×List Int):=
 (Z8c (node_node.mk (Node.mk (DK.mk (DI.mk x2 x3 x7) x4 x8) (Book.mk x5 x9) x10 x11 x12) (([]:List Mail)) (([]:List Event)) x6) x1).bind fun x13=>
 (at_ x7 x13).bind fun x15=>
 (Zbk x1 x2 x3 x4 x5 x6 x8 x9 x10 x11 x12) (x7.set (Int.toNat (x13)) (Side.mk x15.Peer x15.Epoch 2 x15.Fork x15.DY x15.Token x15.BO x15.Ask))
theorem Zdk (x1 x2:Int) (x3 x4:Int) (x5 x6:Int) (x7:List Side) (x8:List Int) (x9:List Sess) (x10:List KE) (x11:List Int) (x12:List KE) (r:(Int×Int×Int×Int×List Sess×List Event×List Side×List Int)) (h:Zck x1 x2 x3 x4 x5 x6 x7 x8 x9 x10 x11 x12=some r):Zq5 Tryz.prog 36 [.ptr 0 0,.iv x1] [some ⟨81,[.iv x2,.iv x3,.osl 0,.iv x4,.osl 1,.iv x5,.osl 2,.osl 3,.osl 4,.osl 5,.nl,.nl,.iv x6]⟩] [Sq6 x7,Sq7 x8,Sq9 x9,Sq8 x10,Sq7 x11,Sq8 x12] (.tup []) [some ⟨81,[.iv r.1,.iv r.2.1,.osl 8,.iv r.2.2.1,.osl 9,.iv r.2.2.2.1,Sp3 r.2.2.2.2.1,.osl 3,.osl 4,.osl 5,.nl,.osl 7,.iv x6]⟩] [none,none,none,Sq8 x10,Sq7 x11,Sq8 x12,none,Z97 r.2.2.2.2.2.1,Sq6 r.2.2.2.2.2.2.1,Sq7 r.2.2.2.2.2.2.2]:=by
 refine FT ok36 fun w0 M0=>?_
 rw [Zck] at h
 dsimp only[lun,List.cons_append,List.nil_append]
 refine Vg 1 ?_;refine Zo4 (fun (x16:List Side)=>⟨(.ptr 0 0 :: .iv x1::an 76 []),[some ⟨81,[.iv x2,.iv x3,.osl 0,.iv x4,.osl 1,.iv x5,.osl 2,.osl 3,.osl 4,.osl 5,.nl,.nl,.iv x6]⟩],[Sq6 x16,Sq7 x8,Sq9 x9,Sq8 x10,Sq7 x11,Sq8 x12]⟩) (Zbk x1 x2 x3 x4 x5 x6 x8 x9 x10 x11 x12) r ?_ fun J1=>?_
 ·intro x16 h;rw [Zbk] at h;(try dsimp only);refine Vg 4 ?_;have ⟨x17,ex17,h⟩:=Bs h;refine Zs5 [true] [true,true,true,true,true,true] trivial (Zbc 7 x1 x2 x3 x4 x5 x6 x16 x8 x9 x10 x11 x12 _ ex17) (h:=?_);refine Vg 9 ?_;refine Z17 2 ?_;dsimp only[go_sem];have ⟨x18,ex18,h⟩:=Bs h;refine VC (k_sess_Gone (Book.mk x5 x9) x1 _ ex18) (Vg 16 ?_)
  have ⟨x19,ex19,h⟩:=Bs h;refine Z67 [] [0,1,3,4,5] 2 8 (Zdc x2 x3 x4 x5 x9 x16 x8 x10 x11 x12 _ ex19) ?_;refine Vg 11 ?_
  refine Zo4 (fun (x21:Bool)=>⟨(.ptr 0 0::an 3 (.ptr 1 0 :: Sp0 x18.2.1::an 54 (.bv x21::an 17 []))),[some ⟨81,[.iv x2,.iv x3,.osl 0,.iv x4,.osl 1,.iv x5,Sp3 x9,.osl 3,.osl 4,.osl 5,.nl,.osl 7,.iv x6]⟩,some ⟨32,Book.row x18.1⟩],[Sq6 x16,Sq7 x8,none,Sq8 x10,Sq7 x11,Sq8 x12,none,Z97 x17]⟩) (Zak x2 x3 x4 x5 x6 x8 x9 x10 x11 x12 x16 x17 x18) r ?_ fun J2=>?_
  ·intro x21 h;rw [Zak] at h;(try dsimp only)
   refine Zo4 (fun ((x23,x24,x25,x26,x27):(Int×Int×Int×List Side×List Int))=>⟨(.ptr 0 0::an 3 (.ptr 1 0 :: Sp0 x18.2.1::an 72 [])),[some ⟨81,[.iv x23,.iv x24,.osl 8,.iv x25,.osl 9,.iv x5,Sp3 x9,.osl 3,.osl 4,.osl 5,.nl,.osl 7,.iv x6]⟩,some ⟨32,Book.row x18.1⟩],[none,none,none,Sq8 x10,Sq7 x11,Sq8 x12,none,Z97 x17,Sq6 x26,Sq7 x27]⟩) (Z9k x6 x10 x11 x12 x17 x18) r ?_ fun J3=>?_
   ·rintro ⟨x23,x24,x25,x26,x27⟩ h;rw [Z9k] at h;(try dsimp only);refine Vg 15 ?_
    refine Zo4 (fun (x53:List Event)=>⟨an 78 [],[some ⟨81,[.iv x23,.iv x24,.osl 8,.iv x25,.osl 9,.iv x18.1.Last,Sp3 x18.1.Sess,.osl 3,.osl 4,.osl 5,.nl,.osl 7,.iv x6]⟩],[none,none,none,Sq8 x10,Sq7 x11,Sq8 x12,none,Z97 x53,Sq6 x26,Sq7 x27]⟩) (Z7k x18 x23 x24 x25 x26 x27) r ?_ fun J4=>?_
    ·intro x53 h;rw [Z7k] at h;(try dsimp only);obtain rfl:=Option.some.inj h;exact Z57 ok36
    ·refine Vg 1 ?_
     refine Zp4 h (fun ((x32,x33):(Int×List Event))=>⟨(.ptr 0 0::an 67 (Sp0 x18.2.1 :: .iv (ln Z05 x18.2.1) :: .iv x32::an 7 [])),[some ⟨81,[.iv x23,.iv x24,.osl 8,.iv x25,.osl 9,.iv x18.1.Last,Sp3 x18.1.Sess,.osl 3,.osl 4,.osl 5,.nl,.osl 7,.iv x6]⟩],[none,none,none,Sq8 x10,Sq7 x11,Sq8 x12,none,Z97 x33,Sq6 x26,Sq7 x27]⟩) (by simp [go_sem]) (by rintro ⟨x32,x33⟩;first | rfl | simp [go_sem]) ?_
     rintro n1 ⟨x32,x33⟩ y1 h hin1 hout1;rw [Z8k] at h;(try dsimp only);refine Vg 5 ?_;refine MI h (fun h=>?_) fun h=>?_
     ·refine Vg 5 ?_;have ⟨x34,ex34,h⟩:=Bs h;refine Zs4 Z05 ex34 trivial rfl rfl rfl (Vg 6 ?_);have ⟨x35,ex35,h⟩:=Bs h;refine Z67 [0] [8,9,3,4,5,7] 1 10 (Zfc 5 x34 x23 x24 x25 x18.1.Last x18.1.Sess x6 x26 x27 x10 x11 x12 x33 _ ex35) ?_;refine Vg 6 ?_;refine Z07 11 7 ?_;dsimp only[go_sem]
      exact Zw4 h hin1
     ·refine Vg 1 ?_;exact Zx4 J4 (Zn4 h hout1)
   ·refine MI h (fun h=>?_) fun h=>?_
    ·refine Vg 2 ?_;have ⟨x22,ex22,h⟩:=Bs h;refine Z67 [0] [0,1,3,4,5,7] 2 8 (Ztj x2 x3 x4 x5 x9 x6 x16 x8 x10 x11 x12 x17 _ ex22) ?_;refine Vg 1 ?_;exact Zx4 J3 h
    ·refine Vg 1 ?_;refine Z37 65 8 ?_;dsimp only[go_sem];refine Z07 0 8 ?_;dsimp only[go_sem];refine Z37 3 1 ?_;dsimp only[go_sem];refine Z07 1 9 ?_;dsimp only[go_sem];exact Zx4 J3 h
  ·refine MC 46 h (fun h=>?_) fun h=>?_
   ·refine Vg 9 ?_;refine MC 55 h (fun h=>?_) fun h=>?_
    ·refine Vg 3 ?_;have ⟨x20,ex20,h⟩:=Bs h;refine VC (Z5b x18.2.1 x19.1.ID _ ex20) (Vg 2 ?_);exact Zx4 J2 h
    ·refine Vg 6 ?_;exact Zx4 J2 h
   ·refine Vg 15 ?_;exact Zx4 J2 h
 ·refine Zz6 fun all H=>?_;dsimp only[go_sem];refine GP H 8 5 [6,1,2,4] [(11,[.ptr 0 0,.ptr 0 0,.ptr 0 0,.ptr 0 0,.ptr 0 0,.ptr 0 2]),(1,[.ptr 0 0,.iv x1])] ?_;dsimp only[go_sem];have ⟨x13,ex13,h⟩:=Bs h;refine Z74 6 9 rfl ?_ ?_
  ·refine GV H.1 ?_;dsimp only[go_sem];refine Z64 9 rfl (GK H.1 (((((((LR.slice 0 rfl).slice 1 rfl).slice 2 rfl).slice 3 rfl).slice 4 rfl).slice 5 rfl).block 0 rfl rfl) (Z9c (node_node.mk (Node.mk (DK.mk (DI.mk x2 x3 x7) x4 x8) (Book.mk x5 x9) x10 x11 x12) (([]:List Mail)) (([]:List Event)) x6) x1 _ ex13) ?_);dsimp only[go_sem];have ⟨x15,ex15,h⟩:=Bs h;refine Z64 10 rfl (GI H.1 Side.row ex15 ?_);dsimp only[go_sem]
   refine Gn H 1 1 ?_;refine Z64 12 rfl (Zv5 H.1 [.iv 2] Side.row (y':=(Side.mk x15.Peer x15.Epoch 2 x15.Fork x15.DY x15.Token x15.BO x15.Ask)) ex15 rfl trivial rfl rfl rfl (by first | exact Zi4 _ | simp [go_sem]) rfl rfl rfl rfl ?_);dsimp only[go_sem];refine GD ?_;exact Zx4 J1 h
  ·refine GK H.1 (((((((LR.slice 0 rfl).slice 1 rfl).slice 2 rfl).slice 3 rfl).slice 4 rfl).slice 5 rfl).block 0 rfl rfl) (Z9c (node_node.mk (Node.mk (DK.mk (DI.mk x2 x3 x7) x4 x8) (Book.mk x5 x9) x10 x11 x12) (([]:List Mail)) (([]:List Event)) x6) x1 _ ex13) ?_;dsimp only[go_sem];refine GE H.1 6 ?_;dsimp only[go_sem];have ⟨x15,ex15,h⟩:=Bs h;refine Z64 10 rfl (GI H.1 Side.row ex15 ?_);dsimp only[go_sem]
   refine Gn H 1 1 ?_;refine Z64 12 rfl (Zv5 H.1 [.iv 2] Side.row (y':=(Side.mk x15.Peer x15.Epoch 2 x15.Fork x15.DY x15.Token x15.BO x15.Ask)) ex15 rfl trivial rfl rfl rfl (by first | exact Zi4 _ | simp [go_sem]) rfl rfl rfl rfl ?_);dsimp only[go_sem];refine GD ?_;exact Zx4 J1 h
@[go_sem] def e85:EC:=(by have h:=hF Tryz.f85;(conv at h=>rhs;reduce);dsimp only[go_sem] at h;exact ⟨_,h⟩:DP Tryz.f85).1
theorem ok85:FnOK Tryz.prog 85 Tryz.f85 e85 [] 1 148:=okA
def Zek (x7:(List Side×List Int)) (x23:(Int×Int×Int×List Side×List Mail)):Unit→Option ((Int×Int×Int×List Side×List Mail) ⊕ (Int×Int×Int×Int×List Side×List Int×List Mail))
| ()=>
 Option.map Sum.inr (some (x23.1,x23.2.1,x23.2.2.1,0,x23.2.2.2.1,x7.2,x23.2.2.2.2))
def Zfk (x7:(List Side×List Int)) (x23:(Int×Int×Int×List Side×List Mail)):Bool→Option ((Int×Int×Int×List Side×List Mail) ⊕ (Int×Int×Int×Int×List Side×List Int×List Mail))
| x25=>
 ifb x25 (
 (Zek x7 x23) ()) (
 some (.inl (x23.1,x23.2.1,x23.2.2.1,x23.2.2.2.1,x23.2.2.2.2)))
def Zgk (x7:(List Side×List Int)):(Int×Int×Int×List Side×List Mail)→Option ((Int×Int×Int×List Side×List Mail) ⊕ (Int×Int×Int×Int×List Side×List Int×List Mail))
| (x17,x18,x19,x20,x21)=>
 (Zge x17 x18 x19 x20 x7.2).bind fun x22=>
 (Zej x17 x18 x19 x20 x7.2 x21).bind fun x23=>
 (Z1e (DK.mk (DI.mk x17 x18 x22.1) x19 x22.2) (DK.mk (DI.mk x23.1 x23.2.1 x23.2.2.2.1) x23.2.2.1 x7.2)).bind fun x24=>
 (Zfk x7 x23) x24
def Zhk (x1 x2 x3:Int) (x4:List Side) (x5:List Int):Option (Int×Int×Int×Int×List Side×List Int×List Mail):=
 (Zvh (DK.mk (DI.mk x1 x2 x4) x3 x5)).bind fun x6=>
 ifb (!decide (x6=0)) (
 some (0,0,0,x6,([]:List Side),([]:List Int),([]:List Mail))) (
 (Zge x1 x2 x3 x4 x5).bind fun x7=>
 loop (Zgk x7) (x1,x2,x3,x7.1,([]:List Mail)))
theorem Zik (x1 x2 x3:Int) (x4:List Side) (x5:List Int) (r:(Int×Int×Int×Int×List Side×List Int×List Mail)) (h:Zhk x1 x2 x3 x4 x5=some r):Zq5 Tryz.prog 130 [.agg [.iv x1,.iv x2,.osl 0,.iv x3,.osl 1]] [] [Sq6 x4,Sq7 x5] (.tup [.agg [.iv r.1,.iv r.2.1,.osl 2,.iv r.2.2.1,.osl 3],.osl 4,.iv r.2.2.2.1]) [] [Sq6 x4,Sq7 x5,Sq6 r.2.2.2.2.1,Sq7 r.2.2.2.2.2.1,Za7 r.2.2.2.2.2.2]:=by
 refine FT ok130 fun w0 M0=>?_
 rw [Zhk] at h
 dsimp only[lun,List.cons_append,List.nil_append]
 refine Vg 11 ?_;have ⟨x6,ex6,h⟩:=Bs h;refine VL ((LR.slice 0 rfl).slice 1 rfl) (Zwh (DK.mk (DI.mk x1 x2 x4) x3 x5) _ ex6) (Vg 7 ?_);refine MI h (fun h=>?_) fun h=>?_
 ·refine Vg 8 ?_;refine Z27 1 2 65 8 ?_;dsimp only[go_sem];refine Z27 1 4 3 1 ?_;dsimp only[go_sem];refine Zf4 3 74 5 rfl rfl ?_;dsimp only[go_sem];obtain rfl:=Option.some.inj h;exact Z47 ok130
 ·refine Vg 4 ?_;have ⟨x7,ex7,h⟩:=Bs h;refine Z67 [] [0,1] 2 2 (Zhe x1 x2 x3 x4 x5 _ ex7) ?_;refine Vg 5 ?_;refine Z27 2 5 74 5 ?_;dsimp only[go_sem]
  refine Zp4 h (fun ((x17,x18,x19,x20,x21):(Int×Int×Int×List Side×List Mail))=>⟨(.any :: .any :: .ptr 1 0::an 3 (.ptr 2 0::an 32 [])),[none,some ⟨29,[.iv 0,.iv 0,.nl,.iv 0,.nl]⟩,some ⟨178,[.iv x17,.iv x18,.osl 2,.iv x19,.osl 3,.osl 4]⟩],[Sq6 x4,Sq7 x5,Sq6 x20,Sq7 x7.2,Za7 x21]⟩) (by simp [go_sem]) (by rintro ⟨x17,x18,x19,x20,x21⟩;first | rfl | simp [go_sem]) ?_
  rintro n1 ⟨x17,x18,x19,x20,x21⟩ y1 h hin1 hout1;rw [Zgk] at h;(try dsimp only);refine Vg 7 ?_;have ⟨x22,ex22,h⟩:=Bs h;refine Z67 [] [2,3] 3 5 (Zhe x17 x18 x19 x20 x7.2 _ ex22) ?_;refine Vg 6 ?_;have ⟨x23,ex23,h⟩:=Bs h
  refine Z67 [2] [2,3,4] 4 7 (Zfj x17 x18 x19 x20 x7.2 x21 _ ex23) ?_;refine Vg 2 ?_
  refine Zo4 (fun (x25:Bool)=>⟨(.any :: .any :: .ptr 1 0::an 3 (.ptr 2 0::an 23 (.bv x25::an 8 []))),[none,some ⟨29,[.iv 0,.iv 0,.nl,.iv 0,.nl]⟩,some ⟨178,[.iv x23.1,.iv x23.2.1,.osl 7,.iv x23.2.2.1,.osl 3,.osl 11]⟩],[Sq6 x4,Sq7 x5,none,Sq7 x7.2,none,none,none,Sq6 x23.2.2.2.1,none,none,none,Za7 x23.2.2.2.2]⟩) (Zfk x7 x23) y1 ?_ fun J1=>?_
  ·intro x25 h;rw [Zfk] at h;(try dsimp only);refine MI h (fun h=>?_) fun h=>?_
   ·refine Vg 1 ?_;refine Zo4 (fun (_:Unit)=>⟨(.any :: .any :: .ptr 1 0 :: .osl 11 :: .iv 0::an 34 []),[none,some ⟨29,[.iv x23.1,.iv x23.2.1,.osl 7,.iv x23.2.2.1,.osl 3]⟩],[Sq6 x4,Sq7 x5,none,Sq7 x7.2,none,none,none,Sq6 x23.2.2.2.1,none,none,none,Za7 x23.2.2.2.2]⟩) (Zek x7 x23) y1 ?_ fun J2=>?_
    ·rintro ⟨⟩ h;rw [Zek] at h;(try dsimp only);refine Z07 7 2 (Z07 11 4 ?_);dsimp only[go_sem];obtain rfl:=Option.some.inj (Zn4 h hout1);exact Z47 ok130
    ·refine Zz6 fun all H=>?_;dsimp only[go_sem];refine GP H 6 5 [3,1,3,4] [(31,[.ptr 2 0,.ptr 2 0,.ptr 2 0]),(1,[.ptr 2 0,.ptr 2 0,.ptr 2 5])] ?_;dsimp only[go_sem];refine Z74 3 7 rfl ?_ ?_
     ·refine GV H.1 ?_;dsimp only[go_sem];refine Z74 7 8 rfl ?_ ?_
      ·refine GV H.1 ?_;dsimp only[go_sem];refine GE H.1 8 ?_;refine Gn H 2 0 ?_;refine GD ?_;exact Zx4 J2 h
      ·refine GV H.1 ?_;dsimp only[go_sem];refine GE H.1 7 ?_;refine Gn H 2 0 ?_;refine GD ?_;exact Zx4 J2 h
     ·refine GV H.1 ?_;dsimp only[go_sem];refine GE H.1 3 ?_;dsimp only[go_sem];refine GE H.1 8 ?_;refine Gn H 2 0 ?_;refine GD ?_;exact Zx4 J2 h
   ·refine Vg 2 ?_;refine Z07 7 2 (Z07 11 4 ?_);dsimp only[go_sem];exact Zw4 h hin1
  ·refine Zz6 fun all H=>?_;refine Gn H 3 3 ?_;refine Z74 0 4 rfl ?_ ?_
   ·refine GV H.1 ?_;dsimp only[go_sem];refine GE H.1 4 ?_;dsimp only[go_sem];refine Z64 5 rfl ?_;have ⟨x24,ex24,h⟩:=Bs h;refine GK H.1 ((((LR.slice 3 rfl).slice 5 rfl).slice 6 rfl).slice 7 rfl) (Z2e (DK.mk (DI.mk x17 x18 x22.1) x19 x22.2) (DK.mk (DI.mk x23.1 x23.2.1 x23.2.2.2.1) x23.2.2.1 x7.2) _ ex24) ?_;dsimp only[go_sem];refine GD ?_;exact Zx4 J1 h
   ·refine GV H.1 ?_;dsimp only[go_sem];refine GE H.1 0 ?_;dsimp only[go_sem];refine Z64 5 rfl ?_;have ⟨x24,ex24,h⟩:=Bs h;refine GK H.1 ((((LR.slice 3 rfl).slice 5 rfl).slice 6 rfl).slice 7 rfl) (Z2e (DK.mk (DI.mk x17 x18 x22.1) x19 x22.2) (DK.mk (DI.mk x23.1 x23.2.1 x23.2.2.2.1) x23.2.2.1 x7.2) _ ex24) ?_;dsimp only[go_sem];refine GD ?_;exact Zx4 J1 h
@[go_sem] def e14:EC:=(by have h:=hF Tryz.f14;(conv at h=>rhs;reduce);dsimp only[go_sem] at h;exact ⟨_,h⟩:DP Tryz.f14).1
theorem ok14:FnOK Tryz.prog 14 Tryz.f14 e14 [.t 2] 1 22:=okA
def Zjk:Bool→Option Int
| x6=>
 ifb x6 (
 some 180) (
 some 0)
def Zkk (x1:Node):Option Int:=
 (Zvh x1.DK).bind fun x2=>
 ifb (!decide (x2=0)) (
 Zjk true) (
 (Zqf x1.Book).bind fun x3=>
 ifb (!decide (x3=0)) (
 Zjk true) (
 (Zvj x1).bind fun x4=>
 ifb (!x4) (
 Zjk true) (
 (Zqj x1).bind fun x5=>
 Zjk (!x5))))
theorem Zlk (x1:Node) (r:Int) (h:Zkk x1=some r):Z03 Tryz.prog 14 [.agg (Node.row x1)] (.iv r):=by
 refine FP ok14 fun w0 H0=>?_
 rw [Zkk] at h
 refine Vg 10 ?_;have ⟨x2,ex2,h⟩:=Bs h;refine VC (Zwh x1.DK _ ex2) (Vg 2 ?_);refine Zo4 (fun (x6:Bool)=>⟨an 22 [.bv x6],[],[]⟩) Zjk r ?_ fun J1=>?_
 ·intro x6 h;rw [Zjk] at h;(try dsimp only);refine MI h (fun h=>?_) fun h=>?_
  ·refine Vg 4 ?_;exact MD ok14 h
  ·refine Vg 5 ?_;exact MD ok14 h
 ·refine MC 7 h (fun h=>?_) fun h=>?_
  ·refine Vg 16 ?_;exact Zx4 J1 h
  ·refine Vg 2 ?_;have ⟨x3,ex3,h⟩:=Bs h;refine VC (Zrf x1.Book _ ex3) (Vg 3 ?_);refine MC 13 h (fun h=>?_) fun h=>?_
   ·refine Vg 10 ?_;exact Zx4 J1 h
   ·refine Vg 1 ?_;have ⟨x4,ex4,h⟩:=Bs h;refine VC (k_node_edges x1 _ ex4) (Vg 3 ?_);refine MC 18 h (fun h=>?_) fun h=>?_
    ·refine Vg 5 ?_;exact Zx4 J1 h
    ·refine Vg 1 ?_;have ⟨x5,ex5,h⟩:=Bs h;refine VC (k_node_thirst x1 _ ex5) (Vg 3 ?_);exact Zx4 J1 h
def Zmk (x22:(Bool×Int)):(Int×Int×Int×List Side×List Int)→Option (Int×Int×Int×Int×List Side×List Int)
| (x23,x24,x25,x26,x27)=>
 some (x23,x24,x25,x22.2,x26,x27)
def Znk (x3 x4:Int) (x5 x6 x7:Int) (x8:List Side) (x9:List Int) (x10:List Sess) (x11:List KE) (x12:List Int) (x13:List KE):(Int×Int×Int×Int×List Side×List Int)→Option (Int×Int×Int×Int×List Side×List Int)
| (x16,x17,x18,x19,x20,x21)=>
 (Z2c (decide (x16=0)) 187 x3 x4 x5 x6 x7 x8 x9 x10 x11 x12 x13).bind fun x22=>
 ifb x22.1 (
 (Zmk x22) (x17,x18,x19,x20,x21)) (
 (Zmk x22) (x3,x4,x5,x8,x9))
def Zok (x1:Int) (x2:Msg) (x3 x4:Int) (x5 x6 x7:Int) (x8:List Side) (x9:List Int) (x10:List Sess) (x11:List KE) (x12:List Int) (x13:List KE):Option (Int×Int×Int×Int×List Side×List Int):=
 (Zxj x3 x4 x5 x1 x2 x8 x9).bind fun x14=>
 (Znk x3 x4 x5 x6 x7 x8 x9 x10 x11 x12 x13) (x14.2.2.2.1,x14.1,x14.2.1,x14.2.2.1,x14.2.2.2.2.1,x14.2.2.2.2.2)
theorem Zpk (x1:Int) (x2:Msg) (x3 x4:Int) (x5 x6 x7:Int) (x8:List Side) (x9:List Int) (x10:List Sess) (x11:List KE) (x12:List Int) (x13:List KE) (r:(Int×Int×Int×Int×List Side×List Int)) (h:Zok x1 x2 x3 x4 x5 x6 x7 x8 x9 x10 x11 x12 x13=some r):Zq5 Tryz.prog 41 [.ptr 0 0,.iv x1,.agg (Msg.row x2)] [some ⟨81,[.iv x3,.iv x4,.osl 0,.iv x5,.osl 1,.iv x6,.osl 2,.osl 3,.osl 4,.osl 5,.nl,.nl,.iv x7]⟩] [Sq6 x8,Sq7 x9,Sq9 x10,Sq8 x11,Sq7 x12,Sq8 x13] (.tup []) [some ⟨81,[.iv r.1,.iv r.2.1,.osl 6,.iv r.2.2.1,.osl 7,.iv x6,.osl 2,.osl 3,.osl 4,.osl 5,.nl,.nl,.iv r.2.2.2.1]⟩] [none,none,Sq9 x10,Sq8 x11,Sq7 x12,Sq8 x13,Sq6 r.2.2.2.2.1,Sq7 r.2.2.2.2.2]:=by
 refine FT ok41 fun w0 M0=>?_
 rw [Zok] at h
 dsimp only[lun,List.cons_append,List.nil_append]
 refine Vg 5 ?_
 refine Zo4 (fun ((x16,x17,x18,x19,x20,x21):(Int×Int×Int×Int×List Side×List Int))=>⟨(.ptr 0 0::an 5 (.ptr 2 0 :: .iv x16::an 20 [])),[some ⟨81,[.iv x3,.iv x4,.osl 0,.iv x5,.osl 1,.iv x6,.osl 2,.osl 3,.osl 4,.osl 5,.nl,.nl,.iv x7]⟩,none,some ⟨29,[.iv x17,.iv x18,.osl 6,.iv x19,.osl 7]⟩],[Sq6 x8,Sq7 x9,Sq9 x10,Sq8 x11,Sq7 x12,Sq8 x13,Sq6 x20,Sq7 x21]⟩) (Znk x3 x4 x5 x6 x7 x8 x9 x10 x11 x12 x13) r ?_ fun J1=>?_
 ·rintro ⟨x16,x17,x18,x19,x20,x21⟩ h;rw [Znk] at h;(try dsimp only);refine Vg 5 ?_;have ⟨x22,ex22,h⟩:=Bs h;refine Z67 [0] [0,1,2,3,4,5] 3 8 (Z3c (decide (x16=0)) 187 x3 x4 x5 x6 x7 x8 x9 x10 x11 x12 x13 _ ex22) ?_;refine Vg 1 ?_
  refine Zo4 (fun ((x23,x24,x25,x26,x27):(Int×Int×Int×List Side×List Int))=>⟨an 28 [],[some ⟨81,[.iv x23,.iv x24,.osl 6,.iv x25,.osl 7,.iv x6,.osl 2,.osl 3,.osl 4,.osl 5,.nl,.nl,.iv x22.2]⟩],[none,none,Sq9 x10,Sq8 x11,Sq7 x12,Sq8 x13,Sq6 x26,Sq7 x27]⟩) (Zmk x22) r ?_ fun J2=>?_
  ·rintro ⟨x23,x24,x25,x26,x27⟩ h;rw [Zmk] at h;(try dsimp only);obtain rfl:=Option.some.inj h;exact Z57 ok41
  ·refine MI h (fun h=>?_) fun h=>?_
   ·refine Vg 8 ?_;exact Zx4 J2 h
   ·refine Vg 1 ?_;refine Z07 0 6 (Z07 1 7 ?_);dsimp only[go_sem];exact Zx4 J2 h
 ·refine Zz6 fun all H=>?_;dsimp only[go_sem];refine GP H 6 8 [4,1,2,7] [(9,[.ptr 0 0,.ptr 0 0,.ptr 0 0,.ptr 0 0]),(1,[.iv x1,.agg (Msg.row x2)])] ?_;dsimp only[go_sem];refine Z74 4 11 rfl ?_ ?_
  ·refine GV H.1 ?_;dsimp only[go_sem];have ⟨x14,ex14,h⟩:=Bs h;refine Z74 7 11 rfl ?_ ?_
   ·refine Z77 H.1 [] [0,1] 2 6 (Zyj x3 x4 x5 x1 x2 x8 x9 _ ex14) ?_;refine Gn H 3 3 ?_;refine GE H.1 11 ?_;dsimp only[go_sem];refine GE H.1 12 ?_;refine Gn H 1 0 ?_;refine GD ?_
    exact Zx4 J1 h
   ·refine GV H.1 ?_;dsimp only[go_sem];refine Z64 7 rfl (Z77 H.1 [] [0,1] 3 6 (Zyj x3 x4 x5 x1 x2 x8 x9 _ ex14) ?_);refine Gn H 3 2 ?_;refine GE H.1 12 ?_;refine Gn H 1 0 ?_;refine GD ?_
    exact Zx4 J1 h
  ·refine GV H.1 ?_;dsimp only[go_sem];refine GE H.1 4 ?_;dsimp only[go_sem];refine Z64 7 rfl ?_;have ⟨x14,ex14,h⟩:=Bs h;refine Z77 H.1 [] [0,1] 3 6 (Zyj x3 x4 x5 x1 x2 x8 x9 _ ex14) ?_;refine Gn H 3 2 ?_;refine GE H.1 12 ?_;dsimp only[go_sem];refine GN H 1 0 ?_;dsimp only[go_sem]
   refine An (GD ?_);exact Zx4 J1 h
@[go_sem] def e37:EC:=(by have h:=hF Tryz.f37;(conv at h=>rhs;reduce);dsimp only[go_sem] at h;exact ⟨_,h⟩:DP Tryz.f37).1
theorem Zqk:FnOK Tryz.prog 37 Tryz.f37 e37 [.c 2 (some 10),.t 3,.t 4,.t 5] 1 41:=okA
end
end NX
end Go.Proofs.YtdjkbodnjhgbcaaGreat
