/-
  The function (*narthex/node.node).settled, lent own memory. Written by a program of ours (lb.py). No statement of the seat is proved here.
-/
import Derived.Test.YtdjkbodnjhgbcaaGreatB28
set_option maxRecDepth 100000
set_option maxHeartbeats 4000000
namespace Go.Proofs.YtdjkbodnjhgbcaaGreat
namespace NX
open Go
noncomputable section
def Z7l (x7:Int):(Int×Int×Int×Int×List Sess×List Int×List Mail×List KE×List Event×List KE×List Int×List Side)→Option ((Int×Int×Int×Int×List Sess×List Int×List Mail×List KE×List Event×List KE×List Int×List Side) ⊕ (Int×Int×Int×Int×List Sess×List Int×Int×List Side×List Int×List KE×List KE×List Mail×List Event))
| (x28,x29,x30,x31,x32,x33,x34,x35,x36,x37,x38,x39)=>
 (Zqe x28 x29 x30 x31 x32 x33 x39 x38 x35 x37).bind fun x40=>
 (Z2l x28 x29 x30 x31 x32 x33 x7 x39 x38 x35 x37 x34 x36).bind fun x41=>
 (Zzf (Node.mk (DK.mk (DI.mk x28 x29 x40.1) x30 x40.2.1) (Book.mk x31 x40.2.2.2.2.2) x40.2.2.1 x40.2.2.2.1 x40.2.2.2.2.1) (Node.mk (DK.mk (DI.mk x41.1 x41.2.1 x41.2.2.2.2.2.2.2.2.2.2.2) x41.2.2.1 x41.2.2.2.2.2.2.2.2.2.1) (Book.mk x41.2.2.2.1 x41.2.2.2.2.1) x41.2.2.2.2.2.2.1 x41.2.2.2.2.2.1 x41.2.2.2.2.2.2.2.2.1)).bind fun x42=>
 ifb x42 (
 Option.map Sum.inr (some (x41.1,x41.2.1,x41.2.2.1,x41.2.2.2.1,x41.2.2.2.2.1,x41.2.2.2.2.2.1,0,x41.2.2.2.2.2.2.2.2.2.2.2,x41.2.2.2.2.2.2.2.2.2.1,x41.2.2.2.2.2.2.1,x41.2.2.2.2.2.2.2.2.1,x41.2.2.2.2.2.2.2.2.2.2.1,x41.2.2.2.2.2.2.2.1))) (
 some (.inl (x41.1,x41.2.1,x41.2.2.1,x41.2.2.2.1,x41.2.2.2.2.1,x41.2.2.2.2.2.1,x41.2.2.2.2.2.2.2.2.2.2.1,x41.2.2.2.2.2.2.1,x41.2.2.2.2.2.2.2.1,x41.2.2.2.2.2.2.2.2.1,x41.2.2.2.2.2.2.2.2.2.1,x41.2.2.2.2.2.2.2.2.2.2.2)))
def Z8l (x1 x2:Int) (x3 x4:Int) (x5:List Sess) (x6:List Int) (x7:Int) (x8:List Side) (x9:List Int) (x10 x11:List KE) (x12:List Event):Option (Int×Int×Int×Int×List Sess×List Int×Int×List Side×List Int×List KE×List KE×List Mail×List Event):=
 ifb (!decide (x7=0)) (
 some (0,0,0,0,([]:List Sess),([]:List Int),x7,([]:List Side),([]:List Int),([]:List KE),([]:List KE),([]:List Mail),([]:List Event))) (
 loop (Z7l x7) (x1,x2,x3,x4,x5,x6,([]:List Mail),x10,x12,x11,x9,x8))
theorem Z9l (x1 x2:Int) (x3 x4:Int) (x5:List Sess) (x6:List Int) (x7:Int) (x8:List Side) (x9:List Int) (x10 x11:List KE) (x12:List Event) (r:(Int×Int×Int×Int×List Sess×List Int×Int×List Side×List Int×List KE×List KE×List Mail×List Event)) (h:Z8l x1 x2 x3 x4 x5 x6 x7 x8 x9 x10 x11 x12=some r):Zr5 Tryz.prog 37 [.ptr 0 0] [some ⟨81,[.iv x1,.iv x2,.osl 0,.iv x3,.osl 1,.iv x4,Sp3 x5,.osl 2,Sp0 x6,.osl 3,.nl,.osl 4,.iv x7]⟩] [Sq6 x8,Sq7 x9,Sq8 x10,Sq8 x11,Za7 x12] (.tup [.agg [.iv r.1,.iv r.2.1,.osl 5,.iv r.2.2.1,.osl 6,.iv r.2.2.2.1,Sp3 r.2.2.2.2.1,.osl 7,Sp0 r.2.2.2.2.2.1,.osl 8],.osl 9,.osl 10,.iv r.2.2.2.2.2.2.1]) [none] [none,none,none,none,none,Sq6 r.2.2.2.2.2.2.2.1,Sq7 r.2.2.2.2.2.2.2.2.1,Sq8 r.2.2.2.2.2.2.2.2.2.1,Sq8 r.2.2.2.2.2.2.2.2.2.2.1,Zb7 r.2.2.2.2.2.2.2.2.2.2.2.1,Za7 r.2.2.2.2.2.2.2.2.2.2.2.2]:=by
 refine FT Zrk fun w0 M0=>?_
 rw [Z8l] at h
 dsimp only[lun,List.cons_append,List.nil_append]
 refine Zv2 16 ?_;dsimp only[go_sem];refine An (MI h (fun h=>?_) fun h=>?_)
 ·refine Zv2 1 ?_;dsimp only[go_sem];refine An (Z07 fun all H=>?_);dsimp only[go_sem];refine GN H 4 5 ?_;dsimp only[go_sem];refine An (Z74 4 5 rfl ?_ ?_)
  ·refine GV H.1 ?_;dsimp only[go_sem];refine GE H.1 5 ?_;dsimp only[go_sem];refine GN H 3 0 ?_;dsimp only[go_sem];refine An (GD (Z37 1 2 65 8 ?_));dsimp only[go_sem];refine Z37 1 4 3 1 ?_;dsimp only[go_sem];refine Z37 1 7 95 2 ?_;dsimp only[go_sem];refine Z37 1 9 95 2 ?_;dsimp only[go_sem];refine Zf4 3 74 5 rfl rfl ?_;dsimp only[go_sem];refine Zf4 4 57 5 rfl rfl ?_;dsimp only[go_sem]
   obtain rfl:=Option.some.inj h;exact Z57 Zrk
  ·refine GV H.1 ?_;dsimp only[go_sem];refine GN H 4 0 ?_;dsimp only[go_sem];refine An (GD (Z37 1 2 65 8 ?_));dsimp only[go_sem];refine Z37 1 4 3 1 ?_;dsimp only[go_sem];refine Z37 1 7 95 2 ?_;dsimp only[go_sem];refine Z37 1 9 95 2 ?_;dsimp only[go_sem];refine Zf4 3 74 5 rfl rfl ?_;dsimp only[go_sem];refine Zf4 4 57 5 rfl rfl ?_;dsimp only[go_sem];obtain rfl:=Option.some.inj h;exact Z57 Zrk
 ·refine Zv2 2 ?_;dsimp only[go_sem];refine An (Z37 0 10 74 5 ?_);dsimp only[go_sem];refine Z47 57 5 ?_;dsimp only[go_sem];refine Z47 57 5 ?_;dsimp only[go_sem];refine Z47 57 5 ?_;dsimp only[go_sem];refine Z47 57 5 ?_;dsimp only[go_sem];refine Z47 57 5 ?_;dsimp only[go_sem];refine Z47 57 5 ?_;dsimp only[go_sem];refine Z47 57 5 ?_;dsimp only[go_sem];refine Z47 57 5 ?_;dsimp only[go_sem];refine Z47 57 5 ?_;dsimp only[go_sem];refine Z47 57 5 ?_;dsimp only[go_sem]
  refine Z47 57 5 ?_;dsimp only[go_sem];refine Z47 57 5 ?_;dsimp only[go_sem];refine Z47 57 5 ?_;dsimp only[go_sem];refine Z17 4 18 ?_;dsimp only[go_sem];refine Z47 65 8 ?_;dsimp only[go_sem];refine Z47 65 8 ?_;dsimp only[go_sem];refine Z47 65 8 ?_;dsimp only[go_sem];refine Z47 65 8 ?_;dsimp only[go_sem];refine Z47 65 8 ?_;dsimp only[go_sem];refine Z47 65 8 ?_;dsimp only[go_sem];refine Z47 65 8 ?_;dsimp only[go_sem];refine Z47 65 8 ?_;dsimp only[go_sem];refine Z47 65 8 ?_
  dsimp only[go_sem];refine Z17 0 27 (Z17 1 22 ?_);dsimp only[go_sem];refine Z17 2 14 (Z17 3 19 ?_);dsimp only[go_sem]
  refine Zp4 h (fun ((x28,x29,x30,x31,x32,x33,x34,x35,x36,x37,x38,x39):(Int×Int×Int×Int×List Sess×List Int×List Mail×List KE×List Event×List KE×List Int×List Side))=>(⟨(.ptr 0 0 :: .any :: .ptr 1 0::an 39 []),[some ⟨81,[.iv x28,.iv x29,.osl 27,.iv x30,.osl 22,.iv x31,Sp3 x32,.osl 14,Sp0 x33,.osl 19,.osl 5,.osl 18,.iv x7]⟩,some ⟨35,[.iv 0,.iv 0,.nl,.iv 0,.nl,.iv 0,.nl,.nl,.nl,.nl]⟩],[none,none,none,none,none,Zb7 x34,none,none,none,none,none,none,none,none,Sq8 x35,none,none,none,Za7 x36,Sq8 x37,none,none,Sq7 x38,none,none,none,none,Sq6 x39]⟩:St)) (by simp [go_sem]) (by rintro ⟨x28,x29,x30,x31,x32,x33,x34,x35,x36,x37,x38,x39⟩;first | rfl | simp [go_sem]) ?_
  rintro n1 ⟨x28,x29,x30,x31,x32,x33,x34,x35,x36,x37,x38,x39⟩ y1 h hin1 hout1;rw [Z7l] at h;(try dsimp only);refine Zv2 7 ?_;dsimp only[go_sem];refine An ?_;have ⟨x40,ex40,h⟩:=Bs h;refine Z77 [] [27,22,14,19] 2 28 (t_node_own_I3 x28 x29 x30 x31 x32 x33 x39 x38 x35 x37 _ ex40) ?_;dsimp only[go_sem]
  refine Zv2 6 ?_;dsimp only[go_sem];refine An ?_;have ⟨x41,ex41,h⟩:=Bs h;refine Z77 [0] [27,22,14,19,5,18] 3 34 (Z3l x28 x29 x30 x31 x32 x33 x7 x39 x38 x35 x37 x34 x36 _ ex41) ?_;dsimp only[go_sem];refine Zv2 2 ?_;dsimp only[go_sem];refine An ?_
  refine Z07 fun all H=>?_;dsimp only[go_sem];refine GN H 3 3 ?_;dsimp only[go_sem];refine An (Z74 0 4 rfl ?_ ?_)
  ·refine GV H.1 ?_;dsimp only[go_sem];refine GE H.1 4 ?_;dsimp only[go_sem];refine Z64 5 rfl ?_;have ⟨x42,ex42,h⟩:=Bs h
   refine GK H.1 ((((((((((LR.slice 28 rfl).slice 29 rfl).slice 30 rfl).slice 31 rfl).slice 32 rfl).slice 33 rfl).slice 37 rfl).slice 42 rfl).slice 45 rfl).slice 50 rfl) (Z0g (Node.mk (DK.mk (DI.mk x28 x29 x40.1) x30 x40.2.1) (Book.mk x31 x40.2.2.2.2.2) x40.2.2.1 x40.2.2.2.1 x40.2.2.2.2.1) (Node.mk (DK.mk (DI.mk x41.1 x41.2.1 x41.2.2.2.2.2.2.2.2.2.2.2) x41.2.2.1 x41.2.2.2.2.2.2.2.2.2.1) (Book.mk x41.2.2.2.1 x41.2.2.2.2.1) x41.2.2.2.2.2.2.1 x41.2.2.2.2.2.1 x41.2.2.2.2.2.2.2.2.1) _ ex42) ?_;dsimp only[go_sem]
   refine GD (MI h (fun h=>?_) fun h=>?_)
   ·refine Zv2 1 ?_;dsimp only[go_sem];refine An (Z07 fun all H=>?_);dsimp only[go_sem];refine GP H 9 7 [3,1,3,1,3,5] [(30,[.ptr 0 0,.ptr 0 0,.ptr 0 0]),(1,[.ptr 0 0,.ptr 0 0,.ptr 0 10]),(1,[.ptr 0 0,.ptr 0 0,.ptr 0 11])] ?_;dsimp only[go_sem];refine Z84 3 7 11 rfl ?_ ?_ ?_
    ·refine GV H.1 ?_;dsimp only[go_sem];refine Z84 7 11 12 rfl ?_ ?_ ?_
     ·refine GV H.1 ?_;dsimp only[go_sem];refine Z74 11 12 rfl ?_ ?_
      ·refine GV H.1 ?_;dsimp only[go_sem];refine GE H.1 12 ?_;dsimp only[go_sem];refine GN H 3 0 ?_;dsimp only[go_sem];refine An (GD (Z17 50 5 (Z17 45 6 ?_)));dsimp only[go_sem];refine Z17 37 7 (Z17 42 8 ?_);dsimp only[go_sem];refine Z17 49 9 (Z17 41 10 ?_);dsimp only[go_sem]
       obtain rfl:=Option.some.inj (Zn4 h hout1);exact Z57 Zrk
      ·refine GV H.1 ?_;dsimp only[go_sem];refine GN H 1 3 ?_;dsimp only[go_sem];refine An (GE H.1 11 ?_);dsimp only[go_sem];refine GN H 2 0 ?_;dsimp only[go_sem];refine An (GD (Z17 50 5 (Z17 45 6 ?_)));dsimp only[go_sem];refine Z17 37 7 (Z17 42 8 (Z17 49 9 ?_));dsimp only[go_sem]
       refine Z17 41 10 ?_;dsimp only[go_sem];obtain rfl:=Option.some.inj (Zn4 h hout1);exact Z57 Zrk
     ·refine GV H.1 ?_;dsimp only[go_sem];refine Z74 7 12 rfl ?_ ?_
      ·refine GV H.1 ?_;dsimp only[go_sem];refine GE H.1 12 ?_;dsimp only[go_sem];refine GN H 3 0 ?_;dsimp only[go_sem];refine An (GD (Z17 50 5 (Z17 45 6 ?_)));dsimp only[go_sem];refine Z17 37 7 (Z17 42 8 ?_);dsimp only[go_sem];refine Z17 49 9 (Z17 41 10 ?_);dsimp only[go_sem]
       obtain rfl:=Option.some.inj (Zn4 h hout1);exact Z57 Zrk
      ·refine GV H.1 ?_;dsimp only[go_sem];refine GE H.1 7 ?_;dsimp only[go_sem];refine GN H 3 0 ?_;dsimp only[go_sem];refine An (GD (Z17 50 5 (Z17 45 6 ?_)));dsimp only[go_sem];refine Z17 37 7 (Z17 42 8 ?_);dsimp only[go_sem];refine Z17 49 9 (Z17 41 10 ?_);dsimp only[go_sem]
       obtain rfl:=Option.some.inj (Zn4 h hout1);exact Z57 Zrk
     ·refine GV H.1 ?_;dsimp only[go_sem];refine Z74 7 11 rfl ?_ ?_
      ·refine GV H.1 ?_;dsimp only[go_sem];refine GN H 1 3 ?_;dsimp only[go_sem];refine An (GE H.1 11 ?_);dsimp only[go_sem];refine GN H 2 0 ?_;dsimp only[go_sem];refine An (GD (Z17 50 5 (Z17 45 6 ?_)));dsimp only[go_sem];refine Z17 37 7 (Z17 42 8 (Z17 49 9 ?_));dsimp only[go_sem]
       refine Z17 41 10 ?_;dsimp only[go_sem];obtain rfl:=Option.some.inj (Zn4 h hout1);exact Z57 Zrk
      ·refine GV H.1 ?_;dsimp only[go_sem];refine GE H.1 7 ?_;dsimp only[go_sem];refine GN H 3 0 ?_;dsimp only[go_sem];refine An (GD (Z17 50 5 (Z17 45 6 ?_)));dsimp only[go_sem];refine Z17 37 7 (Z17 42 8 ?_);dsimp only[go_sem];refine Z17 49 9 (Z17 41 10 ?_);dsimp only[go_sem]
       obtain rfl:=Option.some.inj (Zn4 h hout1);exact Z57 Zrk
    ·refine GV H.1 ?_;dsimp only[go_sem];refine Z74 3 11 rfl ?_ ?_
     ·refine GV H.1 ?_;dsimp only[go_sem];refine Z74 11 12 rfl ?_ ?_
      ·refine GV H.1 ?_;dsimp only[go_sem];refine GE H.1 12 ?_;dsimp only[go_sem];refine GN H 3 0 ?_;dsimp only[go_sem];refine An (GD (Z17 50 5 (Z17 45 6 ?_)));dsimp only[go_sem];refine Z17 37 7 (Z17 42 8 ?_);dsimp only[go_sem];refine Z17 49 9 (Z17 41 10 ?_);dsimp only[go_sem]
       obtain rfl:=Option.some.inj (Zn4 h hout1);exact Z57 Zrk
      ·refine GV H.1 ?_;dsimp only[go_sem];refine GN H 1 3 ?_;dsimp only[go_sem];refine An (GE H.1 11 ?_);dsimp only[go_sem];refine GN H 2 0 ?_;dsimp only[go_sem];refine An (GD (Z17 50 5 (Z17 45 6 ?_)));dsimp only[go_sem];refine Z17 37 7 (Z17 42 8 (Z17 49 9 ?_));dsimp only[go_sem]
       refine Z17 41 10 ?_;dsimp only[go_sem];obtain rfl:=Option.some.inj (Zn4 h hout1);exact Z57 Zrk
     ·refine GV H.1 ?_;dsimp only[go_sem];refine GE H.1 3 ?_;dsimp only[go_sem];refine GE H.1 12 ?_;dsimp only[go_sem];refine GN H 3 0 ?_;dsimp only[go_sem];refine An (GD (Z17 50 5 (Z17 45 6 ?_)));dsimp only[go_sem];refine Z17 37 7 (Z17 42 8 (Z17 49 9 ?_));dsimp only[go_sem]
      refine Z17 41 10 ?_;dsimp only[go_sem];obtain rfl:=Option.some.inj (Zn4 h hout1);exact Z57 Zrk
    ·refine GV H.1 ?_;dsimp only[go_sem];refine Z74 3 7 rfl ?_ ?_
     ·refine GV H.1 ?_;dsimp only[go_sem];refine Z74 7 12 rfl ?_ ?_
      ·refine GV H.1 ?_;dsimp only[go_sem];refine GE H.1 12 ?_;dsimp only[go_sem];refine GN H 3 0 ?_;dsimp only[go_sem];refine An (GD (Z17 50 5 (Z17 45 6 ?_)));dsimp only[go_sem];refine Z17 37 7 (Z17 42 8 ?_);dsimp only[go_sem];refine Z17 49 9 (Z17 41 10 ?_);dsimp only[go_sem]
       obtain rfl:=Option.some.inj (Zn4 h hout1);exact Z57 Zrk
      ·refine GV H.1 ?_;dsimp only[go_sem];refine GE H.1 7 ?_;dsimp only[go_sem];refine GN H 3 0 ?_;dsimp only[go_sem];refine An (GD (Z17 50 5 (Z17 45 6 ?_)));dsimp only[go_sem];refine Z17 37 7 (Z17 42 8 ?_);dsimp only[go_sem];refine Z17 49 9 (Z17 41 10 ?_);dsimp only[go_sem]
       obtain rfl:=Option.some.inj (Zn4 h hout1);exact Z57 Zrk
     ·refine GV H.1 ?_;dsimp only[go_sem];refine GE H.1 3 ?_;dsimp only[go_sem];refine GE H.1 12 ?_;dsimp only[go_sem];refine GN H 3 0 ?_;dsimp only[go_sem];refine An (GD (Z17 50 5 (Z17 45 6 ?_)));dsimp only[go_sem];refine Z17 37 7 (Z17 42 8 (Z17 49 9 ?_));dsimp only[go_sem]
      refine Z17 41 10 ?_;dsimp only[go_sem];obtain rfl:=Option.some.inj (Zn4 h hout1);exact Z57 Zrk
   ·refine Zv2 2 ?_;dsimp only[go_sem];refine An (Z17 49 5 (Z17 41 18 ?_));dsimp only[go_sem];refine Z17 50 27 (Z17 45 22 ?_);dsimp only[go_sem];refine Z17 37 14 (Z17 42 19 ?_);dsimp only[go_sem];exact Zx4 h hin1
  ·refine GV H.1 ?_;dsimp only[go_sem];refine GE H.1 0 ?_;dsimp only[go_sem];refine Z64 5 rfl ?_;have ⟨x42,ex42,h⟩:=Bs h
   refine GK H.1 ((((((((((LR.slice 28 rfl).slice 29 rfl).slice 30 rfl).slice 31 rfl).slice 32 rfl).slice 33 rfl).slice 37 rfl).slice 42 rfl).slice 45 rfl).slice 50 rfl) (Z0g (Node.mk (DK.mk (DI.mk x28 x29 x40.1) x30 x40.2.1) (Book.mk x31 x40.2.2.2.2.2) x40.2.2.1 x40.2.2.2.1 x40.2.2.2.2.1) (Node.mk (DK.mk (DI.mk x41.1 x41.2.1 x41.2.2.2.2.2.2.2.2.2.2.2) x41.2.2.1 x41.2.2.2.2.2.2.2.2.2.1) (Book.mk x41.2.2.2.1 x41.2.2.2.2.1) x41.2.2.2.2.2.2.1 x41.2.2.2.2.2.1 x41.2.2.2.2.2.2.2.2.1) _ ex42) ?_;dsimp only[go_sem]
   refine GD (MI h (fun h=>?_) fun h=>?_)
   ·refine Zv2 1 ?_;dsimp only[go_sem];refine An (Z07 fun all H=>?_);dsimp only[go_sem];refine GP H 9 7 [3,1,3,1,3,5] [(30,[.ptr 0 0,.ptr 0 0,.ptr 0 0]),(1,[.ptr 0 0,.ptr 0 0,.ptr 0 10]),(1,[.ptr 0 0,.ptr 0 0,.ptr 0 11])] ?_;dsimp only[go_sem];refine Z84 3 7 11 rfl ?_ ?_ ?_
    ·refine GV H.1 ?_;dsimp only[go_sem];refine Z84 7 11 12 rfl ?_ ?_ ?_
     ·refine GV H.1 ?_;dsimp only[go_sem];refine Z74 11 12 rfl ?_ ?_
      ·refine GV H.1 ?_;dsimp only[go_sem];refine GE H.1 12 ?_;dsimp only[go_sem];refine GN H 3 0 ?_;dsimp only[go_sem];refine An (GD (Z17 50 5 (Z17 45 6 ?_)));dsimp only[go_sem];refine Z17 37 7 (Z17 42 8 ?_);dsimp only[go_sem];refine Z17 49 9 (Z17 41 10 ?_);dsimp only[go_sem]
       obtain rfl:=Option.some.inj (Zn4 h hout1);exact Z57 Zrk
      ·refine GV H.1 ?_;dsimp only[go_sem];refine GN H 1 3 ?_;dsimp only[go_sem];refine An (GE H.1 11 ?_);dsimp only[go_sem];refine GN H 2 0 ?_;dsimp only[go_sem];refine An (GD (Z17 50 5 (Z17 45 6 ?_)));dsimp only[go_sem];refine Z17 37 7 (Z17 42 8 (Z17 49 9 ?_));dsimp only[go_sem]
       refine Z17 41 10 ?_;dsimp only[go_sem];obtain rfl:=Option.some.inj (Zn4 h hout1);exact Z57 Zrk
     ·refine GV H.1 ?_;dsimp only[go_sem];refine Z74 7 12 rfl ?_ ?_
      ·refine GV H.1 ?_;dsimp only[go_sem];refine GE H.1 12 ?_;dsimp only[go_sem];refine GN H 3 0 ?_;dsimp only[go_sem];refine An (GD (Z17 50 5 (Z17 45 6 ?_)));dsimp only[go_sem];refine Z17 37 7 (Z17 42 8 ?_);dsimp only[go_sem];refine Z17 49 9 (Z17 41 10 ?_);dsimp only[go_sem]
       obtain rfl:=Option.some.inj (Zn4 h hout1);exact Z57 Zrk
      ·refine GV H.1 ?_;dsimp only[go_sem];refine GE H.1 7 ?_;dsimp only[go_sem];refine GN H 3 0 ?_;dsimp only[go_sem];refine An (GD (Z17 50 5 (Z17 45 6 ?_)));dsimp only[go_sem];refine Z17 37 7 (Z17 42 8 ?_);dsimp only[go_sem];refine Z17 49 9 (Z17 41 10 ?_);dsimp only[go_sem]
       obtain rfl:=Option.some.inj (Zn4 h hout1);exact Z57 Zrk
     ·refine GV H.1 ?_;dsimp only[go_sem];refine Z74 7 11 rfl ?_ ?_
      ·refine GV H.1 ?_;dsimp only[go_sem];refine GN H 1 3 ?_;dsimp only[go_sem];refine An (GE H.1 11 ?_);dsimp only[go_sem];refine GN H 2 0 ?_;dsimp only[go_sem];refine An (GD (Z17 50 5 (Z17 45 6 ?_)));dsimp only[go_sem];refine Z17 37 7 (Z17 42 8 (Z17 49 9 ?_));dsimp only[go_sem]
       refine Z17 41 10 ?_;dsimp only[go_sem];obtain rfl:=Option.some.inj (Zn4 h hout1);exact Z57 Zrk
      ·refine GV H.1 ?_;dsimp only[go_sem];refine GE H.1 7 ?_;dsimp only[go_sem];refine GN H 3 0 ?_;dsimp only[go_sem];refine An (GD (Z17 50 5 (Z17 45 6 ?_)));dsimp only[go_sem];refine Z17 37 7 (Z17 42 8 ?_);dsimp only[go_sem];refine Z17 49 9 (Z17 41 10 ?_);dsimp only[go_sem]
       obtain rfl:=Option.some.inj (Zn4 h hout1);exact Z57 Zrk
    ·refine GV H.1 ?_;dsimp only[go_sem];refine Z74 3 11 rfl ?_ ?_
     ·refine GV H.1 ?_;dsimp only[go_sem];refine Z74 11 12 rfl ?_ ?_
      ·refine GV H.1 ?_;dsimp only[go_sem];refine GE H.1 12 ?_;dsimp only[go_sem];refine GN H 3 0 ?_;dsimp only[go_sem];refine An (GD (Z17 50 5 (Z17 45 6 ?_)));dsimp only[go_sem];refine Z17 37 7 (Z17 42 8 ?_);dsimp only[go_sem];refine Z17 49 9 (Z17 41 10 ?_);dsimp only[go_sem]
       obtain rfl:=Option.some.inj (Zn4 h hout1);exact Z57 Zrk
      ·refine GV H.1 ?_;dsimp only[go_sem];refine GN H 1 3 ?_;dsimp only[go_sem];refine An (GE H.1 11 ?_);dsimp only[go_sem];refine GN H 2 0 ?_;dsimp only[go_sem];refine An (GD (Z17 50 5 (Z17 45 6 ?_)));dsimp only[go_sem];refine Z17 37 7 (Z17 42 8 (Z17 49 9 ?_));dsimp only[go_sem]
       refine Z17 41 10 ?_;dsimp only[go_sem];obtain rfl:=Option.some.inj (Zn4 h hout1);exact Z57 Zrk
     ·refine GV H.1 ?_;dsimp only[go_sem];refine GE H.1 3 ?_;dsimp only[go_sem];refine GE H.1 12 ?_;dsimp only[go_sem];refine GN H 3 0 ?_;dsimp only[go_sem];refine An (GD (Z17 50 5 (Z17 45 6 ?_)));dsimp only[go_sem];refine Z17 37 7 (Z17 42 8 (Z17 49 9 ?_));dsimp only[go_sem]
      refine Z17 41 10 ?_;dsimp only[go_sem];obtain rfl:=Option.some.inj (Zn4 h hout1);exact Z57 Zrk
    ·refine GV H.1 ?_;dsimp only[go_sem];refine Z74 3 7 rfl ?_ ?_
     ·refine GV H.1 ?_;dsimp only[go_sem];refine Z74 7 12 rfl ?_ ?_
      ·refine GV H.1 ?_;dsimp only[go_sem];refine GE H.1 12 ?_;dsimp only[go_sem];refine GN H 3 0 ?_;dsimp only[go_sem];refine An (GD (Z17 50 5 (Z17 45 6 ?_)));dsimp only[go_sem];refine Z17 37 7 (Z17 42 8 ?_);dsimp only[go_sem];refine Z17 49 9 (Z17 41 10 ?_);dsimp only[go_sem]
       obtain rfl:=Option.some.inj (Zn4 h hout1);exact Z57 Zrk
      ·refine GV H.1 ?_;dsimp only[go_sem];refine GE H.1 7 ?_;dsimp only[go_sem];refine GN H 3 0 ?_;dsimp only[go_sem];refine An (GD (Z17 50 5 (Z17 45 6 ?_)));dsimp only[go_sem];refine Z17 37 7 (Z17 42 8 ?_);dsimp only[go_sem];refine Z17 49 9 (Z17 41 10 ?_);dsimp only[go_sem]
       obtain rfl:=Option.some.inj (Zn4 h hout1);exact Z57 Zrk
     ·refine GV H.1 ?_;dsimp only[go_sem];refine GE H.1 3 ?_;dsimp only[go_sem];refine GE H.1 12 ?_;dsimp only[go_sem];refine GN H 3 0 ?_;dsimp only[go_sem];refine An (GD (Z17 50 5 (Z17 45 6 ?_)));dsimp only[go_sem];refine Z17 37 7 (Z17 42 8 (Z17 49 9 ?_));dsimp only[go_sem]
      refine Z17 41 10 ?_;dsimp only[go_sem];obtain rfl:=Option.some.inj (Zn4 h hout1);exact Z57 Zrk
   ·refine Zv2 2 ?_;dsimp only[go_sem];refine An (Z17 49 5 (Z17 41 18 ?_));dsimp only[go_sem];refine Z17 50 27 (Z17 45 22 ?_);dsimp only[go_sem];refine Z17 37 14 (Z17 42 19 ?_);dsimp only[go_sem];exact Zx4 h hin1
@[go_sem] def e11:EC:=(by have h:=hF Tryz.f11;(conv at h=>rhs;reduce);dsimp only[go_sem] at h;exact ⟨_,h⟩:DP Tryz.f11).1
theorem ok11:FnOK Tryz.prog 11 Tryz.f11 e11 [.c 4 (some 10),.t 5,.t 6,.t 7] 2 116:=okA
def Zal (x3:(List Side×List Int×List KE×List Int×List KE×List Sess)):(Int×Int×Int×Int×List Sess×Int×List Side×List Int×List KE×List Event)→Option (Node×List Mail×List Event×Int)
| (x26,x27,x28,x29,x30,x31,x32,x33,x34,x35)=>
 (Z8l x26 x27 x28 x29 x30 x3.2.2.2.1 x31 x32 x33 x34 x3.2.2.2.2.1 x35).bind fun x36=>
 some ((Node.mk (DK.mk (DI.mk x36.1 x36.2.1 x36.2.2.2.2.2.2.2.1) x36.2.2.1 x36.2.2.2.2.2.2.2.2.1) (Book.mk x36.2.2.2.1 x36.2.2.2.2.1) x36.2.2.2.2.2.2.2.2.2.1 x36.2.2.2.2.2.1 x36.2.2.2.2.2.2.2.2.2.2.1),x36.2.2.2.2.2.2.2.2.2.2.2.1,x36.2.2.2.2.2.2.2.2.2.2.2.2,x36.2.2.2.2.2.2.1)
def Zbl (x1:Node) (x2:Do) (x3:(List Side×List Int×List KE×List Int×List KE×List Sess)) (x5:Int) (x6:Int):Int→Option (Node×List Mail×List Event×Int)
| x11=>
 (Z3c (decide (x5<0)) 183 x1.DK.DI.ID x1.DK.DI.PH x1.DK.TH x1.Book.Last x11 x3.1 x3.2.1 x3.2.2.2.2.2 x3.2.2.1 x3.2.2.2.1 x3.2.2.2.2.1).bind fun x12=>
 (Z3c (decide (x6<65535)) 186 x1.DK.DI.ID x1.DK.DI.PH x1.DK.TH x1.Book.Last x12.2 x3.1 x3.2.1 x3.2.2.2.2.2 x3.2.2.1 x3.2.2.2.1 x3.2.2.2.2.1).bind fun x13=>
 ifb x13.1 (
 (Zni (Side.mk x2.Peer (wr (x6+1)) 1 true true false true false) x1.DK.DI.ID x1.DK.DI.PH x1.DK.TH x1.Book.Last x13.2 x3.1 x3.2.1 x3.2.2.2.2.2 x3.2.2.1 x3.2.2.2.1 x3.2.2.2.2.1).bind fun x14=>
 (Zal x3) (x1.DK.DI.ID,x1.DK.DI.PH,x1.DK.TH,x1.Book.Last,x3.2.2.2.2.2,x13.2,x14.1,x3.2.1,x14.2,([]:List Event))) (
 (Zal x3) (x1.DK.DI.ID,x1.DK.DI.PH,x1.DK.TH,x1.Book.Last,x3.2.2.2.2.2,x13.2,x3.1,x3.2.1,x3.2.2.1,([]:List Event)))
def Zcl (x1:Node) (x2:Do) (x3:(List Side×List Int×List KE×List Int×List KE×List Sess)):(Bool×Int)→Option (Node×List Mail×List Event×Int)
| (x22,x23)=>
 ifb x22 (
 (Zdk x2.Peer x1.DK.DI.ID x1.DK.DI.PH x1.DK.TH x1.Book.Last x23 x3.1 x3.2.1 x3.2.2.2.2.2 x3.2.2.1 x3.2.2.2.1 x3.2.2.2.2.1).bind fun x24=>
 (Zal x3) (x24.1,x24.2.1,x24.2.2.1,x24.2.2.2.1,x24.2.2.2.2.1,x23,x24.2.2.2.2.2.2.1,x24.2.2.2.2.2.2.2,x3.2.2.1,x24.2.2.2.2.2.1)) (
 (Zal x3) (x1.DK.DI.ID,x1.DK.DI.PH,x1.DK.TH,x1.Book.Last,x3.2.2.2.2.2,x23,x3.1,x3.2.1,x3.2.2.1,([]:List Event)))
def Zdl (x1:Node) (x2:Do) (x3:(List Side×List Int×List KE×List Int×List KE×List Sess)) (x5:Int):Int→Option (Node×List Mail×List Event×Int)
| x17=>
 (Z3c (decide (0≤x5)) 184 x1.DK.DI.ID x1.DK.DI.PH x1.DK.TH x1.Book.Last x17 x3.1 x3.2.1 x3.2.2.2.2.2 x3.2.2.1 x3.2.2.2.1 x3.2.2.2.2.1).bind fun x18=>
 ifb x18.1 (
 (at_ x3.1 x5).bind fun x19=>
 (Z29 x19).bind fun x20=>
 (Z3c x20 185 x1.DK.DI.ID x1.DK.DI.PH x1.DK.TH x1.Book.Last x18.2 x3.1 x3.2.1 x3.2.2.2.2.2 x3.2.2.1 x3.2.2.2.1 x3.2.2.2.2.1).bind fun x21=>
 (Zcl x1 x2 x3) (x21.1,x21.2)) (
 (Zcl x1 x2 x3) (false,x18.2))
def Zel (x1:Node) (x2:Do) (x3:(List Side×List Int×List KE×List Int×List KE×List Sess)) (x4:Int) (x5 x6:Int):Bool→Option (Node×List Mail×List Event×Int)
| x7=>
 ifb x7 (
 ifb (decide (x4=0)) (
 (Z6k x2 x1.DK.DI.ID x1.DK.DI.PH x1.DK.TH x1.Book.Last x4 x3.1 x3.2.1 x3.2.2.2.2.2 x3.2.2.1 x3.2.2.2.1 x3.2.2.2.2.1).bind fun x8=>
 (Zal x3) (x8.1,x8.2.1,x8.2.2.1,x8.2.2.2.1,x8.2.2.2.2.1,x8.2.2.2.2.2.1,x8.2.2.2.2.2.2.2.1,x8.2.2.2.2.2.2.2.2,x3.2.2.1,x8.2.2.2.2.2.2.1)) (
 (Zal x3) (x1.DK.DI.ID,x1.DK.DI.PH,x1.DK.TH,x1.Book.Last,x3.2.2.2.2.2,x4,x3.1,x3.2.1,x3.2.2.1,([]:List Event)))) (
 ifb (decide (x2.Kind=4)) (
 ifb (decide (x1.DK.DI.ID<x2.Peer)) (
 (Z3c (decide (x2.Peer<64)) 182 x1.DK.DI.ID x1.DK.DI.PH x1.DK.TH x1.Book.Last x4 x3.1 x3.2.1 x3.2.2.2.2.2 x3.2.2.1 x3.2.2.2.1 x3.2.2.2.2.1).bind fun x9=>
 (Zbl x1 x2 x3 x5 x6) x9.2) (
 (Z7c 182 x1.DK.DI.ID x1.DK.DI.PH x1.DK.TH x1.Book.Last x4 x3.1 x3.2.1 x3.2.2.2.2.2 x3.2.2.1 x3.2.2.2.1 x3.2.2.2.2.1).bind fun x10=>
 (Zbl x1 x2 x3 x5 x6) x10.2)) (
 ifb (decide (x2.Kind=5)) (
 ifb (decide (x1.DK.DI.ID<x2.Peer)) (
 (Z3c (decide (x2.Peer<64)) 182 x1.DK.DI.ID x1.DK.DI.PH x1.DK.TH x1.Book.Last x4 x3.1 x3.2.1 x3.2.2.2.2.2 x3.2.2.1 x3.2.2.2.1 x3.2.2.2.2.1).bind fun x15=>
 (Zdl x1 x2 x3 x5) x15.2) (
 (Z7c 182 x1.DK.DI.ID x1.DK.DI.PH x1.DK.TH x1.Book.Last x4 x3.1 x3.2.1 x3.2.2.2.2.2 x3.2.2.1 x3.2.2.2.1 x3.2.2.2.2.1).bind fun x16=>
 (Zdl x1 x2 x3 x5) x16.2)) (
 (Z7c 188 x1.DK.DI.ID x1.DK.DI.PH x1.DK.TH x1.Book.Last x4 x3.1 x3.2.1 x3.2.2.2.2.2 x3.2.2.1 x3.2.2.2.1 x3.2.2.2.2.1).bind fun x25=>
 (Zal x3) (x1.DK.DI.ID,x1.DK.DI.PH,x1.DK.TH,x1.Book.Last,x3.2.2.2.2.2,x25.2,x3.1,x3.2.1,x3.2.2.1,([]:List Event)))))
def Zfl (x1:Node) (x2:Do):Option (Node×List Mail×List Event×Int):=
 (Z9e x1).bind fun x3=>
 (Zlk x1).bind fun x4=>
 (Z9c (node_node.mk (Node.mk (DK.mk (DI.mk x1.DK.DI.ID x1.DK.DI.PH x3.1) x1.DK.TH x3.2.1) (Book.mk x1.Book.Last x3.2.2.2.2.2) x3.2.2.1 x3.2.2.2.1 x3.2.2.2.2.1) (([]:List Mail)) (([]:List Event)) x4) x2.Peer).bind fun x5=>
 (Zz9 x1 x2.Peer).bind fun x6=>
 ifb (decide (x2.Kind=0)) (
 (Zel x1 x2 x3 x4 x5 x6) (decide (x2.Kind=0))) (
 ifb (decide (x2.Kind=1)) (
 (Zel x1 x2 x3 x4 x5 x6) (decide (x2.Kind=1))) (
 ifb (decide (x2.Kind=2)) (
 (Zel x1 x2 x3 x4 x5 x6) (decide (x2.Kind=2))) (
 (Zel x1 x2 x3 x4 x5 x6) (decide (x2.Kind=3)))))
theorem Zgl (x1:Node) (x2:Do) (r:(Node×List Mail×List Event×Int)) (h:Zfl x1 x2=some r):Z03 Tryz.prog 11 [.agg (Node.row x1),.agg (Do.row x2)] (.tup [.agg (Node.row r.1),Sp4 r.2.1,Sp5 r.2.2.1,.iv r.2.2.2]):=by
 refine FP ok11 fun w0 H0=>?_
 rw [Zfl] at h
 refine Zv2 10 ?_;dsimp only[go_sem];refine An (Z07 fun all H=>?_);dsimp only[go_sem];refine GN H 2 5 ?_;dsimp only[go_sem];refine An (Z64 1 rfl ?_);have ⟨x3,ex3,h⟩:=Bs h;refine Z87 H.1 [] [] 3 0 (Zae x1 _ ex3) ?_;dsimp only[go_sem];refine Z64 3 rfl ?_;have ⟨x4,ex4,h⟩:=Bs h;refine GC H.1 (Zmk x1 _ ex4) ?_;dsimp only[go_sem];refine GN H 1 2 ?_;dsimp only[go_sem]
 refine An (GE H.1 5 ?_);dsimp only[go_sem];refine GN H 1 0 ?_;dsimp only[go_sem];refine An (GD (Zv2 5 ?_));dsimp only[go_sem];refine An ?_;have ⟨x5,ex5,h⟩:=Bs h
 refine VL (((((((LR.slice 0 rfl).slice 1 rfl).slice 2 rfl).slice 3 rfl).slice 4 rfl).slice 5 rfl).block 3 rfl rfl) (Zac (node_node.mk (Node.mk (DK.mk (DI.mk x1.DK.DI.ID x1.DK.DI.PH x3.1) x1.DK.TH x3.2.1) (Book.mk x1.Book.Last x3.2.2.2.2.2) x3.2.2.1 x3.2.2.2.1 x3.2.2.2.2.1) (([]:List Mail)) (([]:List Event)) x4) x2.Peer _ ex5) (Zv2 7 ?_);dsimp only[go_sem];refine An ?_;have ⟨x6,ex6,h⟩:=Bs h;refine VC (Z0a x1 x2.Peer _ ex6) (Zv2 15 ?_)
 dsimp only[go_sem];refine An ?_
 refine Zo4 (fun (x7:Bool)=>(⟨(.any :: .any :: .ptr 0 0 :: .ptr 1 0 :: .ptr 2 0::an 3 (.ptr 3 0 :: .iv x5 :: .iv x6::an 15 (.iv x2.Kind :: .any :: .any :: .bv x7::an 88 []))),[some ⟨35,Node.row x1⟩,some ⟨38,Do.row x2⟩,some ⟨35,[.iv 0,.iv 0,.nl,.iv 0,.nl,.iv 0,.nl,.nl,.nl,.nl]⟩,some ⟨81,[.iv x1.DK.DI.ID,.iv x1.DK.DI.PH,.osl 0,.iv x1.DK.TH,.osl 1,.iv x1.Book.Last,.osl 5,.osl 2,.osl 3,.osl 4,.nl,.nl,.iv x4]⟩],[Sq6 x3.1,Sq7 x3.2.1,Sq8 x3.2.2.1,Sq7 x3.2.2.2.1,Sq8 x3.2.2.2.2.1,Sq9 x3.2.2.2.2.2]⟩:St)) (Zel x1 x2 x3 x4 x5 x6) r ?_ fun J1=>?_
 ·intro x7 h;rw [Zel] at h;(try dsimp only)
  refine Zo4 (fun ((x26,x27,x28,x29,x30,x31,x32,x33,x34,x35):(Int×Int×Int×Int×List Sess×Int×List Side×List Int×List KE×List Event))=>(⟨an 4 (.ptr 2 0::an 3 (.ptr 3 0::an 109 [])),[none,none,some ⟨35,[.iv 0,.iv 0,.nl,.iv 0,.nl,.iv 0,.nl,.nl,.nl,.nl]⟩,some ⟨81,[.iv x26,.iv x27,.osl 0,.iv x28,.osl 1,.iv x29,Sp3 x30,.osl 2,.osl 3,.osl 4,.nl,.osl 6,.iv x31]⟩],[Sq6 x32,Sq7 x33,Sq8 x34,Sq7 x3.2.2.2.1,Sq8 x3.2.2.2.2.1,none,Za7 x35]⟩:St)) (Zal x3) r ?_ fun J2=>?_
  ·rintro ⟨x26,x27,x28,x29,x30,x31,x32,x33,x34,x35⟩ h;rw [Zal] at h;(try dsimp only);refine Zv2 4 ?_;dsimp only[go_sem];refine An (Z27 3 ?_);dsimp only[go_sem];have ⟨x36,ex36,h⟩:=Bs h;refine Z77 [3] [0,1,2,4,6] 4 7 (Z9l x26 x27 x28 x29 x30 x3.2.2.2.1 x31 x32 x33 x34 x3.2.2.2.2.1 x35 _ ex36) ?_;dsimp only[go_sem];refine Zv2 9 ?_;dsimp only[go_sem];refine An (Z27 7 ?_);dsimp only[go_sem]
   refine Z27 8 ?_;dsimp only[go_sem];refine Z27 9 ?_;dsimp only[go_sem];refine Z27 10 ?_;dsimp only[go_sem];refine Z27 11 ?_;dsimp only[go_sem];refine Z27 12 ?_;dsimp only[go_sem];exact Zw4 (res:=fun (r:(Node×List Mail×List Event×Int))=>.tup [.agg (Node.row r.1),Sp4 r.2.1,Sp5 r.2.2.1,.iv r.2.2.2]) ok11 h
  ·refine MI h (fun h=>?_) fun h=>?_
   ·refine Zv2 8 ?_;dsimp only[go_sem];refine An (MI h (fun h=>?_) fun h=>?_)
    ·refine Zv2 3 ?_;dsimp only[go_sem];refine An ?_;have ⟨x8,ex8,h⟩:=Bs h;refine Z77 [3] [0,1,5,2,3,4] 4 6 (Z7k x2 x1.DK.DI.ID x1.DK.DI.PH x1.DK.TH x1.Book.Last x4 x3.1 x3.2.1 x3.2.2.2.2.2 x3.2.2.1 x3.2.2.2.1 x3.2.2.2.2.1 _ ex8) ?_;dsimp only[go_sem];refine Zv2 1 ?_;dsimp only[go_sem];refine An (Z17 8 0 (Z17 9 1 ?_));dsimp only[go_sem]
     exact Zy4 J2 (s:=(x8.1,x8.2.1,x8.2.2.1,x8.2.2.2.1,x8.2.2.2.2.1,x8.2.2.2.2.2.1,x8.2.2.2.2.2.2.2.1,x8.2.2.2.2.2.2.2.2,x3.2.2.1,x8.2.2.2.2.2.2.1)) h
    ·refine Zv2 1 ?_;dsimp only[go_sem];refine An (Z27 5 ?_);dsimp only[go_sem];refine Z37 3 11 57 5 ?_;dsimp only[go_sem];exact Zy4 J2 (s:=(x1.DK.DI.ID,x1.DK.DI.PH,x1.DK.TH,x1.Book.Last,x3.2.2.2.2.2,x4,x3.1,x3.2.1,x3.2.2.1,([]:List Event))) h
   ·refine Zv2 5 ?_;dsimp only[go_sem];refine An (MI h (fun h=>?_) fun h=>?_)
    ·refine Zv2 11 ?_;dsimp only[go_sem];refine An ?_
     refine Zo4 (fun (x11:Int)=>(⟨an 3 (.ptr 1 0 :: .ptr 2 0::an 3 (.ptr 3 0 :: .iv x5 :: .iv x6::an 107 [])),[none,some ⟨38,Do.row x2⟩,some ⟨35,[.iv 0,.iv 0,.nl,.iv 0,.nl,.iv 0,.nl,.nl,.nl,.nl]⟩,some ⟨81,[.iv x1.DK.DI.ID,.iv x1.DK.DI.PH,.osl 0,.iv x1.DK.TH,.osl 1,.iv x1.Book.Last,.osl 5,.osl 2,.osl 3,.osl 4,.nl,.nl,.iv x11]⟩],[Sq6 x3.1,Sq7 x3.2.1,Sq8 x3.2.2.1,Sq7 x3.2.2.2.1,Sq8 x3.2.2.2.2.1,Sq9 x3.2.2.2.2.2]⟩:St)) (Zbl x1 x2 x3 x5 x6) r ?_ fun J3=>?_
     ·intro x11 h;rw [Zbl] at h;(try dsimp only);refine Zv2 5 ?_;dsimp only[go_sem];refine An ?_;have ⟨x12,ex12,h⟩:=Bs h;refine Z77 [3] [0,1,5,2,3,4] 4 6 (Z4c (decide (x5<0)) 183 x1.DK.DI.ID x1.DK.DI.PH x1.DK.TH x1.Book.Last x11 x3.1 x3.2.1 x3.2.2.2.2.2 x3.2.2.1 x3.2.2.2.1 x3.2.2.2.2.1 _ ex12) ?_;dsimp only[go_sem];refine Zv2 6 ?_;dsimp only[go_sem];refine An ?_;have ⟨x13,ex13,h⟩:=Bs h
      refine Z77 [3] [0,1,5,2,3,4] 4 6 (Z4c (decide (x6<65535)) 186 x1.DK.DI.ID x1.DK.DI.PH x1.DK.TH x1.Book.Last x12.2 x3.1 x3.2.1 x3.2.2.2.2.2 x3.2.2.1 x3.2.2.2.1 x3.2.2.2.2.1 _ ex13) ?_;dsimp only[go_sem];refine Zv2 1 ?_;dsimp only[go_sem];refine An (MI h (fun h=>?_) fun h=>?_)
      ·refine Zv2 7 ?_;dsimp only[go_sem];refine An ?_;have ⟨x14,ex14,h⟩:=Bs h;refine Z77 [3] [0,1,5,2,3,4] 4 6 (Zoi (Side.mk x2.Peer (wr (x6+1)) 1 true true false true false) x1.DK.DI.ID x1.DK.DI.PH x1.DK.TH x1.Book.Last x13.2 x3.1 x3.2.1 x3.2.2.2.2.2 x3.2.2.1 x3.2.2.2.1 x3.2.2.2.2.1 _ ex14) ?_;dsimp only[go_sem];refine Zv2 1 ?_;dsimp only[go_sem];refine An (Z27 5 ?_);dsimp only[go_sem]
       refine Z37 3 11 57 5 ?_;dsimp only[go_sem];refine Z17 10 6 (Z17 7 0 (Z17 9 2 ?_));dsimp only[go_sem];exact Zy4 J2 (s:=(x1.DK.DI.ID,x1.DK.DI.PH,x1.DK.TH,x1.Book.Last,x3.2.2.2.2.2,x13.2,x14.1,x3.2.1,x14.2,([]:List Event))) h
      ·refine Zv2 1 ?_;dsimp only[go_sem];refine An (Z27 5 ?_);dsimp only[go_sem];refine Z37 3 11 57 5 ?_;dsimp only[go_sem];exact Zy4 J2 (s:=(x1.DK.DI.ID,x1.DK.DI.PH,x1.DK.TH,x1.Book.Last,x3.2.2.2.2.2,x13.2,x3.1,x3.2.1,x3.2.2.1,([]:List Event))) h
     ·refine MC 52 h (fun h=>?_) fun h=>?_
      ·dsimp only[go_sem];refine Zv2 4 ?_;dsimp only[go_sem];refine An ?_;have ⟨x9,ex9,h⟩:=Bs h;refine Z77 [3] [0,1,5,2,3,4] 4 6 (Z4c (decide (x2.Peer<64)) 182 x1.DK.DI.ID x1.DK.DI.PH x1.DK.TH x1.Book.Last x4 x3.1 x3.2.1 x3.2.2.2.2.2 x3.2.2.1 x3.2.2.2.1 x3.2.2.2.2.1 _ ex9) ?_;dsimp only[go_sem];refine Zv2 1 ?_;dsimp only[go_sem];refine An ?_;exact Zy4 J3 (s:=x9.2) h
      ·dsimp only[go_sem];refine Zv2 4 ?_;dsimp only[go_sem];refine An ?_;have ⟨x10,ex10,h⟩:=Bs h;refine Z77 [3] [0,1,5,2,3,4] 4 6 (Z8c 182 x1.DK.DI.ID x1.DK.DI.PH x1.DK.TH x1.Book.Last x4 x3.1 x3.2.1 x3.2.2.2.2.2 x3.2.2.1 x3.2.2.2.1 x3.2.2.2.2.1 _ ex10) ?_;dsimp only[go_sem];refine Zv2 1 ?_;dsimp only[go_sem];refine An ?_;exact Zy4 J3 (s:=x10.2) h
    ·refine Zv2 5 ?_;dsimp only[go_sem];refine An (MI h (fun h=>?_) fun h=>?_)
     ·refine Zv2 11 ?_;dsimp only[go_sem];refine An ?_
      refine Zo4 (fun (x17:Int)=>(⟨an 3 (.ptr 1 0 :: .ptr 2 0::an 3 (.ptr 3 0 :: .iv x5::an 108 [])),[none,some ⟨38,Do.row x2⟩,some ⟨35,[.iv 0,.iv 0,.nl,.iv 0,.nl,.iv 0,.nl,.nl,.nl,.nl]⟩,some ⟨81,[.iv x1.DK.DI.ID,.iv x1.DK.DI.PH,.osl 0,.iv x1.DK.TH,.osl 1,.iv x1.Book.Last,.osl 5,.osl 2,.osl 3,.osl 4,.nl,.nl,.iv x17]⟩],[Sq6 x3.1,Sq7 x3.2.1,Sq8 x3.2.2.1,Sq7 x3.2.2.2.1,Sq8 x3.2.2.2.2.1,Sq9 x3.2.2.2.2.2]⟩:St)) (Zdl x1 x2 x3 x5) r ?_ fun J4=>?_
      ·intro x17 h;rw [Zdl] at h;(try dsimp only);refine Zv2 5 ?_;dsimp only[go_sem];refine An ?_;have ⟨x18,ex18,h⟩:=Bs h;refine Z77 [3] [0,1,5,2,3,4] 4 6 (Z4c (decide (0≤x5)) 184 x1.DK.DI.ID x1.DK.DI.PH x1.DK.TH x1.Book.Last x17 x3.1 x3.2.1 x3.2.2.2.2.2 x3.2.2.1 x3.2.2.2.1 x3.2.2.2.2.1 _ ex18) ?_;dsimp only[go_sem];refine Zv2 1 ?_;dsimp only[go_sem];refine An ?_
       refine Zo4 (fun ((x22,x23):(Bool×Int))=>(⟨an 3 (.ptr 1 0 :: .ptr 2 0::an 3 (.ptr 3 0::an 98 (.bv x22::an 10 []))),[none,some ⟨38,Do.row x2⟩,some ⟨35,[.iv 0,.iv 0,.nl,.iv 0,.nl,.iv 0,.nl,.nl,.nl,.nl]⟩,some ⟨81,[.iv x1.DK.DI.ID,.iv x1.DK.DI.PH,.osl 0,.iv x1.DK.TH,.osl 1,.iv x1.Book.Last,.osl 5,.osl 2,.osl 3,.osl 4,.nl,.nl,.iv x23]⟩],[Sq6 x3.1,Sq7 x3.2.1,Sq8 x3.2.2.1,Sq7 x3.2.2.2.1,Sq8 x3.2.2.2.2.1,Sq9 x3.2.2.2.2.2]⟩:St)) (Zcl x1 x2 x3) r ?_ fun J5=>?_
       ·rintro ⟨x22,x23⟩ h;rw [Zcl] at h;(try dsimp only);refine MI h (fun h=>?_) fun h=>?_
        ·refine Zv2 4 ?_;dsimp only[go_sem];refine An ?_;have ⟨x24,ex24,h⟩:=Bs h;refine Z77 [3] [0,1,5,2,3,4] 4 6 (Zek x2.Peer x1.DK.DI.ID x1.DK.DI.PH x1.DK.TH x1.Book.Last x23 x3.1 x3.2.1 x3.2.2.2.2.2 x3.2.2.1 x3.2.2.2.1 x3.2.2.2.2.1 _ ex24) ?_;dsimp only[go_sem];refine Zv2 1 ?_;dsimp only[go_sem];refine An (Z17 7 6 (Z17 8 0 ?_));dsimp only[go_sem]
         refine Z17 9 1 ?_;dsimp only[go_sem];exact Zy4 J2 (s:=(x24.1,x24.2.1,x24.2.2.1,x24.2.2.2.1,x24.2.2.2.2.1,x23,x24.2.2.2.2.2.2.1,x24.2.2.2.2.2.2.2,x3.2.2.1,x24.2.2.2.2.2.1)) h
        ·refine Zv2 1 ?_;dsimp only[go_sem];refine An (Z27 5 ?_);dsimp only[go_sem];refine Z37 3 11 57 5 ?_;dsimp only[go_sem];exact Zy4 J2 (s:=(x1.DK.DI.ID,x1.DK.DI.PH,x1.DK.TH,x1.Book.Last,x3.2.2.2.2.2,x23,x3.1,x3.2.1,x3.2.2.1,([]:List Event))) h
       ·refine MC 93 h (fun h=>?_) fun h=>?_
        ·dsimp only[go_sem];refine Zv2 9 ?_;dsimp only[go_sem];refine An ?_;have ⟨x19,ex19,h⟩:=Bs h;refine Ze5 Side.row ex19 trivial rfl rfl rfl (Zh5 Side.row ex19 trivial rfl rfl rfl ?_);have ⟨x20,ex20,h⟩:=Bs h;refine VC (Z39 x19 _ ex20) ?_;have ⟨x21,ex21,h⟩:=Bs h
         refine Z77 [3] [0,1,5,2,3,4] 4 6 (Z4c x20 185 x1.DK.DI.ID x1.DK.DI.PH x1.DK.TH x1.Book.Last x18.2 x3.1 x3.2.1 x3.2.2.2.2.2 x3.2.2.1 x3.2.2.2.1 x3.2.2.2.2.1 _ ex21) ?_;dsimp only[go_sem];refine Zv2 2 ?_;dsimp only[go_sem];refine An ?_;exact Zy4 J5 (s:=(x21.1,x21.2)) h
        ·dsimp only[go_sem];refine Zv2 15 ?_;dsimp only[go_sem];refine An ?_;exact Zy4 J5 (s:=(false,x18.2)) h
      ·refine MC 83 h (fun h=>?_) fun h=>?_
       ·dsimp only[go_sem];refine Zv2 4 ?_;dsimp only[go_sem];refine An ?_;have ⟨x15,ex15,h⟩:=Bs h;refine Z77 [3] [0,1,5,2,3,4] 4 6 (Z4c (decide (x2.Peer<64)) 182 x1.DK.DI.ID x1.DK.DI.PH x1.DK.TH x1.Book.Last x4 x3.1 x3.2.1 x3.2.2.2.2.2 x3.2.2.1 x3.2.2.2.1 x3.2.2.2.2.1 _ ex15) ?_;dsimp only[go_sem];refine Zv2 1 ?_;dsimp only[go_sem];refine An ?_;exact Zy4 J4 (s:=x15.2) h
       ·dsimp only[go_sem];refine Zv2 4 ?_;dsimp only[go_sem];refine An ?_;have ⟨x16,ex16,h⟩:=Bs h;refine Z77 [3] [0,1,5,2,3,4] 4 6 (Z8c 182 x1.DK.DI.ID x1.DK.DI.PH x1.DK.TH x1.Book.Last x4 x3.1 x3.2.1 x3.2.2.2.2.2 x3.2.2.1 x3.2.2.2.1 x3.2.2.2.2.1 _ ex16) ?_;dsimp only[go_sem];refine Zv2 1 ?_;dsimp only[go_sem];refine An ?_;exact Zy4 J4 (s:=x16.2) h
     ·refine Zv2 2 ?_;dsimp only[go_sem];refine An ?_;have ⟨x25,ex25,h⟩:=Bs h;refine Z77 [3] [0,1,5,2,3,4] 4 6 (Z8c 188 x1.DK.DI.ID x1.DK.DI.PH x1.DK.TH x1.Book.Last x4 x3.1 x3.2.1 x3.2.2.2.2.2 x3.2.2.1 x3.2.2.2.1 x3.2.2.2.2.1 _ ex25) ?_;dsimp only[go_sem];refine Zv2 1 ?_;dsimp only[go_sem];refine An (Z27 5 ?_);dsimp only[go_sem];refine Z37 3 11 57 5 ?_;dsimp only[go_sem]
      exact Zy4 J2 (s:=(x1.DK.DI.ID,x1.DK.DI.PH,x1.DK.TH,x1.Book.Last,x3.2.2.2.2.2,x25.2,x3.1,x3.2.1,x3.2.2.1,([]:List Event))) h
 ·refine MI h (fun h=>?_) fun h=>?_
  ·refine Zv2 1 ?_;dsimp only[go_sem];refine An ?_;exact Zy4 J1 (s:=decide (x2.Kind=0)) h
  ·refine Zv2 5 ?_;dsimp only[go_sem];refine An (MI h (fun h=>?_) fun h=>?_)
   ·refine Zv2 1 ?_;dsimp only[go_sem];refine An ?_;exact Zy4 J1 (s:=decide (x2.Kind=1)) h
   ·refine Zv2 5 ?_;dsimp only[go_sem];refine An (MI h (fun h=>?_) fun h=>?_)
    ·refine Zv2 1 ?_;dsimp only[go_sem];refine An ?_;exact Zy4 J1 (s:=decide (x2.Kind=2)) h
    ·refine Zv2 4 ?_;dsimp only[go_sem];refine An ?_;exact Zy4 J1 (s:=decide (x2.Kind=3)) h
end
end NX
end Go.Proofs.YtdjkbodnjhgbcaaGreat
