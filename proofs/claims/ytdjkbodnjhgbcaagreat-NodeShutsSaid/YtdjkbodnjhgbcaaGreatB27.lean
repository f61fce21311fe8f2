/-
  The function narthex/drink.Get, lent own memory. Written by a program of ours (lb.py). No statement of the seat is proved here.
-/
import Derived.Test.YtdjkbodnjhgbcaaGreatB26
set_option maxRecDepth 100000
set_option maxHeartbeats 4000000
namespace Go.Proofs.YtdjkbodnjhgbcaaGreat
namespace NX
open Go
noncomputable section
def Zxj (x1 x2:Int) (x3 x4:Int) (x5:Msg) (x9:(List Side×List Int)) (x10:Int):Bool→Option (Int×Int×Int×Int×List Side×List Int)
| x11=>
 ifb x11 (
 (Z8j x1 x2 x4 x5 x9.1).bind fun x12=>
 ifb (!decide (x12.2.2.1=0)) (
 some (0,0,0,x12.2.2.1,([]:List Side),([]:List Int))) (
 some (x12.1,x12.2.1,x3,0,x12.2.2.2,x9.2))) (
 (at_ x9.1 x10).bind fun x13=>
 ifb (decide (x5.Kind=4)) (
 ifb x13.Ask (
 some (0,0,0,132,([]:List Side),([]:List Int))) (
 some (x1,x2,x3,0,x9.1.set (Int.toNat (x10)) (Side.mk x13.Peer x13.Epoch x13.State x13.Fork x13.DY x13.Token x13.BO true),x9.2))) (
 ifb x13.BO (
 some (0,0,0,132,([]:List Side),([]:List Int))) (
 some (x1,x2,x3,0,x9.1.set (Int.toNat (x10)) (Side.mk x13.Peer x13.Epoch x13.State x13.Fork x13.DY x13.Token true x13.Ask),x9.2))))
def Zyj (x1 x2:Int) (x3 x4:Int) (x5:Msg) (x6:List Side) (x7:List Int):Option (Int×Int×Int×Int×List Side×List Int):=
 (Zwh (DK.mk (DI.mk x1 x2 x6) x3 x7)).bind fun x8=>
 ifb (!decide (x8=0)) (
 some (0,0,0,x8,([]:List Side),([]:List Int))) (
 (Zhe x1 x2 x3 x6 x7).bind fun x9=>
 (Zf7 x9.1 ((fun z=>Z7a z x4 x5))).bind fun x10=>
 ifb (decide (x10<0)) (
 (Zxj x1 x2 x3 x4 x5 x9 x10) true) (
 ifb (!decide (x5.Num=0)) (
 (Zxj x1 x2 x3 x4 x5 x9 x10) true) (
 ifb (!decide (x5.Kind=3)) (
 (Zxj x1 x2 x3 x4 x5 x9 x10) (!decide (x5.Kind=4))) (
 (Zxj x1 x2 x3 x4 x5 x9 x10) false))))
theorem Zzj (x1 x2:Int) (x3 x4:Int) (x5:Msg) (x6:List Side) (x7:List Int) (r:(Int×Int×Int×Int×List Side×List Int)) (h:Zyj x1 x2 x3 x4 x5 x6 x7=some r):Zr5 Tryz.prog 87 [.agg [.iv x1,.iv x2,.osl 0,.iv x3,.osl 1],.iv x4,.agg (Msg.row x5)] [] [Sq6 x6,Sq7 x7] (.tup [.agg [.iv r.1,.iv r.2.1,.osl 2,.iv r.2.2.1,.osl 3],.iv r.2.2.2.1]) [] [Sq6 x6,Sq7 x7,Sq6 r.2.2.2.2.1,Sq7 r.2.2.2.2.2]:=by
 refine FT ok87 fun w0 M0=>?_
 rw [Zyj] at h
 dsimp only[lun,List.cons_append,List.nil_append]
 refine Zv2 12 ?_;dsimp only[go_sem];refine An ?_;have ⟨x8,ex8,h⟩:=Bs h;refine VL ((LR.slice 0 rfl).slice 1 rfl) (Zxh (DK.mk (DI.mk x1 x2 x6) x3 x7) _ ex8) (Zv2 7 ?_);dsimp only[go_sem];refine An (MI h (fun h=>?_) fun h=>?_)
 ·refine Zv2 7 ?_;dsimp only[go_sem];refine An (Z37 3 2 65 8 ?_);dsimp only[go_sem];refine Z37 3 4 3 1 ?_;dsimp only[go_sem];obtain rfl:=Option.some.inj h;exact Z57 ok87
 ·refine Zv2 4 ?_;dsimp only[go_sem];refine An ?_;have ⟨x9,ex9,h⟩:=Bs h;refine Z77 [] [0,1] 4 2 (Zie x1 x2 x3 x6 x7 _ ex9) ?_;dsimp only[go_sem];refine Zv2 8 ?_;dsimp only[go_sem];refine An ?_;have ⟨x10,ex10,h⟩:=Bs h;refine VL (((LR.slice 2 rfl).block 1 rfl rfl).block 2 rfl rfl) (Zg7 x9.1 _ _ ((fun z=>Z7a z x4 x5)) ⟨by kernel_rfl,rfl,fun z r hz=>k_drink_Get_1 z x4 x5 r hz⟩ _ ex10) (Zv2 8 ?_)
  dsimp only[go_sem];refine An (Zo4 (fun (x11:Bool)=>(⟨an 3 (.ptr 0 0 :: .ptr 1 0 :: .ptr 2 0 :: .ptr 3 0 :: .any :: .any :: .iv x10::an 32 (.bv x11::an 37 [])),[some ⟨29,[.iv x1,.iv x2,.osl 2,.iv x3,.osl 3]⟩,some ⟨3,[.iv x4]⟩,some ⟨41,Msg.row x5⟩,some ⟨29,[.iv 0,.iv 0,.nl,.iv 0,.nl]⟩],[Sq6 x6,Sq7 x7,Sq6 x9.1,Sq7 x9.2]⟩:St)) (Zxj x1 x2 x3 x4 x5 x9 x10) r ?_ fun J1=>?_)
  ·intro x11 h;rw [Zxj] at h;(try dsimp only);refine MI h (fun h=>?_) fun h=>?_
   ·refine Zv2 6 ?_;dsimp only[go_sem];refine An ?_;have ⟨x12,ex12,h⟩:=Bs h;refine Z77 [] [2] 4 4 (t_dine_Get_I1 x1 x2 x4 x5 x9.1 _ ex12) ?_;dsimp only[go_sem];refine Zv2 13 ?_;dsimp only[go_sem];refine An (MI h (fun h=>?_) fun h=>?_)
    ·refine Zv2 7 ?_;dsimp only[go_sem];refine An (Z37 3 2 65 8 ?_);dsimp only[go_sem];refine Z37 3 4 3 1 ?_;dsimp only[go_sem];refine Z17 5 2 (Z17 6 3 ?_);dsimp only[go_sem];obtain rfl:=Option.some.inj h;exact Z57 ok87
    ·refine Zv2 13 ?_;dsimp only[go_sem];refine An (Z17 4 2 ?_);dsimp only[go_sem];obtain rfl:=Option.some.inj h;exact Z57 ok87
   ·refine Zv2 7 ?_;dsimp only[go_sem];refine An ?_;have ⟨x13,ex13,h⟩:=Bs h;refine Ze5 Side.row ex13 trivial rfl rfl rfl (Zv2 10 ?_);dsimp only[go_sem];refine An (MI h (fun h=>?_) fun h=>?_)
    ·refine Zv2 5 ?_;dsimp only[go_sem];refine An (Ze5 Side.row ex13 trivial rfl rfl rfl (Zv2 8 ?_));dsimp only[go_sem];refine An (Zg5 Side.row ex13 trivial rfl rfl rfl (Zv2 1 ?_));dsimp only[go_sem];refine An (MI h (fun h=>?_) fun h=>?_)
     ·refine Zv2 6 ?_;dsimp only[go_sem];refine An (Z37 3 2 65 8 ?_);dsimp only[go_sem];refine Z37 3 4 3 1 ?_;dsimp only[go_sem];refine Z17 4 2 (Z17 5 3 ?_);dsimp only[go_sem];obtain rfl:=Option.some.inj h;exact Z57 ok87
     ·refine Zv2 5 ?_;dsimp only[go_sem];refine An (Zl5 [.bv true] Side.row (y':=(Side.mk x13.Peer x13.Epoch x13.State x13.Fork x13.DY x13.Token x13.BO true)) ex13 trivial rfl rfl rfl (by first | exact Zi4 _ | simp [go_sem]) rfl rfl rfl rfl (Zv2 7 ?_));dsimp only[go_sem];refine An ?_;obtain rfl:=Option.some.inj h;exact Z57 ok87
    ·refine Zv2 6 ?_;dsimp only[go_sem];refine An (Zg5 Side.row ex13 trivial rfl rfl rfl (Zv2 1 ?_));dsimp only[go_sem];refine An (MI h (fun h=>?_) fun h=>?_)
     ·refine Zv2 6 ?_;dsimp only[go_sem];refine An (Z37 3 2 65 8 ?_);dsimp only[go_sem];refine Z37 3 4 3 1 ?_;dsimp only[go_sem];refine Z17 4 2 (Z17 5 3 ?_);dsimp only[go_sem];obtain rfl:=Option.some.inj h;exact Z57 ok87
     ·refine Zv2 5 ?_;dsimp only[go_sem];refine An (Zl5 [.bv true] Side.row (y':=(Side.mk x13.Peer x13.Epoch x13.State x13.Fork x13.DY x13.Token true x13.Ask)) ex13 trivial rfl rfl rfl (by first | exact Zi4 _ | simp [go_sem]) rfl rfl rfl rfl (Zv2 7 ?_));dsimp only[go_sem];refine An ?_;obtain rfl:=Option.some.inj h;exact Z57 ok87
  ·refine MC 28 h (fun h=>?_) fun h=>?_
   ·dsimp only[go_sem];refine Zv2 15 ?_;dsimp only[go_sem];refine An ?_;exact Zy4 J1 (s:=true) h
   ·dsimp only[go_sem];refine Zv2 5 ?_;dsimp only[go_sem];refine An (MC 33 h (fun h=>?_) fun h=>?_)
    ·dsimp only[go_sem];refine Zv2 10 ?_;dsimp only[go_sem];refine An ?_;exact Zy4 J1 (s:=true) h
    ·dsimp only[go_sem];refine Zv2 4 ?_;dsimp only[go_sem];refine An (MC 37 h (fun h=>?_) fun h=>?_)
     ·dsimp only[go_sem];refine Zv2 6 ?_;dsimp only[go_sem];refine An ?_;exact Zy4 J1 (s:=!decide (x5.Kind=4)) h
     ·dsimp only[go_sem];refine Zv2 6 ?_;dsimp only[go_sem];refine An ?_;exact Zy4 J1 (s:=false) h
def Z0k:(Int×Int×Int×Int×List Sess×Int×List Event×List Side×List Int)→Option (Int×Int×Int×Int×List Sess×Int×List Event×List Side×List Int)
| (x44,x45,x46,x47,x48,x49,x50,x51,x52)=>
 some (x44,x45,x46,x47,x48,x49,x50,x51,x52)
def Z1k (x1:Do) (x2:Int) (x3 x4 x5:Int) (x7:List Side) (x8:List Int) (x9:List Sess) (x16:Book):(Bool×Int)→Option (Int×Int×Int×Int×List Sess×Int×List Event×List Side×List Int)
| (x21,x22)=>
 ifb x21 (
 (Zza x1.Need).bind fun x23=>
 (Zj4 56 [] ([Event.mk 0 x2 x1.ID 0 x23])).bind fun x24=>
 Z0k (x2,x3,x4,x16.Last,x16.Sess,x22,x24,x7,x8)) (
 Z0k (x2,x3,x4,x5,x9,x22,([]:List Event),x7,x8))
def Z2k (x1:Do) (x2:Int) (x3 x4:Int) (x5 x6:Int) (x7:List Side) (x8:List Int) (x9:List Sess) (x10:List KE) (x11:List Int) (x12:List KE):(Int×Book)→Option (Int×Int×Int×Int×List Sess×Int×List Event×List Side×List Int)
| (x15,x16)=>
 (Zob (decide (x15=0)) x15 x2 x3 x4 x5 x9 x6 x7 x8 x10 x11 x12).bind fun x17=>
 ifb x17.1 (
 (Zbe x2 x3 x4 x5 x9 x7 x8 x10 x11 x12).bind fun x18=>
 (Zmh x1.Need x18).bind fun x19=>
 (Zob x19 181 x2 x3 x4 x5 x9 x17.2 x7 x8 x10 x11 x12).bind fun x20=>
 (Z1k x1 x2 x3 x4 x5 x7 x8 x9 x16) (x20.1,x20.2)) (
 (Z1k x1 x2 x3 x4 x5 x7 x8 x9 x16) (false,x17.2))
def Z3k (x2 x3 x4:Int) (x7:List Side) (x8:List Int) (x10:List KE) (x11:List Int) (x12:List KE) (x31:(Bool×Int×List Sess×Int)) (x32:List Event):Bool→Option (Int×Int×Int×Int×List Sess×Int×List Event×List Side×List Int)
| x33=>
 ifb x33 (
 (Ztj x2 x3 x4 x31.2.1 x31.2.2.1 x31.2.2.2 x7 x8 x10 x11 x12 x32).bind fun x34=>
 Z0k (x34.1,x34.2.1,x34.2.2.1,x31.2.1,x31.2.2.1,x31.2.2.2,x32,x34.2.2.2.1,x34.2.2.2.2)) (
 Z0k (x2,x3,x4,x31.2.1,x31.2.2.1,x31.2.2.2,x32,x7,x8))
def Z4k (x2 x3 x4:Int) (x7:List Side) (x8:List Int) (x10:List KE) (x11:List Int) (x12:List KE) (x37:Int) (x40:(Bool×Int×List Sess×Int)):Bool→Option (Int×Int×Int×Int×List Sess×Int×List Event×List Side×List Int)
| x41=>
 ifb x41 (
 (Zvb 4 x37 x2 x3 x4 x40.2.1 x40.2.2.1 x40.2.2.2 x7 x8 x10 x11 x12).bind fun x42=>
 (Ztj x2 x3 x4 x40.2.1 x40.2.2.1 x40.2.2.2 x7 x8 x10 x11 x12 x42).bind fun x43=>
 Z0k (x43.1,x43.2.1,x43.2.2.1,x40.2.1,x40.2.2.1,x40.2.2.2,x42,x43.2.2.2.1,x43.2.2.2.2)) (
 Z0k (x2,x3,x4,x40.2.1,x40.2.2.1,x40.2.2.2,([]:List Event),x7,x8))
def Z5k (x2 x3:Int) (x4 x5 x6:Int) (x7:List Side) (x8:List Int) (x9:List Sess) (x10:List KE) (x11:List Int) (x12:List KE):(Int×Int×Book)→Option (Int×Int×Int×Int×List Sess×Int×List Event×List Side×List Int)
| (x37,x38,x39)=>
 (Zee x39 x38 x2 x3 x4 x5 x9 x6 x7 x8 x10 x11 x12).bind fun x40=>
 ifb x40.1 (
 (Z4k x2 x3 x4 x7 x8 x10 x11 x12 x37 x40) (!decide (x37=0))) (
 (Z4k x2 x3 x4 x7 x8 x10 x11 x12 x37 x40) false)
def Z6k (x1:Do) (x2:Int) (x3 x4:Int) (x5 x6:Int) (x7:List Side) (x8:List Int) (x9:List Sess) (x10:List KE) (x11:List Int) (x12:List KE):Option (Int×Int×Int×Int×List Sess×Int×List Event×List Side×List Int):=
 ifb (decide (x1.Kind=0)) (
 (Zeg (Book.mk x5 x9) x1.ID x1.Need).bind fun x13=>
 (Z2k x1 x2 x3 x4 x5 x6 x7 x8 x9 x10 x11 x12) (x13.2,x13.1)) (
 ifb (decide (x1.Kind=1)) (
 (Z8i (Book.mk x5 x9) x1.ID).bind fun x25=>
 (Zee x25.1 x25.2 x2 x3 x4 x5 x9 x6 x7 x8 x10 x11 x12).bind fun x26=>
 ifb x26.1 (
 (Zvb 2 x1.ID x2 x3 x4 x26.2.1 x26.2.2.1 x26.2.2.2 x7 x8 x10 x11 x12).bind fun x27=>
 (Ztj x2 x3 x4 x26.2.1 x26.2.2.1 x26.2.2.2 x7 x8 x10 x11 x12 x27).bind fun x28=>
 Z0k (x28.1,x28.2.1,x28.2.2.1,x26.2.1,x26.2.2.1,x26.2.2.2,x27,x28.2.2.2.1,x28.2.2.2.2)) (
 Z0k (x2,x3,x4,x26.2.1,x26.2.2.1,x26.2.2.2,([]:List Event),x7,x8))) (
 ifb (decide (x1.Kind=2)) (
 (Zzb x2 x3 x4 x5 x7 x8 x9 x10 x11 x12).bind fun x29=>
 (Zai (Book.mk x5 x9) x1.ID).bind fun x30=>
 (Zee x30.1 x30.2 x2 x3 x4 x5 x9 x6 x7 x8 x10 x11 x12).bind fun x31=>
 ifb x31.1 (
 (Zvb 3 x1.ID x2 x3 x4 x31.2.1 x31.2.2.1 x31.2.2.2 x7 x8 x10 x11 x12).bind fun x32=>
 ifb (decide (x29.1.ID=x1.ID)) (
 (Z3k x2 x3 x4 x7 x8 x10 x11 x12 x31 x32) (decide (x4=1))) (
 (Z3k x2 x3 x4 x7 x8 x10 x11 x12 x31 x32) false)) (
 Z0k (x2,x3,x4,x31.2.1,x31.2.2.1,x31.2.2.2,([]:List Event),x7,x8))) (
 ifb (decide (x1.Kind=3)) (
 (Zpg (Book.mk x5 x9) x1.Hold).bind fun x35=>
 (Z5k x2 x3 x4 x5 x6 x7 x8 x9 x10 x11 x12) (x35.2.1,x35.2.2,x35.1)) (
 Z0k (x2,x3,x4,x5,x9,x6,([]:List Event),x7,x8)))))
theorem Z7k (x1:Do) (x2:Int) (x3 x4:Int) (x5 x6:Int) (x7:List Side) (x8:List Int) (x9:List Sess) (x10:List KE) (x11:List Int) (x12:List KE) (r:(Int×Int×Int×Int×List Sess×Int×List Event×List Side×List Int)) (h:Z6k x1 x2 x3 x4 x5 x6 x7 x8 x9 x10 x11 x12=some r):Zr5 Tryz.prog 32 [.ptr 0 0,.agg (Do.row x1)] [some ⟨81,[.iv x2,.iv x3,.osl 0,.iv x4,.osl 1,.iv x5,.osl 2,.osl 3,.osl 4,.osl 5,.nl,.nl,.iv x6]⟩] [Sq6 x7,Sq7 x8,Sq9 x9,Sq8 x10,Sq7 x11,Sq8 x12] (.tup []) [some ⟨81,[.iv r.1,.iv r.2.1,.osl 8,.iv r.2.2.1,.osl 9,.iv r.2.2.2.1,Sp3 r.2.2.2.2.1,.osl 3,.osl 4,.osl 5,.nl,.osl 6,.iv r.2.2.2.2.2.1]⟩] [none,none,none,Sq8 x10,Sq7 x11,Sq8 x12,Za7 r.2.2.2.2.2.2.1,none,Sq6 r.2.2.2.2.2.2.2.1,Sq7 r.2.2.2.2.2.2.2.2]:=by
 refine FT ok32 fun w0 M0=>?_
 rw [Z6k] at h
 dsimp only[lun,List.cons_append,List.nil_append]
 refine Zv2 15 ?_;dsimp only[go_sem];refine An ?_
 refine Zo4 (fun ((x44,x45,x46,x47,x48,x49,x50,x51,x52):(Int×Int×Int×Int×List Sess×Int×List Event×List Side×List Int))=>(⟨an 161 [],[some ⟨81,[.iv x44,.iv x45,.osl 8,.iv x46,.osl 9,.iv x47,Sp3 x48,.osl 3,.osl 4,.osl 5,.nl,.osl 6,.iv x49]⟩],[none,none,none,Sq8 x10,Sq7 x11,Sq8 x12,Za7 x50,none,Sq6 x51,Sq7 x52]⟩:St)) Z0k r ?_ fun J1=>?_
 ·rintro ⟨x44,x45,x46,x47,x48,x49,x50,x51,x52⟩ h;rw [Z0k] at h;(try dsimp only);refine Zv2 1 ?_;dsimp only[go_sem];refine An ?_;obtain rfl:=Option.some.inj h;exact Z67 ok32
 ·refine MI h (fun h=>?_) fun h=>?_
  ·refine Zv2 1 ?_;dsimp only[go_sem];refine An (Z27 2 ?_);dsimp only[go_sem]
   refine Zo4 (fun ((x15,x16):(Int×Book))=>(⟨(.ptr 0 0 :: .any :: .any :: .ptr 1 0 :: .ptr 2 0 :: .iv x15::an 155 []),[some ⟨81,[.iv x2,.iv x3,.osl 0,.iv x4,.osl 1,.iv x5,Sp3 x9,.osl 3,.osl 4,.osl 5,.nl,.nl,.iv x6]⟩,some ⟨38,Do.row x1⟩,some ⟨32,Book.row x16⟩],[Sq6 x7,Sq7 x8,none,Sq8 x10,Sq7 x11,Sq8 x12]⟩:St)) (Z2k x1 x2 x3 x4 x5 x6 x7 x8 x9 x10 x11 x12) r ?_ fun J2=>?_
   ·rintro ⟨x15,x16⟩ h;rw [Z2k] at h;(try dsimp only);refine Zv2 1 ?_;dsimp only[go_sem];refine An ?_
    refine Zo4 (fun ((x21,x22):(Bool×Int))=>(⟨(.ptr 0 0 :: .any :: .any :: .ptr 1 0 :: .ptr 2 0::an 39 (.bv x21::an 116 [])),[some ⟨81,[.iv x2,.iv x3,.osl 0,.iv x4,.osl 1,.iv x5,Sp3 x9,.osl 3,.osl 4,.osl 5,.nl,.nl,.iv x22]⟩,some ⟨38,Do.row x1⟩,some ⟨32,Book.row x16⟩],[Sq6 x7,Sq7 x8,none,Sq8 x10,Sq7 x11,Sq8 x12]⟩:St)) (Z1k x1 x2 x3 x4 x5 x7 x8 x9 x16) r ?_ fun J3=>?_
    ·rintro ⟨x21,x22⟩ h;rw [Z1k] at h;(try dsimp only);refine MI h (fun h=>?_) fun h=>?_
     ·refine Zv2 9 ?_;dsimp only[go_sem];refine An (Z07 fun all H=>?_);dsimp only[go_sem];refine GP H 16 7 [16,7] [(50,[.ptr 0 0,.ptr 0 0,.ptr 0 0,.ptr 0 11,.nl,.ptr 0 0,.ptr 0 0,.ptr 0 0,.ptr 0 0,.ptr 0 0,.ptr 0 0,.iv x2,.ptr 1 1,.iv x1.ID,.ptr 1 4,Sp0 x1.Need])] ?_;dsimp only[go_sem];refine Z64 16 rfl ?_;have ⟨x23,ex23,h⟩:=Bs h;refine GC H.1 (k_set_Of x1.Need _ ex23) ?_;dsimp only[go_sem];refine GN H 1 5 ?_
      dsimp only[go_sem];refine An (GE H.1 18 ?_);dsimp only[go_sem];refine Z64 19 rfl ?_;have ⟨x24,ex24,h⟩:=Bs h;refine Zv4 Event.row ex24 H.1 rfl trivial rfl rfl ?_;dsimp only[go_sem];refine GN H 2 1 ?_;dsimp only[go_sem];refine An (GE H.1 22 ?_);dsimp only[go_sem];refine GD (Z17 7 6 ?_);dsimp only[go_sem];refine Z47 65 8 ?_;dsimp only[go_sem];refine Z17 0 8 ?_;dsimp only[go_sem]
      refine Z47 3 1 ?_;dsimp only[go_sem];refine Z17 1 9 ?_;dsimp only[go_sem];exact Zy4 J1 (s:=(x2,x3,x4,x16.Last,x16.Sess,x22,x24,x7,x8)) h
     ·refine Zv2 1 ?_;dsimp only[go_sem];refine An (Z37 0 11 57 5 ?_);dsimp only[go_sem];refine Z47 65 8 ?_;dsimp only[go_sem];refine Z47 65 8 ?_;dsimp only[go_sem];refine Z17 0 8 ?_;dsimp only[go_sem];refine Z47 3 1 ?_;dsimp only[go_sem];refine Z17 1 9 ?_;dsimp only[go_sem];exact Zy4 J1 (s:=(x2,x3,x4,x5,x9,x22,([]:List Event),x7,x8)) h
    ·refine Z07 fun all H=>?_;dsimp only[go_sem];refine GP H 4 13 [4,13] [(28,[.ptr 0 0,.iv x15,.bv (decide (x15=0)),.iv x15])] ?_;dsimp only[go_sem];refine Z64 4 rfl ?_;have ⟨x17,ex17,h⟩:=Bs h;refine Z97 H.1 [0] [0,1,3,4,5] 3 6 (Zpb (decide (x15=0)) x15 x2 x3 x4 x5 x9 x6 x7 x8 x10 x11 x12 _ ex17) ?_;dsimp only[go_sem];refine GN H 1 11 ?_
     dsimp only[go_sem];refine An (Z35 33 h rfl (fun _ h=>?_) fun _ h=>?_)
     ·dsimp only[go_sem];refine GP H 6 5 [12,5] [(34,[.ptr 0 0,.ptr 1 4,Sp0 x1.Need,.ptr 0 0,.ptr 0 0,.ptr 0 0])] ?_;dsimp only[go_sem];refine GE H.1 12 ?_;dsimp only[go_sem];refine Z64 13 rfl ?_;have ⟨x18,ex18,h⟩:=Bs h;refine Z87 H.1 [] [0,1,3,4,5] 3 6 (Zce x2 x3 x4 x5 x9 x7 x8 x10 x11 x12 _ ex18) ?_;dsimp only[go_sem];refine Z64 14 rfl ?_
      have ⟨x19,ex19,h⟩:=Bs h;refine GK H.1 (LR.slice 6 rfl) (Znh x1.Need x18 _ ex19) ?_;dsimp only[go_sem];refine Z64 15 rfl ?_;have ⟨x20,ex20,h⟩:=Bs h;refine Z97 H.1 [0] [0,1,3,4,5] 3 7 (Zpb x19 181 x2 x3 x4 x5 x9 x17.2 x7 x8 x10 x11 x12 _ ex20) ?_;dsimp only[go_sem];refine GN H 1 0 ?_;dsimp only[go_sem];refine An (GD ?_)
      exact Zy4 J3 (s:=(x20.1,x20.2)) h
     ·dsimp only[go_sem];refine GP H 11 0 [17] [(34,[.un,.un,.un,.un,.un,.un,.un,.un,.un,.un,.ff])] ?_;dsimp only[go_sem];refine GD ?_;exact Zy4 J3 (s:=(false,x17.2)) h
   ·refine Z07 fun all H=>?_;dsimp only[go_sem];refine GP H 9 7 [9,7] [(16,[.ptr 0 0,.ptr 0 0,.ptr 0 0,.ptr 0 5,.agg [.iv x5,Sp3 x9],.ptr 1 1,.iv x1.ID,.ptr 1 4,Sp0 x1.Need])] ?_;dsimp only[go_sem];have ⟨x13,ex13,h⟩:=Bs h;refine Z74 9 13 rfl ?_ ?_
    ·refine GC H.1 (Zfg (Book.mk x5 x9) x1.ID x1.Need _ ex13) ?_;dsimp only[go_sem];refine GN H 3 3 ?_;dsimp only[go_sem];refine An (GE H.1 13 ?_);dsimp only[go_sem];refine GE H.1 14 ?_;dsimp only[go_sem];refine GN H 1 0 ?_;dsimp only[go_sem];refine An (GD ?_);exact Zy4 J2 (s:=(x13.2,x13.1)) h
    ·refine GV H.1 ?_;dsimp only[go_sem];refine Z64 9 rfl (GC H.1 (Zfg (Book.mk x5 x9) x1.ID x1.Need _ ex13) ?_);dsimp only[go_sem];refine GN H 3 2 ?_;dsimp only[go_sem];refine An (GE H.1 14 ?_);dsimp only[go_sem];refine GN H 1 0 ?_;dsimp only[go_sem];refine An (GD ?_);exact Zy4 J2 (s:=(x13.2,x13.1)) h
  ·refine Zv2 5 ?_;dsimp only[go_sem];refine An (MI h (fun h=>?_) fun h=>?_)
   ·refine Zv2 1 ?_;dsimp only[go_sem];refine An (Z27 2 ?_);dsimp only[go_sem];refine Z07 fun all H=>?_;dsimp only[go_sem];refine GP H 8 4 [8,4] [(74,[.ptr 0 0,.ptr 0 0,.ptr 0 0,.ptr 0 0,.ptr 0 5,.agg [.iv x5,Sp3 x9],.ptr 1 1,.iv x1.ID])] ?_;dsimp only[go_sem];refine Z64 8 rfl ?_;have ⟨x25,ex25,h⟩:=Bs h;refine GC H.1 (Z9i (Book.mk x5 x9) x1.ID _ ex25) ?_;dsimp only[go_sem];refine GN H 2 1 ?_
    dsimp only[go_sem];refine An (Z64 11 rfl ?_);have ⟨x26,ex26,h⟩:=Bs h;refine Z97 H.1 [0] [0,1,3,4,5] 2 6 (Zfe x25.1 x25.2 x2 x3 x4 x5 x9 x6 x7 x8 x10 x11 x12 _ ex26) ?_;dsimp only[go_sem];refine GD (MI h (fun h=>?_) fun h=>?_)
    ·refine Zv2 5 ?_;dsimp only[go_sem];refine An ?_;have ⟨x27,ex27,h⟩:=Bs h;refine Z77 [0] [0,1,3,4,5] 2 6 (Zwb 2 x1.ID x2 x3 x4 x26.2.1 x26.2.2.1 x26.2.2.2 x7 x8 x10 x11 x12 _ ex27) ?_;dsimp only[go_sem];refine Zv2 3 ?_;dsimp only[go_sem];refine An ?_;have ⟨x28,ex28,h⟩:=Bs h
     refine Z77 [0] [0,1,3,4,5,7] 2 8 (Zuj x2 x3 x4 x26.2.1 x26.2.2.1 x26.2.2.2 x7 x8 x10 x11 x12 x27 _ ex28) ?_;dsimp only[go_sem];refine Zv2 1 ?_;dsimp only[go_sem];refine An (Z17 7 6 ?_);dsimp only[go_sem];exact Zy4 J1 (s:=(x28.1,x28.2.1,x28.2.2.1,x26.2.1,x26.2.2.1,x26.2.2.2,x27,x28.2.2.2.1,x28.2.2.2.2)) h
    ·refine Zv2 1 ?_;dsimp only[go_sem];refine An (Z37 0 11 57 5 ?_);dsimp only[go_sem];refine Z47 65 8 ?_;dsimp only[go_sem];refine Z47 65 8 ?_;dsimp only[go_sem];refine Z17 0 8 ?_;dsimp only[go_sem];refine Z47 3 1 ?_;dsimp only[go_sem];refine Z17 1 9 ?_;dsimp only[go_sem];exact Zy4 J1 (s:=(x2,x3,x4,x26.2.1,x26.2.2.1,x26.2.2.2,([]:List Event),x7,x8)) h
   ·refine Zv2 5 ?_;dsimp only[go_sem];refine An (MI h (fun h=>?_) fun h=>?_)
    ·refine Zv2 6 ?_;dsimp only[go_sem];refine An ?_;have ⟨x29,ex29,h⟩:=Bs h;refine Z77 [] [0,1,2,3,4,5] 2 6 (Z0c x2 x3 x4 x5 x7 x8 x9 x10 x11 x12 _ ex29) ?_;dsimp only[go_sem];refine Zv2 8 ?_;dsimp only[go_sem];refine An (Z27 2 ?_);dsimp only[go_sem];refine Z07 fun all H=>?_;dsimp only[go_sem]
     refine GP H 8 4 [8,4] [(102,[.ptr 0 0,.ptr 0 0,.ptr 0 0,.ptr 0 0,.ptr 0 5,.agg [.iv x5,Sp3 x9],.ptr 1 1,.iv x1.ID])] ?_;dsimp only[go_sem];refine Z64 8 rfl ?_;have ⟨x30,ex30,h⟩:=Bs h;refine GC H.1 (k_sess_Cancel (Book.mk x5 x9) x1.ID _ ex30) ?_;dsimp only[go_sem];refine GN H 2 1 ?_;dsimp only[go_sem];refine An (Z64 11 rfl ?_);have ⟨x31,ex31,h⟩:=Bs h
     refine Z97 H.1 [0] [0,1,3,4,5] 3 6 (Zfe x30.1 x30.2 x2 x3 x4 x5 x9 x6 x7 x8 x10 x11 x12 _ ex31) ?_;dsimp only[go_sem];refine GD (MI h (fun h=>?_) fun h=>?_)
     ·refine Zv2 5 ?_;dsimp only[go_sem];refine An ?_;have ⟨x32,ex32,h⟩:=Bs h;refine Z77 [0] [0,1,3,4,5] 3 6 (Zwb 3 x1.ID x2 x3 x4 x31.2.1 x31.2.2.1 x31.2.2.2 x7 x8 x10 x11 x12 _ ex32) ?_;dsimp only[go_sem];refine Zv2 9 ?_;dsimp only[go_sem];refine An ?_
      refine Zo4 (fun (x33:Bool)=>(⟨(.ptr 0 0::an 130 (.bv x33::an 29 [])),[some ⟨81,[.iv x2,.iv x3,.osl 0,.iv x4,.osl 1,.iv x31.2.1,Sp3 x31.2.2.1,.osl 3,.osl 4,.osl 5,.nl,.osl 7,.iv x31.2.2.2]⟩],[Sq6 x7,Sq7 x8,none,Sq8 x10,Sq7 x11,Sq8 x12,none,Za7 x32]⟩:St)) (Z3k x2 x3 x4 x7 x8 x10 x11 x12 x31 x32) r ?_ fun J4=>?_
      ·intro x33 h;rw [Z3k] at h;(try dsimp only);refine MI h (fun h=>?_) fun h=>?_
       ·refine Zv2 2 ?_;dsimp only[go_sem];refine An ?_;have ⟨x34,ex34,h⟩:=Bs h;refine Z77 [0] [0,1,3,4,5,7] 1 8 (Zuj x2 x3 x4 x31.2.1 x31.2.2.1 x31.2.2.2 x7 x8 x10 x11 x12 x32 _ ex34) ?_;dsimp only[go_sem];refine Zv2 1 ?_;dsimp only[go_sem];refine An (Z17 7 6 ?_);dsimp only[go_sem];exact Zy4 J1 (s:=(x34.1,x34.2.1,x34.2.2.1,x31.2.1,x31.2.2.1,x31.2.2.2,x32,x34.2.2.2.1,x34.2.2.2.2)) h
       ·refine Zv2 1 ?_;dsimp only[go_sem];refine An (Z17 7 6 ?_);dsimp only[go_sem];refine Z47 65 8 ?_;dsimp only[go_sem];refine Z17 0 8 ?_;dsimp only[go_sem];refine Z47 3 1 ?_;dsimp only[go_sem];refine Z17 1 9 ?_;dsimp only[go_sem];exact Zy4 J1 (s:=(x2,x3,x4,x31.2.1,x31.2.2.1,x31.2.2.2,x32,x7,x8)) h
      ·refine MC 123 h (fun h=>?_) fun h=>?_
       ·dsimp only[go_sem];refine Zv2 9 ?_;dsimp only[go_sem];refine An ?_;exact Zy4 J4 (s:=decide (x4=1)) h
       ·dsimp only[go_sem];refine Zv2 9 ?_;dsimp only[go_sem];refine An ?_;exact Zy4 J4 (s:=false) h
     ·refine Zv2 1 ?_;dsimp only[go_sem];refine An (Z37 0 11 57 5 ?_);dsimp only[go_sem];refine Z47 65 8 ?_;dsimp only[go_sem];refine Z47 65 8 ?_;dsimp only[go_sem];refine Z17 0 8 ?_;dsimp only[go_sem];refine Z47 3 1 ?_;dsimp only[go_sem];refine Z17 1 9 ?_;dsimp only[go_sem];exact Zy4 J1 (s:=(x2,x3,x4,x31.2.1,x31.2.2.1,x31.2.2.2,([]:List Event),x7,x8)) h
    ·refine Zv2 5 ?_;dsimp only[go_sem];refine An (MI h (fun h=>?_) fun h=>?_)
     ·refine Zv2 1 ?_;dsimp only[go_sem];refine An (Z27 2 ?_);dsimp only[go_sem]
      refine Zo4 (fun ((x37,x38,x39):(Int×Int×Book))=>(⟨(.ptr 0 0::an 7 (.ptr 2 0 :: .iv x37 :: .iv x38::an 150 [])),[some ⟨81,[.iv x2,.iv x3,.osl 0,.iv x4,.osl 1,.iv x5,Sp3 x9,.osl 3,.osl 4,.osl 5,.nl,.nl,.iv x6]⟩,none,some ⟨32,Book.row x39⟩],[Sq6 x7,Sq7 x8,none,Sq8 x10,Sq7 x11,Sq8 x12]⟩:St)) (Z5k x2 x3 x4 x5 x6 x7 x8 x9 x10 x11 x12) r ?_ fun J5=>?_
      ·rintro ⟨x37,x38,x39⟩ h;rw [Z5k] at h;(try dsimp only);refine Zv2 5 ?_;dsimp only[go_sem];refine An ?_;have ⟨x40,ex40,h⟩:=Bs h;refine Z77 [0] [0,1,3,4,5] 3 6 (Zfe x39 x38 x2 x3 x4 x5 x9 x6 x7 x8 x10 x11 x12 _ ex40) ?_;dsimp only[go_sem];refine Zv2 1 ?_;dsimp only[go_sem];refine An ?_
       refine Zo4 (fun (x41:Bool)=>(⟨(.ptr 0 0::an 8 (.iv x37::an 145 (.bv x41::an 5 []))),[some ⟨81,[.iv x2,.iv x3,.osl 0,.iv x4,.osl 1,.iv x40.2.1,Sp3 x40.2.2.1,.osl 3,.osl 4,.osl 5,.nl,.nl,.iv x40.2.2.2]⟩],[Sq6 x7,Sq7 x8,none,Sq8 x10,Sq7 x11,Sq8 x12]⟩:St)) (Z4k x2 x3 x4 x7 x8 x10 x11 x12 x37 x40) r ?_ fun J6=>?_
       ·intro x41 h;rw [Z4k] at h;(try dsimp only);refine MI h (fun h=>?_) fun h=>?_
        ·refine Zv2 4 ?_;dsimp only[go_sem];refine An ?_;have ⟨x42,ex42,h⟩:=Bs h;refine Z77 [0] [0,1,3,4,5] 1 6 (Zwb 4 x37 x2 x3 x4 x40.2.1 x40.2.2.1 x40.2.2.2 x7 x8 x10 x11 x12 _ ex42) ?_;dsimp only[go_sem];refine Zv2 3 ?_;dsimp only[go_sem];refine An ?_;have ⟨x43,ex43,h⟩:=Bs h
         refine Z77 [0] [0,1,3,4,5,7] 1 8 (Zuj x2 x3 x4 x40.2.1 x40.2.2.1 x40.2.2.2 x7 x8 x10 x11 x12 x42 _ ex43) ?_;dsimp only[go_sem];refine Zv2 1 ?_;dsimp only[go_sem];refine An (Z17 7 6 ?_);dsimp only[go_sem];exact Zy4 J1 (s:=(x43.1,x43.2.1,x43.2.2.1,x40.2.1,x40.2.2.1,x40.2.2.2,x42,x43.2.2.2.1,x43.2.2.2.2)) h
        ·refine Zv2 1 ?_;dsimp only[go_sem];refine An (Z37 0 11 57 5 ?_);dsimp only[go_sem];refine Z47 65 8 ?_;dsimp only[go_sem];refine Z47 65 8 ?_;dsimp only[go_sem];refine Z17 0 8 ?_;dsimp only[go_sem];refine Z47 3 1 ?_;dsimp only[go_sem];refine Z17 1 9 ?_;dsimp only[go_sem];exact Zy4 J1 (s:=(x2,x3,x4,x40.2.1,x40.2.2.1,x40.2.2.2,([]:List Event),x7,x8)) h
       ·refine MC 152 h (fun h=>?_) fun h=>?_
        ·dsimp only[go_sem];refine Zv2 4 ?_;dsimp only[go_sem];refine An ?_;exact Zy4 J6 (s:=!decide (x37=0)) h
        ·dsimp only[go_sem];refine Zv2 4 ?_;dsimp only[go_sem];refine An ?_;exact Zy4 J6 (s:=false) h
      ·refine Z07 fun all H=>?_;dsimp only[go_sem];refine GP H 7 9 [7,9] [(137,[.ptr 0 0,.ptr 0 0,.ptr 0 0,.ptr 0 5,.agg [.iv x5,Sp3 x9],.ptr 1 3,.iv x1.Hold])] ?_;dsimp only[go_sem];have ⟨x35,ex35,h⟩:=Bs h;refine Z74 7 12 rfl ?_ ?_
       ·refine GC H.1 (Zqg (Book.mk x5 x9) x1.Hold _ ex35) ?_;dsimp only[go_sem];refine GP H 4 4 [12,4] [(136,[.tup [.agg (Book.row x35.1),.iv x35.2.1,.iv x35.2.2]]),(8,[.agg (Book.row x35.1),.iv x35.2.1,.iv x35.2.2])] ?_;dsimp only[go_sem];refine GE H.1 12 ?_;dsimp only[go_sem];refine GE H.1 13 ?_;dsimp only[go_sem];refine GN H 2 0 ?_
        dsimp only[go_sem];refine An (GD ?_);exact Zy4 J5 (s:=(x35.2.1,x35.2.2,x35.1)) h
       ·refine GV H.1 ?_;dsimp only[go_sem];refine Z64 7 rfl (GC H.1 (Zqg (Book.mk x5 x9) x1.Hold _ ex35) ?_);dsimp only[go_sem];refine GP H 4 3 [13,3] [(136,[.tup [.agg (Book.row x35.1),.iv x35.2.1,.iv x35.2.2]]),(8,[.agg (Book.row x35.1),.iv x35.2.1,.iv x35.2.2])] ?_;dsimp only[go_sem];refine GE H.1 13 ?_;dsimp only[go_sem];refine GN H 2 0 ?_
        dsimp only[go_sem];refine An (GD ?_);exact Zy4 J5 (s:=(x35.2.1,x35.2.2,x35.1)) h
     ·refine Zv2 1 ?_;dsimp only[go_sem];refine An (Z27 2 ?_);dsimp only[go_sem];refine Z37 0 11 57 5 ?_;dsimp only[go_sem];refine Z47 65 8 ?_;dsimp only[go_sem];refine Z47 65 8 ?_;dsimp only[go_sem];refine Z17 0 8 ?_;dsimp only[go_sem];refine Z47 3 1 ?_;dsimp only[go_sem];refine Z17 1 9 ?_;dsimp only[go_sem];exact Zy4 J1 (s:=(x2,x3,x4,x5,x9,x6,([]:List Event),x7,x8)) h
def Z8k (x18:(Book×List Int×Int)) (x23:Int) (x24 x25:Int) (x26:List Side) (x27:List Int):List Event→Option (Int×Int×Int×Int×List Sess×List Event×List Side×List Int)
| x53=>
 some (x23,x24,x25,x18.1.Last,x18.1.Sess,x53,x26,x27)
def Z9k (x6:Int) (x10:List KE) (x11:List Int) (x12:List KE) (x18:(Book×List Int×Int)) (x23:Int) (x24 x25:Int) (x26:List Side) (x27:List Int):(Int×List Event)→Option ((Int×List Event) ⊕ (Int×Int×Int×Int×List Sess×List Event×List Side×List Int))
| (x32,x33)=>
 ifb (decide (x32<(ln Z15 x18.2.1))) (
 (at_ x18.2.1 x32).bind fun x34=>
 (Zfc 5 x34 x23 x24 x25 x18.1.Last x18.1.Sess x6 x26 x27 x10 x11 x12 x33).bind fun x35=>
 some (.inl (wr (x32+1),x35))) (
 Option.map Sum.inr ((Z8k x18 x23 x24 x25 x26 x27) x33))
def Zak (x6:Int) (x10:List KE) (x11:List Int) (x12:List KE) (x17:List Event) (x18:(Book×List Int×Int)):(Int×Int×Int×List Side×List Int)→Option (Int×Int×Int×Int×List Sess×List Event×List Side×List Int)
| (x23,x24,x25,x26,x27)=>
 loop (Z9k x6 x10 x11 x12 x18 x23 x24 x25 x26 x27) (0,x17)
def Zbk (x2 x3:Int) (x4 x5 x6:Int) (x8:List Int) (x9:List Sess) (x10:List KE) (x11:List Int) (x12:List KE) (x16:List Side) (x17:List Event) (x18:(Book×List Int×Int)):Bool→Option (Int×Int×Int×Int×List Sess×List Event×List Side×List Int)
| x21=>
 ifb x21 (
 (Ztj x2 x3 x4 x5 x9 x6 x16 x8 x10 x11 x12 x17).bind fun x22=>
 (Zak x6 x10 x11 x12 x17 x18) (x22.1,x22.2.1,x22.2.2.1,x22.2.2.2.1,x22.2.2.2.2)) (
 (Zak x6 x10 x11 x12 x17 x18) (x2,x3,x4,x16,x8))
def Zck (x1 x2:Int) (x3 x4:Int) (x5 x6:Int) (x8:List Int) (x9:List Sess) (x10:List KE) (x11:List Int) (x12:List KE):List Side→Option (Int×Int×Int×Int×List Sess×List Event×List Side×List Int)
| x16=>
 (Zbc 7 x1 x2 x3 x4 x5 x6 x16 x8 x9 x10 x11 x12).bind fun x17=>
 (Zbj (Book.mk x5 x9) x1).bind fun x18=>
 (Zdc x2 x3 x4 x5 x9 x16 x8 x10 x11 x12).bind fun x19=>
 ifb x19.2 (
 ifb (decide (x4=1)) (
 (Z5b x18.2.1 x19.1.ID).bind fun x20=>
 (Zbk x2 x3 x4 x5 x6 x8 x9 x10 x11 x12 x16 x17 x18) x20) (
 (Zbk x2 x3 x4 x5 x6 x8 x9 x10 x11 x12 x16 x17 x18) false)) (
 (Zbk x2 x3 x4 x5 x6 x8 x9 x10 x11 x12 x16 x17 x18) false)
def Zdk (x1 x2:Int) (x3 x4:Int) (x5 x6:Int) (x7:List Side) (x8:List Int) (x9:List Sess) (x10:List KE) (x11:List Int) (x12:List KE):Option (Int×Int×Int×Int×List Sess×List Event×List Side×List Int):=
 (Z9c (node_node.mk (Node.mk (DK.mk (DI.mk x2 x3 x7) x4 x8) (Book.mk x5 x9) x10 x11 x12) (([]:List Mail)) (([]:List Event)) x6) x1).bind fun x13=>
 (at_ x7 x13).bind fun x15=>
 (Zck x1 x2 x3 x4 x5 x6 x8 x9 x10 x11 x12) (x7.set (Int.toNat (x13)) (Side.mk x15.Peer x15.Epoch 2 x15.Fork x15.DY x15.Token x15.BO x15.Ask))
theorem Zek (x1 x2:Int) (x3 x4:Int) (x5 x6:Int) (x7:List Side) (x8:List Int) (x9:List Sess) (x10:List KE) (x11:List Int) (x12:List KE) (r:(Int×Int×Int×Int×List Sess×List Event×List Side×List Int)) (h:Zdk x1 x2 x3 x4 x5 x6 x7 x8 x9 x10 x11 x12=some r):Zr5 Tryz.prog 36 [.ptr 0 0,.iv x1] [some ⟨81,[.iv x2,.iv x3,.osl 0,.iv x4,.osl 1,.iv x5,.osl 2,.osl 3,.osl 4,.osl 5,.nl,.nl,.iv x6]⟩] [Sq6 x7,Sq7 x8,Sq9 x9,Sq8 x10,Sq7 x11,Sq8 x12] (.tup []) [some ⟨81,[.iv r.1,.iv r.2.1,.osl 8,.iv r.2.2.1,.osl 9,.iv r.2.2.2.1,Sp3 r.2.2.2.2.1,.osl 3,.osl 4,.osl 5,.nl,.osl 7,.iv x6]⟩] [none,none,none,Sq8 x10,Sq7 x11,Sq8 x12,none,Za7 r.2.2.2.2.2.1,Sq6 r.2.2.2.2.2.2.1,Sq7 r.2.2.2.2.2.2.2]:=by
 refine FT ok36 fun w0 M0=>?_
 rw [Zdk] at h
 dsimp only[lun,List.cons_append,List.nil_append]
 refine Zv2 1 ?_;dsimp only[go_sem];refine An (Zo4 (fun (x16:List Side)=>(⟨(.ptr 0 0 :: .iv x1::an 76 []),[some ⟨81,[.iv x2,.iv x3,.osl 0,.iv x4,.osl 1,.iv x5,.osl 2,.osl 3,.osl 4,.osl 5,.nl,.nl,.iv x6]⟩],[Sq6 x16,Sq7 x8,Sq9 x9,Sq8 x10,Sq7 x11,Sq8 x12]⟩:St)) (Zck x1 x2 x3 x4 x5 x6 x8 x9 x10 x11 x12) r ?_ fun J1=>?_)
 ·intro x16 h;rw [Zck] at h;(try dsimp only);refine Zv2 4 ?_;dsimp only[go_sem];refine An ?_;have ⟨x17,ex17,h⟩:=Bs h;refine Zt5 [true] [true,true,true,true,true,true] trivial (Zcc 7 x1 x2 x3 x4 x5 x6 x16 x8 x9 x10 x11 x12 _ ex17) (h:=?_);dsimp only[go_sem];refine Zv2 9 ?_;dsimp only[go_sem];refine An (Z27 2 ?_);dsimp only[go_sem];have ⟨x18,ex18,h⟩:=Bs h;refine VC (k_sess_Gone (Book.mk x5 x9) x1 _ ex18) (Zv2 16 ?_);dsimp only[go_sem];refine An ?_
  have ⟨x19,ex19,h⟩:=Bs h;refine Z77 [] [0,1,3,4,5] 2 8 (Zec x2 x3 x4 x5 x9 x16 x8 x10 x11 x12 _ ex19) ?_;dsimp only[go_sem];refine Zv2 11 ?_;dsimp only[go_sem];refine An ?_
  refine Zo4 (fun (x21:Bool)=>(⟨(.ptr 0 0::an 3 (.ptr 1 0 :: Sp0 x18.2.1::an 54 (.bv x21::an 17 []))),[some ⟨81,[.iv x2,.iv x3,.osl 0,.iv x4,.osl 1,.iv x5,Sp3 x9,.osl 3,.osl 4,.osl 5,.nl,.osl 7,.iv x6]⟩,some ⟨32,Book.row x18.1⟩],[Sq6 x16,Sq7 x8,none,Sq8 x10,Sq7 x11,Sq8 x12,none,Za7 x17]⟩:St)) (Zbk x2 x3 x4 x5 x6 x8 x9 x10 x11 x12 x16 x17 x18) r ?_ fun J2=>?_
  ·intro x21 h;rw [Zbk] at h;(try dsimp only)
   refine Zo4 (fun ((x23,x24,x25,x26,x27):(Int×Int×Int×List Side×List Int))=>(⟨(.ptr 0 0::an 3 (.ptr 1 0 :: Sp0 x18.2.1::an 72 [])),[some ⟨81,[.iv x23,.iv x24,.osl 8,.iv x25,.osl 9,.iv x5,Sp3 x9,.osl 3,.osl 4,.osl 5,.nl,.osl 7,.iv x6]⟩,some ⟨32,Book.row x18.1⟩],[none,none,none,Sq8 x10,Sq7 x11,Sq8 x12,none,Za7 x17,Sq6 x26,Sq7 x27]⟩:St)) (Zak x6 x10 x11 x12 x17 x18) r ?_ fun J3=>?_
   ·rintro ⟨x23,x24,x25,x26,x27⟩ h;rw [Zak] at h;(try dsimp only);refine Zv2 15 ?_;dsimp only[go_sem];refine An ?_
    refine Zo4 (fun (x53:List Event)=>(⟨an 78 [],[some ⟨81,[.iv x23,.iv x24,.osl 8,.iv x25,.osl 9,.iv x18.1.Last,Sp3 x18.1.Sess,.osl 3,.osl 4,.osl 5,.nl,.osl 7,.iv x6]⟩],[none,none,none,Sq8 x10,Sq7 x11,Sq8 x12,none,Za7 x53,Sq6 x26,Sq7 x27]⟩:St)) (Z8k x18 x23 x24 x25 x26 x27) r ?_ fun J4=>?_
    ·intro x53 h;rw [Z8k] at h;(try dsimp only);obtain rfl:=Option.some.inj h;exact Z67 ok36
    ·refine Zv2 1 ?_;dsimp only[go_sem];refine An ?_
     refine Zp4 h (fun ((x32,x33):(Int×List Event))=>(⟨(.ptr 0 0::an 67 (Sp0 x18.2.1 :: .iv (ln Z15 x18.2.1) :: .iv x32::an 7 [])),[some ⟨81,[.iv x23,.iv x24,.osl 8,.iv x25,.osl 9,.iv x18.1.Last,Sp3 x18.1.Sess,.osl 3,.osl 4,.osl 5,.nl,.osl 7,.iv x6]⟩],[none,none,none,Sq8 x10,Sq7 x11,Sq8 x12,none,Za7 x33,Sq6 x26,Sq7 x27]⟩:St)) (by simp [go_sem]) (by rintro ⟨x32,x33⟩;first | rfl | simp [go_sem]) ?_
     rintro n1 ⟨x32,x33⟩ y1 h hin1 hout1;rw [Z9k] at h;(try dsimp only);refine Zv2 5 ?_;dsimp only[go_sem];refine An (MI h (fun h=>?_) fun h=>?_)
     ·refine Zv2 5 ?_;dsimp only[go_sem];refine An ?_;have ⟨x34,ex34,h⟩:=Bs h;refine Zs4 Z15 ex34 trivial rfl rfl rfl (Zv2 6 ?_);dsimp only[go_sem];refine An ?_;have ⟨x35,ex35,h⟩:=Bs h;refine Z77 [0] [8,9,3,4,5,7] 1 10 (Zgc 5 x34 x23 x24 x25 x18.1.Last x18.1.Sess x6 x26 x27 x10 x11 x12 x33 _ ex35) ?_;dsimp only[go_sem];refine Zv2 6 ?_;dsimp only[go_sem];refine An (Z17 11 7 ?_);dsimp only[go_sem]
      exact Zx4 h hin1
     ·refine Zv2 1 ?_;dsimp only[go_sem];refine An ?_;exact Zy4 J4 (s:=x33) (Zn4 h hout1)
   ·refine MI h (fun h=>?_) fun h=>?_
    ·refine Zv2 2 ?_;dsimp only[go_sem];refine An ?_;have ⟨x22,ex22,h⟩:=Bs h;refine Z77 [0] [0,1,3,4,5,7] 2 8 (Zuj x2 x3 x4 x5 x9 x6 x16 x8 x10 x11 x12 x17 _ ex22) ?_;dsimp only[go_sem];refine Zv2 1 ?_;dsimp only[go_sem];refine An ?_;exact Zy4 J3 (s:=(x22.1,x22.2.1,x22.2.2.1,x22.2.2.2.1,x22.2.2.2.2)) h
    ·refine Zv2 1 ?_;dsimp only[go_sem];refine An (Z47 65 8 ?_);dsimp only[go_sem];refine Z17 0 8 ?_;dsimp only[go_sem];refine Z47 3 1 ?_;dsimp only[go_sem];refine Z17 1 9 ?_;dsimp only[go_sem];exact Zy4 J3 (s:=(x2,x3,x4,x16,x8)) h
  ·refine MC 46 h (fun h=>?_) fun h=>?_
   ·dsimp only[go_sem];refine Zv2 9 ?_;dsimp only[go_sem];refine An (MC 55 h (fun h=>?_) fun h=>?_)
    ·dsimp only[go_sem];refine Zv2 3 ?_;dsimp only[go_sem];refine An ?_;have ⟨x20,ex20,h⟩:=Bs h;refine VC (Z6b x18.2.1 x19.1.ID _ ex20) (Zv2 2 ?_);dsimp only[go_sem];refine An ?_;exact Zy4 J2 (s:=x20) h
    ·dsimp only[go_sem];refine Zv2 6 ?_;dsimp only[go_sem];refine An ?_;exact Zy4 J2 (s:=false) h
   ·dsimp only[go_sem];refine Zv2 15 ?_;dsimp only[go_sem];refine An ?_;exact Zy4 J2 (s:=false) h
 ·refine Z07 fun all H=>?_;dsimp only[go_sem];refine GP H 8 5 [6,1,2,4] [(11,[.ptr 0 0,.ptr 0 0,.ptr 0 0,.ptr 0 0,.ptr 0 0,.ptr 0 2]),(1,[.ptr 0 0,.iv x1])] ?_;dsimp only[go_sem];have ⟨x13,ex13,h⟩:=Bs h;refine Z74 6 9 rfl ?_ ?_
  ·refine GV H.1 ?_;dsimp only[go_sem];refine Z64 9 rfl (GK H.1 (((((((LR.slice 0 rfl).slice 1 rfl).slice 2 rfl).slice 3 rfl).slice 4 rfl).slice 5 rfl).block 0 rfl rfl) (Zac (node_node.mk (Node.mk (DK.mk (DI.mk x2 x3 x7) x4 x8) (Book.mk x5 x9) x10 x11 x12) (([]:List Mail)) (([]:List Event)) x6) x1 _ ex13) ?_);dsimp only[go_sem];have ⟨x15,ex15,h⟩:=Bs h;refine Z64 10 rfl (GI H.1 Side.row ex15 ?_);dsimp only[go_sem]
   refine GN H 1 1 ?_;dsimp only[go_sem];refine An (Z64 12 rfl (Zw5 H.1 [.iv 2] Side.row (y':=(Side.mk x15.Peer x15.Epoch 2 x15.Fork x15.DY x15.Token x15.BO x15.Ask)) ex15 rfl trivial rfl rfl rfl (by first | exact Zi4 _ | simp [go_sem]) rfl rfl rfl rfl ?_));dsimp only[go_sem];refine GD ?_;exact Zy4 J1 (s:=x7.set (Int.toNat (x13)) (Side.mk x15.Peer x15.Epoch 2 x15.Fork x15.DY x15.Token x15.BO x15.Ask)) h
  ·refine GK H.1 (((((((LR.slice 0 rfl).slice 1 rfl).slice 2 rfl).slice 3 rfl).slice 4 rfl).slice 5 rfl).block 0 rfl rfl) (Zac (node_node.mk (Node.mk (DK.mk (DI.mk x2 x3 x7) x4 x8) (Book.mk x5 x9) x10 x11 x12) (([]:List Mail)) (([]:List Event)) x6) x1 _ ex13) ?_;dsimp only[go_sem];refine GE H.1 6 ?_;dsimp only[go_sem];have ⟨x15,ex15,h⟩:=Bs h;refine Z64 10 rfl (GI H.1 Side.row ex15 ?_);dsimp only[go_sem]
   refine GN H 1 1 ?_;dsimp only[go_sem];refine An (Z64 12 rfl (Zw5 H.1 [.iv 2] Side.row (y':=(Side.mk x15.Peer x15.Epoch 2 x15.Fork x15.DY x15.Token x15.BO x15.Ask)) ex15 rfl trivial rfl rfl rfl (by first | exact Zi4 _ | simp [go_sem]) rfl rfl rfl rfl ?_));dsimp only[go_sem];refine GD ?_;exact Zy4 J1 (s:=x7.set (Int.toNat (x13)) (Side.mk x15.Peer x15.Epoch 2 x15.Fork x15.DY x15.Token x15.BO x15.Ask)) h
@[go_sem] def e85:EC:=(by have h:=hF Tryz.f85;(conv at h=>rhs;reduce);dsimp only[go_sem] at h;exact ⟨_,h⟩:DP Tryz.f85).1
theorem ok85:FnOK Tryz.prog 85 Tryz.f85 e85 [] 1 148:=okA
end
end NX
end Go.Proofs.YtdjkbodnjhgbcaaGreat
