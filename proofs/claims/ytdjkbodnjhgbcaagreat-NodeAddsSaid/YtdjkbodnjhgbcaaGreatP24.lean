/-
  The function narthex/dine.Fire, lent own memory. Written by a program of ours (lb.py). No statement of the seat is proved here.
-/
import Derived.Test.YtdjkbodnjhgbcaaGreatP23
set_option maxRecDepth 100000
set_option maxHeartbeats 4000000
namespace Go.Proofs.YtdjkbodnjhgbcaaGreat
namespace NX
open Go
noncomputable section
def Zai (x1:DI) (x50:List Mail):(Int×List Side)→Option (Int×Int×Int×List Side×List Mail)
| (x65,x66)=>
 some (x1.ID,x65,0,x66,x50)
def Zbi (x1:DI) (x49:List Side) (x50:List Mail):(Int×List Side)→Option ((Int×List Side) ⊕ (Int×Int×Int×List Side×List Mail))
| (x55,x56)=>
 ifb (decide (x55<(ln Side.row x49))) (
 (at_ x56 x55).bind fun x57=>
 some (.inl (wr (x55+1),x56.set (Int.toNat (x55)) (Side.mk x57.Peer x57.Epoch x57.State x57.Fork true x57.Token x57.BO x57.Ask)))) (
 Option.map Sum.inr ((Zai x1 x50) (2,x56)))
def Zci (x1:DI) (x49:List Side) (x50:List Mail):Bool→Option (Int×Int×Int×List Side×List Mail)
| x51=>
 ifb x51 (
 loop (Zbi x1 x49 x50) (0,x49)) (
 (Zai x1 x50) (x1.PH,x49))
def Zdi (x1:DI):(Bool×List Side×List Mail)→Option (Int×Int×Int×List Side×List Mail)
| (x48,x49,x50)=>
 ifb (decide (x1.PH=1)) (
 (Zci x1 x49 x50) x48) (
 (Zci x1 x49 x50) false)
def Zei (x21:Int) (x33:List Side) (x34:List Mail):Bool→Option ((Bool×Int×List Side×List Mail) ⊕ (Int×Int×Int×List Side×List Mail))
| x36=>
 some (.inl (x36,wr (x21+1),x33,x34))
def Zfi (x20:Bool) (x21:Int):(List Side×List Mail)→Option ((Bool×Int×List Side×List Mail) ⊕ (Int×Int×Int×List Side×List Mail))
| (x33,x34)=>
 ifb x20 (
 (at_ x33 x21).bind fun x35=>
 (Zei x21 x33 x34) x35.Fork) (
 (Zei x21 x33 x34) false)
def Zgi (x1:DI) (x20:Bool) (x21:Int) (x27:List Side) (x28:List Mail):Bool→Option ((Bool×Int×List Side×List Mail) ⊕ (Int×Int×Int×List Side×List Mail))
| x30=>
 ifb x30 (
 (at_ x27 x21).bind fun x31=>
 (Zfb 2 x1.ID x1.PH x21 x28 (x27.set (Int.toNat (x21)) (Side.mk x31.Peer x31.Epoch x31.State x31.Fork x31.DY false x31.BO x31.Ask))).bind fun x32=>
 (Zfi x20 x21) ((x27.set (Int.toNat (x21)) (Side.mk x31.Peer x31.Epoch x31.State x31.Fork x31.DY false x31.BO x31.Ask)),x32)) (
 (Zfi x20 x21) (x27,x28))
def Zhi (x1:DI) (x20:Bool) (x21:Int):(List Side×List Mail)→Option ((Bool×Int×List Side×List Mail) ⊕ (Int×Int×Int×List Side×List Mail))
| (x27,x28)=>
 ifb (decide (x1.PH=1)) (
 (at_ x27 x21).bind fun x29=>
 ifb x29.Token (
 (Zgi x1 x20 x21 x27 x28) (!x29.Fork)) (
 (Zgi x1 x20 x21 x27 x28) false)) (
 (Zgi x1 x20 x21 x27 x28) false)
def Zii (x1:DI) (x20:Bool) (x21:Int) (x22:List Side) (x23:List Mail) (x24:Side):Bool→Option ((Bool×Int×List Side×List Mail) ⊕ (Int×Int×Int×List Side×List Mail))
| x25=>
 ifb x25 (
 (Zfb 1 x1.ID x1.PH x21 x23 (x22.set (Int.toNat (x21)) (Side.mk x24.Peer x24.Epoch x24.State false false x24.Token x24.BO x24.Ask))).bind fun x26=>
 (Zhi x1 x20 x21) ((x22.set (Int.toNat (x21)) (Side.mk x24.Peer x24.Epoch x24.State false false x24.Token x24.BO x24.Ask)),x26)) (
 (Zhi x1 x20 x21) (x22,x23))
def Zji (x1:DI) (x3:List Side):(Bool×Int×List Side×List Mail)→Option ((Bool×Int×List Side×List Mail) ⊕ (Int×Int×Int×List Side×List Mail))
| (x20,x21,x22,x23)=>
 ifb (decide (x21<(ln Side.row x3))) (
 (at_ x22 x21).bind fun x24=>
 ifb x24.Fork (
 ifb x24.DY (
 ifb x24.Token (
 (Zii x1 x20 x21 x22 x23 x24) (!decide (x1.PH=2))) (
 (Zii x1 x20 x21 x22 x23 x24) false)) (
 (Zii x1 x20 x21 x22 x23 x24) false)) (
 (Zii x1 x20 x21 x22 x23 x24) false)) (
 Option.map Sum.inr ((Zdi x1) (x20,x22,x23)))
def Zki (x1:DI):Option (Int×Int×Int×List Side×List Mail):=
 (Zlg x1).bind fun x2=>
 ifb (!decide (x2=0)) (
 some (0,0,x2,([]:List Side),([]:List Mail))) (
 (Zj8 x1.SD).bind fun x3=>
 loop (Zji x1 x3) (true,0,x3,([]:List Mail)))
theorem Zli (x1:DI) (r:(Int×Int×Int×List Side×List Mail)) (h:Zki x1=some r):Zq5 Tryz.prog 174 [.agg (DI.row x1)] [] [] (.tup [.agg [.iv r.1,.iv r.2.1,.osl 0],.osl 1,.iv r.2.2.1]) [] [Sq6 r.2.2.2.1,Za7 r.2.2.2.2]:=by
 refine FT ok174 fun w0 M0=>?_
 rw [Zki] at h
 dsimp only[lun,List.cons_append,List.nil_append]
 refine Vg 11 ?_;have ⟨x2,ex2,h⟩:=Bs h;refine VC (Zmg x1 _ ex2) (Vg 7 ?_);refine MI h (fun h=>?_) fun h=>?_
 ·refine Vg 8 ?_;refine Z27 1 2 65 8 ?_;dsimp only[go_sem];refine Zf4 3 74 5 rfl rfl ?_;dsimp only[go_sem];obtain rfl:=Option.some.inj h;exact Z47 ok174
 ·refine Vg 5 ?_;have ⟨x3,ex3,h⟩:=Bs h;refine Z75 trivial (Zk8 x1.SD _ ex3) (h:=?_);refine Vg 19 ?_;refine Zo4 (fun ((x48,x49,x50):(Bool×List Side×List Mail))=>⟨(.any :: .ptr 0 0 :: .ptr 1 0::an 3 (.ptr 2 0 :: .bv x48::an 104 [])),[some ⟨25,[.iv x1.ID,.iv x1.PH,.osl 0]⟩,some ⟨25,[.iv 0,.iv 0,.nl]⟩,some ⟨44,[.osl 1]⟩],[Sq6 x49,Za7 x50]⟩) (Zdi x1) r ?_ fun J1=>?_
  ·rintro ⟨x48,x49,x50⟩ h;rw [Zdi] at h;(try dsimp only);refine Vg 7 ?_;refine Zo4 (fun (x51:Bool)=>⟨(.any :: .ptr 0 0 :: .ptr 1 0::an 3 (.ptr 2 0::an 89 (.bv x51::an 15 []))),[some ⟨25,[.iv x1.ID,.iv x1.PH,.osl 0]⟩,some ⟨25,[.iv 0,.iv 0,.nl]⟩,some ⟨44,[.osl 1]⟩],[Sq6 x49,Za7 x50]⟩) (Zci x1 x49 x50) r ?_ fun J7=>?_
   ·intro x51 h;rw [Zci] at h;(try dsimp only);refine Zo4 (fun ((x65,x66):(Int×List Side))=>⟨(.any :: .ptr 0 0 :: .ptr 1 0::an 3 (.ptr 2 0::an 105 [])),[some ⟨25,[.iv x1.ID,.iv x65,.osl 0]⟩,some ⟨25,[.iv 0,.iv 0,.nl]⟩,some ⟨44,[.osl 1]⟩],[Sq6 x66,Za7 x50]⟩) (Zai x1 x50) r ?_ fun J8=>?_
    ·rintro ⟨x65,x66⟩ h;rw [Zai] at h;(try dsimp only);refine Vg 1 ?_;refine Zz6 fun all H=>?_;dsimp only[go_sem];refine Z74 0 1 rfl ?_ ?_
     ·refine GV H.1 ?_;dsimp only[go_sem];refine Z74 1 2 rfl ?_ ?_
      ·refine GV H.1 ?_;dsimp only[go_sem];refine GE H.1 2 ?_;refine Gn H 2 0 ?_;refine GD ?_;obtain rfl:=Option.some.inj h;exact Z47 ok174
      ·refine GV H.1 ?_;dsimp only[go_sem];refine GE H.1 1 ?_;refine Gn H 2 0 ?_;refine GD ?_;obtain rfl:=Option.some.inj h;exact Z47 ok174
     ·refine GV H.1 ?_;dsimp only[go_sem];refine GE H.1 0 ?_;dsimp only[go_sem];refine GE H.1 2 ?_;refine Gn H 2 0 ?_;refine GD ?_;obtain rfl:=Option.some.inj h;exact Z47 ok174
    ·refine MI h (fun h=>?_) fun h=>?_
     ·refine Vg 13 ?_;refine Zp4 h (fun ((x55,x56):(Int×List Side))=>⟨(.any :: .ptr 0 0 :: .ptr 1 0::an 3 (.ptr 2 0::an 93 (.iv (ln Side.row x49) :: .iv x55::an 10 []))),[some ⟨25,[.iv x1.ID,.iv 2,.osl 0]⟩,some ⟨25,[.iv 0,.iv 0,.nl]⟩,some ⟨44,[.osl 1]⟩],[Sq6 x56,Za7 x50]⟩) (by simp [go_sem]) (by rintro ⟨x55,x56⟩;first | rfl | simp [go_sem]) ?_;rintro n1 ⟨x55,x56⟩ y1 h hin1 hout1;rw [Zbi] at h;(try dsimp only);refine Zv2 5 ?_
      dsimp only[go_sem];refine An (MI h (fun h=>?_) fun h=>?_)
      ·refine Vg 12 ?_;have ⟨x57,ex57,h⟩:=Bs h;refine Zd5 Side.row ex57 trivial rfl rfl rfl (Vg 1 ?_);refine Zk5 [.bv true] Side.row (y':=(Side.mk x57.Peer x57.Epoch x57.State x57.Fork true x57.Token x57.BO x57.Ask)) ex57 trivial rfl rfl rfl (by first | exact Zi4 _ | simp [go_sem]) rfl rfl rfl rfl (Vg 6 ?_);exact Zw4 h hin1
      ·refine Vg 1 ?_;exact Zx4 J8 (Zn4 h hout1)
     ·refine Vg 1 ?_;exact Zx4 J8 h
   ·refine MC 94 h (fun h=>?_) fun h=>?_
    ·refine Vg 3 ?_;exact Zx4 J7 h
    ·refine Vg 3 ?_;exact Zx4 J7 h
  ·refine Vg 1 ?_;refine Z27 2 0 74 5 ?_;dsimp only[go_sem];refine Zp4 h (fun ((x20,x21,x22,x23):(Bool×Int×List Side×List Mail))=>⟨(.any :: .ptr 0 0 :: .ptr 1 0::an 3 (.ptr 2 0 :: .bv x20::an 16 (.iv (ln Side.row x3) :: .iv x21::an 86 []))),[some ⟨25,[.iv x1.ID,.iv x1.PH,.osl 0]⟩,some ⟨25,[.iv 0,.iv 0,.nl]⟩,some ⟨44,[.osl 1]⟩],[Sq6 x22,Za7 x23]⟩) (by simp [go_sem]) (by rintro ⟨x20,x21,x22,x23⟩;first | rfl | simp [go_sem]) ?_
   rintro n1 ⟨x20,x21,x22,x23⟩ y1 h hin1 hout1;rw [Zji] at h;(try dsimp only);refine Vg 5 ?_;refine MI h (fun h=>?_) fun h=>?_
   ·refine Vg 13 ?_;have ⟨x24,ex24,h⟩:=Bs h;refine Zd5 Side.row ex24 trivial rfl rfl rfl (Vg 14 ?_);refine Zf5 Side.row ex24 trivial rfl rfl rfl (Vg 1 ?_)
    refine Zo4 (fun (x25:Bool)=>⟨(.any :: .ptr 0 0 :: .ptr 1 0::an 3 (.ptr 2 0 :: .bv x20 :: .any :: .ptr 3 0 :: .clo 184 [.ptr 2 0,.ptr 0 0,.ptr 3 0]::an 13 (.iv (ln Side.row x3) :: .iv x21::an 27 (.bv x25::an 58 [])))),[some ⟨25,[.iv x1.ID,.iv x1.PH,.osl 0]⟩,some ⟨25,[.iv 0,.iv 0,.nl]⟩,some ⟨44,[.osl 1]⟩,some ⟨179,[.oel 0 (Int.toNat (x21)*8) 0]⟩],[Sq6 x22,Za7 x23]⟩) (Zii x1 x20 x21 x22 x23 x24) y1 ?_ fun J2=>?_
    ·intro x25 h;rw [Zii] at h;(try dsimp only);refine Zo4 (fun ((x27,x28):(List Side×List Mail))=>⟨(.any :: .ptr 0 0 :: .ptr 1 0::an 3 (.ptr 2 0 :: .bv x20 :: .any :: .ptr 3 0 :: .clo 184 [.ptr 2 0,.ptr 0 0,.ptr 3 0]::an 13 (.iv (ln Side.row x3) :: .iv x21::an 86 []))),[some ⟨25,[.iv x1.ID,.iv x1.PH,.osl 0]⟩,some ⟨25,[.iv 0,.iv 0,.nl]⟩,some ⟨44,[.osl 1]⟩,some ⟨179,[.oel 0 (Int.toNat (x21)*8) 0]⟩],[Sq6 x27,Za7 x28]⟩) (Zhi x1 x20 x21) y1 ?_ fun J3=>?_
     ·rintro ⟨x27,x28⟩ h;rw [Zhi] at h;(try dsimp only);refine Vg 7 ?_
      refine Zo4 (fun (x30:Bool)=>⟨(.any :: .ptr 0 0 :: .ptr 1 0::an 3 (.ptr 2 0 :: .bv x20 :: .any :: .ptr 3 0 :: .clo 184 [.ptr 2 0,.ptr 0 0,.ptr 3 0]::an 13 (.iv (ln Side.row x3) :: .iv x21::an 51 (.bv x30::an 34 [])))),[some ⟨25,[.iv x1.ID,.iv x1.PH,.osl 0]⟩,some ⟨25,[.iv 0,.iv 0,.nl]⟩,some ⟨44,[.osl 1]⟩,some ⟨179,[.oel 0 (Int.toNat (x21)*8) 0]⟩],[Sq6 x27,Za7 x28]⟩) (Zgi x1 x20 x21 x27 x28) y1 ?_ fun J4=>?_
      ·intro x30 h;rw [Zgi] at h;(try dsimp only);refine Zo4 (fun ((x33,x34):(List Side×List Mail))=>⟨(.any :: .ptr 0 0 :: .ptr 1 0::an 3 (.ptr 2 0 :: .bv x20 :: .any :: .ptr 3 0::an 14 (.iv (ln Side.row x3) :: .iv x21::an 86 []))),[some ⟨25,[.iv x1.ID,.iv x1.PH,.osl 0]⟩,some ⟨25,[.iv 0,.iv 0,.nl]⟩,some ⟨44,[.osl 1]⟩,some ⟨179,[.oel 0 (Int.toNat (x21)*8) 0]⟩],[Sq6 x33,Za7 x34]⟩) (Zfi x20 x21) y1 ?_ fun J5=>?_
       ·rintro ⟨x33,x34⟩ h;rw [Zfi] at h;(try dsimp only);refine Vg 3 ?_;refine Zo4 (fun (x36:Bool)=>⟨(.any :: .ptr 0 0 :: .ptr 1 0::an 3 (.ptr 2 0 :: .bv x36::an 16 (.iv (ln Side.row x3) :: .iv x21::an 86 []))),[some ⟨25,[.iv x1.ID,.iv x1.PH,.osl 0]⟩,some ⟨25,[.iv 0,.iv 0,.nl]⟩,some ⟨44,[.osl 1]⟩],[Sq6 x33,Za7 x34]⟩) (Zei x21 x33 x34) y1 ?_ fun J6=>?_
        ·intro x36 h;rw [Zei] at h;(try dsimp only);refine Vg 5 ?_;exact Zw4 h hin1
        ·refine MC 84 h (fun h=>?_) fun h=>?_
         ·refine Vg 3 ?_;have ⟨x35,ex35,h⟩:=Bs h;refine Zf5 Side.row ex35 trivial rfl rfl rfl (Vg 3 ?_);exact Zx4 J6 h
         ·refine Vg 7 ?_;exact Zx4 J6 h
       ·refine MI h (fun h=>?_) fun h=>?_
        ·refine Vg 5 ?_;have ⟨x31,ex31,h⟩:=Bs h;refine Zk5 [.bv false] Side.row (y':=(Side.mk x31.Peer x31.Epoch x31.State x31.Fork x31.DY false x31.BO x31.Ask)) ex31 trivial rfl rfl rfl (by first | exact Zi4 _ | simp [go_sem]) rfl rfl rfl rfl (Vg 3 ?_);have ⟨x32,ex32,h⟩:=Bs h
         refine Zt5 [true,false,true,true] [true,true] trivial rfl (Zy6 [2,0,3] [1,0] 4 2 (Zgb 2 x1.ID x1.PH x21 x28 (x27.set (Int.toNat (x21)) (Side.mk x31.Peer x31.Epoch x31.State x31.Fork x31.DY false x31.BO x31.Ask)) _ ex32)) (by kernel_rfl) (h:=?_);refine Vg 1 ?_;refine Z07 3 1 ?_;dsimp only[go_sem];exact Zx4 J5 h
        ·refine Vg 1 ?_;exact Zx4 J5 h
      ·refine MC 65 h (fun h=>?_) fun h=>?_
       ·refine Vg 3 ?_;have ⟨x29,ex29,h⟩:=Bs h;refine Zf5 Side.row ex29 trivial rfl rfl rfl (Vg 2 ?_);refine MC 71 h (fun h=>?_) fun h=>?_
        ·refine Vg 3 ?_;refine Zf5 Side.row ex29 trivial rfl rfl rfl (Vg 3 ?_);exact Zx4 J4 h
        ·refine Vg 7 ?_;exact Zx4 J4 h
       ·refine Vg 13 ?_;exact Zx4 J4 h
     ·refine MI h (fun h=>?_) fun h=>?_
      ·refine Vg 1 ?_;refine Zz6 fun all H=>?_;dsimp only[go_sem];refine Z74 0 1 rfl ?_ ?_
       ·refine GV H.1 ?_;refine Gn H 2 5 ?_;refine Z74 1 4 rfl ?_ ?_
        ·refine GV H.1 ?_;dsimp only[go_sem];refine Z64 4 rfl (Zv5 H.1 [.bv false] Side.row (y':=(Side.mk x24.Peer x24.Epoch x24.State false x24.DY x24.Token x24.BO x24.Ask)) ex24 rfl trivial rfl rfl rfl (by first | exact Zi4 _ | simp [go_sem]) rfl rfl rfl rfl ?_);refine Gn H 2 1 ?_;refine Z64 7 rfl ?_
         refine Zw5 H.1 [.bv false] Side.row (y':=(Side.mk x24.Peer x24.Epoch x24.State false false x24.Token x24.BO x24.Ask)) (Ze5 ex24) rfl trivial rfl rfl rfl (by first | exact Zi4 _ | simp [go_sem]) rfl rfl rfl rfl ?_;dsimp only[go_sem];refine GD (Vg 2 ?_);have ⟨x26,ex26,h⟩:=Bs h
         refine Zt5 [true,false,true,true] [true,true] trivial rfl (Zy6 [2,0,3] [1,0] 4 2 (Zgb 1 x1.ID x1.PH x21 x23 (x22.set (Int.toNat (x21)) (Side.mk x24.Peer x24.Epoch x24.State false false x24.Token x24.BO x24.Ask)) _ ex26)) (by kernel_rfl) (h:=?_);refine Vg 1 ?_;refine Z07 3 1 ?_;dsimp only[go_sem];exact Zx4 J3 h
        ·refine Zv5 H.1 [.bv false] Side.row (y':=(Side.mk x24.Peer x24.Epoch x24.State false x24.DY x24.Token x24.BO x24.Ask)) ex24 rfl trivial rfl rfl rfl (by first | exact Zi4 _ | simp [go_sem]) rfl rfl rfl rfl ?_;dsimp only[go_sem];refine GE H.1 1 ?_;refine Gn H 2 1 ?_;refine Z64 7 rfl ?_
         refine Zw5 H.1 [.bv false] Side.row (y':=(Side.mk x24.Peer x24.Epoch x24.State false false x24.Token x24.BO x24.Ask)) (Ze5 ex24) rfl trivial rfl rfl rfl (by first | exact Zi4 _ | simp [go_sem]) rfl rfl rfl rfl ?_;dsimp only[go_sem];refine GD (Vg 2 ?_);have ⟨x26,ex26,h⟩:=Bs h
         refine Zt5 [true,false,true,true] [true,true] trivial rfl (Zy6 [2,0,3] [1,0] 4 2 (Zgb 1 x1.ID x1.PH x21 x23 (x22.set (Int.toNat (x21)) (Side.mk x24.Peer x24.Epoch x24.State false false x24.Token x24.BO x24.Ask)) _ ex26)) (by kernel_rfl) (h:=?_);refine Vg 1 ?_;refine Z07 3 1 ?_;dsimp only[go_sem];exact Zx4 J3 h
       ·refine GV H.1 ?_;dsimp only[go_sem];refine GE H.1 0 ?_;refine Gn H 2 4 ?_;refine Z64 4 rfl (Zv5 H.1 [.bv false] Side.row (y':=(Side.mk x24.Peer x24.Epoch x24.State false x24.DY x24.Token x24.BO x24.Ask)) ex24 rfl trivial rfl rfl rfl (by first | exact Zi4 _ | simp [go_sem]) rfl rfl rfl rfl ?_);refine Gn H 2 1 ?_;refine Z64 7 rfl ?_
        refine Zw5 H.1 [.bv false] Side.row (y':=(Side.mk x24.Peer x24.Epoch x24.State false false x24.Token x24.BO x24.Ask)) (Ze5 ex24) rfl trivial rfl rfl rfl (by first | exact Zi4 _ | simp [go_sem]) rfl rfl rfl rfl ?_;dsimp only[go_sem];refine GD (Vg 2 ?_);have ⟨x26,ex26,h⟩:=Bs h
        refine Zt5 [true,false,true,true] [true,true] trivial rfl (Zy6 [2,0,3] [1,0] 4 2 (Zgb 1 x1.ID x1.PH x21 x23 (x22.set (Int.toNat (x21)) (Side.mk x24.Peer x24.Epoch x24.State false false x24.Token x24.BO x24.Ask)) _ ex26)) (by kernel_rfl) (h:=?_);refine Vg 1 ?_;refine Z07 3 1 ?_;dsimp only[go_sem];exact Zx4 J3 h
      ·refine Vg 1 ?_;exact Zx4 J3 h
    ·refine MC 37 h (fun h=>?_) fun h=>?_
     ·refine Vg 3 ?_;refine Zf5 Side.row ex24 trivial rfl rfl rfl (Vg 2 ?_);refine MC 43 h (fun h=>?_) fun h=>?_
      ·refine Vg 3 ?_;refine Zf5 Side.row ex24 trivial rfl rfl rfl (Vg 2 ?_);refine MC 49 h (fun h=>?_) fun h=>?_
       ·refine Vg 5 ?_;exact Zx4 J2 h
       ·refine Vg 5 ?_;exact Zx4 J2 h
      ·refine Vg 11 ?_;exact Zx4 J2 h
     ·refine Vg 17 ?_;exact Zx4 J2 h
   ·refine Vg 1 ?_;exact Zx4 J1 (Zn4 h hout1)
@[go_sem] def e117:EC:=(by have h:=hF Tryz.f117;(conv at h=>rhs;reduce);dsimp only[go_sem] at h;exact ⟨_,h⟩:DP Tryz.f117).1
theorem ok117:FnOK Tryz.prog 117 Tryz.f117 e117 [.c 2 (some 5),.t 3] 1 19:=okA
def Zmi (x1:Side) (x2:Int) (x3 x4:Int) (x5 x6:Int) (x7:List Side) (x8:List Int) (x9:List Sess) (x10:List KE) (x11:List Int) (x12:List KE):Option (List Side×List KE):=
 (Z79 x7 x1.Peer ((fun z=>Z99 z.1 z.2))).bind fun x13=>
 (Zqg x7 x13.1 ([x1])).bind fun x14=>
 (Zyh x1.Peer x1.Epoch x2 x3 x4 x5 x6 x14 x8 x9 x10 x11 x12).bind fun x15=>
 some (x14,x15)
theorem Zni (x1:Side) (x2:Int) (x3 x4:Int) (x5 x6:Int) (x7:List Side) (x8:List Int) (x9:List Sess) (x10:List KE) (x11:List Int) (x12:List KE) (r:(List Side×List KE)) (h:Zmi x1 x2 x3 x4 x5 x6 x7 x8 x9 x10 x11 x12=some r):Zq5 Tryz.prog 34 [.ptr 0 0,.agg (Side.row x1)] [some ⟨81,[.iv x2,.iv x3,.osl 0,.iv x4,.osl 1,.iv x5,.osl 2,.osl 3,.osl 4,.osl 5,.nl,.nl,.iv x6]⟩] [Sq6 x7,Sq7 x8,Sq9 x9,Sq8 x10,Sq7 x11,Sq8 x12] (.tup []) [some ⟨81,[.iv x2,.iv x3,.osl 7,.iv x4,.osl 1,.iv x5,.osl 2,.osl 9,.osl 4,.osl 5,.nl,.nl,.iv x6]⟩] [none,Sq7 x8,Sq9 x9,none,Sq7 x11,Sq8 x12,none,Sq6 r.1,none,Sq8 r.2]:=by
 refine FT ok34 fun w0 M0=>?_
 rw [Zmi] at h
 dsimp only[lun,List.cons_append,List.nil_append]
 refine Vg 5 ?_;refine Zz6 fun all H=>?_;dsimp only[go_sem];refine GP H 8 7 [6,1,2,6] [(7,[.ptr 0 0,.ptr 0 0,.ptr 0 0,.ptr 0 0,.ptr 0 0,.ptr 0 2]),(1,[.ptr 1 0,.iv x1.Peer])] ?_;dsimp only[go_sem];refine GE H.1 6 ?_;dsimp only[go_sem];refine Z64 9 rfl ?_;have ⟨x13,ex13,h⟩:=Bs h
 refine GK H.1 (LR.slice 0 rfl) (Z89 x7 x1.Peer _ _ ((fun z=>Z99 z.1 z.2)) ⟨by kernel_rfl,rfl,fun z r hz=>Za9 z.1 z.2 r hz⟩ _ ex13) ?_;dsimp only[go_sem];refine GP H 5 0 [15] [(4,[.iv x13.1,.bv x13.2,.tup [.iv x13.1,.bv x13.2]]),(10,[.iv x13.1,.bv x13.2])] ?_;dsimp only[go_sem];refine GD (Vg 1 ?_);refine Zz6 fun all H=>?_;dsimp only[go_sem]
 refine GP H 9 9 [7,1,2,8] [(19,[.ptr 0 0,.ptr 0 0,.ptr 0 0,.ptr 0 0,.ptr 0 0,.ptr 0 0,.ptr 0 2]),(1,[.iv x13.1,.agg (Side.row x1)])] ?_;dsimp only[go_sem];refine Z74 7 10 rfl ?_ ?_
 ·refine GV H.1 ?_;dsimp only[go_sem];refine GE H.1 10 ?_;dsimp only[go_sem];refine Z64 11 rfl ?_;have ⟨x14,ex14,h⟩:=Bs h;refine Z77 H.1 [] [0,6] 2 7 (Zrg x7 x13.1 ([x1]) _ ex14) ?_;dsimp only[go_sem];refine GP H 5 1 [17,1] [(31,[.ptr 0 0,.ptr 0 0,.ptr 0 0,.ptr 0 0,.ptr 0 2])] ?_;dsimp only[go_sem];refine GE H.1 17 ?_
  dsimp only[go_sem];refine GD (Vg 6 ?_);have ⟨x15,ex15,h⟩:=Bs h;refine Z67 [0] [7,1,2,3,4,5] 2 8 (Zzh x1.Peer x1.Epoch x2 x3 x4 x5 x6 x14 x8 x9 x10 x11 x12 _ ex15) ?_;refine Vg 1 ?_;obtain rfl:=Option.some.inj h;exact Z57 ok34
 ·refine GV H.1 ?_;dsimp only[go_sem];refine GE H.1 7 ?_;dsimp only[go_sem];refine Z64 11 rfl ?_;have ⟨x14,ex14,h⟩:=Bs h;refine Z77 H.1 [] [0,6] 2 7 (Zrg x7 x13.1 ([x1]) _ ex14) ?_;dsimp only[go_sem];refine GP H 5 1 [17,1] [(31,[.ptr 0 0,.ptr 0 0,.ptr 0 0,.ptr 0 0,.ptr 0 2])] ?_;dsimp only[go_sem];refine GE H.1 17 ?_
  dsimp only[go_sem];refine GD (Vg 6 ?_);have ⟨x15,ex15,h⟩:=Bs h;refine Z67 [0] [7,1,2,3,4,5] 2 8 (Zzh x1.Peer x1.Epoch x2 x3 x4 x5 x6 x14 x8 x9 x10 x11 x12 _ ex15) ?_;refine Vg 1 ?_;obtain rfl:=Option.some.inj h;exact Z57 ok34
def Zoi:(Int×List Sess×List Int)→Option (List Int×List Sess)
| (x31,x32,x33)=>
 (vw_ (ln Sess.row x32) x31 (ln Sess.row x32)).bind fun _=>
 (clr_ x32 (Int.toNat (x31)) (Int.toNat (ln Sess.row x32)-Int.toNat (x31)) (Sess.mk 0 (([]:List Int)) 0 0)).bind fun x35=>
 (sub_ x35 0 x31).bind fun x36=>
 some (x33,x36)
def Zpi (x14:Int) (x18:(Bool×List Int)):(Int×List Sess)→Option ((Int×Int×List Sess×List Int) ⊕ (List Int×List Sess))
| (x20,x21)=>
 some (.inl (x20,wr (x14+1),x21,x18.2))
def Zqi (x1:Int):(Int×Int×List Sess×List Int)→Option ((Int×Int×List Sess×List Int) ⊕ (List Int×List Sess))
| (x13,x14,x15,x16)=>
 ifb (decide (x14<(ln Sess.row x15))) (
 (at_ x15 x14).bind fun x17=>
 (Zwg x17 x1 x16).bind fun x18=>
 ifb (!x18.1) (
 (at_ x15 x13).bind fun _=>
 (Zpi x14 x18) (wr (x13+1),x15.set (Int.toNat (x13)) x17)) (
 (Zpi x14 x18) (x13,x15))) (
 Option.map Sum.inr (Zoi (x13,x15,x16)))
def Zri (x1:Int) (x2:List Sess):Option (List Int×List Sess):=
 (Z2i x1 x2).bind fun x3=>
 ifb (decide (x3.1=((-1)))) (
 some (x3.2,x2)) (
 loop (Zqi x1) (x3.1,wr (x3.1+1),x2,x3.2))
theorem Zsi (x1:Int) (x2:List Sess) (r:(List Int×List Sess)) (h:Zri x1 x2=some r):Zq5 Tryz.prog 124 [.osl 0,.clo 125 [.ptr 0 0,.ptr 1 0]] [some ⟨3,[.iv x1]⟩,some ⟨27,[.nl]⟩] [Sq9 x2] (.osl 2) [some ⟨3,[.iv x1]⟩,some ⟨27,[.osl 1]⟩] [none,Sq7 r.1,Sq9 r.2]:=by
 refine FT ok124 fun w0 M0=>?_
 rw [Zri] at h
 dsimp only[lun,List.cons_append,List.nil_append]
 refine Vg 8 ?_;have ⟨x3,ex3,h⟩:=Bs h;refine Zs5 [true,true] [true] trivial (Z3i x1 x2 _ ex3) (h:=?_);refine Vg 8 ?_;refine MI h (fun h=>?_) fun h=>?_
 ·refine Vg 5 ?_;refine Z37 60 4 ?_;dsimp only[go_sem];refine Z07 0 2 ?_;dsimp only[go_sem];obtain rfl:=Option.some.inj h;exact Z47 ok124
 ·refine Vg 8 ?_;refine Zo4 (fun ((x31,x32,x33):(Int×List Sess×List Int))=>⟨(.osl 0::an 4 (.iv x31::an 36 [])),[some ⟨3,[.iv x1]⟩,some ⟨27,[.osl 1]⟩],[Sq9 x32,Sq7 x33]⟩) Zoi r ?_ fun J1=>?_
  ·rintro ⟨x31,x32,x33⟩ h;rw [Zoi] at h;(try dsimp only);refine Vg 4 ?_;have ⟨x34,ex34,h⟩:=Bs h;refine V_viewM Sess.row ex34 trivial rfl rfl rfl rfl ?_;have ⟨x35,ex35,h⟩:=Bs h;refine V_clrM Sess.row ex35 trivial rfl rfl (by first | exact Zi4 _ | simp [go_sem]) (by first | rfl | simp [go_sem]) rfl rfl (Vg 5 ?_);have ⟨x36,ex36,h⟩:=Bs h;refine V_cutM Sess.row ex36 trivial rfl rfl rfl rfl (Vg 2 ?_)
   obtain rfl:=Option.some.inj h;exact Z47 ok124
  ·refine Vg 1 ?_;refine Zp4 h (fun ((x13,x14,x15,x16):(Int×Int×List Sess×List Int))=>⟨(.osl 0 :: .clo 125 [.ptr 0 0,.ptr 1 0]::an 3 (.iv x13 :: .iv x14::an 35 [])),[some ⟨3,[.iv x1]⟩,some ⟨27,[.osl 1]⟩],[Sq9 x15,Sq7 x16]⟩) (by simp [go_sem]) (by rintro ⟨x13,x14,x15,x16⟩;first | rfl | simp [go_sem]) ?_;rintro n1 ⟨x13,x14,x15,x16⟩ y1 h hin1 hout1;rw [Zqi] at h;(try dsimp only);refine Vg 8 ?_
   refine MI h (fun h=>?_) fun h=>?_
   ·refine Vg 7 ?_;have ⟨x17,ex17,h⟩:=Bs h;refine Zd5 Sess.row ex17 trivial rfl rfl rfl (Zg5 Sess.row ex17 trivial rfl rfl rfl (Vg 7 ?_));have ⟨x18,ex18,h⟩:=Bs h;refine Zt5 [true,true,false] [false,true] trivial rfl (Zy6 [0,1] [1] 3 2 (Zxg x17 x1 x16 _ ex18)) (by kernel_rfl) (h:=?_);refine Vg 2 ?_
    refine Zo4 (fun ((x20,x21):(Int×List Sess))=>⟨(.osl 0 :: .clo 125 [.ptr 0 0,.ptr 1 0]::an 3 (.iv x20 :: .iv x14::an 35 [])),[some ⟨3,[.iv x1]⟩,some ⟨27,[.osl 3]⟩],[Sq9 x21,none,none,Sq7 x18.2]⟩) (Zpi x14 x18) y1 ?_ fun J2=>?_
    ·rintro ⟨x20,x21⟩ h;rw [Zpi] at h;(try dsimp only);refine Vg 6 ?_;refine Z07 3 1 ?_;dsimp only[go_sem];exact Zw4 h hin1
    ·refine MI h (fun h=>?_) fun h=>?_
     ·refine Vg 5 ?_;have ⟨x19,ex19,h⟩:=Bs h;refine Zd5 Sess.row ex19 trivial rfl rfl rfl (Zk5 (Sess.row x17) Sess.row (y':=x17) ex19 trivial rfl rfl rfl (by first | exact Zi4 _ | simp [go_sem]) rfl rfl rfl rfl (Vg 6 ?_));exact Zx4 J2 h
     ·refine Vg 1 ?_;exact Zx4 J2 h
   ·refine Vg 1 ?_;exact Zx4 J1 (Zn4 h hout1)
@[go_sem] def e127:EC:=(by have h:=hF Tryz.f127;(conv at h=>rhs;reduce);dsimp only[go_sem] at h;exact ⟨_,h⟩:DP Tryz.f127).1
theorem ok127:FnOK Tryz.prog 127 Tryz.f127 e127 [] 1 34:=okA
def Zti:(List Int×List Mail)→Option (List Int×List Mail)
| (x54,x55)=>
 some (x54,x55)
def Zui (x25:Int):(List Int×List Mail)→Option ((Int×List Int×List Mail) ⊕ (List Int×List Mail))
| (x34,x35)=>
 some (.inl (wr (x25+1),x34,x35))
def Zvi (x1 x2:Int) (x3 x4:Int) (x5:List Sess) (x7:Int) (x8:List Side) (x9:List Int) (x10 x11:List KE) (x13:List Event) (x25:Int) (x26:List Int) (x27:List Mail) (x28:Side):Bool→Option ((Int×List Int×List Mail) ⊕ (List Int×List Mail))
| x31=>
 ifb x31 (
 (Zpc x28 5 x1 x2 x3 x4 x5 x26 x7 x8 x9 x10 x11 x27 x13).bind fun x32=>
 (Z9g x26 x28.Peer).bind fun x33=>
 (Zui x25) (x33,x32)) (
 (Zui x25) (x26,x27))
def Zwi (x1 x2:Int) (x3 x4:Int) (x5:List Sess) (x7:Int) (x8:List Side) (x9:List Int) (x10 x11:List KE) (x13:List Event):(Int×List Int×List Mail)→Option ((Int×List Int×List Mail) ⊕ (List Int×List Mail))
| (x25,x26,x27)=>
 ifb (decide (x25<(ln Side.row x8))) (
 (at_ x8 x25).bind fun x28=>
 (Zk9 x28).bind fun x29=>
 ifb x29 (
 (Zgd x26 x28.Peer).bind fun x30=>
 (Zvi x1 x2 x3 x4 x5 x7 x8 x9 x10 x11 x13 x25 x26 x27 x28) (!x30)) (
 (Zvi x1 x2 x3 x4 x5 x7 x8 x9 x10 x11 x13 x25 x26 x27 x28) false)) (
 Option.map Sum.inr (Zti (x26,x27)))
def Zxi (x1 x2:Int) (x3 x4:Int) (x5:List Sess) (x6:List Int) (x7:Int) (x8:List Side) (x9:List Int) (x10 x11:List KE) (x12:List Mail) (x13:List Event):Option (List Int×List Mail):=
 loop (Zwi x1 x2 x3 x4 x5 x7 x8 x9 x10 x11 x13) (0,x6,x12)
theorem Zyi (x1 x2:Int) (x3 x4:Int) (x5:List Sess) (x6:List Int) (x7:Int) (x8:List Side) (x9:List Int) (x10 x11:List KE) (x12:List Mail) (x13:List Event) (r:(List Int×List Mail)) (h:Zxi x1 x2 x3 x4 x5 x6 x7 x8 x9 x10 x11 x12 x13=some r):Zq5 Tryz.prog 132 [.ptr 0 0] [some ⟨81,[.iv x1,.iv x2,.osl 0,.iv x3,.osl 1,.iv x4,Sp3 x5,.osl 2,Sp0 x6,.osl 3,.osl 4,.osl 5,.iv x7]⟩] [Sq6 x8,Sq7 x9,Sq8 x10,Sq8 x11,Za7 x12,Z97 x13] (.tup []) [some ⟨81,[.iv x1,.iv x2,.osl 0,.iv x3,.osl 1,.iv x4,Sp3 x5,.osl 2,Sp0 r.1,.osl 3,.osl 7,.osl 5,.iv x7]⟩] [Sq6 x8,Sq7 x9,Sq8 x10,Sq8 x11,none,Z97 x13,none,Za7 r.2]:=by
 refine FT ok132 fun w0 M0=>?_
 rw [Zxi] at h
 dsimp only[lun,List.cons_append,List.nil_append]
 refine Vg 12 ?_;refine Zo4 (fun ((x54,x55):(List Int×List Mail))=>⟨an 45 [],[some ⟨81,[.iv x1,.iv x2,.osl 0,.iv x3,.osl 1,.iv x4,Sp3 x5,.osl 2,Sp0 x54,.osl 3,.osl 7,.osl 5,.iv x7]⟩],[Sq6 x8,Sq7 x9,Sq8 x10,Sq8 x11,none,Z97 x13,none,Za7 x55]⟩) Zti r ?_ fun J1=>?_
 ·rintro ⟨x54,x55⟩ h;rw [Zti] at h;(try dsimp only);obtain rfl:=Option.some.inj h;exact Z57 ok132
 ·refine Vg 1 ?_;refine Z37 74 5 ?_;dsimp only[go_sem];refine Z37 74 5 ?_;dsimp only[go_sem];refine Z07 4 7 ?_;dsimp only[go_sem]
  refine Zp4 h (fun ((x25,x26,x27):(Int×List Int×List Mail))=>⟨(.ptr 0 0::an 9 (.osl 0 :: .iv (ln Side.row x8) :: .iv x25::an 32 [])),[some ⟨81,[.iv x1,.iv x2,.osl 0,.iv x3,.osl 1,.iv x4,Sp3 x5,.osl 2,Sp0 x26,.osl 3,.osl 7,.osl 5,.iv x7]⟩],[Sq6 x8,Sq7 x9,Sq8 x10,Sq8 x11,none,Z97 x13,none,Za7 x27]⟩) (by simp [go_sem]) (by rintro ⟨x25,x26,x27⟩;first | rfl | simp [go_sem]) ?_
  rintro n1 ⟨x25,x26,x27⟩ y1 h hin1 hout1;rw [Zwi] at h;(try dsimp only);refine Vg 5 ?_;refine MI h (fun h=>?_) fun h=>?_
  ·refine Vg 5 ?_;have ⟨x28,ex28,h⟩:=Bs h;refine Zd5 Side.row ex28 trivial rfl rfl rfl (Zg5 Side.row ex28 trivial rfl rfl rfl (Vg 4 ?_))
   refine Zo4 (fun (x31:Bool)=>⟨(.ptr 0 0 :: .any :: .any :: .ptr 1 0::an 6 (.osl 0 :: .iv (ln Side.row x8) :: .iv x25::an 15 (.bv x31::an 16 []))),[some ⟨81,[.iv x1,.iv x2,.osl 0,.iv x3,.osl 1,.iv x4,Sp3 x5,.osl 2,Sp0 x26,.osl 3,.osl 7,.osl 5,.iv x7]⟩,some ⟨65,Side.row x28⟩],[Sq6 x8,Sq7 x9,Sq8 x10,Sq8 x11,none,Z97 x13,none,Za7 x27]⟩) (Zvi x1 x2 x3 x4 x5 x7 x8 x9 x10 x11 x13 x25 x26 x27 x28) y1 ?_ fun J2=>?_
   ·intro x31 h;rw [Zvi] at h;(try dsimp only)
    refine Zo4 (fun ((x34,x35):(List Int×List Mail))=>⟨(.ptr 0 0::an 9 (.osl 0 :: .iv (ln Side.row x8) :: .iv x25::an 32 [])),[some ⟨81,[.iv x1,.iv x2,.osl 0,.iv x3,.osl 1,.iv x4,Sp3 x5,.osl 2,Sp0 x34,.osl 3,.osl 7,.osl 5,.iv x7]⟩],[Sq6 x8,Sq7 x9,Sq8 x10,Sq8 x11,none,Z97 x13,none,Za7 x35]⟩) (Zui x25) y1 ?_ fun J3=>?_
    ·rintro ⟨x34,x35⟩ h;rw [Zui] at h;(try dsimp only);refine Vg 5 ?_;exact Zw4 h hin1
    ·refine MI h (fun h=>?_) fun h=>?_
     ·refine Vg 4 ?_;have ⟨x32,ex32,h⟩:=Bs h;refine Z67 [0] [0,1,2,3,7,5] 2 8 (Zqc x28 5 x1 x2 x3 x4 x5 x26 x7 x8 x9 x10 x11 x27 x13 _ ex32) ?_;refine Vg 1 ?_;refine Zz6 fun all H=>?_;dsimp only[go_sem]
      refine GP H 8 5 [8,5] [(32,[.ptr 0 0,.ptr 0 0,.ptr 0 0,.ptr 0 0,.ptr 0 8,Sp0 x26,.ptr 1 0,.iv x28.Peer])] ?_;dsimp only[go_sem];refine Z64 8 rfl ?_;have ⟨x33,ex33,h⟩:=Bs h;refine GC H.1 (k_set_Add x26 x28.Peer _ ex33) ?_;refine Gn H 3 1 ?_;refine GE H.1 12 ?_;dsimp only[go_sem];refine GD (Z07 9 7 ?_);dsimp only[go_sem]
      exact Zx4 J3 h
     ·refine Vg 1 ?_;exact Zx4 J3 h
   ·refine Zz6 fun all H=>?_;refine Gn H 1 12 ?_;refine Z64 1 rfl ?_;have ⟨x29,ex29,h⟩:=Bs h;refine GC H.1 (Zl9 x28 _ ex29) ?_;refine Gn H 1 10 ?_;refine Z25 18 h rfl (fun _ h=>?_) fun _ h=>?_
    ·dsimp only[go_sem];refine GP H 7 3 [10,3] [(19,[.ptr 0 0,.ptr 0 0,.ptr 0 0,.ptr 0 8,Sp0 x26,.ptr 1 0,.iv x28.Peer])] ?_;dsimp only[go_sem];refine Z64 10 rfl ?_;have ⟨x30,ex30,h⟩:=Bs h;refine GC H.1 (Zhd x26 x28.Peer _ ex30) ?_;refine Gn H 2 0 ?_;refine GD ?_;exact Zx4 J2 h
    ·dsimp only[go_sem];refine GP H 10 0 [13] [(19,[.un,.un,.un,.un,.un,.un,.un,.un,.un,.ff])] ?_;dsimp only[go_sem];refine GD ?_;exact Zx4 J2 h
  ·refine Vg 1 ?_;exact Zx4 J1 (Zn4 h hout1)
def Zzi (x1:Side) (x2:Int) (x3 x4 x5:Int) (x6:List Sess) (x7:List Int) (x8:Int) (x9:List Side) (x10:List Int) (x11 x12:List KE) (x13:List Mail) (x14:List Event):Option (List Side×List KE):=
 (Z79 x9 x1.Peer ((fun z=>Z99 z.1 z.2))).bind fun x15=>
 (Zqg x9 x15.1 ([x1])).bind fun x16=>
 (Z5i x1.Peer x1.Epoch x2 x3 x4 x5 x6 x7 x8 x16 x10 x11 x12 x13 x14).bind fun x17=>
 some (x16,x17)
theorem Z0j (x1:Side) (x2:Int) (x3 x4 x5:Int) (x6:List Sess) (x7:List Int) (x8:Int) (x9:List Side) (x10:List Int) (x11 x12:List KE) (x13:List Mail) (x14:List Event) (r:(List Side×List KE)) (h:Zzi x1 x2 x3 x4 x5 x6 x7 x8 x9 x10 x11 x12 x13 x14=some r):Zq5 Tryz.prog 34 [.ptr 0 0,.agg (Side.row x1)] [some ⟨81,[.iv x2,.iv x3,.osl 0,.iv x4,.osl 1,.iv x5,Sp3 x6,.osl 2,Sp0 x7,.osl 3,.osl 4,.osl 5,.iv x8]⟩] [Sq6 x9,Sq7 x10,Sq8 x11,Sq8 x12,Za7 x13,Z97 x14] (.tup []) [some ⟨81,[.iv x2,.iv x3,.osl 7,.iv x4,.osl 1,.iv x5,Sp3 x6,.osl 9,Sp0 x7,.osl 3,.osl 4,.osl 5,.iv x8]⟩] [none,Sq7 x10,none,Sq8 x12,Za7 x13,Z97 x14,none,Sq6 r.1,none,Sq8 r.2]:=by
 refine FT ok34 fun w0 M0=>?_
 rw [Zzi] at h
 dsimp only[lun,List.cons_append,List.nil_append]
 refine Vg 5 ?_;refine Zz6 fun all H=>?_;dsimp only[go_sem];refine GP H 8 7 [6,1,2,6] [(7,[.ptr 0 0,.ptr 0 0,.ptr 0 0,.ptr 0 0,.ptr 0 0,.ptr 0 2]),(1,[.ptr 1 0,.iv x1.Peer])] ?_;dsimp only[go_sem];refine GE H.1 6 ?_;dsimp only[go_sem];refine Z64 9 rfl ?_;have ⟨x15,ex15,h⟩:=Bs h
 refine GK H.1 (LR.slice 0 rfl) (Z89 x9 x1.Peer _ _ ((fun z=>Z99 z.1 z.2)) ⟨by kernel_rfl,rfl,fun z r hz=>Za9 z.1 z.2 r hz⟩ _ ex15) ?_;dsimp only[go_sem];refine GP H 5 0 [15] [(4,[.iv x15.1,.bv x15.2,.tup [.iv x15.1,.bv x15.2]]),(10,[.iv x15.1,.bv x15.2])] ?_;dsimp only[go_sem];refine GD (Vg 1 ?_);refine Zz6 fun all H=>?_;dsimp only[go_sem]
 refine GP H 9 9 [7,1,2,8] [(19,[.ptr 0 0,.ptr 0 0,.ptr 0 0,.ptr 0 0,.ptr 0 0,.ptr 0 0,.ptr 0 2]),(1,[.iv x15.1,.agg (Side.row x1)])] ?_;dsimp only[go_sem];refine Z74 7 10 rfl ?_ ?_
 ·refine GV H.1 ?_;dsimp only[go_sem];refine GE H.1 10 ?_;dsimp only[go_sem];refine Z64 11 rfl ?_;have ⟨x16,ex16,h⟩:=Bs h;refine Z77 H.1 [] [0,6] 2 7 (Zrg x9 x15.1 ([x1]) _ ex16) ?_;dsimp only[go_sem];refine GP H 5 1 [17,1] [(31,[.ptr 0 0,.ptr 0 0,.ptr 0 0,.ptr 0 0,.ptr 0 2])] ?_;dsimp only[go_sem];refine GE H.1 17 ?_
  dsimp only[go_sem];refine GD (Vg 6 ?_);have ⟨x17,ex17,h⟩:=Bs h;refine Z67 [0] [7,1,2,3,4,5] 2 8 (Z6i x1.Peer x1.Epoch x2 x3 x4 x5 x6 x7 x8 x16 x10 x11 x12 x13 x14 _ ex17) ?_;refine Vg 1 ?_;obtain rfl:=Option.some.inj h;exact Z57 ok34
 ·refine GV H.1 ?_;dsimp only[go_sem];refine GE H.1 7 ?_;dsimp only[go_sem];refine Z64 11 rfl ?_;have ⟨x16,ex16,h⟩:=Bs h;refine Z77 H.1 [] [0,6] 2 7 (Zrg x9 x15.1 ([x1]) _ ex16) ?_;dsimp only[go_sem];refine GP H 5 1 [17,1] [(31,[.ptr 0 0,.ptr 0 0,.ptr 0 0,.ptr 0 0,.ptr 0 2])] ?_;dsimp only[go_sem];refine GE H.1 17 ?_
  dsimp only[go_sem];refine GD (Vg 6 ?_);have ⟨x17,ex17,h⟩:=Bs h;refine Z67 [0] [7,1,2,3,4,5] 2 8 (Z6i x1.Peer x1.Epoch x2 x3 x4 x5 x6 x7 x8 x16 x10 x11 x12 x13 x14 _ ex17) ?_;refine Vg 1 ?_;obtain rfl:=Option.some.inj h;exact Z57 ok34
@[go_sem] def e104:EC:=(by have h:=hF Tryz.f104;(conv at h=>rhs;reduce);dsimp only[go_sem] at h;exact ⟨_,h⟩:DP Tryz.f104).1
theorem ok104:FnOK Tryz.prog 104 Tryz.f104 e104 [.t 6] 3 37:=okA
@[go_sem] def e108:EC:=(by have h:=hF Tryz.f108;(conv at h=>rhs;reduce);dsimp only[go_sem] at h;exact ⟨_,h⟩:DP Tryz.f108).1
theorem ok108:FnOK Tryz.prog 108 Tryz.f108 e108 [.t 3] 2 13:=okA
def Z1j:Bool→Option Bool
| x5=>
 some x5
def Z2j (x1:Sess) (x2:Node):Option Bool:=
 ifb (decide (x1.State=0)) (
 (Zjb x2).bind fun x3=>
 (Zlh x1.Need x3).bind fun x4=>
 Z1j (!x4)) (
 Z1j false)
theorem Z3j (x1:Sess) (x2:Node) (r:Bool) (h:Z2j x1 x2=some r):Z03 Tryz.prog 108 [.agg (Sess.row x1),.elt (Node.row x2) 0] (.bv r):=by
 refine FP ok108 fun w0 H0=>?_
 rw [Z2j] at h
 refine Vg 6 ?_;refine Zo4 (fun (x5:Bool)=>⟨an 3 (.bv x5::an 11 []),[],[]⟩) Z1j r ?_ fun J1=>?_
 ·intro x5 h;rw [Z1j] at h;(try dsimp only);exact MD ok108 h
 ·refine Zz6 fun all H=>?_;refine Gn H 4 8 ?_;refine Z25 7 h rfl (fun _ h=>?_) fun _ h=>?_
  ·refine Gn H 3 5 ?_;refine Z64 7 rfl ?_;have ⟨x3,ex3,h⟩:=Bs h;refine GC H.1 (Zkb x2 _ ex3) ?_;dsimp only[go_sem];refine Z64 8 rfl ?_;have ⟨x4,ex4,h⟩:=Bs h;refine GC H.1 (Zmh x1.Need x3 _ ex4) ?_;refine Gn H 3 0 ?_;refine GD ?_;exact Zx4 J1 h
  ·dsimp only[go_sem];refine GP H 8 0 [12] [(14,[.ff])] ?_;dsimp only[go_sem];refine GD ?_;exact Zx4 J1 h
def Z4j (x1 x2:Int):(Bool×List Side)→Option (Int×Int×Int×List Side)
| (x12,x13)=>
 ifb x12 (
 some (0,0,132,([]:List Side))) (
 some (x1,x2,0,x13))
def Z5j (x1 x2 x7:Int) (x8:List Side) (x9:Side):Bool→Option (Int×Int×Int×List Side)
| x11=>
 ifb x11 (
 (Z4j x1 x2) (x9.Token,x8.set (Int.toNat (x7)) (Side.mk x9.Peer x9.Epoch x9.State x9.Fork x9.DY true x9.BO x9.Ask))) (
 some (0,0,133,([]:List Side)))
def Z6j (x1 x2:Int) (x4:Msg) (x7:Int) (x8:List Side) (x9:Side):Bool→Option (Int×Int×Int×List Side)
| x10=>
 ifb x10 (
 (Z4j x1 x2) (x9.Fork,x8.set (Int.toNat (x7)) (Side.mk x9.Peer x9.Epoch x9.State true x9.DY x9.Token x9.BO x9.Ask))) (
 ifb (decide (x4.Kind=2)) (
 (Z5j x1 x2 x7 x8 x9) (decide (x4.Num=0))) (
 (Z5j x1 x2 x7 x8 x9) false))
def Z7j (x1 x2 x3:Int) (x4:Msg) (x5:List Side):Option (Int×Int×Int×List Side):=
 (Zlg (DI.mk x1 x2 x5)).bind fun x6=>
 ifb (!decide (x6=0)) (
 some (0,0,x6,([]:List Side))) (
 (Ze7 x5 ((fun z=>Zi8 z x3 x4))).bind fun x7=>
 ifb (decide (x7<0)) (
 some (0,0,131,([]:List Side))) (
 (Zj8 x5).bind fun x8=>
 (at_ x8 x7).bind fun x9=>
 ifb (decide (x4.Kind=1)) (
 (Z6j x1 x2 x4 x7 x8 x9) (decide (x4.Num=0))) (
 (Z6j x1 x2 x4 x7 x8 x9) false)))
theorem t_dine_Get_I1 (x1 x2 x3:Int) (x4:Msg) (x5:List Side) (r:(Int×Int×Int×List Side)) (h:Z7j x1 x2 x3 x4 x5=some r):Zq5 Tryz.prog 136 [.agg [.iv x1,.iv x2,.osl 0],.iv x3,.agg (Msg.row x4)] [] [Sq6 x5] (.tup [.agg [.iv r.1,.iv r.2.1,.osl 1],.iv r.2.2.1]) [] [Sq6 x5,Sq6 r.2.2.2]:=by
 refine FT ok136 fun w0 M0=>?_
 rw [Z7j] at h
 dsimp only[lun,List.cons_append,List.nil_append]
 refine Vg 12 ?_;have ⟨x6,ex6,h⟩:=Bs h;refine VL (LR.slice 0 rfl) (Zmg (DI.mk x1 x2 x5) _ ex6) (Vg 7 ?_);refine MI h (fun h=>?_) fun h=>?_
 ·refine Vg 7 ?_;refine Z27 3 2 65 8 ?_;dsimp only[go_sem];obtain rfl:=Option.some.inj h;exact Z47 ok136
 ·refine Vg 6 ?_;have ⟨x7,ex7,h⟩:=Bs h;refine VL (((LR.slice 0 rfl).block 1 rfl rfl).block 2 rfl rfl) (Zf7 x5 _ _ ((fun z=>Zi8 z x3 x4)) ⟨by kernel_rfl,rfl,fun z r hz=>k_dine_Get_1 z x3 x4 r hz⟩ _ ex7) (Vg 8 ?_);refine MI h (fun h=>?_) fun h=>?_
  ·refine Vg 6 ?_;refine Z27 3 2 65 8 ?_;dsimp only[go_sem];obtain rfl:=Option.some.inj h;exact Z47 ok136
  ·refine Vg 5 ?_;have ⟨x8,ex8,h⟩:=Bs h;refine Z67 [] [0] 4 1 (Zwb x5 _ ex8) ?_;refine Vg 8 ?_;have ⟨x9,ex9,h⟩:=Bs h;refine Zd5 Side.row ex9 trivial rfl rfl rfl (Vg 14 ?_)
   refine Zo4 (fun (x10:Bool)=>⟨an 3 (.ptr 0 0 :: .any :: .ptr 2 0 :: .ptr 3 0::an 3 (.oel 1 (Int.toNat (x7)*8) 0::an 23 (.bv x10::an 34 []))),[some ⟨25,[.iv x1,.iv x2,.osl 1]⟩,none,some ⟨41,Msg.row x4⟩,some ⟨25,[.iv 0,.iv 0,.nl]⟩],[Sq6 x5,Sq6 x8]⟩) (Z6j x1 x2 x4 x7 x8 x9) r ?_ fun J1=>?_
   ·intro x10 h;rw [Z6j] at h;(try dsimp only);refine Zo4 (fun ((x12,x13):(Bool×List Side))=>⟨an 3 (.ptr 0 0 :: .any :: .any :: .ptr 3 0::an 4 (.bv x12::an 57 [])),[some ⟨25,[.iv x1,.iv x2,.osl 1]⟩,none,none,some ⟨25,[.iv 0,.iv 0,.nl]⟩],[Sq6 x5,Sq6 x13]⟩) (Z4j x1 x2) r ?_ fun J2=>?_
    ·rintro ⟨x12,x13⟩ h;rw [Z4j] at h;(try dsimp only);refine Vg 6 ?_;refine MI h (fun h=>?_) fun h=>?_
     ·refine Vg 6 ?_;refine Z27 3 2 65 8 ?_;dsimp only[go_sem];refine Z07 2 1 ?_;dsimp only[go_sem];obtain rfl:=Option.some.inj h;exact Z47 ok136
     ·refine Vg 7 ?_;obtain rfl:=Option.some.inj h;exact Z47 ok136
    ·refine MI h (fun h=>?_) fun h=>?_
     ·refine Vg 5 ?_;refine Zf5 Side.row ex9 trivial rfl rfl rfl (Vg 3 ?_);refine Zk5 [.bv true] Side.row (y':=(Side.mk x9.Peer x9.Epoch x9.State true x9.DY x9.Token x9.BO x9.Ask)) ex9 trivial rfl rfl rfl (by first | exact Zi4 _ | simp [go_sem]) rfl rfl rfl rfl (Vg 1 ?_);exact Zx4 J2 h
     ·refine Vg 6 ?_;refine Zo4 (fun (x11:Bool)=>⟨an 3 (.ptr 0 0 :: .any :: .any :: .ptr 3 0::an 3 (.oel 1 (Int.toNat (x7)*8) 0::an 39 (.bv x11::an 18 []))),[some ⟨25,[.iv x1,.iv x2,.osl 1]⟩,none,none,some ⟨25,[.iv 0,.iv 0,.nl]⟩],[Sq6 x5,Sq6 x8]⟩) (Z5j x1 x2 x7 x8 x9) r ?_ fun J3=>?_
      ·intro x11 h;rw [Z5j] at h;(try dsimp only);refine MI h (fun h=>?_) fun h=>?_
       ·refine Vg 5 ?_;refine Zf5 Side.row ex9 trivial rfl rfl rfl (Vg 3 ?_);refine Zk5 [.bv true] Side.row (y':=(Side.mk x9.Peer x9.Epoch x9.State x9.Fork x9.DY true x9.BO x9.Ask)) ex9 trivial rfl rfl rfl (by first | exact Zi4 _ | simp [go_sem]) rfl rfl rfl rfl (Vg 1 ?_);exact Zx4 J2 h
       ·refine Vg 6 ?_;refine Z27 3 2 65 8 ?_;dsimp only[go_sem];refine Z07 2 1 ?_;dsimp only[go_sem];obtain rfl:=Option.some.inj h;exact Z47 ok136
      ·refine MC 54 h (fun h=>?_) fun h=>?_
       ·refine Vg 6 ?_;exact Zx4 J3 h
       ·refine Vg 6 ?_;exact Zx4 J3 h
   ·refine MC 38 h (fun h=>?_) fun h=>?_
    ·refine Vg 6 ?_;exact Zx4 J1 h
    ·refine Vg 6 ?_;exact Zx4 J1 h
end
end NX
end Go.Proofs.YtdjkbodnjhgbcaaGreat
