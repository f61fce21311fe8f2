/-
  The function narthex/dine.Fire, lent own memory. Written by a program of ours (lb.py). No statement of the seat is proved here.
-/
import Derived.Test.YtdjkbodnjhgbcaaGreatB24
set_option maxRecDepth 100000
set_option maxHeartbeats 4000000
namespace Go.Proofs.YtdjkbodnjhgbcaaGreat
namespace NX
open Go
noncomputable section
def Zbi (x1:DI) (x50:List Mail):(Int×List Side)→Option (Int×Int×Int×List Side×List Mail)
| (x65,x66)=>
 some (x1.ID,x65,0,x66,x50)
def Zci (x1:DI) (x49:List Side) (x50:List Mail):(Int×List Side)→Option ((Int×List Side) ⊕ (Int×Int×Int×List Side×List Mail))
| (x55,x56)=>
 ifb (decide (x55<(ln Side.row x49))) (
 (at_ x56 x55).bind fun x57=>
 some (.inl (wr (x55+1),x56.set (Int.toNat (x55)) (Side.mk x57.Peer x57.Epoch x57.State x57.Fork true x57.Token x57.BO x57.Ask)))) (
 Option.map Sum.inr ((Zbi x1 x50) (2,x56)))
def Zdi (x1:DI) (x49:List Side) (x50:List Mail):Bool→Option (Int×Int×Int×List Side×List Mail)
| x51=>
 ifb x51 (
 loop (Zci x1 x49 x50) (0,x49)) (
 (Zbi x1 x50) (x1.PH,x49))
def Zei (x1:DI):(Bool×List Side×List Mail)→Option (Int×Int×Int×List Side×List Mail)
| (x48,x49,x50)=>
 ifb (decide (x1.PH=1)) (
 (Zdi x1 x49 x50) x48) (
 (Zdi x1 x49 x50) false)
def Zfi (x21:Int) (x33:List Side) (x34:List Mail):Bool→Option ((Bool×Int×List Side×List Mail) ⊕ (Int×Int×Int×List Side×List Mail))
| x36=>
 some (.inl (x36,wr (x21+1),x33,x34))
def Zgi (x20:Bool) (x21:Int):(List Side×List Mail)→Option ((Bool×Int×List Side×List Mail) ⊕ (Int×Int×Int×List Side×List Mail))
| (x33,x34)=>
 ifb x20 (
 (at_ x33 x21).bind fun x35=>
 (Zfi x21 x33 x34) x35.Fork) (
 (Zfi x21 x33 x34) false)
def Zhi (x1:DI) (x20:Bool) (x21:Int) (x27:List Side) (x28:List Mail):Bool→Option ((Bool×Int×List Side×List Mail) ⊕ (Int×Int×Int×List Side×List Mail))
| x30=>
 ifb x30 (
 (at_ x27 x21).bind fun x31=>
 (Zgb 2 x1.ID x1.PH x21 x28 (x27.set (Int.toNat (x21)) (Side.mk x31.Peer x31.Epoch x31.State x31.Fork x31.DY false x31.BO x31.Ask))).bind fun x32=>
 (Zgi x20 x21) ((x27.set (Int.toNat (x21)) (Side.mk x31.Peer x31.Epoch x31.State x31.Fork x31.DY false x31.BO x31.Ask)),x32)) (
 (Zgi x20 x21) (x27,x28))
def Zii (x1:DI) (x20:Bool) (x21:Int):(List Side×List Mail)→Option ((Bool×Int×List Side×List Mail) ⊕ (Int×Int×Int×List Side×List Mail))
| (x27,x28)=>
 ifb (decide (x1.PH=1)) (
 (at_ x27 x21).bind fun x29=>
 ifb x29.Token (
 (Zhi x1 x20 x21 x27 x28) (!x29.Fork)) (
 (Zhi x1 x20 x21 x27 x28) false)) (
 (Zhi x1 x20 x21 x27 x28) false)
def Zji (x1:DI) (x20:Bool) (x21:Int) (x22:List Side) (x23:List Mail) (x24:Side):Bool→Option ((Bool×Int×List Side×List Mail) ⊕ (Int×Int×Int×List Side×List Mail))
| x25=>
 ifb x25 (
 (Zgb 1 x1.ID x1.PH x21 x23 (x22.set (Int.toNat (x21)) (Side.mk x24.Peer x24.Epoch x24.State false false x24.Token x24.BO x24.Ask))).bind fun x26=>
 (Zii x1 x20 x21) ((x22.set (Int.toNat (x21)) (Side.mk x24.Peer x24.Epoch x24.State false false x24.Token x24.BO x24.Ask)),x26)) (
 (Zii x1 x20 x21) (x22,x23))
def Zki (x1:DI) (x3:List Side):(Bool×Int×List Side×List Mail)→Option ((Bool×Int×List Side×List Mail) ⊕ (Int×Int×Int×List Side×List Mail))
| (x20,x21,x22,x23)=>
 ifb (decide (x21<(ln Side.row x3))) (
 (at_ x22 x21).bind fun x24=>
 ifb x24.Fork (
 ifb x24.DY (
 ifb x24.Token (
 (Zji x1 x20 x21 x22 x23 x24) (!decide (x1.PH=2))) (
 (Zji x1 x20 x21 x22 x23 x24) false)) (
 (Zji x1 x20 x21 x22 x23 x24) false)) (
 (Zji x1 x20 x21 x22 x23 x24) false)) (
 Option.map Sum.inr ((Zei x1) (x20,x22,x23)))
def Zli (x1:DI):Option (Int×Int×Int×List Side×List Mail):=
 (Zmg x1).bind fun x2=>
 ifb (!decide (x2=0)) (
 some (0,0,x2,([]:List Side),([]:List Mail))) (
 (Zk8 x1.SD).bind fun x3=>
 loop (Zki x1 x3) (true,0,x3,([]:List Mail)))
theorem Zmi (x1:DI) (r:(Int×Int×Int×List Side×List Mail)) (h:Zli x1=some r):Zr5 Tryz.prog 174 [.agg (DI.row x1)] [] [] (.tup [.agg [.iv r.1,.iv r.2.1,.osl 0],.osl 1,.iv r.2.2.1]) [] [Sq6 r.2.2.2.1,Zb7 r.2.2.2.2]:=by
 refine FT ok174 fun w0 M0=>?_
 rw [Zli] at h
 dsimp only[lun,List.cons_append,List.nil_append]
 refine Zv2 11 ?_;dsimp only[go_sem];refine An ?_;have ⟨x2,ex2,h⟩:=Bs h;refine VC (Zng x1 _ ex2) (Zv2 7 ?_);dsimp only[go_sem];refine An (MI h (fun h=>?_) fun h=>?_)
 ·refine Zv2 8 ?_;dsimp only[go_sem];refine An (Z37 1 2 65 8 ?_);dsimp only[go_sem];refine Zf4 3 74 5 rfl rfl ?_;dsimp only[go_sem];obtain rfl:=Option.some.inj h;exact Z57 ok174
 ·refine Zv2 5 ?_;dsimp only[go_sem];refine An ?_;have ⟨x3,ex3,h⟩:=Bs h;refine Z85 trivial (Zl8 x1.SD _ ex3) (h:=?_);refine Zv2 19 ?_;dsimp only[go_sem];refine An (Zo4 (fun ((x48,x49,x50):(Bool×List Side×List Mail))=>(⟨(.any :: .ptr 0 0 :: .ptr 1 0::an 3 (.ptr 2 0 :: .bv x48::an 104 [])),[some ⟨25,[.iv x1.ID,.iv x1.PH,.osl 0]⟩,some ⟨25,[.iv 0,.iv 0,.nl]⟩,some ⟨44,[.osl 1]⟩],[Sq6 x49,Zb7 x50]⟩:St)) (Zei x1) r ?_ fun J1=>?_)
  ·rintro ⟨x48,x49,x50⟩ h;rw [Zei] at h;(try dsimp only);refine Zv2 7 ?_;dsimp only[go_sem];refine An (Zo4 (fun (x51:Bool)=>(⟨(.any :: .ptr 0 0 :: .ptr 1 0::an 3 (.ptr 2 0::an 89 (.bv x51::an 15 []))),[some ⟨25,[.iv x1.ID,.iv x1.PH,.osl 0]⟩,some ⟨25,[.iv 0,.iv 0,.nl]⟩,some ⟨44,[.osl 1]⟩],[Sq6 x49,Zb7 x50]⟩:St)) (Zdi x1 x49 x50) r ?_ fun J7=>?_)
   ·intro x51 h;rw [Zdi] at h;(try dsimp only);refine Zo4 (fun ((x65,x66):(Int×List Side))=>(⟨(.any :: .ptr 0 0 :: .ptr 1 0::an 3 (.ptr 2 0::an 105 [])),[some ⟨25,[.iv x1.ID,.iv x65,.osl 0]⟩,some ⟨25,[.iv 0,.iv 0,.nl]⟩,some ⟨44,[.osl 1]⟩],[Sq6 x66,Zb7 x50]⟩:St)) (Zbi x1 x50) r ?_ fun J8=>?_
    ·rintro ⟨x65,x66⟩ h;rw [Zbi] at h;(try dsimp only);refine Zv2 1 ?_;dsimp only[go_sem];refine An (Z07 fun all H=>?_);dsimp only[go_sem];refine Z74 0 1 rfl ?_ ?_
     ·refine GV H.1 ?_;dsimp only[go_sem];refine Z74 1 2 rfl ?_ ?_
      ·refine GV H.1 ?_;dsimp only[go_sem];refine GE H.1 2 ?_;dsimp only[go_sem];refine GN H 2 0 ?_;dsimp only[go_sem];refine An (GD ?_);obtain rfl:=Option.some.inj h;exact Z57 ok174
      ·refine GV H.1 ?_;dsimp only[go_sem];refine GE H.1 1 ?_;dsimp only[go_sem];refine GN H 2 0 ?_;dsimp only[go_sem];refine An (GD ?_);obtain rfl:=Option.some.inj h;exact Z57 ok174
     ·refine GV H.1 ?_;dsimp only[go_sem];refine GE H.1 0 ?_;dsimp only[go_sem];refine GE H.1 2 ?_;dsimp only[go_sem];refine GN H 2 0 ?_;dsimp only[go_sem];refine An (GD ?_);obtain rfl:=Option.some.inj h;exact Z57 ok174
    ·refine MI h (fun h=>?_) fun h=>?_
     ·refine Zv2 13 ?_;dsimp only[go_sem];refine An (Zp4 h (fun ((x55,x56):(Int×List Side))=>(⟨(.any :: .ptr 0 0 :: .ptr 1 0::an 3 (.ptr 2 0::an 93 (.iv (ln Side.row x49) :: .iv x55::an 10 []))),[some ⟨25,[.iv x1.ID,.iv 2,.osl 0]⟩,some ⟨25,[.iv 0,.iv 0,.nl]⟩,some ⟨44,[.osl 1]⟩],[Sq6 x56,Zb7 x50]⟩:St)) (by simp [go_sem]) (by rintro ⟨x55,x56⟩;first | rfl | simp [go_sem]) ?_);rintro n1 ⟨x55,x56⟩ y1 h hin1 hout1;rw [Zci] at h;(try dsimp only);refine Zv2 5 ?_
      dsimp only[go_sem];refine An (MI h (fun h=>?_) fun h=>?_)
      ·refine Zv2 12 ?_;dsimp only[go_sem];refine An ?_;have ⟨x57,ex57,h⟩:=Bs h;refine Ze5 Side.row ex57 trivial rfl rfl rfl (Zv2 1 ?_);dsimp only[go_sem];refine An (Zl5 [.bv true] Side.row (y':=(Side.mk x57.Peer x57.Epoch x57.State x57.Fork true x57.Token x57.BO x57.Ask)) ex57 trivial rfl rfl rfl (by first | exact Zi4 _ | simp [go_sem]) rfl rfl rfl rfl (Zv2 6 ?_));dsimp only[go_sem];refine An ?_;exact Zx4 h hin1
      ·refine Zv2 1 ?_;dsimp only[go_sem];refine An ?_;exact Zy4 J8 (s:=(2,x56)) (Zn4 h hout1)
     ·refine Zv2 1 ?_;dsimp only[go_sem];refine An ?_;exact Zy4 J8 (s:=(x1.PH,x49)) h
   ·refine MC 94 h (fun h=>?_) fun h=>?_
    ·dsimp only[go_sem];refine Zv2 3 ?_;dsimp only[go_sem];refine An ?_;exact Zy4 J7 (s:=x48) h
    ·dsimp only[go_sem];refine Zv2 3 ?_;dsimp only[go_sem];refine An ?_;exact Zy4 J7 (s:=false) h
  ·refine Zv2 1 ?_;dsimp only[go_sem];refine An (Z37 2 0 74 5 ?_);dsimp only[go_sem];refine Zp4 h (fun ((x20,x21,x22,x23):(Bool×Int×List Side×List Mail))=>(⟨(.any :: .ptr 0 0 :: .ptr 1 0::an 3 (.ptr 2 0 :: .bv x20::an 16 (.iv (ln Side.row x3) :: .iv x21::an 86 []))),[some ⟨25,[.iv x1.ID,.iv x1.PH,.osl 0]⟩,some ⟨25,[.iv 0,.iv 0,.nl]⟩,some ⟨44,[.osl 1]⟩],[Sq6 x22,Zb7 x23]⟩:St)) (by simp [go_sem]) (by rintro ⟨x20,x21,x22,x23⟩;first | rfl | simp [go_sem]) ?_
   rintro n1 ⟨x20,x21,x22,x23⟩ y1 h hin1 hout1;rw [Zki] at h;(try dsimp only);refine Zv2 5 ?_;dsimp only[go_sem];refine An (MI h (fun h=>?_) fun h=>?_)
   ·refine Zv2 13 ?_;dsimp only[go_sem];refine An ?_;have ⟨x24,ex24,h⟩:=Bs h;refine Ze5 Side.row ex24 trivial rfl rfl rfl (Zv2 14 ?_);dsimp only[go_sem];refine An (Zg5 Side.row ex24 trivial rfl rfl rfl (Zv2 1 ?_));dsimp only[go_sem];refine An ?_
    refine Zo4 (fun (x25:Bool)=>(⟨(.any :: .ptr 0 0 :: .ptr 1 0::an 3 (.ptr 2 0 :: .bv x20 :: .any :: .ptr 3 0 :: .clo 184 [.ptr 2 0,.ptr 0 0,.ptr 3 0]::an 13 (.iv (ln Side.row x3) :: .iv x21::an 27 (.bv x25::an 58 [])))),[some ⟨25,[.iv x1.ID,.iv x1.PH,.osl 0]⟩,some ⟨25,[.iv 0,.iv 0,.nl]⟩,some ⟨44,[.osl 1]⟩,some ⟨179,[.oel 0 (Int.toNat (x21)*8) 0]⟩],[Sq6 x22,Zb7 x23]⟩:St)) (Zji x1 x20 x21 x22 x23 x24) y1 ?_ fun J2=>?_
    ·intro x25 h;rw [Zji] at h;(try dsimp only);refine Zo4 (fun ((x27,x28):(List Side×List Mail))=>(⟨(.any :: .ptr 0 0 :: .ptr 1 0::an 3 (.ptr 2 0 :: .bv x20 :: .any :: .ptr 3 0 :: .clo 184 [.ptr 2 0,.ptr 0 0,.ptr 3 0]::an 13 (.iv (ln Side.row x3) :: .iv x21::an 86 []))),[some ⟨25,[.iv x1.ID,.iv x1.PH,.osl 0]⟩,some ⟨25,[.iv 0,.iv 0,.nl]⟩,some ⟨44,[.osl 1]⟩,some ⟨179,[.oel 0 (Int.toNat (x21)*8) 0]⟩],[Sq6 x27,Zb7 x28]⟩:St)) (Zii x1 x20 x21) y1 ?_ fun J3=>?_
     ·rintro ⟨x27,x28⟩ h;rw [Zii] at h;(try dsimp only);refine Zv2 7 ?_;dsimp only[go_sem];refine An ?_
      refine Zo4 (fun (x30:Bool)=>(⟨(.any :: .ptr 0 0 :: .ptr 1 0::an 3 (.ptr 2 0 :: .bv x20 :: .any :: .ptr 3 0 :: .clo 184 [.ptr 2 0,.ptr 0 0,.ptr 3 0]::an 13 (.iv (ln Side.row x3) :: .iv x21::an 51 (.bv x30::an 34 [])))),[some ⟨25,[.iv x1.ID,.iv x1.PH,.osl 0]⟩,some ⟨25,[.iv 0,.iv 0,.nl]⟩,some ⟨44,[.osl 1]⟩,some ⟨179,[.oel 0 (Int.toNat (x21)*8) 0]⟩],[Sq6 x27,Zb7 x28]⟩:St)) (Zhi x1 x20 x21 x27 x28) y1 ?_ fun J4=>?_
      ·intro x30 h;rw [Zhi] at h;(try dsimp only);refine Zo4 (fun ((x33,x34):(List Side×List Mail))=>(⟨(.any :: .ptr 0 0 :: .ptr 1 0::an 3 (.ptr 2 0 :: .bv x20 :: .any :: .ptr 3 0::an 14 (.iv (ln Side.row x3) :: .iv x21::an 86 []))),[some ⟨25,[.iv x1.ID,.iv x1.PH,.osl 0]⟩,some ⟨25,[.iv 0,.iv 0,.nl]⟩,some ⟨44,[.osl 1]⟩,some ⟨179,[.oel 0 (Int.toNat (x21)*8) 0]⟩],[Sq6 x33,Zb7 x34]⟩:St)) (Zgi x20 x21) y1 ?_ fun J5=>?_
       ·rintro ⟨x33,x34⟩ h;rw [Zgi] at h;(try dsimp only);refine Zv2 3 ?_;dsimp only[go_sem];refine An (Zo4 (fun (x36:Bool)=>(⟨(.any :: .ptr 0 0 :: .ptr 1 0::an 3 (.ptr 2 0 :: .bv x36::an 16 (.iv (ln Side.row x3) :: .iv x21::an 86 []))),[some ⟨25,[.iv x1.ID,.iv x1.PH,.osl 0]⟩,some ⟨25,[.iv 0,.iv 0,.nl]⟩,some ⟨44,[.osl 1]⟩],[Sq6 x33,Zb7 x34]⟩:St)) (Zfi x21 x33 x34) y1 ?_ fun J6=>?_)
        ·intro x36 h;rw [Zfi] at h;(try dsimp only);refine Zv2 5 ?_;dsimp only[go_sem];refine An ?_;exact Zx4 h hin1
        ·refine MC 84 h (fun h=>?_) fun h=>?_
         ·dsimp only[go_sem];refine Zv2 3 ?_;dsimp only[go_sem];refine An ?_;have ⟨x35,ex35,h⟩:=Bs h;refine Zg5 Side.row ex35 trivial rfl rfl rfl (Zv2 3 ?_);dsimp only[go_sem];refine An ?_;exact Zy4 J6 (s:=x35.Fork) h
         ·dsimp only[go_sem];refine Zv2 7 ?_;dsimp only[go_sem];refine An ?_;exact Zy4 J6 (s:=false) h
       ·refine MI h (fun h=>?_) fun h=>?_
        ·refine Zv2 5 ?_;dsimp only[go_sem];refine An ?_;have ⟨x31,ex31,h⟩:=Bs h;refine Zl5 [.bv false] Side.row (y':=(Side.mk x31.Peer x31.Epoch x31.State x31.Fork x31.DY false x31.BO x31.Ask)) ex31 trivial rfl rfl rfl (by first | exact Zi4 _ | simp [go_sem]) rfl rfl rfl rfl (Zv2 3 ?_);dsimp only[go_sem];refine An ?_;have ⟨x32,ex32,h⟩:=Bs h
         refine Zu5 [true,false,true,true] [true,true] trivial rfl (Zz6 [2,0,3] [1,0] 4 2 (Zhb 2 x1.ID x1.PH x21 x28 (x27.set (Int.toNat (x21)) (Side.mk x31.Peer x31.Epoch x31.State x31.Fork x31.DY false x31.BO x31.Ask)) _ ex32)) (by kernel_rfl) (h:=?_);dsimp only[go_sem];refine Zv2 1 ?_;dsimp only[go_sem];refine An (Z17 3 1 ?_);dsimp only[go_sem];exact Zy4 J5 (s:=((x27.set (Int.toNat (x21)) (Side.mk x31.Peer x31.Epoch x31.State x31.Fork x31.DY false x31.BO x31.Ask)),x32)) h
        ·refine Zv2 1 ?_;dsimp only[go_sem];refine An ?_;exact Zy4 J5 (s:=(x27,x28)) h
      ·refine MC 65 h (fun h=>?_) fun h=>?_
       ·dsimp only[go_sem];refine Zv2 3 ?_;dsimp only[go_sem];refine An ?_;have ⟨x29,ex29,h⟩:=Bs h;refine Zg5 Side.row ex29 trivial rfl rfl rfl (Zv2 2 ?_);dsimp only[go_sem];refine An (MC 71 h (fun h=>?_) fun h=>?_)
        ·dsimp only[go_sem];refine Zv2 3 ?_;dsimp only[go_sem];refine An (Zg5 Side.row ex29 trivial rfl rfl rfl (Zv2 3 ?_));dsimp only[go_sem];refine An ?_;exact Zy4 J4 (s:=!x29.Fork) h
        ·dsimp only[go_sem];refine Zv2 7 ?_;dsimp only[go_sem];refine An ?_;exact Zy4 J4 (s:=false) h
       ·dsimp only[go_sem];refine Zv2 13 ?_;dsimp only[go_sem];refine An ?_;exact Zy4 J4 (s:=false) h
     ·refine MI h (fun h=>?_) fun h=>?_
      ·refine Zv2 1 ?_;dsimp only[go_sem];refine An (Z07 fun all H=>?_);dsimp only[go_sem];refine Z74 0 1 rfl ?_ ?_
       ·refine GV H.1 ?_;dsimp only[go_sem];refine GN H 2 5 ?_;dsimp only[go_sem];refine An (Z74 1 4 rfl ?_ ?_)
        ·refine GV H.1 ?_;dsimp only[go_sem];refine Z64 4 rfl (Zw5 H.1 [.bv false] Side.row (y':=(Side.mk x24.Peer x24.Epoch x24.State false x24.DY x24.Token x24.BO x24.Ask)) ex24 rfl trivial rfl rfl rfl (by first | exact Zi4 _ | simp [go_sem]) rfl rfl rfl rfl ?_);dsimp only[go_sem];refine GN H 2 1 ?_;dsimp only[go_sem];refine An (Z64 7 rfl ?_)
         refine Zx5 H.1 [.bv false] Side.row (y':=(Side.mk x24.Peer x24.Epoch x24.State false false x24.Token x24.BO x24.Ask)) (Zf5 ex24) rfl trivial rfl rfl rfl (by first | exact Zi4 _ | simp [go_sem]) rfl rfl rfl rfl ?_;dsimp only[go_sem];refine GD (Zv2 2 ?_);dsimp only[go_sem];refine An ?_;have ⟨x26,ex26,h⟩:=Bs h
         refine Zu5 [true,false,true,true] [true,true] trivial rfl (Zz6 [2,0,3] [1,0] 4 2 (Zhb 1 x1.ID x1.PH x21 x23 (x22.set (Int.toNat (x21)) (Side.mk x24.Peer x24.Epoch x24.State false false x24.Token x24.BO x24.Ask)) _ ex26)) (by kernel_rfl) (h:=?_);dsimp only[go_sem];refine Zv2 1 ?_;dsimp only[go_sem];refine An (Z17 3 1 ?_);dsimp only[go_sem];exact Zy4 J3 (s:=((x22.set (Int.toNat (x21)) (Side.mk x24.Peer x24.Epoch x24.State false false x24.Token x24.BO x24.Ask)),x26)) h
        ·refine Zw5 H.1 [.bv false] Side.row (y':=(Side.mk x24.Peer x24.Epoch x24.State false x24.DY x24.Token x24.BO x24.Ask)) ex24 rfl trivial rfl rfl rfl (by first | exact Zi4 _ | simp [go_sem]) rfl rfl rfl rfl ?_;dsimp only[go_sem];refine GE H.1 1 ?_;dsimp only[go_sem];refine GN H 2 1 ?_;dsimp only[go_sem];refine An (Z64 7 rfl ?_)
         refine Zx5 H.1 [.bv false] Side.row (y':=(Side.mk x24.Peer x24.Epoch x24.State false false x24.Token x24.BO x24.Ask)) (Zf5 ex24) rfl trivial rfl rfl rfl (by first | exact Zi4 _ | simp [go_sem]) rfl rfl rfl rfl ?_;dsimp only[go_sem];refine GD (Zv2 2 ?_);dsimp only[go_sem];refine An ?_;have ⟨x26,ex26,h⟩:=Bs h
         refine Zu5 [true,false,true,true] [true,true] trivial rfl (Zz6 [2,0,3] [1,0] 4 2 (Zhb 1 x1.ID x1.PH x21 x23 (x22.set (Int.toNat (x21)) (Side.mk x24.Peer x24.Epoch x24.State false false x24.Token x24.BO x24.Ask)) _ ex26)) (by kernel_rfl) (h:=?_);dsimp only[go_sem];refine Zv2 1 ?_;dsimp only[go_sem];refine An (Z17 3 1 ?_);dsimp only[go_sem];exact Zy4 J3 (s:=((x22.set (Int.toNat (x21)) (Side.mk x24.Peer x24.Epoch x24.State false false x24.Token x24.BO x24.Ask)),x26)) h
       ·refine GV H.1 ?_;dsimp only[go_sem];refine GE H.1 0 ?_;dsimp only[go_sem];refine GN H 2 4 ?_;dsimp only[go_sem];refine An (Z64 4 rfl (Zw5 H.1 [.bv false] Side.row (y':=(Side.mk x24.Peer x24.Epoch x24.State false x24.DY x24.Token x24.BO x24.Ask)) ex24 rfl trivial rfl rfl rfl (by first | exact Zi4 _ | simp [go_sem]) rfl rfl rfl rfl ?_));dsimp only[go_sem];refine GN H 2 1 ?_;dsimp only[go_sem];refine An (Z64 7 rfl ?_)
        refine Zx5 H.1 [.bv false] Side.row (y':=(Side.mk x24.Peer x24.Epoch x24.State false false x24.Token x24.BO x24.Ask)) (Zf5 ex24) rfl trivial rfl rfl rfl (by first | exact Zi4 _ | simp [go_sem]) rfl rfl rfl rfl ?_;dsimp only[go_sem];refine GD (Zv2 2 ?_);dsimp only[go_sem];refine An ?_;have ⟨x26,ex26,h⟩:=Bs h
        refine Zu5 [true,false,true,true] [true,true] trivial rfl (Zz6 [2,0,3] [1,0] 4 2 (Zhb 1 x1.ID x1.PH x21 x23 (x22.set (Int.toNat (x21)) (Side.mk x24.Peer x24.Epoch x24.State false false x24.Token x24.BO x24.Ask)) _ ex26)) (by kernel_rfl) (h:=?_);dsimp only[go_sem];refine Zv2 1 ?_;dsimp only[go_sem];refine An (Z17 3 1 ?_);dsimp only[go_sem];exact Zy4 J3 (s:=((x22.set (Int.toNat (x21)) (Side.mk x24.Peer x24.Epoch x24.State false false x24.Token x24.BO x24.Ask)),x26)) h
      ·refine Zv2 1 ?_;dsimp only[go_sem];refine An ?_;exact Zy4 J3 (s:=(x22,x23)) h
    ·refine MC 37 h (fun h=>?_) fun h=>?_
     ·dsimp only[go_sem];refine Zv2 3 ?_;dsimp only[go_sem];refine An (Zg5 Side.row ex24 trivial rfl rfl rfl (Zv2 2 ?_));dsimp only[go_sem];refine An (MC 43 h (fun h=>?_) fun h=>?_)
      ·dsimp only[go_sem];refine Zv2 3 ?_;dsimp only[go_sem];refine An (Zg5 Side.row ex24 trivial rfl rfl rfl (Zv2 2 ?_));dsimp only[go_sem];refine An (MC 49 h (fun h=>?_) fun h=>?_)
       ·dsimp only[go_sem];refine Zv2 5 ?_;dsimp only[go_sem];refine An ?_;exact Zy4 J2 (s:=!decide (x1.PH=2)) h
       ·dsimp only[go_sem];refine Zv2 5 ?_;dsimp only[go_sem];refine An ?_;exact Zy4 J2 (s:=false) h
      ·dsimp only[go_sem];refine Zv2 11 ?_;dsimp only[go_sem];refine An ?_;exact Zy4 J2 (s:=false) h
     ·dsimp only[go_sem];refine Zv2 17 ?_;dsimp only[go_sem];refine An ?_;exact Zy4 J2 (s:=false) h
   ·refine Zv2 1 ?_;dsimp only[go_sem];refine An ?_;exact Zy4 J1 (s:=(x20,x22,x23)) (Zn4 h hout1)
@[go_sem] def e117:EC:=(by have h:=hF Tryz.f117;(conv at h=>rhs;reduce);dsimp only[go_sem] at h;exact ⟨_,h⟩:DP Tryz.f117).1
theorem ok117:FnOK Tryz.prog 117 Tryz.f117 e117 [.c 2 (some 5),.t 3] 1 19:=okA
def Zni (x1:Side) (x2:Int) (x3 x4:Int) (x5 x6:Int) (x7:List Side) (x8:List Int) (x9:List Sess) (x10:List KE) (x11:List Int) (x12:List KE):Option (List Side×List KE):=
 (Z89 x7 x1.Peer ((fun z=>Za9 z.1 z.2))).bind fun x13=>
 (Zrg x7 x13.1 ([x1])).bind fun x14=>
 (Zzh x1.Peer x1.Epoch x2 x3 x4 x5 x6 x14 x8 x9 x10 x11 x12).bind fun x15=>
 some (x14,x15)
theorem Zoi (x1:Side) (x2:Int) (x3 x4:Int) (x5 x6:Int) (x7:List Side) (x8:List Int) (x9:List Sess) (x10:List KE) (x11:List Int) (x12:List KE) (r:(List Side×List KE)) (h:Zni x1 x2 x3 x4 x5 x6 x7 x8 x9 x10 x11 x12=some r):Zr5 Tryz.prog 34 [.ptr 0 0,.agg (Side.row x1)] [some ⟨81,[.iv x2,.iv x3,.osl 0,.iv x4,.osl 1,.iv x5,.osl 2,.osl 3,.osl 4,.osl 5,.nl,.nl,.iv x6]⟩] [Sq6 x7,Sq7 x8,Sq9 x9,Sq8 x10,Sq7 x11,Sq8 x12] (.tup []) [some ⟨81,[.iv x2,.iv x3,.osl 7,.iv x4,.osl 1,.iv x5,.osl 2,.osl 9,.osl 4,.osl 5,.nl,.nl,.iv x6]⟩] [none,Sq7 x8,Sq9 x9,none,Sq7 x11,Sq8 x12,none,Sq6 r.1,none,Sq8 r.2]:=by
 refine FT ok34 fun w0 M0=>?_
 rw [Zni] at h
 dsimp only[lun,List.cons_append,List.nil_append]
 refine Zv2 5 ?_;dsimp only[go_sem];refine An (Z07 fun all H=>?_);dsimp only[go_sem];refine GP H 8 7 [6,1,2,6] [(7,[.ptr 0 0,.ptr 0 0,.ptr 0 0,.ptr 0 0,.ptr 0 0,.ptr 0 2]),(1,[.ptr 1 0,.iv x1.Peer])] ?_;dsimp only[go_sem];refine GE H.1 6 ?_;dsimp only[go_sem];refine Z64 9 rfl ?_;have ⟨x13,ex13,h⟩:=Bs h
 refine GK H.1 (LR.slice 0 rfl) (Z99 x7 x1.Peer _ _ ((fun z=>Za9 z.1 z.2)) ⟨by kernel_rfl,rfl,fun z r hz=>Zb9 z.1 z.2 r hz⟩ _ ex13) ?_;dsimp only[go_sem];refine GP H 5 0 [15] [(4,[.iv x13.1,.bv x13.2,.tup [.iv x13.1,.bv x13.2]]),(10,[.iv x13.1,.bv x13.2])] ?_;dsimp only[go_sem];refine GD (Zv2 1 ?_);dsimp only[go_sem];refine An (Z07 fun all H=>?_);dsimp only[go_sem]
 refine GP H 9 9 [7,1,2,8] [(19,[.ptr 0 0,.ptr 0 0,.ptr 0 0,.ptr 0 0,.ptr 0 0,.ptr 0 0,.ptr 0 2]),(1,[.iv x13.1,.agg (Side.row x1)])] ?_;dsimp only[go_sem];refine Z74 7 10 rfl ?_ ?_
 ·refine GV H.1 ?_;dsimp only[go_sem];refine GE H.1 10 ?_;dsimp only[go_sem];refine Z64 11 rfl ?_;have ⟨x14,ex14,h⟩:=Bs h;refine Z87 H.1 [] [0,6] 2 7 (Zsg x7 x13.1 ([x1]) _ ex14) ?_;dsimp only[go_sem];refine GP H 5 1 [17,1] [(31,[.ptr 0 0,.ptr 0 0,.ptr 0 0,.ptr 0 0,.ptr 0 2])] ?_;dsimp only[go_sem];refine GE H.1 17 ?_
  dsimp only[go_sem];refine GD (Zv2 6 ?_);dsimp only[go_sem];refine An ?_;have ⟨x15,ex15,h⟩:=Bs h;refine Z77 [0] [7,1,2,3,4,5] 2 8 (Z0i x1.Peer x1.Epoch x2 x3 x4 x5 x6 x14 x8 x9 x10 x11 x12 _ ex15) ?_;dsimp only[go_sem];refine Zv2 1 ?_;dsimp only[go_sem];refine An ?_;obtain rfl:=Option.some.inj h;exact Z67 ok34
 ·refine GV H.1 ?_;dsimp only[go_sem];refine GE H.1 7 ?_;dsimp only[go_sem];refine Z64 11 rfl ?_;have ⟨x14,ex14,h⟩:=Bs h;refine Z87 H.1 [] [0,6] 2 7 (Zsg x7 x13.1 ([x1]) _ ex14) ?_;dsimp only[go_sem];refine GP H 5 1 [17,1] [(31,[.ptr 0 0,.ptr 0 0,.ptr 0 0,.ptr 0 0,.ptr 0 2])] ?_;dsimp only[go_sem];refine GE H.1 17 ?_
  dsimp only[go_sem];refine GD (Zv2 6 ?_);dsimp only[go_sem];refine An ?_;have ⟨x15,ex15,h⟩:=Bs h;refine Z77 [0] [7,1,2,3,4,5] 2 8 (Z0i x1.Peer x1.Epoch x2 x3 x4 x5 x6 x14 x8 x9 x10 x11 x12 _ ex15) ?_;dsimp only[go_sem];refine Zv2 1 ?_;dsimp only[go_sem];refine An ?_;obtain rfl:=Option.some.inj h;exact Z67 ok34
def Zpi:(Int×List Sess×List Int)→Option (List Int×List Sess)
| (x31,x32,x33)=>
 (vw_ (ln Sess.row x32) x31 (ln Sess.row x32)).bind fun _=>
 (clr_ x32 (Int.toNat (x31)) (Int.toNat (ln Sess.row x32)-Int.toNat (x31)) (Sess.mk 0 (([]:List Int)) 0 0)).bind fun x35=>
 (sub_ x35 0 x31).bind fun x36=>
 some (x33,x36)
def Zqi (x14:Int) (x18:(Bool×List Int)):(Int×List Sess)→Option ((Int×Int×List Sess×List Int) ⊕ (List Int×List Sess))
| (x20,x21)=>
 some (.inl (x20,wr (x14+1),x21,x18.2))
def Zri (x1:Int):(Int×Int×List Sess×List Int)→Option ((Int×Int×List Sess×List Int) ⊕ (List Int×List Sess))
| (x13,x14,x15,x16)=>
 ifb (decide (x14<(ln Sess.row x15))) (
 (at_ x15 x14).bind fun x17=>
 (Zxg x17 x1 x16).bind fun x18=>
 ifb (!x18.1) (
 (at_ x15 x13).bind fun _=>
 (Zqi x14 x18) (wr (x13+1),x15.set (Int.toNat (x13)) x17)) (
 (Zqi x14 x18) (x13,x15))) (
 Option.map Sum.inr (Zpi (x13,x15,x16)))
def Zsi (x1:Int) (x2:List Sess):Option (List Int×List Sess):=
 (Z3i x1 x2).bind fun x3=>
 ifb (decide (x3.1=((-1)))) (
 some (x3.2,x2)) (
 loop (Zri x1) (x3.1,wr (x3.1+1),x2,x3.2))
theorem Zti (x1:Int) (x2:List Sess) (r:(List Int×List Sess)) (h:Zsi x1 x2=some r):Zr5 Tryz.prog 124 [.osl 0,.clo 125 [.ptr 0 0,.ptr 1 0]] [some ⟨3,[.iv x1]⟩,some ⟨27,[.nl]⟩] [Sq9 x2] (.osl 2) [some ⟨3,[.iv x1]⟩,some ⟨27,[.osl 1]⟩] [none,Sq7 r.1,Sq9 r.2]:=by
 refine FT ok124 fun w0 M0=>?_
 rw [Zsi] at h
 dsimp only[lun,List.cons_append,List.nil_append]
 refine Zv2 8 ?_;dsimp only[go_sem];refine An ?_;have ⟨x3,ex3,h⟩:=Bs h;refine Zt5 [true,true] [true] trivial (Z4i x1 x2 _ ex3) (h:=?_);dsimp only[go_sem];refine Zv2 8 ?_;dsimp only[go_sem];refine An (MI h (fun h=>?_) fun h=>?_)
 ·refine Zv2 5 ?_;dsimp only[go_sem];refine An (Z47 60 4 ?_);dsimp only[go_sem];refine Z17 0 2 ?_;dsimp only[go_sem];obtain rfl:=Option.some.inj h;exact Z57 ok124
 ·refine Zv2 8 ?_;dsimp only[go_sem];refine An (Zo4 (fun ((x31,x32,x33):(Int×List Sess×List Int))=>(⟨(.osl 0::an 4 (.iv x31::an 36 [])),[some ⟨3,[.iv x1]⟩,some ⟨27,[.osl 1]⟩],[Sq9 x32,Sq7 x33]⟩:St)) Zpi r ?_ fun J1=>?_)
  ·rintro ⟨x31,x32,x33⟩ h;rw [Zpi] at h;(try dsimp only);refine Zv2 4 ?_;dsimp only[go_sem];refine An ?_;have ⟨x34,ex34,h⟩:=Bs h;refine V_viewM Sess.row ex34 trivial rfl rfl rfl rfl ?_;have ⟨x35,ex35,h⟩:=Bs h;refine V_clrM Sess.row ex35 trivial rfl rfl (by first | exact Zi4 _ | simp [go_sem]) (by first | rfl | simp [go_sem]) rfl rfl (Zv2 5 ?_);dsimp only[go_sem];refine An ?_;have ⟨x36,ex36,h⟩:=Bs h;refine V_cutM Sess.row ex36 trivial rfl rfl rfl rfl (Zv2 2 ?_);dsimp only[go_sem];refine An ?_
   obtain rfl:=Option.some.inj h;exact Z57 ok124
  ·refine Zv2 1 ?_;dsimp only[go_sem];refine An (Zp4 h (fun ((x13,x14,x15,x16):(Int×Int×List Sess×List Int))=>(⟨(.osl 0 :: .clo 125 [.ptr 0 0,.ptr 1 0]::an 3 (.iv x13 :: .iv x14::an 35 [])),[some ⟨3,[.iv x1]⟩,some ⟨27,[.osl 1]⟩],[Sq9 x15,Sq7 x16]⟩:St)) (by simp [go_sem]) (by rintro ⟨x13,x14,x15,x16⟩;first | rfl | simp [go_sem]) ?_);rintro n1 ⟨x13,x14,x15,x16⟩ y1 h hin1 hout1;rw [Zri] at h;(try dsimp only);refine Zv2 8 ?_;dsimp only[go_sem];refine An ?_
   refine MI h (fun h=>?_) fun h=>?_
   ·refine Zv2 7 ?_;dsimp only[go_sem];refine An ?_;have ⟨x17,ex17,h⟩:=Bs h;refine Ze5 Sess.row ex17 trivial rfl rfl rfl (Zh5 Sess.row ex17 trivial rfl rfl rfl (Zv2 7 ?_));dsimp only[go_sem];refine An ?_;have ⟨x18,ex18,h⟩:=Bs h;refine Zu5 [true,true,false] [false,true] trivial rfl (Zz6 [0,1] [1] 3 2 (Zyg x17 x1 x16 _ ex18)) (by kernel_rfl) (h:=?_);dsimp only[go_sem];refine Zv2 2 ?_;dsimp only[go_sem];refine An ?_
    refine Zo4 (fun ((x20,x21):(Int×List Sess))=>(⟨(.osl 0 :: .clo 125 [.ptr 0 0,.ptr 1 0]::an 3 (.iv x20 :: .iv x14::an 35 [])),[some ⟨3,[.iv x1]⟩,some ⟨27,[.osl 3]⟩],[Sq9 x21,none,none,Sq7 x18.2]⟩:St)) (Zqi x14 x18) y1 ?_ fun J2=>?_
    ·rintro ⟨x20,x21⟩ h;rw [Zqi] at h;(try dsimp only);refine Zv2 6 ?_;dsimp only[go_sem];refine An (Z17 3 1 ?_);dsimp only[go_sem];exact Zx4 h hin1
    ·refine MI h (fun h=>?_) fun h=>?_
     ·refine Zv2 5 ?_;dsimp only[go_sem];refine An ?_;have ⟨x19,ex19,h⟩:=Bs h;refine Ze5 Sess.row ex19 trivial rfl rfl rfl (Zl5 (Sess.row x17) Sess.row (y':=x17) ex19 trivial rfl rfl rfl (by first | exact Zi4 _ | simp [go_sem]) rfl rfl rfl rfl (Zv2 6 ?_));dsimp only[go_sem];refine An ?_;exact Zy4 J2 (s:=(wr (x13+1),x15.set (Int.toNat (x13)) x17)) h
     ·refine Zv2 1 ?_;dsimp only[go_sem];refine An ?_;exact Zy4 J2 (s:=(x13,x15)) h
   ·refine Zv2 1 ?_;dsimp only[go_sem];refine An ?_;exact Zy4 J1 (s:=(x13,x15,x16)) (Zn4 h hout1)
@[go_sem] def e127:EC:=(by have h:=hF Tryz.f127;(conv at h=>rhs;reduce);dsimp only[go_sem] at h;exact ⟨_,h⟩:DP Tryz.f127).1
theorem ok127:FnOK Tryz.prog 127 Tryz.f127 e127 [] 1 34:=okA
def Zui:(List Int×List Mail)→Option (List Int×List Mail)
| (x54,x55)=>
 some (x54,x55)
def Zvi (x25:Int):(List Int×List Mail)→Option ((Int×List Int×List Mail) ⊕ (List Int×List Mail))
| (x34,x35)=>
 some (.inl (wr (x25+1),x34,x35))
def Zwi (x1 x2:Int) (x3 x4:Int) (x5:List Sess) (x7:Int) (x8:List Side) (x9:List Int) (x10 x11:List KE) (x13:List Event) (x25:Int) (x26:List Int) (x27:List Mail) (x28:Side):Bool→Option ((Int×List Int×List Mail) ⊕ (List Int×List Mail))
| x31=>
 ifb x31 (
 (Zqc x28 5 x1 x2 x3 x4 x5 x26 x7 x8 x9 x10 x11 x27 x13).bind fun x32=>
 (Zag x26 x28.Peer).bind fun x33=>
 (Zvi x25) (x33,x32)) (
 (Zvi x25) (x26,x27))
def Zxi (x1 x2:Int) (x3 x4:Int) (x5:List Sess) (x7:Int) (x8:List Side) (x9:List Int) (x10 x11:List KE) (x13:List Event):(Int×List Int×List Mail)→Option ((Int×List Int×List Mail) ⊕ (List Int×List Mail))
| (x25,x26,x27)=>
 ifb (decide (x25<(ln Side.row x8))) (
 (at_ x8 x25).bind fun x28=>
 (Zl9 x28).bind fun x29=>
 ifb x29 (
 (Zhd x26 x28.Peer).bind fun x30=>
 (Zwi x1 x2 x3 x4 x5 x7 x8 x9 x10 x11 x13 x25 x26 x27 x28) (!x30)) (
 (Zwi x1 x2 x3 x4 x5 x7 x8 x9 x10 x11 x13 x25 x26 x27 x28) false)) (
 Option.map Sum.inr (Zui (x26,x27)))
def Zyi (x1 x2:Int) (x3 x4:Int) (x5:List Sess) (x6:List Int) (x7:Int) (x8:List Side) (x9:List Int) (x10 x11:List KE) (x12:List Mail) (x13:List Event):Option (List Int×List Mail):=
 loop (Zxi x1 x2 x3 x4 x5 x7 x8 x9 x10 x11 x13) (0,x6,x12)
theorem Zzi (x1 x2:Int) (x3 x4:Int) (x5:List Sess) (x6:List Int) (x7:Int) (x8:List Side) (x9:List Int) (x10 x11:List KE) (x12:List Mail) (x13:List Event) (r:(List Int×List Mail)) (h:Zyi x1 x2 x3 x4 x5 x6 x7 x8 x9 x10 x11 x12 x13=some r):Zr5 Tryz.prog 132 [.ptr 0 0] [some ⟨81,[.iv x1,.iv x2,.osl 0,.iv x3,.osl 1,.iv x4,Sp3 x5,.osl 2,Sp0 x6,.osl 3,.osl 4,.osl 5,.iv x7]⟩] [Sq6 x8,Sq7 x9,Sq8 x10,Sq8 x11,Zb7 x12,Za7 x13] (.tup []) [some ⟨81,[.iv x1,.iv x2,.osl 0,.iv x3,.osl 1,.iv x4,Sp3 x5,.osl 2,Sp0 r.1,.osl 3,.osl 7,.osl 5,.iv x7]⟩] [Sq6 x8,Sq7 x9,Sq8 x10,Sq8 x11,none,Za7 x13,none,Zb7 r.2]:=by
 refine FT ok132 fun w0 M0=>?_
 rw [Zyi] at h
 dsimp only[lun,List.cons_append,List.nil_append]
 refine Zv2 12 ?_;dsimp only[go_sem];refine An (Zo4 (fun ((x54,x55):(List Int×List Mail))=>(⟨an 45 [],[some ⟨81,[.iv x1,.iv x2,.osl 0,.iv x3,.osl 1,.iv x4,Sp3 x5,.osl 2,Sp0 x54,.osl 3,.osl 7,.osl 5,.iv x7]⟩],[Sq6 x8,Sq7 x9,Sq8 x10,Sq8 x11,none,Za7 x13,none,Zb7 x55]⟩:St)) Zui r ?_ fun J1=>?_)
 ·rintro ⟨x54,x55⟩ h;rw [Zui] at h;(try dsimp only);obtain rfl:=Option.some.inj h;exact Z67 ok132
 ·refine Zv2 1 ?_;dsimp only[go_sem];refine An (Z47 74 5 ?_);dsimp only[go_sem];refine Z47 74 5 ?_;dsimp only[go_sem];refine Z17 4 7 ?_;dsimp only[go_sem]
  refine Zp4 h (fun ((x25,x26,x27):(Int×List Int×List Mail))=>(⟨(.ptr 0 0::an 9 (.osl 0 :: .iv (ln Side.row x8) :: .iv x25::an 32 [])),[some ⟨81,[.iv x1,.iv x2,.osl 0,.iv x3,.osl 1,.iv x4,Sp3 x5,.osl 2,Sp0 x26,.osl 3,.osl 7,.osl 5,.iv x7]⟩],[Sq6 x8,Sq7 x9,Sq8 x10,Sq8 x11,none,Za7 x13,none,Zb7 x27]⟩:St)) (by simp [go_sem]) (by rintro ⟨x25,x26,x27⟩;first | rfl | simp [go_sem]) ?_
  rintro n1 ⟨x25,x26,x27⟩ y1 h hin1 hout1;rw [Zxi] at h;(try dsimp only);refine Zv2 5 ?_;dsimp only[go_sem];refine An (MI h (fun h=>?_) fun h=>?_)
  ·refine Zv2 5 ?_;dsimp only[go_sem];refine An ?_;have ⟨x28,ex28,h⟩:=Bs h;refine Ze5 Side.row ex28 trivial rfl rfl rfl (Zh5 Side.row ex28 trivial rfl rfl rfl (Zv2 4 ?_));dsimp only[go_sem];refine An ?_
   refine Zo4 (fun (x31:Bool)=>(⟨(.ptr 0 0 :: .any :: .any :: .ptr 1 0::an 6 (.osl 0 :: .iv (ln Side.row x8) :: .iv x25::an 15 (.bv x31::an 16 []))),[some ⟨81,[.iv x1,.iv x2,.osl 0,.iv x3,.osl 1,.iv x4,Sp3 x5,.osl 2,Sp0 x26,.osl 3,.osl 7,.osl 5,.iv x7]⟩,some ⟨65,Side.row x28⟩],[Sq6 x8,Sq7 x9,Sq8 x10,Sq8 x11,none,Za7 x13,none,Zb7 x27]⟩:St)) (Zwi x1 x2 x3 x4 x5 x7 x8 x9 x10 x11 x13 x25 x26 x27 x28) y1 ?_ fun J2=>?_
   ·intro x31 h;rw [Zwi] at h;(try dsimp only)
    refine Zo4 (fun ((x34,x35):(List Int×List Mail))=>(⟨(.ptr 0 0::an 9 (.osl 0 :: .iv (ln Side.row x8) :: .iv x25::an 32 [])),[some ⟨81,[.iv x1,.iv x2,.osl 0,.iv x3,.osl 1,.iv x4,Sp3 x5,.osl 2,Sp0 x34,.osl 3,.osl 7,.osl 5,.iv x7]⟩],[Sq6 x8,Sq7 x9,Sq8 x10,Sq8 x11,none,Za7 x13,none,Zb7 x35]⟩:St)) (Zvi x25) y1 ?_ fun J3=>?_
    ·rintro ⟨x34,x35⟩ h;rw [Zvi] at h;(try dsimp only);refine Zv2 5 ?_;dsimp only[go_sem];refine An ?_;exact Zx4 h hin1
    ·refine MI h (fun h=>?_) fun h=>?_
     ·refine Zv2 4 ?_;dsimp only[go_sem];refine An ?_;have ⟨x32,ex32,h⟩:=Bs h;refine Z77 [0] [0,1,2,3,7,5] 2 8 (Zrc x28 5 x1 x2 x3 x4 x5 x26 x7 x8 x9 x10 x11 x27 x13 _ ex32) ?_;dsimp only[go_sem];refine Zv2 1 ?_;dsimp only[go_sem];refine An (Z07 fun all H=>?_);dsimp only[go_sem]
      refine GP H 8 5 [8,5] [(32,[.ptr 0 0,.ptr 0 0,.ptr 0 0,.ptr 0 0,.ptr 0 8,Sp0 x26,.ptr 1 0,.iv x28.Peer])] ?_;dsimp only[go_sem];refine Z64 8 rfl ?_;have ⟨x33,ex33,h⟩:=Bs h;refine GC H.1 (k_set_Add x26 x28.Peer _ ex33) ?_;dsimp only[go_sem];refine GN H 3 1 ?_;dsimp only[go_sem];refine An (GE H.1 12 ?_);dsimp only[go_sem];refine GD (Z17 9 7 ?_);dsimp only[go_sem]
      exact Zy4 J3 (s:=(x33,x32)) h
     ·refine Zv2 1 ?_;dsimp only[go_sem];refine An ?_;exact Zy4 J3 (s:=(x26,x27)) h
   ·refine Z07 fun all H=>?_;dsimp only[go_sem];refine GN H 1 12 ?_;dsimp only[go_sem];refine An (Z64 1 rfl ?_);have ⟨x29,ex29,h⟩:=Bs h;refine GC H.1 (Zm9 x28 _ ex29) ?_;dsimp only[go_sem];refine GN H 1 10 ?_;dsimp only[go_sem];refine An (Z35 18 h rfl (fun _ h=>?_) fun _ h=>?_)
    ·dsimp only[go_sem];refine GP H 7 3 [10,3] [(19,[.ptr 0 0,.ptr 0 0,.ptr 0 0,.ptr 0 8,Sp0 x26,.ptr 1 0,.iv x28.Peer])] ?_;dsimp only[go_sem];refine Z64 10 rfl ?_;have ⟨x30,ex30,h⟩:=Bs h;refine GC H.1 (Zid x26 x28.Peer _ ex30) ?_;dsimp only[go_sem];refine GN H 2 0 ?_;dsimp only[go_sem];refine An (GD ?_);exact Zy4 J2 (s:=!x30) h
    ·dsimp only[go_sem];refine GP H 10 0 [13] [(19,[.un,.un,.un,.un,.un,.un,.un,.un,.un,.ff])] ?_;dsimp only[go_sem];refine GD ?_;exact Zy4 J2 (s:=false) h
  ·refine Zv2 1 ?_;dsimp only[go_sem];refine An ?_;exact Zy4 J1 (s:=(x26,x27)) (Zn4 h hout1)
def Z0j (x1:Side) (x2:Int) (x3 x4 x5:Int) (x6:List Sess) (x7:List Int) (x8:Int) (x9:List Side) (x10:List Int) (x11 x12:List KE) (x13:List Mail) (x14:List Event):Option (List Side×List KE):=
 (Z89 x9 x1.Peer ((fun z=>Za9 z.1 z.2))).bind fun x15=>
 (Zrg x9 x15.1 ([x1])).bind fun x16=>
 (Z6i x1.Peer x1.Epoch x2 x3 x4 x5 x6 x7 x8 x16 x10 x11 x12 x13 x14).bind fun x17=>
 some (x16,x17)
theorem Z1j (x1:Side) (x2:Int) (x3 x4 x5:Int) (x6:List Sess) (x7:List Int) (x8:Int) (x9:List Side) (x10:List Int) (x11 x12:List KE) (x13:List Mail) (x14:List Event) (r:(List Side×List KE)) (h:Z0j x1 x2 x3 x4 x5 x6 x7 x8 x9 x10 x11 x12 x13 x14=some r):Zr5 Tryz.prog 34 [.ptr 0 0,.agg (Side.row x1)] [some ⟨81,[.iv x2,.iv x3,.osl 0,.iv x4,.osl 1,.iv x5,Sp3 x6,.osl 2,Sp0 x7,.osl 3,.osl 4,.osl 5,.iv x8]⟩] [Sq6 x9,Sq7 x10,Sq8 x11,Sq8 x12,Zb7 x13,Za7 x14] (.tup []) [some ⟨81,[.iv x2,.iv x3,.osl 7,.iv x4,.osl 1,.iv x5,Sp3 x6,.osl 9,Sp0 x7,.osl 3,.osl 4,.osl 5,.iv x8]⟩] [none,Sq7 x10,none,Sq8 x12,Zb7 x13,Za7 x14,none,Sq6 r.1,none,Sq8 r.2]:=by
 refine FT ok34 fun w0 M0=>?_
 rw [Z0j] at h
 dsimp only[lun,List.cons_append,List.nil_append]
 refine Zv2 5 ?_;dsimp only[go_sem];refine An (Z07 fun all H=>?_);dsimp only[go_sem];refine GP H 8 7 [6,1,2,6] [(7,[.ptr 0 0,.ptr 0 0,.ptr 0 0,.ptr 0 0,.ptr 0 0,.ptr 0 2]),(1,[.ptr 1 0,.iv x1.Peer])] ?_;dsimp only[go_sem];refine GE H.1 6 ?_;dsimp only[go_sem];refine Z64 9 rfl ?_;have ⟨x15,ex15,h⟩:=Bs h
 refine GK H.1 (LR.slice 0 rfl) (Z99 x9 x1.Peer _ _ ((fun z=>Za9 z.1 z.2)) ⟨by kernel_rfl,rfl,fun z r hz=>Zb9 z.1 z.2 r hz⟩ _ ex15) ?_;dsimp only[go_sem];refine GP H 5 0 [15] [(4,[.iv x15.1,.bv x15.2,.tup [.iv x15.1,.bv x15.2]]),(10,[.iv x15.1,.bv x15.2])] ?_;dsimp only[go_sem];refine GD (Zv2 1 ?_);dsimp only[go_sem];refine An (Z07 fun all H=>?_);dsimp only[go_sem]
 refine GP H 9 9 [7,1,2,8] [(19,[.ptr 0 0,.ptr 0 0,.ptr 0 0,.ptr 0 0,.ptr 0 0,.ptr 0 0,.ptr 0 2]),(1,[.iv x15.1,.agg (Side.row x1)])] ?_;dsimp only[go_sem];refine Z74 7 10 rfl ?_ ?_
 ·refine GV H.1 ?_;dsimp only[go_sem];refine GE H.1 10 ?_;dsimp only[go_sem];refine Z64 11 rfl ?_;have ⟨x16,ex16,h⟩:=Bs h;refine Z87 H.1 [] [0,6] 2 7 (Zsg x9 x15.1 ([x1]) _ ex16) ?_;dsimp only[go_sem];refine GP H 5 1 [17,1] [(31,[.ptr 0 0,.ptr 0 0,.ptr 0 0,.ptr 0 0,.ptr 0 2])] ?_;dsimp only[go_sem];refine GE H.1 17 ?_
  dsimp only[go_sem];refine GD (Zv2 6 ?_);dsimp only[go_sem];refine An ?_;have ⟨x17,ex17,h⟩:=Bs h;refine Z77 [0] [7,1,2,3,4,5] 2 8 (Z7i x1.Peer x1.Epoch x2 x3 x4 x5 x6 x7 x8 x16 x10 x11 x12 x13 x14 _ ex17) ?_;dsimp only[go_sem];refine Zv2 1 ?_;dsimp only[go_sem];refine An ?_;obtain rfl:=Option.some.inj h;exact Z67 ok34
 ·refine GV H.1 ?_;dsimp only[go_sem];refine GE H.1 7 ?_;dsimp only[go_sem];refine Z64 11 rfl ?_;have ⟨x16,ex16,h⟩:=Bs h;refine Z87 H.1 [] [0,6] 2 7 (Zsg x9 x15.1 ([x1]) _ ex16) ?_;dsimp only[go_sem];refine GP H 5 1 [17,1] [(31,[.ptr 0 0,.ptr 0 0,.ptr 0 0,.ptr 0 0,.ptr 0 2])] ?_;dsimp only[go_sem];refine GE H.1 17 ?_
  dsimp only[go_sem];refine GD (Zv2 6 ?_);dsimp only[go_sem];refine An ?_;have ⟨x17,ex17,h⟩:=Bs h;refine Z77 [0] [7,1,2,3,4,5] 2 8 (Z7i x1.Peer x1.Epoch x2 x3 x4 x5 x6 x7 x8 x16 x10 x11 x12 x13 x14 _ ex17) ?_;dsimp only[go_sem];refine Zv2 1 ?_;dsimp only[go_sem];refine An ?_;obtain rfl:=Option.some.inj h;exact Z67 ok34
@[go_sem] def e104:EC:=(by have h:=hF Tryz.f104;(conv at h=>rhs;reduce);dsimp only[go_sem] at h;exact ⟨_,h⟩:DP Tryz.f104).1
theorem ok104:FnOK Tryz.prog 104 Tryz.f104 e104 [.t 6] 3 37:=okA
@[go_sem] def e108:EC:=(by have h:=hF Tryz.f108;(conv at h=>rhs;reduce);dsimp only[go_sem] at h;exact ⟨_,h⟩:DP Tryz.f108).1
theorem ok108:FnOK Tryz.prog 108 Tryz.f108 e108 [.t 3] 2 13:=okA
def Z2j:Bool→Option Bool
| x5=>
 some x5
def Z3j (x1:Sess) (x2:Node):Option Bool:=
 ifb (decide (x1.State=0)) (
 (Zkb x2).bind fun x3=>
 (Zmh x1.Need x3).bind fun x4=>
 Z2j (!x4)) (
 Z2j false)
theorem Z4j (x1:Sess) (x2:Node) (r:Bool) (h:Z3j x1 x2=some r):Z03 Tryz.prog 108 [.agg (Sess.row x1),.elt (Node.row x2) 0] (.bv r):=by
 refine FP ok108 fun w0 H0=>?_
 rw [Z3j] at h
 refine Zv2 6 ?_;dsimp only[go_sem];refine An (Zo4 (fun (x5:Bool)=>(⟨an 3 (.bv x5::an 11 []),[],[]⟩:St)) Z2j r ?_ fun J1=>?_)
 ·intro x5 h;rw [Z2j] at h;(try dsimp only);exact Zw4 (res:=fun (r:Bool)=>.bv r) ok108 h
 ·refine Z07 fun all H=>?_;dsimp only[go_sem];refine GN H 4 8 ?_;dsimp only[go_sem];refine An (Z35 7 h rfl (fun _ h=>?_) fun _ h=>?_)
  ·dsimp only[go_sem];refine GN H 3 5 ?_;dsimp only[go_sem];refine An (Z64 7 rfl ?_);have ⟨x3,ex3,h⟩:=Bs h;refine GC H.1 (Zlb x2 _ ex3) ?_;dsimp only[go_sem];refine Z64 8 rfl ?_;have ⟨x4,ex4,h⟩:=Bs h;refine GC H.1 (Znh x1.Need x3 _ ex4) ?_;dsimp only[go_sem];refine GN H 3 0 ?_;dsimp only[go_sem];refine An (GD ?_);exact Zy4 J1 (s:=!x4) h
  ·dsimp only[go_sem];refine GP H 8 0 [12] [(14,[.ff])] ?_;dsimp only[go_sem];refine GD ?_;exact Zy4 J1 (s:=false) h
end
end NX
end Go.Proofs.YtdjkbodnjhgbcaaGreat
