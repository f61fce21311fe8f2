/-
  The function narthex/dine.Fire, lent own memory. Written by a program of ours (lb.py). No statement of the seat is proved here.
-/
import Derived.Test.YtgamgemlekpepaaGreatH25
set_option maxRecDepth 100000
set_option maxHeartbeats 4000000
namespace Go.Proofs.YtgamgemlekpepaaGreat
namespace NX
open Go
noncomputable section
def Zr41 (x1:DI) (x50:List Mail):(Int×List Side)→Option (Int×Int×Int×List Side×List Mail)
| (x65,x66)=>some (x1.ID,x65,0,x66,x50)
def Zs41 (x1:DI) (x49:List Side) (x50:List Mail):(Int×List Side)→Option ((Int×List Side) ⊕ (Int×Int×Int×List Side×List Mail))
| (x55,x56)=>
 ifb (decide (x55<(ln Side.row x49))) (
 (at_ x56 x55).bind fun x57=>
 some (.inl (wr (x55+1),x56.set (Int.toNat (x55)) (Side.mk x57.Peer x57.Epoch x57.State x57.Fork true x57.Token x57.BO x57.Ask)))) (
 Option.map Sum.inr ((Zr41 x1 x50) (2,x56)))
def Zt41 (x1:DI) (x49:List Side) (x50:List Mail):Bool→Option (Int×Int×Int×List Side×List Mail)
| x51=>
 ifb x51 (
 loop (Zs41 x1 x49 x50) (0,x49)) (
 (Zr41 x1 x50) (x1.PH,x49))
def Zu41 (x1:DI):(Bool×List Side×List Mail)→Option (Int×Int×Int×List Side×List Mail)
| (x48,x49,x50)=>
 ifb (decide (x1.PH=1)) (
 (Zt41 x1 x49 x50) x48) (
 (Zt41 x1 x49 x50) false)
def Zv41 (x21:Int) (x33:List Side) (x34:List Mail):Bool→Option ((Bool×Int×List Side×List Mail) ⊕ (Int×Int×Int×List Side×List Mail))
| x36=>some (.inl (x36,wr (x21+1),x33,x34))
def Zw41 (x20:Bool) (x21:Int):(List Side×List Mail)→Option ((Bool×Int×List Side×List Mail) ⊕ (Int×Int×Int×List Side×List Mail))
| (x33,x34)=>
 ifb x20 (
 (at_ x33 x21).bind fun x35=>
 (Zv41 x21 x33 x34) x35.Fork) (
 (Zv41 x21 x33 x34) false)
def Zx41 (x1:DI) (x20:Bool) (x21:Int) (x27:List Side) (x28:List Mail):Bool→Option ((Bool×Int×List Side×List Mail) ⊕ (Int×Int×Int×List Side×List Mail))
| x30=>
 ifb x30 (
 (at_ x27 x21).bind fun x31=>
 (Zes 2 x1.ID x1.PH x21 x28 (x27.set (Int.toNat (x21)) (Side.mk x31.Peer x31.Epoch x31.State x31.Fork x31.DY false x31.BO x31.Ask))).bind fun x32=>
 (Zw41 x20 x21) ((x27.set (Int.toNat (x21)) (Side.mk x31.Peer x31.Epoch x31.State x31.Fork x31.DY false x31.BO x31.Ask)),x32)) (
 (Zw41 x20 x21) (x27,x28))
def Zy41 (x1:DI) (x20:Bool) (x21:Int):(List Side×List Mail)→Option ((Bool×Int×List Side×List Mail) ⊕ (Int×Int×Int×List Side×List Mail))
| (x27,x28)=>
 ifb (decide (x1.PH=1)) (
 (at_ x27 x21).bind fun x29=>
 ifb x29.Token (
 (Zx41 x1 x20 x21 x27 x28) (!x29.Fork)) (
 (Zx41 x1 x20 x21 x27 x28) false)) (
 (Zx41 x1 x20 x21 x27 x28) false)
def Zz41 (x1:DI) (x20:Bool) (x21:Int) (x22:List Side) (x23:List Mail) (x24:Side):Bool→Option ((Bool×Int×List Side×List Mail) ⊕ (Int×Int×Int×List Side×List Mail))
| x25=>
 ifb x25 (
 (Zes 1 x1.ID x1.PH x21 x23 (x22.set (Int.toNat (x21)) (Side.mk x24.Peer x24.Epoch x24.State false false x24.Token x24.BO x24.Ask))).bind fun x26=>
 (Zy41 x1 x20 x21) ((x22.set (Int.toNat (x21)) (Side.mk x24.Peer x24.Epoch x24.State false false x24.Token x24.BO x24.Ask)),x26)) (
 (Zy41 x1 x20 x21) (x22,x23))
def Z051 (x1:DI) (x3:List Side):(Bool×Int×List Side×List Mail)→Option ((Bool×Int×List Side×List Mail) ⊕ (Int×Int×Int×List Side×List Mail))
| (x20,x21,x22,x23)=>
 ifb (decide (x21<(ln Side.row x3))) (
 (at_ x22 x21).bind fun x24=>
 ifb x24.Fork (
 ifb x24.DY (
 ifb x24.Token (
 (Zz41 x1 x20 x21 x22 x23 x24) (!decide (x1.PH=2))) (
 (Zz41 x1 x20 x21 x22 x23 x24) false)) (
 (Zz41 x1 x20 x21 x22 x23 x24) false)) (
 (Zz41 x1 x20 x21 x22 x23 x24) false)) (
 Option.map Sum.inr ((Zu41 x1) (x20,x22,x23)))
def Z151 (x1:DI):Option (Int×Int×Int×List Side×List Mail):=
 (Zu11 x1).bind fun x2=>
 ifb (!decide (x2=0)) (
 some (0,0,x2,([]:List Side),([]:List Mail))) (
 (Zbm x1.SD).bind fun x3=>
 loop (Z051 x1 x3) (true,0,x3,([]:List Mail)))
theorem Z251 {x1 r} (h:Z151 x1=some r):Z0f Tryz.prog 232 [.agg (DI.row x1)] [] [] (.tup [.agg [.iv r.1,.iv r.2.1,.osl 0],.osl 1,.iv r.2.2.1]) [] [Zwj r.2.2.2.1,Sq6 r.2.2.2.2]:=by
 refine FT Zp31 fun w0 M0=>?_;have ok:=Zp31;rw [Z151] at h;dsimp only[lun,List.cons_append,List.nil_append];refine Vg 11 ?_;refine VB h Zv11 fun _ _ h=>?_;refine Vg 7 ?_;refine MI h (fun h=>?_) fun h=>?_
 ·refine Vg 8 ?_;refine Zij 1 2 112 8 (Ds ?_);refine Zbb 3 53 5 rfl rfl (Ds ?_);obtain rfl:=Option.some.inj h;exact Zkj Zp31
 ·refine Vg 5 ?_;have ⟨x3,ex3,h⟩:=Bs h;refine Ztd trivial (Zcm ex3) (h:=?_);refine Vg 19 ?_;refine Vl [1,2,3,1] (fun s=>([(7,.bv s.1)],[some ⟨58,[.iv x1.ID,.iv x1.PH,.osl 0]⟩,some ⟨58,[.iv 0,.iv 0,.nl]⟩,some ⟨27,[.osl 1]⟩],[Zwj s.2.1,Sq6 s.2.2])) (Zu41 x1) r ?_ fun J1=>?_
  ·rintro ⟨x48,x49,x50⟩ h;rw [Zu41] at h;(try dsimp only);refine Vg 7 ?_;refine Vk [1,2,3,1] (fun x51=>[(96,.bv x51)]) (Zt41 x1 x49 x50) r ?_ fun J7=>?_
   ·intro x51 h;rw [Zt41] at h;(try dsimp only);refine Vm [1,2,3,1] (fun s=>([],[(0,1,.iv s.1)],[],[(0,Zwj s.2)])) (Zr41 x1 x50) r ?_ fun J8=>?_
    ·rintro ⟨x65,x66⟩ h;rw [Zr41] at h;(try dsimp only);refine Vg 1 ?_;refine Zej fun all H=>Gs ?_;obtain rfl:=Option.some.inj h;exact Zkj Zp31
    ·refine MI h (fun h=>?_) fun h=>?_
     ·refine Vg 13 ?_;refine Mm h [1,2,3,1,93,1] (fun s=>([(101,.iv s.1)],[],[],[(0,Zwj s.2)])) ?_;rintro n1 ⟨x55,x56⟩ y1 h hin1 hout1;rw [Zs41] at h;(try dsimp only);refine Vg 5 ?_;refine MI h (fun h=>?_) fun h=>?_
      ·refine Vg 12 ?_;have ⟨x57,ex57,h⟩:=Bs h;refine Zde Side.row ex57 trivial rfl rfl rfl (Vg 1 ?_);refine Zue [.bv true] Side.row (y':=(Side.mk x57.Peer x57.Epoch x57.State x57.Fork true x57.Token x57.BO x57.Ask)) ex57 trivial rfl rfl rfl (by first | exact Zqb _ | simp [go_sem]) rfl rfl rfl rfl ?_;exact W
      ·exact W
     ·exact W
   ·exact W
  ·refine Vg 1 ?_;refine Zij 2 0 53 5 (Ds ?_);refine Mm h [1,2,3,1,17,1] (fun s=>([(7,.bv s.1),(25,.iv s.2.1)],[],[],[(0,Zwj s.2.2.1),(1,Sq6 s.2.2.2)])) ?_;rintro n1 ⟨x20,x21,x22,x23⟩ y1 h hin1 hout1;rw [Z051] at h;(try dsimp only);refine Vg 5 ?_;refine MI h (fun h=>?_) fun h=>?_
   ·refine Vg 13 ?_;have ⟨x24,ex24,h⟩:=Bs h;refine Zde Side.row ex24 trivial rfl rfl rfl (Vg 14 ?_);refine Zke Side.row ex24 trivial rfl rfl rfl (Vg 1 ?_);refine Vk [1,2,3,2,1,2,13,2] (fun x25=>[(53,.bv x25)]) (Zz41 x1 x20 x21 x22 x23 x24) y1 ?_ fun J2=>?_
    ·intro x25 h;rw [Zz41] at h;(try dsimp only);refine Vm [1,2,3,2,1,2,13,2] (fun s=>([],[],[],[(0,Zwj s.1),(1,Sq6 s.2)])) (Zy41 x1 x20 x21) y1 ?_ fun J3=>?_
     ·rintro ⟨x27,x28⟩ h;rw [Zy41] at h;(try dsimp only);refine Vg 7 ?_;refine Vk [1,2,3,2,1,2,13,2] (fun x30=>[(77,.bv x30)]) (Zx41 x1 x20 x21 x27 x28) y1 ?_ fun J4=>?_
      ·intro x30 h;rw [Zx41] at h;(try dsimp only);refine Vm [1,2,3,2,1,1,14,2] (fun s=>([],[],[],[(0,Zwj s.1),(1,Sq6 s.2)])) (Zw41 x20 x21) y1 ?_ fun J5=>?_
       ·rintro ⟨x33,x34⟩ h;rw [Zw41] at h;(try dsimp only);refine Vg 3 ?_;refine Vl [1,2,3,1,17,2] (fun x36=>([(7,.bv x36)],[some ⟨58,[.iv x1.ID,.iv x1.PH,.osl 0]⟩,some ⟨58,[.iv 0,.iv 0,.nl]⟩,some ⟨27,[.osl 1]⟩],[Zwj x33,Sq6 x34])) (Zv41 x21 x33 x34) y1 ?_ fun J6=>?_
        ·intro x36 h;rw [Zv41] at h;exact W
        ·refine MC 84 h (fun h=>?_) fun h=>?_
         ·refine Vg 3 ?_;have ⟨x35,ex35,h⟩:=Bs h;refine Zke Side.row ex35 trivial rfl rfl rfl ?_;exact W
         ·exact W
       ·refine MI h (fun h=>?_) fun h=>?_
        ·refine Vg 5 ?_;have ⟨x31,ex31,h⟩:=Bs h;refine Zue [.bv false] Side.row (y':=(Side.mk x31.Peer x31.Epoch x31.State x31.Fork x31.DY false x31.BO x31.Ask)) ex31 trivial rfl rfl rfl (by first | exact Zqb _ | simp [go_sem]) rfl rfl rfl rfl (Vg 3 ?_);have ⟨x32,ex32,h⟩:=Bs h;refine Zaf [true,false,true,true] [true,true] trivial rfl (Z9j [2,0,3] [1,0] 4 2 (Zfs ex32)) (by kernel_rfl) (h:=?_);refine Vg 1 ?_;refine Zgj 3 1 ?_;exact W
        ·exact W
      ·refine MC 65 h (fun h=>?_) fun h=>?_
       ·refine Vg 3 ?_;have ⟨x29,ex29,h⟩:=Bs h;refine Zke Side.row ex29 trivial rfl rfl rfl (Vg 2 ?_);refine MC 71 h (fun h=>?_) fun h=>?_
        ·refine Vg 3 ?_;refine Zke Side.row ex29 trivial rfl rfl rfl ?_;exact W
        ·exact W
       ·exact W
     ·refine MI h (fun h=>?_) fun h=>?_
      ·refine Vg 1 ?_;refine Zej fun all H=>Ds ?_;refine Zna 0 1 rfl ?_ ?_
       ·refine RV ?_;refine Gn H 2 5 ?_;refine Zna 1 4 rfl ?_ ?_
        ·refine RV ?_;refine Zma 4 rfl (Zuf H.1 [.bv false] Side.row (y':=(Side.mk x24.Peer x24.Epoch x24.State false x24.DY x24.Token x24.BO x24.Ask)) ex24 rfl trivial rfl rfl rfl (by first | exact Zqb _ | simp [go_sem]) rfl rfl rfl rfl ?_);refine Gn H 2 1 ?_;refine Zma 7 rfl (Zvf H.1 [.bv false] Side.row (y':=(Side.mk x24.Peer x24.Epoch x24.State false false x24.Token x24.BO x24.Ask)) (Zee ex24) rfl trivial rfl rfl rfl (by first | exact Zqb _ | simp [go_sem]) rfl rfl rfl rfl (Ds ?_));refine GD (Vg 2 ?_);have ⟨x26,ex26,h⟩:=Bs h;refine Zaf [true,false,true,true] [true,true] trivial rfl (Z9j [2,0,3] [1,0] 4 2 (Zfs ex26)) (by kernel_rfl) (h:=?_);refine Vg 1 ?_;refine Zgj 3 1 ?_;exact W
        ·refine Zuf H.1 [.bv false] Side.row (y':=(Side.mk x24.Peer x24.Epoch x24.State false x24.DY x24.Token x24.BO x24.Ask)) ex24 rfl trivial rfl rfl rfl (by first | exact Zqb _ | simp [go_sem]) rfl rfl rfl rfl (Ds ?_);refine R1 ?_;refine Gn H 2 1 ?_;refine Zma 7 rfl (Zvf H.1 [.bv false] Side.row (y':=(Side.mk x24.Peer x24.Epoch x24.State false false x24.Token x24.BO x24.Ask)) (Zee ex24) rfl trivial rfl rfl rfl (by first | exact Zqb _ | simp [go_sem]) rfl rfl rfl rfl (Ds ?_));refine GD (Vg 2 ?_);have ⟨x26,ex26,h⟩:=Bs h;refine Zaf [true,false,true,true] [true,true] trivial rfl (Z9j [2,0,3] [1,0] 4 2 (Zfs ex26)) (by kernel_rfl) (h:=?_);refine Vg 1 ?_;refine Zgj 3 1 ?_;exact W
       ·refine RV ?_;refine R1 ?_;refine Gn H 2 4 ?_;refine Zma 4 rfl (Zuf H.1 [.bv false] Side.row (y':=(Side.mk x24.Peer x24.Epoch x24.State false x24.DY x24.Token x24.BO x24.Ask)) ex24 rfl trivial rfl rfl rfl (by first | exact Zqb _ | simp [go_sem]) rfl rfl rfl rfl ?_);refine Gn H 2 1 ?_;refine Zma 7 rfl (Zvf H.1 [.bv false] Side.row (y':=(Side.mk x24.Peer x24.Epoch x24.State false false x24.Token x24.BO x24.Ask)) (Zee ex24) rfl trivial rfl rfl rfl (by first | exact Zqb _ | simp [go_sem]) rfl rfl rfl rfl (Ds ?_));refine GD (Vg 2 ?_);have ⟨x26,ex26,h⟩:=Bs h;refine Zaf [true,false,true,true] [true,true] trivial rfl (Z9j [2,0,3] [1,0] 4 2 (Zfs ex26)) (by kernel_rfl) (h:=?_);refine Vg 1 ?_;refine Zgj 3 1 ?_;exact W
      ·exact W
    ·refine MC 37 h (fun h=>?_) fun h=>?_
     ·refine Vg 3 ?_;refine Zke Side.row ex24 trivial rfl rfl rfl (Vg 2 ?_);refine MC 43 h (fun h=>?_) fun h=>?_
      ·refine Vg 3 ?_;refine Zke Side.row ex24 trivial rfl rfl rfl ?_;exact W
      ·exact W
     ·exact W
   ·exact W
@[go_sem] def e169:EC:=eQ Tryz.f169
theorem Z351:FnOK Tryz.prog 169 Tryz.f169 e169 [.c 2 (some 5),.t 3] 1 19:=okA
def Z451 (x1:Side) (x2:Int) (x3 x4:Int) (x5 x6:Int) (x7:List Side) (x8:List Int) (x9:List Sess) (x10:List KE) (x11:List Int) (x12:List KE):Option (List Side×List KE):=
 (Z8n x7 x1.Peer ((fun z=>Zan z.1 z.2))).bind fun x13=>
 (Z021 x7 x13.1 ([x1])).bind fun x14=>
 (Zw31 x1.Peer x1.Epoch x2 x3 x4 x5 x6 x14 x8 x9 x10 x11 x12).bind fun x15=>
 some (x14,x15)
theorem Z551 {x1 x2 x3 x4 x5 x6 x7 x8 x9 x10 x11 x12 r} (h:Z451 x1 x2 x3 x4 x5 x6 x7 x8 x9 x10 x11 x12=some r):Z0f Tryz.prog 70 [.ptr 0 0,.agg (Side.row x1)] [some ⟨138,[.iv x2,.iv x3,.osl 0,.iv x4,.osl 1,.iv x5,.osl 2,.osl 3,.osl 4,.osl 5,.nl,.nl,.iv x6]⟩] [Zwj x7,Sq4 x8,Zuj x9,Zxj x10,Sq4 x11,Zxj x12] (.tup []) [some ⟨138,[.iv x2,.iv x3,.osl 7,.iv x4,.osl 1,.iv x5,.osl 2,.osl 9,.osl 4,.osl 5,.nl,.nl,.iv x6]⟩] [none,Sq4 x8,Zuj x9,none,Sq4 x11,Zxj x12,none,Zwj r.1,none,Zxj r.2]:=by
 refine FT ok70 fun w0 M0=>?_;rw [Z451] at h;dsimp only[lun,List.cons_append,List.nil_append];refine Vg 5 ?_;refine Zej fun all H=>Ds (GP H 8 7 [6,1,2,6] [(7,[.ptr 0 0,.ptr 0 0,.ptr 0 0,.ptr 0 0,.ptr 0 0,.ptr 0 2]),(1,[.ptr 1 0,.iv x1.Peer])] (Ds ?_));refine R1 ?_;refine Zma 9 rfl ?_;have ⟨x13,ex13,h⟩:=Bs h;refine GK H.1 (LR.slice 0 rfl) (Z9n ex13 ⟨by kernel_rfl,rfl,fun z r hz=>Zbn hz⟩) (Ds ?_);refine GP H 5 0 [15] [(4,[.iv x13.1,.bv x13.2,.tup [.iv x13.1,.bv x13.2]]),(10,[.iv x13.1,.bv x13.2])] (Ds ?_);refine GD (Vg 1 ?_);refine Zej fun all H=>Ds ?_;refine GP H 9 9 [7,1,2,8] [(19,[.ptr 0 0,.ptr 0 0,.ptr 0 0,.ptr 0 0,.ptr 0 0,.ptr 0 0,.ptr 0 2]),(1,[.iv x13.1,.agg (Side.row x1)])] (Ds ?_);refine Zna 7 10 rfl ?_ ?_
 ·refine RV ?_;refine R1 ?_;refine Zma 11 rfl (GR H.1 [] [0,6] 2 7 h Z121 fun x14 ex14 h=>?_);refine Ds (GP H 5 1 [17,1] [(31,[.ptr 0 0,.ptr 0 0,.ptr 0 0,.ptr 0 0,.ptr 0 2])] (Ds ?_));refine GE H.1 17 ?_;dsimp only[go_sem];refine GD (Vg 6 ?_);refine VR [0] [7,1,2,3,4,5] 2 8 h Zx31 fun x15 ex15 h=>?_;refine Vg 1 ?_;obtain rfl:=Option.some.inj h;exact Zlj ok70
 ·refine RV ?_;refine R1 ?_;refine Zma 11 rfl (GR H.1 [] [0,6] 2 7 h Z121 fun _ _ h=>?_);refine Ds (GP H 5 1 [17,1] [(31,[.ptr 0 0,.ptr 0 0,.ptr 0 0,.ptr 0 0,.ptr 0 2])] (Ds ?_));refine GE H.1 17 ?_;dsimp only[go_sem];refine GD (Vg 6 ?_);refine VR [0] [7,1,2,3,4,5] 2 8 h Zx31 fun _ _ h=>?_;refine Vg 1 ?_;obtain rfl:=Option.some.inj h;exact Zlj ok70
def Z651:(Int×List Sess×List Int)→Option (List Int×List Sess)
| (x31,x32,x33)=>
 (vw_ (ln Sess.row x32) x31 (ln Sess.row x32)).bind fun _=>
 (Zsg x32 (Int.toNat (x31)) (Int.toNat (ln Sess.row x32)-Int.toNat (x31)) (Sess.mk 0 (([]:List Int)) 0 0)).bind fun x35=>
 (Z8c x35 0 x31).bind fun x36=>
 some (x33,x36)
def Z751 (x14:Int) (x18:(Bool×List Int)):(Int×List Sess)→Option ((Int×Int×List Sess×List Int) ⊕ (List Int×List Sess))
| (x20,x21)=>some (.inl (x20,wr (x14+1),x21,x18.2))
def Z851 (x1:Int):(Int×Int×List Sess×List Int)→Option ((Int×Int×List Sess×List Int) ⊕ (List Int×List Sess))
| (x13,x14,x15,x16)=>
 ifb (decide (x14<(ln Sess.row x15))) (
 (at_ x15 x14).bind fun x17=>
 (Z621 x17 x1 x16).bind fun x18=>
 ifb (!x18.1) (
 (at_ x15 x13).bind fun _=>
 (Z751 x14 x18) (wr (x13+1),x15.set (Int.toNat (x13)) x17)) (
 (Z751 x14 x18) (x13,x15))) (
 Option.map Sum.inr (Z651 (x13,x15,x16)))
def Z951 (x1:Int) (x2:List Sess):Option (List Int×List Sess):=
 (Z041 x1 x2).bind fun x3=>
 ifb (decide (x3.1=((-1)))) (
 some (x3.2,x2)) (
 loop (Z851 x1) (x3.1,wr (x3.1+1),x2,x3.2))
theorem Za51 {x1 x2 r} (h:Z951 x1 x2=some r):Z0f Tryz.prog 176 [.osl 0,.clo 177 [.ptr 0 0,.ptr 1 0]] [some ⟨3,[.iv x1]⟩,some ⟨40,[.nl]⟩] [Zuj x2] (.osl 2) [some ⟨3,[.iv x1]⟩,some ⟨40,[.osl 1]⟩] [none,Sq4 r.1,Zuj r.2]:=by
 refine FT Zet fun w0 M0=>?_;have ok:=Zet;rw [Z951] at h;dsimp only[lun,List.cons_append,List.nil_append];refine Vg 8 ?_;have ⟨x3,ex3,h⟩:=Bs h;refine Z8f [true,true] [true] trivial (Z141 ex3) (h:=?_);refine Vg 8 ?_;refine MI h (fun h=>?_) fun h=>?_
 ·refine Vg 5 ?_;refine Zjj 131 4 (Ds ?_);refine Zgj 0 2 (Ds ?_);obtain rfl:=Option.some.inj h;exact Zkj Zet
 ·refine Vg 8 ?_;refine Vm [0,1] (fun s=>([(5,.iv s.1)],[],[],[(0,Zuj s.2.1),(1,Sq4 s.2.2)])) Z651 r ?_ fun J1=>?_
  ·rintro ⟨x31,x32,x33⟩ h;rw [Z651] at h;(try dsimp only);refine Vg 4 ?_;have ⟨x34,ex34,h⟩:=Bs h;refine Zvg Sess.row ex34 trivial rfl rfl rfl rfl ?_;have ⟨x35,ex35,h⟩:=Bs h;refine Zzg Sess.row ex35 trivial rfl rfl (by first | exact Zqb _ | simp [go_sem]) (by first | rfl | simp [go_sem]) rfl rfl (Vg 5 ?_);have ⟨x36,ex36,h⟩:=Bs h;refine Zif Sess.row ex36 trivial rfl rfl rfl rfl (Vg 2 ?_);obtain rfl:=Option.some.inj h;exact Zkj Zet
  ·refine Vg 1 ?_;refine Mm h [0,2] (fun s=>([(5,.iv s.1),(6,.iv s.2.1)],[],[],[(0,Zuj s.2.2.1),(1,Sq4 s.2.2.2)])) ?_;rintro n1 ⟨x13,x14,x15,x16⟩ y1 h hin1 hout1;rw [Z851] at h;(try dsimp only);refine Vg 8 ?_;refine MI h (fun h=>?_) fun h=>?_
   ·refine Vg 7 ?_;have ⟨x17,ex17,h⟩:=Bs h;refine Zde Sess.row ex17 trivial rfl rfl rfl (Zme Sess.row ex17 trivial rfl rfl rfl (Vg 7 ?_));have ⟨x18,ex18,h⟩:=Bs h;refine Zaf [true,true,false] [false,true] trivial rfl (Z9j [0,1] [1] 3 2 (Z721 ex18)) (by kernel_rfl) (h:=?_);refine Vg 2 ?_;refine Vl [0,2,4,1] (fun s=>([(5,.iv s.1)],[some ⟨3,[.iv x1]⟩,some ⟨40,[.osl 3]⟩],[Zuj s.2,none,none,Sq4 x18.2])) (Z751 x14 x18) y1 ?_ fun J2=>?_
    ·rintro ⟨x20,x21⟩ h;rw [Z751] at h;(try dsimp only);refine Vg 6 ?_;refine Zgj 3 1 ?_;exact W
    ·refine MI h (fun h=>?_) fun h=>?_
     ·refine Vg 5 ?_;have ⟨x19,ex19,h⟩:=Bs h;refine Zde Sess.row ex19 trivial rfl rfl rfl (Zue (Sess.row x17) Sess.row (y':=x17) ex19 trivial rfl rfl rfl (by first | exact Zqb _ | simp [go_sem]) rfl rfl rfl rfl ?_);exact W
     ·exact W
   ·exact W
@[go_sem] def e179:EC:=eQ Tryz.f179
theorem Zb51:FnOK Tryz.prog 179 Tryz.f179 e179 [] 1 34:=okA
def Zc51:(List Int×List Mail)→Option (List Int×List Mail)
| (x54,x55)=>some (x54,x55)
def Zd51 (x25:Int):(List Int×List Mail)→Option ((Int×List Int×List Mail) ⊕ (List Int×List Mail))
| (x34,x35)=>some (.inl (wr (x25+1),x34,x35))
def Ze51 (x1 x2:Int) (x3 x4:Int) (x5:List Sess) (x7:Int) (x8:List Side) (x9:List Int) (x10 x11:List KE) (x13:List Event) (x25:Int) (x26:List Int) (x27:List Mail) (x28:Side):Bool→Option ((Int×List Int×List Mail) ⊕ (List Int×List Mail))
| x31=>
 ifb x31 (
 (Zwt x28 5 x1 x2 x3 x4 x5 x26 x7 x8 x9 x10 x11 x27 x13).bind fun x32=>
 (Zh11 x26 x28.Peer).bind fun x33=>
 (Zd51 x25) (x33,x32)) (
 (Zd51 x25) (x26,x27))
def Zf51 (x1 x2:Int) (x3 x4:Int) (x5:List Sess) (x7:Int) (x8:List Side) (x9:List Int) (x10 x11:List KE) (x13:List Event):(Int×List Int×List Mail)→Option ((Int×List Int×List Mail) ⊕ (List Int×List Mail))
| (x25,x26,x27)=>
 ifb (decide (x25<(ln Side.row x8))) (
 (at_ x8 x25).bind fun x28=>
 (Znn x28).bind fun x29=>
 ifb x29 (
 (Zkw x26 x28.Peer).bind fun x30=>
 (Ze51 x1 x2 x3 x4 x5 x7 x8 x9 x10 x11 x13 x25 x26 x27 x28) (!x30)) (
 (Ze51 x1 x2 x3 x4 x5 x7 x8 x9 x10 x11 x13 x25 x26 x27 x28) false)) (
 Option.map Sum.inr (Zc51 (x26,x27)))
def Zg51 (x1 x2:Int) (x3 x4:Int) (x5:List Sess) (x6:List Int) (x7:Int) (x8:List Side) (x9:List Int) (x10 x11:List KE) (x12:List Mail) (x13:List Event):Option (List Int×List Mail):=loop (Zf51 x1 x2 x3 x4 x5 x7 x8 x9 x10 x11 x13) (0,x6,x12)
theorem Zh51 {x1 x2 x3 x4 x5 x6 x7 x8 x9 x10 x11 x12 x13 r} (h:Zg51 x1 x2 x3 x4 x5 x6 x7 x8 x9 x10 x11 x12 x13=some r):Z0f Tryz.prog 183 [.ptr 0 0] [some ⟨138,[.iv x1,.iv x2,.osl 0,.iv x3,.osl 1,.iv x4,Sp5 x5,.osl 2,Sp1 x6,.osl 3,.osl 4,.osl 5,.iv x7]⟩] [Zwj x8,Sq4 x9,Zxj x10,Zxj x11,Sq6 x12,Zzj x13] (.tup []) [some ⟨138,[.iv x1,.iv x2,.osl 0,.iv x3,.osl 1,.iv x4,Sp5 x5,.osl 2,Sp1 r.1,.osl 3,.osl 7,.osl 5,.iv x7]⟩] [Zwj x8,Sq4 x9,Zxj x10,Zxj x11,none,Zzj x13,none,Sq6 r.2]:=by
 refine FT Z241 fun w0 M0=>?_;have ok:=Z241;rw [Zg51] at h;dsimp only[lun,List.cons_append,List.nil_append];refine Vg 12 ?_;refine Vl [] (fun s=>([],[some ⟨138,[.iv x1,.iv x2,.osl 0,.iv x3,.osl 1,.iv x4,Sp5 x5,.osl 2,Sp1 s.1,.osl 3,.osl 7,.osl 5,.iv x7]⟩],[Zwj x8,Sq4 x9,Zxj x10,Zxj x11,none,Zzj x13,none,Sq6 s.2])) Zc51 r ?_ fun J1=>?_
 ·rintro ⟨x54,x55⟩ h;rw [Zc51] at h;(try dsimp only);obtain rfl:=Option.some.inj h;exact Zlj Z241
 ·refine Vg 1 ?_;refine Zjj 53 5 (Ds ?_);refine Zjj 53 5 (Ds ?_);refine Zgj 4 7 (Ds ?_);refine Mm h [0,1,9,2] (fun s=>([(12,.iv s.1)],[(0,8,Sp1 s.2.1)],[],[(6,none),(7,Sq6 s.2.2)])) ?_;rintro n1 ⟨x25,x26,x27⟩ y1 h hin1 hout1;rw [Zf51] at h;(try dsimp only);refine Vg 5 ?_;refine MI h (fun h=>?_) fun h=>?_
  ·refine Vg 5 ?_;have ⟨x28,ex28,h⟩:=Bs h;refine Zde Side.row ex28 trivial rfl rfl rfl (Zme Side.row ex28 trivial rfl rfl rfl (Vg 4 ?_));refine Vk [0,1,2,1,6,3] (fun x31=>[(28,.bv x31)]) (Ze51 x1 x2 x3 x4 x5 x7 x8 x9 x10 x11 x13 x25 x26 x27 x28) y1 ?_ fun J2=>?_
   ·intro x31 h;rw [Ze51] at h;(try dsimp only);refine Vl [0,1,9,3] (fun s=>([],[some ⟨138,[.iv x1,.iv x2,.osl 0,.iv x3,.osl 1,.iv x4,Sp5 x5,.osl 2,Sp1 s.1,.osl 3,.osl 7,.osl 5,.iv x7]⟩],[Zwj x8,Sq4 x9,Zxj x10,Zxj x11,none,Zzj x13,none,Sq6 s.2])) (Zd51 x25) y1 ?_ fun J3=>?_
    ·rintro ⟨x34,x35⟩ h;rw [Zd51] at h;exact W
    ·refine MI h (fun h=>?_) fun h=>?_
     ·refine Vg 4 ?_;refine VR [0] [0,1,2,3,7,5] 2 8 h Zxt fun _ _ h=>?_;refine Vg 1 ?_;have ⟨x33,ex33,h⟩:=Bs h;have q0:=Zi11 ex33;refine Zej fun all H=>Gs ?_;refine Zgj 9 7 ?_;exact W
     ·exact W
   ·refine Zej fun all H=>?_;refine Gn H 1 12 ?_;refine Zma 1 rfl (GB H.1 h Zon fun _ _ h=>?_);refine Gn H 1 10 ?_;refine Zcd 18 h rfl (fun _ h=>?_) fun _ h=>?_
    ·refine Ds (GP H 7 3 [10,3] [(19,[.ptr 0 0,.ptr 0 0,.ptr 0 0,.ptr 0 8,Sp1 x26,.ptr 1 0,.iv x28.Peer])] (Ds ?_));refine Zma 10 rfl (GB H.1 h Zlw fun _ _ h=>?_);refine Gn H 2 0 ?_;refine GD ?_;exact W
    ·refine Ds (GP H 10 0 [13] [(19,[.un,.un,.un,.un,.un,.un,.un,.un,.un,.ff])] (Ds ?_));refine GD ?_;exact W
  ·exact W
def Zi51 (x1:Side) (x2:Int) (x3 x4 x5:Int) (x6:List Sess) (x7:List Int) (x8:Int) (x9:List Side) (x10:List Int) (x11 x12:List KE) (x13:List Mail) (x14:List Event):Option (List Side×List KE):=
 (Z8n x9 x1.Peer ((fun z=>Zan z.1 z.2))).bind fun x15=>
 (Z021 x9 x15.1 ([x1])).bind fun x16=>
 (Z441 x1.Peer x1.Epoch x2 x3 x4 x5 x6 x7 x8 x16 x10 x11 x12 x13 x14).bind fun x17=>
 some (x16,x17)
theorem Zj51 {x1 x2 x3 x4 x5 x6 x7 x8 x9 x10 x11 x12 x13 x14 r} (h:Zi51 x1 x2 x3 x4 x5 x6 x7 x8 x9 x10 x11 x12 x13 x14=some r):Z0f Tryz.prog 70 [.ptr 0 0,.agg (Side.row x1)] [some ⟨138,[.iv x2,.iv x3,.osl 0,.iv x4,.osl 1,.iv x5,Sp5 x6,.osl 2,Sp1 x7,.osl 3,.osl 4,.osl 5,.iv x8]⟩] [Zwj x9,Sq4 x10,Zxj x11,Zxj x12,Sq6 x13,Zzj x14] (.tup []) [some ⟨138,[.iv x2,.iv x3,.osl 7,.iv x4,.osl 1,.iv x5,Sp5 x6,.osl 9,Sp1 x7,.osl 3,.osl 4,.osl 5,.iv x8]⟩] [none,Sq4 x10,none,Zxj x12,Sq6 x13,Zzj x14,none,Zwj r.1,none,Zxj r.2]:=by
 refine FT ok70 fun w0 M0=>?_;rw [Zi51] at h;dsimp only[lun,List.cons_append,List.nil_append];refine Vg 5 ?_;refine Zej fun all H=>Ds (GP H 8 7 [6,1,2,6] [(7,[.ptr 0 0,.ptr 0 0,.ptr 0 0,.ptr 0 0,.ptr 0 0,.ptr 0 2]),(1,[.ptr 1 0,.iv x1.Peer])] (Ds ?_));refine R1 ?_;refine Zma 9 rfl ?_;have ⟨x15,ex15,h⟩:=Bs h;refine GK H.1 (LR.slice 0 rfl) (Z9n ex15 ⟨by kernel_rfl,rfl,fun z r hz=>Zbn hz⟩) (Ds ?_);refine GP H 5 0 [15] [(4,[.iv x15.1,.bv x15.2,.tup [.iv x15.1,.bv x15.2]]),(10,[.iv x15.1,.bv x15.2])] (Ds ?_);refine GD (Vg 1 ?_);refine Zej fun all H=>Ds ?_;refine GP H 9 9 [7,1,2,8] [(19,[.ptr 0 0,.ptr 0 0,.ptr 0 0,.ptr 0 0,.ptr 0 0,.ptr 0 0,.ptr 0 2]),(1,[.iv x15.1,.agg (Side.row x1)])] (Ds ?_);refine Zna 7 10 rfl ?_ ?_
 ·refine RV ?_;refine R1 ?_;refine Zma 11 rfl (GR H.1 [] [0,6] 2 7 h Z121 fun x16 ex16 h=>?_);refine Ds (GP H 5 1 [17,1] [(31,[.ptr 0 0,.ptr 0 0,.ptr 0 0,.ptr 0 0,.ptr 0 2])] (Ds ?_));refine GE H.1 17 ?_;dsimp only[go_sem];refine GD (Vg 6 ?_);refine VR [0] [7,1,2,3,4,5] 2 8 h Z541 fun x17 ex17 h=>?_;refine Vg 1 ?_;obtain rfl:=Option.some.inj h;exact Zlj ok70
 ·refine RV ?_;refine R1 ?_;refine Zma 11 rfl (GR H.1 [] [0,6] 2 7 h Z121 fun _ _ h=>?_);refine Ds (GP H 5 1 [17,1] [(31,[.ptr 0 0,.ptr 0 0,.ptr 0 0,.ptr 0 0,.ptr 0 2])] (Ds ?_));refine GE H.1 17 ?_;dsimp only[go_sem];refine GD (Vg 6 ?_);refine VR [0] [7,1,2,3,4,5] 2 8 h Z541 fun _ _ h=>?_;refine Vg 1 ?_;obtain rfl:=Option.some.inj h;exact Zlj ok70
@[go_sem] def e109:EC:=eQ Tryz.f109
theorem Zk51:FnOK Tryz.prog 109 Tryz.f109 e109 [.t 6] 3 37:=okA
@[go_sem] def e115:EC:=eQ Tryz.f115
def Zl51:Bool→Option Bool
| x5=>some x5
def Zm51 (x1:Sess) (x2:Node):Option Bool:=
 ifb (decide (x1.State=0)) (
 (Zms x2).bind fun x3=>
 (Zi31 x1.Need x3).bind fun x4=>
 Zl51 (!x4)) (
 Zl51 false)
theorem Zn51 {x1 x2 r} (h:Zm51 x1 x2=some r):Zy6 Tryz.prog 115 [.agg (Sess.row x1),.elt (Node.row x2) 0] (.bv r):=by
 have ok:=oK 115 Tryz.f115 e115 [.t 3] 2 13;refine FP ok fun w0 H0=>?_;rw [Zm51] at h;refine Vg 6 ?_;refine Vl [] (fun x5=>([(3,.bv x5)],[],[])) Zl51 r ?_ fun J1=>?_
 ·intro x5 h;rw [Zl51] at h;exact W
 ·refine Zej fun all H=>?_;refine Gn H 4 8 ?_;refine Zcd 7 h rfl (fun _ h=>?_) fun _ h=>?_
  ·refine Gn H 3 5 ?_;refine Zma 7 rfl (GB H.1 h Zns fun _ _ h=>?_);refine Ds ?_;refine Zma 8 rfl (GB H.1 h Zj31 fun _ _ h=>?_);refine Gn H 3 0 ?_;refine GD ?_;exact W
  ·refine Ds (GP H 8 0 [12] [(14,[.ff])] (Ds ?_));refine GD ?_;exact W
def Zo51 (x1 x2:Int):(Bool×List Side)→Option (Int×Int×Int×List Side)
| (x12,x13)=>
 ifb x12 (
 some (0,0,132,([]:List Side))) (
 some (x1,x2,0,x13))
def Zp51 (x1 x2 x7:Int) (x8:List Side) (x9:Side):Bool→Option (Int×Int×Int×List Side)
| x11=>
 ifb x11 (
 (Zo51 x1 x2) (x9.Token,x8.set (Int.toNat (x7)) (Side.mk x9.Peer x9.Epoch x9.State x9.Fork x9.DY true x9.BO x9.Ask))) (
 some (0,0,133,([]:List Side)))
def Zq51 (x1 x2:Int) (x4:Msg) (x7:Int) (x8:List Side) (x9:Side):Bool→Option (Int×Int×Int×List Side)
| x10=>
 ifb x10 (
 (Zo51 x1 x2) (x9.Fork,x8.set (Int.toNat (x7)) (Side.mk x9.Peer x9.Epoch x9.State true x9.DY x9.Token x9.BO x9.Ask))) (
 ifb (decide (x4.Kind=2)) (
 (Zp51 x1 x2 x7 x8 x9) (decide (x4.Num=0))) (
 (Zp51 x1 x2 x7 x8 x9) false))
def Zr51 (x1 x2 x3:Int) (x4:Msg) (x5:List Side):Option (Int×Int×Int×List Side):=
 (Zu11 (DI.mk x1 x2 x5)).bind fun x6=>
 ifb (!decide (x6=0)) (
 some (0,0,x6,([]:List Side))) (
 (Zbk x5 ((fun z=>Z8m z x3 x4))).bind fun x7=>
 ifb (decide (x7<0)) (
 some (0,0,131,([]:List Side))) (
 (Zbm x5).bind fun x8=>
 (at_ x8 x7).bind fun x9=>
 ifb (decide (x4.Kind=1)) (
 (Zq51 x1 x2 x4 x7 x8 x9) (decide (x4.Num=0))) (
 (Zq51 x1 x2 x4 x7 x8 x9) false)))
theorem Zs51 {x1 x2 x3 x4 x5 r} (h:Zr51 x1 x2 x3 x4 x5=some r):Z0f Tryz.prog 187 [.agg [.iv x1,.iv x2,.osl 0],.iv x3,.agg (Msg.row x4)] [] [Zwj x5] (.tup [.agg [.iv r.1,.iv r.2.1,.osl 1],.iv r.2.2.1]) [] [Zwj x5,Zwj r.2.2.2]:=by
 refine FT Zo31 fun w0 M0=>?_;have ok:=Zo31;rw [Zr51] at h;dsimp only[lun,List.cons_append,List.nil_append];refine Vg 12 ?_;refine VN (LR.slice 0 rfl) h Zv11 fun _ _ h=>?_;refine Vg 7 ?_;refine MI h (fun h=>?_) fun h=>?_
 ·refine Vg 7 ?_;refine Zij 3 2 112 8 (Ds ?_);obtain rfl:=Option.some.inj h;exact Zkj Zo31
 ·refine Vg 6 ?_;refine VN (((LR.slice 0 rfl).block 1 rfl rfl).block 2 rfl rfl) h (fun e=>Zck e ⟨by kernel_rfl,rfl,fun z r hz=>Z9m hz⟩) fun x7 _ h=>?_;refine Vg 8 ?_;refine MI h (fun h=>?_) fun h=>?_
  ·refine Vg 6 ?_;refine Zij 3 2 112 8 (Ds ?_);obtain rfl:=Option.some.inj h;exact Zkj Zo31
  ·refine Vg 5 ?_;refine VR [] [0] 4 1 h Z0t fun x8 _ h=>?_;refine Vg 8 ?_;have ⟨x9,ex9,h⟩:=Bs h;refine Zde Side.row ex9 trivial rfl rfl rfl (Vg 14 ?_);refine Vm [3,1,1,2,3,1] (fun x10=>([(34,.bv x10)],[],[(1,none)],[])) (Zq51 x1 x2 x4 x7 x8 x9) r ?_ fun J1=>?_
   ·intro x10 h;rw [Zq51] at h;(try dsimp only);refine Vm [3,1,2,1] (fun s=>([(11,.bv s.1)],[],[(2,none)],[(1,Zwj s.2)])) (Zo51 x1 x2) r ?_ fun J2=>?_
    ·rintro ⟨x12,x13⟩ h;rw [Zo51] at h;(try dsimp only);refine Vg 6 ?_;refine MI h (fun h=>?_) fun h=>?_
     ·refine Vg 6 ?_;refine Zij 3 2 112 8 (Ds ?_);refine Zgj 2 1 (Ds ?_);obtain rfl:=Option.some.inj h;exact Zkj Zo31
     ·refine Vg 7 ?_;obtain rfl:=Option.some.inj h;exact Zkj Zo31
    ·refine MI h (fun h=>?_) fun h=>?_
     ·refine Vg 5 ?_;refine Zke Side.row ex9 trivial rfl rfl rfl (Vg 3 ?_);refine Zue [.bv true] Side.row (y':=(Side.mk x9.Peer x9.Epoch x9.State true x9.DY x9.Token x9.BO x9.Ask)) ex9 trivial rfl rfl rfl (by first | exact Zqb _ | simp [go_sem]) rfl rfl rfl rfl ?_;exact W
     ·refine Vg 6 ?_;refine Vm [3,1,2,1,3,1] (fun x11=>([(50,.bv x11)],[],[(2,none)],[])) (Zp51 x1 x2 x7 x8 x9) r ?_ fun J3=>?_
      ·intro x11 h;rw [Zp51] at h;(try dsimp only);refine MI h (fun h=>?_) fun h=>?_
       ·refine Vg 5 ?_;refine Zke Side.row ex9 trivial rfl rfl rfl (Vg 3 ?_);refine Zue [.bv true] Side.row (y':=(Side.mk x9.Peer x9.Epoch x9.State x9.Fork x9.DY true x9.BO x9.Ask)) ex9 trivial rfl rfl rfl (by first | exact Zqb _ | simp [go_sem]) rfl rfl rfl rfl ?_;exact W
       ·refine Vg 6 ?_;refine Zij 3 2 112 8 (Ds ?_);refine Zgj 2 1 (Ds ?_);obtain rfl:=Option.some.inj h;exact Zkj Zo31
      ·exact W
   ·exact W
@[go_sem] def e87:EC:=eQ Tryz.f87
def Zt51:(List Int×Int)→Option (List Int×Int×Int)
| (x17,x18)=>some (x17,x18,0)
def Zu51 (x1:Graph):(List Int×Int)→Option ((List Int×Int) ⊕ (List Int×Int×Int))
| (x8,x9)=>
 (Z1s x8 0).bind fun x10=>
 ifb x10 (
 (Zi41 x1 x8).bind fun x11=>
 some (.inl (x11.1,wr (x9+1)))) (
 Option.map Sum.inr (Zt51 (x8,x9)))
def Zv51 (x1:Graph):Option (List Int×Int×Int):=
 (Zq01 x1).bind fun x2=>
 ifb (!decide (x2=0)) (
 some (([]:List Int),0,x2)) (
 (mk_ 8 x1.N 0).bind fun x3=>
 loop (Zu51 x1) (x3,0))
theorem Zw51 {x1 r} (h:Zv51 x1=some r):Zy6 Tryz.prog 87 [.agg (Graph.row x1)] (.tup [Sp1 r.1,.iv r.2.1,.iv r.2.2]):=by
 have ok:=oK 87 Tryz.f87 e87 [.t 2,.t 3,.t 4] 1 27;refine FP ok fun w0 H0=>?_;rw [Zv51] at h;refine Vg 11 ?_;refine VB h Zr01 fun _ _ h=>?_;refine Vg 7 ?_;refine MI h (fun h=>?_) fun h=>?_
 ·exact W
 ·refine Vg 5 ?_;have ⟨x3,ex3,h⟩:=Bs h;refine Zgf Z3d ex3 trivial rfl rfl rfl rfl (Vg 4 ?_);refine Vl [] (fun s=>([(6,Sp1 s.1),(7,.iv s.2)],[],[])) Zt51 r ?_ fun J1=>?_
  ·rintro ⟨x17,x18⟩ h;rw [Zt51] at h;exact W
  ·refine Vg 1 ?_;refine Zhj 0 (Ds ?_);refine Ml h [1,1] (fun s=>([(6,Sp1 s.1),(7,.iv s.2)],[some ⟨24,Graph.row x1⟩],[])) ?_;rintro n1 ⟨x8,x9⟩ y1 h hin1 hout1;rw [Zu51] at h;(try dsimp only);refine Vg 4 ?_;refine VB h Z2s fun _ _ h=>?_;refine Vg 1 ?_;refine MI h (fun h=>?_) fun h=>?_
   ·refine Vg 6 ?_;refine VB h Zj41 fun _ _ h=>?_;exact W
   ·exact W
@[go_sem] def e24:EC:=eQ Tryz.f24
def Zx51:List DK→Option Bar
| x22=>some (Bar.mk x22 (([]:List Mail)))
def Zy51 (x2:Scene):(Int×List DK)→Option ((Int×List DK) ⊕ Bar)
| (x7,x8)=>
 ifb (decide (x7<(ln DI.row x2.Diners))) (
 (at_ x2.Diners x7).bind fun x9=>
 (Z7c 72 x8 ([DK.mk x9 0 (([]:List Int))])).bind fun x10=>
 some (.inl (wr (x7+1),x10))) (
 Option.map Sum.inr (Zx51 x8))
def Zz51 (x1:Graph):Option Bar:=
 (Zk41 x1).bind fun x2=>
 loop (Zy51 x2) (0,([]:List DK))
theorem Z061 {x1 r} (h:Zz51 x1=some r):Zy6 Tryz.prog 24 [.agg (Graph.row x1)] (.agg (Bar.row r)):=by
 have ok:=oK 24 Tryz.f24 e24 [.c 2 (some 2)] 1 27;refine FP ok fun w0 H0=>?_;rw [Zz51] at h;refine Vg 8 ?_;refine VB h Zl41 fun _ _ h=>?_;refine Vg 14 ?_;refine Vl [2,1,1,1] (fun x22=>([],[none,some ⟨73,[.nl,.nl]⟩,none,some ⟨73,[.osl 0,.nl]⟩],[Zvj x22])) Zx51 r ?_ fun J1=>?_
 ·intro x22 h;rw [Zx51] at h;(try dsimp only);refine Vg 5 ?_;refine Zhj 0 ?_;exact W
 ·refine Vg 1 ?_;refine Zij 3 0 61 5 (Ds ?_);refine Mm h [2,3] (fun s=>([(5,.iv s.1)],[],[(0,none)],[(0,Zvj s.2)])) ?_;rintro n1 ⟨x7,x8⟩ y1 h hin1 hout1;rw [Zy51] at h;(try dsimp only);refine Vg 9 ?_;refine MI h (fun h=>?_) fun h=>?_
  ·refine Vg 3 ?_;refine Zej fun all H=>?_;refine Gn H 4 8 ?_;have ⟨x9,ex9,h⟩:=Bs h;refine Zjc H.1 H.2.1 H.2.2.1 H.2.2.2 5 DI.row ex9 rfl rfl trivial rfl rfl rfl rfl (Gn H 1 6 ?_);refine Zna 1 7 rfl ?_ ?_
   ·refine RV ?_;refine Zma 7 rfl (Zyf (.agg [.iv x9.ID,.iv x9.PH,Sp3 x9.SD,.iv 0,Sp1 (([]:List Int))]) H.1 rfl trivial (by simp [go_sem]) (Ds ?_));refine R1 ?_;refine Zma 9 rfl ?_;have ⟨x10,ex10,h⟩:=Bs h;refine GA DK.row ex10 H.1 ?_;refine Gn H 1 1 ?_;refine Zma 11 rfl (RV ?_);refine GD (Vg 6 ?_);refine Zgj 2 0 ?_;exact W
   ·refine Zyf (.agg [.iv x9.ID,.iv x9.PH,Sp3 x9.SD,.iv 0,Sp1 (([]:List Int))]) H.1 rfl trivial (by simp [go_sem]) (Ds ?_);refine Zna 1 8 rfl ?_ ?_
    ·refine RV ?_;refine R1 ?_;refine Zma 9 rfl ?_;have ⟨x10,ex10,h⟩:=Bs h;refine GA DK.row ex10 H.1 ?_;refine Gn H 1 1 ?_;refine R1 ?_;refine GD (Vg 6 ?_);refine Zgj 2 0 ?_;exact W
    ·refine RV ?_;refine R1 ?_;refine Zma 9 rfl ?_;have ⟨x10,ex10,h⟩:=Bs h;refine GA DK.row ex10 H.1 ?_;refine Gn H 1 1 ?_;refine R1 ?_;refine GD (Vg 6 ?_);refine Zgj 2 0 ?_;exact W
  ·exact W
@[go_sem] def e126:EC:=eQ Tryz.f126
theorem Z161:FnOK Tryz.prog 126 Tryz.f126 e126 [] 1 19:=okA
def Z261 (x1 x2 x3:Int) (x4:List Side) (x5:List Int):Option (Int×Int×Int×List Side):=
 (Zt31 (DK.mk (DI.mk x1 x2 x4) x3 x5)).bind fun x6=>
 ifb (!decide (x6=0)) (
 some (0,0,x6,([]:List Side))) (
 ifb (decide (x3=0)) (
 some (0,0,152,([]:List Side))) (
 (Zkx x1 x2 x3 x4 x5).bind fun x7=>
 some (x1,x2,0,x7.1)))
theorem Z361 {x1 x2 x3 x4 x5 r} (h:Z261 x1 x2 x3 x4 x5=some r):Z0f Tryz.prog 169 [.agg [.iv x1,.iv x2,.osl 0,.iv x3,.osl 1]] [] [Zwj x4,Sq4 x5] (.tup [.agg [.iv r.1,.iv r.2.1,.osl 2,.iv 0,.nl],.iv r.2.2.1]) [] [Zwj x4,Sq4 x5,Zwj r.2.2.2]:=by
 refine FT Z351 fun w0 M0=>?_;rw [Z261] at h;dsimp only[lun,List.cons_append,List.nil_append];refine Vg 10 ?_;refine VN ((LR.slice 0 rfl).slice 1 rfl) h Zu31 fun _ _ h=>?_;refine Vg 7 ?_;refine MI h (fun h=>?_) fun h=>?_
 ·refine Vg 7 ?_;refine Zij 1 2 112 8 (Ds ?_);obtain rfl:=Option.some.inj h;exact Zkj Z351
 ·refine Vg 8 ?_;refine MI h (fun h=>?_) fun h=>?_
  ·refine Vg 6 ?_;refine Zij 1 2 112 8 (Ds ?_);obtain rfl:=Option.some.inj h;exact Zkj Z351
  ·refine Vg 4 ?_;refine VR [] [0,1] 2 2 h Zlx fun _ _ h=>?_;refine Vg 15 ?_;obtain rfl:=Option.some.inj h;exact Zkj Z351
@[go_sem] def e133:EC:=eQ Tryz.f133
def Z461 (x1:Book) (x2:Int):Option (Book×List Int×Int):=
 (Zxz x1).bind fun x3=>
 ifb (!decide (x3=0)) (
 some ((Book.mk 0 (([]:List Sess))),([]:List Int),x3)) (
 (Ztw x1).bind fun x4=>
 (Z951 x2 x4).bind fun x5=>
 some ((Book.mk x1.Last x5.2),x5.1,0))
theorem Z561 {x1 x2 r} (h:Z461 x1 x2=some r):Zy6 Tryz.prog 133 [.agg (Book.row x1),.iv x2] (.tup [.agg (Book.row r.1),Sp1 r.2.1,.iv r.2.2]):=by
 have ok:=oK 133 Tryz.f133 e133 [.c 4 (some 2),.t 5,.t 6] 2 22;refine FP ok fun w0 H0=>?_;rw [Z461] at h;refine Vg 12 ?_;refine VB h Zyz fun _ _ h=>?_;refine Vg 7 ?_;refine MI h (fun h=>?_) fun h=>?_
 ·exact W
 ·refine Vg 8 ?_;refine VR [] [] 4 0 h Zuw fun _ _ h=>?_;refine Vg 7 ?_;refine VR [1,3] [0] 4 1 h Za51 fun _ _ h=>?_;refine Vg 4 ?_;refine Zej fun all H=>Gs ?_;refine Zhj 2 (Ds ?_);refine Zhj 1 ?_;exact W
def Z661 (x1 x3:Int) (x4:List Side) (x5:List Int) (x6:List Mail):Int→Option (Int×Int×Int×List Side×List Mail)
| x10=>
 (Z151 (DI.mk x1 x10 x4)).bind fun x11=>
 (Z7c 40 x6 x11.2.2.2.2).bind fun x12=>
 (Zj21 x11.1 x11.2.1 x3 x11.2.2.2.1 x5 x12).bind fun x13=>
 some (x11.1,x11.2.1,x13.1,x13.2.1,x13.2.2)
def Z761 (x1 x2 x3:Int) (x4:List Side) (x5:List Int) (x6:List Mail):Bool→Option (Int×Int×Int×List Side×List Mail)
| x9=>
 ifb x9 (
 (Z661 x1 x3 x4 x5 x6) 0) (
 (Z661 x1 x3 x4 x5 x6) x2)
def Z861 (x1 x2 x3:Int) (x4:List Side) (x5:List Int) (x6:List Mail):Bool→Option (Int×Int×Int×List Side×List Mail)
| x7=>
 ifb x7 (
 (Z661 x1 x3 x4 x5 x6) 1) (
 ifb (decide (x2=2)) (
 ifb (!decide (x3=1)) (
 (Zgr x4 ((fun z=>Zem z))).bind fun x8=>
 (Z761 x1 x2 x3 x4 x5 x6) (!x8)) (
 (Z761 x1 x2 x3 x4 x5 x6) false)) (
 (Z761 x1 x2 x3 x4 x5 x6) false))
def Z961 (x1 x2 x3:Int) (x4:List Side) (x5:List Int) (x6:List Mail):Option (Int×Int×Int×List Side×List Mail):=
 ifb (decide (x3=1)) (
 (Z861 x1 x2 x3 x4 x5 x6) (decide (x2=0))) (
 (Z861 x1 x2 x3 x4 x5 x6) false)
theorem Za61 {x1 x2 x3 x4 x5 x6 r} (h:Z961 x1 x2 x3 x4 x5 x6=some r):Z0f Tryz.prog 211 [.ptr 0 0] [some ⟨248,[.iv x1,.iv x2,.osl 0,.iv x3,.osl 1,.osl 2]⟩] [Zwj x4,Sq4 x5,Sq6 x6] (.tup []) [some ⟨248,[.iv r.1,.iv r.2.1,.osl 3,.iv r.2.2.1,.osl 1,.osl 7]⟩] [none,Sq4 x5,none,Zwj r.2.2.2.1,none,none,none,Sq6 r.2.2.2.2]:=by
 refine FT Zq41 fun w0 M0=>?_;have ok:=Zq41;rw [Z961] at h;dsimp only[lun,List.cons_append,List.nil_append];refine Vg 15 ?_;refine Vk [0,1,1,1] (fun x7=>[(6,.bv x7)]) (Z861 x1 x2 x3 x4 x5 x6) r ?_ fun J1=>?_
 ·intro x7 h;rw [Z861] at h;(try dsimp only);refine Vm [0,1] (fun x10=>([],[(0,1,.iv x10)],[],[])) (Z661 x1 x3 x4 x5 x6) r ?_ fun J2=>?_
  ·intro x10 h;rw [Z661] at h;(try dsimp only);refine Vg 8 ?_;refine Zhj 0 (Ds ?_);refine VR [] [] 1 3 h Z251 fun _ _ h=>?_;refine Vg 26 ?_;have ⟨x12,ex12,h⟩:=Bs h;refine Zlc Mail.row ex12 trivial rfl rfl rfl (Vg 6 ?_);refine VR [0] [3,1,5] 2 6 h Zk21 fun _ _ h=>?_;refine Vg 1 ?_;obtain rfl:=Option.some.inj h;exact Zlj Zq41
  ·refine MI h (fun h=>?_) fun h=>?_
   ·exact W
   ·refine Vg 10 ?_;refine Vk [0,1] (fun x9=>[(27,.bv x9)]) (Z761 x1 x2 x3 x4 x5 x6) r ?_ fun J3=>?_
    ·intro x9 h;rw [Z761] at h;exact W
    ·refine MC 35 h (fun h=>?_) fun h=>?_
     ·refine Vg 8 ?_;refine MC 43 h (fun h=>?_) fun h=>?_
      ·refine Vg 7 ?_;refine VN (LR.slice 0 rfl) h (fun e=>Zhr e ⟨by kernel_rfl,rfl,fun z r hz=>Zfm hz⟩) fun _ _ h=>?_;exact W
      ·exact W
     ·exact W
 ·exact W
end
end NX
end Go.Proofs.YtgamgemlekpepaaGreat
