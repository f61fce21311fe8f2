/-
  The function narthex/H.1.Act$1: its code compiled, a model, and that the code answers as the model. Written by a program of ours (lb.py). No statement of the seat is proved here.
-/
import Derived.Test.YtgamgemlekpepaaGreatK45
set_option maxRecDepth 100000
set_option maxHeartbeats 40000000
namespace Go.Proofs.YtgamgemlekpepaaGreat
namespace NX
open Go
noncomputable section
def Zq91 (x1:NO) (x2:Do):Option (NO×List ML×List EV×Int):=
 (Zf91 x1 x2).bind fun x3=>
 some (x3.1,x3.2.1,x3.2.2.1,x3.2.2.2)
theorem Zr91 {x1 x2 r} (h:Zq91 x1 x2=some r):FPx 38 [.agg (NO.row x1),.elt (Do.row x2) 0] (.tup [.agg (NO.row r.1),Sp9 r.2.1,Sp7 r.2.2.1,.iv r.2.2.2]):=by have ok:=oJ 38 Tryz.f38 [.c 3 (some 10),.t 4,.t 5,.t 6] 2 12;refine FP ok fun w0 H0=>?_;rw [Zq91] at h;refine Vg 12 ?_;refine VB h Zg91 fun _ _ h=>?_;exact W
def Zs91 (x1:NO) (x2:Int) (x3:Msg):Option (NO×List ML×List EV×Int):=
 (Zo91 x1 x2 x3).bind fun x4=>
 some (x4.1,x4.2.1,x4.2.2.1,x4.2.2.2)
theorem Zt91 {x1 x2 x3 r} (h:Zs91 x1 x2 x3=some r):FPx 43 [.agg (NO.row x1),.elt (Z4d x2) 0,.elt (Msg.row x3) 0] (.tup [.agg (NO.row r.1),Sp9 r.2.1,Sp7 r.2.2.1,.iv r.2.2.2]):=by have ok:=oJ 43 Tryz.f43 [.c 4 (some 10),.t 5,.t 6,.t 7] 3 13;refine FP ok fun w0 H0=>?_;rw [Zs91] at h;refine Vg 13 ?_;refine VB h Zp91 fun _ _ h=>?_;exact W
def Zu91 (x2:Int) (x9:List EV) (x11:NO):(List NO×List ML)→Option (List EV×Int×List NO×List ML)
| (x16,x17)=>
 (at_ x16 x2).bind fun _=>
 some (x9,0,x16.set (Int.toNat (x2)) x11,x17)
def Zv91 (x1:HL) (x2:Int) (x3:List ML):(List ML×List EV×Int×NO)→Option (List EV×Int×List NO×List ML)
| (x8,x9,x10,x11)=>
 ifb (!decide (x10=0)) (
 some (([]:List EV),x10,([]:List NO),([]:List ML))) (
 (Zdr x1.NS).bind fun x12=>
 (Zzz ([x3,x8])).bind fun x14=>
 (Zu91 x2 x9 x11) (x12,x14))
def Zw91 (x1:HL) (x2:Int) (x3:List ML) (x4:Do):Option (List EV×Int×List NO×List ML):=
 (at_ x1.NS x2).bind fun x5=>
 (Zq91 x5 x4).bind fun x6=>
 (Zv91 x1 x2 x3) (x6.2.1,x6.2.2.1,x6.2.2.2,x6.1)
theorem Zx91 {x1 x2 x3 x4 r} (h:Zw91 x1 x2 x3 x4=some r):FTx 36 [.agg (HL.row x1),.agg [.iv x2,Sp9 x3,.clo 38 [.ptr 0 0]]] [some ⟨42,Do.row x4⟩] [] (.tup [.agg [.osl 0,.osl 1],Sp7 r.1,.iv r.2.1]) [none] [Sq0 r.2.2.1,Sq6 r.2.2.2]:=by
 refine Ft ok36 fun w0 M0=>?_;have ok:=ok36;rw [Zw91] at h;refine Vg 9 ?_;refine Zf8 0 rfl rfl (Ds ?_);refine Vl [2,3] (fun s=>([(7,.ptr 4 0),(8,Sp9 s.1),(9,Sp7 s.2.1),(10,.iv s.2.2.1)],[none,some ⟨29,HL.row x1⟩,some ⟨104,[.iv x2,Sp9 x3,.clo 38 [.elt (Do.row x4) 0]]⟩,some ⟨29,[.nl,.nl]⟩,some ⟨67,[.iv s.2.2.2.DK.DI.ID,.iv s.2.2.2.DK.DI.PH,Sp3 s.2.2.2.DK.DI.SD,.iv s.2.2.2.DK.TH,Sp1 s.2.2.2.DK.NE,.iv s.2.2.2.BK.LA,Sp5 s.2.2.2.BK.SE,Sp2 s.2.2.2.KN,Sp1 s.2.2.2.TL,Sp2 s.2.2.2.AK]⟩],[])) (Zv91 x1 x2 x3) r ?_ fun J1=>?_
 ·rintro ⟨x8,x9,x10,x11⟩ h;rw [Zv91] at h;refine Vg 6 ?_;refine MI h (fun h=>?_) fun h=>?_
  ·refine Vg 8 ?_;refine Zkj 3 0 67 10 (Ds ?_);refine Zkj 3 1 53 5 ?_;exact W
  ·refine Vg 2 ?_;refine Vl [3,2,2,1,1,1] (fun s=>([(11,.ptr 5 0)],[none,none,some ⟨104,[.iv x2,Sp9 x3,.clo 38 [.elt (Do.row x4) 0]]⟩,some ⟨29,[.nl,.nl]⟩,some ⟨67,NO.row x11⟩,some ⟨29,[.osl 0,.osl 2]⟩],[Sq0 s.1,none,Sq6 s.2])) (Zu91 x2 x9 x11) r ?_ fun J2=>?_
   ·rintro ⟨x16,x17⟩ h;rw [Zu91] at h;refine Vg 7 ?_;have ⟨x18,ex18,h⟩:=Bs h;refine Zee NO.row ex18 trivial rfl rfl rfl (Zve (NO.row x11) NO.row (y':=x11) ex18 trivial rfl rfl rfl (by first | exact Zrb _ | simp [go_sem]) rfl rfl rfl rfl (Vg 9 ?_));refine Zij 2 1 ?_;exact W
   ·refine Zgj fun all H=>?_;refine Gn H 5 6 ?_;have ⟨x12,ex12,h⟩:=Bs h;refine Zpa 2 6 9 rfl ?_ ?_ ?_
    ·refine Zvd H.1 rfl trivial (Zer ex12) (h:=Ds ?_);refine Zoa 6 9 rfl ?_ ?_
     ·refine Zmb H.1 rfl trivial rfl trivial (Ds ?_);have ⟨x14,ex14,h⟩:=Bs h;refine Zoa 7 9 rfl ?_ ?_
      ·refine Zvd H.1 rfl trivial (Z001 ex14) (h:=?_);refine Gn H 1 2 ?_;refine R1 ?_;refine R1 ?_;refine GD ?_;exact W
      ·refine RV ?_;refine Zna 7 rfl (Zvd H.1 rfl trivial (Z001 ex14) (h:=?_));refine Gn H 1 1 ?_;refine R1 ?_;refine GD ?_;exact W
     ·refine RV ?_;refine Zna 6 rfl (Zmb H.1 rfl trivial rfl trivial (Ds ?_));refine Zna 7 rfl ?_;have ⟨x14,ex14,h⟩:=Bs h;refine Zvd H.1 rfl trivial (Z001 ex14) (h:=?_);refine Gn H 1 1 ?_;refine R1 ?_;refine GD ?_;exact W
    ·refine Zmb H.1 rfl trivial rfl trivial (Ds ?_);refine Zoa 2 9 rfl ?_ ?_
     ·refine Zvd H.1 rfl trivial (Zer ex12) (h:=Ds ?_);have ⟨x14,ex14,h⟩:=Bs h;refine Zoa 7 9 rfl ?_ ?_
      ·refine Zvd H.1 rfl trivial (Z001 ex14) (h:=?_);refine Gn H 1 2 ?_;refine R1 ?_;refine R1 ?_;refine GD (Zij 1 0 ?_);exact W
      ·refine RV ?_;refine Zna 7 rfl (Zvd H.1 rfl trivial (Z001 ex14) (h:=?_));refine Gn H 1 1 ?_;refine R1 ?_;refine GD (Zij 1 0 ?_);exact W
     ·refine RV ?_;refine Zna 2 rfl (Zvd H.1 rfl trivial (Zer ex12) (h:=Ds ?_));refine Zna 7 rfl ?_;have ⟨x14,ex14,h⟩:=Bs h;refine Zvd H.1 rfl trivial (Z001 ex14) (h:=?_);refine Gn H 1 1 ?_;refine R1 ?_;refine GD (Zij 1 0 ?_);exact W
    ·refine RV ?_;refine Zoa 2 6 rfl ?_ ?_
     ·refine Zvd H.1 rfl trivial (Zer ex12) (h:=Ds ?_);refine Zna 6 rfl (Zmb H.1 rfl trivial rfl trivial (Ds ?_));refine Zna 7 rfl ?_;have ⟨x14,ex14,h⟩:=Bs h;refine Zvd H.1 rfl trivial (Z001 ex14) (h:=?_);refine Gn H 1 1 ?_;refine R1 ?_;refine GD ?_;exact W
     ·refine Zmb H.1 rfl trivial rfl trivial (Ds ?_);refine Zna 2 rfl (Zvd H.1 rfl trivial (Zer ex12) (h:=Ds ?_));refine Zna 7 rfl ?_;have ⟨x14,ex14,h⟩:=Bs h;refine Zvd H.1 rfl trivial (Z001 ex14) (h:=?_);refine Gn H 1 1 ?_;refine R1 ?_;refine GD (Zij 1 0 ?_);exact W
 ·refine Zgj fun all H=>Ds (GP H 6 13 [6,13] [(13,[.ptr 2 2,.clo 38 [.elt (Do.row x4) 0],.ptr 1 0,Z7k x1.NS,.ptr 2 0,.iv x2])] (Ds ?_));have ⟨x5,ex5,h⟩:=Bs h;refine Zkc H.1 H.2.1 H.2.2.1 H.2.2.2 6 NO.row ex5 rfl rfl trivial rfl rfl rfl rfl (Gn H 1 11 ?_);have ⟨x6,ex6,h⟩:=Bs h;refine Zoa 8 14 rfl ?_ ?_
  ·refine Zwa H.1 rfl trivial rfl (Zr91 ex6) (by kernel_rfl) (h:=Ds ?_);refine GP H 5 5 [14,5] [(12,[.tup [.agg (NO.row x6.1),Sp9 x6.2.1,Sp7 x6.2.2.1,.iv x6.2.2.2]]),(9,[.agg (NO.row x6.1),Sp9 x6.2.1,Sp7 x6.2.2.1,.iv x6.2.2.2])] (Ds ?_);refine R1 ?_;refine R1 ?_;refine Gn H 3 0 ?_;refine GD ?_;exact W
  ·refine RV ?_;refine Zna 8 rfl (Zwa H.1 rfl trivial rfl (Zr91 ex6) (by kernel_rfl) (h:=Ds ?_));refine GP H 5 4 [15,4] [(12,[.tup [.agg (NO.row x6.1),Sp9 x6.2.1,Sp7 x6.2.2.1,.iv x6.2.2.2]]),(9,[.agg (NO.row x6.1),Sp9 x6.2.1,Sp7 x6.2.2.1,.iv x6.2.2.2])] (Ds ?_);refine R1 ?_;refine Gn H 3 0 ?_;refine GD ?_;exact W
def Zy91 (x2:Int) (x10:List EV) (x12:NO):(List NO×List ML)→Option (List EV×Int×List NO×List ML)
| (x17,x18)=>
 (at_ x17 x2).bind fun _=>
 some (x10,0,x17.set (Int.toNat (x2)) x12,x18)
def Zz91 (x1:HL) (x2:Int) (x5:List ML):(List ML×List EV×Int×NO)→Option (List EV×Int×List NO×List ML)
| (x9,x10,x11,x12)=>
 ifb (!decide (x11=0)) (
 some (([]:List EV),x11,([]:List NO),([]:List ML))) (
 (Zdr x1.NS).bind fun x13=>
 (Zzz ([x5,x9])).bind fun x15=>
 (Zy91 x2 x10 x12) (x13,x15))
def Z0a1 (x1:HL) (x2:Int) (x3:Int) (x4:Msg) (x5:List ML):Option (List EV×Int×List NO×List ML):=
 (at_ x1.NS x2).bind fun x6=>
 (Zs91 x6 x3 x4).bind fun x7=>
 (Zz91 x1 x2 x5) (x7.2.1,x7.2.2.1,x7.2.2.2,x7.1)
theorem Z1a1 {x1 x2 x3 x4 x5 r} (h:Z0a1 x1 x2 x3 x4 x5=some r):FTx 36 [.agg (HL.row x1),.agg [.iv x2,.osl 0,.clo 43 [.ptr 0 0,.ptr 1 0]]] [some ⟨3,[.iv x3]⟩,some ⟨51,Msg.row x4⟩] [Sq6 x5] (.tup [.agg [.osl 1,.osl 2],Sp7 r.1,.iv r.2.1]) [none,none] [none,Sq0 r.2.2.1,Sq6 r.2.2.2]:=by
 refine Ft ok36 fun w0 M0=>?_;have ok:=ok36;rw [Z0a1] at h;refine Vg 9 ?_;refine Zf8 0 rfl rfl (Ds ?_);refine Zf8 1 rfl rfl (Ds ?_);refine Vl [2,3] (fun s=>([(7,.ptr 5 0),(8,Sp9 s.1),(9,Sp7 s.2.1),(10,.iv s.2.2.1)],[none,none,some ⟨29,HL.row x1⟩,some ⟨104,[.iv x2,.osl 0,.clo 43 [.elt [.iv x3] 0,.elt (Msg.row x4) 0]]⟩,some ⟨29,[.nl,.nl]⟩,some ⟨67,[.iv s.2.2.2.DK.DI.ID,.iv s.2.2.2.DK.DI.PH,Sp3 s.2.2.2.DK.DI.SD,.iv s.2.2.2.DK.TH,Sp1 s.2.2.2.DK.NE,.iv s.2.2.2.BK.LA,Sp5 s.2.2.2.BK.SE,Sp2 s.2.2.2.KN,Sp1 s.2.2.2.TL,Sp2 s.2.2.2.AK]⟩],[Sq6 x5])) (Zz91 x1 x2 x5) r ?_ fun J1=>?_
 ·rintro ⟨x9,x10,x11,x12⟩ h;rw [Zz91] at h;refine Vg 6 ?_;refine MI h (fun h=>?_) fun h=>?_
  ·refine Vg 8 ?_;refine Zkj 4 0 67 10 (Ds ?_);refine Zkj 4 1 53 5 ?_;exact W
  ·refine Vg 2 ?_;refine Zjj 0 (Ds ?_);refine Vl [3,2,2,1,1,1] (fun s=>([(11,.ptr 6 0)],[none,none,none,some ⟨104,[.iv x2,Sp9 x5,.clo 43 [.elt [.iv x3] 0,.elt (Msg.row x4) 0]]⟩,some ⟨29,[.nl,.nl]⟩,some ⟨67,NO.row x12⟩,some ⟨29,[.osl 1,.osl 3]⟩],[none,Sq0 s.1,none,Sq6 s.2])) (Zy91 x2 x10 x12) r ?_ fun J2=>?_
   ·rintro ⟨x17,x18⟩ h;rw [Zy91] at h;refine Vg 7 ?_;have ⟨x19,ex19,h⟩:=Bs h;refine Zee NO.row ex19 trivial rfl rfl rfl (Zve (NO.row x12) NO.row (y':=x12) ex19 trivial rfl rfl rfl (by first | exact Zrb _ | simp [go_sem]) rfl rfl rfl rfl (Vg 9 ?_));refine Zij 3 2 ?_;exact W
   ·refine Zgj fun all H=>?_;refine Gn H 5 6 ?_;have ⟨x13,ex13,h⟩:=Bs h;refine Zpa 2 6 9 rfl ?_ ?_ ?_
    ·refine Zvd H.1 rfl trivial (Zer ex13) (h:=Ds ?_);refine Zoa 6 9 rfl ?_ ?_
     ·refine Zmb H.1 rfl trivial rfl trivial (Ds ?_);have ⟨x15,ex15,h⟩:=Bs h;refine Zoa 7 9 rfl ?_ ?_
      ·refine Zvd H.1 rfl trivial (Z001 ex15) (h:=?_);refine Gn H 1 2 ?_;refine R1 ?_;refine R1 ?_;refine GD ?_;exact W
      ·refine RV ?_;refine Zna 7 rfl (Zvd H.1 rfl trivial (Z001 ex15) (h:=?_));refine Gn H 1 1 ?_;refine R1 ?_;refine GD ?_;exact W
     ·refine RV ?_;refine Zna 6 rfl (Zmb H.1 rfl trivial rfl trivial (Ds ?_));refine Zna 7 rfl ?_;have ⟨x15,ex15,h⟩:=Bs h;refine Zvd H.1 rfl trivial (Z001 ex15) (h:=?_);refine Gn H 1 1 ?_;refine R1 ?_;refine GD ?_;exact W
    ·refine Zmb H.1 rfl trivial rfl trivial (Ds ?_);refine Zoa 2 9 rfl ?_ ?_
     ·refine Zvd H.1 rfl trivial (Zer ex13) (h:=Ds ?_);have ⟨x15,ex15,h⟩:=Bs h;refine Zoa 7 9 rfl ?_ ?_
      ·refine Zvd H.1 rfl trivial (Z001 ex15) (h:=?_);refine Gn H 1 2 ?_;refine R1 ?_;refine R1 ?_;refine GD (Zij 2 1 ?_);exact W
      ·refine RV ?_;refine Zna 7 rfl (Zvd H.1 rfl trivial (Z001 ex15) (h:=?_));refine Gn H 1 1 ?_;refine R1 ?_;refine GD (Zij 2 1 ?_);exact W
     ·refine RV ?_;refine Zna 2 rfl (Zvd H.1 rfl trivial (Zer ex13) (h:=Ds ?_));refine Zna 7 rfl ?_;have ⟨x15,ex15,h⟩:=Bs h;refine Zvd H.1 rfl trivial (Z001 ex15) (h:=?_);refine Gn H 1 1 ?_;refine R1 ?_;refine GD (Zij 2 1 ?_);exact W
    ·refine RV ?_;refine Zoa 2 6 rfl ?_ ?_
     ·refine Zvd H.1 rfl trivial (Zer ex13) (h:=Ds ?_);refine Zna 6 rfl (Zmb H.1 rfl trivial rfl trivial (Ds ?_));refine Zna 7 rfl ?_;have ⟨x15,ex15,h⟩:=Bs h;refine Zvd H.1 rfl trivial (Z001 ex15) (h:=?_);refine Gn H 1 1 ?_;refine R1 ?_;refine GD ?_;exact W
     ·refine Zmb H.1 rfl trivial rfl trivial (Ds ?_);refine Zna 2 rfl (Zvd H.1 rfl trivial (Zer ex13) (h:=Ds ?_));refine Zna 7 rfl ?_;have ⟨x15,ex15,h⟩:=Bs h;refine Zvd H.1 rfl trivial (Z001 ex15) (h:=?_);refine Gn H 1 1 ?_;refine R1 ?_;refine GD (Zij 2 1 ?_);exact W
 ·refine Zgj fun all H=>Ds (GP H 6 13 [6,13] [(13,[.ptr 3 2,.clo 43 [.elt [.iv x3] 0,.elt (Msg.row x4) 0],.ptr 2 0,Z7k x1.NS,.ptr 3 0,.iv x2])] (Ds ?_));have ⟨x6,ex6,h⟩:=Bs h;refine Zkc H.1 H.2.1 H.2.2.1 H.2.2.2 6 NO.row ex6 rfl rfl trivial rfl rfl rfl rfl (Gn H 1 11 ?_);have ⟨x7,ex7,h⟩:=Bs h;refine Zoa 8 14 rfl ?_ ?_
  ·refine Zwa H.1 rfl trivial rfl (Zt91 ex7) (by kernel_rfl) (h:=Ds ?_);refine GP H 5 5 [14,5] [(12,[.tup [.agg (NO.row x7.1),Sp9 x7.2.1,Sp7 x7.2.2.1,.iv x7.2.2.2]]),(9,[.agg (NO.row x7.1),Sp9 x7.2.1,Sp7 x7.2.2.1,.iv x7.2.2.2])] (Ds ?_);refine R1 ?_;refine R1 ?_;refine Gn H 3 0 ?_;refine GD ?_;exact W
  ·refine RV ?_;refine Zna 8 rfl (Zwa H.1 rfl trivial rfl (Zt91 ex7) (by kernel_rfl) (h:=Ds ?_));refine GP H 5 4 [15,4] [(12,[.tup [.agg (NO.row x7.1),Sp9 x7.2.1,Sp7 x7.2.2.1,.iv x7.2.2.2]]),(9,[.agg (NO.row x7.1),Sp9 x7.2.1,Sp7 x7.2.2.1,.iv x7.2.2.2])] (Ds ?_);refine R1 ?_;refine Gn H 3 0 ?_;refine GD ?_;exact W
def Z2a1 (x1:HL) (x2:Int) (x3:Do):Bool→Option (HL×List EV×Int)
| x7=>
 ifb x7 (
 some ((HL.mk (([]:List NO)) (([]:List ML))),([]:List EV),191)) (
 (Zow x1).bind fun x8=>
 (Zw91 x8 x2 x1.ML x3).bind fun x9=>
 some ((HL.mk x9.2.2.1 x9.2.2.2),x9.1,x9.2.1))
def Z3a1 (x1:HL) (x2:Int) (x3:Do):Option (HL×List EV×Int):=
 (Z191 x1).bind fun x4=>
 ifb (!decide (x4=0)) (
 some ((HL.mk (([]:List NO)) (([]:List ML))),([]:List EV),x4)) (
 (Z4r x1 x2).bind fun x5=>
 ifb (!x5) (
 (Z2a1 x1 x2 x3) true) (
 ifb (decide (x3.KI=4)) (
 (Z4r x1 x3.PE).bind fun x6=>
 (Z2a1 x1 x2 x3) (!x6)) (
 (Z2a1 x1 x2 x3) false)))
theorem Z4a1 {x1 x2 x3 r} (h:Z3a1 x1 x2 x3=some r):FPx 16 [.agg (HL.row x1),.iv x2,.agg (Do.row x3)] (.tup [.agg (HL.row r.1),Sp7 r.2.1,.iv r.2.2]):=by
 have ok:=oJ 16 Tryz.f16 [.c 6 (some 2),.t 7,.t 8] 3 41;refine FP ok fun w0 H0=>?_;rw [Z3a1] at h;refine Vg 12 ?_;refine VB h Z291 fun _ _ h=>?_;refine Vg 7 ?_;refine MI h (fun h=>?_) fun h=>?_
 ·exact W
 ·refine Vg 6 ?_;refine VB h Z5r fun _ _ h=>?_;refine Vg 2 ?_;refine Vk [1,1,1,1,1,2] (fun x7=>[(31,.bv x7)]) (Z2a1 x1 x2 x3) r ?_ fun J1=>?_
  ·intro x7 h;rw [Z2a1] at h;refine MI h (fun h=>?_) fun h=>?_
   ·exact W
   ·refine Vg 2 ?_;refine Zgj fun all H=>Ds (GP H 6 8 [1,1,5,7] [(33,[.agg (HL.row x1)]),(1,[.iv x2,.ptr 0 1,Sp9 x1.ML,.clo 38 [.ptr 1 0],.agg [.iv x2,Sp9 x1.ML,.clo 38 [.ptr 1 0]]])] (Ds ?_));refine RB h Zpw fun _ _ h=>?_;refine RF [1] [] 3 0 h Zx91 fun _ _ h=>?_;refine Gn H 3 3 ?_;refine R1 ?_;refine Gn H 2 0 ?_;refine GD (Zjj 0 (Ds ?_));refine Zjj 1 ?_;exact W
  ·refine MC 20 h (fun h=>?_) fun h=>?_
   ·exact W
   ·refine Vg 4 ?_;refine MC 24 h (fun h=>?_) fun h=>?_
    ·refine Vg 3 ?_;refine VB h Z5r fun _ _ h=>?_;exact W
    ·exact W
def Z5a1:(List EV×Int×List NO×List ML)→Option (HL×List EV×Int)
| (x16,x17,x18,x19)=>some ((HL.mk x18 x19),x16,x17)
def Z6a1 (x1:HL) (x2:Int) (x3:Int):Bool→Option (HL×List EV×Int)
| x7=>
 ifb x7 (
 some ((HL.mk (([]:List NO)) (([]:List ML))),([]:List EV),191)) (
 (Z8r x1.ML ((fun z=>Zir z x2 x3))).bind fun x8=>
 ifb (decide (x8<0)) (
 some ((HL.mk (([]:List NO)) (([]:List ML))),([]:List EV),192)) (
 (at_ x1.ML x8).bind fun x9=>
 (Z9c x1.ML 0 x8).bind fun x10=>
 (Z9c x1.ML (wr (x8+1)) (ln ML.row x1.ML)).bind fun x11=>
 (Zow x1).bind fun x12=>
 (Zzz ([x10,x11])).bind fun x14=>
 (Z0a1 x12 x3 x2 x9.Msg x14).bind fun x15=>
 Z5a1 (x15.1,x15.2.1,x15.2.2.1,x15.2.2.2)))
def Z7a1 (x1:HL) (x2:Int) (x3:Int):Option (HL×List EV×Int):=
 (Z191 x1).bind fun x4=>
 ifb (!decide (x4=0)) (
 some ((HL.mk (([]:List NO)) (([]:List ML))),([]:List EV),x4)) (
 (Z4r x1 x2).bind fun x5=>
 ifb (!x5) (
 (Z6a1 x1 x2 x3) true) (
 (Z4r x1 x3).bind fun x6=>
 (Z6a1 x1 x2 x3) (!x6)))
theorem Z8a1 {x1 x2 x3 r} (h:Z7a1 x1 x2 x3=some r):FPx 17 [.agg (HL.row x1),.iv x2,.iv x3] (.tup [.agg (HL.row r.1),Sp7 r.2.1,.iv r.2.2]):=by
 have ok:=oJ 17 Tryz.f17 [.c 6 (some 2),.t 7,.t 8] 3 59;refine FP ok fun w0 H0=>?_;rw [Z7a1] at h;refine Vg 13 ?_;refine VB h Z291 fun _ _ h=>?_;refine Vg 7 ?_;refine MI h (fun h=>?_) fun h=>?_
 ·exact W
 ·refine Vg 6 ?_;refine VB h Z5r fun _ _ h=>?_;refine Vg 2 ?_;refine Vk [3,4] (fun x7=>[(27,.bv x7)]) (Z6a1 x1 x2 x3) r ?_ fun J1=>?_
  ·intro x7 h;rw [Z6a1] at h;refine MI h (fun h=>?_) fun h=>?_
   ·exact W
   ·refine Vg 6 ?_;refine VN ((LR.block 1 rfl rfl).block 2 rfl rfl) h (fun e=>Z9r e ⟨by kernel_rfl,rfl,fun z r hz=>Zjr hz⟩) fun x8 _ h=>?_;refine Vg 8 ?_;refine MI h (fun h=>?_) fun h=>?_
    ·exact W
    ·refine Vg 6 ?_;have ⟨x9,ex9,h⟩:=Bs h;refine Zjc ML.row ex9 trivial rfl rfl rfl (Vg 6 ?_);refine Vl [6,1] (fun s=>([(7,Sp7 s.1),(8,.iv s.2.1)],[none,none,none,some ⟨29,[.osl 2,.osl 3]⟩],[none,none,Sq0 s.2.2.1,Sq6 s.2.2.2])) Z5a1 r ?_ fun J2=>?_
     ·rintro ⟨x16,x17,x18,x19⟩ h;rw [Z5a1] at h;refine Zjj 2 (Ds ?_);refine Zjj 3 ?_;exact W
     ·refine Zgj fun all H=>Ds (GP H 10 13 [1,1,4,1,4,3,1,8] [(42,[.agg (HL.row x1)]),(1,[.iv x3,.ptr 0 1,Sp9 x1.ML,.iv x8]),(1,[.ptr 0 1,Sp9 x1.ML,.iv x8,.iv (wr (x8+1))]),(3,[.clo 43 [.ptr 1 0,.ptr 4 0]])] (Ds ?_));have ⟨x10,ex10,h⟩:=Bs h;refine Zmd H.1 H.2.1 H.2.2.1 H.2.2.2 6 ML.row ex10 rfl rfl trivial rfl rfl rfl rfl rfl (Ds ?_);have ⟨x11,ex11,h⟩:=Bs h;refine Zmd H.1 H.2.1 H.2.2.1 H.2.2.2 11 ML.row ex11 rfl rfl trivial rfl rfl rfl rfl rfl (Ds ?_);have ⟨x12,ex12,h⟩:=Bs h;refine Zoa 1 12 rfl ?_ ?_
      ·refine GC H.1 (Zpw ex12) (Ds ?_);refine Zna 12 rfl (Zmb H.1 rfl trivial rfl trivial (Ds ?_));refine Zna 13 rfl ?_;have ⟨x14,ex14,h⟩:=Bs h;refine Zvd H.1 rfl trivial (Z001 ex14) (h:=?_);refine Gn H 1 7 ?_;refine RF [1,4] [1] 5 2 h Z1a1 fun x15 ex15 h=>?_;refine GP H 3 3 [20,3] [(59,[.agg [.osl 2,.osl 3],Sp7 x15.1,.iv x15.2.1])] (Ds ?_);refine R1 ?_;refine Gn H 2 0 ?_;refine GD ?_;exact W
      ·refine Zmb H.1 rfl trivial rfl trivial (Ds ?_);refine Zna 1 rfl (GC H.1 (Zpw ex12) (Ds ?_));refine Zna 13 rfl ?_;have ⟨x14,ex14,h⟩:=Bs h;refine Zvd H.1 rfl trivial (Z001 ex14) (h:=?_);refine Gn H 1 7 ?_;refine RF [1,4] [1] 5 2 h Z1a1 fun x15 _ h=>?_;refine GP H 3 3 [20,3] [(59,[.agg [.osl 2,.osl 3],Sp7 x15.1,.iv x15.2.1])] (Ds ?_);refine R1 ?_;refine Gn H 2 0 ?_;refine GD ?_;exact W
  ·refine MC 22 h (fun h=>?_) fun h=>?_
   ·exact W
   ·refine Vg 2 ?_;refine VB h Z5r fun _ _ h=>?_;exact W
def Z9a1:Bool→Option Bool
| x13=>some x13
def Zaa1:Option Bool:=
 (Z891 (Graph.mk 2 (([]:List Edge)))).bind fun x1=>
 (Z3a1 x1.1 0 (Do.mk 4 0 1 0 (([]:List Int)))).bind fun x2=>
 (Z7a1 x2.1 0 1).bind fun x3=>
 (Z7a1 x3.1 1 0).bind fun x4=>
 (Z7a1 x4.1 1 0).bind fun x5=>
 (Zsw x4.1).bind fun x6=>
 ifb (decide (x1.2=0)) (
 ifb (decide (x2.2.2=0)) (
 ifb (decide (x3.2.2=0)) (
 ifb (decide (x4.2.2=0)) (
 ifb (decide ((ln EV.row x3.2.1)=1)) (
 (at_ x3.2.1 0).bind fun x7=>
 ifb (decide (x7.KI=6)) (
 ifb (decide ((ln EV.row x4.2.1)=1)) (
 (at_ x4.2.1 0).bind fun x8=>
 ifb (decide (x8.KI=6)) (
 ifb (decide (x5.2.2=192)) (
 (Z191 x4.1).bind fun x9=>
 ifb (decide (x9=0)) (
 (Zv31 x4.1 x4.1).bind fun x10=>
 ifb x10 (
 (Zv31 x2.1 x3.1).bind fun x11=>
 ifb (!x11) (
 ifb (decide ((ln DK.row x6.DS)=2)) (
 (at_ x6.DS 0).bind fun x12=>
 Z9a1 (decide ((ln SX.row x12.DI.SD)=1))) (
 Z9a1 false)) (
 Z9a1 false)) (
 Z9a1 false)) (
 Z9a1 false)) (
 Z9a1 false)) (
 Z9a1 false)) (
 Z9a1 false)) (
 Z9a1 false)) (
 Z9a1 false)) (
 Z9a1 false)) (
 Z9a1 false)) (
 Z9a1 false)) (
 Z9a1 false)
theorem Zba1 {r} (h:Zaa1=some r):FPx 5 [] (.bv r):=by
 have ok:=oJ 5 Tryz.f5 [.t 0] 0 122;refine FP ok fun w0 H0=>?_;rw [Zaa1] at h;refine Vg 7 ?_;refine VB h Z991 fun _ _ h=>?_;refine Vg 11 ?_;refine VB h Z4a1 fun _ _ h=>?_;refine Vg 12 ?_;refine VB h Z8a1 fun _ _ h=>?_;refine Vg 12 ?_;refine VB h Z8a1 fun _ _ h=>?_;refine Vg 12 ?_;refine VB h Z8a1 fun _ _ h=>?_;refine Vg 12 ?_;refine VB h Ztw fun _ _ h=>?_;refine Vg 8 ?_;refine Vl [] (fun x13=>([(0,.bv x13)],[],[])) Z9a1 r ?_ fun J1=>?_
 ·intro x13 h;rw [Z9a1] at h;exact W
 ·refine MC 50 h (fun h=>?_) fun h=>?_
  ·refine Vg 4 ?_;refine MC 54 h (fun h=>?_) fun h=>?_
   ·refine Vg 4 ?_;refine MC 58 h (fun h=>?_) fun h=>?_
    ·refine Vg 4 ?_;refine MC 62 h (fun h=>?_) fun h=>?_
     ·refine Vg 5 ?_;refine MC 67 h (fun h=>?_) fun h=>?_
      ·refine Vg 1 ?_;have ⟨x7,ex7,h⟩:=Bs h;refine Zjc EV.row ex7 trivial rfl rfl rfl (Vg 5 ?_);refine MC 74 h (fun h=>?_) fun h=>?_
       ·refine Vg 5 ?_;refine MC 79 h (fun h=>?_) fun h=>?_
        ·refine Vg 1 ?_;have ⟨x8,ex8,h⟩:=Bs h;refine Zjc EV.row ex8 trivial rfl rfl rfl (Vg 5 ?_);refine MC 86 h (fun h=>?_) fun h=>?_
         ·refine Vg 4 ?_;refine MC 90 h (fun h=>?_) fun h=>?_
          ·refine Vg 1 ?_;refine VB h Z291 fun _ _ h=>?_;refine Vg 3 ?_;refine MC 95 h (fun h=>?_) fun h=>?_
           ·refine Vg 2 ?_;refine VB h Zw31 fun _ _ h=>?_;refine Vg 2 ?_;refine MC 100 h (fun h=>?_) fun h=>?_
            ·refine Vg 2 ?_;refine VB h Zw31 fun _ _ h=>?_;exact W
            ·exact W
           ·exact W
          ·exact W
         ·exact W
        ·exact W
       ·exact W
      ·exact W
     ·exact W
    ·exact W
   ·exact W
  ·exact W
def Zca1:Bool→Option Bool
| x9=>some x9
def Zda1:Bool→Option Bool
| x14=>some x14
def Zea1 (x1:Graph):Bool→Option Bool
| x3=>
 ifb x3 (
 (Zaa1).bind fun x4=>
 some x4) (
 (Zar x1).bind fun x5=>
 (Z891 x5).bind fun x6=>
 (Zvu x1).bind fun x7=>
 ifb (!x7) (
 (Zs11 x6.1 (HL.mk (([]:List NO)) (([]:List ML)))).bind fun x8=>
 ifb x8 (
 Zca1 (decide (x6.2=30))) (
 Zca1 false)) (
 (Z971 x1).bind fun x10=>
 (Zs11 x6.1 x10).bind fun x11=>
 ifb x11 (
 ifb (decide (x6.2=0)) (
 (Zw11 x6.1).bind fun x12=>
 (Z191 x12).bind fun x13=>
 ifb (decide (x13=0)) (
 Zda1 (decide ((ln NO.row x6.1.NS)=x1.N))) (
 Zda1 false)) (
 Zda1 false)) (
 Zda1 false)))
def Zfa1 (x1:Graph):Option Bool:=
 (Zaa1).bind fun x2=>
 ifb (!x2) (
 (Zea1 x1) true) (
 ifb (decide (60<(ln Edge.row x1.Edges))) (
 (Zea1 x1) true) (
 (Zea1 x1) (decide (24<x1.N))))
theorem Zga1 {x1 r} (h:Zfa1 x1=some r):FPx 3 [.agg (Graph.row x1)] (.bv r):=by
 have ok:=oJ 3 Tryz.f3 [.t 2] 1 56;refine FP ok fun w0 H0=>?_;rw [Zfa1] at h;refine Vg 8 ?_;refine VB h Zba1 fun _ _ h=>?_;refine Vg 2 ?_;refine Vk [1,1] (fun x3=>[(17,.bv x3)]) (Zea1 x1) r ?_ fun J1=>?_
 ·intro x3 h;rw [Zea1] at h;refine MI h (fun h=>?_) fun h=>?_
  ·refine Vg 2 ?_;refine VB h Zba1 fun _ _ h=>?_;exact W
  ·refine Vg 4 ?_;refine VB h Zbr fun _ _ h=>?_;refine VB h Z991 fun x6 _ h=>?_;refine Vg 11 ?_;refine VB h Zwu fun _ _ h=>?_;refine Vg 2 ?_;refine MI h (fun h=>?_) fun h=>?_
   ·refine Vg 4 ?_;refine VB h Zt11 fun _ _ h=>?_;refine Vg 1 ?_;refine Vl [] (fun x9=>([(2,.bv x9)],[],[])) Zca1 r ?_ fun J2=>?_
    ·intro x9 h;rw [Zca1] at h;exact W
    ·exact W
   ·refine Vg 2 ?_;refine Vl [] (fun x14=>([(2,.bv x14)],[],[])) Zda1 r ?_ fun J3=>?_
    ·intro x14 h;rw [Zda1] at h;exact W
    ·refine Zgj fun all H=>?_;refine Gn H 2 21 ?_;refine RB h Za71 fun _ _ h=>?_;refine RB h Zt11 fun _ _ h=>?_;refine Gn H 1 18 ?_;refine Zdd 39 h rfl (fun _ h=>?_) fun _ h=>?_
     ·refine Ds (GP H 4 14 [9,14] [(40,[.iv x6.2,.bv (decide (x6.2=0)),.bv (decide (x6.2=0)),.bv (decide (x6.2=0))])] (Ds ?_));refine Zdd 43 h rfl (fun _ h=>?_) fun _ h=>?_
      ·refine Gn H 1 13 ?_;refine RB h Zx11 fun _ _ h=>?_;refine RB h Z291 fun x13 _ h=>?_;refine GP H 3 8 [15,8] [(47,[.bv (decide (x13=0)),.bv (decide (x13=0)),.bv (decide (x13=0))])] (Ds ?_);refine Zdd 49 h rfl (fun _ h=>?_) fun _ h=>?_
       ·refine Ds (GP H 8 0 [23] [(2,[.bv (decide ((ln NO.row x6.1.NS)=x1.N))]),(47,[.ptr 1 0,Z7k x6.1.NS,.iv (ln NO.row x6.1.NS),.ptr 0 0,.iv x1.N,.bv (decide ((ln NO.row x6.1.NS)=x1.N)),.bv (decide ((ln NO.row x6.1.NS)=x1.N))])] (Ds ?_));refine GD ?_;exact W
       ·refine Ds (GP H 8 0 [23] [(2,[.ff]),(47,[.un,.un,.un,.un,.un,.un,.ff])] (Ds ?_));refine GD ?_;exact W
      ·refine Ds (GP H 14 0 [23] [(2,[.ff]),(41,[.un,.un,.un,.un,.ff,.ff,.un,.un,.un,.un,.un,.un,.ff])] (Ds ?_));refine GD ?_;exact W
     ·refine Ds (GP H 18 0 [23] [(2,[.ff]),(37,[.un,.un,.ff,.ff,.un,.un,.un,.un,.ff,.ff,.un,.un,.un,.un,.un,.un,.ff])] (Ds ?_));refine GD ?_;exact W
 ·exact W
end
end NX
end Go.Proofs.YtgamgemlekpepaaGreat
