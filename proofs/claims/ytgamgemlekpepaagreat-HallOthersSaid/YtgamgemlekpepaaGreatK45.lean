/-
  The function narthex/node.Get: its code compiled, a model, and that the code answers as the model. Written by a program of ours (lb.py). No statement of the seat is proved here.
-/
import Derived.Test.YtgamgemlekpepaaGreatK44
set_option maxRecDepth 100000
set_option maxHeartbeats 40000000
namespace Go.Proofs.YtgamgemlekpepaaGreat
namespace NX
open Go
noncomputable section
def Zh91 (x11:List KE):(Int×Int×Int×Int×List SE×List Int×Int×List SX×List Int×List KE×List EV)→Option (NO×List ML×List EV×Int)
| (x60,x61,x62,x63,x64,x65,x66,x67,x68,x69,x70)=>
 (Z491 x60 x61 x62 x63 x64 x65 x66 x67 x68 x11 x69 x70).bind fun x71=>
 some ((NO.mk (DK.mk (DI.mk x71.1 x71.2.1 x71.2.2.2.2.2.2.2.1) x71.2.2.1 x71.2.2.2.2.2.2.2.2.1) (BK.mk x71.2.2.2.1 x71.2.2.2.2.1) x71.2.2.2.2.2.2.2.2.2.1 x71.2.2.2.2.2.1 x71.2.2.2.2.2.2.2.2.2.2.1),x71.2.2.2.2.2.2.2.2.2.2.2.1,x71.2.2.2.2.2.2.2.2.2.2.2.2,x71.2.2.2.2.2.2.1)
def Zi91 (x1:NO) (x2:Int) (x3:Msg) (x9:List SX) (x10:List Int) (x11:List KE) (x12:List Int) (x13:List KE) (x14:List SE) (x15:(Bool×Int)):Bool→Option (NO×List ML×List EV×Int)
| x19=>
 ifb x19 (
 (Zf81 x2 x3 x1.DK.DI.ID x1.DK.DI.PH x1.DK.TH x1.BK.LA x15.2 x9 x10 x14 x11 x12 x13).bind fun x20=>
 (Zh91 x11) (x20.1,x20.2.1,x20.2.2.1,x1.BK.LA,x14,x12,x20.2.2.2.1,x20.2.2.2.2.1,x20.2.2.2.2.2,x13,([]:List EV))) (
 (Zh91 x11) (x1.DK.DI.ID,x1.DK.DI.PH,x1.DK.TH,x1.BK.LA,x14,x12,x15.2,x9,x10,x13,([]:List EV)))
def Zj91 (x1:NO) (x2:Int) (x3:Msg) (x9:List SX) (x10:List Int) (x11:List KE) (x12:List Int) (x13:List KE) (x14:List SE):(Bool×Int)→Option (NO×List ML×List EV×Int)
| (x31,x32)=>
 ifb x31 (
 (Z8c 16 x13 ([KE.mk x2 x3.EP])).bind fun x33=>
 (Zh91 x11) (x1.DK.DI.ID,x1.DK.DI.PH,x1.DK.TH,x1.BK.LA,x14,x12,x32,x9,x10,x33,([]:List EV))) (
 (Zh91 x11) (x1.DK.DI.ID,x1.DK.DI.PH,x1.DK.TH,x1.BK.LA,x14,x12,x32,x9,x10,x13,([]:List EV)))
def Zk91 (x1:NO) (x2:Int) (x9:List SX) (x10:List Int) (x11:List KE) (x12:List Int) (x13:List KE) (x14:List SE) (x16:Int):(Bool×Int)→Option (NO×List ML×List EV×Int)
| (x41,x42)=>
 ifb x41 (
 (at_ x9 x16).bind fun x43=>
 (Zx31 x12 x2).bind fun x44=>
 (Zlu 6 x2 x1.DK.DI.ID x1.DK.DI.PH x1.DK.TH x1.BK.LA x44 x42 (x9.set (Int.toNat (x16)) (SX.mk x43.PE x43.EP 0 x43.FK x43.DY x43.TO x43.BO x43.Ask)) x10 x14 x11 x13).bind fun x45=>
 (Zh91 x11) (x1.DK.DI.ID,x1.DK.DI.PH,x1.DK.TH,x1.BK.LA,x14,x44,x42,x9.set (Int.toNat (x16)) (SX.mk x43.PE x43.EP 0 x43.FK x43.DY x43.TO x43.BO x43.Ask),x10,x13,x45)) (
 (Zh91 x11) (x1.DK.DI.ID,x1.DK.DI.PH,x1.DK.TH,x1.BK.LA,x14,x12,x42,x9,x10,x13,([]:List EV)))
def Zl91 (x1:NO) (x2:Int) (x9:List SX) (x10:List Int) (x11:List KE) (x12:List Int) (x13:List KE) (x14:List SE):(Bool×Int)→Option (NO×List ML×List EV×Int)
| (x51,x52)=>
 ifb x51 (
 (Z281 x2 x1.DK.DI.ID x1.DK.DI.PH x1.DK.TH x1.BK.LA x52 x9 x10 x14 x11 x12 x13).bind fun x53=>
 (Zh91 x11) (x53.1,x53.2.1,x53.2.2.1,x53.2.2.2.1,x53.2.2.2.2.1,x12,x52,x53.2.2.2.2.2.2.1,x53.2.2.2.2.2.2.2,x13,x53.2.2.2.2.2.1)) (
 (Zh91 x11) (x1.DK.DI.ID,x1.DK.DI.PH,x1.DK.TH,x1.BK.LA,x14,x12,x52,x9,x10,x13,([]:List EV)))
def Zm91 (x1:NO) (x2:Int) (x3:Msg) (x9:List SX) (x10:List Int) (x11:List KE) (x12:List Int) (x13:List KE) (x14:List SE) (x15:(Bool×Int)) (x16:Int):Bool→Option (NO×List ML×List EV×Int)
| x17=>
 ifb x17 (
 ifb (decide (x15.2=0)) (
 ifb (decide (0≤x16)) (
 (at_ x9 x16).bind fun x18=>
 (Zi91 x1 x2 x3 x9 x10 x11 x12 x13 x14 x15) (decide (x18.EP=x3.EP))) (
 (Zi91 x1 x2 x3 x9 x10 x11 x12 x13 x14 x15) false)) (
 (Zi91 x1 x2 x3 x9 x10 x11 x12 x13 x14 x15) false)) (
 ifb (decide (x3.KI=5)) (
 (Zoy x1 (KE.mk x2 x3.EP)).bind fun x21=>
 ifb x21 (
 (Zym x1.AK).bind fun x23=>
 (Z8c 16 x23 ([KE.mk x2 x3.EP])).bind fun x25=>
 (Zsy x25).bind fun x26=>
 (Zkt x26 187 x1.DK.DI.ID x1.DK.DI.PH x1.DK.TH x1.BK.LA x15.2 x9 x10 x14 x11 x12 x13).bind fun x27=>
 (Zj91 x1 x2 x3 x9 x10 x11 x12 x13 x14) (x27.1,x27.2)) (
 (Zot 187 x1.DK.DI.ID x1.DK.DI.PH x1.DK.TH x1.BK.LA x15.2 x9 x10 x14 x11 x12 x13).bind fun x28=>
 (Zj91 x1 x2 x3 x9 x10 x11 x12 x13 x14) (x28.1,x28.2))) (
 ifb (decide (x3.KI=6)) (
 (Zoo 1 x16 (node_node.mk (NO.mk (DK.mk (DI.mk x1.DK.DI.ID x1.DK.DI.PH x9) x1.DK.TH x10) (BK.mk x1.BK.LA x14) x11 x12 x13) (([]:List ML)) (([]:List EV)) x15.2) x3).bind fun x35=>
 ifb x35 (
 (Z1x x1.TL x2).bind fun x37=>
 (Zkt x37 187 x1.DK.DI.ID x1.DK.DI.PH x1.DK.TH x1.BK.LA x15.2 x9 x10 x14 x11 x12 x13).bind fun x38=>
 (Zk91 x1 x2 x9 x10 x11 x12 x13 x14 x16) (x38.1,x38.2)) (
 (Zot 187 x1.DK.DI.ID x1.DK.DI.PH x1.DK.TH x1.BK.LA x15.2 x9 x10 x14 x11 x12 x13).bind fun x39=>
 (Zk91 x1 x2 x9 x10 x11 x12 x13 x14 x16) (x39.1,x39.2))) (
 ifb (decide (x3.KI=7)) (
 (Zoo 0 x16 (node_node.mk (NO.mk (DK.mk (DI.mk x1.DK.DI.ID x1.DK.DI.PH x9) x1.DK.TH x10) (BK.mk x1.BK.LA x14) x11 x12 x13) (([]:List ML)) (([]:List EV)) x15.2) x3).bind fun x47=>
 ifb x47 (
 (Zkt (decide (x2<x1.DK.DI.ID)) 187 x1.DK.DI.ID x1.DK.DI.PH x1.DK.TH x1.BK.LA x15.2 x9 x10 x14 x11 x12 x13).bind fun x49=>
 (Zl91 x1 x2 x9 x10 x11 x12 x13 x14) (x49.1,x49.2)) (
 (Zot 187 x1.DK.DI.ID x1.DK.DI.PH x1.DK.TH x1.BK.LA x15.2 x9 x10 x14 x11 x12 x13).bind fun x50=>
 (Zl91 x1 x2 x9 x10 x11 x12 x13 x14) (x50.1,x50.2))) (
 ifb (decide (x3.KI=8)) (
 (Zoo 3 x16 (node_node.mk (NO.mk (DK.mk (DI.mk x1.DK.DI.ID x1.DK.DI.PH x9) x1.DK.TH x10) (BK.mk x1.BK.LA x14) x11 x12 x13) (([]:List ML)) (([]:List EV)) x15.2) x3).bind fun x54=>
 (Zkt x54 187 x1.DK.DI.ID x1.DK.DI.PH x1.DK.TH x1.BK.LA x15.2 x9 x10 x14 x11 x12 x13).bind fun x56=>
 ifb x56.1 (
 (Z111 x2 x1.DK.DI.ID x1.DK.DI.PH x1.DK.TH x1.BK.LA x56.2 x9 x10 x14 x11 x12 x13).bind fun x57=>
 (Ztt 8 x2 x1.DK.DI.ID x1.DK.DI.PH x1.DK.TH x1.BK.LA x56.2 x57 x10 x14 x11 x12 x13).bind fun x58=>
 (Zh91 x11) (x1.DK.DI.ID,x1.DK.DI.PH,x1.DK.TH,x1.BK.LA,x14,x12,x56.2,x57,x10,x13,x58)) (
 (Zh91 x11) (x1.DK.DI.ID,x1.DK.DI.PH,x1.DK.TH,x1.BK.LA,x14,x12,x56.2,x9,x10,x13,([]:List EV)))) (
 (Zot 187 x1.DK.DI.ID x1.DK.DI.PH x1.DK.TH x1.BK.LA x15.2 x9 x10 x14 x11 x12 x13).bind fun x59=>
 (Zh91 x11) (x1.DK.DI.ID,x1.DK.DI.PH,x1.DK.TH,x1.BK.LA,x14,x12,x59.2,x9,x10,x13,([]:List EV)))))))
def Zn91 (x1:NO) (x2:Int) (x3:Msg):(Int×List SX×List Int×List KE×List Int×List KE×List SE)→Option (NO×List ML×List EV×Int)
| (x8,x9,x10,x11,x12,x13,x14)=>
 (Zkt (decide (x3.Num=0)) 187 x1.DK.DI.ID x1.DK.DI.PH x1.DK.TH x1.BK.LA x8 x9 x10 x14 x11 x12 x13).bind fun x15=>
 (Zqt (node_node.mk (NO.mk (DK.mk (DI.mk x1.DK.DI.ID x1.DK.DI.PH x9) x1.DK.TH x10) (BK.mk x1.BK.LA x14) x11 x12 x13) (([]:List ML)) (([]:List EV)) x15.2) x2).bind fun x16=>
 ifb (decide (x3.KI=1)) (
 (Zm91 x1 x2 x3 x9 x10 x11 x12 x13 x14 x15 x16) (decide (x3.KI=1))) (
 ifb (decide (x3.KI=2)) (
 (Zm91 x1 x2 x3 x9 x10 x11 x12 x13 x14 x15 x16) (decide (x3.KI=2))) (
 ifb (decide (x3.KI=3)) (
 (Zm91 x1 x2 x3 x9 x10 x11 x12 x13 x14 x15 x16) (decide (x3.KI=3))) (
 (Zm91 x1 x2 x3 x9 x10 x11 x12 x13 x14 x15 x16) (decide (x3.KI=4)))))
def Zo91 (x1:NO) (x2:Int) (x3:Msg):Option (NO×List ML×List EV×Int):=
 (Ztx x1).bind fun x4=>
 (Zb81 x1).bind fun x6=>
 (Zn91 x1 x2 x3) (x6,x4.1,x4.2.1,x4.2.2.1,x4.2.2.2.1,x4.2.2.2.2.1,x4.2.2.2.2.2)
theorem Zp91 {x1 x2 x3 r} (h:Zo91 x1 x2 x3=some r):FPx 44 [.agg (NO.row x1),.iv x2,.agg (Msg.row x3)] (.tup [.agg (NO.row r.1),Sp9 r.2.1,Sp7 r.2.2.1,.iv r.2.2.2]):=by
 have ok:=oJ 44 Tryz.f44 [.c 6 (some 10),.t 7,.t 8,.t 9] 3 167;refine FP ok fun w0 H0=>?_;rw [Zo91] at h;refine Vg 10 ?_;refine Vl [1,1,1,1,1,2] (fun s=>([(10,.ptr 4 0)],[some ⟨67,NO.row x1⟩,some ⟨51,Msg.row x3⟩,some ⟨67,[.iv 0,.iv 0,.nl,.iv 0,.nl,.iv 0,.nl,.nl,.nl,.nl]⟩,some ⟨138,[.iv x1.DK.DI.ID,.iv x1.DK.DI.PH,.osl 0,.iv x1.DK.TH,.osl 1,.iv x1.BK.LA,.osl 5,.osl 2,.osl 3,.osl 4,.nl,.nl,.iv s.1]⟩,some ⟨136,[.ptr 3 0]⟩],[Z5k s.2.1,Sq4 s.2.2.1,Z6k s.2.2.2.1,Sq4 s.2.2.2.2.1,Z6k s.2.2.2.2.2.1,Z3k s.2.2.2.2.2.2])) (Zn91 x1 x2 x3) r ?_ fun J1=>?_
 ·rintro ⟨x8,x9,x10,x11,x12,x13,x14⟩ h;rw [Zn91] at h;refine Vg 6 ?_;refine VR [3] [0,1,5,2,3,4] 5 6 h Zlt fun x15 _ h=>?_;refine Vg 5 ?_;refine VN (((((((LR.slice 0 rfl).slice 1 rfl).slice 2 rfl).slice 3 rfl).slice 4 rfl).slice 5 rfl).block 3 rfl rfl) h Zrt fun x16 _ h=>?_;refine Vg 21 ?_;refine Vk [1,1,1,1,1,2,3,3,17,1] (fun x17=>[(33,.bv x17)]) (Zm91 x1 x2 x3 x9 x10 x11 x12 x13 x14 x15 x16) r ?_ fun J2=>?_
  ·intro x17 h;rw [Zm91] at h;refine Vl [6,1,3,1] (fun s=>([],[none,none,some ⟨67,[.iv 0,.iv 0,.nl,.iv 0,.nl,.iv 0,.nl,.nl,.nl,.nl]⟩,some ⟨138,[.iv s.1,.iv s.2.1,.osl 0,.iv s.2.2.1,.osl 1,.iv s.2.2.2.1,Sp5 s.2.2.2.2.1,.osl 2,Sp1 s.2.2.2.2.2.1,.osl 4,.nl,.osl 6,.iv s.2.2.2.2.2.2.1]⟩,some ⟨136,[.ptr 3 0]⟩],[Z5k s.2.2.2.2.2.2.2.1,Sq4 s.2.2.2.2.2.2.2.2.1,Z6k x11,none,Z6k s.2.2.2.2.2.2.2.2.2.1,none,Z8k s.2.2.2.2.2.2.2.2.2.2])) (Zh91 x11) r ?_ fun J3=>?_
   ·rintro ⟨x60,x61,x62,x63,x64,x65,x66,x67,x68,x69,x70⟩ h;rw [Zh91] at h;refine Vg 4 ?_;refine VR [3] [0,1,2,4,6] 5 7 h Z591 fun _ _ h=>?_;refine Vg 9 ?_;refine Zjj 7 (Ds ?_);refine Zjj 8 (Ds ?_);refine Zjj 9 (Ds ?_);refine Zjj 10 (Ds ?_);refine Zjj 11 (Ds ?_);refine Zjj 12 ?_;exact W
   ·refine MI h (fun h=>?_) fun h=>?_
    ·refine Vg 1 ?_;refine Vl [1,1,3,2,3,1] (fun x19=>([(62,.bv x19)],[none,some ⟨51,Msg.row x3⟩,some ⟨67,[.iv 0,.iv 0,.nl,.iv 0,.nl,.iv 0,.nl,.nl,.nl,.nl]⟩,some ⟨138,[.iv x1.DK.DI.ID,.iv x1.DK.DI.PH,.osl 0,.iv x1.DK.TH,.osl 1,.iv x1.BK.LA,.osl 5,.osl 2,.osl 3,.osl 4,.nl,.nl,.iv x15.2]⟩,some ⟨136,[.ptr 3 0]⟩],[Z5k x9,Sq4 x10,Z6k x11,Sq4 x12,Z6k x13,Z3k x14])) (Zi91 x1 x2 x3 x9 x10 x11 x12 x13 x14 x15) r ?_ fun J4=>?_
     ·intro x19 h;rw [Zi91] at h;refine MI h (fun h=>?_) fun h=>?_
      ·refine Vg 4 ?_;refine VR [3] [0,1,5,2,3,4] 5 6 h Zg81 fun _ _ h=>?_;refine Vg 1 ?_;refine Zjj 5 (Ds ?_);refine Zjj 3 (Ds ?_);refine Zkj 3 11 77 5 (Ds ?_);refine Zlj 112 8 (Ds ?_);refine Zij 6 9 (Zij 8 6 (Ds ?_));refine Zij 9 0 (Zij 7 1 ?_);exact W
      ·refine Vg 1 ?_;refine Zjj 5 (Ds ?_);refine Zjj 3 (Ds ?_);refine Zkj 3 11 77 5 ?_;exact W
     ·refine Zgj fun all H=>Ds ?_;refine R1 ?_;refine GP H 5 19 [6,19] [(39,[.ptr 3 0,.ptr 3 12,.iv x15.2,.bv (decide (x15.2=0)),.bv (decide (x15.2=0))])] (Ds ?_);refine Zdd 43 h rfl (fun _ h=>?_) fun _ h=>?_
      ·refine Ds (GP H 4 15 [10,15] [(44,[.iv x16,.bv (decide (0≤x16)),.bv (decide (0≤x16)),.bv (decide (0≤x16))])] (Ds ?_));refine Zdd 47 h rfl (fun _ h=>?_) fun _ h=>?_
       ·refine Ds (GP H 3 12 [10,7,1,3,2,2] [(55,[.iv x16]),(3,[.ptr 1 1,.iv x3.EP])] (Ds ?_));refine R1 ?_;refine GP H 5 6 [16,1,1,3,2,2] [(49,[.ptr 3 0,.ptr 3 0,.ptr 3 0,.ptr 3 0,.ptr 3 2])] (Ds ?_);refine R1 ?_;have ⟨x18,ex18,h⟩:=Bs h;refine Zna 18 rfl (RI ?_);refine Gn H 1 3 ?_;refine RO ?_;refine RL ?_;refine Gn H 2 0 ?_;refine GD ?_;exact W
       ·refine Ds (GP H 15 0 [25] [(48,[.un,.un,.un,.un,.un,.un,.un,.un,.un,.un,.un,.un,.un,.un,.ff])] (Ds ?_));refine GD ?_;exact W
      ·refine Ds (GP H 19 0 [25] [(44,[.un,.un,.ff,.ff,.un,.un,.un,.un,.un,.un,.un,.un,.un,.un,.un,.un,.un,.un,.ff])] (Ds ?_));refine GD ?_;exact W
    ·refine Vg 5 ?_;refine MI h (fun h=>?_) fun h=>?_
     ·refine Vg 10 ?_;refine Vm [6,1,3,1,2,1] (fun s=>([(86,.bv s.1)],[(3,12,.iv s.2)],[(0,none),(1,none),(5,none)],[])) (Zj91 x1 x2 x3 x9 x10 x11 x12 x13 x14) r ?_ fun J5=>?_
      ·rintro ⟨x31,x32⟩ h;rw [Zj91] at h;refine MI h (fun h=>?_) fun h=>?_
       ·refine Zgj fun all H=>?_;refine Gn H 1 12 ?_;refine Zpa 0 1 7 rfl ?_ ?_ ?_
        ·refine RV ?_;refine Zoa 1 7 rfl ?_ ?_
         ·refine RV ?_;refine Gn H 3 7 ?_;refine Zoa 5 7 rfl ?_ ?_
          ·refine RV ?_;refine R1 ?_;refine Zna 8 rfl ?_;have ⟨x33,ex33,h⟩:=Bs h;refine GA KE.row ex33 H.1 ?_;refine Gn H 3 1 ?_;refine R1 ?_;refine GD (Zjj 5 (Ds ?_));refine Zjj 3 (Ds ?_);refine Zkj 3 11 77 5 (Ds ?_);refine Zij 8 6 (Zij 7 4 ?_);exact W
          ·refine RV ?_;refine R1 ?_;refine Zna 8 rfl ?_;have ⟨x33,ex33,h⟩:=Bs h;refine GA KE.row ex33 H.1 ?_;refine Gn H 3 1 ?_;refine R1 ?_;refine GD (Zjj 5 (Ds ?_));refine Zjj 3 (Ds ?_);refine Zkj 3 11 77 5 (Ds ?_);refine Zij 8 6 (Zij 7 4 ?_);exact W
         ·refine RV ?_;refine R1 ?_;refine Gn H 3 6 ?_;refine R1 ?_;refine Zna 8 rfl ?_;have ⟨x33,ex33,h⟩:=Bs h;refine GA KE.row ex33 H.1 ?_;refine Gn H 3 1 ?_;refine R1 ?_;refine GD (Zjj 5 (Ds ?_));refine Zjj 3 (Ds ?_);refine Zkj 3 11 77 5 (Ds ?_);refine Zij 8 6 (Zij 7 4 ?_);exact W
        ·refine RV ?_;refine Gn H 3 8 ?_;refine Zpa 0 5 7 rfl ?_ ?_ ?_
         ·refine RV ?_;refine Zoa 5 7 rfl ?_ ?_
          ·refine RV ?_;refine R1 ?_;refine Zna 8 rfl ?_;have ⟨x33,ex33,h⟩:=Bs h;refine GA KE.row ex33 H.1 ?_;refine Gn H 3 1 ?_;refine R1 ?_;refine GD (Zjj 5 (Ds ?_));refine Zjj 3 (Ds ?_);refine Zkj 3 11 77 5 (Ds ?_);refine Zij 8 6 (Zij 7 4 ?_);exact W
          ·refine RV ?_;refine R1 ?_;refine Zna 8 rfl ?_;have ⟨x33,ex33,h⟩:=Bs h;refine GA KE.row ex33 H.1 ?_;refine Gn H 3 1 ?_;refine R1 ?_;refine GD (Zjj 5 (Ds ?_));refine Zjj 3 (Ds ?_);refine Zkj 3 11 77 5 (Ds ?_);refine Zij 8 6 (Zij 7 4 ?_);exact W
         ·refine RV ?_;refine Zoa 0 7 rfl ?_ ?_
          ·refine RV ?_;refine R1 ?_;refine Zna 8 rfl ?_;have ⟨x33,ex33,h⟩:=Bs h;refine GA KE.row ex33 H.1 ?_;refine Gn H 3 1 ?_;refine R1 ?_;refine GD (Zjj 5 (Ds ?_));refine Zjj 3 (Ds ?_);refine Zkj 3 11 77 5 (Ds ?_);refine Zij 8 6 (Zij 7 4 ?_);exact W
          ·refine RV ?_;have ⟨x33,ex33,h⟩:=Bs h;refine Zoa 0 8 rfl ?_ ?_
           ·refine RV ?_;refine Zna 8 rfl (GA KE.row ex33 H.1 ?_);refine Gn H 3 1 ?_;refine R1 ?_;refine GD (Zjj 5 (Ds ?_));refine Zjj 3 (Ds ?_);refine Zkj 3 11 77 5 (Ds ?_);refine Zij 8 6 (Zij 7 4 ?_);exact W
           ·refine GA KE.row ex33 H.1 (Ds ?_);refine R1 ?_;refine Gn H 3 1 ?_;refine R1 ?_;refine GD (Zjj 5 (Ds ?_));refine Zjj 3 (Ds ?_);refine Zkj 3 11 77 5 (Ds ?_);refine Zij 8 6 (Zij 7 4 ?_);exact W
         ·refine RV ?_;refine Zoa 0 5 rfl ?_ ?_
          ·refine RV ?_;refine R1 ?_;refine Zna 8 rfl ?_;have ⟨x33,ex33,h⟩:=Bs h;refine GA KE.row ex33 H.1 ?_;refine Gn H 3 1 ?_;refine R1 ?_;refine GD (Zjj 5 (Ds ?_));refine Zjj 3 (Ds ?_);refine Zkj 3 11 77 5 (Ds ?_);refine Zij 8 6 (Zij 7 4 ?_);exact W
          ·refine RV ?_;have ⟨x33,ex33,h⟩:=Bs h;refine Zoa 0 8 rfl ?_ ?_
           ·refine RV ?_;refine Zna 8 rfl (GA KE.row ex33 H.1 ?_);refine Gn H 3 1 ?_;refine R1 ?_;refine GD (Zjj 5 (Ds ?_));refine Zjj 3 (Ds ?_);refine Zkj 3 11 77 5 (Ds ?_);refine Zij 8 6 (Zij 7 4 ?_);exact W
           ·refine GA KE.row ex33 H.1 (Ds ?_);refine R1 ?_;refine Gn H 3 1 ?_;refine R1 ?_;refine GD (Zjj 5 (Ds ?_));refine Zjj 3 (Ds ?_);refine Zkj 3 11 77 5 (Ds ?_);refine Zij 8 6 (Zij 7 4 ?_);exact W
        ·refine RV ?_;refine Zoa 0 1 rfl ?_ ?_
         ·refine RV ?_;refine R1 ?_;refine Gn H 3 6 ?_;refine R1 ?_;refine Zna 8 rfl ?_;have ⟨x33,ex33,h⟩:=Bs h;refine GA KE.row ex33 H.1 ?_;refine Gn H 3 1 ?_;refine R1 ?_;refine GD (Zjj 5 (Ds ?_));refine Zjj 3 (Ds ?_);refine Zkj 3 11 77 5 (Ds ?_);refine Zij 8 6 (Zij 7 4 ?_);exact W
         ·refine RV ?_;refine Gn H 3 7 ?_;refine Zoa 0 5 rfl ?_ ?_
          ·refine RV ?_;refine R1 ?_;refine Zna 8 rfl ?_;have ⟨x33,ex33,h⟩:=Bs h;refine GA KE.row ex33 H.1 ?_;refine Gn H 3 1 ?_;refine R1 ?_;refine GD (Zjj 5 (Ds ?_));refine Zjj 3 (Ds ?_);refine Zkj 3 11 77 5 (Ds ?_);refine Zij 8 6 (Zij 7 4 ?_);exact W
          ·refine RV ?_;have ⟨x33,ex33,h⟩:=Bs h;refine Zoa 0 8 rfl ?_ ?_
           ·refine RV ?_;refine Zna 8 rfl (GA KE.row ex33 H.1 ?_);refine Gn H 3 1 ?_;refine R1 ?_;refine GD (Zjj 5 (Ds ?_));refine Zjj 3 (Ds ?_);refine Zkj 3 11 77 5 (Ds ?_);refine Zij 8 6 (Zij 7 4 ?_);exact W
           ·refine GA KE.row ex33 H.1 (Ds ?_);refine R1 ?_;refine Gn H 3 1 ?_;refine R1 ?_;refine GD (Zjj 5 (Ds ?_));refine Zjj 3 (Ds ?_);refine Zkj 3 11 77 5 (Ds ?_);refine Zij 8 6 (Zij 7 4 ?_);exact W
       ·refine Vg 1 ?_;refine Zjj 5 (Ds ?_);refine Zjj 3 (Ds ?_);refine Zkj 3 11 77 5 ?_;exact W
      ·refine Zgj fun all H=>?_;refine Gn H 2 12 ?_;have ⟨x21,ex21,h⟩:=Bs h;refine Zoa 0 3 rfl ?_ ?_
       ·refine RV ?_;refine Zna 3 rfl (GC H.1 (Zpy ex21) ?_);refine Gn H 1 9 ?_;refine Zdd 77 h rfl (fun _ h=>?_) fun _ h=>?_
        ·refine Gn H 3 6 ?_;have ⟨x23,ex23,h⟩:=Bs h;refine Zoa 7 9 rfl ?_ ?_
         ·refine Zvd H.1 rfl trivial (Zzm ex23) (h:=Ds ?_);refine R1 ?_;refine Zna 10 rfl ?_;have ⟨x25,ex25,h⟩:=Bs h;refine GA KE.row ex25 H.1 (Ds ?_);refine RQ (LR.slice 8 rfl) h Zty fun x26 ex26 h=>?_;refine Gn H 1 1 ?_;refine RF [3] [0,1,5,2,3,4] 7 9 h Zlt fun x27 ex27 h=>?_;refine GD ?_;exact W
         ·refine RV ?_;refine Zna 7 rfl (Zvd H.1 rfl trivial (Zzm ex23) (h:=Ds ?_));refine Zna 10 rfl ?_;have ⟨x25,ex25,h⟩:=Bs h;refine GA KE.row ex25 H.1 (Ds ?_);refine RQ (LR.slice 8 rfl) h Zty fun x26 ex26 h=>?_;refine Gn H 1 1 ?_;refine RF [3] [0,1,5,2,3,4] 7 9 h Zlt fun x27 ex27 h=>?_;refine GD ?_;exact W
        ·refine Ds (GP H 8 1 [13,1] [(78,[.un,.un,.un,.un,.un,.un,.un,.ff])] (Ds ?_));refine RF [3] [0,1,5,2,3,4] 7 6 h Zpt fun x28 ex28 h=>?_;refine GD ?_;exact W
       ·refine GC H.1 (Zpy ex21) ?_;refine Gn H 1 10 ?_;refine Zdd 77 h rfl (fun _ h=>?_) fun _ h=>?_
        ·refine Gn H 3 7 ?_;have ⟨x23,ex23,h⟩:=Bs h;refine Zpa 0 7 9 rfl ?_ ?_ ?_
         ·refine RV ?_;refine Zoa 7 9 rfl ?_ ?_
          ·refine Zvd H.1 rfl trivial (Zzm ex23) (h:=Ds ?_);refine R1 ?_;refine Zna 10 rfl ?_;have ⟨x25,ex25,h⟩:=Bs h;refine GA KE.row ex25 H.1 (Ds ?_);refine RQ (LR.slice 8 rfl) h Zty fun x26 ex26 h=>?_;refine Gn H 1 1 ?_;refine RF [3] [0,1,5,2,3,4] 7 9 h Zlt fun x27 ex27 h=>?_;refine GD ?_;exact W
          ·refine RV ?_;refine Zna 7 rfl (Zvd H.1 rfl trivial (Zzm ex23) (h:=Ds ?_));refine Zna 10 rfl ?_;have ⟨x25,ex25,h⟩:=Bs h;refine GA KE.row ex25 H.1 (Ds ?_);refine RQ (LR.slice 8 rfl) h Zty fun x26 ex26 h=>?_;refine Gn H 1 1 ?_;refine RF [3] [0,1,5,2,3,4] 7 9 h Zlt fun x27 ex27 h=>?_;refine GD ?_;exact W
         ·refine Zvd H.1 rfl trivial (Zzm ex23) (h:=Ds ?_);refine Zoa 0 9 rfl ?_ ?_
          ·refine RV ?_;refine R1 ?_;refine Zna 10 rfl ?_;have ⟨x25,ex25,h⟩:=Bs h;refine GA KE.row ex25 H.1 (Ds ?_);refine RQ (LR.slice 8 rfl) h Zty fun x26 ex26 h=>?_;refine Gn H 1 1 ?_;refine RF [3] [0,1,5,2,3,4] 7 9 h Zlt fun x27 ex27 h=>?_;refine GD ?_;exact W
          ·refine RV ?_;have ⟨x25,ex25,h⟩:=Bs h;refine Zoa 0 10 rfl ?_ ?_
           ·refine RV ?_;refine Zna 10 rfl (GA KE.row ex25 H.1 (Ds ?_));refine RQ (LR.slice 8 rfl) h Zty fun x27 ex27 h=>?_;refine Gn H 1 1 ?_;refine RF [3] [0,1,5,2,3,4] 7 9 h Zlt fun x28 ex28 h=>?_;refine GD ?_;exact W
           ·refine GA KE.row ex25 H.1 (Ds ?_);have ⟨x27,ex27,h⟩:=Bs h;refine Zoa 0 11 rfl ?_ ?_
            ·refine RV ?_;refine Zna 11 rfl (GK H.1 (LR.slice 8 rfl) (Zty ex27) ?_);refine Gn H 1 1 ?_;refine RF [3] [0,1,5,2,3,4] 7 9 h Zlt fun x29 ex29 h=>?_;refine GD ?_;exact W
            ·refine GK H.1 (LR.slice 8 rfl) (Zty ex27) ?_;refine Gn H 1 2 ?_;refine R1 ?_;refine RF [3] [0,1,5,2,3,4] 7 9 h Zlt fun x29 ex29 h=>?_;refine GD ?_;exact W
         ·refine RV ?_;refine Zoa 0 7 rfl ?_ ?_
          ·refine RV ?_;refine Zna 7 rfl (Zvd H.1 rfl trivial (Zzm ex23) (h:=Ds ?_));refine Zna 10 rfl ?_;have ⟨x25,ex25,h⟩:=Bs h;refine GA KE.row ex25 H.1 (Ds ?_);refine RQ (LR.slice 8 rfl) h Zty fun _ _ h=>?_;refine Gn H 1 1 ?_;refine RF [3] [0,1,5,2,3,4] 7 9 h Zlt fun x27 ex27 h=>?_;refine GD ?_;exact W
          ·refine Zvd H.1 rfl trivial (Zzm ex23) (h:=Ds ?_);have ⟨x25,ex25,h⟩:=Bs h;refine Zoa 0 10 rfl ?_ ?_
           ·refine RV ?_;refine Zna 10 rfl (GA KE.row ex25 H.1 (Ds ?_));refine RQ (LR.slice 8 rfl) h Zty fun x27 ex27 h=>?_;refine Gn H 1 1 ?_;refine RF [3] [0,1,5,2,3,4] 7 9 h Zlt fun _ _ h=>?_;refine GD ?_;exact W
           ·refine GA KE.row ex25 H.1 (Ds ?_);have ⟨x27,ex27,h⟩:=Bs h;refine Zoa 0 11 rfl ?_ ?_
            ·refine RV ?_;refine Zna 11 rfl (GK H.1 (LR.slice 8 rfl) (Zty ex27) ?_);refine Gn H 1 1 ?_;refine RF [3] [0,1,5,2,3,4] 7 9 h Zlt fun x29 ex29 h=>?_;refine GD ?_;exact W
            ·refine GK H.1 (LR.slice 8 rfl) (Zty ex27) ?_;refine Gn H 1 2 ?_;refine R1 ?_;refine RF [3] [0,1,5,2,3,4] 7 9 h Zlt fun _ _ h=>?_;refine GD ?_;exact W
        ·refine Ds (GP H 8 2 [0,1,12,1] [(78,[.un,.un,.un,.un,.un,.un,.un,.ff])] (Ds ?_));refine R1 ?_;refine RF [3] [0,1,5,2,3,4] 7 6 h Zpt fun _ _ h=>?_;refine GD ?_;exact W
     ·refine Vg 5 ?_;refine MI h (fun h=>?_) fun h=>?_
      ·refine Vg 1 ?_;refine Vm [1,1,4,1,3,2] (fun s=>([(110,.bv s.1)],[(3,12,.iv s.2)],[(0,none),(1,none)],[])) (Zk91 x1 x2 x9 x10 x11 x12 x13 x14 x16) r ?_ fun J6=>?_
       ·rintro ⟨x41,x42⟩ h;rw [Zk91] at h;refine MI h (fun h=>?_) fun h=>?_
        ·refine Vg 1 ?_;refine Zgj fun all H=>?_;refine Gn H 1 10 ?_;refine R1 ?_;refine Gn H 5 4 ?_;refine R1 ?_;have ⟨x43,ex43,h⟩:=Bs h;refine RO ?_;refine RI ?_;refine Gn H 1 1 ?_;refine RSo [.iv 0] (SX.mk x43.PE x43.EP 0 x43.FK x43.DY x43.TO x43.BO x43.Ask) ?_;refine GD (Vg 1 ?_);refine Zjj 3 (Ds ?_);refine Zgj fun all H=>Ds ?_;refine GN H 1 11 (Ds ?_);refine An (Zoa 0 1 rfl ?_ ?_)
         ·refine RV ?_;refine R1 ?_;refine Gn H 4 5 ?_;refine RB h Zy31 fun x44 ex44 h=>?_;refine Gn H 3 1 ?_;refine R1 ?_;refine GD (Vg 3 ?_);refine VR [3] [0,1,5,2,4] 6 6 h Zmu fun _ _ h=>?_;refine Vg 1 ?_;refine Zjj 5 (Ds ?_);refine Zij 7 6 ?_;exact W
         ·refine RV ?_;refine Gn H 4 6 ?_;have ⟨x44,ex44,h⟩:=Bs h;refine Zoa 0 7 rfl ?_ ?_
          ·refine RV ?_;refine Zna 7 rfl (GC H.1 (Zy31 ex44) ?_);refine Gn H 3 1 ?_;refine R1 ?_;refine GD (Vg 3 ?_);refine VR [3] [0,1,5,2,4] 6 6 h Zmu fun x46 ex46 h=>?_;refine Vg 1 ?_;refine Zjj 5 (Ds ?_);refine Zij 7 6 ?_;exact W
          ·refine GC H.1 (Zy31 ex44) (Ds ?_);refine R1 ?_;refine Gn H 3 1 ?_;refine R1 ?_;refine GD (Vg 3 ?_);refine VR [3] [0,1,5,2,4] 6 6 h Zmu fun _ _ h=>?_;refine Vg 1 ?_;refine Zjj 5 (Ds ?_);refine Zij 7 6 ?_;exact W
        ·refine Vg 1 ?_;refine Zjj 5 (Ds ?_);refine Zjj 3 (Ds ?_);refine Zkj 3 11 77 5 ?_;exact W
       ·refine Zgj fun all H=>?_;refine Gn H 1 9 ?_;have ⟨x35,ex35,h⟩:=Bs h;refine Zoa 0 2 rfl ?_ ?_
        ·refine RV ?_;refine Zna 2 rfl (Z2d H.1 rfl trivial ((((((((((LR.slice 0 rfl).slice 1 rfl).slice 2 rfl).slice 3 rfl).slice 4 rfl).slice 5 rfl).block 1 rfl rfl).block 3 rfl rfl).block 4 rfl rfl).block 5 rfl rfl) rfl (Zpo ex35) (by kernel_rfl) (h:=Ds ?_));refine Gn H 1 6 ?_;refine Zdd 104 h rfl (fun _ h=>?_) fun _ h=>?_
         ·refine Gn H 3 3 ?_;refine RB h Z2x fun x37 ex37 h=>?_;refine Gn H 1 1 ?_;refine RF [3] [0,1,5,2,3,4] 6 6 h Zlt fun _ _ h=>?_;refine GD ?_;exact W
         ·refine Gn H 5 1 ?_;refine RF [3] [0,1,5,2,3,4] 6 6 h Zpt fun x39 ex39 h=>?_;refine GD ?_;exact W
        ·refine Z2d H.1 rfl trivial ((((((((((LR.slice 0 rfl).slice 1 rfl).slice 2 rfl).slice 3 rfl).slice 4 rfl).slice 5 rfl).block 1 rfl rfl).block 3 rfl rfl).block 4 rfl rfl).block 5 rfl rfl) rfl (Zpo ex35) (by kernel_rfl) (h:=?_);refine Gn H 1 7 ?_;refine Zdd 104 h rfl (fun _ h=>?_) fun _ h=>?_
         ·refine Gn H 3 4 ?_;have ⟨x37,ex37,h⟩:=Bs h;refine Zoa 0 7 rfl ?_ ?_
          ·refine RV ?_;refine Zna 7 rfl (GC H.1 (Z2x ex37) ?_);refine Gn H 1 1 ?_;refine RF [3] [0,1,5,2,3,4] 6 6 h Zlt fun x39 ex39 h=>?_;refine GD ?_;exact W
          ·refine GC H.1 (Z2x ex37) ?_;refine Gn H 1 2 ?_;refine R1 ?_;refine RF [3] [0,1,5,2,3,4] 6 6 h Zlt fun _ _ h=>?_;refine GD ?_;exact W
         ·refine Gn H 5 2 ?_;refine R1 ?_;refine RF [3] [0,1,5,2,3,4] 6 6 h Zpt fun _ _ h=>?_;refine GD ?_;exact W
      ·refine Vg 5 ?_;refine MI h (fun h=>?_) fun h=>?_
       ·refine Vg 1 ?_;refine Vl [1,1,4,1,3,1] (fun s=>([(148,.bv s.1)],[none,none,some ⟨67,[.iv 0,.iv 0,.nl,.iv 0,.nl,.iv 0,.nl,.nl,.nl,.nl]⟩,some ⟨138,[.iv x1.DK.DI.ID,.iv x1.DK.DI.PH,.osl 0,.iv x1.DK.TH,.osl 1,.iv x1.BK.LA,.osl 5,.osl 2,.osl 3,.osl 4,.nl,.nl,.iv s.2]⟩,some ⟨136,[.ptr 3 0]⟩],[Z5k x9,Sq4 x10,Z6k x11,Sq4 x12,Z6k x13,Z3k x14])) (Zl91 x1 x2 x9 x10 x11 x12 x13 x14) r ?_ fun J7=>?_
        ·rintro ⟨x51,x52⟩ h;rw [Zl91] at h;refine MI h (fun h=>?_) fun h=>?_
         ·refine Vg 3 ?_;refine VR [3] [0,1,5,2,3,4] 5 6 h Z381 fun _ _ h=>?_;refine Vg 1 ?_;refine Zjj 3 (Ds ?_);refine Zij 7 6 (Zij 8 0 (Ds ?_));refine Zij 9 1 ?_;exact W
         ·refine Vg 1 ?_;refine Zjj 5 (Ds ?_);refine Zjj 3 (Ds ?_);refine Zkj 3 11 77 5 ?_;exact W
        ·refine Zgj fun all H=>?_;refine Gn H 1 11 ?_;have ⟨x47,ex47,h⟩:=Bs h;refine Zoa 0 2 rfl ?_ ?_
         ·refine RV ?_;refine Zna 2 rfl (Z2d H.1 rfl trivial ((((((((((LR.slice 0 rfl).slice 1 rfl).slice 2 rfl).slice 3 rfl).slice 4 rfl).slice 5 rfl).block 1 rfl rfl).block 3 rfl rfl).block 4 rfl rfl).block 5 rfl rfl) rfl (Zpo ex47) (by kernel_rfl) (h:=Ds ?_));refine Gn H 1 8 ?_;refine Zdd 140 h rfl (fun _ h=>?_) fun _ h=>?_
          ·refine Ds (GP H 7 1 [11,1] [(141,[.iv x2,.ptr 0 0,.ptr 0 0,.ptr 0 0,.iv x1.DK.DI.ID,.bv (decide (x2<x1.DK.DI.ID)),.bv (decide (x2<x1.DK.DI.ID))])] (Ds ?_));refine RF [3] [0,1,5,2,3,4] 6 6 h Zlt fun x49 ex49 h=>?_;refine GD ?_;exact W
          ·refine Ds (GP H 7 1 [11,1] [(141,[.un,.un,.un,.un,.un,.un,.ff])] (Ds ?_));refine RF [3] [0,1,5,2,3,4] 6 6 h Zpt fun x50 ex50 h=>?_;refine GD ?_;exact W
         ·refine Z2d H.1 rfl trivial ((((((((((LR.slice 0 rfl).slice 1 rfl).slice 2 rfl).slice 3 rfl).slice 4 rfl).slice 5 rfl).block 1 rfl rfl).block 3 rfl rfl).block 4 rfl rfl).block 5 rfl rfl) rfl (Zpo ex47) (by kernel_rfl) (h:=?_);refine Gn H 1 9 ?_;refine Zdd 140 h rfl (fun _ h=>?_) fun _ h=>?_
          ·refine Ds (GP H 7 2 [0,1,10,1] [(141,[.iv x2,.ptr 0 0,.ptr 0 0,.ptr 0 0,.iv x1.DK.DI.ID,.bv (decide (x2<x1.DK.DI.ID)),.bv (decide (x2<x1.DK.DI.ID))])] (Ds ?_));refine R1 ?_;refine RF [3] [0,1,5,2,3,4] 6 6 h Zlt fun _ _ h=>?_;refine GD ?_;exact W
          ·refine Ds (GP H 7 2 [0,1,10,1] [(141,[.un,.un,.un,.un,.un,.un,.ff])] (Ds ?_));refine R1 ?_;refine RF [3] [0,1,5,2,3,4] 6 6 h Zpt fun _ _ h=>?_;refine GD ?_;exact W
       ·refine Vg 5 ?_;refine MI h (fun h=>?_) fun h=>?_
        ·refine Vg 1 ?_;refine Zgj fun all H=>?_;refine Gn H 1 3 ?_;have ⟨x54,ex54,h⟩:=Bs h;refine Zoa 0 2 rfl ?_ ?_
         ·refine RV ?_;refine Zna 2 rfl (Z2d H.1 rfl trivial ((((((((((LR.slice 0 rfl).slice 1 rfl).slice 2 rfl).slice 3 rfl).slice 4 rfl).slice 5 rfl).block 1 rfl rfl).block 3 rfl rfl).block 4 rfl rfl).block 5 rfl rfl) rfl (Zpo ex54) (by kernel_rfl) (h:=Ds ?_));refine RF [3] [0,1,5,2,3,4] 6 6 h Zlt fun x56 ex56 h=>?_;refine GD (MI h (fun h=>?_) fun h=>?_)
          ·refine Vg 4 ?_;refine VR [3] [0,1,5,2,3,4] 6 6 h Z211 fun x57 ex57 h=>?_;refine Vg 4 ?_;refine VR [3] [6,1,5,2,3,4] 6 7 h Zut fun x58 ex58 h=>?_;refine Vg 1 ?_;refine Zjj 5 (Ds ?_);refine Zjj 3 (Ds ?_);refine Zlj 112 8 (Ds ?_);refine Zij 6 9 (Ds ?_);refine Zij 8 6 (Zij 9 0 ?_);exact W
          ·refine Vg 1 ?_;refine Zjj 5 (Ds ?_);refine Zjj 3 (Ds ?_);refine Zkj 3 11 77 5 ?_;exact W
         ·refine Z2d H.1 rfl trivial ((((((((((LR.slice 0 rfl).slice 1 rfl).slice 2 rfl).slice 3 rfl).slice 4 rfl).slice 5 rfl).block 1 rfl rfl).block 3 rfl rfl).block 4 rfl rfl).block 5 rfl rfl) rfl (Zpo ex54) (by kernel_rfl) (h:=Ds ?_);refine R1 ?_;refine RF [3] [0,1,5,2,3,4] 6 6 h Zlt fun _ _ h=>?_;refine GD (MI h (fun h=>?_) fun h=>?_)
          ·refine Vg 4 ?_;refine VR [3] [0,1,5,2,3,4] 6 6 h Z211 fun _ _ h=>?_;refine Vg 4 ?_;refine VR [3] [6,1,5,2,3,4] 6 7 h Zut fun _ _ h=>?_;refine Vg 1 ?_;refine Zjj 5 (Ds ?_);refine Zjj 3 (Ds ?_);refine Zlj 112 8 (Ds ?_);refine Zij 6 9 (Ds ?_);refine Zij 8 6 (Zij 9 0 ?_);exact W
          ·refine Vg 1 ?_;refine Zjj 5 (Ds ?_);refine Zjj 3 (Ds ?_);refine Zkj 3 11 77 5 ?_;exact W
        ·refine Vg 2 ?_;refine VR [3] [0,1,5,2,3,4] 6 6 h Zpt fun _ _ h=>?_;refine Vg 1 ?_;refine Zjj 5 (Ds ?_);refine Zjj 3 (Ds ?_);refine Zkj 3 11 77 5 ?_;exact W
  ·exact W
 ·refine Zgj fun all H=>?_;refine Gn H 2 6 ?_;have ⟨x4,ex4,h⟩:=Bs h;refine Zoa 1 6 rfl ?_ ?_
  ·refine Znj H.1 [] [] 3 0 (Zux ex4) (Ds ?_);have ⟨x6,ex6,h⟩:=Bs h;refine Zoa 3 6 rfl ?_ ?_
   ·refine GC H.1 (Zc81 ex6) ?_;refine Gn H 1 3 ?_;refine Zoa 5 6 rfl ?_ ?_
    ·refine RV ?_;refine R1 ?_;refine R1 ?_;refine GD ?_;exact W
    ·refine RV ?_;refine R1 ?_;refine R1 ?_;refine GD (Z4e 3 4 rfl rfl ?_);exact W
   ·refine RV ?_;refine Zna 3 rfl (GC H.1 (Zc81 ex6) ?_);refine Gn H 1 2 ?_;refine R1 ?_;refine R1 ?_;refine GD (Z4e 3 4 rfl rfl ?_);exact W
  ·refine RV ?_;refine Zna 1 rfl (Znj H.1 [] [] 4 0 (Zux ex4) (Ds ?_));refine RB h Zc81 fun _ _ h=>?_;refine Gn H 1 2 ?_;refine R1 ?_;refine R1 ?_;refine GD (Z4e 3 4 rfl rfl ?_);exact W
end
end NX
end Go.Proofs.YtgamgemlekpepaaGreat
