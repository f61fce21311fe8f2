/-
  The function narthex/node.Get: its code compiled, a model, and that the code answers as the model. Written by a program of ours (lb.py). No statement of the seat is proved here.
-/
import Derived.Test.YtjemlejoladlcaaGreatL26
set_option maxRecDepth 100000
set_option maxHeartbeats 40000000
namespace Go.Proofs.YtjemlejoladlcaaGreat
namespace NX
open Go
noncomputable section
def E5 (x11:List KE):(Int×Int×Int×Int×List SE×List Int×Int×List SX×List Int×List KE×List EV)→Option (NO×List ML×List EV×Int)
| (x60,x61,x62,x63,x64,x65,x66,x67,x68,x69,x70)=>
 (JR x60 x61 x62 x63 x64 x65 x66 x67 x68 x11 x69 x70).bind fun x71=>
 some ((NO.mk (DK.mk (DI.mk x71.1 x71.2.1 x71.2.2.2.2.2.2.2.1) x71.2.2.1 x71.2.2.2.2.2.2.2.2.1) (BK.mk x71.2.2.2.1 x71.2.2.2.2.1) x71.2.2.2.2.2.2.2.2.2.1 x71.2.2.2.2.2.1 x71.2.2.2.2.2.2.2.2.2.2.1),x71.2.2.2.2.2.2.2.2.2.2.2.1,x71.2.2.2.2.2.2.2.2.2.2.2.2,x71.2.2.2.2.2.2.1)
def Io (x1:NO) (x2:Int) (x3:Msg) (x9:List SX) (x10:List Int) (x11:List KE) (x12:List Int) (x13:List KE) (x14:List SE) (x15:(Bool×Int)):Bool→Option (NO×List ML×List EV×Int)
| x19=>
 A0 x19 (
 (X2 x2 x3 x1.DK.DI.ID x1.DK.DI.PH x1.DK.TH x1.BK.LA x15.2 x9 x10 x14 x11 x12 x13).bind fun x20=>
 (E5 x11) (x20.1,x20.2.1,x20.2.2.1,x1.BK.LA,x14,x12,x20.2.2.2.1,x20.2.2.2.2.1,x20.2.2.2.2.2,x13,([]:List EV))) (
 (E5 x11) (x1.DK.DI.ID,x1.DK.DI.PH,x1.DK.TH,x1.BK.LA,x14,x12,x15.2,x9,x10,x13,([]:List EV)))
def JH (x1:NO) (x2:Int) (x3:Msg) (x9:List SX) (x10:List Int) (x11:List KE) (x12:List Int) (x13:List KE) (x14:List SE):(Bool×Int)→Option (NO×List ML×List EV×Int)
| (x31,x32)=>
 A0 x31 (
 (AI 16 x13 ([KE.mk x2 x3.EP])).bind fun x33=>
 (E5 x11) (x1.DK.DI.ID,x1.DK.DI.PH,x1.DK.TH,x1.BK.LA,x14,x12,x32,x9,x10,x33,([]:List EV))) (
 (E5 x11) (x1.DK.DI.ID,x1.DK.DI.PH,x1.DK.TH,x1.BK.LA,x14,x12,x32,x9,x10,x13,([]:List EV)))
def JI (x1:NO) (x2:Int) (x9:List SX) (x10:List Int) (x11:List KE) (x12:List Int) (x13:List KE) (x14:List SE) (x16:Int):(Bool×Int)→Option (NO×List ML×List EV×Int)
| (x41,x42)=>
 A0 x41 (
 (A4 x9 x16).bind fun x43=>
 (T3 x12 x2).bind fun x44=>
 (S5 6 x2 x1.DK.DI.ID x1.DK.DI.PH x1.DK.TH x1.BK.LA x44 x42 (x9.set (Int.toNat (x16)) (SX.mk x43.PE x43.EP 0 x43.FK x43.DY x43.TO x43.BO x43.Ask)) x10 x14 x11 x13).bind fun x45=>
 (E5 x11) (x1.DK.DI.ID,x1.DK.DI.PH,x1.DK.TH,x1.BK.LA,x14,x44,x42,x9.set (Int.toNat (x16)) (SX.mk x43.PE x43.EP 0 x43.FK x43.DY x43.TO x43.BO x43.Ask),x10,x13,x45)) (
 (E5 x11) (x1.DK.DI.ID,x1.DK.DI.PH,x1.DK.TH,x1.BK.LA,x14,x12,x42,x9,x10,x13,([]:List EV)))
def JJ (x1:NO) (x2:Int) (x9:List SX) (x10:List Int) (x11:List KE) (x12:List Int) (x13:List KE) (x14:List SE):(Bool×Int)→Option (NO×List ML×List EV×Int)
| (x51,x52)=>
 A0 x51 (
 (La x2 x1.DK.DI.ID x1.DK.DI.PH x1.DK.TH x1.BK.LA x52 x9 x10 x14 x11 x12 x13).bind fun x53=>
 (E5 x11) (x53.1,x53.2.1,x53.2.2.1,x53.2.2.2.1,x53.2.2.2.2.1,x12,x52,x53.2.2.2.2.2.2.1,x53.2.2.2.2.2.2.2,x13,x53.2.2.2.2.2.1)) (
 (E5 x11) (x1.DK.DI.ID,x1.DK.DI.PH,x1.DK.TH,x1.BK.LA,x14,x12,x52,x9,x10,x13,([]:List EV)))
def Hr (x1:NO) (x2:Int) (x3:Msg) (x9:List SX) (x10:List Int) (x11:List KE) (x12:List Int) (x13:List KE) (x14:List SE) (x15:(Bool×Int)) (x16:Int):Bool→Option (NO×List ML×List EV×Int)
| x17=>
 A0 x17 (
 A0 (decide (x15.2=0)) (
 A0 (decide (0≤x16)) (
 (A4 x9 x16).bind fun x18=>
 (Io x1 x2 x3 x9 x10 x11 x12 x13 x14 x15) (decide (x18.EP=x3.EP))) (
 (Io x1 x2 x3 x9 x10 x11 x12 x13 x14 x15) false)) (
 (Io x1 x2 x3 x9 x10 x11 x12 x13 x14 x15) false)) (
 A0 (decide (x3.KI=5)) (
 (Nv x1 (KE.mk x2 x3.EP)).bind fun x21=>
 A0 x21 (
 (Et x1.AK).bind fun x23=>
 (AI 16 x23 ([KE.mk x2 x3.EP])).bind fun x25=>
 (Nu x25).bind fun x26=>
 (DU x26 187 x1.DK.DI.ID x1.DK.DI.PH x1.DK.TH x1.BK.LA x15.2 x9 x10 x14 x11 x12 x13).bind fun x27=>
 (JH x1 x2 x3 x9 x10 x11 x12 x13 x14) (x27.1,x27.2)) (
 (F9 187 x1.DK.DI.ID x1.DK.DI.PH x1.DK.TH x1.BK.LA x15.2 x9 x10 x14 x11 x12 x13).bind fun x28=>
 (JH x1 x2 x3 x9 x10 x11 x12 x13 x14) (x28.1,x28.2))) (
 A0 (decide (x3.KI=6)) (
 (L0 1 x16 (node_node.mk (NO.mk (DK.mk (DI.mk x1.DK.DI.ID x1.DK.DI.PH x9) x1.DK.TH x10) (BK.mk x1.BK.LA x14) x11 x12 x13) (([]:List ML)) (([]:List EV)) x15.2) x3).bind fun x35=>
 A0 x35 (
 (G6 x1.TL x2).bind fun x37=>
 (DU x37 187 x1.DK.DI.ID x1.DK.DI.PH x1.DK.TH x1.BK.LA x15.2 x9 x10 x14 x11 x12 x13).bind fun x38=>
 (JI x1 x2 x9 x10 x11 x12 x13 x14 x16) (x38.1,x38.2)) (
 (F9 187 x1.DK.DI.ID x1.DK.DI.PH x1.DK.TH x1.BK.LA x15.2 x9 x10 x14 x11 x12 x13).bind fun x39=>
 (JI x1 x2 x9 x10 x11 x12 x13 x14 x16) (x39.1,x39.2))) (
 A0 (decide (x3.KI=7)) (
 (L0 0 x16 (node_node.mk (NO.mk (DK.mk (DI.mk x1.DK.DI.ID x1.DK.DI.PH x9) x1.DK.TH x10) (BK.mk x1.BK.LA x14) x11 x12 x13) (([]:List ML)) (([]:List EV)) x15.2) x3).bind fun x47=>
 A0 x47 (
 (DU (decide (x2<x1.DK.DI.ID)) 187 x1.DK.DI.ID x1.DK.DI.PH x1.DK.TH x1.BK.LA x15.2 x9 x10 x14 x11 x12 x13).bind fun x49=>
 (JJ x1 x2 x9 x10 x11 x12 x13 x14) (x49.1,x49.2)) (
 (F9 187 x1.DK.DI.ID x1.DK.DI.PH x1.DK.TH x1.BK.LA x15.2 x9 x10 x14 x11 x12 x13).bind fun x50=>
 (JJ x1 x2 x9 x10 x11 x12 x13 x14) (x50.1,x50.2))) (
 A0 (decide (x3.KI=8)) (
 (L0 3 x16 (node_node.mk (NO.mk (DK.mk (DI.mk x1.DK.DI.ID x1.DK.DI.PH x9) x1.DK.TH x10) (BK.mk x1.BK.LA x14) x11 x12 x13) (([]:List ML)) (([]:List EV)) x15.2) x3).bind fun x54=>
 (DU x54 187 x1.DK.DI.ID x1.DK.DI.PH x1.DK.TH x1.BK.LA x15.2 x9 x10 x14 x11 x12 x13).bind fun x56=>
 A0 x56.1 (
 (S3 x2 x1.DK.DI.ID x1.DK.DI.PH x1.DK.TH x1.BK.LA x56.2 x9 x10 x14 x11 x12 x13).bind fun x57=>
 (JO 8 x2 x1.DK.DI.ID x1.DK.DI.PH x1.DK.TH x1.BK.LA x56.2 x57 x10 x14 x11 x12 x13).bind fun x58=>
 (E5 x11) (x1.DK.DI.ID,x1.DK.DI.PH,x1.DK.TH,x1.BK.LA,x14,x12,x56.2,x57,x10,x13,x58)) (
 (E5 x11) (x1.DK.DI.ID,x1.DK.DI.PH,x1.DK.TH,x1.BK.LA,x14,x12,x56.2,x9,x10,x13,([]:List EV)))) (
 (F9 187 x1.DK.DI.ID x1.DK.DI.PH x1.DK.TH x1.BK.LA x15.2 x9 x10 x14 x11 x12 x13).bind fun x59=>
 (E5 x11) (x1.DK.DI.ID,x1.DK.DI.PH,x1.DK.TH,x1.BK.LA,x14,x12,x59.2,x9,x10,x13,([]:List EV)))))))
def WI (x1:NO) (x2:Int) (x3:Msg):(Int×List SX×List Int×List KE×List Int×List KE×List SE)→Option (NO×List ML×List EV×Int)
| (x8,x9,x10,x11,x12,x13,x14)=>
 (DU (decide (x3.Num=0)) 187 x1.DK.DI.ID x1.DK.DI.PH x1.DK.TH x1.BK.LA x8 x9 x10 x14 x11 x12 x13).bind fun x15=>
 (L8 (node_node.mk (NO.mk (DK.mk (DI.mk x1.DK.DI.ID x1.DK.DI.PH x9) x1.DK.TH x10) (BK.mk x1.BK.LA x14) x11 x12 x13) (([]:List ML)) (([]:List EV)) x15.2) x2).bind fun x16=>
 A0 (decide (x3.KI=1)) (
 (Hr x1 x2 x3 x9 x10 x11 x12 x13 x14 x15 x16) (decide (x3.KI=1))) (
 A0 (decide (x3.KI=2)) (
 (Hr x1 x2 x3 x9 x10 x11 x12 x13 x14 x15 x16) (decide (x3.KI=2))) (
 A0 (decide (x3.KI=3)) (
 (Hr x1 x2 x3 x9 x10 x11 x12 x13 x14 x15 x16) (decide (x3.KI=3))) (
 (Hr x1 x2 x3 x9 x10 x11 x12 x13 x14 x15 x16) (decide (x3.KI=4)))))
def Im (x1:NO) (x2:Int) (x3:Msg):Option (NO×List ML×List EV×Int):=
 (NL x1).bind fun x4=>
 (Il x1).bind fun x6=>
 (WI x1 x2 x3) (x6,x4.1,x4.2.1,x4.2.2.1,x4.2.2.2.1,x4.2.2.2.2.1,x4.2.2.2.2.2)
theorem vm {x1 x2 x3 r} (h:Im x1 x2 x3=some r):FPx 79 [.agg (NO.row x1),.iv x2,.agg (Msg.row x3)] (.tup [.agg (NO.row r.1),Cb r.2.1,Cz r.2.2.1,.iv r.2.2.2]):=by
 have ok:=oJ 79 Tryz.f79 [.c 6 (some 10),.t 7,.t 8,.t 9] 3 167;refine FP ok fun w0 H0=>?_;rw [Im] at h;refine Vg 10 ?_;refine Vl [1,1,1,1,1,2] (fun s=>([(10,.ptr 4 0)],[some ⟨48,NO.row x1⟩,some ⟨111,Msg.row x3⟩,some ⟨48,[.iv 0,.iv 0,.nl,.iv 0,.nl,.iv 0,.nl,.nl,.nl,.nl]⟩,some ⟨173,[.iv x1.DK.DI.ID,.iv x1.DK.DI.PH,.osl 0,.iv x1.DK.TH,.osl 1,.iv x1.BK.LA,.osl 5,.osl 2,.osl 3,.osl 4,.nl,.nl,.iv s.1]⟩,some ⟨171,[.ptr 3 0]⟩],[Ac s.2.1,A5 s.2.2.1,A9 s.2.2.2.1,A5 s.2.2.2.2.1,A9 s.2.2.2.2.2.1,AX s.2.2.2.2.2.2])) (WI x1 x2 x3) r ?_ fun J1=>?_
 ·rintro ⟨x8,x9,x10,x11,x12,x13,x14⟩ h;rw [WI] at h;refine Vg 6 ?_;refine VR [3] [0,1,5,2,3,4] 5 6 h CH fun x15 _ h=>?_;refine Vg 5 ?_;refine VN (((((((LR.slice 0 rfl).slice 1 rfl).slice 2 rfl).slice 3 rfl).slice 4 rfl).slice 5 rfl).block 3 rfl rfl) h Vd fun x16 _ h=>?_;refine Vg 21 ?_;refine Vk [1,1,1,1,1,2,3,3,17,1] (fun x17=>[(33,.bv x17)]) (Hr x1 x2 x3 x9 x10 x11 x12 x13 x14 x15 x16) r ?_ fun J2=>?_
  ·intro x17 h;rw [Hr] at h;refine Vl [6,1,3,1] (fun s=>([],[none,none,some ⟨48,[.iv 0,.iv 0,.nl,.iv 0,.nl,.iv 0,.nl,.nl,.nl,.nl]⟩,some ⟨173,[.iv s.1,.iv s.2.1,.osl 0,.iv s.2.2.1,.osl 1,.iv s.2.2.2.1,Av s.2.2.2.2.1,.osl 2,Ab s.2.2.2.2.2.1,.osl 4,.nl,.osl 6,.iv s.2.2.2.2.2.2.1]⟩,some ⟨171,[.ptr 3 0]⟩],[Ac s.2.2.2.2.2.2.2.1,A5 s.2.2.2.2.2.2.2.2.1,A9 x11,none,A9 s.2.2.2.2.2.2.2.2.2.1,none,Be s.2.2.2.2.2.2.2.2.2.2])) (E5 x11) r ?_ fun J3=>?_
   ·rintro ⟨x60,x61,x62,x63,x64,x65,x66,x67,x68,x69,x70⟩ h;rw [E5] at h;refine Vg 4 ?_;refine VR [3] [0,1,2,4,6] 5 7 h nV fun _ _ h=>?_;refine Vg 9 ?_;refine Ae 7 (Ds ?_);refine Ae 8 (Ds ?_);refine Ae 9 (Ds ?_);refine Ae 10 (Ds ?_);refine Ae 11 (Ds ?_);refine Ae 12 ?_;exact W
   ·refine MI h (fun h=>?_) fun h=>?_
    ·refine Vg 1 ?_;refine Vl [1,1,3,2,3,1] (fun x19=>([(62,.bv x19)],[none,some ⟨111,Msg.row x3⟩,some ⟨48,[.iv 0,.iv 0,.nl,.iv 0,.nl,.iv 0,.nl,.nl,.nl,.nl]⟩,some ⟨173,[.iv x1.DK.DI.ID,.iv x1.DK.DI.PH,.osl 0,.iv x1.DK.TH,.osl 1,.iv x1.BK.LA,.osl 5,.osl 2,.osl 3,.osl 4,.nl,.nl,.iv x15.2]⟩,some ⟨171,[.ptr 3 0]⟩],[Ac x9,A5 x10,A9 x11,A5 x12,A9 x13,AX x14])) (Io x1 x2 x3 x9 x10 x11 x12 x13 x14 x15) r ?_ fun J4=>?_
     ·intro x19 h;rw [Io] at h;refine MI h (fun h=>?_) fun h=>?_
      ·refine Vg 4 ?_;refine VR [3] [0,1,5,2,3,4] 5 6 h Z1F fun _ _ h=>?_;refine Vg 1 ?_;refine Ae 5 (Ds ?_);refine Ae 3 (Ds ?_);refine AE 3 11 97 5 (Ds ?_);refine As 66 8 (Ds ?_);refine A7 6 9 (A7 8 6 (Ds ?_));refine A7 9 0 (A7 7 1 ?_);exact W
      ·refine Vg 1 ?_;refine Ae 5 (Ds ?_);refine Ae 3 (Ds ?_);refine AE 3 11 97 5 ?_;exact W
     ·refine Ai fun all H=>Ds ?_;refine R1 ?_;refine GP H 5 19 [6,19] [(39,[.ptr 3 0,.ptr 3 12,.iv x15.2,.bv (decide (x15.2=0)),.bv (decide (x15.2=0))])] (Ds ?_);refine BJ 43 h rfl (fun _ h=>?_) fun _ h=>?_
      ·refine Ds (GP H 4 15 [10,15] [(44,[.iv x16,.bv (decide (0≤x16)),.bv (decide (0≤x16)),.bv (decide (0≤x16))])] (Ds ?_));refine BJ 47 h rfl (fun _ h=>?_) fun _ h=>?_
       ·refine Ds (GP H 3 12 [10,7,1,3,2,2] [(55,[.iv x16]),(3,[.ptr 1 1,.iv x3.EP])] (Ds ?_));refine R1 ?_;refine GP H 5 6 [16,1,1,3,2,2] [(49,[.ptr 3 0,.ptr 3 0,.ptr 3 0,.ptr 3 0,.ptr 3 2])] (Ds ?_);refine R1 ?_;have ⟨x18,ex18,h⟩:=Bs h;refine A6 18 rfl (RI ?_);refine Gn H 1 3 ?_;refine RO ?_;refine RL ?_;refine Gn H 2 0 ?_;refine GD ?_;exact W
       ·refine Ds (GP H 15 0 [25] [(48,ux 14 [.ff])] (Ds ?_));refine GD ?_;exact W
      ·refine Ds (GP H 19 0 [25] [(44,.un::.un::.ff::.ff::ux 14 [.ff])] (Ds ?_));refine GD ?_;exact W
    ·refine Vg 5 ?_;refine MI h (fun h=>?_) fun h=>?_
     ·refine Vg 10 ?_;refine Vm [6,1,3,1,2,1] (fun s=>([(86,.bv s.1)],[(3,12,.iv s.2)],[(0,none),(1,none),(5,none)],[])) (JH x1 x2 x3 x9 x10 x11 x12 x13 x14) r ?_ fun J5=>?_
      ·rintro ⟨x31,x32⟩ h;rw [JH] at h;refine MI h (fun h=>?_) fun h=>?_
       ·refine Ai fun all H=>?_;refine Gn H 1 12 ?_;refine Fj 0 1 7 rfl ?_ ?_ ?_
        ·refine RV ?_;refine Ag 1 7 rfl ?_ ?_
         ·refine RV ?_;refine Gn H 3 7 ?_;refine Ag 5 7 rfl ?_ ?_
          ·refine RV ?_;refine R1 ?_;refine A6 8 rfl ?_;have ⟨x33,ex33,h⟩:=Bs h;refine GA KE.row ex33 H.1 ?_;refine Gn H 3 1 ?_;refine R1 ?_;refine GD (Ae 5 (Ds ?_));refine Ae 3 (Ds ?_);refine AE 3 11 97 5 (Ds ?_);refine A7 8 6 (A7 7 4 ?_);exact W
          ·refine RV ?_;refine R1 ?_;refine A6 8 rfl ?_;have ⟨x33,ex33,h⟩:=Bs h;refine GA KE.row ex33 H.1 ?_;refine Gn H 3 1 ?_;refine R1 ?_;refine GD (Ae 5 (Ds ?_));refine Ae 3 (Ds ?_);refine AE 3 11 97 5 (Ds ?_);refine A7 8 6 (A7 7 4 ?_);exact W
         ·refine RV ?_;refine R1 ?_;refine Gn H 3 6 ?_;refine R1 ?_;refine A6 8 rfl ?_;have ⟨x33,ex33,h⟩:=Bs h;refine GA KE.row ex33 H.1 ?_;refine Gn H 3 1 ?_;refine R1 ?_;refine GD (Ae 5 (Ds ?_));refine Ae 3 (Ds ?_);refine AE 3 11 97 5 (Ds ?_);refine A7 8 6 (A7 7 4 ?_);exact W
        ·refine RV ?_;refine Gn H 3 8 ?_;refine Fj 0 5 7 rfl ?_ ?_ ?_
         ·refine RV ?_;refine Ag 5 7 rfl ?_ ?_
          ·refine RV ?_;refine R1 ?_;refine A6 8 rfl ?_;have ⟨x33,ex33,h⟩:=Bs h;refine GA KE.row ex33 H.1 ?_;refine Gn H 3 1 ?_;refine R1 ?_;refine GD (Ae 5 (Ds ?_));refine Ae 3 (Ds ?_);refine AE 3 11 97 5 (Ds ?_);refine A7 8 6 (A7 7 4 ?_);exact W
          ·refine RV ?_;refine R1 ?_;refine A6 8 rfl ?_;have ⟨x33,ex33,h⟩:=Bs h;refine GA KE.row ex33 H.1 ?_;refine Gn H 3 1 ?_;refine R1 ?_;refine GD (Ae 5 (Ds ?_));refine Ae 3 (Ds ?_);refine AE 3 11 97 5 (Ds ?_);refine A7 8 6 (A7 7 4 ?_);exact W
         ·refine RV ?_;refine Ag 0 7 rfl ?_ ?_
          ·refine RV ?_;refine R1 ?_;refine A6 8 rfl ?_;have ⟨x33,ex33,h⟩:=Bs h;refine GA KE.row ex33 H.1 ?_;refine Gn H 3 1 ?_;refine R1 ?_;refine GD (Ae 5 (Ds ?_));refine Ae 3 (Ds ?_);refine AE 3 11 97 5 (Ds ?_);refine A7 8 6 (A7 7 4 ?_);exact W
          ·refine RV ?_;have ⟨x33,ex33,h⟩:=Bs h;refine Ag 0 8 rfl ?_ ?_
           ·refine RV ?_;refine A6 8 rfl (GA KE.row ex33 H.1 ?_);refine Gn H 3 1 ?_;refine R1 ?_;refine GD (Ae 5 (Ds ?_));refine Ae 3 (Ds ?_);refine AE 3 11 97 5 (Ds ?_);refine A7 8 6 (A7 7 4 ?_);exact W
           ·refine GA KE.row ex33 H.1 (Ds ?_);refine R1 ?_;refine Gn H 3 1 ?_;refine R1 ?_;refine GD (Ae 5 (Ds ?_));refine Ae 3 (Ds ?_);refine AE 3 11 97 5 (Ds ?_);refine A7 8 6 (A7 7 4 ?_);exact W
         ·refine RV ?_;refine Ag 0 5 rfl ?_ ?_
          ·refine RV ?_;refine R1 ?_;refine A6 8 rfl ?_;have ⟨x33,ex33,h⟩:=Bs h;refine GA KE.row ex33 H.1 ?_;refine Gn H 3 1 ?_;refine R1 ?_;refine GD (Ae 5 (Ds ?_));refine Ae 3 (Ds ?_);refine AE 3 11 97 5 (Ds ?_);refine A7 8 6 (A7 7 4 ?_);exact W
          ·refine RV ?_;have ⟨x33,ex33,h⟩:=Bs h;refine Ag 0 8 rfl ?_ ?_
           ·refine RV ?_;refine A6 8 rfl (GA KE.row ex33 H.1 ?_);refine Gn H 3 1 ?_;refine R1 ?_;refine GD (Ae 5 (Ds ?_));refine Ae 3 (Ds ?_);refine AE 3 11 97 5 (Ds ?_);refine A7 8 6 (A7 7 4 ?_);exact W
           ·refine GA KE.row ex33 H.1 (Ds ?_);refine R1 ?_;refine Gn H 3 1 ?_;refine R1 ?_;refine GD (Ae 5 (Ds ?_));refine Ae 3 (Ds ?_);refine AE 3 11 97 5 (Ds ?_);refine A7 8 6 (A7 7 4 ?_);exact W
        ·refine RV ?_;refine Ag 0 1 rfl ?_ ?_
         ·refine RV ?_;refine R1 ?_;refine Gn H 3 6 ?_;refine R1 ?_;refine A6 8 rfl ?_;have ⟨x33,ex33,h⟩:=Bs h;refine GA KE.row ex33 H.1 ?_;refine Gn H 3 1 ?_;refine R1 ?_;refine GD (Ae 5 (Ds ?_));refine Ae 3 (Ds ?_);refine AE 3 11 97 5 (Ds ?_);refine A7 8 6 (A7 7 4 ?_);exact W
         ·refine RV ?_;refine Gn H 3 7 ?_;refine Ag 0 5 rfl ?_ ?_
          ·refine RV ?_;refine R1 ?_;refine A6 8 rfl ?_;have ⟨x33,ex33,h⟩:=Bs h;refine GA KE.row ex33 H.1 ?_;refine Gn H 3 1 ?_;refine R1 ?_;refine GD (Ae 5 (Ds ?_));refine Ae 3 (Ds ?_);refine AE 3 11 97 5 (Ds ?_);refine A7 8 6 (A7 7 4 ?_);exact W
          ·refine RV ?_;have ⟨x33,ex33,h⟩:=Bs h;refine Ag 0 8 rfl ?_ ?_
           ·refine RV ?_;refine A6 8 rfl (GA KE.row ex33 H.1 ?_);refine Gn H 3 1 ?_;refine R1 ?_;refine GD (Ae 5 (Ds ?_));refine Ae 3 (Ds ?_);refine AE 3 11 97 5 (Ds ?_);refine A7 8 6 (A7 7 4 ?_);exact W
           ·refine GA KE.row ex33 H.1 (Ds ?_);refine R1 ?_;refine Gn H 3 1 ?_;refine R1 ?_;refine GD (Ae 5 (Ds ?_));refine Ae 3 (Ds ?_);refine AE 3 11 97 5 (Ds ?_);refine A7 8 6 (A7 7 4 ?_);exact W
       ·refine Vg 1 ?_;refine Ae 5 (Ds ?_);refine Ae 3 (Ds ?_);refine AE 3 11 97 5 ?_;exact W
      ·refine Ai fun all H=>?_;refine Gn H 2 12 ?_;have ⟨x21,ex21,h⟩:=Bs h;refine Ag 0 3 rfl ?_ ?_
       ·refine RV ?_;refine A6 3 rfl (GC H.1 (b9 ex21) ?_);refine Gn H 1 9 ?_;refine BJ 77 h rfl (fun _ h=>?_) fun _ h=>?_
        ·refine Gn H 3 6 ?_;have ⟨x23,ex23,h⟩:=Bs h;refine Ag 7 9 rfl ?_ ?_
         ·refine AT H.1 rfl trivial (GS ex23) (h:=Ds ?_);refine R1 ?_;refine A6 10 rfl ?_;have ⟨x25,ex25,h⟩:=Bs h;refine GA KE.row ex25 H.1 (Ds ?_);refine RQ (LR.slice 8 rfl) h Fy fun x26 ex26 h=>?_;refine Gn H 1 1 ?_;refine RF [3] [0,1,5,2,3,4] 7 9 h CH fun x27 ex27 h=>?_;refine GD ?_;exact W
         ·refine RV ?_;refine A6 7 rfl (AT H.1 rfl trivial (GS ex23) (h:=Ds ?_));refine A6 10 rfl ?_;have ⟨x25,ex25,h⟩:=Bs h;refine GA KE.row ex25 H.1 (Ds ?_);refine RQ (LR.slice 8 rfl) h Fy fun x26 ex26 h=>?_;refine Gn H 1 1 ?_;refine RF [3] [0,1,5,2,3,4] 7 9 h CH fun x27 ex27 h=>?_;refine GD ?_;exact W
        ·refine Ds (GP H 8 1 [13,1] [(78,ux 7 [.ff])] (Ds ?_));refine RF [3] [0,1,5,2,3,4] 7 6 h HM fun x28 ex28 h=>?_;refine GD ?_;exact W
       ·refine GC H.1 (b9 ex21) ?_;refine Gn H 1 10 ?_;refine BJ 77 h rfl (fun _ h=>?_) fun _ h=>?_
        ·refine Gn H 3 7 ?_;have ⟨x23,ex23,h⟩:=Bs h;refine Fj 0 7 9 rfl ?_ ?_ ?_
         ·refine RV ?_;refine Ag 7 9 rfl ?_ ?_
          ·refine AT H.1 rfl trivial (GS ex23) (h:=Ds ?_);refine R1 ?_;refine A6 10 rfl ?_;have ⟨x25,ex25,h⟩:=Bs h;refine GA KE.row ex25 H.1 (Ds ?_);refine RQ (LR.slice 8 rfl) h Fy fun x26 ex26 h=>?_;refine Gn H 1 1 ?_;refine RF [3] [0,1,5,2,3,4] 7 9 h CH fun x27 ex27 h=>?_;refine GD ?_;exact W
          ·refine RV ?_;refine A6 7 rfl (AT H.1 rfl trivial (GS ex23) (h:=Ds ?_));refine A6 10 rfl ?_;have ⟨x25,ex25,h⟩:=Bs h;refine GA KE.row ex25 H.1 (Ds ?_);refine RQ (LR.slice 8 rfl) h Fy fun x26 ex26 h=>?_;refine Gn H 1 1 ?_;refine RF [3] [0,1,5,2,3,4] 7 9 h CH fun x27 ex27 h=>?_;refine GD ?_;exact W
         ·refine AT H.1 rfl trivial (GS ex23) (h:=Ds ?_);refine Ag 0 9 rfl ?_ ?_
          ·refine RV ?_;refine R1 ?_;refine A6 10 rfl ?_;have ⟨x25,ex25,h⟩:=Bs h;refine GA KE.row ex25 H.1 (Ds ?_);refine RQ (LR.slice 8 rfl) h Fy fun x26 ex26 h=>?_;refine Gn H 1 1 ?_;refine RF [3] [0,1,5,2,3,4] 7 9 h CH fun x27 ex27 h=>?_;refine GD ?_;exact W
          ·refine RV ?_;have ⟨x25,ex25,h⟩:=Bs h;refine Ag 0 10 rfl ?_ ?_
           ·refine RV ?_;refine A6 10 rfl (GA KE.row ex25 H.1 (Ds ?_));refine RQ (LR.slice 8 rfl) h Fy fun x27 ex27 h=>?_;refine Gn H 1 1 ?_;refine RF [3] [0,1,5,2,3,4] 7 9 h CH fun x28 ex28 h=>?_;refine GD ?_;exact W
           ·refine GA KE.row ex25 H.1 (Ds ?_);have ⟨x27,ex27,h⟩:=Bs h;refine Ag 0 11 rfl ?_ ?_
            ·refine RV ?_;refine A6 11 rfl (GK H.1 (LR.slice 8 rfl) (Fy ex27) ?_);refine Gn H 1 1 ?_;refine RF [3] [0,1,5,2,3,4] 7 9 h CH fun x29 ex29 h=>?_;refine GD ?_;exact W
            ·refine GK H.1 (LR.slice 8 rfl) (Fy ex27) ?_;refine Gn H 1 2 ?_;refine R1 ?_;refine RF [3] [0,1,5,2,3,4] 7 9 h CH fun x29 ex29 h=>?_;refine GD ?_;exact W
         ·refine RV ?_;refine Ag 0 7 rfl ?_ ?_
          ·refine RV ?_;refine A6 7 rfl (AT H.1 rfl trivial (GS ex23) (h:=Ds ?_));refine A6 10 rfl ?_;have ⟨x25,ex25,h⟩:=Bs h;refine GA KE.row ex25 H.1 (Ds ?_);refine RQ (LR.slice 8 rfl) h Fy fun _ _ h=>?_;refine Gn H 1 1 ?_;refine RF [3] [0,1,5,2,3,4] 7 9 h CH fun x27 ex27 h=>?_;refine GD ?_;exact W
          ·refine AT H.1 rfl trivial (GS ex23) (h:=Ds ?_);have ⟨x25,ex25,h⟩:=Bs h;refine Ag 0 10 rfl ?_ ?_
           ·refine RV ?_;refine A6 10 rfl (GA KE.row ex25 H.1 (Ds ?_));refine RQ (LR.slice 8 rfl) h Fy fun x27 ex27 h=>?_;refine Gn H 1 1 ?_;refine RF [3] [0,1,5,2,3,4] 7 9 h CH fun _ _ h=>?_;refine GD ?_;exact W
           ·refine GA KE.row ex25 H.1 (Ds ?_);have ⟨x27,ex27,h⟩:=Bs h;refine Ag 0 11 rfl ?_ ?_
            ·refine RV ?_;refine A6 11 rfl (GK H.1 (LR.slice 8 rfl) (Fy ex27) ?_);refine Gn H 1 1 ?_;refine RF [3] [0,1,5,2,3,4] 7 9 h CH fun x29 ex29 h=>?_;refine GD ?_;exact W
            ·refine GK H.1 (LR.slice 8 rfl) (Fy ex27) ?_;refine Gn H 1 2 ?_;refine R1 ?_;refine RF [3] [0,1,5,2,3,4] 7 9 h CH fun _ _ h=>?_;refine GD ?_;exact W
        ·refine Ds (GP H 8 2 [0,1,12,1] [(78,ux 7 [.ff])] (Ds ?_));refine R1 ?_;refine RF [3] [0,1,5,2,3,4] 7 6 h HM fun _ _ h=>?_;refine GD ?_;exact W
     ·refine Vg 5 ?_;refine MI h (fun h=>?_) fun h=>?_
      ·refine Vg 1 ?_;refine Vm [1,1,4,1,3,2] (fun s=>([(110,.bv s.1)],[(3,12,.iv s.2)],[(0,none),(1,none)],[])) (JI x1 x2 x9 x10 x11 x12 x13 x14 x16) r ?_ fun J6=>?_
       ·rintro ⟨x41,x42⟩ h;rw [JI] at h;refine MI h (fun h=>?_) fun h=>?_
        ·refine Vg 1 ?_;refine Ai fun all H=>?_;refine Gn H 1 10 ?_;refine R1 ?_;refine Gn H 5 4 ?_;refine R1 ?_;have ⟨x43,ex43,h⟩:=Bs h;refine RO ?_;refine RI ?_;refine Gn H 1 1 ?_;refine Bd [.iv 0] (SX.mk x43.PE x43.EP 0 x43.FK x43.DY x43.TO x43.BO x43.Ask) ?_;refine GD (Vg 1 ?_);refine Ae 3 (Ds ?_);refine Ai fun all H=>Ds ?_;refine GN H 1 11 (Ds ?_);refine An (Ag 0 1 rfl ?_ ?_)
         ·refine RV ?_;refine R1 ?_;refine Gn H 4 5 ?_;refine RB h bf fun x44 ex44 h=>?_;refine Gn H 3 1 ?_;refine R1 ?_;refine GD (Vg 3 ?_);refine VR [3] [0,1,5,2,4] 6 6 h eo fun _ _ h=>?_;refine Vg 1 ?_;refine Ae 5 (Ds ?_);refine A7 7 6 ?_;exact W
         ·refine RV ?_;refine Gn H 4 6 ?_;have ⟨x44,ex44,h⟩:=Bs h;refine Ag 0 7 rfl ?_ ?_
          ·refine RV ?_;refine A6 7 rfl (GC H.1 (bf ex44) ?_);refine Gn H 3 1 ?_;refine R1 ?_;refine GD (Vg 3 ?_);refine VR [3] [0,1,5,2,4] 6 6 h eo fun x46 ex46 h=>?_;refine Vg 1 ?_;refine Ae 5 (Ds ?_);refine A7 7 6 ?_;exact W
          ·refine GC H.1 (bf ex44) (Ds ?_);refine R1 ?_;refine Gn H 3 1 ?_;refine R1 ?_;refine GD (Vg 3 ?_);refine VR [3] [0,1,5,2,4] 6 6 h eo fun _ _ h=>?_;refine Vg 1 ?_;refine Ae 5 (Ds ?_);refine A7 7 6 ?_;exact W
        ·refine Vg 1 ?_;refine Ae 5 (Ds ?_);refine Ae 3 (Ds ?_);refine AE 3 11 97 5 ?_;exact W
       ·refine Ai fun all H=>?_;refine Gn H 1 9 ?_;have ⟨x35,ex35,h⟩:=Bs h;refine Ag 0 2 rfl ?_ ?_
        ·refine RV ?_;refine A6 2 rfl (IX H.1 rfl trivial ((((((((((LR.slice 0 rfl).slice 1 rfl).slice 2 rfl).slice 3 rfl).slice 4 rfl).slice 5 rfl).block 1 rfl rfl).block 3 rfl rfl).block 4 rfl rfl).block 5 rfl rfl) rfl (Mp ex35) (by kernel_rfl) (h:=Ds ?_));refine Gn H 1 6 ?_;refine BJ 104 h rfl (fun _ h=>?_) fun _ h=>?_
         ·refine Gn H 3 3 ?_;refine RB h Gq fun x37 ex37 h=>?_;refine Gn H 1 1 ?_;refine RF [3] [0,1,5,2,3,4] 6 6 h CH fun _ _ h=>?_;refine GD ?_;exact W
         ·refine Gn H 5 1 ?_;refine RF [3] [0,1,5,2,3,4] 6 6 h HM fun x39 ex39 h=>?_;refine GD ?_;exact W
        ·refine IX H.1 rfl trivial ((((((((((LR.slice 0 rfl).slice 1 rfl).slice 2 rfl).slice 3 rfl).slice 4 rfl).slice 5 rfl).block 1 rfl rfl).block 3 rfl rfl).block 4 rfl rfl).block 5 rfl rfl) rfl (Mp ex35) (by kernel_rfl) (h:=?_);refine Gn H 1 7 ?_;refine BJ 104 h rfl (fun _ h=>?_) fun _ h=>?_
         ·refine Gn H 3 4 ?_;have ⟨x37,ex37,h⟩:=Bs h;refine Ag 0 7 rfl ?_ ?_
          ·refine RV ?_;refine A6 7 rfl (GC H.1 (Gq ex37) ?_);refine Gn H 1 1 ?_;refine RF [3] [0,1,5,2,3,4] 6 6 h CH fun x39 ex39 h=>?_;refine GD ?_;exact W
          ·refine GC H.1 (Gq ex37) ?_;refine Gn H 1 2 ?_;refine R1 ?_;refine RF [3] [0,1,5,2,3,4] 6 6 h CH fun _ _ h=>?_;refine GD ?_;exact W
         ·refine Gn H 5 2 ?_;refine R1 ?_;refine RF [3] [0,1,5,2,3,4] 6 6 h HM fun _ _ h=>?_;refine GD ?_;exact W
      ·refine Vg 5 ?_;refine MI h (fun h=>?_) fun h=>?_
       ·refine Vg 1 ?_;refine Vl [1,1,4,1,3,1] (fun s=>([(148,.bv s.1)],[none,none,some ⟨48,[.iv 0,.iv 0,.nl,.iv 0,.nl,.iv 0,.nl,.nl,.nl,.nl]⟩,some ⟨173,[.iv x1.DK.DI.ID,.iv x1.DK.DI.PH,.osl 0,.iv x1.DK.TH,.osl 1,.iv x1.BK.LA,.osl 5,.osl 2,.osl 3,.osl 4,.nl,.nl,.iv s.2]⟩,some ⟨171,[.ptr 3 0]⟩],[Ac x9,A5 x10,A9 x11,A5 x12,A9 x13,AX x14])) (JJ x1 x2 x9 x10 x11 x12 x13 x14) r ?_ fun J7=>?_
        ·rintro ⟨x51,x52⟩ h;rw [JJ] at h;refine MI h (fun h=>?_) fun h=>?_
         ·refine Vg 3 ?_;refine VR [3] [0,1,5,2,3,4] 5 6 h nW fun _ _ h=>?_;refine Vg 1 ?_;refine Ae 3 (Ds ?_);refine A7 7 6 (A7 8 0 (Ds ?_));refine A7 9 1 ?_;exact W
         ·refine Vg 1 ?_;refine Ae 5 (Ds ?_);refine Ae 3 (Ds ?_);refine AE 3 11 97 5 ?_;exact W
        ·refine Ai fun all H=>?_;refine Gn H 1 11 ?_;have ⟨x47,ex47,h⟩:=Bs h;refine Ag 0 2 rfl ?_ ?_
         ·refine RV ?_;refine A6 2 rfl (IX H.1 rfl trivial ((((((((((LR.slice 0 rfl).slice 1 rfl).slice 2 rfl).slice 3 rfl).slice 4 rfl).slice 5 rfl).block 1 rfl rfl).block 3 rfl rfl).block 4 rfl rfl).block 5 rfl rfl) rfl (Mp ex47) (by kernel_rfl) (h:=Ds ?_));refine Gn H 1 8 ?_;refine BJ 140 h rfl (fun _ h=>?_) fun _ h=>?_
          ·refine Ds (GP H 7 1 [11,1] [(141,[.iv x2,.ptr 0 0,.ptr 0 0,.ptr 0 0,.iv x1.DK.DI.ID,.bv (decide (x2<x1.DK.DI.ID)),.bv (decide (x2<x1.DK.DI.ID))])] (Ds ?_));refine RF [3] [0,1,5,2,3,4] 6 6 h CH fun x49 ex49 h=>?_;refine GD ?_;exact W
          ·refine Ds (GP H 7 1 [11,1] [(141,ux 6 [.ff])] (Ds ?_));refine RF [3] [0,1,5,2,3,4] 6 6 h HM fun x50 ex50 h=>?_;refine GD ?_;exact W
         ·refine IX H.1 rfl trivial ((((((((((LR.slice 0 rfl).slice 1 rfl).slice 2 rfl).slice 3 rfl).slice 4 rfl).slice 5 rfl).block 1 rfl rfl).block 3 rfl rfl).block 4 rfl rfl).block 5 rfl rfl) rfl (Mp ex47) (by kernel_rfl) (h:=?_);refine Gn H 1 9 ?_;refine BJ 140 h rfl (fun _ h=>?_) fun _ h=>?_
          ·refine Ds (GP H 7 2 [0,1,10,1] [(141,[.iv x2,.ptr 0 0,.ptr 0 0,.ptr 0 0,.iv x1.DK.DI.ID,.bv (decide (x2<x1.DK.DI.ID)),.bv (decide (x2<x1.DK.DI.ID))])] (Ds ?_));refine R1 ?_;refine RF [3] [0,1,5,2,3,4] 6 6 h CH fun _ _ h=>?_;refine GD ?_;exact W
          ·refine Ds (GP H 7 2 [0,1,10,1] [(141,ux 6 [.ff])] (Ds ?_));refine R1 ?_;refine RF [3] [0,1,5,2,3,4] 6 6 h HM fun _ _ h=>?_;refine GD ?_;exact W
       ·refine Vg 5 ?_;refine MI h (fun h=>?_) fun h=>?_
        ·refine Vg 1 ?_;refine Ai fun all H=>?_;refine Gn H 1 3 ?_;have ⟨x54,ex54,h⟩:=Bs h;refine Ag 0 2 rfl ?_ ?_
         ·refine RV ?_;refine A6 2 rfl (IX H.1 rfl trivial ((((((((((LR.slice 0 rfl).slice 1 rfl).slice 2 rfl).slice 3 rfl).slice 4 rfl).slice 5 rfl).block 1 rfl rfl).block 3 rfl rfl).block 4 rfl rfl).block 5 rfl rfl) rfl (Mp ex54) (by kernel_rfl) (h:=Ds ?_));refine RF [3] [0,1,5,2,3,4] 6 6 h CH fun x56 ex56 h=>?_;refine GD (MI h (fun h=>?_) fun h=>?_)
          ·refine Vg 4 ?_;refine VR [3] [0,1,5,2,3,4] 6 6 h nS fun x57 ex57 h=>?_;refine Vg 4 ?_;refine VR [3] [6,1,5,2,3,4] 6 7 h en fun x58 ex58 h=>?_;refine Vg 1 ?_;refine Ae 5 (Ds ?_);refine Ae 3 (Ds ?_);refine As 66 8 (Ds ?_);refine A7 6 9 (Ds ?_);refine A7 8 6 (A7 9 0 ?_);exact W
          ·refine Vg 1 ?_;refine Ae 5 (Ds ?_);refine Ae 3 (Ds ?_);refine AE 3 11 97 5 ?_;exact W
         ·refine IX H.1 rfl trivial ((((((((((LR.slice 0 rfl).slice 1 rfl).slice 2 rfl).slice 3 rfl).slice 4 rfl).slice 5 rfl).block 1 rfl rfl).block 3 rfl rfl).block 4 rfl rfl).block 5 rfl rfl) rfl (Mp ex54) (by kernel_rfl) (h:=Ds ?_);refine R1 ?_;refine RF [3] [0,1,5,2,3,4] 6 6 h CH fun _ _ h=>?_;refine GD (MI h (fun h=>?_) fun h=>?_)
          ·refine Vg 4 ?_;refine VR [3] [0,1,5,2,3,4] 6 6 h nS fun _ _ h=>?_;refine Vg 4 ?_;refine VR [3] [6,1,5,2,3,4] 6 7 h en fun _ _ h=>?_;refine Vg 1 ?_;refine Ae 5 (Ds ?_);refine Ae 3 (Ds ?_);refine As 66 8 (Ds ?_);refine A7 6 9 (Ds ?_);refine A7 8 6 (A7 9 0 ?_);exact W
          ·refine Vg 1 ?_;refine Ae 5 (Ds ?_);refine Ae 3 (Ds ?_);refine AE 3 11 97 5 ?_;exact W
        ·refine Vg 2 ?_;refine VR [3] [0,1,5,2,3,4] 6 6 h HM fun _ _ h=>?_;refine Vg 1 ?_;refine Ae 5 (Ds ?_);refine Ae 3 (Ds ?_);refine AE 3 11 97 5 ?_;exact W
  ·exact W
 ·refine Ai fun all H=>?_;refine Gn H 2 6 ?_;have ⟨x4,ex4,h⟩:=Bs h;refine Ag 1 6 rfl ?_ ?_
  ·refine Gi H.1 [] [] 3 0 (eu ex4) (Ds ?_);have ⟨x6,ex6,h⟩:=Bs h;refine Ag 3 6 rfl ?_ ?_
   ·refine GC H.1 (Mo ex6) ?_;refine Gn H 1 3 ?_;refine Ag 5 6 rfl ?_ ?_
    ·refine RV ?_;refine R1 ?_;refine R1 ?_;refine GD ?_;exact W
    ·refine RV ?_;refine R1 ?_;refine R1 ?_;refine GD (ZE 3 4 rfl rfl ?_);exact W
   ·refine RV ?_;refine A6 3 rfl (GC H.1 (Mo ex6) ?_);refine Gn H 1 2 ?_;refine R1 ?_;refine R1 ?_;refine GD (ZE 3 4 rfl rfl ?_);exact W
  ·refine RV ?_;refine A6 1 rfl (Gi H.1 [] [] 4 0 (eu ex4) (Ds ?_));refine RB h Mo fun _ _ h=>?_;refine Gn H 1 2 ?_;refine R1 ?_;refine R1 ?_;refine GD (ZE 3 4 rfl rfl ?_);exact W
def VY (x1:NO) (x2:Do):Option (NO×List ML×List EV×Int):=
 (JF x1 x2).bind fun x3=>
 some (x3.1,x3.2.1,x3.2.2.1,x3.2.2.2)
theorem iA {x1 x2 r} (h:VY x1 x2=some r):FPx 45 [.agg (NO.row x1),.elt (Do.row x2) 0] (.tup [.agg (NO.row r.1),Cb r.2.1,Cz r.2.2.1,.iv r.2.2.2]):=by have ok:=oJ 45 Tryz.f45 [.c 3 (some 10),.t 4,.t 5,.t 6] 2 12;refine FP ok fun w0 H0=>?_;rw [VY] at h;refine Vg 12 ?_;refine VB h vl fun _ _ h=>?_;exact W
def W5 (x1:NO) (x2:Int) (x3:Msg):Option (NO×List ML×List EV×Int):=
 (Im x1 x2 x3).bind fun x4=>
 some (x4.1,x4.2.1,x4.2.2.1,x4.2.2.2)
theorem iB {x1 x2 x3 r} (h:W5 x1 x2 x3=some r):FPx 78 [.agg (NO.row x1),.elt (Ad x2) 0,.elt (Msg.row x3) 0] (.tup [.agg (NO.row r.1),Cb r.2.1,Cz r.2.2.1,.iv r.2.2.2]):=by have ok:=oJ 78 Tryz.f78 [.c 4 (some 10),.t 5,.t 6,.t 7] 3 13;refine FP ok fun w0 H0=>?_;rw [W5] at h;refine Vg 13 ?_;refine VB h vm fun _ _ h=>?_;exact W
def Wc (x2:Int) (x9:List EV) (x11:NO):(List NO×List ML)→Option (List EV×Int×List NO×List ML)
| (x16,x17)=>
 (A4 x16 x2).bind fun _=>
 some (x9,0,x16.set (Int.toNat (x2)) x11,x17)
def Wa (x1:HL) (x2:Int) (x3:List ML):(List ML×List EV×Int×NO)→Option (List EV×Int×List NO×List ML)
| (x8,x9,x10,x11)=>
 A0 (!decide (x10=0)) (
 some (([]:List EV),x10,([]:List NO),([]:List ML))) (
 (Ll x1.NS).bind fun x12=>
 (Lm ([x3,x8])).bind fun x14=>
 (Wc x2 x9 x11) (x12,x14))
def W9 (x1:HL) (x2:Int) (x3:List ML) (x4:Do):Option (List EV×Int×List NO×List ML):=
 (A4 x1.NS x2).bind fun x5=>
 (VY x5 x4).bind fun x6=>
 (Wa x1 x2 x3) (x6.2.1,x6.2.2.1,x6.2.2.2,x6.1)
theorem Z1n {x1 x2 x3 x4 r} (h:W9 x1 x2 x3 x4=some r):FTx 43 [.agg (HL.row x1),.agg [.iv x2,Cb x3,.clo 45 [.ptr 0 0]]] [some ⟨62,Do.row x4⟩] [] (.tup [.agg [.osl 0,.osl 1],Cz r.1,.iv r.2.1]) [none] [EW r.2.2.1,Az r.2.2.2]:=by
 refine Ft Yx fun w0 M0=>?_;have ok:=Yx;rw [W9] at h;refine Vg 9 ?_;refine H3 0 rfl rfl (Ds ?_);refine Vl [2,3] (fun s=>([(7,.ptr 4 0),(8,Cb s.1),(9,Cz s.2.1),(10,.iv s.2.2.1)],[none,some ⟨31,HL.row x1⟩,some ⟨120,[.iv x2,Cb x3,.clo 45 [.elt (Do.row x4) 0]]⟩,some ⟨31,[.nl,.nl]⟩,some ⟨48,[.iv s.2.2.2.DK.DI.ID,.iv s.2.2.2.DK.DI.PH,CU s.2.2.2.DK.DI.SD,.iv s.2.2.2.DK.TH,Ab s.2.2.2.DK.NE,.iv s.2.2.2.BK.LA,Av s.2.2.2.BK.SE,Bb s.2.2.2.KN,Ab s.2.2.2.TL,Bb s.2.2.2.AK]⟩],[])) (Wa x1 x2 x3) r ?_ fun J1=>?_
 ·rintro ⟨x8,x9,x10,x11⟩ h;rw [Wa] at h;refine Vg 6 ?_;refine MI h (fun h=>?_) fun h=>?_
  ·refine Vg 8 ?_;refine AE 3 0 48 10 (Ds ?_);refine AE 3 1 113 5 ?_;exact W
  ·refine Vg 2 ?_;refine Vl [3,2,2,1,1,1] (fun s=>([(11,.ptr 5 0)],[none,none,some ⟨120,[.iv x2,Cb x3,.clo 45 [.elt (Do.row x4) 0]]⟩,some ⟨31,[.nl,.nl]⟩,some ⟨48,NO.row x11⟩,some ⟨31,[.osl 0,.osl 2]⟩],[EW s.1,none,Az s.2])) (Wc x2 x9 x11) r ?_ fun J2=>?_
   ·rintro ⟨x16,x17⟩ h;rw [Wc] at h;refine Vg 7 ?_;have ⟨x18,ex18,h⟩:=Bs h;refine BR NO.row ex18 trivial rfl rfl rfl (Dz (NO.row x11) NO.row (y':=x11) ex18 trivial rfl rfl rfl (by first | exact Am _ | simp [go_sem]) rfl rfl rfl rfl (Vg 9 ?_));refine A7 2 1 ?_;exact W
   ·refine Ai fun all H=>?_;refine Gn H 5 6 ?_;have ⟨x12,ex12,h⟩:=Bs h;refine Fj 2 6 9 rfl ?_ ?_ ?_
    ·refine AT H.1 rfl trivial (FC ex12) (h:=Ds ?_);refine Ag 6 9 rfl ?_ ?_
     ·refine FR H.1 rfl trivial rfl trivial (Ds ?_);have ⟨x14,ex14,h⟩:=Bs h;refine Ag 7 9 rfl ?_ ?_
      ·refine AT H.1 rfl trivial (E7 ex14) (h:=?_);refine Gn H 1 2 ?_;refine R1 ?_;refine R1 ?_;refine GD ?_;exact W
      ·refine RV ?_;refine A6 7 rfl (AT H.1 rfl trivial (E7 ex14) (h:=?_));refine Gn H 1 1 ?_;refine R1 ?_;refine GD ?_;exact W
     ·refine RV ?_;refine A6 6 rfl (FR H.1 rfl trivial rfl trivial (Ds ?_));refine A6 7 rfl ?_;have ⟨x14,ex14,h⟩:=Bs h;refine AT H.1 rfl trivial (E7 ex14) (h:=?_);refine Gn H 1 1 ?_;refine R1 ?_;refine GD ?_;exact W
    ·refine FR H.1 rfl trivial rfl trivial (Ds ?_);refine Ag 2 9 rfl ?_ ?_
     ·refine AT H.1 rfl trivial (FC ex12) (h:=Ds ?_);have ⟨x14,ex14,h⟩:=Bs h;refine Ag 7 9 rfl ?_ ?_
      ·refine AT H.1 rfl trivial (E7 ex14) (h:=?_);refine Gn H 1 2 ?_;refine R1 ?_;refine R1 ?_;refine GD (A7 1 0 ?_);exact W
      ·refine RV ?_;refine A6 7 rfl (AT H.1 rfl trivial (E7 ex14) (h:=?_));refine Gn H 1 1 ?_;refine R1 ?_;refine GD (A7 1 0 ?_);exact W
     ·refine RV ?_;refine A6 2 rfl (AT H.1 rfl trivial (FC ex12) (h:=Ds ?_));refine A6 7 rfl ?_;have ⟨x14,ex14,h⟩:=Bs h;refine AT H.1 rfl trivial (E7 ex14) (h:=?_);refine Gn H 1 1 ?_;refine R1 ?_;refine GD (A7 1 0 ?_);exact W
    ·refine RV ?_;refine Ag 2 6 rfl ?_ ?_
     ·refine AT H.1 rfl trivial (FC ex12) (h:=Ds ?_);refine A6 6 rfl (FR H.1 rfl trivial rfl trivial (Ds ?_));refine A6 7 rfl ?_;have ⟨x14,ex14,h⟩:=Bs h;refine AT H.1 rfl trivial (E7 ex14) (h:=?_);refine Gn H 1 1 ?_;refine R1 ?_;refine GD ?_;exact W
     ·refine FR H.1 rfl trivial rfl trivial (Ds ?_);refine A6 2 rfl (AT H.1 rfl trivial (FC ex12) (h:=Ds ?_));refine A6 7 rfl ?_;have ⟨x14,ex14,h⟩:=Bs h;refine AT H.1 rfl trivial (E7 ex14) (h:=?_);refine Gn H 1 1 ?_;refine R1 ?_;refine GD (A7 1 0 ?_);exact W
 ·refine Ai fun all H=>Ds (GP H 6 13 [6,13] [(13,[.ptr 2 2,.clo 45 [.elt (Do.row x4) 0],.ptr 1 0,IY x1.NS,.ptr 2 0,.iv x2])] (Ds ?_));have ⟨x5,ex5,h⟩:=Bs h;refine Gj H.1 H.2.1 H.2.2.1 H.2.2.2 6 NO.row ex5 rfl rfl trivial rfl rfl rfl rfl (Gn H 1 11 ?_);have ⟨x6,ex6,h⟩:=Bs h;refine Ag 8 14 rfl ?_ ?_
  ·refine Uv H.1 rfl trivial rfl (iA ex6) (by kernel_rfl) (h:=Ds ?_);refine GP H 5 5 [14,5] [(12,[.tup [.agg (NO.row x6.1),Cb x6.2.1,Cz x6.2.2.1,.iv x6.2.2.2]]),(9,[.agg (NO.row x6.1),Cb x6.2.1,Cz x6.2.2.1,.iv x6.2.2.2])] (Ds ?_);refine R1 ?_;refine R1 ?_;refine Gn H 3 0 ?_;refine GD ?_;exact W
  ·refine RV ?_;refine A6 8 rfl (Uv H.1 rfl trivial rfl (iA ex6) (by kernel_rfl) (h:=Ds ?_));refine GP H 5 4 [15,4] [(12,[.tup [.agg (NO.row x6.1),Cb x6.2.1,Cz x6.2.2.1,.iv x6.2.2.2]]),(9,[.agg (NO.row x6.1),Cb x6.2.1,Cz x6.2.2.1,.iv x6.2.2.2])] (Ds ?_);refine R1 ?_;refine Gn H 3 0 ?_;refine GD ?_;exact W
def Wh (x2:Int) (x10:List EV) (x12:NO):(List NO×List ML)→Option (List EV×Int×List NO×List ML)
| (x17,x18)=>
 (A4 x17 x2).bind fun _=>
 some (x10,0,x17.set (Int.toNat (x2)) x12,x18)
def Wg (x1:HL) (x2:Int) (x5:List ML):(List ML×List EV×Int×NO)→Option (List EV×Int×List NO×List ML)
| (x9,x10,x11,x12)=>
 A0 (!decide (x11=0)) (
 some (([]:List EV),x11,([]:List NO),([]:List ML))) (
 (Ll x1.NS).bind fun x13=>
 (Lm ([x5,x9])).bind fun x15=>
 (Wh x2 x10 x12) (x13,x15))
def Wf (x1:HL) (x2:Int) (x3:Int) (x4:Msg) (x5:List ML):Option (List EV×Int×List NO×List ML):=
 (A4 x1.NS x2).bind fun x6=>
 (W5 x6 x3 x4).bind fun x7=>
 (Wg x1 x2 x5) (x7.2.1,x7.2.2.1,x7.2.2.2,x7.1)
theorem nR {x1 x2 x3 x4 x5 r} (h:Wf x1 x2 x3 x4 x5=some r):FTx 43 [.agg (HL.row x1),.agg [.iv x2,.osl 0,.clo 78 [.ptr 0 0,.ptr 1 0]]] [some ⟨3,[.iv x3]⟩,some ⟨111,Msg.row x4⟩] [Az x5] (.tup [.agg [.osl 1,.osl 2],Cz r.1,.iv r.2.1]) [none,none] [none,EW r.2.2.1,Az r.2.2.2]:=by
 refine Ft Yx fun w0 M0=>?_;have ok:=Yx;rw [Wf] at h;refine Vg 9 ?_;refine H3 0 rfl rfl (Ds ?_);refine H3 1 rfl rfl (Ds ?_);refine Vl [2,3] (fun s=>([(7,.ptr 5 0),(8,Cb s.1),(9,Cz s.2.1),(10,.iv s.2.2.1)],[none,none,some ⟨31,HL.row x1⟩,some ⟨120,[.iv x2,.osl 0,.clo 78 [.elt [.iv x3] 0,.elt (Msg.row x4) 0]]⟩,some ⟨31,[.nl,.nl]⟩,some ⟨48,[.iv s.2.2.2.DK.DI.ID,.iv s.2.2.2.DK.DI.PH,CU s.2.2.2.DK.DI.SD,.iv s.2.2.2.DK.TH,Ab s.2.2.2.DK.NE,.iv s.2.2.2.BK.LA,Av s.2.2.2.BK.SE,Bb s.2.2.2.KN,Ab s.2.2.2.TL,Bb s.2.2.2.AK]⟩],[Az x5])) (Wg x1 x2 x5) r ?_ fun J1=>?_
 ·rintro ⟨x9,x10,x11,x12⟩ h;rw [Wg] at h;refine Vg 6 ?_;refine MI h (fun h=>?_) fun h=>?_
  ·refine Vg 8 ?_;refine AE 4 0 48 10 (Ds ?_);refine AE 4 1 113 5 ?_;exact W
  ·refine Vg 2 ?_;refine Ae 0 (Ds ?_);refine Vl [3,2,2,1,1,1] (fun s=>([(11,.ptr 6 0)],[none,none,none,some ⟨120,[.iv x2,Cb x5,.clo 78 [.elt [.iv x3] 0,.elt (Msg.row x4) 0]]⟩,some ⟨31,[.nl,.nl]⟩,some ⟨48,NO.row x12⟩,some ⟨31,[.osl 1,.osl 3]⟩],[none,EW s.1,none,Az s.2])) (Wh x2 x10 x12) r ?_ fun J2=>?_
   ·rintro ⟨x17,x18⟩ h;rw [Wh] at h;refine Vg 7 ?_;have ⟨x19,ex19,h⟩:=Bs h;refine BR NO.row ex19 trivial rfl rfl rfl (Dz (NO.row x12) NO.row (y':=x12) ex19 trivial rfl rfl rfl (by first | exact Am _ | simp [go_sem]) rfl rfl rfl rfl (Vg 9 ?_));refine A7 3 2 ?_;exact W
   ·refine Ai fun all H=>?_;refine Gn H 5 6 ?_;have ⟨x13,ex13,h⟩:=Bs h;refine Fj 2 6 9 rfl ?_ ?_ ?_
    ·refine AT H.1 rfl trivial (FC ex13) (h:=Ds ?_);refine Ag 6 9 rfl ?_ ?_
     ·refine FR H.1 rfl trivial rfl trivial (Ds ?_);have ⟨x15,ex15,h⟩:=Bs h;refine Ag 7 9 rfl ?_ ?_
      ·refine AT H.1 rfl trivial (E7 ex15) (h:=?_);refine Gn H 1 2 ?_;refine R1 ?_;refine R1 ?_;refine GD ?_;exact W
      ·refine RV ?_;refine A6 7 rfl (AT H.1 rfl trivial (E7 ex15) (h:=?_));refine Gn H 1 1 ?_;refine R1 ?_;refine GD ?_;exact W
     ·refine RV ?_;refine A6 6 rfl (FR H.1 rfl trivial rfl trivial (Ds ?_));refine A6 7 rfl ?_;have ⟨x15,ex15,h⟩:=Bs h;refine AT H.1 rfl trivial (E7 ex15) (h:=?_);refine Gn H 1 1 ?_;refine R1 ?_;refine GD ?_;exact W
    ·refine FR H.1 rfl trivial rfl trivial (Ds ?_);refine Ag 2 9 rfl ?_ ?_
     ·refine AT H.1 rfl trivial (FC ex13) (h:=Ds ?_);have ⟨x15,ex15,h⟩:=Bs h;refine Ag 7 9 rfl ?_ ?_
      ·refine AT H.1 rfl trivial (E7 ex15) (h:=?_);refine Gn H 1 2 ?_;refine R1 ?_;refine R1 ?_;refine GD (A7 2 1 ?_);exact W
      ·refine RV ?_;refine A6 7 rfl (AT H.1 rfl trivial (E7 ex15) (h:=?_));refine Gn H 1 1 ?_;refine R1 ?_;refine GD (A7 2 1 ?_);exact W
     ·refine RV ?_;refine A6 2 rfl (AT H.1 rfl trivial (FC ex13) (h:=Ds ?_));refine A6 7 rfl ?_;have ⟨x15,ex15,h⟩:=Bs h;refine AT H.1 rfl trivial (E7 ex15) (h:=?_);refine Gn H 1 1 ?_;refine R1 ?_;refine GD (A7 2 1 ?_);exact W
    ·refine RV ?_;refine Ag 2 6 rfl ?_ ?_
     ·refine AT H.1 rfl trivial (FC ex13) (h:=Ds ?_);refine A6 6 rfl (FR H.1 rfl trivial rfl trivial (Ds ?_));refine A6 7 rfl ?_;have ⟨x15,ex15,h⟩:=Bs h;refine AT H.1 rfl trivial (E7 ex15) (h:=?_);refine Gn H 1 1 ?_;refine R1 ?_;refine GD ?_;exact W
     ·refine FR H.1 rfl trivial rfl trivial (Ds ?_);refine A6 2 rfl (AT H.1 rfl trivial (FC ex13) (h:=Ds ?_));refine A6 7 rfl ?_;have ⟨x15,ex15,h⟩:=Bs h;refine AT H.1 rfl trivial (E7 ex15) (h:=?_);refine Gn H 1 1 ?_;refine R1 ?_;refine GD (A7 2 1 ?_);exact W
 ·refine Ai fun all H=>Ds (GP H 6 13 [6,13] [(13,[.ptr 3 2,.clo 78 [.elt [.iv x3] 0,.elt (Msg.row x4) 0],.ptr 2 0,IY x1.NS,.ptr 3 0,.iv x2])] (Ds ?_));have ⟨x6,ex6,h⟩:=Bs h;refine Gj H.1 H.2.1 H.2.2.1 H.2.2.2 6 NO.row ex6 rfl rfl trivial rfl rfl rfl rfl (Gn H 1 11 ?_);have ⟨x7,ex7,h⟩:=Bs h;refine Ag 8 14 rfl ?_ ?_
  ·refine Uv H.1 rfl trivial rfl (iB ex7) (by kernel_rfl) (h:=Ds ?_);refine GP H 5 5 [14,5] [(12,[.tup [.agg (NO.row x7.1),Cb x7.2.1,Cz x7.2.2.1,.iv x7.2.2.2]]),(9,[.agg (NO.row x7.1),Cb x7.2.1,Cz x7.2.2.1,.iv x7.2.2.2])] (Ds ?_);refine R1 ?_;refine R1 ?_;refine Gn H 3 0 ?_;refine GD ?_;exact W
  ·refine RV ?_;refine A6 8 rfl (Uv H.1 rfl trivial rfl (iB ex7) (by kernel_rfl) (h:=Ds ?_));refine GP H 5 4 [15,4] [(12,[.tup [.agg (NO.row x7.1),Cb x7.2.1,Cz x7.2.2.1,.iv x7.2.2.2]]),(9,[.agg (NO.row x7.1),Cb x7.2.1,Cz x7.2.2.1,.iv x7.2.2.2])] (Ds ?_);refine R1 ?_;refine Gn H 3 0 ?_;refine GD ?_;exact W
def KL (x1:HL) (x2:Int) (x3:Do):Bool→Option (HL×List EV×Int)
| x7=>
 A0 x7 (
 some ((HL.mk (([]:List NO)) (([]:List ML))),([]:List EV),191)) (
 (Nh x1).bind fun x8=>
 (W9 x8 x2 x1.ML x3).bind fun x9=>
 some ((HL.mk x9.2.2.1 x9.2.2.2),x9.1,x9.2.1))
def Ho (x1:HL) (x2:Int) (x3:Do):Option (HL×List EV×Int):=
 (Ii x1).bind fun x4=>
 A0 (!decide (x4=0)) (
 some ((HL.mk (([]:List NO)) (([]:List ML))),([]:List EV),x4)) (
 (Hp x1 x2).bind fun x5=>
 A0 (!x5) (
 (KL x1 x2 x3) true) (
 A0 (decide (x3.KI=4)) (
 (Hp x1 x3.PE).bind fun x6=>
 (KL x1 x2 x3) (!x6)) (
 (KL x1 x2 x3) false)))
theorem iz {x1 x2 x3 r} (h:Ho x1 x2 x3=some r):FPx 16 [.agg (HL.row x1),.iv x2,.agg (Do.row x3)] (.tup [.agg (HL.row r.1),Cz r.2.1,.iv r.2.2]):=by
 have ok:=oJ 16 Tryz.f16 [.c 6 (some 2),.t 7,.t 8] 3 41;refine FP ok fun w0 H0=>?_;rw [Ho] at h;refine Vg 12 ?_;refine VB h Va fun _ _ h=>?_;refine Vg 7 ?_;refine MI h (fun h=>W) fun h=>?_;refine Vg 6 ?_;refine VB h Mj fun _ _ h=>?_;refine Vg 2 ?_;refine Vk [1,1,1,1,1,2] (fun x7=>[(31,.bv x7)]) (KL x1 x2 x3) r ?_ fun J1=>?_
 ·intro x7 h;rw [KL] at h;refine MI h (fun h=>W) fun h=>?_;refine Vg 2 ?_;refine Ai fun all H=>Ds (GP H 6 8 [1,1,5,7] [(33,[.agg (HL.row x1)]),(1,[.iv x2,.ptr 0 1,Cb x1.ML,.clo 45 [.ptr 1 0],.agg [.iv x2,Cb x1.ML,.clo 45 [.ptr 1 0]]])] (Ds ?_));refine RB h aW fun _ _ h=>?_;refine RF [1] [] 3 0 h Z1n fun _ _ h=>?_;refine Gn H 3 3 ?_;refine R1 ?_;refine Gn H 2 0 ?_;refine GD (Ae 0 (Ds ?_));refine Ae 1 ?_;exact W
 ·refine MC 20 h (fun h=>W) fun h=>?_;refine Vg 4 ?_;refine MC 24 h (fun h=>?_) fun h=>W;refine Vg 3 ?_;refine VB h Mj fun _ _ h=>?_;exact W
end
end NX
end Go.Proofs.YtjemlejoladlcaaGreat
