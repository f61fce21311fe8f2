/-
  The function narthex/node.Get: its code compiled, a model, and that the code answers as the model. Written by a program of ours (lb.py). No statement of the seat is proved here.
-/
import Derived.Test.YtgnjledocpbchaaGreatM10
set_option maxRecDepth 100000
set_option maxHeartbeats 40000000
namespace Go.Proofs.YtgnjledocpbchaaGreat
namespace NX
open Go
noncomputable section
def Ec (x11:List KE):(Int×Int×Int×Int×List SE×List Int×Int×List SX×List Int×List KE×List EV)→Option (NO×List ML×List EV×Int)
| (x60,x61,x62,x63,x64,x65,x66,x67,x68,x69,x70)=>
 (JM x60 x61 x62 x63 x64 x65 x66 x67 x68 x11 x69 x70).bind fun x71=>
 some ((NO.mk (DK.mk (DI.mk x71.1 x71.2.1 x71.2.2.2.2.2.2.2.1) x71.2.2.1 x71.2.2.2.2.2.2.2.2.1) (BK.mk x71.2.2.2.1 x71.2.2.2.2.1) x71.2.2.2.2.2.2.2.2.2.1 x71.2.2.2.2.2.1 x71.2.2.2.2.2.2.2.2.2.2.1),x71.2.2.2.2.2.2.2.2.2.2.2.1,x71.2.2.2.2.2.2.2.2.2.2.2.2,x71.2.2.2.2.2.2.1)
def Iq (x1:NO) (x2:Int) (x3:Msg) (x9:List SX) (x10:List Int) (x11:List KE) (x12:List Int) (x13:List KE) (x14:List SE) (x15:(Bool×Int)):Bool→Option (NO×List ML×List EV×Int)
| x19=>
 A0 x19 (
 (WC x2 x3 x1.DK.DI.ID x1.DK.DI.PH x1.DK.TH x1.BK.LA x15.2 x9 x10 x14 x11 x12 x13).bind fun x20=>
 (Ec x11) (x20.1,x20.2.1,x20.2.2.1,x1.BK.LA,x14,x12,x20.2.2.2.1,x20.2.2.2.2.1,x20.2.2.2.2.2,x13,([]:List EV))) (
 (Ec x11) (x1.DK.DI.ID,x1.DK.DI.PH,x1.DK.TH,x1.BK.LA,x14,x12,x15.2,x9,x10,x13,([]:List EV)))
def JB (x1:NO) (x2:Int) (x3:Msg) (x9:List SX) (x10:List Int) (x11:List KE) (x12:List Int) (x13:List KE) (x14:List SE):(Bool×Int)→Option (NO×List ML×List EV×Int)
| (x31,x32)=>
 A0 x31 (
 (AE 16 x13 ([KE.mk x2 x3.EP])).bind fun x33=>
 (Ec x11) (x1.DK.DI.ID,x1.DK.DI.PH,x1.DK.TH,x1.BK.LA,x14,x12,x32,x9,x10,x33,([]:List EV))) (
 (Ec x11) (x1.DK.DI.ID,x1.DK.DI.PH,x1.DK.TH,x1.BK.LA,x14,x12,x32,x9,x10,x13,([]:List EV)))
def JC (x1:NO) (x2:Int) (x9:List SX) (x10:List Int) (x11:List KE) (x12:List Int) (x13:List KE) (x14:List SE) (x16:Int):(Bool×Int)→Option (NO×List ML×List EV×Int)
| (x41,x42)=>
 A0 x41 (
 (Ac x9 x16).bind fun x43=>
 (O8 x12 x2).bind fun x44=>
 (KW 6 x2 x1.DK.DI.ID x1.DK.DI.PH x1.DK.TH x1.BK.LA x44 x42 (x9.set (Int.toNat (x16)) (SX.mk x43.PE x43.EP 0 x43.FK x43.DY x43.TO x43.BO x43.Ask)) x10 x14 x11 x13).bind fun x45=>
 (Ec x11) (x1.DK.DI.ID,x1.DK.DI.PH,x1.DK.TH,x1.BK.LA,x14,x44,x42,x9.set (Int.toNat (x16)) (SX.mk x43.PE x43.EP 0 x43.FK x43.DY x43.TO x43.BO x43.Ask),x10,x13,x45)) (
 (Ec x11) (x1.DK.DI.ID,x1.DK.DI.PH,x1.DK.TH,x1.BK.LA,x14,x12,x42,x9,x10,x13,([]:List EV)))
def JD (x1:NO) (x2:Int) (x9:List SX) (x10:List Int) (x11:List KE) (x12:List Int) (x13:List KE) (x14:List SE):(Bool×Int)→Option (NO×List ML×List EV×Int)
| (x51,x52)=>
 A0 x51 (
 (L1 x2 x1.DK.DI.ID x1.DK.DI.PH x1.DK.TH x1.BK.LA x52 x9 x10 x14 x11 x12 x13).bind fun x53=>
 (Ec x11) (x53.1,x53.2.1,x53.2.2.1,x53.2.2.2.1,x53.2.2.2.2.1,x12,x52,x53.2.2.2.2.2.2.1,x53.2.2.2.2.2.2.2,x13,x53.2.2.2.2.2.1)) (
 (Ec x11) (x1.DK.DI.ID,x1.DK.DI.PH,x1.DK.TH,x1.BK.LA,x14,x12,x52,x9,x10,x13,([]:List EV)))
def Hw (x1:NO) (x2:Int) (x3:Msg) (x9:List SX) (x10:List Int) (x11:List KE) (x12:List Int) (x13:List KE) (x14:List SE) (x15:(Bool×Int)) (x16:Int):Bool→Option (NO×List ML×List EV×Int)
| x17=>
 A0 x17 (
 A0 (decide (x15.2=0)) (
 A0 (decide (0≤x16)) (
 (Ac x9 x16).bind fun x18=>
 (Iq x1 x2 x3 x9 x10 x11 x12 x13 x14 x15) (decide (x18.EP=x3.EP))) (
 (Iq x1 x2 x3 x9 x10 x11 x12 x13 x14 x15) false)) (
 (Iq x1 x2 x3 x9 x10 x11 x12 x13 x14 x15) false)) (
 A0 (decide (x3.KI=5)) (
 (Nx x1 (KE.mk x2 x3.EP)).bind fun x21=>
 A0 x21 (
 (Ek x1.AK).bind fun x23=>
 (AE 16 x23 ([KE.mk x2 x3.EP])).bind fun x25=>
 (Nv x25).bind fun x26=>
 (Ev x26 187 x1.DK.DI.ID x1.DK.DI.PH x1.DK.TH x1.BK.LA x15.2 x9 x10 x14 x11 x12 x13).bind fun x27=>
 (JB x1 x2 x3 x9 x10 x11 x12 x13 x14) (x27.1,x27.2)) (
 (Fg 187 x1.DK.DI.ID x1.DK.DI.PH x1.DK.TH x1.BK.LA x15.2 x9 x10 x14 x11 x12 x13).bind fun x28=>
 (JB x1 x2 x3 x9 x10 x11 x12 x13 x14) (x28.1,x28.2))) (
 A0 (decide (x3.KI=6)) (
 (KQ 1 x16 (node_node.mk (NO.mk (DK.mk (DI.mk x1.DK.DI.ID x1.DK.DI.PH x9) x1.DK.TH x10) (BK.mk x1.BK.LA x14) x11 x12 x13) (([]:List ML)) (([]:List EV)) x15.2) x3).bind fun x35=>
 A0 x35 (
 (EM x1.TL x2).bind fun x37=>
 (Ev x37 187 x1.DK.DI.ID x1.DK.DI.PH x1.DK.TH x1.BK.LA x15.2 x9 x10 x14 x11 x12 x13).bind fun x38=>
 (JC x1 x2 x9 x10 x11 x12 x13 x14 x16) (x38.1,x38.2)) (
 (Fg 187 x1.DK.DI.ID x1.DK.DI.PH x1.DK.TH x1.BK.LA x15.2 x9 x10 x14 x11 x12 x13).bind fun x39=>
 (JC x1 x2 x9 x10 x11 x12 x13 x14 x16) (x39.1,x39.2))) (
 A0 (decide (x3.KI=7)) (
 (KQ 0 x16 (node_node.mk (NO.mk (DK.mk (DI.mk x1.DK.DI.ID x1.DK.DI.PH x9) x1.DK.TH x10) (BK.mk x1.BK.LA x14) x11 x12 x13) (([]:List ML)) (([]:List EV)) x15.2) x3).bind fun x47=>
 A0 x47 (
 (Ev (decide (x2<x1.DK.DI.ID)) 187 x1.DK.DI.ID x1.DK.DI.PH x1.DK.TH x1.BK.LA x15.2 x9 x10 x14 x11 x12 x13).bind fun x49=>
 (JD x1 x2 x9 x10 x11 x12 x13 x14) (x49.1,x49.2)) (
 (Fg 187 x1.DK.DI.ID x1.DK.DI.PH x1.DK.TH x1.BK.LA x15.2 x9 x10 x14 x11 x12 x13).bind fun x50=>
 (JD x1 x2 x9 x10 x11 x12 x13 x14) (x50.1,x50.2))) (
 A0 (decide (x3.KI=8)) (
 (KQ 3 x16 (node_node.mk (NO.mk (DK.mk (DI.mk x1.DK.DI.ID x1.DK.DI.PH x9) x1.DK.TH x10) (BK.mk x1.BK.LA x14) x11 x12 x13) (([]:List ML)) (([]:List EV)) x15.2) x3).bind fun x54=>
 (Ev x54 187 x1.DK.DI.ID x1.DK.DI.PH x1.DK.TH x1.BK.LA x15.2 x9 x10 x14 x11 x12 x13).bind fun x56=>
 A0 x56.1 (
 (RS x2 x1.DK.DI.ID x1.DK.DI.PH x1.DK.TH x1.BK.LA x56.2 x9 x10 x14 x11 x12 x13).bind fun x57=>
 (Ny 8 x2 x1.DK.DI.ID x1.DK.DI.PH x1.DK.TH x1.BK.LA x56.2 x57 x10 x14 x11 x12 x13).bind fun x58=>
 (Ec x11) (x1.DK.DI.ID,x1.DK.DI.PH,x1.DK.TH,x1.BK.LA,x14,x12,x56.2,x57,x10,x13,x58)) (
 (Ec x11) (x1.DK.DI.ID,x1.DK.DI.PH,x1.DK.TH,x1.BK.LA,x14,x12,x56.2,x9,x10,x13,([]:List EV)))) (
 (Fg 187 x1.DK.DI.ID x1.DK.DI.PH x1.DK.TH x1.BK.LA x15.2 x9 x10 x14 x11 x12 x13).bind fun x59=>
 (Ec x11) (x1.DK.DI.ID,x1.DK.DI.PH,x1.DK.TH,x1.BK.LA,x14,x12,x59.2,x9,x10,x13,([]:List EV)))))))
def Wh (x1:NO) (x2:Int) (x3:Msg):(Int×List SX×List Int×List KE×List Int×List KE×List SE)→Option (NO×List ML×List EV×Int)
| (x8,x9,x10,x11,x12,x13,x14)=>
 (Ev (decide (x3.Num=0)) 187 x1.DK.DI.ID x1.DK.DI.PH x1.DK.TH x1.BK.LA x8 x9 x10 x14 x11 x12 x13).bind fun x15=>
 (KZ (node_node.mk (NO.mk (DK.mk (DI.mk x1.DK.DI.ID x1.DK.DI.PH x9) x1.DK.TH x10) (BK.mk x1.BK.LA x14) x11 x12 x13) (([]:List ML)) (([]:List EV)) x15.2) x2).bind fun x16=>
 A0 (decide (x3.KI=1)) (
 (Hw x1 x2 x3 x9 x10 x11 x12 x13 x14 x15 x16) (decide (x3.KI=1))) (
 A0 (decide (x3.KI=2)) (
 (Hw x1 x2 x3 x9 x10 x11 x12 x13 x14 x15 x16) (decide (x3.KI=2))) (
 A0 (decide (x3.KI=3)) (
 (Hw x1 x2 x3 x9 x10 x11 x12 x13 x14 x15 x16) (decide (x3.KI=3))) (
 (Hw x1 x2 x3 x9 x10 x11 x12 x13 x14 x15 x16) (decide (x3.KI=4)))))
def KO (x1:NO) (x2:Int) (x3:Msg):Option (NO×List ML×List EV×Int):=
 (NN x1).bind fun x4=>
 (Ip x1).bind fun x6=>
 (Wh x1 x2 x3) (x6,x4.1,x4.2.1,x4.2.2.1,x4.2.2.2.1,x4.2.2.2.2.1,x4.2.2.2.2.2)
instance k_node_Get {x1 x2 x3}:KP (KO x1 x2 x3) 85 [.agg (NO.row x1),.iv x2,.agg (Msg.row x3)] (fun r=>(.tup [.agg (NO.row r.1),CM r.2.1,ED r.2.2.1,.iv r.2.2.2])):=⟨fun{r} h=>by
 have ok:=oJ 85 Tryz.f85 [.c 6 (some 10),.t 7,.t 8,.t 9] 3 167;refine FP ok fun w0 H0=>?_;have A7:AJ [.s 5,.s 3,.w 100 8,.r 6 9,.r 8 6,.r 9 0]:=trivial;have A6:AJ [.s 3,.r 7 6,.r 8 0,.r 9 1]:=trivial;have A5:AJ [.s 5,.r 7 6]:=trivial;have A4:AJ [.s 5,.s 3,.o 3 11 47 5,.r 8 6,.r 7 4]:=trivial;have A3:AJ [.s 5,.s 3,.o 3 11 47 5]:=trivial;have A2:AJ [.s 5,.s 3,.o 3 11 47 5,.w 100 8,.r 6 9,.r 8 6,.r 9 0,.r 7 1]:=trivial;have A1:AJ [.s 7,.s 8,.s 9,.s 10,.s 11,.s 12]:=trivial;rw [KO] at h;refine Vg 10 ?_;refine Vl [1,1,1,1,1,2] (fun s=>([(10,.ptr 4 0)],[some ⟨60,NO.row x1⟩,some ⟨154,Msg.row x3⟩,some ⟨60,[.iv 0,.iv 0,.nl,.iv 0,.nl,.iv 0,.nl,.nl,.nl,.nl]⟩,some ⟨191,[.iv x1.DK.DI.ID,.iv x1.DK.DI.PH,.osl 0,.iv x1.DK.TH,.osl 1,.iv x1.BK.LA,.osl 5,.osl 2,.osl 3,.osl 4,.nl,.nl,.iv s.1]⟩,some ⟨189,[.ptr 3 0]⟩],[Al s.2.1,Ae s.2.2.1,Ai s.2.2.2.1,Ae s.2.2.2.2.1,Ai s.2.2.2.2.2.1,B4 s.2.2.2.2.2.2])) (Wh x1 x2 x3) r ?_ fun J1=>?_
 ·rintro ⟨x8,x9,x10,x11,x12,x13,x14⟩ h;rw [Wh] at h;refine Vg 6 ?_;refine VR [3] [0,1,5,2,3,4] 5 6 h t_node_node_need_I1.k fun x15 _ h=>?_;refine Vg 5 ?_;refine VN (((((((LR.slice 0 rfl).slice 1 rfl).slice 2 rfl).slice 3 rfl).slice 4 rfl).slice 5 rfl).block 3 rfl rfl) h k_node_node_place.k fun x16 _ h=>?_;refine Vg 21 ?_;refine Vk [1,1,1,1,1,2,3,3,17,1] (fun x17=>[(33,.bv x17)]) (Hw x1 x2 x3 x9 x10 x11 x12 x13 x14 x15 x16) r ?_ fun J2=>?_
  ·intro x17 h;rw [Hw] at h;refine Vl [6,1,3,1] (fun s=>([],[none,none,some ⟨60,[.iv 0,.iv 0,.nl,.iv 0,.nl,.iv 0,.nl,.nl,.nl,.nl]⟩,some ⟨191,[.iv s.1,.iv s.2.1,.osl 0,.iv s.2.2.1,.osl 1,.iv s.2.2.2.1,Aq s.2.2.2.2.1,.osl 2,Aj s.2.2.2.2.2.1,.osl 4,.nl,.osl 6,.iv s.2.2.2.2.2.2.1]⟩,some ⟨189,[.ptr 3 0]⟩],[Al s.2.2.2.2.2.2.2.1,Ae s.2.2.2.2.2.2.2.2.1,Ai x11,none,Ai s.2.2.2.2.2.2.2.2.2.1,none,Bk s.2.2.2.2.2.2.2.2.2.2])) (Ec x11) r ?_ fun J3=>?_
   ·rintro ⟨x60,x61,x62,x63,x64,x65,x66,x67,x68,x69,x70⟩ h;rw [Ec] at h;refine Vg 4 ?_;refine VR [3] [0,1,2,4,6] 5 7 h t_node_node_settled_I1.k fun _ _ h=>?_;refine Vg 9 ?_;(refine Wj [.s 7,.s 8,.s 9,.s 10,.s 11,.s 12] ?_);exact Wx
   ·refine MI h (fun h=>?_) fun h=>?_
    ·refine Vg 1 ?_;refine Vl [1,1,3,2,3,1] (fun x19=>([(62,.bv x19)],[none,some ⟨154,Msg.row x3⟩,some ⟨60,[.iv 0,.iv 0,.nl,.iv 0,.nl,.iv 0,.nl,.nl,.nl,.nl]⟩,some ⟨191,[.iv x1.DK.DI.ID,.iv x1.DK.DI.PH,.osl 0,.iv x1.DK.TH,.osl 1,.iv x1.BK.LA,.osl 5,.osl 2,.osl 3,.osl 4,.nl,.nl,.iv x15.2]⟩,some ⟨189,[.ptr 3 0]⟩],[Al x9,Ae x10,Ai x11,Ae x12,Ai x13,B4 x14])) (Iq x1 x2 x3 x9 x10 x11 x12 x13 x14 x15) r ?_ fun J4=>?_
     ·intro x19 h;rw [Iq] at h;refine MI h (fun h=>?_) fun h=>?_
      ·refine Vg 4 ?_;refine VR [3] [0,1,5,2,3,4] 5 6 h t_node_node_things_I1.k fun _ _ h=>?_;refine Vg 1 ?_;(refine Wj [.s 5,.s 3,.o 3 11 47 5,.w 100 8,.r 6 9,.r 8 6,.r 9 0,.r 7 1] ?_);exact Wx
      ·refine Vg 1 ?_;(refine Wj [.s 5,.s 3,.o 3 11 47 5] ?_);exact Wx
     ·refine AD fun all H=>Ds ?_;refine R1 ?_;refine GP H 5 19 [6,19] [(39,[.ptr 3 0,.ptr 3 12,.iv x15.2,.bv (decide (x15.2=0)),.bv (decide (x15.2=0))])] (Ds ?_);refine BW 43 h rfl (fun _ h=>?_) fun _ h=>?_
      ·refine Ds (GP H 4 15 [10,15] [(44,[.iv x16,.bv (decide (0≤x16)),.bv (decide (0≤x16)),.bv (decide (0≤x16))])] (Ds ?_));refine BW 47 h rfl (fun _ h=>?_) fun _ h=>?_
       ·refine Ds (GP H 3 12 [10,7,1,3,2,2] [(55,[.iv x16]),(3,[.ptr 1 1,.iv x3.EP])] (Ds ?_));refine R1 ?_;refine GP H 5 6 [16,1,1,3,2,2] [(49,[.ptr 3 0,.ptr 3 0,.ptr 3 0,.ptr 3 0,.ptr 3 2])] (Ds ?_);refine R1 ?_;have ⟨x18,ex18,h⟩:=Bs h;refine Ak 18 rfl (RI ?_);refine Gn H 1 3 ?_;refine RO ?_;refine RL ?_;refine Gn H 2 0 ?_;refine GD ?_;exact Wx
       ·refine Ds (GP H 15 0 [25] [(48,ux 14 [.ff])] (Ds ?_));refine GD ?_;exact Wx
      ·refine Ds (GP H 19 0 [25] [(44,.un::.un::.ff::.ff::ux 14 [.ff])] (Ds ?_));refine GD ?_;exact Wx
    ·refine Vg 5 ?_;refine MI h (fun h=>?_) fun h=>?_
     ·refine Vg 10 ?_;refine Vm [6,1,3,1,2,1] (fun s=>([(86,.bv s.1)],[(3,12,.iv s.2)],[(0,none),(1,none),(5,none)],[])) (JB x1 x2 x3 x9 x10 x11 x12 x13 x14) r ?_ fun J5=>?_
      ·rintro ⟨x31,x32⟩ h;rw [JB] at h;refine MI h (fun h=>?_) fun h=>?_
       ·refine AD fun all H=>?_;refine Gn H 1 12 ?_;refine Eo 0 1 7 rfl ?_ ?_ ?_
        ·refine RV ?_;refine Ao 1 7 rfl ?_ ?_
         ·refine RV ?_;refine Gn H 3 7 ?_;refine Ao 5 7 rfl ?_ ?_
          ·refine RV ?_;refine R1 ?_;refine Ak 8 rfl ?_;have ⟨x33,ex33,h⟩:=Bs h;refine GA KE.row ex33 H.1 ?_;refine Gn H 3 1 ?_;refine R1 ?_;refine GD ?_;(refine Wj [.s 5,.s 3,.o 3 11 47 5,.r 8 6,.r 7 4] ?_);exact Wx
          ·refine RV ?_;refine R1 ?_;refine Ak 8 rfl ?_;have ⟨x33,ex33,h⟩:=Bs h;refine GA KE.row ex33 H.1 ?_;refine Gn H 3 1 ?_;refine R1 ?_;refine GD ?_;(refine Wj [.s 5,.s 3,.o 3 11 47 5,.r 8 6,.r 7 4] ?_);exact Wx
         ·refine RV ?_;refine R1 ?_;refine Gn H 3 6 ?_;refine R1 ?_;refine Ak 8 rfl ?_;have ⟨x33,ex33,h⟩:=Bs h;refine GA KE.row ex33 H.1 ?_;refine Gn H 3 1 ?_;refine R1 ?_;refine GD ?_;(refine Wj [.s 5,.s 3,.o 3 11 47 5,.r 8 6,.r 7 4] ?_);exact Wx
        ·refine RV ?_;refine Gn H 3 8 ?_;refine Eo 0 5 7 rfl ?_ ?_ ?_
         ·refine RV ?_;refine Ao 5 7 rfl ?_ ?_
          ·refine RV ?_;refine R1 ?_;refine Ak 8 rfl ?_;have ⟨x33,ex33,h⟩:=Bs h;refine GA KE.row ex33 H.1 ?_;refine Gn H 3 1 ?_;refine R1 ?_;refine GD ?_;(refine Wj [.s 5,.s 3,.o 3 11 47 5,.r 8 6,.r 7 4] ?_);exact Wx
          ·refine RV ?_;refine R1 ?_;refine Ak 8 rfl ?_;have ⟨x33,ex33,h⟩:=Bs h;refine GA KE.row ex33 H.1 ?_;refine Gn H 3 1 ?_;refine R1 ?_;refine GD ?_;(refine Wj [.s 5,.s 3,.o 3 11 47 5,.r 8 6,.r 7 4] ?_);exact Wx
         ·refine RV ?_;refine Ao 0 7 rfl ?_ ?_
          ·refine RV ?_;refine R1 ?_;refine Ak 8 rfl ?_;have ⟨x33,ex33,h⟩:=Bs h;refine GA KE.row ex33 H.1 ?_;refine Gn H 3 1 ?_;refine R1 ?_;refine GD ?_;(refine Wj [.s 5,.s 3,.o 3 11 47 5,.r 8 6,.r 7 4] ?_);exact Wx
          ·refine RV ?_;have ⟨x33,ex33,h⟩:=Bs h;refine Ao 0 8 rfl ?_ ?_
           ·refine RV ?_;refine Ak 8 rfl (GA KE.row ex33 H.1 ?_);refine Gn H 3 1 ?_;refine R1 ?_;refine GD ?_;(refine Wj [.s 5,.s 3,.o 3 11 47 5,.r 8 6,.r 7 4] ?_);exact Wx
           ·refine GA KE.row ex33 H.1 (Ds ?_);refine R1 ?_;refine Gn H 3 1 ?_;refine R1 ?_;refine GD ?_;(refine Wj [.s 5,.s 3,.o 3 11 47 5,.r 8 6,.r 7 4] ?_);exact Wx
         ·refine RV ?_;refine Ao 0 5 rfl ?_ ?_
          ·refine RV ?_;refine R1 ?_;refine Ak 8 rfl ?_;have ⟨x33,ex33,h⟩:=Bs h;refine GA KE.row ex33 H.1 ?_;refine Gn H 3 1 ?_;refine R1 ?_;refine GD ?_;(refine Wj [.s 5,.s 3,.o 3 11 47 5,.r 8 6,.r 7 4] ?_);exact Wx
          ·refine RV ?_;have ⟨x33,ex33,h⟩:=Bs h;refine Ao 0 8 rfl ?_ ?_
           ·refine RV ?_;refine Ak 8 rfl (GA KE.row ex33 H.1 ?_);refine Gn H 3 1 ?_;refine R1 ?_;refine GD ?_;(refine Wj [.s 5,.s 3,.o 3 11 47 5,.r 8 6,.r 7 4] ?_);exact Wx
           ·refine GA KE.row ex33 H.1 (Ds ?_);refine R1 ?_;refine Gn H 3 1 ?_;refine R1 ?_;refine GD ?_;(refine Wj [.s 5,.s 3,.o 3 11 47 5,.r 8 6,.r 7 4] ?_);exact Wx
        ·refine RV ?_;refine Ao 0 1 rfl ?_ ?_
         ·refine RV ?_;refine R1 ?_;refine Gn H 3 6 ?_;refine R1 ?_;refine Ak 8 rfl ?_;have ⟨x33,ex33,h⟩:=Bs h;refine GA KE.row ex33 H.1 ?_;refine Gn H 3 1 ?_;refine R1 ?_;refine GD ?_;(refine Wj [.s 5,.s 3,.o 3 11 47 5,.r 8 6,.r 7 4] ?_);exact Wx
         ·refine RV ?_;refine Gn H 3 7 ?_;refine Ao 0 5 rfl ?_ ?_
          ·refine RV ?_;refine R1 ?_;refine Ak 8 rfl ?_;have ⟨x33,ex33,h⟩:=Bs h;refine GA KE.row ex33 H.1 ?_;refine Gn H 3 1 ?_;refine R1 ?_;refine GD ?_;(refine Wj [.s 5,.s 3,.o 3 11 47 5,.r 8 6,.r 7 4] ?_);exact Wx
          ·refine RV ?_;have ⟨x33,ex33,h⟩:=Bs h;refine Ao 0 8 rfl ?_ ?_
           ·refine RV ?_;refine Ak 8 rfl (GA KE.row ex33 H.1 ?_);refine Gn H 3 1 ?_;refine R1 ?_;refine GD ?_;(refine Wj [.s 5,.s 3,.o 3 11 47 5,.r 8 6,.r 7 4] ?_);exact Wx
           ·refine GA KE.row ex33 H.1 (Ds ?_);refine R1 ?_;refine Gn H 3 1 ?_;refine R1 ?_;refine GD ?_;(refine Wj [.s 5,.s 3,.o 3 11 47 5,.r 8 6,.r 7 4] ?_);exact Wx
       ·refine Vg 1 ?_;(refine Wj [.s 5,.s 3,.o 3 11 47 5] ?_);exact Wx
      ·refine AD fun all H=>?_;refine Gn H 2 12 ?_;have ⟨x21,ex21,h⟩:=Bs h;refine Ao 0 3 rfl ?_ ?_
       ·refine RV ?_;refine Ak 3 rfl (GC H.1 (k_node_may.k ex21) ?_);refine Gn H 1 9 ?_;refine BW 77 h rfl (fun _ h=>?_) fun _ h=>?_
        ·refine Gn H 3 6 ?_;have ⟨x23,ex23,h⟩:=Bs h;refine Ao 7 9 rfl ?_ ?_
         ·refine AW H.1 rfl trivial (H1 ex23) (h:=Ds ?_);refine R1 ?_;refine Ak 10 rfl ?_;have ⟨x25,ex25,h⟩:=Bs h;refine GA KE.row ex25 H.1 (Ds ?_);refine RQ (LR.slice 8 rfl) h k_node_distinct.k fun x26 ex26 h=>?_;refine Gn H 1 1 ?_;refine RF [3] [0,1,5,2,3,4] 7 9 h t_node_node_need_I1.k fun x27 ex27 h=>?_;refine GD ?_;exact Wx
         ·refine RV ?_;refine Ak 7 rfl (AW H.1 rfl trivial (H1 ex23) (h:=Ds ?_));refine Ak 10 rfl ?_;have ⟨x25,ex25,h⟩:=Bs h;refine GA KE.row ex25 H.1 (Ds ?_);refine RQ (LR.slice 8 rfl) h k_node_distinct.k fun x26 ex26 h=>?_;refine Gn H 1 1 ?_;refine RF [3] [0,1,5,2,3,4] 7 9 h t_node_node_need_I1.k fun x27 ex27 h=>?_;refine GD ?_;exact Wx
        ·refine Ds (GP H 8 1 [13,1] [(78,ux 7 [.ff])] (Ds ?_));refine RF [3] [0,1,5,2,3,4] 7 6 h t_node_node_need_I2.k fun x28 ex28 h=>?_;refine GD ?_;exact Wx
       ·refine GC H.1 (k_node_may.k ex21) ?_;refine Gn H 1 10 ?_;refine BW 77 h rfl (fun _ h=>?_) fun _ h=>?_
        ·refine Gn H 3 7 ?_;have ⟨x23,ex23,h⟩:=Bs h;refine Eo 0 7 9 rfl ?_ ?_ ?_
         ·refine RV ?_;refine Ao 7 9 rfl ?_ ?_
          ·refine AW H.1 rfl trivial (H1 ex23) (h:=Ds ?_);refine R1 ?_;refine Ak 10 rfl ?_;have ⟨x25,ex25,h⟩:=Bs h;refine GA KE.row ex25 H.1 (Ds ?_);refine RQ (LR.slice 8 rfl) h k_node_distinct.k fun x26 ex26 h=>?_;refine Gn H 1 1 ?_;refine RF [3] [0,1,5,2,3,4] 7 9 h t_node_node_need_I1.k fun x27 ex27 h=>?_;refine GD ?_;exact Wx
          ·refine RV ?_;refine Ak 7 rfl (AW H.1 rfl trivial (H1 ex23) (h:=Ds ?_));refine Ak 10 rfl ?_;have ⟨x25,ex25,h⟩:=Bs h;refine GA KE.row ex25 H.1 (Ds ?_);refine RQ (LR.slice 8 rfl) h k_node_distinct.k fun x26 ex26 h=>?_;refine Gn H 1 1 ?_;refine RF [3] [0,1,5,2,3,4] 7 9 h t_node_node_need_I1.k fun x27 ex27 h=>?_;refine GD ?_;exact Wx
         ·refine AW H.1 rfl trivial (H1 ex23) (h:=Ds ?_);refine Ao 0 9 rfl ?_ ?_
          ·refine RV ?_;refine R1 ?_;refine Ak 10 rfl ?_;have ⟨x25,ex25,h⟩:=Bs h;refine GA KE.row ex25 H.1 (Ds ?_);refine RQ (LR.slice 8 rfl) h k_node_distinct.k fun x26 ex26 h=>?_;refine Gn H 1 1 ?_;refine RF [3] [0,1,5,2,3,4] 7 9 h t_node_node_need_I1.k fun x27 ex27 h=>?_;refine GD ?_;exact Wx
          ·refine RV ?_;have ⟨x25,ex25,h⟩:=Bs h;refine Ao 0 10 rfl ?_ ?_
           ·refine RV ?_;refine Ak 10 rfl (GA KE.row ex25 H.1 (Ds ?_));refine RQ (LR.slice 8 rfl) h k_node_distinct.k fun x27 ex27 h=>?_;refine Gn H 1 1 ?_;refine RF [3] [0,1,5,2,3,4] 7 9 h t_node_node_need_I1.k fun x28 ex28 h=>?_;refine GD ?_;exact Wx
           ·refine GA KE.row ex25 H.1 (Ds ?_);have ⟨x27,ex27,h⟩:=Bs h;refine Ao 0 11 rfl ?_ ?_
            ·refine RV ?_;refine Ak 11 rfl (GK H.1 (LR.slice 8 rfl) (k_node_distinct.k ex27) ?_);refine Gn H 1 1 ?_;refine RF [3] [0,1,5,2,3,4] 7 9 h t_node_node_need_I1.k fun x29 ex29 h=>?_;refine GD ?_;exact Wx
            ·refine GK H.1 (LR.slice 8 rfl) (k_node_distinct.k ex27) ?_;refine Gn H 1 2 ?_;refine R1 ?_;refine RF [3] [0,1,5,2,3,4] 7 9 h t_node_node_need_I1.k fun x29 ex29 h=>?_;refine GD ?_;exact Wx
         ·refine RV ?_;refine Ao 0 7 rfl ?_ ?_
          ·refine RV ?_;refine Ak 7 rfl (AW H.1 rfl trivial (H1 ex23) (h:=Ds ?_));refine Ak 10 rfl ?_;have ⟨x25,ex25,h⟩:=Bs h;refine GA KE.row ex25 H.1 (Ds ?_);refine RQ (LR.slice 8 rfl) h k_node_distinct.k fun _ _ h=>?_;refine Gn H 1 1 ?_;refine RF [3] [0,1,5,2,3,4] 7 9 h t_node_node_need_I1.k fun x27 ex27 h=>?_;refine GD ?_;exact Wx
          ·refine AW H.1 rfl trivial (H1 ex23) (h:=Ds ?_);have ⟨x25,ex25,h⟩:=Bs h;refine Ao 0 10 rfl ?_ ?_
           ·refine RV ?_;refine Ak 10 rfl (GA KE.row ex25 H.1 (Ds ?_));refine RQ (LR.slice 8 rfl) h k_node_distinct.k fun x27 ex27 h=>?_;refine Gn H 1 1 ?_;refine RF [3] [0,1,5,2,3,4] 7 9 h t_node_node_need_I1.k fun _ _ h=>?_;refine GD ?_;exact Wx
           ·refine GA KE.row ex25 H.1 (Ds ?_);have ⟨x27,ex27,h⟩:=Bs h;refine Ao 0 11 rfl ?_ ?_
            ·refine RV ?_;refine Ak 11 rfl (GK H.1 (LR.slice 8 rfl) (k_node_distinct.k ex27) ?_);refine Gn H 1 1 ?_;refine RF [3] [0,1,5,2,3,4] 7 9 h t_node_node_need_I1.k fun x29 ex29 h=>?_;refine GD ?_;exact Wx
            ·refine GK H.1 (LR.slice 8 rfl) (k_node_distinct.k ex27) ?_;refine Gn H 1 2 ?_;refine R1 ?_;refine RF [3] [0,1,5,2,3,4] 7 9 h t_node_node_need_I1.k fun _ _ h=>?_;refine GD ?_;exact Wx
        ·refine Ds (GP H 8 2 [0,1,12,1] [(78,ux 7 [.ff])] (Ds ?_));refine R1 ?_;refine RF [3] [0,1,5,2,3,4] 7 6 h t_node_node_need_I2.k fun _ _ h=>?_;refine GD ?_;exact Wx
     ·refine Vg 5 ?_;refine MI h (fun h=>?_) fun h=>?_
      ·refine Vg 1 ?_;refine Vm [1,1,4,1,3,2] (fun s=>([(110,.bv s.1)],[(3,12,.iv s.2)],[(0,none),(1,none)],[])) (JC x1 x2 x9 x10 x11 x12 x13 x14 x16) r ?_ fun J6=>?_
       ·rintro ⟨x41,x42⟩ h;rw [JC] at h;refine MI h (fun h=>?_) fun h=>?_
        ·refine Vg 1 ?_;refine AD fun all H=>?_;refine Gn H 1 10 ?_;refine R1 ?_;refine Gn H 5 4 ?_;refine R1 ?_;have ⟨x43,ex43,h⟩:=Bs h;refine RO ?_;refine RI ?_;refine Gn H 1 1 ?_;refine B8 [.iv 0] (SX.mk x43.PE x43.EP 0 x43.FK x43.DY x43.TO x43.BO x43.Ask) ?_;refine GD (Vg 1 ?_);(refine Wj [.s 3] ?_);refine AD fun all H=>Ds ?_;refine GN H 1 11 (Ds ?_);refine An (Ao 0 1 rfl ?_ ?_)
         ·refine RV ?_;refine R1 ?_;refine Gn H 4 5 ?_;refine RB h k_set_Del.k fun x44 ex44 h=>?_;refine Gn H 3 1 ?_;refine R1 ?_;refine GD (Vg 3 ?_);refine VR [3] [0,1,5,2,4] 6 6 h t_node_node_edge_I1.k fun _ _ h=>?_;refine Vg 1 ?_;(refine Wj [.s 5,.r 7 6] ?_);exact Wx
         ·refine RV ?_;refine Gn H 4 6 ?_;have ⟨x44,ex44,h⟩:=Bs h;refine Ao 0 7 rfl ?_ ?_
          ·refine RV ?_;refine Ak 7 rfl (GC H.1 (k_set_Del.k ex44) ?_);refine Gn H 3 1 ?_;refine R1 ?_;refine GD (Vg 3 ?_);refine VR [3] [0,1,5,2,4] 6 6 h t_node_node_edge_I1.k fun x46 ex46 h=>?_;refine Vg 1 ?_;(refine Wj [.s 5,.r 7 6] ?_);exact Wx
          ·refine GC H.1 (k_set_Del.k ex44) (Ds ?_);refine R1 ?_;refine Gn H 3 1 ?_;refine R1 ?_;refine GD (Vg 3 ?_);refine VR [3] [0,1,5,2,4] 6 6 h t_node_node_edge_I1.k fun _ _ h=>?_;refine Vg 1 ?_;(refine Wj [.s 5,.r 7 6] ?_);exact Wx
        ·refine Vg 1 ?_;(refine Wj [.s 5,.s 3,.o 3 11 47 5] ?_);exact Wx
       ·refine AD fun all H=>?_;refine Gn H 1 9 ?_;have ⟨x35,ex35,h⟩:=Bs h;refine Ao 0 2 rfl ?_ ?_
        ·refine RV ?_;refine Ak 2 rfl (LL H.1 rfl trivial ((((((((((LR.slice 0 rfl).slice 1 rfl).slice 2 rfl).slice 3 rfl).slice 4 rfl).slice 5 rfl).block 1 rfl rfl).block 3 rfl rfl).block 4 rfl rfl).block 5 rfl rfl) rfl (k_node_Get_1.k ex35) (by kernel_rfl) (h:=Ds ?_));refine Gn H 1 6 ?_;refine BW 104 h rfl (fun _ h=>?_) fun _ h=>?_
         ·refine Gn H 3 3 ?_;refine RB h k_set_Has.k fun x37 ex37 h=>?_;refine Gn H 1 1 ?_;refine RF [3] [0,1,5,2,3,4] 6 6 h t_node_node_need_I1.k fun _ _ h=>?_;refine GD ?_;exact Wx
         ·refine Gn H 5 1 ?_;refine RF [3] [0,1,5,2,3,4] 6 6 h t_node_node_need_I2.k fun x39 ex39 h=>?_;refine GD ?_;exact Wx
        ·refine LL H.1 rfl trivial ((((((((((LR.slice 0 rfl).slice 1 rfl).slice 2 rfl).slice 3 rfl).slice 4 rfl).slice 5 rfl).block 1 rfl rfl).block 3 rfl rfl).block 4 rfl rfl).block 5 rfl rfl) rfl (k_node_Get_1.k ex35) (by kernel_rfl) (h:=?_);refine Gn H 1 7 ?_;refine BW 104 h rfl (fun _ h=>?_) fun _ h=>?_
         ·refine Gn H 3 4 ?_;have ⟨x37,ex37,h⟩:=Bs h;refine Ao 0 7 rfl ?_ ?_
          ·refine RV ?_;refine Ak 7 rfl (GC H.1 (k_set_Has.k ex37) ?_);refine Gn H 1 1 ?_;refine RF [3] [0,1,5,2,3,4] 6 6 h t_node_node_need_I1.k fun x39 ex39 h=>?_;refine GD ?_;exact Wx
          ·refine GC H.1 (k_set_Has.k ex37) ?_;refine Gn H 1 2 ?_;refine R1 ?_;refine RF [3] [0,1,5,2,3,4] 6 6 h t_node_node_need_I1.k fun _ _ h=>?_;refine GD ?_;exact Wx
         ·refine Gn H 5 2 ?_;refine R1 ?_;refine RF [3] [0,1,5,2,3,4] 6 6 h t_node_node_need_I2.k fun _ _ h=>?_;refine GD ?_;exact Wx
      ·refine Vg 5 ?_;refine MI h (fun h=>?_) fun h=>?_
       ·refine Vg 1 ?_;refine Vl [1,1,4,1,3,1] (fun s=>([(148,.bv s.1)],[none,none,some ⟨60,[.iv 0,.iv 0,.nl,.iv 0,.nl,.iv 0,.nl,.nl,.nl,.nl]⟩,some ⟨191,[.iv x1.DK.DI.ID,.iv x1.DK.DI.PH,.osl 0,.iv x1.DK.TH,.osl 1,.iv x1.BK.LA,.osl 5,.osl 2,.osl 3,.osl 4,.nl,.nl,.iv s.2]⟩,some ⟨189,[.ptr 3 0]⟩],[Al x9,Ae x10,Ai x11,Ae x12,Ai x13,B4 x14])) (JD x1 x2 x9 x10 x11 x12 x13 x14) r ?_ fun J7=>?_
        ·rintro ⟨x51,x52⟩ h;rw [JD] at h;refine MI h (fun h=>?_) fun h=>?_
         ·refine Vg 3 ?_;refine VR [3] [0,1,5,2,3,4] 5 6 h t_node_node_shut_I1.k fun _ _ h=>?_;refine Vg 1 ?_;(refine Wj [.s 3,.r 7 6,.r 8 0,.r 9 1] ?_);exact Wx
         ·refine Vg 1 ?_;(refine Wj [.s 5,.s 3,.o 3 11 47 5] ?_);exact Wx
        ·refine AD fun all H=>?_;refine Gn H 1 11 ?_;have ⟨x47,ex47,h⟩:=Bs h;refine Ao 0 2 rfl ?_ ?_
         ·refine RV ?_;refine Ak 2 rfl (LL H.1 rfl trivial ((((((((((LR.slice 0 rfl).slice 1 rfl).slice 2 rfl).slice 3 rfl).slice 4 rfl).slice 5 rfl).block 1 rfl rfl).block 3 rfl rfl).block 4 rfl rfl).block 5 rfl rfl) rfl (k_node_Get_1.k ex47) (by kernel_rfl) (h:=Ds ?_));refine Gn H 1 8 ?_;refine BW 140 h rfl (fun _ h=>?_) fun _ h=>?_
          ·refine Ds (GP H 7 1 [11,1] [(141,[.iv x2,.ptr 0 0,.ptr 0 0,.ptr 0 0,.iv x1.DK.DI.ID,.bv (decide (x2<x1.DK.DI.ID)),.bv (decide (x2<x1.DK.DI.ID))])] (Ds ?_));refine RF [3] [0,1,5,2,3,4] 6 6 h t_node_node_need_I1.k fun x49 ex49 h=>?_;refine GD ?_;exact Wx
          ·refine Ds (GP H 7 1 [11,1] [(141,ux 6 [.ff])] (Ds ?_));refine RF [3] [0,1,5,2,3,4] 6 6 h t_node_node_need_I2.k fun x50 ex50 h=>?_;refine GD ?_;exact Wx
         ·refine LL H.1 rfl trivial ((((((((((LR.slice 0 rfl).slice 1 rfl).slice 2 rfl).slice 3 rfl).slice 4 rfl).slice 5 rfl).block 1 rfl rfl).block 3 rfl rfl).block 4 rfl rfl).block 5 rfl rfl) rfl (k_node_Get_1.k ex47) (by kernel_rfl) (h:=?_);refine Gn H 1 9 ?_;refine BW 140 h rfl (fun _ h=>?_) fun _ h=>?_
          ·refine Ds (GP H 7 2 [0,1,10,1] [(141,[.iv x2,.ptr 0 0,.ptr 0 0,.ptr 0 0,.iv x1.DK.DI.ID,.bv (decide (x2<x1.DK.DI.ID)),.bv (decide (x2<x1.DK.DI.ID))])] (Ds ?_));refine R1 ?_;refine RF [3] [0,1,5,2,3,4] 6 6 h t_node_node_need_I1.k fun _ _ h=>?_;refine GD ?_;exact Wx
          ·refine Ds (GP H 7 2 [0,1,10,1] [(141,ux 6 [.ff])] (Ds ?_));refine R1 ?_;refine RF [3] [0,1,5,2,3,4] 6 6 h t_node_node_need_I2.k fun _ _ h=>?_;refine GD ?_;exact Wx
       ·refine Vg 5 ?_;refine MI h (fun h=>?_) fun h=>?_
        ·refine Vg 1 ?_;refine AD fun all H=>?_;refine Gn H 1 3 ?_;have ⟨x54,ex54,h⟩:=Bs h;refine Ao 0 2 rfl ?_ ?_
         ·refine RV ?_;refine Ak 2 rfl (LL H.1 rfl trivial ((((((((((LR.slice 0 rfl).slice 1 rfl).slice 2 rfl).slice 3 rfl).slice 4 rfl).slice 5 rfl).block 1 rfl rfl).block 3 rfl rfl).block 4 rfl rfl).block 5 rfl rfl) rfl (k_node_Get_1.k ex54) (by kernel_rfl) (h:=Ds ?_));refine RF [3] [0,1,5,2,3,4] 6 6 h t_node_node_need_I1.k fun x56 ex56 h=>?_;refine GD (MI h (fun h=>?_) fun h=>?_)
          ·refine Vg 4 ?_;refine VR [3] [0,1,5,2,3,4] 6 6 h t_node_node_drop_I1.k fun x57 ex57 h=>?_;refine Vg 4 ?_;refine VR [3] [6,1,5,2,3,4] 6 7 h t_node_node_edge_I2.k fun x58 ex58 h=>?_;refine Vg 1 ?_;(refine Wj [.s 5,.s 3,.w 100 8,.r 6 9,.r 8 6,.r 9 0] ?_);exact Wx
          ·refine Vg 1 ?_;(refine Wj [.s 5,.s 3,.o 3 11 47 5] ?_);exact Wx
         ·refine LL H.1 rfl trivial ((((((((((LR.slice 0 rfl).slice 1 rfl).slice 2 rfl).slice 3 rfl).slice 4 rfl).slice 5 rfl).block 1 rfl rfl).block 3 rfl rfl).block 4 rfl rfl).block 5 rfl rfl) rfl (k_node_Get_1.k ex54) (by kernel_rfl) (h:=Ds ?_);refine R1 ?_;refine RF [3] [0,1,5,2,3,4] 6 6 h t_node_node_need_I1.k fun _ _ h=>?_;refine GD (MI h (fun h=>?_) fun h=>?_)
          ·refine Vg 4 ?_;refine VR [3] [0,1,5,2,3,4] 6 6 h t_node_node_drop_I1.k fun _ _ h=>?_;refine Vg 4 ?_;refine VR [3] [6,1,5,2,3,4] 6 7 h t_node_node_edge_I2.k fun _ _ h=>?_;refine Vg 1 ?_;(refine Wj [.s 5,.s 3,.w 100 8,.r 6 9,.r 8 6,.r 9 0] ?_);exact Wx
          ·refine Vg 1 ?_;(refine Wj [.s 5,.s 3,.o 3 11 47 5] ?_);exact Wx
        ·refine Vg 2 ?_;refine VR [3] [0,1,5,2,3,4] 6 6 h t_node_node_need_I2.k fun _ _ h=>?_;refine Vg 1 ?_;(refine Wj [.s 5,.s 3,.o 3 11 47 5] ?_);exact Wx
  ·refine MI h (fun h=>?_) fun h=>?_
   ·exact Wx
   ·refine Vg 5 ?_;refine MI h (fun h=>?_) fun h=>?_
    ·exact Wx
    ·refine Vg 5 ?_;refine MI h (fun h=>?_) fun h=>?_
     ·exact Wx
     ·exact Wx
 ·refine AD fun all H=>?_;refine Gn H 2 6 ?_;have ⟨x4,ex4,h⟩:=Bs h;refine Ao 1 6 rfl ?_ ?_
  ·refine HX H.1 [] [] 3 0 (t_node_own_I2.k ex4) (Ds ?_);have ⟨x6,ex6,h⟩:=Bs h;refine Ao 3 6 rfl ?_ ?_
   ·refine GC H.1 (k_node_Check.k ex6) ?_;refine Gn H 1 3 ?_;refine Ao 5 6 rfl ?_ ?_
    ·refine RV ?_;refine R1 ?_;refine R1 ?_;refine GD ?_;exact Wx
    ·refine RV ?_;refine R1 ?_;refine R1 ?_;refine GD (Df 3 4 rfl rfl ?_);exact Wx
   ·refine RV ?_;refine Ak 3 rfl (GC H.1 (k_node_Check.k ex6) ?_);refine Gn H 1 2 ?_;refine R1 ?_;refine R1 ?_;refine GD (Df 3 4 rfl rfl ?_);exact Wx
  ·refine RV ?_;refine Ak 1 rfl (HX H.1 [] [] 4 0 (t_node_own_I2.k ex4) (Ds ?_));refine RB h k_node_Check.k fun _ _ h=>?_;refine Gn H 1 2 ?_;refine R1 ?_;refine R1 ?_;refine GD (Df 3 4 rfl rfl ?_);exact Wx⟩
def V9 (x1:NO) (x2:Do):Option (NO×List ML×List EV×Int):=
 (KJ x1 x2).bind fun x3=>
 some (x3.1,x3.2.1,x3.2.2.1,x3.2.2.2)
instance k_hall_Act_1 {x1 x2}:KP (V9 x1 x2) 86 [.agg (NO.row x1),.elt (Do.row x2) 0] (fun r=>(.tup [.agg (NO.row r.1),CM r.2.1,ED r.2.2.1,.iv r.2.2.2])):=⟨fun{r} h=>by have ok:=oJ 86 Tryz.f86 [.c 3 (some 10),.t 4,.t 5,.t 6] 2 12;refine FP ok fun w0 H0=>?_;rw [V9] at h;exact Wx⟩
def Vd (x1:NO) (x2:Int) (x3:Msg):Option (NO×List ML×List EV×Int):=
 (KO x1 x2 x3).bind fun x4=>
 some (x4.1,x4.2.1,x4.2.2.1,x4.2.2.2)
instance k_hall_Deliver_2 {x1 x2 x3}:KP (Vd x1 x2 x3) 84 [.agg (NO.row x1),.elt (Am x2) 0,.elt (Msg.row x3) 0] (fun r=>(.tup [.agg (NO.row r.1),CM r.2.1,ED r.2.2.1,.iv r.2.2.2])):=⟨fun{r} h=>by have ok:=oJ 84 Tryz.f84 [.c 4 (some 10),.t 5,.t 6,.t 7] 3 13;refine FP ok fun w0 H0=>?_;rw [Vd] at h;exact Wx⟩
def Vr (x2:Int) (x9:List EV) (x11:NO):(List NO×List ML)→Option (List EV×Int×List NO×List ML)
| (x16,x17)=>
 (Ac x16 x2).bind fun _=>
 some (x9,0,x16.set (Int.toNat (x2)) x11,x17)
def Vq (x1:HL) (x2:Int) (x3:List ML):(List ML×List EV×Int×NO)→Option (List EV×Int×List NO×List ML)
| (x8,x9,x10,x11)=>
 A0 (!decide (x10=0)) (
 some (([]:List EV),x10,([]:List NO),([]:List ML))) (
 (Iw x1.NS).bind fun x12=>
 (Ix ([x3,x8])).bind fun x14=>
 (Vr x2 x9 x11) (x12,x14))
def Vp (x1:HL) (x2:Int) (x3:List ML) (x4:Do):Option (List EV×Int×List NO×List ML):=
 (Ac x1.NS x2).bind fun x5=>
 (V9 x5 x4).bind fun x6=>
 (Vq x1 x2 x3) (x6.2.1,x6.2.2.1,x6.2.2.2,x6.1)
instance t_hall_done_I2 {x1 x2 x3 x4}:KT (Vp x1 x2 x3 x4) 81 [.agg (HL.row x1),.agg [.iv x2,CM x3,.clo 86 [.ptr 0 0]]] [some ⟨79,Do.row x4⟩] [] (fun r=>(.tup [.agg [.osl 0,.osl 1],ED r.1,.iv r.2.1])) (fun _=>[none]) (fun r=>[F0 r.2.2.1,AG r.2.2.2]):=⟨fun{r} h=>by
 refine Ft XY fun w0 M0=>?_;have ok:=XY;have A3:AJ [.r 1 0]:=trivial;have A2:AJ [.r 2 1]:=trivial;have A1:AJ [.o 3 0 60 10,.o 3 1 156 5]:=trivial;rw [Vp] at h;refine Vg 9 ?_;refine HY 0 rfl rfl (Ds ?_);refine Vl [2,3] (fun s=>([(7,.ptr 4 0),(8,CM s.1),(9,ED s.2.1),(10,.iv s.2.2.1)],[none,some ⟨38,HL.row x1⟩,some ⟨164,[.iv x2,CM x3,.clo 86 [.elt (Do.row x4) 0]]⟩,some ⟨38,[.nl,.nl]⟩,some ⟨60,[.iv s.2.2.2.DK.DI.ID,.iv s.2.2.2.DK.DI.PH,CV s.2.2.2.DK.DI.SD,.iv s.2.2.2.DK.TH,Aj s.2.2.2.DK.NE,.iv s.2.2.2.BK.LA,Aq s.2.2.2.BK.SE,Bf s.2.2.2.KN,Aj s.2.2.2.TL,Bf s.2.2.2.AK]⟩],[])) (Vq x1 x2 x3) r ?_ fun J1=>?_
 ·rintro ⟨x8,x9,x10,x11⟩ h;rw [Vq] at h;refine Vg 6 ?_;refine MI h (fun h=>?_) fun h=>?_
  ·exact Wx
  ·refine Vg 2 ?_;refine Vl [3,2,2,1,1,1] (fun s=>([(11,.ptr 5 0)],[none,none,some ⟨164,[.iv x2,CM x3,.clo 86 [.elt (Do.row x4) 0]]⟩,some ⟨38,[.nl,.nl]⟩,some ⟨60,NO.row x11⟩,some ⟨38,[.osl 0,.osl 2]⟩],[F0 s.1,none,AG s.2])) (Vr x2 x9 x11) r ?_ fun J2=>?_
   ·rintro ⟨x16,x17⟩ h;rw [Vr] at h;refine Vg 7 ?_;have ⟨x18,ex18,h⟩:=Bs h;refine C5 NO.row ex18 trivial rfl rfl rfl (Du (NO.row x11) NO.row (y':=x11) ex18 trivial rfl rfl rfl (by first | exact AA _ | simp [go_sem]) rfl rfl rfl rfl ?_);exact Wx
   ·refine AD fun all H=>?_;refine Gn H 5 6 ?_;have ⟨x12,ex12,h⟩:=Bs h;refine Eo 2 6 9 rfl ?_ ?_ ?_
    ·refine AW H.1 rfl trivial (Fl ex12) (h:=Ds ?_);refine Ao 6 9 rfl ?_ ?_
     ·refine FV H.1 rfl trivial rfl trivial (Ds ?_);have ⟨x14,ex14,h⟩:=Bs h;refine Ao 7 9 rfl ?_ ?_
      ·refine AW H.1 rfl trivial (E4 ex14) (h:=?_);refine Gn H 1 2 ?_;refine R1 ?_;refine R1 ?_;refine GD ?_;exact Wx
      ·refine RV ?_;refine Ak 7 rfl (AW H.1 rfl trivial (E4 ex14) (h:=?_));refine Gn H 1 1 ?_;refine R1 ?_;refine GD ?_;exact Wx
     ·refine RV ?_;refine Ak 6 rfl (FV H.1 rfl trivial rfl trivial (Ds ?_));refine Ak 7 rfl ?_;have ⟨x14,ex14,h⟩:=Bs h;refine AW H.1 rfl trivial (E4 ex14) (h:=?_);refine Gn H 1 1 ?_;refine R1 ?_;refine GD ?_;exact Wx
    ·refine FV H.1 rfl trivial rfl trivial (Ds ?_);refine Ao 2 9 rfl ?_ ?_
     ·refine AW H.1 rfl trivial (Fl ex12) (h:=Ds ?_);have ⟨x14,ex14,h⟩:=Bs h;refine Ao 7 9 rfl ?_ ?_
      ·refine AW H.1 rfl trivial (E4 ex14) (h:=?_);refine Gn H 1 2 ?_;refine R1 ?_;refine R1 ?_;refine GD ?_;(refine Wj [.r 1 0] ?_);exact Wx
      ·refine RV ?_;refine Ak 7 rfl (AW H.1 rfl trivial (E4 ex14) (h:=?_));refine Gn H 1 1 ?_;refine R1 ?_;refine GD ?_;(refine Wj [.r 1 0] ?_);exact Wx
     ·refine RV ?_;refine Ak 2 rfl (AW H.1 rfl trivial (Fl ex12) (h:=Ds ?_));refine Ak 7 rfl ?_;have ⟨x14,ex14,h⟩:=Bs h;refine AW H.1 rfl trivial (E4 ex14) (h:=?_);refine Gn H 1 1 ?_;refine R1 ?_;refine GD ?_;(refine Wj [.r 1 0] ?_);exact Wx
    ·refine RV ?_;refine Ao 2 6 rfl ?_ ?_
     ·refine AW H.1 rfl trivial (Fl ex12) (h:=Ds ?_);refine Ak 6 rfl (FV H.1 rfl trivial rfl trivial (Ds ?_));refine Ak 7 rfl ?_;have ⟨x14,ex14,h⟩:=Bs h;refine AW H.1 rfl trivial (E4 ex14) (h:=?_);refine Gn H 1 1 ?_;refine R1 ?_;refine GD ?_;exact Wx
     ·refine FV H.1 rfl trivial rfl trivial (Ds ?_);refine Ak 2 rfl (AW H.1 rfl trivial (Fl ex12) (h:=Ds ?_));refine Ak 7 rfl ?_;have ⟨x14,ex14,h⟩:=Bs h;refine AW H.1 rfl trivial (E4 ex14) (h:=?_);refine Gn H 1 1 ?_;refine R1 ?_;refine GD ?_;(refine Wj [.r 1 0] ?_);exact Wx
 ·refine AD fun all H=>Ds (GP H 6 13 [6,13] [(13,[.ptr 2 2,.clo 86 [.elt (Do.row x4) 0],.ptr 1 0,Ep x1.NS,.ptr 2 0,.iv x2])] (Ds ?_));have ⟨x5,ex5,h⟩:=Bs h;refine BT H.1 H.2.1 H.2.2.1 H.2.2.2 6 NO.row ex5 rfl rfl trivial rfl rfl rfl rfl (Gn H 1 11 ?_);have ⟨x6,ex6,h⟩:=Bs h;refine Ao 8 14 rfl ?_ ?_
  ·refine U3 H.1 rfl trivial rfl (k_hall_Act_1.k ex6) (by kernel_rfl) (h:=?_);exact Wx
  ·refine RV ?_;refine Ak 8 rfl (U3 H.1 rfl trivial rfl (k_hall_Act_1.k ex6) (by kernel_rfl) (h:=?_));exact Wx⟩
def Vo (x2:Int) (x10:List EV) (x12:NO):(List NO×List ML)→Option (List EV×Int×List NO×List ML)
| (x17,x18)=>
 (Ac x17 x2).bind fun _=>
 some (x10,0,x17.set (Int.toNat (x2)) x12,x18)
def Vn (x1:HL) (x2:Int) (x5:List ML):(List ML×List EV×Int×NO)→Option (List EV×Int×List NO×List ML)
| (x9,x10,x11,x12)=>
 A0 (!decide (x11=0)) (
 some (([]:List EV),x11,([]:List NO),([]:List ML))) (
 (Iw x1.NS).bind fun x13=>
 (Ix ([x5,x9])).bind fun x15=>
 (Vo x2 x10 x12) (x13,x15))
def Vh (x1:HL) (x2:Int) (x3:Int) (x4:Msg) (x5:List ML):Option (List EV×Int×List NO×List ML):=
 (Ac x1.NS x2).bind fun x6=>
 (Vd x6 x3 x4).bind fun x7=>
 (Vn x1 x2 x5) (x7.2.1,x7.2.2.1,x7.2.2.2,x7.1)
instance t_hall_done_I1 {x1 x2 x3 x4 x5}:KT (Vh x1 x2 x3 x4 x5) 81 [.agg (HL.row x1),.agg [.iv x2,.osl 0,.clo 84 [.ptr 0 0,.ptr 1 0]]] [some ⟨3,[.iv x3]⟩,some ⟨154,Msg.row x4⟩] [AG x5] (fun r=>(.tup [.agg [.osl 1,.osl 2],ED r.1,.iv r.2.1])) (fun _=>[none,none]) (fun r=>[none,F0 r.2.2.1,AG r.2.2.2]):=⟨fun{r} h=>by
 refine Ft XY fun w0 M0=>?_;have ok:=XY;have A3:AJ [.r 2 1]:=trivial;have A2:AJ [.r 3 2]:=trivial;have A1:AJ [.o 4 0 60 10,.o 4 1 156 5]:=trivial;rw [Vh] at h;refine Vg 9 ?_;refine HY 0 rfl rfl (Ds ?_);refine HY 1 rfl rfl (Ds ?_);refine Vl [2,3] (fun s=>([(7,.ptr 5 0),(8,CM s.1),(9,ED s.2.1),(10,.iv s.2.2.1)],[none,none,some ⟨38,HL.row x1⟩,some ⟨164,[.iv x2,.osl 0,.clo 84 [.elt [.iv x3] 0,.elt (Msg.row x4) 0]]⟩,some ⟨38,[.nl,.nl]⟩,some ⟨60,[.iv s.2.2.2.DK.DI.ID,.iv s.2.2.2.DK.DI.PH,CV s.2.2.2.DK.DI.SD,.iv s.2.2.2.DK.TH,Aj s.2.2.2.DK.NE,.iv s.2.2.2.BK.LA,Aq s.2.2.2.BK.SE,Bf s.2.2.2.KN,Aj s.2.2.2.TL,Bf s.2.2.2.AK]⟩],[AG x5])) (Vn x1 x2 x5) r ?_ fun J1=>?_
 ·rintro ⟨x9,x10,x11,x12⟩ h;rw [Vn] at h;refine Vg 6 ?_;refine MI h (fun h=>?_) fun h=>?_
  ·exact Wx
  ·refine Vg 2 ?_;(refine Wj [.s 0] ?_);refine Vl [3,2,2,1,1,1] (fun s=>([(11,.ptr 6 0)],[none,none,none,some ⟨164,[.iv x2,CM x5,.clo 84 [.elt [.iv x3] 0,.elt (Msg.row x4) 0]]⟩,some ⟨38,[.nl,.nl]⟩,some ⟨60,NO.row x12⟩,some ⟨38,[.osl 1,.osl 3]⟩],[none,F0 s.1,none,AG s.2])) (Vo x2 x10 x12) r ?_ fun J2=>?_
   ·rintro ⟨x17,x18⟩ h;rw [Vo] at h;refine Vg 7 ?_;have ⟨x19,ex19,h⟩:=Bs h;refine C5 NO.row ex19 trivial rfl rfl rfl (Du (NO.row x12) NO.row (y':=x12) ex19 trivial rfl rfl rfl (by first | exact AA _ | simp [go_sem]) rfl rfl rfl rfl ?_);exact Wx
   ·refine AD fun all H=>?_;refine Gn H 5 6 ?_;have ⟨x13,ex13,h⟩:=Bs h;refine Eo 2 6 9 rfl ?_ ?_ ?_
    ·refine AW H.1 rfl trivial (Fl ex13) (h:=Ds ?_);refine Ao 6 9 rfl ?_ ?_
     ·refine FV H.1 rfl trivial rfl trivial (Ds ?_);have ⟨x15,ex15,h⟩:=Bs h;refine Ao 7 9 rfl ?_ ?_
      ·refine AW H.1 rfl trivial (E4 ex15) (h:=?_);refine Gn H 1 2 ?_;refine R1 ?_;refine R1 ?_;refine GD ?_;exact Wx
      ·refine RV ?_;refine Ak 7 rfl (AW H.1 rfl trivial (E4 ex15) (h:=?_));refine Gn H 1 1 ?_;refine R1 ?_;refine GD ?_;exact Wx
     ·refine RV ?_;refine Ak 6 rfl (FV H.1 rfl trivial rfl trivial (Ds ?_));refine Ak 7 rfl ?_;have ⟨x15,ex15,h⟩:=Bs h;refine AW H.1 rfl trivial (E4 ex15) (h:=?_);refine Gn H 1 1 ?_;refine R1 ?_;refine GD ?_;exact Wx
    ·refine FV H.1 rfl trivial rfl trivial (Ds ?_);refine Ao 2 9 rfl ?_ ?_
     ·refine AW H.1 rfl trivial (Fl ex13) (h:=Ds ?_);have ⟨x15,ex15,h⟩:=Bs h;refine Ao 7 9 rfl ?_ ?_
      ·refine AW H.1 rfl trivial (E4 ex15) (h:=?_);refine Gn H 1 2 ?_;refine R1 ?_;refine R1 ?_;refine GD ?_;(refine Wj [.r 2 1] ?_);exact Wx
      ·refine RV ?_;refine Ak 7 rfl (AW H.1 rfl trivial (E4 ex15) (h:=?_));refine Gn H 1 1 ?_;refine R1 ?_;refine GD ?_;(refine Wj [.r 2 1] ?_);exact Wx
     ·refine RV ?_;refine Ak 2 rfl (AW H.1 rfl trivial (Fl ex13) (h:=Ds ?_));refine Ak 7 rfl ?_;have ⟨x15,ex15,h⟩:=Bs h;refine AW H.1 rfl trivial (E4 ex15) (h:=?_);refine Gn H 1 1 ?_;refine R1 ?_;refine GD ?_;(refine Wj [.r 2 1] ?_);exact Wx
    ·refine RV ?_;refine Ao 2 6 rfl ?_ ?_
     ·refine AW H.1 rfl trivial (Fl ex13) (h:=Ds ?_);refine Ak 6 rfl (FV H.1 rfl trivial rfl trivial (Ds ?_));refine Ak 7 rfl ?_;have ⟨x15,ex15,h⟩:=Bs h;refine AW H.1 rfl trivial (E4 ex15) (h:=?_);refine Gn H 1 1 ?_;refine R1 ?_;refine GD ?_;exact Wx
     ·refine FV H.1 rfl trivial rfl trivial (Ds ?_);refine Ak 2 rfl (AW H.1 rfl trivial (Fl ex13) (h:=Ds ?_));refine Ak 7 rfl ?_;have ⟨x15,ex15,h⟩:=Bs h;refine AW H.1 rfl trivial (E4 ex15) (h:=?_);refine Gn H 1 1 ?_;refine R1 ?_;refine GD ?_;(refine Wj [.r 2 1] ?_);exact Wx
 ·refine AD fun all H=>Ds (GP H 6 13 [6,13] [(13,[.ptr 3 2,.clo 84 [.elt [.iv x3] 0,.elt (Msg.row x4) 0],.ptr 2 0,Ep x1.NS,.ptr 3 0,.iv x2])] (Ds ?_));have ⟨x6,ex6,h⟩:=Bs h;refine BT H.1 H.2.1 H.2.2.1 H.2.2.2 6 NO.row ex6 rfl rfl trivial rfl rfl rfl rfl (Gn H 1 11 ?_);have ⟨x7,ex7,h⟩:=Bs h;refine Ao 8 14 rfl ?_ ?_
  ·refine U3 H.1 rfl trivial rfl (k_hall_Deliver_2.k ex7) (by kernel_rfl) (h:=?_);exact Wx
  ·refine RV ?_;refine Ak 8 rfl (U3 H.1 rfl trivial rfl (k_hall_Deliver_2.k ex7) (by kernel_rfl) (h:=?_));exact Wx⟩
def KA (x1:HL) (x2:Int) (x3:Do):Bool→Option (HL×List EV×Int)
| x7=>
 A0 x7 (
 some ((HL.mk (([]:List NO)) (([]:List ML))),([]:List EV),191)) (
 (N2 x1).bind fun x8=>
 (Vp x8 x2 x1.ML x3).bind fun x9=>
 some ((HL.mk x9.2.2.1 x9.2.2.2),x9.1,x9.2.1))
def Js (x1:HL) (x2:Int) (x3:Do):Option (HL×List EV×Int):=
 (MY x1).bind fun x4=>
 A0 (!decide (x4=0)) (
 some ((HL.mk (([]:List NO)) (([]:List ML))),([]:List EV),x4)) (
 (Hs x1 x2).bind fun x5=>
 A0 (!x5) (
 (KA x1 x2 x3) true) (
 A0 (decide (x3.KI=4)) (
 (Hs x1 x3.PE).bind fun x6=>
 (KA x1 x2 x3) (!x6)) (
 (KA x1 x2 x3) false)))
instance k_hall_Act {x1 x2 x3}:KP (Js x1 x2 x3) 49 [.agg (HL.row x1),.iv x2,.agg (Do.row x3)] (fun r=>(.tup [.agg (HL.row r.1),ED r.2.1,.iv r.2.2])):=⟨fun{r} h=>by
 have ok:=oJ 49 Tryz.f49 [.c 6 (some 2),.t 7,.t 8] 3 41;refine FP ok fun w0 H0=>?_;have A1:AJ [.s 0,.s 1]:=trivial;rw [Js] at h;refine Vg 12 ?_;refine VB h k_hall_Check.k fun _ _ h=>?_;refine Vg 7 ?_;refine MI h (fun h=>?_) fun h=>?_
 ·exact Wx
 ·refine Vg 6 ?_;refine VB h k_hall_there.k fun _ _ h=>?_;refine Vg 2 ?_;refine Vk [1,1,1,1,1,2] (fun x7=>[(31,.bv x7)]) (KA x1 x2 x3) r ?_ fun J1=>?_
  ·intro x7 h;rw [KA] at h;exact Wx
  ·exact Wx⟩
def aa:(List EV×Int×List NO×List ML)→Option (HL×List EV×Int)
| (x16,x17,x18,x19)=>some ((HL.mk x18 x19),x16,x17)
def N1 (x1:HL) (x2:Int) (x3:Int):Bool→Option (HL×List EV×Int)
| x7=>
 A0 x7 (
 some ((HL.mk (([]:List NO)) (([]:List ML))),([]:List EV),191)) (
 (Li x1.ML ((fun z=>N0 z x2 x3))).bind fun x8=>
 A0 (decide (x8<0)) (
 some ((HL.mk (([]:List NO)) (([]:List ML))),([]:List EV),192)) (
 (Ac x1.ML x8).bind fun x9=>
 (D3 x1.ML 0 x8).bind fun x10=>
 (D3 x1.ML (wr (x8+1)) (ln ML.row x1.ML)).bind fun x11=>
 (N2 x1).bind fun x12=>
 (Ix ([x10,x11])).bind fun x14=>
 (Vh x12 x3 x2 x9.Msg x14).bind fun x15=>
 aa (x15.1,x15.2.1,x15.2.2.1,x15.2.2.2)))
def Hr (x1:HL) (x2:Int) (x3:Int):Option (HL×List EV×Int):=
 (MY x1).bind fun x4=>
 A0 (!decide (x4=0)) (
 some ((HL.mk (([]:List NO)) (([]:List ML))),([]:List EV),x4)) (
 (Hs x1 x2).bind fun x5=>
 A0 (!x5) (
 (N1 x1 x2 x3) true) (
 (Hs x1 x3).bind fun x6=>
 (N1 x1 x2 x3) (!x6)))
instance k_hall_Deliver {x1 x2 x3}:KP (Hr x1 x2 x3) 48 [.agg (HL.row x1),.iv x2,.iv x3] (fun r=>(.tup [.agg (HL.row r.1),ED r.2.1,.iv r.2.2])):=⟨fun{r} h=>by
 have ok:=oJ 48 Tryz.f48 [.c 6 (some 2),.t 7,.t 8] 3 59;refine FP ok fun w0 H0=>?_;have A1:AJ [.s 2,.s 3]:=trivial;rw [Hr] at h;refine Vg 13 ?_;refine VB h k_hall_Check.k fun _ _ h=>?_;refine Vg 7 ?_;refine MI h (fun h=>?_) fun h=>?_
 ·exact Wx
 ·refine Vg 6 ?_;refine VB h k_hall_there.k fun _ _ h=>?_;refine Vg 2 ?_;refine Vk [3,4] (fun x7=>[(27,.bv x7)]) (N1 x1 x2 x3) r ?_ fun J1=>?_
  ·intro x7 h;rw [N1] at h;refine MI h (fun h=>?_) fun h=>?_
   ·exact Wx
   ·refine Vg 6 ?_;refine VN ((LR.block 1 rfl rfl).block 2 rfl rfl) h k_slices_IndexFunc_Mail.k fun x8 _ h=>?_;refine Vg 8 ?_;refine MI h (fun h=>?_) fun h=>?_
    ·exact Wx
    ·refine Vg 6 ?_;have ⟨x9,ex9,h⟩:=Bs h;refine Dt ML.row ex9 trivial rfl rfl rfl (Vg 6 ?_);refine Vl [6,1] (fun s=>([(7,ED s.1),(8,.iv s.2.1)],[none,none,none,some ⟨38,[.osl 2,.osl 3]⟩],[none,none,F0 s.2.2.1,AG s.2.2.2])) aa r ?_ fun J2=>?_
     ·rintro ⟨x16,x17,x18,x19⟩ h;rw [aa] at h;exact Wx
     ·refine AD fun all H=>Ds (GP H 10 13 [1,1,4,1,4,3,1,8] [(42,[.agg (HL.row x1)]),(1,[.iv x3,.ptr 0 1,CM x1.ML,.iv x8]),(1,[.ptr 0 1,CM x1.ML,.iv x8,.iv (wr (x8+1))]),(3,[.clo 84 [.ptr 1 0,.ptr 4 0]])] (Ds ?_));have ⟨x10,ex10,h⟩:=Bs h;refine dk H.1 H.2.1 H.2.2.1 H.2.2.2 6 ML.row ex10 rfl rfl trivial rfl rfl rfl rfl rfl (Ds ?_);have ⟨x11,ex11,h⟩:=Bs h;refine dk H.1 H.2.1 H.2.2.1 H.2.2.2 11 ML.row ex11 rfl rfl trivial rfl rfl rfl rfl rfl (Ds ?_);have ⟨x12,ex12,h⟩:=Bs h;refine Ao 1 12 rfl ?_ ?_
      ·refine GC H.1 (k_hall_own.k ex12) (Ds ?_);refine Ak 12 rfl (FV H.1 rfl trivial rfl trivial (Ds ?_));refine Ak 13 rfl ?_;have ⟨x14,ex14,h⟩:=Bs h;refine AW H.1 rfl trivial (E4 ex14) (h:=?_);exact Wx
      ·refine FV H.1 rfl trivial rfl trivial (Ds ?_);refine Ak 1 rfl (GC H.1 (k_hall_own.k ex12) (Ds ?_));refine Ak 13 rfl ?_;have ⟨x14,ex14,h⟩:=Bs h;refine AW H.1 rfl trivial (E4 ex14) (h:=?_);exact Wx
  ·exact Wx⟩
def Jx (x1:HL) (x2:narthexlaw19_Step):Option (HL×List EV×Int):=
 A0 x2.ML (
 (Hr x1 x2.A x2.B).bind fun x3=>
 some (x3.1,x3.2.1,x3.2.2)) (
 (AE 8 (([]:List Int)) x2.Do.NE).bind fun x4=>
 (Js x1 x2.A (Do.mk x2.Do.KI x2.Do.ID x2.Do.PE x2.Do.Hold x4)).bind fun x5=>
 some (x5.1,x5.2.1,x5.2.2))
instance k_narthexlaw19_Act {x1 x2}:KP (Jx x1 x2) 23 [.agg (HL.row x1),.agg (narthexlaw19_Step.row x2)] (fun r=>(.tup [.agg (HL.row r.1),ED r.2.1,.iv r.2.2])):=⟨fun{r} h=>by
 have ok:=oJ 23 Tryz.f23 [.c 4 (some 2),.t 5,.t 6] 2 43;refine FP ok fun w0 H0=>?_;have A1:AJ [.s 1]:=trivial;rw [Jx] at h;refine Vg 14 ?_;refine MI h (fun h=>?_) fun h=>?_
 ·exact Wx
 ·refine Vg 7 ?_;have ⟨x4,ex4,h⟩:=Bs h;refine Er Am ex4 trivial rfl rfl rfl (Vg 21 ?_);(refine Wj [.s 1] ?_);refine VB h k_hall_Act.k fun _ _ h=>?_;exact Wx⟩
@[go_sem] def e8:EC:=eQ Tryz.f8
theorem j9:FnOK Tryz.prog 8 Tryz.f8 e8 [.c 6 (some 2),.t 7] 3 61:=AP
def ax:(List Place×HL)→Option (HL×Bool×List Place)
| (x47,x48)=>some (x48,true,x47)
def Ni (x24:Int):(List Place×HL)→Option ((Int×List Place×HL) ⊕ (HL×Bool×List Place))
| (x38,x39)=>some (.inl (wr (x24+1),x38,x39))
def Nh (x24:Int) (x25:List Place) (x26:HL) (x32:List EV) (x33:Int) (x34:HL):Bool→Option ((Int×List Place×HL) ⊕ (HL×Bool×List Place))
| x36=>
 A0 x36 (
 Option.map Sum.inr (some (x26,false,x25))) (
 A0 (decide (x33=0)) (
 (Rh x34 x32 x25).bind fun x37=>
 A0 (!x37.1) (
 Option.map Sum.inr (some (x34,false,x37.2))) (
 (Ni x24) (x37.2,x34))) (
 (Ni x24) (x25,x26)))
def VX (x24:Int) (x25:List Place) (x26:HL):(List EV×Int×HL)→Option ((Int×List Place×HL) ⊕ (HL×Bool×List Place))
| (x32,x33,x34)=>
 A0 (!decide (x33=0)) (
 (R9 x33).bind fun x35=>
 (Nh x24 x25 x26 x32 x33 x34) (!x35)) (
 (Nh x24 x25 x26 x32 x33 x34) false)
def R4 (x2:List narthexlaw19_Step):(Int×List Place×HL)→Option ((Int×List Place×HL) ⊕ (HL×Bool×List Place))
| (x24,x25,x26)=>
 A0 (decide (x24<(ln narthexlaw19_Step.row x2))) (
 (Ac x2 x24).bind fun x27=>
 (QY x26).bind fun x28=>
 (Jx x28 x27).bind fun x30=>
 (VX x24 x25 x26) (x30.2.1,x30.2.2,x30.1)) (
 Option.map Sum.inr (ax (x25,x26)))
def R0 (x2:List narthexlaw19_Step) (x3:List Place) (x5:(HL×Int)):Bool→Option (HL×Bool×List Place)
| x7=>
 A0 x7 (
 some (x5.1,false,x3)) (
 loop (R4 x2) (0,x3,x5.1))
def QZ (x1:Graph) (x2:List narthexlaw19_Step) (x3:List Place):Option (HL×Bool×List Place):=
 (Jv x1).bind fun x4=>
 (Qu x4).bind fun x5=>
 A0 (!decide (x5.2=0)) (
 (R0 x2 x3 x5) true) (
 (Rb x5.1 x3).bind fun x6=>
 (R0 x2 x3 x5) (!x6))
instance t_narthexlaw19_Run_I1 {x1 x2 x3}:KT (QZ x1 x2 x3) 8 [.agg (Graph.row x1),U7 x2,.clo 9 [.ptr 0 0]] [some ⟨30,[C0 x3]⟩] [] (fun r=>(.tup [.agg [Ep r.1.NS,CM r.1.ML],.bv r.2.1])) (fun r=>[some ⟨30,[C0 r.2.2]⟩]) (fun _=>[]):=⟨fun{r} h=>by
 refine Ft j9 fun w0 M0=>?_;have ok:=j9;rw [QZ] at h;refine Vg 9 ?_;refine VB h k_narthexlaw03_Own.k fun _ _ h=>?_;refine VB h k_hall_New.k fun x5 _ h=>?_;refine Vg 13 ?_;refine Vm [1,2,3,1,1,1] (fun x7=>([(27,.bv x7)],[],[(1,none)],[])) (R0 x2 x3 x5) r ?_ fun J1=>?_
 ·intro x7 h;rw [R0] at h;refine MI h (fun h=>?_) fun h=>?_
  ·exact Wx
  ·refine Vg 6 ?_;refine Vm [6,1,1,1] (fun s=>([],[(0,0,C0 s.1),(3,0,Ep s.2.NS),(3,1,CM s.2.ML)],[],[])) ax r ?_ fun J2=>?_
   ·rintro ⟨x47,x48⟩ h;rw [ax] at h;exact Wx
   ·refine Vg 1 ?_;refine Mm h [1,2,3,1,1,1] (fun s=>([(10,.iv s.1)],[(0,0,C0 s.2.1),(3,0,Ep s.2.2.NS),(3,1,CM s.2.2.ML)],[],[])) ?_;rintro n1 ⟨x24,x25,x26⟩ y1 h hin1 hout1;rw [R4] at h;refine Vg 8 ?_;refine MI h (fun h=>?_) fun h=>?_
    ·refine Vg 4 ?_;refine Vl [1,2,3,1,1,1,1,1] (fun s=>([(11,.ptr 4 0),(12,ED s.1),(13,.iv s.2.1)],[some ⟨30,[C0 x25]⟩,none,some ⟨38,[.nl,.nl]⟩,some ⟨38,HL.row x26⟩,some ⟨38,[Ep s.2.2.NS,CM s.2.2.ML]⟩],[])) (VX x24 x25 x26) y1 ?_ fun J3=>?_
     ·rintro ⟨x32,x33,x34⟩ h;rw [VX] at h;refine Vg 6 ?_;refine Vk [1,2,3,1,1,1,1,4] (fun x36=>[(52,.bv x36)]) (Nh x24 x25 x26 x32 x33 x34) y1 ?_ fun J4=>?_
      ·intro x36 h;rw [Nh] at h;refine MI h (fun h=>?_) fun h=>?_
       ·exact Wx
       ·refine Vg 6 ?_;refine Vl [1,2,3,1,1,1,1,1] (fun s=>([],[some ⟨30,[C0 s.1]⟩,none,some ⟨38,[.nl,.nl]⟩,some ⟨38,[Ep s.2.NS,CM s.2.ML]⟩],[])) (Ni x24) y1 ?_ fun J5=>?_
        ·rintro ⟨x38,x39⟩ h;rw [Ni] at h;exact Wx
        ·refine MI h (fun h=>?_) fun h=>?_
         ·refine Vg 10 ?_;have ⟨x37,ex37,h⟩:=Bs h;refine H8 [true,false,false,false,false] [] trivial rfl (EY [0] [] 5 0 (t_narthexlaw20_ModelHall_1_I2.k ex37)) (by kernel_rfl) (h:=?_);exact Wx
         ·exact Wx
      ·exact Wx
     ·have ⟨x27,ex27,h⟩:=Bs h;have ⟨x28,ex28,h⟩:=Bs h;have ⟨x30,ex30,h⟩:=Bs h;have q0:=k_narthexlaw19_Own.k ex28;have q1:=k_narthexlaw19_Act.k ex30;exact Wx
    ·exact Wx
 ·refine MC 22 h (fun h=>?_) fun h=>?_
  ·exact Wx
  ·refine Vg 2 ?_;have ⟨x6,ex6,h⟩:=Bs h;refine H8 [true,false,false,false] [] trivial rfl (EY [0] [] 4 0 (t_narthexlaw20_ModelHall_1_I1.k ex6)) (by kernel_rfl) (h:=?_);exact Wx⟩
def W6:Bool→Option Bool
| x10=>some x10
def KH (x1:Graph) (x2:List narthexlaw19_Step):Bool→Option Bool
| x5=>
 A0 x5 (
 (Nq).bind fun x6=>
 some x6) (
 (Jv x1).bind fun x7=>
 (Jt x7).bind fun x8=>
 (QZ x1 x2 x8.1.Places).bind fun x9=>
 A0 x9.2.1 (
 W6 (decide (x8.2=0))) (
 W6 false))
def Ra (x1:Graph) (x2:List narthexlaw19_Step):Option Bool:=
 (Nq).bind fun x3=>
 A0 (!x3) (
 (KH x1 x2) true) (
 (R5 x1 x2).bind fun x4=>
 (KH x1 x2) (!x4))
theorem fX {x1 x2 r} (h:Ra x1 x2=some r):FPx 3 [.agg (Graph.row x1),U7 x2] (.bv r):=by
 have ok:=oJ 3 Tryz.f3 [.t 4] 2 34;refine FP ok fun w0 H0=>?_;rw [Ra] at h;refine Vg 8 ?_;refine VB h k_narthexlaw20_awake.k fun _ _ h=>?_;refine Vg 2 ?_;refine Vk [1,2] (fun x5=>[(16,.bv x5)]) (KH x1 x2) r ?_ fun J1=>?_
 ·intro x5 h;rw [KH] at h;refine MI h (fun h=>?_) fun h=>?_
  ·refine Vg 2 ?_;refine VB h k_narthexlaw20_awake.k fun _ _ h=>?_;exact Wx
  ·refine Vg 4 ?_;refine VB h k_narthexlaw03_Own.k fun _ _ h=>?_;refine VB h k_model_New.k fun _ _ h=>?_;refine Vg 12 ?_;refine VR [1] [] 2 0 h t_narthexlaw19_Run_I1.k fun _ _ h=>?_;refine Vg 11 ?_;refine Vl [] (fun x10=>([(4,.bv x10)],[],[])) W6 r ?_ fun J2=>?_
   ·intro x10 h;rw [W6] at h;exact Wx
   ·exact Wx
 ·exact Wx
instance {x1 x2}:KP (Ra x1 x2) 3 [.agg (Graph.row x1),U7 x2] (fun r=>(.bv r)):=⟨fun h=>fX h⟩
end
end NX
end Go.Proofs.YtgnjledocpbchaaGreat
