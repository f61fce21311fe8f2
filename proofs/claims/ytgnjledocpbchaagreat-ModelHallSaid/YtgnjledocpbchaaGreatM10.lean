/-
  The function (*narthex/node.node).sessions, lent own memory. Written by a program of ours (lb.py). No statement of the seat is proved here.
-/
import Derived.Test.YtgnjledocpbchaaGreatM9
set_option maxRecDepth 100000
set_option maxHeartbeats 40000000
namespace Go.Proofs.YtgnjledocpbchaaGreat
namespace NX
open Go
noncomputable section
def Ga:(Int×Int×Int×Int×List SE×Int×List EV×List SX×List Int)→Option (Int×Int×Int×Int×List SE×Int×List EV×List SX×List Int)
| (x44,x45,x46,x47,x48,x49,x50,x51,x52)=>some (x44,x45,x46,x47,x48,x49,x50,x51,x52)
def Sc (x1:Do) (x2:Int) (x3 x4 x5:Int) (x7:List SX) (x8:List Int) (x9:List SE) (x16:BK):(Bool×Int)→Option (Int×Int×Int×Int×List SE×Int×List EV×List SX×List Int)
| (x21,x22)=>
 A0 x21 (
 (Gb x1.NE).bind fun x23=>
 (AE 56 [] ([EV.mk 0 x2 x1.ID 0 x23])).bind fun x24=>
 Ga (x2,x3,x4,x16.LA,x16.SE,x22,x24,x7,x8)) (
 Ga (x2,x3,x4,x5,x9,x22,([]:List EV),x7,x8))
def Wu (x1:Do) (x2:Int) (x3 x4:Int) (x5 x6:Int) (x7:List SX) (x8:List Int) (x9:List SE) (x10:List KE) (x11:List Int) (x12:List KE):(Int×BK)→Option (Int×Int×Int×Int×List SE×Int×List EV×List SX×List Int)
| (x15,x16)=>
 (HC (decide (x15=0)) x15 x2 x3 x4 x5 x9 x6 x7 x8 x10 x11 x12).bind fun x17=>
 A0 x17.1 (
 (Rr x2 x3 x4 x5 x9 x7 x8 x10 x11 x12).bind fun x18=>
 (HG x1.NE x18).bind fun x19=>
 (HC x19 181 x2 x3 x4 x5 x9 x17.2 x7 x8 x10 x11 x12).bind fun x20=>
 (Sc x1 x2 x3 x4 x5 x7 x8 x9 x16) (x20.1,x20.2)) (
 (Sc x1 x2 x3 x4 x5 x7 x8 x9 x16) (false,x17.2))
def Sd (x2 x3 x4:Int) (x7:List SX) (x8:List Int) (x10:List KE) (x11:List Int) (x12:List KE) (x31:(Bool×Int×List SE×Int)) (x32:List EV):Bool→Option (Int×Int×Int×Int×List SE×Int×List EV×List SX×List Int)
| x33=>
 A0 x33 (
 (HE x2 x3 x4 x31.2.1 x31.2.2.1 x31.2.2.2 x7 x8 x10 x11 x12 x32).bind fun x34=>
 Ga (x34.1,x34.2.1,x34.2.2.1,x31.2.1,x31.2.2.1,x31.2.2.2,x32,x34.2.2.2.1,x34.2.2.2.2)) (
 Ga (x2,x3,x4,x31.2.1,x31.2.2.1,x31.2.2.2,x32,x7,x8))
def Se (x2 x3 x4:Int) (x7:List SX) (x8:List Int) (x10:List KE) (x11:List Int) (x12:List KE) (x37:Int) (x40:(Bool×Int×List SE×Int)):Bool→Option (Int×Int×Int×Int×List SE×Int×List EV×List SX×List Int)
| x41=>
 A0 x41 (
 (L0 4 x37 x2 x3 x4 x40.2.1 x40.2.2.1 x40.2.2.2 x7 x8 x10 x11 x12).bind fun x42=>
 (HE x2 x3 x4 x40.2.1 x40.2.2.1 x40.2.2.2 x7 x8 x10 x11 x12 x42).bind fun x43=>
 Ga (x43.1,x43.2.1,x43.2.2.1,x40.2.1,x40.2.2.1,x40.2.2.2,x42,x43.2.2.2.1,x43.2.2.2.2)) (
 Ga (x2,x3,x4,x40.2.1,x40.2.2.1,x40.2.2.2,([]:List EV),x7,x8))
def Wv (x2 x3:Int) (x4 x5 x6:Int) (x7:List SX) (x8:List Int) (x9:List SE) (x10:List KE) (x11:List Int) (x12:List KE):(Int×Int×BK)→Option (Int×Int×Int×Int×List SE×Int×List EV×List SX×List Int)
| (x37,x38,x39)=>
 (KU x39 x38 x2 x3 x4 x5 x9 x6 x7 x8 x10 x11 x12).bind fun x40=>
 A0 x40.1 (
 (Se x2 x3 x4 x7 x8 x10 x11 x12 x37 x40) (!decide (x37=0))) (
 (Se x2 x3 x4 x7 x8 x10 x11 x12 x37 x40) false)
def NI (x1:Do) (x2:Int) (x3 x4:Int) (x5 x6:Int) (x7:List SX) (x8:List Int) (x9:List SE) (x10:List KE) (x11:List Int) (x12:List KE):Option (Int×Int×Int×Int×List SE×Int×List EV×List SX×List Int):=
 A0 (decide (x1.KI=0)) (
 (O0 (BK.mk x5 x9) x1.ID x1.NE).bind fun x13=>
 (Wu x1 x2 x3 x4 x5 x6 x7 x8 x9 x10 x11 x12) (x13.2,x13.1)) (
 A0 (decide (x1.KI=1)) (
 (O1 (BK.mk x5 x9) x1.ID).bind fun x25=>
 (KU x25.1 x25.2 x2 x3 x4 x5 x9 x6 x7 x8 x10 x11 x12).bind fun x26=>
 A0 x26.1 (
 (L0 2 x1.ID x2 x3 x4 x26.2.1 x26.2.2.1 x26.2.2.2 x7 x8 x10 x11 x12).bind fun x27=>
 (HE x2 x3 x4 x26.2.1 x26.2.2.1 x26.2.2.2 x7 x8 x10 x11 x12 x27).bind fun x28=>
 Ga (x28.1,x28.2.1,x28.2.2.1,x26.2.1,x26.2.2.1,x26.2.2.2,x27,x28.2.2.2.1,x28.2.2.2.2)) (
 Ga (x2,x3,x4,x26.2.1,x26.2.2.1,x26.2.2.2,([]:List EV),x7,x8))) (
 A0 (decide (x1.KI=2)) (
 (RH x2 x3 x4 x5 x7 x8 x9 x10 x11 x12).bind fun x29=>
 (NU (BK.mk x5 x9) x1.ID).bind fun x30=>
 (KU x30.1 x30.2 x2 x3 x4 x5 x9 x6 x7 x8 x10 x11 x12).bind fun x31=>
 A0 x31.1 (
 (L0 3 x1.ID x2 x3 x4 x31.2.1 x31.2.2.1 x31.2.2.2 x7 x8 x10 x11 x12).bind fun x32=>
 A0 (decide (x29.1.ID=x1.ID)) (
 (Sd x2 x3 x4 x7 x8 x10 x11 x12 x31 x32) (decide (x4=1))) (
 (Sd x2 x3 x4 x7 x8 x10 x11 x12 x31 x32) false)) (
 Ga (x2,x3,x4,x31.2.1,x31.2.2.1,x31.2.2.2,([]:List EV),x7,x8))) (
 A0 (decide (x1.KI=3)) (
 (SB (BK.mk x5 x9) x1.Hold).bind fun x35=>
 (Wv x2 x3 x4 x5 x6 x7 x8 x9 x10 x11 x12) (x35.2.1,x35.2.2,x35.1)) (
 Ga (x2,x3,x4,x5,x9,x6,([]:List EV),x7,x8)))))
instance t_node_node_sessions_I1 {x1 x2 x3 x4 x5 x6 x7 x8 x9 x10 x11 x12}:KT (NI x1 x2 x3 x4 x5 x6 x7 x8 x9 x10 x11 x12) 125 [.ptr 0 0,.agg (Do.row x1)] [some ⟨191,[.iv x2,.iv x3,.osl 0,.iv x4,.osl 1,.iv x5,.osl 2,.osl 3,.osl 4,.osl 5,.nl,.nl,.iv x6]⟩] [Al x7,Ae x8,B4 x9,Ai x10,Ae x11,Ai x12] (fun _=>(.tup [])) (fun r=>[some ⟨191,[.iv r.1,.iv r.2.1,.osl 8,.iv r.2.2.1,.osl 9,.iv r.2.2.2.1,Aq r.2.2.2.2.1,.osl 3,.osl 4,.osl 5,.nl,.osl 6,.iv r.2.2.2.2.2.1]⟩]) (fun r=>[none,none,none,Ai x10,Ae x11,Ai x12,Bk r.2.2.2.2.2.2.1,none,Al r.2.2.2.2.2.2.2.1,Ae r.2.2.2.2.2.2.2.2]):=⟨fun{r} h=>by
 refine Ft il fun w0 M0=>?_;have ok:=il;have A4:AJ [.s 2,.o 0 11 47 5,.w 100 8,.w 100 8,.r 0 8,.w 3 1,.r 1 9]:=trivial;have A3:AJ [.r 7 6]:=trivial;have A2:AJ [.o 0 11 47 5,.w 100 8,.w 100 8,.r 0 8,.w 3 1,.r 1 9]:=trivial;have A1:AJ [.r 7 6,.w 100 8,.r 0 8,.w 3 1,.r 1 9]:=trivial;rw [NI] at h;refine Vg 15 ?_;refine Vl [] (fun s=>([],[some ⟨191,[.iv s.1,.iv s.2.1,.osl 8,.iv s.2.2.1,.osl 9,.iv s.2.2.2.1,Aq s.2.2.2.2.1,.osl 3,.osl 4,.osl 5,.nl,.osl 6,.iv s.2.2.2.2.2.1]⟩],[none,none,none,Ai x10,Ae x11,Ai x12,Bk s.2.2.2.2.2.2.1,none,Al s.2.2.2.2.2.2.2.1,Ae s.2.2.2.2.2.2.2.2])) Ga r ?_ fun J1=>?_
 ·rintro ⟨x44,x45,x46,x47,x48,x49,x50,x51,x52⟩ h;rw [Ga] at h;exact Wx
 ·refine MI h (fun h=>?_) fun h=>?_
  ·refine Vg 1 ?_;(refine Wj [.s 2] ?_);refine Vl [0,1,2,1] (fun s=>([(4,.ptr 2 0),(5,.iv s.1)],[some ⟨191,[.iv x2,.iv x3,.osl 0,.iv x4,.osl 1,.iv x5,Aq x9,.osl 3,.osl 4,.osl 5,.nl,.nl,.iv x6]⟩,some ⟨79,Do.row x1⟩,some ⟨57,[.iv s.2.LA,Aq s.2.SE]⟩],[Al x7,Ae x8,none,Ai x10,Ae x11,Ai x12])) (Wu x1 x2 x3 x4 x5 x6 x7 x8 x9 x10 x11 x12) r ?_ fun J2=>?_
   ·rintro ⟨x15,x16⟩ h;rw [Wu] at h;refine Vg 1 ?_;refine Vm [0,1,2,2] (fun s=>([(44,.bv s.1)],[(0,12,.iv s.2)],[],[])) (Sc x1 x2 x3 x4 x5 x7 x8 x9 x16) r ?_ fun J3=>?_
    ·rintro ⟨x21,x22⟩ h;rw [Sc] at h;refine MI h (fun h=>?_) fun h=>?_
     ·refine Vg 9 ?_;refine AD fun all H=>Ds (GP H 16 7 [16,7] [(50,[.ptr 0 0,.ptr 0 0,.ptr 0 0,.ptr 0 11,.nl,.ptr 0 0,.ptr 0 0,.ptr 0 0,.ptr 0 0,.ptr 0 0,.ptr 0 0,.iv x2,.ptr 1 1,.iv x1.ID,.ptr 1 4,Aj x1.NE])] (Ds ?_));refine RB h fY fun _ _ h=>?_;refine GN H 1 5 (Ds ?_);refine An (R1 ?_);refine Ak 19 rfl ?_;have ⟨x24,ex24,h⟩:=Bs h;refine mn EV.row ex24 H.1 rfl trivial rfl rfl ?_;refine Gn H 2 1 ?_;refine R1 ?_;refine GD ?_;(refine Wj [.r 7 6,.w 100 8,.r 0 8,.w 3 1,.r 1 9] ?_);exact Wx
     ·refine Vg 1 ?_;(refine Wj [.o 0 11 47 5,.w 100 8,.w 100 8,.r 0 8,.w 3 1,.r 1 9] ?_);exact Wx
    ·refine AD fun all H=>Ds (GP H 4 13 [4,13] [(28,[.ptr 0 0,.iv x15,.bv (decide (x15=0)),.iv x15])] (Ds ?_));refine RF [0] [0,1,3,4,5] 3 6 h t_node_node_need_I3.k fun _ _ h=>?_;refine GN H 1 11 (Ds ?_);refine An (BW 33 h rfl (fun _ h=>?_) fun _ h=>?_)
     ·refine Ds (GP H 6 5 [12,5] [(34,[.ptr 0 0,.ptr 1 4,Aj x1.NE,.ptr 0 0,.ptr 0 0,.ptr 0 0])] (Ds ?_));refine R1 ?_;refine RR [] [0,1,3,4,5] 3 6 h t_node_Live_I1.k fun _ _ h=>?_;refine RQ (LR.slice 6 rfl) h k_set_Within.k fun _ _ h=>?_;refine RF [0] [0,1,3,4,5] 3 7 h t_node_node_need_I3.k fun _ _ h=>?_;refine Gn H 1 0 ?_;refine GD ?_;exact Wx
     ·refine Ds (GP H 11 0 [17] [(34,ux 10 [.ff])] (Ds ?_));refine GD ?_;exact Wx
   ·have ⟨x13,ex13,h⟩:=Bs h;have q0:=k_sess_Open.k ex13;refine AD fun all H=>Gs ?_;exact Wx
  ·refine Vg 5 ?_;refine MI h (fun h=>?_) fun h=>?_
   ·refine Vg 1 ?_;(refine Wj [.s 2] ?_);refine AD fun all H=>Ds (GP H 8 4 [8,4] [(74,[.ptr 0 0,.ptr 0 0,.ptr 0 0,.ptr 0 0,.ptr 0 5,.agg [.iv x5,Aq x9],.ptr 1 1,.iv x1.ID])] (Ds ?_));refine RB h k_sess_Release.k fun _ _ h=>?_;refine GN H 2 1 (Ds ?_);refine An (RF [0] [0,1,3,4,5] 2 6 h t_node_node_book_I1.k fun _ _ h=>?_);refine GD (MI h (fun h=>?_) fun h=>?_)
    ·refine Vg 5 ?_;refine VR [0] [0,1,3,4,5] 2 6 h t_node_node_session_I3.k fun _ _ h=>?_;refine Vg 3 ?_;refine VR [0] [0,1,3,4,5,7] 2 8 h t_node_node_tranquil_I1.k fun _ _ h=>?_;refine Vg 1 ?_;(refine Wj [.r 7 6] ?_);exact Wx
    ·refine Vg 1 ?_;(refine Wj [.o 0 11 47 5,.w 100 8,.w 100 8,.r 0 8,.w 3 1,.r 1 9] ?_);exact Wx
   ·refine Vg 5 ?_;refine MI h (fun h=>?_) fun h=>?_
    ·refine Vg 6 ?_;refine VR [] [0,1,2,3,4,5] 2 6 h t_node_first_I3.k fun _ _ h=>?_;refine Vg 8 ?_;(refine Wj [.s 2] ?_);refine AD fun all H=>Ds (GP H 8 4 [8,4] [(102,[.ptr 0 0,.ptr 0 0,.ptr 0 0,.ptr 0 0,.ptr 0 5,.agg [.iv x5,Aq x9],.ptr 1 1,.iv x1.ID])] (Ds ?_));refine RB h k_sess_Cancel.k fun _ _ h=>?_;refine Gn H 2 1 ?_;refine RF [0] [0,1,3,4,5] 3 6 h t_node_node_book_I1.k fun x31 _ h=>?_;refine GD (MI h (fun h=>?_) fun h=>?_)
     ·refine Vg 5 ?_;refine VR [0] [0,1,3,4,5] 3 6 h t_node_node_session_I3.k fun x32 _ h=>?_;refine Vg 9 ?_;refine Vl [0,1] (fun x33=>([(131,.bv x33)],[some ⟨191,[.iv x2,.iv x3,.osl 0,.iv x4,.osl 1,.iv x31.2.1,Aq x31.2.2.1,.osl 3,.osl 4,.osl 5,.nl,.osl 7,.iv x31.2.2.2]⟩],[Al x7,Ae x8,none,Ai x10,Ae x11,Ai x12,none,Bk x32])) (Sd x2 x3 x4 x7 x8 x10 x11 x12 x31 x32) r ?_ fun J4=>?_
      ·intro x33 h;rw [Sd] at h;refine MI h (fun h=>?_) fun h=>?_
       ·refine Vg 2 ?_;refine VR [0] [0,1,3,4,5,7] 1 8 h t_node_node_tranquil_I1.k fun _ _ h=>?_;refine Vg 1 ?_;(refine Wj [.r 7 6] ?_);exact Wx
       ·refine Vg 1 ?_;(refine Wj [.r 7 6,.w 100 8,.r 0 8,.w 3 1,.r 1 9] ?_);exact Wx
      ·refine MC 123 h (fun h=>?_) fun h=>?_
       ·exact Wx
       ·exact Wx
     ·refine Vg 1 ?_;(refine Wj [.o 0 11 47 5,.w 100 8,.w 100 8,.r 0 8,.w 3 1,.r 1 9] ?_);exact Wx
    ·refine Vg 5 ?_;refine MI h (fun h=>?_) fun h=>?_
     ·refine Vg 1 ?_;(refine Wj [.s 2] ?_);refine Vl [0,1] (fun s=>([(8,.ptr 2 0),(9,.iv s.1),(10,.iv s.2.1)],[some ⟨191,[.iv x2,.iv x3,.osl 0,.iv x4,.osl 1,.iv x5,Aq x9,.osl 3,.osl 4,.osl 5,.nl,.nl,.iv x6]⟩,none,some ⟨57,[.iv s.2.2.LA,Aq s.2.2.SE]⟩],[Al x7,Ae x8,none,Ai x10,Ae x11,Ai x12])) (Wv x2 x3 x4 x5 x6 x7 x8 x9 x10 x11 x12) r ?_ fun J5=>?_
      ·rintro ⟨x37,x38,x39⟩ h;rw [Wv] at h;refine Vg 5 ?_;refine VR [0] [0,1,3,4,5] 3 6 h t_node_node_book_I1.k fun x40 _ h=>?_;refine Vg 1 ?_;refine Vl [0,1,8,1] (fun x41=>([(155,.bv x41)],[some ⟨191,[.iv x2,.iv x3,.osl 0,.iv x4,.osl 1,.iv x40.2.1,Aq x40.2.2.1,.osl 3,.osl 4,.osl 5,.nl,.nl,.iv x40.2.2.2]⟩],[Al x7,Ae x8,none,Ai x10,Ae x11,Ai x12])) (Se x2 x3 x4 x7 x8 x10 x11 x12 x37 x40) r ?_ fun J6=>?_
       ·intro x41 h;rw [Se] at h;refine MI h (fun h=>?_) fun h=>?_
        ·refine Vg 4 ?_;refine VR [0] [0,1,3,4,5] 1 6 h t_node_node_session_I3.k fun _ _ h=>?_;refine Vg 3 ?_;refine VR [0] [0,1,3,4,5,7] 1 8 h t_node_node_tranquil_I1.k fun _ _ h=>?_;refine Vg 1 ?_;(refine Wj [.r 7 6] ?_);exact Wx
        ·refine Vg 1 ?_;(refine Wj [.o 0 11 47 5,.w 100 8,.w 100 8,.r 0 8,.w 3 1,.r 1 9] ?_);exact Wx
       ·refine MC 152 h (fun h=>?_) fun h=>?_
        ·exact Wx
        ·exact Wx
      ·have ⟨x35,ex35,h⟩:=Bs h;have q0:=k_sess_Tick.k ex35;refine AD fun all H=>Gs ?_;exact Wx
     ·refine Vg 1 ?_;(refine Wj [.s 2,.o 0 11 47 5,.w 100 8,.w 100 8,.r 0 8,.w 3 1,.r 1 9] ?_);exact Wx⟩
def KM:Bool→Option Int
| x6=>
 A0 x6 (
 some 180) (
 some 0)
def Ip (x1:NO):Option Int:=
 (Jn x1.DK).bind fun x2=>
 A0 (!decide (x2=0)) (
 KM true) (
 (GT x1.BK).bind fun x3=>
 A0 (!decide (x3=0)) (
 KM true) (
 (Rv x1).bind fun x4=>
 A0 (!x4) (
 KM true) (
 (Sj x1).bind fun x5=>
 KM (!x5))))
instance k_node_Check {x1}:KP (Ip x1) 75 [.agg (NO.row x1)] (fun r=>(.iv r)):=⟨fun{r} h=>by
 have ok:=oJ 75 Tryz.f75 [.t 2] 1 22;refine FP ok fun w0 H0=>?_;rw [Ip] at h;refine Vg 10 ?_;refine VB h k_drink_Check.k fun _ _ h=>?_;refine Vg 2 ?_;refine Vl [] (fun x6=>([(22,.bv x6)],[],[])) KM r ?_ fun J1=>?_
 ·intro x6 h;rw [KM] at h;exact Wx
 ·exact Wx⟩
def Sg (x22:(Bool×Int)):(Int×Int×Int×List SX×List Int)→Option (Int×Int×Int×Int×List SX×List Int)
| (x23,x24,x25,x26,x27)=>some (x23,x24,x25,x22.2,x26,x27)
def WD (x3 x4:Int) (x5 x6 x7:Int) (x8:List SX) (x9:List Int) (x10:List SE) (x11:List KE) (x12:List Int) (x13:List KE):(Int×Int×Int×Int×List SX×List Int)→Option (Int×Int×Int×Int×List SX×List Int)
| (x16,x17,x18,x19,x20,x21)=>
 (Ev (decide (x16=0)) 187 x3 x4 x5 x6 x7 x8 x9 x10 x11 x12 x13).bind fun x22=>
 A0 x22.1 (
 (Sg x22) (x17,x18,x19,x20,x21)) (
 (Sg x22) (x3,x4,x5,x8,x9))
def WC (x1:Int) (x2:Msg) (x3 x4:Int) (x5 x6 x7:Int) (x8:List SX) (x9:List Int) (x10:List SE) (x11:List KE) (x12:List Int) (x13:List KE):Option (Int×Int×Int×Int×List SX×List Int):=
 (Qj x3 x4 x5 x1 x2 x8 x9).bind fun x14=>
 (WD x3 x4 x5 x6 x7 x8 x9 x10 x11 x12 x13) (x14.2.2.2.1,x14.1,x14.2.1,x14.2.2.1,x14.2.2.2.2.1,x14.2.2.2.2.2)
instance t_node_node_things_I1 {x1 x2 x3 x4 x5 x6 x7 x8 x9 x10 x11 x12 x13}:KT (WC x1 x2 x3 x4 x5 x6 x7 x8 x9 x10 x11 x12 x13) 117 [.ptr 0 0,.iv x1,.agg (Msg.row x2)] [some ⟨191,[.iv x3,.iv x4,.osl 0,.iv x5,.osl 1,.iv x6,.osl 2,.osl 3,.osl 4,.osl 5,.nl,.nl,.iv x7]⟩] [Al x8,Ae x9,B4 x10,Ai x11,Ae x12,Ai x13] (fun _=>(.tup [])) (fun r=>[some ⟨191,[.iv r.1,.iv r.2.1,.osl 6,.iv r.2.2.1,.osl 7,.iv x6,.osl 2,.osl 3,.osl 4,.osl 5,.nl,.nl,.iv r.2.2.2.1]⟩]) (fun r=>[none,none,B4 x10,Ai x11,Ae x12,Ai x13,Al r.2.2.2.2.1,Ae r.2.2.2.2.2]):=⟨fun{r} h=>by
 refine Ft ii fun w0 M0=>?_;have ok:=ii;have A1:AJ [.r 0 6,.r 1 7]:=trivial;rw [WC] at h;refine Vg 5 ?_;refine Vl [0,1] (fun s=>([(6,.ptr 2 0),(7,.iv s.1)],[some ⟨191,[.iv x3,.iv x4,.osl 0,.iv x5,.osl 1,.iv x6,.osl 2,.osl 3,.osl 4,.osl 5,.nl,.nl,.iv x7]⟩,none,some ⟨54,[.iv s.2.1,.iv s.2.2.1,.osl 6,.iv s.2.2.2.1,.osl 7]⟩],[Al x8,Ae x9,B4 x10,Ai x11,Ae x12,Ai x13,Al s.2.2.2.2.1,Ae s.2.2.2.2.2])) (WD x3 x4 x5 x6 x7 x8 x9 x10 x11 x12 x13) r ?_ fun J1=>?_
 ·rintro ⟨x16,x17,x18,x19,x20,x21⟩ h;rw [WD] at h;refine Vg 5 ?_;refine VR [0] [0,1,2,3,4,5] 3 8 h t_node_node_need_I1.k fun x22 _ h=>?_;refine Vg 1 ?_;refine Vl [] (fun s=>([],[some ⟨191,[.iv s.1,.iv s.2.1,.osl 6,.iv s.2.2.1,.osl 7,.iv x6,.osl 2,.osl 3,.osl 4,.osl 5,.nl,.nl,.iv x22.2]⟩],[none,none,B4 x10,Ai x11,Ae x12,Ai x13,Al s.2.2.2.1,Ae s.2.2.2.2])) (Sg x22) r ?_ fun J2=>?_
  ·rintro ⟨x23,x24,x25,x26,x27⟩ h;rw [Sg] at h;exact Wx
  ·exact Wx
 ·exact Wx⟩
def N9:(Int×List Place)→Option (Model×Int)
| (x16,x17)=>
 A0 (!decide (x16=0)) (
 some ((Model.mk (([]:List Place))),x16)) (
 some ((Model.mk x17),0))
def GM (x1:Model) (x2:EV) (x4:Bool):Int→Option (Model×Int)
| x11=>
 A0 (!decide (x11=0)) (
 some ((Model.mk (([]:List Place))),x11)) (
 (QQ x1).bind fun x12=>
 (Ac x12 x2.NO).bind fun x13=>
 A0 x4 (
 (QM x2 x12).bind fun x14=>
 N9 (x14.2,x12.set (Int.toNat (x2.NO)) (Place.mk x13.BK x14.1))) (
 (QR x2 x12).bind fun x15=>
 N9 (x15.2,x12.set (Int.toNat (x2.NO)) (Place.mk x15.1 x13.Live))))
def N8 (x1:Model) (x2:EV) (x3:Int) (x4:Bool):Bool→Option (Model×Int)
| x10=>
 A0 x10 (
 (GM x1 x2 x4) 207) (
 (GM x1 x2 x4) x3)
def N7 (x1:Model) (x2:EV) (x3:Int) (x4:Bool):Bool→Option (Model×Int)
| x9=>
 A0 x9 (
 (GM x1 x2 x4) 205) (
 A0 (decide (x2.KI<0)) (
 (N8 x1 x2 x3 x4) true) (
 (N8 x1 x2 x3 x4) (decide (8<x2.KI))))
def Ht (x1:Model) (x2:EV) (x3:Int) (x4:Bool):Bool→Option (Model×Int)
| x7=>
 A0 x7 (
 (GM x1 x2 x4) 201) (
 A0 (!decide (x2.KI=5)) (
 (GJ x1 x2.NO).bind fun x8=>
 (N7 x1 x2 x3 x4) (decide (0<(ln Am x8)))) (
 (N7 x1 x2 x3 x4) false))
def Ju (x1:Model) (x2:EV) (x3:Int):Bool→Option (Model×Int)
| x4=>
 A0 (!decide (x3=0)) (
 (GM x1 x2 x4) x3) (
 (Hu x1 x2.NO).bind fun x5=>
 A0 (!x5) (
 (Ht x1 x2 x3 x4) true) (
 A0 x4 (
 (Hu x1 x2.PE).bind fun x6=>
 A0 (!x6) (
 (Ht x1 x2 x3 x4) true) (
 (Ht x1 x2 x3 x4) (decide (x2.PE=x2.NO)))) (
 (Ht x1 x2 x3 x4) false)))
def Eu (x1:Model) (x2:EV):Option (Model×Int):=
 (N5 x1).bind fun x3=>
 A0 (decide (x2.KI=6)) (
 (Ju x1 x2 x3) true) (
 A0 (decide (x2.KI=7)) (
 (Ju x1 x2 x3) true) (
 (Ju x1 x2 x3) (decide (x2.KI=8))))
instance k_model_Step {x1 x2}:KP (Eu x1 x2) 10 [.agg (Model.row x1),.agg (EV.row x2)] (fun r=>(.tup [.agg (Model.row r.1),.iv r.2])):=⟨fun{r} h=>by
 have ok:=oJ 10 Tryz.f10 [.c 4 (some 1),.t 5] 2 104;refine FP ok fun w0 H0=>?_;have A1:AJ [.s 0]:=trivial;rw [Eu] at h;refine Vg 10 ?_;refine VB h k_model_Check.k fun x3 _ h=>?_;refine Vg 8 ?_;refine Vk [2,3,1,1] (fun x4=>[(7,.bv x4)]) (Ju x1 x2 x3) r ?_ fun J1=>?_
 ·intro x4 h;rw [Ju] at h;refine Vg 8 ?_;refine Vk [2,3,2,1] (fun x11=>[(6,.iv x11)]) (GM x1 x2 x4) r ?_ fun J2=>?_
  ·intro x11 h;rw [GM] at h;refine Vg 7 ?_;refine MI h (fun h=>?_) fun h=>?_
   ·exact Wx
   ·refine Vg 4 ?_;refine VR [] [] 3 0 h t_model_own_I1.k fun _ _ h=>?_;refine Vg 8 ?_;have ⟨x13,ex13,h⟩:=Bs h;refine C5 Place.row ex13 trivial rfl rfl rfl (Vg 7 ?_);refine Vm [2,1,1,1] (fun s=>([(6,.iv s.1)],[],[(1,none)],[(0,CW s.2)])) N9 r ?_ fun J6=>?_
    ·rintro ⟨x16,x17⟩ h;rw [N9] at h;exact Wx
    ·refine MI h (fun h=>?_) fun h=>?_
     ·refine Vg 4 ?_;refine VR [] [0] 3 1 h t_model_edge_I1.k fun x14 _ h=>?_;refine Vg 5 ?_;refine Du [Aj x14.1] Place.row (y':=(Place.mk x13.BK x14.1)) ex13 trivial rfl rfl rfl (by first | exact AA _ | simp [go_sem]) rfl rfl rfl rfl ?_;exact Wx
     ·refine Vg 4 ?_;refine VR [] [0] 3 1 h t_model_session_I1.k fun x15 _ h=>?_;refine Vg 5 ?_;refine Du (BK.row x15.1) Place.row (y':=(Place.mk x15.1 x13.Live)) ex13 trivial rfl rfl rfl (by first | exact AA _ | simp [go_sem]) rfl rfl rfl rfl ?_;exact Wx
  ·refine MI h (fun h=>?_) fun h=>?_
   ·exact Wx
   ·refine Vg 5 ?_;refine VB h k_model_there.k fun _ _ h=>?_;refine Vg 2 ?_;refine Vk [2,3,1,2] (fun x7=>[(27,.bv x7)]) (Ht x1 x2 x3 x4) r ?_ fun J3=>?_
    ·intro x7 h;rw [Ht] at h;refine MI h (fun h=>?_) fun h=>?_
     ·exact Wx
     ·refine Vg 6 ?_;refine Vk [2,3,1,2] (fun x9=>[(50,.bv x9)]) (N7 x1 x2 x3 x4) r ?_ fun J4=>?_
      ·intro x9 h;rw [N7] at h;refine MI h (fun h=>?_) fun h=>?_
       ·exact Wx
       ·refine Vg 6 ?_;refine Vk [2,3,1,2] (fun x10=>[(62,.bv x10)]) (N8 x1 x2 x3 x4) r ?_ fun J5=>?_
        ·intro x10 h;rw [N8] at h;exact Wx
        ·exact Wx
      ·exact Wx
    ·exact Wx
 ·exact Wx⟩
@[go_sem] def oV:EC:=eQ Tryz.f123
theorem ik:FnOK Tryz.prog 123 Tryz.f123 oV [.c 2 (some 10),.t 3,.t 4,.t 5] 1 41:=AP
def ND (x7:Int) (x16:List KE) (x19:List KE) (x29:(Int×Int×Int×Int×List SX×List Int×List ML)) (x39:Int) (x40:List SE) (x41:List EV):(List Int×List ML)→Option (Int×Int×Int×Int×List SE×List Int×List KE×List EV×List KE×List Int×List ML×List SX)
| (x43,x44)=>
 (Wp x29.1 x29.2.1 x29.2.2.1 x39 x40 x43 x7 x29.2.2.2.2.1 x29.2.2.2.2.2.1 x16 x19 x44 x41).bind fun x45=>
 some (x29.1,x29.2.1,x29.2.2.1,x39,x40,x43,x16,x41,x19,x29.2.2.2.2.2.1,x45.1,x45.2)
def KY (x6:List Int) (x7:Int) (x16 x19:List KE) (x29:(Int×Int×Int×Int×List SX×List Int×List ML)) (x32:List ML):(Int×List SE×List EV)→Option (Int×Int×Int×Int×List SE×List Int×List KE×List EV×List KE×List Int×List ML×List SX)
| (x39,x40,x41)=>
 A0 (decide (x29.2.1=2)) (
 (Sf x29.1 x29.2.1 x29.2.2.1 x39 x40 x6 x7 x29.2.2.2.2.1 x29.2.2.2.2.2.1 x16 x19 x32 x41).bind fun x42=>
 (ND x7 x16 x19 x29 x39 x40 x41) (x42.1,x42.2)) (
 (ND x7 x16 x19 x29 x39 x40 x41) (x6,x32))
def Wr (x6:List Int) (x7:Int) (x16:List KE) (x18:List EV) (x19:List KE) (x20:(SE×Bool)) (x29:(Int×Int×Int×Int×List SX×List Int×List ML)) (x32:List ML):(Int×List SE)→Option (Int×Int×Int×Int×List SE×List Int×List KE×List EV×List KE×List Int×List ML×List SX)
| (x36,x37)=>
 (Ws 1 x20.1.ID x29.1 x29.2.1 x29.2.2.1 x36 x37 x6 x7 x29.2.2.2.2.1 x29.2.2.2.2.2.1 x16 x19 x32 x18).bind fun x38=>
 (KY x6 x7 x16 x19 x29 x32) (x36,x37,x38)
def NH (x4:Int) (x5:List SE) (x6:List Int) (x7:Int) (x16:List KE) (x18:List EV) (x19:List KE) (x20:(SE×Bool)) (x29:(Int×Int×Int×Int×List SX×List Int×List ML)) (x32:List ML):Bool→Option (Int×Int×Int×Int×List SE×List Int×List KE×List EV×List KE×List Int×List ML×List SX)
| x33=>
 A0 x33 (
 (NZ (BK.mk x4 x5)).bind fun x34=>
 (Wr x6 x7 x16 x18 x19 x20 x29 x32) (x34.1.LA,x34.1.SE)) (
 (KY x6 x7 x16 x19 x29 x32) (x4,x5,x18))
def S8 (x4:Int) (x5:List SE) (x6:List Int) (x7:Int) (x16:List KE) (x18:List EV) (x19:List KE) (x20:(SE×Bool)) (x29:(Int×Int×Int×Int×List SX×List Int×List ML)):List ML→Option (Int×Int×Int×Int×List SE×List Int×List KE×List EV×List KE×List Int×List ML×List SX)
| x32=>
 A0 x20.2 (
 A0 (decide (x20.1.SS=0)) (
 (NH x4 x5 x6 x7 x16 x18 x19 x20 x29 x32) (decide (x29.2.2.1=2))) (
 (NH x4 x5 x6 x7 x16 x18 x19 x20 x29 x32) false)) (
 (NH x4 x5 x6 x7 x16 x18 x19 x20 x29 x32) false)
def NG (x1 x4:Int) (x5:List SE) (x6:List Int) (x7:Int) (x15:List SX) (x16:List KE) (x17:List ML) (x18:List EV) (x19:List KE) (x20:(SE×Bool)) (x24:Int) (x25:List Int):Int→Option (Int×Int×Int×Int×List SE×List Int×List KE×List EV×List KE×List Int×List ML×List SX)
| x28=>
 (MJ x1 x28 x24 x15 x25).bind fun x29=>
 (AE 40 x17 x29.2.2.2.2.2.2).bind fun x30=>
 (S8 x4 x5 x6 x7 x16 x18 x19 x20 x29) x30
def S7 (x1 x2 x4:Int) (x5:List SE) (x6:List Int) (x7:Int) (x15:List SX) (x16:List KE) (x17:List ML) (x18:List EV) (x19:List KE) (x20:(SE×Bool)) (x24:Int) (x25:List Int):Bool→Option (Int×Int×Int×Int×List SE×List Int×List KE×List EV×List KE×List Int×List ML×List SX)
| x27=>
 A0 x27 (
 (NG x1 x4 x5 x6 x7 x15 x16 x17 x18 x19 x20 x24 x25) 1) (
 (NG x1 x4 x5 x6 x7 x15 x16 x17 x18 x19 x20 x24 x25) x2)
def KX (x1 x2 x4:Int) (x5:List SE) (x6:List Int) (x7:Int) (x15:List SX) (x16:List KE) (x17:List ML) (x18:List EV) (x19:List KE) (x20:(SE×Bool)):(Int×List Int)→Option (Int×Int×Int×Int×List SE×List Int×List KE×List EV×List KE×List Int×List ML×List SX)
| (x24,x25)=>
 A0 (decide (x2=0)) (
 (Iy x15 ((fun z=>NA z (node_node.mk (NO.mk (DK.mk (DI.mk x1 x2 x15) x24 x25) (BK.mk x4 x5) x16 x6 x19) x17 x18 x7)))).bind fun x26=>
 (S7 x1 x2 x4 x5 x6 x7 x15 x16 x17 x18 x19 x20 x24 x25) x26) (
 (S7 x1 x2 x4 x5 x6 x7 x15 x16 x17 x18 x19 x20 x24 x25) false)
def NF (x1 x2:Int) (x3 x4:Int) (x5:List SE) (x6:List Int) (x7:Int) (x9:List Int) (x15:List SX) (x16:List KE) (x17:List ML) (x18:List EV) (x19:List KE) (x20:(SE×Bool)):Bool→Option (Int×Int×Int×Int×List SE×List Int×List KE×List EV×List KE×List Int×List ML×List SX)
| x21=>
 A0 x21 (
 (Cp x20.1.NE).bind fun x22=>
 (KX x1 x2 x4 x5 x6 x7 x15 x16 x17 x18 x19 x20) (1,x22)) (
 (KX x1 x2 x4 x5 x6 x7 x15 x16 x17 x18 x19 x20) (x3,x9))
def NC (x1 x2:Int) (x3 x4:Int) (x5:List SE) (x6:List Int) (x7:Int) (x9:List Int):(List SX×List KE×List ML×List EV×List KE)→Option (Int×Int×Int×Int×List SE×List Int×List KE×List EV×List KE×List Int×List ML×List SX)
| (x15,x16,x17,x18,x19)=>
 (RG x1 x2 x3 x4 x5 x6 x15 x9 x16 x19).bind fun x20=>
 A0 x20.2 (
 A0 (decide (x20.1.SS=0)) (
 (NF x1 x2 x3 x4 x5 x6 x7 x9 x15 x16 x17 x18 x19 x20) (decide (x3=0))) (
 (NF x1 x2 x3 x4 x5 x6 x7 x9 x15 x16 x17 x18 x19 x20) false)) (
 (NF x1 x2 x3 x4 x5 x6 x7 x9 x15 x16 x17 x18 x19 x20) false)
def NB (x1 x2:Int) (x3 x4:Int) (x5:List SE) (x6:List Int) (x7:Int) (x8:List SX) (x9:List Int) (x10 x11:List KE) (x12:List ML) (x13:List EV):Option (Int×Int×Int×Int×List SE×List Int×List KE×List EV×List KE×List Int×List ML×List SX):=
 A0 (!decide (x2=2)) (
 (RN x1 x2 x3 x4 x5 x6 x7 x8 x9 x10 x11 x12 x13).bind fun x14=>
 (NC x1 x2 x3 x4 x5 x6 x7 x9) (x14.1,x14.2.1,x14.2.2.1,x14.2.2.2,([]:List KE))) (
 (NC x1 x2 x3 x4 x5 x6 x7 x9) (x8,x10,x12,x13,x11))
instance t_node_node_once_I2 {x1 x2 x3 x4 x5 x6 x7 x8 x9 x10 x11 x12 x13}:KT (NB x1 x2 x3 x4 x5 x6 x7 x8 x9 x10 x11 x12 x13) 174 [.ptr 0 0] [some ⟨191,[.iv x1,.iv x2,.osl 0,.iv x3,.osl 1,.iv x4,Aq x5,.osl 2,Aj x6,.osl 3,.osl 4,.osl 5,.iv x7]⟩] [Al x8,Ae x9,Ai x10,Ai x11,AG x12,Bk x13] (fun _=>(.tup [])) (fun r=>[some ⟨191,[.iv r.1,.iv r.2.1,.osl 22,.iv r.2.2.1,.osl 17,.iv r.2.2.2.1,Aq r.2.2.2.2.1,.osl 9,Aj r.2.2.2.2.2.1,.osl 14,.osl 21,.osl 13,.iv x7]⟩]) (fun r=>[none,none,none,none,none,none,none,none,none,Ai r.2.2.2.2.2.2.1,none,none,none,Bk r.2.2.2.2.2.2.2.1,Ai r.2.2.2.2.2.2.2.2.1,none,none,Ae r.2.2.2.2.2.2.2.2.2.1,none,none,none,AG r.2.2.2.2.2.2.2.2.2.2.1,Al r.2.2.2.2.2.2.2.2.2.2.2]):=⟨fun{r} h=>by
 refine Ft iy fun w0 M0=>?_;have ok:=iy;have A5:AJ [.w 156 5,.w 156 5,.w 156 5,.w 156 5,.w 156 5,.w 156 5,.r 4 11,.w 47 5,.w 47 5,.r 5 13,.r 0 7,.r 2 9,.w 147 2,.r 3 14]:=trivial;have A4:AJ [.o 0 9 147 2]:=trivial;have A3:AJ [.w 3 1,.r 1 15]:=trivial;have A2:AJ [.r 21 13]:=trivial;have A1:AJ [.r 21 19]:=trivial;rw [NB] at h;refine Vg 16 ?_;refine Vl [1,1] (fun s=>([],[some ⟨191,[.iv x1,.iv x2,.osl 7,.iv x3,.osl 1,.iv x4,Aq x5,.osl 9,Aj x6,.osl 14,.osl 11,.osl 13,.iv x7]⟩,some ⟨189,[.ptr 0 0]⟩],[none,Ae x9,none,none,none,none,none,Al s.1,none,Ai s.2.1,none,AG s.2.2.1,none,Bk s.2.2.2.1,Ai s.2.2.2.2])) (NC x1 x2 x3 x4 x5 x6 x7 x9) r ?_ fun J1=>?_
 ·rintro ⟨x15,x16,x17,x18,x19⟩ h;rw [NC] at h;refine Vg 6 ?_;refine VR [] [7,1,9,14] 2 15 h t_node_first_I2.k fun x20 _ h=>?_;refine Vg 12 ?_;refine Vk [1,3] (fun x21=>[(40,.bv x21)]) (NF x1 x2 x3 x4 x5 x6 x7 x9 x15 x16 x17 x18 x19 x20) r ?_ fun J2=>?_
  ·intro x21 h;rw [NF] at h;refine Vl [1,3] (fun s=>([],[some ⟨191,[.iv x1,.iv x2,.osl 7,.iv s.1,.osl 15,.iv x4,Aq x5,.osl 9,Aj x6,.osl 14,.osl 11,.osl 13,.iv x7]⟩,some ⟨189,[.ptr 0 0]⟩,some ⟨67,SE.row x20.1⟩],[none,none,none,none,none,none,none,Al x15,none,Ai x16,none,AG x17,none,Bk x18,Ai x19,Ae s.2])) (KX x1 x2 x4 x5 x6 x7 x15 x16 x17 x18 x19 x20) r ?_ fun J3=>?_
   ·rintro ⟨x24,x25⟩ h;rw [KX] at h;refine Vg 17 ?_;refine Vk [1,3] (fun x27=>[(73,.bv x27)]) (S7 x1 x2 x4 x5 x6 x7 x15 x16 x17 x18 x19 x20 x24 x25) r ?_ fun J4=>?_
    ·intro x27 h;rw [S7] at h;refine Vm [1,3] (fun x28=>([],[(0,1,.iv x28)],[],[])) (NG x1 x4 x5 x6 x7 x15 x16 x17 x18 x19 x20 x24 x25) r ?_ fun J5=>?_
     ·intro x28 h;rw [NG] at h;refine Vg 7 ?_;refine VR [] [7,15] 3 16 h t_drink_Fire_I1.k fun x29 _ h=>?_;refine Vg 19 ?_;refine Vl [1,3] (fun x32=>([],[some ⟨191,[.iv x29.1,.iv x29.2.1,.osl 16,.iv x29.2.2.1,.osl 17,.iv x4,Aq x5,.osl 9,Aj x6,.osl 14,.osl 19,.osl 13,.iv x7]⟩,some ⟨189,[.ptr 0 0]⟩,some ⟨67,SE.row x20.1⟩],[none,none,none,none,none,none,none,none,none,Ai x16,none,none,none,Bk x18,Ai x19,none,Al x29.2.2.2.2.1,Ae x29.2.2.2.2.2.1,none,AG x32])) (S8 x4 x5 x6 x7 x16 x18 x19 x20 x29) r ?_ fun J6=>?_
      ·intro x32 h;rw [S8] at h;refine Vg 5 ?_;refine Vk [1,2] (fun x33=>[(118,.bv x33)]) (NH x4 x5 x6 x7 x16 x18 x19 x20 x29 x32) r ?_ fun J7=>?_
       ·intro x33 h;rw [NH] at h;refine Vl [1,1] (fun s=>([],[some ⟨191,[.iv x29.1,.iv x29.2.1,.osl 16,.iv x29.2.2.1,.osl 17,.iv s.1,Aq s.2.1,.osl 9,Aj x6,.osl 14,.osl 19,.osl 13,.iv x7]⟩,some ⟨189,[.ptr 0 0]⟩],[none,none,none,none,none,none,none,none,none,Ai x16,none,none,none,Bk s.2.2,Ai x19,none,Al x29.2.2.2.2.1,Ae x29.2.2.2.2.2.1,none,AG x32])) (KY x6 x7 x16 x19 x29 x32) r ?_ fun J8=>?_
        ·rintro ⟨x39,x40,x41⟩ h;rw [KY] at h;refine Vg 12 ?_;refine Vm [1,1] (fun s=>([],[(0,8,Aj s.1)],[],[(19,AG s.2)])) (ND x7 x16 x19 x29 x39 x40 x41) r ?_ fun J10=>?_
         ·rintro ⟨x43,x44⟩ h;rw [ND] at h;exact Wx
         ·exact Wx
        ·refine MI h (fun h=>?_) fun h=>?_
         ·refine Vg 1 ?_;refine Vm [1,2] (fun s=>([],[(0,5,.iv s.1),(0,6,Aq s.2)],[],[])) (Wr x6 x7 x16 x18 x19 x20 x29 x32) r ?_ fun J9=>?_
          ·rintro ⟨x36,x37⟩ h;rw [Wr] at h;exact Wx
          ·exact Wx
         ·exact Wx
       ·exact Wx
      ·exact Wx
     ·exact Wx
    ·refine MC 63 h (fun h=>?_) fun h=>?_
     ·refine Vg 8 ?_;refine VN ((((((((LR.slice 7 rfl).slice 9 rfl).slice 11 rfl).slice 13 rfl).slice 14 rfl).slice 15 rfl).block 0 rfl rfl).block 1 rfl rfl) h k_slices_ContainsFunc_Side.k fun _ _ h=>?_;refine As 2 (Ds ?_);refine An ?_;exact Wx
     ·exact Wx
   ·refine MI h (fun h=>?_) fun h=>?_
    ·refine AD fun all H=>?_;refine Gn H 2 13 ?_;have ⟨x22,ex22,h⟩:=Bs h;refine Eo 0 1 4 rfl ?_ ?_ ?_
     ·refine RV ?_;refine Ao 1 4 rfl ?_ ?_
      ·refine RV ?_;refine Ak 4 rfl (AW H.1 rfl trivial (El ex22) (h:=?_));exact Wx
      ·refine AW H.1 rfl trivial (El ex22) (h:=?_);exact Wx
     ·refine RV ?_;refine Ao 0 4 rfl ?_ ?_
      ·refine RV ?_;refine Ak 4 rfl (AW H.1 rfl trivial (El ex22) (h:=?_));exact Wx
      ·refine AW H.1 rfl trivial (El ex22) (h:=?_);exact Wx
     ·refine AW H.1 rfl trivial (El ex22) (h:=?_);exact Wx
    ·exact Wx
  ·exact Wx
 ·exact Wx⟩
def Wi (x1:DK):List KE→Option (NO×Int)
| x21=>
 (Ip (NO.mk x1 (BK.mk 0 (([]:List SE))) x21 (([]:List Int)) (([]:List KE)))).bind fun x22=>
 A0 (!decide (x22=0)) (
 some ((NO.mk (DK.mk (DI.mk 0 0 (([]:List SX))) 0 (([]:List Int))) (BK.mk 0 (([]:List SE))) (([]:List KE)) (([]:List Int)) (([]:List KE))),180)) (
 (NM x1.DI.ID x1.DI.PH x1.DI.SD x1.TH x1.NE 0 x21).bind fun x23=>
 some ((NO.mk (DK.mk (DI.mk x1.DI.ID x1.DI.PH x23.1) x1.TH x23.2.1) (BK.mk 0 x23.2.2.2.2.2) x23.2.2.1 x23.2.2.2.1 x23.2.2.2.2.1),0))
def Wk (x1:DK):(Int×List KE)→Option ((Int×List KE) ⊕ (NO×Int))
| (x6,x7)=>
 A0 (decide (x6<(ln SX.row x1.DI.SD))) (
 (Ac x1.DI.SD x6).bind fun x8=>
 (AE 16 x7 ([KE.mk x8.PE x8.EP])).bind fun x9=>
 some (.inl (wr (x6+1),x9))) (
 Option.map Sum.inr ((Wi x1) x7))
def Rs (x1:DK):Option (NO×Int):=loop (Wk x1) (0,([]:List KE))
instance k_node_New {x1}:KP (Rs x1) 47 [.agg (DK.row x1)] (fun r=>(.tup [.agg (NO.row r.1),.iv r.2])):=⟨fun{r} h=>by
 have ok:=oJ 47 Tryz.f47 [.c 2 (some 10),.t 3] 1 33;refine FP ok fun w0 H0=>?_;have A2:AJ [.r 2 0]:=trivial;have A1:AJ [.s 1,.s 2,.s 6,.s 3,.s 4,.s 5]:=trivial;rw [Rs] at h;refine Vg 22 ?_;refine Vl [2,1,1,1] (fun x21=>([],[none,some ⟨60,[.iv 0,.iv 0,.nl,.iv 0,.nl,.iv 0,.nl,.nl,.nl,.nl]⟩,some ⟨60,[.iv x1.DI.ID,.iv x1.DI.PH,CV x1.DI.SD,.iv x1.TH,Aj x1.NE,.iv 0,.nl,.osl 0,.nl,.nl]⟩],[Ai x21])) (Wi x1) r ?_ fun J1=>?_
 ·intro x21 h;rw [Wi] at h;exact Wx
 ·refine Vg 1 ?_;(refine Wj [.o 2 7 147 2] ?_);refine Mm h [2,1,1,1,6,2] (fun s=>([(13,.iv s.1)],[],[(0,none)],[(0,Ai s.2)])) ?_;rintro n1 ⟨x6,x7⟩ y1 h hin1 hout1;rw [Wk] at h;exact Wx⟩
def Vb:Bool→Option Int
| x16=>
 A0 x16 (
 some 190) (
 some 0)
def Va (x1:HL):Unit→Option Int
| ()=>
 A0 (decide (64<(ln NO.row x1.NS))) (
 Vb true) (
 (SW x1.ML ((fun z=>Qr z x1))).bind fun x15=>
 Vb x15)
def Qs (x6:Int):Bool→Option (Int ⊕ Int)
| x9=>
 A0 x9 (
 Option.map Sum.inr (some 190)) (
 some (.inl (wr (x6+1))))
def Vc (x1:HL):Int→Option (Int ⊕ Int)
| x6=>
 A0 (decide (x6<(ln NO.row x1.NS))) (
 (Ac x1.NS x6).bind fun x7=>
 A0 (!decide (x7.DK.DI.ID=x6)) (
 (Qs x6) true) (
 (Ip x7).bind fun x8=>
 (Qs x6) (!decide (x8=0)))) (
 Option.map Sum.inr ((Va x1) ()))
def MY (x1:HL):Option Int:=loop (Vc x1) 0
instance k_hall_Check {x1}:KP (MY x1) 77 [.agg (HL.row x1)] (fun r=>(.iv r)):=⟨fun{r} h=>by
 have ok:=oJ 77 Tryz.f77 [.t 2] 1 36;refine FP ok fun w0 H0=>?_;rw [MY] at h;refine Vg 18 ?_;refine Vk [1,1,1,1] (fun _=>[]) (Va x1) r ?_ fun J1=>?_
 ·rintro ⟨⟩ h;rw [Va] at h;refine Vg 8 ?_;refine Vl [] (fun x16=>([(36,.bv x16)],[],[])) Vb r ?_ fun J3=>?_
  ·intro x16 h;rw [Vb] at h;exact Wx
  ·exact Wx
 ·refine Vg 1 ?_;refine Mk h [1,1,1,1,4,2] (fun x6=>[(10,.iv x6)]) ?_;rintro n1 x6 y1 h hin1 hout1;rw [Vc] at h;refine Vg 5 ?_;refine MI h (fun h=>?_) fun h=>?_
  ·refine Vg 6 ?_;have ⟨x7,ex7,h⟩:=Bs h;refine Dt NO.row ex7 trivial rfl rfl rfl (Vg 14 ?_);refine Vl [1,1,1,1,4,3] (fun x9=>([(25,.bv x9)],[some ⟨38,HL.row x1⟩],[])) (Qs x6) y1 ?_ fun J2=>?_
   ·intro x9 h;rw [Qs] at h;exact Wx
   ·exact Wx
  ·exact Wx⟩
def ac (x2:List EV):Unit→Option (Int×Int)
| ()=>some (ln EV.row x2,0)
def N3 (x2:List EV):(Int×List Place)→Option ((Int×List Place) ⊕ (Int×Int))
| (x8,x9)=>
 A0 (decide (x8<(ln EV.row x2))) (
 (Ac x2 x8).bind fun x10=>
 (Eu (Model.mk x9) x10).bind fun x11=>
 A0 (!decide (x11.2=0)) (
 Option.map Sum.inr (some (x8,x11.2))) (
 some (.inl (wr (x8+1),x11.1.Places)))) (
 Option.map Sum.inr ((ac x2) ()))
def Qz (x1:Graph) (x2:List EV):Option (Int×Int):=
 (Jt x1).bind fun x3=>
 A0 (!decide (x3.2=0)) (
 some (0,x3.2)) (
 loop (N3 x2) (0,x3.1.Places))
instance k_model_Accept {x1 x2}:KP (Qz x1 x2) 14 [.agg (Graph.row x1),ED x2] (fun r=>(.tup [.iv r.1,.iv r.2])):=⟨fun{r} h=>by
 have ok:=oJ 14 Tryz.f14 [.t 4,.t 5] 2 36;refine FP ok fun w0 H0=>?_;rw [Qz] at h;refine Vg 9 ?_;refine VB h k_model_New.k fun _ _ h=>?_;refine Vg 13 ?_;refine MI h (fun h=>?_) fun h=>?_
 ·exact Wx
 ·refine Vg 8 ?_;refine Vl [1,1] (fun _=>([],[],[])) (ac x2) r ?_ fun J1=>?_
  ·rintro ⟨⟩ h;rw [ac] at h;exact Wx
  ·refine Vg 1 ?_;refine Ml h [1,1,4,1,11,2] (fun s=>([(20,.iv s.1)],[none,some ⟨30,[C0 s.2]⟩],[])) ?_;rintro n1 ⟨x8,x9⟩ y1 h hin1 hout1;rw [N3] at h;exact Wx⟩
@[go_sem] def e9:EC:=eQ Tryz.f9
theorem OJ:FnOK Tryz.prog 9 Tryz.f9 e9 [.t 5] 3 143:=AP
def aH (x7:Int):(Int×Int×Int×Int×List SE×List Int×List ML×List KE×List EV×List KE×List Int×List SX)→Option ((Int×Int×Int×Int×List SE×List Int×List ML×List KE×List EV×List KE×List Int×List SX) ⊕ (Int×Int×Int×Int×List SE×List Int×Int×List SX×List Int×List KE×List KE×List ML×List EV))
| (x28,x29,x30,x31,x32,x33,x34,x35,x36,x37,x38,x39)=>
 (NP x28 x29 x30 x31 x32 x33 x39 x38 x35 x37).bind fun x40=>
 (NB x28 x29 x30 x31 x32 x33 x7 x39 x38 x35 x37 x34 x36).bind fun x41=>
 (JE (NO.mk (DK.mk (DI.mk x28 x29 x40.1) x30 x40.2.1) (BK.mk x31 x40.2.2.2.2.2) x40.2.2.1 x40.2.2.2.1 x40.2.2.2.2.1) (NO.mk (DK.mk (DI.mk x41.1 x41.2.1 x41.2.2.2.2.2.2.2.2.2.2.2) x41.2.2.1 x41.2.2.2.2.2.2.2.2.2.1) (BK.mk x41.2.2.2.1 x41.2.2.2.2.1) x41.2.2.2.2.2.2.1 x41.2.2.2.2.2.1 x41.2.2.2.2.2.2.2.2.1)).bind fun x42=>
 A0 x42 (
 Option.map Sum.inr (some (x41.1,x41.2.1,x41.2.2.1,x41.2.2.2.1,x41.2.2.2.2.1,x41.2.2.2.2.2.1,0,x41.2.2.2.2.2.2.2.2.2.2.2,x41.2.2.2.2.2.2.2.2.2.1,x41.2.2.2.2.2.2.1,x41.2.2.2.2.2.2.2.2.1,x41.2.2.2.2.2.2.2.2.2.2.1,x41.2.2.2.2.2.2.2.1))) (
 some (.inl (x41.1,x41.2.1,x41.2.2.1,x41.2.2.2.1,x41.2.2.2.2.1,x41.2.2.2.2.2.1,x41.2.2.2.2.2.2.2.2.2.2.1,x41.2.2.2.2.2.2.1,x41.2.2.2.2.2.2.2.1,x41.2.2.2.2.2.2.2.2.1,x41.2.2.2.2.2.2.2.2.2.1,x41.2.2.2.2.2.2.2.2.2.2.2)))
def JM (x1 x2:Int) (x3 x4:Int) (x5:List SE) (x6:List Int) (x7:Int) (x8:List SX) (x9:List Int) (x10 x11:List KE) (x12:List EV):Option (Int×Int×Int×Int×List SE×List Int×Int×List SX×List Int×List KE×List KE×List ML×List EV):=
 A0 (!decide (x7=0)) (
 some (0,0,0,0,([]:List SE),([]:List Int),x7,([]:List SX),([]:List Int),([]:List KE),([]:List KE),([]:List ML),([]:List EV))) (
 loop (aH x7) (x1,x2,x3,x4,x5,x6,([]:List ML),x10,x12,x11,x9,x8))
instance t_node_node_settled_I1 {x1 x2 x3 x4 x5 x6 x7 x8 x9 x10 x11 x12}:KT (JM x1 x2 x3 x4 x5 x6 x7 x8 x9 x10 x11 x12) 123 [.ptr 0 0] [some ⟨191,[.iv x1,.iv x2,.osl 0,.iv x3,.osl 1,.iv x4,Aq x5,.osl 2,Aj x6,.osl 3,.nl,.osl 4,.iv x7]⟩] [Al x8,Ae x9,Ai x10,Ai x11,Bk x12] (fun r=>(.tup [.agg [.iv r.1,.iv r.2.1,.osl 5,.iv r.2.2.1,.osl 6,.iv r.2.2.2.1,Aq r.2.2.2.2.1,.osl 7,Aj r.2.2.2.2.2.1,.osl 8],.osl 9,.osl 10,.iv r.2.2.2.2.2.2.1])) (fun _=>[none]) (fun r=>[none,none,none,none,none,Al r.2.2.2.2.2.2.2.1,Ae r.2.2.2.2.2.2.2.2.1,Ai r.2.2.2.2.2.2.2.2.2.1,Ai r.2.2.2.2.2.2.2.2.2.2.1,AG r.2.2.2.2.2.2.2.2.2.2.2.1,Bk r.2.2.2.2.2.2.2.2.2.2.2.2]):=⟨fun{r} h=>by
 refine Ft ik fun w0 M0=>?_;have ok:=ik;have A3:AJ [.r 49 5,.r 41 18,.r 50 27,.r 45 22,.r 37 14,.r 42 19]:=trivial;have A2:AJ [.r 50 5,.r 45 6,.r 37 7,.r 42 8,.r 49 9,.r 41 10]:=trivial;have A1:AJ [.o 1 2 100 8,.o 1 4 3 1,.o 1 7 147 2,.o 1 9 147 2,.t 3 156 5,.t 4 47 5]:=trivial;rw [JM] at h;refine Vg 16 ?_;refine MI h (fun h=>?_) fun h=>?_
 ·exact Wx
 ·refine Vg 2 ?_;(refine Wj [.o 0 10 156 5,.w 47 5,.w 47 5,.w 47 5,.w 47 5,.w 47 5,.w 47 5,.w 47 5,.w 47 5,.w 47 5,.w 47 5,.w 47 5,.w 47 5,.w 47 5,.r 4 18,.w 100 8,.w 100 8,.w 100 8,.w 100 8,.w 100 8,.w 100 8,.w 100 8,.w 100 8,.w 100 8,.r 0 27,.r 1 22,.r 2 14,.r 3 19] ?_);refine Ml h [0,1,1,1] (fun s=>([],[some ⟨191,[.iv s.1,.iv s.2.1,.osl 27,.iv s.2.2.1,.osl 22,.iv s.2.2.2.1,Aq s.2.2.2.2.1,.osl 14,Aj s.2.2.2.2.2.1,.osl 19,.osl 5,.osl 18,.iv x7]⟩,some ⟨60,[.iv 0,.iv 0,.nl,.iv 0,.nl,.iv 0,.nl,.nl,.nl,.nl]⟩],[none,none,none,none,none,AG s.2.2.2.2.2.2.1,none,none,none,none,none,none,none,none,Ai s.2.2.2.2.2.2.2.1,none,none,none,Bk s.2.2.2.2.2.2.2.2.1,Ai s.2.2.2.2.2.2.2.2.2.1,none,none,Ae s.2.2.2.2.2.2.2.2.2.2.1,none,none,none,none,Al s.2.2.2.2.2.2.2.2.2.2.2])) ?_;rintro n1 ⟨x28,x29,x30,x31,x32,x33,x34,x35,x36,x37,x38,x39⟩ y1 h hin1 hout1;rw [aH] at h;exact Wx⟩
def Ve:List NO→Option (HL×Int)
| x19=>some ((HL.mk x19 (([]:List ML))),0)
def Vf (x2:(Bar×Int)):(Int×List NO)→Option ((Int×List NO) ⊕ (HL×Int))
| (x8,x9)=>
 A0 (decide (x8<(ln DK.row x2.1.DS))) (
 (Ac x2.1.DS x8).bind fun x10=>
 (Rs x10).bind fun x11=>
 A0 (!decide (x11.2=0)) (
 Option.map Sum.inr (some ((HL.mk (([]:List NO)) (([]:List ML))),x11.2))) (
 (AE 176 x9 ([x11.1])).bind fun x12=>
 some (.inl (wr (x8+1),x12)))) (
 Option.map Sum.inr (Ve x9))
def Qu (x1:Graph):Option (HL×Int):=
 (PO x1).bind fun x2=>
 A0 (!decide (x2.2=0)) (
 some ((HL.mk (([]:List NO)) (([]:List ML))),x2.2)) (
 loop (Vf x2) (0,([]:List NO)))
instance k_hall_New {x1}:KP (Qu x1) 22 [.agg (Graph.row x1)] (fun r=>(.tup [.agg (HL.row r.1),.iv r.2])):=⟨fun{r} h=>by
 have ok:=oJ 22 Tryz.f22 [.c 2 (some 2),.t 3] 1 43;refine FP ok fun w0 H0=>?_;have A2:AJ [.r 2 0]:=trivial;have A1:AJ [.s 0]:=trivial;rw [Qu] at h;refine Vg 9 ?_;refine VB h k_bar_New.k fun _ _ h=>?_;refine Vg 13 ?_;refine MI h (fun h=>?_) fun h=>?_
 ·exact Wx
 ·refine Vg 13 ?_;refine Vl [2,1,3,1] (fun x19=>([],[none,some ⟨38,[.nl,.nl]⟩,none,some ⟨38,[.osl 0,.nl]⟩],[F0 x19])) Ve r ?_ fun J1=>?_
  ·intro x19 h;rw [Ve] at h;exact Wx
  ·refine Vg 1 ?_;(refine Wj [.o 3 0 60 10] ?_);refine Mm h [2,1,3,1,14,2] (fun s=>([(23,.iv s.1)],[],[(0,none),(2,none)],[(0,F0 s.2)])) ?_;rintro n1 ⟨x8,x9⟩ y1 h hin1 hout1;rw [Vf] at h;exact Wx⟩
def Ff:Bool→Option Bool
| x16=>some x16
def W9 (x1:(Int×Int)) (x2:(Model×Int)):(Int×List Place)→Option Bool
| (x6,x7)=>
 (Eu (Model.mk x7) (EV.mk 7 0 0 1 (([]:List Int)))).bind fun x8=>
 A0 (decide (x1.1=3)) (
 A0 (decide (x1.2=203)) (
 A0 (decide (x2.2=0)) (
 A0 (decide (x6=0)) (
 A0 (decide (x8.2=0)) (
 (GJ x8.1 0).bind fun x9=>
 (Hv x9 ([1])).bind fun x10=>
 A0 x10 (
 (GJ (Model.mk x7) 0).bind fun x11=>
 A0 (decide ((ln Am x11)=0)) (
 (QA (Model.mk x7)).bind fun x12=>
 A0 x12 (
 (N5 (Model.mk x7)).bind fun x13=>
 A0 (decide (x13=0)) (
 (N6 (Model.mk x7) (Model.mk x7)).bind fun x14=>
 A0 x14 (
 (N6 (Model.mk x7) x8.1).bind fun x15=>
 Ff (!x15)) (
 Ff false)) (
 Ff false)) (
 Ff false)) (
 Ff false)) (
 Ff false)) (
 Ff false)) (
 Ff false)) (
 Ff false)) (
 Ff false)) (
 Ff false)
def Nq:Option Bool:=
 (Qz (Graph.mk 2 ([Edge.mk 0 1])) ([EV.mk 0 0 1 0 ([1]),EV.mk 0 1 1 0 ([0]),EV.mk 1 1 1 0 (([]:List Int)),EV.mk 1 0 1 0 (([]:List Int))])).bind fun x1=>
 (Jt (Graph.mk 2 ([Edge.mk 0 1]))).bind fun x2=>
 (Ac ([EV.mk 0 0 1 0 ([1]),EV.mk 0 1 1 0 ([0]),EV.mk 1 1 1 0 (([]:List Int)),EV.mk 1 0 1 0 (([]:List Int))]) 0).bind fun x3=>
 (Eu x2.1 x3).bind fun x4=>
 (W9 x1 x2) (x4.2,x4.1.Places)
instance k_narthexlaw20_awake :KP (Nq) 4 [] (fun r=>(.bv r)):=⟨fun{r} h=>by
 have ok:=oJ 4 Tryz.f4 [.t 0] 0 96;refine FP ok fun w0 H0=>?_;rw [Nq] at h;refine Vg 20 ?_;refine YX 18 (.agg [.iv 1,.iv 1,.iv 1,.iv 0,Aj (([]:List Int))]) (by simp [go_sem]) (Ds ?_);refine YX 19 (.agg [.iv 1,.iv 0,.iv 1,.iv 0,Aj (([]:List Int))]) (by simp [go_sem]) (Ds ?_);(refine Wj [.s 1,.s 2] ?_);refine Vg 7 ?_;refine VN ((LR.slice 0 rfl).slice 3 rfl) h k_model_Accept.k fun x1 _ h=>?_;refine Vg 9 ?_;(refine Wj [.s 0] ?_);refine VB h k_model_New.k fun x2 _ h=>?_;refine Vg 8 ?_;refine Vl [3,2,1,1] (fun s=>([(7,.ptr 2 0),(8,.iv s.1)],[none,none,some ⟨30,[C0 s.2]⟩],[])) (W9 x1 x2) r ?_ fun J1=>?_
 ·rintro ⟨x6,x7⟩ h;rw [W9] at h;refine Vg 4 ?_;refine VB h k_model_Step.k fun _ _ h=>?_;refine Vg 12 ?_;refine Vl [] (fun x16=>([(0,.bv x16)],[],[])) Ff r ?_ fun J2=>?_
  ·intro x16 h;rw [Ff] at h;exact Wx
  ·exact Wx
 ·refine AD fun all H=>?_;refine Gn H 2 9 ?_;have ⟨x3,ex3,h⟩:=Bs h;refine Ao 2 8 rfl ?_ ?_
  ·refine GI H.1 EV.row ex3 (Ds ?_);refine Ao 3 8 rfl ?_ ?_
   ·refine YK H.1 EV.row ex3 rfl trivial rfl rfl rfl (Ds ?_);have ⟨x4,ex4,h⟩:=Bs h;refine Ao 4 8 rfl ?_ ?_
    ·refine GC H.1 (k_model_Step.k ex4) ?_;refine Gn H 3 3 ?_;refine R1 ?_;refine R1 ?_;refine Gn H 1 0 ?_;refine GD ?_;exact Wx
    ·refine RV ?_;refine Ak 4 rfl (GC H.1 (k_model_Step.k ex4) ?_);refine Gn H 3 2 ?_;refine R1 ?_;refine Gn H 1 0 ?_;refine GD ?_;exact Wx
   ·refine RV ?_;refine Ak 3 rfl (YK H.1 EV.row ex3 rfl trivial rfl rfl rfl (Ds ?_));refine RB h k_model_Step.k fun x4 ex4 h=>?_;refine Gn H 3 2 ?_;refine R1 ?_;refine Gn H 1 0 ?_;refine GD ?_;exact Wx
  ·refine RV ?_;refine Ak 2 rfl (GI H.1 EV.row ex3 (Ds ?_));refine Ak 3 rfl (YK H.1 EV.row ex3 rfl trivial rfl rfl rfl (Ds ?_));refine RB h k_model_Step.k fun _ _ h=>?_;refine Gn H 3 2 ?_;refine R1 ?_;refine Gn H 1 0 ?_;refine GD ?_;exact Wx⟩
def VZ (x1:HL) (x2:List Place):Unit→Option Bool
| ()=>some (decide ((ln NO.row x1.NS)=(ln Place.row x2)))
def Rc (x39:Int):Unit→Option (Int ⊕ Bool)
| ()=>some (.inl (wr (x39+1)))
def Nl (x59:Int):Bool→Option (Int ⊕ (Int ⊕ Bool))
| x67=>
 A0 x67 (
 Option.map Sum.inr (Option.map Sum.inr (some false))) (
 some (.inl (wr (x59+1))))
def Rf (x39:Int) (x43:BK) (x44:BK):Int→Option (Int ⊕ (Int ⊕ Bool))
| x59=>
 A0 (decide (x59<(ln SE.row x43.SE))) (
 (Ac x43.SE x59).bind fun x60=>
 (Ac x44.SE x59).bind fun x61=>
 A0 (!decide (x60.ID=x61.ID)) (
 (Nl x59) true) (
 (Ac x43.SE x59).bind fun x62=>
 (Ac x44.SE x59).bind fun x63=>
 A0 (!decide (x62.SS=x63.SS)) (
 (Nl x59) true) (
 (Ac x43.SE x59).bind fun x64=>
 (Ac x44.SE x59).bind fun x65=>
 (Hv x64.NE x65.NE).bind fun x66=>
 (Nl x59) (!x66)))) (
 Option.map Sum.inr ((Rc x39) ()))
def Nk (x39:Int) (x43:BK) (x44:BK):Bool→Option (Int ⊕ Bool)
| x49=>
 A0 x49 (
 Option.map Sum.inr (some false)) (
 loop (Rf x39 x43 x44) 0)
def W0 (x1:HL) (x2:List Place) (x39:Int):(BK×BK)→Option (Int ⊕ Bool)
| (x43,x44)=>
 A0 (!decide (x43.LA=x44.LA)) (
 (Nk x39 x43 x44) true) (
 A0 (!decide ((ln SE.row x43.SE)=(ln SE.row x44.SE))) (
 (Nk x39 x43 x44) true) (
 (Ac x2 x39).bind fun x45=>
 (Ac x1.NS x39).bind fun x46=>
 (Jz x46).bind fun x47=>
 (Hv x45.Live x47).bind fun x48=>
 (Nk x39 x43 x44) (!x48)))
def Nj (x1:HL) (x2:List Place) (x39:Int):Bool→Option (Int ⊕ Bool)
| x40=>
 A0 x40 (
 (Ac x1.NS x39).bind fun x41=>
 (Ac x2 x39).bind fun x42=>
 (W0 x1 x2 x39) (x41.BK,x42.BK)) (
 Option.map Sum.inr ((VZ x1 x2) ()))
def Re (x1:HL) (x2:List Place):Int→Option (Int ⊕ Bool)
| x39=>
 A0 (decide (x39<(ln NO.row x1.NS))) (
 (Nj x1 x2 x39) (decide (x39<(ln Place.row x2)))) (
 (Nj x1 x2 x39) false)
def VY (x1:HL) (x2:List Place):Unit→Option Bool
| ()=>loop (Re x1 x2) 0
def W1 (x1:HL) (x2:List Place):Unit→Option (Unit ⊕ Bool)
| ()=>
 A0 (decide (0<0)) (
 none) (
 Option.map Sum.inr ((VY x1 x2) ()))
def Rb (x1:HL) (x2:List Place):Option Bool:=loop (W1 x1 x2) ()
instance t_narthexlaw20_ModelHall_1_I1 {x1 x2}:KT (Rb x1 x2) 9 [.agg (HL.row x1),.nl,.ptr 0 0] [some ⟨30,[C0 x2]⟩] [] (fun r=>(.bv r)) (fun _=>[some ⟨30,[C0 x2]⟩]) (fun _=>[]):=⟨fun{r} h=>by
 refine Ft OJ fun w0 M0=>?_;have ok:=OJ;rw [Rb] at h;refine Vg 10 ?_;refine Vk [2,2] (fun _=>[]) (VY x1 x2) r ?_ fun J1=>?_
 ·rintro ⟨⟩ h;rw [VY] at h;refine Vg 5 ?_;refine Vk [2,2] (fun _=>[]) (VZ x1 x2) r ?_ fun J3=>?_
  ·rintro ⟨⟩ h;rw [VZ] at h;exact Wx
  ·refine Vg 1 ?_;refine Mk h [2,2] (fun x39=>[(9,.iv x39)]) ?_;rintro n1 x39 y1 h hin1 hout1;rw [Re] at h;refine Vg 9 ?_;refine Vk [2,2,5,1] (fun x40=>[(43,.bv x40)]) (Nj x1 x2 x39) y1 ?_ fun J4=>?_
   ·intro x40 h;rw [Nj] at h;refine MI h (fun h=>?_) fun h=>?_
    ·refine Vg 4 ?_;refine Vl [2,2,5,1] (fun s=>([(10,.ptr 2 0),(11,.ptr 3 0)],[some ⟨30,[C0 x2]⟩,some ⟨38,HL.row x1⟩,some ⟨57,[.iv s.1.LA,Aq s.1.SE]⟩,some ⟨57,[.iv s.2.LA,Aq s.2.SE]⟩],[])) (W0 x1 x2 x39) y1 ?_ fun J5=>?_
     ·rintro ⟨x43,x44⟩ h;rw [W0] at h;refine Vg 2 ?_;refine Vk [2,2,5,3] (fun x49=>[(87,.bv x49)]) (Nk x39 x43 x44) y1 ?_ fun J6=>?_
      ·intro x49 h;rw [Nk] at h;refine MI h (fun h=>?_) fun h=>?_
       ·exact Wx
       ·refine Vg 5 ?_;refine Vl [2,2,5,1] (fun _=>([],[some ⟨30,[C0 x2]⟩,some ⟨38,HL.row x1⟩],[])) (Rc x39) y1 ?_ fun J7=>?_
        ·rintro ⟨⟩ h;rw [Rc] at h;exact Wx
        ·refine Vg 1 ?_;refine Mk h [2,2,5,3] (fun x59=>[(12,.iv x59)]) ?_;rintro n2 x59 y2 h hin2 hout2;rw [Rf] at h;refine Vg 9 ?_;refine MI h (fun h=>?_) fun h=>?_
         ·refine Vg 4 ?_;refine Vk [2,2,5,4] (fun x67=>[(138,.bv x67)]) (Nl x59) y2 ?_ fun J8=>?_
          ·intro x67 h;rw [Nl] at h;refine MI h (fun h=>?_) fun h=>?_
           ·refine Vg 4 ?_;obtain rfl:=Option.some.inj (CU (CU h hout2) hout1);exact E7 OJ
           ·exact Wx
          ·refine AD fun all H=>Ds (GP H 6 38 [3,3,3,35] [(95,[.ptr 2 1,Aq x43.SE,.iv x59]),(3,[.ptr 3 1,Aq x44.SE,.iv x59])] (Ds ?_));have ⟨x60,ex60,h⟩:=Bs h;refine BT H.1 H.2.1 H.2.2.1 H.2.2.2 3 SE.row ex60 rfl rfl trivial rfl rfl rfl rfl (GP H 2 35 [9,35] [(99,[.elt (SE.row x60) 0,.iv x60.ID])] (Ds ?_));have ⟨x61,ex61,h⟩:=Bs h;refine BT H.1 H.2.1 H.2.2.1 H.2.2.2 9 SE.row ex61 rfl rfl trivial rfl rfl rfl rfl (GP H 4 30 [14,30] [(105,[.elt (SE.row x61) 0,.iv x61.ID,.bv (!decide (x60.ID=x61.ID)),.bv (!decide (x60.ID=x61.ID))])] (Ds ?_));refine BW 108 h rfl (fun _ h=>?_) fun _ h=>?_
           ·refine Ds (GP H 30 0 [44] [(109,ux 13 (.tt::.tt::ux 14 [.tt]))] (Ds ?_));refine GD ?_;exact Wx
           ·refine Ds (GP H 6 24 [17,3,3,21] [(109,[.ptr 2 1,Aq x43.SE,.iv x59]),(3,[.ptr 3 1,Aq x44.SE,.iv x59])] (Ds ?_));have ⟨x62,ex62,h⟩:=Bs h;refine BT H.1 H.2.1 H.2.2.1 H.2.2.2 17 SE.row ex62 rfl rfl trivial rfl rfl rfl rfl (GP H 2 21 [23,21] [(113,[.elt (SE.row x62) 2,.iv x62.SS])] (Ds ?_));have ⟨x63,ex63,h⟩:=Bs h;refine BT H.1 H.2.1 H.2.2.1 H.2.2.2 23 SE.row ex63 rfl rfl trivial rfl rfl rfl rfl (GP H 5 15 [29,15] [(119,[.elt (SE.row x63) 2,.iv x63.SS,.bv (!decide (x62.SS=x63.SS)),.bv (!decide (x62.SS=x63.SS)),.bv (!decide (x62.SS=x63.SS))])] (Ds ?_));refine BW 123 h rfl (fun _ h=>?_) fun _ h=>?_
            ·refine Ds (GP H 15 0 [44] [(124,ux 14 [.tt])] (Ds ?_));refine GD ?_;exact Wx
            ·refine Ds (GP H 6 9 [32,3,3,6] [(124,[.ptr 2 1,Aq x43.SE,.iv x59]),(3,[.ptr 3 1,Aq x44.SE,.iv x59])] (Ds ?_));have ⟨x64,ex64,h⟩:=Bs h;refine BT H.1 H.2.1 H.2.2.1 H.2.2.2 32 SE.row ex64 rfl rfl trivial rfl rfl rfl rfl (GP H 2 6 [38,6] [(128,[.elt (SE.row x64) 1,Aj x64.NE])] (Ds ?_));have ⟨x65,ex65,h⟩:=Bs h;refine BT H.1 H.2.1 H.2.2.1 H.2.2.2 38 SE.row ex65 rfl rfl trivial rfl rfl rfl rfl (GP H 2 3 [41,3] [(134,[.elt (SE.row x65) 1,Aj x65.NE])] (Ds ?_));refine RB h k_narthexref01_Same.k fun x66 _ h=>?_;refine GP H 2 0 [44] [(137,[.bv (!x66),.bv (!x66)])] (Ds ?_);refine GD ?_;exact Wx
         ·exact Wx
      ·refine AD fun all H=>Ds (GP H 6 24 [6,24] [(58,[.ptr 2 0,.iv x43.LA,.ptr 3 0,.iv x44.LA,.bv (!decide (x43.LA=x44.LA)),.bv (!decide (x43.LA=x44.LA))])] (Ds ?_));refine BW 63 h rfl (fun _ h=>?_) fun _ h=>?_
       ·refine Ds (GP H 24 0 [30] [(64,ux 7 (.tt::.tt::ux 14 [.tt]))] (Ds ?_));refine GD ?_;exact Wx
       ·refine Ds (GP H 9 15 [15,15] [(64,[.ptr 2 1,Aq x43.SE,.iv (ln SE.row x43.SE),.ptr 3 1,Aq x44.SE,.iv (ln SE.row x44.SE),.bv (!decide ((ln SE.row x43.SE)=(ln SE.row x44.SE))),.bv (!decide ((ln SE.row x43.SE)=(ln SE.row x44.SE))),.bv (!decide ((ln SE.row x43.SE)=(ln SE.row x44.SE)))])] (Ds ?_));refine BW 72 h rfl (fun _ h=>?_) fun _ h=>?_
        ·refine Ds (GP H 15 0 [30] [(73,ux 14 [.tt])] (Ds ?_));refine GD ?_;exact Wx
        ·refine Ds (GP H 6 9 [18,3,3,6] [(73,[.ptr 0 0,C0 x2,.iv x39]),(3,[.ptr 1 0,Ep x1.NS,.iv x39])] (Ds ?_));have ⟨x45,ex45,h⟩:=Bs h;refine BT H.1 H.2.1 H.2.2.1 H.2.2.2 18 Place.row ex45 rfl rfl trivial rfl rfl rfl rfl (Gn H 2 6 ?_);have ⟨x46,ex46,h⟩:=Bs h;refine BT H.1 H.2.1 H.2.2.1 H.2.2.2 24 NO.row ex46 rfl rfl trivial rfl rfl rfl rfl (GN H 1 4 (Ds ?_));refine An (RB h ZG fun _ _ h=>?_);refine RB h k_narthexref01_Same.k fun _ _ h=>?_;refine Gn H 2 0 ?_;refine GD ?_;exact Wx
     ·refine AD fun all H=>Ds (GP H 5 11 [3,3,1,1,1,7] [(46,[.ptr 1 0,Ep x1.NS,.iv x39]),(3,[.ptr 0 0]),(1,[.iv x39])] (Ds ?_));have ⟨x41,ex41,h⟩:=Bs h;refine BT H.1 H.2.1 H.2.2.1 H.2.2.2 3 NO.row ex41 rfl rfl trivial rfl rfl rfl rfl (Gn H 2 8 ?_);refine Eo 7 12 13 rfl ?_ ?_ ?_
      ·refine RV ?_;have ⟨x42,ex42,h⟩:=Bs h;refine BT H.1 H.2.1 H.2.2.1 H.2.2.2 9 Place.row ex42 rfl rfl trivial rfl rfl rfl rfl (Gn H 1 5 ?_);refine Eo 11 12 13 rfl ?_ ?_ ?_
       ·refine RV ?_;refine Ao 12 13 rfl ?_ ?_
        ·refine RV ?_;refine R1 ?_;refine R1 ?_;refine R1 ?_;refine GD ?_;exact Wx
        ·refine RV ?_;refine R1 ?_;refine R1 ?_;refine R1 ?_;refine GD (Df 2 3 rfl rfl ?_);exact Wx
       ·refine RV ?_;refine Ao 11 13 rfl ?_ ?_
        ·refine RV ?_;refine R1 ?_;refine R1 ?_;refine R1 ?_;refine GD ?_;exact Wx
        ·refine RV ?_;refine Ao 11 14 rfl ?_ ?_
         ·refine RV ?_;refine R1 ?_;refine R1 ?_;refine GD ?_;exact Wx
         ·refine RV ?_;refine Gn H 1 1 ?_;refine R1 ?_;refine GD ?_;exact Wx
       ·refine RV ?_;refine Ao 11 12 rfl ?_ ?_
        ·refine RV ?_;refine R1 ?_;refine R1 ?_;refine R1 ?_;refine GD (Df 2 3 rfl rfl ?_);exact Wx
        ·refine RV ?_;refine Ao 11 14 rfl ?_ ?_
         ·refine RV ?_;refine R1 ?_;refine R1 ?_;refine GD (Df 2 3 rfl rfl ?_);exact Wx
         ·refine RV ?_;refine Gn H 1 1 ?_;refine R1 ?_;refine GD (Df 2 3 rfl rfl ?_);exact Wx
      ·refine RV ?_;refine Ao 7 13 rfl ?_ ?_
       ·refine RV ?_;have ⟨x42,ex42,h⟩:=Bs h;refine BT H.1 H.2.1 H.2.2.1 H.2.2.2 9 Place.row ex42 rfl rfl trivial rfl rfl rfl rfl (Gn H 1 4 ?_);refine Ao 11 13 rfl ?_ ?_
        ·refine RV ?_;refine R1 ?_;refine R1 ?_;refine R1 ?_;refine GD ?_;exact Wx
        ·refine RV ?_;refine Ao 11 14 rfl ?_ ?_
         ·exact Wx
         ·exact Wx
       ·refine RV ?_;refine Ao 7 14 rfl ?_ ?_
        ·refine RV ?_;have ⟨x42,ex42,h⟩:=Bs h;refine BT H.1 H.2.1 H.2.2.1 H.2.2.2 9 Place.row ex42 rfl rfl trivial rfl rfl rfl rfl (Gn H 1 3 ?_);refine Ao 11 14 rfl ?_ ?_
         ·exact Wx
         ·exact Wx
        ·refine RV ?_;refine Gn H 1 4 ?_;have ⟨x42,ex42,h⟩:=Bs h;refine BT H.1 H.2.1 H.2.2.1 H.2.2.2 9 Place.row ex42 rfl rfl trivial rfl rfl rfl rfl (Gn H 2 1 ?_);refine R1 ?_;refine GD ?_;exact Wx
      ·refine RV ?_;refine Ao 7 12 rfl ?_ ?_
       ·refine RV ?_;have ⟨x42,ex42,h⟩:=Bs h;refine BT H.1 H.2.1 H.2.2.1 H.2.2.2 9 Place.row ex42 rfl rfl trivial rfl rfl rfl rfl (Gn H 1 4 ?_);refine Ao 11 12 rfl ?_ ?_
        ·refine RV ?_;refine R1 ?_;refine R1 ?_;refine R1 ?_;refine GD (Df 2 3 rfl rfl ?_);exact Wx
        ·refine RV ?_;refine Ao 11 14 rfl ?_ ?_
         ·refine RV ?_;refine R1 ?_;refine R1 ?_;refine GD (Df 2 3 rfl rfl ?_);exact Wx
         ·refine RV ?_;refine Gn H 1 1 ?_;refine R1 ?_;refine GD (Df 2 3 rfl rfl ?_);exact Wx
       ·refine RV ?_;refine Ao 7 14 rfl ?_ ?_
        ·refine RV ?_;have ⟨x42,ex42,h⟩:=Bs h;refine BT H.1 H.2.1 H.2.2.1 H.2.2.2 9 Place.row ex42 rfl rfl trivial rfl rfl rfl rfl (Gn H 1 3 ?_);refine Ao 11 14 rfl ?_ ?_
         ·refine RV ?_;refine R1 ?_;refine R1 ?_;refine GD (Df 2 3 rfl rfl ?_);exact Wx
         ·refine RV ?_;refine Gn H 1 1 ?_;refine R1 ?_;refine GD (Df 2 3 rfl rfl ?_);exact Wx
        ·refine RV ?_;refine Gn H 1 4 ?_;have ⟨x42,ex42,h⟩:=Bs h;refine BT H.1 H.2.1 H.2.2.1 H.2.2.2 9 Place.row ex42 rfl rfl trivial rfl rfl rfl rfl (Gn H 2 1 ?_);refine R1 ?_;refine GD (Df 2 3 rfl rfl ?_);exact Wx
    ·exact Wx
   ·refine MC 37 h (fun h=>?_) fun h=>?_
    ·exact Wx
    ·exact Wx
 ·refine Vg 1 ?_;refine Mk h [1,3,2,1] (fun _=>[]) ?_;rintro n1 ⟨⟩ y1 h hin1 hout1;rw [W1] at h;refine Vg 8 ?_;refine MI h (fun h=>?_) fun h=>?_
  ·cases h
  ·exact Wx⟩
def W4 (x1:HL) (x28:List Place):Unit→Option (Bool×List Place)
| ()=>some (decide ((ln NO.row x1.NS)=(ln Place.row x28)),x28)
def Ri (x64:Int):Unit→Option (Int ⊕ (Bool×List Place))
| ()=>some (.inl (wr (x64+1)))
def Np (x28:List Place) (x84:Int):Bool→Option (Int ⊕ (Int ⊕ (Bool×List Place)))
| x92=>
 A0 x92 (
 Option.map Sum.inr (Option.map Sum.inr (some (false,x28)))) (
 some (.inl (wr (x84+1))))
def Rk (x28:List Place) (x64:Int) (x68 x69:BK):Int→Option (Int ⊕ (Int ⊕ (Bool×List Place)))
| x84=>
 A0 (decide (x84<(ln SE.row x68.SE))) (
 (Ac x68.SE x84).bind fun x85=>
 (Ac x69.SE x84).bind fun x86=>
 A0 (!decide (x85.ID=x86.ID)) (
 (Np x28 x84) true) (
 (Ac x68.SE x84).bind fun x87=>
 (Ac x69.SE x84).bind fun x88=>
 A0 (!decide (x87.SS=x88.SS)) (
 (Np x28 x84) true) (
 (Ac x68.SE x84).bind fun x89=>
 (Ac x69.SE x84).bind fun x90=>
 (Hv x89.NE x90.NE).bind fun x91=>
 (Np x28 x84) (!x91)))) (
 Option.map Sum.inr ((Ri x64) ()))
def Nn (x28:List Place) (x64:Int) (x68 x69:BK):Bool→Option (Int ⊕ (Bool×List Place))
| x74=>
 A0 x74 (
 Option.map Sum.inr (some (false,x28))) (
 loop (Rk x28 x64 x68 x69) 0)
def W5 (x1:HL) (x28:List Place) (x64:Int):(BK×BK)→Option (Int ⊕ (Bool×List Place))
| (x68,x69)=>
 A0 (!decide (x68.LA=x69.LA)) (
 (Nn x28 x64 x68 x69) true) (
 A0 (!decide ((ln SE.row x68.SE)=(ln SE.row x69.SE))) (
 (Nn x28 x64 x68 x69) true) (
 (Ac x28 x64).bind fun x70=>
 (Ac x1.NS x64).bind fun x71=>
 (Jz x71).bind fun x72=>
 (Hv x70.Live x72).bind fun x73=>
 (Nn x28 x64 x68 x69) (!x73)))
def Nm (x1:HL) (x28:List Place) (x64:Int):Bool→Option (Int ⊕ (Bool×List Place))
| x65=>
 A0 x65 (
 (Ac x1.NS x64).bind fun x66=>
 (Ac x28 x64).bind fun x67=>
 (W5 x1 x28 x64) (x66.BK,x67.BK)) (
 Option.map Sum.inr ((W4 x1 x28) ()))
def Rj (x1:HL) (x28:List Place):Int→Option (Int ⊕ (Bool×List Place))
| x64=>
 A0 (decide (x64<(ln NO.row x1.NS))) (
 (Nm x1 x28 x64) (decide (x64<(ln Place.row x28)))) (
 (Nm x1 x28 x64) false)
def W2 (x1:HL):List Place→Option (Bool×List Place)
| x28=>loop (Rj x1 x28) 0
def W3 (x13:Int) (x14:List Place):(Int×List Place)→Option ((Int×List Place) ⊕ (Bool×List Place))
| (x20,x21)=>
 A0 (!decide (x20=0)) (
 Option.map Sum.inr (some (false,x14))) (
 some (.inl (wr (x13+1),x21)))
def KG (x1:HL) (x2:List EV):(Int×List Place)→Option ((Int×List Place) ⊕ (Bool×List Place))
| (x13,x14)=>
 A0 (decide (x13<(ln EV.row x2))) (
 (Ac x2 x13).bind fun x15=>
 (Rl (Model.mk x14)).bind fun x16=>
 (Eu x16 x15).bind fun x18=>
 (W3 x13 x14) (x18.2,x18.1.Places)) (
 Option.map Sum.inr ((W2 x1) x14))
def Rh (x1:HL) (x2:List EV) (x3:List Place):Option (Bool×List Place):=loop (KG x1 x2) (0,x3)
instance t_narthexlaw20_ModelHall_1_I2 {x1 x2 x3}:KT (Rh x1 x2 x3) 9 [.agg (HL.row x1),ED x2,.ptr 0 0] [some ⟨30,[C0 x3]⟩] [] (fun r=>(.bv r.1)) (fun r=>[some ⟨30,[C0 r.2]⟩]) (fun _=>[]):=⟨fun{r} h=>by
 refine Ft OJ fun w0 M0=>?_;have ok:=OJ;rw [Rh] at h;refine Vg 10 ?_;refine Vm [2,2] (fun x28=>([],[(0,0,C0 x28)],[],[])) (W2 x1) r ?_ fun J1=>?_
 ·intro x28 h;rw [W2] at h;refine Vg 5 ?_;refine Vk [2,2] (fun _=>[]) (W4 x1 x28) r ?_ fun J3=>?_
  ·rintro ⟨⟩ h;rw [W4] at h;exact Wx
  ·refine Vg 1 ?_;refine Mk h [2,2] (fun x64=>[(9,.iv x64)]) ?_;rintro n1 x64 y1 h hin1 hout1;rw [Rj] at h;refine Vg 9 ?_;refine Vk [2,2,5,1] (fun x65=>[(43,.bv x65)]) (Nm x1 x28 x64) y1 ?_ fun J4=>?_
   ·intro x65 h;rw [Nm] at h;refine MI h (fun h=>?_) fun h=>?_
    ·refine Vg 4 ?_;refine Vl [2,2,5,1] (fun s=>([(10,.ptr 2 0),(11,.ptr 3 0)],[some ⟨30,[C0 x28]⟩,some ⟨38,HL.row x1⟩,some ⟨57,[.iv s.1.LA,Aq s.1.SE]⟩,some ⟨57,[.iv s.2.LA,Aq s.2.SE]⟩],[])) (W5 x1 x28 x64) y1 ?_ fun J5=>?_
     ·rintro ⟨x68,x69⟩ h;rw [W5] at h;refine Vg 2 ?_;refine Vk [2,2,5,3] (fun x74=>[(87,.bv x74)]) (Nn x28 x64 x68 x69) y1 ?_ fun J6=>?_
      ·intro x74 h;rw [Nn] at h;refine MI h (fun h=>?_) fun h=>?_
       ·exact Wx
       ·refine Vg 5 ?_;refine Vl [2,2,5,1] (fun _=>([],[some ⟨30,[C0 x28]⟩,some ⟨38,HL.row x1⟩],[])) (Ri x64) y1 ?_ fun J7=>?_
        ·rintro ⟨⟩ h;rw [Ri] at h;exact Wx
        ·refine Vg 1 ?_;refine Mk h [2,2,5,3] (fun x84=>[(12,.iv x84)]) ?_;rintro n2 x84 y2 h hin2 hout2;rw [Rk] at h;refine Vg 9 ?_;refine MI h (fun h=>?_) fun h=>?_
         ·refine Vg 4 ?_;refine Vk [2,2,5,4] (fun x92=>[(138,.bv x92)]) (Np x28 x84) y2 ?_ fun J8=>?_
          ·intro x92 h;rw [Np] at h;refine MI h (fun h=>?_) fun h=>?_
           ·refine Vg 4 ?_;obtain rfl:=Option.some.inj (CU (CU h hout2) hout1);exact E7 OJ
           ·exact Wx
          ·refine AD fun all H=>Ds (GP H 6 38 [3,3,3,35] [(95,[.ptr 2 1,Aq x68.SE,.iv x84]),(3,[.ptr 3 1,Aq x69.SE,.iv x84])] (Ds ?_));have ⟨x85,ex85,h⟩:=Bs h;refine BT H.1 H.2.1 H.2.2.1 H.2.2.2 3 SE.row ex85 rfl rfl trivial rfl rfl rfl rfl (GP H 2 35 [9,35] [(99,[.elt (SE.row x85) 0,.iv x85.ID])] (Ds ?_));have ⟨x86,ex86,h⟩:=Bs h;refine BT H.1 H.2.1 H.2.2.1 H.2.2.2 9 SE.row ex86 rfl rfl trivial rfl rfl rfl rfl (GP H 4 30 [14,30] [(105,[.elt (SE.row x86) 0,.iv x86.ID,.bv (!decide (x85.ID=x86.ID)),.bv (!decide (x85.ID=x86.ID))])] (Ds ?_));refine BW 108 h rfl (fun _ h=>?_) fun _ h=>?_
           ·refine Ds (GP H 30 0 [44] [(109,ux 13 (.tt::.tt::ux 14 [.tt]))] (Ds ?_));refine GD ?_;exact Wx
           ·refine Ds (GP H 6 24 [17,3,3,21] [(109,[.ptr 2 1,Aq x68.SE,.iv x84]),(3,[.ptr 3 1,Aq x69.SE,.iv x84])] (Ds ?_));have ⟨x87,ex87,h⟩:=Bs h;refine BT H.1 H.2.1 H.2.2.1 H.2.2.2 17 SE.row ex87 rfl rfl trivial rfl rfl rfl rfl (GP H 2 21 [23,21] [(113,[.elt (SE.row x87) 2,.iv x87.SS])] (Ds ?_));have ⟨x88,ex88,h⟩:=Bs h;refine BT H.1 H.2.1 H.2.2.1 H.2.2.2 23 SE.row ex88 rfl rfl trivial rfl rfl rfl rfl (GP H 5 15 [29,15] [(119,[.elt (SE.row x88) 2,.iv x88.SS,.bv (!decide (x87.SS=x88.SS)),.bv (!decide (x87.SS=x88.SS)),.bv (!decide (x87.SS=x88.SS))])] (Ds ?_));refine BW 123 h rfl (fun _ h=>?_) fun _ h=>?_
            ·refine Ds (GP H 15 0 [44] [(124,ux 14 [.tt])] (Ds ?_));refine GD ?_;exact Wx
            ·refine Ds (GP H 6 9 [32,3,3,6] [(124,[.ptr 2 1,Aq x68.SE,.iv x84]),(3,[.ptr 3 1,Aq x69.SE,.iv x84])] (Ds ?_));have ⟨x89,ex89,h⟩:=Bs h;refine BT H.1 H.2.1 H.2.2.1 H.2.2.2 32 SE.row ex89 rfl rfl trivial rfl rfl rfl rfl (GP H 2 6 [38,6] [(128,[.elt (SE.row x89) 1,Aj x89.NE])] (Ds ?_));have ⟨x90,ex90,h⟩:=Bs h;refine BT H.1 H.2.1 H.2.2.1 H.2.2.2 38 SE.row ex90 rfl rfl trivial rfl rfl rfl rfl (GP H 2 3 [41,3] [(134,[.elt (SE.row x90) 1,Aj x90.NE])] (Ds ?_));refine RB h k_narthexref01_Same.k fun x91 _ h=>?_;refine GP H 2 0 [44] [(137,[.bv (!x91),.bv (!x91)])] (Ds ?_);refine GD ?_;exact Wx
         ·exact Wx
      ·refine AD fun all H=>Ds (GP H 6 24 [6,24] [(58,[.ptr 2 0,.iv x68.LA,.ptr 3 0,.iv x69.LA,.bv (!decide (x68.LA=x69.LA)),.bv (!decide (x68.LA=x69.LA))])] (Ds ?_));refine BW 63 h rfl (fun _ h=>?_) fun _ h=>?_
       ·refine Ds (GP H 24 0 [30] [(64,ux 7 (.tt::.tt::ux 14 [.tt]))] (Ds ?_));refine GD ?_;exact Wx
       ·refine Ds (GP H 9 15 [15,15] [(64,[.ptr 2 1,Aq x68.SE,.iv (ln SE.row x68.SE),.ptr 3 1,Aq x69.SE,.iv (ln SE.row x69.SE),.bv (!decide ((ln SE.row x68.SE)=(ln SE.row x69.SE))),.bv (!decide ((ln SE.row x68.SE)=(ln SE.row x69.SE))),.bv (!decide ((ln SE.row x68.SE)=(ln SE.row x69.SE)))])] (Ds ?_));refine BW 72 h rfl (fun _ h=>?_) fun _ h=>?_
        ·refine Ds (GP H 15 0 [30] [(73,ux 14 [.tt])] (Ds ?_));refine GD ?_;exact Wx
        ·refine Ds (GP H 6 9 [18,3,3,6] [(73,[.ptr 0 0,C0 x28,.iv x64]),(3,[.ptr 1 0,Ep x1.NS,.iv x64])] (Ds ?_));have ⟨x70,ex70,h⟩:=Bs h;refine BT H.1 H.2.1 H.2.2.1 H.2.2.2 18 Place.row ex70 rfl rfl trivial rfl rfl rfl rfl (Gn H 2 6 ?_);have ⟨x71,ex71,h⟩:=Bs h;refine BT H.1 H.2.1 H.2.2.1 H.2.2.2 24 NO.row ex71 rfl rfl trivial rfl rfl rfl rfl (GN H 1 4 (Ds ?_));refine An (RB h ZG fun _ _ h=>?_);refine RB h k_narthexref01_Same.k fun _ _ h=>?_;refine Gn H 2 0 ?_;refine GD ?_;exact Wx
     ·refine AD fun all H=>Ds (GP H 5 11 [3,3,1,1,1,7] [(46,[.ptr 1 0,Ep x1.NS,.iv x64]),(3,[.ptr 0 0]),(1,[.iv x64])] (Ds ?_));have ⟨x66,ex66,h⟩:=Bs h;refine BT H.1 H.2.1 H.2.2.1 H.2.2.2 3 NO.row ex66 rfl rfl trivial rfl rfl rfl rfl (Gn H 2 8 ?_);refine Eo 7 12 13 rfl ?_ ?_ ?_
      ·refine RV ?_;have ⟨x67,ex67,h⟩:=Bs h;refine BT H.1 H.2.1 H.2.2.1 H.2.2.2 9 Place.row ex67 rfl rfl trivial rfl rfl rfl rfl (Gn H 1 5 ?_);refine Eo 11 12 13 rfl ?_ ?_ ?_
       ·refine RV ?_;refine Ao 12 13 rfl ?_ ?_
        ·refine RV ?_;refine R1 ?_;refine R1 ?_;refine R1 ?_;refine GD ?_;exact Wx
        ·refine RV ?_;refine R1 ?_;refine R1 ?_;refine R1 ?_;refine GD (Df 2 3 rfl rfl ?_);exact Wx
       ·refine RV ?_;refine Ao 11 13 rfl ?_ ?_
        ·refine RV ?_;refine R1 ?_;refine R1 ?_;refine R1 ?_;refine GD ?_;exact Wx
        ·refine RV ?_;refine Ao 11 14 rfl ?_ ?_
         ·refine RV ?_;refine R1 ?_;refine R1 ?_;refine GD ?_;exact Wx
         ·refine RV ?_;refine Gn H 1 1 ?_;refine R1 ?_;refine GD ?_;exact Wx
       ·refine RV ?_;refine Ao 11 12 rfl ?_ ?_
        ·refine RV ?_;refine R1 ?_;refine R1 ?_;refine R1 ?_;refine GD (Df 2 3 rfl rfl ?_);exact Wx
        ·refine RV ?_;refine Ao 11 14 rfl ?_ ?_
         ·refine RV ?_;refine R1 ?_;refine R1 ?_;refine GD (Df 2 3 rfl rfl ?_);exact Wx
         ·refine RV ?_;refine Gn H 1 1 ?_;refine R1 ?_;refine GD (Df 2 3 rfl rfl ?_);exact Wx
      ·refine RV ?_;refine Ao 7 13 rfl ?_ ?_
       ·refine RV ?_;have ⟨x67,ex67,h⟩:=Bs h;refine BT H.1 H.2.1 H.2.2.1 H.2.2.2 9 Place.row ex67 rfl rfl trivial rfl rfl rfl rfl (Gn H 1 4 ?_);refine Ao 11 13 rfl ?_ ?_
        ·refine RV ?_;refine R1 ?_;refine R1 ?_;refine R1 ?_;refine GD ?_;exact Wx
        ·refine RV ?_;refine Ao 11 14 rfl ?_ ?_
         ·exact Wx
         ·exact Wx
       ·refine RV ?_;refine Ao 7 14 rfl ?_ ?_
        ·refine RV ?_;have ⟨x67,ex67,h⟩:=Bs h;refine BT H.1 H.2.1 H.2.2.1 H.2.2.2 9 Place.row ex67 rfl rfl trivial rfl rfl rfl rfl (Gn H 1 3 ?_);refine Ao 11 14 rfl ?_ ?_
         ·exact Wx
         ·exact Wx
        ·refine RV ?_;refine Gn H 1 4 ?_;have ⟨x67,ex67,h⟩:=Bs h;refine BT H.1 H.2.1 H.2.2.1 H.2.2.2 9 Place.row ex67 rfl rfl trivial rfl rfl rfl rfl (Gn H 2 1 ?_);refine R1 ?_;refine GD ?_;exact Wx
      ·refine RV ?_;refine Ao 7 12 rfl ?_ ?_
       ·refine RV ?_;have ⟨x67,ex67,h⟩:=Bs h;refine BT H.1 H.2.1 H.2.2.1 H.2.2.2 9 Place.row ex67 rfl rfl trivial rfl rfl rfl rfl (Gn H 1 4 ?_);refine Ao 11 12 rfl ?_ ?_
        ·refine RV ?_;refine R1 ?_;refine R1 ?_;refine R1 ?_;refine GD (Df 2 3 rfl rfl ?_);exact Wx
        ·refine RV ?_;refine Ao 11 14 rfl ?_ ?_
         ·refine RV ?_;refine R1 ?_;refine R1 ?_;refine GD (Df 2 3 rfl rfl ?_);exact Wx
         ·refine RV ?_;refine Gn H 1 1 ?_;refine R1 ?_;refine GD (Df 2 3 rfl rfl ?_);exact Wx
       ·refine RV ?_;refine Ao 7 14 rfl ?_ ?_
        ·refine RV ?_;have ⟨x67,ex67,h⟩:=Bs h;refine BT H.1 H.2.1 H.2.2.1 H.2.2.2 9 Place.row ex67 rfl rfl trivial rfl rfl rfl rfl (Gn H 1 3 ?_);refine Ao 11 14 rfl ?_ ?_
         ·refine RV ?_;refine R1 ?_;refine R1 ?_;refine GD (Df 2 3 rfl rfl ?_);exact Wx
         ·refine RV ?_;refine Gn H 1 1 ?_;refine R1 ?_;refine GD (Df 2 3 rfl rfl ?_);exact Wx
        ·refine RV ?_;refine Gn H 1 4 ?_;have ⟨x67,ex67,h⟩:=Bs h;refine BT H.1 H.2.1 H.2.2.1 H.2.2.2 9 Place.row ex67 rfl rfl trivial rfl rfl rfl rfl (Gn H 2 1 ?_);refine R1 ?_;refine GD (Df 2 3 rfl rfl ?_);exact Wx
    ·exact Wx
   ·refine MC 37 h (fun h=>?_) fun h=>?_
    ·exact Wx
    ·exact Wx
 ·refine Vg 1 ?_;refine Mm h [1,3] (fun s=>([(6,.iv s.1)],[(0,0,C0 s.2)],[],[])) ?_;rintro n1 ⟨x13,x14⟩ y1 h hin1 hout1;rw [KG] at h;refine Vg 8 ?_;refine MI h (fun h=>?_) fun h=>?_
  ·refine Vg 4 ?_;refine Vl [1,3,2,1] (fun s=>([(7,.ptr 2 0),(8,.iv s.1)],[some ⟨30,[C0 x14]⟩,some ⟨38,HL.row x1⟩,some ⟨30,[C0 s.2]⟩],[])) (W3 x13 x14) y1 ?_ fun J2=>?_
   ·rintro ⟨x20,x21⟩ h;rw [W3] at h;refine Vg 6 ?_;refine MI h (fun h=>?_) fun h=>?_
    ·exact Wx
    ·exact Wx
   ·have ⟨x15,ex15,h⟩:=Bs h;have ⟨x16,ex16,h⟩:=Bs h;have ⟨x18,ex18,h⟩:=Bs h;have q0:=k_narthexlaw20_Own.k ex16;have q1:=k_model_Step.k ex18;refine AD fun all H=>Gs ?_;exact Wx
  ·exact Wx⟩
def G9 (x3:(List SX×List Int×List KE×List Int×List KE×List SE)):(Int×Int×Int×Int×List SE×Int×List SX×List Int×List KE×List EV)→Option (NO×List ML×List EV×Int)
| (x26,x27,x28,x29,x30,x31,x32,x33,x34,x35)=>
 (JM x26 x27 x28 x29 x30 x3.2.2.2.1 x31 x32 x33 x34 x3.2.2.2.2.1 x35).bind fun x36=>
 some ((NO.mk (DK.mk (DI.mk x36.1 x36.2.1 x36.2.2.2.2.2.2.2.1) x36.2.2.1 x36.2.2.2.2.2.2.2.2.1) (BK.mk x36.2.2.2.1 x36.2.2.2.2.1) x36.2.2.2.2.2.2.2.2.2.1 x36.2.2.2.2.2.1 x36.2.2.2.2.2.2.2.2.2.2.1),x36.2.2.2.2.2.2.2.2.2.2.2.1,x36.2.2.2.2.2.2.2.2.2.2.2.2,x36.2.2.2.2.2.2.1)
def KK (x1:NO) (x2:Do) (x3:(List SX×List Int×List KE×List Int×List KE×List SE)) (x5:Int) (x6:Int):Int→Option (NO×List ML×List EV×Int)
| x11=>
 (Ev (decide (x5<0)) 183 x1.DK.DI.ID x1.DK.DI.PH x1.DK.TH x1.BK.LA x11 x3.1 x3.2.1 x3.2.2.2.2.2 x3.2.2.1 x3.2.2.2.1 x3.2.2.2.2.1).bind fun x12=>
 (Ev (decide (x6<65535)) 186 x1.DK.DI.ID x1.DK.DI.PH x1.DK.TH x1.BK.LA x12.2 x3.1 x3.2.1 x3.2.2.2.2.2 x3.2.2.1 x3.2.2.2.1 x3.2.2.2.2.1).bind fun x13=>
 A0 x13.1 (
 (Sa (SX.mk x2.PE (wr (x6+1)) 1 true true false true false) x1.DK.DI.ID x1.DK.DI.PH x1.DK.TH x1.BK.LA x13.2 x3.1 x3.2.1 x3.2.2.2.2.2 x3.2.2.1 x3.2.2.2.1 x3.2.2.2.2.1).bind fun x14=>
 (G9 x3) (x1.DK.DI.ID,x1.DK.DI.PH,x1.DK.TH,x1.BK.LA,x3.2.2.2.2.2,x13.2,x14.1,x3.2.1,x14.2,([]:List EV))) (
 (G9 x3) (x1.DK.DI.ID,x1.DK.DI.PH,x1.DK.TH,x1.BK.LA,x3.2.2.2.2.2,x13.2,x3.1,x3.2.1,x3.2.2.1,([]:List EV)))
def Rp (x1:NO) (x2:Do) (x3:(List SX×List Int×List KE×List Int×List KE×List SE)):(Bool×Int)→Option (NO×List ML×List EV×Int)
| (x22,x23)=>
 A0 x22 (
 (L1 x2.PE x1.DK.DI.ID x1.DK.DI.PH x1.DK.TH x1.BK.LA x23 x3.1 x3.2.1 x3.2.2.2.2.2 x3.2.2.1 x3.2.2.2.1 x3.2.2.2.2.1).bind fun x24=>
 (G9 x3) (x24.1,x24.2.1,x24.2.2.1,x24.2.2.2.1,x24.2.2.2.2.1,x23,x24.2.2.2.2.2.2.1,x24.2.2.2.2.2.2.2,x3.2.2.1,x24.2.2.2.2.2.1)) (
 (G9 x3) (x1.DK.DI.ID,x1.DK.DI.PH,x1.DK.TH,x1.BK.LA,x3.2.2.2.2.2,x23,x3.1,x3.2.1,x3.2.2.1,([]:List EV)))
def KL (x1:NO) (x2:Do) (x3:(List SX×List Int×List KE×List Int×List KE×List SE)) (x5:Int):Int→Option (NO×List ML×List EV×Int)
| x17=>
 (Ev (decide (0≤x5)) 184 x1.DK.DI.ID x1.DK.DI.PH x1.DK.TH x1.BK.LA x17 x3.1 x3.2.1 x3.2.2.2.2.2 x3.2.2.1 x3.2.2.2.1 x3.2.2.2.2.1).bind fun x18=>
 A0 x18.1 (
 (Ac x3.1 x5).bind fun x19=>
 (Hx x19).bind fun x20=>
 (Ev x20 185 x1.DK.DI.ID x1.DK.DI.PH x1.DK.TH x1.BK.LA x18.2 x3.1 x3.2.1 x3.2.2.2.2.2 x3.2.2.1 x3.2.2.2.1 x3.2.2.2.2.1).bind fun x21=>
 (Rp x1 x2 x3) (x21.1,x21.2)) (
 (Rp x1 x2 x3) (false,x18.2))
def JA (x1:NO) (x2:Do) (x3:(List SX×List Int×List KE×List Int×List KE×List SE)) (x4:Int) (x5 x6:Int):Bool→Option (NO×List ML×List EV×Int)
| x7=>
 A0 x7 (
 A0 (decide (x4=0)) (
 (NI x2 x1.DK.DI.ID x1.DK.DI.PH x1.DK.TH x1.BK.LA x4 x3.1 x3.2.1 x3.2.2.2.2.2 x3.2.2.1 x3.2.2.2.1 x3.2.2.2.2.1).bind fun x8=>
 (G9 x3) (x8.1,x8.2.1,x8.2.2.1,x8.2.2.2.1,x8.2.2.2.2.1,x8.2.2.2.2.2.1,x8.2.2.2.2.2.2.2.1,x8.2.2.2.2.2.2.2.2,x3.2.2.1,x8.2.2.2.2.2.2.1)) (
 (G9 x3) (x1.DK.DI.ID,x1.DK.DI.PH,x1.DK.TH,x1.BK.LA,x3.2.2.2.2.2,x4,x3.1,x3.2.1,x3.2.2.1,([]:List EV)))) (
 A0 (decide (x2.KI=4)) (
 A0 (decide (x1.DK.DI.ID<x2.PE)) (
 (Ev (decide (x2.PE<64)) 182 x1.DK.DI.ID x1.DK.DI.PH x1.DK.TH x1.BK.LA x4 x3.1 x3.2.1 x3.2.2.2.2.2 x3.2.2.1 x3.2.2.2.1 x3.2.2.2.2.1).bind fun x9=>
 (KK x1 x2 x3 x5 x6) x9.2) (
 (Fg 182 x1.DK.DI.ID x1.DK.DI.PH x1.DK.TH x1.BK.LA x4 x3.1 x3.2.1 x3.2.2.2.2.2 x3.2.2.1 x3.2.2.2.1 x3.2.2.2.2.1).bind fun x10=>
 (KK x1 x2 x3 x5 x6) x10.2)) (
 A0 (decide (x2.KI=5)) (
 A0 (decide (x1.DK.DI.ID<x2.PE)) (
 (Ev (decide (x2.PE<64)) 182 x1.DK.DI.ID x1.DK.DI.PH x1.DK.TH x1.BK.LA x4 x3.1 x3.2.1 x3.2.2.2.2.2 x3.2.2.1 x3.2.2.2.1 x3.2.2.2.2.1).bind fun x15=>
 (KL x1 x2 x3 x5) x15.2) (
 (Fg 182 x1.DK.DI.ID x1.DK.DI.PH x1.DK.TH x1.BK.LA x4 x3.1 x3.2.1 x3.2.2.2.2.2 x3.2.2.1 x3.2.2.2.1 x3.2.2.2.2.1).bind fun x16=>
 (KL x1 x2 x3 x5) x16.2)) (
 (Fg 188 x1.DK.DI.ID x1.DK.DI.PH x1.DK.TH x1.BK.LA x4 x3.1 x3.2.1 x3.2.2.2.2.2 x3.2.2.1 x3.2.2.2.1 x3.2.2.2.2.1).bind fun x25=>
 (G9 x3) (x1.DK.DI.ID,x1.DK.DI.PH,x1.DK.TH,x1.BK.LA,x3.2.2.2.2.2,x25.2,x3.1,x3.2.1,x3.2.2.1,([]:List EV)))))
def KJ (x1:NO) (x2:Do):Option (NO×List ML×List EV×Int):=
 (NN x1).bind fun x3=>
 (Ip x1).bind fun x4=>
 (KZ (node_node.mk (NO.mk (DK.mk (DI.mk x1.DK.DI.ID x1.DK.DI.PH x3.1) x1.DK.TH x3.2.1) (BK.mk x1.BK.LA x3.2.2.2.2.2) x3.2.2.1 x3.2.2.2.1 x3.2.2.2.2.1) (([]:List ML)) (([]:List EV)) x4) x2.PE).bind fun x5=>
 (KS x1 x2.PE).bind fun x6=>
 A0 (decide (x2.KI=0)) (
 (JA x1 x2 x3 x4 x5 x6) (decide (x2.KI=0))) (
 A0 (decide (x2.KI=1)) (
 (JA x1 x2 x3 x4 x5 x6) (decide (x2.KI=1))) (
 A0 (decide (x2.KI=2)) (
 (JA x1 x2 x3 x4 x5 x6) (decide (x2.KI=2))) (
 (JA x1 x2 x3 x4 x5 x6) (decide (x2.KI=3)))))
instance k_node_Act {x1 x2}:KP (KJ x1 x2) 87 [.agg (NO.row x1),.agg (Do.row x2)] (fun r=>(.tup [.agg (NO.row r.1),CM r.2.1,ED r.2.2.1,.iv r.2.2.2])):=⟨fun{r} h=>by
 have ok:=oJ 87 Tryz.f87 [.c 4 (some 10),.t 5,.t 6,.t 7] 2 116;refine FP ok fun w0 H0=>?_;have A5:AJ [.r 7 6,.r 8 0,.r 9 1]:=trivial;have A4:AJ [.s 5,.o 3 11 47 5,.r 10 6,.r 7 0,.r 9 2]:=trivial;have A3:AJ [.s 5,.o 3 11 47 5]:=trivial;have A2:AJ [.r 8 0,.r 9 1]:=trivial;have A1:AJ [.s 7,.s 8,.s 9,.s 10,.s 11,.s 12]:=trivial;rw [KJ] at h;refine Vg 10 ?_;refine AD fun all H=>?_;refine Gn H 2 5 ?_;refine RR [] [] 3 0 h t_node_own_I2.k fun x3 _ h=>?_;refine RB h k_node_Check.k fun x4 _ h=>?_;refine GN H 1 2 (Ds ?_);refine An (R1 ?_);refine Gn H 1 0 ?_;refine GD (Vg 5 ?_);refine VN (((((((LR.slice 0 rfl).slice 1 rfl).slice 2 rfl).slice 3 rfl).slice 4 rfl).slice 5 rfl).block 3 rfl rfl) h k_node_node_place.k fun x5 _ h=>?_;refine Vg 7 ?_;refine VB h k_node_epoch.k fun x6 _ h=>?_;refine As 15 (Ds ?_);refine An (Vk [2,3,3,3,15,1] (fun x7=>[(29,.bv x7)]) (JA x1 x2 x3 x4 x5 x6) r ?_ fun J1=>?_)
 ·intro x7 h;rw [JA] at h;refine Vl [4,1,3,1] (fun s=>([],[none,none,some ⟨60,[.iv 0,.iv 0,.nl,.iv 0,.nl,.iv 0,.nl,.nl,.nl,.nl]⟩,some ⟨191,[.iv s.1,.iv s.2.1,.osl 0,.iv s.2.2.1,.osl 1,.iv s.2.2.2.1,Aq s.2.2.2.2.1,.osl 2,.osl 3,.osl 4,.nl,.osl 6,.iv s.2.2.2.2.2.1]⟩],[Al s.2.2.2.2.2.2.1,Ae s.2.2.2.2.2.2.2.1,Ai s.2.2.2.2.2.2.2.2.1,Ae x3.2.2.2.1,Ai x3.2.2.2.2.1,none,Bk s.2.2.2.2.2.2.2.2.2])) (G9 x3) r ?_ fun J2=>?_
  ·rintro ⟨x26,x27,x28,x29,x30,x31,x32,x33,x34,x35⟩ h;rw [G9] at h;refine Vg 4 ?_;(refine Wj [.s 3] ?_);exact Wx
  ·refine MI h (fun h=>?_) fun h=>?_
   ·exact Wx
   ·refine Vg 5 ?_;refine MI h (fun h=>?_) fun h=>?_
    ·refine Vg 11 ?_;refine Vm [3,2,3,3] (fun x11=>([],[(3,12,.iv x11)],[(0,none)],[])) (KK x1 x2 x3 x5 x6) r ?_ fun J3=>?_
     ·intro x11 h;rw [KK] at h;exact Wx
     ·exact Wx
    ·refine Vg 5 ?_;refine MI h (fun h=>?_) fun h=>?_
     ·refine Vg 11 ?_;refine Vm [3,2,3,2] (fun x17=>([],[(3,12,.iv x17)],[(0,none)],[])) (KL x1 x2 x3 x5) r ?_ fun J4=>?_
      ·intro x17 h;rw [KL] at h;refine Vg 5 ?_;refine VR [3] [0,1,5,2,3,4] 4 6 h t_node_node_need_I1.k fun _ _ h=>?_;refine Vg 1 ?_;refine Vm [3,2,3,1] (fun s=>([(107,.bv s.1)],[(3,12,.iv s.2)],[],[])) (Rp x1 x2 x3) r ?_ fun J5=>?_
       ·rintro ⟨x22,x23⟩ h;rw [Rp] at h;exact Wx
       ·exact Wx
      ·exact Wx
     ·exact Wx
 ·exact Wx⟩
end
end NX
end Go.Proofs.YtgnjledocpbchaaGreat
