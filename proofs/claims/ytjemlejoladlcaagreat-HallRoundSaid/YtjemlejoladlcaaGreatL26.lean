/-
  The function (*narthex/node.node).once, lent own memory. Written by a program of ours (lb.py). No statement of the seat is proved here.
-/
import Derived.Test.YtjemlejoladlcaaGreatL25
set_option maxRecDepth 100000
set_option maxHeartbeats 40000000
namespace Go.Proofs.YtjemlejoladlcaaGreat
namespace NX
open Go
noncomputable section
def NA (x7:Int) (x16:List KE) (x19:List KE) (x29:(Int×Int×Int×Int×List SX×List Int×List ML)) (x39:Int) (x40:List SE) (x41:List EV):(List Int×List ML)→Option (Int×Int×Int×Int×List SE×List Int×List KE×List EV×List KE×List Int×List ML×List SX)
| (x43,x44)=>
 (WR x29.1 x29.2.1 x29.2.2.1 x39 x40 x43 x7 x29.2.2.2.2.1 x29.2.2.2.2.2.1 x16 x19 x44 x41).bind fun x45=>
 some (x29.1,x29.2.1,x29.2.2.1,x39,x40,x43,x16,x41,x19,x29.2.2.2.2.2.1,x45.1,x45.2)
def L7 (x6:List Int) (x7:Int) (x16 x19:List KE) (x29:(Int×Int×Int×Int×List SX×List Int×List ML)) (x32:List ML):(Int×List SE×List EV)→Option (Int×Int×Int×Int×List SE×List Int×List KE×List EV×List KE×List Int×List ML×List SX)
| (x39,x40,x41)=>
 A0 (decide (x29.2.1=2)) (
 (Sp x29.1 x29.2.1 x29.2.2.1 x39 x40 x6 x7 x29.2.2.2.2.1 x29.2.2.2.2.2.1 x16 x19 x32 x41).bind fun x42=>
 (NA x7 x16 x19 x29 x39 x40 x41) (x42.1,x42.2)) (
 (NA x7 x16 x19 x29 x39 x40 x41) (x6,x32))
def WT (x6:List Int) (x7:Int) (x16:List KE) (x18:List EV) (x19:List KE) (x20:(SE×Bool)) (x29:(Int×Int×Int×Int×List SX×List Int×List ML)) (x32:List ML):(Int×List SE)→Option (Int×Int×Int×Int×List SE×List Int×List KE×List EV×List KE×List Int×List ML×List SX)
| (x36,x37)=>
 (Sk 1 x20.1.ID x29.1 x29.2.1 x29.2.2.1 x36 x37 x6 x7 x29.2.2.2.2.1 x29.2.2.2.2.2.1 x16 x19 x32 x18).bind fun x38=>
 (L7 x6 x7 x16 x19 x29 x32) (x36,x37,x38)
def ND (x4:Int) (x5:List SE) (x6:List Int) (x7:Int) (x16:List KE) (x18:List EV) (x19:List KE) (x20:(SE×Bool)) (x29:(Int×Int×Int×Int×List SX×List Int×List ML)) (x32:List ML):Bool→Option (Int×Int×Int×Int×List SE×List Int×List KE×List EV×List KE×List Int×List ML×List SX)
| x33=>
 A0 x33 (
 (SM (BK.mk x4 x5)).bind fun x34=>
 (WT x6 x7 x16 x18 x19 x20 x29 x32) (x34.1.LA,x34.1.SE)) (
 (L7 x6 x7 x16 x19 x29 x32) (x4,x5,x18))
def Si (x4:Int) (x5:List SE) (x6:List Int) (x7:Int) (x16:List KE) (x18:List EV) (x19:List KE) (x20:(SE×Bool)) (x29:(Int×Int×Int×Int×List SX×List Int×List ML)):List ML→Option (Int×Int×Int×Int×List SE×List Int×List KE×List EV×List KE×List Int×List ML×List SX)
| x32=>
 A0 x20.2 (
 A0 (decide (x20.1.SS=0)) (
 (ND x4 x5 x6 x7 x16 x18 x19 x20 x29 x32) (decide (x29.2.2.1=2))) (
 (ND x4 x5 x6 x7 x16 x18 x19 x20 x29 x32) false)) (
 (ND x4 x5 x6 x7 x16 x18 x19 x20 x29 x32) false)
def NC (x1 x4:Int) (x5:List SE) (x6:List Int) (x7:Int) (x15:List SX) (x16:List KE) (x17:List ML) (x18:List EV) (x19:List KE) (x20:(SE×Bool)) (x24:Int) (x25:List Int):Int→Option (Int×Int×Int×Int×List SE×List Int×List KE×List EV×List KE×List Int×List ML×List SX)
| x28=>
 (N5 x1 x28 x24 x15 x25).bind fun x29=>
 (AI 40 x17 x29.2.2.2.2.2.2).bind fun x30=>
 (Si x4 x5 x6 x7 x16 x18 x19 x20 x29) x30
def Sh (x1 x2 x4:Int) (x5:List SE) (x6:List Int) (x7:Int) (x15:List SX) (x16:List KE) (x17:List ML) (x18:List EV) (x19:List KE) (x20:(SE×Bool)) (x24:Int) (x25:List Int):Bool→Option (Int×Int×Int×Int×List SE×List Int×List KE×List EV×List KE×List Int×List ML×List SX)
| x27=>
 A0 x27 (
 (NC x1 x4 x5 x6 x7 x15 x16 x17 x18 x19 x20 x24 x25) 1) (
 (NC x1 x4 x5 x6 x7 x15 x16 x17 x18 x19 x20 x24 x25) x2)
def L6 (x1 x2 x4:Int) (x5:List SE) (x6:List Int) (x7:Int) (x15:List SX) (x16:List KE) (x17:List ML) (x18:List EV) (x19:List KE) (x20:(SE×Bool)):(Int×List Int)→Option (Int×Int×Int×Int×List SE×List Int×List KE×List EV×List KE×List Int×List ML×List SX)
| (x24,x25)=>
 A0 (decide (x2=0)) (
 (IC x15 ((fun z=>Sf z (node_node.mk (NO.mk (DK.mk (DI.mk x1 x2 x15) x24 x25) (BK.mk x4 x5) x16 x6 x19) x17 x18 x7)))).bind fun x26=>
 (Sh x1 x2 x4 x5 x6 x7 x15 x16 x17 x18 x19 x20 x24 x25) x26) (
 (Sh x1 x2 x4 x5 x6 x7 x15 x16 x17 x18 x19 x20 x24 x25) false)
def NB (x1 x2:Int) (x3 x4:Int) (x5:List SE) (x6:List Int) (x7:Int) (x9:List Int) (x15:List SX) (x16:List KE) (x17:List ML) (x18:List EV) (x19:List KE) (x20:(SE×Bool)):Bool→Option (Int×Int×Int×Int×List SE×List Int×List KE×List EV×List KE×List Int×List ML×List SX)
| x21=>
 A0 x21 (
 (CF x20.1.NE).bind fun x22=>
 (L6 x1 x2 x4 x5 x6 x7 x15 x16 x17 x18 x19 x20) (1,x22)) (
 (L6 x1 x2 x4 x5 x6 x7 x15 x16 x17 x18 x19 x20) (x3,x9))
def Nz (x1 x2:Int) (x3 x4:Int) (x5:List SE) (x6:List Int) (x7:Int) (x9:List Int):(List SX×List KE×List ML×List EV×List KE)→Option (Int×Int×Int×Int×List SE×List Int×List KE×List EV×List KE×List Int×List ML×List SX)
| (x15,x16,x17,x18,x19)=>
 (RX x1 x2 x3 x4 x5 x6 x15 x9 x16 x19).bind fun x20=>
 A0 x20.2 (
 A0 (decide (x20.1.SS=0)) (
 (NB x1 x2 x3 x4 x5 x6 x7 x9 x15 x16 x17 x18 x19 x20) (decide (x3=0))) (
 (NB x1 x2 x3 x4 x5 x6 x7 x9 x15 x16 x17 x18 x19 x20) false)) (
 (NB x1 x2 x3 x4 x5 x6 x7 x9 x15 x16 x17 x18 x19 x20) false)
def Ny (x1 x2:Int) (x3 x4:Int) (x5:List SE) (x6:List Int) (x7:Int) (x8:List SX) (x9:List Int) (x10 x11:List KE) (x12:List ML) (x13:List EV):Option (Int×Int×Int×Int×List SE×List Int×List KE×List EV×List KE×List Int×List ML×List SX):=
 A0 (!decide (x2=2)) (
 (RZ x1 x2 x3 x4 x5 x6 x7 x8 x9 x10 x11 x12 x13).bind fun x14=>
 (Nz x1 x2 x3 x4 x5 x6 x7 x9) (x14.1,x14.2.1,x14.2.2.1,x14.2.2.2,([]:List KE))) (
 (Nz x1 x2 x3 x4 x5 x6 x7 x9) (x8,x10,x12,x13,x11))
theorem Z1y {x1 x2 x3 x4 x5 x6 x7 x8 x9 x10 x11 x12 x13 r} (h:Ny x1 x2 x3 x4 x5 x6 x7 x8 x9 x10 x11 x12 x13=some r):FTx 157 [.ptr 0 0] [some ⟨173,[.iv x1,.iv x2,.osl 0,.iv x3,.osl 1,.iv x4,Av x5,.osl 2,Ab x6,.osl 3,.osl 4,.osl 5,.iv x7]⟩] [Ac x8,A5 x9,A9 x10,A9 x11,Az x12,Be x13] (.tup []) [some ⟨173,[.iv r.1,.iv r.2.1,.osl 22,.iv r.2.2.1,.osl 17,.iv r.2.2.2.1,Av r.2.2.2.2.1,.osl 9,Ab r.2.2.2.2.2.1,.osl 14,.osl 21,.osl 13,.iv x7]⟩] [none,none,none,none,none,none,none,none,none,A9 r.2.2.2.2.2.2.1,none,none,none,Be r.2.2.2.2.2.2.2.1,A9 r.2.2.2.2.2.2.2.2.1,none,none,A5 r.2.2.2.2.2.2.2.2.2.1,none,none,none,Az r.2.2.2.2.2.2.2.2.2.2.1,Ac r.2.2.2.2.2.2.2.2.2.2.2]:=by
 refine Ft kf fun w0 M0=>?_;have ok:=kf;rw [Ny] at h;refine Vg 16 ?_;refine Vl [1,1] (fun s=>([],[some ⟨173,[.iv x1,.iv x2,.osl 7,.iv x3,.osl 1,.iv x4,Av x5,.osl 9,Ab x6,.osl 14,.osl 11,.osl 13,.iv x7]⟩,some ⟨171,[.ptr 0 0]⟩],[none,A5 x9,none,none,none,none,none,Ac s.1,none,A9 s.2.1,none,Az s.2.2.1,none,Be s.2.2.2.1,A9 s.2.2.2.2])) (Nz x1 x2 x3 x4 x5 x6 x7 x9) r ?_ fun J1=>?_
 ·rintro ⟨x15,x16,x17,x18,x19⟩ h;rw [Nz] at h;refine Vg 6 ?_;refine VR [] [7,1,9,14] 2 15 h Z1s fun x20 _ h=>?_;refine Vg 12 ?_;refine Vk [1,3] (fun x21=>[(40,.bv x21)]) (NB x1 x2 x3 x4 x5 x6 x7 x9 x15 x16 x17 x18 x19 x20) r ?_ fun J2=>?_
  ·intro x21 h;rw [NB] at h;refine Vl [1,3] (fun s=>([],[some ⟨173,[.iv x1,.iv x2,.osl 7,.iv s.1,.osl 15,.iv x4,Av x5,.osl 9,Ab x6,.osl 14,.osl 11,.osl 13,.iv x7]⟩,some ⟨171,[.ptr 0 0]⟩,some ⟨53,SE.row x20.1⟩],[none,none,none,none,none,none,none,Ac x15,none,A9 x16,none,Az x17,none,Be x18,A9 x19,A5 s.2])) (L6 x1 x2 x4 x5 x6 x7 x15 x16 x17 x18 x19 x20) r ?_ fun J3=>?_
   ·rintro ⟨x24,x25⟩ h;rw [L6] at h;refine Vg 17 ?_;refine Vk [1,3] (fun x27=>[(73,.bv x27)]) (Sh x1 x2 x4 x5 x6 x7 x15 x16 x17 x18 x19 x20 x24 x25) r ?_ fun J4=>?_
    ·intro x27 h;rw [Sh] at h;refine Vm [1,3] (fun x28=>([],[(0,1,.iv x28)],[],[])) (NC x1 x4 x5 x6 x7 x15 x16 x17 x18 x19 x20 x24 x25) r ?_ fun J5=>?_
     ·intro x28 h;rw [NC] at h;refine Vg 7 ?_;refine VR [] [7,15] 3 16 h Z1k fun x29 _ h=>?_;refine Vg 19 ?_;refine Vl [1,3] (fun x32=>([],[some ⟨173,[.iv x29.1,.iv x29.2.1,.osl 16,.iv x29.2.2.1,.osl 17,.iv x4,Av x5,.osl 9,Ab x6,.osl 14,.osl 19,.osl 13,.iv x7]⟩,some ⟨171,[.ptr 0 0]⟩,some ⟨53,SE.row x20.1⟩],[none,none,none,none,none,none,none,none,none,A9 x16,none,none,none,Be x18,A9 x19,none,Ac x29.2.2.2.2.1,A5 x29.2.2.2.2.2.1,none,Az x32])) (Si x4 x5 x6 x7 x16 x18 x19 x20 x29) r ?_ fun J6=>?_
      ·intro x32 h;rw [Si] at h;refine Vg 5 ?_;refine Vk [1,2] (fun x33=>[(118,.bv x33)]) (ND x4 x5 x6 x7 x16 x18 x19 x20 x29 x32) r ?_ fun J7=>?_
       ·intro x33 h;rw [ND] at h;refine Vl [1,1] (fun s=>([],[some ⟨173,[.iv x29.1,.iv x29.2.1,.osl 16,.iv x29.2.2.1,.osl 17,.iv s.1,Av s.2.1,.osl 9,Ab x6,.osl 14,.osl 19,.osl 13,.iv x7]⟩,some ⟨171,[.ptr 0 0]⟩],[none,none,none,none,none,none,none,none,none,A9 x16,none,none,none,Be s.2.2,A9 x19,none,Ac x29.2.2.2.2.1,A5 x29.2.2.2.2.2.1,none,Az x32])) (L7 x6 x7 x16 x19 x29 x32) r ?_ fun J8=>?_
        ·rintro ⟨x39,x40,x41⟩ h;rw [L7] at h;refine Vg 12 ?_;refine Vm [1,1] (fun s=>([],[(0,8,Ab s.1)],[],[(19,Az s.2)])) (NA x7 x16 x19 x29 x39 x40 x41) r ?_ fun J10=>?_
         ·rintro ⟨x43,x44⟩ h;rw [NA] at h;refine Vg 2 ?_;refine VR [0] [16,17,9,14,19,13] 2 20 h Z1x fun _ _ h=>?_;exact W
         ·refine MI h (fun h=>?_) fun h=>?_
          ·refine Vg 2 ?_;refine VR [0] [16,17,9,14,19,13] 2 20 h Z1E fun _ _ h=>?_;refine Vg 1 ?_;refine A7 21 19 (Ds ?_);exact AQ J10 h
          ·refine Vg 1 ?_;exact AQ J10 h
        ·refine MI h (fun h=>?_) fun h=>W;refine Vg 1 ?_;refine Vm [1,2] (fun s=>([],[(0,5,.iv s.1),(0,6,Av s.2)],[],[])) (WT x6 x7 x16 x18 x19 x20 x29 x32) r ?_ fun J9=>?_
         ·rintro ⟨x36,x37⟩ h;rw [WT] at h;refine Vg 4 ?_;refine VR [0] [16,17,9,14,19,13] 3 20 h Z1C fun _ _ h=>?_;refine Ds ?_;refine Ah 1 (Ds ?_);refine An (A7 21 13 ?_);exact W
         ·refine Ai fun all H=>Ds ?_;refine Ag 0 1 rfl ?_ ?_
          ·refine RV ?_;refine R1 ?_;refine Gn H 4 9 ?_;refine RB h bd fun x34 ex34 h=>?_;refine GP H 7 1 [14,1] [(119,[.tup [.agg (BK.row x34.1),.iv x34.2.1,.iv x34.2.2]]),(7,[.agg (BK.row x34.1),.iv x34.2.1,.iv x34.2.2,.ptr 0 0,.ptr 0 0,.ptr 0 5])] (Ds ?_);refine R1 ?_;refine GD ?_;exact W
          ·refine RV ?_;refine Gn H 4 10 ?_;have ⟨x34,ex34,h⟩:=Bs h;refine Ag 0 6 rfl ?_ ?_
           ·refine RV ?_;refine A6 6 rfl (GC H.1 (bd ex34) (Ds ?_));refine GP H 7 1 [14,1] [(119,[.tup [.agg (BK.row x34.1),.iv x34.2.1,.iv x34.2.2]]),(7,[.agg (BK.row x34.1),.iv x34.2.1,.iv x34.2.2,.ptr 0 0,.ptr 0 0,.ptr 0 5])] (Ds ?_);refine R1 ?_;refine GD ?_;exact W
           ·refine GC H.1 (bd ex34) ?_;refine Gn H 4 5 ?_;refine R1 ?_;refine Gn H 3 1 ?_;refine R1 ?_;refine GD ?_;exact W
       ·exact W
      ·refine Ai fun all H=>?_;refine Gn H 1 9 ?_;refine Ag 0 1 rfl ?_ ?_
       ·refine RV ?_;refine R1 ?_;refine Gn H 2 5 ?_;refine R1 ?_;refine A6 6 rfl ?_;have ⟨x30,ex30,h⟩:=Bs h;refine GA ML.row ex30 H.1 ?_;refine Gn H 2 1 ?_;refine R1 ?_;refine GD ?_;exact W
       ·refine RV ?_;refine Gn H 2 6 ?_;refine Ag 0 4 rfl ?_ ?_
        ·refine RV ?_;refine R1 ?_;refine A6 6 rfl ?_;have ⟨x30,ex30,h⟩:=Bs h;refine GA ML.row ex30 H.1 ?_;refine Gn H 2 1 ?_;refine R1 ?_;refine GD ?_;exact W
        ·refine RV ?_;have ⟨x30,ex30,h⟩:=Bs h;refine Ag 0 6 rfl ?_ ?_
         ·refine RV ?_;refine A6 6 rfl (GA ML.row ex30 H.1 ?_);refine Gn H 2 1 ?_;refine R1 ?_;refine GD ?_;exact W
         ·refine GA ML.row ex30 H.1 (Ds ?_);refine R1 ?_;refine Gn H 2 1 ?_;refine R1 ?_;refine GD ?_;exact W
     ·exact W
    ·refine MC 63 h (fun h=>?_) fun h=>W;refine Vg 8 ?_;refine VN ((((((((LR.slice 7 rfl).slice 9 rfl).slice 11 rfl).slice 13 rfl).slice 14 rfl).slice 15 rfl).block 0 rfl rfl).block 1 rfl rfl) h (fun e=>PZ e ⟨by kernel_rfl,rfl,fun z r hz=>vw hz⟩) fun _ _ h=>?_;refine Ah 2 (Ds ?_);refine An ?_;exact W
   ·refine MI h (fun h=>?_) fun h=>?_
    ·refine Ai fun all H=>?_;refine Gn H 2 13 ?_;have ⟨x22,ex22,h⟩:=Bs h;refine Fj 0 1 4 rfl ?_ ?_ ?_
     ·refine RV ?_;refine Ag 1 4 rfl ?_ ?_
      ·refine RV ?_;refine A6 4 rfl (AT H.1 rfl trivial (Eg ex22) (h:=?_));refine Gn H 4 6 ?_;refine R1 ?_;refine Gn H 4 1 ?_;refine R1 ?_;refine GD ?_;exact W
      ·refine AT H.1 rfl trivial (Eg ex22) (h:=?_);refine Gn H 4 7 ?_;refine Ag 1 9 rfl ?_ ?_
       ·refine RV ?_;refine R1 ?_;refine Gn H 4 1 ?_;refine R1 ?_;refine GD ?_;exact W
       ·refine RV ?_;refine R1 ?_;refine Gn H 4 1 ?_;refine R1 ?_;refine GD ?_;exact W
     ·refine RV ?_;refine Ag 0 4 rfl ?_ ?_
      ·refine RV ?_;refine A6 4 rfl (AT H.1 rfl trivial (Eg ex22) (h:=?_));refine Gn H 4 6 ?_;refine R1 ?_;refine Gn H 4 1 ?_;refine R1 ?_;refine GD ?_;exact W
      ·refine AT H.1 rfl trivial (Eg ex22) (h:=Ds ?_);refine R1 ?_;refine Gn H 4 6 ?_;refine R1 ?_;refine Gn H 4 1 ?_;refine R1 ?_;refine GD ?_;exact W
     ·refine AT H.1 rfl trivial (Eg ex22) (h:=Ds ?_);refine Ag 0 1 rfl ?_ ?_
      ·refine RV ?_;refine Gn H 4 7 ?_;refine Ag 1 9 rfl ?_ ?_
       ·refine RV ?_;refine R1 ?_;refine Gn H 4 1 ?_;refine R1 ?_;refine GD ?_;exact W
       ·refine RV ?_;refine R1 ?_;refine Gn H 4 1 ?_;refine R1 ?_;refine GD ?_;exact W
      ·refine RV ?_;refine R1 ?_;refine Gn H 4 6 ?_;refine R1 ?_;refine Gn H 4 1 ?_;refine R1 ?_;refine GD ?_;exact W
    ·refine Vg 1 ?_;refine As 3 1 (Ds ?_);refine A7 1 15 ?_;exact W
  ·exact W
 ·refine MI h (fun h=>?_) fun h=>?_
  ·refine Vg 2 ?_;refine VR [0] [0,1,2,3,4,5] 2 6 h Z1u fun _ _ h=>?_;refine Vg 1 ?_;refine AE 0 9 169 2 ?_;exact W
  ·refine Vg 1 ?_;refine As 113 5 (Ds ?_);refine As 113 5 (Ds ?_);refine As 113 5 (Ds ?_);refine As 113 5 (Ds ?_);refine As 113 5 (Ds ?_);refine As 113 5 (Ds ?_);refine A7 4 11 (Ds ?_);refine As 97 5 (Ds ?_);refine As 97 5 (Ds ?_);refine A7 5 13 (A7 0 7 (Ds ?_));refine A7 2 9 (Ds ?_);refine As 169 2 (Ds ?_);refine A7 3 14 ?_;exact W
def WJ (x1:DK):List KE→Option (NO×Int)
| x21=>
 (Il (NO.mk x1 (BK.mk 0 (([]:List SE))) x21 (([]:List Int)) (([]:List KE)))).bind fun x22=>
 A0 (!decide (x22=0)) (
 some ((NO.mk (DK.mk (DI.mk 0 0 (([]:List SX))) 0 (([]:List Int))) (BK.mk 0 (([]:List SE))) (([]:List KE)) (([]:List Int)) (([]:List KE))),180)) (
 (NK x1.DI.ID x1.DI.PH x1.DI.SD x1.TH x1.NE 0 x21).bind fun x23=>
 some ((NO.mk (DK.mk (DI.mk x1.DI.ID x1.DI.PH x23.1) x1.TH x23.2.1) (BK.mk 0 x23.2.2.2.2.2) x23.2.2.1 x23.2.2.2.1 x23.2.2.2.2.1),0))
def WK (x1:DK):(Int×List KE)→Option ((Int×List KE) ⊕ (NO×Int))
| (x6,x7)=>
 A0 (decide (x6<(ln SX.row x1.DI.SD))) (
 (A4 x1.DI.SD x6).bind fun x8=>
 (AI 16 x7 ([KE.mk x8.PE x8.EP])).bind fun x9=>
 some (.inl (wr (x6+1),x9))) (
 Option.map Sum.inr ((WJ x1) x7))
def RE (x1:DK):Option (NO×Int):=loop (WK x1) (0,([]:List KE))
theorem vo {x1 r} (h:RE x1=some r):FPx 74 [.agg (DK.row x1)] (.tup [.agg (NO.row r.1),.iv r.2]):=by
 have ok:=oJ 74 Tryz.f74 [.c 2 (some 10),.t 3] 1 33;refine FP ok fun w0 H0=>?_;rw [RE] at h;refine Vg 22 ?_;refine Vl [2,1,1,1] (fun x21=>([],[none,some ⟨48,[.iv 0,.iv 0,.nl,.iv 0,.nl,.iv 0,.nl,.nl,.nl,.nl]⟩,some ⟨48,[.iv x1.DI.ID,.iv x1.DI.PH,CU x1.DI.SD,.iv x1.TH,Ab x1.NE,.iv 0,.nl,.osl 0,.nl,.nl]⟩],[A9 x21])) (WJ x1) r ?_ fun J1=>?_
 ·intro x21 h;rw [WJ] at h;refine Vg 4 ?_;refine VN (LR.slice 0 rfl) h Mo fun _ _ h=>?_;refine Vg 2 ?_;refine MI h (fun h=>W) fun h=>?_;refine Vg 4 ?_;refine VR [] [0] 3 1 h Z1G fun _ _ h=>?_;refine Vg 3 ?_;refine Ae 1 (Ds ?_);refine Ae 2 (Ds ?_);refine Ae 6 (Ds ?_);refine Ae 3 (Ds ?_);refine Ae 4 (Ds ?_);refine Ae 5 ?_;exact W
 ·refine Vg 1 ?_;refine AE 2 7 169 2 (Ds ?_);refine Mm h [2,1,1,1,6,2] (fun s=>([(13,.iv s.1)],[],[(0,none)],[(0,A9 s.2)])) ?_;rintro n1 ⟨x6,x7⟩ y1 h hin1 hout1;rw [WK] at h;refine Vg 5 ?_;refine MI h (fun h=>?_) fun h=>W;refine Vg 5 ?_;have ⟨x8,ex8,h⟩:=Bs h;refine AZ SX.row ex8 trivial rfl rfl rfl (Vg 13 ?_);have ⟨x9,ex9,h⟩:=Bs h;refine BP KE.row ex9 trivial rfl rfl rfl (Vg 8 ?_);refine A7 2 0 ?_;exact W
def W3:Bool→Option Int
| x16=>
 A0 x16 (
 some 190) (
 some 0)
def W2 (x1:HL):Unit→Option Int
| ()=>
 A0 (decide (64<(ln NO.row x1.NS))) (
 W3 true) (
 (Tg x1.ML ((fun z=>W1 z x1))).bind fun x15=>
 W3 x15)
def QZ (x6:Int):Bool→Option (Int ⊕ Int)
| x9=>
 A0 x9 (
 Option.map Sum.inr (some 190)) (
 some (.inl (wr (x6+1))))
def W4 (x1:HL):Int→Option (Int ⊕ Int)
| x6=>
 A0 (decide (x6<(ln NO.row x1.NS))) (
 (A4 x1.NS x6).bind fun x7=>
 A0 (!decide (x7.DK.DI.ID=x6)) (
 (QZ x6) true) (
 (Il x7).bind fun x8=>
 (QZ x6) (!decide (x8=0)))) (
 Option.map Sum.inr ((W2 x1) ()))
def Ii (x1:HL):Option Int:=loop (W4 x1) 0
theorem Va {x1 r} (h:Ii x1=some r):FPx 23 [.agg (HL.row x1)] (.iv r):=by
 have ok:=oJ 23 Tryz.f23 [.t 2] 1 36;refine FP ok fun w0 H0=>?_;rw [Ii] at h;refine Vg 18 ?_;refine Vk [1,1,1,1] (fun _=>[]) (W2 x1) r ?_ fun J1=>?_
 ·rintro ⟨⟩ h;rw [W2] at h;refine Vg 8 ?_;refine Vl [] (fun x16=>([(36,.bv x16)],[],[])) W3 r ?_ fun J3=>?_
  ·intro x16 h;rw [W3] at h;exact W
  ·refine MC 31 h (fun h=>W) fun h=>?_;refine Vg 3 ?_;refine VN (LR.block 0 rfl rfl) h (fun e=>vW e ⟨by kernel_rfl,rfl,fun z r hz=>uY hz⟩) fun _ _ h=>?_;exact W
 ·refine Vg 1 ?_;refine Mk h [1,1,1,1,4,2] (fun x6=>[(10,.iv x6)]) ?_;rintro n1 x6 y1 h hin1 hout1;rw [W4] at h;refine Vg 5 ?_;refine MI h (fun h=>?_) fun h=>W;refine Vg 6 ?_;have ⟨x7,ex7,h⟩:=Bs h;refine AZ NO.row ex7 trivial rfl rfl rfl (Vg 14 ?_);refine Vl [1,1,1,1,4,3] (fun x9=>([(25,.bv x9)],[some ⟨31,HL.row x1⟩],[])) (QZ x6) y1 ?_ fun J2=>?_
  ·intro x9 h;rw [QZ] at h;exact W
  ·refine MC 21 h (fun h=>W) fun h=>?_;refine Vg 1 ?_;refine VB h Mo fun _ _ h=>?_;exact W
def bX (x7:Int):(Int×Int×Int×Int×List SE×List Int×List ML×List KE×List EV×List KE×List Int×List SX)→Option ((Int×Int×Int×Int×List SE×List Int×List ML×List KE×List EV×List KE×List Int×List SX) ⊕ (Int×Int×Int×Int×List SE×List Int×Int×List SX×List Int×List KE×List KE×List ML×List EV))
| (x28,x29,x30,x31,x32,x33,x34,x35,x36,x37,x38,x39)=>
 (NM x28 x29 x30 x31 x32 x33 x39 x38 x35 x37).bind fun x40=>
 (Ny x28 x29 x30 x31 x32 x33 x7 x39 x38 x35 x37 x34 x36).bind fun x41=>
 (Ip (NO.mk (DK.mk (DI.mk x28 x29 x40.1) x30 x40.2.1) (BK.mk x31 x40.2.2.2.2.2) x40.2.2.1 x40.2.2.2.1 x40.2.2.2.2.1) (NO.mk (DK.mk (DI.mk x41.1 x41.2.1 x41.2.2.2.2.2.2.2.2.2.2.2) x41.2.2.1 x41.2.2.2.2.2.2.2.2.2.1) (BK.mk x41.2.2.2.1 x41.2.2.2.2.1) x41.2.2.2.2.2.2.1 x41.2.2.2.2.2.1 x41.2.2.2.2.2.2.2.2.1)).bind fun x42=>
 A0 x42 (
 Option.map Sum.inr (some (x41.1,x41.2.1,x41.2.2.1,x41.2.2.2.1,x41.2.2.2.2.1,x41.2.2.2.2.2.1,0,x41.2.2.2.2.2.2.2.2.2.2.2,x41.2.2.2.2.2.2.2.2.2.1,x41.2.2.2.2.2.2.1,x41.2.2.2.2.2.2.2.2.1,x41.2.2.2.2.2.2.2.2.2.2.1,x41.2.2.2.2.2.2.2.1))) (
 some (.inl (x41.1,x41.2.1,x41.2.2.1,x41.2.2.2.1,x41.2.2.2.2.1,x41.2.2.2.2.2.1,x41.2.2.2.2.2.2.2.2.2.2.1,x41.2.2.2.2.2.2.1,x41.2.2.2.2.2.2.2.1,x41.2.2.2.2.2.2.2.2.1,x41.2.2.2.2.2.2.2.2.2.1,x41.2.2.2.2.2.2.2.2.2.2.2)))
def JR (x1 x2:Int) (x3 x4:Int) (x5:List SE) (x6:List Int) (x7:Int) (x8:List SX) (x9:List Int) (x10 x11:List KE) (x12:List EV):Option (Int×Int×Int×Int×List SE×List Int×Int×List SX×List Int×List KE×List KE×List ML×List EV):=
 A0 (!decide (x7=0)) (
 some (0,0,0,0,([]:List SE),([]:List Int),x7,([]:List SX),([]:List Int),([]:List KE),([]:List KE),([]:List ML),([]:List EV))) (
 loop (bX x7) (x1,x2,x3,x4,x5,x6,([]:List ML),x10,x12,x11,x9,x8))
theorem nV {x1 x2 x3 x4 x5 x6 x7 x8 x9 x10 x11 x12 r} (h:JR x1 x2 x3 x4 x5 x6 x7 x8 x9 x10 x11 x12=some r):FTx 95 [.ptr 0 0] [some ⟨173,[.iv x1,.iv x2,.osl 0,.iv x3,.osl 1,.iv x4,Av x5,.osl 2,Ab x6,.osl 3,.nl,.osl 4,.iv x7]⟩] [Ac x8,A5 x9,A9 x10,A9 x11,Be x12] (.tup [.agg [.iv r.1,.iv r.2.1,.osl 5,.iv r.2.2.1,.osl 6,.iv r.2.2.2.1,Av r.2.2.2.2.1,.osl 7,Ab r.2.2.2.2.2.1,.osl 8],.osl 9,.osl 10,.iv r.2.2.2.2.2.2.1]) [none] [none,none,none,none,none,Ac r.2.2.2.2.2.2.2.1,A5 r.2.2.2.2.2.2.2.2.1,A9 r.2.2.2.2.2.2.2.2.2.1,A9 r.2.2.2.2.2.2.2.2.2.2.1,Az r.2.2.2.2.2.2.2.2.2.2.2.1,Be r.2.2.2.2.2.2.2.2.2.2.2.2]:=by
 refine Ft kN fun w0 M0=>?_;have ok:=kN;rw [JR] at h;refine Vg 16 ?_;refine MI h (fun h=>?_) fun h=>?_
 ·refine Vg 1 ?_;refine Ai fun all H=>Gs ?_;refine AE 1 2 66 8 (Ds ?_);refine AE 1 4 3 1 (Ds ?_);refine AE 1 7 169 2 (Ds ?_);refine AE 1 9 169 2 (Ds ?_);refine CV 3 113 5 rfl rfl (Ds ?_);refine CV 4 97 5 rfl rfl ?_;exact W
 ·refine Vg 2 ?_;refine AE 0 10 113 5 (Ds ?_);refine As 97 5 (Ds ?_);refine As 97 5 (Ds ?_);refine As 97 5 (Ds ?_);refine As 97 5 (Ds ?_);refine As 97 5 (Ds ?_);refine As 97 5 (Ds ?_);refine As 97 5 (Ds ?_);refine As 97 5 (Ds ?_);refine As 97 5 (Ds ?_);refine As 97 5 (Ds ?_);refine As 97 5 (Ds ?_);refine As 97 5 (Ds ?_);refine As 97 5 (Ds ?_);refine A7 4 18 (Ds ?_);refine As 66 8 (Ds ?_);refine As 66 8 (Ds ?_);refine As 66 8 (Ds ?_);refine As 66 8 (Ds ?_);refine As 66 8 (Ds ?_);refine As 66 8 (Ds ?_);refine As 66 8 (Ds ?_);refine As 66 8 (Ds ?_);refine As 66 8 (Ds ?_);refine A7 0 27 (A7 1 22 (Ds ?_));refine A7 2 14 (A7 3 19 (Ds ?_));refine Ml h [0,1,1,1] (fun s=>([],[some ⟨173,[.iv s.1,.iv s.2.1,.osl 27,.iv s.2.2.1,.osl 22,.iv s.2.2.2.1,Av s.2.2.2.2.1,.osl 14,Ab s.2.2.2.2.2.1,.osl 19,.osl 5,.osl 18,.iv x7]⟩,some ⟨48,[.iv 0,.iv 0,.nl,.iv 0,.nl,.iv 0,.nl,.nl,.nl,.nl]⟩],[none,none,none,none,none,Az s.2.2.2.2.2.2.1,none,none,none,none,none,none,none,none,A9 s.2.2.2.2.2.2.2.1,none,none,none,Be s.2.2.2.2.2.2.2.2.1,A9 s.2.2.2.2.2.2.2.2.2.1,none,none,A5 s.2.2.2.2.2.2.2.2.2.2.1,none,none,none,none,Ac s.2.2.2.2.2.2.2.2.2.2.2])) ?_;rintro n1 ⟨x28,x29,x30,x31,x32,x33,x34,x35,x36,x37,x38,x39⟩ y1 h hin1 hout1;rw [bX] at h;refine Vg 7 ?_;refine VR [] [27,22,14,19] 2 28 h Z1H fun _ _ h=>?_;refine Ds ?_;refine Vg 6 ?_;refine VR [0] [27,22,14,19,5,18] 3 34 h Z1y fun _ _ h=>?_;refine Vg 2 ?_;refine Ai fun all H=>?_;refine Gn H 3 3 ?_;refine Ag 0 4 rfl ?_ ?_
  ·refine RV ?_;refine R1 ?_;refine RQ ((((((((((LR.slice 28 rfl).slice 29 rfl).slice 30 rfl).slice 31 rfl).slice 32 rfl).slice 33 rfl).slice 37 rfl).slice 42 rfl).slice 45 rfl).slice 50 rfl) h b6 fun x42 ex42 h=>?_;refine GD (MI h (fun h=>?_) fun h=>?_)
   ·refine Vg 1 ?_;refine Ai fun all H=>Gs ?_;refine A7 50 5 (A7 45 6 (Ds ?_));refine A7 37 7 (A7 42 8 (Ds ?_));refine A7 49 9 (A7 41 10 ?_);exact W
   ·refine Vg 2 ?_;refine A7 49 5 (A7 41 18 (Ds ?_));refine A7 50 27 (A7 45 22 (Ds ?_));refine A7 37 14 (A7 42 19 ?_);exact W
  ·refine RV ?_;refine R1 ?_;refine RQ ((((((((((LR.slice 28 rfl).slice 29 rfl).slice 30 rfl).slice 31 rfl).slice 32 rfl).slice 33 rfl).slice 37 rfl).slice 42 rfl).slice 45 rfl).slice 50 rfl) h b6 fun _ _ h=>?_;refine GD (MI h (fun h=>?_) fun h=>?_)
   ·refine Vg 1 ?_;refine Ai fun all H=>Gs ?_;refine A7 50 5 (A7 45 6 (Ds ?_));refine A7 37 7 (A7 42 8 (Ds ?_));refine A7 49 9 (A7 41 10 ?_);exact W
   ·refine Vg 2 ?_;refine A7 49 5 (A7 41 18 (Ds ?_));refine A7 50 27 (A7 45 22 (Ds ?_));refine A7 37 14 (A7 42 19 ?_);exact W
def W6:List NO→Option (HL×Int)
| x19=>some ((HL.mk x19 (([]:List ML))),0)
def W7 (x2:(Bar×Int)):(Int×List NO)→Option ((Int×List NO) ⊕ (HL×Int))
| (x8,x9)=>
 A0 (decide (x8<(ln DK.row x2.1.DS))) (
 (A4 x2.1.DS x8).bind fun x10=>
 (RE x10).bind fun x11=>
 A0 (!decide (x11.2=0)) (
 Option.map Sum.inr (some ((HL.mk (([]:List NO)) (([]:List ML))),x11.2))) (
 (AI 176 x9 ([x11.1])).bind fun x12=>
 some (.inl (wr (x8+1),x12)))) (
 Option.map Sum.inr (W6 x9))
def KM (x1:Graph):Option (HL×Int):=
 (Qd x1).bind fun x2=>
 A0 (!decide (x2.2=0)) (
 some ((HL.mk (([]:List NO)) (([]:List ML))),x2.2)) (
 loop (W7 x2) (0,([]:List NO)))
theorem iC {x1 r} (h:KM x1=some r):FPx 36 [.agg (Graph.row x1)] (.tup [.agg (HL.row r.1),.iv r.2]):=by
 have ok:=oJ 36 Tryz.f36 [.c 2 (some 2),.t 3] 1 43;refine FP ok fun w0 H0=>?_;rw [KM] at h;refine Vg 9 ?_;refine VB h uC fun _ _ h=>?_;refine Vg 13 ?_;refine MI h (fun h=>W) fun h=>?_;refine Vg 13 ?_;refine Vl [2,1,3,1] (fun x19=>([],[none,some ⟨31,[.nl,.nl]⟩,none,some ⟨31,[.osl 0,.nl]⟩],[EW x19])) W6 r ?_ fun J1=>?_
 ·intro x19 h;rw [W6] at h;refine Vg 6 ?_;refine Ae 0 ?_;exact W
 ·refine Vg 1 ?_;refine AE 3 0 48 10 (Ds ?_);refine Mm h [2,1,3,1,14,2] (fun s=>([(23,.iv s.1)],[],[(0,none),(2,none)],[(0,EW s.2)])) ?_;rintro n1 ⟨x8,x9⟩ y1 h hin1 hout1;rw [W7] at h;refine Vg 5 ?_;refine MI h (fun h=>?_) fun h=>W;refine Vg 5 ?_;have ⟨x10,ex10,h⟩:=Bs h;refine AZ DK.row ex10 trivial rfl rfl rfl (Vg 7 ?_);refine VB h vo fun _ _ h=>?_;refine Vg 13 ?_;refine MI h (fun h=>W) fun h=>?_;refine Vg 6 ?_;have ⟨x12,ex12,h⟩:=Bs h;refine BP NO.row ex12 trivial rfl rfl rfl (Vg 8 ?_);refine A7 2 0 ?_;exact W
def G3 (x3:(List SX×List Int×List KE×List Int×List KE×List SE)):(Int×Int×Int×Int×List SE×Int×List SX×List Int×List KE×List EV)→Option (NO×List ML×List EV×Int)
| (x26,x27,x28,x29,x30,x31,x32,x33,x34,x35)=>
 (JR x26 x27 x28 x29 x30 x3.2.2.2.1 x31 x32 x33 x34 x3.2.2.2.2.1 x35).bind fun x36=>
 some ((NO.mk (DK.mk (DI.mk x36.1 x36.2.1 x36.2.2.2.2.2.2.2.1) x36.2.2.1 x36.2.2.2.2.2.2.2.2.1) (BK.mk x36.2.2.2.1 x36.2.2.2.2.1) x36.2.2.2.2.2.2.2.2.2.1 x36.2.2.2.2.2.1 x36.2.2.2.2.2.2.2.2.2.2.1),x36.2.2.2.2.2.2.2.2.2.2.2.1,x36.2.2.2.2.2.2.2.2.2.2.2.2,x36.2.2.2.2.2.2.1)
def KX (x1:NO) (x2:Do) (x3:(List SX×List Int×List KE×List Int×List KE×List SE)) (x5:Int) (x6:Int):Int→Option (NO×List ML×List EV×Int)
| x11=>
 (DU (decide (x5<0)) 183 x1.DK.DI.ID x1.DK.DI.PH x1.DK.TH x1.BK.LA x11 x3.1 x3.2.1 x3.2.2.2.2.2 x3.2.2.1 x3.2.2.2.1 x3.2.2.2.2.1).bind fun x12=>
 (DU (decide (x6<65535)) 186 x1.DK.DI.ID x1.DK.DI.PH x1.DK.TH x1.BK.LA x12.2 x3.1 x3.2.1 x3.2.2.2.2.2 x3.2.2.1 x3.2.2.2.1 x3.2.2.2.2.1).bind fun x13=>
 A0 x13.1 (
 (NF (SX.mk x2.PE (wr (x6+1)) 1 true true false true false) x1.DK.DI.ID x1.DK.DI.PH x1.DK.TH x1.BK.LA x13.2 x3.1 x3.2.1 x3.2.2.2.2.2 x3.2.2.1 x3.2.2.2.1 x3.2.2.2.2.1).bind fun x14=>
 (G3 x3) (x1.DK.DI.ID,x1.DK.DI.PH,x1.DK.TH,x1.BK.LA,x3.2.2.2.2.2,x13.2,x14.1,x3.2.1,x14.2,([]:List EV))) (
 (G3 x3) (x1.DK.DI.ID,x1.DK.DI.PH,x1.DK.TH,x1.BK.LA,x3.2.2.2.2.2,x13.2,x3.1,x3.2.1,x3.2.2.1,([]:List EV)))
def Ry (x1:NO) (x2:Do) (x3:(List SX×List Int×List KE×List Int×List KE×List SE)):(Bool×Int)→Option (NO×List ML×List EV×Int)
| (x22,x23)=>
 A0 x22 (
 (La x2.PE x1.DK.DI.ID x1.DK.DI.PH x1.DK.TH x1.BK.LA x23 x3.1 x3.2.1 x3.2.2.2.2.2 x3.2.2.1 x3.2.2.2.1 x3.2.2.2.2.1).bind fun x24=>
 (G3 x3) (x24.1,x24.2.1,x24.2.2.1,x24.2.2.2.1,x24.2.2.2.2.1,x23,x24.2.2.2.2.2.2.1,x24.2.2.2.2.2.2.2,x3.2.2.1,x24.2.2.2.2.2.1)) (
 (G3 x3) (x1.DK.DI.ID,x1.DK.DI.PH,x1.DK.TH,x1.BK.LA,x3.2.2.2.2.2,x23,x3.1,x3.2.1,x3.2.2.1,([]:List EV)))
def KY (x1:NO) (x2:Do) (x3:(List SX×List Int×List KE×List Int×List KE×List SE)) (x5:Int):Int→Option (NO×List ML×List EV×Int)
| x17=>
 (DU (decide (0≤x5)) 184 x1.DK.DI.ID x1.DK.DI.PH x1.DK.TH x1.BK.LA x17 x3.1 x3.2.1 x3.2.2.2.2.2 x3.2.2.1 x3.2.2.2.1 x3.2.2.2.2.1).bind fun x18=>
 A0 x18.1 (
 (A4 x3.1 x5).bind fun x19=>
 (Iq x19).bind fun x20=>
 (DU x20 185 x1.DK.DI.ID x1.DK.DI.PH x1.DK.TH x1.BK.LA x18.2 x3.1 x3.2.1 x3.2.2.2.2.2 x3.2.2.1 x3.2.2.2.1 x3.2.2.2.2.1).bind fun x21=>
 (Ry x1 x2 x3) (x21.1,x21.2)) (
 (Ry x1 x2 x3) (false,x18.2))
def JG (x1:NO) (x2:Do) (x3:(List SX×List Int×List KE×List Int×List KE×List SE)) (x4:Int) (x5 x6:Int):Bool→Option (NO×List ML×List EV×Int)
| x7=>
 A0 x7 (
 A0 (decide (x4=0)) (
 (NG x2 x1.DK.DI.ID x1.DK.DI.PH x1.DK.TH x1.BK.LA x4 x3.1 x3.2.1 x3.2.2.2.2.2 x3.2.2.1 x3.2.2.2.1 x3.2.2.2.2.1).bind fun x8=>
 (G3 x3) (x8.1,x8.2.1,x8.2.2.1,x8.2.2.2.1,x8.2.2.2.2.1,x8.2.2.2.2.2.1,x8.2.2.2.2.2.2.2.1,x8.2.2.2.2.2.2.2.2,x3.2.2.1,x8.2.2.2.2.2.2.1)) (
 (G3 x3) (x1.DK.DI.ID,x1.DK.DI.PH,x1.DK.TH,x1.BK.LA,x3.2.2.2.2.2,x4,x3.1,x3.2.1,x3.2.2.1,([]:List EV)))) (
 A0 (decide (x2.KI=4)) (
 A0 (decide (x1.DK.DI.ID<x2.PE)) (
 (DU (decide (x2.PE<64)) 182 x1.DK.DI.ID x1.DK.DI.PH x1.DK.TH x1.BK.LA x4 x3.1 x3.2.1 x3.2.2.2.2.2 x3.2.2.1 x3.2.2.2.1 x3.2.2.2.2.1).bind fun x9=>
 (KX x1 x2 x3 x5 x6) x9.2) (
 (F9 182 x1.DK.DI.ID x1.DK.DI.PH x1.DK.TH x1.BK.LA x4 x3.1 x3.2.1 x3.2.2.2.2.2 x3.2.2.1 x3.2.2.2.1 x3.2.2.2.2.1).bind fun x10=>
 (KX x1 x2 x3 x5 x6) x10.2)) (
 A0 (decide (x2.KI=5)) (
 A0 (decide (x1.DK.DI.ID<x2.PE)) (
 (DU (decide (x2.PE<64)) 182 x1.DK.DI.ID x1.DK.DI.PH x1.DK.TH x1.BK.LA x4 x3.1 x3.2.1 x3.2.2.2.2.2 x3.2.2.1 x3.2.2.2.1 x3.2.2.2.2.1).bind fun x15=>
 (KY x1 x2 x3 x5) x15.2) (
 (F9 182 x1.DK.DI.ID x1.DK.DI.PH x1.DK.TH x1.BK.LA x4 x3.1 x3.2.1 x3.2.2.2.2.2 x3.2.2.1 x3.2.2.2.1 x3.2.2.2.2.1).bind fun x16=>
 (KY x1 x2 x3 x5) x16.2)) (
 (F9 188 x1.DK.DI.ID x1.DK.DI.PH x1.DK.TH x1.BK.LA x4 x3.1 x3.2.1 x3.2.2.2.2.2 x3.2.2.1 x3.2.2.2.1 x3.2.2.2.2.1).bind fun x25=>
 (G3 x3) (x1.DK.DI.ID,x1.DK.DI.PH,x1.DK.TH,x1.BK.LA,x3.2.2.2.2.2,x25.2,x3.1,x3.2.1,x3.2.2.1,([]:List EV)))))
def JF (x1:NO) (x2:Do):Option (NO×List ML×List EV×Int):=
 (NL x1).bind fun x3=>
 (Il x1).bind fun x4=>
 (L8 (node_node.mk (NO.mk (DK.mk (DI.mk x1.DK.DI.ID x1.DK.DI.PH x3.1) x1.DK.TH x3.2.1) (BK.mk x1.BK.LA x3.2.2.2.2.2) x3.2.2.1 x3.2.2.2.1 x3.2.2.2.2.1) (([]:List ML)) (([]:List EV)) x4) x2.PE).bind fun x5=>
 (L3 x1 x2.PE).bind fun x6=>
 A0 (decide (x2.KI=0)) (
 (JG x1 x2 x3 x4 x5 x6) (decide (x2.KI=0))) (
 A0 (decide (x2.KI=1)) (
 (JG x1 x2 x3 x4 x5 x6) (decide (x2.KI=1))) (
 A0 (decide (x2.KI=2)) (
 (JG x1 x2 x3 x4 x5 x6) (decide (x2.KI=2))) (
 (JG x1 x2 x3 x4 x5 x6) (decide (x2.KI=3)))))
theorem vl {x1 x2 r} (h:JF x1 x2=some r):FPx 46 [.agg (NO.row x1),.agg (Do.row x2)] (.tup [.agg (NO.row r.1),Cb r.2.1,Cz r.2.2.1,.iv r.2.2.2]):=by
 have ok:=oJ 46 Tryz.f46 [.c 4 (some 10),.t 5,.t 6,.t 7] 2 116;refine FP ok fun w0 H0=>?_;rw [JF] at h;refine Vg 10 ?_;refine Ai fun all H=>?_;refine Gn H 2 5 ?_;refine RR [] [] 3 0 h eu fun x3 _ h=>?_;refine RB h Mo fun x4 _ h=>?_;refine GN H 1 2 (Ds ?_);refine An (R1 ?_);refine Gn H 1 0 ?_;refine GD (Vg 5 ?_);refine VN (((((((LR.slice 0 rfl).slice 1 rfl).slice 2 rfl).slice 3 rfl).slice 4 rfl).slice 5 rfl).block 3 rfl rfl) h Vd fun x5 _ h=>?_;refine Vg 7 ?_;refine VB h b7 fun x6 _ h=>?_;refine Ah 15 (Ds ?_);refine An (Vk [2,3,3,3,15,1] (fun x7=>[(29,.bv x7)]) (JG x1 x2 x3 x4 x5 x6) r ?_ fun J1=>?_)
 ·intro x7 h;rw [JG] at h;refine Vl [4,1,3,1] (fun s=>([],[none,none,some ⟨48,[.iv 0,.iv 0,.nl,.iv 0,.nl,.iv 0,.nl,.nl,.nl,.nl]⟩,some ⟨173,[.iv s.1,.iv s.2.1,.osl 0,.iv s.2.2.1,.osl 1,.iv s.2.2.2.1,Av s.2.2.2.2.1,.osl 2,.osl 3,.osl 4,.nl,.osl 6,.iv s.2.2.2.2.2.1]⟩],[Ac s.2.2.2.2.2.2.1,A5 s.2.2.2.2.2.2.2.1,A9 s.2.2.2.2.2.2.2.2.1,A5 x3.2.2.2.1,A9 x3.2.2.2.2.1,none,Be s.2.2.2.2.2.2.2.2.2])) (G3 x3) r ?_ fun J2=>?_
  ·rintro ⟨x26,x27,x28,x29,x30,x31,x32,x33,x34,x35⟩ h;rw [G3] at h;refine Vg 4 ?_;refine Ae 3 (Ds ?_);refine VR [3] [0,1,2,4,6] 4 7 h nV fun _ _ h=>?_;refine Vg 9 ?_;refine Ae 7 (Ds ?_);refine Ae 8 (Ds ?_);refine Ae 9 (Ds ?_);refine Ae 10 (Ds ?_);refine Ae 11 (Ds ?_);refine Ae 12 ?_;exact W
  ·refine MI h (fun h=>?_) fun h=>?_
   ·refine Vg 8 ?_;refine MI h (fun h=>?_) fun h=>?_
    ·refine Vg 3 ?_;refine VR [3] [0,1,5,2,3,4] 4 6 h Z1D fun _ _ h=>?_;refine Vg 1 ?_;refine A7 8 0 (A7 9 1 ?_);exact W
    ·refine Vg 1 ?_;refine Ae 5 (Ds ?_);refine AE 3 11 97 5 ?_;exact W
   ·refine Vg 5 ?_;refine MI h (fun h=>?_) fun h=>?_
    ·refine Vg 11 ?_;refine Vm [3,2,3,3] (fun x11=>([],[(3,12,.iv x11)],[(0,none)],[])) (KX x1 x2 x3 x5 x6) r ?_ fun J3=>?_
     ·intro x11 h;rw [KX] at h;refine Vg 5 ?_;refine VR [3] [0,1,5,2,3,4] 4 6 h CH fun _ _ h=>?_;refine Vg 6 ?_;refine VR [3] [0,1,5,2,3,4] 4 6 h CH fun _ _ h=>?_;refine Vg 1 ?_;refine MI h (fun h=>?_) fun h=>?_
      ·refine Vg 7 ?_;refine VR [3] [0,1,5,2,3,4] 4 6 h Z1z fun _ _ h=>?_;refine Vg 1 ?_;refine Ae 5 (Ds ?_);refine AE 3 11 97 5 (Ds ?_);refine A7 10 6 (A7 7 0 (A7 9 2 ?_));exact W
      ·refine Vg 1 ?_;refine Ae 5 (Ds ?_);refine AE 3 11 97 5 ?_;exact W
     ·refine MC 52 h (fun h=>?_) fun h=>?_
      ·refine Vg 4 ?_;refine VR [3] [0,1,5,2,3,4] 4 6 h CH fun _ _ h=>?_;exact W
      ·refine Vg 4 ?_;refine VR [3] [0,1,5,2,3,4] 4 6 h HM fun _ _ h=>?_;exact W
    ·refine Vg 5 ?_;refine MI h (fun h=>?_) fun h=>?_
     ·refine Vg 11 ?_;refine Vm [3,2,3,2] (fun x17=>([],[(3,12,.iv x17)],[(0,none)],[])) (KY x1 x2 x3 x5) r ?_ fun J4=>?_
      ·intro x17 h;rw [KY] at h;refine Vg 5 ?_;refine VR [3] [0,1,5,2,3,4] 4 6 h CH fun _ _ h=>?_;refine Vg 1 ?_;refine Vm [3,2,3,1] (fun s=>([(107,.bv s.1)],[(3,12,.iv s.2)],[],[])) (Ry x1 x2 x3) r ?_ fun J5=>?_
       ·rintro ⟨x22,x23⟩ h;rw [Ry] at h;refine MI h (fun h=>?_) fun h=>?_
        ·refine Vg 4 ?_;refine VR [3] [0,1,5,2,3,4] 4 6 h nW fun _ _ h=>?_;refine Vg 1 ?_;refine A7 7 6 (A7 8 0 (Ds ?_));refine A7 9 1 ?_;exact W
        ·refine Vg 1 ?_;refine Ae 5 (Ds ?_);refine AE 3 11 97 5 ?_;exact W
       ·refine MC 93 h (fun h=>?_) fun h=>W;refine Vg 9 ?_;have ⟨x19,ex19,h⟩:=Bs h;refine BR SX.row ex19 trivial rfl rfl rfl (Fm SX.row ex19 trivial rfl rfl rfl (VB h b8 fun _ _ h=>?_));refine VR [3] [0,1,5,2,3,4] 4 6 h CH fun _ _ h=>?_;exact W
      ·refine MC 83 h (fun h=>?_) fun h=>?_
       ·refine Vg 4 ?_;refine VR [3] [0,1,5,2,3,4] 4 6 h CH fun _ _ h=>?_;exact W
       ·refine Vg 4 ?_;refine VR [3] [0,1,5,2,3,4] 4 6 h HM fun _ _ h=>?_;exact W
     ·refine Vg 2 ?_;refine VR [3] [0,1,5,2,3,4] 4 6 h HM fun _ _ h=>?_;refine Vg 1 ?_;refine Ae 5 (Ds ?_);refine AE 3 11 97 5 ?_;exact W
 ·exact W
end
end NX
end Go.Proofs.YtjemlejoladlcaaGreat
