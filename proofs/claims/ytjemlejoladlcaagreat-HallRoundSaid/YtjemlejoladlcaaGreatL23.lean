/-
  The function narthex/H.1.Same: its code compiled, a model, and that the code answers as the model. Written by a program of ours (lb.py). No statement of the seat is proved here.
-/
import Derived.Test.YtjemlejoladlcaaGreatL22
set_option maxRecDepth 100000
set_option maxHeartbeats 40000000
namespace Go.Proofs.YtjemlejoladlcaaGreat
namespace NX
open Go
noncomputable section
def W8:Bool→Option Bool
| x5=>some x5
def Jz (x1 x2:HL):Option Bool:=
 (Tn x1.NS x2.NS ((fun z=>Ip z.1 z.2))).bind fun x3=>
 A0 x3 (
 (Tq x1.ML x2.ML).bind fun x4=>
 W8 x4) (
 W8 false)
theorem iD {x1 x2 r} (h:Jz x1 x2=some r):FPx 38 [.agg (HL.row x1),.agg (HL.row x2)] (.bv r):=by
 have ok:=oJ 38 Tryz.f38 [.t 4] 2 15;refine FP ok fun w0 H0=>?_;rw [Jz] at h;refine Vg 12 ?_;refine VB h (fun e=>vZ e ⟨by kernel_rfl,rfl,fun z r hz=>b6 hz⟩) fun _ _ h=>?_;refine Vg 1 ?_;refine Vl [] (fun x5=>([(4,.bv x5)],[],[])) W8 r ?_ fun J1=>?_
 ·intro x5 h;rw [W8] at h;exact W
 ·refine MC 10 h (fun h=>?_) fun h=>W;refine Vg 4 ?_;refine VB h w5 fun _ _ h=>?_;exact W
def T3 (x1:List Int) (x2:Int):Option (List Int):=
 (O4 x1 ([x2])).bind fun x3=>
 some x3
theorem bf {x1 x2 r} (h:T3 x1 x2=some r):FPx 128 [Ab x1,.iv x2] (Ab r):=by have ok:=oJ 128 Tryz.f128 [.t 4] 2 7;refine FP ok fun w0 H0=>?_;rw [T3] at h;refine Vg 9 ?_;refine Ae 0 (Ds ?_);refine VB h iM fun _ _ h=>?_;exact W
def Lh (x1 x2:List Int):Option Bool:=
 (O4 x1 x2).bind fun x3=>
 some (decide ((ln Ad x3)=0))
theorem bh {x1 x2 r} (h:Lh x1 x2=some r):FPx 112 [Ab x1,Ab x2] (.bv r):=by have ok:=oJ 112 Tryz.f112 [.t 4] 2 8;refine FP ok fun w0 H0=>?_;rw [Lh] at h;refine Vg 8 ?_;refine VB h iM fun _ _ h=>?_;exact W
def Lg (x1:BK) (x2:Int):Int→Option (BK×Int)
| x6=>
 A0 (!decide (x6=0)) (
 some ((BK.mk 0 (([]:List SE))),x6)) (
 (Iz x1).bind fun x7=>
 (O1 (BK.mk x1.LA x7) x2).bind fun x8=>
 (Lo x8 (wr (x8+1)) x7).bind fun x11=>
 some ((BK.mk x1.LA x11),0))
def Lf (x1:BK) (x2:Int) (x4:(Int×Int)):Bool→Option (BK×Int)
| x5=>
 A0 x5 (
 (Lg x1 x2) 175) (
 (Lg x1 x2) x4.2)
def O0 (x1:BK) (x2:Int) (x3:Int):Option (BK×Int):=
 (Xl x1 x2).bind fun x4=>
 A0 (decide (x4.2=0)) (
 (Lf x1 x2 x4) (!decide (x4.1=x3))) (
 (Lf x1 x2 x4) false)
theorem iK {x1 x2 x3 r} (h:O0 x1 x2 x3=some r):FPx 191 [.agg (BK.row x1),.iv x2,.iv x3] (.tup [.agg (BK.row r.1),.iv r.2]):=by
 have ok:=oJ 191 Tryz.f191 [.c 6 (some 2),.t 7] 3 38;refine FP ok fun w0 H0=>?_;rw [O0] at h;refine Vg 10 ?_;refine VB h vH fun x4 _ h=>?_;refine Vg 12 ?_;refine Vk [1,1,1,1,2,1,2,1] (fun x5=>[(22,.bv x5)]) (Lf x1 x2 x4) r ?_ fun J1=>?_
 ·intro x5 h;rw [Lf] at h;refine Vk [1,1,1,1,2,1] (fun x6=>[(9,.iv x6)]) (Lg x1 x2) r ?_ fun J2=>?_
  ·intro x6 h;rw [Lg] at h;refine Vg 6 ?_;refine MI h (fun h=>W) fun h=>?_;refine Vg 4 ?_;refine VR [] [] 2 0 h Up fun _ _ h=>?_;refine Vg 3 ?_;refine Ai fun all H=>?_;refine Gn H 3 9 ?_;refine Fj 1 2 5 rfl ?_ ?_ ?_
   ·refine RV ?_;refine Ag 2 5 rfl ?_ ?_
    ·refine RV ?_;have ⟨x8,ex8,h⟩:=Bs h;refine Ag 4 5 rfl ?_ ?_
     ·refine GK H.1 (LR.slice 0 rfl) (CD ex8) (Ds ?_);refine R1 ?_;refine A6 7 rfl (GK H.1 (LR.slice 0 rfl) (CD ex8) ?_);refine Gn H 1 3 ?_;refine RR [] [0] 2 1 h Eb fun x11 ex11 h=>?_;refine Gn H 1 1 ?_;refine R1 ?_;refine GD (Vg 6 ?_);refine Ae 1 ?_;exact W
     ·refine RV ?_;refine A6 4 rfl (GK H.1 (LR.slice 0 rfl) (CD ex8) (Ds ?_));refine A6 7 rfl (GK H.1 (LR.slice 0 rfl) (CD ex8) ?_);refine Gn H 1 3 ?_;refine RR [] [0] 2 1 h Eb fun x11 ex11 h=>?_;refine Gn H 1 1 ?_;refine R1 ?_;refine GD (Vg 6 ?_);refine Ae 1 ?_;exact W
    ·refine RV ?_;refine R1 ?_;refine RQ (LR.slice 0 rfl) h CD fun x8 ex8 h=>?_;refine A6 7 rfl (GK H.1 (LR.slice 0 rfl) (CD ex8) ?_);refine Gn H 1 3 ?_;refine RR [] [0] 2 1 h Eb fun x10 ex10 h=>?_;refine Gn H 1 1 ?_;refine R1 ?_;refine GD (Vg 6 ?_);refine Ae 1 ?_;exact W
   ·refine RV ?_;have ⟨x8,ex8,h⟩:=Bs h;refine Fj 1 4 5 rfl ?_ ?_ ?_
    ·refine RV ?_;refine Ag 4 5 rfl ?_ ?_
     ·refine GK H.1 (LR.slice 0 rfl) (CD ex8) (Ds ?_);refine R1 ?_;refine A6 7 rfl (GK H.1 (LR.slice 0 rfl) (CD ex8) ?_);refine Gn H 1 3 ?_;refine RR [] [0] 2 1 h Eb fun x11 ex11 h=>?_;refine Gn H 1 1 ?_;refine R1 ?_;refine GD (Vg 6 ?_);refine Ae 1 ?_;exact W
     ·refine RV ?_;refine A6 4 rfl (GK H.1 (LR.slice 0 rfl) (CD ex8) (Ds ?_));refine A6 7 rfl (GK H.1 (LR.slice 0 rfl) (CD ex8) ?_);refine Gn H 1 3 ?_;refine RR [] [0] 2 1 h Eb fun x11 ex11 h=>?_;refine Gn H 1 1 ?_;refine R1 ?_;refine GD (Vg 6 ?_);refine Ae 1 ?_;exact W
    ·refine GK H.1 (LR.slice 0 rfl) (CD ex8) (Ds ?_);refine Ag 1 5 rfl ?_ ?_
     ·refine RV ?_;refine R1 ?_;refine A6 7 rfl (GK H.1 (LR.slice 0 rfl) (CD ex8) ?_);refine Gn H 1 3 ?_;refine RR [] [0] 2 1 h Eb fun x11 ex11 h=>?_;refine Gn H 1 1 ?_;refine R1 ?_;refine GD (Vg 6 ?_);refine Ae 1 ?_;exact W
     ·refine RV ?_;refine Ag 1 7 rfl ?_ ?_
      ·refine RV ?_;refine A6 7 rfl (GK H.1 (LR.slice 0 rfl) (CD ex8) ?_);refine Gn H 1 3 ?_;refine RR [] [0] 2 1 h Eb fun x11 ex11 h=>?_;refine Gn H 1 1 ?_;refine R1 ?_;refine GD (Vg 6 ?_);refine Ae 1 ?_;exact W
      ·refine GK H.1 (LR.slice 0 rfl) (CD ex8) ?_;refine Gn H 1 4 ?_;refine R1 ?_;refine RR [] [0] 2 1 h Eb fun x11 ex11 h=>?_;refine Gn H 1 1 ?_;refine R1 ?_;refine GD (Vg 6 ?_);refine Ae 1 ?_;exact W
    ·refine RV ?_;refine Ag 1 4 rfl ?_ ?_
     ·refine RV ?_;refine A6 4 rfl (GK H.1 (LR.slice 0 rfl) (CD ex8) (Ds ?_));refine A6 7 rfl (GK H.1 (LR.slice 0 rfl) (CD ex8) ?_);refine Gn H 1 3 ?_;refine RR [] [0] 2 1 h Eb fun x11 ex11 h=>?_;refine Gn H 1 1 ?_;refine R1 ?_;refine GD (Vg 6 ?_);refine Ae 1 ?_;exact W
     ·refine GK H.1 (LR.slice 0 rfl) (CD ex8) (Ds ?_);refine Ag 1 7 rfl ?_ ?_
      ·refine RV ?_;refine A6 7 rfl (GK H.1 (LR.slice 0 rfl) (CD ex8) ?_);refine Gn H 1 3 ?_;refine RR [] [0] 2 1 h Eb fun x11 ex11 h=>?_;refine Gn H 1 1 ?_;refine R1 ?_;refine GD (Vg 6 ?_);refine Ae 1 ?_;exact W
      ·refine GK H.1 (LR.slice 0 rfl) (CD ex8) ?_;refine Gn H 1 4 ?_;refine R1 ?_;refine RR [] [0] 2 1 h Eb fun x11 ex11 h=>?_;refine Gn H 1 1 ?_;refine R1 ?_;refine GD (Vg 6 ?_);refine Ae 1 ?_;exact W
   ·refine RV ?_;refine Ag 1 2 rfl ?_ ?_
    ·refine RV ?_;refine R1 ?_;refine RQ (LR.slice 0 rfl) h CD fun x8 ex8 h=>?_;refine A6 7 rfl (GK H.1 (LR.slice 0 rfl) (CD ex8) ?_);refine Gn H 1 3 ?_;refine RR [] [0] 2 1 h Eb fun _ _ h=>?_;refine Gn H 1 1 ?_;refine R1 ?_;refine GD (Vg 6 ?_);refine Ae 1 ?_;exact W
    ·refine RV ?_;have ⟨x8,ex8,h⟩:=Bs h;refine Ag 1 4 rfl ?_ ?_
     ·refine RV ?_;refine A6 4 rfl (GK H.1 (LR.slice 0 rfl) (CD ex8) (Ds ?_));refine A6 7 rfl (GK H.1 (LR.slice 0 rfl) (CD ex8) ?_);refine Gn H 1 3 ?_;refine RR [] [0] 2 1 h Eb fun x11 ex11 h=>?_;refine Gn H 1 1 ?_;refine R1 ?_;refine GD (Vg 6 ?_);refine Ae 1 ?_;exact W
     ·refine GK H.1 (LR.slice 0 rfl) (CD ex8) (Ds ?_);refine Ag 1 7 rfl ?_ ?_
      ·refine RV ?_;refine A6 7 rfl (GK H.1 (LR.slice 0 rfl) (CD ex8) ?_);refine Gn H 1 3 ?_;refine RR [] [0] 2 1 h Eb fun x11 ex11 h=>?_;refine Gn H 1 1 ?_;refine R1 ?_;refine GD (Vg 6 ?_);refine Ae 1 ?_;exact W
      ·refine GK H.1 (LR.slice 0 rfl) (CD ex8) ?_;refine Gn H 1 4 ?_;refine R1 ?_;refine RR [] [0] 2 1 h Eb fun _ _ h=>?_;refine Gn H 1 1 ?_;refine R1 ?_;refine GD (Vg 6 ?_);refine Ae 1 ?_;exact W
  ·exact W
 ·exact W
@[go_sem] def sf:EC:=eQ Tryz.f235
theorem kD:FnOK Tryz.prog 235 Tryz.f235 sf [.c 6 (some 3),.t 7] 3 66:=B6
@[go_sem] def su:EC:=eQ Tryz.f266
theorem kH:FnOK Tryz.prog 266 Tryz.f266 su [.c 2 (some 3),.t 3,.t 4] 1 111:=B6
def QO:Bool→Option Int
| x7=>
 A0 x7 (
 some 150) (
 some 0)
def N4 (x1:DK):Bool→Option Int
| x5=>
 A0 x5 (
 QO x5) (
 (G7 x1.NE ((fun z=>QN z x1))).bind fun x6=>
 QO x6)
def N3 (x1:DK):Bool→Option Int
| x3=>
 A0 x3 (
 some 150) (
 (IA x1.NE).bind fun x4=>
 A0 (!x4) (
 QO (!x4)) (
 A0 (decide (x1.TH=0)) (
 (N4 x1) (decide (0<(ln Ad x1.NE)))) (
 (N4 x1) false)))
def Js (x1:DK):Option Int:=
 (KD x1.DI).bind fun x2=>
 A0 (!decide (x2=0)) (
 (N3 x1) (!decide (x2=0))) (
 A0 (decide (x1.TH<0)) (
 (N3 x1) (decide (x1.TH<0))) (
 (N3 x1) (decide (2<x1.TH))))
theorem V9 {x1 r} (h:Js x1=some r):FPx 102 [.agg (DK.row x1)] (.iv r):=by
 have ok:=oJ 102 Tryz.f102 [.t 2] 1 33;refine FP ok fun w0 H0=>?_;rw [Js] at h;refine Vg 17 ?_;refine VB h aT fun _ _ h=>?_;refine Vg 3 ?_;refine Vk [1,1,1,1] (fun x3=>[(5,.bv x3)]) (N3 x1) r ?_ fun J1=>?_
 ·intro x3 h;rw [N3] at h;refine MI h (fun h=>W) fun h=>?_;refine Vg 5 ?_;refine VB h bg fun _ _ h=>?_;refine Vg 3 ?_;refine Vl [] (fun x7=>([(16,.bv x7)],[],[])) QO r ?_ fun J2=>?_
  ·intro x7 h;rw [QO] at h;exact W
  ·refine MI h (fun h=>W) fun h=>?_;refine Vg 6 ?_;refine Vk [1,1,1,1] (fun x5=>[(16,.bv x5)]) (N4 x1) r ?_ fun J3=>?_
   ·intro x5 h;rw [N4] at h;refine MI h (fun h=>W) fun h=>?_;refine Vg 4 ?_;refine VN (LR.block 0 rfl rfl) h (fun e=>Ms e ⟨by kernel_rfl,rfl,fun z r hz=>uS hz⟩) fun _ _ h=>?_;exact W
   ·exact W
 ·exact W
@[go_sem] def sG:EC:=eQ Tryz.f92
theorem Yy:FnOK Tryz.prog 92 Tryz.f92 sG [] 2 40:=B6
def S6 (x2:Int) (x14:(Int×Bool)):List KE→Option (List KE)
| x16=>
 (A4 x16 x14.1).bind fun x17=>
 some (x16.set (Int.toNat (x14.1)) (KE.mk x17.PE x2))
def WP (x1 x2:Int) (_x3 _x4:Int) (_x5 _x6 _x7:Int) (_x8:List SX) (_x9:List Int) (_x10:List SE) (x11:List KE) (_x12:List Int) (_x13:List KE):Option (List KE):=
 (Li x11 x1 ((fun z=>Ir z.1 z.2))).bind fun x14=>
 A0 (!x14.2) (
 (On x11 x14.1 ([KE.mk x1 0])).bind fun x15=>
 (S6 x2 x14) x15) (
 (S6 x2 x14) x11)
theorem nT {x1 x2 x3 x4 x5 x6 x7 x8 x9 x10 x11 x12 x13 r} (h:WP x1 x2 x3 x4 x5 x6 x7 x8 x9 x10 x11 x12 x13=some r):FTx 154 [.ptr 0 0,.iv x1,.iv x2] [some ⟨173,[.iv x3,.iv x4,.osl 0,.iv x5,.osl 1,.iv x6,.osl 2,.osl 3,.osl 4,.osl 5,.nl,.nl,.iv x7]⟩] [Ac x8,A5 x9,AX x10,A9 x11,A5 x12,A9 x13] (.tup []) [some ⟨173,[.iv x3,.iv x4,.osl 0,.iv x5,.osl 1,.iv x6,.osl 2,.osl 7,.osl 4,.osl 5,.nl,.nl,.iv x7]⟩] [Ac x8,A5 x9,AX x10,none,A5 x12,A9 x13,none,A9 r]:=by
 refine Ft Yt fun w0 M0=>?_;have ok:=Yt;rw [WP] at h;refine Vg 8 ?_;refine VN (LR.slice 3 rfl) h (fun e=>iO e ⟨by kernel_rfl,rfl,fun z r hz=>iH hz⟩) fun x14 _ h=>?_;refine Vg 12 ?_;refine Vl [0,1,1,1,3,1] (fun x16=>([],[some ⟨173,[.iv x3,.iv x4,.osl 0,.iv x5,.osl 1,.iv x6,.osl 2,.osl 7,.osl 4,.osl 5,.nl,.nl,.iv x7]⟩],[Ac x8,A5 x9,AX x10,none,A5 x12,A9 x13,none,A9 x16])) (S6 x2 x14) r ?_ fun J1=>?_
 ·intro x16 h;rw [S6] at h;refine Vg 8 ?_;have ⟨x17,ex17,h⟩:=Bs h;refine BR KE.row ex17 trivial rfl rfl rfl (Vg 1 ?_);refine Dz [.iv x2] KE.row (y':=(KE.mk x17.PE x2)) ex17 trivial rfl rfl rfl (by first | exact Am _ | simp [go_sem]) rfl rfl rfl rfl ?_;exact W
 ·refine MI h (fun h=>?_) fun h=>?_
  ·refine Vg 11 ?_;refine VR [] [3,6] 1 7 h nZ fun _ _ h=>?_;exact W
  ·refine Vg 1 ?_;refine As 169 2 (Ds ?_);refine As 169 2 (Ds ?_);refine A7 3 7 ?_;exact W
def co:List Int→Option (Int×List Int)
| x18=>some ((-1),x18)
def TB (x1:Int) (x2:List SE):(Int×List Int)→Option ((Int×List Int) ⊕ (Int×List Int))
| (x7,x8)=>
 A0 (decide (x7<(ln SE.row x2))) (
 (A4 x2 x7).bind fun x9=>
 (NW x9 x1 x8).bind fun x10=>
 A0 x10.1 (
 Option.map Sum.inr (some (x7,x10.2))) (
 some (.inl (wr (x7+1),x10.2)))) (
 Option.map Sum.inr (co x8))
def TA (x1:Int) (x2:List SE):Option (Int×List Int):=loop (TB x1 x2) (0,([]:List Int))
theorem Z1Q {x1 x2 r} (h:TA x1 x2=some r):FTx 221 [.osl 0,.clo 208 [.ptr 0 0,.ptr 1 0]] [some ⟨3,[.iv x1]⟩,some ⟨40,[.nl]⟩] [AX x2] (.iv r.1) [some ⟨3,[.iv x1]⟩,some ⟨40,[.osl 1]⟩] [AX x2,A5 r.2]:=by
 refine Ft U3 fun w0 M0=>?_;have ok:=U3;rw [TA] at h;refine Vg 11 ?_;refine Vl [] (fun x18=>([],[some ⟨3,[.iv x1]⟩,some ⟨40,[.osl 1]⟩],[AX x2,A5 x18])) co r ?_ fun J1=>?_
 ·intro x18 h;rw [co] at h;exact W
 ·refine Vg 1 ?_;refine AE 1 0 3 1 (Ds ?_);refine Mm h [0,2,5,1] (fun s=>([(8,.iv s.1)],[],[],[(1,A5 s.2)])) ?_;rintro n1 ⟨x7,x8⟩ y1 h hin1 hout1;rw [TB] at h;refine Vg 5 ?_;refine MI h (fun h=>?_) fun h=>W;refine Vg 13 ?_;have ⟨x9,ex9,h⟩:=Bs h;refine BR SE.row ex9 trivial rfl rfl rfl (Fm SE.row ex9 trivial rfl rfl rfl ?_);have ⟨x10,ex10,h⟩:=Bs h;refine J0 [true,true] [false,true] trivial rfl (FQ [0,1] [1] 2 2 (nX ex10)) (by kernel_rfl) (h:=?_);refine Vg 1 ?_;refine MI h (fun h=>?_) fun h=>?_
  ·refine Vg 5 ?_;refine A7 3 1 ?_;exact W
  ·refine Vg 6 ?_;refine A7 3 1 ?_;exact W
@[go_sem] def s5:EC:=eQ Tryz.f214
theorem kz:FnOK Tryz.prog 214 Tryz.f214 s5 [] 1 44:=B6
def S7 (x2:Int) (x16:(Int×Bool)):List KE→Option (List KE)
| x18=>
 (A4 x18 x16.1).bind fun x19=>
 some (x18.set (Int.toNat (x16.1)) (KE.mk x19.PE x2))
def WQ (x1 x2:Int) (_x3 _x4:Int) (_x5 _x6:Int) (_x7:List SE) (_x8:List Int) (_x9:Int) (_x10:List SX) (_x11:List Int) (x12 _x13:List KE) (_x14:List ML) (_x15:List EV):Option (List KE):=
 (Li x12 x1 ((fun z=>Ir z.1 z.2))).bind fun x16=>
 A0 (!x16.2) (
 (On x12 x16.1 ([KE.mk x1 0])).bind fun x17=>
 (S7 x2 x16) x17) (
 (S7 x2 x16) x12)
theorem nU {x1 x2 x3 x4 x5 x6 x7 x8 x9 x10 x11 x12 x13 x14 x15 r} (h:WQ x1 x2 x3 x4 x5 x6 x7 x8 x9 x10 x11 x12 x13 x14 x15=some r):FTx 154 [.ptr 0 0,.iv x1,.iv x2] [some ⟨173,[.iv x3,.iv x4,.osl 0,.iv x5,.osl 1,.iv x6,Av x7,.osl 2,Ab x8,.osl 3,.osl 4,.osl 5,.iv x9]⟩] [Ac x10,A5 x11,A9 x12,A9 x13,Az x14,Be x15] (.tup []) [some ⟨173,[.iv x3,.iv x4,.osl 0,.iv x5,.osl 1,.iv x6,Av x7,.osl 7,Ab x8,.osl 3,.osl 4,.osl 5,.iv x9]⟩] [Ac x10,A5 x11,none,A9 x13,Az x14,Be x15,none,A9 r]:=by
 refine Ft Yt fun w0 M0=>?_;have ok:=Yt;rw [WQ] at h;refine Vg 8 ?_;refine VN (LR.slice 2 rfl) h (fun e=>iO e ⟨by kernel_rfl,rfl,fun z r hz=>iH hz⟩) fun x16 _ h=>?_;refine Vg 12 ?_;refine Vl [0,1,1,1,3,1] (fun x18=>([],[some ⟨173,[.iv x3,.iv x4,.osl 0,.iv x5,.osl 1,.iv x6,Av x7,.osl 7,Ab x8,.osl 3,.osl 4,.osl 5,.iv x9]⟩],[Ac x10,A5 x11,none,A9 x13,Az x14,Be x15,none,A9 x18])) (S7 x2 x16) r ?_ fun J1=>?_
 ·intro x18 h;rw [S7] at h;refine Vg 8 ?_;have ⟨x19,ex19,h⟩:=Bs h;refine BR KE.row ex19 trivial rfl rfl rfl (Vg 1 ?_);refine Dz [.iv x2] KE.row (y':=(KE.mk x19.PE x2)) ex19 trivial rfl rfl rfl (by first | exact Am _ | simp [go_sem]) rfl rfl rfl rfl ?_;exact W
 ·refine MI h (fun h=>?_) fun h=>?_
  ·refine Vg 11 ?_;refine VR [] [2,6] 1 7 h nZ fun _ _ h=>?_;exact W
  ·refine Vg 1 ?_;refine As 169 2 (Ds ?_);refine As 169 2 (Ds ?_);refine A7 2 7 ?_;exact W
def ca:List DI→Option (List DI×Int)
| x68=>some (x68,0)
def Xk (x31:Int) (x32:List DI):List SX→Option ((Int×List DI) ⊕ (List DI×Int))
| x59=>
 (AI 40 x32 ([DI.mk x31 0 x59])).bind fun x60=>
 some (.inl (wr (x31+1),x60))
def SG (x2:List Int) (x31:Int) (x32:List DI) (x33:List Int):(Int×List SX)→Option ((Int×List SX) ⊕ ((Int×List DI) ⊕ (List DI×Int)))
| (x40,x41)=>
 A0 (decide (x40<(ln Ad x33))) (
 (A4 x33 x40).bind fun x42=>
 (A4 x2 x31).bind fun x43=>
 (A4 x2 x42).bind fun x44=>
 (AI 32 x41 ([SX.mk x42 1 0 (decide (x44<x43)) (decide (x44<x43)) (!(decide (x44<x43))) (decide (x44<x43)) (!(decide (x44<x43)))])).bind fun x45=>
 some (.inl (wr (x40+1),x45))) (
 Option.map Sum.inr ((Xk x31 x32) x41))
def SF (x1:Graph) (x2:List Int):(Int×List DI)→Option ((Int×List DI) ⊕ (List DI×Int))
| (x31,x32)=>
 A0 (decide (x31<x1.N)) (
 (KK x1 x31).bind fun x33=>
 loop (SG x2 x31 x32 x33) (0,([]:List SX))) (
 Option.map Sum.inr (ca x32))
def SC (x1:Graph) (x2:List Int):Option (List DI×Int):=
 (Ih x1).bind fun x3=>
 A0 (!decide (x3=0)) (
 some (([]:List DI),x3)) (
 (Qn x1 x2).bind fun x4=>
 A0 (!x4) (
 some (([]:List DI),120)) (
 loop (SF x1 x2) (0,([]:List DI))))
theorem vD {x1 x2 r} (h:SC x1 x2=some r):FPx 193 [.agg (Graph.row x1),Ab x2] (.tup [oX r.1,.iv r.2]):=by
 have ok:=oJ 193 Tryz.f193 [.t 4,.t 5] 2 65;refine FP ok fun w0 H0=>?_;rw [SC] at h;refine Vg 10 ?_;refine VB h PY fun _ _ h=>?_;refine Vg 7 ?_;refine MI h (fun h=>W) fun h=>?_;refine Vg 6 ?_;refine VB h uE fun _ _ h=>?_;refine Vg 2 ?_;refine MI h (fun h=>W) fun h=>?_;refine Vg 12 ?_;refine Vl [] (fun x68=>([(7,.osl 0)],[],[Ps x68])) ca r ?_ fun J1=>?_
 ·intro x68 h;rw [ca] at h;refine Vg 6 ?_;refine Ae 0 ?_;exact W
 ·refine Vg 1 ?_;refine CV 7 38 3 rfl rfl (Ds ?_);refine Mm h [1,2,4,1,15,1] (fun s=>([(24,.iv s.1)],[],[],[(0,Ps s.2)])) ?_;rintro n1 ⟨x31,x32⟩ y1 h hin1 hout1;rw [SF] at h;refine Vg 5 ?_;refine MI h (fun h=>?_) fun h=>W;refine Vg 20 ?_;refine VB h iy fun _ _ h=>?_;refine Vg 3 ?_;refine Vl [1,2,4,1,1,1,13,2] (fun x59=>([],[some ⟨24,Graph.row x1⟩,some ⟨38,[.iv x31,.iv 0,.osl 1]⟩],[Ps x32,Ac x59])) (Xk x31 x32) y1 ?_ fun J2=>?_
  ·intro x59 h;rw [Xk] at h;refine Vg 3 ?_;refine Ae 1 ?_;refine Vg 1 ?_;have ⟨x60,ex60,h⟩:=Bs h;refine BP DI.row ex60 trivial rfl rfl rfl (Vg 7 ?_);refine A7 3 0 ?_;exact W
  ·refine Vg 1 ?_;refine AE 1 2 66 8 (Ds ?_);refine Mm h [1,2,4,3,13,2,6,2] (fun s=>([(33,.iv s.1)],[],[],[(1,Ac s.2)])) ?_;rintro n2 ⟨x40,x41⟩ y2 h hin2 hout2;rw [SG] at h;refine Vg 5 ?_;refine MI h (fun h=>?_) fun h=>W;refine Vg 5 ?_;have ⟨x42,ex42,h⟩:=Bs h;refine AZ Ad ex42 trivial rfl rfl rfl (Vg 4 ?_);have ⟨x43,ex43,h⟩:=Bs h;have ⟨x44,ex44,h⟩:=Bs h;refine Ai fun all H=>Gs ?_;refine Vg 13 ?_;have ⟨x45,ex45,h⟩:=Bs h;refine BP SX.row ex45 trivial rfl rfl rfl (Vg 8 ?_);refine A7 3 1 ?_;exact W
def bL:List Int→Option (List Int×Int)
| x54=>some (x54,0)
def Kx (x26:Int):List Int→Option ((Int×List Int) ⊕ (List Int×Int))
| x46=>some (.inl (wr (x26+1),x46))
def MO (x2:List Int) (x26:Int) (x28:List Int):List Int→Option ((List Int) ⊕ ((Int×List Int) ⊕ (List Int×Int)))
| x35=>
 (G7 x28 ((fun z=>Qr z x2 x35 x26))).bind fun x36=>
 A0 x36 (
 (A4 x35 x26).bind fun x37=>
 some (.inl (x35.set (Int.toNat (x26)) (wr (x37+1))))) (
 Option.map Sum.inr ((Kx x26) x35))
def Ky (x2:List Int) (x26:Int) (x27 x28:List Int):Bool→Option ((Int×List Int) ⊕ (List Int×Int))
| x31=>
 A0 x31 (
 (Kx x26) x27) (
 (A4 x27 x26).bind fun _=>
 loop (MO x2 x26 x28) (x27.set (Int.toNat (x26)) 1))
def Qt (x1:Graph) (x2:List Int):(Int×List Int)→Option ((Int×List Int) ⊕ (List Int×Int))
| (x26,x27)=>
 A0 (decide (x26<x1.N)) (
 (KK x1 x26).bind fun x28=>
 (A4 x2 x26).bind fun x29=>
 A0 (!decide (x29=0)) (
 (Ky x2 x26 x27 x28) true) (
 (G7 x28 ((fun z=>Qp z x2 x26))).bind fun x30=>
 (Ky x2 x26 x27 x28) x30)) (
 Option.map Sum.inr (bL x27))
def Qs (x1:Graph) (x2:List Int):Bool→Option (List Int×Int)
| x5=>
 A0 x5 (
 some (([]:List Int),110)) (
 (CF x2).bind fun x6=>
 loop (Qt x1 x2) (0,x6))
def Qo (x1:Graph) (x2:List Int):Option (List Int×Int):=
 (Ih x1).bind fun x3=>
 A0 (!decide (x3=0)) (
 some (([]:List Int),x3)) (
 A0 (!decide ((ln Ad x2)=x1.N)) (
 (Qs x1 x2) true) (
 (G7 x2 ((fun z=>VA z))).bind fun x4=>
 (Qs x1 x2) x4))
theorem uH {x1 x2 r} (h:Qo x1 x2=some r):FPx 231 [.agg (Graph.row x1),Ab x2] (.tup [Ab r.1,.iv r.2]):=by
 have ok:=oJ 231 Tryz.f231 [.t 4,.t 5] 2 56;refine FP ok fun w0 H0=>?_;rw [Qo] at h;refine Vg 11 ?_;refine VB h PY fun _ _ h=>?_;refine Vg 7 ?_;refine MI h (fun h=>W) fun h=>?_;refine Vg 10 ?_;refine Vk [2,2] (fun x5=>[(23,.bv x5)]) (Qs x1 x2) r ?_ fun J1=>?_
 ·intro x5 h;rw [Qs] at h;refine MI h (fun h=>W) fun h=>?_;refine Vg 4 ?_;have ⟨x6,ex6,h⟩:=Bs h;refine Ec trivial (Eg ex6) (h:=?_);refine Vg 10 ?_;refine Vm [7,1] (fun x54=>([],[],[(0,none),(1,none)],[(0,A5 x54)])) bL r ?_ fun J2=>?_
  ·intro x54 h;rw [bL] at h;refine Vg 6 ?_;refine Ae 0 ?_;exact W
  ·refine Vg 1 ?_;refine Mm h [2,2,3,1,19,1] (fun s=>([(28,.iv s.1)],[],[],[(0,A5 s.2)])) ?_;rintro n1 ⟨x26,x27⟩ y1 h hin1 hout1;rw [Qt] at h;refine Vg 5 ?_;refine MI h (fun h=>?_) fun h=>W;refine Vg 2 ?_;refine Vm [2,2,3,1,19,2] (fun x46=>([],[],[],[(0,A5 x46)])) (Kx x26) y1 ?_ fun J3=>?_
   ·intro x46 h;rw [Kx] at h;exact W
   ·refine Vg 11 ?_;refine VB h iy fun x28 _ h=>?_;refine Vg 7 ?_;have ⟨x29,ex29,h⟩:=Bs h;refine AZ Ad ex29 trivial rfl rfl rfl (Vg 3 ?_);refine Vk [2,2,3,3,17,2] (fun x31=>[(43,.bv x31)]) (Ky x2 x26 x27 x28) y1 ?_ fun J4=>?_
    ·intro x31 h;rw [Ky] at h;refine MI h (fun h=>W) fun h=>?_;refine Vg 5 ?_;have ⟨x32,ex32,h⟩:=Bs h;refine BR Ad ex32 trivial rfl rfl rfl (Dz [.iv 1] Ad (y':=1) ex32 trivial rfl rfl rfl (by first | exact Am _ | simp [go_sem]) rfl rfl rfl rfl (Vg 2 ?_));refine Mm h [2,2,3,3,17,2] (fun x35=>([],[],[],[(0,A5 x35)])) ?_;rintro n2 x35 y2 h hin2 hout2;rw [MO] at h;refine Vg 5 ?_;refine VN ((((LR.slice 0 rfl).block 1 rfl rfl).block 2 rfl rfl).block 3 rfl rfl) h (fun e=>Ms e ⟨by kernel_rfl,rfl,fun z r hz=>uK hz⟩) fun _ _ h=>?_;refine Vg 1 ?_;refine MI h (fun h=>?_) fun h=>W;refine Vg 5 ?_;have ⟨x37,ex37,h⟩:=Bs h;refine BR Ad ex37 trivial rfl rfl rfl (CA Ad ex37 trivial rfl rfl rfl (Vg 1 ?_));refine BR Ad ex37 trivial rfl rfl rfl (Dz [.iv (wr (x37+1))] Ad (y':=wr (x37+1)) ex37 trivial rfl rfl rfl (by first | exact Am _ | simp [go_sem]) rfl rfl rfl rfl ?_);exact W
    ·refine MC 39 h (fun h=>W) fun h=>?_;refine Vg 2 ?_;refine VN ((LR.block 1 rfl rfl).block 3 rfl rfl) h (fun e=>Ms e ⟨by kernel_rfl,rfl,fun z r hz=>uJ hz⟩) fun _ _ h=>?_;exact W
 ·refine MC 20 h (fun h=>W) fun h=>?_;refine Vg 1 ?_;refine VB h (fun e=>Ms e ⟨by kernel_rfl,rfl,fun z r hz=>uI hz⟩) fun _ _ h=>?_;exact W
def SQ (x1:BK) (x2:Int):Option (BK×Int):=
 (O0 x1 x2 1).bind fun x3=>
 some (x3.1,x3.2)
theorem vI {x1 x2 r} (h:SQ x1 x2=some r):FPx 131 [.agg (BK.row x1),.iv x2] (.tup [.agg (BK.row r.1),.iv r.2]):=by have ok:=oJ 131 Tryz.f131 [.c 4 (some 2),.t 5] 2 9;refine FP ok fun w0 H0=>?_;rw [SQ] at h;refine Vg 10 ?_;refine VB h iK fun _ _ h=>?_;exact W
def SH (x1:BK) (x2:Int):Option (BK×Int):=
 (O0 x1 x2 0).bind fun x3=>
 some (x3.1,x3.2)
theorem vE {x1 x2 r} (h:SH x1 x2=some r):FPx 133 [.agg (BK.row x1),.iv x2] (.tup [.agg (BK.row r.1),.iv r.2]):=by have ok:=oJ 133 Tryz.f133 [.c 4 (some 2),.t 5] 2 9;refine FP ok fun w0 H0=>?_;rw [SH] at h;refine Vg 10 ?_;refine VB h iK fun _ _ h=>?_;exact W
@[go_sem] def sm:EC:=eQ Tryz.f241
theorem kF:FnOK Tryz.prog 241 Tryz.f241 sm [] 1 84:=B6
def QG (x1:DI) (x50:List ML):(Int×List SX)→Option (Int×Int×Int×List SX×List ML)
| (x65,x66)=>some (x1.ID,x65,0,x66,x50)
def N1 (x1:DI) (x49:List SX) (x50:List ML):(Int×List SX)→Option ((Int×List SX) ⊕ (Int×Int×Int×List SX×List ML))
| (x55,x56)=>
 A0 (decide (x55<(ln SX.row x49))) (
 (A4 x56 x55).bind fun x57=>
 some (.inl (wr (x55+1),x56.set (Int.toNat (x55)) (SX.mk x57.PE x57.EP x57.SS x57.FK true x57.TO x57.BO x57.Ask)))) (
 Option.map Sum.inr ((QG x1 x50) (2,x56)))
def MZ (x1:DI) (x49:List SX) (x50:List ML):Bool→Option (Int×Int×Int×List SX×List ML)
| x51=>
 A0 x51 (
 loop (N1 x1 x49 x50) (0,x49)) (
 (QG x1 x50) (x1.PH,x49))
def VH (x1:DI):(Bool×List SX×List ML)→Option (Int×Int×Int×List SX×List ML)
| (x48,x49,x50)=>
 A0 (decide (x1.PH=1)) (
 (MZ x1 x49 x50) x48) (
 (MZ x1 x49 x50) false)
def QF (x21:Int) (x33:List SX) (x34:List ML):Bool→Option ((Bool×Int×List SX×List ML) ⊕ (Int×Int×Int×List SX×List ML))
| x36=>some (.inl (x36,wr (x21+1),x33,x34))
def MY (x20:Bool) (x21:Int):(List SX×List ML)→Option ((Bool×Int×List SX×List ML) ⊕ (Int×Int×Int×List SX×List ML))
| (x33,x34)=>
 A0 x20 (
 (A4 x33 x21).bind fun x35=>
 (QF x21 x33 x34) x35.FK) (
 (QF x21 x33 x34) false)
def Ie (x1:DI) (x20:Bool) (x21:Int) (x27:List SX) (x28:List ML):Bool→Option ((Bool×Int×List SX×List ML) ⊕ (Int×Int×Int×List SX×List ML))
| x30=>
 A0 x30 (
 (A4 x27 x21).bind fun x31=>
 (KF 2 x1.ID x1.PH x21 x28 (x27.set (Int.toNat (x21)) (SX.mk x31.PE x31.EP x31.SS x31.FK x31.DY false x31.BO x31.Ask))).bind fun x32=>
 (MY x20 x21) ((x27.set (Int.toNat (x21)) (SX.mk x31.PE x31.EP x31.SS x31.FK x31.DY false x31.BO x31.Ask)),x32)) (
 (MY x20 x21) (x27,x28))
def Jr (x1:DI) (x20:Bool) (x21:Int):(List SX×List ML)→Option ((Bool×Int×List SX×List ML) ⊕ (Int×Int×Int×List SX×List ML))
| (x27,x28)=>
 A0 (decide (x1.PH=1)) (
 (A4 x27 x21).bind fun x29=>
 A0 x29.TO (
 (Ie x1 x20 x21 x27 x28) (!x29.FK)) (
 (Ie x1 x20 x21 x27 x28) false)) (
 (Ie x1 x20 x21 x27 x28) false)
def F8 (x1:DI) (x20:Bool) (x21:Int) (x22:List SX) (x23:List ML) (x24:SX):Bool→Option ((Bool×Int×List SX×List ML) ⊕ (Int×Int×Int×List SX×List ML))
| x25=>
 A0 x25 (
 (KF 1 x1.ID x1.PH x21 x23 (x22.set (Int.toNat (x21)) (SX.mk x24.PE x24.EP x24.SS false false x24.TO x24.BO x24.Ask))).bind fun x26=>
 (Jr x1 x20 x21) ((x22.set (Int.toNat (x21)) (SX.mk x24.PE x24.EP x24.SS false false x24.TO x24.BO x24.Ask)),x26)) (
 (Jr x1 x20 x21) (x22,x23))
def N0 (x1:DI) (x3:List SX):(Bool×Int×List SX×List ML)→Option ((Bool×Int×List SX×List ML) ⊕ (Int×Int×Int×List SX×List ML))
| (x20,x21,x22,x23)=>
 A0 (decide (x21<(ln SX.row x3))) (
 (A4 x22 x21).bind fun x24=>
 A0 x24.FK (
 A0 x24.DY (
 A0 x24.TO (
 (F8 x1 x20 x21 x22 x23 x24) (!decide (x1.PH=2))) (
 (F8 x1 x20 x21 x22 x23 x24) false)) (
 (F8 x1 x20 x21 x22 x23 x24) false)) (
 (F8 x1 x20 x21 x22 x23 x24) false)) (
 Option.map Sum.inr ((VH x1) (x20,x22,x23)))
def QE (x1:DI):Option (Int×Int×Int×List SX×List ML):=
 (KD x1).bind fun x2=>
 A0 (!decide (x2=0)) (
 some (0,0,x2,([]:List SX),([]:List ML))) (
 (Eu x1.SD).bind fun x3=>
 loop (N0 x1 x3) (true,0,x3,([]:List ML)))
theorem Z1h {x1 r} (h:QE x1=some r):FTx 266 [.agg (DI.row x1)] [] [] (.tup [.agg [.iv r.1,.iv r.2.1,.osl 0],.osl 1,.iv r.2.2.1]) [] [Ac r.2.2.2.1,Az r.2.2.2.2]:=by
 refine Ft kH fun w0 M0=>?_;have ok:=kH;rw [QE] at h;refine Vg 11 ?_;refine VB h aT fun _ _ h=>?_;refine Vg 7 ?_;refine MI h (fun h=>?_) fun h=>?_
 ·refine Vg 8 ?_;refine AE 1 2 66 8 (Ds ?_);refine CV 3 113 5 rfl rfl ?_;exact W
 ·refine Vg 5 ?_;have ⟨x3,ex3,h⟩:=Bs h;refine Ec trivial (OJ ex3) (h:=?_);refine Vg 19 ?_;refine Vl [1,2,3,1] (fun s=>([(7,.bv s.1)],[some ⟨38,[.iv x1.ID,.iv x1.PH,.osl 0]⟩,some ⟨38,[.iv 0,.iv 0,.nl]⟩,some ⟨29,[.osl 1]⟩],[Ac s.2.1,Az s.2.2])) (VH x1) r ?_ fun J1=>?_
  ·rintro ⟨x48,x49,x50⟩ h;rw [VH] at h;refine Vg 7 ?_;refine Vk [1,2,3,1] (fun x51=>[(96,.bv x51)]) (MZ x1 x49 x50) r ?_ fun J7=>?_
   ·intro x51 h;rw [MZ] at h;refine Vm [1,2,3,1] (fun s=>([],[(0,1,.iv s.1)],[],[(0,Ac s.2)])) (QG x1 x50) r ?_ fun J8=>?_
    ·rintro ⟨x65,x66⟩ h;rw [QG] at h;refine Vg 1 ?_;refine Ai fun all H=>Gs ?_;exact W
    ·refine MI h (fun h=>?_) fun h=>W;refine Vg 13 ?_;refine Mm h [1,2,3,1,93,1] (fun s=>([(101,.iv s.1)],[],[],[(0,Ac s.2)])) ?_;rintro n1 ⟨x55,x56⟩ y1 h hin1 hout1;rw [N1] at h;refine Vg 5 ?_;refine MI h (fun h=>?_) fun h=>W;refine Vg 12 ?_;have ⟨x57,ex57,h⟩:=Bs h;refine BR SX.row ex57 trivial rfl rfl rfl (Vg 1 ?_);refine Dz [.bv true] SX.row (y':=(SX.mk x57.PE x57.EP x57.SS x57.FK true x57.TO x57.BO x57.Ask)) ex57 trivial rfl rfl rfl (by first | exact Am _ | simp [go_sem]) rfl rfl rfl rfl ?_;exact W
   ·exact W
  ·refine Vg 1 ?_;refine AE 2 0 113 5 (Ds ?_);refine Mm h [1,2,3,1,17,1] (fun s=>([(7,.bv s.1),(25,.iv s.2.1)],[],[],[(0,Ac s.2.2.1),(1,Az s.2.2.2)])) ?_;rintro n1 ⟨x20,x21,x22,x23⟩ y1 h hin1 hout1;rw [N0] at h;refine Vg 5 ?_;refine MI h (fun h=>?_) fun h=>W;refine Vg 13 ?_;have ⟨x24,ex24,h⟩:=Bs h;refine BR SX.row ex24 trivial rfl rfl rfl (Vg 14 ?_);refine CA SX.row ex24 trivial rfl rfl rfl (Vg 1 ?_);refine Vk [1,2,3,2,1,2,13,2] (fun x25=>[(53,.bv x25)]) (F8 x1 x20 x21 x22 x23 x24) y1 ?_ fun J2=>?_
   ·intro x25 h;rw [F8] at h;refine Vm [1,2,3,2,1,2,13,2] (fun s=>([],[],[],[(0,Ac s.1),(1,Az s.2)])) (Jr x1 x20 x21) y1 ?_ fun J3=>?_
    ·rintro ⟨x27,x28⟩ h;rw [Jr] at h;refine Vg 7 ?_;refine Vk [1,2,3,2,1,2,13,2] (fun x30=>[(77,.bv x30)]) (Ie x1 x20 x21 x27 x28) y1 ?_ fun J4=>?_
     ·intro x30 h;rw [Ie] at h;refine Vm [1,2,3,2,1,1,14,2] (fun s=>([],[],[],[(0,Ac s.1),(1,Az s.2)])) (MY x20 x21) y1 ?_ fun J5=>?_
      ·rintro ⟨x33,x34⟩ h;rw [MY] at h;refine Vg 3 ?_;refine Vl [1,2,3,1,17,2] (fun x36=>([(7,.bv x36)],[some ⟨38,[.iv x1.ID,.iv x1.PH,.osl 0]⟩,some ⟨38,[.iv 0,.iv 0,.nl]⟩,some ⟨29,[.osl 1]⟩],[Ac x33,Az x34])) (QF x21 x33 x34) y1 ?_ fun J6=>?_
       ·intro x36 h;rw [QF] at h;exact W
       ·refine MC 84 h (fun h=>?_) fun h=>W;refine Vg 3 ?_;have ⟨x35,ex35,h⟩:=Bs h;refine CA SX.row ex35 trivial rfl rfl rfl ?_;exact W
      ·refine MI h (fun h=>?_) fun h=>W;refine Vg 5 ?_;have ⟨x31,ex31,h⟩:=Bs h;refine Dz [.bv false] SX.row (y':=(SX.mk x31.PE x31.EP x31.SS x31.FK x31.DY false x31.BO x31.Ask)) ex31 trivial rfl rfl rfl (by first | exact Am _ | simp [go_sem]) rfl rfl rfl rfl (Vg 3 ?_);have ⟨x32,ex32,h⟩:=Bs h;refine J0 [true,false,true,true] [true,true] trivial rfl (FQ [2,0,3] [1,0] 4 2 (Zg ex32)) (by kernel_rfl) (h:=?_);refine Vg 1 ?_;refine A7 3 1 ?_;exact W
     ·refine MC 65 h (fun h=>?_) fun h=>W;refine Vg 3 ?_;have ⟨x29,ex29,h⟩:=Bs h;refine CA SX.row ex29 trivial rfl rfl rfl (Vg 2 ?_);refine MC 71 h (fun h=>?_) fun h=>W;refine Vg 3 ?_;refine CA SX.row ex29 trivial rfl rfl rfl ?_;exact W
    ·refine MI h (fun h=>?_) fun h=>W;refine Vg 1 ?_;refine Ai fun all H=>Ds ?_;refine Ag 0 1 rfl ?_ ?_
     ·refine RV ?_;refine Gn H 2 5 ?_;refine Ag 1 4 rfl ?_ ?_
      ·refine RV ?_;refine Bd [.bv false] (SX.mk x24.PE x24.EP x24.SS false x24.DY x24.TO x24.BO x24.Ask) ?_;refine Gn H 2 1 ?_;refine BQ [.bv false] (SX.mk x24.PE x24.EP x24.SS false false x24.TO x24.BO x24.Ask) ?_;refine GD (Vg 2 ?_);have ⟨x26,ex26,h⟩:=Bs h;refine J0 [true,false,true,true] [true,true] trivial rfl (FQ [2,0,3] [1,0] 4 2 (Zg ex26)) (by kernel_rfl) (h:=?_);refine Vg 1 ?_;refine A7 3 1 ?_;exact W
      ·refine Zs H.1 [.bv false] SX.row (y':=(SX.mk x24.PE x24.EP x24.SS false x24.DY x24.TO x24.BO x24.Ask)) ex24 rfl trivial rfl rfl rfl (by first | exact Am _ | simp [go_sem]) rfl rfl rfl rfl (Ds ?_);refine R1 ?_;refine Gn H 2 1 ?_;refine BQ [.bv false] (SX.mk x24.PE x24.EP x24.SS false false x24.TO x24.BO x24.Ask) ?_;refine GD (Vg 2 ?_);have ⟨x26,ex26,h⟩:=Bs h;refine J0 [true,false,true,true] [true,true] trivial rfl (FQ [2,0,3] [1,0] 4 2 (Zg ex26)) (by kernel_rfl) (h:=?_);refine Vg 1 ?_;refine A7 3 1 ?_;exact W
     ·refine RV ?_;refine R1 ?_;refine Gn H 2 4 ?_;refine Bd [.bv false] (SX.mk x24.PE x24.EP x24.SS false x24.DY x24.TO x24.BO x24.Ask) ?_;refine Gn H 2 1 ?_;refine BQ [.bv false] (SX.mk x24.PE x24.EP x24.SS false false x24.TO x24.BO x24.Ask) ?_;refine GD (Vg 2 ?_);have ⟨x26,ex26,h⟩:=Bs h;refine J0 [true,false,true,true] [true,true] trivial rfl (FQ [2,0,3] [1,0] 4 2 (Zg ex26)) (by kernel_rfl) (h:=?_);refine Vg 1 ?_;refine A7 3 1 ?_;exact W
   ·refine MC 37 h (fun h=>?_) fun h=>W;refine Vg 3 ?_;refine CA SX.row ex24 trivial rfl rfl rfl (Vg 2 ?_);refine MC 43 h (fun h=>?_) fun h=>W;refine Vg 3 ?_;refine CA SX.row ex24 trivial rfl rfl rfl ?_;exact W
@[go_sem] def rT:EC:=eQ Tryz.f200
theorem ko:FnOK Tryz.prog 200 Tryz.f200 rT [.c 2 (some 5),.t 3] 1 19:=B6
end
end NX
end Go.Proofs.YtjemlejoladlcaaGreat
