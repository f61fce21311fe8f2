/-
  The function narthex/H.1.Check: its code compiled, a model, and that the code answers as the model. Written by a program of ours (lb.py). No statement of the seat is proved here.
-/
import Derived.Test.YtgamgemlekpepaaGreatK43
set_option maxRecDepth 100000
set_option maxHeartbeats 40000000
namespace Go.Proofs.YtgamgemlekpepaaGreat
namespace NX
open Go
noncomputable section
def Zx81:Bool→Option Int
| x16=>
 ifb x16 (
 some 190) (
 some 0)
def Zy81 (x1:HL):Unit→Option Int
| ()=>
 ifb (decide (64<(ln NO.row x1.NS))) (
 Zx81 true) (
 (Zaw x1.ML ((fun z=>Z8w z x1))).bind fun x15=>
 Zx81 x15)
def Zz81 (x6:Int):Bool→Option (Int ⊕ Int)
| x9=>
 ifb x9 (
 Option.map Sum.inr (some 190)) (
 some (.inl (wr (x6+1))))
def Z091 (x1:HL):Int→Option (Int ⊕ Int)
| x6=>
 ifb (decide (x6<(ln NO.row x1.NS))) (
 (at_ x1.NS x6).bind fun x7=>
 ifb (!decide (x7.DK.DI.ID=x6)) (
 (Zz81 x6) true) (
 (Zb81 x7).bind fun x8=>
 (Zz81 x6) (!decide (x8=0)))) (
 Option.map Sum.inr ((Zy81 x1) ()))
def Z191 (x1:HL):Option Int:=loop (Z091 x1) 0
theorem Z291 {x1 r} (h:Z191 x1=some r):FPx 11 [.agg (HL.row x1)] (.iv r):=by
 have ok:=oJ 11 Tryz.f11 [.t 2] 1 36;refine FP ok fun w0 H0=>?_;rw [Z191] at h;refine Vg 18 ?_;refine Vk [1,1,1,1] (fun _=>[]) (Zy81 x1) r ?_ fun J1=>?_
 ·rintro ⟨⟩ h;rw [Zy81] at h;refine Vg 8 ?_;refine Vl [] (fun x16=>([(36,.bv x16)],[],[])) Zx81 r ?_ fun J3=>?_
  ·intro x16 h;rw [Zx81] at h;exact W
  ·refine MC 31 h (fun h=>?_) fun h=>?_
   ·exact W
   ·refine Vg 3 ?_;refine VN (LR.block 0 rfl rfl) h (fun e=>Zbw e ⟨by kernel_rfl,rfl,fun z r hz=>Z9w hz⟩) fun _ _ h=>?_;exact W
 ·refine Vg 1 ?_;refine Mk h [1,1,1,1,4,2] (fun x6=>[(10,.iv x6)]) ?_;rintro n1 x6 y1 h hin1 hout1;rw [Z091] at h;refine Vg 5 ?_;refine MI h (fun h=>?_) fun h=>?_
  ·refine Vg 6 ?_;have ⟨x7,ex7,h⟩:=Bs h;refine Zjc NO.row ex7 trivial rfl rfl rfl (Vg 14 ?_);refine Vl [1,1,1,1,4,3] (fun x9=>([(25,.bv x9)],[some ⟨29,HL.row x1⟩],[])) (Zz81 x6) y1 ?_ fun J2=>?_
   ·intro x9 h;rw [Zz81] at h;exact W
   ·refine MC 21 h (fun h=>?_) fun h=>?_
    ·exact W
    ·refine Vg 1 ?_;refine VB h Zc81 fun _ _ h=>?_;exact W
  ·exact W
def Z391 (x7:Int):(Int×Int×Int×Int×List SE×List Int×List ML×List KE×List EV×List KE×List Int×List SX)→Option ((Int×Int×Int×Int×List SE×List Int×List ML×List KE×List EV×List KE×List Int×List SX) ⊕ (Int×Int×Int×Int×List SE×List Int×Int×List SX×List Int×List KE×List KE×List ML×List EV))
| (x28,x29,x30,x31,x32,x33,x34,x35,x36,x37,x38,x39)=>
 (Zcy x28 x29 x30 x31 x32 x33 x39 x38 x35 x37).bind fun x40=>
 (Zr81 x28 x29 x30 x31 x32 x33 x7 x39 x38 x35 x37 x34 x36).bind fun x41=>
 (Zr01 (NO.mk (DK.mk (DI.mk x28 x29 x40.1) x30 x40.2.1) (BK.mk x31 x40.2.2.2.2.2) x40.2.2.1 x40.2.2.2.1 x40.2.2.2.2.1) (NO.mk (DK.mk (DI.mk x41.1 x41.2.1 x41.2.2.2.2.2.2.2.2.2.2.2) x41.2.2.1 x41.2.2.2.2.2.2.2.2.2.1) (BK.mk x41.2.2.2.1 x41.2.2.2.2.1) x41.2.2.2.2.2.2.1 x41.2.2.2.2.2.1 x41.2.2.2.2.2.2.2.2.1)).bind fun x42=>
 ifb x42 (
 Option.map Sum.inr (some (x41.1,x41.2.1,x41.2.2.1,x41.2.2.2.1,x41.2.2.2.2.1,x41.2.2.2.2.2.1,0,x41.2.2.2.2.2.2.2.2.2.2.2,x41.2.2.2.2.2.2.2.2.2.1,x41.2.2.2.2.2.2.1,x41.2.2.2.2.2.2.2.2.1,x41.2.2.2.2.2.2.2.2.2.2.1,x41.2.2.2.2.2.2.2.1))) (
 some (.inl (x41.1,x41.2.1,x41.2.2.1,x41.2.2.2.1,x41.2.2.2.2.1,x41.2.2.2.2.2.1,x41.2.2.2.2.2.2.2.2.2.2.1,x41.2.2.2.2.2.2.1,x41.2.2.2.2.2.2.2.1,x41.2.2.2.2.2.2.2.2.1,x41.2.2.2.2.2.2.2.2.2.1,x41.2.2.2.2.2.2.2.2.2.2.2)))
def Z491 (x1 x2:Int) (x3 x4:Int) (x5:List SE) (x6:List Int) (x7:Int) (x8:List SX) (x9:List Int) (x10 x11:List KE) (x12:List EV):Option (Int×Int×Int×Int×List SE×List Int×Int×List SX×List Int×List KE×List KE×List ML×List EV):=
 ifb (!decide (x7=0)) (
 some (0,0,0,0,([]:List SE),([]:List Int),x7,([]:List SX),([]:List Int),([]:List KE),([]:List KE),([]:List ML),([]:List EV))) (
 loop (Z391 x7) (x1,x2,x3,x4,x5,x6,([]:List ML),x10,x12,x11,x9,x8))
theorem Z591 {x1 x2 x3 x4 x5 x6 x7 x8 x9 x10 x11 x12 r} (h:Z491 x1 x2 x3 x4 x5 x6 x7 x8 x9 x10 x11 x12=some r):FTx 73 [.ptr 0 0] [some ⟨138,[.iv x1,.iv x2,.osl 0,.iv x3,.osl 1,.iv x4,Sp5 x5,.osl 2,Sp1 x6,.osl 3,.nl,.osl 4,.iv x7]⟩] [Z5k x8,Sq4 x9,Z6k x10,Z6k x11,Z8k x12] (.tup [.agg [.iv r.1,.iv r.2.1,.osl 5,.iv r.2.2.1,.osl 6,.iv r.2.2.2.1,Sp5 r.2.2.2.2.1,.osl 7,Sp1 r.2.2.2.2.2.1,.osl 8],.osl 9,.osl 10,.iv r.2.2.2.2.2.2.1]) [none] [none,none,none,none,none,Z5k r.2.2.2.2.2.2.2.1,Sq4 r.2.2.2.2.2.2.2.2.1,Z6k r.2.2.2.2.2.2.2.2.2.1,Z6k r.2.2.2.2.2.2.2.2.2.2.1,Sq6 r.2.2.2.2.2.2.2.2.2.2.2.1,Z8k r.2.2.2.2.2.2.2.2.2.2.2.2]:=by
 refine Ft ok73 fun w0 M0=>?_;have ok:=ok73;rw [Z491] at h;refine Vg 16 ?_;refine MI h (fun h=>?_) fun h=>?_
 ·refine Vg 1 ?_;refine Zgj fun all H=>Gs ?_;refine Zkj 1 2 112 8 (Ds ?_);refine Zkj 1 4 3 1 (Ds ?_);refine Zkj 1 7 121 2 (Ds ?_);refine Zkj 1 9 121 2 (Ds ?_);refine Zcb 3 53 5 rfl rfl (Ds ?_);refine Zcb 4 77 5 rfl rfl ?_;exact W
 ·refine Vg 2 ?_;refine Zkj 0 10 53 5 (Ds ?_);refine Zlj 77 5 (Ds ?_);refine Zlj 77 5 (Ds ?_);refine Zlj 77 5 (Ds ?_);refine Zlj 77 5 (Ds ?_);refine Zlj 77 5 (Ds ?_);refine Zlj 77 5 (Ds ?_);refine Zlj 77 5 (Ds ?_);refine Zlj 77 5 (Ds ?_);refine Zlj 77 5 (Ds ?_);refine Zlj 77 5 (Ds ?_);refine Zlj 77 5 (Ds ?_);refine Zlj 77 5 (Ds ?_);refine Zlj 77 5 (Ds ?_);refine Zij 4 18 (Ds ?_);refine Zlj 112 8 (Ds ?_);refine Zlj 112 8 (Ds ?_);refine Zlj 112 8 (Ds ?_);refine Zlj 112 8 (Ds ?_);refine Zlj 112 8 (Ds ?_);refine Zlj 112 8 (Ds ?_);refine Zlj 112 8 (Ds ?_);refine Zlj 112 8 (Ds ?_);refine Zlj 112 8 (Ds ?_);refine Zij 0 27 (Zij 1 22 (Ds ?_));refine Zij 2 14 (Zij 3 19 (Ds ?_));refine Ml h [0,1,1,1] (fun s=>([],[some ⟨138,[.iv s.1,.iv s.2.1,.osl 27,.iv s.2.2.1,.osl 22,.iv s.2.2.2.1,Sp5 s.2.2.2.2.1,.osl 14,Sp1 s.2.2.2.2.2.1,.osl 19,.osl 5,.osl 18,.iv x7]⟩,some ⟨67,[.iv 0,.iv 0,.nl,.iv 0,.nl,.iv 0,.nl,.nl,.nl,.nl]⟩],[none,none,none,none,none,Sq6 s.2.2.2.2.2.2.1,none,none,none,none,none,none,none,none,Z6k s.2.2.2.2.2.2.2.1,none,none,none,Z8k s.2.2.2.2.2.2.2.2.1,Z6k s.2.2.2.2.2.2.2.2.2.1,none,none,Sq4 s.2.2.2.2.2.2.2.2.2.2.1,none,none,none,none,Z5k s.2.2.2.2.2.2.2.2.2.2.2])) ?_;rintro n1 ⟨x28,x29,x30,x31,x32,x33,x34,x35,x36,x37,x38,x39⟩ y1 h hin1 hout1;rw [Z391] at h;refine Vg 7 ?_;refine VR [] [27,22,14,19] 2 28 h Zdy fun _ _ h=>?_;refine Ds ?_;refine Vg 6 ?_;refine VR [0] [27,22,14,19,5,18] 3 34 h Zs81 fun _ _ h=>?_;refine Vg 2 ?_;refine Zgj fun all H=>?_;refine Gn H 3 3 ?_;refine Zoa 0 4 rfl ?_ ?_
  ·refine RV ?_;refine R1 ?_;refine RQ ((((((((((LR.slice 28 rfl).slice 29 rfl).slice 30 rfl).slice 31 rfl).slice 32 rfl).slice 33 rfl).slice 37 rfl).slice 42 rfl).slice 45 rfl).slice 50 rfl) h Zs01 fun x42 ex42 h=>?_;refine GD (MI h (fun h=>?_) fun h=>?_)
   ·refine Vg 1 ?_;refine Zgj fun all H=>Gs ?_;refine Zij 50 5 (Zij 45 6 (Ds ?_));refine Zij 37 7 (Zij 42 8 (Ds ?_));refine Zij 49 9 (Zij 41 10 ?_);exact W
   ·refine Vg 2 ?_;refine Zij 49 5 (Zij 41 18 (Ds ?_));refine Zij 50 27 (Zij 45 22 (Ds ?_));refine Zij 37 14 (Zij 42 19 ?_);exact W
  ·refine RV ?_;refine R1 ?_;refine RQ ((((((((((LR.slice 28 rfl).slice 29 rfl).slice 30 rfl).slice 31 rfl).slice 32 rfl).slice 33 rfl).slice 37 rfl).slice 42 rfl).slice 45 rfl).slice 50 rfl) h Zs01 fun _ _ h=>?_;refine GD (MI h (fun h=>?_) fun h=>?_)
   ·refine Vg 1 ?_;refine Zgj fun all H=>Gs ?_;refine Zij 50 5 (Zij 45 6 (Ds ?_));refine Zij 37 7 (Zij 42 8 (Ds ?_));refine Zij 49 9 (Zij 41 10 ?_);exact W
   ·refine Vg 2 ?_;refine Zij 49 5 (Zij 41 18 (Ds ?_));refine Zij 50 27 (Zij 45 22 (Ds ?_));refine Zij 37 14 (Zij 42 19 ?_);exact W
def Z691:List NO→Option (HL×Int)
| x19=>some ((HL.mk x19 (([]:List ML))),0)
def Z791 (x2:(Bar×Int)):(Int×List NO)→Option ((Int×List NO) ⊕ (HL×Int))
| (x8,x9)=>
 ifb (decide (x8<(ln DK.row x2.1.DS))) (
 (at_ x2.1.DS x8).bind fun x10=>
 (Zv81 x10).bind fun x11=>
 ifb (!decide (x11.2=0)) (
 Option.map Sum.inr (some ((HL.mk (([]:List NO)) (([]:List ML))),x11.2))) (
 (Z8c 176 x9 ([x11.1])).bind fun x12=>
 some (.inl (wr (x8+1),x12)))) (
 Option.map Sum.inr (Z691 x9))
def Z891 (x1:Graph):Option (HL×Int):=
 (Zn71 x1).bind fun x2=>
 ifb (!decide (x2.2=0)) (
 some ((HL.mk (([]:List NO)) (([]:List ML))),x2.2)) (
 loop (Z791 x2) (0,([]:List NO)))
theorem Z991 {x1 r} (h:Z891 x1=some r):FPx 6 [.agg (Graph.row x1)] (.tup [.agg (HL.row r.1),.iv r.2]):=by
 have ok:=oJ 6 Tryz.f6 [.c 2 (some 2),.t 3] 1 43;refine FP ok fun w0 H0=>?_;rw [Z891] at h;refine Vg 9 ?_;refine VB h Zo71 fun _ _ h=>?_;refine Vg 13 ?_;refine MI h (fun h=>?_) fun h=>?_
 ·exact W
 ·refine Vg 13 ?_;refine Vl [2,1,3,1] (fun x19=>([],[none,some ⟨29,[.nl,.nl]⟩,none,some ⟨29,[.osl 0,.nl]⟩],[Sq0 x19])) Z691 r ?_ fun J1=>?_
  ·intro x19 h;rw [Z691] at h;refine Vg 6 ?_;refine Zjj 0 ?_;exact W
  ·refine Vg 1 ?_;refine Zkj 3 0 67 10 (Ds ?_);refine Mm h [2,1,3,1,14,2] (fun s=>([(23,.iv s.1)],[],[(0,none),(2,none)],[(0,Sq0 s.2)])) ?_;rintro n1 ⟨x8,x9⟩ y1 h hin1 hout1;rw [Z791] at h;refine Vg 5 ?_;refine MI h (fun h=>?_) fun h=>?_
   ·refine Vg 5 ?_;have ⟨x10,ex10,h⟩:=Bs h;refine Zjc DK.row ex10 trivial rfl rfl rfl (Vg 7 ?_);refine VB h Zw81 fun _ _ h=>?_;refine Vg 13 ?_;refine MI h (fun h=>?_) fun h=>?_
    ·exact W
    ·refine Vg 6 ?_;have ⟨x12,ex12,h⟩:=Bs h;refine Zmc NO.row ex12 trivial rfl rfl rfl (Vg 8 ?_);refine Zij 2 0 ?_;exact W
   ·exact W
def Za91 (x3:(List SX×List Int×List KE×List Int×List KE×List SE)):(Int×Int×Int×Int×List SE×Int×List SX×List Int×List KE×List EV)→Option (NO×List ML×List EV×Int)
| (x26,x27,x28,x29,x30,x31,x32,x33,x34,x35)=>
 (Z491 x26 x27 x28 x29 x30 x3.2.2.2.1 x31 x32 x33 x34 x3.2.2.2.2.1 x35).bind fun x36=>
 some ((NO.mk (DK.mk (DI.mk x36.1 x36.2.1 x36.2.2.2.2.2.2.2.1) x36.2.2.1 x36.2.2.2.2.2.2.2.2.1) (BK.mk x36.2.2.2.1 x36.2.2.2.2.1) x36.2.2.2.2.2.2.2.2.2.1 x36.2.2.2.2.2.1 x36.2.2.2.2.2.2.2.2.2.2.1),x36.2.2.2.2.2.2.2.2.2.2.2.1,x36.2.2.2.2.2.2.2.2.2.2.2.2,x36.2.2.2.2.2.2.1)
def Zb91 (x1:NO) (x2:Do) (x3:(List SX×List Int×List KE×List Int×List KE×List SE)) (x5:Int) (x6:Int):Int→Option (NO×List ML×List EV×Int)
| x11=>
 (Zkt (decide (x5<0)) 183 x1.DK.DI.ID x1.DK.DI.PH x1.DK.TH x1.BK.LA x11 x3.1 x3.2.1 x3.2.2.2.2.2 x3.2.2.1 x3.2.2.2.1 x3.2.2.2.2.1).bind fun x12=>
 (Zkt (decide (x6<65535)) 186 x1.DK.DI.ID x1.DK.DI.PH x1.DK.TH x1.BK.LA x12.2 x3.1 x3.2.1 x3.2.2.2.2.2 x3.2.2.1 x3.2.2.2.1 x3.2.2.2.2.1).bind fun x13=>
 ifb x13.1 (
 (Zl51 (SX.mk x2.PE (wr (x6+1)) 1 true true false true false) x1.DK.DI.ID x1.DK.DI.PH x1.DK.TH x1.BK.LA x13.2 x3.1 x3.2.1 x3.2.2.2.2.2 x3.2.2.1 x3.2.2.2.1 x3.2.2.2.2.1).bind fun x14=>
 (Za91 x3) (x1.DK.DI.ID,x1.DK.DI.PH,x1.DK.TH,x1.BK.LA,x3.2.2.2.2.2,x13.2,x14.1,x3.2.1,x14.2,([]:List EV))) (
 (Za91 x3) (x1.DK.DI.ID,x1.DK.DI.PH,x1.DK.TH,x1.BK.LA,x3.2.2.2.2.2,x13.2,x3.1,x3.2.1,x3.2.2.1,([]:List EV)))
def Zc91 (x1:NO) (x2:Do) (x3:(List SX×List Int×List KE×List Int×List KE×List SE)):(Bool×Int)→Option (NO×List ML×List EV×Int)
| (x22,x23)=>
 ifb x22 (
 (Z281 x2.PE x1.DK.DI.ID x1.DK.DI.PH x1.DK.TH x1.BK.LA x23 x3.1 x3.2.1 x3.2.2.2.2.2 x3.2.2.1 x3.2.2.2.1 x3.2.2.2.2.1).bind fun x24=>
 (Za91 x3) (x24.1,x24.2.1,x24.2.2.1,x24.2.2.2.1,x24.2.2.2.2.1,x23,x24.2.2.2.2.2.2.1,x24.2.2.2.2.2.2.2,x3.2.2.1,x24.2.2.2.2.2.1)) (
 (Za91 x3) (x1.DK.DI.ID,x1.DK.DI.PH,x1.DK.TH,x1.BK.LA,x3.2.2.2.2.2,x23,x3.1,x3.2.1,x3.2.2.1,([]:List EV)))
def Zd91 (x1:NO) (x2:Do) (x3:(List SX×List Int×List KE×List Int×List KE×List SE)) (x5:Int):Int→Option (NO×List ML×List EV×Int)
| x17=>
 (Zkt (decide (0≤x5)) 184 x1.DK.DI.ID x1.DK.DI.PH x1.DK.TH x1.BK.LA x17 x3.1 x3.2.1 x3.2.2.2.2.2 x3.2.2.1 x3.2.2.2.1 x3.2.2.2.2.1).bind fun x18=>
 ifb x18.1 (
 (at_ x3.1 x5).bind fun x19=>
 (Z8n x19).bind fun x20=>
 (Zkt x20 185 x1.DK.DI.ID x1.DK.DI.PH x1.DK.TH x1.BK.LA x18.2 x3.1 x3.2.1 x3.2.2.2.2.2 x3.2.2.1 x3.2.2.2.1 x3.2.2.2.2.1).bind fun x21=>
 (Zc91 x1 x2 x3) (x21.1,x21.2)) (
 (Zc91 x1 x2 x3) (false,x18.2))
def Ze91 (x1:NO) (x2:Do) (x3:(List SX×List Int×List KE×List Int×List KE×List SE)) (x4:Int) (x5 x6:Int):Bool→Option (NO×List ML×List EV×Int)
| x7=>
 ifb x7 (
 ifb (decide (x4=0)) (
 (Zv71 x2 x1.DK.DI.ID x1.DK.DI.PH x1.DK.TH x1.BK.LA x4 x3.1 x3.2.1 x3.2.2.2.2.2 x3.2.2.1 x3.2.2.2.1 x3.2.2.2.2.1).bind fun x8=>
 (Za91 x3) (x8.1,x8.2.1,x8.2.2.1,x8.2.2.2.1,x8.2.2.2.2.1,x8.2.2.2.2.2.1,x8.2.2.2.2.2.2.2.1,x8.2.2.2.2.2.2.2.2,x3.2.2.1,x8.2.2.2.2.2.2.1)) (
 (Za91 x3) (x1.DK.DI.ID,x1.DK.DI.PH,x1.DK.TH,x1.BK.LA,x3.2.2.2.2.2,x4,x3.1,x3.2.1,x3.2.2.1,([]:List EV)))) (
 ifb (decide (x2.KI=4)) (
 ifb (decide (x1.DK.DI.ID<x2.PE)) (
 (Zkt (decide (x2.PE<64)) 182 x1.DK.DI.ID x1.DK.DI.PH x1.DK.TH x1.BK.LA x4 x3.1 x3.2.1 x3.2.2.2.2.2 x3.2.2.1 x3.2.2.2.1 x3.2.2.2.2.1).bind fun x9=>
 (Zb91 x1 x2 x3 x5 x6) x9.2) (
 (Zot 182 x1.DK.DI.ID x1.DK.DI.PH x1.DK.TH x1.BK.LA x4 x3.1 x3.2.1 x3.2.2.2.2.2 x3.2.2.1 x3.2.2.2.1 x3.2.2.2.2.1).bind fun x10=>
 (Zb91 x1 x2 x3 x5 x6) x10.2)) (
 ifb (decide (x2.KI=5)) (
 ifb (decide (x1.DK.DI.ID<x2.PE)) (
 (Zkt (decide (x2.PE<64)) 182 x1.DK.DI.ID x1.DK.DI.PH x1.DK.TH x1.BK.LA x4 x3.1 x3.2.1 x3.2.2.2.2.2 x3.2.2.1 x3.2.2.2.1 x3.2.2.2.2.1).bind fun x15=>
 (Zd91 x1 x2 x3 x5) x15.2) (
 (Zot 182 x1.DK.DI.ID x1.DK.DI.PH x1.DK.TH x1.BK.LA x4 x3.1 x3.2.1 x3.2.2.2.2.2 x3.2.2.1 x3.2.2.2.1 x3.2.2.2.2.1).bind fun x16=>
 (Zd91 x1 x2 x3 x5) x16.2)) (
 (Zot 188 x1.DK.DI.ID x1.DK.DI.PH x1.DK.TH x1.BK.LA x4 x3.1 x3.2.1 x3.2.2.2.2.2 x3.2.2.1 x3.2.2.2.1 x3.2.2.2.2.1).bind fun x25=>
 (Za91 x3) (x1.DK.DI.ID,x1.DK.DI.PH,x1.DK.TH,x1.BK.LA,x3.2.2.2.2.2,x25.2,x3.1,x3.2.1,x3.2.2.1,([]:List EV)))))
def Zf91 (x1:NO) (x2:Do):Option (NO×List ML×List EV×Int):=
 (Ztx x1).bind fun x3=>
 (Zb81 x1).bind fun x4=>
 (Zqt (node_node.mk (NO.mk (DK.mk (DI.mk x1.DK.DI.ID x1.DK.DI.PH x3.1) x1.DK.TH x3.2.1) (BK.mk x1.BK.LA x3.2.2.2.2.2) x3.2.2.1 x3.2.2.2.1 x3.2.2.2.2.1) (([]:List ML)) (([]:List EV)) x4) x2.PE).bind fun x5=>
 (Zco x1 x2.PE).bind fun x6=>
 ifb (decide (x2.KI=0)) (
 (Ze91 x1 x2 x3 x4 x5 x6) (decide (x2.KI=0))) (
 ifb (decide (x2.KI=1)) (
 (Ze91 x1 x2 x3 x4 x5 x6) (decide (x2.KI=1))) (
 ifb (decide (x2.KI=2)) (
 (Ze91 x1 x2 x3 x4 x5 x6) (decide (x2.KI=2))) (
 (Ze91 x1 x2 x3 x4 x5 x6) (decide (x2.KI=3)))))
theorem Zg91 {x1 x2 r} (h:Zf91 x1 x2=some r):FPx 39 [.agg (NO.row x1),.agg (Do.row x2)] (.tup [.agg (NO.row r.1),Sp9 r.2.1,Sp7 r.2.2.1,.iv r.2.2.2]):=by
 have ok:=oJ 39 Tryz.f39 [.c 4 (some 10),.t 5,.t 6,.t 7] 2 116;refine FP ok fun w0 H0=>?_;rw [Zf91] at h;refine Vg 10 ?_;refine Zgj fun all H=>?_;refine Gn H 2 5 ?_;refine RR [] [] 3 0 h Zux fun x3 _ h=>?_;refine RB h Zc81 fun x4 _ h=>?_;refine GN H 1 2 (Ds ?_);refine An (R1 ?_);refine Gn H 1 0 ?_;refine GD (Vg 5 ?_);refine VN (((((((LR.slice 0 rfl).slice 1 rfl).slice 2 rfl).slice 3 rfl).slice 4 rfl).slice 5 rfl).block 3 rfl rfl) h Zrt fun x5 _ h=>?_;refine Vg 7 ?_;refine VB h Zdo fun x6 _ h=>?_;refine Zg6 15 (Ds ?_);refine An (Vk [2,3,3,3,15,1] (fun x7=>[(29,.bv x7)]) (Ze91 x1 x2 x3 x4 x5 x6) r ?_ fun J1=>?_)
 ·intro x7 h;rw [Ze91] at h;refine Vl [4,1,3,1] (fun s=>([],[none,none,some ⟨67,[.iv 0,.iv 0,.nl,.iv 0,.nl,.iv 0,.nl,.nl,.nl,.nl]⟩,some ⟨138,[.iv s.1,.iv s.2.1,.osl 0,.iv s.2.2.1,.osl 1,.iv s.2.2.2.1,Sp5 s.2.2.2.2.1,.osl 2,.osl 3,.osl 4,.nl,.osl 6,.iv s.2.2.2.2.2.1]⟩],[Z5k s.2.2.2.2.2.2.1,Sq4 s.2.2.2.2.2.2.2.1,Z6k s.2.2.2.2.2.2.2.2.1,Sq4 x3.2.2.2.1,Z6k x3.2.2.2.2.1,none,Z8k s.2.2.2.2.2.2.2.2.2])) (Za91 x3) r ?_ fun J2=>?_
  ·rintro ⟨x26,x27,x28,x29,x30,x31,x32,x33,x34,x35⟩ h;rw [Za91] at h;refine Vg 4 ?_;refine Zjj 3 (Ds ?_);refine VR [3] [0,1,2,4,6] 4 7 h Z591 fun _ _ h=>?_;refine Vg 9 ?_;refine Zjj 7 (Ds ?_);refine Zjj 8 (Ds ?_);refine Zjj 9 (Ds ?_);refine Zjj 10 (Ds ?_);refine Zjj 11 (Ds ?_);refine Zjj 12 ?_;exact W
  ·refine MI h (fun h=>?_) fun h=>?_
   ·refine Vg 8 ?_;refine MI h (fun h=>?_) fun h=>?_
    ·refine Vg 3 ?_;refine VR [3] [0,1,5,2,3,4] 4 6 h Zw71 fun _ _ h=>?_;refine Vg 1 ?_;refine Zij 8 0 (Zij 9 1 ?_);exact W
    ·refine Vg 1 ?_;refine Zjj 5 (Ds ?_);refine Zkj 3 11 77 5 ?_;exact W
   ·refine Vg 5 ?_;refine MI h (fun h=>?_) fun h=>?_
    ·refine Vg 11 ?_;refine Vm [3,2,3,3] (fun x11=>([],[(3,12,.iv x11)],[(0,none)],[])) (Zb91 x1 x2 x3 x5 x6) r ?_ fun J3=>?_
     ·intro x11 h;rw [Zb91] at h;refine Vg 5 ?_;refine VR [3] [0,1,5,2,3,4] 4 6 h Zlt fun _ _ h=>?_;refine Vg 6 ?_;refine VR [3] [0,1,5,2,3,4] 4 6 h Zlt fun _ _ h=>?_;refine Vg 1 ?_;refine MI h (fun h=>?_) fun h=>?_
      ·refine Vg 7 ?_;refine VR [3] [0,1,5,2,3,4] 4 6 h Zm51 fun _ _ h=>?_;refine Vg 1 ?_;refine Zjj 5 (Ds ?_);refine Zkj 3 11 77 5 (Ds ?_);refine Zij 10 6 (Zij 7 0 (Zij 9 2 ?_));exact W
      ·refine Vg 1 ?_;refine Zjj 5 (Ds ?_);refine Zkj 3 11 77 5 ?_;exact W
     ·refine MC 52 h (fun h=>?_) fun h=>?_
      ·refine Vg 4 ?_;refine VR [3] [0,1,5,2,3,4] 4 6 h Zlt fun _ _ h=>?_;exact W
      ·refine Vg 4 ?_;refine VR [3] [0,1,5,2,3,4] 4 6 h Zpt fun _ _ h=>?_;exact W
    ·refine Vg 5 ?_;refine MI h (fun h=>?_) fun h=>?_
     ·refine Vg 11 ?_;refine Vm [3,2,3,2] (fun x17=>([],[(3,12,.iv x17)],[(0,none)],[])) (Zd91 x1 x2 x3 x5) r ?_ fun J4=>?_
      ·intro x17 h;rw [Zd91] at h;refine Vg 5 ?_;refine VR [3] [0,1,5,2,3,4] 4 6 h Zlt fun _ _ h=>?_;refine Vg 1 ?_;refine Vm [3,2,3,1] (fun s=>([(107,.bv s.1)],[(3,12,.iv s.2)],[],[])) (Zc91 x1 x2 x3) r ?_ fun J5=>?_
       ·rintro ⟨x22,x23⟩ h;rw [Zc91] at h;refine MI h (fun h=>?_) fun h=>?_
        ·refine Vg 4 ?_;refine VR [3] [0,1,5,2,3,4] 4 6 h Z381 fun _ _ h=>?_;refine Vg 1 ?_;refine Zij 7 6 (Zij 8 0 (Ds ?_));refine Zij 9 1 ?_;exact W
        ·refine Vg 1 ?_;refine Zjj 5 (Ds ?_);refine Zkj 3 11 77 5 ?_;exact W
       ·refine MC 93 h (fun h=>?_) fun h=>?_
        ·refine Vg 9 ?_;have ⟨x19,ex19,h⟩:=Bs h;refine Zee SX.row ex19 trivial rfl rfl rfl (Zne SX.row ex19 trivial rfl rfl rfl (VB h Z9n fun _ _ h=>?_));refine VR [3] [0,1,5,2,3,4] 4 6 h Zlt fun _ _ h=>?_;exact W
        ·exact W
      ·refine MC 83 h (fun h=>?_) fun h=>?_
       ·refine Vg 4 ?_;refine VR [3] [0,1,5,2,3,4] 4 6 h Zlt fun _ _ h=>?_;exact W
       ·refine Vg 4 ?_;refine VR [3] [0,1,5,2,3,4] 4 6 h Zpt fun _ _ h=>?_;exact W
     ·refine Vg 2 ?_;refine VR [3] [0,1,5,2,3,4] 4 6 h Zpt fun _ _ h=>?_;refine Vg 1 ?_;refine Zjj 5 (Ds ?_);refine Zkj 3 11 77 5 ?_;exact W
 ·exact W
end
end NX
end Go.Proofs.YtgamgemlekpepaaGreat
