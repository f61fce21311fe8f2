/-
  The function narthex/H.1.own: its code compiled, a model, and that the code answers as the model. Written by a program of ours (lb.py). No statement of the seat is proved here.
-/
import Derived.Test.YtjemlejoladlcaaGreatL17
set_option maxRecDepth 100000
set_option maxHeartbeats 40000000
namespace Go.Proofs.YtjemlejoladlcaaGreat
namespace NX
open Go
noncomputable section
def Wj (x6:List ML):List NO→Option HL
| x90=>some (HL.mk x90 x6)
def R5 (x45:Int) (x58:List NO) (x59:NO):List SE→Option ((Int×List NO) ⊕ HL)
| x83=>some (.inl (wr (x45+1),x58.set (Int.toNat (x45)) (NO.mk x59.DK (BK.mk x59.BK.LA x83) x59.KN x59.TL x59.AK)))
def Wm (x67:Int):List SE→Option ((Int×List SE) ⊕ ((Int×List NO) ⊕ HL))
| x72=>some (.inl (wr (x67+1),x72))
def R6 (x45:Int) (x58:List NO) (x59:NO) (x60:List SE):(Int×List SE)→Option ((Int×List SE) ⊕ ((Int×List NO) ⊕ HL))
| (x67,x68)=>
 A0 (decide (x67<(ln SE.row x60))) (
 (A4 x68 x67).bind fun x69=>
 (CF x69.NE).bind fun x70=>
 (Wm x67) (x68.set (Int.toNat (x67)) (SE.mk x69.ID x70 x69.SS x69.Age))) (
 Option.map Sum.inr ((R5 x45 x58 x59) x68))
def Wl (x45:Int):List NO→Option ((Int×List NO) ⊕ HL)
| x58=>
 (A4 x58 x45).bind fun x59=>
 (IB x59.BK.SE).bind fun x60=>
 loop (R6 x45 x58 x59 x60) (0,x60)
def Wk (x45:Int):List NO→Option ((Int×List NO) ⊕ HL)
| x51=>
 (A4 x51 x45).bind fun x52=>
 (Et x52.KN).bind fun x53=>
 (CF x52.TL).bind fun x55=>
 (Et x52.AK).bind fun x57=>
 (Wl x45) (x51.set (Int.toNat (x45)) (NO.mk x52.DK x52.BK x53 x55 x57))
def Wn (x6:List ML) (x7:List NO):(Int×List NO)→Option ((Int×List NO) ⊕ HL)
| (x45,x46)=>
 A0 (decide (x45<(ln NO.row x7))) (
 (A4 x46 x45).bind fun x47=>
 (Eu x47.DK.DI.SD).bind fun x48=>
 (CF x47.DK.NE).bind fun x50=>
 (Wk x45) (x46.set (Int.toNat (x45)) (NO.mk (DK.mk (DI.mk x47.DK.DI.ID x47.DK.DI.PH x48) x47.DK.TH x50) x47.BK x47.KN x47.TL x47.AK))) (
 Option.map Sum.inr ((Wj x6) x46))
def Wi:(List ML×List NO)→Option HL
| (x6,x7)=>loop (Wn x6 x7) (0,x7)
def Nh (x1:HL):Option HL:=
 (Lk x1.ML).bind fun x2=>
 (Ll x1.NS).bind fun x4=>
 Wi (x2,x4)
theorem aW {x1 r} (h:Nh x1=some r):FPx 44 [.agg (HL.row x1)] (.agg (HL.row r)):=by
 have ok:=oJ 44 Tryz.f44 [.c 2 (some 2)] 1 109;refine FP ok fun w0 H0=>?_;rw [Nh] at h;refine Vg 6 ?_;refine Vl [2,1] (fun s=>([(3,.ptr 2 0)],[none,some ⟨31,[.nl,.nl]⟩,some ⟨31,[.osl 1,.osl 0]⟩],[Az s.1,EW s.2])) Wi r ?_ fun J1=>?_
 ·rintro ⟨x6,x7⟩ h;rw [Wi] at h;refine Vg 8 ?_;refine Vm [2,2] (fun x90=>([],[],[],[(1,EW x90)])) (Wj x6) r ?_ fun J2=>?_
  ·intro x90 h;rw [Wj] at h;refine Vg 5 ?_;refine Ae 1 (Ds ?_);refine Ae 0 ?_;exact W
  ·refine Vg 1 ?_;refine Mm h [2,2,12,1] (fun s=>([(17,.iv s.1)],[],[],[(1,EW s.2)])) ?_;rintro n1 ⟨x45,x46⟩ y1 h hin1 hout1;rw [Wn] at h;refine Vg 5 ?_;refine MI h (fun h=>?_) fun h=>W;refine Vg 13 ?_;have ⟨x47,ex47,h⟩:=Bs h;refine BR NO.row ex47 trivial rfl rfl rfl (Vg 3 ?_);refine Vm [2,2,1,1,10,2] (fun x51=>([],[],[],[(1,EW x51)])) (Wk x45) y1 ?_ fun J3=>?_
   ·intro x51 h;rw [Wk] at h;refine Vg 1 ?_;refine Vm [2,2,1,1,10,2] (fun x58=>([],[],[],[(1,EW x58)])) (Wl x45) y1 ?_ fun J4=>?_
    ·intro x58 h;rw [Wl] at h;refine Vg 7 ?_;have ⟨x59,ex59,h⟩:=Bs h;refine CA NO.row ex59 trivial rfl rfl rfl ?_;have ⟨x60,ex60,h⟩:=Bs h;refine Ec trivial (TZ ex60) (h:=?_);refine Vg 3 ?_;refine pW NO.row ex59 trivial rfl rfl rfl rfl (Vg 7 ?_);refine pD NO.row ex59 trivial rfl rfl rfl (Vg 3 ?_);refine Vm [2,2,12,2] (fun x83=>([],[],[],[(2,AX x83)])) (R5 x45 x58 x59) y1 ?_ fun J5=>?_
     ·intro x83 h;rw [R5] at h;refine Vg 5 ?_;refine pO 1 2 (f:=NO.row) (NO.mk x59.DK (BK.mk x59.BK.LA x83) x59.KN x59.TL x59.AK) ex59 rfl rfl rfl rfl rfl ?_;exact W
     ·refine Vg 1 ?_;refine Mm h [2,2,1,1,10,2,67,1] (fun s=>([(86,.iv s.1)],[],[],[(2,AX s.2)])) ?_;rintro n2 ⟨x67,x68⟩ y2 h hin2 hout2;rw [R6] at h;refine Vg 5 ?_;refine MI h (fun h=>?_) fun h=>W;refine Vg 8 ?_;refine Vm [2,2,1,1,10,2,67,2] (fun x72=>([],[],[],[(2,AX x72)])) (Wm x67) y2 ?_ fun J6=>?_
      ·intro x72 h;rw [Wm] at h;exact W
      ·refine Ai fun all H=>Ds (GP H 10 9 [4,1,5,1,1,7] [(89,[.oel 1 (Int.toNat (x45)*10) 0,.oel 1 (Int.toNat (x45)*10) 0,.oel 1 (Int.toNat (x45)*10) 5,.oel 1 (Int.toNat (x45)*10) 6]),(1,[.iv x67,.oel 1 (Int.toNat (x45)*10) 0,.oel 1 (Int.toNat (x45)*10) 0,.oel 1 (Int.toNat (x45)*10) 5,.oel 1 (Int.toNat (x45)*10) 6]),(1,[.iv x67])] (Ds ?_));refine Ag 4 10 rfl ?_ ?_
       ·refine Ke H.1 NO.row ex59 rfl trivial rfl rfl rfl (Ds ?_);refine A6 10 rfl (Ke H.1 NO.row ex59 rfl trivial rfl rfl rfl (Ds ?_));have ⟨x69,ex69,h⟩:=Bs h;refine RO ?_;refine RI ?_;refine Gn H 1 5 ?_;refine RO ?_;refine RL ?_;refine RB h Bv fun x70 ex70 h=>?_;refine RO ?_;refine RI ?_;refine Gn H 1 1 ?_;refine Bd [Ab x70] (SE.mk x69.ID x70 x69.SS x69.Age) ?_;refine GD ?_;exact W
       ·refine Ke H.1 NO.row ex59 rfl trivial rfl rfl rfl (Ds ?_);have ⟨x69,ex69,h⟩:=Bs h;refine Ag 4 12 rfl ?_ ?_
        ·refine Ke H.1 NO.row ex59 rfl trivial rfl rfl rfl (Ds ?_);refine RO ?_;refine RI ?_;refine Gn H 1 5 ?_;refine RO ?_;refine RL ?_;refine RB h Bv fun x70 ex70 h=>?_;refine A6 16 rfl (RI ?_);refine Gn H 1 1 ?_;refine Bd [Ab x70] (SE.mk x69.ID x70 x69.SS x69.Age) ?_;refine GD ?_;exact W
        ·refine RI ?_;refine Gn H 1 6 ?_;refine Ag 4 14 rfl ?_ ?_
         ·refine Ke H.1 NO.row ex59 rfl trivial rfl rfl rfl (Ds ?_);refine RO ?_;refine RL ?_;refine RB h Bv fun x70 ex70 h=>?_;refine RO ?_;refine RI ?_;refine Gn H 1 1 ?_;refine Bd [Ab x70] (SE.mk x69.ID x70 x69.SS x69.Age) ?_;refine GD ?_;exact W
         ·refine RL ?_;have ⟨x70,ex70,h⟩:=Bs h;refine Ag 4 15 rfl ?_ ?_
          ·refine Ke H.1 NO.row ex59 rfl trivial rfl rfl rfl (Ds ?_);refine A6 15 rfl (GC H.1 (Bv ex70) (Ds ?_));refine RO ?_;refine RI ?_;refine Gn H 1 1 ?_;refine Bd [Ab x70] (SE.mk x69.ID x70 x69.SS x69.Age) ?_;refine GD ?_;exact W
          ·refine GC H.1 (Bv ex70) (Ds ?_);refine A6 4 rfl (Ke H.1 NO.row ex59 rfl trivial rfl rfl rfl (Ds ?_));refine RO ?_;refine RI ?_;refine Gn H 1 1 ?_;refine Bd [Ab x70] (SE.mk x69.ID x70 x69.SS x69.Age) ?_;refine GD ?_;exact W
    ·refine Ai fun all H=>Ds (GP H 12 15 [6,2,3,2,3,11] [(46,[.oel 1 (Int.toNat (x45)*10) 0,.oel 1 (Int.toNat (x45)*10) 0,.oel 1 (Int.toNat (x45)*10) 0,.oel 1 (Int.toNat (x45)*10) 0,.oel 1 (Int.toNat (x45)*10) 0,.oel 1 (Int.toNat (x45)*10) 7]),(2,[.oel 1 (Int.toNat (x45)*10) 0,.oel 1 (Int.toNat (x45)*10) 0,.oel 1 (Int.toNat (x45)*10) 8]),(2,[.oel 1 (Int.toNat (x45)*10) 0,.oel 1 (Int.toNat (x45)*10) 0,.oel 1 (Int.toNat (x45)*10) 9])] (Ds ?_));have ⟨x52,ex52,h⟩:=Bs h;refine Fj 6 11 16 rfl ?_ ?_ ?_
     ·refine RL ?_;have ⟨x53,ex53,h⟩:=Bs h;refine Fj 7 11 16 rfl ?_ ?_ ?_
      ·refine GC H.1 (CJ ex53) (Ds ?_);refine Ag 11 16 rfl ?_ ?_
       ·refine RL ?_;have ⟨x55,ex55,h⟩:=Bs h;refine Ag 12 16 rfl ?_ ?_
        ·refine GC H.1 (Bv ex55) (Ds ?_);refine RO ?_;refine RL ?_;refine RB h CJ fun x57 ex57 h=>?_;refine Gn H 2 7 ?_;refine Bd [Bb x53] (NO.mk x52.DK x52.BK x53 x52.TL x52.AK) ?_;refine Gn H 2 4 ?_;refine BQ [Ab x55] (NO.mk x52.DK x52.BK x53 x55 x52.AK) ?_;refine Gn H 2 1 ?_;refine BQ [Bb x57] (NO.mk x52.DK x52.BK x53 x55 x57) ?_;refine GD ?_;exact W
        ·refine RL ?_;refine A6 12 rfl (GC H.1 (Bv ex55) (Ds ?_));refine RB h CJ fun x57 ex57 h=>?_;refine Gn H 2 7 ?_;refine Bd [Bb x53] (NO.mk x52.DK x52.BK x53 x52.TL x52.AK) ?_;refine Gn H 2 4 ?_;refine BQ [Ab x55] (NO.mk x52.DK x52.BK x53 x55 x52.AK) ?_;refine Gn H 2 1 ?_;refine BQ [Bb x57] (NO.mk x52.DK x52.BK x53 x55 x57) ?_;refine GD ?_;exact W
       ·refine RL ?_;refine RO ?_;refine RL ?_;refine RB h Bv fun x55 ex55 h=>?_;refine RB h CJ fun x56 ex56 h=>?_;refine Gn H 2 7 ?_;refine Bd [Bb x53] (NO.mk x52.DK x52.BK x53 x52.TL x52.AK) ?_;refine Gn H 2 4 ?_;refine BQ [Ab x55] (NO.mk x52.DK x52.BK x53 x55 x52.AK) ?_;refine Gn H 2 1 ?_;refine BQ [Bb x56] (NO.mk x52.DK x52.BK x53 x55 x56) ?_;refine GD ?_;exact W
      ·refine RL ?_;refine Ag 7 16 rfl ?_ ?_
       ·refine GC H.1 (CJ ex53) (Ds ?_);have ⟨x55,ex55,h⟩:=Bs h;refine Ag 12 16 rfl ?_ ?_
        ·refine GC H.1 (Bv ex55) (Ds ?_);refine RO ?_;refine RL ?_;refine RB h CJ fun x57 ex57 h=>?_;refine Gn H 2 7 ?_;refine Bd [Bb x53] (NO.mk x52.DK x52.BK x53 x52.TL x52.AK) ?_;refine Gn H 2 4 ?_;refine BQ [Ab x55] (NO.mk x52.DK x52.BK x53 x55 x52.AK) ?_;refine Gn H 2 1 ?_;refine BQ [Bb x57] (NO.mk x52.DK x52.BK x53 x55 x57) ?_;refine GD ?_;exact W
        ·refine RL ?_;refine A6 12 rfl (GC H.1 (Bv ex55) (Ds ?_));refine RB h CJ fun x57 ex57 h=>?_;refine Gn H 2 7 ?_;refine Bd [Bb x53] (NO.mk x52.DK x52.BK x53 x52.TL x52.AK) ?_;refine Gn H 2 4 ?_;refine BQ [Ab x55] (NO.mk x52.DK x52.BK x53 x55 x52.AK) ?_;refine Gn H 2 1 ?_;refine BQ [Bb x57] (NO.mk x52.DK x52.BK x53 x55 x57) ?_;refine GD ?_;exact W
       ·refine RL ?_;refine A6 7 rfl (GC H.1 (CJ ex53) (Ds ?_));refine RB h Bv fun x55 ex55 h=>?_;refine RB h CJ fun x56 ex56 h=>?_;refine GN H 2 7 (Ds ?_);refine An (Bd [Bb x53] (NO.mk x52.DK x52.BK x53 x52.TL x52.AK) ?_);refine Gn H 2 4 ?_;refine BQ [Ab x55] (NO.mk x52.DK x52.BK x53 x55 x52.AK) ?_;refine Gn H 2 1 ?_;refine BQ [Bb x56] (NO.mk x52.DK x52.BK x53 x55 x56) ?_;refine GD ?_;exact W
      ·refine RL ?_;refine Ag 7 11 rfl ?_ ?_
       ·refine GC H.1 (CJ ex53) (Ds ?_);refine RO ?_;refine RL ?_;refine RB h Bv fun x55 ex55 h=>?_;refine RB h CJ fun x56 ex56 h=>?_;refine GN H 2 7 (Ds ?_);refine An (Bd [Bb x53] (NO.mk x52.DK x52.BK x53 x52.TL x52.AK) ?_);refine Gn H 2 4 ?_;refine BQ [Ab x55] (NO.mk x52.DK x52.BK x53 x55 x52.AK) ?_;refine Gn H 2 1 ?_;refine BQ [Bb x56] (NO.mk x52.DK x52.BK x53 x55 x56) ?_;refine GD ?_;exact W
       ·refine RL ?_;refine A6 7 rfl (GC H.1 (CJ ex53) (Ds ?_));refine RB h Bv fun x55 ex55 h=>?_;refine RB h CJ fun x56 ex56 h=>?_;refine GN H 2 7 (Ds ?_);refine An (Bd [Bb x53] (NO.mk x52.DK x52.BK x53 x52.TL x52.AK) ?_);refine Gn H 2 4 ?_;refine BQ [Ab x55] (NO.mk x52.DK x52.BK x53 x55 x52.AK) ?_;refine Gn H 2 1 ?_;refine BQ [Bb x56] (NO.mk x52.DK x52.BK x53 x55 x56) ?_;refine GD ?_;exact W
     ·refine RL ?_;refine Ag 6 16 rfl ?_ ?_
      ·refine RL ?_;have ⟨x53,ex53,h⟩:=Bs h;refine Ag 7 16 rfl ?_ ?_
       ·refine GC H.1 (CJ ex53) (Ds ?_);have ⟨x55,ex55,h⟩:=Bs h;refine Ag 12 16 rfl ?_ ?_
        ·refine GC H.1 (Bv ex55) (Ds ?_);refine RO ?_;refine RL ?_;refine RB h CJ fun x57 ex57 h=>?_;refine Gn H 2 7 ?_;refine Bd [Bb x53] (NO.mk x52.DK x52.BK x53 x52.TL x52.AK) ?_;refine Gn H 2 4 ?_;refine BQ [Ab x55] (NO.mk x52.DK x52.BK x53 x55 x52.AK) ?_;refine Gn H 2 1 ?_;refine BQ [Bb x57] (NO.mk x52.DK x52.BK x53 x55 x57) ?_;refine GD ?_;exact W
        ·refine RL ?_;refine A6 12 rfl (GC H.1 (Bv ex55) (Ds ?_));refine RB h CJ fun x57 _ h=>?_;refine Gn H 2 7 ?_;refine Bd [Bb x53] (NO.mk x52.DK x52.BK x53 x52.TL x52.AK) ?_;refine Gn H 2 4 ?_;refine BQ [Ab x55] (NO.mk x52.DK x52.BK x53 x55 x52.AK) ?_;refine Gn H 2 1 ?_;refine BQ [Bb x57] (NO.mk x52.DK x52.BK x53 x55 x57) ?_;refine GD ?_;exact W
       ·refine RL ?_;refine A6 7 rfl (GC H.1 (CJ ex53) (Ds ?_));refine RB h Bv fun x55 ex55 h=>?_;refine RB h CJ fun x56 ex56 h=>?_;refine GN H 2 7 (Ds ?_);refine An (Bd [Bb x53] (NO.mk x52.DK x52.BK x53 x52.TL x52.AK) ?_);refine Gn H 2 4 ?_;refine BQ [Ab x55] (NO.mk x52.DK x52.BK x53 x55 x52.AK) ?_;refine Gn H 2 1 ?_;refine BQ [Bb x56] (NO.mk x52.DK x52.BK x53 x55 x56) ?_;refine GD ?_;exact W
      ·refine RL ?_;refine RO ?_;refine RL ?_;refine RB h CJ fun x53 ex53 h=>?_;refine RB h Bv fun x54 ex54 h=>?_;refine RB h CJ fun x55 ex55 h=>?_;refine Gn H 2 7 ?_;refine Bd [Bb x53] (NO.mk x52.DK x52.BK x53 x52.TL x52.AK) ?_;refine Gn H 2 4 ?_;refine BQ [Ab x54] (NO.mk x52.DK x52.BK x53 x54 x52.AK) ?_;refine Gn H 2 1 ?_;refine BQ [Bb x55] (NO.mk x52.DK x52.BK x53 x54 x55) ?_;refine GD ?_;exact W
     ·refine RL ?_;refine Ag 6 11 rfl ?_ ?_
      ·refine RL ?_;have ⟨x53,ex53,h⟩:=Bs h;refine Ag 7 11 rfl ?_ ?_
       ·refine GC H.1 (CJ ex53) (Ds ?_);refine RO ?_;refine RL ?_;refine RB h Bv fun x55 ex55 h=>?_;refine RB h CJ fun x56 ex56 h=>?_;refine GN H 2 7 (Ds ?_);refine An (Bd [Bb x53] (NO.mk x52.DK x52.BK x53 x52.TL x52.AK) ?_);refine Gn H 2 4 ?_;refine BQ [Ab x55] (NO.mk x52.DK x52.BK x53 x55 x52.AK) ?_;refine Gn H 2 1 ?_;refine BQ [Bb x56] (NO.mk x52.DK x52.BK x53 x55 x56) ?_;refine GD ?_;exact W
       ·refine RL ?_;refine A6 7 rfl (GC H.1 (CJ ex53) (Ds ?_));refine RB h Bv fun x55 ex55 h=>?_;refine RB h CJ fun x56 _ h=>?_;refine GN H 2 7 (Ds ?_);refine An (Bd [Bb x53] (NO.mk x52.DK x52.BK x53 x52.TL x52.AK) ?_);refine Gn H 2 4 ?_;refine BQ [Ab x55] (NO.mk x52.DK x52.BK x53 x55 x52.AK) ?_;refine Gn H 2 1 ?_;refine BQ [Bb x56] (NO.mk x52.DK x52.BK x53 x55 x56) ?_;refine GD ?_;exact W
      ·refine RL ?_;refine RO ?_;refine RL ?_;refine RB h CJ fun x53 _ h=>?_;refine RB h Bv fun x54 _ h=>?_;refine RB h CJ fun x55 _ h=>?_;refine Gn H 2 7 ?_;refine Bd [Bb x53] (NO.mk x52.DK x52.BK x53 x52.TL x52.AK) ?_;refine Gn H 2 4 ?_;refine BQ [Ab x54] (NO.mk x52.DK x52.BK x53 x54 x52.AK) ?_;refine Gn H 2 1 ?_;refine BQ [Bb x55] (NO.mk x52.DK x52.BK x53 x54 x55) ?_;refine GD ?_;exact W
   ·refine Ai fun all H=>Ds (GP H 11 13 [7,2,4,11] [(24,[.oel 1 (Int.toNat (x45)*10) 0,.oel 1 (Int.toNat (x45)*10) 0,.oel 1 (Int.toNat (x45)*10) 0,.oel 1 (Int.toNat (x45)*10) 0,.oel 1 (Int.toNat (x45)*10) 0,.oel 1 (Int.toNat (x45)*10) 0,.oel 1 (Int.toNat (x45)*10) 2]),(2,[.oel 1 (Int.toNat (x45)*10) 0,.oel 1 (Int.toNat (x45)*10) 0,.oel 1 (Int.toNat (x45)*10) 0,.oel 1 (Int.toNat (x45)*10) 4])] (Ds ?_));refine Ag 7 13 rfl ?_ ?_
    ·refine RL ?_;have ⟨x48,ex48,h⟩:=Bs h;refine Ag 8 13 rfl ?_ ?_
     ·refine GC H.1 (bj ex48) (Ds ?_);refine RO ?_;refine RL ?_;refine RB h Bv fun x50 ex50 h=>?_;refine GP H 4 5 [19,5] [(39,[.oel 1 (Int.toNat (x45)*10) 0,.oel 1 (Int.toNat (x45)*10) 0,.oel 1 (Int.toNat (x45)*10) 0,.oel 1 (Int.toNat (x45)*10) 2])] (Ds ?_);refine Bd [CU x48] (NO.mk (DK.mk (DI.mk x47.DK.DI.ID x47.DK.DI.PH x48) x47.DK.TH x47.DK.NE) x47.BK x47.KN x47.TL x47.AK) ?_;refine GP H 3 1 [23,1] [(43,[.oel 1 (Int.toNat (x45)*10) 0,.oel 1 (Int.toNat (x45)*10) 0,.oel 1 (Int.toNat (x45)*10) 4])] (Ds ?_);refine BQ [Ab x50] (NO.mk (DK.mk (DI.mk x47.DK.DI.ID x47.DK.DI.PH x48) x47.DK.TH x50) x47.BK x47.KN x47.TL x47.AK) ?_;refine GD ?_;exact W
     ·refine RL ?_;refine A6 8 rfl (GC H.1 (bj ex48) (Ds ?_));refine RB h Bv fun x50 _ h=>?_;refine GP H 4 5 [19,5] [(39,[.oel 1 (Int.toNat (x45)*10) 0,.oel 1 (Int.toNat (x45)*10) 0,.oel 1 (Int.toNat (x45)*10) 0,.oel 1 (Int.toNat (x45)*10) 2])] (Ds ?_);refine Bd [CU x48] (NO.mk (DK.mk (DI.mk x47.DK.DI.ID x47.DK.DI.PH x48) x47.DK.TH x47.DK.NE) x47.BK x47.KN x47.TL x47.AK) ?_;refine GP H 3 1 [23,1] [(43,[.oel 1 (Int.toNat (x45)*10) 0,.oel 1 (Int.toNat (x45)*10) 0,.oel 1 (Int.toNat (x45)*10) 4])] (Ds ?_);refine BQ [Ab x50] (NO.mk (DK.mk (DI.mk x47.DK.DI.ID x47.DK.DI.PH x48) x47.DK.TH x50) x47.BK x47.KN x47.TL x47.AK) ?_;refine GD ?_;exact W
    ·refine RL ?_;refine RO ?_;refine RL ?_;refine RB h bj fun x48 _ h=>?_;refine RB h Bv fun x49 _ h=>?_;refine GP H 4 5 [19,5] [(39,[.oel 1 (Int.toNat (x45)*10) 0,.oel 1 (Int.toNat (x45)*10) 0,.oel 1 (Int.toNat (x45)*10) 0,.oel 1 (Int.toNat (x45)*10) 2])] (Ds ?_);refine Bd [CU x48] (NO.mk (DK.mk (DI.mk x47.DK.DI.ID x47.DK.DI.PH x48) x47.DK.TH x47.DK.NE) x47.BK x47.KN x47.TL x47.AK) ?_;refine GP H 3 1 [23,1] [(43,[.oel 1 (Int.toNat (x45)*10) 0,.oel 1 (Int.toNat (x45)*10) 0,.oel 1 (Int.toNat (x45)*10) 4])] (Ds ?_);refine BQ [Ab x49] (NO.mk (DK.mk (DI.mk x47.DK.DI.ID x47.DK.DI.PH x48) x47.DK.TH x49) x47.BK x47.KN x47.TL x47.AK) ?_;refine GD ?_;exact W
 ·refine Ai fun all H=>?_;refine Gn H 4 5 ?_;have ⟨x2,ex2,h⟩:=Bs h;refine Ag 2 7 rfl ?_ ?_
  ·refine AT H.1 rfl trivial (Yq ex2) (h:=Ds ?_);have ⟨x4,ex4,h⟩:=Bs h;refine Ag 5 7 rfl ?_ ?_
   ·refine AT H.1 rfl trivial (FC ex4) (h:=?_);refine Gn H 1 2 ?_;refine R1 ?_;refine R1 ?_;refine GD ?_;exact W
   ·refine RV ?_;refine A6 5 rfl (AT H.1 rfl trivial (FC ex4) (h:=?_));refine Gn H 1 1 ?_;refine R1 ?_;refine GD ?_;exact W
  ·refine RV ?_;refine A6 2 rfl (AT H.1 rfl trivial (Yq ex2) (h:=Ds ?_));refine A6 5 rfl ?_;have ⟨x4,ex4,h⟩:=Bs h;refine AT H.1 rfl trivial (FC ex4) (h:=?_);refine Gn H 1 1 ?_;refine R1 ?_;refine GD ?_;exact W
def VZ (x2:List ML):List DK→Option Bar
| x22=>some (Bar.mk x22 x2)
def W0 (x1:HL) (x2:List ML):(Int×List DK)→Option ((Int×List DK) ⊕ Bar)
| (x9,x10)=>
 A0 (decide (x9<(ln NO.row x1.NS))) (
 (A4 x1.NS x9).bind fun x11=>
 (Eu x11.DK.DI.SD).bind fun x12=>
 (CF x11.DK.NE).bind fun x13=>
 (AI 72 x10 ([DK.mk (DI.mk x11.DK.DI.ID x11.DK.DI.PH x12) x11.DK.TH x13])).bind fun x14=>
 some (.inl (wr (x9+1),x14))) (
 Option.map Sum.inr ((VZ x2) x10))
def Jy (x1:HL):Option Bar:=
 (Lk x1.ML).bind fun x2=>
 loop (W0 x1 x2) (0,([]:List DK))
theorem aV {x1 r} (h:Jy x1=some r):FPx 21 [.agg (HL.row x1)] (.agg (Bar.row r)):=by
 have ok:=oJ 21 Tryz.f21 [.c 2 (some 2)] 1 37;refine FP ok fun w0 H0=>?_;rw [Jy] at h;refine Vg 9 ?_;have ⟨x2,ex2,h⟩:=Bs h;refine Ec trivial (Yq ex2) (h:=?_);refine Vg 12 ?_;refine Vl [2,2] (fun x22=>([],[none,some ⟨71,[.nl,.nl]⟩,some ⟨71,[.osl 1,.osl 0]⟩],[Az x2,Uy x22])) (VZ x2) r ?_ fun J1=>?_
 ·intro x22 h;rw [VZ] at h;refine Vg 5 ?_;refine Ae 1 (Ds ?_);refine Ae 0 ?_;exact W
 ·refine Vg 1 ?_;refine AE 2 0 42 5 (Ds ?_);refine Mm h [2,2,8,2] (fun s=>([(14,.iv s.1)],[],[(0,none)],[(1,Uy s.2)])) ?_;rintro n1 ⟨x9,x10⟩ y1 h hin1 hout1;rw [W0] at h;refine Vg 5 ?_;refine MI h (fun h=>?_) fun h=>W;refine Vg 5 ?_;have ⟨x11,ex11,h⟩:=Bs h;refine AZ NO.row ex11 trivial rfl rfl rfl (Vg 12 ?_);refine Ai fun all H=>?_;refine Gn H 5 7 ?_;refine A6 3 rfl ?_;have ⟨x12,ex12,h⟩:=Bs h;refine AT H.1 rfl trivial (OJ ex12) (h:=?_);refine Gn H 2 4 ?_;refine A6 6 rfl ?_;have ⟨x13,ex13,h⟩:=Bs h;refine AT H.1 rfl trivial (Eg ex13) (h:=Ds ?_);refine R1 ?_;refine Gn H 1 1 ?_;refine R1 ?_;refine GD (Vg 4 ?_);refine Ae 2 (Ds ?_);refine Ae 3 (Ds ?_);refine Ah 1 (Ds ?_);refine An ?_;have ⟨x14,ex14,h⟩:=Bs h;refine BP DK.row ex14 trivial rfl rfl rfl (Vg 8 ?_);refine A7 5 1 ?_;exact W
def cm:List Int→Option (List Int)
| x31=>some x31
def O7 (x1:(List (List Int))):(Int×List Int)→Option ((Int×List Int) ⊕ (List Int))
| (x21,x22)=>
 A0 (decide (x21<(ln (Ci 1 Ad) x1))) (
 (A4 x1 x21).bind fun x23=>
 (AI 8 x22 x23).bind fun x24=>
 some (.inl (wr (x21+1),x24))) (
 Option.map Sum.inr (cm x22))
def Xu (x1:(List (List Int))):Int→Option (List Int)
| x15=>
 (Tv x15).bind fun x16=>
 loop (O7 x1) (0,x16)
def Tc (x5 x6:Int) (x7:List Int):Unit→Option ((Int×Int) ⊕ (List Int))
| ()=>some (.inl (wr (x5+(ln Ad x7)),wr (x6+1)))
def Te (x1:(List (List Int))):(Int×Int)→Option ((Int×Int) ⊕ (List Int))
| (x5,x6)=>
 A0 (decide (x6<(ln (Ci 1 Ad) x1))) (
 (A4 x1 x6).bind fun x7=>
 A0 (decide ((wr (x5+(ln Ad x7)))<0)) (
 none) (
 (Tc x5 x6 x7) ())) (
 Option.map Sum.inr ((Xu x1) x5))
def Tb (x1:(List (List Int))):Option (List Int):=loop (Te x1) (0,0)
theorem xk {x1 r} (h:Tb x1=some r):FOx 228 [.sl 1 (List.map (Ci 1 Ad) x1)] 3 1 (List.map Ad r):=by
 have ok:=oJ 228 Tryz.f228 [.t 2] 1 35;refine EU ok rfl fun w0 H0=>?_;rw [Tb] at h;refine Vg 15 ?_;refine Vk [0,1] (fun x15=>[(3,.iv x15)]) (Xu x1) r ?_ fun J1=>?_
 ·intro x15 h;rw [Xu] at h;refine Vg 3 ?_;have ⟨x16,ex16,h⟩:=Bs h;refine IZ [] [] trivial (Z1O ex16) (h:=?_);refine Vg 9 ?_;refine Vl [6,1] (fun x31=>([],[],[A5 x31])) cm r ?_ fun J3=>?_
  ·intro x31 h;rw [cm] at h;refine Vg 5 ?_;exact Db Ad ok h rfl rfl
  ·refine Vg 1 ?_;refine Ml h [6,1,18,2] (fun s=>([(27,.iv s.1)],[],[A5 s.2])) ?_;rintro n1 ⟨x21,x22⟩ y1 h hin1 hout1;rw [O7] at h;refine Vg 5 ?_;refine MI h (fun h=>?_) fun h=>W;refine Vg 5 ?_;have ⟨x23,ex23,h⟩:=Bs h;refine AZ (Ci 1 Ad) ex23 trivial rfl rfl rfl (Vg 6 ?_);have ⟨x24,ex24,h⟩:=Bs h;refine BP Ad ex24 trivial rfl rfl rfl (Vg 7 ?_);refine A7 1 0 ?_;exact W
 ·refine Vg 1 ?_;refine Mk h [0,1,8,2] (fun s=>[(3,.iv s.1),(11,.iv s.2)]) ?_;rintro n1 ⟨x5,x6⟩ y1 h hin1 hout1;rw [Te] at h;refine Vg 5 ?_;refine MI h (fun h=>?_) fun h=>W;refine Vg 5 ?_;have ⟨x7,ex7,h⟩:=Bs h;refine AZ (Ci 1 Ad) ex7 trivial rfl rfl rfl (Vg 16 ?_);refine Vk [0,1,2,1,5,3] (fun _=>[]) (Tc x5 x6 x7) y1 ?_ fun J2=>?_
  ·rintro ⟨⟩ h;rw [Tc] at h;exact W
  ·refine MI h (fun h=>?_) fun h=>W;cases h
def G6 (x1:List Int) (x2:Int):Option Bool:=
 (Ln x1 x2).bind fun x3=>
 some x3
theorem Gq {x1 x2 r} (h:G6 x1 x2=some r):FPx 132 [Ab x1,.iv x2] (.bv r):=by have ok:=oJ 132 Tryz.f132 [.t 4] 2 6;refine FP ok fun w0 H0=>?_;rw [G6] at h;refine Vg 8 ?_;refine VB h bl fun _ _ h=>?_;exact W
def Xy:(Int×List Int)→Option (List Int)
| (x25,x26)=>
 (DE (ln Ad x26) x25 (ln Ad x26)).bind fun _=>
 (H9 x26 (Int.toNat (x25)) (Int.toNat (ln Ad x26)-Int.toNat (x25)) 0).bind fun x28=>
 (Cj x28 0 x25).bind fun x29=>
 some x29
def Oh (x12:Int):(Int×List Int)→Option ((Int×Int×List Int) ⊕ (List Int))
| (x17,x18)=>some (.inl (x17,wr (x12+1),x18))
def Tm (p0:(Int→Option Bool)):(Int×Int×List Int)→Option ((Int×Int×List Int) ⊕ (List Int))
| (x11,x12,x13)=>
 A0 (decide (x12<(ln Ad x13))) (
 (A4 x13 x12).bind fun x14=>
 (p0 x14).bind fun x15=>
 A0 (!x15) (
 (A4 x13 x11).bind fun _=>
 (Oh x12) (wr (x11+1),x13.set (Int.toNat (x11)) x14)) (
 (Oh x12) (x11,x13))) (
 Option.map Sum.inr (Xy (x11,x13)))
def Tl (x1:List Int) (p0:(Int→Option Bool)):Option (List Int):=
 (Ol x1 p0).bind fun x2=>
 A0 (decide (x2=((-1)))) (
 some x1) (
 loop (Tm p0) (x2,wr (x2+1),x1))
theorem Z1M {x1 g0 caps0 p0 r} (h:Tl x1 p0=some r) (hc0:CloOK Tryz.prog g0 caps0 (fun z=>[.iv z]) p0 (fun z=>.bv z)):FTx 242 [.osl 0,.clo g0 caps0] [] [A5 x1] (.osl 1) [] [none,A5 r]:=by
 refine Ft cM fun w0 M0=>?_;rw [Tl] at h;refine Vg 8 ?_;refine VN (LR.slice 0 rfl) h (fun e=>iW e hc0) (fun _ _ h=>?_) (hp:=(by first | rfl | simp [go_sem,hc0.pu])) (ha:=(by first | exact Am _ | simp [go_sem,Um _ _ _ hc0.pu]));refine Vg 8 ?_;refine MI h (fun h=>?_) fun h=>?_
 ·refine Vg 5 ?_;refine As 3 1 (Ds ?_);refine A7 0 1 (Ds ?_);(try rw [P1 _ _ _ hc0.pu]);exact Td cM h
 ·refine Vg 8 ?_;refine Vl [0,1] (fun s=>([(5,.iv s.1)],[],[A5 s.2])) Xy r ?_ fun J1=>?_
  ·rintro ⟨x25,x26⟩ h;rw [Xy] at h;refine Vg 4 ?_;have ⟨x27,ex27,h⟩:=Bs h;refine ZF Ad ex27 trivial rfl rfl rfl rfl ?_;have ⟨x28,ex28,h⟩:=Bs h;refine UA Ad ex28 trivial rfl rfl (by first | exact Am _ | simp [go_sem]) (by first | rfl | simp [go_sem]) rfl rfl (Vg 5 ?_);have ⟨x29,ex29,h⟩:=Bs h;refine Pt Ad ex29 trivial rfl rfl rfl rfl (Vg 2 ?_);exact Td cM h
  ·refine Vg 1 ?_;refine Ml h [0,2] (fun s=>([(5,.iv s.1),(6,.iv s.2.1)],[],[A5 s.2.2])) ?_ (hok:=by rintro ⟨x11,x12,x13⟩;first | rfl | (simp [go_sem];done) | simp [go_sem,Ax _ hc0.pu]);rintro n1 ⟨x11,x12,x13⟩ y1 h hin1 hout1;rw [Tm] at h;refine Vg 8 ?_;refine MI h (fun h=>?_) fun h=>?_
   ·refine Vg 7 ?_;have ⟨x14,ex14,h⟩:=Bs h;refine BR Ad ex14 trivial rfl rfl rfl (CA Ad ex14 trivial rfl rfl rfl (Vg 6 ?_));have ⟨x15,ex15,h⟩:=Bs h;refine Dy trivial rfl hc0 (x:=x14) ex15 (by first | exact Am _ | simp [go_sem]) (by first | rfl | simp [go_sem,hc0.pu]) (Vg 2 ?_);refine Vl [0,2,4,1] (fun s=>([(5,.iv s.1)],[],[A5 s.2])) (Oh x12) y1 ?_ fun J2=>?_
    ·rintro ⟨x17,x18⟩ h;rw [Oh] at h;refine Vg 6 ?_;exact Da h hin1 (hok:=by first | rfl | simp [go_sem,Ax _ hc0.pu])
    ·refine MI h (fun h=>?_) fun h=>?_
     ·refine Vg 5 ?_;have ⟨x16,ex16,h⟩:=Bs h;refine BR Ad ex16 trivial rfl rfl rfl (Dz [.iv x14] Ad (y':=x14) ex16 trivial rfl rfl rfl (by first | exact Am _ | simp [go_sem]) rfl rfl rfl rfl (Vg 6 ?_));exact AQ J2 h (hok:=by first | rfl | simp [go_sem,Ax _ hc0.pu])
     ·refine Vg 1 ?_;exact AQ J2 h (hok:=by first | rfl | simp [go_sem,Ax _ hc0.pu])
   ·refine Vg 1 ?_;exact AQ J1 (BY h hout1) (hok:=by first | rfl | simp [go_sem])
def ce:List SE→Option (List SE)
| x35=>some x35
def Xo (x2:List SE):(Int×List SE)→Option ((Int×List SE) ⊕ (List SE))
| (x8,x9)=>
 A0 (decide (x8<(ln SE.row x2))) (
 (A4 x9 x8).bind fun x10=>
 (CF x10.NE).bind fun x11=>
 some (.inl (wr (x8+1),x9.set (Int.toNat (x8)) (SE.mk x10.ID x11 x10.SS x10.Age)))) (
 Option.map Sum.inr (ce x9))
def Iz (x1:BK):Option (List SE):=
 (IB x1.SE).bind fun x2=>
 loop (Xo x2) (0,x2)
theorem Up {x1 r} (h:Iz x1=some r):FTx 188 [.agg (BK.row x1)] [] [] (.agg [.iv x1.LA,.osl 0]) [] [AX r]:=by
 refine Ft kl fun w0 M0=>?_;have ok:=kl;rw [Iz] at h;refine Vg 9 ?_;have ⟨x2,ex2,h⟩:=Bs h;refine Ec trivial (TZ ex2) (h:=?_);refine Vg 11 ?_;refine Vm [1,2] (fun x35=>([],[],[],[(0,AX x35)])) ce r ?_ fun J1=>?_
 ·intro x35 h;rw [ce] at h;exact W
 ·refine Vg 1 ?_;refine Mm h [1,2,7,1] (fun s=>([(11,.iv s.1)],[],[],[(0,AX s.2)])) ?_;rintro n1 ⟨x8,x9⟩ y1 h hin1 hout1;rw [Xo] at h;refine Vg 5 ?_;refine MI h (fun h=>?_) fun h=>W;refine Vg 8 ?_;refine Ai fun all H=>?_;refine Gn H 4 9 ?_;refine Ag 1 4 rfl ?_ ?_
  ·refine RV ?_;refine R1 ?_;have ⟨x10,ex10,h⟩:=Bs h;refine RO ?_;refine RI ?_;refine Gn H 1 5 ?_;refine RO ?_;refine RL ?_;refine RB h Bv fun x11 ex11 h=>?_;refine RO ?_;refine RI ?_;refine Gn H 1 1 ?_;refine Bd [Ab x11] (SE.mk x10.ID x11 x10.SS x10.Age) ?_;refine GD ?_;exact W
  ·refine RV ?_;have ⟨x10,ex10,h⟩:=Bs h;refine Ag 1 6 rfl ?_ ?_
   ·refine RV ?_;refine RO ?_;refine RI ?_;refine Gn H 1 5 ?_;refine RO ?_;refine RL ?_;refine RB h Bv fun x11 ex11 h=>?_;refine A6 10 rfl (GI H.1 SE.row ex10 (Ds ?_));refine Gn H 1 1 ?_;refine Bd [Ab x11] (SE.mk x10.ID x11 x10.SS x10.Age) ?_;refine GD ?_;exact W
   ·refine RI ?_;refine Gn H 1 6 ?_;refine Ag 1 8 rfl ?_ ?_
    ·refine RV ?_;refine RO ?_;refine RL ?_;refine RB h Bv fun x11 ex11 h=>?_;refine RO ?_;refine RI ?_;refine Gn H 1 1 ?_;refine Bd [Ab x11] (SE.mk x10.ID x11 x10.SS x10.Age) ?_;refine GD ?_;exact W
    ·refine RL ?_;have ⟨x11,ex11,h⟩:=Bs h;refine Ag 1 9 rfl ?_ ?_
     ·refine RV ?_;refine A6 9 rfl (GC H.1 (Bv ex11) (Ds ?_));refine RO ?_;refine RI ?_;refine Gn H 1 1 ?_;refine Bd [Ab x11] (SE.mk x10.ID x11 x10.SS x10.Age) ?_;refine GD ?_;exact W
     ·refine GC H.1 (Bv ex11) (Ds ?_);refine R1 ?_;refine RO ?_;refine RI ?_;refine Gn H 1 1 ?_;refine Bd [Ab x11] (SE.mk x10.ID x11 x10.SS x10.Age) ?_;refine GD ?_;exact W
def SW:Bool→Option Bool
| x3=>some x3
def O2 (x1:List Int):Option Bool:=
 A0 (decide (64<(ln Ad x1))) (
 SW true) (
 (G7 x1 ((fun z=>Xn z))).bind fun x2=>
 SW x2)
theorem iL {x1 r} (h:O2 x1=some r):FPx 163 [Ab x1] (.bv r):=by
 have ok:=oJ 163 Tryz.f163 [.t 2] 1 9;refine FP ok fun w0 H0=>?_;rw [O2] at h;refine Vg 10 ?_;refine Vk [] (fun x3=>[(2,.bv x3)]) SW r ?_ fun J1=>?_
 ·intro x3 h;rw [SW] at h;exact W
 ·refine MC 6 h (fun h=>W) fun h=>?_;refine Vg 1 ?_;refine VB h (fun e=>Ms e ⟨by kernel_rfl,rfl,fun z r hz=>vN hz⟩) fun _ _ h=>?_;exact W
def cq:Int→Option (Int×Int)
| x19=>some ((-1),x19)
def XZ (x1:List SX) (x3:DI):(Int×Int)→Option ((Int×Int) ⊕ (Int×Int))
| (x8,x9)=>
 A0 (decide (x8<(ln SX.row x1))) (
 (A4 x1 x8).bind fun x10=>
 (QC x10 x9 x3).bind fun x11=>
 A0 x11 (
 Option.map Sum.inr (some (x8,x10.PE))) (
 some (.inl (wr (x8+1),x10.PE)))) (
 Option.map Sum.inr (cq x9))
def TC (x1:List SX) (x2:Int) (x3:DI):Option (Int×Int):=loop (XZ x1 x3) (0,x2)
theorem Z1R {x1 x2 x3 r} (h:TC x1 x2 x3=some r):FTx 100 [CU x1,.clo 216 [.ptr 0 0,.ptr 1 0]] [some ⟨3,[.iv x2]⟩,some ⟨38,DI.row x3⟩] [] (.iv r.1) [some ⟨3,[.iv r.2]⟩,some ⟨38,DI.row x3⟩] []:=by
 refine Ft U1 fun w0 M0=>?_;have ok:=U1;rw [TC] at h;refine Vg 11 ?_;refine Vm [] (fun x19=>([],[(0,0,.iv x19)],[],[])) cq r ?_ fun J1=>?_
 ·intro x19 h;rw [cq] at h;exact W
 ·refine Vg 1 ?_;refine Mm h [0,2,5,1] (fun s=>([(8,.iv s.1)],[(0,0,.iv s.2)],[],[])) ?_;rintro n1 ⟨x8,x9⟩ y1 h hin1 hout1;rw [XZ] at h;refine Vg 5 ?_;refine MI h (fun h=>?_) fun h=>W;refine Vg 13 ?_;have ⟨x10,ex10,h⟩:=Bs h;refine AZ SX.row ex10 trivial rfl rfl rfl (Vg 1 ?_);have ⟨x11,ex11,h⟩:=Bs h;refine J0 [true,true] [] trivial rfl (Z1g ex11) (by kernel_rfl) (h:=?_);exact W
def QN (x1:Int) (x2:DK):Option Bool:=
 (IC x2.DI.SD ((fun z=>VJ z x1))).bind fun x3=>
 some (!x3)
theorem uS {x1 x2 r} (h:QN x1 x2=some r):FPx 159 [.iv x1,.elt (DK.row x2) 0] (.bv r):=by have ok:=oJ 159 Tryz.f159 [.t 3] 2 8;refine FP ok fun w0 H0=>?_;rw [QN] at h;refine Vg 11 ?_;refine VN (LR.block 0 rfl rfl) h (fun e=>PZ e ⟨by kernel_rfl,rfl,fun z r hz=>uT hz⟩) fun _ _ h=>?_;exact W
def N7:Bool→Option Bool
| x5=>some x5
def N6 (x1 x2:DK):Option Bool:=
 (VI x1.DI x2.DI).bind fun x3=>
 A0 x3 (
 A0 (decide (x1.TH=x2.TH)) (
 (JY x1.NE x2.NE).bind fun x4=>
 N7 x4) (
 N7 false)) (
 N7 false)
theorem aU {x1 x2 r} (h:N6 x1 x2=some r):FPx 142 [.agg (DK.row x1),.agg (DK.row x2)] (.bv r):=by
 have ok:=oJ 142 Tryz.f142 [.t 4] 2 22;refine FP ok fun w0 H0=>?_;rw [N6] at h;refine Vg 12 ?_;refine VB h uR fun _ _ h=>?_;refine Vg 1 ?_;refine Vl [] (fun x5=>([(4,.bv x5)],[],[])) N7 r ?_ fun J1=>?_
 ·intro x5 h;rw [N7] at h;exact W
 ·refine MC 10 h (fun h=>?_) fun h=>W;refine Vg 7 ?_;refine MC 17 h (fun h=>?_) fun h=>W;refine Vg 4 ?_;refine VB h Ve fun _ _ h=>?_;exact W
def X8 (x4:List SX) (x5:List Int) (x9:List KE) (x10:List Int) (x11:List KE):List SE→Option (List SX×List Int×List KE×List Int×List KE×List SE)
| x39=>some (x4,x5,x9,x10,x11,x39)
def X9 (x19:Int):List SE→Option ((Int×List SE) ⊕ (List SX×List Int×List KE×List Int×List KE×List SE))
| x24=>some (.inl (wr (x19+1),x24))
def Xa (x4:List SX) (x5:List Int) (x9:List KE) (x10:List Int) (x11:List KE) (x12:List SE):(Int×List SE)→Option ((Int×List SE) ⊕ (List SX×List Int×List KE×List Int×List KE×List SE))
| (x19,x20)=>
 A0 (decide (x19<(ln SE.row x12))) (
 (A4 x20 x19).bind fun x21=>
 (CF x21.NE).bind fun x22=>
 (X9 x19) (x20.set (Int.toNat (x19)) (SE.mk x21.ID x22 x21.SS x21.Age))) (
 Option.map Sum.inr ((X8 x4 x5 x9 x10 x11) x20))
def X7 (x1:NO) (x4:List SX) (x5:List Int):(List KE×List Int×List KE)→Option (List SX×List Int×List KE×List Int×List KE×List SE)
| (x9,x10,x11)=>
 (IB x1.BK.SE).bind fun x12=>
 loop (Xa x4 x5 x9 x10 x11 x12) (0,x12)
def X6 (x1:NO):(List SX×List Int)→Option (List SX×List Int×List KE×List Int×List KE×List SE)
| (x4,x5)=>
 (Et x1.KN).bind fun x6=>
 (CF x1.TL).bind fun x7=>
 (Et x1.AK).bind fun x8=>
 (X7 x1 x4 x5) (x6,x7,x8)
def NL (x1:NO):Option (List SX×List Int×List KE×List Int×List KE×List SE):=
 (Eu x1.DK.DI.SD).bind fun x2=>
 (CF x1.DK.NE).bind fun x3=>
 (X6 x1) (x2,x3)
theorem eu {x1 r} (h:NL x1=some r):FTx 87 [.agg (NO.row x1)] [] [] (.agg [.iv x1.DK.DI.ID,.iv x1.DK.DI.PH,.osl 0,.iv x1.DK.TH,.osl 1,.iv x1.BK.LA,.osl 5,.osl 2,.osl 3,.osl 4]) [] [Ac r.1,A5 r.2.1,A9 r.2.2.1,A5 r.2.2.2.1,A9 r.2.2.2.2.1,AX r.2.2.2.2.2]:=by
 refine Ft OS fun w0 M0=>?_;have ok:=OS;rw [NL] at h;refine Vg 6 ?_;refine Vl [1,2] (fun s=>([],[some ⟨48,[.iv x1.DK.DI.ID,.iv x1.DK.DI.PH,.osl 0,.iv x1.DK.TH,.osl 1,.iv x1.BK.LA,Av x1.BK.SE,Bb x1.KN,Ab x1.TL,Bb x1.AK]⟩,some ⟨48,[.iv 0,.iv 0,.nl,.iv 0,.nl,.iv 0,.nl,.nl,.nl,.nl]⟩],[Ac s.1,A5 s.2])) (X6 x1) r ?_ fun J1=>?_
 ·rintro ⟨x4,x5⟩ h;rw [X6] at h;refine Vg 1 ?_;refine Vl [1,2] (fun s=>([],[some ⟨48,[.iv x1.DK.DI.ID,.iv x1.DK.DI.PH,.osl 0,.iv x1.DK.TH,.osl 1,.iv x1.BK.LA,Av x1.BK.SE,.osl 2,.osl 3,.osl 4]⟩,some ⟨48,[.iv 0,.iv 0,.nl,.iv 0,.nl,.iv 0,.nl,.nl,.nl,.nl]⟩],[Ac x4,A5 x5,A9 s.1,A5 s.2.1,A9 s.2.2])) (X7 x1 x4 x5) r ?_ fun J2=>?_
  ·rintro ⟨x9,x10,x11⟩ h;rw [X7] at h;refine Vg 5 ?_;have ⟨x12,ex12,h⟩:=Bs h;refine Ec trivial (TZ ex12) (h:=?_);refine Vg 13 ?_;refine Vm [1,2] (fun x39=>([],[],[],[(5,AX x39)])) (X8 x4 x5 x9 x10 x11) r ?_ fun J3=>?_
   ·intro x39 h;rw [X8] at h;exact W
   ·refine Vg 1 ?_;refine Mm h [1,2,36,1] (fun s=>([(40,.iv s.1)],[],[],[(5,AX s.2)])) ?_;rintro n1 ⟨x19,x20⟩ y1 h hin1 hout1;rw [Xa] at h;refine Vg 5 ?_;refine MI h (fun h=>?_) fun h=>W;refine Vg 8 ?_;refine Vm [1,2,36,2] (fun x24=>([],[],[],[(5,AX x24)])) (X9 x19) y1 ?_ fun J4=>?_
    ·intro x24 h;rw [X9] at h;exact W
    ·refine Ai fun all H=>Ds (GP H 6 9 [2,1,3,1,1,7] [(43,[.ptr 0 5,.ptr 0 6]),(1,[.iv x19,.ptr 0 5,.ptr 0 6]),(1,[.iv x19])] (Ds ?_));refine Ag 2 6 rfl ?_ ?_
     ·refine RV ?_;refine R1 ?_;have ⟨x21,ex21,h⟩:=Bs h;refine RO ?_;refine RI ?_;refine Gn H 1 5 ?_;refine RO ?_;refine RL ?_;refine RB h Bv fun x22 ex22 h=>?_;refine RO ?_;refine RI ?_;refine Gn H 1 1 ?_;refine Bd [Ab x22] (SE.mk x21.ID x22 x21.SS x21.Age) ?_;refine GD ?_;exact W
     ·refine RV ?_;have ⟨x21,ex21,h⟩:=Bs h;refine Ag 2 8 rfl ?_ ?_
      ·refine RV ?_;refine RO ?_;refine RI ?_;refine Gn H 1 5 ?_;refine RO ?_;refine RL ?_;refine RB h Bv fun x22 ex22 h=>?_;refine A6 12 rfl (GI H.1 SE.row ex21 (Ds ?_));refine Gn H 1 1 ?_;refine Bd [Ab x22] (SE.mk x21.ID x22 x21.SS x21.Age) ?_;refine GD ?_;exact W
      ·refine RI ?_;refine Gn H 1 6 ?_;refine Ag 2 10 rfl ?_ ?_
       ·refine RV ?_;refine RO ?_;refine RL ?_;refine RB h Bv fun x22 ex22 h=>?_;refine RO ?_;refine RI ?_;refine Gn H 1 1 ?_;refine Bd [Ab x22] (SE.mk x21.ID x22 x21.SS x21.Age) ?_;refine GD ?_;exact W
       ·refine RL ?_;have ⟨x22,ex22,h⟩:=Bs h;refine Ag 2 11 rfl ?_ ?_
        ·refine RV ?_;refine A6 11 rfl (GC H.1 (Bv ex22) (Ds ?_));refine RO ?_;refine RI ?_;refine Gn H 1 1 ?_;refine Bd [Ab x22] (SE.mk x21.ID x22 x21.SS x21.Age) ?_;refine GD ?_;exact W
        ·refine GC H.1 (Bv ex22) (Ds ?_);refine R1 ?_;refine RO ?_;refine RI ?_;refine Gn H 1 1 ?_;refine Bd [Ab x22] (SE.mk x21.ID x22 x21.SS x21.Age) ?_;refine GD ?_;exact W
  ·refine Ai fun all H=>Ds (GP H 6 9 [2,1,2,1,2,7] [(18,[.ptr 0 7,Bb x1.KN]),(1,[.ptr 0 8,Ab x1.TL]),(1,[.ptr 0 9,Bb x1.AK])] (Ds ?_));refine A6 2 rfl ?_;have ⟨x6,ex6,h⟩:=Bs h;refine AT H.1 rfl trivial (GS ex6) (h:=?_);refine Gn H 1 7 ?_;refine A6 5 rfl ?_;have ⟨x7,ex7,h⟩:=Bs h;refine AT H.1 rfl trivial (Eg ex7) (h:=Ds ?_);refine A6 8 rfl ?_;have ⟨x8,ex8,h⟩:=Bs h;refine AT H.1 rfl trivial (GS ex8) (h:=Ds ?_);refine R1 ?_;refine Gn H 1 3 ?_;refine R1 ?_;refine Gn H 1 1 ?_;refine R1 ?_;refine GD ?_;exact W
 ·refine Ai fun all H=>Ds (GP H 7 9 [4,1,3,8] [(4,[.ptr 0 0,.ptr 0 0,.ptr 0 2,CU x1.DK.DI.SD]),(1,[.ptr 0 0,.ptr 0 4,Ab x1.DK.NE])] (Ds ?_));refine A6 4 rfl ?_;have ⟨x2,ex2,h⟩:=Bs h;refine AT H.1 rfl trivial (OJ ex2) (h:=?_);refine Gn H 3 5 ?_;refine A6 8 rfl ?_;have ⟨x3,ex3,h⟩:=Bs h;refine AT H.1 rfl trivial (Eg ex3) (h:=Ds ?_);refine R1 ?_;refine Gn H 2 1 ?_;refine R1 ?_;refine GD ?_;exact W
def RD (x1 x2:Int) (x3 x4:Int) (x5:List SE) (x6:List SX) (x7:List Int) (x8:List KE) (x9:List Int) (x10:List KE):Option (List Int):=
 (Xg x1 x2 x3 x4 x5 x6 x7 x8 x9 x10 ((fun z=>Iq z))).bind fun x11=>
 some x11
theorem Z1o {x1 x2 x3 x4 x5 x6 x7 x8 x9 x10 r} (h:RD x1 x2 x3 x4 x5 x6 x7 x8 x9 x10=some r):FTx 145 [.agg [.iv x1,.iv x2,.osl 0,.iv x3,.osl 1,.iv x4,Av x5,.osl 2,.osl 3,.osl 4]] [] [Ac x6,A5 x7,A9 x8,A5 x9,A9 x10] (.osl 5) [] [Ac x6,A5 x7,A9 x8,A5 x9,A9 x10,A5 r]:=by refine Ft Ys fun w0 M0=>?_;have ok:=Ys;rw [RD] at h;refine Vg 8 ?_;refine VR [] [0,1,2,3,4] 1 5 h (fun e=>Z1I e ⟨by kernel_rfl,rfl,fun z r hz=>b8 hz⟩) fun _ _ h=>?_;exact W
def S0 (x14:(Bool×Int)):(Int×List SE)→Option (Bool×Int×List SE×Int)
| (x15,x16)=>some (decide (x14.2=0),x15,x16,x14.2)
def L4 (x1:BK) (x2:Int) (x3 x4:Int) (x5 x6:Int) (x7:List SE) (x8:Int) (x9:List SX) (x10:List Int) (x11:List KE) (x12:List Int) (x13:List KE):Option (Bool×Int×List SE×Int):=
 (L5 (decide (x2=0)) x2 x3 x4 x5 x6 x7 x8 x9 x10 x11 x12 x13).bind fun x14=>
 A0 x14.1 (
 (S0 x14) (x1.LA,x1.SE)) (
 (S0 x14) (x6,x7))
theorem ee {x1 x2 x3 x4 x5 x6 x7 x8 x9 x10 x11 x12 x13 r} (h:L4 x1 x2 x3 x4 x5 x6 x7 x8 x9 x10 x11 x12 x13=some r):FTx 146 [.ptr 0 0,.agg (BK.row x1),.iv x2] [some ⟨173,[.iv x3,.iv x4,.osl 0,.iv x5,.osl 1,.iv x6,Av x7,.osl 2,.osl 3,.osl 4,.nl,.nl,.iv x8]⟩] [Ac x9,A5 x10,A9 x11,A5 x12,A9 x13] (.bv r.1) [some ⟨173,[.iv x3,.iv x4,.osl 0,.iv x5,.osl 1,.iv r.2.1,Av r.2.2.1,.osl 2,.osl 3,.osl 4,.nl,.nl,.iv r.2.2.2]⟩] [Ac x9,A5 x10,A9 x11,A5 x12,A9 x13]:=by
 refine Ft kd fun w0 M0=>?_;have ok:=kd;rw [L4] at h;refine Vg 12 ?_;refine VR [0] [0,1,2,3,4] 2 5 h er fun x14 _ h=>?_;refine Vg 1 ?_;refine Vl [0,1] (fun s=>([],[some ⟨173,[.iv x3,.iv x4,.osl 0,.iv x5,.osl 1,.iv s.1,Av s.2,.osl 2,.osl 3,.osl 4,.nl,.nl,.iv x14.2]⟩],[Ac x9,A5 x10,A9 x11,A5 x12,A9 x13])) (S0 x14) r ?_ fun J1=>?_
 ·rintro ⟨x15,x16⟩ h;rw [S0] at h;exact W
 ·exact W
end
end NX
end Go.Proofs.YtjemlejoladlcaaGreat
