/-
  The function narthex/H.1.own: its code compiled, a model, and that the code answers as the model. Written by a program of ours (lb.py). No statement of the seat is proved here.
-/
import Derived.Test.YtgamgemlekpepaaGreatK26
import Derived.Test.YtgamgemlekpepaaGreatK27
set_option maxRecDepth 100000
set_option maxHeartbeats 40000000
namespace Go.Proofs.YtgamgemlekpepaaGreat
namespace NX
open Go
noncomputable section
def Zgw (x6:List ML):List NO→Option HL
| x90=>some (HL.mk x90 x6)
def Zhw (x45:Int) (x58:List NO) (x59:NO):List SE→Option ((Int×List NO) ⊕ HL)
| x83=>some (.inl (wr (x45+1),x58.set (Int.toNat (x45)) (NO.mk x59.DK (BK.mk x59.BK.LA x83) x59.KN x59.TL x59.AK)))
def Ziw (x67:Int):List SE→Option ((Int×List SE) ⊕ ((Int×List NO) ⊕ HL))
| x72=>some (.inl (wr (x67+1),x72))
def Zjw (x45:Int) (x58:List NO) (x59:NO) (x60:List SE):(Int×List SE)→Option ((Int×List SE) ⊕ ((Int×List NO) ⊕ HL))
| (x67,x68)=>
 ifb (decide (x67<(ln SE.row x60))) (
 (at_ x68 x67).bind fun x69=>
 (Z9l x69.NE).bind fun x70=>
 (Ziw x67) (x68.set (Int.toNat (x67)) (SE.mk x69.ID x70 x69.SS x69.Age))) (
 Option.map Sum.inr ((Zhw x45 x58 x59) x68))
def Zkw (x45:Int):List NO→Option ((Int×List NO) ⊕ HL)
| x58=>
 (at_ x58 x45).bind fun x59=>
 (Zol x59.BK.SE).bind fun x60=>
 loop (Zjw x45 x58 x59 x60) (0,x60)
def Zlw (x45:Int):List NO→Option ((Int×List NO) ⊕ HL)
| x51=>
 (at_ x51 x45).bind fun x52=>
 (Zym x52.KN).bind fun x53=>
 (Z9l x52.TL).bind fun x55=>
 (Zym x52.AK).bind fun x57=>
 (Zkw x45) (x51.set (Int.toNat (x45)) (NO.mk x52.DK x52.BK x53 x55 x57))
def Zmw (x6:List ML) (x7:List NO):(Int×List NO)→Option ((Int×List NO) ⊕ HL)
| (x45,x46)=>
 ifb (decide (x45<(ln NO.row x7))) (
 (at_ x46 x45).bind fun x47=>
 (Zkm x47.DK.DI.SD).bind fun x48=>
 (Z9l x47.DK.NE).bind fun x50=>
 (Zlw x45) (x46.set (Int.toNat (x45)) (NO.mk (DK.mk (DI.mk x47.DK.DI.ID x47.DK.DI.PH x48) x47.DK.TH x50) x47.BK x47.KN x47.TL x47.AK))) (
 Option.map Sum.inr ((Zgw x6) x46))
def Znw:(List ML×List NO)→Option HL
| (x6,x7)=>loop (Zmw x6 x7) (0,x7)
def Zow (x1:HL):Option HL:=
 (Zfr x1.ML).bind fun x2=>
 (Zdr x1.NS).bind fun x4=>
 Znw (x2,x4)
theorem Zpw {x1 r} (h:Zow x1=some r):FPx 37 [.agg (HL.row x1)] (.agg (HL.row r)):=by
 have ok:=oJ 37 Tryz.f37 [.c 2 (some 2)] 1 109;refine FP ok fun w0 H0=>?_;rw [Zow] at h;refine Vg 6 ?_;refine Vl [2,1] (fun s=>([(3,.ptr 2 0)],[none,some ⟨29,[.nl,.nl]⟩,some ⟨29,[.osl 1,.osl 0]⟩],[Sq6 s.1,Sq0 s.2])) Znw r ?_ fun J1=>?_
 ·rintro ⟨x6,x7⟩ h;rw [Znw] at h;refine Vg 8 ?_;refine Vm [2,2] (fun x90=>([],[],[],[(1,Sq0 x90)])) (Zgw x6) r ?_ fun J2=>?_
  ·intro x90 h;rw [Zgw] at h;refine Vg 5 ?_;refine Zjj 1 (Ds ?_);refine Zjj 0 ?_;exact W
  ·refine Vg 1 ?_;refine Mm h [2,2,12,1] (fun s=>([(17,.iv s.1)],[],[],[(1,Sq0 s.2)])) ?_;rintro n1 ⟨x45,x46⟩ y1 h hin1 hout1;rw [Zmw] at h;refine Vg 5 ?_;refine MI h (fun h=>?_) fun h=>?_
   ·refine Vg 13 ?_;have ⟨x47,ex47,h⟩:=Bs h;refine Zee NO.row ex47 trivial rfl rfl rfl (Vg 3 ?_);refine Vm [2,2,1,1,10,2] (fun x51=>([],[],[],[(1,Sq0 x51)])) (Zlw x45) y1 ?_ fun J3=>?_
    ·intro x51 h;rw [Zlw] at h;refine Vg 1 ?_;refine Vm [2,2,1,1,10,2] (fun x58=>([],[],[],[(1,Sq0 x58)])) (Zkw x45) y1 ?_ fun J4=>?_
     ·intro x58 h;rw [Zkw] at h;refine Vg 7 ?_;have ⟨x59,ex59,h⟩:=Bs h;refine Zle NO.row ex59 trivial rfl rfl rfl ?_;have ⟨x60,ex60,h⟩:=Bs h;refine Zud trivial (Zpl ex60) (h:=?_);refine Vg 3 ?_;refine Zjh NO.row ex59 trivial rfl rfl rfl rfl (Vg 7 ?_);refine Zkh NO.row ex59 trivial rfl rfl rfl (Vg 3 ?_);refine Vm [2,2,12,2] (fun x83=>([],[],[],[(2,Z3k x83)])) (Zhw x45 x58 x59) y1 ?_ fun J5=>?_
      ·intro x83 h;rw [Zhw] at h;refine Vg 5 ?_;refine Zgh 1 2 (f:=NO.row) (NO.mk x59.DK (BK.mk x59.BK.LA x83) x59.KN x59.TL x59.AK) ex59 rfl rfl rfl rfl rfl ?_;exact W
      ·refine Vg 1 ?_;refine Mm h [2,2,1,1,10,2,67,1] (fun s=>([(86,.iv s.1)],[],[],[(2,Z3k s.2)])) ?_;rintro n2 ⟨x67,x68⟩ y2 h hin2 hout2;rw [Zjw] at h;refine Vg 5 ?_;refine MI h (fun h=>?_) fun h=>?_
       ·refine Vg 8 ?_;refine Vm [2,2,1,1,10,2,67,2] (fun x72=>([],[],[],[(2,Z3k x72)])) (Ziw x67) y2 ?_ fun J6=>?_
        ·intro x72 h;rw [Ziw] at h;exact W
        ·refine Zgj fun all H=>Ds (GP H 10 9 [4,1,5,1,1,7] [(89,[.oel 1 (Int.toNat (x45)*10) 0,.oel 1 (Int.toNat (x45)*10) 0,.oel 1 (Int.toNat (x45)*10) 5,.oel 1 (Int.toNat (x45)*10) 6]),(1,[.iv x67,.oel 1 (Int.toNat (x45)*10) 0,.oel 1 (Int.toNat (x45)*10) 0,.oel 1 (Int.toNat (x45)*10) 5,.oel 1 (Int.toNat (x45)*10) 6]),(1,[.iv x67])] (Ds ?_));refine Zoa 4 10 rfl ?_ ?_
         ·refine Zlh H.1 NO.row ex59 rfl trivial rfl rfl rfl (Ds ?_);refine Zna 10 rfl (Zlh H.1 NO.row ex59 rfl trivial rfl rfl rfl (Ds ?_));have ⟨x69,ex69,h⟩:=Bs h;refine RO ?_;refine RI ?_;refine Gn H 1 5 ?_;refine RO ?_;refine RL ?_;refine RB h Zbl fun x70 ex70 h=>?_;refine RO ?_;refine RI ?_;refine Gn H 1 1 ?_;refine RSo [Sp1 x70] (SE.mk x69.ID x70 x69.SS x69.Age) ?_;refine GD ?_;exact W
         ·refine Zlh H.1 NO.row ex59 rfl trivial rfl rfl rfl (Ds ?_);have ⟨x69,ex69,h⟩:=Bs h;refine Zoa 4 12 rfl ?_ ?_
          ·refine Zlh H.1 NO.row ex59 rfl trivial rfl rfl rfl (Ds ?_);refine RO ?_;refine RI ?_;refine Gn H 1 5 ?_;refine RO ?_;refine RL ?_;refine RB h Zbl fun x70 ex70 h=>?_;refine Zna 16 rfl (RI ?_);refine Gn H 1 1 ?_;refine RSo [Sp1 x70] (SE.mk x69.ID x70 x69.SS x69.Age) ?_;refine GD ?_;exact W
          ·refine RI ?_;refine Gn H 1 6 ?_;refine Zoa 4 14 rfl ?_ ?_
           ·refine Zlh H.1 NO.row ex59 rfl trivial rfl rfl rfl (Ds ?_);refine RO ?_;refine RL ?_;refine RB h Zbl fun x70 ex70 h=>?_;refine RO ?_;refine RI ?_;refine Gn H 1 1 ?_;refine RSo [Sp1 x70] (SE.mk x69.ID x70 x69.SS x69.Age) ?_;refine GD ?_;exact W
           ·refine RL ?_;have ⟨x70,ex70,h⟩:=Bs h;refine Zoa 4 15 rfl ?_ ?_
            ·refine Zlh H.1 NO.row ex59 rfl trivial rfl rfl rfl (Ds ?_);refine Zna 15 rfl (GC H.1 (Zbl ex70) (Ds ?_));refine RO ?_;refine RI ?_;refine Gn H 1 1 ?_;refine RSo [Sp1 x70] (SE.mk x69.ID x70 x69.SS x69.Age) ?_;refine GD ?_;exact W
            ·refine GC H.1 (Zbl ex70) (Ds ?_);refine Zna 4 rfl (Zlh H.1 NO.row ex59 rfl trivial rfl rfl rfl (Ds ?_));refine RO ?_;refine RI ?_;refine Gn H 1 1 ?_;refine RSo [Sp1 x70] (SE.mk x69.ID x70 x69.SS x69.Age) ?_;refine GD ?_;exact W
       ·exact W
     ·refine Zgj fun all H=>Ds (GP H 12 15 [6,2,3,2,3,11] [(46,[.oel 1 (Int.toNat (x45)*10) 0,.oel 1 (Int.toNat (x45)*10) 0,.oel 1 (Int.toNat (x45)*10) 0,.oel 1 (Int.toNat (x45)*10) 0,.oel 1 (Int.toNat (x45)*10) 0,.oel 1 (Int.toNat (x45)*10) 7]),(2,[.oel 1 (Int.toNat (x45)*10) 0,.oel 1 (Int.toNat (x45)*10) 0,.oel 1 (Int.toNat (x45)*10) 8]),(2,[.oel 1 (Int.toNat (x45)*10) 0,.oel 1 (Int.toNat (x45)*10) 0,.oel 1 (Int.toNat (x45)*10) 9])] (Ds ?_));have ⟨x52,ex52,h⟩:=Bs h;refine Zpa 6 11 16 rfl ?_ ?_ ?_
      ·refine RL ?_;have ⟨x53,ex53,h⟩:=Bs h;refine Zpa 7 11 16 rfl ?_ ?_ ?_
       ·refine GC H.1 (Z0n ex53) (Ds ?_);refine Zoa 11 16 rfl ?_ ?_
        ·refine RL ?_;have ⟨x55,ex55,h⟩:=Bs h;refine Zoa 12 16 rfl ?_ ?_
         ·refine GC H.1 (Zbl ex55) (Ds ?_);refine RO ?_;refine RL ?_;refine RB h Z0n fun x57 ex57 h=>?_;refine Gn H 2 7 ?_;refine RSo [Sp2 x53] (NO.mk x52.DK x52.BK x53 x52.TL x52.AK) ?_;refine Gn H 2 4 ?_;refine RSs [Sp1 x55] (NO.mk x52.DK x52.BK x53 x55 x52.AK) ?_;refine Gn H 2 1 ?_;refine RSs [Sp2 x57] (NO.mk x52.DK x52.BK x53 x55 x57) ?_;refine GD ?_;exact W
         ·refine RL ?_;refine Zna 12 rfl (GC H.1 (Zbl ex55) (Ds ?_));refine RB h Z0n fun x57 ex57 h=>?_;refine Gn H 2 7 ?_;refine RSo [Sp2 x53] (NO.mk x52.DK x52.BK x53 x52.TL x52.AK) ?_;refine Gn H 2 4 ?_;refine RSs [Sp1 x55] (NO.mk x52.DK x52.BK x53 x55 x52.AK) ?_;refine Gn H 2 1 ?_;refine RSs [Sp2 x57] (NO.mk x52.DK x52.BK x53 x55 x57) ?_;refine GD ?_;exact W
        ·refine RL ?_;refine RO ?_;refine RL ?_;refine RB h Zbl fun x55 ex55 h=>?_;refine RB h Z0n fun x56 ex56 h=>?_;refine Gn H 2 7 ?_;refine RSo [Sp2 x53] (NO.mk x52.DK x52.BK x53 x52.TL x52.AK) ?_;refine Gn H 2 4 ?_;refine RSs [Sp1 x55] (NO.mk x52.DK x52.BK x53 x55 x52.AK) ?_;refine Gn H 2 1 ?_;refine RSs [Sp2 x56] (NO.mk x52.DK x52.BK x53 x55 x56) ?_;refine GD ?_;exact W
       ·refine RL ?_;refine Zoa 7 16 rfl ?_ ?_
        ·refine GC H.1 (Z0n ex53) (Ds ?_);have ⟨x55,ex55,h⟩:=Bs h;refine Zoa 12 16 rfl ?_ ?_
         ·refine GC H.1 (Zbl ex55) (Ds ?_);refine RO ?_;refine RL ?_;refine RB h Z0n fun x57 ex57 h=>?_;refine Gn H 2 7 ?_;refine RSo [Sp2 x53] (NO.mk x52.DK x52.BK x53 x52.TL x52.AK) ?_;refine Gn H 2 4 ?_;refine RSs [Sp1 x55] (NO.mk x52.DK x52.BK x53 x55 x52.AK) ?_;refine Gn H 2 1 ?_;refine RSs [Sp2 x57] (NO.mk x52.DK x52.BK x53 x55 x57) ?_;refine GD ?_;exact W
         ·refine RL ?_;refine Zna 12 rfl (GC H.1 (Zbl ex55) (Ds ?_));refine RB h Z0n fun x57 ex57 h=>?_;refine Gn H 2 7 ?_;refine RSo [Sp2 x53] (NO.mk x52.DK x52.BK x53 x52.TL x52.AK) ?_;refine Gn H 2 4 ?_;refine RSs [Sp1 x55] (NO.mk x52.DK x52.BK x53 x55 x52.AK) ?_;refine Gn H 2 1 ?_;refine RSs [Sp2 x57] (NO.mk x52.DK x52.BK x53 x55 x57) ?_;refine GD ?_;exact W
        ·refine RL ?_;refine Zna 7 rfl (GC H.1 (Z0n ex53) (Ds ?_));refine RB h Zbl fun x55 ex55 h=>?_;refine RB h Z0n fun x56 ex56 h=>?_;refine GN H 2 7 (Ds ?_);refine An (RSo [Sp2 x53] (NO.mk x52.DK x52.BK x53 x52.TL x52.AK) ?_);refine Gn H 2 4 ?_;refine RSs [Sp1 x55] (NO.mk x52.DK x52.BK x53 x55 x52.AK) ?_;refine Gn H 2 1 ?_;refine RSs [Sp2 x56] (NO.mk x52.DK x52.BK x53 x55 x56) ?_;refine GD ?_;exact W
       ·refine RL ?_;refine Zoa 7 11 rfl ?_ ?_
        ·refine GC H.1 (Z0n ex53) (Ds ?_);refine RO ?_;refine RL ?_;refine RB h Zbl fun x55 ex55 h=>?_;refine RB h Z0n fun x56 ex56 h=>?_;refine GN H 2 7 (Ds ?_);refine An (RSo [Sp2 x53] (NO.mk x52.DK x52.BK x53 x52.TL x52.AK) ?_);refine Gn H 2 4 ?_;refine RSs [Sp1 x55] (NO.mk x52.DK x52.BK x53 x55 x52.AK) ?_;refine Gn H 2 1 ?_;refine RSs [Sp2 x56] (NO.mk x52.DK x52.BK x53 x55 x56) ?_;refine GD ?_;exact W
        ·refine RL ?_;refine Zna 7 rfl (GC H.1 (Z0n ex53) (Ds ?_));refine RB h Zbl fun x55 ex55 h=>?_;refine RB h Z0n fun x56 ex56 h=>?_;refine GN H 2 7 (Ds ?_);refine An (RSo [Sp2 x53] (NO.mk x52.DK x52.BK x53 x52.TL x52.AK) ?_);refine Gn H 2 4 ?_;refine RSs [Sp1 x55] (NO.mk x52.DK x52.BK x53 x55 x52.AK) ?_;refine Gn H 2 1 ?_;refine RSs [Sp2 x56] (NO.mk x52.DK x52.BK x53 x55 x56) ?_;refine GD ?_;exact W
      ·refine RL ?_;refine Zoa 6 16 rfl ?_ ?_
       ·refine RL ?_;have ⟨x53,ex53,h⟩:=Bs h;refine Zoa 7 16 rfl ?_ ?_
        ·refine GC H.1 (Z0n ex53) (Ds ?_);have ⟨x55,ex55,h⟩:=Bs h;refine Zoa 12 16 rfl ?_ ?_
         ·refine GC H.1 (Zbl ex55) (Ds ?_);refine RO ?_;refine RL ?_;refine RB h Z0n fun x57 ex57 h=>?_;refine Gn H 2 7 ?_;refine RSo [Sp2 x53] (NO.mk x52.DK x52.BK x53 x52.TL x52.AK) ?_;refine Gn H 2 4 ?_;refine RSs [Sp1 x55] (NO.mk x52.DK x52.BK x53 x55 x52.AK) ?_;refine Gn H 2 1 ?_;refine RSs [Sp2 x57] (NO.mk x52.DK x52.BK x53 x55 x57) ?_;refine GD ?_;exact W
         ·refine RL ?_;refine Zna 12 rfl (GC H.1 (Zbl ex55) (Ds ?_));refine RB h Z0n fun x57 _ h=>?_;refine Gn H 2 7 ?_;refine RSo [Sp2 x53] (NO.mk x52.DK x52.BK x53 x52.TL x52.AK) ?_;refine Gn H 2 4 ?_;refine RSs [Sp1 x55] (NO.mk x52.DK x52.BK x53 x55 x52.AK) ?_;refine Gn H 2 1 ?_;refine RSs [Sp2 x57] (NO.mk x52.DK x52.BK x53 x55 x57) ?_;refine GD ?_;exact W
        ·refine RL ?_;refine Zna 7 rfl (GC H.1 (Z0n ex53) (Ds ?_));refine RB h Zbl fun x55 ex55 h=>?_;refine RB h Z0n fun x56 ex56 h=>?_;refine GN H 2 7 (Ds ?_);refine An (RSo [Sp2 x53] (NO.mk x52.DK x52.BK x53 x52.TL x52.AK) ?_);refine Gn H 2 4 ?_;refine RSs [Sp1 x55] (NO.mk x52.DK x52.BK x53 x55 x52.AK) ?_;refine Gn H 2 1 ?_;refine RSs [Sp2 x56] (NO.mk x52.DK x52.BK x53 x55 x56) ?_;refine GD ?_;exact W
       ·refine RL ?_;refine RO ?_;refine RL ?_;refine RB h Z0n fun x53 ex53 h=>?_;refine RB h Zbl fun x54 ex54 h=>?_;refine RB h Z0n fun x55 ex55 h=>?_;refine Gn H 2 7 ?_;refine RSo [Sp2 x53] (NO.mk x52.DK x52.BK x53 x52.TL x52.AK) ?_;refine Gn H 2 4 ?_;refine RSs [Sp1 x54] (NO.mk x52.DK x52.BK x53 x54 x52.AK) ?_;refine Gn H 2 1 ?_;refine RSs [Sp2 x55] (NO.mk x52.DK x52.BK x53 x54 x55) ?_;refine GD ?_;exact W
      ·refine RL ?_;refine Zoa 6 11 rfl ?_ ?_
       ·refine RL ?_;have ⟨x53,ex53,h⟩:=Bs h;refine Zoa 7 11 rfl ?_ ?_
        ·refine GC H.1 (Z0n ex53) (Ds ?_);refine RO ?_;refine RL ?_;refine RB h Zbl fun x55 ex55 h=>?_;refine RB h Z0n fun x56 ex56 h=>?_;refine GN H 2 7 (Ds ?_);refine An (RSo [Sp2 x53] (NO.mk x52.DK x52.BK x53 x52.TL x52.AK) ?_);refine Gn H 2 4 ?_;refine RSs [Sp1 x55] (NO.mk x52.DK x52.BK x53 x55 x52.AK) ?_;refine Gn H 2 1 ?_;refine RSs [Sp2 x56] (NO.mk x52.DK x52.BK x53 x55 x56) ?_;refine GD ?_;exact W
        ·refine RL ?_;refine Zna 7 rfl (GC H.1 (Z0n ex53) (Ds ?_));refine RB h Zbl fun x55 ex55 h=>?_;refine RB h Z0n fun x56 _ h=>?_;refine GN H 2 7 (Ds ?_);refine An (RSo [Sp2 x53] (NO.mk x52.DK x52.BK x53 x52.TL x52.AK) ?_);refine Gn H 2 4 ?_;refine RSs [Sp1 x55] (NO.mk x52.DK x52.BK x53 x55 x52.AK) ?_;refine Gn H 2 1 ?_;refine RSs [Sp2 x56] (NO.mk x52.DK x52.BK x53 x55 x56) ?_;refine GD ?_;exact W
       ·refine RL ?_;refine RO ?_;refine RL ?_;refine RB h Z0n fun x53 _ h=>?_;refine RB h Zbl fun x54 _ h=>?_;refine RB h Z0n fun x55 _ h=>?_;refine Gn H 2 7 ?_;refine RSo [Sp2 x53] (NO.mk x52.DK x52.BK x53 x52.TL x52.AK) ?_;refine Gn H 2 4 ?_;refine RSs [Sp1 x54] (NO.mk x52.DK x52.BK x53 x54 x52.AK) ?_;refine Gn H 2 1 ?_;refine RSs [Sp2 x55] (NO.mk x52.DK x52.BK x53 x54 x55) ?_;refine GD ?_;exact W
    ·refine Zgj fun all H=>Ds (GP H 11 13 [7,2,4,11] [(24,[.oel 1 (Int.toNat (x45)*10) 0,.oel 1 (Int.toNat (x45)*10) 0,.oel 1 (Int.toNat (x45)*10) 0,.oel 1 (Int.toNat (x45)*10) 0,.oel 1 (Int.toNat (x45)*10) 0,.oel 1 (Int.toNat (x45)*10) 0,.oel 1 (Int.toNat (x45)*10) 2]),(2,[.oel 1 (Int.toNat (x45)*10) 0,.oel 1 (Int.toNat (x45)*10) 0,.oel 1 (Int.toNat (x45)*10) 0,.oel 1 (Int.toNat (x45)*10) 4])] (Ds ?_));refine Zoa 7 13 rfl ?_ ?_
     ·refine RL ?_;have ⟨x48,ex48,h⟩:=Bs h;refine Zoa 8 13 rfl ?_ ?_
      ·refine GC H.1 (Zmm ex48) (Ds ?_);refine RO ?_;refine RL ?_;refine RB h Zbl fun x50 ex50 h=>?_;refine GP H 4 5 [19,5] [(39,[.oel 1 (Int.toNat (x45)*10) 0,.oel 1 (Int.toNat (x45)*10) 0,.oel 1 (Int.toNat (x45)*10) 0,.oel 1 (Int.toNat (x45)*10) 2])] (Ds ?_);refine RSo [Sp3 x48] (NO.mk (DK.mk (DI.mk x47.DK.DI.ID x47.DK.DI.PH x48) x47.DK.TH x47.DK.NE) x47.BK x47.KN x47.TL x47.AK) ?_;refine GP H 3 1 [23,1] [(43,[.oel 1 (Int.toNat (x45)*10) 0,.oel 1 (Int.toNat (x45)*10) 0,.oel 1 (Int.toNat (x45)*10) 4])] (Ds ?_);refine RSs [Sp1 x50] (NO.mk (DK.mk (DI.mk x47.DK.DI.ID x47.DK.DI.PH x48) x47.DK.TH x50) x47.BK x47.KN x47.TL x47.AK) ?_;refine GD ?_;exact W
      ·refine RL ?_;refine Zna 8 rfl (GC H.1 (Zmm ex48) (Ds ?_));refine RB h Zbl fun x50 _ h=>?_;refine GP H 4 5 [19,5] [(39,[.oel 1 (Int.toNat (x45)*10) 0,.oel 1 (Int.toNat (x45)*10) 0,.oel 1 (Int.toNat (x45)*10) 0,.oel 1 (Int.toNat (x45)*10) 2])] (Ds ?_);refine RSo [Sp3 x48] (NO.mk (DK.mk (DI.mk x47.DK.DI.ID x47.DK.DI.PH x48) x47.DK.TH x47.DK.NE) x47.BK x47.KN x47.TL x47.AK) ?_;refine GP H 3 1 [23,1] [(43,[.oel 1 (Int.toNat (x45)*10) 0,.oel 1 (Int.toNat (x45)*10) 0,.oel 1 (Int.toNat (x45)*10) 4])] (Ds ?_);refine RSs [Sp1 x50] (NO.mk (DK.mk (DI.mk x47.DK.DI.ID x47.DK.DI.PH x48) x47.DK.TH x50) x47.BK x47.KN x47.TL x47.AK) ?_;refine GD ?_;exact W
     ·refine RL ?_;refine RO ?_;refine RL ?_;refine RB h Zmm fun x48 _ h=>?_;refine RB h Zbl fun x49 _ h=>?_;refine GP H 4 5 [19,5] [(39,[.oel 1 (Int.toNat (x45)*10) 0,.oel 1 (Int.toNat (x45)*10) 0,.oel 1 (Int.toNat (x45)*10) 0,.oel 1 (Int.toNat (x45)*10) 2])] (Ds ?_);refine RSo [Sp3 x48] (NO.mk (DK.mk (DI.mk x47.DK.DI.ID x47.DK.DI.PH x48) x47.DK.TH x47.DK.NE) x47.BK x47.KN x47.TL x47.AK) ?_;refine GP H 3 1 [23,1] [(43,[.oel 1 (Int.toNat (x45)*10) 0,.oel 1 (Int.toNat (x45)*10) 0,.oel 1 (Int.toNat (x45)*10) 4])] (Ds ?_);refine RSs [Sp1 x49] (NO.mk (DK.mk (DI.mk x47.DK.DI.ID x47.DK.DI.PH x48) x47.DK.TH x49) x47.BK x47.KN x47.TL x47.AK) ?_;refine GD ?_;exact W
   ·exact W
 ·refine Zgj fun all H=>?_;refine Gn H 4 5 ?_;have ⟨x2,ex2,h⟩:=Bs h;refine Zoa 2 7 rfl ?_ ?_
  ·refine Zvd H.1 rfl trivial (Zgr ex2) (h:=Ds ?_);have ⟨x4,ex4,h⟩:=Bs h;refine Zoa 5 7 rfl ?_ ?_
   ·refine Zvd H.1 rfl trivial (Zer ex4) (h:=?_);refine Gn H 1 2 ?_;refine R1 ?_;refine R1 ?_;refine GD ?_;exact W
   ·refine RV ?_;refine Zna 5 rfl (Zvd H.1 rfl trivial (Zer ex4) (h:=?_));refine Gn H 1 1 ?_;refine R1 ?_;refine GD ?_;exact W
  ·refine RV ?_;refine Zna 2 rfl (Zvd H.1 rfl trivial (Zgr ex2) (h:=Ds ?_));refine Zna 5 rfl ?_;have ⟨x4,ex4,h⟩:=Bs h;refine Zvd H.1 rfl trivial (Zer ex4) (h:=?_);refine Gn H 1 1 ?_;refine R1 ?_;refine GD ?_;exact W
def Zqw (x2:List ML):List DK→Option Bar
| x22=>some (Bar.mk x22 x2)
def Zrw (x1:HL) (x2:List ML):(Int×List DK)→Option ((Int×List DK) ⊕ Bar)
| (x9,x10)=>
 ifb (decide (x9<(ln NO.row x1.NS))) (
 (at_ x1.NS x9).bind fun x11=>
 (Zkm x11.DK.DI.SD).bind fun x12=>
 (Z9l x11.DK.NE).bind fun x13=>
 (Z8c 72 x10 ([DK.mk (DI.mk x11.DK.DI.ID x11.DK.DI.PH x12) x11.DK.TH x13])).bind fun x14=>
 some (.inl (wr (x9+1),x14))) (
 Option.map Sum.inr ((Zqw x2) x10))
def Zsw (x1:HL):Option Bar:=
 (Zfr x1.ML).bind fun x2=>
 loop (Zrw x1 x2) (0,([]:List DK))
theorem Ztw {x1 r} (h:Zsw x1=some r):FPx 18 [.agg (HL.row x1)] (.agg (Bar.row r)):=by
 have ok:=oJ 18 Tryz.f18 [.c 2 (some 2)] 1 37;refine FP ok fun w0 H0=>?_;rw [Zsw] at h;refine Vg 9 ?_;have ⟨x2,ex2,h⟩:=Bs h;refine Zud trivial (Zgr ex2) (h:=?_);refine Vg 12 ?_;refine Vl [2,2] (fun x22=>([],[none,some ⟨73,[.nl,.nl]⟩,some ⟨73,[.osl 1,.osl 0]⟩],[Sq6 x2,Z4k x22])) (Zqw x2) r ?_ fun J1=>?_
 ·intro x22 h;rw [Zqw] at h;refine Vg 5 ?_;refine Zjj 1 (Ds ?_);refine Zjj 0 ?_;exact W
 ·refine Vg 1 ?_;refine Zkj 2 0 61 5 (Ds ?_);refine Mm h [2,2,8,2] (fun s=>([(14,.iv s.1)],[],[(0,none)],[(1,Z4k s.2)])) ?_;rintro n1 ⟨x9,x10⟩ y1 h hin1 hout1;rw [Zrw] at h;refine Vg 5 ?_;refine MI h (fun h=>?_) fun h=>?_
  ·refine Vg 5 ?_;have ⟨x11,ex11,h⟩:=Bs h;refine Zjc NO.row ex11 trivial rfl rfl rfl (Vg 12 ?_);refine Zgj fun all H=>?_;refine Gn H 5 7 ?_;refine Zna 3 rfl ?_;have ⟨x12,ex12,h⟩:=Bs h;refine Zvd H.1 rfl trivial (Zlm ex12) (h:=?_);refine Gn H 2 4 ?_;refine Zna 6 rfl ?_;have ⟨x13,ex13,h⟩:=Bs h;refine Zvd H.1 rfl trivial (Zal ex13) (h:=Ds ?_);refine R1 ?_;refine Gn H 1 1 ?_;refine R1 ?_;refine GD (Vg 4 ?_);refine Zjj 2 (Ds ?_);refine Zjj 3 (Ds ?_);refine Zg6 1 (Ds ?_);refine An ?_;have ⟨x14,ex14,h⟩:=Bs h;refine Zmc DK.row ex14 trivial rfl rfl rfl (Vg 8 ?_);refine Zij 5 1 ?_;exact W
  ·exact W
def Zuw:List Int→Option (List Int)
| x31=>some x31
def Zvw (x1:(List (List Int))):(Int×List Int)→Option ((Int×List Int) ⊕ (List Int))
| (x21,x22)=>
 ifb (decide (x21<(ln (Z8d 1 Z4d) x1))) (
 (at_ x1 x21).bind fun x23=>
 (Z8c 8 x22 x23).bind fun x24=>
 some (.inl (wr (x21+1),x24))) (
 Option.map Sum.inr (Zuw x22))
def Zww (x1:(List (List Int))):Int→Option (List Int)
| x15=>
 (Zds x15).bind fun x16=>
 loop (Zvw x1) (0,x16)
def Zxw (x5 x6:Int) (x7:List Int):Unit→Option ((Int×Int) ⊕ (List Int))
| ()=>some (.inl (wr (x5+(ln Z4d x7)),wr (x6+1)))
def Zyw (x1:(List (List Int))):(Int×Int)→Option ((Int×Int) ⊕ (List Int))
| (x5,x6)=>
 ifb (decide (x6<(ln (Z8d 1 Z4d) x1))) (
 (at_ x1 x6).bind fun x7=>
 ifb (decide ((wr (x5+(ln Z4d x7)))<0)) (
 none) (
 (Zxw x5 x6 x7) ())) (
 Option.map Sum.inr ((Zww x1) x5))
def Zzw (x1:(List (List Int))):Option (List Int):=loop (Zyw x1) (0,0)
theorem Z0x {x1 r} (h:Zzw x1=some r):FOx 244 [.sl 1 (List.map (Z8d 1 Z4d) x1)] 3 1 (List.map Z4d r):=by
 have ok:=oJ 244 Tryz.f244 [.t 2] 1 35;refine Zrd ok rfl fun w0 H0=>?_;rw [Zzw] at h;refine Vg 15 ?_;refine Vk [0,1] (fun x15=>[(3,.iv x15)]) (Zww x1) r ?_ fun J1=>?_
 ·intro x15 h;rw [Zww] at h;refine Vg 3 ?_;have ⟨x16,ex16,h⟩:=Bs h;refine Z9f [] [] trivial (Zes ex16) (h:=?_);refine Vg 9 ?_;refine Vl [6,1] (fun x31=>([],[],[Sq4 x31])) Zuw r ?_ fun J3=>?_
  ·intro x31 h;rw [Zuw] at h;refine Vg 5 ?_;exact Zae Z4d ok h rfl rfl
  ·refine Vg 1 ?_;refine Ml h [6,1,18,2] (fun s=>([(27,.iv s.1)],[],[Sq4 s.2])) ?_;rintro n1 ⟨x21,x22⟩ y1 h hin1 hout1;rw [Zvw] at h;refine Vg 5 ?_;refine MI h (fun h=>?_) fun h=>?_
   ·refine Vg 5 ?_;have ⟨x23,ex23,h⟩:=Bs h;refine Zjc (Z8d 1 Z4d) ex23 trivial rfl rfl rfl (Vg 6 ?_);have ⟨x24,ex24,h⟩:=Bs h;refine Zmc Z4d ex24 trivial rfl rfl rfl (Vg 7 ?_);refine Zij 1 0 ?_;exact W
   ·exact W
 ·refine Vg 1 ?_;refine Mk h [0,1,8,2] (fun s=>[(3,.iv s.1),(11,.iv s.2)]) ?_;rintro n1 ⟨x5,x6⟩ y1 h hin1 hout1;rw [Zyw] at h;refine Vg 5 ?_;refine MI h (fun h=>?_) fun h=>?_
  ·refine Vg 5 ?_;have ⟨x7,ex7,h⟩:=Bs h;refine Zjc (Z8d 1 Z4d) ex7 trivial rfl rfl rfl (Vg 16 ?_);refine Vk [0,1,2,1,5,3] (fun _=>[]) (Zxw x5 x6 x7) y1 ?_ fun J2=>?_
   ·rintro ⟨⟩ h;rw [Zxw] at h;exact W
   ·refine MI h (fun h=>?_) fun h=>?_
    ·cases h
    ·exact W
  ·exact W
def Z1x (x1:List Int) (x2:Int):Option Bool:=
 (Zfs x1 x2).bind fun x3=>
 some x3
theorem Z2x {x1 x2 r} (h:Z1x x1 x2=some r):FPx 79 [Sp1 x1,.iv x2] (.bv r):=by have ok:=oJ 79 Tryz.f79 [.t 4] 2 6;refine FP ok fun w0 H0=>?_;rw [Z1x] at h;refine Vg 8 ?_;refine VB h Zgs fun _ _ h=>?_;exact W
def Z3x:(Int×List Int)→Option (List Int)
| (x25,x26)=>
 (vw_ (ln Z4d x26) x25 (ln Z4d x26)).bind fun _=>
 (Zug x26 (Int.toNat (x25)) (Int.toNat (ln Z4d x26)-Int.toNat (x25)) 0).bind fun x28=>
 (Z9c x28 0 x25).bind fun x29=>
 some x29
def Z4x (x12:Int):(Int×List Int)→Option ((Int×Int×List Int) ⊕ (List Int))
| (x17,x18)=>some (.inl (x17,wr (x12+1),x18))
def Z5x (p0:(Int→Option Bool)):(Int×Int×List Int)→Option ((Int×Int×List Int) ⊕ (List Int))
| (x11,x12,x13)=>
 ifb (decide (x12<(ln Z4d x13))) (
 (at_ x13 x12).bind fun x14=>
 (p0 x14).bind fun x15=>
 ifb (!x15) (
 (at_ x13 x11).bind fun _=>
 (Z4x x12) (wr (x11+1),x13.set (Int.toNat (x11)) x14)) (
 (Z4x x12) (x11,x13))) (
 Option.map Sum.inr (Z3x (x11,x13)))
def Z6x (x1:List Int) (p0:(Int→Option Bool)):Option (List Int):=
 (Zyk x1 p0).bind fun x2=>
 ifb (decide (x2=((-1)))) (
 some x1) (
 loop (Z5x p0) (x2,wr (x2+1),x1))
theorem Z7x {x1 g0 caps0 p0 r} (h:Z6x x1 p0=some r) (hc0:CloOK Tryz.prog g0 caps0 (fun z=>[.iv z]) p0 (fun z=>.bv z)):FTx 201 [.osl 0,.clo g0 caps0] [] [Sq4 x1] (.osl 1) [] [none,Sq4 r]:=by
 refine Ft Zhs fun w0 M0=>?_;rw [Z6x] at h;refine Vg 8 ?_;refine VN (LR.slice 0 rfl) h (fun e=>Zzk e hc0) (fun _ _ h=>?_) (hp:=(by first | rfl | simp [go_sem,hc0.pu])) (ha:=(by first | exact Zrb _ | simp [go_sem,Zfb _ _ _ hc0.pu]));refine Vg 8 ?_;refine MI h (fun h=>?_) fun h=>?_
 ·refine Vg 5 ?_;refine Zlj 3 1 (Ds ?_);refine Zij 0 1 (Ds ?_);(try rw [Znh _ _ _ hc0.pu]);exact Td Zhs h
 ·refine Vg 8 ?_;refine Vl [0,1] (fun s=>([(5,.iv s.1)],[],[Sq4 s.2])) Z3x r ?_ fun J1=>?_
  ·rintro ⟨x25,x26⟩ h;rw [Z3x] at h;refine Vg 4 ?_;have ⟨x27,ex27,h⟩:=Bs h;refine Zxg Z4d ex27 trivial rfl rfl rfl rfl ?_;have ⟨x28,ex28,h⟩:=Bs h;refine Z1h Z4d ex28 trivial rfl rfl (by first | exact Zrb _ | simp [go_sem]) (by first | rfl | simp [go_sem]) rfl rfl (Vg 5 ?_);have ⟨x29,ex29,h⟩:=Bs h;refine Zjf Z4d ex29 trivial rfl rfl rfl rfl (Vg 2 ?_);exact Td Zhs h
  ·refine Vg 1 ?_;refine Ml h [0,2] (fun s=>([(5,.iv s.1),(6,.iv s.2.1)],[],[Sq4 s.2.2])) ?_ (hok:=by rintro ⟨x11,x12,x13⟩;first | rfl | (simp [go_sem];done) | simp [go_sem,Zqb _ hc0.pu]);rintro n1 ⟨x11,x12,x13⟩ y1 h hin1 hout1;rw [Z5x] at h;refine Vg 8 ?_;refine MI h (fun h=>?_) fun h=>?_
   ·refine Vg 7 ?_;have ⟨x14,ex14,h⟩:=Bs h;refine Zee Z4d ex14 trivial rfl rfl rfl (Zle Z4d ex14 trivial rfl rfl rfl (Vg 6 ?_));have ⟨x15,ex15,h⟩:=Bs h;refine Z3d trivial rfl hc0 (x:=x14) ex15 (by first | exact Zrb _ | simp [go_sem]) (by first | rfl | simp [go_sem,hc0.pu]) (Vg 2 ?_);refine Vl [0,2,4,1] (fun s=>([(5,.iv s.1)],[],[Sq4 s.2])) (Z4x x12) y1 ?_ fun J2=>?_
    ·rintro ⟨x17,x18⟩ h;rw [Z4x] at h;refine Vg 6 ?_;exact Zsc h hin1 (hok:=by first | rfl | simp [go_sem,Zqb _ hc0.pu])
    ·refine MI h (fun h=>?_) fun h=>?_
     ·refine Vg 5 ?_;have ⟨x16,ex16,h⟩:=Bs h;refine Zee Z4d ex16 trivial rfl rfl rfl (Zve [.iv x14] Z4d (y':=x14) ex16 trivial rfl rfl rfl (by first | exact Zrb _ | simp [go_sem]) rfl rfl rfl rfl (Vg 6 ?_));exact Ztc J2 h (hok:=by first | rfl | simp [go_sem,Zqb _ hc0.pu])
     ·refine Vg 1 ?_;exact Ztc J2 h (hok:=by first | rfl | simp [go_sem,Zqb _ hc0.pu])
   ·refine Vg 1 ?_;exact Ztc J1 (Zec h hout1) (hok:=by first | rfl | simp [go_sem])
end
end NX
end Go.Proofs.YtgamgemlekpepaaGreat
