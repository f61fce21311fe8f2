/-
  The function narthex/sess.own, lent own memory. Written by a program of ours (lb.py). No statement of the seat is proved here.
-/
import Derived.Test.YtgamgemlekpepaaGreatK26
import Derived.Test.YtgamgemlekpepaaGreatK27
import Derived.Test.YtgamgemlekpepaaGreatK28
set_option maxRecDepth 100000
set_option maxHeartbeats 40000000
namespace Go.Proofs.YtgamgemlekpepaaGreat
namespace NX
open Go
noncomputable section
def Z8x:List SE→Option (List SE)
| x35=>some x35
def Z9x (x2:List SE):(Int×List SE)→Option ((Int×List SE) ⊕ (List SE))
| (x8,x9)=>
 ifb (decide (x8<(ln SE.row x2))) (
 (at_ x9 x8).bind fun x10=>
 (Z9l x10.NE).bind fun x11=>
 some (.inl (wr (x8+1),x9.set (Int.toNat (x8)) (SE.mk x10.ID x11 x10.SS x10.Age)))) (
 Option.map Sum.inr (Z8x x9))
def Zax (x1:BK):Option (List SE):=
 (Zol x1.SE).bind fun x2=>
 loop (Z9x x2) (0,x2)
theorem Zbx {x1 r} (h:Zax x1=some r):FTx 165 [.agg (BK.row x1)] [] [] (.agg [.iv x1.LA,.osl 0]) [] [Z3k r]:=by
 refine Ft Zis fun w0 M0=>?_;have ok:=Zis;rw [Zax] at h;refine Vg 9 ?_;have ⟨x2,ex2,h⟩:=Bs h;refine Zud trivial (Zpl ex2) (h:=?_);refine Vg 11 ?_;refine Vm [1,2] (fun x35=>([],[],[],[(0,Z3k x35)])) Z8x r ?_ fun J1=>?_
 ·intro x35 h;rw [Z8x] at h;exact W
 ·refine Vg 1 ?_;refine Mm h [1,2,7,1] (fun s=>([(11,.iv s.1)],[],[],[(0,Z3k s.2)])) ?_;rintro n1 ⟨x8,x9⟩ y1 h hin1 hout1;rw [Z9x] at h;refine Vg 5 ?_;refine MI h (fun h=>?_) fun h=>?_
  ·refine Vg 8 ?_;refine Zgj fun all H=>?_;refine Gn H 4 9 ?_;refine Zoa 1 4 rfl ?_ ?_
   ·refine RV ?_;refine R1 ?_;have ⟨x10,ex10,h⟩:=Bs h;refine RO ?_;refine RI ?_;refine Gn H 1 5 ?_;refine RO ?_;refine RL ?_;refine RB h Zbl fun x11 ex11 h=>?_;refine RO ?_;refine RI ?_;refine Gn H 1 1 ?_;refine RSo [Sp1 x11] (SE.mk x10.ID x11 x10.SS x10.Age) ?_;refine GD ?_;exact W
   ·refine RV ?_;have ⟨x10,ex10,h⟩:=Bs h;refine Zoa 1 6 rfl ?_ ?_
    ·refine RV ?_;refine RO ?_;refine RI ?_;refine Gn H 1 5 ?_;refine RO ?_;refine RL ?_;refine RB h Zbl fun x11 ex11 h=>?_;refine Zna 10 rfl (GI H.1 SE.row ex10 (Ds ?_));refine Gn H 1 1 ?_;refine RSo [Sp1 x11] (SE.mk x10.ID x11 x10.SS x10.Age) ?_;refine GD ?_;exact W
    ·refine RI ?_;refine Gn H 1 6 ?_;refine Zoa 1 8 rfl ?_ ?_
     ·refine RV ?_;refine RO ?_;refine RL ?_;refine RB h Zbl fun x11 ex11 h=>?_;refine RO ?_;refine RI ?_;refine Gn H 1 1 ?_;refine RSo [Sp1 x11] (SE.mk x10.ID x11 x10.SS x10.Age) ?_;refine GD ?_;exact W
     ·refine RL ?_;have ⟨x11,ex11,h⟩:=Bs h;refine Zoa 1 9 rfl ?_ ?_
      ·refine RV ?_;refine Zna 9 rfl (GC H.1 (Zbl ex11) (Ds ?_));refine RO ?_;refine RI ?_;refine Gn H 1 1 ?_;refine RSo [Sp1 x11] (SE.mk x10.ID x11 x10.SS x10.Age) ?_;refine GD ?_;exact W
      ·refine GC H.1 (Zbl ex11) (Ds ?_);refine R1 ?_;refine RO ?_;refine RI ?_;refine Gn H 1 1 ?_;refine RSo [Sp1 x11] (SE.mk x10.ID x11 x10.SS x10.Age) ?_;refine GD ?_;exact W
  ·exact W
def Zcx:Bool→Option Bool
| x3=>some x3
def Zdx (x1:List Int):Option Bool:=
 ifb (decide (64<(ln Z4d x1))) (
 Zcx true) (
 (Z1s x1 ((fun z=>Zql z))).bind fun x2=>
 Zcx x2)
theorem Zex {x1 r} (h:Zdx x1=some r):FPx 104 [Sp1 x1] (.bv r):=by
 have ok:=oJ 104 Tryz.f104 [.t 2] 1 9;refine FP ok fun w0 H0=>?_;rw [Zdx] at h;refine Vg 10 ?_;refine Vk [] (fun x3=>[(2,.bv x3)]) Zcx r ?_ fun J1=>?_
 ·intro x3 h;rw [Zcx] at h;exact W
 ·refine MC 6 h (fun h=>?_) fun h=>?_
  ·exact W
  ·refine Vg 1 ?_;refine VB h (fun e=>Z2s e ⟨by kernel_rfl,rfl,fun z r hz=>Zrl hz⟩) fun _ _ h=>?_;exact W
def Zfx:Int→Option (Int×Int)
| x19=>some ((-1),x19)
def Zgx (x1:List SX) (x3:DI):(Int×Int)→Option ((Int×Int) ⊕ (Int×Int))
| (x8,x9)=>
 ifb (decide (x8<(ln SX.row x1))) (
 (at_ x1 x8).bind fun x10=>
 (Zqs x10 x9 x3).bind fun x11=>
 ifb x11 (
 Option.map Sum.inr (some (x8,x10.PE))) (
 some (.inl (wr (x8+1),x10.PE)))) (
 Option.map Sum.inr (Zfx x9))
def Zhx (x1:List SX) (x2:Int) (x3:DI):Option (Int×Int):=loop (Zgx x1 x3) (0,x2)
theorem Zix {x1 x2 x3 r} (h:Zhx x1 x2 x3=some r):FTx 119 [Sp3 x1,.clo 157 [.ptr 0 0,.ptr 1 0]] [some ⟨3,[.iv x2]⟩,some ⟨58,DI.row x3⟩] [] (.iv r.1) [some ⟨3,[.iv r.2]⟩,some ⟨58,DI.row x3⟩] []:=by
 refine Ft Zhk fun w0 M0=>?_;have ok:=Zhk;rw [Zhx] at h;refine Vg 11 ?_;refine Vm [] (fun x19=>([],[(0,0,.iv x19)],[],[])) Zfx r ?_ fun J1=>?_
 ·intro x19 h;rw [Zfx] at h;exact W
 ·refine Vg 1 ?_;refine Mm h [0,2,5,1] (fun s=>([(8,.iv s.1)],[(0,0,.iv s.2)],[],[])) ?_;rintro n1 ⟨x8,x9⟩ y1 h hin1 hout1;rw [Zgx] at h;refine Vg 5 ?_;refine MI h (fun h=>?_) fun h=>?_
  ·refine Vg 13 ?_;have ⟨x10,ex10,h⟩:=Bs h;refine Zjc SX.row ex10 trivial rfl rfl rfl (Vg 1 ?_);have ⟨x11,ex11,h⟩:=Bs h;refine Zbf [true,true] [] trivial rfl (Zrs ex11) (by kernel_rfl) (h:=?_);exact W
  ·exact W
def Zjx (x1:Int) (x2:DK):Option Bool:=
 (Zur x2.DI.SD ((fun z=>Zrm z x1))).bind fun x3=>
 some (!x3)
theorem Zkx {x1 x2 r} (h:Zjx x1 x2=some r):FPx 98 [.iv x1,.elt (DK.row x2) 0] (.bv r):=by have ok:=oJ 98 Tryz.f98 [.t 3] 2 8;refine FP ok fun w0 H0=>?_;rw [Zjx] at h;refine Vg 11 ?_;refine VN (LR.block 0 rfl rfl) h (fun e=>Zvr e ⟨by kernel_rfl,rfl,fun z r hz=>Zsm hz⟩) fun _ _ h=>?_;exact W
def Zlx:Bool→Option Bool
| x5=>some x5
def Zmx (x1 x2:DK):Option Bool:=
 (Zws x1.DI x2.DI).bind fun x3=>
 ifb x3 (
 ifb (decide (x1.TH=x2.TH)) (
 (Zvm x1.NE x2.NE).bind fun x4=>
 Zlx x4) (
 Zlx false)) (
 Zlx false)
theorem Znx {x1 x2 r} (h:Zmx x1 x2=some r):FPx 83 [.agg (DK.row x1),.agg (DK.row x2)] (.bv r):=by
 have ok:=oJ 83 Tryz.f83 [.t 4] 2 22;refine FP ok fun w0 H0=>?_;rw [Zmx] at h;refine Vg 12 ?_;refine VB h Zxs fun _ _ h=>?_;refine Vg 1 ?_;refine Vl [] (fun x5=>([(4,.bv x5)],[],[])) Zlx r ?_ fun J1=>?_
 ·intro x5 h;rw [Zlx] at h;exact W
 ·refine MC 10 h (fun h=>?_) fun h=>?_
  ·refine Vg 7 ?_;refine MC 17 h (fun h=>?_) fun h=>?_
   ·refine Vg 4 ?_;refine VB h Zwm fun _ _ h=>?_;exact W
   ·exact W
  ·exact W
def Zox (x4:List SX) (x5:List Int) (x9:List KE) (x10:List Int) (x11:List KE):List SE→Option (List SX×List Int×List KE×List Int×List KE×List SE)
| x39=>some (x4,x5,x9,x10,x11,x39)
def Zpx (x19:Int):List SE→Option ((Int×List SE) ⊕ (List SX×List Int×List KE×List Int×List KE×List SE))
| x24=>some (.inl (wr (x19+1),x24))
def Zqx (x4:List SX) (x5:List Int) (x9:List KE) (x10:List Int) (x11:List KE) (x12:List SE):(Int×List SE)→Option ((Int×List SE) ⊕ (List SX×List Int×List KE×List Int×List KE×List SE))
| (x19,x20)=>
 ifb (decide (x19<(ln SE.row x12))) (
 (at_ x20 x19).bind fun x21=>
 (Z9l x21.NE).bind fun x22=>
 (Zpx x19) (x20.set (Int.toNat (x19)) (SE.mk x21.ID x22 x21.SS x21.Age))) (
 Option.map Sum.inr ((Zox x4 x5 x9 x10 x11) x20))
def Zrx (x1:NO) (x4:List SX) (x5:List Int):(List KE×List Int×List KE)→Option (List SX×List Int×List KE×List Int×List KE×List SE)
| (x9,x10,x11)=>
 (Zol x1.BK.SE).bind fun x12=>
 loop (Zqx x4 x5 x9 x10 x11 x12) (0,x12)
def Zsx (x1:NO):(List SX×List Int)→Option (List SX×List Int×List KE×List Int×List KE×List SE)
| (x4,x5)=>
 (Zym x1.KN).bind fun x6=>
 (Z9l x1.TL).bind fun x7=>
 (Zym x1.AK).bind fun x8=>
 (Zrx x1 x4 x5) (x6,x7,x8)
def Ztx (x1:NO):Option (List SX×List Int×List KE×List Int×List KE×List SE):=
 (Zkm x1.DK.DI.SD).bind fun x2=>
 (Z9l x1.DK.NE).bind fun x3=>
 (Zsx x1) (x2,x3)
theorem Zux {x1 r} (h:Ztx x1=some r):FTx 52 [.agg (NO.row x1)] [] [] (.agg [.iv x1.DK.DI.ID,.iv x1.DK.DI.PH,.osl 0,.iv x1.DK.TH,.osl 1,.iv x1.BK.LA,.osl 5,.osl 2,.osl 3,.osl 4]) [] [Z5k r.1,Sq4 r.2.1,Z6k r.2.2.1,Sq4 r.2.2.2.1,Z6k r.2.2.2.2.1,Z3k r.2.2.2.2.2]:=by
 refine Ft Zys fun w0 M0=>?_;have ok:=Zys;rw [Ztx] at h;refine Vg 6 ?_;refine Vl [1,2] (fun s=>([],[some ⟨67,[.iv x1.DK.DI.ID,.iv x1.DK.DI.PH,.osl 0,.iv x1.DK.TH,.osl 1,.iv x1.BK.LA,Sp5 x1.BK.SE,Sp2 x1.KN,Sp1 x1.TL,Sp2 x1.AK]⟩,some ⟨67,[.iv 0,.iv 0,.nl,.iv 0,.nl,.iv 0,.nl,.nl,.nl,.nl]⟩],[Z5k s.1,Sq4 s.2])) (Zsx x1) r ?_ fun J1=>?_
 ·rintro ⟨x4,x5⟩ h;rw [Zsx] at h;refine Vg 1 ?_;refine Vl [1,2] (fun s=>([],[some ⟨67,[.iv x1.DK.DI.ID,.iv x1.DK.DI.PH,.osl 0,.iv x1.DK.TH,.osl 1,.iv x1.BK.LA,Sp5 x1.BK.SE,.osl 2,.osl 3,.osl 4]⟩,some ⟨67,[.iv 0,.iv 0,.nl,.iv 0,.nl,.iv 0,.nl,.nl,.nl,.nl]⟩],[Z5k x4,Sq4 x5,Z6k s.1,Sq4 s.2.1,Z6k s.2.2])) (Zrx x1 x4 x5) r ?_ fun J2=>?_
  ·rintro ⟨x9,x10,x11⟩ h;rw [Zrx] at h;refine Vg 5 ?_;have ⟨x12,ex12,h⟩:=Bs h;refine Zud trivial (Zpl ex12) (h:=?_);refine Vg 13 ?_;refine Vm [1,2] (fun x39=>([],[],[],[(5,Z3k x39)])) (Zox x4 x5 x9 x10 x11) r ?_ fun J3=>?_
   ·intro x39 h;rw [Zox] at h;exact W
   ·refine Vg 1 ?_;refine Mm h [1,2,36,1] (fun s=>([(40,.iv s.1)],[],[],[(5,Z3k s.2)])) ?_;rintro n1 ⟨x19,x20⟩ y1 h hin1 hout1;rw [Zqx] at h;refine Vg 5 ?_;refine MI h (fun h=>?_) fun h=>?_
    ·refine Vg 8 ?_;refine Vm [1,2,36,2] (fun x24=>([],[],[],[(5,Z3k x24)])) (Zpx x19) y1 ?_ fun J4=>?_
     ·intro x24 h;rw [Zpx] at h;exact W
     ·refine Zgj fun all H=>Ds (GP H 6 9 [2,1,3,1,1,7] [(43,[.ptr 0 5,.ptr 0 6]),(1,[.iv x19,.ptr 0 5,.ptr 0 6]),(1,[.iv x19])] (Ds ?_));refine Zoa 2 6 rfl ?_ ?_
      ·refine RV ?_;refine R1 ?_;have ⟨x21,ex21,h⟩:=Bs h;refine RO ?_;refine RI ?_;refine Gn H 1 5 ?_;refine RO ?_;refine RL ?_;refine RB h Zbl fun x22 ex22 h=>?_;refine RO ?_;refine RI ?_;refine Gn H 1 1 ?_;refine RSo [Sp1 x22] (SE.mk x21.ID x22 x21.SS x21.Age) ?_;refine GD ?_;exact W
      ·refine RV ?_;have ⟨x21,ex21,h⟩:=Bs h;refine Zoa 2 8 rfl ?_ ?_
       ·refine RV ?_;refine RO ?_;refine RI ?_;refine Gn H 1 5 ?_;refine RO ?_;refine RL ?_;refine RB h Zbl fun x22 ex22 h=>?_;refine Zna 12 rfl (GI H.1 SE.row ex21 (Ds ?_));refine Gn H 1 1 ?_;refine RSo [Sp1 x22] (SE.mk x21.ID x22 x21.SS x21.Age) ?_;refine GD ?_;exact W
       ·refine RI ?_;refine Gn H 1 6 ?_;refine Zoa 2 10 rfl ?_ ?_
        ·refine RV ?_;refine RO ?_;refine RL ?_;refine RB h Zbl fun x22 ex22 h=>?_;refine RO ?_;refine RI ?_;refine Gn H 1 1 ?_;refine RSo [Sp1 x22] (SE.mk x21.ID x22 x21.SS x21.Age) ?_;refine GD ?_;exact W
        ·refine RL ?_;have ⟨x22,ex22,h⟩:=Bs h;refine Zoa 2 11 rfl ?_ ?_
         ·refine RV ?_;refine Zna 11 rfl (GC H.1 (Zbl ex22) (Ds ?_));refine RO ?_;refine RI ?_;refine Gn H 1 1 ?_;refine RSo [Sp1 x22] (SE.mk x21.ID x22 x21.SS x21.Age) ?_;refine GD ?_;exact W
         ·refine GC H.1 (Zbl ex22) (Ds ?_);refine R1 ?_;refine RO ?_;refine RI ?_;refine Gn H 1 1 ?_;refine RSo [Sp1 x22] (SE.mk x21.ID x22 x21.SS x21.Age) ?_;refine GD ?_;exact W
    ·exact W
  ·refine Zgj fun all H=>Ds (GP H 6 9 [2,1,2,1,2,7] [(18,[.ptr 0 7,Sp2 x1.KN]),(1,[.ptr 0 8,Sp1 x1.TL]),(1,[.ptr 0 9,Sp2 x1.AK])] (Ds ?_));refine Zna 2 rfl ?_;have ⟨x6,ex6,h⟩:=Bs h;refine Zvd H.1 rfl trivial (Zzm ex6) (h:=?_);refine Gn H 1 7 ?_;refine Zna 5 rfl ?_;have ⟨x7,ex7,h⟩:=Bs h;refine Zvd H.1 rfl trivial (Zal ex7) (h:=Ds ?_);refine Zna 8 rfl ?_;have ⟨x8,ex8,h⟩:=Bs h;refine Zvd H.1 rfl trivial (Zzm ex8) (h:=Ds ?_);refine R1 ?_;refine Gn H 1 3 ?_;refine R1 ?_;refine Gn H 1 1 ?_;refine R1 ?_;refine GD ?_;exact W
 ·refine Zgj fun all H=>Ds (GP H 7 9 [4,1,3,8] [(4,[.ptr 0 0,.ptr 0 0,.ptr 0 2,Sp3 x1.DK.DI.SD]),(1,[.ptr 0 0,.ptr 0 4,Sp1 x1.DK.NE])] (Ds ?_));refine Zna 4 rfl ?_;have ⟨x2,ex2,h⟩:=Bs h;refine Zvd H.1 rfl trivial (Zlm ex2) (h:=?_);refine Gn H 3 5 ?_;refine Zna 8 rfl ?_;have ⟨x3,ex3,h⟩:=Bs h;refine Zvd H.1 rfl trivial (Zal ex3) (h:=Ds ?_);refine R1 ?_;refine Gn H 2 1 ?_;refine R1 ?_;refine GD ?_;exact W
def Zvx (x1 x2:Int) (x3 x4:Int) (x5:List SE) (x6:List SX) (x7:List Int) (x8:List KE) (x9:List Int) (x10:List KE):Option (List Int):=
 (Zat x1 x2 x3 x4 x5 x6 x7 x8 x9 x10 ((fun z=>Z8n z))).bind fun x11=>
 some x11
theorem Zwx {x1 x2 x3 x4 x5 x6 x7 x8 x9 x10 r} (h:Zvx x1 x2 x3 x4 x5 x6 x7 x8 x9 x10=some r):FTx 117 [.agg [.iv x1,.iv x2,.osl 0,.iv x3,.osl 1,.iv x4,Sp5 x5,.osl 2,.osl 3,.osl 4]] [] [Z5k x6,Sq4 x7,Z6k x8,Sq4 x9,Z6k x10] (.osl 5) [] [Z5k x6,Sq4 x7,Z6k x8,Sq4 x9,Z6k x10,Sq4 r]:=by refine Ft Zzs fun w0 M0=>?_;have ok:=Zzs;rw [Zvx] at h;refine Vg 8 ?_;refine VR [] [0,1,2,3,4] 1 5 h (fun e=>Zbt e ⟨by kernel_rfl,rfl,fun z r hz=>Z9n hz⟩) fun _ _ h=>?_;exact W
def Zxx (x14:(Bool×Int)):(Int×List SE)→Option (Bool×Int×List SE×Int)
| (x15,x16)=>some (decide (x14.2=0),x15,x16,x14.2)
def Zyx (x1:BK) (x2:Int) (x3 x4:Int) (x5 x6:Int) (x7:List SE) (x8:Int) (x9:List SX) (x10:List Int) (x11:List KE) (x12:List Int) (x13:List KE):Option (Bool×Int×List SE×Int):=
 (Z5t (decide (x2=0)) x2 x3 x4 x5 x6 x7 x8 x9 x10 x11 x12 x13).bind fun x14=>
 ifb x14.1 (
 (Zxx x14) (x1.LA,x1.SE)) (
 (Zxx x14) (x6,x7))
theorem Zzx {x1 x2 x3 x4 x5 x6 x7 x8 x9 x10 x11 x12 x13 r} (h:Zyx x1 x2 x3 x4 x5 x6 x7 x8 x9 x10 x11 x12 x13=some r):FTx 123 [.ptr 0 0,.agg (BK.row x1),.iv x2] [some ⟨138,[.iv x3,.iv x4,.osl 0,.iv x5,.osl 1,.iv x6,Sp5 x7,.osl 2,.osl 3,.osl 4,.nl,.nl,.iv x8]⟩] [Z5k x9,Sq4 x10,Z6k x11,Sq4 x12,Z6k x13] (.bv r.1) [some ⟨138,[.iv x3,.iv x4,.osl 0,.iv x5,.osl 1,.iv r.2.1,Sp5 r.2.2.1,.osl 2,.osl 3,.osl 4,.nl,.nl,.iv r.2.2.2]⟩] [Z5k x9,Sq4 x10,Z6k x11,Sq4 x12,Z6k x13]:=by
 refine Ft Z2t fun w0 M0=>?_;have ok:=Z2t;rw [Zyx] at h;refine Vg 12 ?_;refine VR [0] [0,1,2,3,4] 2 5 h Z6t fun x14 _ h=>?_;refine Vg 1 ?_;refine Vl [0,1] (fun s=>([],[some ⟨138,[.iv x3,.iv x4,.osl 0,.iv x5,.osl 1,.iv s.1,Sp5 s.2,.osl 2,.osl 3,.osl 4,.nl,.nl,.iv x14.2]⟩],[Z5k x9,Sq4 x10,Z6k x11,Sq4 x12,Z6k x13])) (Zxx x14) r ?_ fun J1=>?_
 ·rintro ⟨x15,x16⟩ h;rw [Zxx] at h;exact W
 ·exact W
def Z0y:(List SX×List Int)→Option (List SX×List Int)
| (x9,x10)=>some (x9,x10)
def Z1y (_x1 _x2 _x3:Int) (x4:List SX) (x5:List Int):Option (List SX×List Int):=
 (Zkm x4).bind fun x6=>
 (Z9l x5).bind fun x8=>
 Z0y (x6,x8)
theorem Z2y {x1 x2 x3 x4 x5 r} (h:Z1y x1 x2 x3 x4 x5=some r):FTx 185 [.agg [.iv x1,.iv x2,.osl 0,.iv x3,.osl 1]] [] [Z5k x4,Sq4 x5] (.agg [.iv x1,.iv x2,.osl 2,.iv x3,.osl 3]) [] [Z5k x4,Sq4 x5,Z5k r.1,Sq4 r.2]:=by
 refine Ft Zus fun w0 M0=>?_;have ok:=Zus;rw [Z1y] at h;refine Vg 6 ?_;refine Vl [1,2] (fun s=>([],[some ⟨61,[.iv x1,.iv x2,.osl 2,.iv x3,.osl 3]⟩,some ⟨61,[.iv 0,.iv 0,.nl,.iv 0,.nl]⟩],[Z5k x4,Sq4 x5,Z5k s.1,Sq4 s.2])) Z0y r ?_ fun J1=>?_
 ·rintro ⟨x9,x10⟩ h;rw [Z0y] at h;exact W
 ·refine Zgj fun all H=>?_;refine Gn H 3 9 ?_;refine Zoa 2 5 rfl ?_ ?_
  ·refine RV ?_;have ⟨x6,ex6,h⟩:=Bs h;refine Zoa 3 5 rfl ?_ ?_
   ·refine Znj H.1 [] [0] 2 2 (Zet ex6) (Ds ?_);refine R1 ?_;refine Gn H 2 4 ?_;refine RR [] [1] 2 3 h Zft fun x8 ex8 h=>?_;refine R1 ?_;refine Gn H 1 1 ?_;refine R1 ?_;refine GD ?_;exact W
   ·refine RV ?_;refine Zna 3 rfl (Znj H.1 [] [0] 2 2 (Zet ex6) ?_);refine Gn H 2 4 ?_;refine RR [] [1] 2 3 h Zft fun _ _ h=>?_;refine R1 ?_;refine Gn H 1 1 ?_;refine R1 ?_;refine GD ?_;exact W
  ·refine RV ?_;refine R1 ?_;refine RR [] [0] 2 2 h Zet fun _ _ h=>?_;refine Gn H 2 4 ?_;refine RR [] [1] 2 3 h Zft fun _ _ h=>?_;refine R1 ?_;refine Gn H 1 1 ?_;refine R1 ?_;refine GD ?_;exact W
@[go_sem] def e82:EC:=eQ Tryz.f82
theorem Z3y:FnOK Tryz.prog 82 Tryz.f82 e82 [] 2 17:=okA
def Z4y:Bool→Option Bool
| x4=>some x4
def Z5y (x1 x2:BK):Option Bool:=
 ifb (decide (x1.LA=x2.LA)) (
 (Z2o x1.SE x2.SE ((fun z=>Z1u z.1 z.2))).bind fun x3=>
 Z4y x3) (
 Z4y false)
theorem Z6y {x1 x2 r} (h:Z5y x1 x2=some r):FPx 84 [.agg (BK.row x1),.agg (BK.row x2)] (.bv r):=by
 have ok:=oJ 84 Tryz.f84 [.t 4] 2 15;refine FP ok fun w0 H0=>?_;rw [Z5y] at h;refine Vg 14 ?_;refine Vl [] (fun x4=>([(4,.bv x4)],[],[])) Z4y r ?_ fun J1=>?_
 ·intro x4 h;rw [Z4y] at h;exact W
 ·refine MC 10 h (fun h=>?_) fun h=>?_
  ·refine Vg 4 ?_;refine VB h (fun e=>Z3o e ⟨by kernel_rfl,rfl,fun z r hz=>Z2u hz⟩) fun _ _ h=>?_;exact W
  ·exact W
end
end NX
end Go.Proofs.YtgamgemlekpepaaGreat
