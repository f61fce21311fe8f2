/-
  The function narthex/node.own, lent own memory. Written by a program of ours (lb.py). No statement of the seat is proved here.
-/
import Derived.Test.YtgamgemlekpepaaGreatK27
import Derived.Test.YtgamgemlekpepaaGreatK28
import Derived.Test.YtgamgemlekpepaaGreatK29
set_option maxRecDepth 100000
set_option maxHeartbeats 40000000
namespace Go.Proofs.YtgamgemlekpepaaGreat
namespace NX
open Go
noncomputable section
def Z7y (x14:List SX) (x15:List Int) (x21:List KE) (x22:List Int) (x23:List KE):List SE→Option (List SX×List Int×List KE×List Int×List KE×List SE)
| x55=>some (x14,x15,x21,x22,x23,x55)
def Z8y (x31:Int):List SE→Option ((Int×List SE) ⊕ (List SX×List Int×List KE×List Int×List KE×List SE))
| x36=>some (.inl (wr (x31+1),x36))
def Z9y (x14:List SX) (x15:List Int) (x21:List KE) (x22:List Int) (x23:List KE) (x24:List SE):(Int×List SE)→Option ((Int×List SE) ⊕ (List SX×List Int×List KE×List Int×List KE×List SE))
| (x31,x32)=>
 ifb (decide (x31<(ln SE.row x24))) (
 (at_ x32 x31).bind fun x33=>
 (Z9l x33.NE).bind fun x34=>
 (Z8y x31) (x32.set (Int.toNat (x31)) (SE.mk x33.ID x34 x33.SS x33.Age))) (
 Option.map Sum.inr ((Z7y x14 x15 x21 x22 x23) x32))
def Zay (x5:List SE) (x14:List SX) (x15:List Int):(List KE×List Int×List KE)→Option (List SX×List Int×List KE×List Int×List KE×List SE)
| (x21,x22,x23)=>
 (Zol x5).bind fun x24=>
 loop (Z9y x14 x15 x21 x22 x23 x24) (0,x24)
def Zby (x5:List SE) (x6:List Int) (x9 x10:List KE):(List SX×List Int)→Option (List SX×List Int×List KE×List Int×List KE×List SE)
| (x14,x15)=>
 (Zym x9).bind fun x16=>
 (Z9l x6).bind fun x18=>
 (Zym x10).bind fun x20=>
 (Zay x5 x14 x15) (x16,x18,x20)
def Zcy (_x1 _x2:Int) (_x3 _x4:Int) (x5:List SE) (x6:List Int) (x7:List SX) (x8:List Int) (x9 x10:List KE):Option (List SX×List Int×List KE×List Int×List KE×List SE):=
 (Zkm x7).bind fun x11=>
 (Z9l x8).bind fun x13=>
 (Zby x5 x6 x9 x10) (x11,x13)
theorem Zdy {x1 x2 x3 x4 x5 x6 x7 x8 x9 x10 r} (h:Zcy x1 x2 x3 x4 x5 x6 x7 x8 x9 x10=some r):FTx 52 [.agg [.iv x1,.iv x2,.osl 0,.iv x3,.osl 1,.iv x4,Sp5 x5,.osl 2,Sp1 x6,.osl 3]] [] [Z5k x7,Sq4 x8,Z6k x9,Z6k x10] (.agg [.iv x1,.iv x2,.osl 4,.iv x3,.osl 5,.iv x4,.osl 9,.osl 6,.osl 7,.osl 8]) [] [Z5k x7,Sq4 x8,Z6k x9,Z6k x10,Z5k r.1,Sq4 r.2.1,Z6k r.2.2.1,Sq4 r.2.2.2.1,Z6k r.2.2.2.2.1,Z3k r.2.2.2.2.2]:=by
 refine Ft Zys fun w0 M0=>?_;have ok:=Zys;rw [Zcy] at h;refine Vg 6 ?_;refine Vl [1,2] (fun s=>([],[some ⟨67,[.iv x1,.iv x2,.osl 4,.iv x3,.osl 5,.iv x4,Sp5 x5,.osl 2,Sp1 x6,.osl 3]⟩,some ⟨67,[.iv 0,.iv 0,.nl,.iv 0,.nl,.iv 0,.nl,.nl,.nl,.nl]⟩],[Z5k x7,Sq4 x8,Z6k x9,Z6k x10,Z5k s.1,Sq4 s.2])) (Zby x5 x6 x9 x10) r ?_ fun J1=>?_
 ·rintro ⟨x14,x15⟩ h;rw [Zby] at h;refine Vg 1 ?_;refine Vl [1,2] (fun s=>([],[some ⟨67,[.iv x1,.iv x2,.osl 4,.iv x3,.osl 5,.iv x4,Sp5 x5,.osl 6,.osl 7,.osl 8]⟩,some ⟨67,[.iv 0,.iv 0,.nl,.iv 0,.nl,.iv 0,.nl,.nl,.nl,.nl]⟩],[Z5k x7,Sq4 x8,Z6k x9,Z6k x10,Z5k x14,Sq4 x15,Z6k s.1,Sq4 s.2.1,Z6k s.2.2])) (Zay x5 x14 x15) r ?_ fun J2=>?_
  ·rintro ⟨x21,x22,x23⟩ h;rw [Zay] at h;refine Vg 5 ?_;have ⟨x24,ex24,h⟩:=Bs h;refine Zud trivial (Zpl ex24) (h:=?_);refine Vg 13 ?_;refine Vm [1,2] (fun x55=>([],[],[],[(9,Z3k x55)])) (Z7y x14 x15 x21 x22 x23) r ?_ fun J3=>?_
   ·intro x55 h;rw [Z7y] at h;exact W
   ·refine Vg 1 ?_;refine Mm h [1,2,36,1] (fun s=>([(40,.iv s.1)],[],[],[(9,Z3k s.2)])) ?_;rintro n1 ⟨x31,x32⟩ y1 h hin1 hout1;rw [Z9y] at h;refine Vg 5 ?_;refine MI h (fun h=>?_) fun h=>?_
    ·refine Vg 8 ?_;refine Vm [1,2,36,2] (fun x36=>([],[],[],[(9,Z3k x36)])) (Z8y x31) y1 ?_ fun J4=>?_
     ·intro x36 h;rw [Z8y] at h;exact W
     ·refine Zgj fun all H=>Ds (GP H 6 9 [2,1,3,1,1,7] [(43,[.ptr 0 5,.ptr 0 6]),(1,[.iv x31,.ptr 0 5,.ptr 0 6]),(1,[.iv x31])] (Ds ?_));refine Zoa 2 6 rfl ?_ ?_
      ·refine RV ?_;refine R1 ?_;have ⟨x33,ex33,h⟩:=Bs h;refine RO ?_;refine RI ?_;refine Gn H 1 5 ?_;refine RO ?_;refine RL ?_;refine RB h Zbl fun x34 ex34 h=>?_;refine RO ?_;refine RI ?_;refine Gn H 1 1 ?_;refine RSo [Sp1 x34] (SE.mk x33.ID x34 x33.SS x33.Age) ?_;refine GD ?_;exact W
      ·refine RV ?_;have ⟨x33,ex33,h⟩:=Bs h;refine Zoa 2 8 rfl ?_ ?_
       ·refine RV ?_;refine RO ?_;refine RI ?_;refine Gn H 1 5 ?_;refine RO ?_;refine RL ?_;refine RB h Zbl fun x34 ex34 h=>?_;refine Zna 12 rfl (GI H.1 SE.row ex33 (Ds ?_));refine Gn H 1 1 ?_;refine RSo [Sp1 x34] (SE.mk x33.ID x34 x33.SS x33.Age) ?_;refine GD ?_;exact W
       ·refine RI ?_;refine Gn H 1 6 ?_;refine Zoa 2 10 rfl ?_ ?_
        ·refine RV ?_;refine RO ?_;refine RL ?_;refine RB h Zbl fun x34 ex34 h=>?_;refine RO ?_;refine RI ?_;refine Gn H 1 1 ?_;refine RSo [Sp1 x34] (SE.mk x33.ID x34 x33.SS x33.Age) ?_;refine GD ?_;exact W
        ·refine RL ?_;have ⟨x34,ex34,h⟩:=Bs h;refine Zoa 2 11 rfl ?_ ?_
         ·refine RV ?_;refine Zna 11 rfl (GC H.1 (Zbl ex34) (Ds ?_));refine RO ?_;refine RI ?_;refine Gn H 1 1 ?_;refine RSo [Sp1 x34] (SE.mk x33.ID x34 x33.SS x33.Age) ?_;refine GD ?_;exact W
         ·refine GC H.1 (Zbl ex34) (Ds ?_);refine R1 ?_;refine RO ?_;refine RI ?_;refine Gn H 1 1 ?_;refine RSo [Sp1 x34] (SE.mk x33.ID x34 x33.SS x33.Age) ?_;refine GD ?_;exact W
    ·exact W
  ·refine Zgj fun all H=>?_;refine Gn H 4 11 ?_;refine Zoa 1 7 rfl ?_ ?_
   ·refine RV ?_;have ⟨x16,ex16,h⟩:=Bs h;refine Zoa 2 7 rfl ?_ ?_
    ·refine Znj H.1 [] [2] 2 6 (Z3u ex16) (Ds ?_);have ⟨x18,ex18,h⟩:=Bs h;refine Zoa 5 7 rfl ?_ ?_
     ·refine Zvd H.1 rfl trivial (Zal ex18) (h:=Ds ?_);refine R1 ?_;refine Gn H 1 6 ?_;refine RR [] [3] 2 8 h Z3u fun x20 ex20 h=>?_;refine R1 ?_;refine Gn H 1 3 ?_;refine R1 ?_;refine Gn H 1 1 ?_;refine R1 ?_;refine GD ?_;exact W
     ·refine RV ?_;refine Gn H 1 7 ?_;refine Zna 5 rfl (Zvd H.1 rfl trivial (Zal ex18) (h:=Ds ?_));refine RR [] [3] 2 8 h Z3u fun _ _ h=>?_;refine R1 ?_;refine Gn H 1 3 ?_;refine R1 ?_;refine Gn H 1 1 ?_;refine R1 ?_;refine GD ?_;exact W
    ·refine RV ?_;refine Zna 2 rfl (Znj H.1 [] [2] 2 6 (Z3u ex16) ?_);refine Gn H 1 7 ?_;refine Zna 5 rfl ?_;have ⟨x18,ex18,h⟩:=Bs h;refine Zvd H.1 rfl trivial (Zal ex18) (h:=Ds ?_);refine RR [] [3] 2 8 h Z3u fun _ _ h=>?_;refine R1 ?_;refine Gn H 1 3 ?_;refine R1 ?_;refine Gn H 1 1 ?_;refine R1 ?_;refine GD ?_;exact W
   ·refine RV ?_;refine R1 ?_;refine RR [] [2] 2 6 h Z3u fun _ _ h=>?_;refine Gn H 1 7 ?_;refine Zna 5 rfl ?_;have ⟨x17,ex17,h⟩:=Bs h;refine Zvd H.1 rfl trivial (Zal ex17) (h:=Ds ?_);refine RR [] [3] 2 8 h Z3u fun _ _ h=>?_;refine R1 ?_;refine Gn H 1 3 ?_;refine R1 ?_;refine Gn H 1 1 ?_;refine Zna 14 rfl (RV ?_);refine GD ?_;exact W
 ·refine Zgj fun all H=>Ds (GP H 5 11 [3,2,2,9] [(4,[.ptr 0 0,.ptr 0 0,.ptr 0 2]),(2,[.ptr 0 0,.ptr 0 4])] (Ds ?_));refine Zoa 3 7 rfl ?_ ?_
  ·refine RV ?_;have ⟨x11,ex11,h⟩:=Bs h;refine Zoa 4 7 rfl ?_ ?_
   ·refine Znj H.1 [] [0] 2 4 (Zet ex11) (Ds ?_);refine R1 ?_;refine Gn H 3 5 ?_;refine RR [] [1] 2 5 h Zft fun x13 ex13 h=>?_;refine GE H.1 12 (Ds ?_);refine Gn H 2 1 ?_;refine R1 ?_;refine GD ?_;exact W
   ·refine RV ?_;refine Zna 4 rfl (Znj H.1 [] [0] 2 4 (Zet ex11) ?_);refine Gn H 3 5 ?_;refine RR [] [1] 2 5 h Zft fun _ _ h=>?_;refine GE H.1 12 (Ds ?_);refine Gn H 2 1 ?_;refine R1 ?_;refine GD ?_;exact W
  ·refine RV ?_;refine R1 ?_;refine RR [] [0] 2 4 h Zet fun _ _ h=>?_;refine Gn H 3 5 ?_;refine RR [] [1] 2 5 h Zft fun _ _ h=>?_;refine R1 ?_;refine Gn H 2 1 ?_;refine R1 ?_;refine GD ?_;exact W
def Zey:(Int×List SX)→Option (List SX)
| (x25,x26)=>
 (vw_ (ln SX.row x26) x25 (ln SX.row x26)).bind fun _=>
 (Zug x26 (Int.toNat (x25)) (Int.toNat (ln SX.row x26)-Int.toNat (x25)) (SX.mk 0 0 0 false false false false false)).bind fun x28=>
 (Z9c x28 0 x25).bind fun x29=>
 some x29
def Zfy (x12:Int):(Int×List SX)→Option ((Int×Int×List SX) ⊕ (List SX))
| (x17,x18)=>some (.inl (x17,wr (x12+1),x18))
def Zgy (p0:(SX→Option Bool)):(Int×Int×List SX)→Option ((Int×Int×List SX) ⊕ (List SX))
| (x11,x12,x13)=>
 ifb (decide (x12<(ln SX.row x13))) (
 (at_ x13 x12).bind fun x14=>
 (p0 x14).bind fun x15=>
 ifb (!x15) (
 (at_ x13 x11).bind fun _=>
 (Zfy x12) (wr (x11+1),x13.set (Int.toNat (x11)) x14)) (
 (Zfy x12) (x11,x13))) (
 Option.map Sum.inr (Zey (x11,x13)))
def Zhy (x1:List SX) (p0:(SX→Option Bool)):Option (List SX):=
 (Zkk x1 p0).bind fun x2=>
 ifb (decide (x2=((-1)))) (
 some x1) (
 loop (Zgy p0) (x2,wr (x2+1),x1))
theorem Ziy {x1 g0 caps0 p0 r} (h:Zhy x1 p0=some r) (hc0:CloOK Tryz.prog g0 caps0 (fun z=>[.agg (SX.row z)]) p0 (fun z=>.bv z)):FTx 140 [.osl 0,.clo g0 caps0] [] [Z5k x1] (.osl 1) [] [none,Z5k r]:=by
 refine Ft Zzt fun w0 M0=>?_;rw [Zhy] at h;refine Vg 8 ?_;refine VN (LR.slice 0 rfl) h (fun e=>Zlk e hc0) (fun _ _ h=>?_) (hp:=(by first | rfl | simp [go_sem,hc0.pu])) (ha:=(by first | exact Zrb _ | simp [go_sem,Zfb _ _ _ hc0.pu]));refine Vg 8 ?_;refine MI h (fun h=>?_) fun h=>?_
 ·refine Vg 5 ?_;refine Zlj 112 8 (Ds ?_);refine Zij 0 1 (Ds ?_);(try rw [Znh _ _ _ hc0.pu]);exact Td Zzt h
 ·refine Vg 8 ?_;refine Vl [0,1] (fun s=>([(5,.iv s.1)],[],[Z5k s.2])) Zey r ?_ fun J1=>?_
  ·rintro ⟨x25,x26⟩ h;rw [Zey] at h;refine Vg 4 ?_;have ⟨x27,ex27,h⟩:=Bs h;refine Zxg SX.row ex27 trivial rfl rfl rfl rfl ?_;have ⟨x28,ex28,h⟩:=Bs h;refine Z1h SX.row ex28 trivial rfl rfl (by first | exact Zrb _ | simp [go_sem]) (by first | rfl | simp [go_sem]) rfl rfl (Vg 5 ?_);have ⟨x29,ex29,h⟩:=Bs h;refine Zjf SX.row ex29 trivial rfl rfl rfl rfl (Vg 2 ?_);exact Td Zzt h
  ·refine Vg 1 ?_;refine Ml h [0,2] (fun s=>([(5,.iv s.1),(6,.iv s.2.1)],[],[Z5k s.2.2])) ?_ (hok:=by rintro ⟨x11,x12,x13⟩;first | rfl | (simp [go_sem];done) | simp [go_sem,Zqb _ hc0.pu]);rintro n1 ⟨x11,x12,x13⟩ y1 h hin1 hout1;rw [Zgy] at h;refine Vg 8 ?_;refine MI h (fun h=>?_) fun h=>?_
   ·refine Vg 7 ?_;have ⟨x14,ex14,h⟩:=Bs h;refine Zee SX.row ex14 trivial rfl rfl rfl (Zne SX.row ex14 trivial rfl rfl rfl (Vg 7 ?_));have ⟨x15,ex15,h⟩:=Bs h;refine Z3d trivial rfl hc0 (x:=x14) ex15 (by first | exact Zrb _ | simp [go_sem]) (by first | rfl | simp [go_sem,hc0.pu]) (Vg 2 ?_);refine Vl [0,2,4,1] (fun s=>([(5,.iv s.1)],[],[Z5k s.2])) (Zfy x12) y1 ?_ fun J2=>?_
    ·rintro ⟨x17,x18⟩ h;rw [Zfy] at h;refine Vg 6 ?_;exact Zsc h hin1 (hok:=by first | rfl | simp [go_sem,Zqb _ hc0.pu])
    ·refine MI h (fun h=>?_) fun h=>?_
     ·refine Vg 5 ?_;have ⟨x16,ex16,h⟩:=Bs h;refine Zee SX.row ex16 trivial rfl rfl rfl (Zve (SX.row x14) SX.row (y':=x14) ex16 trivial rfl rfl rfl (by first | exact Zrb _ | simp [go_sem]) rfl rfl rfl rfl (Vg 6 ?_));exact Ztc J2 h (hok:=by first | rfl | simp [go_sem,Zqb _ hc0.pu])
     ·refine Vg 1 ?_;exact Ztc J2 h (hok:=by first | rfl | simp [go_sem,Zqb _ hc0.pu])
   ·refine Vg 1 ?_;exact Ztc J1 (Zec h hout1) (hok:=by first | rfl | simp [go_sem])
def Zjy:Int→Option (Int×Int)
| x17=>some ((-1),x17)
def Zky (x1:List KE):(Int×Int)→Option ((Int×Int) ⊕ (Int×Int))
| (x7,x8)=>
 ifb (decide (x7<(ln KE.row x1))) (
 (at_ x1 x7).bind fun x9=>
 (Zfu x9 x8).bind fun x10=>
 ifb x10 (
 Option.map Sum.inr (some (x7,x9.PE))) (
 some (.inl (wr (x7+1),x9.PE)))) (
 Option.map Sum.inr (Zjy x8))
def Zly (x1:List KE) (x2:Int):Option (Int×Int):=loop (Zky x1) (0,x2)
theorem Zmy {x1 x2 r} (h:Zly x1 x2=some r):FTx 160 [Sp2 x1,.clo 106 [.ptr 0 0]] [some ⟨3,[.iv x2]⟩] [] (.iv r.1) [some ⟨3,[.iv r.2]⟩] []:=by
 refine Ft Zmk fun w0 M0=>?_;have ok:=Zmk;rw [Zly] at h;refine Vg 11 ?_;refine Vl [] (fun x17=>([],[some ⟨3,[.iv x17]⟩],[])) Zjy r ?_ fun J1=>?_
 ·intro x17 h;rw [Zjy] at h;exact W
 ·refine Vg 1 ?_;refine Ml h [0,2,5,1] (fun s=>([(8,.iv s.1)],[some ⟨3,[.iv s.2]⟩],[])) ?_;rintro n1 ⟨x7,x8⟩ y1 h hin1 hout1;rw [Zky] at h;refine Vg 5 ?_;refine MI h (fun h=>?_) fun h=>?_
  ·refine Vg 13 ?_;have ⟨x9,ex9,h⟩:=Bs h;refine Zjc KE.row ex9 trivial rfl rfl rfl (Vg 1 ?_);have ⟨x10,ex10,h⟩:=Bs h;refine Zbf [true] [] trivial rfl (Zgu ex10) (by kernel_rfl) (h:=?_);exact W
  ·exact W
def Zny:Bool→Option Bool
| x5=>some x5
def Zoy (x1:NO) (x2:KE):Option Bool:=
 (Zur x1.DK.DI.SD ((fun z=>Zeo z x2))).bind fun x3=>
 ifb (!x3) (
 ifb (decide (0≤x2.PE)) (
 ifb (decide (x2.PE<x1.DK.DI.ID)) (
 (Zco x1 x2.PE).bind fun x4=>
 ifb (decide (x4<x2.EP)) (
 Zny (decide (x2.EP≤65535))) (
 Zny false)) (
 Zny false)) (
 Zny false)) (
 Zny false)
theorem Zpy {x1 x2 r} (h:Zoy x1 x2=some r):FPx 77 [.agg (NO.row x1),.agg (KE.row x2)] (.bv r):=by
 have ok:=oJ 77 Tryz.f77 [.t 4] 2 40;refine FP ok fun w0 H0=>?_;rw [Zoy] at h;refine Vg 13 ?_;refine VN (LR.block 1 rfl rfl) h (fun e=>Zvr e ⟨by kernel_rfl,rfl,fun z r hz=>Zfo hz⟩) fun x3 _ h=>?_;refine Vg 3 ?_;refine Vl [] (fun x5=>([(4,.bv x5)],[],[])) Zny r ?_ fun J1=>?_
 ·intro x5 h;rw [Zny] at h;exact W
 ·refine Zgj fun all H=>Ds (GP H 3 28 [3,28] [(12,[.bv x3,.bv (!x3),.bv (!x3)])] (Ds ?_));refine Zdd 14 h rfl (fun _ h=>?_) fun _ h=>?_
  ·refine Ds (GP H 5 23 [8,23] [(15,[.ptr 1 0,.iv x2.PE,.bv (decide (0≤x2.PE)),.bv (decide (0≤x2.PE)),.bv (decide (0≤x2.PE))])] (Ds ?_));refine Zdd 19 h rfl (fun _ h=>?_) fun _ h=>?_
   ·refine Ds (GP H 9 14 [17,14] [(20,[.ptr 1 0,.iv x2.PE,.ptr 0 0,.ptr 0 0,.ptr 0 0,.iv x1.DK.DI.ID,.bv (decide (x2.PE<x1.DK.DI.ID)),.bv (decide (x2.PE<x1.DK.DI.ID)),.bv (decide (x2.PE<x1.DK.DI.ID))])] (Ds ?_));refine Zdd 28 h rfl (fun _ h=>?_) fun _ h=>?_
    ·refine Ds (GP H 5 9 [22,9] [(29,[.ptr 1 1,.iv x2.EP,.agg (NO.row x1),.ptr 1 0,.iv x2.PE])] (Ds ?_));refine RB h Zdo fun x4 _ h=>?_;refine GP H 3 5 [26,5] [(35,[.bv (decide (x4<x2.EP)),.bv (decide (x4<x2.EP)),.bv (decide (x4<x2.EP))])] (Ds ?_);refine Zdd 37 h rfl (fun _ h=>?_) fun _ h=>?_
     ·refine Ds (GP H 5 0 [31] [(4,[.bv (decide (x2.EP≤65535))]),(33,[.ptr 1 1,.iv x2.EP,.bv (decide (x2.EP≤65535)),.bv (decide (x2.EP≤65535))])] (Ds ?_));refine GD ?_;exact W
     ·refine Ds (GP H 5 0 [31] [(41,[.ff])] (Ds ?_));refine GD ?_;exact W
    ·refine Ds (GP H 14 0 [31] [(36,[.ff,.ff]),(3,[.ff])] (Ds ?_));refine GD ?_;exact W
   ·refine Ds (GP H 23 0 [31] [(27,[.ff,.ff]),(7,[.ff,.ff]),(3,[.ff])] (Ds ?_));refine GD ?_;exact W
  ·refine Ds (GP H 28 0 [31] [(18,[.ff,.ff]),(7,[.ff,.ff]),(7,[.ff,.ff]),(3,[.ff])] (Ds ?_));refine GD ?_;exact W
def Zqy:Unit→Option Bool
| ()=>some true
def Zry (x1:List KE):Int→Option (Int ⊕ Bool)
| x6=>
 ifb (decide (x6<(ln KE.row x1))) (
 (at_ x1 x6).bind fun x7=>
 (Z9c x1 0 x6).bind fun x8=>
 (Zxr x8 ((fun z=>Zgo z x7))).bind fun x9=>
 ifb x9 (
 Option.map Sum.inr (some false)) (
 some (.inl (wr (x6+1))))) (
 Option.map Sum.inr (Zqy ()))
def Zsy (x1:List KE):Option Bool:=loop (Zry x1) 0
theorem Zty {x1 r} (h:Zsy x1=some r):FPx 78 [Sp2 x1] (.bv r):=by
 have ok:=oJ 78 Tryz.f78 [.t 2] 1 17;refine FP ok fun w0 H0=>?_;rw [Zsy] at h;refine Vg 11 ?_;refine Vk [] (fun _=>[]) Zqy r ?_ fun J1=>?_
 ·rintro ⟨⟩ h;rw [Zqy] at h;exact W
 ·refine Vg 1 ?_;refine Mk h [0,1,4,2] (fun x6=>[(7,.iv x6)]) ?_;rintro n1 x6 y1 h hin1 hout1;rw [Zry] at h;refine Vg 5 ?_;refine MI h (fun h=>?_) fun h=>?_
  ·refine Vg 6 ?_;have ⟨x7,ex7,h⟩:=Bs h;refine Zjc KE.row ex7 trivial rfl rfl rfl (Vg 9 ?_);have ⟨x8,ex8,h⟩:=Bs h;refine Zld KE.row ex8 trivial rfl rfl rfl rfl (Vg 1 ?_);refine VN (LR.block 0 rfl rfl) h (fun e=>Zyr e ⟨by kernel_rfl,rfl,fun z r hz=>Zho hz⟩) fun _ _ h=>?_;refine Zg6 1 (Ds ?_);refine An ?_;exact W
  ·exact W
def Zuy (x1 x2:Edge):Option Int:=
 (Zpu x1.A x2.A).bind fun x3=>
 (Zpu x1.B x2.B).bind fun x4=>
 (Z1p ([x3,x4])).bind fun x5=>
 some x5
theorem Zvy {x1 x2 r} (h:Zuy x1 x2=some r):FPx 192 [.agg (Edge.row x1),.agg (Edge.row x2)] (.iv r):=by have ok:=oJ 192 Tryz.f192 [.t 4] 2 15;refine FP ok fun w0 H0=>?_;rw [Zuy] at h;refine Vg 7 ?_;refine Zgj fun all H=>Ds (GP H 8 5 [4,1,4,4] [(5,[.ptr 0 0,.iv x1.A,.ptr 1 0,.iv x2.A]),(1,[.ptr 0 1,.iv x1.B,.ptr 1 1,.iv x2.B])] (Ds ?_));refine RB h Zqu fun _ _ h=>?_;refine RB h Zqu fun _ _ h=>?_;refine R1 ?_;refine RQ (LR.slice 0 rfl) h Z2p fun _ _ h=>?_;refine Gn H 1 0 ?_;refine GD ?_;exact W
def Zwy:List Int→Option (List Int)
| x23=>some x23
def Zxy (x10:Int):List Int→Option ((Int×List Int) ⊕ (List Int))
| x16=>some (.inl (wr (x10+1),x16))
def Zyy (x1:Graph) (x2:Int) (x10:Int) (x11:List Int):Bool→Option ((Int×List Int) ⊕ (List Int))
| x13=>
 ifb x13 (
 (Zdp x1 x2 x10).bind fun x14=>
 ifb x14 (
 (Z8c 8 x11 ([x10])).bind fun x15=>
 (Zxy x10) x15) (
 (Zxy x10) x11)) (
 Option.map Sum.inr (Zwy x11))
def Zzy (x1:Graph) (x2:Int):(Int×List Int)→Option ((Int×List Int) ⊕ (List Int))
| (x10,x11)=>
 ifb (decide (x10<x1.N)) (
 (Zvu x1).bind fun x12=>
 (Zyy x1 x2 x10 x11) x12) (
 (Zyy x1 x2 x10 x11) false)
def Z0z (x1:Graph) (x2:Int):Option (List Int):=loop (Zzy x1 x2) (0,([]:List Int))
theorem Z1z {x1 x2 r} (h:Z0z x1 x2=some r):FOx 198 [.agg (Graph.row x1),.iv x2] 3 1 (List.map Z4d r):=by
 have ok:=oJ 198 Tryz.f198 [.t 4] 2 25;refine Zrd ok rfl fun w0 H0=>?_;rw [Z0z] at h;refine Vg 15 ?_;refine Vl [5,1] (fun x23=>([],[],[Sq4 x23])) Zwy r ?_ fun J1=>?_
 ·intro x23 h;rw [Zwy] at h;refine Vg 5 ?_;exact Zae Z4d ok h rfl rfl
 ·refine Vg 1 ?_;refine Mm h [1,2,2,1] (fun s=>([(6,.iv s.1)],[],[],[(0,Sq4 s.2)])) ?_;rintro n1 ⟨x10,x11⟩ y1 h hin1 hout1;rw [Zzy] at h;refine Vg 8 ?_;refine Vk [1,2,2,2] (fun x13=>[(15,.bv x13)]) (Zyy x1 x2 x10 x11) y1 ?_ fun J2=>?_
  ·intro x13 h;rw [Zyy] at h;refine MI h (fun h=>?_) fun h=>?_
   ·refine Vg 8 ?_;refine VB h Zep fun _ _ h=>?_;refine Vg 1 ?_;refine Vm [1,2,2,2] (fun x16=>([],[],[],[(0,Sq4 x16)])) (Zxy x10) y1 ?_ fun J3=>?_
    ·intro x16 h;rw [Zxy] at h;exact W
    ·refine MI h (fun h=>?_) fun h=>?_
     ·refine Vg 4 ?_;have ⟨x15,ex15,h⟩:=Bs h;refine Zmc Z4d ex15 trivial rfl rfl rfl (Vg 2 ?_);refine Zij 2 0 ?_;exact W
     ·exact W
   ·exact W
  ·refine MC 12 h (fun h=>?_) fun h=>?_
   ·refine Vg 1 ?_;refine VB h Zwu fun _ _ h=>?_;exact W
   ·exact W
theorem Z2z {x1 x2 r} (h:Z0z x1 x2=some r):FPx 198 [.agg (Graph.row x1),.iv x2] (Sp1 r):=(Z1z h).sealed
def Z3z (x2:DK) (x3:BK):(List KE×List Int×List KE)→Option NO
| (x9,x10,x11)=>some (NO.mk x2 x3 x9 x10 x11)
def Z4z (x1:NO):Option NO:=
 (Z6v x1.DK).bind fun x2=>
 (Zzp x1.BK).bind fun x3=>
 (Z8c 16 (([]:List KE)) x1.KN).bind fun x4=>
 (Z8c 8 (([]:List Int)) x1.TL).bind fun x6=>
 (Z8c 16 (([]:List KE)) x1.AK).bind fun x8=>
 (Z3z x2 x3) (x4,x6,x8)
theorem Z5z {x1 r} (h:Z4z x1=some r):FPx 30 [.agg (NO.row x1)] (.agg (NO.row r)):=by
 have ok:=oJ 30 Tryz.f30 [.c 2 (some 10)] 1 26;refine FP ok fun w0 H0=>?_;rw [Z4z] at h;refine Vg 6 ?_;have ⟨x2,ex2,h⟩:=Bs h;have ⟨x3,ex3,h⟩:=Bs h;have q0:=Z7v ex2;have q1:=Z0q ex3;refine Zgj fun all H=>Gs ?_;refine Vg 1 ?_;refine Vl [1,2] (fun s=>([],[some ⟨67,[.iv x2.DI.ID,.iv x2.DI.PH,Sp3 x2.DI.SD,.iv x2.TH,Sp1 x2.NE,.iv x3.LA,Sp5 x3.SE,.osl 1,.osl 3,.osl 5]⟩,some ⟨67,[.iv 0,.iv 0,.nl,.iv 0,.nl,.iv 0,.nl,.nl,.nl,.nl]⟩],[none,Z6k s.1,none,Sq4 s.2.1,none,Z6k s.2.2])) (Z3z x2 x3) r ?_ fun J1=>?_
 ·rintro ⟨x9,x10,x11⟩ h;rw [Z3z] at h;refine Vg 5 ?_;refine Zjj 1 (Ds ?_);refine Zjj 3 (Ds ?_);refine Zjj 5 ?_;exact W
 ·refine Zgj fun all H=>Ds (GP H 6 12 [0,1,2,2,2,2,2,7] [(12,[.ptr 0 7,Sp2 x1.KN]),(2,[.ptr 0 8,Sp1 x1.TL]),(2,[.ptr 0 9,Sp2 x1.AK])] (Ds ?_));refine Zpa 0 4 8 rfl ?_ ?_ ?_
  ·refine RV ?_;have ⟨x4,ex4,h⟩:=Bs h;refine Zpa 3 4 8 rfl ?_ ?_ ?_
   ·refine GA KE.row ex4 H.1 ?_;refine Gn H 1 9 ?_;refine Zoa 4 8 rfl ?_ ?_
    ·refine RV ?_;have ⟨x6,ex6,h⟩:=Bs h;refine Zoa 7 8 rfl ?_ ?_
     ·refine GA Z4d ex6 H.1 (Ds ?_);refine R1 ?_;refine Zna 11 rfl ?_;have ⟨x8,ex8,h⟩:=Bs h;refine GA KE.row ex8 H.1 (Ds ?_);refine R1 ?_;refine Gn H 1 3 ?_;refine R1 ?_;refine GN H 1 1 (Ds ?_);refine An (R1 ?_);refine GD ?_;exact W
     ·refine RV ?_;refine Zna 7 rfl (GA Z4d ex6 H.1 (Ds ?_));refine Zna 11 rfl ?_;have ⟨x8,ex8,h⟩:=Bs h;refine GA KE.row ex8 H.1 (Ds ?_);refine R1 ?_;refine Gn H 1 3 ?_;refine R1 ?_;refine GN H 1 1 (Ds ?_);refine An (R1 ?_);refine GD (Zij 4 3 ?_);exact W
    ·refine RV ?_;refine R1 ?_;refine Zna 7 rfl ?_;have ⟨x6,ex6,h⟩:=Bs h;refine GA Z4d ex6 H.1 (Ds ?_);refine Zna 11 rfl ?_;have ⟨x7,ex7,h⟩:=Bs h;refine GA KE.row ex7 H.1 (Ds ?_);refine R1 ?_;refine Gn H 1 3 ?_;refine Zna 15 rfl (RV ?_);refine Gn H 1 1 ?_;refine R1 ?_;refine GD (Zij 4 3 ?_);exact W
   ·refine RV ?_;refine Zoa 3 8 rfl ?_ ?_
    ·refine GA KE.row ex4 H.1 ?_;refine Gn H 1 8 ?_;have ⟨x6,ex6,h⟩:=Bs h;refine Zoa 7 8 rfl ?_ ?_
     ·refine GA Z4d ex6 H.1 (Ds ?_);refine R1 ?_;refine Zna 11 rfl ?_;have ⟨x8,ex8,h⟩:=Bs h;refine GA KE.row ex8 H.1 (Ds ?_);refine R1 ?_;refine Gn H 1 3 ?_;refine R1 ?_;refine GN H 1 1 (Ds ?_);refine An (R1 ?_);refine GD (Zij 2 1 ?_);exact W
     ·refine RV ?_;refine Zna 7 rfl (GA Z4d ex6 H.1 (Ds ?_));refine Zna 11 rfl ?_;have ⟨x8,ex8,h⟩:=Bs h;refine GA KE.row ex8 H.1 (Ds ?_);refine R1 ?_;refine Gn H 1 3 ?_;refine R1 ?_;refine GN H 1 1 (Ds ?_);refine An (R1 ?_);refine GD (Zij 2 1 (Zij 4 3 ?_));exact W
    ·refine RV ?_;refine Zna 3 rfl (GA KE.row ex4 H.1 ?_);refine Gn H 1 7 ?_;refine Zna 7 rfl ?_;have ⟨x6,ex6,h⟩:=Bs h;refine GA Z4d ex6 H.1 (Ds ?_);refine Zna 11 rfl ?_;have ⟨x7,ex7,h⟩:=Bs h;refine GA KE.row ex7 H.1 (Ds ?_);refine R1 ?_;refine Gn H 1 3 ?_;refine R1 ?_;refine Gn H 1 1 ?_;refine R1 ?_;refine GD (Zij 3 1 (Zij 4 3 ?_));exact W
   ·refine RV ?_;refine Zoa 3 4 rfl ?_ ?_
    ·refine GA KE.row ex4 H.1 ?_;refine Gn H 1 8 ?_;refine R1 ?_;refine Zna 7 rfl ?_;have ⟨x6,ex6,h⟩:=Bs h;refine GA Z4d ex6 H.1 (Ds ?_);refine Zna 11 rfl ?_;have ⟨x7,ex7,h⟩:=Bs h;refine GA KE.row ex7 H.1 (Ds ?_);refine R1 ?_;refine Gn H 1 3 ?_;refine R1 ?_;refine Gn H 1 1 ?_;refine R1 ?_;refine GD (Zij 2 1 (Zij 4 3 ?_));exact W
    ·refine RV ?_;refine Zna 3 rfl (GA KE.row ex4 H.1 ?_);refine Gn H 1 7 ?_;refine Zna 7 rfl ?_;have ⟨x6,ex6,h⟩:=Bs h;refine GA Z4d ex6 H.1 (Ds ?_);refine Zna 11 rfl ?_;have ⟨x7,ex7,h⟩:=Bs h;refine GA KE.row ex7 H.1 (Ds ?_);refine R1 ?_;refine Gn H 1 3 ?_;refine R1 ?_;refine Gn H 1 1 ?_;refine R1 ?_;refine GD (Zij 3 1 (Zij 4 3 ?_));exact W
  ·refine RV ?_;refine Zoa 0 8 rfl ?_ ?_
   ·refine RV ?_;have ⟨x4,ex4,h⟩:=Bs h;refine Zoa 3 8 rfl ?_ ?_
    ·refine GA KE.row ex4 H.1 ?_;refine Gn H 1 8 ?_;have ⟨x6,ex6,h⟩:=Bs h;refine Zoa 7 8 rfl ?_ ?_
     ·refine GA Z4d ex6 H.1 (Ds ?_);refine R1 ?_;refine Zna 11 rfl ?_;have ⟨x8,ex8,h⟩:=Bs h;refine GA KE.row ex8 H.1 (Ds ?_);refine R1 ?_;refine Gn H 1 3 ?_;refine R1 ?_;refine GN H 1 1 (Ds ?_);refine An (R1 ?_);refine GD (Zij 2 1 ?_);exact W
     ·refine RV ?_;refine Zna 7 rfl (GA Z4d ex6 H.1 (Ds ?_));refine Zna 11 rfl ?_;have ⟨x8,ex8,h⟩:=Bs h;refine GA KE.row ex8 H.1 (Ds ?_);refine R1 ?_;refine Gn H 1 3 ?_;refine R1 ?_;refine GN H 1 1 (Ds ?_);refine An (R1 ?_);refine GD (Zij 2 1 (Zij 4 3 ?_));exact W
    ·refine RV ?_;refine Zna 3 rfl (GA KE.row ex4 H.1 ?_);refine Gn H 1 7 ?_;refine Zna 7 rfl ?_;have ⟨x6,ex6,h⟩:=Bs h;refine GA Z4d ex6 H.1 (Ds ?_);refine Zna 11 rfl ?_;have ⟨x7,ex7,h⟩:=Bs h;refine GA KE.row ex7 H.1 (Ds ?_);refine R1 ?_;refine Gn H 1 3 ?_;refine R1 ?_;refine Gn H 1 1 ?_;refine R1 ?_;refine GD (Zij 3 1 (Zij 4 3 ?_));exact W
   ·refine RV ?_;refine R1 ?_;refine Zna 3 rfl ?_;have ⟨x4,ex4,h⟩:=Bs h;refine GA KE.row ex4 H.1 ?_;refine Gn H 1 7 ?_;refine Zna 7 rfl ?_;have ⟨x5,ex5,h⟩:=Bs h;refine GA Z4d ex5 H.1 (Ds ?_);refine Zna 11 rfl ?_;have ⟨x6,ex6,h⟩:=Bs h;refine GA KE.row ex6 H.1 (Ds ?_);refine R1 ?_;refine Gn H 1 3 ?_;refine R1 ?_;refine Gn H 1 1 ?_;refine R1 ?_;refine GD (Zij 3 1 (Zij 4 3 ?_));exact W
  ·refine RV ?_;refine Zoa 0 4 rfl ?_ ?_
   ·refine RV ?_;have ⟨x4,ex4,h⟩:=Bs h;refine Zoa 3 4 rfl ?_ ?_
    ·refine GA KE.row ex4 H.1 ?_;refine Gn H 1 8 ?_;refine R1 ?_;refine Zna 7 rfl ?_;have ⟨x6,ex6,h⟩:=Bs h;refine GA Z4d ex6 H.1 (Ds ?_);refine Zna 11 rfl ?_;have ⟨x7,ex7,h⟩:=Bs h;refine GA KE.row ex7 H.1 (Ds ?_);refine R1 ?_;refine Gn H 1 3 ?_;refine R1 ?_;refine Gn H 1 1 ?_;refine R1 ?_;refine GD (Zij 2 1 (Zij 4 3 ?_));exact W
    ·refine RV ?_;refine Zna 3 rfl (GA KE.row ex4 H.1 ?_);refine Gn H 1 7 ?_;refine Zna 7 rfl ?_;have ⟨x6,ex6,h⟩:=Bs h;refine GA Z4d ex6 H.1 (Ds ?_);refine Zna 11 rfl ?_;have ⟨x7,ex7,h⟩:=Bs h;refine GA KE.row ex7 H.1 (Ds ?_);refine R1 ?_;refine Gn H 1 3 ?_;refine R1 ?_;refine Gn H 1 1 ?_;refine R1 ?_;refine GD (Zij 3 1 (Zij 4 3 ?_));exact W
   ·refine RV ?_;refine R1 ?_;refine Zna 3 rfl ?_;have ⟨x4,ex4,h⟩:=Bs h;refine GA KE.row ex4 H.1 ?_;refine Gn H 1 7 ?_;refine Zna 7 rfl ?_;have ⟨x5,ex5,h⟩:=Bs h;refine GA Z4d ex5 H.1 (Ds ?_);refine Zna 11 rfl ?_;have ⟨x6,ex6,h⟩:=Bs h;refine GA KE.row ex6 H.1 (Ds ?_);refine R1 ?_;refine Gn H 1 3 ?_;refine R1 ?_;refine Gn H 1 1 ?_;refine R1 ?_;refine GD (Zij 3 1 (Zij 4 3 ?_));exact W
end
end NX
end Go.Proofs.YtgamgemlekpepaaGreat
