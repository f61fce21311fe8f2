/-
  The function narthex/drink.own, lent own memory. Written by a program of ours (lb.py). No statement of the seat is proved here.
-/
import Derived.Test.YtjemlejoladlcaaGreatL18
import Derived.Test.YtjemlejoladlcaaGreatL19
set_option maxRecDepth 100000
set_option maxHeartbeats 40000000
namespace Go.Proofs.YtjemlejoladlcaaGreat
namespace NX
open Go
noncomputable section
def VU:(List SX×List Int)→Option (List SX×List Int)
| (x9,x10)=>some (x9,x10)
def Jw (_x1 _x2 _x3:Int) (x4:List SX) (x5:List Int):Option (List SX×List Int):=
 (Eu x4).bind fun x6=>
 (CF x5).bind fun x8=>
 VU (x6,x8)
theorem Zh {x1 x2 x3 x4 x5 r} (h:Jw x1 x2 x3 x4 x5=some r):FTx 233 [.agg [.iv x1,.iv x2,.osl 0,.iv x3,.osl 1]] [] [Ac x4,A5 x5] (.agg [.iv x1,.iv x2,.osl 2,.iv x3,.osl 3]) [] [Ac x4,A5 x5,Ac r.1,A5 r.2]:=by
 refine Ft kC fun w0 M0=>?_;have ok:=kC;rw [Jw] at h;refine Vg 6 ?_;refine Vl [1,2] (fun s=>([],[some ⟨42,[.iv x1,.iv x2,.osl 2,.iv x3,.osl 3]⟩,some ⟨42,[.iv 0,.iv 0,.nl,.iv 0,.nl]⟩],[Ac x4,A5 x5,Ac s.1,A5 s.2])) VU r ?_ fun J1=>?_
 ·rintro ⟨x9,x10⟩ h;rw [VU] at h;exact W
 ·refine Ai fun all H=>?_;refine Gn H 3 9 ?_;refine Ag 2 5 rfl ?_ ?_
  ·refine RV ?_;have ⟨x6,ex6,h⟩:=Bs h;refine Ag 3 5 rfl ?_ ?_
   ·refine Gi H.1 [] [0] 2 2 (LH ex6) (Ds ?_);refine R1 ?_;refine Gn H 2 4 ?_;refine RR [] [1] 2 3 h Pj fun x8 ex8 h=>?_;refine R1 ?_;refine Gn H 1 1 ?_;refine R1 ?_;refine GD ?_;exact W
   ·refine RV ?_;refine A6 3 rfl (Gi H.1 [] [0] 2 2 (LH ex6) ?_);refine Gn H 2 4 ?_;refine RR [] [1] 2 3 h Pj fun _ _ h=>?_;refine R1 ?_;refine Gn H 1 1 ?_;refine R1 ?_;refine GD ?_;exact W
  ·refine RV ?_;refine R1 ?_;refine RR [] [0] 2 2 h LH fun _ _ h=>?_;refine Gn H 2 4 ?_;refine RR [] [1] 2 3 h Pj fun _ _ h=>?_;refine R1 ?_;refine Gn H 1 1 ?_;refine R1 ?_;refine GD ?_;exact W
@[go_sem] def ry:EC:=eQ Tryz.f141
theorem Yr:FnOK Tryz.prog 141 Tryz.f141 ry [] 2 17:=B6
def SU:Bool→Option Bool
| x4=>some x4
def SR (x1 x2:BK):Option Bool:=
 A0 (decide (x1.LA=x2.LA)) (
 (Tp x1.SE x2.SE ((fun z=>NY z.1 z.2))).bind fun x3=>
 SU x3) (
 SU false)
theorem vJ {x1 x2 r} (h:SR x1 x2=some r):FPx 119 [.agg (BK.row x1),.agg (BK.row x2)] (.bv r):=by
 have ok:=oJ 119 Tryz.f119 [.t 4] 2 15;refine FP ok fun w0 H0=>?_;rw [SR] at h;refine Vg 14 ?_;refine Vl [] (fun x4=>([(4,.bv x4)],[],[])) SU r ?_ fun J1=>?_
 ·intro x4 h;rw [SU] at h;exact W
 ·refine MC 10 h (fun h=>?_) fun h=>W;refine Vg 4 ?_;refine VB h (fun e=>w4 e ⟨by kernel_rfl,rfl,fun z r hz=>vK hz⟩) fun _ _ h=>?_;exact W
def Xd (x14:List SX) (x15:List Int) (x21:List KE) (x22:List Int) (x23:List KE):List SE→Option (List SX×List Int×List KE×List Int×List KE×List SE)
| x55=>some (x14,x15,x21,x22,x23,x55)
def Xe (x31:Int):List SE→Option ((Int×List SE) ⊕ (List SX×List Int×List KE×List Int×List KE×List SE))
| x36=>some (.inl (wr (x31+1),x36))
def Xf (x14:List SX) (x15:List Int) (x21:List KE) (x22:List Int) (x23:List KE) (x24:List SE):(Int×List SE)→Option ((Int×List SE) ⊕ (List SX×List Int×List KE×List Int×List KE×List SE))
| (x31,x32)=>
 A0 (decide (x31<(ln SE.row x24))) (
 (A4 x32 x31).bind fun x33=>
 (CF x33.NE).bind fun x34=>
 (Xe x31) (x32.set (Int.toNat (x31)) (SE.mk x33.ID x34 x33.SS x33.Age))) (
 Option.map Sum.inr ((Xd x14 x15 x21 x22 x23) x32))
def Xc (x5:List SE) (x14:List SX) (x15:List Int):(List KE×List Int×List KE)→Option (List SX×List Int×List KE×List Int×List KE×List SE)
| (x21,x22,x23)=>
 (IB x5).bind fun x24=>
 loop (Xf x14 x15 x21 x22 x23 x24) (0,x24)
def Xb (x5:List SE) (x6:List Int) (x9 x10:List KE):(List SX×List Int)→Option (List SX×List Int×List KE×List Int×List KE×List SE)
| (x14,x15)=>
 (Et x9).bind fun x16=>
 (CF x6).bind fun x18=>
 (Et x10).bind fun x20=>
 (Xc x5 x14 x15) (x16,x18,x20)
def NM (_x1 _x2:Int) (_x3 _x4:Int) (x5:List SE) (x6:List Int) (x7:List SX) (x8:List Int) (x9 x10:List KE):Option (List SX×List Int×List KE×List Int×List KE×List SE):=
 (Eu x7).bind fun x11=>
 (CF x8).bind fun x13=>
 (Xb x5 x6 x9 x10) (x11,x13)
theorem Z1H {x1 x2 x3 x4 x5 x6 x7 x8 x9 x10 r} (h:NM x1 x2 x3 x4 x5 x6 x7 x8 x9 x10=some r):FTx 87 [.agg [.iv x1,.iv x2,.osl 0,.iv x3,.osl 1,.iv x4,Av x5,.osl 2,Ab x6,.osl 3]] [] [Ac x7,A5 x8,A9 x9,A9 x10] (.agg [.iv x1,.iv x2,.osl 4,.iv x3,.osl 5,.iv x4,.osl 9,.osl 6,.osl 7,.osl 8]) [] [Ac x7,A5 x8,A9 x9,A9 x10,Ac r.1,A5 r.2.1,A9 r.2.2.1,A5 r.2.2.2.1,A9 r.2.2.2.2.1,AX r.2.2.2.2.2]:=by
 refine Ft OS fun w0 M0=>?_;have ok:=OS;rw [NM] at h;refine Vg 6 ?_;refine Vl [1,2] (fun s=>([],[some ⟨48,[.iv x1,.iv x2,.osl 4,.iv x3,.osl 5,.iv x4,Av x5,.osl 2,Ab x6,.osl 3]⟩,some ⟨48,[.iv 0,.iv 0,.nl,.iv 0,.nl,.iv 0,.nl,.nl,.nl,.nl]⟩],[Ac x7,A5 x8,A9 x9,A9 x10,Ac s.1,A5 s.2])) (Xb x5 x6 x9 x10) r ?_ fun J1=>?_
 ·rintro ⟨x14,x15⟩ h;rw [Xb] at h;refine Vg 1 ?_;refine Vl [1,2] (fun s=>([],[some ⟨48,[.iv x1,.iv x2,.osl 4,.iv x3,.osl 5,.iv x4,Av x5,.osl 6,.osl 7,.osl 8]⟩,some ⟨48,[.iv 0,.iv 0,.nl,.iv 0,.nl,.iv 0,.nl,.nl,.nl,.nl]⟩],[Ac x7,A5 x8,A9 x9,A9 x10,Ac x14,A5 x15,A9 s.1,A5 s.2.1,A9 s.2.2])) (Xc x5 x14 x15) r ?_ fun J2=>?_
  ·rintro ⟨x21,x22,x23⟩ h;rw [Xc] at h;refine Vg 5 ?_;have ⟨x24,ex24,h⟩:=Bs h;refine Ec trivial (TZ ex24) (h:=?_);refine Vg 13 ?_;refine Vm [1,2] (fun x55=>([],[],[],[(9,AX x55)])) (Xd x14 x15 x21 x22 x23) r ?_ fun J3=>?_
   ·intro x55 h;rw [Xd] at h;exact W
   ·refine Vg 1 ?_;refine Mm h [1,2,36,1] (fun s=>([(40,.iv s.1)],[],[],[(9,AX s.2)])) ?_;rintro n1 ⟨x31,x32⟩ y1 h hin1 hout1;rw [Xf] at h;refine Vg 5 ?_;refine MI h (fun h=>?_) fun h=>W;refine Vg 8 ?_;refine Vm [1,2,36,2] (fun x36=>([],[],[],[(9,AX x36)])) (Xe x31) y1 ?_ fun J4=>?_
    ·intro x36 h;rw [Xe] at h;exact W
    ·refine Ai fun all H=>Ds (GP H 6 9 [2,1,3,1,1,7] [(43,[.ptr 0 5,.ptr 0 6]),(1,[.iv x31,.ptr 0 5,.ptr 0 6]),(1,[.iv x31])] (Ds ?_));refine Ag 2 6 rfl ?_ ?_
     ·refine RV ?_;refine R1 ?_;have ⟨x33,ex33,h⟩:=Bs h;refine RO ?_;refine RI ?_;refine Gn H 1 5 ?_;refine RO ?_;refine RL ?_;refine RB h Bv fun x34 ex34 h=>?_;refine RO ?_;refine RI ?_;refine Gn H 1 1 ?_;refine Bd [Ab x34] (SE.mk x33.ID x34 x33.SS x33.Age) ?_;refine GD ?_;exact W
     ·refine RV ?_;have ⟨x33,ex33,h⟩:=Bs h;refine Ag 2 8 rfl ?_ ?_
      ·refine RV ?_;refine RO ?_;refine RI ?_;refine Gn H 1 5 ?_;refine RO ?_;refine RL ?_;refine RB h Bv fun x34 ex34 h=>?_;refine A6 12 rfl (GI H.1 SE.row ex33 (Ds ?_));refine Gn H 1 1 ?_;refine Bd [Ab x34] (SE.mk x33.ID x34 x33.SS x33.Age) ?_;refine GD ?_;exact W
      ·refine RI ?_;refine Gn H 1 6 ?_;refine Ag 2 10 rfl ?_ ?_
       ·refine RV ?_;refine RO ?_;refine RL ?_;refine RB h Bv fun x34 ex34 h=>?_;refine RO ?_;refine RI ?_;refine Gn H 1 1 ?_;refine Bd [Ab x34] (SE.mk x33.ID x34 x33.SS x33.Age) ?_;refine GD ?_;exact W
       ·refine RL ?_;have ⟨x34,ex34,h⟩:=Bs h;refine Ag 2 11 rfl ?_ ?_
        ·refine RV ?_;refine A6 11 rfl (GC H.1 (Bv ex34) (Ds ?_));refine RO ?_;refine RI ?_;refine Gn H 1 1 ?_;refine Bd [Ab x34] (SE.mk x33.ID x34 x33.SS x33.Age) ?_;refine GD ?_;exact W
        ·refine GC H.1 (Bv ex34) (Ds ?_);refine R1 ?_;refine RO ?_;refine RI ?_;refine Gn H 1 1 ?_;refine Bd [Ab x34] (SE.mk x33.ID x34 x33.SS x33.Age) ?_;refine GD ?_;exact W
  ·refine Ai fun all H=>?_;refine Gn H 4 11 ?_;refine Ag 1 7 rfl ?_ ?_
   ·refine RV ?_;have ⟨x16,ex16,h⟩:=Bs h;refine Ag 2 7 rfl ?_ ?_
    ·refine Gi H.1 [] [2] 2 6 (K8 ex16) (Ds ?_);have ⟨x18,ex18,h⟩:=Bs h;refine Ag 5 7 rfl ?_ ?_
     ·refine AT H.1 rfl trivial (Eg ex18) (h:=Ds ?_);refine R1 ?_;refine Gn H 1 6 ?_;refine RR [] [3] 2 8 h K8 fun x20 ex20 h=>?_;refine R1 ?_;refine Gn H 1 3 ?_;refine R1 ?_;refine Gn H 1 1 ?_;refine R1 ?_;refine GD ?_;exact W
     ·refine RV ?_;refine Gn H 1 7 ?_;refine A6 5 rfl (AT H.1 rfl trivial (Eg ex18) (h:=Ds ?_));refine RR [] [3] 2 8 h K8 fun _ _ h=>?_;refine R1 ?_;refine Gn H 1 3 ?_;refine R1 ?_;refine Gn H 1 1 ?_;refine R1 ?_;refine GD ?_;exact W
    ·refine RV ?_;refine A6 2 rfl (Gi H.1 [] [2] 2 6 (K8 ex16) ?_);refine Gn H 1 7 ?_;refine A6 5 rfl ?_;have ⟨x18,ex18,h⟩:=Bs h;refine AT H.1 rfl trivial (Eg ex18) (h:=Ds ?_);refine RR [] [3] 2 8 h K8 fun _ _ h=>?_;refine R1 ?_;refine Gn H 1 3 ?_;refine R1 ?_;refine Gn H 1 1 ?_;refine R1 ?_;refine GD ?_;exact W
   ·refine RV ?_;refine R1 ?_;refine RR [] [2] 2 6 h K8 fun _ _ h=>?_;refine Gn H 1 7 ?_;refine A6 5 rfl ?_;have ⟨x17,ex17,h⟩:=Bs h;refine AT H.1 rfl trivial (Eg ex17) (h:=Ds ?_);refine RR [] [3] 2 8 h K8 fun _ _ h=>?_;refine R1 ?_;refine Gn H 1 3 ?_;refine R1 ?_;refine Gn H 1 1 ?_;refine A6 14 rfl (RV ?_);refine GD ?_;exact W
 ·refine Ai fun all H=>Ds (GP H 5 11 [3,2,2,9] [(4,[.ptr 0 0,.ptr 0 0,.ptr 0 2]),(2,[.ptr 0 0,.ptr 0 4])] (Ds ?_));refine Ag 3 7 rfl ?_ ?_
  ·refine RV ?_;have ⟨x11,ex11,h⟩:=Bs h;refine Ag 4 7 rfl ?_ ?_
   ·refine Gi H.1 [] [0] 2 4 (LH ex11) (Ds ?_);refine R1 ?_;refine Gn H 3 5 ?_;refine RR [] [1] 2 5 h Pj fun x13 ex13 h=>?_;refine GE H.1 12 (Ds ?_);refine Gn H 2 1 ?_;refine R1 ?_;refine GD ?_;exact W
   ·refine RV ?_;refine A6 4 rfl (Gi H.1 [] [0] 2 4 (LH ex11) ?_);refine Gn H 3 5 ?_;refine RR [] [1] 2 5 h Pj fun _ _ h=>?_;refine GE H.1 12 (Ds ?_);refine Gn H 2 1 ?_;refine R1 ?_;refine GD ?_;exact W
  ·refine RV ?_;refine R1 ?_;refine RR [] [0] 2 4 h LH fun _ _ h=>?_;refine Gn H 3 5 ?_;refine RR [] [1] 2 5 h Pj fun _ _ h=>?_;refine R1 ?_;refine Gn H 2 1 ?_;refine R1 ?_;refine GD ?_;exact W
def Xx:(Int×List SX)→Option (List SX)
| (x25,x26)=>
 (DE (ln SX.row x26) x25 (ln SX.row x26)).bind fun _=>
 (H9 x26 (Int.toNat (x25)) (Int.toNat (ln SX.row x26)-Int.toNat (x25)) (SX.mk 0 0 0 false false false false false)).bind fun x28=>
 (Cj x28 0 x25).bind fun x29=>
 some x29
def Og (x12:Int):(Int×List SX)→Option ((Int×Int×List SX) ⊕ (List SX))
| (x17,x18)=>some (.inl (x17,wr (x12+1),x18))
def Tk (p0:(SX→Option Bool)):(Int×Int×List SX)→Option ((Int×Int×List SX) ⊕ (List SX))
| (x11,x12,x13)=>
 A0 (decide (x12<(ln SX.row x13))) (
 (A4 x13 x12).bind fun x14=>
 (p0 x14).bind fun x15=>
 A0 (!x15) (
 (A4 x13 x11).bind fun _=>
 (Og x12) (wr (x11+1),x13.set (Int.toNat (x11)) x14)) (
 (Og x12) (x11,x13))) (
 Option.map Sum.inr (Xx (x11,x13)))
def Oe (x1:List SX) (p0:(SX→Option Bool)):Option (List SX):=
 (Hw x1 p0).bind fun x2=>
 A0 (decide (x2=((-1)))) (
 some x1) (
 loop (Tk p0) (x2,wr (x2+1),x1))
theorem nY {x1 g0 caps0 p0 r} (h:Oe x1 p0=some r) (hc0:CloOK Tryz.prog g0 caps0 (fun z=>[.agg (SX.row z)]) p0 (fun z=>.bv z)):FTx 197 [.osl 0,.clo g0 caps0] [] [Ac x1] (.osl 1) [] [none,Ac r]:=by
 refine Ft cL fun w0 M0=>?_;rw [Oe] at h;refine Vg 8 ?_;refine VN (LR.slice 0 rfl) h (fun e=>Mt e hc0) (fun _ _ h=>?_) (hp:=(by first | rfl | simp [go_sem,hc0.pu])) (ha:=(by first | exact Am _ | simp [go_sem,Um _ _ _ hc0.pu]));refine Vg 8 ?_;refine MI h (fun h=>?_) fun h=>?_
 ·refine Vg 5 ?_;refine As 66 8 (Ds ?_);refine A7 0 1 (Ds ?_);(try rw [P1 _ _ _ hc0.pu]);exact Td cL h
 ·refine Vg 8 ?_;refine Vl [0,1] (fun s=>([(5,.iv s.1)],[],[Ac s.2])) Xx r ?_ fun J1=>?_
  ·rintro ⟨x25,x26⟩ h;rw [Xx] at h;refine Vg 4 ?_;have ⟨x27,ex27,h⟩:=Bs h;refine ZF SX.row ex27 trivial rfl rfl rfl rfl ?_;have ⟨x28,ex28,h⟩:=Bs h;refine UA SX.row ex28 trivial rfl rfl (by first | exact Am _ | simp [go_sem]) (by first | rfl | simp [go_sem]) rfl rfl (Vg 5 ?_);have ⟨x29,ex29,h⟩:=Bs h;refine Pt SX.row ex29 trivial rfl rfl rfl rfl (Vg 2 ?_);exact Td cL h
  ·refine Vg 1 ?_;refine Ml h [0,2] (fun s=>([(5,.iv s.1),(6,.iv s.2.1)],[],[Ac s.2.2])) ?_ (hok:=by rintro ⟨x11,x12,x13⟩;first | rfl | (simp [go_sem];done) | simp [go_sem,Ax _ hc0.pu]);rintro n1 ⟨x11,x12,x13⟩ y1 h hin1 hout1;rw [Tk] at h;refine Vg 8 ?_;refine MI h (fun h=>?_) fun h=>?_
   ·refine Vg 7 ?_;have ⟨x14,ex14,h⟩:=Bs h;refine BR SX.row ex14 trivial rfl rfl rfl (Fm SX.row ex14 trivial rfl rfl rfl (Vg 7 ?_));have ⟨x15,ex15,h⟩:=Bs h;refine Dy trivial rfl hc0 (x:=x14) ex15 (by first | exact Am _ | simp [go_sem]) (by first | rfl | simp [go_sem,hc0.pu]) (Vg 2 ?_);refine Vl [0,2,4,1] (fun s=>([(5,.iv s.1)],[],[Ac s.2])) (Og x12) y1 ?_ fun J2=>?_
    ·rintro ⟨x17,x18⟩ h;rw [Og] at h;refine Vg 6 ?_;exact Da h hin1 (hok:=by first | rfl | simp [go_sem,Ax _ hc0.pu])
    ·refine MI h (fun h=>?_) fun h=>?_
     ·refine Vg 5 ?_;have ⟨x16,ex16,h⟩:=Bs h;refine BR SX.row ex16 trivial rfl rfl rfl (Dz (SX.row x14) SX.row (y':=x14) ex16 trivial rfl rfl rfl (by first | exact Am _ | simp [go_sem]) rfl rfl rfl rfl (Vg 6 ?_));exact AQ J2 h (hok:=by first | rfl | simp [go_sem,Ax _ hc0.pu])
     ·refine Vg 1 ?_;exact AQ J2 h (hok:=by first | rfl | simp [go_sem,Ax _ hc0.pu])
   ·refine Vg 1 ?_;exact AQ J1 (BY h hout1) (hok:=by first | rfl | simp [go_sem])
def cn:Int→Option (Int×Int)
| x17=>some ((-1),x17)
def Oj (x1:List KE):(Int×Int)→Option ((Int×Int) ⊕ (Int×Int))
| (x7,x8)=>
 A0 (decide (x7<(ln KE.row x1))) (
 (A4 x1 x7).bind fun x9=>
 (RN x9 x8).bind fun x10=>
 A0 x10 (
 Option.map Sum.inr (some (x7,x9.PE))) (
 some (.inl (wr (x7+1),x9.PE)))) (
 Option.map Sum.inr (cn x8))
def XS (x1:List KE) (x2:Int):Option (Int×Int):=loop (Oj x1) (0,x2)
theorem Z1P {x1 x2 r} (h:XS x1 x2=some r):FTx 218 [Bb x1,.clo 165 [.ptr 0 0]] [some ⟨3,[.iv x2]⟩] [] (.iv r.1) [some ⟨3,[.iv r.2]⟩] []:=by
 refine Ft U2 fun w0 M0=>?_;have ok:=U2;rw [XS] at h;refine Vg 11 ?_;refine Vl [] (fun x17=>([],[some ⟨3,[.iv x17]⟩],[])) cn r ?_ fun J1=>?_
 ·intro x17 h;rw [cn] at h;exact W
 ·refine Vg 1 ?_;refine Ml h [0,2,5,1] (fun s=>([(8,.iv s.1)],[some ⟨3,[.iv s.2]⟩],[])) ?_;rintro n1 ⟨x7,x8⟩ y1 h hin1 hout1;rw [Oj] at h;refine Vg 5 ?_;refine MI h (fun h=>?_) fun h=>W;refine Vg 13 ?_;have ⟨x9,ex9,h⟩:=Bs h;refine AZ KE.row ex9 trivial rfl rfl rfl (Vg 1 ?_);have ⟨x10,ex10,h⟩:=Bs h;refine J0 [true] [] trivial rfl (Z1p ex10) (by kernel_rfl) (h:=?_);exact W
def JN:Bool→Option Bool
| x5=>some x5
def Nv (x1:NO) (x2:KE):Option Bool:=
 (IC x1.DK.DI.SD ((fun z=>WN z x2))).bind fun x3=>
 A0 (!x3) (
 A0 (decide (0≤x2.PE)) (
 A0 (decide (x2.PE<x1.DK.DI.ID)) (
 (L3 x1 x2.PE).bind fun x4=>
 A0 (decide (x4<x2.EP)) (
 JN (decide (x2.EP≤65535))) (
 JN false)) (
 JN false)) (
 JN false)) (
 JN false)
theorem b9 {x1 x2 r} (h:Nv x1 x2=some r):FPx 138 [.agg (NO.row x1),.agg (KE.row x2)] (.bv r):=by
 have ok:=oJ 138 Tryz.f138 [.t 4] 2 40;refine FP ok fun w0 H0=>?_;rw [Nv] at h;refine Vg 13 ?_;refine VN (LR.block 1 rfl rfl) h (fun e=>PZ e ⟨by kernel_rfl,rfl,fun z r hz=>vv hz⟩) fun x3 _ h=>?_;refine Vg 3 ?_;refine Vl [] (fun x5=>([(4,.bv x5)],[],[])) JN r ?_ fun J1=>?_
 ·intro x5 h;rw [JN] at h;exact W
 ·refine Ai fun all H=>Ds (GP H 3 28 [3,28] [(12,[.bv x3,.bv (!x3),.bv (!x3)])] (Ds ?_));refine BJ 14 h rfl (fun _ h=>?_) fun _ h=>?_
  ·refine Ds (GP H 5 23 [8,23] [(15,[.ptr 1 0,.iv x2.PE,.bv (decide (0≤x2.PE)),.bv (decide (0≤x2.PE)),.bv (decide (0≤x2.PE))])] (Ds ?_));refine BJ 19 h rfl (fun _ h=>?_) fun _ h=>?_
   ·refine Ds (GP H 9 14 [17,14] [(20,[.ptr 1 0,.iv x2.PE,.ptr 0 0,.ptr 0 0,.ptr 0 0,.iv x1.DK.DI.ID,.bv (decide (x2.PE<x1.DK.DI.ID)),.bv (decide (x2.PE<x1.DK.DI.ID)),.bv (decide (x2.PE<x1.DK.DI.ID))])] (Ds ?_));refine BJ 28 h rfl (fun _ h=>?_) fun _ h=>?_
    ·refine Ds (GP H 5 9 [22,9] [(29,[.ptr 1 1,.iv x2.EP,.agg (NO.row x1),.ptr 1 0,.iv x2.PE])] (Ds ?_));refine RB h b7 fun x4 _ h=>?_;refine GP H 3 5 [26,5] [(35,[.bv (decide (x4<x2.EP)),.bv (decide (x4<x2.EP)),.bv (decide (x4<x2.EP))])] (Ds ?_);refine BJ 37 h rfl (fun _ h=>?_) fun _ h=>?_
     ·refine Ds (GP H 5 0 [31] [(4,[.bv (decide (x2.EP≤65535))]),(33,[.ptr 1 1,.iv x2.EP,.bv (decide (x2.EP≤65535)),.bv (decide (x2.EP≤65535))])] (Ds ?_));refine GD ?_;exact W
     ·refine Ds (GP H 5 0 [31] [(41,[.ff])] (Ds ?_));refine GD ?_;exact W
    ·refine Ds (GP H 14 0 [31] [(36,[.ff,.ff]),(3,[.ff])] (Ds ?_));refine GD ?_;exact W
   ·refine Ds (GP H 23 0 [31] [(27,[.ff,.ff]),(7,[.ff,.ff]),(3,[.ff])] (Ds ?_));refine GD ?_;exact W
  ·refine Ds (GP H 28 0 [31] [(18,[.ff,.ff]),(7,[.ff,.ff]),(7,[.ff,.ff]),(3,[.ff])] (Ds ?_));refine GD ?_;exact W
def bU:Unit→Option Bool
| ()=>some true
def RG (x1:List KE):Int→Option (Int ⊕ Bool)
| x6=>
 A0 (decide (x6<(ln KE.row x1))) (
 (A4 x1 x6).bind fun x7=>
 (Cj x1 0 x6).bind fun x8=>
 (Oa x8 ((fun z=>WL z x7))).bind fun x9=>
 A0 x9 (
 Option.map Sum.inr (some false)) (
 some (.inl (wr (x6+1))))) (
 Option.map Sum.inr (bU ()))
def Nu (x1:List KE):Option Bool:=loop (RG x1) 0
theorem Fy {x1 r} (h:Nu x1=some r):FPx 139 [Bb x1] (.bv r):=by
 have ok:=oJ 139 Tryz.f139 [.t 2] 1 17;refine FP ok fun w0 H0=>?_;rw [Nu] at h;refine Vg 11 ?_;refine Vk [] (fun _=>[]) bU r ?_ fun J1=>?_
 ·rintro ⟨⟩ h;rw [bU] at h;exact W
 ·refine Vg 1 ?_;refine Mk h [0,1,4,2] (fun x6=>[(7,.iv x6)]) ?_;rintro n1 x6 y1 h hin1 hout1;rw [RG] at h;refine Vg 5 ?_;refine MI h (fun h=>?_) fun h=>W;refine Vg 6 ?_;have ⟨x7,ex7,h⟩:=Bs h;refine AZ KE.row ex7 trivial rfl rfl rfl (Vg 9 ?_);have ⟨x8,ex8,h⟩:=Bs h;refine fj KE.row ex8 trivial rfl rfl rfl rfl (Vg 1 ?_);refine VN (LR.block 0 rfl rfl) h (fun e=>iR e ⟨by kernel_rfl,rfl,fun z r hz=>vp hz⟩) fun _ _ h=>?_;refine Ah 1 (Ds ?_);refine An ?_;exact W
def QY (x1 x2:Edge):Option Int:=
 (MN x1.A x2.A).bind fun x3=>
 (MN x1.B x2.B).bind fun x4=>
 (Qh ([x3,x4])).bind fun x5=>
 some x5
theorem uX {x1 x2 r} (h:QY x1 x2=some r):FPx 123 [.agg (Edge.row x1),.agg (Edge.row x2)] (.iv r):=by have ok:=oJ 123 Tryz.f123 [.t 4] 2 15;refine FP ok fun w0 H0=>?_;rw [QY] at h;refine Vg 7 ?_;refine Ai fun all H=>Ds (GP H 8 5 [4,1,4,4] [(5,[.ptr 0 0,.iv x1.A,.ptr 1 0,.iv x2.A]),(1,[.ptr 0 1,.iv x1.B,.ptr 1 1,.iv x2.B])] (Ds ?_));refine RB h ir fun _ _ h=>?_;refine RB h ir fun _ _ h=>?_;refine R1 ?_;refine RQ (LR.slice 0 rfl) h uD fun _ _ h=>?_;refine Gn H 1 0 ?_;refine GD ?_;exact W
def bR (x2:DK) (x3:BK):(List KE×List Int×List KE)→Option NO
| (x9,x10,x11)=>some (NO.mk x2 x3 x9 x10 x11)
def Ra (x1:NO):Option NO:=
 (Wp x1.DK).bind fun x2=>
 (R9 x1.BK).bind fun x3=>
 (AI 16 (([]:List KE)) x1.KN).bind fun x4=>
 (AI 8 (([]:List Int)) x1.TL).bind fun x6=>
 (AI 16 (([]:List KE)) x1.AK).bind fun x8=>
 (bR x2 x3) (x4,x6,x8)
theorem vb {x1 r} (h:Ra x1=some r):FPx 47 [.agg (NO.row x1)] (.agg (NO.row r)):=by
 have ok:=oJ 47 Tryz.f47 [.c 2 (some 10)] 1 26;refine FP ok fun w0 H0=>?_;rw [Ra] at h;refine Vg 6 ?_;have ⟨x2,ex2,h⟩:=Bs h;have ⟨x3,ex3,h⟩:=Bs h;have q0:=v8 ex2;have q1:=va ex3;refine Ai fun all H=>Gs ?_;refine Vg 1 ?_;refine Vl [1,2] (fun s=>([],[some ⟨48,[.iv x2.DI.ID,.iv x2.DI.PH,CU x2.DI.SD,.iv x2.TH,Ab x2.NE,.iv x3.LA,Av x3.SE,.osl 1,.osl 3,.osl 5]⟩,some ⟨48,[.iv 0,.iv 0,.nl,.iv 0,.nl,.iv 0,.nl,.nl,.nl,.nl]⟩],[none,A9 s.1,none,A5 s.2.1,none,A9 s.2.2])) (bR x2 x3) r ?_ fun J1=>?_
 ·rintro ⟨x9,x10,x11⟩ h;rw [bR] at h;refine Vg 5 ?_;refine Ae 1 (Ds ?_);refine Ae 3 (Ds ?_);refine Ae 5 ?_;exact W
 ·refine Ai fun all H=>Ds (GP H 6 12 [0,1,2,2,2,2,2,7] [(12,[.ptr 0 7,Bb x1.KN]),(2,[.ptr 0 8,Ab x1.TL]),(2,[.ptr 0 9,Bb x1.AK])] (Ds ?_));refine Fj 0 4 8 rfl ?_ ?_ ?_
  ·refine RV ?_;have ⟨x4,ex4,h⟩:=Bs h;refine Fj 3 4 8 rfl ?_ ?_ ?_
   ·refine GA KE.row ex4 H.1 ?_;refine Gn H 1 9 ?_;refine Ag 4 8 rfl ?_ ?_
    ·refine RV ?_;have ⟨x6,ex6,h⟩:=Bs h;refine Ag 7 8 rfl ?_ ?_
     ·refine GA Ad ex6 H.1 (Ds ?_);refine R1 ?_;refine A6 11 rfl ?_;have ⟨x8,ex8,h⟩:=Bs h;refine GA KE.row ex8 H.1 (Ds ?_);refine R1 ?_;refine Gn H 1 3 ?_;refine R1 ?_;refine GN H 1 1 (Ds ?_);refine An (R1 ?_);refine GD ?_;exact W
     ·refine RV ?_;refine A6 7 rfl (GA Ad ex6 H.1 (Ds ?_));refine A6 11 rfl ?_;have ⟨x8,ex8,h⟩:=Bs h;refine GA KE.row ex8 H.1 (Ds ?_);refine R1 ?_;refine Gn H 1 3 ?_;refine R1 ?_;refine GN H 1 1 (Ds ?_);refine An (R1 ?_);refine GD (A7 4 3 ?_);exact W
    ·refine RV ?_;refine R1 ?_;refine A6 7 rfl ?_;have ⟨x6,ex6,h⟩:=Bs h;refine GA Ad ex6 H.1 (Ds ?_);refine A6 11 rfl ?_;have ⟨x7,ex7,h⟩:=Bs h;refine GA KE.row ex7 H.1 (Ds ?_);refine R1 ?_;refine Gn H 1 3 ?_;refine A6 15 rfl (RV ?_);refine Gn H 1 1 ?_;refine R1 ?_;refine GD (A7 4 3 ?_);exact W
   ·refine RV ?_;refine Ag 3 8 rfl ?_ ?_
    ·refine GA KE.row ex4 H.1 ?_;refine Gn H 1 8 ?_;have ⟨x6,ex6,h⟩:=Bs h;refine Ag 7 8 rfl ?_ ?_
     ·refine GA Ad ex6 H.1 (Ds ?_);refine R1 ?_;refine A6 11 rfl ?_;have ⟨x8,ex8,h⟩:=Bs h;refine GA KE.row ex8 H.1 (Ds ?_);refine R1 ?_;refine Gn H 1 3 ?_;refine R1 ?_;refine GN H 1 1 (Ds ?_);refine An (R1 ?_);refine GD (A7 2 1 ?_);exact W
     ·refine RV ?_;refine A6 7 rfl (GA Ad ex6 H.1 (Ds ?_));refine A6 11 rfl ?_;have ⟨x8,ex8,h⟩:=Bs h;refine GA KE.row ex8 H.1 (Ds ?_);refine R1 ?_;refine Gn H 1 3 ?_;refine R1 ?_;refine GN H 1 1 (Ds ?_);refine An (R1 ?_);refine GD (A7 2 1 (A7 4 3 ?_));exact W
    ·refine RV ?_;refine A6 3 rfl (GA KE.row ex4 H.1 ?_);refine Gn H 1 7 ?_;refine A6 7 rfl ?_;have ⟨x6,ex6,h⟩:=Bs h;refine GA Ad ex6 H.1 (Ds ?_);refine A6 11 rfl ?_;have ⟨x7,ex7,h⟩:=Bs h;refine GA KE.row ex7 H.1 (Ds ?_);refine R1 ?_;refine Gn H 1 3 ?_;refine R1 ?_;refine Gn H 1 1 ?_;refine R1 ?_;refine GD (A7 3 1 (A7 4 3 ?_));exact W
   ·refine RV ?_;refine Ag 3 4 rfl ?_ ?_
    ·refine GA KE.row ex4 H.1 ?_;refine Gn H 1 8 ?_;refine R1 ?_;refine A6 7 rfl ?_;have ⟨x6,ex6,h⟩:=Bs h;refine GA Ad ex6 H.1 (Ds ?_);refine A6 11 rfl ?_;have ⟨x7,ex7,h⟩:=Bs h;refine GA KE.row ex7 H.1 (Ds ?_);refine R1 ?_;refine Gn H 1 3 ?_;refine R1 ?_;refine Gn H 1 1 ?_;refine R1 ?_;refine GD (A7 2 1 (A7 4 3 ?_));exact W
    ·refine RV ?_;refine A6 3 rfl (GA KE.row ex4 H.1 ?_);refine Gn H 1 7 ?_;refine A6 7 rfl ?_;have ⟨x6,ex6,h⟩:=Bs h;refine GA Ad ex6 H.1 (Ds ?_);refine A6 11 rfl ?_;have ⟨x7,ex7,h⟩:=Bs h;refine GA KE.row ex7 H.1 (Ds ?_);refine R1 ?_;refine Gn H 1 3 ?_;refine R1 ?_;refine Gn H 1 1 ?_;refine R1 ?_;refine GD (A7 3 1 (A7 4 3 ?_));exact W
  ·refine RV ?_;refine Ag 0 8 rfl ?_ ?_
   ·refine RV ?_;have ⟨x4,ex4,h⟩:=Bs h;refine Ag 3 8 rfl ?_ ?_
    ·refine GA KE.row ex4 H.1 ?_;refine Gn H 1 8 ?_;have ⟨x6,ex6,h⟩:=Bs h;refine Ag 7 8 rfl ?_ ?_
     ·refine GA Ad ex6 H.1 (Ds ?_);refine R1 ?_;refine A6 11 rfl ?_;have ⟨x8,ex8,h⟩:=Bs h;refine GA KE.row ex8 H.1 (Ds ?_);refine R1 ?_;refine Gn H 1 3 ?_;refine R1 ?_;refine GN H 1 1 (Ds ?_);refine An (R1 ?_);refine GD (A7 2 1 ?_);exact W
     ·refine RV ?_;refine A6 7 rfl (GA Ad ex6 H.1 (Ds ?_));refine A6 11 rfl ?_;have ⟨x8,ex8,h⟩:=Bs h;refine GA KE.row ex8 H.1 (Ds ?_);refine R1 ?_;refine Gn H 1 3 ?_;refine R1 ?_;refine GN H 1 1 (Ds ?_);refine An (R1 ?_);refine GD (A7 2 1 (A7 4 3 ?_));exact W
    ·refine RV ?_;refine A6 3 rfl (GA KE.row ex4 H.1 ?_);refine Gn H 1 7 ?_;refine A6 7 rfl ?_;have ⟨x6,ex6,h⟩:=Bs h;refine GA Ad ex6 H.1 (Ds ?_);refine A6 11 rfl ?_;have ⟨x7,ex7,h⟩:=Bs h;refine GA KE.row ex7 H.1 (Ds ?_);refine R1 ?_;refine Gn H 1 3 ?_;refine R1 ?_;refine Gn H 1 1 ?_;refine R1 ?_;refine GD (A7 3 1 (A7 4 3 ?_));exact W
   ·refine RV ?_;refine R1 ?_;refine A6 3 rfl ?_;have ⟨x4,ex4,h⟩:=Bs h;refine GA KE.row ex4 H.1 ?_;refine Gn H 1 7 ?_;refine A6 7 rfl ?_;have ⟨x5,ex5,h⟩:=Bs h;refine GA Ad ex5 H.1 (Ds ?_);refine A6 11 rfl ?_;have ⟨x6,ex6,h⟩:=Bs h;refine GA KE.row ex6 H.1 (Ds ?_);refine R1 ?_;refine Gn H 1 3 ?_;refine R1 ?_;refine Gn H 1 1 ?_;refine R1 ?_;refine GD (A7 3 1 (A7 4 3 ?_));exact W
  ·refine RV ?_;refine Ag 0 4 rfl ?_ ?_
   ·refine RV ?_;have ⟨x4,ex4,h⟩:=Bs h;refine Ag 3 4 rfl ?_ ?_
    ·refine GA KE.row ex4 H.1 ?_;refine Gn H 1 8 ?_;refine R1 ?_;refine A6 7 rfl ?_;have ⟨x6,ex6,h⟩:=Bs h;refine GA Ad ex6 H.1 (Ds ?_);refine A6 11 rfl ?_;have ⟨x7,ex7,h⟩:=Bs h;refine GA KE.row ex7 H.1 (Ds ?_);refine R1 ?_;refine Gn H 1 3 ?_;refine R1 ?_;refine Gn H 1 1 ?_;refine R1 ?_;refine GD (A7 2 1 (A7 4 3 ?_));exact W
    ·refine RV ?_;refine A6 3 rfl (GA KE.row ex4 H.1 ?_);refine Gn H 1 7 ?_;refine A6 7 rfl ?_;have ⟨x6,ex6,h⟩:=Bs h;refine GA Ad ex6 H.1 (Ds ?_);refine A6 11 rfl ?_;have ⟨x7,ex7,h⟩:=Bs h;refine GA KE.row ex7 H.1 (Ds ?_);refine R1 ?_;refine Gn H 1 3 ?_;refine R1 ?_;refine Gn H 1 1 ?_;refine R1 ?_;refine GD (A7 3 1 (A7 4 3 ?_));exact W
   ·refine RV ?_;refine R1 ?_;refine A6 3 rfl ?_;have ⟨x4,ex4,h⟩:=Bs h;refine GA KE.row ex4 H.1 ?_;refine Gn H 1 7 ?_;refine A6 7 rfl ?_;have ⟨x5,ex5,h⟩:=Bs h;refine GA Ad ex5 H.1 (Ds ?_);refine A6 11 rfl ?_;have ⟨x6,ex6,h⟩:=Bs h;refine GA KE.row ex6 H.1 (Ds ?_);refine R1 ?_;refine Gn H 1 3 ?_;refine R1 ?_;refine Gn H 1 1 ?_;refine R1 ?_;refine GD (A7 3 1 (A7 4 3 ?_));exact W
def bZ (x10:List SX) (x11:List Int) (x15:List KE) (x16:List Int) (x17:List KE):List SE→Option (List SX×List Int×List KE×List Int×List KE×List SE)
| x46=>some (x10,x11,x15,x16,x17,x46)
def c6 (x25:Int):List SE→Option ((Int×List SE) ⊕ (List SX×List Int×List KE×List Int×List KE×List SE))
| x30=>some (.inl (wr (x25+1),x30))
def jG (x10:List SX) (x11:List Int) (x15:List KE) (x16:List Int) (x17:List KE) (x18:List SE):(Int×List SE)→Option ((Int×List SE) ⊕ (List SX×List Int×List KE×List Int×List KE×List SE))
| (x25,x26)=>
 A0 (decide (x25<(ln SE.row x18))) (
 (A4 x26 x25).bind fun x27=>
 (CF x27.NE).bind fun x28=>
 (c6 x25) (x26.set (Int.toNat (x25)) (SE.mk x27.ID x28 x27.SS x27.Age))) (
 Option.map Sum.inr ((bZ x10 x11 x15 x16 x17) x26))
def X5 (x10:List SX) (x11:List Int):(List KE×List Int×List KE)→Option (List SX×List Int×List KE×List Int×List KE×List SE)
| (x15,x16,x17)=>
 (IB (([]:List SE))).bind fun x18=>
 loop (jG x10 x11 x15 x16 x17 x18) (0,x18)
def X4 (x7:List KE):(List SX×List Int)→Option (List SX×List Int×List KE×List Int×List KE×List SE)
| (x10,x11)=>
 (Et x7).bind fun x12=>
 (CF (([]:List Int))).bind fun x13=>
 (Et (([]:List KE))).bind fun x14=>
 (X5 x10 x11) (x12,x13,x14)
def NK (_x1 _x2:Int) (x3:List SX) (_x4:Int) (x5:List Int) (_x6:Int) (x7:List KE):Option (List SX×List Int×List KE×List Int×List KE×List SE):=
 (Eu x3).bind fun x8=>
 (CF x5).bind fun x9=>
 (X4 x7) (x8,x9)
theorem Z1G {x1 x2 x3 x4 x5 x6 x7 r} (h:NK x1 x2 x3 x4 x5 x6 x7=some r):FTx 87 [.agg [.iv x1,.iv x2,CU x3,.iv x4,Ab x5,.iv x6,.nl,.osl 0,.nl,.nl]] [] [A9 x7] (.agg [.iv x1,.iv x2,.osl 1,.iv x4,.osl 2,.iv x6,.osl 6,.osl 3,.osl 4,.osl 5]) [] [A9 x7,Ac r.1,A5 r.2.1,A9 r.2.2.1,A5 r.2.2.2.1,A9 r.2.2.2.2.1,AX r.2.2.2.2.2]:=by
 refine Ft OS fun w0 M0=>?_;have ok:=OS;rw [NK] at h;refine Vg 6 ?_;refine Vl [1,2] (fun s=>([],[some ⟨48,[.iv x1,.iv x2,.osl 1,.iv x4,.osl 2,.iv x6,.nl,.osl 0,.nl,.nl]⟩,some ⟨48,[.iv 0,.iv 0,.nl,.iv 0,.nl,.iv 0,.nl,.nl,.nl,.nl]⟩],[A9 x7,Ac s.1,A5 s.2])) (X4 x7) r ?_ fun J1=>?_
 ·rintro ⟨x10,x11⟩ h;rw [X4] at h;refine Vg 1 ?_;refine Vl [1,2] (fun s=>([],[some ⟨48,[.iv x1,.iv x2,.osl 1,.iv x4,.osl 2,.iv x6,.nl,.osl 3,.osl 4,.osl 5]⟩,some ⟨48,[.iv 0,.iv 0,.nl,.iv 0,.nl,.iv 0,.nl,.nl,.nl,.nl]⟩],[A9 x7,Ac x10,A5 x11,A9 s.1,A5 s.2.1,A9 s.2.2])) (X5 x10 x11) r ?_ fun J2=>?_
  ·rintro ⟨x15,x16,x17⟩ h;rw [X5] at h;refine Vg 5 ?_;have ⟨x18,ex18,h⟩:=Bs h;refine Ec trivial (TZ ex18) (h:=?_);refine Vg 13 ?_;refine Vm [1,2] (fun x46=>([],[],[],[(6,AX x46)])) (bZ x10 x11 x15 x16 x17) r ?_ fun J3=>?_
   ·intro x46 h;rw [bZ] at h;exact W
   ·refine Vg 1 ?_;refine Mm h [1,2,36,1] (fun s=>([(40,.iv s.1)],[],[],[(6,AX s.2)])) ?_;rintro n1 ⟨x25,x26⟩ y1 h hin1 hout1;rw [jG] at h;refine Vg 5 ?_;refine MI h (fun h=>?_) fun h=>W;refine Vg 8 ?_;refine Vm [1,2,36,2] (fun x30=>([],[],[],[(6,AX x30)])) (c6 x25) y1 ?_ fun J4=>?_
    ·intro x30 h;rw [c6] at h;exact W
    ·refine Ai fun all H=>Ds (GP H 6 9 [2,1,3,1,1,7] [(43,[.ptr 0 5,.ptr 0 6]),(1,[.iv x25,.ptr 0 5,.ptr 0 6]),(1,[.iv x25])] (Ds ?_));refine Ag 2 6 rfl ?_ ?_
     ·refine RV ?_;refine R1 ?_;have ⟨x27,ex27,h⟩:=Bs h;refine RO ?_;refine RI ?_;refine Gn H 1 5 ?_;refine RO ?_;refine RL ?_;refine RB h Bv fun x28 ex28 h=>?_;refine RO ?_;refine RI ?_;refine Gn H 1 1 ?_;refine Bd [Ab x28] (SE.mk x27.ID x28 x27.SS x27.Age) ?_;refine GD ?_;exact W
     ·refine RV ?_;have ⟨x27,ex27,h⟩:=Bs h;refine Ag 2 8 rfl ?_ ?_
      ·refine RV ?_;refine RO ?_;refine RI ?_;refine Gn H 1 5 ?_;refine RO ?_;refine RL ?_;refine RB h Bv fun x28 ex28 h=>?_;refine A6 12 rfl (GI H.1 SE.row ex27 (Ds ?_));refine Gn H 1 1 ?_;refine Bd [Ab x28] (SE.mk x27.ID x28 x27.SS x27.Age) ?_;refine GD ?_;exact W
      ·refine RI ?_;refine Gn H 1 6 ?_;refine Ag 2 10 rfl ?_ ?_
       ·refine RV ?_;refine RO ?_;refine RL ?_;refine RB h Bv fun x28 ex28 h=>?_;refine RO ?_;refine RI ?_;refine Gn H 1 1 ?_;refine Bd [Ab x28] (SE.mk x27.ID x28 x27.SS x27.Age) ?_;refine GD ?_;exact W
       ·refine RL ?_;have ⟨x28,ex28,h⟩:=Bs h;refine Ag 2 11 rfl ?_ ?_
        ·refine RV ?_;refine A6 11 rfl (GC H.1 (Bv ex28) (Ds ?_));refine RO ?_;refine RI ?_;refine Gn H 1 1 ?_;refine Bd [Ab x28] (SE.mk x27.ID x28 x27.SS x27.Age) ?_;refine GD ?_;exact W
        ·refine GC H.1 (Bv ex28) (Ds ?_);refine R1 ?_;refine RO ?_;refine RI ?_;refine Gn H 1 1 ?_;refine Bd [Ab x28] (SE.mk x27.ID x28 x27.SS x27.Age) ?_;refine GD ?_;exact W
  ·refine Ai fun all H=>Ds (GP H 5 10 [1,2,2,1,2,7] [(18,[.ptr 0 7]),(2,[.ptr 0 8,.nl]),(1,[.ptr 0 9,.nl])] (Ds ?_));refine R1 ?_;refine RR [] [0] 2 3 h K8 fun _ _ h=>?_;refine GN H 1 7 (Ds ?_);refine An (A6 5 rfl ?_);have ⟨x13,ex13,h⟩:=Bs h;refine AT H.1 rfl trivial (Eg ex13) (h:=Ds ?_);refine A6 8 rfl ?_;have ⟨x14,ex14,h⟩:=Bs h;refine AT H.1 rfl trivial (GS ex14) (h:=Ds ?_);refine R1 ?_;refine Gn H 1 3 ?_;refine R1 ?_;refine Gn H 1 1 ?_;refine R1 ?_;refine GD ?_;exact W
 ·refine Ai fun all H=>Ds (GP H 7 9 [4,1,3,8] [(4,[.ptr 0 0,.ptr 0 0,.ptr 0 2,CU x3]),(1,[.ptr 0 0,.ptr 0 4,Ab x5])] (Ds ?_));refine A6 4 rfl ?_;have ⟨x8,ex8,h⟩:=Bs h;refine AT H.1 rfl trivial (OJ ex8) (h:=?_);refine Gn H 3 5 ?_;refine A6 8 rfl ?_;have ⟨x9,ex9,h⟩:=Bs h;refine AT H.1 rfl trivial (Eg ex9) (h:=Ds ?_);refine R1 ?_;refine Gn H 2 1 ?_;refine R1 ?_;refine GD ?_;exact W
def ck:List ML→Option (List ML)
| x31=>some x31
def O6 (x1:(List (List ML))):(Int×List ML)→Option ((Int×List ML) ⊕ (List ML))
| (x21,x22)=>
 A0 (decide (x21<(ln (Ci 5 ML.row) x1))) (
 (A4 x1 x21).bind fun x23=>
 (AI 40 x22 x23).bind fun x24=>
 some (.inl (wr (x21+1),x24))) (
 Option.map Sum.inr (ck x22))
def Xt (x1:(List (List ML))):Int→Option (List ML)
| x15=>
 (Tt x15).bind fun x16=>
 loop (O6 x1) (0,x16)
def T9 (x5 x6:Int) (x7:List ML):Unit→Option ((Int×Int) ⊕ (List ML))
| ()=>some (.inl (wr (x5+(ln ML.row x7)),wr (x6+1)))
def Ta (x1:(List (List ML))):(Int×Int)→Option ((Int×Int) ⊕ (List ML))
| (x5,x6)=>
 A0 (decide (x6<(ln (Ci 5 ML.row) x1))) (
 (A4 x1 x6).bind fun x7=>
 A0 (decide ((wr (x5+(ln ML.row x7)))<0)) (
 none) (
 (T9 x5 x6 x7) ())) (
 Option.map Sum.inr ((Xt x1) x5))
def Lm (x1:(List (List ML))):Option (List ML):=loop (Ta x1) (0,0)
theorem E7 {x1 r} (h:Lm x1=some r):FOx 77 [.sl 1 (List.map (Ci 5 ML.row) x1)] 113 5 (List.map ML.row r):=by
 have ok:=oJ 77 Tryz.f77 [.t 2] 1 35;refine EU ok rfl fun w0 H0=>?_;rw [Lm] at h;refine Vg 15 ?_;refine Vk [0,1] (fun x15=>[(3,.iv x15)]) (Xt x1) r ?_ fun J1=>?_
 ·intro x15 h;rw [Xt] at h;refine Vg 3 ?_;have ⟨x16,ex16,h⟩:=Bs h;refine IZ [] [] trivial (Z1N ex16) (h:=?_);refine Vg 9 ?_;refine Vl [6,1] (fun x31=>([],[],[Az x31])) ck r ?_ fun J3=>?_
  ·intro x31 h;rw [ck] at h;refine Vg 5 ?_;exact Db ML.row ok h rfl rfl
  ·refine Vg 1 ?_;refine Ml h [6,1,18,2] (fun s=>([(27,.iv s.1)],[],[Az s.2])) ?_;rintro n1 ⟨x21,x22⟩ y1 h hin1 hout1;rw [O6] at h;refine Vg 5 ?_;refine MI h (fun h=>?_) fun h=>W;refine Vg 5 ?_;have ⟨x23,ex23,h⟩:=Bs h;refine AZ (Ci 5 ML.row) ex23 trivial rfl rfl rfl (Vg 6 ?_);have ⟨x24,ex24,h⟩:=Bs h;refine BP ML.row ex24 trivial rfl rfl rfl (Vg 7 ?_);refine A7 1 0 ?_;exact W
 ·refine Vg 1 ?_;refine Mk h [0,1,8,2] (fun s=>[(3,.iv s.1),(11,.iv s.2)]) ?_;rintro n1 ⟨x5,x6⟩ y1 h hin1 hout1;rw [Ta] at h;refine Vg 5 ?_;refine MI h (fun h=>?_) fun h=>W;refine Vg 5 ?_;have ⟨x7,ex7,h⟩:=Bs h;refine AZ (Ci 5 ML.row) ex7 trivial rfl rfl rfl (Vg 16 ?_);refine Vk [0,1,2,1,5,3] (fun _=>[]) (T9 x5 x6 x7) y1 ?_ fun J2=>?_
  ·rintro ⟨⟩ h;rw [T9] at h;exact W
  ·refine MI h (fun h=>?_) fun h=>W;cases h
def Ro:Bool→Option Bool
| x14=>some x14
def Rn (x1:Graph) (x2:List narthexlaw19_Step):Unit→Option Bool
| ()=>
 (Rs x1).bind fun x13=>
 A0 x13 (
 A0 (decide (x1.N≤6)) (
 Ro (decide ((ln narthexlaw19_Step.row x2)≤80))) (
 Ro false)) (
 Ro false)
def Gx (x1:Graph) (x2:List narthexlaw19_Step) (x6:Int):Bool→Option (Int ⊕ Bool)
| x7=>
 A0 x7 (
 (A4 x2 x6).bind fun x8=>
 A0 (decide (20<(ln Ad x8.Do.NE))) (
 Option.map Sum.inr (some false)) (
 some (.inl (wr (x6+1))))) (
 Option.map Sum.inr ((Rn x1 x2) ()))
def Rp (x1:Graph) (x2:List narthexlaw19_Step):Int→Option (Int ⊕ Bool)
| x6=>
 A0 (decide (x6<(ln narthexlaw19_Step.row x2))) (
 (Gx x1 x2 x6) (decide (x6<81))) (
 (Gx x1 x2 x6) false)
def KV (x1:Graph) (x2:List narthexlaw19_Step):Option Bool:=loop (Rp x1 x2) 0
theorem aZ {x1 x2 r} (h:KV x1 x2=some r):FPx 9 [.agg (Graph.row x1),Pq x2] (.bv r):=by
 have ok:=oJ 9 Tryz.f9 [.t 4] 2 34;refine FP ok fun w0 H0=>?_;rw [KV] at h;refine Vg 10 ?_;refine Vk [1,2] (fun _=>[]) (Rn x1 x2) r ?_ fun J1=>?_
 ·rintro ⟨⟩ h;rw [Rn] at h;refine Vg 3 ?_;refine VB h vj fun _ _ h=>?_;refine Vg 1 ?_;refine Vl [] (fun x14=>([(4,.bv x14)],[],[])) Ro r ?_ fun J3=>?_
  ·intro x14 h;rw [Ro] at h;exact W
  ·exact W
 ·refine Vg 1 ?_;refine Mk h [1,2] (fun x6=>[(5,.iv x6)]) ?_;rintro n1 x6 y1 h hin1 hout1;rw [Rp] at h;refine Vg 8 ?_;refine Vk [1,2,2,1] (fun x7=>[(13,.bv x7)]) (Gx x1 x2 x6) y1 ?_ fun J2=>?_
  ·intro x7 h;rw [Gx] at h;exact W
  ·exact W
def T4 (x1 x2:List Int):Option (List Int):=
 (Tb ([x1,x2])).bind fun x3=>
 (Gy x3).bind fun x4=>
 some x4
theorem xj {x1 x2 r} (h:T4 x1 x2=some r):FOx 187 [Ab x1,Ab x2] 3 1 (List.map Ad r):=by have ok:=oJ 187 Tryz.f187 [.t 4] 2 8;refine EU ok rfl fun w0 H0=>?_;rw [T4] at h;refine Vg 9 ?_;refine Ae 0 (Ds ?_);have ⟨x3,ex3,h⟩:=Bs h;refine Ec trivial (xk ex3) (h:=?_);refine Ae 1 (Ds ?_);have ⟨x4,ex4,h⟩:=Bs h;refine Ec trivial (TY ex4) (h:=?_);refine Vg 2 ?_;exact Db Ad ok h rfl rfl
theorem vT {x1 x2 r} (h:T4 x1 x2=some r):FPx 187 [Ab x1,Ab x2] (Ab r):=(xj h).sealed
def Xp (x1:Int) (x2:List Int):Option Bool:=
 (G6 x2 x1).bind fun x3=>
 some (!x3)
theorem vR {x1 x2 r} (h:Xp x1 x2=some r):FPx 224 [.iv x1,.elt ((Ci 1 Ad) x2) 0] (.bv r):=by have ok:=oJ 224 Tryz.f224 [.t 3] 2 6;refine FP ok fun w0 H0=>?_;rw [Xp] at h;refine Vg 8 ?_;refine VB h Gq fun _ _ h=>?_;exact W
end
end NX
end Go.Proofs.YtjemlejoladlcaaGreat
