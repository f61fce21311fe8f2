/-
  The function narthex/set.keep: its code compiled, a model, and that the code answers as the model. Written by a program of ours (lb.py). No statement of the seat is proved here.
-/
import Derived.Test.YtjemlejoladlcaaGreatL20
set_option maxRecDepth 100000
set_option maxHeartbeats 40000000
namespace Go.Proofs.YtjemlejoladlcaaGreat
namespace NX
open Go
noncomputable section
def O5 (x1:List Int) (p1:(Int→Option Bool)):Option (List Int):=
 (Gy x1).bind fun x2=>
 (Tl x2 ((fun z=>Xq z p1))).bind fun x3=>
 some x3
theorem iN {x1 g1 caps1 p1 r} (h:O5 x1 p1=some r) (hc1:CloOK Tryz.prog g1 caps1 (fun z=>[.iv z]) p1 (fun z=>.bv z)):FPx 219 [Ab x1,.clo g1 caps1] (Ab r):=by have ok:=oJ 219 Tryz.f219 [.t 4] 2 7;refine FP ok fun w0 H0=>?_;rw [O5] at h;refine Vg 8 ?_;have ⟨x2,ex2,h⟩:=Bs h;refine Ec trivial (TY ex2) (hp:=(by first | rfl | simp [go_sem,hc1.pu])) (h:=?_);refine Vg 1 ?_;refine H3 0 rfl (by first | rfl | simp [go_sem,hc1.pu]) (Ds ?_);have ⟨x3,ex3,h⟩:=Bs h;refine IZ [false] [true] trivial (FQ [] [0] 1 1 (Z1M ex3 ⟨by kernel_rfl,rfl,fun z r hz=>vU hz hc1⟩)) (ha:=(by first | exact Am _ | simp [go_sem,YR _ _ _ _ _ hc1.pu])) (h:=?_);refine Vg 2 ?_;refine Ae 1 (Ds ?_);exact MD ok h
def cb:Unit→Option Int
| ()=>some 0
def NU (x12:Int) (x13:SE):Bool→Option ((Int×Int) ⊕ Int)
| x18=>
 A0 x18 (
 Option.map Sum.inr (some 170)) (
 some (.inl (x13.ID,wr (x12+1))))
def Iy (x12:Int) (x13:SE) (x14:Bool):Bool→Option ((Int×Int) ⊕ Int)
| x17=>
 A0 x17 (
 Option.map Sum.inr (some 170)) (
 A0 (!x14) (
 A0 (!decide (x13.SS=0)) (
 (NU x12 x13) true) (
 (NU x12 x13) (!decide (x13.Age=0)))) (
 (NU x12 x13) false))
def Ix (x1:BK) (x11:Int) (x12:Int) (x13:SE):Bool→Option ((Int×Int) ⊕ Int)
| x14=>
 A0 (decide (x13.ID≤x11)) (
 (Iy x12 x13 x14) (decide (x13.ID≤x11))) (
 A0 (decide (x1.LA<x13.ID)) (
 (Iy x12 x13 x14) (decide (x1.LA<x13.ID))) (
 (O2 x13.NE).bind fun x15=>
 A0 x15 (
 (Iy x12 x13 x14) x15) (
 (IA x13.NE).bind fun x16=>
 A0 (!x16) (
 (Iy x12 x13 x14) (!x16)) (
 (Iy x12 x13 x14) (decide (x13.Age<0))))))
def NV (x1:BK):(Int×Int)→Option ((Int×Int) ⊕ Int)
| (x11,x12)=>
 A0 (decide (x12<(ln SE.row x1.SE))) (
 (A4 x1.SE x12).bind fun x13=>
 A0 (decide (x13.SS=1)) (
 (Ix x1 x11 x12 x13) (decide (x12=0))) (
 (Ix x1 x11 x12 x13) false)) (
 Option.map Sum.inr (cb ()))
def SI (x1:BK):Bool→Option Int
| x2=>
 A0 x2 (
 some 170) (
 loop (NV x1) (0,0))
def Hv (x1:BK):Option Int:=
 A0 (decide (x1.LA<0)) (
 (SI x1) true) (
 (SI x1) (decide (8<(ln SE.row x1.SE))))
theorem Mr {x1 r} (h:Hv x1=some r):FPx 103 [.agg (BK.row x1)] (.iv r):=by
 have ok:=oJ 103 Tryz.f103 [.t 2] 1 66;refine FP ok fun w0 H0=>?_;rw [Hv] at h;refine Vg 12 ?_;refine Vk [1,1] (fun x2=>[(15,.bv x2)]) (SI x1) r ?_ fun J1=>?_
 ·intro x2 h;rw [SI] at h;refine MI h (fun h=>W) fun h=>?_;refine Vg 13 ?_;refine Vl [] (fun _=>([],[],[])) cb r ?_ fun J2=>?_
  ·rintro ⟨⟩ h;rw [cb] at h;exact W
  ·refine Vg 1 ?_;refine Mk h [1,1,15,2] (fun s=>[(3,.iv s.1),(19,.iv s.2)]) ?_;rintro n1 ⟨x11,x12⟩ y1 h hin1 hout1;rw [NV] at h;refine Vg 5 ?_;refine MI h (fun h=>?_) fun h=>W;refine Vg 6 ?_;have ⟨x13,ex13,h⟩:=Bs h;refine AZ SE.row ex13 trivial rfl rfl rfl (Vg 11 ?_);refine Vk [1,1,1,1,1,1,11,3] (fun x14=>[(6,.bv x14)]) (Ix x1 x11 x12 x13) y1 ?_ fun J3=>?_
   ·intro x14 h;rw [Ix] at h;refine Vg 11 ?_;refine Vk [1,1,3,2,10,3] (fun x17=>[(31,.bv x17)]) (Iy x12 x13 x14) y1 ?_ fun J4=>?_
    ·intro x17 h;rw [Iy] at h;refine MI h (fun h=>W) fun h=>?_;refine Vg 5 ?_;refine Vk [1,1,3,1,11,3] (fun x18=>[(51,.bv x18)]) (NU x12 x13) y1 ?_ fun J5=>?_
     ·intro x18 h;rw [NU] at h;exact W
     ·exact W
    ·refine MI h (fun h=>W) fun h=>?_;refine Vg 9 ?_;refine MI h (fun h=>W) fun h=>?_;refine Vg 4 ?_;refine VB h iL fun _ _ h=>?_;refine Vg 2 ?_;refine MI h (fun h=>W) fun h=>?_;refine Vg 4 ?_;refine VB h bg fun _ _ h=>?_;exact W
   ·exact W
 ·exact W
def Xv (x1:List SX) (x2:Int) (x3:DI):Option (Bool×Int):=
 (TC x1 x2 x3).bind fun x4=>
 some (decide (0≤x4.1),x4.2)
theorem Z1K {x1 x2 x3 r} (h:Xv x1 x2 x3=some r):FTx 160 [CU x1,.clo 216 [.ptr 0 0,.ptr 1 0]] [some ⟨3,[.iv x2]⟩,some ⟨38,DI.row x3⟩] [] (.bv r.1) [some ⟨3,[.iv r.2]⟩,some ⟨38,DI.row x3⟩] []:=by refine Ft Yu fun w0 M0=>?_;have ok:=Yu;rw [Xv] at h;refine Vg 8 ?_;have ⟨x4,ex4,h⟩:=Bs h;refine IZ [true,true] [] trivial (Z1R ex4) (h:=?_);exact W
@[go_sem] def sw:EC:=eQ Tryz.f267
theorem kI:FnOK Tryz.prog 267 Tryz.f267 sw [] 1 134:=B6
@[go_sem] def rG:EC:=(by have h:=hF Tryz.f153;(conv at h=>rhs;reduce);dsimp only[go_sem] at h;exact ⟨_,h⟩:DP Tryz.f153).1
theorem ON:FnOK Tryz.prog 153 Tryz.f153 rG [.t 6] 3 92:=B6
@[go_sem] def rV:EC:=(by have h:=hF Tryz.f206;(conv at h=>rhs;reduce);dsimp only[go_sem] at h;exact ⟨_,h⟩:DP Tryz.f206).1
theorem OO:FnOK Tryz.prog 206 Tryz.f206 rV [.t 6] 3 92:=B6
@[go_sem] def rX:EC:=eQ Tryz.f208
theorem ku:FnOK Tryz.prog 208 Tryz.f208 rX [.t 4] 3 19:=B6
def Sg:Bool→Option Bool
| x5=>some x5
def Sf (x1:SX) (x2:node_node):Option Bool:=
 (JS x1).bind fun x3=>
 A0 x3 (
 (G6 x2.NO.TL x1.PE).bind fun x4=>
 Sg (!x4)) (
 Sg false)
theorem vw {x1 x2 r} (h:Sf x1 x2=some r):FPx 211 [.agg (SX.row x1),.elt ((lz node_node.row) x2) 0] (.bv r):=by
 have ok:=oJ 211 Tryz.f211 [.t 3] 2 15;refine FP ok fun w0 H0=>?_;rw [Sf] at h;refine Vg 6 ?_;refine Vl [] (fun x5=>([(3,.bv x5)],[],[])) Sg r ?_ fun J1=>?_
 ·intro x5 h;rw [Sg] at h;exact W
 ·refine Ai fun all H=>?_;refine Gn H 1 13 ?_;refine RB h bb fun _ _ h=>?_;refine Gn H 1 11 ?_;refine BJ 6 h rfl (fun _ h=>?_) fun _ h=>?_
  ·refine Ds (GP H 7 4 [10,4] [(7,[.elt (node_node.row x2) 0,.elt (node_node.row x2) 0,.elt (node_node.row x2) 0,.elt (node_node.row x2) 8,Ab x2.NO.TL,.ptr 0 0,.iv x1.PE])] (Ds ?_));refine RB h Gq fun _ _ h=>?_;refine Gn H 3 0 ?_;refine GD ?_;exact W
  ·refine Ds (GP H 11 0 [14] [(16,[.ff])] (Ds ?_));refine GD ?_;exact W
@[go_sem] def s7:EC:=eQ Tryz.f215
theorem kA:FnOK Tryz.prog 215 Tryz.f215 s7 [] 1 70:=B6
def JK:Bool→Option Bool
| x8=>some x8
def Ip (x1 x2:NO):Option Bool:=
 (N6 x1.DK x2.DK).bind fun x3=>
 A0 x3 (
 (SR x1.BK x2.BK).bind fun x4=>
 A0 x4 (
 (Oi x1.KN x2.KN).bind fun x5=>
 A0 x5 (
 (JY x1.TL x2.TL).bind fun x6=>
 A0 x6 (
 (Oi x1.AK x2.AK).bind fun x7=>
 JK x7) (
 JK false)) (
 JK false)) (
 JK false)) (
 JK false)
theorem b6 {x1 x2 r} (h:Ip x1 x2=some r):FPx 81 [.agg (NO.row x1),.agg (NO.row x2)] (.bv r):=by
 have ok:=oJ 81 Tryz.f81 [.t 4] 2 36;refine FP ok fun w0 H0=>?_;rw [Ip] at h;refine Vg 12 ?_;refine VB h aU fun _ _ h=>?_;refine Vg 1 ?_;refine Vl [] (fun x8=>([(4,.bv x8)],[],[])) JK r ?_ fun J1=>?_
 ·intro x8 h;rw [JK] at h;exact W
 ·refine MC 10 h (fun h=>?_) fun h=>W;refine Vg 4 ?_;refine VB h vJ fun _ _ h=>?_;refine Vg 2 ?_;refine MC 17 h (fun h=>?_) fun h=>W;refine Vg 4 ?_;refine VB h iT fun _ _ h=>?_;refine Vg 2 ?_;refine MC 24 h (fun h=>?_) fun h=>W;refine Vg 4 ?_;refine VB h Ve fun _ _ h=>?_;refine Vg 2 ?_;refine MC 31 h (fun h=>?_) fun h=>W;refine Vg 4 ?_;refine VB h iT fun _ _ h=>?_;exact W
def S2 (x1 _x2:Int) (_x3 _x4 _x5:Int) (_x6:List SE) (_x7:List Int) (_x8:Int) (x9:List SX) (_x10:List Int) (_x11 _x12:List KE) (_x13:List ML) (_x14:List EV):Option (List SX):=
 (Oe x9 ((fun z=>Nw z x1))).bind fun x15=>
 some x15
theorem Z1v {x1 x2 x3 x4 x5 x6 x7 x8 x9 x10 x11 x12 x13 x14 r} (h:S2 x1 x2 x3 x4 x5 x6 x7 x8 x9 x10 x11 x12 x13 x14=some r):FTx 141 [.ptr 0 0,.iv x1] [some ⟨173,[.iv x2,.iv x3,.osl 0,.iv x4,.osl 1,.iv x5,Av x6,.osl 2,Ab x7,.osl 3,.osl 4,.osl 5,.iv x8]⟩] [Ac x9,A5 x10,A9 x11,A9 x12,Az x13,Be x14] (.tup []) [some ⟨173,[.iv x2,.iv x3,.osl 6,.iv x4,.osl 1,.iv x5,Av x6,.osl 2,Ab x7,.osl 3,.osl 4,.osl 5,.iv x8]⟩] [none,A5 x10,A9 x11,A9 x12,Az x13,Be x14,Ac r]:=by refine Ft Yr fun w0 M0=>?_;have ok:=Yr;rw [S2] at h;refine Vg 14 ?_;refine H3 1 rfl rfl (Ds ?_);refine VR [] [0] 2 6 h (fun e=>nY e ⟨by kernel_rfl,rfl,fun z r hz=>iG hz⟩) fun _ _ h=>?_;exact W
def Tf (x1:List KE) (x2:Int):Option (Bool×Int):=
 (XS x1 x2).bind fun x3=>
 some (decide (0≤x3.1),x3.2)
theorem Z1J {x1 x2 r} (h:Tf x1 x2=some r):FTx 166 [Bb x1,.clo 165 [.ptr 0 0]] [some ⟨3,[.iv x2]⟩] [] (.bv r.1) [some ⟨3,[.iv r.2]⟩] []:=by refine Ft Yv fun w0 M0=>?_;have ok:=Yv;rw [Tf] at h;refine Vg 8 ?_;have ⟨x3,ex3,h⟩:=Bs h;refine IZ [true] [] trivial (Z1P ex3) (h:=?_);exact W
def RP (x1:KE) (x2:NO):Option Bool:=
 (Nv x2 x1).bind fun x3=>
 some (!x3)
theorem vt {x1 x2 r} (h:RP x1 x2=some r):FPx 167 [.agg (KE.row x1),.elt (NO.row x2) 0] (.bv r):=by have ok:=oJ 167 Tryz.f167 [.t 3] 2 6;refine FP ok fun w0 H0=>?_;rw [RP] at h;refine Vg 9 ?_;refine VB h b9 fun _ _ h=>?_;exact W
def SZ (x1:Int) (x2:List Int):Option Bool:=
 (G6 x2 x1).bind fun x3=>
 some x3
theorem vQ {x1 x2 r} (h:SZ x1 x2=some r):FPx 220 [.iv x1,.elt ((Ci 1 Ad) x2) 0] (.bv r):=by have ok:=oJ 220 Tryz.f220 [.t 3] 2 5;refine FP ok fun w0 H0=>?_;rw [SZ] at h;refine Vg 8 ?_;refine VB h Gq fun _ _ h=>?_;exact W
def S3 (x1 _x2:Int) (_x3 _x4:Int) (_x5 _x6:Int) (x7:List SX) (_x8:List Int) (_x9:List SE) (_x10:List KE) (_x11:List Int) (_x12:List KE):Option (List SX):=
 (Oe x7 ((fun z=>Nw z x1))).bind fun x13=>
 some x13
theorem nS {x1 x2 x3 x4 x5 x6 x7 x8 x9 x10 x11 x12 r} (h:S3 x1 x2 x3 x4 x5 x6 x7 x8 x9 x10 x11 x12=some r):FTx 141 [.ptr 0 0,.iv x1] [some ⟨173,[.iv x2,.iv x3,.osl 0,.iv x4,.osl 1,.iv x5,.osl 2,.osl 3,.osl 4,.osl 5,.nl,.nl,.iv x6]⟩] [Ac x7,A5 x8,AX x9,A9 x10,A5 x11,A9 x12] (.tup []) [some ⟨173,[.iv x2,.iv x3,.osl 6,.iv x4,.osl 1,.iv x5,.osl 2,.osl 3,.osl 4,.osl 5,.nl,.nl,.iv x6]⟩] [none,A5 x8,AX x9,A9 x10,A5 x11,A9 x12,Ac r]:=by refine Ft Yr fun w0 M0=>?_;have ok:=Yr;rw [S3] at h;refine Vg 14 ?_;refine H3 1 rfl rfl (Ds ?_);refine VR [] [0] 2 6 h (fun e=>nY e ⟨by kernel_rfl,rfl,fun z r hz=>iG hz⟩) fun _ _ h=>?_;exact W
def VV:Unit→Option Int
| ()=>some 0
def Nc (x9:Int):Bool→Option (Int ⊕ Int)
| x13=>
 A0 x13 (
 Option.map Sum.inr (some 30)) (
 some (.inl (wr (x9+1))))
def Nd (x1:Graph):Int→Option (Int ⊕ Int)
| x9=>
 A0 (decide (x9<(ln Edge.row x1.Edges))) (
 A0 (decide (0<x9)) (
 (A4 x1.Edges (wr (x9-1))).bind fun x10=>
 (A4 x1.Edges x9).bind fun x11=>
 (QY x10 x11).bind fun x12=>
 (Nc x9) (decide (0≤x12))) (
 (Nc x9) false)) (
 Option.map Sum.inr (VV ()))
def KJ (x1:Graph):Bool→Option Int
| x3=>
 A0 x3 (
 some 30) (
 loop (Nd x1) 0)
def Ih (x1:Graph):Option Int:=
 A0 (decide (x1.N<0)) (
 (KJ x1) true) (
 A0 (decide (64<x1.N)) (
 (KJ x1) true) (
 A0 (decide (400<(ln Edge.row x1.Edges))) (
 (KJ x1) true) (
 (O9 x1.Edges ((fun z=>QX z x1))).bind fun x2=>
 (KJ x1) x2)))
theorem PY {x1 r} (h:Ih x1=some r):FPx 66 [.agg (Graph.row x1)] (.iv r):=by
 have ok:=oJ 66 Tryz.f66 [.t 2] 1 49;refine FP ok fun w0 H0=>?_;rw [Ih] at h;refine Vg 17 ?_;refine Vk [1,1] (fun x3=>[(25,.bv x3)]) (KJ x1) r ?_ fun J1=>?_
 ·intro x3 h;rw [KJ] at h;refine MI h (fun h=>W) fun h=>?_;refine Vg 9 ?_;refine Vl [] (fun _=>([],[],[])) VV r ?_ fun J2=>?_
  ·rintro ⟨⟩ h;rw [VV] at h;exact W
  ·refine Vg 1 ?_;refine Mk h [1,1,26,1] (fun x9=>[(29,.iv x9)]) ?_;rintro n1 x9 y1 h hin1 hout1;rw [Nd] at h;refine Vg 5 ?_;refine MI h (fun h=>?_) fun h=>W;refine Vg 9 ?_;refine Vk [1,1,26,2] (fun x13=>[(48,.bv x13)]) (Nc x9) y1 ?_ fun J3=>?_
   ·intro x13 h;rw [Nc] at h;exact W
   ·refine Ai fun all H=>?_;refine Gn H 3 14 ?_;refine BJ 34 h rfl (fun _ h=>?_) fun _ h=>?_
    ·refine Ds (GP H 7 7 [7,2,3,5] [(35,[.ptr 0 1,Pr x1.Edges,.iv x9,.iv (wr (x9-1))]),(2,[.ptr 0 1,Pr x1.Edges,.iv x9])] (Ds ?_));have ⟨x10,ex10,h⟩:=Bs h;refine Gj H.1 H.2.1 H.2.2.1 H.2.2.2 7 Edge.row ex10 rfl rfl trivial rfl rfl rfl rfl (Gn H 1 5 ?_);have ⟨x11,ex11,h⟩:=Bs h;refine Gj H.1 H.2.1 H.2.2.1 H.2.2.2 12 Edge.row ex11 rfl rfl trivial rfl rfl rfl rfl (Gn H 1 3 ?_);refine RB h uX fun _ _ h=>?_;refine Gn H 2 0 ?_;refine GD ?_;exact W
    ·refine Ds (GP H 14 0 [17] [(35,ux 13 [.ff])] (Ds ?_));refine GD ?_;exact W
 ·refine MC 9 h (fun h=>W) fun h=>?_;refine Vg 5 ?_;refine MC 14 h (fun h=>W) fun h=>?_;refine Vg 6 ?_;refine MC 20 h (fun h=>W) fun h=>?_;refine Vg 3 ?_;refine VN (LR.block 0 rfl rfl) h (fun e=>iQ e ⟨by kernel_rfl,rfl,fun z r hz=>uW hz⟩) fun _ _ h=>?_;exact W
def WC (x2:List ML):List NO→Option HL
| x20=>some (HL.mk x20 x2)
def WD (x1:HL) (x2:List ML):(Int×List NO)→Option ((Int×List NO) ⊕ HL)
| (x8,x9)=>
 A0 (decide (x8<(ln NO.row x1.NS))) (
 (A4 x1.NS x8).bind fun x10=>
 (Ra x10).bind fun x11=>
 (AI 176 x9 ([x11])).bind fun x13=>
 some (.inl (wr (x8+1),x13))) (
 Option.map Sum.inr ((WC x2) x9))
def Rk (x1:HL):Option HL:=
 (AI 40 (([]:List ML)) x1.ML).bind fun x2=>
 loop (WD x1 x2) (0,([]:List NO))
theorem iE {x1 r} (h:Rk x1=some r):FPx 17 [.agg (HL.row x1)] (.agg (HL.row r)):=by
 have ok:=oJ 17 Tryz.f17 [.c 2 (some 2)] 1 28;refine FP ok fun w0 H0=>?_;rw [Rk] at h;refine Vg 10 ?_;have ⟨x2,ex2,h⟩:=Bs h;refine BP ML.row ex2 trivial rfl rfl rfl (Vg 9 ?_);refine Vl [2,2] (fun x20=>([],[none,some ⟨31,[.nl,.nl]⟩,some ⟨31,[.osl 2,.osl 1]⟩],[none,Az x2,EW x20])) (WC x2) r ?_ fun J1=>?_
 ·intro x20 h;rw [WC] at h;refine Vg 5 ?_;refine Ae 2 (Ds ?_);refine Ae 1 ?_;exact W
 ·refine Vg 1 ?_;refine AE 2 0 48 10 (Ds ?_);refine Mm h [1,3] (fun s=>([(4,.iv s.1)],[],[],[(2,EW s.2)])) ?_;rintro n1 ⟨x8,x9⟩ y1 h hin1 hout1;rw [WD] at h;refine Vg 9 ?_;refine MI h (fun h=>?_) fun h=>W;refine Vg 3 ?_;have ⟨x10,ex10,h⟩:=Bs h;have ⟨x11,ex11,h⟩:=Bs h;have ⟨x13,ex13,h⟩:=Bs h;have q0:=vb ex11;refine Ai fun all H=>Gs ?_;refine Vg 6 ?_;refine A7 4 2 ?_;exact W
@[go_sem] def sA:EC:=eQ Tryz.f43
theorem Yx:FnOK Tryz.prog 43 Tryz.f43 sA [.c 4 (some 2),.t 5,.t 6] 2 45:=B6
def O3 (x1:List Int) (x2:Int):Option (List Int):=
 (T4 x1 ([x2])).bind fun x3=>
 some x3
theorem vO {x1 x2 r} (h:O3 x1 x2=some r):FPx 127 [Ab x1,.iv x2] (Ab r):=by have ok:=oJ 127 Tryz.f127 [.t 4] 2 7;refine FP ok fun w0 H0=>?_;rw [O3] at h;refine Vg 9 ?_;refine Ae 0 (Ds ?_);refine VB h vT fun _ _ h=>?_;exact W
def O4 (x1 x2:List Int):Option (List Int):=
 (O5 x1 ((fun z=>Xp z x2))).bind fun x3=>
 some x3
theorem iM {x1 x2 r} (h:O4 x1 x2=some r):FPx 177 [Ab x1,Ab x2] (Ab r):=by have ok:=oJ 177 Tryz.f177 [.t 4] 2 6;refine FP ok fun w0 H0=>?_;rw [O4] at h;refine Vg 9 ?_;refine H3 0 rfl rfl (Ds ?_);refine VB h (fun e=>iN e ⟨by kernel_rfl,rfl,fun z r hz=>vR hz⟩) fun _ _ h=>?_;exact W
def JV (x1:BK) (x2:Int) (x4:List Int):Int→Option (BK×Int)
| x7=>
 A0 (!decide (x7=0)) (
 some ((BK.mk 0 (([]:List SE))),x7)) (
 (Iz x1).bind fun x8=>
 (AI 48 x8 ([SE.mk x2 x4 0 0])).bind fun x9=>
 some ((BK.mk x2 x9),0))
def SP (x1:BK) (x2:Int) (x3:List Int):Option (BK×Int):=
 (Gy x3).bind fun x4=>
 (Hv x1).bind fun x5=>
 A0 (!decide (x5=0)) (
 (JV x1 x2 x4) x5) (
 A0 (decide (x2≤x1.LA)) (
 (JV x1 x2 x4) 171) (
 (O2 x4).bind fun x6=>
 A0 x6 (
 (JV x1 x2 x4) 172) (
 A0 (decide ((ln SE.row x1.SE)=8)) (
 (JV x1 x2 x4) 173) (
 (JV x1 x2 x4) x5))))
theorem vG {x1 x2 x3 r} (h:SP x1 x2 x3=some r):FPx 129 [.agg (BK.row x1),.iv x2,Ab x3] (.tup [.agg (BK.row r.1),.iv r.2]):=by
 have ok:=oJ 129 Tryz.f129 [.c 6 (some 2),.t 7] 3 44;refine FP ok fun w0 H0=>?_;rw [SP] at h;refine Vg 9 ?_;have ⟨x4,ex4,h⟩:=Bs h;refine Ec trivial (TY ex4) (h:=?_);refine Vg 5 ?_;refine VB h Mr fun _ _ h=>?_;refine Vg 10 ?_;refine Vk [1,1,1,1,2,1,1,1] (fun x7=>[(9,.iv x7)]) (JV x1 x2 x4) r ?_ fun J1=>?_
 ·intro x7 h;rw [JV] at h;refine Vg 7 ?_;refine MI h (fun h=>W) fun h=>?_;refine Vg 4 ?_;refine VR [] [] 2 1 h Up fun _ _ h=>?_;refine Vg 15 ?_;refine Ae 0 ?_;refine Vg 1 ?_;have ⟨x9,ex9,h⟩:=Bs h;refine BP SE.row ex9 trivial rfl rfl rfl (Vg 9 ?_);refine Ae 3 ?_;exact W
 ·refine MI h (fun h=>W) fun h=>?_;refine Vg 8 ?_;refine MI h (fun h=>W) fun h=>?_;refine Vg 3 ?_;refine VN (LR.slice 0 rfl) h iL fun _ _ h=>?_;exact W
def SO (x1:BK):Bool→Option (BK×Int×Int)
| x4=>
 A0 x4 (
 some ((BK.mk 0 (([]:List SE))),0,175)) (
 (Iz x1).bind fun x5=>
 (A4 x5 0).bind fun x6=>
 some ((BK.mk x1.LA (x5.set (Int.toNat (0)) (SE.mk x6.ID x6.NE 1 x6.Age))),x6.ID,0))
def SM (x1:BK):Option (BK×Int×Int):=
 (Hv x1).bind fun x2=>
 A0 (!decide (x2=0)) (
 some ((BK.mk 0 (([]:List SE))),0,x2)) (
 A0 (decide ((ln SE.row x1.SE)=0)) (
 (SO x1) true) (
 (A4 x1.SE 0).bind fun x3=>
 (SO x1) (decide (x3.SS=1))))
theorem bd {x1 r} (h:SM x1=some r):FPx 189 [.agg (BK.row x1)] (.tup [.agg (BK.row r.1),.iv r.2.1,.iv r.2.2]):=by
 have ok:=oJ 189 Tryz.f189 [.c 2 (some 2),.t 3,.t 4] 1 36;refine FP ok fun w0 H0=>?_;rw [SM] at h;refine Vg 11 ?_;refine VB h Mr fun _ _ h=>?_;refine Vg 7 ?_;refine MI h (fun h=>W) fun h=>?_;refine Vg 9 ?_;refine Vk [1,2] (fun x4=>[(23,.bv x4)]) (SO x1) r ?_ fun J1=>?_
 ·intro x4 h;rw [SO] at h;refine MI h (fun h=>W) fun h=>?_;refine Vg 4 ?_;refine VR [] [] 2 0 h Up fun _ _ h=>?_;refine Vg 6 ?_;have ⟨x6,ex6,h⟩:=Bs h;refine BR SE.row ex6 trivial rfl rfl rfl (Vg 1 ?_);refine Dz [.iv 1] SE.row (y':=(SE.mk x6.ID x6.NE 1 x6.Age)) ex6 trivial rfl rfl rfl (by first | exact Am _ | simp [go_sem]) rfl rfl rfl rfl (Ah 2 (Ds ?_));refine An (Ai fun all H=>Gs ?_);refine Ae 0 ?_;exact W
 ·exact W
def Xl (x1:BK) (x2:Int):Option (Int×Int):=
 (Hv x1).bind fun x3=>
 A0 (!decide (x3=0)) (
 some (0,x3)) (
 (O1 x1 x2).bind fun x4=>
 A0 (decide (x4<0)) (
 some (0,174)) (
 (A4 x1.SE x4).bind fun x5=>
 some (x5.SS,0)))
theorem vH {x1 x2 r} (h:Xl x1 x2=some r):FPx 229 [.agg (BK.row x1),.iv x2] (.tup [.iv r.1,.iv r.2]):=by
 have ok:=oJ 229 Tryz.f229 [.t 4,.t 5] 2 22;refine FP ok fun w0 H0=>?_;rw [Xl] at h;refine Vg 10 ?_;refine VB h Mr fun _ _ h=>?_;refine Vg 7 ?_;refine MI h (fun h=>W) fun h=>?_;refine Vg 5 ?_;refine VB h CD fun _ _ h=>?_;exact W
def Jq:Bool→Option Int
| x3=>
 A0 x3 (
 some 130) (
 some 0)
def KD (x1:DI):Option Int:=
 A0 (decide (x1.ID<0)) (
 Jq true) (
 A0 (decide (x1.PH<0)) (
 Jq true) (
 A0 (decide (2<x1.PH)) (
 Jq true) (
 A0 (decide (64≤(ln SX.row x1.SD))) (
 Jq true) (
 (Xv x1.SD ((-1)) x1).bind fun x2=>
 Jq x2.1))))
theorem aT {x1 r} (h:KD x1=some r):FPx 162 [.agg (DI.row x1)] (.iv r):=by
 have ok:=oJ 162 Tryz.f162 [.t 2] 1 30;refine FP ok fun w0 H0=>?_;rw [KD] at h;refine Vg 22 ?_;refine Vl [] (fun x3=>([(30,.bv x3)],[],[])) Jq r ?_ fun J1=>?_
 ·intro x3 h;rw [Jq] at h;exact W
 ·refine MC 9 h (fun h=>W) fun h=>?_;refine Vg 5 ?_;refine MC 14 h (fun h=>W) fun h=>?_;refine Vg 5 ?_;refine MC 19 h (fun h=>W) fun h=>?_;refine Vg 6 ?_;refine MC 25 h (fun h=>W) fun h=>?_;refine Vg 3 ?_;refine VR [1,0] [] 2 0 h Z1K fun _ _ h=>?_;exact W
def NZ (x1:BK) (x2:Int) (x4:List SE):Bool→Option (BK×Int×Int)
| x6=>
 A0 x6 (
 some ((BK.mk x1.LA x4),0,0)) (
 (A4 x4 0).bind fun x7=>
 A0 (decide ((max x7.Age (wr ((min x7.Age 4611686018427387903)+1)))<x2)) (
 some ((BK.mk x1.LA (x4.set (Int.toNat (0)) (SE.mk x7.ID x7.NE x7.SS (max x7.Age (wr ((min x7.Age 4611686018427387903)+1)))))),0,0)) (
 (Lo 0 1 (x4.set (Int.toNat (0)) (SE.mk x7.ID x7.NE x7.SS (max x7.Age (wr ((min x7.Age 4611686018427387903)+1)))))).bind fun x8=>
 some ((BK.mk x1.LA x8),x7.ID,0)))
def SV (x1:BK) (x2:Int):Option (BK×Int×Int):=
 (Hv x1).bind fun x3=>
 A0 (!decide (x3=0)) (
 some ((BK.mk 0 (([]:List SE))),0,x3)) (
 (Iz x1).bind fun x4=>
 A0 (decide ((ln SE.row x4)=0)) (
 (NZ x1 x2 x4) true) (
 (A4 x4 0).bind fun x5=>
 (NZ x1 x2 x4) (!decide (x5.SS=1))))
theorem vL {x1 x2 r} (h:SV x1 x2=some r):FPx 150 [.agg (BK.row x1),.iv x2] (.tup [.agg (BK.row r.1),.iv r.2.1,.iv r.2.2]):=by
 have ok:=oJ 150 Tryz.f150 [.c 4 (some 2),.t 5,.t 6] 2 63;refine FP ok fun w0 H0=>?_;rw [SV] at h;refine Vg 11 ?_;refine VB h Mr fun _ _ h=>?_;refine Vg 7 ?_;refine MI h (fun h=>W) fun h=>?_;refine Vg 4 ?_;refine VR [] [] 2 0 h Up fun x4 _ h=>?_;refine Vg 10 ?_;refine Vk [1,2,1,1] (fun x6=>[(29,.bv x6)]) (NZ x1 x2 x4) r ?_ fun J1=>?_
 ·intro x6 h;rw [NZ] at h;refine MI h (fun h=>?_) fun h=>?_
  ·refine Vg 7 ?_;refine Ae 0 ?_;exact W
  ·refine Vg 5 ?_;have ⟨x7,ex7,h⟩:=Bs h;refine BR SE.row ex7 trivial rfl rfl rfl (Vg 3 ?_);refine Ai fun all H=>Ds (GP H 7 8 [4,1,3,7] [(34,[.oel 0 (Int.toNat (0)*4) 0,.oel 0 (Int.toNat (0)*4) 0,.oel 0 (Int.toNat (0)*4) 0,.oel 0 (Int.toNat (0)*4) 3]),(1,[.oel 0 (Int.toNat (0)*4) 0,.oel 0 (Int.toNat (0)*4) 0,.oel 0 (Int.toNat (0)*4) 3])] (Ds ?_));refine Ag 4 8 rfl ?_ ?_
   ·refine RL ?_;refine RO ?_;refine RL ?_;refine R1 ?_;refine Gn H 1 4 ?_;refine R1 ?_;refine Gn H 2 1 ?_;refine Bd [.iv (max x7.Age (wr ((min x7.Age 4611686018427387903)+1)))] (SE.mk x7.ID x7.NE x7.SS (max x7.Age (wr ((min x7.Age 4611686018427387903)+1)))) ?_;refine GD (Vg 6 ?_);refine CA SE.row (FW ex7) trivial rfl rfl rfl (Vg 3 ?_);refine MI h (fun h=>?_) fun h=>?_
    ·refine Vg 7 ?_;refine Ae 0 ?_;exact W
    ·refine Vg 6 ?_;refine CA SE.row (FW ex7) trivial rfl rfl rfl (Vg 6 ?_);refine VR [] [0] 2 1 h Eb fun x8 ex8 h=>?_;refine Vg 11 ?_;refine Ae 1 ?_;exact W
   ·refine RL ?_;refine Ag 4 9 rfl ?_ ?_
    ·refine RL ?_;refine R1 ?_;refine Gn H 1 4 ?_;refine R1 ?_;refine Gn H 2 1 ?_;refine Bd [.iv (max x7.Age (wr ((min x7.Age 4611686018427387903)+1)))] (SE.mk x7.ID x7.NE x7.SS (max x7.Age (wr ((min x7.Age 4611686018427387903)+1)))) ?_;refine GD (Vg 6 ?_);refine CA SE.row (FW ex7) trivial rfl rfl rfl (Vg 3 ?_);refine MI h (fun h=>?_) fun h=>?_
     ·refine Vg 7 ?_;refine Ae 0 ?_;exact W
     ·refine Vg 6 ?_;refine CA SE.row (FW ex7) trivial rfl rfl rfl (Vg 6 ?_);refine VR [] [0] 2 1 h Eb fun x8 ex8 h=>?_;refine Vg 11 ?_;refine Ae 1 ?_;exact W
    ·refine RV ?_;refine Gn H 1 5 ?_;refine RO ?_;refine RL ?_;refine R1 ?_;refine Gn H 2 1 ?_;refine Bd [.iv (max x7.Age (wr ((min x7.Age 4611686018427387903)+1)))] (SE.mk x7.ID x7.NE x7.SS (max x7.Age (wr ((min x7.Age 4611686018427387903)+1)))) ?_;refine GD (Vg 6 ?_);refine CA SE.row (FW ex7) trivial rfl rfl rfl (Vg 3 ?_);refine MI h (fun h=>?_) fun h=>?_
     ·refine Vg 7 ?_;refine Ae 0 ?_;exact W
     ·refine Vg 6 ?_;refine CA SE.row (FW ex7) trivial rfl rfl rfl (Vg 6 ?_);refine VR [] [0] 2 1 h Eb fun _ _ h=>?_;refine Vg 11 ?_;refine Ae 1 ?_;exact W
 ·refine MC 22 h (fun h=>W) fun h=>?_;refine Vg 2 ?_;have ⟨x5,ex5,h⟩:=Bs h;refine BR SE.row ex5 trivial rfl rfl rfl (Vg 1 ?_);refine CA SE.row ex5 trivial rfl rfl rfl ?_;exact W
@[go_sem] def rH:EC:=eQ Tryz.f154
theorem Yt:FnOK Tryz.prog 154 Tryz.f154 rH [] 3 40:=B6
end
end NX
end Go.Proofs.YtjemlejoladlcaaGreat
