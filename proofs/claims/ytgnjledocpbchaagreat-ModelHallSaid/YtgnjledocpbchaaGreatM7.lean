/-
  The function narthex/node.first, lent own memory. Written by a program of ours (lb.py). No statement of the seat is proved here.
-/
import Derived.Test.YtgnjledocpbchaaGreatM6
set_option maxRecDepth 100000
set_option maxHeartbeats 40000000
namespace Go.Proofs.YtgnjledocpbchaaGreat
namespace NX
open Go
noncomputable section
def RH (_x1 _x2:Int) (_x3 _x4:Int) (_x5:List SX) (_x6:List Int) (x7:List SE) (_x8:List KE) (_x9:List Int) (_x10:List KE):Option (SE×Bool):=
 A0 (decide ((ln SE.row x7)=0)) (
 some ((SE.mk 0 (([]:List Int)) 0 0),false)) (
 (Ac x7 0).bind fun x11=>
 some (x11,true))
instance t_node_first_I3 {x1 x2 x3 x4 x5 x6 x7 x8 x9 x10}:KT (RH x1 x2 x3 x4 x5 x6 x7 x8 x9 x10) 158 [.agg [.iv x1,.iv x2,.osl 0,.iv x3,.osl 1,.iv x4,.osl 2,.osl 3,.osl 4,.osl 5]] [] [Al x5,Ae x6,B4 x7,Ai x8,Ae x9,Ai x10] (fun r=>(.tup [.agg [.iv r.1.ID,Aj r.1.NE,.iv r.1.SS,.iv r.1.Age],.bv r.2])) (fun _=>[]) (fun _=>[Al x5,Ae x6,B4 x7,Ai x8,Ae x9,Ai x10]):=⟨fun{r} h=>by refine Ft JV fun w0 M0=>?_;have ok:=JV;rw [RH] at h;exact Wx⟩
def KR:Bool→Option Bool
| x3=>some (!x3)
def Ry (x1:KE) (x2:Int):Option Bool:=
 A0 (decide (x2<x1.PE)) (
 A0 (decide (x1.PE<64)) (
 A0 (decide (1≤x1.EP)) (
 KR (decide (x1.EP≤65535))) (
 KR false)) (
 KR false)) (
 KR false)
instance t_node_edges_2_I1 {x1 x2}:KT (Ry x1 x2) 154 [.agg (KE.row x1),.ptr 0 0] [some ⟨3,[.iv x2]⟩] [] (fun r=>(.bv r)) (fun _=>[some ⟨3,[.iv x1.PE]⟩]) (fun _=>[]):=⟨fun{r} h=>by
 refine Ft iq fun w0 M0=>?_;have ok:=iq;rw [Ry] at h;refine Vg 12 ?_;refine Vk [1,2] (fun x3=>[(4,.bv x3)]) KR r ?_ fun J1=>?_
 ·intro x3 h;rw [KR] at h;exact Wx
 ·exact Wx⟩
def JH:Bool→Option Bool
| x5=>some x5
def Rw (x1:SX) (x2:NO):Bool→Option Bool
| x3=>
 A0 (decide (64≤x1.PE)) (
 JH true) (
 A0 (decide (x1.EP<1)) (
 JH true) (
 (KS x2 x1.PE).bind fun x4=>
 A0 (!decide (x4=x1.EP)) (
 JH true) (
 A0 x3 (
 JH (decide (x1.PE<x2.DK.DI.ID))) (
 JH false))))
def JG (x1:SX) (x2:NO):Option Bool:=
 A0 (decide (x1.SS=1)) (
 (Rw x1 x2) true) (
 (Rw x1 x2) (decide (x1.SS=3)))
instance k_node_edges_1 {x1 x2}:KP (JG x1 x2) 153 [.agg (SX.row x1),.elt (NO.row x2) 0] (fun r=>(.bv r)):=⟨fun{r} h=>by
 have ok:=oJ 153 Tryz.f153 [.t 3] 2 40;refine FP ok fun w0 H0=>?_;rw [JG] at h;refine Vg 11 ?_;refine Vk [1,2] (fun x3=>[(4,.bv x3)]) (Rw x1 x2) r ?_ fun J1=>?_
 ·intro x3 h;rw [Rw] at h;refine Vg 1 ?_;refine Vl [] (fun x5=>([(3,.bv x5)],[],[])) JH r ?_ fun J2=>?_
  ·intro x5 h;rw [JH] at h;exact Wx
  ·refine AD fun all H=>Ds (GP H 4 26 [4,26] [(13,[.ptr 0 0,.iv x1.PE,.bv (decide (64≤x1.PE)),.bv (decide (64≤x1.PE))])] (Ds ?_));refine BW 16 h rfl (fun _ h=>?_) fun _ h=>?_
   ·refine Ds (GP H 26 0 [30] [(3,[.tt]),(13,.un::.un::.un::.tt::.tt::ux 7 (.tt::.tt::ux 10 [.tt]))] (Ds ?_));refine GD ?_;exact Wx
   ·refine Ds (GP H 5 21 [9,21] [(17,[.ptr 0 1,.iv x1.EP,.bv (decide (x1.EP<1)),.bv (decide (x1.EP<1)),.bv (decide (x1.EP<1))])] (Ds ?_));refine BW 21 h rfl (fun _ h=>?_) fun _ h=>?_
    ·refine Ds (GP H 21 0 [30] [(3,[.tt]),(18,ux 7 (.tt::.tt::ux 10 [.tt]))] (Ds ?_));refine GD ?_;exact Wx
    ·refine Ds (GP H 5 16 [12,1,2,15] [(22,[.agg (NO.row x2),.ptr 0 0,.iv x1.PE]),(1,[.ptr 0 1,.iv x1.EP])] (Ds ?_));refine RB h k_node_epoch.k fun x4 _ h=>?_;refine GP H 3 12 [18,12] [(28,[.bv (!decide (x4=x1.EP)),.bv (!decide (x4=x1.EP)),.bv (!decide (x4=x1.EP))])] (Ds ?_);refine BW 30 h rfl (fun _ h=>?_) fun _ h=>?_
     ·exact Wx
     ·exact Wx
 ·refine MC 8 h (fun h=>?_) fun h=>?_
  ·exact Wx
  ·exact Wx⟩
instance {x2}:KC (fun z=>JG z x2) 153 [.elt (NO.row x2) 0] (fun z=>[.agg (SX.row z)]) (fun z=>(.bv z)):=⟨⟨by kernel_rfl,rfl,fun z r hz=>k_node_edges_1.k hz⟩⟩
def KW (x1 x2:Int) (x3 _x4:Int) (_x5 _x6:Int) (_x7:List Int) (_x8:Int) (_x9:List SX) (_x10:List Int) (_x11:List SE) (_x12 _x13:List KE):Option (List EV):=
 (AE 56 [] ([EV.mk x1 x3 0 x2 (([]:List Int))])).bind fun x14=>
 some x14
instance t_node_node_edge_I1 {x1 x2 x3 x4 x5 x6 x7 x8 x9 x10 x11 x12 x13}:KT (KW x1 x2 x3 x4 x5 x6 x7 x8 x9 x10 x11 x12 x13) 120 [.ptr 0 0,.iv x1,.iv x2] [some ⟨191,[.iv x3,.iv x4,.osl 0,.iv x5,.osl 1,.iv x6,.osl 2,.osl 3,Aj x7,.osl 4,.nl,.nl,.iv x8]⟩] [Al x9,Ae x10,B4 x11,Ai x12,Ai x13] (fun _=>(.tup [])) (fun _=>[some ⟨191,[.iv x3,.iv x4,.osl 0,.iv x5,.osl 1,.iv x6,.osl 2,.osl 3,Aj x7,.osl 4,.nl,.osl 6,.iv x8]⟩]) (fun r=>[Al x9,Ae x10,B4 x11,Ai x12,Ai x13,none,Bk r]):=⟨fun{r} h=>by refine Ft OC fun w0 M0=>?_;have ok:=OC;rw [KW] at h;refine AD fun all H=>Ds (GP H 14 6 [14,6] [(6,[.ptr 0 0,.ptr 0 0,.ptr 0 0,.ptr 0 11,.nl,.iv x1,.ptr 0 0,.ptr 0 0,.ptr 0 0,.ptr 0 0,.ptr 0 0,.ptr 0 0,.iv x3,.iv x2])] (Ds ?_));refine Ak 14 rfl (FW (.agg [.iv x1,.iv x3,.iv 0,.iv x2,Aj (([]:List Int))]) H.1 rfl trivial (by simp [go_sem]) ?_);exact Wx⟩
def Oe (x1:List Edge) (p1:(Edge→Option Bool)):Option Bool:=
 (Te x1 p1).bind fun x2=>
 some (decide (0≤x2))
instance k_slices_ContainsFunc_Edge {x1 g1 caps1 p1} [ic1:KC p1 g1 caps1 (fun z=>[.agg (Edge.row z)]) (fun z=>.bv z)]:KP (Oe x1 p1) 43 [dn x1,.clo g1 caps1] (fun r=>(.bv r)):=⟨fun{r} h=>by have ok:=oJ 43 Tryz.f43 [.t 4] 2 7;refine FP ok fun w0 H0=>?_;rw [Oe] at h;exact Wx⟩
def Mr (x1 x2:Int):Option Int:=
 (PS x1).bind fun x3=>
 (PS x2).bind fun x4=>
 A0 x3 (
 A0 x4 (
 some 0) (
 some (-1))) (
 A0 x4 (
 some 1) (
 A0 (decide (x1<x2)) (
 some (-1)) (
 A0 (decide (x2<x1)) (
 some 1) (
 some 0))))
instance k_cmp_Compare_int {x1 x2}:KP (Mr x1 x2) 71 [.iv x1,.iv x2] (fun r=>(.iv r)):=⟨fun{r} h=>by have ok:=oJ 71 Tryz.f71 [.t 4] 2 18;refine FP ok fun w0 H0=>?_;rw [Mr] at h;exact Wx⟩
def Wf:Unit→Option Bool
| ()=>some true
def Jy (x8:Int):Bool→Option (Int ⊕ Bool)
| x12=>
 A0 x12 (
 Option.map Sum.inr (some false)) (
 some (.inl (wr (x8+1))))
def Rn (x1:Graph):Int→Option (Int ⊕ Bool)
| x8=>
 A0 (decide (x8<(ln Edge.row x1.Edges))) (
 (Ac x1.Edges x8).bind fun x9=>
 A0 (decide (x9.A<0)) (
 (Jy x8) true) (
 A0 (decide (x9.B≤x9.A)) (
 (Jy x8) true) (
 A0 (decide (x1.N≤x9.B)) (
 (Jy x8) true) (
 A0 (decide (0<x8)) (
 (Ac x1.Edges (wr (x8-1))).bind fun x10=>
 (Ro x10 x9).bind fun x11=>
 (Jy x8) (!x11)) (
 (Jy x8) false))))) (
 Option.map Sum.inr (Wf ()))
def Nr (x1:Graph):Bool→Option Bool
| x2=>
 A0 x2 (
 some false) (
 loop (Rn x1) 0)
def Rm (x1:Graph):Option Bool:=
 A0 (decide (x1.N<0)) (
 (Nr x1) true) (
 A0 (decide (64<x1.N)) (
 (Nr x1) true) (
 (Nr x1) (decide (400<(ln Edge.row x1.Edges)))))
instance k_narthexref03_Check {x1}:KP (Rm x1) 19 [.agg (Graph.row x1)] (fun r=>(.bv r)):=⟨fun{r} h=>by
 have ok:=oJ 19 Tryz.f19 [.t 2] 1 62;refine FP ok fun w0 H0=>?_;rw [Rm] at h;refine Vg 12 ?_;refine Vk [1,1] (fun x2=>[(18,.bv x2)]) (Nr x1) r ?_ fun J1=>?_
 ·intro x2 h;rw [Nr] at h;refine MI h (fun h=>?_) fun h=>?_
  ·exact Wx
  ·refine Vg 6 ?_;refine Vl [] (fun _=>([],[],[])) Wf r ?_ fun J2=>?_
   ·rintro ⟨⟩ h;rw [Wf] at h;exact Wx
   ·refine Vg 1 ?_;refine Mk h [1,1] (fun x8=>[(3,.iv x8)]) ?_;rintro n1 x8 y1 h hin1 hout1;rw [Rn] at h;refine Vg 9 ?_;refine MI h (fun h=>?_) fun h=>?_
    ·refine Vg 8 ?_;have ⟨x9,ex9,h⟩:=Bs h;refine Dt Edge.row ex9 trivial rfl rfl rfl (Vg 5 ?_);refine Vl [1,1,1,1] (fun x12=>([(62,.bv x12)],[some ⟨24,Graph.row x1⟩],[])) (Jy x8) y1 ?_ fun J3=>?_
     ·intro x12 h;rw [Jy] at h;refine MI h (fun h=>?_) fun h=>?_
      ·exact Wx
      ·exact Wx
     ·refine AD fun all H=>Ds (GP H 4 28 [4,28] [(31,[.ptr 1 0,.iv x9.A,.bv (decide (x9.A<0)),.bv (decide (x9.A<0))])] (Ds ?_));refine BW 34 h rfl (fun _ h=>?_) fun _ h=>?_
      ·refine Ds (GP H 28 0 [32] [(35,ux 5 (.tt::.tt::ux 5 (.tt::.tt::ux 13 [.tt])))] (Ds ?_));refine GD ?_;exact Wx
      ·refine Ds (GP H 7 21 [11,21] [(35,[.ptr 1 0,.iv x9.A,.ptr 1 1,.iv x9.B,.bv (decide (x9.B≤x9.A)),.bv (decide (x9.B≤x9.A)),.bv (decide (x9.B≤x9.A))])] (Ds ?_));refine BW 41 h rfl (fun _ h=>?_) fun _ h=>?_
       ·refine Ds (GP H 21 0 [32] [(42,ux 5 (.tt::.tt::ux 13 [.tt]))] (Ds ?_));refine GD ?_;exact Wx
       ·refine Ds (GP H 7 14 [18,14] [(42,[.ptr 1 1,.iv x9.B,.ptr 0 0,.iv x1.N,.bv (decide (x1.N≤x9.B)),.bv (decide (x1.N≤x9.B)),.bv (decide (x1.N≤x9.B))])] (Ds ?_));refine BW 48 h rfl (fun _ h=>?_) fun _ h=>?_
        ·exact Wx
        ·exact Wx
    ·exact Wx
 ·refine MC 8 h (fun h=>?_) fun h=>?_
  ·exact Wx
  ·refine Vg 5 ?_;refine MC 13 h (fun h=>?_) fun h=>?_
   ·exact Wx
   ·exact Wx⟩
def VT (x1:DK):Option DK:=
 (VS x1.DI).bind fun x2=>
 (AE 8 (([]:List Int)) x1.NE).bind fun x3=>
 some (DK.mk x2 x1.TH x3)
instance k_narthexlaw15_Own {x1}:KP (VT x1) 88 [.agg (DK.row x1)] (fun r=>(.agg (DK.row r))):=⟨fun{r} h=>by have ok:=oJ 88 Tryz.f88 [.c 2 (some 5)] 1 12;refine FP ok fun w0 H0=>?_;have A1:AJ [.s 1]:=trivial;rw [VT] at h;exact Wx⟩
def MZ:Bool→Option Bool
| x5=>some x5
def Qr (x1:ML) (x2:HL):Option Bool:=
 (Hs x2 x1.From).bind fun x3=>
 A0 (!x3) (
 MZ true) (
 (Hs x2 x1.To).bind fun x4=>
 A0 (!x4) (
 MZ true) (
 MZ (decide (x1.From=x1.To))))
instance k_hall_Check_1 {x1 x2}:KP (Qr x1 x2) 109 [.agg (ML.row x1),.elt (HL.row x2) 0] (fun r=>(.bv r)):=⟨fun{r} h=>by
 have ok:=oJ 109 Tryz.f109 [.t 3] 2 21;refine FP ok fun w0 H0=>?_;rw [Qr] at h;refine Vg 10 ?_;refine VB h k_hall_there.k fun _ _ h=>?_;refine Vg 2 ?_;refine Vl [] (fun x5=>([(3,.bv x5)],[],[])) MZ r ?_ fun J1=>?_
 ·intro x5 h;rw [MZ] at h;exact Wx
 ·exact Wx⟩
instance {x2}:KC (fun z=>Qr z x2) 109 [.elt (HL.row x2) 0] (fun z=>[.agg (ML.row z)]) (fun z=>(.bv z)):=⟨⟨by kernel_rfl,rfl,fun z r hz=>k_hall_Check_1.k hz⟩⟩
def SW (x1:List ML) (p1:(ML→Option Bool)):Option Bool:=
 (Li x1 p1).bind fun x2=>
 some (decide (0≤x2))
instance k_slices_ContainsFunc_Mail {x1 g1 caps1 p1} [ic1:KC p1 g1 caps1 (fun z=>[.agg (ML.row z)]) (fun z=>.bv z)]:KP (SW x1 p1) 110 [CM x1,.clo g1 caps1] (fun r=>(.bv r)):=⟨fun{r} h=>by have ok:=oJ 110 Tryz.f110 [.t 4] 2 7;refine FP ok fun w0 H0=>?_;rw [SW] at h;exact Wx⟩
def Ta:List ML→Option (List ML)
| x4=>some x4
def Xf (x1:Int):Unit→Option (List ML)
| ()=>
 A0 (decide (0<(wr (x1-(wr (0-0)))))) (
 (LQ 40 (wr (x1-(wr (0-0)))) (ML.mk 0 0 (Msg.mk 0 0 0))).bind fun x2=>
 (D3 x2 0 0).bind fun x3=>
 Ta x3) (
 Ta (([]:List ML)))
def T9 (x1:Int):Option (List ML):=
 A0 (decide (x1<0)) (
 none) (
 (Xf x1) ())
instance t_slices_Grow_Mail_I1 {x1}:KT (T9 x1) 113 [.nl,.iv x1] [] [] (fun _=>(.osl 0)) (fun _=>[]) (fun r=>[AG r]):=⟨fun{r} h=>by
 refine Ft ig fun w0 M0=>?_;have ok:=ig;have A2:AJ [.t 0 156 5]:=trivial;have A1:AJ [.r 1 0]:=trivial;rw [T9] at h;refine Vg 10 ?_;refine Vk [0,2] (fun _=>[]) (Xf x1) r ?_ fun J1=>?_
 ·rintro ⟨⟩ h;rw [Xf] at h;refine Vg 5 ?_;refine U9 trivial rfl (Vg 11 ?_);refine Vl [] (fun x4=>([(0,.osl 0)],[],[AG x4])) Ta r ?_ fun J2=>?_
  ·intro x4 h;rw [Ta] at h;exact Wx
  ·refine MI h (fun h=>?_) fun h=>?_
   ·refine Vg 3 ?_;refine U9 trivial rfl (dz trivial rfl rfl rfl (Vg 1 ?_));have ⟨x2,ex2,h⟩:=Bs h;refine du ML.row ex2 trivial rfl rfl rfl rfl (Vg 2 ?_);have ⟨x3,ex3,h⟩:=Bs h;refine P9 ML.row ex3 trivial rfl rfl rfl rfl ?_;exact Wx
   ·exact Wx
 ·refine MI h (fun h=>?_) fun h=>?_
  ·cases h
  ·exact Wx⟩
def Vu (x6:List ML):List NO→Option HL
| x90=>some (HL.mk x90 x6)
def Qw (x45:Int) (x58:List NO) (x59:NO):List SE→Option ((Int×List NO) ⊕ HL)
| x83=>some (.inl (wr (x45+1),x58.set (Int.toNat (x45)) (NO.mk x59.DK (BK.mk x59.BK.LA x83) x59.KN x59.TL x59.AK)))
def Vy (x67:Int):List SE→Option ((Int×List SE) ⊕ ((Int×List NO) ⊕ HL))
| x72=>some (.inl (wr (x67+1),x72))
def Qx (x45:Int) (x58:List NO) (x59:NO) (x60:List SE):(Int×List SE)→Option ((Int×List SE) ⊕ ((Int×List NO) ⊕ HL))
| (x67,x68)=>
 A0 (decide (x67<(ln SE.row x60))) (
 (Ac x68 x67).bind fun x69=>
 (Cp x69.NE).bind fun x70=>
 (Vy x67) (x68.set (Int.toNat (x67)) (SE.mk x69.ID x70 x69.SS x69.Age))) (
 Option.map Sum.inr ((Qw x45 x58 x59) x68))
def Vx (x45:Int):List NO→Option ((Int×List NO) ⊕ HL)
| x58=>
 (Ac x58 x45).bind fun x59=>
 (Gc x59.BK.SE).bind fun x60=>
 loop (Qx x45 x58 x59 x60) (0,x60)
def Vv (x45:Int):List NO→Option ((Int×List NO) ⊕ HL)
| x51=>
 (Ac x51 x45).bind fun x52=>
 (Ek x52.KN).bind fun x53=>
 (Cp x52.TL).bind fun x55=>
 (Ek x52.AK).bind fun x57=>
 (Vx x45) (x51.set (Int.toNat (x45)) (NO.mk x52.DK x52.BK x53 x55 x57))
def Vz (x6:List ML) (x7:List NO):(Int×List NO)→Option ((Int×List NO) ⊕ HL)
| (x45,x46)=>
 A0 (decide (x45<(ln NO.row x7))) (
 (Ac x46 x45).bind fun x47=>
 (Ew x47.DK.DI.SD).bind fun x48=>
 (Cp x47.DK.NE).bind fun x50=>
 (Vv x45) (x46.set (Int.toNat (x45)) (NO.mk (DK.mk (DI.mk x47.DK.DI.ID x47.DK.DI.PH x48) x47.DK.TH x50) x47.BK x47.KN x47.TL x47.AK))) (
 Option.map Sum.inr ((Vu x6) x46))
def Vt:(List ML×List NO)→Option HL
| (x6,x7)=>loop (Vz x6 x7) (0,x7)
def N2 (x1:HL):Option HL:=
 (Lc x1.ML).bind fun x2=>
 (Iw x1.NS).bind fun x4=>
 Vt (x2,x4)
instance k_hall_own {x1}:KP (N2 x1) 82 [.agg (HL.row x1)] (fun r=>(.agg (HL.row r))):=⟨fun{r} h=>by
 have ok:=oJ 82 Tryz.f82 [.c 2 (some 2)] 1 109;refine FP ok fun w0 H0=>?_;have A1:AJ [.s 1,.s 0]:=trivial;rw [N2] at h;refine Vg 6 ?_;refine Vl [2,1] (fun s=>([(3,.ptr 2 0)],[none,some ⟨38,[.nl,.nl]⟩,some ⟨38,[.osl 1,.osl 0]⟩],[AG s.1,F0 s.2])) Vt r ?_ fun J1=>?_
 ·rintro ⟨x6,x7⟩ h;rw [Vt] at h;refine Vg 8 ?_;refine Vm [2,2] (fun x90=>([],[],[],[(1,F0 x90)])) (Vu x6) r ?_ fun J2=>?_
  ·intro x90 h;rw [Vu] at h;refine Vg 5 ?_;(refine Wj [.s 1,.s 0] ?_);exact Wx
  ·refine Vg 1 ?_;refine Mm h [2,2,12,1] (fun s=>([(17,.iv s.1)],[],[],[(1,F0 s.2)])) ?_;rintro n1 ⟨x45,x46⟩ y1 h hin1 hout1;rw [Vz] at h;refine Vg 5 ?_;refine MI h (fun h=>?_) fun h=>?_
   ·refine Vg 13 ?_;have ⟨x47,ex47,h⟩:=Bs h;refine C5 NO.row ex47 trivial rfl rfl rfl (Vg 3 ?_);refine Vm [2,2,1,1,10,2] (fun x51=>([],[],[],[(1,F0 x51)])) (Vv x45) y1 ?_ fun J3=>?_
    ·intro x51 h;rw [Vv] at h;refine Vg 1 ?_;refine Vm [2,2,1,1,10,2] (fun x58=>([],[],[],[(1,F0 x58)])) (Vx x45) y1 ?_ fun J4=>?_
     ·intro x58 h;rw [Vx] at h;refine Vg 7 ?_;have ⟨x59,ex59,h⟩:=Bs h;refine Gm NO.row ex59 trivial rfl rfl rfl ?_;have ⟨x60,ex60,h⟩:=Bs h;refine F1 trivial (II ex60) (h:=?_);refine Vg 3 ?_;refine nF NO.row ex59 trivial rfl rfl rfl rfl (Vg 7 ?_);refine dv NO.row ex59 trivial rfl rfl rfl (Vg 3 ?_);refine Vm [2,2,12,2] (fun x83=>([],[],[],[(2,B4 x83)])) (Qw x45 x58 x59) y1 ?_ fun J5=>?_
      ·intro x83 h;rw [Qw] at h;refine Vg 5 ?_;refine dx 1 2 (f:=NO.row) (NO.mk x59.DK (BK.mk x59.BK.LA x83) x59.KN x59.TL x59.AK) ex59 rfl rfl rfl rfl rfl ?_;exact Wx
      ·refine Vg 1 ?_;refine Mm h [2,2,1,1,10,2,67,1] (fun s=>([(86,.iv s.1)],[],[],[(2,B4 s.2)])) ?_;rintro n2 ⟨x67,x68⟩ y2 h hin2 hout2;rw [Qx] at h;refine Vg 5 ?_;refine MI h (fun h=>?_) fun h=>?_
       ·refine Vg 8 ?_;refine Vm [2,2,1,1,10,2,67,2] (fun x72=>([],[],[],[(2,B4 x72)])) (Vy x67) y2 ?_ fun J6=>?_
        ·intro x72 h;rw [Vy] at h;exact Wx
        ·refine AD fun all H=>Ds (GP H 10 9 [4,1,5,1,1,7] [(89,[.oel 1 (Int.toNat (x45)*10) 0,.oel 1 (Int.toNat (x45)*10) 0,.oel 1 (Int.toNat (x45)*10) 5,.oel 1 (Int.toNat (x45)*10) 6]),(1,[.iv x67,.oel 1 (Int.toNat (x45)*10) 0,.oel 1 (Int.toNat (x45)*10) 0,.oel 1 (Int.toNat (x45)*10) 5,.oel 1 (Int.toNat (x45)*10) 6]),(1,[.iv x67])] (Ds ?_));refine Ao 4 10 rfl ?_ ?_
         ·refine EZ H.1 NO.row ex59 rfl trivial rfl rfl rfl (Ds ?_);refine Ak 10 rfl (EZ H.1 NO.row ex59 rfl trivial rfl rfl rfl (Ds ?_));have ⟨x69,ex69,h⟩:=Bs h;refine RO ?_;refine RI ?_;refine Gn H 1 5 ?_;refine RO ?_;refine RL ?_;refine RB h Bi fun x70 ex70 h=>?_;refine RO ?_;refine RI ?_;refine Gn H 1 1 ?_;refine B8 [Aj x70] (SE.mk x69.ID x70 x69.SS x69.Age) ?_;refine GD ?_;exact Wx
         ·refine EZ H.1 NO.row ex59 rfl trivial rfl rfl rfl (Ds ?_);have ⟨x69,ex69,h⟩:=Bs h;refine Ao 4 12 rfl ?_ ?_
          ·refine EZ H.1 NO.row ex59 rfl trivial rfl rfl rfl (Ds ?_);refine RO ?_;refine RI ?_;refine Gn H 1 5 ?_;refine RO ?_;refine RL ?_;refine RB h Bi fun x70 ex70 h=>?_;refine Ak 16 rfl (RI ?_);refine Gn H 1 1 ?_;refine B8 [Aj x70] (SE.mk x69.ID x70 x69.SS x69.Age) ?_;refine GD ?_;exact Wx
          ·refine RI ?_;refine Gn H 1 6 ?_;refine Ao 4 14 rfl ?_ ?_
           ·refine EZ H.1 NO.row ex59 rfl trivial rfl rfl rfl (Ds ?_);refine RO ?_;refine RL ?_;refine RB h Bi fun x70 ex70 h=>?_;refine RO ?_;refine RI ?_;refine Gn H 1 1 ?_;refine B8 [Aj x70] (SE.mk x69.ID x70 x69.SS x69.Age) ?_;refine GD ?_;exact Wx
           ·refine RL ?_;have ⟨x70,ex70,h⟩:=Bs h;refine Ao 4 15 rfl ?_ ?_
            ·refine EZ H.1 NO.row ex59 rfl trivial rfl rfl rfl (Ds ?_);refine Ak 15 rfl (GC H.1 (Bi ex70) (Ds ?_));refine RO ?_;refine RI ?_;refine Gn H 1 1 ?_;refine B8 [Aj x70] (SE.mk x69.ID x70 x69.SS x69.Age) ?_;refine GD ?_;exact Wx
            ·refine GC H.1 (Bi ex70) (Ds ?_);refine Ak 4 rfl (EZ H.1 NO.row ex59 rfl trivial rfl rfl rfl (Ds ?_));refine RO ?_;refine RI ?_;refine Gn H 1 1 ?_;refine B8 [Aj x70] (SE.mk x69.ID x70 x69.SS x69.Age) ?_;refine GD ?_;exact Wx
       ·exact Wx
     ·refine AD fun all H=>Ds (GP H 12 15 [6,2,3,2,3,11] [(46,[.oel 1 (Int.toNat (x45)*10) 0,.oel 1 (Int.toNat (x45)*10) 0,.oel 1 (Int.toNat (x45)*10) 0,.oel 1 (Int.toNat (x45)*10) 0,.oel 1 (Int.toNat (x45)*10) 0,.oel 1 (Int.toNat (x45)*10) 7]),(2,[.oel 1 (Int.toNat (x45)*10) 0,.oel 1 (Int.toNat (x45)*10) 0,.oel 1 (Int.toNat (x45)*10) 8]),(2,[.oel 1 (Int.toNat (x45)*10) 0,.oel 1 (Int.toNat (x45)*10) 0,.oel 1 (Int.toNat (x45)*10) 9])] (Ds ?_));have ⟨x52,ex52,h⟩:=Bs h;refine Eo 6 11 16 rfl ?_ ?_ ?_
      ·refine RL ?_;have ⟨x53,ex53,h⟩:=Bs h;refine Eo 7 11 16 rfl ?_ ?_ ?_
       ·refine GC H.1 (CH ex53) (Ds ?_);refine Ao 11 16 rfl ?_ ?_
        ·refine RL ?_;have ⟨x55,ex55,h⟩:=Bs h;refine Ao 12 16 rfl ?_ ?_
         ·refine GC H.1 (Bi ex55) (Ds ?_);refine RO ?_;refine RL ?_;refine RB h CH fun x57 ex57 h=>?_;refine Gn H 2 7 ?_;refine B8 [Bf x53] (NO.mk x52.DK x52.BK x53 x52.TL x52.AK) ?_;refine Gn H 2 4 ?_;refine BX [Aj x55] (NO.mk x52.DK x52.BK x53 x55 x52.AK) ?_;refine Gn H 2 1 ?_;refine BX [Bf x57] (NO.mk x52.DK x52.BK x53 x55 x57) ?_;refine GD ?_;exact Wx
         ·refine RL ?_;refine Ak 12 rfl (GC H.1 (Bi ex55) (Ds ?_));refine RB h CH fun x57 ex57 h=>?_;refine Gn H 2 7 ?_;refine B8 [Bf x53] (NO.mk x52.DK x52.BK x53 x52.TL x52.AK) ?_;refine Gn H 2 4 ?_;refine BX [Aj x55] (NO.mk x52.DK x52.BK x53 x55 x52.AK) ?_;refine Gn H 2 1 ?_;refine BX [Bf x57] (NO.mk x52.DK x52.BK x53 x55 x57) ?_;refine GD ?_;exact Wx
        ·refine RL ?_;refine RO ?_;refine RL ?_;refine RB h Bi fun x55 ex55 h=>?_;refine RB h CH fun x56 ex56 h=>?_;refine Gn H 2 7 ?_;refine B8 [Bf x53] (NO.mk x52.DK x52.BK x53 x52.TL x52.AK) ?_;refine Gn H 2 4 ?_;refine BX [Aj x55] (NO.mk x52.DK x52.BK x53 x55 x52.AK) ?_;refine Gn H 2 1 ?_;refine BX [Bf x56] (NO.mk x52.DK x52.BK x53 x55 x56) ?_;refine GD ?_;exact Wx
       ·refine RL ?_;refine Ao 7 16 rfl ?_ ?_
        ·refine GC H.1 (CH ex53) (Ds ?_);have ⟨x55,ex55,h⟩:=Bs h;refine Ao 12 16 rfl ?_ ?_
         ·refine GC H.1 (Bi ex55) (Ds ?_);refine RO ?_;refine RL ?_;refine RB h CH fun x57 ex57 h=>?_;refine Gn H 2 7 ?_;refine B8 [Bf x53] (NO.mk x52.DK x52.BK x53 x52.TL x52.AK) ?_;refine Gn H 2 4 ?_;refine BX [Aj x55] (NO.mk x52.DK x52.BK x53 x55 x52.AK) ?_;refine Gn H 2 1 ?_;refine BX [Bf x57] (NO.mk x52.DK x52.BK x53 x55 x57) ?_;refine GD ?_;exact Wx
         ·refine RL ?_;refine Ak 12 rfl (GC H.1 (Bi ex55) (Ds ?_));refine RB h CH fun x57 ex57 h=>?_;refine Gn H 2 7 ?_;refine B8 [Bf x53] (NO.mk x52.DK x52.BK x53 x52.TL x52.AK) ?_;refine Gn H 2 4 ?_;refine BX [Aj x55] (NO.mk x52.DK x52.BK x53 x55 x52.AK) ?_;refine Gn H 2 1 ?_;refine BX [Bf x57] (NO.mk x52.DK x52.BK x53 x55 x57) ?_;refine GD ?_;exact Wx
        ·refine RL ?_;refine Ak 7 rfl (GC H.1 (CH ex53) (Ds ?_));refine RB h Bi fun x55 ex55 h=>?_;refine RB h CH fun x56 ex56 h=>?_;refine GN H 2 7 (Ds ?_);refine An (B8 [Bf x53] (NO.mk x52.DK x52.BK x53 x52.TL x52.AK) ?_);refine Gn H 2 4 ?_;refine BX [Aj x55] (NO.mk x52.DK x52.BK x53 x55 x52.AK) ?_;refine Gn H 2 1 ?_;refine BX [Bf x56] (NO.mk x52.DK x52.BK x53 x55 x56) ?_;refine GD ?_;exact Wx
       ·refine RL ?_;refine Ao 7 11 rfl ?_ ?_
        ·refine GC H.1 (CH ex53) (Ds ?_);refine RO ?_;refine RL ?_;refine RB h Bi fun x55 ex55 h=>?_;refine RB h CH fun x56 ex56 h=>?_;refine GN H 2 7 (Ds ?_);refine An (B8 [Bf x53] (NO.mk x52.DK x52.BK x53 x52.TL x52.AK) ?_);refine Gn H 2 4 ?_;refine BX [Aj x55] (NO.mk x52.DK x52.BK x53 x55 x52.AK) ?_;refine Gn H 2 1 ?_;refine BX [Bf x56] (NO.mk x52.DK x52.BK x53 x55 x56) ?_;refine GD ?_;exact Wx
        ·refine RL ?_;refine Ak 7 rfl (GC H.1 (CH ex53) (Ds ?_));refine RB h Bi fun x55 ex55 h=>?_;refine RB h CH fun x56 ex56 h=>?_;refine GN H 2 7 (Ds ?_);refine An (B8 [Bf x53] (NO.mk x52.DK x52.BK x53 x52.TL x52.AK) ?_);refine Gn H 2 4 ?_;refine BX [Aj x55] (NO.mk x52.DK x52.BK x53 x55 x52.AK) ?_;refine Gn H 2 1 ?_;refine BX [Bf x56] (NO.mk x52.DK x52.BK x53 x55 x56) ?_;refine GD ?_;exact Wx
      ·refine RL ?_;refine Ao 6 16 rfl ?_ ?_
       ·refine RL ?_;have ⟨x53,ex53,h⟩:=Bs h;refine Ao 7 16 rfl ?_ ?_
        ·refine GC H.1 (CH ex53) (Ds ?_);have ⟨x55,ex55,h⟩:=Bs h;refine Ao 12 16 rfl ?_ ?_
         ·refine GC H.1 (Bi ex55) (Ds ?_);refine RO ?_;refine RL ?_;refine RB h CH fun x57 ex57 h=>?_;refine Gn H 2 7 ?_;refine B8 [Bf x53] (NO.mk x52.DK x52.BK x53 x52.TL x52.AK) ?_;refine Gn H 2 4 ?_;refine BX [Aj x55] (NO.mk x52.DK x52.BK x53 x55 x52.AK) ?_;refine Gn H 2 1 ?_;refine BX [Bf x57] (NO.mk x52.DK x52.BK x53 x55 x57) ?_;refine GD ?_;exact Wx
         ·refine RL ?_;refine Ak 12 rfl (GC H.1 (Bi ex55) (Ds ?_));refine RB h CH fun x57 _ h=>?_;refine Gn H 2 7 ?_;refine B8 [Bf x53] (NO.mk x52.DK x52.BK x53 x52.TL x52.AK) ?_;refine Gn H 2 4 ?_;refine BX [Aj x55] (NO.mk x52.DK x52.BK x53 x55 x52.AK) ?_;refine Gn H 2 1 ?_;refine BX [Bf x57] (NO.mk x52.DK x52.BK x53 x55 x57) ?_;refine GD ?_;exact Wx
        ·refine RL ?_;refine Ak 7 rfl (GC H.1 (CH ex53) (Ds ?_));refine RB h Bi fun x55 ex55 h=>?_;refine RB h CH fun x56 ex56 h=>?_;refine GN H 2 7 (Ds ?_);refine An (B8 [Bf x53] (NO.mk x52.DK x52.BK x53 x52.TL x52.AK) ?_);refine Gn H 2 4 ?_;refine BX [Aj x55] (NO.mk x52.DK x52.BK x53 x55 x52.AK) ?_;refine Gn H 2 1 ?_;refine BX [Bf x56] (NO.mk x52.DK x52.BK x53 x55 x56) ?_;refine GD ?_;exact Wx
       ·refine RL ?_;refine RO ?_;refine RL ?_;refine RB h CH fun x53 ex53 h=>?_;refine RB h Bi fun x54 ex54 h=>?_;refine RB h CH fun x55 ex55 h=>?_;refine Gn H 2 7 ?_;refine B8 [Bf x53] (NO.mk x52.DK x52.BK x53 x52.TL x52.AK) ?_;refine Gn H 2 4 ?_;refine BX [Aj x54] (NO.mk x52.DK x52.BK x53 x54 x52.AK) ?_;refine Gn H 2 1 ?_;refine BX [Bf x55] (NO.mk x52.DK x52.BK x53 x54 x55) ?_;refine GD ?_;exact Wx
      ·refine RL ?_;refine Ao 6 11 rfl ?_ ?_
       ·refine RL ?_;have ⟨x53,ex53,h⟩:=Bs h;refine Ao 7 11 rfl ?_ ?_
        ·refine GC H.1 (CH ex53) (Ds ?_);refine RO ?_;refine RL ?_;refine RB h Bi fun x55 ex55 h=>?_;refine RB h CH fun x56 ex56 h=>?_;refine GN H 2 7 (Ds ?_);refine An (B8 [Bf x53] (NO.mk x52.DK x52.BK x53 x52.TL x52.AK) ?_);refine Gn H 2 4 ?_;refine BX [Aj x55] (NO.mk x52.DK x52.BK x53 x55 x52.AK) ?_;refine Gn H 2 1 ?_;refine BX [Bf x56] (NO.mk x52.DK x52.BK x53 x55 x56) ?_;refine GD ?_;exact Wx
        ·refine RL ?_;refine Ak 7 rfl (GC H.1 (CH ex53) (Ds ?_));refine RB h Bi fun x55 ex55 h=>?_;refine RB h CH fun x56 _ h=>?_;refine GN H 2 7 (Ds ?_);refine An (B8 [Bf x53] (NO.mk x52.DK x52.BK x53 x52.TL x52.AK) ?_);refine Gn H 2 4 ?_;refine BX [Aj x55] (NO.mk x52.DK x52.BK x53 x55 x52.AK) ?_;refine Gn H 2 1 ?_;refine BX [Bf x56] (NO.mk x52.DK x52.BK x53 x55 x56) ?_;refine GD ?_;exact Wx
       ·refine RL ?_;refine RO ?_;refine RL ?_;refine RB h CH fun x53 _ h=>?_;refine RB h Bi fun x54 _ h=>?_;refine RB h CH fun x55 _ h=>?_;refine Gn H 2 7 ?_;refine B8 [Bf x53] (NO.mk x52.DK x52.BK x53 x52.TL x52.AK) ?_;refine Gn H 2 4 ?_;refine BX [Aj x54] (NO.mk x52.DK x52.BK x53 x54 x52.AK) ?_;refine Gn H 2 1 ?_;refine BX [Bf x55] (NO.mk x52.DK x52.BK x53 x54 x55) ?_;refine GD ?_;exact Wx
    ·refine AD fun all H=>Ds (GP H 11 13 [7,2,4,11] [(24,[.oel 1 (Int.toNat (x45)*10) 0,.oel 1 (Int.toNat (x45)*10) 0,.oel 1 (Int.toNat (x45)*10) 0,.oel 1 (Int.toNat (x45)*10) 0,.oel 1 (Int.toNat (x45)*10) 0,.oel 1 (Int.toNat (x45)*10) 0,.oel 1 (Int.toNat (x45)*10) 2]),(2,[.oel 1 (Int.toNat (x45)*10) 0,.oel 1 (Int.toNat (x45)*10) 0,.oel 1 (Int.toNat (x45)*10) 0,.oel 1 (Int.toNat (x45)*10) 4])] (Ds ?_));refine Ao 7 13 rfl ?_ ?_
     ·refine RL ?_;have ⟨x48,ex48,h⟩:=Bs h;refine Ao 8 13 rfl ?_ ?_
      ·refine GC H.1 (UM ex48) (Ds ?_);refine RO ?_;refine RL ?_;refine RB h Bi fun x50 ex50 h=>?_;refine GP H 4 5 [19,5] [(39,[.oel 1 (Int.toNat (x45)*10) 0,.oel 1 (Int.toNat (x45)*10) 0,.oel 1 (Int.toNat (x45)*10) 0,.oel 1 (Int.toNat (x45)*10) 2])] (Ds ?_);refine B8 [CV x48] (NO.mk (DK.mk (DI.mk x47.DK.DI.ID x47.DK.DI.PH x48) x47.DK.TH x47.DK.NE) x47.BK x47.KN x47.TL x47.AK) ?_;refine GP H 3 1 [23,1] [(43,[.oel 1 (Int.toNat (x45)*10) 0,.oel 1 (Int.toNat (x45)*10) 0,.oel 1 (Int.toNat (x45)*10) 4])] (Ds ?_);refine BX [Aj x50] (NO.mk (DK.mk (DI.mk x47.DK.DI.ID x47.DK.DI.PH x48) x47.DK.TH x50) x47.BK x47.KN x47.TL x47.AK) ?_;refine GD ?_;exact Wx
      ·refine RL ?_;refine Ak 8 rfl (GC H.1 (UM ex48) (Ds ?_));refine RB h Bi fun x50 _ h=>?_;refine GP H 4 5 [19,5] [(39,[.oel 1 (Int.toNat (x45)*10) 0,.oel 1 (Int.toNat (x45)*10) 0,.oel 1 (Int.toNat (x45)*10) 0,.oel 1 (Int.toNat (x45)*10) 2])] (Ds ?_);refine B8 [CV x48] (NO.mk (DK.mk (DI.mk x47.DK.DI.ID x47.DK.DI.PH x48) x47.DK.TH x47.DK.NE) x47.BK x47.KN x47.TL x47.AK) ?_;refine GP H 3 1 [23,1] [(43,[.oel 1 (Int.toNat (x45)*10) 0,.oel 1 (Int.toNat (x45)*10) 0,.oel 1 (Int.toNat (x45)*10) 4])] (Ds ?_);refine BX [Aj x50] (NO.mk (DK.mk (DI.mk x47.DK.DI.ID x47.DK.DI.PH x48) x47.DK.TH x50) x47.BK x47.KN x47.TL x47.AK) ?_;refine GD ?_;exact Wx
     ·refine RL ?_;refine RO ?_;refine RL ?_;refine RB h UM fun x48 _ h=>?_;refine RB h Bi fun x49 _ h=>?_;refine GP H 4 5 [19,5] [(39,[.oel 1 (Int.toNat (x45)*10) 0,.oel 1 (Int.toNat (x45)*10) 0,.oel 1 (Int.toNat (x45)*10) 0,.oel 1 (Int.toNat (x45)*10) 2])] (Ds ?_);refine B8 [CV x48] (NO.mk (DK.mk (DI.mk x47.DK.DI.ID x47.DK.DI.PH x48) x47.DK.TH x47.DK.NE) x47.BK x47.KN x47.TL x47.AK) ?_;refine GP H 3 1 [23,1] [(43,[.oel 1 (Int.toNat (x45)*10) 0,.oel 1 (Int.toNat (x45)*10) 0,.oel 1 (Int.toNat (x45)*10) 4])] (Ds ?_);refine BX [Aj x49] (NO.mk (DK.mk (DI.mk x47.DK.DI.ID x47.DK.DI.PH x48) x47.DK.TH x49) x47.BK x47.KN x47.TL x47.AK) ?_;refine GD ?_;exact Wx
   ·exact Wx
 ·refine AD fun all H=>?_;refine Gn H 4 5 ?_;have ⟨x2,ex2,h⟩:=Bs h;refine Ao 2 7 rfl ?_ ?_
  ·refine AW H.1 rfl trivial (bh ex2) (h:=Ds ?_);have ⟨x4,ex4,h⟩:=Bs h;refine Ao 5 7 rfl ?_ ?_
   ·refine AW H.1 rfl trivial (Fl ex4) (h:=?_);refine Gn H 1 2 ?_;refine R1 ?_;refine R1 ?_;refine GD ?_;exact Wx
   ·refine RV ?_;refine Ak 5 rfl (AW H.1 rfl trivial (Fl ex4) (h:=?_));refine Gn H 1 1 ?_;refine R1 ?_;refine GD ?_;exact Wx
  ·refine RV ?_;refine Ak 2 rfl (AW H.1 rfl trivial (bh ex2) (h:=Ds ?_));refine Ak 5 rfl ?_;have ⟨x4,ex4,h⟩:=Bs h;refine AW H.1 rfl trivial (Fl ex4) (h:=?_);refine Gn H 1 1 ?_;refine R1 ?_;refine GD ?_;exact Wx⟩
@[go_sem] def pY:EC:=eQ Tryz.f27
theorem iS:FnOK Tryz.prog 27 Tryz.f27 pY [.c 2 (some 1)] 1 67:=AP
def QE:Bool→Option Bool
| x5=>some x5
def QD (x1:Int) (x2:Model) (x3:Int):Option Bool:=
 (Hu x2 x1).bind fun x4=>
 A0 (!x4) (
 QE true) (
 QE (decide (x1=x3)))
instance k_model_Check_1 {x1 x2 x3}:KP (QD x1 x2 x3) 33 [.iv x1,.elt (Model.row x2) 0,.elt (Am x3) 0] (fun r=>(.bv r)):=⟨fun{r} h=>by
 have ok:=oJ 33 Tryz.f33 [.t 4] 3 11;refine FP ok fun w0 H0=>?_;rw [QD] at h;refine Vg 8 ?_;refine VB h k_model_there.k fun _ _ h=>?_;refine Vg 2 ?_;refine Vk [] (fun x5=>[(4,.bv x5)]) QE r ?_ fun J1=>?_
 ·intro x5 h;rw [QE] at h;exact Wx
 ·exact Wx⟩
instance {x2 x3}:KC (fun z=>QD z x2 x3) 33 [.elt (Model.row x2) 0,.elt (Am x3) 0] (fun z=>[.iv z]) (fun z=>(.bv z)):=⟨⟨by kernel_rfl,rfl,fun z r hz=>k_model_Check_1.k hz⟩⟩
def ay:List Place→Option Model
| x26=>some (Model.mk x26)
def W7 (x11:Int):List Place→Option ((Int×List Place) ⊕ Model)
| x20=>some (.inl (wr (x11+1),x20))
def W8 (x1:Model):(Int×List Place)→Option ((Int×List Place) ⊕ Model)
| (x11,x12)=>
 A0 (decide (x11<(ln Place.row x1.Places))) (
 (Ac x1.Places x11).bind fun x13=>
 (Ac x1.Places x11).bind fun x14=>
 (Jw x13.BK).bind fun x15=>
 (AE 8 (([]:List Int)) x14.Live).bind fun x17=>
 (AE 56 x12 ([Place.mk x15 x17])).bind fun x18=>
 (W7 x11) x18) (
 Option.map Sum.inr (ay x12))
def Rl (x1:Model):Option Model:=loop (W8 x1) (0,([]:List Place))
instance k_narthexlaw20_Own {x1}:KP (Rl x1) 11 [.agg (Model.row x1)] (fun r=>(.agg (Model.row r))):=⟨fun{r} h=>by
 have ok:=oJ 11 Tryz.f11 [.c 2 (some 1)] 1 34;refine FP ok fun w0 H0=>?_;have A2:AJ [.r 4 0]:=trivial;have A1:AJ [.s 0]:=trivial;rw [Rl] at h;refine Vg 16 ?_;refine Vl [2,2] (fun x26=>([],[none,some ⟨30,[.nl]⟩,some ⟨30,[.osl 0]⟩],[CW x26])) ay r ?_ fun J1=>?_
 ·intro x26 h;rw [ay] at h;exact Wx
 ·refine Vg 1 ?_;(refine Wj [.o 2 0 62 3] ?_);refine Mm h [1,3] (fun s=>([(4,.iv s.1)],[],[],[(0,CW s.2)])) ?_;rintro n1 ⟨x11,x12⟩ y1 h hin1 hout1;rw [W8] at h;refine Vg 9 ?_;refine MI h (fun h=>?_) fun h=>?_
  ·refine Vg 3 ?_;refine Vl [1,4] (fun x20=>([],[some ⟨30,[C0 x1.Places]⟩,some ⟨30,[.nl]⟩,some ⟨30,[.osl 4]⟩],[none,none,none,none,CW x20])) (W7 x11) y1 ?_ fun J2=>?_
   ·intro x20 h;rw [W7] at h;exact Wx
   ·refine AD fun all H=>Ds (GP H 7 15 [1,1,3,5,3,9] [(13,[.ptr 2 0]),(1,[.ptr 0 0,C0 x1.Places,.iv x11]),(5,[.ptr 0 0,C0 x1.Places,.iv x11])] (Ds ?_));have ⟨x13,ex13,h⟩:=Bs h;refine BT H.1 H.2.1 H.2.2.1 H.2.2.2 5 Place.row ex13 rfl rfl trivial rfl rfl rfl rfl (Gn H 2 12 ?_);have ⟨x14,ex14,h⟩:=Bs h;refine BT H.1 H.2.1 H.2.2.1 H.2.2.2 13 Place.row ex14 rfl rfl trivial rfl rfl rfl rfl (Gn H 2 9 ?_);have ⟨x15,ex15,h⟩:=Bs h;refine Eo 1 8 9 rfl ?_ ?_ ?_
    ·refine RV ?_;refine Ao 8 9 rfl ?_ ?_
     ·refine GC H.1 (k_narthexlaw17_Own.k ex15) (Ds ?_);refine R1 ?_;refine Ak 16 rfl ?_;have ⟨x17,ex17,h⟩:=Bs h;refine IQ Am ex17 H.1 rfl trivial rfl rfl rfl ?_;exact Wx
     ·refine RV ?_;refine Ak 8 rfl (GC H.1 (k_narthexlaw17_Own.k ex15) (Ds ?_));refine Ak 16 rfl ?_;have ⟨x17,ex17,h⟩:=Bs h;refine IQ Am ex17 H.1 rfl trivial rfl rfl rfl ?_;exact Wx
    ·refine GC H.1 (k_narthexlaw17_Own.k ex15) (Ds ?_);refine Ao 1 9 rfl ?_ ?_
     ·refine RV ?_;refine R1 ?_;refine Ak 16 rfl ?_;have ⟨x17,ex17,h⟩:=Bs h;refine IQ Am ex17 H.1 rfl trivial rfl rfl rfl ?_;exact Wx
     ·refine RV ?_;have ⟨x17,ex17,h⟩:=Bs h;refine Ao 1 16 rfl ?_ ?_
      ·refine RV ?_;refine Ak 16 rfl (IQ Am ex17 H.1 rfl trivial rfl rfl rfl ?_);exact Wx
      ·refine IQ Am ex17 H.1 rfl trivial rfl rfl rfl ?_;exact Wx
    ·refine RV ?_;refine Ao 1 8 rfl ?_ ?_
     ·refine RV ?_;refine Ak 8 rfl (GC H.1 (k_narthexlaw17_Own.k ex15) (Ds ?_));refine Ak 16 rfl ?_;have ⟨x17,ex17,h⟩:=Bs h;refine IQ Am ex17 H.1 rfl trivial rfl rfl rfl ?_;exact Wx
     ·refine GC H.1 (k_narthexlaw17_Own.k ex15) (Ds ?_);have ⟨x17,ex17,h⟩:=Bs h;refine Ao 1 16 rfl ?_ ?_
      ·refine RV ?_;refine Ak 16 rfl (IQ Am ex17 H.1 rfl trivial rfl rfl rfl ?_);exact Wx
      ·refine IQ Am ex17 H.1 rfl trivial rfl rfl rfl ?_;exact Wx
  ·exact Wx⟩
def aS:List Int→Option (List Int)
| x31=>some x31
def Od (x1:(List (List Int))):(Int×List Int)→Option ((Int×List Int) ⊕ (List Int))
| (x21,x22)=>
 A0 (decide (x21<(ln (Ci 1 Am) x1))) (
 (Ac x1 x21).bind fun x23=>
 (AE 8 x22 x23).bind fun x24=>
 some (.inl (wr (x21+1),x24))) (
 Option.map Sum.inr (aS x22))
def WY (x1:(List (List Int))):Int→Option (List Int)
| x15=>
 (Tb x15).bind fun x16=>
 loop (Od x1) (0,x16)
def SR (x5 x6:Int) (x7:List Int):Unit→Option ((Int×Int) ⊕ (List Int))
| ()=>some (.inl (wr (x5+(ln Am x7)),wr (x6+1)))
def SU (x1:(List (List Int))):(Int×Int)→Option ((Int×Int) ⊕ (List Int))
| (x5,x6)=>
 A0 (decide (x6<(ln (Ci 1 Am) x1))) (
 (Ac x1 x6).bind fun x7=>
 A0 (decide ((wr (x5+(ln Am x7)))<0)) (
 none) (
 (SR x5 x6 x7) ())) (
 Option.map Sum.inr ((WY x1) x5))
def Le (x1:(List (List Int))):Option (List Int):=loop (SU x1) (0,0)
theorem ib {x1 r} (h:Le x1=some r):FOx 129 [.sl 1 (List.map (Ci 1 Am) x1)] 3 1 (List.map Am r):=by
 have ok:=oJ 129 Tryz.f129 [.t 2] 1 35;refine EX ok rfl fun w0 H0=>?_;have A1:AJ [.r 1 0]:=trivial;rw [Le] at h;refine Vg 15 ?_;refine Vk [0,1] (fun x15=>[(3,.iv x15)]) (WY x1) r ?_ fun J1=>?_
 ·intro x15 h;rw [WY] at h;refine Vg 3 ?_;have ⟨x16,ex16,h⟩:=Bs h;refine IR [] [] trivial (t_slices_Grow_int_I1.k ex16) (h:=?_);refine Vg 9 ?_;refine Vl [6,1] (fun x31=>([],[],[Ae x31])) aS r ?_ fun J3=>?_
  ·intro x31 h;rw [aS] at h;refine Vg 5 ?_;exact De Am ok h rfl rfl
  ·refine Vg 1 ?_;refine Ml h [6,1,18,2] (fun s=>([(27,.iv s.1)],[],[Ae s.2])) ?_;rintro n1 ⟨x21,x22⟩ y1 h hin1 hout1;rw [Od] at h;exact Wx
 ·refine Vg 1 ?_;refine Mk h [0,1,8,2] (fun s=>[(3,.iv s.1),(11,.iv s.2)]) ?_;rintro n1 ⟨x5,x6⟩ y1 h hin1 hout1;rw [SU] at h;refine Vg 5 ?_;refine MI h (fun h=>?_) fun h=>?_
  ·refine Vg 5 ?_;have ⟨x7,ex7,h⟩:=Bs h;refine Dt (Ci 1 Am) ex7 trivial rfl rfl rfl (Vg 16 ?_);refine Vk [0,1,2,1,5,3] (fun _=>[]) (SR x5 x6 x7) y1 ?_ fun J2=>?_
   ·rintro ⟨⟩ h;rw [SR] at h;exact Wx
   ·refine MI h (fun h=>?_) fun h=>?_
    ·cases h
    ·exact Wx
  ·exact Wx
theorem rV {x1 r} (h:Le x1=some r):FPx 129 [.sl 1 (List.map (Ci 1 Am) x1)] (Aj r):=(ib h).sealed
instance {x1}:KP (Le x1) 129 [.sl 1 (List.map (Ci 1 Am) x1)] (fun r=>(Aj r)):=⟨fun h=>rV h⟩
def EM (x1:List Int) (x2:Int):Option Bool:=
 (Lg x1 x2).bind fun x3=>
 some x3
instance k_set_Has {x1 x2}:KP (EM x1 x2) 60 [Aj x1,.iv x2] (fun r=>(.bv r)):=⟨fun{r} h=>by have ok:=oJ 60 Tryz.f60 [.t 4] 2 6;refine FP ok fun w0 H0=>?_;rw [EM] at h;exact Wx⟩
def X3:(Int×List Int)→Option (List Int)
| (x25,x26)=>
 (DQ (ln Am x26) x25 (ln Am x26)).bind fun _=>
 (He x26 (Int.toNat (x25)) (Int.toNat (ln Am x26)-Int.toNat (x25)) 0).bind fun x28=>
 (D3 x28 0 x25).bind fun x29=>
 some x29
def Ok (x12:Int):(Int×List Int)→Option ((Int×Int×List Int) ⊕ (List Int))
| (x17,x18)=>some (.inl (x17,wr (x12+1),x18))
def T5 (p0:(Int→Option Bool)):(Int×Int×List Int)→Option ((Int×Int×List Int) ⊕ (List Int))
| (x11,x12,x13)=>
 A0 (decide (x12<(ln Am x13))) (
 (Ac x13 x12).bind fun x14=>
 (p0 x14).bind fun x15=>
 A0 (!x15) (
 (Ac x13 x11).bind fun _=>
 (Ok x12) (wr (x11+1),x13.set (Int.toNat (x11)) x14)) (
 (Ok x12) (x11,x13))) (
 Option.map Sum.inr (X3 (x11,x13)))
def T4 (x1:List Int) (p0:(Int→Option Bool)):Option (List Int):=
 (Oq x1 p0).bind fun x2=>
 A0 (decide (x2=((-1)))) (
 some x1) (
 loop (T5 p0) (x2,wr (x2+1),x1))
instance t_slices_DeleteFunc_int_I1 {x1 g0 caps0 p0} [ic0:KC p0 g0 caps0 (fun z=>[.iv z]) (fun z=>.bv z)]:KT (T4 x1 p0) 134 [.osl 0,.clo g0 caps0] [] [Ae x1] (fun _=>(.osl 1)) (fun _=>[]) (fun r=>[none,Ae r]):=⟨fun{r} h=>by
 have hc0:=ic0.k;refine Ft io fun w0 M0=>?_;have ok:=io;have A1:AJ [.w 3 1,.r 0 1]:=trivial;rw [T4] at h;refine Vg 8 ?_;refine VN (LR.slice 0 rfl) h k_slices_IndexFunc_int.k (fun _ _ h=>?_) (hp:=(by first | rfl | simp [go_sem,hc0.pu])) (ha:=(by first | exact AA _ | simp [go_sem,P1 _ _ _ hc0.pu]));refine Vg 8 ?_;refine MI h (fun h=>?_) fun h=>?_
 ·exact Wx
 ·refine Vg 8 ?_;refine Vl [0,1] (fun s=>([(5,.iv s.1)],[],[Ae s.2])) X3 r ?_ fun J1=>?_
  ·rintro ⟨x25,x26⟩ h;rw [X3] at h;refine Vg 4 ?_;have ⟨x27,ex27,h⟩:=Bs h;refine YZ Am ex27 trivial rfl rfl rfl rfl ?_;have ⟨x28,ex28,h⟩:=Bs h;refine Ua Am ex28 trivial rfl rfl (by first | exact AA _ | simp [go_sem]) (by first | rfl | simp [go_sem]) rfl rfl (Vg 5 ?_);have ⟨x29,ex29,h⟩:=Bs h;refine P9 Am ex29 trivial rfl rfl rfl rfl ?_;exact Wx
  ·refine Vg 1 ?_;refine Ml h [0,2] (fun s=>([(5,.iv s.1),(6,.iv s.2.1)],[],[Ae s.2.2])) ?_ (hok:=by rintro ⟨x11,x12,x13⟩;first | rfl | (simp [go_sem];done) | simp [go_sem,C2 _ hc0.pu]);rintro n1 ⟨x11,x12,x13⟩ y1 h hin1 hout1;rw [T5] at h;refine Vg 8 ?_;refine MI h (fun h=>?_) fun h=>?_
   ·refine Vg 7 ?_;have ⟨x14,ex14,h⟩:=Bs h;refine C5 Am ex14 trivial rfl rfl rfl (Gm Am ex14 trivial rfl rfl rfl (Vg 6 ?_));have ⟨x15,ex15,h⟩:=Bs h;refine U8 trivial rfl hc0 (x:=x14) ex15 (by first | exact AA _ | simp [go_sem]) (by first | rfl | simp [go_sem,hc0.pu]) (Vg 2 ?_);refine Vl [0,2,4,1] (fun s=>([(5,.iv s.1)],[],[Ae s.2])) (Ok x12) y1 ?_ fun J2=>?_
    ·rintro ⟨x17,x18⟩ h;rw [Ok] at h;exact Wx
    ·refine MI h (fun h=>?_) fun h=>?_
     ·refine Vg 5 ?_;have ⟨x16,ex16,h⟩:=Bs h;refine C5 Am ex16 trivial rfl rfl rfl (Du [.iv x14] Am (y':=x14) ex16 trivial rfl rfl rfl (by first | exact AA _ | simp [go_sem]) rfl rfl rfl rfl ?_);exact Wx
     ·exact Wx
   ·refine Vg 1 ?_;exact Eh J1 (CU h hout1) (hok:=by first | rfl | simp [go_sem])⟩
def aP:List SE→Option (List SE)
| x35=>some x35
def WU (x2:List SE):(Int×List SE)→Option ((Int×List SE) ⊕ (List SE))
| (x8,x9)=>
 A0 (decide (x8<(ln SE.row x2))) (
 (Ac x9 x8).bind fun x10=>
 (Cp x10.NE).bind fun x11=>
 some (.inl (wr (x8+1),x9.set (Int.toNat (x8)) (SE.mk x10.ID x11 x10.SS x10.Age)))) (
 Option.map Sum.inr (aP x9))
def Iv (x1:BK):Option (List SE):=
 (Gc x1.SE).bind fun x2=>
 loop (WU x2) (0,x2)
instance t_sess_own_I1 {x1}:KT (Iv x1) 90 [.agg (BK.row x1)] [] [] (fun _=>(.agg [.iv x1.LA,.osl 0])) (fun _=>[]) (fun r=>[B4 r]):=⟨fun{r} h=>by
 refine Ft ja fun w0 M0=>?_;have ok:=ja;rw [Iv] at h;refine Vg 9 ?_;have ⟨x2,ex2,h⟩:=Bs h;refine F1 trivial (II ex2) (h:=?_);refine Vg 11 ?_;refine Vm [1,2] (fun x35=>([],[],[],[(0,B4 x35)])) aP r ?_ fun J1=>?_
 ·intro x35 h;rw [aP] at h;exact Wx
 ·refine Vg 1 ?_;refine Mm h [1,2,7,1] (fun s=>([(11,.iv s.1)],[],[],[(0,B4 s.2)])) ?_;rintro n1 ⟨x8,x9⟩ y1 h hin1 hout1;rw [WU] at h;refine Vg 5 ?_;refine MI h (fun h=>?_) fun h=>?_
  ·refine Vg 8 ?_;refine AD fun all H=>?_;refine Gn H 4 9 ?_;refine Ao 1 4 rfl ?_ ?_
   ·refine RV ?_;refine R1 ?_;have ⟨x10,ex10,h⟩:=Bs h;refine RO ?_;refine RI ?_;refine Gn H 1 5 ?_;refine RO ?_;refine RL ?_;refine RB h Bi fun x11 ex11 h=>?_;refine RO ?_;refine RI ?_;refine Gn H 1 1 ?_;refine B8 [Aj x11] (SE.mk x10.ID x11 x10.SS x10.Age) ?_;exact Wx
   ·refine RV ?_;have ⟨x10,ex10,h⟩:=Bs h;refine Ao 1 6 rfl ?_ ?_
    ·refine RV ?_;refine RO ?_;refine RI ?_;refine Gn H 1 5 ?_;refine RO ?_;refine RL ?_;refine RB h Bi fun x11 ex11 h=>?_;refine Ak 10 rfl (GI H.1 SE.row ex10 (Ds ?_));refine Gn H 1 1 ?_;refine B8 [Aj x11] (SE.mk x10.ID x11 x10.SS x10.Age) ?_;exact Wx
    ·refine RI ?_;refine Gn H 1 6 ?_;refine Ao 1 8 rfl ?_ ?_
     ·refine RV ?_;refine RO ?_;refine RL ?_;refine RB h Bi fun x11 ex11 h=>?_;refine RO ?_;refine RI ?_;refine Gn H 1 1 ?_;refine B8 [Aj x11] (SE.mk x10.ID x11 x10.SS x10.Age) ?_;exact Wx
     ·refine RL ?_;have ⟨x11,ex11,h⟩:=Bs h;refine Ao 1 9 rfl ?_ ?_
      ·refine RV ?_;refine Ak 9 rfl (GC H.1 (Bi ex11) (Ds ?_));refine RO ?_;refine RI ?_;refine Gn H 1 1 ?_;refine B8 [Aj x11] (SE.mk x10.ID x11 x10.SS x10.Age) ?_;exact Wx
      ·refine GC H.1 (Bi ex11) (Ds ?_);refine R1 ?_;refine RO ?_;refine RI ?_;refine Gn H 1 1 ?_;refine B8 [Aj x11] (SE.mk x10.ID x11 x10.SS x10.Age) ?_;exact Wx
  ·exact Wx⟩
def SG:Bool→Option Bool
| x3=>some x3
def O6 (x1:List Int):Option Bool:=
 A0 (decide (64<(ln Am x1))) (
 SG true) (
 (Fh x1 ((fun z=>SF z))).bind fun x2=>
 SG x2)
instance k_sess_odd {x1}:KP (O6 x1) 65 [Aj x1] (fun r=>(.bv r)):=⟨fun{r} h=>by
 have ok:=oJ 65 Tryz.f65 [.t 2] 1 9;refine FP ok fun w0 H0=>?_;rw [O6] at h;refine Vg 10 ?_;refine Vk [] (fun x3=>[(2,.bv x3)]) SG r ?_ fun J1=>?_
 ·intro x3 h;rw [SG] at h;exact Wx
 ·exact Wx⟩
def aV:Int→Option (Int×Int)
| x19=>some ((-1),x19)
def Xu (x1:List SX) (x3:DI):(Int×Int)→Option ((Int×Int) ⊕ (Int×Int))
| (x8,x9)=>
 A0 (decide (x8<(ln SX.row x1))) (
 (Ac x1 x8).bind fun x10=>
 (Q1 x10 x9 x3).bind fun x11=>
 A0 x11 (
 Option.map Sum.inr (some (x8,x10.PE))) (
 some (.inl (wr (x8+1),x10.PE)))) (
 Option.map Sum.inr (aV x9))
def Ti (x1:List SX) (x2:Int) (x3:DI):Option (Int×Int):=loop (Xu x1 x3) (0,x2)
instance t_slices_IndexFunc_Side_I1 {x1 x2 x3}:KT (Ti x1 x2 x3) 164 [CV x1,.clo 194 [.ptr 0 0,.ptr 1 0]] [some ⟨3,[.iv x2]⟩,some ⟨51,DI.row x3⟩] [] (fun r=>(.iv r.1)) (fun r=>[some ⟨3,[.iv r.2]⟩,some ⟨51,DI.row x3⟩]) (fun _=>[]):=⟨fun{r} h=>by
 refine Ft XU fun w0 M0=>?_;have ok:=XU;rw [Ti] at h;refine Vg 11 ?_;refine Vm [] (fun x19=>([],[(0,0,.iv x19)],[],[])) aV r ?_ fun J1=>?_
 ·intro x19 h;rw [aV] at h;exact Wx
 ·refine Vg 1 ?_;refine Mm h [0,2,5,1] (fun s=>([(8,.iv s.1)],[(0,0,.iv s.2)],[],[])) ?_;rintro n1 ⟨x8,x9⟩ y1 h hin1 hout1;rw [Xu] at h;refine Vg 5 ?_;refine MI h (fun h=>?_) fun h=>?_
  ·refine Vg 13 ?_;have ⟨x10,ex10,h⟩:=Bs h;refine Dt SX.row ex10 trivial rfl rfl rfl (Vg 1 ?_);have ⟨x11,ex11,h⟩:=Bs h;refine H8 [true,true] [] trivial rfl (t_dine_Check_1_I1.k ex11) (by kernel_rfl) (h:=?_);exact Wx
  ·exact Wx⟩
def ME (x1:Int) (x2:DK):Option Bool:=
 (Iy x2.DI.SD ((fun z=>Qc z x1))).bind fun x3=>
 some (!x3)
instance k_drink_Check_1 {x1 x2}:KP (ME x1 x2) 149 [.iv x1,.elt (DK.row x2) 0] (fun r=>(.bv r)):=⟨fun{r} h=>by have ok:=oJ 149 Tryz.f149 [.t 3] 2 8;refine FP ok fun w0 H0=>?_;rw [ME] at h;exact Wx⟩
instance {x2}:KC (fun z=>ME z x2) 149 [.elt (DK.row x2) 0] (fun z=>[.iv z]) (fun z=>(.bv z)):=⟨⟨by kernel_rfl,rfl,fun z r hz=>k_drink_Check_1.k hz⟩⟩
def MN:Bool→Option Bool
| x5=>some x5
def MM (x1 x2:DK):Option Bool:=
 (UX x1.DI x2.DI).bind fun x3=>
 A0 x3 (
 A0 (decide (x1.TH=x2.TH)) (
 (Iz x1.NE x2.NE).bind fun x4=>
 MN x4) (
 MN false)) (
 MN false)
instance k_drink_Same {x1 x2}:KP (MM x1 x2) 209 [.agg (DK.row x1),.agg (DK.row x2)] (fun r=>(.bv r)):=⟨fun{r} h=>by
 have ok:=oJ 209 Tryz.f209 [.t 4] 2 22;refine FP ok fun w0 H0=>?_;rw [MM] at h;refine Vg 12 ?_;refine VB h k_dine_Same.k fun _ _ h=>?_;refine Vg 1 ?_;refine Vl [] (fun x5=>([(4,.bv x5)],[],[])) MN r ?_ fun J1=>?_
 ·intro x5 h;rw [MN] at h;exact Wx
 ·exact Wx⟩
def WI (x4:List SX) (x5:List Int) (x9:List KE) (x10:List Int) (x11:List KE):List SE→Option (List SX×List Int×List KE×List Int×List KE×List SE)
| x39=>some (x4,x5,x9,x10,x11,x39)
def WJ (x19:Int):List SE→Option ((Int×List SE) ⊕ (List SX×List Int×List KE×List Int×List KE×List SE))
| x24=>some (.inl (wr (x19+1),x24))
def WK (x4:List SX) (x5:List Int) (x9:List KE) (x10:List Int) (x11:List KE) (x12:List SE):(Int×List SE)→Option ((Int×List SE) ⊕ (List SX×List Int×List KE×List Int×List KE×List SE))
| (x19,x20)=>
 A0 (decide (x19<(ln SE.row x12))) (
 (Ac x20 x19).bind fun x21=>
 (Cp x21.NE).bind fun x22=>
 (WJ x19) (x20.set (Int.toNat (x19)) (SE.mk x21.ID x22 x21.SS x21.Age))) (
 Option.map Sum.inr ((WI x4 x5 x9 x10 x11) x20))
def WH (x1:NO) (x4:List SX) (x5:List Int):(List KE×List Int×List KE)→Option (List SX×List Int×List KE×List Int×List KE×List SE)
| (x9,x10,x11)=>
 (Gc x1.BK.SE).bind fun x12=>
 loop (WK x4 x5 x9 x10 x11 x12) (0,x12)
def WG (x1:NO):(List SX×List Int)→Option (List SX×List Int×List KE×List Int×List KE×List SE)
| (x4,x5)=>
 (Ek x1.KN).bind fun x6=>
 (Cp x1.TL).bind fun x7=>
 (Ek x1.AK).bind fun x8=>
 (WH x1 x4 x5) (x6,x7,x8)
def NN (x1:NO):Option (List SX×List Int×List KE×List Int×List KE×List SE):=
 (Ew x1.DK.DI.SD).bind fun x2=>
 (Cp x1.DK.NE).bind fun x3=>
 (WG x1) (x2,x3)
instance t_node_own_I2 {x1}:KT (NN x1) 76 [.agg (NO.row x1)] [] [] (fun _=>(.agg [.iv x1.DK.DI.ID,.iv x1.DK.DI.PH,.osl 0,.iv x1.DK.TH,.osl 1,.iv x1.BK.LA,.osl 5,.osl 2,.osl 3,.osl 4])) (fun _=>[]) (fun r=>[Al r.1,Ae r.2.1,Ai r.2.2.1,Ae r.2.2.2.1,Ai r.2.2.2.2.1,B4 r.2.2.2.2.2]):=⟨fun{r} h=>by
 refine Ft OI fun w0 M0=>?_;have ok:=OI;rw [NN] at h;refine Vg 6 ?_;refine Vl [1,2] (fun s=>([],[some ⟨60,[.iv x1.DK.DI.ID,.iv x1.DK.DI.PH,.osl 0,.iv x1.DK.TH,.osl 1,.iv x1.BK.LA,Aq x1.BK.SE,Bf x1.KN,Aj x1.TL,Bf x1.AK]⟩,some ⟨60,[.iv 0,.iv 0,.nl,.iv 0,.nl,.iv 0,.nl,.nl,.nl,.nl]⟩],[Al s.1,Ae s.2])) (WG x1) r ?_ fun J1=>?_
 ·rintro ⟨x4,x5⟩ h;rw [WG] at h;refine Vg 1 ?_;refine Vl [1,2] (fun s=>([],[some ⟨60,[.iv x1.DK.DI.ID,.iv x1.DK.DI.PH,.osl 0,.iv x1.DK.TH,.osl 1,.iv x1.BK.LA,Aq x1.BK.SE,.osl 2,.osl 3,.osl 4]⟩,some ⟨60,[.iv 0,.iv 0,.nl,.iv 0,.nl,.iv 0,.nl,.nl,.nl,.nl]⟩],[Al x4,Ae x5,Ai s.1,Ae s.2.1,Ai s.2.2])) (WH x1 x4 x5) r ?_ fun J2=>?_
  ·rintro ⟨x9,x10,x11⟩ h;rw [WH] at h;refine Vg 5 ?_;have ⟨x12,ex12,h⟩:=Bs h;refine F1 trivial (II ex12) (h:=?_);refine Vg 13 ?_;refine Vm [1,2] (fun x39=>([],[],[],[(5,B4 x39)])) (WI x4 x5 x9 x10 x11) r ?_ fun J3=>?_
   ·intro x39 h;rw [WI] at h;exact Wx
   ·refine Vg 1 ?_;refine Mm h [1,2,36,1] (fun s=>([(40,.iv s.1)],[],[],[(5,B4 s.2)])) ?_;rintro n1 ⟨x19,x20⟩ y1 h hin1 hout1;rw [WK] at h;refine Vg 5 ?_;refine MI h (fun h=>?_) fun h=>?_
    ·refine Vg 8 ?_;refine Vm [1,2,36,2] (fun x24=>([],[],[],[(5,B4 x24)])) (WJ x19) y1 ?_ fun J4=>?_
     ·intro x24 h;rw [WJ] at h;exact Wx
     ·refine AD fun all H=>Ds (GP H 6 9 [2,1,3,1,1,7] [(43,[.ptr 0 5,.ptr 0 6]),(1,[.iv x19,.ptr 0 5,.ptr 0 6]),(1,[.iv x19])] (Ds ?_));refine Ao 2 6 rfl ?_ ?_
      ·refine RV ?_;refine R1 ?_;have ⟨x21,ex21,h⟩:=Bs h;refine RO ?_;refine RI ?_;refine Gn H 1 5 ?_;refine RO ?_;refine RL ?_;refine RB h Bi fun x22 ex22 h=>?_;refine RO ?_;refine RI ?_;refine Gn H 1 1 ?_;refine B8 [Aj x22] (SE.mk x21.ID x22 x21.SS x21.Age) ?_;exact Wx
      ·refine RV ?_;have ⟨x21,ex21,h⟩:=Bs h;refine Ao 2 8 rfl ?_ ?_
       ·refine RV ?_;refine RO ?_;refine RI ?_;refine Gn H 1 5 ?_;refine RO ?_;refine RL ?_;refine RB h Bi fun x22 ex22 h=>?_;refine Ak 12 rfl (GI H.1 SE.row ex21 (Ds ?_));refine Gn H 1 1 ?_;refine B8 [Aj x22] (SE.mk x21.ID x22 x21.SS x21.Age) ?_;exact Wx
       ·refine RI ?_;refine Gn H 1 6 ?_;refine Ao 2 10 rfl ?_ ?_
        ·refine RV ?_;refine RO ?_;refine RL ?_;refine RB h Bi fun x22 ex22 h=>?_;refine RO ?_;refine RI ?_;refine Gn H 1 1 ?_;refine B8 [Aj x22] (SE.mk x21.ID x22 x21.SS x21.Age) ?_;exact Wx
        ·refine RL ?_;have ⟨x22,ex22,h⟩:=Bs h;refine Ao 2 11 rfl ?_ ?_
         ·refine RV ?_;refine Ak 11 rfl (GC H.1 (Bi ex22) (Ds ?_));refine RO ?_;refine RI ?_;refine Gn H 1 1 ?_;refine B8 [Aj x22] (SE.mk x21.ID x22 x21.SS x21.Age) ?_;exact Wx
         ·refine GC H.1 (Bi ex22) (Ds ?_);refine R1 ?_;refine RO ?_;refine RI ?_;refine Gn H 1 1 ?_;refine B8 [Aj x22] (SE.mk x21.ID x22 x21.SS x21.Age) ?_;exact Wx
    ·exact Wx
  ·refine AD fun all H=>Ds (GP H 6 9 [2,1,2,1,2,7] [(18,[.ptr 0 7,Bf x1.KN]),(1,[.ptr 0 8,Aj x1.TL]),(1,[.ptr 0 9,Bf x1.AK])] (Ds ?_));refine Ak 2 rfl ?_;have ⟨x6,ex6,h⟩:=Bs h;refine AW H.1 rfl trivial (H1 ex6) (h:=?_);refine Gn H 1 7 ?_;refine Ak 5 rfl ?_;have ⟨x7,ex7,h⟩:=Bs h;refine AW H.1 rfl trivial (El ex7) (h:=Ds ?_);refine Ak 8 rfl ?_;have ⟨x8,ex8,h⟩:=Bs h;refine AW H.1 rfl trivial (H1 ex8) (h:=Ds ?_);refine R1 ?_;refine Gn H 1 3 ?_;refine R1 ?_;refine Gn H 1 1 ?_;refine R1 ?_;refine GD ?_;exact Wx
 ·refine AD fun all H=>Ds (GP H 7 9 [4,1,3,8] [(4,[.ptr 0 0,.ptr 0 0,.ptr 0 2,CV x1.DK.DI.SD]),(1,[.ptr 0 0,.ptr 0 4,Aj x1.DK.NE])] (Ds ?_));refine Ak 4 rfl ?_;have ⟨x2,ex2,h⟩:=Bs h;refine AW H.1 rfl trivial (Tw ex2) (h:=?_);refine Gn H 3 5 ?_;refine Ak 8 rfl ?_;have ⟨x3,ex3,h⟩:=Bs h;refine AW H.1 rfl trivial (El ex3) (h:=Ds ?_);refine R1 ?_;refine Gn H 2 1 ?_;refine R1 ?_;refine GD ?_;exact Wx⟩
def a8:(List SX×List Int)→Option (List SX×List Int)
| (x9,x10)=>some (x9,x10)
def MT (_x1 _x2 _x3:Int) (x4:List SX) (x5:List Int):Option (List SX×List Int):=
 (Ew x4).bind fun x6=>
 (Cp x5).bind fun x8=>
 a8 (x6,x8)
instance t_drink_own_I2 {x1 x2 x3 x4 x5}:KT (MT x1 x2 x3 x4 x5) 198 [.agg [.iv x1,.iv x2,.osl 0,.iv x3,.osl 1]] [] [Al x4,Ae x5] (fun _=>(.agg [.iv x1,.iv x2,.osl 2,.iv x3,.osl 3])) (fun _=>[]) (fun r=>[Al x4,Ae x5,Al r.1,Ae r.2]):=⟨fun{r} h=>by
 refine Ft XX fun w0 M0=>?_;have ok:=XX;rw [MT] at h;refine Vg 6 ?_;refine Vl [1,2] (fun s=>([],[some ⟨54,[.iv x1,.iv x2,.osl 2,.iv x3,.osl 3]⟩,some ⟨54,[.iv 0,.iv 0,.nl,.iv 0,.nl]⟩],[Al x4,Ae x5,Al s.1,Ae s.2])) a8 r ?_ fun J1=>?_
 ·rintro ⟨x9,x10⟩ h;rw [a8] at h;exact Wx
 ·refine AD fun all H=>?_;refine Gn H 3 9 ?_;refine Ao 2 5 rfl ?_ ?_
  ·refine RV ?_;have ⟨x6,ex6,h⟩:=Bs h;refine Ao 3 5 rfl ?_ ?_
   ·refine HX H.1 [] [0] 2 2 (LF ex6) (Ds ?_);refine R1 ?_;refine Gn H 2 4 ?_;refine RR [] [1] 2 3 h P3 fun x8 ex8 h=>?_;refine R1 ?_;refine Gn H 1 1 ?_;refine R1 ?_;refine GD ?_;exact Wx
   ·refine RV ?_;refine Ak 3 rfl (HX H.1 [] [0] 2 2 (LF ex6) ?_);refine Gn H 2 4 ?_;refine RR [] [1] 2 3 h P3 fun _ _ h=>?_;refine R1 ?_;refine Gn H 1 1 ?_;refine R1 ?_;refine GD ?_;exact Wx
  ·refine RV ?_;refine R1 ?_;refine RR [] [0] 2 2 h LF fun _ _ h=>?_;refine Gn H 2 4 ?_;refine RR [] [1] 2 3 h P3 fun _ _ h=>?_;refine R1 ?_;refine Gn H 1 1 ?_;refine R1 ?_;refine GD ?_;exact Wx⟩
@[go_sem] def oU:EC:=eQ Tryz.f122
theorem XO:FnOK Tryz.prog 122 Tryz.f122 oU [] 2 17:=AP
def SA:Bool→Option Bool
| x4=>some x4
def O2 (x1 x2:BK):Option Bool:=
 A0 (decide (x1.LA=x2.LA)) (
 (T7 x1.SE x2.SE ((fun z=>L5 z.1 z.2))).bind fun x3=>
 SA x3) (
 SA false)
instance k_sess_Same {x1 x2}:KP (O2 x1 x2) 39 [.agg (BK.row x1),.agg (BK.row x2)] (fun r=>(.bv r)):=⟨fun{r} h=>by
 have ok:=oJ 39 Tryz.f39 [.t 4] 2 15;refine FP ok fun w0 H0=>?_;rw [O2] at h;refine Vg 14 ?_;refine Vl [] (fun x4=>([(4,.bv x4)],[],[])) SA r ?_ fun J1=>?_
 ·intro x4 h;rw [SA] at h;exact Wx
 ·exact Wx⟩
def WN (x14:List SX) (x15:List Int) (x21:List KE) (x22:List Int) (x23:List KE):List SE→Option (List SX×List Int×List KE×List Int×List KE×List SE)
| x55=>some (x14,x15,x21,x22,x23,x55)
def WO (x31:Int):List SE→Option ((Int×List SE) ⊕ (List SX×List Int×List KE×List Int×List KE×List SE))
| x36=>some (.inl (wr (x31+1),x36))
def WP (x14:List SX) (x15:List Int) (x21:List KE) (x22:List Int) (x23:List KE) (x24:List SE):(Int×List SE)→Option ((Int×List SE) ⊕ (List SX×List Int×List KE×List Int×List KE×List SE))
| (x31,x32)=>
 A0 (decide (x31<(ln SE.row x24))) (
 (Ac x32 x31).bind fun x33=>
 (Cp x33.NE).bind fun x34=>
 (WO x31) (x32.set (Int.toNat (x31)) (SE.mk x33.ID x34 x33.SS x33.Age))) (
 Option.map Sum.inr ((WN x14 x15 x21 x22 x23) x32))
def WM (x5:List SE) (x14:List SX) (x15:List Int):(List KE×List Int×List KE)→Option (List SX×List Int×List KE×List Int×List KE×List SE)
| (x21,x22,x23)=>
 (Gc x5).bind fun x24=>
 loop (WP x14 x15 x21 x22 x23 x24) (0,x24)
def WL (x5:List SE) (x6:List Int) (x9 x10:List KE):(List SX×List Int)→Option (List SX×List Int×List KE×List Int×List KE×List SE)
| (x14,x15)=>
 (Ek x9).bind fun x16=>
 (Cp x6).bind fun x18=>
 (Ek x10).bind fun x20=>
 (WM x5 x14 x15) (x16,x18,x20)
def NP (_x1 _x2:Int) (_x3 _x4:Int) (x5:List SE) (x6:List Int) (x7:List SX) (x8:List Int) (x9 x10:List KE):Option (List SX×List Int×List KE×List Int×List KE×List SE):=
 (Ew x7).bind fun x11=>
 (Cp x8).bind fun x13=>
 (WL x5 x6 x9 x10) (x11,x13)
instance t_node_own_I3 {x1 x2 x3 x4 x5 x6 x7 x8 x9 x10}:KT (NP x1 x2 x3 x4 x5 x6 x7 x8 x9 x10) 76 [.agg [.iv x1,.iv x2,.osl 0,.iv x3,.osl 1,.iv x4,Aq x5,.osl 2,Aj x6,.osl 3]] [] [Al x7,Ae x8,Ai x9,Ai x10] (fun _=>(.agg [.iv x1,.iv x2,.osl 4,.iv x3,.osl 5,.iv x4,.osl 9,.osl 6,.osl 7,.osl 8])) (fun _=>[]) (fun r=>[Al x7,Ae x8,Ai x9,Ai x10,Al r.1,Ae r.2.1,Ai r.2.2.1,Ae r.2.2.2.1,Ai r.2.2.2.2.1,B4 r.2.2.2.2.2]):=⟨fun{r} h=>by
 refine Ft OI fun w0 M0=>?_;have ok:=OI;rw [NP] at h;refine Vg 6 ?_;refine Vl [1,2] (fun s=>([],[some ⟨60,[.iv x1,.iv x2,.osl 4,.iv x3,.osl 5,.iv x4,Aq x5,.osl 2,Aj x6,.osl 3]⟩,some ⟨60,[.iv 0,.iv 0,.nl,.iv 0,.nl,.iv 0,.nl,.nl,.nl,.nl]⟩],[Al x7,Ae x8,Ai x9,Ai x10,Al s.1,Ae s.2])) (WL x5 x6 x9 x10) r ?_ fun J1=>?_
 ·rintro ⟨x14,x15⟩ h;rw [WL] at h;refine Vg 1 ?_;refine Vl [1,2] (fun s=>([],[some ⟨60,[.iv x1,.iv x2,.osl 4,.iv x3,.osl 5,.iv x4,Aq x5,.osl 6,.osl 7,.osl 8]⟩,some ⟨60,[.iv 0,.iv 0,.nl,.iv 0,.nl,.iv 0,.nl,.nl,.nl,.nl]⟩],[Al x7,Ae x8,Ai x9,Ai x10,Al x14,Ae x15,Ai s.1,Ae s.2.1,Ai s.2.2])) (WM x5 x14 x15) r ?_ fun J2=>?_
  ·rintro ⟨x21,x22,x23⟩ h;rw [WM] at h;refine Vg 5 ?_;have ⟨x24,ex24,h⟩:=Bs h;refine F1 trivial (II ex24) (h:=?_);refine Vg 13 ?_;refine Vm [1,2] (fun x55=>([],[],[],[(9,B4 x55)])) (WN x14 x15 x21 x22 x23) r ?_ fun J3=>?_
   ·intro x55 h;rw [WN] at h;exact Wx
   ·refine Vg 1 ?_;refine Mm h [1,2,36,1] (fun s=>([(40,.iv s.1)],[],[],[(9,B4 s.2)])) ?_;rintro n1 ⟨x31,x32⟩ y1 h hin1 hout1;rw [WP] at h;refine Vg 5 ?_;refine MI h (fun h=>?_) fun h=>?_
    ·refine Vg 8 ?_;refine Vm [1,2,36,2] (fun x36=>([],[],[],[(9,B4 x36)])) (WO x31) y1 ?_ fun J4=>?_
     ·intro x36 h;rw [WO] at h;exact Wx
     ·refine AD fun all H=>Ds (GP H 6 9 [2,1,3,1,1,7] [(43,[.ptr 0 5,.ptr 0 6]),(1,[.iv x31,.ptr 0 5,.ptr 0 6]),(1,[.iv x31])] (Ds ?_));refine Ao 2 6 rfl ?_ ?_
      ·refine RV ?_;refine R1 ?_;have ⟨x33,ex33,h⟩:=Bs h;refine RO ?_;refine RI ?_;refine Gn H 1 5 ?_;refine RO ?_;refine RL ?_;refine RB h Bi fun x34 ex34 h=>?_;refine RO ?_;refine RI ?_;refine Gn H 1 1 ?_;refine B8 [Aj x34] (SE.mk x33.ID x34 x33.SS x33.Age) ?_;exact Wx
      ·refine RV ?_;have ⟨x33,ex33,h⟩:=Bs h;refine Ao 2 8 rfl ?_ ?_
       ·refine RV ?_;refine RO ?_;refine RI ?_;refine Gn H 1 5 ?_;refine RO ?_;refine RL ?_;refine RB h Bi fun x34 ex34 h=>?_;refine Ak 12 rfl (GI H.1 SE.row ex33 (Ds ?_));refine Gn H 1 1 ?_;refine B8 [Aj x34] (SE.mk x33.ID x34 x33.SS x33.Age) ?_;exact Wx
       ·refine RI ?_;refine Gn H 1 6 ?_;refine Ao 2 10 rfl ?_ ?_
        ·refine RV ?_;refine RO ?_;refine RL ?_;refine RB h Bi fun x34 ex34 h=>?_;refine RO ?_;refine RI ?_;refine Gn H 1 1 ?_;refine B8 [Aj x34] (SE.mk x33.ID x34 x33.SS x33.Age) ?_;exact Wx
        ·refine RL ?_;have ⟨x34,ex34,h⟩:=Bs h;refine Ao 2 11 rfl ?_ ?_
         ·refine RV ?_;refine Ak 11 rfl (GC H.1 (Bi ex34) (Ds ?_));refine RO ?_;refine RI ?_;refine Gn H 1 1 ?_;refine B8 [Aj x34] (SE.mk x33.ID x34 x33.SS x33.Age) ?_;exact Wx
         ·refine GC H.1 (Bi ex34) (Ds ?_);refine R1 ?_;refine RO ?_;refine RI ?_;refine Gn H 1 1 ?_;refine B8 [Aj x34] (SE.mk x33.ID x34 x33.SS x33.Age) ?_;exact Wx
    ·exact Wx
  ·refine AD fun all H=>?_;refine Gn H 4 11 ?_;refine Ao 1 7 rfl ?_ ?_
   ·refine RV ?_;have ⟨x16,ex16,h⟩:=Bs h;refine Ao 2 7 rfl ?_ ?_
    ·refine HX H.1 [] [2] 2 6 (K6 ex16) (Ds ?_);have ⟨x18,ex18,h⟩:=Bs h;refine Ao 5 7 rfl ?_ ?_
     ·refine AW H.1 rfl trivial (El ex18) (h:=Ds ?_);refine R1 ?_;refine Gn H 1 6 ?_;refine RR [] [3] 2 8 h K6 fun x20 ex20 h=>?_;refine R1 ?_;refine Gn H 1 3 ?_;refine R1 ?_;refine Gn H 1 1 ?_;refine R1 ?_;refine GD ?_;exact Wx
     ·refine RV ?_;refine Gn H 1 7 ?_;refine Ak 5 rfl (AW H.1 rfl trivial (El ex18) (h:=Ds ?_));refine RR [] [3] 2 8 h K6 fun _ _ h=>?_;refine R1 ?_;refine Gn H 1 3 ?_;refine R1 ?_;refine Gn H 1 1 ?_;refine R1 ?_;refine GD ?_;exact Wx
    ·refine RV ?_;refine Ak 2 rfl (HX H.1 [] [2] 2 6 (K6 ex16) ?_);refine Gn H 1 7 ?_;refine Ak 5 rfl ?_;have ⟨x18,ex18,h⟩:=Bs h;refine AW H.1 rfl trivial (El ex18) (h:=Ds ?_);refine RR [] [3] 2 8 h K6 fun _ _ h=>?_;refine R1 ?_;refine Gn H 1 3 ?_;refine R1 ?_;refine Gn H 1 1 ?_;refine R1 ?_;refine GD ?_;exact Wx
   ·refine RV ?_;refine R1 ?_;refine RR [] [2] 2 6 h K6 fun _ _ h=>?_;refine Gn H 1 7 ?_;refine Ak 5 rfl ?_;have ⟨x17,ex17,h⟩:=Bs h;refine AW H.1 rfl trivial (El ex17) (h:=Ds ?_);refine RR [] [3] 2 8 h K6 fun _ _ h=>?_;refine R1 ?_;refine Gn H 1 3 ?_;refine R1 ?_;refine Gn H 1 1 ?_;refine Ak 14 rfl (RV ?_);refine GD ?_;exact Wx
 ·refine AD fun all H=>Ds (GP H 5 11 [3,2,2,9] [(4,[.ptr 0 0,.ptr 0 0,.ptr 0 2]),(2,[.ptr 0 0,.ptr 0 4])] (Ds ?_));refine Ao 3 7 rfl ?_ ?_
  ·refine RV ?_;have ⟨x11,ex11,h⟩:=Bs h;refine Ao 4 7 rfl ?_ ?_
   ·refine HX H.1 [] [0] 2 4 (LF ex11) (Ds ?_);refine R1 ?_;refine Gn H 3 5 ?_;refine RR [] [1] 2 5 h P3 fun x13 ex13 h=>?_;refine GE H.1 12 (Ds ?_);refine Gn H 2 1 ?_;refine R1 ?_;refine GD ?_;exact Wx
   ·refine RV ?_;refine Ak 4 rfl (HX H.1 [] [0] 2 4 (LF ex11) ?_);refine Gn H 3 5 ?_;refine RR [] [1] 2 5 h P3 fun _ _ h=>?_;refine GE H.1 12 (Ds ?_);refine Gn H 2 1 ?_;refine R1 ?_;refine GD ?_;exact Wx
  ·refine RV ?_;refine R1 ?_;refine RR [] [0] 2 4 h LF fun _ _ h=>?_;refine Gn H 3 5 ?_;refine RR [] [1] 2 5 h P3 fun _ _ h=>?_;refine R1 ?_;refine Gn H 2 1 ?_;refine R1 ?_;refine GD ?_;exact Wx⟩
def X2:(Int×List SX)→Option (List SX)
| (x25,x26)=>
 (DQ (ln SX.row x26) x25 (ln SX.row x26)).bind fun _=>
 (He x26 (Int.toNat (x25)) (Int.toNat (ln SX.row x26)-Int.toNat (x25)) (SX.mk 0 0 0 false false false false false)).bind fun x28=>
 (D3 x28 0 x25).bind fun x29=>
 some x29
def Oj (x12:Int):(Int×List SX)→Option ((Int×Int×List SX) ⊕ (List SX))
| (x17,x18)=>some (.inl (x17,wr (x12+1),x18))
def T3 (p0:(SX→Option Bool)):(Int×Int×List SX)→Option ((Int×Int×List SX) ⊕ (List SX))
| (x11,x12,x13)=>
 A0 (decide (x12<(ln SX.row x13))) (
 (Ac x13 x12).bind fun x14=>
 (p0 x14).bind fun x15=>
 A0 (!x15) (
 (Ac x13 x11).bind fun _=>
 (Oj x12) (wr (x11+1),x13.set (Int.toNat (x11)) x14)) (
 (Oj x12) (x11,x13))) (
 Option.map Sum.inr (X2 (x11,x13)))
def Oi (x1:List SX) (p0:(SX→Option Bool)):Option (List SX):=
 (IA x1 p0).bind fun x2=>
 A0 (decide (x2=((-1)))) (
 some x1) (
 loop (T3 p0) (x2,wr (x2+1),x1))
instance t_slices_DeleteFunc_Side_I1 {x1 g0 caps0 p0} [ic0:KC p0 g0 caps0 (fun z=>[.agg (SX.row z)]) (fun z=>.bv z)]:KT (Oi x1 p0) 172 [.osl 0,.clo g0 caps0] [] [Al x1] (fun _=>(.osl 1)) (fun _=>[]) (fun r=>[none,Al r]):=⟨fun{r} h=>by
 have hc0:=ic0.k;refine Ft ix fun w0 M0=>?_;have ok:=ix;have A1:AJ [.w 100 8,.r 0 1]:=trivial;rw [Oi] at h;refine Vg 8 ?_;refine VN (LR.slice 0 rfl) h k_slices_IndexFunc_Side.k (fun _ _ h=>?_) (hp:=(by first | rfl | simp [go_sem,hc0.pu])) (ha:=(by first | exact AA _ | simp [go_sem,P1 _ _ _ hc0.pu]));refine Vg 8 ?_;refine MI h (fun h=>?_) fun h=>?_
 ·exact Wx
 ·refine Vg 8 ?_;refine Vl [0,1] (fun s=>([(5,.iv s.1)],[],[Al s.2])) X2 r ?_ fun J1=>?_
  ·rintro ⟨x25,x26⟩ h;rw [X2] at h;refine Vg 4 ?_;have ⟨x27,ex27,h⟩:=Bs h;refine YZ SX.row ex27 trivial rfl rfl rfl rfl ?_;have ⟨x28,ex28,h⟩:=Bs h;refine Ua SX.row ex28 trivial rfl rfl (by first | exact AA _ | simp [go_sem]) (by first | rfl | simp [go_sem]) rfl rfl (Vg 5 ?_);have ⟨x29,ex29,h⟩:=Bs h;refine P9 SX.row ex29 trivial rfl rfl rfl rfl ?_;exact Wx
  ·refine Vg 1 ?_;refine Ml h [0,2] (fun s=>([(5,.iv s.1),(6,.iv s.2.1)],[],[Al s.2.2])) ?_ (hok:=by rintro ⟨x11,x12,x13⟩;first | rfl | (simp [go_sem];done) | simp [go_sem,C2 _ hc0.pu]);rintro n1 ⟨x11,x12,x13⟩ y1 h hin1 hout1;rw [T3] at h;refine Vg 8 ?_;refine MI h (fun h=>?_) fun h=>?_
   ·refine Vg 7 ?_;have ⟨x14,ex14,h⟩:=Bs h;refine C5 SX.row ex14 trivial rfl rfl rfl (H9 SX.row ex14 trivial rfl rfl rfl (Vg 7 ?_));have ⟨x15,ex15,h⟩:=Bs h;refine U8 trivial rfl hc0 (x:=x14) ex15 (by first | exact AA _ | simp [go_sem]) (by first | rfl | simp [go_sem,hc0.pu]) (Vg 2 ?_);refine Vl [0,2,4,1] (fun s=>([(5,.iv s.1)],[],[Al s.2])) (Oj x12) y1 ?_ fun J2=>?_
    ·rintro ⟨x17,x18⟩ h;rw [Oj] at h;exact Wx
    ·refine MI h (fun h=>?_) fun h=>?_
     ·refine Vg 5 ?_;have ⟨x16,ex16,h⟩:=Bs h;refine C5 SX.row ex16 trivial rfl rfl rfl (Du (SX.row x14) SX.row (y':=x14) ex16 trivial rfl rfl rfl (by first | exact AA _ | simp [go_sem]) rfl rfl rfl rfl ?_);exact Wx
     ·exact Wx
   ·refine Vg 1 ?_;exact Eh J1 (CU h hout1) (hok:=by first | rfl | simp [go_sem])⟩
def Rr (x1 x2:Int) (x3 x4:Int) (x5:List SE) (x6:List SX) (x7:List Int) (x8:List KE) (x9:List Int) (x10:List KE):Option (List Int):=
 (WQ x1 x2 x3 x4 x5 x6 x7 x8 x9 x10 ((fun z=>Hx z))).bind fun x11=>
 some x11
instance t_node_Live_I1 {x1 x2 x3 x4 x5 x6 x7 x8 x9 x10}:KT (Rr x1 x2 x3 x4 x5 x6 x7 x8 x9 x10) 163 [.agg [.iv x1,.iv x2,.osl 0,.iv x3,.osl 1,.iv x4,Aq x5,.osl 2,.osl 3,.osl 4]] [] [Al x6,Ae x7,Ai x8,Ae x9,Ai x10] (fun _=>(.osl 5)) (fun _=>[]) (fun r=>[Al x6,Ae x7,Ai x8,Ae x9,Ai x10,Ae r]):=⟨fun{r} h=>by refine Ft XT fun w0 M0=>?_;have ok:=XT;rw [Rr] at h;exact Wx⟩
def RP (x14:(Bool×Int)):(Int×List SE)→Option (Bool×Int×List SE×Int)
| (x15,x16)=>some (decide (x14.2=0),x15,x16,x14.2)
def KU (x1:BK) (x2:Int) (x3 x4:Int) (x5 x6:Int) (x7:List SE) (x8:Int) (x9:List SX) (x10:List Int) (x11:List KE) (x12:List Int) (x13:List KE):Option (Bool×Int×List SE×Int):=
 (HC (decide (x2=0)) x2 x3 x4 x5 x6 x7 x8 x9 x10 x11 x12 x13).bind fun x14=>
 A0 x14.1 (
 (RP x14) (x1.LA,x1.SE)) (
 (RP x14) (x6,x7))
instance t_node_node_book_I1 {x1 x2 x3 x4 x5 x6 x7 x8 x9 x10 x11 x12 x13}:KT (KU x1 x2 x3 x4 x5 x6 x7 x8 x9 x10 x11 x12 x13) 176 [.ptr 0 0,.agg (BK.row x1),.iv x2] [some ⟨191,[.iv x3,.iv x4,.osl 0,.iv x5,.osl 1,.iv x6,Aq x7,.osl 2,.osl 3,.osl 4,.nl,.nl,.iv x8]⟩] [Al x9,Ae x10,Ai x11,Ae x12,Ai x13] (fun r=>(.bv r.1)) (fun r=>[some ⟨191,[.iv x3,.iv x4,.osl 0,.iv x5,.osl 1,.iv r.2.1,Aq r.2.2.1,.osl 2,.osl 3,.osl 4,.nl,.nl,.iv r.2.2.2]⟩]) (fun _=>[Al x9,Ae x10,Ai x11,Ae x12,Ai x13]):=⟨fun{r} h=>by
 refine Ft iz fun w0 M0=>?_;have ok:=iz;rw [KU] at h;refine Vg 12 ?_;refine VR [0] [0,1,2,3,4] 2 5 h t_node_node_need_I3.k fun x14 _ h=>?_;refine Vg 1 ?_;refine Vl [0,1] (fun s=>([],[some ⟨191,[.iv x3,.iv x4,.osl 0,.iv x5,.osl 1,.iv s.1,Aq s.2,.osl 2,.osl 3,.osl 4,.nl,.nl,.iv x14.2]⟩],[Al x9,Ae x10,Ai x11,Ae x12,Ai x13])) (RP x14) r ?_ fun J1=>?_
 ·rintro ⟨x15,x16⟩ h;rw [RP] at h;exact Wx
 ·exact Wx⟩
def aT:Int→Option (Int×Int)
| x17=>some ((-1),x17)
def On (x1:List KE):(Int×Int)→Option ((Int×Int) ⊕ (Int×Int))
| (x7,x8)=>
 A0 (decide (x7<(ln KE.row x1))) (
 (Ac x1 x7).bind fun x9=>
 (Ry x9 x8).bind fun x10=>
 A0 x10 (
 Option.map Sum.inr (some (x7,x9.PE))) (
 some (.inl (wr (x7+1),x9.PE)))) (
 Option.map Sum.inr (aT x8))
def Xk (x1:List KE) (x2:Int):Option (Int×Int):=loop (On x1) (0,x2)
instance t_slices_IndexFunc_Known_I1 {x1 x2}:KT (Xk x1 x2) 195 [Bf x1,.clo 154 [.ptr 0 0]] [some ⟨3,[.iv x2]⟩] [] (fun r=>(.iv r.1)) (fun r=>[some ⟨3,[.iv r.2]⟩]) (fun _=>[]):=⟨fun{r} h=>by
 refine Ft XW fun w0 M0=>?_;have ok:=XW;rw [Xk] at h;refine Vg 11 ?_;refine Vl [] (fun x17=>([],[some ⟨3,[.iv x17]⟩],[])) aT r ?_ fun J1=>?_
 ·intro x17 h;rw [aT] at h;exact Wx
 ·refine Vg 1 ?_;refine Ml h [0,2,5,1] (fun s=>([(8,.iv s.1)],[some ⟨3,[.iv s.2]⟩],[])) ?_;rintro n1 ⟨x7,x8⟩ y1 h hin1 hout1;rw [On] at h;refine Vg 5 ?_;refine MI h (fun h=>?_) fun h=>?_
  ·refine Vg 13 ?_;have ⟨x9,ex9,h⟩:=Bs h;refine Dt KE.row ex9 trivial rfl rfl rfl (Vg 1 ?_);have ⟨x10,ex10,h⟩:=Bs h;refine H8 [true] [] trivial rfl (t_node_edges_2_I1.k ex10) (by kernel_rfl) (h:=?_);exact Wx
  ·exact Wx⟩
def JJ:Bool→Option Bool
| x5=>some x5
def Nx (x1:NO) (x2:KE):Option Bool:=
 (Iy x1.DK.DI.SD ((fun z=>RM z x2))).bind fun x3=>
 A0 (!x3) (
 A0 (decide (0≤x2.PE)) (
 A0 (decide (x2.PE<x1.DK.DI.ID)) (
 (KS x1 x2.PE).bind fun x4=>
 A0 (decide (x4<x2.EP)) (
 JJ (decide (x2.EP≤65535))) (
 JJ false)) (
 JJ false)) (
 JJ false)) (
 JJ false)
instance k_node_may {x1 x2}:KP (Nx x1 x2) 118 [.agg (NO.row x1),.agg (KE.row x2)] (fun r=>(.bv r)):=⟨fun{r} h=>by
 have ok:=oJ 118 Tryz.f118 [.t 4] 2 40;refine FP ok fun w0 H0=>?_;rw [Nx] at h;refine Vg 13 ?_;refine VN (LR.block 1 rfl rfl) h k_slices_ContainsFunc_Side.k fun x3 _ h=>?_;refine Vg 3 ?_;refine Vl [] (fun x5=>([(4,.bv x5)],[],[])) JJ r ?_ fun J1=>?_
 ·intro x5 h;rw [JJ] at h;exact Wx
 ·refine AD fun all H=>Ds (GP H 3 28 [3,28] [(12,[.bv x3,.bv (!x3),.bv (!x3)])] (Ds ?_));refine BW 14 h rfl (fun _ h=>?_) fun _ h=>?_
  ·refine Ds (GP H 5 23 [8,23] [(15,[.ptr 1 0,.iv x2.PE,.bv (decide (0≤x2.PE)),.bv (decide (0≤x2.PE)),.bv (decide (0≤x2.PE))])] (Ds ?_));refine BW 19 h rfl (fun _ h=>?_) fun _ h=>?_
   ·refine Ds (GP H 9 14 [17,14] [(20,[.ptr 1 0,.iv x2.PE,.ptr 0 0,.ptr 0 0,.ptr 0 0,.iv x1.DK.DI.ID,.bv (decide (x2.PE<x1.DK.DI.ID)),.bv (decide (x2.PE<x1.DK.DI.ID)),.bv (decide (x2.PE<x1.DK.DI.ID))])] (Ds ?_));refine BW 28 h rfl (fun _ h=>?_) fun _ h=>?_
    ·refine Ds (GP H 5 9 [22,9] [(29,[.ptr 1 1,.iv x2.EP,.agg (NO.row x1),.ptr 1 0,.iv x2.PE])] (Ds ?_));refine RB h k_node_epoch.k fun x4 _ h=>?_;refine GP H 3 5 [26,5] [(35,[.bv (decide (x4<x2.EP)),.bv (decide (x4<x2.EP)),.bv (decide (x4<x2.EP))])] (Ds ?_);refine BW 37 h rfl (fun _ h=>?_) fun _ h=>?_
     ·exact Wx
     ·exact Wx
    ·refine Ds (GP H 14 0 [31] [(36,[.ff,.ff]),(3,[.ff])] (Ds ?_));refine GD ?_;exact Wx
   ·refine Ds (GP H 23 0 [31] [(27,[.ff,.ff]),(7,[.ff,.ff]),(3,[.ff])] (Ds ?_));refine GD ?_;exact Wx
  ·refine Ds (GP H 28 0 [31] [(18,[.ff,.ff]),(7,[.ff,.ff]),(7,[.ff,.ff]),(3,[.ff])] (Ds ?_));refine GD ?_;exact Wx⟩
def aC:Unit→Option Bool
| ()=>some true
def Ru (x1:List KE):Int→Option (Int ⊕ Bool)
| x6=>
 A0 (decide (x6<(ln KE.row x1))) (
 (Ac x1 x6).bind fun x7=>
 (D3 x1 0 x6).bind fun x8=>
 (Og x8 ((fun z=>Rt z x7))).bind fun x9=>
 A0 x9 (
 Option.map Sum.inr (some false)) (
 some (.inl (wr (x6+1))))) (
 Option.map Sum.inr (aC ()))
def Nv (x1:List KE):Option Bool:=loop (Ru x1) 0
instance k_node_distinct {x1}:KP (Nv x1) 119 [Bf x1] (fun r=>(.bv r)):=⟨fun{r} h=>by
 have ok:=oJ 119 Tryz.f119 [.t 2] 1 17;refine FP ok fun w0 H0=>?_;rw [Nv] at h;refine Vg 11 ?_;refine Vk [] (fun _=>[]) aC r ?_ fun J1=>?_
 ·rintro ⟨⟩ h;rw [aC] at h;exact Wx
 ·refine Vg 1 ?_;refine Mk h [0,1,4,2] (fun x6=>[(7,.iv x6)]) ?_;rintro n1 x6 y1 h hin1 hout1;rw [Ru] at h;refine Vg 5 ?_;refine MI h (fun h=>?_) fun h=>?_
  ·refine Vg 6 ?_;have ⟨x7,ex7,h⟩:=Bs h;refine Dt KE.row ex7 trivial rfl rfl rfl (Vg 9 ?_);have ⟨x8,ex8,h⟩:=Bs h;refine nB KE.row ex8 trivial rfl rfl rfl rfl ?_;exact Wx
  ·exact Wx⟩
def V5:(List SX×List Int)→Option (List SX×List Int)
| (x4,x5)=>some (x4,x5)
def V4 (x1:DK):Option (List SX×List Int):=
 (Ew x1.DI.SD).bind fun x2=>
 (Cp x1.NE).bind fun x3=>
 V5 (x2,x3)
instance t_drink_own_I1 {x1}:KT (V4 x1) 198 [.agg (DK.row x1)] [] [] (fun _=>(.agg [.iv x1.DI.ID,.iv x1.DI.PH,.osl 0,.iv x1.TH,.osl 1])) (fun _=>[]) (fun r=>[Al r.1,Ae r.2]):=⟨fun{r} h=>by
 refine Ft XX fun w0 M0=>?_;have ok:=XX;rw [V4] at h;refine Vg 6 ?_;refine Vl [1,2] (fun s=>([],[some ⟨54,[.iv x1.DI.ID,.iv x1.DI.PH,.osl 0,.iv x1.TH,.osl 1]⟩,some ⟨54,[.iv 0,.iv 0,.nl,.iv 0,.nl]⟩],[Al s.1,Ae s.2])) V5 r ?_ fun J1=>?_
 ·rintro ⟨x4,x5⟩ h;rw [V5] at h;exact Wx
 ·refine AD fun all H=>?_;refine Gn H 5 7 ?_;refine Ak 3 rfl ?_;have ⟨x2,ex2,h⟩:=Bs h;refine AW H.1 rfl trivial (Tw ex2) (h:=?_);refine Gn H 2 4 ?_;refine Ak 6 rfl ?_;have ⟨x3,ex3,h⟩:=Bs h;refine AW H.1 rfl trivial (El ex3) (h:=Ds ?_);refine GE H.1 9 (Ds ?_);refine Gn H 1 1 ?_;refine R1 ?_;refine GD ?_;exact Wx⟩
def Qq (x1 x2:Edge):Option Int:=
 (Mr x1.A x2.A).bind fun x3=>
 (Mr x1.B x2.B).bind fun x4=>
 (PQ ([x3,x4])).bind fun x5=>
 some x5
instance k_graph_rank {x1 x2}:KP (Qq x1 x2) 44 [.agg (Edge.row x1),.agg (Edge.row x2)] (fun r=>(.iv r)):=⟨fun{r} h=>by have ok:=oJ 44 Tryz.f44 [.t 4] 2 15;refine FP ok fun w0 H0=>?_;rw [Qq] at h;exact Wx⟩
def aw (x2:DK) (x3:BK):(List KE×List Int×List KE)→Option NO
| (x9,x10,x11)=>some (NO.mk x2 x3 x9 x10 x11)
def QX (x1:NO):Option NO:=
 (VT x1.DK).bind fun x2=>
 (Jw x1.BK).bind fun x3=>
 (AE 16 (([]:List KE)) x1.KN).bind fun x4=>
 (AE 8 (([]:List Int)) x1.TL).bind fun x6=>
 (AE 16 (([]:List KE)) x1.AK).bind fun x8=>
 (aw x2 x3) (x4,x6,x8)
instance k_narthexlaw18_Own {x1}:KP (QX x1) 50 [.agg (NO.row x1)] (fun r=>(.agg (NO.row r))):=⟨fun{r} h=>by
 have ok:=oJ 50 Tryz.f50 [.c 2 (some 10)] 1 26;refine FP ok fun w0 H0=>?_;have A5:AJ [.r 3 1,.r 4 3]:=trivial;have A4:AJ [.r 2 1,.r 4 3]:=trivial;have A3:AJ [.r 2 1]:=trivial;have A2:AJ [.r 4 3]:=trivial;have A1:AJ [.s 1,.s 3,.s 5]:=trivial;rw [QX] at h;refine Vg 6 ?_;have ⟨x2,ex2,h⟩:=Bs h;have ⟨x3,ex3,h⟩:=Bs h;have q0:=k_narthexlaw15_Own.k ex2;have q1:=k_narthexlaw17_Own.k ex3;refine AD fun all H=>Gs ?_;refine Vg 1 ?_;refine Vl [1,2] (fun s=>([],[some ⟨60,[.iv x2.DI.ID,.iv x2.DI.PH,CV x2.DI.SD,.iv x2.TH,Aj x2.NE,.iv x3.LA,Aq x3.SE,.osl 1,.osl 3,.osl 5]⟩,some ⟨60,[.iv 0,.iv 0,.nl,.iv 0,.nl,.iv 0,.nl,.nl,.nl,.nl]⟩],[none,Ai s.1,none,Ae s.2.1,none,Ai s.2.2])) (aw x2 x3) r ?_ fun J1=>?_
 ·rintro ⟨x9,x10,x11⟩ h;rw [aw] at h;refine Vg 5 ?_;(refine Wj [.s 1,.s 3,.s 5] ?_);exact Wx
 ·refine AD fun all H=>Ds (GP H 6 12 [0,1,2,2,2,2,2,7] [(12,[.ptr 0 7,Bf x1.KN]),(2,[.ptr 0 8,Aj x1.TL]),(2,[.ptr 0 9,Bf x1.AK])] (Ds ?_));refine Eo 0 4 8 rfl ?_ ?_ ?_
  ·refine RV ?_;have ⟨x4,ex4,h⟩:=Bs h;refine Eo 3 4 8 rfl ?_ ?_ ?_
   ·refine GA KE.row ex4 H.1 ?_;refine Gn H 1 9 ?_;refine Ao 4 8 rfl ?_ ?_
    ·exact Wx
    ·exact Wx
   ·refine RV ?_;refine Ao 3 8 rfl ?_ ?_
    ·refine GA KE.row ex4 H.1 ?_;refine Gn H 1 8 ?_;have ⟨x6,ex6,h⟩:=Bs h;refine Ao 7 8 rfl ?_ ?_
     ·exact Wx
     ·exact Wx
    ·refine RV ?_;refine Ak 3 rfl (GA KE.row ex4 H.1 ?_);refine Gn H 1 7 ?_;refine Ak 7 rfl ?_;have ⟨x6,ex6,h⟩:=Bs h;refine GA Am ex6 H.1 (Ds ?_);refine Ak 11 rfl ?_;have ⟨x7,ex7,h⟩:=Bs h;refine GA KE.row ex7 H.1 (Ds ?_);refine R1 ?_;refine Gn H 1 3 ?_;refine R1 ?_;refine Gn H 1 1 ?_;refine R1 ?_;refine GD ?_;(refine Wj [.r 3 1,.r 4 3] ?_);exact Wx
   ·refine RV ?_;refine Ao 3 4 rfl ?_ ?_
    ·refine GA KE.row ex4 H.1 ?_;refine Gn H 1 8 ?_;refine R1 ?_;refine Ak 7 rfl ?_;have ⟨x6,ex6,h⟩:=Bs h;refine GA Am ex6 H.1 (Ds ?_);refine Ak 11 rfl ?_;have ⟨x7,ex7,h⟩:=Bs h;refine GA KE.row ex7 H.1 (Ds ?_);refine R1 ?_;refine Gn H 1 3 ?_;refine R1 ?_;refine Gn H 1 1 ?_;refine R1 ?_;refine GD ?_;(refine Wj [.r 2 1,.r 4 3] ?_);exact Wx
    ·refine RV ?_;refine Ak 3 rfl (GA KE.row ex4 H.1 ?_);refine Gn H 1 7 ?_;refine Ak 7 rfl ?_;have ⟨x6,ex6,h⟩:=Bs h;refine GA Am ex6 H.1 (Ds ?_);refine Ak 11 rfl ?_;have ⟨x7,ex7,h⟩:=Bs h;refine GA KE.row ex7 H.1 (Ds ?_);refine R1 ?_;refine Gn H 1 3 ?_;refine R1 ?_;refine Gn H 1 1 ?_;refine R1 ?_;refine GD ?_;(refine Wj [.r 3 1,.r 4 3] ?_);exact Wx
  ·refine RV ?_;refine Ao 0 8 rfl ?_ ?_
   ·refine RV ?_;have ⟨x4,ex4,h⟩:=Bs h;refine Ao 3 8 rfl ?_ ?_
    ·refine GA KE.row ex4 H.1 ?_;refine Gn H 1 8 ?_;have ⟨x6,ex6,h⟩:=Bs h;refine Ao 7 8 rfl ?_ ?_
     ·refine GA Am ex6 H.1 (Ds ?_);refine R1 ?_;refine Ak 11 rfl ?_;have ⟨x8,ex8,h⟩:=Bs h;refine GA KE.row ex8 H.1 (Ds ?_);refine R1 ?_;refine Gn H 1 3 ?_;refine R1 ?_;refine GN H 1 1 (Ds ?_);refine An (R1 ?_);refine GD ?_;(refine Wj [.r 2 1] ?_);exact Wx
     ·exact Wx
    ·refine RV ?_;refine Ak 3 rfl (GA KE.row ex4 H.1 ?_);refine Gn H 1 7 ?_;refine Ak 7 rfl ?_;have ⟨x6,ex6,h⟩:=Bs h;refine GA Am ex6 H.1 (Ds ?_);refine Ak 11 rfl ?_;have ⟨x7,ex7,h⟩:=Bs h;refine GA KE.row ex7 H.1 (Ds ?_);refine R1 ?_;refine Gn H 1 3 ?_;refine R1 ?_;refine Gn H 1 1 ?_;refine R1 ?_;refine GD ?_;(refine Wj [.r 3 1,.r 4 3] ?_);exact Wx
   ·refine RV ?_;refine R1 ?_;refine Ak 3 rfl ?_;have ⟨x4,ex4,h⟩:=Bs h;refine GA KE.row ex4 H.1 ?_;refine Gn H 1 7 ?_;refine Ak 7 rfl ?_;have ⟨x5,ex5,h⟩:=Bs h;refine GA Am ex5 H.1 (Ds ?_);refine Ak 11 rfl ?_;have ⟨x6,ex6,h⟩:=Bs h;refine GA KE.row ex6 H.1 (Ds ?_);refine R1 ?_;refine Gn H 1 3 ?_;refine R1 ?_;refine Gn H 1 1 ?_;refine R1 ?_;refine GD ?_;(refine Wj [.r 3 1,.r 4 3] ?_);exact Wx
  ·refine RV ?_;refine Ao 0 4 rfl ?_ ?_
   ·refine RV ?_;have ⟨x4,ex4,h⟩:=Bs h;refine Ao 3 4 rfl ?_ ?_
    ·refine GA KE.row ex4 H.1 ?_;refine Gn H 1 8 ?_;refine R1 ?_;refine Ak 7 rfl ?_;have ⟨x6,ex6,h⟩:=Bs h;refine GA Am ex6 H.1 (Ds ?_);refine Ak 11 rfl ?_;have ⟨x7,ex7,h⟩:=Bs h;refine GA KE.row ex7 H.1 (Ds ?_);refine R1 ?_;refine Gn H 1 3 ?_;refine R1 ?_;refine Gn H 1 1 ?_;refine R1 ?_;refine GD ?_;(refine Wj [.r 2 1,.r 4 3] ?_);exact Wx
    ·refine RV ?_;refine Ak 3 rfl (GA KE.row ex4 H.1 ?_);refine Gn H 1 7 ?_;refine Ak 7 rfl ?_;have ⟨x6,ex6,h⟩:=Bs h;refine GA Am ex6 H.1 (Ds ?_);refine Ak 11 rfl ?_;have ⟨x7,ex7,h⟩:=Bs h;refine GA KE.row ex7 H.1 (Ds ?_);refine R1 ?_;refine Gn H 1 3 ?_;refine R1 ?_;refine Gn H 1 1 ?_;refine R1 ?_;refine GD ?_;(refine Wj [.r 3 1,.r 4 3] ?_);exact Wx
   ·refine RV ?_;refine R1 ?_;refine Ak 3 rfl ?_;have ⟨x4,ex4,h⟩:=Bs h;refine GA KE.row ex4 H.1 ?_;refine Gn H 1 7 ?_;refine Ak 7 rfl ?_;have ⟨x5,ex5,h⟩:=Bs h;refine GA Am ex5 H.1 (Ds ?_);refine Ak 11 rfl ?_;have ⟨x6,ex6,h⟩:=Bs h;refine GA KE.row ex6 H.1 (Ds ?_);refine R1 ?_;refine Gn H 1 3 ?_;refine R1 ?_;refine Gn H 1 1 ?_;refine R1 ?_;refine GD ?_;(refine Wj [.r 3 1,.r 4 3] ?_);exact Wx⟩
def aJ (x10:List SX) (x11:List Int) (x15:List KE) (x16:List Int) (x17:List KE):List SE→Option (List SX×List Int×List KE×List Int×List KE×List SE)
| x46=>some (x10,x11,x15,x16,x17,x46)
def aK (x25:Int):List SE→Option ((Int×List SE) ⊕ (List SX×List Int×List KE×List Int×List KE×List SE))
| x30=>some (.inl (wr (x25+1),x30))
def gK (x10:List SX) (x11:List Int) (x15:List KE) (x16:List Int) (x17:List KE) (x18:List SE):(Int×List SE)→Option ((Int×List SE) ⊕ (List SX×List Int×List KE×List Int×List KE×List SE))
| (x25,x26)=>
 A0 (decide (x25<(ln SE.row x18))) (
 (Ac x26 x25).bind fun x27=>
 (Cp x27.NE).bind fun x28=>
 (aK x25) (x26.set (Int.toNat (x25)) (SE.mk x27.ID x28 x27.SS x27.Age))) (
 Option.map Sum.inr ((aJ x10 x11 x15 x16 x17) x26))
def WF (x10:List SX) (x11:List Int):(List KE×List Int×List KE)→Option (List SX×List Int×List KE×List Int×List KE×List SE)
| (x15,x16,x17)=>
 (Gc (([]:List SE))).bind fun x18=>
 loop (gK x10 x11 x15 x16 x17 x18) (0,x18)
def WE (x7:List KE):(List SX×List Int)→Option (List SX×List Int×List KE×List Int×List KE×List SE)
| (x10,x11)=>
 (Ek x7).bind fun x12=>
 (Cp (([]:List Int))).bind fun x13=>
 (Ek (([]:List KE))).bind fun x14=>
 (WF x10 x11) (x12,x13,x14)
def NM (_x1 _x2:Int) (x3:List SX) (_x4:Int) (x5:List Int) (_x6:Int) (x7:List KE):Option (List SX×List Int×List KE×List Int×List KE×List SE):=
 (Ew x3).bind fun x8=>
 (Cp x5).bind fun x9=>
 (WE x7) (x8,x9)
instance t_node_own_I1 {x1 x2 x3 x4 x5 x6 x7}:KT (NM x1 x2 x3 x4 x5 x6 x7) 76 [.agg [.iv x1,.iv x2,CV x3,.iv x4,Aj x5,.iv x6,.nl,.osl 0,.nl,.nl]] [] [Ai x7] (fun _=>(.agg [.iv x1,.iv x2,.osl 1,.iv x4,.osl 2,.iv x6,.osl 6,.osl 3,.osl 4,.osl 5])) (fun _=>[]) (fun r=>[Ai x7,Al r.1,Ae r.2.1,Ai r.2.2.1,Ae r.2.2.2.1,Ai r.2.2.2.2.1,B4 r.2.2.2.2.2]):=⟨fun{r} h=>by
 refine Ft OI fun w0 M0=>?_;have ok:=OI;rw [NM] at h;refine Vg 6 ?_;refine Vl [1,2] (fun s=>([],[some ⟨60,[.iv x1,.iv x2,.osl 1,.iv x4,.osl 2,.iv x6,.nl,.osl 0,.nl,.nl]⟩,some ⟨60,[.iv 0,.iv 0,.nl,.iv 0,.nl,.iv 0,.nl,.nl,.nl,.nl]⟩],[Ai x7,Al s.1,Ae s.2])) (WE x7) r ?_ fun J1=>?_
 ·rintro ⟨x10,x11⟩ h;rw [WE] at h;refine Vg 1 ?_;refine Vl [1,2] (fun s=>([],[some ⟨60,[.iv x1,.iv x2,.osl 1,.iv x4,.osl 2,.iv x6,.nl,.osl 3,.osl 4,.osl 5]⟩,some ⟨60,[.iv 0,.iv 0,.nl,.iv 0,.nl,.iv 0,.nl,.nl,.nl,.nl]⟩],[Ai x7,Al x10,Ae x11,Ai s.1,Ae s.2.1,Ai s.2.2])) (WF x10 x11) r ?_ fun J2=>?_
  ·rintro ⟨x15,x16,x17⟩ h;rw [WF] at h;refine Vg 5 ?_;have ⟨x18,ex18,h⟩:=Bs h;refine F1 trivial (II ex18) (h:=?_);refine Vg 13 ?_;refine Vm [1,2] (fun x46=>([],[],[],[(6,B4 x46)])) (aJ x10 x11 x15 x16 x17) r ?_ fun J3=>?_
   ·intro x46 h;rw [aJ] at h;exact Wx
   ·refine Vg 1 ?_;refine Mm h [1,2,36,1] (fun s=>([(40,.iv s.1)],[],[],[(6,B4 s.2)])) ?_;rintro n1 ⟨x25,x26⟩ y1 h hin1 hout1;rw [gK] at h;refine Vg 5 ?_;refine MI h (fun h=>?_) fun h=>?_
    ·refine Vg 8 ?_;refine Vm [1,2,36,2] (fun x30=>([],[],[],[(6,B4 x30)])) (aK x25) y1 ?_ fun J4=>?_
     ·intro x30 h;rw [aK] at h;exact Wx
     ·refine AD fun all H=>Ds (GP H 6 9 [2,1,3,1,1,7] [(43,[.ptr 0 5,.ptr 0 6]),(1,[.iv x25,.ptr 0 5,.ptr 0 6]),(1,[.iv x25])] (Ds ?_));refine Ao 2 6 rfl ?_ ?_
      ·refine RV ?_;refine R1 ?_;have ⟨x27,ex27,h⟩:=Bs h;refine RO ?_;refine RI ?_;refine Gn H 1 5 ?_;refine RO ?_;refine RL ?_;refine RB h Bi fun x28 ex28 h=>?_;refine RO ?_;refine RI ?_;refine Gn H 1 1 ?_;refine B8 [Aj x28] (SE.mk x27.ID x28 x27.SS x27.Age) ?_;exact Wx
      ·refine RV ?_;have ⟨x27,ex27,h⟩:=Bs h;refine Ao 2 8 rfl ?_ ?_
       ·refine RV ?_;refine RO ?_;refine RI ?_;refine Gn H 1 5 ?_;refine RO ?_;refine RL ?_;refine RB h Bi fun x28 ex28 h=>?_;refine Ak 12 rfl (GI H.1 SE.row ex27 (Ds ?_));refine Gn H 1 1 ?_;refine B8 [Aj x28] (SE.mk x27.ID x28 x27.SS x27.Age) ?_;exact Wx
       ·refine RI ?_;refine Gn H 1 6 ?_;refine Ao 2 10 rfl ?_ ?_
        ·refine RV ?_;refine RO ?_;refine RL ?_;refine RB h Bi fun x28 ex28 h=>?_;refine RO ?_;refine RI ?_;refine Gn H 1 1 ?_;refine B8 [Aj x28] (SE.mk x27.ID x28 x27.SS x27.Age) ?_;exact Wx
        ·refine RL ?_;have ⟨x28,ex28,h⟩:=Bs h;refine Ao 2 11 rfl ?_ ?_
         ·refine RV ?_;refine Ak 11 rfl (GC H.1 (Bi ex28) (Ds ?_));refine RO ?_;refine RI ?_;refine Gn H 1 1 ?_;refine B8 [Aj x28] (SE.mk x27.ID x28 x27.SS x27.Age) ?_;exact Wx
         ·refine GC H.1 (Bi ex28) (Ds ?_);refine R1 ?_;refine RO ?_;refine RI ?_;refine Gn H 1 1 ?_;refine B8 [Aj x28] (SE.mk x27.ID x28 x27.SS x27.Age) ?_;exact Wx
    ·exact Wx
  ·refine AD fun all H=>Ds (GP H 5 10 [1,2,2,1,2,7] [(18,[.ptr 0 7]),(2,[.ptr 0 8,.nl]),(1,[.ptr 0 9,.nl])] (Ds ?_));refine R1 ?_;refine RR [] [0] 2 3 h K6 fun _ _ h=>?_;refine GN H 1 7 (Ds ?_);refine An (Ak 5 rfl ?_);have ⟨x13,ex13,h⟩:=Bs h;refine AW H.1 rfl trivial (El ex13) (h:=Ds ?_);refine Ak 8 rfl ?_;have ⟨x14,ex14,h⟩:=Bs h;refine AW H.1 rfl trivial (H1 ex14) (h:=?_);exact Wx
 ·refine AD fun all H=>Ds (GP H 7 9 [4,1,3,8] [(4,[.ptr 0 0,.ptr 0 0,.ptr 0 2,CV x3]),(1,[.ptr 0 0,.ptr 0 4,Aj x5])] (Ds ?_));refine Ak 4 rfl ?_;have ⟨x8,ex8,h⟩:=Bs h;refine AW H.1 rfl trivial (Tw ex8) (h:=?_);refine Gn H 3 5 ?_;refine Ak 8 rfl ?_;have ⟨x9,ex9,h⟩:=Bs h;refine AW H.1 rfl trivial (El ex9) (h:=Ds ?_);refine R1 ?_;refine Gn H 2 1 ?_;refine R1 ?_;refine GD ?_;exact Wx⟩
def aR:List ML→Option (List ML)
| x31=>some x31
def Oc (x1:(List (List ML))):(Int×List ML)→Option ((Int×List ML) ⊕ (List ML))
| (x21,x22)=>
 A0 (decide (x21<(ln (Ci 5 ML.row) x1))) (
 (Ac x1 x21).bind fun x23=>
 (AE 40 x22 x23).bind fun x24=>
 some (.inl (wr (x21+1),x24))) (
 Option.map Sum.inr (aR x22))
def WX (x1:(List (List ML))):Int→Option (List ML)
| x15=>
 (T9 x15).bind fun x16=>
 loop (Oc x1) (0,x16)
def SP (x5 x6:Int) (x7:List ML):Unit→Option ((Int×Int) ⊕ (List ML))
| ()=>some (.inl (wr (x5+(ln ML.row x7)),wr (x6+1)))
def SQ (x1:(List (List ML))):(Int×Int)→Option ((Int×Int) ⊕ (List ML))
| (x5,x6)=>
 A0 (decide (x6<(ln (Ci 5 ML.row) x1))) (
 (Ac x1 x6).bind fun x7=>
 A0 (decide ((wr (x5+(ln ML.row x7)))<0)) (
 none) (
 (SP x5 x6 x7) ())) (
 Option.map Sum.inr ((WX x1) x5))
def Ix (x1:(List (List ML))):Option (List ML):=loop (SQ x1) (0,0)
theorem E4 {x1 r} (h:Ix x1=some r):FOx 83 [.sl 1 (List.map (Ci 5 ML.row) x1)] 156 5 (List.map ML.row r):=by
 have ok:=oJ 83 Tryz.f83 [.t 2] 1 35;refine EX ok rfl fun w0 H0=>?_;have A1:AJ [.r 1 0]:=trivial;rw [Ix] at h;refine Vg 15 ?_;refine Vk [0,1] (fun x15=>[(3,.iv x15)]) (WX x1) r ?_ fun J1=>?_
 ·intro x15 h;rw [WX] at h;refine Vg 3 ?_;have ⟨x16,ex16,h⟩:=Bs h;refine IR [] [] trivial (t_slices_Grow_Mail_I1.k ex16) (h:=?_);refine Vg 9 ?_;refine Vl [6,1] (fun x31=>([],[],[AG x31])) aR r ?_ fun J3=>?_
  ·intro x31 h;rw [aR] at h;refine Vg 5 ?_;exact De ML.row ok h rfl rfl
  ·refine Vg 1 ?_;refine Ml h [6,1,18,2] (fun s=>([(27,.iv s.1)],[],[AG s.2])) ?_;rintro n1 ⟨x21,x22⟩ y1 h hin1 hout1;rw [Oc] at h;exact Wx
 ·refine Vg 1 ?_;refine Mk h [0,1,8,2] (fun s=>[(3,.iv s.1),(11,.iv s.2)]) ?_;rintro n1 ⟨x5,x6⟩ y1 h hin1 hout1;rw [SQ] at h;refine Vg 5 ?_;refine MI h (fun h=>?_) fun h=>?_
  ·refine Vg 5 ?_;have ⟨x7,ex7,h⟩:=Bs h;refine Dt (Ci 5 ML.row) ex7 trivial rfl rfl rfl (Vg 16 ?_);refine Vk [0,1,2,1,5,3] (fun _=>[]) (SP x5 x6 x7) y1 ?_ fun J2=>?_
   ·rintro ⟨⟩ h;rw [SP] at h;exact Wx
   ·refine MI h (fun h=>?_) fun h=>?_
    ·cases h
    ·exact Wx
  ·exact Wx
theorem rU {x1 r} (h:Ix x1=some r):FPx 83 [.sl 1 (List.map (Ci 5 ML.row) x1)] (CM r):=(E4 h).sealed
instance {x1}:KP (Ix x1) 83 [.sl 1 (List.map (Ci 5 ML.row) x1)] (fun r=>(CM r)):=⟨fun h=>rU h⟩
def R7:Bool→Option Bool
| x14=>some x14
def R6 (x1:Graph) (x2:List narthexlaw19_Step):Unit→Option Bool
| ()=>
 (Rm x1).bind fun x13=>
 A0 x13 (
 A0 (decide (x1.N≤6)) (
 R7 (decide ((ln narthexlaw19_Step.row x2)≤80))) (
 R7 false)) (
 R7 false)
def GS (x1:Graph) (x2:List narthexlaw19_Step) (x6:Int):Bool→Option (Int ⊕ Bool)
| x7=>
 A0 x7 (
 (Ac x2 x6).bind fun x8=>
 A0 (decide (20<(ln Am x8.Do.NE))) (
 Option.map Sum.inr (some false)) (
 some (.inl (wr (x6+1))))) (
 Option.map Sum.inr ((R6 x1 x2) ()))
def R8 (x1:Graph) (x2:List narthexlaw19_Step):Int→Option (Int ⊕ Bool)
| x6=>
 A0 (decide (x6<(ln narthexlaw19_Step.row x2))) (
 (GS x1 x2 x6) (decide (x6<81))) (
 (GS x1 x2 x6) false)
def R5 (x1:Graph) (x2:List narthexlaw19_Step):Option Bool:=loop (R8 x1 x2) 0
instance k_narthexlaw19_Small {x1 x2}:KP (R5 x1 x2) 5 [.agg (Graph.row x1),U7 x2] (fun r=>(.bv r)):=⟨fun{r} h=>by
 have ok:=oJ 5 Tryz.f5 [.t 4] 2 34;refine FP ok fun w0 H0=>?_;rw [R5] at h;refine Vg 10 ?_;refine Vk [1,2] (fun _=>[]) (R6 x1 x2) r ?_ fun J1=>?_
 ·rintro ⟨⟩ h;rw [R6] at h;refine Vg 3 ?_;refine VB h k_narthexref03_Check.k fun _ _ h=>?_;refine Vg 1 ?_;refine Vl [] (fun x14=>([(4,.bv x14)],[],[])) R7 r ?_ fun J3=>?_
  ·intro x14 h;rw [R7] at h;exact Wx
  ·exact Wx
 ·refine Vg 1 ?_;refine Mk h [1,2] (fun x6=>[(5,.iv x6)]) ?_;rintro n1 x6 y1 h hin1 hout1;rw [R8] at h;refine Vg 8 ?_;refine Vk [1,2,2,1] (fun x7=>[(13,.bv x7)]) (GS x1 x2 x6) y1 ?_ fun J2=>?_
  ·intro x7 h;rw [GS] at h;exact Wx
  ·exact Wx⟩
end
end NX
end Go.Proofs.YtgnjledocpbchaaGreat
