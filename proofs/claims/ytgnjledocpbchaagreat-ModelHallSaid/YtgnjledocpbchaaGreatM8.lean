/-
  The function narthex/model.own, lent own memory. Written by a program of ours (lb.py). No statement of the seat is proved here.
-/
import Derived.Test.YtgnjledocpbchaaGreatM7
set_option maxRecDepth 100000
set_option maxHeartbeats 40000000
namespace Go.Proofs.YtgnjledocpbchaaGreat
namespace NX
open Go
noncomputable section
def au:List Place→Option (List Place)
| x68=>some x68
def VI (x32:Int) (x38:List Place) (x40:Place):List SE→Option ((Int×List Place) ⊕ (List Place))
| x62=>some (.inl (wr (x32+1),x38.set (Int.toNat (x32)) (Place.mk (BK.mk x40.BK.LA x62) x40.Live)))
def VJ (x47:Int):List SE→Option ((Int×List SE) ⊕ ((Int×List Place) ⊕ (List Place)))
| x52=>some (.inl (wr (x47+1),x52))
def VM (x32:Int) (x38:List Place) (x39:List SE) (x40:Place):(Int×List SE)→Option ((Int×List SE) ⊕ ((Int×List Place) ⊕ (List Place)))
| (x47,x48)=>
 A0 (decide (x47<(ln SE.row x39))) (
 (Ac x48 x47).bind fun x49=>
 (Cp x49.NE).bind fun x50=>
 (VJ x47) (x48.set (Int.toNat (x47)) (SE.mk x49.ID x50 x49.SS x49.Age))) (
 Option.map Sum.inr ((VI x32 x38 x40) x48))
def VH (x32:Int):(List Place×List SE)→Option ((Int×List Place) ⊕ (List Place))
| (x38,x39)=>
 (Ac x38 x32).bind fun x40=>
 loop (VM x32 x38 x39 x40) (0,x39)
def VK (x2:List Place):(Int×List Place)→Option ((Int×List Place) ⊕ (List Place))
| (x32,x33)=>
 A0 (decide (x32<(ln Place.row x2))) (
 (Ac x33 x32).bind fun x34=>
 (Cp x34.Live).bind fun x35=>
 (Gc x34.BK.SE).bind fun x37=>
 (VH x32) (x33.set (Int.toNat (x32)) (Place.mk x34.BK x35),x37)) (
 Option.map Sum.inr (au x33))
def QQ (x1:Model):Option (List Place):=
 (Ld x1.Places).bind fun x2=>
 loop (VK x2) (0,x2)
instance t_model_own_I1 {x1}:KT (QQ x1) 27 [.agg [C0 x1.Places]] [] [] (fun _=>(.agg [.osl 0])) (fun _=>[]) (fun r=>[CW r]):=⟨fun{r} h=>by
 refine Ft iS fun w0 M0=>?_;have ok:=iS;rw [QQ] at h;refine Vg 9 ?_;have ⟨x2,ex2,h⟩:=Bs h;refine F1 trivial (ia ex2) (h:=?_);refine Vg 11 ?_;refine Vm [1,2] (fun x68=>([],[],[],[(0,CW x68)])) au r ?_ fun J1=>?_
 ·intro x68 h;rw [au] at h;exact Wx
 ·refine Vg 1 ?_;refine Mm h [1,2,9,1] (fun s=>([(13,.iv s.1)],[],[],[(0,CW s.2)])) ?_;rintro n1 ⟨x32,x33⟩ y1 h hin1 hout1;rw [VK] at h;refine Vg 5 ?_;refine MI h (fun h=>?_) fun h=>?_
  ·refine Vg 13 ?_;have ⟨x34,ex34,h⟩:=Bs h;refine C5 Place.row ex34 trivial rfl rfl rfl (Vg 3 ?_);refine Vl [1,2,1,1,7,2] (fun s=>([],[some ⟨30,[.osl 0]⟩,some ⟨30,[.nl]⟩],[some ⟨62,3,Es (List.map Place.row s.1) (Int.toNat (x32)) 1 1⟩,B4 s.2])) (VH x32) y1 ?_ fun J2=>?_
   ·rintro ⟨x38,x39⟩ h;rw [VH] at h;refine Vg 6 ?_;have ⟨x40,ex40,h⟩:=Bs h;refine dv Place.row ex40 trivial rfl rfl rfl (Vg 3 ?_);refine Vm [1,2,9,2] (fun x62=>([],[],[],[(1,B4 x62)])) (VI x32 x38 x40) y1 ?_ fun J3=>?_
    ·intro x62 h;rw [VI] at h;refine Vg 5 ?_;refine dx 0 1 (f:=Place.row) (Place.mk (BK.mk x40.BK.LA x62) x40.Live) ex40 rfl rfl rfl rfl rfl ?_;exact Wx
    ·refine Vg 1 ?_;refine Mm h [1,2,1,1,7,2,29,1] (fun s=>([(44,.iv s.1)],[],[],[(1,B4 s.2)])) ?_;rintro n2 ⟨x47,x48⟩ y2 h hin2 hout2;rw [VM] at h;refine Vg 5 ?_;refine MI h (fun h=>?_) fun h=>?_
     ·refine Vg 8 ?_;refine Vm [1,2,1,1,7,2,29,2] (fun x52=>([],[],[],[(1,B4 x52)])) (VJ x47) y2 ?_ fun J4=>?_
      ·intro x52 h;rw [VJ] at h;exact Wx
      ·refine AD fun all H=>Ds (GP H 10 9 [4,1,5,1,1,7] [(47,[.oel 0 (Int.toNat (x32)*3) 0,.oel 0 (Int.toNat (x32)*3) 0,.oel 0 (Int.toNat (x32)*3) 0,.oel 0 (Int.toNat (x32)*3) 1]),(1,[.iv x47,.oel 0 (Int.toNat (x32)*3) 0,.oel 0 (Int.toNat (x32)*3) 0,.oel 0 (Int.toNat (x32)*3) 0,.oel 0 (Int.toNat (x32)*3) 1]),(1,[.iv x47])] (Ds ?_));refine Ao 4 10 rfl ?_ ?_
       ·refine EZ H.1 Place.row ex40 rfl trivial rfl rfl rfl (Ds ?_);refine Ak 10 rfl (EZ H.1 Place.row ex40 rfl trivial rfl rfl rfl (Ds ?_));have ⟨x49,ex49,h⟩:=Bs h;refine RO ?_;refine RI ?_;refine Gn H 1 5 ?_;refine RO ?_;refine RL ?_;refine RB h Bi fun x50 ex50 h=>?_;refine RO ?_;refine RI ?_;refine Gn H 1 1 ?_;refine B8 [Aj x50] (SE.mk x49.ID x50 x49.SS x49.Age) ?_;exact Wx
       ·refine EZ H.1 Place.row ex40 rfl trivial rfl rfl rfl (Ds ?_);have ⟨x49,ex49,h⟩:=Bs h;refine Ao 4 12 rfl ?_ ?_
        ·refine EZ H.1 Place.row ex40 rfl trivial rfl rfl rfl (Ds ?_);refine RO ?_;refine RI ?_;refine Gn H 1 5 ?_;refine RO ?_;refine RL ?_;refine RB h Bi fun x50 ex50 h=>?_;refine Ak 16 rfl (RI ?_);refine Gn H 1 1 ?_;refine B8 [Aj x50] (SE.mk x49.ID x50 x49.SS x49.Age) ?_;exact Wx
        ·refine RI ?_;refine Gn H 1 6 ?_;refine Ao 4 14 rfl ?_ ?_
         ·refine EZ H.1 Place.row ex40 rfl trivial rfl rfl rfl (Ds ?_);refine RO ?_;refine RL ?_;refine RB h Bi fun x50 ex50 h=>?_;refine RO ?_;refine RI ?_;refine Gn H 1 1 ?_;refine B8 [Aj x50] (SE.mk x49.ID x50 x49.SS x49.Age) ?_;exact Wx
         ·refine RL ?_;have ⟨x50,ex50,h⟩:=Bs h;refine Ao 4 15 rfl ?_ ?_
          ·refine EZ H.1 Place.row ex40 rfl trivial rfl rfl rfl (Ds ?_);refine Ak 15 rfl (GC H.1 (Bi ex50) (Ds ?_));refine RO ?_;refine RI ?_;refine Gn H 1 1 ?_;refine B8 [Aj x50] (SE.mk x49.ID x50 x49.SS x49.Age) ?_;exact Wx
          ·refine GC H.1 (Bi ex50) (Ds ?_);refine Ak 4 rfl (EZ H.1 Place.row ex40 rfl trivial rfl rfl rfl (Ds ?_));refine RO ?_;refine RI ?_;refine Gn H 1 1 ?_;refine B8 [Aj x50] (SE.mk x49.ID x50 x49.SS x49.Age) ?_;exact Wx
     ·exact Wx
   ·refine AD fun all H=>Ds (GP H 9 11 [5,2,4,9] [(20,[.oel 0 (Int.toNat (x32)*3) 0,.oel 0 (Int.toNat (x32)*3) 0,.oel 0 (Int.toNat (x32)*3) 0,.oel 0 (Int.toNat (x32)*3) 0,.oel 0 (Int.toNat (x32)*3) 2]),(2,[.oel 0 (Int.toNat (x32)*3) 0,.oel 0 (Int.toNat (x32)*3) 0,.oel 0 (Int.toNat (x32)*3) 0,.oel 0 (Int.toNat (x32)*3) 1])] (Ds ?_));refine Ao 5 11 rfl ?_ ?_
    ·refine RL ?_;have ⟨x35,ex35,h⟩:=Bs h;refine Ao 6 11 rfl ?_ ?_
     ·refine GC H.1 (Bi ex35) (Ds ?_);refine RO ?_;refine RL ?_;refine Ak 12 rfl ?_;have ⟨x37,ex37,h⟩:=Bs h;refine AW H.1 rfl trivial (II ex37) (h:=?_);refine Gn H 2 5 ?_;refine B8 [Aj x35] (Place.mk x34.BK x35) ?_;refine Gn H 3 1 ?_;refine Ak 19 rfl (YL H.1 Place.row (FB ex34) rfl trivial rfl rfl rfl rfl (Ds ?_));refine GD ?_;exact Wx
     ·refine RL ?_;refine Ak 6 rfl (GC H.1 (Bi ex35) (Ds ?_));refine Ak 12 rfl ?_;have ⟨x37,ex37,h⟩:=Bs h;refine AW H.1 rfl trivial (II ex37) (h:=?_);refine Gn H 2 5 ?_;refine B8 [Aj x35] (Place.mk x34.BK x35) ?_;refine Gn H 3 1 ?_;refine Ak 19 rfl (YL H.1 Place.row (FB ex34) rfl trivial rfl rfl rfl rfl (Ds ?_));refine GD ?_;exact Wx
    ·refine RL ?_;refine RO ?_;refine RL ?_;refine RB h Bi fun x35 _ h=>?_;refine Ak 12 rfl ?_;have ⟨x36,ex36,h⟩:=Bs h;refine AW H.1 rfl trivial (II ex36) (h:=?_);refine Gn H 2 5 ?_;refine B8 [Aj x35] (Place.mk x34.BK x35) ?_;refine Gn H 3 1 ?_;refine Ak 19 rfl (YL H.1 Place.row (FB ex34) rfl trivial rfl rfl rfl rfl (Ds ?_));refine GD ?_;exact Wx
  ·exact Wx⟩
def Oa (x1 x2:List Int):Option (List Int):=
 (Le ([x1,x2])).bind fun x3=>
 (Gb x3).bind fun x4=>
 some x4
theorem tx {x1 x2 r} (h:Oa x1 x2=some r):FOx 89 [Aj x1,Aj x2] 3 1 (List.map Am r):=by have ok:=oJ 89 Tryz.f89 [.t 4] 2 8;refine EX ok rfl fun w0 H0=>?_;rw [Oa] at h;refine Vg 9 ?_;refine dy 0 (Ds ?_);have ⟨x3,ex3,h⟩:=Bs h;refine F1 trivial (ib ex3) (h:=?_);refine dy 1 (Ds ?_);have ⟨x4,ex4,h⟩:=Bs h;refine F1 trivial (Tv ex4) (h:=?_);refine Vg 2 ?_;exact De Am ok h rfl rfl
theorem fZ {x1 x2 r} (h:Oa x1 x2=some r):FPx 89 [Aj x1,Aj x2] (Aj r):=(tx h).sealed
instance {x1 x2}:KP (Oa x1 x2) 89 [Aj x1,Aj x2] (fun r=>(Aj r)):=⟨fun h=>fZ h⟩
def SI (x1:Int) (x2:List Int):Option Bool:=
 (EM x2 x1).bind fun x3=>
 some (!x3)
instance k_set_Minus_1 {x1 x2}:KP (SI x1 x2) 96 [.iv x1,.elt ((Ci 1 Am) x2) 0] (fun r=>(.bv r)):=⟨fun{r} h=>by have ok:=oJ 96 Tryz.f96 [.t 3] 2 6;refine FP ok fun w0 H0=>?_;rw [SI] at h;exact Wx⟩
instance {x2}:KC (fun z=>SI z x2) 96 [.elt ((Ci 1 Am) x2) 0] (fun z=>[.iv z]) (fun z=>(.bv z)):=⟨⟨by kernel_rfl,rfl,fun z r hz=>k_set_Minus_1.k hz⟩⟩
@[go_sem] def qh:EC:=eQ Tryz.f95
theorem jc:FnOK Tryz.prog 95 Tryz.f95 qh [.t 4] 2 7:=AP
def Ob (x1:List Int) (p1:(Int→Option Bool)):Option (List Int):=
 (Gb x1).bind fun x2=>
 (T4 x2 ((fun z=>SJ z p1))).bind fun x3=>
 some x3
instance k_set_keep {x1 g1 caps1 p1} [ic1:KC p1 g1 caps1 (fun z=>[.iv z]) (fun z=>.bv z)]:KP (Ob x1 p1) 95 [Aj x1,.clo g1 caps1] (fun r=>(Aj r)):=⟨fun{r} h=>by have hc1:=ic1.k;refine FP jc fun w0 H0=>?_;have ok:=jc;have A1:AJ [.s 1]:=trivial;rw [Ob] at h;refine Vg 8 ?_;have ⟨x2,ex2,h⟩:=Bs h;refine F1 trivial (Tv ex2) (hp:=(by first | rfl | simp [go_sem,hc1.pu])) (h:=?_);refine Vg 1 ?_;refine HY 0 rfl (by first | rfl | simp [go_sem,hc1.pu]) (Ds ?_);have ⟨x3,ex3,h⟩:=Bs h;refine IR [false] [true] trivial (EY [] [0] 1 1 (t_slices_DeleteFunc_int_I1.k ex3)) (ha:=(by first | exact AA _ | simp [go_sem,Yh _ _ _ _ _ hc1.pu])) (h:=?_);exact Wx⟩
def aO:Unit→Option Int
| ()=>some 0
def NV (x12:Int) (x13:SE):Bool→Option ((Int×Int) ⊕ Int)
| x18=>
 A0 x18 (
 Option.map Sum.inr (some 170)) (
 some (.inl (x13.ID,wr (x12+1))))
def Iu (x12:Int) (x13:SE) (x14:Bool):Bool→Option ((Int×Int) ⊕ Int)
| x17=>
 A0 x17 (
 Option.map Sum.inr (some 170)) (
 A0 (!x14) (
 A0 (!decide (x13.SS=0)) (
 (NV x12 x13) true) (
 (NV x12 x13) (!decide (x13.Age=0)))) (
 (NV x12 x13) false))
def Is (x1:BK) (x11:Int) (x12:Int) (x13:SE):Bool→Option ((Int×Int) ⊕ Int)
| x14=>
 A0 (decide (x13.ID≤x11)) (
 (Iu x12 x13 x14) (decide (x13.ID≤x11))) (
 A0 (decide (x1.LA<x13.ID)) (
 (Iu x12 x13 x14) (decide (x1.LA<x13.ID))) (
 (O6 x13.NE).bind fun x15=>
 A0 x15 (
 (Iu x12 x13 x14) x15) (
 (HF x13.NE).bind fun x16=>
 A0 (!x16) (
 (Iu x12 x13 x14) (!x16)) (
 (Iu x12 x13 x14) (decide (x13.Age<0))))))
def NW (x1:BK):(Int×Int)→Option ((Int×Int) ⊕ Int)
| (x11,x12)=>
 A0 (decide (x12<(ln SE.row x1.SE))) (
 (Ac x1.SE x12).bind fun x13=>
 A0 (decide (x13.SS=1)) (
 (Is x1 x11 x12 x13) (decide (x12=0))) (
 (Is x1 x11 x12 x13) false)) (
 Option.map Sum.inr (aO ()))
def Su (x1:BK):Bool→Option Int
| x2=>
 A0 x2 (
 some 170) (
 loop (NW x1) (0,0))
def GT (x1:BK):Option Int:=
 A0 (decide (x1.LA<0)) (
 (Su x1) true) (
 (Su x1) (decide (8<(ln SE.row x1.SE))))
instance k_sess_Check {x1}:KP (GT x1) 34 [.agg (BK.row x1)] (fun r=>(.iv r)):=⟨fun{r} h=>by
 have ok:=oJ 34 Tryz.f34 [.t 2] 1 66;refine FP ok fun w0 H0=>?_;rw [GT] at h;refine Vg 12 ?_;refine Vk [1,1] (fun x2=>[(15,.bv x2)]) (Su x1) r ?_ fun J1=>?_
 ·intro x2 h;rw [Su] at h;refine MI h (fun h=>?_) fun h=>?_
  ·exact Wx
  ·refine Vg 13 ?_;refine Vl [] (fun _=>([],[],[])) aO r ?_ fun J2=>?_
   ·rintro ⟨⟩ h;rw [aO] at h;exact Wx
   ·refine Vg 1 ?_;refine Mk h [1,1,15,2] (fun s=>[(3,.iv s.1),(19,.iv s.2)]) ?_;rintro n1 ⟨x11,x12⟩ y1 h hin1 hout1;rw [NW] at h;refine Vg 5 ?_;refine MI h (fun h=>?_) fun h=>?_
    ·refine Vg 6 ?_;have ⟨x13,ex13,h⟩:=Bs h;refine Dt SE.row ex13 trivial rfl rfl rfl (Vg 11 ?_);refine Vk [1,1,1,1,1,1,11,3] (fun x14=>[(6,.bv x14)]) (Is x1 x11 x12 x13) y1 ?_ fun J3=>?_
     ·intro x14 h;rw [Is] at h;refine Vg 11 ?_;refine Vk [1,1,3,2,10,3] (fun x17=>[(31,.bv x17)]) (Iu x12 x13 x14) y1 ?_ fun J4=>?_
      ·intro x17 h;rw [Iu] at h;refine MI h (fun h=>?_) fun h=>?_
       ·exact Wx
       ·refine Vg 5 ?_;refine Vk [1,1,3,1,11,3] (fun x18=>[(51,.bv x18)]) (NV x12 x13) y1 ?_ fun J5=>?_
        ·intro x18 h;rw [NV] at h;exact Wx
        ·exact Wx
      ·exact Wx
     ·exact Wx
    ·exact Wx
 ·exact Wx⟩
def WZ (x1:List SX) (x2:Int) (x3:DI):Option (Bool×Int):=
 (Ti x1 x2 x3).bind fun x4=>
 some (decide (0≤x4.1),x4.2)
instance t_slices_ContainsFunc_Side_I1 {x1 x2 x3}:KT (WZ x1 x2 x3) 150 [CV x1,.clo 194 [.ptr 0 0,.ptr 1 0]] [some ⟨3,[.iv x2]⟩,some ⟨51,DI.row x3⟩] [] (fun r=>(.bv r.1)) (fun r=>[some ⟨3,[.iv r.2]⟩,some ⟨51,DI.row x3⟩]) (fun _=>[]):=⟨fun{r} h=>by refine Ft XQ fun w0 M0=>?_;have ok:=XQ;rw [WZ] at h;refine Vg 8 ?_;have ⟨x4,ex4,h⟩:=Bs h;refine IR [true,true] [] trivial (t_slices_IndexFunc_Side_I1.k ex4) (h:=?_);exact Wx⟩
@[go_sem] def pT:EC:=eQ Tryz.f226
theorem iP:FnOK Tryz.prog 226 Tryz.f226 pT [] 1 134:=AP
@[go_sem] def pF:EC:=eQ Tryz.f202
theorem iF:FnOK Tryz.prog 202 Tryz.f202 pF [.t 4] 3 19:=AP
@[go_sem] def pv:EC:=(by have h:=hF Tryz.f180;(conv at h=>rhs;reduce);dsimp only[go_sem] at h;exact ⟨_,h⟩:DP Tryz.f180).1
theorem OF:FnOK Tryz.prog 180 Tryz.f180 pv [.t 6] 3 92:=AP
@[go_sem] def pO:EC:=(by have h:=hF Tryz.f215;(conv at h=>rhs;reduce);dsimp only[go_sem] at h;exact ⟨_,h⟩:DP Tryz.f215).1
theorem OG:FnOK Tryz.prog 215 Tryz.f215 pO [.t 6] 3 92:=AP
def S6:Bool→Option Bool
| x5=>some x5
def NA (x1:SX) (x2:node_node):Option Bool:=
 (Ir x1).bind fun x3=>
 A0 x3 (
 (EM x2.NO.TL x1.PE).bind fun x4=>
 S6 (!x4)) (
 S6 false)
instance k_node_node_once_1 {x1 x2}:KP (NA x1 x2) 205 [.agg (SX.row x1),.elt ((bM node_node.row) x2) 0] (fun r=>(.bv r)):=⟨fun{r} h=>by
 have ok:=oJ 205 Tryz.f205 [.t 3] 2 15;refine FP ok fun w0 H0=>?_;rw [NA] at h;refine Vg 6 ?_;refine Vl [] (fun x5=>([(3,.bv x5)],[],[])) S6 r ?_ fun J1=>?_
 ·intro x5 h;rw [S6] at h;exact Wx
 ·exact Wx⟩
instance {x2}:KC (fun z=>NA z x2) 205 [.elt ((bM node_node.row) x2) 0] (fun z=>[.agg (SX.row z)]) (fun z=>(.bv z)):=⟨⟨by kernel_rfl,rfl,fun z r hz=>k_node_node_once_1.k hz⟩⟩
@[go_sem] def pK:EC:=eQ Tryz.f208
theorem iK:FnOK Tryz.prog 208 Tryz.f208 pK [] 1 70:=AP
def JF:Bool→Option Bool
| x8=>some x8
def JE (x1 x2:NO):Option Bool:=
 (MM x1.DK x2.DK).bind fun x3=>
 A0 x3 (
 (O2 x1.BK x2.BK).bind fun x4=>
 A0 x4 (
 (Ol x1.KN x2.KN).bind fun x5=>
 A0 x5 (
 (Iz x1.TL x2.TL).bind fun x6=>
 A0 x6 (
 (Ol x1.AK x2.AK).bind fun x7=>
 JF x7) (
 JF false)) (
 JF false)) (
 JF false)) (
 JF false)
instance k_node_Same {x1 x2}:KP (JE x1 x2) 175 [.agg (NO.row x1),.agg (NO.row x2)] (fun r=>(.bv r)):=⟨fun{r} h=>by
 have ok:=oJ 175 Tryz.f175 [.t 4] 2 36;refine FP ok fun w0 H0=>?_;rw [JE] at h;refine Vg 12 ?_;refine VB h k_drink_Same.k fun _ _ h=>?_;refine Vg 1 ?_;refine Vl [] (fun x8=>([(4,.bv x8)],[],[])) JF r ?_ fun J1=>?_
 ·intro x8 h;rw [JF] at h;exact Wx
 ·exact Wx⟩
instance :KC (fun z:NO×NO=>JE z.1 z.2) 175 [] (fun z=>[.agg (NO.row z.1),.agg (NO.row z.2)]) (fun z=>(.bv z)):=⟨⟨by kernel_rfl,rfl,fun z r hz=>k_node_Same.k hz⟩⟩
def RT (x1 _x2:Int) (_x3 _x4 _x5:Int) (_x6:List SE) (_x7:List Int) (_x8:Int) (x9:List SX) (_x10:List Int) (_x11 _x12:List KE) (_x13:List ML) (_x14:List EV):Option (List SX):=
 (Oi x9 ((fun z=>KV z x1))).bind fun x15=>
 some x15
instance t_node_node_drop_I2 {x1 x2 x3 x4 x5 x6 x7 x8 x9 x10 x11 x12 x13 x14}:KT (RT x1 x2 x3 x4 x5 x6 x7 x8 x9 x10 x11 x12 x13 x14) 122 [.ptr 0 0,.iv x1] [some ⟨191,[.iv x2,.iv x3,.osl 0,.iv x4,.osl 1,.iv x5,Aq x6,.osl 2,Aj x7,.osl 3,.osl 4,.osl 5,.iv x8]⟩] [Al x9,Ae x10,Ai x11,Ai x12,AG x13,Bk x14] (fun _=>(.tup [])) (fun _=>[some ⟨191,[.iv x2,.iv x3,.osl 6,.iv x4,.osl 1,.iv x5,Aq x6,.osl 2,Aj x7,.osl 3,.osl 4,.osl 5,.iv x8]⟩]) (fun r=>[none,Ae x10,Ai x11,Ai x12,AG x13,Bk x14,Al r]):=⟨fun{r} h=>by refine Ft XO fun w0 M0=>?_;have ok:=XO;rw [RT] at h;refine Vg 14 ?_;refine HY 1 rfl rfl ?_;exact Wx⟩
def SV (x1:List KE) (x2:Int):Option (Bool×Int):=
 (Xk x1 x2).bind fun x3=>
 some (decide (0≤x3.1),x3.2)
instance t_slices_ContainsFunc_Known_I1 {x1 x2}:KT (SV x1 x2) 155 [Bf x1,.clo 154 [.ptr 0 0]] [some ⟨3,[.iv x2]⟩] [] (fun r=>(.bv r.1)) (fun r=>[some ⟨3,[.iv r.2]⟩]) (fun _=>[]):=⟨fun{r} h=>by refine Ft XR fun w0 M0=>?_;have ok:=XR;rw [SV] at h;refine Vg 8 ?_;have ⟨x3,ex3,h⟩:=Bs h;refine IR [true] [] trivial (t_slices_IndexFunc_Known_I1.k ex3) (h:=?_);exact Wx⟩
def Nw (x1:KE) (x2:NO):Option Bool:=
 (Nx x2 x1).bind fun x3=>
 some (!x3)
instance k_node_edges_3 {x1 x2}:KP (Nw x1 x2) 156 [.agg (KE.row x1),.elt (NO.row x2) 0] (fun r=>(.bv r)):=⟨fun{r} h=>by have ok:=oJ 156 Tryz.f156 [.t 3] 2 6;refine FP ok fun w0 H0=>?_;rw [Nw] at h;exact Wx⟩
instance {x2}:KC (fun z=>Nw z x2) 156 [.elt (NO.row x2) 0] (fun z=>[.agg (KE.row z)]) (fun z=>(.bv z)):=⟨⟨by kernel_rfl,rfl,fun z r hz=>k_node_edges_3.k hz⟩⟩
def O7 (x1:Int) (x2:List Int):Option Bool:=
 (EM x2 x1).bind fun x3=>
 some x3
instance k_set_Both_1 {x1 x2}:KP (O7 x1 x2) 197 [.iv x1,.elt ((Ci 1 Am) x2) 0] (fun r=>(.bv r)):=⟨fun{r} h=>by have ok:=oJ 197 Tryz.f197 [.t 3] 2 5;refine FP ok fun w0 H0=>?_;rw [O7] at h;exact Wx⟩
instance {x2}:KC (fun z=>O7 z x2) 197 [.elt ((Ci 1 Am) x2) 0] (fun z=>[.iv z]) (fun z=>(.bv z)):=⟨⟨by kernel_rfl,rfl,fun z r hz=>k_set_Both_1.k hz⟩⟩
def RS (x1 _x2:Int) (_x3 _x4:Int) (_x5 _x6:Int) (x7:List SX) (_x8:List Int) (_x9:List SE) (_x10:List KE) (_x11:List Int) (_x12:List KE):Option (List SX):=
 (Oi x7 ((fun z=>KV z x1))).bind fun x13=>
 some x13
instance t_node_node_drop_I1 {x1 x2 x3 x4 x5 x6 x7 x8 x9 x10 x11 x12}:KT (RS x1 x2 x3 x4 x5 x6 x7 x8 x9 x10 x11 x12) 122 [.ptr 0 0,.iv x1] [some ⟨191,[.iv x2,.iv x3,.osl 0,.iv x4,.osl 1,.iv x5,.osl 2,.osl 3,.osl 4,.osl 5,.nl,.nl,.iv x6]⟩] [Al x7,Ae x8,B4 x9,Ai x10,Ae x11,Ai x12] (fun _=>(.tup [])) (fun _=>[some ⟨191,[.iv x2,.iv x3,.osl 6,.iv x4,.osl 1,.iv x5,.osl 2,.osl 3,.osl 4,.osl 5,.nl,.nl,.iv x6]⟩]) (fun r=>[none,Ae x8,B4 x9,Ai x10,Ae x11,Ai x12,Al r]):=⟨fun{r} h=>by refine Ft XO fun w0 M0=>?_;have ok:=XO;rw [RS] at h;refine Vg 14 ?_;refine HY 1 rfl rfl ?_;exact Wx⟩
def V6:Unit→Option Int
| ()=>some 0
def MW (x9:Int):Bool→Option (Int ⊕ Int)
| x13=>
 A0 x13 (
 Option.map Sum.inr (some 30)) (
 some (.inl (wr (x9+1))))
def MX (x1:Graph):Int→Option (Int ⊕ Int)
| x9=>
 A0 (decide (x9<(ln Edge.row x1.Edges))) (
 A0 (decide (0<x9)) (
 (Ac x1.Edges (wr (x9-1))).bind fun x10=>
 (Ac x1.Edges x9).bind fun x11=>
 (Qq x10 x11).bind fun x12=>
 (MW x9) (decide (0≤x12))) (
 (MW x9) false)) (
 Option.map Sum.inr (V6 ()))
def Kz (x1:Graph):Bool→Option Int
| x3=>
 A0 x3 (
 some 30) (
 loop (MX x1) 0)
def Hq (x1:Graph):Option Int:=
 A0 (decide (x1.N<0)) (
 (Kz x1) true) (
 A0 (decide (64<x1.N)) (
 (Kz x1) true) (
 A0 (decide (400<(ln Edge.row x1.Edges))) (
 (Kz x1) true) (
 (Oe x1.Edges ((fun z=>MU z x1))).bind fun x2=>
 (Kz x1) x2)))
instance k_graph_Check {x1}:KP (Hq x1) 20 [.agg (Graph.row x1)] (fun r=>(.iv r)):=⟨fun{r} h=>by
 have ok:=oJ 20 Tryz.f20 [.t 2] 1 49;refine FP ok fun w0 H0=>?_;rw [Hq] at h;refine Vg 17 ?_;refine Vk [1,1] (fun x3=>[(25,.bv x3)]) (Kz x1) r ?_ fun J1=>?_
 ·intro x3 h;rw [Kz] at h;refine MI h (fun h=>?_) fun h=>?_
  ·exact Wx
  ·refine Vg 9 ?_;refine Vl [] (fun _=>([],[],[])) V6 r ?_ fun J2=>?_
   ·rintro ⟨⟩ h;rw [V6] at h;exact Wx
   ·refine Vg 1 ?_;refine Mk h [1,1,26,1] (fun x9=>[(29,.iv x9)]) ?_;rintro n1 x9 y1 h hin1 hout1;rw [MX] at h;refine Vg 5 ?_;refine MI h (fun h=>?_) fun h=>?_
    ·refine Vg 9 ?_;refine Vk [1,1,26,2] (fun x13=>[(48,.bv x13)]) (MW x9) y1 ?_ fun J3=>?_
     ·intro x13 h;rw [MW] at h;exact Wx
     ·exact Wx
    ·exact Wx
 ·exact Wx⟩
def VV (x2:List ML):List NO→Option HL
| x20=>some (HL.mk x20 x2)
def VW (x1:HL) (x2:List ML):(Int×List NO)→Option ((Int×List NO) ⊕ HL)
| (x8,x9)=>
 A0 (decide (x8<(ln NO.row x1.NS))) (
 (Ac x1.NS x8).bind fun x10=>
 (QX x10).bind fun x11=>
 (AE 176 x9 ([x11])).bind fun x13=>
 some (.inl (wr (x8+1),x13))) (
 Option.map Sum.inr ((VV x2) x9))
def QY (x1:HL):Option HL:=
 (AE 40 (([]:List ML)) x1.ML).bind fun x2=>
 loop (VW x1 x2) (0,([]:List NO))
instance k_narthexlaw19_Own {x1}:KP (QY x1) 24 [.agg (HL.row x1)] (fun r=>(.agg (HL.row r))):=⟨fun{r} h=>by
 have ok:=oJ 24 Tryz.f24 [.c 2 (some 2)] 1 28;refine FP ok fun w0 H0=>?_;have A2:AJ [.r 4 2]:=trivial;have A1:AJ [.s 2,.s 1]:=trivial;rw [QY] at h;refine Vg 10 ?_;have ⟨x2,ex2,h⟩:=Bs h;refine Er ML.row ex2 trivial rfl rfl rfl (Vg 9 ?_);refine Vl [2,2] (fun x20=>([],[none,some ⟨38,[.nl,.nl]⟩,some ⟨38,[.osl 2,.osl 1]⟩],[none,AG x2,F0 x20])) (VV x2) r ?_ fun J1=>?_
 ·intro x20 h;rw [VV] at h;exact Wx
 ·refine Vg 1 ?_;(refine Wj [.o 2 0 60 10] ?_);refine Mm h [1,3] (fun s=>([(4,.iv s.1)],[],[],[(2,F0 s.2)])) ?_;rintro n1 ⟨x8,x9⟩ y1 h hin1 hout1;rw [VW] at h;refine Vg 9 ?_;refine MI h (fun h=>?_) fun h=>?_
  ·refine Vg 3 ?_;have ⟨x10,ex10,h⟩:=Bs h;have ⟨x11,ex11,h⟩:=Bs h;have ⟨x13,ex13,h⟩:=Bs h;have q0:=k_narthexlaw18_Own.k ex11;exact Wx
  ·exact Wx⟩
@[go_sem] def qf:EC:=eQ Tryz.f81
theorem XY:FnOK Tryz.prog 81 Tryz.f81 qf [.c 4 (some 2),.t 5,.t 6] 2 45:=AP
def Nc (x1:Model) (x2:Int) (x3:Int):Option Bool:=
 (Ac x1.Places x2).bind fun x4=>
 (EM x4.Live x3).bind fun x5=>
 some x5
instance k_model_live {x1 x2 x3}:KP (Nc x1 x2 x3) 54 [.agg (Model.row x1),.iv x2,.iv x3] (fun r=>(.bv r)):=⟨fun{r} h=>by have ok:=oJ 54 Tryz.f54 [.t 6] 3 12;refine FP ok fun w0 H0=>?_;rw [Nc] at h;exact Wx⟩
def QV:Bool→Option Bool
| x4=>some x4
def QU (x1:SE) (x2:Int):Option Bool:=
 A0 (decide (x1.SS=1)) (
 (EM x1.NE x2).bind fun x3=>
 QV x3) (
 QV false)
instance k_model_uses_1 {x1 x2}:KP (QU x1 x2) 64 [.agg (SE.row x1),.elt (Am x2) 0] (fun r=>(.bv r)):=⟨fun{r} h=>by
 have ok:=oJ 64 Tryz.f64 [.t 3] 2 11;refine FP ok fun w0 H0=>?_;rw [QU] at h;refine Vg 11 ?_;refine Vl [] (fun x4=>([(3,.bv x4)],[],[])) QV r ?_ fun J1=>?_
 ·intro x4 h;rw [QV] at h;exact Wx
 ·exact Wx⟩
instance {x2}:KC (fun z=>QU z x2) 64 [.elt (Am x2) 0] (fun z=>[.agg (SE.row z)]) (fun z=>(.bv z)):=⟨⟨by kernel_rfl,rfl,fun z r hz=>k_model_uses_1.k hz⟩⟩
def QL:Bool→Option Bool
| x5=>some x5
def KD (x1 x2:Place):Option Bool:=
 (O2 x1.BK x2.BK).bind fun x3=>
 A0 x3 (
 (Iz x1.Live x2.Live).bind fun x4=>
 QL x4) (
 QL false)
instance k_model_Same_1 {x1 x2}:KP (KD x1 x2) 38 [.agg (Place.row x1),.agg (Place.row x2)] (fun r=>(.bv r)):=⟨fun{r} h=>by
 have ok:=oJ 38 Tryz.f38 [.t 4] 2 15;refine FP ok fun w0 H0=>?_;rw [KD] at h;refine Vg 12 ?_;refine VB h k_sess_Same.k fun _ _ h=>?_;refine Vg 1 ?_;refine Vl [] (fun x5=>([(4,.bv x5)],[],[])) QL r ?_ fun J1=>?_
 ·intro x5 h;rw [QL] at h;exact Wx
 ·exact Wx⟩
instance :KC (fun z:Place×Place=>KD z.1 z.2) 38 [] (fun z=>[.agg (Place.row z.1),.agg (Place.row z.2)]) (fun z=>(.bv z)):=⟨⟨by kernel_rfl,rfl,fun z r hz=>k_model_Same_1.k hz⟩⟩
def L9 (x1:List Int) (x2:Int):Option (List Int):=
 (Oa x1 ([x2])).bind fun x3=>
 some x3
instance k_set_Add {x1 x2}:KP (L9 x1 x2) 55 [Aj x1,.iv x2] (fun r=>(Aj r)):=⟨fun{r} h=>by have ok:=oJ 55 Tryz.f55 [.t 4] 2 7;refine FP ok fun w0 H0=>?_;have A1:AJ [.s 0]:=trivial;rw [L9] at h;refine Vg 9 ?_;(refine Wj [.s 0] ?_);refine VB h fZ fun _ _ h=>?_;exact Wx⟩
def O9 (x1 x2:List Int):Option (List Int):=
 (Ob x1 ((fun z=>SI z x2))).bind fun x3=>
 some x3
instance k_set_Minus {x1 x2}:KP (O9 x1 x2) 62 [Aj x1,Aj x2] (fun r=>(Aj r)):=⟨fun{r} h=>by have ok:=oJ 62 Tryz.f62 [.t 4] 2 6;refine FP ok fun w0 H0=>?_;rw [O9] at h;refine Vg 9 ?_;refine HY 0 rfl rfl ?_;exact Wx⟩
def JO (x1:BK) (x2:Int) (x4:List Int):Int→Option (BK×Int)
| x7=>
 A0 (!decide (x7=0)) (
 some ((BK.mk 0 (([]:List SE))),x7)) (
 (Iv x1).bind fun x8=>
 (AE 48 x8 ([SE.mk x2 x4 0 0])).bind fun x9=>
 some ((BK.mk x2 x9),0))
def O0 (x1:BK) (x2:Int) (x3:List Int):Option (BK×Int):=
 (Gb x3).bind fun x4=>
 (GT x1).bind fun x5=>
 A0 (!decide (x5=0)) (
 (JO x1 x2 x4) x5) (
 A0 (decide (x2≤x1.LA)) (
 (JO x1 x2 x4) 171) (
 (O6 x4).bind fun x6=>
 A0 x6 (
 (JO x1 x2 x4) 172) (
 A0 (decide ((ln SE.row x1.SE)=8)) (
 (JO x1 x2 x4) 173) (
 (JO x1 x2 x4) x5))))
instance k_sess_Open {x1 x2 x3}:KP (O0 x1 x2 x3) 57 [.agg (BK.row x1),.iv x2,Aj x3] (fun r=>(.tup [.agg (BK.row r.1),.iv r.2])):=⟨fun{r} h=>by
 have ok:=oJ 57 Tryz.f57 [.c 6 (some 2),.t 7] 3 44;refine FP ok fun w0 H0=>?_;have A1:AJ [.s 3]:=trivial;rw [O0] at h;refine Vg 9 ?_;have ⟨x4,ex4,h⟩:=Bs h;refine F1 trivial (Tv ex4) (h:=?_);refine Vg 5 ?_;refine VB h k_sess_Check.k fun _ _ h=>?_;refine Vg 10 ?_;refine Vk [1,1,1,1,2,1,1,1] (fun x7=>[(9,.iv x7)]) (JO x1 x2 x4) r ?_ fun J1=>?_
 ·intro x7 h;rw [JO] at h;refine Vg 7 ?_;refine MI h (fun h=>?_) fun h=>?_
  ·exact Wx
  ·refine Vg 4 ?_;refine VR [] [] 2 1 h t_sess_own_I1.k fun _ _ h=>?_;refine Vg 15 ?_;(refine Wj [.s 0] ?_);exact Wx
 ·exact Wx⟩
def Sz (x1:BK):Bool→Option (BK×Int×Int)
| x4=>
 A0 x4 (
 some ((BK.mk 0 (([]:List SE))),0,175)) (
 (Iv x1).bind fun x5=>
 (Ac x5 0).bind fun x6=>
 some ((BK.mk x1.LA (x5.set (Int.toNat (0)) (SE.mk x6.ID x6.NE 1 x6.Age))),x6.ID,0))
def NZ (x1:BK):Option (BK×Int×Int):=
 (GT x1).bind fun x2=>
 A0 (!decide (x2=0)) (
 some ((BK.mk 0 (([]:List SE))),0,x2)) (
 A0 (decide ((ln SE.row x1.SE)=0)) (
 (Sz x1) true) (
 (Ac x1.SE 0).bind fun x3=>
 (Sz x1) (decide (x3.SS=1))))
instance k_sess_Grant {x1}:KP (NZ x1) 91 [.agg (BK.row x1)] (fun r=>(.tup [.agg (BK.row r.1),.iv r.2.1,.iv r.2.2])):=⟨fun{r} h=>by
 have ok:=oJ 91 Tryz.f91 [.c 2 (some 2),.t 3,.t 4] 1 36;refine FP ok fun w0 H0=>?_;have A1:AJ [.s 0]:=trivial;rw [NZ] at h;refine Vg 11 ?_;refine VB h k_sess_Check.k fun _ _ h=>?_;refine Vg 7 ?_;refine MI h (fun h=>?_) fun h=>?_
 ·exact Wx
 ·refine Vg 9 ?_;refine Vk [1,2] (fun x4=>[(23,.bv x4)]) (Sz x1) r ?_ fun J1=>?_
  ·intro x4 h;rw [Sz] at h;refine MI h (fun h=>?_) fun h=>?_
   ·exact Wx
   ·refine Vg 4 ?_;refine VR [] [] 2 0 h t_sess_own_I1.k fun _ _ h=>?_;refine Vg 6 ?_;have ⟨x6,ex6,h⟩:=Bs h;refine C5 SE.row ex6 trivial rfl rfl rfl (Vg 1 ?_);refine Du [.iv 1] SE.row (y':=(SE.mk x6.ID x6.NE 1 x6.Age)) ex6 trivial rfl rfl rfl (by first | exact AA _ | simp [go_sem]) rfl rfl rfl rfl ?_;exact Wx
  ·exact Wx⟩
def WT (x1:BK) (x2:Int):Option (Int×Int):=
 (GT x1).bind fun x3=>
 A0 (!decide (x3=0)) (
 some (0,x3)) (
 (O5 x1 x2).bind fun x4=>
 A0 (decide (x4<0)) (
 some (0,174)) (
 (Ac x1.SE x4).bind fun x5=>
 some (x5.SS,0)))
instance k_sess_Poll {x1 x2}:KP (WT x1 x2) 130 [.agg (BK.row x1),.iv x2] (fun r=>(.tup [.iv r.1,.iv r.2])):=⟨fun{r} h=>by have ok:=oJ 130 Tryz.f130 [.t 4,.t 5] 2 22;refine FP ok fun w0 H0=>?_;rw [WT] at h;exact Wx⟩
def Jl:Bool→Option Int
| x3=>
 A0 x3 (
 some 130) (
 some 0)
def Kv (x1:DI):Option Int:=
 A0 (decide (x1.ID<0)) (
 Jl true) (
 A0 (decide (x1.PH<0)) (
 Jl true) (
 A0 (decide (2<x1.PH)) (
 Jl true) (
 A0 (decide (64≤(ln SX.row x1.SD))) (
 Jl true) (
 (WZ x1.SD ((-1)) x1).bind fun x2=>
 Jl x2.1))))
instance k_dine_Check {x1}:KP (Kv x1) 152 [.agg (DI.row x1)] (fun r=>(.iv r)):=⟨fun{r} h=>by
 have ok:=oJ 152 Tryz.f152 [.t 2] 1 30;refine FP ok fun w0 H0=>?_;rw [Kv] at h;refine Vg 22 ?_;refine Vl [] (fun x3=>([(30,.bv x3)],[],[])) Jl r ?_ fun J1=>?_
 ·intro x3 h;rw [Jl] at h;exact Wx
 ·exact Wx⟩
def Sy (x5:Bool):List Int→Option (Bool×List Int)
| x7=>some (x5,x7)
def Sw (x1:SE) (x3:List Int):Bool→Option (Bool×List Int)
| x5=>
 A0 x5 (
 (AE 8 x3 ([x1.ID])).bind fun x6=>
 (Sy x5) x6) (
 (Sy x5) x3)
def NY (x1:SE) (x2:Int) (x3:List Int):Option (Bool×List Int):=
 A0 (decide (x1.SS=0)) (
 (EM x1.NE x2).bind fun x4=>
 (Sw x1 x3) x4) (
 (Sw x1 x3) false)
instance t_sess_Gone_1_I2 {x1 x2 x3}:KT (NY x1 x2 x3) 202 [.agg (SE.row x1),.ptr 0 0,.ptr 1 0] [some ⟨3,[.iv x2]⟩,some ⟨45,[.osl 0]⟩] [Ae x3] (fun r=>(.bv r.1)) (fun _=>[some ⟨3,[.iv x2]⟩,some ⟨45,[.osl 2]⟩]) (fun r=>[none,none,Ae r.2]):=⟨fun{r} h=>by
 refine Ft iF fun w0 M0=>?_;have ok:=iF;have A1:AJ [.w 3 1,.w 3 1,.r 0 2]:=trivial;rw [NY] at h;refine Vg 11 ?_;refine Vk [2,2] (fun x5=>[(5,.bv x5)]) (Sw x1 x3) r ?_ fun J1=>?_
 ·intro x5 h;rw [Sw] at h;refine Vg 5 ?_;refine Vl [5,1] (fun x7=>([],[some ⟨3,[.iv x2]⟩,some ⟨45,[.osl 2]⟩],[none,none,Ae x7])) (Sy x5) r ?_ fun J2=>?_
  ·intro x7 h;rw [Sy] at h;exact Wx
  ·exact Wx
 ·exact Wx⟩
@[go_sem] def pw:EC:=eQ Tryz.f181
theorem XV:FnOK Tryz.prog 181 Tryz.f181 pw [] 3 40:=AP
def V1 (x61:List SX) (x62:List ML):Int→Option (Int×List SX×List ML)
| x64=>some (x64,x61,x62)
def V3 (x3:Int) (x61:List SX) (x62:List ML):Bool→Option (Int×List SX×List ML)
| x63=>
 A0 x63 (
 (V1 x61 x62) 2) (
 (V1 x61 x62) x3)
def V0 (x3:Int):(Bool×List SX×List ML)→Option (Int×List SX×List ML)
| (x60,x61,x62)=>
 A0 (decide (x3=1)) (
 (V3 x3 x61 x62) x60) (
 (V3 x3 x61 x62) false)
def Kx (x28:Int) (x43:List SX) (x44:List ML):Bool→Option ((Bool×Int×List SX×List ML) ⊕ (Int×List SX×List ML))
| x46=>some (.inl (x46,wr (x28+1),x43,x44))
def MO (x27:Bool) (x28:Int) (x33:Bool):(List SX×List ML)→Option ((Bool×Int×List SX×List ML) ⊕ (Int×List SX×List ML))
| (x43,x44)=>
 A0 x27 (
 A0 (!x33) (
 (Kx x28 x43 x44) true) (
 (Ac x43 x28).bind fun x45=>
 (Kx x28 x43 x44) x45.BO)) (
 (Kx x28 x43 x44) false)
def Ik (x1 x2 x3:Int) (x5:List Int) (x27:Bool) (x28:Int) (x33:Bool) (x37:List SX) (x38:List ML):Bool→Option ((Bool×Int×List SX×List ML) ⊕ (Int×List SX×List ML))
| x40=>
 A0 x40 (
 (Ac x37 x28).bind fun x41=>
 (MR (SX.mk x41.PE x41.EP x41.SS x41.FK x41.DY x41.TO x41.BO false) 4 x1 x2 x3 (x37.set (Int.toNat (x28)) (SX.mk x41.PE x41.EP x41.SS x41.FK x41.DY x41.TO x41.BO false)) x5 x38).bind fun x42=>
 (MO x27 x28 x33) ((x37.set (Int.toNat (x28)) (SX.mk x41.PE x41.EP x41.SS x41.FK x41.DY x41.TO x41.BO false)),x42)) (
 (MO x27 x28 x33) (x37,x38))
def Jp (x1 x2 x3:Int) (x5:List Int) (x27:Bool) (x28:Int) (x33:Bool):(List SX×List ML)→Option ((Bool×Int×List SX×List ML) ⊕ (Int×List SX×List ML))
| (x37,x38)=>
 A0 (decide (x3=1)) (
 A0 x33 (
 (Ac x37 x28).bind fun x39=>
 A0 x39.Ask (
 (Ik x1 x2 x3 x5 x27 x28 x33 x37 x38) (!x39.BO)) (
 (Ik x1 x2 x3 x5 x27 x28 x33 x37 x38) false)) (
 (Ik x1 x2 x3 x5 x27 x28 x33 x37 x38) false)) (
 (Ik x1 x2 x3 x5 x27 x28 x33 x37 x38) false)
def Hp (x1 x2 x3:Int) (x5:List Int) (x27:Bool) (x28:Int) (x29:List SX) (x30:List ML) (x31:SX) (x33:Bool):Bool→Option ((Bool×Int×List SX×List ML) ⊕ (Int×List SX×List ML))
| x35=>
 A0 x35 (
 (MR (SX.mk x31.PE x31.EP x31.SS x31.FK x31.DY x31.TO false x31.Ask) 3 x1 x2 x3 (x29.set (Int.toNat (x28)) (SX.mk x31.PE x31.EP x31.SS x31.FK x31.DY x31.TO false x31.Ask)) x5 x30).bind fun x36=>
 (Jp x1 x2 x3 x5 x27 x28 x33) ((x29.set (Int.toNat (x28)) (SX.mk x31.PE x31.EP x31.SS x31.FK x31.DY x31.TO false x31.Ask)),x36)) (
 (Jp x1 x2 x3 x5 x27 x28 x33) (x29,x30))
def Jo (x1 x2 x3:Int) (x5:List Int) (x27:Bool) (x28:Int) (x29:List SX) (x30:List ML) (x31:SX) (x33:Bool):Bool→Option ((Bool×Int×List SX×List ML) ⊕ (Int×List SX×List ML))
| x34=>
 A0 x31.BO (
 A0 x31.Ask (
 (Hp x1 x2 x3 x5 x27 x28 x29 x30 x31 x33) (!x34)) (
 (Hp x1 x2 x3 x5 x27 x28 x29 x30 x31 x33) false)) (
 (Hp x1 x2 x3 x5 x27 x28 x29 x30 x31 x33) false)
def V2 (x1 x2 x3:Int) (x5:List Int) (x27:Bool) (x28:Int) (x29:List SX) (x30:List ML) (x31:SX):Bool→Option ((Bool×Int×List SX×List ML) ⊕ (Int×List SX×List ML))
| x33=>
 A0 x33 (
 A0 (decide (x3=2)) (
 (Jo x1 x2 x3 x5 x27 x28 x29 x30 x31 x33) true) (
 A0 (decide (x3=1)) (
 (Jo x1 x2 x3 x5 x27 x28 x29 x30 x31 x33) x31.FK) (
 (Jo x1 x2 x3 x5 x27 x28 x29 x30 x31 x33) false))) (
 (Jo x1 x2 x3 x5 x27 x28 x29 x30 x31 x33) false)
def Ky (x1 x2 x3:Int) (x4:List SX) (x5:List Int):(Bool×Int×List SX×List ML)→Option ((Bool×Int×List SX×List ML) ⊕ (Int×List SX×List ML))
| (x27,x28,x29,x30)=>
 A0 (decide (x28<(ln SX.row x4))) (
 (Ac x29 x28).bind fun x31=>
 (EM x5 x31.PE).bind fun x32=>
 (V2 x1 x2 x3 x5 x27 x28 x29 x30 x31) x32) (
 Option.map Sum.inr ((V0 x3) (x27,x29,x30)))
def Ql (x1 x2 x3:Int) (x4:List SX) (x5:List Int) (x6:List ML):Option (Int×List SX×List ML):=loop (Ky x1 x2 x3 x4 x5) (true,0,x4,x6)
instance t_drink_drinker_bottles_I2 {x1 x2 x3 x4 x5 x6}:KT (Ql x1 x2 x3 x4 x5 x6) 226 [.ptr 0 0] [some ⟨278,[.iv x1,.iv x2,.osl 0,.iv x3,.osl 1,.osl 2]⟩] [Al x4,Ae x5,AG x6] (fun _=>(.tup [])) (fun r=>[some ⟨278,[.iv x1,.iv x2,.osl 0,.iv r.1,.osl 1,.osl 4]⟩]) (fun r=>[Al r.2.1,Ae x5,none,none,AG r.2.2]):=⟨fun{r} h=>by
 refine Ft iP fun w0 M0=>?_;have ok:=iP;have A1:AJ [.r 6 4]:=trivial;rw [Ql] at h;refine Vg 16 ?_;refine Vl [0,1] (fun s=>([(2,.bv s.1)],[some ⟨278,[.iv x1,.iv x2,.osl 0,.iv x3,.osl 1,.osl 4]⟩],[Al s.2.1,Ae x5,none,none,AG s.2.2])) (V0 x3) r ?_ fun J1=>?_
 ·rintro ⟨x60,x61,x62⟩ h;rw [V0] at h;refine Vg 9 ?_;refine Vk [0,1] (fun x63=>[(130,.bv x63)]) (V3 x3 x61 x62) r ?_ fun J9=>?_
  ·intro x63 h;rw [V3] at h;refine Vm [] (fun x64=>([],[(0,3,.iv x64)],[],[])) (V1 x61 x62) r ?_ fun J10=>?_
   ·intro x64 h;rw [V1] at h;exact Wx
   ·exact Wx
  ·exact Wx
 ·refine Vg 1 ?_;(refine Wj [.w 156 5,.w 156 5,.r 2 4] ?_);refine Mm h [0,1,12,1] (fun s=>([(2,.bv s.1),(14,.iv s.2.1)],[],[],[(0,Al s.2.2.1),(3,none),(4,AG s.2.2.2)])) ?_;rintro n1 ⟨x27,x28,x29,x30⟩ y1 h hin1 hout1;rw [Ky] at h;refine Vg 5 ?_;refine MI h (fun h=>?_) fun h=>?_
  ·refine Vg 17 ?_;have ⟨x31,ex31,h⟩:=Bs h;refine C5 SX.row ex31 trivial rfl rfl rfl (Vg 3 ?_);refine Vk [0,1,1,1,1,1,8,2] (fun x33=>[(5,.bv x33)]) (V2 x1 x2 x3 x5 x27 x28 x29 x30 x31) y1 ?_ fun J2=>?_
   ·intro x33 h;rw [V2] at h;refine Vg 4 ?_;refine Vk [0,1,1,1,1,2,7,2] (fun x34=>[(6,.bv x34)]) (Jo x1 x2 x3 x5 x27 x28 x29 x30 x31 x33) y1 ?_ fun J3=>?_
    ·intro x34 h;rw [Jo] at h;refine Vg 6 ?_;refine Gm SX.row ex31 trivial rfl rfl rfl (Vg 1 ?_);refine Vk [0,1,1,1,1,2,7,2] (fun x35=>[(71,.bv x35)]) (Hp x1 x2 x3 x5 x27 x28 x29 x30 x31 x33) y1 ?_ fun J4=>?_
     ·intro x35 h;rw [Hp] at h;refine Vm [0,1,1,1,1,2,7,2] (fun s=>([],[],[],[(0,Al s.1),(4,AG s.2)])) (Jp x1 x2 x3 x5 x27 x28 x33) y1 ?_ fun J5=>?_
      ·rintro ⟨x37,x38⟩ h;rw [Jp] at h;refine Vg 10 ?_;refine Vk [0,1,1,1,1,2,7,2] (fun x40=>[(101,.bv x40)]) (Ik x1 x2 x3 x5 x27 x28 x33 x37 x38) y1 ?_ fun J6=>?_
       ·intro x40 h;rw [Ik] at h;refine Vm [0,1,1,1,1,2,7,2] (fun s=>([],[],[],[(0,Al s.1),(4,AG s.2)])) (MO x27 x28 x33) y1 ?_ fun J7=>?_
        ·rintro ⟨x43,x44⟩ h;rw [MO] at h;refine Vg 3 ?_;refine Vk [0,1,12,2] (fun x46=>[(2,.bv x46)]) (Kx x28 x43 x44) y1 ?_ fun J8=>?_
         ·intro x46 h;rw [Kx] at h;exact Wx
         ·exact Wx
        ·refine MI h (fun h=>?_) fun h=>?_
         ·refine Vg 5 ?_;have ⟨x41,ex41,h⟩:=Bs h;refine Du [.bv false] SX.row (y':=(SX.mk x41.PE x41.EP x41.SS x41.FK x41.DY x41.TO x41.BO false)) ex41 trivial rfl rfl rfl (by first | exact AA _ | simp [go_sem]) rfl rfl rfl rfl (Vg 5 ?_);refine H9 SX.row (FB ex41) trivial rfl rfl rfl (VR [0] [0,1,4] 1 5 h t_drink_drinker_send_I2.k fun _ _ h=>?_);refine Vg 1 ?_;(refine Wj [.r 6 4] ?_);exact Wx
         ·exact Wx
       ·exact Wx
      ·refine MI h (fun h=>?_) fun h=>?_
       ·refine Vg 5 ?_;refine Du [.bv false] SX.row (y':=(SX.mk x31.PE x31.EP x31.SS x31.FK x31.DY x31.TO false x31.Ask)) ex31 trivial rfl rfl rfl (by first | exact AA _ | simp [go_sem]) rfl rfl rfl rfl (Vg 5 ?_);refine H9 SX.row (FB ex31) trivial rfl rfl rfl (VR [0] [0,1,4] 1 5 h t_drink_drinker_send_I2.k fun _ _ h=>?_);refine Vg 1 ?_;(refine Wj [.r 6 4] ?_);exact Wx
       ·exact Wx
     ·exact Wx
    ·exact Wx
   ·exact Wx
  ·exact Wx⟩
def Wq:(List SX×List ML)→Option ((List SX×List ML) ⊕ (List ML×List SX))
| (x100,x101)=>Option.map Sum.inr (some (x101,x100))
def Nz (x71:Int):(List SX×List ML)→Option ((Int×List SX×List ML) ⊕ ((List SX×List ML) ⊕ (List ML×List SX)))
| (x80,x81)=>some (.inl (wr (x71+1),x80,x81))
def JK (x1 x2:Int) (x3 x4:Int) (x5:List SE) (x6:List Int) (x7:Int) (x9:List Int) (x10 x11:List KE) (x13:List EV) (x71:Int) (x72:List SX) (x73:List ML) (x74:SX):Bool→Option ((Int×List SX×List ML) ⊕ ((List SX×List ML) ⊕ (List ML×List SX)))
| x76=>
 A0 x76 (
 (Nz x71) (x72,x73)) (
 A0 (decide (x1<x74.PE)) (
 (JL x74 7 x1 x2 x3 x4 x5 x6 x7 (x72.set (Int.toNat (x71)) (SX.mk x74.PE x74.EP 3 x74.FK x74.DY x74.TO x74.BO x74.Ask)) x9 x10 x11 x73 x13).bind fun x77=>
 (Nz x71) ((x72.set (Int.toNat (x71)) (SX.mk x74.PE x74.EP 3 x74.FK x74.DY x74.TO x74.BO x74.Ask)),x77)) (
 (RT x74.PE x1 x2 x3 x4 x5 x6 x7 x72 x9 x10 x11 x73 x13).bind fun x78=>
 (JL x74 8 x1 x2 x3 x4 x5 x6 x7 x78 x9 x10 x11 x73 x13).bind fun x79=>
 Option.map Sum.inr (some (.inl (x78,x79)))))
def Hz (x1 x2:Int) (x3 x4:Int) (x5:List SE) (x6:List Int) (x7:Int) (x9:List Int) (x10 x11:List KE) (x13:List EV) (x58:List SX):(Int×List SX×List ML)→Option ((Int×List SX×List ML) ⊕ ((List SX×List ML) ⊕ (List ML×List SX)))
| (x71,x72,x73)=>
 A0 (decide (x71<(ln SX.row x58))) (
 (Ac x72 x71).bind fun x74=>
 A0 (!decide (x74.SS=2)) (
 (JK x1 x2 x3 x4 x5 x6 x7 x9 x10 x11 x13 x71 x72 x73 x74) true) (
 A0 (decide (x3=2)) (
 (EM x9 x74.PE).bind fun x75=>
 (JK x1 x2 x3 x4 x5 x6 x7 x9 x10 x11 x13 x71 x72 x73 x74) x75) (
 (JK x1 x2 x3 x4 x5 x6 x7 x9 x10 x11 x13 x71 x72 x73 x74) false))) (
 Option.map Sum.inr (Wq (x72,x73)))
def RY (x1 x2:Int) (x3 x4:Int) (x5:List SE) (x6:List Int) (x7:Int) (x9:List Int) (x10 x11:List KE) (x13:List EV):(List SX×List ML)→Option ((List SX×List ML) ⊕ (List ML×List SX))
| (x58,x59)=>loop (Hz x1 x2 x3 x4 x5 x6 x7 x9 x10 x11 x13 x58) (0,x58,x59)
def Wp (x1 x2:Int) (x3 x4:Int) (x5:List SE) (x6:List Int) (x7:Int) (x8:List SX) (x9:List Int) (x10 x11:List KE) (x12:List ML) (x13:List EV):Option (List ML×List SX):=loop (RY x1 x2 x3 x4 x5 x6 x7 x9 x10 x11 x13) (x8,x12)
instance t_node_node_leave_I1 {x1 x2 x3 x4 x5 x6 x7 x8 x9 x10 x11 x12 x13}:KT (Wp x1 x2 x3 x4 x5 x6 x7 x8 x9 x10 x11 x12 x13) 208 [.ptr 0 0] [some ⟨191,[.iv x1,.iv x2,.osl 0,.iv x3,.osl 1,.iv x4,Aq x5,.osl 2,Aj x6,.osl 3,.osl 4,.osl 5,.iv x7]⟩] [Al x8,Ae x9,Ai x10,Ai x11,AG x12,Bk x13] (fun _=>(.tup [])) (fun _=>[some ⟨191,[.iv x1,.iv x2,.osl 8,.iv x3,.osl 1,.iv x4,Aq x5,.osl 2,Aj x6,.osl 3,.osl 7,.osl 5,.iv x7]⟩]) (fun r=>[none,Ae x9,Ai x10,Ai x11,none,Bk x13,none,AG r.1,Al r.2]):=⟨fun{r} h=>by
 refine Ft iK fun w0 M0=>?_;have ok:=iK;have A3:AJ [.r 13 10,.r 11 8]:=trivial;have A2:AJ [.r 12 10]:=trivial;have A1:AJ [.r 10 7]:=trivial;rw [Wp] at h;refine Vg 3 ?_;(refine Wj [.w 156 5,.w 156 5,.w 156 5,.w 156 5,.w 156 5,.r 4 10,.r 0 8] ?_);refine mI h (fun ((x58,x59):(List SX×List ML))=>⟨(.ptr 0 0::an 70 []),[some ⟨191,[.iv x1,.iv x2,.osl 8,.iv x3,.osl 1,.iv x4,Aq x5,.osl 2,Aj x6,.osl 3,.osl 10,.osl 5,.iv x7]⟩],[none,Ae x9,Ai x10,Ai x11,none,Bk x13,none,none,Al x58,none,AG x59]⟩) (by simp [go_sem]) (by rintro ⟨x58,x59⟩;first | rfl | simp [go_sem]) (by rintro ⟨x58,x59⟩;rfl) (by rintro ⟨x58,x59⟩;rfl) ?_;rintro ⟨x58,x59⟩ y1 h hin1 hout1;rw [RY] at h;refine Vg 12 ?_;refine Vm [] (fun s=>([],[],[],[(8,Al s.1),(10,AG s.2)])) Wq y1 ?_ fun J1=>?_
 ·rintro ⟨x100,x101⟩ h;rw [Wq] at h;refine Vg 1 ?_;(refine Wj [.r 10 7] ?_);exact Wx
 ·refine Vg 1 ?_;refine Mm h [0,1,9,2] (fun s=>([(12,.iv s.1)],[],[],[(8,Al s.2.1),(10,AG s.2.2)])) ?_;rintro n2 ⟨x71,x72,x73⟩ y2 h hin2 hout2;rw [Hz] at h;refine Vg 5 ?_;refine MI h (fun h=>?_) fun h=>?_
  ·refine Vg 2 ?_;refine Vm [0,1,9,3] (fun s=>([],[],[],[(8,Al s.1),(10,AG s.2)])) (Nz x71) y2 ?_ fun J2=>?_
   ·rintro ⟨x80,x81⟩ h;rw [Nz] at h;exact Wx
   ·refine Vg 4 ?_;have ⟨x74,ex74,h⟩:=Bs h;refine C5 SX.row ex74 trivial rfl rfl rfl (H9 SX.row ex74 trivial rfl rfl rfl (Vg 6 ?_));refine Vk [0,1,1,2,6,3] (fun x76=>[(39,.bv x76)]) (JK x1 x2 x3 x4 x5 x6 x7 x9 x10 x11 x13 x71 x72 x73 x74) y2 ?_ fun J3=>?_
    ·intro x76 h;rw [JK] at h;refine MI h (fun h=>?_) fun h=>?_
     ·exact Wx
     ·refine Vg 3 ?_;refine AD fun all H=>Ds (GP H 10 0 [10] [(40,[.ptr 1 0,.iv x74.PE,.ptr 0 0,.ptr 0 0,.ptr 0 0,.ptr 0 0,.ptr 0 0,.ptr 0 0,.iv x1,.bv (decide (x1<x74.PE))])] (Ds ?_));refine GD (MI h (fun h=>?_) fun h=>?_)
      ·refine Vg 10 ?_;refine C5 SX.row ex74 trivial rfl rfl rfl (Vg 1 ?_);refine Du [.iv 3] SX.row (y':=(SX.mk x74.PE x74.EP 3 x74.FK x74.DY x74.TO x74.BO x74.Ask)) ex74 trivial rfl rfl rfl (by first | exact AA _ | simp [go_sem]) rfl rfl rfl rfl (Vg 5 ?_);refine VR [0] [8,1,2,3,10,5] 2 11 h t_node_node_send_I2.k fun _ _ h=>?_;refine Vg 2 ?_;(refine Wj [.r 12 10] ?_);exact Wx
      ·refine Vg 6 ?_;refine VR [0] [8,1,2,3,10,5] 2 11 h t_node_node_drop_I2.k fun _ _ h=>?_;refine Vg 5 ?_;refine VR [0] [11,1,2,3,10,5] 2 12 h t_node_node_send_I2.k fun _ _ h=>?_;refine Vg 4 ?_;(refine Wj [.r 13 10,.r 11 8] ?_);exact dl (CU h hout2) hin1
    ·refine AD fun all H=>Ds (GP H 4 19 [4,19] [(17,[.ptr 1 2,.iv x74.SS,.bv (!decide (x74.SS=2)),.bv (!decide (x74.SS=2))])] (Ds ?_));refine BW 20 h rfl (fun _ h=>?_) fun _ h=>?_
     ·refine Ds (GP H 19 0 [23] [(21,ux 18 [.tt])] (Ds ?_));refine GD ?_;exact Wx
     ·refine Ds (GP H 8 11 [12,11] [(21,[.ptr 0 0,.ptr 0 0,.ptr 0 0,.ptr 0 0,.ptr 0 3,.iv x3,.bv (decide (x3=2)),.bv (decide (x3=2))])] (Ds ?_));refine BW 28 h rfl (fun _ h=>?_) fun _ h=>?_
      ·exact Wx
      ·exact Wx
  ·exact Wx⟩
def Ot (l:List SX) (i:Int) (vs:List SX):Option (List SX):=Pv 32 l i vs
theorem xi {l i vs r} (h:Ot l i vs=some r):FTx 180 [.osl 0,.iv i,.osl 1] [] [some ⟨100,8,l.map SX.row⟩,some ⟨100,8,List.map SX.row vs⟩] (.osl 2) [] [none,none,some ⟨100,8,r.map SX.row⟩]:=by
 obtain ⟨v,rfl,h⟩:=fO h;obtain ⟨hr,h0,h1,hb,h63⟩:=fQ h;have hln:(l.map SX.row).length=l.length:=List.length_map _;have hw1:wr ((l.length:Int)+1)=(l.length:Int)+1:=IntWalk.i64_in _ ⟨Om,Om⟩;have hw2:wr ((l.length:Int)+1-i)=(l.length:Int)+1-i:=IntWalk.i64_in _ ⟨Om,Om⟩;have hw3:wr (i+1)=i+1:=IntWalk.i64_in _ ⟨Om,Om⟩;obtain ⟨y,hy⟩:∃y,y=v.row:=⟨_,rfl⟩
 have hv1: [v].map SX.row=[y]:=by rw [hy];rfl
 rw [hv1];have hr1:(([y]:List (List AV)).length:Int)=1:=rfl;have hR:(l.map SX.row).take i.toNat++y::(l.map SX.row).drop i.toNat=r.map SX.row:=by rw [hr,hy];simp [List.map_take,List.map_drop]
 have hw4:(i+1).toNat=i.toNat+1:=by omega
 have hw5:((l.length:Int)+1).toNat=l.length+1:=by omega
 refine da (j:=0) OF rfl rfl rfl (by first | rfl | simp [go_sem]) rfl rfl (i<l.length) (fun h=>by rw [hln];omega) (fun w M hc=>?_) (fun w M g cap hq e1 hc e2=>?_)
 ·dsimp only[Dh,List.cons_append,List.nil_append];refine As 100 ?_;dsimp only[go_sem];refine An ?_;refine Ba trivial (Yy (l:=i) rfl rfl rfl h0 (by rw [hln];exact h1)) rfl ?_;refine As 100 ?_;dsimp only[go_sem];refine An ?_;refine FA rfl (fun e=>by simp at e) fun _=>?_;refine As 100 ?_;dsimp only[go_sem];refine An ?_;refine FA rfl (fun e=>?_) fun hne=>?_
  ·have hi:i=l.length:=by simpa using e
   subst hi;refine As 100 ?_;dsimp only[go_sem];refine An ?_;rw [←hv1];refine Er SX.row (l':=l) (m':=[v]) (v:=r) ?_ trivial rfl rfl rfl ?_
   ·unfold AE;rw [if_pos ⟨by simpa using hb,by simpa using h63⟩,hr];simp
   refine As 100 ?_;dsimp only[go_sem];refine An ?_;exact E7 OF
  ·have hi:i<l.length:=by
    have:¬i=l.length:=by simpa using hne
    omega
   have hc:=hc hi;have hcl:Ei (M.σ 0)<l.length+1:=by simpa [hln] using hc
   refine As 100 ?_;dsimp only[go_sem];refine An ?_;refine Ba trivial (Yu rfl rfl (by show 0<2;omega)) rfl ?_;refine As 100 ?_;dsimp only[go_sem];refine An ?_;rw [show (Ctx.lent Tryz.prog w M [] [some ⟨100,8,l.map SX.row⟩,some ⟨100,8,[y]⟩] 0 2).ps 0=M.σ 0 from rfl];simp only [hln,hr1,hw1];refine FA rfl (fun _=>?_) fun e=>?_
   ·refine As 100 ?_;dsimp only[go_sem];refine An ?_;refine Ba trivial (Fs (l:=0) (h:=i) rfl rfl (by rw [hln]<;>omega) rfl rfl Om h0 (by rw [hln];exact h1)) rfl ?_;refine As 100 ?_;dsimp only[go_sem];refine An ?_;simp only [hw1,hw2];have hik:i=(i.toNat:Int):=by omega
    refine Ba trivial (lc (i:=i.toNat) (m:=(l.length:Int)+1-i) rfl rfl (by rw [hln]<;>omega) (by show 0<2;omega) rfl Om ?_ rfl ?_ Om rfl) rfl ?_
    ·show (Ei (M.σ 0):Int)<_;omega
    ·have:(i.toNat:Int)+((l.length:Int)+1-i)=((l.length+1:Nat):Int):=by omega
     rw [this];omega
    refine As 100 ?_;dsimp only[go_sem];refine An ?_;have hrl:((l.map SX.row).take i.toNat++List.replicate ((l.length:Int)+1-i).toNat [AV.iv 0,AV.iv 0,AV.iv 0,AV.ff,AV.ff,AV.ff,AV.ff,AV.ff]).length=l.length+1:=by rw [List.length_append,List.length_take,List.length_replicate,hln];omega
    refine Ba trivial (Fs (l:=i) (h:=(l.length:Int)+1) rfl rfl (by rw [hrl]<;>omega) rfl (by simp only [Bb,hrl];rfl) h0 Om (by rw [hrl]<;>omega)) rfl ?_;refine As 100 ?_;dsimp only[go_sem];refine An ?_;refine LN 44 1 rfl rfl (by show 0<1;omega) ?_;dsimp only[go_sem];refine Ba trivial (HR ((l.map SX.row).take i.toNat++y::List.replicate ((l.map SX.row).length-i.toNat) [AV.iv 0,AV.iv 0,AV.iv 0,AV.ff,AV.ff,AV.ff,AV.ff,AV.ff]) rfl rfl rfl rfl (by rw [hrl]<;>omega) (by show 0+1≤1;omega) (by rw [hrl]<;>omega) (by show 0<1;omega) (fH (by rw [hln]<;>omega) (by rw [hln]<;>omega) Om rfl)) rfl ?_;refine As 100 ?_;dsimp only[go_sem];refine An ?_;refine AD fun all H=>?_;dsimp only[go_sem];refine GN H 6 3 ?_;dsimp only[go_sem];refine An ?_;simp only [hw3];have hr2:((l.map SX.row).take i.toNat++y::List.replicate ((l.map SX.row).length-i.toNat) [AV.iv 0,AV.iv 0,AV.iv 0,AV.ff,AV.ff,AV.ff,AV.ff,AV.ff]).length=l.length+1:=by rw [List.length_append,List.length_take,List.length_cons,List.length_replicate,hln];omega
    refine Ao 4 7 rfl ?_ ?_
    ·refine Bz H.1 trivial (Fs (l:=i+1) (h:=(l.length:Int)+1) rfl rfl (by rw [hr2]<;>omega) rfl (by simp only [Bb,hr2];rfl) Om Om (by rw [hr2]<;>omega)) rfl (CB _ _) ?_;dsimp only[go_sem];refine Ak 7 rfl ?_;refine Bz H.1 trivial (Fs (l:=i) (h:=(l.length:Int)) rfl rfl (by rw [hln]<;>omega) rfl (by simp only [Bb,hln]) h0 Om (by rw [hln];exact Int.le_refl _)) rfl (CB _ _) ?_;dsimp only[go_sem];refine Ak 8 rfl ?_;refine Bz (S1:=⟨_,_,_⟩) H.1 trivial (HR (r.map SX.row) rfl rfl rfl rfl (by rw [hr2]<;>omega) (by rw [hln]<;>omega) (by rw [hr2]<;>omega) Om ?_) rfl (fun _ _ _ _ h _ _=>h) ?_
     ·rw [show (i+1).toNat=i.toNat+1 by omega,←hR];exact UI (by rw [hln]<;>omega) (by rw [hln]<;>omega) (by rw [hln]<;>omega)
     dsimp only[go_sem];refine GD ?_;refine As 100 ?_;dsimp only[go_sem];refine An ?_;exact E7 OF
    ·refine Bz H.1 trivial (Fs (l:=i) (h:=(l.length:Int)) rfl rfl (by rw [hln]<;>omega) rfl (by simp only [Bb,hln]) h0 Om (by rw [hln];exact Int.le_refl _)) rfl (CB _ _) ?_;dsimp only[go_sem];refine Ak 4 rfl ?_;refine Bz H.1 trivial (Fs (l:=i+1) (h:=(l.length:Int)+1) rfl rfl (by rw [hr2]<;>omega) rfl (by simp only [Bb,hr2];rfl) Om Om (by rw [hr2]<;>omega)) rfl (CB _ _) ?_;dsimp only[go_sem];refine Ak 8 rfl ?_;refine Bz (S1:=⟨_,_,_⟩) H.1 trivial (HR (r.map SX.row) rfl rfl rfl rfl (by rw [hr2]<;>omega) (by rw [hln]<;>omega) (by rw [hr2]<;>omega) Om ?_) rfl (fun _ _ _ _ h _ _=>h) ?_
     ·rw [show (i+1).toNat=i.toNat+1 by omega,←hR];exact UI (by rw [hln]<;>omega) (by rw [hln]<;>omega) (by rw [hln]<;>omega)
     dsimp only[go_sem];refine GD ?_;refine As 100 ?_;dsimp only[go_sem];refine An ?_;exact E7 OF
   ·exact absurd e (by simpa using (by omega:(Ei (M.σ 0):Int)<l.length+1))
 ·dsimp only[Dh,List.cons_append,List.nil_append];have hcn:(Ctx.lent Tryz.prog w M [] [some ⟨100,8,l.map SX.row⟩,some ⟨100,8,[y]⟩,none] 0 3).nq=3:=rfl;have hp0:(Ctx.lent Tryz.prog w M [] [some ⟨100,8,l.map SX.row⟩,some ⟨100,8,[y]⟩,none] 0 3).ps 0 = .slice (some ⟨g,0,none⟩) l.length cap:=by rw [hln] at e1;exact e1
  have hp2:(Ctx.lent Tryz.prog w M [] [some ⟨100,8,l.map SX.row⟩,some ⟨100,8,[y]⟩,none] 0 3).ps 2 = .slice (some ⟨g,0,none⟩) (l.length+1) cap:=by rw [hln] at e2;exact e2
  have hc:l.length+1≤cap:=by rw [hln] at hc;exact hc
  refine As 100 ?_;dsimp only[go_sem];refine An ?_;refine Ba trivial (Yy (l:=i) rfl rfl rfl h0 (by rw [hln];exact h1)) rfl ?_;refine As 100 ?_;dsimp only[go_sem];refine An ?_;refine FA rfl (fun e=>by simp at e) fun _=>?_;refine As 100 ?_;dsimp only[go_sem];refine An ?_;refine FA rfl (fun e=>?_) fun _=>?_
  ·exfalso;have:i=l.length:=by simpa using e
   omega
  refine As 100 ?_;dsimp only[go_sem];refine An ?_;refine Ba trivial (Yu rfl rfl (by show 0<3;omega)) rfl ?_;rw [hp0];refine As 100 ?_;dsimp only [go_sem,Ei];refine An ?_;simp only [hln,hr1,hw1];refine FA rfl (fun e=>?_) fun _=>?_
  ·exfalso;have:(cap:Int)<l.length+1:=by simpa using e
   omega
  refine As 100 ?_;dsimp only[go_sem];refine An ?_;simp only [hw1];refine Ba trivial (lk (h:=(l.length:Int)+1) rfl (by show 0<3;omega) (by show 2<3;omega) hp0 hp2 hc rfl rfl rfl) rfl ?_;refine As 100 ?_;dsimp only[go_sem];refine An ?_;simp only [hw3];refine Ba trivial (Fu (l:=i+1) (h:=(l.length:Int)+1) rfl (by show 2<3;omega) hp2 hc rfl rfl Om Om Om) rfl ?_;refine As 100 ?_;dsimp only[go_sem];refine An ?_;refine Ba trivial (li (ft:=Tryz.f211) (tS:=49) (tR:=4) (e:=100) (j:=0) (by kernel_rfl) (by kernel_rfl) (by kernel_rfl) (by kernel_rfl) (by kernel_rfl) (by kernel_rfl) (by kernel_rfl) rfl rfl rfl rfl Om (by show 0<1;omega) (by show 0<(l.map SX.row).length;rw [hln];omega) (by show 0<3;omega) (by show 2<3;omega) hp0 hp2) rfl ?_;refine As 100 ?_;dsimp only[go_sem];refine An ?_;have hrs:((l.map SX.row).take (i.toNat+1)++(l.map SX.row).drop i.toNat).length=l.length+1:=by rw [List.length_append,List.length_take,List.length_drop,hln];omega
  refine AD fun all H=>?_;dsimp only[go_sem];refine GN H 6 3 ?_;dsimp only[go_sem];refine An ?_;simp only [hw3];refine Ao 4 7 rfl ?_ ?_
  ·refine Bz H.1 trivial (Fu (l:=i+1) (h:=(l.length:Int)+1) rfl (by show 2<3;omega) hp2 hc rfl rfl Om Om Om) rfl (CB _ _) ?_;dsimp only[go_sem];refine Ak 7 rfl ?_;refine Bz H.1 trivial (Fu (l:=i) (h:=(l.length:Int)+1) rfl (by show 2<3;omega) hp2 hc rfl rfl h0 Om Om) rfl (CB _ _) ?_;dsimp only[go_sem];simp only [hw4,hw5,Nat.add_sub_add_right];refine Ak 8 rfl ?_;refine Bz (S1:=⟨_,_,_⟩) H.1 trivial (Yx (i:=i.toNat) rfl rfl rfl hln Om (by show 2<3;omega) (by show 0<3;omega) (by show 2<3;omega) hp0 hp2 hc) rfl (fun _ _ _ _ h _ _=>h) ?_;dsimp only[go_sem];refine GD ?_;refine As 100 ?_;dsimp only[go_sem];refine An ?_;refine Ba trivial (Fu (l:=i) (h:=(l.length:Int)+1) rfl (by show 2<3;omega) hp2 hc rfl rfl h0 Om Om) rfl ?_;refine As 100 ?_;dsimp only[go_sem];refine An ?_;refine LN 81 1 rfl rfl (by show 0<1;omega) ?_;dsimp only[go_sem];refine Ba trivial (HR (r.map SX.row) rfl rfl rfl rfl (by rw [hrs,hw5]<;>omega) (by show 0+1≤1;omega) (by rw [hrs]<;>omega) (by show 0<1;omega) (by rw [←hR];exact Yz (by rw [hln]<;>omega) Om rfl)) rfl ?_;refine As 100 ?_;dsimp only[go_sem];refine An ?_;exact E7 OF
  ·refine Bz H.1 trivial (Fu (l:=i) (h:=(l.length:Int)+1) rfl (by show 2<3;omega) hp2 hc rfl rfl h0 Om Om) rfl (CB _ _) ?_;dsimp only[go_sem];refine Ak 4 rfl ?_;refine Bz H.1 trivial (Fu (l:=i+1) (h:=(l.length:Int)+1) rfl (by show 2<3;omega) hp2 hc rfl rfl Om Om Om) rfl (CB _ _) ?_;dsimp only[go_sem];simp only [hw4,hw5,Nat.add_sub_add_right];refine Ak 8 rfl ?_;refine Bz (S1:=⟨_,_,_⟩) H.1 trivial (Yx (i:=i.toNat) rfl rfl rfl hln Om (by show 2<3;omega) (by show 0<3;omega) (by show 2<3;omega) hp0 hp2 hc) rfl (fun _ _ _ _ h _ _=>h) ?_;dsimp only[go_sem];refine GD ?_;refine As 100 ?_;dsimp only[go_sem];refine An ?_;refine Ba trivial (Fu (l:=i) (h:=(l.length:Int)+1) rfl (by show 2<3;omega) hp2 hc rfl rfl h0 Om Om) rfl ?_;refine As 100 ?_;dsimp only[go_sem];refine An ?_;refine LN 81 1 rfl rfl (by show 0<1;omega) ?_;dsimp only[go_sem];refine Ba trivial (HR (r.map SX.row) rfl rfl rfl rfl (by rw [hrs,hw5]<;>omega) (by show 0+1≤1;omega) (by rw [hrs]<;>omega) (by show 0<1;omega) (by rw [←hR];exact Yz (by rw [hln]<;>omega) Om rfl)) rfl ?_;refine As 100 ?_;dsimp only[go_sem];refine An ?_;exact E7 OF
instance {l i vs}:KT (Ot l i vs) 180 [.osl 0,.iv i,.osl 1] [] [some ⟨100,8,l.map SX.row⟩,some ⟨100,8,List.map SX.row vs⟩] (fun _=>(.osl 2)) (fun _=>[]) (fun r=>[none,none,some ⟨100,8,r.map SX.row⟩]):=⟨fun h=>xi h⟩
def Lj (l:List KE) (i:Int) (vs:List KE):Option (List KE):=Pv 16 l i vs
theorem xg {l i vs r} (h:Lj l i vs=some r):FTx 215 [.osl 0,.iv i,.osl 1] [] [some ⟨147,2,l.map KE.row⟩,some ⟨147,2,List.map KE.row vs⟩] (.osl 2) [] [none,none,some ⟨147,2,r.map KE.row⟩]:=by
 obtain ⟨v,rfl,h⟩:=fO h;obtain ⟨hr,h0,h1,hb,h63⟩:=fQ h;have hln:(l.map KE.row).length=l.length:=List.length_map _;have hw1:wr ((l.length:Int)+1)=(l.length:Int)+1:=IntWalk.i64_in _ ⟨Om,Om⟩;have hw2:wr ((l.length:Int)+1-i)=(l.length:Int)+1-i:=IntWalk.i64_in _ ⟨Om,Om⟩;have hw3:wr (i+1)=i+1:=IntWalk.i64_in _ ⟨Om,Om⟩;obtain ⟨y,hy⟩:∃y,y=v.row:=⟨_,rfl⟩
 have hv1: [v].map KE.row=[y]:=by rw [hy];rfl
 rw [hv1];have hr1:(([y]:List (List AV)).length:Int)=1:=rfl;have hR:(l.map KE.row).take i.toNat++y::(l.map KE.row).drop i.toNat=r.map KE.row:=by rw [hr,hy];simp [List.map_take,List.map_drop]
 have hw4:(i+1).toNat=i.toNat+1:=by omega
 have hw5:((l.length:Int)+1).toNat=l.length+1:=by omega
 refine da (j:=0) OG rfl rfl rfl (by first | rfl | simp [go_sem]) rfl rfl (i<l.length) (fun h=>by rw [hln];omega) (fun w M hc=>?_) (fun w M g cap hq e1 hc e2=>?_)
 ·dsimp only[Dh,List.cons_append,List.nil_append];refine As 100 ?_;dsimp only[go_sem];refine An ?_;refine Ba trivial (Yy (l:=i) rfl rfl rfl h0 (by rw [hln];exact h1)) rfl ?_;refine As 100 ?_;dsimp only[go_sem];refine An ?_;refine FA rfl (fun e=>by simp at e) fun _=>?_;refine As 100 ?_;dsimp only[go_sem];refine An ?_;refine FA rfl (fun e=>?_) fun hne=>?_
  ·have hi:i=l.length:=by simpa using e
   subst hi;refine As 100 ?_;dsimp only[go_sem];refine An ?_;rw [←hv1];refine Er KE.row (l':=l) (m':=[v]) (v:=r) ?_ trivial rfl rfl rfl ?_
   ·unfold AE;rw [if_pos ⟨by simpa using hb,by simpa using h63⟩,hr];simp
   refine As 100 ?_;dsimp only[go_sem];refine An ?_;exact E7 OG
  ·have hi:i<l.length:=by
    have:¬i=l.length:=by simpa using hne
    omega
   have hc:=hc hi;have hcl:Ei (M.σ 0)<l.length+1:=by simpa [hln] using hc
   refine As 100 ?_;dsimp only[go_sem];refine An ?_;refine Ba trivial (Yu rfl rfl (by show 0<2;omega)) rfl ?_;refine As 100 ?_;dsimp only[go_sem];refine An ?_;rw [show (Ctx.lent Tryz.prog w M [] [some ⟨147,2,l.map KE.row⟩,some ⟨147,2,[y]⟩] 0 2).ps 0=M.σ 0 from rfl];simp only [hln,hr1,hw1];refine FA rfl (fun _=>?_) fun e=>?_
   ·refine As 100 ?_;dsimp only[go_sem];refine An ?_;refine Ba trivial (Fs (l:=0) (h:=i) rfl rfl (by rw [hln]<;>omega) rfl rfl Om h0 (by rw [hln];exact h1)) rfl ?_;refine As 100 ?_;dsimp only[go_sem];refine An ?_;simp only [hw1,hw2];have hik:i=(i.toNat:Int):=by omega
    refine Ba trivial (lc (i:=i.toNat) (m:=(l.length:Int)+1-i) rfl rfl (by rw [hln]<;>omega) (by show 0<2;omega) rfl Om ?_ rfl ?_ Om rfl) rfl ?_
    ·show (Ei (M.σ 0):Int)<_;omega
    ·have:(i.toNat:Int)+((l.length:Int)+1-i)=((l.length+1:Nat):Int):=by omega
     rw [this];omega
    refine As 100 ?_;dsimp only[go_sem];refine An ?_;have hrl:((l.map KE.row).take i.toNat++List.replicate ((l.length:Int)+1-i).toNat [AV.iv 0,AV.iv 0]).length=l.length+1:=by rw [List.length_append,List.length_take,List.length_replicate,hln];omega
    refine Ba trivial (Fs (l:=i) (h:=(l.length:Int)+1) rfl rfl (by rw [hrl]<;>omega) rfl (by simp only [Bb,hrl];rfl) h0 Om (by rw [hrl]<;>omega)) rfl ?_;refine As 100 ?_;dsimp only[go_sem];refine An ?_;refine LN 44 1 rfl rfl (by show 0<1;omega) ?_;dsimp only[go_sem];refine Ba trivial (HR ((l.map KE.row).take i.toNat++y::List.replicate ((l.map KE.row).length-i.toNat) [AV.iv 0,AV.iv 0]) rfl rfl rfl rfl (by rw [hrl]<;>omega) (by show 0+1≤1;omega) (by rw [hrl]<;>omega) (by show 0<1;omega) (fH (by rw [hln]<;>omega) (by rw [hln]<;>omega) Om rfl)) rfl ?_;refine As 100 ?_;dsimp only[go_sem];refine An ?_;refine AD fun all H=>?_;dsimp only[go_sem];refine GN H 6 3 ?_;dsimp only[go_sem];refine An ?_;simp only [hw3];have hr2:((l.map KE.row).take i.toNat++y::List.replicate ((l.map KE.row).length-i.toNat) [AV.iv 0,AV.iv 0]).length=l.length+1:=by rw [List.length_append,List.length_take,List.length_cons,List.length_replicate,hln];omega
    refine Ao 4 7 rfl ?_ ?_
    ·refine Bz H.1 trivial (Fs (l:=i+1) (h:=(l.length:Int)+1) rfl rfl (by rw [hr2]<;>omega) rfl (by simp only [Bb,hr2];rfl) Om Om (by rw [hr2]<;>omega)) rfl (CB _ _) ?_;dsimp only[go_sem];refine Ak 7 rfl ?_;refine Bz H.1 trivial (Fs (l:=i) (h:=(l.length:Int)) rfl rfl (by rw [hln]<;>omega) rfl (by simp only [Bb,hln]) h0 Om (by rw [hln];exact Int.le_refl _)) rfl (CB _ _) ?_;dsimp only[go_sem];refine Ak 8 rfl ?_;refine Bz (S1:=⟨_,_,_⟩) H.1 trivial (HR (r.map KE.row) rfl rfl rfl rfl (by rw [hr2]<;>omega) (by rw [hln]<;>omega) (by rw [hr2]<;>omega) Om ?_) rfl (fun _ _ _ _ h _ _=>h) ?_
     ·rw [show (i+1).toNat=i.toNat+1 by omega,←hR];exact UI (by rw [hln]<;>omega) (by rw [hln]<;>omega) (by rw [hln]<;>omega)
     dsimp only[go_sem];refine GD ?_;refine As 100 ?_;dsimp only[go_sem];refine An ?_;exact E7 OG
    ·refine Bz H.1 trivial (Fs (l:=i) (h:=(l.length:Int)) rfl rfl (by rw [hln]<;>omega) rfl (by simp only [Bb,hln]) h0 Om (by rw [hln];exact Int.le_refl _)) rfl (CB _ _) ?_;dsimp only[go_sem];refine Ak 4 rfl ?_;refine Bz H.1 trivial (Fs (l:=i+1) (h:=(l.length:Int)+1) rfl rfl (by rw [hr2]<;>omega) rfl (by simp only [Bb,hr2];rfl) Om Om (by rw [hr2]<;>omega)) rfl (CB _ _) ?_;dsimp only[go_sem];refine Ak 8 rfl ?_;refine Bz (S1:=⟨_,_,_⟩) H.1 trivial (HR (r.map KE.row) rfl rfl rfl rfl (by rw [hr2]<;>omega) (by rw [hln]<;>omega) (by rw [hr2]<;>omega) Om ?_) rfl (fun _ _ _ _ h _ _=>h) ?_
     ·rw [show (i+1).toNat=i.toNat+1 by omega,←hR];exact UI (by rw [hln]<;>omega) (by rw [hln]<;>omega) (by rw [hln]<;>omega)
     dsimp only[go_sem];refine GD ?_;refine As 100 ?_;dsimp only[go_sem];refine An ?_;exact E7 OG
   ·exact absurd e (by simpa using (by omega:(Ei (M.σ 0):Int)<l.length+1))
 ·dsimp only[Dh,List.cons_append,List.nil_append];have hcn:(Ctx.lent Tryz.prog w M [] [some ⟨147,2,l.map KE.row⟩,some ⟨147,2,[y]⟩,none] 0 3).nq=3:=rfl;have hp0:(Ctx.lent Tryz.prog w M [] [some ⟨147,2,l.map KE.row⟩,some ⟨147,2,[y]⟩,none] 0 3).ps 0 = .slice (some ⟨g,0,none⟩) l.length cap:=by rw [hln] at e1;exact e1
  have hp2:(Ctx.lent Tryz.prog w M [] [some ⟨147,2,l.map KE.row⟩,some ⟨147,2,[y]⟩,none] 0 3).ps 2 = .slice (some ⟨g,0,none⟩) (l.length+1) cap:=by rw [hln] at e2;exact e2
  have hc:l.length+1≤cap:=by rw [hln] at hc;exact hc
  refine As 100 ?_;dsimp only[go_sem];refine An ?_;refine Ba trivial (Yy (l:=i) rfl rfl rfl h0 (by rw [hln];exact h1)) rfl ?_;refine As 100 ?_;dsimp only[go_sem];refine An ?_;refine FA rfl (fun e=>by simp at e) fun _=>?_;refine As 100 ?_;dsimp only[go_sem];refine An ?_;refine FA rfl (fun e=>?_) fun _=>?_
  ·exfalso;have:i=l.length:=by simpa using e
   omega
  refine As 100 ?_;dsimp only[go_sem];refine An ?_;refine Ba trivial (Yu rfl rfl (by show 0<3;omega)) rfl ?_;rw [hp0];refine As 100 ?_;dsimp only [go_sem,Ei];refine An ?_;simp only [hln,hr1,hw1];refine FA rfl (fun e=>?_) fun _=>?_
  ·exfalso;have:(cap:Int)<l.length+1:=by simpa using e
   omega
  refine As 100 ?_;dsimp only[go_sem];refine An ?_;simp only [hw1];refine Ba trivial (lk (h:=(l.length:Int)+1) rfl (by show 0<3;omega) (by show 2<3;omega) hp0 hp2 hc rfl rfl rfl) rfl ?_;refine As 100 ?_;dsimp only[go_sem];refine An ?_;simp only [hw3];refine Ba trivial (Fu (l:=i+1) (h:=(l.length:Int)+1) rfl (by show 2<3;omega) hp2 hc rfl rfl Om Om Om) rfl ?_;refine As 100 ?_;dsimp only[go_sem];refine An ?_;refine Ba trivial (li (ft:=Tryz.f222) (tS:=58) (tR:=4) (e:=147) (j:=0) (by kernel_rfl) (by kernel_rfl) (by kernel_rfl) (by kernel_rfl) (by kernel_rfl) (by kernel_rfl) (by kernel_rfl) rfl rfl rfl rfl Om (by show 0<1;omega) (by show 0<(l.map KE.row).length;rw [hln];omega) (by show 0<3;omega) (by show 2<3;omega) hp0 hp2) rfl ?_;refine As 100 ?_;dsimp only[go_sem];refine An ?_;have hrs:((l.map KE.row).take (i.toNat+1)++(l.map KE.row).drop i.toNat).length=l.length+1:=by rw [List.length_append,List.length_take,List.length_drop,hln];omega
  refine AD fun all H=>?_;dsimp only[go_sem];refine GN H 6 3 ?_;dsimp only[go_sem];refine An ?_;simp only [hw3];refine Ao 4 7 rfl ?_ ?_
  ·refine Bz H.1 trivial (Fu (l:=i+1) (h:=(l.length:Int)+1) rfl (by show 2<3;omega) hp2 hc rfl rfl Om Om Om) rfl (CB _ _) ?_;dsimp only[go_sem];refine Ak 7 rfl ?_;refine Bz H.1 trivial (Fu (l:=i) (h:=(l.length:Int)+1) rfl (by show 2<3;omega) hp2 hc rfl rfl h0 Om Om) rfl (CB _ _) ?_;dsimp only[go_sem];simp only [hw4,hw5,Nat.add_sub_add_right];refine Ak 8 rfl ?_;refine Bz (S1:=⟨_,_,_⟩) H.1 trivial (Yx (i:=i.toNat) rfl rfl rfl hln Om (by show 2<3;omega) (by show 0<3;omega) (by show 2<3;omega) hp0 hp2 hc) rfl (fun _ _ _ _ h _ _=>h) ?_;dsimp only[go_sem];refine GD ?_;refine As 100 ?_;dsimp only[go_sem];refine An ?_;refine Ba trivial (Fu (l:=i) (h:=(l.length:Int)+1) rfl (by show 2<3;omega) hp2 hc rfl rfl h0 Om Om) rfl ?_;refine As 100 ?_;dsimp only[go_sem];refine An ?_;refine LN 81 1 rfl rfl (by show 0<1;omega) ?_;dsimp only[go_sem];refine Ba trivial (HR (r.map KE.row) rfl rfl rfl rfl (by rw [hrs,hw5]<;>omega) (by show 0+1≤1;omega) (by rw [hrs]<;>omega) (by show 0<1;omega) (by rw [←hR];exact Yz (by rw [hln]<;>omega) Om rfl)) rfl ?_;refine As 100 ?_;dsimp only[go_sem];refine An ?_;exact E7 OG
  ·refine Bz H.1 trivial (Fu (l:=i) (h:=(l.length:Int)+1) rfl (by show 2<3;omega) hp2 hc rfl rfl h0 Om Om) rfl (CB _ _) ?_;dsimp only[go_sem];refine Ak 4 rfl ?_;refine Bz H.1 trivial (Fu (l:=i+1) (h:=(l.length:Int)+1) rfl (by show 2<3;omega) hp2 hc rfl rfl Om Om Om) rfl (CB _ _) ?_;dsimp only[go_sem];simp only [hw4,hw5,Nat.add_sub_add_right];refine Ak 8 rfl ?_;refine Bz (S1:=⟨_,_,_⟩) H.1 trivial (Yx (i:=i.toNat) rfl rfl rfl hln Om (by show 2<3;omega) (by show 0<3;omega) (by show 2<3;omega) hp0 hp2 hc) rfl (fun _ _ _ _ h _ _=>h) ?_;dsimp only[go_sem];refine GD ?_;refine As 100 ?_;dsimp only[go_sem];refine An ?_;refine Ba trivial (Fu (l:=i) (h:=(l.length:Int)+1) rfl (by show 2<3;omega) hp2 hc rfl rfl h0 Om Om) rfl ?_;refine As 100 ?_;dsimp only[go_sem];refine An ?_;refine LN 81 1 rfl rfl (by show 0<1;omega) ?_;dsimp only[go_sem];refine Ba trivial (HR (r.map KE.row) rfl rfl rfl rfl (by rw [hrs,hw5]<;>omega) (by show 0+1≤1;omega) (by rw [hrs]<;>omega) (by show 0<1;omega) (by rw [←hR];exact Yz (by rw [hln]<;>omega) Om rfl)) rfl ?_;refine As 100 ?_;dsimp only[go_sem];refine An ?_;exact E7 OG
instance {l i vs}:KT (Lj l i vs) 215 [.osl 0,.iv i,.osl 1] [] [some ⟨147,2,l.map KE.row⟩,some ⟨147,2,List.map KE.row vs⟩] (fun _=>(.osl 2)) (fun _=>[]) (fun r=>[none,none,some ⟨147,2,r.map KE.row⟩]):=⟨fun h=>xg h⟩
def O3 (x1:BK) (x2:Int) (x4:List SE):Bool→Option (BK×Int×Int)
| x6=>
 A0 x6 (
 some ((BK.mk x1.LA x4),0,0)) (
 (Ac x4 0).bind fun x7=>
 A0 (decide ((max x7.Age (wr ((min x7.Age 4611686018427387903)+1)))<x2)) (
 some ((BK.mk x1.LA (x4.set (Int.toNat (0)) (SE.mk x7.ID x7.NE x7.SS (max x7.Age (wr ((min x7.Age 4611686018427387903)+1)))))),0,0)) (
 (Lh 0 1 (x4.set (Int.toNat (0)) (SE.mk x7.ID x7.NE x7.SS (max x7.Age (wr ((min x7.Age 4611686018427387903)+1)))))).bind fun x8=>
 some ((BK.mk x1.LA x8),x7.ID,0)))
def SB (x1:BK) (x2:Int):Option (BK×Int×Int):=
 (GT x1).bind fun x3=>
 A0 (!decide (x3=0)) (
 some ((BK.mk 0 (([]:List SE))),0,x3)) (
 (Iv x1).bind fun x4=>
 A0 (decide ((ln SE.row x4)=0)) (
 (O3 x1 x2 x4) true) (
 (Ac x4 0).bind fun x5=>
 (O3 x1 x2 x4) (!decide (x5.SS=1))))
instance k_sess_Tick {x1 x2}:KP (SB x1 x2) 177 [.agg (BK.row x1),.iv x2] (fun r=>(.tup [.agg (BK.row r.1),.iv r.2.1,.iv r.2.2])):=⟨fun{r} h=>by
 have ok:=oJ 177 Tryz.f177 [.c 4 (some 2),.t 5,.t 6] 2 63;refine FP ok fun w0 H0=>?_;have A2:AJ [.s 1]:=trivial;have A1:AJ [.s 0]:=trivial;rw [SB] at h;refine Vg 11 ?_;refine VB h k_sess_Check.k fun _ _ h=>?_;refine Vg 7 ?_;refine MI h (fun h=>?_) fun h=>?_
 ·exact Wx
 ·refine Vg 4 ?_;refine VR [] [] 2 0 h t_sess_own_I1.k fun x4 _ h=>?_;refine Vg 10 ?_;refine Vk [1,2,1,1] (fun x6=>[(29,.bv x6)]) (O3 x1 x2 x4) r ?_ fun J1=>?_
  ·intro x6 h;rw [O3] at h;refine MI h (fun h=>?_) fun h=>?_
   ·exact Wx
   ·refine Vg 5 ?_;have ⟨x7,ex7,h⟩:=Bs h;refine C5 SE.row ex7 trivial rfl rfl rfl (Vg 3 ?_);refine AD fun all H=>Ds (GP H 7 8 [4,1,3,7] [(34,[.oel 0 (Int.toNat (0)*4) 0,.oel 0 (Int.toNat (0)*4) 0,.oel 0 (Int.toNat (0)*4) 0,.oel 0 (Int.toNat (0)*4) 3]),(1,[.oel 0 (Int.toNat (0)*4) 0,.oel 0 (Int.toNat (0)*4) 0,.oel 0 (Int.toNat (0)*4) 3])] (Ds ?_));refine Ao 4 8 rfl ?_ ?_
    ·refine RL ?_;refine RO ?_;refine RL ?_;refine R1 ?_;refine Gn H 1 4 ?_;refine R1 ?_;refine Gn H 2 1 ?_;refine B8 [.iv (max x7.Age (wr ((min x7.Age 4611686018427387903)+1)))] (SE.mk x7.ID x7.NE x7.SS (max x7.Age (wr ((min x7.Age 4611686018427387903)+1)))) ?_;exact Wx
    ·refine RL ?_;refine Ao 4 9 rfl ?_ ?_
     ·refine RL ?_;refine R1 ?_;refine Gn H 1 4 ?_;refine R1 ?_;refine Gn H 2 1 ?_;refine B8 [.iv (max x7.Age (wr ((min x7.Age 4611686018427387903)+1)))] (SE.mk x7.ID x7.NE x7.SS (max x7.Age (wr ((min x7.Age 4611686018427387903)+1)))) ?_;exact Wx
     ·refine RV ?_;refine Gn H 1 5 ?_;refine RO ?_;refine RL ?_;refine R1 ?_;refine Gn H 2 1 ?_;refine B8 [.iv (max x7.Age (wr ((min x7.Age 4611686018427387903)+1)))] (SE.mk x7.ID x7.NE x7.SS (max x7.Age (wr ((min x7.Age 4611686018427387903)+1)))) ?_;exact Wx
  ·exact Wx⟩
def SH (x1 x2:List Int):Option (List Int):=
 (Ob x1 ((fun z=>O7 z x2))).bind fun x3=>
 some x3
instance k_set_Both {x1 x2}:KP (SH x1 x2) 160 [Aj x1,Aj x2] (fun r=>(Aj r)):=⟨fun{r} h=>by have ok:=oJ 160 Tryz.f160 [.t 4] 2 6;refine FP ok fun w0 H0=>?_;rw [SH] at h;refine Vg 9 ?_;refine HY 0 rfl rfl ?_;exact Wx⟩
def Ii (x1:Graph) (x2:List Int):Bool→Option Bool
| x5=>
 A0 x5 (
 some false) (
 (Oe x1.Edges ((fun z=>PV z x2))).bind fun x6=>
 some (!x6))
def PT (x1:Graph) (x2:List Int):Option Bool:=
 (Hq x1).bind fun x3=>
 A0 (!decide (x3=0)) (
 (Ii x1 x2) true) (
 A0 (!decide ((ln Am x2)=x1.N)) (
 (Ii x1 x2) true) (
 (Fh x2 ((fun z=>PU z))).bind fun x4=>
 (Ii x1 x2) x4))
instance k_colour_Right {x1 x2}:KP (PT x1 x2) 148 [.agg (Graph.row x1),Aj x2] (fun r=>(.bv r)):=⟨fun{r} h=>by
 have ok:=oJ 148 Tryz.f148 [.t 4] 2 22;refine FP ok fun w0 H0=>?_;rw [PT] at h;refine Vg 10 ?_;refine VB h k_graph_Check.k fun _ _ h=>?_;refine Vg 2 ?_;refine Vk [2,2] (fun x5=>[(18,.bv x5)]) (Ii x1 x2) r ?_ fun J1=>?_
 ·intro x5 h;rw [Ii] at h;exact Wx
 ·exact Wx⟩
def V7:List Int→Option (List Int)
| x23=>
 (Gb x23).bind fun x24=>
 some x24
def Jr (x10:Int):List Int→Option ((Int×List Int) ⊕ (List Int))
| x15=>some (.inl (wr (x10+1),x15))
def V8 (x1:Graph) (x2:Int):(Int×List Int)→Option ((Int×List Int) ⊕ (List Int))
| (x10,x11)=>
 A0 (decide (x10<(ln Edge.row x1.Edges))) (
 (Ac x1.Edges x10).bind fun x12=>
 A0 (decide (x2=x12.A)) (
 (AE 8 x11 ([x12.B])).bind fun x13=>
 (Jr x10) x13) (
 A0 (decide (x2=x12.B)) (
 (AE 8 x11 ([x12.A])).bind fun x14=>
 (Jr x10) x14) (
 (Jr x10) x11))) (
 Option.map Sum.inr (V7 x11))
def Il (x1:Graph) (x2:Int):Option (List Int):=
 (Hq x1).bind fun x3=>
 A0 (!decide (x3=0)) (
 some (([]:List Int))) (
 loop (V8 x1 x2) (0,([]:List Int)))
theorem tu {x1 x2 r} (h:Il x1 x2=some r):FOx 21 [.agg (Graph.row x1),.iv x2] 3 1 (List.map Am r):=by
 have ok:=oJ 21 Tryz.f21 [.t 4] 2 38;refine EX ok rfl fun w0 H0=>?_;have A1:AJ [.r 2 0]:=trivial;rw [Il] at h;refine Vg 9 ?_;refine VB h k_graph_Check.k fun _ _ h=>?_;refine Vg 2 ?_;refine MI h (fun h=>?_) fun h=>?_
 ·refine Vg 4 ?_;(refine Wj [.t 4 3 1] ?_);exact De Am ok h rfl rfl
 ·refine Vg 13 ?_;refine Vl [] (fun x23=>([(5,.osl 0)],[],[Ae x23])) V7 r ?_ fun J1=>?_
  ·intro x23 h;rw [V7] at h;refine Vg 3 ?_;(refine Wj [.s 0] ?_);have ⟨x24,ex24,h⟩:=Bs h;refine F1 trivial (Tv ex24) (h:=?_);refine Vg 2 ?_;exact De Am ok h rfl rfl
  ·refine Vg 1 ?_;(refine Wj [.t 5 3 1] ?_);refine Ml h [1,1,3,1,6,2] (fun s=>([(14,.iv s.1)],[],[Ae s.2])) ?_;rintro n1 ⟨x10,x11⟩ y1 h hin1 hout1;rw [V8] at h;refine Vg 5 ?_;refine MI h (fun h=>?_) fun h=>?_
   ·refine Vg 5 ?_;have ⟨x12,ex12,h⟩:=Bs h;refine Dt Edge.row ex12 trivial rfl rfl rfl (Vg 16 ?_);refine Vl [1,1,3,1,6,3] (fun x15=>([],[],[Ae x15])) (Jr x10) y1 ?_ fun J2=>?_
    ·intro x15 h;rw [Jr] at h;exact Wx
    ·exact Wx
   ·exact Wx
theorem PA {x1 x2 r} (h:Il x1 x2=some r):FPx 21 [.agg (Graph.row x1),.iv x2] (Aj r):=(tu h).sealed
instance {x1 x2}:KP (Il x1 x2) 21 [.agg (Graph.row x1),.iv x2] (fun r=>(Aj r)):=⟨fun h=>PA h⟩
def QW:Bool→Option Bool
| x7=>some x7
def Im (x1:Model) (x2:Int) (x3:Int):Option Bool:=
 (Hu x1 x2).bind fun x4=>
 A0 x4 (
 (Ac x1.Places x2).bind fun x5=>
 (Lf x5.BK.SE ((fun z=>QU z x3))).bind fun x6=>
 QW x6) (
 QW false)
instance k_model_uses {x1 x2 x3}:KP (Im x1 x2 x3) 32 [.agg (Model.row x1),.iv x2,.iv x3] (fun r=>(.bv r)):=⟨fun{r} h=>by
 have ok:=oJ 32 Tryz.f32 [.t 6] 3 18;refine FP ok fun w0 H0=>?_;rw [Im] at h;refine Vg 10 ?_;refine VB h k_model_there.k fun _ _ h=>?_;refine Vg 1 ?_;refine Vl [] (fun x7=>([(6,.bv x7)],[],[])) QW r ?_ fun J1=>?_
 ·intro x7 h;rw [QW] at h;exact Wx
 ·exact Wx⟩
def ah:Unit→Option Int
| ()=>some 0
def KB (x8:Int):Bool→Option (Int ⊕ Int)
| x13=>
 A0 x13 (
 Option.map Sum.inr (some 200)) (
 some (.inl (wr (x8+1))))
def QF (x1:Model):Int→Option (Int ⊕ Int)
| x8=>
 A0 (decide (x8<(ln Place.row x1.Places))) (
 (Ac x1.Places x8).bind fun x9=>
 (GT x9.BK).bind fun x10=>
 A0 (!decide (x10=0)) (
 (KB x8) true) (
 (HF x9.Live).bind fun x11=>
 A0 (!x11) (
 (KB x8) true) (
 (Fh x9.Live ((fun z=>QD z x1 x8))).bind fun x12=>
 (KB x8) x12))) (
 Option.map Sum.inr (ah ()))
def N5 (x1:Model):Option Int:=
 A0 (decide (64<(ln Place.row x1.Places))) (
 some 200) (
 loop (QF x1) 0)
instance k_model_Check {x1}:KP (N5 x1) 17 [.agg (Model.row x1)] (fun r=>(.iv r)):=⟨fun{r} h=>by
 have ok:=oJ 17 Tryz.f17 [.t 2] 1 35;refine FP ok fun w0 H0=>?_;rw [N5] at h;refine Vg 13 ?_;refine MI h (fun h=>?_) fun h=>?_
 ·exact Wx
 ·refine Vg 9 ?_;refine Vl [] (fun _=>([],[],[])) ah r ?_ fun J1=>?_
  ·rintro ⟨⟩ h;rw [ah] at h;exact Wx
  ·refine Vg 1 ?_;refine Mk h [1,1,9,2] (fun x8=>[(13,.iv x8)]) ?_;rintro n1 x8 y1 h hin1 hout1;rw [QF] at h;refine Vg 5 ?_;refine MI h (fun h=>?_) fun h=>?_
   ·refine Vg 6 ?_;have ⟨x9,ex9,h⟩:=Bs h;refine Dt Place.row ex9 trivial rfl rfl rfl (Vg 15 ?_);refine VB h k_sess_Check.k fun _ _ h=>?_;refine Vg 2 ?_;refine Vl [1,1,9,3] (fun x13=>([(34,.bv x13)],[some ⟨30,[C0 x1.Places]⟩],[])) (KB x8) y1 ?_ fun J2=>?_
    ·intro x13 h;rw [KB] at h;exact Wx
    ·exact Wx
   ·exact Wx⟩
def N6 (x1 x2:Model):Option Bool:=
 (T6 x1.Places x2.Places ((fun z=>KD z.1 z.2))).bind fun x3=>
 some x3
instance k_model_Same {x1 x2}:KP (N6 x1 x2) 18 [.agg (Model.row x1),.agg (Model.row x2)] (fun r=>(.bv r)):=⟨fun{r} h=>by have ok:=oJ 18 Tryz.f18 [.t 4] 2 8;refine FP ok fun w0 H0=>?_;rw [N6] at h;exact Wx⟩
def O8 (x1:List Int) (x2:Int):Option (List Int):=
 (O9 x1 ([x2])).bind fun x3=>
 some x3
instance k_set_Del {x1 x2}:KP (O8 x1 x2) 56 [Aj x1,.iv x2] (fun r=>(Aj r)):=⟨fun{r} h=>by have ok:=oJ 56 Tryz.f56 [.t 4] 2 7;refine FP ok fun w0 H0=>?_;have A1:AJ [.s 0]:=trivial;rw [O8] at h;refine Vg 9 ?_;(refine Wj [.s 0] ?_);refine VB h k_set_Minus.k fun _ _ h=>?_;exact Wx⟩
def HG (x1 x2:List Int):Option Bool:=
 (O9 x1 x2).bind fun x3=>
 some (decide ((ln Am x3)=0))
instance k_set_Within {x1 x2}:KP (HG x1 x2) 31 [Aj x1,Aj x2] (fun r=>(.bv r)):=⟨fun{r} h=>by have ok:=oJ 31 Tryz.f31 [.t 4] 2 8;refine FP ok fun w0 H0=>?_;rw [HG] at h;exact Wx⟩
def L8 (x1:BK) (x2:Int):Int→Option (BK×Int)
| x6=>
 A0 (!decide (x6=0)) (
 some ((BK.mk 0 (([]:List SE))),x6)) (
 (Iv x1).bind fun x7=>
 (O5 (BK.mk x1.LA x7) x2).bind fun x8=>
 (Lh x8 (wr (x8+1)) x7).bind fun x11=>
 some ((BK.mk x1.LA x11),0))
def L7 (x1:BK) (x2:Int) (x4:(Int×Int)):Bool→Option (BK×Int)
| x5=>
 A0 x5 (
 (L8 x1 x2) 175) (
 (L8 x1 x2) x4.2)
def O4 (x1:BK) (x2:Int) (x3:Int):Option (BK×Int):=
 (WT x1 x2).bind fun x4=>
 A0 (decide (x4.2=0)) (
 (L7 x1 x2 x4) (!decide (x4.1=x3))) (
 (L7 x1 x2 x4) false)
instance k_sess_end {x1 x2 x3}:KP (O4 x1 x2 x3) 93 [.agg (BK.row x1),.iv x2,.iv x3] (fun r=>(.tup [.agg (BK.row r.1),.iv r.2])):=⟨fun{r} h=>by
 have ok:=oJ 93 Tryz.f93 [.c 6 (some 2),.t 7] 3 38;refine FP ok fun w0 H0=>?_;have A1:AJ [.s 1]:=trivial;rw [O4] at h;refine Vg 10 ?_;refine VB h k_sess_Poll.k fun x4 _ h=>?_;refine Vg 12 ?_;refine Vk [1,1,1,1,2,1,2,1] (fun x5=>[(22,.bv x5)]) (L7 x1 x2 x4) r ?_ fun J1=>?_
 ·intro x5 h;rw [L7] at h;refine Vk [1,1,1,1,2,1] (fun x6=>[(9,.iv x6)]) (L8 x1 x2) r ?_ fun J2=>?_
  ·intro x6 h;rw [L8] at h;exact Wx
  ·exact Wx
 ·exact Wx⟩
@[go_sem] def pD:EC:=eQ Tryz.f200
theorem iD:FnOK Tryz.prog 200 Tryz.f200 pD [.c 6 (some 3),.t 7] 3 66:=AP
@[go_sem] def pR:EC:=eQ Tryz.f225
theorem iO:FnOK Tryz.prog 225 Tryz.f225 pR [.c 2 (some 3),.t 3,.t 4] 1 111:=AP
def Qd:Bool→Option Int
| x7=>
 A0 x7 (
 some 150) (
 some 0)
def MH (x1:DK):Bool→Option Int
| x5=>
 A0 x5 (
 Qd x5) (
 (Fh x1.NE ((fun z=>ME z x1))).bind fun x6=>
 Qd x6)
def MF (x1:DK):Bool→Option Int
| x3=>
 A0 x3 (
 some 150) (
 (HF x1.NE).bind fun x4=>
 A0 (!x4) (
 Qd (!x4)) (
 A0 (decide (x1.TH=0)) (
 (MH x1) (decide (0<(ln Am x1.NE)))) (
 (MH x1) false)))
def Jn (x1:DK):Option Int:=
 (Kv x1.DI).bind fun x2=>
 A0 (!decide (x2=0)) (
 (MF x1) (!decide (x2=0))) (
 A0 (decide (x1.TH<0)) (
 (MF x1) (decide (x1.TH<0))) (
 (MF x1) (decide (2<x1.TH))))
instance k_drink_Check {x1}:KP (Jn x1) 104 [.agg (DK.row x1)] (fun r=>(.iv r)):=⟨fun{r} h=>by
 have ok:=oJ 104 Tryz.f104 [.t 2] 1 33;refine FP ok fun w0 H0=>?_;rw [Jn] at h;refine Vg 17 ?_;refine VB h k_dine_Check.k fun _ _ h=>?_;refine Vg 3 ?_;refine Vk [1,1,1,1] (fun x3=>[(5,.bv x3)]) (MF x1) r ?_ fun J1=>?_
 ·intro x3 h;rw [MF] at h;refine MI h (fun h=>?_) fun h=>?_
  ·exact Wx
  ·refine Vg 5 ?_;refine VB h k_set_Valid.k fun _ _ h=>?_;refine Vg 3 ?_;refine Vl [] (fun x7=>([(16,.bv x7)],[],[])) Qd r ?_ fun J2=>?_
   ·intro x7 h;rw [Qd] at h;exact Wx
   ·refine MI h (fun h=>?_) fun h=>?_
    ·exact Wx
    ·refine Vg 6 ?_;refine Vk [1,1,1,1] (fun x5=>[(16,.bv x5)]) (MH x1) r ?_ fun J3=>?_
     ·intro x5 h;rw [MH] at h;exact Wx
     ·exact Wx
 ·exact Wx⟩
def aU:List Int→Option (Int×List Int)
| x18=>some ((-1),x18)
def Th (x1:Int) (x2:List SE):(Int×List Int)→Option ((Int×List Int) ⊕ (Int×List Int))
| (x7,x8)=>
 A0 (decide (x7<(ln SE.row x2))) (
 (Ac x2 x7).bind fun x9=>
 (NY x9 x1 x8).bind fun x10=>
 A0 x10.1 (
 Option.map Sum.inr (some (x7,x10.2))) (
 some (.inl (wr (x7+1),x10.2)))) (
 Option.map Sum.inr (aU x8))
def Tg (x1:Int) (x2:List SE):Option (Int×List Int):=loop (Th x1 x2) (0,([]:List Int))
instance t_slices_IndexFunc_Sess_I1 {x1 x2}:KT (Tg x1 x2) 97 [.osl 0,.clo 202 [.ptr 0 0,.ptr 1 0]] [some ⟨3,[.iv x1]⟩,some ⟨45,[.nl]⟩] [B4 x2] (fun r=>(.iv r.1)) (fun _=>[some ⟨3,[.iv x1]⟩,some ⟨45,[.osl 1]⟩]) (fun r=>[B4 x2,Ae r.2]):=⟨fun{r} h=>by
 refine Ft XZ fun w0 M0=>?_;have ok:=XZ;have A1:AJ [.r 3 1]:=trivial;rw [Tg] at h;refine Vg 11 ?_;refine Vl [] (fun x18=>([],[some ⟨3,[.iv x1]⟩,some ⟨45,[.osl 1]⟩],[B4 x2,Ae x18])) aU r ?_ fun J1=>?_
 ·intro x18 h;rw [aU] at h;exact Wx
 ·refine Vg 1 ?_;(refine Wj [.o 1 0 3 1] ?_);refine Mm h [0,2,5,1] (fun s=>([(8,.iv s.1)],[],[],[(1,Ae s.2)])) ?_;rintro n1 ⟨x7,x8⟩ y1 h hin1 hout1;rw [Th] at h;refine Vg 5 ?_;refine MI h (fun h=>?_) fun h=>?_
  ·refine Vg 13 ?_;have ⟨x9,ex9,h⟩:=Bs h;refine C5 SE.row ex9 trivial rfl rfl rfl (H9 SE.row ex9 trivial rfl rfl rfl ?_);have ⟨x10,ex10,h⟩:=Bs h;refine H8 [true,true] [false,true] trivial rfl (EY [0,1] [1] 2 2 (t_sess_Gone_1_I2.k ex10)) (by kernel_rfl) (h:=?_);exact Wx
  ·exact Wx⟩
@[go_sem] def oX:EC:=eQ Tryz.f126
theorem XP:FnOK Tryz.prog 126 Tryz.f126 oX [] 2 40:=AP
@[go_sem] def pJ:EC:=eQ Tryz.f207
theorem iJ:FnOK Tryz.prog 207 Tryz.f207 pJ [] 1 44:=AP
def Wn (x2:Int) (x16:(Int×Bool)):List KE→Option (List KE)
| x18=>
 (Ac x18 x16.1).bind fun x19=>
 some (x18.set (Int.toNat (x16.1)) (KE.mk x19.PE x2))
def aF (x1 x2:Int) (_x3 _x4:Int) (_x5 _x6:Int) (_x7:List SE) (_x8:List Int) (_x9:Int) (_x10:List SX) (_x11:List Int) (x12 _x13:List KE) (_x14:List ML) (_x15:List EV):Option (List KE):=
 (La x12 x1 ((fun z=>Hy z.1 z.2))).bind fun x16=>
 A0 (!x16.2) (
 (Lj x12 x16.1 ([KE.mk x1 0])).bind fun x17=>
 (Wn x2 x16) x17) (
 (Wn x2 x16) x12)
instance t_node_node_know_I2 {x1 x2 x3 x4 x5 x6 x7 x8 x9 x10 x11 x12 x13 x14 x15}:KT (aF x1 x2 x3 x4 x5 x6 x7 x8 x9 x10 x11 x12 x13 x14 x15) 181 [.ptr 0 0,.iv x1,.iv x2] [some ⟨191,[.iv x3,.iv x4,.osl 0,.iv x5,.osl 1,.iv x6,Aq x7,.osl 2,Aj x8,.osl 3,.osl 4,.osl 5,.iv x9]⟩] [Al x10,Ae x11,Ai x12,Ai x13,AG x14,Bk x15] (fun _=>(.tup [])) (fun _=>[some ⟨191,[.iv x3,.iv x4,.osl 0,.iv x5,.osl 1,.iv x6,Aq x7,.osl 7,Aj x8,.osl 3,.osl 4,.osl 5,.iv x9]⟩]) (fun r=>[Al x10,Ae x11,none,Ai x13,AG x14,Bk x15,none,Ai r]):=⟨fun{r} h=>by
 refine Ft XV fun w0 M0=>?_;have ok:=XV;have A1:AJ [.w 147 2,.w 147 2,.r 2 7]:=trivial;rw [aF] at h;refine Vg 8 ?_;refine VN (LR.slice 2 rfl) h k_slices_BinarySearchFunc_Known_int.k fun x16 _ h=>?_;refine Vg 12 ?_;refine Vl [0,1,1,1,3,1] (fun x18=>([],[some ⟨191,[.iv x3,.iv x4,.osl 0,.iv x5,.osl 1,.iv x6,Aq x7,.osl 7,Aj x8,.osl 3,.osl 4,.osl 5,.iv x9]⟩],[Al x10,Ae x11,none,Ai x13,AG x14,Bk x15,none,Ai x18])) (Wn x2 x16) r ?_ fun J1=>?_
 ·intro x18 h;rw [Wn] at h;refine Vg 8 ?_;have ⟨x19,ex19,h⟩:=Bs h;refine C5 KE.row ex19 trivial rfl rfl rfl (Vg 1 ?_);refine Du [.iv x2] KE.row (y':=(KE.mk x19.PE x2)) ex19 trivial rfl rfl rfl (by first | exact AA _ | simp [go_sem]) rfl rfl rfl rfl ?_;exact Wx
 ·exact Wx⟩
end
end NX
end Go.Proofs.YtgnjledocpbchaaGreat
