/-
  The function slices.BinarySearchFunc[[]narthex/api.Side,narthex/api.Side,int]: its code compiled, a model, and that the code answers as the model. Written by a program of ours (lb.py). No statement of the seat is proved here.
-/
import Derived.Test.YtgnjledocpbchaaGreatM5
set_option maxRecDepth 100000
set_option maxHeartbeats 40000000
namespace Go.Proofs.YtgnjledocpbchaaGreat
namespace NX
open Go
noncomputable section
@[go_sem] def pp:EC:=eQ Tryz.f178
theorem iA:FnOK Tryz.prog 178 Tryz.f178 pp [.t 6,.t 7] 3 46:=AP
def SO (x23:Int):Bool→Option (Int×Bool)
| x26=>some (x23,x26)
def SM (x1:List SX) (x2:Int) (p2:((SX×Int)→Option Int)):Int→Option (Int×Bool)
| x23=>
 A0 (decide (x23<(ln SX.row x1))) (
 (Ac x1 x23).bind fun x24=>
 (p2 (x24,x2)).bind fun x25=>
 (SO x23) (decide (x25=0))) (
 (SO x23) false)
def WW (x1:List SX) (x2:Int) (p2:((SX×Int)→Option Int)):(Int×Int)→Option ((Int×Int) ⊕ (Int×Bool))
| (x7,x8)=>
 A0 (decide (x7<x8)) (
 (Ac x1 (wr (Int.fdiv (kw .u64 (wr (x7+x8))) (2 ^ min (Int.toNat 1) (IntKind.bits .u64))))).bind fun x9=>
 (p2 (x9,x2)).bind fun x10=>
 A0 (decide (x10<0)) (
 some (.inl (wr ((wr (Int.fdiv (kw .u64 (wr (x7+x8))) (2 ^ min (Int.toNat 1) (IntKind.bits .u64))))+1),x8))) (
 some (.inl (x7,wr (Int.fdiv (kw .u64 (wr (x7+x8))) (2 ^ min (Int.toNat 1) (IntKind.bits .u64))))))) (
 Option.map Sum.inr ((SM x1 x2 p2) x7))
def Lb (x1:List SX) (x2:Int) (p2:((SX×Int)→Option Int)):Option (Int×Bool):=loop (WW x1 x2 p2) (0,ln SX.row x1)
instance k_slices_BinarySearchFunc_Side_int {x1 x2 g2 caps2 p2} [ic2:KC p2 g2 caps2 (fun z=>[.agg (SX.row z.1),.iv z.2]) (fun z=>.iv z)]:KP (Lb x1 x2 p2) 178 [CV x1,.iv x2,.clo g2 caps2] (fun r=>(.tup [.iv r.1,.bv r.2])):=⟨fun{r} h=>by
 have hc2:=ic2.k;refine FP iA fun w0 H0=>?_;have ok:=iA;rw [Lb] at h;refine Vg 18 ?_;refine Vk [0,3,5,1] (fun x23=>[(9,.iv x23)]) (SM x1 x2 p2) r ?_ fun J1=>?_
 ·intro x23 h;rw [SM] at h;refine Vg 7 ?_;refine Vk [] (fun x26=>[(6,.iv x23),(7,.bv x26)]) (SO x23) r ?_ fun J2=>?_
  ·intro x26 h;rw [SO] at h;exact Wx
  ·exact Wx
 ·refine Vg 1 ?_;refine Mk h [0,3,5,1] (fun s=>[(9,.iv s.1),(10,.iv s.2)]) ?_ (hok:=by rintro ⟨x7,x8⟩;first | rfl | (simp [go_sem];done) | simp [go_sem,C2 _ hc2.pu]);rintro n1 ⟨x7,x8⟩ y1 h hin1 hout1;rw [WW] at h;refine Vg 7 ?_;refine MI h (fun h=>?_) fun h=>?_
  ·exact Wx
  ·refine Vg 1 ?_;exact Eh J1 (CU h hout1) (hok:=by first | rfl | simp [go_sem,C2 _ hc2.pu])⟩
def HD (x1:SX) (x2:Int):Option Int:=some (wr (x1.PE-x2))
instance k_node_node_put_1 {x1 x2}:KP (HD x1 x2) 179 [.agg (SX.row x1),.iv x2] (fun r=>(.iv r)):=⟨fun{r} h=>by have ok:=oJ 179 Tryz.f179 [.t 4] 2 7;refine FP ok fun w0 H0=>?_;rw [HD] at h;exact Wx⟩
instance :KC (fun z:SX×Int=>HD z.1 z.2) 179 [] (fun z=>[.agg (SX.row z.1),.iv z.2]) (fun z=>(.iv z)):=⟨⟨by kernel_rfl,rfl,fun z r hz=>k_node_node_put_1.k hz⟩⟩
@[go_sem] def pN:EC:=eQ Tryz.f213
theorem iL:FnOK Tryz.prog 213 Tryz.f213 pN [.t 6,.t 7] 3 46:=AP
def SL (x23:Int):Bool→Option (Int×Bool)
| x26=>some (x23,x26)
def SK (x1:List KE) (x2:Int) (p2:((KE×Int)→Option Int)):Int→Option (Int×Bool)
| x23=>
 A0 (decide (x23<(ln KE.row x1))) (
 (Ac x1 x23).bind fun x24=>
 (p2 (x24,x2)).bind fun x25=>
 (SL x23) (decide (x25=0))) (
 (SL x23) false)
def WV (x1:List KE) (x2:Int) (p2:((KE×Int)→Option Int)):(Int×Int)→Option ((Int×Int) ⊕ (Int×Bool))
| (x7,x8)=>
 A0 (decide (x7<x8)) (
 (Ac x1 (wr (Int.fdiv (kw .u64 (wr (x7+x8))) (2 ^ min (Int.toNat 1) (IntKind.bits .u64))))).bind fun x9=>
 (p2 (x9,x2)).bind fun x10=>
 A0 (decide (x10<0)) (
 some (.inl (wr ((wr (Int.fdiv (kw .u64 (wr (x7+x8))) (2 ^ min (Int.toNat 1) (IntKind.bits .u64))))+1),x8))) (
 some (.inl (x7,wr (Int.fdiv (kw .u64 (wr (x7+x8))) (2 ^ min (Int.toNat 1) (IntKind.bits .u64))))))) (
 Option.map Sum.inr ((SK x1 x2 p2) x7))
def La (x1:List KE) (x2:Int) (p2:((KE×Int)→Option Int)):Option (Int×Bool):=loop (WV x1 x2 p2) (0,ln KE.row x1)
instance k_slices_BinarySearchFunc_Known_int {x1 x2 g2 caps2 p2} [ic2:KC p2 g2 caps2 (fun z=>[.agg (KE.row z.1),.iv z.2]) (fun z=>.iv z)]:KP (La x1 x2 p2) 213 [Bf x1,.iv x2,.clo g2 caps2] (fun r=>(.tup [.iv r.1,.bv r.2])):=⟨fun{r} h=>by
 have hc2:=ic2.k;refine FP iL fun w0 H0=>?_;have ok:=iL;rw [La] at h;refine Vg 18 ?_;refine Vk [0,3,5,1] (fun x23=>[(9,.iv x23)]) (SK x1 x2 p2) r ?_ fun J1=>?_
 ·intro x23 h;rw [SK] at h;refine Vg 7 ?_;refine Vk [] (fun x26=>[(6,.iv x23),(7,.bv x26)]) (SL x23) r ?_ fun J2=>?_
  ·intro x26 h;rw [SL] at h;exact Wx
  ·exact Wx
 ·refine Vg 1 ?_;refine Mk h [0,3,5,1] (fun s=>[(9,.iv s.1),(10,.iv s.2)]) ?_ (hok:=by rintro ⟨x7,x8⟩;first | rfl | (simp [go_sem];done) | simp [go_sem,C2 _ hc2.pu]);rintro n1 ⟨x7,x8⟩ y1 h hin1 hout1;rw [WV] at h;refine Vg 7 ?_;refine MI h (fun h=>?_) fun h=>?_
  ·exact Wx
  ·refine Vg 1 ?_;exact Eh J1 (CU h hout1) (hok:=by first | rfl | simp [go_sem,C2 _ hc2.pu])⟩
def Hy (x1:KE) (x2:Int):Option Int:=some (wr (x1.PE-x2))
instance k_node_node_know_1 {x1 x2}:KP (Hy x1 x2) 214 [.agg (KE.row x1),.iv x2] (fun r=>(.iv r)):=⟨fun{r} h=>by have ok:=oJ 214 Tryz.f214 [.t 4] 2 7;refine FP ok fun w0 H0=>?_;rw [Hy] at h;exact Wx⟩
instance :KC (fun z:KE×Int=>Hy z.1 z.2) 214 [] (fun z=>[.agg (KE.row z.1),.iv z.2]) (fun z=>(.iv z)):=⟨⟨by kernel_rfl,rfl,fun z r hz=>k_node_node_know_1.k hz⟩⟩
@[go_sem] def pP:EC:=eQ Tryz.f218
theorem iM:FnOK Tryz.prog 218 Tryz.f218 pP [] 3 26:=AP
def Ir (x1:SX):Option Bool:=some (decide (x1.SS=1))
instance k_node_opening {x1}:KP (Ir x1) 196 [.agg (SX.row x1)] (fun r=>(.bv r)):=⟨fun{r} h=>by have ok:=oJ 196 Tryz.f196 [.t 2] 1 5;refine FP ok fun w0 H0=>?_;rw [Ir] at h;exact Wx⟩
instance :KC (fun z=>Ir z) 196 [] (fun z=>[.agg (SX.row z)]) (fun z=>(.bv z)):=⟨⟨by kernel_rfl,rfl,fun z r hz=>k_node_opening.k hz⟩⟩
def KV (x1:SX) (x2:Int):Option Bool:=some (decide (x1.PE=x2))
instance k_node_node_drop_1 {x1 x2}:KP (KV x1 x2) 173 [.agg (SX.row x1),.elt (Am x2) 0] (fun r=>(.bv r)):=⟨fun{r} h=>by have ok:=oJ 173 Tryz.f173 [.t 3] 2 6;refine FP ok fun w0 H0=>?_;rw [KV] at h;exact Wx⟩
instance {x2}:KC (fun z=>KV z x2) 173 [.elt (Am x2) 0] (fun z=>[.agg (SX.row z)]) (fun z=>(.bv z)):=⟨⟨by kernel_rfl,rfl,fun z r hz=>k_node_node_drop_1.k hz⟩⟩
@[go_sem] def qb:EC:=eQ Tryz.f67
theorem iY:FnOK Tryz.prog 67 Tryz.f67 qb [.t 6] 3 29:=AP
def X7:Unit→Option Bool
| ()=>some true
def X8 (x1 x2:List SE) (p2:((SE×SE)→Option Bool)):Int→Option (Int ⊕ Bool)
| x7=>
 A0 (decide (x7<(ln SE.row x1))) (
 (Ac x1 x7).bind fun x8=>
 (Ac x2 x7).bind fun x9=>
 (p2 (x8,x9)).bind fun x10=>
 A0 (!x10) (
 Option.map Sum.inr (some false)) (
 some (.inl (wr (x7+1))))) (
 Option.map Sum.inr (X7 ()))
def T7 (x1 x2:List SE) (p2:((SE×SE)→Option Bool)):Option Bool:=
 A0 (!decide ((ln SE.row x1)=(ln SE.row x2))) (
 some false) (
 loop (X8 x1 x2 p2) 0)
instance k_slices_EqualFunc_Sess {x1 x2 g2 caps2 p2} [ic2:KC p2 g2 caps2 (fun z=>[.agg (SE.row z.1),.agg (SE.row z.2)]) (fun z=>.bv z)]:KP (T7 x1 x2 p2) 67 [Aq x1,Aq x2,.clo g2 caps2] (fun r=>(.bv r)):=⟨fun{r} h=>by
 have hc2:=ic2.k;refine FP iY fun w0 H0=>?_;have ok:=iY;rw [T7] at h;refine Vg 13 ?_;refine MI h (fun h=>?_) fun h=>?_
 ·exact Wx
 ·refine Vg 8 ?_;refine Vk [] (fun _=>[]) X7 r ?_ fun J1=>?_
  ·rintro ⟨⟩ h;rw [X7] at h;exact Wx
  ·refine Vg 1 ?_;refine Mk h [1,2,12,2] (fun x7=>[(17,.iv x7)]) ?_ (hok:=by intro x7;first | rfl | (simp [go_sem];done) | simp [go_sem,C2 _ hc2.pu]);rintro n1 x7 y1 h hin1 hout1;rw [X8] at h;refine Vg 5 ?_;refine MI h (fun h=>?_) fun h=>?_
   ·exact Wx
   ·refine Vg 1 ?_;exact Eh J1 (CU h hout1) (hok:=by first | rfl | simp [go_sem,C2 _ hc2.pu])⟩
@[go_sem] def pM:EC:=.seq (.reg [Qa 14 (.bin .lss (.t 13) (.t 12))]) (.seq (.ite (.t 14) (.skip) (.exit 0)) (.seq (.blk 1 (.seq (.reg [Qm 15 13,Qm 5 15]) (.seq (.drw [Qm 16 0,Qm 17 5,Qk 18 2 16 17,Qe 19 2 18,Qm 20 1,Qm 21 5,Qk 22 2 20 21,Qe 23 2 22,Qa 24 (.eqs true [true,true] (.t 19) (.t 23))] [[],[],[0,1],[2,0,1],[],[],[4,5],[6,4,5],[3,7,2,0,1,6,4,5]] [[2],[2],[0,1,3],[2,8],[6],[6],[4,5,7],[6,8],[3,7]]) (.ite (.t 24) (.seq (.reg [Qa 4 (.mv (.c .ff))]) (.ret)) (.skip))))) (.reg [Qv 25 13 1,Qm 13 25])))
@[go_sem] def pL:EC:=.seq (.reg [Qa 4 (.mv (.c .ff))]) (.seq (.seq (.reg [Qm 6 0,Qa 7 (.len (.t 6)),Qm 8 1,Qa 9 (.len (.t 8)),Qa 10 (.bin .neq (.t 7) (.t 9))]) (.ite (.t 10) (.seq (.reg [Qa 4 (.mv (.c .ff))]) (.ret)) (.skip))) (.seq (.seq (.reg [Qm 11 0,Qa 12 (.len (.t 11)),Qi 13 0]) (.blk 0 (.loop pM))) (.seq (.reg [Qa 4 (.mv (.c .tt))]) (.ret))))
def X9:Unit→Option Bool
| ()=>some true
def Xa (x1 x2:List KE):Int→Option (Int ⊕ Bool)
| x6=>
 A0 (decide (x6<(ln KE.row x1))) (
 (Ac x1 x6).bind fun x7=>
 (Ac x2 x6).bind fun x8=>
 A0 (!(decide (x7.PE=x8.PE)&&(decide (x7.EP=x8.EP)&&true))) (
 Option.map Sum.inr (some false)) (
 some (.inl (wr (x6+1))))) (
 Option.map Sum.inr (X9 ()))
def Ol (x1 x2:List KE):Option Bool:=
 A0 (!decide ((ln KE.row x1)=(ln KE.row x2))) (
 some false) (
 loop (Xa x1 x2) 0)
instance k_slices_Equal_Known {x1 x2}:KP (Ol x1 x2) 210 [Bf x1,Bf x2] (fun r=>(.bv r)):=⟨fun{r} h=>by
 have ok:=oK 210 Tryz.f210 pL [.t 4] 2 24;refine FP ok fun w0 H0=>?_;rw [Ol] at h;refine Vg 13 ?_;refine MI h (fun h=>?_) fun h=>?_
 ·exact Wx
 ·refine Vg 8 ?_;refine Vk [] (fun _=>[]) X9 r ?_ fun J1=>?_
  ·rintro ⟨⟩ h;rw [X9] at h;exact Wx
  ·refine Vg 1 ?_;refine Mk h [0,2,10,1] (fun x6=>[(13,.iv x6)]) ?_;rintro n1 x6 y1 h hin1 hout1;rw [Xa] at h;exact Wx⟩
@[go_sem] def pd:EC:=eQ Tryz.f161
theorem XS:FnOK Tryz.prog 161 Tryz.f161 pd [.t 4] 2 25:=AP
def aM:List Int→Option (List Int)
| x20=>some x20
def NR (x8:Int):List Int→Option ((Int×List Int) ⊕ (List Int))
| x13=>some (.inl (wr (x8+1),x13))
def WR (x1:NO) (p1:(SX→Option Bool)):(Int×List Int)→Option ((Int×List Int) ⊕ (List Int))
| (x8,x9)=>
 A0 (decide (x8<(ln SX.row x1.DK.DI.SD))) (
 (Ac x1.DK.DI.SD x8).bind fun x10=>
 (p1 x10).bind fun x11=>
 A0 x11 (
 (AE 8 x9 ([x10.PE])).bind fun x12=>
 (NR x8) x12) (
 (NR x8) x9)) (
 Option.map Sum.inr (aM x9))
def L4 (x1:NO) (p1:(SX→Option Bool)):Option (List Int):=loop (WR x1 p1) (0,([]:List Int))
instance k_node_peers {x1 g1 caps1 p1} [ic1:KC p1 g1 caps1 (fun z=>[.agg (SX.row z)]) (fun z=>.bv z)]:KP (L4 x1 p1) 161 [.agg (NO.row x1),.clo g1 caps1] (fun r=>(Aj r)):=⟨fun{r} h=>by
 have hc1:=ic1.k;refine FP XS fun w0 H0=>?_;have ok:=XS;have A2:AJ [.r 2 0]:=trivial;have A1:AJ [.s 0]:=trivial;rw [L4] at h;refine Vg 19 ?_;refine Vl [] (fun x20=>([(5,.osl 0)],[],[Ae x20])) aM r ?_ fun J1=>?_
 ·intro x20 h;rw [aM] at h;exact Wx
 ·refine Vg 1 ?_;(refine Wj [.t 5 3 1] ?_);refine Ml h [1,1,3,1,5,2] (fun s=>([(13,.iv s.1)],[],[Ae s.2])) ?_ (hok:=by rintro ⟨x8,x9⟩;first | rfl | (simp [go_sem];done) | simp [go_sem,C2 _ hc1.pu]);rintro n1 ⟨x8,x9⟩ y1 h hin1 hout1;rw [WR] at h;refine Vg 5 ?_;refine MI h (fun h=>?_) fun h=>?_
  ·refine Vg 5 ?_;have ⟨x10,ex10,h⟩:=Bs h;refine Dt SX.row ex10 trivial rfl rfl rfl (Vg 8 ?_);have ⟨x11,ex11,h⟩:=Bs h;refine U8 trivial rfl hc1 (x:=x10) ex11 (by first | exact AA _ | simp [go_sem]) (by first | rfl | simp [go_sem,hc1.pu]) (Vg 1 ?_);refine Vl [1,1,3,1,5,3] (fun x13=>([],[],[Ae x13])) (NR x8) y1 ?_ fun J2=>?_
   ·intro x13 h;rw [NR] at h;exact Wx
   ·exact Wx
  ·refine Vg 1 ?_;exact Eh J1 (CU h hout1) (hok:=by first | rfl | simp [go_sem])⟩
def Hx (x1:SX):Option Bool:=some (decide (x1.SS=0))
instance k_node_live {x1}:KP (Hx x1) 127 [.agg (SX.row x1)] (fun r=>(.bv r)):=⟨fun{r} h=>by have ok:=oJ 127 Tryz.f127 [.t 2] 1 5;refine FP ok fun w0 H0=>?_;rw [Hx] at h;exact Wx⟩
instance :KC (fun z=>Hx z) 127 [] (fun z=>[.agg (SX.row z)]) (fun z=>(.bv z)):=⟨⟨by kernel_rfl,rfl,fun z r hz=>k_node_live.k hz⟩⟩
@[go_sem] def p8:EC:=eQ Tryz.f154
theorem iq:FnOK Tryz.prog 154 Tryz.f154 p8 [.t 3] 2 26:=AP
def aD:Unit→Option Int
| ()=>some 0
def Wl (x1:NO) (x2:Int):Int→Option (Int ⊕ Int)
| x5=>
 A0 (decide (x5<(ln KE.row x1.KN))) (
 (Ac x1.KN x5).bind fun x6=>
 A0 (decide (x6.PE=x2)) (
 Option.map Sum.inr (some x6.EP)) (
 some (.inl (wr (x5+1))))) (
 Option.map Sum.inr (aD ()))
def KS (x1:NO) (x2:Int):Option Int:=loop (Wl x1 x2) 0
instance k_node_epoch {x1 x2}:KP (KS x1 x2) 124 [.agg (NO.row x1),.iv x2] (fun r=>(.iv r)):=⟨fun{r} h=>by
 have ok:=oJ 124 Tryz.f124 [.t 4] 2 19;refine FP ok fun w0 H0=>?_;rw [KS] at h;refine Vg 13 ?_;refine Vl [] (fun _=>([],[],[])) aD r ?_ fun J1=>?_
 ·rintro ⟨⟩ h;rw [aD] at h;exact Wx
 ·refine Vg 1 ?_;refine Ml h [1,1,6,2] (fun x5=>([(10,.iv x5)],[],[])) ?_;rintro n1 x5 y1 h hin1 hout1;rw [Wl] at h;exact Wx⟩
def RM (x1:SX) (x2:KE):Option Bool:=some (decide (x1.PE=x2.PE))
instance k_node_may_1 {x1 x2}:KP (RM x1 x2) 167 [.agg (SX.row x1),.elt (KE.row x2) 0] (fun r=>(.bv r)):=⟨fun{r} h=>by have ok:=oJ 167 Tryz.f167 [.t 3] 2 7;refine FP ok fun w0 H0=>?_;rw [RM] at h;exact Wx⟩
instance {x2}:KC (fun z=>RM z x2) 167 [.elt (KE.row x2) 0] (fun z=>[.agg (SX.row z)]) (fun z=>(.bv z)):=⟨⟨by kernel_rfl,rfl,fun z r hz=>k_node_may_1.k hz⟩⟩
def Rt (x1 x2:KE):Option Bool:=some (decide (x1.PE=x2.PE))
instance k_node_distinct_1 {x1 x2}:KP (Rt x1 x2) 168 [.agg (KE.row x1),.elt (KE.row x2) 0] (fun r=>(.bv r)):=⟨fun{r} h=>by have ok:=oJ 168 Tryz.f168 [.t 3] 2 7;refine FP ok fun w0 H0=>?_;rw [Rt] at h;exact Wx⟩
instance {x2}:KC (fun z=>Rt z x2) 168 [.elt (KE.row x2) 0] (fun z=>[.agg (KE.row z)]) (fun z=>(.bv z)):=⟨⟨by kernel_rfl,rfl,fun z r hz=>k_node_distinct_1.k hz⟩⟩
def Sk (x1:SX):Option Bool:=some (decide (x1.SS=3))
instance k_node_thirst_1 {x1}:KP (Sk x1) 159 [.agg (SX.row x1)] (fun r=>(.bv r)):=⟨fun{r} h=>by have ok:=oJ 159 Tryz.f159 [.t 2] 1 5;refine FP ok fun w0 H0=>?_;rw [Sk] at h;exact Wx⟩
instance :KC (fun z=>Sk z) 159 [] (fun z=>[.agg (SX.row z)]) (fun z=>(.bv z)):=⟨⟨by kernel_rfl,rfl,fun z r hz=>k_node_thirst_1.k hz⟩⟩
def Qh:Bool→Option Bool
| x4=>some x4
def MK (x1:SX) (x2:Int) (x3:Msg):Option Bool:=
 A0 (decide (x1.PE=x2)) (
 Qh (decide (x1.EP=x3.EP))) (
 Qh false)
instance k_drink_Get_1 {x1 x2 x3}:KP (MK x1 x2 x3) 199 [.agg (SX.row x1),.elt (Am x2) 0,.elt (Msg.row x3) 0] (fun r=>(.bv r)):=⟨fun{r} h=>by
 have ok:=oJ 199 Tryz.f199 [.t 4] 3 13;refine FP ok fun w0 H0=>?_;rw [MK] at h;refine Vg 12 ?_;refine Vl [] (fun x4=>([(4,.bv x4)],[],[])) Qh r ?_ fun J1=>?_
 ·intro x4 h;rw [Qh] at h;exact Wx
 ·exact Wx⟩
instance {x2 x3}:KC (fun z=>MK z x2 x3) 199 [.elt (Am x2) 0,.elt (Msg.row x3) 0] (fun z=>[.agg (SX.row z)]) (fun z=>(.bv z)):=⟨⟨by kernel_rfl,rfl,fun z r hz=>k_drink_Get_1.k hz⟩⟩
def Nu:Bool→Option Bool
| x7=>some x7
def KQ (x1 x2:Int) (x3:node_node) (x4:Msg):Option Bool:=
 A0 (decide (0≤x2)) (
 (Ac x3.NO.DK.DI.SD x2).bind fun x5=>
 A0 (decide (x5.EP=x4.EP)) (
 (Ac x3.NO.DK.DI.SD x2).bind fun x6=>
 Nu (decide (x6.SS=x1))) (
 Nu false)) (
 Nu false)
instance k_node_Get_1 {x1 x2 x3 x4}:KP (KQ x1 x2 x3 x4) 116 [.iv x1,.elt (Am x2) 0,.elt ((bM node_node.row) x3) 0,.elt (Msg.row x4) 0] (fun r=>(.bv r)):=⟨fun{r} h=>by
 have ok:=oJ 116 Tryz.f116 [.t 5] 4 35;refine FP ok fun w0 H0=>?_;rw [KQ] at h;refine Vg 5 ?_;refine Vk [] (fun x7=>[(5,.bv x7)]) Nu r ?_ fun J1=>?_
 ·intro x7 h;rw [Nu] at h;exact Wx
 ·refine AD fun all H=>Ds (GP H 3 31 [3,31] [(6,[.iv x2,.bv (decide (0≤x2)),.bv (decide (0≤x2))])] (Ds ?_));refine BW 8 h rfl (fun _ h=>?_) fun _ h=>?_
  ·refine Ds (GP H 10 21 [11,3,2,18] [(9,[.elt (node_node.row x3) 0,.elt (node_node.row x3) 0,.elt (node_node.row x3) 0,.elt (node_node.row x3) 0,.elt (node_node.row x3) 0,.elt (node_node.row x3) 2,CV x3.NO.DK.DI.SD,.iv x2]),(3,[.elt (Msg.row x4) 1,.iv x4.EP])] (Ds ?_));have ⟨x5,ex5,h⟩:=Bs h;refine BT H.1 H.2.1 H.2.2.1 H.2.2.2 11 SX.row ex5 rfl rfl trivial rfl rfl rfl rfl (GP H 5 15 [19,15] [(18,[.elt (SX.row x5) 1,.iv x5.EP]),(2,[.bv (decide (x5.EP=x4.EP)),.bv (decide (x5.EP=x4.EP)),.bv (decide (x5.EP=x4.EP))])] (Ds ?_));refine BW 24 h rfl (fun _ h=>?_) fun _ h=>?_
   ·exact Wx
   ·exact Wx
  ·refine Ds (GP H 31 0 [34] [(23,[.ff,.ff]),(13,[.ff])] (Ds ?_));refine GD ?_;exact Wx⟩
@[go_sem] def qc:EC:=eQ Tryz.f69
theorem iZ:FnOK Tryz.prog 69 Tryz.f69 qc [.t 4] 2 17:=AP
def Xi:Unit→Option Int
| ()=>some (-1)
def Xj (x1:List Edge) (p1:(Edge→Option Bool)):Int→Option (Int ⊕ Int)
| x5=>
 A0 (decide (x5<(ln Edge.row x1))) (
 (Ac x1 x5).bind fun x6=>
 (p1 x6).bind fun x7=>
 A0 x7 (
 Option.map Sum.inr (some x5)) (
 some (.inl (wr (x5+1))))) (
 Option.map Sum.inr (Xi ()))
def Te (x1:List Edge) (p1:(Edge→Option Bool)):Option Int:=loop (Xj x1 p1) 0
instance k_slices_IndexFunc_Edge {x1 g1 caps1 p1} [ic1:KC p1 g1 caps1 (fun z=>[.agg (Edge.row z)]) (fun z=>.bv z)]:KP (Te x1 p1) 69 [dn x1,.clo g1 caps1] (fun r=>(.iv r)):=⟨fun{r} h=>by
 have hc1:=ic1.k;refine FP iZ fun w0 H0=>?_;have ok:=iZ;rw [Te] at h;refine Vg 11 ?_;refine Vk [] (fun _=>[]) Xi r ?_ fun J1=>?_
 ·rintro ⟨⟩ h;rw [Xi] at h;exact Wx
 ·refine Vg 1 ?_;refine Mk h [0,2,5,1] (fun x5=>[(8,.iv x5)]) ?_ (hok:=by intro x5;first | rfl | (simp [go_sem];done) | simp [go_sem,C2 _ hc1.pu]);rintro n1 x5 y1 h hin1 hout1;rw [Xj] at h;refine Vg 5 ?_;refine MI h (fun h=>?_) fun h=>?_
  ·exact Wx
  ·refine Vg 1 ?_;exact Eh J1 (CU h hout1) (hok:=by first | rfl | simp [go_sem,C2 _ hc1.pu])⟩
def MV:Bool→Option Bool
| x3=>some x3
def MU (x1:Edge) (x2:Graph):Option Bool:=
 A0 (decide (x1.A<0)) (
 MV true) (
 A0 (decide (x1.B≤x1.A)) (
 MV true) (
 MV (decide (x2.N≤x1.B))))
instance k_graph_Check_1 {x1 x2}:KP (MU x1 x2) 42 [.agg (Edge.row x1),.elt (Graph.row x2) 0] (fun r=>(.bv r)):=⟨fun{r} h=>by
 have ok:=oJ 42 Tryz.f42 [.t 3] 2 19;refine FP ok fun w0 H0=>?_;rw [MU] at h;refine Vg 11 ?_;refine Vl [] (fun x3=>([(3,.bv x3)],[],[])) MV r ?_ fun J1=>?_
 ·intro x3 h;rw [MV] at h;exact Wx
 ·exact Wx⟩
instance {x2}:KC (fun z=>MU z x2) 42 [.elt (Graph.row x2) 0] (fun z=>[.agg (Edge.row z)]) (fun z=>(.bv z)):=⟨⟨by kernel_rfl,rfl,fun z r hz=>k_graph_Check_1.k hz⟩⟩
def PS (x1:Int):Option Bool:=some (!decide (x1=x1))
instance k_cmp_isNaN_int {x1}:KP (PS x1) 99 [.iv x1] (fun r=>(.bv r)):=⟨fun{r} h=>by have ok:=oJ 99 Tryz.f99 [.t 2] 1 5;refine FP ok fun w0 H0=>?_;rw [PS] at h;exact Wx⟩
def UV:Unit→Option Int
| ()=>some 0
def PR (x1:List Int):Int→Option (Int ⊕ Int)
| x4=>
 A0 (decide (x4<(ln Am x1))) (
 (Ac x1 x4).bind fun x5=>
 A0 (!decide (x5=0)) (
 Option.map Sum.inr (some x5)) (
 some (.inl (wr (x4+1))))) (
 Option.map Sum.inr (UV ()))
def PQ (x1:List Int):Option Int:=loop (PR x1) 0
instance k_cmp_Or_int {x1}:KP (PQ x1) 70 [Aj x1] (fun r=>(.iv r)):=⟨fun{r} h=>by
 have ok:=oJ 70 Tryz.f70 [.t 2] 1 17;refine FP ok fun w0 H0=>?_;rw [PQ] at h;refine Vg 15 ?_;refine Vk [3,1] (fun _=>[]) UV r ?_ fun J1=>?_
 ·rintro ⟨⟩ h;rw [UV] at h;exact Wx
 ·refine Vg 1 ?_;refine Mk h [3,1,2,2] (fun x4=>[(8,.iv x4)]) ?_;rintro n1 x4 y1 h hin1 hout1;rw [PR] at h;exact Wx⟩
def PU (x1:Int):Option Bool:=some (decide (x1<1))
instance k_colour_Right_1 {x1}:KP (PU x1) 192 [.iv x1] (fun r=>(.bv r)):=⟨fun{r} h=>by have ok:=oJ 192 Tryz.f192 [.t 2] 1 4;refine FP ok fun w0 H0=>?_;rw [PU] at h;exact Wx⟩
instance :KC (fun z=>PU z) 192 [] (fun z=>[.iv z]) (fun z=>(.bv z)):=⟨⟨by kernel_rfl,rfl,fun z r hz=>k_colour_Right_1.k hz⟩⟩
def PV (x1:Edge) (x2:List Int):Option Bool:=
 (Ac x2 x1.A).bind fun x3=>
 (Ac x2 x1.B).bind fun x4=>
 some (decide (x3=x4))
instance k_colour_Right_2 {x1 x2}:KP (PV x1 x2) 193 [.agg (Edge.row x1),.elt ((Ci 1 Am) x2) 0] (fun r=>(.bv r)):=⟨fun{r} h=>by have ok:=oJ 193 Tryz.f193 [.t 3] 2 13;refine FP ok fun w0 H0=>?_;rw [PV] at h;exact Wx⟩
instance {x2}:KC (fun z=>PV z x2) 193 [.elt ((Ci 1 Am) x2) 0] (fun z=>[.agg (Edge.row z)]) (fun z=>(.bv z)):=⟨⟨by kernel_rfl,rfl,fun z r hz=>k_colour_Right_2.k hz⟩⟩
def Ns:Bool→Option Bool
| x3=>some x3
def Ro (x1 x2:Edge):Option Bool:=
 A0 (decide (x1.A<x2.A)) (
 Ns true) (
 A0 (decide (x1.A=x2.A)) (
 Ns (decide (x1.B<x2.B))) (
 Ns false))
instance k_narthexref03_ahead {x1 x2}:KP (Ro x1 x2) 41 [.agg (Edge.row x1),.agg (Edge.row x2)] (fun r=>(.bv r)):=⟨fun{r} h=>by
 have ok:=oJ 41 Tryz.f41 [.t 4] 2 22;refine FP ok fun w0 H0=>?_;rw [Ro] at h;refine Vg 14 ?_;refine Vl [] (fun x3=>([(4,.bv x3)],[],[])) Ns r ?_ fun J1=>?_
 ·intro x3 h;rw [Ns] at h;exact Wx
 ·exact Wx⟩
def PX (x1:Int):Option Bool:=some (decide (x1<0))
instance k_colour_Round_1 {x1}:KP (PX x1) 189 [.iv x1] (fun r=>(.bv r)):=⟨fun{r} h=>by have ok:=oJ 189 Tryz.f189 [.t 2] 1 4;refine FP ok fun w0 H0=>?_;rw [PX] at h;exact Wx⟩
instance :KC (fun z=>PX z) 189 [] (fun z=>[.iv z]) (fun z=>(.bv z)):=⟨⟨by kernel_rfl,rfl,fun z r hz=>k_colour_Round_1.k hz⟩⟩
def PY:Bool→Option Bool
| x5=>some x5
def Ms (x1:Int) (x2:List Int) (x3:Int):Option Bool:=
 (Ac x2 x1).bind fun x4=>
 A0 (decide (x4=0)) (
 PY (decide (x3<x1))) (
 PY false)
instance k_colour_Round_2 {x1 x2 x3}:KP (Ms x1 x2 x3) 190 [.iv x1,.elt ((Ci 1 Am) x2) 0,.elt (Am x3) 0] (fun r=>(.bv r)):=⟨fun{r} h=>by
 have ok:=oJ 190 Tryz.f190 [.t 4] 3 12;refine FP ok fun w0 H0=>?_;rw [Ms] at h;refine Vg 8 ?_;have ⟨x4,ex4,h⟩:=Bs h;refine Dt Am ex4 trivial rfl rfl rfl (Vg 3 ?_);refine Vk [] (fun x5=>[(4,.bv x5)]) PY r ?_ fun J1=>?_
 ·intro x5 h;rw [PY] at h;exact Wx
 ·exact Wx⟩
instance {x2 x3}:KC (fun z=>Ms z x2 x3) 190 [.elt ((Ci 1 Am) x2) 0,.elt (Am x3) 0] (fun z=>[.iv z]) (fun z=>(.bv z)):=⟨⟨by kernel_rfl,rfl,fun z r hz=>k_colour_Round_2.k hz⟩⟩
def Mt (x1:Int) (x2:List Int) (x3:List Int) (x4:Int):Option Bool:=
 (Ac x2 x1).bind fun x5=>
 (Ac x3 x4).bind fun x6=>
 some (decide (x5=x6))
instance k_colour_Round_3 {x1 x2 x3 x4}:KP (Mt x1 x2 x3 x4) 191 [.iv x1,.elt ((Ci 1 Am) x2) 0,.elt ((Ci 1 Am) x3) 0,.elt (Am x4) 0] (fun r=>(.bv r)):=⟨fun{r} h=>by have ok:=oJ 191 Tryz.f191 [.t 5] 4 11;refine FP ok fun w0 H0=>?_;rw [Mt] at h;exact Wx⟩
instance {x2 x3 x4}:KC (fun z=>Mt z x2 x3 x4) 191 [.elt ((Ci 1 Am) x2) 0,.elt ((Ci 1 Am) x3) 0,.elt (Am x4) 0] (fun z=>[.iv z]) (fun z=>(.bv z)):=⟨⟨by kernel_rfl,rfl,fun z r hz=>k_colour_Round_3.k hz⟩⟩
def VS (x1:DI):Option DI:=
 (AE 32 (([]:List SX)) x1.SD).bind fun x2=>
 some (DI.mk x1.ID x1.PH x2)
instance k_narthexlaw13_Own {x1}:KP (VS x1) 128 [.agg (DI.row x1)] (fun r=>(.agg (DI.row r))):=⟨fun{r} h=>by have ok:=oJ 128 Tryz.f128 [.c 2 (some 3)] 1 8;refine FP ok fun w0 H0=>?_;have A1:AJ [.s 1]:=trivial;rw [VS] at h;exact Wx⟩
def VU (x1:BK):List SE→Option BK
| x18=>some (BK.mk x1.LA x18)
def Ng (x1:BK):(Int×List SE)→Option ((Int×List SE) ⊕ BK)
| (x7,x8)=>
 A0 (decide (x7<(ln SE.row x1.SE))) (
 (Ac x1.SE x7).bind fun x9=>
 (AE 8 (([]:List Int)) x9.NE).bind fun x10=>
 (AE 48 x8 ([SE.mk x9.ID x10 x9.SS x9.Age])).bind fun x11=>
 some (.inl (wr (x7+1),x11))) (
 Option.map Sum.inr ((VU x1) x8))
def Jw (x1:BK):Option BK:=loop (Ng x1) (0,([]:List SE))
instance k_narthexlaw17_Own {x1}:KP (Jw x1) 30 [.agg (BK.row x1)] (fun r=>(.agg (BK.row r))):=⟨fun{r} h=>by
 have ok:=oJ 30 Tryz.f30 [.c 2 (some 2)] 1 32;refine FP ok fun w0 H0=>?_;have A2:AJ [.r 4 0]:=trivial;have A1:AJ [.s 0]:=trivial;rw [Jw] at h;refine Vg 18 ?_;refine Vl [2,2] (fun x18=>([],[none,some ⟨57,[.iv 0,.nl]⟩,some ⟨57,[.iv x1.LA,.osl 0]⟩],[B4 x18])) (VU x1) r ?_ fun J1=>?_
 ·intro x18 h;rw [VU] at h;exact Wx
 ·refine Vg 1 ?_;(refine Wj [.o 2 1 67 4] ?_);refine Mm h [1,3] (fun s=>([(4,.iv s.1)],[],[],[(0,B4 s.2)])) ?_;rintro n1 ⟨x7,x8⟩ y1 h hin1 hout1;rw [Ng] at h;refine Vg 9 ?_;refine MI h (fun h=>?_) fun h=>?_
  ·refine Vg 8 ?_;have ⟨x9,ex9,h⟩:=Bs h;refine Dt SE.row ex9 trivial rfl rfl rfl (Vg 9 ?_);have ⟨x10,ex10,h⟩:=Bs h;refine Er Am ex10 trivial rfl rfl rfl (Vg 7 ?_);(refine Wj [.s 2] ?_);exact Wx
  ·exact Wx⟩
def Qy:Bool→Option Bool
| x3=>some x3
def Hs (x1:HL) (x2:Int):Option Bool:=
 A0 (decide (0≤x2)) (
 Qy (decide (x2<(ln NO.row x1.NS)))) (
 Qy false)
instance k_hall_there {x1 x2}:KP (Hs x1 x2) 78 [.agg (HL.row x1),.iv x2] (fun r=>(.bv r)):=⟨fun{r} h=>by
 have ok:=oJ 78 Tryz.f78 [.t 4] 2 12;refine FP ok fun w0 H0=>?_;rw [Hs] at h;refine Vg 10 ?_;refine Vl [] (fun x3=>([(4,.bv x3)],[],[])) Qy r ?_ fun J1=>?_
 ·intro x3 h;rw [Qy] at h;exact Wx
 ·exact Wx⟩
@[go_sem] def qe:EC:=eQ Tryz.f79
theorem j8:FnOK Tryz.prog 79 Tryz.f79 qe [.t 4] 2 17:=AP
def Xp:Unit→Option Int
| ()=>some (-1)
def Xq (x1:List ML) (p1:(ML→Option Bool)):Int→Option (Int ⊕ Int)
| x5=>
 A0 (decide (x5<(ln ML.row x1))) (
 (Ac x1 x5).bind fun x6=>
 (p1 x6).bind fun x7=>
 A0 x7 (
 Option.map Sum.inr (some x5)) (
 some (.inl (wr (x5+1))))) (
 Option.map Sum.inr (Xp ()))
def Li (x1:List ML) (p1:(ML→Option Bool)):Option Int:=loop (Xq x1 p1) 0
instance k_slices_IndexFunc_Mail {x1 g1 caps1 p1} [ic1:KC p1 g1 caps1 (fun z=>[.agg (ML.row z)]) (fun z=>.bv z)]:KP (Li x1 p1) 79 [CM x1,.clo g1 caps1] (fun r=>(.iv r)):=⟨fun{r} h=>by
 have hc1:=ic1.k;refine FP j8 fun w0 H0=>?_;have ok:=j8;rw [Li] at h;refine Vg 11 ?_;refine Vk [] (fun _=>[]) Xp r ?_ fun J1=>?_
 ·rintro ⟨⟩ h;rw [Xp] at h;exact Wx
 ·refine Vg 1 ?_;refine Mk h [0,2,5,1] (fun x5=>[(8,.iv x5)]) ?_ (hok:=by intro x5;first | rfl | (simp [go_sem];done) | simp [go_sem,C2 _ hc1.pu]);rintro n1 x5 y1 h hin1 hout1;rw [Xq] at h;refine Vg 5 ?_;refine MI h (fun h=>?_) fun h=>?_
  ·exact Wx
  ·refine Vg 1 ?_;exact Eh J1 (CU h hout1) (hok:=by first | rfl | simp [go_sem,C2 _ hc1.pu])⟩
@[go_sem] def oP:EC:=eQ Tryz.f113
theorem ig:FnOK Tryz.prog 113 Tryz.f113 oP [.t 4] 2 25:=AP
@[go_sem] def eK:EC:=eQ Tryz.f111
def Iw (x1:List NO):Option (List NO):=AE 176 [] x1
theorem Fl {x1 r} (h:Iw x1=some r):FOx 111 [Ep x1] 60 10 (List.map NO.row r):=by
 have ok:=oK 111 Tryz.f111 eK [.t 2] 1 7;refine EX ok rfl fun w0 H0=>?_;rw [Iw] at h;refine As 100 ?_;dsimp only [eK,go_sem];refine ⟨by simp,?_⟩;refine Kc trivial rfl (fun hn=>?_) ?_
 ·refine As 100 ?_;dsimp only[go_sem];refine ⟨by simp,?_⟩;refine Gp 2 60 10 rfl rfl ?_;dsimp only[go_sem];have hn:x1=[]:=by simpa using hn
  subst hn;exact De NO.row (e:=[]) ok (by simpa [AE] using h) rfl rfl
 ·refine As 100 ?_;dsimp only[go_sem];refine ⟨by simp,?_⟩;refine Er NO.row h trivial rfl rfl rfl ?_;refine As 100 ?_;dsimp only[go_sem];refine ⟨by simp,?_⟩;exact De NO.row ok (rfl:some r=some r) rfl rfl
theorem rR {x1 r} (h:Iw x1=some r):FPx 111 [Ep x1] (Ep r):=(Fl h).sealed
instance {x1}:KP (Iw x1) 111 [Ep x1] (fun r=>(Ep r)):=⟨fun h=>rR h⟩
@[go_sem] def eL:EC:=eQ Tryz.f112
def Lc (x1:List ML):Option (List ML):=AE 40 [] x1
theorem bh {x1 r} (h:Lc x1=some r):FOx 112 [CM x1] 156 5 (List.map ML.row r):=by
 have ok:=oK 112 Tryz.f112 eL [.t 2] 1 7;refine EX ok rfl fun w0 H0=>?_;rw [Lc] at h;refine As 100 ?_;dsimp only [eL,go_sem];refine ⟨by simp,?_⟩;refine Kc trivial rfl (fun hn=>?_) ?_
 ·refine As 100 ?_;dsimp only[go_sem];refine ⟨by simp,?_⟩;refine Gp 2 156 5 rfl rfl ?_;dsimp only[go_sem];have hn:x1=[]:=by simpa using hn
  subst hn;exact De ML.row (e:=[]) ok (by simpa [AE] using h) rfl rfl
 ·refine As 100 ?_;dsimp only[go_sem];refine ⟨by simp,?_⟩;refine Er ML.row h trivial rfl rfl rfl ?_;refine As 100 ?_;dsimp only[go_sem];refine ⟨by simp,?_⟩;exact De ML.row ok (rfl:some r=some r) rfl rfl
theorem rQ {x1 r} (h:Lc x1=some r):FPx 112 [CM x1] (CM r):=(bh h).sealed
instance {x1}:KP (Lc x1) 112 [CM x1] (fun r=>(CM r)):=⟨fun h=>rQ h⟩
def Qt:Bool→Option Bool
| x4=>some x4
def N0 (x1:ML) (x2:Int) (x3:Int):Option Bool:=
 A0 (decide (x1.From=x2)) (
 Qt (decide (x1.To=x3))) (
 Qt false)
instance k_hall_Deliver_1 {x1 x2 x3}:KP (N0 x1 x2 x3) 80 [.agg (ML.row x1),.elt (Am x2) 0,.elt (Am x3) 0] (fun r=>(.bv r)):=⟨fun{r} h=>by
 have ok:=oJ 80 Tryz.f80 [.t 4] 3 12;refine FP ok fun w0 H0=>?_;rw [N0] at h;refine Vg 12 ?_;refine Vl [] (fun x4=>([(4,.bv x4)],[],[])) Qt r ?_ fun J1=>?_
 ·intro x4 h;rw [Qt] at h;exact Wx
 ·exact Wx⟩
instance {x2 x3}:KC (fun z=>N0 z x2 x3) 80 [.elt (Am x2) 0,.elt (Am x3) 0] (fun z=>[.agg (ML.row z)]) (fun z=>(.bv z)):=⟨⟨by kernel_rfl,rfl,fun z r hz=>k_hall_Deliver_1.k hz⟩⟩
def Jv (x1:Graph):Option Graph:=
 (AE 16 (([]:List Edge)) x1.Edges).bind fun x2=>
 some (Graph.mk x1.N x2)
instance k_narthexlaw03_Own {x1}:KP (Jv x1) 7 [.agg (Graph.row x1)] (fun r=>(.agg (Graph.row r))):=⟨fun{r} h=>by have ok:=oJ 7 Tryz.f7 [.c 2 (some 2)] 1 9;refine FP ok fun w0 H0=>?_;have A1:AJ [.s 1]:=trivial;rw [Jv] at h;exact Wx⟩
def Io:Bool→Option Bool
| x2=>some x2
def R9 (x1:Int):Option Bool:=
 A0 (decide (170≤x1)) (
 A0 (decide (x1≤186)) (
 Io true) (
 A0 (decide (x1=188)) (
 Io true) (
 A0 (decide (x1=191)) (
 Io true) (
 Io (decide (x1=192)))))) (
 A0 (decide (x1=188)) (
 Io true) (
 A0 (decide (x1=191)) (
 Io true) (
 Io (decide (x1=192)))))
instance k_narthexlaw19_none {x1}:KP (R9 x1) 25 [.iv x1] (fun r=>(.bv r)):=⟨fun{r} h=>by
 have ok:=oJ 25 Tryz.f25 [.t 2] 1 20;refine FP ok fun w0 H0=>?_;rw [R9] at h;refine Vg 9 ?_;refine Vk [] (fun x2=>[(2,.bv x2)]) Io r ?_ fun J1=>?_
 ·intro x2 h;rw [Io] at h;exact Wx
 ·exact Wx⟩
@[go_sem] def eN:EC:=eQ Tryz.f51
def Ld (x1:List Place):Option (List Place):=AE 56 [] x1
theorem ia {x1 r} (h:Ld x1=some r):FOx 51 [C0 x1] 62 3 (List.map Place.row r):=by
 have ok:=oK 51 Tryz.f51 eN [.t 2] 1 7;refine EX ok rfl fun w0 H0=>?_;rw [Ld] at h;refine As 100 ?_;dsimp only [eN,go_sem];refine ⟨by simp,?_⟩;refine Kc trivial rfl (fun hn=>?_) ?_
 ·refine As 100 ?_;dsimp only[go_sem];refine ⟨by simp,?_⟩;refine Gp 2 62 3 rfl rfl ?_;dsimp only[go_sem];have hn:x1=[]:=by simpa using hn
  subst hn;exact De Place.row (e:=[]) ok (by simpa [AE] using h) rfl rfl
 ·refine As 100 ?_;dsimp only[go_sem];refine ⟨by simp,?_⟩;refine Er Place.row h trivial rfl rfl rfl ?_;refine As 100 ?_;dsimp only[go_sem];refine ⟨by simp,?_⟩;exact De Place.row ok (rfl:some r=some r) rfl rfl
theorem rS {x1 r} (h:Ld x1=some r):FPx 51 [C0 x1] (C0 r):=(ia h).sealed
instance {x1}:KP (Ld x1) 51 [C0 x1] (fun r=>(C0 r)):=⟨fun h=>rS h⟩
def QT:Bool→Option Bool
| x3=>some x3
def Hu (x1:Model) (x2:Int):Option Bool:=
 A0 (decide (0≤x2)) (
 QT (decide (x2<(ln Place.row x1.Places)))) (
 QT false)
instance k_model_there {x1 x2}:KP (Hu x1 x2) 26 [.agg (Model.row x1),.iv x2] (fun r=>(.bv r)):=⟨fun{r} h=>by
 have ok:=oJ 26 Tryz.f26 [.t 4] 2 12;refine FP ok fun w0 H0=>?_;rw [Hu] at h;refine Vg 10 ?_;refine Vl [] (fun x3=>([(4,.bv x3)],[],[])) QT r ?_ fun J1=>?_
 ·intro x3 h;rw [QT] at h;exact Wx
 ·exact Wx⟩
@[go_sem] def q8:EC:=eQ Tryz.f37
theorem iV:FnOK Tryz.prog 37 Tryz.f37 q8 [.t 6] 3 29:=AP
def X5:Unit→Option Bool
| ()=>some true
def X6 (x1 x2:List Place) (p2:((Place×Place)→Option Bool)):Int→Option (Int ⊕ Bool)
| x7=>
 A0 (decide (x7<(ln Place.row x1))) (
 (Ac x1 x7).bind fun x8=>
 (Ac x2 x7).bind fun x9=>
 (p2 (x8,x9)).bind fun x10=>
 A0 (!x10) (
 Option.map Sum.inr (some false)) (
 some (.inl (wr (x7+1))))) (
 Option.map Sum.inr (X5 ()))
def T6 (x1 x2:List Place) (p2:((Place×Place)→Option Bool)):Option Bool:=
 A0 (!decide ((ln Place.row x1)=(ln Place.row x2))) (
 some false) (
 loop (X6 x1 x2 p2) 0)
instance k_slices_EqualFunc_Place {x1 x2 g2 caps2 p2} [ic2:KC p2 g2 caps2 (fun z=>[.agg (Place.row z.1),.agg (Place.row z.2)]) (fun z=>.bv z)]:KP (T6 x1 x2 p2) 37 [C0 x1,C0 x2,.clo g2 caps2] (fun r=>(.bv r)):=⟨fun{r} h=>by
 have hc2:=ic2.k;refine FP iV fun w0 H0=>?_;have ok:=iV;rw [T6] at h;refine Vg 13 ?_;refine MI h (fun h=>?_) fun h=>?_
 ·exact Wx
 ·refine Vg 8 ?_;refine Vk [] (fun _=>[]) X5 r ?_ fun J1=>?_
  ·rintro ⟨⟩ h;rw [X5] at h;exact Wx
  ·refine Vg 1 ?_;refine Mk h [1,2,12,2] (fun x7=>[(17,.iv x7)]) ?_ (hok:=by intro x7;first | rfl | (simp [go_sem];done) | simp [go_sem,C2 _ hc2.pu]);rintro n1 x7 y1 h hin1 hout1;rw [X6] at h;refine Vg 5 ?_;refine MI h (fun h=>?_) fun h=>?_
   ·exact Wx
   ·refine Vg 1 ?_;exact Eh J1 (CU h hout1) (hok:=by first | rfl | simp [go_sem,C2 _ hc2.pu])⟩
def az:List Int→Option (List Int)
| x19=>some x19
def Nt (x8:Int):List Int→Option ((Int×List Int) ⊕ (List Int))
| x13=>some (.inl (wr (x8+1),x13))
def Wg (x1:NO):(Int×List Int)→Option ((Int×List Int) ⊕ (List Int))
| (x8,x9)=>
 A0 (decide (x8<(ln SX.row x1.DK.DI.SD))) (
 (Ac x1.DK.DI.SD x8).bind fun x10=>
 A0 (decide (x10.SS=0)) (
 (Ac x1.DK.DI.SD x8).bind fun x11=>
 (AE 8 x9 ([x11.PE])).bind fun x12=>
 (Nt x8) x12) (
 (Nt x8) x9)) (
 Option.map Sum.inr (az x9))
def Jz (x1:NO):Option (List Int):=loop (Wg x1) (0,([]:List Int))
theorem tw {x1 r} (h:Jz x1=some r):FOx 13 [.agg (NO.row x1)] 3 1 (List.map Am r):=by
 have ok:=oJ 13 Tryz.f13 [.t 2] 1 35;refine EX ok rfl fun w0 H0=>?_;have A1:AJ [.r 2 0]:=trivial;rw [Jz] at h;refine Vg 15 ?_;refine Vl [3,1] (fun x19=>([],[],[Ae x19])) az r ?_ fun J1=>?_
 ·intro x19 h;rw [az] at h;refine Vg 5 ?_;exact De Am ok h rfl rfl
 ·refine Vg 1 ?_;refine Mm h [1,1,1,1] (fun s=>([(4,.iv s.1)],[],[],[(0,Ae s.2)])) ?_;rintro n1 ⟨x8,x9⟩ y1 h hin1 hout1;rw [Wg] at h;refine Vg 11 ?_;refine MI h (fun h=>?_) fun h=>?_
  ·refine Vg 10 ?_;have ⟨x10,ex10,h⟩:=Bs h;refine Dt SX.row ex10 trivial rfl rfl rfl (Vg 4 ?_);refine Vm [1,1,1,2] (fun x13=>([],[],[],[(0,Ae x13)])) (Nt x8) y1 ?_ fun J2=>?_
   ·intro x13 h;rw [Nt] at h;exact Wx
   ·exact Wx
  ·exact Wx
theorem ZG {x1 r} (h:Jz x1=some r):FPx 13 [.agg (NO.row x1)] (Aj r):=(tw h).sealed
instance {x1}:KP (Jz x1) 13 [.agg (NO.row x1)] (fun r=>(Aj r)):=⟨fun h=>ZG h⟩
@[go_sem] def p7:EC:=eQ Tryz.f150
theorem XQ:FnOK Tryz.prog 150 Tryz.f150 p7 [.t 4] 2 7:=AP
def Iy (x1:List SX) (p1:(SX→Option Bool)):Option Bool:=
 (IA x1 p1).bind fun x2=>
 some (decide (0≤x2))
instance k_slices_ContainsFunc_Side {x1 g1 caps1 p1} [ic1:KC p1 g1 caps1 (fun z=>[.agg (SX.row z)]) (fun z=>.bv z)]:KP (Iy x1 p1) 150 [CV x1,.clo g1 caps1] (fun r=>(.bv r)):=⟨fun{r} h=>by refine FP XQ fun w0 H0=>?_;have ok:=XQ;rw [Iy] at h;exact Wx⟩
@[go_sem] def p9:EC:=eQ Tryz.f155
theorem XR:FnOK Tryz.prog 155 Tryz.f155 p9 [.t 4] 2 7:=AP
def Og (x1:List KE) (p1:(KE→Option Bool)):Option Bool:=
 (Tf x1 p1).bind fun x2=>
 some (decide (0≤x2))
instance k_slices_ContainsFunc_Known {x1 g1 caps1 p1} [ic1:KC p1 g1 caps1 (fun z=>[.agg (KE.row z)]) (fun z=>.bv z)]:KP (Og x1 p1) 155 [Bf x1,.clo g1 caps1] (fun r=>(.bv r)):=⟨fun{r} h=>by refine FP XR fun w0 H0=>?_;have ok:=XR;rw [Og] at h;exact Wx⟩
def Lf (x1:List SE) (p1:(SE→Option Bool)):Option Bool:=
 (Oo x1 p1).bind fun x2=>
 some (decide (0≤x2))
instance k_slices_ContainsFunc_Sess {x1 g1 caps1 p1} [ic1:KC p1 g1 caps1 (fun z=>[.agg (SE.row z)]) (fun z=>.bv z)]:KP (Lf x1 p1) 63 [Aq x1,.clo g1 caps1] (fun r=>(.bv r)):=⟨fun{r} h=>by have ok:=oJ 63 Tryz.f63 [.t 4] 2 7;refine FP ok fun w0 H0=>?_;rw [Lf] at h;exact Wx⟩
def Fh (x1:List Int) (p1:(Int→Option Bool)):Option Bool:=
 (Oq x1 p1).bind fun x2=>
 some (decide (0≤x2))
instance k_slices_ContainsFunc_int {x1 g1 caps1 p1} [ic1:KC p1 g1 caps1 (fun z=>[.iv z]) (fun z=>.bv z)]:KP (Fh x1 p1) 36 [Aj x1,.clo g1 caps1] (fun r=>(.bv r)):=⟨fun{r} h=>by have ok:=oJ 36 Tryz.f36 [.t 4] 2 7;refine FP ok fun w0 H0=>?_;rw [Fh] at h;exact Wx⟩
def sf:Go.Shelf.Ren:=⟨(fun | 189=>72 | 125=>101 | 257=>100 | 128=>145 | 129=>146 | 294=>136 | 295=>137 | 296=>138 | 297=>139 | 298=>140 | 299=>141 | 216=>142 | 300=>143 | 301=>144 | 328=>184 | 329=>185 | 330=>186 | 331=>187 | 332=>188 | 215=>99 | 343=>216 | n=>n),(fun | 28=>45 | 3=>3 | 46=>174 | 0=>0 | 51=>222 | 53=>224 | 4=>4 | 183=>214 | 182=>213 | 131=>219 | 5=>5 | 9=>9 | 218=>249 | 222=>253 | 228=>271 | 229=>272 | n=>n),(fun | n=>n)⟩
theorem se:Lays.n189 Tryz.prog sf where
 mixed:=by kernel_rfl
 f125:=Tryz.func101.trans (congrArg some (by kernel_rfl))
 f128:=Tryz.func145.trans (congrArg some (by kernel_rfl))
 f129:=Tryz.func146.trans (congrArg some (by kernel_rfl))
 f189:=Tryz.func72.trans (congrArg some (by kernel_rfl))
 f215:=Tryz.func99.trans (congrArg some (by kernel_rfl))
 f216:=Tryz.func142.trans (congrArg some (by kernel_rfl))
 f257:=Tryz.func100.trans (congrArg some (by kernel_rfl))
 f294:=Tryz.func136.trans (congrArg some (by kernel_rfl))
 f295:=Tryz.func137.trans (congrArg some (by kernel_rfl))
 f296:=Tryz.func138.trans (congrArg some (by kernel_rfl))
 f297:=Tryz.func139.trans (congrArg some (by kernel_rfl))
 f298:=Tryz.func140.trans (congrArg some (by kernel_rfl))
 f299:=Tryz.func141.trans (congrArg some (by kernel_rfl))
 f300:=Tryz.func143.trans (congrArg some (by kernel_rfl))
 f301:=Tryz.func144.trans (congrArg some (by kernel_rfl))
 f328:=Tryz.func184.trans (congrArg some (by kernel_rfl))
 f329:=Tryz.func185.trans (congrArg some (by kernel_rfl))
 f330:=Tryz.func186.trans (congrArg some (by kernel_rfl))
 f331:=Tryz.func187.trans (congrArg some (by kernel_rfl))
 f332:=Tryz.func188.trans (congrArg some (by kernel_rfl))
 f343:=Tryz.func216.trans (congrArg some (by kernel_rfl))
 t0:=Tryz.underlying0
 a0:=Tryz.isAgg0
 z0:=Tryz.sizeOf0
 v0:=Tryz.zeroValue0
 t3:=Tryz.underlying3
 a3:=Tryz.isAgg3
 z3:=Tryz.sizeOf3
 v3:=Tryz.zeroValue3
 t4:=Tryz.underlying4
 a4:=Tryz.isAgg4
 z4:=Tryz.sizeOf4
 v4:=Tryz.zeroValue4
 t5:=Tryz.underlying5
 a5:=Tryz.isAgg5
 z5:=Tryz.sizeOf5
 v5:=Tryz.zeroValue5
 t9:=Tryz.underlying9
 a9:=Tryz.isAgg9
 z9:=Tryz.sizeOf9
 v9:=Tryz.zeroValue9
 t28:=Tryz.underlying45
 a28:=Tryz.isAgg45
 z28:=Tryz.sizeOf45
 v28:=Tryz.zeroValue45
 t46:=Tryz.underlying174
 a46:=Tryz.isAgg174
 z46:=Tryz.sizeOf174
 v46:=Tryz.zeroValue174
 t51:=Tryz.underlying222
 a51:=Tryz.isAgg222
 z51:=Tryz.sizeOf222
 v51:=Tryz.zeroValue222
 t53:=Tryz.underlying224
 a53:=Tryz.isAgg224
 z53:=Tryz.sizeOf224
 v53:=Tryz.zeroValue224
 t131:=Tryz.underlying219
 a131:=Tryz.isAgg219
 z131:=Tryz.sizeOf219
 v131:=Tryz.zeroValue219
 t182:=Tryz.underlying213
 a182:=Tryz.isAgg213
 z182:=Tryz.sizeOf213
 v182:=Tryz.zeroValue213
 t183:=Tryz.underlying214
 a183:=Tryz.isAgg214
 z183:=Tryz.sizeOf214
 v183:=Tryz.zeroValue214
 t218:=Tryz.underlying249
 a218:=Tryz.isAgg249
 z218:=Tryz.sizeOf249
 v218:=Tryz.zeroValue249
 t222:=Tryz.underlying253
 a222:=Tryz.isAgg253
 z222:=Tryz.sizeOf253
 v222:=Tryz.zeroValue253
 t228:=Tryz.underlying271
 a228:=Tryz.isAgg271
 z228:=Tryz.sizeOf271
 v228:=Tryz.zeroValue271
 t229:=Tryz.underlying272
 a229:=Tryz.isAgg272
 z229:=Tryz.sizeOf272
 v229:=Tryz.zeroValue272
def sb:Go.Shelf.Ren:=⟨(fun | 20=>73 | n=>n),(fun | 22=>45 | 3=>3 | 4=>4 | 0=>0 | n=>n),(fun | n=>n)⟩
theorem sa:Lays2.n20 Tryz.prog sb where
 mixed:=by kernel_rfl
 f20:=Tryz.func73.trans (congrArg some (by kernel_rfl))
 t0:=Tryz.underlying0
 a0:=Tryz.isAgg0
 z0:=Tryz.sizeOf0
 v0:=Tryz.zeroValue0
 t3:=Tryz.underlying3
 a3:=Tryz.isAgg3
 z3:=Tryz.sizeOf3
 v3:=Tryz.zeroValue3
 t4:=Tryz.underlying4
 a4:=Tryz.isAgg4
 z4:=Tryz.sizeOf4
 v4:=Tryz.zeroValue4
 t22:=Tryz.underlying45
 a22:=Tryz.isAgg45
 z22:=Tryz.sizeOf45
 v22:=Tryz.zeroValue45
 i3:=by kernel_rfl
@[go_sem] def Pn:EC:=eQ Tryz.f45
def Gb (x1:List Int):Option (List Int):=
 (Cp x1).bind fun x2=>
 A0 (decide (x2.length<4611686018427387904)) (
 some (Lib.compact (x2.mergeSort fun x y=>decide (x≤y)))) none
theorem Tv {x1 r} (h:Gb x1=some r):FOx 45 [Aj x1] 3 1 (List.map Am r):=by
 have ok:=oK 45 Tryz.f45 Pn [.t 2] 1 9;refine EX ok rfl fun w0 H0=>?_;rw [Gb] at h;refine As 100 ?_;dsimp only [Pn,go_sem];refine ⟨by simp,?_⟩;have ⟨x2,ex2,h⟩:=Option.bind_eq_some_iff.1 h;refine F1 trivial (El ex2) (by first | exact AA _ | simp [go_sem]) (by first | rfl | simp [go_sem]) ?_;refine As 100 ?_;dsimp only [Pn,go_sem];refine ⟨by simp,?_⟩;by_cases hl:x2.length<4611686018427387904
 ·rw [show decide (x2.length<4611686018427387904)=true from decide_eq_true hl] at h;have h:some (Lib.compact (x2.mergeSort fun x y=>decide (x≤y)))=some r:=h;refine nC se x2 trivial (by kernel_rfl) rfl rfl hl ?_;refine As 100 ?_;dsimp only [Pn,go_sem];refine ⟨by simp,?_⟩;refine mV sa (x2.mergeSort fun x y=>decide (x≤y)) trivial (by kernel_rfl) rfl rfl (by simpa using hl) ?_;refine As 100 ?_;dsimp only [Pn,go_sem];refine ⟨by simp,?_⟩;exact De Am ok h rfl rfl
 ·rw [show decide (x2.length<4611686018427387904)=false from decide_eq_false hl] at h;cases h
theorem fY {x1 r} (h:Gb x1=some r):FPx 45 [Aj x1] (Aj r):=(Tv h).sealed
instance {x1}:KP (Gb x1) 45 [Aj x1] (fun r=>(Aj r)):=⟨fun h=>fY h⟩
def Tc:List Int→Option (List Int)
| x4=>some x4
def Xh (x1:Int):Unit→Option (List Int)
| ()=>
 A0 (decide (0<(wr (x1-(wr (0-0)))))) (
 (LQ 8 (wr (x1-(wr (0-0)))) 0).bind fun x2=>
 (D3 x2 0 0).bind fun x3=>
 Tc x3) (
 Tc (([]:List Int)))
def Tb (x1:Int):Option (List Int):=
 A0 (decide (x1<0)) (
 none) (
 (Xh x1) ())
instance t_slices_Grow_int_I1 {x1}:KT (Tb x1) 182 [.nl,.iv x1] [] [] (fun _=>(.osl 0)) (fun _=>[]) (fun r=>[Ae r]):=⟨fun{r} h=>by
 refine Ft iB fun w0 M0=>?_;have ok:=iB;have A2:AJ [.t 0 3 1]:=trivial;have A1:AJ [.r 1 0]:=trivial;rw [Tb] at h;refine Vg 10 ?_;refine Vk [0,2] (fun _=>[]) (Xh x1) r ?_ fun J1=>?_
 ·rintro ⟨⟩ h;rw [Xh] at h;refine Vg 5 ?_;refine U9 trivial rfl (Vg 11 ?_);refine Vl [] (fun x4=>([(0,.osl 0)],[],[Ae x4])) Tc r ?_ fun J2=>?_
  ·intro x4 h;rw [Tc] at h;exact Wx
  ·refine MI h (fun h=>?_) fun h=>?_
   ·refine Vg 3 ?_;refine U9 trivial rfl (dz trivial rfl rfl rfl (Vg 1 ?_));have ⟨x2,ex2,h⟩:=Bs h;refine du Am ex2 trivial rfl rfl rfl rfl (Vg 2 ?_);have ⟨x3,ex3,h⟩:=Bs h;refine P9 Am ex3 trivial rfl rfl rfl rfl ?_;exact Wx
   ·exact Wx
 ·refine MI h (fun h=>?_) fun h=>?_
  ·cases h
  ·exact Wx⟩
def Lg (x1:List Int) (x2:Int):Option Bool:=
 (Tj x1 x2).bind fun x3=>
 some (decide (0≤x3))
instance k_slices_Contains_int {x1 x2}:KP (Lg x1 x2) 94 [Aj x1,.iv x2] (fun r=>(.bv r)):=⟨fun{r} h=>by have ok:=oJ 94 Tryz.f94 [.t 4] 2 7;refine FP ok fun w0 H0=>?_;rw [Lg] at h;exact Wx⟩
@[go_sem] def oZ:EC:=eQ Tryz.f134
theorem io:FnOK Tryz.prog 134 Tryz.f134 oZ [.t 4] 2 40:=AP
@[go_sem] def qg:EC:=eQ Tryz.f90
theorem ja:FnOK Tryz.prog 90 Tryz.f90 qg [.c 2 (some 2)] 1 27:=AP
def X4 (x1 x2:Int) (x3:List SE):List SE→Option (List SE)
| x11=>
 (DQ (ln SE.row x11) ((((Int.toNat (x1)-Int.toNat (0))+(Int.toNat (ln SE.row x3)-Int.toNat (x2)):Nat):Int)) (ln SE.row x3)).bind fun _=>
 (He x11 (Int.toNat ((((Int.toNat (x1)-Int.toNat (0))+(Int.toNat (ln SE.row x3)-Int.toNat (x2)):Nat):Int))) (Int.toNat (ln SE.row x3)-Int.toNat ((((Int.toNat (x1)-Int.toNat (0))+(Int.toNat (ln SE.row x3)-Int.toNat (x2)):Nat):Int))) (SE.mk 0 (([]:List Int)) 0 0)).bind fun x13=>
 (Up x13 ((Int.toNat (x1)-Int.toNat (0))+(Int.toNat (ln SE.row x3)-Int.toNat (x2)))).bind fun x14=>
 some x14
def Lh (x1 x2:Int) (x3:List SE):Option (List SE):=
 (DQ (ln SE.row x3) x1 x2).bind fun _=>
 (DQ (ln SE.row x3) x2 (ln SE.row x3)).bind fun _=>
 A0 (decide (x1=x2)) (
 some x3) (
 (DQ (ln SE.row x3) 0 x1).bind fun _=>
 (DQ (ln SE.row x3) x2 (ln SE.row x3)).bind fun _=>
 (XH x3 (Int.toNat (x1)-Int.toNat (0)) (Int.toNat (x2)) (Int.toNat (ln SE.row x3)-Int.toNat (x2))).bind fun x10=>
 (X4 x1 x2 x3) x10)
instance t_slices_Delete_Sess_I1 {x1 x2 x3}:KT (Lh x1 x2 x3) 131 [.osl 0,.iv x1,.iv x2] [] [B4 x3] (fun _=>(.osl 1)) (fun _=>[]) (fun r=>[none,B4 r]):=⟨fun{r} h=>by
 refine Ft im fun w0 M0=>?_;have ok:=im;have A1:AJ [.w 67 4,.r 0 1]:=trivial;rw [Lh] at h;refine Vg 11 ?_;have ⟨x4,ex4,h⟩:=Bs h;have ⟨x5,ex5,h⟩:=Bs h;refine nA SE.row ex4 ex5 trivial rfl rfl rfl rfl rfl (Vg 8 ?_);refine MI h (fun h=>?_) fun h=>?_
 ·exact Wx
 ·refine Vg 8 ?_;refine Vl [7,1] (fun x11=>([(0,.ocs 0 0 4 ((Int.toNat (x1)-Int.toNat (0))+(Int.toNat (ln SE.row x3)-Int.toNat (x2))))],[],[B4 x11])) (X4 x1 x2 x3) r ?_ fun J1=>?_
  ·intro x11 h;rw [X4] at h;refine Vg 6 ?_;have ⟨x12,ex12,h⟩:=Bs h;refine nH SE.row ex12 trivial rfl rfl rfl rfl ?_;have ⟨x13,ex13,h⟩:=Bs h;refine Ua SE.row ex13 trivial rfl rfl (by first | exact AA _ | simp [go_sem]) (by first | rfl | simp [go_sem]) rfl rfl (Vg 6 ?_);have ⟨x14,ex14,h⟩:=Bs h;refine mX 6 0 4 ((Int.toNat (x1)-Int.toNat (0))+(Int.toNat (ln SE.row x3)-Int.toNat (x2))) SE.row ex14 rfl rfl ?_;exact Wx
  ·refine AD fun all H=>?_;refine Gn H 4 4 ?_;have ⟨x6,ex6,h⟩:=Bs h;have ⟨x7,ex7,h⟩:=Bs h;refine Ao 2 5 rfl ?_ ?_
   ·refine U4 SE.row ex6 H.1 rfl trivial rfl rfl rfl rfl (Ds ?_);refine Ak 5 rfl (U4 SE.row ex7 H.1 rfl trivial rfl rfl rfl rfl (Ds ?_));refine Ak 6 rfl ?_;have ⟨x10,ex10,h⟩:=Bs h;refine db SE.row ex10 H.1 rfl trivial rfl rfl rfl ?_;refine Gn H 1 0 ?_;refine GD ?_;exact Wx
   ·refine U4 SE.row ex7 H.1 rfl trivial rfl rfl rfl rfl (Ds ?_);refine Ak 2 rfl (U4 SE.row ex6 H.1 rfl trivial rfl rfl rfl rfl (Ds ?_));refine Ak 6 rfl ?_;have ⟨x10,ex10,h⟩:=Bs h;refine db SE.row ex10 H.1 rfl trivial rfl rfl rfl ?_;refine Gn H 1 0 ?_;refine GD ?_;exact Wx⟩
def O5 (x1:BK) (x2:Int):Option Int:=
 (Oo x1.SE ((fun z=>SC z x2))).bind fun x3=>
 some x3
instance k_sess_find {x1 x2}:KP (O5 x1 x2) 132 [.agg (BK.row x1),.iv x2] (fun r=>(.iv r)):=⟨fun{r} h=>by have ok:=oJ 132 Tryz.f132 [.t 4] 2 7;refine FP ok fun w0 H0=>?_;rw [O5] at h;exact Wx⟩
def Hn:Bool→Option Bool
| x5=>some x5
def Q2 (x1:SX):Bool→Option Bool
| x4=>
 A0 (!x4) (
 Hn true) (
 A0 (decide (x1.EP<0)) (
 Hn true) (
 A0 (decide (65535<x1.EP)) (
 Hn true) (
 A0 (decide (x1.SS<0)) (
 Hn true) (
 A0 (decide (3<x1.SS)) (
 Hn true) (
 A0 x1.DY (
 Hn (!x1.FK)) (
 Hn false))))))
def Q1 (x1:SX) (x2:Int) (x3:DI):Option Bool:=
 A0 (decide (x2<x1.PE)) (
 (Q2 x1) (!decide (x1.PE=x3.ID))) (
 (Q2 x1) false)
instance t_dine_Check_1_I1 {x1 x2 x3}:KT (Q1 x1 x2 x3) 194 [.agg (SX.row x1),.ptr 0 0,.ptr 1 0] [some ⟨3,[.iv x2]⟩,some ⟨51,DI.row x3⟩] [] (fun r=>(.bv r)) (fun _=>[some ⟨3,[.iv x1.PE]⟩,some ⟨51,DI.row x3⟩]) (fun _=>[]):=⟨fun{r} h=>by
 refine Ft iC fun w0 M0=>?_;have ok:=iC;rw [Q1] at h;refine Vg 12 ?_;refine Vk [1,1,1,1] (fun x4=>[(5,.bv x4)]) (Q2 x1) r ?_ fun J1=>?_
 ·intro x4 h;rw [Q2] at h;refine Vg 11 ?_;refine Vl [] (fun x5=>([(4,.bv x5)],[some ⟨3,[.iv x1.PE]⟩,some ⟨51,DI.row x3⟩],[])) Hn r ?_ fun J2=>?_
  ·intro x5 h;rw [Hn] at h;exact Wx
  ·exact Wx
 ·exact Wx⟩
def Kw (x1 x2:Int) (_x3 x4:Int) (x5:List ML) (x6:List SX):Option (List ML):=
 (Ac x6 x4).bind fun x7=>
 (AE 40 x5 ([ML.mk x2 x7.PE (Msg.mk x1 x7.EP 0)])).bind fun x8=>
 some x8
instance t_dine_Fire_1_I2 {x1 x2 x3 x4 x5 x6}:KT (Kw x1 x2 x3 x4 x5 x6) 230 [.iv x1,.ptr 0 0,.ptr 1 0,.ptr 2 0] [some ⟨36,[.osl 0]⟩,some ⟨51,[.iv x2,.iv x3,.osl 1]⟩,some ⟨274,[.oel 1 (Int.toNat (x4)*8) 0]⟩] [AG x5,Al x6] (fun _=>(.tup [])) (fun _=>[some ⟨36,[.osl 3]⟩,some ⟨51,[.iv x2,.iv x3,.osl 1]⟩,some ⟨274,[.oel 1 (Int.toNat (x4)*8) 0]⟩]) (fun r=>[none,Al x6,none,AG r]):=⟨fun{r} h=>by refine Ft iQ fun w0 M0=>?_;have ok:=iQ;rw [Kw] at h;have ⟨x7,ex7,h⟩:=Bs h;have ⟨x8,ex8,h⟩:=Bs h;refine AD fun all H=>Gs ?_;exact Wx⟩
@[go_sem] def pC:EC:=eQ Tryz.f198
theorem XX:FnOK Tryz.prog 198 Tryz.f198 pC [.c 2 (some 5)] 1 13:=AP
def MB:Bool→Option Bool
| x4=>some x4
def UX (x1 x2:DI):Option Bool:=
 A0 (decide (x1.ID=x2.ID)) (
 A0 (decide (x1.PH=x2.PH)) (
 (T8 x1.SD x2.SD).bind fun x3=>
 MB x3) (
 MB false)) (
 MB false)
instance k_dine_Same {x1 x2}:KP (UX x1 x2) 220 [.agg (DI.row x1),.agg (DI.row x2)] (fun r=>(.bv r)):=⟨fun{r} h=>by
 have ok:=oJ 220 Tryz.f220 [.t 4] 2 22;refine FP ok fun w0 H0=>?_;rw [UX] at h;refine Vg 14 ?_;refine Vl [] (fun x4=>([(4,.bv x4)],[],[])) MB r ?_ fun J1=>?_
 ·intro x4 h;rw [MB] at h;exact Wx
 ·exact Wx⟩
@[go_sem] def qd:EC:=eQ Tryz.f76
theorem OI:FnOK Tryz.prog 76 Tryz.f76 qd [.c 2 (some 10)] 1 58:=AP
def S0:Int→Option (Bool×Int)
| x15=>some (decide (x15=0),x15)
def RZ (x2 x7:Int):Bool→Option (Bool×Int)
| x14=>
 A0 x14 (
 S0 x2) (
 S0 x7)
def Ev (x1:Bool) (x2:Int) (_x3 _x4:Int) (_x5 _x6 x7:Int) (_x8:List SX) (_x9:List Int) (_x10:List SE) (_x11:List KE) (_x12:List Int) (_x13:List KE):Option (Bool×Int):=
 A0 (decide (x7=0)) (
 (RZ x2 x7) (!x1)) (
 (RZ x2 x7) false)
instance t_node_node_need_I1 {x1 x2 x3 x4 x5 x6 x7 x8 x9 x10 x11 x12 x13}:KT (Ev x1 x2 x3 x4 x5 x6 x7 x8 x9 x10 x11 x12 x13) 114 [.ptr 0 0,.bv x1,.iv x2] [some ⟨191,[.iv x3,.iv x4,.osl 0,.iv x5,.osl 1,.iv x6,.osl 2,.osl 3,.osl 4,.osl 5,.nl,.nl,.iv x7]⟩] [Al x8,Ae x9,B4 x10,Ai x11,Ae x12,Ai x13] (fun r=>(.bv r.1)) (fun r=>[some ⟨191,[.iv x3,.iv x4,.osl 0,.iv x5,.osl 1,.iv x6,.osl 2,.osl 3,.osl 4,.osl 5,.nl,.nl,.iv r.2]⟩]) (fun _=>[Al x8,Ae x9,B4 x10,Ai x11,Ae x12,Ai x13]):=⟨fun{r} h=>by
 refine Ft OA fun w0 M0=>?_;have ok:=OA;rw [Ev] at h;refine Vg 13 ?_;refine Vk [0,1,1,1] (fun x14=>[(15,.bv x14)]) (RZ x2 x7) r ?_ fun J1=>?_
 ·intro x14 h;rw [RZ] at h;refine Vm [0,1] (fun x15=>([],[(0,12,.iv x15)],[],[])) S0 r ?_ fun J2=>?_
  ·intro x15 h;rw [S0] at h;exact Wx
  ·exact Wx
 ·exact Wx⟩
def S3:Int→Option (Bool×Int)
| x14=>some (decide (x14=0),x14)
def S2 (x1 x6:Int):Bool→Option (Bool×Int)
| x13=>
 A0 x13 (
 S3 x1) (
 S3 x6)
def Fg (x1 _x2:Int) (_x3 _x4:Int) (_x5 x6:Int) (_x7:List SX) (_x8:List Int) (_x9:List SE) (_x10:List KE) (_x11:List Int) (_x12:List KE):Option (Bool×Int):=
 A0 (decide (x6=0)) (
 (S2 x1 x6) true) (
 (S2 x1 x6) false)
instance t_node_node_need_I2 {x1 x2 x3 x4 x5 x6 x7 x8 x9 x10 x11 x12}:KT (Fg x1 x2 x3 x4 x5 x6 x7 x8 x9 x10 x11 x12) 114 [.ptr 0 0,.ff,.iv x1] [some ⟨191,[.iv x2,.iv x3,.osl 0,.iv x4,.osl 1,.iv x5,.osl 2,.osl 3,.osl 4,.osl 5,.nl,.nl,.iv x6]⟩] [Al x7,Ae x8,B4 x9,Ai x10,Ae x11,Ai x12] (fun r=>(.bv r.1)) (fun r=>[some ⟨191,[.iv x2,.iv x3,.osl 0,.iv x4,.osl 1,.iv x5,.osl 2,.osl 3,.osl 4,.osl 5,.nl,.nl,.iv r.2]⟩]) (fun _=>[Al x7,Ae x8,B4 x9,Ai x10,Ae x11,Ai x12]):=⟨fun{r} h=>by
 refine Ft OA fun w0 M0=>?_;have ok:=OA;rw [Fg] at h;refine Vg 13 ?_;refine Vk [0,1,1,1] (fun x13=>[(15,.bv x13)]) (S2 x1 x6) r ?_ fun J1=>?_
 ·intro x13 h;rw [S2] at h;refine Vm [0,1] (fun x14=>([],[(0,12,.iv x14)],[],[])) S3 r ?_ fun J2=>?_
  ·intro x14 h;rw [S3] at h;exact Wx
  ·exact Wx
 ·exact Wx⟩
def KZ (x1:node_node) (x2:Int):Option Int:=
 (IA x1.NO.DK.DI.SD ((fun z=>S9 z x2))).bind fun x3=>
 some x3
instance k_node_node_place {x1 x2}:KP (KZ x1 x2) 115 [.elt (node_node.row x1) 0,.iv x2] (fun r=>(.iv r)):=⟨fun{r} h=>by have ok:=oJ 115 Tryz.f115 [.t 4] 2 12;refine FP ok fun w0 H0=>?_;rw [KZ] at h;exact Wx⟩
@[go_sem] def pE:EC:=eQ Tryz.f201
theorem iE:FnOK Tryz.prog 201 Tryz.f201 pE [.t 4] 2 40:=AP
def Ny (x1 x2:Int) (x3 _x4:Int) (_x5 _x6 _x7:Int) (_x8:List SX) (_x9:List Int) (_x10:List SE) (_x11:List KE) (_x12:List Int) (_x13:List KE):Option (List EV):=
 (AE 56 [] ([EV.mk x1 x3 0 x2 (([]:List Int))])).bind fun x14=>
 some x14
instance t_node_node_edge_I2 {x1 x2 x3 x4 x5 x6 x7 x8 x9 x10 x11 x12 x13}:KT (Ny x1 x2 x3 x4 x5 x6 x7 x8 x9 x10 x11 x12 x13) 120 [.ptr 0 0,.iv x1,.iv x2] [some ⟨191,[.iv x3,.iv x4,.osl 0,.iv x5,.osl 1,.iv x6,.osl 2,.osl 3,.osl 4,.osl 5,.nl,.nl,.iv x7]⟩] [Al x8,Ae x9,B4 x10,Ai x11,Ae x12,Ai x13] (fun _=>(.tup [])) (fun _=>[some ⟨191,[.iv x3,.iv x4,.osl 0,.iv x5,.osl 1,.iv x6,.osl 2,.osl 3,.osl 4,.osl 5,.nl,.osl 7,.iv x7]⟩]) (fun r=>[Al x8,Ae x9,B4 x10,Ai x11,Ae x12,Ai x13,none,Bk r]):=⟨fun{r} h=>by refine Ft OC fun w0 M0=>?_;have ok:=OC;rw [Ny] at h;refine AD fun all H=>Ds (GP H 14 6 [14,6] [(6,[.ptr 0 0,.ptr 0 0,.ptr 0 0,.ptr 0 11,.nl,.iv x1,.ptr 0 0,.ptr 0 0,.ptr 0 0,.ptr 0 0,.ptr 0 0,.ptr 0 0,.iv x3,.iv x2])] (Ds ?_));refine Ak 14 rfl (FW (.agg [.iv x1,.iv x3,.iv 0,.iv x2,Aj (([]:List Int))]) H.1 rfl trivial (by simp [go_sem]) ?_);exact Wx⟩
def RE (_x1 _x2:Int) (_x3 _x4:Int) (x5:List SE) (_x6:List SX) (_x7:List Int) (_x8:List KE) (_x9:List Int) (_x10:List KE):Option (SE×Bool):=
 A0 (decide ((ln SE.row x5)=0)) (
 some ((SE.mk 0 (([]:List Int)) 0 0),false)) (
 (Ac x5 0).bind fun x11=>
 some (x11,true))
instance t_node_first_I1 {x1 x2 x3 x4 x5 x6 x7 x8 x9 x10}:KT (RE x1 x2 x3 x4 x5 x6 x7 x8 x9 x10) 158 [.agg [.iv x1,.iv x2,.osl 0,.iv x3,.osl 1,.iv x4,Aq x5,.osl 2,.osl 3,.osl 4]] [] [Al x6,Ae x7,Ai x8,Ae x9,Ai x10] (fun r=>(.tup [.agg [.iv r.1.ID,Aj r.1.NE,.iv r.1.SS,.iv r.1.Age],.bv r.2])) (fun _=>[]) (fun _=>[Al x6,Ae x7,Ai x8,Ae x9,Ai x10]):=⟨fun{r} h=>by refine Ft JV fun w0 M0=>?_;have ok:=JV;rw [RE] at h;exact Wx⟩
theorem LF {l r} (h:Ew l=some r):
  CL Tryz.prog 107 [.osl 0] [] [some ⟨100,8,l.map SX.row⟩] (.osl 1) [] [some ⟨100,8,l.map SX.row⟩,some ⟨100,8,r.map SX.row⟩]:=by
 unfold Ew at h;refine FT Oy fun w0 M0=>?_;dsimp only[Dh,List.cons_append,List.nil_append];refine As 100 ?_;dsimp only[go_sem];refine An ?_;refine YV trivial rfl rfl (fun hn=>?_) ?_
 ·refine As 100 ?_;dsimp only[go_sem];refine An ?_;refine Gp 2 100 8 rfl rfl ?_;dsimp only[go_sem];have hn:l=[]:=by simpa using hn
  subst hn;obtain rfl:r=[]:=by simpa [AE] using h.symm
  exact E7 Oy
 ·refine As 100 ?_;dsimp only[go_sem];refine An ?_;refine Er SX.row (l':=[]) h trivial rfl rfl rfl ?_;refine As 100 ?_;dsimp only[go_sem];refine An ?_;refine Ub 2 1 ?_;dsimp only[go_sem];exact E7 Oy
theorem P3 {l r} (h:Cp l=some r):
  CL Tryz.prog 52 [.osl 0] [] [some ⟨3,1,l.map Am⟩] (.osl 1) [] [some ⟨3,1,l.map Am⟩,some ⟨3,1,r.map Am⟩]:=by
 unfold Cp at h;refine FT OH fun w0 M0=>?_;dsimp only[Dh,List.cons_append,List.nil_append];refine As 100 ?_;dsimp only[go_sem];refine An ?_;refine YV trivial rfl rfl (fun hn=>?_) ?_
 ·refine As 100 ?_;dsimp only[go_sem];refine An ?_;refine Gp 2 3 1 rfl rfl ?_;dsimp only[go_sem];have hn:l=[]:=by simpa using hn
  subst hn;obtain rfl:r=[]:=by simpa [AE] using h.symm
  exact E7 OH
 ·refine As 100 ?_;dsimp only[go_sem];refine An ?_;refine Er Am (l':=[]) h trivial rfl rfl rfl ?_;refine As 100 ?_;dsimp only[go_sem];refine An ?_;refine Ub 2 1 ?_;dsimp only[go_sem];exact E7 OH
def Sb (x1 x2:Int) (x3 _x4:Int) (_x5 _x6:Int) (_x7:List SE) (_x8:Int) (_x9:List SX) (_x10:List Int) (_x11:List KE) (_x12:List Int) (_x13:List KE) (x14:List EV):Option (List EV):=
 (AE 56 x14 ([EV.mk x1 x3 x2 0 (([]:List Int))])).bind fun x15=>
 some x15
instance t_node_node_session_I1 {x1 x2 x3 x4 x5 x6 x7 x8 x9 x10 x11 x12 x13 x14}:KT (Sb x1 x2 x3 x4 x5 x6 x7 x8 x9 x10 x11 x12 x13 x14) 171 [.ptr 0 0,.iv x1,.iv x2] [some ⟨191,[.iv x3,.iv x4,.osl 0,.iv x5,.osl 1,.iv x6,Aq x7,.osl 2,.osl 3,.osl 4,.nl,.osl 5,.iv x8]⟩] [Al x9,Ae x10,Ai x11,Ae x12,Ai x13,Bk x14] (fun _=>(.tup [])) (fun _=>[some ⟨191,[.iv x3,.iv x4,.osl 0,.iv x5,.osl 1,.iv x6,Aq x7,.osl 2,.osl 3,.osl 4,.nl,.osl 7,.iv x8]⟩]) (fun r=>[Al x9,Ae x10,Ai x11,Ae x12,Ai x13,none,none,Bk r]):=⟨fun{r} h=>by
 refine Ft OE fun w0 M0=>?_;have ok:=OE;rw [Sb] at h;refine AD fun all H=>Ds (GP H 13 7 [4,1,9,6] [(6,[.ptr 0 0,.ptr 0 0,.ptr 0 0,.ptr 0 11]),(1,[.iv x1,.ptr 0 0,.ptr 0 0,.ptr 0 0,.ptr 0 0,.ptr 0 0,.ptr 0 0,.iv x3,.iv x2])] (Ds ?_));refine Ao 4 14 rfl ?_ ?_
 ·refine RV ?_;refine Ak 14 rfl (FW (.agg [.iv x1,.iv x3,.iv x2,.iv 0,Aj (([]:List Int))]) H.1 rfl trivial (by simp [go_sem]) ?_);exact Wx
 ·refine FW (.agg [.iv x1,.iv x3,.iv x2,.iv 0,Aj (([]:List Int))]) H.1 rfl trivial (by simp [go_sem]) ?_;exact Wx⟩
@[go_sem] def pm:EC:=eQ Tryz.f172
theorem ix:FnOK Tryz.prog 172 Tryz.f172 pm [.t 4] 2 40:=AP
def L6:Bool→Option Bool
| x4=>some x4
def L5 (x1 x2:SE):Option Bool:=
 A0 (decide (x1.ID=x2.ID)) (
 A0 (decide (x1.SS=x2.SS)) (
 A0 (decide (x1.Age=x2.Age)) (
 (Iz x1.NE x2.NE).bind fun x3=>
 L6 x3) (
 L6 false)) (
 L6 false)) (
 L6 false)
instance k_sess_Same_1 {x1 x2}:KP (L5 x1 x2) 68 [.agg (SE.row x1),.agg (SE.row x2)] (fun r=>(.bv r)):=⟨fun{r} h=>by
 have ok:=oJ 68 Tryz.f68 [.t 4] 2 29;refine FP ok fun w0 H0=>?_;rw [L5] at h;refine Vg 14 ?_;refine Vl [] (fun x4=>([(4,.bv x4)],[],[])) L6 r ?_ fun J1=>?_
 ·intro x4 h;rw [L6] at h;exact Wx
 ·exact Wx⟩
instance :KC (fun z:SE×SE=>L5 z.1 z.2) 68 [] (fun z=>[.agg (SE.row z.1),.agg (SE.row z.2)]) (fun z=>(.bv z)):=⟨⟨by kernel_rfl,rfl,fun z r hz=>k_sess_Same_1.k hz⟩⟩
theorem K6 {l r} (h:Ek l=some r):
  CL Tryz.prog 108 [.osl 0] [] [some ⟨147,2,l.map KE.row⟩] (.osl 1) [] [some ⟨147,2,l.map KE.row⟩,some ⟨147,2,r.map KE.row⟩]:=by
 unfold Ek at h;refine FT Oz fun w0 M0=>?_;dsimp only[Dh,List.cons_append,List.nil_append];refine As 100 ?_;dsimp only[go_sem];refine An ?_;refine YV trivial rfl rfl (fun hn=>?_) ?_
 ·refine As 100 ?_;dsimp only[go_sem];refine An ?_;refine Gp 2 147 2 rfl rfl ?_;dsimp only[go_sem];have hn:l=[]:=by simpa using hn
  subst hn;obtain rfl:r=[]:=by simpa [AE] using h.symm
  exact E7 Oz
 ·refine As 100 ?_;dsimp only[go_sem];refine An ?_;refine Er KE.row (l':=[]) h trivial rfl rfl rfl ?_;refine As 100 ?_;dsimp only[go_sem];refine An ?_;refine Ub 2 1 ?_;dsimp only[go_sem];exact E7 Oz
def RG (_x1 _x2:Int) (_x3 _x4:Int) (x5:List SE) (_x6:List Int) (_x7:List SX) (_x8:List Int) (_x9 _x10:List KE):Option (SE×Bool):=
 A0 (decide ((ln SE.row x5)=0)) (
 some ((SE.mk 0 (([]:List Int)) 0 0),false)) (
 (Ac x5 0).bind fun x11=>
 some (x11,true))
instance t_node_first_I2 {x1 x2 x3 x4 x5 x6 x7 x8 x9 x10}:KT (RG x1 x2 x3 x4 x5 x6 x7 x8 x9 x10) 158 [.agg [.iv x1,.iv x2,.osl 0,.iv x3,.osl 1,.iv x4,Aq x5,.osl 2,Aj x6,.osl 3]] [] [Al x7,Ae x8,Ai x9,Ai x10] (fun r=>(.tup [.agg [.iv r.1.ID,Aj r.1.NE,.iv r.1.SS,.iv r.1.Age],.bv r.2])) (fun _=>[]) (fun _=>[Al x7,Ae x8,Ai x9,Ai x10]):=⟨fun{r} h=>by refine Ft JV fun w0 M0=>?_;have ok:=JV;rw [RG] at h;exact Wx⟩
def MR (x1:SX) (x2:Int) (x3 _x4 _x5:Int) (_x6:List SX) (_x7:List Int) (x8:List ML):Option (List ML):=
 (AE 40 x8 ([ML.mk x3 x1.PE (Msg.mk x2 x1.EP 0)])).bind fun x9=>
 some x9
instance t_drink_drinker_send_I2 {x1 x2 x3 x4 x5 x6 x7 x8}:KT (MR x1 x2 x3 x4 x5 x6 x7 x8) 231 [.ptr 0 0,.agg (SX.row x1),.iv x2] [some ⟨278,[.iv x3,.iv x4,.osl 0,.iv x5,.osl 1,.osl 2]⟩] [Al x6,Ae x7,AG x8] (fun _=>(.tup [])) (fun _=>[some ⟨278,[.iv x3,.iv x4,.osl 0,.iv x5,.osl 1,.osl 4]⟩]) (fun r=>[Al x6,Ae x7,none,none,AG r]):=⟨fun{r} h=>by refine Ft iR fun w0 M0=>?_;have ok:=iR;rw [MR] at h;exact Wx⟩
def Ws (x1 x2:Int) (x3 _x4:Int) (_x5 _x6:Int) (_x7:List SE) (_x8:List Int) (_x9:Int) (_x10:List SX) (_x11:List Int) (_x12 _x13:List KE) (_x14:List ML) (x15:List EV):Option (List EV):=
 (AE 56 x15 ([EV.mk x1 x3 x2 0 (([]:List Int))])).bind fun x16=>
 some x16
instance t_node_node_session_I2 {x1 x2 x3 x4 x5 x6 x7 x8 x9 x10 x11 x12 x13 x14 x15}:KT (Ws x1 x2 x3 x4 x5 x6 x7 x8 x9 x10 x11 x12 x13 x14 x15) 171 [.ptr 0 0,.iv x1,.iv x2] [some ⟨191,[.iv x3,.iv x4,.osl 0,.iv x5,.osl 1,.iv x6,Aq x7,.osl 2,Aj x8,.osl 3,.osl 4,.osl 5,.iv x9]⟩] [Al x10,Ae x11,Ai x12,Ai x13,AG x14,Bk x15] (fun _=>(.tup [])) (fun _=>[some ⟨191,[.iv x3,.iv x4,.osl 0,.iv x5,.osl 1,.iv x6,Aq x7,.osl 2,Aj x8,.osl 3,.osl 4,.osl 7,.iv x9]⟩]) (fun r=>[Al x10,Ae x11,Ai x12,Ai x13,AG x14,none,none,Bk r]):=⟨fun{r} h=>by
 refine Ft OE fun w0 M0=>?_;have ok:=OE;rw [Ws] at h;refine AD fun all H=>Ds (GP H 13 7 [4,1,9,6] [(6,[.ptr 0 0,.ptr 0 0,.ptr 0 0,.ptr 0 11]),(1,[.iv x1,.ptr 0 0,.ptr 0 0,.ptr 0 0,.ptr 0 0,.ptr 0 0,.ptr 0 0,.iv x3,.iv x2])] (Ds ?_));refine Ao 4 14 rfl ?_ ?_
 ·refine RV ?_;refine Ak 14 rfl (FW (.agg [.iv x1,.iv x3,.iv x2,.iv 0,Aj (([]:List Int))]) H.1 rfl trivial (by simp [go_sem]) ?_);exact Wx
 ·refine FW (.agg [.iv x1,.iv x3,.iv x2,.iv 0,Aj (([]:List Int))]) H.1 rfl trivial (by simp [go_sem]) ?_;exact Wx⟩
def JL (x1:SX) (x2:Int) (x3 _x4:Int) (_x5 _x6:Int) (_x7:List SE) (_x8:List Int) (_x9:Int) (_x10:List SX) (_x11:List Int) (_x12 _x13:List KE) (x14:List ML) (_x15:List EV):Option (List ML):=
 (AE 40 x14 ([ML.mk x3 x1.PE (Msg.mk x2 x1.EP 0)])).bind fun x16=>
 some x16
instance t_node_node_send_I2 {x1 x2 x3 x4 x5 x6 x7 x8 x9 x10 x11 x12 x13 x14 x15}:KT (JL x1 x2 x3 x4 x5 x6 x7 x8 x9 x10 x11 x12 x13 x14 x15) 218 [.ptr 0 0,.agg (SX.row x1),.iv x2] [some ⟨191,[.iv x3,.iv x4,.osl 0,.iv x5,.osl 1,.iv x6,Aq x7,.osl 2,Aj x8,.osl 3,.osl 4,.osl 5,.iv x9]⟩] [Al x10,Ae x11,Ai x12,Ai x13,AG x14,Bk x15] (fun _=>(.tup [])) (fun _=>[some ⟨191,[.iv x3,.iv x4,.osl 0,.iv x5,.osl 1,.iv x6,Aq x7,.osl 2,Aj x8,.osl 3,.osl 7,.osl 5,.iv x9]⟩]) (fun r=>[Al x10,Ae x11,Ai x12,Ai x13,none,Bk x15,none,AG r]):=⟨fun{r} h=>by refine Ft iM fun w0 M0=>?_;have ok:=iM;rw [JL] at h;exact Wx⟩
def RU (x1 x2:Int) (x3 _x4:Int) (_x5 _x6:Int) (_x7:List SE) (_x8:List Int) (_x9:Int) (_x10:List SX) (_x11:List Int) (_x12 _x13:List KE) (_x14:List ML) (x15:List EV):Option (List EV):=
 (AE 56 x15 ([EV.mk x1 x3 0 x2 (([]:List Int))])).bind fun x16=>
 some x16
instance t_node_node_edge_I3 {x1 x2 x3 x4 x5 x6 x7 x8 x9 x10 x11 x12 x13 x14 x15}:KT (RU x1 x2 x3 x4 x5 x6 x7 x8 x9 x10 x11 x12 x13 x14 x15) 120 [.ptr 0 0,.iv x1,.iv x2] [some ⟨191,[.iv x3,.iv x4,.osl 0,.iv x5,.osl 1,.iv x6,Aq x7,.osl 2,Aj x8,.osl 3,.osl 4,.osl 5,.iv x9]⟩] [Al x10,Ae x11,Ai x12,Ai x13,AG x14,Bk x15] (fun _=>(.tup [])) (fun _=>[some ⟨191,[.iv x3,.iv x4,.osl 0,.iv x5,.osl 1,.iv x6,Aq x7,.osl 2,Aj x8,.osl 3,.osl 4,.osl 7,.iv x9]⟩]) (fun r=>[Al x10,Ae x11,Ai x12,Ai x13,AG x14,none,none,Bk r]):=⟨fun{r} h=>by
 refine Ft OC fun w0 M0=>?_;have ok:=OC;rw [RU] at h;refine AD fun all H=>Ds (GP H 13 7 [4,1,9,6] [(6,[.ptr 0 0,.ptr 0 0,.ptr 0 0,.ptr 0 11]),(1,[.iv x1,.ptr 0 0,.ptr 0 0,.ptr 0 0,.ptr 0 0,.ptr 0 0,.ptr 0 0,.iv x3,.iv x2])] (Ds ?_));refine Ao 4 14 rfl ?_ ?_
 ·refine RV ?_;refine Ak 14 rfl (FW (.agg [.iv x1,.iv x3,.iv 0,.iv x2,Aj (([]:List Int))]) H.1 rfl trivial (by simp [go_sem]) ?_);exact Wx
 ·refine FW (.agg [.iv x1,.iv x3,.iv 0,.iv x2,Aj (([]:List Int))]) H.1 rfl trivial (by simp [go_sem]) ?_;exact Wx⟩
@[go_sem] def pe:EC:=eQ Tryz.f163
theorem XT:FnOK Tryz.prog 163 Tryz.f163 pe [.t 2] 1 4:=AP
def Rq (x1:NO):Option (List Int):=
 (L4 x1 ((fun z=>Hx z))).bind fun x2=>
 some x2
instance k_node_Live {x1}:KP (Rq x1) 163 [.agg (NO.row x1)] (fun r=>(Aj r)):=⟨fun{r} h=>by refine FP XT fun w0 H0=>?_;have ok:=XT;rw [Rq] at h;exact Wx⟩
@[go_sem] def po:EC:=eQ Tryz.f176
theorem iz:FnOK Tryz.prog 176 Tryz.f176 po [.t 6] 3 19:=AP
def S5:Int→Option (Bool×Int)
| x15=>some (decide (x15=0),x15)
def S4 (x2 x8:Int):Bool→Option (Bool×Int)
| x14=>
 A0 x14 (
 S5 x2) (
 S5 x8)
def HC (x1:Bool) (x2:Int) (_x3 _x4:Int) (_x5 _x6:Int) (_x7:List SE) (x8:Int) (_x9:List SX) (_x10:List Int) (_x11:List KE) (_x12:List Int) (_x13:List KE):Option (Bool×Int):=
 A0 (decide (x8=0)) (
 (S4 x2 x8) (!x1)) (
 (S4 x2 x8) false)
instance t_node_node_need_I3 {x1 x2 x3 x4 x5 x6 x7 x8 x9 x10 x11 x12 x13}:KT (HC x1 x2 x3 x4 x5 x6 x7 x8 x9 x10 x11 x12 x13) 114 [.ptr 0 0,.bv x1,.iv x2] [some ⟨191,[.iv x3,.iv x4,.osl 0,.iv x5,.osl 1,.iv x6,Aq x7,.osl 2,.osl 3,.osl 4,.nl,.nl,.iv x8]⟩] [Al x9,Ae x10,Ai x11,Ae x12,Ai x13] (fun r=>(.bv r.1)) (fun r=>[some ⟨191,[.iv x3,.iv x4,.osl 0,.iv x5,.osl 1,.iv x6,Aq x7,.osl 2,.osl 3,.osl 4,.nl,.nl,.iv r.2]⟩]) (fun _=>[Al x9,Ae x10,Ai x11,Ae x12,Ai x13]):=⟨fun{r} h=>by
 refine Ft OA fun w0 M0=>?_;have ok:=OA;rw [HC] at h;refine Vg 13 ?_;refine Vk [0,1,1,1] (fun x14=>[(15,.bv x14)]) (S4 x2 x8) r ?_ fun J1=>?_
 ·intro x14 h;rw [S4] at h;refine Vm [0,1] (fun x15=>([],[(0,12,.iv x15)],[],[])) S5 r ?_ fun J2=>?_
  ·intro x15 h;rw [S5] at h;exact Wx
  ·exact Wx
 ·exact Wx⟩
def aL:List Int→Option (List Int)
| x33=>some x33
def NQ (x17:Int):List Int→Option ((Int×List Int) ⊕ (List Int))
| x22=>some (.inl (wr (x17+1),x22))
def Si (x6:List SX) (p0:(SX→Option Bool)):(Int×List Int)→Option ((Int×List Int) ⊕ (List Int))
| (x17,x18)=>
 A0 (decide (x17<(ln SX.row x6))) (
 (Ac x6 x17).bind fun x19=>
 (p0 x19).bind fun x20=>
 A0 x20 (
 (AE 8 x18 ([x19.PE])).bind fun x21=>
 (NQ x17) x21) (
 (NQ x17) x18)) (
 Option.map Sum.inr (aL x18))
def WQ (_x1 _x2:Int) (_x3 _x4:Int) (_x5:List SE) (x6:List SX) (_x7:List Int) (_x8:List KE) (_x9:List Int) (_x10:List KE) (p0:(SX→Option Bool)):Option (List Int):=loop (Si x6 p0) (0,([]:List Int))
instance t_node_peers_I1 {x1 x2 x3 x4 x5 x6 x7 x8 x9 x10 g0 caps0 p0} [ic0:KC p0 g0 caps0 (fun z=>[.agg (SX.row z)]) (fun z=>.bv z)]:KT (WQ x1 x2 x3 x4 x5 x6 x7 x8 x9 x10 p0) 161 [.agg [.iv x1,.iv x2,.osl 0,.iv x3,.osl 1,.iv x4,Aq x5,.osl 2,.osl 3,.osl 4],.clo g0 caps0] [] [Al x6,Ae x7,Ai x8,Ae x9,Ai x10] (fun _=>(.osl 5)) (fun _=>[]) (fun r=>[Al x6,Ae x7,Ai x8,Ae x9,Ai x10,Ae r]):=⟨fun{r} h=>by
 have hc0:=ic0.k;refine Ft XS fun w0 M0=>?_;have ok:=XS;have A1:AJ [.r 7 5]:=trivial;rw [WQ] at h;refine Vg 19 ?_;refine Vl [] (fun x33=>([(5,.osl 5)],[],[Al x6,Ae x7,Ai x8,Ae x9,Ai x10,Ae x33])) aL r ?_ fun J1=>?_
 ·intro x33 h;rw [aL] at h;exact Wx
 ·refine Vg 1 ?_;(refine Wj [.t 5 3 1] ?_);refine Ml h [1,1,3,1,5,2] (fun s=>([(13,.iv s.1)],[],[Al x6,Ae x7,Ai x8,Ae x9,Ai x10,Ae s.2])) ?_ (hok:=by rintro ⟨x17,x18⟩;first | rfl | (simp [go_sem];done) | simp [go_sem,C2 _ hc0.pu]);rintro n1 ⟨x17,x18⟩ y1 h hin1 hout1;rw [Si] at h;refine Vg 5 ?_;refine MI h (fun h=>?_) fun h=>?_
  ·refine Vg 5 ?_;have ⟨x19,ex19,h⟩:=Bs h;refine C5 SX.row ex19 trivial rfl rfl rfl (H9 SX.row ex19 trivial rfl rfl rfl (Vg 7 ?_));have ⟨x20,ex20,h⟩:=Bs h;refine U8 trivial rfl hc0 (x:=x19) ex20 (by first | exact AA _ | simp [go_sem]) (by first | rfl | simp [go_sem,hc0.pu]) (Vg 1 ?_);refine Vl [1,1,3,1,5,3] (fun x22=>([],[],[Al x6,Ae x7,Ai x8,Ae x9,Ai x10,Ae x22])) (NQ x17) y1 ?_ fun J2=>?_
   ·intro x22 h;rw [NQ] at h;exact Wx
   ·exact Wx
  ·refine Vg 1 ?_;exact Eh J1 (CU h hout1) (hok:=by first | rfl | simp [go_sem])⟩
def L0 (x1 x2:Int) (x3 _x4:Int) (_x5 _x6:Int) (_x7:List SE) (_x8:Int) (_x9:List SX) (_x10:List Int) (_x11:List KE) (_x12:List Int) (_x13:List KE):Option (List EV):=
 (AE 56 [] ([EV.mk x1 x3 x2 0 (([]:List Int))])).bind fun x14=>
 some x14
instance t_node_node_session_I3 {x1 x2 x3 x4 x5 x6 x7 x8 x9 x10 x11 x12 x13}:KT (L0 x1 x2 x3 x4 x5 x6 x7 x8 x9 x10 x11 x12 x13) 171 [.ptr 0 0,.iv x1,.iv x2] [some ⟨191,[.iv x3,.iv x4,.osl 0,.iv x5,.osl 1,.iv x6,Aq x7,.osl 2,.osl 3,.osl 4,.nl,.nl,.iv x8]⟩] [Al x9,Ae x10,Ai x11,Ae x12,Ai x13] (fun _=>(.tup [])) (fun _=>[some ⟨191,[.iv x3,.iv x4,.osl 0,.iv x5,.osl 1,.iv x6,Aq x7,.osl 2,.osl 3,.osl 4,.nl,.osl 6,.iv x8]⟩]) (fun r=>[Al x9,Ae x10,Ai x11,Ae x12,Ai x13,none,Bk r]):=⟨fun{r} h=>by refine Ft OE fun w0 M0=>?_;have ok:=OE;rw [L0] at h;refine AD fun all H=>Ds (GP H 14 6 [14,6] [(6,[.ptr 0 0,.ptr 0 0,.ptr 0 0,.ptr 0 11,.nl,.iv x1,.ptr 0 0,.ptr 0 0,.ptr 0 0,.ptr 0 0,.ptr 0 0,.ptr 0 0,.iv x3,.iv x2])] (Ds ?_));refine Ak 14 rfl (FW (.agg [.iv x1,.iv x3,.iv x2,.iv 0,Aj (([]:List Int))]) H.1 rfl trivial (by simp [go_sem]) ?_);exact Wx⟩
end
end NX
end Go.Proofs.YtgnjledocpbchaaGreat
