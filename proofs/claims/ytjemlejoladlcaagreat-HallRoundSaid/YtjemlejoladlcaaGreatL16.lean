/-
  The function (*narthex/node.node).session: its code compiled, a model, and that the code answers as the model. Written by a program of ours (lb.py). No statement of the seat is proved here.
-/
import Derived.Test.YtjemlejoladlcaaGreatL14
set_option maxRecDepth 100000
set_option maxHeartbeats 40000000
namespace Go.Proofs.YtjemlejoladlcaaGreat
namespace NX
open Go
noncomputable section
@[go_sem] def rD:EC:=eQ Tryz.f147
theorem OM:FnOK Tryz.prog 147 Tryz.f147 rD [] 3 22:=B6
@[go_sem] def rF:EC:=eQ Tryz.f149
theorem K1:FnOK Tryz.prog 149 Tryz.f149 rF [.c 2 (some 4),.t 3] 1 14:=B6
def RT (x1:NO):Option (SE×Bool):=
 A0 (decide ((ln SE.row x1.BK.SE)=0)) (
 some ((SE.mk 0 (([]:List Int)) 0 0),false)) (
 (A4 x1.BK.SE 0).bind fun x2=>
 some (x2,true))
theorem vu {x1 r} (h:RT x1=some r):FPx 149 [.agg (NO.row x1)] (.tup [.agg (SE.row r.1),.bv r.2]):=by refine FP K1 fun w0 H0=>?_;have ok:=K1;rw [RT] at h;exact W
def T8 (x23:Int):Bool→Option (Int×Bool)
| x26=>some (x23,x26)
def T7 (x1:List SX) (x2:Int) (p2:((SX×Int)→Option Int)):Int→Option (Int×Bool)
| x23=>
 A0 (decide (x23<(ln SX.row x1))) (
 (A4 x1 x23).bind fun x24=>
 (p2 (x24,x2)).bind fun x25=>
 (T8 x23) (decide (x25=0))) (
 (T8 x23) false)
def Xs (x1:List SX) (x2:Int) (p2:((SX×Int)→Option Int)):(Int×Int)→Option ((Int×Int) ⊕ (Int×Bool))
| (x7,x8)=>
 A0 (decide (x7<x8)) (
 (A4 x1 (wr (Int.fdiv (kw .u64 (wr (x7+x8))) (2 ^ min (Int.toNat 1) (IntKind.bits .u64))))).bind fun x9=>
 (p2 (x9,x2)).bind fun x10=>
 A0 (decide (x10<0)) (
 some (.inl (wr ((wr (Int.fdiv (kw .u64 (wr (x7+x8))) (2 ^ min (Int.toNat 1) (IntKind.bits .u64))))+1),x8))) (
 some (.inl (x7,wr (Int.fdiv (kw .u64 (wr (x7+x8))) (2 ^ min (Int.toNat 1) (IntKind.bits .u64))))))) (
 Option.map Sum.inr ((T7 x1 x2 p2) x7))
def Lj (x1:List SX) (x2:Int) (p2:((SX×Int)→Option Int)):Option (Int×Bool):=loop (Xs x1 x2 p2) (0,ln SX.row x1)
theorem iP {x1 x2 g2 caps2 p2 r} (h:Lj x1 x2 p2=some r) (hc2:CloOK Tryz.prog g2 caps2 (fun z=>[.agg (SX.row z.1),.iv z.2]) p2 (fun z=>.iv z)):FPx 151 [CU x1,.iv x2,.clo g2 caps2] (.tup [.iv r.1,.bv r.2]):=by
 have ok:=oJ 151 Tryz.f151 [.t 6,.t 7] 3 46;refine FP ok fun w0 H0=>?_;rw [Lj] at h;refine Vg 18 ?_;refine Vk [0,3,5,1] (fun x23=>[(9,.iv x23)]) (T7 x1 x2 p2) r ?_ fun J1=>?_
 ·intro x23 h;rw [T7] at h;refine Vg 7 ?_;refine Vk [] (fun x26=>[(6,.iv x23),(7,.bv x26)]) (T8 x23) r ?_ fun J2=>?_
  ·intro x26 h;rw [T8] at h;(try dsimp only);exact MD ok h
  ·refine MC 39 h (fun h=>?_) fun h=>?_
   ·refine Vg 3 ?_;have ⟨x24,ex24,h⟩:=Bs h;refine AZ SX.row ex24 trivial rfl rfl rfl (Vg 2 ?_);have ⟨x25,ex25,h⟩:=Bs h;refine Dy trivial rfl hc2 (x:=(x24,x2)) ex25 (by first | exact Am _ | simp [go_sem]) (by first | rfl | simp [go_sem,hc2.pu]) (Vg 5 ?_);exact AQ J2 h (hok:=by first | rfl | simp [go_sem,Ax _ hc2.pu])
   ·refine Vg 12 ?_;exact AQ J2 h (hok:=by first | rfl | simp [go_sem,Ax _ hc2.pu])
 ·refine Vg 1 ?_;refine Mk h [0,3,5,1] (fun s=>[(9,.iv s.1),(10,.iv s.2)]) ?_ (hok:=by rintro ⟨x7,x8⟩;first | rfl | (simp [go_sem];done) | simp [go_sem,Ax _ hc2.pu]);rintro n1 ⟨x7,x8⟩ y1 h hin1 hout1;rw [Xs] at h;refine Vg 7 ?_;refine MI h (fun h=>?_) fun h=>?_
  ·refine Vg 17 ?_;have ⟨x9,ex9,h⟩:=Bs h;refine AZ SX.row ex9 trivial rfl rfl rfl (Vg 2 ?_);have ⟨x10,ex10,h⟩:=Bs h;refine Dy trivial rfl hc2 (x:=(x9,x2)) ex10 (by first | exact Am _ | simp [go_sem]) (by first | rfl | simp [go_sem,hc2.pu]) (Vg 2 ?_);refine MI h (fun h=>?_) fun h=>?_
   ·refine Vg 6 ?_;exact Da h hin1 (hok:=by first | rfl | simp [go_sem,Ax _ hc2.pu])
   ·refine Vg 5 ?_;exact Da h hin1 (hok:=by first | rfl | simp [go_sem,Ax _ hc2.pu])
  ·refine Vg 1 ?_;exact AQ J1 (BY h hout1) (hok:=by first | rfl | simp [go_sem,Ax _ hc2.pu])
def Is (x1:SX) (x2:Int):Option Int:=some (wr (x1.PE-x2))
theorem iI {x1 x2 r} (h:Is x1 x2=some r):FPx 152 [.agg (SX.row x1),.iv x2] (.iv r):=by have ok:=oJ 152 Tryz.f152 [.t 4] 2 7;refine FP ok fun w0 H0=>?_;rw [Is] at h;exact W
def T6 (x23:Int):Bool→Option (Int×Bool)
| x26=>some (x23,x26)
def T5 (x1:List KE) (x2:Int) (p2:((KE×Int)→Option Int)):Int→Option (Int×Bool)
| x23=>
 A0 (decide (x23<(ln KE.row x1))) (
 (A4 x1 x23).bind fun x24=>
 (p2 (x24,x2)).bind fun x25=>
 (T6 x23) (decide (x25=0))) (
 (T6 x23) false)
def Xr (x1:List KE) (x2:Int) (p2:((KE×Int)→Option Int)):(Int×Int)→Option ((Int×Int) ⊕ (Int×Bool))
| (x7,x8)=>
 A0 (decide (x7<x8)) (
 (A4 x1 (wr (Int.fdiv (kw .u64 (wr (x7+x8))) (2 ^ min (Int.toNat 1) (IntKind.bits .u64))))).bind fun x9=>
 (p2 (x9,x2)).bind fun x10=>
 A0 (decide (x10<0)) (
 some (.inl (wr ((wr (Int.fdiv (kw .u64 (wr (x7+x8))) (2 ^ min (Int.toNat 1) (IntKind.bits .u64))))+1),x8))) (
 some (.inl (x7,wr (Int.fdiv (kw .u64 (wr (x7+x8))) (2 ^ min (Int.toNat 1) (IntKind.bits .u64))))))) (
 Option.map Sum.inr ((T5 x1 x2 p2) x7))
def Li (x1:List KE) (x2:Int) (p2:((KE×Int)→Option Int)):Option (Int×Bool):=loop (Xr x1 x2 p2) (0,ln KE.row x1)
theorem iO {x1 x2 g2 caps2 p2 r} (h:Li x1 x2 p2=some r) (hc2:CloOK Tryz.prog g2 caps2 (fun z=>[.agg (KE.row z.1),.iv z.2]) p2 (fun z=>.iv z)):FPx 204 [Bb x1,.iv x2,.clo g2 caps2] (.tup [.iv r.1,.bv r.2]):=by
 have ok:=oJ 204 Tryz.f204 [.t 6,.t 7] 3 46;refine FP ok fun w0 H0=>?_;rw [Li] at h;refine Vg 18 ?_;refine Vk [0,3,5,1] (fun x23=>[(9,.iv x23)]) (T5 x1 x2 p2) r ?_ fun J1=>?_
 ·intro x23 h;rw [T5] at h;refine Vg 7 ?_;refine Vk [] (fun x26=>[(6,.iv x23),(7,.bv x26)]) (T6 x23) r ?_ fun J2=>?_
  ·intro x26 h;rw [T6] at h;(try dsimp only);exact MD ok h
  ·refine MC 39 h (fun h=>?_) fun h=>?_
   ·refine Vg 3 ?_;have ⟨x24,ex24,h⟩:=Bs h;refine AZ KE.row ex24 trivial rfl rfl rfl (Vg 2 ?_);have ⟨x25,ex25,h⟩:=Bs h;refine Dy trivial rfl hc2 (x:=(x24,x2)) ex25 (by first | exact Am _ | simp [go_sem]) (by first | rfl | simp [go_sem,hc2.pu]) (Vg 5 ?_);exact AQ J2 h (hok:=by first | rfl | simp [go_sem,Ax _ hc2.pu])
   ·refine Vg 12 ?_;exact AQ J2 h (hok:=by first | rfl | simp [go_sem,Ax _ hc2.pu])
 ·refine Vg 1 ?_;refine Mk h [0,3,5,1] (fun s=>[(9,.iv s.1),(10,.iv s.2)]) ?_ (hok:=by rintro ⟨x7,x8⟩;first | rfl | (simp [go_sem];done) | simp [go_sem,Ax _ hc2.pu]);rintro n1 ⟨x7,x8⟩ y1 h hin1 hout1;rw [Xr] at h;refine Vg 7 ?_;refine MI h (fun h=>?_) fun h=>?_
  ·refine Vg 17 ?_;have ⟨x9,ex9,h⟩:=Bs h;refine AZ KE.row ex9 trivial rfl rfl rfl (Vg 2 ?_);have ⟨x10,ex10,h⟩:=Bs h;refine Dy trivial rfl hc2 (x:=(x9,x2)) ex10 (by first | exact Am _ | simp [go_sem]) (by first | rfl | simp [go_sem,hc2.pu]) (Vg 2 ?_);refine MI h (fun h=>?_) fun h=>?_
   ·refine Vg 6 ?_;exact Da h hin1 (hok:=by first | rfl | simp [go_sem,Ax _ hc2.pu])
   ·refine Vg 5 ?_;exact Da h hin1 (hok:=by first | rfl | simp [go_sem,Ax _ hc2.pu])
  ·refine Vg 1 ?_;exact AQ J1 (BY h hout1) (hok:=by first | rfl | simp [go_sem,Ax _ hc2.pu])
def Ir (x1:KE) (x2:Int):Option Int:=some (wr (x1.PE-x2))
theorem iH {x1 x2 r} (h:Ir x1 x2=some r):FPx 205 [.agg (KE.row x1),.iv x2] (.iv r):=by have ok:=oJ 205 Tryz.f205 [.t 4] 2 7;refine FP ok fun w0 H0=>?_;rw [Ir] at h;exact W
def WU (x1:SX) (x2:Int):Option Bool:=some (decide (x1.PE=x2))
theorem vx {x1 x2 r} (h:WU x1 x2=some r):FPx 144 [.agg (SX.row x1),.elt (Ad x2) 0] (.bv r):=by have ok:=oJ 144 Tryz.f144 [.t 3] 2 6;refine FP ok fun w0 H0=>?_;rw [WU] at h;exact W
@[go_sem] def rx:EC:=eQ Tryz.f140
theorem OL:FnOK Tryz.prog 140 Tryz.f140 rx [] 3 22:=B6
@[go_sem] def si:EC:=eQ Tryz.f240
theorem kE:FnOK Tryz.prog 240 Tryz.f240 si [] 3 26:=B6
def JS (x1:SX):Option Bool:=some (decide (x1.SS=1))
theorem bb {x1 r} (h:JS x1=some r):FPx 212 [.agg (SX.row x1)] (.bv r):=by have ok:=oJ 212 Tryz.f212 [.t 2] 1 5;refine FP ok fun w0 H0=>?_;rw [JS] at h;exact W
def Nw (x1:SX) (x2:Int):Option Bool:=some (decide (x1.PE=x2))
theorem iG {x1 x2 r} (h:Nw x1 x2=some r):FPx 198 [.agg (SX.row x1),.elt (Ad x2) 0] (.bv r):=by have ok:=oJ 198 Tryz.f198 [.t 3] 2 6;refine FP ok fun w0 H0=>?_;rw [Nw] at h;exact W
def XC:Unit→Option Bool
| ()=>some true
def XD (x1 x2:List SE) (p2:((SE×SE)→Option Bool)):Int→Option (Int ⊕ Bool)
| x7=>
 A0 (decide (x7<(ln SE.row x1))) (
 (A4 x1 x7).bind fun x8=>
 (A4 x2 x7).bind fun x9=>
 (p2 (x8,x9)).bind fun x10=>
 A0 (!x10) (
 Option.map Sum.inr (some false)) (
 some (.inl (wr (x7+1))))) (
 Option.map Sum.inr (XC ()))
def Tp (x1 x2:List SE) (p2:((SE×SE)→Option Bool)):Option Bool:=
 A0 (!decide ((ln SE.row x1)=(ln SE.row x2))) (
 some false) (
 loop (XD x1 x2 p2) 0)
theorem w4 {x1 x2 g2 caps2 p2 r} (h:Tp x1 x2 p2=some r) (hc2:CloOK Tryz.prog g2 caps2 (fun z=>[.agg (SE.row z.1),.agg (SE.row z.2)]) p2 (fun z=>.bv z)):FPx 180 [Av x1,Av x2,.clo g2 caps2] (.bv r):=by
 have ok:=oJ 180 Tryz.f180 [.t 6] 3 29;refine FP ok fun w0 H0=>?_;rw [Tp] at h;refine Vg 13 ?_;refine MI h (fun h=>?_) fun h=>?_
 ·refine Vg 4 ?_;exact MD ok h
 ·refine Vg 8 ?_;refine Vk [] (fun _=>[]) XC r ?_ fun J1=>?_
  ·rintro ⟨⟩ h;rw [XC] at h;refine Vg 4 ?_;exact MD ok h
  ·refine Vg 1 ?_;refine Mk h [1,2,12,2] (fun x7=>[(17,.iv x7)]) ?_ (hok:=by intro x7;first | rfl | (simp [go_sem];done) | simp [go_sem,Ax _ hc2.pu]);rintro n1 x7 y1 h hin1 hout1;rw [XD] at h;refine Vg 5 ?_;refine MI h (fun h=>?_) fun h=>?_
   ·refine Vg 6 ?_;have ⟨x8,ex8,h⟩:=Bs h;refine AZ SE.row ex8 trivial rfl rfl rfl (Vg 9 ?_);have ⟨x9,ex9,h⟩:=Bs h;refine AZ SE.row ex9 trivial rfl rfl rfl (Vg 9 ?_);have ⟨x10,ex10,h⟩:=Bs h;refine Dy trivial rfl hc2 (x:=(x8,x9)) ex10 (by first | exact Am _ | simp [go_sem]) (by first | rfl | simp [go_sem,hc2.pu]) (Vg 2 ?_);refine MI h (fun h=>?_) fun h=>?_
    ·refine Vg 4 ?_;exact MD ok (BY h hout1)
    ·refine Vg 6 ?_;exact Da h hin1 (hok:=by first | rfl | simp [go_sem,Ax _ hc2.pu])
   ·refine Vg 1 ?_;exact AQ J1 (BY h hout1) (hok:=by first | rfl | simp [go_sem,Ax _ hc2.pu])
@[go_sem] def rA:EC:=.seq (.reg [Qa 14 (.bin .lss (.t 13) (.t 12))]) (.seq (.ite (.t 14) (.skip) (.exit 0)) (.seq (.blk 1 (.seq (.reg [Qm 15 13,Qm 5 15]) (.seq (.drw [Qm 16 0,Qm 17 5,Qk 18 2 16 17,Qe 19 2 18,Qm 20 1,Qm 21 5,Qk 22 2 20 21,Qe 23 2 22,Qa 24 (.eqs true [true,true] (.t 19) (.t 23))] [[],[],[0,1],[2,0,1],[],[],[4,5],[6,4,5],[3,7,2,0,1,6,4,5]] [[2],[2],[0,1,3],[2,8],[6],[6],[4,5,7],[6,8],[3,7]]) (.ite (.t 24) (.seq (.reg [Qa 4 (.mv (.c .ff))]) (.ret)) (.skip))))) (.reg [Qv 25 13 1,Qm 13 25])))
@[go_sem] def rz:EC:=.seq (.reg [Qa 4 (.mv (.c .ff))]) (.seq (.seq (.reg [Qm 6 0,Qa 7 (.len (.t 6)),Qm 8 1,Qa 9 (.len (.t 8)),Qa 10 (.bin .neq (.t 7) (.t 9))]) (.ite (.t 10) (.seq (.reg [Qa 4 (.mv (.c .ff))]) (.ret)) (.skip))) (.seq (.seq (.reg [Qm 11 0,Qa 12 (.len (.t 11)),Qi 13 0]) (.blk 0 (.loop rA))) (.seq (.reg [Qa 4 (.mv (.c .tt))]) (.ret))))
def XE:Unit→Option Bool
| ()=>some true
def XF (x1 x2:List KE):Int→Option (Int ⊕ Bool)
| x6=>
 A0 (decide (x6<(ln KE.row x1))) (
 (A4 x1 x6).bind fun x7=>
 (A4 x2 x6).bind fun x8=>
 A0 (!(decide (x7.PE=x8.PE)&&(decide (x7.EP=x8.EP)&&true))) (
 Option.map Sum.inr (some false)) (
 some (.inl (wr (x6+1))))) (
 Option.map Sum.inr (XE ()))
def Oi (x1 x2:List KE):Option Bool:=
 A0 (!decide ((ln KE.row x1)=(ln KE.row x2))) (
 some false) (
 loop (XF x1 x2) 0)
theorem iT {x1 x2 r} (h:Oi x1 x2=some r):FPx 143 [Bb x1,Bb x2] (.bv r):=by
 have ok:=oK 143 Tryz.f143 rz [.t 4] 2 24;refine FP ok fun w0 H0=>?_;rw [Oi] at h;refine Vg 13 ?_;refine MI h (fun h=>W) fun h=>?_;refine Vg 8 ?_;refine Vk [] (fun _=>[]) XE r ?_ fun J1=>?_
 ·rintro ⟨⟩ h;rw [XE] at h;exact W
 ·refine Vg 1 ?_;refine Mk h [0,2,10,1] (fun x6=>[(13,.iv x6)]) ?_;rintro n1 x6 y1 h hin1 hout1;rw [XF] at h;refine Vg 5 ?_;refine MI h (fun h=>?_) fun h=>W;refine Vg 9 ?_;have ⟨x7,ex7,h⟩:=Bs h;have ⟨x8,ex8,h⟩:=Bs h;refine Ai fun all H=>Gs ?_;exact W
@[go_sem] def rK:EC:=eQ Tryz.f165
theorem kg:FnOK Tryz.prog 165 Tryz.f165 rK [.t 3] 2 26:=B6
def bV:Unit→Option Int
| ()=>some 0
def WM (x1:NO) (x2:Int):Int→Option (Int ⊕ Int)
| x5=>
 A0 (decide (x5<(ln KE.row x1.KN))) (
 (A4 x1.KN x5).bind fun x6=>
 A0 (decide (x6.PE=x2)) (
 Option.map Sum.inr (some x6.EP)) (
 some (.inl (wr (x5+1))))) (
 Option.map Sum.inr (bV ()))
def L3 (x1:NO) (x2:Int):Option Int:=loop (WM x1 x2) 0
theorem b7 {x1 x2 r} (h:L3 x1 x2=some r):FPx 89 [.agg (NO.row x1),.iv x2] (.iv r):=by
 have ok:=oJ 89 Tryz.f89 [.t 4] 2 19;refine FP ok fun w0 H0=>?_;rw [L3] at h;refine Vg 13 ?_;refine Vl [] (fun _=>([],[],[])) bV r ?_ fun J1=>?_
 ·rintro ⟨⟩ h;rw [bV] at h;exact W
 ·refine Vg 1 ?_;refine Ml h [1,1,6,2] (fun x5=>([(10,.iv x5)],[],[])) ?_;rintro n1 x5 y1 h hin1 hout1;rw [WM] at h;exact W
def WN (x1:SX) (x2:KE):Option Bool:=some (decide (x1.PE=x2.PE))
theorem vv {x1 x2 r} (h:WN x1 x2=some r):FPx 195 [.agg (SX.row x1),.elt (KE.row x2) 0] (.bv r):=by have ok:=oJ 195 Tryz.f195 [.t 3] 2 7;refine FP ok fun w0 H0=>?_;rw [WN] at h;exact W
def WL (x1 x2:KE):Option Bool:=some (decide (x1.PE=x2.PE))
theorem vp {x1 x2 r} (h:WL x1 x2=some r):FPx 196 [.agg (KE.row x1),.elt (KE.row x2) 0] (.bv r):=by have ok:=oJ 196 Tryz.f196 [.t 3] 2 7;refine FP ok fun w0 H0=>?_;rw [WL] at h;exact W
def Xi (x1:SX):Option Bool:=some (decide (x1.SS=3))
theorem vz {x1 r} (h:Xi x1=some r):FPx 169 [.agg (SX.row x1)] (.bv r):=by have ok:=oJ 169 Tryz.f169 [.t 2] 1 5;refine FP ok fun w0 H0=>?_;rw [Xi] at h;exact W
def QS:Bool→Option Bool
| x4=>some x4
def QR (x1:SX) (x2:Int) (x3:Msg):Option Bool:=
 A0 (decide (x1.PE=x2)) (
 QS (decide (x1.EP=x3.EP))) (
 QS false)
theorem uU {x1 x2 x3 r} (h:QR x1 x2 x3=some r):FPx 234 [.agg (SX.row x1),.elt (Ad x2) 0,.elt (Msg.row x3) 0] (.bv r):=by
 have ok:=oJ 234 Tryz.f234 [.t 4] 3 13;refine FP ok fun w0 H0=>?_;rw [QR] at h;refine Vg 12 ?_;refine Vl [] (fun x4=>([(4,.bv x4)],[],[])) QS r ?_ fun J1=>?_
 ·intro x4 h;rw [QS] at h;exact W
 ·exact W
def Nt:Bool→Option Bool
| x7=>some x7
def L0 (x1 x2:Int) (x3:node_node) (x4:Msg):Option Bool:=
 A0 (decide (0≤x2)) (
 (A4 x3.NO.DK.DI.SD x2).bind fun x5=>
 A0 (decide (x5.EP=x4.EP)) (
 (A4 x3.NO.DK.DI.SD x2).bind fun x6=>
 Nt (decide (x6.SS=x1))) (
 Nt false)) (
 Nt false)
theorem Mp {x1 x2 x3 x4 r} (h:L0 x1 x2 x3 x4=some r):FPx 136 [.iv x1,.elt (Ad x2) 0,.elt ((lz node_node.row) x3) 0,.elt (Msg.row x4) 0] (.bv r):=by
 have ok:=oJ 136 Tryz.f136 [.t 5] 4 35;refine FP ok fun w0 H0=>?_;rw [L0] at h;refine Vg 5 ?_;refine Vk [] (fun x7=>[(5,.bv x7)]) Nt r ?_ fun J1=>?_
 ·intro x7 h;rw [Nt] at h;exact W
 ·refine Ai fun all H=>Ds (GP H 3 31 [3,31] [(6,[.iv x2,.bv (decide (0≤x2)),.bv (decide (0≤x2))])] (Ds ?_));refine BJ 8 h rfl (fun _ h=>?_) fun _ h=>?_
  ·refine Ds (GP H 10 21 [11,3,2,18] [(9,[.elt (node_node.row x3) 0,.elt (node_node.row x3) 0,.elt (node_node.row x3) 0,.elt (node_node.row x3) 0,.elt (node_node.row x3) 0,.elt (node_node.row x3) 2,CU x3.NO.DK.DI.SD,.iv x2]),(3,[.elt (Msg.row x4) 1,.iv x4.EP])] (Ds ?_));have ⟨x5,ex5,h⟩:=Bs h;refine Gj H.1 H.2.1 H.2.2.1 H.2.2.2 11 SX.row ex5 rfl rfl trivial rfl rfl rfl rfl (GP H 5 15 [19,15] [(18,[.elt (SX.row x5) 1,.iv x5.EP]),(2,[.bv (decide (x5.EP=x4.EP)),.bv (decide (x5.EP=x4.EP)),.bv (decide (x5.EP=x4.EP))])] (Ds ?_));refine BJ 24 h rfl (fun _ h=>?_) fun _ h=>?_
   ·refine Ds (GP H 9 6 [27,3,1,3] [(25,[.elt (node_node.row x3) 0,.elt (node_node.row x3) 0,.elt (node_node.row x3) 0,.elt (node_node.row x3) 0,.elt (node_node.row x3) 0,.elt (node_node.row x3) 2,CU x3.NO.DK.DI.SD,.iv x2]),(3,[.iv x1])] (Ds ?_));have ⟨x6,ex6,h⟩:=Bs h;refine Gj H.1 H.2.1 H.2.2.1 H.2.2.2 27 SX.row ex6 rfl rfl trivial rfl rfl rfl rfl (GP H 5 0 [34] [(5,[.bv (decide (x6.SS=x1))]),(28,[.elt (SX.row x6) 2,.iv x6.SS]),(1,[.bv (decide (x6.SS=x1)),.bv (decide (x6.SS=x1))])] (Ds ?_));refine GD ?_;exact W
   ·refine Ds (GP H 15 0 [34] [(38,[.ff])] (Ds ?_));refine GD ?_;exact W
  ·refine Ds (GP H 31 0 [34] [(23,[.ff,.ff]),(13,[.ff])] (Ds ?_));refine GD ?_;exact W
def XQ:Unit→Option Int
| ()=>some (-1)
def XR (x1:List Edge) (p1:(Edge→Option Bool)):Int→Option (Int ⊕ Int)
| x5=>
 A0 (decide (x5<(ln Edge.row x1))) (
 (A4 x1 x5).bind fun x6=>
 (p1 x6).bind fun x7=>
 A0 x7 (
 Option.map Sum.inr (some x5)) (
 some (.inl (wr (x5+1))))) (
 Option.map Sum.inr (XQ ()))
def Ty (x1:List Edge) (p1:(Edge→Option Bool)):Option Int:=loop (XR x1 p1) 0
theorem w8 {x1 g1 caps1 p1 r} (h:Ty x1 p1=some r) (hc1:CloOK Tryz.prog g1 caps1 (fun z=>[.agg (Edge.row z)]) p1 (fun z=>.bv z)):FPx 182 [Pr x1,.clo g1 caps1] (.iv r):=by
 have ok:=oJ 182 Tryz.f182 [.t 4] 2 17;refine FP ok fun w0 H0=>?_;rw [Ty] at h;refine Vg 11 ?_;refine Vk [] (fun _=>[]) XQ r ?_ fun J1=>?_
 ·rintro ⟨⟩ h;rw [XQ] at h;refine Vg 4 ?_;exact MD ok h
 ·refine Vg 1 ?_;refine Mk h [0,2,5,1] (fun x5=>[(8,.iv x5)]) ?_ (hok:=by intro x5;first | rfl | (simp [go_sem];done) | simp [go_sem,Ax _ hc1.pu]);rintro n1 x5 y1 h hin1 hout1;rw [XR] at h;refine Vg 5 ?_;refine MI h (fun h=>?_) fun h=>?_
  ·refine Vg 13 ?_;have ⟨x6,ex6,h⟩:=Bs h;refine AZ Edge.row ex6 trivial rfl rfl rfl (Vg 1 ?_);have ⟨x7,ex7,h⟩:=Bs h;refine Dy trivial rfl hc1 (x:=x6) ex7 (by first | exact Am _ | simp [go_sem]) (by first | rfl | simp [go_sem,hc1.pu]) (Vg 1 ?_);refine MI h (fun h=>?_) fun h=>?_
   ·refine Vg 5 ?_;exact MD ok (BY h hout1)
   ·refine Vg 6 ?_;exact Da h hin1 (hok:=by first | rfl | simp [go_sem,Ax _ hc1.pu])
  ·refine Vg 1 ?_;exact AQ J1 (BY h hout1) (hok:=by first | rfl | simp [go_sem,Ax _ hc1.pu])
def Nb:Bool→Option Bool
| x3=>some x3
def QX (x1:Edge) (x2:Graph):Option Bool:=
 A0 (decide (x1.A<0)) (
 Nb true) (
 A0 (decide (x1.B≤x1.A)) (
 Nb true) (
 Nb (decide (x2.N≤x1.B))))
theorem uW {x1 x2 r} (h:QX x1 x2=some r):FPx 121 [.agg (Edge.row x1),.elt (Graph.row x2) 0] (.bv r):=by
 have ok:=oJ 121 Tryz.f121 [.t 3] 2 19;refine FP ok fun w0 H0=>?_;rw [QX] at h;refine Vg 11 ?_;refine Vl [] (fun x3=>([(3,.bv x3)],[],[])) Nb r ?_ fun J1=>?_
 ·intro x3 h;rw [Nb] at h;exact W
 ·exact W
def Ql (x1:Int):Option Bool:=some (!decide (x1=x1))
theorem iu {x1 r} (h:Ql x1=some r):FPx 225 [.iv x1] (.bv r):=by have ok:=oJ 225 Tryz.f225 [.t 2] 1 5;refine FP ok fun w0 H0=>?_;rw [Ql] at h;exact W
def Vx:Unit→Option Int
| ()=>some 0
def Qj (x1:List Int):Int→Option (Int ⊕ Int)
| x4=>
 A0 (decide (x4<(ln Ad x1))) (
 (A4 x1 x4).bind fun x5=>
 A0 (!decide (x5=0)) (
 Option.map Sum.inr (some x5)) (
 some (.inl (wr (x4+1))))) (
 Option.map Sum.inr (Vx ()))
def Qh (x1:List Int):Option Int:=loop (Qj x1) 0
theorem uD {x1 r} (h:Qh x1=some r):FPx 183 [Ab x1] (.iv r):=by
 have ok:=oJ 183 Tryz.f183 [.t 2] 1 17;refine FP ok fun w0 H0=>?_;rw [Qh] at h;refine Vg 15 ?_;refine Vk [3,1] (fun _=>[]) Vx r ?_ fun J1=>?_
 ·rintro ⟨⟩ h;rw [Vx] at h;exact W
 ·refine Vg 1 ?_;refine Mk h [3,1,2,2] (fun x4=>[(8,.iv x4)]) ?_;rintro n1 x4 y1 h hin1 hout1;rw [Qj] at h;exact W
def Vy (x1:Int):Option Bool:=some (decide (x1<1))
theorem uF {x1 r} (h:Vy x1=some r):FPx 260 [.iv x1] (.bv r):=by have ok:=oJ 260 Tryz.f260 [.t 2] 1 4;refine FP ok fun w0 H0=>?_;rw [Vy] at h;exact W
def Vz (x1:Edge) (x2:List Int):Option Bool:=
 (A4 x2 x1.A).bind fun x3=>
 (A4 x2 x1.B).bind fun x4=>
 some (decide (x3=x4))
theorem uG {x1 x2 r} (h:Vz x1 x2=some r):FPx 261 [.agg (Edge.row x1),.elt ((Ci 1 Ad) x2) 0] (.bv r):=by have ok:=oJ 261 Tryz.f261 [.t 3] 2 13;refine FP ok fun w0 H0=>?_;rw [Vz] at h;refine Vg 6 ?_;have ⟨x3,ex3,h⟩:=Bs h;have ⟨x4,ex4,h⟩:=Bs h;refine Ai fun all H=>Gs ?_;exact W
def Nr:Bool→Option Bool
| x3=>some x3
def Ru (x1 x2:Edge):Option Bool:=
 A0 (decide (x1.A<x2.A)) (
 Nr true) (
 A0 (decide (x1.A=x2.A)) (
 Nr (decide (x1.B<x2.B))) (
 Nr false))
theorem vk {x1 x2 r} (h:Ru x1 x2=some r):FPx 83 [.agg (Edge.row x1),.agg (Edge.row x2)] (.bv r):=by
 have ok:=oJ 83 Tryz.f83 [.t 4] 2 22;refine FP ok fun w0 H0=>?_;rw [Ru] at h;refine Vg 14 ?_;refine Vl [] (fun x3=>([(4,.bv x3)],[],[])) Nr r ?_ fun J1=>?_
 ·intro x3 h;rw [Nr] at h;exact W
 ·exact W
def VA (x1:Int):Option Bool:=some (decide (x1<0))
theorem uI {x1 r} (h:VA x1=some r):FPx 257 [.iv x1] (.bv r):=by have ok:=oJ 257 Tryz.f257 [.t 2] 1 4;refine FP ok fun w0 H0=>?_;rw [VA] at h;exact W
def Qq:Bool→Option Bool
| x5=>some x5
def Qp (x1:Int) (x2:List Int) (x3:Int):Option Bool:=
 (A4 x2 x1).bind fun x4=>
 A0 (decide (x4=0)) (
 Qq (decide (x3<x1))) (
 Qq false)
theorem uJ {x1 x2 x3 r} (h:Qp x1 x2 x3=some r):FPx 258 [.iv x1,.elt ((Ci 1 Ad) x2) 0,.elt (Ad x3) 0] (.bv r):=by
 have ok:=oJ 258 Tryz.f258 [.t 4] 3 12;refine FP ok fun w0 H0=>?_;rw [Qp] at h;refine Vg 8 ?_;have ⟨x4,ex4,h⟩:=Bs h;refine AZ Ad ex4 trivial rfl rfl rfl (Vg 3 ?_);refine Vk [] (fun x5=>[(4,.bv x5)]) Qq r ?_ fun J1=>?_
 ·intro x5 h;rw [Qq] at h;exact W
 ·exact W
def Qr (x1:Int) (x2:List Int) (x3:List Int) (x4:Int):Option Bool:=
 (A4 x2 x1).bind fun x5=>
 (A4 x3 x4).bind fun x6=>
 some (decide (x5=x6))
theorem uK {x1 x2 x3 x4 r} (h:Qr x1 x2 x3 x4=some r):FPx 259 [.iv x1,.elt ((Ci 1 Ad) x2) 0,.elt ((Ci 1 Ad) x3) 0,.elt (Ad x4) 0] (.bv r):=by have ok:=oJ 259 Tryz.f259 [.t 5] 4 11;refine FP ok fun w0 H0=>?_;rw [Qr] at h;refine Vg 5 ?_;have ⟨x5,ex5,h⟩:=Bs h;have ⟨x6,ex6,h⟩:=Bs h;refine Ai fun all H=>Gs ?_;exact W
def Wo (x1:DI):Option DI:=
 (AI 32 (([]:List SX)) x1.SD).bind fun x2=>
 some (DI.mk x1.ID x1.PH x2)
theorem v7 {x1 r} (h:Wo x1=some r):FPx 158 [.agg (DI.row x1)] (.agg (DI.row r)):=by have ok:=oJ 158 Tryz.f158 [.c 2 (some 3)] 1 8;refine FP ok fun w0 H0=>?_;rw [Wo] at h;refine Vg 10 ?_;have ⟨x2,ex2,h⟩:=Bs h;refine BP SX.row ex2 trivial rfl rfl rfl (Vg 8 ?_);refine Ae 1 ?_;exact W
def Wq (x1:BK):List SE→Option BK
| x18=>some (BK.mk x1.LA x18)
def Wr (x1:BK):(Int×List SE)→Option ((Int×List SE) ⊕ BK)
| (x7,x8)=>
 A0 (decide (x7<(ln SE.row x1.SE))) (
 (A4 x1.SE x7).bind fun x9=>
 (AI 8 (([]:List Int)) x9.NE).bind fun x10=>
 (AI 48 x8 ([SE.mk x9.ID x10 x9.SS x9.Age])).bind fun x11=>
 some (.inl (wr (x7+1),x11))) (
 Option.map Sum.inr ((Wq x1) x8))
def R9 (x1:BK):Option BK:=loop (Wr x1) (0,([]:List SE))
theorem va {x1 r} (h:R9 x1=some r):FPx 72 [.agg (BK.row x1)] (.agg (BK.row r)):=by
 have ok:=oJ 72 Tryz.f72 [.c 2 (some 2)] 1 32;refine FP ok fun w0 H0=>?_;rw [R9] at h;refine Vg 18 ?_;refine Vl [2,2] (fun x18=>([],[none,some ⟨45,[.iv 0,.nl]⟩,some ⟨45,[.iv x1.LA,.osl 0]⟩],[AX x18])) (Wq x1) r ?_ fun J1=>?_
 ·intro x18 h;rw [Wq] at h;refine Vg 5 ?_;refine Ae 0 ?_;exact W
 ·refine Vg 1 ?_;refine AE 2 1 53 4 (Ds ?_);refine Mm h [1,3] (fun s=>([(4,.iv s.1)],[],[],[(0,AX s.2)])) ?_;rintro n1 ⟨x7,x8⟩ y1 h hin1 hout1;rw [Wr] at h;refine Vg 9 ?_;refine MI h (fun h=>?_) fun h=>W;refine Vg 8 ?_;have ⟨x9,ex9,h⟩:=Bs h;refine AZ SE.row ex9 trivial rfl rfl rfl (Vg 9 ?_);have ⟨x10,ex10,h⟩:=Bs h;refine BP Ad ex10 trivial rfl rfl rfl (Vg 7 ?_);refine Ae 2 ?_;refine Vg 1 ?_;have ⟨x11,ex11,h⟩:=Bs h;refine BP SE.row ex11 trivial rfl rfl rfl (Vg 9 ?_);refine A7 4 0 ?_;exact W
def Rw:Bool→Option Bool
| x3=>some x3
def Ns (x1:BK):Option Bool:=
 A0 (decide (0<(ln SE.row x1.SE))) (
 (A4 x1.SE 0).bind fun x2=>
 Rw (decide (x2.SS=1))) (
 Rw false)
theorem iF {x1 r} (h:Ns x1=some r):FPx 12 [.agg (BK.row x1)] (.bv r):=by
 have ok:=oJ 12 Tryz.f12 [.t 2] 1 14;refine FP ok fun w0 H0=>?_;rw [Ns] at h;refine Vg 12 ?_;refine Vl [] (fun x3=>([(2,.bv x3)],[],[])) Rw r ?_ fun J1=>?_
 ·intro x3 h;rw [Rw] at h;exact W
 ·exact W
def R7:Bool→Option Bool
| x3=>some x3
def Hp (x1:HL) (x2:Int):Option Bool:=
 A0 (decide (0≤x2)) (
 R7 (decide (x2<(ln NO.row x1.NS)))) (
 R7 false)
theorem Mj {x1 x2 r} (h:Hp x1 x2=some r):FPx 42 [.agg (HL.row x1),.iv x2] (.bv r):=by
 have ok:=oJ 42 Tryz.f42 [.t 4] 2 12;refine FP ok fun w0 H0=>?_;rw [Hp] at h;refine Vg 10 ?_;refine Vl [] (fun x3=>([(4,.bv x3)],[],[])) R7 r ?_ fun J1=>?_
 ·intro x3 h;rw [R7] at h;exact W
 ·exact W
def XV:Unit→Option Int
| ()=>some (-1)
def XW (x1:List ML) (p1:(ML→Option Bool)):Int→Option (Int ⊕ Int)
| x5=>
 A0 (decide (x5<(ln ML.row x1))) (
 (A4 x1 x5).bind fun x6=>
 (p1 x6).bind fun x7=>
 A0 x7 (
 Option.map Sum.inr (some x5)) (
 some (.inl (wr (x5+1))))) (
 Option.map Sum.inr (XV ()))
def Lp (x1:List ML) (p1:(ML→Option Bool)):Option Int:=loop (XW x1 p1) 0
theorem iU {x1 g1 caps1 p1 r} (h:Lp x1 p1=some r) (hc1:CloOK Tryz.prog g1 caps1 (fun z=>[.agg (ML.row z)]) p1 (fun z=>.bv z)):FPx 75 [Cb x1,.clo g1 caps1] (.iv r):=by
 have ok:=oJ 75 Tryz.f75 [.t 4] 2 17;refine FP ok fun w0 H0=>?_;rw [Lp] at h;refine Vg 11 ?_;refine Vk [] (fun _=>[]) XV r ?_ fun J1=>?_
 ·rintro ⟨⟩ h;rw [XV] at h;refine Vg 4 ?_;exact MD ok h
 ·refine Vg 1 ?_;refine Mk h [0,2,5,1] (fun x5=>[(8,.iv x5)]) ?_ (hok:=by intro x5;first | rfl | (simp [go_sem];done) | simp [go_sem,Ax _ hc1.pu]);rintro n1 x5 y1 h hin1 hout1;rw [XW] at h;refine Vg 5 ?_;refine MI h (fun h=>?_) fun h=>?_
  ·refine Vg 13 ?_;have ⟨x6,ex6,h⟩:=Bs h;refine AZ ML.row ex6 trivial rfl rfl rfl (Vg 1 ?_);have ⟨x7,ex7,h⟩:=Bs h;refine Dy trivial rfl hc1 (x:=x6) ex7 (by first | exact Am _ | simp [go_sem]) (by first | rfl | simp [go_sem,hc1.pu]) (Vg 1 ?_);refine MI h (fun h=>?_) fun h=>?_
   ·refine Vg 5 ?_;exact MD ok (BY h hout1)
   ·refine Vg 6 ?_;exact Da h hin1 (hok:=by first | rfl | simp [go_sem,Ax _ hc1.pu])
  ·refine Vg 1 ?_;exact AQ J1 (BY h hout1) (hok:=by first | rfl | simp [go_sem,Ax _ hc1.pu])
@[go_sem] def ru:EC:=eQ Tryz.f135
theorem kb:FnOK Tryz.prog 135 Tryz.f135 ru [.t 4] 2 25:=B6
end
end NX
end Go.Proofs.YtjemlejoladlcaaGreat
