/-
  The function narthex/node.first: its code compiled, a model, and that the code answers as the model. Written by a program of ours (lb.py). No statement of the seat is proved here.
-/
import Derived.Test.YtgamgemlekpepaaGreatK22
set_option maxRecDepth 100000
set_option maxHeartbeats 40000000
namespace Go.Proofs.YtgamgemlekpepaaGreat
namespace NX
open Go
noncomputable section
@[go_sem] def e110:EC:=eQ Tryz.f110
theorem Zbn:FnOK Tryz.prog 110 Tryz.f110 e110 [.c 2 (some 4),.t 3] 1 14:=okA
def Zcn (x1:NO):Option (SE×Bool):=
 ifb (decide ((ln SE.row x1.BK.SE)=0)) (
 some ((SE.mk 0 (([]:List Int)) 0 0),false)) (
 (at_ x1.BK.SE 0).bind fun x2=>
 some (x2,true))
theorem Zdn {x1 r} (h:Zcn x1=some r):FPx 110 [.agg (NO.row x1)] (.tup [.agg (SE.row r.1),.bv r.2]):=by refine FP Zbn fun w0 H0=>?_;have ok:=Zbn;rw [Zcn] at h;exact W
def Zen (x23:Int):Bool→Option (Int×Bool)
| x26=>some (x23,x26)
def Zfn (x1:List SX) (x2:Int) (p2:((SX×Int)→Option Int)):Int→Option (Int×Bool)
| x23=>
 ifb (decide (x23<(ln SX.row x1))) (
 (at_ x1 x23).bind fun x24=>
 (p2 (x24,x2)).bind fun x25=>
 (Zen x23) (decide (x25=0))) (
 (Zen x23) false)
def Zgn (x1:List SX) (x2:Int) (p2:((SX×Int)→Option Int)):(Int×Int)→Option ((Int×Int) ⊕ (Int×Bool))
| (x7,x8)=>
 ifb (decide (x7<x8)) (
 (at_ x1 (wr (Int.fdiv (kw .u64 (wr (x7+x8))) (2 ^ min (Int.toNat 1) (IntKind.bits .u64))))).bind fun x9=>
 (p2 (x9,x2)).bind fun x10=>
 ifb (decide (x10<0)) (
 some (.inl (wr ((wr (Int.fdiv (kw .u64 (wr (x7+x8))) (2 ^ min (Int.toNat 1) (IntKind.bits .u64))))+1),x8))) (
 some (.inl (x7,wr (Int.fdiv (kw .u64 (wr (x7+x8))) (2 ^ min (Int.toNat 1) (IntKind.bits .u64))))))) (
 Option.map Sum.inr ((Zfn x1 x2 p2) x7))
def Zhn (x1:List SX) (x2:Int) (p2:((SX×Int)→Option Int)):Option (Int×Bool):=loop (Zgn x1 x2 p2) (0,ln SX.row x1)
theorem Zin {x1 x2 g2 caps2 p2 r} (h:Zhn x1 x2 p2=some r) (hc2:CloOK Tryz.prog g2 caps2 (fun z=>[.agg (SX.row z.1),.iv z.2]) p2 (fun z=>.iv z)):FPx 129 [Sp3 x1,.iv x2,.clo g2 caps2] (.tup [.iv r.1,.bv r.2]):=by
 have ok:=oJ 129 Tryz.f129 [.t 6,.t 7] 3 46;refine FP ok fun w0 H0=>?_;rw [Zhn] at h;refine Vg 18 ?_;refine Vk [0,3,5,1] (fun x23=>[(9,.iv x23)]) (Zfn x1 x2 p2) r ?_ fun J1=>?_
 ·intro x23 h;rw [Zfn] at h;refine Vg 7 ?_;refine Vk [] (fun x26=>[(6,.iv x23),(7,.bv x26)]) (Zen x23) r ?_ fun J2=>?_
  ·intro x26 h;rw [Zen] at h;(try dsimp only);exact MD ok h
  ·refine MC 39 h (fun h=>?_) fun h=>?_
   ·refine Vg 3 ?_;have ⟨x24,ex24,h⟩:=Bs h;refine Zjc SX.row ex24 trivial rfl rfl rfl (Vg 2 ?_);have ⟨x25,ex25,h⟩:=Bs h;refine Z3d trivial rfl hc2 (x:=(x24,x2)) ex25 (by first | exact Zrb _ | simp [go_sem]) (by first | rfl | simp [go_sem,hc2.pu]) (Vg 5 ?_);exact Ztc J2 h (hok:=by first | rfl | simp [go_sem,Zqb _ hc2.pu])
   ·refine Vg 12 ?_;exact Ztc J2 h (hok:=by first | rfl | simp [go_sem,Zqb _ hc2.pu])
 ·refine Vg 1 ?_;refine Mk h [0,3,5,1] (fun s=>[(9,.iv s.1),(10,.iv s.2)]) ?_ (hok:=by rintro ⟨x7,x8⟩;first | rfl | (simp [go_sem];done) | simp [go_sem,Zqb _ hc2.pu]);rintro n1 ⟨x7,x8⟩ y1 h hin1 hout1;rw [Zgn] at h;refine Vg 7 ?_;refine MI h (fun h=>?_) fun h=>?_
  ·refine Vg 17 ?_;have ⟨x9,ex9,h⟩:=Bs h;refine Zjc SX.row ex9 trivial rfl rfl rfl (Vg 2 ?_);have ⟨x10,ex10,h⟩:=Bs h;refine Z3d trivial rfl hc2 (x:=(x9,x2)) ex10 (by first | exact Zrb _ | simp [go_sem]) (by first | rfl | simp [go_sem,hc2.pu]) (Vg 2 ?_);refine MI h (fun h=>?_) fun h=>?_
   ·refine Vg 6 ?_;exact Zsc h hin1 (hok:=by first | rfl | simp [go_sem,Zqb _ hc2.pu])
   ·refine Vg 5 ?_;exact Zsc h hin1 (hok:=by first | rfl | simp [go_sem,Zqb _ hc2.pu])
  ·refine Vg 1 ?_;exact Ztc J1 (Zec h hout1) (hok:=by first | rfl | simp [go_sem,Zqb _ hc2.pu])
def Zjn (x1:SX) (x2:Int):Option Int:=some (wr (x1.PE-x2))
theorem Zkn {x1 x2 r} (h:Zjn x1 x2=some r):FPx 130 [.agg (SX.row x1),.iv x2] (.iv r):=by have ok:=oJ 130 Tryz.f130 [.t 4] 2 7;refine FP ok fun w0 H0=>?_;rw [Zjn] at h;exact W
def Zln (x23:Int):Bool→Option (Int×Bool)
| x26=>some (x23,x26)
def Zmn (x1:List KE) (x2:Int) (p2:((KE×Int)→Option Int)):Int→Option (Int×Bool)
| x23=>
 ifb (decide (x23<(ln KE.row x1))) (
 (at_ x1 x23).bind fun x24=>
 (p2 (x24,x2)).bind fun x25=>
 (Zln x23) (decide (x25=0))) (
 (Zln x23) false)
def Znn (x1:List KE) (x2:Int) (p2:((KE×Int)→Option Int)):(Int×Int)→Option ((Int×Int) ⊕ (Int×Bool))
| (x7,x8)=>
 ifb (decide (x7<x8)) (
 (at_ x1 (wr (Int.fdiv (kw .u64 (wr (x7+x8))) (2 ^ min (Int.toNat 1) (IntKind.bits .u64))))).bind fun x9=>
 (p2 (x9,x2)).bind fun x10=>
 ifb (decide (x10<0)) (
 some (.inl (wr ((wr (Int.fdiv (kw .u64 (wr (x7+x8))) (2 ^ min (Int.toNat 1) (IntKind.bits .u64))))+1),x8))) (
 some (.inl (x7,wr (Int.fdiv (kw .u64 (wr (x7+x8))) (2 ^ min (Int.toNat 1) (IntKind.bits .u64))))))) (
 Option.map Sum.inr ((Zmn x1 x2 p2) x7))
def Zon (x1:List KE) (x2:Int) (p2:((KE×Int)→Option Int)):Option (Int×Bool):=loop (Znn x1 x2 p2) (0,ln KE.row x1)
theorem Zpn {x1 x2 g2 caps2 p2 r} (h:Zon x1 x2 p2=some r) (hc2:CloOK Tryz.prog g2 caps2 (fun z=>[.agg (KE.row z.1),.iv z.2]) p2 (fun z=>.iv z)):FPx 173 [Sp2 x1,.iv x2,.clo g2 caps2] (.tup [.iv r.1,.bv r.2]):=by
 have ok:=oJ 173 Tryz.f173 [.t 6,.t 7] 3 46;refine FP ok fun w0 H0=>?_;rw [Zon] at h;refine Vg 18 ?_;refine Vk [0,3,5,1] (fun x23=>[(9,.iv x23)]) (Zmn x1 x2 p2) r ?_ fun J1=>?_
 ·intro x23 h;rw [Zmn] at h;refine Vg 7 ?_;refine Vk [] (fun x26=>[(6,.iv x23),(7,.bv x26)]) (Zln x23) r ?_ fun J2=>?_
  ·intro x26 h;rw [Zln] at h;(try dsimp only);exact MD ok h
  ·refine MC 39 h (fun h=>?_) fun h=>?_
   ·refine Vg 3 ?_;have ⟨x24,ex24,h⟩:=Bs h;refine Zjc KE.row ex24 trivial rfl rfl rfl (Vg 2 ?_);have ⟨x25,ex25,h⟩:=Bs h;refine Z3d trivial rfl hc2 (x:=(x24,x2)) ex25 (by first | exact Zrb _ | simp [go_sem]) (by first | rfl | simp [go_sem,hc2.pu]) (Vg 5 ?_);exact Ztc J2 h (hok:=by first | rfl | simp [go_sem,Zqb _ hc2.pu])
   ·refine Vg 12 ?_;exact Ztc J2 h (hok:=by first | rfl | simp [go_sem,Zqb _ hc2.pu])
 ·refine Vg 1 ?_;refine Mk h [0,3,5,1] (fun s=>[(9,.iv s.1),(10,.iv s.2)]) ?_ (hok:=by rintro ⟨x7,x8⟩;first | rfl | (simp [go_sem];done) | simp [go_sem,Zqb _ hc2.pu]);rintro n1 ⟨x7,x8⟩ y1 h hin1 hout1;rw [Znn] at h;refine Vg 7 ?_;refine MI h (fun h=>?_) fun h=>?_
  ·refine Vg 17 ?_;have ⟨x9,ex9,h⟩:=Bs h;refine Zjc KE.row ex9 trivial rfl rfl rfl (Vg 2 ?_);have ⟨x10,ex10,h⟩:=Bs h;refine Z3d trivial rfl hc2 (x:=(x9,x2)) ex10 (by first | exact Zrb _ | simp [go_sem]) (by first | rfl | simp [go_sem,hc2.pu]) (Vg 2 ?_);refine MI h (fun h=>?_) fun h=>?_
   ·refine Vg 6 ?_;exact Zsc h hin1 (hok:=by first | rfl | simp [go_sem,Zqb _ hc2.pu])
   ·refine Vg 5 ?_;exact Zsc h hin1 (hok:=by first | rfl | simp [go_sem,Zqb _ hc2.pu])
  ·refine Vg 1 ?_;exact Ztc J1 (Zec h hout1) (hok:=by first | rfl | simp [go_sem,Zqb _ hc2.pu])
def Zqn (x1:KE) (x2:Int):Option Int:=some (wr (x1.PE-x2))
theorem Zrn {x1 x2 r} (h:Zqn x1 x2=some r):FPx 174 [.agg (KE.row x1),.iv x2] (.iv r):=by have ok:=oJ 174 Tryz.f174 [.t 4] 2 7;refine FP ok fun w0 H0=>?_;rw [Zqn] at h;exact W
def Zsn (x1:SX) (x2:Int):Option Bool:=some (decide (x1.PE=x2))
theorem Ztn {x1 x2 r} (h:Zsn x1 x2=some r):FPx 120 [.agg (SX.row x1),.elt (Z4d x2) 0] (.bv r):=by have ok:=oJ 120 Tryz.f120 [.t 3] 2 6;refine FP ok fun w0 H0=>?_;rw [Zsn] at h;exact W
@[go_sem] def e81:EC:=eQ Tryz.f81
theorem Zun:FnOK Tryz.prog 81 Tryz.f81 e81 [] 3 22:=okA
@[go_sem] def e210:EC:=eQ Tryz.f210
theorem Zvn:FnOK Tryz.prog 210 Tryz.f210 e210 [] 3 26:=okA
def Zwn (x1:SX):Option Bool:=some (decide (x1.SS=1))
theorem Zxn {x1 r} (h:Zwn x1=some r):FPx 161 [.agg (SX.row x1)] (.bv r):=by have ok:=oJ 161 Tryz.f161 [.t 2] 1 5;refine FP ok fun w0 H0=>?_;rw [Zwn] at h;exact W
def Zyn (x1:SX) (x2:Int):Option Bool:=some (decide (x1.PE=x2))
theorem Zzn {x1 x2 r} (h:Zyn x1 x2=some r):FPx 141 [.agg (SX.row x1),.elt (Z4d x2) 0] (.bv r):=by have ok:=oJ 141 Tryz.f141 [.t 3] 2 6;refine FP ok fun w0 H0=>?_;rw [Zyn] at h;exact W
def Z0o:Unit→Option Bool
| ()=>some true
def Z1o (x1 x2:List SE) (p2:((SE×SE)→Option Bool)):Int→Option (Int ⊕ Bool)
| x7=>
 ifb (decide (x7<(ln SE.row x1))) (
 (at_ x1 x7).bind fun x8=>
 (at_ x2 x7).bind fun x9=>
 (p2 (x8,x9)).bind fun x10=>
 ifb (!x10) (
 Option.map Sum.inr (some false)) (
 some (.inl (wr (x7+1))))) (
 Option.map Sum.inr (Z0o ()))
def Z2o (x1 x2:List SE) (p2:((SE×SE)→Option Bool)):Option Bool:=
 ifb (!decide ((ln SE.row x1)=(ln SE.row x2))) (
 some false) (
 loop (Z1o x1 x2 p2) 0)
theorem Z3o {x1 x2 g2 caps2 p2 r} (h:Z2o x1 x2 p2=some r) (hc2:CloOK Tryz.prog g2 caps2 (fun z=>[.agg (SE.row z.1),.agg (SE.row z.2)]) p2 (fun z=>.bv z)):FPx 143 [Sp5 x1,Sp5 x2,.clo g2 caps2] (.bv r):=by
 have ok:=oJ 143 Tryz.f143 [.t 6] 3 29;refine FP ok fun w0 H0=>?_;rw [Z2o] at h;refine Vg 13 ?_;refine MI h (fun h=>?_) fun h=>?_
 ·refine Vg 4 ?_;exact MD ok h
 ·refine Vg 8 ?_;refine Vk [] (fun _=>[]) Z0o r ?_ fun J1=>?_
  ·rintro ⟨⟩ h;rw [Z0o] at h;refine Vg 4 ?_;exact MD ok h
  ·refine Vg 1 ?_;refine Mk h [1,2,12,2] (fun x7=>[(17,.iv x7)]) ?_ (hok:=by intro x7;first | rfl | (simp [go_sem];done) | simp [go_sem,Zqb _ hc2.pu]);rintro n1 x7 y1 h hin1 hout1;rw [Z1o] at h;refine Vg 5 ?_;refine MI h (fun h=>?_) fun h=>?_
   ·refine Vg 6 ?_;have ⟨x8,ex8,h⟩:=Bs h;refine Zjc SE.row ex8 trivial rfl rfl rfl (Vg 9 ?_);have ⟨x9,ex9,h⟩:=Bs h;refine Zjc SE.row ex9 trivial rfl rfl rfl (Vg 9 ?_);have ⟨x10,ex10,h⟩:=Bs h;refine Z3d trivial rfl hc2 (x:=(x8,x9)) ex10 (by first | exact Zrb _ | simp [go_sem]) (by first | rfl | simp [go_sem,hc2.pu]) (Vg 2 ?_);refine MI h (fun h=>?_) fun h=>?_
    ·refine Vg 4 ?_;exact MD ok (Zec h hout1)
    ·refine Vg 6 ?_;exact Zsc h hin1 (hok:=by first | rfl | simp [go_sem,Zqb _ hc2.pu])
   ·refine Vg 1 ?_;exact Ztc J1 (Zec h hout1) (hok:=by first | rfl | simp [go_sem,Zqb _ hc2.pu])
@[go_sem] def Z4o:EC:=.seq (.reg [Qa 14 (.bin .lss (.t 13) (.t 12))]) (.seq (.ite (.t 14) (.skip) (.exit 0)) (.seq (.blk 1 (.seq (.reg [Qm 15 13,Qm 5 15]) (.seq (.drw [Qm 16 0,Qm 17 5,Qk 18 2 16 17,Qe 19 2 18,Qm 20 1,Qm 21 5,Qk 22 2 20 21,Qe 23 2 22,Qa 24 (.eqs true [true,true] (.t 19) (.t 23))] [[],[],[0,1],[2,0,1],[],[],[4,5],[6,4,5],[3,7,2,0,1,6,4,5]] [[2],[2],[0,1,3],[2,8],[6],[6],[4,5,7],[6,8],[3,7]]) (.ite (.t 24) (.seq (.reg [Qa 4 (.mv (.c .ff))]) (.ret)) (.skip))))) (.reg [Qv 25 13 1,Qm 13 25])))
@[go_sem] def e85:EC:=.seq (.reg [Qa 4 (.mv (.c .ff))]) (.seq (.seq (.reg [Qm 6 0,Qa 7 (.len (.t 6)),Qm 8 1,Qa 9 (.len (.t 8)),Qa 10 (.bin .neq (.t 7) (.t 9))]) (.ite (.t 10) (.seq (.reg [Qa 4 (.mv (.c .ff))]) (.ret)) (.skip))) (.seq (.seq (.reg [Qm 11 0,Qa 12 (.len (.t 11)),Qi 13 0]) (.blk 0 (.loop Z4o))) (.seq (.reg [Qa 4 (.mv (.c .tt))]) (.ret))))
def Z5o:Unit→Option Bool
| ()=>some true
def Z6o (x1 x2:List KE):Int→Option (Int ⊕ Bool)
| x6=>
 ifb (decide (x6<(ln KE.row x1))) (
 (at_ x1 x6).bind fun x7=>
 (at_ x2 x6).bind fun x8=>
 ifb (!(decide (x7.PE=x8.PE)&&(decide (x7.EP=x8.EP)&&true))) (
 Option.map Sum.inr (some false)) (
 some (.inl (wr (x6+1))))) (
 Option.map Sum.inr (Z5o ()))
def Z7o (x1 x2:List KE):Option Bool:=
 ifb (!decide ((ln KE.row x1)=(ln KE.row x2))) (
 some false) (
 loop (Z6o x1 x2) 0)
theorem Z8o {x1 x2 r} (h:Z7o x1 x2=some r):FPx 85 [Sp2 x1,Sp2 x2] (.bv r):=by
 have ok:=oK 85 Tryz.f85 e85 [.t 4] 2 24;refine FP ok fun w0 H0=>?_;rw [Z7o] at h;refine Vg 13 ?_;refine MI h (fun h=>?_) fun h=>?_
 ·exact W
 ·refine Vg 8 ?_;refine Vk [] (fun _=>[]) Z5o r ?_ fun J1=>?_
  ·rintro ⟨⟩ h;rw [Z5o] at h;exact W
  ·refine Vg 1 ?_;refine Mk h [0,2,10,1] (fun x6=>[(13,.iv x6)]) ?_;rintro n1 x6 y1 h hin1 hout1;rw [Z6o] at h;refine Vg 5 ?_;refine MI h (fun h=>?_) fun h=>?_
   ·refine Vg 9 ?_;have ⟨x7,ex7,h⟩:=Bs h;have ⟨x8,ex8,h⟩:=Bs h;refine Zgj fun all H=>Gs ?_;exact W
   ·exact W
@[go_sem] def e106:EC:=eQ Tryz.f106
theorem Z9o:FnOK Tryz.prog 106 Tryz.f106 e106 [.t 3] 2 26:=okA
def Zao:Unit→Option Int
| ()=>some 0
def Zbo (x1:NO) (x2:Int):Int→Option (Int ⊕ Int)
| x5=>
 ifb (decide (x5<(ln KE.row x1.KN))) (
 (at_ x1.KN x5).bind fun x6=>
 ifb (decide (x6.PE=x2)) (
 Option.map Sum.inr (some x6.EP)) (
 some (.inl (wr (x5+1))))) (
 Option.map Sum.inr (Zao ()))
def Zco (x1:NO) (x2:Int):Option Int:=loop (Zbo x1 x2) 0
theorem Zdo {x1 x2 r} (h:Zco x1 x2=some r):FPx 67 [.agg (NO.row x1),.iv x2] (.iv r):=by
 have ok:=oJ 67 Tryz.f67 [.t 4] 2 19;refine FP ok fun w0 H0=>?_;rw [Zco] at h;refine Vg 13 ?_;refine Vl [] (fun _=>([],[],[])) Zao r ?_ fun J1=>?_
 ·rintro ⟨⟩ h;rw [Zao] at h;exact W
 ·refine Vg 1 ?_;refine Ml h [1,1,6,2] (fun x5=>([(10,.iv x5)],[],[])) ?_;rintro n1 x5 y1 h hin1 hout1;rw [Zbo] at h;exact W
def Zeo (x1:SX) (x2:KE):Option Bool:=some (decide (x1.PE=x2.PE))
theorem Zfo {x1 x2 r} (h:Zeo x1 x2=some r):FPx 137 [.agg (SX.row x1),.elt (KE.row x2) 0] (.bv r):=by have ok:=oJ 137 Tryz.f137 [.t 3] 2 7;refine FP ok fun w0 H0=>?_;rw [Zeo] at h;exact W
def Zgo (x1 x2:KE):Option Bool:=some (decide (x1.PE=x2.PE))
theorem Zho {x1 x2 r} (h:Zgo x1 x2=some r):FPx 138 [.agg (KE.row x1),.elt (KE.row x2) 0] (.bv r):=by have ok:=oJ 138 Tryz.f138 [.t 3] 2 7;refine FP ok fun w0 H0=>?_;rw [Zgo] at h;exact W
def Zio (x1:SX):Option Bool:=some (decide (x1.SS=3))
theorem Zjo {x1 r} (h:Zio x1=some r):FPx 111 [.agg (SX.row x1)] (.bv r):=by have ok:=oJ 111 Tryz.f111 [.t 2] 1 5;refine FP ok fun w0 H0=>?_;rw [Zio] at h;exact W
def Zko:Bool→Option Bool
| x4=>some x4
def Zlo (x1:SX) (x2:Int) (x3:Msg):Option Bool:=
 ifb (decide (x1.PE=x2)) (
 Zko (decide (x1.EP=x3.EP))) (
 Zko false)
theorem Zmo {x1 x2 x3 r} (h:Zlo x1 x2 x3=some r):FPx 186 [.agg (SX.row x1),.elt (Z4d x2) 0,.elt (Msg.row x3) 0] (.bv r):=by
 have ok:=oJ 186 Tryz.f186 [.t 4] 3 13;refine FP ok fun w0 H0=>?_;rw [Zlo] at h;refine Vg 12 ?_;refine Vl [] (fun x4=>([(4,.bv x4)],[],[])) Zko r ?_ fun J1=>?_
 ·intro x4 h;rw [Zko] at h;exact W
 ·exact W
def Zno:Bool→Option Bool
| x7=>some x7
def Zoo (x1 x2:Int) (x3:node_node) (x4:Msg):Option Bool:=
 ifb (decide (0≤x2)) (
 (at_ x3.NO.DK.DI.SD x2).bind fun x5=>
 ifb (decide (x5.EP=x4.EP)) (
 (at_ x3.NO.DK.DI.SD x2).bind fun x6=>
 Zno (decide (x6.SS=x1))) (
 Zno false)) (
 Zno false)
theorem Zpo {x1 x2 x3 x4 r} (h:Zoo x1 x2 x3 x4=some r):FPx 75 [.iv x1,.elt (Z4d x2) 0,.elt ((Zsh node_node.row) x3) 0,.elt (Msg.row x4) 0] (.bv r):=by
 have ok:=oJ 75 Tryz.f75 [.t 5] 4 35;refine FP ok fun w0 H0=>?_;rw [Zoo] at h;refine Vg 5 ?_;refine Vk [] (fun x7=>[(5,.bv x7)]) Zno r ?_ fun J1=>?_
 ·intro x7 h;rw [Zno] at h;exact W
 ·refine Zgj fun all H=>Ds (GP H 3 31 [3,31] [(6,[.iv x2,.bv (decide (0≤x2)),.bv (decide (0≤x2))])] (Ds ?_));refine Zdd 8 h rfl (fun _ h=>?_) fun _ h=>?_
  ·refine Ds (GP H 10 21 [11,3,2,18] [(9,[.elt (node_node.row x3) 0,.elt (node_node.row x3) 0,.elt (node_node.row x3) 0,.elt (node_node.row x3) 0,.elt (node_node.row x3) 0,.elt (node_node.row x3) 2,Sp3 x3.NO.DK.DI.SD,.iv x2]),(3,[.elt (Msg.row x4) 1,.iv x4.EP])] (Ds ?_));have ⟨x5,ex5,h⟩:=Bs h;refine Zkc H.1 H.2.1 H.2.2.1 H.2.2.2 11 SX.row ex5 rfl rfl trivial rfl rfl rfl rfl (GP H 5 15 [19,15] [(18,[.elt (SX.row x5) 1,.iv x5.EP]),(2,[.bv (decide (x5.EP=x4.EP)),.bv (decide (x5.EP=x4.EP)),.bv (decide (x5.EP=x4.EP))])] (Ds ?_));refine Zdd 24 h rfl (fun _ h=>?_) fun _ h=>?_
   ·refine Ds (GP H 9 6 [27,3,1,3] [(25,[.elt (node_node.row x3) 0,.elt (node_node.row x3) 0,.elt (node_node.row x3) 0,.elt (node_node.row x3) 0,.elt (node_node.row x3) 0,.elt (node_node.row x3) 2,Sp3 x3.NO.DK.DI.SD,.iv x2]),(3,[.iv x1])] (Ds ?_));have ⟨x6,ex6,h⟩:=Bs h;refine Zkc H.1 H.2.1 H.2.2.1 H.2.2.2 27 SX.row ex6 rfl rfl trivial rfl rfl rfl rfl (GP H 5 0 [34] [(5,[.bv (decide (x6.SS=x1))]),(28,[.elt (SX.row x6) 2,.iv x6.SS]),(1,[.bv (decide (x6.SS=x1)),.bv (decide (x6.SS=x1))])] (Ds ?_));refine GD ?_;exact W
   ·refine Ds (GP H 15 0 [34] [(38,[.ff])] (Ds ?_));refine GD ?_;exact W
  ·refine Ds (GP H 31 0 [34] [(23,[.ff,.ff]),(13,[.ff])] (Ds ?_));refine GD ?_;exact W
def Zqo:Unit→Option Int
| ()=>some (-1)
def Zro (x1:List Edge) (p1:(Edge→Option Bool)):Int→Option (Int ⊕ Int)
| x5=>
 ifb (decide (x5<(ln Edge.row x1))) (
 (at_ x1 x5).bind fun x6=>
 (p1 x6).bind fun x7=>
 ifb x7 (
 Option.map Sum.inr (some x5)) (
 some (.inl (wr (x5+1))))) (
 Option.map Sum.inr (Zqo ()))
def Zso (x1:List Edge) (p1:(Edge→Option Bool)):Option Int:=loop (Zro x1 p1) 0
theorem Zto {x1 g1 caps1 p1 r} (h:Zso x1 p1=some r) (hc1:CloOK Tryz.prog g1 caps1 (fun z=>[.agg (Edge.row z)]) p1 (fun z=>.bv z)):FPx 214 [Sp8 x1,.clo g1 caps1] (.iv r):=by
 have ok:=oJ 214 Tryz.f214 [.t 4] 2 17;refine FP ok fun w0 H0=>?_;rw [Zso] at h;refine Vg 11 ?_;refine Vk [] (fun _=>[]) Zqo r ?_ fun J1=>?_
 ·rintro ⟨⟩ h;rw [Zqo] at h;refine Vg 4 ?_;exact MD ok h
 ·refine Vg 1 ?_;refine Mk h [0,2,5,1] (fun x5=>[(8,.iv x5)]) ?_ (hok:=by intro x5;first | rfl | (simp [go_sem];done) | simp [go_sem,Zqb _ hc1.pu]);rintro n1 x5 y1 h hin1 hout1;rw [Zro] at h;refine Vg 5 ?_;refine MI h (fun h=>?_) fun h=>?_
  ·refine Vg 13 ?_;have ⟨x6,ex6,h⟩:=Bs h;refine Zjc Edge.row ex6 trivial rfl rfl rfl (Vg 1 ?_);have ⟨x7,ex7,h⟩:=Bs h;refine Z3d trivial rfl hc1 (x:=x6) ex7 (by first | exact Zrb _ | simp [go_sem]) (by first | rfl | simp [go_sem,hc1.pu]) (Vg 1 ?_);refine MI h (fun h=>?_) fun h=>?_
   ·refine Vg 5 ?_;exact MD ok (Zec h hout1)
   ·refine Vg 6 ?_;exact Zsc h hin1 (hok:=by first | rfl | simp [go_sem,Zqb _ hc1.pu])
  ·refine Vg 1 ?_;exact Ztc J1 (Zec h hout1) (hok:=by first | rfl | simp [go_sem,Zqb _ hc1.pu])
end
end NX
end Go.Proofs.YtgamgemlekpepaaGreat
