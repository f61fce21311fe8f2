/-
  The function narthex/node.first, lent own memory. Written by a program of ours (lb.py). No statement of the seat is proved here.
-/
import Derived.Test.YtjemlejoladlcaaGreatL15
import Derived.Test.YtjemlejoladlcaaGreatL16
set_option maxRecDepth 100000
set_option maxHeartbeats 40000000
namespace Go.Proofs.YtjemlejoladlcaaGreat
namespace NX
open Go
noncomputable section
def RU (_x1 _x2:Int) (_x3 _x4:Int) (_x5:List SX) (_x6:List Int) (x7:List SE) (_x8:List KE) (_x9:List Int) (_x10:List KE):Option (SE×Bool):=
 A0 (decide ((ln SE.row x7)=0)) (
 some ((SE.mk 0 (([]:List Int)) 0 0),false)) (
 (A4 x7 0).bind fun x11=>
 some (x11,true))
theorem Z1q {x1 x2 x3 x4 x5 x6 x7 x8 x9 x10 r} (h:RU x1 x2 x3 x4 x5 x6 x7 x8 x9 x10=some r):FTx 149 [.agg [.iv x1,.iv x2,.osl 0,.iv x3,.osl 1,.iv x4,.osl 2,.osl 3,.osl 4,.osl 5]] [] [Ac x5,A5 x6,AX x7,A9 x8,A5 x9,A9 x10] (.tup [.agg [.iv r.1.ID,Ab r.1.NE,.iv r.1.SS,.iv r.1.Age],.bv r.2]) [] [Ac x5,A5 x6,AX x7,A9 x8,A5 x9,A9 x10]:=by
 refine Ft K1 fun w0 M0=>?_;have ok:=K1;rw [RU] at h;refine Vg 15 ?_;refine MI h (fun h=>W) fun h=>?_;refine Vg 6 ?_;have ⟨x11,ex11,h⟩:=Bs h;refine BR SE.row ex11 trivial rfl rfl rfl (Fm SE.row ex11 trivial rfl rfl rfl ?_);exact W
def Sc:Int→Option (Bool×Int)
| x15=>some (decide (x15=0),x15)
def Sb (x2 x7:Int):Bool→Option (Bool×Int)
| x14=>
 A0 x14 (
 Sc x2) (
 Sc x7)
def DU (x1:Bool) (x2:Int) (_x3 _x4:Int) (_x5 _x6 x7:Int) (_x8:List SX) (_x9:List Int) (_x10:List SE) (_x11:List KE) (_x12:List Int) (_x13:List KE):Option (Bool×Int):=
 A0 (decide (x7=0)) (
 (Sb x2 x7) (!x1)) (
 (Sb x2 x7) false)
theorem CH {x1 x2 x3 x4 x5 x6 x7 x8 x9 x10 x11 x12 x13 r} (h:DU x1 x2 x3 x4 x5 x6 x7 x8 x9 x10 x11 x12 x13=some r):FTx 91 [.ptr 0 0,.bv x1,.iv x2] [some ⟨173,[.iv x3,.iv x4,.osl 0,.iv x5,.osl 1,.iv x6,.osl 2,.osl 3,.osl 4,.osl 5,.nl,.nl,.iv x7]⟩] [Ac x8,A5 x9,AX x10,A9 x11,A5 x12,A9 x13] (.bv r.1) [some ⟨173,[.iv x3,.iv x4,.osl 0,.iv x5,.osl 1,.iv x6,.osl 2,.osl 3,.osl 4,.osl 5,.nl,.nl,.iv r.2]⟩] [Ac x8,A5 x9,AX x10,A9 x11,A5 x12,A9 x13]:=by
 refine Ft OT fun w0 M0=>?_;have ok:=OT;rw [DU] at h;refine Vg 13 ?_;refine Vk [0,1,1,1] (fun x14=>[(15,.bv x14)]) (Sb x2 x7) r ?_ fun J1=>?_
 ·intro x14 h;rw [Sb] at h;refine Vm [0,1] (fun x15=>([],[(0,12,.iv x15)],[],[])) Sc r ?_ fun J2=>?_
  ·intro x15 h;rw [Sc] at h;exact W
  ·exact W
 ·exact W
def Se:Int→Option (Bool×Int)
| x14=>some (decide (x14=0),x14)
def Sd (x1 x6:Int):Bool→Option (Bool×Int)
| x13=>
 A0 x13 (
 Se x1) (
 Se x6)
def F9 (x1 _x2:Int) (_x3 _x4:Int) (_x5 x6:Int) (_x7:List SX) (_x8:List Int) (_x9:List SE) (_x10:List KE) (_x11:List Int) (_x12:List KE):Option (Bool×Int):=
 A0 (decide (x6=0)) (
 (Sd x1 x6) true) (
 (Sd x1 x6) false)
theorem HM {x1 x2 x3 x4 x5 x6 x7 x8 x9 x10 x11 x12 r} (h:F9 x1 x2 x3 x4 x5 x6 x7 x8 x9 x10 x11 x12=some r):FTx 91 [.ptr 0 0,.ff,.iv x1] [some ⟨173,[.iv x2,.iv x3,.osl 0,.iv x4,.osl 1,.iv x5,.osl 2,.osl 3,.osl 4,.osl 5,.nl,.nl,.iv x6]⟩] [Ac x7,A5 x8,AX x9,A9 x10,A5 x11,A9 x12] (.bv r.1) [some ⟨173,[.iv x2,.iv x3,.osl 0,.iv x4,.osl 1,.iv x5,.osl 2,.osl 3,.osl 4,.osl 5,.nl,.nl,.iv r.2]⟩] [Ac x7,A5 x8,AX x9,A9 x10,A5 x11,A9 x12]:=by
 refine Ft OT fun w0 M0=>?_;have ok:=OT;rw [F9] at h;refine Vg 13 ?_;refine Vk [0,1,1,1] (fun x13=>[(15,.bv x13)]) (Sd x1 x6) r ?_ fun J1=>?_
 ·intro x13 h;rw [Sd] at h;refine Vm [0,1] (fun x14=>([],[(0,12,.iv x14)],[],[])) Se r ?_ fun J2=>?_
  ·intro x14 h;rw [Se] at h;exact W
  ·exact W
 ·exact W
def L8 (x1:node_node) (x2:Int):Option Int:=
 (Hw x1.NO.DK.DI.SD ((fun z=>WU z x2))).bind fun x3=>
 some x3
theorem Vd {x1 x2 r} (h:L8 x1 x2=some r):FPx 88 [.elt (node_node.row x1) 0,.iv x2] (.iv r):=by have ok:=oJ 88 Tryz.f88 [.t 4] 2 12;refine FP ok fun w0 H0=>?_;rw [L8] at h;refine Vg 15 ?_;refine VN (LR.block 0 rfl rfl) h (fun e=>Mt e ⟨by kernel_rfl,rfl,fun z r hz=>vx hz⟩) fun _ _ h=>?_;exact W
@[go_sem] def rW:EC:=eQ Tryz.f207
theorem kt:FnOK Tryz.prog 207 Tryz.f207 rW [.t 4] 2 40:=B6
def JO (x1 x2:Int) (x3 _x4:Int) (_x5 _x6 _x7:Int) (_x8:List SX) (_x9:List Int) (_x10:List SE) (_x11:List KE) (_x12:List Int) (_x13:List KE):Option (List EV):=
 (AI 56 [] ([EV.mk x1 x3 0 x2 (([]:List Int))])).bind fun x14=>
 some x14
theorem en {x1 x2 x3 x4 x5 x6 x7 x8 x9 x10 x11 x12 x13 r} (h:JO x1 x2 x3 x4 x5 x6 x7 x8 x9 x10 x11 x12 x13=some r):FTx 140 [.ptr 0 0,.iv x1,.iv x2] [some ⟨173,[.iv x3,.iv x4,.osl 0,.iv x5,.osl 1,.iv x6,.osl 2,.osl 3,.osl 4,.osl 5,.nl,.nl,.iv x7]⟩] [Ac x8,A5 x9,AX x10,A9 x11,A5 x12,A9 x13] (.tup []) [some ⟨173,[.iv x3,.iv x4,.osl 0,.iv x5,.osl 1,.iv x6,.osl 2,.osl 3,.osl 4,.osl 5,.nl,.osl 7,.iv x7]⟩] [Ac x8,A5 x9,AX x10,A9 x11,A5 x12,A9 x13,none,Be r]:=by refine Ft OL fun w0 M0=>?_;have ok:=OL;rw [JO] at h;refine Ai fun all H=>Ds (GP H 14 6 [14,6] [(6,[.ptr 0 0,.ptr 0 0,.ptr 0 0,.ptr 0 11,.nl,.iv x1,.ptr 0 0,.ptr 0 0,.ptr 0 0,.ptr 0 0,.ptr 0 0,.ptr 0 0,.iv x3,.iv x2])] (Ds ?_));refine A6 14 rfl (HQ (.agg [.iv x1,.iv x3,.iv 0,.iv x2,Ab (([]:List Int))]) H.1 rfl trivial (by simp [go_sem]) (Ds ?_));refine R1 ?_;refine A6 16 rfl ?_;have ⟨x14,ex14,h⟩:=Bs h;refine Uu EV.row ex14 H.1 rfl trivial rfl rfl ?_;refine Gn H 2 1 ?_;refine R1 ?_;refine GD ?_;exact W
def RW (_x1 _x2:Int) (_x3 _x4:Int) (x5:List SE) (_x6:List SX) (_x7:List Int) (_x8:List KE) (_x9:List Int) (_x10:List KE):Option (SE×Bool):=
 A0 (decide ((ln SE.row x5)=0)) (
 some ((SE.mk 0 (([]:List Int)) 0 0),false)) (
 (A4 x5 0).bind fun x11=>
 some (x11,true))
theorem Z1r {x1 x2 x3 x4 x5 x6 x7 x8 x9 x10 r} (h:RW x1 x2 x3 x4 x5 x6 x7 x8 x9 x10=some r):FTx 149 [.agg [.iv x1,.iv x2,.osl 0,.iv x3,.osl 1,.iv x4,Av x5,.osl 2,.osl 3,.osl 4]] [] [Ac x6,A5 x7,A9 x8,A5 x9,A9 x10] (.tup [.agg [.iv r.1.ID,Ab r.1.NE,.iv r.1.SS,.iv r.1.Age],.bv r.2]) [] [Ac x6,A5 x7,A9 x8,A5 x9,A9 x10]:=by refine Ft K1 fun w0 M0=>?_;have ok:=K1;rw [RW] at h;exact W
def WV (x1 x2:Int) (x3 _x4:Int) (_x5 _x6:Int) (_x7:List SE) (_x8:Int) (_x9:List SX) (_x10:List Int) (_x11:List KE) (_x12:List Int) (_x13:List KE) (x14:List EV):Option (List EV):=
 (AI 56 x14 ([EV.mk x1 x3 x2 0 (([]:List Int))])).bind fun x15=>
 some x15
theorem Z1B {x1 x2 x3 x4 x5 x6 x7 x8 x9 x10 x11 x12 x13 x14 r} (h:WV x1 x2 x3 x4 x5 x6 x7 x8 x9 x10 x11 x12 x13 x14=some r):FTx 147 [.ptr 0 0,.iv x1,.iv x2] [some ⟨173,[.iv x3,.iv x4,.osl 0,.iv x5,.osl 1,.iv x6,Av x7,.osl 2,.osl 3,.osl 4,.nl,.osl 5,.iv x8]⟩] [Ac x9,A5 x10,A9 x11,A5 x12,A9 x13,Be x14] (.tup []) [some ⟨173,[.iv x3,.iv x4,.osl 0,.iv x5,.osl 1,.iv x6,Av x7,.osl 2,.osl 3,.osl 4,.nl,.osl 7,.iv x8]⟩] [Ac x9,A5 x10,A9 x11,A5 x12,A9 x13,none,none,Be r]:=by
 refine Ft OM fun w0 M0=>?_;have ok:=OM;rw [WV] at h;refine Ai fun all H=>Ds (GP H 13 7 [4,1,9,6] [(6,[.ptr 0 0,.ptr 0 0,.ptr 0 0,.ptr 0 11]),(1,[.iv x1,.ptr 0 0,.ptr 0 0,.ptr 0 0,.ptr 0 0,.ptr 0 0,.ptr 0 0,.iv x3,.iv x2])] (Ds ?_));refine Ag 4 14 rfl ?_ ?_
 ·refine RV ?_;refine A6 14 rfl (HQ (.agg [.iv x1,.iv x3,.iv x2,.iv 0,Ab (([]:List Int))]) H.1 rfl trivial (by simp [go_sem]) (Ds ?_));refine R1 ?_;refine A6 16 rfl ?_;have ⟨x15,ex15,h⟩:=Bs h;refine GA EV.row ex15 H.1 ?_;refine Gn H 2 1 ?_;refine GE H.1 19 (Ds ?_);refine GD ?_;exact W
 ·refine HQ (.agg [.iv x1,.iv x3,.iv x2,.iv 0,Ab (([]:List Int))]) H.1 rfl trivial (by simp [go_sem]) (Ds ?_);refine Ag 4 15 rfl ?_ ?_
  ·refine RV ?_;refine R1 ?_;refine A6 16 rfl ?_;have ⟨x15,ex15,h⟩:=Bs h;refine GA EV.row ex15 H.1 ?_;refine Gn H 2 1 ?_;refine R1 ?_;refine GD ?_;exact W
  ·refine RV ?_;refine R1 ?_;refine A6 16 rfl ?_;have ⟨x15,ex15,h⟩:=Bs h;refine GA EV.row ex15 H.1 ?_;refine Gn H 2 1 ?_;refine R1 ?_;refine GD ?_;exact W
@[go_sem] def rS:EC:=eQ Tryz.f197
theorem cL:FnOK Tryz.prog 197 Tryz.f197 rS [.t 4] 2 40:=B6
def Le:Bool→Option Bool
| x4=>some x4
def NY (x1 x2:SE):Option Bool:=
 A0 (decide (x1.ID=x2.ID)) (
 A0 (decide (x1.SS=x2.SS)) (
 A0 (decide (x1.Age=x2.Age)) (
 (JY x1.NE x2.NE).bind fun x3=>
 Le x3) (
 Le false)) (
 Le false)) (
 Le false)
theorem vK {x1 x2 r} (h:NY x1 x2=some r):FPx 181 [.agg (SE.row x1),.agg (SE.row x2)] (.bv r):=by
 have ok:=oJ 181 Tryz.f181 [.t 4] 2 29;refine FP ok fun w0 H0=>?_;rw [NY] at h;refine Vg 14 ?_;refine Vl [] (fun x4=>([(4,.bv x4)],[],[])) Le r ?_ fun J1=>?_
 ·intro x4 h;rw [Le] at h;exact W
 ·refine MC 10 h (fun h=>?_) fun h=>W;refine Vg 7 ?_;refine MC 17 h (fun h=>?_) fun h=>W;refine Vg 7 ?_;refine MC 24 h (fun h=>?_) fun h=>W;refine Vg 4 ?_;refine VB h Ve fun _ _ h=>?_;exact W
theorem K8 {l r} (h:Et l=some r):
  Cr Tryz.prog 85 [.osl 0] [] [some ⟨169,2,l.map KE.row⟩] (.osl 1) [] [some ⟨169,2,l.map KE.row⟩,some ⟨169,2,r.map KE.row⟩]:=by
 unfold Et at h;refine FT OR fun w0 M0=>?_;dsimp only[D6,List.cons_append,List.nil_append];refine Ah 100 ?_;dsimp only[go_sem];refine An ?_;refine ZA trivial rfl rfl (fun hn=>?_) ?_
 ·refine Ah 100 ?_;dsimp only[go_sem];refine An ?_;refine CV 2 169 2 rfl rfl ?_;dsimp only[go_sem];have hn:l=[]:=by simpa using hn
  subst hn;obtain rfl:r=[]:=by simpa [AI] using h.symm
  exact En OR
 ·refine Ah 100 ?_;dsimp only[go_sem];refine An ?_;refine BP KE.row (l':=[]) h trivial rfl rfl rfl ?_;refine Ah 100 ?_;dsimp only[go_sem];refine An ?_;refine A7 2 1 ?_;dsimp only[go_sem];exact En OR
def RX (_x1 _x2:Int) (_x3 _x4:Int) (x5:List SE) (_x6:List Int) (_x7:List SX) (_x8:List Int) (_x9 _x10:List KE):Option (SE×Bool):=
 A0 (decide ((ln SE.row x5)=0)) (
 some ((SE.mk 0 (([]:List Int)) 0 0),false)) (
 (A4 x5 0).bind fun x11=>
 some (x11,true))
theorem Z1s {x1 x2 x3 x4 x5 x6 x7 x8 x9 x10 r} (h:RX x1 x2 x3 x4 x5 x6 x7 x8 x9 x10=some r):FTx 149 [.agg [.iv x1,.iv x2,.osl 0,.iv x3,.osl 1,.iv x4,Av x5,.osl 2,Ab x6,.osl 3]] [] [Ac x7,A5 x8,A9 x9,A9 x10] (.tup [.agg [.iv r.1.ID,Ab r.1.NE,.iv r.1.SS,.iv r.1.Age],.bv r.2]) [] [Ac x7,A5 x8,A9 x9,A9 x10]:=by refine Ft K1 fun w0 M0=>?_;have ok:=K1;rw [RX] at h;exact W
def Na (x1:SX) (x2:Int) (x3 _x4 _x5:Int) (_x6:List SX) (_x7:List Int) (x8:List ML):Option (List ML):=
 (AI 40 x8 ([ML.mk x3 x1.PE (Msg.mk x2 x1.EP 0)])).bind fun x9=>
 some x9
theorem nQ {x1 x2 x3 x4 x5 x6 x7 x8 r} (h:Na x1 x2 x3 x4 x5 x6 x7 x8=some r):FTx 275 [.ptr 0 0,.agg (SX.row x1),.iv x2] [some ⟨299,[.iv x3,.iv x4,.osl 0,.iv x5,.osl 1,.osl 2]⟩] [Ac x6,A5 x7,Az x8] (.tup []) [some ⟨299,[.iv x3,.iv x4,.osl 0,.iv x5,.osl 1,.osl 4]⟩] [Ac x6,A5 x7,none,none,Az r]:=by refine Ft kK fun w0 M0=>?_;have ok:=kK;rw [Na] at h;refine Vg 4 ?_;have ⟨x9,ex9,h⟩:=Bs h;refine Ai fun all H=>Gs ?_;exact W
def Sk (x1 x2:Int) (x3 _x4:Int) (_x5 _x6:Int) (_x7:List SE) (_x8:List Int) (_x9:Int) (_x10:List SX) (_x11:List Int) (_x12 _x13:List KE) (_x14:List ML) (x15:List EV):Option (List EV):=
 (AI 56 x15 ([EV.mk x1 x3 x2 0 (([]:List Int))])).bind fun x16=>
 some x16
theorem Z1C {x1 x2 x3 x4 x5 x6 x7 x8 x9 x10 x11 x12 x13 x14 x15 r} (h:Sk x1 x2 x3 x4 x5 x6 x7 x8 x9 x10 x11 x12 x13 x14 x15=some r):FTx 147 [.ptr 0 0,.iv x1,.iv x2] [some ⟨173,[.iv x3,.iv x4,.osl 0,.iv x5,.osl 1,.iv x6,Av x7,.osl 2,Ab x8,.osl 3,.osl 4,.osl 5,.iv x9]⟩] [Ac x10,A5 x11,A9 x12,A9 x13,Az x14,Be x15] (.tup []) [some ⟨173,[.iv x3,.iv x4,.osl 0,.iv x5,.osl 1,.iv x6,Av x7,.osl 2,Ab x8,.osl 3,.osl 4,.osl 7,.iv x9]⟩] [Ac x10,A5 x11,A9 x12,A9 x13,Az x14,none,none,Be r]:=by
 refine Ft OM fun w0 M0=>?_;have ok:=OM;rw [Sk] at h;refine Ai fun all H=>Ds (GP H 13 7 [4,1,9,6] [(6,[.ptr 0 0,.ptr 0 0,.ptr 0 0,.ptr 0 11]),(1,[.iv x1,.ptr 0 0,.ptr 0 0,.ptr 0 0,.ptr 0 0,.ptr 0 0,.ptr 0 0,.iv x3,.iv x2])] (Ds ?_));refine Ag 4 14 rfl ?_ ?_
 ·refine RV ?_;refine A6 14 rfl (HQ (.agg [.iv x1,.iv x3,.iv x2,.iv 0,Ab (([]:List Int))]) H.1 rfl trivial (by simp [go_sem]) (Ds ?_));refine R1 ?_;refine A6 16 rfl ?_;have ⟨x16,ex16,h⟩:=Bs h;refine GA EV.row ex16 H.1 ?_;refine Gn H 2 1 ?_;refine GE H.1 19 (Ds ?_);refine GD ?_;exact W
 ·refine HQ (.agg [.iv x1,.iv x3,.iv x2,.iv 0,Ab (([]:List Int))]) H.1 rfl trivial (by simp [go_sem]) (Ds ?_);refine Ag 4 15 rfl ?_ ?_
  ·refine RV ?_;refine R1 ?_;refine A6 16 rfl ?_;have ⟨x16,ex16,h⟩:=Bs h;refine GA EV.row ex16 H.1 ?_;refine Gn H 2 1 ?_;refine R1 ?_;refine GD ?_;exact W
  ·refine RV ?_;refine R1 ?_;refine A6 16 rfl ?_;have ⟨x16,ex16,h⟩:=Bs h;refine GA EV.row ex16 H.1 ?_;refine Gn H 2 1 ?_;refine R1 ?_;refine GD ?_;exact W
def JQ (x1:SX) (x2:Int) (x3 _x4:Int) (_x5 _x6:Int) (_x7:List SE) (_x8:List Int) (_x9:Int) (_x10:List SX) (_x11:List Int) (_x12 _x13:List KE) (x14:List ML) (_x15:List EV):Option (List ML):=
 (AI 40 x14 ([ML.mk x3 x1.PE (Msg.mk x2 x1.EP 0)])).bind fun x16=>
 some x16
theorem Zi {x1 x2 x3 x4 x5 x6 x7 x8 x9 x10 x11 x12 x13 x14 x15 r} (h:JQ x1 x2 x3 x4 x5 x6 x7 x8 x9 x10 x11 x12 x13 x14 x15=some r):FTx 240 [.ptr 0 0,.agg (SX.row x1),.iv x2] [some ⟨173,[.iv x3,.iv x4,.osl 0,.iv x5,.osl 1,.iv x6,Av x7,.osl 2,Ab x8,.osl 3,.osl 4,.osl 5,.iv x9]⟩] [Ac x10,A5 x11,A9 x12,A9 x13,Az x14,Be x15] (.tup []) [some ⟨173,[.iv x3,.iv x4,.osl 0,.iv x5,.osl 1,.iv x6,Av x7,.osl 2,Ab x8,.osl 3,.osl 7,.osl 5,.iv x9]⟩] [Ac x10,A5 x11,A9 x12,A9 x13,none,Be x15,none,Az r]:=by refine Ft kE fun w0 M0=>?_;have ok:=kE;rw [JQ] at h;refine Vg 4 ?_;have ⟨x16,ex16,h⟩:=Bs h;refine Ai fun all H=>Gs ?_;exact W
def S4 (x1 x2:Int) (x3 _x4:Int) (_x5 _x6:Int) (_x7:List SE) (_x8:List Int) (_x9:Int) (_x10:List SX) (_x11:List Int) (_x12 _x13:List KE) (_x14:List ML) (x15:List EV):Option (List EV):=
 (AI 56 x15 ([EV.mk x1 x3 0 x2 (([]:List Int))])).bind fun x16=>
 some x16
theorem Z1w {x1 x2 x3 x4 x5 x6 x7 x8 x9 x10 x11 x12 x13 x14 x15 r} (h:S4 x1 x2 x3 x4 x5 x6 x7 x8 x9 x10 x11 x12 x13 x14 x15=some r):FTx 140 [.ptr 0 0,.iv x1,.iv x2] [some ⟨173,[.iv x3,.iv x4,.osl 0,.iv x5,.osl 1,.iv x6,Av x7,.osl 2,Ab x8,.osl 3,.osl 4,.osl 5,.iv x9]⟩] [Ac x10,A5 x11,A9 x12,A9 x13,Az x14,Be x15] (.tup []) [some ⟨173,[.iv x3,.iv x4,.osl 0,.iv x5,.osl 1,.iv x6,Av x7,.osl 2,Ab x8,.osl 3,.osl 4,.osl 7,.iv x9]⟩] [Ac x10,A5 x11,A9 x12,A9 x13,Az x14,none,none,Be r]:=by
 refine Ft OL fun w0 M0=>?_;have ok:=OL;rw [S4] at h;refine Ai fun all H=>Ds (GP H 13 7 [4,1,9,6] [(6,[.ptr 0 0,.ptr 0 0,.ptr 0 0,.ptr 0 11]),(1,[.iv x1,.ptr 0 0,.ptr 0 0,.ptr 0 0,.ptr 0 0,.ptr 0 0,.ptr 0 0,.iv x3,.iv x2])] (Ds ?_));refine Ag 4 14 rfl ?_ ?_
 ·refine RV ?_;refine A6 14 rfl (HQ (.agg [.iv x1,.iv x3,.iv 0,.iv x2,Ab (([]:List Int))]) H.1 rfl trivial (by simp [go_sem]) (Ds ?_));refine R1 ?_;refine A6 16 rfl ?_;have ⟨x16,ex16,h⟩:=Bs h;refine GA EV.row ex16 H.1 ?_;refine Gn H 2 1 ?_;refine GE H.1 19 (Ds ?_);refine GD ?_;exact W
 ·refine HQ (.agg [.iv x1,.iv x3,.iv 0,.iv x2,Ab (([]:List Int))]) H.1 rfl trivial (by simp [go_sem]) (Ds ?_);refine Ag 4 15 rfl ?_ ?_
  ·refine RV ?_;refine R1 ?_;refine A6 16 rfl ?_;have ⟨x16,ex16,h⟩:=Bs h;refine GA EV.row ex16 H.1 ?_;refine Gn H 2 1 ?_;refine R1 ?_;refine GD ?_;exact W
  ·refine RV ?_;refine R1 ?_;refine A6 16 rfl ?_;have ⟨x16,ex16,h⟩:=Bs h;refine GA EV.row ex16 H.1 ?_;refine Gn H 2 1 ?_;refine R1 ?_;refine GD ?_;exact W
def L2:Bool→Option Bool
| x3=>some (!x3)
def RN (x1:KE) (x2:Int):Option Bool:=
 A0 (decide (x2<x1.PE)) (
 A0 (decide (x1.PE<64)) (
 A0 (decide (1≤x1.EP)) (
 L2 (decide (x1.EP≤65535))) (
 L2 false)) (
 L2 false)) (
 L2 false)
theorem Z1p {x1 x2 r} (h:RN x1 x2=some r):FTx 165 [.agg (KE.row x1),.ptr 0 0] [some ⟨3,[.iv x2]⟩] [] (.bv r) [some ⟨3,[.iv x1.PE]⟩] []:=by
 refine Ft kg fun w0 M0=>?_;have ok:=kg;rw [RN] at h;refine Vg 12 ?_;refine Vk [1,2] (fun x3=>[(4,.bv x3)]) L2 r ?_ fun J1=>?_
 ·intro x3 h;rw [L2] at h;exact W
 ·exact W
def JL:Bool→Option Bool
| x5=>some x5
def RM (x1:SX) (x2:NO):Bool→Option Bool
| x3=>
 A0 (decide (64≤x1.PE)) (
 JL true) (
 A0 (decide (x1.EP<1)) (
 JL true) (
 (L3 x2 x1.PE).bind fun x4=>
 A0 (!decide (x4=x1.EP)) (
 JL true) (
 A0 x3 (
 JL (decide (x1.PE<x2.DK.DI.ID))) (
 JL false))))
def L1 (x1:SX) (x2:NO):Option Bool:=
 A0 (decide (x1.SS=1)) (
 (RM x1 x2) true) (
 (RM x1 x2) (decide (x1.SS=3)))
theorem vr {x1 x2 r} (h:L1 x1 x2=some r):FPx 164 [.agg (SX.row x1),.elt (NO.row x2) 0] (.bv r):=by
 have ok:=oJ 164 Tryz.f164 [.t 3] 2 40;refine FP ok fun w0 H0=>?_;rw [L1] at h;refine Vg 11 ?_;refine Vk [1,2] (fun x3=>[(4,.bv x3)]) (RM x1 x2) r ?_ fun J1=>?_
 ·intro x3 h;rw [RM] at h;refine Vg 1 ?_;refine Vl [] (fun x5=>([(3,.bv x5)],[],[])) JL r ?_ fun J2=>?_
  ·intro x5 h;rw [JL] at h;exact W
  ·refine Ai fun all H=>Ds (GP H 4 26 [4,26] [(13,[.ptr 0 0,.iv x1.PE,.bv (decide (64≤x1.PE)),.bv (decide (64≤x1.PE))])] (Ds ?_));refine BJ 16 h rfl (fun _ h=>?_) fun _ h=>?_
   ·refine Ds (GP H 26 0 [30] [(3,[.tt]),(13,.un::.un::.un::.tt::.tt::ux 7 (.tt::.tt::ux 10 [.tt]))] (Ds ?_));refine GD ?_;exact W
   ·refine Ds (GP H 5 21 [9,21] [(17,[.ptr 0 1,.iv x1.EP,.bv (decide (x1.EP<1)),.bv (decide (x1.EP<1)),.bv (decide (x1.EP<1))])] (Ds ?_));refine BJ 21 h rfl (fun _ h=>?_) fun _ h=>?_
    ·refine Ds (GP H 21 0 [30] [(3,[.tt]),(18,ux 7 (.tt::.tt::ux 10 [.tt]))] (Ds ?_));refine GD ?_;exact W
    ·refine Ds (GP H 5 16 [12,1,2,15] [(22,[.agg (NO.row x2),.ptr 0 0,.iv x1.PE]),(1,[.ptr 0 1,.iv x1.EP])] (Ds ?_));refine RB h b7 fun x4 _ h=>?_;refine GP H 3 12 [18,12] [(28,[.bv (!decide (x4=x1.EP)),.bv (!decide (x4=x1.EP)),.bv (!decide (x4=x1.EP))])] (Ds ?_);refine BJ 30 h rfl (fun _ h=>?_) fun _ h=>?_
     ·refine Ds (GP H 12 0 [30] [(3,[.tt]),(27,ux 10 [.tt])] (Ds ?_));refine GD ?_;exact W
     ·refine Gn H 2 10 ?_;refine BJ 32 h rfl (fun _ h=>?_) fun _ h=>?_
      ·refine Ds (GP H 10 0 [30] [(3,[.bv (decide (x1.PE<x2.DK.DI.ID))]),(29,[.ptr 0 0,.iv x1.PE,.elt (NO.row x2) 0,.elt (NO.row x2) 0,.elt (NO.row x2) 0,.iv x2.DK.DI.ID,.bv (decide (x1.PE<x2.DK.DI.ID)),.bv (decide (x1.PE<x2.DK.DI.ID)),.bv (decide (x1.PE<x2.DK.DI.ID))])] (Ds ?_));refine GD ?_;exact W
      ·refine Ds (GP H 10 0 [30] [(3,[.ff]),(29,ux 7 [.ff,.ff])] (Ds ?_));refine GD ?_;exact W
 ·exact W
def S5 (x1 x2:Int) (x3 _x4:Int) (_x5 _x6:Int) (_x7:List Int) (_x8:Int) (_x9:List SX) (_x10:List Int) (_x11:List SE) (_x12 _x13:List KE):Option (List EV):=
 (AI 56 [] ([EV.mk x1 x3 0 x2 (([]:List Int))])).bind fun x14=>
 some x14
theorem eo {x1 x2 x3 x4 x5 x6 x7 x8 x9 x10 x11 x12 x13 r} (h:S5 x1 x2 x3 x4 x5 x6 x7 x8 x9 x10 x11 x12 x13=some r):FTx 140 [.ptr 0 0,.iv x1,.iv x2] [some ⟨173,[.iv x3,.iv x4,.osl 0,.iv x5,.osl 1,.iv x6,.osl 2,.osl 3,Ab x7,.osl 4,.nl,.nl,.iv x8]⟩] [Ac x9,A5 x10,AX x11,A9 x12,A9 x13] (.tup []) [some ⟨173,[.iv x3,.iv x4,.osl 0,.iv x5,.osl 1,.iv x6,.osl 2,.osl 3,Ab x7,.osl 4,.nl,.osl 6,.iv x8]⟩] [Ac x9,A5 x10,AX x11,A9 x12,A9 x13,none,Be r]:=by refine Ft OL fun w0 M0=>?_;have ok:=OL;rw [S5] at h;refine Ai fun all H=>Ds (GP H 14 6 [14,6] [(6,[.ptr 0 0,.ptr 0 0,.ptr 0 0,.ptr 0 11,.nl,.iv x1,.ptr 0 0,.ptr 0 0,.ptr 0 0,.ptr 0 0,.ptr 0 0,.ptr 0 0,.iv x3,.iv x2])] (Ds ?_));refine A6 14 rfl (HQ (.agg [.iv x1,.iv x3,.iv 0,.iv x2,Ab (([]:List Int))]) H.1 rfl trivial (by simp [go_sem]) (Ds ?_));refine R1 ?_;refine A6 16 rfl ?_;have ⟨x14,ex14,h⟩:=Bs h;refine Uu EV.row ex14 H.1 rfl trivial rfl rfl ?_;refine Gn H 2 1 ?_;refine R1 ?_;refine GD ?_;exact W
def O9 (x1:List Edge) (p1:(Edge→Option Bool)):Option Bool:=
 (Ty x1 p1).bind fun x2=>
 some (decide (0≤x2))
theorem iQ {x1 g1 caps1 p1 r} (h:O9 x1 p1=some r) (hc1:CloOK Tryz.prog g1 caps1 (fun z=>[.agg (Edge.row z)]) p1 (fun z=>.bv z)):FPx 122 [Pr x1,.clo g1 caps1] (.bv r):=by have ok:=oJ 122 Tryz.f122 [.t 4] 2 7;refine FP ok fun w0 H0=>?_;rw [O9] at h;refine Vg 8 ?_;refine VB h (fun e=>w8 e hc1) (fun _ _ h=>?_) (hp:=(by first | rfl | simp [go_sem,hc1.pu]));refine Vg 3 ?_;exact MD ok h
def MN (x1 x2:Int):Option Int:=
 (Ql x1).bind fun x3=>
 (Ql x2).bind fun x4=>
 A0 x3 (
 A0 x4 (
 some 0) (
 some (-1))) (
 A0 x4 (
 some 1) (
 A0 (decide (x1<x2)) (
 some (-1)) (
 A0 (decide (x2<x1)) (
 some 1) (
 some 0))))
theorem ir {x1 x2 r} (h:MN x1 x2=some r):FPx 184 [.iv x1,.iv x2] (.iv r):=by have ok:=oJ 184 Tryz.f184 [.t 4] 2 18;refine FP ok fun w0 H0=>?_;rw [MN] at h;refine Vg 7 ?_;refine VB h iu fun _ _ h=>?_;refine Vg 5 ?_;refine VB h iu fun _ _ h=>?_;exact W
def WG:Unit→Option Bool
| ()=>some true
def JD (x8:Int):Bool→Option (Int ⊕ Bool)
| x12=>
 A0 x12 (
 Option.map Sum.inr (some false)) (
 some (.inl (wr (x8+1))))
def Rt (x1:Graph):Int→Option (Int ⊕ Bool)
| x8=>
 A0 (decide (x8<(ln Edge.row x1.Edges))) (
 (A4 x1.Edges x8).bind fun x9=>
 A0 (decide (x9.A<0)) (
 (JD x8) true) (
 A0 (decide (x9.B≤x9.A)) (
 (JD x8) true) (
 A0 (decide (x1.N≤x9.B)) (
 (JD x8) true) (
 A0 (decide (0<x8)) (
 (A4 x1.Edges (wr (x8-1))).bind fun x10=>
 (Ru x10 x9).bind fun x11=>
 (JD x8) (!x11)) (
 (JD x8) false))))) (
 Option.map Sum.inr (WG ()))
def Nq (x1:Graph):Bool→Option Bool
| x2=>
 A0 x2 (
 some false) (
 loop (Rt x1) 0)
def Rs (x1:Graph):Option Bool:=
 A0 (decide (x1.N<0)) (
 (Nq x1) true) (
 A0 (decide (64<x1.N)) (
 (Nq x1) true) (
 (Nq x1) (decide (400<(ln Edge.row x1.Edges)))))
theorem vj {x1 r} (h:Rs x1=some r):FPx 39 [.agg (Graph.row x1)] (.bv r):=by
 have ok:=oJ 39 Tryz.f39 [.t 2] 1 62;refine FP ok fun w0 H0=>?_;rw [Rs] at h;refine Vg 12 ?_;refine Vk [1,1] (fun x2=>[(18,.bv x2)]) (Nq x1) r ?_ fun J1=>?_
 ·intro x2 h;rw [Nq] at h;refine MI h (fun h=>W) fun h=>?_;refine Vg 6 ?_;refine Vl [] (fun _=>([],[],[])) WG r ?_ fun J2=>?_
  ·rintro ⟨⟩ h;rw [WG] at h;exact W
  ·refine Vg 1 ?_;refine Mk h [1,1] (fun x8=>[(3,.iv x8)]) ?_;rintro n1 x8 y1 h hin1 hout1;rw [Rt] at h;refine Vg 9 ?_;refine MI h (fun h=>?_) fun h=>W;refine Vg 8 ?_;have ⟨x9,ex9,h⟩:=Bs h;refine AZ Edge.row ex9 trivial rfl rfl rfl (Vg 5 ?_);refine Vl [1,1,1,1] (fun x12=>([(62,.bv x12)],[some ⟨24,Graph.row x1⟩],[])) (JD x8) y1 ?_ fun J3=>?_
   ·intro x12 h;rw [JD] at h;exact W
   ·refine Ai fun all H=>Ds (GP H 4 28 [4,28] [(31,[.ptr 1 0,.iv x9.A,.bv (decide (x9.A<0)),.bv (decide (x9.A<0))])] (Ds ?_));refine BJ 34 h rfl (fun _ h=>?_) fun _ h=>?_
    ·refine Ds (GP H 28 0 [32] [(35,ux 5 (.tt::.tt::ux 5 (.tt::.tt::ux 13 [.tt])))] (Ds ?_));refine GD ?_;exact W
    ·refine Ds (GP H 7 21 [11,21] [(35,[.ptr 1 0,.iv x9.A,.ptr 1 1,.iv x9.B,.bv (decide (x9.B≤x9.A)),.bv (decide (x9.B≤x9.A)),.bv (decide (x9.B≤x9.A))])] (Ds ?_));refine BJ 41 h rfl (fun _ h=>?_) fun _ h=>?_
     ·refine Ds (GP H 21 0 [32] [(42,ux 5 (.tt::.tt::ux 13 [.tt]))] (Ds ?_));refine GD ?_;exact W
     ·refine Ds (GP H 7 14 [18,14] [(42,[.ptr 1 1,.iv x9.B,.ptr 0 0,.iv x1.N,.bv (decide (x1.N≤x9.B)),.bv (decide (x1.N≤x9.B)),.bv (decide (x1.N≤x9.B))])] (Ds ?_));refine BJ 48 h rfl (fun _ h=>?_) fun _ h=>?_
      ·refine Ds (GP H 14 0 [32] [(49,ux 13 [.tt])] (Ds ?_));refine GD ?_;exact W
      ·refine Ds (GP H 3 11 [21,11] [(49,[.iv x8,.bv (decide (0<x8)),.bv (decide (0<x8))])] (Ds ?_));refine BJ 51 h rfl (fun _ h=>?_) fun _ h=>?_
       ·refine Ds (GP H 5 6 [25,2,1,4] [(52,[.ptr 0 1,Pr x1.Edges,.iv x8,.iv (wr (x8-1))]),(2,[.agg (Edge.row x9)])] (Ds ?_));have ⟨x10,ex10,h⟩:=Bs h;refine Gj H.1 H.2.1 H.2.2.1 H.2.2.2 25 Edge.row ex10 rfl rfl trivial rfl rfl rfl rfl (Gn H 1 4 ?_);refine RB h vk fun x11 _ h=>?_;refine GP H 3 0 [32] [(60,[.bv (!x11),.bv (!x11),.bv (!x11)])] (Ds ?_);refine GD ?_;exact W
       ·refine Ds (GP H 11 0 [32] [(52,ux 9 [.ff,.ff])] (Ds ?_));refine GD ?_;exact W
 ·exact W
def Wp (x1:DK):Option DK:=
 (Wo x1.DI).bind fun x2=>
 (AI 8 (([]:List Int)) x1.NE).bind fun x3=>
 some (DK.mk x2 x1.TH x3)
theorem v8 {x1 r} (h:Wp x1=some r):FPx 96 [.agg (DK.row x1)] (.agg (DK.row r)):=by have ok:=oJ 96 Tryz.f96 [.c 2 (some 5)] 1 12;refine FP ok fun w0 H0=>?_;rw [Wp] at h;refine Vg 9 ?_;refine VB h v7 fun _ _ h=>?_;refine Vg 8 ?_;have ⟨x3,ex3,h⟩:=Bs h;refine BP Ad ex3 trivial rfl rfl rfl (Vg 8 ?_);refine Ae 1 ?_;exact W
def Nf:Bool→Option Bool
| x5=>some x5
def W1 (x1:ML) (x2:HL):Option Bool:=
 (Hp x2 x1.From).bind fun x3=>
 A0 (!x3) (
 Nf true) (
 (Hp x2 x1.To).bind fun x4=>
 A0 (!x4) (
 Nf true) (
 Nf (decide (x1.From=x1.To))))
theorem uY {x1 x2 r} (h:W1 x1 x2=some r):FPx 54 [.agg (ML.row x1),.elt (HL.row x2) 0] (.bv r):=by
 have ok:=oJ 54 Tryz.f54 [.t 3] 2 21;refine FP ok fun w0 H0=>?_;rw [W1] at h;refine Vg 10 ?_;refine VB h Mj fun _ _ h=>?_;refine Vg 2 ?_;refine Vl [] (fun x5=>([(3,.bv x5)],[],[])) Nf r ?_ fun J1=>?_
 ·intro x5 h;rw [Nf] at h;exact W
 ·refine MC 9 h (fun h=>W) fun h=>?_;refine Vg 3 ?_;refine VB h Mj fun _ _ h=>?_;exact W
def Tg (x1:List ML) (p1:(ML→Option Bool)):Option Bool:=
 (Lp x1 p1).bind fun x2=>
 some (decide (0≤x2))
theorem vW {x1 g1 caps1 p1 r} (h:Tg x1 p1=some r) (hc1:CloOK Tryz.prog g1 caps1 (fun z=>[.agg (ML.row z)]) p1 (fun z=>.bv z)):FPx 56 [Cb x1,.clo g1 caps1] (.bv r):=by have ok:=oJ 56 Tryz.f56 [.t 4] 2 7;refine FP ok fun w0 H0=>?_;rw [Tg] at h;refine Vg 8 ?_;refine VB h (fun e=>iU e hc1) (fun _ _ h=>?_) (hp:=(by first | rfl | simp [go_sem,hc1.pu]));refine Vg 3 ?_;exact MD ok h
def Tu:List ML→Option (List ML)
| x4=>some x4
def XM (x1:Int):Unit→Option (List ML)
| ()=>
 A0 (decide (0<(wr (x1-(wr (0-0)))))) (
 (LU 40 (wr (x1-(wr (0-0)))) (ML.mk 0 0 (Msg.mk 0 0 0))).bind fun x2=>
 (Cj x2 0 0).bind fun x3=>
 Tu x3) (
 Tu (([]:List ML)))
def Tt (x1:Int):Option (List ML):=
 A0 (decide (x1<0)) (
 none) (
 (XM x1) ())
theorem Z1N {x1 r} (h:Tt x1=some r):FTx 135 [.nl,.iv x1] [] [] (.osl 0) [] [Az r]:=by
 refine Ft kb fun w0 M0=>?_;have ok:=kb;rw [Tt] at h;refine Vg 10 ?_;refine Vk [0,2] (fun _=>[]) (XM x1) r ?_ fun J1=>?_
 ·rintro ⟨⟩ h;rw [XM] at h;refine Vg 5 ?_;refine Uz trivial rfl (Vg 11 ?_);refine Vl [] (fun x4=>([(0,.osl 0)],[],[Az x4])) Tu r ?_ fun J2=>?_
  ·intro x4 h;rw [Tu] at h;exact W
  ·refine MI h (fun h=>?_) fun h=>?_
   ·refine Vg 3 ?_;refine Uz trivial rfl (fk trivial rfl rfl rfl (Vg 1 ?_));have ⟨x2,ex2,h⟩:=Bs h;refine fg ML.row ex2 trivial rfl rfl rfl rfl (Vg 2 ?_);have ⟨x3,ex3,h⟩:=Bs h;refine Pt ML.row ex3 trivial rfl rfl rfl rfl (Vg 2 ?_);refine A7 1 0 ?_;exact W
   ·refine Vg 1 ?_;refine CV 0 113 5 rfl rfl ?_;exact W
 ·refine MI h (fun h=>?_) fun h=>W;cases h
end
end NX
end Go.Proofs.YtjemlejoladlcaaGreat
