/-
  The function slices.Clone[[]narthex/api.Node,narthex/api.Node]: its code compiled, a model, and that the code answers as the model. Written by a program of ours (lb.py). No statement of the seat is proved here.
-/
import Derived.Test.YtjemlejoladlcaaGreatL15
import Derived.Test.YtjemlejoladlcaaGreatL16
set_option maxRecDepth 100000
set_option maxHeartbeats 40000000
namespace Go.Proofs.YtjemlejoladlcaaGreat
namespace NX
open Go
noncomputable section
@[go_sem] def gj:EC:=eQ Tryz.f84
def Ll (x1:List NO):Option (List NO):=AI 176 [] x1
theorem FC {x1 r} (h:Ll x1=some r):FOx 84 [IY x1] 48 10 (List.map NO.row r):=by
 have ok:=oK 84 Tryz.f84 gj [.t 2] 1 7;refine EU ok rfl fun w0 H0=>?_;rw [Ll] at h;refine Ah 100 ?_;dsimp only [gj,go_sem];refine ⟨by simp,?_⟩;refine LP trivial rfl (fun hn=>?_) ?_
 ·refine Ah 100 ?_;dsimp only[go_sem];refine ⟨by simp,?_⟩;refine CV 2 48 10 rfl rfl ?_;dsimp only[go_sem];have hn:x1=[]:=by simpa using hn
  subst hn;exact Db NO.row (e:=[]) ok (by simpa [AI] using h) rfl rfl
 ·refine Ah 100 ?_;dsimp only[go_sem];refine ⟨by simp,?_⟩;refine BP NO.row h trivial rfl rfl rfl ?_;refine Ah 100 ?_;dsimp only[go_sem];refine ⟨by simp,?_⟩;exact Db NO.row ok (rfl:some r=some r) rfl rfl
@[go_sem] def gf:EC:=eQ Tryz.f48
def Lk (x1:List ML):Option (List ML):=AI 40 [] x1
theorem Yq {x1 r} (h:Lk x1=some r):FOx 48 [Cb x1] 113 5 (List.map ML.row r):=by
 have ok:=oK 48 Tryz.f48 gf [.t 2] 1 7;refine EU ok rfl fun w0 H0=>?_;rw [Lk] at h;refine Ah 100 ?_;dsimp only [gf,go_sem];refine ⟨by simp,?_⟩;refine LP trivial rfl (fun hn=>?_) ?_
 ·refine Ah 100 ?_;dsimp only[go_sem];refine ⟨by simp,?_⟩;refine CV 2 113 5 rfl rfl ?_;dsimp only[go_sem];have hn:x1=[]:=by simpa using hn
  subst hn;exact Db ML.row (e:=[]) ok (by simpa [AI] using h) rfl rfl
 ·refine Ah 100 ?_;dsimp only[go_sem];refine ⟨by simp,?_⟩;refine BP ML.row h trivial rfl rfl rfl ?_;refine Ah 100 ?_;dsimp only[go_sem];refine ⟨by simp,?_⟩;exact Db ML.row ok (rfl:some r=some r) rfl rfl
def R4:Bool→Option Bool
| x4=>some x4
def R0 (x1:ML) (x2:Int) (x3:Int):Option Bool:=
 A0 (decide (x1.From=x2)) (
 R4 (decide (x1.To=x3))) (
 R4 false)
theorem uZ {x1 x2 x3 r} (h:R0 x1 x2 x3=some r):FPx 76 [.agg (ML.row x1),.elt (Ad x2) 0,.elt (Ad x3) 0] (.bv r):=by
 have ok:=oJ 76 Tryz.f76 [.t 4] 3 12;refine FP ok fun w0 H0=>?_;rw [R0] at h;refine Vg 12 ?_;refine Vl [] (fun x4=>([(4,.bv x4)],[],[])) R4 r ?_ fun J1=>?_
 ·intro x4 h;rw [R4] at h;exact W
 ·exact W
def XA:Unit→Option Bool
| ()=>some true
def XB (x1 x2:List NO) (p2:((NO×NO)→Option Bool)):Int→Option (Int ⊕ Bool)
| x7=>
 A0 (decide (x7<(ln NO.row x1))) (
 (A4 x1 x7).bind fun x8=>
 (A4 x2 x7).bind fun x9=>
 (p2 (x8,x9)).bind fun x10=>
 A0 (!x10) (
 Option.map Sum.inr (some false)) (
 some (.inl (wr (x7+1))))) (
 Option.map Sum.inr (XA ()))
def Tn (x1 x2:List NO) (p2:((NO×NO)→Option Bool)):Option Bool:=
 A0 (!decide ((ln NO.row x1)=(ln NO.row x2))) (
 some false) (
 loop (XB x1 x2 p2) 0)
theorem vZ {x1 x2 g2 caps2 p2 r} (h:Tn x1 x2 p2=some r) (hc2:CloOK Tryz.prog g2 caps2 (fun z=>[.agg (NO.row z.1),.agg (NO.row z.2)]) p2 (fun z=>.bv z)):FPx 80 [IY x1,IY x2,.clo g2 caps2] (.bv r):=by
 have ok:=oJ 80 Tryz.f80 [.t 6] 3 29;refine FP ok fun w0 H0=>?_;rw [Tn] at h;refine Vg 13 ?_;refine MI h (fun h=>?_) fun h=>?_
 ·refine Vg 4 ?_;exact MD ok h
 ·refine Vg 8 ?_;refine Vk [] (fun _=>[]) XA r ?_ fun J1=>?_
  ·rintro ⟨⟩ h;rw [XA] at h;refine Vg 4 ?_;exact MD ok h
  ·refine Vg 1 ?_;refine Mk h [1,2,12,2] (fun x7=>[(17,.iv x7)]) ?_ (hok:=by intro x7;first | rfl | (simp [go_sem];done) | simp [go_sem,Ax _ hc2.pu]);rintro n1 x7 y1 h hin1 hout1;rw [XB] at h;refine Vg 5 ?_;refine MI h (fun h=>?_) fun h=>?_
   ·refine Vg 6 ?_;have ⟨x8,ex8,h⟩:=Bs h;refine AZ NO.row ex8 trivial rfl rfl rfl (Vg 9 ?_);have ⟨x9,ex9,h⟩:=Bs h;refine AZ NO.row ex9 trivial rfl rfl rfl (Vg 9 ?_);have ⟨x10,ex10,h⟩:=Bs h;refine Dy trivial rfl hc2 (x:=(x8,x9)) ex10 (by first | exact Am _ | simp [go_sem]) (by first | rfl | simp [go_sem,hc2.pu]) (Vg 2 ?_);refine MI h (fun h=>?_) fun h=>?_
    ·refine Vg 4 ?_;exact MD ok (BY h hout1)
    ·refine Vg 6 ?_;exact Da h hin1 (hok:=by first | rfl | simp [go_sem,Ax _ hc2.pu])
   ·refine Vg 1 ?_;exact AQ J1 (BY h hout1) (hok:=by first | rfl | simp [go_sem,Ax _ hc2.pu])
@[go_sem] def sC:EC:=.seq (.reg [Qa 14 (.bin .lss (.t 13) (.t 12))]) (.seq (.ite (.t 14) (.skip) (.exit 0)) (.seq (.blk 1 (.seq (.reg [Qm 15 13,Qm 5 15]) (.seq (.drw [Qm 16 0,Qm 17 5,Qk 18 5 16 17,Qe 19 5 18,Qm 20 1,Qm 21 5,Qk 22 5 20 21,Qe 23 5 22,Qa 24 (.eqs true [true,true,true,true,true] (.t 19) (.t 23))] [[],[],[0,1],[2,0,1],[],[],[4,5],[6,4,5],[3,7,2,0,1,6,4,5]] [[2],[2],[0,1,3],[2,8],[6],[6],[4,5,7],[6,8],[3,7]]) (.ite (.t 24) (.seq (.reg [Qa 4 (.mv (.c .ff))]) (.ret)) (.skip))))) (.reg [Qv 25 13 1,Qm 13 25])))
@[go_sem] def sB:EC:=.seq (.reg [Qa 4 (.mv (.c .ff))]) (.seq (.seq (.reg [Qm 6 0,Qa 7 (.len (.t 6)),Qm 8 1,Qa 9 (.len (.t 8)),Qa 10 (.bin .neq (.t 7) (.t 9))]) (.ite (.t 10) (.seq (.reg [Qa 4 (.mv (.c .ff))]) (.ret)) (.skip))) (.seq (.seq (.reg [Qm 11 0,Qa 12 (.len (.t 11)),Qi 13 0]) (.blk 0 (.loop sC))) (.seq (.reg [Qa 4 (.mv (.c .tt))]) (.ret))))
def XG:Unit→Option Bool
| ()=>some true
def XH (x1 x2:List ML):Int→Option (Int ⊕ Bool)
| x6=>
 A0 (decide (x6<(ln ML.row x1))) (
 (A4 x1 x6).bind fun x7=>
 (A4 x2 x6).bind fun x8=>
 A0 (!(decide (x7.From=x8.From)&&(decide (x7.To=x8.To)&&(decide (x7.Msg.KI=x8.Msg.KI)&&(decide (x7.Msg.EP=x8.Msg.EP)&&(decide (x7.Msg.Num=x8.Msg.Num)&&true)))))) (
 Option.map Sum.inr (some false)) (
 some (.inl (wr (x6+1))))) (
 Option.map Sum.inr (XG ()))
def Tq (x1 x2:List ML):Option Bool:=
 A0 (!decide ((ln ML.row x1)=(ln ML.row x2))) (
 some false) (
 loop (XH x1 x2) 0)
theorem w5 {x1 x2 r} (h:Tq x1 x2=some r):FPx 82 [Cb x1,Cb x2] (.bv r):=by
 have ok:=oK 82 Tryz.f82 sB [.t 4] 2 24;refine FP ok fun w0 H0=>?_;rw [Tq] at h;refine Vg 13 ?_;refine MI h (fun h=>W) fun h=>?_;refine Vg 8 ?_;refine Vk [] (fun _=>[]) XG r ?_ fun J1=>?_
 ·rintro ⟨⟩ h;rw [XG] at h;exact W
 ·refine Vg 1 ?_;refine Mk h [0,2,10,1] (fun x6=>[(13,.iv x6)]) ?_;rintro n1 x6 y1 h hin1 hout1;rw [XH] at h;refine Vg 5 ?_;refine MI h (fun h=>?_) fun h=>W;refine Vg 9 ?_;have ⟨x7,ex7,h⟩:=Bs h;have ⟨x8,ex8,h⟩:=Bs h;refine Ai fun all H=>Gs ?_;exact W
def R8 (x1:Graph):Option Graph:=
 (AI 16 (([]:List Edge)) x1.Edges).bind fun x2=>
 some (Graph.mk x1.N x2)
theorem v6 {x1 r} (h:R8 x1=some r):FPx 31 [.agg (Graph.row x1)] (.agg (Graph.row r)):=by have ok:=oJ 31 Tryz.f31 [.c 2 (some 2)] 1 9;refine FP ok fun w0 H0=>?_;rw [R8] at h;refine Vg 6 ?_;refine Ai fun all H=>?_;refine Gn H 4 4 ?_;refine R1 ?_;refine A6 5 rfl ?_;have ⟨x2,ex2,h⟩:=Bs h;refine GA Edge.row ex2 H.1 ?_;refine Gn H 1 1 ?_;refine R1 ?_;refine GD (Ae 1 ?_);exact W
def Ik:Bool→Option Bool
| x2=>some x2
def Rq (x1:Int):Option Bool:=
 A0 (decide (170≤x1)) (
 A0 (decide (x1≤186)) (
 Ik true) (
 A0 (decide (x1=188)) (
 Ik true) (
 A0 (decide (x1=191)) (
 Ik true) (
 Ik (decide (x1=192)))))) (
 A0 (decide (x1=188)) (
 Ik true) (
 A0 (decide (x1=191)) (
 Ik true) (
 Ik (decide (x1=192)))))
theorem vi {x1 r} (h:Rq x1=some r):FPx 41 [.iv x1] (.bv r):=by
 have ok:=oJ 41 Tryz.f41 [.t 2] 1 20;refine FP ok fun w0 H0=>?_;rw [Rq] at h;refine Vg 9 ?_;refine Vk [] (fun x2=>[(2,.bv x2)]) Ik r ?_ fun J1=>?_
 ·intro x2 h;rw [Ik] at h;exact W
 ·exact W
@[go_sem] def rJ:EC:=eQ Tryz.f160
theorem Yu:FnOK Tryz.prog 160 Tryz.f160 rJ [.t 4] 2 7:=B6
def IC (x1:List SX) (p1:(SX→Option Bool)):Option Bool:=
 (Hw x1 p1).bind fun x2=>
 some (decide (0≤x2))
theorem PZ {x1 g1 caps1 p1 r} (h:IC x1 p1=some r) (hc1:CloOK Tryz.prog g1 caps1 (fun z=>[.agg (SX.row z)]) p1 (fun z=>.bv z)):FPx 160 [CU x1,.clo g1 caps1] (.bv r):=by refine FP Yu fun w0 H0=>?_;rw [IC] at h;refine Vg 8 ?_;refine VB h (fun e=>Mt e hc1) (fun _ _ h=>?_) (hp:=(by first | rfl | simp [go_sem,hc1.pu]));refine Vg 3 ?_;exact MD Yu h
@[go_sem] def rL:EC:=eQ Tryz.f166
theorem Yv:FnOK Tryz.prog 166 Tryz.f166 rL [.t 4] 2 7:=B6
def Oa (x1:List KE) (p1:(KE→Option Bool)):Option Bool:=
 (Tz x1 p1).bind fun x2=>
 some (decide (0≤x2))
theorem iR {x1 g1 caps1 p1 r} (h:Oa x1 p1=some r) (hc1:CloOK Tryz.prog g1 caps1 (fun z=>[.agg (KE.row z)]) p1 (fun z=>.bv z)):FPx 166 [Bb x1,.clo g1 caps1] (.bv r):=by refine FP Yv fun w0 H0=>?_;rw [Oa] at h;refine Vg 8 ?_;refine VB h (fun e=>w9 e hc1) (fun _ _ h=>?_) (hp:=(by first | rfl | simp [go_sem,hc1.pu]));refine Vg 3 ?_;exact MD Yv h
def Ob (x1:List SE) (p1:(SE→Option Bool)):Option Bool:=
 (Ok x1 p1).bind fun x2=>
 some (decide (0≤x2))
theorem vX {x1 g1 caps1 p1 r} (h:Ob x1 p1=some r) (hc1:CloOK Tryz.prog g1 caps1 (fun z=>[.agg (SE.row z)]) p1 (fun z=>.bv z)):FPx 172 [Av x1,.clo g1 caps1] (.bv r):=by have ok:=oJ 172 Tryz.f172 [.t 4] 2 7;refine FP ok fun w0 H0=>?_;rw [Ob] at h;refine Vg 8 ?_;refine VB h (fun e=>iV e hc1) (fun _ _ h=>?_) (hp:=(by first | rfl | simp [go_sem,hc1.pu]));refine Vg 3 ?_;exact MD ok h
def G7 (x1:List Int) (p1:(Int→Option Bool)):Option Bool:=
 (Ol x1 p1).bind fun x2=>
 some (decide (0≤x2))
theorem Ms {x1 g1 caps1 p1 r} (h:G7 x1 p1=some r) (hc1:CloOK Tryz.prog g1 caps1 (fun z=>[.iv z]) p1 (fun z=>.bv z)):FPx 116 [Ab x1,.clo g1 caps1] (.bv r):=by have ok:=oJ 116 Tryz.f116 [.t 4] 2 7;refine FP ok fun w0 H0=>?_;rw [G7] at h;refine Vg 8 ?_;refine VB h (fun e=>iW e hc1) (fun _ _ h=>?_) (hp:=(by first | rfl | simp [go_sem,hc1.pu]));refine Vg 3 ?_;exact MD ok h
def wz:Go.Shelf.Ren:=⟨(fun | 189=>185 | 125=>227 | 257=>226 | 128=>253 | 129=>254 | 294=>244 | 295=>245 | 296=>246 | 297=>247 | 298=>248 | 299=>249 | 216=>250 | 300=>251 | 301=>252 | 328=>268 | 329=>269 | 330=>270 | 331=>271 | 332=>272 | 215=>225 | 343=>276 | n=>n),(fun | 28=>40 | 3=>3 | 46=>242 | 0=>0 | 51=>278 | 53=>281 | 4=>4 | 183=>302 | 182=>301 | 131=>224 | 5=>5 | 9=>9 | 218=>315 | 222=>319 | 228=>323 | 229=>324 | n=>n),(fun | n=>n)⟩
theorem wy:Lays.n189 Tryz.prog wz where
 mixed:=by kernel_rfl
 f125:=Tryz.func227.trans (congrArg some (by kernel_rfl))
 f128:=Tryz.func253.trans (congrArg some (by kernel_rfl))
 f129:=Tryz.func254.trans (congrArg some (by kernel_rfl))
 f189:=Tryz.func185.trans (congrArg some (by kernel_rfl))
 f215:=Tryz.func225.trans (congrArg some (by kernel_rfl))
 f216:=Tryz.func250.trans (congrArg some (by kernel_rfl))
 f257:=Tryz.func226.trans (congrArg some (by kernel_rfl))
 f294:=Tryz.func244.trans (congrArg some (by kernel_rfl))
 f295:=Tryz.func245.trans (congrArg some (by kernel_rfl))
 f296:=Tryz.func246.trans (congrArg some (by kernel_rfl))
 f297:=Tryz.func247.trans (congrArg some (by kernel_rfl))
 f298:=Tryz.func248.trans (congrArg some (by kernel_rfl))
 f299:=Tryz.func249.trans (congrArg some (by kernel_rfl))
 f300:=Tryz.func251.trans (congrArg some (by kernel_rfl))
 f301:=Tryz.func252.trans (congrArg some (by kernel_rfl))
 f328:=Tryz.func268.trans (congrArg some (by kernel_rfl))
 f329:=Tryz.func269.trans (congrArg some (by kernel_rfl))
 f330:=Tryz.func270.trans (congrArg some (by kernel_rfl))
 f331:=Tryz.func271.trans (congrArg some (by kernel_rfl))
 f332:=Tryz.func272.trans (congrArg some (by kernel_rfl))
 f343:=Tryz.func276.trans (congrArg some (by kernel_rfl))
 t0:=Tryz.underlying0
 a0:=Tryz.isAgg0
 z0:=Tryz.sizeOf0
 v0:=Tryz.zeroValue0
 t3:=Tryz.underlying3
 a3:=Tryz.isAgg3
 z3:=Tryz.sizeOf3
 v3:=Tryz.zeroValue3
 t4:=Tryz.underlying4
 a4:=Tryz.isAgg4
 z4:=Tryz.sizeOf4
 v4:=Tryz.zeroValue4
 t5:=Tryz.underlying5
 a5:=Tryz.isAgg5
 z5:=Tryz.sizeOf5
 v5:=Tryz.zeroValue5
 t9:=Tryz.underlying9
 a9:=Tryz.isAgg9
 z9:=Tryz.sizeOf9
 v9:=Tryz.zeroValue9
 t28:=Tryz.underlying40
 a28:=Tryz.isAgg40
 z28:=Tryz.sizeOf40
 v28:=Tryz.zeroValue40
 t46:=Tryz.underlying242
 a46:=Tryz.isAgg242
 z46:=Tryz.sizeOf242
 v46:=Tryz.zeroValue242
 t51:=Tryz.underlying278
 a51:=Tryz.isAgg278
 z51:=Tryz.sizeOf278
 v51:=Tryz.zeroValue278
 t53:=Tryz.underlying281
 a53:=Tryz.isAgg281
 z53:=Tryz.sizeOf281
 v53:=Tryz.zeroValue281
 t131:=Tryz.underlying224
 a131:=Tryz.isAgg224
 z131:=Tryz.sizeOf224
 v131:=Tryz.zeroValue224
 t182:=Tryz.underlying301
 a182:=Tryz.isAgg301
 z182:=Tryz.sizeOf301
 v182:=Tryz.zeroValue301
 t183:=Tryz.underlying302
 a183:=Tryz.isAgg302
 z183:=Tryz.sizeOf302
 v183:=Tryz.zeroValue302
 t218:=Tryz.underlying315
 a218:=Tryz.isAgg315
 z218:=Tryz.sizeOf315
 v218:=Tryz.zeroValue315
 t222:=Tryz.underlying319
 a222:=Tryz.isAgg319
 z222:=Tryz.sizeOf319
 v222:=Tryz.zeroValue319
 t228:=Tryz.underlying323
 a228:=Tryz.isAgg323
 z228:=Tryz.sizeOf323
 v228:=Tryz.zeroValue323
 t229:=Tryz.underlying324
 a229:=Tryz.isAgg324
 z229:=Tryz.sizeOf324
 v229:=Tryz.zeroValue324
def wx:Go.Shelf.Ren:=⟨(fun | 20=>186 | n=>n),(fun | 22=>40 | 3=>3 | 4=>4 | 0=>0 | n=>n),(fun | n=>n)⟩
theorem ww:Lays2.n20 Tryz.prog wx where
 mixed:=by kernel_rfl
 f20:=Tryz.func186.trans (congrArg some (by kernel_rfl))
 t0:=Tryz.underlying0
 a0:=Tryz.isAgg0
 z0:=Tryz.sizeOf0
 v0:=Tryz.zeroValue0
 t3:=Tryz.underlying3
 a3:=Tryz.isAgg3
 z3:=Tryz.sizeOf3
 v3:=Tryz.zeroValue3
 t4:=Tryz.underlying4
 a4:=Tryz.isAgg4
 z4:=Tryz.sizeOf4
 v4:=Tryz.zeroValue4
 t22:=Tryz.underlying40
 a22:=Tryz.isAgg40
 z22:=Tryz.sizeOf40
 v22:=Tryz.zeroValue40
 i3:=by kernel_rfl
@[go_sem] def PL:EC:=eQ Tryz.f124
def Gy (x1:List Int):Option (List Int):=
 (CF x1).bind fun x2=>
 A0 (decide (x2.length<4611686018427387904)) (
 some (Lib.compact (x2.mergeSort fun x y=>decide (x≤y)))) none
theorem TY {x1 r} (h:Gy x1=some r):FOx 124 [Ab x1] 3 1 (List.map Ad r):=by
 have ok:=oK 124 Tryz.f124 PL [.t 2] 1 9;refine EU ok rfl fun w0 H0=>?_;rw [Gy] at h;refine Ah 100 ?_;dsimp only [PL,go_sem];refine ⟨by simp,?_⟩;have ⟨x2,ex2,h⟩:=Option.bind_eq_some_iff.1 h;refine Ec trivial (Eg ex2) (by first | exact Am _ | simp [go_sem]) (by first | rfl | simp [go_sem]) ?_;refine Ah 100 ?_;dsimp only [PL,go_sem];refine ⟨by simp,?_⟩;by_cases hl:x2.length<4611686018427387904
 ·rw [show decide (x2.length<4611686018427387904)=true from decide_eq_true hl] at h;have h:some (Lib.compact (x2.mergeSort fun x y=>decide (x≤y)))=some r:=h;refine pT wy x2 trivial (by kernel_rfl) rfl rfl hl ?_;refine Ah 100 ?_;dsimp only [PL,go_sem];refine ⟨by simp,?_⟩;refine pg ww (x2.mergeSort fun x y=>decide (x≤y)) trivial (by kernel_rfl) rfl rfl (by simpa using hl) ?_;refine Ah 100 ?_;dsimp only [PL,go_sem];refine ⟨by simp,?_⟩;exact Db Ad ok h rfl rfl
 ·rw [show decide (x2.length<4611686018427387904)=false from decide_eq_false hl] at h;cases h
theorem vS {x1 r} (h:Gy x1=some r):FPx 124 [Ab x1] (Ab r):=(TY h).sealed
def Tw:List Int→Option (List Int)
| x4=>some x4
def XN (x1:Int):Unit→Option (List Int)
| ()=>
 A0 (decide (0<(wr (x1-(wr (0-0)))))) (
 (LU 8 (wr (x1-(wr (0-0)))) 0).bind fun x2=>
 (Cj x2 0 0).bind fun x3=>
 Tw x3) (
 Tw (([]:List Int)))
def Tv (x1:Int):Option (List Int):=
 A0 (decide (x1<0)) (
 none) (
 (XN x1) ())
theorem Z1O {x1 r} (h:Tv x1=some r):FTx 255 [.nl,.iv x1] [] [] (.osl 0) [] [A5 r]:=by
 refine Ft kG fun w0 M0=>?_;have ok:=kG;rw [Tv] at h;refine Vg 10 ?_;refine Vk [0,2] (fun _=>[]) (XN x1) r ?_ fun J1=>?_
 ·rintro ⟨⟩ h;rw [XN] at h;refine Vg 5 ?_;refine Uz trivial rfl (Vg 11 ?_);refine Vl [] (fun x4=>([(0,.osl 0)],[],[A5 x4])) Tw r ?_ fun J2=>?_
  ·intro x4 h;rw [Tw] at h;exact W
  ·refine MI h (fun h=>?_) fun h=>?_
   ·refine Vg 3 ?_;refine Uz trivial rfl (fk trivial rfl rfl rfl (Vg 1 ?_));have ⟨x2,ex2,h⟩:=Bs h;refine fg Ad ex2 trivial rfl rfl rfl rfl (Vg 2 ?_);have ⟨x3,ex3,h⟩:=Bs h;refine Pt Ad ex3 trivial rfl rfl rfl rfl (Vg 2 ?_);refine A7 1 0 ?_;exact W
   ·refine Vg 1 ?_;refine CV 0 3 1 rfl rfl ?_;exact W
 ·refine MI h (fun h=>?_) fun h=>W;cases h
def Ln (x1:List Int) (x2:Int):Option Bool:=
 (TF x1 x2).bind fun x3=>
 some (decide (0≤x3))
theorem bl {x1 x2 r} (h:Ln x1 x2=some r):FPx 156 [Ab x1,.iv x2] (.bv r):=by have ok:=oJ 156 Tryz.f156 [.t 4] 2 7;refine FP ok fun w0 H0=>?_;rw [Ln] at h;refine Vg 8 ?_;refine VB h wc fun _ _ h=>?_;exact W
@[go_sem] def sn:EC:=eQ Tryz.f242
theorem cM:FnOK Tryz.prog 242 Tryz.f242 sn [.t 4] 2 40:=B6
@[go_sem] def rQ:EC:=eQ Tryz.f188
theorem kl:FnOK Tryz.prog 188 Tryz.f188 rQ [.c 2 (some 2)] 1 27:=B6
def Xz (x1 x2:Int) (x3:List SE):List SE→Option (List SE)
| x11=>
 (DE (ln SE.row x11) ((((Int.toNat (x1)-Int.toNat (0))+(Int.toNat (ln SE.row x3)-Int.toNat (x2)):Nat):Int)) (ln SE.row x3)).bind fun _=>
 (H9 x11 (Int.toNat ((((Int.toNat (x1)-Int.toNat (0))+(Int.toNat (ln SE.row x3)-Int.toNat (x2)):Nat):Int))) (Int.toNat (ln SE.row x3)-Int.toNat ((((Int.toNat (x1)-Int.toNat (0))+(Int.toNat (ln SE.row x3)-Int.toNat (x2)):Nat):Int))) (SE.mk 0 (([]:List Int)) 0 0)).bind fun x13=>
 (UQ x13 ((Int.toNat (x1)-Int.toNat (0))+(Int.toNat (ln SE.row x3)-Int.toNat (x2)))).bind fun x14=>
 some x14
def Lo (x1 x2:Int) (x3:List SE):Option (List SE):=
 (DE (ln SE.row x3) x1 x2).bind fun _=>
 (DE (ln SE.row x3) x2 (ln SE.row x3)).bind fun _=>
 A0 (decide (x1=x2)) (
 some x3) (
 (DE (ln SE.row x3) 0 x1).bind fun _=>
 (DE (ln SE.row x3) x2 (ln SE.row x3)).bind fun _=>
 (Yk x3 (Int.toNat (x1)-Int.toNat (0)) (Int.toNat (x2)) (Int.toNat (ln SE.row x3)-Int.toNat (x2))).bind fun x10=>
 (Xz x1 x2 x3) x10)
theorem Eb {x1 x2 x3 r} (h:Lo x1 x2 x3=some r):FTx 201 [.osl 0,.iv x1,.iv x2] [] [AX x3] (.osl 1) [] [none,AX r]:=by
 refine Ft kq fun w0 M0=>?_;have ok:=kq;rw [Lo] at h;refine Vg 11 ?_;have ⟨x4,ex4,h⟩:=Bs h;have ⟨x5,ex5,h⟩:=Bs h;refine pR SE.row ex4 ex5 trivial rfl rfl rfl rfl rfl (Vg 8 ?_);refine MI h (fun h=>?_) fun h=>?_
 ·refine Vg 5 ?_;refine As 53 4 (Ds ?_);refine A7 0 1 ?_;exact W
 ·refine Vg 8 ?_;refine Vl [7,1] (fun x11=>([(0,.ocs 0 0 4 ((Int.toNat (x1)-Int.toNat (0))+(Int.toNat (ln SE.row x3)-Int.toNat (x2))))],[],[AX x11])) (Xz x1 x2 x3) r ?_ fun J1=>?_
  ·intro x11 h;rw [Xz] at h;refine Vg 6 ?_;have ⟨x12,ex12,h⟩:=Bs h;refine pY SE.row ex12 trivial rfl rfl rfl rfl ?_;have ⟨x13,ex13,h⟩:=Bs h;refine UA SE.row ex13 trivial rfl rfl (by first | exact Am _ | simp [go_sem]) (by first | rfl | simp [go_sem]) rfl rfl (Vg 6 ?_);have ⟨x14,ex14,h⟩:=Bs h;refine pk 6 0 4 ((Int.toNat (x1)-Int.toNat (0))+(Int.toNat (ln SE.row x3)-Int.toNat (x2))) SE.row ex14 rfl rfl ?_;exact W
  ·refine Ai fun all H=>?_;refine Gn H 4 4 ?_;have ⟨x6,ex6,h⟩:=Bs h;have ⟨x7,ex7,h⟩:=Bs h;refine Ag 2 5 rfl ?_ ?_
   ·refine Uw SE.row ex6 H.1 rfl trivial rfl rfl rfl rfl (Ds ?_);refine A6 5 rfl (Uw SE.row ex7 H.1 rfl trivial rfl rfl rfl rfl (Ds ?_));refine A6 6 rfl ?_;have ⟨x10,ex10,h⟩:=Bs h;refine eL SE.row ex10 H.1 rfl trivial rfl rfl rfl ?_;refine Gn H 1 0 ?_;refine GD ?_;exact W
   ·refine Uw SE.row ex7 H.1 rfl trivial rfl rfl rfl rfl (Ds ?_);refine A6 2 rfl (Uw SE.row ex6 H.1 rfl trivial rfl rfl rfl rfl (Ds ?_));refine A6 6 rfl ?_;have ⟨x10,ex10,h⟩:=Bs h;refine eL SE.row ex10 H.1 rfl trivial rfl rfl rfl ?_;refine Gn H 1 0 ?_;refine GD ?_;exact W
def O1 (x1:BK) (x2:Int):Option Int:=
 (Ok x1.SE ((fun z=>Xm z x2))).bind fun x3=>
 some x3
theorem CD {x1 x2 r} (h:O1 x1 x2=some r):FPx 230 [.agg (BK.row x1),.iv x2] (.iv r):=by have ok:=oJ 230 Tryz.f230 [.t 4] 2 7;refine FP ok fun w0 H0=>?_;rw [O1] at h;refine Vg 11 ?_;refine VN (LR.block 1 rfl rfl) h (fun e=>iV e ⟨by kernel_rfl,rfl,fun z r hz=>vM hz⟩) fun _ _ h=>?_;exact W
def Hl:Bool→Option Bool
| x5=>some x5
def QD (x1:SX):Bool→Option Bool
| x4=>
 A0 (!x4) (
 Hl true) (
 A0 (decide (x1.EP<0)) (
 Hl true) (
 A0 (decide (65535<x1.EP)) (
 Hl true) (
 A0 (decide (x1.SS<0)) (
 Hl true) (
 A0 (decide (3<x1.SS)) (
 Hl true) (
 A0 x1.DY (
 Hl (!x1.FK)) (
 Hl false))))))
def QC (x1:SX) (x2:Int) (x3:DI):Option Bool:=
 A0 (decide (x2<x1.PE)) (
 (QD x1) (!decide (x1.PE=x3.ID))) (
 (QD x1) false)
theorem Z1g {x1 x2 x3 r} (h:QC x1 x2 x3=some r):FTx 216 [.agg (SX.row x1),.ptr 0 0,.ptr 1 0] [some ⟨3,[.iv x2]⟩,some ⟨38,DI.row x3⟩] [] (.bv r) [some ⟨3,[.iv x1.PE]⟩,some ⟨38,DI.row x3⟩] []:=by
 refine Ft kB fun w0 M0=>?_;have ok:=kB;rw [QC] at h;refine Vg 12 ?_;refine Vk [1,1,1,1] (fun x4=>[(5,.bv x4)]) (QD x1) r ?_ fun J1=>?_
 ·intro x4 h;rw [QD] at h;refine Vg 11 ?_;refine Vl [] (fun x5=>([(4,.bv x5)],[some ⟨3,[.iv x1.PE]⟩,some ⟨38,DI.row x3⟩],[])) Hl r ?_ fun J2=>?_
  ·intro x5 h;rw [Hl] at h;exact W
  ·exact W
 ·exact W
def KF (x1 x2:Int) (_x3 x4:Int) (x5:List ML) (x6:List SX):Option (List ML):=
 (A4 x6 x4).bind fun x7=>
 (AI 40 x5 ([ML.mk x2 x7.PE (Msg.mk x1 x7.EP 0)])).bind fun x8=>
 some x8
theorem Zg {x1 x2 x3 x4 x5 x6 r} (h:KF x1 x2 x3 x4 x5 x6=some r):FTx 274 [.iv x1,.ptr 0 0,.ptr 1 0,.ptr 2 0] [some ⟨29,[.osl 0]⟩,some ⟨38,[.iv x2,.iv x3,.osl 1]⟩,some ⟨311,[.oel 1 (Int.toNat (x4)*8) 0]⟩] [Az x5,Ac x6] (.tup []) [some ⟨29,[.osl 3]⟩,some ⟨38,[.iv x2,.iv x3,.osl 1]⟩,some ⟨311,[.oel 1 (Int.toNat (x4)*8) 0]⟩] [none,Ac x6,none,Az r]:=by refine Ft kJ fun w0 M0=>?_;have ok:=kJ;rw [KF] at h;have ⟨x7,ex7,h⟩:=Bs h;have ⟨x8,ex8,h⟩:=Bs h;refine Ai fun all H=>Gs ?_;exact W
@[go_sem] def se:EC:=eQ Tryz.f233
theorem kC:FnOK Tryz.prog 233 Tryz.f233 se [.c 2 (some 5)] 1 13:=B6
def N2:Bool→Option Bool
| x4=>some x4
def VI (x1 x2:DI):Option Bool:=
 A0 (decide (x1.ID=x2.ID)) (
 A0 (decide (x1.PH=x2.PH)) (
 (Tr x1.SD x2.SD).bind fun x3=>
 N2 x3) (
 N2 false)) (
 N2 false)
theorem uR {x1 x2 r} (h:VI x1 x2=some r):FPx 199 [.agg (DI.row x1),.agg (DI.row x2)] (.bv r):=by
 have ok:=oJ 199 Tryz.f199 [.t 4] 2 22;refine FP ok fun w0 H0=>?_;rw [VI] at h;refine Vg 14 ?_;refine Vl [] (fun x4=>([(4,.bv x4)],[],[])) N2 r ?_ fun J1=>?_
 ·intro x4 h;rw [N2] at h;exact W
 ·refine MC 10 h (fun h=>?_) fun h=>W;refine Vg 7 ?_;refine MC 17 h (fun h=>?_) fun h=>W;refine Vg 4 ?_;refine VB h w6 fun _ _ h=>?_;exact W
@[go_sem] def sD:EC:=eQ Tryz.f87
theorem OS:FnOK Tryz.prog 87 Tryz.f87 sD [.c 2 (some 10)] 1 58:=B6
@[go_sem] def rB:EC:=eQ Tryz.f145
theorem Ys:FnOK Tryz.prog 145 Tryz.f145 rB [.t 2] 1 4:=B6
def Rz (x1:NO):Option (List Int):=
 (Ld x1 ((fun z=>Iq z))).bind fun x2=>
 some x2
theorem vn {x1 r} (h:Rz x1=some r):FPx 145 [.agg (NO.row x1)] (Ab r):=by refine FP Ys fun w0 H0=>?_;have ok:=Ys;rw [Rz] at h;refine Vg 8 ?_;refine VB h (fun e=>bc e ⟨by kernel_rfl,rfl,fun z r hz=>b8 hz⟩) fun _ _ h=>?_;exact W
@[go_sem] def rC:EC:=eQ Tryz.f146
theorem kd:FnOK Tryz.prog 146 Tryz.f146 rC [.t 6] 3 19:=B6
def Sa:Int→Option (Bool×Int)
| x15=>some (decide (x15=0),x15)
def S9 (x2 x8:Int):Bool→Option (Bool×Int)
| x14=>
 A0 x14 (
 Sa x2) (
 Sa x8)
def L5 (x1:Bool) (x2:Int) (_x3 _x4:Int) (_x5 _x6:Int) (_x7:List SE) (x8:Int) (_x9:List SX) (_x10:List Int) (_x11:List KE) (_x12:List Int) (_x13:List KE):Option (Bool×Int):=
 A0 (decide (x8=0)) (
 (S9 x2 x8) (!x1)) (
 (S9 x2 x8) false)
theorem er {x1 x2 x3 x4 x5 x6 x7 x8 x9 x10 x11 x12 x13 r} (h:L5 x1 x2 x3 x4 x5 x6 x7 x8 x9 x10 x11 x12 x13=some r):FTx 91 [.ptr 0 0,.bv x1,.iv x2] [some ⟨173,[.iv x3,.iv x4,.osl 0,.iv x5,.osl 1,.iv x6,Av x7,.osl 2,.osl 3,.osl 4,.nl,.nl,.iv x8]⟩] [Ac x9,A5 x10,A9 x11,A5 x12,A9 x13] (.bv r.1) [some ⟨173,[.iv x3,.iv x4,.osl 0,.iv x5,.osl 1,.iv x6,Av x7,.osl 2,.osl 3,.osl 4,.nl,.nl,.iv r.2]⟩] [Ac x9,A5 x10,A9 x11,A5 x12,A9 x13]:=by
 refine Ft OT fun w0 M0=>?_;have ok:=OT;rw [L5] at h;refine Vg 13 ?_;refine Vk [0,1,1,1] (fun x14=>[(15,.bv x14)]) (S9 x2 x8) r ?_ fun J1=>?_
 ·intro x14 h;rw [S9] at h;refine Vm [0,1] (fun x15=>([],[(0,12,.iv x15)],[],[])) Sa r ?_ fun J2=>?_
  ·intro x15 h;rw [Sa] at h;exact W
  ·exact W
 ·exact W
def c7:List Int→Option (List Int)
| x33=>some x33
def NN (x17:Int):List Int→Option ((Int×List Int) ⊕ (List Int))
| x22=>some (.inl (wr (x17+1),x22))
def Ss (x6:List SX) (p0:(SX→Option Bool)):(Int×List Int)→Option ((Int×List Int) ⊕ (List Int))
| (x17,x18)=>
 A0 (decide (x17<(ln SX.row x6))) (
 (A4 x6 x17).bind fun x19=>
 (p0 x19).bind fun x20=>
 A0 x20 (
 (AI 8 x18 ([x19.PE])).bind fun x21=>
 (NN x17) x21) (
 (NN x17) x18)) (
 Option.map Sum.inr (c7 x18))
def Xg (_x1 _x2:Int) (_x3 _x4:Int) (_x5:List SE) (x6:List SX) (_x7:List Int) (_x8:List KE) (_x9:List Int) (_x10:List KE) (p0:(SX→Option Bool)):Option (List Int):=loop (Ss x6 p0) (0,([]:List Int))
theorem Z1I {x1 x2 x3 x4 x5 x6 x7 x8 x9 x10 g0 caps0 p0 r} (h:Xg x1 x2 x3 x4 x5 x6 x7 x8 x9 x10 p0=some r) (hc0:CloOK Tryz.prog g0 caps0 (fun z=>[.agg (SX.row z)]) p0 (fun z=>.bv z)):FTx 171 [.agg [.iv x1,.iv x2,.osl 0,.iv x3,.osl 1,.iv x4,Av x5,.osl 2,.osl 3,.osl 4],.clo g0 caps0] [] [Ac x6,A5 x7,A9 x8,A5 x9,A9 x10] (.osl 5) [] [Ac x6,A5 x7,A9 x8,A5 x9,A9 x10,A5 r]:=by
 refine Ft Yw fun w0 M0=>?_;rw [Xg] at h;refine Vg 19 ?_;refine Vl [] (fun x33=>([(5,.osl 5)],[],[Ac x6,A5 x7,A9 x8,A5 x9,A9 x10,A5 x33])) c7 r ?_ fun J1=>?_
 ·intro x33 h;rw [c7] at h;refine Vg 5 ?_;exact Td Yw h
 ·refine Vg 1 ?_;refine CV 5 3 1 rfl rfl (Ds ?_);refine Ml h [1,1,3,1,5,2] (fun s=>([(13,.iv s.1)],[],[Ac x6,A5 x7,A9 x8,A5 x9,A9 x10,A5 s.2])) ?_ (hok:=by rintro ⟨x17,x18⟩;first | rfl | (simp [go_sem];done) | simp [go_sem,Ax _ hc0.pu]);rintro n1 ⟨x17,x18⟩ y1 h hin1 hout1;rw [Ss] at h;(try dsimp only);refine Vg 5 ?_;refine MI h (fun h=>?_) fun h=>?_
  ·refine Vg 5 ?_;have ⟨x19,ex19,h⟩:=Bs h;refine BR SX.row ex19 trivial rfl rfl rfl (Fm SX.row ex19 trivial rfl rfl rfl (Vg 7 ?_));have ⟨x20,ex20,h⟩:=Bs h;refine Dy trivial rfl hc0 (x:=x19) ex20 (by first | exact Am _ | simp [go_sem]) (by first | rfl | simp [go_sem,hc0.pu]) (Vg 1 ?_);refine Vl [1,1,3,1,5,3] (fun x22=>([],[],[Ac x6,A5 x7,A9 x8,A5 x9,A9 x10,A5 x22])) (NN x17) y1 ?_ fun J2=>?_
   ·intro x22 h;rw [NN] at h;refine Vg 5 ?_;exact Da h hin1 (hok:=by first | rfl | simp [go_sem,Ax _ hc0.pu])
   ·refine MI h (fun h=>?_) fun h=>?_
    ·refine Vg 5 ?_;have ⟨x21,ex21,h⟩:=Bs h;refine BP Ad ex21 trivial rfl rfl rfl (Vg 2 ?_);refine A7 7 5 (Ds ?_);(try rw [P1 _ _ _ hc0.pu]);exact AQ J2 h (hok:=by first | rfl | simp [go_sem,Ax _ hc0.pu])
    ·refine Vg 1 ?_;exact AQ J2 h (hok:=by first | rfl | simp [go_sem,Ax _ hc0.pu])
  ·refine Vg 1 ?_;exact AQ J1 (BY h hout1) (hok:=by first | rfl | simp [go_sem])
def L9 (x1 x2:Int) (x3 _x4:Int) (_x5 _x6:Int) (_x7:List SE) (_x8:Int) (_x9:List SX) (_x10:List Int) (_x11:List KE) (_x12:List Int) (_x13:List KE):Option (List EV):=
 (AI 56 [] ([EV.mk x1 x3 x2 0 (([]:List Int))])).bind fun x14=>
 some x14
theorem et {x1 x2 x3 x4 x5 x6 x7 x8 x9 x10 x11 x12 x13 r} (h:L9 x1 x2 x3 x4 x5 x6 x7 x8 x9 x10 x11 x12 x13=some r):FTx 147 [.ptr 0 0,.iv x1,.iv x2] [some ⟨173,[.iv x3,.iv x4,.osl 0,.iv x5,.osl 1,.iv x6,Av x7,.osl 2,.osl 3,.osl 4,.nl,.nl,.iv x8]⟩] [Ac x9,A5 x10,A9 x11,A5 x12,A9 x13] (.tup []) [some ⟨173,[.iv x3,.iv x4,.osl 0,.iv x5,.osl 1,.iv x6,Av x7,.osl 2,.osl 3,.osl 4,.nl,.osl 6,.iv x8]⟩] [Ac x9,A5 x10,A9 x11,A5 x12,A9 x13,none,Be r]:=by refine Ft OM fun w0 M0=>?_;have ok:=OM;rw [L9] at h;refine Ai fun all H=>Ds (GP H 14 6 [14,6] [(6,[.ptr 0 0,.ptr 0 0,.ptr 0 0,.ptr 0 11,.nl,.iv x1,.ptr 0 0,.ptr 0 0,.ptr 0 0,.ptr 0 0,.ptr 0 0,.ptr 0 0,.iv x3,.iv x2])] (Ds ?_));refine A6 14 rfl (HQ (.agg [.iv x1,.iv x3,.iv x2,.iv 0,Ab (([]:List Int))]) H.1 rfl trivial (by simp [go_sem]) (Ds ?_));refine R1 ?_;refine A6 16 rfl ?_;have ⟨x14,ex14,h⟩:=Bs h;refine Uu EV.row ex14 H.1 rfl trivial rfl rfl ?_;refine Gn H 2 1 ?_;refine R1 ?_;refine GD ?_;exact W
theorem LH {l r} (h:Eu l=some r):
  Cr Tryz.prog 49 [.osl 0] [] [some ⟨66,8,l.map SX.row⟩] (.osl 1) [] [some ⟨66,8,l.map SX.row⟩,some ⟨66,8,r.map SX.row⟩]:=by
 unfold Eu at h;refine FT OP fun w0 M0=>?_;dsimp only[D6,List.cons_append,List.nil_append];refine Ah 100 ?_;dsimp only[go_sem];refine An ?_;refine ZA trivial rfl rfl (fun hn=>?_) ?_
 ·refine Ah 100 ?_;dsimp only[go_sem];refine An ?_;refine CV 2 66 8 rfl rfl ?_;dsimp only[go_sem];have hn:l=[]:=by simpa using hn
  subst hn;obtain rfl:r=[]:=by simpa [AI] using h.symm
  exact En OP
 ·refine Ah 100 ?_;dsimp only[go_sem];refine An ?_;refine BP SX.row (l':=[]) h trivial rfl rfl rfl ?_;refine Ah 100 ?_;dsimp only[go_sem];refine An ?_;refine A7 2 1 ?_;dsimp only[go_sem];exact En OP
theorem Pj {l r} (h:CF l=some r):
  Cr Tryz.prog 50 [.osl 0] [] [some ⟨3,1,l.map Ad⟩] (.osl 1) [] [some ⟨3,1,l.map Ad⟩,some ⟨3,1,r.map Ad⟩]:=by
 unfold CF at h;refine FT OQ fun w0 M0=>?_;dsimp only[D6,List.cons_append,List.nil_append];refine Ah 100 ?_;dsimp only[go_sem];refine An ?_;refine ZA trivial rfl rfl (fun hn=>?_) ?_
 ·refine Ah 100 ?_;dsimp only[go_sem];refine An ?_;refine CV 2 3 1 rfl rfl ?_;dsimp only[go_sem];have hn:l=[]:=by simpa using hn
  subst hn;obtain rfl:r=[]:=by simpa [AI] using h.symm
  exact En OQ
 ·refine Ah 100 ?_;dsimp only[go_sem];refine An ?_;refine BP Ad (l':=[]) h trivial rfl rfl rfl ?_;refine Ah 100 ?_;dsimp only[go_sem];refine An ?_;refine A7 2 1 ?_;dsimp only[go_sem];exact En OQ
end
end NX
end Go.Proofs.YtjemlejoladlcaaGreat
