/-
  The function narthex/set.keep$1: its code compiled, a model, and that the code answers as the model. Written by a program of ours (lb.py). No statement of the seat is proved here.
-/
import Derived.Test.YtgamgemlekpepaaGreatK22
set_option maxRecDepth 100000
set_option maxHeartbeats 40000000
namespace Go.Proofs.YtgamgemlekpepaaGreat
namespace NX
open Go
noncomputable section
def Zhl (x1:Int) (pc0:(Int→Option Bool)):Option Bool:=
 (pc0 x1).bind fun x2=>
 some (!x2)
theorem Zil {x1 gc0 capsc0 pc0 r} (h:Zhl x1 pc0=some r) (hcc0:CloOK Tryz.prog gc0 capsc0 (fun z=>[.iv z]) pc0 (fun z=>.bv z)):FPx 202 [.iv x1,.elt [.clo gc0 capsc0] 0] (.bv r):=by have ok:=oJ 202 Tryz.f202 [.t 3] 2 6;refine FP ok fun w0 H0=>?_;rw [Zhl] at h;refine Vg 8 ?_;have ⟨x2,ex2,h⟩:=Bs h;refine Z3d trivial rfl hcc0 (x:=x1) ex2 (by first | exact Zrb _ | simp [go_sem]) (by first | rfl | simp [go_sem,hcc0.pu]) (Vg 3 ?_);exact MD ok h
def Zjl:Unit→Option Bool
| ()=>some true
def Zkl (x6:Int):Bool→Option (Int ⊕ Bool)
| x9=>
 ifb x9 (
 Option.map Sum.inr (some false)) (
 some (.inl (wr (x6+1))))
def Zll (x1:List Int):Int→Option (Int ⊕ Bool)
| x6=>
 ifb (decide (x6<(ln Z4d x1))) (
 ifb (decide (0<x6)) (
 (at_ x1 (wr (x6-1))).bind fun x7=>
 (at_ x1 x6).bind fun x8=>
 (Zkl x6) (decide (x8≤x7))) (
 (Zkl x6) false)) (
 Option.map Sum.inr (Zjl ()))
def Zml (x1:List Int):Option Bool:=loop (Zll x1) 0
theorem Znl {x1 r} (h:Zml x1=some r):FPx 102 [Sp1 x1] (.bv r):=by
 have ok:=oJ 102 Tryz.f102 [.t 2] 1 23;refine FP ok fun w0 H0=>?_;rw [Zml] at h;refine Vg 11 ?_;refine Vk [] (fun _=>[]) Zjl r ?_ fun J1=>?_
 ·rintro ⟨⟩ h;rw [Zjl] at h;exact W
 ·refine Vg 1 ?_;refine Mk h [0,1,4,1] (fun x6=>[(6,.iv x6)]) ?_;rintro n1 x6 y1 h hin1 hout1;rw [Zll] at h;refine Vg 5 ?_;refine MI h (fun h=>?_) fun h=>?_
  ·refine Vg 9 ?_;refine Vk [0,1,4,2] (fun x9=>[(22,.bv x9)]) (Zkl x6) y1 ?_ fun J2=>?_
   ·intro x9 h;rw [Zkl] at h;exact W
   ·refine Zgj fun all H=>?_;refine Gn H 3 11 ?_;refine Zdd 11 h rfl (fun _ h=>?_) fun _ h=>?_
    ·refine Ds (GP H 5 6 [6,2,2,4] [(12,[Sp1 x1,.iv x6,.iv (wr (x6-1))]),(2,[Sp1 x1,.iv x6])] (Ds ?_));have ⟨x7,ex7,h⟩:=Bs h;refine Zkc H.1 H.2.1 H.2.2.1 H.2.2.2 6 Z4d ex7 rfl rfl trivial rfl rfl rfl rfl (Gn H 1 4 ?_);have ⟨x8,ex8,h⟩:=Bs h;refine Zkc H.1 H.2.1 H.2.2.1 H.2.2.2 10 Z4d ex8 rfl rfl trivial rfl rfl rfl rfl (Gn H 3 0 ?_);refine GD ?_;exact W
    ·refine Ds (GP H 11 0 [14] [(12,[.un,.un,.un,.un,.un,.un,.un,.un,.un,.un,.ff])] (Ds ?_));refine GD ?_;exact W
  ·exact W
@[go_sem] def e65:EC:=eQ Tryz.f65
def Zol (x1:List SE):Option (List SE):=Z8c 48 [] x1
theorem Zpl {x1 r} (h:Zol x1=some r):FOx 65 [Sp5 x1] 131 4 (List.map SE.row r):=by
 have ok:=oK 65 Tryz.f65 e65 [.t 2] 1 7;refine Zrd ok rfl fun w0 H0=>?_;rw [Zol] at h;refine Zg6 100 ?_;dsimp only [e65,go_sem];refine ⟨by simp,?_⟩;refine Zpd trivial rfl (fun hn=>?_) ?_
 ·refine Zg6 100 ?_;dsimp only[go_sem];refine ⟨by simp,?_⟩;refine Zcb 2 131 4 rfl rfl ?_;dsimp only[go_sem];have hn:x1=[]:=by simpa using hn
  subst hn;exact Zae SE.row (e:=[]) ok (by simpa [Z8c] using h) rfl rfl
 ·refine Zg6 100 ?_;dsimp only[go_sem];refine ⟨by simp,?_⟩;refine Zmc SE.row h trivial rfl rfl rfl ?_;refine Zg6 100 ?_;dsimp only[go_sem];refine ⟨by simp,?_⟩;exact Zae SE.row ok (rfl:some r=some r) rfl rfl
def Zql (x1:Int):Option Bool:=some (decide (x1<0))
theorem Zrl {x1 r} (h:Zql x1=some r):FPx 159 [.iv x1] (.bv r):=by have ok:=oJ 159 Tryz.f159 [.t 2] 1 4;refine FP ok fun w0 H0=>?_;rw [Zql] at h;exact W
@[go_sem] def e170:EC:=eQ Tryz.f170
theorem Zsl:FnOK Tryz.prog 170 Tryz.f170 e170 [.t 6] 3 30:=okA
def Ztl (x1:SE) (x2:Int):Option Bool:=some (decide (x1.ID=x2))
theorem Zul {x1 x2 r} (h:Ztl x1 x2=some r):FPx 228 [.agg (SE.row x1),.elt (Z4d x2) 0] (.bv r):=by have ok:=oJ 228 Tryz.f228 [.t 3] 2 6;refine FP ok fun w0 H0=>?_;rw [Ztl] at h;exact W
@[go_sem] def Zvl:EC:=.seq (.reg [Qa 14 (.bin .lss (.t 13) (.t 12))]) (.seq (.ite (.t 14) (.skip) (.exit 0)) (.seq (.blk 1 (.seq (.reg [Qm 15 13,Qm 5 15]) (.seq (.drw [Qm 16 0,Qm 17 5,Qk 18 8 16 17,Qe 19 8 18,Qm 20 1,Qm 21 5,Qk 22 8 20 21,Qe 23 8 22,Qa 24 (.eqs true [true,true,true,false,false,false,false,false] (.t 19) (.t 23))] [[],[],[0,1],[2,0,1],[],[],[4,5],[6,4,5],[3,7,2,0,1,6,4,5]] [[2],[2],[0,1,3],[2,8],[6],[6],[4,5,7],[6,8],[3,7]]) (.ite (.t 24) (.seq (.reg [Qa 4 (.mv (.c .ff))]) (.ret)) (.skip))))) (.reg [Qv 25 13 1,Qm 13 25])))
@[go_sem] def e189:EC:=.seq (.reg [Qa 4 (.mv (.c .ff))]) (.seq (.seq (.reg [Qm 6 0,Qa 7 (.len (.t 6)),Qm 8 1,Qa 9 (.len (.t 8)),Qa 10 (.bin .neq (.t 7) (.t 9))]) (.ite (.t 10) (.seq (.reg [Qa 4 (.mv (.c .ff))]) (.ret)) (.skip))) (.seq (.seq (.reg [Qm 11 0,Qa 12 (.len (.t 11)),Qi 13 0]) (.blk 0 (.loop Zvl))) (.seq (.reg [Qa 4 (.mv (.c .tt))]) (.ret))))
def Zwl:Unit→Option Bool
| ()=>some true
def Zxl (x1 x2:List SX):Int→Option (Int ⊕ Bool)
| x6=>
 ifb (decide (x6<(ln SX.row x1))) (
 (at_ x1 x6).bind fun x7=>
 (at_ x2 x6).bind fun x8=>
 ifb (!(decide (x7.PE=x8.PE)&&(decide (x7.EP=x8.EP)&&(decide (x7.SS=x8.SS)&&((x7.FK==x8.FK)&&((x7.DY==x8.DY)&&((x7.TO==x8.TO)&&((x7.BO==x8.BO)&&((x7.Ask==x8.Ask)&&true))))))))) (
 Option.map Sum.inr (some false)) (
 some (.inl (wr (x6+1))))) (
 Option.map Sum.inr (Zwl ()))
def Zyl (x1 x2:List SX):Option Bool:=
 ifb (!decide ((ln SX.row x1)=(ln SX.row x2))) (
 some false) (
 loop (Zxl x1 x2) 0)
theorem Zzl {x1 x2 r} (h:Zyl x1 x2=some r):FPx 189 [Sp3 x1,Sp3 x2] (.bv r):=by
 have ok:=oK 189 Tryz.f189 e189 [.t 4] 2 24;refine FP ok fun w0 H0=>?_;rw [Zyl] at h;refine Vg 13 ?_;refine MI h (fun h=>?_) fun h=>?_
 ·exact W
 ·refine Vg 8 ?_;refine Vk [] (fun _=>[]) Zwl r ?_ fun J1=>?_
  ·rintro ⟨⟩ h;rw [Zwl] at h;exact W
  ·refine Vg 1 ?_;refine Mk h [0,2,10,1] (fun x6=>[(13,.iv x6)]) ?_;rintro n1 x6 y1 h hin1 hout1;rw [Zxl] at h;refine Vg 5 ?_;refine MI h (fun h=>?_) fun h=>?_
   ·refine Vg 9 ?_;have ⟨x7,ex7,h⟩:=Bs h;have ⟨x8,ex8,h⟩:=Bs h;refine Zgj fun all H=>Gs ?_;exact W
   ·exact W
@[go_sem] def Z0m:EC:=.seq (.seq (.reg [Qm 27 5,Qf 28 2 2,Ql 29 28,Qa 30 (.len (.t 29)),Qa 31 (.bin .lss (.t 27) (.t 30))]) (.ite (.t 31) (.skip) (.exit 0))) (.seq (.blk 1 (.seq (.drw [Qf 34 2 2,Ql 35 34,Qm 36 5,Qk 37 8 35 36,Qe 38 8 37,Qf 39 2 3,Ql 40 39,Qm 41 5,Qk 42 8 40 41,Qe 43 8 42,Qa 44 (.eqs true [true,true,true,false,false,false,false,false] (.t 38) (.t 43))] [[],[0],[],[1,2,0],[3,1,2,0],[],[5],[],[6,7,5],[8,6,7,5],[4,9,3,1,2,0,8,6,7,5]] [[1],[0,3],[3],[1,2,4],[3,10],[6],[5,8],[8],[6,7,9],[8,10],[4,9]]) (.ite (.t 44) (.seq (.reg [Qa 4 (.mv (.c .ff))]) (.ret)) (.skip)))) (.reg [Qm 32 5,Qv 33 32 1,Qm 5 33]))
@[go_sem] def e62:EC:=.seq (.reg [Qx 2 58 3 0,Qx 3 58 3 1,Qa 4 (.mv (.c .ff))]) (.seq (.seq (.reg [Qf 6 0 2,Ql 7 6,Qf 8 0 3,Ql 9 8,Qa 10 (.bin .neq (.t 7) (.t 9)),Qm 11 10,Qh 12 11 false 1 2,Qn 13 11 false 12,Qh 14 11 false 1 3,Qn 15 11 false 14,Qg 16 11 false (.bin .neq (.t 13) (.t 15)),Qq 17 11 16,Qm 18 17,Qh 19 18 false 2 2,Qn 20 18 false 19,Qg 21 18 false (.len (.t 20)),Qh 22 18 false 2 3,Qn 23 18 false 22,Qg 24 18 false (.len (.t 23)),Qg 25 18 false (.bin .neq (.t 21) (.t 24)),Qq 26 18 25]) (.ite (.t 26) (.seq (.reg [Qa 4 (.mv (.c .ff))]) (.ret)) (.skip))) (.seq (.seq (.reg [Qi 5 0]) (.blk 0 (.loop Z0m))) (.seq (.reg [Qa 4 (.mv (.c .tt))]) (.ret))))
def Z1m:Unit→Option Bool
| ()=>some true
def Z2m (x1 x2:DI):Int→Option (Int ⊕ Bool)
| x7=>
 ifb (decide (x7<(ln SX.row x1.SD))) (
 (at_ x1.SD x7).bind fun x8=>
 (at_ x2.SD x7).bind fun x9=>
 ifb (!(decide (x8.PE=x9.PE)&&(decide (x8.EP=x9.EP)&&(decide (x8.SS=x9.SS)&&((x8.FK==x9.FK)&&((x8.DY==x9.DY)&&((x8.TO==x9.TO)&&((x8.BO==x9.BO)&&((x8.Ask==x9.Ask)&&true))))))))) (
 Option.map Sum.inr (some false)) (
 some (.inl (wr (x7+1))))) (
 Option.map Sum.inr (Z1m ()))
def Z3m (x1 x2:DI):Bool→Option Bool
| x3=>
 ifb x3 (
 some false) (
 loop (Z2m x1 x2) 0)
def Z4m (x1 x2:DI):Option Bool:=
 ifb (!decide (x1.ID=x2.ID)) (
 (Z3m x1 x2) true) (
 ifb (!decide (x1.PH=x2.PH)) (
 (Z3m x1 x2) true) (
 (Z3m x1 x2) (!decide ((ln SX.row x1.SD)=(ln SX.row x2.SD)))))
theorem Z5m {x1 x2 r} (h:Z4m x1 x2=some r):FPx 62 [.agg (DI.row x1),.agg (DI.row x2)] (.bv r):=by
 have ok:=oK 62 Tryz.f62 e62 [.t 4] 2 43;refine FP ok fun w0 H0=>?_;rw [Z4m] at h;refine Vg 15 ?_;refine Vk [2,2] (fun x3=>[(26,.bv x3)]) (Z3m x1 x2) r ?_ fun J1=>?_
 ·intro x3 h;rw [Z3m] at h;refine MI h (fun h=>?_) fun h=>?_
  ·exact W
  ·refine Vg 6 ?_;refine Vl [] (fun _=>([],[],[])) Z1m r ?_ fun J2=>?_
   ·rintro ⟨⟩ h;rw [Z1m] at h;exact W
   ·refine Vg 1 ?_;refine Mk h [2,2] (fun x7=>[(5,.iv x7)]) ?_;rintro n1 x7 y1 h hin1 hout1;rw [Z2m] at h;refine Vg 9 ?_;refine MI h (fun h=>?_) fun h=>?_
    ·refine Vg 4 ?_;have ⟨x8,ex8,h⟩:=Bs h;have ⟨x9,ex9,h⟩:=Bs h;refine Zgj fun all H=>Gs ?_;exact W
    ·exact W
 ·exact W
def Z6m:Unit→Option (SX×Bool)
| ()=>some ((SX.mk 0 0 0 false false false false false),false)
def Z7m (x1:DI) (x2:Int):Int→Option (Int ⊕ (SX×Bool))
| x6=>
 ifb (decide (x6<(ln SX.row x1.SD))) (
 (at_ x1.SD x6).bind fun x7=>
 ifb (decide (x7.PE=x2)) (
 (at_ x1.SD x6).bind fun x8=>
 Option.map Sum.inr (some (x8,true))) (
 some (.inl (wr (x6+1))))) (
 Option.map Sum.inr (Z6m ()))
def Z8m (x1:DI) (x2:Int):Option (SX×Bool):=loop (Z7m x1 x2) 0
theorem Z9m {x1 x2 r} (h:Z8m x1 x2=some r):FPx 155 [.agg (DI.row x1),.iv x2] (.tup [.agg (SX.row r.1),.bv r.2]):=by
 have ok:=oJ 155 Tryz.f155 [.c 4 (some 8),.t 5] 2 26;refine FP ok fun w0 H0=>?_;rw [Z8m] at h;refine Vg 11 ?_;refine Vm [4,1] (fun _=>([],[],[(0,none)],[])) Z6m r ?_ fun J1=>?_
 ·rintro ⟨⟩ h;rw [Z6m] at h;exact W
 ·refine Vg 1 ?_;refine Mk h [1,2,1,1] (fun x6=>[(6,.iv x6)]) ?_;rintro n1 x6 y1 h hin1 hout1;rw [Z7m] at h;exact W
@[go_sem] def Zam:EC:=.seq (.seq (.reg [Qm 11 5,Qm 12 0,Qa 13 (.len (.t 12)),Qa 14 (.bin .lss (.t 11) (.t 13))]) (.ite (.t 14) (.skip) (.exit 0))) (.seq (.blk 1 (.seq (.drw [Qm 17 0,Qm 18 5,Qk 19 5 17 18,Qe 20 5 19,Qm 21 1,Qm 22 5,Qk 23 5 21 22,Qe 24 5 23,Qa 25 (.eqs true [true,true,true,true,true] (.t 20) (.t 24))] [[],[],[0,1],[2,0,1],[],[],[4,5],[6,4,5],[3,7,2,0,1,6,4,5]] [[2],[2],[0,1,3],[2,8],[6],[6],[4,5,7],[6,8],[3,7]]) (.ite (.t 25) (.seq (.reg [Qa 4 (.mv (.c .ff))]) (.ret)) (.skip)))) (.reg [Qm 15 5,Qv 16 15 1,Qm 5 16]))
@[go_sem] def e23:EC:=.seq (.reg [Qa 4 (.mv (.c .ff))]) (.seq (.seq (.reg [Qm 6 0,Qa 7 (.len (.t 6)),Qm 8 1,Qa 9 (.len (.t 8)),Qa 10 (.bin .neq (.t 7) (.t 9))]) (.ite (.t 10) (.seq (.reg [Qa 4 (.mv (.c .ff))]) (.ret)) (.skip))) (.seq (.seq (.reg [Qi 5 0]) (.blk 0 (.loop Zam))) (.seq (.reg [Qa 4 (.mv (.c .tt))]) (.ret))))
def Zbm:Unit→Option Bool
| ()=>some true
def Zcm (x1 x2:List ML):Int→Option (Int ⊕ Bool)
| x6=>
 ifb (decide (x6<(ln ML.row x1))) (
 (at_ x1 x6).bind fun x7=>
 (at_ x2 x6).bind fun x8=>
 ifb (!(decide (x7.From=x8.From)&&(decide (x7.To=x8.To)&&(decide (x7.Msg.KI=x8.Msg.KI)&&(decide (x7.Msg.EP=x8.Msg.EP)&&(decide (x7.Msg.Num=x8.Msg.Num)&&true)))))) (
 Option.map Sum.inr (some false)) (
 some (.inl (wr (x6+1))))) (
 Option.map Sum.inr (Zbm ()))
def Zdm (x1 x2:List ML):Option Bool:=
 ifb (!decide ((ln ML.row x1)=(ln ML.row x2))) (
 some false) (
 loop (Zcm x1 x2) 0)
theorem Zem {x1 x2 r} (h:Zdm x1 x2=some r):FPx 23 [Sp9 x1,Sp9 x2] (.bv r):=by
 have ok:=oK 23 Tryz.f23 e23 [.t 4] 2 24;refine FP ok fun w0 H0=>?_;rw [Zdm] at h;refine Vg 13 ?_;refine MI h (fun h=>?_) fun h=>?_
 ·exact W
 ·refine Vg 6 ?_;refine Vk [] (fun _=>[]) Zbm r ?_ fun J1=>?_
  ·rintro ⟨⟩ h;rw [Zbm] at h;exact W
  ·refine Vg 1 ?_;refine Mk h [0,2] (fun x6=>[(5,.iv x6)]) ?_;rintro n1 x6 y1 h hin1 hout1;rw [Zcm] at h;refine Vg 8 ?_;refine MI h (fun h=>?_) fun h=>?_
   ·refine Vg 4 ?_;have ⟨x7,ex7,h⟩:=Bs h;have ⟨x8,ex8,h⟩:=Bs h;refine Zgj fun all H=>Gs ?_;exact W
   ·exact W
@[go_sem] def e157:EC:=eQ Tryz.f157
theorem Zfm:FnOK Tryz.prog 157 Tryz.f157 e157 [.t 4] 3 47:=okA
def Zgm:Bool→Option Bool
| x4=>some x4
def Zhm (x1:SX) (x2:Int) (x3:Msg):Option Bool:=
 ifb (decide (x1.PE=x2)) (
 Zgm (decide (x1.EP=x3.EP))) (
 Zgm false)
theorem Zim {x1 x2 x3 r} (h:Zhm x1 x2 x3=some r):FPx 213 [.agg (SX.row x1),.elt (Z4d x2) 0,.elt (Msg.row x3) 0] (.bv r):=by
 have ok:=oJ 213 Tryz.f213 [.t 4] 3 13;refine FP ok fun w0 H0=>?_;rw [Zhm] at h;refine Vg 12 ?_;refine Vl [] (fun x4=>([(4,.bv x4)],[],[])) Zgm r ?_ fun J1=>?_
 ·intro x4 h;rw [Zgm] at h;exact W
 ·exact W
@[go_sem] def e46:EC:=eQ Tryz.f46
theorem Zjm:FnOK Tryz.prog 46 Tryz.f46 e46 [.t 2] 1 7:=okA
def Zkm (x1:List SX):Option (List SX):=Z8c 32 [] x1
theorem Zlm {x1 r} (h:Zkm x1=some r):FOx 46 [Sp3 x1] 112 8 (List.map SX.row r):=by
 refine Zrd Zjm rfl fun w0 H0=>?_;rw [Zkm] at h;refine Zg6 100 ?_;dsimp only [e46,go_sem];refine ⟨by simp,?_⟩;refine Zpd trivial rfl (fun hn=>?_) ?_
 ·refine Zg6 100 ?_;dsimp only[go_sem];refine ⟨by simp,?_⟩;refine Zcb 2 112 8 rfl rfl ?_;dsimp only[go_sem];have hn:x1=[]:=by simpa using hn
  subst hn;exact Zae SX.row (e:=[]) Zjm (by simpa [Z8c] using h) rfl rfl
 ·refine Zg6 100 ?_;dsimp only[go_sem];refine ⟨by simp,?_⟩;refine Zmc SX.row h trivial rfl rfl rfl ?_;refine Zg6 100 ?_;dsimp only[go_sem];refine ⟨by simp,?_⟩;exact Zae SX.row Zjm (rfl:some r=some r) rfl rfl
theorem Zmm {x1 r} (h:Zkm x1=some r):FPx 46 [Sp3 x1] (Sp3 r):=(Zlm h).sealed
def Znm (x1:SX):Option Bool:=some (decide (x1.SS=1))
theorem Zom {x1 r} (h:Znm x1=some r):FPx 231 [.agg (SX.row x1)] (.bv r):=by have ok:=oJ 231 Tryz.f231 [.t 2] 1 5;refine FP ok fun w0 H0=>?_;rw [Znm] at h;exact W
@[go_sem] def e242:EC:=eQ Tryz.f242
theorem Zpm:FnOK Tryz.prog 242 Tryz.f242 e242 [] 4 17:=okA
@[go_sem] def e243:EC:=eQ Tryz.f243
theorem Zqm:FnOK Tryz.prog 243 Tryz.f243 e243 [] 3 25:=okA
def Zrm (x1:SX) (x2:Int):Option Bool:=some (decide (x1.PE=x2))
theorem Zsm {x1 x2 r} (h:Zrm x1 x2=some r):FPx 100 [.agg (SX.row x1),.elt (Z4d x2) 0] (.bv r):=by have ok:=oJ 100 Tryz.f100 [.t 3] 2 6;refine FP ok fun w0 H0=>?_;rw [Zrm] at h;exact W
def Ztm:Unit→Option Bool
| ()=>some true
def Zum (x1 x2:List Int):Int→Option (Int ⊕ Bool)
| x6=>
 ifb (decide (x6<(ln Z4d x1))) (
 (at_ x1 x6).bind fun x7=>
 (at_ x2 x6).bind fun x8=>
 ifb (!decide (x7=x8)) (
 Option.map Sum.inr (some false)) (
 some (.inl (wr (x6+1))))) (
 Option.map Sum.inr (Ztm ()))
def Zvm (x1 x2:List Int):Option Bool:=
 ifb (!decide ((ln Z4d x1)=(ln Z4d x2))) (
 some false) (
 loop (Zum x1 x2) 0)
theorem Zwm {x1 x2 r} (h:Zvm x1 x2=some r):FPx 86 [Sp1 x1,Sp1 x2] (.bv r):=by
 have ok:=oJ 86 Tryz.f86 [.t 4] 2 24;refine FP ok fun w0 H0=>?_;rw [Zvm] at h;refine Vg 13 ?_;refine MI h (fun h=>?_) fun h=>?_
 ·exact W
 ·refine Vg 8 ?_;refine Vk [] (fun _=>[]) Ztm r ?_ fun J1=>?_
  ·rintro ⟨⟩ h;rw [Ztm] at h;exact W
  ·refine Vg 1 ?_;refine Mk h [0,2,10,1] (fun x6=>[(13,.iv x6)]) ?_;rintro n1 x6 y1 h hin1 hout1;rw [Zum] at h;refine Vg 5 ?_;refine MI h (fun h=>?_) fun h=>?_
   ·refine Vg 9 ?_;have ⟨x7,ex7,h⟩:=Bs h;have ⟨x8,ex8,h⟩:=Bs h;refine Zgj fun all H=>Gs ?_;exact W
   ·exact W
@[go_sem] def e64:EC:=eQ Tryz.f64
theorem Zxm:FnOK Tryz.prog 64 Tryz.f64 e64 [.t 2] 1 7:=okA
def Zym (x1:List KE):Option (List KE):=Z8c 16 [] x1
theorem Zzm {x1 r} (h:Zym x1=some r):FOx 64 [Sp2 x1] 121 2 (List.map KE.row r):=by
 refine Zrd Zxm rfl fun w0 H0=>?_;rw [Zym] at h;refine Zg6 100 ?_;dsimp only [e64,go_sem];refine ⟨by simp,?_⟩;refine Zpd trivial rfl (fun hn=>?_) ?_
 ·refine Zg6 100 ?_;dsimp only[go_sem];refine ⟨by simp,?_⟩;refine Zcb 2 121 2 rfl rfl ?_;dsimp only[go_sem];have hn:x1=[]:=by simpa using hn
  subst hn;exact Zae KE.row (e:=[]) Zxm (by simpa [Z8c] using h) rfl rfl
 ·refine Zg6 100 ?_;dsimp only[go_sem];refine ⟨by simp,?_⟩;refine Zmc KE.row h trivial rfl rfl rfl ?_;refine Zg6 100 ?_;dsimp only[go_sem];refine ⟨by simp,?_⟩;exact Zae KE.row Zxm (rfl:some r=some r) rfl rfl
theorem Z0n {x1 r} (h:Zym x1=some r):FPx 64 [Sp2 x1] (Sp2 r):=(Zzm h).sealed
@[go_sem] def e69:EC:=eQ Tryz.f69
theorem Z1n:FnOK Tryz.prog 69 Tryz.f69 e69 [.t 6] 3 22:=okA
@[go_sem] def e113:EC:=eQ Tryz.f113
theorem Z2n:FnOK Tryz.prog 113 Tryz.f113 e113 [.t 4] 2 25:=okA
def Z3n:List Int→Option (List Int)
| x20=>some x20
def Z4n (x8:Int):List Int→Option ((Int×List Int) ⊕ (List Int))
| x13=>some (.inl (wr (x8+1),x13))
def Z5n (x1:NO) (p1:(SX→Option Bool)):(Int×List Int)→Option ((Int×List Int) ⊕ (List Int))
| (x8,x9)=>
 ifb (decide (x8<(ln SX.row x1.DK.DI.SD))) (
 (at_ x1.DK.DI.SD x8).bind fun x10=>
 (p1 x10).bind fun x11=>
 ifb x11 (
 (Z8c 8 x9 ([x10.PE])).bind fun x12=>
 (Z4n x8) x12) (
 (Z4n x8) x9)) (
 Option.map Sum.inr (Z3n x9))
def Z6n (x1:NO) (p1:(SX→Option Bool)):Option (List Int):=loop (Z5n x1 p1) (0,([]:List Int))
theorem Z7n {x1 g1 caps1 p1 r} (h:Z6n x1 p1=some r) (hc1:CloOK Tryz.prog g1 caps1 (fun z=>[.agg (SX.row z)]) p1 (fun z=>.bv z)):FPx 113 [.agg (NO.row x1),.clo g1 caps1] (Sp1 r):=by
 refine FP Z2n fun w0 H0=>?_;rw [Z6n] at h;refine Vg 19 ?_;refine Vl [] (fun x20=>([(5,.osl 0)],[],[Sq4 x20])) Z3n r ?_ fun J1=>?_
 ·intro x20 h;rw [Z3n] at h;refine Vg 5 ?_;refine Zjj 0 (Ds ?_);exact MD Z2n h
 ·refine Vg 1 ?_;refine Zcb 5 3 1 rfl rfl (Ds ?_);refine Ml h [1,1,3,1,5,2] (fun s=>([(13,.iv s.1)],[],[Sq4 s.2])) ?_ (hok:=by rintro ⟨x8,x9⟩;first | rfl | (simp [go_sem];done) | simp [go_sem,Zqb _ hc1.pu]);rintro n1 ⟨x8,x9⟩ y1 h hin1 hout1;rw [Z5n] at h;refine Vg 5 ?_;refine MI h (fun h=>?_) fun h=>?_
  ·refine Vg 5 ?_;have ⟨x10,ex10,h⟩:=Bs h;refine Zjc SX.row ex10 trivial rfl rfl rfl (Vg 8 ?_);have ⟨x11,ex11,h⟩:=Bs h;refine Z3d trivial rfl hc1 (x:=x10) ex11 (by first | exact Zrb _ | simp [go_sem]) (by first | rfl | simp [go_sem,hc1.pu]) (Vg 1 ?_);refine Vl [1,1,3,1,5,3] (fun x13=>([],[],[Sq4 x13])) (Z4n x8) y1 ?_ fun J2=>?_
   ·intro x13 h;rw [Z4n] at h;refine Vg 5 ?_;exact Zsc h hin1 (hok:=by first | rfl | simp [go_sem,Zqb _ hc1.pu])
   ·refine MI h (fun h=>?_) fun h=>?_
    ·refine Vg 5 ?_;have ⟨x12,ex12,h⟩:=Bs h;refine Zmc Z4d ex12 trivial rfl rfl rfl (Vg 2 ?_);refine Zij 2 0 (Ds ?_);(try rw [Znh _ _ _ hc1.pu]);exact Ztc J2 h (hok:=by first | rfl | simp [go_sem,Zqb _ hc1.pu])
    ·refine Vg 1 ?_;exact Ztc J2 h (hok:=by first | rfl | simp [go_sem,Zqb _ hc1.pu])
  ·refine Vg 1 ?_;exact Ztc J1 (Zec h hout1) (hok:=by first | rfl | simp [go_sem])
def Z8n (x1:SX):Option Bool:=some (decide (x1.SS=0))
theorem Z9n {x1 r} (h:Z8n x1=some r):FPx 71 [.agg (SX.row x1)] (.bv r):=by have ok:=oJ 71 Tryz.f71 [.t 2] 1 5;refine FP ok fun w0 H0=>?_;rw [Z8n] at h;exact W
@[go_sem] def e125:EC:=eQ Tryz.f125
theorem Zan:FnOK Tryz.prog 125 Tryz.f125 e125 [] 3 22:=okA
end
end NX
end Go.Proofs.YtgamgemlekpepaaGreat
