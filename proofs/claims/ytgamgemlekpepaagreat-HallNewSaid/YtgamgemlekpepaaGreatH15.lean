/-
  The function narthex/narthexref01.Same: its code compiled, a model, and that the code answers as the model. Written by a program of ours (lb.py). No statement of the seat is proved here.
-/
import Derived.Test.YtgamgemlekpepaaGreatH14
set_option maxRecDepth 100000
set_option maxHeartbeats 4000000
namespace Go.Proofs.YtgamgemlekpepaaGreat
namespace NX
open Go
noncomputable section
@[go_sem] def e35:EC:=eQ Tryz.f35
def Zvk:Unit→Option Bool
| ()=>some true
def Zwk (x1 x2:List Int):Int→Option (Int ⊕ Bool)
| x6=>
 ifb (decide (x6<(ln Z3d x1))) (
 (at_ x1 x6).bind fun x7=>
 (at_ x2 x6).bind fun x8=>
 ifb (!decide (x7=x8)) (
 Option.map Sum.inr (some false)) (
 some (.inl (wr (x6+1))))) (
 Option.map Sum.inr (Zvk ()))
def Zxk (x1 x2:List Int):Option Bool:=
 ifb (!decide ((ln Z3d x1)=(ln Z3d x2))) (
 some false) (
 loop (Zwk x1 x2) 0)
theorem Zyk {x1 x2 r} (h:Zxk x1 x2=some r):Zy6 Tryz.prog 35 [Sp1 x1,Sp1 x2] (.bv r):=by
 have ok:=oK 35 Tryz.f35 e35 [.t 4] 2 24;refine FP ok fun w0 H0=>?_;rw [Zxk] at h;refine Vg 13 ?_;refine MI h (fun h=>?_) fun h=>?_
 ·exact W
 ·refine Vg 6 ?_;refine Vk [] (fun _=>[]) Zvk r ?_ fun J1=>?_
  ·rintro ⟨⟩ h;rw [Zvk] at h;exact W
  ·refine Vg 1 ?_;refine Mk h [0,2] (fun x6=>[(5,.iv x6)]) ?_;rintro n1 x6 y1 h hin1 hout1;rw [Zwk] at h;(try dsimp only);refine Vg 8 ?_;refine MI h (fun h=>?_) fun h=>?_
   ·refine Vg 4 ?_;have ⟨x7,ex7,h⟩:=Bs h;have ⟨x8,ex8,h⟩:=Bs h;refine Zej fun all H=>Gs ?_;exact W
   ·exact W
@[go_sem] def e47:EC:=eQ Tryz.f47
theorem Zzk:FnOK Tryz.prog 47 Tryz.f47 e47 [.t 2] 1 7:=okA
def Z0l (x1:List Int):Option (List Int):=Z7c 8 [] x1
theorem Z1l {x1 r} (h:Z0l x1=some r):Zpd Tryz.prog 47 [Sp1 x1] 3 1 (List.map Z3d r):=by
 refine Zqd Zzk rfl fun w0 H0=>?_;rw [Z0l] at h;refine Zf6 100 ?_;dsimp only [e47,go_sem];refine ⟨by simp,?_⟩;refine Zod trivial rfl (fun hn=>?_) ?_
 ·refine Zf6 100 ?_;dsimp only[go_sem];refine ⟨by simp,?_⟩;refine Zbb 2 3 1 rfl rfl ?_;dsimp only[go_sem];have hn:x1=[]:=by simpa using hn
  subst hn;exact Z9e Z3d (e:=[]) Zzk (by simpa [Z7c] using h) rfl rfl
 ·refine Zf6 100 ?_;dsimp only[go_sem];refine ⟨by simp,?_⟩;refine Zlc Z3d h trivial rfl rfl rfl ?_;refine Zf6 100 ?_;dsimp only[go_sem];refine ⟨by simp,?_⟩;exact Z9e Z3d Zzk (rfl:some r=some r) rfl rfl
theorem Z2l {x1 r} (h:Z0l x1=some r):Zy6 Tryz.prog 47 [Sp1 x1] (Sp1 r):=(Z1l h).sealed
@[go_sem] def e246:EC:=eQ Tryz.f246
theorem Z3l:FnOK Tryz.prog 246 Tryz.f246 e246 [.t 4] 2 25:=okA
@[go_sem] def e178:EC:=eQ Tryz.f178
def Z4l:Unit→Option Int
| ()=>some (-1)
def Z5l (x1:List Int) (x2:Int):Int→Option (Int ⊕ Int)
| x5=>
 ifb (decide (x5<(ln Z3d x1))) (
 (at_ x1 x5).bind fun x6=>
 ifb (decide (x2=x6)) (
 Option.map Sum.inr (some x5)) (
 some (.inl (wr (x5+1))))) (
 Option.map Sum.inr (Z4l ()))
def Z6l (x1:List Int) (x2:Int):Option Int:=loop (Z5l x1 x2) 0
theorem Z7l {x1 x2 r} (h:Z6l x1 x2=some r):Zy6 Tryz.prog 178 [Sp1 x1,.iv x2] (.iv r):=by
 have ok:=oK 178 Tryz.f178 e178 [.t 4] 2 17;refine FP ok fun w0 H0=>?_;rw [Z6l] at h;refine Vg 11 ?_;refine Vk [] (fun _=>[]) Z4l r ?_ fun J1=>?_
 ·rintro ⟨⟩ h;rw [Z4l] at h;exact W
 ·refine Vg 1 ?_;refine Mk h [0,2,5,1] (fun x5=>[(8,.iv x5)]) ?_;rintro n1 x5 y1 h hin1 hout1;rw [Z5l] at h;exact W
@[go_sem] def e202:EC:=eQ Tryz.f202
def Z8l (x1:Int) (pc0:(Int→Option Bool)):Option Bool:=
 (pc0 x1).bind fun x2=>
 some (!x2)
theorem Z9l {x1 gc0 capsc0 pc0 r} (h:Z8l x1 pc0=some r) (hcc0:CloOK Tryz.prog gc0 capsc0 (fun z=>[.iv z]) pc0 (fun z=>.bv z)):Zy6 Tryz.prog 202 [.iv x1,.elt [.clo gc0 capsc0] 0] (.bv r):=by have ok:=oK 202 Tryz.f202 e202 [.t 3] 2 6;refine FP ok fun w0 H0=>?_;rw [Z8l] at h;refine Vg 8 ?_;have ⟨x2,ex2,h⟩:=Bs h;refine Z2d trivial rfl hcc0 (x:=x1) ex2 (by first | exact Zqb _ | simp [go_sem]) (by first | rfl | simp [go_sem,hcc0.pu]) (Vg 3 ?_);exact MD ok h
@[go_sem] def e102:EC:=eQ Tryz.f102
def Zal:Unit→Option Bool
| ()=>some true
def Zbl (x6:Int):Bool→Option (Int ⊕ Bool)
| x9=>
 ifb x9 (
 Option.map Sum.inr (some false)) (
 some (.inl (wr (x6+1))))
def Zcl (x1:List Int):Int→Option (Int ⊕ Bool)
| x6=>
 ifb (decide (x6<(ln Z3d x1))) (
 ifb (decide (0<x6)) (
 (at_ x1 (wr (x6-1))).bind fun x7=>
 (at_ x1 x6).bind fun x8=>
 (Zbl x6) (decide (x8≤x7))) (
 (Zbl x6) false)) (
 Option.map Sum.inr (Zal ()))
def Zdl (x1:List Int):Option Bool:=loop (Zcl x1) 0
theorem Zel {x1 r} (h:Zdl x1=some r):Zy6 Tryz.prog 102 [Sp1 x1] (.bv r):=by
 have ok:=oK 102 Tryz.f102 e102 [.t 2] 1 23;refine FP ok fun w0 H0=>?_;rw [Zdl] at h;refine Vg 11 ?_;refine Vk [] (fun _=>[]) Zal r ?_ fun J1=>?_
 ·rintro ⟨⟩ h;rw [Zal] at h;exact W
 ·refine Vg 1 ?_;refine Mk h [0,1,4,1] (fun x6=>[(6,.iv x6)]) ?_;rintro n1 x6 y1 h hin1 hout1;rw [Zcl] at h;(try dsimp only);refine Vg 5 ?_;refine MI h (fun h=>?_) fun h=>?_
  ·refine Vg 9 ?_;refine Vk [0,1,4,2] (fun x9=>[(22,.bv x9)]) (Zbl x6) y1 ?_ fun J2=>?_
   ·intro x9 h;rw [Zbl] at h;exact W
   ·refine Zej fun all H=>?_;refine Gn H 3 11 ?_;refine Zcd 11 h rfl (fun _ h=>?_) fun _ h=>?_
    ·refine Ds (GP H 5 6 [6,2,2,4] [(12,[Sp1 x1,.iv x6,.iv (wr (x6-1))]),(2,[Sp1 x1,.iv x6])] (Ds ?_));have ⟨x7,ex7,h⟩:=Bs h;refine Zjc H.1 H.2.1 H.2.2.1 H.2.2.2 6 Z3d ex7 rfl rfl trivial rfl rfl rfl rfl (Gn H 1 4 ?_);have ⟨x8,ex8,h⟩:=Bs h;refine Zjc H.1 H.2.1 H.2.2.1 H.2.2.2 10 Z3d ex8 rfl rfl trivial rfl rfl rfl rfl (Gn H 3 0 ?_);refine GD ?_;exact W
    ·refine Ds (GP H 11 0 [14] [(12,[.un,.un,.un,.un,.un,.un,.un,.un,.un,.un,.ff])] (Ds ?_));refine GD ?_;exact W
  ·exact W
@[go_sem] def e65:EC:=eQ Tryz.f65
def Zfl (x1:List Sess):Option (List Sess):=Z7c 48 [] x1
theorem Zgl {x1 r} (h:Zfl x1=some r):Zpd Tryz.prog 65 [Sp5 x1] 131 4 (List.map Sess.row r):=by
 have ok:=oK 65 Tryz.f65 e65 [.t 2] 1 7;refine Zqd ok rfl fun w0 H0=>?_;rw [Zfl] at h;refine Zf6 100 ?_;dsimp only [e65,go_sem];refine ⟨by simp,?_⟩;refine Zod trivial rfl (fun hn=>?_) ?_
 ·refine Zf6 100 ?_;dsimp only[go_sem];refine ⟨by simp,?_⟩;refine Zbb 2 131 4 rfl rfl ?_;dsimp only[go_sem];have hn:x1=[]:=by simpa using hn
  subst hn;exact Z9e Sess.row (e:=[]) ok (by simpa [Z7c] using h) rfl rfl
 ·refine Zf6 100 ?_;dsimp only[go_sem];refine ⟨by simp,?_⟩;refine Zlc Sess.row h trivial rfl rfl rfl ?_;refine Zf6 100 ?_;dsimp only[go_sem];refine ⟨by simp,?_⟩;exact Z9e Sess.row ok (rfl:some r=some r) rfl rfl
@[go_sem] def e159:EC:=eQ Tryz.f159
def Zhl (x1:Int):Option Bool:=some (decide (x1<0))
theorem Zil {x1 r} (h:Zhl x1=some r):Zy6 Tryz.prog 159 [.iv x1] (.bv r):=by have ok:=oK 159 Tryz.f159 e159 [.t 2] 1 4;refine FP ok fun w0 H0=>?_;rw [Zhl] at h;exact W
@[go_sem] def e170:EC:=eQ Tryz.f170
theorem Zjl:FnOK Tryz.prog 170 Tryz.f170 e170 [.t 6] 3 30:=okA
@[go_sem] def e228:EC:=eQ Tryz.f228
def Zkl (x1:Sess) (x2:Int):Option Bool:=some (decide (x1.ID=x2))
theorem Zll {x1 x2 r} (h:Zkl x1 x2=some r):Zy6 Tryz.prog 228 [.agg (Sess.row x1),.elt (Z3d x2) 0] (.bv r):=by have ok:=oK 228 Tryz.f228 e228 [.t 3] 2 6;refine FP ok fun w0 H0=>?_;rw [Zkl] at h;exact W
@[go_sem] def Zml:EC:=.seq (.reg [Qa 14 (.bin .lss (.t 13) (.t 12))]) (.seq (.ite (.t 14) (.skip) (.exit 0)) (.seq (.blk 1 (.seq (.reg [Qm 15 13,Qm 5 15]) (.seq (.drw [Qm 16 0,Qm 17 5,Qk 18 8 16 17,Qe 19 8 18,Qm 20 1,Qm 21 5,Qk 22 8 20 21,Qe 23 8 22,Qa 24 (.eqs true [true,true,true,false,false,false,false,false] (.t 19) (.t 23))] [[],[],[0,1],[2,0,1],[],[],[4,5],[6,4,5],[3,7,2,0,1,6,4,5]] [[2],[2],[0,1,3],[2,8],[6],[6],[4,5,7],[6,8],[3,7]]) (.ite (.t 24) (.seq (.reg [Qa 4 (.mv (.c .ff))]) (.ret)) (.skip))))) (.reg [Qv 25 13 1,Qm 13 25])))
@[go_sem] def e189:EC:=.seq (.reg [Qa 4 (.mv (.c .ff))]) (.seq (.seq (.reg [Qm 6 0,Qa 7 (.len (.t 6)),Qm 8 1,Qa 9 (.len (.t 8)),Qa 10 (.bin .neq (.t 7) (.t 9))]) (.ite (.t 10) (.seq (.reg [Qa 4 (.mv (.c .ff))]) (.ret)) (.skip))) (.seq (.seq (.reg [Qm 11 0,Qa 12 (.len (.t 11)),Qi 13 0]) (.blk 0 (.loop Zml))) (.seq (.reg [Qa 4 (.mv (.c .tt))]) (.ret))))
def Znl:Unit→Option Bool
| ()=>some true
def Zol (x1 x2:List Side):Int→Option (Int ⊕ Bool)
| x6=>
 ifb (decide (x6<(ln Side.row x1))) (
 (at_ x1 x6).bind fun x7=>
 (at_ x2 x6).bind fun x8=>
 ifb (!(decide (x7.Peer=x8.Peer)&&(decide (x7.Epoch=x8.Epoch)&&(decide (x7.State=x8.State)&&((x7.Fork==x8.Fork)&&((x7.DY==x8.DY)&&((x7.Token==x8.Token)&&((x7.BO==x8.BO)&&((x7.Ask==x8.Ask)&&true))))))))) (
 Option.map Sum.inr (some false)) (
 some (.inl (wr (x6+1))))) (
 Option.map Sum.inr (Znl ()))
def Zpl (x1 x2:List Side):Option Bool:=
 ifb (!decide ((ln Side.row x1)=(ln Side.row x2))) (
 some false) (
 loop (Zol x1 x2) 0)
theorem Zql {x1 x2 r} (h:Zpl x1 x2=some r):Zy6 Tryz.prog 189 [Sp3 x1,Sp3 x2] (.bv r):=by
 have ok:=oK 189 Tryz.f189 e189 [.t 4] 2 24;refine FP ok fun w0 H0=>?_;rw [Zpl] at h;refine Vg 13 ?_;refine MI h (fun h=>?_) fun h=>?_
 ·exact W
 ·refine Vg 8 ?_;refine Vk [] (fun _=>[]) Znl r ?_ fun J1=>?_
  ·rintro ⟨⟩ h;rw [Znl] at h;exact W
  ·refine Vg 1 ?_;refine Mk h [0,2,10,1] (fun x6=>[(13,.iv x6)]) ?_;rintro n1 x6 y1 h hin1 hout1;rw [Zol] at h;(try dsimp only);refine Vg 5 ?_;refine MI h (fun h=>?_) fun h=>?_
   ·refine Vg 9 ?_;have ⟨x7,ex7,h⟩:=Bs h;have ⟨x8,ex8,h⟩:=Bs h;refine Zej fun all H=>Gs ?_;exact W
   ·exact W
@[go_sem] def Zrl:EC:=.seq (.seq (.reg [Qm 27 5,Qf 28 2 2,Ql 29 28,Qa 30 (.len (.t 29)),Qa 31 (.bin .lss (.t 27) (.t 30))]) (.ite (.t 31) (.skip) (.exit 0))) (.seq (.blk 1 (.seq (.drw [Qf 34 2 2,Ql 35 34,Qm 36 5,Qk 37 8 35 36,Qe 38 8 37,Qf 39 2 3,Ql 40 39,Qm 41 5,Qk 42 8 40 41,Qe 43 8 42,Qa 44 (.eqs true [true,true,true,false,false,false,false,false] (.t 38) (.t 43))] [[],[0],[],[1,2,0],[3,1,2,0],[],[5],[],[6,7,5],[8,6,7,5],[4,9,3,1,2,0,8,6,7,5]] [[1],[0,3],[3],[1,2,4],[3,10],[6],[5,8],[8],[6,7,9],[8,10],[4,9]]) (.ite (.t 44) (.seq (.reg [Qa 4 (.mv (.c .ff))]) (.ret)) (.skip)))) (.reg [Qm 32 5,Qv 33 32 1,Qm 5 33]))
@[go_sem] def e62:EC:=.seq (.reg [Qx 2 58 3 0,Qx 3 58 3 1,Qa 4 (.mv (.c .ff))]) (.seq (.seq (.reg [Qf 6 0 2,Ql 7 6,Qf 8 0 3,Ql 9 8,Qa 10 (.bin .neq (.t 7) (.t 9)),Qm 11 10,Qh 12 11 false 1 2,Qn 13 11 false 12,Qh 14 11 false 1 3,Qn 15 11 false 14,Qg 16 11 false (.bin .neq (.t 13) (.t 15)),Qq 17 11 16,Qm 18 17,Qh 19 18 false 2 2,Qn 20 18 false 19,Qg 21 18 false (.len (.t 20)),Qh 22 18 false 2 3,Qn 23 18 false 22,Qg 24 18 false (.len (.t 23)),Qg 25 18 false (.bin .neq (.t 21) (.t 24)),Qq 26 18 25]) (.ite (.t 26) (.seq (.reg [Qa 4 (.mv (.c .ff))]) (.ret)) (.skip))) (.seq (.seq (.reg [Qi 5 0]) (.blk 0 (.loop Zrl))) (.seq (.reg [Qa 4 (.mv (.c .tt))]) (.ret))))
def Zsl:Unit→Option Bool
| ()=>some true
def Ztl (x1 x2:DI):Int→Option (Int ⊕ Bool)
| x7=>
 ifb (decide (x7<(ln Side.row x1.SD))) (
 (at_ x1.SD x7).bind fun x8=>
 (at_ x2.SD x7).bind fun x9=>
 ifb (!(decide (x8.Peer=x9.Peer)&&(decide (x8.Epoch=x9.Epoch)&&(decide (x8.State=x9.State)&&((x8.Fork==x9.Fork)&&((x8.DY==x9.DY)&&((x8.Token==x9.Token)&&((x8.BO==x9.BO)&&((x8.Ask==x9.Ask)&&true))))))))) (
 Option.map Sum.inr (some false)) (
 some (.inl (wr (x7+1))))) (
 Option.map Sum.inr (Zsl ()))
def Zul (x1 x2:DI):Bool→Option Bool
| x3=>
 ifb x3 (
 some false) (
 loop (Ztl x1 x2) 0)
def Zvl (x1 x2:DI):Option Bool:=
 ifb (!decide (x1.ID=x2.ID)) (
 (Zul x1 x2) true) (
 ifb (!decide (x1.PH=x2.PH)) (
 (Zul x1 x2) true) (
 (Zul x1 x2) (!decide ((ln Side.row x1.SD)=(ln Side.row x2.SD)))))
theorem Zwl {x1 x2 r} (h:Zvl x1 x2=some r):Zy6 Tryz.prog 62 [.agg (DI.row x1),.agg (DI.row x2)] (.bv r):=by
 have ok:=oK 62 Tryz.f62 e62 [.t 4] 2 43;refine FP ok fun w0 H0=>?_;rw [Zvl] at h;refine Vg 15 ?_;refine Vk [2,2] (fun x3=>[(26,.bv x3)]) (Zul x1 x2) r ?_ fun J1=>?_
 ·intro x3 h;rw [Zul] at h;(try dsimp only);refine MI h (fun h=>?_) fun h=>?_
  ·exact W
  ·refine Vg 6 ?_;refine Vl [] (fun _=>([],[],[])) Zsl r ?_ fun J2=>?_
   ·rintro ⟨⟩ h;rw [Zsl] at h;exact W
   ·refine Vg 1 ?_;refine Mk h [2,2] (fun x7=>[(5,.iv x7)]) ?_;rintro n1 x7 y1 h hin1 hout1;rw [Ztl] at h;(try dsimp only);refine Vg 9 ?_;refine MI h (fun h=>?_) fun h=>?_
    ·refine Vg 4 ?_;have ⟨x8,ex8,h⟩:=Bs h;have ⟨x9,ex9,h⟩:=Bs h;refine Zej fun all H=>Gs ?_;exact W
    ·exact W
 ·exact W
@[go_sem] def e155:EC:=eQ Tryz.f155
def Zxl:Unit→Option (Side×Bool)
| ()=>some ((Side.mk 0 0 0 false false false false false),false)
def Zyl (x1:DI) (x2:Int):Int→Option (Int ⊕ (Side×Bool))
| x6=>
 ifb (decide (x6<(ln Side.row x1.SD))) (
 (at_ x1.SD x6).bind fun x7=>
 ifb (decide (x7.Peer=x2)) (
 (at_ x1.SD x6).bind fun x8=>
 Option.map Sum.inr (some (x8,true))) (
 some (.inl (wr (x6+1))))) (
 Option.map Sum.inr (Zxl ()))
def Zzl (x1:DI) (x2:Int):Option (Side×Bool):=loop (Zyl x1 x2) 0
theorem Z0m {x1 x2 r} (h:Zzl x1 x2=some r):Zy6 Tryz.prog 155 [.agg (DI.row x1),.iv x2] (.tup [.agg (Side.row r.1),.bv r.2]):=by
 have ok:=oK 155 Tryz.f155 e155 [.c 4 (some 8),.t 5] 2 26;refine FP ok fun w0 H0=>?_;rw [Zzl] at h;refine Vg 11 ?_;refine Vm [4,1] (fun _=>([],[],[(0,none)],[])) Zxl r ?_ fun J1=>?_
 ·rintro ⟨⟩ h;rw [Zxl] at h;exact W
 ·refine Vg 1 ?_;refine Mk h [1,2,1,1] (fun x6=>[(6,.iv x6)]) ?_;rintro n1 x6 y1 h hin1 hout1;rw [Zyl] at h;exact W
@[go_sem] def Z1m:EC:=.seq (.seq (.reg [Qm 11 5,Qm 12 0,Qa 13 (.len (.t 12)),Qa 14 (.bin .lss (.t 11) (.t 13))]) (.ite (.t 14) (.skip) (.exit 0))) (.seq (.blk 1 (.seq (.drw [Qm 17 0,Qm 18 5,Qk 19 5 17 18,Qe 20 5 19,Qm 21 1,Qm 22 5,Qk 23 5 21 22,Qe 24 5 23,Qa 25 (.eqs true [true,true,true,true,true] (.t 20) (.t 24))] [[],[],[0,1],[2,0,1],[],[],[4,5],[6,4,5],[3,7,2,0,1,6,4,5]] [[2],[2],[0,1,3],[2,8],[6],[6],[4,5,7],[6,8],[3,7]]) (.ite (.t 25) (.seq (.reg [Qa 4 (.mv (.c .ff))]) (.ret)) (.skip)))) (.reg [Qm 15 5,Qv 16 15 1,Qm 5 16]))
@[go_sem] def e23:EC:=.seq (.reg [Qa 4 (.mv (.c .ff))]) (.seq (.seq (.reg [Qm 6 0,Qa 7 (.len (.t 6)),Qm 8 1,Qa 9 (.len (.t 8)),Qa 10 (.bin .neq (.t 7) (.t 9))]) (.ite (.t 10) (.seq (.reg [Qa 4 (.mv (.c .ff))]) (.ret)) (.skip))) (.seq (.seq (.reg [Qi 5 0]) (.blk 0 (.loop Z1m))) (.seq (.reg [Qa 4 (.mv (.c .tt))]) (.ret))))
def Z2m:Unit→Option Bool
| ()=>some true
def Z3m (x1 x2:List Mail):Int→Option (Int ⊕ Bool)
| x6=>
 ifb (decide (x6<(ln Mail.row x1))) (
 (at_ x1 x6).bind fun x7=>
 (at_ x2 x6).bind fun x8=>
 ifb (!(decide (x7.From=x8.From)&&(decide (x7.To=x8.To)&&(decide (x7.Msg.Kind=x8.Msg.Kind)&&(decide (x7.Msg.Epoch=x8.Msg.Epoch)&&(decide (x7.Msg.Num=x8.Msg.Num)&&true)))))) (
 Option.map Sum.inr (some false)) (
 some (.inl (wr (x6+1))))) (
 Option.map Sum.inr (Z2m ()))
def Z4m (x1 x2:List Mail):Option Bool:=
 ifb (!decide ((ln Mail.row x1)=(ln Mail.row x2))) (
 some false) (
 loop (Z3m x1 x2) 0)
theorem Z5m {x1 x2 r} (h:Z4m x1 x2=some r):Zy6 Tryz.prog 23 [Sp9 x1,Sp9 x2] (.bv r):=by
 have ok:=oK 23 Tryz.f23 e23 [.t 4] 2 24;refine FP ok fun w0 H0=>?_;rw [Z4m] at h;refine Vg 13 ?_;refine MI h (fun h=>?_) fun h=>?_
 ·exact W
 ·refine Vg 6 ?_;refine Vk [] (fun _=>[]) Z2m r ?_ fun J1=>?_
  ·rintro ⟨⟩ h;rw [Z2m] at h;exact W
  ·refine Vg 1 ?_;refine Mk h [0,2] (fun x6=>[(5,.iv x6)]) ?_;rintro n1 x6 y1 h hin1 hout1;rw [Z3m] at h;(try dsimp only);refine Vg 8 ?_;refine MI h (fun h=>?_) fun h=>?_
   ·refine Vg 4 ?_;have ⟨x7,ex7,h⟩:=Bs h;have ⟨x8,ex8,h⟩:=Bs h;refine Zej fun all H=>Gs ?_;exact W
   ·exact W
@[go_sem] def e157:EC:=eQ Tryz.f157
theorem Z6m:FnOK Tryz.prog 157 Tryz.f157 e157 [.t 4] 3 47:=okA
@[go_sem] def e213:EC:=eQ Tryz.f213
def Z7m:Bool→Option Bool
| x4=>some x4
def Z8m (x1:Side) (x2:Int) (x3:Msg):Option Bool:=
 ifb (decide (x1.Peer=x2)) (
 Z7m (decide (x1.Epoch=x3.Epoch))) (
 Z7m false)
theorem Z9m {x1 x2 x3 r} (h:Z8m x1 x2 x3=some r):Zy6 Tryz.prog 213 [.agg (Side.row x1),.elt (Z3d x2) 0,.elt (Msg.row x3) 0] (.bv r):=by
 have ok:=oK 213 Tryz.f213 e213 [.t 4] 3 13;refine FP ok fun w0 H0=>?_;rw [Z8m] at h;refine Vg 12 ?_;refine Vl [] (fun x4=>([(4,.bv x4)],[],[])) Z7m r ?_ fun J1=>?_
 ·intro x4 h;rw [Z7m] at h;exact W
 ·exact W
@[go_sem] def e46:EC:=eQ Tryz.f46
theorem Zam:FnOK Tryz.prog 46 Tryz.f46 e46 [.t 2] 1 7:=okA
def Zbm (x1:List Side):Option (List Side):=Z7c 32 [] x1
theorem Zcm {x1 r} (h:Zbm x1=some r):Zpd Tryz.prog 46 [Sp3 x1] 112 8 (List.map Side.row r):=by
 refine Zqd Zam rfl fun w0 H0=>?_;rw [Zbm] at h;refine Zf6 100 ?_;dsimp only [e46,go_sem];refine ⟨by simp,?_⟩;refine Zod trivial rfl (fun hn=>?_) ?_
 ·refine Zf6 100 ?_;dsimp only[go_sem];refine ⟨by simp,?_⟩;refine Zbb 2 112 8 rfl rfl ?_;dsimp only[go_sem];have hn:x1=[]:=by simpa using hn
  subst hn;exact Z9e Side.row (e:=[]) Zam (by simpa [Z7c] using h) rfl rfl
 ·refine Zf6 100 ?_;dsimp only[go_sem];refine ⟨by simp,?_⟩;refine Zlc Side.row h trivial rfl rfl rfl ?_;refine Zf6 100 ?_;dsimp only[go_sem];refine ⟨by simp,?_⟩;exact Z9e Side.row Zam (rfl:some r=some r) rfl rfl
theorem Zdm {x1 r} (h:Zbm x1=some r):Zy6 Tryz.prog 46 [Sp3 x1] (Sp3 r):=(Zcm h).sealed
@[go_sem] def e231:EC:=eQ Tryz.f231
def Zem (x1:Side):Option Bool:=some (decide (x1.State=1))
theorem Zfm {x1 r} (h:Zem x1=some r):Zy6 Tryz.prog 231 [.agg (Side.row x1)] (.bv r):=by have ok:=oK 231 Tryz.f231 e231 [.t 2] 1 5;refine FP ok fun w0 H0=>?_;rw [Zem] at h;exact W
@[go_sem] def e242:EC:=eQ Tryz.f242
theorem Zgm:FnOK Tryz.prog 242 Tryz.f242 e242 [] 4 17:=okA
@[go_sem] def e243:EC:=eQ Tryz.f243
theorem Zhm:FnOK Tryz.prog 243 Tryz.f243 e243 [] 3 25:=okA
@[go_sem] def e100:EC:=eQ Tryz.f100
def Zim (x1:Side) (x2:Int):Option Bool:=some (decide (x1.Peer=x2))
theorem Zjm {x1 x2 r} (h:Zim x1 x2=some r):Zy6 Tryz.prog 100 [.agg (Side.row x1),.elt (Z3d x2) 0] (.bv r):=by have ok:=oK 100 Tryz.f100 e100 [.t 3] 2 6;refine FP ok fun w0 H0=>?_;rw [Zim] at h;exact W
@[go_sem] def e86:EC:=eQ Tryz.f86
def Zkm:Unit→Option Bool
| ()=>some true
def Zlm (x1 x2:List Int):Int→Option (Int ⊕ Bool)
| x6=>
 ifb (decide (x6<(ln Z3d x1))) (
 (at_ x1 x6).bind fun x7=>
 (at_ x2 x6).bind fun x8=>
 ifb (!decide (x7=x8)) (
 Option.map Sum.inr (some false)) (
 some (.inl (wr (x6+1))))) (
 Option.map Sum.inr (Zkm ()))
def Zmm (x1 x2:List Int):Option Bool:=
 ifb (!decide ((ln Z3d x1)=(ln Z3d x2))) (
 some false) (
 loop (Zlm x1 x2) 0)
theorem Znm {x1 x2 r} (h:Zmm x1 x2=some r):Zy6 Tryz.prog 86 [Sp1 x1,Sp1 x2] (.bv r):=by
 have ok:=oK 86 Tryz.f86 e86 [.t 4] 2 24;refine FP ok fun w0 H0=>?_;rw [Zmm] at h;refine Vg 13 ?_;refine MI h (fun h=>?_) fun h=>?_
 ·exact W
 ·refine Vg 8 ?_;refine Vk [] (fun _=>[]) Zkm r ?_ fun J1=>?_
  ·rintro ⟨⟩ h;rw [Zkm] at h;exact W
  ·refine Vg 1 ?_;refine Mk h [0,2,10,1] (fun x6=>[(13,.iv x6)]) ?_;rintro n1 x6 y1 h hin1 hout1;rw [Zlm] at h;(try dsimp only);refine Vg 5 ?_;refine MI h (fun h=>?_) fun h=>?_
   ·refine Vg 9 ?_;have ⟨x7,ex7,h⟩:=Bs h;have ⟨x8,ex8,h⟩:=Bs h;refine Zej fun all H=>Gs ?_;exact W
   ·exact W
@[go_sem] def e64:EC:=eQ Tryz.f64
theorem Zom:FnOK Tryz.prog 64 Tryz.f64 e64 [.t 2] 1 7:=okA
def Zpm (x1:List KE):Option (List KE):=Z7c 16 [] x1
theorem Zqm {x1 r} (h:Zpm x1=some r):Zpd Tryz.prog 64 [Sp2 x1] 121 2 (List.map KE.row r):=by
 refine Zqd Zom rfl fun w0 H0=>?_;rw [Zpm] at h;refine Zf6 100 ?_;dsimp only [e64,go_sem];refine ⟨by simp,?_⟩;refine Zod trivial rfl (fun hn=>?_) ?_
 ·refine Zf6 100 ?_;dsimp only[go_sem];refine ⟨by simp,?_⟩;refine Zbb 2 121 2 rfl rfl ?_;dsimp only[go_sem];have hn:x1=[]:=by simpa using hn
  subst hn;exact Z9e KE.row (e:=[]) Zom (by simpa [Z7c] using h) rfl rfl
 ·refine Zf6 100 ?_;dsimp only[go_sem];refine ⟨by simp,?_⟩;refine Zlc KE.row h trivial rfl rfl rfl ?_;refine Zf6 100 ?_;dsimp only[go_sem];refine ⟨by simp,?_⟩;exact Z9e KE.row Zom (rfl:some r=some r) rfl rfl
theorem Zrm {x1 r} (h:Zpm x1=some r):Zy6 Tryz.prog 64 [Sp2 x1] (Sp2 r):=(Zqm h).sealed
@[go_sem] def e69:EC:=eQ Tryz.f69
theorem Zsm:FnOK Tryz.prog 69 Tryz.f69 e69 [.t 6] 3 22:=okA
@[go_sem] def e113:EC:=eQ Tryz.f113
theorem Ztm:FnOK Tryz.prog 113 Tryz.f113 e113 [.t 4] 2 25:=okA
def Zum:List Int→Option (List Int)
| x20=>some x20
def Zvm (x8:Int):List Int→Option ((Int×List Int) ⊕ (List Int))
| x13=>some (.inl (wr (x8+1),x13))
def Zwm (x1:Node) (p1:(Side→Option Bool)):(Int×List Int)→Option ((Int×List Int) ⊕ (List Int))
| (x8,x9)=>
 ifb (decide (x8<(ln Side.row x1.DK.DI.SD))) (
 (at_ x1.DK.DI.SD x8).bind fun x10=>
 (p1 x10).bind fun x11=>
 ifb x11 (
 (Z7c 8 x9 ([x10.Peer])).bind fun x12=>
 (Zvm x8) x12) (
 (Zvm x8) x9)) (
 Option.map Sum.inr (Zum x9))
def Zxm (x1:Node) (p1:(Side→Option Bool)):Option (List Int):=loop (Zwm x1 p1) (0,([]:List Int))
theorem Zym {x1 g1 caps1 p1 r} (h:Zxm x1 p1=some r) (hc1:CloOK Tryz.prog g1 caps1 (fun z=>[.agg (Side.row z)]) p1 (fun z=>.bv z)):Zy6 Tryz.prog 113 [.agg (Node.row x1),.clo g1 caps1] (Sp1 r):=by
 refine FP Ztm fun w0 H0=>?_;rw [Zxm] at h;refine Vg 19 ?_;refine Vl [] (fun x20=>([(5,.osl 0)],[],[Sq4 x20])) Zum r ?_ fun J1=>?_
 ·intro x20 h;rw [Zum] at h;(try dsimp only);refine Vg 5 ?_;refine Zhj 0 (Ds ?_);exact MD Ztm h
 ·refine Vg 1 ?_;refine Zbb 5 3 1 rfl rfl (Ds ?_);refine Ml h [1,1,3,1,5,2] (fun s=>([(13,.iv s.1)],[],[Sq4 s.2])) ?_ (hok:=by rintro ⟨x8,x9⟩;first | rfl | (simp [go_sem];done) | simp [go_sem,Zpb _ hc1.pu]);rintro n1 ⟨x8,x9⟩ y1 h hin1 hout1;rw [Zwm] at h;(try dsimp only);refine Vg 5 ?_;refine MI h (fun h=>?_) fun h=>?_
  ·refine Vg 5 ?_;have ⟨x10,ex10,h⟩:=Bs h;refine Zic Side.row ex10 trivial rfl rfl rfl (Vg 8 ?_);have ⟨x11,ex11,h⟩:=Bs h;refine Z2d trivial rfl hc1 (x:=x10) ex11 (by first | exact Zqb _ | simp [go_sem]) (by first | rfl | simp [go_sem,hc1.pu]) (Vg 1 ?_);refine Vl [1,1,3,1,5,3] (fun x13=>([],[],[Sq4 x13])) (Zvm x8) y1 ?_ fun J2=>?_
   ·intro x13 h;rw [Zvm] at h;(try dsimp only);refine Vg 5 ?_;exact Zrc h hin1 (hok:=by first | rfl | simp [go_sem,Zpb _ hc1.pu])
   ·refine MI h (fun h=>?_) fun h=>?_
    ·refine Vg 5 ?_;have ⟨x12,ex12,h⟩:=Bs h;refine Zlc Z3d ex12 trivial rfl rfl rfl (Vg 2 ?_);refine Zgj 2 0 (Ds ?_);(try rw [Zlh _ _ _ hc1.pu]);exact Zsc J2 h (hok:=by first | rfl | simp [go_sem,Zpb _ hc1.pu])
    ·refine Vg 1 ?_;exact Zsc J2 h (hok:=by first | rfl | simp [go_sem,Zpb _ hc1.pu])
  ·refine Vg 1 ?_;exact Zsc J1 (Zdc h hout1) (hok:=by first | rfl | simp [go_sem])
@[go_sem] def e71:EC:=eQ Tryz.f71
def Zzm (x1:Side):Option Bool:=some (decide (x1.State=0))
theorem Z0n {x1 r} (h:Zzm x1=some r):Zy6 Tryz.prog 71 [.agg (Side.row x1)] (.bv r):=by have ok:=oK 71 Tryz.f71 e71 [.t 2] 1 5;refine FP ok fun w0 H0=>?_;rw [Zzm] at h;exact W
@[go_sem] def e125:EC:=eQ Tryz.f125
theorem Z1n:FnOK Tryz.prog 125 Tryz.f125 e125 [] 3 22:=okA
@[go_sem] def e110:EC:=eQ Tryz.f110
theorem Z2n:FnOK Tryz.prog 110 Tryz.f110 e110 [.c 2 (some 4),.t 3] 1 14:=okA
def Z3n (x1:Node):Option (Sess×Bool):=
 ifb (decide ((ln Sess.row x1.Book.Sess)=0)) (
 some ((Sess.mk 0 (([]:List Int)) 0 0),false)) (
 (at_ x1.Book.Sess 0).bind fun x2=>
 some (x2,true))
theorem Z4n {x1 r} (h:Z3n x1=some r):Zy6 Tryz.prog 110 [.agg (Node.row x1)] (.tup [.agg (Sess.row r.1),.bv r.2]):=by refine FP Z2n fun w0 H0=>?_;have ok:=Z2n;rw [Z3n] at h;exact W
@[go_sem] def e129:EC:=eQ Tryz.f129
def Z5n (x23:Int):Bool→Option (Int×Bool)
| x26=>some (x23,x26)
def Z6n (x1:List Side) (x2:Int) (p2:((Side×Int)→Option Int)):Int→Option (Int×Bool)
| x23=>
 ifb (decide (x23<(ln Side.row x1))) (
 (at_ x1 x23).bind fun x24=>
 (p2 (x24,x2)).bind fun x25=>
 (Z5n x23) (decide (x25=0))) (
 (Z5n x23) false)
def Z7n (x1:List Side) (x2:Int) (p2:((Side×Int)→Option Int)):(Int×Int)→Option ((Int×Int) ⊕ (Int×Bool))
| (x7,x8)=>
 ifb (decide (x7<x8)) (
 (at_ x1 (wr (Int.fdiv (kw .u64 (wr (x7+x8))) (2 ^ min (Int.toNat 1) (IntKind.bits .u64))))).bind fun x9=>
 (p2 (x9,x2)).bind fun x10=>
 ifb (decide (x10<0)) (
 some (.inl (wr ((wr (Int.fdiv (kw .u64 (wr (x7+x8))) (2 ^ min (Int.toNat 1) (IntKind.bits .u64))))+1),x8))) (
 some (.inl (x7,wr (Int.fdiv (kw .u64 (wr (x7+x8))) (2 ^ min (Int.toNat 1) (IntKind.bits .u64))))))) (
 Option.map Sum.inr ((Z6n x1 x2 p2) x7))
def Z8n (x1:List Side) (x2:Int) (p2:((Side×Int)→Option Int)):Option (Int×Bool):=loop (Z7n x1 x2 p2) (0,ln Side.row x1)
theorem Z9n {x1 x2 g2 caps2 p2 r} (h:Z8n x1 x2 p2=some r) (hc2:CloOK Tryz.prog g2 caps2 (fun z=>[.agg (Side.row z.1),.iv z.2]) p2 (fun z=>.iv z)):Zy6 Tryz.prog 129 [Sp3 x1,.iv x2,.clo g2 caps2] (.tup [.iv r.1,.bv r.2]):=by
 have ok:=oK 129 Tryz.f129 e129 [.t 6,.t 7] 3 46;refine FP ok fun w0 H0=>?_;rw [Z8n] at h;refine Vg 18 ?_;refine Vk [0,3,5,1] (fun x23=>[(9,.iv x23)]) (Z6n x1 x2 p2) r ?_ fun J1=>?_
 ·intro x23 h;rw [Z6n] at h;(try dsimp only);refine Vg 7 ?_;refine Vk [] (fun x26=>[(6,.iv x23),(7,.bv x26)]) (Z5n x23) r ?_ fun J2=>?_
  ·intro x26 h;rw [Z5n] at h;(try dsimp only);exact MD ok h
  ·refine MC 39 h (fun h=>?_) fun h=>?_
   ·refine Vg 3 ?_;have ⟨x24,ex24,h⟩:=Bs h;refine Zic Side.row ex24 trivial rfl rfl rfl (Vg 2 ?_);have ⟨x25,ex25,h⟩:=Bs h;refine Z2d trivial rfl hc2 (x:=(x24,x2)) ex25 (by first | exact Zqb _ | simp [go_sem]) (by first | rfl | simp [go_sem,hc2.pu]) (Vg 5 ?_);exact Zsc J2 h (hok:=by first | rfl | simp [go_sem,Zpb _ hc2.pu])
   ·refine Vg 12 ?_;exact Zsc J2 h (hok:=by first | rfl | simp [go_sem,Zpb _ hc2.pu])
 ·refine Vg 1 ?_;refine Mk h [0,3,5,1] (fun s=>[(9,.iv s.1),(10,.iv s.2)]) ?_ (hok:=by rintro ⟨x7,x8⟩;first | rfl | (simp [go_sem];done) | simp [go_sem,Zpb _ hc2.pu]);rintro n1 ⟨x7,x8⟩ y1 h hin1 hout1;rw [Z7n] at h;(try dsimp only);refine Vg 7 ?_;refine MI h (fun h=>?_) fun h=>?_
  ·refine Vg 17 ?_;have ⟨x9,ex9,h⟩:=Bs h;refine Zic Side.row ex9 trivial rfl rfl rfl (Vg 2 ?_);have ⟨x10,ex10,h⟩:=Bs h;refine Z2d trivial rfl hc2 (x:=(x9,x2)) ex10 (by first | exact Zqb _ | simp [go_sem]) (by first | rfl | simp [go_sem,hc2.pu]) (Vg 2 ?_);refine MI h (fun h=>?_) fun h=>?_
   ·refine Vg 6 ?_;exact Zrc h hin1 (hok:=by first | rfl | simp [go_sem,Zpb _ hc2.pu])
   ·refine Vg 5 ?_;exact Zrc h hin1 (hok:=by first | rfl | simp [go_sem,Zpb _ hc2.pu])
  ·refine Vg 1 ?_;exact Zsc J1 (Zdc h hout1) (hok:=by first | rfl | simp [go_sem,Zpb _ hc2.pu])
@[go_sem] def e130:EC:=eQ Tryz.f130
def Zan (x1:Side) (x2:Int):Option Int:=some (wr (x1.Peer-x2))
theorem Zbn {x1 x2 r} (h:Zan x1 x2=some r):Zy6 Tryz.prog 130 [.agg (Side.row x1),.iv x2] (.iv r):=by have ok:=oK 130 Tryz.f130 e130 [.t 4] 2 7;refine FP ok fun w0 H0=>?_;rw [Zan] at h;exact W
@[go_sem] def e173:EC:=eQ Tryz.f173
def Zcn (x23:Int):Bool→Option (Int×Bool)
| x26=>some (x23,x26)
def Zdn (x1:List KE) (x2:Int) (p2:((KE×Int)→Option Int)):Int→Option (Int×Bool)
| x23=>
 ifb (decide (x23<(ln KE.row x1))) (
 (at_ x1 x23).bind fun x24=>
 (p2 (x24,x2)).bind fun x25=>
 (Zcn x23) (decide (x25=0))) (
 (Zcn x23) false)
def Zen (x1:List KE) (x2:Int) (p2:((KE×Int)→Option Int)):(Int×Int)→Option ((Int×Int) ⊕ (Int×Bool))
| (x7,x8)=>
 ifb (decide (x7<x8)) (
 (at_ x1 (wr (Int.fdiv (kw .u64 (wr (x7+x8))) (2 ^ min (Int.toNat 1) (IntKind.bits .u64))))).bind fun x9=>
 (p2 (x9,x2)).bind fun x10=>
 ifb (decide (x10<0)) (
 some (.inl (wr ((wr (Int.fdiv (kw .u64 (wr (x7+x8))) (2 ^ min (Int.toNat 1) (IntKind.bits .u64))))+1),x8))) (
 some (.inl (x7,wr (Int.fdiv (kw .u64 (wr (x7+x8))) (2 ^ min (Int.toNat 1) (IntKind.bits .u64))))))) (
 Option.map Sum.inr ((Zdn x1 x2 p2) x7))
def Zfn (x1:List KE) (x2:Int) (p2:((KE×Int)→Option Int)):Option (Int×Bool):=loop (Zen x1 x2 p2) (0,ln KE.row x1)
theorem Zgn {x1 x2 g2 caps2 p2 r} (h:Zfn x1 x2 p2=some r) (hc2:CloOK Tryz.prog g2 caps2 (fun z=>[.agg (KE.row z.1),.iv z.2]) p2 (fun z=>.iv z)):Zy6 Tryz.prog 173 [Sp2 x1,.iv x2,.clo g2 caps2] (.tup [.iv r.1,.bv r.2]):=by
 have ok:=oK 173 Tryz.f173 e173 [.t 6,.t 7] 3 46;refine FP ok fun w0 H0=>?_;rw [Zfn] at h;refine Vg 18 ?_;refine Vk [0,3,5,1] (fun x23=>[(9,.iv x23)]) (Zdn x1 x2 p2) r ?_ fun J1=>?_
 ·intro x23 h;rw [Zdn] at h;(try dsimp only);refine Vg 7 ?_;refine Vk [] (fun x26=>[(6,.iv x23),(7,.bv x26)]) (Zcn x23) r ?_ fun J2=>?_
  ·intro x26 h;rw [Zcn] at h;(try dsimp only);exact MD ok h
  ·refine MC 39 h (fun h=>?_) fun h=>?_
   ·refine Vg 3 ?_;have ⟨x24,ex24,h⟩:=Bs h;refine Zic KE.row ex24 trivial rfl rfl rfl (Vg 2 ?_);have ⟨x25,ex25,h⟩:=Bs h;refine Z2d trivial rfl hc2 (x:=(x24,x2)) ex25 (by first | exact Zqb _ | simp [go_sem]) (by first | rfl | simp [go_sem,hc2.pu]) (Vg 5 ?_);exact Zsc J2 h (hok:=by first | rfl | simp [go_sem,Zpb _ hc2.pu])
   ·refine Vg 12 ?_;exact Zsc J2 h (hok:=by first | rfl | simp [go_sem,Zpb _ hc2.pu])
 ·refine Vg 1 ?_;refine Mk h [0,3,5,1] (fun s=>[(9,.iv s.1),(10,.iv s.2)]) ?_ (hok:=by rintro ⟨x7,x8⟩;first | rfl | (simp [go_sem];done) | simp [go_sem,Zpb _ hc2.pu]);rintro n1 ⟨x7,x8⟩ y1 h hin1 hout1;rw [Zen] at h;(try dsimp only);refine Vg 7 ?_;refine MI h (fun h=>?_) fun h=>?_
  ·refine Vg 17 ?_;have ⟨x9,ex9,h⟩:=Bs h;refine Zic KE.row ex9 trivial rfl rfl rfl (Vg 2 ?_);have ⟨x10,ex10,h⟩:=Bs h;refine Z2d trivial rfl hc2 (x:=(x9,x2)) ex10 (by first | exact Zqb _ | simp [go_sem]) (by first | rfl | simp [go_sem,hc2.pu]) (Vg 2 ?_);refine MI h (fun h=>?_) fun h=>?_
   ·refine Vg 6 ?_;exact Zrc h hin1 (hok:=by first | rfl | simp [go_sem,Zpb _ hc2.pu])
   ·refine Vg 5 ?_;exact Zrc h hin1 (hok:=by first | rfl | simp [go_sem,Zpb _ hc2.pu])
  ·refine Vg 1 ?_;exact Zsc J1 (Zdc h hout1) (hok:=by first | rfl | simp [go_sem,Zpb _ hc2.pu])
@[go_sem] def e174:EC:=eQ Tryz.f174
def Zhn (x1:KE) (x2:Int):Option Int:=some (wr (x1.Peer-x2))
theorem Zin {x1 x2 r} (h:Zhn x1 x2=some r):Zy6 Tryz.prog 174 [.agg (KE.row x1),.iv x2] (.iv r):=by have ok:=oK 174 Tryz.f174 e174 [.t 4] 2 7;refine FP ok fun w0 H0=>?_;rw [Zhn] at h;exact W
@[go_sem] def e120:EC:=eQ Tryz.f120
def Zjn (x1:Side) (x2:Int):Option Bool:=some (decide (x1.Peer=x2))
theorem Zkn {x1 x2 r} (h:Zjn x1 x2=some r):Zy6 Tryz.prog 120 [.agg (Side.row x1),.elt (Z3d x2) 0] (.bv r):=by have ok:=oK 120 Tryz.f120 e120 [.t 3] 2 6;refine FP ok fun w0 H0=>?_;rw [Zjn] at h;exact W
end
end NX
end Go.Proofs.YtgamgemlekpepaaGreat
