/-
  The function narthex/narthexref15.side: its code compiled, a model, and that the code answers as the model. Written by a program of ours (lb.py). No statement of the seat is proved here.
-/
import Derived.Test.YtgamgemlekpepaaGreatK22
set_option maxRecDepth 100000
set_option maxHeartbeats 40000000
namespace Go.Proofs.YtgamgemlekpepaaGreat
namespace NX
open Go
noncomputable section
def Zkq:Unit→Option Int
| ()=>some (-1)
def Zlq (x1:DK) (x2:Int):Int→Option (Int ⊕ Int)
| x5=>
 ifb (decide (x5<(ln SX.row x1.DI.SD))) (
 (at_ x1.DI.SD x5).bind fun x6=>
 ifb (decide (x6.PE=x2)) (
 Option.map Sum.inr (some x5)) (
 some (.inl (wr (x5+1))))) (
 Option.map Sum.inr (Zkq ()))
def Zmq (x1:DK) (x2:Int):Option Int:=loop (Zlq x1 x2) 0
theorem Znq {x1 x2 r} (h:Zmq x1 x2=some r):FPx 152 [.agg (DK.row x1),.iv x2] (.iv r):=by
 have ok:=oJ 152 Tryz.f152 [.t 4] 2 22;refine FP ok fun w0 H0=>?_;rw [Zmq] at h;refine Vg 10 ?_;refine Vl [] (fun _=>([],[],[])) Zkq r ?_ fun J1=>?_
 ·rintro ⟨⟩ h;rw [Zkq] at h;exact W
 ·refine Vg 1 ?_;refine Mk h [1,2] (fun x5=>[(5,.iv x5)]) ?_;rintro n1 x5 y1 h hin1 hout1;rw [Zlq] at h;exact W
def Zoq (x1:List Int):Unit→Option Bool
| ()=>some (decide ((ln Z4d x1)≤64))
def Zpq (x7:Int):Bool→Option (Int ⊕ Bool)
| x11=>
 ifb x11 (
 Option.map Sum.inr (some false)) (
 some (.inl (wr (x7+1))))
def Zqq (x1:List Int):Int→Option (Int ⊕ Bool)
| x7=>
 ifb (decide (x7<(ln Z4d x1))) (
 (at_ x1 x7).bind fun x8=>
 ifb (decide (x8<0)) (
 (Zpq x7) true) (
 ifb (decide (0<x7)) (
 (at_ x1 (wr (x7-1))).bind fun x9=>
 (at_ x1 x7).bind fun x10=>
 (Zpq x7) (decide (x10≤x9))) (
 (Zpq x7) false))) (
 Option.map Sum.inr ((Zoq x1) ()))
def Zrq (x1:List Int):Option Bool:=loop (Zqq x1) 0
theorem Zsq {x1 r} (h:Zrq x1=some r):FPx 153 [Sp1 x1] (.bv r):=by
 have ok:=oJ 153 Tryz.f153 [.t 2] 1 33;refine FP ok fun w0 H0=>?_;rw [Zrq] at h;refine Vg 9 ?_;refine Vk [0,1] (fun _=>[]) (Zoq x1) r ?_ fun J1=>?_
 ·rintro ⟨⟩ h;rw [Zoq] at h;exact W
 ·refine Vg 1 ?_;refine Mk h [0,1] (fun x7=>[(3,.iv x7)]) ?_;rintro n1 x7 y1 h hin1 hout1;rw [Zqq] at h;refine Vg 8 ?_;refine MI h (fun h=>?_) fun h=>?_
  ·refine Vg 4 ?_;refine Vk [0,1,2,1] (fun x11=>[(30,.bv x11)]) (Zpq x7) y1 ?_ fun J2=>?_
   ·intro x11 h;rw [Zpq] at h;exact W
   ·refine Zgj fun all H=>?_;refine Gn H 2 19 ?_;have ⟨x8,ex8,h⟩:=Bs h;refine Zkc H.1 H.2.1 H.2.2.1 H.2.2.2 2 Z4d ex8 rfl rfl trivial rfl rfl rfl rfl (GP H 3 15 [6,15] [(13,[.iv x8,.bv (decide (x8<0)),.bv (decide (x8<0))])] (Ds ?_));refine Zdd 15 h rfl (fun _ h=>?_) fun _ h=>?_
    ·refine Ds (GP H 15 0 [21] [(16,[.un,.un,.un,.un,.un,.un,.un,.un,.un,.un,.un,.un,.un,.un,.tt])] (Ds ?_));refine GD ?_;exact W
    ·refine Ds (GP H 3 12 [9,12] [(16,[.iv x7,.bv (decide (0<x7)),.bv (decide (0<x7))])] (Ds ?_));refine Zdd 18 h rfl (fun _ h=>?_) fun _ h=>?_
     ·refine Ds (GP H 5 7 [12,2,2,5] [(19,[Sp1 x1,.iv x7,.iv (wr (x7-1))]),(2,[Sp1 x1,.iv x7])] (Ds ?_));have ⟨x9,ex9,h⟩:=Bs h;refine Zkc H.1 H.2.1 H.2.2.1 H.2.2.2 12 Z4d ex9 rfl rfl trivial rfl rfl rfl rfl (Gn H 1 5 ?_);have ⟨x10,ex10,h⟩:=Bs h;refine Zkc H.1 H.2.1 H.2.2.1 H.2.2.2 16 Z4d ex10 rfl rfl trivial rfl rfl rfl rfl (GP H 4 0 [21] [(27,[.iv x10,.bv (decide (x10≤x9)),.bv (decide (x10≤x9)),.bv (decide (x10≤x9))])] (Ds ?_));refine GD ?_;exact W
     ·refine Ds (GP H 12 0 [21] [(19,[.un,.un,.un,.un,.un,.un,.un,.un,.un,.un,.ff,.ff])] (Ds ?_));refine GD ?_;exact W
  ·exact W
def Ztq:Unit→Option Int
| ()=>some 0
def Zuq (x1:List KE) (x2:Int):Int→Option (Int ⊕ Int)
| x6=>
 ifb (decide (x6<(ln KE.row x1))) (
 (at_ x1 x6).bind fun x7=>
 ifb (decide (x7.PE=x2)) (
 (at_ x1 x6).bind fun x8=>
 Option.map Sum.inr (some x8.EP)) (
 some (.inl (wr (x6+1))))) (
 Option.map Sum.inr (Ztq ()))
def Zvq (x1:List KE) (x2:Int):Option Int:=loop (Zuq x1 x2) 0
theorem Zwq {x1 x2 r} (h:Zvq x1 x2=some r):FPx 154 [Sp2 x1,.iv x2] (.iv r):=by
 have ok:=oJ 154 Tryz.f154 [.t 4] 2 22;refine FP ok fun w0 H0=>?_;rw [Zvq] at h;refine Vg 9 ?_;refine Vk [] (fun _=>[]) Ztq r ?_ fun J1=>?_
 ·rintro ⟨⟩ h;rw [Ztq] at h;exact W
 ·refine Vg 1 ?_;refine Mk h [0,2] (fun x6=>[(5,.iv x6)]) ?_;rintro n1 x6 y1 h hin1 hout1;rw [Zuq] at h;exact W
def Zxq:List Int→Option (List Int)
| x19=>some x19
def Zyq (x8:Int):List Int→Option ((Int×List Int) ⊕ (List Int))
| x13=>some (.inl (wr (x8+1),x13))
def Zzq (x1:NO):(Int×List Int)→Option ((Int×List Int) ⊕ (List Int))
| (x8,x9)=>
 ifb (decide (x8<(ln SX.row x1.DK.DI.SD))) (
 (at_ x1.DK.DI.SD x8).bind fun x10=>
 ifb (decide (x10.SS=0)) (
 (at_ x1.DK.DI.SD x8).bind fun x11=>
 (Z8c 8 x9 ([x11.PE])).bind fun x12=>
 (Zyq x8) x12) (
 (Zyq x8) x9)) (
 Option.map Sum.inr (Zxq x9))
def Z0r (x1:NO):Option (List Int):=loop (Zzq x1) (0,([]:List Int))
theorem Z1r {x1 r} (h:Z0r x1=some r):FOx 97 [.agg (NO.row x1)] 3 1 (List.map Z4d r):=by
 have ok:=oJ 97 Tryz.f97 [.t 2] 1 35;refine Zrd ok rfl fun w0 H0=>?_;rw [Z0r] at h;refine Vg 15 ?_;refine Vl [3,1] (fun x19=>([],[],[Sq4 x19])) Zxq r ?_ fun J1=>?_
 ·intro x19 h;rw [Zxq] at h;refine Vg 5 ?_;exact Zae Z4d ok h rfl rfl
 ·refine Vg 1 ?_;refine Mm h [1,1,1,1] (fun s=>([(4,.iv s.1)],[],[],[(0,Sq4 s.2)])) ?_;rintro n1 ⟨x8,x9⟩ y1 h hin1 hout1;rw [Zzq] at h;refine Vg 11 ?_;refine MI h (fun h=>?_) fun h=>?_
  ·refine Vg 10 ?_;have ⟨x10,ex10,h⟩:=Bs h;refine Zjc SX.row ex10 trivial rfl rfl rfl (Vg 4 ?_);refine Vm [1,1,1,2] (fun x13=>([],[],[],[(0,Sq4 x13)])) (Zyq x8) y1 ?_ fun J2=>?_
   ·intro x13 h;rw [Zyq] at h;exact W
   ·refine MI h (fun h=>?_) fun h=>?_
    ·refine Vg 7 ?_;have ⟨x11,ex11,h⟩:=Bs h;refine Zjc SX.row ex11 trivial rfl rfl rfl (Vg 3 ?_);have ⟨x12,ex12,h⟩:=Bs h;refine Zmc Z4d ex12 trivial rfl rfl rfl (Vg 2 ?_);refine Zij 2 0 ?_;exact W
    ·exact W
  ·exact W
theorem Z2r {x1 r} (h:Z0r x1=some r):FPx 97 [.agg (NO.row x1)] (Sp1 r):=(Z1r h).sealed
def Z3r:Bool→Option Bool
| x3=>some x3
def Z4r (x1:HL) (x2:Int):Option Bool:=
 ifb (decide (0≤x2)) (
 Z3r (decide (x2<(ln NO.row x1.NS)))) (
 Z3r false)
theorem Z5r {x1 x2 r} (h:Z4r x1 x2=some r):FPx 27 [.agg (HL.row x1),.iv x2] (.bv r):=by
 have ok:=oJ 27 Tryz.f27 [.t 4] 2 12;refine FP ok fun w0 H0=>?_;rw [Z4r] at h;refine Vg 10 ?_;refine Vl [] (fun x3=>([(4,.bv x3)],[],[])) Z3r r ?_ fun J1=>?_
 ·intro x3 h;rw [Z3r] at h;exact W
 ·exact W
def Z6r:Unit→Option Int
| ()=>some (-1)
def Z7r (x1:List ML) (p1:(ML→Option Bool)):Int→Option (Int ⊕ Int)
| x5=>
 ifb (decide (x5<(ln ML.row x1))) (
 (at_ x1 x5).bind fun x6=>
 (p1 x6).bind fun x7=>
 ifb x7 (
 Option.map Sum.inr (some x5)) (
 some (.inl (wr (x5+1))))) (
 Option.map Sum.inr (Z6r ()))
def Z8r (x1:List ML) (p1:(ML→Option Bool)):Option Int:=loop (Z7r x1 p1) 0
theorem Z9r {x1 g1 caps1 p1 r} (h:Z8r x1 p1=some r) (hc1:CloOK Tryz.prog g1 caps1 (fun z=>[.agg (ML.row z)]) p1 (fun z=>.bv z)):FPx 40 [Sp9 x1,.clo g1 caps1] (.iv r):=by
 have ok:=oJ 40 Tryz.f40 [.t 4] 2 17;refine FP ok fun w0 H0=>?_;rw [Z8r] at h;refine Vg 11 ?_;refine Vk [] (fun _=>[]) Z6r r ?_ fun J1=>?_
 ·rintro ⟨⟩ h;rw [Z6r] at h;refine Vg 4 ?_;exact MD ok h
 ·refine Vg 1 ?_;refine Mk h [0,2,5,1] (fun x5=>[(8,.iv x5)]) ?_ (hok:=by intro x5;first | rfl | (simp [go_sem];done) | simp [go_sem,Zqb _ hc1.pu]);rintro n1 x5 y1 h hin1 hout1;rw [Z7r] at h;refine Vg 5 ?_;refine MI h (fun h=>?_) fun h=>?_
  ·refine Vg 13 ?_;have ⟨x6,ex6,h⟩:=Bs h;refine Zjc ML.row ex6 trivial rfl rfl rfl (Vg 1 ?_);have ⟨x7,ex7,h⟩:=Bs h;refine Z3d trivial rfl hc1 (x:=x6) ex7 (by first | exact Zrb _ | simp [go_sem]) (by first | rfl | simp [go_sem,hc1.pu]) (Vg 1 ?_);refine MI h (fun h=>?_) fun h=>?_
   ·refine Vg 5 ?_;exact MD ok (Zec h hout1)
   ·refine Vg 6 ?_;exact Zsc h hin1 (hok:=by first | rfl | simp [go_sem,Zqb _ hc1.pu])
  ·refine Vg 1 ?_;exact Ztc J1 (Zec h hout1) (hok:=by first | rfl | simp [go_sem,Zqb _ hc1.pu])
def Zar (x1:Graph):Option Graph:=
 (Z8c 16 (([]:List Edge)) x1.Edges).bind fun x2=>
 some (Graph.mk x1.N x2)
theorem Zbr {x1 r} (h:Zar x1=some r):FPx 7 [.agg (Graph.row x1)] (.agg (Graph.row r)):=by have ok:=oJ 7 Tryz.f7 [.c 2 (some 2)] 1 9;refine FP ok fun w0 H0=>?_;rw [Zar] at h;refine Vg 6 ?_;refine Zgj fun all H=>?_;refine Gn H 4 4 ?_;refine R1 ?_;refine Zna 5 rfl ?_;have ⟨x2,ex2,h⟩:=Bs h;refine GA Edge.row ex2 H.1 ?_;refine Gn H 1 1 ?_;refine R1 ?_;refine GD (Zjj 1 ?_);exact W
@[go_sem] def e74:EC:=eQ Tryz.f74
theorem Zcr:FnOK Tryz.prog 74 Tryz.f74 e74 [.t 4] 2 25:=okA
@[go_sem] def e63:EC:=eQ Tryz.f63
def Zdr (x1:List NO):Option (List NO):=Z8c 176 [] x1
theorem Zer {x1 r} (h:Zdr x1=some r):FOx 63 [Z7k x1] 67 10 (List.map NO.row r):=by
 have ok:=oK 63 Tryz.f63 e63 [.t 2] 1 7;refine Zrd ok rfl fun w0 H0=>?_;rw [Zdr] at h;refine Zg6 100 ?_;dsimp only [e63,go_sem];refine ⟨by simp,?_⟩;refine Zpd trivial rfl (fun hn=>?_) ?_
 ·refine Zg6 100 ?_;dsimp only[go_sem];refine ⟨by simp,?_⟩;refine Zcb 2 67 10 rfl rfl ?_;dsimp only[go_sem];have hn:x1=[]:=by simpa using hn
  subst hn;exact Zae NO.row (e:=[]) ok (by simpa [Z8c] using h) rfl rfl
 ·refine Zg6 100 ?_;dsimp only[go_sem];refine ⟨by simp,?_⟩;refine Zmc NO.row h trivial rfl rfl rfl ?_;refine Zg6 100 ?_;dsimp only[go_sem];refine ⟨by simp,?_⟩;exact Zae NO.row ok (rfl:some r=some r) rfl rfl
@[go_sem] def e45:EC:=eQ Tryz.f45
def Zfr (x1:List ML):Option (List ML):=Z8c 40 [] x1
theorem Zgr {x1 r} (h:Zfr x1=some r):FOx 45 [Sp9 x1] 53 5 (List.map ML.row r):=by
 have ok:=oK 45 Tryz.f45 e45 [.t 2] 1 7;refine Zrd ok rfl fun w0 H0=>?_;rw [Zfr] at h;refine Zg6 100 ?_;dsimp only [e45,go_sem];refine ⟨by simp,?_⟩;refine Zpd trivial rfl (fun hn=>?_) ?_
 ·refine Zg6 100 ?_;dsimp only[go_sem];refine ⟨by simp,?_⟩;refine Zcb 2 53 5 rfl rfl ?_;dsimp only[go_sem];have hn:x1=[]:=by simpa using hn
  subst hn;exact Zae ML.row (e:=[]) ok (by simpa [Z8c] using h) rfl rfl
 ·refine Zg6 100 ?_;dsimp only[go_sem];refine ⟨by simp,?_⟩;refine Zmc ML.row h trivial rfl rfl rfl ?_;refine Zg6 100 ?_;dsimp only[go_sem];refine ⟨by simp,?_⟩;exact Zae ML.row ok (rfl:some r=some r) rfl rfl
def Zhr:Bool→Option Bool
| x4=>some x4
def Zir (x1:ML) (x2:Int) (x3:Int):Option Bool:=
 ifb (decide (x1.From=x2)) (
 Zhr (decide (x1.To=x3))) (
 Zhr false)
theorem Zjr {x1 x2 x3 r} (h:Zir x1 x2 x3=some r):FPx 41 [.agg (ML.row x1),.elt (Z4d x2) 0,.elt (Z4d x3) 0] (.bv r):=by
 have ok:=oJ 41 Tryz.f41 [.t 4] 3 12;refine FP ok fun w0 H0=>?_;rw [Zir] at h;refine Vg 12 ?_;refine Vl [] (fun x4=>([(4,.bv x4)],[],[])) Zhr r ?_ fun J1=>?_
 ·intro x4 h;rw [Zhr] at h;exact W
 ·exact W
def Zkr:Unit→Option Bool
| ()=>some true
def Zlr (x1 x2:List NO) (p2:((NO×NO)→Option Bool)):Int→Option (Int ⊕ Bool)
| x7=>
 ifb (decide (x7<(ln NO.row x1))) (
 (at_ x1 x7).bind fun x8=>
 (at_ x2 x7).bind fun x9=>
 (p2 (x8,x9)).bind fun x10=>
 ifb (!x10) (
 Option.map Sum.inr (some false)) (
 some (.inl (wr (x7+1))))) (
 Option.map Sum.inr (Zkr ()))
def Zmr (x1 x2:List NO) (p2:((NO×NO)→Option Bool)):Option Bool:=
 ifb (!decide ((ln NO.row x1)=(ln NO.row x2))) (
 some false) (
 loop (Zlr x1 x2 p2) 0)
theorem Znr {x1 x2 g2 caps2 p2 r} (h:Zmr x1 x2 p2=some r) (hc2:CloOK Tryz.prog g2 caps2 (fun z=>[.agg (NO.row z.1),.agg (NO.row z.2)]) p2 (fun z=>.bv z)):FPx 48 [Z7k x1,Z7k x2,.clo g2 caps2] (.bv r):=by
 have ok:=oJ 48 Tryz.f48 [.t 6] 3 29;refine FP ok fun w0 H0=>?_;rw [Zmr] at h;refine Vg 13 ?_;refine MI h (fun h=>?_) fun h=>?_
 ·refine Vg 4 ?_;exact MD ok h
 ·refine Vg 8 ?_;refine Vk [] (fun _=>[]) Zkr r ?_ fun J1=>?_
  ·rintro ⟨⟩ h;rw [Zkr] at h;refine Vg 4 ?_;exact MD ok h
  ·refine Vg 1 ?_;refine Mk h [1,2,12,2] (fun x7=>[(17,.iv x7)]) ?_ (hok:=by intro x7;first | rfl | (simp [go_sem];done) | simp [go_sem,Zqb _ hc2.pu]);rintro n1 x7 y1 h hin1 hout1;rw [Zlr] at h;refine Vg 5 ?_;refine MI h (fun h=>?_) fun h=>?_
   ·refine Vg 6 ?_;have ⟨x8,ex8,h⟩:=Bs h;refine Zjc NO.row ex8 trivial rfl rfl rfl (Vg 9 ?_);have ⟨x9,ex9,h⟩:=Bs h;refine Zjc NO.row ex9 trivial rfl rfl rfl (Vg 9 ?_);have ⟨x10,ex10,h⟩:=Bs h;refine Z3d trivial rfl hc2 (x:=(x8,x9)) ex10 (by first | exact Zrb _ | simp [go_sem]) (by first | rfl | simp [go_sem,hc2.pu]) (Vg 2 ?_);refine MI h (fun h=>?_) fun h=>?_
    ·refine Vg 4 ?_;exact MD ok (Zec h hout1)
    ·refine Vg 6 ?_;exact Zsc h hin1 (hok:=by first | rfl | simp [go_sem,Zqb _ hc2.pu])
   ·refine Vg 1 ?_;exact Ztc J1 (Zec h hout1) (hok:=by first | rfl | simp [go_sem,Zqb _ hc2.pu])
@[go_sem] def Zor:EC:=.seq (.reg [Qa 14 (.bin .lss (.t 13) (.t 12))]) (.seq (.ite (.t 14) (.skip) (.exit 0)) (.seq (.blk 1 (.seq (.reg [Qm 15 13,Qm 5 15]) (.seq (.drw [Qm 16 0,Qm 17 5,Qk 18 5 16 17,Qe 19 5 18,Qm 20 1,Qm 21 5,Qk 22 5 20 21,Qe 23 5 22,Qa 24 (.eqs true [true,true,true,true,true] (.t 19) (.t 23))] [[],[],[0,1],[2,0,1],[],[],[4,5],[6,4,5],[3,7,2,0,1,6,4,5]] [[2],[2],[0,1,3],[2,8],[6],[6],[4,5,7],[6,8],[3,7]]) (.ite (.t 24) (.seq (.reg [Qa 4 (.mv (.c .ff))]) (.ret)) (.skip))))) (.reg [Qv 25 13 1,Qm 13 25])))
@[go_sem] def e50:EC:=.seq (.reg [Qa 4 (.mv (.c .ff))]) (.seq (.seq (.reg [Qm 6 0,Qa 7 (.len (.t 6)),Qm 8 1,Qa 9 (.len (.t 8)),Qa 10 (.bin .neq (.t 7) (.t 9))]) (.ite (.t 10) (.seq (.reg [Qa 4 (.mv (.c .ff))]) (.ret)) (.skip))) (.seq (.seq (.reg [Qm 11 0,Qa 12 (.len (.t 11)),Qi 13 0]) (.blk 0 (.loop Zor))) (.seq (.reg [Qa 4 (.mv (.c .tt))]) (.ret))))
def Zpr:Unit→Option Bool
| ()=>some true
def Zqr (x1 x2:List ML):Int→Option (Int ⊕ Bool)
| x6=>
 ifb (decide (x6<(ln ML.row x1))) (
 (at_ x1 x6).bind fun x7=>
 (at_ x2 x6).bind fun x8=>
 ifb (!(decide (x7.From=x8.From)&&(decide (x7.To=x8.To)&&(decide (x7.Msg.KI=x8.Msg.KI)&&(decide (x7.Msg.EP=x8.Msg.EP)&&(decide (x7.Msg.Num=x8.Msg.Num)&&true)))))) (
 Option.map Sum.inr (some false)) (
 some (.inl (wr (x6+1))))) (
 Option.map Sum.inr (Zpr ()))
def Zrr (x1 x2:List ML):Option Bool:=
 ifb (!decide ((ln ML.row x1)=(ln ML.row x2))) (
 some false) (
 loop (Zqr x1 x2) 0)
theorem Zsr {x1 x2 r} (h:Zrr x1 x2=some r):FPx 50 [Sp9 x1,Sp9 x2] (.bv r):=by
 have ok:=oK 50 Tryz.f50 e50 [.t 4] 2 24;refine FP ok fun w0 H0=>?_;rw [Zrr] at h;refine Vg 13 ?_;refine MI h (fun h=>?_) fun h=>?_
 ·exact W
 ·refine Vg 8 ?_;refine Vk [] (fun _=>[]) Zpr r ?_ fun J1=>?_
  ·rintro ⟨⟩ h;rw [Zpr] at h;exact W
  ·refine Vg 1 ?_;refine Mk h [0,2,10,1] (fun x6=>[(13,.iv x6)]) ?_;rintro n1 x6 y1 h hin1 hout1;rw [Zqr] at h;refine Vg 5 ?_;refine MI h (fun h=>?_) fun h=>?_
   ·refine Vg 9 ?_;have ⟨x7,ex7,h⟩:=Bs h;have ⟨x8,ex8,h⟩:=Bs h;refine Zgj fun all H=>Gs ?_;exact W
   ·exact W
@[go_sem] def e99:EC:=eQ Tryz.f99
theorem Ztr:FnOK Tryz.prog 99 Tryz.f99 e99 [.t 4] 2 7:=okA
def Zur (x1:List SX) (p1:(SX→Option Bool)):Option Bool:=
 (Zkk x1 p1).bind fun x2=>
 some (decide (0≤x2))
theorem Zvr {x1 g1 caps1 p1 r} (h:Zur x1 p1=some r) (hc1:CloOK Tryz.prog g1 caps1 (fun z=>[.agg (SX.row z)]) p1 (fun z=>.bv z)):FPx 99 [Sp3 x1,.clo g1 caps1] (.bv r):=by refine FP Ztr fun w0 H0=>?_;rw [Zur] at h;refine Vg 8 ?_;refine VB h (fun e=>Zlk e hc1) (fun _ _ h=>?_) (hp:=(by first | rfl | simp [go_sem,hc1.pu]));refine Vg 3 ?_;exact MD Ztr h
@[go_sem] def e107:EC:=eQ Tryz.f107
theorem Zwr:FnOK Tryz.prog 107 Tryz.f107 e107 [.t 4] 2 7:=okA
def Zxr (x1:List KE) (p1:(KE→Option Bool)):Option Bool:=
 (Zpk x1 p1).bind fun x2=>
 some (decide (0≤x2))
theorem Zyr {x1 g1 caps1 p1 r} (h:Zxr x1 p1=some r) (hc1:CloOK Tryz.prog g1 caps1 (fun z=>[.agg (KE.row z)]) p1 (fun z=>.bv z)):FPx 107 [Sp2 x1,.clo g1 caps1] (.bv r):=by refine FP Zwr fun w0 H0=>?_;rw [Zxr] at h;refine Vg 8 ?_;refine VB h (fun e=>Zqk e hc1) (fun _ _ h=>?_) (hp:=(by first | rfl | simp [go_sem,hc1.pu]));refine Vg 3 ?_;exact MD Zwr h
def Zzr (x1:List SE) (p1:(SE→Option Bool)):Option Bool:=
 (Zuk x1 p1).bind fun x2=>
 some (decide (0≤x2))
theorem Z0s {x1 g1 caps1 p1 r} (h:Zzr x1 p1=some r) (hc1:CloOK Tryz.prog g1 caps1 (fun z=>[.agg (SE.row z)]) p1 (fun z=>.bv z)):FPx 114 [Sp5 x1,.clo g1 caps1] (.bv r):=by have ok:=oJ 114 Tryz.f114 [.t 4] 2 7;refine FP ok fun w0 H0=>?_;rw [Zzr] at h;refine Vg 8 ?_;refine VB h (fun e=>Zvk e hc1) (fun _ _ h=>?_) (hp:=(by first | rfl | simp [go_sem,hc1.pu]));refine Vg 3 ?_;exact MD ok h
def Z1s (x1:List Int) (p1:(Int→Option Bool)):Option Bool:=
 (Zyk x1 p1).bind fun x2=>
 some (decide (0≤x2))
theorem Z2s {x1 g1 caps1 p1 r} (h:Z1s x1 p1=some r) (hc1:CloOK Tryz.prog g1 caps1 (fun z=>[.iv z]) p1 (fun z=>.bv z)):FPx 103 [Sp1 x1,.clo g1 caps1] (.bv r):=by have ok:=oJ 103 Tryz.f103 [.t 4] 2 7;refine FP ok fun w0 H0=>?_;rw [Z1s] at h;refine Vg 8 ?_;refine VB h (fun e=>Zzk e hc1) (fun _ _ h=>?_) (hp:=(by first | rfl | simp [go_sem,hc1.pu]));refine Vg 3 ?_;exact MD ok h
end
end NX
end Go.Proofs.YtgamgemlekpepaaGreat
