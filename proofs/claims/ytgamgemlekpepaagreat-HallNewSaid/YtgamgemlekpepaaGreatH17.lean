/-
  The function narthex/narthexref15.side: its code compiled, a model, and that the code answers as the model. Written by a program of ours (lb.py). No statement of the seat is proved here.
-/
import Derived.Test.YtgamgemlekpepaaGreatH15
set_option maxRecDepth 100000
set_option maxHeartbeats 4000000
namespace Go.Proofs.YtgamgemlekpepaaGreat
namespace NX
open Go
noncomputable section
@[go_sem] def e152:EC:=eQ Tryz.f152
def Z6q:Unit→Option Int
| ()=>some (-1)
def Z7q (x1:DK) (x2:Int):Int→Option (Int ⊕ Int)
| x5=>
 ifb (decide (x5<(ln Side.row x1.DI.SD))) (
 (at_ x1.DI.SD x5).bind fun x6=>
 ifb (decide (x6.Peer=x2)) (
 Option.map Sum.inr (some x5)) (
 some (.inl (wr (x5+1))))) (
 Option.map Sum.inr (Z6q ()))
def Z8q (x1:DK) (x2:Int):Option Int:=loop (Z7q x1 x2) 0
theorem Z9q {x1 x2 r} (h:Z8q x1 x2=some r):Zy6 Tryz.prog 152 [.agg (DK.row x1),.iv x2] (.iv r):=by
 have ok:=oK 152 Tryz.f152 e152 [.t 4] 2 22;refine FP ok fun w0 H0=>?_;rw [Z8q] at h;refine Vg 10 ?_;refine Vl [] (fun _=>([],[],[])) Z6q r ?_ fun J1=>?_
 ·rintro ⟨⟩ h;rw [Z6q] at h;exact W
 ·refine Vg 1 ?_;refine Mk h [1,2] (fun x5=>[(5,.iv x5)]) ?_;rintro n1 x5 y1 h hin1 hout1;rw [Z7q] at h;exact W
@[go_sem] def e153:EC:=eQ Tryz.f153
def Zaq (x1:List Int):Unit→Option Bool
| ()=>some (decide ((ln Z3d x1)≤64))
def Zbq (x7:Int):Bool→Option (Int ⊕ Bool)
| x11=>
 ifb x11 (
 Option.map Sum.inr (some false)) (
 some (.inl (wr (x7+1))))
def Zcq (x1:List Int):Int→Option (Int ⊕ Bool)
| x7=>
 ifb (decide (x7<(ln Z3d x1))) (
 (at_ x1 x7).bind fun x8=>
 ifb (decide (x8<0)) (
 (Zbq x7) true) (
 ifb (decide (0<x7)) (
 (at_ x1 (wr (x7-1))).bind fun x9=>
 (at_ x1 x7).bind fun x10=>
 (Zbq x7) (decide (x10≤x9))) (
 (Zbq x7) false))) (
 Option.map Sum.inr ((Zaq x1) ()))
def Zdq (x1:List Int):Option Bool:=loop (Zcq x1) 0
theorem Zeq {x1 r} (h:Zdq x1=some r):Zy6 Tryz.prog 153 [Sp1 x1] (.bv r):=by
 have ok:=oK 153 Tryz.f153 e153 [.t 2] 1 33;refine FP ok fun w0 H0=>?_;rw [Zdq] at h;refine Vg 9 ?_;refine Vk [0,1] (fun _=>[]) (Zaq x1) r ?_ fun J1=>?_
 ·rintro ⟨⟩ h;rw [Zaq] at h;exact W
 ·refine Vg 1 ?_;refine Mk h [0,1] (fun x7=>[(3,.iv x7)]) ?_;rintro n1 x7 y1 h hin1 hout1;rw [Zcq] at h;(try dsimp only);refine Vg 8 ?_;refine MI h (fun h=>?_) fun h=>?_
  ·refine Vg 4 ?_;refine Vk [0,1,2,1] (fun x11=>[(30,.bv x11)]) (Zbq x7) y1 ?_ fun J2=>?_
   ·intro x11 h;rw [Zbq] at h;exact W
   ·refine Zej fun all H=>?_;refine Gn H 2 19 ?_;have ⟨x8,ex8,h⟩:=Bs h;refine Zjc H.1 H.2.1 H.2.2.1 H.2.2.2 2 Z3d ex8 rfl rfl trivial rfl rfl rfl rfl (GP H 3 15 [6,15] [(13,[.iv x8,.bv (decide (x8<0)),.bv (decide (x8<0))])] (Ds ?_));refine Zcd 15 h rfl (fun _ h=>?_) fun _ h=>?_
    ·refine Ds (GP H 15 0 [21] [(16,[.un,.un,.un,.un,.un,.un,.un,.un,.un,.un,.un,.un,.un,.un,.tt])] (Ds ?_));refine GD ?_;exact W
    ·refine Ds (GP H 3 12 [9,12] [(16,[.iv x7,.bv (decide (0<x7)),.bv (decide (0<x7))])] (Ds ?_));refine Zcd 18 h rfl (fun _ h=>?_) fun _ h=>?_
     ·refine Ds (GP H 5 7 [12,2,2,5] [(19,[Sp1 x1,.iv x7,.iv (wr (x7-1))]),(2,[Sp1 x1,.iv x7])] (Ds ?_));have ⟨x9,ex9,h⟩:=Bs h;refine Zjc H.1 H.2.1 H.2.2.1 H.2.2.2 12 Z3d ex9 rfl rfl trivial rfl rfl rfl rfl (Gn H 1 5 ?_);have ⟨x10,ex10,h⟩:=Bs h;refine Zjc H.1 H.2.1 H.2.2.1 H.2.2.2 16 Z3d ex10 rfl rfl trivial rfl rfl rfl rfl (GP H 4 0 [21] [(27,[.iv x10,.bv (decide (x10≤x9)),.bv (decide (x10≤x9)),.bv (decide (x10≤x9))])] (Ds ?_));refine GD ?_;exact W
     ·refine Ds (GP H 12 0 [21] [(19,[.un,.un,.un,.un,.un,.un,.un,.un,.un,.un,.ff,.ff])] (Ds ?_));refine GD ?_;exact W
  ·exact W
@[go_sem] def e154:EC:=eQ Tryz.f154
def Zfq:Unit→Option Int
| ()=>some 0
def Zgq (x1:List KE) (x2:Int):Int→Option (Int ⊕ Int)
| x6=>
 ifb (decide (x6<(ln KE.row x1))) (
 (at_ x1 x6).bind fun x7=>
 ifb (decide (x7.Peer=x2)) (
 (at_ x1 x6).bind fun x8=>
 Option.map Sum.inr (some x8.Epoch)) (
 some (.inl (wr (x6+1))))) (
 Option.map Sum.inr (Zfq ()))
def Zhq (x1:List KE) (x2:Int):Option Int:=loop (Zgq x1 x2) 0
theorem Ziq {x1 x2 r} (h:Zhq x1 x2=some r):Zy6 Tryz.prog 154 [Sp2 x1,.iv x2] (.iv r):=by
 have ok:=oK 154 Tryz.f154 e154 [.t 4] 2 22;refine FP ok fun w0 H0=>?_;rw [Zhq] at h;refine Vg 9 ?_;refine Vk [] (fun _=>[]) Zfq r ?_ fun J1=>?_
 ·rintro ⟨⟩ h;rw [Zfq] at h;exact W
 ·refine Vg 1 ?_;refine Mk h [0,2] (fun x6=>[(5,.iv x6)]) ?_;rintro n1 x6 y1 h hin1 hout1;rw [Zgq] at h;exact W
@[go_sem] def e97:EC:=eQ Tryz.f97
def Zjq:List Int→Option (List Int)
| x19=>some x19
def Zkq (x8:Int):List Int→Option ((Int×List Int) ⊕ (List Int))
| x13=>some (.inl (wr (x8+1),x13))
def Zlq (x1:Node):(Int×List Int)→Option ((Int×List Int) ⊕ (List Int))
| (x8,x9)=>
 ifb (decide (x8<(ln Side.row x1.DK.DI.SD))) (
 (at_ x1.DK.DI.SD x8).bind fun x10=>
 ifb (decide (x10.State=0)) (
 (at_ x1.DK.DI.SD x8).bind fun x11=>
 (Z7c 8 x9 ([x11.Peer])).bind fun x12=>
 (Zkq x8) x12) (
 (Zkq x8) x9)) (
 Option.map Sum.inr (Zjq x9))
def Zmq (x1:Node):Option (List Int):=loop (Zlq x1) (0,([]:List Int))
theorem Znq {x1 r} (h:Zmq x1=some r):Zpd Tryz.prog 97 [.agg (Node.row x1)] 3 1 (List.map Z3d r):=by
 have ok:=oK 97 Tryz.f97 e97 [.t 2] 1 35;refine Zqd ok rfl fun w0 H0=>?_;rw [Zmq] at h;refine Vg 15 ?_;refine Vl [3,1] (fun x19=>([],[],[Sq4 x19])) Zjq r ?_ fun J1=>?_
 ·intro x19 h;rw [Zjq] at h;(try dsimp only);refine Vg 5 ?_;exact Z9e Z3d ok h rfl rfl
 ·refine Vg 1 ?_;refine Mm h [1,1,1,1] (fun s=>([(4,.iv s.1)],[],[],[(0,Sq4 s.2)])) ?_;rintro n1 ⟨x8,x9⟩ y1 h hin1 hout1;rw [Zlq] at h;(try dsimp only);refine Vg 11 ?_;refine MI h (fun h=>?_) fun h=>?_
  ·refine Vg 10 ?_;have ⟨x10,ex10,h⟩:=Bs h;refine Zic Side.row ex10 trivial rfl rfl rfl (Vg 4 ?_);refine Vm [1,1,1,2] (fun x13=>([],[],[],[(0,Sq4 x13)])) (Zkq x8) y1 ?_ fun J2=>?_
   ·intro x13 h;rw [Zkq] at h;exact W
   ·refine MI h (fun h=>?_) fun h=>?_
    ·refine Vg 7 ?_;have ⟨x11,ex11,h⟩:=Bs h;refine Zic Side.row ex11 trivial rfl rfl rfl (Vg 3 ?_);have ⟨x12,ex12,h⟩:=Bs h;refine Zlc Z3d ex12 trivial rfl rfl rfl (Vg 2 ?_);refine Zgj 2 0 ?_;exact W
    ·exact W
  ·exact W
theorem Zoq {x1 r} (h:Zmq x1=some r):Zy6 Tryz.prog 97 [.agg (Node.row x1)] (Sp1 r):=(Znq h).sealed
@[go_sem] def e27:EC:=eQ Tryz.f27
def Zpq:Bool→Option Bool
| x3=>some x3
def Zqq (x1:Hall) (x2:Int):Option Bool:=
 ifb (decide (0≤x2)) (
 Zpq (decide (x2<(ln Node.row x1.Nodes)))) (
 Zpq false)
theorem Zrq {x1 x2 r} (h:Zqq x1 x2=some r):Zy6 Tryz.prog 27 [.agg (Hall.row x1),.iv x2] (.bv r):=by
 have ok:=oK 27 Tryz.f27 e27 [.t 4] 2 12;refine FP ok fun w0 H0=>?_;rw [Zqq] at h;refine Vg 10 ?_;refine Vl [] (fun x3=>([(4,.bv x3)],[],[])) Zpq r ?_ fun J1=>?_
 ·intro x3 h;rw [Zpq] at h;exact W
 ·exact W
@[go_sem] def e40:EC:=eQ Tryz.f40
def Zsq:Unit→Option Int
| ()=>some (-1)
def Ztq (x1:List Mail) (p1:(Mail→Option Bool)):Int→Option (Int ⊕ Int)
| x5=>
 ifb (decide (x5<(ln Mail.row x1))) (
 (at_ x1 x5).bind fun x6=>
 (p1 x6).bind fun x7=>
 ifb x7 (
 Option.map Sum.inr (some x5)) (
 some (.inl (wr (x5+1))))) (
 Option.map Sum.inr (Zsq ()))
def Zuq (x1:List Mail) (p1:(Mail→Option Bool)):Option Int:=loop (Ztq x1 p1) 0
theorem Zvq {x1 g1 caps1 p1 r} (h:Zuq x1 p1=some r) (hc1:CloOK Tryz.prog g1 caps1 (fun z=>[.agg (Mail.row z)]) p1 (fun z=>.bv z)):Zy6 Tryz.prog 40 [Sp9 x1,.clo g1 caps1] (.iv r):=by
 have ok:=oK 40 Tryz.f40 e40 [.t 4] 2 17;refine FP ok fun w0 H0=>?_;rw [Zuq] at h;refine Vg 11 ?_;refine Vk [] (fun _=>[]) Zsq r ?_ fun J1=>?_
 ·rintro ⟨⟩ h;rw [Zsq] at h;(try dsimp only);refine Vg 4 ?_;exact MD ok h
 ·refine Vg 1 ?_;refine Mk h [0,2,5,1] (fun x5=>[(8,.iv x5)]) ?_ (hok:=by intro x5;first | rfl | (simp [go_sem];done) | simp [go_sem,Zpb _ hc1.pu]);rintro n1 x5 y1 h hin1 hout1;rw [Ztq] at h;(try dsimp only);refine Vg 5 ?_;refine MI h (fun h=>?_) fun h=>?_
  ·refine Vg 13 ?_;have ⟨x6,ex6,h⟩:=Bs h;refine Zic Mail.row ex6 trivial rfl rfl rfl (Vg 1 ?_);have ⟨x7,ex7,h⟩:=Bs h;refine Z2d trivial rfl hc1 (x:=x6) ex7 (by first | exact Zqb _ | simp [go_sem]) (by first | rfl | simp [go_sem,hc1.pu]) (Vg 1 ?_);refine MI h (fun h=>?_) fun h=>?_
   ·refine Vg 5 ?_;exact MD ok (Zdc h hout1)
   ·refine Vg 6 ?_;exact Zrc h hin1 (hok:=by first | rfl | simp [go_sem,Zpb _ hc1.pu])
  ·refine Vg 1 ?_;exact Zsc J1 (Zdc h hout1) (hok:=by first | rfl | simp [go_sem,Zpb _ hc1.pu])
@[go_sem] def e7:EC:=eQ Tryz.f7
def Zwq (x1:Graph):Option Graph:=
 (Z7c 16 (([]:List Edge)) x1.Edges).bind fun x2=>
 some (Graph.mk x1.N x2)
theorem Zxq {x1 r} (h:Zwq x1=some r):Zy6 Tryz.prog 7 [.agg (Graph.row x1)] (.agg (Graph.row r)):=by have ok:=oK 7 Tryz.f7 e7 [.c 2 (some 2)] 1 9;refine FP ok fun w0 H0=>?_;rw [Zwq] at h;refine Vg 6 ?_;refine Zej fun all H=>?_;refine Gn H 4 4 ?_;refine R1 ?_;refine Zma 5 rfl ?_;have ⟨x2,ex2,h⟩:=Bs h;refine GA Edge.row ex2 H.1 ?_;refine Gn H 1 1 ?_;refine R1 ?_;refine GD (Zhj 1 ?_);exact W
@[go_sem] def e74:EC:=eQ Tryz.f74
theorem Zyq:FnOK Tryz.prog 74 Tryz.f74 e74 [.t 4] 2 25:=okA
@[go_sem] def e63:EC:=eQ Tryz.f63
def Zzq (x1:List Node):Option (List Node):=Z7c 176 [] x1
theorem Z0r {x1 r} (h:Zzq x1=some r):Zpd Tryz.prog 63 [Zyj x1] 67 10 (List.map Node.row r):=by
 have ok:=oK 63 Tryz.f63 e63 [.t 2] 1 7;refine Zqd ok rfl fun w0 H0=>?_;rw [Zzq] at h;refine Zf6 100 ?_;dsimp only [e63,go_sem];refine ⟨by simp,?_⟩;refine Zod trivial rfl (fun hn=>?_) ?_
 ·refine Zf6 100 ?_;dsimp only[go_sem];refine ⟨by simp,?_⟩;refine Zbb 2 67 10 rfl rfl ?_;dsimp only[go_sem];have hn:x1=[]:=by simpa using hn
  subst hn;exact Z9e Node.row (e:=[]) ok (by simpa [Z7c] using h) rfl rfl
 ·refine Zf6 100 ?_;dsimp only[go_sem];refine ⟨by simp,?_⟩;refine Zlc Node.row h trivial rfl rfl rfl ?_;refine Zf6 100 ?_;dsimp only[go_sem];refine ⟨by simp,?_⟩;exact Z9e Node.row ok (rfl:some r=some r) rfl rfl
@[go_sem] def e45:EC:=eQ Tryz.f45
def Z1r (x1:List Mail):Option (List Mail):=Z7c 40 [] x1
theorem Z2r {x1 r} (h:Z1r x1=some r):Zpd Tryz.prog 45 [Sp9 x1] 53 5 (List.map Mail.row r):=by
 have ok:=oK 45 Tryz.f45 e45 [.t 2] 1 7;refine Zqd ok rfl fun w0 H0=>?_;rw [Z1r] at h;refine Zf6 100 ?_;dsimp only [e45,go_sem];refine ⟨by simp,?_⟩;refine Zod trivial rfl (fun hn=>?_) ?_
 ·refine Zf6 100 ?_;dsimp only[go_sem];refine ⟨by simp,?_⟩;refine Zbb 2 53 5 rfl rfl ?_;dsimp only[go_sem];have hn:x1=[]:=by simpa using hn
  subst hn;exact Z9e Mail.row (e:=[]) ok (by simpa [Z7c] using h) rfl rfl
 ·refine Zf6 100 ?_;dsimp only[go_sem];refine ⟨by simp,?_⟩;refine Zlc Mail.row h trivial rfl rfl rfl ?_;refine Zf6 100 ?_;dsimp only[go_sem];refine ⟨by simp,?_⟩;exact Z9e Mail.row ok (rfl:some r=some r) rfl rfl
@[go_sem] def e41:EC:=eQ Tryz.f41
def Z3r:Bool→Option Bool
| x4=>some x4
def Z4r (x1:Mail) (x2:Int) (x3:Int):Option Bool:=
 ifb (decide (x1.From=x2)) (
 Z3r (decide (x1.To=x3))) (
 Z3r false)
theorem Z5r {x1 x2 x3 r} (h:Z4r x1 x2 x3=some r):Zy6 Tryz.prog 41 [.agg (Mail.row x1),.elt (Z3d x2) 0,.elt (Z3d x3) 0] (.bv r):=by
 have ok:=oK 41 Tryz.f41 e41 [.t 4] 3 12;refine FP ok fun w0 H0=>?_;rw [Z4r] at h;refine Vg 12 ?_;refine Vl [] (fun x4=>([(4,.bv x4)],[],[])) Z3r r ?_ fun J1=>?_
 ·intro x4 h;rw [Z3r] at h;exact W
 ·exact W
@[go_sem] def e48:EC:=eQ Tryz.f48
def Z6r:Unit→Option Bool
| ()=>some true
def Z7r (x1 x2:List Node) (p2:((Node×Node)→Option Bool)):Int→Option (Int ⊕ Bool)
| x7=>
 ifb (decide (x7<(ln Node.row x1))) (
 (at_ x1 x7).bind fun x8=>
 (at_ x2 x7).bind fun x9=>
 (p2 (x8,x9)).bind fun x10=>
 ifb (!x10) (
 Option.map Sum.inr (some false)) (
 some (.inl (wr (x7+1))))) (
 Option.map Sum.inr (Z6r ()))
def Z8r (x1 x2:List Node) (p2:((Node×Node)→Option Bool)):Option Bool:=
 ifb (!decide ((ln Node.row x1)=(ln Node.row x2))) (
 some false) (
 loop (Z7r x1 x2 p2) 0)
theorem Z9r {x1 x2 g2 caps2 p2 r} (h:Z8r x1 x2 p2=some r) (hc2:CloOK Tryz.prog g2 caps2 (fun z=>[.agg (Node.row z.1),.agg (Node.row z.2)]) p2 (fun z=>.bv z)):Zy6 Tryz.prog 48 [Zyj x1,Zyj x2,.clo g2 caps2] (.bv r):=by
 have ok:=oK 48 Tryz.f48 e48 [.t 6] 3 29;refine FP ok fun w0 H0=>?_;rw [Z8r] at h;refine Vg 13 ?_;refine MI h (fun h=>?_) fun h=>?_
 ·refine Vg 4 ?_;exact MD ok h
 ·refine Vg 8 ?_;refine Vk [] (fun _=>[]) Z6r r ?_ fun J1=>?_
  ·rintro ⟨⟩ h;rw [Z6r] at h;(try dsimp only);refine Vg 4 ?_;exact MD ok h
  ·refine Vg 1 ?_;refine Mk h [1,2,12,2] (fun x7=>[(17,.iv x7)]) ?_ (hok:=by intro x7;first | rfl | (simp [go_sem];done) | simp [go_sem,Zpb _ hc2.pu]);rintro n1 x7 y1 h hin1 hout1;rw [Z7r] at h;(try dsimp only);refine Vg 5 ?_;refine MI h (fun h=>?_) fun h=>?_
   ·refine Vg 6 ?_;have ⟨x8,ex8,h⟩:=Bs h;refine Zic Node.row ex8 trivial rfl rfl rfl (Vg 9 ?_);have ⟨x9,ex9,h⟩:=Bs h;refine Zic Node.row ex9 trivial rfl rfl rfl (Vg 9 ?_);have ⟨x10,ex10,h⟩:=Bs h;refine Z2d trivial rfl hc2 (x:=(x8,x9)) ex10 (by first | exact Zqb _ | simp [go_sem]) (by first | rfl | simp [go_sem,hc2.pu]) (Vg 2 ?_);refine MI h (fun h=>?_) fun h=>?_
    ·refine Vg 4 ?_;exact MD ok (Zdc h hout1)
    ·refine Vg 6 ?_;exact Zrc h hin1 (hok:=by first | rfl | simp [go_sem,Zpb _ hc2.pu])
   ·refine Vg 1 ?_;exact Zsc J1 (Zdc h hout1) (hok:=by first | rfl | simp [go_sem,Zpb _ hc2.pu])
@[go_sem] def Zar:EC:=.seq (.reg [Qa 14 (.bin .lss (.t 13) (.t 12))]) (.seq (.ite (.t 14) (.skip) (.exit 0)) (.seq (.blk 1 (.seq (.reg [Qm 15 13,Qm 5 15]) (.seq (.drw [Qm 16 0,Qm 17 5,Qk 18 5 16 17,Qe 19 5 18,Qm 20 1,Qm 21 5,Qk 22 5 20 21,Qe 23 5 22,Qa 24 (.eqs true [true,true,true,true,true] (.t 19) (.t 23))] [[],[],[0,1],[2,0,1],[],[],[4,5],[6,4,5],[3,7,2,0,1,6,4,5]] [[2],[2],[0,1,3],[2,8],[6],[6],[4,5,7],[6,8],[3,7]]) (.ite (.t 24) (.seq (.reg [Qa 4 (.mv (.c .ff))]) (.ret)) (.skip))))) (.reg [Qv 25 13 1,Qm 13 25])))
@[go_sem] def e50:EC:=.seq (.reg [Qa 4 (.mv (.c .ff))]) (.seq (.seq (.reg [Qm 6 0,Qa 7 (.len (.t 6)),Qm 8 1,Qa 9 (.len (.t 8)),Qa 10 (.bin .neq (.t 7) (.t 9))]) (.ite (.t 10) (.seq (.reg [Qa 4 (.mv (.c .ff))]) (.ret)) (.skip))) (.seq (.seq (.reg [Qm 11 0,Qa 12 (.len (.t 11)),Qi 13 0]) (.blk 0 (.loop Zar))) (.seq (.reg [Qa 4 (.mv (.c .tt))]) (.ret))))
def Zbr:Unit→Option Bool
| ()=>some true
def Zcr (x1 x2:List Mail):Int→Option (Int ⊕ Bool)
| x6=>
 ifb (decide (x6<(ln Mail.row x1))) (
 (at_ x1 x6).bind fun x7=>
 (at_ x2 x6).bind fun x8=>
 ifb (!(decide (x7.From=x8.From)&&(decide (x7.To=x8.To)&&(decide (x7.Msg.Kind=x8.Msg.Kind)&&(decide (x7.Msg.Epoch=x8.Msg.Epoch)&&(decide (x7.Msg.Num=x8.Msg.Num)&&true)))))) (
 Option.map Sum.inr (some false)) (
 some (.inl (wr (x6+1))))) (
 Option.map Sum.inr (Zbr ()))
def Zdr (x1 x2:List Mail):Option Bool:=
 ifb (!decide ((ln Mail.row x1)=(ln Mail.row x2))) (
 some false) (
 loop (Zcr x1 x2) 0)
theorem Zer {x1 x2 r} (h:Zdr x1 x2=some r):Zy6 Tryz.prog 50 [Sp9 x1,Sp9 x2] (.bv r):=by
 have ok:=oK 50 Tryz.f50 e50 [.t 4] 2 24;refine FP ok fun w0 H0=>?_;rw [Zdr] at h;refine Vg 13 ?_;refine MI h (fun h=>?_) fun h=>?_
 ·exact W
 ·refine Vg 8 ?_;refine Vk [] (fun _=>[]) Zbr r ?_ fun J1=>?_
  ·rintro ⟨⟩ h;rw [Zbr] at h;exact W
  ·refine Vg 1 ?_;refine Mk h [0,2,10,1] (fun x6=>[(13,.iv x6)]) ?_;rintro n1 x6 y1 h hin1 hout1;rw [Zcr] at h;(try dsimp only);refine Vg 5 ?_;refine MI h (fun h=>?_) fun h=>?_
   ·refine Vg 9 ?_;have ⟨x7,ex7,h⟩:=Bs h;have ⟨x8,ex8,h⟩:=Bs h;refine Zej fun all H=>Gs ?_;exact W
   ·exact W
@[go_sem] def e99:EC:=eQ Tryz.f99
theorem Zfr:FnOK Tryz.prog 99 Tryz.f99 e99 [.t 4] 2 7:=okA
def Zgr (x1:List Side) (p1:(Side→Option Bool)):Option Bool:=
 (Zbk x1 p1).bind fun x2=>
 some (decide (0≤x2))
theorem Zhr {x1 g1 caps1 p1 r} (h:Zgr x1 p1=some r) (hc1:CloOK Tryz.prog g1 caps1 (fun z=>[.agg (Side.row z)]) p1 (fun z=>.bv z)):Zy6 Tryz.prog 99 [Sp3 x1,.clo g1 caps1] (.bv r):=by refine FP Zfr fun w0 H0=>?_;rw [Zgr] at h;refine Vg 8 ?_;refine VB h (fun e=>Zck e hc1) (fun _ _ h=>?_) (hp:=(by first | rfl | simp [go_sem,hc1.pu]));refine Vg 3 ?_;exact MD Zfr h
@[go_sem] def e107:EC:=eQ Tryz.f107
theorem Zir:FnOK Tryz.prog 107 Tryz.f107 e107 [.t 4] 2 7:=okA
def Zjr (x1:List KE) (p1:(KE→Option Bool)):Option Bool:=
 (Zgk x1 p1).bind fun x2=>
 some (decide (0≤x2))
theorem Zkr {x1 g1 caps1 p1 r} (h:Zjr x1 p1=some r) (hc1:CloOK Tryz.prog g1 caps1 (fun z=>[.agg (KE.row z)]) p1 (fun z=>.bv z)):Zy6 Tryz.prog 107 [Sp2 x1,.clo g1 caps1] (.bv r):=by refine FP Zir fun w0 H0=>?_;rw [Zjr] at h;refine Vg 8 ?_;refine VB h (fun e=>Zhk e hc1) (fun _ _ h=>?_) (hp:=(by first | rfl | simp [go_sem,hc1.pu]));refine Vg 3 ?_;exact MD Zir h
@[go_sem] def e114:EC:=eQ Tryz.f114
def Zlr (x1:List Sess) (p1:(Sess→Option Bool)):Option Bool:=
 (Zlk x1 p1).bind fun x2=>
 some (decide (0≤x2))
theorem Zmr {x1 g1 caps1 p1 r} (h:Zlr x1 p1=some r) (hc1:CloOK Tryz.prog g1 caps1 (fun z=>[.agg (Sess.row z)]) p1 (fun z=>.bv z)):Zy6 Tryz.prog 114 [Sp5 x1,.clo g1 caps1] (.bv r):=by have ok:=oK 114 Tryz.f114 e114 [.t 4] 2 7;refine FP ok fun w0 H0=>?_;rw [Zlr] at h;refine Vg 8 ?_;refine VB h (fun e=>Zmk e hc1) (fun _ _ h=>?_) (hp:=(by first | rfl | simp [go_sem,hc1.pu]));refine Vg 3 ?_;exact MD ok h
@[go_sem] def e103:EC:=eQ Tryz.f103
def Znr (x1:List Int) (p1:(Int→Option Bool)):Option Bool:=
 (Zpk x1 p1).bind fun x2=>
 some (decide (0≤x2))
theorem Zor {x1 g1 caps1 p1 r} (h:Znr x1 p1=some r) (hc1:CloOK Tryz.prog g1 caps1 (fun z=>[.iv z]) p1 (fun z=>.bv z)):Zy6 Tryz.prog 103 [Sp1 x1,.clo g1 caps1] (.bv r):=by have ok:=oK 103 Tryz.f103 e103 [.t 4] 2 7;refine FP ok fun w0 H0=>?_;rw [Znr] at h;refine Vg 8 ?_;refine VB h (fun e=>Zqk e hc1) (fun _ _ h=>?_) (hp:=(by first | rfl | simp [go_sem,hc1.pu]));refine Vg 3 ?_;exact MD ok h
def Zpr:Go.Shelf.Ren:=⟨(fun | 189=>166 | 125=>204 | 257=>203 | 128=>226 | 129=>227 | 294=>217 | 295=>218 | 296=>219 | 297=>220 | 298=>221 | 299=>222 | 216=>223 | 300=>224 | 301=>225 | 328=>236 | 329=>237 | 330=>238 | 331=>239 | 332=>240 | 215=>235 | 343=>245 | n=>n),(fun | 28=>40 | 3=>3 | 46=>221 | 0=>0 | 51=>262 | 53=>264 | 4=>4 | 183=>255 | 182=>254 | 131=>188 | 5=>5 | 9=>9 | 218=>268 | 222=>272 | 228=>277 | 229=>278 | n=>n),(fun | n=>n)⟩
theorem Zqr:Lays.n189 Tryz.prog Zpr where
 mixed:=by kernel_rfl
 f125:=Tryz.func204.trans (congrArg some (by kernel_rfl))
 f128:=Tryz.func226.trans (congrArg some (by kernel_rfl))
 f129:=Tryz.func227.trans (congrArg some (by kernel_rfl))
 f189:=Tryz.func166.trans (congrArg some (by kernel_rfl))
 f215:=Tryz.func235.trans (congrArg some (by kernel_rfl))
 f216:=Tryz.func223.trans (congrArg some (by kernel_rfl))
 f257:=Tryz.func203.trans (congrArg some (by kernel_rfl))
 f294:=Tryz.func217.trans (congrArg some (by kernel_rfl))
 f295:=Tryz.func218.trans (congrArg some (by kernel_rfl))
 f296:=Tryz.func219.trans (congrArg some (by kernel_rfl))
 f297:=Tryz.func220.trans (congrArg some (by kernel_rfl))
 f298:=Tryz.func221.trans (congrArg some (by kernel_rfl))
 f299:=Tryz.func222.trans (congrArg some (by kernel_rfl))
 f300:=Tryz.func224.trans (congrArg some (by kernel_rfl))
 f301:=Tryz.func225.trans (congrArg some (by kernel_rfl))
 f328:=Tryz.func236.trans (congrArg some (by kernel_rfl))
 f329:=Tryz.func237.trans (congrArg some (by kernel_rfl))
 f330:=Tryz.func238.trans (congrArg some (by kernel_rfl))
 f331:=Tryz.func239.trans (congrArg some (by kernel_rfl))
 f332:=Tryz.func240.trans (congrArg some (by kernel_rfl))
 f343:=Tryz.func245.trans (congrArg some (by kernel_rfl))
 t0:=Tryz.underlying0
 a0:=Tryz.isAgg0
 z0:=Tryz.sizeOf0
 v0:=Tryz.zeroValue0
 t3:=Tryz.underlying3
 a3:=Tryz.isAgg3
 z3:=Tryz.sizeOf3
 v3:=Tryz.zeroValue3
 t4:=Tryz.underlying4
 a4:=Tryz.isAgg4
 z4:=Tryz.sizeOf4
 v4:=Tryz.zeroValue4
 t5:=Tryz.underlying5
 a5:=Tryz.isAgg5
 z5:=Tryz.sizeOf5
 v5:=Tryz.zeroValue5
 t9:=Tryz.underlying9
 a9:=Tryz.isAgg9
 z9:=Tryz.sizeOf9
 v9:=Tryz.zeroValue9
 t28:=Tryz.underlying40
 a28:=Tryz.isAgg40
 z28:=Tryz.sizeOf40
 v28:=Tryz.zeroValue40
 t46:=Tryz.underlying221
 a46:=Tryz.isAgg221
 z46:=Tryz.sizeOf221
 v46:=Tryz.zeroValue221
 t51:=Tryz.underlying262
 a51:=Tryz.isAgg262
 z51:=Tryz.sizeOf262
 v51:=Tryz.zeroValue262
 t53:=Tryz.underlying264
 a53:=Tryz.isAgg264
 z53:=Tryz.sizeOf264
 v53:=Tryz.zeroValue264
 t131:=Tryz.underlying188
 a131:=Tryz.isAgg188
 z131:=Tryz.sizeOf188
 v131:=Tryz.zeroValue188
 t182:=Tryz.underlying254
 a182:=Tryz.isAgg254
 z182:=Tryz.sizeOf254
 v182:=Tryz.zeroValue254
 t183:=Tryz.underlying255
 a183:=Tryz.isAgg255
 z183:=Tryz.sizeOf255
 v183:=Tryz.zeroValue255
 t218:=Tryz.underlying268
 a218:=Tryz.isAgg268
 z218:=Tryz.sizeOf268
 v218:=Tryz.zeroValue268
 t222:=Tryz.underlying272
 a222:=Tryz.isAgg272
 z222:=Tryz.sizeOf272
 v222:=Tryz.zeroValue272
 t228:=Tryz.underlying277
 a228:=Tryz.isAgg277
 z228:=Tryz.sizeOf277
 v228:=Tryz.zeroValue277
 t229:=Tryz.underlying278
 a229:=Tryz.isAgg278
 z229:=Tryz.sizeOf278
 v229:=Tryz.zeroValue278
def Zrr:Go.Shelf.Ren:=⟨(fun | 20=>167 | n=>n),(fun | 22=>40 | 3=>3 | 4=>4 | 0=>0 | n=>n),(fun | n=>n)⟩
theorem Zsr:Lays2.n20 Tryz.prog Zrr where
 mixed:=by kernel_rfl
 f20:=Tryz.func167.trans (congrArg some (by kernel_rfl))
 t0:=Tryz.underlying0
 a0:=Tryz.isAgg0
 z0:=Tryz.sizeOf0
 v0:=Tryz.zeroValue0
 t3:=Tryz.underlying3
 a3:=Tryz.isAgg3
 z3:=Tryz.sizeOf3
 v3:=Tryz.zeroValue3
 t4:=Tryz.underlying4
 a4:=Tryz.isAgg4
 z4:=Tryz.sizeOf4
 v4:=Tryz.zeroValue4
 t22:=Tryz.underlying40
 a22:=Tryz.isAgg40
 z22:=Tryz.sizeOf40
 v22:=Tryz.zeroValue40
 i3:=by kernel_rfl
@[go_sem] def Ztr:EC:=eQ Tryz.f122
def Zur (x1:List Int):Option (List Int):=
 (Z0l x1).bind fun x2=>
 ifb (decide (x2.length<4611686018427387904)) (
 some (Lib.compact (x2.mergeSort fun x y=>decide (x≤y)))) none
theorem Zvr {x1 r} (h:Zur x1=some r):Zpd Tryz.prog 122 [Sp1 x1] 3 1 (List.map Z3d r):=by
 have ok:=oK 122 Tryz.f122 Ztr [.t 2] 1 9;refine Zqd ok rfl fun w0 H0=>?_;rw [Zur] at h;refine Zf6 100 ?_;dsimp only [Ztr,go_sem];refine ⟨by simp,?_⟩;have ⟨x2,ex2,h⟩:=Option.bind_eq_some_iff.1 h;refine Ztd trivial (Z1l ex2) (by first | exact Zqb _ | simp [go_sem]) (by first | rfl | simp [go_sem]) ?_;refine Zf6 100 ?_;dsimp only [Ztr,go_sem];refine ⟨by simp,?_⟩;by_cases hl:x2.length<4611686018427387904
 ·rw [show decide (x2.length<4611686018427387904)=true from decide_eq_true hl] at h;have h:some (Lib.compact (x2.mergeSort fun x y=>decide (x≤y)))=some r:=h;refine Z5k Zqr x2 trivial (by kernel_rfl) rfl rfl hl ?_;refine Zf6 100 ?_;dsimp only [Ztr,go_sem];refine ⟨by simp,?_⟩;refine Z7k Zsr (x2.mergeSort fun x y=>decide (x≤y)) trivial (by kernel_rfl) rfl rfl (by simpa using hl) ?_;refine Zf6 100 ?_;dsimp only [Ztr,go_sem];refine ⟨by simp,?_⟩;exact Z9e Z3d ok h rfl rfl
 ·rw [show decide (x2.length<4611686018427387904)=false from decide_eq_false hl] at h;cases h
theorem Zwr {x1 r} (h:Zur x1=some r):Zy6 Tryz.prog 122 [Sp1 x1] (Sp1 r):=(Zvr h).sealed
def Zxr:List Int→Option (List Int)
| x4=>some x4
def Zyr (x1:Int):Unit→Option (List Int)
| ()=>
 ifb (decide (0<(wr (x1-(wr (0-0)))))) (
 (Zpf 8 (wr (x1-(wr (0-0)))) 0).bind fun x2=>
 (Z8c x2 0 0).bind fun x3=>
 Zxr x3) (
 Zxr (([]:List Int)))
def Zzr (x1:Int):Option (List Int):=
 ifb (decide (x1<0)) (
 none) (
 (Zyr x1) ())
theorem Z0s {x1 r} (h:Zzr x1=some r):Z0f Tryz.prog 246 [.nl,.iv x1] [] [] (.osl 0) [] [Sq4 r]:=by
 refine FT Z3l fun w0 M0=>?_;have ok:=Z3l;rw [Zzr] at h;dsimp only[lun,List.cons_append,List.nil_append];refine Vg 10 ?_;refine Vk [0,2] (fun _=>[]) (Zyr x1) r ?_ fun J1=>?_
 ·rintro ⟨⟩ h;rw [Zyr] at h;(try dsimp only);refine Vg 5 ?_;refine Znf trivial rfl (Vg 11 ?_);refine Vl [] (fun x4=>([(0,.osl 0)],[],[Sq4 x4])) Zxr r ?_ fun J2=>?_
  ·intro x4 h;rw [Zxr] at h;(try dsimp only);refine Vg 5 ?_;obtain rfl:=Option.some.inj h;exact Zkj Z3l
  ·refine MI h (fun h=>?_) fun h=>?_
   ·refine Vg 3 ?_;refine Znf trivial rfl (Zkf trivial rfl rfl rfl (Vg 1 ?_));have ⟨x2,ex2,h⟩:=Bs h;refine Zrf Z3d ex2 trivial rfl rfl rfl rfl (Vg 2 ?_);have ⟨x3,ex3,h⟩:=Bs h;refine Zif Z3d ex3 trivial rfl rfl rfl rfl (Vg 2 ?_);refine Zgj 1 0 ?_;exact W
   ·refine Vg 1 ?_;refine Zbb 0 3 1 rfl rfl ?_;exact W
 ·refine MI h (fun h=>?_) fun h=>?_
  ·cases h
  ·exact W
@[go_sem] def e134:EC:=eQ Tryz.f134
def Z1s (x1:List Int) (x2:Int):Option Bool:=
 (Z6l x1 x2).bind fun x3=>
 some (decide (0≤x3))
theorem Z2s {x1 x2 r} (h:Z1s x1 x2=some r):Zy6 Tryz.prog 134 [Sp1 x1,.iv x2] (.bv r):=by have ok:=oK 134 Tryz.f134 e134 [.t 4] 2 7;refine FP ok fun w0 H0=>?_;rw [Z1s] at h;refine Vg 8 ?_;refine VB h Z7l fun _ _ h=>?_;exact W
@[go_sem] def e201:EC:=eQ Tryz.f201
theorem Z3s:FnOK Tryz.prog 201 Tryz.f201 e201 [.t 4] 2 40:=okA
@[go_sem] def e165:EC:=eQ Tryz.f165
theorem Z4s:FnOK Tryz.prog 165 Tryz.f165 e165 [.c 2 (some 2)] 1 27:=okA
def Z5s (x1 x2:Int) (x3:List Sess):List Sess→Option (List Sess)
| x11=>
 (vw_ (ln Sess.row x11) ((((Int.toNat (x1)-Int.toNat (0))+(Int.toNat (ln Sess.row x3)-Int.toNat (x2)):Nat):Int)) (ln Sess.row x3)).bind fun _=>
 (Zsg x11 (Int.toNat ((((Int.toNat (x1)-Int.toNat (0))+(Int.toNat (ln Sess.row x3)-Int.toNat (x2)):Nat):Int))) (Int.toNat (ln Sess.row x3)-Int.toNat ((((Int.toNat (x1)-Int.toNat (0))+(Int.toNat (ln Sess.row x3)-Int.toNat (x2)):Nat):Int))) (Sess.mk 0 (([]:List Int)) 0 0)).bind fun x13=>
 (Zug x13 ((Int.toNat (x1)-Int.toNat (0))+(Int.toNat (ln Sess.row x3)-Int.toNat (x2)))).bind fun x14=>
 some x14
def Z6s (x1 x2:Int) (x3:List Sess):Option (List Sess):=
 (vw_ (ln Sess.row x3) x1 x2).bind fun _=>
 (vw_ (ln Sess.row x3) x2 (ln Sess.row x3)).bind fun _=>
 ifb (decide (x1=x2)) (
 some x3) (
 (vw_ (ln Sess.row x3) 0 x1).bind fun _=>
 (vw_ (ln Sess.row x3) x2 (ln Sess.row x3)).bind fun _=>
 (Ztg x3 (Int.toNat (x1)-Int.toNat (0)) (Int.toNat (x2)) (Int.toNat (ln Sess.row x3)-Int.toNat (x2))).bind fun x10=>
 (Z5s x1 x2 x3) x10)
theorem Z7s {x1 x2 x3 r} (h:Z6s x1 x2 x3=some r):Z0f Tryz.prog 170 [.osl 0,.iv x1,.iv x2] [] [Zuj x3] (.osl 1) [] [none,Zuj r]:=by
 refine FT Zjl fun w0 M0=>?_;have ok:=Zjl;rw [Z6s] at h;dsimp only[lun,List.cons_append,List.nil_append];refine Vg 11 ?_;have ⟨x4,ex4,h⟩:=Bs h;have ⟨x5,ex5,h⟩:=Bs h;refine Zyg Sess.row ex4 ex5 trivial rfl rfl rfl rfl rfl (Vg 8 ?_);refine MI h (fun h=>?_) fun h=>?_
 ·refine Vg 5 ?_;refine Zjj 131 4 (Ds ?_);refine Zgj 0 1 (Ds ?_);obtain rfl:=Option.some.inj h;exact Zkj Zjl
 ·refine Vg 8 ?_;refine Vl [7,1] (fun x11=>([(0,.ocs 0 0 4 ((Int.toNat (x1)-Int.toNat (0))+(Int.toNat (ln Sess.row x3)-Int.toNat (x2))))],[],[Zuj x11])) (Z5s x1 x2 x3) r ?_ fun J1=>?_
  ·intro x11 h;rw [Z5s] at h;(try dsimp only);refine Vg 6 ?_;have ⟨x12,ex12,h⟩:=Bs h;refine Zxg Sess.row ex12 trivial rfl rfl rfl rfl ?_;have ⟨x13,ex13,h⟩:=Bs h;refine Zzg Sess.row ex13 trivial rfl rfl (by first | exact Zqb _ | simp [go_sem]) (by first | rfl | simp [go_sem]) rfl rfl (Vg 6 ?_);have ⟨x14,ex14,h⟩:=Bs h;refine Z1h 6 0 4 ((Int.toNat (x1)-Int.toNat (0))+(Int.toNat (ln Sess.row x3)-Int.toNat (x2))) Sess.row ex14 rfl rfl (Ds ?_);obtain rfl:=Option.some.inj h;exact Zkj Zjl
  ·refine Zej fun all H=>?_;refine Gn H 4 4 ?_;have ⟨x6,ex6,h⟩:=Bs h;have ⟨x7,ex7,h⟩:=Bs h;refine Zna 2 5 rfl ?_ ?_
   ·refine Zwg Sess.row ex6 H.1 rfl trivial rfl rfl rfl rfl (Ds ?_);refine Zma 5 rfl (Zwg Sess.row ex7 H.1 rfl trivial rfl rfl rfl rfl (Ds ?_));refine Zma 6 rfl ?_;have ⟨x10,ex10,h⟩:=Bs h;refine Z0h Sess.row ex10 H.1 rfl trivial rfl rfl rfl ?_;refine Gn H 1 0 ?_;refine GD ?_;exact W
   ·refine Zwg Sess.row ex7 H.1 rfl trivial rfl rfl rfl rfl (Ds ?_);refine Zma 2 rfl (Zwg Sess.row ex6 H.1 rfl trivial rfl rfl rfl rfl (Ds ?_));refine Zma 6 rfl ?_;have ⟨x10,ex10,h⟩:=Bs h;refine Z0h Sess.row ex10 H.1 rfl trivial rfl rfl rfl ?_;refine Gn H 1 0 ?_;refine GD ?_;exact W
@[go_sem] def e206:EC:=eQ Tryz.f206
def Z8s (x1:Book) (x2:Int):Option Int:=
 (Zlk x1.Sess ((fun z=>Zkl z x2))).bind fun x3=>
 some x3
theorem Z9s {x1 x2 r} (h:Z8s x1 x2=some r):Zy6 Tryz.prog 206 [.agg (Book.row x1),.iv x2] (.iv r):=by have ok:=oK 206 Tryz.f206 e206 [.t 4] 2 7;refine FP ok fun w0 H0=>?_;rw [Z8s] at h;refine Vg 11 ?_;refine VN (LR.block 1 rfl rfl) h (fun e=>Zmk e ⟨by kernel_rfl,rfl,fun z r hz=>Zll hz⟩) fun _ _ h=>?_;exact W
def Zas:Bool→Option Bool
| x5=>some x5
def Zbs (x1:Side):Bool→Option Bool
| x4=>
 ifb (!x4) (
 Zas true) (
 ifb (decide (x1.Epoch<0)) (
 Zas true) (
 ifb (decide (65535<x1.Epoch)) (
 Zas true) (
 ifb (decide (x1.State<0)) (
 Zas true) (
 ifb (decide (3<x1.State)) (
 Zas true) (
 ifb x1.DY (
 Zas (!x1.Fork)) (
 Zas false))))))
def Zcs (x1:Side) (x2:Int) (x3:DI):Option Bool:=
 ifb (decide (x2<x1.Peer)) (
 (Zbs x1) (!decide (x1.Peer=x3.ID))) (
 (Zbs x1) false)
theorem Zds {x1 x2 x3 r} (h:Zcs x1 x2 x3=some r):Z0f Tryz.prog 157 [.agg (Side.row x1),.ptr 0 0,.ptr 1 0] [some ⟨3,[.iv x2]⟩,some ⟨58,DI.row x3⟩] [] (.bv r) [some ⟨3,[.iv x1.Peer]⟩,some ⟨58,DI.row x3⟩] []:=by
 refine FT Z6m fun w0 M0=>?_;have ok:=Z6m;rw [Zcs] at h;dsimp only[lun,List.cons_append,List.nil_append];refine Vg 12 ?_;refine Vk [1,1,1,1] (fun x4=>[(5,.bv x4)]) (Zbs x1) r ?_ fun J1=>?_
 ·intro x4 h;rw [Zbs] at h;(try dsimp only);refine Vg 11 ?_;refine Vl [] (fun x5=>([(4,.bv x5)],[some ⟨3,[.iv x1.Peer]⟩,some ⟨58,DI.row x3⟩],[])) Zas r ?_ fun J2=>?_
  ·intro x5 h;rw [Zas] at h;(try dsimp only);obtain rfl:=Option.some.inj h;exact Zkj Z6m
  ·exact W
 ·exact W
def Zes (x1 x2:Int) (_x3 x4:Int) (x5:List Mail) (x6:List Side):Option (List Mail):=
 (at_ x6 x4).bind fun x7=>
 (Z7c 40 x5 ([Mail.mk x2 x7.Peer (Msg.mk x1 x7.Epoch 0)])).bind fun x8=>
 some x8
theorem Zfs {x1 x2 x3 x4 x5 x6 r} (h:Zes x1 x2 x3 x4 x5 x6=some r):Z0f Tryz.prog 242 [.iv x1,.ptr 0 0,.ptr 1 0,.ptr 2 0] [some ⟨27,[.osl 0]⟩,some ⟨58,[.iv x2,.iv x3,.osl 1]⟩,some ⟨249,[.oel 1 (Int.toNat (x4)*8) 0]⟩] [Sq6 x5,Zwj x6] (.tup []) [some ⟨27,[.osl 3]⟩,some ⟨58,[.iv x2,.iv x3,.osl 1]⟩,some ⟨249,[.oel 1 (Int.toNat (x4)*8) 0]⟩] [none,Zwj x6,none,Sq6 r]:=by refine FT Zgm fun w0 M0=>?_;rw [Zes] at h;dsimp only[lun,List.cons_append,List.nil_append];have ⟨x7,ex7,h⟩:=Bs h;have ⟨x8,ex8,h⟩:=Bs h;refine Zej fun all H=>Gs ?_;obtain rfl:=Option.some.inj h;exact Zlj Zgm
@[go_sem] def e185:EC:=eQ Tryz.f185
theorem Zgs:FnOK Tryz.prog 185 Tryz.f185 e185 [.c 2 (some 5)] 1 13:=okA
@[go_sem] def e142:EC:=eQ Tryz.f142
def Zhs:Bool→Option Bool
| x4=>some x4
def Zis (x1 x2:DI):Option Bool:=
 ifb (decide (x1.ID=x2.ID)) (
 ifb (decide (x1.PH=x2.PH)) (
 (Zpl x1.SD x2.SD).bind fun x3=>
 Zhs x3) (
 Zhs false)) (
 Zhs false)
theorem Zjs {x1 x2 r} (h:Zis x1 x2=some r):Zy6 Tryz.prog 142 [.agg (DI.row x1),.agg (DI.row x2)] (.bv r):=by
 have ok:=oK 142 Tryz.f142 e142 [.t 4] 2 22;refine FP ok fun w0 H0=>?_;rw [Zis] at h;refine Vg 14 ?_;refine Vl [] (fun x4=>([(4,.bv x4)],[],[])) Zhs r ?_ fun J1=>?_
 ·intro x4 h;rw [Zhs] at h;exact W
 ·refine MC 10 h (fun h=>?_) fun h=>?_
  ·refine Vg 7 ?_;refine MC 17 h (fun h=>?_) fun h=>?_
   ·refine Vg 4 ?_;refine VB h Zql fun _ _ h=>?_;exact W
   ·exact W
  ·exact W
@[go_sem] def e52:EC:=eQ Tryz.f52
theorem Zks:FnOK Tryz.prog 52 Tryz.f52 e52 [.c 2 (some 10)] 1 58:=okA
@[go_sem] def e117:EC:=eQ Tryz.f117
theorem Zls:FnOK Tryz.prog 117 Tryz.f117 e117 [.t 2] 1 4:=okA
def Zms (x1:Node):Option (List Int):=
 (Zxm x1 ((fun z=>Zzm z))).bind fun x2=>
 some x2
theorem Zns {x1 r} (h:Zms x1=some r):Zy6 Tryz.prog 117 [.agg (Node.row x1)] (Sp1 r):=by refine FP Zls fun w0 H0=>?_;have ok:=Zls;rw [Zms] at h;refine Vg 8 ?_;refine VB h (fun e=>Zym e ⟨by kernel_rfl,rfl,fun z r hz=>Z0n hz⟩) fun _ _ h=>?_;exact W
@[go_sem] def e123:EC:=eQ Tryz.f123
theorem Zos:FnOK Tryz.prog 123 Tryz.f123 e123 [.t 6] 3 19:=okA
end
end NX
end Go.Proofs.YtgamgemlekpepaaGreat
