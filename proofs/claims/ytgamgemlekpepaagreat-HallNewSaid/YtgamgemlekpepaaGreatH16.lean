/-
  The function (*narthex/node.node).edge: its code compiled, a model, and that the code answers as the model. Written by a program of ours (lb.py). No statement of the seat is proved here.
-/
import Derived.Test.YtgamgemlekpepaaGreatH14
set_option maxRecDepth 100000
set_option maxHeartbeats 4000000
namespace Go.Proofs.YtgamgemlekpepaaGreat
namespace NX
open Go
noncomputable section
@[go_sem] def e81:EC:=eQ Tryz.f81
theorem Zln:FnOK Tryz.prog 81 Tryz.f81 e81 [] 3 22:=okA
@[go_sem] def e210:EC:=eQ Tryz.f210
theorem Zmn:FnOK Tryz.prog 210 Tryz.f210 e210 [] 3 26:=okA
@[go_sem] def e161:EC:=eQ Tryz.f161
def Znn (x1:Side):Option Bool:=some (decide (x1.State=1))
theorem Zon {x1 r} (h:Znn x1=some r):Zy6 Tryz.prog 161 [.agg (Side.row x1)] (.bv r):=by have ok:=oK 161 Tryz.f161 e161 [.t 2] 1 5;refine FP ok fun w0 H0=>?_;rw [Znn] at h;exact W
@[go_sem] def e141:EC:=eQ Tryz.f141
def Zpn (x1:Side) (x2:Int):Option Bool:=some (decide (x1.Peer=x2))
theorem Zqn {x1 x2 r} (h:Zpn x1 x2=some r):Zy6 Tryz.prog 141 [.agg (Side.row x1),.elt (Z3d x2) 0] (.bv r):=by have ok:=oK 141 Tryz.f141 e141 [.t 3] 2 6;refine FP ok fun w0 H0=>?_;rw [Zpn] at h;exact W
@[go_sem] def e143:EC:=eQ Tryz.f143
def Zrn:Unit→Option Bool
| ()=>some true
def Zsn (x1 x2:List Sess) (p2:((Sess×Sess)→Option Bool)):Int→Option (Int ⊕ Bool)
| x7=>
 ifb (decide (x7<(ln Sess.row x1))) (
 (at_ x1 x7).bind fun x8=>
 (at_ x2 x7).bind fun x9=>
 (p2 (x8,x9)).bind fun x10=>
 ifb (!x10) (
 Option.map Sum.inr (some false)) (
 some (.inl (wr (x7+1))))) (
 Option.map Sum.inr (Zrn ()))
def Ztn (x1 x2:List Sess) (p2:((Sess×Sess)→Option Bool)):Option Bool:=
 ifb (!decide ((ln Sess.row x1)=(ln Sess.row x2))) (
 some false) (
 loop (Zsn x1 x2 p2) 0)
theorem Zun {x1 x2 g2 caps2 p2 r} (h:Ztn x1 x2 p2=some r) (hc2:CloOK Tryz.prog g2 caps2 (fun z=>[.agg (Sess.row z.1),.agg (Sess.row z.2)]) p2 (fun z=>.bv z)):Zy6 Tryz.prog 143 [Sp5 x1,Sp5 x2,.clo g2 caps2] (.bv r):=by
 have ok:=oK 143 Tryz.f143 e143 [.t 6] 3 29;refine FP ok fun w0 H0=>?_;rw [Ztn] at h;refine Vg 13 ?_;refine MI h (fun h=>?_) fun h=>?_
 ·refine Vg 4 ?_;exact MD ok h
 ·refine Vg 8 ?_;refine Vk [] (fun _=>[]) Zrn r ?_ fun J1=>?_
  ·rintro ⟨⟩ h;rw [Zrn] at h;(try dsimp only);refine Vg 4 ?_;exact MD ok h
  ·refine Vg 1 ?_;refine Mk h [1,2,12,2] (fun x7=>[(17,.iv x7)]) ?_ (hok:=by intro x7;first | rfl | (simp [go_sem];done) | simp [go_sem,Zpb _ hc2.pu]);rintro n1 x7 y1 h hin1 hout1;rw [Zsn] at h;(try dsimp only);refine Vg 5 ?_;refine MI h (fun h=>?_) fun h=>?_
   ·refine Vg 6 ?_;have ⟨x8,ex8,h⟩:=Bs h;refine Zic Sess.row ex8 trivial rfl rfl rfl (Vg 9 ?_);have ⟨x9,ex9,h⟩:=Bs h;refine Zic Sess.row ex9 trivial rfl rfl rfl (Vg 9 ?_);have ⟨x10,ex10,h⟩:=Bs h;refine Z2d trivial rfl hc2 (x:=(x8,x9)) ex10 (by first | exact Zqb _ | simp [go_sem]) (by first | rfl | simp [go_sem,hc2.pu]) (Vg 2 ?_);refine MI h (fun h=>?_) fun h=>?_
    ·refine Vg 4 ?_;exact MD ok (Zdc h hout1)
    ·refine Vg 6 ?_;exact Zrc h hin1 (hok:=by first | rfl | simp [go_sem,Zpb _ hc2.pu])
   ·refine Vg 1 ?_;exact Zsc J1 (Zdc h hout1) (hok:=by first | rfl | simp [go_sem,Zpb _ hc2.pu])
@[go_sem] def Zvn:EC:=.seq (.reg [Qa 14 (.bin .lss (.t 13) (.t 12))]) (.seq (.ite (.t 14) (.skip) (.exit 0)) (.seq (.blk 1 (.seq (.reg [Qm 15 13,Qm 5 15]) (.seq (.drw [Qm 16 0,Qm 17 5,Qk 18 2 16 17,Qe 19 2 18,Qm 20 1,Qm 21 5,Qk 22 2 20 21,Qe 23 2 22,Qa 24 (.eqs true [true,true] (.t 19) (.t 23))] [[],[],[0,1],[2,0,1],[],[],[4,5],[6,4,5],[3,7,2,0,1,6,4,5]] [[2],[2],[0,1,3],[2,8],[6],[6],[4,5,7],[6,8],[3,7]]) (.ite (.t 24) (.seq (.reg [Qa 4 (.mv (.c .ff))]) (.ret)) (.skip))))) (.reg [Qv 25 13 1,Qm 13 25])))
@[go_sem] def e85:EC:=.seq (.reg [Qa 4 (.mv (.c .ff))]) (.seq (.seq (.reg [Qm 6 0,Qa 7 (.len (.t 6)),Qm 8 1,Qa 9 (.len (.t 8)),Qa 10 (.bin .neq (.t 7) (.t 9))]) (.ite (.t 10) (.seq (.reg [Qa 4 (.mv (.c .ff))]) (.ret)) (.skip))) (.seq (.seq (.reg [Qm 11 0,Qa 12 (.len (.t 11)),Qi 13 0]) (.blk 0 (.loop Zvn))) (.seq (.reg [Qa 4 (.mv (.c .tt))]) (.ret))))
def Zwn:Unit→Option Bool
| ()=>some true
def Zxn (x1 x2:List KE):Int→Option (Int ⊕ Bool)
| x6=>
 ifb (decide (x6<(ln KE.row x1))) (
 (at_ x1 x6).bind fun x7=>
 (at_ x2 x6).bind fun x8=>
 ifb (!(decide (x7.Peer=x8.Peer)&&(decide (x7.Epoch=x8.Epoch)&&true))) (
 Option.map Sum.inr (some false)) (
 some (.inl (wr (x6+1))))) (
 Option.map Sum.inr (Zwn ()))
def Zyn (x1 x2:List KE):Option Bool:=
 ifb (!decide ((ln KE.row x1)=(ln KE.row x2))) (
 some false) (
 loop (Zxn x1 x2) 0)
theorem Zzn {x1 x2 r} (h:Zyn x1 x2=some r):Zy6 Tryz.prog 85 [Sp2 x1,Sp2 x2] (.bv r):=by
 have ok:=oK 85 Tryz.f85 e85 [.t 4] 2 24;refine FP ok fun w0 H0=>?_;rw [Zyn] at h;refine Vg 13 ?_;refine MI h (fun h=>?_) fun h=>?_
 ·exact W
 ·refine Vg 8 ?_;refine Vk [] (fun _=>[]) Zwn r ?_ fun J1=>?_
  ·rintro ⟨⟩ h;rw [Zwn] at h;exact W
  ·refine Vg 1 ?_;refine Mk h [0,2,10,1] (fun x6=>[(13,.iv x6)]) ?_;rintro n1 x6 y1 h hin1 hout1;rw [Zxn] at h;(try dsimp only);refine Vg 5 ?_;refine MI h (fun h=>?_) fun h=>?_
   ·refine Vg 9 ?_;have ⟨x7,ex7,h⟩:=Bs h;have ⟨x8,ex8,h⟩:=Bs h;refine Zej fun all H=>Gs ?_;exact W
   ·exact W
@[go_sem] def e106:EC:=eQ Tryz.f106
theorem Z0o:FnOK Tryz.prog 106 Tryz.f106 e106 [.t 3] 2 26:=okA
@[go_sem] def e67:EC:=eQ Tryz.f67
def Z1o:Unit→Option Int
| ()=>some 0
def Z2o (x1:Node) (x2:Int):Int→Option (Int ⊕ Int)
| x5=>
 ifb (decide (x5<(ln KE.row x1.KN))) (
 (at_ x1.KN x5).bind fun x6=>
 ifb (decide (x6.Peer=x2)) (
 Option.map Sum.inr (some x6.Epoch)) (
 some (.inl (wr (x5+1))))) (
 Option.map Sum.inr (Z1o ()))
def Z3o (x1:Node) (x2:Int):Option Int:=loop (Z2o x1 x2) 0
theorem Z4o {x1 x2 r} (h:Z3o x1 x2=some r):Zy6 Tryz.prog 67 [.agg (Node.row x1),.iv x2] (.iv r):=by
 have ok:=oK 67 Tryz.f67 e67 [.t 4] 2 19;refine FP ok fun w0 H0=>?_;rw [Z3o] at h;refine Vg 13 ?_;refine Vl [] (fun _=>([],[],[])) Z1o r ?_ fun J1=>?_
 ·rintro ⟨⟩ h;rw [Z1o] at h;exact W
 ·refine Vg 1 ?_;refine Ml h [1,1,6,2] (fun x5=>([(10,.iv x5)],[],[])) ?_;rintro n1 x5 y1 h hin1 hout1;rw [Z2o] at h;exact W
@[go_sem] def e137:EC:=eQ Tryz.f137
def Z5o (x1:Side) (x2:KE):Option Bool:=some (decide (x1.Peer=x2.Peer))
theorem Z6o {x1 x2 r} (h:Z5o x1 x2=some r):Zy6 Tryz.prog 137 [.agg (Side.row x1),.elt (KE.row x2) 0] (.bv r):=by have ok:=oK 137 Tryz.f137 e137 [.t 3] 2 7;refine FP ok fun w0 H0=>?_;rw [Z5o] at h;exact W
@[go_sem] def e138:EC:=eQ Tryz.f138
def Z7o (x1 x2:KE):Option Bool:=some (decide (x1.Peer=x2.Peer))
theorem Z8o {x1 x2 r} (h:Z7o x1 x2=some r):Zy6 Tryz.prog 138 [.agg (KE.row x1),.elt (KE.row x2) 0] (.bv r):=by have ok:=oK 138 Tryz.f138 e138 [.t 3] 2 7;refine FP ok fun w0 H0=>?_;rw [Z7o] at h;exact W
@[go_sem] def e111:EC:=eQ Tryz.f111
def Z9o (x1:Side):Option Bool:=some (decide (x1.State=3))
theorem Zao {x1 r} (h:Z9o x1=some r):Zy6 Tryz.prog 111 [.agg (Side.row x1)] (.bv r):=by have ok:=oK 111 Tryz.f111 e111 [.t 2] 1 5;refine FP ok fun w0 H0=>?_;rw [Z9o] at h;exact W
@[go_sem] def e186:EC:=eQ Tryz.f186
def Zbo:Bool→Option Bool
| x4=>some x4
def Zco (x1:Side) (x2:Int) (x3:Msg):Option Bool:=
 ifb (decide (x1.Peer=x2)) (
 Zbo (decide (x1.Epoch=x3.Epoch))) (
 Zbo false)
theorem Zdo {x1 x2 x3 r} (h:Zco x1 x2 x3=some r):Zy6 Tryz.prog 186 [.agg (Side.row x1),.elt (Z3d x2) 0,.elt (Msg.row x3) 0] (.bv r):=by
 have ok:=oK 186 Tryz.f186 e186 [.t 4] 3 13;refine FP ok fun w0 H0=>?_;rw [Zco] at h;refine Vg 12 ?_;refine Vl [] (fun x4=>([(4,.bv x4)],[],[])) Zbo r ?_ fun J1=>?_
 ·intro x4 h;rw [Zbo] at h;exact W
 ·exact W
@[go_sem] def e75:EC:=eQ Tryz.f75
def Zeo:Bool→Option Bool
| x7=>some x7
def Zfo (x1 x2:Int) (x3:node_node) (x4:Msg):Option Bool:=
 ifb (decide (0≤x2)) (
 (at_ x3.Node.DK.DI.SD x2).bind fun x5=>
 ifb (decide (x5.Epoch=x4.Epoch)) (
 (at_ x3.Node.DK.DI.SD x2).bind fun x6=>
 Zeo (decide (x6.State=x1))) (
 Zeo false)) (
 Zeo false)
theorem Zgo {x1 x2 x3 x4 r} (h:Zfo x1 x2 x3 x4=some r):Zy6 Tryz.prog 75 [.iv x1,.elt (Z3d x2) 0,.elt ((Zqh node_node.row) x3) 0,.elt (Msg.row x4) 0] (.bv r):=by
 have ok:=oK 75 Tryz.f75 e75 [.t 5] 4 35;refine FP ok fun w0 H0=>?_;rw [Zfo] at h;refine Vg 5 ?_;refine Vk [] (fun x7=>[(5,.bv x7)]) Zeo r ?_ fun J1=>?_
 ·intro x7 h;rw [Zeo] at h;exact W
 ·refine Zej fun all H=>Ds (GP H 3 31 [3,31] [(6,[.iv x2,.bv (decide (0≤x2)),.bv (decide (0≤x2))])] (Ds ?_));refine Zcd 8 h rfl (fun _ h=>?_) fun _ h=>?_
  ·refine Ds (GP H 10 21 [11,3,2,18] [(9,[.elt (node_node.row x3) 0,.elt (node_node.row x3) 0,.elt (node_node.row x3) 0,.elt (node_node.row x3) 0,.elt (node_node.row x3) 0,.elt (node_node.row x3) 2,Sp3 x3.Node.DK.DI.SD,.iv x2]),(3,[.elt (Msg.row x4) 1,.iv x4.Epoch])] (Ds ?_));have ⟨x5,ex5,h⟩:=Bs h;refine Zjc H.1 H.2.1 H.2.2.1 H.2.2.2 11 Side.row ex5 rfl rfl trivial rfl rfl rfl rfl (GP H 5 15 [19,15] [(18,[.elt (Side.row x5) 1,.iv x5.Epoch]),(2,[.bv (decide (x5.Epoch=x4.Epoch)),.bv (decide (x5.Epoch=x4.Epoch)),.bv (decide (x5.Epoch=x4.Epoch))])] (Ds ?_));refine Zcd 24 h rfl (fun _ h=>?_) fun _ h=>?_
   ·refine Ds (GP H 9 6 [27,3,1,3] [(25,[.elt (node_node.row x3) 0,.elt (node_node.row x3) 0,.elt (node_node.row x3) 0,.elt (node_node.row x3) 0,.elt (node_node.row x3) 0,.elt (node_node.row x3) 2,Sp3 x3.Node.DK.DI.SD,.iv x2]),(3,[.iv x1])] (Ds ?_));have ⟨x6,ex6,h⟩:=Bs h;refine Zjc H.1 H.2.1 H.2.2.1 H.2.2.2 27 Side.row ex6 rfl rfl trivial rfl rfl rfl rfl (GP H 5 0 [34] [(5,[.bv (decide (x6.State=x1))]),(28,[.elt (Side.row x6) 2,.iv x6.State]),(1,[.bv (decide (x6.State=x1)),.bv (decide (x6.State=x1))])] (Ds ?_));refine GD ?_;exact W
   ·refine Ds (GP H 15 0 [34] [(38,[.ff])] (Ds ?_));refine GD ?_;exact W
  ·refine Ds (GP H 31 0 [34] [(23,[.ff,.ff]),(13,[.ff])] (Ds ?_));refine GD ?_;exact W
@[go_sem] def e214:EC:=eQ Tryz.f214
def Zho:Unit→Option Int
| ()=>some (-1)
def Zio (x1:List Edge) (p1:(Edge→Option Bool)):Int→Option (Int ⊕ Int)
| x5=>
 ifb (decide (x5<(ln Edge.row x1))) (
 (at_ x1 x5).bind fun x6=>
 (p1 x6).bind fun x7=>
 ifb x7 (
 Option.map Sum.inr (some x5)) (
 some (.inl (wr (x5+1))))) (
 Option.map Sum.inr (Zho ()))
def Zjo (x1:List Edge) (p1:(Edge→Option Bool)):Option Int:=loop (Zio x1 p1) 0
theorem Zko {x1 g1 caps1 p1 r} (h:Zjo x1 p1=some r) (hc1:CloOK Tryz.prog g1 caps1 (fun z=>[.agg (Edge.row z)]) p1 (fun z=>.bv z)):Zy6 Tryz.prog 214 [Sp8 x1,.clo g1 caps1] (.iv r):=by
 have ok:=oK 214 Tryz.f214 e214 [.t 4] 2 17;refine FP ok fun w0 H0=>?_;rw [Zjo] at h;refine Vg 11 ?_;refine Vk [] (fun _=>[]) Zho r ?_ fun J1=>?_
 ·rintro ⟨⟩ h;rw [Zho] at h;(try dsimp only);refine Vg 4 ?_;exact MD ok h
 ·refine Vg 1 ?_;refine Mk h [0,2,5,1] (fun x5=>[(8,.iv x5)]) ?_ (hok:=by intro x5;first | rfl | (simp [go_sem];done) | simp [go_sem,Zpb _ hc1.pu]);rintro n1 x5 y1 h hin1 hout1;rw [Zio] at h;(try dsimp only);refine Vg 5 ?_;refine MI h (fun h=>?_) fun h=>?_
  ·refine Vg 13 ?_;have ⟨x6,ex6,h⟩:=Bs h;refine Zic Edge.row ex6 trivial rfl rfl rfl (Vg 1 ?_);have ⟨x7,ex7,h⟩:=Bs h;refine Z2d trivial rfl hc1 (x:=x6) ex7 (by first | exact Zqb _ | simp [go_sem]) (by first | rfl | simp [go_sem,hc1.pu]) (Vg 1 ?_);refine MI h (fun h=>?_) fun h=>?_
   ·refine Vg 5 ?_;exact MD ok (Zdc h hout1)
   ·refine Vg 6 ?_;exact Zrc h hin1 (hok:=by first | rfl | simp [go_sem,Zpb _ hc1.pu])
  ·refine Vg 1 ?_;exact Zsc J1 (Zdc h hout1) (hok:=by first | rfl | simp [go_sem,Zpb _ hc1.pu])
@[go_sem] def e190:EC:=eQ Tryz.f190
def Zlo:Bool→Option Bool
| x3=>some x3
def Zmo (x1:Edge) (x2:Graph):Option Bool:=
 ifb (decide (x1.A<0)) (
 Zlo true) (
 ifb (decide (x1.B≤x1.A)) (
 Zlo true) (
 Zlo (decide (x2.N≤x1.B))))
theorem Zno {x1 x2 r} (h:Zmo x1 x2=some r):Zy6 Tryz.prog 190 [.agg (Edge.row x1),.elt (Graph.row x2) 0] (.bv r):=by
 have ok:=oK 190 Tryz.f190 e190 [.t 3] 2 19;refine FP ok fun w0 H0=>?_;rw [Zmo] at h;refine Vg 11 ?_;refine Vl [] (fun x3=>([(3,.bv x3)],[],[])) Zlo r ?_ fun J1=>?_
 ·intro x3 h;rw [Zlo] at h;exact W
 ·exact W
@[go_sem] def e235:EC:=eQ Tryz.f235
def Zoo (x1:Int):Option Bool:=some (!decide (x1=x1))
theorem Zpo {x1 r} (h:Zoo x1=some r):Zy6 Tryz.prog 235 [.iv x1] (.bv r):=by have ok:=oK 235 Tryz.f235 e235 [.t 2] 1 5;refine FP ok fun w0 H0=>?_;rw [Zoo] at h;exact W
@[go_sem] def e215:EC:=eQ Tryz.f215
def Zqo:Unit→Option Int
| ()=>some 0
def Zro (x1:List Int):Int→Option (Int ⊕ Int)
| x4=>
 ifb (decide (x4<(ln Z3d x1))) (
 (at_ x1 x4).bind fun x5=>
 ifb (!decide (x5=0)) (
 Option.map Sum.inr (some x5)) (
 some (.inl (wr (x4+1))))) (
 Option.map Sum.inr (Zqo ()))
def Zso (x1:List Int):Option Int:=loop (Zro x1) 0
theorem Zto {x1 r} (h:Zso x1=some r):Zy6 Tryz.prog 215 [Sp1 x1] (.iv r):=by
 have ok:=oK 215 Tryz.f215 e215 [.t 2] 1 17;refine FP ok fun w0 H0=>?_;rw [Zso] at h;refine Vg 15 ?_;refine Vk [3,1] (fun _=>[]) Zqo r ?_ fun J1=>?_
 ·rintro ⟨⟩ h;rw [Zqo] at h;exact W
 ·refine Vg 1 ?_;refine Mk h [3,1,2,2] (fun x4=>[(8,.iv x4)]) ?_;rintro n1 x4 y1 h hin1 hout1;rw [Zro] at h;exact W
@[go_sem] def e196:EC:=eQ Tryz.f196
def Zuo (x1:Int):Option Bool:=some (decide (x1<1))
theorem Zvo {x1 r} (h:Zuo x1=some r):Zy6 Tryz.prog 196 [.iv x1] (.bv r):=by have ok:=oK 196 Tryz.f196 e196 [.t 2] 1 4;refine FP ok fun w0 H0=>?_;rw [Zuo] at h;exact W
@[go_sem] def e197:EC:=eQ Tryz.f197
def Zwo (x1:Edge) (x2:List Int):Option Bool:=
 (at_ x2 x1.A).bind fun x3=>
 (at_ x2 x1.B).bind fun x4=>
 some (decide (x3=x4))
theorem Zxo {x1 x2 r} (h:Zwo x1 x2=some r):Zy6 Tryz.prog 197 [.agg (Edge.row x1),.elt ((Z7d 1 Z3d) x2) 0] (.bv r):=by have ok:=oK 197 Tryz.f197 e197 [.t 3] 2 13;refine FP ok fun w0 H0=>?_;rw [Zwo] at h;refine Vg 6 ?_;have ⟨x3,ex3,h⟩:=Bs h;have ⟨x4,ex4,h⟩:=Bs h;refine Zej fun all H=>Gs ?_;exact W
@[go_sem] def e22:EC:=eQ Tryz.f22
def Zyo:Bool→Option Bool
| x3=>some x3
def Zzo (x1 x2:Edge):Option Bool:=
 ifb (decide (x1.A<x2.A)) (
 Zyo true) (
 ifb (decide (x1.A=x2.A)) (
 Zyo (decide (x1.B<x2.B))) (
 Zyo false))
theorem Z0p {x1 x2 r} (h:Zzo x1 x2=some r):Zy6 Tryz.prog 22 [.agg (Edge.row x1),.agg (Edge.row x2)] (.bv r):=by
 have ok:=oK 22 Tryz.f22 e22 [.t 4] 2 22;refine FP ok fun w0 H0=>?_;rw [Zzo] at h;refine Vg 14 ?_;refine Vl [] (fun x3=>([(4,.bv x3)],[],[])) Zyo r ?_ fun J1=>?_
 ·intro x3 h;rw [Zyo] at h;exact W
 ·exact W
@[go_sem] def e150:EC:=eQ Tryz.f150
def Z1p:Unit→Option Bool
| ()=>some false
def Z2p (x7:Int):Bool→Option (Int ⊕ Bool)
| x9=>
 ifb x9 (
 Option.map Sum.inr (some true)) (
 some (.inl (wr (x7+1))))
def Z3p (x1:Graph) (x2:Int) (x3:Int):Int→Option (Int ⊕ Bool)
| x7=>
 ifb (decide (x7<(ln Edge.row x1.Edges))) (
 (at_ x1.Edges x7).bind fun x8=>
 ifb (decide (x8.A=x2)) (
 ifb (decide (x8.B=x3)) (
 ifb (decide (x2≤x3)) (
 (Z2p x7) true) (
 ifb (decide (x8.A=x3)) (
 ifb (decide (x8.B=x2)) (
 (Z2p x7) (decide (x3<x2))) (
 (Z2p x7) false)) (
 (Z2p x7) false))) (
 ifb (decide (x8.A=x3)) (
 ifb (decide (x8.B=x2)) (
 (Z2p x7) (decide (x3<x2))) (
 (Z2p x7) false)) (
 (Z2p x7) false))) (
 ifb (decide (x8.A=x3)) (
 ifb (decide (x8.B=x2)) (
 (Z2p x7) (decide (x3<x2))) (
 (Z2p x7) false)) (
 (Z2p x7) false))) (
 Option.map Sum.inr (Z1p ()))
def Z4p (x1:Graph) (x2:Int) (x3:Int):Option Bool:=loop (Z3p x1 x2 x3) 0
theorem Z5p {x1 x2 x3 r} (h:Z4p x1 x2 x3=some r):Zy6 Tryz.prog 150 [.agg (Graph.row x1),.iv x2,.iv x3] (.bv r):=by
 have ok:=oK 150 Tryz.f150 e150 [.t 6] 3 50;refine FP ok fun w0 H0=>?_;rw [Z4p] at h;refine Vg 10 ?_;refine Vl [] (fun _=>([],[],[])) Z1p r ?_ fun J1=>?_
 ·rintro ⟨⟩ h;rw [Z1p] at h;exact W
 ·refine Vg 1 ?_;refine Mk h [1,3] (fun x7=>[(7,.iv x7)]) ?_;rintro n1 x7 y1 h hin1 hout1;rw [Z3p] at h;(try dsimp only);refine Vg 9 ?_;refine MI h (fun h=>?_) fun h=>?_
  ·refine Vg 8 ?_;have ⟨x8,ex8,h⟩:=Bs h;refine Zic Edge.row ex8 trivial rfl rfl rfl (Vg 11 ?_);refine Vl [1,3,3,1] (fun x9=>([(52,.bv x9)],[some ⟨24,Graph.row x1⟩],[])) (Z2p x7) y1 ?_ fun J2=>?_
   ·intro x9 h;rw [Z2p] at h;exact W
   ·exact W
  ·exact W
@[go_sem] def e193:EC:=eQ Tryz.f193
def Z6p (x1:Int):Option Bool:=some (decide (x1<0))
theorem Z7p {x1 r} (h:Z6p x1=some r):Zy6 Tryz.prog 193 [.iv x1] (.bv r):=by have ok:=oK 193 Tryz.f193 e193 [.t 2] 1 4;refine FP ok fun w0 H0=>?_;rw [Z6p] at h;exact W
@[go_sem] def e194:EC:=eQ Tryz.f194
def Z8p:Bool→Option Bool
| x5=>some x5
def Z9p (x1:Int) (x2:List Int) (x3:Int):Option Bool:=
 (at_ x2 x1).bind fun x4=>
 ifb (decide (x4=0)) (
 Z8p (decide (x3<x1))) (
 Z8p false)
theorem Zap {x1 x2 x3 r} (h:Z9p x1 x2 x3=some r):Zy6 Tryz.prog 194 [.iv x1,.elt ((Z7d 1 Z3d) x2) 0,.elt (Z3d x3) 0] (.bv r):=by
 have ok:=oK 194 Tryz.f194 e194 [.t 4] 3 12;refine FP ok fun w0 H0=>?_;rw [Z9p] at h;refine Vg 8 ?_;have ⟨x4,ex4,h⟩:=Bs h;refine Zic Z3d ex4 trivial rfl rfl rfl (Vg 3 ?_);refine Vk [] (fun x5=>[(4,.bv x5)]) Z8p r ?_ fun J1=>?_
 ·intro x5 h;rw [Z8p] at h;exact W
 ·exact W
@[go_sem] def e195:EC:=eQ Tryz.f195
def Zbp (x1:Int) (x2:List Int) (x3:List Int) (x4:Int):Option Bool:=
 (at_ x2 x1).bind fun x5=>
 (at_ x3 x4).bind fun x6=>
 some (decide (x5=x6))
theorem Zcp {x1 x2 x3 x4 r} (h:Zbp x1 x2 x3 x4=some r):Zy6 Tryz.prog 195 [.iv x1,.elt ((Z7d 1 Z3d) x2) 0,.elt ((Z7d 1 Z3d) x3) 0,.elt (Z3d x4) 0] (.bv r):=by have ok:=oK 195 Tryz.f195 e195 [.t 5] 4 11;refine FP ok fun w0 H0=>?_;rw [Zbp] at h;refine Vg 5 ?_;have ⟨x5,ex5,h⟩:=Bs h;have ⟨x6,ex6,h⟩:=Bs h;refine Zej fun all H=>Gs ?_;exact W
@[go_sem] def e199:EC:=eQ Tryz.f199
def Zdp (x1:List Int) (x3:Int):Unit→Option Bool
| ()=>
 (at_ x1 x3).bind fun x19=>
 some (decide (x19=0))
def Zep (x9:Int):Bool→Option (Int ⊕ Bool)
| x13=>
 ifb x13 (
 Option.map Sum.inr (some false)) (
 some (.inl (wr (x9+1))))
def Zfp (x1 x2:List Int) (x3:Int):Int→Option (Int ⊕ Bool)
| x9=>
 ifb (decide (x9<(ln Z3d x2))) (
 (at_ x2 x9).bind fun x10=>
 ifb (decide (x3<x10)) (
 (at_ x2 x9).bind fun x11=>
 (at_ x1 x11).bind fun x12=>
 (Zep x9) (decide (x12=0))) (
 (Zep x9) false)) (
 Option.map Sum.inr ((Zdp x1 x3) ()))
def Zgp (x1 x2:List Int) (x3:Int):Option Bool:=loop (Zfp x1 x2 x3) 0
theorem Zhp {x1 x2 x3 r} (h:Zgp x1 x2 x3=some r):Zy6 Tryz.prog 199 [Sp1 x1,Sp1 x2,.iv x3] (.bv r):=by
 have ok:=oK 199 Tryz.f199 e199 [.t 6] 3 32;refine FP ok fun w0 H0=>?_;rw [Zgp] at h;refine Vg 9 ?_;refine Vk [0,1,1,1] (fun _=>[]) (Zdp x1 x3) r ?_ fun J1=>?_
 ·rintro ⟨⟩ h;rw [Zdp] at h;exact W
 ·refine Vg 1 ?_;refine Mk h [0,3] (fun x9=>[(7,.iv x9)]) ?_;rintro n1 x9 y1 h hin1 hout1;rw [Zfp] at h;(try dsimp only);refine Vg 8 ?_;refine MI h (fun h=>?_) fun h=>?_
  ·refine Vg 7 ?_;have ⟨x10,ex10,h⟩:=Bs h;refine Zic Z3d ex10 trivial rfl rfl rfl (Vg 4 ?_);refine Vk [0,3,4,1] (fun x13=>[(29,.bv x13)]) (Zep x9) y1 ?_ fun J2=>?_
   ·intro x13 h;rw [Zep] at h;exact W
   ·exact W
  ·exact W
@[go_sem] def e200:EC:=eQ Tryz.f200
def Zip:Unit→Option Bool
| ()=>some false
def Zjp (x1 x2:List Int) (x3:Int):Int→Option (Int ⊕ Bool)
| x7=>
 ifb (decide (x7<(ln Z3d x2))) (
 (at_ x2 x7).bind fun x8=>
 (at_ x1 x8).bind fun x9=>
 ifb (decide (x9=x3)) (
 Option.map Sum.inr (some true)) (
 some (.inl (wr (x7+1))))) (
 Option.map Sum.inr (Zip ()))
def Zkp (x1 x2:List Int) (x3:Int):Option Bool:=loop (Zjp x1 x2 x3) 0
theorem Zlp {x1 x2 x3 r} (h:Zkp x1 x2 x3=some r):Zy6 Tryz.prog 200 [Sp1 x1,Sp1 x2,.iv x3] (.bv r):=by
 have ok:=oK 200 Tryz.f200 e200 [.t 6] 3 20;refine FP ok fun w0 H0=>?_;rw [Zkp] at h;refine Vg 9 ?_;refine Vk [] (fun _=>[]) Zip r ?_ fun J1=>?_
 ·rintro ⟨⟩ h;rw [Zip] at h;exact W
 ·refine Vg 1 ?_;refine Mk h [0,3] (fun x7=>[(7,.iv x7)]) ?_;rintro n1 x7 y1 h hin1 hout1;rw [Zjp] at h;exact W
@[go_sem] def e118:EC:=eQ Tryz.f118
def Zmp (x1:DI):Option DI:=
 (Z7c 32 (([]:List Side)) x1.SD).bind fun x2=>
 some (DI.mk x1.ID x1.PH x2)
theorem Znp {x1 r} (h:Zmp x1=some r):Zy6 Tryz.prog 118 [.agg (DI.row x1)] (.agg (DI.row r)):=by have ok:=oK 118 Tryz.f118 e118 [.c 2 (some 3)] 1 8;refine FP ok fun w0 H0=>?_;rw [Zmp] at h;refine Vg 10 ?_;have ⟨x2,ex2,h⟩:=Bs h;refine Zlc Side.row ex2 trivial rfl rfl rfl (Vg 8 ?_);refine Zhj 1 ?_;exact W
@[go_sem] def e60:EC:=eQ Tryz.f60
def Zop (x1:Book):List Sess→Option Book
| x18=>some (Book.mk x1.Last x18)
def Zpp (x1:Book):(Int×List Sess)→Option ((Int×List Sess) ⊕ Book)
| (x7,x8)=>
 ifb (decide (x7<(ln Sess.row x1.Sess))) (
 (at_ x1.Sess x7).bind fun x9=>
 (Z7c 8 (([]:List Int)) x9.Need).bind fun x10=>
 (Z7c 48 x8 ([Sess.mk x9.ID x10 x9.State x9.Age])).bind fun x11=>
 some (.inl (wr (x7+1),x11))) (
 Option.map Sum.inr ((Zop x1) x8))
def Zqp (x1:Book):Option Book:=loop (Zpp x1) (0,([]:List Sess))
theorem Zrp {x1 r} (h:Zqp x1=some r):Zy6 Tryz.prog 60 [.agg (Book.row x1)] (.agg (Book.row r)):=by
 have ok:=oK 60 Tryz.f60 e60 [.c 2 (some 2)] 1 32;refine FP ok fun w0 H0=>?_;rw [Zqp] at h;refine Vg 18 ?_;refine Vl [2,2] (fun x18=>([],[none,some ⟨64,[.iv 0,.nl]⟩,some ⟨64,[.iv x1.Last,.osl 0]⟩],[Zuj x18])) (Zop x1) r ?_ fun J1=>?_
 ·intro x18 h;rw [Zop] at h;(try dsimp only);refine Vg 5 ?_;refine Zhj 0 ?_;exact W
 ·refine Vg 1 ?_;refine Zij 2 1 131 4 (Ds ?_);refine Mm h [1,3] (fun s=>([(4,.iv s.1)],[],[],[(0,Zuj s.2)])) ?_;rintro n1 ⟨x7,x8⟩ y1 h hin1 hout1;rw [Zpp] at h;(try dsimp only);refine Vg 9 ?_;refine MI h (fun h=>?_) fun h=>?_
  ·refine Vg 8 ?_;have ⟨x9,ex9,h⟩:=Bs h;refine Zic Sess.row ex9 trivial rfl rfl rfl (Vg 9 ?_);have ⟨x10,ex10,h⟩:=Bs h;refine Zlc Z3d ex10 trivial rfl rfl rfl (Vg 7 ?_);refine Zhj 2 ?_;refine Vg 1 ?_;have ⟨x11,ex11,h⟩:=Bs h;refine Zlc Sess.row ex11 trivial rfl rfl rfl (Vg 9 ?_);refine Zgj 4 0 ?_;exact W
  ·exact W
@[go_sem] def Zsp:EC:=.seq (.seq (.reg [Qm 11 5,Qm 12 0,Qa 13 (.len (.t 12)),Qa 14 (.bin .lss (.t 11) (.t 13))]) (.ite (.t 14) (.skip) (.exit 0))) (.seq (.blk 1 (.seq (.drw [Qm 17 0,Qm 18 5,Qk 19 2 17 18,Qe 20 2 19,Qm 21 1,Qm 22 5,Qk 23 2 21 22,Qe 24 2 23,Qa 25 (.eqs true [true,true] (.t 20) (.t 24))] [[],[],[0,1],[2,0,1],[],[],[4,5],[6,4,5],[3,7,2,0,1,6,4,5]] [[2],[2],[0,1,3],[2,8],[6],[6],[4,5,7],[6,8],[3,7]]) (.ite (.t 25) (.seq (.reg [Qa 4 (.mv (.c .ff))]) (.ret)) (.skip)))) (.reg [Qm 15 5,Qv 16 15 1,Qm 5 16]))
@[go_sem] def e34:EC:=.seq (.reg [Qa 4 (.mv (.c .ff))]) (.seq (.seq (.reg [Qm 6 0,Qa 7 (.len (.t 6)),Qm 8 1,Qa 9 (.len (.t 8)),Qa 10 (.bin .neq (.t 7) (.t 9))]) (.ite (.t 10) (.seq (.reg [Qa 4 (.mv (.c .ff))]) (.ret)) (.skip))) (.seq (.seq (.reg [Qi 5 0]) (.blk 0 (.loop Zsp))) (.seq (.reg [Qa 4 (.mv (.c .tt))]) (.ret))))
def Ztp:Unit→Option Bool
| ()=>some true
def Zup (x1 x2:List KE):Int→Option (Int ⊕ Bool)
| x6=>
 ifb (decide (x6<(ln KE.row x1))) (
 (at_ x1 x6).bind fun x7=>
 (at_ x2 x6).bind fun x8=>
 ifb (!(decide (x7.Peer=x8.Peer)&&(decide (x7.Epoch=x8.Epoch)&&true))) (
 Option.map Sum.inr (some false)) (
 some (.inl (wr (x6+1))))) (
 Option.map Sum.inr (Ztp ()))
def Zvp (x1 x2:List KE):Option Bool:=
 ifb (!decide ((ln KE.row x1)=(ln KE.row x2))) (
 some false) (
 loop (Zup x1 x2) 0)
theorem Zwp {x1 x2 r} (h:Zvp x1 x2=some r):Zy6 Tryz.prog 34 [Sp2 x1,Sp2 x2] (.bv r):=by
 have ok:=oK 34 Tryz.f34 e34 [.t 4] 2 24;refine FP ok fun w0 H0=>?_;rw [Zvp] at h;refine Vg 13 ?_;refine MI h (fun h=>?_) fun h=>?_
 ·exact W
 ·refine Vg 6 ?_;refine Vk [] (fun _=>[]) Ztp r ?_ fun J1=>?_
  ·rintro ⟨⟩ h;rw [Ztp] at h;exact W
  ·refine Vg 1 ?_;refine Mk h [0,2] (fun x6=>[(5,.iv x6)]) ?_;rintro n1 x6 y1 h hin1 hout1;rw [Zup] at h;(try dsimp only);refine Vg 8 ?_;refine MI h (fun h=>?_) fun h=>?_
   ·refine Vg 4 ?_;have ⟨x7,ex7,h⟩:=Bs h;have ⟨x8,ex8,h⟩:=Bs h;refine Zej fun all H=>Gs ?_;exact W
   ·exact W
@[go_sem] def e94:EC:=eQ Tryz.f94
def Zxp:Bool→Option Bool
| x3=>some x3
def Zyp (x1:Book):Option Bool:=
 ifb (decide (0<(ln Sess.row x1.Sess))) (
 (at_ x1.Sess 0).bind fun x2=>
 Zxp (decide (x2.State=1))) (
 Zxp false)
theorem Zzp {x1 r} (h:Zyp x1=some r):Zy6 Tryz.prog 94 [.agg (Book.row x1)] (.bv r):=by
 have ok:=oK 94 Tryz.f94 e94 [.t 2] 1 14;refine FP ok fun w0 H0=>?_;rw [Zyp] at h;refine Vg 12 ?_;refine Vl [] (fun x3=>([(2,.bv x3)],[],[])) Zxp r ?_ fun J1=>?_
 ·intro x3 h;rw [Zxp] at h;exact W
 ·exact W
@[go_sem] def e151:EC:=eQ Tryz.f151
def Z0q:Unit→Option Bool
| ()=>some true
def Z1q (x7:Int):Bool→Option (Int ⊕ Bool)
| x10=>
 ifb x10 (
 Option.map Sum.inr (some false)) (
 some (.inl (wr (x7+1))))
def Z2q (x1:DI):Int→Option (Int ⊕ Bool)
| x7=>
 ifb (decide (x7<(ln Side.row x1.SD))) (
 (at_ x1.SD x7).bind fun x8=>
 ifb (decide (x8.Peer<0)) (
 (Z1q x7) true) (
 ifb (decide (x8.Peer=x1.ID)) (
 (Z1q x7) true) (
 ifb (decide (0<x7)) (
 (at_ x1.SD (wr (x7-1))).bind fun x9=>
 ifb (decide (x8.Peer≤x9.Peer)) (
 (Z1q x7) true) (
 ifb (decide (x8.Epoch<0)) (
 (Z1q x7) true) (
 ifb (decide (65535<x8.Epoch)) (
 (Z1q x7) true) (
 ifb (decide (x8.State<0)) (
 (Z1q x7) true) (
 ifb (decide (3<x8.State)) (
 (Z1q x7) true) (
 ifb x8.DY (
 (Z1q x7) (!x8.Fork)) (
 (Z1q x7) false))))))) (
 ifb (decide (x8.Epoch<0)) (
 (Z1q x7) true) (
 ifb (decide (65535<x8.Epoch)) (
 (Z1q x7) true) (
 ifb (decide (x8.State<0)) (
 (Z1q x7) true) (
 ifb (decide (3<x8.State)) (
 (Z1q x7) true) (
 ifb x8.DY (
 (Z1q x7) (!x8.Fork)) (
 (Z1q x7) false))))))))) (
 Option.map Sum.inr (Z0q ()))
def Z3q (x1:DI):Bool→Option Bool
| x2=>
 ifb x2 (
 some false) (
 loop (Z2q x1) 0)
def Z4q (x1:DI):Option Bool:=
 ifb (decide (x1.ID<0)) (
 (Z3q x1) true) (
 ifb (!decide (x1.PH=0)) (
 ifb (!decide (x1.PH=1)) (
 ifb (!decide (x1.PH=2)) (
 (Z3q x1) true) (
 (Z3q x1) (decide (63<(ln Side.row x1.SD))))) (
 (Z3q x1) (decide (63<(ln Side.row x1.SD))))) (
 (Z3q x1) (decide (63<(ln Side.row x1.SD)))))
theorem Z5q {x1 r} (h:Z4q x1=some r):Zy6 Tryz.prog 151 [.agg (DI.row x1)] (.bv r):=by
 have ok:=oK 151 Tryz.f151 e151 [.t 2] 1 95;refine FP ok fun w0 H0=>?_;rw [Z4q] at h;refine Vg 12 ?_;refine Vk [1,1] (fun x2=>[(28,.bv x2)]) (Z3q x1) r ?_ fun J1=>?_
 ·intro x2 h;rw [Z3q] at h;(try dsimp only);refine MI h (fun h=>?_) fun h=>?_
  ·exact W
  ·refine Vg 6 ?_;refine Vl [] (fun _=>([],[],[])) Z0q r ?_ fun J2=>?_
   ·rintro ⟨⟩ h;rw [Z0q] at h;exact W
   ·refine Vg 1 ?_;refine Mk h [1,1] (fun x7=>[(3,.iv x7)]) ?_;rintro n1 x7 y1 h hin1 hout1;rw [Z2q] at h;(try dsimp only);refine Vg 9 ?_;refine MI h (fun h=>?_) fun h=>?_
    ·refine Vg 8 ?_;have ⟨x8,ex8,h⟩:=Bs h;refine Zic Side.row ex8 trivial rfl rfl rfl (Vg 5 ?_);refine Vl [1,1,1,1] (fun x10=>([(95,.bv x10)],[some ⟨58,DI.row x1⟩],[])) (Z1q x7) y1 ?_ fun J3=>?_
     ·intro x10 h;rw [Z1q] at h;exact W
     ·refine Zej fun all H=>Ds (GP H 4 51 [4,51] [(41,[.ptr 1 0,.iv x8.Peer,.bv (decide (x8.Peer<0)),.bv (decide (x8.Peer<0))])] (Ds ?_));refine Zcd 44 h rfl (fun _ h=>?_) fun _ h=>?_
      ·refine Ds (GP H 51 0 [55] [(45,[.un,.un,.un,.un,.un,.tt,.tt,.un,.un,.un,.un,.un,.un,.un,.un,.un,.un,.un,.un,.un,.un,.tt,.tt,.un,.un,.un,.tt,.tt,.un,.un,.un,.tt,.tt,.un,.un,.un,.tt,.tt,.un,.un,.un,.tt,.tt,.un,.un,.un,.un,.un,.un,.un,.tt])] (Ds ?_));refine GD ?_;exact W
      ·refine Ds (GP H 7 44 [11,44] [(45,[.ptr 1 0,.iv x8.Peer,.ptr 0 0,.iv x1.ID,.bv (decide (x8.Peer=x1.ID)),.bv (decide (x8.Peer=x1.ID)),.bv (decide (x8.Peer=x1.ID))])] (Ds ?_));refine Zcd 51 h rfl (fun _ h=>?_) fun _ h=>?_
       ·refine Ds (GP H 44 0 [55] [(52,[.un,.un,.un,.un,.un,.un,.un,.un,.un,.un,.un,.un,.un,.un,.tt,.tt,.un,.un,.un,.tt,.tt,.un,.un,.un,.tt,.tt,.un,.un,.un,.tt,.tt,.un,.un,.un,.tt,.tt,.un,.un,.un,.un,.un,.un,.un,.tt])] (Ds ?_));refine GD ?_;exact W
       ·refine Ds (GP H 3 41 [14,41] [(52,[.iv x7,.bv (decide (0<x7)),.bv (decide (0<x7))])] (Ds ?_));refine Zcd 54 h rfl (fun _ h=>?_) fun _ h=>?_
        ·refine Ds (GP H 6 35 [18,3,2,32] [(55,[.ptr 0 2,Sp3 x1.SD,.iv x7,.iv (wr (x7-1))]),(3,[.ptr 1 0,.iv x8.Peer])] (Ds ?_));have ⟨x9,ex9,h⟩:=Bs h;refine Zjc H.1 H.2.1 H.2.2.1 H.2.2.2 18 Side.row ex9 rfl rfl trivial rfl rfl rfl rfl (GP H 6 28 [27,28] [(60,[.elt (Side.row x9) 0,.iv x9.Peer]),(2,[.bv (decide (x8.Peer≤x9.Peer)),.bv (decide (x8.Peer≤x9.Peer)),.bv (decide (x8.Peer≤x9.Peer)),.bv (decide (x8.Peer≤x9.Peer))])] (Ds ?_));refine Zcd 67 h rfl (fun _ h=>?_) fun _ h=>?_
         ·refine Ds (GP H 28 0 [55] [(68,[.un,.un,.un,.tt,.tt,.un,.un,.un,.tt,.tt,.un,.un,.un,.tt,.tt,.un,.un,.un,.tt,.tt,.un,.un,.un,.un,.un,.un,.un,.tt])] (Ds ?_));refine GD ?_;exact W
         ·refine Ds (GP H 5 23 [32,23] [(68,[.ptr 1 1,.iv x8.Epoch,.bv (decide (x8.Epoch<0)),.bv (decide (x8.Epoch<0)),.bv (decide (x8.Epoch<0))])] (Ds ?_));refine Zcd 72 h rfl (fun _ h=>?_) fun _ h=>?_
          ·refine Ds (GP H 23 0 [55] [(73,[.un,.un,.un,.tt,.tt,.un,.un,.un,.tt,.tt,.un,.un,.un,.tt,.tt,.un,.un,.un,.un,.un,.un,.un,.tt])] (Ds ?_));refine GD ?_;exact W
          ·refine Ds (GP H 5 18 [37,18] [(73,[.ptr 1 1,.iv x8.Epoch,.bv (decide (65535<x8.Epoch)),.bv (decide (65535<x8.Epoch)),.bv (decide (65535<x8.Epoch))])] (Ds ?_));refine Zcd 77 h rfl (fun _ h=>?_) fun _ h=>?_
           ·refine Ds (GP H 18 0 [55] [(78,[.un,.un,.un,.tt,.tt,.un,.un,.un,.tt,.tt,.un,.un,.un,.un,.un,.un,.un,.tt])] (Ds ?_));refine GD ?_;exact W
           ·refine Ds (GP H 5 13 [42,13] [(78,[.ptr 1 2,.iv x8.State,.bv (decide (x8.State<0)),.bv (decide (x8.State<0)),.bv (decide (x8.State<0))])] (Ds ?_));refine Zcd 82 h rfl (fun _ h=>?_) fun _ h=>?_
            ·refine Ds (GP H 13 0 [55] [(83,[.un,.un,.un,.tt,.tt,.un,.un,.un,.un,.un,.un,.un,.tt])] (Ds ?_));refine GD ?_;exact W
            ·refine Ds (GP H 5 8 [47,8] [(83,[.ptr 1 2,.iv x8.State,.bv (decide (3<x8.State)),.bv (decide (3<x8.State)),.bv (decide (3<x8.State))])] (Ds ?_));refine Zcd 87 h rfl (fun _ h=>?_) fun _ h=>?_
             ·refine Ds (GP H 8 0 [55] [(88,[.un,.un,.un,.un,.un,.un,.un,.tt])] (Ds ?_));refine GD ?_;exact W
             ·refine Ds (GP H 3 5 [50,5] [(88,[.ptr 1 4,.bv x8.DY,.bv x8.DY])] (Ds ?_));refine Zcd 90 h rfl (fun _ h=>?_) fun _ h=>?_
              ·refine Ds (GP H 5 0 [55] [(91,[.ptr 1 3,.bv x8.Fork,.bv (!x8.Fork),.bv (!x8.Fork),.bv (!x8.Fork)])] (Ds ?_));refine GD ?_;exact W
              ·refine Ds (GP H 5 0 [55] [(91,[.un,.un,.un,.ff,.ff])] (Ds ?_));refine GD ?_;exact W
        ·refine Ds (GP H 18 23 [32,23] [(55,[.un,.un,.un,.un,.un,.un,.un,.un,.un,.un,.ff,.ff,.ff,.ptr 1 1,.iv x8.Epoch,.bv (decide (x8.Epoch<0)),.bv (decide (x8.Epoch<0)),.bv (decide (x8.Epoch<0))])] (Ds ?_));refine Zcd 72 h rfl (fun _ h=>?_) fun _ h=>?_
         ·refine Ds (GP H 23 0 [55] [(73,[.un,.un,.un,.tt,.tt,.un,.un,.un,.tt,.tt,.un,.un,.un,.tt,.tt,.un,.un,.un,.un,.un,.un,.un,.tt])] (Ds ?_));refine GD ?_;exact W
         ·refine Ds (GP H 5 18 [37,18] [(73,[.ptr 1 1,.iv x8.Epoch,.bv (decide (65535<x8.Epoch)),.bv (decide (65535<x8.Epoch)),.bv (decide (65535<x8.Epoch))])] (Ds ?_));refine Zcd 77 h rfl (fun _ h=>?_) fun _ h=>?_
          ·refine Ds (GP H 18 0 [55] [(78,[.un,.un,.un,.tt,.tt,.un,.un,.un,.tt,.tt,.un,.un,.un,.un,.un,.un,.un,.tt])] (Ds ?_));refine GD ?_;exact W
          ·refine Ds (GP H 5 13 [42,13] [(78,[.ptr 1 2,.iv x8.State,.bv (decide (x8.State<0)),.bv (decide (x8.State<0)),.bv (decide (x8.State<0))])] (Ds ?_));refine Zcd 82 h rfl (fun _ h=>?_) fun _ h=>?_
           ·refine Ds (GP H 13 0 [55] [(83,[.un,.un,.un,.tt,.tt,.un,.un,.un,.un,.un,.un,.un,.tt])] (Ds ?_));refine GD ?_;exact W
           ·refine Ds (GP H 5 8 [47,8] [(83,[.ptr 1 2,.iv x8.State,.bv (decide (3<x8.State)),.bv (decide (3<x8.State)),.bv (decide (3<x8.State))])] (Ds ?_));refine Zcd 87 h rfl (fun _ h=>?_) fun _ h=>?_
            ·refine Ds (GP H 8 0 [55] [(88,[.un,.un,.un,.un,.un,.un,.un,.tt])] (Ds ?_));refine GD ?_;exact W
            ·refine Ds (GP H 3 5 [50,5] [(88,[.ptr 1 4,.bv x8.DY,.bv x8.DY])] (Ds ?_));refine Zcd 90 h rfl (fun _ h=>?_) fun _ h=>?_
             ·refine Ds (GP H 5 0 [55] [(91,[.ptr 1 3,.bv x8.Fork,.bv (!x8.Fork),.bv (!x8.Fork),.bv (!x8.Fork)])] (Ds ?_));refine GD ?_;exact W
             ·refine Ds (GP H 5 0 [55] [(91,[.un,.un,.un,.ff,.ff])] (Ds ?_));refine GD ?_;exact W
    ·exact W
 ·exact W
end
end NX
end Go.Proofs.YtgamgemlekpepaaGreat
