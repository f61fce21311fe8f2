/-
  The function narthex/graph.Check$1: its code compiled, a model, and that the code answers as the model. Written by a program of ours (lb.py). No statement of the seat is proved here.
-/
import Derived.Test.YtgamgemlekpepaaGreatK22
set_option maxRecDepth 100000
set_option maxHeartbeats 40000000
namespace Go.Proofs.YtgamgemlekpepaaGreat
namespace NX
open Go
noncomputable section
def Zuo:Bool→Option Bool
| x3=>some x3
def Zvo (x1:Edge) (x2:Graph):Option Bool:=
 ifb (decide (x1.A<0)) (
 Zuo true) (
 ifb (decide (x1.B≤x1.A)) (
 Zuo true) (
 Zuo (decide (x2.N≤x1.B))))
theorem Zwo {x1 x2 r} (h:Zvo x1 x2=some r):FPx 190 [.agg (Edge.row x1),.elt (Graph.row x2) 0] (.bv r):=by
 have ok:=oJ 190 Tryz.f190 [.t 3] 2 19;refine FP ok fun w0 H0=>?_;rw [Zvo] at h;refine Vg 11 ?_;refine Vl [] (fun x3=>([(3,.bv x3)],[],[])) Zuo r ?_ fun J1=>?_
 ·intro x3 h;rw [Zuo] at h;exact W
 ·exact W
def Zxo (x1:Int):Option Bool:=some (!decide (x1=x1))
theorem Zyo {x1 r} (h:Zxo x1=some r):FPx 235 [.iv x1] (.bv r):=by have ok:=oJ 235 Tryz.f235 [.t 2] 1 5;refine FP ok fun w0 H0=>?_;rw [Zxo] at h;exact W
def Zzo:Unit→Option Int
| ()=>some 0
def Z0p (x1:List Int):Int→Option (Int ⊕ Int)
| x4=>
 ifb (decide (x4<(ln Z4d x1))) (
 (at_ x1 x4).bind fun x5=>
 ifb (!decide (x5=0)) (
 Option.map Sum.inr (some x5)) (
 some (.inl (wr (x4+1))))) (
 Option.map Sum.inr (Zzo ()))
def Z1p (x1:List Int):Option Int:=loop (Z0p x1) 0
theorem Z2p {x1 r} (h:Z1p x1=some r):FPx 215 [Sp1 x1] (.iv r):=by
 have ok:=oJ 215 Tryz.f215 [.t 2] 1 17;refine FP ok fun w0 H0=>?_;rw [Z1p] at h;refine Vg 15 ?_;refine Vk [3,1] (fun _=>[]) Zzo r ?_ fun J1=>?_
 ·rintro ⟨⟩ h;rw [Zzo] at h;exact W
 ·refine Vg 1 ?_;refine Mk h [3,1,2,2] (fun x4=>[(8,.iv x4)]) ?_;rintro n1 x4 y1 h hin1 hout1;rw [Z0p] at h;exact W
def Z3p (x1:Int):Option Bool:=some (decide (x1<1))
theorem Z4p {x1 r} (h:Z3p x1=some r):FPx 196 [.iv x1] (.bv r):=by have ok:=oJ 196 Tryz.f196 [.t 2] 1 4;refine FP ok fun w0 H0=>?_;rw [Z3p] at h;exact W
def Z5p (x1:Edge) (x2:List Int):Option Bool:=
 (at_ x2 x1.A).bind fun x3=>
 (at_ x2 x1.B).bind fun x4=>
 some (decide (x3=x4))
theorem Z6p {x1 x2 r} (h:Z5p x1 x2=some r):FPx 197 [.agg (Edge.row x1),.elt ((Z8d 1 Z4d) x2) 0] (.bv r):=by have ok:=oJ 197 Tryz.f197 [.t 3] 2 13;refine FP ok fun w0 H0=>?_;rw [Z5p] at h;refine Vg 6 ?_;have ⟨x3,ex3,h⟩:=Bs h;have ⟨x4,ex4,h⟩:=Bs h;refine Zgj fun all H=>Gs ?_;exact W
def Z7p:Bool→Option Bool
| x3=>some x3
def Z8p (x1 x2:Edge):Option Bool:=
 ifb (decide (x1.A<x2.A)) (
 Z7p true) (
 ifb (decide (x1.A=x2.A)) (
 Z7p (decide (x1.B<x2.B))) (
 Z7p false))
theorem Z9p {x1 x2 r} (h:Z8p x1 x2=some r):FPx 22 [.agg (Edge.row x1),.agg (Edge.row x2)] (.bv r):=by
 have ok:=oJ 22 Tryz.f22 [.t 4] 2 22;refine FP ok fun w0 H0=>?_;rw [Z8p] at h;refine Vg 14 ?_;refine Vl [] (fun x3=>([(4,.bv x3)],[],[])) Z7p r ?_ fun J1=>?_
 ·intro x3 h;rw [Z7p] at h;exact W
 ·exact W
def Zap:Unit→Option Bool
| ()=>some false
def Zbp (x7:Int):Bool→Option (Int ⊕ Bool)
| x9=>
 ifb x9 (
 Option.map Sum.inr (some true)) (
 some (.inl (wr (x7+1))))
def Zcp (x1:Graph) (x2:Int) (x3:Int):Int→Option (Int ⊕ Bool)
| x7=>
 ifb (decide (x7<(ln Edge.row x1.Edges))) (
 (at_ x1.Edges x7).bind fun x8=>
 ifb (decide (x8.A=x2)) (
 ifb (decide (x8.B=x3)) (
 ifb (decide (x2≤x3)) (
 (Zbp x7) true) (
 ifb (decide (x8.A=x3)) (
 ifb (decide (x8.B=x2)) (
 (Zbp x7) (decide (x3<x2))) (
 (Zbp x7) false)) (
 (Zbp x7) false))) (
 ifb (decide (x8.A=x3)) (
 ifb (decide (x8.B=x2)) (
 (Zbp x7) (decide (x3<x2))) (
 (Zbp x7) false)) (
 (Zbp x7) false))) (
 ifb (decide (x8.A=x3)) (
 ifb (decide (x8.B=x2)) (
 (Zbp x7) (decide (x3<x2))) (
 (Zbp x7) false)) (
 (Zbp x7) false))) (
 Option.map Sum.inr (Zap ()))
def Zdp (x1:Graph) (x2:Int) (x3:Int):Option Bool:=loop (Zcp x1 x2 x3) 0
theorem Zep {x1 x2 x3 r} (h:Zdp x1 x2 x3=some r):FPx 150 [.agg (Graph.row x1),.iv x2,.iv x3] (.bv r):=by
 have ok:=oJ 150 Tryz.f150 [.t 6] 3 50;refine FP ok fun w0 H0=>?_;rw [Zdp] at h;refine Vg 10 ?_;refine Vl [] (fun _=>([],[],[])) Zap r ?_ fun J1=>?_
 ·rintro ⟨⟩ h;rw [Zap] at h;exact W
 ·refine Vg 1 ?_;refine Mk h [1,3] (fun x7=>[(7,.iv x7)]) ?_;rintro n1 x7 y1 h hin1 hout1;rw [Zcp] at h;refine Vg 9 ?_;refine MI h (fun h=>?_) fun h=>?_
  ·refine Vg 8 ?_;have ⟨x8,ex8,h⟩:=Bs h;refine Zjc Edge.row ex8 trivial rfl rfl rfl (Vg 11 ?_);refine Vl [1,3,3,1] (fun x9=>([(52,.bv x9)],[some ⟨24,Graph.row x1⟩],[])) (Zbp x7) y1 ?_ fun J2=>?_
   ·intro x9 h;rw [Zbp] at h;exact W
   ·exact W
  ·exact W
def Zfp (x1:Int):Option Bool:=some (decide (x1<0))
theorem Zgp {x1 r} (h:Zfp x1=some r):FPx 193 [.iv x1] (.bv r):=by have ok:=oJ 193 Tryz.f193 [.t 2] 1 4;refine FP ok fun w0 H0=>?_;rw [Zfp] at h;exact W
def Zhp:Bool→Option Bool
| x5=>some x5
def Zip (x1:Int) (x2:List Int) (x3:Int):Option Bool:=
 (at_ x2 x1).bind fun x4=>
 ifb (decide (x4=0)) (
 Zhp (decide (x3<x1))) (
 Zhp false)
theorem Zjp {x1 x2 x3 r} (h:Zip x1 x2 x3=some r):FPx 194 [.iv x1,.elt ((Z8d 1 Z4d) x2) 0,.elt (Z4d x3) 0] (.bv r):=by
 have ok:=oJ 194 Tryz.f194 [.t 4] 3 12;refine FP ok fun w0 H0=>?_;rw [Zip] at h;refine Vg 8 ?_;have ⟨x4,ex4,h⟩:=Bs h;refine Zjc Z4d ex4 trivial rfl rfl rfl (Vg 3 ?_);refine Vk [] (fun x5=>[(4,.bv x5)]) Zhp r ?_ fun J1=>?_
 ·intro x5 h;rw [Zhp] at h;exact W
 ·exact W
def Zkp (x1:Int) (x2:List Int) (x3:List Int) (x4:Int):Option Bool:=
 (at_ x2 x1).bind fun x5=>
 (at_ x3 x4).bind fun x6=>
 some (decide (x5=x6))
theorem Zlp {x1 x2 x3 x4 r} (h:Zkp x1 x2 x3 x4=some r):FPx 195 [.iv x1,.elt ((Z8d 1 Z4d) x2) 0,.elt ((Z8d 1 Z4d) x3) 0,.elt (Z4d x4) 0] (.bv r):=by have ok:=oJ 195 Tryz.f195 [.t 5] 4 11;refine FP ok fun w0 H0=>?_;rw [Zkp] at h;refine Vg 5 ?_;have ⟨x5,ex5,h⟩:=Bs h;have ⟨x6,ex6,h⟩:=Bs h;refine Zgj fun all H=>Gs ?_;exact W
def Zmp (x1:List Int) (x3:Int):Unit→Option Bool
| ()=>
 (at_ x1 x3).bind fun x19=>
 some (decide (x19=0))
def Znp (x9:Int):Bool→Option (Int ⊕ Bool)
| x13=>
 ifb x13 (
 Option.map Sum.inr (some false)) (
 some (.inl (wr (x9+1))))
def Zop (x1 x2:List Int) (x3:Int):Int→Option (Int ⊕ Bool)
| x9=>
 ifb (decide (x9<(ln Z4d x2))) (
 (at_ x2 x9).bind fun x10=>
 ifb (decide (x3<x10)) (
 (at_ x2 x9).bind fun x11=>
 (at_ x1 x11).bind fun x12=>
 (Znp x9) (decide (x12=0))) (
 (Znp x9) false)) (
 Option.map Sum.inr ((Zmp x1 x3) ()))
def Zpp (x1 x2:List Int) (x3:Int):Option Bool:=loop (Zop x1 x2 x3) 0
theorem Zqp {x1 x2 x3 r} (h:Zpp x1 x2 x3=some r):FPx 199 [Sp1 x1,Sp1 x2,.iv x3] (.bv r):=by
 have ok:=oJ 199 Tryz.f199 [.t 6] 3 32;refine FP ok fun w0 H0=>?_;rw [Zpp] at h;refine Vg 9 ?_;refine Vk [0,1,1,1] (fun _=>[]) (Zmp x1 x3) r ?_ fun J1=>?_
 ·rintro ⟨⟩ h;rw [Zmp] at h;exact W
 ·refine Vg 1 ?_;refine Mk h [0,3] (fun x9=>[(7,.iv x9)]) ?_;rintro n1 x9 y1 h hin1 hout1;rw [Zop] at h;refine Vg 8 ?_;refine MI h (fun h=>?_) fun h=>?_
  ·refine Vg 7 ?_;have ⟨x10,ex10,h⟩:=Bs h;refine Zjc Z4d ex10 trivial rfl rfl rfl (Vg 4 ?_);refine Vk [0,3,4,1] (fun x13=>[(29,.bv x13)]) (Znp x9) y1 ?_ fun J2=>?_
   ·intro x13 h;rw [Znp] at h;exact W
   ·exact W
  ·exact W
def Zrp:Unit→Option Bool
| ()=>some false
def Zsp (x1 x2:List Int) (x3:Int):Int→Option (Int ⊕ Bool)
| x7=>
 ifb (decide (x7<(ln Z4d x2))) (
 (at_ x2 x7).bind fun x8=>
 (at_ x1 x8).bind fun x9=>
 ifb (decide (x9=x3)) (
 Option.map Sum.inr (some true)) (
 some (.inl (wr (x7+1))))) (
 Option.map Sum.inr (Zrp ()))
def Ztp (x1 x2:List Int) (x3:Int):Option Bool:=loop (Zsp x1 x2 x3) 0
theorem Zup {x1 x2 x3 r} (h:Ztp x1 x2 x3=some r):FPx 200 [Sp1 x1,Sp1 x2,.iv x3] (.bv r):=by
 have ok:=oJ 200 Tryz.f200 [.t 6] 3 20;refine FP ok fun w0 H0=>?_;rw [Ztp] at h;refine Vg 9 ?_;refine Vk [] (fun _=>[]) Zrp r ?_ fun J1=>?_
 ·rintro ⟨⟩ h;rw [Zrp] at h;exact W
 ·refine Vg 1 ?_;refine Mk h [0,3] (fun x7=>[(7,.iv x7)]) ?_;rintro n1 x7 y1 h hin1 hout1;rw [Zsp] at h;exact W
def Zvp (x1:DI):Option DI:=
 (Z8c 32 (([]:List SX)) x1.SD).bind fun x2=>
 some (DI.mk x1.ID x1.PH x2)
theorem Zwp {x1 r} (h:Zvp x1=some r):FPx 118 [.agg (DI.row x1)] (.agg (DI.row r)):=by have ok:=oJ 118 Tryz.f118 [.c 2 (some 3)] 1 8;refine FP ok fun w0 H0=>?_;rw [Zvp] at h;refine Vg 10 ?_;have ⟨x2,ex2,h⟩:=Bs h;refine Zmc SX.row ex2 trivial rfl rfl rfl (Vg 8 ?_);refine Zjj 1 ?_;exact W
def Zxp (x1:BK):List SE→Option BK
| x18=>some (BK.mk x1.LA x18)
def Zyp (x1:BK):(Int×List SE)→Option ((Int×List SE) ⊕ BK)
| (x7,x8)=>
 ifb (decide (x7<(ln SE.row x1.SE))) (
 (at_ x1.SE x7).bind fun x9=>
 (Z8c 8 (([]:List Int)) x9.NE).bind fun x10=>
 (Z8c 48 x8 ([SE.mk x9.ID x10 x9.SS x9.Age])).bind fun x11=>
 some (.inl (wr (x7+1),x11))) (
 Option.map Sum.inr ((Zxp x1) x8))
def Zzp (x1:BK):Option BK:=loop (Zyp x1) (0,([]:List SE))
theorem Z0q {x1 r} (h:Zzp x1=some r):FPx 60 [.agg (BK.row x1)] (.agg (BK.row r)):=by
 have ok:=oJ 60 Tryz.f60 [.c 2 (some 2)] 1 32;refine FP ok fun w0 H0=>?_;rw [Zzp] at h;refine Vg 18 ?_;refine Vl [2,2] (fun x18=>([],[none,some ⟨64,[.iv 0,.nl]⟩,some ⟨64,[.iv x1.LA,.osl 0]⟩],[Z3k x18])) (Zxp x1) r ?_ fun J1=>?_
 ·intro x18 h;rw [Zxp] at h;refine Vg 5 ?_;refine Zjj 0 ?_;exact W
 ·refine Vg 1 ?_;refine Zkj 2 1 131 4 (Ds ?_);refine Mm h [1,3] (fun s=>([(4,.iv s.1)],[],[],[(0,Z3k s.2)])) ?_;rintro n1 ⟨x7,x8⟩ y1 h hin1 hout1;rw [Zyp] at h;refine Vg 9 ?_;refine MI h (fun h=>?_) fun h=>?_
  ·refine Vg 8 ?_;have ⟨x9,ex9,h⟩:=Bs h;refine Zjc SE.row ex9 trivial rfl rfl rfl (Vg 9 ?_);have ⟨x10,ex10,h⟩:=Bs h;refine Zmc Z4d ex10 trivial rfl rfl rfl (Vg 7 ?_);refine Zjj 2 ?_;refine Vg 1 ?_;have ⟨x11,ex11,h⟩:=Bs h;refine Zmc SE.row ex11 trivial rfl rfl rfl (Vg 9 ?_);refine Zij 4 0 ?_;exact W
  ·exact W
def Z1q (x1:BK):Unit→Option Bool
| ()=>some (decide ((ln SE.row x1.SE)≤12))
def Z2q (x1:BK) (x5:Int):Bool→Option (Int ⊕ Bool)
| x6=>
 ifb x6 (
 (at_ x1.SE x5).bind fun x7=>
 ifb (decide (70<(ln Z4d x7.NE))) (
 Option.map Sum.inr (some false)) (
 some (.inl (wr (x5+1))))) (
 Option.map Sum.inr ((Z1q x1) ()))
def Z3q (x1:BK):Int→Option (Int ⊕ Bool)
| x5=>
 ifb (decide (x5<(ln SE.row x1.SE))) (
 (Z2q x1 x5) (decide (x5<13))) (
 (Z2q x1 x5) false)
def Z4q (x1:BK):Option Bool:=loop (Z3q x1) 0
theorem Z5q {x1 r} (h:Z4q x1=some r):FPx 61 [.agg (BK.row x1)] (.bv r):=by
 have ok:=oJ 61 Tryz.f61 [.t 2] 1 26;refine FP ok fun w0 H0=>?_;rw [Z4q] at h;refine Vg 10 ?_;refine Vk [1,1] (fun _=>[]) (Z1q x1) r ?_ fun J1=>?_
 ·rintro ⟨⟩ h;rw [Z1q] at h;exact W
 ·refine Vg 1 ?_;refine Mk h [1,1] (fun x5=>[(3,.iv x5)]) ?_;rintro n1 x5 y1 h hin1 hout1;rw [Z3q] at h;refine Vg 9 ?_;refine Vk [1,1,1,1] (fun x6=>[(12,.bv x6)]) (Z2q x1 x5) y1 ?_ fun J2=>?_
  ·intro x6 h;rw [Z2q] at h;exact W
  ·exact W
@[go_sem] def Z6q:EC:=.seq (.seq (.reg [Qm 11 5,Qm 12 0,Qa 13 (.len (.t 12)),Qa 14 (.bin .lss (.t 11) (.t 13))]) (.ite (.t 14) (.skip) (.exit 0))) (.seq (.blk 1 (.seq (.drw [Qm 17 0,Qm 18 5,Qk 19 2 17 18,Qe 20 2 19,Qm 21 1,Qm 22 5,Qk 23 2 21 22,Qe 24 2 23,Qa 25 (.eqs true [true,true] (.t 20) (.t 24))] [[],[],[0,1],[2,0,1],[],[],[4,5],[6,4,5],[3,7,2,0,1,6,4,5]] [[2],[2],[0,1,3],[2,8],[6],[6],[4,5,7],[6,8],[3,7]]) (.ite (.t 25) (.seq (.reg [Qa 4 (.mv (.c .ff))]) (.ret)) (.skip)))) (.reg [Qm 15 5,Qv 16 15 1,Qm 5 16]))
@[go_sem] def e34:EC:=.seq (.reg [Qa 4 (.mv (.c .ff))]) (.seq (.seq (.reg [Qm 6 0,Qa 7 (.len (.t 6)),Qm 8 1,Qa 9 (.len (.t 8)),Qa 10 (.bin .neq (.t 7) (.t 9))]) (.ite (.t 10) (.seq (.reg [Qa 4 (.mv (.c .ff))]) (.ret)) (.skip))) (.seq (.seq (.reg [Qi 5 0]) (.blk 0 (.loop Z6q))) (.seq (.reg [Qa 4 (.mv (.c .tt))]) (.ret))))
def Z7q:Unit→Option Bool
| ()=>some true
def Z8q (x1 x2:List KE):Int→Option (Int ⊕ Bool)
| x6=>
 ifb (decide (x6<(ln KE.row x1))) (
 (at_ x1 x6).bind fun x7=>
 (at_ x2 x6).bind fun x8=>
 ifb (!(decide (x7.PE=x8.PE)&&(decide (x7.EP=x8.EP)&&true))) (
 Option.map Sum.inr (some false)) (
 some (.inl (wr (x6+1))))) (
 Option.map Sum.inr (Z7q ()))
def Z9q (x1 x2:List KE):Option Bool:=
 ifb (!decide ((ln KE.row x1)=(ln KE.row x2))) (
 some false) (
 loop (Z8q x1 x2) 0)
theorem Zaq {x1 x2 r} (h:Z9q x1 x2=some r):FPx 34 [Sp2 x1,Sp2 x2] (.bv r):=by
 have ok:=oK 34 Tryz.f34 e34 [.t 4] 2 24;refine FP ok fun w0 H0=>?_;rw [Z9q] at h;refine Vg 13 ?_;refine MI h (fun h=>?_) fun h=>?_
 ·exact W
 ·refine Vg 6 ?_;refine Vk [] (fun _=>[]) Z7q r ?_ fun J1=>?_
  ·rintro ⟨⟩ h;rw [Z7q] at h;exact W
  ·refine Vg 1 ?_;refine Mk h [0,2] (fun x6=>[(5,.iv x6)]) ?_;rintro n1 x6 y1 h hin1 hout1;rw [Z8q] at h;refine Vg 8 ?_;refine MI h (fun h=>?_) fun h=>?_
   ·refine Vg 4 ?_;have ⟨x7,ex7,h⟩:=Bs h;have ⟨x8,ex8,h⟩:=Bs h;refine Zgj fun all H=>Gs ?_;exact W
   ·exact W
def Zbq:Bool→Option Bool
| x3=>some x3
def Zcq (x1:BK):Option Bool:=
 ifb (decide (0<(ln SE.row x1.SE))) (
 (at_ x1.SE 0).bind fun x2=>
 Zbq (decide (x2.SS=1))) (
 Zbq false)
theorem Zdq {x1 r} (h:Zcq x1=some r):FPx 94 [.agg (BK.row x1)] (.bv r):=by
 have ok:=oJ 94 Tryz.f94 [.t 2] 1 14;refine FP ok fun w0 H0=>?_;rw [Zcq] at h;refine Vg 12 ?_;refine Vl [] (fun x3=>([(2,.bv x3)],[],[])) Zbq r ?_ fun J1=>?_
 ·intro x3 h;rw [Zbq] at h;exact W
 ·exact W
def Zeq:Unit→Option Bool
| ()=>some true
def Zfq (x7:Int):Bool→Option (Int ⊕ Bool)
| x10=>
 ifb x10 (
 Option.map Sum.inr (some false)) (
 some (.inl (wr (x7+1))))
def Zgq (x1:DI):Int→Option (Int ⊕ Bool)
| x7=>
 ifb (decide (x7<(ln SX.row x1.SD))) (
 (at_ x1.SD x7).bind fun x8=>
 ifb (decide (x8.PE<0)) (
 (Zfq x7) true) (
 ifb (decide (x8.PE=x1.ID)) (
 (Zfq x7) true) (
 ifb (decide (0<x7)) (
 (at_ x1.SD (wr (x7-1))).bind fun x9=>
 ifb (decide (x8.PE≤x9.PE)) (
 (Zfq x7) true) (
 ifb (decide (x8.EP<0)) (
 (Zfq x7) true) (
 ifb (decide (65535<x8.EP)) (
 (Zfq x7) true) (
 ifb (decide (x8.SS<0)) (
 (Zfq x7) true) (
 ifb (decide (3<x8.SS)) (
 (Zfq x7) true) (
 ifb x8.DY (
 (Zfq x7) (!x8.FK)) (
 (Zfq x7) false))))))) (
 ifb (decide (x8.EP<0)) (
 (Zfq x7) true) (
 ifb (decide (65535<x8.EP)) (
 (Zfq x7) true) (
 ifb (decide (x8.SS<0)) (
 (Zfq x7) true) (
 ifb (decide (3<x8.SS)) (
 (Zfq x7) true) (
 ifb x8.DY (
 (Zfq x7) (!x8.FK)) (
 (Zfq x7) false))))))))) (
 Option.map Sum.inr (Zeq ()))
def Zhq (x1:DI):Bool→Option Bool
| x2=>
 ifb x2 (
 some false) (
 loop (Zgq x1) 0)
def Ziq (x1:DI):Option Bool:=
 ifb (decide (x1.ID<0)) (
 (Zhq x1) true) (
 ifb (!decide (x1.PH=0)) (
 ifb (!decide (x1.PH=1)) (
 ifb (!decide (x1.PH=2)) (
 (Zhq x1) true) (
 (Zhq x1) (decide (63<(ln SX.row x1.SD))))) (
 (Zhq x1) (decide (63<(ln SX.row x1.SD))))) (
 (Zhq x1) (decide (63<(ln SX.row x1.SD)))))
theorem Zjq {x1 r} (h:Ziq x1=some r):FPx 151 [.agg (DI.row x1)] (.bv r):=by
 have ok:=oJ 151 Tryz.f151 [.t 2] 1 95;refine FP ok fun w0 H0=>?_;rw [Ziq] at h;refine Vg 12 ?_;refine Vk [1,1] (fun x2=>[(28,.bv x2)]) (Zhq x1) r ?_ fun J1=>?_
 ·intro x2 h;rw [Zhq] at h;refine MI h (fun h=>?_) fun h=>?_
  ·exact W
  ·refine Vg 6 ?_;refine Vl [] (fun _=>([],[],[])) Zeq r ?_ fun J2=>?_
   ·rintro ⟨⟩ h;rw [Zeq] at h;exact W
   ·refine Vg 1 ?_;refine Mk h [1,1] (fun x7=>[(3,.iv x7)]) ?_;rintro n1 x7 y1 h hin1 hout1;rw [Zgq] at h;refine Vg 9 ?_;refine MI h (fun h=>?_) fun h=>?_
    ·refine Vg 8 ?_;have ⟨x8,ex8,h⟩:=Bs h;refine Zjc SX.row ex8 trivial rfl rfl rfl (Vg 5 ?_);refine Vl [1,1,1,1] (fun x10=>([(95,.bv x10)],[some ⟨58,DI.row x1⟩],[])) (Zfq x7) y1 ?_ fun J3=>?_
     ·intro x10 h;rw [Zfq] at h;exact W
     ·refine Zgj fun all H=>Ds (GP H 4 51 [4,51] [(41,[.ptr 1 0,.iv x8.PE,.bv (decide (x8.PE<0)),.bv (decide (x8.PE<0))])] (Ds ?_));refine Zdd 44 h rfl (fun _ h=>?_) fun _ h=>?_
      ·refine Ds (GP H 51 0 [55] [(45,[.un,.un,.un,.un,.un,.tt,.tt,.un,.un,.un,.un,.un,.un,.un,.un,.un,.un,.un,.un,.un,.un,.tt,.tt,.un,.un,.un,.tt,.tt,.un,.un,.un,.tt,.tt,.un,.un,.un,.tt,.tt,.un,.un,.un,.tt,.tt,.un,.un,.un,.un,.un,.un,.un,.tt])] (Ds ?_));refine GD ?_;exact W
      ·refine Ds (GP H 7 44 [11,44] [(45,[.ptr 1 0,.iv x8.PE,.ptr 0 0,.iv x1.ID,.bv (decide (x8.PE=x1.ID)),.bv (decide (x8.PE=x1.ID)),.bv (decide (x8.PE=x1.ID))])] (Ds ?_));refine Zdd 51 h rfl (fun _ h=>?_) fun _ h=>?_
       ·refine Ds (GP H 44 0 [55] [(52,[.un,.un,.un,.un,.un,.un,.un,.un,.un,.un,.un,.un,.un,.un,.tt,.tt,.un,.un,.un,.tt,.tt,.un,.un,.un,.tt,.tt,.un,.un,.un,.tt,.tt,.un,.un,.un,.tt,.tt,.un,.un,.un,.un,.un,.un,.un,.tt])] (Ds ?_));refine GD ?_;exact W
       ·refine Ds (GP H 3 41 [14,41] [(52,[.iv x7,.bv (decide (0<x7)),.bv (decide (0<x7))])] (Ds ?_));refine Zdd 54 h rfl (fun _ h=>?_) fun _ h=>?_
        ·refine Ds (GP H 6 35 [18,3,2,32] [(55,[.ptr 0 2,Sp3 x1.SD,.iv x7,.iv (wr (x7-1))]),(3,[.ptr 1 0,.iv x8.PE])] (Ds ?_));have ⟨x9,ex9,h⟩:=Bs h;refine Zkc H.1 H.2.1 H.2.2.1 H.2.2.2 18 SX.row ex9 rfl rfl trivial rfl rfl rfl rfl (GP H 6 28 [27,28] [(60,[.elt (SX.row x9) 0,.iv x9.PE]),(2,[.bv (decide (x8.PE≤x9.PE)),.bv (decide (x8.PE≤x9.PE)),.bv (decide (x8.PE≤x9.PE)),.bv (decide (x8.PE≤x9.PE))])] (Ds ?_));refine Zdd 67 h rfl (fun _ h=>?_) fun _ h=>?_
         ·refine Ds (GP H 28 0 [55] [(68,[.un,.un,.un,.tt,.tt,.un,.un,.un,.tt,.tt,.un,.un,.un,.tt,.tt,.un,.un,.un,.tt,.tt,.un,.un,.un,.un,.un,.un,.un,.tt])] (Ds ?_));refine GD ?_;exact W
         ·refine Ds (GP H 5 23 [32,23] [(68,[.ptr 1 1,.iv x8.EP,.bv (decide (x8.EP<0)),.bv (decide (x8.EP<0)),.bv (decide (x8.EP<0))])] (Ds ?_));refine Zdd 72 h rfl (fun _ h=>?_) fun _ h=>?_
          ·refine Ds (GP H 23 0 [55] [(73,[.un,.un,.un,.tt,.tt,.un,.un,.un,.tt,.tt,.un,.un,.un,.tt,.tt,.un,.un,.un,.un,.un,.un,.un,.tt])] (Ds ?_));refine GD ?_;exact W
          ·refine Ds (GP H 5 18 [37,18] [(73,[.ptr 1 1,.iv x8.EP,.bv (decide (65535<x8.EP)),.bv (decide (65535<x8.EP)),.bv (decide (65535<x8.EP))])] (Ds ?_));refine Zdd 77 h rfl (fun _ h=>?_) fun _ h=>?_
           ·refine Ds (GP H 18 0 [55] [(78,[.un,.un,.un,.tt,.tt,.un,.un,.un,.tt,.tt,.un,.un,.un,.un,.un,.un,.un,.tt])] (Ds ?_));refine GD ?_;exact W
           ·refine Ds (GP H 5 13 [42,13] [(78,[.ptr 1 2,.iv x8.SS,.bv (decide (x8.SS<0)),.bv (decide (x8.SS<0)),.bv (decide (x8.SS<0))])] (Ds ?_));refine Zdd 82 h rfl (fun _ h=>?_) fun _ h=>?_
            ·refine Ds (GP H 13 0 [55] [(83,[.un,.un,.un,.tt,.tt,.un,.un,.un,.un,.un,.un,.un,.tt])] (Ds ?_));refine GD ?_;exact W
            ·refine Ds (GP H 5 8 [47,8] [(83,[.ptr 1 2,.iv x8.SS,.bv (decide (3<x8.SS)),.bv (decide (3<x8.SS)),.bv (decide (3<x8.SS))])] (Ds ?_));refine Zdd 87 h rfl (fun _ h=>?_) fun _ h=>?_
             ·refine Ds (GP H 8 0 [55] [(88,[.un,.un,.un,.un,.un,.un,.un,.tt])] (Ds ?_));refine GD ?_;exact W
             ·refine Ds (GP H 3 5 [50,5] [(88,[.ptr 1 4,.bv x8.DY,.bv x8.DY])] (Ds ?_));refine Zdd 90 h rfl (fun _ h=>?_) fun _ h=>?_
              ·refine Ds (GP H 5 0 [55] [(91,[.ptr 1 3,.bv x8.FK,.bv (!x8.FK),.bv (!x8.FK),.bv (!x8.FK)])] (Ds ?_));refine GD ?_;exact W
              ·refine Ds (GP H 5 0 [55] [(91,[.un,.un,.un,.ff,.ff])] (Ds ?_));refine GD ?_;exact W
        ·refine Ds (GP H 18 23 [32,23] [(55,[.un,.un,.un,.un,.un,.un,.un,.un,.un,.un,.ff,.ff,.ff,.ptr 1 1,.iv x8.EP,.bv (decide (x8.EP<0)),.bv (decide (x8.EP<0)),.bv (decide (x8.EP<0))])] (Ds ?_));refine Zdd 72 h rfl (fun _ h=>?_) fun _ h=>?_
         ·refine Ds (GP H 23 0 [55] [(73,[.un,.un,.un,.tt,.tt,.un,.un,.un,.tt,.tt,.un,.un,.un,.tt,.tt,.un,.un,.un,.un,.un,.un,.un,.tt])] (Ds ?_));refine GD ?_;exact W
         ·refine Ds (GP H 5 18 [37,18] [(73,[.ptr 1 1,.iv x8.EP,.bv (decide (65535<x8.EP)),.bv (decide (65535<x8.EP)),.bv (decide (65535<x8.EP))])] (Ds ?_));refine Zdd 77 h rfl (fun _ h=>?_) fun _ h=>?_
          ·refine Ds (GP H 18 0 [55] [(78,[.un,.un,.un,.tt,.tt,.un,.un,.un,.tt,.tt,.un,.un,.un,.un,.un,.un,.un,.tt])] (Ds ?_));refine GD ?_;exact W
          ·refine Ds (GP H 5 13 [42,13] [(78,[.ptr 1 2,.iv x8.SS,.bv (decide (x8.SS<0)),.bv (decide (x8.SS<0)),.bv (decide (x8.SS<0))])] (Ds ?_));refine Zdd 82 h rfl (fun _ h=>?_) fun _ h=>?_
           ·refine Ds (GP H 13 0 [55] [(83,[.un,.un,.un,.tt,.tt,.un,.un,.un,.un,.un,.un,.un,.tt])] (Ds ?_));refine GD ?_;exact W
           ·refine Ds (GP H 5 8 [47,8] [(83,[.ptr 1 2,.iv x8.SS,.bv (decide (3<x8.SS)),.bv (decide (3<x8.SS)),.bv (decide (3<x8.SS))])] (Ds ?_));refine Zdd 87 h rfl (fun _ h=>?_) fun _ h=>?_
            ·refine Ds (GP H 8 0 [55] [(88,[.un,.un,.un,.un,.un,.un,.un,.tt])] (Ds ?_));refine GD ?_;exact W
            ·refine Ds (GP H 3 5 [50,5] [(88,[.ptr 1 4,.bv x8.DY,.bv x8.DY])] (Ds ?_));refine Zdd 90 h rfl (fun _ h=>?_) fun _ h=>?_
             ·refine Ds (GP H 5 0 [55] [(91,[.ptr 1 3,.bv x8.FK,.bv (!x8.FK),.bv (!x8.FK),.bv (!x8.FK)])] (Ds ?_));refine GD ?_;exact W
             ·refine Ds (GP H 5 0 [55] [(91,[.un,.un,.un,.ff,.ff])] (Ds ?_));refine GD ?_;exact W
    ·exact W
 ·exact W
end
end NX
end Go.Proofs.YtgamgemlekpepaaGreat
