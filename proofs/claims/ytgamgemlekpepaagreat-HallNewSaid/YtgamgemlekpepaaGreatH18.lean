/-
  The function (*narthex/node.node).need, lent own memory. Written by a program of ours (lb.py). No statement of the seat is proved here.
-/
import Derived.Test.YtgamgemlekpepaaGreatH15
import Derived.Test.YtgamgemlekpepaaGreatH16
set_option maxRecDepth 100000
set_option maxHeartbeats 4000000
namespace Go.Proofs.YtgamgemlekpepaaGreat
namespace NX
open Go
noncomputable section
def Zps:Int→Option (Bool×Int)
| x15=>some (decide (x15=0),x15)
def Zqs (x2 x8:Int):Bool→Option (Bool×Int)
| x14=>
 ifb x14 (
 Zps x2) (
 Zps x8)
def Zrs (x1:Bool) (x2:Int) (_x3 _x4:Int) (_x5 _x6:Int) (_x7:List Sess) (x8:Int) (_x9:List Side) (_x10:List Int) (_x11:List KE) (_x12:List Int) (_x13:List KE):Option (Bool×Int):=
 ifb (decide (x8=0)) (
 (Zqs x2 x8) (!x1)) (
 (Zqs x2 x8) false)
theorem Zss {x1 x2 x3 x4 x5 x6 x7 x8 x9 x10 x11 x12 x13 r} (h:Zrs x1 x2 x3 x4 x5 x6 x7 x8 x9 x10 x11 x12 x13=some r):Z0f Tryz.prog 69 [.ptr 0 0,.bv x1,.iv x2] [some ⟨138,[.iv x3,.iv x4,.osl 0,.iv x5,.osl 1,.iv x6,Sp5 x7,.osl 2,.osl 3,.osl 4,.nl,.nl,.iv x8]⟩] [Zwj x9,Sq4 x10,Zxj x11,Sq4 x12,Zxj x13] (.bv r.1) [some ⟨138,[.iv x3,.iv x4,.osl 0,.iv x5,.osl 1,.iv x6,Sp5 x7,.osl 2,.osl 3,.osl 4,.nl,.nl,.iv r.2]⟩] [Zwj x9,Sq4 x10,Zxj x11,Sq4 x12,Zxj x13]:=by
 refine FT Zsm fun w0 M0=>?_;have ok:=Zsm;rw [Zrs] at h;dsimp only[lun,List.cons_append,List.nil_append];refine Vg 13 ?_;refine Vk [0,1,1,1] (fun x14=>[(15,.bv x14)]) (Zqs x2 x8) r ?_ fun J1=>?_
 ·intro x14 h;rw [Zqs] at h;(try dsimp only);refine Vm [0,1] (fun x15=>([],[(0,12,.iv x15)],[],[])) Zps r ?_ fun J2=>?_
  ·intro x15 h;rw [Zps] at h;(try dsimp only);refine Vg 9 ?_;obtain rfl:=Option.some.inj h;exact Zkj Zsm
  ·exact W
 ·exact W
def Zts:List Int→Option (List Int)
| x33=>some x33
def Zus (x17:Int):List Int→Option ((Int×List Int) ⊕ (List Int))
| x22=>some (.inl (wr (x17+1),x22))
def Zvs (x6:List Side) (p0:(Side→Option Bool)):(Int×List Int)→Option ((Int×List Int) ⊕ (List Int))
| (x17,x18)=>
 ifb (decide (x17<(ln Side.row x6))) (
 (at_ x6 x17).bind fun x19=>
 (p0 x19).bind fun x20=>
 ifb x20 (
 (Z7c 8 x18 ([x19.Peer])).bind fun x21=>
 (Zus x17) x21) (
 (Zus x17) x18)) (
 Option.map Sum.inr (Zts x18))
def Zws (_x1 _x2:Int) (_x3 _x4:Int) (_x5:List Sess) (x6:List Side) (_x7:List Int) (_x8:List KE) (_x9:List Int) (_x10:List KE) (p0:(Side→Option Bool)):Option (List Int):=loop (Zvs x6 p0) (0,([]:List Int))
theorem Zxs {x1 x2 x3 x4 x5 x6 x7 x8 x9 x10 g0 caps0 p0 r} (h:Zws x1 x2 x3 x4 x5 x6 x7 x8 x9 x10 p0=some r) (hc0:CloOK Tryz.prog g0 caps0 (fun z=>[.agg (Side.row z)]) p0 (fun z=>.bv z)):Z0f Tryz.prog 113 [.agg [.iv x1,.iv x2,.osl 0,.iv x3,.osl 1,.iv x4,Sp5 x5,.osl 2,.osl 3,.osl 4],.clo g0 caps0] [] [Zwj x6,Sq4 x7,Zxj x8,Sq4 x9,Zxj x10] (.osl 5) [] [Zwj x6,Sq4 x7,Zxj x8,Sq4 x9,Zxj x10,Sq4 r]:=by
 refine FT Ztm fun w0 M0=>?_;rw [Zws] at h;dsimp only[lun,List.cons_append,List.nil_append];refine Vg 19 ?_;refine Vl [] (fun x33=>([(5,.osl 5)],[],[Zwj x6,Sq4 x7,Zxj x8,Sq4 x9,Zxj x10,Sq4 x33])) Zts r ?_ fun J1=>?_
 ·intro x33 h;rw [Zts] at h;(try dsimp only);refine Vg 5 ?_;obtain rfl:=Option.some.inj h;exact Zkj Ztm
 ·refine Vg 1 ?_;refine Zbb 5 3 1 rfl rfl (Ds ?_);refine Ml h [1,1,3,1,5,2] (fun s=>([(13,.iv s.1)],[],[Zwj x6,Sq4 x7,Zxj x8,Sq4 x9,Zxj x10,Sq4 s.2])) ?_ (hok:=by rintro ⟨x17,x18⟩;first | rfl | (simp [go_sem];done) | simp [go_sem,Zpb _ hc0.pu]);rintro n1 ⟨x17,x18⟩ y1 h hin1 hout1;rw [Zvs] at h;(try dsimp only);refine Vg 5 ?_;refine MI h (fun h=>?_) fun h=>?_
  ·refine Vg 5 ?_;have ⟨x19,ex19,h⟩:=Bs h;refine Zde Side.row ex19 trivial rfl rfl rfl (Zme Side.row ex19 trivial rfl rfl rfl (Vg 7 ?_));have ⟨x20,ex20,h⟩:=Bs h;refine Z2d trivial rfl hc0 (x:=x19) ex20 (by first | exact Zqb _ | simp [go_sem]) (by first | rfl | simp [go_sem,hc0.pu]) (Vg 1 ?_);refine Vl [1,1,3,1,5,3] (fun x22=>([],[],[Zwj x6,Sq4 x7,Zxj x8,Sq4 x9,Zxj x10,Sq4 x22])) (Zus x17) y1 ?_ fun J2=>?_
   ·intro x22 h;rw [Zus] at h;(try dsimp only);refine Vg 5 ?_;exact Zrc h hin1 (hok:=by first | rfl | simp [go_sem,Zpb _ hc0.pu])
   ·refine MI h (fun h=>?_) fun h=>?_
    ·refine Vg 5 ?_;have ⟨x21,ex21,h⟩:=Bs h;refine Zlc Z3d ex21 trivial rfl rfl rfl (Vg 2 ?_);refine Zgj 7 5 (Ds ?_);(try rw [Zlh _ _ _ hc0.pu]);exact Zsc J2 h (hok:=by first | rfl | simp [go_sem,Zpb _ hc0.pu])
    ·refine Vg 1 ?_;exact Zsc J2 h (hok:=by first | rfl | simp [go_sem,Zpb _ hc0.pu])
  ·refine Vg 1 ?_;exact Zsc J1 (Zdc h hout1) (hok:=by first | rfl | simp [go_sem])
def Zys (x1 x2:Int) (x3 _x4:Int) (_x5 _x6:Int) (_x7:List Sess) (_x8:Int) (_x9:List Side) (_x10:List Int) (_x11:List KE) (_x12:List Int) (_x13:List KE):Option (List Event):=
 (Z7c 56 [] ([Event.mk x1 x3 x2 0 (([]:List Int))])).bind fun x14=>
 some x14
theorem Zzs {x1 x2 x3 x4 x5 x6 x7 x8 x9 x10 x11 x12 x13 r} (h:Zys x1 x2 x3 x4 x5 x6 x7 x8 x9 x10 x11 x12 x13=some r):Z0f Tryz.prog 125 [.ptr 0 0,.iv x1,.iv x2] [some ⟨138,[.iv x3,.iv x4,.osl 0,.iv x5,.osl 1,.iv x6,Sp5 x7,.osl 2,.osl 3,.osl 4,.nl,.nl,.iv x8]⟩] [Zwj x9,Sq4 x10,Zxj x11,Sq4 x12,Zxj x13] (.tup []) [some ⟨138,[.iv x3,.iv x4,.osl 0,.iv x5,.osl 1,.iv x6,Sp5 x7,.osl 2,.osl 3,.osl 4,.nl,.osl 6,.iv x8]⟩] [Zwj x9,Sq4 x10,Zxj x11,Sq4 x12,Zxj x13,none,Zzj r]:=by refine FT Z1n fun w0 M0=>?_;rw [Zys] at h;dsimp only[lun,List.cons_append,List.nil_append];refine Zej fun all H=>Ds (GP H 14 6 [14,6] [(6,[.ptr 0 0,.ptr 0 0,.ptr 0 0,.ptr 0 11,.nl,.iv x1,.ptr 0 0,.ptr 0 0,.ptr 0 0,.ptr 0 0,.ptr 0 0,.ptr 0 0,.iv x3,.iv x2])] (Ds ?_));refine Zma 14 rfl (Zyf (.agg [.iv x1,.iv x3,.iv x2,.iv 0,Sp1 (([]:List Int))]) H.1 rfl trivial (by simp [go_sem]) (Ds ?_));refine R1 ?_;refine Zma 16 rfl ?_;have ⟨x14,ex14,h⟩:=Bs h;refine Znc Event.row ex14 H.1 rfl trivial rfl rfl ?_;refine Gn H 2 1 ?_;refine R1 ?_;refine GD ?_;obtain rfl:=Option.some.inj h;exact Zlj Z1n
theorem Z0t {l r} (h:Zbm l=some r):
  Z0f Tryz.prog 46 [.osl 0] [] [some ⟨112,8,l.map Side.row⟩] (.osl 1) [] [some ⟨112,8,l.map Side.row⟩,some ⟨112,8,r.map Side.row⟩]:=by
 unfold Zbm at h;refine FT Zam fun w0 M0=>?_;dsimp only[lun,List.cons_append,List.nil_append];refine Zf6 100 ?_;dsimp only[go_sem];refine An ?_;refine Z6i trivial rfl rfl (fun hn=>?_) ?_
 ·refine Zf6 100 ?_;dsimp only[go_sem];refine An ?_;refine Zbb 2 112 8 rfl rfl ?_;dsimp only[go_sem];have hn:l=[]:=by simpa using hn
  subst hn;obtain rfl:r=[]:=by simpa [Z7c] using h.symm
  exact Zkj Zam
 ·refine Zf6 100 ?_;dsimp only[go_sem];refine An ?_;refine Zlc Side.row (l':=[]) h trivial rfl rfl rfl ?_;refine Zf6 100 ?_;dsimp only[go_sem];refine An ?_;refine Zgj 2 1 ?_;dsimp only[go_sem];exact Zkj Zam
theorem Z1t {l r} (h:Z0l l=some r):
  Z0f Tryz.prog 47 [.osl 0] [] [some ⟨3,1,l.map Z3d⟩] (.osl 1) [] [some ⟨3,1,l.map Z3d⟩,some ⟨3,1,r.map Z3d⟩]:=by
 unfold Z0l at h;refine FT Zzk fun w0 M0=>?_;dsimp only[lun,List.cons_append,List.nil_append];refine Zf6 100 ?_;dsimp only[go_sem];refine An ?_;refine Z6i trivial rfl rfl (fun hn=>?_) ?_
 ·refine Zf6 100 ?_;dsimp only[go_sem];refine An ?_;refine Zbb 2 3 1 rfl rfl ?_;dsimp only[go_sem];have hn:l=[]:=by simpa using hn
  subst hn;obtain rfl:r=[]:=by simpa [Z7c] using h.symm
  exact Zkj Zzk
 ·refine Zf6 100 ?_;dsimp only[go_sem];refine An ?_;refine Zlc Z3d (l':=[]) h trivial rfl rfl rfl ?_;refine Zf6 100 ?_;dsimp only[go_sem];refine An ?_;refine Zgj 2 1 ?_;dsimp only[go_sem];exact Zkj Zzk
def Z2t (_x1 _x2:Int) (_x3 _x4:Int) (_x5:List Side) (_x6:List Int) (x7:List Sess) (_x8:List KE) (_x9:List Int) (_x10:List KE):Option (Sess×Bool):=
 ifb (decide ((ln Sess.row x7)=0)) (
 some ((Sess.mk 0 (([]:List Int)) 0 0),false)) (
 (at_ x7 0).bind fun x11=>
 some (x11,true))
theorem Z3t {x1 x2 x3 x4 x5 x6 x7 x8 x9 x10 r} (h:Z2t x1 x2 x3 x4 x5 x6 x7 x8 x9 x10=some r):Z0f Tryz.prog 110 [.agg [.iv x1,.iv x2,.osl 0,.iv x3,.osl 1,.iv x4,.osl 2,.osl 3,.osl 4,.osl 5]] [] [Zwj x5,Sq4 x6,Zuj x7,Zxj x8,Sq4 x9,Zxj x10] (.tup [.agg [.iv r.1.ID,Sp1 r.1.Need,.iv r.1.State,.iv r.1.Age],.bv r.2]) [] [Zwj x5,Sq4 x6,Zuj x7,Zxj x8,Sq4 x9,Zxj x10]:=by
 refine FT Z2n fun w0 M0=>?_;rw [Z2t] at h;dsimp only[lun,List.cons_append,List.nil_append];refine Vg 15 ?_;refine MI h (fun h=>?_) fun h=>?_
 ·refine Vg 6 ?_;obtain rfl:=Option.some.inj h;exact Zkj Z2n
 ·refine Vg 6 ?_;have ⟨x11,ex11,h⟩:=Bs h;refine Zde Sess.row ex11 trivial rfl rfl rfl (Zme Sess.row ex11 trivial rfl rfl rfl (Vg 3 ?_));obtain rfl:=Option.some.inj h;exact Zkj Z2n
def Z4t:Int→Option (Bool×Int)
| x15=>some (decide (x15=0),x15)
def Z5t (x2 x7:Int):Bool→Option (Bool×Int)
| x14=>
 ifb x14 (
 Z4t x2) (
 Z4t x7)
def Z6t (x1:Bool) (x2:Int) (_x3 _x4:Int) (_x5 _x6 x7:Int) (_x8:List Side) (_x9:List Int) (_x10:List Sess) (_x11:List KE) (_x12:List Int) (_x13:List KE):Option (Bool×Int):=
 ifb (decide (x7=0)) (
 (Z5t x2 x7) (!x1)) (
 (Z5t x2 x7) false)
theorem Z7t {x1 x2 x3 x4 x5 x6 x7 x8 x9 x10 x11 x12 x13 r} (h:Z6t x1 x2 x3 x4 x5 x6 x7 x8 x9 x10 x11 x12 x13=some r):Z0f Tryz.prog 69 [.ptr 0 0,.bv x1,.iv x2] [some ⟨138,[.iv x3,.iv x4,.osl 0,.iv x5,.osl 1,.iv x6,.osl 2,.osl 3,.osl 4,.osl 5,.nl,.nl,.iv x7]⟩] [Zwj x8,Sq4 x9,Zuj x10,Zxj x11,Sq4 x12,Zxj x13] (.bv r.1) [some ⟨138,[.iv x3,.iv x4,.osl 0,.iv x5,.osl 1,.iv x6,.osl 2,.osl 3,.osl 4,.osl 5,.nl,.nl,.iv r.2]⟩] [Zwj x8,Sq4 x9,Zuj x10,Zxj x11,Sq4 x12,Zxj x13]:=by
 refine FT Zsm fun w0 M0=>?_;have ok:=Zsm;rw [Z6t] at h;dsimp only[lun,List.cons_append,List.nil_append];refine Vg 13 ?_;refine Vk [0,1,1,1] (fun x14=>[(15,.bv x14)]) (Z5t x2 x7) r ?_ fun J1=>?_
 ·intro x14 h;rw [Z5t] at h;(try dsimp only);refine Vm [0,1] (fun x15=>([],[(0,12,.iv x15)],[],[])) Z4t r ?_ fun J2=>?_
  ·intro x15 h;rw [Z4t] at h;(try dsimp only);refine Vg 9 ?_;obtain rfl:=Option.some.inj h;exact Zkj Zsm
  ·exact W
 ·exact W
def Z8t:Int→Option (Bool×Int)
| x14=>some (decide (x14=0),x14)
def Z9t (x1 x6:Int):Bool→Option (Bool×Int)
| x13=>
 ifb x13 (
 Z8t x1) (
 Z8t x6)
def Zat (x1 _x2:Int) (_x3 _x4:Int) (_x5 x6:Int) (_x7:List Side) (_x8:List Int) (_x9:List Sess) (_x10:List KE) (_x11:List Int) (_x12:List KE):Option (Bool×Int):=
 ifb (decide (x6=0)) (
 (Z9t x1 x6) true) (
 (Z9t x1 x6) false)
theorem Zbt {x1 x2 x3 x4 x5 x6 x7 x8 x9 x10 x11 x12 r} (h:Zat x1 x2 x3 x4 x5 x6 x7 x8 x9 x10 x11 x12=some r):Z0f Tryz.prog 69 [.ptr 0 0,.ff,.iv x1] [some ⟨138,[.iv x2,.iv x3,.osl 0,.iv x4,.osl 1,.iv x5,.osl 2,.osl 3,.osl 4,.osl 5,.nl,.nl,.iv x6]⟩] [Zwj x7,Sq4 x8,Zuj x9,Zxj x10,Sq4 x11,Zxj x12] (.bv r.1) [some ⟨138,[.iv x2,.iv x3,.osl 0,.iv x4,.osl 1,.iv x5,.osl 2,.osl 3,.osl 4,.osl 5,.nl,.nl,.iv r.2]⟩] [Zwj x7,Sq4 x8,Zuj x9,Zxj x10,Sq4 x11,Zxj x12]:=by
 refine FT Zsm fun w0 M0=>?_;have ok:=Zsm;rw [Zat] at h;dsimp only[lun,List.cons_append,List.nil_append];refine Vg 13 ?_;refine Vk [0,1,1,1] (fun x13=>[(15,.bv x13)]) (Z9t x1 x6) r ?_ fun J1=>?_
 ·intro x13 h;rw [Z9t] at h;(try dsimp only);refine Vm [0,1] (fun x14=>([],[(0,12,.iv x14)],[],[])) Z8t r ?_ fun J2=>?_
  ·intro x14 h;rw [Z8t] at h;(try dsimp only);refine Vg 9 ?_;obtain rfl:=Option.some.inj h;exact Zkj Zsm
  ·exact W
 ·exact W
@[go_sem] def e66:EC:=eQ Tryz.f66
def Zct (x1:node_node) (x2:Int):Option Int:=
 (Zbk x1.Node.DK.DI.SD ((fun z=>Zjn z x2))).bind fun x3=>
 some x3
theorem Zdt {x1 x2 r} (h:Zct x1 x2=some r):Zy6 Tryz.prog 66 [.elt (node_node.row x1) 0,.iv x2] (.iv r):=by have ok:=oK 66 Tryz.f66 e66 [.t 4] 2 12;refine FP ok fun w0 H0=>?_;rw [Zct] at h;refine Vg 15 ?_;refine VN (LR.block 0 rfl rfl) h (fun e=>Zck e ⟨by kernel_rfl,rfl,fun z r hz=>Zkn hz⟩) fun _ _ h=>?_;exact W
@[go_sem] def e176:EC:=eQ Tryz.f176
theorem Zet:FnOK Tryz.prog 176 Tryz.f176 e176 [.t 4] 2 40:=okA
def Zft (x1 x2:Int) (x3 _x4:Int) (_x5 _x6 _x7:Int) (_x8:List Side) (_x9:List Int) (_x10:List Sess) (_x11:List KE) (_x12:List Int) (_x13:List KE):Option (List Event):=
 (Z7c 56 [] ([Event.mk x1 x3 0 x2 (([]:List Int))])).bind fun x14=>
 some x14
theorem Zgt {x1 x2 x3 x4 x5 x6 x7 x8 x9 x10 x11 x12 x13 r} (h:Zft x1 x2 x3 x4 x5 x6 x7 x8 x9 x10 x11 x12 x13=some r):Z0f Tryz.prog 81 [.ptr 0 0,.iv x1,.iv x2] [some ⟨138,[.iv x3,.iv x4,.osl 0,.iv x5,.osl 1,.iv x6,.osl 2,.osl 3,.osl 4,.osl 5,.nl,.nl,.iv x7]⟩] [Zwj x8,Sq4 x9,Zuj x10,Zxj x11,Sq4 x12,Zxj x13] (.tup []) [some ⟨138,[.iv x3,.iv x4,.osl 0,.iv x5,.osl 1,.iv x6,.osl 2,.osl 3,.osl 4,.osl 5,.nl,.osl 7,.iv x7]⟩] [Zwj x8,Sq4 x9,Zuj x10,Zxj x11,Sq4 x12,Zxj x13,none,Zzj r]:=by refine FT Zln fun w0 M0=>?_;rw [Zft] at h;dsimp only[lun,List.cons_append,List.nil_append];refine Zej fun all H=>Ds (GP H 14 6 [14,6] [(6,[.ptr 0 0,.ptr 0 0,.ptr 0 0,.ptr 0 11,.nl,.iv x1,.ptr 0 0,.ptr 0 0,.ptr 0 0,.ptr 0 0,.ptr 0 0,.ptr 0 0,.iv x3,.iv x2])] (Ds ?_));refine Zma 14 rfl (Zyf (.agg [.iv x1,.iv x3,.iv 0,.iv x2,Sp1 (([]:List Int))]) H.1 rfl trivial (by simp [go_sem]) (Ds ?_));refine R1 ?_;refine Zma 16 rfl ?_;have ⟨x14,ex14,h⟩:=Bs h;refine Znc Event.row ex14 H.1 rfl trivial rfl rfl ?_;refine Gn H 2 1 ?_;refine R1 ?_;refine GD ?_;obtain rfl:=Option.some.inj h;exact Zlj Zln
def Zht (_x1 _x2:Int) (_x3 _x4:Int) (x5:List Sess) (_x6:List Side) (_x7:List Int) (_x8:List KE) (_x9:List Int) (_x10:List KE):Option (Sess×Bool):=
 ifb (decide ((ln Sess.row x5)=0)) (
 some ((Sess.mk 0 (([]:List Int)) 0 0),false)) (
 (at_ x5 0).bind fun x11=>
 some (x11,true))
theorem Zit {x1 x2 x3 x4 x5 x6 x7 x8 x9 x10 r} (h:Zht x1 x2 x3 x4 x5 x6 x7 x8 x9 x10=some r):Z0f Tryz.prog 110 [.agg [.iv x1,.iv x2,.osl 0,.iv x3,.osl 1,.iv x4,Sp5 x5,.osl 2,.osl 3,.osl 4]] [] [Zwj x6,Sq4 x7,Zxj x8,Sq4 x9,Zxj x10] (.tup [.agg [.iv r.1.ID,Sp1 r.1.Need,.iv r.1.State,.iv r.1.Age],.bv r.2]) [] [Zwj x6,Sq4 x7,Zxj x8,Sq4 x9,Zxj x10]:=by
 refine FT Z2n fun w0 M0=>?_;rw [Zht] at h;dsimp only[lun,List.cons_append,List.nil_append];refine Vg 15 ?_;refine MI h (fun h=>?_) fun h=>?_
 ·refine Vg 6 ?_;obtain rfl:=Option.some.inj h;exact Zkj Z2n
 ·refine Vg 6 ?_;have ⟨x11,ex11,h⟩:=Bs h;refine Zic Sess.row ex11 trivial rfl rfl rfl (Vg 4 ?_);obtain rfl:=Option.some.inj h;exact Zkj Z2n
def Zjt (x1 x2:Int) (x3 _x4:Int) (_x5 _x6:Int) (_x7:List Sess) (_x8:Int) (_x9:List Side) (_x10:List Int) (_x11:List KE) (_x12:List Int) (_x13:List KE) (x14:List Event):Option (List Event):=
 (Z7c 56 x14 ([Event.mk x1 x3 x2 0 (([]:List Int))])).bind fun x15=>
 some x15
theorem Zkt {x1 x2 x3 x4 x5 x6 x7 x8 x9 x10 x11 x12 x13 x14 r} (h:Zjt x1 x2 x3 x4 x5 x6 x7 x8 x9 x10 x11 x12 x13 x14=some r):Z0f Tryz.prog 125 [.ptr 0 0,.iv x1,.iv x2] [some ⟨138,[.iv x3,.iv x4,.osl 0,.iv x5,.osl 1,.iv x6,Sp5 x7,.osl 2,.osl 3,.osl 4,.nl,.osl 5,.iv x8]⟩] [Zwj x9,Sq4 x10,Zxj x11,Sq4 x12,Zxj x13,Zzj x14] (.tup []) [some ⟨138,[.iv x3,.iv x4,.osl 0,.iv x5,.osl 1,.iv x6,Sp5 x7,.osl 2,.osl 3,.osl 4,.nl,.osl 7,.iv x8]⟩] [Zwj x9,Sq4 x10,Zxj x11,Sq4 x12,Zxj x13,none,none,Zzj r]:=by
 refine FT Z1n fun w0 M0=>?_;rw [Zjt] at h;dsimp only[lun,List.cons_append,List.nil_append];refine Zej fun all H=>Ds (GP H 13 7 [4,1,9,6] [(6,[.ptr 0 0,.ptr 0 0,.ptr 0 0,.ptr 0 11]),(1,[.iv x1,.ptr 0 0,.ptr 0 0,.ptr 0 0,.ptr 0 0,.ptr 0 0,.ptr 0 0,.iv x3,.iv x2])] (Ds ?_));refine Zna 4 14 rfl ?_ ?_
 ·refine RV ?_;refine Zma 14 rfl (Zyf (.agg [.iv x1,.iv x3,.iv x2,.iv 0,Sp1 (([]:List Int))]) H.1 rfl trivial (by simp [go_sem]) (Ds ?_));refine R1 ?_;refine Zma 16 rfl ?_;have ⟨x15,ex15,h⟩:=Bs h;refine GA Event.row ex15 H.1 ?_;refine Gn H 2 1 ?_;refine GE H.1 19 ?_;dsimp only[go_sem];refine GD ?_;obtain rfl:=Option.some.inj h;exact Zlj Z1n
 ·refine Zyf (.agg [.iv x1,.iv x3,.iv x2,.iv 0,Sp1 (([]:List Int))]) H.1 rfl trivial (by simp [go_sem]) (Ds ?_);refine Zna 4 15 rfl ?_ ?_
  ·refine RV ?_;refine R1 ?_;refine Zma 16 rfl ?_;have ⟨x15,ex15,h⟩:=Bs h;refine GA Event.row ex15 H.1 ?_;refine Gn H 2 1 ?_;refine R1 ?_;refine GD ?_;obtain rfl:=Option.some.inj h;exact Zlj Z1n
  ·refine RV ?_;refine R1 ?_;refine Zma 16 rfl ?_;have ⟨x15,ex15,h⟩:=Bs h;refine GA Event.row ex15 H.1 ?_;refine Gn H 2 1 ?_;refine R1 ?_;refine GD ?_;obtain rfl:=Option.some.inj h;exact Zlj Z1n
@[go_sem] def e140:EC:=eQ Tryz.f140
theorem Zlt:FnOK Tryz.prog 140 Tryz.f140 e140 [.t 4] 2 40:=okA
@[go_sem] def e144:EC:=eQ Tryz.f144
def Zmt:Bool→Option Bool
| x4=>some x4
def Znt (x1 x2:Sess):Option Bool:=
 ifb (decide (x1.ID=x2.ID)) (
 ifb (decide (x1.State=x2.State)) (
 ifb (decide (x1.Age=x2.Age)) (
 (Zmm x1.Need x2.Need).bind fun x3=>
 Zmt x3) (
 Zmt false)) (
 Zmt false)) (
 Zmt false)
theorem Zot {x1 x2 r} (h:Znt x1 x2=some r):Zy6 Tryz.prog 144 [.agg (Sess.row x1),.agg (Sess.row x2)] (.bv r):=by
 have ok:=oK 144 Tryz.f144 e144 [.t 4] 2 29;refine FP ok fun w0 H0=>?_;rw [Znt] at h;refine Vg 14 ?_;refine Vl [] (fun x4=>([(4,.bv x4)],[],[])) Zmt r ?_ fun J1=>?_
 ·intro x4 h;rw [Zmt] at h;exact W
 ·refine MC 10 h (fun h=>?_) fun h=>?_
  ·refine Vg 7 ?_;refine MC 17 h (fun h=>?_) fun h=>?_
   ·refine Vg 7 ?_;refine MC 24 h (fun h=>?_) fun h=>?_
    ·refine Vg 4 ?_;refine VB h Znm fun _ _ h=>?_;exact W
    ·exact W
   ·exact W
  ·exact W
theorem Zpt {l r} (h:Zpm l=some r):
  Z0f Tryz.prog 64 [.osl 0] [] [some ⟨121,2,l.map KE.row⟩] (.osl 1) [] [some ⟨121,2,l.map KE.row⟩,some ⟨121,2,r.map KE.row⟩]:=by
 unfold Zpm at h;refine FT Zom fun w0 M0=>?_;dsimp only[lun,List.cons_append,List.nil_append];refine Zf6 100 ?_;dsimp only[go_sem];refine An ?_;refine Z6i trivial rfl rfl (fun hn=>?_) ?_
 ·refine Zf6 100 ?_;dsimp only[go_sem];refine An ?_;refine Zbb 2 121 2 rfl rfl ?_;dsimp only[go_sem];have hn:l=[]:=by simpa using hn
  subst hn;obtain rfl:r=[]:=by simpa [Z7c] using h.symm
  exact Zkj Zom
 ·refine Zf6 100 ?_;dsimp only[go_sem];refine An ?_;refine Zlc KE.row (l':=[]) h trivial rfl rfl rfl ?_;refine Zf6 100 ?_;dsimp only[go_sem];refine An ?_;refine Zgj 2 1 ?_;dsimp only[go_sem];exact Zkj Zom
def Zqt (_x1 _x2:Int) (_x3 _x4:Int) (x5:List Sess) (_x6:List Int) (_x7:List Side) (_x8:List Int) (_x9 _x10:List KE):Option (Sess×Bool):=
 ifb (decide ((ln Sess.row x5)=0)) (
 some ((Sess.mk 0 (([]:List Int)) 0 0),false)) (
 (at_ x5 0).bind fun x11=>
 some (x11,true))
theorem Zrt {x1 x2 x3 x4 x5 x6 x7 x8 x9 x10 r} (h:Zqt x1 x2 x3 x4 x5 x6 x7 x8 x9 x10=some r):Z0f Tryz.prog 110 [.agg [.iv x1,.iv x2,.osl 0,.iv x3,.osl 1,.iv x4,Sp5 x5,.osl 2,Sp1 x6,.osl 3]] [] [Zwj x7,Sq4 x8,Zxj x9,Zxj x10] (.tup [.agg [.iv r.1.ID,Sp1 r.1.Need,.iv r.1.State,.iv r.1.Age],.bv r.2]) [] [Zwj x7,Sq4 x8,Zxj x9,Zxj x10]:=by
 refine FT Z2n fun w0 M0=>?_;rw [Zqt] at h;dsimp only[lun,List.cons_append,List.nil_append];refine Vg 15 ?_;refine MI h (fun h=>?_) fun h=>?_
 ·refine Vg 6 ?_;obtain rfl:=Option.some.inj h;exact Zkj Z2n
 ·refine Vg 6 ?_;have ⟨x11,ex11,h⟩:=Bs h;refine Zic Sess.row ex11 trivial rfl rfl rfl (Vg 4 ?_);obtain rfl:=Option.some.inj h;exact Zkj Z2n
def Zst (x1:Side) (x2:Int) (x3 _x4 _x5:Int) (_x6:List Side) (_x7:List Int) (x8:List Mail):Option (List Mail):=
 (Z7c 40 x8 ([Mail.mk x3 x1.Peer (Msg.mk x2 x1.Epoch 0)])).bind fun x9=>
 some x9
theorem Ztt {x1 x2 x3 x4 x5 x6 x7 x8 r} (h:Zst x1 x2 x3 x4 x5 x6 x7 x8=some r):Z0f Tryz.prog 243 [.ptr 0 0,.agg (Side.row x1),.iv x2] [some ⟨248,[.iv x3,.iv x4,.osl 0,.iv x5,.osl 1,.osl 2]⟩] [Zwj x6,Sq4 x7,Sq6 x8] (.tup []) [some ⟨248,[.iv x3,.iv x4,.osl 0,.iv x5,.osl 1,.osl 4]⟩] [Zwj x6,Sq4 x7,none,none,Sq6 r]:=by refine FT Zhm fun w0 M0=>?_;rw [Zst] at h;dsimp only[lun,List.cons_append,List.nil_append];refine Vg 4 ?_;have ⟨x9,ex9,h⟩:=Bs h;refine Zej fun all H=>Gs ?_;obtain rfl:=Option.some.inj h;exact Zlj Zhm
def Zut (x1 x2:Int) (x3 _x4:Int) (_x5 _x6:Int) (_x7:List Sess) (_x8:List Int) (_x9:Int) (_x10:List Side) (_x11:List Int) (_x12 _x13:List KE) (_x14:List Mail) (x15:List Event):Option (List Event):=
 (Z7c 56 x15 ([Event.mk x1 x3 x2 0 (([]:List Int))])).bind fun x16=>
 some x16
theorem Zvt {x1 x2 x3 x4 x5 x6 x7 x8 x9 x10 x11 x12 x13 x14 x15 r} (h:Zut x1 x2 x3 x4 x5 x6 x7 x8 x9 x10 x11 x12 x13 x14 x15=some r):Z0f Tryz.prog 125 [.ptr 0 0,.iv x1,.iv x2] [some ⟨138,[.iv x3,.iv x4,.osl 0,.iv x5,.osl 1,.iv x6,Sp5 x7,.osl 2,Sp1 x8,.osl 3,.osl 4,.osl 5,.iv x9]⟩] [Zwj x10,Sq4 x11,Zxj x12,Zxj x13,Sq6 x14,Zzj x15] (.tup []) [some ⟨138,[.iv x3,.iv x4,.osl 0,.iv x5,.osl 1,.iv x6,Sp5 x7,.osl 2,Sp1 x8,.osl 3,.osl 4,.osl 7,.iv x9]⟩] [Zwj x10,Sq4 x11,Zxj x12,Zxj x13,Sq6 x14,none,none,Zzj r]:=by
 refine FT Z1n fun w0 M0=>?_;rw [Zut] at h;dsimp only[lun,List.cons_append,List.nil_append];refine Zej fun all H=>Ds (GP H 13 7 [4,1,9,6] [(6,[.ptr 0 0,.ptr 0 0,.ptr 0 0,.ptr 0 11]),(1,[.iv x1,.ptr 0 0,.ptr 0 0,.ptr 0 0,.ptr 0 0,.ptr 0 0,.ptr 0 0,.iv x3,.iv x2])] (Ds ?_));refine Zna 4 14 rfl ?_ ?_
 ·refine RV ?_;refine Zma 14 rfl (Zyf (.agg [.iv x1,.iv x3,.iv x2,.iv 0,Sp1 (([]:List Int))]) H.1 rfl trivial (by simp [go_sem]) (Ds ?_));refine R1 ?_;refine Zma 16 rfl ?_;have ⟨x16,ex16,h⟩:=Bs h;refine GA Event.row ex16 H.1 ?_;refine Gn H 2 1 ?_;refine GE H.1 19 ?_;dsimp only[go_sem];refine GD ?_;obtain rfl:=Option.some.inj h;exact Zlj Z1n
 ·refine Zyf (.agg [.iv x1,.iv x3,.iv x2,.iv 0,Sp1 (([]:List Int))]) H.1 rfl trivial (by simp [go_sem]) (Ds ?_);refine Zna 4 15 rfl ?_ ?_
  ·refine RV ?_;refine R1 ?_;refine Zma 16 rfl ?_;have ⟨x16,ex16,h⟩:=Bs h;refine GA Event.row ex16 H.1 ?_;refine Gn H 2 1 ?_;refine R1 ?_;refine GD ?_;obtain rfl:=Option.some.inj h;exact Zlj Z1n
  ·refine RV ?_;refine R1 ?_;refine Zma 16 rfl ?_;have ⟨x16,ex16,h⟩:=Bs h;refine GA Event.row ex16 H.1 ?_;refine Gn H 2 1 ?_;refine R1 ?_;refine GD ?_;obtain rfl:=Option.some.inj h;exact Zlj Z1n
def Zwt (x1:Side) (x2:Int) (x3 _x4:Int) (_x5 _x6:Int) (_x7:List Sess) (_x8:List Int) (_x9:Int) (_x10:List Side) (_x11:List Int) (_x12 _x13:List KE) (x14:List Mail) (_x15:List Event):Option (List Mail):=
 (Z7c 40 x14 ([Mail.mk x3 x1.Peer (Msg.mk x2 x1.Epoch 0)])).bind fun x16=>
 some x16
theorem Zxt {x1 x2 x3 x4 x5 x6 x7 x8 x9 x10 x11 x12 x13 x14 x15 r} (h:Zwt x1 x2 x3 x4 x5 x6 x7 x8 x9 x10 x11 x12 x13 x14 x15=some r):Z0f Tryz.prog 210 [.ptr 0 0,.agg (Side.row x1),.iv x2] [some ⟨138,[.iv x3,.iv x4,.osl 0,.iv x5,.osl 1,.iv x6,Sp5 x7,.osl 2,Sp1 x8,.osl 3,.osl 4,.osl 5,.iv x9]⟩] [Zwj x10,Sq4 x11,Zxj x12,Zxj x13,Sq6 x14,Zzj x15] (.tup []) [some ⟨138,[.iv x3,.iv x4,.osl 0,.iv x5,.osl 1,.iv x6,Sp5 x7,.osl 2,Sp1 x8,.osl 3,.osl 7,.osl 5,.iv x9]⟩] [Zwj x10,Sq4 x11,Zxj x12,Zxj x13,none,Zzj x15,none,Sq6 r]:=by refine FT Zmn fun w0 M0=>?_;rw [Zwt] at h;dsimp only[lun,List.cons_append,List.nil_append];refine Vg 4 ?_;have ⟨x16,ex16,h⟩:=Bs h;refine Zej fun all H=>Gs ?_;obtain rfl:=Option.some.inj h;exact Zlj Zmn
def Zyt (x1 x2:Int) (x3 _x4:Int) (_x5 _x6:Int) (_x7:List Sess) (_x8:List Int) (_x9:Int) (_x10:List Side) (_x11:List Int) (_x12 _x13:List KE) (_x14:List Mail) (x15:List Event):Option (List Event):=
 (Z7c 56 x15 ([Event.mk x1 x3 0 x2 (([]:List Int))])).bind fun x16=>
 some x16
theorem Zzt {x1 x2 x3 x4 x5 x6 x7 x8 x9 x10 x11 x12 x13 x14 x15 r} (h:Zyt x1 x2 x3 x4 x5 x6 x7 x8 x9 x10 x11 x12 x13 x14 x15=some r):Z0f Tryz.prog 81 [.ptr 0 0,.iv x1,.iv x2] [some ⟨138,[.iv x3,.iv x4,.osl 0,.iv x5,.osl 1,.iv x6,Sp5 x7,.osl 2,Sp1 x8,.osl 3,.osl 4,.osl 5,.iv x9]⟩] [Zwj x10,Sq4 x11,Zxj x12,Zxj x13,Sq6 x14,Zzj x15] (.tup []) [some ⟨138,[.iv x3,.iv x4,.osl 0,.iv x5,.osl 1,.iv x6,Sp5 x7,.osl 2,Sp1 x8,.osl 3,.osl 4,.osl 7,.iv x9]⟩] [Zwj x10,Sq4 x11,Zxj x12,Zxj x13,Sq6 x14,none,none,Zzj r]:=by
 refine FT Zln fun w0 M0=>?_;rw [Zyt] at h;dsimp only[lun,List.cons_append,List.nil_append];refine Zej fun all H=>Ds (GP H 13 7 [4,1,9,6] [(6,[.ptr 0 0,.ptr 0 0,.ptr 0 0,.ptr 0 11]),(1,[.iv x1,.ptr 0 0,.ptr 0 0,.ptr 0 0,.ptr 0 0,.ptr 0 0,.ptr 0 0,.iv x3,.iv x2])] (Ds ?_));refine Zna 4 14 rfl ?_ ?_
 ·refine RV ?_;refine Zma 14 rfl (Zyf (.agg [.iv x1,.iv x3,.iv 0,.iv x2,Sp1 (([]:List Int))]) H.1 rfl trivial (by simp [go_sem]) (Ds ?_));refine R1 ?_;refine Zma 16 rfl ?_;have ⟨x16,ex16,h⟩:=Bs h;refine GA Event.row ex16 H.1 ?_;refine Gn H 2 1 ?_;refine GE H.1 19 ?_;dsimp only[go_sem];refine GD ?_;obtain rfl:=Option.some.inj h;exact Zlj Zln
 ·refine Zyf (.agg [.iv x1,.iv x3,.iv 0,.iv x2,Sp1 (([]:List Int))]) H.1 rfl trivial (by simp [go_sem]) (Ds ?_);refine Zna 4 15 rfl ?_ ?_
  ·refine RV ?_;refine R1 ?_;refine Zma 16 rfl ?_;have ⟨x16,ex16,h⟩:=Bs h;refine GA Event.row ex16 H.1 ?_;refine Gn H 2 1 ?_;refine R1 ?_;refine GD ?_;obtain rfl:=Option.some.inj h;exact Zlj Zln
  ·refine RV ?_;refine R1 ?_;refine Zma 16 rfl ?_;have ⟨x16,ex16,h⟩:=Bs h;refine GA Event.row ex16 H.1 ?_;refine Gn H 2 1 ?_;refine R1 ?_;refine GD ?_;obtain rfl:=Option.some.inj h;exact Zlj Zln
def Z0u:Bool→Option Bool
| x3=>some (!x3)
def Z1u (x1:KE) (x2:Int):Option Bool:=
 ifb (decide (x2<x1.Peer)) (
 ifb (decide (x1.Peer<64)) (
 ifb (decide (1≤x1.Epoch)) (
 Z0u (decide (x1.Epoch≤65535))) (
 Z0u false)) (
 Z0u false)) (
 Z0u false)
theorem Z2u {x1 x2 r} (h:Z1u x1 x2=some r):Z0f Tryz.prog 106 [.agg (KE.row x1),.ptr 0 0] [some ⟨3,[.iv x2]⟩] [] (.bv r) [some ⟨3,[.iv x1.Peer]⟩] []:=by
 refine FT Z0o fun w0 M0=>?_;have ok:=Z0o;rw [Z1u] at h;dsimp only[lun,List.cons_append,List.nil_append];refine Vg 12 ?_;refine Vk [1,2] (fun x3=>[(4,.bv x3)]) Z0u r ?_ fun J1=>?_
 ·intro x3 h;rw [Z0u] at h;(try dsimp only);refine Vg 12 ?_;obtain rfl:=Option.some.inj h;exact Zkj Z0o
 ·exact W
@[go_sem] def e105:EC:=eQ Tryz.f105
def Z3u:Bool→Option Bool
| x5=>some x5
def Z4u (x1:Side) (x2:Node):Bool→Option Bool
| x3=>
 ifb (decide (64≤x1.Peer)) (
 Z3u true) (
 ifb (decide (x1.Epoch<1)) (
 Z3u true) (
 (Z3o x2 x1.Peer).bind fun x4=>
 ifb (!decide (x4=x1.Epoch)) (
 Z3u true) (
 ifb x3 (
 Z3u (decide (x1.Peer<x2.DK.DI.ID))) (
 Z3u false))))
def Z5u (x1:Side) (x2:Node):Option Bool:=
 ifb (decide (x1.State=1)) (
 (Z4u x1 x2) true) (
 (Z4u x1 x2) (decide (x1.State=3)))
theorem Z6u {x1 x2 r} (h:Z5u x1 x2=some r):Zy6 Tryz.prog 105 [.agg (Side.row x1),.elt (Node.row x2) 0] (.bv r):=by
 have ok:=oK 105 Tryz.f105 e105 [.t 3] 2 40;refine FP ok fun w0 H0=>?_;rw [Z5u] at h;refine Vg 11 ?_;refine Vk [1,2] (fun x3=>[(4,.bv x3)]) (Z4u x1 x2) r ?_ fun J1=>?_
 ·intro x3 h;rw [Z4u] at h;(try dsimp only);refine Vg 1 ?_;refine Vl [] (fun x5=>([(3,.bv x5)],[],[])) Z3u r ?_ fun J2=>?_
  ·intro x5 h;rw [Z3u] at h;exact W
  ·refine Zej fun all H=>Ds (GP H 4 26 [4,26] [(13,[.ptr 0 0,.iv x1.Peer,.bv (decide (64≤x1.Peer)),.bv (decide (64≤x1.Peer))])] (Ds ?_));refine Zcd 16 h rfl (fun _ h=>?_) fun _ h=>?_
   ·refine Ds (GP H 26 0 [30] [(3,[.tt]),(13,[.un,.un,.un,.tt,.tt,.un,.un,.un,.un,.un,.un,.un,.tt,.tt,.un,.un,.un,.un,.un,.un,.un,.un,.un,.un,.tt])] (Ds ?_));refine GD ?_;exact W
   ·refine Ds (GP H 5 21 [9,21] [(17,[.ptr 0 1,.iv x1.Epoch,.bv (decide (x1.Epoch<1)),.bv (decide (x1.Epoch<1)),.bv (decide (x1.Epoch<1))])] (Ds ?_));refine Zcd 21 h rfl (fun _ h=>?_) fun _ h=>?_
    ·refine Ds (GP H 21 0 [30] [(3,[.tt]),(18,[.un,.un,.un,.un,.un,.un,.un,.tt,.tt,.un,.un,.un,.un,.un,.un,.un,.un,.un,.un,.tt])] (Ds ?_));refine GD ?_;exact W
    ·refine Ds (GP H 5 16 [12,1,2,15] [(22,[.agg (Node.row x2),.ptr 0 0,.iv x1.Peer]),(1,[.ptr 0 1,.iv x1.Epoch])] (Ds ?_));refine Zma 12 rfl (GB H.1 h Z4o fun x4 _ h=>?_);refine Ds (GP H 3 12 [18,12] [(28,[.bv (!decide (x4=x1.Epoch)),.bv (!decide (x4=x1.Epoch)),.bv (!decide (x4=x1.Epoch))])] (Ds ?_));refine Zcd 30 h rfl (fun _ h=>?_) fun _ h=>?_
     ·refine Ds (GP H 12 0 [30] [(3,[.tt]),(27,[.un,.un,.un,.un,.un,.un,.un,.un,.un,.un,.tt])] (Ds ?_));refine GD ?_;exact W
     ·refine Gn H 2 10 ?_;refine Zcd 32 h rfl (fun _ h=>?_) fun _ h=>?_
      ·refine Ds (GP H 10 0 [30] [(3,[.bv (decide (x1.Peer<x2.DK.DI.ID))]),(29,[.ptr 0 0,.iv x1.Peer,.elt (Node.row x2) 0,.elt (Node.row x2) 0,.elt (Node.row x2) 0,.iv x2.DK.DI.ID,.bv (decide (x1.Peer<x2.DK.DI.ID)),.bv (decide (x1.Peer<x2.DK.DI.ID)),.bv (decide (x1.Peer<x2.DK.DI.ID))])] (Ds ?_));refine GD ?_;exact W
      ·refine Ds (GP H 10 0 [30] [(3,[.ff]),(29,[.un,.un,.un,.un,.un,.un,.un,.ff,.ff])] (Ds ?_));refine GD ?_;exact W
 ·exact W
def Z7u (x1 x2:Int) (x3 _x4:Int) (_x5 _x6:Int) (_x7:List Int) (_x8:Int) (_x9:List Side) (_x10:List Int) (_x11:List Sess) (_x12 _x13:List KE):Option (List Event):=
 (Z7c 56 [] ([Event.mk x1 x3 0 x2 (([]:List Int))])).bind fun x14=>
 some x14
theorem Z8u {x1 x2 x3 x4 x5 x6 x7 x8 x9 x10 x11 x12 x13 r} (h:Z7u x1 x2 x3 x4 x5 x6 x7 x8 x9 x10 x11 x12 x13=some r):Z0f Tryz.prog 81 [.ptr 0 0,.iv x1,.iv x2] [some ⟨138,[.iv x3,.iv x4,.osl 0,.iv x5,.osl 1,.iv x6,.osl 2,.osl 3,Sp1 x7,.osl 4,.nl,.nl,.iv x8]⟩] [Zwj x9,Sq4 x10,Zuj x11,Zxj x12,Zxj x13] (.tup []) [some ⟨138,[.iv x3,.iv x4,.osl 0,.iv x5,.osl 1,.iv x6,.osl 2,.osl 3,Sp1 x7,.osl 4,.nl,.osl 6,.iv x8]⟩] [Zwj x9,Sq4 x10,Zuj x11,Zxj x12,Zxj x13,none,Zzj r]:=by refine FT Zln fun w0 M0=>?_;rw [Z7u] at h;dsimp only[lun,List.cons_append,List.nil_append];refine Zej fun all H=>Ds (GP H 14 6 [14,6] [(6,[.ptr 0 0,.ptr 0 0,.ptr 0 0,.ptr 0 11,.nl,.iv x1,.ptr 0 0,.ptr 0 0,.ptr 0 0,.ptr 0 0,.ptr 0 0,.ptr 0 0,.iv x3,.iv x2])] (Ds ?_));refine Zma 14 rfl (Zyf (.agg [.iv x1,.iv x3,.iv 0,.iv x2,Sp1 (([]:List Int))]) H.1 rfl trivial (by simp [go_sem]) (Ds ?_));refine R1 ?_;refine Zma 16 rfl ?_;have ⟨x14,ex14,h⟩:=Bs h;refine Znc Event.row ex14 H.1 rfl trivial rfl rfl ?_;refine Gn H 2 1 ?_;refine R1 ?_;refine GD ?_;obtain rfl:=Option.some.inj h;exact Zlj Zln
@[go_sem] def e191:EC:=eQ Tryz.f191
def Z9u (x1:List Edge) (p1:(Edge→Option Bool)):Option Bool:=
 (Zjo x1 p1).bind fun x2=>
 some (decide (0≤x2))
theorem Zau {x1 g1 caps1 p1 r} (h:Z9u x1 p1=some r) (hc1:CloOK Tryz.prog g1 caps1 (fun z=>[.agg (Edge.row z)]) p1 (fun z=>.bv z)):Zy6 Tryz.prog 191 [Sp8 x1,.clo g1 caps1] (.bv r):=by have ok:=oK 191 Tryz.f191 e191 [.t 4] 2 7;refine FP ok fun w0 H0=>?_;rw [Z9u] at h;refine Vg 8 ?_;refine VB h (fun e=>Zko e hc1) (fun _ _ h=>?_) (hp:=(by first | rfl | simp [go_sem,hc1.pu]));refine Vg 3 ?_;exact MD ok h
@[go_sem] def e216:EC:=eQ Tryz.f216
def Zbu (x1 x2:Int):Option Int:=
 (Zoo x1).bind fun x3=>
 (Zoo x2).bind fun x4=>
 ifb x3 (
 ifb x4 (
 some 0) (
 some (-1))) (
 ifb x4 (
 some 1) (
 ifb (decide (x1<x2)) (
 some (-1)) (
 ifb (decide (x2<x1)) (
 some 1) (
 some 0))))
theorem Zcu {x1 x2 r} (h:Zbu x1 x2=some r):Zy6 Tryz.prog 216 [.iv x1,.iv x2] (.iv r):=by have ok:=oK 216 Tryz.f216 e216 [.t 4] 2 18;refine FP ok fun w0 H0=>?_;rw [Zbu] at h;refine Vg 7 ?_;refine VB h Zpo fun _ _ h=>?_;refine Vg 5 ?_;refine VB h Zpo fun _ _ h=>?_;exact W
end
end NX
end Go.Proofs.YtgamgemlekpepaaGreat
