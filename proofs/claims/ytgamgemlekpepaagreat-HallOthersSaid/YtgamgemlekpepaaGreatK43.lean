/-
  The function narthex/drink.Fire, lent own memory. Written by a program of ours (lb.py). No statement of the seat is proved here.
-/
import Derived.Test.YtgamgemlekpepaaGreatK42
set_option maxRecDepth 100000
set_option maxHeartbeats 40000000
namespace Go.Proofs.YtgamgemlekpepaaGreat
namespace NX
open Go
noncomputable section
def Z581 (x7:(List SX×List Int)) (x23:(Int×Int×Int×List SX×List ML)):Unit→Option ((Int×Int×Int×List SX×List ML) ⊕ (Int×Int×Int×Int×List SX×List Int×List ML))
| ()=>Option.map Sum.inr (some (x23.1,x23.2.1,x23.2.2.1,0,x23.2.2.2.1,x7.2,x23.2.2.2.2))
def Z681 (x7:(List SX×List Int)) (x23:(Int×Int×Int×List SX×List ML)):Bool→Option ((Int×Int×Int×List SX×List ML) ⊕ (Int×Int×Int×Int×List SX×List Int×List ML))
| x25=>
 ifb x25 (
 (Z581 x7 x23) ()) (
 some (.inl (x23.1,x23.2.1,x23.2.2.1,x23.2.2.2.1,x23.2.2.2.2)))
def Z781 (x7:(List SX×List Int)):(Int×Int×Int×List SX×List ML)→Option ((Int×Int×Int×List SX×List ML) ⊕ (Int×Int×Int×Int×List SX×List Int×List ML))
| (x17,x18,x19,x20,x21)=>
 (Z1y x17 x18 x19 x20 x7.2).bind fun x22=>
 (Zq61 x17 x18 x19 x20 x7.2 x21).bind fun x23=>
 (Zmx (DK.mk (DI.mk x17 x18 x22.1) x19 x22.2) (DK.mk (DI.mk x23.1 x23.2.1 x23.2.2.2.1) x23.2.2.1 x7.2)).bind fun x24=>
 (Z681 x7 x23) x24
def Z881 (x1 x2 x3:Int) (x4:List SX) (x5:List Int):Option (Int×Int×Int×Int×List SX×List Int×List ML):=
 (Za41 (DK.mk (DI.mk x1 x2 x4) x3 x5)).bind fun x6=>
 ifb (!decide (x6=0)) (
 some (0,0,0,x6,([]:List SX),([]:List Int),([]:List ML))) (
 (Z1y x1 x2 x3 x4 x5).bind fun x7=>
 loop (Z781 x7) (x1,x2,x3,x7.1,([]:List ML)))
theorem Z981 {x1 x2 x3 x4 x5 r} (h:Z881 x1 x2 x3 x4 x5=some r):FTx 181 [.agg [.iv x1,.iv x2,.osl 0,.iv x3,.osl 1]] [] [Z5k x4,Sq4 x5] (.tup [.agg [.iv r.1,.iv r.2.1,.osl 2,.iv r.2.2.1,.osl 3],.osl 4,.iv r.2.2.2.1]) [] [Z5k x4,Sq4 x5,Z5k r.2.2.2.2.1,Sq4 r.2.2.2.2.2.1,Sq6 r.2.2.2.2.2.2]:=by
 refine Ft Zb71 fun w0 M0=>?_;have ok:=Zb71;rw [Z881] at h;refine Vg 11 ?_;refine VN ((LR.slice 0 rfl).slice 1 rfl) h Zb41 fun _ _ h=>?_;refine Vg 7 ?_;refine MI h (fun h=>?_) fun h=>?_
 ·refine Vg 8 ?_;refine Zkj 1 2 112 8 (Ds ?_);refine Zkj 1 4 3 1 (Ds ?_);refine Zcb 3 53 5 rfl rfl ?_;exact W
 ·refine Vg 4 ?_;refine VR [] [0,1] 2 2 h Z2y fun x7 _ h=>?_;refine Vg 5 ?_;refine Zkj 2 5 53 5 (Ds ?_);refine Mm h [2,1,3,1] (fun s=>([],[(2,0,.iv s.1),(2,1,.iv s.2.1),(2,3,.iv s.2.2.1)],[(0,none)],[(2,Z5k s.2.2.2.1),(4,Sq6 s.2.2.2.2)])) ?_;rintro n1 ⟨x17,x18,x19,x20,x21⟩ y1 h hin1 hout1;rw [Z781] at h;refine Vg 7 ?_;refine VR [] [2,3] 3 5 h Z2y fun _ _ h=>?_;refine Vg 6 ?_;refine VR [2] [2,3,4] 4 7 h Zr61 fun x23 _ h=>?_;refine Vg 2 ?_;refine Vl [2,1,3,1] (fun x25=>([(30,.bv x25)],[none,some ⟨61,[.iv 0,.iv 0,.nl,.iv 0,.nl]⟩,some ⟨248,[.iv x23.1,.iv x23.2.1,.osl 7,.iv x23.2.2.1,.osl 3,.osl 11]⟩],[Z5k x4,Sq4 x5,none,Sq4 x7.2,none,none,none,Z5k x23.2.2.2.1,none,none,none,Sq6 x23.2.2.2.2])) (Z681 x7 x23) y1 ?_ fun J1=>?_
  ·intro x25 h;rw [Z681] at h;refine MI h (fun h=>?_) fun h=>?_
   ·refine Vg 1 ?_;refine Vl [2,1] (fun _=>([(3,.osl 11),(4,.iv 0)],[none,some ⟨61,[.iv x23.1,.iv x23.2.1,.osl 7,.iv x23.2.2.1,.osl 3]⟩],[Z5k x4,Sq4 x5,none,Sq4 x7.2,none,none,none,Z5k x23.2.2.2.1,none,none,none,Sq6 x23.2.2.2.2])) (Z581 x7 x23) y1 ?_ fun J2=>?_
    ·rintro ⟨⟩ h;rw [Z581] at h;refine Zij 7 2 (Zij 11 4 ?_);exact W
    ·refine Zgj fun all H=>Gs ?_;exact W
   ·refine Vg 2 ?_;refine Zij 7 2 (Zij 11 4 ?_);exact W
  ·refine Zgj fun all H=>?_;refine Gn H 3 3 ?_;refine Zoa 0 4 rfl ?_ ?_
   ·refine RV ?_;refine R1 ?_;refine RQ ((((LR.slice 3 rfl).slice 5 rfl).slice 6 rfl).slice 7 rfl) h Znx fun x24 ex24 h=>?_;refine GD ?_;exact W
   ·refine RV ?_;refine R1 ?_;refine RQ ((((LR.slice 3 rfl).slice 5 rfl).slice 6 rfl).slice 7 rfl) h Znx fun _ _ h=>?_;refine GD ?_;exact W
def Za81:Bool→Option Int
| x6=>
 ifb x6 (
 some 180) (
 some 0)
def Zb81 (x1:NO):Option Int:=
 (Za41 x1.DK).bind fun x2=>
 ifb (!decide (x2=0)) (
 Za81 true) (
 (Ze01 x1.BK).bind fun x3=>
 ifb (!decide (x3=0)) (
 Za81 true) (
 (Zg71 x1).bind fun x4=>
 ifb (!x4) (
 Za81 true) (
 (Z271 x1).bind fun x5=>
 Za81 (!x5))))
theorem Zc81 {x1 r} (h:Zb81 x1=some r):FPx 28 [.agg (NO.row x1)] (.iv r):=by
 have ok:=oJ 28 Tryz.f28 [.t 2] 1 22;refine FP ok fun w0 H0=>?_;rw [Zb81] at h;refine Vg 10 ?_;refine VB h Zb41 fun _ _ h=>?_;refine Vg 2 ?_;refine Vl [] (fun x6=>([(22,.bv x6)],[],[])) Za81 r ?_ fun J1=>?_
 ·intro x6 h;rw [Za81] at h;exact W
 ·refine MC 7 h (fun h=>?_) fun h=>?_
  ·exact W
  ·refine Vg 2 ?_;refine VB h Zf01 fun _ _ h=>?_;refine Vg 3 ?_;refine MC 13 h (fun h=>?_) fun h=>?_
   ·exact W
   ·refine Vg 1 ?_;refine VB h Zh71 fun _ _ h=>?_;refine Vg 3 ?_;refine MC 18 h (fun h=>?_) fun h=>?_
    ·exact W
    ·refine Vg 1 ?_;refine VB h Z371 fun _ _ h=>?_;exact W
def Zd81 (x22:(Bool×Int)):(Int×Int×Int×List SX×List Int)→Option (Int×Int×Int×Int×List SX×List Int)
| (x23,x24,x25,x26,x27)=>some (x23,x24,x25,x22.2,x26,x27)
def Ze81 (x3 x4:Int) (x5 x6 x7:Int) (x8:List SX) (x9:List Int) (x10:List SE) (x11:List KE) (x12:List Int) (x13:List KE):(Int×Int×Int×Int×List SX×List Int)→Option (Int×Int×Int×Int×List SX×List Int)
| (x16,x17,x18,x19,x20,x21)=>
 (Zkt (decide (x16=0)) 187 x3 x4 x5 x6 x7 x8 x9 x10 x11 x12 x13).bind fun x22=>
 ifb x22.1 (
 (Zd81 x22) (x17,x18,x19,x20,x21)) (
 (Zd81 x22) (x3,x4,x5,x8,x9))
def Zf81 (x1:Int) (x2:Msg) (x3 x4:Int) (x5 x6 x7:Int) (x8:List SX) (x9:List Int) (x10:List SE) (x11:List KE) (x12:List Int) (x13:List KE):Option (Int×Int×Int×Int×List SX×List Int):=
 (Zj71 x3 x4 x5 x1 x2 x8 x9).bind fun x14=>
 (Ze81 x3 x4 x5 x6 x7 x8 x9 x10 x11 x12 x13) (x14.2.2.2.1,x14.1,x14.2.1,x14.2.2.1,x14.2.2.2.2.1,x14.2.2.2.2.2)
theorem Zg81 {x1 x2 x3 x4 x5 x6 x7 x8 x9 x10 x11 x12 x13 r} (h:Zf81 x1 x2 x3 x4 x5 x6 x7 x8 x9 x10 x11 x12 x13=some r):FTx 76 [.ptr 0 0,.iv x1,.agg (Msg.row x2)] [some ⟨138,[.iv x3,.iv x4,.osl 0,.iv x5,.osl 1,.iv x6,.osl 2,.osl 3,.osl 4,.osl 5,.nl,.nl,.iv x7]⟩] [Z5k x8,Sq4 x9,Z3k x10,Z6k x11,Sq4 x12,Z6k x13] (.tup []) [some ⟨138,[.iv r.1,.iv r.2.1,.osl 6,.iv r.2.2.1,.osl 7,.iv x6,.osl 2,.osl 3,.osl 4,.osl 5,.nl,.nl,.iv r.2.2.2.1]⟩] [none,none,Z3k x10,Z6k x11,Sq4 x12,Z6k x13,Z5k r.2.2.2.2.1,Sq4 r.2.2.2.2.2]:=by
 refine Ft ok76 fun w0 M0=>?_;have ok:=ok76;rw [Zf81] at h;refine Vg 5 ?_;refine Vl [0,1] (fun s=>([(6,.ptr 2 0),(7,.iv s.1)],[some ⟨138,[.iv x3,.iv x4,.osl 0,.iv x5,.osl 1,.iv x6,.osl 2,.osl 3,.osl 4,.osl 5,.nl,.nl,.iv x7]⟩,none,some ⟨61,[.iv s.2.1,.iv s.2.2.1,.osl 6,.iv s.2.2.2.1,.osl 7]⟩],[Z5k x8,Sq4 x9,Z3k x10,Z6k x11,Sq4 x12,Z6k x13,Z5k s.2.2.2.2.1,Sq4 s.2.2.2.2.2])) (Ze81 x3 x4 x5 x6 x7 x8 x9 x10 x11 x12 x13) r ?_ fun J1=>?_
 ·rintro ⟨x16,x17,x18,x19,x20,x21⟩ h;rw [Ze81] at h;refine Vg 5 ?_;refine VR [0] [0,1,2,3,4,5] 3 8 h Zlt fun x22 _ h=>?_;refine Vg 1 ?_;refine Vl [] (fun s=>([],[some ⟨138,[.iv s.1,.iv s.2.1,.osl 6,.iv s.2.2.1,.osl 7,.iv x6,.osl 2,.osl 3,.osl 4,.osl 5,.nl,.nl,.iv x22.2]⟩],[none,none,Z3k x10,Z6k x11,Sq4 x12,Z6k x13,Z5k s.2.2.2.1,Sq4 s.2.2.2.2])) (Zd81 x22) r ?_ fun J2=>?_
  ·rintro ⟨x23,x24,x25,x26,x27⟩ h;rw [Zd81] at h;exact W
  ·refine MI h (fun h=>?_) fun h=>?_
   ·exact W
   ·refine Vg 1 ?_;refine Zij 0 6 (Zij 1 7 ?_);exact W
 ·refine Zgj fun all H=>Ds (GP H 6 8 [4,1,2,7] [(9,[.ptr 0 0,.ptr 0 0,.ptr 0 0,.ptr 0 0]),(1,[.iv x1,.agg (Msg.row x2)])] (Ds ?_));refine Zoa 4 11 rfl ?_ ?_
  ·refine RV ?_;have ⟨x14,ex14,h⟩:=Bs h;refine Zoa 7 11 rfl ?_ ?_
   ·refine Znj H.1 [] [0,1] 2 6 (Zk71 ex14) ?_;refine Gn H 3 3 ?_;refine R1 ?_;refine R1 ?_;refine Gn H 1 0 ?_;refine GD ?_;exact W
   ·refine RV ?_;refine Zna 7 rfl (Znj H.1 [] [0,1] 3 6 (Zk71 ex14) ?_);refine Gn H 3 2 ?_;refine R1 ?_;refine Gn H 1 0 ?_;refine GD ?_;exact W
  ·refine RV ?_;refine R1 ?_;refine RR [] [0,1] 3 6 h Zk71 fun _ _ h=>?_;refine Gn H 3 2 ?_;refine R1 ?_;refine GN H 1 0 (Ds ?_);refine An (GD ?_);exact W
@[go_sem] def e73:EC:=eQ Tryz.f73
theorem ok73:FnOK Tryz.prog 73 Tryz.f73 e73 [.c 2 (some 10),.t 3,.t 4,.t 5] 1 41:=okA
def Zh81 (x7:Int) (x16:List KE) (x19:List KE) (x29:(Int×Int×Int×Int×List SX×List Int×List ML)) (x39:Int) (x40:List SE) (x41:List EV):(List Int×List ML)→Option (Int×Int×Int×Int×List SE×List Int×List KE×List EV×List KE×List Int×List ML×List SX)
| (x43,x44)=>
 (Z731 x29.1 x29.2.1 x29.2.2.1 x39 x40 x43 x7 x29.2.2.2.2.1 x29.2.2.2.2.2.1 x16 x19 x44 x41).bind fun x45=>
 some (x29.1,x29.2.1,x29.2.2.1,x39,x40,x43,x16,x41,x19,x29.2.2.2.2.2.1,x45.1,x45.2)
def Zi81 (x6:List Int) (x7:Int) (x16 x19:List KE) (x29:(Int×Int×Int×Int×List SX×List Int×List ML)) (x32:List ML):(Int×List SE×List EV)→Option (Int×Int×Int×Int×List SE×List Int×List KE×List EV×List KE×List Int×List ML×List SX)
| (x39,x40,x41)=>
 ifb (decide (x29.2.1=2)) (
 (Zx51 x29.1 x29.2.1 x29.2.2.1 x39 x40 x6 x7 x29.2.2.2.2.1 x29.2.2.2.2.2.1 x16 x19 x32 x41).bind fun x42=>
 (Zh81 x7 x16 x19 x29 x39 x40 x41) (x42.1,x42.2)) (
 (Zh81 x7 x16 x19 x29 x39 x40 x41) (x6,x32))
def Zj81 (x6:List Int) (x7:Int) (x16:List KE) (x18:List EV) (x19:List KE) (x20:(SE×Bool)) (x29:(Int×Int×Int×Int×List SX×List Int×List ML)) (x32:List ML):(Int×List SE)→Option (Int×Int×Int×Int×List SE×List Int×List KE×List EV×List KE×List Int×List ML×List SX)
| (x36,x37)=>
 (Z8u 1 x20.1.ID x29.1 x29.2.1 x29.2.2.1 x36 x37 x6 x7 x29.2.2.2.2.1 x29.2.2.2.2.2.1 x16 x19 x32 x18).bind fun x38=>
 (Zi81 x6 x7 x16 x19 x29 x32) (x36,x37,x38)
def Zk81 (x4:Int) (x5:List SE) (x6:List Int) (x7:Int) (x16:List KE) (x18:List EV) (x19:List KE) (x20:(SE×Bool)) (x29:(Int×Int×Int×Int×List SX×List Int×List ML)) (x32:List ML):Bool→Option (Int×Int×Int×Int×List SE×List Int×List KE×List EV×List KE×List Int×List ML×List SX)
| x33=>
 ifb x33 (
 (Z621 (BK.mk x4 x5)).bind fun x34=>
 (Zj81 x6 x7 x16 x18 x19 x20 x29 x32) (x34.1.LA,x34.1.SE)) (
 (Zi81 x6 x7 x16 x19 x29 x32) (x4,x5,x18))
def Zl81 (x4:Int) (x5:List SE) (x6:List Int) (x7:Int) (x16:List KE) (x18:List EV) (x19:List KE) (x20:(SE×Bool)) (x29:(Int×Int×Int×Int×List SX×List Int×List ML)):List ML→Option (Int×Int×Int×Int×List SE×List Int×List KE×List EV×List KE×List Int×List ML×List SX)
| x32=>
 ifb x20.2 (
 ifb (decide (x20.1.SS=0)) (
 (Zk81 x4 x5 x6 x7 x16 x18 x19 x20 x29 x32) (decide (x29.2.2.1=2))) (
 (Zk81 x4 x5 x6 x7 x16 x18 x19 x20 x29 x32) false)) (
 (Zk81 x4 x5 x6 x7 x16 x18 x19 x20 x29 x32) false)
def Zm81 (x1 x4:Int) (x5:List SE) (x6:List Int) (x7:Int) (x15:List SX) (x16:List KE) (x17:List ML) (x18:List EV) (x19:List KE) (x20:(SE×Bool)) (x24:Int) (x25:List Int):Int→Option (Int×Int×Int×Int×List SE×List Int×List KE×List EV×List KE×List Int×List ML×List SX)
| x28=>
 (Z881 x1 x28 x24 x15 x25).bind fun x29=>
 (Z8c 40 x17 x29.2.2.2.2.2.2).bind fun x30=>
 (Zl81 x4 x5 x6 x7 x16 x18 x19 x20 x29) x30
def Zn81 (x1 x2 x4:Int) (x5:List SE) (x6:List Int) (x7:Int) (x15:List SX) (x16:List KE) (x17:List ML) (x18:List EV) (x19:List KE) (x20:(SE×Bool)) (x24:Int) (x25:List Int):Bool→Option (Int×Int×Int×Int×List SE×List Int×List KE×List EV×List KE×List Int×List ML×List SX)
| x27=>
 ifb x27 (
 (Zm81 x1 x4 x5 x6 x7 x15 x16 x17 x18 x19 x20 x24 x25) 1) (
 (Zm81 x1 x4 x5 x6 x7 x15 x16 x17 x18 x19 x20 x24 x25) x2)
def Zo81 (x1 x2 x4:Int) (x5:List SE) (x6:List Int) (x7:Int) (x15:List SX) (x16:List KE) (x17:List ML) (x18:List EV) (x19:List KE) (x20:(SE×Bool)):(Int×List Int)→Option (Int×Int×Int×Int×List SE×List Int×List KE×List EV×List KE×List Int×List ML×List SX)
| (x24,x25)=>
 ifb (decide (x2=0)) (
 (Zur x15 ((fun z=>Zn01 z (node_node.mk (NO.mk (DK.mk (DI.mk x1 x2 x15) x24 x25) (BK.mk x4 x5) x16 x6 x19) x17 x18 x7)))).bind fun x26=>
 (Zn81 x1 x2 x4 x5 x6 x7 x15 x16 x17 x18 x19 x20 x24 x25) x26) (
 (Zn81 x1 x2 x4 x5 x6 x7 x15 x16 x17 x18 x19 x20 x24 x25) false)
def Zp81 (x1 x2:Int) (x3 x4:Int) (x5:List SE) (x6:List Int) (x7:Int) (x9:List Int) (x15:List SX) (x16:List KE) (x17:List ML) (x18:List EV) (x19:List KE) (x20:(SE×Bool)):Bool→Option (Int×Int×Int×Int×List SE×List Int×List KE×List EV×List KE×List Int×List ML×List SX)
| x21=>
 ifb x21 (
 (Z9l x20.1.NE).bind fun x22=>
 (Zo81 x1 x2 x4 x5 x6 x7 x15 x16 x17 x18 x19 x20) (1,x22)) (
 (Zo81 x1 x2 x4 x5 x6 x7 x15 x16 x17 x18 x19 x20) (x3,x9))
def Zq81 (x1 x2:Int) (x3 x4:Int) (x5:List SE) (x6:List Int) (x7:Int) (x9:List Int):(List SX×List KE×List ML×List EV×List KE)→Option (Int×Int×Int×Int×List SE×List Int×List KE×List EV×List KE×List Int×List ML×List SX)
| (x15,x16,x17,x18,x19)=>
 (Z4u x1 x2 x3 x4 x5 x6 x15 x9 x16 x19).bind fun x20=>
 ifb x20.2 (
 ifb (decide (x20.1.SS=0)) (
 (Zp81 x1 x2 x3 x4 x5 x6 x7 x9 x15 x16 x17 x18 x19 x20) (decide (x3=0))) (
 (Zp81 x1 x2 x3 x4 x5 x6 x7 x9 x15 x16 x17 x18 x19 x20) false)) (
 (Zp81 x1 x2 x3 x4 x5 x6 x7 x9 x15 x16 x17 x18 x19 x20) false)
def Zr81 (x1 x2:Int) (x3 x4:Int) (x5:List SE) (x6:List Int) (x7:Int) (x8:List SX) (x9:List Int) (x10 x11:List KE) (x12:List ML) (x13:List EV):Option (Int×Int×Int×Int×List SE×List Int×List KE×List EV×List KE×List Int×List ML×List SX):=
 ifb (!decide (x2=2)) (
 (Zu61 x1 x2 x3 x4 x5 x6 x7 x8 x9 x10 x11 x12 x13).bind fun x14=>
 (Zq81 x1 x2 x3 x4 x5 x6 x7 x9) (x14.1,x14.2.1,x14.2.2.1,x14.2.2.2,([]:List KE))) (
 (Zq81 x1 x2 x3 x4 x5 x6 x7 x9) (x8,x10,x12,x13,x11))
theorem Zs81 {x1 x2 x3 x4 x5 x6 x7 x8 x9 x10 x11 x12 x13 r} (h:Zr81 x1 x2 x3 x4 x5 x6 x7 x8 x9 x10 x11 x12 x13=some r):FTx 135 [.ptr 0 0] [some ⟨138,[.iv x1,.iv x2,.osl 0,.iv x3,.osl 1,.iv x4,Sp5 x5,.osl 2,Sp1 x6,.osl 3,.osl 4,.osl 5,.iv x7]⟩] [Z5k x8,Sq4 x9,Z6k x10,Z6k x11,Sq6 x12,Z8k x13] (.tup []) [some ⟨138,[.iv r.1,.iv r.2.1,.osl 22,.iv r.2.2.1,.osl 17,.iv r.2.2.2.1,Sp5 r.2.2.2.2.1,.osl 9,Sp1 r.2.2.2.2.2.1,.osl 14,.osl 21,.osl 13,.iv x7]⟩] [none,none,none,none,none,none,none,none,none,Z6k r.2.2.2.2.2.2.1,none,none,none,Z8k r.2.2.2.2.2.2.2.1,Z6k r.2.2.2.2.2.2.2.2.1,none,none,Sq4 r.2.2.2.2.2.2.2.2.2.1,none,none,none,Sq6 r.2.2.2.2.2.2.2.2.2.2.1,Z5k r.2.2.2.2.2.2.2.2.2.2.2]:=by
 refine Ft Z481 fun w0 M0=>?_;have ok:=Z481;rw [Zr81] at h;refine Vg 16 ?_;refine Vl [1,1] (fun s=>([],[some ⟨138,[.iv x1,.iv x2,.osl 7,.iv x3,.osl 1,.iv x4,Sp5 x5,.osl 9,Sp1 x6,.osl 14,.osl 11,.osl 13,.iv x7]⟩,some ⟨136,[.ptr 0 0]⟩],[none,Sq4 x9,none,none,none,none,none,Z5k s.1,none,Z6k s.2.1,none,Sq6 s.2.2.1,none,Z8k s.2.2.2.1,Z6k s.2.2.2.2])) (Zq81 x1 x2 x3 x4 x5 x6 x7 x9) r ?_ fun J1=>?_
 ·rintro ⟨x15,x16,x17,x18,x19⟩ h;rw [Zq81] at h;refine Vg 6 ?_;refine VR [] [7,1,9,14] 2 15 h Z5u fun x20 _ h=>?_;refine Vg 12 ?_;refine Vk [1,3] (fun x21=>[(40,.bv x21)]) (Zp81 x1 x2 x3 x4 x5 x6 x7 x9 x15 x16 x17 x18 x19 x20) r ?_ fun J2=>?_
  ·intro x21 h;rw [Zp81] at h;refine Vl [1,3] (fun s=>([],[some ⟨138,[.iv x1,.iv x2,.osl 7,.iv s.1,.osl 15,.iv x4,Sp5 x5,.osl 9,Sp1 x6,.osl 14,.osl 11,.osl 13,.iv x7]⟩,some ⟨136,[.ptr 0 0]⟩,some ⟨131,SE.row x20.1⟩],[none,none,none,none,none,none,none,Z5k x15,none,Z6k x16,none,Sq6 x17,none,Z8k x18,Z6k x19,Sq4 s.2])) (Zo81 x1 x2 x4 x5 x6 x7 x15 x16 x17 x18 x19 x20) r ?_ fun J3=>?_
   ·rintro ⟨x24,x25⟩ h;rw [Zo81] at h;refine Vg 17 ?_;refine Vk [1,3] (fun x27=>[(73,.bv x27)]) (Zn81 x1 x2 x4 x5 x6 x7 x15 x16 x17 x18 x19 x20 x24 x25) r ?_ fun J4=>?_
    ·intro x27 h;rw [Zn81] at h;refine Vm [1,3] (fun x28=>([],[(0,1,.iv x28)],[],[])) (Zm81 x1 x4 x5 x6 x7 x15 x16 x17 x18 x19 x20 x24 x25) r ?_ fun J5=>?_
     ·intro x28 h;rw [Zm81] at h;refine Vg 7 ?_;refine VR [] [7,15] 3 16 h Z981 fun x29 _ h=>?_;refine Vg 19 ?_;refine Vl [1,3] (fun x32=>([],[some ⟨138,[.iv x29.1,.iv x29.2.1,.osl 16,.iv x29.2.2.1,.osl 17,.iv x4,Sp5 x5,.osl 9,Sp1 x6,.osl 14,.osl 19,.osl 13,.iv x7]⟩,some ⟨136,[.ptr 0 0]⟩,some ⟨131,SE.row x20.1⟩],[none,none,none,none,none,none,none,none,none,Z6k x16,none,none,none,Z8k x18,Z6k x19,none,Z5k x29.2.2.2.2.1,Sq4 x29.2.2.2.2.2.1,none,Sq6 x32])) (Zl81 x4 x5 x6 x7 x16 x18 x19 x20 x29) r ?_ fun J6=>?_
      ·intro x32 h;rw [Zl81] at h;refine Vg 5 ?_;refine Vk [1,2] (fun x33=>[(118,.bv x33)]) (Zk81 x4 x5 x6 x7 x16 x18 x19 x20 x29 x32) r ?_ fun J7=>?_
       ·intro x33 h;rw [Zk81] at h;refine Vl [1,1] (fun s=>([],[some ⟨138,[.iv x29.1,.iv x29.2.1,.osl 16,.iv x29.2.2.1,.osl 17,.iv s.1,Sp5 s.2.1,.osl 9,Sp1 x6,.osl 14,.osl 19,.osl 13,.iv x7]⟩,some ⟨136,[.ptr 0 0]⟩],[none,none,none,none,none,none,none,none,none,Z6k x16,none,none,none,Z8k s.2.2,Z6k x19,none,Z5k x29.2.2.2.2.1,Sq4 x29.2.2.2.2.2.1,none,Sq6 x32])) (Zi81 x6 x7 x16 x19 x29 x32) r ?_ fun J8=>?_
        ·rintro ⟨x39,x40,x41⟩ h;rw [Zi81] at h;refine Vg 12 ?_;refine Vm [1,1] (fun s=>([],[(0,8,Sp1 s.1)],[],[(19,Sq6 s.2)])) (Zh81 x7 x16 x19 x29 x39 x40 x41) r ?_ fun J10=>?_
         ·rintro ⟨x43,x44⟩ h;rw [Zh81] at h;refine Vg 2 ?_;refine VR [0] [16,17,9,14,19,13] 2 20 h Z831 fun _ _ h=>?_;exact W
         ·refine MI h (fun h=>?_) fun h=>?_
          ·refine Vg 2 ?_;refine VR [0] [16,17,9,14,19,13] 2 20 h Zy51 fun _ _ h=>?_;refine Vg 1 ?_;refine Zij 21 19 (Ds ?_);exact Ztc J10 h
          ·refine Vg 1 ?_;exact Ztc J10 h
        ·refine MI h (fun h=>?_) fun h=>?_
         ·refine Vg 1 ?_;refine Vm [1,2] (fun s=>([],[(0,5,.iv s.1),(0,6,Sp5 s.2)],[],[])) (Zj81 x6 x7 x16 x18 x19 x20 x29 x32) r ?_ fun J9=>?_
          ·rintro ⟨x36,x37⟩ h;rw [Zj81] at h;refine Vg 4 ?_;refine VR [0] [16,17,9,14,19,13] 3 20 h Z9u fun _ _ h=>?_;refine Ds ?_;refine Zg6 1 (Ds ?_);refine An (Zij 21 13 ?_);exact W
          ·refine Zgj fun all H=>Ds ?_;refine Zoa 0 1 rfl ?_ ?_
           ·refine RV ?_;refine R1 ?_;refine Gn H 4 9 ?_;refine RB h Z721 fun x34 ex34 h=>?_;refine GP H 7 1 [14,1] [(119,[.tup [.agg (BK.row x34.1),.iv x34.2.1,.iv x34.2.2]]),(7,[.agg (BK.row x34.1),.iv x34.2.1,.iv x34.2.2,.ptr 0 0,.ptr 0 0,.ptr 0 5])] (Ds ?_);refine R1 ?_;refine GD ?_;exact W
           ·refine RV ?_;refine Gn H 4 10 ?_;have ⟨x34,ex34,h⟩:=Bs h;refine Zoa 0 6 rfl ?_ ?_
            ·refine RV ?_;refine Zna 6 rfl (GC H.1 (Z721 ex34) (Ds ?_));refine GP H 7 1 [14,1] [(119,[.tup [.agg (BK.row x34.1),.iv x34.2.1,.iv x34.2.2]]),(7,[.agg (BK.row x34.1),.iv x34.2.1,.iv x34.2.2,.ptr 0 0,.ptr 0 0,.ptr 0 5])] (Ds ?_);refine R1 ?_;refine GD ?_;exact W
            ·refine GC H.1 (Z721 ex34) ?_;refine Gn H 4 5 ?_;refine R1 ?_;refine Gn H 3 1 ?_;refine R1 ?_;refine GD ?_;exact W
         ·exact W
       ·exact W
      ·refine Zgj fun all H=>?_;refine Gn H 1 9 ?_;refine Zoa 0 1 rfl ?_ ?_
       ·refine RV ?_;refine R1 ?_;refine Gn H 2 5 ?_;refine R1 ?_;refine Zna 6 rfl ?_;have ⟨x30,ex30,h⟩:=Bs h;refine GA ML.row ex30 H.1 ?_;refine Gn H 2 1 ?_;refine R1 ?_;refine GD ?_;exact W
       ·refine RV ?_;refine Gn H 2 6 ?_;refine Zoa 0 4 rfl ?_ ?_
        ·refine RV ?_;refine R1 ?_;refine Zna 6 rfl ?_;have ⟨x30,ex30,h⟩:=Bs h;refine GA ML.row ex30 H.1 ?_;refine Gn H 2 1 ?_;refine R1 ?_;refine GD ?_;exact W
        ·refine RV ?_;have ⟨x30,ex30,h⟩:=Bs h;refine Zoa 0 6 rfl ?_ ?_
         ·refine RV ?_;refine Zna 6 rfl (GA ML.row ex30 H.1 ?_);refine Gn H 2 1 ?_;refine R1 ?_;refine GD ?_;exact W
         ·refine GA ML.row ex30 H.1 (Ds ?_);refine R1 ?_;refine Gn H 2 1 ?_;refine R1 ?_;refine GD ?_;exact W
     ·exact W
    ·refine MC 63 h (fun h=>?_) fun h=>?_
     ·refine Vg 8 ?_;refine VN ((((((((LR.slice 7 rfl).slice 9 rfl).slice 11 rfl).slice 13 rfl).slice 14 rfl).slice 15 rfl).block 0 rfl rfl).block 1 rfl rfl) h (fun e=>Zvr e ⟨by kernel_rfl,rfl,fun z r hz=>Zo01 hz⟩) fun _ _ h=>?_;refine Zg6 2 (Ds ?_);refine An ?_;exact W
     ·exact W
   ·refine MI h (fun h=>?_) fun h=>?_
    ·refine Zgj fun all H=>?_;refine Gn H 2 13 ?_;have ⟨x22,ex22,h⟩:=Bs h;refine Zpa 0 1 4 rfl ?_ ?_ ?_
     ·refine RV ?_;refine Zoa 1 4 rfl ?_ ?_
      ·refine RV ?_;refine Zna 4 rfl (Zvd H.1 rfl trivial (Zal ex22) (h:=?_));refine Gn H 4 6 ?_;refine R1 ?_;refine Gn H 4 1 ?_;refine R1 ?_;refine GD ?_;exact W
      ·refine Zvd H.1 rfl trivial (Zal ex22) (h:=?_);refine Gn H 4 7 ?_;refine Zoa 1 9 rfl ?_ ?_
       ·refine RV ?_;refine R1 ?_;refine Gn H 4 1 ?_;refine R1 ?_;refine GD ?_;exact W
       ·refine RV ?_;refine R1 ?_;refine Gn H 4 1 ?_;refine R1 ?_;refine GD ?_;exact W
     ·refine RV ?_;refine Zoa 0 4 rfl ?_ ?_
      ·refine RV ?_;refine Zna 4 rfl (Zvd H.1 rfl trivial (Zal ex22) (h:=?_));refine Gn H 4 6 ?_;refine R1 ?_;refine Gn H 4 1 ?_;refine R1 ?_;refine GD ?_;exact W
      ·refine Zvd H.1 rfl trivial (Zal ex22) (h:=Ds ?_);refine R1 ?_;refine Gn H 4 6 ?_;refine R1 ?_;refine Gn H 4 1 ?_;refine R1 ?_;refine GD ?_;exact W
     ·refine Zvd H.1 rfl trivial (Zal ex22) (h:=Ds ?_);refine Zoa 0 1 rfl ?_ ?_
      ·refine RV ?_;refine Gn H 4 7 ?_;refine Zoa 1 9 rfl ?_ ?_
       ·refine RV ?_;refine R1 ?_;refine Gn H 4 1 ?_;refine R1 ?_;refine GD ?_;exact W
       ·refine RV ?_;refine R1 ?_;refine Gn H 4 1 ?_;refine R1 ?_;refine GD ?_;exact W
      ·refine RV ?_;refine R1 ?_;refine Gn H 4 6 ?_;refine R1 ?_;refine Gn H 4 1 ?_;refine R1 ?_;refine GD ?_;exact W
    ·refine Vg 1 ?_;refine Zlj 3 1 (Ds ?_);refine Zij 1 15 ?_;exact W
  ·exact W
 ·refine MI h (fun h=>?_) fun h=>?_
  ·refine Vg 2 ?_;refine VR [0] [0,1,2,3,4,5] 2 6 h Zv61 fun _ _ h=>?_;refine Vg 1 ?_;refine Zkj 0 9 121 2 ?_;exact W
  ·refine Vg 1 ?_;refine Zlj 53 5 (Ds ?_);refine Zlj 53 5 (Ds ?_);refine Zlj 53 5 (Ds ?_);refine Zlj 53 5 (Ds ?_);refine Zlj 53 5 (Ds ?_);refine Zlj 53 5 (Ds ?_);refine Zij 4 11 (Ds ?_);refine Zlj 77 5 (Ds ?_);refine Zlj 77 5 (Ds ?_);refine Zij 5 13 (Zij 0 7 (Ds ?_));refine Zij 2 9 (Ds ?_);refine Zlj 121 2 (Ds ?_);refine Zij 3 14 ?_;exact W
def Zt81 (x1:DK):List KE→Option (NO×Int)
| x21=>
 (Zb81 (NO.mk x1 (BK.mk 0 (([]:List SE))) x21 (([]:List Int)) (([]:List KE)))).bind fun x22=>
 ifb (!decide (x22=0)) (
 some ((NO.mk (DK.mk (DI.mk 0 0 (([]:List SX))) 0 (([]:List Int))) (BK.mk 0 (([]:List SE))) (([]:List KE)) (([]:List Int)) (([]:List KE))),180)) (
 (Zsz x1.DI.ID x1.DI.PH x1.DI.SD x1.TH x1.NE 0 x21).bind fun x23=>
 some ((NO.mk (DK.mk (DI.mk x1.DI.ID x1.DI.PH x23.1) x1.TH x23.2.1) (BK.mk 0 x23.2.2.2.2.2) x23.2.2.1 x23.2.2.2.1 x23.2.2.2.2.1),0))
def Zu81 (x1:DK):(Int×List KE)→Option ((Int×List KE) ⊕ (NO×Int))
| (x6,x7)=>
 ifb (decide (x6<(ln SX.row x1.DI.SD))) (
 (at_ x1.DI.SD x6).bind fun x8=>
 (Z8c 16 x7 ([KE.mk x8.PE x8.EP])).bind fun x9=>
 some (.inl (wr (x6+1),x9))) (
 Option.map Sum.inr ((Zt81 x1) x7))
def Zv81 (x1:DK):Option (NO×Int):=loop (Zu81 x1) (0,([]:List KE))
theorem Zw81 {x1 r} (h:Zv81 x1=some r):FPx 21 [.agg (DK.row x1)] (.tup [.agg (NO.row r.1),.iv r.2]):=by
 have ok:=oJ 21 Tryz.f21 [.c 2 (some 10),.t 3] 1 33;refine FP ok fun w0 H0=>?_;rw [Zv81] at h;refine Vg 22 ?_;refine Vl [2,1,1,1] (fun x21=>([],[none,some ⟨67,[.iv 0,.iv 0,.nl,.iv 0,.nl,.iv 0,.nl,.nl,.nl,.nl]⟩,some ⟨67,[.iv x1.DI.ID,.iv x1.DI.PH,Sp3 x1.DI.SD,.iv x1.TH,Sp1 x1.NE,.iv 0,.nl,.osl 0,.nl,.nl]⟩],[Z6k x21])) (Zt81 x1) r ?_ fun J1=>?_
 ·intro x21 h;rw [Zt81] at h;refine Vg 4 ?_;refine VN (LR.slice 0 rfl) h Zc81 fun _ _ h=>?_;refine Vg 2 ?_;refine MI h (fun h=>?_) fun h=>?_
  ·exact W
  ·refine Vg 4 ?_;refine VR [] [0] 3 1 h Ztz fun _ _ h=>?_;refine Vg 3 ?_;refine Zjj 1 (Ds ?_);refine Zjj 2 (Ds ?_);refine Zjj 6 (Ds ?_);refine Zjj 3 (Ds ?_);refine Zjj 4 (Ds ?_);refine Zjj 5 ?_;exact W
 ·refine Vg 1 ?_;refine Zkj 2 7 121 2 (Ds ?_);refine Mm h [2,1,1,1,6,2] (fun s=>([(13,.iv s.1)],[],[(0,none)],[(0,Z6k s.2)])) ?_;rintro n1 ⟨x6,x7⟩ y1 h hin1 hout1;rw [Zu81] at h;refine Vg 5 ?_;refine MI h (fun h=>?_) fun h=>?_
  ·refine Vg 5 ?_;have ⟨x8,ex8,h⟩:=Bs h;refine Zjc SX.row ex8 trivial rfl rfl rfl (Vg 13 ?_);have ⟨x9,ex9,h⟩:=Bs h;refine Zmc KE.row ex9 trivial rfl rfl rfl (Vg 8 ?_);refine Zij 2 0 ?_;exact W
  ·exact W
end
end NX
end Go.Proofs.YtgamgemlekpepaaGreat
