/-
  The function (*narthex/node.node).shut, lent own memory. Written by a program of ours (lb.py). No statement of the seat is proved here.
-/
import Derived.Test.YtgamgemlekpepaaGreatH27
set_option maxRecDepth 100000
set_option maxHeartbeats 4000000
namespace Go.Proofs.YtgamgemlekpepaaGreat
namespace NX
open Go
noncomputable section
def Zg71 (x18:(Book×List Int×Int)) (x23:Int) (x24 x25:Int) (x26:List Side) (x27:List Int):List Event→Option (Int×Int×Int×Int×List Sess×List Event×List Side×List Int)
| x53=>some (x23,x24,x25,x18.1.Last,x18.1.Sess,x53,x26,x27)
def Zh71 (x6:Int) (x10:List KE) (x11:List Int) (x12:List KE) (x18:(Book×List Int×Int)) (x23:Int) (x24 x25:Int) (x26:List Side) (x27:List Int):(Int×List Event)→Option ((Int×List Event) ⊕ (Int×Int×Int×Int×List Sess×List Event×List Side×List Int))
| (x32,x33)=>
 ifb (decide (x32<(ln Z3d x18.2.1))) (
 (at_ x18.2.1 x32).bind fun x34=>
 (Zjt 5 x34 x23 x24 x25 x18.1.Last x18.1.Sess x6 x26 x27 x10 x11 x12 x33).bind fun x35=>
 some (.inl (wr (x32+1),x35))) (
 Option.map Sum.inr ((Zg71 x18 x23 x24 x25 x26 x27) x33))
def Zi71 (x6:Int) (x10:List KE) (x11:List Int) (x12:List KE) (x17:List Event) (x18:(Book×List Int×Int)):(Int×Int×Int×List Side×List Int)→Option (Int×Int×Int×Int×List Sess×List Event×List Side×List Int)
| (x23,x24,x25,x26,x27)=>loop (Zh71 x6 x10 x11 x12 x18 x23 x24 x25 x26 x27) (0,x17)
def Zj71 (x2 x3:Int) (x4 x5 x6:Int) (x8:List Int) (x9:List Sess) (x10:List KE) (x11:List Int) (x12:List KE) (x16:List Side) (x17:List Event) (x18:(Book×List Int×Int)):Bool→Option (Int×Int×Int×Int×List Sess×List Event×List Side×List Int)
| x21=>
 ifb x21 (
 (Zw61 x2 x3 x4 x5 x9 x6 x16 x8 x10 x11 x12 x17).bind fun x22=>
 (Zi71 x6 x10 x11 x12 x17 x18) (x22.1,x22.2.1,x22.2.2.1,x22.2.2.2.1,x22.2.2.2.2)) (
 (Zi71 x6 x10 x11 x12 x17 x18) (x2,x3,x4,x16,x8))
def Zk71 (x1 x2:Int) (x3 x4:Int) (x5 x6:Int) (x8:List Int) (x9:List Sess) (x10:List KE) (x11:List Int) (x12:List KE):List Side→Option (Int×Int×Int×Int×List Sess×List Event×List Side×List Int)
| x16=>
 (Zft 7 x1 x2 x3 x4 x5 x6 x16 x8 x9 x10 x11 x12).bind fun x17=>
 (Z461 (Book.mk x5 x9) x1).bind fun x18=>
 (Zht x2 x3 x4 x5 x9 x16 x8 x10 x11 x12).bind fun x19=>
 ifb x19.2 (
 ifb (decide (x4=1)) (
 (Z1s x18.2.1 x19.1.ID).bind fun x20=>
 (Zj71 x2 x3 x4 x5 x6 x8 x9 x10 x11 x12 x16 x17 x18) x20) (
 (Zj71 x2 x3 x4 x5 x6 x8 x9 x10 x11 x12 x16 x17 x18) false)) (
 (Zj71 x2 x3 x4 x5 x6 x8 x9 x10 x11 x12 x16 x17 x18) false)
def Zl71 (x1 x2:Int) (x3 x4:Int) (x5 x6:Int) (x7:List Side) (x8:List Int) (x9:List Sess) (x10:List KE) (x11:List Int) (x12:List KE):Option (Int×Int×Int×Int×List Sess×List Event×List Side×List Int):=
 (Zct (node_node.mk (Node.mk (DK.mk (DI.mk x2 x3 x7) x4 x8) (Book.mk x5 x9) x10 x11 x12) (([]:List Mail)) (([]:List Event)) x6) x1).bind fun x13=>
 (at_ x7 x13).bind fun x15=>
 (Zk71 x1 x2 x3 x4 x5 x6 x8 x9 x10 x11 x12) (x7.set (Int.toNat (x13)) (Side.mk x15.Peer x15.Epoch 2 x15.Fork x15.DY x15.Token x15.BO x15.Ask))
theorem Zm71 {x1 x2 x3 x4 x5 x6 x7 x8 x9 x10 x11 x12 r} (h:Zl71 x1 x2 x3 x4 x5 x6 x7 x8 x9 x10 x11 x12=some r):Z0f Tryz.prog 72 [.ptr 0 0,.iv x1] [some ⟨138,[.iv x2,.iv x3,.osl 0,.iv x4,.osl 1,.iv x5,.osl 2,.osl 3,.osl 4,.osl 5,.nl,.nl,.iv x6]⟩] [Zwj x7,Sq4 x8,Zuj x9,Zxj x10,Sq4 x11,Zxj x12] (.tup []) [some ⟨138,[.iv r.1,.iv r.2.1,.osl 8,.iv r.2.2.1,.osl 9,.iv r.2.2.2.1,Sp5 r.2.2.2.2.1,.osl 3,.osl 4,.osl 5,.nl,.osl 7,.iv x6]⟩] [none,none,none,Zxj x10,Sq4 x11,Zxj x12,none,Zzj r.2.2.2.2.2.1,Zwj r.2.2.2.2.2.2.1,Sq4 r.2.2.2.2.2.2.2]:=by
 refine FT ok72 fun w0 M0=>?_;have ok:=ok72;rw [Zl71] at h;dsimp only[lun,List.cons_append,List.nil_append];refine Vg 1 ?_;refine Vm [0,2] (fun x16=>([],[],[],[(0,Zwj x16)])) (Zk71 x1 x2 x3 x4 x5 x6 x8 x9 x10 x11 x12) r ?_ fun J1=>?_
 ·intro x16 h;rw [Zk71] at h;(try dsimp only);refine Vg 4 ?_;have ⟨x17,ex17,h⟩:=Bs h;refine Z8f [true] [true,true,true,true,true,true] trivial (Zgt ex17) (h:=?_);refine Vg 9 ?_;refine Zhj 2 (Ds ?_);refine VB h Z561 fun x18 _ h=>?_;refine Vg 16 ?_;refine VR [] [0,1,3,4,5] 2 8 h Zit fun _ _ h=>?_;refine Vg 11 ?_;refine Vl [0,1,3,2] (fun x21=>([(60,.bv x21)],[some ⟨138,[.iv x2,.iv x3,.osl 0,.iv x4,.osl 1,.iv x5,Sp5 x9,.osl 3,.osl 4,.osl 5,.nl,.osl 7,.iv x6]⟩,some ⟨64,Book.row x18.1⟩],[Zwj x16,Sq4 x8,none,Zxj x10,Sq4 x11,Zxj x12,none,Zzj x17])) (Zj71 x2 x3 x4 x5 x6 x8 x9 x10 x11 x12 x16 x17 x18) r ?_ fun J2=>?_
  ·intro x21 h;rw [Zj71] at h;(try dsimp only);refine Vl [0,1,3,2] (fun s=>([],[some ⟨138,[.iv s.1,.iv s.2.1,.osl 8,.iv s.2.2.1,.osl 9,.iv x5,Sp5 x9,.osl 3,.osl 4,.osl 5,.nl,.osl 7,.iv x6]⟩,some ⟨64,Book.row x18.1⟩],[none,none,none,Zxj x10,Sq4 x11,Zxj x12,none,Zzj x17,Zwj s.2.2.2.1,Sq4 s.2.2.2.2])) (Zi71 x6 x10 x11 x12 x17 x18) r ?_ fun J3=>?_
   ·rintro ⟨x23,x24,x25,x26,x27⟩ h;rw [Zi71] at h;(try dsimp only);refine Vg 15 ?_;refine Vl [] (fun x53=>([],[some ⟨138,[.iv x23,.iv x24,.osl 8,.iv x25,.osl 9,.iv x18.1.Last,Sp5 x18.1.Sess,.osl 3,.osl 4,.osl 5,.nl,.osl 7,.iv x6]⟩],[none,none,none,Zxj x10,Sq4 x11,Zxj x12,none,Zzj x53,Zwj x26,Sq4 x27])) (Zg71 x18 x23 x24 x25 x26 x27) r ?_ fun J4=>?_
    ·intro x53 h;rw [Zg71] at h;(try dsimp only);obtain rfl:=Option.some.inj h;exact Zlj ok72
    ·refine Vg 1 ?_;refine Ml h [0,1,67,2] (fun s=>([(70,.iv s.1)],[some ⟨138,[.iv x23,.iv x24,.osl 8,.iv x25,.osl 9,.iv x18.1.Last,Sp5 x18.1.Sess,.osl 3,.osl 4,.osl 5,.nl,.osl 7,.iv x6]⟩],[none,none,none,Zxj x10,Sq4 x11,Zxj x12,none,Zzj s.2,Zwj x26,Sq4 x27])) ?_;rintro n1 ⟨x32,x33⟩ y1 h hin1 hout1;rw [Zh71] at h;(try dsimp only);refine Vg 5 ?_;refine MI h (fun h=>?_) fun h=>?_
     ·refine Vg 5 ?_;have ⟨x34,ex34,h⟩:=Bs h;refine Zic Z3d ex34 trivial rfl rfl rfl (Vg 6 ?_);refine VR [0] [8,9,3,4,5,7] 1 10 h Zkt fun _ _ h=>?_;refine Vg 6 ?_;refine Zgj 11 7 ?_;exact W
     ·exact W
   ·refine MI h (fun h=>?_) fun h=>?_
    ·refine Vg 2 ?_;refine VR [0] [0,1,3,4,5,7] 2 8 h Zx61 fun _ _ h=>?_;exact W
    ·refine Vg 1 ?_;refine Zjj 112 8 (Ds ?_);refine Zgj 0 8 (Ds ?_);refine Zjj 3 1 (Ds ?_);refine Zgj 1 9 ?_;exact W
  ·refine MC 46 h (fun h=>?_) fun h=>?_
   ·refine Vg 9 ?_;refine MC 55 h (fun h=>?_) fun h=>?_
    ·refine Vg 3 ?_;refine VB h Z2s fun _ _ h=>?_;exact W
    ·exact W
   ·exact W
 ·refine Zej fun all H=>Ds (GP H 8 5 [6,1,2,4] [(11,[.ptr 0 0,.ptr 0 0,.ptr 0 0,.ptr 0 0,.ptr 0 0,.ptr 0 2]),(1,[.ptr 0 0,.iv x1])] (Ds ?_));have ⟨x13,ex13,h⟩:=Bs h;refine Zna 6 9 rfl ?_ ?_
  ·refine RV ?_;refine Zma 9 rfl (GK H.1 (((((((LR.slice 0 rfl).slice 1 rfl).slice 2 rfl).slice 3 rfl).slice 4 rfl).slice 5 rfl).block 0 rfl rfl) (Zdt ex13) (Ds ?_));have ⟨x15,ex15,h⟩:=Bs h;refine RO ?_;refine RI ?_;refine Gn H 1 1 ?_;refine Zma 12 rfl (Zuf H.1 [.iv 2] Side.row (y':=(Side.mk x15.Peer x15.Epoch 2 x15.Fork x15.DY x15.Token x15.BO x15.Ask)) ex15 rfl trivial rfl rfl rfl (by first | exact Zqb _ | simp [go_sem]) rfl rfl rfl rfl (Ds ?_));refine GD ?_;exact W
  ·refine GK H.1 (((((((LR.slice 0 rfl).slice 1 rfl).slice 2 rfl).slice 3 rfl).slice 4 rfl).slice 5 rfl).block 0 rfl rfl) (Zdt ex13) (Ds ?_);refine R1 ?_;have ⟨x15,ex15,h⟩:=Bs h;refine RO ?_;refine RI ?_;refine Gn H 1 1 ?_;refine Zma 12 rfl (Zuf H.1 [.iv 2] Side.row (y':=(Side.mk x15.Peer x15.Epoch 2 x15.Fork x15.DY x15.Token x15.BO x15.Ask)) ex15 rfl trivial rfl rfl rfl (by first | exact Zqb _ | simp [go_sem]) rfl rfl rfl rfl (Ds ?_));refine GD ?_;exact W
@[go_sem] def e135:EC:=eQ Tryz.f135
theorem Zn71:FnOK Tryz.prog 135 Tryz.f135 e135 [] 1 148:=okA
def Zo71 (x7:(List Side×List Int)) (x23:(Int×Int×Int×List Side×List Mail)):Unit→Option ((Int×Int×Int×List Side×List Mail) ⊕ (Int×Int×Int×Int×List Side×List Int×List Mail))
| ()=>Option.map Sum.inr (some (x23.1,x23.2.1,x23.2.2.1,0,x23.2.2.2.1,x7.2,x23.2.2.2.2))
def Zp71 (x7:(List Side×List Int)) (x23:(Int×Int×Int×List Side×List Mail)):Bool→Option ((Int×Int×Int×List Side×List Mail) ⊕ (Int×Int×Int×Int×List Side×List Int×List Mail))
| x25=>
 ifb x25 (
 (Zo71 x7 x23) ()) (
 some (.inl (x23.1,x23.2.1,x23.2.2.1,x23.2.2.2.1,x23.2.2.2.2)))
def Zq71 (x7:(List Side×List Int)):(Int×Int×Int×List Side×List Mail)→Option ((Int×Int×Int×List Side×List Mail) ⊕ (Int×Int×Int×Int×List Side×List Int×List Mail))
| (x17,x18,x19,x20,x21)=>
 (Zkx x17 x18 x19 x20 x7.2).bind fun x22=>
 (Z961 x17 x18 x19 x20 x7.2 x21).bind fun x23=>
 (Z5x (DK.mk (DI.mk x17 x18 x22.1) x19 x22.2) (DK.mk (DI.mk x23.1 x23.2.1 x23.2.2.2.1) x23.2.2.1 x7.2)).bind fun x24=>
 (Zp71 x7 x23) x24
def Zr71 (x1 x2 x3:Int) (x4:List Side) (x5:List Int):Option (Int×Int×Int×Int×List Side×List Int×List Mail):=
 (Zt31 (DK.mk (DI.mk x1 x2 x4) x3 x5)).bind fun x6=>
 ifb (!decide (x6=0)) (
 some (0,0,0,x6,([]:List Side),([]:List Int),([]:List Mail))) (
 (Zkx x1 x2 x3 x4 x5).bind fun x7=>
 loop (Zq71 x7) (x1,x2,x3,x7.1,([]:List Mail)))
theorem Zs71 {x1 x2 x3 x4 x5 r} (h:Zr71 x1 x2 x3 x4 x5=some r):Z0f Tryz.prog 181 [.agg [.iv x1,.iv x2,.osl 0,.iv x3,.osl 1]] [] [Zwj x4,Sq4 x5] (.tup [.agg [.iv r.1,.iv r.2.1,.osl 2,.iv r.2.2.1,.osl 3],.osl 4,.iv r.2.2.2.1]) [] [Zwj x4,Sq4 x5,Zwj r.2.2.2.2.1,Sq4 r.2.2.2.2.2.1,Sq6 r.2.2.2.2.2.2]:=by
 refine FT Zu61 fun w0 M0=>?_;have ok:=Zu61;rw [Zr71] at h;dsimp only[lun,List.cons_append,List.nil_append];refine Vg 11 ?_;refine VN ((LR.slice 0 rfl).slice 1 rfl) h Zu31 fun _ _ h=>?_;refine Vg 7 ?_;refine MI h (fun h=>?_) fun h=>?_
 ·refine Vg 8 ?_;refine Zij 1 2 112 8 (Ds ?_);refine Zij 1 4 3 1 (Ds ?_);refine Zbb 3 53 5 rfl rfl (Ds ?_);obtain rfl:=Option.some.inj h;exact Zkj Zu61
 ·refine Vg 4 ?_;refine VR [] [0,1] 2 2 h Zlx fun x7 _ h=>?_;refine Vg 5 ?_;refine Zij 2 5 53 5 (Ds ?_);refine Mm h [2,1,3,1] (fun s=>([],[(2,0,.iv s.1),(2,1,.iv s.2.1),(2,3,.iv s.2.2.1)],[(0,none)],[(2,Zwj s.2.2.2.1),(4,Sq6 s.2.2.2.2)])) ?_;rintro n1 ⟨x17,x18,x19,x20,x21⟩ y1 h hin1 hout1;rw [Zq71] at h;(try dsimp only);refine Vg 7 ?_;refine VR [] [2,3] 3 5 h Zlx fun _ _ h=>?_;refine Vg 6 ?_;refine VR [2] [2,3,4] 4 7 h Za61 fun x23 _ h=>?_;refine Vg 2 ?_;refine Vl [2,1,3,1] (fun x25=>([(30,.bv x25)],[none,some ⟨61,[.iv 0,.iv 0,.nl,.iv 0,.nl]⟩,some ⟨248,[.iv x23.1,.iv x23.2.1,.osl 7,.iv x23.2.2.1,.osl 3,.osl 11]⟩],[Zwj x4,Sq4 x5,none,Sq4 x7.2,none,none,none,Zwj x23.2.2.2.1,none,none,none,Sq6 x23.2.2.2.2])) (Zp71 x7 x23) y1 ?_ fun J1=>?_
  ·intro x25 h;rw [Zp71] at h;(try dsimp only);refine MI h (fun h=>?_) fun h=>?_
   ·refine Vg 1 ?_;refine Vl [2,1] (fun _=>([(3,.osl 11),(4,.iv 0)],[none,some ⟨61,[.iv x23.1,.iv x23.2.1,.osl 7,.iv x23.2.2.1,.osl 3]⟩],[Zwj x4,Sq4 x5,none,Sq4 x7.2,none,none,none,Zwj x23.2.2.2.1,none,none,none,Sq6 x23.2.2.2.2])) (Zo71 x7 x23) y1 ?_ fun J2=>?_
    ·rintro ⟨⟩ h;rw [Zo71] at h;(try dsimp only);refine Zgj 7 2 (Zgj 11 4 (Ds ?_));obtain rfl:=Option.some.inj (Zdc h hout1);exact Zkj Zu61
    ·refine Zej fun all H=>Gs ?_;exact Zsc J2 h
   ·refine Vg 2 ?_;refine Zgj 7 2 (Zgj 11 4 ?_);exact W
  ·refine Zej fun all H=>?_;refine Gn H 3 3 ?_;refine Zna 0 4 rfl ?_ ?_
   ·refine RV ?_;refine R1 ?_;refine Zma 5 rfl (GQ H.1 ((((LR.slice 3 rfl).slice 5 rfl).slice 6 rfl).slice 7 rfl) h Z6x fun x24 ex24 h=>?_);refine Ds ?_;refine GD ?_;exact W
   ·refine RV ?_;refine R1 ?_;refine Zma 5 rfl (GQ H.1 ((((LR.slice 3 rfl).slice 5 rfl).slice 6 rfl).slice 7 rfl) h Z6x fun _ _ h=>?_);refine Ds ?_;refine GD ?_;exact W
@[go_sem] def e28:EC:=eQ Tryz.f28
def Zt71:Bool→Option Int
| x6=>
 ifb x6 (
 some 180) (
 some 0)
def Zu71 (x1:Node):Option Int:=
 (Zt31 x1.DK).bind fun x2=>
 ifb (!decide (x2=0)) (
 Zt71 true) (
 (Zxz x1.Book).bind fun x3=>
 ifb (!decide (x3=0)) (
 Zt71 true) (
 (Zz61 x1).bind fun x4=>
 ifb (!x4) (
 Zt71 true) (
 (Zl61 x1).bind fun x5=>
 Zt71 (!x5))))
theorem Zv71 {x1 r} (h:Zu71 x1=some r):Zy6 Tryz.prog 28 [.agg (Node.row x1)] (.iv r):=by
 have ok:=oK 28 Tryz.f28 e28 [.t 2] 1 22;refine FP ok fun w0 H0=>?_;rw [Zu71] at h;refine Vg 10 ?_;refine VB h Zu31 fun _ _ h=>?_;refine Vg 2 ?_;refine Vl [] (fun x6=>([(22,.bv x6)],[],[])) Zt71 r ?_ fun J1=>?_
 ·intro x6 h;rw [Zt71] at h;exact W
 ·refine MC 7 h (fun h=>?_) fun h=>?_
  ·exact W
  ·refine Vg 2 ?_;refine VB h Zyz fun _ _ h=>?_;refine Vg 3 ?_;refine MC 13 h (fun h=>?_) fun h=>?_
   ·exact W
   ·refine Vg 1 ?_;refine VB h Z071 fun _ _ h=>?_;refine Vg 3 ?_;refine MC 18 h (fun h=>?_) fun h=>?_
    ·exact W
    ·refine Vg 1 ?_;refine VB h Zm61 fun _ _ h=>?_;exact W
def Zw71 (x22:(Bool×Int)):(Int×Int×Int×List Side×List Int)→Option (Int×Int×Int×Int×List Side×List Int)
| (x23,x24,x25,x26,x27)=>some (x23,x24,x25,x22.2,x26,x27)
def Zx71 (x3 x4:Int) (x5 x6 x7:Int) (x8:List Side) (x9:List Int) (x10:List Sess) (x11:List KE) (x12:List Int) (x13:List KE):(Int×Int×Int×Int×List Side×List Int)→Option (Int×Int×Int×Int×List Side×List Int)
| (x16,x17,x18,x19,x20,x21)=>
 (Z6t (decide (x16=0)) 187 x3 x4 x5 x6 x7 x8 x9 x10 x11 x12 x13).bind fun x22=>
 ifb x22.1 (
 (Zw71 x22) (x17,x18,x19,x20,x21)) (
 (Zw71 x22) (x3,x4,x5,x8,x9))
def Zy71 (x1:Int) (x2:Msg) (x3 x4:Int) (x5 x6 x7:Int) (x8:List Side) (x9:List Int) (x10:List Sess) (x11:List KE) (x12:List Int) (x13:List KE):Option (Int×Int×Int×Int×List Side×List Int):=
 (Z271 x3 x4 x5 x1 x2 x8 x9).bind fun x14=>
 (Zx71 x3 x4 x5 x6 x7 x8 x9 x10 x11 x12 x13) (x14.2.2.2.1,x14.1,x14.2.1,x14.2.2.1,x14.2.2.2.2.1,x14.2.2.2.2.2)
theorem Zz71 {x1 x2 x3 x4 x5 x6 x7 x8 x9 x10 x11 x12 x13 r} (h:Zy71 x1 x2 x3 x4 x5 x6 x7 x8 x9 x10 x11 x12 x13=some r):Z0f Tryz.prog 76 [.ptr 0 0,.iv x1,.agg (Msg.row x2)] [some ⟨138,[.iv x3,.iv x4,.osl 0,.iv x5,.osl 1,.iv x6,.osl 2,.osl 3,.osl 4,.osl 5,.nl,.nl,.iv x7]⟩] [Zwj x8,Sq4 x9,Zuj x10,Zxj x11,Sq4 x12,Zxj x13] (.tup []) [some ⟨138,[.iv r.1,.iv r.2.1,.osl 6,.iv r.2.2.1,.osl 7,.iv x6,.osl 2,.osl 3,.osl 4,.osl 5,.nl,.nl,.iv r.2.2.2.1]⟩] [none,none,Zuj x10,Zxj x11,Sq4 x12,Zxj x13,Zwj r.2.2.2.2.1,Sq4 r.2.2.2.2.2]:=by
 refine FT ok76 fun w0 M0=>?_;have ok:=ok76;rw [Zy71] at h;dsimp only[lun,List.cons_append,List.nil_append];refine Vg 5 ?_;refine Vl [0,1] (fun s=>([(6,.ptr 2 0),(7,.iv s.1)],[some ⟨138,[.iv x3,.iv x4,.osl 0,.iv x5,.osl 1,.iv x6,.osl 2,.osl 3,.osl 4,.osl 5,.nl,.nl,.iv x7]⟩,none,some ⟨61,[.iv s.2.1,.iv s.2.2.1,.osl 6,.iv s.2.2.2.1,.osl 7]⟩],[Zwj x8,Sq4 x9,Zuj x10,Zxj x11,Sq4 x12,Zxj x13,Zwj s.2.2.2.2.1,Sq4 s.2.2.2.2.2])) (Zx71 x3 x4 x5 x6 x7 x8 x9 x10 x11 x12 x13) r ?_ fun J1=>?_
 ·rintro ⟨x16,x17,x18,x19,x20,x21⟩ h;rw [Zx71] at h;(try dsimp only);refine Vg 5 ?_;refine VR [0] [0,1,2,3,4,5] 3 8 h Z7t fun x22 _ h=>?_;refine Vg 1 ?_;refine Vl [] (fun s=>([],[some ⟨138,[.iv s.1,.iv s.2.1,.osl 6,.iv s.2.2.1,.osl 7,.iv x6,.osl 2,.osl 3,.osl 4,.osl 5,.nl,.nl,.iv x22.2]⟩],[none,none,Zuj x10,Zxj x11,Sq4 x12,Zxj x13,Zwj s.2.2.2.1,Sq4 s.2.2.2.2])) (Zw71 x22) r ?_ fun J2=>?_
  ·rintro ⟨x23,x24,x25,x26,x27⟩ h;rw [Zw71] at h;(try dsimp only);obtain rfl:=Option.some.inj h;exact Zlj ok76
  ·refine MI h (fun h=>?_) fun h=>?_
   ·exact W
   ·refine Vg 1 ?_;refine Zgj 0 6 (Zgj 1 7 ?_);exact W
 ·refine Zej fun all H=>Ds (GP H 6 8 [4,1,2,7] [(9,[.ptr 0 0,.ptr 0 0,.ptr 0 0,.ptr 0 0]),(1,[.iv x1,.agg (Msg.row x2)])] (Ds ?_));refine Zna 4 11 rfl ?_ ?_
  ·refine RV ?_;have ⟨x14,ex14,h⟩:=Bs h;refine Zna 7 11 rfl ?_ ?_
   ·refine Zmj H.1 [] [0,1] 2 6 (Z371 ex14) ?_;refine Gn H 3 3 ?_;refine R1 ?_;refine R1 ?_;refine Gn H 1 0 ?_;refine GD ?_;exact W
   ·refine RV ?_;refine Zma 7 rfl (Zmj H.1 [] [0,1] 3 6 (Z371 ex14) ?_);refine Gn H 3 2 ?_;refine R1 ?_;refine Gn H 1 0 ?_;refine GD ?_;exact W
  ·refine RV ?_;refine R1 ?_;refine Zma 7 rfl (GR H.1 [] [0,1] 3 6 h Z371 fun _ _ h=>?_);refine Gn H 3 2 ?_;refine R1 ?_;refine GN H 1 0 (Ds ?_);refine An (GD ?_);exact W
@[go_sem] def e73:EC:=eQ Tryz.f73
theorem ok73:FnOK Tryz.prog 73 Tryz.f73 e73 [.c 2 (some 10),.t 3,.t 4,.t 5] 1 41:=okA
def Z081 (x7:Int) (x16:List KE) (x19:List KE) (x29:(Int×Int×Int×Int×List Side×List Int×List Mail)) (x39:Int) (x40:List Sess) (x41:List Event):(List Int×List Mail)→Option (Int×Int×Int×Int×List Sess×List Int×List KE×List Event×List KE×List Int×List Mail×List Side)
| (x43,x44)=>
 (Zq21 x29.1 x29.2.1 x29.2.2.1 x39 x40 x43 x7 x29.2.2.2.2.1 x29.2.2.2.2.2.1 x16 x19 x44 x41).bind fun x45=>
 some (x29.1,x29.2.1,x29.2.2.1,x39,x40,x43,x16,x41,x19,x29.2.2.2.2.2.1,x45.1,x45.2)
def Z181 (x6:List Int) (x7:Int) (x16 x19:List KE) (x29:(Int×Int×Int×Int×List Side×List Int×List Mail)) (x32:List Mail):(Int×List Sess×List Event)→Option (Int×Int×Int×Int×List Sess×List Int×List KE×List Event×List KE×List Int×List Mail×List Side)
| (x39,x40,x41)=>
 ifb (decide (x29.2.1=2)) (
 (Zg51 x29.1 x29.2.1 x29.2.2.1 x39 x40 x6 x7 x29.2.2.2.2.1 x29.2.2.2.2.2.1 x16 x19 x32 x41).bind fun x42=>
 (Z081 x7 x16 x19 x29 x39 x40 x41) (x42.1,x42.2)) (
 (Z081 x7 x16 x19 x29 x39 x40 x41) (x6,x32))
def Z281 (x6:List Int) (x7:Int) (x16:List KE) (x18:List Event) (x19:List KE) (x20:(Sess×Bool)) (x29:(Int×Int×Int×Int×List Side×List Int×List Mail)) (x32:List Mail):(Int×List Sess)→Option (Int×Int×Int×Int×List Sess×List Int×List KE×List Event×List KE×List Int×List Mail×List Side)
| (x36,x37)=>
 (Zut 1 x20.1.ID x29.1 x29.2.1 x29.2.2.1 x36 x37 x6 x7 x29.2.2.2.2.1 x29.2.2.2.2.2.1 x16 x19 x32 x18).bind fun x38=>
 (Z181 x6 x7 x16 x19 x29 x32) (x36,x37,x38)
def Z381 (x4:Int) (x5:List Sess) (x6:List Int) (x7:Int) (x16:List KE) (x18:List Event) (x19:List KE) (x20:(Sess×Bool)) (x29:(Int×Int×Int×Int×List Side×List Int×List Mail)) (x32:List Mail):Bool→Option (Int×Int×Int×Int×List Sess×List Int×List KE×List Event×List KE×List Int×List Mail×List Side)
| x33=>
 ifb x33 (
 (Zp11 (Book.mk x4 x5)).bind fun x34=>
 (Z281 x6 x7 x16 x18 x19 x20 x29 x32) (x34.1.Last,x34.1.Sess)) (
 (Z181 x6 x7 x16 x19 x29 x32) (x4,x5,x18))
def Z481 (x4:Int) (x5:List Sess) (x6:List Int) (x7:Int) (x16:List KE) (x18:List Event) (x19:List KE) (x20:(Sess×Bool)) (x29:(Int×Int×Int×Int×List Side×List Int×List Mail)):List Mail→Option (Int×Int×Int×Int×List Sess×List Int×List KE×List Event×List KE×List Int×List Mail×List Side)
| x32=>
 ifb x20.2 (
 ifb (decide (x20.1.State=0)) (
 (Z381 x4 x5 x6 x7 x16 x18 x19 x20 x29 x32) (decide (x29.2.2.1=2))) (
 (Z381 x4 x5 x6 x7 x16 x18 x19 x20 x29 x32) false)) (
 (Z381 x4 x5 x6 x7 x16 x18 x19 x20 x29 x32) false)
def Z581 (x1 x4:Int) (x5:List Sess) (x6:List Int) (x7:Int) (x15:List Side) (x16:List KE) (x17:List Mail) (x18:List Event) (x19:List KE) (x20:(Sess×Bool)) (x24:Int) (x25:List Int):Int→Option (Int×Int×Int×Int×List Sess×List Int×List KE×List Event×List KE×List Int×List Mail×List Side)
| x28=>
 (Zr71 x1 x28 x24 x15 x25).bind fun x29=>
 (Z7c 40 x17 x29.2.2.2.2.2.2).bind fun x30=>
 (Z481 x4 x5 x6 x7 x16 x18 x19 x20 x29) x30
def Z681 (x1 x2 x4:Int) (x5:List Sess) (x6:List Int) (x7:Int) (x15:List Side) (x16:List KE) (x17:List Mail) (x18:List Event) (x19:List KE) (x20:(Sess×Bool)) (x24:Int) (x25:List Int):Bool→Option (Int×Int×Int×Int×List Sess×List Int×List KE×List Event×List KE×List Int×List Mail×List Side)
| x27=>
 ifb x27 (
 (Z581 x1 x4 x5 x6 x7 x15 x16 x17 x18 x19 x20 x24 x25) 1) (
 (Z581 x1 x4 x5 x6 x7 x15 x16 x17 x18 x19 x20 x24 x25) x2)
def Z781 (x1 x2 x4:Int) (x5:List Sess) (x6:List Int) (x7:Int) (x15:List Side) (x16:List KE) (x17:List Mail) (x18:List Event) (x19:List KE) (x20:(Sess×Bool)):(Int×List Int)→Option (Int×Int×Int×Int×List Sess×List Int×List KE×List Event×List KE×List Int×List Mail×List Side)
| (x24,x25)=>
 ifb (decide (x2=0)) (
 (Zgr x15 ((fun z=>Z601 z (node_node.mk (Node.mk (DK.mk (DI.mk x1 x2 x15) x24 x25) (Book.mk x4 x5) x16 x6 x19) x17 x18 x7)))).bind fun x26=>
 (Z681 x1 x2 x4 x5 x6 x7 x15 x16 x17 x18 x19 x20 x24 x25) x26) (
 (Z681 x1 x2 x4 x5 x6 x7 x15 x16 x17 x18 x19 x20 x24 x25) false)
def Z881 (x1 x2:Int) (x3 x4:Int) (x5:List Sess) (x6:List Int) (x7:Int) (x9:List Int) (x15:List Side) (x16:List KE) (x17:List Mail) (x18:List Event) (x19:List KE) (x20:(Sess×Bool)):Bool→Option (Int×Int×Int×Int×List Sess×List Int×List KE×List Event×List KE×List Int×List Mail×List Side)
| x21=>
 ifb x21 (
 (Z0l x20.1.Need).bind fun x22=>
 (Z781 x1 x2 x4 x5 x6 x7 x15 x16 x17 x18 x19 x20) (1,x22)) (
 (Z781 x1 x2 x4 x5 x6 x7 x15 x16 x17 x18 x19 x20) (x3,x9))
def Z981 (x1 x2:Int) (x3 x4:Int) (x5:List Sess) (x6:List Int) (x7:Int) (x9:List Int):(List Side×List KE×List Mail×List Event×List KE)→Option (Int×Int×Int×Int×List Sess×List Int×List KE×List Event×List KE×List Int×List Mail×List Side)
| (x15,x16,x17,x18,x19)=>
 (Zqt x1 x2 x3 x4 x5 x6 x15 x9 x16 x19).bind fun x20=>
 ifb x20.2 (
 ifb (decide (x20.1.State=0)) (
 (Z881 x1 x2 x3 x4 x5 x6 x7 x9 x15 x16 x17 x18 x19 x20) (decide (x3=0))) (
 (Z881 x1 x2 x3 x4 x5 x6 x7 x9 x15 x16 x17 x18 x19 x20) false)) (
 (Z881 x1 x2 x3 x4 x5 x6 x7 x9 x15 x16 x17 x18 x19 x20) false)
def Za81 (x1 x2:Int) (x3 x4:Int) (x5:List Sess) (x6:List Int) (x7:Int) (x8:List Side) (x9:List Int) (x10 x11:List KE) (x12:List Mail) (x13:List Event):Option (Int×Int×Int×Int×List Sess×List Int×List KE×List Event×List KE×List Int×List Mail×List Side):=
 ifb (!decide (x2=2)) (
 (Zd61 x1 x2 x3 x4 x5 x6 x7 x8 x9 x10 x11 x12 x13).bind fun x14=>
 (Z981 x1 x2 x3 x4 x5 x6 x7 x9) (x14.1,x14.2.1,x14.2.2.1,x14.2.2.2,([]:List KE))) (
 (Z981 x1 x2 x3 x4 x5 x6 x7 x9) (x8,x10,x12,x13,x11))
theorem Zb81 {x1 x2 x3 x4 x5 x6 x7 x8 x9 x10 x11 x12 x13 r} (h:Za81 x1 x2 x3 x4 x5 x6 x7 x8 x9 x10 x11 x12 x13=some r):Z0f Tryz.prog 135 [.ptr 0 0] [some ⟨138,[.iv x1,.iv x2,.osl 0,.iv x3,.osl 1,.iv x4,Sp5 x5,.osl 2,Sp1 x6,.osl 3,.osl 4,.osl 5,.iv x7]⟩] [Zwj x8,Sq4 x9,Zxj x10,Zxj x11,Sq6 x12,Zzj x13] (.tup []) [some ⟨138,[.iv r.1,.iv r.2.1,.osl 22,.iv r.2.2.1,.osl 17,.iv r.2.2.2.1,Sp5 r.2.2.2.2.1,.osl 9,Sp1 r.2.2.2.2.2.1,.osl 14,.osl 21,.osl 13,.iv x7]⟩] [none,none,none,none,none,none,none,none,none,Zxj r.2.2.2.2.2.2.1,none,none,none,Zzj r.2.2.2.2.2.2.2.1,Zxj r.2.2.2.2.2.2.2.2.1,none,none,Sq4 r.2.2.2.2.2.2.2.2.2.1,none,none,none,Sq6 r.2.2.2.2.2.2.2.2.2.2.1,Zwj r.2.2.2.2.2.2.2.2.2.2.2]:=by
 refine FT Zn71 fun w0 M0=>?_;have ok:=Zn71;rw [Za81] at h;dsimp only[lun,List.cons_append,List.nil_append];refine Vg 16 ?_;refine Vl [1,1] (fun s=>([],[some ⟨138,[.iv x1,.iv x2,.osl 7,.iv x3,.osl 1,.iv x4,Sp5 x5,.osl 9,Sp1 x6,.osl 14,.osl 11,.osl 13,.iv x7]⟩,some ⟨136,[.ptr 0 0]⟩],[none,Sq4 x9,none,none,none,none,none,Zwj s.1,none,Zxj s.2.1,none,Sq6 s.2.2.1,none,Zzj s.2.2.2.1,Zxj s.2.2.2.2])) (Z981 x1 x2 x3 x4 x5 x6 x7 x9) r ?_ fun J1=>?_
 ·rintro ⟨x15,x16,x17,x18,x19⟩ h;rw [Z981] at h;(try dsimp only);refine Vg 6 ?_;refine VR [] [7,1,9,14] 2 15 h Zrt fun x20 _ h=>?_;refine Vg 12 ?_;refine Vk [1,3] (fun x21=>[(40,.bv x21)]) (Z881 x1 x2 x3 x4 x5 x6 x7 x9 x15 x16 x17 x18 x19 x20) r ?_ fun J2=>?_
  ·intro x21 h;rw [Z881] at h;(try dsimp only);refine Vl [1,3] (fun s=>([],[some ⟨138,[.iv x1,.iv x2,.osl 7,.iv s.1,.osl 15,.iv x4,Sp5 x5,.osl 9,Sp1 x6,.osl 14,.osl 11,.osl 13,.iv x7]⟩,some ⟨136,[.ptr 0 0]⟩,some ⟨131,Sess.row x20.1⟩],[none,none,none,none,none,none,none,Zwj x15,none,Zxj x16,none,Sq6 x17,none,Zzj x18,Zxj x19,Sq4 s.2])) (Z781 x1 x2 x4 x5 x6 x7 x15 x16 x17 x18 x19 x20) r ?_ fun J3=>?_
   ·rintro ⟨x24,x25⟩ h;rw [Z781] at h;(try dsimp only);refine Vg 17 ?_;refine Vk [1,3] (fun x27=>[(73,.bv x27)]) (Z681 x1 x2 x4 x5 x6 x7 x15 x16 x17 x18 x19 x20 x24 x25) r ?_ fun J4=>?_
    ·intro x27 h;rw [Z681] at h;(try dsimp only);refine Vm [1,3] (fun x28=>([],[(0,1,.iv x28)],[],[])) (Z581 x1 x4 x5 x6 x7 x15 x16 x17 x18 x19 x20 x24 x25) r ?_ fun J5=>?_
     ·intro x28 h;rw [Z581] at h;(try dsimp only);refine Vg 7 ?_;refine VR [] [7,15] 3 16 h Zs71 fun x29 _ h=>?_;refine Vg 19 ?_;refine Vl [1,3] (fun x32=>([],[some ⟨138,[.iv x29.1,.iv x29.2.1,.osl 16,.iv x29.2.2.1,.osl 17,.iv x4,Sp5 x5,.osl 9,Sp1 x6,.osl 14,.osl 19,.osl 13,.iv x7]⟩,some ⟨136,[.ptr 0 0]⟩,some ⟨131,Sess.row x20.1⟩],[none,none,none,none,none,none,none,none,none,Zxj x16,none,none,none,Zzj x18,Zxj x19,none,Zwj x29.2.2.2.2.1,Sq4 x29.2.2.2.2.2.1,none,Sq6 x32])) (Z481 x4 x5 x6 x7 x16 x18 x19 x20 x29) r ?_ fun J6=>?_
      ·intro x32 h;rw [Z481] at h;(try dsimp only);refine Vg 5 ?_;refine Vk [1,2] (fun x33=>[(118,.bv x33)]) (Z381 x4 x5 x6 x7 x16 x18 x19 x20 x29 x32) r ?_ fun J7=>?_
       ·intro x33 h;rw [Z381] at h;(try dsimp only);refine Vl [1,1] (fun s=>([],[some ⟨138,[.iv x29.1,.iv x29.2.1,.osl 16,.iv x29.2.2.1,.osl 17,.iv s.1,Sp5 s.2.1,.osl 9,Sp1 x6,.osl 14,.osl 19,.osl 13,.iv x7]⟩,some ⟨136,[.ptr 0 0]⟩],[none,none,none,none,none,none,none,none,none,Zxj x16,none,none,none,Zzj s.2.2,Zxj x19,none,Zwj x29.2.2.2.2.1,Sq4 x29.2.2.2.2.2.1,none,Sq6 x32])) (Z181 x6 x7 x16 x19 x29 x32) r ?_ fun J8=>?_
        ·rintro ⟨x39,x40,x41⟩ h;rw [Z181] at h;(try dsimp only);refine Vg 12 ?_;refine Vm [1,1] (fun s=>([],[(0,8,Sp1 s.1)],[],[(19,Sq6 s.2)])) (Z081 x7 x16 x19 x29 x39 x40 x41) r ?_ fun J10=>?_
         ·rintro ⟨x43,x44⟩ h;rw [Z081] at h;(try dsimp only);refine Vg 2 ?_;refine VR [0] [16,17,9,14,19,13] 2 20 h Zr21 fun _ _ h=>?_;refine Vg 1 ?_;obtain rfl:=Option.some.inj h;exact Zlj Zn71
         ·refine MI h (fun h=>?_) fun h=>?_
          ·refine Vg 2 ?_;refine VR [0] [16,17,9,14,19,13] 2 20 h Zh51 fun _ _ h=>?_;refine Vg 1 ?_;refine Zgj 21 19 (Ds ?_);exact Zsc J10 h
          ·refine Vg 1 ?_;exact Zsc J10 h
        ·refine MI h (fun h=>?_) fun h=>?_
         ·refine Vg 1 ?_;refine Vm [1,2] (fun s=>([],[(0,5,.iv s.1),(0,6,Sp5 s.2)],[],[])) (Z281 x6 x7 x16 x18 x19 x20 x29 x32) r ?_ fun J9=>?_
          ·rintro ⟨x36,x37⟩ h;rw [Z281] at h;(try dsimp only);refine Vg 4 ?_;refine VR [0] [16,17,9,14,19,13] 3 20 h Zvt fun _ _ h=>?_;refine Ds ?_;refine Zf6 1 (Ds ?_);refine An (Zgj 21 13 ?_);exact W
          ·refine Zej fun all H=>Ds ?_;refine Zna 0 1 rfl ?_ ?_
           ·refine RV ?_;refine R1 ?_;refine Gn H 4 9 ?_;refine Zma 6 rfl (GB H.1 h Zq11 fun x34 ex34 h=>?_);refine Ds (GP H 7 1 [14,1] [(119,[.tup [.agg (Book.row x34.1),.iv x34.2.1,.iv x34.2.2]]),(7,[.agg (Book.row x34.1),.iv x34.2.1,.iv x34.2.2,.ptr 0 0,.ptr 0 0,.ptr 0 5])] (Ds ?_));refine R1 ?_;refine GD ?_;exact W
           ·refine RV ?_;refine Gn H 4 10 ?_;have ⟨x34,ex34,h⟩:=Bs h;refine Zna 0 6 rfl ?_ ?_
            ·refine RV ?_;refine Zma 6 rfl (GC H.1 (Zq11 ex34) (Ds ?_));refine GP H 7 1 [14,1] [(119,[.tup [.agg (Book.row x34.1),.iv x34.2.1,.iv x34.2.2]]),(7,[.agg (Book.row x34.1),.iv x34.2.1,.iv x34.2.2,.ptr 0 0,.ptr 0 0,.ptr 0 5])] (Ds ?_);refine R1 ?_;refine GD ?_;exact W
            ·refine GC H.1 (Zq11 ex34) ?_;refine Gn H 4 5 ?_;refine R1 ?_;refine Gn H 3 1 ?_;refine R1 ?_;refine GD ?_;exact W
         ·exact W
       ·exact W
      ·refine Zej fun all H=>?_;refine Gn H 1 9 ?_;refine Zna 0 1 rfl ?_ ?_
       ·refine RV ?_;refine R1 ?_;refine Gn H 2 5 ?_;refine R1 ?_;refine Zma 6 rfl ?_;have ⟨x30,ex30,h⟩:=Bs h;refine GA Mail.row ex30 H.1 ?_;refine Gn H 2 1 ?_;refine R1 ?_;refine GD ?_;exact W
       ·refine RV ?_;refine Gn H 2 6 ?_;refine Zna 0 4 rfl ?_ ?_
        ·refine RV ?_;refine R1 ?_;refine Zma 6 rfl ?_;have ⟨x30,ex30,h⟩:=Bs h;refine GA Mail.row ex30 H.1 ?_;refine Gn H 2 1 ?_;refine R1 ?_;refine GD ?_;exact W
        ·refine RV ?_;have ⟨x30,ex30,h⟩:=Bs h;refine Zna 0 6 rfl ?_ ?_
         ·refine RV ?_;refine Zma 6 rfl (GA Mail.row ex30 H.1 ?_);refine Gn H 2 1 ?_;refine R1 ?_;refine GD ?_;exact W
         ·refine GA Mail.row ex30 H.1 (Ds ?_);refine R1 ?_;refine Gn H 2 1 ?_;refine R1 ?_;refine GD ?_;exact W
     ·exact W
    ·refine MC 63 h (fun h=>?_) fun h=>?_
     ·refine Vg 8 ?_;refine VN ((((((((LR.slice 7 rfl).slice 9 rfl).slice 11 rfl).slice 13 rfl).slice 14 rfl).slice 15 rfl).block 0 rfl rfl).block 1 rfl rfl) h (fun e=>Zhr e ⟨by kernel_rfl,rfl,fun z r hz=>Z701 hz⟩) fun _ _ h=>?_;refine Zf6 2 (Ds ?_);refine An ?_;exact W
     ·exact W
   ·refine MI h (fun h=>?_) fun h=>?_
    ·refine Zej fun all H=>?_;refine Gn H 2 13 ?_;have ⟨x22,ex22,h⟩:=Bs h;refine Zoa 0 1 4 rfl ?_ ?_ ?_
     ·refine RV ?_;refine Zna 1 4 rfl ?_ ?_
      ·refine RV ?_;refine Zma 4 rfl (Zud H.1 rfl trivial (Z1l ex22) (h:=?_));refine Gn H 4 6 ?_;refine R1 ?_;refine Gn H 4 1 ?_;refine R1 ?_;refine GD ?_;exact W
      ·refine Zud H.1 rfl trivial (Z1l ex22) (h:=?_);refine Gn H 4 7 ?_;refine Zna 1 9 rfl ?_ ?_
       ·refine RV ?_;refine R1 ?_;refine Gn H 4 1 ?_;refine R1 ?_;refine GD ?_;exact W
       ·refine RV ?_;refine R1 ?_;refine Gn H 4 1 ?_;refine R1 ?_;refine GD ?_;exact W
     ·refine RV ?_;refine Zna 0 4 rfl ?_ ?_
      ·refine RV ?_;refine Zma 4 rfl (Zud H.1 rfl trivial (Z1l ex22) (h:=?_));refine Gn H 4 6 ?_;refine R1 ?_;refine Gn H 4 1 ?_;refine R1 ?_;refine GD ?_;exact W
      ·refine Zud H.1 rfl trivial (Z1l ex22) (h:=Ds ?_);refine R1 ?_;refine Gn H 4 6 ?_;refine R1 ?_;refine Gn H 4 1 ?_;refine R1 ?_;refine GD ?_;exact W
     ·refine Zud H.1 rfl trivial (Z1l ex22) (h:=Ds ?_);refine Zna 0 1 rfl ?_ ?_
      ·refine RV ?_;refine Gn H 4 7 ?_;refine Zna 1 9 rfl ?_ ?_
       ·refine RV ?_;refine R1 ?_;refine Gn H 4 1 ?_;refine R1 ?_;refine GD ?_;exact W
       ·refine RV ?_;refine R1 ?_;refine Gn H 4 1 ?_;refine R1 ?_;refine GD ?_;exact W
      ·refine RV ?_;refine R1 ?_;refine Gn H 4 6 ?_;refine R1 ?_;refine Gn H 4 1 ?_;refine R1 ?_;refine GD ?_;exact W
    ·refine Vg 1 ?_;refine Zjj 3 1 (Ds ?_);refine Zgj 1 15 ?_;exact W
  ·exact W
 ·refine MI h (fun h=>?_) fun h=>?_
  ·refine Vg 2 ?_;refine VR [0] [0,1,2,3,4,5] 2 6 h Ze61 fun _ _ h=>?_;refine Vg 1 ?_;refine Zij 0 9 121 2 ?_;exact W
  ·refine Vg 1 ?_;refine Zjj 53 5 (Ds ?_);refine Zjj 53 5 (Ds ?_);refine Zjj 53 5 (Ds ?_);refine Zjj 53 5 (Ds ?_);refine Zjj 53 5 (Ds ?_);refine Zjj 53 5 (Ds ?_);refine Zgj 4 11 (Ds ?_);refine Zjj 77 5 (Ds ?_);refine Zjj 77 5 (Ds ?_);refine Zgj 5 13 (Zgj 0 7 (Ds ?_));refine Zgj 2 9 (Ds ?_);refine Zjj 121 2 (Ds ?_);refine Zgj 3 14 ?_;exact W
@[go_sem] def e21:EC:=eQ Tryz.f21
def Zc81 (x1:DK):List KE→Option (Node×Int)
| x21=>
 (Zu71 (Node.mk x1 (Book.mk 0 (([]:List Sess))) x21 (([]:List Int)) (([]:List KE)))).bind fun x22=>
 ifb (!decide (x22=0)) (
 some ((Node.mk (DK.mk (DI.mk 0 0 (([]:List Side))) 0 (([]:List Int))) (Book.mk 0 (([]:List Sess))) (([]:List KE)) (([]:List Int)) (([]:List KE))),180)) (
 (Zbz x1.DI.ID x1.DI.PH x1.DI.SD x1.TH x1.Need 0 x21).bind fun x23=>
 some ((Node.mk (DK.mk (DI.mk x1.DI.ID x1.DI.PH x23.1) x1.TH x23.2.1) (Book.mk 0 x23.2.2.2.2.2) x23.2.2.1 x23.2.2.2.1 x23.2.2.2.2.1),0))
def Zd81 (x1:DK):(Int×List KE)→Option ((Int×List KE) ⊕ (Node×Int))
| (x6,x7)=>
 ifb (decide (x6<(ln Side.row x1.DI.SD))) (
 (at_ x1.DI.SD x6).bind fun x8=>
 (Z7c 16 x7 ([KE.mk x8.Peer x8.Epoch])).bind fun x9=>
 some (.inl (wr (x6+1),x9))) (
 Option.map Sum.inr ((Zc81 x1) x7))
def Ze81 (x1:DK):Option (Node×Int):=loop (Zd81 x1) (0,([]:List KE))
theorem Zf81 {x1 r} (h:Ze81 x1=some r):Zy6 Tryz.prog 21 [.agg (DK.row x1)] (.tup [.agg (Node.row r.1),.iv r.2]):=by
 have ok:=oK 21 Tryz.f21 e21 [.c 2 (some 10),.t 3] 1 33;refine FP ok fun w0 H0=>?_;rw [Ze81] at h;refine Vg 22 ?_;refine Vl [2,1,1,1] (fun x21=>([],[none,some ⟨67,[.iv 0,.iv 0,.nl,.iv 0,.nl,.iv 0,.nl,.nl,.nl,.nl]⟩,some ⟨67,[.iv x1.DI.ID,.iv x1.DI.PH,Sp3 x1.DI.SD,.iv x1.TH,Sp1 x1.Need,.iv 0,.nl,.osl 0,.nl,.nl]⟩],[Zxj x21])) (Zc81 x1) r ?_ fun J1=>?_
 ·intro x21 h;rw [Zc81] at h;(try dsimp only);refine Vg 4 ?_;refine VN (LR.slice 0 rfl) h Zv71 fun _ _ h=>?_;refine Vg 2 ?_;refine MI h (fun h=>?_) fun h=>?_
  ·exact W
  ·refine Vg 4 ?_;refine VR [] [0] 3 1 h Zcz fun _ _ h=>?_;refine Vg 3 ?_;refine Zhj 1 (Ds ?_);refine Zhj 2 (Ds ?_);refine Zhj 6 (Ds ?_);refine Zhj 3 (Ds ?_);refine Zhj 4 (Ds ?_);refine Zhj 5 ?_;exact W
 ·refine Vg 1 ?_;refine Zij 2 7 121 2 (Ds ?_);refine Mm h [2,1,1,1,6,2] (fun s=>([(13,.iv s.1)],[],[(0,none)],[(0,Zxj s.2)])) ?_;rintro n1 ⟨x6,x7⟩ y1 h hin1 hout1;rw [Zd81] at h;(try dsimp only);refine Vg 5 ?_;refine MI h (fun h=>?_) fun h=>?_
  ·refine Vg 5 ?_;have ⟨x8,ex8,h⟩:=Bs h;refine Zic Side.row ex8 trivial rfl rfl rfl (Vg 13 ?_);have ⟨x9,ex9,h⟩:=Bs h;refine Zlc KE.row ex9 trivial rfl rfl rfl (Vg 8 ?_);refine Zgj 2 0 ?_;exact W
  ·exact W
@[go_sem] def e11:EC:=eQ Tryz.f11
def Zg81:Bool→Option Int
| x16=>
 ifb x16 (
 some 190) (
 some 0)
def Zh81 (x1:Hall):Unit→Option Int
| ()=>
 ifb (decide (64<(ln Node.row x1.Nodes))) (
 Zg81 true) (
 (Ztv x1.Mail ((fun z=>Zrv z x1))).bind fun x15=>
 Zg81 x15)
def Zi81 (x6:Int):Bool→Option (Int ⊕ Int)
| x9=>
 ifb x9 (
 Option.map Sum.inr (some 190)) (
 some (.inl (wr (x6+1))))
def Zj81 (x1:Hall):Int→Option (Int ⊕ Int)
| x6=>
 ifb (decide (x6<(ln Node.row x1.Nodes))) (
 (at_ x1.Nodes x6).bind fun x7=>
 ifb (!decide (x7.DK.DI.ID=x6)) (
 (Zi81 x6) true) (
 (Zu71 x7).bind fun x8=>
 (Zi81 x6) (!decide (x8=0)))) (
 Option.map Sum.inr ((Zh81 x1) ()))
def Zk81 (x1:Hall):Option Int:=loop (Zj81 x1) 0
theorem Zl81 {x1 r} (h:Zk81 x1=some r):Zy6 Tryz.prog 11 [.agg (Hall.row x1)] (.iv r):=by
 have ok:=oK 11 Tryz.f11 e11 [.t 2] 1 36;refine FP ok fun w0 H0=>?_;rw [Zk81] at h;refine Vg 18 ?_;refine Vk [1,1,1,1] (fun _=>[]) (Zh81 x1) r ?_ fun J1=>?_
 ·rintro ⟨⟩ h;rw [Zh81] at h;(try dsimp only);refine Vg 8 ?_;refine Vl [] (fun x16=>([(36,.bv x16)],[],[])) Zg81 r ?_ fun J3=>?_
  ·intro x16 h;rw [Zg81] at h;exact W
  ·refine MC 31 h (fun h=>?_) fun h=>?_
   ·exact W
   ·refine Vg 3 ?_;refine VN (LR.block 0 rfl rfl) h (fun e=>Zuv e ⟨by kernel_rfl,rfl,fun z r hz=>Zsv hz⟩) fun _ _ h=>?_;exact W
 ·refine Vg 1 ?_;refine Mk h [1,1,1,1,4,2] (fun x6=>[(10,.iv x6)]) ?_;rintro n1 x6 y1 h hin1 hout1;rw [Zj81] at h;(try dsimp only);refine Vg 5 ?_;refine MI h (fun h=>?_) fun h=>?_
  ·refine Vg 6 ?_;have ⟨x7,ex7,h⟩:=Bs h;refine Zic Node.row ex7 trivial rfl rfl rfl (Vg 14 ?_);refine Vl [1,1,1,1,4,3] (fun x9=>([(25,.bv x9)],[some ⟨29,Hall.row x1⟩],[])) (Zi81 x6) y1 ?_ fun J2=>?_
   ·intro x9 h;rw [Zi81] at h;exact W
   ·refine MC 21 h (fun h=>?_) fun h=>?_
    ·exact W
    ·refine Vg 1 ?_;refine VB h Zv71 fun _ _ h=>?_;exact W
  ·exact W
def Zm81 (x7:Int):(Int×Int×Int×Int×List Sess×List Int×List Mail×List KE×List Event×List KE×List Int×List Side)→Option ((Int×Int×Int×Int×List Sess×List Int×List Mail×List KE×List Event×List KE×List Int×List Side) ⊕ (Int×Int×Int×Int×List Sess×List Int×Int×List Side×List Int×List KE×List KE×List Mail×List Event))
| (x28,x29,x30,x31,x32,x33,x34,x35,x36,x37,x38,x39)=>
 (Zvx x28 x29 x30 x31 x32 x33 x39 x38 x35 x37).bind fun x40=>
 (Za81 x28 x29 x30 x31 x32 x33 x7 x39 x38 x35 x37 x34 x36).bind fun x41=>
 (Za01 (Node.mk (DK.mk (DI.mk x28 x29 x40.1) x30 x40.2.1) (Book.mk x31 x40.2.2.2.2.2) x40.2.2.1 x40.2.2.2.1 x40.2.2.2.2.1) (Node.mk (DK.mk (DI.mk x41.1 x41.2.1 x41.2.2.2.2.2.2.2.2.2.2.2) x41.2.2.1 x41.2.2.2.2.2.2.2.2.2.1) (Book.mk x41.2.2.2.1 x41.2.2.2.2.1) x41.2.2.2.2.2.2.1 x41.2.2.2.2.2.1 x41.2.2.2.2.2.2.2.2.1)).bind fun x42=>
 ifb x42 (
 Option.map Sum.inr (some (x41.1,x41.2.1,x41.2.2.1,x41.2.2.2.1,x41.2.2.2.2.1,x41.2.2.2.2.2.1,0,x41.2.2.2.2.2.2.2.2.2.2.2,x41.2.2.2.2.2.2.2.2.2.1,x41.2.2.2.2.2.2.1,x41.2.2.2.2.2.2.2.2.1,x41.2.2.2.2.2.2.2.2.2.2.1,x41.2.2.2.2.2.2.2.1))) (
 some (.inl (x41.1,x41.2.1,x41.2.2.1,x41.2.2.2.1,x41.2.2.2.2.1,x41.2.2.2.2.2.1,x41.2.2.2.2.2.2.2.2.2.2.1,x41.2.2.2.2.2.2.1,x41.2.2.2.2.2.2.2.1,x41.2.2.2.2.2.2.2.2.1,x41.2.2.2.2.2.2.2.2.2.1,x41.2.2.2.2.2.2.2.2.2.2.2)))
def Zn81 (x1 x2:Int) (x3 x4:Int) (x5:List Sess) (x6:List Int) (x7:Int) (x8:List Side) (x9:List Int) (x10 x11:List KE) (x12:List Event):Option (Int×Int×Int×Int×List Sess×List Int×Int×List Side×List Int×List KE×List KE×List Mail×List Event):=
 ifb (!decide (x7=0)) (
 some (0,0,0,0,([]:List Sess),([]:List Int),x7,([]:List Side),([]:List Int),([]:List KE),([]:List KE),([]:List Mail),([]:List Event))) (
 loop (Zm81 x7) (x1,x2,x3,x4,x5,x6,([]:List Mail),x10,x12,x11,x9,x8))
theorem Zo81 {x1 x2 x3 x4 x5 x6 x7 x8 x9 x10 x11 x12 r} (h:Zn81 x1 x2 x3 x4 x5 x6 x7 x8 x9 x10 x11 x12=some r):Z0f Tryz.prog 73 [.ptr 0 0] [some ⟨138,[.iv x1,.iv x2,.osl 0,.iv x3,.osl 1,.iv x4,Sp5 x5,.osl 2,Sp1 x6,.osl 3,.nl,.osl 4,.iv x7]⟩] [Zwj x8,Sq4 x9,Zxj x10,Zxj x11,Zzj x12] (.tup [.agg [.iv r.1,.iv r.2.1,.osl 5,.iv r.2.2.1,.osl 6,.iv r.2.2.2.1,Sp5 r.2.2.2.2.1,.osl 7,Sp1 r.2.2.2.2.2.1,.osl 8],.osl 9,.osl 10,.iv r.2.2.2.2.2.2.1]) [none] [none,none,none,none,none,Zwj r.2.2.2.2.2.2.2.1,Sq4 r.2.2.2.2.2.2.2.2.1,Zxj r.2.2.2.2.2.2.2.2.2.1,Zxj r.2.2.2.2.2.2.2.2.2.2.1,Sq6 r.2.2.2.2.2.2.2.2.2.2.2.1,Zzj r.2.2.2.2.2.2.2.2.2.2.2.2]:=by
 refine FT ok73 fun w0 M0=>?_;have ok:=ok73;rw [Zn81] at h;dsimp only[lun,List.cons_append,List.nil_append];refine Vg 16 ?_;refine MI h (fun h=>?_) fun h=>?_
 ·refine Vg 1 ?_;refine Zej fun all H=>Gs ?_;refine Zij 1 2 112 8 (Ds ?_);refine Zij 1 4 3 1 (Ds ?_);refine Zij 1 7 121 2 (Ds ?_);refine Zij 1 9 121 2 (Ds ?_);refine Zbb 3 53 5 rfl rfl (Ds ?_);refine Zbb 4 77 5 rfl rfl (Ds ?_);obtain rfl:=Option.some.inj h;exact Zkj ok73
 ·refine Vg 2 ?_;refine Zij 0 10 53 5 (Ds ?_);refine Zjj 77 5 (Ds ?_);refine Zjj 77 5 (Ds ?_);refine Zjj 77 5 (Ds ?_);refine Zjj 77 5 (Ds ?_);refine Zjj 77 5 (Ds ?_);refine Zjj 77 5 (Ds ?_);refine Zjj 77 5 (Ds ?_);refine Zjj 77 5 (Ds ?_);refine Zjj 77 5 (Ds ?_);refine Zjj 77 5 (Ds ?_);refine Zjj 77 5 (Ds ?_);refine Zjj 77 5 (Ds ?_);refine Zjj 77 5 (Ds ?_);refine Zgj 4 18 (Ds ?_);refine Zjj 112 8 (Ds ?_);refine Zjj 112 8 (Ds ?_);refine Zjj 112 8 (Ds ?_);refine Zjj 112 8 (Ds ?_);refine Zjj 112 8 (Ds ?_);refine Zjj 112 8 (Ds ?_);refine Zjj 112 8 (Ds ?_);refine Zjj 112 8 (Ds ?_);refine Zjj 112 8 (Ds ?_);refine Zgj 0 27 (Zgj 1 22 (Ds ?_));refine Zgj 2 14 (Zgj 3 19 (Ds ?_));refine Ml h [0,1,1,1] (fun s=>([],[some ⟨138,[.iv s.1,.iv s.2.1,.osl 27,.iv s.2.2.1,.osl 22,.iv s.2.2.2.1,Sp5 s.2.2.2.2.1,.osl 14,Sp1 s.2.2.2.2.2.1,.osl 19,.osl 5,.osl 18,.iv x7]⟩,some ⟨67,[.iv 0,.iv 0,.nl,.iv 0,.nl,.iv 0,.nl,.nl,.nl,.nl]⟩],[none,none,none,none,none,Sq6 s.2.2.2.2.2.2.1,none,none,none,none,none,none,none,none,Zxj s.2.2.2.2.2.2.2.1,none,none,none,Zzj s.2.2.2.2.2.2.2.2.1,Zxj s.2.2.2.2.2.2.2.2.2.1,none,none,Sq4 s.2.2.2.2.2.2.2.2.2.2.1,none,none,none,none,Zwj s.2.2.2.2.2.2.2.2.2.2.2])) ?_;rintro n1 ⟨x28,x29,x30,x31,x32,x33,x34,x35,x36,x37,x38,x39⟩ y1 h hin1 hout1;rw [Zm81] at h;(try dsimp only);refine Vg 7 ?_;refine VR [] [27,22,14,19] 2 28 h Zwx fun _ _ h=>?_;refine Ds ?_;refine Vg 6 ?_;refine VR [0] [27,22,14,19,5,18] 3 34 h Zb81 fun _ _ h=>?_;refine Vg 2 ?_;refine Zej fun all H=>?_;refine Gn H 3 3 ?_;refine Zna 0 4 rfl ?_ ?_
  ·refine RV ?_;refine R1 ?_;refine Zma 5 rfl (GQ H.1 ((((((((((LR.slice 28 rfl).slice 29 rfl).slice 30 rfl).slice 31 rfl).slice 32 rfl).slice 33 rfl).slice 37 rfl).slice 42 rfl).slice 45 rfl).slice 50 rfl) h Zb01 fun x42 ex42 h=>?_);refine Ds ?_;refine GD (MI h (fun h=>?_) fun h=>?_)
   ·refine Vg 1 ?_;refine Zej fun all H=>Gs ?_;refine Zgj 50 5 (Zgj 45 6 (Ds ?_));refine Zgj 37 7 (Zgj 42 8 (Ds ?_));refine Zgj 49 9 (Zgj 41 10 (Ds ?_));obtain rfl:=Option.some.inj (Zdc h hout1);exact Zkj ok73
   ·refine Vg 2 ?_;refine Zgj 49 5 (Zgj 41 18 (Ds ?_));refine Zgj 50 27 (Zgj 45 22 (Ds ?_));refine Zgj 37 14 (Zgj 42 19 ?_);exact W
  ·refine RV ?_;refine R1 ?_;refine Zma 5 rfl (GQ H.1 ((((((((((LR.slice 28 rfl).slice 29 rfl).slice 30 rfl).slice 31 rfl).slice 32 rfl).slice 33 rfl).slice 37 rfl).slice 42 rfl).slice 45 rfl).slice 50 rfl) h Zb01 fun _ _ h=>?_);refine Ds ?_;refine GD (MI h (fun h=>?_) fun h=>?_)
   ·refine Vg 1 ?_;refine Zej fun all H=>Gs ?_;refine Zgj 50 5 (Zgj 45 6 (Ds ?_));refine Zgj 37 7 (Zgj 42 8 (Ds ?_));refine Zgj 49 9 (Zgj 41 10 (Ds ?_));obtain rfl:=Option.some.inj (Zdc h hout1);exact Zkj ok73
   ·refine Vg 2 ?_;refine Zgj 49 5 (Zgj 41 18 (Ds ?_));refine Zgj 50 27 (Zgj 45 22 (Ds ?_));refine Zgj 37 14 (Zgj 42 19 ?_);exact W
end
end NX
end Go.Proofs.YtgamgemlekpepaaGreat
