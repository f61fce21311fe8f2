/-
  The function narthex/drink.Get, lent own memory. Written by a program of ours (lb.py). No statement of the seat is proved here.
-/
import Derived.Test.YtgamgemlekpepaaGreatK41
set_option maxRecDepth 100000
set_option maxHeartbeats 40000000
namespace Go.Proofs.YtgamgemlekpepaaGreat
namespace NX
open Go
noncomputable section
def Zi71 (x1 x2:Int) (x3 x4:Int) (x5:Msg) (x9:(List SX×List Int)) (x10:Int):Bool→Option (Int×Int×Int×Int×List SX×List Int)
| x11=>
 ifb x11 (
 (Z861 x1 x2 x4 x5 x9.1).bind fun x12=>
 ifb (!decide (x12.2.2.1=0)) (
 some (0,0,0,x12.2.2.1,([]:List SX),([]:List Int))) (
 some (x12.1,x12.2.1,x3,0,x12.2.2.2,x9.2))) (
 (at_ x9.1 x10).bind fun x13=>
 ifb (decide (x5.KI=4)) (
 ifb x13.Ask (
 some (0,0,0,132,([]:List SX),([]:List Int))) (
 some (x1,x2,x3,0,x9.1.set (Int.toNat (x10)) (SX.mk x13.PE x13.EP x13.SS x13.FK x13.DY x13.TO x13.BO true),x9.2))) (
 ifb x13.BO (
 some (0,0,0,132,([]:List SX),([]:List Int))) (
 some (x1,x2,x3,0,x9.1.set (Int.toNat (x10)) (SX.mk x13.PE x13.EP x13.SS x13.FK x13.DY x13.TO true x13.Ask),x9.2))))
def Zj71 (x1 x2:Int) (x3 x4:Int) (x5:Msg) (x6:List SX) (x7:List Int):Option (Int×Int×Int×Int×List SX×List Int):=
 (Za41 (DK.mk (DI.mk x1 x2 x6) x3 x7)).bind fun x8=>
 ifb (!decide (x8=0)) (
 some (0,0,0,x8,([]:List SX),([]:List Int))) (
 (Z1y x1 x2 x3 x6 x7).bind fun x9=>
 (Zkk x9.1 ((fun z=>Zlo z x4 x5))).bind fun x10=>
 ifb (decide (x10<0)) (
 (Zi71 x1 x2 x3 x4 x5 x9 x10) true) (
 ifb (!decide (x5.Num=0)) (
 (Zi71 x1 x2 x3 x4 x5 x9 x10) true) (
 ifb (!decide (x5.KI=3)) (
 (Zi71 x1 x2 x3 x4 x5 x9 x10) (!decide (x5.KI=4))) (
 (Zi71 x1 x2 x3 x4 x5 x9 x10) false))))
theorem Zk71 {x1 x2 x3 x4 x5 x6 x7 r} (h:Zj71 x1 x2 x3 x4 x5 x6 x7=some r):FTx 136 [.agg [.iv x1,.iv x2,.osl 0,.iv x3,.osl 1],.iv x4,.agg (Msg.row x5)] [] [Z5k x6,Sq4 x7] (.tup [.agg [.iv r.1,.iv r.2.1,.osl 2,.iv r.2.2.1,.osl 3],.iv r.2.2.2.1]) [] [Z5k x6,Sq4 x7,Z5k r.2.2.2.2.1,Sq4 r.2.2.2.2.2]:=by
 refine Ft Z471 fun w0 M0=>?_;have ok:=Z471;rw [Zj71] at h;refine Vg 12 ?_;refine VN ((LR.slice 0 rfl).slice 1 rfl) h Zb41 fun _ _ h=>?_;refine Vg 7 ?_;refine MI h (fun h=>?_) fun h=>?_
 ·refine Vg 7 ?_;refine Zkj 3 2 112 8 (Ds ?_);refine Zkj 3 4 3 1 ?_;exact W
 ·refine Vg 4 ?_;refine VR [] [0,1] 4 2 h Z2y fun x9 _ h=>?_;refine Vg 8 ?_;refine VN (((LR.slice 2 rfl).block 1 rfl rfl).block 2 rfl rfl) h (fun e=>Zlk e ⟨by kernel_rfl,rfl,fun z r hz=>Zmo hz⟩) fun x10 _ h=>?_;refine Zg6 8 (Ds ?_);refine An (Vk [3,4,2,1] (fun x11=>[(42,.bv x11)]) (Zi71 x1 x2 x3 x4 x5 x9 x10) r ?_ fun J1=>?_)
  ·intro x11 h;rw [Zi71] at h;refine MI h (fun h=>?_) fun h=>?_
   ·refine Vg 6 ?_;refine VR [] [2] 4 4 h Z961 fun _ _ h=>?_;refine Vg 13 ?_;refine MI h (fun h=>?_) fun h=>?_
    ·refine Vg 7 ?_;refine Zkj 3 2 112 8 (Ds ?_);refine Zkj 3 4 3 1 (Ds ?_);refine Zij 5 2 (Zij 6 3 ?_);exact W
    ·refine Vg 13 ?_;refine Zij 4 2 ?_;exact W
   ·refine Vg 7 ?_;have ⟨x13,ex13,h⟩:=Bs h;refine Zee SX.row ex13 trivial rfl rfl rfl (Vg 10 ?_);refine MI h (fun h=>?_) fun h=>?_
    ·refine Vg 5 ?_;refine Zee SX.row ex13 trivial rfl rfl rfl (Vg 8 ?_);refine Zle SX.row ex13 trivial rfl rfl rfl (Vg 1 ?_);refine MI h (fun h=>?_) fun h=>?_
     ·refine Vg 6 ?_;refine Zkj 3 2 112 8 (Ds ?_);refine Zkj 3 4 3 1 (Ds ?_);refine Zij 4 2 (Zij 5 3 ?_);exact W
     ·refine Vg 5 ?_;refine Zve [.bv true] SX.row (y':=(SX.mk x13.PE x13.EP x13.SS x13.FK x13.DY x13.TO x13.BO true)) ex13 trivial rfl rfl rfl (by first | exact Zrb _ | simp [go_sem]) rfl rfl rfl rfl ?_;exact W
    ·refine Vg 6 ?_;refine Zle SX.row ex13 trivial rfl rfl rfl (Vg 1 ?_);refine MI h (fun h=>?_) fun h=>?_
     ·refine Vg 6 ?_;refine Zkj 3 2 112 8 (Ds ?_);refine Zkj 3 4 3 1 (Ds ?_);refine Zij 4 2 (Zij 5 3 ?_);exact W
     ·refine Vg 5 ?_;refine Zve [.bv true] SX.row (y':=(SX.mk x13.PE x13.EP x13.SS x13.FK x13.DY x13.TO true x13.Ask)) ex13 trivial rfl rfl rfl (by first | exact Zrb _ | simp [go_sem]) rfl rfl rfl rfl ?_;exact W
  ·exact W
def Zl71:List DK→Option (Bar×Int)
| x17=>some ((Bar.mk x17 (([]:List ML))),0)
def Zm71 (x2:(SN×Int)):(Int×List DK)→Option ((Int×List DK) ⊕ (Bar×Int))
| (x7,x8)=>
 ifb (decide (x7<(ln DI.row x2.1.DZ))) (
 (at_ x2.1.DZ x7).bind fun x9=>
 (Z8c 72 x8 ([DK.mk x9 0 (([]:List Int))])).bind fun x10=>
 some (.inl (wr (x7+1),x10))) (
 Option.map Sum.inr (Zl71 x8))
def Zn71 (x1:Graph):Option (Bar×Int):=
 (Z571 x1).bind fun x2=>
 ifb (!decide (x2.2=0)) (
 some ((Bar.mk (([]:List DK)) (([]:List ML))),x2.2)) (
 loop (Zm71 x2) (0,([]:List DK)))
theorem Zo71 {x1 r} (h:Zn71 x1=some r):FPx 20 [.agg (Graph.row x1)] (.tup [.agg (Bar.row r.1),.iv r.2]):=by
 have ok:=oJ 20 Tryz.f20 [.c 2 (some 2),.t 3] 1 33;refine FP ok fun w0 H0=>?_;rw [Zn71] at h;refine Vg 9 ?_;refine VB h Z671 fun _ _ h=>?_;refine Vg 13 ?_;refine MI h (fun h=>?_) fun h=>?_
 ·exact W
 ·refine Vg 13 ?_;refine Vl [2,1,3,1] (fun x17=>([],[none,some ⟨73,[.nl,.nl]⟩,none,some ⟨73,[.osl 0,.nl]⟩],[Z4k x17])) Zl71 r ?_ fun J1=>?_
  ·intro x17 h;rw [Zl71] at h;refine Vg 6 ?_;refine Zjj 0 ?_;exact W
  ·refine Vg 1 ?_;refine Zkj 3 0 61 5 (Ds ?_);refine Mm h [2,1,3,1,12,2] (fun s=>([(21,.iv s.1)],[],[(0,none),(2,none)],[(0,Z4k s.2)])) ?_;rintro n1 ⟨x7,x8⟩ y1 h hin1 hout1;rw [Zm71] at h;refine Vg 5 ?_;refine MI h (fun h=>?_) fun h=>?_
   ·refine Vg 5 ?_;have ⟨x9,ex9,h⟩:=Bs h;refine Zjc DI.row ex9 trivial rfl rfl rfl (Vg 9 ?_);refine Zxf 28 (.agg [.iv x9.ID,.iv x9.PH,Sp3 x9.SD,.iv 0,Sp1 (([]:List Int))]) (by simp [go_sem]) ?_;refine Vg 1 ?_;have ⟨x10,ex10,h⟩:=Bs h;refine Zmc DK.row ex10 trivial rfl rfl rfl (Vg 8 ?_);refine Zij 2 0 ?_;exact W
   ·exact W
def Zp71:(Int×Int×Int×Int×List SE×Int×List EV×List SX×List Int)→Option (Int×Int×Int×Int×List SE×Int×List EV×List SX×List Int)
| (x44,x45,x46,x47,x48,x49,x50,x51,x52)=>some (x44,x45,x46,x47,x48,x49,x50,x51,x52)
def Zq71 (x1:Do) (x2:Int) (x3 x4 x5:Int) (x7:List SX) (x8:List Int) (x9:List SE) (x16:BK):(Bool×Int)→Option (Int×Int×Int×Int×List SE×Int×List EV×List SX×List Int)
| (x21,x22)=>
 ifb x21 (
 (Z8s x1.NE).bind fun x23=>
 (Z8c 56 [] ([EV.mk 0 x2 x1.ID 0 x23])).bind fun x24=>
 Zp71 (x2,x3,x4,x16.LA,x16.SE,x22,x24,x7,x8)) (
 Zp71 (x2,x3,x4,x5,x9,x22,([]:List EV),x7,x8))
def Zr71 (x1:Do) (x2:Int) (x3 x4:Int) (x5 x6:Int) (x7:List SX) (x8:List Int) (x9:List SE) (x10:List KE) (x11:List Int) (x12:List KE):(Int×BK)→Option (Int×Int×Int×Int×List SE×Int×List EV×List SX×List Int)
| (x15,x16)=>
 (Z5t (decide (x15=0)) x15 x2 x3 x4 x5 x9 x6 x7 x8 x10 x11 x12).bind fun x17=>
 ifb x17.1 (
 (Zvx x2 x3 x4 x5 x9 x7 x8 x10 x11 x12).bind fun x18=>
 (Zz31 x1.NE x18).bind fun x19=>
 (Z5t x19 181 x2 x3 x4 x5 x9 x17.2 x7 x8 x10 x11 x12).bind fun x20=>
 (Zq71 x1 x2 x3 x4 x5 x7 x8 x9 x16) (x20.1,x20.2)) (
 (Zq71 x1 x2 x3 x4 x5 x7 x8 x9 x16) (false,x17.2))
def Zs71 (x2 x3 x4:Int) (x7:List SX) (x8:List Int) (x10:List KE) (x11:List Int) (x12:List KE) (x31:(Bool×Int×List SE×Int)) (x32:List EV):Bool→Option (Int×Int×Int×Int×List SE×Int×List EV×List SX×List Int)
| x33=>
 ifb x33 (
 (Zd71 x2 x3 x4 x31.2.1 x31.2.2.1 x31.2.2.2 x7 x8 x10 x11 x12 x32).bind fun x34=>
 Zp71 (x34.1,x34.2.1,x34.2.2.1,x31.2.1,x31.2.2.1,x31.2.2.2,x32,x34.2.2.2.1,x34.2.2.2.2)) (
 Zp71 (x2,x3,x4,x31.2.1,x31.2.2.1,x31.2.2.2,x32,x7,x8))
def Zt71 (x2 x3 x4:Int) (x7:List SX) (x8:List Int) (x10:List KE) (x11:List Int) (x12:List KE) (x37:Int) (x40:(Bool×Int×List SE×Int)):Bool→Option (Int×Int×Int×Int×List SE×Int×List EV×List SX×List Int)
| x41=>
 ifb x41 (
 (Zct 4 x37 x2 x3 x4 x40.2.1 x40.2.2.1 x40.2.2.2 x7 x8 x10 x11 x12).bind fun x42=>
 (Zd71 x2 x3 x4 x40.2.1 x40.2.2.1 x40.2.2.2 x7 x8 x10 x11 x12 x42).bind fun x43=>
 Zp71 (x43.1,x43.2.1,x43.2.2.1,x40.2.1,x40.2.2.1,x40.2.2.2,x42,x43.2.2.2.1,x43.2.2.2.2)) (
 Zp71 (x2,x3,x4,x40.2.1,x40.2.2.1,x40.2.2.2,([]:List EV),x7,x8))
def Zu71 (x2 x3:Int) (x4 x5 x6:Int) (x7:List SX) (x8:List Int) (x9:List SE) (x10:List KE) (x11:List Int) (x12:List KE):(Int×Int×BK)→Option (Int×Int×Int×Int×List SE×Int×List EV×List SX×List Int)
| (x37,x38,x39)=>
 (Zyx x39 x38 x2 x3 x4 x5 x9 x6 x7 x8 x10 x11 x12).bind fun x40=>
 ifb x40.1 (
 (Zt71 x2 x3 x4 x7 x8 x10 x11 x12 x37 x40) (!decide (x37=0))) (
 (Zt71 x2 x3 x4 x7 x8 x10 x11 x12 x37 x40) false)
def Zv71 (x1:Do) (x2:Int) (x3 x4:Int) (x5 x6:Int) (x7:List SX) (x8:List Int) (x9:List SE) (x10:List KE) (x11:List Int) (x12:List KE):Option (Int×Int×Int×Int×List SE×Int×List EV×List SX×List Int):=
 ifb (decide (x1.KI=0)) (
 (Z321 (BK.mk x5 x9) x1.ID x1.NE).bind fun x13=>
 (Zr71 x1 x2 x3 x4 x5 x6 x7 x8 x9 x10 x11 x12) (x13.2,x13.1)) (
 ifb (decide (x1.KI=1)) (
 (Z351 (BK.mk x5 x9) x1.ID).bind fun x25=>
 (Zyx x25.1 x25.2 x2 x3 x4 x5 x9 x6 x7 x8 x10 x11 x12).bind fun x26=>
 ifb x26.1 (
 (Zct 2 x1.ID x2 x3 x4 x26.2.1 x26.2.2.1 x26.2.2.2 x7 x8 x10 x11 x12).bind fun x27=>
 (Zd71 x2 x3 x4 x26.2.1 x26.2.2.1 x26.2.2.2 x7 x8 x10 x11 x12 x27).bind fun x28=>
 Zp71 (x28.1,x28.2.1,x28.2.2.1,x26.2.1,x26.2.2.1,x26.2.2.2,x27,x28.2.2.2.1,x28.2.2.2.2)) (
 Zp71 (x2,x3,x4,x26.2.1,x26.2.2.1,x26.2.2.2,([]:List EV),x7,x8))) (
 ifb (decide (x1.KI=2)) (
 (Zgt x2 x3 x4 x5 x7 x8 x9 x10 x11 x12).bind fun x29=>
 (Z551 (BK.mk x5 x9) x1.ID).bind fun x30=>
 (Zyx x30.1 x30.2 x2 x3 x4 x5 x9 x6 x7 x8 x10 x11 x12).bind fun x31=>
 ifb x31.1 (
 (Zct 3 x1.ID x2 x3 x4 x31.2.1 x31.2.2.1 x31.2.2.2 x7 x8 x10 x11 x12).bind fun x32=>
 ifb (decide (x29.1.ID=x1.ID)) (
 (Zs71 x2 x3 x4 x7 x8 x10 x11 x12 x31 x32) (decide (x4=1))) (
 (Zs71 x2 x3 x4 x7 x8 x10 x11 x12 x31 x32) false)) (
 Zp71 (x2,x3,x4,x31.2.1,x31.2.2.1,x31.2.2.2,([]:List EV),x7,x8))) (
 ifb (decide (x1.KI=3)) (
 (Ze21 (BK.mk x5 x9) x1.Hold).bind fun x35=>
 (Zu71 x2 x3 x4 x5 x6 x7 x8 x9 x10 x11 x12) (x35.2.1,x35.2.2,x35.1)) (
 Zp71 (x2,x3,x4,x5,x9,x6,([]:List EV),x7,x8)))))
theorem Zw71 {x1 x2 x3 x4 x5 x6 x7 x8 x9 x10 x11 x12 r} (h:Zv71 x1 x2 x3 x4 x5 x6 x7 x8 x9 x10 x11 x12=some r):FTx 68 [.ptr 0 0,.agg (Do.row x1)] [some ⟨138,[.iv x2,.iv x3,.osl 0,.iv x4,.osl 1,.iv x5,.osl 2,.osl 3,.osl 4,.osl 5,.nl,.nl,.iv x6]⟩] [Z5k x7,Sq4 x8,Z3k x9,Z6k x10,Sq4 x11,Z6k x12] (.tup []) [some ⟨138,[.iv r.1,.iv r.2.1,.osl 8,.iv r.2.2.1,.osl 9,.iv r.2.2.2.1,Sp5 r.2.2.2.2.1,.osl 3,.osl 4,.osl 5,.nl,.osl 6,.iv r.2.2.2.2.2.1]⟩] [none,none,none,Z6k x10,Sq4 x11,Z6k x12,Z8k r.2.2.2.2.2.2.1,none,Z5k r.2.2.2.2.2.2.2.1,Sq4 r.2.2.2.2.2.2.2.2]:=by
 refine Ft ok68 fun w0 M0=>?_;have ok:=ok68;rw [Zv71] at h;refine Vg 15 ?_;refine Vl [] (fun s=>([],[some ⟨138,[.iv s.1,.iv s.2.1,.osl 8,.iv s.2.2.1,.osl 9,.iv s.2.2.2.1,Sp5 s.2.2.2.2.1,.osl 3,.osl 4,.osl 5,.nl,.osl 6,.iv s.2.2.2.2.2.1]⟩],[none,none,none,Z6k x10,Sq4 x11,Z6k x12,Z8k s.2.2.2.2.2.2.1,none,Z5k s.2.2.2.2.2.2.2.1,Sq4 s.2.2.2.2.2.2.2.2])) Zp71 r ?_ fun J1=>?_
 ·rintro ⟨x44,x45,x46,x47,x48,x49,x50,x51,x52⟩ h;rw [Zp71] at h;exact W
 ·refine MI h (fun h=>?_) fun h=>?_
  ·refine Vg 1 ?_;refine Zjj 2 (Ds ?_);refine Vl [0,1,2,1] (fun s=>([(4,.ptr 2 0),(5,.iv s.1)],[some ⟨138,[.iv x2,.iv x3,.osl 0,.iv x4,.osl 1,.iv x5,Sp5 x9,.osl 3,.osl 4,.osl 5,.nl,.nl,.iv x6]⟩,some ⟨42,Do.row x1⟩,some ⟨64,[.iv s.2.LA,Sp5 s.2.SE]⟩],[Z5k x7,Sq4 x8,none,Z6k x10,Sq4 x11,Z6k x12])) (Zr71 x1 x2 x3 x4 x5 x6 x7 x8 x9 x10 x11 x12) r ?_ fun J2=>?_
   ·rintro ⟨x15,x16⟩ h;rw [Zr71] at h;refine Vg 1 ?_;refine Vm [0,1,2,2] (fun s=>([(44,.bv s.1)],[(0,12,.iv s.2)],[],[])) (Zq71 x1 x2 x3 x4 x5 x7 x8 x9 x16) r ?_ fun J3=>?_
    ·rintro ⟨x21,x22⟩ h;rw [Zq71] at h;refine MI h (fun h=>?_) fun h=>?_
     ·refine Vg 9 ?_;refine Zgj fun all H=>Ds (GP H 16 7 [16,7] [(50,[.ptr 0 0,.ptr 0 0,.ptr 0 0,.ptr 0 11,.nl,.ptr 0 0,.ptr 0 0,.ptr 0 0,.ptr 0 0,.ptr 0 0,.ptr 0 0,.iv x2,.ptr 1 1,.iv x1.ID,.ptr 1 4,Sp1 x1.NE])] (Ds ?_));refine RB h Zas fun _ _ h=>?_;refine GN H 1 5 (Ds ?_);refine An (R1 ?_);refine Zna 19 rfl ?_;have ⟨x24,ex24,h⟩:=Bs h;refine Zoc EV.row ex24 H.1 rfl trivial rfl rfl ?_;refine Gn H 2 1 ?_;refine R1 ?_;refine GD (Zij 7 6 (Ds ?_));refine Zlj 112 8 (Ds ?_);refine Zij 0 8 (Ds ?_);refine Zlj 3 1 (Ds ?_);refine Zij 1 9 ?_;exact W
     ·refine Vg 1 ?_;refine Zkj 0 11 77 5 (Ds ?_);refine Zlj 112 8 (Ds ?_);refine Zlj 112 8 (Ds ?_);refine Zij 0 8 (Ds ?_);refine Zlj 3 1 (Ds ?_);refine Zij 1 9 ?_;exact W
    ·refine Zgj fun all H=>Ds (GP H 4 13 [4,13] [(28,[.ptr 0 0,.iv x15,.bv (decide (x15=0)),.iv x15])] (Ds ?_));refine RF [0] [0,1,3,4,5] 3 6 h Z6t fun _ _ h=>?_;refine GN H 1 11 (Ds ?_);refine An (Zdd 33 h rfl (fun _ h=>?_) fun _ h=>?_)
     ·refine Ds (GP H 6 5 [12,5] [(34,[.ptr 0 0,.ptr 1 4,Sp1 x1.NE,.ptr 0 0,.ptr 0 0,.ptr 0 0])] (Ds ?_));refine R1 ?_;refine RR [] [0,1,3,4,5] 3 6 h Zwx fun _ _ h=>?_;refine RQ (LR.slice 6 rfl) h Z041 fun _ _ h=>?_;refine RF [0] [0,1,3,4,5] 3 7 h Z6t fun _ _ h=>?_;refine Gn H 1 0 ?_;refine GD ?_;exact W
     ·refine Ds (GP H 11 0 [17] [(34,[.un,.un,.un,.un,.un,.un,.un,.un,.un,.un,.ff])] (Ds ?_));refine GD ?_;exact W
   ·have ⟨x13,ex13,h⟩:=Bs h;have q0:=Z421 ex13;refine Zgj fun all H=>Gs ?_;exact W
  ·refine Vg 5 ?_;refine MI h (fun h=>?_) fun h=>?_
   ·refine Vg 1 ?_;refine Zjj 2 (Ds ?_);refine Zgj fun all H=>Ds (GP H 8 4 [8,4] [(74,[.ptr 0 0,.ptr 0 0,.ptr 0 0,.ptr 0 0,.ptr 0 5,.agg [.iv x5,Sp5 x9],.ptr 1 1,.iv x1.ID])] (Ds ?_));refine RB h Z451 fun _ _ h=>?_;refine GN H 2 1 (Ds ?_);refine An (RF [0] [0,1,3,4,5] 2 6 h Zzx fun _ _ h=>?_);refine GD (MI h (fun h=>?_) fun h=>?_)
    ·refine Vg 5 ?_;refine VR [0] [0,1,3,4,5] 2 6 h Zdt fun _ _ h=>?_;refine Vg 3 ?_;refine VR [0] [0,1,3,4,5,7] 2 8 h Ze71 fun _ _ h=>?_;refine Vg 1 ?_;refine Zij 7 6 ?_;exact W
    ·refine Vg 1 ?_;refine Zkj 0 11 77 5 (Ds ?_);refine Zlj 112 8 (Ds ?_);refine Zlj 112 8 (Ds ?_);refine Zij 0 8 (Ds ?_);refine Zlj 3 1 (Ds ?_);refine Zij 1 9 ?_;exact W
   ·refine Vg 5 ?_;refine MI h (fun h=>?_) fun h=>?_
    ·refine Vg 6 ?_;refine VR [] [0,1,2,3,4,5] 2 6 h Zht fun _ _ h=>?_;refine Vg 8 ?_;refine Zjj 2 (Ds ?_);refine Zgj fun all H=>Ds (GP H 8 4 [8,4] [(102,[.ptr 0 0,.ptr 0 0,.ptr 0 0,.ptr 0 0,.ptr 0 5,.agg [.iv x5,Sp5 x9],.ptr 1 1,.iv x1.ID])] (Ds ?_));refine RB h Z651 fun _ _ h=>?_;refine Gn H 2 1 ?_;refine RF [0] [0,1,3,4,5] 3 6 h Zzx fun x31 _ h=>?_;refine GD (MI h (fun h=>?_) fun h=>?_)
     ·refine Vg 5 ?_;refine VR [0] [0,1,3,4,5] 3 6 h Zdt fun x32 _ h=>?_;refine Vg 9 ?_;refine Vl [0,1] (fun x33=>([(131,.bv x33)],[some ⟨138,[.iv x2,.iv x3,.osl 0,.iv x4,.osl 1,.iv x31.2.1,Sp5 x31.2.2.1,.osl 3,.osl 4,.osl 5,.nl,.osl 7,.iv x31.2.2.2]⟩],[Z5k x7,Sq4 x8,none,Z6k x10,Sq4 x11,Z6k x12,none,Z8k x32])) (Zs71 x2 x3 x4 x7 x8 x10 x11 x12 x31 x32) r ?_ fun J4=>?_
      ·intro x33 h;rw [Zs71] at h;refine MI h (fun h=>?_) fun h=>?_
       ·refine Vg 2 ?_;refine VR [0] [0,1,3,4,5,7] 1 8 h Ze71 fun _ _ h=>?_;refine Vg 1 ?_;refine Zij 7 6 ?_;exact W
       ·refine Vg 1 ?_;refine Zij 7 6 (Ds ?_);refine Zlj 112 8 (Ds ?_);refine Zij 0 8 (Ds ?_);refine Zlj 3 1 (Ds ?_);refine Zij 1 9 ?_;exact W
      ·exact W
     ·refine Vg 1 ?_;refine Zkj 0 11 77 5 (Ds ?_);refine Zlj 112 8 (Ds ?_);refine Zlj 112 8 (Ds ?_);refine Zij 0 8 (Ds ?_);refine Zlj 3 1 (Ds ?_);refine Zij 1 9 ?_;exact W
    ·refine Vg 5 ?_;refine MI h (fun h=>?_) fun h=>?_
     ·refine Vg 1 ?_;refine Zjj 2 (Ds ?_);refine Vl [0,1] (fun s=>([(8,.ptr 2 0),(9,.iv s.1),(10,.iv s.2.1)],[some ⟨138,[.iv x2,.iv x3,.osl 0,.iv x4,.osl 1,.iv x5,Sp5 x9,.osl 3,.osl 4,.osl 5,.nl,.nl,.iv x6]⟩,none,some ⟨64,[.iv s.2.2.LA,Sp5 s.2.2.SE]⟩],[Z5k x7,Sq4 x8,none,Z6k x10,Sq4 x11,Z6k x12])) (Zu71 x2 x3 x4 x5 x6 x7 x8 x9 x10 x11 x12) r ?_ fun J5=>?_
      ·rintro ⟨x37,x38,x39⟩ h;rw [Zu71] at h;refine Vg 5 ?_;refine VR [0] [0,1,3,4,5] 3 6 h Zzx fun x40 _ h=>?_;refine Vg 1 ?_;refine Vl [0,1,8,1] (fun x41=>([(155,.bv x41)],[some ⟨138,[.iv x2,.iv x3,.osl 0,.iv x4,.osl 1,.iv x40.2.1,Sp5 x40.2.2.1,.osl 3,.osl 4,.osl 5,.nl,.nl,.iv x40.2.2.2]⟩],[Z5k x7,Sq4 x8,none,Z6k x10,Sq4 x11,Z6k x12])) (Zt71 x2 x3 x4 x7 x8 x10 x11 x12 x37 x40) r ?_ fun J6=>?_
       ·intro x41 h;rw [Zt71] at h;refine MI h (fun h=>?_) fun h=>?_
        ·refine Vg 4 ?_;refine VR [0] [0,1,3,4,5] 1 6 h Zdt fun _ _ h=>?_;refine Vg 3 ?_;refine VR [0] [0,1,3,4,5,7] 1 8 h Ze71 fun _ _ h=>?_;refine Vg 1 ?_;refine Zij 7 6 ?_;exact W
        ·refine Vg 1 ?_;refine Zkj 0 11 77 5 (Ds ?_);refine Zlj 112 8 (Ds ?_);refine Zlj 112 8 (Ds ?_);refine Zij 0 8 (Ds ?_);refine Zlj 3 1 (Ds ?_);refine Zij 1 9 ?_;exact W
       ·exact W
      ·have ⟨x35,ex35,h⟩:=Bs h;have q0:=Zf21 ex35;refine Zgj fun all H=>Gs ?_;exact W
     ·refine Vg 1 ?_;refine Zjj 2 (Ds ?_);refine Zkj 0 11 77 5 (Ds ?_);refine Zlj 112 8 (Ds ?_);refine Zlj 112 8 (Ds ?_);refine Zij 0 8 (Ds ?_);refine Zlj 3 1 (Ds ?_);refine Zij 1 9 ?_;exact W
def Zx71 (x18:(BK×List Int×Int)) (x23:Int) (x24 x25:Int) (x26:List SX) (x27:List Int):List EV→Option (Int×Int×Int×Int×List SE×List EV×List SX×List Int)
| x53=>some (x23,x24,x25,x18.1.LA,x18.1.SE,x53,x26,x27)
def Zy71 (x6:Int) (x10:List KE) (x11:List Int) (x12:List KE) (x18:(BK×List Int×Int)) (x23:Int) (x24 x25:Int) (x26:List SX) (x27:List Int):(Int×List EV)→Option ((Int×List EV) ⊕ (Int×Int×Int×Int×List SE×List EV×List SX×List Int))
| (x32,x33)=>
 ifb (decide (x32<(ln Z4d x18.2.1))) (
 (at_ x18.2.1 x32).bind fun x34=>
 (Zxt 5 x34 x23 x24 x25 x18.1.LA x18.1.SE x6 x26 x27 x10 x11 x12 x33).bind fun x35=>
 some (.inl (wr (x32+1),x35))) (
 Option.map Sum.inr ((Zx71 x18 x23 x24 x25 x26 x27) x33))
def Zz71 (x6:Int) (x10:List KE) (x11:List Int) (x12:List KE) (x17:List EV) (x18:(BK×List Int×Int)):(Int×Int×Int×List SX×List Int)→Option (Int×Int×Int×Int×List SE×List EV×List SX×List Int)
| (x23,x24,x25,x26,x27)=>loop (Zy71 x6 x10 x11 x12 x18 x23 x24 x25 x26 x27) (0,x17)
def Z081 (x2 x3:Int) (x4 x5 x6:Int) (x8:List Int) (x9:List SE) (x10:List KE) (x11:List Int) (x12:List KE) (x16:List SX) (x17:List EV) (x18:(BK×List Int×Int)):Bool→Option (Int×Int×Int×Int×List SE×List EV×List SX×List Int)
| x21=>
 ifb x21 (
 (Zd71 x2 x3 x4 x5 x9 x6 x16 x8 x10 x11 x12 x17).bind fun x22=>
 (Zz71 x6 x10 x11 x12 x17 x18) (x22.1,x22.2.1,x22.2.2.1,x22.2.2.2.1,x22.2.2.2.2)) (
 (Zz71 x6 x10 x11 x12 x17 x18) (x2,x3,x4,x16,x8))
def Z181 (x1 x2:Int) (x3 x4:Int) (x5 x6:Int) (x8:List Int) (x9:List SE) (x10:List KE) (x11:List Int) (x12:List KE):List SX→Option (Int×Int×Int×Int×List SE×List EV×List SX×List Int)
| x16=>
 (Ztt 7 x1 x2 x3 x4 x5 x6 x16 x8 x9 x10 x11 x12).bind fun x17=>
 (Zl61 (BK.mk x5 x9) x1).bind fun x18=>
 (Zvt x2 x3 x4 x5 x9 x16 x8 x10 x11 x12).bind fun x19=>
 ifb x19.2 (
 ifb (decide (x4=1)) (
 (Zfs x18.2.1 x19.1.ID).bind fun x20=>
 (Z081 x2 x3 x4 x5 x6 x8 x9 x10 x11 x12 x16 x17 x18) x20) (
 (Z081 x2 x3 x4 x5 x6 x8 x9 x10 x11 x12 x16 x17 x18) false)) (
 (Z081 x2 x3 x4 x5 x6 x8 x9 x10 x11 x12 x16 x17 x18) false)
def Z281 (x1 x2:Int) (x3 x4:Int) (x5 x6:Int) (x7:List SX) (x8:List Int) (x9:List SE) (x10:List KE) (x11:List Int) (x12:List KE):Option (Int×Int×Int×Int×List SE×List EV×List SX×List Int):=
 (Zqt (node_node.mk (NO.mk (DK.mk (DI.mk x2 x3 x7) x4 x8) (BK.mk x5 x9) x10 x11 x12) (([]:List ML)) (([]:List EV)) x6) x1).bind fun x13=>
 (at_ x7 x13).bind fun x15=>
 (Z181 x1 x2 x3 x4 x5 x6 x8 x9 x10 x11 x12) (x7.set (Int.toNat (x13)) (SX.mk x15.PE x15.EP 2 x15.FK x15.DY x15.TO x15.BO x15.Ask))
theorem Z381 {x1 x2 x3 x4 x5 x6 x7 x8 x9 x10 x11 x12 r} (h:Z281 x1 x2 x3 x4 x5 x6 x7 x8 x9 x10 x11 x12=some r):FTx 72 [.ptr 0 0,.iv x1] [some ⟨138,[.iv x2,.iv x3,.osl 0,.iv x4,.osl 1,.iv x5,.osl 2,.osl 3,.osl 4,.osl 5,.nl,.nl,.iv x6]⟩] [Z5k x7,Sq4 x8,Z3k x9,Z6k x10,Sq4 x11,Z6k x12] (.tup []) [some ⟨138,[.iv r.1,.iv r.2.1,.osl 8,.iv r.2.2.1,.osl 9,.iv r.2.2.2.1,Sp5 r.2.2.2.2.1,.osl 3,.osl 4,.osl 5,.nl,.osl 7,.iv x6]⟩] [none,none,none,Z6k x10,Sq4 x11,Z6k x12,none,Z8k r.2.2.2.2.2.1,Z5k r.2.2.2.2.2.2.1,Sq4 r.2.2.2.2.2.2.2]:=by
 refine Ft ok72 fun w0 M0=>?_;have ok:=ok72;rw [Z281] at h;refine Vg 1 ?_;refine Vm [0,2] (fun x16=>([],[],[],[(0,Z5k x16)])) (Z181 x1 x2 x3 x4 x5 x6 x8 x9 x10 x11 x12) r ?_ fun J1=>?_
 ·intro x16 h;rw [Z181] at h;refine Vg 4 ?_;have ⟨x17,ex17,h⟩:=Bs h;refine Z9f [true] [true,true,true,true,true,true] trivial (Zut ex17) (h:=?_);refine Vg 9 ?_;refine Zjj 2 (Ds ?_);refine VB h Zm61 fun x18 _ h=>?_;refine Vg 16 ?_;refine VR [] [0,1,3,4,5] 2 8 h Zwt fun _ _ h=>?_;refine Vg 11 ?_;refine Vl [0,1,3,2] (fun x21=>([(60,.bv x21)],[some ⟨138,[.iv x2,.iv x3,.osl 0,.iv x4,.osl 1,.iv x5,Sp5 x9,.osl 3,.osl 4,.osl 5,.nl,.osl 7,.iv x6]⟩,some ⟨64,BK.row x18.1⟩],[Z5k x16,Sq4 x8,none,Z6k x10,Sq4 x11,Z6k x12,none,Z8k x17])) (Z081 x2 x3 x4 x5 x6 x8 x9 x10 x11 x12 x16 x17 x18) r ?_ fun J2=>?_
  ·intro x21 h;rw [Z081] at h;refine Vl [0,1,3,2] (fun s=>([],[some ⟨138,[.iv s.1,.iv s.2.1,.osl 8,.iv s.2.2.1,.osl 9,.iv x5,Sp5 x9,.osl 3,.osl 4,.osl 5,.nl,.osl 7,.iv x6]⟩,some ⟨64,BK.row x18.1⟩],[none,none,none,Z6k x10,Sq4 x11,Z6k x12,none,Z8k x17,Z5k s.2.2.2.1,Sq4 s.2.2.2.2])) (Zz71 x6 x10 x11 x12 x17 x18) r ?_ fun J3=>?_
   ·rintro ⟨x23,x24,x25,x26,x27⟩ h;rw [Zz71] at h;refine Vg 15 ?_;refine Vl [] (fun x53=>([],[some ⟨138,[.iv x23,.iv x24,.osl 8,.iv x25,.osl 9,.iv x18.1.LA,Sp5 x18.1.SE,.osl 3,.osl 4,.osl 5,.nl,.osl 7,.iv x6]⟩],[none,none,none,Z6k x10,Sq4 x11,Z6k x12,none,Z8k x53,Z5k x26,Sq4 x27])) (Zx71 x18 x23 x24 x25 x26 x27) r ?_ fun J4=>?_
    ·intro x53 h;rw [Zx71] at h;exact W
    ·refine Vg 1 ?_;refine Ml h [0,1,67,2] (fun s=>([(70,.iv s.1)],[some ⟨138,[.iv x23,.iv x24,.osl 8,.iv x25,.osl 9,.iv x18.1.LA,Sp5 x18.1.SE,.osl 3,.osl 4,.osl 5,.nl,.osl 7,.iv x6]⟩],[none,none,none,Z6k x10,Sq4 x11,Z6k x12,none,Z8k s.2,Z5k x26,Sq4 x27])) ?_;rintro n1 ⟨x32,x33⟩ y1 h hin1 hout1;rw [Zy71] at h;refine Vg 5 ?_;refine MI h (fun h=>?_) fun h=>?_
     ·refine Vg 5 ?_;have ⟨x34,ex34,h⟩:=Bs h;refine Zjc Z4d ex34 trivial rfl rfl rfl (Vg 6 ?_);refine VR [0] [8,9,3,4,5,7] 1 10 h Zyt fun _ _ h=>?_;refine Vg 6 ?_;refine Zij 11 7 ?_;exact W
     ·exact W
   ·refine MI h (fun h=>?_) fun h=>?_
    ·refine Vg 2 ?_;refine VR [0] [0,1,3,4,5,7] 2 8 h Ze71 fun _ _ h=>?_;exact W
    ·refine Vg 1 ?_;refine Zlj 112 8 (Ds ?_);refine Zij 0 8 (Ds ?_);refine Zlj 3 1 (Ds ?_);refine Zij 1 9 ?_;exact W
  ·refine MC 46 h (fun h=>?_) fun h=>?_
   ·refine Vg 9 ?_;refine MC 55 h (fun h=>?_) fun h=>?_
    ·refine Vg 3 ?_;refine VB h Zgs fun _ _ h=>?_;exact W
    ·exact W
   ·exact W
 ·refine Zgj fun all H=>Ds (GP H 8 5 [6,1,2,4] [(11,[.ptr 0 0,.ptr 0 0,.ptr 0 0,.ptr 0 0,.ptr 0 0,.ptr 0 2]),(1,[.ptr 0 0,.iv x1])] (Ds ?_));have ⟨x13,ex13,h⟩:=Bs h;refine Zoa 6 9 rfl ?_ ?_
  ·refine RV ?_;refine Zna 9 rfl (GK H.1 (((((((LR.slice 0 rfl).slice 1 rfl).slice 2 rfl).slice 3 rfl).slice 4 rfl).slice 5 rfl).block 0 rfl rfl) (Zrt ex13) (Ds ?_));have ⟨x15,ex15,h⟩:=Bs h;refine RO ?_;refine RI ?_;refine Gn H 1 1 ?_;refine RSo [.iv 2] (SX.mk x15.PE x15.EP 2 x15.FK x15.DY x15.TO x15.BO x15.Ask) ?_;refine GD ?_;exact W
  ·refine GK H.1 (((((((LR.slice 0 rfl).slice 1 rfl).slice 2 rfl).slice 3 rfl).slice 4 rfl).slice 5 rfl).block 0 rfl rfl) (Zrt ex13) (Ds ?_);refine R1 ?_;have ⟨x15,ex15,h⟩:=Bs h;refine RO ?_;refine RI ?_;refine Gn H 1 1 ?_;refine RSo [.iv 2] (SX.mk x15.PE x15.EP 2 x15.FK x15.DY x15.TO x15.BO x15.Ask) ?_;refine GD ?_;exact W
@[go_sem] def e135:EC:=eQ Tryz.f135
theorem Z481:FnOK Tryz.prog 135 Tryz.f135 e135 [] 1 148:=okA
end
end NX
end Go.Proofs.YtgamgemlekpepaaGreat
