/-
  The function slices.IndexFunc[[]narthex/api.Sess,narthex/api.Sess], lent own memory. Written by a program of ours (lb.py). No statement of the seat is proved here.
-/
import Derived.Test.YtgamgemlekpepaaGreatK38
set_option maxRecDepth 100000
set_option maxHeartbeats 40000000
namespace Go.Proofs.YtgamgemlekpepaaGreat
namespace NX
open Go
noncomputable section
def Zf41:List Int→Option (Int×List Int)
| x18=>some ((-1),x18)
def Zg41 (x1:Int) (x2:List SE):(Int×List Int)→Option ((Int×List Int) ⊕ (Int×List Int))
| (x7,x8)=>
 ifb (decide (x7<(ln SE.row x2))) (
 (at_ x2 x7).bind fun x9=>
 (Zn21 x9 x1 x8).bind fun x10=>
 ifb x10.1 (
 Option.map Sum.inr (some (x7,x10.2))) (
 some (.inl (wr (x7+1),x10.2)))) (
 Option.map Sum.inr (Zf41 x8))
def Zh41 (x1:Int) (x2:List SE):Option (Int×List Int):=loop (Zg41 x1 x2) (0,([]:List Int))
theorem Zi41 {x1 x2 r} (h:Zh41 x1 x2=some r):FTx 164 [.osl 0,.clo 177 [.ptr 0 0,.ptr 1 0]] [some ⟨3,[.iv x1]⟩,some ⟨40,[.nl]⟩] [Z3k x2] (.iv r.1) [some ⟨3,[.iv x1]⟩,some ⟨40,[.osl 1]⟩] [Z3k x2,Sq4 r.2]:=by
 refine Ft Zrk fun w0 M0=>?_;have ok:=Zrk;rw [Zh41] at h;refine Vg 11 ?_;refine Vl [] (fun x18=>([],[some ⟨3,[.iv x1]⟩,some ⟨40,[.osl 1]⟩],[Z3k x2,Sq4 x18])) Zf41 r ?_ fun J1=>?_
 ·intro x18 h;rw [Zf41] at h;exact W
 ·refine Vg 1 ?_;refine Zkj 1 0 3 1 (Ds ?_);refine Mm h [0,2,5,1] (fun s=>([(8,.iv s.1)],[],[],[(1,Sq4 s.2)])) ?_;rintro n1 ⟨x7,x8⟩ y1 h hin1 hout1;rw [Zg41] at h;refine Vg 5 ?_;refine MI h (fun h=>?_) fun h=>?_
  ·refine Vg 13 ?_;have ⟨x9,ex9,h⟩:=Bs h;refine Zee SE.row ex9 trivial rfl rfl rfl (Zne SE.row ex9 trivial rfl rfl rfl ?_);have ⟨x10,ex10,h⟩:=Bs h;refine Zbf [true,true] [false,true] trivial rfl (Zbj [0,1] [1] 2 2 (Zo21 ex10)) (by kernel_rfl) (h:=?_);refine Vg 1 ?_;refine MI h (fun h=>?_) fun h=>?_
   ·refine Vg 5 ?_;refine Zij 3 1 ?_;exact W
   ·refine Vg 6 ?_;refine Zij 3 1 ?_;exact W
  ·exact W
@[go_sem] def e183:EC:=eQ Tryz.f183
theorem Zj41:FnOK Tryz.prog 183 Tryz.f183 e183 [] 1 44:=okA
def Zk41 (x2:Int) (x16:(Int×Bool)):List KE→Option (List KE)
| x18=>
 (at_ x18 x16.1).bind fun x19=>
 some (x18.set (Int.toNat (x16.1)) (KE.mk x19.PE x2))
def Zl41 (x1 x2:Int) (_x3 _x4:Int) (_x5 _x6:Int) (_x7:List SE) (_x8:List Int) (_x9:Int) (_x10:List SX) (_x11:List Int) (x12 _x13:List KE) (_x14:List ML) (_x15:List EV):Option (List KE):=
 (Zon x12 x1 ((fun z=>Zqn z.1 z.2))).bind fun x16=>
 ifb (!x16.2) (
 (Zj21 x12 x16.1 ([KE.mk x1 0])).bind fun x17=>
 (Zk41 x2 x16) x17) (
 (Zk41 x2 x16) x12)
theorem Zm41 {x1 x2 x3 x4 x5 x6 x7 x8 x9 x10 x11 x12 x13 x14 x15 r} (h:Zl41 x1 x2 x3 x4 x5 x6 x7 x8 x9 x10 x11 x12 x13 x14 x15=some r):FTx 132 [.ptr 0 0,.iv x1,.iv x2] [some ⟨138,[.iv x3,.iv x4,.osl 0,.iv x5,.osl 1,.iv x6,Sp5 x7,.osl 2,Sp1 x8,.osl 3,.osl 4,.osl 5,.iv x9]⟩] [Z5k x10,Sq4 x11,Z6k x12,Z6k x13,Sq6 x14,Z8k x15] (.tup []) [some ⟨138,[.iv x3,.iv x4,.osl 0,.iv x5,.osl 1,.iv x6,Sp5 x7,.osl 7,Sp1 x8,.osl 3,.osl 4,.osl 5,.iv x9]⟩] [Z5k x10,Sq4 x11,none,Z6k x13,Sq6 x14,Z8k x15,none,Z6k r]:=by
 refine Ft Zg21 fun w0 M0=>?_;have ok:=Zg21;rw [Zl41] at h;refine Vg 8 ?_;refine VN (LR.slice 2 rfl) h (fun e=>Zpn e ⟨by kernel_rfl,rfl,fun z r hz=>Zrn hz⟩) fun x16 _ h=>?_;refine Vg 12 ?_;refine Vl [0,1,1,1,3,1] (fun x18=>([],[some ⟨138,[.iv x3,.iv x4,.osl 0,.iv x5,.osl 1,.iv x6,Sp5 x7,.osl 7,Sp1 x8,.osl 3,.osl 4,.osl 5,.iv x9]⟩],[Z5k x10,Sq4 x11,none,Z6k x13,Sq6 x14,Z8k x15,none,Z6k x18])) (Zk41 x2 x16) r ?_ fun J1=>?_
 ·intro x18 h;rw [Zk41] at h;refine Vg 8 ?_;have ⟨x19,ex19,h⟩:=Bs h;refine Zee KE.row ex19 trivial rfl rfl rfl (Vg 1 ?_);refine Zve [.iv x2] KE.row (y':=(KE.mk x19.PE x2)) ex19 trivial rfl rfl rfl (by first | exact Zrb _ | simp [go_sem]) rfl rfl rfl rfl ?_;exact W
 ·refine MI h (fun h=>?_) fun h=>?_
  ·refine Vg 11 ?_;refine VR [] [2,6] 1 7 h Zk21 fun _ _ h=>?_;exact W
  ·refine Vg 1 ?_;refine Zlj 121 2 (Ds ?_);refine Zlj 121 2 (Ds ?_);refine Zij 2 7 ?_;exact W
def Zn41:List DI→Option (List DI×Int)
| x68=>some (x68,0)
def Zo41 (x31:Int) (x32:List DI):List SX→Option ((Int×List DI) ⊕ (List DI×Int))
| x59=>
 (Z8c 40 x32 ([DI.mk x31 0 x59])).bind fun x60=>
 some (.inl (wr (x31+1),x60))
def Zp41 (x2:List Int) (x31:Int) (x32:List DI) (x33:List Int):(Int×List SX)→Option ((Int×List SX) ⊕ ((Int×List DI) ⊕ (List DI×Int)))
| (x40,x41)=>
 ifb (decide (x40<(ln Z4d x33))) (
 (at_ x33 x40).bind fun x42=>
 (at_ x2 x31).bind fun x43=>
 (at_ x2 x42).bind fun x44=>
 (Z8c 32 x41 ([SX.mk x42 1 0 (decide (x44<x43)) (decide (x44<x43)) (!(decide (x44<x43))) (decide (x44<x43)) (!(decide (x44<x43)))])).bind fun x45=>
 some (.inl (wr (x40+1),x45))) (
 Option.map Sum.inr ((Zo41 x31 x32) x41))
def Zq41 (x1:Graph) (x2:List Int):(Int×List DI)→Option ((Int×List DI) ⊕ (List DI×Int))
| (x31,x32)=>
 ifb (decide (x31<x1.N)) (
 (Zh31 x1 x31).bind fun x33=>
 loop (Zp41 x2 x31 x32 x33) (0,([]:List SX))) (
 Option.map Sum.inr (Zn41 x32))
def Zr41 (x1:Graph) (x2:List Int):Option (List DI×Int):=
 (Z711 x1).bind fun x3=>
 ifb (!decide (x3=0)) (
 some (([]:List DI),x3)) (
 (Zc31 x1 x2).bind fun x4=>
 ifb (!x4) (
 some (([]:List DI),120)) (
 loop (Zq41 x1 x2) (0,([]:List DI))))
theorem Zs41 {x1 x2 r} (h:Zr41 x1 x2=some r):FPx 88 [.agg (Graph.row x1),Sp1 x2] (.tup [Z9k r.1,.iv r.2]):=by
 have ok:=oJ 88 Tryz.f88 [.t 4,.t 5] 2 65;refine FP ok fun w0 H0=>?_;rw [Zr41] at h;refine Vg 10 ?_;refine VB h Z811 fun _ _ h=>?_;refine Vg 7 ?_;refine MI h (fun h=>?_) fun h=>?_
 ·exact W
 ·refine Vg 6 ?_;refine VB h Zd31 fun _ _ h=>?_;refine Vg 2 ?_;refine MI h (fun h=>?_) fun h=>?_
  ·exact W
  ·refine Vg 12 ?_;refine Vl [] (fun x68=>([(7,.osl 0)],[],[Zak x68])) Zn41 r ?_ fun J1=>?_
   ·intro x68 h;rw [Zn41] at h;refine Vg 6 ?_;refine Zjj 0 ?_;exact W
   ·refine Vg 1 ?_;refine Zcb 7 58 3 rfl rfl (Ds ?_);refine Mm h [1,2,4,1,15,1] (fun s=>([(24,.iv s.1)],[],[],[(0,Zak s.2)])) ?_;rintro n1 ⟨x31,x32⟩ y1 h hin1 hout1;rw [Zq41] at h;refine Vg 5 ?_;refine MI h (fun h=>?_) fun h=>?_
    ·refine Vg 20 ?_;refine VB h Zj31 fun _ _ h=>?_;refine Vg 3 ?_;refine Vl [1,2,4,1,1,1,13,2] (fun x59=>([],[some ⟨24,Graph.row x1⟩,some ⟨58,[.iv x31,.iv 0,.osl 1]⟩],[Zak x32,Z5k x59])) (Zo41 x31 x32) y1 ?_ fun J2=>?_
     ·intro x59 h;rw [Zo41] at h;refine Vg 3 ?_;refine Zjj 1 ?_;refine Vg 1 ?_;have ⟨x60,ex60,h⟩:=Bs h;refine Zmc DI.row ex60 trivial rfl rfl rfl (Vg 7 ?_);refine Zij 3 0 ?_;exact W
     ·refine Vg 1 ?_;refine Zkj 1 2 112 8 (Ds ?_);refine Mm h [1,2,4,3,13,2,6,2] (fun s=>([(33,.iv s.1)],[],[],[(1,Z5k s.2)])) ?_;rintro n2 ⟨x40,x41⟩ y2 h hin2 hout2;rw [Zp41] at h;refine Vg 5 ?_;refine MI h (fun h=>?_) fun h=>?_
      ·refine Vg 5 ?_;have ⟨x42,ex42,h⟩:=Bs h;refine Zjc Z4d ex42 trivial rfl rfl rfl (Vg 4 ?_);have ⟨x43,ex43,h⟩:=Bs h;have ⟨x44,ex44,h⟩:=Bs h;refine Zgj fun all H=>Gs ?_;refine Vg 13 ?_;have ⟨x45,ex45,h⟩:=Bs h;refine Zmc SX.row ex45 trivial rfl rfl rfl (Vg 8 ?_);refine Zij 3 1 ?_;exact W
      ·exact W
    ·exact W
def Zt41:List Int→Option (List Int×Int)
| x54=>some (x54,0)
def Zu41 (x26:Int):List Int→Option ((Int×List Int) ⊕ (List Int×Int))
| x46=>some (.inl (wr (x26+1),x46))
def Zv41 (x2:List Int) (x26:Int) (x28:List Int):List Int→Option ((List Int) ⊕ ((Int×List Int) ⊕ (List Int×Int)))
| x35=>
 (Z1s x28 ((fun z=>Zkp z x2 x35 x26))).bind fun x36=>
 ifb x36 (
 (at_ x35 x26).bind fun x37=>
 some (.inl (x35.set (Int.toNat (x26)) (wr (x37+1))))) (
 Option.map Sum.inr ((Zu41 x26) x35))
def Zw41 (x2:List Int) (x26:Int) (x27 x28:List Int):Bool→Option ((Int×List Int) ⊕ (List Int×Int))
| x31=>
 ifb x31 (
 (Zu41 x26) x27) (
 (at_ x27 x26).bind fun _=>
 loop (Zv41 x2 x26 x28) (x27.set (Int.toNat (x26)) 1))
def Zx41 (x1:Graph) (x2:List Int):(Int×List Int)→Option ((Int×List Int) ⊕ (List Int×Int))
| (x26,x27)=>
 ifb (decide (x26<x1.N)) (
 (Zh31 x1 x26).bind fun x28=>
 (at_ x2 x26).bind fun x29=>
 ifb (!decide (x29=0)) (
 (Zw41 x2 x26 x27 x28) true) (
 (Z1s x28 ((fun z=>Zip z x2 x26))).bind fun x30=>
 (Zw41 x2 x26 x27 x28) x30)) (
 Option.map Sum.inr (Zt41 x27))
def Zy41 (x1:Graph) (x2:List Int):Bool→Option (List Int×Int)
| x5=>
 ifb x5 (
 some (([]:List Int),110)) (
 (Z9l x2).bind fun x6=>
 loop (Zx41 x1 x2) (0,x6))
def Zz41 (x1:Graph) (x2:List Int):Option (List Int×Int):=
 (Z711 x1).bind fun x3=>
 ifb (!decide (x3=0)) (
 some (([]:List Int),x3)) (
 ifb (!decide ((ln Z4d x2)=x1.N)) (
 (Zy41 x1 x2) true) (
 (Z1s x2 ((fun z=>Zfp z))).bind fun x4=>
 (Zy41 x1 x2) x4))
theorem Z051 {x1 x2 r} (h:Zz41 x1 x2=some r):FPx 146 [.agg (Graph.row x1),Sp1 x2] (.tup [Sp1 r.1,.iv r.2]):=by
 have ok:=oJ 146 Tryz.f146 [.t 4,.t 5] 2 56;refine FP ok fun w0 H0=>?_;rw [Zz41] at h;refine Vg 11 ?_;refine VB h Z811 fun _ _ h=>?_;refine Vg 7 ?_;refine MI h (fun h=>?_) fun h=>?_
 ·exact W
 ·refine Vg 10 ?_;refine Vk [2,2] (fun x5=>[(23,.bv x5)]) (Zy41 x1 x2) r ?_ fun J1=>?_
  ·intro x5 h;rw [Zy41] at h;refine MI h (fun h=>?_) fun h=>?_
   ·exact W
   ·refine Vg 4 ?_;have ⟨x6,ex6,h⟩:=Bs h;refine Zud trivial (Zal ex6) (h:=?_);refine Vg 10 ?_;refine Vm [7,1] (fun x54=>([],[],[(0,none),(1,none)],[(0,Sq4 x54)])) Zt41 r ?_ fun J2=>?_
    ·intro x54 h;rw [Zt41] at h;refine Vg 6 ?_;refine Zjj 0 ?_;exact W
    ·refine Vg 1 ?_;refine Mm h [2,2,3,1,19,1] (fun s=>([(28,.iv s.1)],[],[],[(0,Sq4 s.2)])) ?_;rintro n1 ⟨x26,x27⟩ y1 h hin1 hout1;rw [Zx41] at h;refine Vg 5 ?_;refine MI h (fun h=>?_) fun h=>?_
     ·refine Vg 2 ?_;refine Vm [2,2,3,1,19,2] (fun x46=>([],[],[],[(0,Sq4 x46)])) (Zu41 x26) y1 ?_ fun J3=>?_
      ·intro x46 h;rw [Zu41] at h;exact W
      ·refine Vg 11 ?_;refine VB h Zj31 fun x28 _ h=>?_;refine Vg 7 ?_;have ⟨x29,ex29,h⟩:=Bs h;refine Zjc Z4d ex29 trivial rfl rfl rfl (Vg 3 ?_);refine Vk [2,2,3,3,17,2] (fun x31=>[(43,.bv x31)]) (Zw41 x2 x26 x27 x28) y1 ?_ fun J4=>?_
       ·intro x31 h;rw [Zw41] at h;refine MI h (fun h=>?_) fun h=>?_
        ·exact W
        ·refine Vg 5 ?_;have ⟨x32,ex32,h⟩:=Bs h;refine Zee Z4d ex32 trivial rfl rfl rfl (Zve [.iv 1] Z4d (y':=1) ex32 trivial rfl rfl rfl (by first | exact Zrb _ | simp [go_sem]) rfl rfl rfl rfl (Vg 2 ?_));refine Mm h [2,2,3,3,17,2] (fun x35=>([],[],[],[(0,Sq4 x35)])) ?_;rintro n2 x35 y2 h hin2 hout2;rw [Zv41] at h;refine Vg 5 ?_;refine VN ((((LR.slice 0 rfl).block 1 rfl rfl).block 2 rfl rfl).block 3 rfl rfl) h (fun e=>Z2s e ⟨by kernel_rfl,rfl,fun z r hz=>Zlp hz⟩) fun _ _ h=>?_;refine Vg 1 ?_;refine MI h (fun h=>?_) fun h=>?_
         ·refine Vg 5 ?_;have ⟨x37,ex37,h⟩:=Bs h;refine Zee Z4d ex37 trivial rfl rfl rfl (Zle Z4d ex37 trivial rfl rfl rfl (Vg 1 ?_));refine Zee Z4d ex37 trivial rfl rfl rfl (Zve [.iv (wr (x37+1))] Z4d (y':=wr (x37+1)) ex37 trivial rfl rfl rfl (by first | exact Zrb _ | simp [go_sem]) rfl rfl rfl rfl ?_);exact W
         ·exact W
       ·refine MC 39 h (fun h=>?_) fun h=>?_
        ·exact W
        ·refine Vg 2 ?_;refine VN ((LR.block 1 rfl rfl).block 3 rfl rfl) h (fun e=>Z2s e ⟨by kernel_rfl,rfl,fun z r hz=>Zjp hz⟩) fun _ _ h=>?_;exact W
     ·exact W
  ·refine MC 20 h (fun h=>?_) fun h=>?_
   ·exact W
   ·refine Vg 1 ?_;refine VB h (fun e=>Z2s e ⟨by kernel_rfl,rfl,fun z r hz=>Zgp hz⟩) fun _ _ h=>?_;exact W
def Z151 (x1:Graph):Option SN:=
 (Zo31 x1).bind fun x2=>
 (Z3v x1 x2.1).bind fun x3=>
 some (SN.mk x3 (([]:List ML)))
theorem Z251 {x1 r} (h:Z151 x1=some r):FPx 53 [.agg (Graph.row x1)] (.agg (SN.row r)):=by have ok:=oJ 53 Tryz.f53 [.c 2 (some 2)] 1 13;refine FP ok fun w0 H0=>?_;rw [Z151] at h;refine Vg 8 ?_;refine VB h Zp31 fun _ _ h=>?_;refine Vg 10 ?_;refine VB h Z5v fun _ _ h=>?_;exact W
def Z351 (x1:BK) (x2:Int):Option (BK×Int):=
 (Z341 x1 x2 1).bind fun x3=>
 some (x3.1,x3.2)
theorem Z451 {x1 x2 r} (h:Z351 x1 x2=some r):FPx 124 [.agg (BK.row x1),.iv x2] (.tup [.agg (BK.row r.1),.iv r.2]):=by have ok:=oJ 124 Tryz.f124 [.c 4 (some 2),.t 5] 2 9;refine FP ok fun w0 H0=>?_;rw [Z351] at h;refine Vg 10 ?_;refine VB h Z441 fun _ _ h=>?_;exact W
def Z551 (x1:BK) (x2:Int):Option (BK×Int):=
 (Z341 x1 x2 0).bind fun x3=>
 some (x3.1,x3.2)
theorem Z651 {x1 x2 r} (h:Z551 x1 x2=some r):FPx 127 [.agg (BK.row x1),.iv x2] (.tup [.agg (BK.row r.1),.iv r.2]):=by have ok:=oJ 127 Tryz.f127 [.c 4 (some 2),.t 5] 2 9;refine FP ok fun w0 H0=>?_;rw [Z551] at h;refine Vg 10 ?_;refine VB h Z441 fun _ _ h=>?_;exact W
@[go_sem] def e211:EC:=eQ Tryz.f211
theorem Z751:FnOK Tryz.prog 211 Tryz.f211 e211 [] 1 84:=okA
def Z851 (x1:DI) (x50:List ML):(Int×List SX)→Option (Int×Int×Int×List SX×List ML)
| (x65,x66)=>some (x1.ID,x65,0,x66,x50)
def Z951 (x1:DI) (x49:List SX) (x50:List ML):(Int×List SX)→Option ((Int×List SX) ⊕ (Int×Int×Int×List SX×List ML))
| (x55,x56)=>
 ifb (decide (x55<(ln SX.row x49))) (
 (at_ x56 x55).bind fun x57=>
 some (.inl (wr (x55+1),x56.set (Int.toNat (x55)) (SX.mk x57.PE x57.EP x57.SS x57.FK true x57.TO x57.BO x57.Ask)))) (
 Option.map Sum.inr ((Z851 x1 x50) (2,x56)))
def Za51 (x1:DI) (x49:List SX) (x50:List ML):Bool→Option (Int×Int×Int×List SX×List ML)
| x51=>
 ifb x51 (
 loop (Z951 x1 x49 x50) (0,x49)) (
 (Z851 x1 x50) (x1.PH,x49))
def Zb51 (x1:DI):(Bool×List SX×List ML)→Option (Int×Int×Int×List SX×List ML)
| (x48,x49,x50)=>
 ifb (decide (x1.PH=1)) (
 (Za51 x1 x49 x50) x48) (
 (Za51 x1 x49 x50) false)
def Zc51 (x21:Int) (x33:List SX) (x34:List ML):Bool→Option ((Bool×Int×List SX×List ML) ⊕ (Int×Int×Int×List SX×List ML))
| x36=>some (.inl (x36,wr (x21+1),x33,x34))
def Zd51 (x20:Bool) (x21:Int):(List SX×List ML)→Option ((Bool×Int×List SX×List ML) ⊕ (Int×Int×Int×List SX×List ML))
| (x33,x34)=>
 ifb x20 (
 (at_ x33 x21).bind fun x35=>
 (Zc51 x21 x33 x34) x35.FK) (
 (Zc51 x21 x33 x34) false)
def Ze51 (x1:DI) (x20:Bool) (x21:Int) (x27:List SX) (x28:List ML):Bool→Option ((Bool×Int×List SX×List ML) ⊕ (Int×Int×Int×List SX×List ML))
| x30=>
 ifb x30 (
 (at_ x27 x21).bind fun x31=>
 (Zss 2 x1.ID x1.PH x21 x28 (x27.set (Int.toNat (x21)) (SX.mk x31.PE x31.EP x31.SS x31.FK x31.DY false x31.BO x31.Ask))).bind fun x32=>
 (Zd51 x20 x21) ((x27.set (Int.toNat (x21)) (SX.mk x31.PE x31.EP x31.SS x31.FK x31.DY false x31.BO x31.Ask)),x32)) (
 (Zd51 x20 x21) (x27,x28))
def Zf51 (x1:DI) (x20:Bool) (x21:Int):(List SX×List ML)→Option ((Bool×Int×List SX×List ML) ⊕ (Int×Int×Int×List SX×List ML))
| (x27,x28)=>
 ifb (decide (x1.PH=1)) (
 (at_ x27 x21).bind fun x29=>
 ifb x29.TO (
 (Ze51 x1 x20 x21 x27 x28) (!x29.FK)) (
 (Ze51 x1 x20 x21 x27 x28) false)) (
 (Ze51 x1 x20 x21 x27 x28) false)
def Zg51 (x1:DI) (x20:Bool) (x21:Int) (x22:List SX) (x23:List ML) (x24:SX):Bool→Option ((Bool×Int×List SX×List ML) ⊕ (Int×Int×Int×List SX×List ML))
| x25=>
 ifb x25 (
 (Zss 1 x1.ID x1.PH x21 x23 (x22.set (Int.toNat (x21)) (SX.mk x24.PE x24.EP x24.SS false false x24.TO x24.BO x24.Ask))).bind fun x26=>
 (Zf51 x1 x20 x21) ((x22.set (Int.toNat (x21)) (SX.mk x24.PE x24.EP x24.SS false false x24.TO x24.BO x24.Ask)),x26)) (
 (Zf51 x1 x20 x21) (x22,x23))
def Zh51 (x1:DI) (x3:List SX):(Bool×Int×List SX×List ML)→Option ((Bool×Int×List SX×List ML) ⊕ (Int×Int×Int×List SX×List ML))
| (x20,x21,x22,x23)=>
 ifb (decide (x21<(ln SX.row x3))) (
 (at_ x22 x21).bind fun x24=>
 ifb x24.FK (
 ifb x24.DY (
 ifb x24.TO (
 (Zg51 x1 x20 x21 x22 x23 x24) (!decide (x1.PH=2))) (
 (Zg51 x1 x20 x21 x22 x23 x24) false)) (
 (Zg51 x1 x20 x21 x22 x23 x24) false)) (
 (Zg51 x1 x20 x21 x22 x23 x24) false)) (
 Option.map Sum.inr ((Zb51 x1) (x20,x22,x23)))
def Zi51 (x1:DI):Option (Int×Int×Int×List SX×List ML):=
 (Zb21 x1).bind fun x2=>
 ifb (!decide (x2=0)) (
 some (0,0,x2,([]:List SX),([]:List ML))) (
 (Zkm x1.SD).bind fun x3=>
 loop (Zh51 x1 x3) (true,0,x3,([]:List ML)))
theorem Zj51 {x1 r} (h:Zi51 x1=some r):FTx 232 [.agg (DI.row x1)] [] [] (.tup [.agg [.iv r.1,.iv r.2.1,.osl 0],.osl 1,.iv r.2.2.1]) [] [Z5k r.2.2.2.1,Sq6 r.2.2.2.2]:=by
 refine Ft Z641 fun w0 M0=>?_;have ok:=Z641;rw [Zi51] at h;refine Vg 11 ?_;refine VB h Zc21 fun _ _ h=>?_;refine Vg 7 ?_;refine MI h (fun h=>?_) fun h=>?_
 ·refine Vg 8 ?_;refine Zkj 1 2 112 8 (Ds ?_);refine Zcb 3 53 5 rfl rfl ?_;exact W
 ·refine Vg 5 ?_;have ⟨x3,ex3,h⟩:=Bs h;refine Zud trivial (Zlm ex3) (h:=?_);refine Vg 19 ?_;refine Vl [1,2,3,1] (fun s=>([(7,.bv s.1)],[some ⟨58,[.iv x1.ID,.iv x1.PH,.osl 0]⟩,some ⟨58,[.iv 0,.iv 0,.nl]⟩,some ⟨27,[.osl 1]⟩],[Z5k s.2.1,Sq6 s.2.2])) (Zb51 x1) r ?_ fun J1=>?_
  ·rintro ⟨x48,x49,x50⟩ h;rw [Zb51] at h;refine Vg 7 ?_;refine Vk [1,2,3,1] (fun x51=>[(96,.bv x51)]) (Za51 x1 x49 x50) r ?_ fun J7=>?_
   ·intro x51 h;rw [Za51] at h;refine Vm [1,2,3,1] (fun s=>([],[(0,1,.iv s.1)],[],[(0,Z5k s.2)])) (Z851 x1 x50) r ?_ fun J8=>?_
    ·rintro ⟨x65,x66⟩ h;rw [Z851] at h;refine Vg 1 ?_;refine Zgj fun all H=>Gs ?_;exact W
    ·refine MI h (fun h=>?_) fun h=>?_
     ·refine Vg 13 ?_;refine Mm h [1,2,3,1,93,1] (fun s=>([(101,.iv s.1)],[],[],[(0,Z5k s.2)])) ?_;rintro n1 ⟨x55,x56⟩ y1 h hin1 hout1;rw [Z951] at h;refine Vg 5 ?_;refine MI h (fun h=>?_) fun h=>?_
      ·refine Vg 12 ?_;have ⟨x57,ex57,h⟩:=Bs h;refine Zee SX.row ex57 trivial rfl rfl rfl (Vg 1 ?_);refine Zve [.bv true] SX.row (y':=(SX.mk x57.PE x57.EP x57.SS x57.FK true x57.TO x57.BO x57.Ask)) ex57 trivial rfl rfl rfl (by first | exact Zrb _ | simp [go_sem]) rfl rfl rfl rfl ?_;exact W
      ·exact W
     ·exact W
   ·exact W
  ·refine Vg 1 ?_;refine Zkj 2 0 53 5 (Ds ?_);refine Mm h [1,2,3,1,17,1] (fun s=>([(7,.bv s.1),(25,.iv s.2.1)],[],[],[(0,Z5k s.2.2.1),(1,Sq6 s.2.2.2)])) ?_;rintro n1 ⟨x20,x21,x22,x23⟩ y1 h hin1 hout1;rw [Zh51] at h;refine Vg 5 ?_;refine MI h (fun h=>?_) fun h=>?_
   ·refine Vg 13 ?_;have ⟨x24,ex24,h⟩:=Bs h;refine Zee SX.row ex24 trivial rfl rfl rfl (Vg 14 ?_);refine Zle SX.row ex24 trivial rfl rfl rfl (Vg 1 ?_);refine Vk [1,2,3,2,1,2,13,2] (fun x25=>[(53,.bv x25)]) (Zg51 x1 x20 x21 x22 x23 x24) y1 ?_ fun J2=>?_
    ·intro x25 h;rw [Zg51] at h;refine Vm [1,2,3,2,1,2,13,2] (fun s=>([],[],[],[(0,Z5k s.1),(1,Sq6 s.2)])) (Zf51 x1 x20 x21) y1 ?_ fun J3=>?_
     ·rintro ⟨x27,x28⟩ h;rw [Zf51] at h;refine Vg 7 ?_;refine Vk [1,2,3,2,1,2,13,2] (fun x30=>[(77,.bv x30)]) (Ze51 x1 x20 x21 x27 x28) y1 ?_ fun J4=>?_
      ·intro x30 h;rw [Ze51] at h;refine Vm [1,2,3,2,1,1,14,2] (fun s=>([],[],[],[(0,Z5k s.1),(1,Sq6 s.2)])) (Zd51 x20 x21) y1 ?_ fun J5=>?_
       ·rintro ⟨x33,x34⟩ h;rw [Zd51] at h;refine Vg 3 ?_;refine Vl [1,2,3,1,17,2] (fun x36=>([(7,.bv x36)],[some ⟨58,[.iv x1.ID,.iv x1.PH,.osl 0]⟩,some ⟨58,[.iv 0,.iv 0,.nl]⟩,some ⟨27,[.osl 1]⟩],[Z5k x33,Sq6 x34])) (Zc51 x21 x33 x34) y1 ?_ fun J6=>?_
        ·intro x36 h;rw [Zc51] at h;exact W
        ·refine MC 84 h (fun h=>?_) fun h=>?_
         ·refine Vg 3 ?_;have ⟨x35,ex35,h⟩:=Bs h;refine Zle SX.row ex35 trivial rfl rfl rfl ?_;exact W
         ·exact W
       ·refine MI h (fun h=>?_) fun h=>?_
        ·refine Vg 5 ?_;have ⟨x31,ex31,h⟩:=Bs h;refine Zve [.bv false] SX.row (y':=(SX.mk x31.PE x31.EP x31.SS x31.FK x31.DY false x31.BO x31.Ask)) ex31 trivial rfl rfl rfl (by first | exact Zrb _ | simp [go_sem]) rfl rfl rfl rfl (Vg 3 ?_);have ⟨x32,ex32,h⟩:=Bs h;refine Zbf [true,false,true,true] [true,true] trivial rfl (Zbj [2,0,3] [1,0] 4 2 (Zts ex32)) (by kernel_rfl) (h:=?_);refine Vg 1 ?_;refine Zij 3 1 ?_;exact W
        ·exact W
      ·refine MC 65 h (fun h=>?_) fun h=>?_
       ·refine Vg 3 ?_;have ⟨x29,ex29,h⟩:=Bs h;refine Zle SX.row ex29 trivial rfl rfl rfl (Vg 2 ?_);refine MC 71 h (fun h=>?_) fun h=>?_
        ·refine Vg 3 ?_;refine Zle SX.row ex29 trivial rfl rfl rfl ?_;exact W
        ·exact W
       ·exact W
     ·refine MI h (fun h=>?_) fun h=>?_
      ·refine Vg 1 ?_;refine Zgj fun all H=>Ds ?_;refine Zoa 0 1 rfl ?_ ?_
       ·refine RV ?_;refine Gn H 2 5 ?_;refine Zoa 1 4 rfl ?_ ?_
        ·refine RV ?_;refine RSo [.bv false] (SX.mk x24.PE x24.EP x24.SS false x24.DY x24.TO x24.BO x24.Ask) ?_;refine Gn H 2 1 ?_;refine RSs [.bv false] (SX.mk x24.PE x24.EP x24.SS false false x24.TO x24.BO x24.Ask) ?_;refine GD (Vg 2 ?_);have ⟨x26,ex26,h⟩:=Bs h;refine Zbf [true,false,true,true] [true,true] trivial rfl (Zbj [2,0,3] [1,0] 4 2 (Zts ex26)) (by kernel_rfl) (h:=?_);refine Vg 1 ?_;refine Zij 3 1 ?_;exact W
        ·refine Zvf H.1 [.bv false] SX.row (y':=(SX.mk x24.PE x24.EP x24.SS false x24.DY x24.TO x24.BO x24.Ask)) ex24 rfl trivial rfl rfl rfl (by first | exact Zrb _ | simp [go_sem]) rfl rfl rfl rfl (Ds ?_);refine R1 ?_;refine Gn H 2 1 ?_;refine RSs [.bv false] (SX.mk x24.PE x24.EP x24.SS false false x24.TO x24.BO x24.Ask) ?_;refine GD (Vg 2 ?_);have ⟨x26,ex26,h⟩:=Bs h;refine Zbf [true,false,true,true] [true,true] trivial rfl (Zbj [2,0,3] [1,0] 4 2 (Zts ex26)) (by kernel_rfl) (h:=?_);refine Vg 1 ?_;refine Zij 3 1 ?_;exact W
       ·refine RV ?_;refine R1 ?_;refine Gn H 2 4 ?_;refine RSo [.bv false] (SX.mk x24.PE x24.EP x24.SS false x24.DY x24.TO x24.BO x24.Ask) ?_;refine Gn H 2 1 ?_;refine RSs [.bv false] (SX.mk x24.PE x24.EP x24.SS false false x24.TO x24.BO x24.Ask) ?_;refine GD (Vg 2 ?_);have ⟨x26,ex26,h⟩:=Bs h;refine Zbf [true,false,true,true] [true,true] trivial rfl (Zbj [2,0,3] [1,0] 4 2 (Zts ex26)) (by kernel_rfl) (h:=?_);refine Vg 1 ?_;refine Zij 3 1 ?_;exact W
      ·exact W
    ·refine MC 37 h (fun h=>?_) fun h=>?_
     ·refine Vg 3 ?_;refine Zle SX.row ex24 trivial rfl rfl rfl (Vg 2 ?_);refine MC 43 h (fun h=>?_) fun h=>?_
      ·refine Vg 3 ?_;refine Zle SX.row ex24 trivial rfl rfl rfl ?_;exact W
      ·exact W
     ·exact W
   ·exact W
@[go_sem] def e169:EC:=eQ Tryz.f169
theorem Zk51:FnOK Tryz.prog 169 Tryz.f169 e169 [.c 2 (some 5),.t 3] 1 19:=okA
end
end NX
end Go.Proofs.YtgamgemlekpepaaGreat
