/-
  The function narthex/narthexref18.Same: its code compiled, a model, and that the code answers as the model. Written by a program of ours (lb.py). No statement of the seat is proved here.
-/
import Derived.Test.YtgamgemlekpepaaGreatK29
import Derived.Test.YtgamgemlekpepaaGreatK30
import Derived.Test.YtgamgemlekpepaaGreatK31
import Derived.Test.YtgamgemlekpepaaGreatK32
set_option maxRecDepth 100000
set_option maxHeartbeats 40000000
namespace Go.Proofs.YtgamgemlekpepaaGreat
namespace NX
open Go
noncomputable section
def Z6z:Bool→Option Bool
| x8=>some x8
def Z7z (x1 x2:NO):Option Bool:=
 (Zcv x1.DK x2.DK).bind fun x3=>
 ifb x3 (
 (Zjv x1.BK x2.BK).bind fun x4=>
 ifb x4 (
 (Z9q x1.KN x2.KN).bind fun x5=>
 ifb x5 (
 (Z6l x1.TL x2.TL).bind fun x6=>
 ifb x6 (
 (Z9q x1.AK x2.AK).bind fun x7=>
 Z6z x7) (
 Z6z false)) (
 Z6z false)) (
 Z6z false)) (
 Z6z false)
theorem Z8z {x1 x2 r} (h:Z7z x1 x2=some r):FPx 15 [.agg (NO.row x1),.agg (NO.row x2)] (.bv r):=by
 have ok:=oJ 15 Tryz.f15 [.t 4] 2 36;refine FP ok fun w0 H0=>?_;rw [Z7z] at h;refine Vg 12 ?_;refine VB h Zdv fun _ _ h=>?_;refine Vg 1 ?_;refine Vl [] (fun x8=>([(4,.bv x8)],[],[])) Z6z r ?_ fun J1=>?_
 ·intro x8 h;rw [Z6z] at h;exact W
 ·refine MC 10 h (fun h=>?_) fun h=>?_
  ·refine Vg 4 ?_;refine VB h Zkv fun _ _ h=>?_;refine Vg 2 ?_;refine MC 17 h (fun h=>?_) fun h=>?_
   ·refine Vg 4 ?_;refine VB h Zaq fun _ _ h=>?_;refine Vg 2 ?_;refine MC 24 h (fun h=>?_) fun h=>?_
    ·refine Vg 4 ?_;refine VB h Z7l fun _ _ h=>?_;refine Vg 2 ?_;refine MC 31 h (fun h=>?_) fun h=>?_
     ·refine Vg 4 ?_;refine VB h Zaq fun _ _ h=>?_;exact W
     ·exact W
    ·exact W
   ·exact W
  ·exact W
def Z9z (x1:NO):Unit→Option Bool
| ()=>some (decide (x1.DK.DI.ID≤63))
def Zaz (x1:NO):Int→Option (Int ⊕ Bool)
| x49=>
 ifb (decide (x49<(ln KE.row x1.AK))) (
 (Z9c x1.AK 0 x49).bind fun x50=>
 (at_ x1.AK x49).bind fun x51=>
 (Z1w (NO.mk x1.DK x1.BK x1.KN x1.TL x50) x51).bind fun x52=>
 ifb (!x52) (
 Option.map Sum.inr (some false)) (
 some (.inl (wr (x49+1))))) (
 Option.map Sum.inr ((Z9z x1) ()))
def Zbz (x1:NO):Unit→Option Bool
| ()=>loop (Zaz x1) 0
def Zcz (x33:Int):Bool→Option (Int ⊕ Bool)
| x41=>
 ifb x41 (
 Option.map Sum.inr (some false)) (
 some (.inl (wr (x33+1))))
def Zdz (x1:NO) (x33:Int):(Bool×SX)→Option (Int ⊕ Bool)
| (x37,x38)=>
 ifb (!x37) (
 (Zcz x33) true) (
 ifb (!decide (x38.SS=1)) (
 (Zcz x33) true) (
 ifb (decide (0<x33)) (
 (at_ x1.TL (wr (x33-1))).bind fun x39=>
 (at_ x1.TL x33).bind fun x40=>
 (Zcz x33) (decide (x40≤x39))) (
 (Zcz x33) false)))
def Zez (x1:NO):Int→Option (Int ⊕ Bool)
| x33=>
 ifb (decide (x33<(ln Z4d x1.TL))) (
 (at_ x1.TL x33).bind fun x34=>
 (Z8m x1.DK.DI x34).bind fun x35=>
 (Zdz x1 x33) (x35.2,x35.1)) (
 Option.map Sum.inr ((Zbz x1) ()))
def Zfz (x1:NO):Unit→Option Bool
| ()=>loop (Zez x1) 0
def Zgz (x17:Int):Bool→Option (Int ⊕ Bool)
| x20=>
 ifb x20 (
 Option.map Sum.inr (some false)) (
 some (.inl (wr (x17+1))))
def Zhz (x1:NO):Int→Option (Int ⊕ Bool)
| x17=>
 ifb (decide (x17<(ln SX.row x1.DK.DI.SD))) (
 (at_ x1.DK.DI.SD x17).bind fun x18=>
 ifb (decide (63<x18.PE)) (
 (Zgz x17) true) (
 ifb (decide (x18.EP<1)) (
 (Zgz x17) true) (
 (Zvq x1.KN x18.PE).bind fun x19=>
 ifb (!decide (x19=x18.EP)) (
 (Zgz x17) true) (
 ifb (decide (x18.PE<x1.DK.DI.ID)) (
 ifb (decide (x18.SS=1)) (
 (Zgz x17) true) (
 (Zgz x17) (decide (x18.SS=3)))) (
 (Zgz x17) false))))) (
 Option.map Sum.inr ((Zfz x1) ()))
def Ziz (x1:NO):Unit→Option Bool
| ()=>loop (Zhz x1) 0
def Zjz (x6:Int):Bool→Option (Int ⊕ Bool)
| x9=>
 ifb x9 (
 Option.map Sum.inr (some false)) (
 some (.inl (wr (x6+1))))
def Zkz (x1:NO):Int→Option (Int ⊕ Bool)
| x6=>
 ifb (decide (x6<(ln KE.row x1.KN))) (
 (at_ x1.KN x6).bind fun x7=>
 ifb (decide (x7.PE<0)) (
 (Zjz x6) true) (
 ifb (decide (63<x7.PE)) (
 (Zjz x6) true) (
 ifb (decide (0<x6)) (
 (at_ x1.KN (wr (x6-1))).bind fun x8=>
 ifb (decide (x7.PE≤x8.PE)) (
 (Zjz x6) true) (
 ifb (decide (x7.EP<1)) (
 (Zjz x6) true) (
 (Zjz x6) (decide (65535<x7.EP))))) (
 ifb (decide (x7.EP<1)) (
 (Zjz x6) true) (
 (Zjz x6) (decide (65535<x7.EP))))))) (
 Option.map Sum.inr ((Ziz x1) ()))
def Zlz (x1:NO):Option Bool:=loop (Zkz x1) 0
theorem Zmz {x1 r} (h:Zlz x1=some r):FPx 93 [.agg (NO.row x1)] (.bv r):=by
 have ok:=oJ 93 Tryz.f93 [.t 2] 1 180;refine FP ok fun w0 H0=>?_;rw [Zlz] at h;refine Vg 10 ?_;refine Vk [1,1] (fun _=>[]) (Ziz x1) r ?_ fun J1=>?_
 ·rintro ⟨⟩ h;rw [Ziz] at h;refine Vg 5 ?_;refine Vk [1,1] (fun _=>[]) (Zfz x1) r ?_ fun J3=>?_
  ·rintro ⟨⟩ h;rw [Zfz] at h;refine Vg 5 ?_;refine Vk [1,1] (fun _=>[]) (Zbz x1) r ?_ fun J5=>?_
   ·rintro ⟨⟩ h;rw [Zbz] at h;refine Vg 5 ?_;refine Vk [1,1] (fun _=>[]) (Z9z x1) r ?_ fun J8=>?_
    ·rintro ⟨⟩ h;rw [Z9z] at h;exact W
    ·refine Vg 1 ?_;refine Mk h [1,1] (fun x49=>[(10,.iv x49)]) ?_;rintro n1 x49 y1 h hin1 hout1;rw [Zaz] at h;refine Vg 9 ?_;refine MI h (fun h=>?_) fun h=>?_
     ·refine Vg 14 ?_;have ⟨x50,ex50,h⟩:=Bs h;refine Zld KE.row ex50 trivial rfl rfl rfl rfl (Vg 4 ?_);have ⟨x51,ex51,h⟩:=Bs h;have ⟨x52,ex52,h⟩:=Bs h;have q0:=Z2w ex52;refine Zgj fun all H=>Gs ?_;exact W
     ·exact W
   ·refine Vg 1 ?_;refine Mk h [1,1] (fun x33=>[(7,.iv x33)]) ?_;rintro n1 x33 y1 h hin1 hout1;rw [Zez] at h;refine Vg 9 ?_;refine MI h (fun h=>?_) fun h=>?_
    ·refine Vg 4 ?_;refine Vl [1,1,5,1] (fun s=>([(8,.ptr 1 0),(9,.bv s.1)],[some ⟨67,NO.row x1⟩,some ⟨112,[.iv s.2.PE,.iv s.2.EP,.iv s.2.SS,.bv s.2.FK,.bv s.2.DY,.bv s.2.TO,.bv s.2.BO,.bv s.2.Ask]⟩],[])) (Zdz x1 x33) y1 ?_ fun J6=>?_
     ·rintro ⟨x37,x38⟩ h;rw [Zdz] at h;refine Vg 1 ?_;refine Vl [1,1,5,1] (fun x41=>([(154,.bv x41)],[some ⟨67,NO.row x1⟩],[])) (Zcz x33) y1 ?_ fun J7=>?_
      ·intro x41 h;rw [Zcz] at h;exact W
      ·refine Zgj fun all H=>Ds (GP H 3 22 [3,22] [(130,[.bv x37,.bv (!x37),.bv (!x37)])] (Ds ?_));refine Zdd 132 h rfl (fun _ h=>?_) fun _ h=>?_
       ·refine Ds (GP H 22 0 [25] [(133,[.un,.un,.un,.tt,.tt,.un,.un,.un,.un,.un,.un,.un,.un,.un,.un,.un,.un,.un,.un,.un,.un,.tt])] (Ds ?_));refine GD ?_;exact W
       ·refine Ds (GP H 5 17 [8,17] [(133,[.ptr 1 2,.iv x38.SS,.bv (!decide (x38.SS=1)),.bv (!decide (x38.SS=1)),.bv (!decide (x38.SS=1))])] (Ds ?_));refine Zdd 137 h rfl (fun _ h=>?_) fun _ h=>?_
        ·refine Ds (GP H 17 0 [25] [(138,[.un,.un,.un,.un,.un,.un,.un,.un,.un,.un,.un,.un,.un,.un,.un,.un,.tt])] (Ds ?_));refine GD ?_;exact W
        ·refine Ds (GP H 3 14 [11,14] [(138,[.iv x33,.bv (decide (0<x33)),.bv (decide (0<x33))])] (Ds ?_));refine Zdd 140 h rfl (fun _ h=>?_) fun _ h=>?_
         ·refine Ds (GP H 7 7 [15,2,3,5] [(141,[.ptr 0 8,Sp1 x1.TL,.iv x33,.iv (wr (x33-1))]),(2,[.ptr 0 8,Sp1 x1.TL,.iv x33])] (Ds ?_));have ⟨x39,ex39,h⟩:=Bs h;refine Zkc H.1 H.2.1 H.2.2.1 H.2.2.2 15 Z4d ex39 rfl rfl trivial rfl rfl rfl rfl (Gn H 1 5 ?_);have ⟨x40,ex40,h⟩:=Bs h;refine Zkc H.1 H.2.1 H.2.2.1 H.2.2.2 20 Z4d ex40 rfl rfl trivial rfl rfl rfl rfl (GP H 4 0 [25] [(151,[.iv x40,.bv (decide (x40≤x39)),.bv (decide (x40≤x39)),.bv (decide (x40≤x39))])] (Ds ?_));refine GD ?_;exact W
         ·refine Ds (GP H 14 0 [25] [(141,[.un,.un,.un,.un,.un,.un,.un,.un,.un,.un,.un,.un,.ff,.ff])] (Ds ?_));refine GD ?_;exact W
     ·have ⟨x34,ex34,h⟩:=Bs h;have ⟨x35,ex35,h⟩:=Bs h;have q0:=Z9m ex35;refine Zgj fun all H=>Gs ?_;exact W
    ·exact W
  ·refine Vg 1 ?_;refine Mk h [1,1] (fun x17=>[(5,.iv x17)]) ?_;rintro n1 x17 y1 h hin1 hout1;rw [Zhz] at h;refine Vg 11 ?_;refine MI h (fun h=>?_) fun h=>?_
   ·refine Vg 10 ?_;have ⟨x18,ex18,h⟩:=Bs h;refine Zjc SX.row ex18 trivial rfl rfl rfl (Vg 5 ?_);refine Vl [1,1,3,1] (fun x20=>([(110,.bv x20)],[some ⟨67,NO.row x1⟩],[])) (Zgz x17) y1 ?_ fun J4=>?_
    ·intro x20 h;rw [Zgz] at h;exact W
    ·refine Zgj fun all H=>Ds (GP H 4 33 [4,33] [(74,[.ptr 1 0,.iv x18.PE,.bv (decide (63<x18.PE)),.bv (decide (63<x18.PE))])] (Ds ?_));refine Zdd 77 h rfl (fun _ h=>?_) fun _ h=>?_
     ·refine Ds (GP H 33 0 [37] [(78,[.un,.un,.un,.tt,.tt,.un,.un,.un,.un,.un,.un,.un,.un,.tt,.tt,.un,.un,.un,.un,.un,.un,.un,.un,.un,.un,.un,.un,.un,.un,.un,.un,.un,.tt])] (Ds ?_));refine GD ?_;exact W
     ·refine Ds (GP H 5 28 [9,28] [(78,[.ptr 1 1,.iv x18.EP,.bv (decide (x18.EP<1)),.bv (decide (x18.EP<1)),.bv (decide (x18.EP<1))])] (Ds ?_));refine Zdd 82 h rfl (fun _ h=>?_) fun _ h=>?_
      ·refine Ds (GP H 28 0 [37] [(83,[.un,.un,.un,.un,.un,.un,.un,.un,.tt,.tt,.un,.un,.un,.un,.un,.un,.un,.un,.un,.un,.un,.un,.un,.un,.un,.un,.un,.tt])] (Ds ?_));refine GD ?_;exact W
      ·refine Ds (GP H 6 22 [13,1,2,21] [(83,[.ptr 0 7,Sp2 x1.KN,.ptr 1 0,.iv x18.PE]),(1,[.ptr 1 1,.iv x18.EP])] (Ds ?_));refine RB h Zwq fun x19 _ h=>?_;refine GP H 3 18 [19,18] [(90,[.bv (!decide (x19=x18.EP)),.bv (!decide (x19=x18.EP)),.bv (!decide (x19=x18.EP))])] (Ds ?_);refine Zdd 92 h rfl (fun _ h=>?_) fun _ h=>?_
       ·refine Ds (GP H 18 0 [37] [(93,[.un,.un,.un,.un,.un,.un,.un,.un,.un,.un,.un,.un,.un,.un,.un,.un,.un,.tt])] (Ds ?_));refine GD ?_;exact W
       ·refine Ds (GP H 8 10 [27,10] [(93,[.ptr 1 0,.iv x18.PE,.ptr 0 0,.ptr 0 0,.ptr 0 0,.iv x1.DK.DI.ID,.bv (decide (x18.PE<x1.DK.DI.ID)),.bv (decide (x18.PE<x1.DK.DI.ID))])] (Ds ?_));refine Zdd 100 h rfl (fun _ h=>?_) fun _ h=>?_
        ·refine Ds (GP H 4 6 [31,6] [(101,[.ptr 1 2,.iv x18.SS,.bv (decide (x18.SS=1)),.bv (decide (x18.SS=1))])] (Ds ?_));refine Zdd 104 h rfl (fun _ h=>?_) fun _ h=>?_
         ·refine Ds (GP H 6 0 [37] [(105,[.un,.un,.un,.tt,.tt,.tt])] (Ds ?_));refine GD ?_;exact W
         ·refine Ds (GP H 6 0 [37] [(105,[.ptr 1 2,.iv x18.SS,.bv (decide (x18.SS=3)),.bv (decide (x18.SS=3)),.bv (decide (x18.SS=3)),.bv (decide (x18.SS=3))])] (Ds ?_));refine GD ?_;exact W
        ·refine Ds (GP H 10 0 [37] [(101,[.un,.un,.un,.un,.un,.un,.un,.un,.ff,.ff])] (Ds ?_));refine GD ?_;exact W
   ·exact W
 ·refine Vg 1 ?_;refine Mk h [1,1] (fun x6=>[(3,.iv x6)]) ?_;rintro n1 x6 y1 h hin1 hout1;rw [Zkz] at h;refine Vg 9 ?_;refine MI h (fun h=>?_) fun h=>?_
  ·refine Vg 8 ?_;have ⟨x7,ex7,h⟩:=Bs h;refine Zjc KE.row ex7 trivial rfl rfl rfl (Vg 5 ?_);refine Vl [1,1,1,1] (fun x9=>([(57,.bv x9)],[some ⟨67,NO.row x1⟩],[])) (Zjz x6) y1 ?_ fun J2=>?_
   ·intro x9 h;rw [Zjz] at h;exact W
   ·refine Zgj fun all H=>Ds (GP H 4 30 [4,30] [(24,[.ptr 1 0,.iv x7.PE,.bv (decide (x7.PE<0)),.bv (decide (x7.PE<0))])] (Ds ?_));refine Zdd 27 h rfl (fun _ h=>?_) fun _ h=>?_
    ·refine Ds (GP H 30 0 [34] [(28,[.un,.un,.un,.tt,.tt,.un,.un,.un,.un,.un,.un,.un,.un,.un,.un,.un,.un,.un,.un,.tt,.tt,.un,.un,.un,.tt,.tt,.un,.un,.un,.tt])] (Ds ?_));refine GD ?_;exact W
    ·refine Ds (GP H 5 25 [9,25] [(28,[.ptr 1 0,.iv x7.PE,.bv (decide (63<x7.PE)),.bv (decide (63<x7.PE)),.bv (decide (63<x7.PE))])] (Ds ?_));refine Zdd 32 h rfl (fun _ h=>?_) fun _ h=>?_
     ·refine Ds (GP H 25 0 [34] [(33,[.un,.un,.un,.un,.un,.un,.un,.un,.un,.un,.un,.un,.un,.un,.tt,.tt,.un,.un,.un,.tt,.tt,.un,.un,.un,.tt])] (Ds ?_));refine GD ?_;exact W
     ·refine Ds (GP H 3 22 [12,22] [(33,[.iv x6,.bv (decide (0<x6)),.bv (decide (0<x6))])] (Ds ?_));refine Zdd 35 h rfl (fun _ h=>?_) fun _ h=>?_
      ·refine Ds (GP H 6 16 [16,3,2,13] [(36,[.ptr 0 7,Sp2 x1.KN,.iv x6,.iv (wr (x6-1))]),(3,[.ptr 1 0,.iv x7.PE])] (Ds ?_));have ⟨x8,ex8,h⟩:=Bs h;refine Zkc H.1 H.2.1 H.2.2.1 H.2.2.2 16 KE.row ex8 rfl rfl trivial rfl rfl rfl rfl (GP H 6 9 [25,9] [(41,[.elt (KE.row x8) 0,.iv x8.PE]),(2,[.bv (decide (x7.PE≤x8.PE)),.bv (decide (x7.PE≤x8.PE)),.bv (decide (x7.PE≤x8.PE)),.bv (decide (x7.PE≤x8.PE))])] (Ds ?_));refine Zdd 48 h rfl (fun _ h=>?_) fun _ h=>?_
       ·refine Ds (GP H 9 0 [34] [(49,[.un,.un,.un,.tt,.tt,.un,.un,.un,.tt])] (Ds ?_));refine GD ?_;exact W
       ·refine Ds (GP H 5 4 [30,4] [(49,[.ptr 1 1,.iv x7.EP,.bv (decide (x7.EP<1)),.bv (decide (x7.EP<1)),.bv (decide (x7.EP<1))])] (Ds ?_));refine Zdd 53 h rfl (fun _ h=>?_) fun _ h=>?_
        ·refine Ds (GP H 4 0 [34] [(54,[.un,.un,.un,.tt])] (Ds ?_));refine GD ?_;exact W
        ·refine Ds (GP H 4 0 [34] [(54,[.ptr 1 1,.iv x7.EP,.bv (decide (65535<x7.EP)),.bv (decide (65535<x7.EP))])] (Ds ?_));refine GD ?_;exact W
      ·refine Ds (GP H 18 4 [30,4] [(36,[.un,.un,.un,.un,.un,.un,.un,.un,.un,.un,.ff,.ff,.ff,.ptr 1 1,.iv x7.EP,.bv (decide (x7.EP<1)),.bv (decide (x7.EP<1)),.bv (decide (x7.EP<1))])] (Ds ?_));refine Zdd 53 h rfl (fun _ h=>?_) fun _ h=>?_
       ·refine Ds (GP H 4 0 [34] [(54,[.un,.un,.un,.tt])] (Ds ?_));refine GD ?_;exact W
       ·refine Ds (GP H 4 0 [34] [(54,[.ptr 1 1,.iv x7.EP,.bv (decide (65535<x7.EP)),.bv (decide (65535<x7.EP))])] (Ds ?_));refine GD ?_;exact W
  ·exact W
def Znz (x10:List SX) (x11:List Int) (x15:List KE) (x16:List Int) (x17:List KE):List SE→Option (List SX×List Int×List KE×List Int×List KE×List SE)
| x46=>some (x10,x11,x15,x16,x17,x46)
def Zoz (x25:Int):List SE→Option ((Int×List SE) ⊕ (List SX×List Int×List KE×List Int×List KE×List SE))
| x30=>some (.inl (wr (x25+1),x30))
def Zpz (x10:List SX) (x11:List Int) (x15:List KE) (x16:List Int) (x17:List KE) (x18:List SE):(Int×List SE)→Option ((Int×List SE) ⊕ (List SX×List Int×List KE×List Int×List KE×List SE))
| (x25,x26)=>
 ifb (decide (x25<(ln SE.row x18))) (
 (at_ x26 x25).bind fun x27=>
 (Z9l x27.NE).bind fun x28=>
 (Zoz x25) (x26.set (Int.toNat (x25)) (SE.mk x27.ID x28 x27.SS x27.Age))) (
 Option.map Sum.inr ((Znz x10 x11 x15 x16 x17) x26))
def Zqz (x10:List SX) (x11:List Int):(List KE×List Int×List KE)→Option (List SX×List Int×List KE×List Int×List KE×List SE)
| (x15,x16,x17)=>
 (Zol (([]:List SE))).bind fun x18=>
 loop (Zpz x10 x11 x15 x16 x17 x18) (0,x18)
def Zrz (x7:List KE):(List SX×List Int)→Option (List SX×List Int×List KE×List Int×List KE×List SE)
| (x10,x11)=>
 (Zym x7).bind fun x12=>
 (Z9l (([]:List Int))).bind fun x13=>
 (Zym (([]:List KE))).bind fun x14=>
 (Zqz x10 x11) (x12,x13,x14)
def Zsz (_x1 _x2:Int) (x3:List SX) (_x4:Int) (x5:List Int) (_x6:Int) (x7:List KE):Option (List SX×List Int×List KE×List Int×List KE×List SE):=
 (Zkm x3).bind fun x8=>
 (Z9l x5).bind fun x9=>
 (Zrz x7) (x8,x9)
theorem Ztz {x1 x2 x3 x4 x5 x6 x7 r} (h:Zsz x1 x2 x3 x4 x5 x6 x7=some r):FTx 52 [.agg [.iv x1,.iv x2,Sp3 x3,.iv x4,Sp1 x5,.iv x6,.nl,.osl 0,.nl,.nl]] [] [Z6k x7] (.agg [.iv x1,.iv x2,.osl 1,.iv x4,.osl 2,.iv x6,.osl 6,.osl 3,.osl 4,.osl 5]) [] [Z6k x7,Z5k r.1,Sq4 r.2.1,Z6k r.2.2.1,Sq4 r.2.2.2.1,Z6k r.2.2.2.2.1,Z3k r.2.2.2.2.2]:=by
 refine Ft Zys fun w0 M0=>?_;have ok:=Zys;rw [Zsz] at h;refine Vg 6 ?_;refine Vl [1,2] (fun s=>([],[some ⟨67,[.iv x1,.iv x2,.osl 1,.iv x4,.osl 2,.iv x6,.nl,.osl 0,.nl,.nl]⟩,some ⟨67,[.iv 0,.iv 0,.nl,.iv 0,.nl,.iv 0,.nl,.nl,.nl,.nl]⟩],[Z6k x7,Z5k s.1,Sq4 s.2])) (Zrz x7) r ?_ fun J1=>?_
 ·rintro ⟨x10,x11⟩ h;rw [Zrz] at h;refine Vg 1 ?_;refine Vl [1,2] (fun s=>([],[some ⟨67,[.iv x1,.iv x2,.osl 1,.iv x4,.osl 2,.iv x6,.nl,.osl 3,.osl 4,.osl 5]⟩,some ⟨67,[.iv 0,.iv 0,.nl,.iv 0,.nl,.iv 0,.nl,.nl,.nl,.nl]⟩],[Z6k x7,Z5k x10,Sq4 x11,Z6k s.1,Sq4 s.2.1,Z6k s.2.2])) (Zqz x10 x11) r ?_ fun J2=>?_
  ·rintro ⟨x15,x16,x17⟩ h;rw [Zqz] at h;refine Vg 5 ?_;have ⟨x18,ex18,h⟩:=Bs h;refine Zud trivial (Zpl ex18) (h:=?_);refine Vg 13 ?_;refine Vm [1,2] (fun x46=>([],[],[],[(6,Z3k x46)])) (Znz x10 x11 x15 x16 x17) r ?_ fun J3=>?_
   ·intro x46 h;rw [Znz] at h;exact W
   ·refine Vg 1 ?_;refine Mm h [1,2,36,1] (fun s=>([(40,.iv s.1)],[],[],[(6,Z3k s.2)])) ?_;rintro n1 ⟨x25,x26⟩ y1 h hin1 hout1;rw [Zpz] at h;refine Vg 5 ?_;refine MI h (fun h=>?_) fun h=>?_
    ·refine Vg 8 ?_;refine Vm [1,2,36,2] (fun x30=>([],[],[],[(6,Z3k x30)])) (Zoz x25) y1 ?_ fun J4=>?_
     ·intro x30 h;rw [Zoz] at h;exact W
     ·refine Zgj fun all H=>Ds (GP H 6 9 [2,1,3,1,1,7] [(43,[.ptr 0 5,.ptr 0 6]),(1,[.iv x25,.ptr 0 5,.ptr 0 6]),(1,[.iv x25])] (Ds ?_));refine Zoa 2 6 rfl ?_ ?_
      ·refine RV ?_;refine R1 ?_;have ⟨x27,ex27,h⟩:=Bs h;refine RO ?_;refine RI ?_;refine Gn H 1 5 ?_;refine RO ?_;refine RL ?_;refine RB h Zbl fun x28 ex28 h=>?_;refine RO ?_;refine RI ?_;refine Gn H 1 1 ?_;refine RSo [Sp1 x28] (SE.mk x27.ID x28 x27.SS x27.Age) ?_;refine GD ?_;exact W
      ·refine RV ?_;have ⟨x27,ex27,h⟩:=Bs h;refine Zoa 2 8 rfl ?_ ?_
       ·refine RV ?_;refine RO ?_;refine RI ?_;refine Gn H 1 5 ?_;refine RO ?_;refine RL ?_;refine RB h Zbl fun x28 ex28 h=>?_;refine Zna 12 rfl (GI H.1 SE.row ex27 (Ds ?_));refine Gn H 1 1 ?_;refine RSo [Sp1 x28] (SE.mk x27.ID x28 x27.SS x27.Age) ?_;refine GD ?_;exact W
       ·refine RI ?_;refine Gn H 1 6 ?_;refine Zoa 2 10 rfl ?_ ?_
        ·refine RV ?_;refine RO ?_;refine RL ?_;refine RB h Zbl fun x28 ex28 h=>?_;refine RO ?_;refine RI ?_;refine Gn H 1 1 ?_;refine RSo [Sp1 x28] (SE.mk x27.ID x28 x27.SS x27.Age) ?_;refine GD ?_;exact W
        ·refine RL ?_;have ⟨x28,ex28,h⟩:=Bs h;refine Zoa 2 11 rfl ?_ ?_
         ·refine RV ?_;refine Zna 11 rfl (GC H.1 (Zbl ex28) (Ds ?_));refine RO ?_;refine RI ?_;refine Gn H 1 1 ?_;refine RSo [Sp1 x28] (SE.mk x27.ID x28 x27.SS x27.Age) ?_;refine GD ?_;exact W
         ·refine GC H.1 (Zbl ex28) (Ds ?_);refine R1 ?_;refine RO ?_;refine RI ?_;refine Gn H 1 1 ?_;refine RSo [Sp1 x28] (SE.mk x27.ID x28 x27.SS x27.Age) ?_;refine GD ?_;exact W
    ·exact W
  ·refine Zgj fun all H=>Ds (GP H 5 10 [1,2,2,1,2,7] [(18,[.ptr 0 7]),(2,[.ptr 0 8,.nl]),(1,[.ptr 0 9,.nl])] (Ds ?_));refine R1 ?_;refine RR [] [0] 2 3 h Z3u fun _ _ h=>?_;refine GN H 1 7 (Ds ?_);refine An (Zna 5 rfl ?_);have ⟨x13,ex13,h⟩:=Bs h;refine Zvd H.1 rfl trivial (Zal ex13) (h:=Ds ?_);refine Zna 8 rfl ?_;have ⟨x14,ex14,h⟩:=Bs h;refine Zvd H.1 rfl trivial (Zzm ex14) (h:=Ds ?_);refine R1 ?_;refine Gn H 1 3 ?_;refine R1 ?_;refine Gn H 1 1 ?_;refine R1 ?_;refine GD ?_;exact W
 ·refine Zgj fun all H=>Ds (GP H 7 9 [4,1,3,8] [(4,[.ptr 0 0,.ptr 0 0,.ptr 0 2,Sp3 x3]),(1,[.ptr 0 0,.ptr 0 4,Sp1 x5])] (Ds ?_));refine Zna 4 rfl ?_;have ⟨x8,ex8,h⟩:=Bs h;refine Zvd H.1 rfl trivial (Zlm ex8) (h:=?_);refine Gn H 3 5 ?_;refine Zna 8 rfl ?_;have ⟨x9,ex9,h⟩:=Bs h;refine Zvd H.1 rfl trivial (Zal ex9) (h:=Ds ?_);refine R1 ?_;refine Gn H 2 1 ?_;refine R1 ?_;refine GD ?_;exact W
def Zuz:List ML→Option (List ML)
| x31=>some x31
def Zvz (x1:(List (List ML))):(Int×List ML)→Option ((Int×List ML) ⊕ (List ML))
| (x21,x22)=>
 ifb (decide (x21<(ln (Z8d 5 ML.row) x1))) (
 (at_ x1 x21).bind fun x23=>
 (Z8c 40 x22 x23).bind fun x24=>
 some (.inl (wr (x21+1),x24))) (
 Option.map Sum.inr (Zuz x22))
def Zwz (x1:(List (List ML))):Int→Option (List ML)
| x15=>
 (Zew x15).bind fun x16=>
 loop (Zvz x1) (0,x16)
def Zxz (x5 x6:Int) (x7:List ML):Unit→Option ((Int×Int) ⊕ (List ML))
| ()=>some (.inl (wr (x5+(ln ML.row x7)),wr (x6+1)))
def Zyz (x1:(List (List ML))):(Int×Int)→Option ((Int×Int) ⊕ (List ML))
| (x5,x6)=>
 ifb (decide (x6<(ln (Z8d 5 ML.row) x1))) (
 (at_ x1 x6).bind fun x7=>
 ifb (decide ((wr (x5+(ln ML.row x7)))<0)) (
 none) (
 (Zxz x5 x6 x7) ())) (
 Option.map Sum.inr ((Zwz x1) x5))
def Zzz (x1:(List (List ML))):Option (List ML):=loop (Zyz x1) (0,0)
theorem Z001 {x1 r} (h:Zzz x1=some r):FOx 42 [.sl 1 (List.map (Z8d 5 ML.row) x1)] 53 5 (List.map ML.row r):=by
 have ok:=oJ 42 Tryz.f42 [.t 2] 1 35;refine Zrd ok rfl fun w0 H0=>?_;rw [Zzz] at h;refine Vg 15 ?_;refine Vk [0,1] (fun x15=>[(3,.iv x15)]) (Zwz x1) r ?_ fun J1=>?_
 ·intro x15 h;rw [Zwz] at h;refine Vg 3 ?_;have ⟨x16,ex16,h⟩:=Bs h;refine Z9f [] [] trivial (Zfw ex16) (h:=?_);refine Vg 9 ?_;refine Vl [6,1] (fun x31=>([],[],[Sq6 x31])) Zuz r ?_ fun J3=>?_
  ·intro x31 h;rw [Zuz] at h;refine Vg 5 ?_;exact Zae ML.row ok h rfl rfl
  ·refine Vg 1 ?_;refine Ml h [6,1,18,2] (fun s=>([(27,.iv s.1)],[],[Sq6 s.2])) ?_;rintro n1 ⟨x21,x22⟩ y1 h hin1 hout1;rw [Zvz] at h;refine Vg 5 ?_;refine MI h (fun h=>?_) fun h=>?_
   ·refine Vg 5 ?_;have ⟨x23,ex23,h⟩:=Bs h;refine Zjc (Z8d 5 ML.row) ex23 trivial rfl rfl rfl (Vg 6 ?_);have ⟨x24,ex24,h⟩:=Bs h;refine Zmc ML.row ex24 trivial rfl rfl rfl (Vg 7 ?_);refine Zij 1 0 ?_;exact W
   ·exact W
 ·refine Vg 1 ?_;refine Mk h [0,1,8,2] (fun s=>[(3,.iv s.1),(11,.iv s.2)]) ?_;rintro n1 ⟨x5,x6⟩ y1 h hin1 hout1;rw [Zyz] at h;refine Vg 5 ?_;refine MI h (fun h=>?_) fun h=>?_
  ·refine Vg 5 ?_;have ⟨x7,ex7,h⟩:=Bs h;refine Zjc (Z8d 5 ML.row) ex7 trivial rfl rfl rfl (Vg 16 ?_);refine Vk [0,1,2,1,5,3] (fun _=>[]) (Zxz x5 x6 x7) y1 ?_ fun J2=>?_
   ·rintro ⟨⟩ h;rw [Zxz] at h;exact W
   ·refine MI h (fun h=>?_) fun h=>?_
    ·cases h
    ·exact W
  ·exact W
def Z101 (x1 x2:List Int):Option (List Int):=
 (Zzw ([x1,x2])).bind fun x3=>
 (Z8s x3).bind fun x4=>
 some x4
theorem Z201 {x1 x2 r} (h:Z101 x1 x2=some r):FOx 234 [Sp1 x1,Sp1 x2] 3 1 (List.map Z4d r):=by have ok:=oJ 234 Tryz.f234 [.t 4] 2 8;refine Zrd ok rfl fun w0 H0=>?_;rw [Z101] at h;refine Vg 9 ?_;refine Zjj 0 (Ds ?_);have ⟨x3,ex3,h⟩:=Bs h;refine Zud trivial (Z0x ex3) (h:=?_);refine Zjj 1 (Ds ?_);have ⟨x4,ex4,h⟩:=Bs h;refine Zud trivial (Z9s ex4) (h:=?_);refine Vg 2 ?_;exact Zae Z4d ok h rfl rfl
theorem Z301 {x1 x2 r} (h:Z101 x1 x2=some r):FPx 234 [Sp1 x1,Sp1 x2] (Sp1 r):=(Z201 h).sealed
def Z401 (x1:Int) (x2:List Int):Option Bool:=
 (Z1x x2 x1).bind fun x3=>
 some (!x3)
theorem Z501 {x1 x2 r} (h:Z401 x1 x2=some r):FPx 188 [.iv x1,.elt ((Z8d 1 Z4d) x2) 0] (.bv r):=by have ok:=oJ 188 Tryz.f188 [.t 3] 2 6;refine FP ok fun w0 H0=>?_;rw [Z401] at h;refine Vg 8 ?_;refine VB h Z2x fun _ _ h=>?_;exact W
def Z601 (x1:List Int) (p1:(Int→Option Bool)):Option (List Int):=
 (Z8s x1).bind fun x2=>
 (Z6x x2 ((fun z=>Zhl z p1))).bind fun x3=>
 some x3
theorem Z701 {x1 g1 caps1 p1 r} (h:Z601 x1 p1=some r) (hc1:CloOK Tryz.prog g1 caps1 (fun z=>[.iv z]) p1 (fun z=>.bv z)):FPx 162 [Sp1 x1,.clo g1 caps1] (Sp1 r):=by have ok:=oJ 162 Tryz.f162 [.t 4] 2 7;refine FP ok fun w0 H0=>?_;rw [Z601] at h;refine Vg 8 ?_;have ⟨x2,ex2,h⟩:=Bs h;refine Zud trivial (Z9s ex2) (hp:=(by first | rfl | simp [go_sem,hc1.pu])) (h:=?_);refine Vg 1 ?_;refine Zf8 0 rfl (by first | rfl | simp [go_sem,hc1.pu]) (Ds ?_);have ⟨x3,ex3,h⟩:=Bs h;refine Z9f [false] [true] trivial (Zbj [] [0] 1 1 (Z7x ex3 ⟨by kernel_rfl,rfl,fun z r hz=>Zil hz hc1⟩)) (ha:=(by first | exact Zrb _ | simp [go_sem,Z0j _ _ _ _ _ hc1.pu])) (h:=?_);refine Vg 2 ?_;refine Zjj 1 (Ds ?_);exact MD ok h
def Z801:Unit→Option Int
| ()=>some 0
def Z901 (x12:Int) (x13:SE):Bool→Option ((Int×Int) ⊕ Int)
| x18=>
 ifb x18 (
 Option.map Sum.inr (some 170)) (
 some (.inl (x13.ID,wr (x12+1))))
def Za01 (x12:Int) (x13:SE) (x14:Bool):Bool→Option ((Int×Int) ⊕ Int)
| x17=>
 ifb x17 (
 Option.map Sum.inr (some 170)) (
 ifb (!x14) (
 ifb (!decide (x13.SS=0)) (
 (Z901 x12 x13) true) (
 (Z901 x12 x13) (!decide (x13.Age=0)))) (
 (Z901 x12 x13) false))
def Zb01 (x1:BK) (x11:Int) (x12:Int) (x13:SE):Bool→Option ((Int×Int) ⊕ Int)
| x14=>
 ifb (decide (x13.ID≤x11)) (
 (Za01 x12 x13 x14) (decide (x13.ID≤x11))) (
 ifb (decide (x1.LA<x13.ID)) (
 (Za01 x12 x13 x14) (decide (x1.LA<x13.ID))) (
 (Zdx x13.NE).bind fun x15=>
 ifb x15 (
 (Za01 x12 x13 x14) x15) (
 (Zml x13.NE).bind fun x16=>
 ifb (!x16) (
 (Za01 x12 x13 x14) (!x16)) (
 (Za01 x12 x13 x14) (decide (x13.Age<0))))))
def Zc01 (x1:BK):(Int×Int)→Option ((Int×Int) ⊕ Int)
| (x11,x12)=>
 ifb (decide (x12<(ln SE.row x1.SE))) (
 (at_ x1.SE x12).bind fun x13=>
 ifb (decide (x13.SS=1)) (
 (Zb01 x1 x11 x12 x13) (decide (x12=0))) (
 (Zb01 x1 x11 x12 x13) false)) (
 Option.map Sum.inr (Z801 ()))
def Zd01 (x1:BK):Bool→Option Int
| x2=>
 ifb x2 (
 some 170) (
 loop (Zc01 x1) (0,0))
def Ze01 (x1:BK):Option Int:=
 ifb (decide (x1.LA<0)) (
 (Zd01 x1) true) (
 (Zd01 x1) (decide (8<(ln SE.row x1.SE))))
theorem Zf01 {x1 r} (h:Ze01 x1=some r):FPx 56 [.agg (BK.row x1)] (.iv r):=by
 have ok:=oJ 56 Tryz.f56 [.t 2] 1 66;refine FP ok fun w0 H0=>?_;rw [Ze01] at h;refine Vg 12 ?_;refine Vk [1,1] (fun x2=>[(15,.bv x2)]) (Zd01 x1) r ?_ fun J1=>?_
 ·intro x2 h;rw [Zd01] at h;refine MI h (fun h=>?_) fun h=>?_
  ·exact W
  ·refine Vg 13 ?_;refine Vl [] (fun _=>([],[],[])) Z801 r ?_ fun J2=>?_
   ·rintro ⟨⟩ h;rw [Z801] at h;exact W
   ·refine Vg 1 ?_;refine Mk h [1,1,15,2] (fun s=>[(3,.iv s.1),(19,.iv s.2)]) ?_;rintro n1 ⟨x11,x12⟩ y1 h hin1 hout1;rw [Zc01] at h;refine Vg 5 ?_;refine MI h (fun h=>?_) fun h=>?_
    ·refine Vg 6 ?_;have ⟨x13,ex13,h⟩:=Bs h;refine Zjc SE.row ex13 trivial rfl rfl rfl (Vg 11 ?_);refine Vk [1,1,1,1,1,1,11,3] (fun x14=>[(6,.bv x14)]) (Zb01 x1 x11 x12 x13) y1 ?_ fun J3=>?_
     ·intro x14 h;rw [Zb01] at h;refine Vg 11 ?_;refine Vk [1,1,3,2,10,3] (fun x17=>[(31,.bv x17)]) (Za01 x12 x13 x14) y1 ?_ fun J4=>?_
      ·intro x17 h;rw [Za01] at h;refine MI h (fun h=>?_) fun h=>?_
       ·exact W
       ·refine Vg 5 ?_;refine Vk [1,1,3,1,11,3] (fun x18=>[(51,.bv x18)]) (Z901 x12 x13) y1 ?_ fun J5=>?_
        ·intro x18 h;rw [Z901] at h;exact W
        ·exact W
      ·refine MI h (fun h=>?_) fun h=>?_
       ·exact W
       ·refine Vg 9 ?_;refine MI h (fun h=>?_) fun h=>?_
        ·exact W
        ·refine Vg 4 ?_;refine VB h Zex fun _ _ h=>?_;refine Vg 2 ?_;refine MI h (fun h=>?_) fun h=>?_
         ·exact W
         ·refine Vg 4 ?_;refine VB h Znl fun _ _ h=>?_;exact W
     ·exact W
    ·exact W
 ·exact W
end
end NX
end Go.Proofs.YtgamgemlekpepaaGreat
