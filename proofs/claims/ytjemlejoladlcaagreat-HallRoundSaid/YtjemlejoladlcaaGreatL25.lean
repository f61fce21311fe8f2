/-
  The function (*narthex/node.node).tranquil, lent own memory. Written by a program of ours (lb.py). No statement of the seat is proved here.
-/
import Derived.Test.YtjemlejoladlcaaGreatL24
set_option maxRecDepth 100000
set_option maxHeartbeats 40000000
namespace Go.Proofs.YtjemlejoladlcaaGreat
namespace NX
open Go
noncomputable section
def Sr:(Int×Int×Int×List SX×List Int)→Option (Int×Int×Int×List SX×List Int)
| (x14,x15,x16,x17,x18)=>some (x14,x15,x16,x17,x18)
def Ht (x1 x2:Int) (x3 _x4:Int) (_x5:List SE) (_x6:Int) (x7:List SX) (x8:List Int) (_x9:List KE) (_x10:List Int) (_x11:List KE) (_x12:List EV):Option (Int×Int×Int×List SX×List Int):=
 (QP x1 x2 x3 x7 x8).bind fun x13=>
 A0 (decide (x13.2.2.1=0)) (
 Sr (x13.1,x13.2.1,0,x13.2.2.2,([]:List Int))) (
 Sr (x1,x2,x3,x7,x8))
theorem Zj {x1 x2 x3 x4 x5 x6 x7 x8 x9 x10 x11 x12 r} (h:Ht x1 x2 x3 x4 x5 x6 x7 x8 x9 x10 x11 x12=some r):FTx 148 [.ptr 0 0] [some ⟨173,[.iv x1,.iv x2,.osl 0,.iv x3,.osl 1,.iv x4,Av x5,.osl 2,.osl 3,.osl 4,.nl,.osl 5,.iv x6]⟩] [Ac x7,A5 x8,A9 x9,A5 x10,A9 x11,Be x12] (.tup []) [some ⟨173,[.iv r.1,.iv r.2.1,.osl 6,.iv r.2.2.1,.osl 7,.iv x4,Av x5,.osl 2,.osl 3,.osl 4,.nl,.osl 5,.iv x6]⟩] [none,none,A9 x9,A5 x10,A9 x11,Be x12,Ac r.2.2.2.1,A5 r.2.2.2.2]:=by
 refine Ft ke fun w0 M0=>?_;have ok:=ke;rw [Ht] at h;refine Vg 7 ?_;refine VR [] [0,1] 1 6 h Z1j fun _ _ h=>?_;refine Vg 12 ?_;refine Vl [] (fun s=>([],[some ⟨173,[.iv s.1,.iv s.2.1,.osl 6,.iv s.2.2.1,.osl 7,.iv x4,Av x5,.osl 2,.osl 3,.osl 4,.nl,.osl 5,.iv x6]⟩],[none,none,A9 x9,A5 x10,A9 x11,Be x12,Ac s.2.2.2.1,A5 s.2.2.2.2])) Sr r ?_ fun J1=>?_
 ·rintro ⟨x14,x15,x16,x17,x18⟩ h;rw [Sr] at h;exact W
 ·refine MI h (fun h=>?_) fun h=>?_
  ·refine Vg 8 ?_;refine AE 0 4 3 1 ?_;exact W
  ·refine Vg 1 ?_;refine A7 0 6 (Ds ?_);refine As 3 1 (Ds ?_);refine A7 1 7 ?_;exact W
@[go_sem] def sH:EC:=eQ Tryz.f94
theorem kM:FnOK Tryz.prog 94 Tryz.f94 sH [] 2 76:=B6
def RS (x1:NO):Bool→Option Bool
| x4=>
 A0 x4 (
 (RY x1 ((-1)) ((fun z=>L1 z x1))).bind fun x5=>
 some x5.1) (
 some false)
def RJ (x1:NO):Option Bool:=
 (Oa x1.AK ((fun z=>RP z x1))).bind fun x2=>
 A0 (!x2) (
 (Nu x1.AK).bind fun x3=>
 (RS x1) x3) (
 (RS x1) false)
theorem vq {x1 r} (h:RJ x1=some r):FPx 104 [.agg (NO.row x1)] (.bv r):=by
 have ok:=oJ 104 Tryz.f104 [.t 2] 1 21;refine FP ok fun w0 H0=>?_;rw [RJ] at h;refine Vg 26 ?_;refine VN (LR.block 0 rfl rfl) h (fun e=>iR e ⟨by kernel_rfl,rfl,fun z r hz=>vt hz⟩) fun _ _ h=>?_;refine Vg 2 ?_;refine Vk [1,1,1,1,1,1] (fun x4=>[(17,.bv x4)]) (RS x1) r ?_ fun J1=>?_
 ·intro x4 h;rw [RS] at h;refine MI h (fun h=>?_) fun h=>W;refine Vg 5 ?_;refine H3 0 rfl rfl (Ds ?_);refine VR [1] [] 2 0 h (fun e=>Z1t e ⟨by kernel_rfl,rfl,fun z r hz=>vr hz⟩) fun _ _ h=>?_;exact W
 ·refine MC 13 h (fun h=>?_) fun h=>W;refine Vg 2 ?_;refine VB h Fy fun _ _ h=>?_;exact W
@[go_sem] def rv:EC:=eQ Tryz.f137
theorem kc:FnOK Tryz.prog 137 Tryz.f137 rv [] 3 25:=B6
def Hm (x1 x2:Int) (x3 x4:Int) (x5:Msg) (x9:(List SX×List Int)) (x10:Int):Bool→Option (Int×Int×Int×Int×List SX×List Int)
| x11=>
 A0 x11 (
 (QJ x1 x2 x4 x5 x9.1).bind fun x12=>
 A0 (!decide (x12.2.2.1=0)) (
 some (0,0,0,x12.2.2.1,([]:List SX),([]:List Int))) (
 some (x12.1,x12.2.1,x3,0,x12.2.2.2,x9.2))) (
 (A4 x9.1 x10).bind fun x13=>
 A0 (decide (x5.KI=4)) (
 A0 x13.Ask (
 some (0,0,0,132,([]:List SX),([]:List Int))) (
 some (x1,x2,x3,0,x9.1.set (Int.toNat (x10)) (SX.mk x13.PE x13.EP x13.SS x13.FK x13.DY x13.TO x13.BO true),x9.2))) (
 A0 x13.BO (
 some (0,0,0,132,([]:List SX),([]:List Int))) (
 some (x1,x2,x3,0,x9.1.set (Int.toNat (x10)) (SX.mk x13.PE x13.EP x13.SS x13.FK x13.DY x13.TO true x13.Ask),x9.2))))
def QT (x1 x2:Int) (x3 x4:Int) (x5:Msg) (x6:List SX) (x7:List Int):Option (Int×Int×Int×Int×List SX×List Int):=
 (Js (DK.mk (DI.mk x1 x2 x6) x3 x7)).bind fun x8=>
 A0 (!decide (x8=0)) (
 some (0,0,0,x8,([]:List SX),([]:List Int))) (
 (Jw x1 x2 x3 x6 x7).bind fun x9=>
 (Hw x9.1 ((fun z=>QR z x4 x5))).bind fun x10=>
 A0 (decide (x10<0)) (
 (Hm x1 x2 x3 x4 x5 x9 x10) true) (
 A0 (!decide (x5.Num=0)) (
 (Hm x1 x2 x3 x4 x5 x9 x10) true) (
 A0 (!decide (x5.KI=3)) (
 (Hm x1 x2 x3 x4 x5 x9 x10) (!decide (x5.KI=4))) (
 (Hm x1 x2 x3 x4 x5 x9 x10) false))))
theorem ed {x1 x2 x3 x4 x5 x6 x7 r} (h:QT x1 x2 x3 x4 x5 x6 x7=some r):FTx 194 [.agg [.iv x1,.iv x2,.osl 0,.iv x3,.osl 1],.iv x4,.agg (Msg.row x5)] [] [Ac x6,A5 x7] (.tup [.agg [.iv r.1,.iv r.2.1,.osl 2,.iv r.2.2.1,.osl 3],.iv r.2.2.2.1]) [] [Ac x6,A5 x7,Ac r.2.2.2.2.1,A5 r.2.2.2.2.2]:=by
 refine Ft km fun w0 M0=>?_;have ok:=km;rw [QT] at h;refine Vg 12 ?_;refine VN ((LR.slice 0 rfl).slice 1 rfl) h V9 fun _ _ h=>?_;refine Vg 7 ?_;refine MI h (fun h=>?_) fun h=>?_
 ·refine Vg 7 ?_;refine AE 3 2 66 8 (Ds ?_);refine AE 3 4 3 1 ?_;exact W
 ·refine Vg 4 ?_;refine VR [] [0,1] 4 2 h Zh fun x9 _ h=>?_;refine Vg 8 ?_;refine VN (((LR.slice 2 rfl).block 1 rfl rfl).block 2 rfl rfl) h (fun e=>Mt e ⟨by kernel_rfl,rfl,fun z r hz=>uU hz⟩) fun x10 _ h=>?_;refine Ah 8 (Ds ?_);refine An (Vk [3,4,2,1] (fun x11=>[(42,.bv x11)]) (Hm x1 x2 x3 x4 x5 x9 x10) r ?_ fun J1=>?_)
  ·intro x11 h;rw [Hm] at h;refine MI h (fun h=>?_) fun h=>?_
   ·refine Vg 6 ?_;refine VR [] [2] 4 4 h Z1i fun _ _ h=>?_;refine Vg 13 ?_;refine MI h (fun h=>?_) fun h=>?_
    ·refine Vg 7 ?_;refine AE 3 2 66 8 (Ds ?_);refine AE 3 4 3 1 (Ds ?_);refine A7 5 2 (A7 6 3 ?_);exact W
    ·refine Vg 13 ?_;refine A7 4 2 ?_;exact W
   ·refine Vg 7 ?_;have ⟨x13,ex13,h⟩:=Bs h;refine BR SX.row ex13 trivial rfl rfl rfl (Vg 10 ?_);refine MI h (fun h=>?_) fun h=>?_
    ·refine Vg 5 ?_;refine BR SX.row ex13 trivial rfl rfl rfl (Vg 8 ?_);refine CA SX.row ex13 trivial rfl rfl rfl (Vg 1 ?_);refine MI h (fun h=>?_) fun h=>?_
     ·refine Vg 6 ?_;refine AE 3 2 66 8 (Ds ?_);refine AE 3 4 3 1 (Ds ?_);refine A7 4 2 (A7 5 3 ?_);exact W
     ·refine Vg 5 ?_;refine Dz [.bv true] SX.row (y':=(SX.mk x13.PE x13.EP x13.SS x13.FK x13.DY x13.TO x13.BO true)) ex13 trivial rfl rfl rfl (by first | exact Am _ | simp [go_sem]) rfl rfl rfl rfl ?_;exact W
    ·refine Vg 6 ?_;refine CA SX.row ex13 trivial rfl rfl rfl (Vg 1 ?_);refine MI h (fun h=>?_) fun h=>?_
     ·refine Vg 6 ?_;refine AE 3 2 66 8 (Ds ?_);refine AE 3 4 3 1 (Ds ?_);refine A7 4 2 (A7 5 3 ?_);exact W
     ·refine Vg 5 ?_;refine Dz [.bv true] SX.row (y':=(SX.mk x13.PE x13.EP x13.SS x13.FK x13.DY x13.TO true x13.Ask)) ex13 trivial rfl rfl rfl (by first | exact Am _ | simp [go_sem]) rfl rfl rfl rfl ?_;exact W
  ·exact W
def bJ:List DK→Option (Bar×Int)
| x17=>some ((Bar.mk x17 (([]:List ML))),0)
def Qf (x2:(SN×Int)):(Int×List DK)→Option ((Int×List DK) ⊕ (Bar×Int))
| (x7,x8)=>
 A0 (decide (x7<(ln DI.row x2.1.DZ))) (
 (A4 x2.1.DZ x7).bind fun x9=>
 (AI 72 x8 ([DK.mk x9 0 (([]:List Int))])).bind fun x10=>
 some (.inl (wr (x7+1),x10))) (
 Option.map Sum.inr (bJ x8))
def Qd (x1:Graph):Option (Bar×Int):=
 (OA x1).bind fun x2=>
 A0 (!decide (x2.2=0)) (
 some ((Bar.mk (([]:List DK)) (([]:List ML))),x2.2)) (
 loop (Qf x2) (0,([]:List DK)))
theorem uC {x1 r} (h:Qd x1=some r):FPx 73 [.agg (Graph.row x1)] (.tup [.agg (Bar.row r.1),.iv r.2]):=by
 have ok:=oJ 73 Tryz.f73 [.c 2 (some 2),.t 3] 1 33;refine FP ok fun w0 H0=>?_;rw [Qd] at h;refine Vg 9 ?_;refine VB h wg fun _ _ h=>?_;refine Vg 13 ?_;refine MI h (fun h=>W) fun h=>?_;refine Vg 13 ?_;refine Vl [2,1,3,1] (fun x17=>([],[none,some ⟨71,[.nl,.nl]⟩,none,some ⟨71,[.osl 0,.nl]⟩],[Uy x17])) bJ r ?_ fun J1=>?_
 ·intro x17 h;rw [bJ] at h;refine Vg 6 ?_;refine Ae 0 ?_;exact W
 ·refine Vg 1 ?_;refine AE 3 0 42 5 (Ds ?_);refine Mm h [2,1,3,1,12,2] (fun s=>([(21,.iv s.1)],[],[(0,none),(2,none)],[(0,Uy s.2)])) ?_;rintro n1 ⟨x7,x8⟩ y1 h hin1 hout1;rw [Qf] at h;refine Vg 5 ?_;refine MI h (fun h=>?_) fun h=>W;refine Vg 5 ?_;have ⟨x9,ex9,h⟩:=Bs h;refine AZ DI.row ex9 trivial rfl rfl rfl (Vg 9 ?_);refine ZC 28 (.agg [.iv x9.ID,.iv x9.PH,CU x9.SD,.iv 0,Ab (([]:List Int))]) (by simp [go_sem]) ?_;refine Vg 1 ?_;have ⟨x10,ex10,h⟩:=Bs h;refine BP DK.row ex10 trivial rfl rfl rfl (Vg 8 ?_);refine A7 2 0 ?_;exact W
def G4:(Int×Int×Int×Int×List SE×Int×List EV×List SX×List Int)→Option (Int×Int×Int×Int×List SE×Int×List EV×List SX×List Int)
| (x44,x45,x46,x47,x48,x49,x50,x51,x52)=>some (x44,x45,x46,x47,x48,x49,x50,x51,x52)
def Sm (x1:Do) (x2:Int) (x3 x4 x5:Int) (x7:List SX) (x8:List Int) (x9:List SE) (x16:BK):(Bool×Int)→Option (Int×Int×Int×Int×List SE×Int×List EV×List SX×List Int)
| (x21,x22)=>
 A0 x21 (
 (Gy x1.NE).bind fun x23=>
 (AI 56 [] ([EV.mk 0 x2 x1.ID 0 x23])).bind fun x24=>
 G4 (x2,x3,x4,x16.LA,x16.SE,x22,x24,x7,x8)) (
 G4 (x2,x3,x4,x5,x9,x22,([]:List EV),x7,x8))
def WW (x1:Do) (x2:Int) (x3 x4:Int) (x5 x6:Int) (x7:List SX) (x8:List Int) (x9:List SE) (x10:List KE) (x11:List Int) (x12:List KE):(Int×BK)→Option (Int×Int×Int×Int×List SE×Int×List EV×List SX×List Int)
| (x15,x16)=>
 (L5 (decide (x15=0)) x15 x2 x3 x4 x5 x9 x6 x7 x8 x10 x11 x12).bind fun x17=>
 A0 x17.1 (
 (RD x2 x3 x4 x5 x9 x7 x8 x10 x11 x12).bind fun x18=>
 (Lh x1.NE x18).bind fun x19=>
 (L5 x19 181 x2 x3 x4 x5 x9 x17.2 x7 x8 x10 x11 x12).bind fun x20=>
 (Sm x1 x2 x3 x4 x5 x7 x8 x9 x16) (x20.1,x20.2)) (
 (Sm x1 x2 x3 x4 x5 x7 x8 x9 x16) (false,x17.2))
def Sn (x2 x3 x4:Int) (x7:List SX) (x8:List Int) (x10:List KE) (x11:List Int) (x12:List KE) (x31:(Bool×Int×List SE×Int)) (x32:List EV):Bool→Option (Int×Int×Int×Int×List SE×Int×List EV×List SX×List Int)
| x33=>
 A0 x33 (
 (Ht x2 x3 x4 x31.2.1 x31.2.2.1 x31.2.2.2 x7 x8 x10 x11 x12 x32).bind fun x34=>
 G4 (x34.1,x34.2.1,x34.2.2.1,x31.2.1,x31.2.2.1,x31.2.2.2,x32,x34.2.2.2.1,x34.2.2.2.2)) (
 G4 (x2,x3,x4,x31.2.1,x31.2.2.1,x31.2.2.2,x32,x7,x8))
def So (x2 x3 x4:Int) (x7:List SX) (x8:List Int) (x10:List KE) (x11:List Int) (x12:List KE) (x37:Int) (x40:(Bool×Int×List SE×Int)):Bool→Option (Int×Int×Int×Int×List SE×Int×List EV×List SX×List Int)
| x41=>
 A0 x41 (
 (L9 4 x37 x2 x3 x4 x40.2.1 x40.2.2.1 x40.2.2.2 x7 x8 x10 x11 x12).bind fun x42=>
 (Ht x2 x3 x4 x40.2.1 x40.2.2.1 x40.2.2.2 x7 x8 x10 x11 x12 x42).bind fun x43=>
 G4 (x43.1,x43.2.1,x43.2.2.1,x40.2.1,x40.2.2.1,x40.2.2.2,x42,x43.2.2.2.1,x43.2.2.2.2)) (
 G4 (x2,x3,x4,x40.2.1,x40.2.2.1,x40.2.2.2,([]:List EV),x7,x8))
def WX (x2 x3:Int) (x4 x5 x6:Int) (x7:List SX) (x8:List Int) (x9:List SE) (x10:List KE) (x11:List Int) (x12:List KE):(Int×Int×BK)→Option (Int×Int×Int×Int×List SE×Int×List EV×List SX×List Int)
| (x37,x38,x39)=>
 (L4 x39 x38 x2 x3 x4 x5 x9 x6 x7 x8 x10 x11 x12).bind fun x40=>
 A0 x40.1 (
 (So x2 x3 x4 x7 x8 x10 x11 x12 x37 x40) (!decide (x37=0))) (
 (So x2 x3 x4 x7 x8 x10 x11 x12 x37 x40) false)
def NG (x1:Do) (x2:Int) (x3 x4:Int) (x5 x6:Int) (x7:List SX) (x8:List Int) (x9:List SE) (x10:List KE) (x11:List Int) (x12:List KE):Option (Int×Int×Int×Int×List SE×Int×List EV×List SX×List Int):=
 A0 (decide (x1.KI=0)) (
 (SP (BK.mk x5 x9) x1.ID x1.NE).bind fun x13=>
 (WW x1 x2 x3 x4 x5 x6 x7 x8 x9 x10 x11 x12) (x13.2,x13.1)) (
 A0 (decide (x1.KI=1)) (
 (SQ (BK.mk x5 x9) x1.ID).bind fun x25=>
 (L4 x25.1 x25.2 x2 x3 x4 x5 x9 x6 x7 x8 x10 x11 x12).bind fun x26=>
 A0 x26.1 (
 (L9 2 x1.ID x2 x3 x4 x26.2.1 x26.2.2.1 x26.2.2.2 x7 x8 x10 x11 x12).bind fun x27=>
 (Ht x2 x3 x4 x26.2.1 x26.2.2.1 x26.2.2.2 x7 x8 x10 x11 x12 x27).bind fun x28=>
 G4 (x28.1,x28.2.1,x28.2.2.1,x26.2.1,x26.2.2.1,x26.2.2.2,x27,x28.2.2.2.1,x28.2.2.2.2)) (
 G4 (x2,x3,x4,x26.2.1,x26.2.2.1,x26.2.2.2,([]:List EV),x7,x8))) (
 A0 (decide (x1.KI=2)) (
 (RU x2 x3 x4 x5 x7 x8 x9 x10 x11 x12).bind fun x29=>
 (SH (BK.mk x5 x9) x1.ID).bind fun x30=>
 (L4 x30.1 x30.2 x2 x3 x4 x5 x9 x6 x7 x8 x10 x11 x12).bind fun x31=>
 A0 x31.1 (
 (L9 3 x1.ID x2 x3 x4 x31.2.1 x31.2.2.1 x31.2.2.2 x7 x8 x10 x11 x12).bind fun x32=>
 A0 (decide (x29.1.ID=x1.ID)) (
 (Sn x2 x3 x4 x7 x8 x10 x11 x12 x31 x32) (decide (x4=1))) (
 (Sn x2 x3 x4 x7 x8 x10 x11 x12 x31 x32) false)) (
 G4 (x2,x3,x4,x31.2.1,x31.2.2.1,x31.2.2.2,([]:List EV),x7,x8))) (
 A0 (decide (x1.KI=3)) (
 (SV (BK.mk x5 x9) x1.Hold).bind fun x35=>
 (WX x2 x3 x4 x5 x6 x7 x8 x9 x10 x11 x12) (x35.2.1,x35.2.2,x35.1)) (
 G4 (x2,x3,x4,x5,x9,x6,([]:List EV),x7,x8)))))
theorem Z1D {x1 x2 x3 x4 x5 x6 x7 x8 x9 x10 x11 x12 r} (h:NG x1 x2 x3 x4 x5 x6 x7 x8 x9 x10 x11 x12=some r):FTx 90 [.ptr 0 0,.agg (Do.row x1)] [some ⟨173,[.iv x2,.iv x3,.osl 0,.iv x4,.osl 1,.iv x5,.osl 2,.osl 3,.osl 4,.osl 5,.nl,.nl,.iv x6]⟩] [Ac x7,A5 x8,AX x9,A9 x10,A5 x11,A9 x12] (.tup []) [some ⟨173,[.iv r.1,.iv r.2.1,.osl 8,.iv r.2.2.1,.osl 9,.iv r.2.2.2.1,Av r.2.2.2.2.1,.osl 3,.osl 4,.osl 5,.nl,.osl 6,.iv r.2.2.2.2.2.1]⟩] [none,none,none,A9 x10,A5 x11,A9 x12,Be r.2.2.2.2.2.2.1,none,Ac r.2.2.2.2.2.2.2.1,A5 r.2.2.2.2.2.2.2.2]:=by
 refine Ft kL fun w0 M0=>?_;have ok:=kL;rw [NG] at h;refine Vg 15 ?_;refine Vl [] (fun s=>([],[some ⟨173,[.iv s.1,.iv s.2.1,.osl 8,.iv s.2.2.1,.osl 9,.iv s.2.2.2.1,Av s.2.2.2.2.1,.osl 3,.osl 4,.osl 5,.nl,.osl 6,.iv s.2.2.2.2.2.1]⟩],[none,none,none,A9 x10,A5 x11,A9 x12,Be s.2.2.2.2.2.2.1,none,Ac s.2.2.2.2.2.2.2.1,A5 s.2.2.2.2.2.2.2.2])) G4 r ?_ fun J1=>?_
 ·rintro ⟨x44,x45,x46,x47,x48,x49,x50,x51,x52⟩ h;rw [G4] at h;exact W
 ·refine MI h (fun h=>?_) fun h=>?_
  ·refine Vg 1 ?_;refine Ae 2 (Ds ?_);refine Vl [0,1,2,1] (fun s=>([(4,.ptr 2 0),(5,.iv s.1)],[some ⟨173,[.iv x2,.iv x3,.osl 0,.iv x4,.osl 1,.iv x5,Av x9,.osl 3,.osl 4,.osl 5,.nl,.nl,.iv x6]⟩,some ⟨62,Do.row x1⟩,some ⟨45,[.iv s.2.LA,Av s.2.SE]⟩],[Ac x7,A5 x8,none,A9 x10,A5 x11,A9 x12])) (WW x1 x2 x3 x4 x5 x6 x7 x8 x9 x10 x11 x12) r ?_ fun J2=>?_
   ·rintro ⟨x15,x16⟩ h;rw [WW] at h;refine Vg 1 ?_;refine Vm [0,1,2,2] (fun s=>([(44,.bv s.1)],[(0,12,.iv s.2)],[],[])) (Sm x1 x2 x3 x4 x5 x7 x8 x9 x16) r ?_ fun J3=>?_
    ·rintro ⟨x21,x22⟩ h;rw [Sm] at h;refine MI h (fun h=>?_) fun h=>?_
     ·refine Vg 9 ?_;refine Ai fun all H=>Ds (GP H 16 7 [16,7] [(50,[.ptr 0 0,.ptr 0 0,.ptr 0 0,.ptr 0 11,.nl,.ptr 0 0,.ptr 0 0,.ptr 0 0,.ptr 0 0,.ptr 0 0,.ptr 0 0,.iv x2,.ptr 1 1,.iv x1.ID,.ptr 1 4,Ab x1.NE])] (Ds ?_));refine RB h vS fun _ _ h=>?_;refine GN H 1 5 (Ds ?_);refine An (R1 ?_);refine A6 19 rfl ?_;have ⟨x24,ex24,h⟩:=Bs h;refine Uu EV.row ex24 H.1 rfl trivial rfl rfl ?_;refine Gn H 2 1 ?_;refine R1 ?_;refine GD (A7 7 6 (Ds ?_));refine As 66 8 (Ds ?_);refine A7 0 8 (Ds ?_);refine As 3 1 (Ds ?_);refine A7 1 9 ?_;exact W
     ·refine Vg 1 ?_;refine AE 0 11 97 5 (Ds ?_);refine As 66 8 (Ds ?_);refine As 66 8 (Ds ?_);refine A7 0 8 (Ds ?_);refine As 3 1 (Ds ?_);refine A7 1 9 ?_;exact W
    ·refine Ai fun all H=>Ds (GP H 4 13 [4,13] [(28,[.ptr 0 0,.iv x15,.bv (decide (x15=0)),.iv x15])] (Ds ?_));refine RF [0] [0,1,3,4,5] 3 6 h er fun _ _ h=>?_;refine GN H 1 11 (Ds ?_);refine An (BJ 33 h rfl (fun _ h=>?_) fun _ h=>?_)
     ·refine Ds (GP H 6 5 [12,5] [(34,[.ptr 0 0,.ptr 1 4,Ab x1.NE,.ptr 0 0,.ptr 0 0,.ptr 0 0])] (Ds ?_));refine R1 ?_;refine RR [] [0,1,3,4,5] 3 6 h Z1o fun _ _ h=>?_;refine RQ (LR.slice 6 rfl) h bh fun _ _ h=>?_;refine RF [0] [0,1,3,4,5] 3 7 h er fun _ _ h=>?_;refine Gn H 1 0 ?_;refine GD ?_;exact W
     ·refine Ds (GP H 11 0 [17] [(34,ux 10 [.ff])] (Ds ?_));refine GD ?_;exact W
   ·have ⟨x13,ex13,h⟩:=Bs h;have q0:=vG ex13;refine Ai fun all H=>Gs ?_;exact W
  ·refine Vg 5 ?_;refine MI h (fun h=>?_) fun h=>?_
   ·refine Vg 1 ?_;refine Ae 2 (Ds ?_);refine Ai fun all H=>Ds (GP H 8 4 [8,4] [(74,[.ptr 0 0,.ptr 0 0,.ptr 0 0,.ptr 0 0,.ptr 0 5,.agg [.iv x5,Av x9],.ptr 1 1,.iv x1.ID])] (Ds ?_));refine RB h vI fun _ _ h=>?_;refine GN H 2 1 (Ds ?_);refine An (RF [0] [0,1,3,4,5] 2 6 h ee fun _ _ h=>?_);refine GD (MI h (fun h=>?_) fun h=>?_)
    ·refine Vg 5 ?_;refine VR [0] [0,1,3,4,5] 2 6 h et fun _ _ h=>?_;refine Vg 3 ?_;refine VR [0] [0,1,3,4,5,7] 2 8 h Zj fun _ _ h=>?_;refine Vg 1 ?_;refine A7 7 6 ?_;exact W
    ·refine Vg 1 ?_;refine AE 0 11 97 5 (Ds ?_);refine As 66 8 (Ds ?_);refine As 66 8 (Ds ?_);refine A7 0 8 (Ds ?_);refine As 3 1 (Ds ?_);refine A7 1 9 ?_;exact W
   ·refine Vg 5 ?_;refine MI h (fun h=>?_) fun h=>?_
    ·refine Vg 6 ?_;refine VR [] [0,1,2,3,4,5] 2 6 h Z1q fun _ _ h=>?_;refine Vg 8 ?_;refine Ae 2 (Ds ?_);refine Ai fun all H=>Ds (GP H 8 4 [8,4] [(102,[.ptr 0 0,.ptr 0 0,.ptr 0 0,.ptr 0 0,.ptr 0 5,.agg [.iv x5,Av x9],.ptr 1 1,.iv x1.ID])] (Ds ?_));refine RB h vE fun _ _ h=>?_;refine Gn H 2 1 ?_;refine RF [0] [0,1,3,4,5] 3 6 h ee fun x31 _ h=>?_;refine GD (MI h (fun h=>?_) fun h=>?_)
     ·refine Vg 5 ?_;refine VR [0] [0,1,3,4,5] 3 6 h et fun x32 _ h=>?_;refine Vg 9 ?_;refine Vl [0,1] (fun x33=>([(131,.bv x33)],[some ⟨173,[.iv x2,.iv x3,.osl 0,.iv x4,.osl 1,.iv x31.2.1,Av x31.2.2.1,.osl 3,.osl 4,.osl 5,.nl,.osl 7,.iv x31.2.2.2]⟩],[Ac x7,A5 x8,none,A9 x10,A5 x11,A9 x12,none,Be x32])) (Sn x2 x3 x4 x7 x8 x10 x11 x12 x31 x32) r ?_ fun J4=>?_
      ·intro x33 h;rw [Sn] at h;refine MI h (fun h=>?_) fun h=>?_
       ·refine Vg 2 ?_;refine VR [0] [0,1,3,4,5,7] 1 8 h Zj fun _ _ h=>?_;refine Vg 1 ?_;refine A7 7 6 ?_;exact W
       ·refine Vg 1 ?_;refine A7 7 6 (Ds ?_);refine As 66 8 (Ds ?_);refine A7 0 8 (Ds ?_);refine As 3 1 (Ds ?_);refine A7 1 9 ?_;exact W
      ·exact W
     ·refine Vg 1 ?_;refine AE 0 11 97 5 (Ds ?_);refine As 66 8 (Ds ?_);refine As 66 8 (Ds ?_);refine A7 0 8 (Ds ?_);refine As 3 1 (Ds ?_);refine A7 1 9 ?_;exact W
    ·refine Vg 5 ?_;refine MI h (fun h=>?_) fun h=>?_
     ·refine Vg 1 ?_;refine Ae 2 (Ds ?_);refine Vl [0,1] (fun s=>([(8,.ptr 2 0),(9,.iv s.1),(10,.iv s.2.1)],[some ⟨173,[.iv x2,.iv x3,.osl 0,.iv x4,.osl 1,.iv x5,Av x9,.osl 3,.osl 4,.osl 5,.nl,.nl,.iv x6]⟩,none,some ⟨45,[.iv s.2.2.LA,Av s.2.2.SE]⟩],[Ac x7,A5 x8,none,A9 x10,A5 x11,A9 x12])) (WX x2 x3 x4 x5 x6 x7 x8 x9 x10 x11 x12) r ?_ fun J5=>?_
      ·rintro ⟨x37,x38,x39⟩ h;rw [WX] at h;refine Vg 5 ?_;refine VR [0] [0,1,3,4,5] 3 6 h ee fun x40 _ h=>?_;refine Vg 1 ?_;refine Vl [0,1,8,1] (fun x41=>([(155,.bv x41)],[some ⟨173,[.iv x2,.iv x3,.osl 0,.iv x4,.osl 1,.iv x40.2.1,Av x40.2.2.1,.osl 3,.osl 4,.osl 5,.nl,.nl,.iv x40.2.2.2]⟩],[Ac x7,A5 x8,none,A9 x10,A5 x11,A9 x12])) (So x2 x3 x4 x7 x8 x10 x11 x12 x37 x40) r ?_ fun J6=>?_
       ·intro x41 h;rw [So] at h;refine MI h (fun h=>?_) fun h=>?_
        ·refine Vg 4 ?_;refine VR [0] [0,1,3,4,5] 1 6 h et fun _ _ h=>?_;refine Vg 3 ?_;refine VR [0] [0,1,3,4,5,7] 1 8 h Zj fun _ _ h=>?_;refine Vg 1 ?_;refine A7 7 6 ?_;exact W
        ·refine Vg 1 ?_;refine AE 0 11 97 5 (Ds ?_);refine As 66 8 (Ds ?_);refine As 66 8 (Ds ?_);refine A7 0 8 (Ds ?_);refine As 3 1 (Ds ?_);refine A7 1 9 ?_;exact W
       ·exact W
      ·have ⟨x35,ex35,h⟩:=Bs h;have q0:=vL ex35;refine Ai fun all H=>Gs ?_;exact W
     ·refine Vg 1 ?_;refine Ae 2 (Ds ?_);refine AE 0 11 97 5 (Ds ?_);refine As 66 8 (Ds ?_);refine As 66 8 (Ds ?_);refine A7 0 8 (Ds ?_);refine As 3 1 (Ds ?_);refine A7 1 9 ?_;exact W
def WZ (x18:(BK×List Int×Int)) (x23:Int) (x24 x25:Int) (x26:List SX) (x27:List Int):List EV→Option (Int×Int×Int×Int×List SE×List EV×List SX×List Int)
| x53=>some (x23,x24,x25,x18.1.LA,x18.1.SE,x53,x26,x27)
def X1 (x6:Int) (x10:List KE) (x11:List Int) (x12:List KE) (x18:(BK×List Int×Int)) (x23:Int) (x24 x25:Int) (x26:List SX) (x27:List Int):(Int×List EV)→Option ((Int×List EV) ⊕ (Int×Int×Int×Int×List SE×List EV×List SX×List Int))
| (x32,x33)=>
 A0 (decide (x32<(ln Ad x18.2.1))) (
 (A4 x18.2.1 x32).bind fun x34=>
 (WV 5 x34 x23 x24 x25 x18.1.LA x18.1.SE x6 x26 x27 x10 x11 x12 x33).bind fun x35=>
 some (.inl (wr (x32+1),x35))) (
 Option.map Sum.inr ((WZ x18 x23 x24 x25 x26 x27) x33))
def NH (x6:Int) (x10:List KE) (x11:List Int) (x12:List KE) (x17:List EV) (x18:(BK×List Int×Int)):(Int×Int×Int×List SX×List Int)→Option (Int×Int×Int×Int×List SE×List EV×List SX×List Int)
| (x23,x24,x25,x26,x27)=>loop (X1 x6 x10 x11 x12 x18 x23 x24 x25 x26 x27) (0,x17)
def Lb (x2 x3:Int) (x4 x5 x6:Int) (x8:List Int) (x9:List SE) (x10:List KE) (x11:List Int) (x12:List KE) (x16:List SX) (x17:List EV) (x18:(BK×List Int×Int)):Bool→Option (Int×Int×Int×Int×List SE×List EV×List SX×List Int)
| x21=>
 A0 x21 (
 (Ht x2 x3 x4 x5 x9 x6 x16 x8 x10 x11 x12 x17).bind fun x22=>
 (NH x6 x10 x11 x12 x17 x18) (x22.1,x22.2.1,x22.2.2.1,x22.2.2.2.1,x22.2.2.2.2)) (
 (NH x6 x10 x11 x12 x17 x18) (x2,x3,x4,x16,x8))
def WY (x1 x2:Int) (x3 x4:Int) (x5 x6:Int) (x8:List Int) (x9:List SE) (x10:List KE) (x11:List Int) (x12:List KE):List SX→Option (Int×Int×Int×Int×List SE×List EV×List SX×List Int)
| x16=>
 (JO 7 x1 x2 x3 x4 x5 x6 x16 x8 x9 x10 x11 x12).bind fun x17=>
 (SJ (BK.mk x5 x9) x1).bind fun x18=>
 (RW x2 x3 x4 x5 x9 x16 x8 x10 x11 x12).bind fun x19=>
 A0 x19.2 (
 A0 (decide (x4=1)) (
 (Ln x18.2.1 x19.1.ID).bind fun x20=>
 (Lb x2 x3 x4 x5 x6 x8 x9 x10 x11 x12 x16 x17 x18) x20) (
 (Lb x2 x3 x4 x5 x6 x8 x9 x10 x11 x12 x16 x17 x18) false)) (
 (Lb x2 x3 x4 x5 x6 x8 x9 x10 x11 x12 x16 x17 x18) false)
def La (x1 x2:Int) (x3 x4:Int) (x5 x6:Int) (x7:List SX) (x8:List Int) (x9:List SE) (x10:List KE) (x11:List Int) (x12:List KE):Option (Int×Int×Int×Int×List SE×List EV×List SX×List Int):=
 (L8 (node_node.mk (NO.mk (DK.mk (DI.mk x2 x3 x7) x4 x8) (BK.mk x5 x9) x10 x11 x12) (([]:List ML)) (([]:List EV)) x6) x1).bind fun x13=>
 (A4 x7 x13).bind fun x15=>
 (WY x1 x2 x3 x4 x5 x6 x8 x9 x10 x11 x12) (x7.set (Int.toNat (x13)) (SX.mk x15.PE x15.EP 2 x15.FK x15.DY x15.TO x15.BO x15.Ask))
theorem nW {x1 x2 x3 x4 x5 x6 x7 x8 x9 x10 x11 x12 r} (h:La x1 x2 x3 x4 x5 x6 x7 x8 x9 x10 x11 x12=some r):FTx 94 [.ptr 0 0,.iv x1] [some ⟨173,[.iv x2,.iv x3,.osl 0,.iv x4,.osl 1,.iv x5,.osl 2,.osl 3,.osl 4,.osl 5,.nl,.nl,.iv x6]⟩] [Ac x7,A5 x8,AX x9,A9 x10,A5 x11,A9 x12] (.tup []) [some ⟨173,[.iv r.1,.iv r.2.1,.osl 8,.iv r.2.2.1,.osl 9,.iv r.2.2.2.1,Av r.2.2.2.2.1,.osl 3,.osl 4,.osl 5,.nl,.osl 7,.iv x6]⟩] [none,none,none,A9 x10,A5 x11,A9 x12,none,Be r.2.2.2.2.2.1,Ac r.2.2.2.2.2.2.1,A5 r.2.2.2.2.2.2.2]:=by
 refine Ft kM fun w0 M0=>?_;have ok:=kM;rw [La] at h;refine Vg 1 ?_;refine Vm [0,2] (fun x16=>([],[],[],[(0,Ac x16)])) (WY x1 x2 x3 x4 x5 x6 x8 x9 x10 x11 x12) r ?_ fun J1=>?_
 ·intro x16 h;rw [WY] at h;refine Vg 4 ?_;have ⟨x17,ex17,h⟩:=Bs h;refine IZ [true] [true,true,true,true,true,true] trivial (en ex17) (h:=?_);refine Vg 9 ?_;refine Ae 2 (Ds ?_);refine VB h vF fun x18 _ h=>?_;refine Vg 16 ?_;refine VR [] [0,1,3,4,5] 2 8 h Z1r fun _ _ h=>?_;refine Vg 11 ?_;refine Vl [0,1,3,2] (fun x21=>([(60,.bv x21)],[some ⟨173,[.iv x2,.iv x3,.osl 0,.iv x4,.osl 1,.iv x5,Av x9,.osl 3,.osl 4,.osl 5,.nl,.osl 7,.iv x6]⟩,some ⟨45,BK.row x18.1⟩],[Ac x16,A5 x8,none,A9 x10,A5 x11,A9 x12,none,Be x17])) (Lb x2 x3 x4 x5 x6 x8 x9 x10 x11 x12 x16 x17 x18) r ?_ fun J2=>?_
  ·intro x21 h;rw [Lb] at h;refine Vl [0,1,3,2] (fun s=>([],[some ⟨173,[.iv s.1,.iv s.2.1,.osl 8,.iv s.2.2.1,.osl 9,.iv x5,Av x9,.osl 3,.osl 4,.osl 5,.nl,.osl 7,.iv x6]⟩,some ⟨45,BK.row x18.1⟩],[none,none,none,A9 x10,A5 x11,A9 x12,none,Be x17,Ac s.2.2.2.1,A5 s.2.2.2.2])) (NH x6 x10 x11 x12 x17 x18) r ?_ fun J3=>?_
   ·rintro ⟨x23,x24,x25,x26,x27⟩ h;rw [NH] at h;refine Vg 15 ?_;refine Vl [] (fun x53=>([],[some ⟨173,[.iv x23,.iv x24,.osl 8,.iv x25,.osl 9,.iv x18.1.LA,Av x18.1.SE,.osl 3,.osl 4,.osl 5,.nl,.osl 7,.iv x6]⟩],[none,none,none,A9 x10,A5 x11,A9 x12,none,Be x53,Ac x26,A5 x27])) (WZ x18 x23 x24 x25 x26 x27) r ?_ fun J4=>?_
    ·intro x53 h;rw [WZ] at h;exact W
    ·refine Vg 1 ?_;refine Ml h [0,1,67,2] (fun s=>([(70,.iv s.1)],[some ⟨173,[.iv x23,.iv x24,.osl 8,.iv x25,.osl 9,.iv x18.1.LA,Av x18.1.SE,.osl 3,.osl 4,.osl 5,.nl,.osl 7,.iv x6]⟩],[none,none,none,A9 x10,A5 x11,A9 x12,none,Be s.2,Ac x26,A5 x27])) ?_;rintro n1 ⟨x32,x33⟩ y1 h hin1 hout1;rw [X1] at h;refine Vg 5 ?_;refine MI h (fun h=>?_) fun h=>W;refine Vg 5 ?_;have ⟨x34,ex34,h⟩:=Bs h;refine AZ Ad ex34 trivial rfl rfl rfl (Vg 6 ?_);refine VR [0] [8,9,3,4,5,7] 1 10 h Z1B fun _ _ h=>?_;refine Vg 6 ?_;refine A7 11 7 ?_;exact W
   ·refine MI h (fun h=>?_) fun h=>?_
    ·refine Vg 2 ?_;refine VR [0] [0,1,3,4,5,7] 2 8 h Zj fun _ _ h=>?_;exact W
    ·refine Vg 1 ?_;refine As 66 8 (Ds ?_);refine A7 0 8 (Ds ?_);refine As 3 1 (Ds ?_);refine A7 1 9 ?_;exact W
  ·refine MC 46 h (fun h=>?_) fun h=>W;refine Vg 9 ?_;refine MC 55 h (fun h=>?_) fun h=>W;refine Vg 3 ?_;refine VB h bl fun _ _ h=>?_;exact W
 ·refine Ai fun all H=>Ds (GP H 8 5 [6,1,2,4] [(11,[.ptr 0 0,.ptr 0 0,.ptr 0 0,.ptr 0 0,.ptr 0 0,.ptr 0 2]),(1,[.ptr 0 0,.iv x1])] (Ds ?_));have ⟨x13,ex13,h⟩:=Bs h;refine Ag 6 9 rfl ?_ ?_
  ·refine RV ?_;refine A6 9 rfl (GK H.1 (((((((LR.slice 0 rfl).slice 1 rfl).slice 2 rfl).slice 3 rfl).slice 4 rfl).slice 5 rfl).block 0 rfl rfl) (Vd ex13) (Ds ?_));have ⟨x15,ex15,h⟩:=Bs h;refine RO ?_;refine RI ?_;refine Gn H 1 1 ?_;refine Bd [.iv 2] (SX.mk x15.PE x15.EP 2 x15.FK x15.DY x15.TO x15.BO x15.Ask) ?_;refine GD ?_;exact W
  ·refine GK H.1 (((((((LR.slice 0 rfl).slice 1 rfl).slice 2 rfl).slice 3 rfl).slice 4 rfl).slice 5 rfl).block 0 rfl rfl) (Vd ex13) (Ds ?_);refine R1 ?_;have ⟨x15,ex15,h⟩:=Bs h;refine RO ?_;refine RI ?_;refine Gn H 1 1 ?_;refine Bd [.iv 2] (SX.mk x15.PE x15.EP 2 x15.FK x15.DY x15.TO x15.BO x15.Ask) ?_;refine GD ?_;exact W
@[go_sem] def rI:EC:=eQ Tryz.f157
theorem kf:FnOK Tryz.prog 157 Tryz.f157 rI [] 1 148:=B6
def VM (x7:(List SX×List Int)) (x23:(Int×Int×Int×List SX×List ML)):Unit→Option ((Int×Int×Int×List SX×List ML) ⊕ (Int×Int×Int×Int×List SX×List Int×List ML))
| ()=>Option.map Sum.inr (some (x23.1,x23.2.1,x23.2.2.1,0,x23.2.2.2.1,x7.2,x23.2.2.2.2))
def VK (x7:(List SX×List Int)) (x23:(Int×Int×Int×List SX×List ML)):Bool→Option ((Int×Int×Int×List SX×List ML) ⊕ (Int×Int×Int×Int×List SX×List Int×List ML))
| x25=>
 A0 x25 (
 (VM x7 x23) ()) (
 some (.inl (x23.1,x23.2.1,x23.2.2.1,x23.2.2.2.1,x23.2.2.2.2)))
def QQ (x7:(List SX×List Int)):(Int×Int×Int×List SX×List ML)→Option ((Int×Int×Int×List SX×List ML) ⊕ (Int×Int×Int×Int×List SX×List Int×List ML))
| (x17,x18,x19,x20,x21)=>
 (Jw x17 x18 x19 x20 x7.2).bind fun x22=>
 (QV x17 x18 x19 x20 x7.2 x21).bind fun x23=>
 (N6 (DK.mk (DI.mk x17 x18 x22.1) x19 x22.2) (DK.mk (DI.mk x23.1 x23.2.1 x23.2.2.2.1) x23.2.2.1 x7.2)).bind fun x24=>
 (VK x7 x23) x24
def N5 (x1 x2 x3:Int) (x4:List SX) (x5:List Int):Option (Int×Int×Int×Int×List SX×List Int×List ML):=
 (Js (DK.mk (DI.mk x1 x2 x4) x3 x5)).bind fun x6=>
 A0 (!decide (x6=0)) (
 some (0,0,0,x6,([]:List SX),([]:List Int),([]:List ML))) (
 (Jw x1 x2 x3 x4 x5).bind fun x7=>
 loop (QQ x7) (x1,x2,x3,x7.1,([]:List ML)))
theorem Z1k {x1 x2 x3 x4 x5 r} (h:N5 x1 x2 x3 x4 x5=some r):FTx 213 [.agg [.iv x1,.iv x2,.osl 0,.iv x3,.osl 1]] [] [Ac x4,A5 x5] (.tup [.agg [.iv r.1,.iv r.2.1,.osl 2,.iv r.2.2.1,.osl 3],.osl 4,.iv r.2.2.2.1]) [] [Ac x4,A5 x5,Ac r.2.2.2.2.1,A5 r.2.2.2.2.2.1,Az r.2.2.2.2.2.2]:=by
 refine Ft ky fun w0 M0=>?_;have ok:=ky;rw [N5] at h;refine Vg 11 ?_;refine VN ((LR.slice 0 rfl).slice 1 rfl) h V9 fun _ _ h=>?_;refine Vg 7 ?_;refine MI h (fun h=>?_) fun h=>?_
 ·refine Vg 8 ?_;refine AE 1 2 66 8 (Ds ?_);refine AE 1 4 3 1 (Ds ?_);refine CV 3 113 5 rfl rfl ?_;exact W
 ·refine Vg 4 ?_;refine VR [] [0,1] 2 2 h Zh fun x7 _ h=>?_;refine Vg 5 ?_;refine AE 2 5 113 5 (Ds ?_);refine Mm h [2,1,3,1] (fun s=>([],[(2,0,.iv s.1),(2,1,.iv s.2.1),(2,3,.iv s.2.2.1)],[(0,none)],[(2,Ac s.2.2.2.1),(4,Az s.2.2.2.2)])) ?_;rintro n1 ⟨x17,x18,x19,x20,x21⟩ y1 h hin1 hout1;rw [QQ] at h;refine Vg 7 ?_;refine VR [] [2,3] 3 5 h Zh fun _ _ h=>?_;refine Vg 6 ?_;refine VR [2] [2,3,4] 4 7 h Z1m fun x23 _ h=>?_;refine Vg 2 ?_;refine Vl [2,1,3,1] (fun x25=>([(30,.bv x25)],[none,some ⟨42,[.iv 0,.iv 0,.nl,.iv 0,.nl]⟩,some ⟨299,[.iv x23.1,.iv x23.2.1,.osl 7,.iv x23.2.2.1,.osl 3,.osl 11]⟩],[Ac x4,A5 x5,none,A5 x7.2,none,none,none,Ac x23.2.2.2.1,none,none,none,Az x23.2.2.2.2])) (VK x7 x23) y1 ?_ fun J1=>?_
  ·intro x25 h;rw [VK] at h;refine MI h (fun h=>?_) fun h=>?_
   ·refine Vg 1 ?_;refine Vl [2,1] (fun _=>([(3,.osl 11),(4,.iv 0)],[none,some ⟨42,[.iv x23.1,.iv x23.2.1,.osl 7,.iv x23.2.2.1,.osl 3]⟩],[Ac x4,A5 x5,none,A5 x7.2,none,none,none,Ac x23.2.2.2.1,none,none,none,Az x23.2.2.2.2])) (VM x7 x23) y1 ?_ fun J2=>?_
    ·rintro ⟨⟩ h;rw [VM] at h;refine A7 7 2 (A7 11 4 ?_);exact W
    ·refine Ai fun all H=>Gs ?_;exact W
   ·refine Vg 2 ?_;refine A7 7 2 (A7 11 4 ?_);exact W
  ·refine Ai fun all H=>?_;refine Gn H 3 3 ?_;refine Ag 0 4 rfl ?_ ?_
   ·refine RV ?_;refine R1 ?_;refine RQ ((((LR.slice 3 rfl).slice 5 rfl).slice 6 rfl).slice 7 rfl) h aU fun x24 ex24 h=>?_;refine GD ?_;exact W
   ·refine RV ?_;refine R1 ?_;refine RQ ((((LR.slice 3 rfl).slice 5 rfl).slice 6 rfl).slice 7 rfl) h aU fun _ _ h=>?_;refine GD ?_;exact W
def KZ:Bool→Option Int
| x6=>
 A0 x6 (
 some 180) (
 some 0)
def Il (x1:NO):Option Int:=
 (Js x1.DK).bind fun x2=>
 A0 (!decide (x2=0)) (
 KZ true) (
 (Hv x1.BK).bind fun x3=>
 A0 (!decide (x3=0)) (
 KZ true) (
 (RJ x1).bind fun x4=>
 A0 (!x4) (
 KZ true) (
 (Su x1).bind fun x5=>
 KZ (!x5))))
theorem Mo {x1 r} (h:Il x1=some r):FPx 55 [.agg (NO.row x1)] (.iv r):=by
 have ok:=oJ 55 Tryz.f55 [.t 2] 1 22;refine FP ok fun w0 H0=>?_;rw [Il] at h;refine Vg 10 ?_;refine VB h V9 fun _ _ h=>?_;refine Vg 2 ?_;refine Vl [] (fun x6=>([(22,.bv x6)],[],[])) KZ r ?_ fun J1=>?_
 ·intro x6 h;rw [KZ] at h;exact W
 ·refine MC 7 h (fun h=>W) fun h=>?_;refine Vg 2 ?_;refine VB h Mr fun _ _ h=>?_;refine Vg 3 ?_;refine MC 13 h (fun h=>W) fun h=>?_;refine Vg 1 ?_;refine VB h vq fun _ _ h=>?_;refine Vg 3 ?_;refine MC 18 h (fun h=>W) fun h=>?_;refine Vg 1 ?_;refine VB h vy fun _ _ h=>?_;exact W
def Sq (x22:(Bool×Int)):(Int×Int×Int×List SX×List Int)→Option (Int×Int×Int×Int×List SX×List Int)
| (x23,x24,x25,x26,x27)=>some (x23,x24,x25,x22.2,x26,x27)
def X3 (x3 x4:Int) (x5 x6 x7:Int) (x8:List SX) (x9:List Int) (x10:List SE) (x11:List KE) (x12:List Int) (x13:List KE):(Int×Int×Int×Int×List SX×List Int)→Option (Int×Int×Int×Int×List SX×List Int)
| (x16,x17,x18,x19,x20,x21)=>
 (DU (decide (x16=0)) 187 x3 x4 x5 x6 x7 x8 x9 x10 x11 x12 x13).bind fun x22=>
 A0 x22.1 (
 (Sq x22) (x17,x18,x19,x20,x21)) (
 (Sq x22) (x3,x4,x5,x8,x9))
def X2 (x1:Int) (x2:Msg) (x3 x4:Int) (x5 x6 x7:Int) (x8:List SX) (x9:List Int) (x10:List SE) (x11:List KE) (x12:List Int) (x13:List KE):Option (Int×Int×Int×Int×List SX×List Int):=
 (QT x3 x4 x5 x1 x2 x8 x9).bind fun x14=>
 (X3 x3 x4 x5 x6 x7 x8 x9 x10 x11 x12 x13) (x14.2.2.2.1,x14.1,x14.2.1,x14.2.2.1,x14.2.2.2.2.1,x14.2.2.2.2.2)
theorem Z1F {x1 x2 x3 x4 x5 x6 x7 x8 x9 x10 x11 x12 x13 r} (h:X2 x1 x2 x3 x4 x5 x6 x7 x8 x9 x10 x11 x12 x13=some r):FTx 137 [.ptr 0 0,.iv x1,.agg (Msg.row x2)] [some ⟨173,[.iv x3,.iv x4,.osl 0,.iv x5,.osl 1,.iv x6,.osl 2,.osl 3,.osl 4,.osl 5,.nl,.nl,.iv x7]⟩] [Ac x8,A5 x9,AX x10,A9 x11,A5 x12,A9 x13] (.tup []) [some ⟨173,[.iv r.1,.iv r.2.1,.osl 6,.iv r.2.2.1,.osl 7,.iv x6,.osl 2,.osl 3,.osl 4,.osl 5,.nl,.nl,.iv r.2.2.2.1]⟩] [none,none,AX x10,A9 x11,A5 x12,A9 x13,Ac r.2.2.2.2.1,A5 r.2.2.2.2.2]:=by
 refine Ft kc fun w0 M0=>?_;have ok:=kc;rw [X2] at h;refine Vg 5 ?_;refine Vl [0,1] (fun s=>([(6,.ptr 2 0),(7,.iv s.1)],[some ⟨173,[.iv x3,.iv x4,.osl 0,.iv x5,.osl 1,.iv x6,.osl 2,.osl 3,.osl 4,.osl 5,.nl,.nl,.iv x7]⟩,none,some ⟨42,[.iv s.2.1,.iv s.2.2.1,.osl 6,.iv s.2.2.2.1,.osl 7]⟩],[Ac x8,A5 x9,AX x10,A9 x11,A5 x12,A9 x13,Ac s.2.2.2.2.1,A5 s.2.2.2.2.2])) (X3 x3 x4 x5 x6 x7 x8 x9 x10 x11 x12 x13) r ?_ fun J1=>?_
 ·rintro ⟨x16,x17,x18,x19,x20,x21⟩ h;rw [X3] at h;refine Vg 5 ?_;refine VR [0] [0,1,2,3,4,5] 3 8 h CH fun x22 _ h=>?_;refine Vg 1 ?_;refine Vl [] (fun s=>([],[some ⟨173,[.iv s.1,.iv s.2.1,.osl 6,.iv s.2.2.1,.osl 7,.iv x6,.osl 2,.osl 3,.osl 4,.osl 5,.nl,.nl,.iv x22.2]⟩],[none,none,AX x10,A9 x11,A5 x12,A9 x13,Ac s.2.2.2.1,A5 s.2.2.2.2])) (Sq x22) r ?_ fun J2=>?_
  ·rintro ⟨x23,x24,x25,x26,x27⟩ h;rw [Sq] at h;exact W
  ·refine MI h (fun h=>W) fun h=>?_;refine Vg 1 ?_;refine A7 0 6 (A7 1 7 ?_);exact W
 ·refine Ai fun all H=>Ds (GP H 6 8 [4,1,2,7] [(9,[.ptr 0 0,.ptr 0 0,.ptr 0 0,.ptr 0 0]),(1,[.iv x1,.agg (Msg.row x2)])] (Ds ?_));refine Ag 4 11 rfl ?_ ?_
  ·refine RV ?_;have ⟨x14,ex14,h⟩:=Bs h;refine Ag 7 11 rfl ?_ ?_
   ·refine Gi H.1 [] [0,1] 2 6 (ed ex14) ?_;refine Gn H 3 3 ?_;refine R1 ?_;refine R1 ?_;refine Gn H 1 0 ?_;refine GD ?_;exact W
   ·refine RV ?_;refine A6 7 rfl (Gi H.1 [] [0,1] 3 6 (ed ex14) ?_);refine Gn H 3 2 ?_;refine R1 ?_;refine Gn H 1 0 ?_;refine GD ?_;exact W
  ·refine RV ?_;refine R1 ?_;refine RR [] [0,1] 3 6 h ed fun _ _ h=>?_;refine Gn H 3 2 ?_;refine R1 ?_;refine GN H 1 0 (Ds ?_);refine An (GD ?_);exact W
@[go_sem] def sI:EC:=eQ Tryz.f95
theorem kN:FnOK Tryz.prog 95 Tryz.f95 sI [.c 2 (some 10),.t 3,.t 4,.t 5] 1 41:=B6
end
end NX
end Go.Proofs.YtjemlejoladlcaaGreat
