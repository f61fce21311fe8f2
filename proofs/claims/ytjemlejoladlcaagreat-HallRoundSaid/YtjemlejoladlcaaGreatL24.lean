/-
  The function (*narthex/node.node).put, lent own memory. Written by a program of ours (lb.py). No statement of the seat is proved here.
-/
import Derived.Test.YtjemlejoladlcaaGreatL23
set_option maxRecDepth 100000
set_option maxHeartbeats 40000000
namespace Go.Proofs.YtjemlejoladlcaaGreat
namespace NX
open Go
noncomputable section
def NF (x1:SX) (x2:Int) (x3 x4:Int) (x5 x6:Int) (x7:List SX) (x8:List Int) (x9:List SE) (x10:List KE) (x11:List Int) (x12:List KE):Option (List SX×List KE):=
 (Lj x7 x1.PE ((fun z=>Is z.1 z.2))).bind fun x13=>
 (TG x7 x13.1 ([x1])).bind fun x14=>
 (WP x1.PE x1.EP x2 x3 x4 x5 x6 x14 x8 x9 x10 x11 x12).bind fun x15=>
 some (x14,x15)
theorem Z1z {x1 x2 x3 x4 x5 x6 x7 x8 x9 x10 x11 x12 r} (h:NF x1 x2 x3 x4 x5 x6 x7 x8 x9 x10 x11 x12=some r):FTx 92 [.ptr 0 0,.agg (SX.row x1)] [some ⟨173,[.iv x2,.iv x3,.osl 0,.iv x4,.osl 1,.iv x5,.osl 2,.osl 3,.osl 4,.osl 5,.nl,.nl,.iv x6]⟩] [Ac x7,A5 x8,AX x9,A9 x10,A5 x11,A9 x12] (.tup []) [some ⟨173,[.iv x2,.iv x3,.osl 7,.iv x4,.osl 1,.iv x5,.osl 2,.osl 9,.osl 4,.osl 5,.nl,.nl,.iv x6]⟩] [none,A5 x8,AX x9,none,A5 x11,A9 x12,none,Ac r.1,none,A9 r.2]:=by
 refine Ft Yy fun w0 M0=>?_;have ok:=Yy;rw [NF] at h;refine Vg 5 ?_;refine Ai fun all H=>Ds (GP H 8 7 [6,1,2,6] [(7,[.ptr 0 0,.ptr 0 0,.ptr 0 0,.ptr 0 0,.ptr 0 0,.ptr 0 2]),(1,[.ptr 1 0,.iv x1.PE])] (Ds ?_));refine R1 ?_;refine RQ (LR.slice 0 rfl) h (fun e=>iP e ⟨by kernel_rfl,rfl,fun z r hz=>iI hz⟩) fun x13 _ h=>?_;refine GP H 5 0 [15] [(4,[.iv x13.1,.bv x13.2,.tup [.iv x13.1,.bv x13.2]]),(10,[.iv x13.1,.bv x13.2])] (Ds ?_);refine GD (Vg 1 ?_);refine Ai fun all H=>Ds (GP H 9 9 [7,1,2,8] [(19,[.ptr 0 0,.ptr 0 0,.ptr 0 0,.ptr 0 0,.ptr 0 0,.ptr 0 0,.ptr 0 2]),(1,[.iv x13.1,.agg (SX.row x1)])] (Ds ?_));refine Ag 7 10 rfl ?_ ?_
 ·refine RV ?_;refine R1 ?_;refine RR [] [0,6] 2 7 h Zk fun x14 ex14 h=>?_;refine GP H 5 1 [17,1] [(31,[.ptr 0 0,.ptr 0 0,.ptr 0 0,.ptr 0 0,.ptr 0 2])] (Ds ?_);refine GE H.1 17 (Ds ?_);refine GD (Vg 6 ?_);refine VR [0] [7,1,2,3,4,5] 2 8 h nT fun x15 ex15 h=>?_;exact W
 ·refine RV ?_;refine R1 ?_;refine RR [] [0,6] 2 7 h Zk fun _ _ h=>?_;refine GP H 5 1 [17,1] [(31,[.ptr 0 0,.ptr 0 0,.ptr 0 0,.ptr 0 0,.ptr 0 2])] (Ds ?_);refine GE H.1 17 (Ds ?_);refine GD (Vg 6 ?_);refine VR [0] [7,1,2,3,4,5] 2 8 h nT fun _ _ h=>?_;exact W
def Xw:(Int×List SE×List Int)→Option (List Int×List SE)
| (x31,x32,x33)=>
 (DE (ln SE.row x32) x31 (ln SE.row x32)).bind fun _=>
 (H9 x32 (Int.toNat (x31)) (Int.toNat (ln SE.row x32)-Int.toNat (x31)) (SE.mk 0 (([]:List Int)) 0 0)).bind fun x35=>
 (Cj x35 0 x31).bind fun x36=>
 some (x33,x36)
def Od (x14:Int) (x18:(Bool×List Int)):(Int×List SE)→Option ((Int×Int×List SE×List Int) ⊕ (List Int×List SE))
| (x20,x21)=>some (.inl (x20,wr (x14+1),x21,x18.2))
def Tj (x1:Int):(Int×Int×List SE×List Int)→Option ((Int×Int×List SE×List Int) ⊕ (List Int×List SE))
| (x13,x14,x15,x16)=>
 A0 (decide (x14<(ln SE.row x15))) (
 (A4 x15 x14).bind fun x17=>
 (NW x17 x1 x16).bind fun x18=>
 A0 (!x18.1) (
 (A4 x15 x13).bind fun _=>
 (Od x14 x18) (wr (x13+1),x15.set (Int.toNat (x13)) x17)) (
 (Od x14 x18) (x13,x15))) (
 Option.map Sum.inr (Xw (x13,x15,x16)))
def Ti (x1:Int) (x2:List SE):Option (List Int×List SE):=
 (TA x1 x2).bind fun x3=>
 A0 (decide (x3.1=((-1)))) (
 some (x3.2,x2)) (
 loop (Tj x1) (x3.1,wr (x3.1+1),x2,x3.2))
theorem Z1L {x1 x2 r} (h:Ti x1 x2=some r):FTx 207 [.osl 0,.clo 208 [.ptr 0 0,.ptr 1 0]] [some ⟨3,[.iv x1]⟩,some ⟨40,[.nl]⟩] [AX x2] (.osl 2) [some ⟨3,[.iv x1]⟩,some ⟨40,[.osl 1]⟩] [none,A5 r.1,AX r.2]:=by
 refine Ft kt fun w0 M0=>?_;have ok:=kt;rw [Ti] at h;refine Vg 8 ?_;have ⟨x3,ex3,h⟩:=Bs h;refine IZ [true,true] [true] trivial (Z1Q ex3) (h:=?_);refine Vg 8 ?_;refine MI h (fun h=>?_) fun h=>?_
 ·refine Vg 5 ?_;refine As 53 4 (Ds ?_);refine A7 0 2 ?_;exact W
 ·refine Vg 8 ?_;refine Vm [0,1] (fun s=>([(5,.iv s.1)],[],[],[(0,AX s.2.1),(1,A5 s.2.2)])) Xw r ?_ fun J1=>?_
  ·rintro ⟨x31,x32,x33⟩ h;rw [Xw] at h;refine Vg 4 ?_;have ⟨x34,ex34,h⟩:=Bs h;refine ZF SE.row ex34 trivial rfl rfl rfl rfl ?_;have ⟨x35,ex35,h⟩:=Bs h;refine UA SE.row ex35 trivial rfl rfl (by first | exact Am _ | simp [go_sem]) (by first | rfl | simp [go_sem]) rfl rfl (Vg 5 ?_);have ⟨x36,ex36,h⟩:=Bs h;refine Pt SE.row ex36 trivial rfl rfl rfl rfl ?_;exact W
  ·refine Vg 1 ?_;refine Mm h [0,2] (fun s=>([(5,.iv s.1),(6,.iv s.2.1)],[],[],[(0,AX s.2.2.1),(1,A5 s.2.2.2)])) ?_;rintro n1 ⟨x13,x14,x15,x16⟩ y1 h hin1 hout1;rw [Tj] at h;refine Vg 8 ?_;refine MI h (fun h=>?_) fun h=>W;refine Vg 7 ?_;have ⟨x17,ex17,h⟩:=Bs h;refine BR SE.row ex17 trivial rfl rfl rfl (Fm SE.row ex17 trivial rfl rfl rfl (Vg 7 ?_));have ⟨x18,ex18,h⟩:=Bs h;refine J0 [true,true,false] [false,true] trivial rfl (FQ [0,1] [1] 3 2 (nX ex18)) (by kernel_rfl) (h:=?_);refine Vg 2 ?_;refine Vl [0,2,4,1] (fun s=>([(5,.iv s.1)],[some ⟨3,[.iv x1]⟩,some ⟨40,[.osl 3]⟩],[AX s.2,none,none,A5 x18.2])) (Od x14 x18) y1 ?_ fun J2=>?_
   ·rintro ⟨x20,x21⟩ h;rw [Od] at h;refine Vg 6 ?_;refine A7 3 1 ?_;exact W
   ·refine MI h (fun h=>?_) fun h=>W;refine Vg 5 ?_;have ⟨x19,ex19,h⟩:=Bs h;refine BR SE.row ex19 trivial rfl rfl rfl (Dz (SE.row x17) SE.row (y':=x17) ex19 trivial rfl rfl rfl (by first | exact Am _ | simp [go_sem]) rfl rfl rfl rfl ?_);exact W
@[go_sem] def rY:EC:=eQ Tryz.f210
theorem kx:FnOK Tryz.prog 210 Tryz.f210 rY [] 1 34:=B6
def bY:(List Int×List ML)→Option (List Int×List ML)
| (x54,x55)=>some (x54,x55)
def NI (x25:Int):(List Int×List ML)→Option ((Int×List Int×List ML) ⊕ (List Int×List ML))
| (x34,x35)=>some (.inl (wr (x25+1),x34,x35))
def Lc (x1 x2:Int) (x3 x4:Int) (x5:List SE) (x7:Int) (x8:List SX) (x9:List Int) (x10 x11:List KE) (x13:List EV) (x25:Int) (x26:List Int) (x27:List ML) (x28:SX):Bool→Option ((Int×List Int×List ML) ⊕ (List Int×List ML))
| x31=>
 A0 x31 (
 (JQ x28 5 x1 x2 x3 x4 x5 x26 x7 x8 x9 x10 x11 x27 x13).bind fun x32=>
 (O3 x26 x28.PE).bind fun x33=>
 (NI x25) (x33,x32)) (
 (NI x25) (x26,x27))
def NJ (x1 x2:Int) (x3 x4:Int) (x5:List SE) (x7:Int) (x8:List SX) (x9:List Int) (x10 x11:List KE) (x13:List EV):(Int×List Int×List ML)→Option ((Int×List Int×List ML) ⊕ (List Int×List ML))
| (x25,x26,x27)=>
 A0 (decide (x25<(ln SX.row x8))) (
 (A4 x8 x25).bind fun x28=>
 (JS x28).bind fun x29=>
 A0 x29 (
 (G6 x26 x28.PE).bind fun x30=>
 (Lc x1 x2 x3 x4 x5 x7 x8 x9 x10 x11 x13 x25 x26 x27 x28) (!x30)) (
 (Lc x1 x2 x3 x4 x5 x7 x8 x9 x10 x11 x13 x25 x26 x27 x28) false)) (
 Option.map Sum.inr (bY (x26,x27)))
def Sp (x1 x2:Int) (x3 x4:Int) (x5:List SE) (x6:List Int) (x7:Int) (x8:List SX) (x9:List Int) (x10 x11:List KE) (x12:List ML) (x13:List EV):Option (List Int×List ML):=loop (NJ x1 x2 x3 x4 x5 x7 x8 x9 x10 x11 x13) (0,x6,x12)
theorem Z1E {x1 x2 x3 x4 x5 x6 x7 x8 x9 x10 x11 x12 x13 r} (h:Sp x1 x2 x3 x4 x5 x6 x7 x8 x9 x10 x11 x12 x13=some r):FTx 214 [.ptr 0 0] [some ⟨173,[.iv x1,.iv x2,.osl 0,.iv x3,.osl 1,.iv x4,Av x5,.osl 2,Ab x6,.osl 3,.osl 4,.osl 5,.iv x7]⟩] [Ac x8,A5 x9,A9 x10,A9 x11,Az x12,Be x13] (.tup []) [some ⟨173,[.iv x1,.iv x2,.osl 0,.iv x3,.osl 1,.iv x4,Av x5,.osl 2,Ab r.1,.osl 3,.osl 7,.osl 5,.iv x7]⟩] [Ac x8,A5 x9,A9 x10,A9 x11,none,Be x13,none,Az r.2]:=by
 refine Ft kz fun w0 M0=>?_;have ok:=kz;rw [Sp] at h;refine Vg 12 ?_;refine Vl [] (fun s=>([],[some ⟨173,[.iv x1,.iv x2,.osl 0,.iv x3,.osl 1,.iv x4,Av x5,.osl 2,Ab s.1,.osl 3,.osl 7,.osl 5,.iv x7]⟩],[Ac x8,A5 x9,A9 x10,A9 x11,none,Be x13,none,Az s.2])) bY r ?_ fun J1=>?_
 ·rintro ⟨x54,x55⟩ h;rw [bY] at h;exact W
 ·refine Vg 1 ?_;refine As 113 5 (Ds ?_);refine As 113 5 (Ds ?_);refine A7 4 7 (Ds ?_);refine Mm h [0,1,9,2] (fun s=>([(12,.iv s.1)],[(0,8,Ab s.2.1)],[],[(6,none),(7,Az s.2.2)])) ?_;rintro n1 ⟨x25,x26,x27⟩ y1 h hin1 hout1;rw [NJ] at h;refine Vg 5 ?_;refine MI h (fun h=>?_) fun h=>W;refine Vg 5 ?_;have ⟨x28,ex28,h⟩:=Bs h;refine BR SX.row ex28 trivial rfl rfl rfl (Fm SX.row ex28 trivial rfl rfl rfl (Vg 4 ?_));refine Vk [0,1,2,1,6,3] (fun x31=>[(28,.bv x31)]) (Lc x1 x2 x3 x4 x5 x7 x8 x9 x10 x11 x13 x25 x26 x27 x28) y1 ?_ fun J2=>?_
  ·intro x31 h;rw [Lc] at h;refine Vl [0,1,9,3] (fun s=>([],[some ⟨173,[.iv x1,.iv x2,.osl 0,.iv x3,.osl 1,.iv x4,Av x5,.osl 2,Ab s.1,.osl 3,.osl 7,.osl 5,.iv x7]⟩],[Ac x8,A5 x9,A9 x10,A9 x11,none,Be x13,none,Az s.2])) (NI x25) y1 ?_ fun J3=>?_
   ·rintro ⟨x34,x35⟩ h;rw [NI] at h;exact W
   ·refine MI h (fun h=>?_) fun h=>W;refine Vg 4 ?_;refine VR [0] [0,1,2,3,7,5] 2 8 h Zi fun _ _ h=>?_;refine Vg 1 ?_;have ⟨x33,ex33,h⟩:=Bs h;have q0:=vO ex33;refine Ai fun all H=>Gs ?_;refine A7 9 7 ?_;exact W
  ·refine Ai fun all H=>?_;refine Gn H 1 12 ?_;refine RB h bb fun _ _ h=>?_;refine Gn H 1 10 ?_;refine BJ 18 h rfl (fun _ h=>?_) fun _ h=>?_
   ·refine Ds (GP H 7 3 [10,3] [(19,[.ptr 0 0,.ptr 0 0,.ptr 0 0,.ptr 0 8,Ab x26,.ptr 1 0,.iv x28.PE])] (Ds ?_));refine RB h Gq fun _ _ h=>?_;refine Gn H 2 0 ?_;refine GD ?_;exact W
   ·refine Ds (GP H 10 0 [13] [(19,ux 9 [.ff])] (Ds ?_));refine GD ?_;exact W
def Sj (x1:SX) (x2:Int) (x3 x4 x5:Int) (x6:List SE) (x7:List Int) (x8:Int) (x9:List SX) (x10:List Int) (x11 x12:List KE) (x13:List ML) (x14:List EV):Option (List SX×List KE):=
 (Lj x9 x1.PE ((fun z=>Is z.1 z.2))).bind fun x15=>
 (TG x9 x15.1 ([x1])).bind fun x16=>
 (WQ x1.PE x1.EP x2 x3 x4 x5 x6 x7 x8 x16 x10 x11 x12 x13 x14).bind fun x17=>
 some (x16,x17)
theorem Z1A {x1 x2 x3 x4 x5 x6 x7 x8 x9 x10 x11 x12 x13 x14 r} (h:Sj x1 x2 x3 x4 x5 x6 x7 x8 x9 x10 x11 x12 x13 x14=some r):FTx 92 [.ptr 0 0,.agg (SX.row x1)] [some ⟨173,[.iv x2,.iv x3,.osl 0,.iv x4,.osl 1,.iv x5,Av x6,.osl 2,Ab x7,.osl 3,.osl 4,.osl 5,.iv x8]⟩] [Ac x9,A5 x10,A9 x11,A9 x12,Az x13,Be x14] (.tup []) [some ⟨173,[.iv x2,.iv x3,.osl 7,.iv x4,.osl 1,.iv x5,Av x6,.osl 9,Ab x7,.osl 3,.osl 4,.osl 5,.iv x8]⟩] [none,A5 x10,none,A9 x12,Az x13,Be x14,none,Ac r.1,none,A9 r.2]:=by
 refine Ft Yy fun w0 M0=>?_;have ok:=Yy;rw [Sj] at h;refine Vg 5 ?_;refine Ai fun all H=>Ds (GP H 8 7 [6,1,2,6] [(7,[.ptr 0 0,.ptr 0 0,.ptr 0 0,.ptr 0 0,.ptr 0 0,.ptr 0 2]),(1,[.ptr 1 0,.iv x1.PE])] (Ds ?_));refine R1 ?_;refine RQ (LR.slice 0 rfl) h (fun e=>iP e ⟨by kernel_rfl,rfl,fun z r hz=>iI hz⟩) fun x15 _ h=>?_;refine GP H 5 0 [15] [(4,[.iv x15.1,.bv x15.2,.tup [.iv x15.1,.bv x15.2]]),(10,[.iv x15.1,.bv x15.2])] (Ds ?_);refine GD (Vg 1 ?_);refine Ai fun all H=>Ds (GP H 9 9 [7,1,2,8] [(19,[.ptr 0 0,.ptr 0 0,.ptr 0 0,.ptr 0 0,.ptr 0 0,.ptr 0 0,.ptr 0 2]),(1,[.iv x15.1,.agg (SX.row x1)])] (Ds ?_));refine Ag 7 10 rfl ?_ ?_
 ·refine RV ?_;refine R1 ?_;refine RR [] [0,6] 2 7 h Zk fun x16 ex16 h=>?_;refine GP H 5 1 [17,1] [(31,[.ptr 0 0,.ptr 0 0,.ptr 0 0,.ptr 0 0,.ptr 0 2])] (Ds ?_);refine GE H.1 17 (Ds ?_);refine GD (Vg 6 ?_);refine VR [0] [7,1,2,3,4,5] 2 8 h nU fun x17 ex17 h=>?_;exact W
 ·refine RV ?_;refine R1 ?_;refine RR [] [0,6] 2 7 h Zk fun _ _ h=>?_;refine GP H 5 1 [17,1] [(31,[.ptr 0 0,.ptr 0 0,.ptr 0 0,.ptr 0 0,.ptr 0 2])] (Ds ?_);refine GE H.1 17 (Ds ?_);refine GD (Vg 6 ?_);refine VR [0] [7,1,2,3,4,5] 2 8 h nU fun _ _ h=>?_;exact W
@[go_sem] def rM:EC:=eQ Tryz.f168
theorem kh:FnOK Tryz.prog 168 Tryz.f168 rM [.t 6] 3 37:=B6
def Sw:Bool→Option Bool
| x5=>some x5
def Sv (x1:SE) (x2:NO):Option Bool:=
 A0 (decide (x1.SS=0)) (
 (Rz x2).bind fun x3=>
 (Lh x1.NE x3).bind fun x4=>
 Sw (!x4)) (
 Sw false)
theorem vA {x1 x2 r} (h:Sv x1 x2=some r):FPx 173 [.agg (SE.row x1),.elt (NO.row x2) 0] (.bv r):=by
 have ok:=oJ 173 Tryz.f173 [.t 3] 2 13;refine FP ok fun w0 H0=>?_;rw [Sv] at h;refine Vg 6 ?_;refine Vl [] (fun x5=>([(3,.bv x5)],[],[])) Sw r ?_ fun J1=>?_
 ·intro x5 h;rw [Sw] at h;exact W
 ·refine Ai fun all H=>?_;refine Gn H 4 8 ?_;refine BJ 7 h rfl (fun _ h=>?_) fun _ h=>?_
  ·refine Gn H 3 5 ?_;refine RB h vn fun _ _ h=>?_;refine RB h bh fun _ _ h=>?_;refine Gn H 3 0 ?_;refine GD ?_;exact W
  ·refine Ds (GP H 8 0 [12] [(14,[.ff])] (Ds ?_));refine GD ?_;exact W
def QL (x1 x2:Int):(Bool×List SX)→Option (Int×Int×Int×List SX)
| (x12,x13)=>
 A0 x12 (
 some (0,0,132,([]:List SX))) (
 some (x1,x2,0,x13))
def QM (x1 x2 x7:Int) (x8:List SX) (x9:SX):Bool→Option (Int×Int×Int×List SX)
| x11=>
 A0 x11 (
 (QL x1 x2) (x9.TO,x8.set (Int.toNat (x7)) (SX.mk x9.PE x9.EP x9.SS x9.FK x9.DY true x9.BO x9.Ask))) (
 some (0,0,133,([]:List SX)))
def QK (x1 x2:Int) (x4:Msg) (x7:Int) (x8:List SX) (x9:SX):Bool→Option (Int×Int×Int×List SX)
| x10=>
 A0 x10 (
 (QL x1 x2) (x9.FK,x8.set (Int.toNat (x7)) (SX.mk x9.PE x9.EP x9.SS true x9.DY x9.TO x9.BO x9.Ask))) (
 A0 (decide (x4.KI=2)) (
 (QM x1 x2 x7 x8 x9) (decide (x4.Num=0))) (
 (QM x1 x2 x7 x8 x9) false))
def QJ (x1 x2 x3:Int) (x4:Msg) (x5:List SX):Option (Int×Int×Int×List SX):=
 (KD (DI.mk x1 x2 x5)).bind fun x6=>
 A0 (!decide (x6=0)) (
 some (0,0,x6,([]:List SX))) (
 (Hw x5 ((fun z=>QH z x3 x4))).bind fun x7=>
 A0 (decide (x7<0)) (
 some (0,0,131,([]:List SX))) (
 (Eu x5).bind fun x8=>
 (A4 x8 x7).bind fun x9=>
 A0 (decide (x4.KI=1)) (
 (QK x1 x2 x4 x7 x8 x9) (decide (x4.Num=0))) (
 (QK x1 x2 x4 x7 x8 x9) false)))
theorem Z1i {x1 x2 x3 x4 x5 r} (h:QJ x1 x2 x3 x4 x5=some r):FTx 235 [.agg [.iv x1,.iv x2,.osl 0],.iv x3,.agg (Msg.row x4)] [] [Ac x5] (.tup [.agg [.iv r.1,.iv r.2.1,.osl 1],.iv r.2.2.1]) [] [Ac x5,Ac r.2.2.2]:=by
 refine Ft kD fun w0 M0=>?_;have ok:=kD;rw [QJ] at h;refine Vg 12 ?_;refine VN (LR.slice 0 rfl) h aT fun _ _ h=>?_;refine Vg 7 ?_;refine MI h (fun h=>?_) fun h=>?_
 ·refine Vg 7 ?_;refine AE 3 2 66 8 ?_;exact W
 ·refine Vg 6 ?_;refine VN (((LR.slice 0 rfl).block 1 rfl rfl).block 2 rfl rfl) h (fun e=>Mt e ⟨by kernel_rfl,rfl,fun z r hz=>uQ hz⟩) fun x7 _ h=>?_;refine Vg 8 ?_;refine MI h (fun h=>?_) fun h=>?_
  ·refine Vg 6 ?_;refine AE 3 2 66 8 ?_;exact W
  ·refine Vg 5 ?_;refine VR [] [0] 4 1 h LH fun x8 _ h=>?_;refine Vg 8 ?_;have ⟨x9,ex9,h⟩:=Bs h;refine BR SX.row ex9 trivial rfl rfl rfl (Vg 14 ?_);refine Vm [3,1,1,2,3,1] (fun x10=>([(34,.bv x10)],[],[(1,none)],[])) (QK x1 x2 x4 x7 x8 x9) r ?_ fun J1=>?_
   ·intro x10 h;rw [QK] at h;refine Vm [3,1,2,1] (fun s=>([(11,.bv s.1)],[],[(2,none)],[(1,Ac s.2)])) (QL x1 x2) r ?_ fun J2=>?_
    ·rintro ⟨x12,x13⟩ h;rw [QL] at h;refine Vg 6 ?_;refine MI h (fun h=>?_) fun h=>W;refine Vg 6 ?_;refine AE 3 2 66 8 (Ds ?_);refine A7 2 1 ?_;exact W
    ·refine MI h (fun h=>?_) fun h=>?_
     ·refine Vg 5 ?_;refine CA SX.row ex9 trivial rfl rfl rfl (Vg 3 ?_);refine Dz [.bv true] SX.row (y':=(SX.mk x9.PE x9.EP x9.SS true x9.DY x9.TO x9.BO x9.Ask)) ex9 trivial rfl rfl rfl (by first | exact Am _ | simp [go_sem]) rfl rfl rfl rfl ?_;exact W
     ·refine Vg 6 ?_;refine Vm [3,1,2,1,3,1] (fun x11=>([(50,.bv x11)],[],[(2,none)],[])) (QM x1 x2 x7 x8 x9) r ?_ fun J3=>?_
      ·intro x11 h;rw [QM] at h;refine MI h (fun h=>?_) fun h=>?_
       ·refine Vg 5 ?_;refine CA SX.row ex9 trivial rfl rfl rfl (Vg 3 ?_);refine Dz [.bv true] SX.row (y':=(SX.mk x9.PE x9.EP x9.SS x9.FK x9.DY true x9.BO x9.Ask)) ex9 trivial rfl rfl rfl (by first | exact Am _ | simp [go_sem]) rfl rfl rfl rfl ?_;exact W
       ·refine Vg 6 ?_;refine AE 3 2 66 8 (Ds ?_);refine A7 2 1 ?_;exact W
      ·exact W
   ·exact W
def bM:(List Int×Int)→Option (List Int×Int×Int)
| (x17,x18)=>some (x17,x18,0)
def MQ (x1:Graph):(List Int×Int)→Option ((List Int×Int) ⊕ (List Int×Int×Int))
| (x8,x9)=>
 (Ln x8 0).bind fun x10=>
 A0 x10 (
 (Qo x1 x8).bind fun x11=>
 some (.inl (x11.1,wr (x9+1)))) (
 Option.map Sum.inr (bM (x8,x9)))
def Kz (x1:Graph):Option (List Int×Int×Int):=
 (Ih x1).bind fun x2=>
 A0 (!decide (x2=0)) (
 some (([]:List Int),0,x2)) (
 (OE 8 x1.N 0).bind fun x3=>
 loop (MQ x1) (x3,0))
theorem uL {x1 r} (h:Kz x1=some r):FPx 192 [.agg (Graph.row x1)] (.tup [Ab r.1,.iv r.2.1,.iv r.2.2]):=by
 have ok:=oJ 192 Tryz.f192 [.t 2,.t 3,.t 4] 1 27;refine FP ok fun w0 H0=>?_;rw [Kz] at h;refine Vg 11 ?_;refine VB h PY fun _ _ h=>?_;refine Vg 7 ?_;refine MI h (fun h=>W) fun h=>?_;refine Vg 5 ?_;have ⟨x3,ex3,h⟩:=Bs h;refine pE Ad ex3 trivial rfl rfl rfl rfl (Vg 4 ?_);refine Vl [] (fun s=>([(6,Ab s.1),(7,.iv s.2)],[],[])) bM r ?_ fun J1=>?_
 ·rintro ⟨x17,x18⟩ h;rw [bM] at h;exact W
 ·refine Vg 1 ?_;refine Ae 0 (Ds ?_);refine Ml h [1,1] (fun s=>([(6,Ab s.1),(7,.iv s.2)],[some ⟨24,Graph.row x1⟩],[])) ?_;rintro n1 ⟨x8,x9⟩ y1 h hin1 hout1;rw [MQ] at h;refine Vg 4 ?_;refine VB h bl fun _ _ h=>?_;refine Vg 1 ?_;refine MI h (fun h=>?_) fun h=>W;refine Vg 6 ?_;refine VB h uH fun _ _ h=>?_;exact W
@[go_sem] def rE:EC:=eQ Tryz.f148
theorem ke:FnOK Tryz.prog 148 Tryz.f148 rE [] 1 19:=B6
def QP (x1 x2 x3:Int) (x4:List SX) (x5:List Int):Option (Int×Int×Int×List SX):=
 (Js (DK.mk (DI.mk x1 x2 x4) x3 x5)).bind fun x6=>
 A0 (!decide (x6=0)) (
 some (0,0,x6,([]:List SX))) (
 A0 (decide (x3=0)) (
 some (0,0,152,([]:List SX))) (
 (Jw x1 x2 x3 x4 x5).bind fun x7=>
 some (x1,x2,0,x7.1)))
theorem Z1j {x1 x2 x3 x4 x5 r} (h:QP x1 x2 x3 x4 x5=some r):FTx 200 [.agg [.iv x1,.iv x2,.osl 0,.iv x3,.osl 1]] [] [Ac x4,A5 x5] (.tup [.agg [.iv r.1,.iv r.2.1,.osl 2,.iv 0,.nl],.iv r.2.2.1]) [] [Ac x4,A5 x5,Ac r.2.2.2]:=by
 refine Ft ko fun w0 M0=>?_;have ok:=ko;rw [QP] at h;refine Vg 10 ?_;refine VN ((LR.slice 0 rfl).slice 1 rfl) h V9 fun _ _ h=>?_;refine Vg 7 ?_;refine MI h (fun h=>?_) fun h=>?_
 ·refine Vg 7 ?_;refine AE 1 2 66 8 ?_;exact W
 ·refine Vg 8 ?_;refine MI h (fun h=>?_) fun h=>?_
  ·refine Vg 6 ?_;refine AE 1 2 66 8 ?_;exact W
  ·refine Vg 4 ?_;refine VR [] [0,1] 2 2 h Zh fun _ _ h=>?_;exact W
def SJ (x1:BK) (x2:Int):Option (BK×List Int×Int):=
 (Hv x1).bind fun x3=>
 A0 (!decide (x3=0)) (
 some ((BK.mk 0 (([]:List SE))),([]:List Int),x3)) (
 (Iz x1).bind fun x4=>
 (Ti x2 x4).bind fun x5=>
 some ((BK.mk x1.LA x5.2),x5.1,0))
theorem vF {x1 x2 r} (h:SJ x1 x2=some r):FPx 155 [.agg (BK.row x1),.iv x2] (.tup [.agg (BK.row r.1),Ab r.2.1,.iv r.2.2]):=by
 have ok:=oJ 155 Tryz.f155 [.c 4 (some 2),.t 5,.t 6] 2 22;refine FP ok fun w0 H0=>?_;rw [SJ] at h;refine Vg 12 ?_;refine VB h Mr fun _ _ h=>?_;refine Vg 7 ?_;refine MI h (fun h=>W) fun h=>?_;refine Vg 8 ?_;refine VR [] [] 4 0 h Up fun _ _ h=>?_;refine Vg 7 ?_;refine VR [1,3] [0] 4 1 h Z1L fun _ _ h=>?_;refine Vg 4 ?_;refine Ai fun all H=>Gs ?_;refine Ae 2 (Ds ?_);refine Ae 1 ?_;exact W
def Jv (x1 x3:Int) (x4:List SX) (x5:List Int) (x6:List ML):Int→Option (Int×Int×Int×List SX×List ML)
| x10=>
 (QE (DI.mk x1 x10 x4)).bind fun x11=>
 (AI 40 x6 x11.2.2.2.2).bind fun x12=>
 (QU x11.1 x11.2.1 x3 x11.2.2.2.1 x5 x12).bind fun x13=>
 some (x11.1,x11.2.1,x13.1,x13.2.1,x13.2.2)
def N9 (x1 x2 x3:Int) (x4:List SX) (x5:List Int) (x6:List ML):Bool→Option (Int×Int×Int×List SX×List ML)
| x9=>
 A0 x9 (
 (Jv x1 x3 x4 x5 x6) 0) (
 (Jv x1 x3 x4 x5 x6) x2)
def QW (x1 x2 x3:Int) (x4:List SX) (x5:List Int) (x6:List ML):Bool→Option (Int×Int×Int×List SX×List ML)
| x7=>
 A0 x7 (
 (Jv x1 x3 x4 x5 x6) 1) (
 A0 (decide (x2=2)) (
 A0 (!decide (x3=1)) (
 (IC x4 ((fun z=>VT z))).bind fun x8=>
 (N9 x1 x2 x3 x4 x5 x6) (!x8)) (
 (N9 x1 x2 x3 x4 x5 x6) false)) (
 (N9 x1 x2 x3 x4 x5 x6) false))
def QV (x1 x2 x3:Int) (x4:List SX) (x5:List Int) (x6:List ML):Option (Int×Int×Int×List SX×List ML):=
 A0 (decide (x3=1)) (
 (QW x1 x2 x3 x4 x5 x6) (decide (x2=0))) (
 (QW x1 x2 x3 x4 x5 x6) false)
theorem Z1m {x1 x2 x3 x4 x5 x6 r} (h:QV x1 x2 x3 x4 x5 x6=some r):FTx 241 [.ptr 0 0] [some ⟨299,[.iv x1,.iv x2,.osl 0,.iv x3,.osl 1,.osl 2]⟩] [Ac x4,A5 x5,Az x6] (.tup []) [some ⟨299,[.iv r.1,.iv r.2.1,.osl 3,.iv r.2.2.1,.osl 1,.osl 7]⟩] [none,A5 x5,none,Ac r.2.2.2.1,none,none,none,Az r.2.2.2.2]:=by
 refine Ft kF fun w0 M0=>?_;have ok:=kF;rw [QV] at h;refine Vg 15 ?_;refine Vk [0,1,1,1] (fun x7=>[(6,.bv x7)]) (QW x1 x2 x3 x4 x5 x6) r ?_ fun J1=>?_
 ·intro x7 h;rw [QW] at h;refine Vm [0,1] (fun x10=>([],[(0,1,.iv x10)],[],[])) (Jv x1 x3 x4 x5 x6) r ?_ fun J2=>?_
  ·intro x10 h;rw [Jv] at h;refine Vg 8 ?_;refine Ae 0 (Ds ?_);refine VR [] [] 1 3 h Z1h fun _ _ h=>?_;refine Vg 26 ?_;have ⟨x12,ex12,h⟩:=Bs h;refine BP ML.row ex12 trivial rfl rfl rfl (Vg 6 ?_);refine VR [0] [3,1,5] 2 6 h Z1l fun _ _ h=>?_;exact W
  ·refine MI h (fun h=>W) fun h=>?_;refine Vg 10 ?_;refine Vk [0,1] (fun x9=>[(27,.bv x9)]) (N9 x1 x2 x3 x4 x5 x6) r ?_ fun J3=>?_
   ·intro x9 h;rw [N9] at h;exact W
   ·refine MC 35 h (fun h=>?_) fun h=>W;refine Vg 8 ?_;refine MC 43 h (fun h=>?_) fun h=>W;refine Vg 7 ?_;refine VN (LR.slice 0 rfl) h (fun e=>PZ e ⟨by kernel_rfl,rfl,fun z r hz=>uV hz⟩) fun _ _ h=>?_;exact W
 ·exact W
def bW:(List SX×List KE×List ML×List EV)→Option (List SX×List KE×List ML×List EV)
| (x52,x53,x54,x55)=>some (x52,x53,x54,x55)
def WO (x1 x2:Int) (x3 x4:Int) (x5:List SE) (x6:List Int) (x7:Int) (x9:List Int) (x11:List KE):(Int×List SX×List KE×List ML×List EV)→Option ((Int×List SX×List KE×List ML×List EV) ⊕ (List SX×List KE×List ML×List EV))
| (x23,x24,x25,x26,x27)=>
 A0 (decide (x23<(ln KE.row x11))) (
 (A4 x11 x23).bind fun x28=>
 (Sj (SX.mk x28.PE x28.EP 0 false false true false true) x1 x2 x3 x4 x5 x6 x7 x24 x9 x25 x11 x26 x27).bind fun x29=>
 (JQ (SX.mk x28.PE x28.EP 0 false false true false true) 6 x1 x2 x3 x4 x5 x6 x7 x29.1 x9 x29.2 x11 x26 x27).bind fun x30=>
 (S4 6 x28.PE x1 x2 x3 x4 x5 x6 x7 x29.1 x9 x29.2 x11 x30 x27).bind fun x31=>
 some (.inl (wr (x23+1),x29.1,x29.2,x30,x31))) (
 Option.map Sum.inr (bW (x24,x25,x26,x27)))
def RZ (x1 x2:Int) (x3 x4:Int) (x5:List SE) (x6:List Int) (x7:Int) (x8:List SX) (x9:List Int) (x10 x11:List KE) (x12:List ML) (x13:List EV):Option (List SX×List KE×List ML×List EV):=loop (WO x1 x2 x3 x4 x5 x6 x7 x9 x11) (0,x8,x10,x12,x13)
theorem Z1u {x1 x2 x3 x4 x5 x6 x7 x8 x9 x10 x11 x12 x13 r} (h:RZ x1 x2 x3 x4 x5 x6 x7 x8 x9 x10 x11 x12 x13=some r):FTx 210 [.ptr 0 0] [some ⟨173,[.iv x1,.iv x2,.osl 0,.iv x3,.osl 1,.iv x4,Av x5,.osl 2,Ab x6,.osl 3,.osl 4,.osl 5,.iv x7]⟩] [Ac x8,A5 x9,A9 x10,A9 x11,Az x12,Be x13] (.tup []) [some ⟨173,[.iv x1,.iv x2,.osl 7,.iv x3,.osl 1,.iv x4,Av x5,.osl 9,Ab x6,.nl,.osl 11,.osl 13,.iv x7]⟩] [none,A5 x9,none,A9 x11,none,none,none,Ac r.1,none,A9 r.2.1,none,Az r.2.2.1,none,Be r.2.2.2]:=by
 refine Ft kx fun w0 M0=>?_;have ok:=kx;rw [RZ] at h;refine Vg 11 ?_;refine Vl [0,1] (fun s=>([],[some ⟨173,[.iv x1,.iv x2,.osl 7,.iv x3,.osl 1,.iv x4,Av x5,.osl 9,Ab x6,.osl 3,.osl 11,.osl 13,.iv x7]⟩],[none,A5 x9,none,A9 x11,none,none,none,Ac s.1,none,A9 s.2.1,none,Az s.2.2.1,none,Be s.2.2.2])) bW r ?_ fun J1=>?_
 ·rintro ⟨x52,x53,x54,x55⟩ h;rw [bW] at h;exact W
 ·refine Vg 1 ?_;refine As 113 5 (Ds ?_);refine As 113 5 (Ds ?_);refine As 113 5 (Ds ?_);refine As 113 5 (Ds ?_);refine As 113 5 (Ds ?_);refine As 113 5 (Ds ?_);refine A7 4 11 (Ds ?_);refine As 97 5 (Ds ?_);refine As 97 5 (Ds ?_);refine A7 5 13 (A7 0 7 (Ds ?_));refine A7 2 9 (Ds ?_);refine Mm h [0,1,8,2] (fun s=>([(11,.iv s.1)],[],[],[(6,none),(7,Ac s.2.1),(8,none),(9,A9 s.2.2.1),(10,none),(11,Az s.2.2.2.1),(12,none),(13,Be s.2.2.2.2)])) ?_;rintro n1 ⟨x23,x24,x25,x26,x27⟩ y1 h hin1 hout1;rw [WO] at h;refine Vg 5 ?_;refine MI h (fun h=>?_) fun h=>W;refine Vg 5 ?_;have ⟨x28,ex28,h⟩:=Bs h;refine BR KE.row ex28 trivial rfl rfl rfl (Fm KE.row ex28 trivial rfl rfl rfl (Vg 17 ?_));refine VR [0] [7,1,9,3,11,13] 3 14 h Z1A fun _ _ h=>?_;refine Vg 5 ?_;refine VR [0] [15,1,17,3,11,13] 3 18 h Zi fun _ _ h=>?_;refine Vg 5 ?_;refine VR [0] [15,1,17,3,19,13] 3 20 h Z1w fun _ _ h=>?_;refine Vg 6 ?_;refine A7 19 11 (A7 21 13 (Ds ?_));refine A7 15 7 (A7 17 9 ?_);exact W
def JM:(Bool×Int)→Option (Bool×Int)
| (x8,x9)=>some (x8,x9)
def RY (x1:NO) (x2:Int) (p0:(SX→Option Bool)):Option (Bool×Int):=
 A0 (decide (x1.DK.DI.ID<64)) (
 (Tf x1.KN x2).bind fun x3=>
 A0 (!x3.1) (
 (IC x1.DK.DI.SD p0).bind fun x4=>
 A0 (!x4) (
 (IA x1.TL).bind fun x5=>
 A0 x5 (
 (Ld x1 ((fun z=>JS z))).bind fun x6=>
 (Lh x1.TL x6).bind fun x7=>
 JM (x7,x3.2)) (
 JM (false,x3.2))) (
 JM (false,x3.2))) (
 JM (false,x3.2))) (
 JM (false,x2))
theorem Z1t {x1 x2 g0 caps0 p0 r} (h:RY x1 x2 p0=some r) (hc0:CloOK Tryz.prog g0 caps0 (fun z=>[.agg (SX.row z)]) p0 (fun z=>.bv z)):FTx 168 [.agg (NO.row x1),.clo 165 [.ptr 0 0],.clo g0 caps0] [some ⟨3,[.iv x2]⟩] [] (.bv r.1) [some ⟨3,[.iv r.2]⟩] []:=by
 refine Ft kh fun w0 M0=>?_;rw [RY] at h;refine Vg 6 ?_;refine Vl [] (fun s=>([(6,.bv s.1)],[some ⟨3,[.iv s.2]⟩],[])) JM r ?_ fun J1=>?_
 ·rintro ⟨x8,x9⟩ h;rw [JM] at h;(try dsimp only);exact Td kh h
 ·refine Ai fun all H=>Ds (GP H 6 28 [6,28] [(7,[.ptr 1 0,.ptr 1 0,.ptr 1 0,.iv x1.DK.DI.ID,.bv (decide (x1.DK.DI.ID<64)),.bv (decide (x1.DK.DI.ID<64))])] (Ds ?_));refine BJ 12 h rfl (fun _ h=>?_) fun _ h=>?_
  ·refine Ds (GP H 3 25 [9,25] [(13,[.ptr 1 7,Bb x1.KN,.clo 165 [.ptr 0 0]])] (Ds ?_));refine A6 9 rfl ?_;have ⟨x3,ex3,h⟩:=Bs h;refine eN H.1 (by kernel_rfl) [true,false] [] rfl trivial (FQ [0] [] 2 0 (Z1J ex3)) (ha:=(by first | exact Am _ | simp [go_sem,YR _ _ _ _ _ hc0.pu])) (h:=Ds ?_);refine GP H 3 21 [13,21] [(17,[.bv (!x3.1),.bv (!x3.1),.bv (!x3.1)])] ?_;dsimp only[go_sem];refine BJ 19 h rfl (fun _ h=>?_) fun _ h=>?_
   ·refine Ds (GP H 5 16 [18,16] [(20,[.ptr 1 0,.ptr 1 0,.ptr 1 2,CU x1.DK.DI.SD,.clo g0 caps0])] (Ds ?_));refine A6 18 rfl (GB H.1 h (fun e=>PZ e hc0) (fun x4 _ h=>?_) (hp:=(by first | rfl | simp [go_sem,hc0.pu])));refine Ds (GP H 3 12 [22,12] [(26,[.bv (!x4),.bv (!x4),.bv (!x4)])] (Ds ?_));refine BJ 28 h rfl (fun _ h=>?_) fun _ h=>?_
    ·refine Ds (GP H 2 10 [24,10] [(29,[.ptr 1 8,Ab x1.TL])] (Ds ?_));refine A6 24 rfl (GB H.1 h bg (fun x5 _ h=>?_) (hp:=(by first | rfl | simp [go_sem,hc0.pu])));refine Ds (GP H 2 7 [27,7] [(32,[.bv x5,.bv x5])] (Ds ?_));refine BJ 33 h rfl (fun _ h=>?_) fun _ h=>?_
     ·refine Ds (GP H 3 4 [30,4] [(34,[.ptr 1 8,Ab x1.TL,.agg (NO.row x1)])] (Ds ?_));refine A6 30 rfl ?_;have ⟨x6,ex6,h⟩:=Bs h;refine GC H.1 (bc ex6 ⟨by kernel_rfl,rfl,fun z r hz=>bb hz⟩) (Ds ?_) (hp:=(by first | rfl | simp [go_sem,hc0.pu]));refine A6 31 rfl (GB H.1 h bh (fun x7 _ h=>?_) (hp:=(by first | rfl | simp [go_sem,hc0.pu])));refine Ds (GP H 2 0 [34] [(6,[.bv x7]),(32,[.bv x7])] (Ds ?_));refine GD ?_;exact AQ J1 h (hok:=by first | rfl | simp [go_sem,Ax _ hc0.pu])
     ·refine Ds (GP H 7 0 [34] [(39,[.ff])] (Ds ?_));refine GD ?_;exact AQ J1 h (hok:=by first | rfl | simp [go_sem,Ax _ hc0.pu])
    ·refine Ds (GP H 12 0 [34] [(32,[.ff,.ff]),(5,[.ff])] (Ds ?_));refine GD ?_;exact AQ J1 h (hok:=by first | rfl | simp [go_sem,Ax _ hc0.pu])
   ·refine Ds (GP H 21 0 [34] [(27,[.ff,.ff]),(3,[.ff,.ff]),(5,[.ff])] (Ds ?_));refine GD ?_;exact AQ J1 h (hok:=by first | rfl | simp [go_sem,Ax _ hc0.pu])
  ·refine Ds (GP H 28 0 [34] [(18,[.ff,.ff]),(7,[.ff,.ff]),(3,[.ff,.ff]),(5,[.ff])] (Ds ?_));refine GD ?_;exact AQ J1 h (hok:=by first | rfl | simp [go_sem,Ax _ hc0.pu])
def Sz:Bool→Option Bool
| x9=>some x9
def JT (x1:NO):Bool→Option Bool
| x5=>
 A0 x5 (
 some false) (
 (Ld x1 ((fun z=>Xi z))).bind fun x6=>
 (SY x1.DK.NE x6).bind fun x7=>
 A0 (decide ((ln Ad x7)=0)) (
 (Ob x1.BK.SE ((fun z=>Sv z x1))).bind fun x8=>
 Sz (!x8)) (
 Sz false))
def Sy (x1:NO) (x2:(SE×Bool)):Bool→Option Bool
| x3=>
 A0 (!((decide (x1.DK.TH=2))==x3)) (
 (JT x1) true) (
 A0 (!decide (x1.DK.TH=0)) (
 A0 (!x2.2) (
 (JT x1) true) (
 (JY x2.1.NE x1.DK.NE).bind fun x4=>
 (JT x1) (!x4))) (
 (JT x1) false))
def Su (x1:NO):Option Bool:=
 (RT x1).bind fun x2=>
 A0 x2.2 (
 (Sy x1 x2) (decide (x2.1.SS=1))) (
 (Sy x1 x2) false)
theorem vy {x1 r} (h:Su x1=some r):FPx 105 [.agg (NO.row x1)] (.bv r):=by
 have ok:=oJ 105 Tryz.f105 [.t 2] 1 59;refine FP ok fun w0 H0=>?_;rw [Su] at h;refine Vg 8 ?_;refine VB h vu fun x2 _ h=>?_;refine Vg 11 ?_;refine Vk [1,1,1,2] (fun x3=>[(5,.bv x3)]) (Sy x1 x2) r ?_ fun J1=>?_
 ·intro x3 h;rw [Sy] at h;refine Vg 10 ?_;refine Vl [1,1] (fun x5=>([(42,.bv x5)],[some ⟨48,NO.row x1⟩],[])) (JT x1) r ?_ fun J2=>?_
  ·intro x5 h;rw [JT] at h;refine MI h (fun h=>W) fun h=>?_;refine Vg 6 ?_;refine Vl [] (fun x9=>([(2,.bv x9)],[],[])) Sz r ?_ fun J3=>?_
   ·intro x9 h;rw [Sz] at h;exact W
   ·refine Ai fun all H=>Ds (GP H 5 13 [5,13] [(43,[.ptr 0 0,.ptr 0 4,Ab x1.DK.NE,.agg (NO.row x1),.clo 169 []])] (Ds ?_));refine RB h (fun e=>bc e ⟨by kernel_rfl,rfl,fun z r hz=>vz hz⟩) fun _ _ h=>?_;refine RB h vP fun _ _ h=>?_;refine Gn H 3 8 ?_;refine BJ 52 h rfl (fun _ h=>?_) fun _ h=>?_
    ·refine Ds (GP H 4 4 [14,4] [(53,[.ptr 0 5,.ptr 0 6,Av x1.BK.SE,.clo 173 [.ptr 0 0]])] (Ds ?_));refine RQ (LR.block 0 rfl rfl) h (fun e=>vX e ⟨by kernel_rfl,rfl,fun z r hz=>vA hz⟩) fun _ _ h=>?_;refine Gn H 3 0 ?_;refine GD ?_;exact W
    ·refine Ds (GP H 8 0 [18] [(2,[.ff]),(50,ux 6 [.ff])] (Ds ?_));refine GD ?_;exact W
  ·refine MC 24 h (fun h=>W) fun h=>?_;refine Vg 5 ?_;refine MC 29 h (fun h=>?_) fun h=>W;refine Vg 3 ?_;refine MC 32 h (fun h=>W) fun h=>?_;refine Vg 5 ?_;refine VB h Ve fun _ _ h=>?_;exact W
 ·exact W
@[go_sem] def rR:EC:=eQ Tryz.f194
theorem km:FnOK Tryz.prog 194 Tryz.f194 rR [.c 6 (some 5),.t 7] 3 77:=B6
def OA (x1:Graph):Option (SN×Int):=
 (Kz x1).bind fun x2=>
 A0 (!decide (x2.2.2=0)) (
 some ((SN.mk (([]:List DI)) (([]:List ML))),x2.2.2)) (
 (SC x1 x2.1).bind fun x3=>
 some ((SN.mk x3.1 (([]:List ML))),x3.2))
theorem wg {x1 r} (h:OA x1=some r):FPx 134 [.agg (Graph.row x1)] (.tup [.agg (SN.row r.1),.iv r.2]):=by
 have ok:=oJ 134 Tryz.f134 [.c 2 (some 2),.t 3] 1 26;refine FP ok fun w0 H0=>?_;rw [OA] at h;refine Vg 9 ?_;refine VB h uL fun _ _ h=>?_;refine Vg 14 ?_;refine MI h (fun h=>W) fun h=>?_;refine Vg 5 ?_;refine VB h vD fun _ _ h=>?_;exact W
@[go_sem] def rZ:EC:=eQ Tryz.f213
theorem ky:FnOK Tryz.prog 213 Tryz.f213 rZ [.c 2 (some 5),.t 3,.t 4] 1 38:=B6
@[go_sem] def sE:EC:=eQ Tryz.f90
theorem kL:FnOK Tryz.prog 90 Tryz.f90 sE [] 2 159:=B6
end
end NX
end Go.Proofs.YtjemlejoladlcaaGreat
