/-
  The function slices.ContainsFunc[[]narthex/api.Side,narthex/api.Side], lent own memory. Written by a program of ours (lb.py). No statement of the seat is proved here.
-/
import Derived.Test.YtgamgemlekpepaaGreatK33
import Derived.Test.YtgamgemlekpepaaGreatK34
set_option maxRecDepth 100000
set_option maxHeartbeats 40000000
namespace Go.Proofs.YtgamgemlekpepaaGreat
namespace NX
open Go
noncomputable section
def Zg01 (x1:List SX) (x2:Int) (x3:DI):Option (Bool×Int):=
 (Zhx x1 x2 x3).bind fun x4=>
 some (decide (0≤x4.1),x4.2)
theorem Zh01 {x1 x2 x3 r} (h:Zg01 x1 x2 x3=some r):FTx 99 [Sp3 x1,.clo 157 [.ptr 0 0,.ptr 1 0]] [some ⟨3,[.iv x2]⟩,some ⟨58,DI.row x3⟩] [] (.bv r.1) [some ⟨3,[.iv r.2]⟩,some ⟨58,DI.row x3⟩] []:=by refine Ft Ztr fun w0 M0=>?_;have ok:=Ztr;rw [Zg01] at h;refine Vg 8 ?_;have ⟨x4,ex4,h⟩:=Bs h;refine Z9f [true,true] [] trivial (Zix ex4) (h:=?_);exact W
@[go_sem] def e233:EC:=eQ Tryz.f233
theorem Zi01:FnOK Tryz.prog 233 Tryz.f233 e233 [] 1 134:=okA
@[go_sem] def e131:EC:=(by have h:=hF Tryz.f131;(conv at h=>rhs;reduce);dsimp only[go_sem] at h;exact ⟨_,h⟩:DP Tryz.f131).1
theorem Zj01:FnOK Tryz.prog 131 Tryz.f131 e131 [.t 6] 3 92:=okA
@[go_sem] def e175:EC:=(by have h:=hF Tryz.f175;(conv at h=>rhs;reduce);dsimp only[go_sem] at h;exact ⟨_,h⟩:DP Tryz.f175).1
theorem Zk01:FnOK Tryz.prog 175 Tryz.f175 e175 [.t 6] 3 92:=okA
@[go_sem] def e177:EC:=eQ Tryz.f177
theorem Zl01:FnOK Tryz.prog 177 Tryz.f177 e177 [.t 4] 3 19:=okA
def Zm01:Bool→Option Bool
| x5=>some x5
def Zn01 (x1:SX) (x2:node_node):Option Bool:=
 (Zwn x1).bind fun x3=>
 ifb x3 (
 (Z1x x2.NO.TL x1.PE).bind fun x4=>
 Zm01 (!x4)) (
 Zm01 false)
theorem Zo01 {x1 x2 r} (h:Zn01 x1 x2=some r):FPx 180 [.agg (SX.row x1),.elt ((Zsh node_node.row) x2) 0] (.bv r):=by
 have ok:=oJ 180 Tryz.f180 [.t 3] 2 15;refine FP ok fun w0 H0=>?_;rw [Zn01] at h;refine Vg 6 ?_;refine Vl [] (fun x5=>([(3,.bv x5)],[],[])) Zm01 r ?_ fun J1=>?_
 ·intro x5 h;rw [Zm01] at h;exact W
 ·refine Zgj fun all H=>?_;refine Gn H 1 13 ?_;refine RB h Zxn fun _ _ h=>?_;refine Gn H 1 11 ?_;refine Zdd 6 h rfl (fun _ h=>?_) fun _ h=>?_
  ·refine Ds (GP H 7 4 [10,4] [(7,[.elt (node_node.row x2) 0,.elt (node_node.row x2) 0,.elt (node_node.row x2) 0,.elt (node_node.row x2) 8,Sp1 x2.NO.TL,.ptr 0 0,.iv x1.PE])] (Ds ?_));refine RB h Z2x fun _ _ h=>?_;refine Gn H 3 0 ?_;refine GD ?_;exact W
  ·refine Ds (GP H 11 0 [14] [(16,[.ff])] (Ds ?_));refine GD ?_;exact W
@[go_sem] def e184:EC:=eQ Tryz.f184
theorem Zp01:FnOK Tryz.prog 184 Tryz.f184 e184 [] 1 70:=okA
def Zq01:Bool→Option Bool
| x8=>some x8
def Zr01 (x1 x2:NO):Option Bool:=
 (Zmx x1.DK x2.DK).bind fun x3=>
 ifb x3 (
 (Z5y x1.BK x2.BK).bind fun x4=>
 ifb x4 (
 (Z7o x1.KN x2.KN).bind fun x5=>
 ifb x5 (
 (Zvm x1.TL x2.TL).bind fun x6=>
 ifb x6 (
 (Z7o x1.AK x2.AK).bind fun x7=>
 Zq01 x7) (
 Zq01 false)) (
 Zq01 false)) (
 Zq01 false)) (
 Zq01 false)
theorem Zs01 {x1 x2 r} (h:Zr01 x1 x2=some r):FPx 49 [.agg (NO.row x1),.agg (NO.row x2)] (.bv r):=by
 have ok:=oJ 49 Tryz.f49 [.t 4] 2 36;refine FP ok fun w0 H0=>?_;rw [Zr01] at h;refine Vg 12 ?_;refine VB h Znx fun _ _ h=>?_;refine Vg 1 ?_;refine Vl [] (fun x8=>([(4,.bv x8)],[],[])) Zq01 r ?_ fun J1=>?_
 ·intro x8 h;rw [Zq01] at h;exact W
 ·refine MC 10 h (fun h=>?_) fun h=>?_
  ·refine Vg 4 ?_;refine VB h Z6y fun _ _ h=>?_;refine Vg 2 ?_;refine MC 17 h (fun h=>?_) fun h=>?_
   ·refine Vg 4 ?_;refine VB h Z8o fun _ _ h=>?_;refine Vg 2 ?_;refine MC 24 h (fun h=>?_) fun h=>?_
    ·refine Vg 4 ?_;refine VB h Zwm fun _ _ h=>?_;refine Vg 2 ?_;refine MC 31 h (fun h=>?_) fun h=>?_
     ·refine Vg 4 ?_;refine VB h Z8o fun _ _ h=>?_;exact W
     ·exact W
    ·exact W
   ·exact W
  ·exact W
def Zt01 (x1 _x2:Int) (_x3 _x4 _x5:Int) (_x6:List SE) (_x7:List Int) (_x8:Int) (x9:List SX) (_x10:List Int) (_x11 _x12:List KE) (_x13:List ML) (_x14:List EV):Option (List SX):=
 (Zhy x9 ((fun z=>Zyn z x1))).bind fun x15=>
 some x15
theorem Zu01 {x1 x2 x3 x4 x5 x6 x7 x8 x9 x10 x11 x12 x13 x14 r} (h:Zt01 x1 x2 x3 x4 x5 x6 x7 x8 x9 x10 x11 x12 x13 x14=some r):FTx 82 [.ptr 0 0,.iv x1] [some ⟨138,[.iv x2,.iv x3,.osl 0,.iv x4,.osl 1,.iv x5,Sp5 x6,.osl 2,Sp1 x7,.osl 3,.osl 4,.osl 5,.iv x8]⟩] [Z5k x9,Sq4 x10,Z6k x11,Z6k x12,Sq6 x13,Z8k x14] (.tup []) [some ⟨138,[.iv x2,.iv x3,.osl 6,.iv x4,.osl 1,.iv x5,Sp5 x6,.osl 2,Sp1 x7,.osl 3,.osl 4,.osl 5,.iv x8]⟩] [none,Sq4 x10,Z6k x11,Z6k x12,Sq6 x13,Z8k x14,Z5k r]:=by refine Ft Z3y fun w0 M0=>?_;have ok:=Z3y;rw [Zt01] at h;refine Vg 14 ?_;refine Zf8 1 rfl rfl (Ds ?_);refine VR [] [0] 2 6 h (fun e=>Ziy e ⟨by kernel_rfl,rfl,fun z r hz=>Zzn hz⟩) fun _ _ h=>?_;exact W
def Zv01 (x1:List KE) (x2:Int):Option (Bool×Int):=
 (Zly x1 x2).bind fun x3=>
 some (decide (0≤x3.1),x3.2)
theorem Zw01 {x1 x2 r} (h:Zv01 x1 x2=some r):FTx 107 [Sp2 x1,.clo 106 [.ptr 0 0]] [some ⟨3,[.iv x2]⟩] [] (.bv r.1) [some ⟨3,[.iv r.2]⟩] []:=by refine Ft Zwr fun w0 M0=>?_;have ok:=Zwr;rw [Zv01] at h;refine Vg 8 ?_;have ⟨x3,ex3,h⟩:=Bs h;refine Z9f [true] [] trivial (Zmy ex3) (h:=?_);exact W
def Zx01 (x1:KE) (x2:NO):Option Bool:=
 (Zoy x2 x1).bind fun x3=>
 some (!x3)
theorem Zy01 {x1 x2 r} (h:Zx01 x1 x2=some r):FPx 108 [.agg (KE.row x1),.elt (NO.row x2) 0] (.bv r):=by have ok:=oJ 108 Tryz.f108 [.t 3] 2 6;refine FP ok fun w0 H0=>?_;rw [Zx01] at h;refine Vg 9 ?_;refine VB h Zpy fun _ _ h=>?_;exact W
def Zz01 (x1:Int) (x2:List Int):Option Bool:=
 (Z1x x2 x1).bind fun x3=>
 some x3
theorem Z011 {x1 x2 r} (h:Zz01 x1 x2=some r):FPx 163 [.iv x1,.elt ((Z8d 1 Z4d) x2) 0] (.bv r):=by have ok:=oJ 163 Tryz.f163 [.t 3] 2 5;refine FP ok fun w0 H0=>?_;rw [Zz01] at h;refine Vg 8 ?_;refine VB h Z2x fun _ _ h=>?_;exact W
def Z111 (x1 _x2:Int) (_x3 _x4:Int) (_x5 _x6:Int) (x7:List SX) (_x8:List Int) (_x9:List SE) (_x10:List KE) (_x11:List Int) (_x12:List KE):Option (List SX):=
 (Zhy x7 ((fun z=>Zyn z x1))).bind fun x13=>
 some x13
theorem Z211 {x1 x2 x3 x4 x5 x6 x7 x8 x9 x10 x11 x12 r} (h:Z111 x1 x2 x3 x4 x5 x6 x7 x8 x9 x10 x11 x12=some r):FTx 82 [.ptr 0 0,.iv x1] [some ⟨138,[.iv x2,.iv x3,.osl 0,.iv x4,.osl 1,.iv x5,.osl 2,.osl 3,.osl 4,.osl 5,.nl,.nl,.iv x6]⟩] [Z5k x7,Sq4 x8,Z3k x9,Z6k x10,Sq4 x11,Z6k x12] (.tup []) [some ⟨138,[.iv x2,.iv x3,.osl 6,.iv x4,.osl 1,.iv x5,.osl 2,.osl 3,.osl 4,.osl 5,.nl,.nl,.iv x6]⟩] [none,Sq4 x8,Z3k x9,Z6k x10,Sq4 x11,Z6k x12,Z5k r]:=by refine Ft Z3y fun w0 M0=>?_;have ok:=Z3y;rw [Z111] at h;refine Vg 14 ?_;refine Zf8 1 rfl rfl (Ds ?_);refine VR [] [0] 2 6 h (fun e=>Ziy e ⟨by kernel_rfl,rfl,fun z r hz=>Zzn hz⟩) fun _ _ h=>?_;exact W
def Z311:Unit→Option Int
| ()=>some 0
def Z411 (x9:Int):Bool→Option (Int ⊕ Int)
| x13=>
 ifb x13 (
 Option.map Sum.inr (some 30)) (
 some (.inl (wr (x9+1))))
def Z511 (x1:Graph):Int→Option (Int ⊕ Int)
| x9=>
 ifb (decide (x9<(ln Edge.row x1.Edges))) (
 ifb (decide (0<x9)) (
 (at_ x1.Edges (wr (x9-1))).bind fun x10=>
 (at_ x1.Edges x9).bind fun x11=>
 (Zuy x10 x11).bind fun x12=>
 (Z411 x9) (decide (0≤x12))) (
 (Z411 x9) false)) (
 Option.map Sum.inr (Z311 ()))
def Z611 (x1:Graph):Bool→Option Int
| x3=>
 ifb x3 (
 some 30) (
 loop (Z511 x1) 0)
def Z711 (x1:Graph):Option Int:=
 ifb (decide (x1.N<0)) (
 (Z611 x1) true) (
 ifb (decide (64<x1.N)) (
 (Z611 x1) true) (
 ifb (decide (400<(ln Edge.row x1.Edges))) (
 (Z611 x1) true) (
 (Znu x1.Edges ((fun z=>Zvo z x1))).bind fun x2=>
 (Z611 x1) x2)))
theorem Z811 {x1 r} (h:Z711 x1=some r):FPx 145 [.agg (Graph.row x1)] (.iv r):=by
 have ok:=oJ 145 Tryz.f145 [.t 2] 1 49;refine FP ok fun w0 H0=>?_;rw [Z711] at h;refine Vg 17 ?_;refine Vk [1,1] (fun x3=>[(25,.bv x3)]) (Z611 x1) r ?_ fun J1=>?_
 ·intro x3 h;rw [Z611] at h;refine MI h (fun h=>?_) fun h=>?_
  ·exact W
  ·refine Vg 9 ?_;refine Vl [] (fun _=>([],[],[])) Z311 r ?_ fun J2=>?_
   ·rintro ⟨⟩ h;rw [Z311] at h;exact W
   ·refine Vg 1 ?_;refine Mk h [1,1,26,1] (fun x9=>[(29,.iv x9)]) ?_;rintro n1 x9 y1 h hin1 hout1;rw [Z511] at h;refine Vg 5 ?_;refine MI h (fun h=>?_) fun h=>?_
    ·refine Vg 9 ?_;refine Vk [1,1,26,2] (fun x13=>[(48,.bv x13)]) (Z411 x9) y1 ?_ fun J3=>?_
     ·intro x13 h;rw [Z411] at h;exact W
     ·refine Zgj fun all H=>?_;refine Gn H 3 14 ?_;refine Zdd 34 h rfl (fun _ h=>?_) fun _ h=>?_
      ·refine Ds (GP H 7 7 [7,2,3,5] [(35,[.ptr 0 1,Sp8 x1.Edges,.iv x9,.iv (wr (x9-1))]),(2,[.ptr 0 1,Sp8 x1.Edges,.iv x9])] (Ds ?_));have ⟨x10,ex10,h⟩:=Bs h;refine Zkc H.1 H.2.1 H.2.2.1 H.2.2.2 7 Edge.row ex10 rfl rfl trivial rfl rfl rfl rfl (Gn H 1 5 ?_);have ⟨x11,ex11,h⟩:=Bs h;refine Zkc H.1 H.2.1 H.2.2.1 H.2.2.2 12 Edge.row ex11 rfl rfl trivial rfl rfl rfl rfl (Gn H 1 3 ?_);refine RB h Zvy fun _ _ h=>?_;refine Gn H 2 0 ?_;refine GD ?_;exact W
      ·refine Ds (GP H 14 0 [17] [(35,[.un,.un,.un,.un,.un,.un,.un,.un,.un,.un,.un,.un,.un,.ff])] (Ds ?_));refine GD ?_;exact W
    ·exact W
 ·refine MC 9 h (fun h=>?_) fun h=>?_
  ·exact W
  ·refine Vg 5 ?_;refine MC 14 h (fun h=>?_) fun h=>?_
   ·exact W
   ·refine Vg 6 ?_;refine MC 20 h (fun h=>?_) fun h=>?_
    ·exact W
    ·refine Vg 3 ?_;refine VN (LR.block 0 rfl rfl) h (fun e=>Zou e ⟨by kernel_rfl,rfl,fun z r hz=>Zwo hz⟩) fun _ _ h=>?_;exact W
def Z911:List Int→Option (List Int)
| x43=>some x43
def Za11 (x19:Int) (x20:List Int):Int→Option ((Int×List Int) ⊕ (List Int))
| x35=>
 (Z8c 8 x20 ([x35])).bind fun x36=>
 some (.inl (wr (x19+1),x36))
def Zb11 (x2:List Int) (x19:Int) (x20 x22:List Int):Int→Option (Int ⊕ ((Int×List Int) ⊕ (List Int)))
| x26=>
 (Ztp x2 x22 x26).bind fun x27=>
 ifb x27 (
 some (.inl (wr (x26+1)))) (
 Option.map Sum.inr ((Za11 x19 x20) x26))
def Zc11 (x1:Graph) (x2:List Int):(Int×List Int)→Option ((Int×List Int) ⊕ (List Int))
| (x19,x20)=>
 ifb (decide (x19<x1.N)) (
 (at_ x2 x19).bind fun x21=>
 (Z0z x1 x19).bind fun x22=>
 (Zpp x2 x22 x19).bind fun x23=>
 ifb x23 (
 loop (Zb11 x2 x19 x20 x22) 1) (
 (Za11 x19 x20) x21)) (
 Option.map Sum.inr (Z911 x20))
def Zd11 (x1:Graph) (x2:List Int):Option (List Int):=loop (Zc11 x1 x2) (0,([]:List Int))
theorem Ze11 {x1 x2 r} (h:Zd11 x1 x2=some r):FOx 149 [.agg (Graph.row x1),Sp1 x2] 3 1 (List.map Z4d r):=by
 have ok:=oJ 149 Tryz.f149 [.t 4] 2 36;refine Zrd ok rfl fun w0 H0=>?_;rw [Zd11] at h;refine Vg 15 ?_;refine Vl [5,1] (fun x43=>([],[],[Sq4 x43])) Z911 r ?_ fun J1=>?_
 ·intro x43 h;rw [Z911] at h;refine Vg 5 ?_;exact Zae Z4d ok h rfl rfl
 ·refine Vg 1 ?_;refine Mm h [1,2,2,1] (fun s=>([(6,.iv s.1)],[],[],[(0,Sq4 s.2)])) ?_;rintro n1 ⟨x19,x20⟩ y1 h hin1 hout1;rw [Zc11] at h;refine Vg 8 ?_;refine MI h (fun h=>?_) fun h=>?_
  ·refine Vg 4 ?_;have ⟨x21,ex21,h⟩:=Bs h;have ⟨x22,ex22,h⟩:=Bs h;have q0:=Z2z ex22;refine Zgj fun all H=>Gs ?_;refine Vg 6 ?_;refine VB h Zqp fun _ _ h=>?_;refine Vg 1 ?_;refine Vk [1,2,2,2] (fun x35=>[(8,.iv x35)]) (Za11 x19 x20) y1 ?_ fun J2=>?_
   ·intro x35 h;rw [Za11] at h;refine Vg 4 ?_;have ⟨x36,ex36,h⟩:=Bs h;refine Zmc Z4d ex36 trivial rfl rfl rfl (Vg 8 ?_);refine Zij 2 0 ?_;exact W
   ·refine MI h (fun h=>?_) fun h=>?_
    ·refine Vg 5 ?_;refine Mk h [1,2,2,3] (fun x26=>[(8,.iv x26)]) ?_;rintro n2 x26 y2 h hin2 hout2;rw [Zb11] at h;refine Vg 6 ?_;refine VB h Zup fun _ _ h=>?_;exact W
    ·exact W
  ·exact W
theorem Zf11 {x1 x2 r} (h:Zd11 x1 x2=some r):FPx 149 [.agg (Graph.row x1),Sp1 x2] (Sp1 r):=(Ze11 h).sealed
def Zg11:Unit→Option Bool
| ()=>some true
def Zh11 (x28:Int):Bool→Option (Int ⊕ Bool)
| x32=>
 ifb x32 (
 Option.map Sum.inr (some false)) (
 some (.inl (wr (x28+1))))
def Zi11 (x1:NO):Int→Option (Int ⊕ Bool)
| x28=>
 ifb (decide (x28<(ln SE.row x1.BK.SE))) (
 (at_ x1.BK.SE x28).bind fun x29=>
 ifb (decide (x29.SS=0)) (
 (Z0r x1).bind fun x30=>
 (Z5w x29.NE x30).bind fun x31=>
 (Zh11 x28) (!x31)) (
 (Zh11 x28) false)) (
 Option.map Sum.inr (Zg11 ()))
def Zj11 (x1:NO):Unit→Option Bool
| ()=>loop (Zi11 x1) 0
def Zk11 (x15:Int):Bool→Option (Int ⊕ Bool)
| x19=>
 ifb x19 (
 Option.map Sum.inr (some false)) (
 some (.inl (wr (x15+1))))
def Zl11 (x1:NO):Int→Option (Int ⊕ Bool)
| x15=>
 ifb (decide (x15<(ln SX.row x1.DK.DI.SD))) (
 (at_ x1.DK.DI.SD x15).bind fun x16=>
 ifb (decide (x16.SS=3)) (
 (at_ x1.DK.DI.SD x15).bind fun x17=>
 (Z2l x1.DK.NE x17.PE).bind fun x18=>
 (Zk11 x15) x18) (
 (Zk11 x15) false)) (
 Option.map Sum.inr ((Zj11 x1) ()))
def Zm11 (x1:NO):Bool→Option Bool
| x9=>
 ifb x9 (
 some false) (
 loop (Zl11 x1) 0)
def Zn11 (x1:NO):Bool→Option Bool
| x5=>
 ifb x5 (
 some false) (
 (Zcq x1.BK).bind fun x6=>
 ifb (!(x6==(decide (x1.DK.TH=2)))) (
 some false) (
 ifb (!decide (x1.DK.TH=0)) (
 ifb (decide ((ln SE.row x1.BK.SE)=0)) (
 (Zm11 x1) true) (
 (at_ x1.BK.SE 0).bind fun x7=>
 (Z6l x7.NE x1.DK.NE).bind fun x8=>
 (Zm11 x1) (!x8))) (
 (Zm11 x1) false)))
def Zo11 (x1:NO):Option Bool:=
 (Zpv x1.DK).bind fun x2=>
 ifb (!x2) (
 (Zn11 x1) true) (
 (Zyv x1.BK).bind fun x3=>
 ifb (!x3) (
 (Zn11 x1) true) (
 (Zlz x1).bind fun x4=>
 (Zn11 x1) (!x4)))
theorem Zp11 {x1 r} (h:Zo11 x1=some r):FPx 54 [.agg (NO.row x1)] (.bv r):=by
 have ok:=oJ 54 Tryz.f54 [.t 2] 1 111;refine FP ok fun w0 H0=>?_;rw [Zo11] at h;refine Vg 10 ?_;refine VB h Zqv fun _ _ h=>?_;refine Vg 2 ?_;refine Vk [1,1] (fun x5=>[(21,.bv x5)]) (Zn11 x1) r ?_ fun J1=>?_
 ·intro x5 h;rw [Zn11] at h;refine MI h (fun h=>?_) fun h=>?_
  ·exact W
  ·refine Vg 5 ?_;refine VB h Zdq fun _ _ h=>?_;refine Vg 12 ?_;refine MI h (fun h=>?_) fun h=>?_
   ·exact W
   ·refine Vg 3 ?_;refine Vk [1,1] (fun x9=>[(54,.bv x9)]) (Zm11 x1) r ?_ fun J2=>?_
    ·intro x9 h;rw [Zm11] at h;refine MI h (fun h=>?_) fun h=>?_
     ·exact W
     ·refine Vg 6 ?_;refine Vk [1,1] (fun _=>[]) (Zj11 x1) r ?_ fun J3=>?_
      ·rintro ⟨⟩ h;rw [Zj11] at h;refine Vg 5 ?_;refine Vl [] (fun _=>([],[],[])) Zg11 r ?_ fun J5=>?_
       ·rintro ⟨⟩ h;rw [Zg11] at h;exact W
       ·refine Vg 1 ?_;refine Mk h [1,1] (fun x28=>[(5,.iv x28)]) ?_;rintro n1 x28 y1 h hin1 hout1;rw [Zi11] at h;refine Vg 10 ?_;refine MI h (fun h=>?_) fun h=>?_
        ·refine Vg 9 ?_;have ⟨x29,ex29,h⟩:=Bs h;refine Zjc SE.row ex29 trivial rfl rfl rfl (Vg 5 ?_);refine Vl [1,1,3,1] (fun x32=>([(111,.bv x32)],[some ⟨67,NO.row x1⟩],[])) (Zh11 x28) y1 ?_ fun J6=>?_
         ·intro x32 h;rw [Zh11] at h;exact W
         ·refine Zgj fun all H=>?_;refine Gn H 4 7 ?_;refine Zdd 104 h rfl (fun _ h=>?_) fun _ h=>?_
          ·refine Gn H 3 4 ?_;refine RB h Z2r fun _ _ h=>?_;refine RB h Z6w fun _ _ h=>?_;refine Gn H 2 0 ?_;refine GD ?_;exact W
          ·refine Ds (GP H 7 0 [11] [(105,[.un,.un,.un,.un,.un,.un,.ff])] (Ds ?_));refine GD ?_;exact W
        ·exact W
      ·refine Vg 1 ?_;refine Mk h [1,1] (fun x15=>[(4,.iv x15)]) ?_;rintro n1 x15 y1 h hin1 hout1;rw [Zl11] at h;refine Vg 11 ?_;refine MI h (fun h=>?_) fun h=>?_
       ·refine Vg 4 ?_;refine Vk [1,1,2,1] (fun x19=>[(86,.bv x19)]) (Zk11 x15) y1 ?_ fun J4=>?_
        ·intro x19 h;rw [Zk11] at h;exact W
        ·refine Zgj fun all H=>Ds (GP H 5 18 [5,18] [(64,[.ptr 0 0,.ptr 0 0,.ptr 0 2,Sp3 x1.DK.DI.SD,.iv x15])] (Ds ?_));have ⟨x16,ex16,h⟩:=Bs h;refine Zkc H.1 H.2.1 H.2.2.1 H.2.2.2 5 SX.row ex16 rfl rfl trivial rfl rfl rfl rfl (GP H 4 13 [10,13] [(70,[.elt (SX.row x16) 2,.iv x16.SS,.bv (decide (x16.SS=3)),.bv (decide (x16.SS=3))])] (Ds ?_));refine Zdd 73 h rfl (fun _ h=>?_) fun _ h=>?_
         ·refine Ds (GP H 8 5 [18,5] [(74,[.ptr 0 0,.ptr 0 4,Sp1 x1.DK.NE,.ptr 0 0,.ptr 0 0,.ptr 0 2,Sp3 x1.DK.DI.SD,.iv x15])] (Ds ?_));have ⟨x17,ex17,h⟩:=Bs h;refine Zkc H.1 H.2.1 H.2.2.1 H.2.2.2 18 SX.row ex17 rfl rfl trivial rfl rfl rfl rfl (Gn H 2 2 ?_);refine RB h Z3l fun _ _ h=>?_;refine Gn H 1 0 ?_;refine GD ?_;exact W
         ·refine Ds (GP H 13 0 [23] [(74,[.un,.un,.un,.un,.un,.un,.un,.un,.un,.un,.un,.un,.ff])] (Ds ?_));refine GD ?_;exact W
       ·exact W
    ·refine Zgj fun all H=>Ds (GP H 5 19 [5,19] [(31,[.ptr 0 0,.ptr 0 3,.iv x1.DK.TH,.bv (!decide (x1.DK.TH=0)),.bv (!decide (x1.DK.TH=0))])] (Ds ?_));refine Zdd 35 h rfl (fun _ h=>?_) fun _ h=>?_
     ·refine Ds (GP H 6 13 [11,13] [(36,[.ptr 0 5,.ptr 0 6,Sp5 x1.BK.SE,.iv (ln SE.row x1.BK.SE),.bv (decide ((ln SE.row x1.BK.SE)=0)),.bv (decide ((ln SE.row x1.BK.SE)=0))])] (Ds ?_));refine Zdd 41 h rfl (fun _ h=>?_) fun _ h=>?_
      ·refine Ds (GP H 13 0 [24] [(42,[.un,.un,.un,.un,.un,.un,.un,.un,.un,.un,.un,.tt,.tt])] (Ds ?_));refine GD ?_;exact W
      ·refine Ds (GP H 6 7 [14,3,3,4] [(42,[.ptr 0 5,.ptr 0 6,Sp5 x1.BK.SE]),(3,[.ptr 0 0,.ptr 0 4,Sp1 x1.DK.NE])] (Ds ?_));have ⟨x7,ex7,h⟩:=Bs h;refine Zkc H.1 H.2.1 H.2.2.1 H.2.2.2 14 SE.row ex7 rfl rfl trivial rfl rfl rfl rfl (Gn H 2 4 ?_);refine RB h Z7l fun x8 _ h=>?_;refine GP H 3 0 [24] [(52,[.bv (!x8),.bv (!x8),.bv (!x8)])] (Ds ?_);refine GD ?_;exact W
     ·refine Ds (GP H 19 0 [24] [(36,[.un,.un,.un,.un,.un,.un,.un,.un,.un,.un,.un,.un,.un,.un,.un,.un,.un,.un,.ff])] (Ds ?_));refine GD ?_;exact W
 ·refine MC 11 h (fun h=>?_) fun h=>?_
  ·exact W
  ·refine Vg 2 ?_;refine VB h Zzv fun _ _ h=>?_;refine Vg 3 ?_;refine MC 17 h (fun h=>?_) fun h=>?_
   ·exact W
   ·refine Vg 1 ?_;refine VB h Zmz fun _ _ h=>?_;exact W
def Zq11 (x1 x2:HL):Unit→Option Bool
| ()=>
 (Zdm x1.ML x2.ML).bind fun x15=>
 some x15
def Zr11 (x1 x2:HL):Int→Option (Int ⊕ Bool)
| x7=>
 ifb (decide (x7<(ln NO.row x1.NS))) (
 (at_ x1.NS x7).bind fun x8=>
 (at_ x2.NS x7).bind fun x9=>
 (Z7z x8 x9).bind fun x10=>
 ifb (!x10) (
 Option.map Sum.inr (some false)) (
 some (.inl (wr (x7+1))))) (
 Option.map Sum.inr ((Zq11 x1 x2) ()))
def Zs11 (x1 x2:HL):Option Bool:=
 ifb (!decide ((ln NO.row x1.NS)=(ln NO.row x2.NS))) (
 some false) (
 loop (Zr11 x1 x2) 0)
theorem Zt11 {x1 x2 r} (h:Zs11 x1 x2=some r):FPx 9 [.agg (HL.row x1),.agg (HL.row x2)] (.bv r):=by
 have ok:=oJ 9 Tryz.f9 [.t 4] 2 35;refine FP ok fun w0 H0=>?_;rw [Zs11] at h;refine Vg 17 ?_;refine MI h (fun h=>?_) fun h=>?_
 ·exact W
 ·refine Vg 6 ?_;refine Vk [2,2] (fun _=>[]) (Zq11 x1 x2) r ?_ fun J1=>?_
  ·rintro ⟨⟩ h;rw [Zq11] at h;refine Vg 6 ?_;refine VB h Zem fun _ _ h=>?_;exact W
  ·refine Vg 1 ?_;refine Mk h [2,2] (fun x7=>[(5,.iv x7)]) ?_;rintro n1 x7 y1 h hin1 hout1;rw [Zr11] at h;refine Vg 9 ?_;refine MI h (fun h=>?_) fun h=>?_
   ·refine Vg 4 ?_;have ⟨x8,ex8,h⟩:=Bs h;have ⟨x9,ex9,h⟩:=Bs h;have ⟨x10,ex10,h⟩:=Bs h;have q0:=Z8z ex10;refine Zgj fun all H=>Gs ?_;exact W
   ·exact W
end
end NX
end Go.Proofs.YtgamgemlekpepaaGreat
