/-
  The function (*narthex/node.node).drop, lent own memory. Written by a program of ours (lb.py). No statement of the seat is proved here.
-/
import Derived.Test.YtgamgemlekpepaaGreatH22
set_option maxRecDepth 100000
set_option maxHeartbeats 4000000
namespace Go.Proofs.YtgamgemlekpepaaGreat
namespace NX
open Go
noncomputable section
def Zc01 (x1 _x2:Int) (_x3 _x4 _x5:Int) (_x6:List Sess) (_x7:List Int) (_x8:Int) (x9:List Side) (_x10:List Int) (_x11 _x12:List KE) (_x13:List Mail) (_x14:List Event):Option (List Side):=
 (Z0y x9 ((fun z=>Zpn z x1))).bind fun x15=>
 some x15
theorem Zd01 {x1 x2 x3 x4 x5 x6 x7 x8 x9 x10 x11 x12 x13 x14 r} (h:Zc01 x1 x2 x3 x4 x5 x6 x7 x8 x9 x10 x11 x12 x13 x14=some r):Z0f Tryz.prog 82 [.ptr 0 0,.iv x1] [some ⟨138,[.iv x2,.iv x3,.osl 0,.iv x4,.osl 1,.iv x5,Sp5 x6,.osl 2,Sp1 x7,.osl 3,.osl 4,.osl 5,.iv x8]⟩] [Zwj x9,Sq4 x10,Zxj x11,Zxj x12,Sq6 x13,Zzj x14] (.tup []) [some ⟨138,[.iv x2,.iv x3,.osl 6,.iv x4,.osl 1,.iv x5,Sp5 x6,.osl 2,Sp1 x7,.osl 3,.osl 4,.osl 5,.iv x8]⟩] [none,Sq4 x10,Zxj x11,Zxj x12,Sq6 x13,Zzj x14,Zwj r]:=by refine FT Zmx fun w0 M0=>?_;rw [Zc01] at h;dsimp only[lun,List.cons_append,List.nil_append];refine Vg 14 ?_;refine Ze8 1 rfl rfl (Ds ?_);refine VR [] [0] 2 6 h (fun e=>Z1y e ⟨by kernel_rfl,rfl,fun z r hz=>Zqn hz⟩) fun _ _ h=>?_;refine Vg 7 ?_;obtain rfl:=Option.some.inj h;exact Zlj Zmx
def Ze01 (x1:List KE) (x2:Int):Option (Bool×Int):=
 (Z4y x1 x2).bind fun x3=>
 some (decide (0≤x3.1),x3.2)
theorem Zf01 {x1 x2 r} (h:Ze01 x1 x2=some r):Z0f Tryz.prog 107 [Sp2 x1,.clo 106 [.ptr 0 0]] [some ⟨3,[.iv x2]⟩] [] (.bv r.1) [some ⟨3,[.iv r.2]⟩] []:=by refine FT Zir fun w0 M0=>?_;rw [Ze01] at h;dsimp only[lun,List.cons_append,List.nil_append];refine Vg 8 ?_;have ⟨x3,ex3,h⟩:=Bs h;refine Z8f [true] [] trivial (Z5y ex3) (h:=?_);refine Vg 3 ?_;obtain rfl:=Option.some.inj h;exact Zkj Zir
@[go_sem] def e108:EC:=eQ Tryz.f108
def Zg01 (x1:KE) (x2:Node):Option Bool:=
 (Z7y x2 x1).bind fun x3=>
 some (!x3)
theorem Zh01 {x1 x2 r} (h:Zg01 x1 x2=some r):Zy6 Tryz.prog 108 [.agg (KE.row x1),.elt (Node.row x2) 0] (.bv r):=by have ok:=oK 108 Tryz.f108 e108 [.t 3] 2 6;refine FP ok fun w0 H0=>?_;rw [Zg01] at h;refine Vg 9 ?_;refine VB h Z8y fun _ _ h=>?_;exact W
@[go_sem] def e163:EC:=eQ Tryz.f163
def Zi01 (x1:Int) (x2:List Int):Option Bool:=
 (Zkw x2 x1).bind fun x3=>
 some x3
theorem Zj01 {x1 x2 r} (h:Zi01 x1 x2=some r):Zy6 Tryz.prog 163 [.iv x1,.elt ((Z7d 1 Z3d) x2) 0] (.bv r):=by have ok:=oK 163 Tryz.f163 e163 [.t 3] 2 5;refine FP ok fun w0 H0=>?_;rw [Zi01] at h;refine Vg 8 ?_;refine VB h Zlw fun _ _ h=>?_;exact W
def Zk01 (x1 _x2:Int) (_x3 _x4:Int) (_x5 _x6:Int) (x7:List Side) (_x8:List Int) (_x9:List Sess) (_x10:List KE) (_x11:List Int) (_x12:List KE):Option (List Side):=
 (Z0y x7 ((fun z=>Zpn z x1))).bind fun x13=>
 some x13
theorem Zl01 {x1 x2 x3 x4 x5 x6 x7 x8 x9 x10 x11 x12 r} (h:Zk01 x1 x2 x3 x4 x5 x6 x7 x8 x9 x10 x11 x12=some r):Z0f Tryz.prog 82 [.ptr 0 0,.iv x1] [some ⟨138,[.iv x2,.iv x3,.osl 0,.iv x4,.osl 1,.iv x5,.osl 2,.osl 3,.osl 4,.osl 5,.nl,.nl,.iv x6]⟩] [Zwj x7,Sq4 x8,Zuj x9,Zxj x10,Sq4 x11,Zxj x12] (.tup []) [some ⟨138,[.iv x2,.iv x3,.osl 6,.iv x4,.osl 1,.iv x5,.osl 2,.osl 3,.osl 4,.osl 5,.nl,.nl,.iv x6]⟩] [none,Sq4 x8,Zuj x9,Zxj x10,Sq4 x11,Zxj x12,Zwj r]:=by refine FT Zmx fun w0 M0=>?_;rw [Zk01] at h;dsimp only[lun,List.cons_append,List.nil_append];refine Vg 14 ?_;refine Ze8 1 rfl rfl (Ds ?_);refine VR [] [0] 2 6 h (fun e=>Z1y e ⟨by kernel_rfl,rfl,fun z r hz=>Zqn hz⟩) fun _ _ h=>?_;refine Vg 7 ?_;obtain rfl:=Option.some.inj h;exact Zlj Zmx
@[go_sem] def e145:EC:=eQ Tryz.f145
def Zm01:Unit→Option Int
| ()=>some 0
def Zn01 (x9:Int):Bool→Option (Int ⊕ Int)
| x13=>
 ifb x13 (
 Option.map Sum.inr (some 30)) (
 some (.inl (wr (x9+1))))
def Zo01 (x1:Graph):Int→Option (Int ⊕ Int)
| x9=>
 ifb (decide (x9<(ln Edge.row x1.Edges))) (
 ifb (decide (0<x9)) (
 (at_ x1.Edges (wr (x9-1))).bind fun x10=>
 (at_ x1.Edges x9).bind fun x11=>
 (Zdy x10 x11).bind fun x12=>
 (Zn01 x9) (decide (0≤x12))) (
 (Zn01 x9) false)) (
 Option.map Sum.inr (Zm01 ()))
def Zp01 (x1:Graph):Bool→Option Int
| x3=>
 ifb x3 (
 some 30) (
 loop (Zo01 x1) 0)
def Zq01 (x1:Graph):Option Int:=
 ifb (decide (x1.N<0)) (
 (Zp01 x1) true) (
 ifb (decide (64<x1.N)) (
 (Zp01 x1) true) (
 ifb (decide (400<(ln Edge.row x1.Edges))) (
 (Zp01 x1) true) (
 (Z9u x1.Edges ((fun z=>Zmo z x1))).bind fun x2=>
 (Zp01 x1) x2)))
theorem Zr01 {x1 r} (h:Zq01 x1=some r):Zy6 Tryz.prog 145 [.agg (Graph.row x1)] (.iv r):=by
 have ok:=oK 145 Tryz.f145 e145 [.t 2] 1 49;refine FP ok fun w0 H0=>?_;rw [Zq01] at h;refine Vg 17 ?_;refine Vk [1,1] (fun x3=>[(25,.bv x3)]) (Zp01 x1) r ?_ fun J1=>?_
 ·intro x3 h;rw [Zp01] at h;(try dsimp only);refine MI h (fun h=>?_) fun h=>?_
  ·exact W
  ·refine Vg 9 ?_;refine Vl [] (fun _=>([],[],[])) Zm01 r ?_ fun J2=>?_
   ·rintro ⟨⟩ h;rw [Zm01] at h;exact W
   ·refine Vg 1 ?_;refine Mk h [1,1,26,1] (fun x9=>[(29,.iv x9)]) ?_;rintro n1 x9 y1 h hin1 hout1;rw [Zo01] at h;(try dsimp only);refine Vg 5 ?_;refine MI h (fun h=>?_) fun h=>?_
    ·refine Vg 9 ?_;refine Vk [1,1,26,2] (fun x13=>[(48,.bv x13)]) (Zn01 x9) y1 ?_ fun J3=>?_
     ·intro x13 h;rw [Zn01] at h;exact W
     ·refine Zej fun all H=>?_;refine Gn H 3 14 ?_;refine Zcd 34 h rfl (fun _ h=>?_) fun _ h=>?_
      ·refine Ds (GP H 7 7 [7,2,3,5] [(35,[.ptr 0 1,Sp8 x1.Edges,.iv x9,.iv (wr (x9-1))]),(2,[.ptr 0 1,Sp8 x1.Edges,.iv x9])] (Ds ?_));have ⟨x10,ex10,h⟩:=Bs h;refine Zjc H.1 H.2.1 H.2.2.1 H.2.2.2 7 Edge.row ex10 rfl rfl trivial rfl rfl rfl rfl (Gn H 1 5 ?_);have ⟨x11,ex11,h⟩:=Bs h;refine Zjc H.1 H.2.1 H.2.2.1 H.2.2.2 12 Edge.row ex11 rfl rfl trivial rfl rfl rfl rfl (Gn H 1 3 ?_);refine Zma 14 rfl (GB H.1 h Zey fun _ _ h=>?_);refine Gn H 2 0 ?_;refine GD ?_;exact W
      ·refine Ds (GP H 14 0 [17] [(35,[.un,.un,.un,.un,.un,.un,.un,.un,.un,.un,.un,.un,.un,.ff])] (Ds ?_));refine GD ?_;exact W
    ·exact W
 ·refine MC 9 h (fun h=>?_) fun h=>?_
  ·exact W
  ·refine Vg 5 ?_;refine MC 14 h (fun h=>?_) fun h=>?_
   ·exact W
   ·refine Vg 6 ?_;refine MC 20 h (fun h=>?_) fun h=>?_
    ·exact W
    ·refine Vg 3 ?_;refine VN (LR.block 0 rfl rfl) h (fun e=>Zau e ⟨by kernel_rfl,rfl,fun z r hz=>Zno hz⟩) fun _ _ h=>?_;exact W
@[go_sem] def e149:EC:=eQ Tryz.f149
def Zs01:List Int→Option (List Int)
| x43=>some x43
def Zt01 (x19:Int) (x20:List Int):Int→Option ((Int×List Int) ⊕ (List Int))
| x35=>
 (Z7c 8 x20 ([x35])).bind fun x36=>
 some (.inl (wr (x19+1),x36))
def Zu01 (x2:List Int) (x19:Int) (x20 x22:List Int):Int→Option (Int ⊕ ((Int×List Int) ⊕ (List Int)))
| x26=>
 (Zkp x2 x22 x26).bind fun x27=>
 ifb x27 (
 some (.inl (wr (x26+1)))) (
 Option.map Sum.inr ((Zt01 x19 x20) x26))
def Zv01 (x1:Graph) (x2:List Int):(Int×List Int)→Option ((Int×List Int) ⊕ (List Int))
| (x19,x20)=>
 ifb (decide (x19<x1.N)) (
 (at_ x2 x19).bind fun x21=>
 (Zjy x1 x19).bind fun x22=>
 (Zgp x2 x22 x19).bind fun x23=>
 ifb x23 (
 loop (Zu01 x2 x19 x20 x22) 1) (
 (Zt01 x19 x20) x21)) (
 Option.map Sum.inr (Zs01 x20))
def Zw01 (x1:Graph) (x2:List Int):Option (List Int):=loop (Zv01 x1 x2) (0,([]:List Int))
theorem Zx01 {x1 x2 r} (h:Zw01 x1 x2=some r):Zpd Tryz.prog 149 [.agg (Graph.row x1),Sp1 x2] 3 1 (List.map Z3d r):=by
 have ok:=oK 149 Tryz.f149 e149 [.t 4] 2 36;refine Zqd ok rfl fun w0 H0=>?_;rw [Zw01] at h;refine Vg 15 ?_;refine Vl [5,1] (fun x43=>([],[],[Sq4 x43])) Zs01 r ?_ fun J1=>?_
 ·intro x43 h;rw [Zs01] at h;(try dsimp only);refine Vg 5 ?_;exact Z9e Z3d ok h rfl rfl
 ·refine Vg 1 ?_;refine Mm h [1,2,2,1] (fun s=>([(6,.iv s.1)],[],[],[(0,Sq4 s.2)])) ?_;rintro n1 ⟨x19,x20⟩ y1 h hin1 hout1;rw [Zv01] at h;(try dsimp only);refine Vg 8 ?_;refine MI h (fun h=>?_) fun h=>?_
  ·refine Vg 4 ?_;have ⟨x21,ex21,h⟩:=Bs h;have ⟨x22,ex22,h⟩:=Bs h;have q0:=Zly ex22;refine Zej fun all H=>Gs ?_;refine Vg 6 ?_;refine VB h Zhp fun _ _ h=>?_;refine Vg 1 ?_;refine Vk [1,2,2,2] (fun x35=>[(8,.iv x35)]) (Zt01 x19 x20) y1 ?_ fun J2=>?_
   ·intro x35 h;rw [Zt01] at h;(try dsimp only);refine Vg 4 ?_;have ⟨x36,ex36,h⟩:=Bs h;refine Zlc Z3d ex36 trivial rfl rfl rfl (Vg 8 ?_);refine Zgj 2 0 ?_;exact W
   ·refine MI h (fun h=>?_) fun h=>?_
    ·refine Vg 5 ?_;refine Mk h [1,2,2,3] (fun x26=>[(8,.iv x26)]) ?_;rintro n2 x26 y2 h hin2 hout2;rw [Zu01] at h;(try dsimp only);refine Vg 6 ?_;refine VB h Zlp fun _ _ h=>?_;exact W
    ·exact W
  ·exact W
theorem Zy01 {x1 x2 r} (h:Zw01 x1 x2=some r):Zy6 Tryz.prog 149 [.agg (Graph.row x1),Sp1 x2] (Sp1 r):=(Zx01 h).sealed
@[go_sem] def e54:EC:=eQ Tryz.f54
def Zz01:Unit→Option Bool
| ()=>some true
def Z011 (x28:Int):Bool→Option (Int ⊕ Bool)
| x32=>
 ifb x32 (
 Option.map Sum.inr (some false)) (
 some (.inl (wr (x28+1))))
def Z111 (x1:Node):Int→Option (Int ⊕ Bool)
| x28=>
 ifb (decide (x28<(ln Sess.row x1.Book.Sess))) (
 (at_ x1.Book.Sess x28).bind fun x29=>
 ifb (decide (x29.State=0)) (
 (Zmq x1).bind fun x30=>
 (Zov x29.Need x30).bind fun x31=>
 (Z011 x28) (!x31)) (
 (Z011 x28) false)) (
 Option.map Sum.inr (Zz01 ()))
def Z211 (x1:Node):Unit→Option Bool
| ()=>loop (Z111 x1) 0
def Z311 (x15:Int):Bool→Option (Int ⊕ Bool)
| x19=>
 ifb x19 (
 Option.map Sum.inr (some false)) (
 some (.inl (wr (x15+1))))
def Z411 (x1:Node):Int→Option (Int ⊕ Bool)
| x15=>
 ifb (decide (x15<(ln Side.row x1.DK.DI.SD))) (
 (at_ x1.DK.DI.SD x15).bind fun x16=>
 ifb (decide (x16.State=3)) (
 (at_ x1.DK.DI.SD x15).bind fun x17=>
 (Ztk x1.DK.Need x17.Peer).bind fun x18=>
 (Z311 x15) x18) (
 (Z311 x15) false)) (
 Option.map Sum.inr ((Z211 x1) ()))
def Z511 (x1:Node):Bool→Option Bool
| x9=>
 ifb x9 (
 some false) (
 loop (Z411 x1) 0)
def Z611 (x1:Node):Bool→Option Bool
| x5=>
 ifb x5 (
 some false) (
 (Zyp x1.Book).bind fun x6=>
 ifb (!(x6==(decide (x1.DK.TH=2)))) (
 some false) (
 ifb (!decide (x1.DK.TH=0)) (
 ifb (decide ((ln Sess.row x1.Book.Sess)=0)) (
 (Z511 x1) true) (
 (at_ x1.Book.Sess 0).bind fun x7=>
 (Zxk x7.Need x1.DK.Need).bind fun x8=>
 (Z511 x1) (!x8))) (
 (Z511 x1) false)))
def Z711 (x1:Node):Option Bool:=
 (Z8v x1.DK).bind fun x2=>
 ifb (!x2) (
 (Z611 x1) true) (
 (Zhv x1.Book).bind fun x3=>
 ifb (!x3) (
 (Z611 x1) true) (
 (Z4z x1).bind fun x4=>
 (Z611 x1) (!x4)))
theorem Z811 {x1 r} (h:Z711 x1=some r):Zy6 Tryz.prog 54 [.agg (Node.row x1)] (.bv r):=by
 have ok:=oK 54 Tryz.f54 e54 [.t 2] 1 111;refine FP ok fun w0 H0=>?_;rw [Z711] at h;refine Vg 10 ?_;refine VB h Z9v fun _ _ h=>?_;refine Vg 2 ?_;refine Vk [1,1] (fun x5=>[(21,.bv x5)]) (Z611 x1) r ?_ fun J1=>?_
 ·intro x5 h;rw [Z611] at h;(try dsimp only);refine MI h (fun h=>?_) fun h=>?_
  ·exact W
  ·refine Vg 5 ?_;refine VB h Zzp fun _ _ h=>?_;refine Vg 12 ?_;refine MI h (fun h=>?_) fun h=>?_
   ·exact W
   ·refine Vg 3 ?_;refine Vk [1,1] (fun x9=>[(54,.bv x9)]) (Z511 x1) r ?_ fun J2=>?_
    ·intro x9 h;rw [Z511] at h;(try dsimp only);refine MI h (fun h=>?_) fun h=>?_
     ·exact W
     ·refine Vg 6 ?_;refine Vk [1,1] (fun _=>[]) (Z211 x1) r ?_ fun J3=>?_
      ·rintro ⟨⟩ h;rw [Z211] at h;(try dsimp only);refine Vg 5 ?_;refine Vl [] (fun _=>([],[],[])) Zz01 r ?_ fun J5=>?_
       ·rintro ⟨⟩ h;rw [Zz01] at h;exact W
       ·refine Vg 1 ?_;refine Mk h [1,1] (fun x28=>[(5,.iv x28)]) ?_;rintro n1 x28 y1 h hin1 hout1;rw [Z111] at h;(try dsimp only);refine Vg 10 ?_;refine MI h (fun h=>?_) fun h=>?_
        ·refine Vg 9 ?_;have ⟨x29,ex29,h⟩:=Bs h;refine Zic Sess.row ex29 trivial rfl rfl rfl (Vg 5 ?_);refine Vl [1,1,3,1] (fun x32=>([(111,.bv x32)],[some ⟨67,Node.row x1⟩],[])) (Z011 x28) y1 ?_ fun J6=>?_
         ·intro x32 h;rw [Z011] at h;exact W
         ·refine Zej fun all H=>?_;refine Gn H 4 7 ?_;refine Zcd 104 h rfl (fun _ h=>?_) fun _ h=>?_
          ·refine Gn H 3 4 ?_;refine Zma 7 rfl (GB H.1 h Zoq fun _ _ h=>?_);refine Ds ?_;refine Zma 8 rfl (GB H.1 h Zpv fun _ _ h=>?_);refine Gn H 2 0 ?_;refine GD ?_;exact W
          ·refine Ds (GP H 7 0 [11] [(105,[.un,.un,.un,.un,.un,.un,.ff])] (Ds ?_));refine GD ?_;exact W
        ·exact W
      ·refine Vg 1 ?_;refine Mk h [1,1] (fun x15=>[(4,.iv x15)]) ?_;rintro n1 x15 y1 h hin1 hout1;rw [Z411] at h;(try dsimp only);refine Vg 11 ?_;refine MI h (fun h=>?_) fun h=>?_
       ·refine Vg 4 ?_;refine Vk [1,1,2,1] (fun x19=>[(86,.bv x19)]) (Z311 x15) y1 ?_ fun J4=>?_
        ·intro x19 h;rw [Z311] at h;exact W
        ·refine Zej fun all H=>Ds (GP H 5 18 [5,18] [(64,[.ptr 0 0,.ptr 0 0,.ptr 0 2,Sp3 x1.DK.DI.SD,.iv x15])] (Ds ?_));have ⟨x16,ex16,h⟩:=Bs h;refine Zjc H.1 H.2.1 H.2.2.1 H.2.2.2 5 Side.row ex16 rfl rfl trivial rfl rfl rfl rfl (GP H 4 13 [10,13] [(70,[.elt (Side.row x16) 2,.iv x16.State,.bv (decide (x16.State=3)),.bv (decide (x16.State=3))])] (Ds ?_));refine Zcd 73 h rfl (fun _ h=>?_) fun _ h=>?_
         ·refine Ds (GP H 8 5 [18,5] [(74,[.ptr 0 0,.ptr 0 4,Sp1 x1.DK.Need,.ptr 0 0,.ptr 0 0,.ptr 0 2,Sp3 x1.DK.DI.SD,.iv x15])] (Ds ?_));have ⟨x17,ex17,h⟩:=Bs h;refine Zjc H.1 H.2.1 H.2.2.1 H.2.2.2 18 Side.row ex17 rfl rfl trivial rfl rfl rfl rfl (Gn H 2 2 ?_);refine Zma 21 rfl (GB H.1 h Zuk fun _ _ h=>?_);refine Gn H 1 0 ?_;refine GD ?_;exact W
         ·refine Ds (GP H 13 0 [23] [(74,[.un,.un,.un,.un,.un,.un,.un,.un,.un,.un,.un,.un,.ff])] (Ds ?_));refine GD ?_;exact W
       ·exact W
    ·refine Zej fun all H=>Ds (GP H 5 19 [5,19] [(31,[.ptr 0 0,.ptr 0 3,.iv x1.DK.TH,.bv (!decide (x1.DK.TH=0)),.bv (!decide (x1.DK.TH=0))])] (Ds ?_));refine Zcd 35 h rfl (fun _ h=>?_) fun _ h=>?_
     ·refine Ds (GP H 6 13 [11,13] [(36,[.ptr 0 5,.ptr 0 6,Sp5 x1.Book.Sess,.iv (ln Sess.row x1.Book.Sess),.bv (decide ((ln Sess.row x1.Book.Sess)=0)),.bv (decide ((ln Sess.row x1.Book.Sess)=0))])] (Ds ?_));refine Zcd 41 h rfl (fun _ h=>?_) fun _ h=>?_
      ·refine Ds (GP H 13 0 [24] [(42,[.un,.un,.un,.un,.un,.un,.un,.un,.un,.un,.un,.tt,.tt])] (Ds ?_));refine GD ?_;exact W
      ·refine Ds (GP H 6 7 [14,3,3,4] [(42,[.ptr 0 5,.ptr 0 6,Sp5 x1.Book.Sess]),(3,[.ptr 0 0,.ptr 0 4,Sp1 x1.DK.Need])] (Ds ?_));have ⟨x7,ex7,h⟩:=Bs h;refine Zjc H.1 H.2.1 H.2.2.1 H.2.2.2 14 Sess.row ex7 rfl rfl trivial rfl rfl rfl rfl (Gn H 2 4 ?_);refine Zma 20 rfl (GB H.1 h Zyk fun x8 _ h=>?_);refine Ds (GP H 3 0 [24] [(52,[.bv (!x8),.bv (!x8),.bv (!x8)])] (Ds ?_));refine GD ?_;exact W
     ·refine Ds (GP H 19 0 [24] [(36,[.un,.un,.un,.un,.un,.un,.un,.un,.un,.un,.un,.un,.un,.un,.un,.un,.un,.un,.ff])] (Ds ?_));refine GD ?_;exact W
 ·refine MC 11 h (fun h=>?_) fun h=>?_
  ·exact W
  ·refine Vg 2 ?_;refine VB h Ziv fun _ _ h=>?_;refine Vg 3 ?_;refine MC 17 h (fun h=>?_) fun h=>?_
   ·exact W
   ·refine Vg 1 ?_;refine VB h Z5z fun _ _ h=>?_;exact W
@[go_sem] def e9:EC:=eQ Tryz.f9
def Z911 (x1 x2:Hall):Unit→Option Bool
| ()=>
 (Z4m x1.Mail x2.Mail).bind fun x15=>
 some x15
def Za11 (x1 x2:Hall):Int→Option (Int ⊕ Bool)
| x7=>
 ifb (decide (x7<(ln Node.row x1.Nodes))) (
 (at_ x1.Nodes x7).bind fun x8=>
 (at_ x2.Nodes x7).bind fun x9=>
 (Zqy x8 x9).bind fun x10=>
 ifb (!x10) (
 Option.map Sum.inr (some false)) (
 some (.inl (wr (x7+1))))) (
 Option.map Sum.inr ((Z911 x1 x2) ()))
def Zb11 (x1 x2:Hall):Option Bool:=
 ifb (!decide ((ln Node.row x1.Nodes)=(ln Node.row x2.Nodes))) (
 some false) (
 loop (Za11 x1 x2) 0)
theorem Zc11 {x1 x2 r} (h:Zb11 x1 x2=some r):Zy6 Tryz.prog 9 [.agg (Hall.row x1),.agg (Hall.row x2)] (.bv r):=by
 have ok:=oK 9 Tryz.f9 e9 [.t 4] 2 35;refine FP ok fun w0 H0=>?_;rw [Zb11] at h;refine Vg 17 ?_;refine MI h (fun h=>?_) fun h=>?_
 ·exact W
 ·refine Vg 6 ?_;refine Vk [2,2] (fun _=>[]) (Z911 x1 x2) r ?_ fun J1=>?_
  ·rintro ⟨⟩ h;rw [Z911] at h;(try dsimp only);refine Vg 6 ?_;refine VB h Z5m fun _ _ h=>?_;exact W
  ·refine Vg 1 ?_;refine Mk h [2,2] (fun x7=>[(5,.iv x7)]) ?_;rintro n1 x7 y1 h hin1 hout1;rw [Za11] at h;(try dsimp only);refine Vg 9 ?_;refine MI h (fun h=>?_) fun h=>?_
   ·refine Vg 4 ?_;have ⟨x8,ex8,h⟩:=Bs h;have ⟨x9,ex9,h⟩:=Bs h;have ⟨x10,ex10,h⟩:=Bs h;have q0:=Zry ex10;refine Zej fun all H=>Gs ?_;exact W
   ·exact W
@[go_sem] def e12:EC:=eQ Tryz.f12
def Zd11 (x2:List Mail):List Node→Option Hall
| x20=>some (Hall.mk x20 x2)
def Ze11 (x1:Hall) (x2:List Mail):(Int×List Node)→Option ((Int×List Node) ⊕ Hall)
| (x8,x9)=>
 ifb (decide (x8<(ln Node.row x1.Nodes))) (
 (at_ x1.Nodes x8).bind fun x10=>
 (Zny x10).bind fun x11=>
 (Z7c 176 x9 ([x11])).bind fun x13=>
 some (.inl (wr (x8+1),x13))) (
 Option.map Sum.inr ((Zd11 x2) x9))
def Zf11 (x1:Hall):Option Hall:=
 (Z7c 40 (([]:List Mail)) x1.Mail).bind fun x2=>
 loop (Ze11 x1 x2) (0,([]:List Node))
theorem Zg11 {x1 r} (h:Zf11 x1=some r):Zy6 Tryz.prog 12 [.agg (Hall.row x1)] (.agg (Hall.row r)):=by
 have ok:=oK 12 Tryz.f12 e12 [.c 2 (some 2)] 1 28;refine FP ok fun w0 H0=>?_;rw [Zf11] at h;refine Vg 10 ?_;have ⟨x2,ex2,h⟩:=Bs h;refine Zlc Mail.row ex2 trivial rfl rfl rfl (Vg 9 ?_);refine Vl [2,2] (fun x20=>([],[none,some ⟨29,[.nl,.nl]⟩,some ⟨29,[.osl 2,.osl 1]⟩],[none,Sq6 x2,Sq0 x20])) (Zd11 x2) r ?_ fun J1=>?_
 ·intro x20 h;rw [Zd11] at h;(try dsimp only);refine Vg 5 ?_;refine Zhj 2 (Ds ?_);refine Zhj 1 ?_;exact W
 ·refine Vg 1 ?_;refine Zij 2 0 67 10 (Ds ?_);refine Mm h [1,3] (fun s=>([(4,.iv s.1)],[],[],[(2,Sq0 s.2)])) ?_;rintro n1 ⟨x8,x9⟩ y1 h hin1 hout1;rw [Ze11] at h;(try dsimp only);refine Vg 9 ?_;refine MI h (fun h=>?_) fun h=>?_
  ·refine Vg 3 ?_;have ⟨x10,ex10,h⟩:=Bs h;have ⟨x11,ex11,h⟩:=Bs h;have ⟨x13,ex13,h⟩:=Bs h;have q0:=Zoy ex11;refine Zej fun all H=>Gs ?_;refine Vg 6 ?_;refine Zgj 4 2 ?_;exact W
  ·exact W
@[go_sem] def e36:EC:=eQ Tryz.f36
theorem ok36:FnOK Tryz.prog 36 Tryz.f36 e36 [.c 4 (some 2),.t 5,.t 6] 2 45:=okA
@[go_sem] def e212:EC:=eQ Tryz.f212
def Zh11 (x1:List Int) (x2:Int):Option (List Int):=
 (Zkz x1 ([x2])).bind fun x3=>
 some x3
theorem Zi11 {x1 x2 r} (h:Zh11 x1 x2=some r):Zy6 Tryz.prog 212 [Sp1 x1,.iv x2] (Sp1 r):=by have ok:=oK 212 Tryz.f212 e212 [.t 4] 2 7;refine FP ok fun w0 H0=>?_;rw [Zh11] at h;refine Vg 9 ?_;refine Zhj 0 (Ds ?_);refine VB h Zmz fun _ _ h=>?_;exact W
@[go_sem] def e139:EC:=eQ Tryz.f139
def Zj11 (x1 x2:List Int):Option (List Int):=
 (Zpz x1 ((fun z=>Znz z x2))).bind fun x3=>
 some x3
theorem Zk11 {x1 x2 r} (h:Zj11 x1 x2=some r):Zy6 Tryz.prog 139 [Sp1 x1,Sp1 x2] (Sp1 r):=by have ok:=oK 139 Tryz.f139 e139 [.t 4] 2 6;refine FP ok fun w0 H0=>?_;rw [Zj11] at h;refine Vg 9 ?_;refine Ze8 0 rfl rfl (Ds ?_);refine VB h (fun e=>Zqz e ⟨by kernel_rfl,rfl,fun z r hz=>Zoz hz⟩) fun _ _ h=>?_;exact W
@[go_sem] def e121:EC:=eQ Tryz.f121
def Zl11 (x1:Book) (x2:Int) (x4:List Int):Int→Option (Book×Int)
| x7=>
 ifb (!decide (x7=0)) (
 some ((Book.mk 0 (([]:List Sess))),x7)) (
 (Ztw x1).bind fun x8=>
 (Z7c 48 x8 ([Sess.mk x2 x4 0 0])).bind fun x9=>
 some ((Book.mk x2 x9),0))
def Zm11 (x1:Book) (x2:Int) (x3:List Int):Option (Book×Int):=
 (Zur x3).bind fun x4=>
 (Zxz x1).bind fun x5=>
 ifb (!decide (x5=0)) (
 (Zl11 x1 x2 x4) x5) (
 ifb (decide (x2≤x1.Last)) (
 (Zl11 x1 x2 x4) 171) (
 (Zww x4).bind fun x6=>
 ifb x6 (
 (Zl11 x1 x2 x4) 172) (
 ifb (decide ((ln Sess.row x1.Sess)=8)) (
 (Zl11 x1 x2 x4) 173) (
 (Zl11 x1 x2 x4) x5))))
theorem Zn11 {x1 x2 x3 r} (h:Zm11 x1 x2 x3=some r):Zy6 Tryz.prog 121 [.agg (Book.row x1),.iv x2,Sp1 x3] (.tup [.agg (Book.row r.1),.iv r.2]):=by
 have ok:=oK 121 Tryz.f121 e121 [.c 6 (some 2),.t 7] 3 44;refine FP ok fun w0 H0=>?_;rw [Zm11] at h;refine Vg 9 ?_;have ⟨x4,ex4,h⟩:=Bs h;refine Ztd trivial (Zvr ex4) (h:=?_);refine Vg 5 ?_;refine VB h Zyz fun _ _ h=>?_;refine Vg 10 ?_;refine Vk [1,1,1,1,2,1,1,1] (fun x7=>[(9,.iv x7)]) (Zl11 x1 x2 x4) r ?_ fun J1=>?_
 ·intro x7 h;rw [Zl11] at h;(try dsimp only);refine Vg 7 ?_;refine MI h (fun h=>?_) fun h=>?_
  ·exact W
  ·refine Vg 4 ?_;refine VR [] [] 2 1 h Zuw fun _ _ h=>?_;refine Vg 15 ?_;refine Zhj 0 ?_;refine Vg 1 ?_;have ⟨x9,ex9,h⟩:=Bs h;refine Zlc Sess.row ex9 trivial rfl rfl rfl (Vg 9 ?_);refine Zhj 3 ?_;exact W
 ·refine MI h (fun h=>?_) fun h=>?_
  ·exact W
  ·refine Vg 8 ?_;refine MI h (fun h=>?_) fun h=>?_
   ·exact W
   ·refine Vg 3 ?_;refine VN (LR.slice 0 rfl) h Zxw fun _ _ h=>?_;exact W
@[go_sem] def e182:EC:=eQ Tryz.f182
def Zo11 (x1:Book):Bool→Option (Book×Int×Int)
| x4=>
 ifb x4 (
 some ((Book.mk 0 (([]:List Sess))),0,175)) (
 (Ztw x1).bind fun x5=>
 (at_ x5 0).bind fun x6=>
 some ((Book.mk x1.Last (x5.set (Int.toNat (0)) (Sess.mk x6.ID x6.Need 1 x6.Age))),x6.ID,0))
def Zp11 (x1:Book):Option (Book×Int×Int):=
 (Zxz x1).bind fun x2=>
 ifb (!decide (x2=0)) (
 some ((Book.mk 0 (([]:List Sess))),0,x2)) (
 ifb (decide ((ln Sess.row x1.Sess)=0)) (
 (Zo11 x1) true) (
 (at_ x1.Sess 0).bind fun x3=>
 (Zo11 x1) (decide (x3.State=1))))
theorem Zq11 {x1 r} (h:Zp11 x1=some r):Zy6 Tryz.prog 182 [.agg (Book.row x1)] (.tup [.agg (Book.row r.1),.iv r.2.1,.iv r.2.2]):=by
 have ok:=oK 182 Tryz.f182 e182 [.c 2 (some 2),.t 3,.t 4] 1 36;refine FP ok fun w0 H0=>?_;rw [Zp11] at h;refine Vg 11 ?_;refine VB h Zyz fun _ _ h=>?_;refine Vg 7 ?_;refine MI h (fun h=>?_) fun h=>?_
 ·exact W
 ·refine Vg 9 ?_;refine Vk [1,2] (fun x4=>[(23,.bv x4)]) (Zo11 x1) r ?_ fun J1=>?_
  ·intro x4 h;rw [Zo11] at h;(try dsimp only);refine MI h (fun h=>?_) fun h=>?_
   ·exact W
   ·refine Vg 4 ?_;refine VR [] [] 2 0 h Zuw fun _ _ h=>?_;refine Vg 6 ?_;have ⟨x6,ex6,h⟩:=Bs h;refine Zde Sess.row ex6 trivial rfl rfl rfl (Vg 1 ?_);refine Zue [.iv 1] Sess.row (y':=(Sess.mk x6.ID x6.Need 1 x6.Age)) ex6 trivial rfl rfl rfl (by first | exact Zqb _ | simp [go_sem]) rfl rfl rfl rfl (Zf6 2 (Ds ?_));refine An (Zej fun all H=>Gs ?_);refine Zhj 0 ?_;exact W
  ·exact W
@[go_sem] def e205:EC:=eQ Tryz.f205
def Zr11 (x1:Book) (x2:Int):Option (Int×Int):=
 (Zxz x1).bind fun x3=>
 ifb (!decide (x3=0)) (
 some (0,x3)) (
 (Z8s x1 x2).bind fun x4=>
 ifb (decide (x4<0)) (
 some (0,174)) (
 (at_ x1.Sess x4).bind fun x5=>
 some (x5.State,0)))
theorem Zs11 {x1 x2 r} (h:Zr11 x1 x2=some r):Zy6 Tryz.prog 205 [.agg (Book.row x1),.iv x2] (.tup [.iv r.1,.iv r.2]):=by
 have ok:=oK 205 Tryz.f205 e205 [.t 4,.t 5] 2 22;refine FP ok fun w0 H0=>?_;rw [Zr11] at h;refine Vg 10 ?_;refine VB h Zyz fun _ _ h=>?_;refine Vg 7 ?_;refine MI h (fun h=>?_) fun h=>?_
 ·exact W
 ·refine Vg 5 ?_;refine VB h Z9s fun _ _ h=>?_;exact W
@[go_sem] def e101:EC:=eQ Tryz.f101
def Zt11:Bool→Option Int
| x3=>
 ifb x3 (
 some 130) (
 some 0)
def Zu11 (x1:DI):Option Int:=
 ifb (decide (x1.ID<0)) (
 Zt11 true) (
 ifb (decide (x1.PH<0)) (
 Zt11 true) (
 ifb (decide (2<x1.PH)) (
 Zt11 true) (
 ifb (decide (64≤(ln Side.row x1.SD))) (
 Zt11 true) (
 (Zzz x1.SD ((-1)) x1).bind fun x2=>
 Zt11 x2.1))))
theorem Zv11 {x1 r} (h:Zu11 x1=some r):Zy6 Tryz.prog 101 [.agg (DI.row x1)] (.iv r):=by
 have ok:=oK 101 Tryz.f101 e101 [.t 2] 1 30;refine FP ok fun w0 H0=>?_;rw [Zu11] at h;refine Vg 22 ?_;refine Vl [] (fun x3=>([(30,.bv x3)],[],[])) Zt11 r ?_ fun J1=>?_
 ·intro x3 h;rw [Zt11] at h;exact W
 ·refine MC 9 h (fun h=>?_) fun h=>?_
  ·exact W
  ·refine Vg 5 ?_;refine MC 14 h (fun h=>?_) fun h=>?_
   ·exact W
   ·refine Vg 5 ?_;refine MC 19 h (fun h=>?_) fun h=>?_
    ·exact W
    ·refine Vg 6 ?_;refine MC 25 h (fun h=>?_) fun h=>?_
     ·exact W
     ·refine Vg 3 ?_;refine VR [1,0] [] 2 0 h Z001 fun _ _ h=>?_;exact W
@[go_sem] def e128:EC:=eQ Tryz.f128
def Zw11 (x1:Book) (x2:Int) (x4:List Sess):Bool→Option (Book×Int×Int)
| x6=>
 ifb x6 (
 some ((Book.mk x1.Last x4),0,0)) (
 (at_ x4 0).bind fun x7=>
 ifb (decide ((max x7.Age (wr ((min x7.Age 4611686018427387903)+1)))<x2)) (
 some ((Book.mk x1.Last (x4.set (Int.toNat (0)) (Sess.mk x7.ID x7.Need x7.State (max x7.Age (wr ((min x7.Age 4611686018427387903)+1)))))),0,0)) (
 (Z6s 0 1 (x4.set (Int.toNat (0)) (Sess.mk x7.ID x7.Need x7.State (max x7.Age (wr ((min x7.Age 4611686018427387903)+1)))))).bind fun x8=>
 some ((Book.mk x1.Last x8),x7.ID,0)))
def Zx11 (x1:Book) (x2:Int):Option (Book×Int×Int):=
 (Zxz x1).bind fun x3=>
 ifb (!decide (x3=0)) (
 some ((Book.mk 0 (([]:List Sess))),0,x3)) (
 (Ztw x1).bind fun x4=>
 ifb (decide ((ln Sess.row x4)=0)) (
 (Zw11 x1 x2 x4) true) (
 (at_ x4 0).bind fun x5=>
 (Zw11 x1 x2 x4) (!decide (x5.State=1))))
theorem Zy11 {x1 x2 r} (h:Zx11 x1 x2=some r):Zy6 Tryz.prog 128 [.agg (Book.row x1),.iv x2] (.tup [.agg (Book.row r.1),.iv r.2.1,.iv r.2.2]):=by
 have ok:=oK 128 Tryz.f128 e128 [.c 4 (some 2),.t 5,.t 6] 2 63;refine FP ok fun w0 H0=>?_;rw [Zx11] at h;refine Vg 11 ?_;refine VB h Zyz fun _ _ h=>?_;refine Vg 7 ?_;refine MI h (fun h=>?_) fun h=>?_
 ·exact W
 ·refine Vg 4 ?_;refine VR [] [] 2 0 h Zuw fun x4 _ h=>?_;refine Vg 10 ?_;refine Vk [1,2,1,1] (fun x6=>[(29,.bv x6)]) (Zw11 x1 x2 x4) r ?_ fun J1=>?_
  ·intro x6 h;rw [Zw11] at h;(try dsimp only);refine MI h (fun h=>?_) fun h=>?_
   ·refine Vg 7 ?_;refine Zhj 0 ?_;exact W
   ·refine Vg 5 ?_;have ⟨x7,ex7,h⟩:=Bs h;refine Zde Sess.row ex7 trivial rfl rfl rfl (Vg 3 ?_);refine Zej fun all H=>Ds (GP H 7 8 [4,1,3,7] [(34,[.oel 0 (Int.toNat (0)*4) 0,.oel 0 (Int.toNat (0)*4) 0,.oel 0 (Int.toNat (0)*4) 0,.oel 0 (Int.toNat (0)*4) 3]),(1,[.oel 0 (Int.toNat (0)*4) 0,.oel 0 (Int.toNat (0)*4) 0,.oel 0 (Int.toNat (0)*4) 3])] (Ds ?_));refine Zna 4 8 rfl ?_ ?_
    ·refine RL ?_;refine RO ?_;refine RL ?_;refine R1 ?_;refine Gn H 1 4 ?_;refine R1 ?_;refine Gn H 2 1 ?_;refine Zma 14 rfl (Zuf H.1 [.iv (max x7.Age (wr ((min x7.Age 4611686018427387903)+1)))] Sess.row (y':=(Sess.mk x7.ID x7.Need x7.State (max x7.Age (wr ((min x7.Age 4611686018427387903)+1))))) ex7 rfl trivial rfl rfl rfl (by first | exact Zqb _ | simp [go_sem]) rfl rfl rfl rfl (Ds ?_));refine GD (Vg 6 ?_);refine Zke Sess.row (Zee ex7) trivial rfl rfl rfl (Vg 3 ?_);refine MI h (fun h=>?_) fun h=>?_
     ·refine Vg 7 ?_;refine Zhj 0 ?_;exact W
     ·refine Vg 6 ?_;refine Zke Sess.row (Zee ex7) trivial rfl rfl rfl (Vg 6 ?_);refine VR [] [0] 2 1 h Z7s fun x8 ex8 h=>?_;refine Vg 11 ?_;refine Zhj 1 ?_;exact W
    ·refine RL ?_;refine Zna 4 9 rfl ?_ ?_
     ·refine RL ?_;refine R1 ?_;refine Gn H 1 4 ?_;refine R1 ?_;refine Gn H 2 1 ?_;refine Zma 14 rfl (Zuf H.1 [.iv (max x7.Age (wr ((min x7.Age 4611686018427387903)+1)))] Sess.row (y':=(Sess.mk x7.ID x7.Need x7.State (max x7.Age (wr ((min x7.Age 4611686018427387903)+1))))) ex7 rfl trivial rfl rfl rfl (by first | exact Zqb _ | simp [go_sem]) rfl rfl rfl rfl (Ds ?_));refine GD (Vg 6 ?_);refine Zke Sess.row (Zee ex7) trivial rfl rfl rfl (Vg 3 ?_);refine MI h (fun h=>?_) fun h=>?_
      ·refine Vg 7 ?_;refine Zhj 0 ?_;exact W
      ·refine Vg 6 ?_;refine Zke Sess.row (Zee ex7) trivial rfl rfl rfl (Vg 6 ?_);refine VR [] [0] 2 1 h Z7s fun x8 ex8 h=>?_;refine Vg 11 ?_;refine Zhj 1 ?_;exact W
     ·refine RV ?_;refine Gn H 1 5 ?_;refine RO ?_;refine RL ?_;refine R1 ?_;refine Gn H 2 1 ?_;refine Zma 14 rfl (Zuf H.1 [.iv (max x7.Age (wr ((min x7.Age 4611686018427387903)+1)))] Sess.row (y':=(Sess.mk x7.ID x7.Need x7.State (max x7.Age (wr ((min x7.Age 4611686018427387903)+1))))) ex7 rfl trivial rfl rfl rfl (by first | exact Zqb _ | simp [go_sem]) rfl rfl rfl rfl (Ds ?_));refine GD (Vg 6 ?_);refine Zke Sess.row (Zee ex7) trivial rfl rfl rfl (Vg 3 ?_);refine MI h (fun h=>?_) fun h=>?_
      ·refine Vg 7 ?_;refine Zhj 0 ?_;exact W
      ·refine Vg 6 ?_;refine Zke Sess.row (Zee ex7) trivial rfl rfl rfl (Vg 6 ?_);refine VR [] [0] 2 1 h Z7s fun _ _ h=>?_;refine Vg 11 ?_;refine Zhj 1 ?_;exact W
  ·refine MC 22 h (fun h=>?_) fun h=>?_
   ·exact W
   ·refine Vg 2 ?_;have ⟨x5,ex5,h⟩:=Bs h;refine Zde Sess.row ex5 trivial rfl rfl rfl (Vg 1 ?_);refine Zke Sess.row ex5 trivial rfl rfl rfl ?_;exact W
@[go_sem] def e132:EC:=eQ Tryz.f132
theorem Zz11:FnOK Tryz.prog 132 Tryz.f132 e132 [] 3 40:=okA
end
end NX
end Go.Proofs.YtgamgemlekpepaaGreat
