/-
  The function narthex/H.1.New: its code compiled, a model, and that the code answers as the model. Written by a program of ours (lb.py). No statement of the seat is proved here.
-/
import Derived.Test.YtgamgemlekpepaaGreatH28
set_option maxRecDepth 100000
set_option maxHeartbeats 40000000
namespace Go.Proofs.YtgamgemlekpepaaGreat
namespace NX
open Go
noncomputable section
@[go_sem] def e6:EC:=eQ Tryz.f6
def Zp81:List Node→Option (Hall×Int)
| x19=>some ((Hall.mk x19 (([]:List Mail))),0)
def Zq81 (x2:(Bar×Int)):(Int×List Node)→Option ((Int×List Node) ⊕ (Hall×Int))
| (x8,x9)=>
 ifb (decide (x8<(ln DK.row x2.1.Drinkers))) (
 (at_ x2.1.Drinkers x8).bind fun x10=>
 (Ze81 x10).bind fun x11=>
 ifb (!decide (x11.2=0)) (
 Option.map Sum.inr (some ((Hall.mk (([]:List Node)) (([]:List Mail))),x11.2))) (
 (Z7c 176 x9 ([x11.1])).bind fun x12=>
 some (.inl (wr (x8+1),x12)))) (
 Option.map Sum.inr (Zp81 x9))
def Zr81 (x1:Graph):Option (Hall×Int):=
 (Z671 x1).bind fun x2=>
 ifb (!decide (x2.2=0)) (
 some ((Hall.mk (([]:List Node)) (([]:List Mail))),x2.2)) (
 loop (Zq81 x2) (0,([]:List Node)))
theorem Zs81 {x1 r} (h:Zr81 x1=some r):Zy6 Tryz.prog 6 [.agg (Graph.row x1)] (.tup [.agg (Hall.row r.1),.iv r.2]):=by
 have ok:=oK 6 Tryz.f6 e6 [.c 2 (some 2),.t 3] 1 43;refine FP ok fun w0 H0=>?_;rw [Zr81] at h;refine Vg 9 ?_;refine VB h Z771 fun _ _ h=>?_;refine Vg 13 ?_;refine MI h (fun h=>?_) fun h=>?_
 ·exact W
 ·refine Vg 13 ?_;refine Vl [2,1,3,1] (fun x19=>([],[none,some ⟨29,[.nl,.nl]⟩,none,some ⟨29,[.osl 0,.nl]⟩],[Sq0 x19])) Zp81 r ?_ fun J1=>?_
  ·intro x19 h;rw [Zp81] at h;(try dsimp only);refine Vg 6 ?_;refine Zhj 0 ?_;exact W
  ·refine Vg 1 ?_;refine Zij 3 0 67 10 (Ds ?_);refine Mm h [2,1,3,1,14,2] (fun s=>([(23,.iv s.1)],[],[(0,none),(2,none)],[(0,Sq0 s.2)])) ?_;rintro n1 ⟨x8,x9⟩ y1 h hin1 hout1;rw [Zq81] at h;(try dsimp only);refine Vg 5 ?_;refine MI h (fun h=>?_) fun h=>?_
   ·refine Vg 5 ?_;have ⟨x10,ex10,h⟩:=Bs h;refine Zic DK.row ex10 trivial rfl rfl rfl (Vg 7 ?_);refine VB h Zf81 fun _ _ h=>?_;refine Vg 13 ?_;refine MI h (fun h=>?_) fun h=>?_
    ·exact W
    ·refine Vg 6 ?_;have ⟨x12,ex12,h⟩:=Bs h;refine Zlc Node.row ex12 trivial rfl rfl rfl (Vg 8 ?_);refine Zgj 2 0 ?_;exact W
   ·exact W
@[go_sem] def e39:EC:=eQ Tryz.f39
def Zt81 (x3:(List Side×List Int×List KE×List Int×List KE×List Sess)):(Int×Int×Int×Int×List Sess×Int×List Side×List Int×List KE×List Event)→Option (Node×List Mail×List Event×Int)
| (x26,x27,x28,x29,x30,x31,x32,x33,x34,x35)=>
 (Zn81 x26 x27 x28 x29 x30 x3.2.2.2.1 x31 x32 x33 x34 x3.2.2.2.2.1 x35).bind fun x36=>
 some ((Node.mk (DK.mk (DI.mk x36.1 x36.2.1 x36.2.2.2.2.2.2.2.1) x36.2.2.1 x36.2.2.2.2.2.2.2.2.1) (Book.mk x36.2.2.2.1 x36.2.2.2.2.1) x36.2.2.2.2.2.2.2.2.2.1 x36.2.2.2.2.2.1 x36.2.2.2.2.2.2.2.2.2.2.1),x36.2.2.2.2.2.2.2.2.2.2.2.1,x36.2.2.2.2.2.2.2.2.2.2.2.2,x36.2.2.2.2.2.2.1)
def Zu81 (x1:Node) (x2:Do) (x3:(List Side×List Int×List KE×List Int×List KE×List Sess)) (x5:Int) (x6:Int):Int→Option (Node×List Mail×List Event×Int)
| x11=>
 (Z6t (decide (x5<0)) 183 x1.DK.DI.ID x1.DK.DI.PH x1.DK.TH x1.Book.Last x11 x3.1 x3.2.1 x3.2.2.2.2.2 x3.2.2.1 x3.2.2.2.1 x3.2.2.2.2.1).bind fun x12=>
 (Z6t (decide (x6<65535)) 186 x1.DK.DI.ID x1.DK.DI.PH x1.DK.TH x1.Book.Last x12.2 x3.1 x3.2.1 x3.2.2.2.2.2 x3.2.2.1 x3.2.2.2.1 x3.2.2.2.2.1).bind fun x13=>
 ifb x13.1 (
 (Z451 (Side.mk x2.Peer (wr (x6+1)) 1 true true false true false) x1.DK.DI.ID x1.DK.DI.PH x1.DK.TH x1.Book.Last x13.2 x3.1 x3.2.1 x3.2.2.2.2.2 x3.2.2.1 x3.2.2.2.1 x3.2.2.2.2.1).bind fun x14=>
 (Zt81 x3) (x1.DK.DI.ID,x1.DK.DI.PH,x1.DK.TH,x1.Book.Last,x3.2.2.2.2.2,x13.2,x14.1,x3.2.1,x14.2,([]:List Event))) (
 (Zt81 x3) (x1.DK.DI.ID,x1.DK.DI.PH,x1.DK.TH,x1.Book.Last,x3.2.2.2.2.2,x13.2,x3.1,x3.2.1,x3.2.2.1,([]:List Event)))
def Zv81 (x1:Node) (x2:Do) (x3:(List Side×List Int×List KE×List Int×List KE×List Sess)):(Bool×Int)→Option (Node×List Mail×List Event×Int)
| (x22,x23)=>
 ifb x22 (
 (Zl71 x2.Peer x1.DK.DI.ID x1.DK.DI.PH x1.DK.TH x1.Book.Last x23 x3.1 x3.2.1 x3.2.2.2.2.2 x3.2.2.1 x3.2.2.2.1 x3.2.2.2.2.1).bind fun x24=>
 (Zt81 x3) (x24.1,x24.2.1,x24.2.2.1,x24.2.2.2.1,x24.2.2.2.2.1,x23,x24.2.2.2.2.2.2.1,x24.2.2.2.2.2.2.2,x3.2.2.1,x24.2.2.2.2.2.1)) (
 (Zt81 x3) (x1.DK.DI.ID,x1.DK.DI.PH,x1.DK.TH,x1.Book.Last,x3.2.2.2.2.2,x23,x3.1,x3.2.1,x3.2.2.1,([]:List Event)))
def Zw81 (x1:Node) (x2:Do) (x3:(List Side×List Int×List KE×List Int×List KE×List Sess)) (x5:Int):Int→Option (Node×List Mail×List Event×Int)
| x17=>
 (Z6t (decide (0≤x5)) 184 x1.DK.DI.ID x1.DK.DI.PH x1.DK.TH x1.Book.Last x17 x3.1 x3.2.1 x3.2.2.2.2.2 x3.2.2.1 x3.2.2.2.1 x3.2.2.2.2.1).bind fun x18=>
 ifb x18.1 (
 (at_ x3.1 x5).bind fun x19=>
 (Zzm x19).bind fun x20=>
 (Z6t x20 185 x1.DK.DI.ID x1.DK.DI.PH x1.DK.TH x1.Book.Last x18.2 x3.1 x3.2.1 x3.2.2.2.2.2 x3.2.2.1 x3.2.2.2.1 x3.2.2.2.2.1).bind fun x21=>
 (Zv81 x1 x2 x3) (x21.1,x21.2)) (
 (Zv81 x1 x2 x3) (false,x18.2))
def Zx81 (x1:Node) (x2:Do) (x3:(List Side×List Int×List KE×List Int×List KE×List Sess)) (x4:Int) (x5 x6:Int):Bool→Option (Node×List Mail×List Event×Int)
| x7=>
 ifb x7 (
 ifb (decide (x4=0)) (
 (Ze71 x2 x1.DK.DI.ID x1.DK.DI.PH x1.DK.TH x1.Book.Last x4 x3.1 x3.2.1 x3.2.2.2.2.2 x3.2.2.1 x3.2.2.2.1 x3.2.2.2.2.1).bind fun x8=>
 (Zt81 x3) (x8.1,x8.2.1,x8.2.2.1,x8.2.2.2.1,x8.2.2.2.2.1,x8.2.2.2.2.2.1,x8.2.2.2.2.2.2.2.1,x8.2.2.2.2.2.2.2.2,x3.2.2.1,x8.2.2.2.2.2.2.1)) (
 (Zt81 x3) (x1.DK.DI.ID,x1.DK.DI.PH,x1.DK.TH,x1.Book.Last,x3.2.2.2.2.2,x4,x3.1,x3.2.1,x3.2.2.1,([]:List Event)))) (
 ifb (decide (x2.Kind=4)) (
 ifb (decide (x1.DK.DI.ID<x2.Peer)) (
 (Z6t (decide (x2.Peer<64)) 182 x1.DK.DI.ID x1.DK.DI.PH x1.DK.TH x1.Book.Last x4 x3.1 x3.2.1 x3.2.2.2.2.2 x3.2.2.1 x3.2.2.2.1 x3.2.2.2.2.1).bind fun x9=>
 (Zu81 x1 x2 x3 x5 x6) x9.2) (
 (Zat 182 x1.DK.DI.ID x1.DK.DI.PH x1.DK.TH x1.Book.Last x4 x3.1 x3.2.1 x3.2.2.2.2.2 x3.2.2.1 x3.2.2.2.1 x3.2.2.2.2.1).bind fun x10=>
 (Zu81 x1 x2 x3 x5 x6) x10.2)) (
 ifb (decide (x2.Kind=5)) (
 ifb (decide (x1.DK.DI.ID<x2.Peer)) (
 (Z6t (decide (x2.Peer<64)) 182 x1.DK.DI.ID x1.DK.DI.PH x1.DK.TH x1.Book.Last x4 x3.1 x3.2.1 x3.2.2.2.2.2 x3.2.2.1 x3.2.2.2.1 x3.2.2.2.2.1).bind fun x15=>
 (Zw81 x1 x2 x3 x5) x15.2) (
 (Zat 182 x1.DK.DI.ID x1.DK.DI.PH x1.DK.TH x1.Book.Last x4 x3.1 x3.2.1 x3.2.2.2.2.2 x3.2.2.1 x3.2.2.2.1 x3.2.2.2.2.1).bind fun x16=>
 (Zw81 x1 x2 x3 x5) x16.2)) (
 (Zat 188 x1.DK.DI.ID x1.DK.DI.PH x1.DK.TH x1.Book.Last x4 x3.1 x3.2.1 x3.2.2.2.2.2 x3.2.2.1 x3.2.2.2.1 x3.2.2.2.2.1).bind fun x25=>
 (Zt81 x3) (x1.DK.DI.ID,x1.DK.DI.PH,x1.DK.TH,x1.Book.Last,x3.2.2.2.2.2,x25.2,x3.1,x3.2.1,x3.2.2.1,([]:List Event)))))
def Zy81 (x1:Node) (x2:Do):Option (Node×List Mail×List Event×Int):=
 (Zcx x1).bind fun x3=>
 (Zu71 x1).bind fun x4=>
 (Zct (node_node.mk (Node.mk (DK.mk (DI.mk x1.DK.DI.ID x1.DK.DI.PH x3.1) x1.DK.TH x3.2.1) (Book.mk x1.Book.Last x3.2.2.2.2.2) x3.2.2.1 x3.2.2.2.1 x3.2.2.2.2.1) (([]:List Mail)) (([]:List Event)) x4) x2.Peer).bind fun x5=>
 (Z3o x1 x2.Peer).bind fun x6=>
 ifb (decide (x2.Kind=0)) (
 (Zx81 x1 x2 x3 x4 x5 x6) (decide (x2.Kind=0))) (
 ifb (decide (x2.Kind=1)) (
 (Zx81 x1 x2 x3 x4 x5 x6) (decide (x2.Kind=1))) (
 ifb (decide (x2.Kind=2)) (
 (Zx81 x1 x2 x3 x4 x5 x6) (decide (x2.Kind=2))) (
 (Zx81 x1 x2 x3 x4 x5 x6) (decide (x2.Kind=3)))))
theorem Zz81 {x1 x2 r} (h:Zy81 x1 x2=some r):Zy6 Tryz.prog 39 [.agg (Node.row x1),.agg (Do.row x2)] (.tup [.agg (Node.row r.1),Sp9 r.2.1,Sp7 r.2.2.1,.iv r.2.2.2]):=by
 have ok:=oK 39 Tryz.f39 e39 [.c 4 (some 10),.t 5,.t 6,.t 7] 2 116;refine FP ok fun w0 H0=>?_;rw [Zy81] at h;refine Vg 10 ?_;refine Zej fun all H=>?_;refine Gn H 2 5 ?_;refine Zma 1 rfl (GR H.1 [] [] 3 0 h Zdx fun x3 _ h=>?_);refine Ds ?_;refine Zma 3 rfl (GB H.1 h Zv71 fun x4 _ h=>?_);refine Ds ?_;refine GN H 1 2 (Ds ?_);refine An (R1 ?_);refine Gn H 1 0 ?_;refine GD (Vg 5 ?_);refine VN (((((((LR.slice 0 rfl).slice 1 rfl).slice 2 rfl).slice 3 rfl).slice 4 rfl).slice 5 rfl).block 3 rfl rfl) h Zdt fun x5 _ h=>?_;refine Vg 7 ?_;refine VB h Z4o fun x6 _ h=>?_;refine Zf6 15 (Ds ?_);refine An (Vk [2,3,3,3,15,1] (fun x7=>[(29,.bv x7)]) (Zx81 x1 x2 x3 x4 x5 x6) r ?_ fun J1=>?_)
 ·intro x7 h;rw [Zx81] at h;(try dsimp only);refine Vl [4,1,3,1] (fun s=>([],[none,none,some ⟨67,[.iv 0,.iv 0,.nl,.iv 0,.nl,.iv 0,.nl,.nl,.nl,.nl]⟩,some ⟨138,[.iv s.1,.iv s.2.1,.osl 0,.iv s.2.2.1,.osl 1,.iv s.2.2.2.1,Sp5 s.2.2.2.2.1,.osl 2,.osl 3,.osl 4,.nl,.osl 6,.iv s.2.2.2.2.2.1]⟩],[Zwj s.2.2.2.2.2.2.1,Sq4 s.2.2.2.2.2.2.2.1,Zxj s.2.2.2.2.2.2.2.2.1,Sq4 x3.2.2.2.1,Zxj x3.2.2.2.2.1,none,Zzj s.2.2.2.2.2.2.2.2.2])) (Zt81 x3) r ?_ fun J2=>?_
  ·rintro ⟨x26,x27,x28,x29,x30,x31,x32,x33,x34,x35⟩ h;rw [Zt81] at h;(try dsimp only);refine Vg 4 ?_;refine Zhj 3 (Ds ?_);refine VR [3] [0,1,2,4,6] 4 7 h Zo81 fun _ _ h=>?_;refine Vg 9 ?_;refine Zhj 7 (Ds ?_);refine Zhj 8 (Ds ?_);refine Zhj 9 (Ds ?_);refine Zhj 10 (Ds ?_);refine Zhj 11 (Ds ?_);refine Zhj 12 ?_;exact W
  ·refine MI h (fun h=>?_) fun h=>?_
   ·refine Vg 8 ?_;refine MI h (fun h=>?_) fun h=>?_
    ·refine Vg 3 ?_;refine VR [3] [0,1,5,2,3,4] 4 6 h Zf71 fun _ _ h=>?_;refine Vg 1 ?_;refine Zgj 8 0 (Zgj 9 1 ?_);exact W
    ·refine Vg 1 ?_;refine Zhj 5 (Ds ?_);refine Zij 3 11 77 5 ?_;exact W
   ·refine Vg 5 ?_;refine MI h (fun h=>?_) fun h=>?_
    ·refine Vg 11 ?_;refine Vm [3,2,3,3] (fun x11=>([],[(3,12,.iv x11)],[(0,none)],[])) (Zu81 x1 x2 x3 x5 x6) r ?_ fun J3=>?_
     ·intro x11 h;rw [Zu81] at h;(try dsimp only);refine Vg 5 ?_;refine VR [3] [0,1,5,2,3,4] 4 6 h Z7t fun _ _ h=>?_;refine Vg 6 ?_;refine VR [3] [0,1,5,2,3,4] 4 6 h Z7t fun _ _ h=>?_;refine Vg 1 ?_;refine MI h (fun h=>?_) fun h=>?_
      ·refine Vg 7 ?_;refine VR [3] [0,1,5,2,3,4] 4 6 h Z551 fun _ _ h=>?_;refine Vg 1 ?_;refine Zhj 5 (Ds ?_);refine Zij 3 11 77 5 (Ds ?_);refine Zgj 10 6 (Zgj 7 0 (Zgj 9 2 ?_));exact W
      ·refine Vg 1 ?_;refine Zhj 5 (Ds ?_);refine Zij 3 11 77 5 ?_;exact W
     ·refine MC 52 h (fun h=>?_) fun h=>?_
      ·refine Vg 4 ?_;refine VR [3] [0,1,5,2,3,4] 4 6 h Z7t fun _ _ h=>?_;exact W
      ·refine Vg 4 ?_;refine VR [3] [0,1,5,2,3,4] 4 6 h Zbt fun _ _ h=>?_;exact W
    ·refine Vg 5 ?_;refine MI h (fun h=>?_) fun h=>?_
     ·refine Vg 11 ?_;refine Vm [3,2,3,2] (fun x17=>([],[(3,12,.iv x17)],[(0,none)],[])) (Zw81 x1 x2 x3 x5) r ?_ fun J4=>?_
      ·intro x17 h;rw [Zw81] at h;(try dsimp only);refine Vg 5 ?_;refine VR [3] [0,1,5,2,3,4] 4 6 h Z7t fun _ _ h=>?_;refine Vg 1 ?_;refine Vm [3,2,3,1] (fun s=>([(107,.bv s.1)],[(3,12,.iv s.2)],[],[])) (Zv81 x1 x2 x3) r ?_ fun J5=>?_
       ·rintro ⟨x22,x23⟩ h;rw [Zv81] at h;(try dsimp only);refine MI h (fun h=>?_) fun h=>?_
        ·refine Vg 4 ?_;refine VR [3] [0,1,5,2,3,4] 4 6 h Zm71 fun _ _ h=>?_;refine Vg 1 ?_;refine Zgj 7 6 (Zgj 8 0 (Ds ?_));refine Zgj 9 1 ?_;exact W
        ·refine Vg 1 ?_;refine Zhj 5 (Ds ?_);refine Zij 3 11 77 5 ?_;exact W
       ·refine MC 93 h (fun h=>?_) fun h=>?_
        ·refine Vg 9 ?_;have ⟨x19,ex19,h⟩:=Bs h;refine Zde Side.row ex19 trivial rfl rfl rfl (Zme Side.row ex19 trivial rfl rfl rfl (VB h Z0n fun _ _ h=>?_));refine VR [3] [0,1,5,2,3,4] 4 6 h Z7t fun _ _ h=>?_;exact W
        ·exact W
      ·refine MC 83 h (fun h=>?_) fun h=>?_
       ·refine Vg 4 ?_;refine VR [3] [0,1,5,2,3,4] 4 6 h Z7t fun _ _ h=>?_;exact W
       ·refine Vg 4 ?_;refine VR [3] [0,1,5,2,3,4] 4 6 h Zbt fun _ _ h=>?_;exact W
     ·refine Vg 2 ?_;refine VR [3] [0,1,5,2,3,4] 4 6 h Zbt fun _ _ h=>?_;refine Vg 1 ?_;refine Zhj 5 (Ds ?_);refine Zij 3 11 77 5 ?_;exact W
 ·exact W
@[go_sem] def e44:EC:=eQ Tryz.f44
def Z091 (x11:List KE):(Int×Int×Int×Int×List Sess×List Int×Int×List Side×List Int×List KE×List Event)→Option (Node×List Mail×List Event×Int)
| (x60,x61,x62,x63,x64,x65,x66,x67,x68,x69,x70)=>
 (Zn81 x60 x61 x62 x63 x64 x65 x66 x67 x68 x11 x69 x70).bind fun x71=>
 some ((Node.mk (DK.mk (DI.mk x71.1 x71.2.1 x71.2.2.2.2.2.2.2.1) x71.2.2.1 x71.2.2.2.2.2.2.2.2.1) (Book.mk x71.2.2.2.1 x71.2.2.2.2.1) x71.2.2.2.2.2.2.2.2.2.1 x71.2.2.2.2.2.1 x71.2.2.2.2.2.2.2.2.2.2.1),x71.2.2.2.2.2.2.2.2.2.2.2.1,x71.2.2.2.2.2.2.2.2.2.2.2.2,x71.2.2.2.2.2.2.1)
def Z191 (x1:Node) (x2:Int) (x3:Msg) (x9:List Side) (x10:List Int) (x11:List KE) (x12:List Int) (x13:List KE) (x14:List Sess) (x15:(Bool×Int)):Bool→Option (Node×List Mail×List Event×Int)
| x19=>
 ifb x19 (
 (Zy71 x2 x3 x1.DK.DI.ID x1.DK.DI.PH x1.DK.TH x1.Book.Last x15.2 x9 x10 x14 x11 x12 x13).bind fun x20=>
 (Z091 x11) (x20.1,x20.2.1,x20.2.2.1,x1.Book.Last,x14,x12,x20.2.2.2.1,x20.2.2.2.2.1,x20.2.2.2.2.2,x13,([]:List Event))) (
 (Z091 x11) (x1.DK.DI.ID,x1.DK.DI.PH,x1.DK.TH,x1.Book.Last,x14,x12,x15.2,x9,x10,x13,([]:List Event)))
def Z291 (x1:Node) (x2:Int) (x3:Msg) (x9:List Side) (x10:List Int) (x11:List KE) (x12:List Int) (x13:List KE) (x14:List Sess):(Bool×Int)→Option (Node×List Mail×List Event×Int)
| (x31,x32)=>
 ifb x31 (
 (Z7c 16 x13 ([KE.mk x2 x3.Epoch])).bind fun x33=>
 (Z091 x11) (x1.DK.DI.ID,x1.DK.DI.PH,x1.DK.TH,x1.Book.Last,x14,x12,x32,x9,x10,x33,([]:List Event))) (
 (Z091 x11) (x1.DK.DI.ID,x1.DK.DI.PH,x1.DK.TH,x1.Book.Last,x14,x12,x32,x9,x10,x13,([]:List Event)))
def Z391 (x1:Node) (x2:Int) (x9:List Side) (x10:List Int) (x11:List KE) (x12:List Int) (x13:List KE) (x14:List Sess) (x16:Int):(Bool×Int)→Option (Node×List Mail×List Event×Int)
| (x41,x42)=>
 ifb x41 (
 (at_ x9 x16).bind fun x43=>
 (Zg31 x12 x2).bind fun x44=>
 (Z7u 6 x2 x1.DK.DI.ID x1.DK.DI.PH x1.DK.TH x1.Book.Last x44 x42 (x9.set (Int.toNat (x16)) (Side.mk x43.Peer x43.Epoch 0 x43.Fork x43.DY x43.Token x43.BO x43.Ask)) x10 x14 x11 x13).bind fun x45=>
 (Z091 x11) (x1.DK.DI.ID,x1.DK.DI.PH,x1.DK.TH,x1.Book.Last,x14,x44,x42,x9.set (Int.toNat (x16)) (Side.mk x43.Peer x43.Epoch 0 x43.Fork x43.DY x43.Token x43.BO x43.Ask),x10,x13,x45)) (
 (Z091 x11) (x1.DK.DI.ID,x1.DK.DI.PH,x1.DK.TH,x1.Book.Last,x14,x12,x42,x9,x10,x13,([]:List Event)))
def Z491 (x1:Node) (x2:Int) (x9:List Side) (x10:List Int) (x11:List KE) (x12:List Int) (x13:List KE) (x14:List Sess):(Bool×Int)→Option (Node×List Mail×List Event×Int)
| (x51,x52)=>
 ifb x51 (
 (Zl71 x2 x1.DK.DI.ID x1.DK.DI.PH x1.DK.TH x1.Book.Last x52 x9 x10 x14 x11 x12 x13).bind fun x53=>
 (Z091 x11) (x53.1,x53.2.1,x53.2.2.1,x53.2.2.2.1,x53.2.2.2.2.1,x12,x52,x53.2.2.2.2.2.2.1,x53.2.2.2.2.2.2.2,x13,x53.2.2.2.2.2.1)) (
 (Z091 x11) (x1.DK.DI.ID,x1.DK.DI.PH,x1.DK.TH,x1.Book.Last,x14,x12,x52,x9,x10,x13,([]:List Event)))
def Z591 (x1:Node) (x2:Int) (x3:Msg) (x9:List Side) (x10:List Int) (x11:List KE) (x12:List Int) (x13:List KE) (x14:List Sess) (x15:(Bool×Int)) (x16:Int):Bool→Option (Node×List Mail×List Event×Int)
| x17=>
 ifb x17 (
 ifb (decide (x15.2=0)) (
 ifb (decide (0≤x16)) (
 (at_ x9 x16).bind fun x18=>
 (Z191 x1 x2 x3 x9 x10 x11 x12 x13 x14 x15) (decide (x18.Epoch=x3.Epoch))) (
 (Z191 x1 x2 x3 x9 x10 x11 x12 x13 x14 x15) false)) (
 (Z191 x1 x2 x3 x9 x10 x11 x12 x13 x14 x15) false)) (
 ifb (decide (x3.Kind=5)) (
 (Z7y x1 (KE.mk x2 x3.Epoch)).bind fun x21=>
 ifb x21 (
 (Zpm x1.AK).bind fun x23=>
 (Z7c 16 x23 ([KE.mk x2 x3.Epoch])).bind fun x25=>
 (Zby x25).bind fun x26=>
 (Z6t x26 187 x1.DK.DI.ID x1.DK.DI.PH x1.DK.TH x1.Book.Last x15.2 x9 x10 x14 x11 x12 x13).bind fun x27=>
 (Z291 x1 x2 x3 x9 x10 x11 x12 x13 x14) (x27.1,x27.2)) (
 (Zat 187 x1.DK.DI.ID x1.DK.DI.PH x1.DK.TH x1.Book.Last x15.2 x9 x10 x14 x11 x12 x13).bind fun x28=>
 (Z291 x1 x2 x3 x9 x10 x11 x12 x13 x14) (x28.1,x28.2))) (
 ifb (decide (x3.Kind=6)) (
 (Zfo 1 x16 (node_node.mk (Node.mk (DK.mk (DI.mk x1.DK.DI.ID x1.DK.DI.PH x9) x1.DK.TH x10) (Book.mk x1.Book.Last x14) x11 x12 x13) (([]:List Mail)) (([]:List Event)) x15.2) x3).bind fun x35=>
 ifb x35 (
 (Zkw x1.Told x2).bind fun x37=>
 (Z6t x37 187 x1.DK.DI.ID x1.DK.DI.PH x1.DK.TH x1.Book.Last x15.2 x9 x10 x14 x11 x12 x13).bind fun x38=>
 (Z391 x1 x2 x9 x10 x11 x12 x13 x14 x16) (x38.1,x38.2)) (
 (Zat 187 x1.DK.DI.ID x1.DK.DI.PH x1.DK.TH x1.Book.Last x15.2 x9 x10 x14 x11 x12 x13).bind fun x39=>
 (Z391 x1 x2 x9 x10 x11 x12 x13 x14 x16) (x39.1,x39.2))) (
 ifb (decide (x3.Kind=7)) (
 (Zfo 0 x16 (node_node.mk (Node.mk (DK.mk (DI.mk x1.DK.DI.ID x1.DK.DI.PH x9) x1.DK.TH x10) (Book.mk x1.Book.Last x14) x11 x12 x13) (([]:List Mail)) (([]:List Event)) x15.2) x3).bind fun x47=>
 ifb x47 (
 (Z6t (decide (x2<x1.DK.DI.ID)) 187 x1.DK.DI.ID x1.DK.DI.PH x1.DK.TH x1.Book.Last x15.2 x9 x10 x14 x11 x12 x13).bind fun x49=>
 (Z491 x1 x2 x9 x10 x11 x12 x13 x14) (x49.1,x49.2)) (
 (Zat 187 x1.DK.DI.ID x1.DK.DI.PH x1.DK.TH x1.Book.Last x15.2 x9 x10 x14 x11 x12 x13).bind fun x50=>
 (Z491 x1 x2 x9 x10 x11 x12 x13 x14) (x50.1,x50.2))) (
 ifb (decide (x3.Kind=8)) (
 (Zfo 3 x16 (node_node.mk (Node.mk (DK.mk (DI.mk x1.DK.DI.ID x1.DK.DI.PH x9) x1.DK.TH x10) (Book.mk x1.Book.Last x14) x11 x12 x13) (([]:List Mail)) (([]:List Event)) x15.2) x3).bind fun x54=>
 (Z6t x54 187 x1.DK.DI.ID x1.DK.DI.PH x1.DK.TH x1.Book.Last x15.2 x9 x10 x14 x11 x12 x13).bind fun x56=>
 ifb x56.1 (
 (Zk01 x2 x1.DK.DI.ID x1.DK.DI.PH x1.DK.TH x1.Book.Last x56.2 x9 x10 x14 x11 x12 x13).bind fun x57=>
 (Zft 8 x2 x1.DK.DI.ID x1.DK.DI.PH x1.DK.TH x1.Book.Last x56.2 x57 x10 x14 x11 x12 x13).bind fun x58=>
 (Z091 x11) (x1.DK.DI.ID,x1.DK.DI.PH,x1.DK.TH,x1.Book.Last,x14,x12,x56.2,x57,x10,x13,x58)) (
 (Z091 x11) (x1.DK.DI.ID,x1.DK.DI.PH,x1.DK.TH,x1.Book.Last,x14,x12,x56.2,x9,x10,x13,([]:List Event)))) (
 (Zat 187 x1.DK.DI.ID x1.DK.DI.PH x1.DK.TH x1.Book.Last x15.2 x9 x10 x14 x11 x12 x13).bind fun x59=>
 (Z091 x11) (x1.DK.DI.ID,x1.DK.DI.PH,x1.DK.TH,x1.Book.Last,x14,x12,x59.2,x9,x10,x13,([]:List Event)))))))
def Z691 (x1:Node) (x2:Int) (x3:Msg):(Int×List Side×List Int×List KE×List Int×List KE×List Sess)→Option (Node×List Mail×List Event×Int)
| (x8,x9,x10,x11,x12,x13,x14)=>
 (Z6t (decide (x3.Num=0)) 187 x1.DK.DI.ID x1.DK.DI.PH x1.DK.TH x1.Book.Last x8 x9 x10 x14 x11 x12 x13).bind fun x15=>
 (Zct (node_node.mk (Node.mk (DK.mk (DI.mk x1.DK.DI.ID x1.DK.DI.PH x9) x1.DK.TH x10) (Book.mk x1.Book.Last x14) x11 x12 x13) (([]:List Mail)) (([]:List Event)) x15.2) x2).bind fun x16=>
 ifb (decide (x3.Kind=1)) (
 (Z591 x1 x2 x3 x9 x10 x11 x12 x13 x14 x15 x16) (decide (x3.Kind=1))) (
 ifb (decide (x3.Kind=2)) (
 (Z591 x1 x2 x3 x9 x10 x11 x12 x13 x14 x15 x16) (decide (x3.Kind=2))) (
 ifb (decide (x3.Kind=3)) (
 (Z591 x1 x2 x3 x9 x10 x11 x12 x13 x14 x15 x16) (decide (x3.Kind=3))) (
 (Z591 x1 x2 x3 x9 x10 x11 x12 x13 x14 x15 x16) (decide (x3.Kind=4)))))
def Z791 (x1:Node) (x2:Int) (x3:Msg):Option (Node×List Mail×List Event×Int):=
 (Zcx x1).bind fun x4=>
 (Zu71 x1).bind fun x6=>
 (Z691 x1 x2 x3) (x6,x4.1,x4.2.1,x4.2.2.1,x4.2.2.2.1,x4.2.2.2.2.1,x4.2.2.2.2.2)
theorem Z891 {x1 x2 x3 r} (h:Z791 x1 x2 x3=some r):Zy6 Tryz.prog 44 [.agg (Node.row x1),.iv x2,.agg (Msg.row x3)] (.tup [.agg (Node.row r.1),Sp9 r.2.1,Sp7 r.2.2.1,.iv r.2.2.2]):=by
 have ok:=oK 44 Tryz.f44 e44 [.c 6 (some 10),.t 7,.t 8,.t 9] 3 167;refine FP ok fun w0 H0=>?_;rw [Z791] at h;refine Vg 10 ?_;refine Vl [1,1,1,1,1,2] (fun s=>([(10,.ptr 4 0)],[some ⟨67,Node.row x1⟩,some ⟨51,Msg.row x3⟩,some ⟨67,[.iv 0,.iv 0,.nl,.iv 0,.nl,.iv 0,.nl,.nl,.nl,.nl]⟩,some ⟨138,[.iv x1.DK.DI.ID,.iv x1.DK.DI.PH,.osl 0,.iv x1.DK.TH,.osl 1,.iv x1.Book.Last,.osl 5,.osl 2,.osl 3,.osl 4,.nl,.nl,.iv s.1]⟩,some ⟨136,[.ptr 3 0]⟩],[Zwj s.2.1,Sq4 s.2.2.1,Zxj s.2.2.2.1,Sq4 s.2.2.2.2.1,Zxj s.2.2.2.2.2.1,Zuj s.2.2.2.2.2.2])) (Z691 x1 x2 x3) r ?_ fun J1=>?_
 ·rintro ⟨x8,x9,x10,x11,x12,x13,x14⟩ h;rw [Z691] at h;(try dsimp only);refine Vg 6 ?_;refine VR [3] [0,1,5,2,3,4] 5 6 h Z7t fun x15 _ h=>?_;refine Vg 5 ?_;refine VN (((((((LR.slice 0 rfl).slice 1 rfl).slice 2 rfl).slice 3 rfl).slice 4 rfl).slice 5 rfl).block 3 rfl rfl) h Zdt fun x16 _ h=>?_;refine Vg 21 ?_;refine Vk [1,1,1,1,1,2,3,3,17,1] (fun x17=>[(33,.bv x17)]) (Z591 x1 x2 x3 x9 x10 x11 x12 x13 x14 x15 x16) r ?_ fun J2=>?_
  ·intro x17 h;rw [Z591] at h;(try dsimp only);refine Vl [6,1,3,1] (fun s=>([],[none,none,some ⟨67,[.iv 0,.iv 0,.nl,.iv 0,.nl,.iv 0,.nl,.nl,.nl,.nl]⟩,some ⟨138,[.iv s.1,.iv s.2.1,.osl 0,.iv s.2.2.1,.osl 1,.iv s.2.2.2.1,Sp5 s.2.2.2.2.1,.osl 2,Sp1 s.2.2.2.2.2.1,.osl 4,.nl,.osl 6,.iv s.2.2.2.2.2.2.1]⟩,some ⟨136,[.ptr 3 0]⟩],[Zwj s.2.2.2.2.2.2.2.1,Sq4 s.2.2.2.2.2.2.2.2.1,Zxj x11,none,Zxj s.2.2.2.2.2.2.2.2.2.1,none,Zzj s.2.2.2.2.2.2.2.2.2.2])) (Z091 x11) r ?_ fun J3=>?_
   ·rintro ⟨x60,x61,x62,x63,x64,x65,x66,x67,x68,x69,x70⟩ h;rw [Z091] at h;(try dsimp only);refine Vg 4 ?_;refine VR [3] [0,1,2,4,6] 5 7 h Zo81 fun _ _ h=>?_;refine Vg 9 ?_;refine Zhj 7 (Ds ?_);refine Zhj 8 (Ds ?_);refine Zhj 9 (Ds ?_);refine Zhj 10 (Ds ?_);refine Zhj 11 (Ds ?_);refine Zhj 12 ?_;exact W
   ·refine MI h (fun h=>?_) fun h=>?_
    ·refine Vg 1 ?_;refine Vl [1,1,3,2,3,1] (fun x19=>([(62,.bv x19)],[none,some ⟨51,Msg.row x3⟩,some ⟨67,[.iv 0,.iv 0,.nl,.iv 0,.nl,.iv 0,.nl,.nl,.nl,.nl]⟩,some ⟨138,[.iv x1.DK.DI.ID,.iv x1.DK.DI.PH,.osl 0,.iv x1.DK.TH,.osl 1,.iv x1.Book.Last,.osl 5,.osl 2,.osl 3,.osl 4,.nl,.nl,.iv x15.2]⟩,some ⟨136,[.ptr 3 0]⟩],[Zwj x9,Sq4 x10,Zxj x11,Sq4 x12,Zxj x13,Zuj x14])) (Z191 x1 x2 x3 x9 x10 x11 x12 x13 x14 x15) r ?_ fun J4=>?_
     ·intro x19 h;rw [Z191] at h;(try dsimp only);refine MI h (fun h=>?_) fun h=>?_
      ·refine Vg 4 ?_;refine VR [3] [0,1,5,2,3,4] 5 6 h Zz71 fun _ _ h=>?_;refine Vg 1 ?_;refine Zhj 5 (Ds ?_);refine Zhj 3 (Ds ?_);refine Zij 3 11 77 5 (Ds ?_);refine Zjj 112 8 (Ds ?_);refine Zgj 6 9 (Zgj 8 6 (Ds ?_));refine Zgj 9 0 (Zgj 7 1 ?_);exact W
      ·refine Vg 1 ?_;refine Zhj 5 (Ds ?_);refine Zhj 3 (Ds ?_);refine Zij 3 11 77 5 ?_;exact W
     ·refine Zej fun all H=>Ds ?_;refine R1 ?_;refine GP H 5 19 [6,19] [(39,[.ptr 3 0,.ptr 3 12,.iv x15.2,.bv (decide (x15.2=0)),.bv (decide (x15.2=0))])] (Ds ?_);refine Zcd 43 h rfl (fun _ h=>?_) fun _ h=>?_
      ·refine Ds (GP H 4 15 [10,15] [(44,[.iv x16,.bv (decide (0≤x16)),.bv (decide (0≤x16)),.bv (decide (0≤x16))])] (Ds ?_));refine Zcd 47 h rfl (fun _ h=>?_) fun _ h=>?_
       ·refine Ds (GP H 3 12 [10,7,1,3,2,2] [(55,[.iv x16]),(3,[.ptr 1 1,.iv x3.Epoch])] (Ds ?_));refine R1 ?_;refine GP H 5 6 [16,1,1,3,2,2] [(49,[.ptr 3 0,.ptr 3 0,.ptr 3 0,.ptr 3 0,.ptr 3 2])] (Ds ?_);refine R1 ?_;have ⟨x18,ex18,h⟩:=Bs h;refine Zma 18 rfl (RI ?_);refine Gn H 1 3 ?_;refine RO ?_;refine RL ?_;refine Gn H 2 0 ?_;refine GD ?_;exact W
       ·refine Ds (GP H 15 0 [25] [(48,[.un,.un,.un,.un,.un,.un,.un,.un,.un,.un,.un,.un,.un,.un,.ff])] (Ds ?_));refine GD ?_;exact W
      ·refine Ds (GP H 19 0 [25] [(44,[.un,.un,.ff,.ff,.un,.un,.un,.un,.un,.un,.un,.un,.un,.un,.un,.un,.un,.un,.ff])] (Ds ?_));refine GD ?_;exact W
    ·refine Vg 5 ?_;refine MI h (fun h=>?_) fun h=>?_
     ·refine Vg 10 ?_;refine Vm [6,1,3,1,2,1] (fun s=>([(86,.bv s.1)],[(3,12,.iv s.2)],[(0,none),(1,none),(5,none)],[])) (Z291 x1 x2 x3 x9 x10 x11 x12 x13 x14) r ?_ fun J5=>?_
      ·rintro ⟨x31,x32⟩ h;rw [Z291] at h;(try dsimp only);refine MI h (fun h=>?_) fun h=>?_
       ·refine Zej fun all H=>?_;refine Gn H 1 12 ?_;refine Zoa 0 1 7 rfl ?_ ?_ ?_
        ·refine RV ?_;refine Zna 1 7 rfl ?_ ?_
         ·refine RV ?_;refine Gn H 3 7 ?_;refine Zna 5 7 rfl ?_ ?_
          ·refine RV ?_;refine R1 ?_;refine Zma 8 rfl ?_;have ⟨x33,ex33,h⟩:=Bs h;refine GA KE.row ex33 H.1 ?_;refine Gn H 3 1 ?_;refine R1 ?_;refine GD (Zhj 5 (Ds ?_));refine Zhj 3 (Ds ?_);refine Zij 3 11 77 5 (Ds ?_);refine Zgj 8 6 (Zgj 7 4 ?_);exact W
          ·refine RV ?_;refine R1 ?_;refine Zma 8 rfl ?_;have ⟨x33,ex33,h⟩:=Bs h;refine GA KE.row ex33 H.1 ?_;refine Gn H 3 1 ?_;refine R1 ?_;refine GD (Zhj 5 (Ds ?_));refine Zhj 3 (Ds ?_);refine Zij 3 11 77 5 (Ds ?_);refine Zgj 8 6 (Zgj 7 4 ?_);exact W
         ·refine RV ?_;refine R1 ?_;refine Gn H 3 6 ?_;refine R1 ?_;refine Zma 8 rfl ?_;have ⟨x33,ex33,h⟩:=Bs h;refine GA KE.row ex33 H.1 ?_;refine Gn H 3 1 ?_;refine R1 ?_;refine GD (Zhj 5 (Ds ?_));refine Zhj 3 (Ds ?_);refine Zij 3 11 77 5 (Ds ?_);refine Zgj 8 6 (Zgj 7 4 ?_);exact W
        ·refine RV ?_;refine Gn H 3 8 ?_;refine Zoa 0 5 7 rfl ?_ ?_ ?_
         ·refine RV ?_;refine Zna 5 7 rfl ?_ ?_
          ·refine RV ?_;refine R1 ?_;refine Zma 8 rfl ?_;have ⟨x33,ex33,h⟩:=Bs h;refine GA KE.row ex33 H.1 ?_;refine Gn H 3 1 ?_;refine R1 ?_;refine GD (Zhj 5 (Ds ?_));refine Zhj 3 (Ds ?_);refine Zij 3 11 77 5 (Ds ?_);refine Zgj 8 6 (Zgj 7 4 ?_);exact W
          ·refine RV ?_;refine R1 ?_;refine Zma 8 rfl ?_;have ⟨x33,ex33,h⟩:=Bs h;refine GA KE.row ex33 H.1 ?_;refine Gn H 3 1 ?_;refine R1 ?_;refine GD (Zhj 5 (Ds ?_));refine Zhj 3 (Ds ?_);refine Zij 3 11 77 5 (Ds ?_);refine Zgj 8 6 (Zgj 7 4 ?_);exact W
         ·refine RV ?_;refine Zna 0 7 rfl ?_ ?_
          ·refine RV ?_;refine R1 ?_;refine Zma 8 rfl ?_;have ⟨x33,ex33,h⟩:=Bs h;refine GA KE.row ex33 H.1 ?_;refine Gn H 3 1 ?_;refine R1 ?_;refine GD (Zhj 5 (Ds ?_));refine Zhj 3 (Ds ?_);refine Zij 3 11 77 5 (Ds ?_);refine Zgj 8 6 (Zgj 7 4 ?_);exact W
          ·refine RV ?_;have ⟨x33,ex33,h⟩:=Bs h;refine Zna 0 8 rfl ?_ ?_
           ·refine RV ?_;refine Zma 8 rfl (GA KE.row ex33 H.1 ?_);refine Gn H 3 1 ?_;refine R1 ?_;refine GD (Zhj 5 (Ds ?_));refine Zhj 3 (Ds ?_);refine Zij 3 11 77 5 (Ds ?_);refine Zgj 8 6 (Zgj 7 4 ?_);exact W
           ·refine GA KE.row ex33 H.1 (Ds ?_);refine R1 ?_;refine Gn H 3 1 ?_;refine R1 ?_;refine GD (Zhj 5 (Ds ?_));refine Zhj 3 (Ds ?_);refine Zij 3 11 77 5 (Ds ?_);refine Zgj 8 6 (Zgj 7 4 ?_);exact W
         ·refine RV ?_;refine Zna 0 5 rfl ?_ ?_
          ·refine RV ?_;refine R1 ?_;refine Zma 8 rfl ?_;have ⟨x33,ex33,h⟩:=Bs h;refine GA KE.row ex33 H.1 ?_;refine Gn H 3 1 ?_;refine R1 ?_;refine GD (Zhj 5 (Ds ?_));refine Zhj 3 (Ds ?_);refine Zij 3 11 77 5 (Ds ?_);refine Zgj 8 6 (Zgj 7 4 ?_);exact W
          ·refine RV ?_;have ⟨x33,ex33,h⟩:=Bs h;refine Zna 0 8 rfl ?_ ?_
           ·refine RV ?_;refine Zma 8 rfl (GA KE.row ex33 H.1 ?_);refine Gn H 3 1 ?_;refine R1 ?_;refine GD (Zhj 5 (Ds ?_));refine Zhj 3 (Ds ?_);refine Zij 3 11 77 5 (Ds ?_);refine Zgj 8 6 (Zgj 7 4 ?_);exact W
           ·refine GA KE.row ex33 H.1 (Ds ?_);refine R1 ?_;refine Gn H 3 1 ?_;refine R1 ?_;refine GD (Zhj 5 (Ds ?_));refine Zhj 3 (Ds ?_);refine Zij 3 11 77 5 (Ds ?_);refine Zgj 8 6 (Zgj 7 4 ?_);exact W
        ·refine RV ?_;refine Zna 0 1 rfl ?_ ?_
         ·refine RV ?_;refine R1 ?_;refine Gn H 3 6 ?_;refine R1 ?_;refine Zma 8 rfl ?_;have ⟨x33,ex33,h⟩:=Bs h;refine GA KE.row ex33 H.1 ?_;refine Gn H 3 1 ?_;refine R1 ?_;refine GD (Zhj 5 (Ds ?_));refine Zhj 3 (Ds ?_);refine Zij 3 11 77 5 (Ds ?_);refine Zgj 8 6 (Zgj 7 4 ?_);exact W
         ·refine RV ?_;refine Gn H 3 7 ?_;refine Zna 0 5 rfl ?_ ?_
          ·refine RV ?_;refine R1 ?_;refine Zma 8 rfl ?_;have ⟨x33,ex33,h⟩:=Bs h;refine GA KE.row ex33 H.1 ?_;refine Gn H 3 1 ?_;refine R1 ?_;refine GD (Zhj 5 (Ds ?_));refine Zhj 3 (Ds ?_);refine Zij 3 11 77 5 (Ds ?_);refine Zgj 8 6 (Zgj 7 4 ?_);exact W
          ·refine RV ?_;have ⟨x33,ex33,h⟩:=Bs h;refine Zna 0 8 rfl ?_ ?_
           ·refine RV ?_;refine Zma 8 rfl (GA KE.row ex33 H.1 ?_);refine Gn H 3 1 ?_;refine R1 ?_;refine GD (Zhj 5 (Ds ?_));refine Zhj 3 (Ds ?_);refine Zij 3 11 77 5 (Ds ?_);refine Zgj 8 6 (Zgj 7 4 ?_);exact W
           ·refine GA KE.row ex33 H.1 (Ds ?_);refine R1 ?_;refine Gn H 3 1 ?_;refine R1 ?_;refine GD (Zhj 5 (Ds ?_));refine Zhj 3 (Ds ?_);refine Zij 3 11 77 5 (Ds ?_);refine Zgj 8 6 (Zgj 7 4 ?_);exact W
       ·refine Vg 1 ?_;refine Zhj 5 (Ds ?_);refine Zhj 3 (Ds ?_);refine Zij 3 11 77 5 ?_;exact W
      ·refine Zej fun all H=>?_;refine Gn H 2 12 ?_;have ⟨x21,ex21,h⟩:=Bs h;refine Zna 0 3 rfl ?_ ?_
       ·refine RV ?_;refine Zma 3 rfl (GC H.1 (Z8y ex21) ?_);refine Gn H 1 9 ?_;refine Zcd 77 h rfl (fun _ h=>?_) fun _ h=>?_
        ·refine Gn H 3 6 ?_;have ⟨x23,ex23,h⟩:=Bs h;refine Zna 7 9 rfl ?_ ?_
         ·refine Zud H.1 rfl trivial (Zqm ex23) (h:=Ds ?_);refine R1 ?_;refine Zma 10 rfl ?_;have ⟨x25,ex25,h⟩:=Bs h;refine GA KE.row ex25 H.1 (Ds ?_);refine Zma 11 rfl (GQ H.1 (LR.slice 8 rfl) h Zcy fun x26 ex26 h=>?_);refine Gn H 1 1 ?_;refine Zma 13 rfl (GF H.1 [3] [0,1,5,2,3,4] 7 9 h Z7t fun x27 ex27 h=>?_);refine Ds ?_;refine GD ?_;exact W
         ·refine RV ?_;refine Zma 7 rfl (Zud H.1 rfl trivial (Zqm ex23) (h:=Ds ?_));refine Zma 10 rfl ?_;have ⟨x25,ex25,h⟩:=Bs h;refine GA KE.row ex25 H.1 (Ds ?_);refine Zma 11 rfl (GQ H.1 (LR.slice 8 rfl) h Zcy fun x26 ex26 h=>?_);refine Gn H 1 1 ?_;refine Zma 13 rfl (GF H.1 [3] [0,1,5,2,3,4] 7 9 h Z7t fun x27 ex27 h=>?_);refine Ds ?_;refine GD ?_;exact W
        ·refine Ds (GP H 8 1 [13,1] [(78,[.un,.un,.un,.un,.un,.un,.un,.ff])] (Ds ?_));refine Zma 13 rfl (GF H.1 [3] [0,1,5,2,3,4] 7 6 h Zbt fun x28 ex28 h=>?_);refine Ds ?_;refine GD ?_;exact W
       ·refine GC H.1 (Z8y ex21) ?_;refine Gn H 1 10 ?_;refine Zcd 77 h rfl (fun _ h=>?_) fun _ h=>?_
        ·refine Gn H 3 7 ?_;have ⟨x23,ex23,h⟩:=Bs h;refine Zoa 0 7 9 rfl ?_ ?_ ?_
         ·refine RV ?_;refine Zna 7 9 rfl ?_ ?_
          ·refine Zud H.1 rfl trivial (Zqm ex23) (h:=Ds ?_);refine R1 ?_;refine Zma 10 rfl ?_;have ⟨x25,ex25,h⟩:=Bs h;refine GA KE.row ex25 H.1 (Ds ?_);refine Zma 11 rfl (GQ H.1 (LR.slice 8 rfl) h Zcy fun x26 ex26 h=>?_);refine Gn H 1 1 ?_;refine Zma 13 rfl (GF H.1 [3] [0,1,5,2,3,4] 7 9 h Z7t fun x27 ex27 h=>?_);refine Ds ?_;refine GD ?_;exact W
          ·refine RV ?_;refine Zma 7 rfl (Zud H.1 rfl trivial (Zqm ex23) (h:=Ds ?_));refine Zma 10 rfl ?_;have ⟨x25,ex25,h⟩:=Bs h;refine GA KE.row ex25 H.1 (Ds ?_);refine Zma 11 rfl (GQ H.1 (LR.slice 8 rfl) h Zcy fun x26 ex26 h=>?_);refine Gn H 1 1 ?_;refine Zma 13 rfl (GF H.1 [3] [0,1,5,2,3,4] 7 9 h Z7t fun x27 ex27 h=>?_);refine Ds ?_;refine GD ?_;exact W
         ·refine Zud H.1 rfl trivial (Zqm ex23) (h:=Ds ?_);refine Zna 0 9 rfl ?_ ?_
          ·refine RV ?_;refine R1 ?_;refine Zma 10 rfl ?_;have ⟨x25,ex25,h⟩:=Bs h;refine GA KE.row ex25 H.1 (Ds ?_);refine Zma 11 rfl (GQ H.1 (LR.slice 8 rfl) h Zcy fun x26 ex26 h=>?_);refine Gn H 1 1 ?_;refine Zma 13 rfl (GF H.1 [3] [0,1,5,2,3,4] 7 9 h Z7t fun x27 ex27 h=>?_);refine Ds ?_;refine GD ?_;exact W
          ·refine RV ?_;have ⟨x25,ex25,h⟩:=Bs h;refine Zna 0 10 rfl ?_ ?_
           ·refine RV ?_;refine Zma 10 rfl (GA KE.row ex25 H.1 (Ds ?_));refine Zma 11 rfl (GQ H.1 (LR.slice 8 rfl) h Zcy fun x27 ex27 h=>?_);refine Gn H 1 1 ?_;refine Zma 13 rfl (GF H.1 [3] [0,1,5,2,3,4] 7 9 h Z7t fun x28 ex28 h=>?_);refine Ds ?_;refine GD ?_;exact W
           ·refine GA KE.row ex25 H.1 (Ds ?_);have ⟨x27,ex27,h⟩:=Bs h;refine Zna 0 11 rfl ?_ ?_
            ·refine RV ?_;refine Zma 11 rfl (GK H.1 (LR.slice 8 rfl) (Zcy ex27) ?_);refine Gn H 1 1 ?_;refine Zma 13 rfl (GF H.1 [3] [0,1,5,2,3,4] 7 9 h Z7t fun x29 ex29 h=>?_);refine Ds ?_;refine GD ?_;exact W
            ·refine GK H.1 (LR.slice 8 rfl) (Zcy ex27) ?_;refine Gn H 1 2 ?_;refine R1 ?_;refine Zma 13 rfl (GF H.1 [3] [0,1,5,2,3,4] 7 9 h Z7t fun x29 ex29 h=>?_);refine Ds ?_;refine GD ?_;exact W
         ·refine RV ?_;refine Zna 0 7 rfl ?_ ?_
          ·refine RV ?_;refine Zma 7 rfl (Zud H.1 rfl trivial (Zqm ex23) (h:=Ds ?_));refine Zma 10 rfl ?_;have ⟨x25,ex25,h⟩:=Bs h;refine GA KE.row ex25 H.1 (Ds ?_);refine Zma 11 rfl (GQ H.1 (LR.slice 8 rfl) h Zcy fun _ _ h=>?_);refine Gn H 1 1 ?_;refine Zma 13 rfl (GF H.1 [3] [0,1,5,2,3,4] 7 9 h Z7t fun x27 ex27 h=>?_);refine Ds ?_;refine GD ?_;exact W
          ·refine Zud H.1 rfl trivial (Zqm ex23) (h:=Ds ?_);have ⟨x25,ex25,h⟩:=Bs h;refine Zna 0 10 rfl ?_ ?_
           ·refine RV ?_;refine Zma 10 rfl (GA KE.row ex25 H.1 (Ds ?_));refine Zma 11 rfl (GQ H.1 (LR.slice 8 rfl) h Zcy fun x27 ex27 h=>?_);refine Gn H 1 1 ?_;refine Zma 13 rfl (GF H.1 [3] [0,1,5,2,3,4] 7 9 h Z7t fun _ _ h=>?_);refine Ds ?_;refine GD ?_;exact W
           ·refine GA KE.row ex25 H.1 (Ds ?_);have ⟨x27,ex27,h⟩:=Bs h;refine Zna 0 11 rfl ?_ ?_
            ·refine RV ?_;refine Zma 11 rfl (GK H.1 (LR.slice 8 rfl) (Zcy ex27) ?_);refine Gn H 1 1 ?_;refine Zma 13 rfl (GF H.1 [3] [0,1,5,2,3,4] 7 9 h Z7t fun x29 ex29 h=>?_);refine Ds ?_;refine GD ?_;exact W
            ·refine GK H.1 (LR.slice 8 rfl) (Zcy ex27) ?_;refine Gn H 1 2 ?_;refine R1 ?_;refine Zma 13 rfl (GF H.1 [3] [0,1,5,2,3,4] 7 9 h Z7t fun _ _ h=>?_);refine Ds ?_;refine GD ?_;exact W
        ·refine Ds (GP H 8 2 [0,1,12,1] [(78,[.un,.un,.un,.un,.un,.un,.un,.ff])] (Ds ?_));refine R1 ?_;refine Zma 13 rfl (GF H.1 [3] [0,1,5,2,3,4] 7 6 h Zbt fun _ _ h=>?_);refine Ds ?_;refine GD ?_;exact W
     ·refine Vg 5 ?_;refine MI h (fun h=>?_) fun h=>?_
      ·refine Vg 1 ?_;refine Vm [1,1,4,1,3,2] (fun s=>([(110,.bv s.1)],[(3,12,.iv s.2)],[(0,none),(1,none)],[])) (Z391 x1 x2 x9 x10 x11 x12 x13 x14 x16) r ?_ fun J6=>?_
       ·rintro ⟨x41,x42⟩ h;rw [Z391] at h;(try dsimp only);refine MI h (fun h=>?_) fun h=>?_
        ·refine Vg 1 ?_;refine Zej fun all H=>?_;refine Gn H 1 10 ?_;refine R1 ?_;refine Gn H 5 4 ?_;refine R1 ?_;have ⟨x43,ex43,h⟩:=Bs h;refine RO ?_;refine RI ?_;refine Gn H 1 1 ?_;refine Zma 10 rfl (Zuf H.1 [.iv 0] Side.row (y':=(Side.mk x43.Peer x43.Epoch 0 x43.Fork x43.DY x43.Token x43.BO x43.Ask)) ex43 rfl trivial rfl rfl rfl (by first | exact Zqb _ | simp [go_sem]) rfl rfl rfl rfl (Ds ?_));refine GD (Vg 1 ?_);refine Zhj 3 (Ds ?_);refine Zej fun all H=>Ds ?_;refine GN H 1 11 (Ds ?_);refine An (Zna 0 1 rfl ?_ ?_)
         ·refine RV ?_;refine R1 ?_;refine Gn H 4 5 ?_;refine Zma 7 rfl (GB H.1 h Zh31 fun x44 ex44 h=>?_);refine Gn H 3 1 ?_;refine R1 ?_;refine GD (Vg 3 ?_);refine VR [3] [0,1,5,2,4] 6 6 h Z8u fun _ _ h=>?_;refine Vg 1 ?_;refine Zhj 5 (Ds ?_);refine Zgj 7 6 ?_;exact W
         ·refine RV ?_;refine Gn H 4 6 ?_;have ⟨x44,ex44,h⟩:=Bs h;refine Zna 0 7 rfl ?_ ?_
          ·refine RV ?_;refine Zma 7 rfl (GC H.1 (Zh31 ex44) ?_);refine Gn H 3 1 ?_;refine R1 ?_;refine GD (Vg 3 ?_);refine VR [3] [0,1,5,2,4] 6 6 h Z8u fun x46 ex46 h=>?_;refine Vg 1 ?_;refine Zhj 5 (Ds ?_);refine Zgj 7 6 ?_;exact W
          ·refine GC H.1 (Zh31 ex44) (Ds ?_);refine R1 ?_;refine Gn H 3 1 ?_;refine R1 ?_;refine GD (Vg 3 ?_);refine VR [3] [0,1,5,2,4] 6 6 h Z8u fun _ _ h=>?_;refine Vg 1 ?_;refine Zhj 5 (Ds ?_);refine Zgj 7 6 ?_;exact W
        ·refine Vg 1 ?_;refine Zhj 5 (Ds ?_);refine Zhj 3 (Ds ?_);refine Zij 3 11 77 5 ?_;exact W
       ·refine Zej fun all H=>?_;refine Gn H 1 9 ?_;have ⟨x35,ex35,h⟩:=Bs h;refine Zna 0 2 rfl ?_ ?_
        ·refine RV ?_;refine Zma 2 rfl (Z1d H.1 rfl trivial ((((((((((LR.slice 0 rfl).slice 1 rfl).slice 2 rfl).slice 3 rfl).slice 4 rfl).slice 5 rfl).block 1 rfl rfl).block 3 rfl rfl).block 4 rfl rfl).block 5 rfl rfl) rfl (Zgo ex35) (by kernel_rfl) (h:=Ds ?_));refine Gn H 1 6 ?_;refine Zcd 104 h rfl (fun _ h=>?_) fun _ h=>?_
         ·refine Gn H 3 3 ?_;refine Zma 7 rfl (GB H.1 h Zlw fun x37 ex37 h=>?_);refine Gn H 1 1 ?_;refine Zma 9 rfl (GF H.1 [3] [0,1,5,2,3,4] 6 6 h Z7t fun _ _ h=>?_);refine Ds ?_;refine GD ?_;exact W
         ·refine Gn H 5 1 ?_;refine Zma 9 rfl (GF H.1 [3] [0,1,5,2,3,4] 6 6 h Zbt fun x39 ex39 h=>?_);refine Ds ?_;refine GD ?_;exact W
        ·refine Z1d H.1 rfl trivial ((((((((((LR.slice 0 rfl).slice 1 rfl).slice 2 rfl).slice 3 rfl).slice 4 rfl).slice 5 rfl).block 1 rfl rfl).block 3 rfl rfl).block 4 rfl rfl).block 5 rfl rfl) rfl (Zgo ex35) (by kernel_rfl) (h:=?_);refine Gn H 1 7 ?_;refine Zcd 104 h rfl (fun _ h=>?_) fun _ h=>?_
         ·refine Gn H 3 4 ?_;have ⟨x37,ex37,h⟩:=Bs h;refine Zna 0 7 rfl ?_ ?_
          ·refine RV ?_;refine Zma 7 rfl (GC H.1 (Zlw ex37) ?_);refine Gn H 1 1 ?_;refine Zma 9 rfl (GF H.1 [3] [0,1,5,2,3,4] 6 6 h Z7t fun x39 ex39 h=>?_);refine Ds ?_;refine GD ?_;exact W
          ·refine GC H.1 (Zlw ex37) ?_;refine Gn H 1 2 ?_;refine R1 ?_;refine Zma 9 rfl (GF H.1 [3] [0,1,5,2,3,4] 6 6 h Z7t fun _ _ h=>?_);refine Ds ?_;refine GD ?_;exact W
         ·refine Gn H 5 2 ?_;refine R1 ?_;refine Zma 9 rfl (GF H.1 [3] [0,1,5,2,3,4] 6 6 h Zbt fun _ _ h=>?_);refine Ds ?_;refine GD ?_;exact W
      ·refine Vg 5 ?_;refine MI h (fun h=>?_) fun h=>?_
       ·refine Vg 1 ?_;refine Vl [1,1,4,1,3,1] (fun s=>([(148,.bv s.1)],[none,none,some ⟨67,[.iv 0,.iv 0,.nl,.iv 0,.nl,.iv 0,.nl,.nl,.nl,.nl]⟩,some ⟨138,[.iv x1.DK.DI.ID,.iv x1.DK.DI.PH,.osl 0,.iv x1.DK.TH,.osl 1,.iv x1.Book.Last,.osl 5,.osl 2,.osl 3,.osl 4,.nl,.nl,.iv s.2]⟩,some ⟨136,[.ptr 3 0]⟩],[Zwj x9,Sq4 x10,Zxj x11,Sq4 x12,Zxj x13,Zuj x14])) (Z491 x1 x2 x9 x10 x11 x12 x13 x14) r ?_ fun J7=>?_
        ·rintro ⟨x51,x52⟩ h;rw [Z491] at h;(try dsimp only);refine MI h (fun h=>?_) fun h=>?_
         ·refine Vg 3 ?_;refine VR [3] [0,1,5,2,3,4] 5 6 h Zm71 fun _ _ h=>?_;refine Vg 1 ?_;refine Zhj 3 (Ds ?_);refine Zgj 7 6 (Zgj 8 0 (Ds ?_));refine Zgj 9 1 ?_;exact W
         ·refine Vg 1 ?_;refine Zhj 5 (Ds ?_);refine Zhj 3 (Ds ?_);refine Zij 3 11 77 5 ?_;exact W
        ·refine Zej fun all H=>?_;refine Gn H 1 11 ?_;have ⟨x47,ex47,h⟩:=Bs h;refine Zna 0 2 rfl ?_ ?_
         ·refine RV ?_;refine Zma 2 rfl (Z1d H.1 rfl trivial ((((((((((LR.slice 0 rfl).slice 1 rfl).slice 2 rfl).slice 3 rfl).slice 4 rfl).slice 5 rfl).block 1 rfl rfl).block 3 rfl rfl).block 4 rfl rfl).block 5 rfl rfl) rfl (Zgo ex47) (by kernel_rfl) (h:=Ds ?_));refine Gn H 1 8 ?_;refine Zcd 140 h rfl (fun _ h=>?_) fun _ h=>?_
          ·refine Ds (GP H 7 1 [11,1] [(141,[.iv x2,.ptr 0 0,.ptr 0 0,.ptr 0 0,.iv x1.DK.DI.ID,.bv (decide (x2<x1.DK.DI.ID)),.bv (decide (x2<x1.DK.DI.ID))])] (Ds ?_));refine Zma 11 rfl (GF H.1 [3] [0,1,5,2,3,4] 6 6 h Z7t fun x49 ex49 h=>?_);refine Ds ?_;refine GD ?_;exact W
          ·refine Ds (GP H 7 1 [11,1] [(141,[.un,.un,.un,.un,.un,.un,.ff])] (Ds ?_));refine Zma 11 rfl (GF H.1 [3] [0,1,5,2,3,4] 6 6 h Zbt fun x50 ex50 h=>?_);refine Ds ?_;refine GD ?_;exact W
         ·refine Z1d H.1 rfl trivial ((((((((((LR.slice 0 rfl).slice 1 rfl).slice 2 rfl).slice 3 rfl).slice 4 rfl).slice 5 rfl).block 1 rfl rfl).block 3 rfl rfl).block 4 rfl rfl).block 5 rfl rfl) rfl (Zgo ex47) (by kernel_rfl) (h:=?_);refine Gn H 1 9 ?_;refine Zcd 140 h rfl (fun _ h=>?_) fun _ h=>?_
          ·refine Ds (GP H 7 2 [0,1,10,1] [(141,[.iv x2,.ptr 0 0,.ptr 0 0,.ptr 0 0,.iv x1.DK.DI.ID,.bv (decide (x2<x1.DK.DI.ID)),.bv (decide (x2<x1.DK.DI.ID))])] (Ds ?_));refine R1 ?_;refine Zma 11 rfl (GF H.1 [3] [0,1,5,2,3,4] 6 6 h Z7t fun _ _ h=>?_);refine Ds ?_;refine GD ?_;exact W
          ·refine Ds (GP H 7 2 [0,1,10,1] [(141,[.un,.un,.un,.un,.un,.un,.ff])] (Ds ?_));refine R1 ?_;refine Zma 11 rfl (GF H.1 [3] [0,1,5,2,3,4] 6 6 h Zbt fun _ _ h=>?_);refine Ds ?_;refine GD ?_;exact W
       ·refine Vg 5 ?_;refine MI h (fun h=>?_) fun h=>?_
        ·refine Vg 1 ?_;refine Zej fun all H=>?_;refine Gn H 1 3 ?_;have ⟨x54,ex54,h⟩:=Bs h;refine Zna 0 2 rfl ?_ ?_
         ·refine RV ?_;refine Zma 2 rfl (Z1d H.1 rfl trivial ((((((((((LR.slice 0 rfl).slice 1 rfl).slice 2 rfl).slice 3 rfl).slice 4 rfl).slice 5 rfl).block 1 rfl rfl).block 3 rfl rfl).block 4 rfl rfl).block 5 rfl rfl) rfl (Zgo ex54) (by kernel_rfl) (h:=Ds ?_));refine Zma 3 rfl (GF H.1 [3] [0,1,5,2,3,4] 6 6 h Z7t fun x56 ex56 h=>?_);refine Ds ?_;refine GD (MI h (fun h=>?_) fun h=>?_)
          ·refine Vg 4 ?_;refine VR [3] [0,1,5,2,3,4] 6 6 h Zl01 fun x57 ex57 h=>?_;refine Vg 4 ?_;refine VR [3] [6,1,5,2,3,4] 6 7 h Zgt fun x58 ex58 h=>?_;refine Vg 1 ?_;refine Zhj 5 (Ds ?_);refine Zhj 3 (Ds ?_);refine Zjj 112 8 (Ds ?_);refine Zgj 6 9 (Ds ?_);refine Zgj 8 6 (Zgj 9 0 ?_);exact W
          ·refine Vg 1 ?_;refine Zhj 5 (Ds ?_);refine Zhj 3 (Ds ?_);refine Zij 3 11 77 5 ?_;exact W
         ·refine Z1d H.1 rfl trivial ((((((((((LR.slice 0 rfl).slice 1 rfl).slice 2 rfl).slice 3 rfl).slice 4 rfl).slice 5 rfl).block 1 rfl rfl).block 3 rfl rfl).block 4 rfl rfl).block 5 rfl rfl) rfl (Zgo ex54) (by kernel_rfl) (h:=Ds ?_);refine R1 ?_;refine Zma 3 rfl (GF H.1 [3] [0,1,5,2,3,4] 6 6 h Z7t fun _ _ h=>?_);refine Ds ?_;refine GD (MI h (fun h=>?_) fun h=>?_)
          ·refine Vg 4 ?_;refine VR [3] [0,1,5,2,3,4] 6 6 h Zl01 fun _ _ h=>?_;refine Vg 4 ?_;refine VR [3] [6,1,5,2,3,4] 6 7 h Zgt fun _ _ h=>?_;refine Vg 1 ?_;refine Zhj 5 (Ds ?_);refine Zhj 3 (Ds ?_);refine Zjj 112 8 (Ds ?_);refine Zgj 6 9 (Ds ?_);refine Zgj 8 6 (Zgj 9 0 ?_);exact W
          ·refine Vg 1 ?_;refine Zhj 5 (Ds ?_);refine Zhj 3 (Ds ?_);refine Zij 3 11 77 5 ?_;exact W
        ·refine Vg 2 ?_;refine VR [3] [0,1,5,2,3,4] 6 6 h Zbt fun _ _ h=>?_;refine Vg 1 ?_;refine Zhj 5 (Ds ?_);refine Zhj 3 (Ds ?_);refine Zij 3 11 77 5 ?_;exact W
  ·exact W
 ·refine Zej fun all H=>?_;refine Gn H 2 6 ?_;have ⟨x4,ex4,h⟩:=Bs h;refine Zna 1 6 rfl ?_ ?_
  ·refine Zmj H.1 [] [] 3 0 (Zdx ex4) (Ds ?_);have ⟨x6,ex6,h⟩:=Bs h;refine Zna 3 6 rfl ?_ ?_
   ·refine GC H.1 (Zv71 ex6) ?_;refine Gn H 1 3 ?_;refine Zna 5 6 rfl ?_ ?_
    ·refine RV ?_;refine R1 ?_;refine R1 ?_;refine GD ?_;exact W
    ·refine RV ?_;refine R1 ?_;refine R1 ?_;refine GD (Z3e 3 4 rfl rfl ?_);exact W
   ·refine RV ?_;refine Zma 3 rfl (GC H.1 (Zv71 ex6) ?_);refine Gn H 1 2 ?_;refine R1 ?_;refine R1 ?_;refine GD (Z3e 3 4 rfl rfl ?_);exact W
  ·refine RV ?_;refine Zma 1 rfl (Zmj H.1 [] [] 4 0 (Zdx ex4) (Ds ?_));refine Zma 3 rfl (GB H.1 h Zv71 fun _ _ h=>?_);refine Gn H 1 2 ?_;refine R1 ?_;refine R1 ?_;refine GD (Z3e 3 4 rfl rfl ?_);exact W
@[go_sem] def e38:EC:=eQ Tryz.f38
def Z991 (x1:Node) (x2:Do):Option (Node×List Mail×List Event×Int):=
 (Zy81 x1 x2).bind fun x3=>
 some (x3.1,x3.2.1,x3.2.2.1,x3.2.2.2)
theorem Za91 {x1 x2 r} (h:Z991 x1 x2=some r):Zy6 Tryz.prog 38 [.agg (Node.row x1),.elt (Do.row x2) 0] (.tup [.agg (Node.row r.1),Sp9 r.2.1,Sp7 r.2.2.1,.iv r.2.2.2]):=by have ok:=oK 38 Tryz.f38 e38 [.c 3 (some 10),.t 4,.t 5,.t 6] 2 12;refine FP ok fun w0 H0=>?_;rw [Z991] at h;refine Vg 12 ?_;refine VB h Zz81 fun _ _ h=>?_;exact W
@[go_sem] def e43:EC:=eQ Tryz.f43
def Zb91 (x1:Node) (x2:Int) (x3:Msg):Option (Node×List Mail×List Event×Int):=
 (Z791 x1 x2 x3).bind fun x4=>
 some (x4.1,x4.2.1,x4.2.2.1,x4.2.2.2)
theorem Zc91 {x1 x2 x3 r} (h:Zb91 x1 x2 x3=some r):Zy6 Tryz.prog 43 [.agg (Node.row x1),.elt (Z3d x2) 0,.elt (Msg.row x3) 0] (.tup [.agg (Node.row r.1),Sp9 r.2.1,Sp7 r.2.2.1,.iv r.2.2.2]):=by have ok:=oK 43 Tryz.f43 e43 [.c 4 (some 10),.t 5,.t 6,.t 7] 3 13;refine FP ok fun w0 H0=>?_;rw [Zb91] at h;refine Vg 13 ?_;refine VB h Z891 fun _ _ h=>?_;exact W
end
end NX
end Go.Proofs.YtgamgemlekpepaaGreat
