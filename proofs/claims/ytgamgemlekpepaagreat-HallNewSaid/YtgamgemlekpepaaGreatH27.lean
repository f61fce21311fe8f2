/-
  The function (*narthex/node.node).answer, lent own memory. Written by a program of ours (lb.py). No statement of the seat is proved here.
-/
import Derived.Test.YtgamgemlekpepaaGreatH26
set_option maxRecDepth 100000
set_option maxHeartbeats 4000000
namespace Go.Proofs.YtgamgemlekpepaaGreat
namespace NX
open Go
noncomputable section
def Zb61:(List Side×List KE×List Mail×List Event)→Option (List Side×List KE×List Mail×List Event)
| (x52,x53,x54,x55)=>some (x52,x53,x54,x55)
def Zc61 (x1 x2:Int) (x3 x4:Int) (x5:List Sess) (x6:List Int) (x7:Int) (x9:List Int) (x11:List KE):(Int×List Side×List KE×List Mail×List Event)→Option ((Int×List Side×List KE×List Mail×List Event) ⊕ (List Side×List KE×List Mail×List Event))
| (x23,x24,x25,x26,x27)=>
 ifb (decide (x23<(ln KE.row x11))) (
 (at_ x11 x23).bind fun x28=>
 (Zi51 (Side.mk x28.Peer x28.Epoch 0 false false true false true) x1 x2 x3 x4 x5 x6 x7 x24 x9 x25 x11 x26 x27).bind fun x29=>
 (Zwt (Side.mk x28.Peer x28.Epoch 0 false false true false true) 6 x1 x2 x3 x4 x5 x6 x7 x29.1 x9 x29.2 x11 x26 x27).bind fun x30=>
 (Zyt 6 x28.Peer x1 x2 x3 x4 x5 x6 x7 x29.1 x9 x29.2 x11 x30 x27).bind fun x31=>
 some (.inl (wr (x23+1),x29.1,x29.2,x30,x31))) (
 Option.map Sum.inr (Zb61 (x24,x25,x26,x27)))
def Zd61 (x1 x2:Int) (x3 x4:Int) (x5:List Sess) (x6:List Int) (x7:Int) (x8:List Side) (x9:List Int) (x10 x11:List KE) (x12:List Mail) (x13:List Event):Option (List Side×List KE×List Mail×List Event):=loop (Zc61 x1 x2 x3 x4 x5 x6 x7 x9 x11) (0,x8,x10,x12,x13)
theorem Ze61 {x1 x2 x3 x4 x5 x6 x7 x8 x9 x10 x11 x12 x13 r} (h:Zd61 x1 x2 x3 x4 x5 x6 x7 x8 x9 x10 x11 x12 x13=some r):Z0f Tryz.prog 179 [.ptr 0 0] [some ⟨138,[.iv x1,.iv x2,.osl 0,.iv x3,.osl 1,.iv x4,Sp5 x5,.osl 2,Sp1 x6,.osl 3,.osl 4,.osl 5,.iv x7]⟩] [Zwj x8,Sq4 x9,Zxj x10,Zxj x11,Sq6 x12,Zzj x13] (.tup []) [some ⟨138,[.iv x1,.iv x2,.osl 7,.iv x3,.osl 1,.iv x4,Sp5 x5,.osl 9,Sp1 x6,.nl,.osl 11,.osl 13,.iv x7]⟩] [none,Sq4 x9,none,Zxj x11,none,none,none,Zwj r.1,none,Zxj r.2.1,none,Sq6 r.2.2.1,none,Zzj r.2.2.2]:=by
 refine FT Zb51 fun w0 M0=>?_;have ok:=Zb51;rw [Zd61] at h;dsimp only[lun,List.cons_append,List.nil_append];refine Vg 11 ?_;refine Vl [0,1] (fun s=>([],[some ⟨138,[.iv x1,.iv x2,.osl 7,.iv x3,.osl 1,.iv x4,Sp5 x5,.osl 9,Sp1 x6,.osl 3,.osl 11,.osl 13,.iv x7]⟩],[none,Sq4 x9,none,Zxj x11,none,none,none,Zwj s.1,none,Zxj s.2.1,none,Sq6 s.2.2.1,none,Zzj s.2.2.2])) Zb61 r ?_ fun J1=>?_
 ·rintro ⟨x52,x53,x54,x55⟩ h;rw [Zb61] at h;(try dsimp only);refine Vg 7 ?_;obtain rfl:=Option.some.inj h;exact Zlj Zb51
 ·refine Vg 1 ?_;refine Zjj 53 5 (Ds ?_);refine Zjj 53 5 (Ds ?_);refine Zjj 53 5 (Ds ?_);refine Zjj 53 5 (Ds ?_);refine Zjj 53 5 (Ds ?_);refine Zjj 53 5 (Ds ?_);refine Zgj 4 11 (Ds ?_);refine Zjj 77 5 (Ds ?_);refine Zjj 77 5 (Ds ?_);refine Zgj 5 13 (Zgj 0 7 (Ds ?_));refine Zgj 2 9 (Ds ?_);refine Mm h [0,1,8,2] (fun s=>([(11,.iv s.1)],[],[],[(6,none),(7,Zwj s.2.1),(8,none),(9,Zxj s.2.2.1),(10,none),(11,Sq6 s.2.2.2.1),(12,none),(13,Zzj s.2.2.2.2)])) ?_;rintro n1 ⟨x23,x24,x25,x26,x27⟩ y1 h hin1 hout1;rw [Zc61] at h;(try dsimp only);refine Vg 5 ?_;refine MI h (fun h=>?_) fun h=>?_
  ·refine Vg 5 ?_;have ⟨x28,ex28,h⟩:=Bs h;refine Zde KE.row ex28 trivial rfl rfl rfl (Zme KE.row ex28 trivial rfl rfl rfl (Vg 17 ?_));refine VR [0] [7,1,9,3,11,13] 3 14 h Zj51 fun _ _ h=>?_;refine Vg 5 ?_;refine VR [0] [15,1,17,3,11,13] 3 18 h Zxt fun _ _ h=>?_;refine Vg 5 ?_;refine VR [0] [15,1,17,3,19,13] 3 20 h Zzt fun _ _ h=>?_;refine Vg 6 ?_;refine Zgj 19 11 (Zgj 21 13 (Ds ?_));refine Zgj 15 7 (Zgj 17 9 ?_);exact W
  ·exact W
def Zf61:(Bool×Int)→Option (Bool×Int)
| (x8,x9)=>some (x8,x9)
def Zg61 (x1:Node) (x2:Int) (p0:(Side→Option Bool)):Option (Bool×Int):=
 ifb (decide (x1.DK.DI.ID<64)) (
 (Ze01 x1.KN x2).bind fun x3=>
 ifb (!x3.1) (
 (Zgr x1.DK.DI.SD p0).bind fun x4=>
 ifb (!x4) (
 (Zdl x1.Told).bind fun x5=>
 ifb x5 (
 (Zxm x1 ((fun z=>Znn z))).bind fun x6=>
 (Zi31 x1.Told x6).bind fun x7=>
 Zf61 (x7,x3.2)) (
 Zf61 (false,x3.2))) (
 Zf61 (false,x3.2))) (
 Zf61 (false,x3.2))) (
 Zf61 (false,x2))
theorem Zh61 {x1 x2 g0 caps0 p0 r} (h:Zg61 x1 x2 p0=some r) (hc0:CloOK Tryz.prog g0 caps0 (fun z=>[.agg (Side.row z)]) p0 (fun z=>.bv z)):Z0f Tryz.prog 109 [.agg (Node.row x1),.clo 106 [.ptr 0 0],.clo g0 caps0] [some ⟨3,[.iv x2]⟩] [] (.bv r.1) [some ⟨3,[.iv r.2]⟩] []:=by
 refine FT Zk51 fun w0 M0=>?_;rw [Zg61] at h;dsimp only[lun,List.cons_append,List.nil_append];refine Vg 6 ?_;refine Vl [] (fun s=>([(6,.bv s.1)],[some ⟨3,[.iv s.2]⟩],[])) Zf61 r ?_ fun J1=>?_
 ·rintro ⟨x8,x9⟩ h;rw [Zf61] at h;(try dsimp only);obtain rfl:=Option.some.inj h;exact Zkj Zk51
 ·refine Zej fun all H=>Ds (GP H 6 28 [6,28] [(7,[.ptr 1 0,.ptr 1 0,.ptr 1 0,.iv x1.DK.DI.ID,.bv (decide (x1.DK.DI.ID<64)),.bv (decide (x1.DK.DI.ID<64))])] (Ds ?_));refine Zcd 12 h rfl (fun _ h=>?_) fun _ h=>?_
  ·refine Ds (GP H 3 25 [9,25] [(13,[.ptr 1 7,Sp2 x1.KN,.clo 106 [.ptr 0 0]])] (Ds ?_));refine Zma 9 rfl ?_;have ⟨x3,ex3,h⟩:=Bs h;refine Zph H.1 (by kernel_rfl) [true,false] [] rfl trivial (Z9j [0] [] 2 0 (Zf01 ex3)) (ha:=(by first | exact Zqb _ | simp [go_sem,Zyi _ _ _ _ _ hc0.pu])) (h:=Ds ?_);refine GP H 3 21 [13,21] [(17,[.bv (!x3.1),.bv (!x3.1),.bv (!x3.1)])] ?_;dsimp only[go_sem];refine Zcd 19 h rfl (fun _ h=>?_) fun _ h=>?_
   ·refine Ds (GP H 5 16 [18,16] [(20,[.ptr 1 0,.ptr 1 0,.ptr 1 2,Sp3 x1.DK.DI.SD,.clo g0 caps0])] (Ds ?_));refine Zma 18 rfl (GB H.1 h (fun e=>Zhr e hc0) (fun x4 _ h=>?_) (hp:=(by first | rfl | simp [go_sem,hc0.pu])));refine Ds (GP H 3 12 [22,12] [(26,[.bv (!x4),.bv (!x4),.bv (!x4)])] (Ds ?_));refine Zcd 28 h rfl (fun _ h=>?_) fun _ h=>?_
    ·refine Ds (GP H 2 10 [24,10] [(29,[.ptr 1 8,Sp1 x1.Told])] (Ds ?_));refine Zma 24 rfl (GB H.1 h Zel (fun x5 _ h=>?_) (hp:=(by first | rfl | simp [go_sem,hc0.pu])));refine Ds (GP H 2 7 [27,7] [(32,[.bv x5,.bv x5])] (Ds ?_));refine Zcd 33 h rfl (fun _ h=>?_) fun _ h=>?_
     ·refine Ds (GP H 3 4 [30,4] [(34,[.ptr 1 8,Sp1 x1.Told,.agg (Node.row x1)])] (Ds ?_));refine Zma 30 rfl ?_;have ⟨x6,ex6,h⟩:=Bs h;refine GC H.1 (Zym ex6 ⟨by kernel_rfl,rfl,fun z r hz=>Zon hz⟩) (Ds ?_) (hp:=(by first | rfl | simp [go_sem,hc0.pu]));refine Zma 31 rfl (GB H.1 h Zj31 (fun x7 _ h=>?_) (hp:=(by first | rfl | simp [go_sem,hc0.pu])));refine Ds (GP H 2 0 [34] [(6,[.bv x7]),(32,[.bv x7])] (Ds ?_));refine GD ?_;exact Zsc J1 h (hok:=by first | rfl | simp [go_sem,Zpb _ hc0.pu])
     ·refine Ds (GP H 7 0 [34] [(39,[.ff])] (Ds ?_));refine GD ?_;exact Zsc J1 h (hok:=by first | rfl | simp [go_sem,Zpb _ hc0.pu])
    ·refine Ds (GP H 12 0 [34] [(32,[.ff,.ff]),(5,[.ff])] (Ds ?_));refine GD ?_;exact Zsc J1 h (hok:=by first | rfl | simp [go_sem,Zpb _ hc0.pu])
   ·refine Ds (GP H 21 0 [34] [(27,[.ff,.ff]),(3,[.ff,.ff]),(5,[.ff])] (Ds ?_));refine GD ?_;exact Zsc J1 h (hok:=by first | rfl | simp [go_sem,Zpb _ hc0.pu])
  ·refine Ds (GP H 28 0 [34] [(18,[.ff,.ff]),(7,[.ff,.ff]),(3,[.ff,.ff]),(5,[.ff])] (Ds ?_));refine GD ?_;exact Zsc J1 h (hok:=by first | rfl | simp [go_sem,Zpb _ hc0.pu])
@[go_sem] def e58:EC:=eQ Tryz.f58
def Zi61:Bool→Option Bool
| x9=>some x9
def Zj61 (x1:Node):Bool→Option Bool
| x5=>
 ifb x5 (
 some false) (
 (Zxm x1 ((fun z=>Z9o z))).bind fun x6=>
 (Zs21 x1.DK.Need x6).bind fun x7=>
 ifb (decide ((ln Z3d x7)=0)) (
 (Zlr x1.Book.Sess ((fun z=>Zm51 z x1))).bind fun x8=>
 Zi61 (!x8)) (
 Zi61 false))
def Zk61 (x1:Node) (x2:(Sess×Bool)):Bool→Option Bool
| x3=>
 ifb (!((decide (x1.DK.TH=2))==x3)) (
 (Zj61 x1) true) (
 ifb (!decide (x1.DK.TH=0)) (
 ifb (!x2.2) (
 (Zj61 x1) true) (
 (Zmm x2.1.Need x1.DK.Need).bind fun x4=>
 (Zj61 x1) (!x4))) (
 (Zj61 x1) false))
def Zl61 (x1:Node):Option Bool:=
 (Z3n x1).bind fun x2=>
 ifb x2.2 (
 (Zk61 x1 x2) (decide (x2.1.State=1))) (
 (Zk61 x1 x2) false)
theorem Zm61 {x1 r} (h:Zl61 x1=some r):Zy6 Tryz.prog 58 [.agg (Node.row x1)] (.bv r):=by
 have ok:=oK 58 Tryz.f58 e58 [.t 2] 1 59;refine FP ok fun w0 H0=>?_;rw [Zl61] at h;refine Vg 8 ?_;refine VB h Z4n fun x2 _ h=>?_;refine Vg 11 ?_;refine Vk [1,1,1,2] (fun x3=>[(5,.bv x3)]) (Zk61 x1 x2) r ?_ fun J1=>?_
 ·intro x3 h;rw [Zk61] at h;(try dsimp only);refine Vg 10 ?_;refine Vl [1,1] (fun x5=>([(42,.bv x5)],[some ⟨67,Node.row x1⟩],[])) (Zj61 x1) r ?_ fun J2=>?_
  ·intro x5 h;rw [Zj61] at h;(try dsimp only);refine MI h (fun h=>?_) fun h=>?_
   ·exact W
   ·refine Vg 6 ?_;refine Vl [] (fun x9=>([(2,.bv x9)],[],[])) Zi61 r ?_ fun J3=>?_
    ·intro x9 h;rw [Zi61] at h;exact W
    ·refine Zej fun all H=>Ds (GP H 5 13 [5,13] [(43,[.ptr 0 0,.ptr 0 4,Sp1 x1.DK.Need,.agg (Node.row x1),.clo 111 []])] (Ds ?_));refine Zma 5 rfl (GB H.1 h (fun e=>Zym e ⟨by kernel_rfl,rfl,fun z r hz=>Zao hz⟩) fun _ _ h=>?_);refine Ds ?_;refine Zma 6 rfl (GB H.1 h Zt21 fun _ _ h=>?_);refine Gn H 3 8 ?_;refine Zcd 52 h rfl (fun _ h=>?_) fun _ h=>?_
     ·refine Ds (GP H 4 4 [14,4] [(53,[.ptr 0 5,.ptr 0 6,Sp5 x1.Book.Sess,.clo 115 [.ptr 0 0]])] (Ds ?_));refine Zma 14 rfl (GQ H.1 (LR.block 0 rfl rfl) h (fun e=>Zmr e ⟨by kernel_rfl,rfl,fun z r hz=>Zn51 hz⟩) fun _ _ h=>?_);refine Gn H 3 0 ?_;refine GD ?_;exact W
     ·refine Ds (GP H 8 0 [18] [(2,[.ff]),(50,[.un,.un,.un,.un,.un,.un,.ff])] (Ds ?_));refine GD ?_;exact W
  ·refine MC 24 h (fun h=>?_) fun h=>?_
   ·exact W
   ·refine Vg 5 ?_;refine MC 29 h (fun h=>?_) fun h=>?_
    ·refine Vg 3 ?_;refine MC 32 h (fun h=>?_) fun h=>?_
     ·exact W
     ·refine Vg 5 ?_;refine VB h Znm fun _ _ h=>?_;exact W
    ·exact W
 ·exact W
@[go_sem] def e136:EC:=eQ Tryz.f136
theorem Zn61:FnOK Tryz.prog 136 Tryz.f136 e136 [.c 6 (some 5),.t 7] 3 77:=okA
@[go_sem] def e51:EC:=eQ Tryz.f51
def Zo61 (x1:Graph):Option (Scene×Int):=
 (Zv51 x1).bind fun x2=>
 ifb (!decide (x2.2.2=0)) (
 some ((Scene.mk (([]:List DI)) (([]:List Mail))),x2.2.2)) (
 (Za41 x1 x2.1).bind fun x3=>
 some ((Scene.mk x3.1 (([]:List Mail))),x3.2))
theorem Zp61 {x1 r} (h:Zo61 x1=some r):Zy6 Tryz.prog 51 [.agg (Graph.row x1)] (.tup [.agg (Scene.row r.1),.iv r.2]):=by
 have ok:=oK 51 Tryz.f51 e51 [.c 2 (some 2),.t 3] 1 26;refine FP ok fun w0 H0=>?_;rw [Zo61] at h;refine Vg 9 ?_;refine VB h Zw51 fun _ _ h=>?_;refine Vg 14 ?_;refine MI h (fun h=>?_) fun h=>?_
 ·exact W
 ·refine Vg 5 ?_;refine VB h Zb41 fun _ _ h=>?_;exact W
@[go_sem] def e10:EC:=eQ Tryz.f10
def Zq61:List Node→Option Hall
| x18=>some (Hall.mk x18 (([]:List Mail)))
def Zr61 (x2:Bar):(Int×List Node)→Option ((Int×List Node) ⊕ Hall)
| (x8,x9)=>
 ifb (decide (x8<(ln DK.row x2.Drinkers))) (
 (at_ x2.Drinkers x8).bind fun x10=>
 (Zb31 x10).bind fun x11=>
 (Z7c 176 x9 ([x11.1])).bind fun x12=>
 some (.inl (wr (x8+1),x12))) (
 Option.map Sum.inr (Zq61 x9))
def Zs61 (x1:Graph):Option Hall:=
 (Zz51 x1).bind fun x2=>
 loop (Zr61 x2) (0,([]:List Node))
theorem Zt61 {x1 r} (h:Zs61 x1=some r):Zy6 Tryz.prog 10 [.agg (Graph.row x1)] (.agg (Hall.row r)):=by
 have ok:=oK 10 Tryz.f10 e10 [.c 2 (some 2)] 1 33;refine FP ok fun w0 H0=>?_;rw [Zs61] at h;refine Vg 8 ?_;refine VB h Z061 fun _ _ h=>?_;refine Vg 14 ?_;refine Vl [2,1,1,1] (fun x18=>([],[none,some ⟨29,[.nl,.nl]⟩,none,some ⟨29,[.osl 0,.nl]⟩],[Sq0 x18])) Zq61 r ?_ fun J1=>?_
 ·intro x18 h;rw [Zq61] at h;(try dsimp only);refine Vg 5 ?_;refine Zhj 0 ?_;exact W
 ·refine Vg 1 ?_;refine Zij 3 0 67 10 (Ds ?_);refine Mm h [2,3] (fun s=>([(5,.iv s.1)],[],[(0,none)],[(0,Sq0 s.2)])) ?_;rintro n1 ⟨x8,x9⟩ y1 h hin1 hout1;rw [Zr61] at h;(try dsimp only);refine Vg 9 ?_;refine MI h (fun h=>?_) fun h=>?_
  ·refine Vg 8 ?_;have ⟨x10,ex10,h⟩:=Bs h;refine Zic DK.row ex10 trivial rfl rfl rfl (Vg 1 ?_);refine VB h Zc31 fun _ _ h=>?_;refine Vg 12 ?_;have ⟨x12,ex12,h⟩:=Bs h;refine Zlc Node.row ex12 trivial rfl rfl rfl (Vg 9 ?_);refine Zgj 2 0 ?_;exact W
  ·exact W
@[go_sem] def e181:EC:=eQ Tryz.f181
theorem Zu61:FnOK Tryz.prog 181 Tryz.f181 e181 [.c 2 (some 5),.t 3,.t 4] 1 38:=okA
@[go_sem] def e68:EC:=eQ Tryz.f68
theorem ok68:FnOK Tryz.prog 68 Tryz.f68 e68 [] 2 159:=okA
def Zv61:(Int×Int×Int×List Side×List Int)→Option (Int×Int×Int×List Side×List Int)
| (x14,x15,x16,x17,x18)=>some (x14,x15,x16,x17,x18)
def Zw61 (x1 x2:Int) (x3 _x4:Int) (_x5:List Sess) (_x6:Int) (x7:List Side) (x8:List Int) (_x9:List KE) (_x10:List Int) (_x11:List KE) (_x12:List Event):Option (Int×Int×Int×List Side×List Int):=
 (Z261 x1 x2 x3 x7 x8).bind fun x13=>
 ifb (decide (x13.2.2.1=0)) (
 Zv61 (x13.1,x13.2.1,0,x13.2.2.2,([]:List Int))) (
 Zv61 (x1,x2,x3,x7,x8))
theorem Zx61 {x1 x2 x3 x4 x5 x6 x7 x8 x9 x10 x11 x12 r} (h:Zw61 x1 x2 x3 x4 x5 x6 x7 x8 x9 x10 x11 x12=some r):Z0f Tryz.prog 126 [.ptr 0 0] [some ⟨138,[.iv x1,.iv x2,.osl 0,.iv x3,.osl 1,.iv x4,Sp5 x5,.osl 2,.osl 3,.osl 4,.nl,.osl 5,.iv x6]⟩] [Zwj x7,Sq4 x8,Zxj x9,Sq4 x10,Zxj x11,Zzj x12] (.tup []) [some ⟨138,[.iv r.1,.iv r.2.1,.osl 6,.iv r.2.2.1,.osl 7,.iv x4,Sp5 x5,.osl 2,.osl 3,.osl 4,.nl,.osl 5,.iv x6]⟩] [none,none,Zxj x9,Sq4 x10,Zxj x11,Zzj x12,Zwj r.2.2.2.1,Sq4 r.2.2.2.2]:=by
 refine FT Z161 fun w0 M0=>?_;have ok:=Z161;rw [Zw61] at h;dsimp only[lun,List.cons_append,List.nil_append];refine Vg 7 ?_;refine VR [] [0,1] 1 6 h Z361 fun _ _ h=>?_;refine Vg 12 ?_;refine Vl [] (fun s=>([],[some ⟨138,[.iv s.1,.iv s.2.1,.osl 6,.iv s.2.2.1,.osl 7,.iv x4,Sp5 x5,.osl 2,.osl 3,.osl 4,.nl,.osl 5,.iv x6]⟩],[none,none,Zxj x9,Sq4 x10,Zxj x11,Zzj x12,Zwj s.2.2.2.1,Sq4 s.2.2.2.2])) Zv61 r ?_ fun J1=>?_
 ·rintro ⟨x14,x15,x16,x17,x18⟩ h;rw [Zv61] at h;(try dsimp only);obtain rfl:=Option.some.inj h;exact Zlj Z161
 ·refine MI h (fun h=>?_) fun h=>?_
  ·refine Vg 8 ?_;refine Zij 0 4 3 1 ?_;exact W
  ·refine Vg 1 ?_;refine Zgj 0 6 (Ds ?_);refine Zjj 3 1 (Ds ?_);refine Zgj 1 7 ?_;exact W
@[go_sem] def e72:EC:=eQ Tryz.f72
theorem ok72:FnOK Tryz.prog 72 Tryz.f72 e72 [] 2 76:=okA
@[go_sem] def e57:EC:=eQ Tryz.f57
def Zy61 (x1:Node):Bool→Option Bool
| x4=>
 ifb x4 (
 (Zg61 x1 ((-1)) ((fun z=>Z5u z x1))).bind fun x5=>
 some x5.1) (
 some false)
def Zz61 (x1:Node):Option Bool:=
 (Zjr x1.AK ((fun z=>Zg01 z x1))).bind fun x2=>
 ifb (!x2) (
 (Zby x1.AK).bind fun x3=>
 (Zy61 x1) x3) (
 (Zy61 x1) false)
theorem Z071 {x1 r} (h:Zz61 x1=some r):Zy6 Tryz.prog 57 [.agg (Node.row x1)] (.bv r):=by
 have ok:=oK 57 Tryz.f57 e57 [.t 2] 1 21;refine FP ok fun w0 H0=>?_;rw [Zz61] at h;refine Vg 26 ?_;refine VN (LR.block 0 rfl rfl) h (fun e=>Zkr e ⟨by kernel_rfl,rfl,fun z r hz=>Zh01 hz⟩) fun _ _ h=>?_;refine Vg 2 ?_;refine Vk [1,1,1,1,1,1] (fun x4=>[(17,.bv x4)]) (Zy61 x1) r ?_ fun J1=>?_
 ·intro x4 h;rw [Zy61] at h;(try dsimp only);refine MI h (fun h=>?_) fun h=>?_
  ·refine Vg 5 ?_;refine Ze8 0 rfl rfl (Ds ?_);refine VR [1] [] 2 0 h (fun e=>Zh61 e ⟨by kernel_rfl,rfl,fun z r hz=>Z6u hz⟩) fun _ _ h=>?_;exact W
  ·exact W
 ·refine MC 13 h (fun h=>?_) fun h=>?_
  ·refine Vg 2 ?_;refine VB h Zcy fun _ _ h=>?_;exact W
  ·exact W
@[go_sem] def e76:EC:=eQ Tryz.f76
theorem ok76:FnOK Tryz.prog 76 Tryz.f76 e76 [] 3 25:=okA
def Z171 (x1 x2:Int) (x3 x4:Int) (x5:Msg) (x9:(List Side×List Int)) (x10:Int):Bool→Option (Int×Int×Int×Int×List Side×List Int)
| x11=>
 ifb x11 (
 (Zr51 x1 x2 x4 x5 x9.1).bind fun x12=>
 ifb (!decide (x12.2.2.1=0)) (
 some (0,0,0,x12.2.2.1,([]:List Side),([]:List Int))) (
 some (x12.1,x12.2.1,x3,0,x12.2.2.2,x9.2))) (
 (at_ x9.1 x10).bind fun x13=>
 ifb (decide (x5.Kind=4)) (
 ifb x13.Ask (
 some (0,0,0,132,([]:List Side),([]:List Int))) (
 some (x1,x2,x3,0,x9.1.set (Int.toNat (x10)) (Side.mk x13.Peer x13.Epoch x13.State x13.Fork x13.DY x13.Token x13.BO true),x9.2))) (
 ifb x13.BO (
 some (0,0,0,132,([]:List Side),([]:List Int))) (
 some (x1,x2,x3,0,x9.1.set (Int.toNat (x10)) (Side.mk x13.Peer x13.Epoch x13.State x13.Fork x13.DY x13.Token true x13.Ask),x9.2))))
def Z271 (x1 x2:Int) (x3 x4:Int) (x5:Msg) (x6:List Side) (x7:List Int):Option (Int×Int×Int×Int×List Side×List Int):=
 (Zt31 (DK.mk (DI.mk x1 x2 x6) x3 x7)).bind fun x8=>
 ifb (!decide (x8=0)) (
 some (0,0,0,x8,([]:List Side),([]:List Int))) (
 (Zkx x1 x2 x3 x6 x7).bind fun x9=>
 (Zbk x9.1 ((fun z=>Zco z x4 x5))).bind fun x10=>
 ifb (decide (x10<0)) (
 (Z171 x1 x2 x3 x4 x5 x9 x10) true) (
 ifb (!decide (x5.Num=0)) (
 (Z171 x1 x2 x3 x4 x5 x9 x10) true) (
 ifb (!decide (x5.Kind=3)) (
 (Z171 x1 x2 x3 x4 x5 x9 x10) (!decide (x5.Kind=4))) (
 (Z171 x1 x2 x3 x4 x5 x9 x10) false))))
theorem Z371 {x1 x2 x3 x4 x5 x6 x7 r} (h:Z271 x1 x2 x3 x4 x5 x6 x7=some r):Z0f Tryz.prog 136 [.agg [.iv x1,.iv x2,.osl 0,.iv x3,.osl 1],.iv x4,.agg (Msg.row x5)] [] [Zwj x6,Sq4 x7] (.tup [.agg [.iv r.1,.iv r.2.1,.osl 2,.iv r.2.2.1,.osl 3],.iv r.2.2.2.1]) [] [Zwj x6,Sq4 x7,Zwj r.2.2.2.2.1,Sq4 r.2.2.2.2.2]:=by
 refine FT Zn61 fun w0 M0=>?_;have ok:=Zn61;rw [Z271] at h;dsimp only[lun,List.cons_append,List.nil_append];refine Vg 12 ?_;refine VN ((LR.slice 0 rfl).slice 1 rfl) h Zu31 fun _ _ h=>?_;refine Vg 7 ?_;refine MI h (fun h=>?_) fun h=>?_
 ·refine Vg 7 ?_;refine Zij 3 2 112 8 (Ds ?_);refine Zij 3 4 3 1 (Ds ?_);obtain rfl:=Option.some.inj h;exact Zkj Zn61
 ·refine Vg 4 ?_;refine VR [] [0,1] 4 2 h Zlx fun x9 _ h=>?_;refine Vg 8 ?_;refine VN (((LR.slice 2 rfl).block 1 rfl rfl).block 2 rfl rfl) h (fun e=>Zck e ⟨by kernel_rfl,rfl,fun z r hz=>Zdo hz⟩) fun x10 _ h=>?_;refine Zf6 8 (Ds ?_);refine An (Vk [3,4,2,1] (fun x11=>[(42,.bv x11)]) (Z171 x1 x2 x3 x4 x5 x9 x10) r ?_ fun J1=>?_)
  ·intro x11 h;rw [Z171] at h;(try dsimp only);refine MI h (fun h=>?_) fun h=>?_
   ·refine Vg 6 ?_;refine VR [] [2] 4 4 h Zs51 fun _ _ h=>?_;refine Vg 13 ?_;refine MI h (fun h=>?_) fun h=>?_
    ·refine Vg 7 ?_;refine Zij 3 2 112 8 (Ds ?_);refine Zij 3 4 3 1 (Ds ?_);refine Zgj 5 2 (Zgj 6 3 (Ds ?_));obtain rfl:=Option.some.inj h;exact Zkj Zn61
    ·refine Vg 13 ?_;refine Zgj 4 2 (Ds ?_);obtain rfl:=Option.some.inj h;exact Zkj Zn61
   ·refine Vg 7 ?_;have ⟨x13,ex13,h⟩:=Bs h;refine Zde Side.row ex13 trivial rfl rfl rfl (Vg 10 ?_);refine MI h (fun h=>?_) fun h=>?_
    ·refine Vg 5 ?_;refine Zde Side.row ex13 trivial rfl rfl rfl (Vg 8 ?_);refine Zke Side.row ex13 trivial rfl rfl rfl (Vg 1 ?_);refine MI h (fun h=>?_) fun h=>?_
     ·refine Vg 6 ?_;refine Zij 3 2 112 8 (Ds ?_);refine Zij 3 4 3 1 (Ds ?_);refine Zgj 4 2 (Zgj 5 3 (Ds ?_));obtain rfl:=Option.some.inj h;exact Zkj Zn61
     ·refine Vg 5 ?_;refine Zue [.bv true] Side.row (y':=(Side.mk x13.Peer x13.Epoch x13.State x13.Fork x13.DY x13.Token x13.BO true)) ex13 trivial rfl rfl rfl (by first | exact Zqb _ | simp [go_sem]) rfl rfl rfl rfl (Vg 7 ?_);obtain rfl:=Option.some.inj h;exact Zkj Zn61
    ·refine Vg 6 ?_;refine Zke Side.row ex13 trivial rfl rfl rfl (Vg 1 ?_);refine MI h (fun h=>?_) fun h=>?_
     ·refine Vg 6 ?_;refine Zij 3 2 112 8 (Ds ?_);refine Zij 3 4 3 1 (Ds ?_);refine Zgj 4 2 (Zgj 5 3 (Ds ?_));obtain rfl:=Option.some.inj h;exact Zkj Zn61
     ·refine Vg 5 ?_;refine Zue [.bv true] Side.row (y':=(Side.mk x13.Peer x13.Epoch x13.State x13.Fork x13.DY x13.Token true x13.Ask)) ex13 trivial rfl rfl rfl (by first | exact Zqb _ | simp [go_sem]) rfl rfl rfl rfl (Vg 7 ?_);obtain rfl:=Option.some.inj h;exact Zkj Zn61
  ·exact W
@[go_sem] def e20:EC:=eQ Tryz.f20
def Z471:List DK→Option (Bar×Int)
| x17=>some ((Bar.mk x17 (([]:List Mail))),0)
def Z571 (x2:(Scene×Int)):(Int×List DK)→Option ((Int×List DK) ⊕ (Bar×Int))
| (x7,x8)=>
 ifb (decide (x7<(ln DI.row x2.1.Diners))) (
 (at_ x2.1.Diners x7).bind fun x9=>
 (Z7c 72 x8 ([DK.mk x9 0 (([]:List Int))])).bind fun x10=>
 some (.inl (wr (x7+1),x10))) (
 Option.map Sum.inr (Z471 x8))
def Z671 (x1:Graph):Option (Bar×Int):=
 (Zo61 x1).bind fun x2=>
 ifb (!decide (x2.2=0)) (
 some ((Bar.mk (([]:List DK)) (([]:List Mail))),x2.2)) (
 loop (Z571 x2) (0,([]:List DK)))
theorem Z771 {x1 r} (h:Z671 x1=some r):Zy6 Tryz.prog 20 [.agg (Graph.row x1)] (.tup [.agg (Bar.row r.1),.iv r.2]):=by
 have ok:=oK 20 Tryz.f20 e20 [.c 2 (some 2),.t 3] 1 33;refine FP ok fun w0 H0=>?_;rw [Z671] at h;refine Vg 9 ?_;refine VB h Zp61 fun _ _ h=>?_;refine Vg 13 ?_;refine MI h (fun h=>?_) fun h=>?_
 ·exact W
 ·refine Vg 13 ?_;refine Vl [2,1,3,1] (fun x17=>([],[none,some ⟨73,[.nl,.nl]⟩,none,some ⟨73,[.osl 0,.nl]⟩],[Zvj x17])) Z471 r ?_ fun J1=>?_
  ·intro x17 h;rw [Z471] at h;(try dsimp only);refine Vg 6 ?_;refine Zhj 0 ?_;exact W
  ·refine Vg 1 ?_;refine Zij 3 0 61 5 (Ds ?_);refine Mm h [2,1,3,1,12,2] (fun s=>([(21,.iv s.1)],[],[(0,none),(2,none)],[(0,Zvj s.2)])) ?_;rintro n1 ⟨x7,x8⟩ y1 h hin1 hout1;rw [Z571] at h;(try dsimp only);refine Vg 5 ?_;refine MI h (fun h=>?_) fun h=>?_
   ·refine Vg 5 ?_;have ⟨x9,ex9,h⟩:=Bs h;refine Zic DI.row ex9 trivial rfl rfl rfl (Vg 9 ?_);refine Zwf 28 (.agg [.iv x9.ID,.iv x9.PH,Sp3 x9.SD,.iv 0,Sp1 (([]:List Int))]) (by simp [go_sem]) ?_;refine Vg 1 ?_;have ⟨x10,ex10,h⟩:=Bs h;refine Zlc DK.row ex10 trivial rfl rfl rfl (Vg 8 ?_);refine Zgj 2 0 ?_;exact W
   ·exact W
def Z871:(Int×Int×Int×Int×List Sess×Int×List Event×List Side×List Int)→Option (Int×Int×Int×Int×List Sess×Int×List Event×List Side×List Int)
| (x44,x45,x46,x47,x48,x49,x50,x51,x52)=>some (x44,x45,x46,x47,x48,x49,x50,x51,x52)
def Z971 (x1:Do) (x2:Int) (x3 x4 x5:Int) (x7:List Side) (x8:List Int) (x9:List Sess) (x16:Book):(Bool×Int)→Option (Int×Int×Int×Int×List Sess×Int×List Event×List Side×List Int)
| (x21,x22)=>
 ifb x21 (
 (Zur x1.Need).bind fun x23=>
 (Z7c 56 [] ([Event.mk 0 x2 x1.ID 0 x23])).bind fun x24=>
 Z871 (x2,x3,x4,x16.Last,x16.Sess,x22,x24,x7,x8)) (
 Z871 (x2,x3,x4,x5,x9,x22,([]:List Event),x7,x8))
def Za71 (x1:Do) (x2:Int) (x3 x4:Int) (x5 x6:Int) (x7:List Side) (x8:List Int) (x9:List Sess) (x10:List KE) (x11:List Int) (x12:List KE):(Int×Book)→Option (Int×Int×Int×Int×List Sess×Int×List Event×List Side×List Int)
| (x15,x16)=>
 (Zrs (decide (x15=0)) x15 x2 x3 x4 x5 x9 x6 x7 x8 x10 x11 x12).bind fun x17=>
 ifb x17.1 (
 (Zex x2 x3 x4 x5 x9 x7 x8 x10 x11 x12).bind fun x18=>
 (Zi31 x1.Need x18).bind fun x19=>
 (Zrs x19 181 x2 x3 x4 x5 x9 x17.2 x7 x8 x10 x11 x12).bind fun x20=>
 (Z971 x1 x2 x3 x4 x5 x7 x8 x9 x16) (x20.1,x20.2)) (
 (Z971 x1 x2 x3 x4 x5 x7 x8 x9 x16) (false,x17.2))
def Zb71 (x2 x3 x4:Int) (x7:List Side) (x8:List Int) (x10:List KE) (x11:List Int) (x12:List KE) (x31:(Bool×Int×List Sess×Int)) (x32:List Event):Bool→Option (Int×Int×Int×Int×List Sess×Int×List Event×List Side×List Int)
| x33=>
 ifb x33 (
 (Zw61 x2 x3 x4 x31.2.1 x31.2.2.1 x31.2.2.2 x7 x8 x10 x11 x12 x32).bind fun x34=>
 Z871 (x34.1,x34.2.1,x34.2.2.1,x31.2.1,x31.2.2.1,x31.2.2.2,x32,x34.2.2.2.1,x34.2.2.2.2)) (
 Z871 (x2,x3,x4,x31.2.1,x31.2.2.1,x31.2.2.2,x32,x7,x8))
def Zc71 (x2 x3 x4:Int) (x7:List Side) (x8:List Int) (x10:List KE) (x11:List Int) (x12:List KE) (x37:Int) (x40:(Bool×Int×List Sess×Int)):Bool→Option (Int×Int×Int×Int×List Sess×Int×List Event×List Side×List Int)
| x41=>
 ifb x41 (
 (Zys 4 x37 x2 x3 x4 x40.2.1 x40.2.2.1 x40.2.2.2 x7 x8 x10 x11 x12).bind fun x42=>
 (Zw61 x2 x3 x4 x40.2.1 x40.2.2.1 x40.2.2.2 x7 x8 x10 x11 x12 x42).bind fun x43=>
 Z871 (x43.1,x43.2.1,x43.2.2.1,x40.2.1,x40.2.2.1,x40.2.2.2,x42,x43.2.2.2.1,x43.2.2.2.2)) (
 Z871 (x2,x3,x4,x40.2.1,x40.2.2.1,x40.2.2.2,([]:List Event),x7,x8))
def Zd71 (x2 x3:Int) (x4 x5 x6:Int) (x7:List Side) (x8:List Int) (x9:List Sess) (x10:List KE) (x11:List Int) (x12:List KE):(Int×Int×Book)→Option (Int×Int×Int×Int×List Sess×Int×List Event×List Side×List Int)
| (x37,x38,x39)=>
 (Zhx x39 x38 x2 x3 x4 x5 x9 x6 x7 x8 x10 x11 x12).bind fun x40=>
 ifb x40.1 (
 (Zc71 x2 x3 x4 x7 x8 x10 x11 x12 x37 x40) (!decide (x37=0))) (
 (Zc71 x2 x3 x4 x7 x8 x10 x11 x12 x37 x40) false)
def Ze71 (x1:Do) (x2:Int) (x3 x4:Int) (x5 x6:Int) (x7:List Side) (x8:List Int) (x9:List Sess) (x10:List KE) (x11:List Int) (x12:List KE):Option (Int×Int×Int×Int×List Sess×Int×List Event×List Side×List Int):=
 ifb (decide (x1.Kind=0)) (
 (Zm11 (Book.mk x5 x9) x1.ID x1.Need).bind fun x13=>
 (Za71 x1 x2 x3 x4 x5 x6 x7 x8 x9 x10 x11 x12) (x13.2,x13.1)) (
 ifb (decide (x1.Kind=1)) (
 (Zm41 (Book.mk x5 x9) x1.ID).bind fun x25=>
 (Zhx x25.1 x25.2 x2 x3 x4 x5 x9 x6 x7 x8 x10 x11 x12).bind fun x26=>
 ifb x26.1 (
 (Zys 2 x1.ID x2 x3 x4 x26.2.1 x26.2.2.1 x26.2.2.2 x7 x8 x10 x11 x12).bind fun x27=>
 (Zw61 x2 x3 x4 x26.2.1 x26.2.2.1 x26.2.2.2 x7 x8 x10 x11 x12 x27).bind fun x28=>
 Z871 (x28.1,x28.2.1,x28.2.2.1,x26.2.1,x26.2.2.1,x26.2.2.2,x27,x28.2.2.2.1,x28.2.2.2.2)) (
 Z871 (x2,x3,x4,x26.2.1,x26.2.2.1,x26.2.2.2,([]:List Event),x7,x8))) (
 ifb (decide (x1.Kind=2)) (
 (Z2t x2 x3 x4 x5 x7 x8 x9 x10 x11 x12).bind fun x29=>
 (Zo41 (Book.mk x5 x9) x1.ID).bind fun x30=>
 (Zhx x30.1 x30.2 x2 x3 x4 x5 x9 x6 x7 x8 x10 x11 x12).bind fun x31=>
 ifb x31.1 (
 (Zys 3 x1.ID x2 x3 x4 x31.2.1 x31.2.2.1 x31.2.2.2 x7 x8 x10 x11 x12).bind fun x32=>
 ifb (decide (x29.1.ID=x1.ID)) (
 (Zb71 x2 x3 x4 x7 x8 x10 x11 x12 x31 x32) (decide (x4=1))) (
 (Zb71 x2 x3 x4 x7 x8 x10 x11 x12 x31 x32) false)) (
 Z871 (x2,x3,x4,x31.2.1,x31.2.2.1,x31.2.2.2,([]:List Event),x7,x8))) (
 ifb (decide (x1.Kind=3)) (
 (Zx11 (Book.mk x5 x9) x1.Hold).bind fun x35=>
 (Zd71 x2 x3 x4 x5 x6 x7 x8 x9 x10 x11 x12) (x35.2.1,x35.2.2,x35.1)) (
 Z871 (x2,x3,x4,x5,x9,x6,([]:List Event),x7,x8)))))
theorem Zf71 {x1 x2 x3 x4 x5 x6 x7 x8 x9 x10 x11 x12 r} (h:Ze71 x1 x2 x3 x4 x5 x6 x7 x8 x9 x10 x11 x12=some r):Z0f Tryz.prog 68 [.ptr 0 0,.agg (Do.row x1)] [some ⟨138,[.iv x2,.iv x3,.osl 0,.iv x4,.osl 1,.iv x5,.osl 2,.osl 3,.osl 4,.osl 5,.nl,.nl,.iv x6]⟩] [Zwj x7,Sq4 x8,Zuj x9,Zxj x10,Sq4 x11,Zxj x12] (.tup []) [some ⟨138,[.iv r.1,.iv r.2.1,.osl 8,.iv r.2.2.1,.osl 9,.iv r.2.2.2.1,Sp5 r.2.2.2.2.1,.osl 3,.osl 4,.osl 5,.nl,.osl 6,.iv r.2.2.2.2.2.1]⟩] [none,none,none,Zxj x10,Sq4 x11,Zxj x12,Zzj r.2.2.2.2.2.2.1,none,Zwj r.2.2.2.2.2.2.2.1,Sq4 r.2.2.2.2.2.2.2.2]:=by
 refine FT ok68 fun w0 M0=>?_;have ok:=ok68;rw [Ze71] at h;dsimp only[lun,List.cons_append,List.nil_append];refine Vg 15 ?_;refine Vl [] (fun s=>([],[some ⟨138,[.iv s.1,.iv s.2.1,.osl 8,.iv s.2.2.1,.osl 9,.iv s.2.2.2.1,Sp5 s.2.2.2.2.1,.osl 3,.osl 4,.osl 5,.nl,.osl 6,.iv s.2.2.2.2.2.1]⟩],[none,none,none,Zxj x10,Sq4 x11,Zxj x12,Zzj s.2.2.2.2.2.2.1,none,Zwj s.2.2.2.2.2.2.2.1,Sq4 s.2.2.2.2.2.2.2.2])) Z871 r ?_ fun J1=>?_
 ·rintro ⟨x44,x45,x46,x47,x48,x49,x50,x51,x52⟩ h;rw [Z871] at h;(try dsimp only);refine Vg 1 ?_;obtain rfl:=Option.some.inj h;exact Zlj ok68
 ·refine MI h (fun h=>?_) fun h=>?_
  ·refine Vg 1 ?_;refine Zhj 2 (Ds ?_);refine Vl [0,1,2,1] (fun s=>([(4,.ptr 2 0),(5,.iv s.1)],[some ⟨138,[.iv x2,.iv x3,.osl 0,.iv x4,.osl 1,.iv x5,Sp5 x9,.osl 3,.osl 4,.osl 5,.nl,.nl,.iv x6]⟩,some ⟨42,Do.row x1⟩,some ⟨64,[.iv s.2.Last,Sp5 s.2.Sess]⟩],[Zwj x7,Sq4 x8,none,Zxj x10,Sq4 x11,Zxj x12])) (Za71 x1 x2 x3 x4 x5 x6 x7 x8 x9 x10 x11 x12) r ?_ fun J2=>?_
   ·rintro ⟨x15,x16⟩ h;rw [Za71] at h;(try dsimp only);refine Vg 1 ?_;refine Vm [0,1,2,2] (fun s=>([(44,.bv s.1)],[(0,12,.iv s.2)],[],[])) (Z971 x1 x2 x3 x4 x5 x7 x8 x9 x16) r ?_ fun J3=>?_
    ·rintro ⟨x21,x22⟩ h;rw [Z971] at h;(try dsimp only);refine MI h (fun h=>?_) fun h=>?_
     ·refine Vg 9 ?_;refine Zej fun all H=>Ds (GP H 16 7 [16,7] [(50,[.ptr 0 0,.ptr 0 0,.ptr 0 0,.ptr 0 11,.nl,.ptr 0 0,.ptr 0 0,.ptr 0 0,.ptr 0 0,.ptr 0 0,.ptr 0 0,.iv x2,.ptr 1 1,.iv x1.ID,.ptr 1 4,Sp1 x1.Need])] (Ds ?_));refine Zma 16 rfl (GB H.1 h Zwr fun _ _ h=>?_);refine Ds ?_;refine GN H 1 5 (Ds ?_);refine An (R1 ?_);refine Zma 19 rfl ?_;have ⟨x24,ex24,h⟩:=Bs h;refine Znc Event.row ex24 H.1 rfl trivial rfl rfl ?_;refine Gn H 2 1 ?_;refine R1 ?_;refine GD (Zgj 7 6 (Ds ?_));refine Zjj 112 8 (Ds ?_);refine Zgj 0 8 (Ds ?_);refine Zjj 3 1 (Ds ?_);refine Zgj 1 9 ?_;exact W
     ·refine Vg 1 ?_;refine Zij 0 11 77 5 (Ds ?_);refine Zjj 112 8 (Ds ?_);refine Zjj 112 8 (Ds ?_);refine Zgj 0 8 (Ds ?_);refine Zjj 3 1 (Ds ?_);refine Zgj 1 9 ?_;exact W
    ·refine Zej fun all H=>Ds (GP H 4 13 [4,13] [(28,[.ptr 0 0,.iv x15,.bv (decide (x15=0)),.iv x15])] (Ds ?_));refine Zma 4 rfl (GF H.1 [0] [0,1,3,4,5] 3 6 h Zss fun _ _ h=>?_);refine Ds ?_;refine GN H 1 11 (Ds ?_);refine An (Zcd 33 h rfl (fun _ h=>?_) fun _ h=>?_)
     ·refine Ds (GP H 6 5 [12,5] [(34,[.ptr 0 0,.ptr 1 4,Sp1 x1.Need,.ptr 0 0,.ptr 0 0,.ptr 0 0])] (Ds ?_));refine R1 ?_;refine Zma 13 rfl (GR H.1 [] [0,1,3,4,5] 3 6 h Zfx fun _ _ h=>?_);refine Ds ?_;refine Zma 14 rfl (GQ H.1 (LR.slice 6 rfl) h Zj31 fun _ _ h=>?_);refine Ds ?_;refine Zma 15 rfl (GF H.1 [0] [0,1,3,4,5] 3 7 h Zss fun _ _ h=>?_);refine Gn H 1 0 ?_;refine GD ?_;exact W
     ·refine Ds (GP H 11 0 [17] [(34,[.un,.un,.un,.un,.un,.un,.un,.un,.un,.un,.ff])] (Ds ?_));refine GD ?_;exact W
   ·have ⟨x13,ex13,h⟩:=Bs h;have q0:=Zn11 ex13;refine Zej fun all H=>Gs ?_;exact W
  ·refine Vg 5 ?_;refine MI h (fun h=>?_) fun h=>?_
   ·refine Vg 1 ?_;refine Zhj 2 (Ds ?_);refine Zej fun all H=>Ds (GP H 8 4 [8,4] [(74,[.ptr 0 0,.ptr 0 0,.ptr 0 0,.ptr 0 0,.ptr 0 5,.agg [.iv x5,Sp5 x9],.ptr 1 1,.iv x1.ID])] (Ds ?_));refine Zma 8 rfl (GB H.1 h Zn41 fun _ _ h=>?_);refine Ds ?_;refine GN H 2 1 (Ds ?_);refine An (Zma 11 rfl (GF H.1 [0] [0,1,3,4,5] 2 6 h Zix fun _ _ h=>?_));refine Ds ?_;refine GD (MI h (fun h=>?_) fun h=>?_)
    ·refine Vg 5 ?_;refine VR [0] [0,1,3,4,5] 2 6 h Zzs fun _ _ h=>?_;refine Vg 3 ?_;refine VR [0] [0,1,3,4,5,7] 2 8 h Zx61 fun _ _ h=>?_;refine Vg 1 ?_;refine Zgj 7 6 ?_;exact W
    ·refine Vg 1 ?_;refine Zij 0 11 77 5 (Ds ?_);refine Zjj 112 8 (Ds ?_);refine Zjj 112 8 (Ds ?_);refine Zgj 0 8 (Ds ?_);refine Zjj 3 1 (Ds ?_);refine Zgj 1 9 ?_;exact W
   ·refine Vg 5 ?_;refine MI h (fun h=>?_) fun h=>?_
    ·refine Vg 6 ?_;refine VR [] [0,1,2,3,4,5] 2 6 h Z3t fun _ _ h=>?_;refine Vg 8 ?_;refine Zhj 2 (Ds ?_);refine Zej fun all H=>Ds (GP H 8 4 [8,4] [(102,[.ptr 0 0,.ptr 0 0,.ptr 0 0,.ptr 0 0,.ptr 0 5,.agg [.iv x5,Sp5 x9],.ptr 1 1,.iv x1.ID])] (Ds ?_));refine Zma 8 rfl (GB H.1 h Zp41 fun _ _ h=>?_);refine Gn H 2 1 ?_;refine Zma 11 rfl (GF H.1 [0] [0,1,3,4,5] 3 6 h Zix fun x31 _ h=>?_);refine Ds ?_;refine GD (MI h (fun h=>?_) fun h=>?_)
     ·refine Vg 5 ?_;refine VR [0] [0,1,3,4,5] 3 6 h Zzs fun x32 _ h=>?_;refine Vg 9 ?_;refine Vl [0,1] (fun x33=>([(131,.bv x33)],[some ⟨138,[.iv x2,.iv x3,.osl 0,.iv x4,.osl 1,.iv x31.2.1,Sp5 x31.2.2.1,.osl 3,.osl 4,.osl 5,.nl,.osl 7,.iv x31.2.2.2]⟩],[Zwj x7,Sq4 x8,none,Zxj x10,Sq4 x11,Zxj x12,none,Zzj x32])) (Zb71 x2 x3 x4 x7 x8 x10 x11 x12 x31 x32) r ?_ fun J4=>?_
      ·intro x33 h;rw [Zb71] at h;(try dsimp only);refine MI h (fun h=>?_) fun h=>?_
       ·refine Vg 2 ?_;refine VR [0] [0,1,3,4,5,7] 1 8 h Zx61 fun _ _ h=>?_;refine Vg 1 ?_;refine Zgj 7 6 ?_;exact W
       ·refine Vg 1 ?_;refine Zgj 7 6 (Ds ?_);refine Zjj 112 8 (Ds ?_);refine Zgj 0 8 (Ds ?_);refine Zjj 3 1 (Ds ?_);refine Zgj 1 9 ?_;exact W
      ·exact W
     ·refine Vg 1 ?_;refine Zij 0 11 77 5 (Ds ?_);refine Zjj 112 8 (Ds ?_);refine Zjj 112 8 (Ds ?_);refine Zgj 0 8 (Ds ?_);refine Zjj 3 1 (Ds ?_);refine Zgj 1 9 ?_;exact W
    ·refine Vg 5 ?_;refine MI h (fun h=>?_) fun h=>?_
     ·refine Vg 1 ?_;refine Zhj 2 (Ds ?_);refine Vl [0,1] (fun s=>([(8,.ptr 2 0),(9,.iv s.1),(10,.iv s.2.1)],[some ⟨138,[.iv x2,.iv x3,.osl 0,.iv x4,.osl 1,.iv x5,Sp5 x9,.osl 3,.osl 4,.osl 5,.nl,.nl,.iv x6]⟩,none,some ⟨64,[.iv s.2.2.Last,Sp5 s.2.2.Sess]⟩],[Zwj x7,Sq4 x8,none,Zxj x10,Sq4 x11,Zxj x12])) (Zd71 x2 x3 x4 x5 x6 x7 x8 x9 x10 x11 x12) r ?_ fun J5=>?_
      ·rintro ⟨x37,x38,x39⟩ h;rw [Zd71] at h;(try dsimp only);refine Vg 5 ?_;refine VR [0] [0,1,3,4,5] 3 6 h Zix fun x40 _ h=>?_;refine Vg 1 ?_;refine Vl [0,1,8,1] (fun x41=>([(155,.bv x41)],[some ⟨138,[.iv x2,.iv x3,.osl 0,.iv x4,.osl 1,.iv x40.2.1,Sp5 x40.2.2.1,.osl 3,.osl 4,.osl 5,.nl,.nl,.iv x40.2.2.2]⟩],[Zwj x7,Sq4 x8,none,Zxj x10,Sq4 x11,Zxj x12])) (Zc71 x2 x3 x4 x7 x8 x10 x11 x12 x37 x40) r ?_ fun J6=>?_
       ·intro x41 h;rw [Zc71] at h;(try dsimp only);refine MI h (fun h=>?_) fun h=>?_
        ·refine Vg 4 ?_;refine VR [0] [0,1,3,4,5] 1 6 h Zzs fun _ _ h=>?_;refine Vg 3 ?_;refine VR [0] [0,1,3,4,5,7] 1 8 h Zx61 fun _ _ h=>?_;refine Vg 1 ?_;refine Zgj 7 6 ?_;exact W
        ·refine Vg 1 ?_;refine Zij 0 11 77 5 (Ds ?_);refine Zjj 112 8 (Ds ?_);refine Zjj 112 8 (Ds ?_);refine Zgj 0 8 (Ds ?_);refine Zjj 3 1 (Ds ?_);refine Zgj 1 9 ?_;exact W
       ·exact W
      ·have ⟨x35,ex35,h⟩:=Bs h;have q0:=Zy11 ex35;refine Zej fun all H=>Gs ?_;exact W
     ·refine Vg 1 ?_;refine Zhj 2 (Ds ?_);refine Zij 0 11 77 5 (Ds ?_);refine Zjj 112 8 (Ds ?_);refine Zjj 112 8 (Ds ?_);refine Zgj 0 8 (Ds ?_);refine Zjj 3 1 (Ds ?_);refine Zgj 1 9 ?_;exact W
end
end NX
end Go.Proofs.YtgamgemlekpepaaGreat
