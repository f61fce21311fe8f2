/-
  The function narthex/sess.Gone: its code compiled, a model, and that the code answers as the model. Written by a program of ours (lb.py). No statement of the seat is proved here.
-/
import Derived.Test.YtgamgemlekpepaaGreatK40
set_option maxRecDepth 100000
set_option maxHeartbeats 40000000
namespace Go.Proofs.YtgamgemlekpepaaGreat
namespace NX
open Go
noncomputable section
def Zl61 (x1:BK) (x2:Int):Option (BK×List Int×Int):=
 (Ze01 x1).bind fun x3=>
 ifb (!decide (x3=0)) (
 some ((BK.mk 0 (([]:List SE))),([]:List Int),x3)) (
 (Zax x1).bind fun x4=>
 (Zq51 x2 x4).bind fun x5=>
 some ((BK.mk x1.LA x5.2),x5.1,0))
theorem Zm61 {x1 x2 r} (h:Zl61 x1 x2=some r):FPx 133 [.agg (BK.row x1),.iv x2] (.tup [.agg (BK.row r.1),Sp1 r.2.1,.iv r.2.2]):=by
 have ok:=oJ 133 Tryz.f133 [.c 4 (some 2),.t 5,.t 6] 2 22;refine FP ok fun w0 H0=>?_;rw [Zl61] at h;refine Vg 12 ?_;refine VB h Zf01 fun _ _ h=>?_;refine Vg 7 ?_;refine MI h (fun h=>?_) fun h=>?_
 ·exact W
 ·refine Vg 8 ?_;refine VR [] [] 4 0 h Zbx fun _ _ h=>?_;refine Vg 7 ?_;refine VR [1,3] [0] 4 1 h Zr51 fun _ _ h=>?_;refine Vg 4 ?_;refine Zgj fun all H=>Gs ?_;refine Zjj 2 (Ds ?_);refine Zjj 1 ?_;exact W
def Zn61 (x1 x3:Int) (x4:List SX) (x5:List Int) (x6:List ML):Int→Option (Int×Int×Int×List SX×List ML)
| x10=>
 (Zi51 (DI.mk x1 x10 x4)).bind fun x11=>
 (Z8c 40 x6 x11.2.2.2.2).bind fun x12=>
 (Z031 x11.1 x11.2.1 x3 x11.2.2.2.1 x5 x12).bind fun x13=>
 some (x11.1,x11.2.1,x13.1,x13.2.1,x13.2.2)
def Zo61 (x1 x2 x3:Int) (x4:List SX) (x5:List Int) (x6:List ML):Bool→Option (Int×Int×Int×List SX×List ML)
| x9=>
 ifb x9 (
 (Zn61 x1 x3 x4 x5 x6) 0) (
 (Zn61 x1 x3 x4 x5 x6) x2)
def Zp61 (x1 x2 x3:Int) (x4:List SX) (x5:List Int) (x6:List ML):Bool→Option (Int×Int×Int×List SX×List ML)
| x7=>
 ifb x7 (
 (Zn61 x1 x3 x4 x5 x6) 1) (
 ifb (decide (x2=2)) (
 ifb (!decide (x3=1)) (
 (Zur x4 ((fun z=>Znm z))).bind fun x8=>
 (Zo61 x1 x2 x3 x4 x5 x6) (!x8)) (
 (Zo61 x1 x2 x3 x4 x5 x6) false)) (
 (Zo61 x1 x2 x3 x4 x5 x6) false))
def Zq61 (x1 x2 x3:Int) (x4:List SX) (x5:List Int) (x6:List ML):Option (Int×Int×Int×List SX×List ML):=
 ifb (decide (x3=1)) (
 (Zp61 x1 x2 x3 x4 x5 x6) (decide (x2=0))) (
 (Zp61 x1 x2 x3 x4 x5 x6) false)
theorem Zr61 {x1 x2 x3 x4 x5 x6 r} (h:Zq61 x1 x2 x3 x4 x5 x6=some r):FTx 211 [.ptr 0 0] [some ⟨248,[.iv x1,.iv x2,.osl 0,.iv x3,.osl 1,.osl 2]⟩] [Z5k x4,Sq4 x5,Sq6 x6] (.tup []) [some ⟨248,[.iv r.1,.iv r.2.1,.osl 3,.iv r.2.2.1,.osl 1,.osl 7]⟩] [none,Sq4 x5,none,Z5k r.2.2.2.1,none,none,none,Sq6 r.2.2.2.2]:=by
 refine Ft Z751 fun w0 M0=>?_;have ok:=Z751;rw [Zq61] at h;refine Vg 15 ?_;refine Vk [0,1,1,1] (fun x7=>[(6,.bv x7)]) (Zp61 x1 x2 x3 x4 x5 x6) r ?_ fun J1=>?_
 ·intro x7 h;rw [Zp61] at h;refine Vm [0,1] (fun x10=>([],[(0,1,.iv x10)],[],[])) (Zn61 x1 x3 x4 x5 x6) r ?_ fun J2=>?_
  ·intro x10 h;rw [Zn61] at h;refine Vg 8 ?_;refine Zjj 0 (Ds ?_);refine VR [] [] 1 3 h Zj51 fun _ _ h=>?_;refine Vg 26 ?_;have ⟨x12,ex12,h⟩:=Bs h;refine Zmc ML.row ex12 trivial rfl rfl rfl (Vg 6 ?_);refine VR [0] [3,1,5] 2 6 h Z131 fun _ _ h=>?_;exact W
  ·refine MI h (fun h=>?_) fun h=>?_
   ·exact W
   ·refine Vg 10 ?_;refine Vk [0,1] (fun x9=>[(27,.bv x9)]) (Zo61 x1 x2 x3 x4 x5 x6) r ?_ fun J3=>?_
    ·intro x9 h;rw [Zo61] at h;exact W
    ·refine MC 35 h (fun h=>?_) fun h=>?_
     ·refine Vg 8 ?_;refine MC 43 h (fun h=>?_) fun h=>?_
      ·refine Vg 7 ?_;refine VN (LR.slice 0 rfl) h (fun e=>Zvr e ⟨by kernel_rfl,rfl,fun z r hz=>Zom hz⟩) fun _ _ h=>?_;exact W
      ·exact W
     ·exact W
 ·exact W
def Zs61:(List SX×List KE×List ML×List EV)→Option (List SX×List KE×List ML×List EV)
| (x52,x53,x54,x55)=>some (x52,x53,x54,x55)
def Zt61 (x1 x2:Int) (x3 x4:Int) (x5:List SE) (x6:List Int) (x7:Int) (x9:List Int) (x11:List KE):(Int×List SX×List KE×List ML×List EV)→Option ((Int×List SX×List KE×List ML×List EV) ⊕ (List SX×List KE×List ML×List EV))
| (x23,x24,x25,x26,x27)=>
 ifb (decide (x23<(ln KE.row x11))) (
 (at_ x11 x23).bind fun x28=>
 (Zz51 (SX.mk x28.PE x28.EP 0 false false true false true) x1 x2 x3 x4 x5 x6 x7 x24 x9 x25 x11 x26 x27).bind fun x29=>
 (Zau (SX.mk x28.PE x28.EP 0 false false true false true) 6 x1 x2 x3 x4 x5 x6 x7 x29.1 x9 x29.2 x11 x26 x27).bind fun x30=>
 (Zcu 6 x28.PE x1 x2 x3 x4 x5 x6 x7 x29.1 x9 x29.2 x11 x30 x27).bind fun x31=>
 some (.inl (wr (x23+1),x29.1,x29.2,x30,x31))) (
 Option.map Sum.inr (Zs61 (x24,x25,x26,x27)))
def Zu61 (x1 x2:Int) (x3 x4:Int) (x5:List SE) (x6:List Int) (x7:Int) (x8:List SX) (x9:List Int) (x10 x11:List KE) (x12:List ML) (x13:List EV):Option (List SX×List KE×List ML×List EV):=loop (Zt61 x1 x2 x3 x4 x5 x6 x7 x9 x11) (0,x8,x10,x12,x13)
theorem Zv61 {x1 x2 x3 x4 x5 x6 x7 x8 x9 x10 x11 x12 x13 r} (h:Zu61 x1 x2 x3 x4 x5 x6 x7 x8 x9 x10 x11 x12 x13=some r):FTx 179 [.ptr 0 0] [some ⟨138,[.iv x1,.iv x2,.osl 0,.iv x3,.osl 1,.iv x4,Sp5 x5,.osl 2,Sp1 x6,.osl 3,.osl 4,.osl 5,.iv x7]⟩] [Z5k x8,Sq4 x9,Z6k x10,Z6k x11,Sq6 x12,Z8k x13] (.tup []) [some ⟨138,[.iv x1,.iv x2,.osl 7,.iv x3,.osl 1,.iv x4,Sp5 x5,.osl 9,Sp1 x6,.nl,.osl 11,.osl 13,.iv x7]⟩] [none,Sq4 x9,none,Z6k x11,none,none,none,Z5k r.1,none,Z6k r.2.1,none,Sq6 r.2.2.1,none,Z8k r.2.2.2]:=by
 refine Ft Zs51 fun w0 M0=>?_;have ok:=Zs51;rw [Zu61] at h;refine Vg 11 ?_;refine Vl [0,1] (fun s=>([],[some ⟨138,[.iv x1,.iv x2,.osl 7,.iv x3,.osl 1,.iv x4,Sp5 x5,.osl 9,Sp1 x6,.osl 3,.osl 11,.osl 13,.iv x7]⟩],[none,Sq4 x9,none,Z6k x11,none,none,none,Z5k s.1,none,Z6k s.2.1,none,Sq6 s.2.2.1,none,Z8k s.2.2.2])) Zs61 r ?_ fun J1=>?_
 ·rintro ⟨x52,x53,x54,x55⟩ h;rw [Zs61] at h;exact W
 ·refine Vg 1 ?_;refine Zlj 53 5 (Ds ?_);refine Zlj 53 5 (Ds ?_);refine Zlj 53 5 (Ds ?_);refine Zlj 53 5 (Ds ?_);refine Zlj 53 5 (Ds ?_);refine Zlj 53 5 (Ds ?_);refine Zij 4 11 (Ds ?_);refine Zlj 77 5 (Ds ?_);refine Zlj 77 5 (Ds ?_);refine Zij 5 13 (Zij 0 7 (Ds ?_));refine Zij 2 9 (Ds ?_);refine Mm h [0,1,8,2] (fun s=>([(11,.iv s.1)],[],[],[(6,none),(7,Z5k s.2.1),(8,none),(9,Z6k s.2.2.1),(10,none),(11,Sq6 s.2.2.2.1),(12,none),(13,Z8k s.2.2.2.2)])) ?_;rintro n1 ⟨x23,x24,x25,x26,x27⟩ y1 h hin1 hout1;rw [Zt61] at h;refine Vg 5 ?_;refine MI h (fun h=>?_) fun h=>?_
  ·refine Vg 5 ?_;have ⟨x28,ex28,h⟩:=Bs h;refine Zee KE.row ex28 trivial rfl rfl rfl (Zne KE.row ex28 trivial rfl rfl rfl (Vg 17 ?_));refine VR [0] [7,1,9,3,11,13] 3 14 h Z061 fun _ _ h=>?_;refine Vg 5 ?_;refine VR [0] [15,1,17,3,11,13] 3 18 h Zbu fun _ _ h=>?_;refine Vg 5 ?_;refine VR [0] [15,1,17,3,19,13] 3 20 h Zdu fun _ _ h=>?_;refine Vg 6 ?_;refine Zij 19 11 (Zij 21 13 (Ds ?_));refine Zij 15 7 (Zij 17 9 ?_);exact W
  ·exact W
def Zw61:(Bool×Int)→Option (Bool×Int)
| (x8,x9)=>some (x8,x9)
def Zx61 (x1:NO) (x2:Int) (p0:(SX→Option Bool)):Option (Bool×Int):=
 ifb (decide (x1.DK.DI.ID<64)) (
 (Zv01 x1.KN x2).bind fun x3=>
 ifb (!x3.1) (
 (Zur x1.DK.DI.SD p0).bind fun x4=>
 ifb (!x4) (
 (Zml x1.TL).bind fun x5=>
 ifb x5 (
 (Z6n x1 ((fun z=>Zwn z))).bind fun x6=>
 (Zz31 x1.TL x6).bind fun x7=>
 Zw61 (x7,x3.2)) (
 Zw61 (false,x3.2))) (
 Zw61 (false,x3.2))) (
 Zw61 (false,x3.2))) (
 Zw61 (false,x2))
theorem Zy61 {x1 x2 g0 caps0 p0 r} (h:Zx61 x1 x2 p0=some r) (hc0:CloOK Tryz.prog g0 caps0 (fun z=>[.agg (SX.row z)]) p0 (fun z=>.bv z)):FTx 109 [.agg (NO.row x1),.clo 106 [.ptr 0 0],.clo g0 caps0] [some ⟨3,[.iv x2]⟩] [] (.bv r.1) [some ⟨3,[.iv r.2]⟩] []:=by
 refine Ft Z161 fun w0 M0=>?_;rw [Zx61] at h;refine Vg 6 ?_;refine Vl [] (fun s=>([(6,.bv s.1)],[some ⟨3,[.iv s.2]⟩],[])) Zw61 r ?_ fun J1=>?_
 ·rintro ⟨x8,x9⟩ h;rw [Zw61] at h;(try dsimp only);exact Td Z161 h
 ·refine Zgj fun all H=>Ds (GP H 6 28 [6,28] [(7,[.ptr 1 0,.ptr 1 0,.ptr 1 0,.iv x1.DK.DI.ID,.bv (decide (x1.DK.DI.ID<64)),.bv (decide (x1.DK.DI.ID<64))])] (Ds ?_));refine Zdd 12 h rfl (fun _ h=>?_) fun _ h=>?_
  ·refine Ds (GP H 3 25 [9,25] [(13,[.ptr 1 7,Sp2 x1.KN,.clo 106 [.ptr 0 0]])] (Ds ?_));refine Zna 9 rfl ?_;have ⟨x3,ex3,h⟩:=Bs h;refine Zrh H.1 (by kernel_rfl) [true,false] [] rfl trivial (Zbj [0] [] 2 0 (Zw01 ex3)) (ha:=(by first | exact Zrb _ | simp [go_sem,Z0j _ _ _ _ _ hc0.pu])) (h:=Ds ?_);refine GP H 3 21 [13,21] [(17,[.bv (!x3.1),.bv (!x3.1),.bv (!x3.1)])] ?_;dsimp only[go_sem];refine Zdd 19 h rfl (fun _ h=>?_) fun _ h=>?_
   ·refine Ds (GP H 5 16 [18,16] [(20,[.ptr 1 0,.ptr 1 0,.ptr 1 2,Sp3 x1.DK.DI.SD,.clo g0 caps0])] (Ds ?_));refine Zna 18 rfl (GB H.1 h (fun e=>Zvr e hc0) (fun x4 _ h=>?_) (hp:=(by first | rfl | simp [go_sem,hc0.pu])));refine Ds (GP H 3 12 [22,12] [(26,[.bv (!x4),.bv (!x4),.bv (!x4)])] (Ds ?_));refine Zdd 28 h rfl (fun _ h=>?_) fun _ h=>?_
    ·refine Ds (GP H 2 10 [24,10] [(29,[.ptr 1 8,Sp1 x1.TL])] (Ds ?_));refine Zna 24 rfl (GB H.1 h Znl (fun x5 _ h=>?_) (hp:=(by first | rfl | simp [go_sem,hc0.pu])));refine Ds (GP H 2 7 [27,7] [(32,[.bv x5,.bv x5])] (Ds ?_));refine Zdd 33 h rfl (fun _ h=>?_) fun _ h=>?_
     ·refine Ds (GP H 3 4 [30,4] [(34,[.ptr 1 8,Sp1 x1.TL,.agg (NO.row x1)])] (Ds ?_));refine Zna 30 rfl ?_;have ⟨x6,ex6,h⟩:=Bs h;refine GC H.1 (Z7n ex6 ⟨by kernel_rfl,rfl,fun z r hz=>Zxn hz⟩) (Ds ?_) (hp:=(by first | rfl | simp [go_sem,hc0.pu]));refine Zna 31 rfl (GB H.1 h Z041 (fun x7 _ h=>?_) (hp:=(by first | rfl | simp [go_sem,hc0.pu])));refine Ds (GP H 2 0 [34] [(6,[.bv x7]),(32,[.bv x7])] (Ds ?_));refine GD ?_;exact Ztc J1 h (hok:=by first | rfl | simp [go_sem,Zqb _ hc0.pu])
     ·refine Ds (GP H 7 0 [34] [(39,[.ff])] (Ds ?_));refine GD ?_;exact Ztc J1 h (hok:=by first | rfl | simp [go_sem,Zqb _ hc0.pu])
    ·refine Ds (GP H 12 0 [34] [(32,[.ff,.ff]),(5,[.ff])] (Ds ?_));refine GD ?_;exact Ztc J1 h (hok:=by first | rfl | simp [go_sem,Zqb _ hc0.pu])
   ·refine Ds (GP H 21 0 [34] [(27,[.ff,.ff]),(3,[.ff,.ff]),(5,[.ff])] (Ds ?_));refine GD ?_;exact Ztc J1 h (hok:=by first | rfl | simp [go_sem,Zqb _ hc0.pu])
  ·refine Ds (GP H 28 0 [34] [(18,[.ff,.ff]),(7,[.ff,.ff]),(3,[.ff,.ff]),(5,[.ff])] (Ds ?_));refine GD ?_;exact Ztc J1 h (hok:=by first | rfl | simp [go_sem,Zqb _ hc0.pu])
def Zz61:Bool→Option Bool
| x9=>some x9
def Z071 (x1:NO):Bool→Option Bool
| x5=>
 ifb x5 (
 some false) (
 (Z6n x1 ((fun z=>Zio z))).bind fun x6=>
 (Z931 x1.DK.NE x6).bind fun x7=>
 ifb (decide ((ln Z4d x7)=0)) (
 (Zzr x1.BK.SE ((fun z=>Z361 z x1))).bind fun x8=>
 Zz61 (!x8)) (
 Zz61 false))
def Z171 (x1:NO) (x2:(SE×Bool)):Bool→Option Bool
| x3=>
 ifb (!((decide (x1.DK.TH=2))==x3)) (
 (Z071 x1) true) (
 ifb (!decide (x1.DK.TH=0)) (
 ifb (!x2.2) (
 (Z071 x1) true) (
 (Zvm x2.1.NE x1.DK.NE).bind fun x4=>
 (Z071 x1) (!x4))) (
 (Z071 x1) false))
def Z271 (x1:NO):Option Bool:=
 (Zcn x1).bind fun x2=>
 ifb x2.2 (
 (Z171 x1 x2) (decide (x2.1.SS=1))) (
 (Z171 x1 x2) false)
theorem Z371 {x1 r} (h:Z271 x1=some r):FPx 58 [.agg (NO.row x1)] (.bv r):=by
 have ok:=oJ 58 Tryz.f58 [.t 2] 1 59;refine FP ok fun w0 H0=>?_;rw [Z271] at h;refine Vg 8 ?_;refine VB h Zdn fun x2 _ h=>?_;refine Vg 11 ?_;refine Vk [1,1,1,2] (fun x3=>[(5,.bv x3)]) (Z171 x1 x2) r ?_ fun J1=>?_
 ·intro x3 h;rw [Z171] at h;refine Vg 10 ?_;refine Vl [1,1] (fun x5=>([(42,.bv x5)],[some ⟨67,NO.row x1⟩],[])) (Z071 x1) r ?_ fun J2=>?_
  ·intro x5 h;rw [Z071] at h;refine MI h (fun h=>?_) fun h=>?_
   ·exact W
   ·refine Vg 6 ?_;refine Vl [] (fun x9=>([(2,.bv x9)],[],[])) Zz61 r ?_ fun J3=>?_
    ·intro x9 h;rw [Zz61] at h;exact W
    ·refine Zgj fun all H=>Ds (GP H 5 13 [5,13] [(43,[.ptr 0 0,.ptr 0 4,Sp1 x1.DK.NE,.agg (NO.row x1),.clo 111 []])] (Ds ?_));refine RB h (fun e=>Z7n e ⟨by kernel_rfl,rfl,fun z r hz=>Zjo hz⟩) fun _ _ h=>?_;refine RB h Za31 fun _ _ h=>?_;refine Gn H 3 8 ?_;refine Zdd 52 h rfl (fun _ h=>?_) fun _ h=>?_
     ·refine Ds (GP H 4 4 [14,4] [(53,[.ptr 0 5,.ptr 0 6,Sp5 x1.BK.SE,.clo 115 [.ptr 0 0]])] (Ds ?_));refine RQ (LR.block 0 rfl rfl) h (fun e=>Z0s e ⟨by kernel_rfl,rfl,fun z r hz=>Z461 hz⟩) fun _ _ h=>?_;refine Gn H 3 0 ?_;refine GD ?_;exact W
     ·refine Ds (GP H 8 0 [18] [(2,[.ff]),(50,[.un,.un,.un,.un,.un,.un,.ff])] (Ds ?_));refine GD ?_;exact W
  ·refine MC 24 h (fun h=>?_) fun h=>?_
   ·exact W
   ·refine Vg 5 ?_;refine MC 29 h (fun h=>?_) fun h=>?_
    ·refine Vg 3 ?_;refine MC 32 h (fun h=>?_) fun h=>?_
     ·exact W
     ·refine Vg 5 ?_;refine VB h Zwm fun _ _ h=>?_;exact W
    ·exact W
 ·exact W
@[go_sem] def e136:EC:=eQ Tryz.f136
theorem Z471:FnOK Tryz.prog 136 Tryz.f136 e136 [.c 6 (some 5),.t 7] 3 77:=okA
def Z571 (x1:Graph):Option (SN×Int):=
 (Zc61 x1).bind fun x2=>
 ifb (!decide (x2.2.2=0)) (
 some ((SN.mk (([]:List DI)) (([]:List ML))),x2.2.2)) (
 (Zr41 x1 x2.1).bind fun x3=>
 some ((SN.mk x3.1 (([]:List ML))),x3.2))
theorem Z671 {x1 r} (h:Z571 x1=some r):FPx 51 [.agg (Graph.row x1)] (.tup [.agg (SN.row r.1),.iv r.2]):=by
 have ok:=oJ 51 Tryz.f51 [.c 2 (some 2),.t 3] 1 26;refine FP ok fun w0 H0=>?_;rw [Z571] at h;refine Vg 9 ?_;refine VB h Zd61 fun _ _ h=>?_;refine Vg 14 ?_;refine MI h (fun h=>?_) fun h=>?_
 ·exact W
 ·refine Vg 5 ?_;refine VB h Zs41 fun _ _ h=>?_;exact W
def Z771:List NO→Option HL
| x18=>some (HL.mk x18 (([]:List ML)))
def Z871 (x2:Bar):(Int×List NO)→Option ((Int×List NO) ⊕ HL)
| (x8,x9)=>
 ifb (decide (x8<(ln DK.row x2.DS))) (
 (at_ x2.DS x8).bind fun x10=>
 (Zs31 x10).bind fun x11=>
 (Z8c 176 x9 ([x11.1])).bind fun x12=>
 some (.inl (wr (x8+1),x12))) (
 Option.map Sum.inr (Z771 x9))
def Z971 (x1:Graph):Option HL:=
 (Zg61 x1).bind fun x2=>
 loop (Z871 x2) (0,([]:List NO))
theorem Za71 {x1 r} (h:Z971 x1=some r):FPx 10 [.agg (Graph.row x1)] (.agg (HL.row r)):=by
 have ok:=oJ 10 Tryz.f10 [.c 2 (some 2)] 1 33;refine FP ok fun w0 H0=>?_;rw [Z971] at h;refine Vg 8 ?_;refine VB h Zh61 fun _ _ h=>?_;refine Vg 14 ?_;refine Vl [2,1,1,1] (fun x18=>([],[none,some ⟨29,[.nl,.nl]⟩,none,some ⟨29,[.osl 0,.nl]⟩],[Sq0 x18])) Z771 r ?_ fun J1=>?_
 ·intro x18 h;rw [Z771] at h;refine Vg 5 ?_;refine Zjj 0 ?_;exact W
 ·refine Vg 1 ?_;refine Zkj 3 0 67 10 (Ds ?_);refine Mm h [2,3] (fun s=>([(5,.iv s.1)],[],[(0,none)],[(0,Sq0 s.2)])) ?_;rintro n1 ⟨x8,x9⟩ y1 h hin1 hout1;rw [Z871] at h;refine Vg 9 ?_;refine MI h (fun h=>?_) fun h=>?_
  ·refine Vg 8 ?_;have ⟨x10,ex10,h⟩:=Bs h;refine Zjc DK.row ex10 trivial rfl rfl rfl (Vg 1 ?_);refine VB h Zt31 fun _ _ h=>?_;refine Vg 12 ?_;have ⟨x12,ex12,h⟩:=Bs h;refine Zmc NO.row ex12 trivial rfl rfl rfl (Vg 9 ?_);refine Zij 2 0 ?_;exact W
  ·exact W
@[go_sem] def e181:EC:=eQ Tryz.f181
theorem Zb71:FnOK Tryz.prog 181 Tryz.f181 e181 [.c 2 (some 5),.t 3,.t 4] 1 38:=okA
@[go_sem] def e68:EC:=eQ Tryz.f68
theorem ok68:FnOK Tryz.prog 68 Tryz.f68 e68 [] 2 159:=okA
def Zc71:(Int×Int×Int×List SX×List Int)→Option (Int×Int×Int×List SX×List Int)
| (x14,x15,x16,x17,x18)=>some (x14,x15,x16,x17,x18)
def Zd71 (x1 x2:Int) (x3 _x4:Int) (_x5:List SE) (_x6:Int) (x7:List SX) (x8:List Int) (_x9:List KE) (_x10:List Int) (_x11:List KE) (_x12:List EV):Option (Int×Int×Int×List SX×List Int):=
 (Zj61 x1 x2 x3 x7 x8).bind fun x13=>
 ifb (decide (x13.2.2.1=0)) (
 Zc71 (x13.1,x13.2.1,0,x13.2.2.2,([]:List Int))) (
 Zc71 (x1,x2,x3,x7,x8))
theorem Ze71 {x1 x2 x3 x4 x5 x6 x7 x8 x9 x10 x11 x12 r} (h:Zd71 x1 x2 x3 x4 x5 x6 x7 x8 x9 x10 x11 x12=some r):FTx 126 [.ptr 0 0] [some ⟨138,[.iv x1,.iv x2,.osl 0,.iv x3,.osl 1,.iv x4,Sp5 x5,.osl 2,.osl 3,.osl 4,.nl,.osl 5,.iv x6]⟩] [Z5k x7,Sq4 x8,Z6k x9,Sq4 x10,Z6k x11,Z8k x12] (.tup []) [some ⟨138,[.iv r.1,.iv r.2.1,.osl 6,.iv r.2.2.1,.osl 7,.iv x4,Sp5 x5,.osl 2,.osl 3,.osl 4,.nl,.osl 5,.iv x6]⟩] [none,none,Z6k x9,Sq4 x10,Z6k x11,Z8k x12,Z5k r.2.2.2.1,Sq4 r.2.2.2.2]:=by
 refine Ft Zi61 fun w0 M0=>?_;have ok:=Zi61;rw [Zd71] at h;refine Vg 7 ?_;refine VR [] [0,1] 1 6 h Zk61 fun _ _ h=>?_;refine Vg 12 ?_;refine Vl [] (fun s=>([],[some ⟨138,[.iv s.1,.iv s.2.1,.osl 6,.iv s.2.2.1,.osl 7,.iv x4,Sp5 x5,.osl 2,.osl 3,.osl 4,.nl,.osl 5,.iv x6]⟩],[none,none,Z6k x9,Sq4 x10,Z6k x11,Z8k x12,Z5k s.2.2.2.1,Sq4 s.2.2.2.2])) Zc71 r ?_ fun J1=>?_
 ·rintro ⟨x14,x15,x16,x17,x18⟩ h;rw [Zc71] at h;exact W
 ·refine MI h (fun h=>?_) fun h=>?_
  ·refine Vg 8 ?_;refine Zkj 0 4 3 1 ?_;exact W
  ·refine Vg 1 ?_;refine Zij 0 6 (Ds ?_);refine Zlj 3 1 (Ds ?_);refine Zij 1 7 ?_;exact W
@[go_sem] def e72:EC:=eQ Tryz.f72
theorem ok72:FnOK Tryz.prog 72 Tryz.f72 e72 [] 2 76:=okA
def Zf71 (x1:NO):Bool→Option Bool
| x4=>
 ifb x4 (
 (Zx61 x1 ((-1)) ((fun z=>Zju z x1))).bind fun x5=>
 some x5.1) (
 some false)
def Zg71 (x1:NO):Option Bool:=
 (Zxr x1.AK ((fun z=>Zx01 z x1))).bind fun x2=>
 ifb (!x2) (
 (Zsy x1.AK).bind fun x3=>
 (Zf71 x1) x3) (
 (Zf71 x1) false)
theorem Zh71 {x1 r} (h:Zg71 x1=some r):FPx 57 [.agg (NO.row x1)] (.bv r):=by
 have ok:=oJ 57 Tryz.f57 [.t 2] 1 21;refine FP ok fun w0 H0=>?_;rw [Zg71] at h;refine Vg 26 ?_;refine VN (LR.block 0 rfl rfl) h (fun e=>Zyr e ⟨by kernel_rfl,rfl,fun z r hz=>Zy01 hz⟩) fun _ _ h=>?_;refine Vg 2 ?_;refine Vk [1,1,1,1,1,1] (fun x4=>[(17,.bv x4)]) (Zf71 x1) r ?_ fun J1=>?_
 ·intro x4 h;rw [Zf71] at h;refine MI h (fun h=>?_) fun h=>?_
  ·refine Vg 5 ?_;refine Zf8 0 rfl rfl (Ds ?_);refine VR [1] [] 2 0 h (fun e=>Zy61 e ⟨by kernel_rfl,rfl,fun z r hz=>Zku hz⟩) fun _ _ h=>?_;exact W
  ·exact W
 ·refine MC 13 h (fun h=>?_) fun h=>?_
  ·refine Vg 2 ?_;refine VB h Zty fun _ _ h=>?_;exact W
  ·exact W
@[go_sem] def e76:EC:=eQ Tryz.f76
theorem ok76:FnOK Tryz.prog 76 Tryz.f76 e76 [] 3 25:=okA
end
end NX
end Go.Proofs.YtgamgemlekpepaaGreat
