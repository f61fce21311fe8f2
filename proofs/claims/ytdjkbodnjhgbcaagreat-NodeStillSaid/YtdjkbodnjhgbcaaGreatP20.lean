/-
  The function slices.DeleteFunc[[]narthex/api.Side,narthex/api.Side], lent own memory. Written by a program of ours (lb.py). No statement of the seat is proved here.
-/
import Derived.Test.YtdjkbodnjhgbcaaGreatP19
set_option maxRecDepth 100000
set_option maxHeartbeats 4000000
namespace Go.Proofs.YtdjkbodnjhgbcaaGreat
namespace NX
open Go
noncomputable section
def Zqe:(Int×List Side)→Option (List Side)
| (x25,x26)=>
 (vw_ (ln Side.row x26) x25 (ln Side.row x26)).bind fun _=>
 (clr_ x26 (Int.toNat (x25)) (Int.toNat (ln Side.row x26)-Int.toNat (x25)) (Side.mk 0 0 0 false false false false false)).bind fun x28=>
 (sub_ x28 0 x25).bind fun x29=>
 some x29
def Zre (x12:Int):(Int×List Side)→Option ((Int×Int×List Side) ⊕ (List Side))
| (x17,x18)=>
 some (.inl (x17,wr (x12+1),x18))
def Zse (p0:(Side→Option Bool)):(Int×Int×List Side)→Option ((Int×Int×List Side) ⊕ (List Side))
| (x11,x12,x13)=>
 ifb (decide (x12<(ln Side.row x13))) (
 (at_ x13 x12).bind fun x14=>
 (p0 x14).bind fun x15=>
 ifb (!x15) (
 (at_ x13 x11).bind fun _=>
 (Zre x12) (wr (x11+1),x13.set (Int.toNat (x11)) x14)) (
 (Zre x12) (x11,x13))) (
 Option.map Sum.inr (Zqe (x11,x13)))
def Zte (x1:List Side) (p0:(Side→Option Bool)):Option (List Side):=
 (Ze7 x1 p0).bind fun x2=>
 ifb (decide (x2=((-1)))) (
 some x1) (
 loop (Zse p0) (x2,wr (x2+1),x1))
theorem Zue (x1:List Side) (g0:Nat) (caps0:List AV) (p0:(Side→Option Bool)) (hc0:CloOK Tryz.prog g0 caps0 (fun z=>[.agg (Side.row z)]) p0 (fun z=>.bv z)) (r:List Side) (h:Zte x1 p0=some r):Zq5 Tryz.prog 93 [.osl 0,.clo g0 caps0] [] [Sq6 x1] (.osl 1) [] [none,Sq6 r]:=by
 refine FT ok93 fun w0 M0=>?_
 rw [Zte] at h
 dsimp only[lun,List.cons_append,List.nil_append]
 refine Vg 8 ?_;have ⟨x2,ex2,h⟩:=Bs h;refine VL (LR.slice 0 rfl) (Zf7 x1 _ _ p0 hc0 _ ex2) ?_ (hp:=(by first | rfl | simp [go_sem,hc0.pu])) (ha:=(by first | exact Zi4 _ | simp [go_sem,Zg4 _ _ _ hc0.pu]));refine Vg 8 ?_;refine MI h (fun h=>?_) fun h=>?_
 ·refine Vg 5 ?_;refine Z37 65 8 ?_;dsimp only[go_sem];refine Z07 0 1 ?_;dsimp only[go_sem];(try rw [Zb6 _ _ _ hc0.pu]);obtain rfl:=Option.some.inj h;exact Z47 ok93
 ·refine Vg 8 ?_;refine Zo4 (fun ((x25,x26):(Int×List Side))=>⟨(.osl 0::an 4 (.iv x25::an 36 [])),[],[Sq6 x26]⟩) Zqe r ?_ fun J1=>?_
  ·rintro ⟨x25,x26⟩ h;rw [Zqe] at h;(try dsimp only);refine Vg 4 ?_;have ⟨x27,ex27,h⟩:=Bs h;refine V_viewM Side.row ex27 trivial rfl rfl rfl rfl ?_;have ⟨x28,ex28,h⟩:=Bs h;refine V_clrM Side.row ex28 trivial rfl rfl (by first | exact Zi4 _ | simp [go_sem]) (by first | rfl | simp [go_sem]) rfl rfl (Vg 5 ?_);have ⟨x29,ex29,h⟩:=Bs h;refine V_cutM Side.row ex29 trivial rfl rfl rfl rfl (Vg 2 ?_)
   obtain rfl:=Option.some.inj h;exact Z47 ok93
  ·refine Vg 1 ?_;refine Zp4 h (fun ((x11,x12,x13):(Int×Int×List Side))=>⟨(.osl 0 :: .clo g0 caps0::an 3 (.iv x11 :: .iv x12::an 35 [])),[],[Sq6 x13]⟩) (by simp [go_sem]) (by rintro ⟨x11,x12,x13⟩;first | rfl | simp [go_sem,Zh4 _ hc0.pu]) ?_;rintro n1 ⟨x11,x12,x13⟩ y1 h hin1 hout1;rw [Zse] at h;(try dsimp only);refine Vg 8 ?_;refine MI h (fun h=>?_) fun h=>?_
   ·refine Vg 7 ?_;have ⟨x14,ex14,h⟩:=Bs h;refine Zd5 Side.row ex14 trivial rfl rfl rfl (Zg5 Side.row ex14 trivial rfl rfl rfl (Vg 7 ?_));have ⟨x15,ex15,h⟩:=Bs h;refine Zz4 trivial rfl hc0 (x:=x14) ex15 (by first | exact Zi4 _ | simp [go_sem]) (by first | rfl | simp [go_sem,hc0.pu]) (Vg 2 ?_)
    refine Zo4 (fun ((x17,x18):(Int×List Side))=>⟨(.osl 0 :: .clo g0 caps0::an 3 (.iv x17 :: .iv x12::an 35 [])),[],[Sq6 x18]⟩) (Zre x12) y1 ?_ fun J2=>?_
    ·rintro ⟨x17,x18⟩ h;rw [Zre] at h;(try dsimp only);refine Vg 6 ?_;exact Zw4 h hin1 (hok:=by first | rfl | simp [go_sem,Zh4 _ hc0.pu])
    ·refine MI h (fun h=>?_) fun h=>?_
     ·refine Vg 5 ?_;have ⟨x16,ex16,h⟩:=Bs h;refine Zd5 Side.row ex16 trivial rfl rfl rfl (Zk5 (Side.row x14) Side.row (y':=x14) ex16 trivial rfl rfl rfl (by first | exact Zi4 _ | simp [go_sem]) rfl rfl rfl rfl (Vg 6 ?_));exact Zx4 J2 h (hok:=by first | rfl | simp [go_sem,Zh4 _ hc0.pu])
     ·refine Vg 1 ?_;exact Zx4 J2 h (hok:=by first | rfl | simp [go_sem,Zh4 _ hc0.pu])
   ·refine Vg 1 ?_;exact Zx4 J1 (Zn4 h hout1) (hok:=by first | rfl | simp [go_sem])
def Zve:Int→Option (Int×Int)
| x17=>
 some ((-1),x17)
def Zwe (x1:List KE):(Int×Int)→Option ((Int×Int) ⊕ (Int×Int))
| (x7,x8)=>
 ifb (decide (x7<(ln KE.row x1))) (
 (at_ x1 x7).bind fun x9=>
 (Zuc x9 x8).bind fun x10=>
 ifb x10 (
 Option.map Sum.inr (some (x7,x9.Peer))) (
 some (.inl (wr (x7+1),x9.Peer)))) (
 Option.map Sum.inr (Zve x8))
def Zxe (x1:List KE) (x2:Int):Option (Int×Int):=
 loop (Zwe x1) (0,x2)
theorem Zye (x1:List KE) (x2:Int) (r:(Int×Int)) (h:Zxe x1 x2=some r):Zq5 Tryz.prog 137 [Sp1 x1,.clo 102 [.ptr 0 0]] [some ⟨3,[.iv x2]⟩] [] (.iv r.1) [some ⟨3,[.iv r.2]⟩] []:=by
 refine FT ok137 fun w0 M0=>?_
 rw [Zxe] at h
 dsimp only[lun,List.cons_append,List.nil_append]
 refine Vg 11 ?_;refine Zo4 (fun (x17:Int)=>⟨an 19 [],[some ⟨3,[.iv x17]⟩],[]⟩) Zve r ?_ fun J1=>?_
 ·intro x17 h;rw [Zve] at h;(try dsimp only);refine Vg 4 ?_;obtain rfl:=Option.some.inj h;exact Z47 ok137
 ·refine Vg 1 ?_;refine Zp4 h (fun ((x7,x8):(Int×Int))=>⟨(Sp1 x1 :: .clo 102 [.ptr 0 0]::an 5 (.iv (ln KE.row x1) :: .iv x7::an 10 [])),[some ⟨3,[.iv x8]⟩],[]⟩) (by simp [go_sem]) (by rintro ⟨x7,x8⟩;first | rfl | simp [go_sem]) ?_;rintro n1 ⟨x7,x8⟩ y1 h hin1 hout1;rw [Zwe] at h;(try dsimp only);refine Vg 5 ?_;refine MI h (fun h=>?_) fun h=>?_
  ·refine Vg 13 ?_;have ⟨x9,ex9,h⟩:=Bs h;refine Zs4 KE.row ex9 trivial rfl rfl rfl (Vg 1 ?_);have ⟨x10,ex10,h⟩:=Bs h;refine Zt5 [true] [] trivial rfl (Zvc x9 x8 _ ex10) (by kernel_rfl) (h:=?_);refine Vg 1 ?_;refine MI h (fun h=>?_) fun h=>?_
   ·refine Vg 5 ?_;obtain rfl:=Option.some.inj (Zn4 h hout1);exact Z47 ok137
   ·refine Vg 6 ?_;exact Zw4 h hin1
  ·refine Vg 1 ?_;exact Zx4 J1 (Zn4 h hout1)
@[go_sem] def e42:EC:=(by have h:=hF Tryz.f42;(conv at h=>rhs;reduce);dsimp only[go_sem] at h;exact ⟨_,h⟩:DP Tryz.f42).1
theorem ok42:FnOK Tryz.prog 42 Tryz.f42 e42 [.t 4] 2 40:=okA
def Zze:Bool→Option Bool
| x5=>
 some x5
def Z0f (x1:Node) (x2:KE):Option Bool:=
 (Zpa x1.DK.DI.SD ((fun z=>Z0a z x2))).bind fun x3=>
 ifb (!x3) (
 ifb (decide (0≤x2.Peer)) (
 ifb (decide (x2.Peer<x1.DK.DI.ID)) (
 (Zy9 x1 x2.Peer).bind fun x4=>
 ifb (decide (x4<x2.Epoch)) (
 Zze (decide (x2.Epoch≤65535))) (
 Zze false)) (
 Zze false)) (
 Zze false)) (
 Zze false)
theorem Z1f (x1:Node) (x2:KE) (r:Bool) (h:Z0f x1 x2=some r):Z03 Tryz.prog 42 [.agg (Node.row x1),.agg (KE.row x2)] (.bv r):=by
 refine FP ok42 fun w0 H0=>?_
 rw [Z0f] at h
 refine Vg 13 ?_;have ⟨x3,ex3,h⟩:=Bs h;refine VL (LR.block 1 rfl rfl) (Zqa x1.DK.DI.SD _ _ ((fun z=>Z0a z x2)) ⟨by kernel_rfl,rfl,fun z r hz=>k_node_may_1 z x2 r hz⟩ _ ex3) (Vg 3 ?_);refine Zo4 (fun (x5:Bool)=>⟨an 4 (.bv x5::an 37 []),[],[]⟩) Zze r ?_ fun J1=>?_
 ·intro x5 h;rw [Zze] at h;(try dsimp only);exact MD ok42 h
 ·refine Zz6 fun all H=>?_;dsimp only[go_sem];refine GP H 3 28 [3,28] [(12,[.bv x3,.bv (!x3),.bv (!x3)])] ?_;dsimp only[go_sem];refine Z25 14 h rfl (fun _ h=>?_) fun _ h=>?_
  ·dsimp only[go_sem];refine GP H 5 23 [8,23] [(15,[.ptr 1 0,.iv x2.Peer,.bv (decide (0≤x2.Peer)),.bv (decide (0≤x2.Peer)),.bv (decide (0≤x2.Peer))])] ?_;dsimp only[go_sem];refine Z25 19 h rfl (fun _ h=>?_) fun _ h=>?_
   ·dsimp only[go_sem];refine GP H 9 14 [17,14] [(20,[.ptr 1 0,.iv x2.Peer,.ptr 0 0,.ptr 0 0,.ptr 0 0,.iv x1.DK.DI.ID,.bv (decide (x2.Peer<x1.DK.DI.ID)),.bv (decide (x2.Peer<x1.DK.DI.ID)),.bv (decide (x2.Peer<x1.DK.DI.ID))])] ?_;dsimp only[go_sem];refine Z25 28 h rfl (fun _ h=>?_) fun _ h=>?_
    ·dsimp only[go_sem];refine GP H 5 9 [22,9] [(29,[.ptr 1 1,.iv x2.Epoch,.agg (Node.row x1),.ptr 1 0,.iv x2.Peer])] ?_;dsimp only[go_sem];refine Z64 22 rfl ?_;have ⟨x4,ex4,h⟩:=Bs h
     refine GC H.1 (Zz9 x1 x2.Peer _ ex4) ?_;dsimp only[go_sem];refine GP H 3 5 [26,5] [(35,[.bv (decide (x4<x2.Epoch)),.bv (decide (x4<x2.Epoch)),.bv (decide (x4<x2.Epoch))])] ?_;dsimp only[go_sem];refine Z25 37 h rfl (fun _ h=>?_) fun _ h=>?_
     ·dsimp only[go_sem];refine GP H 5 0 [31] [(4,[.bv (decide (x2.Epoch≤65535))]),(33,[.ptr 1 1,.iv x2.Epoch,.bv (decide (x2.Epoch≤65535)),.bv (decide (x2.Epoch≤65535))])] ?_;dsimp only[go_sem];refine GD ?_;exact Zx4 J1 h
     ·dsimp only[go_sem];refine GP H 5 0 [31] [(41,[.ff])] ?_;dsimp only[go_sem];refine GD ?_;exact Zx4 J1 h
    ·dsimp only[go_sem];refine GP H 14 0 [31] [(36,[.ff,.ff]),(3,[.ff])] ?_;dsimp only[go_sem];refine GD ?_;exact Zx4 J1 h
   ·dsimp only[go_sem];refine GP H 23 0 [31] [(27,[.ff,.ff]),(7,[.ff,.ff]),(3,[.ff])] ?_;dsimp only[go_sem];refine GD ?_;exact Zx4 J1 h
  ·dsimp only[go_sem];refine GP H 28 0 [31] [(18,[.ff,.ff]),(7,[.ff,.ff]),(7,[.ff,.ff]),(3,[.ff])] ?_;dsimp only[go_sem];refine GD ?_;exact Zx4 J1 h
@[go_sem] def e43:EC:=(by have h:=hF Tryz.f43;(conv at h=>rhs;reduce);dsimp only[go_sem] at h;exact ⟨_,h⟩:DP Tryz.f43).1
theorem ok43:FnOK Tryz.prog 43 Tryz.f43 e43 [.t 2] 1 17:=okA
def Z2f:Unit→Option Bool
| ()=>
 some true
def Z3f (x1:List KE):Int→Option (Int ⊕ Bool)
| x6=>
 ifb (decide (x6<(ln KE.row x1))) (
 (at_ x1 x6).bind fun x7=>
 (sub_ x1 0 x6).bind fun x8=>
 (Zra x8 ((fun z=>Z1a z x7))).bind fun x9=>
 ifb x9 (
 Option.map Sum.inr (some false)) (
 some (.inl (wr (x6+1))))) (
 Option.map Sum.inr (Z2f ()))
def Z4f (x1:List KE):Option Bool:=
 loop (Z3f x1) 0
theorem Z5f (x1:List KE) (r:Bool) (h:Z4f x1=some r):Z03 Tryz.prog 43 [Sp1 x1] (.bv r):=by
 refine FP ok43 fun w0 H0=>?_
 rw [Z4f] at h
 refine Vg 11 ?_;refine Zo4 (fun (_:Unit)=>⟨an 18 [],[],[]⟩) Z2f r ?_ fun J1=>?_
 ·rintro ⟨⟩ h;rw [Z2f] at h;(try dsimp only);refine Vg 4 ?_;exact MD ok43 h
 ·refine Vg 1 ?_;refine Zp4 h (fun (x6:Int)=>⟨(Sp1 x1::an 4 (Sp1 x1 :: .iv (ln KE.row x1) :: .iv x6::an 10 [])),[],[]⟩) (by simp [go_sem]) (by intro x6;first | rfl | simp [go_sem]) ?_;rintro n1 x6 y1 h hin1 hout1;rw [Z3f] at h;(try dsimp only);refine Vg 5 ?_;refine MI h (fun h=>?_) fun h=>?_
  ·refine Vg 6 ?_;have ⟨x7,ex7,h⟩:=Bs h;refine Zs4 KE.row ex7 trivial rfl rfl rfl (Vg 9 ?_);have ⟨x8,ex8,h⟩:=Bs h;refine V_sliceM KE.row ex8 trivial rfl rfl rfl rfl (Vg 1 ?_);have ⟨x9,ex9,h⟩:=Bs h;refine VL (LR.block 0 rfl rfl) (Zsa x8 _ _ ((fun z=>Z1a z x7)) ⟨by kernel_rfl,rfl,fun z r hz=>Z2a z x7 r hz⟩ _ ex9) (Zv2 1 ?_)
   dsimp only[go_sem];refine An (MI h (fun h=>?_) fun h=>?_)
   ·refine Vg 4 ?_;exact MD ok43 (Zn4 h hout1)
   ·refine Vg 6 ?_;exact Zw4 h hin1
  ·refine Vg 1 ?_;exact Zx4 J1 (Zn4 h hout1)
@[go_sem] def e12:EC:=(by have h:=hF Tryz.f12;(conv at h=>rhs;reduce);dsimp only[go_sem] at h;exact ⟨_,h⟩:DP Tryz.f12).1
theorem ok12:FnOK Tryz.prog 12 Tryz.f12 e12 [.c 2 (some 10)] 1 26:=okA
def Z6f (x2:DK) (x3:Book):(List KE×List Int×List KE)→Option Node
| (x9,x10,x11)=>
 some (Node.mk x2 x3 x9 x10 x11)
def Z7f (x1:Node):Option Node:=
 (Z2d x1.DK).bind fun x2=>
 (Zea x1.Book).bind fun x3=>
 (Zj4 16 (([]:List KE)) x1.KN).bind fun x4=>
 (Zj4 8 (([]:List Int)) x1.Told).bind fun x6=>
 (Zj4 16 (([]:List KE)) x1.AK).bind fun x8=>
 (Z6f x2 x3) (x4,x6,x8)
theorem k_narthexlaw18_Own (x1 r:Node) (h:Z7f x1=some r):Z03 Tryz.prog 12 [.agg (Node.row x1)] (.agg (Node.row r)):=by
 refine FP ok12 fun w0 H0=>?_
 rw [Z7f] at h
 refine Vg 6 ?_;refine Zz6 fun all H=>?_;refine Gn H 4 6 ?_;refine Z64 2 rfl ?_;have ⟨x2,ex2,h⟩:=Bs h;refine GC H.1 (Z3d x1.DK _ ex2) ?_;refine Gn H 1 4 ?_;refine Z64 5 rfl ?_;have ⟨x3,ex3,h⟩:=Bs h;refine GC H.1 (Zfa x1.Book _ ex3) ?_;dsimp only[go_sem]
 refine GE H.1 7 ?_;refine Gn H 1 1 ?_;refine GE H.1 9 ?_;dsimp only[go_sem];refine GD (Vg 1 ?_)
 refine Zo4 (fun ((x9,x10,x11):(List KE×List Int×List KE))=>⟨(.any :: .ptr 0 0 :: .ptr 1 0::an 24 []),[some ⟨35,[.iv x2.DI.ID,.iv x2.DI.PH,Sp2 x2.DI.SD,.iv x2.TH,Sp0 x2.Need,.iv x3.Last,Sp3 x3.Sess,.osl 1,.osl 3,.osl 5]⟩,some ⟨35,[.iv 0,.iv 0,.nl,.iv 0,.nl,.iv 0,.nl,.nl,.nl,.nl]⟩],[none,Sq8 x9,none,Sq7 x10,none,Sq8 x11]⟩) (Z6f x2 x3) r ?_ fun J1=>?_
 ·rintro ⟨x9,x10,x11⟩ h;rw [Z6f] at h;(try dsimp only);refine Vg 5 ?_;refine Z17 1 ?_;dsimp only[go_sem];refine Z17 3 ?_;dsimp only[go_sem];refine Z17 5 ?_;dsimp only[go_sem];exact MD ok12 h
 ·refine Zz6 fun all H=>?_;dsimp only[go_sem];refine GP H 6 12 [0,1,2,2,2,2,2,7] [(12,[.ptr 0 7,Sp1 x1.KN]),(2,[.ptr 0 8,Sp0 x1.Told]),(2,[.ptr 0 9,Sp1 x1.AK])] ?_;dsimp only[go_sem];refine Z84 0 4 8 rfl ?_ ?_ ?_
  ·refine GV H.1 ?_;dsimp only[go_sem];have ⟨x4,ex4,h⟩:=Bs h;refine Z84 3 4 8 rfl ?_ ?_ ?_
   ·refine GA KE.row ex4 H.1 ?_;refine Gn H 1 9 ?_;refine Z74 4 8 rfl ?_ ?_
    ·refine GV H.1 ?_;dsimp only[go_sem];have ⟨x6,ex6,h⟩:=Bs h;refine Z74 7 8 rfl ?_ ?_
     ·refine GA Z05 ex6 H.1 ?_;dsimp only[go_sem];refine GE H.1 8 ?_;dsimp only[go_sem];refine Z64 11 rfl ?_;have ⟨x8,ex8,h⟩:=Bs h;refine GA KE.row ex8 H.1 ?_;dsimp only[go_sem];refine GE H.1 13 ?_;refine Gn H 1 3 ?_;refine GE H.1 15 ?_;dsimp only[go_sem];refine GN H 1 1 ?_;dsimp only[go_sem]
      refine An (GE H.1 17 ?_);dsimp only[go_sem];refine GD ?_;exact Zx4 J1 h
     ·refine GV H.1 ?_;dsimp only[go_sem];refine Z64 7 rfl (GA Z05 ex6 H.1 ?_);dsimp only[go_sem];refine Z64 11 rfl ?_;have ⟨x8,ex8,h⟩:=Bs h;refine GA KE.row ex8 H.1 ?_;dsimp only[go_sem];refine GE H.1 13 ?_;refine Gn H 1 3 ?_;refine GE H.1 15 ?_;dsimp only[go_sem];refine GN H 1 1 ?_;dsimp only[go_sem]
      refine An (GE H.1 17 ?_);dsimp only[go_sem];refine GD (Z07 4 3 ?_);dsimp only[go_sem];exact Zx4 J1 h
    ·refine GV H.1 ?_;dsimp only[go_sem];refine GE H.1 4 ?_;dsimp only[go_sem];refine Z64 7 rfl ?_;have ⟨x6,ex6,h⟩:=Bs h;refine GA Z05 ex6 H.1 ?_;dsimp only[go_sem];refine Z64 11 rfl ?_;have ⟨x7,ex7,h⟩:=Bs h;refine GA KE.row ex7 H.1 ?_;dsimp only[go_sem];refine GE H.1 13 ?_;refine Gn H 1 3 ?_;refine Z64 15 rfl ?_
     refine GV H.1 ?_;refine Gn H 1 1 ?_;refine GE H.1 17 ?_;dsimp only[go_sem];refine GD (Z07 4 3 ?_);dsimp only[go_sem];exact Zx4 J1 h
   ·refine GV H.1 ?_;dsimp only[go_sem];refine Z74 3 8 rfl ?_ ?_
    ·refine GA KE.row ex4 H.1 ?_;refine Gn H 1 8 ?_;have ⟨x6,ex6,h⟩:=Bs h;refine Z74 7 8 rfl ?_ ?_
     ·refine GA Z05 ex6 H.1 ?_;dsimp only[go_sem];refine GE H.1 8 ?_;dsimp only[go_sem];refine Z64 11 rfl ?_;have ⟨x8,ex8,h⟩:=Bs h;refine GA KE.row ex8 H.1 ?_;dsimp only[go_sem];refine GE H.1 13 ?_;refine Gn H 1 3 ?_;refine GE H.1 15 ?_;dsimp only[go_sem];refine GN H 1 1 ?_;dsimp only[go_sem]
      refine An (GE H.1 17 ?_);dsimp only[go_sem];refine GD (Z07 2 1 ?_);dsimp only[go_sem];exact Zx4 J1 h
     ·refine GV H.1 ?_;dsimp only[go_sem];refine Z64 7 rfl (GA Z05 ex6 H.1 ?_);dsimp only[go_sem];refine Z64 11 rfl ?_;have ⟨x8,ex8,h⟩:=Bs h;refine GA KE.row ex8 H.1 ?_;dsimp only[go_sem];refine GE H.1 13 ?_;refine Gn H 1 3 ?_;refine GE H.1 15 ?_;dsimp only[go_sem];refine GN H 1 1 ?_;dsimp only[go_sem]
      refine An (GE H.1 17 ?_);dsimp only[go_sem];refine GD (Z07 2 1 (Z07 4 3 ?_));dsimp only[go_sem];exact Zx4 J1 h
    ·refine GV H.1 ?_;dsimp only[go_sem];refine Z64 3 rfl (GA KE.row ex4 H.1 ?_);refine Gn H 1 7 ?_;refine Z64 7 rfl ?_;have ⟨x6,ex6,h⟩:=Bs h;refine GA Z05 ex6 H.1 ?_;dsimp only[go_sem];refine Z64 11 rfl ?_;have ⟨x7,ex7,h⟩:=Bs h;refine GA KE.row ex7 H.1 ?_;dsimp only[go_sem];refine GE H.1 13 ?_;dsimp only[go_sem]
     refine Gn H 1 3 ?_;refine GE H.1 15 ?_;refine Gn H 1 1 ?_;refine GE H.1 17 ?_;dsimp only[go_sem];refine GD (Z07 3 1 (Z07 4 3 ?_));dsimp only[go_sem];exact Zx4 J1 h
   ·refine GV H.1 ?_;dsimp only[go_sem];refine Z74 3 4 rfl ?_ ?_
    ·refine GA KE.row ex4 H.1 ?_;refine Gn H 1 8 ?_;refine GE H.1 4 ?_;dsimp only[go_sem];refine Z64 7 rfl ?_;have ⟨x6,ex6,h⟩:=Bs h;refine GA Z05 ex6 H.1 ?_;dsimp only[go_sem];refine Z64 11 rfl ?_;have ⟨x7,ex7,h⟩:=Bs h;refine GA KE.row ex7 H.1 ?_;dsimp only[go_sem];refine GE H.1 13 ?_;dsimp only[go_sem]
     refine Gn H 1 3 ?_;refine GE H.1 15 ?_;refine Gn H 1 1 ?_;refine GE H.1 17 ?_;dsimp only[go_sem];refine GD (Z07 2 1 (Z07 4 3 ?_));dsimp only[go_sem];exact Zx4 J1 h
    ·refine GV H.1 ?_;dsimp only[go_sem];refine Z64 3 rfl (GA KE.row ex4 H.1 ?_);refine Gn H 1 7 ?_;refine Z64 7 rfl ?_;have ⟨x6,ex6,h⟩:=Bs h;refine GA Z05 ex6 H.1 ?_;dsimp only[go_sem];refine Z64 11 rfl ?_;have ⟨x7,ex7,h⟩:=Bs h;refine GA KE.row ex7 H.1 ?_;dsimp only[go_sem];refine GE H.1 13 ?_;dsimp only[go_sem]
     refine Gn H 1 3 ?_;refine GE H.1 15 ?_;refine Gn H 1 1 ?_;refine GE H.1 17 ?_;dsimp only[go_sem];refine GD (Z07 3 1 (Z07 4 3 ?_));dsimp only[go_sem];exact Zx4 J1 h
  ·refine GV H.1 ?_;dsimp only[go_sem];refine Z74 0 8 rfl ?_ ?_
   ·refine GV H.1 ?_;dsimp only[go_sem];have ⟨x4,ex4,h⟩:=Bs h;refine Z74 3 8 rfl ?_ ?_
    ·refine GA KE.row ex4 H.1 ?_;refine Gn H 1 8 ?_;have ⟨x6,ex6,h⟩:=Bs h;refine Z74 7 8 rfl ?_ ?_
     ·refine GA Z05 ex6 H.1 ?_;dsimp only[go_sem];refine GE H.1 8 ?_;dsimp only[go_sem];refine Z64 11 rfl ?_;have ⟨x8,ex8,h⟩:=Bs h;refine GA KE.row ex8 H.1 ?_;dsimp only[go_sem];refine GE H.1 13 ?_;refine Gn H 1 3 ?_;refine GE H.1 15 ?_;dsimp only[go_sem];refine GN H 1 1 ?_;dsimp only[go_sem]
      refine An (GE H.1 17 ?_);dsimp only[go_sem];refine GD (Z07 2 1 ?_);dsimp only[go_sem];exact Zx4 J1 h
     ·refine GV H.1 ?_;dsimp only[go_sem];refine Z64 7 rfl (GA Z05 ex6 H.1 ?_);dsimp only[go_sem];refine Z64 11 rfl ?_;have ⟨x8,ex8,h⟩:=Bs h;refine GA KE.row ex8 H.1 ?_;dsimp only[go_sem];refine GE H.1 13 ?_;refine Gn H 1 3 ?_;refine GE H.1 15 ?_;dsimp only[go_sem];refine GN H 1 1 ?_;dsimp only[go_sem]
      refine An (GE H.1 17 ?_);dsimp only[go_sem];refine GD (Z07 2 1 (Z07 4 3 ?_));dsimp only[go_sem];exact Zx4 J1 h
    ·refine GV H.1 ?_;dsimp only[go_sem];refine Z64 3 rfl (GA KE.row ex4 H.1 ?_);refine Gn H 1 7 ?_;refine Z64 7 rfl ?_;have ⟨x6,ex6,h⟩:=Bs h;refine GA Z05 ex6 H.1 ?_;dsimp only[go_sem];refine Z64 11 rfl ?_;have ⟨x7,ex7,h⟩:=Bs h;refine GA KE.row ex7 H.1 ?_;dsimp only[go_sem];refine GE H.1 13 ?_;dsimp only[go_sem]
     refine Gn H 1 3 ?_;refine GE H.1 15 ?_;refine Gn H 1 1 ?_;refine GE H.1 17 ?_;dsimp only[go_sem];refine GD (Z07 3 1 (Z07 4 3 ?_));dsimp only[go_sem];exact Zx4 J1 h
   ·refine GV H.1 ?_;dsimp only[go_sem];refine GE H.1 0 ?_;dsimp only[go_sem];refine Z64 3 rfl ?_;have ⟨x4,ex4,h⟩:=Bs h;refine GA KE.row ex4 H.1 ?_;refine Gn H 1 7 ?_;refine Z64 7 rfl ?_;have ⟨x5,ex5,h⟩:=Bs h;refine GA Z05 ex5 H.1 ?_;dsimp only[go_sem];refine Z64 11 rfl ?_;have ⟨x6,ex6,h⟩:=Bs h;refine GA KE.row ex6 H.1 ?_
    dsimp only[go_sem];refine GE H.1 13 ?_;refine Gn H 1 3 ?_;refine GE H.1 15 ?_;refine Gn H 1 1 ?_;refine GE H.1 17 ?_;dsimp only[go_sem];refine GD (Z07 3 1 (Z07 4 3 ?_));dsimp only[go_sem];exact Zx4 J1 h
  ·refine GV H.1 ?_;dsimp only[go_sem];refine Z74 0 4 rfl ?_ ?_
   ·refine GV H.1 ?_;dsimp only[go_sem];have ⟨x4,ex4,h⟩:=Bs h;refine Z74 3 4 rfl ?_ ?_
    ·refine GA KE.row ex4 H.1 ?_;refine Gn H 1 8 ?_;refine GE H.1 4 ?_;dsimp only[go_sem];refine Z64 7 rfl ?_;have ⟨x6,ex6,h⟩:=Bs h;refine GA Z05 ex6 H.1 ?_;dsimp only[go_sem];refine Z64 11 rfl ?_;have ⟨x7,ex7,h⟩:=Bs h;refine GA KE.row ex7 H.1 ?_;dsimp only[go_sem];refine GE H.1 13 ?_;dsimp only[go_sem]
     refine Gn H 1 3 ?_;refine GE H.1 15 ?_;refine Gn H 1 1 ?_;refine GE H.1 17 ?_;dsimp only[go_sem];refine GD (Z07 2 1 (Z07 4 3 ?_));dsimp only[go_sem];exact Zx4 J1 h
    ·refine GV H.1 ?_;dsimp only[go_sem];refine Z64 3 rfl (GA KE.row ex4 H.1 ?_);refine Gn H 1 7 ?_;refine Z64 7 rfl ?_;have ⟨x6,ex6,h⟩:=Bs h;refine GA Z05 ex6 H.1 ?_;dsimp only[go_sem];refine Z64 11 rfl ?_;have ⟨x7,ex7,h⟩:=Bs h;refine GA KE.row ex7 H.1 ?_;dsimp only[go_sem];refine GE H.1 13 ?_;dsimp only[go_sem]
     refine Gn H 1 3 ?_;refine GE H.1 15 ?_;refine Gn H 1 1 ?_;refine GE H.1 17 ?_;dsimp only[go_sem];refine GD (Z07 3 1 (Z07 4 3 ?_));dsimp only[go_sem];exact Zx4 J1 h
   ·refine GV H.1 ?_;dsimp only[go_sem];refine GE H.1 0 ?_;dsimp only[go_sem];refine Z64 3 rfl ?_;have ⟨x4,ex4,h⟩:=Bs h;refine GA KE.row ex4 H.1 ?_;refine Gn H 1 7 ?_;refine Z64 7 rfl ?_;have ⟨x5,ex5,h⟩:=Bs h;refine GA Z05 ex5 H.1 ?_;dsimp only[go_sem];refine Z64 11 rfl ?_;have ⟨x6,ex6,h⟩:=Bs h;refine GA KE.row ex6 H.1 ?_
    dsimp only[go_sem];refine GE H.1 13 ?_;refine Gn H 1 3 ?_;refine GE H.1 15 ?_;refine Gn H 1 1 ?_;refine GE H.1 17 ?_;dsimp only[go_sem];refine GD (Z07 3 1 (Z07 4 3 ?_));dsimp only[go_sem];exact Zx4 J1 h
def Z8f (x10:List Side) (x11:List Int) (x15:List KE) (x16:List Int) (x17:List KE):List Sess→Option (List Side×List Int×List KE×List Int×List KE×List Sess)
| x46=>
 some (x10,x11,x15,x16,x17,x46)
def Z9f (x25:Int):List Sess→Option ((Int×List Sess) ⊕ (List Side×List Int×List KE×List Int×List KE×List Sess))
| x30=>
 some (.inl (wr (x25+1),x30))
def Zaf (x10:List Side) (x11:List Int) (x15:List KE) (x16:List Int) (x17:List KE) (x18:List Sess):(Int×List Sess)→Option ((Int×List Sess) ⊕ (List Side×List Int×List KE×List Int×List KE×List Sess))
| (x25,x26)=>
 ifb (decide (x25<(ln Sess.row x18))) (
 (at_ x26 x25).bind fun x27=>
 (Zw7 x27.Need).bind fun x28=>
 (Z9f x25) (x26.set (Int.toNat (x25)) (Sess.mk x27.ID x28 x27.State x27.Age))) (
 Option.map Sum.inr ((Z8f x10 x11 x15 x16 x17) x26))
def Zbf (x10:List Side) (x11:List Int):(List KE×List Int×List KE)→Option (List Side×List Int×List KE×List Int×List KE×List Sess)
| (x15,x16,x17)=>
 (Z98 (([]:List Sess))).bind fun x18=>
 loop (Zaf x10 x11 x15 x16 x17 x18) (0,x18)
def Zcf (x7:List KE):(List Side×List Int)→Option (List Side×List Int×List KE×List Int×List KE×List Sess)
| (x10,x11)=>
 (Zu8 x7).bind fun x12=>
 (Zw7 (([]:List Int))).bind fun x13=>
 (Zu8 (([]:List KE))).bind fun x14=>
 (Zbf x10 x11) (x12,x13,x14)
def Zdf (_x1 _x2:Int) (x3:List Side) (_x4:Int) (x5:List Int) (_x6:Int) (x7:List KE):Option (List Side×List Int×List KE×List Int×List KE×List Sess):=
 (Zj8 x3).bind fun x8=>
 (Zw7 x5).bind fun x9=>
 (Zcf x7) (x8,x9)
theorem t_node_own_I1 (x1 x2:Int) (x3:List Side) (x4:Int) (x5:List Int) (x6:Int) (x7:List KE) (r:(List Side×List Int×List KE×List Int×List KE×List Sess)) (h:Zdf x1 x2 x3 x4 x5 x6 x7=some r):Zq5 Tryz.prog 29 [.agg [.iv x1,.iv x2,Sp2 x3,.iv x4,Sp0 x5,.iv x6,.nl,.osl 0,.nl,.nl]] [] [Sq8 x7] (.agg [.iv x1,.iv x2,.osl 1,.iv x4,.osl 2,.iv x6,.osl 6,.osl 3,.osl 4,.osl 5]) [] [Sq8 x7,Sq6 r.1,Sq7 r.2.1,Sq8 r.2.2.1,Sq7 r.2.2.2.1,Sq8 r.2.2.2.2.1,Sq9 r.2.2.2.2.2]:=by
 refine FT ok29 fun w0 M0=>?_
 rw [Zdf] at h
 dsimp only[lun,List.cons_append,List.nil_append]
 refine Vg 6 ?_;refine Zo4 (fun ((x10,x11):(List Side×List Int))=>⟨(.any :: .ptr 0 0 :: .ptr 1 0::an 56 []),[some ⟨35,[.iv x1,.iv x2,.osl 1,.iv x4,.osl 2,.iv x6,.nl,.osl 0,.nl,.nl]⟩,some ⟨35,[.iv 0,.iv 0,.nl,.iv 0,.nl,.iv 0,.nl,.nl,.nl,.nl]⟩],[Sq8 x7,Sq6 x10,Sq7 x11]⟩) (Zcf x7) r ?_ fun J1=>?_
 ·rintro ⟨x10,x11⟩ h;rw [Zcf] at h;(try dsimp only);refine Vg 1 ?_
  refine Zo4 (fun ((x15,x16,x17):(List KE×List Int×List KE))=>⟨(.any :: .ptr 0 0 :: .ptr 1 0::an 56 []),[some ⟨35,[.iv x1,.iv x2,.osl 1,.iv x4,.osl 2,.iv x6,.nl,.osl 3,.osl 4,.osl 5]⟩,some ⟨35,[.iv 0,.iv 0,.nl,.iv 0,.nl,.iv 0,.nl,.nl,.nl,.nl]⟩],[Sq8 x7,Sq6 x10,Sq7 x11,Sq8 x15,Sq7 x16,Sq8 x17]⟩) (Zbf x10 x11) r ?_ fun J2=>?_
  ·rintro ⟨x15,x16,x17⟩ h;rw [Zbf] at h;(try dsimp only);refine Vg 5 ?_;have ⟨x18,ex18,h⟩:=Bs h;refine Z75 trivial (Za8 (([]:List Sess)) _ ex18) (h:=?_);refine Vg 13 ?_
   refine Zo4 (fun (x46:List Sess)=>⟨(.any :: .ptr 0 0 :: .ptr 1 0::an 56 []),[some ⟨35,[.iv x1,.iv x2,.osl 1,.iv x4,.osl 2,.iv x6,.osl 6,.osl 3,.osl 4,.osl 5]⟩,some ⟨35,[.iv 0,.iv 0,.nl,.iv 0,.nl,.iv 0,.nl,.nl,.nl,.nl]⟩],[Sq8 x7,Sq6 x10,Sq7 x11,Sq8 x15,Sq7 x16,Sq8 x17,Sq9 x46]⟩) (Z8f x10 x11 x15 x16 x17) r ?_ fun J3=>?_
   ·intro x46 h;rw [Z8f] at h;(try dsimp only);refine Vg 5 ?_;obtain rfl:=Option.some.inj h;exact Z47 ok29
   ·refine Vg 1 ?_
    refine Zp4 h (fun ((x25,x26):(Int×List Sess))=>⟨(.any :: .ptr 0 0 :: .ptr 1 0::an 36 (.iv (ln Sess.row x18) :: .iv x25::an 18 [])),[some ⟨35,[.iv x1,.iv x2,.osl 1,.iv x4,.osl 2,.iv x6,.osl 6,.osl 3,.osl 4,.osl 5]⟩,some ⟨35,[.iv 0,.iv 0,.nl,.iv 0,.nl,.iv 0,.nl,.nl,.nl,.nl]⟩],[Sq8 x7,Sq6 x10,Sq7 x11,Sq8 x15,Sq7 x16,Sq8 x17,Sq9 x26]⟩) (by simp [go_sem]) (by rintro ⟨x25,x26⟩;first | rfl | simp [go_sem]) ?_
    rintro n1 ⟨x25,x26⟩ y1 h hin1 hout1;rw [Zaf] at h;(try dsimp only);refine Vg 5 ?_;refine MI h (fun h=>?_) fun h=>?_
    ·refine Vg 8 ?_
     refine Zo4 (fun (x30:List Sess)=>⟨(.any :: .ptr 0 0 :: .ptr 1 0::an 36 (.iv (ln Sess.row x18) :: .iv x25::an 18 [])),[some ⟨35,[.iv x1,.iv x2,.osl 1,.iv x4,.osl 2,.iv x6,.osl 6,.osl 3,.osl 4,.osl 5]⟩,some ⟨35,[.iv 0,.iv 0,.nl,.iv 0,.nl,.iv 0,.nl,.nl,.nl,.nl]⟩],[Sq8 x7,Sq6 x10,Sq7 x11,Sq8 x15,Sq7 x16,Sq8 x17,Sq9 x30]⟩) (Z9f x25) y1 ?_ fun J4=>?_
     ·intro x30 h;rw [Z9f] at h;(try dsimp only);refine Vg 5 ?_;exact Zw4 h hin1
     ·refine Zz6 fun all H=>?_;dsimp only[go_sem];refine GP H 6 9 [2,1,3,1,1,7] [(43,[.ptr 0 5,.ptr 0 6]),(1,[.iv x25,.ptr 0 5,.ptr 0 6]),(1,[.iv x25])] ?_;dsimp only[go_sem];refine Z74 2 6 rfl ?_ ?_
      ·refine GV H.1 ?_;dsimp only[go_sem];refine GE H.1 6 ?_;dsimp only[go_sem];have ⟨x27,ex27,h⟩:=Bs h;refine Z64 8 rfl (GI H.1 Sess.row ex27 ?_);refine Gn H 1 5 ?_;refine Z64 10 rfl (GL H.1 Sess.row ex27 ?_);dsimp only[go_sem];refine Z64 11 rfl ?_;have ⟨x28,ex28,h⟩:=Bs h;refine GC H.1 (Zy7 x27.Need _ ex28) ?_
       dsimp only[go_sem];refine Z64 12 rfl (GI H.1 Sess.row ex27 ?_);refine Gn H 1 1 ?_;refine Z64 14 rfl (Zv5 H.1 [Sp0 x28] Sess.row (y':=(Sess.mk x27.ID x28 x27.State x27.Age)) ex27 rfl trivial rfl rfl rfl (by first | exact Zi4 _ | simp [go_sem]) rfl rfl rfl rfl ?_);dsimp only[go_sem];refine GD ?_;exact Zx4 J4 h
      ·refine GV H.1 ?_;dsimp only[go_sem];have ⟨x27,ex27,h⟩:=Bs h;refine Z74 2 8 rfl ?_ ?_
       ·refine GV H.1 ?_;dsimp only[go_sem];refine Z64 8 rfl (GI H.1 Sess.row ex27 ?_);refine Gn H 1 5 ?_;refine Z64 10 rfl (GL H.1 Sess.row ex27 ?_);dsimp only[go_sem];refine Z64 11 rfl ?_;have ⟨x28,ex28,h⟩:=Bs h;refine GC H.1 (Zy7 x27.Need _ ex28) ?_;dsimp only[go_sem];refine Z64 12 rfl (GI H.1 Sess.row ex27 ?_)
        dsimp only[go_sem];refine Gn H 1 1 ?_;refine Z64 14 rfl (Zv5 H.1 [Sp0 x28] Sess.row (y':=(Sess.mk x27.ID x28 x27.State x27.Age)) ex27 rfl trivial rfl rfl rfl (by first | exact Zi4 _ | simp [go_sem]) rfl rfl rfl rfl ?_);dsimp only[go_sem];refine GD ?_;exact Zx4 J4 h
       ·refine GI H.1 Sess.row ex27 ?_;refine Gn H 1 6 ?_;refine Z74 2 10 rfl ?_ ?_
        ·refine GV H.1 ?_;dsimp only[go_sem];refine Z64 10 rfl (GL H.1 Sess.row ex27 ?_);dsimp only[go_sem];refine Z64 11 rfl ?_;have ⟨x28,ex28,h⟩:=Bs h;refine GC H.1 (Zy7 x27.Need _ ex28) ?_;dsimp only[go_sem];refine Z64 12 rfl (GI H.1 Sess.row ex27 ?_);refine Gn H 1 1 ?_;refine Z64 14 rfl ?_
         refine Zv5 H.1 [Sp0 x28] Sess.row (y':=(Sess.mk x27.ID x28 x27.State x27.Age)) ex27 rfl trivial rfl rfl rfl (by first | exact Zi4 _ | simp [go_sem]) rfl rfl rfl rfl ?_;dsimp only[go_sem];refine GD ?_;exact Zx4 J4 h
        ·refine GL H.1 Sess.row ex27 ?_;dsimp only[go_sem];have ⟨x28,ex28,h⟩:=Bs h;refine Z74 2 11 rfl ?_ ?_
         ·refine GV H.1 ?_;dsimp only[go_sem];refine Z64 11 rfl (GC H.1 (Zy7 x27.Need _ ex28) ?_);dsimp only[go_sem];refine Z64 12 rfl (GI H.1 Sess.row ex27 ?_);refine Gn H 1 1 ?_;refine Z64 14 rfl ?_
          refine Zv5 H.1 [Sp0 x28] Sess.row (y':=(Sess.mk x27.ID x28 x27.State x27.Age)) ex27 rfl trivial rfl rfl rfl (by first | exact Zi4 _ | simp [go_sem]) rfl rfl rfl rfl ?_;dsimp only[go_sem];refine GD ?_;exact Zx4 J4 h
         ·refine GC H.1 (Zy7 x27.Need _ ex28) ?_;dsimp only[go_sem];refine GE H.1 2 ?_;dsimp only[go_sem];refine Z64 12 rfl (GI H.1 Sess.row ex27 ?_);refine Gn H 1 1 ?_;refine Z64 14 rfl ?_
          refine Zv5 H.1 [Sp0 x28] Sess.row (y':=(Sess.mk x27.ID x28 x27.State x27.Age)) ex27 rfl trivial rfl rfl rfl (by first | exact Zi4 _ | simp [go_sem]) rfl rfl rfl rfl ?_;dsimp only[go_sem];refine GD ?_;exact Zx4 J4 h
    ·refine Vg 1 ?_;exact Zx4 J3 (Zn4 h hout1)
  ·refine Zz6 fun all H=>?_;dsimp only[go_sem];refine GP H 5 10 [1,2,2,1,2,7] [(18,[.ptr 0 7]),(2,[.ptr 0 8,.nl]),(1,[.ptr 0 9,.nl])] ?_;dsimp only[go_sem];refine GE H.1 1 ?_;dsimp only[go_sem];refine Z64 2 rfl ?_;have ⟨x12,ex12,h⟩:=Bs h;refine Z77 H.1 [] [0] 2 3 (Zic x7 _ ex12) ?_;dsimp only[go_sem];refine GN H 1 7 ?_;dsimp only[go_sem]
   refine An (Z64 5 rfl ?_);have ⟨x13,ex13,h⟩:=Bs h;refine Z85 H.1 rfl trivial (Zx7 (([]:List Int)) _ ex13) (h:=?_);dsimp only[go_sem];refine Z64 8 rfl ?_;have ⟨x14,ex14,h⟩:=Bs h;refine Z85 H.1 rfl trivial (Zv8 (([]:List KE)) _ ex14) (h:=?_);dsimp only[go_sem];refine GE H.1 10 ?_;refine Gn H 1 3 ?_;refine GE H.1 12 ?_;dsimp only[go_sem]
   refine Gn H 1 1 ?_;refine GE H.1 14 ?_;dsimp only[go_sem];refine GD ?_;exact Zx4 J2 h
 ·refine Zz6 fun all H=>?_;dsimp only[go_sem];refine GP H 7 9 [4,1,3,8] [(4,[.ptr 0 0,.ptr 0 0,.ptr 0 2,Sp2 x3]),(1,[.ptr 0 0,.ptr 0 4,Sp0 x5])] ?_;dsimp only[go_sem];refine Z64 4 rfl ?_;have ⟨x8,ex8,h⟩:=Bs h;refine Z85 H.1 rfl trivial (Zk8 x3 _ ex8) (h:=?_);refine Gn H 3 5 ?_;refine Z64 8 rfl ?_;have ⟨x9,ex9,h⟩:=Bs h
  refine Z85 H.1 rfl trivial (Zx7 x5 _ ex9) (h:=?_);dsimp only[go_sem];refine GE H.1 12 ?_;refine Gn H 2 1 ?_;refine GE H.1 15 ?_;dsimp only[go_sem];refine GD ?_;exact Zx4 J1 h
@[go_sem] def e27:EC:=(by have h:=hF Tryz.f27;(conv at h=>rhs;reduce);dsimp only[go_sem] at h;exact ⟨_,h⟩:DP Tryz.f27).1
theorem ok27:FnOK Tryz.prog 27 Tryz.f27 e27 [.t 4] 2 6:=okA
def Zef (x1 x2:List Event):Option Bool:=
 (Zna x1 x2 ((fun z=>Z7d z.1 z.2))).bind fun x3=>
 some x3
theorem Zff (x1 x2:List Event) (r:Bool) (h:Zef x1 x2=some r):Z03 Tryz.prog 27 [Sp5 x1,Sp5 x2] (.bv r):=by
 refine FP ok27 fun w0 H0=>?_
 rw [Zef] at h
 refine Vg 8 ?_;have ⟨x3,ex3,h⟩:=Bs h;refine VC (Zoa x1 x2 _ _ ((fun z=>Z7d z.1 z.2)) ⟨by kernel_rfl,rfl,fun z r hz=>Z8d z.1 z.2 r hz⟩ _ ex3) (Vg 2 ?_);exact MD ok27 h
@[go_sem] def e176:EC:=(by have h:=hF Tryz.f176;(conv at h=>rhs;reduce);dsimp only[go_sem] at h;exact ⟨_,h⟩:DP Tryz.f176).1
theorem ok176:FnOK Tryz.prog 176 Tryz.f176 e176 [.t 4] 2 8:=okA
def Zgf (x1 x2:List Int):Option (List Int):=
 (Zed ([x1,x2])).bind fun x3=>
 (Zya x3).bind fun x4=>
 some x4
theorem o_set_Union (x1 x2 r:List Int) (h:Zgf x1 x2=some r):FunO Tryz.prog 176 [Sp0 x1,Sp0 x2] 3 1 (List.map Z05 r):=by
 refine Z65 ok176 rfl fun w0 H0=>?_
 rw [Zgf] at h
 refine Vg 9 ?_;refine Z17 0 ?_;dsimp only[go_sem];have ⟨x3,ex3,h⟩:=Bs h;refine Z75 trivial (Zfd ([x1,x2]) _ ex3) (h:=?_);refine Z17 1 ?_;dsimp only[go_sem];have ⟨x4,ex4,h⟩:=Bs h;refine Z75 trivial (Zza x3 _ ex4) (h:=?_);refine Vg 2 ?_;exact Zc5 Z05 ok176 h rfl rfl
theorem k_set_Union (x1 x2 r:List Int) (h:Zgf x1 x2=some r):Z03 Tryz.prog 176 [Sp0 x1,Sp0 x2] (Sp0 r):=(o_set_Union x1 x2 r h).sealed
@[go_sem] def e139:EC:=(by have h:=hF Tryz.f139;(conv at h=>rhs;reduce);dsimp only[go_sem] at h;exact ⟨_,h⟩:DP Tryz.f139).1
theorem ok139:FnOK Tryz.prog 139 Tryz.f139 e139 [.t 3] 2 6:=okA
def Zhf (x1:Int) (x2:List Int):Option Bool:=
 (Zgd x2 x1).bind fun x3=>
 some (!x3)
theorem k_set_Minus_1 (x1:Int) (x2:List Int) (r:Bool) (h:Zhf x1 x2=some r):Z03 Tryz.prog 139 [.iv x1,.elt ((Z15 1 Z05) x2) 0] (.bv r):=by
 refine FP ok139 fun w0 H0=>?_
 rw [Zhf] at h
 refine Vg 8 ?_;have ⟨x3,ex3,h⟩:=Bs h;refine VC (Zhd x2 x1 _ ex3) (Vg 3 ?_);exact MD ok139 h
@[go_sem] def e138:EC:=(by have h:=hF Tryz.f138;(conv at h=>rhs;reduce);dsimp only[go_sem] at h;exact ⟨_,h⟩:DP Tryz.f138).1
theorem ok138:FnOK Tryz.prog 138 Tryz.f138 e138 [.t 4] 2 7:=okA
def Zif (x1:List Int) (p1:(Int→Option Bool)):Option (List Int):=
 (Zya x1).bind fun x2=>
 (Zld x2 ((fun z=>Z38 z p1))).bind fun x3=>
 some x3
theorem Zjf (x1:List Int) (g1:Nat) (caps1:List AV) (p1:(Int→Option Bool)) (hc1:CloOK Tryz.prog g1 caps1 (fun z=>[.iv z]) p1 (fun z=>.bv z)) (r:List Int) (h:Zif x1 p1=some r):Z03 Tryz.prog 138 [Sp0 x1,.clo g1 caps1] (Sp0 r):=by
 refine FP ok138 fun w0 H0=>?_
 rw [Zif] at h
 refine Vg 8 ?_;have ⟨x2,ex2,h⟩:=Bs h;refine Z75 trivial (Zza x1 _ ex2) (hp:=(by first | rfl | simp [go_sem,hc1.pu])) (h:=?_);refine Vg 1 ?_;refine Zk3 0 rfl (by first | rfl | simp [go_sem,hc1.pu]) ?_;dsimp only[go_sem];have ⟨x3,ex3,h⟩:=Bs h
 refine Zs5 [false] [true] trivial (Zy6 [] [0] 1 1 (Zmd x2 _ _ ((fun z=>Z38 z p1)) ⟨by kernel_rfl,rfl,fun z r hz=>k_set_keep_1 z _ _ p1 hc1 r hz⟩ _ ex3)) (ha:=(by first | exact Zi4 _ | simp [go_sem,rnFL_pu _ _ _ _ _ hc1.pu])) (h:=?_);refine Vg 2 ?_;refine Z17 1 ?_;dsimp only[go_sem];exact MD ok138 h
@[go_sem] def e50:EC:=(by have h:=hF Tryz.f50;(conv at h=>rhs;reduce);dsimp only[go_sem] at h;exact ⟨_,h⟩:DP Tryz.f50).1
theorem ok50:FnOK Tryz.prog 50 Tryz.f50 e50 [.t 2] 1 66:=okA
def Zkf:Unit→Option Int
| ()=>
 some 0
def Zlf (x12:Int) (x13:Sess):Bool→Option ((Int×Int) ⊕ Int)
| x18=>
 ifb x18 (
 Option.map Sum.inr (some 170)) (
 some (.inl (x13.ID,wr (x12+1))))
def Zmf (x12:Int) (x13:Sess) (x14:Bool):Bool→Option ((Int×Int) ⊕ Int)
| x17=>
 ifb x17 (
 Option.map Sum.inr (some 170)) (
 ifb (!x14) (
 ifb (!decide (x13.State=0)) (
 (Zlf x12 x13) true) (
 (Zlf x12 x13) (!decide (x13.Age=0)))) (
 (Zlf x12 x13) false))
def Znf (x1:Book) (x11:Int) (x12:Int) (x13:Sess):Bool→Option ((Int×Int) ⊕ Int)
| x14=>
 ifb (decide (x13.ID≤x11)) (
 (Zmf x12 x13 x14) (decide (x13.ID≤x11))) (
 ifb (decide (x1.Last<x13.ID)) (
 (Zmf x12 x13 x14) (decide (x1.Last<x13.ID))) (
 (Zsd x13.Need).bind fun x15=>
 ifb x15 (
 (Zmf x12 x13 x14) x15) (
 (Z78 x13.Need).bind fun x16=>
 ifb (!x16) (
 (Zmf x12 x13 x14) (!x16)) (
 (Zmf x12 x13 x14) (decide (x13.Age<0))))))
def Zof (x1:Book):(Int×Int)→Option ((Int×Int) ⊕ Int)
| (x11,x12)=>
 ifb (decide (x12<(ln Sess.row x1.Sess))) (
 (at_ x1.Sess x12).bind fun x13=>
 ifb (decide (x13.State=1)) (
 (Znf x1 x11 x12 x13) (decide (x12=0))) (
 (Znf x1 x11 x12 x13) false)) (
 Option.map Sum.inr (Zkf ()))
def Zpf (x1:Book):Bool→Option Int
| x2=>
 ifb x2 (
 some 170) (
 loop (Zof x1) (0,0))
def Zqf (x1:Book):Option Int:=
 ifb (decide (x1.Last<0)) (
 (Zpf x1) true) (
 (Zpf x1) (decide (8<(ln Sess.row x1.Sess))))
theorem Zrf (x1:Book) (r:Int) (h:Zqf x1=some r):Z03 Tryz.prog 50 [.agg (Book.row x1)] (.iv r):=by
 refine FP ok50 fun w0 H0=>?_
 rw [Zqf] at h
 refine Vg 12 ?_;refine Zo4 (fun (x2:Bool)=>⟨(.any :: .ptr 0 0::an 13 (.bv x2::an 51 [])),[some ⟨32,Book.row x1⟩],[]⟩) (Zpf x1) r ?_ fun J1=>?_
 ·intro x2 h;rw [Zpf] at h;(try dsimp only);refine MI h (fun h=>?_) fun h=>?_
  ·refine Vg 4 ?_;exact MD ok50 h
  ·refine Vg 13 ?_;refine Zo4 (fun (_:Unit)=>⟨an 67 [],[],[]⟩) Zkf r ?_ fun J2=>?_
   ·rintro ⟨⟩ h;rw [Zkf] at h;(try dsimp only);refine Vg 4 ?_;exact MD ok50 h
   ·refine Vg 1 ?_;refine Zp4 h (fun ((x11,x12):(Int×Int))=>⟨(.any :: .ptr 0 0 :: .any :: .iv x11::an 13 (Sp3 x1.Sess :: .iv (ln Sess.row x1.Sess) :: .iv x12::an 47 [])),[some ⟨32,Book.row x1⟩],[]⟩) (by simp [go_sem]) (by rintro ⟨x11,x12⟩;first | rfl | simp [go_sem]) ?_;rintro n1 ⟨x11,x12⟩ y1 h hin1 hout1;rw [Zof] at h;(try dsimp only);refine Vg 5 ?_;refine MI h (fun h=>?_) fun h=>?_
    ·refine Vg 6 ?_;have ⟨x13,ex13,h⟩:=Bs h;refine Zs4 Sess.row ex13 trivial rfl rfl rfl (Vg 11 ?_)
     refine Zo4 (fun (x14:Bool)=>⟨(.any :: .ptr 0 0 :: .any :: .iv x11 :: .any :: .ptr 1 0 :: .bv x14::an 10 (Sp3 x1.Sess :: .iv (ln Sess.row x1.Sess) :: .iv x12::an 47 [])),[some ⟨32,Book.row x1⟩,some ⟨60,Sess.row x13⟩],[]⟩) (Znf x1 x11 x12 x13) y1 ?_ fun J3=>?_
     ·intro x14 h;rw [Znf] at h;(try dsimp only);refine Vg 11 ?_;refine Zo4 (fun (x17:Bool)=>⟨(.any :: .ptr 0 0::an 3 (.ptr 1 0 :: .bv x14::an 10 (Sp3 x1.Sess :: .iv (ln Sess.row x1.Sess) :: .iv x12::an 11 (.bv x17::an 35 [])))),[some ⟨32,Book.row x1⟩,some ⟨60,Sess.row x13⟩],[]⟩) (Zmf x12 x13 x14) y1 ?_ fun J4=>?_
      ·intro x17 h;rw [Zmf] at h;(try dsimp only);refine MI h (fun h=>?_) fun h=>?_
       ·refine Vg 4 ?_;exact MD ok50 (Zn4 h hout1)
       ·refine Vg 5 ?_;refine Zo4 (fun (x18:Bool)=>⟨(.any :: .ptr 0 0::an 3 (.ptr 1 0::an 11 (Sp3 x1.Sess :: .iv (ln Sess.row x1.Sess) :: .iv x12::an 31 (.bv x18::an 15 [])))),[some ⟨32,Book.row x1⟩,some ⟨60,Sess.row x13⟩],[]⟩) (Zlf x12 x13) y1 ?_ fun J5=>?_
        ·intro x18 h;rw [Zlf] at h;(try dsimp only);refine MI h (fun h=>?_) fun h=>?_
         ·refine Vg 4 ?_;exact MD ok50 (Zn4 h hout1)
         ·refine Vg 12 ?_;exact Zw4 h hin1
        ·refine MC 54 h (fun h=>?_) fun h=>?_
         ·refine Vg 4 ?_;refine MC 58 h (fun h=>?_) fun h=>?_
          ·refine Vg 7 ?_;exact Zx4 J5 h
          ·refine Vg 7 ?_;exact Zx4 J5 h
         ·refine Vg 11 ?_;exact Zx4 J5 h
      ·refine MI h (fun h=>?_) fun h=>?_
       ·refine Vg 1 ?_;exact Zx4 J4 h
       ·refine Vg 9 ?_;refine MI h (fun h=>?_) fun h=>?_
        ·refine Vg 1 ?_;exact Zx4 J4 h
        ·refine Vg 4 ?_;have ⟨x15,ex15,h⟩:=Bs h;refine VC (Ztd x13.Need _ ex15) (Vg 2 ?_);refine MI h (fun h=>?_) fun h=>?_
         ·refine Vg 1 ?_;exact Zx4 J4 h
         ·refine Vg 4 ?_;have ⟨x16,ex16,h⟩:=Bs h;refine VC (Z88 x13.Need _ ex16) (Vg 3 ?_);refine MI h (fun h=>?_) fun h=>?_
          ·refine Vg 1 ?_;exact Zx4 J4 h
          ·refine Vg 6 ?_;exact Zx4 J4 h
     ·refine MC 27 h (fun h=>?_) fun h=>?_
      ·refine Vg 5 ?_;exact Zx4 J3 h
      ·refine Vg 5 ?_;exact Zx4 J3 h
    ·refine Vg 1 ?_;exact Zx4 J2 (Zn4 h hout1)
 ·refine MC 10 h (fun h=>?_) fun h=>?_
  ·refine Vg 6 ?_;exact Zx4 J1 h
  ·refine Vg 6 ?_;exact Zx4 J1 h
end
end NX
end Go.Proofs.YtdjkbodnjhgbcaaGreat
