/-
  The function narthex/drink.Get$1: its code compiled, a model, and that the code answers as the model. Written by a program of ours (lb.py). No statement of the seat is proved here.
-/
import Derived.Test.YtdjkbodnjhgbcaaGreatB14
set_option maxRecDepth 100000
set_option maxHeartbeats 4000000
namespace Go.Proofs.YtdjkbodnjhgbcaaGreat
namespace NX
open Go
noncomputable section
@[go_sem] def e135:EC:=(by have h:=hF Tryz.f135;(conv at h=>rhs;reduce);dsimp only[go_sem] at h;exact ⟨_,h⟩:DP Tryz.f135).1
theorem ok135:FnOK Tryz.prog 135 Tryz.f135 e135 [.t 4] 3 13:=okA
def Z6a:Bool→Option Bool
| x4=>
 some x4
def Z7a (x1:Side) (x2:Int) (x3:Msg):Option Bool:=
 ifb (decide (x1.Peer=x2)) (
 Z6a (decide (x1.Epoch=x3.Epoch))) (
 Z6a false)
theorem k_drink_Get_1 (x1:Side) (x2:Int) (x3:Msg) (r:Bool) (h:Z7a x1 x2 x3=some r):Z03 Tryz.prog 135 [.agg (Side.row x1),.elt (Z15 x2) 0,.elt (Msg.row x3) 0] (.bv r):=by
 refine FP ok135 fun w0 H0=>?_
 rw [Z7a] at h
 refine Zv2 12 ?_;dsimp only[go_sem];refine An (Zo4 (fun (x4:Bool)=>(⟨an 4 (.bv x4::an 11 []),[],[]⟩:St)) Z6a r ?_ fun J1=>?_)
 ·intro x4 h;rw [Z6a] at h;(try dsimp only);exact Zw4 (res:=fun (r:Bool)=>.bv r) ok135 h
 ·refine MC 9 h (fun h=>?_) fun h=>?_
  ·dsimp only[go_sem];refine Zv2 8 ?_;dsimp only[go_sem];refine An ?_;exact Zy4 J1 (s:=decide (x1.Epoch=x3.Epoch)) h
  ·dsimp only[go_sem];refine Zv2 8 ?_;dsimp only[go_sem];refine An ?_;exact Zy4 J1 (s:=false) h
@[go_sem] def e40:EC:=(by have h:=hF Tryz.f40;(conv at h=>rhs;reduce);dsimp only[go_sem] at h;exact ⟨_,h⟩:DP Tryz.f40).1
theorem ok40:FnOK Tryz.prog 40 Tryz.f40 e40 [.t 5] 4 35:=okA
def Z8a:Bool→Option Bool
| x7=>
 some x7
def Z9a (x1 x2:Int) (x3:node_node) (x4:Msg):Option Bool:=
 ifb (decide (0≤x2)) (
 (at_ x3.Node.DK.DI.SD x2).bind fun x5=>
 ifb (decide (x5.Epoch=x4.Epoch)) (
 (at_ x3.Node.DK.DI.SD x2).bind fun x6=>
 Z8a (decide (x6.State=x1))) (
 Z8a false)) (
 Z8a false)
theorem Zaa (x1 x2:Int) (x3:node_node) (x4:Msg) (r:Bool) (h:Z9a x1 x2 x3 x4=some r):Z03 Tryz.prog 40 [.iv x1,.elt (Z15 x2) 0,.elt ((ptrRow node_node.row) x3) 0,.elt (Msg.row x4) 0] (.bv r):=by
 refine FP ok40 fun w0 H0=>?_
 rw [Z9a] at h
 refine Zv2 5 ?_;dsimp only[go_sem];refine An (Zo4 (fun (x7:Bool)=>(⟨an 5 (.bv x7::an 33 []),[],[]⟩:St)) Z8a r ?_ fun J1=>?_)
 ·intro x7 h;rw [Z8a] at h;(try dsimp only);exact Zw4 (res:=fun (r:Bool)=>.bv r) ok40 h
 ·refine Z07 fun all H=>?_;dsimp only[go_sem];refine GP H 3 31 [3,31] [(6,[.iv x2,.bv (decide (0≤x2)),.bv (decide (0≤x2))])] ?_;dsimp only[go_sem];refine Z35 8 h rfl (fun _ h=>?_) fun _ h=>?_
  ·dsimp only[go_sem]
   refine GP H 10 21 [11,3,2,18] [(9,[.elt (node_node.row x3) 0,.elt (node_node.row x3) 0,.elt (node_node.row x3) 0,.elt (node_node.row x3) 0,.elt (node_node.row x3) 0,.elt (node_node.row x3) 2,Sp2 x3.Node.DK.DI.SD,.iv x2]),(3,[.elt (Msg.row x4) 1,.iv x4.Epoch])] ?_
   dsimp only[go_sem];have ⟨x5,ex5,h⟩:=Bs h;refine Zt4 H.1 H.2.1 H.2.2.1 H.2.2.2 11 Side.row ex5 rfl rfl trivial rfl rfl rfl rfl (GP H 5 15 [19,15] [(18,[.elt (Side.row x5) 1,.iv x5.Epoch]),(2,[.bv (decide (x5.Epoch=x4.Epoch)),.bv (decide (x5.Epoch=x4.Epoch)),.bv (decide (x5.Epoch=x4.Epoch))])] ?_);dsimp only[go_sem];refine Z35 24 h rfl (fun _ h=>?_) fun _ h=>?_
   ·dsimp only[go_sem]
    refine GP H 9 6 [27,3,1,3] [(25,[.elt (node_node.row x3) 0,.elt (node_node.row x3) 0,.elt (node_node.row x3) 0,.elt (node_node.row x3) 0,.elt (node_node.row x3) 0,.elt (node_node.row x3) 2,Sp2 x3.Node.DK.DI.SD,.iv x2]),(3,[.iv x1])] ?_
    dsimp only[go_sem];have ⟨x6,ex6,h⟩:=Bs h;refine Zt4 H.1 H.2.1 H.2.2.1 H.2.2.2 27 Side.row ex6 rfl rfl trivial rfl rfl rfl rfl (GP H 5 0 [34] [(5,[.bv (decide (x6.State=x1))]),(28,[.elt (Side.row x6) 2,.iv x6.State]),(1,[.bv (decide (x6.State=x1)),.bv (decide (x6.State=x1))])] ?_);dsimp only[go_sem];refine GD ?_;exact Zy4 J1 (s:=decide (x6.State=x1)) h
   ·dsimp only[go_sem];refine GP H 15 0 [34] [(38,[.ff])] ?_;dsimp only[go_sem];refine GD ?_;exact Zy4 J1 (s:=false) h
  ·dsimp only[go_sem];refine GP H 31 0 [34] [(23,[.ff,.ff]),(13,[.ff])] ?_;dsimp only[go_sem];refine GD ?_;exact Zy4 J1 (s:=false) h
@[go_sem] def e86:EC:=(by have h:=hF Tryz.f86;(conv at h=>rhs;reduce);dsimp only[go_sem] at h;exact ⟨_,h⟩:DP Tryz.f86).1
theorem ok86:FnOK Tryz.prog 86 Tryz.f86 e86 [.c 2 (some 3)] 1 8:=okA
def Zba (x1:DI):Option DI:=
 (Zj4 32 (([]:List Side)) x1.SD).bind fun x2=>
 some (DI.mk x1.ID x1.PH x2)
theorem Zca (x1 r:DI) (h:Zba x1=some r):Z03 Tryz.prog 86 [.agg (DI.row x1)] (.agg (DI.row r)):=by
 refine FP ok86 fun w0 H0=>?_
 rw [Zba] at h
 refine Zv2 10 ?_;dsimp only[go_sem];refine An ?_;have ⟨x2,ex2,h⟩:=Bs h;refine Zu4 Side.row ex2 trivial rfl rfl rfl (Zv2 8 ?_);dsimp only[go_sem];refine An (Z27 1 ?_);dsimp only[go_sem];exact Zw4 (res:=fun (r:DI)=>.agg (DI.row r)) ok86 h
@[go_sem] def e39:EC:=(by have h:=hF Tryz.f39;(conv at h=>rhs;reduce);dsimp only[go_sem] at h;exact ⟨_,h⟩:DP Tryz.f39).1
theorem ok39:FnOK Tryz.prog 39 Tryz.f39 e39 [.c 2 (some 2)] 1 32:=okA
def Zda (x1:Book):List Sess→Option Book
| x18=>
 some (Book.mk x1.Last x18)
def Zea (x1:Book):(Int×List Sess)→Option ((Int×List Sess) ⊕ Book)
| (x7,x8)=>
 ifb (decide (x7<(ln Sess.row x1.Sess))) (
 (at_ x1.Sess x7).bind fun x9=>
 (Zj4 8 (([]:List Int)) x9.Need).bind fun x10=>
 (Zj4 48 x8 ([Sess.mk x9.ID x10 x9.State x9.Age])).bind fun x11=>
 some (.inl (wr (x7+1),x11))) (
 Option.map Sum.inr ((Zda x1) x8))
def Zfa (x1:Book):Option Book:=
 loop (Zea x1) (0,([]:List Sess))
theorem Zga (x1 r:Book) (h:Zfa x1=some r):Z03 Tryz.prog 39 [.agg (Book.row x1)] (.agg (Book.row r)):=by
 refine FP ok39 fun w0 H0=>?_
 rw [Zfa] at h
 refine Zv2 18 ?_;dsimp only[go_sem];refine An (Zo4 (fun (x18:List Sess)=>(⟨(.any :: .any :: .ptr 1 0 :: .ptr 2 0::an 29 []),[none,some ⟨32,[.iv 0,.nl]⟩,some ⟨32,[.iv x1.Last,.osl 0]⟩],[Sq9 x18]⟩:St)) (Zda x1) r ?_ fun J1=>?_)
 ·intro x18 h;rw [Zda] at h;(try dsimp only);refine Zv2 5 ?_;dsimp only[go_sem];refine An (Z27 0 ?_);dsimp only[go_sem];exact Zw4 (res:=fun (r:Book)=>.agg (Book.row r)) ok39 h
 ·refine Zv2 1 ?_;dsimp only[go_sem];refine An (Z37 2 1 60 4 ?_);dsimp only[go_sem];refine Zp4 h (fun ((x7,x8):(Int×List Sess))=>(⟨(.any :: .ptr 0 0 :: .ptr 1 0 :: .ptr 2 0 :: .iv x7::an 28 []),[some ⟨32,Book.row x1⟩,some ⟨32,[.iv 0,.nl]⟩,some ⟨32,[.iv x1.Last,.osl 0]⟩],[Sq9 x8]⟩:St)) (by simp [go_sem]) (by rintro ⟨x7,x8⟩;first | rfl | simp [go_sem]) ?_;rintro n1 ⟨x7,x8⟩ y1 h hin1 hout1;rw [Zea] at h;(try dsimp only);refine Zv2 9 ?_
  dsimp only[go_sem];refine An (MI h (fun h=>?_) fun h=>?_)
  ·refine Zv2 8 ?_;dsimp only[go_sem];refine An ?_;have ⟨x9,ex9,h⟩:=Bs h;refine Zs4 Sess.row ex9 trivial rfl rfl rfl (Zv2 9 ?_);dsimp only[go_sem];refine An ?_;have ⟨x10,ex10,h⟩:=Bs h;refine Zu4 Z15 ex10 trivial rfl rfl rfl (Zv2 7 ?_);dsimp only[go_sem];refine An (Z27 2 ?_);dsimp only[go_sem];refine Zv2 1 ?_;dsimp only[go_sem];refine An ?_;have ⟨x11,ex11,h⟩:=Bs h;refine Zu4 Sess.row ex11 trivial rfl rfl rfl (Zv2 9 ?_);dsimp only[go_sem];refine An (Z17 4 0 ?_)
   dsimp only[go_sem];exact Zx4 h hin1
  ·refine Zv2 1 ?_;dsimp only[go_sem];refine An ?_;exact Zy4 J1 (s:=x8) (Zn4 h hout1)
@[go_sem] def e28:EC:=(by have h:=hF Tryz.f28;(conv at h=>rhs;reduce);dsimp only[go_sem] at h;exact ⟨_,h⟩:DP Tryz.f28).1
theorem ok28:FnOK Tryz.prog 28 Tryz.f28 e28 [.t 2] 1 26:=okA
def Zha (x1:Book):Unit→Option Bool
| ()=>
 some (decide ((ln Sess.row x1.Sess)≤12))
def Zia (x1:Book) (x5:Int):Bool→Option (Int ⊕ Bool)
| x6=>
 ifb x6 (
 (at_ x1.Sess x5).bind fun x7=>
 ifb (decide (70<(ln Z15 x7.Need))) (
 Option.map Sum.inr (some false)) (
 some (.inl (wr (x5+1))))) (
 Option.map Sum.inr ((Zha x1) ()))
def Zja (x1:Book):Int→Option (Int ⊕ Bool)
| x5=>
 ifb (decide (x5<(ln Sess.row x1.Sess))) (
 (Zia x1 x5) (decide (x5<13))) (
 (Zia x1 x5) false)
def Zka (x1:Book):Option Bool:=
 loop (Zja x1) 0
theorem Zla (x1:Book) (r:Bool) (h:Zka x1=some r):Z03 Tryz.prog 28 [.agg (Book.row x1)] (.bv r):=by
 refine FP ok28 fun w0 H0=>?_
 rw [Zka] at h
 refine Zv2 10 ?_;dsimp only[go_sem];refine An (Zo4 (fun (_:Unit)=>(⟨(.any :: .ptr 0 0::an 25 []),[some ⟨32,Book.row x1⟩],[]⟩:St)) (Zha x1) r ?_ fun J1=>?_)
 ·rintro ⟨⟩ h;rw [Zha] at h;(try dsimp only);refine Zv2 8 ?_;dsimp only[go_sem];refine An ?_;exact Zw4 (res:=fun (r:Bool)=>.bv r) ok28 h
 ·refine Zv2 1 ?_;dsimp only[go_sem];refine An (Zp4 h (fun (x5:Int)=>(⟨(.any :: .ptr 0 0 :: .any :: .iv x5::an 23 []),[some ⟨32,Book.row x1⟩],[]⟩:St)) (by simp [go_sem]) (by intro x5;first | rfl | simp [go_sem]) ?_);rintro n1 x5 y1 h hin1 hout1;rw [Zja] at h;(try dsimp only);refine Zv2 9 ?_;dsimp only[go_sem];refine An ?_
  refine Zo4 (fun (x6:Bool)=>(⟨(.any :: .ptr 0 0 :: .any :: .iv x5::an 8 (.bv x6::an 14 [])),[some ⟨32,Book.row x1⟩],[]⟩:St)) (Zia x1 x5) y1 ?_ fun J2=>?_
  ·intro x6 h;rw [Zia] at h;(try dsimp only);refine MI h (fun h=>?_) fun h=>?_
   ·refine Zv2 8 ?_;dsimp only[go_sem];refine An ?_;have ⟨x7,ex7,h⟩:=Bs h;refine Zs4 Sess.row ex7 trivial rfl rfl rfl (Zv2 5 ?_);dsimp only[go_sem];refine An (MI h (fun h=>?_) fun h=>?_)
    ·refine Zv2 4 ?_;dsimp only[go_sem];refine An ?_;exact Zw4 (res:=fun (r:Bool)=>.bv r) ok28 (Zn4 h hout1)
    ·refine Zv2 7 ?_;dsimp only[go_sem];refine An ?_;exact Zx4 h hin1
   ·refine Zv2 1 ?_;dsimp only[go_sem];refine An ?_;exact Zy4 J1 (s:=()) (Zn4 h hout1)
  ·refine MC 9 h (fun h=>?_) fun h=>?_
   ·dsimp only[go_sem];refine Zv2 4 ?_;dsimp only[go_sem];refine An ?_;exact Zy4 J2 (s:=decide (x5<13)) h
   ·dsimp only[go_sem];refine Zv2 4 ?_;dsimp only[go_sem];refine An ?_;exact Zy4 J2 (s:=false) h
@[go_sem] def e62:EC:=(by have h:=hF Tryz.f62;(conv at h=>rhs;reduce);dsimp only[go_sem] at h;exact ⟨_,h⟩:DP Tryz.f62).1
theorem ok62:FnOK Tryz.prog 62 Tryz.f62 e62 [.t 6] 3 29:=okA
def Zma:Unit→Option Bool
| ()=>
 some true
def Zna (x1 x2:List Event) (p2:((Event×Event)→Option Bool)):Int→Option (Int ⊕ Bool)
| x7=>
 ifb (decide (x7<(ln Event.row x1))) (
 (at_ x1 x7).bind fun x8=>
 (at_ x2 x7).bind fun x9=>
 (p2 (x8,x9)).bind fun x10=>
 ifb (!x10) (
 Option.map Sum.inr (some false)) (
 some (.inl (wr (x7+1))))) (
 Option.map Sum.inr (Zma ()))
def Zoa (x1 x2:List Event) (p2:((Event×Event)→Option Bool)):Option Bool:=
 ifb (!decide ((ln Event.row x1)=(ln Event.row x2))) (
 some false) (
 loop (Zna x1 x2 p2) 0)
theorem Zpa (x1 x2:List Event) (g2:Nat) (caps2:List AV) (p2:((Event×Event)→Option Bool)) (hc2:CloOK Tryz.prog g2 caps2 (fun z=>[.agg (Event.row z.1),.agg (Event.row z.2)]) p2 (fun z=>.bv z)) (r:Bool) (h:Zoa x1 x2 p2=some r):Z03 Tryz.prog 62 [Sp5 x1,Sp5 x2,.clo g2 caps2] (.bv r):=by
 refine FP ok62 fun w0 H0=>?_
 rw [Zoa] at h
 refine Zv2 13 ?_;dsimp only[go_sem];refine An (MI h (fun h=>?_) fun h=>?_)
 ·refine Zv2 4 ?_;dsimp only[go_sem];refine An ?_;exact Zw4 (res:=fun (r:Bool)=>.bv r) ok62 h
 ·refine Zv2 8 ?_;dsimp only[go_sem];refine An (Zo4 (fun (_:Unit)=>(⟨an 32 [],[],[]⟩:St)) Zma r ?_ fun J1=>?_)
  ·rintro ⟨⟩ h;rw [Zma] at h;(try dsimp only);refine Zv2 4 ?_;dsimp only[go_sem];refine An ?_;exact Zw4 (res:=fun (r:Bool)=>.bv r) ok62 h
  ·refine Zv2 1 ?_;dsimp only[go_sem];refine An (Zp4 h (fun (x7:Int)=>(⟨(.any :: Sp5 x2 :: .clo g2 caps2::an 12 (Sp5 x1 :: .iv (ln Event.row x1) :: .iv x7::an 14 [])),[],[]⟩:St)) (by simp [go_sem]) (by intro x7;first | rfl | simp [go_sem,Zh4 _ hc2.pu]) ?_);rintro n1 x7 y1 h hin1 hout1;rw [Zna] at h;(try dsimp only);refine Zv2 5 ?_;dsimp only[go_sem];refine An (MI h (fun h=>?_) fun h=>?_)
   ·refine Zv2 6 ?_;dsimp only[go_sem];refine An ?_;have ⟨x8,ex8,h⟩:=Bs h;refine Zs4 Event.row ex8 trivial rfl rfl rfl (Zv2 9 ?_);dsimp only[go_sem];refine An ?_;have ⟨x9,ex9,h⟩:=Bs h;refine Zs4 Event.row ex9 trivial rfl rfl rfl (Zv2 9 ?_);dsimp only[go_sem];refine An ?_;have ⟨x10,ex10,h⟩:=Bs h;refine Z05 trivial rfl hc2 (x:=(x8,x9)) ex10 (by first | exact Zi4 _ | simp [go_sem]) (by first | rfl | simp [go_sem,hc2.pu]) (Zv2 2 ?_);dsimp only[go_sem];refine An ?_
    refine MI h (fun h=>?_) fun h=>?_
    ·refine Zv2 4 ?_;dsimp only[go_sem];refine An ?_;exact Zw4 (res:=fun (r:Bool)=>.bv r) ok62 (Zn4 h hout1)
    ·refine Zv2 6 ?_;dsimp only[go_sem];refine An ?_;exact Zx4 h hin1 (hok:=by first | rfl | simp [go_sem,Zh4 _ hc2.pu])
   ·refine Zv2 1 ?_;dsimp only[go_sem];refine An ?_;exact Zy4 J1 (s:=()) (Zn4 h hout1) (hok:=by first | rfl | simp [go_sem,Zh4 _ hc2.pu])
@[go_sem] def e88:EC:=(by have h:=hF Tryz.f88;(conv at h=>rhs;reduce);dsimp only[go_sem] at h;exact ⟨_,h⟩:DP Tryz.f88).1
theorem ok88:FnOK Tryz.prog 88 Tryz.f88 e88 [.t 4] 2 7:=okA
def Zqa (x1:List Side) (p1:(Side→Option Bool)):Option Bool:=
 (Zf7 x1 p1).bind fun x2=>
 some (decide (0≤x2))
theorem Zra (x1:List Side) (g1:Nat) (caps1:List AV) (p1:(Side→Option Bool)) (hc1:CloOK Tryz.prog g1 caps1 (fun z=>[.agg (Side.row z)]) p1 (fun z=>.bv z)) (r:Bool) (h:Zqa x1 p1=some r):Z03 Tryz.prog 88 [Sp2 x1,.clo g1 caps1] (.bv r):=by
 refine FP ok88 fun w0 H0=>?_
 rw [Zqa] at h
 refine Zv2 8 ?_;dsimp only[go_sem];refine An ?_;have ⟨x2,ex2,h⟩:=Bs h;refine VC (Zg7 x1 _ _ p1 hc1 _ ex2) ?_ (hp:=(by first | rfl | simp [go_sem,hc1.pu]));refine Zv2 3 ?_;dsimp only[go_sem];refine An ?_;exact Zw4 (res:=fun (r:Bool)=>.bv r) ok88 h
@[go_sem] def e90:EC:=(by have h:=hF Tryz.f90;(conv at h=>rhs;reduce);dsimp only[go_sem] at h;exact ⟨_,h⟩:DP Tryz.f90).1
theorem ok90:FnOK Tryz.prog 90 Tryz.f90 e90 [.t 4] 2 7:=okA
def Zsa (x1:List KE) (p1:(KE→Option Bool)):Option Bool:=
 (Zj7 x1 p1).bind fun x2=>
 some (decide (0≤x2))
theorem Zta (x1:List KE) (g1:Nat) (caps1:List AV) (p1:(KE→Option Bool)) (hc1:CloOK Tryz.prog g1 caps1 (fun z=>[.agg (KE.row z)]) p1 (fun z=>.bv z)) (r:Bool) (h:Zsa x1 p1=some r):Z03 Tryz.prog 90 [Sp1 x1,.clo g1 caps1] (.bv r):=by
 refine FP ok90 fun w0 H0=>?_
 rw [Zsa] at h
 refine Zv2 8 ?_;dsimp only[go_sem];refine An ?_;have ⟨x2,ex2,h⟩:=Bs h;refine VC (Zk7 x1 _ _ p1 hc1 _ ex2) ?_ (hp:=(by first | rfl | simp [go_sem,hc1.pu]));refine Zv2 3 ?_;dsimp only[go_sem];refine An ?_;exact Zw4 (res:=fun (r:Bool)=>.bv r) ok90 h
@[go_sem] def e107:EC:=(by have h:=hF Tryz.f107;(conv at h=>rhs;reduce);dsimp only[go_sem] at h;exact ⟨_,h⟩:DP Tryz.f107).1
theorem ok107:FnOK Tryz.prog 107 Tryz.f107 e107 [.t 4] 2 7:=okA
def Zua (x1:List Sess) (p1:(Sess→Option Bool)):Option Bool:=
 (Zn7 x1 p1).bind fun x2=>
 some (decide (0≤x2))
theorem Zva (x1:List Sess) (g1:Nat) (caps1:List AV) (p1:(Sess→Option Bool)) (hc1:CloOK Tryz.prog g1 caps1 (fun z=>[.agg (Sess.row z)]) p1 (fun z=>.bv z)) (r:Bool) (h:Zua x1 p1=some r):Z03 Tryz.prog 107 [Sp3 x1,.clo g1 caps1] (.bv r):=by
 refine FP ok107 fun w0 H0=>?_
 rw [Zua] at h
 refine Zv2 8 ?_;dsimp only[go_sem];refine An ?_;have ⟨x2,ex2,h⟩:=Bs h;refine VC (Zo7 x1 _ _ p1 hc1 _ ex2) ?_ (hp:=(by first | rfl | simp [go_sem,hc1.pu]));refine Zv2 3 ?_;dsimp only[go_sem];refine An ?_;exact Zw4 (res:=fun (r:Bool)=>.bv r) ok107 h
@[go_sem] def e99:EC:=(by have h:=hF Tryz.f99;(conv at h=>rhs;reduce);dsimp only[go_sem] at h;exact ⟨_,h⟩:DP Tryz.f99).1
theorem ok99:FnOK Tryz.prog 99 Tryz.f99 e99 [.t 4] 2 7:=okA
def Zwa (x1:List Int) (p1:(Int→Option Bool)):Option Bool:=
 (Zr7 x1 p1).bind fun x2=>
 some (decide (0≤x2))
theorem Zxa (x1:List Int) (g1:Nat) (caps1:List AV) (p1:(Int→Option Bool)) (hc1:CloOK Tryz.prog g1 caps1 (fun z=>[.iv z]) p1 (fun z=>.bv z)) (r:Bool) (h:Zwa x1 p1=some r):Z03 Tryz.prog 99 [Sp0 x1,.clo g1 caps1] (.bv r):=by
 refine FP ok99 fun w0 H0=>?_
 rw [Zwa] at h
 refine Zv2 8 ?_;dsimp only[go_sem];refine An ?_;have ⟨x2,ex2,h⟩:=Bs h;refine VC (Zs7 x1 _ _ p1 hc1 _ ex2) ?_ (hp:=(by first | rfl | simp [go_sem,hc1.pu]));refine Zv2 3 ?_;dsimp only[go_sem];refine An ?_;exact Zw4 (res:=fun (r:Bool)=>.bv r) ok99 h
def laysSort_ren:Go.Shelf.Ren:=⟨(fun | 189=>114 | 125=>147 | 257=>146 | 128=>168 | 129=>169 | 294=>159 | 295=>160 | 296=>161 | 297=>162 | 298=>163 | 299=>164 | 216=>165 | 300=>166 | 301=>167 | 328=>177 | 329=>178 | 330=>179 | 331=>180 | 332=>181 | 215=>182 | 343=>187 | n=>n),(fun | 28=>27 | 3=>3 | 46=>152 | 0=>0 | 51=>189 | 53=>191 | 4=>4 | 183=>182 | 182=>181 | 131=>122 | 5=>5 | 9=>9 | 218=>195 | 222=>199 | 228=>204 | 229=>205 | n=>n),(fun | n=>n)⟩
theorem laysSort:Lays.n189 Tryz.prog laysSort_ren where
 mixed:=by kernel_rfl
 f125:=Tryz.func147.trans (congrArg some (by kernel_rfl))
 f128:=Tryz.func168.trans (congrArg some (by kernel_rfl))
 f129:=Tryz.func169.trans (congrArg some (by kernel_rfl))
 f189:=Tryz.func114.trans (congrArg some (by kernel_rfl))
 f215:=Tryz.func182.trans (congrArg some (by kernel_rfl))
 f216:=Tryz.func165.trans (congrArg some (by kernel_rfl))
 f257:=Tryz.func146.trans (congrArg some (by kernel_rfl))
 f294:=Tryz.func159.trans (congrArg some (by kernel_rfl))
 f295:=Tryz.func160.trans (congrArg some (by kernel_rfl))
 f296:=Tryz.func161.trans (congrArg some (by kernel_rfl))
 f297:=Tryz.func162.trans (congrArg some (by kernel_rfl))
 f298:=Tryz.func163.trans (congrArg some (by kernel_rfl))
 f299:=Tryz.func164.trans (congrArg some (by kernel_rfl))
 f300:=Tryz.func166.trans (congrArg some (by kernel_rfl))
 f301:=Tryz.func167.trans (congrArg some (by kernel_rfl))
 f328:=Tryz.func177.trans (congrArg some (by kernel_rfl))
 f329:=Tryz.func178.trans (congrArg some (by kernel_rfl))
 f330:=Tryz.func179.trans (congrArg some (by kernel_rfl))
 f331:=Tryz.func180.trans (congrArg some (by kernel_rfl))
 f332:=Tryz.func181.trans (congrArg some (by kernel_rfl))
 f343:=Tryz.func187.trans (congrArg some (by kernel_rfl))
 t0:=Tryz.underlying0
 a0:=Tryz.isAgg0
 z0:=Tryz.sizeOf0
 v0:=Tryz.zeroValue0
 t3:=Tryz.underlying3
 a3:=Tryz.isAgg3
 z3:=Tryz.sizeOf3
 v3:=Tryz.zeroValue3
 t4:=Tryz.underlying4
 a4:=Tryz.isAgg4
 z4:=Tryz.sizeOf4
 v4:=Tryz.zeroValue4
 t5:=Tryz.underlying5
 a5:=Tryz.isAgg5
 z5:=Tryz.sizeOf5
 v5:=Tryz.zeroValue5
 t9:=Tryz.underlying9
 a9:=Tryz.isAgg9
 z9:=Tryz.sizeOf9
 v9:=Tryz.zeroValue9
 t28:=Tryz.underlying27
 a28:=Tryz.isAgg27
 z28:=Tryz.sizeOf27
 v28:=Tryz.zeroValue27
 t46:=Tryz.underlying152
 a46:=Tryz.isAgg152
 z46:=Tryz.sizeOf152
 v46:=Tryz.zeroValue152
 t51:=Tryz.underlying189
 a51:=Tryz.isAgg189
 z51:=Tryz.sizeOf189
 v51:=Tryz.zeroValue189
 t53:=Tryz.underlying191
 a53:=Tryz.isAgg191
 z53:=Tryz.sizeOf191
 v53:=Tryz.zeroValue191
 t131:=Tryz.underlying122
 a131:=Tryz.isAgg122
 z131:=Tryz.sizeOf122
 v131:=Tryz.zeroValue122
 t182:=Tryz.underlying181
 a182:=Tryz.isAgg181
 z182:=Tryz.sizeOf181
 v182:=Tryz.zeroValue181
 t183:=Tryz.underlying182
 a183:=Tryz.isAgg182
 z183:=Tryz.sizeOf182
 v183:=Tryz.zeroValue182
 t218:=Tryz.underlying195
 a218:=Tryz.isAgg195
 z218:=Tryz.sizeOf195
 v218:=Tryz.zeroValue195
 t222:=Tryz.underlying199
 a222:=Tryz.isAgg199
 z222:=Tryz.sizeOf199
 v222:=Tryz.zeroValue199
 t228:=Tryz.underlying204
 a228:=Tryz.isAgg204
 z228:=Tryz.sizeOf204
 v228:=Tryz.zeroValue204
 t229:=Tryz.underlying205
 a229:=Tryz.isAgg205
 z229:=Tryz.sizeOf205
 v229:=Tryz.zeroValue205
def Zya:Go.Shelf.Ren:=⟨(fun | 20=>115 | n=>n),(fun | 22=>27 | 3=>3 | 4=>4 | 0=>0 | n=>n),(fun | n=>n)⟩
theorem laysCompact:Lays2.n20 Tryz.prog Zya where
 mixed:=by kernel_rfl
 f20:=Tryz.func115.trans (congrArg some (by kernel_rfl))
 t0:=Tryz.underlying0
 a0:=Tryz.isAgg0
 z0:=Tryz.sizeOf0
 v0:=Tryz.zeroValue0
 t3:=Tryz.underlying3
 a3:=Tryz.isAgg3
 z3:=Tryz.sizeOf3
 v3:=Tryz.zeroValue3
 t4:=Tryz.underlying4
 a4:=Tryz.isAgg4
 z4:=Tryz.sizeOf4
 v4:=Tryz.zeroValue4
 t22:=Tryz.underlying27
 a22:=Tryz.isAgg27
 z22:=Tryz.sizeOf27
 v22:=Tryz.zeroValue27
 i3:=by kernel_rfl
@[go_sem] def e71:EC:=(by have h:=hF Tryz.f71;(conv at h=>rhs;reduce);dsimp only[go_sem] at h;exact ⟨_,h⟩:DP Tryz.f71).1
theorem ok71:FnOK Tryz.prog 71 Tryz.f71 e71 [.t 2] 1 9:=okA
def Zza (x1:List Int):Option (List Int):=
 (Zx7 x1).bind fun x2=>
 ifb (decide (x2.length<4611686018427387904)) (
 some (Lib.compact (x2.mergeSort fun x y=>decide (x≤y)))) none
theorem Z0b (x1 r:List Int) (h:Zza x1=some r):FunO Tryz.prog 71 [Sp0 x1] 3 1 (List.map Z15 r):=by
 refine Z75 ok71 rfl fun w0 H0=>?_
 rw [Zza] at h
 refine Zv2 100 ?_
 dsimp only [e71,go_sem]
 refine ⟨by simp,?_⟩
 have ⟨x2,ex2,h⟩:=Option.bind_eq_some_iff.1 h
 refine Z85 trivial (Zy7 x1 _ ex2) (by first | exact Zi4 _ | simp [go_sem]) (by first | rfl | simp [go_sem]) ?_
 refine Zv2 100 ?_
 dsimp only [e71,go_sem]
 refine ⟨by simp,?_⟩
 by_cases hl:x2.length<4611686018427387904
 ·rw [show decide (x2.length<4611686018427387904)=true from decide_eq_true hl] at h
  have h:some (Lib.compact (x2.mergeSort fun x y=>decide (x≤y)))=some r:=h
  refine V_sort laysSort x2 trivial (by kernel_rfl) rfl rfl hl ?_
  refine Zv2 100 ?_
  dsimp only [e71,go_sem]
  refine ⟨by simp,?_⟩
  refine V_compact laysCompact (x2.mergeSort fun x y=>decide (x≤y)) trivial (by kernel_rfl) rfl rfl (by simpa using hl) ?_
  refine Zv2 100 ?_
  dsimp only [e71,go_sem]
  refine ⟨by simp,?_⟩
  exact Zd5 Z15 ok71 h rfl rfl
 ·rw [show decide (x2.length<4611686018427387904)=false from decide_eq_false hl] at h
  cases h
theorem k_set_Of (x1 r:List Int) (h:Zza x1=some r):Z03 Tryz.prog 71 [Sp0 x1] (Sp0 r):=(Z0b x1 r h).sealed
def Z1b:List Int→Option (List Int)
| x4=>
 some x4
def Z2b (x1:Int):Unit→Option (List Int)
| ()=>
 ifb (decide (0<(wr (x1-(wr (0-0)))))) (
 (apz_ 8 (wr (x1-(wr (0-0)))) 0).bind fun x2=>
 (sub_ x2 0 0).bind fun x3=>
 Z1b x3) (
 Z1b (([]:List Int)))
def Z3b (x1:Int):Option (List Int):=
 ifb (decide (x1<0)) (
 none) (
 (Z2b x1) ())
theorem Z4b (x1:Int) (r:List Int) (h:Z3b x1=some r):Zr5 Tryz.prog 188 [.nl,.iv x1] [] [] (.osl 0) [] [Sq7 r]:=by
 refine FT ok188 fun w0 M0=>?_
 rw [Z3b] at h
 dsimp only[lun,List.cons_append,List.nil_append]
 refine Zv2 10 ?_;dsimp only[go_sem];refine An (Zo4 (fun (_:Unit)=>(⟨(.nl :: .iv x1::an 25 []),[],[]⟩:St)) (Z2b x1) r ?_ fun J1=>?_)
 ·rintro ⟨⟩ h;rw [Z2b] at h;(try dsimp only);refine Zv2 5 ?_;dsimp only[go_sem];refine An (V_capN trivial rfl (Zv2 11 ?_));dsimp only[go_sem];refine An (Zo4 (fun (x4:List Int)=>(⟨(.osl 0::an 26 []),[],[Sq7 x4]⟩:St)) Z1b r ?_ fun J2=>?_)
  ·intro x4 h;rw [Z1b] at h;(try dsimp only);refine Zv2 5 ?_;dsimp only[go_sem];refine An ?_;obtain rfl:=Option.some.inj h;exact Z57 ok188
  ·refine MI h (fun h=>?_) fun h=>?_
   ·refine Zv2 3 ?_;dsimp only[go_sem];refine An (V_capN trivial rfl (V_sliceN trivial rfl rfl rfl (Zv2 1 ?_)));dsimp only[go_sem];refine An ?_;have ⟨x2,ex2,h⟩:=Bs h;refine V_apzM Z15 ex2 trivial rfl rfl rfl rfl (Zv2 2 ?_);dsimp only[go_sem];refine An ?_;have ⟨x3,ex3,h⟩:=Bs h;refine V_cutM Z15 ex3 trivial rfl rfl rfl rfl (Zv2 2 ?_);dsimp only[go_sem];refine An (Z17 1 0 ?_);dsimp only[go_sem];exact Zy4 J2 (s:=x3) h
   ·refine Zv2 1 ?_;dsimp only[go_sem];refine An (Zf4 0 3 1 rfl rfl ?_);dsimp only[go_sem];exact Zy4 J2 (s:=([]:List Int)) h
 ·refine MI h (fun h=>?_) fun h=>?_
  ·cases h
  ·refine Zv2 1 ?_;dsimp only[go_sem];refine An ?_;exact Zy4 J1 (s:=()) h
@[go_sem] def e84:EC:=(by have h:=hF Tryz.f84;(conv at h=>rhs;reduce);dsimp only[go_sem] at h;exact ⟨_,h⟩:DP Tryz.f84).1
theorem ok84:FnOK Tryz.prog 84 Tryz.f84 e84 [.t 4] 2 7:=okA
def Z5b (x1:List Int) (x2:Int):Option Bool:=
 (Z28 x1 x2).bind fun x3=>
 some (decide (0≤x3))
theorem Z6b (x1:List Int) (x2:Int) (r:Bool) (h:Z5b x1 x2=some r):Z03 Tryz.prog 84 [Sp0 x1,.iv x2] (.bv r):=by
 refine FP ok84 fun w0 H0=>?_
 rw [Z5b] at h
 refine Zv2 8 ?_;dsimp only[go_sem];refine An ?_;have ⟨x3,ex3,h⟩:=Bs h;refine VC (Z38 x1 x2 _ ex3) (Zv2 3 ?_);dsimp only[go_sem];refine An ?_;exact Zw4 (res:=fun (r:Bool)=>.bv r) ok84 h
@[go_sem] def e157:EC:=(by have h:=hF Tryz.f157;(conv at h=>rhs;reduce);dsimp only[go_sem] at h;exact ⟨_,h⟩:DP Tryz.f157).1
theorem ok157:FnOK Tryz.prog 157 Tryz.f157 e157 [.t 4] 2 40:=okA
@[go_sem] def e113:EC:=(by have h:=hF Tryz.f113;(conv at h=>rhs;reduce);dsimp only[go_sem] at h;exact ⟨_,h⟩:DP Tryz.f113).1
theorem ok113:FnOK Tryz.prog 113 Tryz.f113 e113 [.c 2 (some 2)] 1 27:=okA
def Z7b (x1 x2:Int) (x3:List Sess):List Sess→Option (List Sess)
| x11=>
 (vw_ (ln Sess.row x11) ((((Int.toNat (x1)-Int.toNat (0))+(Int.toNat (ln Sess.row x3)-Int.toNat (x2)):Nat):Int)) (ln Sess.row x3)).bind fun _=>
 (clr_ x11 (Int.toNat ((((Int.toNat (x1)-Int.toNat (0))+(Int.toNat (ln Sess.row x3)-Int.toNat (x2)):Nat):Int))) (Int.toNat (ln Sess.row x3)-Int.toNat ((((Int.toNat (x1)-Int.toNat (0))+(Int.toNat (ln Sess.row x3)-Int.toNat (x2)):Nat):Int))) (Sess.mk 0 (([]:List Int)) 0 0)).bind fun x13=>
 (cut_ x13 ((Int.toNat (x1)-Int.toNat (0))+(Int.toNat (ln Sess.row x3)-Int.toNat (x2)))).bind fun x14=>
 some x14
def Z8b (x1 x2:Int) (x3:List Sess):Option (List Sess):=
 (vw_ (ln Sess.row x3) x1 x2).bind fun _=>
 (vw_ (ln Sess.row x3) x2 (ln Sess.row x3)).bind fun _=>
 ifb (decide (x1=x2)) (
 some x3) (
 (vw_ (ln Sess.row x3) 0 x1).bind fun _=>
 (vw_ (ln Sess.row x3) x2 (ln Sess.row x3)).bind fun _=>
 (mvv_ x3 (Int.toNat (x1)-Int.toNat (0)) (Int.toNat (x2)) (Int.toNat (ln Sess.row x3)-Int.toNat (x2))).bind fun x10=>
 (Z7b x1 x2 x3) x10)
theorem Z9b (x1 x2:Int) (x3 r:List Sess) (h:Z8b x1 x2 x3=some r):Zr5 Tryz.prog 118 [.osl 0,.iv x1,.iv x2] [] [Sq9 x3] (.osl 1) [] [none,Sq9 r]:=by
 refine FT ok118 fun w0 M0=>?_
 rw [Z8b] at h
 dsimp only[lun,List.cons_append,List.nil_append]
 refine Zv2 11 ?_;dsimp only[go_sem];refine An ?_;have ⟨x4,ex4,h⟩:=Bs h;have ⟨x5,ex5,h⟩:=Bs h;refine V_sl3M Sess.row ex4 ex5 trivial rfl rfl rfl rfl rfl (Zv2 8 ?_);dsimp only[go_sem];refine An (MI h (fun h=>?_) fun h=>?_)
 ·refine Zv2 5 ?_;dsimp only[go_sem];refine An (Z47 60 4 ?_);dsimp only[go_sem];refine Z17 0 1 ?_;dsimp only[go_sem];obtain rfl:=Option.some.inj h;exact Z57 ok118
 ·refine Zv2 8 ?_;dsimp only[go_sem];refine An (Zo4 (fun (x11:List Sess)=>(⟨(.ocs 0 0 4 ((Int.toNat (x1)-Int.toNat (0))+(Int.toNat (ln Sess.row x3)-Int.toNat (x2)))::an 6 (.iv (ln Sess.row x3)::an 25 [])),[],[Sq9 x11]⟩:St)) (Z7b x1 x2 x3) r ?_ fun J1=>?_)
  ·intro x11 h;rw [Z7b] at h;(try dsimp only);refine Zv2 6 ?_;dsimp only[go_sem];refine An ?_;have ⟨x12,ex12,h⟩:=Bs h;refine V_viewVM Sess.row ex12 trivial rfl rfl rfl rfl ?_;have ⟨x13,ex13,h⟩:=Bs h;refine V_clrM Sess.row ex13 trivial rfl rfl (by first | exact Zi4 _ | simp [go_sem]) (by first | rfl | simp [go_sem]) rfl rfl (Zv2 6 ?_);dsimp only[go_sem];refine An ?_;have ⟨x14,ex14,h⟩:=Bs h;refine V_cutVM 6 0 4 ((Int.toNat (x1)-Int.toNat (0))+(Int.toNat (ln Sess.row x3)-Int.toNat (x2))) Sess.row ex14 rfl rfl ?_
   dsimp only[go_sem];obtain rfl:=Option.some.inj h;exact Z57 ok118
  ·refine Z07 fun all H=>?_;dsimp only[go_sem];refine GN H 4 4 ?_;dsimp only[go_sem];refine An ?_;have ⟨x6,ex6,h⟩:=Bs h;have ⟨x7,ex7,h⟩:=Bs h;refine Z74 2 5 rfl ?_ ?_
   ·refine Z96 Sess.row ex6 H.1 rfl trivial rfl rfl rfl rfl ?_;dsimp only[go_sem];refine Z64 5 rfl (Z96 Sess.row ex7 H.1 rfl trivial rfl rfl rfl rfl ?_);dsimp only[go_sem];refine Z64 6 rfl ?_;have ⟨x10,ex10,h⟩:=Bs h;refine GO_appVM Sess.row ex10 H.1 rfl trivial rfl rfl rfl ?_;dsimp only[go_sem];refine GN H 1 0 ?_;dsimp only[go_sem];refine An (GD ?_);exact Zy4 J1 (s:=x10) h
   ·refine Z96 Sess.row ex7 H.1 rfl trivial rfl rfl rfl rfl ?_;dsimp only[go_sem];refine Z64 2 rfl (Z96 Sess.row ex6 H.1 rfl trivial rfl rfl rfl rfl ?_);dsimp only[go_sem];refine Z64 6 rfl ?_;have ⟨x10,ex10,h⟩:=Bs h;refine GO_appVM Sess.row ex10 H.1 rfl trivial rfl rfl rfl ?_;dsimp only[go_sem];refine GN H 1 0 ?_;dsimp only[go_sem];refine An (GD ?_);exact Zy4 J1 (s:=x10) h
@[go_sem] def e149:EC:=(by have h:=hF Tryz.f149;(conv at h=>rhs;reduce);dsimp only[go_sem] at h;exact ⟨_,h⟩:DP Tryz.f149).1
theorem ok149:FnOK Tryz.prog 149 Tryz.f149 e149 [.t 4] 2 7:=okA
def Zab (x1:Book) (x2:Int):Option Int:=
 (Zn7 x1.Sess ((fun z=>Zd8 z x2))).bind fun x3=>
 some x3
theorem Zbb (x1:Book) (x2:Int) (r:Int) (h:Zab x1 x2=some r):Z03 Tryz.prog 149 [.agg (Book.row x1),.iv x2] (.iv r):=by
 refine FP ok149 fun w0 H0=>?_
 rw [Zab] at h
 refine Zv2 11 ?_;dsimp only[go_sem];refine An ?_;have ⟨x3,ex3,h⟩:=Bs h;refine VL (LR.block 1 rfl rfl) (Zo7 x1.Sess _ _ ((fun z=>Zd8 z x2)) ⟨by kernel_rfl,rfl,fun z r hz=>k_sess_find_1 z x2 r hz⟩ _ ex3) (Zv2 2 ?_);dsimp only[go_sem];refine An ?_;exact Zw4 (res:=fun (r:Int)=>.iv r) ok149 h
def Zcb:Bool→Option Bool
| x5=>
 some x5
def Zdb (x1:Side):Bool→Option Bool
| x4=>
 ifb (!x4) (
 Zcb true) (
 ifb (decide (x1.Epoch<0)) (
 Zcb true) (
 ifb (decide (65535<x1.Epoch)) (
 Zcb true) (
 ifb (decide (x1.State<0)) (
 Zcb true) (
 ifb (decide (3<x1.State)) (
 Zcb true) (
 ifb x1.DY (
 Zcb (!x1.Fork)) (
 Zcb false))))))
def Zeb (x1:Side) (x2:Int) (x3:DI):Option Bool:=
 ifb (decide (x2<x1.Peer)) (
 (Zdb x1) (!decide (x1.Peer=x3.ID))) (
 (Zdb x1) false)
theorem Zfb (x1:Side) (x2:Int) (x3:DI) (r:Bool) (h:Zeb x1 x2 x3=some r):Zr5 Tryz.prog 140 [.agg (Side.row x1),.ptr 0 0,.ptr 1 0] [some ⟨3,[.iv x2]⟩,some ⟨25,DI.row x3⟩] [] (.bv r) [some ⟨3,[.iv x1.Peer]⟩,some ⟨25,DI.row x3⟩] []:=by
 refine FT ok140 fun w0 M0=>?_
 rw [Zeb] at h
 dsimp only[lun,List.cons_append,List.nil_append]
 refine Zv2 12 ?_;dsimp only[go_sem];refine An (Zo4 (fun (x4:Bool)=>(⟨(.any :: .ptr 0 0 :: .any :: .ptr 2 0 :: .any :: .bv x4::an 44 []),[some ⟨3,[.iv x2]⟩,some ⟨25,DI.row x3⟩,some ⟨65,Side.row x1⟩],[]⟩:St)) (Zdb x1) r ?_ fun J1=>?_)
 ·intro x4 h;rw [Zdb] at h;(try dsimp only);refine Zv2 11 ?_;dsimp only[go_sem];refine An (Zo4 (fun (x5:Bool)=>(⟨an 4 (.bv x5::an 45 []),[some ⟨3,[.iv x1.Peer]⟩,some ⟨25,DI.row x3⟩],[]⟩:St)) Zcb r ?_ fun J2=>?_)
  ·intro x5 h;rw [Zcb] at h;(try dsimp only);obtain rfl:=Option.some.inj h;exact Z57 ok140
  ·refine MC 21 h (fun h=>?_) fun h=>?_
   ·dsimp only[go_sem];refine Zv2 30 ?_;dsimp only[go_sem];refine An ?_;exact Zy4 J2 (s:=true) h
   ·dsimp only[go_sem];refine Zv2 5 ?_;dsimp only[go_sem];refine An (MC 26 h (fun h=>?_) fun h=>?_)
    ·dsimp only[go_sem];refine Zv2 25 ?_;dsimp only[go_sem];refine An ?_;exact Zy4 J2 (s:=true) h
    ·dsimp only[go_sem];refine Zv2 5 ?_;dsimp only[go_sem];refine An (MC 31 h (fun h=>?_) fun h=>?_)
     ·dsimp only[go_sem];refine Zv2 20 ?_;dsimp only[go_sem];refine An ?_;exact Zy4 J2 (s:=true) h
     ·dsimp only[go_sem];refine Zv2 5 ?_;dsimp only[go_sem];refine An (MC 36 h (fun h=>?_) fun h=>?_)
      ·dsimp only[go_sem];refine Zv2 15 ?_;dsimp only[go_sem];refine An ?_;exact Zy4 J2 (s:=true) h
      ·dsimp only[go_sem];refine Zv2 5 ?_;dsimp only[go_sem];refine An (MC 41 h (fun h=>?_) fun h=>?_)
       ·dsimp only[go_sem];refine Zv2 10 ?_;dsimp only[go_sem];refine An ?_;exact Zy4 J2 (s:=true) h
       ·dsimp only[go_sem];refine Zv2 3 ?_;dsimp only[go_sem];refine An (MC 44 h (fun h=>?_) fun h=>?_)
        ·dsimp only[go_sem];refine Zv2 7 ?_;dsimp only[go_sem];refine An ?_;exact Zy4 J2 (s:=!x1.Fork) h
        ·dsimp only[go_sem];refine Zv2 7 ?_;dsimp only[go_sem];refine An ?_;exact Zy4 J2 (s:=false) h
 ·refine MC 10 h (fun h=>?_) fun h=>?_
  ·dsimp only[go_sem];refine Zv2 8 ?_;dsimp only[go_sem];refine An ?_;exact Zy4 J1 (s:=!decide (x1.Peer=x3.ID)) h
  ·dsimp only[go_sem];refine Zv2 8 ?_;dsimp only[go_sem];refine An ?_;exact Zy4 J1 (s:=false) h
end
end NX
end Go.Proofs.YtdjkbodnjhgbcaaGreat
