/-
  The function narthex/sess.own, lent own memory. Written by a program of ours (lb.py). No statement of the seat is proved here.
-/
import Derived.Test.YtdjkbodnjhgbcaaGreatP17
import Derived.Test.YtdjkbodnjhgbcaaGreatP18
set_option maxRecDepth 100000
set_option maxHeartbeats 4000000
namespace Go.Proofs.YtdjkbodnjhgbcaaGreat
namespace NX
open Go
noncomputable section
def Znd:List Sess→Option (List Sess)
| x35=>
 some x35
def Zod (x2:List Sess):(Int×List Sess)→Option ((Int×List Sess) ⊕ (List Sess))
| (x8,x9)=>
 ifb (decide (x8<(ln Sess.row x2))) (
 (at_ x9 x8).bind fun x10=>
 (Zw7 x10.Need).bind fun x11=>
 some (.inl (wr (x8+1),x9.set (Int.toNat (x8)) (Sess.mk x10.ID x11 x10.State x10.Age)))) (
 Option.map Sum.inr (Znd x9))
def Zpd (x1:Book):Option (List Sess):=
 (Z98 x1.Sess).bind fun x2=>
 loop (Zod x2) (0,x2)
theorem Zqd (x1:Book) (r:List Sess) (h:Zpd x1=some r):Zq5 Tryz.prog 113 [.agg (Book.row x1)] [] [] (.agg [.iv x1.Last,.osl 0]) [] [Sq9 r]:=by
 refine FT ok113 fun w0 M0=>?_
 rw [Zpd] at h
 dsimp only[lun,List.cons_append,List.nil_append]
 refine Vg 9 ?_;have ⟨x2,ex2,h⟩:=Bs h;refine Z75 trivial (Za8 x1.Sess _ ex2) (h:=?_);refine Vg 11 ?_;refine Zo4 (fun (x35:List Sess)=>⟨(.any :: .ptr 0 0 :: .ptr 1 0::an 25 []),[some ⟨32,[.iv x1.Last,.osl 0]⟩,some ⟨32,[.iv 0,.nl]⟩],[Sq9 x35]⟩) Znd r ?_ fun J1=>?_
 ·intro x35 h;rw [Znd] at h;(try dsimp only);refine Vg 5 ?_;obtain rfl:=Option.some.inj h;exact Z47 ok113
 ·refine Vg 1 ?_;refine Zp4 h (fun ((x8,x9):(Int×List Sess))=>⟨(.any :: .ptr 0 0 :: .ptr 1 0::an 7 (.iv (ln Sess.row x2) :: .iv x8::an 16 [])),[some ⟨32,[.iv x1.Last,.osl 0]⟩,some ⟨32,[.iv 0,.nl]⟩],[Sq9 x9]⟩) (by simp [go_sem]) (by rintro ⟨x8,x9⟩;first | rfl | simp [go_sem]) ?_;rintro n1 ⟨x8,x9⟩ y1 h hin1 hout1;rw [Zod] at h;(try dsimp only);refine Vg 5 ?_;refine MI h (fun h=>?_) fun h=>?_
  ·refine Vg 8 ?_;refine Zz6 fun all H=>?_;refine Gn H 4 9 ?_;refine Z74 1 4 rfl ?_ ?_
   ·refine GV H.1 ?_;dsimp only[go_sem];refine GE H.1 4 ?_;dsimp only[go_sem];have ⟨x10,ex10,h⟩:=Bs h;refine Z64 6 rfl (GI H.1 Sess.row ex10 ?_);refine Gn H 1 5 ?_;refine Z64 8 rfl (GL H.1 Sess.row ex10 ?_);dsimp only[go_sem];refine Z64 9 rfl ?_;have ⟨x11,ex11,h⟩:=Bs h;refine GC H.1 (Zy7 x10.Need _ ex11) ?_
    dsimp only[go_sem];refine Z64 10 rfl (GI H.1 Sess.row ex10 ?_);refine Gn H 1 1 ?_;refine Z64 12 rfl (Zv5 H.1 [Sp0 x11] Sess.row (y':=(Sess.mk x10.ID x11 x10.State x10.Age)) ex10 rfl trivial rfl rfl rfl (by first | exact Zi4 _ | simp [go_sem]) rfl rfl rfl rfl ?_);dsimp only[go_sem];refine GD (Vg 5 ?_);exact Zw4 h hin1
   ·refine GV H.1 ?_;dsimp only[go_sem];have ⟨x10,ex10,h⟩:=Bs h;refine Z74 1 6 rfl ?_ ?_
    ·refine GV H.1 ?_;dsimp only[go_sem];refine Z64 6 rfl (GI H.1 Sess.row ex10 ?_);refine Gn H 1 5 ?_;refine Z64 8 rfl (GL H.1 Sess.row ex10 ?_);dsimp only[go_sem];refine Z64 9 rfl ?_;have ⟨x11,ex11,h⟩:=Bs h;refine GC H.1 (Zy7 x10.Need _ ex11) ?_;dsimp only[go_sem];refine Z64 10 rfl (GI H.1 Sess.row ex10 ?_)
     dsimp only[go_sem];refine Gn H 1 1 ?_;refine Z64 12 rfl (Zv5 H.1 [Sp0 x11] Sess.row (y':=(Sess.mk x10.ID x11 x10.State x10.Age)) ex10 rfl trivial rfl rfl rfl (by first | exact Zi4 _ | simp [go_sem]) rfl rfl rfl rfl ?_);dsimp only[go_sem];refine GD (Vg 5 ?_);exact Zw4 h hin1
    ·refine GI H.1 Sess.row ex10 ?_;refine Gn H 1 6 ?_;refine Z74 1 8 rfl ?_ ?_
     ·refine GV H.1 ?_;dsimp only[go_sem];refine Z64 8 rfl (GL H.1 Sess.row ex10 ?_);dsimp only[go_sem];refine Z64 9 rfl ?_;have ⟨x11,ex11,h⟩:=Bs h;refine GC H.1 (Zy7 x10.Need _ ex11) ?_;dsimp only[go_sem];refine Z64 10 rfl (GI H.1 Sess.row ex10 ?_);refine Gn H 1 1 ?_;refine Z64 12 rfl ?_
      refine Zv5 H.1 [Sp0 x11] Sess.row (y':=(Sess.mk x10.ID x11 x10.State x10.Age)) ex10 rfl trivial rfl rfl rfl (by first | exact Zi4 _ | simp [go_sem]) rfl rfl rfl rfl ?_;dsimp only[go_sem];refine GD (Vg 5 ?_);exact Zw4 h hin1
     ·refine GL H.1 Sess.row ex10 ?_;dsimp only[go_sem];have ⟨x11,ex11,h⟩:=Bs h;refine Z74 1 9 rfl ?_ ?_
      ·refine GV H.1 ?_;dsimp only[go_sem];refine Z64 9 rfl (GC H.1 (Zy7 x10.Need _ ex11) ?_);dsimp only[go_sem];refine Z64 10 rfl (GI H.1 Sess.row ex10 ?_);refine Gn H 1 1 ?_;refine Z64 12 rfl (Zv5 H.1 [Sp0 x11] Sess.row (y':=(Sess.mk x10.ID x11 x10.State x10.Age)) ex10 rfl trivial rfl rfl rfl (by first | exact Zi4 _ | simp [go_sem]) rfl rfl rfl rfl ?_)
       dsimp only[go_sem];refine GD (Vg 5 ?_);exact Zw4 h hin1
      ·refine GC H.1 (Zy7 x10.Need _ ex11) ?_;dsimp only[go_sem];refine GE H.1 1 ?_;dsimp only[go_sem];refine Z64 10 rfl (GI H.1 Sess.row ex10 ?_);refine Gn H 1 1 ?_;refine Z64 12 rfl (Zv5 H.1 [Sp0 x11] Sess.row (y':=(Sess.mk x10.ID x11 x10.State x10.Age)) ex10 rfl trivial rfl rfl rfl (by first | exact Zi4 _ | simp [go_sem]) rfl rfl rfl rfl ?_)
       dsimp only[go_sem];refine GD (Vg 5 ?_);exact Zw4 h hin1
  ·refine Vg 1 ?_;exact Zx4 J1 (Zn4 h hout1)
@[go_sem] def e100:EC:=(by have h:=hF Tryz.f100;(conv at h=>rhs;reduce);dsimp only[go_sem] at h;exact ⟨_,h⟩:DP Tryz.f100).1
theorem ok100:FnOK Tryz.prog 100 Tryz.f100 e100 [.t 2] 1 9:=okA
def Zrd:Bool→Option Bool
| x3=>
 some x3
def Zsd (x1:List Int):Option Bool:=
 ifb (decide (64<(ln Z05 x1))) (
 Zrd true) (
 (Zva x1 ((fun z=>Zb8 z))).bind fun x2=>
 Zrd x2)
theorem Ztd (x1:List Int) (r:Bool) (h:Zsd x1=some r):Z03 Tryz.prog 100 [Sp0 x1] (.bv r):=by
 refine FP ok100 fun w0 H0=>?_
 rw [Zsd] at h
 refine Vg 10 ?_;refine Zo4 (fun (x3:Bool)=>⟨(.any :: .any :: .bv x3::an 7 []),[],[]⟩) Zrd r ?_ fun J1=>?_
 ·intro x3 h;rw [Zrd] at h;(try dsimp only);exact MD ok100 h
 ·refine MC 6 h (fun h=>?_) fun h=>?_
  ·refine Vg 5 ?_;exact Zx4 J1 h
  ·refine Vg 1 ?_;have ⟨x2,ex2,h⟩:=Bs h;refine VC (Zwa x1 _ _ ((fun z=>Zb8 z)) ⟨by kernel_rfl,rfl,fun z r hz=>k_sess_odd_1 z r hz⟩ _ ex2) (Vg 3 ?_);exact Zx4 J1 h
def Zud:Int→Option (Int×Int)
| x19=>
 some ((-1),x19)
def Zvd (x1:List Side) (x3:DI):(Int×Int)→Option ((Int×Int) ⊕ (Int×Int))
| (x8,x9)=>
 ifb (decide (x8<(ln Side.row x1))) (
 (at_ x1 x8).bind fun x10=>
 (Zdb x10 x9 x3).bind fun x11=>
 ifb x11 (
 Option.map Sum.inr (some (x8,x10.Peer))) (
 some (.inl (wr (x8+1),x10.Peer)))) (
 Option.map Sum.inr (Zud x9))
def Zwd (x1:List Side) (x2:Int) (x3:DI):Option (Int×Int):=
 loop (Zvd x1 x3) (0,x2)
theorem Zxd (x1:List Side) (x2:Int) (x3:DI) (r:(Int×Int)) (h:Zwd x1 x2 x3=some r):Zq5 Tryz.prog 67 [Sp2 x1,.clo 140 [.ptr 0 0,.ptr 1 0]] [some ⟨3,[.iv x2]⟩,some ⟨25,DI.row x3⟩] [] (.iv r.1) [some ⟨3,[.iv r.2]⟩,some ⟨25,DI.row x3⟩] []:=by
 refine FT ok67 fun w0 M0=>?_
 rw [Zwd] at h
 dsimp only[lun,List.cons_append,List.nil_append]
 refine Vg 11 ?_;refine Zo4 (fun (x19:Int)=>⟨an 19 [],[some ⟨3,[.iv x19]⟩,some ⟨25,DI.row x3⟩],[]⟩) Zud r ?_ fun J1=>?_
 ·intro x19 h;rw [Zud] at h;(try dsimp only);refine Vg 4 ?_;obtain rfl:=Option.some.inj h;exact Z47 ok67
 ·refine Vg 1 ?_;refine Zp4 h (fun ((x8,x9):(Int×Int))=>⟨(Sp2 x1 :: .clo 140 [.ptr 0 0,.ptr 1 0]::an 5 (.iv (ln Side.row x1) :: .iv x8::an 10 [])),[some ⟨3,[.iv x9]⟩,some ⟨25,DI.row x3⟩],[]⟩) (by simp [go_sem]) (by rintro ⟨x8,x9⟩;first | rfl | simp [go_sem]) ?_;rintro n1 ⟨x8,x9⟩ y1 h hin1 hout1;rw [Zvd] at h;(try dsimp only);refine Vg 5 ?_;refine MI h (fun h=>?_) fun h=>?_
  ·refine Vg 13 ?_;have ⟨x10,ex10,h⟩:=Bs h;refine Zs4 Side.row ex10 trivial rfl rfl rfl (Vg 1 ?_);have ⟨x11,ex11,h⟩:=Bs h;refine Zt5 [true,true] [] trivial rfl (Zeb x10 x9 x3 _ ex11) (by kernel_rfl) (h:=?_);refine Vg 1 ?_;refine MI h (fun h=>?_) fun h=>?_
   ·refine Vg 5 ?_;obtain rfl:=Option.some.inj (Zn4 h hout1);exact Z47 ok67
   ·refine Vg 6 ?_;exact Zw4 h hin1
  ·refine Vg 1 ?_;exact Zx4 J1 (Zn4 h hout1)
@[go_sem] def e95:EC:=(by have h:=hF Tryz.f95;(conv at h=>rhs;reduce);dsimp only[go_sem] at h;exact ⟨_,h⟩:DP Tryz.f95).1
theorem ok95:FnOK Tryz.prog 95 Tryz.f95 e95 [.t 3] 2 8:=okA
def Zyd (x1:Int) (x2:DK):Option Bool:=
 (Zpa x2.DI.SD ((fun z=>Zo8 z x1))).bind fun x3=>
 some (!x3)
theorem Zzd (x1:Int) (x2:DK) (r:Bool) (h:Zyd x1 x2=some r):Z03 Tryz.prog 95 [.iv x1,.elt (DK.row x2) 0] (.bv r):=by
 refine FP ok95 fun w0 H0=>?_
 rw [Zyd] at h
 refine Vg 11 ?_;have ⟨x3,ex3,h⟩:=Bs h;refine VL (LR.block 0 rfl rfl) (Zqa x2.DI.SD _ _ ((fun z=>Zo8 z x1)) ⟨by kernel_rfl,rfl,fun z r hz=>Zp8 z x1 r hz⟩ _ ex3) (Vg 3 ?_);exact MD ok95 h
@[go_sem] def e58:EC:=(by have h:=hF Tryz.f58;(conv at h=>rhs;reduce);dsimp only[go_sem] at h;exact ⟨_,h⟩:DP Tryz.f58).1
theorem ok58:FnOK Tryz.prog 58 Tryz.f58 e58 [.t 4] 2 22:=okA
def Z0e:Bool→Option Bool
| x5=>
 some x5
def Z1e (x1 x2:DK):Option Bool:=
 (Zib x1.DI x2.DI).bind fun x3=>
 ifb x3 (
 ifb (decide (x1.TH=x2.TH)) (
 (Zs8 x1.Need x2.Need).bind fun x4=>
 Z0e x4) (
 Z0e false)) (
 Z0e false)
theorem Z2e (x1 x2:DK) (r:Bool) (h:Z1e x1 x2=some r):Z03 Tryz.prog 58 [.agg (DK.row x1),.agg (DK.row x2)] (.bv r):=by
 refine FP ok58 fun w0 H0=>?_
 rw [Z1e] at h
 refine Vg 12 ?_;have ⟨x3,ex3,h⟩:=Bs h;refine VC (k_dine_Same x1.DI x2.DI _ ex3) (Vg 1 ?_);refine Zo4 (fun (x5:Bool)=>⟨an 4 (.bv x5::an 19 []),[],[]⟩) Z0e r ?_ fun J1=>?_
 ·intro x5 h;rw [Z0e] at h;(try dsimp only);exact MD ok58 h
 ·refine MC 10 h (fun h=>?_) fun h=>?_
  ·refine Vg 7 ?_;refine MC 17 h (fun h=>?_) fun h=>?_
   ·refine Vg 4 ?_;have ⟨x4,ex4,h⟩:=Bs h;refine VC (Zt8 x1.Need x2.Need _ ex4) (Vg 3 ?_);exact Zx4 J1 h
   ·refine Vg 8 ?_;exact Zx4 J1 h
  ·refine Vg 15 ?_;exact Zx4 J1 h
def Z3e (x4:List Side) (x5:List Int) (x9:List KE) (x10:List Int) (x11:List KE):List Sess→Option (List Side×List Int×List KE×List Int×List KE×List Sess)
| x39=>
 some (x4,x5,x9,x10,x11,x39)
def Z4e (x19:Int):List Sess→Option ((Int×List Sess) ⊕ (List Side×List Int×List KE×List Int×List KE×List Sess))
| x24=>
 some (.inl (wr (x19+1),x24))
def Z5e (x4:List Side) (x5:List Int) (x9:List KE) (x10:List Int) (x11:List KE) (x12:List Sess):(Int×List Sess)→Option ((Int×List Sess) ⊕ (List Side×List Int×List KE×List Int×List KE×List Sess))
| (x19,x20)=>
 ifb (decide (x19<(ln Sess.row x12))) (
 (at_ x20 x19).bind fun x21=>
 (Zw7 x21.Need).bind fun x22=>
 (Z4e x19) (x20.set (Int.toNat (x19)) (Sess.mk x21.ID x22 x21.State x21.Age))) (
 Option.map Sum.inr ((Z3e x4 x5 x9 x10 x11) x20))
def Z6e (x1:Node) (x4:List Side) (x5:List Int):(List KE×List Int×List KE)→Option (List Side×List Int×List KE×List Int×List KE×List Sess)
| (x9,x10,x11)=>
 (Z98 x1.Book.Sess).bind fun x12=>
 loop (Z5e x4 x5 x9 x10 x11 x12) (0,x12)
def Z7e (x1:Node):(List Side×List Int)→Option (List Side×List Int×List KE×List Int×List KE×List Sess)
| (x4,x5)=>
 (Zu8 x1.KN).bind fun x6=>
 (Zw7 x1.Told).bind fun x7=>
 (Zu8 x1.AK).bind fun x8=>
 (Z6e x1 x4 x5) (x6,x7,x8)
def Z8e (x1:Node):Option (List Side×List Int×List KE×List Int×List KE×List Sess):=
 (Zj8 x1.DK.DI.SD).bind fun x2=>
 (Zw7 x1.DK.Need).bind fun x3=>
 (Z7e x1) (x2,x3)
theorem Z9e (x1:Node) (r:(List Side×List Int×List KE×List Int×List KE×List Sess)) (h:Z8e x1=some r):Zq5 Tryz.prog 29 [.agg (Node.row x1)] [] [] (.agg [.iv x1.DK.DI.ID,.iv x1.DK.DI.PH,.osl 0,.iv x1.DK.TH,.osl 1,.iv x1.Book.Last,.osl 5,.osl 2,.osl 3,.osl 4]) [] [Sq6 r.1,Sq7 r.2.1,Sq8 r.2.2.1,Sq7 r.2.2.2.1,Sq8 r.2.2.2.2.1,Sq9 r.2.2.2.2.2]:=by
 refine FT ok29 fun w0 M0=>?_
 rw [Z8e] at h
 dsimp only[lun,List.cons_append,List.nil_append]
 refine Vg 6 ?_
 refine Zo4 (fun ((x4,x5):(List Side×List Int))=>⟨(.any :: .ptr 0 0 :: .ptr 1 0::an 56 []),[some ⟨35,[.iv x1.DK.DI.ID,.iv x1.DK.DI.PH,.osl 0,.iv x1.DK.TH,.osl 1,.iv x1.Book.Last,Sp3 x1.Book.Sess,Sp1 x1.KN,Sp0 x1.Told,Sp1 x1.AK]⟩,some ⟨35,[.iv 0,.iv 0,.nl,.iv 0,.nl,.iv 0,.nl,.nl,.nl,.nl]⟩],[Sq6 x4,Sq7 x5]⟩) (Z7e x1) r ?_ fun J1=>?_
 ·rintro ⟨x4,x5⟩ h;rw [Z7e] at h;(try dsimp only);refine Vg 1 ?_
  refine Zo4 (fun ((x9,x10,x11):(List KE×List Int×List KE))=>⟨(.any :: .ptr 0 0 :: .ptr 1 0::an 56 []),[some ⟨35,[.iv x1.DK.DI.ID,.iv x1.DK.DI.PH,.osl 0,.iv x1.DK.TH,.osl 1,.iv x1.Book.Last,Sp3 x1.Book.Sess,.osl 2,.osl 3,.osl 4]⟩,some ⟨35,[.iv 0,.iv 0,.nl,.iv 0,.nl,.iv 0,.nl,.nl,.nl,.nl]⟩],[Sq6 x4,Sq7 x5,Sq8 x9,Sq7 x10,Sq8 x11]⟩) (Z6e x1 x4 x5) r ?_ fun J2=>?_
  ·rintro ⟨x9,x10,x11⟩ h;rw [Z6e] at h;(try dsimp only);refine Vg 5 ?_;have ⟨x12,ex12,h⟩:=Bs h;refine Z75 trivial (Za8 x1.Book.Sess _ ex12) (h:=?_);refine Vg 13 ?_
   refine Zo4 (fun (x39:List Sess)=>⟨(.any :: .ptr 0 0 :: .ptr 1 0::an 56 []),[some ⟨35,[.iv x1.DK.DI.ID,.iv x1.DK.DI.PH,.osl 0,.iv x1.DK.TH,.osl 1,.iv x1.Book.Last,.osl 5,.osl 2,.osl 3,.osl 4]⟩,some ⟨35,[.iv 0,.iv 0,.nl,.iv 0,.nl,.iv 0,.nl,.nl,.nl,.nl]⟩],[Sq6 x4,Sq7 x5,Sq8 x9,Sq7 x10,Sq8 x11,Sq9 x39]⟩) (Z3e x4 x5 x9 x10 x11) r ?_ fun J3=>?_
   ·intro x39 h;rw [Z3e] at h;(try dsimp only);refine Vg 5 ?_;obtain rfl:=Option.some.inj h;exact Z47 ok29
   ·refine Vg 1 ?_
    refine Zp4 h (fun ((x19,x20):(Int×List Sess))=>⟨(.any :: .ptr 0 0 :: .ptr 1 0::an 36 (.iv (ln Sess.row x12) :: .iv x19::an 18 [])),[some ⟨35,[.iv x1.DK.DI.ID,.iv x1.DK.DI.PH,.osl 0,.iv x1.DK.TH,.osl 1,.iv x1.Book.Last,.osl 5,.osl 2,.osl 3,.osl 4]⟩,some ⟨35,[.iv 0,.iv 0,.nl,.iv 0,.nl,.iv 0,.nl,.nl,.nl,.nl]⟩],[Sq6 x4,Sq7 x5,Sq8 x9,Sq7 x10,Sq8 x11,Sq9 x20]⟩) (by simp [go_sem]) (by rintro ⟨x19,x20⟩;first | rfl | simp [go_sem]) ?_
    rintro n1 ⟨x19,x20⟩ y1 h hin1 hout1;rw [Z5e] at h;(try dsimp only);refine Vg 5 ?_;refine MI h (fun h=>?_) fun h=>?_
    ·refine Vg 8 ?_
     refine Zo4 (fun (x24:List Sess)=>⟨(.any :: .ptr 0 0 :: .ptr 1 0::an 36 (.iv (ln Sess.row x12) :: .iv x19::an 18 [])),[some ⟨35,[.iv x1.DK.DI.ID,.iv x1.DK.DI.PH,.osl 0,.iv x1.DK.TH,.osl 1,.iv x1.Book.Last,.osl 5,.osl 2,.osl 3,.osl 4]⟩,some ⟨35,[.iv 0,.iv 0,.nl,.iv 0,.nl,.iv 0,.nl,.nl,.nl,.nl]⟩],[Sq6 x4,Sq7 x5,Sq8 x9,Sq7 x10,Sq8 x11,Sq9 x24]⟩) (Z4e x19) y1 ?_ fun J4=>?_
     ·intro x24 h;rw [Z4e] at h;(try dsimp only);refine Vg 5 ?_;exact Zw4 h hin1
     ·refine Zz6 fun all H=>?_;dsimp only[go_sem];refine GP H 6 9 [2,1,3,1,1,7] [(43,[.ptr 0 5,.ptr 0 6]),(1,[.iv x19,.ptr 0 5,.ptr 0 6]),(1,[.iv x19])] ?_;dsimp only[go_sem];refine Z74 2 6 rfl ?_ ?_
      ·refine GV H.1 ?_;dsimp only[go_sem];refine GE H.1 6 ?_;dsimp only[go_sem];have ⟨x21,ex21,h⟩:=Bs h;refine Z64 8 rfl (GI H.1 Sess.row ex21 ?_);refine Gn H 1 5 ?_;refine Z64 10 rfl (GL H.1 Sess.row ex21 ?_);dsimp only[go_sem];refine Z64 11 rfl ?_;have ⟨x22,ex22,h⟩:=Bs h;refine GC H.1 (Zy7 x21.Need _ ex22) ?_
       dsimp only[go_sem];refine Z64 12 rfl (GI H.1 Sess.row ex21 ?_);refine Gn H 1 1 ?_;refine Z64 14 rfl (Zv5 H.1 [Sp0 x22] Sess.row (y':=(Sess.mk x21.ID x22 x21.State x21.Age)) ex21 rfl trivial rfl rfl rfl (by first | exact Zi4 _ | simp [go_sem]) rfl rfl rfl rfl ?_);dsimp only[go_sem];refine GD ?_;exact Zx4 J4 h
      ·refine GV H.1 ?_;dsimp only[go_sem];have ⟨x21,ex21,h⟩:=Bs h;refine Z74 2 8 rfl ?_ ?_
       ·refine GV H.1 ?_;dsimp only[go_sem];refine Z64 8 rfl (GI H.1 Sess.row ex21 ?_);refine Gn H 1 5 ?_;refine Z64 10 rfl (GL H.1 Sess.row ex21 ?_);dsimp only[go_sem];refine Z64 11 rfl ?_;have ⟨x22,ex22,h⟩:=Bs h;refine GC H.1 (Zy7 x21.Need _ ex22) ?_;dsimp only[go_sem];refine Z64 12 rfl (GI H.1 Sess.row ex21 ?_)
        dsimp only[go_sem];refine Gn H 1 1 ?_;refine Z64 14 rfl (Zv5 H.1 [Sp0 x22] Sess.row (y':=(Sess.mk x21.ID x22 x21.State x21.Age)) ex21 rfl trivial rfl rfl rfl (by first | exact Zi4 _ | simp [go_sem]) rfl rfl rfl rfl ?_);dsimp only[go_sem];refine GD ?_;exact Zx4 J4 h
       ·refine GI H.1 Sess.row ex21 ?_;refine Gn H 1 6 ?_;refine Z74 2 10 rfl ?_ ?_
        ·refine GV H.1 ?_;dsimp only[go_sem];refine Z64 10 rfl (GL H.1 Sess.row ex21 ?_);dsimp only[go_sem];refine Z64 11 rfl ?_;have ⟨x22,ex22,h⟩:=Bs h;refine GC H.1 (Zy7 x21.Need _ ex22) ?_;dsimp only[go_sem];refine Z64 12 rfl (GI H.1 Sess.row ex21 ?_);refine Gn H 1 1 ?_;refine Z64 14 rfl ?_
         refine Zv5 H.1 [Sp0 x22] Sess.row (y':=(Sess.mk x21.ID x22 x21.State x21.Age)) ex21 rfl trivial rfl rfl rfl (by first | exact Zi4 _ | simp [go_sem]) rfl rfl rfl rfl ?_;dsimp only[go_sem];refine GD ?_;exact Zx4 J4 h
        ·refine GL H.1 Sess.row ex21 ?_;dsimp only[go_sem];have ⟨x22,ex22,h⟩:=Bs h;refine Z74 2 11 rfl ?_ ?_
         ·refine GV H.1 ?_;dsimp only[go_sem];refine Z64 11 rfl (GC H.1 (Zy7 x21.Need _ ex22) ?_);dsimp only[go_sem];refine Z64 12 rfl (GI H.1 Sess.row ex21 ?_);refine Gn H 1 1 ?_;refine Z64 14 rfl ?_
          refine Zv5 H.1 [Sp0 x22] Sess.row (y':=(Sess.mk x21.ID x22 x21.State x21.Age)) ex21 rfl trivial rfl rfl rfl (by first | exact Zi4 _ | simp [go_sem]) rfl rfl rfl rfl ?_;dsimp only[go_sem];refine GD ?_;exact Zx4 J4 h
         ·refine GC H.1 (Zy7 x21.Need _ ex22) ?_;dsimp only[go_sem];refine GE H.1 2 ?_;dsimp only[go_sem];refine Z64 12 rfl (GI H.1 Sess.row ex21 ?_);refine Gn H 1 1 ?_;refine Z64 14 rfl ?_
          refine Zv5 H.1 [Sp0 x22] Sess.row (y':=(Sess.mk x21.ID x22 x21.State x21.Age)) ex21 rfl trivial rfl rfl rfl (by first | exact Zi4 _ | simp [go_sem]) rfl rfl rfl rfl ?_;dsimp only[go_sem];refine GD ?_;exact Zx4 J4 h
    ·refine Vg 1 ?_;exact Zx4 J3 (Zn4 h hout1)
  ·refine Zz6 fun all H=>?_;dsimp only[go_sem];refine GP H 6 9 [2,1,2,1,2,7] [(18,[.ptr 0 7,Sp1 x1.KN]),(1,[.ptr 0 8,Sp0 x1.Told]),(1,[.ptr 0 9,Sp1 x1.AK])] ?_;dsimp only[go_sem];refine Z64 2 rfl ?_;have ⟨x6,ex6,h⟩:=Bs h;refine Z85 H.1 rfl trivial (Zv8 x1.KN _ ex6) (h:=?_);refine Gn H 1 7 ?_;refine Z64 5 rfl ?_
   have ⟨x7,ex7,h⟩:=Bs h;refine Z85 H.1 rfl trivial (Zx7 x1.Told _ ex7) (h:=?_);dsimp only[go_sem];refine Z64 8 rfl ?_;have ⟨x8,ex8,h⟩:=Bs h;refine Z85 H.1 rfl trivial (Zv8 x1.AK _ ex8) (h:=?_);dsimp only[go_sem];refine GE H.1 10 ?_;refine Gn H 1 3 ?_;refine GE H.1 12 ?_;refine Gn H 1 1 ?_
   refine GE H.1 14 ?_;dsimp only[go_sem];refine GD ?_;exact Zx4 J2 h
 ·refine Zz6 fun all H=>?_;dsimp only[go_sem];refine GP H 7 9 [4,1,3,8] [(4,[.ptr 0 0,.ptr 0 0,.ptr 0 2,Sp2 x1.DK.DI.SD]),(1,[.ptr 0 0,.ptr 0 4,Sp0 x1.DK.Need])] ?_;dsimp only[go_sem];refine Z64 4 rfl ?_;have ⟨x2,ex2,h⟩:=Bs h;refine Z85 H.1 rfl trivial (Zk8 x1.DK.DI.SD _ ex2) (h:=?_);refine Gn H 3 5 ?_;refine Z64 8 rfl ?_
  have ⟨x3,ex3,h⟩:=Bs h;refine Z85 H.1 rfl trivial (Zx7 x1.DK.Need _ ex3) (h:=?_);dsimp only[go_sem];refine GE H.1 12 ?_;refine Gn H 2 1 ?_;refine GE H.1 15 ?_;dsimp only[go_sem];refine GD ?_;exact Zx4 J1 h
def Zae (x1 x2:Int) (x3 x4:Int) (x5:List Sess) (x6:List Side) (x7:List Int) (x8:List KE) (x9:List Int) (x10:List KE):Option (List Int):=
 (Zsb x1 x2 x3 x4 x5 x6 x7 x8 x9 x10 ((fun z=>Z19 z))).bind fun x11=>
 some x11
theorem Zbe (x1 x2:Int) (x3 x4:Int) (x5:List Sess) (x6:List Side) (x7:List Int) (x8:List KE) (x9:List Int) (x10:List KE) (r:List Int) (h:Zae x1 x2 x3 x4 x5 x6 x7 x8 x9 x10=some r):Zq5 Tryz.prog 21 [.agg [.iv x1,.iv x2,.osl 0,.iv x3,.osl 1,.iv x4,Sp3 x5,.osl 2,.osl 3,.osl 4]] [] [Sq6 x6,Sq7 x7,Sq8 x8,Sq7 x9,Sq8 x10] (.osl 5) [] [Sq6 x6,Sq7 x7,Sq8 x8,Sq7 x9,Sq8 x10,Sq7 r]:=by
 refine FT ok21 fun w0 M0=>?_
 rw [Zae] at h
 dsimp only[lun,List.cons_append,List.nil_append]
 refine Vg 8 ?_;have ⟨x11,ex11,h⟩:=Bs h;refine Z67 [] [0,1,2,3,4] 1 5 (Ztb x1 x2 x3 x4 x5 x6 x7 x8 x9 x10 _ _ ((fun z=>Z19 z)) ⟨by kernel_rfl,rfl,fun z r hz=>Z29 z r hz⟩ _ ex11) ?_;refine Vg 2 ?_;obtain rfl:=Option.some.inj h;exact Z47 ok21
def Zce (x14:(Bool×Int)):(Int×List Sess)→Option (Bool×Int×List Sess×Int)
| (x15,x16)=>
 some (decide (x14.2=0),x15,x16,x14.2)
def Zde (x1:Book) (x2:Int) (x3 x4:Int) (x5 x6:Int) (x7:List Sess) (x8:Int) (x9:List Side) (x10:List Int) (x11:List KE) (x12:List Int) (x13:List KE):Option (Bool×Int×List Sess×Int):=
 (Znb (decide (x2=0)) x2 x3 x4 x5 x6 x7 x8 x9 x10 x11 x12 x13).bind fun x14=>
 ifb x14.1 (
 (Zce x14) (x1.Last,x1.Sess)) (
 (Zce x14) (x6,x7))
theorem Zee (x1:Book) (x2:Int) (x3 x4:Int) (x5 x6:Int) (x7:List Sess) (x8:Int) (x9:List Side) (x10:List Int) (x11:List KE) (x12:List Int) (x13:List KE) (r:(Bool×Int×List Sess×Int)) (h:Zde x1 x2 x3 x4 x5 x6 x7 x8 x9 x10 x11 x12 x13=some r):Zq5 Tryz.prog 72 [.ptr 0 0,.agg (Book.row x1),.iv x2] [some ⟨81,[.iv x3,.iv x4,.osl 0,.iv x5,.osl 1,.iv x6,Sp3 x7,.osl 2,.osl 3,.osl 4,.nl,.nl,.iv x8]⟩] [Sq6 x9,Sq7 x10,Sq8 x11,Sq7 x12,Sq8 x13] (.bv r.1) [some ⟨81,[.iv x3,.iv x4,.osl 0,.iv x5,.osl 1,.iv r.2.1,Sp3 r.2.2.1,.osl 2,.osl 3,.osl 4,.nl,.nl,.iv r.2.2.2]⟩] [Sq6 x9,Sq7 x10,Sq8 x11,Sq7 x12,Sq8 x13]:=by
 refine FT ok72 fun w0 M0=>?_
 rw [Zde] at h
 dsimp only[lun,List.cons_append,List.nil_append]
 refine Vg 12 ?_;have ⟨x14,ex14,h⟩:=Bs h;refine Z67 [0] [0,1,2,3,4] 2 5 (Zob (decide (x2=0)) x2 x3 x4 x5 x6 x7 x8 x9 x10 x11 x12 x13 _ ex14) ?_;refine Vg 1 ?_
 refine Zo4 (fun ((x15,x16):(Int×List Sess))=>⟨(.ptr 0 0::an 21 []),[some ⟨81,[.iv x3,.iv x4,.osl 0,.iv x5,.osl 1,.iv x15,Sp3 x16,.osl 2,.osl 3,.osl 4,.nl,.nl,.iv x14.2]⟩],[Sq6 x9,Sq7 x10,Sq8 x11,Sq7 x12,Sq8 x13]⟩) (Zce x14) r ?_ fun J1=>?_
 ·rintro ⟨x15,x16⟩ h;rw [Zce] at h;(try dsimp only);refine Vg 9 ?_;obtain rfl:=Option.some.inj h;exact Z47 ok72
 ·refine MI h (fun h=>?_) fun h=>?_
  ·refine Vg 8 ?_;exact Zx4 J1 h
  ·refine Vg 1 ?_;exact Zx4 J1 h
def Zfe:(List Side×List Int)→Option (List Side×List Int)
| (x9,x10)=>
 some (x9,x10)
def Zge (_x1 _x2 _x3:Int) (x4:List Side) (x5:List Int):Option (List Side×List Int):=
 (Zj8 x4).bind fun x6=>
 (Zw7 x5).bind fun x8=>
 Zfe (x6,x8)
theorem Zhe (x1 x2 x3:Int) (x4:List Side) (x5:List Int) (r:(List Side×List Int)) (h:Zge x1 x2 x3 x4 x5=some r):Zq5 Tryz.prog 134 [.agg [.iv x1,.iv x2,.osl 0,.iv x3,.osl 1]] [] [Sq6 x4,Sq7 x5] (.agg [.iv x1,.iv x2,.osl 2,.iv x3,.osl 3]) [] [Sq6 x4,Sq7 x5,Sq6 r.1,Sq7 r.2]:=by
 refine FT ok134 fun w0 M0=>?_
 rw [Zge] at h
 dsimp only[lun,List.cons_append,List.nil_append]
 refine Vg 6 ?_;refine Zo4 (fun ((x9,x10):(List Side×List Int))=>⟨(.any :: .ptr 0 0 :: .ptr 1 0::an 11 []),[some ⟨29,[.iv x1,.iv x2,.osl 2,.iv x3,.osl 3]⟩,some ⟨29,[.iv 0,.iv 0,.nl,.iv 0,.nl]⟩],[Sq6 x4,Sq7 x5,Sq6 x9,Sq7 x10]⟩) Zfe r ?_ fun J1=>?_
 ·rintro ⟨x9,x10⟩ h;rw [Zfe] at h;(try dsimp only);refine Vg 5 ?_;obtain rfl:=Option.some.inj h;exact Z47 ok134
 ·refine Zz6 fun all H=>?_;refine Gn H 3 9 ?_;refine Z74 2 5 rfl ?_ ?_
  ·refine GV H.1 ?_;dsimp only[go_sem];have ⟨x6,ex6,h⟩:=Bs h;refine Z74 3 5 rfl ?_ ?_
   ·refine Z77 H.1 [] [0] 2 2 (Zwb x4 _ ex6) ?_;dsimp only[go_sem];refine GE H.1 5 ?_;refine Gn H 2 4 ?_;refine Z64 6 rfl ?_;have ⟨x8,ex8,h⟩:=Bs h;refine Z77 H.1 [] [1] 2 3 (Zxb x5 _ ex8) ?_;dsimp only[go_sem];refine GE H.1 9 ?_;dsimp only[go_sem]
    refine Gn H 1 1 ?_;refine GE H.1 11 ?_;dsimp only[go_sem];refine GD ?_;exact Zx4 J1 h
   ·refine GV H.1 ?_;dsimp only[go_sem];refine Z64 3 rfl (Z77 H.1 [] [0] 2 2 (Zwb x4 _ ex6) ?_);refine Gn H 2 4 ?_;refine Z64 6 rfl ?_;have ⟨x8,ex8,h⟩:=Bs h;refine Z77 H.1 [] [1] 2 3 (Zxb x5 _ ex8) ?_;dsimp only[go_sem];refine GE H.1 9 ?_;dsimp only[go_sem]
    refine Gn H 1 1 ?_;refine GE H.1 11 ?_;dsimp only[go_sem];refine GD ?_;exact Zx4 J1 h
  ·refine GV H.1 ?_;dsimp only[go_sem];refine GE H.1 2 ?_;dsimp only[go_sem];refine Z64 3 rfl ?_;have ⟨x6,ex6,h⟩:=Bs h;refine Z77 H.1 [] [0] 2 2 (Zwb x4 _ ex6) ?_;refine Gn H 2 4 ?_;refine Z64 6 rfl ?_;have ⟨x7,ex7,h⟩:=Bs h;refine Z77 H.1 [] [1] 2 3 (Zxb x5 _ ex7) ?_
   dsimp only[go_sem];refine GE H.1 9 ?_;refine Gn H 1 1 ?_;refine GE H.1 11 ?_;dsimp only[go_sem];refine GD ?_;exact Zx4 J1 h
@[go_sem] def e48:EC:=(by have h:=hF Tryz.f48;(conv at h=>rhs;reduce);dsimp only[go_sem] at h;exact ⟨_,h⟩:DP Tryz.f48).1
theorem ok48:FnOK Tryz.prog 48 Tryz.f48 e48 [] 2 17:=okA
@[go_sem] def e59:EC:=(by have h:=hF Tryz.f59;(conv at h=>rhs;reduce);dsimp only[go_sem] at h;exact ⟨_,h⟩:DP Tryz.f59).1
theorem ok59:FnOK Tryz.prog 59 Tryz.f59 e59 [.t 4] 2 15:=okA
def Zie:Bool→Option Bool
| x4=>
 some x4
def Zje (x1 x2:Book):Option Bool:=
 ifb (decide (x1.Last=x2.Last)) (
 (Zq9 x1.Sess x2.Sess ((fun z=>Zhc z.1 z.2))).bind fun x3=>
 Zie x3) (
 Zie false)
theorem k_sess_Same (x1 x2:Book) (r:Bool) (h:Zje x1 x2=some r):Z03 Tryz.prog 59 [.agg (Book.row x1),.agg (Book.row x2)] (.bv r):=by
 refine FP ok59 fun w0 H0=>?_
 rw [Zje] at h
 refine Vg 14 ?_;refine Zo4 (fun (x4:Bool)=>⟨an 4 (.bv x4::an 12 []),[],[]⟩) Zie r ?_ fun J1=>?_
 ·intro x4 h;rw [Zie] at h;(try dsimp only);exact MD ok59 h
 ·refine MC 10 h (fun h=>?_) fun h=>?_
  ·refine Vg 4 ?_;have ⟨x3,ex3,h⟩:=Bs h;refine VC (Zr9 x1.Sess x2.Sess _ _ ((fun z=>Zhc z.1 z.2)) ⟨by kernel_rfl,rfl,fun z r hz=>k_sess_Same_1 z.1 z.2 r hz⟩ _ ex3) (Vg 3 ?_);exact Zx4 J1 h
  ·refine Vg 8 ?_;exact Zx4 J1 h
def Zke (x14:List Side) (x15:List Int) (x21:List KE) (x22:List Int) (x23:List KE):List Sess→Option (List Side×List Int×List KE×List Int×List KE×List Sess)
| x55=>
 some (x14,x15,x21,x22,x23,x55)
def Zle (x31:Int):List Sess→Option ((Int×List Sess) ⊕ (List Side×List Int×List KE×List Int×List KE×List Sess))
| x36=>
 some (.inl (wr (x31+1),x36))
def Zme (x14:List Side) (x15:List Int) (x21:List KE) (x22:List Int) (x23:List KE) (x24:List Sess):(Int×List Sess)→Option ((Int×List Sess) ⊕ (List Side×List Int×List KE×List Int×List KE×List Sess))
| (x31,x32)=>
 ifb (decide (x31<(ln Sess.row x24))) (
 (at_ x32 x31).bind fun x33=>
 (Zw7 x33.Need).bind fun x34=>
 (Zle x31) (x32.set (Int.toNat (x31)) (Sess.mk x33.ID x34 x33.State x33.Age))) (
 Option.map Sum.inr ((Zke x14 x15 x21 x22 x23) x32))
def Zne (x5:List Sess) (x14:List Side) (x15:List Int):(List KE×List Int×List KE)→Option (List Side×List Int×List KE×List Int×List KE×List Sess)
| (x21,x22,x23)=>
 (Z98 x5).bind fun x24=>
 loop (Zme x14 x15 x21 x22 x23 x24) (0,x24)
def Zoe (x5:List Sess) (x6:List Int) (x9 x10:List KE):(List Side×List Int)→Option (List Side×List Int×List KE×List Int×List KE×List Sess)
| (x14,x15)=>
 (Zu8 x9).bind fun x16=>
 (Zw7 x6).bind fun x18=>
 (Zu8 x10).bind fun x20=>
 (Zne x5 x14 x15) (x16,x18,x20)
def Zpe (_x1 _x2:Int) (_x3 _x4:Int) (x5:List Sess) (x6:List Int) (x7:List Side) (x8:List Int) (x9 x10:List KE):Option (List Side×List Int×List KE×List Int×List KE×List Sess):=
 (Zj8 x7).bind fun x11=>
 (Zw7 x8).bind fun x13=>
 (Zoe x5 x6 x9 x10) (x11,x13)
theorem t_node_own_I3 (x1 x2:Int) (x3 x4:Int) (x5:List Sess) (x6:List Int) (x7:List Side) (x8:List Int) (x9 x10:List KE) (r:(List Side×List Int×List KE×List Int×List KE×List Sess)) (h:Zpe x1 x2 x3 x4 x5 x6 x7 x8 x9 x10=some r):Zq5 Tryz.prog 29 [.agg [.iv x1,.iv x2,.osl 0,.iv x3,.osl 1,.iv x4,Sp3 x5,.osl 2,Sp0 x6,.osl 3]] [] [Sq6 x7,Sq7 x8,Sq8 x9,Sq8 x10] (.agg [.iv x1,.iv x2,.osl 4,.iv x3,.osl 5,.iv x4,.osl 9,.osl 6,.osl 7,.osl 8]) [] [Sq6 x7,Sq7 x8,Sq8 x9,Sq8 x10,Sq6 r.1,Sq7 r.2.1,Sq8 r.2.2.1,Sq7 r.2.2.2.1,Sq8 r.2.2.2.2.1,Sq9 r.2.2.2.2.2]:=by
 refine FT ok29 fun w0 M0=>?_
 rw [Zpe] at h
 dsimp only[lun,List.cons_append,List.nil_append]
 refine Vg 6 ?_
 refine Zo4 (fun ((x14,x15):(List Side×List Int))=>⟨(.any :: .ptr 0 0 :: .ptr 1 0::an 56 []),[some ⟨35,[.iv x1,.iv x2,.osl 4,.iv x3,.osl 5,.iv x4,Sp3 x5,.osl 2,Sp0 x6,.osl 3]⟩,some ⟨35,[.iv 0,.iv 0,.nl,.iv 0,.nl,.iv 0,.nl,.nl,.nl,.nl]⟩],[Sq6 x7,Sq7 x8,Sq8 x9,Sq8 x10,Sq6 x14,Sq7 x15]⟩) (Zoe x5 x6 x9 x10) r ?_ fun J1=>?_
 ·rintro ⟨x14,x15⟩ h;rw [Zoe] at h;(try dsimp only);refine Vg 1 ?_
  refine Zo4 (fun ((x21,x22,x23):(List KE×List Int×List KE))=>⟨(.any :: .ptr 0 0 :: .ptr 1 0::an 56 []),[some ⟨35,[.iv x1,.iv x2,.osl 4,.iv x3,.osl 5,.iv x4,Sp3 x5,.osl 6,.osl 7,.osl 8]⟩,some ⟨35,[.iv 0,.iv 0,.nl,.iv 0,.nl,.iv 0,.nl,.nl,.nl,.nl]⟩],[Sq6 x7,Sq7 x8,Sq8 x9,Sq8 x10,Sq6 x14,Sq7 x15,Sq8 x21,Sq7 x22,Sq8 x23]⟩) (Zne x5 x14 x15) r ?_ fun J2=>?_
  ·rintro ⟨x21,x22,x23⟩ h;rw [Zne] at h;(try dsimp only);refine Vg 5 ?_;have ⟨x24,ex24,h⟩:=Bs h;refine Z75 trivial (Za8 x5 _ ex24) (h:=?_);refine Vg 13 ?_
   refine Zo4 (fun (x55:List Sess)=>⟨(.any :: .ptr 0 0 :: .ptr 1 0::an 56 []),[some ⟨35,[.iv x1,.iv x2,.osl 4,.iv x3,.osl 5,.iv x4,.osl 9,.osl 6,.osl 7,.osl 8]⟩,some ⟨35,[.iv 0,.iv 0,.nl,.iv 0,.nl,.iv 0,.nl,.nl,.nl,.nl]⟩],[Sq6 x7,Sq7 x8,Sq8 x9,Sq8 x10,Sq6 x14,Sq7 x15,Sq8 x21,Sq7 x22,Sq8 x23,Sq9 x55]⟩) (Zke x14 x15 x21 x22 x23) r ?_ fun J3=>?_
   ·intro x55 h;rw [Zke] at h;(try dsimp only);refine Vg 5 ?_;obtain rfl:=Option.some.inj h;exact Z47 ok29
   ·refine Vg 1 ?_
    refine Zp4 h (fun ((x31,x32):(Int×List Sess))=>⟨(.any :: .ptr 0 0 :: .ptr 1 0::an 36 (.iv (ln Sess.row x24) :: .iv x31::an 18 [])),[some ⟨35,[.iv x1,.iv x2,.osl 4,.iv x3,.osl 5,.iv x4,.osl 9,.osl 6,.osl 7,.osl 8]⟩,some ⟨35,[.iv 0,.iv 0,.nl,.iv 0,.nl,.iv 0,.nl,.nl,.nl,.nl]⟩],[Sq6 x7,Sq7 x8,Sq8 x9,Sq8 x10,Sq6 x14,Sq7 x15,Sq8 x21,Sq7 x22,Sq8 x23,Sq9 x32]⟩) (by simp [go_sem]) (by rintro ⟨x31,x32⟩;first | rfl | simp [go_sem]) ?_
    rintro n1 ⟨x31,x32⟩ y1 h hin1 hout1;rw [Zme] at h;(try dsimp only);refine Vg 5 ?_;refine MI h (fun h=>?_) fun h=>?_
    ·refine Vg 8 ?_
     refine Zo4 (fun (x36:List Sess)=>⟨(.any :: .ptr 0 0 :: .ptr 1 0::an 36 (.iv (ln Sess.row x24) :: .iv x31::an 18 [])),[some ⟨35,[.iv x1,.iv x2,.osl 4,.iv x3,.osl 5,.iv x4,.osl 9,.osl 6,.osl 7,.osl 8]⟩,some ⟨35,[.iv 0,.iv 0,.nl,.iv 0,.nl,.iv 0,.nl,.nl,.nl,.nl]⟩],[Sq6 x7,Sq7 x8,Sq8 x9,Sq8 x10,Sq6 x14,Sq7 x15,Sq8 x21,Sq7 x22,Sq8 x23,Sq9 x36]⟩) (Zle x31) y1 ?_ fun J4=>?_
     ·intro x36 h;rw [Zle] at h;(try dsimp only);refine Vg 5 ?_;exact Zw4 h hin1
     ·refine Zz6 fun all H=>?_;dsimp only[go_sem];refine GP H 6 9 [2,1,3,1,1,7] [(43,[.ptr 0 5,.ptr 0 6]),(1,[.iv x31,.ptr 0 5,.ptr 0 6]),(1,[.iv x31])] ?_;dsimp only[go_sem];refine Z74 2 6 rfl ?_ ?_
      ·refine GV H.1 ?_;dsimp only[go_sem];refine GE H.1 6 ?_;dsimp only[go_sem];have ⟨x33,ex33,h⟩:=Bs h;refine Z64 8 rfl (GI H.1 Sess.row ex33 ?_);refine Gn H 1 5 ?_;refine Z64 10 rfl (GL H.1 Sess.row ex33 ?_);dsimp only[go_sem];refine Z64 11 rfl ?_;have ⟨x34,ex34,h⟩:=Bs h;refine GC H.1 (Zy7 x33.Need _ ex34) ?_
       dsimp only[go_sem];refine Z64 12 rfl (GI H.1 Sess.row ex33 ?_);refine Gn H 1 1 ?_;refine Z64 14 rfl (Zv5 H.1 [Sp0 x34] Sess.row (y':=(Sess.mk x33.ID x34 x33.State x33.Age)) ex33 rfl trivial rfl rfl rfl (by first | exact Zi4 _ | simp [go_sem]) rfl rfl rfl rfl ?_);dsimp only[go_sem];refine GD ?_;exact Zx4 J4 h
      ·refine GV H.1 ?_;dsimp only[go_sem];have ⟨x33,ex33,h⟩:=Bs h;refine Z74 2 8 rfl ?_ ?_
       ·refine GV H.1 ?_;dsimp only[go_sem];refine Z64 8 rfl (GI H.1 Sess.row ex33 ?_);refine Gn H 1 5 ?_;refine Z64 10 rfl (GL H.1 Sess.row ex33 ?_);dsimp only[go_sem];refine Z64 11 rfl ?_;have ⟨x34,ex34,h⟩:=Bs h;refine GC H.1 (Zy7 x33.Need _ ex34) ?_;dsimp only[go_sem];refine Z64 12 rfl (GI H.1 Sess.row ex33 ?_)
        dsimp only[go_sem];refine Gn H 1 1 ?_;refine Z64 14 rfl (Zv5 H.1 [Sp0 x34] Sess.row (y':=(Sess.mk x33.ID x34 x33.State x33.Age)) ex33 rfl trivial rfl rfl rfl (by first | exact Zi4 _ | simp [go_sem]) rfl rfl rfl rfl ?_);dsimp only[go_sem];refine GD ?_;exact Zx4 J4 h
       ·refine GI H.1 Sess.row ex33 ?_;refine Gn H 1 6 ?_;refine Z74 2 10 rfl ?_ ?_
        ·refine GV H.1 ?_;dsimp only[go_sem];refine Z64 10 rfl (GL H.1 Sess.row ex33 ?_);dsimp only[go_sem];refine Z64 11 rfl ?_;have ⟨x34,ex34,h⟩:=Bs h;refine GC H.1 (Zy7 x33.Need _ ex34) ?_;dsimp only[go_sem];refine Z64 12 rfl (GI H.1 Sess.row ex33 ?_);refine Gn H 1 1 ?_;refine Z64 14 rfl ?_
         refine Zv5 H.1 [Sp0 x34] Sess.row (y':=(Sess.mk x33.ID x34 x33.State x33.Age)) ex33 rfl trivial rfl rfl rfl (by first | exact Zi4 _ | simp [go_sem]) rfl rfl rfl rfl ?_;dsimp only[go_sem];refine GD ?_;exact Zx4 J4 h
        ·refine GL H.1 Sess.row ex33 ?_;dsimp only[go_sem];have ⟨x34,ex34,h⟩:=Bs h;refine Z74 2 11 rfl ?_ ?_
         ·refine GV H.1 ?_;dsimp only[go_sem];refine Z64 11 rfl (GC H.1 (Zy7 x33.Need _ ex34) ?_);dsimp only[go_sem];refine Z64 12 rfl (GI H.1 Sess.row ex33 ?_);refine Gn H 1 1 ?_;refine Z64 14 rfl ?_
          refine Zv5 H.1 [Sp0 x34] Sess.row (y':=(Sess.mk x33.ID x34 x33.State x33.Age)) ex33 rfl trivial rfl rfl rfl (by first | exact Zi4 _ | simp [go_sem]) rfl rfl rfl rfl ?_;dsimp only[go_sem];refine GD ?_;exact Zx4 J4 h
         ·refine GC H.1 (Zy7 x33.Need _ ex34) ?_;dsimp only[go_sem];refine GE H.1 2 ?_;dsimp only[go_sem];refine Z64 12 rfl (GI H.1 Sess.row ex33 ?_);refine Gn H 1 1 ?_;refine Z64 14 rfl ?_
          refine Zv5 H.1 [Sp0 x34] Sess.row (y':=(Sess.mk x33.ID x34 x33.State x33.Age)) ex33 rfl trivial rfl rfl rfl (by first | exact Zi4 _ | simp [go_sem]) rfl rfl rfl rfl ?_;dsimp only[go_sem];refine GD ?_;exact Zx4 J4 h
    ·refine Vg 1 ?_;exact Zx4 J3 (Zn4 h hout1)
  ·refine Zz6 fun all H=>?_;refine Gn H 4 11 ?_;refine Z74 1 7 rfl ?_ ?_
   ·refine GV H.1 ?_;dsimp only[go_sem];have ⟨x16,ex16,h⟩:=Bs h;refine Z74 2 7 rfl ?_ ?_
    ·refine Z77 H.1 [] [2] 2 6 (Zic x9 _ ex16) ?_;dsimp only[go_sem];have ⟨x18,ex18,h⟩:=Bs h;refine Z74 5 7 rfl ?_ ?_
     ·refine Z85 H.1 rfl trivial (Zx7 x6 _ ex18) (h:=?_);dsimp only[go_sem];refine GE H.1 7 ?_;refine Gn H 1 6 ?_;refine Z64 8 rfl ?_;have ⟨x20,ex20,h⟩:=Bs h;refine Z77 H.1 [] [3] 2 8 (Zic x10 _ ex20) ?_;dsimp only[go_sem];refine GE H.1 10 ?_;dsimp only[go_sem]
      refine Gn H 1 3 ?_;refine GE H.1 12 ?_;refine Gn H 1 1 ?_;refine GE H.1 14 ?_;dsimp only[go_sem];refine GD ?_;exact Zx4 J2 h
     ·refine GV H.1 ?_;refine Gn H 1 7 ?_;refine Z64 5 rfl (Z85 H.1 rfl trivial (Zx7 x6 _ ex18) (h:=?_));dsimp only[go_sem];refine Z64 8 rfl ?_;have ⟨x20,ex20,h⟩:=Bs h;refine Z77 H.1 [] [3] 2 8 (Zic x10 _ ex20) ?_;dsimp only[go_sem];refine GE H.1 10 ?_;dsimp only[go_sem]
      refine Gn H 1 3 ?_;refine GE H.1 12 ?_;refine Gn H 1 1 ?_;refine GE H.1 14 ?_;dsimp only[go_sem];refine GD ?_;exact Zx4 J2 h
    ·refine GV H.1 ?_;dsimp only[go_sem];refine Z64 2 rfl (Z77 H.1 [] [2] 2 6 (Zic x9 _ ex16) ?_);refine Gn H 1 7 ?_;refine Z64 5 rfl ?_;have ⟨x18,ex18,h⟩:=Bs h;refine Z85 H.1 rfl trivial (Zx7 x6 _ ex18) (h:=?_);dsimp only[go_sem];refine Z64 8 rfl ?_;have ⟨x19,ex19,h⟩:=Bs h
     refine Z77 H.1 [] [3] 2 8 (Zic x10 _ ex19) ?_;dsimp only[go_sem];refine GE H.1 10 ?_;refine Gn H 1 3 ?_;refine GE H.1 12 ?_;refine Gn H 1 1 ?_;refine GE H.1 14 ?_;dsimp only[go_sem]
     refine GD ?_;exact Zx4 J2 h
   ·refine GV H.1 ?_;dsimp only[go_sem];refine GE H.1 1 ?_;dsimp only[go_sem];refine Z64 2 rfl ?_;have ⟨x16,ex16,h⟩:=Bs h;refine Z77 H.1 [] [2] 2 6 (Zic x9 _ ex16) ?_;refine Gn H 1 7 ?_;refine Z64 5 rfl ?_;have ⟨x17,ex17,h⟩:=Bs h;refine Z85 H.1 rfl trivial (Zx7 x6 _ ex17) (h:=?_);dsimp only[go_sem]
    refine Z64 8 rfl ?_;have ⟨x18,ex18,h⟩:=Bs h;refine Z77 H.1 [] [3] 2 8 (Zic x10 _ ex18) ?_;dsimp only[go_sem];refine GE H.1 10 ?_;refine Gn H 1 3 ?_;refine GE H.1 12 ?_;refine Gn H 1 1 ?_;refine Z64 14 rfl ?_
    refine GV H.1 ?_;dsimp only[go_sem];refine GD ?_;exact Zx4 J2 h
 ·refine Zz6 fun all H=>?_;dsimp only[go_sem];refine GP H 5 11 [3,2,2,9] [(4,[.ptr 0 0,.ptr 0 0,.ptr 0 2]),(2,[.ptr 0 0,.ptr 0 4])] ?_;dsimp only[go_sem];refine Z74 3 7 rfl ?_ ?_
  ·refine GV H.1 ?_;dsimp only[go_sem];have ⟨x11,ex11,h⟩:=Bs h;refine Z74 4 7 rfl ?_ ?_
   ·refine Z77 H.1 [] [0] 2 4 (Zwb x7 _ ex11) ?_;dsimp only[go_sem];refine GE H.1 7 ?_;refine Gn H 3 5 ?_;refine Z64 8 rfl ?_;have ⟨x13,ex13,h⟩:=Bs h;refine Z77 H.1 [] [1] 2 5 (Zxb x8 _ ex13) ?_;dsimp only[go_sem];refine GE H.1 12 ?_
    dsimp only[go_sem];refine Gn H 2 1 ?_;refine GE H.1 15 ?_;dsimp only[go_sem];refine GD ?_;exact Zx4 J1 h
   ·refine GV H.1 ?_;dsimp only[go_sem];refine Z64 4 rfl (Z77 H.1 [] [0] 2 4 (Zwb x7 _ ex11) ?_);refine Gn H 3 5 ?_;refine Z64 8 rfl ?_;have ⟨x13,ex13,h⟩:=Bs h;refine Z77 H.1 [] [1] 2 5 (Zxb x8 _ ex13) ?_;dsimp only[go_sem];refine GE H.1 12 ?_
    dsimp only[go_sem];refine Gn H 2 1 ?_;refine GE H.1 15 ?_;dsimp only[go_sem];refine GD ?_;exact Zx4 J1 h
  ·refine GV H.1 ?_;dsimp only[go_sem];refine GE H.1 3 ?_;dsimp only[go_sem];refine Z64 4 rfl ?_;have ⟨x11,ex11,h⟩:=Bs h;refine Z77 H.1 [] [0] 2 4 (Zwb x7 _ ex11) ?_;refine Gn H 3 5 ?_;refine Z64 8 rfl ?_;have ⟨x12,ex12,h⟩:=Bs h
   refine Z77 H.1 [] [1] 2 5 (Zxb x8 _ ex12) ?_;dsimp only[go_sem];refine GE H.1 12 ?_;refine Gn H 2 1 ?_;refine GE H.1 15 ?_;dsimp only[go_sem];refine GD ?_;exact Zx4 J1 h
end
end NX
end Go.Proofs.YtdjkbodnjhgbcaaGreat
