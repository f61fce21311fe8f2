/-
  The function narthex/set.Has: its code compiled, a model, and that the code answers as the model. Written by a program of ours (lb.py). No statement of the seat is proved here.
-/
import Derived.Test.YtdjkbodnjhgbcaaGreatB17
import Derived.Test.YtdjkbodnjhgbcaaGreatB18
set_option maxRecDepth 100000
set_option maxHeartbeats 4000000
namespace Go.Proofs.YtdjkbodnjhgbcaaGreat
namespace NX
open Go
noncomputable section
@[go_sem] def e45:EC:=(by have h:=hF Tryz.f45;(conv at h=>rhs;reduce);dsimp only[go_sem] at h;exact ⟨_,h⟩:DP Tryz.f45).1
theorem ok45:FnOK Tryz.prog 45 Tryz.f45 e45 [.t 4] 2 6:=okA
def Zhd (x1:List Int) (x2:Int):Option Bool:=
 (Z5b x1 x2).bind fun x3=>
 some x3
theorem Zid (x1:List Int) (x2:Int) (r:Bool) (h:Zhd x1 x2=some r):Z03 Tryz.prog 45 [Sp0 x1,.iv x2] (.bv r):=by
 refine FP ok45 fun w0 H0=>?_
 rw [Zhd] at h
 refine Zv2 8 ?_;dsimp only[go_sem];refine An ?_;have ⟨x3,ex3,h⟩:=Bs h;refine VC (Z6b x1 x2 _ ex3) (Zv2 2 ?_);dsimp only[go_sem];refine An ?_;exact Zw4 (res:=fun (r:Bool)=>.bv r) ok45 h
def Zjd:(Int×List Int)→Option (List Int)
| (x25,x26)=>
 (vw_ (ln Z15 x26) x25 (ln Z15 x26)).bind fun _=>
 (clr_ x26 (Int.toNat (x25)) (Int.toNat (ln Z15 x26)-Int.toNat (x25)) 0).bind fun x28=>
 (sub_ x28 0 x25).bind fun x29=>
 some x29
def Zkd (x12:Int):(Int×List Int)→Option ((Int×Int×List Int) ⊕ (List Int))
| (x17,x18)=>
 some (.inl (x17,wr (x12+1),x18))
def Zld (p0:(Int→Option Bool)):(Int×Int×List Int)→Option ((Int×Int×List Int) ⊕ (List Int))
| (x11,x12,x13)=>
 ifb (decide (x12<(ln Z15 x13))) (
 (at_ x13 x12).bind fun x14=>
 (p0 x14).bind fun x15=>
 ifb (!x15) (
 (at_ x13 x11).bind fun _=>
 (Zkd x12) (wr (x11+1),x13.set (Int.toNat (x11)) x14)) (
 (Zkd x12) (x11,x13))) (
 Option.map Sum.inr (Zjd (x11,x13)))
def Zmd (x1:List Int) (p0:(Int→Option Bool)):Option (List Int):=
 (Zr7 x1 p0).bind fun x2=>
 ifb (decide (x2=((-1)))) (
 some x1) (
 loop (Zld p0) (x2,wr (x2+1),x1))
theorem Znd (x1:List Int) (g0:Nat) (caps0:List AV) (p0:(Int→Option Bool)) (hc0:CloOK Tryz.prog g0 caps0 (fun z=>[.iv z]) p0 (fun z=>.bv z)) (r:List Int) (h:Zmd x1 p0=some r):Zr5 Tryz.prog 157 [.osl 0,.clo g0 caps0] [] [Sq7 x1] (.osl 1) [] [none,Sq7 r]:=by
 refine FT ok157 fun w0 M0=>?_
 rw [Zmd] at h
 dsimp only[lun,List.cons_append,List.nil_append]
 refine Zv2 8 ?_;dsimp only[go_sem];refine An ?_;have ⟨x2,ex2,h⟩:=Bs h;refine VL (LR.slice 0 rfl) (Zs7 x1 _ _ p0 hc0 _ ex2) ?_ (hp:=(by first | rfl | simp [go_sem,hc0.pu])) (ha:=(by first | exact Zi4 _ | simp [go_sem,Zg4 _ _ _ hc0.pu]));refine Zv2 8 ?_;dsimp only[go_sem];refine An (MI h (fun h=>?_) fun h=>?_)
 ·refine Zv2 5 ?_;dsimp only[go_sem];refine An (Z47 3 1 ?_);dsimp only[go_sem];refine Z17 0 1 ?_;dsimp only[go_sem];(try rw [Zc6 _ _ _ hc0.pu]);obtain rfl:=Option.some.inj h;exact Z57 ok157
 ·refine Zv2 8 ?_;dsimp only[go_sem];refine An (Zo4 (fun ((x25,x26):(Int×List Int))=>(⟨(.osl 0::an 4 (.iv x25::an 36 [])),[],[Sq7 x26]⟩:St)) Zjd r ?_ fun J1=>?_)
  ·rintro ⟨x25,x26⟩ h;rw [Zjd] at h;(try dsimp only);refine Zv2 4 ?_;dsimp only[go_sem];refine An ?_;have ⟨x27,ex27,h⟩:=Bs h;refine V_viewM Z15 ex27 trivial rfl rfl rfl rfl ?_;have ⟨x28,ex28,h⟩:=Bs h;refine V_clrM Z15 ex28 trivial rfl rfl (by first | exact Zi4 _ | simp [go_sem]) (by first | rfl | simp [go_sem]) rfl rfl (Zv2 5 ?_);dsimp only[go_sem];refine An ?_;have ⟨x29,ex29,h⟩:=Bs h;refine V_cutM Z15 ex29 trivial rfl rfl rfl rfl (Zv2 2 ?_);dsimp only[go_sem];refine An ?_
   obtain rfl:=Option.some.inj h;exact Z57 ok157
  ·refine Zv2 1 ?_;dsimp only[go_sem];refine An (Zp4 h (fun ((x11,x12,x13):(Int×Int×List Int))=>(⟨(.osl 0 :: .clo g0 caps0::an 3 (.iv x11 :: .iv x12::an 35 [])),[],[Sq7 x13]⟩:St)) (by simp [go_sem]) (by rintro ⟨x11,x12,x13⟩;first | rfl | simp [go_sem,Zh4 _ hc0.pu]) ?_);rintro n1 ⟨x11,x12,x13⟩ y1 h hin1 hout1;rw [Zld] at h;(try dsimp only);refine Zv2 8 ?_;dsimp only[go_sem];refine An (MI h (fun h=>?_) fun h=>?_)
   ·refine Zv2 7 ?_;dsimp only[go_sem];refine An ?_;have ⟨x14,ex14,h⟩:=Bs h;refine Ze5 Z15 ex14 trivial rfl rfl rfl (Zg5 Z15 ex14 trivial rfl rfl rfl (Zv2 6 ?_));dsimp only[go_sem];refine An ?_;have ⟨x15,ex15,h⟩:=Bs h;refine Z05 trivial rfl hc0 (x:=x14) ex15 (by first | exact Zi4 _ | simp [go_sem]) (by first | rfl | simp [go_sem,hc0.pu]) (Zv2 2 ?_);dsimp only[go_sem];refine An ?_
    refine Zo4 (fun ((x17,x18):(Int×List Int))=>(⟨(.osl 0 :: .clo g0 caps0::an 3 (.iv x17 :: .iv x12::an 35 [])),[],[Sq7 x18]⟩:St)) (Zkd x12) y1 ?_ fun J2=>?_
    ·rintro ⟨x17,x18⟩ h;rw [Zkd] at h;(try dsimp only);refine Zv2 6 ?_;dsimp only[go_sem];refine An ?_;exact Zx4 h hin1 (hok:=by first | rfl | simp [go_sem,Zh4 _ hc0.pu])
    ·refine MI h (fun h=>?_) fun h=>?_
     ·refine Zv2 5 ?_;dsimp only[go_sem];refine An ?_;have ⟨x16,ex16,h⟩:=Bs h;refine Ze5 Z15 ex16 trivial rfl rfl rfl (Zl5 [.iv x14] Z15 (y':=x14) ex16 trivial rfl rfl rfl (by first | exact Zi4 _ | simp [go_sem]) rfl rfl rfl rfl (Zv2 6 ?_));dsimp only[go_sem];refine An ?_;exact Zy4 J2 (s:=(wr (x11+1),x13.set (Int.toNat (x11)) x14)) h (hok:=by first | rfl | simp [go_sem,Zh4 _ hc0.pu])
     ·refine Zv2 1 ?_;dsimp only[go_sem];refine An ?_;exact Zy4 J2 (s:=(x11,x13)) h (hok:=by first | rfl | simp [go_sem,Zh4 _ hc0.pu])
   ·refine Zv2 1 ?_;dsimp only[go_sem];refine An ?_;exact Zy4 J1 (s:=(x11,x13)) (Zn4 h hout1) (hok:=by first | rfl | simp [go_sem])
def Zod:List Sess→Option (List Sess)
| x35=>
 some x35
def Zpd (x2:List Sess):(Int×List Sess)→Option ((Int×List Sess) ⊕ (List Sess))
| (x8,x9)=>
 ifb (decide (x8<(ln Sess.row x2))) (
 (at_ x9 x8).bind fun x10=>
 (Zx7 x10.Need).bind fun x11=>
 some (.inl (wr (x8+1),x9.set (Int.toNat (x8)) (Sess.mk x10.ID x11 x10.State x10.Age)))) (
 Option.map Sum.inr (Zod x9))
def Zqd (x1:Book):Option (List Sess):=
 (Za8 x1.Sess).bind fun x2=>
 loop (Zpd x2) (0,x2)
theorem Zrd (x1:Book) (r:List Sess) (h:Zqd x1=some r):Zr5 Tryz.prog 113 [.agg (Book.row x1)] [] [] (.agg [.iv x1.Last,.osl 0]) [] [Sq9 r]:=by
 refine FT ok113 fun w0 M0=>?_
 rw [Zqd] at h
 dsimp only[lun,List.cons_append,List.nil_append]
 refine Zv2 9 ?_;dsimp only[go_sem];refine An ?_;have ⟨x2,ex2,h⟩:=Bs h;refine Z85 trivial (Zb8 x1.Sess _ ex2) (h:=?_);refine Zv2 11 ?_;dsimp only[go_sem];refine An (Zo4 (fun (x35:List Sess)=>(⟨(.any :: .ptr 0 0 :: .ptr 1 0::an 25 []),[some ⟨32,[.iv x1.Last,.osl 0]⟩,some ⟨32,[.iv 0,.nl]⟩],[Sq9 x35]⟩:St)) Zod r ?_ fun J1=>?_)
 ·intro x35 h;rw [Zod] at h;(try dsimp only);refine Zv2 5 ?_;dsimp only[go_sem];refine An ?_;obtain rfl:=Option.some.inj h;exact Z57 ok113
 ·refine Zv2 1 ?_;dsimp only[go_sem];refine An (Zp4 h (fun ((x8,x9):(Int×List Sess))=>(⟨(.any :: .ptr 0 0 :: .ptr 1 0::an 7 (.iv (ln Sess.row x2) :: .iv x8::an 16 [])),[some ⟨32,[.iv x1.Last,.osl 0]⟩,some ⟨32,[.iv 0,.nl]⟩],[Sq9 x9]⟩:St)) (by simp [go_sem]) (by rintro ⟨x8,x9⟩;first | rfl | simp [go_sem]) ?_);rintro n1 ⟨x8,x9⟩ y1 h hin1 hout1;rw [Zpd] at h;(try dsimp only);refine Zv2 5 ?_;dsimp only[go_sem];refine An (MI h (fun h=>?_) fun h=>?_)
  ·refine Zv2 8 ?_;dsimp only[go_sem];refine An (Z07 fun all H=>?_);dsimp only[go_sem];refine GN H 4 9 ?_;dsimp only[go_sem];refine An (Z74 1 4 rfl ?_ ?_)
   ·refine GV H.1 ?_;dsimp only[go_sem];refine GE H.1 4 ?_;dsimp only[go_sem];have ⟨x10,ex10,h⟩:=Bs h;refine Z64 6 rfl (GI H.1 Sess.row ex10 ?_);dsimp only[go_sem];refine GN H 1 5 ?_;dsimp only[go_sem];refine An (Z64 8 rfl (GL H.1 Sess.row ex10 ?_));dsimp only[go_sem];refine Z64 9 rfl ?_;have ⟨x11,ex11,h⟩:=Bs h;refine GC H.1 (Zz7 x10.Need _ ex11) ?_
    dsimp only[go_sem];refine Z64 10 rfl (GI H.1 Sess.row ex10 ?_);dsimp only[go_sem];refine GN H 1 1 ?_;dsimp only[go_sem];refine An (Z64 12 rfl (Zw5 H.1 [Sp0 x11] Sess.row (y':=(Sess.mk x10.ID x11 x10.State x10.Age)) ex10 rfl trivial rfl rfl rfl (by first | exact Zi4 _ | simp [go_sem]) rfl rfl rfl rfl ?_));dsimp only[go_sem];refine GD (Zv2 5 ?_);dsimp only[go_sem];refine An ?_;exact Zx4 h hin1
   ·refine GV H.1 ?_;dsimp only[go_sem];have ⟨x10,ex10,h⟩:=Bs h;refine Z74 1 6 rfl ?_ ?_
    ·refine GV H.1 ?_;dsimp only[go_sem];refine Z64 6 rfl (GI H.1 Sess.row ex10 ?_);dsimp only[go_sem];refine GN H 1 5 ?_;dsimp only[go_sem];refine An (Z64 8 rfl (GL H.1 Sess.row ex10 ?_));dsimp only[go_sem];refine Z64 9 rfl ?_;have ⟨x11,ex11,h⟩:=Bs h;refine GC H.1 (Zz7 x10.Need _ ex11) ?_;dsimp only[go_sem];refine Z64 10 rfl (GI H.1 Sess.row ex10 ?_)
     dsimp only[go_sem];refine GN H 1 1 ?_;dsimp only[go_sem];refine An (Z64 12 rfl (Zw5 H.1 [Sp0 x11] Sess.row (y':=(Sess.mk x10.ID x11 x10.State x10.Age)) ex10 rfl trivial rfl rfl rfl (by first | exact Zi4 _ | simp [go_sem]) rfl rfl rfl rfl ?_));dsimp only[go_sem];refine GD (Zv2 5 ?_);dsimp only[go_sem];refine An ?_;exact Zx4 h hin1
    ·refine GI H.1 Sess.row ex10 ?_;dsimp only[go_sem];refine GN H 1 6 ?_;dsimp only[go_sem];refine An (Z74 1 8 rfl ?_ ?_)
     ·refine GV H.1 ?_;dsimp only[go_sem];refine Z64 8 rfl (GL H.1 Sess.row ex10 ?_);dsimp only[go_sem];refine Z64 9 rfl ?_;have ⟨x11,ex11,h⟩:=Bs h;refine GC H.1 (Zz7 x10.Need _ ex11) ?_;dsimp only[go_sem];refine Z64 10 rfl (GI H.1 Sess.row ex10 ?_);dsimp only[go_sem];refine GN H 1 1 ?_;dsimp only[go_sem];refine An (Z64 12 rfl ?_)
      refine Zw5 H.1 [Sp0 x11] Sess.row (y':=(Sess.mk x10.ID x11 x10.State x10.Age)) ex10 rfl trivial rfl rfl rfl (by first | exact Zi4 _ | simp [go_sem]) rfl rfl rfl rfl ?_;dsimp only[go_sem];refine GD (Zv2 5 ?_);dsimp only[go_sem];refine An ?_;exact Zx4 h hin1
     ·refine GL H.1 Sess.row ex10 ?_;dsimp only[go_sem];have ⟨x11,ex11,h⟩:=Bs h;refine Z74 1 9 rfl ?_ ?_
      ·refine GV H.1 ?_;dsimp only[go_sem];refine Z64 9 rfl (GC H.1 (Zz7 x10.Need _ ex11) ?_);dsimp only[go_sem];refine Z64 10 rfl (GI H.1 Sess.row ex10 ?_);dsimp only[go_sem];refine GN H 1 1 ?_;dsimp only[go_sem];refine An (Z64 12 rfl (Zw5 H.1 [Sp0 x11] Sess.row (y':=(Sess.mk x10.ID x11 x10.State x10.Age)) ex10 rfl trivial rfl rfl rfl (by first | exact Zi4 _ | simp [go_sem]) rfl rfl rfl rfl ?_))
       dsimp only[go_sem];refine GD (Zv2 5 ?_);dsimp only[go_sem];refine An ?_;exact Zx4 h hin1
      ·refine GC H.1 (Zz7 x10.Need _ ex11) ?_;dsimp only[go_sem];refine GE H.1 1 ?_;dsimp only[go_sem];refine Z64 10 rfl (GI H.1 Sess.row ex10 ?_);dsimp only[go_sem];refine GN H 1 1 ?_;dsimp only[go_sem];refine An (Z64 12 rfl (Zw5 H.1 [Sp0 x11] Sess.row (y':=(Sess.mk x10.ID x11 x10.State x10.Age)) ex10 rfl trivial rfl rfl rfl (by first | exact Zi4 _ | simp [go_sem]) rfl rfl rfl rfl ?_))
       dsimp only[go_sem];refine GD (Zv2 5 ?_);dsimp only[go_sem];refine An ?_;exact Zx4 h hin1
  ·refine Zv2 1 ?_;dsimp only[go_sem];refine An ?_;exact Zy4 J1 (s:=x9) (Zn4 h hout1)
@[go_sem] def e100:EC:=(by have h:=hF Tryz.f100;(conv at h=>rhs;reduce);dsimp only[go_sem] at h;exact ⟨_,h⟩:DP Tryz.f100).1
theorem ok100:FnOK Tryz.prog 100 Tryz.f100 e100 [.t 2] 1 9:=okA
def Zsd:Bool→Option Bool
| x3=>
 some x3
def Ztd (x1:List Int):Option Bool:=
 ifb (decide (64<(ln Z15 x1))) (
 Zsd true) (
 (Zwa x1 ((fun z=>Zc8 z))).bind fun x2=>
 Zsd x2)
theorem Zud (x1:List Int) (r:Bool) (h:Ztd x1=some r):Z03 Tryz.prog 100 [Sp0 x1] (.bv r):=by
 refine FP ok100 fun w0 H0=>?_
 rw [Ztd] at h
 refine Zv2 10 ?_;dsimp only[go_sem];refine An (Zo4 (fun (x3:Bool)=>(⟨(.any :: .any :: .bv x3::an 7 []),[],[]⟩:St)) Zsd r ?_ fun J1=>?_)
 ·intro x3 h;rw [Zsd] at h;(try dsimp only);exact Zw4 (res:=fun (r:Bool)=>.bv r) ok100 h
 ·refine MC 6 h (fun h=>?_) fun h=>?_
  ·dsimp only[go_sem];refine Zv2 5 ?_;dsimp only[go_sem];refine An ?_;exact Zy4 J1 (s:=true) h
  ·dsimp only[go_sem];refine Zv2 1 ?_;dsimp only[go_sem];refine An ?_;have ⟨x2,ex2,h⟩:=Bs h;refine VC (Zxa x1 _ _ ((fun z=>Zc8 z)) ⟨by kernel_rfl,rfl,fun z r hz=>k_sess_odd_1 z r hz⟩ _ ex2) (Zv2 3 ?_);dsimp only[go_sem];refine An ?_;exact Zy4 J1 (s:=x2) h
def Zvd:Int→Option (Int×Int)
| x19=>
 some ((-1),x19)
def Zwd (x1:List Side) (x3:DI):(Int×Int)→Option ((Int×Int) ⊕ (Int×Int))
| (x8,x9)=>
 ifb (decide (x8<(ln Side.row x1))) (
 (at_ x1 x8).bind fun x10=>
 (Zeb x10 x9 x3).bind fun x11=>
 ifb x11 (
 Option.map Sum.inr (some (x8,x10.Peer))) (
 some (.inl (wr (x8+1),x10.Peer)))) (
 Option.map Sum.inr (Zvd x9))
def Zxd (x1:List Side) (x2:Int) (x3:DI):Option (Int×Int):=
 loop (Zwd x1 x3) (0,x2)
theorem Zyd (x1:List Side) (x2:Int) (x3:DI) (r:(Int×Int)) (h:Zxd x1 x2 x3=some r):Zr5 Tryz.prog 67 [Sp2 x1,.clo 140 [.ptr 0 0,.ptr 1 0]] [some ⟨3,[.iv x2]⟩,some ⟨25,DI.row x3⟩] [] (.iv r.1) [some ⟨3,[.iv r.2]⟩,some ⟨25,DI.row x3⟩] []:=by
 refine FT ok67 fun w0 M0=>?_
 rw [Zxd] at h
 dsimp only[lun,List.cons_append,List.nil_append]
 refine Zv2 11 ?_;dsimp only[go_sem];refine An (Zo4 (fun (x19:Int)=>(⟨an 19 [],[some ⟨3,[.iv x19]⟩,some ⟨25,DI.row x3⟩],[]⟩:St)) Zvd r ?_ fun J1=>?_)
 ·intro x19 h;rw [Zvd] at h;(try dsimp only);refine Zv2 4 ?_;dsimp only[go_sem];refine An ?_;obtain rfl:=Option.some.inj h;exact Z57 ok67
 ·refine Zv2 1 ?_;dsimp only[go_sem];refine An (Zp4 h (fun ((x8,x9):(Int×Int))=>(⟨(Sp2 x1 :: .clo 140 [.ptr 0 0,.ptr 1 0]::an 5 (.iv (ln Side.row x1) :: .iv x8::an 10 [])),[some ⟨3,[.iv x9]⟩,some ⟨25,DI.row x3⟩],[]⟩:St)) (by simp [go_sem]) (by rintro ⟨x8,x9⟩;first | rfl | simp [go_sem]) ?_);rintro n1 ⟨x8,x9⟩ y1 h hin1 hout1;rw [Zwd] at h;(try dsimp only);refine Zv2 5 ?_;dsimp only[go_sem];refine An (MI h (fun h=>?_) fun h=>?_)
  ·refine Zv2 13 ?_;dsimp only[go_sem];refine An ?_;have ⟨x10,ex10,h⟩:=Bs h;refine Zs4 Side.row ex10 trivial rfl rfl rfl (Zv2 1 ?_);dsimp only[go_sem];refine An ?_;have ⟨x11,ex11,h⟩:=Bs h;refine Zu5 [true,true] [] trivial rfl (Zfb x10 x9 x3 _ ex11) (by kernel_rfl) (h:=?_);dsimp only[go_sem];refine Zv2 1 ?_;dsimp only[go_sem];refine An (MI h (fun h=>?_) fun h=>?_)
   ·refine Zv2 5 ?_;dsimp only[go_sem];refine An ?_;obtain rfl:=Option.some.inj (Zn4 h hout1);exact Z57 ok67
   ·refine Zv2 6 ?_;dsimp only[go_sem];refine An ?_;exact Zx4 h hin1
  ·refine Zv2 1 ?_;dsimp only[go_sem];refine An ?_;exact Zy4 J1 (s:=x9) (Zn4 h hout1)
@[go_sem] def e95:EC:=(by have h:=hF Tryz.f95;(conv at h=>rhs;reduce);dsimp only[go_sem] at h;exact ⟨_,h⟩:DP Tryz.f95).1
theorem ok95:FnOK Tryz.prog 95 Tryz.f95 e95 [.t 3] 2 8:=okA
def Zzd (x1:Int) (x2:DK):Option Bool:=
 (Zqa x2.DI.SD ((fun z=>Zp8 z x1))).bind fun x3=>
 some (!x3)
theorem Z0e (x1:Int) (x2:DK) (r:Bool) (h:Zzd x1 x2=some r):Z03 Tryz.prog 95 [.iv x1,.elt (DK.row x2) 0] (.bv r):=by
 refine FP ok95 fun w0 H0=>?_
 rw [Zzd] at h
 refine Zv2 11 ?_;dsimp only[go_sem];refine An ?_;have ⟨x3,ex3,h⟩:=Bs h;refine VL (LR.block 0 rfl rfl) (Zra x2.DI.SD _ _ ((fun z=>Zp8 z x1)) ⟨by kernel_rfl,rfl,fun z r hz=>Zq8 z x1 r hz⟩ _ ex3) (Zv2 3 ?_);dsimp only[go_sem];refine An ?_;exact Zw4 (res:=fun (r:Bool)=>.bv r) ok95 h
@[go_sem] def e58:EC:=(by have h:=hF Tryz.f58;(conv at h=>rhs;reduce);dsimp only[go_sem] at h;exact ⟨_,h⟩:DP Tryz.f58).1
theorem ok58:FnOK Tryz.prog 58 Tryz.f58 e58 [.t 4] 2 22:=okA
def Z1e:Bool→Option Bool
| x5=>
 some x5
def Z2e (x1 x2:DK):Option Bool:=
 (Zjb x1.DI x2.DI).bind fun x3=>
 ifb x3 (
 ifb (decide (x1.TH=x2.TH)) (
 (Zt8 x1.Need x2.Need).bind fun x4=>
 Z1e x4) (
 Z1e false)) (
 Z1e false)
theorem Z3e (x1 x2:DK) (r:Bool) (h:Z2e x1 x2=some r):Z03 Tryz.prog 58 [.agg (DK.row x1),.agg (DK.row x2)] (.bv r):=by
 refine FP ok58 fun w0 H0=>?_
 rw [Z2e] at h
 refine Zv2 12 ?_;dsimp only[go_sem];refine An ?_;have ⟨x3,ex3,h⟩:=Bs h;refine VC (k_dine_Same x1.DI x2.DI _ ex3) (Zv2 1 ?_);dsimp only[go_sem];refine An (Zo4 (fun (x5:Bool)=>(⟨an 4 (.bv x5::an 19 []),[],[]⟩:St)) Z1e r ?_ fun J1=>?_)
 ·intro x5 h;rw [Z1e] at h;(try dsimp only);exact Zw4 (res:=fun (r:Bool)=>.bv r) ok58 h
 ·refine MC 10 h (fun h=>?_) fun h=>?_
  ·dsimp only[go_sem];refine Zv2 7 ?_;dsimp only[go_sem];refine An (MC 17 h (fun h=>?_) fun h=>?_)
   ·dsimp only[go_sem];refine Zv2 4 ?_;dsimp only[go_sem];refine An ?_;have ⟨x4,ex4,h⟩:=Bs h;refine VC (Zu8 x1.Need x2.Need _ ex4) (Zv2 3 ?_);dsimp only[go_sem];refine An ?_;exact Zy4 J1 (s:=x4) h
   ·dsimp only[go_sem];refine Zv2 8 ?_;dsimp only[go_sem];refine An ?_;exact Zy4 J1 (s:=false) h
  ·dsimp only[go_sem];refine Zv2 15 ?_;dsimp only[go_sem];refine An ?_;exact Zy4 J1 (s:=false) h
def Z4e (x4:List Side) (x5:List Int) (x9:List KE) (x10:List Int) (x11:List KE):List Sess→Option (List Side×List Int×List KE×List Int×List KE×List Sess)
| x39=>
 some (x4,x5,x9,x10,x11,x39)
def Z5e (x19:Int):List Sess→Option ((Int×List Sess) ⊕ (List Side×List Int×List KE×List Int×List KE×List Sess))
| x24=>
 some (.inl (wr (x19+1),x24))
def Z6e (x4:List Side) (x5:List Int) (x9:List KE) (x10:List Int) (x11:List KE) (x12:List Sess):(Int×List Sess)→Option ((Int×List Sess) ⊕ (List Side×List Int×List KE×List Int×List KE×List Sess))
| (x19,x20)=>
 ifb (decide (x19<(ln Sess.row x12))) (
 (at_ x20 x19).bind fun x21=>
 (Zx7 x21.Need).bind fun x22=>
 (Z5e x19) (x20.set (Int.toNat (x19)) (Sess.mk x21.ID x22 x21.State x21.Age))) (
 Option.map Sum.inr ((Z4e x4 x5 x9 x10 x11) x20))
def Z7e (x1:Node) (x4:List Side) (x5:List Int):(List KE×List Int×List KE)→Option (List Side×List Int×List KE×List Int×List KE×List Sess)
| (x9,x10,x11)=>
 (Za8 x1.Book.Sess).bind fun x12=>
 loop (Z6e x4 x5 x9 x10 x11 x12) (0,x12)
def Z8e (x1:Node):(List Side×List Int)→Option (List Side×List Int×List KE×List Int×List KE×List Sess)
| (x4,x5)=>
 (Zv8 x1.KN).bind fun x6=>
 (Zx7 x1.Told).bind fun x7=>
 (Zv8 x1.AK).bind fun x8=>
 (Z7e x1 x4 x5) (x6,x7,x8)
def Z9e (x1:Node):Option (List Side×List Int×List KE×List Int×List KE×List Sess):=
 (Zk8 x1.DK.DI.SD).bind fun x2=>
 (Zx7 x1.DK.Need).bind fun x3=>
 (Z8e x1) (x2,x3)
theorem Zae (x1:Node) (r:(List Side×List Int×List KE×List Int×List KE×List Sess)) (h:Z9e x1=some r):Zr5 Tryz.prog 29 [.agg (Node.row x1)] [] [] (.agg [.iv x1.DK.DI.ID,.iv x1.DK.DI.PH,.osl 0,.iv x1.DK.TH,.osl 1,.iv x1.Book.Last,.osl 5,.osl 2,.osl 3,.osl 4]) [] [Sq6 r.1,Sq7 r.2.1,Sq8 r.2.2.1,Sq7 r.2.2.2.1,Sq8 r.2.2.2.2.1,Sq9 r.2.2.2.2.2]:=by
 refine FT ok29 fun w0 M0=>?_
 rw [Z9e] at h
 dsimp only[lun,List.cons_append,List.nil_append]
 refine Zv2 6 ?_;dsimp only[go_sem];refine An ?_
 refine Zo4 (fun ((x4,x5):(List Side×List Int))=>(⟨(.any :: .ptr 0 0 :: .ptr 1 0::an 56 []),[some ⟨35,[.iv x1.DK.DI.ID,.iv x1.DK.DI.PH,.osl 0,.iv x1.DK.TH,.osl 1,.iv x1.Book.Last,Sp3 x1.Book.Sess,Sp1 x1.KN,Sp0 x1.Told,Sp1 x1.AK]⟩,some ⟨35,[.iv 0,.iv 0,.nl,.iv 0,.nl,.iv 0,.nl,.nl,.nl,.nl]⟩],[Sq6 x4,Sq7 x5]⟩:St)) (Z8e x1) r ?_ fun J1=>?_
 ·rintro ⟨x4,x5⟩ h;rw [Z8e] at h;(try dsimp only);refine Zv2 1 ?_;dsimp only[go_sem];refine An ?_
  refine Zo4 (fun ((x9,x10,x11):(List KE×List Int×List KE))=>(⟨(.any :: .ptr 0 0 :: .ptr 1 0::an 56 []),[some ⟨35,[.iv x1.DK.DI.ID,.iv x1.DK.DI.PH,.osl 0,.iv x1.DK.TH,.osl 1,.iv x1.Book.Last,Sp3 x1.Book.Sess,.osl 2,.osl 3,.osl 4]⟩,some ⟨35,[.iv 0,.iv 0,.nl,.iv 0,.nl,.iv 0,.nl,.nl,.nl,.nl]⟩],[Sq6 x4,Sq7 x5,Sq8 x9,Sq7 x10,Sq8 x11]⟩:St)) (Z7e x1 x4 x5) r ?_ fun J2=>?_
  ·rintro ⟨x9,x10,x11⟩ h;rw [Z7e] at h;(try dsimp only);refine Zv2 5 ?_;dsimp only[go_sem];refine An ?_;have ⟨x12,ex12,h⟩:=Bs h;refine Z85 trivial (Zb8 x1.Book.Sess _ ex12) (h:=?_);refine Zv2 13 ?_;dsimp only[go_sem];refine An ?_
   refine Zo4 (fun (x39:List Sess)=>(⟨(.any :: .ptr 0 0 :: .ptr 1 0::an 56 []),[some ⟨35,[.iv x1.DK.DI.ID,.iv x1.DK.DI.PH,.osl 0,.iv x1.DK.TH,.osl 1,.iv x1.Book.Last,.osl 5,.osl 2,.osl 3,.osl 4]⟩,some ⟨35,[.iv 0,.iv 0,.nl,.iv 0,.nl,.iv 0,.nl,.nl,.nl,.nl]⟩],[Sq6 x4,Sq7 x5,Sq8 x9,Sq7 x10,Sq8 x11,Sq9 x39]⟩:St)) (Z4e x4 x5 x9 x10 x11) r ?_ fun J3=>?_
   ·intro x39 h;rw [Z4e] at h;(try dsimp only);refine Zv2 5 ?_;dsimp only[go_sem];refine An ?_;obtain rfl:=Option.some.inj h;exact Z57 ok29
   ·refine Zv2 1 ?_;dsimp only[go_sem];refine An ?_
    refine Zp4 h (fun ((x19,x20):(Int×List Sess))=>(⟨(.any :: .ptr 0 0 :: .ptr 1 0::an 36 (.iv (ln Sess.row x12) :: .iv x19::an 18 [])),[some ⟨35,[.iv x1.DK.DI.ID,.iv x1.DK.DI.PH,.osl 0,.iv x1.DK.TH,.osl 1,.iv x1.Book.Last,.osl 5,.osl 2,.osl 3,.osl 4]⟩,some ⟨35,[.iv 0,.iv 0,.nl,.iv 0,.nl,.iv 0,.nl,.nl,.nl,.nl]⟩],[Sq6 x4,Sq7 x5,Sq8 x9,Sq7 x10,Sq8 x11,Sq9 x20]⟩:St)) (by simp [go_sem]) (by rintro ⟨x19,x20⟩;first | rfl | simp [go_sem]) ?_
    rintro n1 ⟨x19,x20⟩ y1 h hin1 hout1;rw [Z6e] at h;(try dsimp only);refine Zv2 5 ?_;dsimp only[go_sem];refine An (MI h (fun h=>?_) fun h=>?_)
    ·refine Zv2 8 ?_;dsimp only[go_sem];refine An ?_
     refine Zo4 (fun (x24:List Sess)=>(⟨(.any :: .ptr 0 0 :: .ptr 1 0::an 36 (.iv (ln Sess.row x12) :: .iv x19::an 18 [])),[some ⟨35,[.iv x1.DK.DI.ID,.iv x1.DK.DI.PH,.osl 0,.iv x1.DK.TH,.osl 1,.iv x1.Book.Last,.osl 5,.osl 2,.osl 3,.osl 4]⟩,some ⟨35,[.iv 0,.iv 0,.nl,.iv 0,.nl,.iv 0,.nl,.nl,.nl,.nl]⟩],[Sq6 x4,Sq7 x5,Sq8 x9,Sq7 x10,Sq8 x11,Sq9 x24]⟩:St)) (Z5e x19) y1 ?_ fun J4=>?_
     ·intro x24 h;rw [Z5e] at h;(try dsimp only);refine Zv2 5 ?_;dsimp only[go_sem];refine An ?_;exact Zx4 h hin1
     ·refine Z07 fun all H=>?_;dsimp only[go_sem];refine GP H 6 9 [2,1,3,1,1,7] [(43,[.ptr 0 5,.ptr 0 6]),(1,[.iv x19,.ptr 0 5,.ptr 0 6]),(1,[.iv x19])] ?_;dsimp only[go_sem];refine Z74 2 6 rfl ?_ ?_
      ·refine GV H.1 ?_;dsimp only[go_sem];refine GE H.1 6 ?_;dsimp only[go_sem];have ⟨x21,ex21,h⟩:=Bs h;refine Z64 8 rfl (GI H.1 Sess.row ex21 ?_);dsimp only[go_sem];refine GN H 1 5 ?_;dsimp only[go_sem];refine An (Z64 10 rfl (GL H.1 Sess.row ex21 ?_));dsimp only[go_sem];refine Z64 11 rfl ?_;have ⟨x22,ex22,h⟩:=Bs h;refine GC H.1 (Zz7 x21.Need _ ex22) ?_
       dsimp only[go_sem];refine Z64 12 rfl (GI H.1 Sess.row ex21 ?_);dsimp only[go_sem];refine GN H 1 1 ?_;dsimp only[go_sem];refine An (Z64 14 rfl (Zw5 H.1 [Sp0 x22] Sess.row (y':=(Sess.mk x21.ID x22 x21.State x21.Age)) ex21 rfl trivial rfl rfl rfl (by first | exact Zi4 _ | simp [go_sem]) rfl rfl rfl rfl ?_));dsimp only[go_sem];refine GD ?_;exact Zy4 J4 (s:=x20.set (Int.toNat (x19)) (Sess.mk x21.ID x22 x21.State x21.Age)) h
      ·refine GV H.1 ?_;dsimp only[go_sem];have ⟨x21,ex21,h⟩:=Bs h;refine Z74 2 8 rfl ?_ ?_
       ·refine GV H.1 ?_;dsimp only[go_sem];refine Z64 8 rfl (GI H.1 Sess.row ex21 ?_);dsimp only[go_sem];refine GN H 1 5 ?_;dsimp only[go_sem];refine An (Z64 10 rfl (GL H.1 Sess.row ex21 ?_));dsimp only[go_sem];refine Z64 11 rfl ?_;have ⟨x22,ex22,h⟩:=Bs h;refine GC H.1 (Zz7 x21.Need _ ex22) ?_;dsimp only[go_sem];refine Z64 12 rfl (GI H.1 Sess.row ex21 ?_)
        dsimp only[go_sem];refine GN H 1 1 ?_;dsimp only[go_sem];refine An (Z64 14 rfl (Zw5 H.1 [Sp0 x22] Sess.row (y':=(Sess.mk x21.ID x22 x21.State x21.Age)) ex21 rfl trivial rfl rfl rfl (by first | exact Zi4 _ | simp [go_sem]) rfl rfl rfl rfl ?_));dsimp only[go_sem];refine GD ?_;exact Zy4 J4 (s:=x20.set (Int.toNat (x19)) (Sess.mk x21.ID x22 x21.State x21.Age)) h
       ·refine GI H.1 Sess.row ex21 ?_;dsimp only[go_sem];refine GN H 1 6 ?_;dsimp only[go_sem];refine An (Z74 2 10 rfl ?_ ?_)
        ·refine GV H.1 ?_;dsimp only[go_sem];refine Z64 10 rfl (GL H.1 Sess.row ex21 ?_);dsimp only[go_sem];refine Z64 11 rfl ?_;have ⟨x22,ex22,h⟩:=Bs h;refine GC H.1 (Zz7 x21.Need _ ex22) ?_;dsimp only[go_sem];refine Z64 12 rfl (GI H.1 Sess.row ex21 ?_);dsimp only[go_sem];refine GN H 1 1 ?_;dsimp only[go_sem];refine An (Z64 14 rfl ?_)
         refine Zw5 H.1 [Sp0 x22] Sess.row (y':=(Sess.mk x21.ID x22 x21.State x21.Age)) ex21 rfl trivial rfl rfl rfl (by first | exact Zi4 _ | simp [go_sem]) rfl rfl rfl rfl ?_;dsimp only[go_sem];refine GD ?_;exact Zy4 J4 (s:=x20.set (Int.toNat (x19)) (Sess.mk x21.ID x22 x21.State x21.Age)) h
        ·refine GL H.1 Sess.row ex21 ?_;dsimp only[go_sem];have ⟨x22,ex22,h⟩:=Bs h;refine Z74 2 11 rfl ?_ ?_
         ·refine GV H.1 ?_;dsimp only[go_sem];refine Z64 11 rfl (GC H.1 (Zz7 x21.Need _ ex22) ?_);dsimp only[go_sem];refine Z64 12 rfl (GI H.1 Sess.row ex21 ?_);dsimp only[go_sem];refine GN H 1 1 ?_;dsimp only[go_sem];refine An (Z64 14 rfl ?_)
          refine Zw5 H.1 [Sp0 x22] Sess.row (y':=(Sess.mk x21.ID x22 x21.State x21.Age)) ex21 rfl trivial rfl rfl rfl (by first | exact Zi4 _ | simp [go_sem]) rfl rfl rfl rfl ?_;dsimp only[go_sem];refine GD ?_;exact Zy4 J4 (s:=x20.set (Int.toNat (x19)) (Sess.mk x21.ID x22 x21.State x21.Age)) h
         ·refine GC H.1 (Zz7 x21.Need _ ex22) ?_;dsimp only[go_sem];refine GE H.1 2 ?_;dsimp only[go_sem];refine Z64 12 rfl (GI H.1 Sess.row ex21 ?_);dsimp only[go_sem];refine GN H 1 1 ?_;dsimp only[go_sem];refine An (Z64 14 rfl ?_)
          refine Zw5 H.1 [Sp0 x22] Sess.row (y':=(Sess.mk x21.ID x22 x21.State x21.Age)) ex21 rfl trivial rfl rfl rfl (by first | exact Zi4 _ | simp [go_sem]) rfl rfl rfl rfl ?_;dsimp only[go_sem];refine GD ?_;exact Zy4 J4 (s:=x20.set (Int.toNat (x19)) (Sess.mk x21.ID x22 x21.State x21.Age)) h
    ·refine Zv2 1 ?_;dsimp only[go_sem];refine An ?_;exact Zy4 J3 (s:=x20) (Zn4 h hout1)
  ·refine Z07 fun all H=>?_;dsimp only[go_sem];refine GP H 6 9 [2,1,2,1,2,7] [(18,[.ptr 0 7,Sp1 x1.KN]),(1,[.ptr 0 8,Sp0 x1.Told]),(1,[.ptr 0 9,Sp1 x1.AK])] ?_;dsimp only[go_sem];refine Z64 2 rfl ?_;have ⟨x6,ex6,h⟩:=Bs h;refine Z95 H.1 rfl trivial (Zw8 x1.KN _ ex6) (h:=?_);dsimp only[go_sem];refine GN H 1 7 ?_;dsimp only[go_sem];refine An (Z64 5 rfl ?_)
   have ⟨x7,ex7,h⟩:=Bs h;refine Z95 H.1 rfl trivial (Zy7 x1.Told _ ex7) (h:=?_);dsimp only[go_sem];refine Z64 8 rfl ?_;have ⟨x8,ex8,h⟩:=Bs h;refine Z95 H.1 rfl trivial (Zw8 x1.AK _ ex8) (h:=?_);dsimp only[go_sem];refine GE H.1 10 ?_;dsimp only[go_sem];refine GN H 1 3 ?_;dsimp only[go_sem];refine An (GE H.1 12 ?_);dsimp only[go_sem];refine GN H 1 1 ?_;dsimp only[go_sem];refine An ?_
   refine GE H.1 14 ?_;dsimp only[go_sem];refine GD ?_;exact Zy4 J2 (s:=(x6,x7,x8)) h
 ·refine Z07 fun all H=>?_;dsimp only[go_sem];refine GP H 7 9 [4,1,3,8] [(4,[.ptr 0 0,.ptr 0 0,.ptr 0 2,Sp2 x1.DK.DI.SD]),(1,[.ptr 0 0,.ptr 0 4,Sp0 x1.DK.Need])] ?_;dsimp only[go_sem];refine Z64 4 rfl ?_;have ⟨x2,ex2,h⟩:=Bs h;refine Z95 H.1 rfl trivial (Zl8 x1.DK.DI.SD _ ex2) (h:=?_);dsimp only[go_sem];refine GN H 3 5 ?_;dsimp only[go_sem];refine An (Z64 8 rfl ?_)
  have ⟨x3,ex3,h⟩:=Bs h;refine Z95 H.1 rfl trivial (Zy7 x1.DK.Need _ ex3) (h:=?_);dsimp only[go_sem];refine GE H.1 12 ?_;dsimp only[go_sem];refine GN H 2 1 ?_;dsimp only[go_sem];refine An (GE H.1 15 ?_);dsimp only[go_sem];refine GD ?_;exact Zy4 J1 (s:=(x2,x3)) h
def Zbe (x1 x2:Int) (x3 x4:Int) (x5:List Sess) (x6:List Side) (x7:List Int) (x8:List KE) (x9:List Int) (x10:List KE):Option (List Int):=
 (Ztb x1 x2 x3 x4 x5 x6 x7 x8 x9 x10 ((fun z=>Z29 z))).bind fun x11=>
 some x11
theorem Zce (x1 x2:Int) (x3 x4:Int) (x5:List Sess) (x6:List Side) (x7:List Int) (x8:List KE) (x9:List Int) (x10:List KE) (r:List Int) (h:Zbe x1 x2 x3 x4 x5 x6 x7 x8 x9 x10=some r):Zr5 Tryz.prog 21 [.agg [.iv x1,.iv x2,.osl 0,.iv x3,.osl 1,.iv x4,Sp3 x5,.osl 2,.osl 3,.osl 4]] [] [Sq6 x6,Sq7 x7,Sq8 x8,Sq7 x9,Sq8 x10] (.osl 5) [] [Sq6 x6,Sq7 x7,Sq8 x8,Sq7 x9,Sq8 x10,Sq7 r]:=by
 refine FT ok21 fun w0 M0=>?_
 rw [Zbe] at h
 dsimp only[lun,List.cons_append,List.nil_append]
 refine Zv2 8 ?_;dsimp only[go_sem];refine An ?_;have ⟨x11,ex11,h⟩:=Bs h;refine Z77 [] [0,1,2,3,4] 1 5 (Zub x1 x2 x3 x4 x5 x6 x7 x8 x9 x10 _ _ ((fun z=>Z29 z)) ⟨by kernel_rfl,rfl,fun z r hz=>Z39 z r hz⟩ _ ex11) ?_;dsimp only[go_sem];refine Zv2 2 ?_;dsimp only[go_sem];refine An ?_;obtain rfl:=Option.some.inj h;exact Z57 ok21
def Zde (x14:(Bool×Int)):(Int×List Sess)→Option (Bool×Int×List Sess×Int)
| (x15,x16)=>
 some (decide (x14.2=0),x15,x16,x14.2)
def Zee (x1:Book) (x2:Int) (x3 x4:Int) (x5 x6:Int) (x7:List Sess) (x8:Int) (x9:List Side) (x10:List Int) (x11:List KE) (x12:List Int) (x13:List KE):Option (Bool×Int×List Sess×Int):=
 (Zob (decide (x2=0)) x2 x3 x4 x5 x6 x7 x8 x9 x10 x11 x12 x13).bind fun x14=>
 ifb x14.1 (
 (Zde x14) (x1.Last,x1.Sess)) (
 (Zde x14) (x6,x7))
theorem Zfe (x1:Book) (x2:Int) (x3 x4:Int) (x5 x6:Int) (x7:List Sess) (x8:Int) (x9:List Side) (x10:List Int) (x11:List KE) (x12:List Int) (x13:List KE) (r:(Bool×Int×List Sess×Int)) (h:Zee x1 x2 x3 x4 x5 x6 x7 x8 x9 x10 x11 x12 x13=some r):Zr5 Tryz.prog 72 [.ptr 0 0,.agg (Book.row x1),.iv x2] [some ⟨81,[.iv x3,.iv x4,.osl 0,.iv x5,.osl 1,.iv x6,Sp3 x7,.osl 2,.osl 3,.osl 4,.nl,.nl,.iv x8]⟩] [Sq6 x9,Sq7 x10,Sq8 x11,Sq7 x12,Sq8 x13] (.bv r.1) [some ⟨81,[.iv x3,.iv x4,.osl 0,.iv x5,.osl 1,.iv r.2.1,Sp3 r.2.2.1,.osl 2,.osl 3,.osl 4,.nl,.nl,.iv r.2.2.2]⟩] [Sq6 x9,Sq7 x10,Sq8 x11,Sq7 x12,Sq8 x13]:=by
 refine FT ok72 fun w0 M0=>?_
 rw [Zee] at h
 dsimp only[lun,List.cons_append,List.nil_append]
 refine Zv2 12 ?_;dsimp only[go_sem];refine An ?_;have ⟨x14,ex14,h⟩:=Bs h;refine Z77 [0] [0,1,2,3,4] 2 5 (Zpb (decide (x2=0)) x2 x3 x4 x5 x6 x7 x8 x9 x10 x11 x12 x13 _ ex14) ?_;dsimp only[go_sem];refine Zv2 1 ?_;dsimp only[go_sem];refine An ?_
 refine Zo4 (fun ((x15,x16):(Int×List Sess))=>(⟨(.ptr 0 0::an 21 []),[some ⟨81,[.iv x3,.iv x4,.osl 0,.iv x5,.osl 1,.iv x15,Sp3 x16,.osl 2,.osl 3,.osl 4,.nl,.nl,.iv x14.2]⟩],[Sq6 x9,Sq7 x10,Sq8 x11,Sq7 x12,Sq8 x13]⟩:St)) (Zde x14) r ?_ fun J1=>?_
 ·rintro ⟨x15,x16⟩ h;rw [Zde] at h;(try dsimp only);refine Zv2 9 ?_;dsimp only[go_sem];refine An ?_;obtain rfl:=Option.some.inj h;exact Z57 ok72
 ·refine MI h (fun h=>?_) fun h=>?_
  ·refine Zv2 8 ?_;dsimp only[go_sem];refine An ?_;exact Zy4 J1 (s:=(x1.Last,x1.Sess)) h
  ·refine Zv2 1 ?_;dsimp only[go_sem];refine An ?_;exact Zy4 J1 (s:=(x6,x7)) h
def Zge:(List Side×List Int)→Option (List Side×List Int)
| (x9,x10)=>
 some (x9,x10)
def Zhe (_x1 _x2 _x3:Int) (x4:List Side) (x5:List Int):Option (List Side×List Int):=
 (Zk8 x4).bind fun x6=>
 (Zx7 x5).bind fun x8=>
 Zge (x6,x8)
theorem Zie (x1 x2 x3:Int) (x4:List Side) (x5:List Int) (r:(List Side×List Int)) (h:Zhe x1 x2 x3 x4 x5=some r):Zr5 Tryz.prog 134 [.agg [.iv x1,.iv x2,.osl 0,.iv x3,.osl 1]] [] [Sq6 x4,Sq7 x5] (.agg [.iv x1,.iv x2,.osl 2,.iv x3,.osl 3]) [] [Sq6 x4,Sq7 x5,Sq6 r.1,Sq7 r.2]:=by
 refine FT ok134 fun w0 M0=>?_
 rw [Zhe] at h
 dsimp only[lun,List.cons_append,List.nil_append]
 refine Zv2 6 ?_;dsimp only[go_sem];refine An (Zo4 (fun ((x9,x10):(List Side×List Int))=>(⟨(.any :: .ptr 0 0 :: .ptr 1 0::an 11 []),[some ⟨29,[.iv x1,.iv x2,.osl 2,.iv x3,.osl 3]⟩,some ⟨29,[.iv 0,.iv 0,.nl,.iv 0,.nl]⟩],[Sq6 x4,Sq7 x5,Sq6 x9,Sq7 x10]⟩:St)) Zge r ?_ fun J1=>?_)
 ·rintro ⟨x9,x10⟩ h;rw [Zge] at h;(try dsimp only);refine Zv2 5 ?_;dsimp only[go_sem];refine An ?_;obtain rfl:=Option.some.inj h;exact Z57 ok134
 ·refine Z07 fun all H=>?_;dsimp only[go_sem];refine GN H 3 9 ?_;dsimp only[go_sem];refine An (Z74 2 5 rfl ?_ ?_)
  ·refine GV H.1 ?_;dsimp only[go_sem];have ⟨x6,ex6,h⟩:=Bs h;refine Z74 3 5 rfl ?_ ?_
   ·refine Z87 H.1 [] [0] 2 2 (Zxb x4 _ ex6) ?_;dsimp only[go_sem];refine GE H.1 5 ?_;dsimp only[go_sem];refine GN H 2 4 ?_;dsimp only[go_sem];refine An (Z64 6 rfl ?_);have ⟨x8,ex8,h⟩:=Bs h;refine Z87 H.1 [] [1] 2 3 (Zyb x5 _ ex8) ?_;dsimp only[go_sem];refine GE H.1 9 ?_;dsimp only[go_sem]
    refine GN H 1 1 ?_;dsimp only[go_sem];refine An (GE H.1 11 ?_);dsimp only[go_sem];refine GD ?_;exact Zy4 J1 (s:=(x6,x8)) h
   ·refine GV H.1 ?_;dsimp only[go_sem];refine Z64 3 rfl (Z87 H.1 [] [0] 2 2 (Zxb x4 _ ex6) ?_);dsimp only[go_sem];refine GN H 2 4 ?_;dsimp only[go_sem];refine An (Z64 6 rfl ?_);have ⟨x8,ex8,h⟩:=Bs h;refine Z87 H.1 [] [1] 2 3 (Zyb x5 _ ex8) ?_;dsimp only[go_sem];refine GE H.1 9 ?_;dsimp only[go_sem]
    refine GN H 1 1 ?_;dsimp only[go_sem];refine An (GE H.1 11 ?_);dsimp only[go_sem];refine GD ?_;exact Zy4 J1 (s:=(x6,x8)) h
  ·refine GV H.1 ?_;dsimp only[go_sem];refine GE H.1 2 ?_;dsimp only[go_sem];refine Z64 3 rfl ?_;have ⟨x6,ex6,h⟩:=Bs h;refine Z87 H.1 [] [0] 2 2 (Zxb x4 _ ex6) ?_;dsimp only[go_sem];refine GN H 2 4 ?_;dsimp only[go_sem];refine An (Z64 6 rfl ?_);have ⟨x7,ex7,h⟩:=Bs h;refine Z87 H.1 [] [1] 2 3 (Zyb x5 _ ex7) ?_
   dsimp only[go_sem];refine GE H.1 9 ?_;dsimp only[go_sem];refine GN H 1 1 ?_;dsimp only[go_sem];refine An (GE H.1 11 ?_);dsimp only[go_sem];refine GD ?_;exact Zy4 J1 (s:=(x6,x7)) h
@[go_sem] def e48:EC:=(by have h:=hF Tryz.f48;(conv at h=>rhs;reduce);dsimp only[go_sem] at h;exact ⟨_,h⟩:DP Tryz.f48).1
theorem ok48:FnOK Tryz.prog 48 Tryz.f48 e48 [] 2 17:=okA
@[go_sem] def e59:EC:=(by have h:=hF Tryz.f59;(conv at h=>rhs;reduce);dsimp only[go_sem] at h;exact ⟨_,h⟩:DP Tryz.f59).1
theorem ok59:FnOK Tryz.prog 59 Tryz.f59 e59 [.t 4] 2 15:=okA
def Zje:Bool→Option Bool
| x4=>
 some x4
def Zke (x1 x2:Book):Option Bool:=
 ifb (decide (x1.Last=x2.Last)) (
 (Zr9 x1.Sess x2.Sess ((fun z=>Zic z.1 z.2))).bind fun x3=>
 Zje x3) (
 Zje false)
theorem k_sess_Same (x1 x2:Book) (r:Bool) (h:Zke x1 x2=some r):Z03 Tryz.prog 59 [.agg (Book.row x1),.agg (Book.row x2)] (.bv r):=by
 refine FP ok59 fun w0 H0=>?_
 rw [Zke] at h
 refine Zv2 14 ?_;dsimp only[go_sem];refine An (Zo4 (fun (x4:Bool)=>(⟨an 4 (.bv x4::an 12 []),[],[]⟩:St)) Zje r ?_ fun J1=>?_)
 ·intro x4 h;rw [Zje] at h;(try dsimp only);exact Zw4 (res:=fun (r:Bool)=>.bv r) ok59 h
 ·refine MC 10 h (fun h=>?_) fun h=>?_
  ·dsimp only[go_sem];refine Zv2 4 ?_;dsimp only[go_sem];refine An ?_;have ⟨x3,ex3,h⟩:=Bs h;refine VC (Zs9 x1.Sess x2.Sess _ _ ((fun z=>Zic z.1 z.2)) ⟨by kernel_rfl,rfl,fun z r hz=>k_sess_Same_1 z.1 z.2 r hz⟩ _ ex3) (Zv2 3 ?_);dsimp only[go_sem];refine An ?_;exact Zy4 J1 (s:=x3) h
  ·dsimp only[go_sem];refine Zv2 8 ?_;dsimp only[go_sem];refine An ?_;exact Zy4 J1 (s:=false) h
end
end NX
end Go.Proofs.YtdjkbodnjhgbcaaGreat
