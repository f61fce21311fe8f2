/-
  The function narthex/node.own, lent own memory. Written by a program of ours (lb.py). No statement of the seat is proved here.
-/
import Derived.Test.YtdjkbodnjhgbcaaGreatB19
import Derived.Test.YtdjkbodnjhgbcaaGreatB20
set_option maxRecDepth 100000
set_option maxHeartbeats 4000000
namespace Go.Proofs.YtdjkbodnjhgbcaaGreat
namespace NX
open Go
noncomputable section
def Z9f (x10:List Side) (x11:List Int) (x15:List KE) (x16:List Int) (x17:List KE):List Sess→Option (List Side×List Int×List KE×List Int×List KE×List Sess)
| x46=>
 some (x10,x11,x15,x16,x17,x46)
def Zaf (x25:Int):List Sess→Option ((Int×List Sess) ⊕ (List Side×List Int×List KE×List Int×List KE×List Sess))
| x30=>
 some (.inl (wr (x25+1),x30))
def Zbf (x10:List Side) (x11:List Int) (x15:List KE) (x16:List Int) (x17:List KE) (x18:List Sess):(Int×List Sess)→Option ((Int×List Sess) ⊕ (List Side×List Int×List KE×List Int×List KE×List Sess))
| (x25,x26)=>
 ifb (decide (x25<(ln Sess.row x18))) (
 (at_ x26 x25).bind fun x27=>
 (Zx7 x27.Need).bind fun x28=>
 (Zaf x25) (x26.set (Int.toNat (x25)) (Sess.mk x27.ID x28 x27.State x27.Age))) (
 Option.map Sum.inr ((Z9f x10 x11 x15 x16 x17) x26))
def Zcf (x10:List Side) (x11:List Int):(List KE×List Int×List KE)→Option (List Side×List Int×List KE×List Int×List KE×List Sess)
| (x15,x16,x17)=>
 (Za8 (([]:List Sess))).bind fun x18=>
 loop (Zbf x10 x11 x15 x16 x17 x18) (0,x18)
def Zdf (x7:List KE):(List Side×List Int)→Option (List Side×List Int×List KE×List Int×List KE×List Sess)
| (x10,x11)=>
 (Zv8 x7).bind fun x12=>
 (Zx7 (([]:List Int))).bind fun x13=>
 (Zv8 (([]:List KE))).bind fun x14=>
 (Zcf x10 x11) (x12,x13,x14)
def Zef (_x1 _x2:Int) (x3:List Side) (_x4:Int) (x5:List Int) (_x6:Int) (x7:List KE):Option (List Side×List Int×List KE×List Int×List KE×List Sess):=
 (Zk8 x3).bind fun x8=>
 (Zx7 x5).bind fun x9=>
 (Zdf x7) (x8,x9)
theorem t_node_own_I1 (x1 x2:Int) (x3:List Side) (x4:Int) (x5:List Int) (x6:Int) (x7:List KE) (r:(List Side×List Int×List KE×List Int×List KE×List Sess)) (h:Zef x1 x2 x3 x4 x5 x6 x7=some r):Zr5 Tryz.prog 29 [.agg [.iv x1,.iv x2,Sp2 x3,.iv x4,Sp0 x5,.iv x6,.nl,.osl 0,.nl,.nl]] [] [Sq8 x7] (.agg [.iv x1,.iv x2,.osl 1,.iv x4,.osl 2,.iv x6,.osl 6,.osl 3,.osl 4,.osl 5]) [] [Sq8 x7,Sq6 r.1,Sq7 r.2.1,Sq8 r.2.2.1,Sq7 r.2.2.2.1,Sq8 r.2.2.2.2.1,Sq9 r.2.2.2.2.2]:=by
 refine FT ok29 fun w0 M0=>?_
 rw [Zef] at h
 dsimp only[lun,List.cons_append,List.nil_append]
 refine Zv2 6 ?_;dsimp only[go_sem];refine An (Zo4 (fun ((x10,x11):(List Side×List Int))=>(⟨(.any :: .ptr 0 0 :: .ptr 1 0::an 56 []),[some ⟨35,[.iv x1,.iv x2,.osl 1,.iv x4,.osl 2,.iv x6,.nl,.osl 0,.nl,.nl]⟩,some ⟨35,[.iv 0,.iv 0,.nl,.iv 0,.nl,.iv 0,.nl,.nl,.nl,.nl]⟩],[Sq8 x7,Sq6 x10,Sq7 x11]⟩:St)) (Zdf x7) r ?_ fun J1=>?_)
 ·rintro ⟨x10,x11⟩ h;rw [Zdf] at h;(try dsimp only);refine Zv2 1 ?_;dsimp only[go_sem];refine An ?_
  refine Zo4 (fun ((x15,x16,x17):(List KE×List Int×List KE))=>(⟨(.any :: .ptr 0 0 :: .ptr 1 0::an 56 []),[some ⟨35,[.iv x1,.iv x2,.osl 1,.iv x4,.osl 2,.iv x6,.nl,.osl 3,.osl 4,.osl 5]⟩,some ⟨35,[.iv 0,.iv 0,.nl,.iv 0,.nl,.iv 0,.nl,.nl,.nl,.nl]⟩],[Sq8 x7,Sq6 x10,Sq7 x11,Sq8 x15,Sq7 x16,Sq8 x17]⟩:St)) (Zcf x10 x11) r ?_ fun J2=>?_
  ·rintro ⟨x15,x16,x17⟩ h;rw [Zcf] at h;(try dsimp only);refine Zv2 5 ?_;dsimp only[go_sem];refine An ?_;have ⟨x18,ex18,h⟩:=Bs h;refine Z85 trivial (Zb8 (([]:List Sess)) _ ex18) (h:=?_);refine Zv2 13 ?_;dsimp only[go_sem];refine An ?_
   refine Zo4 (fun (x46:List Sess)=>(⟨(.any :: .ptr 0 0 :: .ptr 1 0::an 56 []),[some ⟨35,[.iv x1,.iv x2,.osl 1,.iv x4,.osl 2,.iv x6,.osl 6,.osl 3,.osl 4,.osl 5]⟩,some ⟨35,[.iv 0,.iv 0,.nl,.iv 0,.nl,.iv 0,.nl,.nl,.nl,.nl]⟩],[Sq8 x7,Sq6 x10,Sq7 x11,Sq8 x15,Sq7 x16,Sq8 x17,Sq9 x46]⟩:St)) (Z9f x10 x11 x15 x16 x17) r ?_ fun J3=>?_
   ·intro x46 h;rw [Z9f] at h;(try dsimp only);refine Zv2 5 ?_;dsimp only[go_sem];refine An ?_;obtain rfl:=Option.some.inj h;exact Z57 ok29
   ·refine Zv2 1 ?_;dsimp only[go_sem];refine An ?_
    refine Zp4 h (fun ((x25,x26):(Int×List Sess))=>(⟨(.any :: .ptr 0 0 :: .ptr 1 0::an 36 (.iv (ln Sess.row x18) :: .iv x25::an 18 [])),[some ⟨35,[.iv x1,.iv x2,.osl 1,.iv x4,.osl 2,.iv x6,.osl 6,.osl 3,.osl 4,.osl 5]⟩,some ⟨35,[.iv 0,.iv 0,.nl,.iv 0,.nl,.iv 0,.nl,.nl,.nl,.nl]⟩],[Sq8 x7,Sq6 x10,Sq7 x11,Sq8 x15,Sq7 x16,Sq8 x17,Sq9 x26]⟩:St)) (by simp [go_sem]) (by rintro ⟨x25,x26⟩;first | rfl | simp [go_sem]) ?_
    rintro n1 ⟨x25,x26⟩ y1 h hin1 hout1;rw [Zbf] at h;(try dsimp only);refine Zv2 5 ?_;dsimp only[go_sem];refine An (MI h (fun h=>?_) fun h=>?_)
    ·refine Zv2 8 ?_;dsimp only[go_sem];refine An ?_
     refine Zo4 (fun (x30:List Sess)=>(⟨(.any :: .ptr 0 0 :: .ptr 1 0::an 36 (.iv (ln Sess.row x18) :: .iv x25::an 18 [])),[some ⟨35,[.iv x1,.iv x2,.osl 1,.iv x4,.osl 2,.iv x6,.osl 6,.osl 3,.osl 4,.osl 5]⟩,some ⟨35,[.iv 0,.iv 0,.nl,.iv 0,.nl,.iv 0,.nl,.nl,.nl,.nl]⟩],[Sq8 x7,Sq6 x10,Sq7 x11,Sq8 x15,Sq7 x16,Sq8 x17,Sq9 x30]⟩:St)) (Zaf x25) y1 ?_ fun J4=>?_
     ·intro x30 h;rw [Zaf] at h;(try dsimp only);refine Zv2 5 ?_;dsimp only[go_sem];refine An ?_;exact Zx4 h hin1
     ·refine Z07 fun all H=>?_;dsimp only[go_sem];refine GP H 6 9 [2,1,3,1,1,7] [(43,[.ptr 0 5,.ptr 0 6]),(1,[.iv x25,.ptr 0 5,.ptr 0 6]),(1,[.iv x25])] ?_;dsimp only[go_sem];refine Z74 2 6 rfl ?_ ?_
      ·refine GV H.1 ?_;dsimp only[go_sem];refine GE H.1 6 ?_;dsimp only[go_sem];have ⟨x27,ex27,h⟩:=Bs h;refine Z64 8 rfl (GI H.1 Sess.row ex27 ?_);dsimp only[go_sem];refine GN H 1 5 ?_;dsimp only[go_sem];refine An (Z64 10 rfl (GL H.1 Sess.row ex27 ?_));dsimp only[go_sem];refine Z64 11 rfl ?_;have ⟨x28,ex28,h⟩:=Bs h;refine GC H.1 (Zz7 x27.Need _ ex28) ?_
       dsimp only[go_sem];refine Z64 12 rfl (GI H.1 Sess.row ex27 ?_);dsimp only[go_sem];refine GN H 1 1 ?_;dsimp only[go_sem];refine An (Z64 14 rfl (Zw5 H.1 [Sp0 x28] Sess.row (y':=(Sess.mk x27.ID x28 x27.State x27.Age)) ex27 rfl trivial rfl rfl rfl (by first | exact Zi4 _ | simp [go_sem]) rfl rfl rfl rfl ?_));dsimp only[go_sem];refine GD ?_;exact Zy4 J4 (s:=x26.set (Int.toNat (x25)) (Sess.mk x27.ID x28 x27.State x27.Age)) h
      ·refine GV H.1 ?_;dsimp only[go_sem];have ⟨x27,ex27,h⟩:=Bs h;refine Z74 2 8 rfl ?_ ?_
       ·refine GV H.1 ?_;dsimp only[go_sem];refine Z64 8 rfl (GI H.1 Sess.row ex27 ?_);dsimp only[go_sem];refine GN H 1 5 ?_;dsimp only[go_sem];refine An (Z64 10 rfl (GL H.1 Sess.row ex27 ?_));dsimp only[go_sem];refine Z64 11 rfl ?_;have ⟨x28,ex28,h⟩:=Bs h;refine GC H.1 (Zz7 x27.Need _ ex28) ?_;dsimp only[go_sem];refine Z64 12 rfl (GI H.1 Sess.row ex27 ?_)
        dsimp only[go_sem];refine GN H 1 1 ?_;dsimp only[go_sem];refine An (Z64 14 rfl (Zw5 H.1 [Sp0 x28] Sess.row (y':=(Sess.mk x27.ID x28 x27.State x27.Age)) ex27 rfl trivial rfl rfl rfl (by first | exact Zi4 _ | simp [go_sem]) rfl rfl rfl rfl ?_));dsimp only[go_sem];refine GD ?_;exact Zy4 J4 (s:=x26.set (Int.toNat (x25)) (Sess.mk x27.ID x28 x27.State x27.Age)) h
       ·refine GI H.1 Sess.row ex27 ?_;dsimp only[go_sem];refine GN H 1 6 ?_;dsimp only[go_sem];refine An (Z74 2 10 rfl ?_ ?_)
        ·refine GV H.1 ?_;dsimp only[go_sem];refine Z64 10 rfl (GL H.1 Sess.row ex27 ?_);dsimp only[go_sem];refine Z64 11 rfl ?_;have ⟨x28,ex28,h⟩:=Bs h;refine GC H.1 (Zz7 x27.Need _ ex28) ?_;dsimp only[go_sem];refine Z64 12 rfl (GI H.1 Sess.row ex27 ?_);dsimp only[go_sem];refine GN H 1 1 ?_;dsimp only[go_sem];refine An (Z64 14 rfl ?_)
         refine Zw5 H.1 [Sp0 x28] Sess.row (y':=(Sess.mk x27.ID x28 x27.State x27.Age)) ex27 rfl trivial rfl rfl rfl (by first | exact Zi4 _ | simp [go_sem]) rfl rfl rfl rfl ?_;dsimp only[go_sem];refine GD ?_;exact Zy4 J4 (s:=x26.set (Int.toNat (x25)) (Sess.mk x27.ID x28 x27.State x27.Age)) h
        ·refine GL H.1 Sess.row ex27 ?_;dsimp only[go_sem];have ⟨x28,ex28,h⟩:=Bs h;refine Z74 2 11 rfl ?_ ?_
         ·refine GV H.1 ?_;dsimp only[go_sem];refine Z64 11 rfl (GC H.1 (Zz7 x27.Need _ ex28) ?_);dsimp only[go_sem];refine Z64 12 rfl (GI H.1 Sess.row ex27 ?_);dsimp only[go_sem];refine GN H 1 1 ?_;dsimp only[go_sem];refine An (Z64 14 rfl ?_)
          refine Zw5 H.1 [Sp0 x28] Sess.row (y':=(Sess.mk x27.ID x28 x27.State x27.Age)) ex27 rfl trivial rfl rfl rfl (by first | exact Zi4 _ | simp [go_sem]) rfl rfl rfl rfl ?_;dsimp only[go_sem];refine GD ?_;exact Zy4 J4 (s:=x26.set (Int.toNat (x25)) (Sess.mk x27.ID x28 x27.State x27.Age)) h
         ·refine GC H.1 (Zz7 x27.Need _ ex28) ?_;dsimp only[go_sem];refine GE H.1 2 ?_;dsimp only[go_sem];refine Z64 12 rfl (GI H.1 Sess.row ex27 ?_);dsimp only[go_sem];refine GN H 1 1 ?_;dsimp only[go_sem];refine An (Z64 14 rfl ?_)
          refine Zw5 H.1 [Sp0 x28] Sess.row (y':=(Sess.mk x27.ID x28 x27.State x27.Age)) ex27 rfl trivial rfl rfl rfl (by first | exact Zi4 _ | simp [go_sem]) rfl rfl rfl rfl ?_;dsimp only[go_sem];refine GD ?_;exact Zy4 J4 (s:=x26.set (Int.toNat (x25)) (Sess.mk x27.ID x28 x27.State x27.Age)) h
    ·refine Zv2 1 ?_;dsimp only[go_sem];refine An ?_;exact Zy4 J3 (s:=x26) (Zn4 h hout1)
  ·refine Z07 fun all H=>?_;dsimp only[go_sem];refine GP H 5 10 [1,2,2,1,2,7] [(18,[.ptr 0 7]),(2,[.ptr 0 8,.nl]),(1,[.ptr 0 9,.nl])] ?_;dsimp only[go_sem];refine GE H.1 1 ?_;dsimp only[go_sem];refine Z64 2 rfl ?_;have ⟨x12,ex12,h⟩:=Bs h;refine Z87 H.1 [] [0] 2 3 (Zjc x7 _ ex12) ?_;dsimp only[go_sem];refine GN H 1 7 ?_;dsimp only[go_sem]
   refine An (Z64 5 rfl ?_);have ⟨x13,ex13,h⟩:=Bs h;refine Z95 H.1 rfl trivial (Zy7 (([]:List Int)) _ ex13) (h:=?_);dsimp only[go_sem];refine Z64 8 rfl ?_;have ⟨x14,ex14,h⟩:=Bs h;refine Z95 H.1 rfl trivial (Zw8 (([]:List KE)) _ ex14) (h:=?_);dsimp only[go_sem];refine GE H.1 10 ?_;dsimp only[go_sem];refine GN H 1 3 ?_;dsimp only[go_sem];refine An (GE H.1 12 ?_);dsimp only[go_sem]
   refine GN H 1 1 ?_;dsimp only[go_sem];refine An (GE H.1 14 ?_);dsimp only[go_sem];refine GD ?_;exact Zy4 J2 (s:=(x12,x13,x14)) h
 ·refine Z07 fun all H=>?_;dsimp only[go_sem];refine GP H 7 9 [4,1,3,8] [(4,[.ptr 0 0,.ptr 0 0,.ptr 0 2,Sp2 x3]),(1,[.ptr 0 0,.ptr 0 4,Sp0 x5])] ?_;dsimp only[go_sem];refine Z64 4 rfl ?_;have ⟨x8,ex8,h⟩:=Bs h;refine Z95 H.1 rfl trivial (Zl8 x3 _ ex8) (h:=?_);dsimp only[go_sem];refine GN H 3 5 ?_;dsimp only[go_sem];refine An (Z64 8 rfl ?_);have ⟨x9,ex9,h⟩:=Bs h
  refine Z95 H.1 rfl trivial (Zy7 x5 _ ex9) (h:=?_);dsimp only[go_sem];refine GE H.1 12 ?_;dsimp only[go_sem];refine GN H 2 1 ?_;dsimp only[go_sem];refine An (GE H.1 15 ?_);dsimp only[go_sem];refine GD ?_;exact Zy4 J1 (s:=(x8,x9)) h
@[go_sem] def e27:EC:=(by have h:=hF Tryz.f27;(conv at h=>rhs;reduce);dsimp only[go_sem] at h;exact ⟨_,h⟩:DP Tryz.f27).1
theorem ok27:FnOK Tryz.prog 27 Tryz.f27 e27 [.t 4] 2 6:=okA
def Zff (x1 x2:List Event):Option Bool:=
 (Zoa x1 x2 ((fun z=>Z8d z.1 z.2))).bind fun x3=>
 some x3
theorem Zgf (x1 x2:List Event) (r:Bool) (h:Zff x1 x2=some r):Z03 Tryz.prog 27 [Sp5 x1,Sp5 x2] (.bv r):=by
 refine FP ok27 fun w0 H0=>?_
 rw [Zff] at h
 refine Zv2 8 ?_;dsimp only[go_sem];refine An ?_;have ⟨x3,ex3,h⟩:=Bs h;refine VC (Zpa x1 x2 _ _ ((fun z=>Z8d z.1 z.2)) ⟨by kernel_rfl,rfl,fun z r hz=>Z9d z.1 z.2 r hz⟩ _ ex3) (Zv2 2 ?_);dsimp only[go_sem];refine An ?_;exact Zw4 (res:=fun (r:Bool)=>.bv r) ok27 h
@[go_sem] def e176:EC:=(by have h:=hF Tryz.f176;(conv at h=>rhs;reduce);dsimp only[go_sem] at h;exact ⟨_,h⟩:DP Tryz.f176).1
theorem ok176:FnOK Tryz.prog 176 Tryz.f176 e176 [.t 4] 2 8:=okA
def Zhf (x1 x2:List Int):Option (List Int):=
 (Zfd ([x1,x2])).bind fun x3=>
 (Zza x3).bind fun x4=>
 some x4
theorem o_set_Union (x1 x2 r:List Int) (h:Zhf x1 x2=some r):FunO Tryz.prog 176 [Sp0 x1,Sp0 x2] 3 1 (List.map Z15 r):=by
 refine Z75 ok176 rfl fun w0 H0=>?_
 rw [Zhf] at h
 refine Zv2 9 ?_;dsimp only[go_sem];refine An (Z27 0 ?_);dsimp only[go_sem];have ⟨x3,ex3,h⟩:=Bs h;refine Z85 trivial (Zgd ([x1,x2]) _ ex3) (h:=?_);refine Z27 1 ?_;dsimp only[go_sem];have ⟨x4,ex4,h⟩:=Bs h;refine Z85 trivial (Z0b x3 _ ex4) (h:=?_);refine Zv2 2 ?_;dsimp only[go_sem];refine An ?_;exact Zd5 Z15 ok176 h rfl rfl
theorem k_set_Union (x1 x2 r:List Int) (h:Zhf x1 x2=some r):Z03 Tryz.prog 176 [Sp0 x1,Sp0 x2] (Sp0 r):=(o_set_Union x1 x2 r h).sealed
@[go_sem] def e139:EC:=(by have h:=hF Tryz.f139;(conv at h=>rhs;reduce);dsimp only[go_sem] at h;exact ⟨_,h⟩:DP Tryz.f139).1
theorem ok139:FnOK Tryz.prog 139 Tryz.f139 e139 [.t 3] 2 6:=okA
def Zif (x1:Int) (x2:List Int):Option Bool:=
 (Zhd x2 x1).bind fun x3=>
 some (!x3)
theorem k_set_Minus_1 (x1:Int) (x2:List Int) (r:Bool) (h:Zif x1 x2=some r):Z03 Tryz.prog 139 [.iv x1,.elt ((Z25 1 Z15) x2) 0] (.bv r):=by
 refine FP ok139 fun w0 H0=>?_
 rw [Zif] at h
 refine Zv2 8 ?_;dsimp only[go_sem];refine An ?_;have ⟨x3,ex3,h⟩:=Bs h;refine VC (Zid x2 x1 _ ex3) (Zv2 3 ?_);dsimp only[go_sem];refine An ?_;exact Zw4 (res:=fun (r:Bool)=>.bv r) ok139 h
@[go_sem] def e138:EC:=(by have h:=hF Tryz.f138;(conv at h=>rhs;reduce);dsimp only[go_sem] at h;exact ⟨_,h⟩:DP Tryz.f138).1
theorem ok138:FnOK Tryz.prog 138 Tryz.f138 e138 [.t 4] 2 7:=okA
def Zjf (x1:List Int) (p1:(Int→Option Bool)):Option (List Int):=
 (Zza x1).bind fun x2=>
 (Zmd x2 ((fun z=>Z48 z p1))).bind fun x3=>
 some x3
theorem Zkf (x1:List Int) (g1:Nat) (caps1:List AV) (p1:(Int→Option Bool)) (hc1:CloOK Tryz.prog g1 caps1 (fun z=>[.iv z]) p1 (fun z=>.bv z)) (r:List Int) (h:Zjf x1 p1=some r):Z03 Tryz.prog 138 [Sp0 x1,.clo g1 caps1] (Sp0 r):=by
 refine FP ok138 fun w0 H0=>?_
 rw [Zjf] at h
 refine Zv2 8 ?_;dsimp only[go_sem];refine An ?_;have ⟨x2,ex2,h⟩:=Bs h;refine Z85 trivial (Z0b x1 _ ex2) (hp:=(by first | rfl | simp [go_sem,hc1.pu])) (h:=?_);refine Zv2 1 ?_;dsimp only[go_sem];refine An (Zk3 0 rfl (by first | rfl | simp [go_sem,hc1.pu]) ?_);dsimp only[go_sem];have ⟨x3,ex3,h⟩:=Bs h
 refine Zt5 [false] [true] trivial (Zz6 [] [0] 1 1 (Znd x2 _ _ ((fun z=>Z48 z p1)) ⟨by kernel_rfl,rfl,fun z r hz=>k_set_keep_1 z _ _ p1 hc1 r hz⟩ _ ex3)) (ha:=(by first | exact Zi4 _ | simp [go_sem,rnFL_pu _ _ _ _ _ hc1.pu])) (h:=?_);dsimp only[go_sem];refine Zv2 2 ?_;dsimp only[go_sem];refine An (Z27 1 ?_);dsimp only[go_sem];exact Zw4 (res:=fun (r:List Int)=>Sp0 r) ok138 h
@[go_sem] def e50:EC:=(by have h:=hF Tryz.f50;(conv at h=>rhs;reduce);dsimp only[go_sem] at h;exact ⟨_,h⟩:DP Tryz.f50).1
theorem ok50:FnOK Tryz.prog 50 Tryz.f50 e50 [.t 2] 1 66:=okA
def Zlf:Unit→Option Int
| ()=>
 some 0
def Zmf (x12:Int) (x13:Sess):Bool→Option ((Int×Int) ⊕ Int)
| x18=>
 ifb x18 (
 Option.map Sum.inr (some 170)) (
 some (.inl (x13.ID,wr (x12+1))))
def Znf (x12:Int) (x13:Sess) (x14:Bool):Bool→Option ((Int×Int) ⊕ Int)
| x17=>
 ifb x17 (
 Option.map Sum.inr (some 170)) (
 ifb (!x14) (
 ifb (!decide (x13.State=0)) (
 (Zmf x12 x13) true) (
 (Zmf x12 x13) (!decide (x13.Age=0)))) (
 (Zmf x12 x13) false))
def Zof (x1:Book) (x11:Int) (x12:Int) (x13:Sess):Bool→Option ((Int×Int) ⊕ Int)
| x14=>
 ifb (decide (x13.ID≤x11)) (
 (Znf x12 x13 x14) (decide (x13.ID≤x11))) (
 ifb (decide (x1.Last<x13.ID)) (
 (Znf x12 x13 x14) (decide (x1.Last<x13.ID))) (
 (Ztd x13.Need).bind fun x15=>
 ifb x15 (
 (Znf x12 x13 x14) x15) (
 (Z88 x13.Need).bind fun x16=>
 ifb (!x16) (
 (Znf x12 x13 x14) (!x16)) (
 (Znf x12 x13 x14) (decide (x13.Age<0))))))
def Zpf (x1:Book):(Int×Int)→Option ((Int×Int) ⊕ Int)
| (x11,x12)=>
 ifb (decide (x12<(ln Sess.row x1.Sess))) (
 (at_ x1.Sess x12).bind fun x13=>
 ifb (decide (x13.State=1)) (
 (Zof x1 x11 x12 x13) (decide (x12=0))) (
 (Zof x1 x11 x12 x13) false)) (
 Option.map Sum.inr (Zlf ()))
def Zqf (x1:Book):Bool→Option Int
| x2=>
 ifb x2 (
 some 170) (
 loop (Zpf x1) (0,0))
def Zrf (x1:Book):Option Int:=
 ifb (decide (x1.Last<0)) (
 (Zqf x1) true) (
 (Zqf x1) (decide (8<(ln Sess.row x1.Sess))))
theorem Zsf (x1:Book) (r:Int) (h:Zrf x1=some r):Z03 Tryz.prog 50 [.agg (Book.row x1)] (.iv r):=by
 refine FP ok50 fun w0 H0=>?_
 rw [Zrf] at h
 refine Zv2 12 ?_;dsimp only[go_sem];refine An (Zo4 (fun (x2:Bool)=>(⟨(.any :: .ptr 0 0::an 13 (.bv x2::an 51 [])),[some ⟨32,Book.row x1⟩],[]⟩:St)) (Zqf x1) r ?_ fun J1=>?_)
 ·intro x2 h;rw [Zqf] at h;(try dsimp only);refine MI h (fun h=>?_) fun h=>?_
  ·refine Zv2 4 ?_;dsimp only[go_sem];refine An ?_;exact Zw4 (res:=fun (r:Int)=>.iv r) ok50 h
  ·refine Zv2 13 ?_;dsimp only[go_sem];refine An (Zo4 (fun (_:Unit)=>(⟨an 67 [],[],[]⟩:St)) Zlf r ?_ fun J2=>?_)
   ·rintro ⟨⟩ h;rw [Zlf] at h;(try dsimp only);refine Zv2 4 ?_;dsimp only[go_sem];refine An ?_;exact Zw4 (res:=fun (r:Int)=>.iv r) ok50 h
   ·refine Zv2 1 ?_;dsimp only[go_sem];refine An (Zp4 h (fun ((x11,x12):(Int×Int))=>(⟨(.any :: .ptr 0 0 :: .any :: .iv x11::an 13 (Sp3 x1.Sess :: .iv (ln Sess.row x1.Sess) :: .iv x12::an 47 [])),[some ⟨32,Book.row x1⟩],[]⟩:St)) (by simp [go_sem]) (by rintro ⟨x11,x12⟩;first | rfl | simp [go_sem]) ?_);rintro n1 ⟨x11,x12⟩ y1 h hin1 hout1;rw [Zpf] at h;(try dsimp only);refine Zv2 5 ?_;dsimp only[go_sem];refine An (MI h (fun h=>?_) fun h=>?_)
    ·refine Zv2 6 ?_;dsimp only[go_sem];refine An ?_;have ⟨x13,ex13,h⟩:=Bs h;refine Zs4 Sess.row ex13 trivial rfl rfl rfl (Zv2 11 ?_);dsimp only[go_sem];refine An ?_
     refine Zo4 (fun (x14:Bool)=>(⟨(.any :: .ptr 0 0 :: .any :: .iv x11 :: .any :: .ptr 1 0 :: .bv x14::an 10 (Sp3 x1.Sess :: .iv (ln Sess.row x1.Sess) :: .iv x12::an 47 [])),[some ⟨32,Book.row x1⟩,some ⟨60,Sess.row x13⟩],[]⟩:St)) (Zof x1 x11 x12 x13) y1 ?_ fun J3=>?_
     ·intro x14 h;rw [Zof] at h;(try dsimp only);refine Zv2 11 ?_;dsimp only[go_sem];refine An (Zo4 (fun (x17:Bool)=>(⟨(.any :: .ptr 0 0::an 3 (.ptr 1 0 :: .bv x14::an 10 (Sp3 x1.Sess :: .iv (ln Sess.row x1.Sess) :: .iv x12::an 11 (.bv x17::an 35 [])))),[some ⟨32,Book.row x1⟩,some ⟨60,Sess.row x13⟩],[]⟩:St)) (Znf x12 x13 x14) y1 ?_ fun J4=>?_)
      ·intro x17 h;rw [Znf] at h;(try dsimp only);refine MI h (fun h=>?_) fun h=>?_
       ·refine Zv2 4 ?_;dsimp only[go_sem];refine An ?_;exact Zw4 (res:=fun (r:Int)=>.iv r) ok50 (Zn4 h hout1)
       ·refine Zv2 5 ?_;dsimp only[go_sem];refine An (Zo4 (fun (x18:Bool)=>(⟨(.any :: .ptr 0 0::an 3 (.ptr 1 0::an 11 (Sp3 x1.Sess :: .iv (ln Sess.row x1.Sess) :: .iv x12::an 31 (.bv x18::an 15 [])))),[some ⟨32,Book.row x1⟩,some ⟨60,Sess.row x13⟩],[]⟩:St)) (Zmf x12 x13) y1 ?_ fun J5=>?_)
        ·intro x18 h;rw [Zmf] at h;(try dsimp only);refine MI h (fun h=>?_) fun h=>?_
         ·refine Zv2 4 ?_;dsimp only[go_sem];refine An ?_;exact Zw4 (res:=fun (r:Int)=>.iv r) ok50 (Zn4 h hout1)
         ·refine Zv2 12 ?_;dsimp only[go_sem];refine An ?_;exact Zx4 h hin1
        ·refine MC 54 h (fun h=>?_) fun h=>?_
         ·dsimp only[go_sem];refine Zv2 4 ?_;dsimp only[go_sem];refine An (MC 58 h (fun h=>?_) fun h=>?_)
          ·dsimp only[go_sem];refine Zv2 7 ?_;dsimp only[go_sem];refine An ?_;exact Zy4 J5 (s:=true) h
          ·dsimp only[go_sem];refine Zv2 7 ?_;dsimp only[go_sem];refine An ?_;exact Zy4 J5 (s:=!decide (x13.Age=0)) h
         ·dsimp only[go_sem];refine Zv2 11 ?_;dsimp only[go_sem];refine An ?_;exact Zy4 J5 (s:=false) h
      ·refine MI h (fun h=>?_) fun h=>?_
       ·refine Zv2 1 ?_;dsimp only[go_sem];refine An ?_;exact Zy4 J4 (s:=decide (x13.ID≤x11)) h
       ·refine Zv2 9 ?_;dsimp only[go_sem];refine An (MI h (fun h=>?_) fun h=>?_)
        ·refine Zv2 1 ?_;dsimp only[go_sem];refine An ?_;exact Zy4 J4 (s:=decide (x1.Last<x13.ID)) h
        ·refine Zv2 4 ?_;dsimp only[go_sem];refine An ?_;have ⟨x15,ex15,h⟩:=Bs h;refine VC (Zud x13.Need _ ex15) (Zv2 2 ?_);dsimp only[go_sem];refine An (MI h (fun h=>?_) fun h=>?_)
         ·refine Zv2 1 ?_;dsimp only[go_sem];refine An ?_;exact Zy4 J4 (s:=x15) h
         ·refine Zv2 4 ?_;dsimp only[go_sem];refine An ?_;have ⟨x16,ex16,h⟩:=Bs h;refine VC (Z98 x13.Need _ ex16) (Zv2 3 ?_);dsimp only[go_sem];refine An (MI h (fun h=>?_) fun h=>?_)
          ·refine Zv2 1 ?_;dsimp only[go_sem];refine An ?_;exact Zy4 J4 (s:=!x16) h
          ·refine Zv2 6 ?_;dsimp only[go_sem];refine An ?_;exact Zy4 J4 (s:=decide (x13.Age<0)) h
     ·refine MC 27 h (fun h=>?_) fun h=>?_
      ·dsimp only[go_sem];refine Zv2 5 ?_;dsimp only[go_sem];refine An ?_;exact Zy4 J3 (s:=decide (x12=0)) h
      ·dsimp only[go_sem];refine Zv2 5 ?_;dsimp only[go_sem];refine An ?_;exact Zy4 J3 (s:=false) h
    ·refine Zv2 1 ?_;dsimp only[go_sem];refine An ?_;exact Zy4 J2 (s:=()) (Zn4 h hout1)
 ·refine MC 10 h (fun h=>?_) fun h=>?_
  ·dsimp only[go_sem];refine Zv2 6 ?_;dsimp only[go_sem];refine An ?_;exact Zy4 J1 (s:=true) h
  ·dsimp only[go_sem];refine Zv2 6 ?_;dsimp only[go_sem];refine An ?_;exact Zy4 J1 (s:=decide (8<(ln Sess.row x1.Sess))) h
def Ztf (x1:List Side) (x2:Int) (x3:DI):Option (Bool×Int):=
 (Zxd x1 x2 x3).bind fun x4=>
 some (decide (0≤x4.1),x4.2)
theorem Zuf (x1:List Side) (x2:Int) (x3:DI) (r:(Bool×Int)) (h:Ztf x1 x2 x3=some r):Zr5 Tryz.prog 88 [Sp2 x1,.clo 140 [.ptr 0 0,.ptr 1 0]] [some ⟨3,[.iv x2]⟩,some ⟨25,DI.row x3⟩] [] (.bv r.1) [some ⟨3,[.iv r.2]⟩,some ⟨25,DI.row x3⟩] []:=by
 refine FT ok88 fun w0 M0=>?_
 rw [Ztf] at h
 dsimp only[lun,List.cons_append,List.nil_append]
 refine Zv2 8 ?_;dsimp only[go_sem];refine An ?_;have ⟨x4,ex4,h⟩:=Bs h;refine Zt5 [true,true] [] trivial (Zyd x1 x2 x3 _ ex4) (h:=?_);dsimp only[go_sem];refine Zv2 3 ?_;dsimp only[go_sem];refine An ?_;obtain rfl:=Option.some.inj h;exact Z57 ok88
@[go_sem] def e175:EC:=(by have h:=hF Tryz.f175;(conv at h=>rhs;reduce);dsimp only[go_sem] at h;exact ⟨_,h⟩:DP Tryz.f175).1
theorem ok175:FnOK Tryz.prog 175 Tryz.f175 e175 [] 1 134:=okA
@[go_sem] def e81:EC:=(by have h:=hF Tryz.f81;(conv at h=>rhs;reduce);dsimp only[go_sem] at h;exact ⟨_,h⟩:DP Tryz.f81).1
theorem ok81:FnOK Tryz.prog 81 Tryz.f81 e81 [.t 6] 3 92:=okA
@[go_sem] def e123:EC:=(by have h:=hF Tryz.f123;(conv at h=>rhs;reduce);dsimp only[go_sem] at h;exact ⟨_,h⟩:DP Tryz.f123).1
theorem ok123:FnOK Tryz.prog 123 Tryz.f123 e123 [.t 6] 3 92:=okA
@[go_sem] def e125:EC:=(by have h:=hF Tryz.f125;(conv at h=>rhs;reduce);dsimp only[go_sem] at h;exact ⟨_,h⟩:DP Tryz.f125).1
theorem ok125:FnOK Tryz.prog 125 Tryz.f125 e125 [.t 4] 3 19:=okA
@[go_sem] def e128:EC:=(by have h:=hF Tryz.f128;(conv at h=>rhs;reduce);dsimp only[go_sem] at h;exact ⟨_,h⟩:DP Tryz.f128).1
theorem ok128:FnOK Tryz.prog 128 Tryz.f128 e128 [.t 3] 2 15:=okA
def Zvf:Bool→Option Bool
| x5=>
 some x5
def Zwf (x1:Side) (x2:node_node):Option Bool:=
 (Zl9 x1).bind fun x3=>
 ifb x3 (
 (Zhd x2.Node.Told x1.Peer).bind fun x4=>
 Zvf (!x4)) (
 Zvf false)
theorem Zxf (x1:Side) (x2:node_node) (r:Bool) (h:Zwf x1 x2=some r):Z03 Tryz.prog 128 [.agg (Side.row x1),.elt ((ptrRow node_node.row) x2) 0] (.bv r):=by
 refine FP ok128 fun w0 H0=>?_
 rw [Zwf] at h
 refine Zv2 6 ?_;dsimp only[go_sem];refine An (Zo4 (fun (x5:Bool)=>(⟨an 3 (.bv x5::an 13 []),[],[]⟩:St)) Zvf r ?_ fun J1=>?_)
 ·intro x5 h;rw [Zvf] at h;(try dsimp only);exact Zw4 (res:=fun (r:Bool)=>.bv r) ok128 h
 ·refine Z07 fun all H=>?_;dsimp only[go_sem];refine GN H 1 13 ?_;dsimp only[go_sem];refine An (Z64 1 rfl ?_);have ⟨x3,ex3,h⟩:=Bs h;refine GC H.1 (Zm9 x1 _ ex3) ?_;dsimp only[go_sem];refine GN H 1 11 ?_;dsimp only[go_sem];refine An (Z35 6 h rfl (fun _ h=>?_) fun _ h=>?_)
  ·dsimp only[go_sem]
   refine GP H 7 4 [10,4] [(7,[.elt (node_node.row x2) 0,.elt (node_node.row x2) 0,.elt (node_node.row x2) 0,.elt (node_node.row x2) 8,Sp0 x2.Node.Told,.ptr 0 0,.iv x1.Peer])] ?_
   dsimp only[go_sem];refine Z64 10 rfl ?_;have ⟨x4,ex4,h⟩:=Bs h;refine GC H.1 (Zid x2.Node.Told x1.Peer _ ex4) ?_;dsimp only[go_sem];refine GN H 3 0 ?_;dsimp only[go_sem];refine An (GD ?_);exact Zy4 J1 (s:=!x4) h
  ·dsimp only[go_sem];refine GP H 11 0 [14] [(16,[.ff])] ?_;dsimp only[go_sem];refine GD ?_;exact Zy4 J1 (s:=false) h
@[go_sem] def e133:EC:=(by have h:=hF Tryz.f133;(conv at h=>rhs;reduce);dsimp only[go_sem] at h;exact ⟨_,h⟩:DP Tryz.f133).1
theorem ok133:FnOK Tryz.prog 133 Tryz.f133 e133 [] 1 70:=okA
@[go_sem] def e26:EC:=(by have h:=hF Tryz.f26;(conv at h=>rhs;reduce);dsimp only[go_sem] at h;exact ⟨_,h⟩:DP Tryz.f26).1
theorem ok26:FnOK Tryz.prog 26 Tryz.f26 e26 [.t 4] 2 36:=okA
def Zyf:Bool→Option Bool
| x8=>
 some x8
def Zzf (x1 x2:Node):Option Bool:=
 (Z2e x1.DK x2.DK).bind fun x3=>
 ifb x3 (
 (Zke x1.Book x2.Book).bind fun x4=>
 ifb x4 (
 (Zv9 x1.KN x2.KN).bind fun x5=>
 ifb x5 (
 (Zt8 x1.Told x2.Told).bind fun x6=>
 ifb x6 (
 (Zv9 x1.AK x2.AK).bind fun x7=>
 Zyf x7) (
 Zyf false)) (
 Zyf false)) (
 Zyf false)) (
 Zyf false)
theorem Z0g (x1 x2:Node) (r:Bool) (h:Zzf x1 x2=some r):Z03 Tryz.prog 26 [.agg (Node.row x1),.agg (Node.row x2)] (.bv r):=by
 refine FP ok26 fun w0 H0=>?_
 rw [Zzf] at h
 refine Zv2 12 ?_;dsimp only[go_sem];refine An ?_;have ⟨x3,ex3,h⟩:=Bs h;refine VC (Z3e x1.DK x2.DK _ ex3) (Zv2 1 ?_);dsimp only[go_sem];refine An (Zo4 (fun (x8:Bool)=>(⟨an 4 (.bv x8::an 33 []),[],[]⟩:St)) Zyf r ?_ fun J1=>?_)
 ·intro x8 h;rw [Zyf] at h;(try dsimp only);exact Zw4 (res:=fun (r:Bool)=>.bv r) ok26 h
 ·refine MC 10 h (fun h=>?_) fun h=>?_
  ·dsimp only[go_sem];refine Zv2 4 ?_;dsimp only[go_sem];refine An ?_;have ⟨x4,ex4,h⟩:=Bs h;refine VC (k_sess_Same x1.Book x2.Book _ ex4) (Zv2 2 ?_);dsimp only[go_sem];refine An (MC 17 h (fun h=>?_) fun h=>?_)
   ·dsimp only[go_sem];refine Zv2 4 ?_;dsimp only[go_sem];refine An ?_;have ⟨x5,ex5,h⟩:=Bs h;refine VC (Zw9 x1.KN x2.KN _ ex5) (Zv2 2 ?_);dsimp only[go_sem];refine An (MC 24 h (fun h=>?_) fun h=>?_)
    ·dsimp only[go_sem];refine Zv2 4 ?_;dsimp only[go_sem];refine An ?_;have ⟨x6,ex6,h⟩:=Bs h;refine VC (Zu8 x1.Told x2.Told _ ex6) (Zv2 2 ?_);dsimp only[go_sem];refine An (MC 31 h (fun h=>?_) fun h=>?_)
     ·dsimp only[go_sem];refine Zv2 4 ?_;dsimp only[go_sem];refine An ?_;have ⟨x7,ex7,h⟩:=Bs h;refine VC (Zw9 x1.AK x2.AK _ ex7) (Zv2 3 ?_);dsimp only[go_sem];refine An ?_;exact Zy4 J1 (s:=x7) h
     ·dsimp only[go_sem];refine Zv2 8 ?_;dsimp only[go_sem];refine An ?_;exact Zy4 J1 (s:=false) h
    ·dsimp only[go_sem];refine Zv2 15 ?_;dsimp only[go_sem];refine An ?_;exact Zy4 J1 (s:=false) h
   ·dsimp only[go_sem];refine Zv2 22 ?_;dsimp only[go_sem];refine An ?_;exact Zy4 J1 (s:=false) h
  ·dsimp only[go_sem];refine Zv2 29 ?_;dsimp only[go_sem];refine An ?_;exact Zy4 J1 (s:=false) h
def Z1g (x1 _x2:Int) (_x3 _x4 _x5:Int) (_x6:List Sess) (_x7:List Int) (_x8:Int) (x9:List Side) (_x10:List Int) (_x11 _x12:List KE) (_x13:List Mail) (_x14:List Event):Option (List Side):=
 (Zue x9 ((fun z=>Zn9 z x1))).bind fun x15=>
 some x15
theorem Z2g (x1 x2:Int) (x3 x4 x5:Int) (x6:List Sess) (x7:List Int) (x8:Int) (x9:List Side) (x10:List Int) (x11 x12:List KE) (x13:List Mail) (x14:List Event) (r:List Side) (h:Z1g x1 x2 x3 x4 x5 x6 x7 x8 x9 x10 x11 x12 x13 x14=some r):Zr5 Tryz.prog 48 [.ptr 0 0,.iv x1] [some ⟨81,[.iv x2,.iv x3,.osl 0,.iv x4,.osl 1,.iv x5,Sp3 x6,.osl 2,Sp0 x7,.osl 3,.osl 4,.osl 5,.iv x8]⟩] [Sq6 x9,Sq7 x10,Sq8 x11,Sq8 x12,Zb7 x13,Za7 x14] (.tup []) [some ⟨81,[.iv x2,.iv x3,.osl 6,.iv x4,.osl 1,.iv x5,Sp3 x6,.osl 2,Sp0 x7,.osl 3,.osl 4,.osl 5,.iv x8]⟩] [none,Sq7 x10,Sq8 x11,Sq8 x12,Zb7 x13,Za7 x14,Sq6 r]:=by
 refine FT ok48 fun w0 M0=>?_
 rw [Z1g] at h
 dsimp only[lun,List.cons_append,List.nil_append]
 refine Zv2 14 ?_;dsimp only[go_sem];refine An (Zk3 1 rfl rfl ?_);dsimp only[go_sem];have ⟨x15,ex15,h⟩:=Bs h;refine Z77 [] [0] 2 6 (Zve x9 _ _ ((fun z=>Zn9 z x1)) ⟨by kernel_rfl,rfl,fun z r hz=>Zo9 z x1 r hz⟩ _ ex15) ?_;dsimp only[go_sem];refine Zv2 7 ?_;dsimp only[go_sem];refine An ?_;obtain rfl:=Option.some.inj h;exact Z67 ok48
def Z3g (x1:List KE) (x2:Int):Option (Bool×Int):=
 (Zye x1 x2).bind fun x3=>
 some (decide (0≤x3.1),x3.2)
theorem Z4g (x1:List KE) (x2:Int) (r:(Bool×Int)) (h:Z3g x1 x2=some r):Zr5 Tryz.prog 90 [Sp1 x1,.clo 102 [.ptr 0 0]] [some ⟨3,[.iv x2]⟩] [] (.bv r.1) [some ⟨3,[.iv r.2]⟩] []:=by
 refine FT ok90 fun w0 M0=>?_
 rw [Z3g] at h
 dsimp only[lun,List.cons_append,List.nil_append]
 refine Zv2 8 ?_;dsimp only[go_sem];refine An ?_;have ⟨x3,ex3,h⟩:=Bs h;refine Zt5 [true] [] trivial (Zze x1 x2 _ ex3) (h:=?_);dsimp only[go_sem];refine Zv2 3 ?_;dsimp only[go_sem];refine An ?_;obtain rfl:=Option.some.inj h;exact Z57 ok90
@[go_sem] def e103:EC:=(by have h:=hF Tryz.f103;(conv at h=>rhs;reduce);dsimp only[go_sem] at h;exact ⟨_,h⟩:DP Tryz.f103).1
theorem ok103:FnOK Tryz.prog 103 Tryz.f103 e103 [.t 3] 2 6:=okA
def Z5g (x1:KE) (x2:Node):Option Bool:=
 (Z1f x2 x1).bind fun x3=>
 some (!x3)
theorem Z6g (x1:KE) (x2:Node) (r:Bool) (h:Z5g x1 x2=some r):Z03 Tryz.prog 103 [.agg (KE.row x1),.elt (Node.row x2) 0] (.bv r):=by
 refine FP ok103 fun w0 H0=>?_
 rw [Z5g] at h
 refine Zv2 9 ?_;dsimp only[go_sem];refine An ?_;have ⟨x3,ex3,h⟩:=Bs h;refine VC (Z2f x2 x1 _ ex3) (Zv2 3 ?_);dsimp only[go_sem];refine An ?_;exact Zw4 (res:=fun (r:Bool)=>.bv r) ok103 h
@[go_sem] def e143:EC:=(by have h:=hF Tryz.f143;(conv at h=>rhs;reduce);dsimp only[go_sem] at h;exact ⟨_,h⟩:DP Tryz.f143).1
theorem ok143:FnOK Tryz.prog 143 Tryz.f143 e143 [.t 3] 2 5:=okA
def Z7g (x1:Int) (x2:List Int):Option Bool:=
 (Zhd x2 x1).bind fun x3=>
 some x3
theorem k_set_Both_1 (x1:Int) (x2:List Int) (r:Bool) (h:Z7g x1 x2=some r):Z03 Tryz.prog 143 [.iv x1,.elt ((Z25 1 Z15) x2) 0] (.bv r):=by
 refine FP ok143 fun w0 H0=>?_
 rw [Z7g] at h
 refine Zv2 8 ?_;dsimp only[go_sem];refine An ?_;have ⟨x3,ex3,h⟩:=Bs h;refine VC (Zid x2 x1 _ ex3) (Zv2 2 ?_);dsimp only[go_sem];refine An ?_;exact Zw4 (res:=fun (r:Bool)=>.bv r) ok143 h
def Z8g (x1 _x2:Int) (_x3 _x4:Int) (_x5 _x6:Int) (x7:List Side) (_x8:List Int) (_x9:List Sess) (_x10:List KE) (_x11:List Int) (_x12:List KE):Option (List Side):=
 (Zue x7 ((fun z=>Zn9 z x1))).bind fun x13=>
 some x13
theorem Z9g (x1 x2:Int) (x3 x4:Int) (x5 x6:Int) (x7:List Side) (x8:List Int) (x9:List Sess) (x10:List KE) (x11:List Int) (x12:List KE) (r:List Side) (h:Z8g x1 x2 x3 x4 x5 x6 x7 x8 x9 x10 x11 x12=some r):Zr5 Tryz.prog 48 [.ptr 0 0,.iv x1] [some ⟨81,[.iv x2,.iv x3,.osl 0,.iv x4,.osl 1,.iv x5,.osl 2,.osl 3,.osl 4,.osl 5,.nl,.nl,.iv x6]⟩] [Sq6 x7,Sq7 x8,Sq9 x9,Sq8 x10,Sq7 x11,Sq8 x12] (.tup []) [some ⟨81,[.iv x2,.iv x3,.osl 6,.iv x4,.osl 1,.iv x5,.osl 2,.osl 3,.osl 4,.osl 5,.nl,.nl,.iv x6]⟩] [none,Sq7 x8,Sq9 x9,Sq8 x10,Sq7 x11,Sq8 x12,Sq6 r]:=by
 refine FT ok48 fun w0 M0=>?_
 rw [Z8g] at h
 dsimp only[lun,List.cons_append,List.nil_append]
 refine Zv2 14 ?_;dsimp only[go_sem];refine An (Zk3 1 rfl rfl ?_);dsimp only[go_sem];have ⟨x13,ex13,h⟩:=Bs h;refine Z77 [] [0] 2 6 (Zve x7 _ _ ((fun z=>Zn9 z x1)) ⟨by kernel_rfl,rfl,fun z r hz=>Zo9 z x1 r hz⟩ _ ex13) ?_;dsimp only[go_sem];refine Zv2 7 ?_;dsimp only[go_sem];refine An ?_;obtain rfl:=Option.some.inj h;exact Z67 ok48
@[go_sem] def e155:EC:=(by have h:=hF Tryz.f155;(conv at h=>rhs;reduce);dsimp only[go_sem] at h;exact ⟨_,h⟩:DP Tryz.f155).1
theorem ok155:FnOK Tryz.prog 155 Tryz.f155 e155 [.t 4] 2 7:=okA
def Zag (x1:List Int) (x2:Int):Option (List Int):=
 (Zhf x1 ([x2])).bind fun x3=>
 some x3
theorem k_set_Add (x1:List Int) (x2:Int) (r:List Int) (h:Zag x1 x2=some r):Z03 Tryz.prog 155 [Sp0 x1,.iv x2] (Sp0 r):=by
 refine FP ok155 fun w0 H0=>?_
 rw [Zag] at h
 refine Zv2 9 ?_;dsimp only[go_sem];refine An (Z27 0 ?_);dsimp only[go_sem];have ⟨x3,ex3,h⟩:=Bs h;refine VC (k_set_Union x1 ([x2]) _ ex3) (Zv2 2 ?_);dsimp only[go_sem];refine An ?_;exact Zw4 (res:=fun (r:List Int)=>Sp0 r) ok155 h
@[go_sem] def e92:EC:=(by have h:=hF Tryz.f92;(conv at h=>rhs;reduce);dsimp only[go_sem] at h;exact ⟨_,h⟩:DP Tryz.f92).1
theorem ok92:FnOK Tryz.prog 92 Tryz.f92 e92 [.t 4] 2 6:=okA
def Zbg (x1 x2:List Int):Option (List Int):=
 (Zjf x1 ((fun z=>Zif z x2))).bind fun x3=>
 some x3
theorem Zcg (x1 x2 r:List Int) (h:Zbg x1 x2=some r):Z03 Tryz.prog 92 [Sp0 x1,Sp0 x2] (Sp0 r):=by
 refine FP ok92 fun w0 H0=>?_
 rw [Zbg] at h
 refine Zv2 9 ?_;dsimp only[go_sem];refine An (Zk3 0 rfl rfl ?_);dsimp only[go_sem];have ⟨x3,ex3,h⟩:=Bs h;refine VC (Zkf x1 _ _ ((fun z=>Zif z x2)) ⟨by kernel_rfl,rfl,fun z r hz=>k_set_Minus_1 z x2 r hz⟩ _ ex3) (Zv2 2 ?_);dsimp only[go_sem];refine An ?_;exact Zw4 (res:=fun (r:List Int)=>Sp0 r) ok92 h
end
end NX
end Go.Proofs.YtdjkbodnjhgbcaaGreat
