/-
  The function narthex/node.own, lent own memory. Written by a program of ours (lb.py). No statement of the seat is proved here.
-/
import Derived.Test.YtdjkbodnjhgbcaaGreatB17
import Derived.Test.YtdjkbodnjhgbcaaGreatB18
set_option maxRecDepth 100000
set_option maxHeartbeats 4000000
namespace Go.Proofs.YtdjkbodnjhgbcaaGreat
namespace NX
open Go
noncomputable section
def Zle (x14:List Side) (x15:List Int) (x21:List KE) (x22:List Int) (x23:List KE):List Sess→Option (List Side×List Int×List KE×List Int×List KE×List Sess)
| x55=>
 some (x14,x15,x21,x22,x23,x55)
def Zme (x31:Int):List Sess→Option ((Int×List Sess) ⊕ (List Side×List Int×List KE×List Int×List KE×List Sess))
| x36=>
 some (.inl (wr (x31+1),x36))
def Zne (x14:List Side) (x15:List Int) (x21:List KE) (x22:List Int) (x23:List KE) (x24:List Sess):(Int×List Sess)→Option ((Int×List Sess) ⊕ (List Side×List Int×List KE×List Int×List KE×List Sess))
| (x31,x32)=>
 ifb (decide (x31<(ln Sess.row x24))) (
 (at_ x32 x31).bind fun x33=>
 (Zx7 x33.Need).bind fun x34=>
 (Zme x31) (x32.set (Int.toNat (x31)) (Sess.mk x33.ID x34 x33.State x33.Age))) (
 Option.map Sum.inr ((Zle x14 x15 x21 x22 x23) x32))
def Zoe (x5:List Sess) (x14:List Side) (x15:List Int):(List KE×List Int×List KE)→Option (List Side×List Int×List KE×List Int×List KE×List Sess)
| (x21,x22,x23)=>
 (Za8 x5).bind fun x24=>
 loop (Zne x14 x15 x21 x22 x23 x24) (0,x24)
def Zpe (x5:List Sess) (x6:List Int) (x9 x10:List KE):(List Side×List Int)→Option (List Side×List Int×List KE×List Int×List KE×List Sess)
| (x14,x15)=>
 (Zv8 x9).bind fun x16=>
 (Zx7 x6).bind fun x18=>
 (Zv8 x10).bind fun x20=>
 (Zoe x5 x14 x15) (x16,x18,x20)
def Zqe (_x1 _x2:Int) (_x3 _x4:Int) (x5:List Sess) (x6:List Int) (x7:List Side) (x8:List Int) (x9 x10:List KE):Option (List Side×List Int×List KE×List Int×List KE×List Sess):=
 (Zk8 x7).bind fun x11=>
 (Zx7 x8).bind fun x13=>
 (Zpe x5 x6 x9 x10) (x11,x13)
theorem t_node_own_I3 (x1 x2:Int) (x3 x4:Int) (x5:List Sess) (x6:List Int) (x7:List Side) (x8:List Int) (x9 x10:List KE) (r:(List Side×List Int×List KE×List Int×List KE×List Sess)) (h:Zqe x1 x2 x3 x4 x5 x6 x7 x8 x9 x10=some r):Zr5 Tryz.prog 29 [.agg [.iv x1,.iv x2,.osl 0,.iv x3,.osl 1,.iv x4,Sp3 x5,.osl 2,Sp0 x6,.osl 3]] [] [Sq6 x7,Sq7 x8,Sq8 x9,Sq8 x10] (.agg [.iv x1,.iv x2,.osl 4,.iv x3,.osl 5,.iv x4,.osl 9,.osl 6,.osl 7,.osl 8]) [] [Sq6 x7,Sq7 x8,Sq8 x9,Sq8 x10,Sq6 r.1,Sq7 r.2.1,Sq8 r.2.2.1,Sq7 r.2.2.2.1,Sq8 r.2.2.2.2.1,Sq9 r.2.2.2.2.2]:=by
 refine FT ok29 fun w0 M0=>?_
 rw [Zqe] at h
 dsimp only[lun,List.cons_append,List.nil_append]
 refine Zv2 6 ?_;dsimp only[go_sem];refine An ?_
 refine Zo4 (fun ((x14,x15):(List Side×List Int))=>(⟨(.any :: .ptr 0 0 :: .ptr 1 0::an 56 []),[some ⟨35,[.iv x1,.iv x2,.osl 4,.iv x3,.osl 5,.iv x4,Sp3 x5,.osl 2,Sp0 x6,.osl 3]⟩,some ⟨35,[.iv 0,.iv 0,.nl,.iv 0,.nl,.iv 0,.nl,.nl,.nl,.nl]⟩],[Sq6 x7,Sq7 x8,Sq8 x9,Sq8 x10,Sq6 x14,Sq7 x15]⟩:St)) (Zpe x5 x6 x9 x10) r ?_ fun J1=>?_
 ·rintro ⟨x14,x15⟩ h;rw [Zpe] at h;(try dsimp only);refine Zv2 1 ?_;dsimp only[go_sem];refine An ?_
  refine Zo4 (fun ((x21,x22,x23):(List KE×List Int×List KE))=>(⟨(.any :: .ptr 0 0 :: .ptr 1 0::an 56 []),[some ⟨35,[.iv x1,.iv x2,.osl 4,.iv x3,.osl 5,.iv x4,Sp3 x5,.osl 6,.osl 7,.osl 8]⟩,some ⟨35,[.iv 0,.iv 0,.nl,.iv 0,.nl,.iv 0,.nl,.nl,.nl,.nl]⟩],[Sq6 x7,Sq7 x8,Sq8 x9,Sq8 x10,Sq6 x14,Sq7 x15,Sq8 x21,Sq7 x22,Sq8 x23]⟩:St)) (Zoe x5 x14 x15) r ?_ fun J2=>?_
  ·rintro ⟨x21,x22,x23⟩ h;rw [Zoe] at h;(try dsimp only);refine Zv2 5 ?_;dsimp only[go_sem];refine An ?_;have ⟨x24,ex24,h⟩:=Bs h;refine Z85 trivial (Zb8 x5 _ ex24) (h:=?_);refine Zv2 13 ?_;dsimp only[go_sem];refine An ?_
   refine Zo4 (fun (x55:List Sess)=>(⟨(.any :: .ptr 0 0 :: .ptr 1 0::an 56 []),[some ⟨35,[.iv x1,.iv x2,.osl 4,.iv x3,.osl 5,.iv x4,.osl 9,.osl 6,.osl 7,.osl 8]⟩,some ⟨35,[.iv 0,.iv 0,.nl,.iv 0,.nl,.iv 0,.nl,.nl,.nl,.nl]⟩],[Sq6 x7,Sq7 x8,Sq8 x9,Sq8 x10,Sq6 x14,Sq7 x15,Sq8 x21,Sq7 x22,Sq8 x23,Sq9 x55]⟩:St)) (Zle x14 x15 x21 x22 x23) r ?_ fun J3=>?_
   ·intro x55 h;rw [Zle] at h;(try dsimp only);refine Zv2 5 ?_;dsimp only[go_sem];refine An ?_;obtain rfl:=Option.some.inj h;exact Z57 ok29
   ·refine Zv2 1 ?_;dsimp only[go_sem];refine An ?_
    refine Zp4 h (fun ((x31,x32):(Int×List Sess))=>(⟨(.any :: .ptr 0 0 :: .ptr 1 0::an 36 (.iv (ln Sess.row x24) :: .iv x31::an 18 [])),[some ⟨35,[.iv x1,.iv x2,.osl 4,.iv x3,.osl 5,.iv x4,.osl 9,.osl 6,.osl 7,.osl 8]⟩,some ⟨35,[.iv 0,.iv 0,.nl,.iv 0,.nl,.iv 0,.nl,.nl,.nl,.nl]⟩],[Sq6 x7,Sq7 x8,Sq8 x9,Sq8 x10,Sq6 x14,Sq7 x15,Sq8 x21,Sq7 x22,Sq8 x23,Sq9 x32]⟩:St)) (by simp [go_sem]) (by rintro ⟨x31,x32⟩;first | rfl | simp [go_sem]) ?_
    rintro n1 ⟨x31,x32⟩ y1 h hin1 hout1;rw [Zne] at h;(try dsimp only);refine Zv2 5 ?_;dsimp only[go_sem];refine An (MI h (fun h=>?_) fun h=>?_)
    ·refine Zv2 8 ?_;dsimp only[go_sem];refine An ?_
     refine Zo4 (fun (x36:List Sess)=>(⟨(.any :: .ptr 0 0 :: .ptr 1 0::an 36 (.iv (ln Sess.row x24) :: .iv x31::an 18 [])),[some ⟨35,[.iv x1,.iv x2,.osl 4,.iv x3,.osl 5,.iv x4,.osl 9,.osl 6,.osl 7,.osl 8]⟩,some ⟨35,[.iv 0,.iv 0,.nl,.iv 0,.nl,.iv 0,.nl,.nl,.nl,.nl]⟩],[Sq6 x7,Sq7 x8,Sq8 x9,Sq8 x10,Sq6 x14,Sq7 x15,Sq8 x21,Sq7 x22,Sq8 x23,Sq9 x36]⟩:St)) (Zme x31) y1 ?_ fun J4=>?_
     ·intro x36 h;rw [Zme] at h;(try dsimp only);refine Zv2 5 ?_;dsimp only[go_sem];refine An ?_;exact Zx4 h hin1
     ·refine Z07 fun all H=>?_;dsimp only[go_sem];refine GP H 6 9 [2,1,3,1,1,7] [(43,[.ptr 0 5,.ptr 0 6]),(1,[.iv x31,.ptr 0 5,.ptr 0 6]),(1,[.iv x31])] ?_;dsimp only[go_sem];refine Z74 2 6 rfl ?_ ?_
      ·refine GV H.1 ?_;dsimp only[go_sem];refine GE H.1 6 ?_;dsimp only[go_sem];have ⟨x33,ex33,h⟩:=Bs h;refine Z64 8 rfl (GI H.1 Sess.row ex33 ?_);dsimp only[go_sem];refine GN H 1 5 ?_;dsimp only[go_sem];refine An (Z64 10 rfl (GL H.1 Sess.row ex33 ?_));dsimp only[go_sem];refine Z64 11 rfl ?_;have ⟨x34,ex34,h⟩:=Bs h;refine GC H.1 (Zz7 x33.Need _ ex34) ?_
       dsimp only[go_sem];refine Z64 12 rfl (GI H.1 Sess.row ex33 ?_);dsimp only[go_sem];refine GN H 1 1 ?_;dsimp only[go_sem];refine An (Z64 14 rfl (Zw5 H.1 [Sp0 x34] Sess.row (y':=(Sess.mk x33.ID x34 x33.State x33.Age)) ex33 rfl trivial rfl rfl rfl (by first | exact Zi4 _ | simp [go_sem]) rfl rfl rfl rfl ?_));dsimp only[go_sem];refine GD ?_;exact Zy4 J4 (s:=x32.set (Int.toNat (x31)) (Sess.mk x33.ID x34 x33.State x33.Age)) h
      ·refine GV H.1 ?_;dsimp only[go_sem];have ⟨x33,ex33,h⟩:=Bs h;refine Z74 2 8 rfl ?_ ?_
       ·refine GV H.1 ?_;dsimp only[go_sem];refine Z64 8 rfl (GI H.1 Sess.row ex33 ?_);dsimp only[go_sem];refine GN H 1 5 ?_;dsimp only[go_sem];refine An (Z64 10 rfl (GL H.1 Sess.row ex33 ?_));dsimp only[go_sem];refine Z64 11 rfl ?_;have ⟨x34,ex34,h⟩:=Bs h;refine GC H.1 (Zz7 x33.Need _ ex34) ?_;dsimp only[go_sem];refine Z64 12 rfl (GI H.1 Sess.row ex33 ?_)
        dsimp only[go_sem];refine GN H 1 1 ?_;dsimp only[go_sem];refine An (Z64 14 rfl (Zw5 H.1 [Sp0 x34] Sess.row (y':=(Sess.mk x33.ID x34 x33.State x33.Age)) ex33 rfl trivial rfl rfl rfl (by first | exact Zi4 _ | simp [go_sem]) rfl rfl rfl rfl ?_));dsimp only[go_sem];refine GD ?_;exact Zy4 J4 (s:=x32.set (Int.toNat (x31)) (Sess.mk x33.ID x34 x33.State x33.Age)) h
       ·refine GI H.1 Sess.row ex33 ?_;dsimp only[go_sem];refine GN H 1 6 ?_;dsimp only[go_sem];refine An (Z74 2 10 rfl ?_ ?_)
        ·refine GV H.1 ?_;dsimp only[go_sem];refine Z64 10 rfl (GL H.1 Sess.row ex33 ?_);dsimp only[go_sem];refine Z64 11 rfl ?_;have ⟨x34,ex34,h⟩:=Bs h;refine GC H.1 (Zz7 x33.Need _ ex34) ?_;dsimp only[go_sem];refine Z64 12 rfl (GI H.1 Sess.row ex33 ?_);dsimp only[go_sem];refine GN H 1 1 ?_;dsimp only[go_sem];refine An (Z64 14 rfl ?_)
         refine Zw5 H.1 [Sp0 x34] Sess.row (y':=(Sess.mk x33.ID x34 x33.State x33.Age)) ex33 rfl trivial rfl rfl rfl (by first | exact Zi4 _ | simp [go_sem]) rfl rfl rfl rfl ?_;dsimp only[go_sem];refine GD ?_;exact Zy4 J4 (s:=x32.set (Int.toNat (x31)) (Sess.mk x33.ID x34 x33.State x33.Age)) h
        ·refine GL H.1 Sess.row ex33 ?_;dsimp only[go_sem];have ⟨x34,ex34,h⟩:=Bs h;refine Z74 2 11 rfl ?_ ?_
         ·refine GV H.1 ?_;dsimp only[go_sem];refine Z64 11 rfl (GC H.1 (Zz7 x33.Need _ ex34) ?_);dsimp only[go_sem];refine Z64 12 rfl (GI H.1 Sess.row ex33 ?_);dsimp only[go_sem];refine GN H 1 1 ?_;dsimp only[go_sem];refine An (Z64 14 rfl ?_)
          refine Zw5 H.1 [Sp0 x34] Sess.row (y':=(Sess.mk x33.ID x34 x33.State x33.Age)) ex33 rfl trivial rfl rfl rfl (by first | exact Zi4 _ | simp [go_sem]) rfl rfl rfl rfl ?_;dsimp only[go_sem];refine GD ?_;exact Zy4 J4 (s:=x32.set (Int.toNat (x31)) (Sess.mk x33.ID x34 x33.State x33.Age)) h
         ·refine GC H.1 (Zz7 x33.Need _ ex34) ?_;dsimp only[go_sem];refine GE H.1 2 ?_;dsimp only[go_sem];refine Z64 12 rfl (GI H.1 Sess.row ex33 ?_);dsimp only[go_sem];refine GN H 1 1 ?_;dsimp only[go_sem];refine An (Z64 14 rfl ?_)
          refine Zw5 H.1 [Sp0 x34] Sess.row (y':=(Sess.mk x33.ID x34 x33.State x33.Age)) ex33 rfl trivial rfl rfl rfl (by first | exact Zi4 _ | simp [go_sem]) rfl rfl rfl rfl ?_;dsimp only[go_sem];refine GD ?_;exact Zy4 J4 (s:=x32.set (Int.toNat (x31)) (Sess.mk x33.ID x34 x33.State x33.Age)) h
    ·refine Zv2 1 ?_;dsimp only[go_sem];refine An ?_;exact Zy4 J3 (s:=x32) (Zn4 h hout1)
  ·refine Z07 fun all H=>?_;dsimp only[go_sem];refine GN H 4 11 ?_;dsimp only[go_sem];refine An (Z74 1 7 rfl ?_ ?_)
   ·refine GV H.1 ?_;dsimp only[go_sem];have ⟨x16,ex16,h⟩:=Bs h;refine Z74 2 7 rfl ?_ ?_
    ·refine Z87 H.1 [] [2] 2 6 (Zjc x9 _ ex16) ?_;dsimp only[go_sem];have ⟨x18,ex18,h⟩:=Bs h;refine Z74 5 7 rfl ?_ ?_
     ·refine Z95 H.1 rfl trivial (Zy7 x6 _ ex18) (h:=?_);dsimp only[go_sem];refine GE H.1 7 ?_;dsimp only[go_sem];refine GN H 1 6 ?_;dsimp only[go_sem];refine An (Z64 8 rfl ?_);have ⟨x20,ex20,h⟩:=Bs h;refine Z87 H.1 [] [3] 2 8 (Zjc x10 _ ex20) ?_;dsimp only[go_sem];refine GE H.1 10 ?_;dsimp only[go_sem]
      refine GN H 1 3 ?_;dsimp only[go_sem];refine An (GE H.1 12 ?_);dsimp only[go_sem];refine GN H 1 1 ?_;dsimp only[go_sem];refine An (GE H.1 14 ?_);dsimp only[go_sem];refine GD ?_;exact Zy4 J2 (s:=(x16,x18,x20)) h
     ·refine GV H.1 ?_;dsimp only[go_sem];refine GN H 1 7 ?_;dsimp only[go_sem];refine An (Z64 5 rfl (Z95 H.1 rfl trivial (Zy7 x6 _ ex18) (h:=?_)));dsimp only[go_sem];refine Z64 8 rfl ?_;have ⟨x20,ex20,h⟩:=Bs h;refine Z87 H.1 [] [3] 2 8 (Zjc x10 _ ex20) ?_;dsimp only[go_sem];refine GE H.1 10 ?_;dsimp only[go_sem]
      refine GN H 1 3 ?_;dsimp only[go_sem];refine An (GE H.1 12 ?_);dsimp only[go_sem];refine GN H 1 1 ?_;dsimp only[go_sem];refine An (GE H.1 14 ?_);dsimp only[go_sem];refine GD ?_;exact Zy4 J2 (s:=(x16,x18,x20)) h
    ·refine GV H.1 ?_;dsimp only[go_sem];refine Z64 2 rfl (Z87 H.1 [] [2] 2 6 (Zjc x9 _ ex16) ?_);dsimp only[go_sem];refine GN H 1 7 ?_;dsimp only[go_sem];refine An (Z64 5 rfl ?_);have ⟨x18,ex18,h⟩:=Bs h;refine Z95 H.1 rfl trivial (Zy7 x6 _ ex18) (h:=?_);dsimp only[go_sem];refine Z64 8 rfl ?_;have ⟨x19,ex19,h⟩:=Bs h
     refine Z87 H.1 [] [3] 2 8 (Zjc x10 _ ex19) ?_;dsimp only[go_sem];refine GE H.1 10 ?_;dsimp only[go_sem];refine GN H 1 3 ?_;dsimp only[go_sem];refine An (GE H.1 12 ?_);dsimp only[go_sem];refine GN H 1 1 ?_;dsimp only[go_sem];refine An (GE H.1 14 ?_);dsimp only[go_sem]
     refine GD ?_;exact Zy4 J2 (s:=(x16,x18,x19)) h
   ·refine GV H.1 ?_;dsimp only[go_sem];refine GE H.1 1 ?_;dsimp only[go_sem];refine Z64 2 rfl ?_;have ⟨x16,ex16,h⟩:=Bs h;refine Z87 H.1 [] [2] 2 6 (Zjc x9 _ ex16) ?_;dsimp only[go_sem];refine GN H 1 7 ?_;dsimp only[go_sem];refine An (Z64 5 rfl ?_);have ⟨x17,ex17,h⟩:=Bs h;refine Z95 H.1 rfl trivial (Zy7 x6 _ ex17) (h:=?_);dsimp only[go_sem]
    refine Z64 8 rfl ?_;have ⟨x18,ex18,h⟩:=Bs h;refine Z87 H.1 [] [3] 2 8 (Zjc x10 _ ex18) ?_;dsimp only[go_sem];refine GE H.1 10 ?_;dsimp only[go_sem];refine GN H 1 3 ?_;dsimp only[go_sem];refine An (GE H.1 12 ?_);dsimp only[go_sem];refine GN H 1 1 ?_;dsimp only[go_sem];refine An (Z64 14 rfl ?_)
    refine GV H.1 ?_;dsimp only[go_sem];refine GD ?_;exact Zy4 J2 (s:=(x16,x17,x18)) h
 ·refine Z07 fun all H=>?_;dsimp only[go_sem];refine GP H 5 11 [3,2,2,9] [(4,[.ptr 0 0,.ptr 0 0,.ptr 0 2]),(2,[.ptr 0 0,.ptr 0 4])] ?_;dsimp only[go_sem];refine Z74 3 7 rfl ?_ ?_
  ·refine GV H.1 ?_;dsimp only[go_sem];have ⟨x11,ex11,h⟩:=Bs h;refine Z74 4 7 rfl ?_ ?_
   ·refine Z87 H.1 [] [0] 2 4 (Zxb x7 _ ex11) ?_;dsimp only[go_sem];refine GE H.1 7 ?_;dsimp only[go_sem];refine GN H 3 5 ?_;dsimp only[go_sem];refine An (Z64 8 rfl ?_);have ⟨x13,ex13,h⟩:=Bs h;refine Z87 H.1 [] [1] 2 5 (Zyb x8 _ ex13) ?_;dsimp only[go_sem];refine GE H.1 12 ?_
    dsimp only[go_sem];refine GN H 2 1 ?_;dsimp only[go_sem];refine An (GE H.1 15 ?_);dsimp only[go_sem];refine GD ?_;exact Zy4 J1 (s:=(x11,x13)) h
   ·refine GV H.1 ?_;dsimp only[go_sem];refine Z64 4 rfl (Z87 H.1 [] [0] 2 4 (Zxb x7 _ ex11) ?_);dsimp only[go_sem];refine GN H 3 5 ?_;dsimp only[go_sem];refine An (Z64 8 rfl ?_);have ⟨x13,ex13,h⟩:=Bs h;refine Z87 H.1 [] [1] 2 5 (Zyb x8 _ ex13) ?_;dsimp only[go_sem];refine GE H.1 12 ?_
    dsimp only[go_sem];refine GN H 2 1 ?_;dsimp only[go_sem];refine An (GE H.1 15 ?_);dsimp only[go_sem];refine GD ?_;exact Zy4 J1 (s:=(x11,x13)) h
  ·refine GV H.1 ?_;dsimp only[go_sem];refine GE H.1 3 ?_;dsimp only[go_sem];refine Z64 4 rfl ?_;have ⟨x11,ex11,h⟩:=Bs h;refine Z87 H.1 [] [0] 2 4 (Zxb x7 _ ex11) ?_;dsimp only[go_sem];refine GN H 3 5 ?_;dsimp only[go_sem];refine An (Z64 8 rfl ?_);have ⟨x12,ex12,h⟩:=Bs h
   refine Z87 H.1 [] [1] 2 5 (Zyb x8 _ ex12) ?_;dsimp only[go_sem];refine GE H.1 12 ?_;dsimp only[go_sem];refine GN H 2 1 ?_;dsimp only[go_sem];refine An (GE H.1 15 ?_);dsimp only[go_sem];refine GD ?_;exact Zy4 J1 (s:=(x11,x12)) h
def Zre:(Int×List Side)→Option (List Side)
| (x25,x26)=>
 (vw_ (ln Side.row x26) x25 (ln Side.row x26)).bind fun _=>
 (clr_ x26 (Int.toNat (x25)) (Int.toNat (ln Side.row x26)-Int.toNat (x25)) (Side.mk 0 0 0 false false false false false)).bind fun x28=>
 (sub_ x28 0 x25).bind fun x29=>
 some x29
def Zse (x12:Int):(Int×List Side)→Option ((Int×Int×List Side) ⊕ (List Side))
| (x17,x18)=>
 some (.inl (x17,wr (x12+1),x18))
def Zte (p0:(Side→Option Bool)):(Int×Int×List Side)→Option ((Int×Int×List Side) ⊕ (List Side))
| (x11,x12,x13)=>
 ifb (decide (x12<(ln Side.row x13))) (
 (at_ x13 x12).bind fun x14=>
 (p0 x14).bind fun x15=>
 ifb (!x15) (
 (at_ x13 x11).bind fun _=>
 (Zse x12) (wr (x11+1),x13.set (Int.toNat (x11)) x14)) (
 (Zse x12) (x11,x13))) (
 Option.map Sum.inr (Zre (x11,x13)))
def Zue (x1:List Side) (p0:(Side→Option Bool)):Option (List Side):=
 (Zf7 x1 p0).bind fun x2=>
 ifb (decide (x2=((-1)))) (
 some x1) (
 loop (Zte p0) (x2,wr (x2+1),x1))
theorem Zve (x1:List Side) (g0:Nat) (caps0:List AV) (p0:(Side→Option Bool)) (hc0:CloOK Tryz.prog g0 caps0 (fun z=>[.agg (Side.row z)]) p0 (fun z=>.bv z)) (r:List Side) (h:Zue x1 p0=some r):Zr5 Tryz.prog 93 [.osl 0,.clo g0 caps0] [] [Sq6 x1] (.osl 1) [] [none,Sq6 r]:=by
 refine FT ok93 fun w0 M0=>?_
 rw [Zue] at h
 dsimp only[lun,List.cons_append,List.nil_append]
 refine Zv2 8 ?_;dsimp only[go_sem];refine An ?_;have ⟨x2,ex2,h⟩:=Bs h;refine VL (LR.slice 0 rfl) (Zg7 x1 _ _ p0 hc0 _ ex2) ?_ (hp:=(by first | rfl | simp [go_sem,hc0.pu])) (ha:=(by first | exact Zi4 _ | simp [go_sem,Zg4 _ _ _ hc0.pu]));refine Zv2 8 ?_;dsimp only[go_sem];refine An (MI h (fun h=>?_) fun h=>?_)
 ·refine Zv2 5 ?_;dsimp only[go_sem];refine An (Z47 65 8 ?_);dsimp only[go_sem];refine Z17 0 1 ?_;dsimp only[go_sem];(try rw [Zc6 _ _ _ hc0.pu]);obtain rfl:=Option.some.inj h;exact Z57 ok93
 ·refine Zv2 8 ?_;dsimp only[go_sem];refine An (Zo4 (fun ((x25,x26):(Int×List Side))=>(⟨(.osl 0::an 4 (.iv x25::an 36 [])),[],[Sq6 x26]⟩:St)) Zre r ?_ fun J1=>?_)
  ·rintro ⟨x25,x26⟩ h;rw [Zre] at h;(try dsimp only);refine Zv2 4 ?_;dsimp only[go_sem];refine An ?_;have ⟨x27,ex27,h⟩:=Bs h;refine V_viewM Side.row ex27 trivial rfl rfl rfl rfl ?_;have ⟨x28,ex28,h⟩:=Bs h;refine V_clrM Side.row ex28 trivial rfl rfl (by first | exact Zi4 _ | simp [go_sem]) (by first | rfl | simp [go_sem]) rfl rfl (Zv2 5 ?_);dsimp only[go_sem];refine An ?_;have ⟨x29,ex29,h⟩:=Bs h;refine V_cutM Side.row ex29 trivial rfl rfl rfl rfl (Zv2 2 ?_);dsimp only[go_sem];refine An ?_
   obtain rfl:=Option.some.inj h;exact Z57 ok93
  ·refine Zv2 1 ?_;dsimp only[go_sem];refine An (Zp4 h (fun ((x11,x12,x13):(Int×Int×List Side))=>(⟨(.osl 0 :: .clo g0 caps0::an 3 (.iv x11 :: .iv x12::an 35 [])),[],[Sq6 x13]⟩:St)) (by simp [go_sem]) (by rintro ⟨x11,x12,x13⟩;first | rfl | simp [go_sem,Zh4 _ hc0.pu]) ?_);rintro n1 ⟨x11,x12,x13⟩ y1 h hin1 hout1;rw [Zte] at h;(try dsimp only);refine Zv2 8 ?_;dsimp only[go_sem];refine An (MI h (fun h=>?_) fun h=>?_)
   ·refine Zv2 7 ?_;dsimp only[go_sem];refine An ?_;have ⟨x14,ex14,h⟩:=Bs h;refine Ze5 Side.row ex14 trivial rfl rfl rfl (Zh5 Side.row ex14 trivial rfl rfl rfl (Zv2 7 ?_));dsimp only[go_sem];refine An ?_;have ⟨x15,ex15,h⟩:=Bs h;refine Z05 trivial rfl hc0 (x:=x14) ex15 (by first | exact Zi4 _ | simp [go_sem]) (by first | rfl | simp [go_sem,hc0.pu]) (Zv2 2 ?_);dsimp only[go_sem];refine An ?_
    refine Zo4 (fun ((x17,x18):(Int×List Side))=>(⟨(.osl 0 :: .clo g0 caps0::an 3 (.iv x17 :: .iv x12::an 35 [])),[],[Sq6 x18]⟩:St)) (Zse x12) y1 ?_ fun J2=>?_
    ·rintro ⟨x17,x18⟩ h;rw [Zse] at h;(try dsimp only);refine Zv2 6 ?_;dsimp only[go_sem];refine An ?_;exact Zx4 h hin1 (hok:=by first | rfl | simp [go_sem,Zh4 _ hc0.pu])
    ·refine MI h (fun h=>?_) fun h=>?_
     ·refine Zv2 5 ?_;dsimp only[go_sem];refine An ?_;have ⟨x16,ex16,h⟩:=Bs h;refine Ze5 Side.row ex16 trivial rfl rfl rfl (Zl5 (Side.row x14) Side.row (y':=x14) ex16 trivial rfl rfl rfl (by first | exact Zi4 _ | simp [go_sem]) rfl rfl rfl rfl (Zv2 6 ?_));dsimp only[go_sem];refine An ?_;exact Zy4 J2 (s:=(wr (x11+1),x13.set (Int.toNat (x11)) x14)) h (hok:=by first | rfl | simp [go_sem,Zh4 _ hc0.pu])
     ·refine Zv2 1 ?_;dsimp only[go_sem];refine An ?_;exact Zy4 J2 (s:=(x11,x13)) h (hok:=by first | rfl | simp [go_sem,Zh4 _ hc0.pu])
   ·refine Zv2 1 ?_;dsimp only[go_sem];refine An ?_;exact Zy4 J1 (s:=(x11,x13)) (Zn4 h hout1) (hok:=by first | rfl | simp [go_sem])
def Zwe:Int→Option (Int×Int)
| x17=>
 some ((-1),x17)
def Zxe (x1:List KE):(Int×Int)→Option ((Int×Int) ⊕ (Int×Int))
| (x7,x8)=>
 ifb (decide (x7<(ln KE.row x1))) (
 (at_ x1 x7).bind fun x9=>
 (Zvc x9 x8).bind fun x10=>
 ifb x10 (
 Option.map Sum.inr (some (x7,x9.Peer))) (
 some (.inl (wr (x7+1),x9.Peer)))) (
 Option.map Sum.inr (Zwe x8))
def Zye (x1:List KE) (x2:Int):Option (Int×Int):=
 loop (Zxe x1) (0,x2)
theorem Zze (x1:List KE) (x2:Int) (r:(Int×Int)) (h:Zye x1 x2=some r):Zr5 Tryz.prog 137 [Sp1 x1,.clo 102 [.ptr 0 0]] [some ⟨3,[.iv x2]⟩] [] (.iv r.1) [some ⟨3,[.iv r.2]⟩] []:=by
 refine FT ok137 fun w0 M0=>?_
 rw [Zye] at h
 dsimp only[lun,List.cons_append,List.nil_append]
 refine Zv2 11 ?_;dsimp only[go_sem];refine An (Zo4 (fun (x17:Int)=>(⟨an 19 [],[some ⟨3,[.iv x17]⟩],[]⟩:St)) Zwe r ?_ fun J1=>?_)
 ·intro x17 h;rw [Zwe] at h;(try dsimp only);refine Zv2 4 ?_;dsimp only[go_sem];refine An ?_;obtain rfl:=Option.some.inj h;exact Z57 ok137
 ·refine Zv2 1 ?_;dsimp only[go_sem];refine An (Zp4 h (fun ((x7,x8):(Int×Int))=>(⟨(Sp1 x1 :: .clo 102 [.ptr 0 0]::an 5 (.iv (ln KE.row x1) :: .iv x7::an 10 [])),[some ⟨3,[.iv x8]⟩],[]⟩:St)) (by simp [go_sem]) (by rintro ⟨x7,x8⟩;first | rfl | simp [go_sem]) ?_);rintro n1 ⟨x7,x8⟩ y1 h hin1 hout1;rw [Zxe] at h;(try dsimp only);refine Zv2 5 ?_;dsimp only[go_sem];refine An (MI h (fun h=>?_) fun h=>?_)
  ·refine Zv2 13 ?_;dsimp only[go_sem];refine An ?_;have ⟨x9,ex9,h⟩:=Bs h;refine Zs4 KE.row ex9 trivial rfl rfl rfl (Zv2 1 ?_);dsimp only[go_sem];refine An ?_;have ⟨x10,ex10,h⟩:=Bs h;refine Zu5 [true] [] trivial rfl (Zwc x9 x8 _ ex10) (by kernel_rfl) (h:=?_);dsimp only[go_sem];refine Zv2 1 ?_;dsimp only[go_sem];refine An (MI h (fun h=>?_) fun h=>?_)
   ·refine Zv2 5 ?_;dsimp only[go_sem];refine An ?_;obtain rfl:=Option.some.inj (Zn4 h hout1);exact Z57 ok137
   ·refine Zv2 6 ?_;dsimp only[go_sem];refine An ?_;exact Zx4 h hin1
  ·refine Zv2 1 ?_;dsimp only[go_sem];refine An ?_;exact Zy4 J1 (s:=x8) (Zn4 h hout1)
@[go_sem] def e42:EC:=(by have h:=hF Tryz.f42;(conv at h=>rhs;reduce);dsimp only[go_sem] at h;exact ⟨_,h⟩:DP Tryz.f42).1
theorem ok42:FnOK Tryz.prog 42 Tryz.f42 e42 [.t 4] 2 40:=okA
def Z0f:Bool→Option Bool
| x5=>
 some x5
def Z1f (x1:Node) (x2:KE):Option Bool:=
 (Zqa x1.DK.DI.SD ((fun z=>Z1a z x2))).bind fun x3=>
 ifb (!x3) (
 ifb (decide (0≤x2.Peer)) (
 ifb (decide (x2.Peer<x1.DK.DI.ID)) (
 (Zz9 x1 x2.Peer).bind fun x4=>
 ifb (decide (x4<x2.Epoch)) (
 Z0f (decide (x2.Epoch≤65535))) (
 Z0f false)) (
 Z0f false)) (
 Z0f false)) (
 Z0f false)
theorem Z2f (x1:Node) (x2:KE) (r:Bool) (h:Z1f x1 x2=some r):Z03 Tryz.prog 42 [.agg (Node.row x1),.agg (KE.row x2)] (.bv r):=by
 refine FP ok42 fun w0 H0=>?_
 rw [Z1f] at h
 refine Zv2 13 ?_;dsimp only[go_sem];refine An ?_;have ⟨x3,ex3,h⟩:=Bs h;refine VL (LR.block 1 rfl rfl) (Zra x1.DK.DI.SD _ _ ((fun z=>Z1a z x2)) ⟨by kernel_rfl,rfl,fun z r hz=>k_node_may_1 z x2 r hz⟩ _ ex3) (Zv2 3 ?_);dsimp only[go_sem];refine An (Zo4 (fun (x5:Bool)=>(⟨an 4 (.bv x5::an 37 []),[],[]⟩:St)) Z0f r ?_ fun J1=>?_)
 ·intro x5 h;rw [Z0f] at h;(try dsimp only);exact Zw4 (res:=fun (r:Bool)=>.bv r) ok42 h
 ·refine Z07 fun all H=>?_;dsimp only[go_sem];refine GP H 3 28 [3,28] [(12,[.bv x3,.bv (!x3),.bv (!x3)])] ?_;dsimp only[go_sem];refine Z35 14 h rfl (fun _ h=>?_) fun _ h=>?_
  ·dsimp only[go_sem];refine GP H 5 23 [8,23] [(15,[.ptr 1 0,.iv x2.Peer,.bv (decide (0≤x2.Peer)),.bv (decide (0≤x2.Peer)),.bv (decide (0≤x2.Peer))])] ?_;dsimp only[go_sem];refine Z35 19 h rfl (fun _ h=>?_) fun _ h=>?_
   ·dsimp only[go_sem];refine GP H 9 14 [17,14] [(20,[.ptr 1 0,.iv x2.Peer,.ptr 0 0,.ptr 0 0,.ptr 0 0,.iv x1.DK.DI.ID,.bv (decide (x2.Peer<x1.DK.DI.ID)),.bv (decide (x2.Peer<x1.DK.DI.ID)),.bv (decide (x2.Peer<x1.DK.DI.ID))])] ?_;dsimp only[go_sem];refine Z35 28 h rfl (fun _ h=>?_) fun _ h=>?_
    ·dsimp only[go_sem];refine GP H 5 9 [22,9] [(29,[.ptr 1 1,.iv x2.Epoch,.agg (Node.row x1),.ptr 1 0,.iv x2.Peer])] ?_;dsimp only[go_sem];refine Z64 22 rfl ?_;have ⟨x4,ex4,h⟩:=Bs h
     refine GC H.1 (Z0a x1 x2.Peer _ ex4) ?_;dsimp only[go_sem];refine GP H 3 5 [26,5] [(35,[.bv (decide (x4<x2.Epoch)),.bv (decide (x4<x2.Epoch)),.bv (decide (x4<x2.Epoch))])] ?_;dsimp only[go_sem];refine Z35 37 h rfl (fun _ h=>?_) fun _ h=>?_
     ·dsimp only[go_sem];refine GP H 5 0 [31] [(4,[.bv (decide (x2.Epoch≤65535))]),(33,[.ptr 1 1,.iv x2.Epoch,.bv (decide (x2.Epoch≤65535)),.bv (decide (x2.Epoch≤65535))])] ?_;dsimp only[go_sem];refine GD ?_;exact Zy4 J1 (s:=decide (x2.Epoch≤65535)) h
     ·dsimp only[go_sem];refine GP H 5 0 [31] [(41,[.ff])] ?_;dsimp only[go_sem];refine GD ?_;exact Zy4 J1 (s:=false) h
    ·dsimp only[go_sem];refine GP H 14 0 [31] [(36,[.ff,.ff]),(3,[.ff])] ?_;dsimp only[go_sem];refine GD ?_;exact Zy4 J1 (s:=false) h
   ·dsimp only[go_sem];refine GP H 23 0 [31] [(27,[.ff,.ff]),(7,[.ff,.ff]),(3,[.ff])] ?_;dsimp only[go_sem];refine GD ?_;exact Zy4 J1 (s:=false) h
  ·dsimp only[go_sem];refine GP H 28 0 [31] [(18,[.ff,.ff]),(7,[.ff,.ff]),(7,[.ff,.ff]),(3,[.ff])] ?_;dsimp only[go_sem];refine GD ?_;exact Zy4 J1 (s:=false) h
@[go_sem] def e43:EC:=(by have h:=hF Tryz.f43;(conv at h=>rhs;reduce);dsimp only[go_sem] at h;exact ⟨_,h⟩:DP Tryz.f43).1
theorem ok43:FnOK Tryz.prog 43 Tryz.f43 e43 [.t 2] 1 17:=okA
def Z3f:Unit→Option Bool
| ()=>
 some true
def Z4f (x1:List KE):Int→Option (Int ⊕ Bool)
| x6=>
 ifb (decide (x6<(ln KE.row x1))) (
 (at_ x1 x6).bind fun x7=>
 (sub_ x1 0 x6).bind fun x8=>
 (Zsa x8 ((fun z=>Z2a z x7))).bind fun x9=>
 ifb x9 (
 Option.map Sum.inr (some false)) (
 some (.inl (wr (x6+1))))) (
 Option.map Sum.inr (Z3f ()))
def Z5f (x1:List KE):Option Bool:=
 loop (Z4f x1) 0
theorem Z6f (x1:List KE) (r:Bool) (h:Z5f x1=some r):Z03 Tryz.prog 43 [Sp1 x1] (.bv r):=by
 refine FP ok43 fun w0 H0=>?_
 rw [Z5f] at h
 refine Zv2 11 ?_;dsimp only[go_sem];refine An (Zo4 (fun (_:Unit)=>(⟨an 18 [],[],[]⟩:St)) Z3f r ?_ fun J1=>?_)
 ·rintro ⟨⟩ h;rw [Z3f] at h;(try dsimp only);refine Zv2 4 ?_;dsimp only[go_sem];refine An ?_;exact Zw4 (res:=fun (r:Bool)=>.bv r) ok43 h
 ·refine Zv2 1 ?_;dsimp only[go_sem];refine An (Zp4 h (fun (x6:Int)=>(⟨(Sp1 x1::an 4 (Sp1 x1 :: .iv (ln KE.row x1) :: .iv x6::an 10 [])),[],[]⟩:St)) (by simp [go_sem]) (by intro x6;first | rfl | simp [go_sem]) ?_);rintro n1 x6 y1 h hin1 hout1;rw [Z4f] at h;(try dsimp only);refine Zv2 5 ?_;dsimp only[go_sem];refine An (MI h (fun h=>?_) fun h=>?_)
  ·refine Zv2 6 ?_;dsimp only[go_sem];refine An ?_;have ⟨x7,ex7,h⟩:=Bs h;refine Zs4 KE.row ex7 trivial rfl rfl rfl (Zv2 9 ?_);dsimp only[go_sem];refine An ?_;have ⟨x8,ex8,h⟩:=Bs h;refine V_sliceM KE.row ex8 trivial rfl rfl rfl rfl (Zv2 1 ?_);dsimp only[go_sem];refine An ?_;have ⟨x9,ex9,h⟩:=Bs h;refine VL (LR.block 0 rfl rfl) (Zta x8 _ _ ((fun z=>Z2a z x7)) ⟨by kernel_rfl,rfl,fun z r hz=>Z3a z x7 r hz⟩ _ ex9) (Zv2 1 ?_)
   dsimp only[go_sem];refine An (MI h (fun h=>?_) fun h=>?_)
   ·refine Zv2 4 ?_;dsimp only[go_sem];refine An ?_;exact Zw4 (res:=fun (r:Bool)=>.bv r) ok43 (Zn4 h hout1)
   ·refine Zv2 6 ?_;dsimp only[go_sem];refine An ?_;exact Zx4 h hin1
  ·refine Zv2 1 ?_;dsimp only[go_sem];refine An ?_;exact Zy4 J1 (s:=()) (Zn4 h hout1)
@[go_sem] def e12:EC:=(by have h:=hF Tryz.f12;(conv at h=>rhs;reduce);dsimp only[go_sem] at h;exact ⟨_,h⟩:DP Tryz.f12).1
theorem ok12:FnOK Tryz.prog 12 Tryz.f12 e12 [.c 2 (some 10)] 1 26:=okA
def Z7f (x2:DK) (x3:Book):(List KE×List Int×List KE)→Option Node
| (x9,x10,x11)=>
 some (Node.mk x2 x3 x9 x10 x11)
def Z8f (x1:Node):Option Node:=
 (Z3d x1.DK).bind fun x2=>
 (Zfa x1.Book).bind fun x3=>
 (Zj4 16 (([]:List KE)) x1.KN).bind fun x4=>
 (Zj4 8 (([]:List Int)) x1.Told).bind fun x6=>
 (Zj4 16 (([]:List KE)) x1.AK).bind fun x8=>
 (Z7f x2 x3) (x4,x6,x8)
theorem k_narthexlaw18_Own (x1 r:Node) (h:Z8f x1=some r):Z03 Tryz.prog 12 [.agg (Node.row x1)] (.agg (Node.row r)):=by
 refine FP ok12 fun w0 H0=>?_
 rw [Z8f] at h
 refine Zv2 6 ?_;dsimp only[go_sem];refine An (Z07 fun all H=>?_);dsimp only[go_sem];refine GN H 4 6 ?_;dsimp only[go_sem];refine An (Z64 2 rfl ?_);have ⟨x2,ex2,h⟩:=Bs h;refine GC H.1 (Z4d x1.DK _ ex2) ?_;dsimp only[go_sem];refine GN H 1 4 ?_;dsimp only[go_sem];refine An (Z64 5 rfl ?_);have ⟨x3,ex3,h⟩:=Bs h;refine GC H.1 (Zga x1.Book _ ex3) ?_;dsimp only[go_sem]
 refine GE H.1 7 ?_;dsimp only[go_sem];refine GN H 1 1 ?_;dsimp only[go_sem];refine An (GE H.1 9 ?_);dsimp only[go_sem];refine GD (Zv2 1 ?_);dsimp only[go_sem];refine An ?_
 refine Zo4 (fun ((x9,x10,x11):(List KE×List Int×List KE))=>(⟨(.any :: .ptr 0 0 :: .ptr 1 0::an 24 []),[some ⟨35,[.iv x2.DI.ID,.iv x2.DI.PH,Sp2 x2.DI.SD,.iv x2.TH,Sp0 x2.Need,.iv x3.Last,Sp3 x3.Sess,.osl 1,.osl 3,.osl 5]⟩,some ⟨35,[.iv 0,.iv 0,.nl,.iv 0,.nl,.iv 0,.nl,.nl,.nl,.nl]⟩],[none,Sq8 x9,none,Sq7 x10,none,Sq8 x11]⟩:St)) (Z7f x2 x3) r ?_ fun J1=>?_
 ·rintro ⟨x9,x10,x11⟩ h;rw [Z7f] at h;(try dsimp only);refine Zv2 5 ?_;dsimp only[go_sem];refine An (Z27 1 ?_);dsimp only[go_sem];refine Z27 3 ?_;dsimp only[go_sem];refine Z27 5 ?_;dsimp only[go_sem];exact Zw4 (res:=fun (r:Node)=>.agg (Node.row r)) ok12 h
 ·refine Z07 fun all H=>?_;dsimp only[go_sem];refine GP H 6 12 [0,1,2,2,2,2,2,7] [(12,[.ptr 0 7,Sp1 x1.KN]),(2,[.ptr 0 8,Sp0 x1.Told]),(2,[.ptr 0 9,Sp1 x1.AK])] ?_;dsimp only[go_sem];refine Z84 0 4 8 rfl ?_ ?_ ?_
  ·refine GV H.1 ?_;dsimp only[go_sem];have ⟨x4,ex4,h⟩:=Bs h;refine Z84 3 4 8 rfl ?_ ?_ ?_
   ·refine GA KE.row ex4 H.1 ?_;dsimp only[go_sem];refine GN H 1 9 ?_;dsimp only[go_sem];refine An (Z74 4 8 rfl ?_ ?_)
    ·refine GV H.1 ?_;dsimp only[go_sem];have ⟨x6,ex6,h⟩:=Bs h;refine Z74 7 8 rfl ?_ ?_
     ·refine GA Z15 ex6 H.1 ?_;dsimp only[go_sem];refine GE H.1 8 ?_;dsimp only[go_sem];refine Z64 11 rfl ?_;have ⟨x8,ex8,h⟩:=Bs h;refine GA KE.row ex8 H.1 ?_;dsimp only[go_sem];refine GE H.1 13 ?_;dsimp only[go_sem];refine GN H 1 3 ?_;dsimp only[go_sem];refine An (GE H.1 15 ?_);dsimp only[go_sem];refine GN H 1 1 ?_;dsimp only[go_sem]
      refine An (GE H.1 17 ?_);dsimp only[go_sem];refine GD ?_;exact Zy4 J1 (s:=(x4,x6,x8)) h
     ·refine GV H.1 ?_;dsimp only[go_sem];refine Z64 7 rfl (GA Z15 ex6 H.1 ?_);dsimp only[go_sem];refine Z64 11 rfl ?_;have ⟨x8,ex8,h⟩:=Bs h;refine GA KE.row ex8 H.1 ?_;dsimp only[go_sem];refine GE H.1 13 ?_;dsimp only[go_sem];refine GN H 1 3 ?_;dsimp only[go_sem];refine An (GE H.1 15 ?_);dsimp only[go_sem];refine GN H 1 1 ?_;dsimp only[go_sem]
      refine An (GE H.1 17 ?_);dsimp only[go_sem];refine GD (Z17 4 3 ?_);dsimp only[go_sem];exact Zy4 J1 (s:=(x4,x6,x8)) h
    ·refine GV H.1 ?_;dsimp only[go_sem];refine GE H.1 4 ?_;dsimp only[go_sem];refine Z64 7 rfl ?_;have ⟨x6,ex6,h⟩:=Bs h;refine GA Z15 ex6 H.1 ?_;dsimp only[go_sem];refine Z64 11 rfl ?_;have ⟨x7,ex7,h⟩:=Bs h;refine GA KE.row ex7 H.1 ?_;dsimp only[go_sem];refine GE H.1 13 ?_;dsimp only[go_sem];refine GN H 1 3 ?_;dsimp only[go_sem];refine An (Z64 15 rfl ?_)
     refine GV H.1 ?_;dsimp only[go_sem];refine GN H 1 1 ?_;dsimp only[go_sem];refine An (GE H.1 17 ?_);dsimp only[go_sem];refine GD (Z17 4 3 ?_);dsimp only[go_sem];exact Zy4 J1 (s:=(x4,x6,x7)) h
   ·refine GV H.1 ?_;dsimp only[go_sem];refine Z74 3 8 rfl ?_ ?_
    ·refine GA KE.row ex4 H.1 ?_;dsimp only[go_sem];refine GN H 1 8 ?_;dsimp only[go_sem];refine An ?_;have ⟨x6,ex6,h⟩:=Bs h;refine Z74 7 8 rfl ?_ ?_
     ·refine GA Z15 ex6 H.1 ?_;dsimp only[go_sem];refine GE H.1 8 ?_;dsimp only[go_sem];refine Z64 11 rfl ?_;have ⟨x8,ex8,h⟩:=Bs h;refine GA KE.row ex8 H.1 ?_;dsimp only[go_sem];refine GE H.1 13 ?_;dsimp only[go_sem];refine GN H 1 3 ?_;dsimp only[go_sem];refine An (GE H.1 15 ?_);dsimp only[go_sem];refine GN H 1 1 ?_;dsimp only[go_sem]
      refine An (GE H.1 17 ?_);dsimp only[go_sem];refine GD (Z17 2 1 ?_);dsimp only[go_sem];exact Zy4 J1 (s:=(x4,x6,x8)) h
     ·refine GV H.1 ?_;dsimp only[go_sem];refine Z64 7 rfl (GA Z15 ex6 H.1 ?_);dsimp only[go_sem];refine Z64 11 rfl ?_;have ⟨x8,ex8,h⟩:=Bs h;refine GA KE.row ex8 H.1 ?_;dsimp only[go_sem];refine GE H.1 13 ?_;dsimp only[go_sem];refine GN H 1 3 ?_;dsimp only[go_sem];refine An (GE H.1 15 ?_);dsimp only[go_sem];refine GN H 1 1 ?_;dsimp only[go_sem]
      refine An (GE H.1 17 ?_);dsimp only[go_sem];refine GD (Z17 2 1 (Z17 4 3 ?_));dsimp only[go_sem];exact Zy4 J1 (s:=(x4,x6,x8)) h
    ·refine GV H.1 ?_;dsimp only[go_sem];refine Z64 3 rfl (GA KE.row ex4 H.1 ?_);dsimp only[go_sem];refine GN H 1 7 ?_;dsimp only[go_sem];refine An (Z64 7 rfl ?_);have ⟨x6,ex6,h⟩:=Bs h;refine GA Z15 ex6 H.1 ?_;dsimp only[go_sem];refine Z64 11 rfl ?_;have ⟨x7,ex7,h⟩:=Bs h;refine GA KE.row ex7 H.1 ?_;dsimp only[go_sem];refine GE H.1 13 ?_;dsimp only[go_sem]
     refine GN H 1 3 ?_;dsimp only[go_sem];refine An (GE H.1 15 ?_);dsimp only[go_sem];refine GN H 1 1 ?_;dsimp only[go_sem];refine An (GE H.1 17 ?_);dsimp only[go_sem];refine GD (Z17 3 1 (Z17 4 3 ?_));dsimp only[go_sem];exact Zy4 J1 (s:=(x4,x6,x7)) h
   ·refine GV H.1 ?_;dsimp only[go_sem];refine Z74 3 4 rfl ?_ ?_
    ·refine GA KE.row ex4 H.1 ?_;dsimp only[go_sem];refine GN H 1 8 ?_;dsimp only[go_sem];refine An (GE H.1 4 ?_);dsimp only[go_sem];refine Z64 7 rfl ?_;have ⟨x6,ex6,h⟩:=Bs h;refine GA Z15 ex6 H.1 ?_;dsimp only[go_sem];refine Z64 11 rfl ?_;have ⟨x7,ex7,h⟩:=Bs h;refine GA KE.row ex7 H.1 ?_;dsimp only[go_sem];refine GE H.1 13 ?_;dsimp only[go_sem]
     refine GN H 1 3 ?_;dsimp only[go_sem];refine An (GE H.1 15 ?_);dsimp only[go_sem];refine GN H 1 1 ?_;dsimp only[go_sem];refine An (GE H.1 17 ?_);dsimp only[go_sem];refine GD (Z17 2 1 (Z17 4 3 ?_));dsimp only[go_sem];exact Zy4 J1 (s:=(x4,x6,x7)) h
    ·refine GV H.1 ?_;dsimp only[go_sem];refine Z64 3 rfl (GA KE.row ex4 H.1 ?_);dsimp only[go_sem];refine GN H 1 7 ?_;dsimp only[go_sem];refine An (Z64 7 rfl ?_);have ⟨x6,ex6,h⟩:=Bs h;refine GA Z15 ex6 H.1 ?_;dsimp only[go_sem];refine Z64 11 rfl ?_;have ⟨x7,ex7,h⟩:=Bs h;refine GA KE.row ex7 H.1 ?_;dsimp only[go_sem];refine GE H.1 13 ?_;dsimp only[go_sem]
     refine GN H 1 3 ?_;dsimp only[go_sem];refine An (GE H.1 15 ?_);dsimp only[go_sem];refine GN H 1 1 ?_;dsimp only[go_sem];refine An (GE H.1 17 ?_);dsimp only[go_sem];refine GD (Z17 3 1 (Z17 4 3 ?_));dsimp only[go_sem];exact Zy4 J1 (s:=(x4,x6,x7)) h
  ·refine GV H.1 ?_;dsimp only[go_sem];refine Z74 0 8 rfl ?_ ?_
   ·refine GV H.1 ?_;dsimp only[go_sem];have ⟨x4,ex4,h⟩:=Bs h;refine Z74 3 8 rfl ?_ ?_
    ·refine GA KE.row ex4 H.1 ?_;dsimp only[go_sem];refine GN H 1 8 ?_;dsimp only[go_sem];refine An ?_;have ⟨x6,ex6,h⟩:=Bs h;refine Z74 7 8 rfl ?_ ?_
     ·refine GA Z15 ex6 H.1 ?_;dsimp only[go_sem];refine GE H.1 8 ?_;dsimp only[go_sem];refine Z64 11 rfl ?_;have ⟨x8,ex8,h⟩:=Bs h;refine GA KE.row ex8 H.1 ?_;dsimp only[go_sem];refine GE H.1 13 ?_;dsimp only[go_sem];refine GN H 1 3 ?_;dsimp only[go_sem];refine An (GE H.1 15 ?_);dsimp only[go_sem];refine GN H 1 1 ?_;dsimp only[go_sem]
      refine An (GE H.1 17 ?_);dsimp only[go_sem];refine GD (Z17 2 1 ?_);dsimp only[go_sem];exact Zy4 J1 (s:=(x4,x6,x8)) h
     ·refine GV H.1 ?_;dsimp only[go_sem];refine Z64 7 rfl (GA Z15 ex6 H.1 ?_);dsimp only[go_sem];refine Z64 11 rfl ?_;have ⟨x8,ex8,h⟩:=Bs h;refine GA KE.row ex8 H.1 ?_;dsimp only[go_sem];refine GE H.1 13 ?_;dsimp only[go_sem];refine GN H 1 3 ?_;dsimp only[go_sem];refine An (GE H.1 15 ?_);dsimp only[go_sem];refine GN H 1 1 ?_;dsimp only[go_sem]
      refine An (GE H.1 17 ?_);dsimp only[go_sem];refine GD (Z17 2 1 (Z17 4 3 ?_));dsimp only[go_sem];exact Zy4 J1 (s:=(x4,x6,x8)) h
    ·refine GV H.1 ?_;dsimp only[go_sem];refine Z64 3 rfl (GA KE.row ex4 H.1 ?_);dsimp only[go_sem];refine GN H 1 7 ?_;dsimp only[go_sem];refine An (Z64 7 rfl ?_);have ⟨x6,ex6,h⟩:=Bs h;refine GA Z15 ex6 H.1 ?_;dsimp only[go_sem];refine Z64 11 rfl ?_;have ⟨x7,ex7,h⟩:=Bs h;refine GA KE.row ex7 H.1 ?_;dsimp only[go_sem];refine GE H.1 13 ?_;dsimp only[go_sem]
     refine GN H 1 3 ?_;dsimp only[go_sem];refine An (GE H.1 15 ?_);dsimp only[go_sem];refine GN H 1 1 ?_;dsimp only[go_sem];refine An (GE H.1 17 ?_);dsimp only[go_sem];refine GD (Z17 3 1 (Z17 4 3 ?_));dsimp only[go_sem];exact Zy4 J1 (s:=(x4,x6,x7)) h
   ·refine GV H.1 ?_;dsimp only[go_sem];refine GE H.1 0 ?_;dsimp only[go_sem];refine Z64 3 rfl ?_;have ⟨x4,ex4,h⟩:=Bs h;refine GA KE.row ex4 H.1 ?_;dsimp only[go_sem];refine GN H 1 7 ?_;dsimp only[go_sem];refine An (Z64 7 rfl ?_);have ⟨x5,ex5,h⟩:=Bs h;refine GA Z15 ex5 H.1 ?_;dsimp only[go_sem];refine Z64 11 rfl ?_;have ⟨x6,ex6,h⟩:=Bs h;refine GA KE.row ex6 H.1 ?_
    dsimp only[go_sem];refine GE H.1 13 ?_;dsimp only[go_sem];refine GN H 1 3 ?_;dsimp only[go_sem];refine An (GE H.1 15 ?_);dsimp only[go_sem];refine GN H 1 1 ?_;dsimp only[go_sem];refine An (GE H.1 17 ?_);dsimp only[go_sem];refine GD (Z17 3 1 (Z17 4 3 ?_));dsimp only[go_sem];exact Zy4 J1 (s:=(x4,x5,x6)) h
  ·refine GV H.1 ?_;dsimp only[go_sem];refine Z74 0 4 rfl ?_ ?_
   ·refine GV H.1 ?_;dsimp only[go_sem];have ⟨x4,ex4,h⟩:=Bs h;refine Z74 3 4 rfl ?_ ?_
    ·refine GA KE.row ex4 H.1 ?_;dsimp only[go_sem];refine GN H 1 8 ?_;dsimp only[go_sem];refine An (GE H.1 4 ?_);dsimp only[go_sem];refine Z64 7 rfl ?_;have ⟨x6,ex6,h⟩:=Bs h;refine GA Z15 ex6 H.1 ?_;dsimp only[go_sem];refine Z64 11 rfl ?_;have ⟨x7,ex7,h⟩:=Bs h;refine GA KE.row ex7 H.1 ?_;dsimp only[go_sem];refine GE H.1 13 ?_;dsimp only[go_sem]
     refine GN H 1 3 ?_;dsimp only[go_sem];refine An (GE H.1 15 ?_);dsimp only[go_sem];refine GN H 1 1 ?_;dsimp only[go_sem];refine An (GE H.1 17 ?_);dsimp only[go_sem];refine GD (Z17 2 1 (Z17 4 3 ?_));dsimp only[go_sem];exact Zy4 J1 (s:=(x4,x6,x7)) h
    ·refine GV H.1 ?_;dsimp only[go_sem];refine Z64 3 rfl (GA KE.row ex4 H.1 ?_);dsimp only[go_sem];refine GN H 1 7 ?_;dsimp only[go_sem];refine An (Z64 7 rfl ?_);have ⟨x6,ex6,h⟩:=Bs h;refine GA Z15 ex6 H.1 ?_;dsimp only[go_sem];refine Z64 11 rfl ?_;have ⟨x7,ex7,h⟩:=Bs h;refine GA KE.row ex7 H.1 ?_;dsimp only[go_sem];refine GE H.1 13 ?_;dsimp only[go_sem]
     refine GN H 1 3 ?_;dsimp only[go_sem];refine An (GE H.1 15 ?_);dsimp only[go_sem];refine GN H 1 1 ?_;dsimp only[go_sem];refine An (GE H.1 17 ?_);dsimp only[go_sem];refine GD (Z17 3 1 (Z17 4 3 ?_));dsimp only[go_sem];exact Zy4 J1 (s:=(x4,x6,x7)) h
   ·refine GV H.1 ?_;dsimp only[go_sem];refine GE H.1 0 ?_;dsimp only[go_sem];refine Z64 3 rfl ?_;have ⟨x4,ex4,h⟩:=Bs h;refine GA KE.row ex4 H.1 ?_;dsimp only[go_sem];refine GN H 1 7 ?_;dsimp only[go_sem];refine An (Z64 7 rfl ?_);have ⟨x5,ex5,h⟩:=Bs h;refine GA Z15 ex5 H.1 ?_;dsimp only[go_sem];refine Z64 11 rfl ?_;have ⟨x6,ex6,h⟩:=Bs h;refine GA KE.row ex6 H.1 ?_
    dsimp only[go_sem];refine GE H.1 13 ?_;dsimp only[go_sem];refine GN H 1 3 ?_;dsimp only[go_sem];refine An (GE H.1 15 ?_);dsimp only[go_sem];refine GN H 1 1 ?_;dsimp only[go_sem];refine An (GE H.1 17 ?_);dsimp only[go_sem];refine GD (Z17 3 1 (Z17 4 3 ?_));dsimp only[go_sem];exact Zy4 J1 (s:=(x4,x5,x6)) h
end
end NX
end Go.Proofs.YtdjkbodnjhgbcaaGreat
