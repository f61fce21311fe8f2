/-
  The function (*narthex/node.node).once, lent own memory. Written by a program of ours (lb.py). No statement of the seat is proved here.
-/
import Derived.Test.YtdjkbodnjhgbcaaGreatP26
set_option maxRecDepth 100000
set_option maxHeartbeats 4000000
namespace Go.Proofs.YtdjkbodnjhgbcaaGreat
namespace NX
open Go
noncomputable section
def Zrk (x7:Int) (x16:List KE) (x19:List KE) (x29:(Int×Int×Int×Int×List Side×List Int×List Mail)) (x39:Int) (x40:List Sess) (x41:List Event):(List Int×List Mail)→Option (Int×Int×Int×Int×List Sess×List Int×List KE×List Event×List KE×List Int×List Mail×List Side)
| (x43,x44)=>
 (Zgh x29.1 x29.2.1 x29.2.2.1 x39 x40 x43 x7 x29.2.2.2.2.1 x29.2.2.2.2.2.1 x16 x19 x44 x41).bind fun x45=>
 some (x29.1,x29.2.1,x29.2.2.1,x39,x40,x43,x16,x41,x19,x29.2.2.2.2.2.1,x45.1,x45.2)
def Zsk (x6:List Int) (x7:Int) (x16 x19:List KE) (x29:(Int×Int×Int×Int×List Side×List Int×List Mail)) (x32:List Mail):(Int×List Sess×List Event)→Option (Int×Int×Int×Int×List Sess×List Int×List KE×List Event×List KE×List Int×List Mail×List Side)
| (x39,x40,x41)=>
 ifb (decide (x29.2.1=2)) (
 (Zxi x29.1 x29.2.1 x29.2.2.1 x39 x40 x6 x7 x29.2.2.2.2.1 x29.2.2.2.2.2.1 x16 x19 x32 x41).bind fun x42=>
 (Zrk x7 x16 x19 x29 x39 x40 x41) (x42.1,x42.2)) (
 (Zrk x7 x16 x19 x29 x39 x40 x41) (x6,x32))
def Ztk (x6:List Int) (x7:Int) (x16:List KE) (x18:List Event) (x19:List KE) (x20:(Sess×Bool)) (x29:(Int×Int×Int×Int×List Side×List Int×List Mail)) (x32:List Mail):(Int×List Sess)→Option (Int×Int×Int×Int×List Sess×List Int×List KE×List Event×List KE×List Int×List Mail×List Side)
| (x36,x37)=>
 (Znc 1 x20.1.ID x29.1 x29.2.1 x29.2.2.1 x36 x37 x6 x7 x29.2.2.2.2.1 x29.2.2.2.2.2.1 x16 x19 x32 x18).bind fun x38=>
 (Zsk x6 x7 x16 x19 x29 x32) (x36,x37,x38)
def Zuk (x4:Int) (x5:List Sess) (x6:List Int) (x7:Int) (x16:List KE) (x18:List Event) (x19:List KE) (x20:(Sess×Bool)) (x29:(Int×Int×Int×Int×List Side×List Int×List Mail)) (x32:List Mail):Bool→Option (Int×Int×Int×Int×List Sess×List Int×List KE×List Event×List KE×List Int×List Mail×List Side)
| x33=>
 ifb x33 (
 (Zhg (Book.mk x4 x5)).bind fun x34=>
 (Ztk x6 x7 x16 x18 x19 x20 x29 x32) (x34.1.Last,x34.1.Sess)) (
 (Zsk x6 x7 x16 x19 x29 x32) (x4,x5,x18))
def Zvk (x4:Int) (x5:List Sess) (x6:List Int) (x7:Int) (x16:List KE) (x18:List Event) (x19:List KE) (x20:(Sess×Bool)) (x29:(Int×Int×Int×Int×List Side×List Int×List Mail)):List Mail→Option (Int×Int×Int×Int×List Sess×List Int×List KE×List Event×List KE×List Int×List Mail×List Side)
| x32=>
 ifb x20.2 (
 ifb (decide (x20.1.State=0)) (
 (Zuk x4 x5 x6 x7 x16 x18 x19 x20 x29 x32) (decide (x29.2.2.1=2))) (
 (Zuk x4 x5 x6 x7 x16 x18 x19 x20 x29 x32) false)) (
 (Zuk x4 x5 x6 x7 x16 x18 x19 x20 x29 x32) false)
def Zwk (x1 x4:Int) (x5:List Sess) (x6:List Int) (x7:Int) (x15:List Side) (x16:List KE) (x17:List Mail) (x18:List Event) (x19:List KE) (x20:(Sess×Bool)) (x24:Int) (x25:List Int):Int→Option (Int×Int×Int×Int×List Sess×List Int×List KE×List Event×List KE×List Int×List Mail×List Side)
| x28=>
 (Zhk x1 x28 x24 x15 x25).bind fun x29=>
 (Zj4 40 x17 x29.2.2.2.2.2.2).bind fun x30=>
 (Zvk x4 x5 x6 x7 x16 x18 x19 x20 x29) x30
def Zxk (x1 x2 x4:Int) (x5:List Sess) (x6:List Int) (x7:Int) (x15:List Side) (x16:List KE) (x17:List Mail) (x18:List Event) (x19:List KE) (x20:(Sess×Bool)) (x24:Int) (x25:List Int):Bool→Option (Int×Int×Int×Int×List Sess×List Int×List KE×List Event×List KE×List Int×List Mail×List Side)
| x27=>
 ifb x27 (
 (Zwk x1 x4 x5 x6 x7 x15 x16 x17 x18 x19 x20 x24 x25) 1) (
 (Zwk x1 x4 x5 x6 x7 x15 x16 x17 x18 x19 x20 x24 x25) x2)
def Zyk (x1 x2 x4:Int) (x5:List Sess) (x6:List Int) (x7:Int) (x15:List Side) (x16:List KE) (x17:List Mail) (x18:List Event) (x19:List KE) (x20:(Sess×Bool)):(Int×List Int)→Option (Int×Int×Int×Int×List Sess×List Int×List KE×List Event×List KE×List Int×List Mail×List Side)
| (x24,x25)=>
 ifb (decide (x2=0)) (
 (Zpa x15 ((fun z=>Zvf z (node_node.mk (Node.mk (DK.mk (DI.mk x1 x2 x15) x24 x25) (Book.mk x4 x5) x16 x6 x19) x17 x18 x7)))).bind fun x26=>
 (Zxk x1 x2 x4 x5 x6 x7 x15 x16 x17 x18 x19 x20 x24 x25) x26) (
 (Zxk x1 x2 x4 x5 x6 x7 x15 x16 x17 x18 x19 x20 x24 x25) false)
def Zzk (x1 x2:Int) (x3 x4:Int) (x5:List Sess) (x6:List Int) (x7:Int) (x9:List Int) (x15:List Side) (x16:List KE) (x17:List Mail) (x18:List Event) (x19:List KE) (x20:(Sess×Bool)):Bool→Option (Int×Int×Int×Int×List Sess×List Int×List KE×List Event×List KE×List Int×List Mail×List Side)
| x21=>
 ifb x21 (
 (Zw7 x20.1.Need).bind fun x22=>
 (Zyk x1 x2 x4 x5 x6 x7 x15 x16 x17 x18 x19 x20) (1,x22)) (
 (Zyk x1 x2 x4 x5 x6 x7 x15 x16 x17 x18 x19 x20) (x3,x9))
def Z0l (x1 x2:Int) (x3 x4:Int) (x5:List Sess) (x6:List Int) (x7:Int) (x9:List Int):(List Side×List KE×List Mail×List Event×List KE)→Option (Int×Int×Int×Int×List Sess×List Int×List KE×List Event×List KE×List Int×List Mail×List Side)
| (x15,x16,x17,x18,x19)=>
 (Zjc x1 x2 x3 x4 x5 x6 x15 x9 x16 x19).bind fun x20=>
 ifb x20.2 (
 ifb (decide (x20.1.State=0)) (
 (Zzk x1 x2 x3 x4 x5 x6 x7 x9 x15 x16 x17 x18 x19 x20) (decide (x3=0))) (
 (Zzk x1 x2 x3 x4 x5 x6 x7 x9 x15 x16 x17 x18 x19 x20) false)) (
 (Zzk x1 x2 x3 x4 x5 x6 x7 x9 x15 x16 x17 x18 x19 x20) false)
def Z1l (x1 x2:Int) (x3 x4:Int) (x5:List Sess) (x6:List Int) (x7:Int) (x8:List Side) (x9:List Int) (x10 x11:List KE) (x12:List Mail) (x13:List Event):Option (Int×Int×Int×Int×List Sess×List Int×List KE×List Event×List KE×List Int×List Mail×List Side):=
 ifb (!decide (x2=2)) (
 (Zij x1 x2 x3 x4 x5 x6 x7 x8 x9 x10 x11 x12 x13).bind fun x14=>
 (Z0l x1 x2 x3 x4 x5 x6 x7 x9) (x14.1,x14.2.1,x14.2.2.1,x14.2.2.2,([]:List KE))) (
 (Z0l x1 x2 x3 x4 x5 x6 x7 x9) (x8,x10,x12,x13,x11))
theorem Z2l (x1 x2:Int) (x3 x4:Int) (x5:List Sess) (x6:List Int) (x7:Int) (x8:List Side) (x9:List Int) (x10 x11:List KE) (x12:List Mail) (x13:List Event) (r:(Int×Int×Int×Int×List Sess×List Int×List KE×List Event×List KE×List Int×List Mail×List Side)) (h:Z1l x1 x2 x3 x4 x5 x6 x7 x8 x9 x10 x11 x12 x13=some r):Zq5 Tryz.prog 85 [.ptr 0 0] [some ⟨81,[.iv x1,.iv x2,.osl 0,.iv x3,.osl 1,.iv x4,Sp3 x5,.osl 2,Sp0 x6,.osl 3,.osl 4,.osl 5,.iv x7]⟩] [Sq6 x8,Sq7 x9,Sq8 x10,Sq8 x11,Za7 x12,Z97 x13] (.tup []) [some ⟨81,[.iv r.1,.iv r.2.1,.osl 22,.iv r.2.2.1,.osl 17,.iv r.2.2.2.1,Sp3 r.2.2.2.2.1,.osl 9,Sp0 r.2.2.2.2.2.1,.osl 14,.osl 21,.osl 13,.iv x7]⟩] [none,none,none,none,none,none,none,none,none,Sq8 r.2.2.2.2.2.2.1,none,none,none,Z97 r.2.2.2.2.2.2.2.1,Sq8 r.2.2.2.2.2.2.2.2.1,none,none,Sq7 r.2.2.2.2.2.2.2.2.2.1,none,none,none,Za7 r.2.2.2.2.2.2.2.2.2.2.1,Sq6 r.2.2.2.2.2.2.2.2.2.2.2]:=by
 refine FT ok85 fun w0 M0=>?_
 rw [Z1l] at h
 dsimp only[lun,List.cons_append,List.nil_append]
 refine Vg 16 ?_
 refine Zo4 (fun ((x15,x16,x17,x18,x19):(List Side×List KE×List Mail×List Event×List KE))=>⟨(.any :: .ptr 1 0::an 147 []),[some ⟨81,[.iv x1,.iv x2,.osl 7,.iv x3,.osl 1,.iv x4,Sp3 x5,.osl 9,Sp0 x6,.osl 14,.osl 11,.osl 13,.iv x7]⟩,some ⟨79,[.ptr 0 0]⟩],[none,Sq7 x9,none,none,none,none,none,Sq6 x15,none,Sq8 x16,none,Za7 x17,none,Z97 x18,Sq8 x19]⟩) (Z0l x1 x2 x3 x4 x5 x6 x7 x9) r ?_ fun J1=>?_
 ·rintro ⟨x15,x16,x17,x18,x19⟩ h;rw [Z0l] at h;(try dsimp only);refine Vg 6 ?_;have ⟨x20,ex20,h⟩:=Bs h;refine Z67 [] [7,1,9,14] 2 15 (Zkc x1 x2 x3 x4 x5 x6 x15 x9 x16 x19 _ ex20) ?_;refine Vg 12 ?_
  refine Zo4 (fun (x21:Bool)=>⟨(.any :: .ptr 1 0 :: .ptr 2 0 :: .bv x20.2::an 36 (.bv x21::an 108 [])),[some ⟨81,[.iv x1,.iv x2,.osl 7,.iv x3,.osl 1,.iv x4,Sp3 x5,.osl 9,Sp0 x6,.osl 14,.osl 11,.osl 13,.iv x7]⟩,some ⟨79,[.ptr 0 0]⟩,some ⟨60,Sess.row x20.1⟩],[none,Sq7 x9,none,none,none,none,none,Sq6 x15,none,Sq8 x16,none,Za7 x17,none,Z97 x18,Sq8 x19]⟩) (Zzk x1 x2 x3 x4 x5 x6 x7 x9 x15 x16 x17 x18 x19 x20) r ?_ fun J2=>?_
  ·intro x21 h;rw [Zzk] at h;(try dsimp only)
   refine Zo4 (fun ((x24,x25):(Int×List Int))=>⟨(.any :: .ptr 1 0 :: .ptr 2 0 :: .bv x20.2::an 145 []),[some ⟨81,[.iv x1,.iv x2,.osl 7,.iv x24,.osl 15,.iv x4,Sp3 x5,.osl 9,Sp0 x6,.osl 14,.osl 11,.osl 13,.iv x7]⟩,some ⟨79,[.ptr 0 0]⟩,some ⟨60,Sess.row x20.1⟩],[none,none,none,none,none,none,none,Sq6 x15,none,Sq8 x16,none,Za7 x17,none,Z97 x18,Sq8 x19,Sq7 x25]⟩) (Zyk x1 x2 x4 x5 x6 x7 x15 x16 x17 x18 x19 x20) r ?_ fun J3=>?_
   ·rintro ⟨x24,x25⟩ h;rw [Zyk] at h;(try dsimp only);refine Vg 17 ?_
    refine Zo4 (fun (x27:Bool)=>⟨(.any :: .ptr 1 0 :: .ptr 2 0 :: .bv x20.2::an 69 (.bv x27::an 75 [])),[some ⟨81,[.iv x1,.iv x2,.osl 7,.iv x24,.osl 15,.iv x4,Sp3 x5,.osl 9,Sp0 x6,.osl 14,.osl 11,.osl 13,.iv x7]⟩,some ⟨79,[.ptr 0 0]⟩,some ⟨60,Sess.row x20.1⟩],[none,none,none,none,none,none,none,Sq6 x15,none,Sq8 x16,none,Za7 x17,none,Z97 x18,Sq8 x19,Sq7 x25]⟩) (Zxk x1 x2 x4 x5 x6 x7 x15 x16 x17 x18 x19 x20 x24 x25) r ?_ fun J4=>?_
    ·intro x27 h;rw [Zxk] at h;(try dsimp only)
     refine Zo4 (fun (x28:Int)=>⟨(.any :: .ptr 1 0 :: .ptr 2 0 :: .bv x20.2::an 145 []),[some ⟨81,[.iv x1,.iv x28,.osl 7,.iv x24,.osl 15,.iv x4,Sp3 x5,.osl 9,Sp0 x6,.osl 14,.osl 11,.osl 13,.iv x7]⟩,some ⟨79,[.ptr 0 0]⟩,some ⟨60,Sess.row x20.1⟩],[none,none,none,none,none,none,none,Sq6 x15,none,Sq8 x16,none,Za7 x17,none,Z97 x18,Sq8 x19,Sq7 x25]⟩) (Zwk x1 x4 x5 x6 x7 x15 x16 x17 x18 x19 x20 x24 x25) r ?_ fun J5=>?_
     ·intro x28 h;rw [Zwk] at h;(try dsimp only);refine Vg 7 ?_;have ⟨x29,ex29,h⟩:=Bs h;refine Z67 [] [7,15] 3 16 (Zik x1 x28 x24 x15 x25 _ ex29) ?_;refine Vg 19 ?_
      refine Zo4 (fun (x32:List Mail)=>⟨(.any :: .ptr 1 0 :: .ptr 2 0 :: .bv x20.2::an 145 []),[some ⟨81,[.iv x29.1,.iv x29.2.1,.osl 16,.iv x29.2.2.1,.osl 17,.iv x4,Sp3 x5,.osl 9,Sp0 x6,.osl 14,.osl 19,.osl 13,.iv x7]⟩,some ⟨79,[.ptr 0 0]⟩,some ⟨60,Sess.row x20.1⟩],[none,none,none,none,none,none,none,none,none,Sq8 x16,none,none,none,Z97 x18,Sq8 x19,none,Sq6 x29.2.2.2.2.1,Sq7 x29.2.2.2.2.2.1,none,Za7 x32]⟩) (Zvk x4 x5 x6 x7 x16 x18 x19 x20 x29) r ?_ fun J6=>?_
      ·intro x32 h;rw [Zvk] at h;(try dsimp only);refine Vg 5 ?_
       refine Zo4 (fun (x33:Bool)=>⟨(.any :: .ptr 1 0 :: .ptr 2 0::an 115 (.bv x33::an 30 [])),[some ⟨81,[.iv x29.1,.iv x29.2.1,.osl 16,.iv x29.2.2.1,.osl 17,.iv x4,Sp3 x5,.osl 9,Sp0 x6,.osl 14,.osl 19,.osl 13,.iv x7]⟩,some ⟨79,[.ptr 0 0]⟩,some ⟨60,Sess.row x20.1⟩],[none,none,none,none,none,none,none,none,none,Sq8 x16,none,none,none,Z97 x18,Sq8 x19,none,Sq6 x29.2.2.2.2.1,Sq7 x29.2.2.2.2.2.1,none,Za7 x32]⟩) (Zuk x4 x5 x6 x7 x16 x18 x19 x20 x29 x32) r ?_ fun J7=>?_
       ·intro x33 h;rw [Zuk] at h;(try dsimp only)
        refine Zo4 (fun ((x39,x40,x41):(Int×List Sess×List Event))=>⟨(.any :: .ptr 1 0::an 147 []),[some ⟨81,[.iv x29.1,.iv x29.2.1,.osl 16,.iv x29.2.2.1,.osl 17,.iv x39,Sp3 x40,.osl 9,Sp0 x6,.osl 14,.osl 19,.osl 13,.iv x7]⟩,some ⟨79,[.ptr 0 0]⟩],[none,none,none,none,none,none,none,none,none,Sq8 x16,none,none,none,Z97 x41,Sq8 x19,none,Sq6 x29.2.2.2.2.1,Sq7 x29.2.2.2.2.2.1,none,Za7 x32]⟩) (Zsk x6 x7 x16 x19 x29 x32) r ?_ fun J8=>?_
        ·rintro ⟨x39,x40,x41⟩ h;rw [Zsk] at h;(try dsimp only);refine Vg 12 ?_
         refine Zo4 (fun ((x43,x44):(List Int×List Mail))=>⟨(.any :: .ptr 1 0::an 147 []),[some ⟨81,[.iv x29.1,.iv x29.2.1,.osl 16,.iv x29.2.2.1,.osl 17,.iv x39,Sp3 x40,.osl 9,Sp0 x43,.osl 14,.osl 19,.osl 13,.iv x7]⟩,some ⟨79,[.ptr 0 0]⟩],[none,none,none,none,none,none,none,none,none,Sq8 x16,none,none,none,Z97 x41,Sq8 x19,none,Sq6 x29.2.2.2.2.1,Sq7 x29.2.2.2.2.2.1,none,Za7 x44]⟩) (Zrk x7 x16 x19 x29 x39 x40 x41) r ?_ fun J10=>?_
         ·rintro ⟨x43,x44⟩ h;rw [Zrk] at h;(try dsimp only);refine Vg 2 ?_;have ⟨x45,ex45,h⟩:=Bs h;refine Z67 [0] [16,17,9,14,19,13] 2 20 (Zhh x29.1 x29.2.1 x29.2.2.1 x39 x40 x43 x7 x29.2.2.2.2.1 x29.2.2.2.2.2.1 x16 x19 x44 x41 _ ex45) ?_;refine Vg 1 ?_
          obtain rfl:=Option.some.inj h;exact Z57 ok85
         ·refine MI h (fun h=>?_) fun h=>?_
          ·refine Vg 2 ?_;have ⟨x42,ex42,h⟩:=Bs h;refine Z67 [0] [16,17,9,14,19,13] 2 20 (Zyi x29.1 x29.2.1 x29.2.2.1 x39 x40 x6 x7 x29.2.2.2.2.1 x29.2.2.2.2.2.1 x16 x19 x32 x41 _ ex42) ?_;refine Vg 1 ?_;refine Z07 21 19 ?_;dsimp only[go_sem]
           exact Zx4 J10 h
          ·refine Vg 1 ?_;exact Zx4 J10 h
        ·refine MI h (fun h=>?_) fun h=>?_
         ·refine Vg 1 ?_
          refine Zo4 (fun ((x36,x37):(Int×List Sess))=>⟨(.any :: .ptr 1 0 :: .ptr 2 0::an 146 []),[some ⟨81,[.iv x29.1,.iv x29.2.1,.osl 16,.iv x29.2.2.1,.osl 17,.iv x36,Sp3 x37,.osl 9,Sp0 x6,.osl 14,.osl 19,.osl 13,.iv x7]⟩,some ⟨79,[.ptr 0 0]⟩,some ⟨60,Sess.row x20.1⟩],[none,none,none,none,none,none,none,none,none,Sq8 x16,none,none,none,Z97 x18,Sq8 x19,none,Sq6 x29.2.2.2.2.1,Sq7 x29.2.2.2.2.2.1,none,Za7 x32]⟩) (Ztk x6 x7 x16 x18 x19 x20 x29 x32) r ?_ fun J9=>?_
          ·rintro ⟨x36,x37⟩ h;rw [Ztk] at h;(try dsimp only);refine Vg 4 ?_;have ⟨x38,ex38,h⟩:=Bs h;refine Z67 [0] [16,17,9,14,19,13] 3 20 (Zoc 1 x20.1.ID x29.1 x29.2.1 x29.2.2.1 x36 x37 x6 x7 x29.2.2.2.2.1 x29.2.2.2.2.2.1 x16 x19 x32 x18 _ ex38) ?_;dsimp only[go_sem];refine Zv2 1 ?_;dsimp only[go_sem]
           refine An (Z07 21 13 ?_);dsimp only[go_sem];exact Zx4 J8 h
          ·refine Zz6 fun all H=>?_;dsimp only[go_sem];refine Z74 0 1 rfl ?_ ?_
           ·refine GV H.1 ?_;dsimp only[go_sem];refine GE H.1 1 ?_;refine Gn H 4 9 ?_;refine Z64 6 rfl ?_;have ⟨x34,ex34,h⟩:=Bs h;refine GC H.1 (Zig (Book.mk x4 x5) _ ex34) ?_;dsimp only[go_sem]
            refine GP H 7 1 [14,1] [(119,[.tup [.agg (Book.row x34.1),.iv x34.2.1,.iv x34.2.2]]),(7,[.agg (Book.row x34.1),.iv x34.2.1,.iv x34.2.2,.ptr 0 0,.ptr 0 0,.ptr 0 5])] ?_;dsimp only[go_sem];refine GE H.1 14 ?_;dsimp only[go_sem];refine GD ?_;exact Zx4 J9 h
           ·refine GV H.1 ?_;refine Gn H 4 10 ?_;have ⟨x34,ex34,h⟩:=Bs h;refine Z74 0 6 rfl ?_ ?_
            ·refine GV H.1 ?_;dsimp only[go_sem];refine Z64 6 rfl (GC H.1 (Zig (Book.mk x4 x5) _ ex34) ?_);dsimp only[go_sem];refine GP H 7 1 [14,1] [(119,[.tup [.agg (Book.row x34.1),.iv x34.2.1,.iv x34.2.2]]),(7,[.agg (Book.row x34.1),.iv x34.2.1,.iv x34.2.2,.ptr 0 0,.ptr 0 0,.ptr 0 5])] ?_;dsimp only[go_sem];refine GE H.1 14 ?_;dsimp only[go_sem]
             refine GD ?_;exact Zx4 J9 h
            ·refine GC H.1 (Zig (Book.mk x4 x5) _ ex34) ?_;refine Gn H 4 5 ?_;refine GE H.1 0 ?_;refine Gn H 3 1 ?_;refine GE H.1 14 ?_;dsimp only[go_sem];refine GD ?_;exact Zx4 J9 h
         ·refine Vg 1 ?_;exact Zx4 J8 h
       ·refine MC 105 h (fun h=>?_) fun h=>?_
        ·refine Vg 5 ?_;refine MC 110 h (fun h=>?_) fun h=>?_
         ·refine Vg 9 ?_;exact Zx4 J7 h
         ·refine Vg 9 ?_;exact Zx4 J7 h
        ·refine Vg 14 ?_;exact Zx4 J7 h
      ·refine Zz6 fun all H=>?_;refine Gn H 1 9 ?_;refine Z74 0 1 rfl ?_ ?_
       ·refine GV H.1 ?_;dsimp only[go_sem];refine GE H.1 1 ?_;refine Gn H 2 5 ?_;refine GE H.1 4 ?_;dsimp only[go_sem];refine Z64 6 rfl ?_;have ⟨x30,ex30,h⟩:=Bs h;refine GA Mail.row ex30 H.1 ?_;refine Gn H 2 1 ?_;refine GE H.1 9 ?_;dsimp only[go_sem]
        refine GD ?_;exact Zx4 J6 h
       ·refine GV H.1 ?_;refine Gn H 2 6 ?_;refine Z74 0 4 rfl ?_ ?_
        ·refine GV H.1 ?_;dsimp only[go_sem];refine GE H.1 4 ?_;dsimp only[go_sem];refine Z64 6 rfl ?_;have ⟨x30,ex30,h⟩:=Bs h;refine GA Mail.row ex30 H.1 ?_;refine Gn H 2 1 ?_;refine GE H.1 9 ?_;dsimp only[go_sem];refine GD ?_;exact Zx4 J6 h
        ·refine GV H.1 ?_;dsimp only[go_sem];have ⟨x30,ex30,h⟩:=Bs h;refine Z74 0 6 rfl ?_ ?_
         ·refine GV H.1 ?_;dsimp only[go_sem];refine Z64 6 rfl (GA Mail.row ex30 H.1 ?_);refine Gn H 2 1 ?_;refine GE H.1 9 ?_;dsimp only[go_sem];refine GD ?_;exact Zx4 J6 h
         ·refine GA Mail.row ex30 H.1 ?_;dsimp only[go_sem];refine GE H.1 0 ?_;refine Gn H 2 1 ?_;refine GE H.1 9 ?_;dsimp only[go_sem];refine GD ?_;exact Zx4 J6 h
     ·refine MI h (fun h=>?_) fun h=>?_
      ·refine Vg 9 ?_;exact Zx4 J5 h
      ·refine Vg 1 ?_;exact Zx4 J5 h
    ·refine MC 63 h (fun h=>?_) fun h=>?_
     ·refine Vg 8 ?_;have ⟨x26,ex26,h⟩:=Bs h
      refine VL ((((((((LR.slice 7 rfl).slice 9 rfl).slice 11 rfl).slice 13 rfl).slice 14 rfl).slice 15 rfl).block 0 rfl rfl).block 1 rfl rfl) (Zqa x15 _ _ ((fun z=>Zvf z (node_node.mk (Node.mk (DK.mk (DI.mk x1 x2 x15) x24 x25) (Book.mk x4 x5) x16 x6 x19) x17 x18 x7))) ⟨by kernel_rfl,rfl,fun z r hz=>Zwf z (node_node.mk (Node.mk (DK.mk (DI.mk x1 x2 x15) x24 x25) (Book.mk x4 x5) x16 x6 x19) x17 x18 x7) r hz⟩ _ ex26) (Zv2 2 ?_);dsimp only[go_sem]
      refine An ?_;exact Zx4 J4 h
     ·refine Vg 11 ?_;exact Zx4 J4 h
   ·refine MI h (fun h=>?_) fun h=>?_
    ·refine Zz6 fun all H=>?_;refine Gn H 2 13 ?_;have ⟨x22,ex22,h⟩:=Bs h;refine Z84 0 1 4 rfl ?_ ?_ ?_
     ·refine GV H.1 ?_;dsimp only[go_sem];refine Z74 1 4 rfl ?_ ?_
      ·refine GV H.1 ?_;dsimp only[go_sem];refine Z64 4 rfl (Z85 H.1 rfl trivial (Zx7 x20.1.Need _ ex22) (h:=?_));refine Gn H 4 6 ?_;refine GE H.1 9 ?_;refine Gn H 4 1 ?_;refine GE H.1 14 ?_;dsimp only[go_sem];refine GD ?_;exact Zx4 J3 h
      ·refine Z85 H.1 rfl trivial (Zx7 x20.1.Need _ ex22) (h:=?_);refine Gn H 4 7 ?_;refine Z74 1 9 rfl ?_ ?_
       ·refine GV H.1 ?_;dsimp only[go_sem];refine GE H.1 9 ?_;refine Gn H 4 1 ?_;refine GE H.1 14 ?_;dsimp only[go_sem];refine GD ?_;exact Zx4 J3 h
       ·refine GV H.1 ?_;dsimp only[go_sem];refine GE H.1 1 ?_;refine Gn H 4 1 ?_;refine GE H.1 14 ?_;dsimp only[go_sem];refine GD ?_;exact Zx4 J3 h
     ·refine GV H.1 ?_;dsimp only[go_sem];refine Z74 0 4 rfl ?_ ?_
      ·refine GV H.1 ?_;dsimp only[go_sem];refine Z64 4 rfl (Z85 H.1 rfl trivial (Zx7 x20.1.Need _ ex22) (h:=?_));refine Gn H 4 6 ?_;refine GE H.1 9 ?_;refine Gn H 4 1 ?_;refine GE H.1 14 ?_;dsimp only[go_sem];refine GD ?_;exact Zx4 J3 h
      ·refine Z85 H.1 rfl trivial (Zx7 x20.1.Need _ ex22) (h:=?_);dsimp only[go_sem];refine GE H.1 0 ?_;refine Gn H 4 6 ?_;refine GE H.1 9 ?_;refine Gn H 4 1 ?_;refine GE H.1 14 ?_;dsimp only[go_sem];refine GD ?_;exact Zx4 J3 h
     ·refine Z85 H.1 rfl trivial (Zx7 x20.1.Need _ ex22) (h:=?_);dsimp only[go_sem];refine Z74 0 1 rfl ?_ ?_
      ·refine GV H.1 ?_;refine Gn H 4 7 ?_;refine Z74 1 9 rfl ?_ ?_
       ·refine GV H.1 ?_;dsimp only[go_sem];refine GE H.1 9 ?_;refine Gn H 4 1 ?_;refine GE H.1 14 ?_;dsimp only[go_sem];refine GD ?_;exact Zx4 J3 h
       ·refine GV H.1 ?_;dsimp only[go_sem];refine GE H.1 1 ?_;refine Gn H 4 1 ?_;refine GE H.1 14 ?_;dsimp only[go_sem];refine GD ?_;exact Zx4 J3 h
      ·refine GV H.1 ?_;dsimp only[go_sem];refine GE H.1 0 ?_;refine Gn H 4 6 ?_;refine GE H.1 9 ?_;refine Gn H 4 1 ?_;refine GE H.1 14 ?_;dsimp only[go_sem];refine GD ?_;exact Zx4 J3 h
    ·refine Vg 1 ?_;refine Z37 3 1 ?_;dsimp only[go_sem];refine Z07 1 15 ?_;dsimp only[go_sem];exact Zx4 J3 h
  ·refine MC 27 h (fun h=>?_) fun h=>?_
   ·refine Vg 5 ?_;refine MC 32 h (fun h=>?_) fun h=>?_
    ·refine Vg 9 ?_;exact Zx4 J2 h
    ·refine Vg 9 ?_;exact Zx4 J2 h
   ·refine Vg 14 ?_;exact Zx4 J2 h
 ·refine MI h (fun h=>?_) fun h=>?_
  ·refine Vg 2 ?_;have ⟨x14,ex14,h⟩:=Bs h;refine Z67 [0] [0,1,2,3,4,5] 2 6 (Zjj x1 x2 x3 x4 x5 x6 x7 x8 x9 x10 x11 x12 x13 _ ex14) ?_;refine Vg 1 ?_;refine Z27 0 9 95 2 ?_;dsimp only[go_sem];exact Zx4 J1 h
  ·refine Vg 1 ?_;refine Z37 74 5 ?_;dsimp only[go_sem];refine Z37 74 5 ?_;dsimp only[go_sem];refine Z37 74 5 ?_;dsimp only[go_sem];refine Z37 74 5 ?_;dsimp only[go_sem];refine Z37 74 5 ?_;dsimp only[go_sem];refine Z37 74 5 ?_;dsimp only[go_sem];refine Z07 4 11 ?_;dsimp only[go_sem];refine Z37 57 5 ?_;dsimp only[go_sem];refine Z37 57 5 ?_;dsimp only[go_sem];refine Z07 5 13 (Z07 0 7 ?_);dsimp only[go_sem]
   refine Z07 2 9 ?_;dsimp only[go_sem];refine Z37 95 2 ?_;dsimp only[go_sem];refine Z07 3 14 ?_;dsimp only[go_sem];exact Zx4 J1 h
@[go_sem] def e24:EC:=(by have h:=hF Tryz.f24;(conv at h=>rhs;reduce);dsimp only[go_sem] at h;exact ⟨_,h⟩:DP Tryz.f24).1
theorem ok24:FnOK Tryz.prog 24 Tryz.f24 e24 [.c 2 (some 10),.t 3] 1 33:=okA
def Z3l (x1:DK):List KE→Option (Node×Int)
| x21=>
 (Zkk (Node.mk x1 (Book.mk 0 (([]:List Sess))) x21 (([]:List Int)) (([]:List KE)))).bind fun x22=>
 ifb (!decide (x22=0)) (
 some ((Node.mk (DK.mk (DI.mk 0 0 (([]:List Side))) 0 (([]:List Int))) (Book.mk 0 (([]:List Sess))) (([]:List KE)) (([]:List Int)) (([]:List KE))),180)) (
 (Zdf x1.DI.ID x1.DI.PH x1.DI.SD x1.TH x1.Need 0 x21).bind fun x23=>
 some ((Node.mk (DK.mk (DI.mk x1.DI.ID x1.DI.PH x23.1) x1.TH x23.2.1) (Book.mk 0 x23.2.2.2.2.2) x23.2.2.1 x23.2.2.2.1 x23.2.2.2.2.1),0))
def Z4l (x1:DK):(Int×List KE)→Option ((Int×List KE) ⊕ (Node×Int))
| (x6,x7)=>
 ifb (decide (x6<(ln Side.row x1.DI.SD))) (
 (at_ x1.DI.SD x6).bind fun x8=>
 (Zj4 16 x7 ([KE.mk x8.Peer x8.Epoch])).bind fun x9=>
 some (.inl (wr (x6+1),x9))) (
 Option.map Sum.inr ((Z3l x1) x7))
def Z5l (x1:DK):Option (Node×Int):=
 loop (Z4l x1) (0,([]:List KE))
theorem k_node_New (x1:DK) (r:(Node×Int)) (h:Z5l x1=some r):Z03 Tryz.prog 24 [.agg (DK.row x1)] (.tup [.agg (Node.row r.1),.iv r.2]):=by
 refine FP ok24 fun w0 H0=>?_
 rw [Z5l] at h
 refine Vg 22 ?_;refine Zo4 (fun (x21:List KE)=>⟨(.any :: .any :: .ptr 1 0 :: .any :: .ptr 2 0::an 29 []),[none,some ⟨35,[.iv 0,.iv 0,.nl,.iv 0,.nl,.iv 0,.nl,.nl,.nl,.nl]⟩,some ⟨35,[.iv x1.DI.ID,.iv x1.DI.PH,Sp2 x1.DI.SD,.iv x1.TH,Sp0 x1.Need,.iv 0,.nl,.osl 0,.nl,.nl]⟩],[Sq8 x21]⟩) (Z3l x1) r ?_ fun J1=>?_
 ·intro x21 h;rw [Z3l] at h;(try dsimp only);refine Vg 4 ?_;have ⟨x22,ex22,h⟩:=Bs h;refine VL (LR.slice 0 rfl) (Zlk (Node.mk x1 (Book.mk 0 (([]:List Sess))) x21 (([]:List Int)) (([]:List KE))) _ ex22) (Vg 2 ?_);refine MI h (fun h=>?_) fun h=>?_
  ·refine Vg 6 ?_;exact MD ok24 h
  ·refine Vg 4 ?_;have ⟨x23,ex23,h⟩:=Bs h;refine Z67 [] [0] 3 1 (t_node_own_I1 x1.DI.ID x1.DI.PH x1.DI.SD x1.TH x1.Need 0 x21 _ ex23) ?_;refine Vg 3 ?_;refine Z17 1 ?_;dsimp only[go_sem];refine Z17 2 ?_;dsimp only[go_sem];refine Z17 6 ?_;dsimp only[go_sem];refine Z17 3 ?_;dsimp only[go_sem];refine Z17 4 ?_;dsimp only[go_sem];refine Z17 5 ?_
   dsimp only[go_sem];exact MD ok24 h
 ·refine Vg 1 ?_;refine Z27 2 7 95 2 ?_;dsimp only[go_sem]
  refine Zp4 h (fun ((x6,x7):(Int×List KE))=>⟨(.any :: .any :: .ptr 1 0 :: .any :: .ptr 2 0::an 6 (Sp2 x1.DI.SD :: .iv (ln Side.row x1.DI.SD) :: .iv x6::an 20 [])),[none,some ⟨35,[.iv 0,.iv 0,.nl,.iv 0,.nl,.iv 0,.nl,.nl,.nl,.nl]⟩,some ⟨35,[.iv x1.DI.ID,.iv x1.DI.PH,Sp2 x1.DI.SD,.iv x1.TH,Sp0 x1.Need,.iv 0,.nl,.osl 0,.nl,.nl]⟩],[Sq8 x7]⟩) (by simp [go_sem]) (by rintro ⟨x6,x7⟩;first | rfl | simp [go_sem]) ?_
  rintro n1 ⟨x6,x7⟩ y1 h hin1 hout1;rw [Z4l] at h;(try dsimp only);refine Vg 5 ?_;refine MI h (fun h=>?_) fun h=>?_
  ·refine Vg 5 ?_;have ⟨x8,ex8,h⟩:=Bs h;refine Zs4 Side.row ex8 trivial rfl rfl rfl (Vg 13 ?_);have ⟨x9,ex9,h⟩:=Bs h;refine Zu4 KE.row ex9 trivial rfl rfl rfl (Vg 8 ?_);refine Z07 2 0 ?_;dsimp only[go_sem];exact Zw4 h hin1
  ·refine Vg 1 ?_;exact Zx4 J1 (Zn4 h hout1)
def Z6l (x7:Int):(Int×Int×Int×Int×List Sess×List Int×List Mail×List KE×List Event×List KE×List Int×List Side)→Option ((Int×Int×Int×Int×List Sess×List Int×List Mail×List KE×List Event×List KE×List Int×List Side) ⊕ (Int×Int×Int×Int×List Sess×List Int×Int×List Side×List Int×List KE×List KE×List Mail×List Event))
| (x28,x29,x30,x31,x32,x33,x34,x35,x36,x37,x38,x39)=>
 (Zpe x28 x29 x30 x31 x32 x33 x39 x38 x35 x37).bind fun x40=>
 (Z1l x28 x29 x30 x31 x32 x33 x7 x39 x38 x35 x37 x34 x36).bind fun x41=>
 (Zyf (Node.mk (DK.mk (DI.mk x28 x29 x40.1) x30 x40.2.1) (Book.mk x31 x40.2.2.2.2.2) x40.2.2.1 x40.2.2.2.1 x40.2.2.2.2.1) (Node.mk (DK.mk (DI.mk x41.1 x41.2.1 x41.2.2.2.2.2.2.2.2.2.2.2) x41.2.2.1 x41.2.2.2.2.2.2.2.2.2.1) (Book.mk x41.2.2.2.1 x41.2.2.2.2.1) x41.2.2.2.2.2.2.1 x41.2.2.2.2.2.1 x41.2.2.2.2.2.2.2.2.1)).bind fun x42=>
 ifb x42 (
 Option.map Sum.inr (some (x41.1,x41.2.1,x41.2.2.1,x41.2.2.2.1,x41.2.2.2.2.1,x41.2.2.2.2.2.1,0,x41.2.2.2.2.2.2.2.2.2.2.2,x41.2.2.2.2.2.2.2.2.2.1,x41.2.2.2.2.2.2.1,x41.2.2.2.2.2.2.2.2.1,x41.2.2.2.2.2.2.2.2.2.2.1,x41.2.2.2.2.2.2.2.1))) (
 some (.inl (x41.1,x41.2.1,x41.2.2.1,x41.2.2.2.1,x41.2.2.2.2.1,x41.2.2.2.2.2.1,x41.2.2.2.2.2.2.2.2.2.2.1,x41.2.2.2.2.2.2.1,x41.2.2.2.2.2.2.2.1,x41.2.2.2.2.2.2.2.2.1,x41.2.2.2.2.2.2.2.2.2.1,x41.2.2.2.2.2.2.2.2.2.2.2)))
def Z7l (x1 x2:Int) (x3 x4:Int) (x5:List Sess) (x6:List Int) (x7:Int) (x8:List Side) (x9:List Int) (x10 x11:List KE) (x12:List Event):Option (Int×Int×Int×Int×List Sess×List Int×Int×List Side×List Int×List KE×List KE×List Mail×List Event):=
 ifb (!decide (x7=0)) (
 some (0,0,0,0,([]:List Sess),([]:List Int),x7,([]:List Side),([]:List Int),([]:List KE),([]:List KE),([]:List Mail),([]:List Event))) (
 loop (Z6l x7) (x1,x2,x3,x4,x5,x6,([]:List Mail),x10,x12,x11,x9,x8))
theorem Z8l (x1 x2:Int) (x3 x4:Int) (x5:List Sess) (x6:List Int) (x7:Int) (x8:List Side) (x9:List Int) (x10 x11:List KE) (x12:List Event) (r:(Int×Int×Int×Int×List Sess×List Int×Int×List Side×List Int×List KE×List KE×List Mail×List Event)) (h:Z7l x1 x2 x3 x4 x5 x6 x7 x8 x9 x10 x11 x12=some r):Zq5 Tryz.prog 37 [.ptr 0 0] [some ⟨81,[.iv x1,.iv x2,.osl 0,.iv x3,.osl 1,.iv x4,Sp3 x5,.osl 2,Sp0 x6,.osl 3,.nl,.osl 4,.iv x7]⟩] [Sq6 x8,Sq7 x9,Sq8 x10,Sq8 x11,Z97 x12] (.tup [.agg [.iv r.1,.iv r.2.1,.osl 5,.iv r.2.2.1,.osl 6,.iv r.2.2.2.1,Sp3 r.2.2.2.2.1,.osl 7,Sp0 r.2.2.2.2.2.1,.osl 8],.osl 9,.osl 10,.iv r.2.2.2.2.2.2.1]) [none] [none,none,none,none,none,Sq6 r.2.2.2.2.2.2.2.1,Sq7 r.2.2.2.2.2.2.2.2.1,Sq8 r.2.2.2.2.2.2.2.2.2.1,Sq8 r.2.2.2.2.2.2.2.2.2.2.1,Za7 r.2.2.2.2.2.2.2.2.2.2.2.1,Z97 r.2.2.2.2.2.2.2.2.2.2.2.2]:=by
 refine FT Zqk fun w0 M0=>?_
 rw [Z7l] at h
 dsimp only[lun,List.cons_append,List.nil_append]
 refine Vg 16 ?_;refine MI h (fun h=>?_) fun h=>?_
 ·refine Vg 1 ?_;refine Zz6 fun all H=>?_;refine Gn H 4 5 ?_;refine Z74 4 5 rfl ?_ ?_
  ·refine GV H.1 ?_;dsimp only[go_sem];refine GE H.1 5 ?_;refine Gn H 3 0 ?_;refine GD (Z27 1 2 65 8 ?_);dsimp only[go_sem];refine Z27 1 4 3 1 ?_;dsimp only[go_sem];refine Z27 1 7 95 2 ?_;dsimp only[go_sem];refine Z27 1 9 95 2 ?_;dsimp only[go_sem];refine Zf4 3 74 5 rfl rfl ?_;dsimp only[go_sem];refine Zf4 4 57 5 rfl rfl ?_;dsimp only[go_sem]
   obtain rfl:=Option.some.inj h;exact Z47 Zqk
  ·refine GV H.1 ?_;refine Gn H 4 0 ?_;refine GD (Z27 1 2 65 8 ?_);dsimp only[go_sem];refine Z27 1 4 3 1 ?_;dsimp only[go_sem];refine Z27 1 7 95 2 ?_;dsimp only[go_sem];refine Z27 1 9 95 2 ?_;dsimp only[go_sem];refine Zf4 3 74 5 rfl rfl ?_;dsimp only[go_sem];refine Zf4 4 57 5 rfl rfl ?_;dsimp only[go_sem];obtain rfl:=Option.some.inj h;exact Z47 Zqk
 ·refine Vg 2 ?_;refine Z27 0 10 74 5 ?_;dsimp only[go_sem];refine Z37 57 5 ?_;dsimp only[go_sem];refine Z37 57 5 ?_;dsimp only[go_sem];refine Z37 57 5 ?_;dsimp only[go_sem];refine Z37 57 5 ?_;dsimp only[go_sem];refine Z37 57 5 ?_;dsimp only[go_sem];refine Z37 57 5 ?_;dsimp only[go_sem];refine Z37 57 5 ?_;dsimp only[go_sem];refine Z37 57 5 ?_;dsimp only[go_sem];refine Z37 57 5 ?_;dsimp only[go_sem];refine Z37 57 5 ?_;dsimp only[go_sem]
  refine Z37 57 5 ?_;dsimp only[go_sem];refine Z37 57 5 ?_;dsimp only[go_sem];refine Z37 57 5 ?_;dsimp only[go_sem];refine Z07 4 18 ?_;dsimp only[go_sem];refine Z37 65 8 ?_;dsimp only[go_sem];refine Z37 65 8 ?_;dsimp only[go_sem];refine Z37 65 8 ?_;dsimp only[go_sem];refine Z37 65 8 ?_;dsimp only[go_sem];refine Z37 65 8 ?_;dsimp only[go_sem];refine Z37 65 8 ?_;dsimp only[go_sem];refine Z37 65 8 ?_;dsimp only[go_sem];refine Z37 65 8 ?_;dsimp only[go_sem];refine Z37 65 8 ?_
  dsimp only[go_sem];refine Z07 0 27 (Z07 1 22 ?_);dsimp only[go_sem];refine Z07 2 14 (Z07 3 19 ?_);dsimp only[go_sem]
  refine Zp4 h (fun ((x28,x29,x30,x31,x32,x33,x34,x35,x36,x37,x38,x39):(Int×Int×Int×Int×List Sess×List Int×List Mail×List KE×List Event×List KE×List Int×List Side))=>⟨(.ptr 0 0 :: .any :: .ptr 1 0::an 39 []),[some ⟨81,[.iv x28,.iv x29,.osl 27,.iv x30,.osl 22,.iv x31,Sp3 x32,.osl 14,Sp0 x33,.osl 19,.osl 5,.osl 18,.iv x7]⟩,some ⟨35,[.iv 0,.iv 0,.nl,.iv 0,.nl,.iv 0,.nl,.nl,.nl,.nl]⟩],[none,none,none,none,none,Za7 x34,none,none,none,none,none,none,none,none,Sq8 x35,none,none,none,Z97 x36,Sq8 x37,none,none,Sq7 x38,none,none,none,none,Sq6 x39]⟩) (by simp [go_sem]) (by rintro ⟨x28,x29,x30,x31,x32,x33,x34,x35,x36,x37,x38,x39⟩;first | rfl | simp [go_sem]) ?_
  rintro n1 ⟨x28,x29,x30,x31,x32,x33,x34,x35,x36,x37,x38,x39⟩ y1 h hin1 hout1;rw [Z6l] at h;(try dsimp only);refine Vg 7 ?_;have ⟨x40,ex40,h⟩:=Bs h;refine Z67 [] [27,22,14,19] 2 28 (t_node_own_I3 x28 x29 x30 x31 x32 x33 x39 x38 x35 x37 _ ex40) ?_;dsimp only[go_sem]
  refine Vg 6 ?_;have ⟨x41,ex41,h⟩:=Bs h;refine Z67 [0] [27,22,14,19,5,18] 3 34 (Z2l x28 x29 x30 x31 x32 x33 x7 x39 x38 x35 x37 x34 x36 _ ex41) ?_;refine Vg 2 ?_
  refine Zz6 fun all H=>?_;refine Gn H 3 3 ?_;refine Z74 0 4 rfl ?_ ?_
  ·refine GV H.1 ?_;dsimp only[go_sem];refine GE H.1 4 ?_;dsimp only[go_sem];refine Z64 5 rfl ?_;have ⟨x42,ex42,h⟩:=Bs h
   refine GK H.1 ((((((((((LR.slice 28 rfl).slice 29 rfl).slice 30 rfl).slice 31 rfl).slice 32 rfl).slice 33 rfl).slice 37 rfl).slice 42 rfl).slice 45 rfl).slice 50 rfl) (Zzf (Node.mk (DK.mk (DI.mk x28 x29 x40.1) x30 x40.2.1) (Book.mk x31 x40.2.2.2.2.2) x40.2.2.1 x40.2.2.2.1 x40.2.2.2.2.1) (Node.mk (DK.mk (DI.mk x41.1 x41.2.1 x41.2.2.2.2.2.2.2.2.2.2.2) x41.2.2.1 x41.2.2.2.2.2.2.2.2.2.1) (Book.mk x41.2.2.2.1 x41.2.2.2.2.1) x41.2.2.2.2.2.2.1 x41.2.2.2.2.2.1 x41.2.2.2.2.2.2.2.2.1) _ ex42) ?_;dsimp only[go_sem]
   refine GD (MI h (fun h=>?_) fun h=>?_)
   ·refine Vg 1 ?_;refine Zz6 fun all H=>?_;dsimp only[go_sem];refine GP H 9 7 [3,1,3,1,3,5] [(30,[.ptr 0 0,.ptr 0 0,.ptr 0 0]),(1,[.ptr 0 0,.ptr 0 0,.ptr 0 10]),(1,[.ptr 0 0,.ptr 0 0,.ptr 0 11])] ?_;dsimp only[go_sem];refine Z84 3 7 11 rfl ?_ ?_ ?_
    ·refine GV H.1 ?_;dsimp only[go_sem];refine Z84 7 11 12 rfl ?_ ?_ ?_
     ·refine GV H.1 ?_;dsimp only[go_sem];refine Z74 11 12 rfl ?_ ?_
      ·refine GV H.1 ?_;dsimp only[go_sem];refine GE H.1 12 ?_;refine Gn H 3 0 ?_;refine GD (Z07 50 5 (Z07 45 6 ?_));dsimp only[go_sem];refine Z07 37 7 (Z07 42 8 ?_);dsimp only[go_sem];refine Z07 49 9 (Z07 41 10 ?_);dsimp only[go_sem]
       obtain rfl:=Option.some.inj (Zn4 h hout1);exact Z47 Zqk
      ·refine GV H.1 ?_;refine Gn H 1 3 ?_;refine GE H.1 11 ?_;refine Gn H 2 0 ?_;refine GD (Z07 50 5 (Z07 45 6 ?_));dsimp only[go_sem];refine Z07 37 7 (Z07 42 8 (Z07 49 9 ?_));dsimp only[go_sem]
       refine Z07 41 10 ?_;dsimp only[go_sem];obtain rfl:=Option.some.inj (Zn4 h hout1);exact Z47 Zqk
     ·refine GV H.1 ?_;dsimp only[go_sem];refine Z74 7 12 rfl ?_ ?_
      ·refine GV H.1 ?_;dsimp only[go_sem];refine GE H.1 12 ?_;refine Gn H 3 0 ?_;refine GD (Z07 50 5 (Z07 45 6 ?_));dsimp only[go_sem];refine Z07 37 7 (Z07 42 8 ?_);dsimp only[go_sem];refine Z07 49 9 (Z07 41 10 ?_);dsimp only[go_sem]
       obtain rfl:=Option.some.inj (Zn4 h hout1);exact Z47 Zqk
      ·refine GV H.1 ?_;dsimp only[go_sem];refine GE H.1 7 ?_;refine Gn H 3 0 ?_;refine GD (Z07 50 5 (Z07 45 6 ?_));dsimp only[go_sem];refine Z07 37 7 (Z07 42 8 ?_);dsimp only[go_sem];refine Z07 49 9 (Z07 41 10 ?_);dsimp only[go_sem]
       obtain rfl:=Option.some.inj (Zn4 h hout1);exact Z47 Zqk
     ·refine GV H.1 ?_;dsimp only[go_sem];refine Z74 7 11 rfl ?_ ?_
      ·refine GV H.1 ?_;refine Gn H 1 3 ?_;refine GE H.1 11 ?_;refine Gn H 2 0 ?_;refine GD (Z07 50 5 (Z07 45 6 ?_));dsimp only[go_sem];refine Z07 37 7 (Z07 42 8 (Z07 49 9 ?_));dsimp only[go_sem]
       refine Z07 41 10 ?_;dsimp only[go_sem];obtain rfl:=Option.some.inj (Zn4 h hout1);exact Z47 Zqk
      ·refine GV H.1 ?_;dsimp only[go_sem];refine GE H.1 7 ?_;refine Gn H 3 0 ?_;refine GD (Z07 50 5 (Z07 45 6 ?_));dsimp only[go_sem];refine Z07 37 7 (Z07 42 8 ?_);dsimp only[go_sem];refine Z07 49 9 (Z07 41 10 ?_);dsimp only[go_sem]
       obtain rfl:=Option.some.inj (Zn4 h hout1);exact Z47 Zqk
    ·refine GV H.1 ?_;dsimp only[go_sem];refine Z74 3 11 rfl ?_ ?_
     ·refine GV H.1 ?_;dsimp only[go_sem];refine Z74 11 12 rfl ?_ ?_
      ·refine GV H.1 ?_;dsimp only[go_sem];refine GE H.1 12 ?_;refine Gn H 3 0 ?_;refine GD (Z07 50 5 (Z07 45 6 ?_));dsimp only[go_sem];refine Z07 37 7 (Z07 42 8 ?_);dsimp only[go_sem];refine Z07 49 9 (Z07 41 10 ?_);dsimp only[go_sem]
       obtain rfl:=Option.some.inj (Zn4 h hout1);exact Z47 Zqk
      ·refine GV H.1 ?_;refine Gn H 1 3 ?_;refine GE H.1 11 ?_;refine Gn H 2 0 ?_;refine GD (Z07 50 5 (Z07 45 6 ?_));dsimp only[go_sem];refine Z07 37 7 (Z07 42 8 (Z07 49 9 ?_));dsimp only[go_sem]
       refine Z07 41 10 ?_;dsimp only[go_sem];obtain rfl:=Option.some.inj (Zn4 h hout1);exact Z47 Zqk
     ·refine GV H.1 ?_;dsimp only[go_sem];refine GE H.1 3 ?_;dsimp only[go_sem];refine GE H.1 12 ?_;refine Gn H 3 0 ?_;refine GD (Z07 50 5 (Z07 45 6 ?_));dsimp only[go_sem];refine Z07 37 7 (Z07 42 8 (Z07 49 9 ?_));dsimp only[go_sem]
      refine Z07 41 10 ?_;dsimp only[go_sem];obtain rfl:=Option.some.inj (Zn4 h hout1);exact Z47 Zqk
    ·refine GV H.1 ?_;dsimp only[go_sem];refine Z74 3 7 rfl ?_ ?_
     ·refine GV H.1 ?_;dsimp only[go_sem];refine Z74 7 12 rfl ?_ ?_
      ·refine GV H.1 ?_;dsimp only[go_sem];refine GE H.1 12 ?_;refine Gn H 3 0 ?_;refine GD (Z07 50 5 (Z07 45 6 ?_));dsimp only[go_sem];refine Z07 37 7 (Z07 42 8 ?_);dsimp only[go_sem];refine Z07 49 9 (Z07 41 10 ?_);dsimp only[go_sem]
       obtain rfl:=Option.some.inj (Zn4 h hout1);exact Z47 Zqk
      ·refine GV H.1 ?_;dsimp only[go_sem];refine GE H.1 7 ?_;refine Gn H 3 0 ?_;refine GD (Z07 50 5 (Z07 45 6 ?_));dsimp only[go_sem];refine Z07 37 7 (Z07 42 8 ?_);dsimp only[go_sem];refine Z07 49 9 (Z07 41 10 ?_);dsimp only[go_sem]
       obtain rfl:=Option.some.inj (Zn4 h hout1);exact Z47 Zqk
     ·refine GV H.1 ?_;dsimp only[go_sem];refine GE H.1 3 ?_;dsimp only[go_sem];refine GE H.1 12 ?_;refine Gn H 3 0 ?_;refine GD (Z07 50 5 (Z07 45 6 ?_));dsimp only[go_sem];refine Z07 37 7 (Z07 42 8 (Z07 49 9 ?_));dsimp only[go_sem]
      refine Z07 41 10 ?_;dsimp only[go_sem];obtain rfl:=Option.some.inj (Zn4 h hout1);exact Z47 Zqk
   ·refine Vg 2 ?_;refine Z07 49 5 (Z07 41 18 ?_);dsimp only[go_sem];refine Z07 50 27 (Z07 45 22 ?_);dsimp only[go_sem];refine Z07 37 14 (Z07 42 19 ?_);dsimp only[go_sem];exact Zw4 h hin1
  ·refine GV H.1 ?_;dsimp only[go_sem];refine GE H.1 0 ?_;dsimp only[go_sem];refine Z64 5 rfl ?_;have ⟨x42,ex42,h⟩:=Bs h
   refine GK H.1 ((((((((((LR.slice 28 rfl).slice 29 rfl).slice 30 rfl).slice 31 rfl).slice 32 rfl).slice 33 rfl).slice 37 rfl).slice 42 rfl).slice 45 rfl).slice 50 rfl) (Zzf (Node.mk (DK.mk (DI.mk x28 x29 x40.1) x30 x40.2.1) (Book.mk x31 x40.2.2.2.2.2) x40.2.2.1 x40.2.2.2.1 x40.2.2.2.2.1) (Node.mk (DK.mk (DI.mk x41.1 x41.2.1 x41.2.2.2.2.2.2.2.2.2.2.2) x41.2.2.1 x41.2.2.2.2.2.2.2.2.2.1) (Book.mk x41.2.2.2.1 x41.2.2.2.2.1) x41.2.2.2.2.2.2.1 x41.2.2.2.2.2.1 x41.2.2.2.2.2.2.2.2.1) _ ex42) ?_;dsimp only[go_sem]
   refine GD (MI h (fun h=>?_) fun h=>?_)
   ·refine Vg 1 ?_;refine Zz6 fun all H=>?_;dsimp only[go_sem];refine GP H 9 7 [3,1,3,1,3,5] [(30,[.ptr 0 0,.ptr 0 0,.ptr 0 0]),(1,[.ptr 0 0,.ptr 0 0,.ptr 0 10]),(1,[.ptr 0 0,.ptr 0 0,.ptr 0 11])] ?_;dsimp only[go_sem];refine Z84 3 7 11 rfl ?_ ?_ ?_
    ·refine GV H.1 ?_;dsimp only[go_sem];refine Z84 7 11 12 rfl ?_ ?_ ?_
     ·refine GV H.1 ?_;dsimp only[go_sem];refine Z74 11 12 rfl ?_ ?_
      ·refine GV H.1 ?_;dsimp only[go_sem];refine GE H.1 12 ?_;refine Gn H 3 0 ?_;refine GD (Z07 50 5 (Z07 45 6 ?_));dsimp only[go_sem];refine Z07 37 7 (Z07 42 8 ?_);dsimp only[go_sem];refine Z07 49 9 (Z07 41 10 ?_);dsimp only[go_sem]
       obtain rfl:=Option.some.inj (Zn4 h hout1);exact Z47 Zqk
      ·refine GV H.1 ?_;refine Gn H 1 3 ?_;refine GE H.1 11 ?_;refine Gn H 2 0 ?_;refine GD (Z07 50 5 (Z07 45 6 ?_));dsimp only[go_sem];refine Z07 37 7 (Z07 42 8 (Z07 49 9 ?_));dsimp only[go_sem]
       refine Z07 41 10 ?_;dsimp only[go_sem];obtain rfl:=Option.some.inj (Zn4 h hout1);exact Z47 Zqk
     ·refine GV H.1 ?_;dsimp only[go_sem];refine Z74 7 12 rfl ?_ ?_
      ·refine GV H.1 ?_;dsimp only[go_sem];refine GE H.1 12 ?_;refine Gn H 3 0 ?_;refine GD (Z07 50 5 (Z07 45 6 ?_));dsimp only[go_sem];refine Z07 37 7 (Z07 42 8 ?_);dsimp only[go_sem];refine Z07 49 9 (Z07 41 10 ?_);dsimp only[go_sem]
       obtain rfl:=Option.some.inj (Zn4 h hout1);exact Z47 Zqk
      ·refine GV H.1 ?_;dsimp only[go_sem];refine GE H.1 7 ?_;refine Gn H 3 0 ?_;refine GD (Z07 50 5 (Z07 45 6 ?_));dsimp only[go_sem];refine Z07 37 7 (Z07 42 8 ?_);dsimp only[go_sem];refine Z07 49 9 (Z07 41 10 ?_);dsimp only[go_sem]
       obtain rfl:=Option.some.inj (Zn4 h hout1);exact Z47 Zqk
     ·refine GV H.1 ?_;dsimp only[go_sem];refine Z74 7 11 rfl ?_ ?_
      ·refine GV H.1 ?_;refine Gn H 1 3 ?_;refine GE H.1 11 ?_;refine Gn H 2 0 ?_;refine GD (Z07 50 5 (Z07 45 6 ?_));dsimp only[go_sem];refine Z07 37 7 (Z07 42 8 (Z07 49 9 ?_));dsimp only[go_sem]
       refine Z07 41 10 ?_;dsimp only[go_sem];obtain rfl:=Option.some.inj (Zn4 h hout1);exact Z47 Zqk
      ·refine GV H.1 ?_;dsimp only[go_sem];refine GE H.1 7 ?_;refine Gn H 3 0 ?_;refine GD (Z07 50 5 (Z07 45 6 ?_));dsimp only[go_sem];refine Z07 37 7 (Z07 42 8 ?_);dsimp only[go_sem];refine Z07 49 9 (Z07 41 10 ?_);dsimp only[go_sem]
       obtain rfl:=Option.some.inj (Zn4 h hout1);exact Z47 Zqk
    ·refine GV H.1 ?_;dsimp only[go_sem];refine Z74 3 11 rfl ?_ ?_
     ·refine GV H.1 ?_;dsimp only[go_sem];refine Z74 11 12 rfl ?_ ?_
      ·refine GV H.1 ?_;dsimp only[go_sem];refine GE H.1 12 ?_;refine Gn H 3 0 ?_;refine GD (Z07 50 5 (Z07 45 6 ?_));dsimp only[go_sem];refine Z07 37 7 (Z07 42 8 ?_);dsimp only[go_sem];refine Z07 49 9 (Z07 41 10 ?_);dsimp only[go_sem]
       obtain rfl:=Option.some.inj (Zn4 h hout1);exact Z47 Zqk
      ·refine GV H.1 ?_;refine Gn H 1 3 ?_;refine GE H.1 11 ?_;refine Gn H 2 0 ?_;refine GD (Z07 50 5 (Z07 45 6 ?_));dsimp only[go_sem];refine Z07 37 7 (Z07 42 8 (Z07 49 9 ?_));dsimp only[go_sem]
       refine Z07 41 10 ?_;dsimp only[go_sem];obtain rfl:=Option.some.inj (Zn4 h hout1);exact Z47 Zqk
     ·refine GV H.1 ?_;dsimp only[go_sem];refine GE H.1 3 ?_;dsimp only[go_sem];refine GE H.1 12 ?_;refine Gn H 3 0 ?_;refine GD (Z07 50 5 (Z07 45 6 ?_));dsimp only[go_sem];refine Z07 37 7 (Z07 42 8 (Z07 49 9 ?_));dsimp only[go_sem]
      refine Z07 41 10 ?_;dsimp only[go_sem];obtain rfl:=Option.some.inj (Zn4 h hout1);exact Z47 Zqk
    ·refine GV H.1 ?_;dsimp only[go_sem];refine Z74 3 7 rfl ?_ ?_
     ·refine GV H.1 ?_;dsimp only[go_sem];refine Z74 7 12 rfl ?_ ?_
      ·refine GV H.1 ?_;dsimp only[go_sem];refine GE H.1 12 ?_;refine Gn H 3 0 ?_;refine GD (Z07 50 5 (Z07 45 6 ?_));dsimp only[go_sem];refine Z07 37 7 (Z07 42 8 ?_);dsimp only[go_sem];refine Z07 49 9 (Z07 41 10 ?_);dsimp only[go_sem]
       obtain rfl:=Option.some.inj (Zn4 h hout1);exact Z47 Zqk
      ·refine GV H.1 ?_;dsimp only[go_sem];refine GE H.1 7 ?_;refine Gn H 3 0 ?_;refine GD (Z07 50 5 (Z07 45 6 ?_));dsimp only[go_sem];refine Z07 37 7 (Z07 42 8 ?_);dsimp only[go_sem];refine Z07 49 9 (Z07 41 10 ?_);dsimp only[go_sem]
       obtain rfl:=Option.some.inj (Zn4 h hout1);exact Z47 Zqk
     ·refine GV H.1 ?_;dsimp only[go_sem];refine GE H.1 3 ?_;dsimp only[go_sem];refine GE H.1 12 ?_;refine Gn H 3 0 ?_;refine GD (Z07 50 5 (Z07 45 6 ?_));dsimp only[go_sem];refine Z07 37 7 (Z07 42 8 (Z07 49 9 ?_));dsimp only[go_sem]
      refine Z07 41 10 ?_;dsimp only[go_sem];obtain rfl:=Option.some.inj (Zn4 h hout1);exact Z47 Zqk
   ·refine Vg 2 ?_;refine Z07 49 5 (Z07 41 18 ?_);dsimp only[go_sem];refine Z07 50 27 (Z07 45 22 ?_);dsimp only[go_sem];refine Z07 37 14 (Z07 42 19 ?_);dsimp only[go_sem];exact Zw4 h hin1
end
end NX
end Go.Proofs.YtdjkbodnjhgbcaaGreat
