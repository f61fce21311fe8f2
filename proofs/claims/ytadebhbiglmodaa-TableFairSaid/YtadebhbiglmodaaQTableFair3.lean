/-
  The function narthex/dine.Check: its code compiled, a model, and that the code answers as the model. Written by a program of ours (lb.py). No statement of the seat is proved here.
-/
import Derived.KernelRfl
import Derived.Test.YtadebhbiglmodaaQTableFair2
import Derived.Test.YtadebhbiglmodaaQTableFair1
namespace Go.Proofs.Ytadebhbiglmodaa
namespace NX
open Go
set_option maxRecDepth 100000
set_option maxHeartbeats 4000000
def e103:EC:=.seq (.reg [(Qa 1 (.box 39 3 (.t 0))),(Qa 2 (.mv (.c (.iv 0))))]) (.seq (.reg [(Qa 3 (.alloc 3 [.iv 0])),(Qb (.store 1 (.t 3) (.c (.iv (-1)))))]) (.seq (.reg [(Qa 5 (.mkf 123 [(.t 3),(.t 1)])),(Qa 4 (.mv (.t 5)))]) (.seq (.seq (.reg [(Qa 6 (.fld 0 (.t 1))),(Qa 7 (.load (.t 6))),(Qa 8 (.bin .lss (.t 7) (.c (.iv 0)))),(Qa 9 (.mv (.t 8))),(Qg 10 9 false (.fld 1 (.t 1))),(Qg 11 9 false (.load (.t 10))),(Qg 12 9 false (.bin .lss (.t 11) (.c (.iv 0)))),(Qa 13 (.pick (.t 9) (.c .tt) (.t 12))),(Qa 14 (.mv (.t 13))),(Qg 15 14 false (.fld 1 (.t 1))),(Qg 16 14 false (.load (.t 15))),(Qg 17 14 false (.bin .gtr (.t 16) (.c (.iv 2)))),(Qa 18 (.pick (.t 14) (.c .tt) (.t 17))),(Qa 19 (.mv (.t 18))),(Qg 20 19 false (.fld 2 (.t 1))),(Qg 21 19 false (.load (.t 20))),(Qg 22 19 false (.len (.t 21))),(Qg 23 19 false (.bin .geq (.t 22) (.c (.iv 64)))),(Qa 24 (.pick (.t 19) (.c .tt) (.t 23))),(Qa 25 (.mv (.t 24))),(Qg 26 25 false (.fld 2 (.t 1))),(Qg 27 25 false (.load (.t 26))),(Qg 28 25 false (.mv (.t 4))),(Qg 29 25 false (.call 124 [(.t 27),(.t 28)])),(Qa 30 (.pick (.t 25) (.c .tt) (.t 29)))]) (.ite (.t 30) (.seq (.reg [(Qa 2 (.mv (.c (.iv 130))))]) (.ret)) (.skip))) (.seq (.reg [(Qa 2 (.mv (.c (.iv 0))))]) (.ret)))))
theorem ok103:FnOK Try.prog 103 Try.f103 e103 [.t 2] 1 30:=⟨by kernel_rfl,⟨_,rfl,by kernel_rfl⟩,by kernel_rfl,by kernel_rfl⟩
noncomputable def Z0d:Bool→Option Bool
| x5=>
 some x5
noncomputable def Z1d (x1:Side):Bool→Option Bool
| x4=>
 ifb (!x4) (
 Z0d true) (
 ifb (decide (x1.Epoch<0)) (
 Z0d true) (
 ifb (decide (65535<x1.Epoch)) (
 Z0d true) (
 ifb (decide (x1.State<0)) (
 Z0d true) (
 ifb (decide (3<x1.State)) (
 Z0d true) (
 ifb x1.Dirty (
 Z0d (!x1.Fork)) (
 Z0d false))))))
noncomputable def Z2d (x1:Side) (x2:Diner) (x3:Int):Option Bool:=
 ifb (decide (x3<x1.Peer)) (
 (Z1d x1) (!decide (x1.Peer=x2.ID))) (
 (Z1d x1) false)
theorem Z3d (x1:Side) (x2:Diner) (x3:Int) (r:Bool) (h:Z2d x1 x2 x3=some r):FunT Try.prog 123 [.agg [.iv x1.Peer,.iv x1.Epoch,.iv x1.State,.bv x1.Fork,.bv x1.Dirty,.bv x1.Token,.bv x1.Bottle,.bv x1.Ask],.ptr 1 0,.ptr 0 0] [some ⟨39,[.iv x2.ID,.iv x2.Phase,.sl 8 (List.map Side.row x2.Sides)]⟩,some ⟨3,[.iv x3]⟩] [] (.bv r) [some ⟨39,[.iv x2.ID,.iv x2.Phase,.sl 8 (List.map Side.row x2.Sides)]⟩,some ⟨3,[.iv x1.Peer]⟩] []:=by
 refine Zu5 ok123 rfl rfl rfl (by first | rfl | simp [go_sem]) fun w0 M0=>?_
 rw [Z2d] at h
 dsimp only [lun,List.cons_append,List.nil_append]
 refine Zl2 12 ?_;dsimp only [e123,go_sem];refine ⟨by simp,?_⟩;refine Zl4 (fun (x4:Bool)=>(⟨(.any :: .ptr 1 0 :: .any :: .ptr 2 0 :: .any :: .bv x4::an 44 []),[some ⟨39,[.iv x2.ID,.iv x2.Phase,.sl 8 (List.map Side.row x2.Sides)]⟩,some ⟨3,[.iv x3]⟩,some ⟨49,[.iv x1.Peer,.iv x1.Epoch,.iv x1.State,.bv x1.Fork,.bv x1.Dirty,.bv x1.Token,.bv x1.Bottle,.bv x1.Ask]⟩],[]⟩:St)) (Z1d x1) r ?_ fun J1=>?_
 ·intro x4 h;rw [Z1d] at h;(try dsimp only);refine Zl2 11 ?_;dsimp only [e123,go_sem];refine ⟨by simp,?_⟩;refine Zl4 (fun (x5:Bool)=>(⟨(an 4 (.bv x5::an 45 [])),[some ⟨39,[.iv x2.ID,.iv x2.Phase,.sl 8 (List.map Side.row x2.Sides)]⟩,some ⟨3,[.iv x1.Peer]⟩],[]⟩:St)) Z0d r ?_ fun J2=>?_
  ·intro x5 h;rw [Z0d] at h;(try dsimp only);obtain rfl:=Option.some.inj h;exact T_done ok123 rfl (by simp [go_sem])
  ·refine Zw4 21 h rfl (fun _ h=>?_) fun _ h=>?_
   ·dsimp only [go_sem];refine Zl2 30 ?_;dsimp only [e123,go_sem];refine ⟨by simp,?_⟩;exact Zz4 J2 (s:=true) h
   ·dsimp only [go_sem];refine Zl2 5 ?_;dsimp only [e123,go_sem];refine ⟨by simp,?_⟩;refine Zw4 26 h rfl (fun _ h=>?_) fun _ h=>?_
    ·dsimp only [go_sem];refine Zl2 25 ?_;dsimp only [e123,go_sem];refine ⟨by simp,?_⟩;exact Zz4 J2 (s:=true) h
    ·dsimp only [go_sem];refine Zl2 5 ?_;dsimp only [e123,go_sem];refine ⟨by simp,?_⟩;refine Zw4 31 h rfl (fun _ h=>?_) fun _ h=>?_
     ·dsimp only [go_sem];refine Zl2 20 ?_;dsimp only [e123,go_sem];refine ⟨by simp,?_⟩;exact Zz4 J2 (s:=true) h
     ·dsimp only [go_sem];refine Zl2 5 ?_;dsimp only [e123,go_sem];refine ⟨by simp,?_⟩;refine Zw4 36 h rfl (fun _ h=>?_) fun _ h=>?_
      ·dsimp only [go_sem];refine Zl2 15 ?_;dsimp only [e123,go_sem];refine ⟨by simp,?_⟩;exact Zz4 J2 (s:=true) h
      ·dsimp only [go_sem];refine Zl2 5 ?_;dsimp only [e123,go_sem];refine ⟨by simp,?_⟩;refine Zw4 41 h rfl (fun _ h=>?_) fun _ h=>?_
       ·dsimp only [go_sem];refine Zl2 10 ?_;dsimp only [e123,go_sem];refine ⟨by simp,?_⟩;exact Zz4 J2 (s:=true) h
       ·dsimp only [go_sem];refine Zl2 3 ?_;dsimp only [e123,go_sem];refine ⟨by simp,?_⟩;refine Zw4 44 h rfl (fun _ h=>?_) fun _ h=>?_
        ·dsimp only [go_sem];refine Zl2 7 ?_;dsimp only [e123,go_sem];refine ⟨by simp,?_⟩;exact Zz4 J2 (s:=!x1.Fork) h
        ·dsimp only [go_sem];refine Zl2 7 ?_;dsimp only [e123,go_sem];refine ⟨by simp,?_⟩;exact Zz4 J2 (s:=false) h
 ·refine Zw4 10 h rfl (fun _ h=>?_) fun _ h=>?_
  ·dsimp only [go_sem];refine Zl2 8 ?_;dsimp only [e123,go_sem];refine ⟨by simp,?_⟩;exact Zz4 J1 (s:=!decide (x1.Peer=x2.ID)) h
  ·dsimp only [go_sem];refine Zl2 8 ?_;dsimp only [e123,go_sem];refine ⟨by simp,?_⟩;exact Zz4 J1 (s:=false) h
def Z4d (_F:Nat):Bool→Option Bool
| x5=>
 some x5
theorem Z5d {F:Nat}:∀s,ole (Z4d F s) (Z0d s):=by
 intro x5
 unfold Z4d Z0d
 try dsimp only
 with_reducible repeat' first | exact Zf4 _ | assumption | intro _ | refine Zg4 ?_ ?_ | refine Zh4 ?_ ?_ | refine Zi4 ?_ | refine Zj4 ?_
def Z6d (F:Nat) (x1:Side):Bool→Option Bool
| x4=>
 ifb (!x4) (
 Z4d F true) (
 ifb (decide (x1.Epoch<0)) (
 Z4d F true) (
 ifb (decide (65535<x1.Epoch)) (
 Z4d F true) (
 ifb (decide (x1.State<0)) (
 Z4d F true) (
 ifb (decide (3<x1.State)) (
 Z4d F true) (
 ifb x1.Dirty (
 Z4d F (!x1.Fork)) (
 Z4d F false))))))
theorem Z7d {F:Nat} {x1:Side}:∀s,ole (Z6d F x1 s) (Z1d x1 s):=by
 intro x4
 unfold Z6d Z1d
 try dsimp only
 with_reducible repeat' first | exact Zf4 _ | assumption | intro _ | refine Zg4 ?_ ?_ | refine Zh4 ?_ ?_ | refine Zi4 ?_ | refine Zj4 ?_ | apply Z5d
def Z8d (F:Nat) (x1:Side) (x2:Diner) (x3:Int):Option Bool:=
 ifb (decide (x3<x1.Peer)) (
 (Z6d F x1) (!decide (x1.Peer=x2.ID))) (
 (Z6d F x1) false)
theorem Z9d {F:Nat} {x1:Side} {x2:Diner} {x3:Int}:ole (Z8d F x1 x2 x3) (Z2d x1 x2 x3):=by
 unfold Z8d Z2d
 with_reducible repeat' first | exact Zf4 _ | assumption | intro _ | refine Zg4 ?_ ?_ | refine Zh4 ?_ ?_ | refine Zi4 ?_ | refine Zj4 ?_ | apply Z5d | apply Z7d
noncomputable def Zad:Int→Option (Int×Int)
| x19=>
 some ((-1),x19)
noncomputable def Zbd (x1:(List Side)) (x2:Diner):(Int×Int)→Option ((Int×Int) ⊕ (Int×Int))
| (x8,x9)=>
 ifb (decide (x8<(ln Side.row x1))) (
 (at_ x1 x8).bind fun x10=>
 (Z2d x10 x2 x9).bind fun x11=>
 ifb x11 (
 Option.map Sum.inr (some (x8,x10.Peer))) (
 some (.inl (wr (x8+1),x10.Peer)))) (
 Option.map Sum.inr (Zad x9))
noncomputable def Zcd (x1:(List Side)) (x2:Diner) (x3:Int):Option (Int×Int):=
 loop (Zbd x1 x2) (0,x3)
theorem Zdd (x1:(List Side)) (x2:Diner) (x3:Int) (r:(Int×Int)) (h:Zcd x1 x2 x3=some r):FunT Try.prog 55 [.sl 8 (List.map Side.row x1),.clo 123 [.ptr 1 0,.ptr 0 0]] [some ⟨39,[.iv x2.ID,.iv x2.Phase,.sl 8 (List.map Side.row x2.Sides)]⟩,some ⟨3,[.iv x3]⟩] [] (.iv r.1) [some ⟨39,[.iv x2.ID,.iv x2.Phase,.sl 8 (List.map Side.row x2.Sides)]⟩,some ⟨3,[.iv r.2]⟩] []:=by
 refine Zu5 ok55 rfl rfl rfl (by first | rfl | simp [go_sem]) fun w0 M0=>?_
 rw [Zcd] at h
 dsimp only [lun,List.cons_append,List.nil_append]
 refine Zl2 11 ?_;dsimp only [e55,Zq6,go_sem];refine ⟨by simp,?_⟩;refine Zl4 (fun (x19:Int)=>(⟨(an 19 []),[some ⟨39,[.iv x2.ID,.iv x2.Phase,.sl 8 (List.map Side.row x2.Sides)]⟩,some ⟨3,[.iv x19]⟩],[]⟩:St)) Zad r ?_ fun J1=>?_
 ·intro x19 h;rw [Zad] at h;(try dsimp only);refine Zl2 4 ?_;dsimp only [e55,Zq6,go_sem];refine ⟨by simp,?_⟩;obtain rfl:=Option.some.inj h;exact T_done ok55 rfl (by simp [go_sem])
 ·refine Zl2 1 ?_;dsimp only [e55,Zq6,go_sem];refine ⟨by simp,?_⟩;refine Zm4 h (fun ((x8,x9):(Int×Int))=>(⟨(.sl 8 (List.map Side.row x1) :: .clo 123 [.ptr 1 0,.ptr 0 0]::an 5 (.iv (ln Side.row x1) :: .iv x8::an 10 [])),[some ⟨39,[.iv x2.ID,.iv x2.Phase,.sl 8 (List.map Side.row x2.Sides)]⟩,some ⟨3,[.iv x9]⟩],[]⟩:St)) (by simp [go_sem]) (by rintro ⟨x8,x9⟩;first | rfl | simp [go_sem]) ?_;rintro n1 ⟨x8,x9⟩ y1 h hin1 hout1;rw [Zbd] at h;(try dsimp only);refine Zl2 5 ?_;dsimp only [e55,Zq6,go_sem]
  refine ⟨by simp,?_⟩;refine Zn4 h rfl (fun _ h=>?_) fun _ h=>?_
  ·refine Zl2 13 ?_;dsimp only [e55,Zq6,go_sem];refine ⟨by simp,?_⟩;obtain ⟨x10,ex10,h⟩:=Option.bind_eq_some_iff.1 h;refine Zq4 Side.row ex10 trivial rfl rfl rfl ?_;refine Zl2 1 ?_;dsimp only [e55,Zq6,go_sem];refine ⟨by simp,?_⟩;obtain ⟨x11,ex11,h⟩:=Option.bind_eq_some_iff.1 h;refine Zw5 [true,true] [] trivial rfl (Z3d x10 x2 x9 _ ex11) (by kernel_rfl) (h:=?_);dsimp only [go_sem];refine Zl2 1 ?_;dsimp only [e55,Zq6,go_sem];refine ⟨by simp,?_⟩;refine Zn4 h rfl (fun _ h=>?_) fun _ h=>?_
   ·refine Zl2 5 ?_;dsimp only [e55,Zq6,go_sem];refine ⟨by simp,?_⟩;obtain rfl:=Option.some.inj (Zk4 h hout1);exact T_done ok55 rfl (by simp [go_sem])
   ·refine Zl2 6 ?_;dsimp only [e55,Zq6,go_sem];refine ⟨by simp,?_⟩;exact Zy4 h hin1
  ·refine Zl2 1 ?_;dsimp only [e55,Zq6,go_sem];refine ⟨by simp,?_⟩;exact Zz4 J1 (s:=x9) (Zk4 h hout1)
def Zed (_F:Nat):Int→Option (Int×Int)
| x19=>
 some ((-1),x19)
theorem Zfd {F:Nat}:∀s,ole (Zed F s) (Zad s):=by
 intro x19
 unfold Zed Zad
 try dsimp only
 with_reducible repeat' first | exact Zf4 _ | assumption | intro _ | refine Zg4 ?_ ?_ | refine Zh4 ?_ ?_ | refine Zi4 ?_ | refine Zj4 ?_
def Zgd (F:Nat) (x1:(List Side)) (x2:Diner):(Int×Int)→Option ((Int×Int) ⊕ (Int×Int))
| (x8,x9)=>
 ifb (decide (x8<(ln Side.row x1))) (
 (at_ x1 x8).bind fun x10=>
 (Z8d F x10 x2 x9).bind fun x11=>
 ifb x11 (
 Option.map Sum.inr (some (x8,x10.Peer))) (
 some (.inl (wr (x8+1),x10.Peer)))) (
 Option.map Sum.inr (Zed F x9))
theorem Zhd {F:Nat} {x1:(List Side)} {x2:Diner}:∀s,ole (Zgd F x1 x2 s) (Zbd x1 x2 s):=by
 rintro ⟨x8,x9⟩
 unfold Zgd Zbd
 try dsimp only
 with_reducible repeat' first | exact Zf4 _ | assumption | intro _ | refine Zg4 ?_ ?_ | refine Zh4 ?_ ?_ | refine Zi4 ?_ | refine Zj4 ?_ | apply Zfd | apply Z9d
def Zid (F:Nat) (x1:(List Side)) (x2:Diner) (x3:Int):Option (Int×Int):=
 loopF F (Zgd F x1 x2) (0,x3)
theorem Zjd {F:Nat} {x1:(List Side)} {x2:Diner} {x3:Int}:ole (Zid F x1 x2 x3) (Zcd x1 x2 x3):=by
 unfold Zid Zcd
 with_reducible repeat' first | exact Zf4 _ | assumption | intro _ | refine Zg4 ?_ ?_ | refine Zh4 ?_ ?_ | refine Zi4 ?_ | refine Zj4 ?_ | apply Zfd | apply Z9d | apply Zhd
noncomputable def Zkd (x1:(List Side)) (x2:Diner) (x3:Int):Option (Bool×Int):=
 (Zcd x1 x2 x3).bind fun x4=>
 some (decide (0≤x4.1),x4.2)
theorem Zld (x1:(List Side)) (x2:Diner) (x3:Int) (r:(Bool×Int)) (h:Zkd x1 x2 x3=some r):FunT Try.prog 124 [.sl 8 (List.map Side.row x1),.clo 123 [.ptr 1 0,.ptr 0 0]] [some ⟨39,[.iv x2.ID,.iv x2.Phase,.sl 8 (List.map Side.row x2.Sides)]⟩,some ⟨3,[.iv x3]⟩] [] (.bv r.1) [some ⟨39,[.iv x2.ID,.iv x2.Phase,.sl 8 (List.map Side.row x2.Sides)]⟩,some ⟨3,[.iv r.2]⟩] []:=by
 refine Zu5 ok124 rfl rfl rfl (by first | rfl | simp [go_sem]) fun w0 M0=>?_
 rw [Zkd] at h
 dsimp only [lun,List.cons_append,List.nil_append]
 refine Zl2 8 ?_;dsimp only [e124,go_sem];refine ⟨by simp,?_⟩;obtain ⟨x4,ex4,h⟩:=Option.bind_eq_some_iff.1 h;refine V_callT [true,true] [] trivial (Zdd x1 x2 x3 _ ex4) (h:=?_);dsimp only [go_sem];refine Zl2 3 ?_;dsimp only [e124,go_sem];refine ⟨by simp,?_⟩;obtain rfl:=Option.some.inj h;exact T_done ok124 rfl (by simp [go_sem])
def Zmd (F:Nat) (x1:(List Side)) (x2:Diner) (x3:Int):Option (Bool×Int):=
 (Zid F x1 x2 x3).bind fun x4=>
 some (decide (0≤x4.1),x4.2)
theorem Znd {F:Nat} {x1:(List Side)} {x2:Diner} {x3:Int}:ole (Zmd F x1 x2 x3) (Zkd x1 x2 x3):=by
 unfold Zmd Zkd
 with_reducible repeat' first | exact Zf4 _ | assumption | intro _ | refine Zg4 ?_ ?_ | refine Zh4 ?_ ?_ | refine Zi4 ?_ | refine Zj4 ?_ | apply Zjd
noncomputable def Zod:Bool→Option Int
| x3=>
 ifb x3 (
 some 130) (
 some 0)
noncomputable def Zpd (x1:Diner):Option Int:=
 ifb (decide (x1.ID<0)) (
 Zod true) (
 ifb (decide (x1.Phase<0)) (
 Zod true) (
 ifb (decide (2<x1.Phase)) (
 Zod true) (
 ifb (decide (64≤(ln Side.row x1.Sides))) (
 Zod true) (
 (Zkd x1.Sides x1 ((-1))).bind fun x2=>
 Zod x2.1))))
theorem Zqd (x1:Diner) (r:Int) (h:Zpd x1=some r):Zq2 Try.prog 103 [.agg (Diner.row x1)] (.iv r):=by
 refine Zu2 ok103 rfl rfl fun w0 H0=>?_
 rw [Zpd] at h
 refine Zl2 22 ?_;dsimp only [e103,go_sem];refine ⟨by simp,?_⟩;refine Zl4 (fun (x3:Bool)=>(⟨(an 30 [.bv x3]),[],[]⟩:St)) Zod r ?_ fun J1=>?_
 ·intro x3 h;rw [Zod] at h;(try dsimp only);refine Zn4 h rfl (fun _ h=>?_) fun _ h=>?_
  ·refine Zl2 4 ?_;dsimp only [e103,go_sem];refine ⟨by simp,?_⟩;exact Zx4 (res:=fun (r:Int)=>.iv r) ok103 h
  ·refine Zl2 5 ?_;dsimp only [e103,go_sem];refine ⟨by simp,?_⟩;exact Zx4 (res:=fun (r:Int)=>.iv r) ok103 h
 ·refine Zw4 9 h rfl (fun _ h=>?_) fun _ h=>?_
  ·dsimp only [go_sem];refine Zl2 22 ?_;dsimp only [e103,go_sem];refine ⟨by simp,?_⟩;exact Zz4 J1 (s:=true) h
  ·dsimp only [go_sem];refine Zl2 5 ?_;dsimp only [e103,go_sem];refine ⟨by simp,?_⟩;refine Zw4 14 h rfl (fun _ h=>?_) fun _ h=>?_
   ·dsimp only [go_sem];refine Zl2 17 ?_;dsimp only [e103,go_sem];refine ⟨by simp,?_⟩;exact Zz4 J1 (s:=true) h
   ·dsimp only [go_sem];refine Zl2 5 ?_;dsimp only [e103,go_sem];refine ⟨by simp,?_⟩;refine Zw4 19 h rfl (fun _ h=>?_) fun _ h=>?_
    ·dsimp only [go_sem];refine Zl2 12 ?_;dsimp only [e103,go_sem];refine ⟨by simp,?_⟩;exact Zz4 J1 (s:=true) h
    ·dsimp only [go_sem];refine Zl2 6 ?_;dsimp only [e103,go_sem];refine ⟨by simp,?_⟩;refine Zw4 25 h rfl (fun _ h=>?_) fun _ h=>?_
     ·dsimp only [go_sem];refine Zl2 6 ?_;dsimp only [e103,go_sem];refine ⟨by simp,?_⟩;exact Zz4 J1 (s:=true) h
     ·dsimp only [go_sem];refine Zl2 3 ?_;dsimp only [e103,go_sem];refine ⟨by simp,?_⟩;obtain ⟨x2,ex2,h⟩:=Option.bind_eq_some_iff.1 h;refine V_callT [true,true] [] trivial (Zld x1.Sides x1 ((-1)) _ ex2) (h:=?_);dsimp only [go_sem];refine Zl2 2 ?_;dsimp only [e103,go_sem];refine ⟨by simp,?_⟩;exact Zz4 J1 (s:=x2.1) h
set_option maxRecDepth 100000
set_option maxHeartbeats 4000000
def e121:EC:=.seq (.reg [(Qa 2 (.mv (.c .nl)))]) (.seq (.seq (.reg [(Qa 3 (.mv (.t 0))),(Qa 4 (.isnil false (.t 3)))]) (.ite (.t 4) (.seq (.reg [(Qa 2 (.mv (.c .nl)))]) (.ret)) (.skip))) (.seq (.reg [(Qa 5 (.bsl 49 8 0 [.iv 0,.iv 0,.iv 0,.ff,.ff,.ff,.ff,.ff] [])),(Qa 6 (.mv (.t 0))),(Qa 7 (.app 49 8 32 (.t 5) (.t 6))),(Qa 2 (.mv (.t 7)))]) (.ret)))
theorem ok121:FnOK Try.prog 121 Try.f121 e121 [.t 2] 1 7:=⟨by kernel_rfl,⟨_,rfl,by kernel_rfl⟩,by kernel_rfl,by kernel_rfl⟩
noncomputable def Zrd (x1:(List Side)):Option (List Side):=Za4 32 [] x1
theorem Zsd (x1:(List Side)) (r:(List Side)) (h:Zrd x1=some r):FunO Try.prog 121 [.sl 8 (List.map Side.row x1)] 49 8 (List.map Side.row r):=by
 refine Zc5 ok121 rfl fun w0 H0=>?_
 rw [Zrd] at h
 refine Zl2 100 ?_
 dsimp only [e121,go_sem]
 refine ⟨by simp,?_⟩
 refine V_isnil trivial rfl (fun hn=>?_) ?_
 ·refine Zl2 100 ?_
  dsimp only [go_sem]
  refine ⟨by simp,?_⟩
  refine V_own 2 49 8 rfl rfl ?_
  dsimp only [go_sem]
  have hn:x1=[]:=by simpa using hn
  subst hn
  exact Zj5 Side.row (e:=[]) ok121 (by simpa [Za4] using h) rfl rfl
 ·refine Zl2 100 ?_
  dsimp only [go_sem]
  refine ⟨by simp,?_⟩
  refine Zt4 Side.row h trivial rfl rfl rfl ?_
  refine Zl2 100 ?_
  dsimp only [go_sem]
  refine ⟨by simp,?_⟩
  exact Zj5 Side.row ok121 (rfl:some r=some r) rfl rfl
theorem k_slices_Clone_Side (x1:(List Side)) (r:(List Side)) (h:Zrd x1=some r):Zq2 Try.prog 121 [.sl 8 (List.map Side.row x1)] (.sl 8 (List.map Side.row r)):=(Zsd x1 r h).sealed
def Ztd (_F:Nat) (x1:(List Side)):Option (List Side):=Za4 32 [] x1
theorem le_slices_Clone_Side {F:Nat} {x1:(List Side)}:ole (Ztd F x1) (Zrd x1):=Zf4 _
set_option maxRecDepth 100000
set_option maxHeartbeats 4000000
def e107:EC:=.seq (.reg [(Qa 3 (.box 39 3 (.t 0))),(Qa 6 (.alloc 39 [.iv 0,.iv 0,.nl])),(Qa 7 (.mv (.c (.iv 0))))]) (.seq (.reg [(Qa 9 (.loadA 3 (.t 3))),(Qa 10 (.call 103 [(.t 9)])),(Qa 8 (.mv (.t 10)))]) (.seq (.seq (.reg [(Qa 11 (.mv (.t 8))),(Qa 12 (.bin .eql (.t 11) (.c (.iv 0)))),(Qa 13 (.mv (.t 12))),(Qg 14 13 true (.fld 1 (.t 3))),(Qg 15 13 true (.load (.t 14))),(Qg 16 13 true (.mv (.t 1))),(Qg 17 13 true (.bin .neq (.t 15) (.t 16))),(Qa 18 (.pick (.t 13) (.t 17) (.c .ff)))]) (.ite (.t 18) (.reg [(Qa 8 (.mv (.c (.iv 134))))]) (.skip))) (.seq (.seq (.reg [(Qa 19 (.mv (.t 8))),(Qa 20 (.bin .neq (.t 19) (.c (.iv 0))))]) (.ite (.t 20) (.seq (.reg [(Qa 21 (.build [.iv 0,.iv 0,.nl] [])),(Qa 22 (.mv (.t 8))),(Qb (.store 3 (.t 6) (.t 21))),(Qa 7 (.mv (.t 22)))]) (.ret)) (.skip))) (.seq (.drw [(Qa 23 (.fld 0 (.t 3))),(Qa 24 (.load (.t 23))),(Qa 25 (.mv (.t 2))),(Qa 26 (.fld 2 (.t 3))),(Qa 27 (.load (.t 26))),(Qa 28 (.call 121 [(.t 27)])),(Qa 29 (.build [.iv 0,.iv 0,.nl] [(0,1,(.t 24)),(1,1,(.t 25)),(2,1,(.t 28))])),(Qb (.store 3 (.t 6) (.t 29))),(Qa 7 (.mv (.c (.iv 0))))] [[],[0],[],[],[3],[4],[1,2,5],[6,5,0,1,2,3,4,5,6],[7,0,1,2,3,4,5,6,7]] [[1],[0,6],[6],[4],[3,5],[4,6],[1,2,5,7],[6],[]]) (.ret)))))
theorem ok107:FnOK Try.prog 107 Try.f107 e107 [.c 6 (some 3),.t 7] 3 27:=⟨by kernel_rfl,⟨_,rfl,by kernel_rfl⟩,by kernel_rfl,by kernel_rfl⟩
noncomputable def Zud (x1:Diner) (x3:Int):Int→Option (Diner×Int)
| x6=>
 ifb (!decide (x6=0)) (
 some ((Diner.mk 0 0 (([]:(List Side)))),x6)) (
 (Zrd x1.Sides).bind fun x7=>
 some ((Diner.mk x1.ID x3 x7),0))
noncomputable def Zvd (x1:Diner) (x3:Int) (x4:Int):Bool→Option (Diner×Int)
| x5=>
 ifb x5 (
 (Zud x1 x3) 134) (
 (Zud x1 x3) x4)
noncomputable def Zwd (x1:Diner) (x2:Int) (x3:Int):Option (Diner×Int):=
 (Zpd x1).bind fun x4=>
 ifb (decide (x4=0)) (
 (Zvd x1 x3 x4) (!decide (x1.Phase=x2))) (
 (Zvd x1 x3 x4) false)
theorem Zxd (x1:Diner) (x2:Int) (x3:Int) (r:(Diner×Int)) (h:Zwd x1 x2 x3=some r):Zq2 Try.prog 107 [.agg (Diner.row x1),.iv x2,.iv x3] (.tup [.agg (Diner.row r.1),.iv r.2]):=by
 refine Zu2 ok107 rfl rfl fun w0 H0=>?_
 rw [Zwd] at h
 refine Zl2 9 ?_;dsimp only [e107,go_sem];refine ⟨by simp,?_⟩;obtain ⟨x4,ex4,h⟩:=Option.bind_eq_some_iff.1 h;refine Zz2 trivial (Zqd x1 _ ex4) (h:=?_);refine Zl2 8 ?_;dsimp only [e107,go_sem];refine ⟨by simp,?_⟩;refine Zl4 (fun (x5:Bool)=>(⟨(.any :: .any :: .iv x3 :: .ptr 0 0 :: .any :: .any :: .ptr 1 0 :: .any :: .iv x4::an 9 (.bv x5::an 11 [])),[some ⟨39,[.iv x1.ID,.iv x1.Phase,.sl 8 (List.map Side.row x1.Sides)]⟩,some ⟨39,[.iv 0,.iv 0,.nl]⟩],[]⟩:St)) (Zvd x1 x3 x4) r ?_ fun J1=>?_
 ·intro x5 h;rw [Zvd] at h;(try dsimp only);refine Zl4 (fun (x6:Int)=>(⟨(.any :: .any :: .iv x3 :: .ptr 0 0 :: .any :: .any :: .ptr 1 0 :: .any :: .iv x6::an 21 []),[some ⟨39,[.iv x1.ID,.iv x1.Phase,.sl 8 (List.map Side.row x1.Sides)]⟩,some ⟨39,[.iv 0,.iv 0,.nl]⟩],[]⟩:St)) (Zud x1 x3) r ?_ fun J2=>?_
  ·intro x6 h;rw [Zud] at h;(try dsimp only);refine Zl2 6 ?_;dsimp only [e107,go_sem];refine ⟨by simp,?_⟩;refine Zn4 h rfl (fun _ h=>?_) fun _ h=>?_
   ·refine Zl2 7 ?_;dsimp only [e107,go_sem];refine ⟨by simp,?_⟩;exact Zx4 (res:=fun (r:(Diner×Int))=>.tup [.agg (Diner.row r.1),.iv r.2]) ok107 h
   ·refine Zl2 2 ?_;dsimp only [e107,go_sem];refine ⟨by simp,?_⟩;refine Zh3 (by kernel_rfl) fun all hall hs hnap haf=>?_;dsimp only [go_sem];refine Zh5 hall hs haf hnap 5 4 ?_;dsimp only [go_sem];refine ⟨by simp,?_⟩;refine Zt3 5 rfl ?_;obtain ⟨x7,ex7,h⟩:=Option.bind_eq_some_iff.1 h;refine GO_callO hall rfl trivial (Zsd x1.Sides _ ex7) (h:=?_);dsimp only [go_sem];refine Zh5 hall hs haf hnap 1 2 ?_;dsimp only [go_sem];refine ⟨by simp,?_⟩;refine Zt3 7 rfl ?_;refine Zy3 hall rfl trivial ?_;dsimp only [go_sem]
    refine Zh5 hall hs haf hnap 1 0 ?_;dsimp only [go_sem];refine ⟨by simp,?_⟩;refine Zs3 rfl ?_ _;refine Z83 0 rfl ?_;dsimp only [go_sem];exact Zx4 (res:=fun (r:(Diner×Int))=>.tup [.agg (Diner.row r.1),.iv r.2]) ok107 h
  ·refine Zn4 h rfl (fun _ h=>?_) fun _ h=>?_
   ·refine Zl2 3 ?_;dsimp only [e107,go_sem];refine ⟨by simp,?_⟩;exact Zz4 J2 (s:=134) h
   ·refine Zl2 1 ?_;dsimp only [e107,go_sem];refine ⟨by simp,?_⟩;exact Zz4 J2 (s:=x4) h
 ·refine Zw4 13 h rfl (fun _ h=>?_) fun _ h=>?_
  ·dsimp only [go_sem];refine Zl2 6 ?_;dsimp only [e107,go_sem];refine ⟨by simp,?_⟩;exact Zz4 J1 (s:=!decide (x1.Phase=x2)) h
  ·dsimp only [go_sem];refine Zl2 6 ?_;dsimp only [e107,go_sem];refine ⟨by simp,?_⟩;exact Zz4 J1 (s:=false) h
set_option maxRecDepth 100000
set_option maxHeartbeats 4000000
def e77:EC:=.seq (.reg [(Qa 1 (.box 39 3 (.t 0))),(Qa 2 (.alloc 39 [.iv 0,.iv 0,.nl])),(Qa 3 (.mv (.c (.iv 0))))]) (.seq (.reg [(Qa 4 (.loadA 3 (.t 1))),(Qa 5 (.call 107 [(.t 4),(.c (.iv 2)),(.c (.iv 0))])),(Qa 6 (.ext (.t 5) 0)),(Qa 7 (.ext (.t 5) 1)),(Qb (.store 3 (.t 2) (.t 6))),(Qa 3 (.mv (.t 7)))]) (.ret))
theorem ok77:FnOK Try.prog 77 Try.f77 e77 [.c 2 (some 3),.t 3] 1 7:=⟨by kernel_rfl,⟨_,rfl,by kernel_rfl⟩,by kernel_rfl,by kernel_rfl⟩
noncomputable def Zyd (x1:Diner):Option (Diner×Int):=
 (Zwd x1 2 0).bind fun x2=>
 some (x2.1,x2.2)
theorem k_dine_Stop (x1:Diner) (r:(Diner×Int)) (h:Zyd x1=some r):Zq2 Try.prog 77 [.agg (Diner.row x1)] (.tup [.agg (Diner.row r.1),.iv r.2]):=by
 refine Zu2 ok77 rfl rfl fun w0 H0=>?_
 rw [Zyd] at h
 refine Zl2 9 ?_;dsimp only [e77,go_sem];refine ⟨by simp,?_⟩;obtain ⟨x2,ex2,h⟩:=Option.bind_eq_some_iff.1 h;refine Zz2 trivial (Zxd x1 2 0 _ ex2) (h:=?_);refine Zl2 5 ?_;dsimp only [e77,go_sem];refine ⟨by simp,?_⟩;exact Zx4 (res:=fun (r:(Diner×Int))=>.tup [.agg (Diner.row r.1),.iv r.2]) ok77 h
set_option maxRecDepth 100000
set_option maxHeartbeats 4000000
def e94:EC:=.seq (.reg [(Qa 1 (.box 39 3 (.t 0))),(Qa 2 (.alloc 39 [.iv 0,.iv 0,.nl])),(Qa 3 (.mv (.c (.iv 0))))]) (.seq (.reg [(Qa 4 (.loadA 3 (.t 1))),(Qa 5 (.call 107 [(.t 4),(.c (.iv 0)),(.c (.iv 1))])),(Qa 6 (.ext (.t 5) 0)),(Qa 7 (.ext (.t 5) 1)),(Qb (.store 3 (.t 2) (.t 6))),(Qa 3 (.mv (.t 7)))]) (.ret))
theorem ok94:FnOK Try.prog 94 Try.f94 e94 [.c 2 (some 3),.t 3] 1 7:=⟨by kernel_rfl,⟨_,rfl,by kernel_rfl⟩,by kernel_rfl,by kernel_rfl⟩
noncomputable def Zzd (x1:Diner):Option (Diner×Int):=
 (Zwd x1 0 1).bind fun x2=>
 some (x2.1,x2.2)
theorem k_dine_Start (x1:Diner) (r:(Diner×Int)) (h:Zzd x1=some r):Zq2 Try.prog 94 [.agg (Diner.row x1)] (.tup [.agg (Diner.row r.1),.iv r.2]):=by
 refine Zu2 ok94 rfl rfl fun w0 H0=>?_
 rw [Zzd] at h
 refine Zl2 9 ?_;dsimp only [e94,go_sem];refine ⟨by simp,?_⟩;obtain ⟨x2,ex2,h⟩:=Option.bind_eq_some_iff.1 h;refine Zz2 trivial (Zxd x1 0 1 _ ex2) (h:=?_);refine Zl2 5 ?_;dsimp only [e94,go_sem];refine ⟨by simp,?_⟩;exact Zx4 (res:=fun (r:(Diner×Int))=>.tup [.agg (Diner.row r.1),.iv r.2]) ok94 h
set_option maxRecDepth 100000
set_option maxHeartbeats 4000000
def e122:EC:=.seq (.reg [(Qa 3 (.box 49 8 (.t 0))),(Qa 4 (.mv (.c .ff)))]) (.seq (.reg [(Qa 5 (.fld 0 (.t 3))),(Qa 6 (.load (.t 5))),(Qa 7 (.load (.t 1))),(Qa 8 (.bin .eql (.t 6) (.t 7))),(Qa 9 (.mv (.t 8))),(Qg 10 9 true (.fld 1 (.t 3))),(Qg 11 9 true (.load (.t 10))),(Qg 12 9 true (.fld 1 (.t 2))),(Qg 13 9 true (.load (.t 12))),(Qg 14 9 true (.bin .eql (.t 11) (.t 13))),(Qa 15 (.pick (.t 9) (.t 14) (.c .ff))),(Qa 4 (.mv (.t 15)))]) (.ret))
theorem ok122:FnOK Try.prog 122 Try.f122 e122 [.t 4] 3 13:=⟨by kernel_rfl,⟨_,rfl,by kernel_rfl⟩,by kernel_rfl,by kernel_rfl⟩
noncomputable def Z0e:Bool→Option Bool
| x4=>
 some x4
noncomputable def Z1e (x1:Side) (x2:Int) (x3:Msg):Option Bool:=
 ifb (decide (x1.Peer=x2)) (
 Z0e (decide (x1.Epoch=x3.Epoch))) (
 Z0e false)
theorem k_dine_Get_1 (x1:Side) (x2:Int) (x3:Msg) (r:Bool) (h:Z1e x1 x2 x3=some r):Zq2 Try.prog 122 [.agg (Side.row x1),.elt (Z45 x2) 0,.elt (Msg.row x3) 0] (.bv r):=by
 refine Zu2 ok122 rfl rfl fun w0 H0=>?_
 rw [Z1e] at h
 refine Zl2 12 ?_;dsimp only [e122,go_sem];refine ⟨by simp,?_⟩;refine Zl4 (fun (x4:Bool)=>(⟨(an 4 (.bv x4::an 11 [])),[],[]⟩:St)) Z0e r ?_ fun J1=>?_
 ·intro x4 h;rw [Z0e] at h;(try dsimp only);exact Zx4 (res:=fun (r:Bool)=>.bv r) ok122 h
 ·refine Zw4 9 h rfl (fun _ h=>?_) fun _ h=>?_
  ·dsimp only [go_sem];refine Zl2 8 ?_;dsimp only [e122,go_sem];refine ⟨by simp,?_⟩;exact Zz4 J1 (s:=decide (x1.Epoch=x3.Epoch)) h
  ·dsimp only [go_sem];refine Zl2 8 ?_;dsimp only [e122,go_sem];refine ⟨by simp,?_⟩;exact Zz4 J1 (s:=false) h
set_option maxRecDepth 100000
set_option maxHeartbeats 4000000
def Z2e:EC:=.seq (.reg [(Qa 3 (.box 39 3 (.t 0))),(Qa 4 (.box 3 1 (.t 1))),(Qa 5 (.box 93 3 (.t 2))),(Qa 6 (.alloc 39 [.iv 0,.iv 0,.nl])),(Qa 7 (.mv (.c (.iv 0))))]) (.seq (.seq (.reg [(Qa 12 (.loadA 3 (.t 3))),(Qa 13 (.call 103 [(.t 12)])),(Qa 8 (.mv (.t 13)))]) (.seq (.reg [(Qa 14 (.mv (.t 8))),(Qa 15 (.bin .neq (.t 14) (.c (.iv 0))))]) (.ite (.t 15) (.seq (.reg [(Qa 16 (.build [.iv 0,.iv 0,.nl] [])),(Qa 17 (.mv (.t 8))),(Qb (.store 3 (.t 6) (.t 16))),(Qa 7 (.mv (.t 17)))]) (.ret)) (.skip)))) (.seq (.reg [(Qa 18 (.fld 2 (.t 3))),(Qa 19 (.load (.t 18))),(Qa 20 (.mkf 122 [(.t 4),(.t 5)])),(Qa 21 (.call 55 [(.t 19),(.t 20)])),(Qa 9 (.mv (.t 21)))]) (.seq (.seq (.reg [(Qa 22 (.mv (.t 9))),(Qa 23 (.bin .lss (.t 22) (.c (.iv 0))))]) (.ite (.t 23) (.seq (.reg [(Qa 24 (.build [.iv 0,.iv 0,.nl] [])),(Qb (.store 3 (.t 6) (.t 24))),(Qa 7 (.mv (.c (.iv 131))))]) (.ret)) (.skip))) (.seq (.reg [(Qa 25 (.fld 2 (.t 3))),(Qa 26 (.load (.t 25))),(Qa 27 (.call 121 [(.t 26)])),(Qa 28 (.fld 2 (.t 3))),(Qb (.store 1 (.t 28) (.t 27)))]) (.seq (.reg [(Qa 29 (.fld 2 (.t 3))),(Qa 30 (.load (.t 29))),(Qa 31 (.mv (.t 9))),(Qa 32 (.idx 8 (.t 30) (.t 31))),(Qa 10 (.mv (.t 32)))]) (.seq (.reg [(Qa 11 (.mv (.c .ff)))]) (.seq (.blk 0 (.seq (.reg [(Qa 35 (.fld 0 (.t 5))),(Qa 36 (.load (.t 35))),(Qa 37 (.bin .eql (.t 36) (.c (.iv 1)))),(Qa 38 (.mv (.t 37))),(Qg 39 38 true (.fld 2 (.t 5))),(Qg 40 38 true (.load (.t 39))),(Qg 41 38 true (.bin .eql (.t 40) (.c (.iv 0)))),(Qa 42 (.pick (.t 38) (.t 41) (.c .ff))),(Qa 34 (.mv (.t 42)))]) (.ite (.t 34) (.reg [(Qa 43 (.mv (.t 10))),(Qa 44 (.mv (.t 10))),(Qa 45 (.nilchk (.t 44))),(Qa 46 (.fld 3 (.t 45))),(Qa 47 (.load (.t 46))),(Qa 11 (.mv (.t 47))),(Qa 48 (.nilchk (.t 43))),(Qa 49 (.fld 3 (.t 48))),(Qb (.store 1 (.t 49) (.c .tt)))]) (.seq (.reg [(Qa 51 (.fld 0 (.t 5))),(Qa 52 (.load (.t 51))),(Qa 53 (.bin .eql (.t 52) (.c (.iv 2)))),(Qa 54 (.mv (.t 53))),(Qg 55 54 true (.fld 2 (.t 5))),(Qg 56 54 true (.load (.t 55))),(Qg 57 54 true (.bin .eql (.t 56) (.c (.iv 0)))),(Qa 58 (.pick (.t 54) (.t 57) (.c .ff))),(Qa 50 (.mv (.t 58)))]) (.ite (.t 50) (.reg [(Qa 59 (.mv (.t 10))),(Qa 60 (.mv (.t 10))),(Qa 61 (.nilchk (.t 60))),(Qa 62 (.fld 5 (.t 61))),(Qa 63 (.load (.t 62))),(Qa 11 (.mv (.t 63))),(Qa 64 (.nilchk (.t 59))),(Qa 65 (.fld 5 (.t 64))),(Qb (.store 1 (.t 65) (.c .tt)))]) (.seq (.reg [(Qa 33 (.build [.iv 0,.iv 0,.nl] [])),(Qb (.store 3 (.t 6) (.t 33))),(Qa 7 (.mv (.c (.iv 133))))]) (.ret))))))) (.seq (.seq (.reg [(Qa 66 (.mv (.t 11)))]) (.ite (.t 66) (.seq (.reg [(Qa 67 (.build [.iv 0,.iv 0,.nl] [])),(Qb (.store 3 (.t 6) (.t 67))),(Qa 7 (.mv (.c (.iv 132))))]) (.ret)) (.skip))) (.seq (.reg [(Qa 68 (.loadA 3 (.t 3))),(Qb (.store 3 (.t 6) (.t 68))),(Qa 7 (.mv (.c (.iv 0))))]) (.ret))))))))))
theorem ok100:FnOK Try.prog 100 Try.f100 Z2e [.c 6 (some 3),.t 7] 3 66:=⟨by kernel_rfl,⟨_,rfl,by kernel_rfl⟩,by kernel_rfl,by kernel_rfl⟩
noncomputable def Z3e (x1:Diner):(Bool×(List Side))→Option (Diner×Int)
| (x10,x11)=>
 ifb x10 (
 some ((Diner.mk 0 0 (([]:(List Side)))),132)) (
 some ((Diner.mk x1.ID x1.Phase x11),0))
noncomputable def Z4e (x1:Diner) (x5:Int) (x6:(List Side)) (x7:Side):Bool→Option (Diner×Int)
| x9=>
 ifb x9 (
 (Z3e x1) (x7.Token,x6.set (x5).toNat ((Side.mk x7.Peer x7.Epoch x7.State x7.Fork x7.Dirty true x7.Bottle x7.Ask)))) (
 some ((Diner.mk 0 0 (([]:(List Side)))),133))
noncomputable def Z5e (x1:Diner) (x3:Msg) (x5:Int) (x6:(List Side)) (x7:Side):Bool→Option (Diner×Int)
| x8=>
 ifb x8 (
 (Z3e x1) (x7.Fork,x6.set (x5).toNat ((Side.mk x7.Peer x7.Epoch x7.State true x7.Dirty x7.Token x7.Bottle x7.Ask)))) (
 ifb (decide (x3.Kind=2)) (
 (Z4e x1 x5 x6 x7) (decide (x3.Num=0))) (
 (Z4e x1 x5 x6 x7) false))
noncomputable def Z6e (x1:Diner) (x2:Int) (x3:Msg):Option (Diner×Int):=
 (Zpd x1).bind fun x4=>
 ifb (!decide (x4=0)) (
 some ((Diner.mk 0 0 (([]:(List Side)))),x4)) (
 (Zt6 x1.Sides ((fun z=>Z1e z x2 x3))).bind fun x5=>
 ifb (decide (x5<0)) (
 some ((Diner.mk 0 0 (([]:(List Side)))),131)) (
 (Zrd x1.Sides).bind fun x6=>
 (at_ x6 x5).bind fun x7=>
 ifb (decide (x3.Kind=1)) (
 (Z5e x1 x3 x5 x6 x7) (decide (x3.Num=0))) (
 (Z5e x1 x3 x5 x6 x7) false)))
theorem k_dine_Get (x1:Diner) (x2:Int) (x3:Msg) (r:(Diner×Int)) (h:Z6e x1 x2 x3=some r):Zq2 Try.prog 100 [.agg (Diner.row x1),.iv x2,.agg (Msg.row x3)] (.tup [.agg (Diner.row r.1),.iv r.2]):=by
 refine Zu2 ok100 rfl rfl fun w0 H0=>?_
 rw [Z6e] at h
 refine Zl2 12 ?_;dsimp only [Z2e,go_sem];refine ⟨by simp,?_⟩;obtain ⟨x4,ex4,h⟩:=Option.bind_eq_some_iff.1 h;refine Zz2 trivial (Zqd x1 _ ex4) (h:=?_);refine Zl2 7 ?_;dsimp only [Z2e,go_sem];refine ⟨by simp,?_⟩;refine Zn4 h rfl (fun _ h=>?_) fun _ h=>?_
 ·refine Zl2 7 ?_;dsimp only [Z2e,go_sem];refine ⟨by simp,?_⟩;exact Zx4 (res:=fun (r:(Diner×Int))=>.tup [.agg (Diner.row r.1),.iv r.2]) ok100 h
 ·refine Zl2 6 ?_;dsimp only [Z2e,go_sem];refine ⟨by simp,?_⟩;obtain ⟨x5,ex5,h⟩:=Option.bind_eq_some_iff.1 h;refine Z25 trivial (((Z05.refl _).block 1 rfl rfl).block 2 rfl rfl) (Zu6 x1.Sides _ _ ((fun z=>Z1e z x2 x3)) ⟨by kernel_rfl,rfl,fun z r hz=>k_dine_Get_1 z x2 x3 r hz⟩ _ ex5) (h:=?_);refine Zl2 8 ?_;dsimp only [Z2e,go_sem];refine ⟨by simp,?_⟩;refine Zn4 h rfl (fun _ h=>?_) fun _ h=>?_
  ·refine Zl2 6 ?_;dsimp only [Z2e,go_sem];refine ⟨by simp,?_⟩;exact Zx4 (res:=fun (r:(Diner×Int))=>.tup [.agg (Diner.row r.1),.iv r.2]) ok100 h
  ·refine Zl2 5 ?_;dsimp only [Z2e,go_sem];refine ⟨by simp,?_⟩;obtain ⟨x6,ex6,h⟩:=Option.bind_eq_some_iff.1 h;refine Zd5 trivial (Zsd x1.Sides _ ex6) (h:=?_);refine Zl2 8 ?_;dsimp only [Z2e,go_sem];refine ⟨by simp,?_⟩;obtain ⟨x7,ex7,h⟩:=Option.bind_eq_some_iff.1 h;refine Zk5 Side.row ex7 trivial rfl rfl rfl ?_;refine Zl2 14 ?_;dsimp only [Z2e,go_sem];refine ⟨by simp,?_⟩
   refine Zl4 (fun (x8:Bool)=>(⟨(an 3 (.ptr 0 0 :: .any :: .ptr 2 0 :: .ptr 3 0::an 3 (.oel 0 ((x5).toNat*8) 0::an 23 (.bv x8::an 34 [])))),[some ⟨39,[.iv x1.ID,.iv x1.Phase,.osl 0]⟩,none,some ⟨93,[.iv x3.Kind,.iv x3.Epoch,.iv x3.Num]⟩,some ⟨39,[.iv 0,.iv 0,.nl]⟩],[some ⟨49,8,List.map Side.row x6⟩]⟩:St)) (Z5e x1 x3 x5 x6 x7) r ?_ fun J1=>?_
   ·intro x8 h;rw [Z5e] at h;(try dsimp only);refine Zl4 (fun ((x10,x11):(Bool×(List Side)))=>(⟨(an 3 (.ptr 0 0 :: .any :: .any :: .ptr 3 0::an 4 (.bv x10::an 57 []))),[some ⟨39,[.iv x1.ID,.iv x1.Phase,.osl 0]⟩,none,none,some ⟨39,[.iv 0,.iv 0,.nl]⟩],[some ⟨49,8,List.map Side.row x11⟩]⟩:St)) (Z3e x1) r ?_ fun J2=>?_
    ·rintro ⟨x10,x11⟩ h;rw [Z3e] at h;(try dsimp only);refine Zl2 6 ?_;dsimp only [Z2e,go_sem];refine ⟨by simp,?_⟩;refine Zn4 h rfl (fun _ h=>?_) fun _ h=>?_
     ·refine Zl2 6 ?_;dsimp only [Z2e,go_sem];refine ⟨by simp,?_⟩;exact Zx4 (res:=fun (r:(Diner×Int))=>.tup [.agg (Diner.row r.1),.iv r.2]) ok100 h
     ·refine Zl2 7 ?_;dsimp only [Z2e,go_sem];refine ⟨by simp,?_⟩;refine Z83 0 rfl ?_;dsimp only [go_sem];exact Zx4 (res:=fun (r:(Diner×Int))=>.tup [.agg (Diner.row r.1),.iv r.2]) ok100 h
    ·refine Zn4 h rfl (fun _ h=>?_) fun _ h=>?_
     ·refine Zl2 5 ?_;dsimp only [Z2e,go_sem];refine ⟨by simp,?_⟩;refine Zl5 Side.row ex7 trivial rfl rfl rfl ?_;refine Zl2 3 ?_;dsimp only [Z2e,go_sem];refine ⟨by simp,?_⟩;refine Zp5 [.bv true] Side.row (y':=(Side.mk x7.Peer x7.Epoch x7.State true x7.Dirty x7.Token x7.Bottle x7.Ask)) ex7 trivial rfl rfl rfl (by first | exact Z94 _ | simp [go_sem]) rfl rfl rfl rfl ?_;refine Zl2 1 ?_;dsimp only [Z2e,go_sem];refine ⟨by simp,?_⟩
      exact Zz4 J2 (s:=(x7.Fork,x6.set (x5).toNat ((Side.mk x7.Peer x7.Epoch x7.State true x7.Dirty x7.Token x7.Bottle x7.Ask)))) h
     ·refine Zl2 6 ?_;dsimp only [Z2e,go_sem];refine ⟨by simp,?_⟩;refine Zl4 (fun (x9:Bool)=>(⟨(an 3 (.ptr 0 0 :: .any :: .any :: .ptr 3 0::an 3 (.oel 0 ((x5).toNat*8) 0::an 39 (.bv x9::an 18 [])))),[some ⟨39,[.iv x1.ID,.iv x1.Phase,.osl 0]⟩,none,none,some ⟨39,[.iv 0,.iv 0,.nl]⟩],[some ⟨49,8,List.map Side.row x6⟩]⟩:St)) (Z4e x1 x5 x6 x7) r ?_ fun J3=>?_
      ·intro x9 h;rw [Z4e] at h;(try dsimp only);refine Zn4 h rfl (fun _ h=>?_) fun _ h=>?_
       ·refine Zl2 5 ?_;dsimp only [Z2e,go_sem];refine ⟨by simp,?_⟩;refine Zl5 Side.row ex7 trivial rfl rfl rfl ?_;refine Zl2 3 ?_;dsimp only [Z2e,go_sem];refine ⟨by simp,?_⟩;refine Zp5 [.bv true] Side.row (y':=(Side.mk x7.Peer x7.Epoch x7.State x7.Fork x7.Dirty true x7.Bottle x7.Ask)) ex7 trivial rfl rfl rfl (by first | exact Z94 _ | simp [go_sem]) rfl rfl rfl rfl ?_;refine Zl2 1 ?_;dsimp only [Z2e,go_sem];refine ⟨by simp,?_⟩
        exact Zz4 J2 (s:=(x7.Token,x6.set (x5).toNat ((Side.mk x7.Peer x7.Epoch x7.State x7.Fork x7.Dirty true x7.Bottle x7.Ask)))) h
       ·refine Zl2 6 ?_;dsimp only [Z2e,go_sem];refine ⟨by simp,?_⟩;exact Zx4 (res:=fun (r:(Diner×Int))=>.tup [.agg (Diner.row r.1),.iv r.2]) ok100 h
      ·refine Zw4 54 h rfl (fun _ h=>?_) fun _ h=>?_
       ·dsimp only [go_sem];refine Zl2 6 ?_;dsimp only [Z2e,go_sem];refine ⟨by simp,?_⟩;exact Zz4 J3 (s:=decide (x3.Num=0)) h
       ·dsimp only [go_sem];refine Zl2 6 ?_;dsimp only [Z2e,go_sem];refine ⟨by simp,?_⟩;exact Zz4 J3 (s:=false) h
   ·refine Zw4 38 h rfl (fun _ h=>?_) fun _ h=>?_
    ·dsimp only [go_sem];refine Zl2 6 ?_;dsimp only [Z2e,go_sem];refine ⟨by simp,?_⟩;exact Zz4 J1 (s:=decide (x3.Num=0)) h
    ·dsimp only [go_sem];refine Zl2 6 ?_;dsimp only [Z2e,go_sem];refine ⟨by simp,?_⟩;exact Zz4 J1 (s:=false) h
set_option maxRecDepth 100000
set_option maxHeartbeats 4000000
def e132:EC:=.drw [(Qa 5 (.load (.t 1))),(Qa 6 (.fld 0 (.t 2))),(Qa 7 (.load (.t 6))),(Qa 8 (.load (.t 3))),(Qa 9 (.nilchk (.t 8))),(Qa 10 (.fld 0 (.t 9))),(Qa 11 (.load (.t 10))),(Qa 12 (.mv (.t 0))),(Qa 13 (.load (.t 3))),(Qa 14 (.nilchk (.t 13))),(Qa 15 (.fld 1 (.t 14))),(Qa 16 (.load (.t 15))),(Qa 17 (.build [.iv 0,.iv 0,.iv 0] [(0,1,(.t 12)),(1,1,(.t 16))])),(Qa 18 (.build [.iv 0,.iv 0,.iv 0,.iv 0,.iv 0] [(0,1,(.t 7)),(1,1,(.t 11)),(2,3,(.t 17))])),(Qa 19 (.bsl 97 5 1 [.iv 0,.iv 0,.iv 0,.iv 0,.iv 0] [(0,(.t 18))])),(Qa 20 (.app 97 5 40 (.t 5) (.t 19))),(Qb (.store 1 (.t 1) (.t 20)))] [[],[],[1],[],[3],[4],[5],[],[],[8],[9],[10],[7,11],[2,6,12],[13],[0,14],[15,15,0,1,2,3,4,5,6,7,8,9,10,11,12,13,14,15]] [[15],[2],[1,13],[4],[3,5],[4,6],[5,13],[12],[9],[8,10],[9,11],[10,12],[7,11,13],[2,6,12,14],[13,15],[0,14,16],[15]]
theorem Z7e:FnOK Try.prog 132 Try.f132 e132 [] 4 17:=⟨by kernel_rfl,⟨_,rfl,by kernel_rfl⟩,by kernel_rfl,by kernel_rfl⟩
set_option maxRecDepth 100000
set_option maxHeartbeats 4000000
def Z8e:EC:=.seq (.reg [(Qa 102 (.bin .lss (.t 101) (.t 100)))]) (.seq (.ite (.t 102) (.skip) (.exit 2)) (.seq (.blk 3 (.seq (.reg [(Qa 103 (.mv (.t 101))),(Qa 11 (.mv (.t 103)))]) (.reg [(Qa 104 (.fld 2 (.t 1))),(Qa 105 (.load (.t 104))),(Qa 106 (.mv (.t 11))),(Qa 107 (.idx 8 (.t 105) (.t 106))),(Qa 108 (.fld 4 (.t 107))),(Qb (.store 1 (.t 108) (.c .tt)))]))) (.reg [(Qa 109 (.bin .add (.t 101) (.c (.iv 1)))),(Qa 101 (.mv (.t 109)))])))
def Z9e:EC:=.seq (.reg [(Qa 26 (.bin .lss (.t 25) (.t 24)))]) (.seq (.ite (.t 26) (.skip) (.exit 0)) (.seq (.blk 1 (.seq (.reg [(Qa 27 (.mv (.t 25))),(Qa 8 (.mv (.t 27)))]) (.seq (.reg [(Qa 28 (.fld 2 (.t 1))),(Qa 29 (.load (.t 28))),(Qa 30 (.mv (.t 8))),(Qa 31 (.idx 8 (.t 29) (.t 30))),(Qa 9 (.alloc 146 [.nlp])),(Qb (.store 1 (.t 9) (.t 31)))]) (.seq (.reg [(Qa 32 (.mkf 132 [(.t 6),(.t 1),(.t 9)])),(Qa 10 (.mv (.t 32)))]) (.seq (.seq (.reg [(Qa 33 (.load (.t 9))),(Qa 34 (.nilchk (.t 33))),(Qa 35 (.fld 3 (.t 34))),(Qa 36 (.load (.t 35))),(Qa 37 (.mv (.t 36))),(Qg 38 37 true (.load (.t 9))),(Qg 39 37 true (.nilchk (.t 38))),(Qg 40 37 true (.fld 4 (.t 39))),(Qg 41 37 true (.load (.t 40))),(Qa 42 (.pick (.t 37) (.t 41) (.c .ff))),(Qa 43 (.mv (.t 42))),(Qg 44 43 true (.load (.t 9))),(Qg 45 43 true (.nilchk (.t 44))),(Qg 46 43 true (.fld 5 (.t 45))),(Qg 47 43 true (.load (.t 46))),(Qa 48 (.pick (.t 43) (.t 47) (.c .ff))),(Qa 49 (.mv (.t 48))),(Qg 50 49 true (.fld 1 (.t 1))),(Qg 51 49 true (.load (.t 50))),(Qg 52 49 true (.bin .neq (.t 51) (.c (.iv 2)))),(Qa 53 (.pick (.t 49) (.t 52) (.c .ff)))]) (.ite (.t 53) (.seq (.drw [(Qa 54 (.load (.t 9))),(Qa 55 (.load (.t 9))),(Qa 56 (.nilchk (.t 54))),(Qa 57 (.fld 3 (.t 56))),(Qb (.store 1 (.t 57) (.c .ff))),(Qa 58 (.nilchk (.t 55))),(Qa 59 (.fld 4 (.t 58))),(Qb (.store 1 (.t 59) (.c .ff)))] [[],[],[0,0],[2,0],[3,0],[1,0,1,2,3,4],[5,0,1,2,3,4],[6,4,0,1,2,3,4]] [[2],[5],[0,3],[2,4],[3],[1,6],[5,7],[6]]) (.reg [(Qa 60 (.mv (.t 10))),(Qa 61 (.callv (.t 60) [(.c (.iv 1))]))])) (.skip))) (.seq (.seq (.reg [(Qa 62 (.fld 1 (.t 1))),(Qa 63 (.load (.t 62))),(Qa 64 (.bin .eql (.t 63) (.c (.iv 1)))),(Qa 65 (.mv (.t 64))),(Qg 66 65 true (.load (.t 9))),(Qg 67 65 true (.nilchk (.t 66))),(Qg 68 65 true (.fld 5 (.t 67))),(Qg 69 65 true (.load (.t 68))),(Qa 70 (.pick (.t 65) (.t 69) (.c .ff))),(Qa 71 (.mv (.t 70))),(Qg 72 71 true (.load (.t 9))),(Qg 73 71 true (.nilchk (.t 72))),(Qg 74 71 true (.fld 3 (.t 73))),(Qg 75 71 true (.load (.t 74))),(Qg 76 71 true (.not (.t 75))),(Qa 77 (.pick (.t 71) (.t 76) (.c .ff)))]) (.ite (.t 77) (.seq (.reg [(Qa 78 (.load (.t 9))),(Qa 79 (.nilchk (.t 78))),(Qa 80 (.fld 5 (.t 79))),(Qb (.store 1 (.t 80) (.c .ff)))]) (.reg [(Qa 81 (.mv (.t 10))),(Qa 82 (.callv (.t 81) [(.c (.iv 2))]))])) (.skip))) (.reg [(Qa 83 (.mv (.t 7))),(Qa 84 (.mv (.t 83))),(Qg 85 84 true (.load (.t 9))),(Qg 86 84 true (.nilchk (.t 85))),(Qg 87 84 true (.fld 3 (.t 86))),(Qg 88 84 true (.load (.t 87))),(Qa 89 (.pick (.t 84) (.t 88) (.c .ff))),(Qa 7 (.mv (.t 89)))]))))))) (.reg [(Qa 90 (.bin .add (.t 25) (.c (.iv 1)))),(Qa 25 (.mv (.t 90)))])))
def Zae:EC:=.seq (.reg [(Qa 1 (.box 39 3 (.t 0))),(Qa 2 (.alloc 39 [.iv 0,.iv 0,.nl])),(Qa 3 (.mv (.c .nl))),(Qa 4 (.mv (.c (.iv 0))))]) (.seq (.seq (.reg [(Qa 12 (.loadA 3 (.t 1))),(Qa 13 (.call 103 [(.t 12)])),(Qa 5 (.mv (.t 13)))]) (.seq (.reg [(Qa 14 (.mv (.t 5))),(Qa 15 (.bin .neq (.t 14) (.c (.iv 0))))]) (.ite (.t 15) (.seq (.reg [(Qa 16 (.build [.iv 0,.iv 0,.nl] [])),(Qa 17 (.mv (.t 5))),(Qb (.store 3 (.t 2) (.t 16))),(Qa 3 (.mv (.c .nl))),(Qa 4 (.mv (.t 17)))]) (.ret)) (.skip)))) (.seq (.reg [(Qa 18 (.fld 2 (.t 1))),(Qa 19 (.load (.t 18))),(Qa 20 (.call 121 [(.t 19)])),(Qa 21 (.fld 2 (.t 1))),(Qb (.store 1 (.t 21) (.t 20)))]) (.seq (.reg [(Qa 6 (.alloc 41 [.nl]))]) (.seq (.reg [(Qa 7 (.mv (.c .tt)))]) (.seq (.seq (.reg [(Qa 22 (.fld 2 (.t 1))),(Qa 23 (.load (.t 22))),(Qa 24 (.len (.t 23))),(Qa 25 (.mv (.c (.iv 0))))]) (.blk 0 (.loop Z9e))) (.seq (.seq (.reg [(Qa 91 (.fld 1 (.t 1))),(Qa 92 (.load (.t 91))),(Qa 93 (.bin .eql (.t 92) (.c (.iv 1)))),(Qa 94 (.mv (.t 93))),(Qg 95 94 true (.mv (.t 7))),(Qa 96 (.pick (.t 94) (.t 95) (.c .ff)))]) (.ite (.t 96) (.seq (.reg [(Qa 97 (.fld 1 (.t 1))),(Qb (.store 1 (.t 97) (.c (.iv 2))))]) (.seq (.reg [(Qa 98 (.fld 2 (.t 1))),(Qa 99 (.load (.t 98))),(Qa 100 (.len (.t 99))),(Qa 101 (.mv (.c (.iv 0))))]) (.blk 2 (.loop Z8e)))) (.skip))) (.seq (.drw [(Qa 110 (.loadA 3 (.t 1))),(Qa 111 (.load (.t 6))),(Qb (.store 3 (.t 2) (.t 110))),(Qa 3 (.mv (.t 111))),(Qa 4 (.mv (.c (.iv 0))))] [[],[],[0,0],[1,2,0,1,2],[3,0,1,2,3]] [[2],[3],[0],[1],[]]) (.ret))))))))
theorem ok120:FnOK Try.prog 120 Try.f120 Zae [.c 2 (some 3),.t 3,.t 4] 1 111:=⟨by kernel_rfl,⟨_,rfl,by kernel_rfl⟩,by kernel_rfl,by kernel_rfl⟩
noncomputable def Zbe (x1:Int) (x2:Int) (_x3:Int) (x4:Int) (x5:(List Side)):Option (List Mail):=
 (at_ x5 x4).bind fun x6=>
 (Za4 40 [] ([(Mail.mk x2 x6.Peer ((Msg.mk x1 x6.Epoch 0)))])).bind fun x7=>
 some x7
theorem Zce (x1:Int) (x2:Int) (x3:Int) (x4:Int) (x5:(List Side)) (r:(List Mail)) (h:Zbe x1 x2 x3 x4 x5=some r):FunT Try.prog 132 [.iv x1,.ptr 2 0,.ptr 0 0,.ptr 3 0] [some ⟨39,[.iv x2,.iv x3,.osl 0]⟩,none,some ⟨41,[.nl]⟩,some ⟨146,[.oel 0 ((x4).toNat*8) 0]⟩] [some ⟨49,8,List.map Side.row x5⟩] (.tup []) [some ⟨39,[.iv x2,.iv x3,.osl 0]⟩,none,some ⟨41,[.osl 2]⟩,some ⟨146,[.oel 0 ((x4).toNat*8) 0]⟩] [some ⟨49,8,List.map Side.row x5⟩,none,some ⟨97,5,List.map Mail.row r⟩]:=by
 refine Zu5 Z7e rfl rfl rfl (by first | rfl | simp [go_sem]) fun w0 M0=>?_
 rw [Zbe] at h
 dsimp only [lun,List.cons_append,List.nil_append]
 refine Zh3 (by kernel_rfl) fun all hall hs hnap haf=>?_;dsimp only [go_sem];refine Zi5 hall hs haf hnap 4 13 [true,true,true,false,false,false,false,true,false,false,false,false,false,false,false,false,false] (⟨[.iv x1,.ptr 2 0,.ptr 0 0,.ptr 3 0,.un,.nl,.ptr 0 0,.iv x2,.un,.un,.un,.un,.iv x1,.un,.un,.un,.un,.un,.un,.un,.un],[some ⟨39,[.iv x2,.iv x3,.osl 0]⟩,none,some ⟨41,[.nl]⟩,some ⟨146,[.oel 0 ((x4).toNat*8) 0]⟩],[some ⟨49,8,List.map Side.row x5⟩]⟩:St) (by kernel_rfl) ?_;refine Zu3 3 8 rfl ?_ ?_
 ·refine Zy3 hall rfl trivial ?_;dsimp only [go_sem];refine Zh5 hall hs haf hnap 2 10 ?_;dsimp only [go_sem];refine ⟨by simp,?_⟩;obtain ⟨x6,ex6,h⟩:=Option.bind_eq_some_iff.1 h;refine Zu3 6 8 rfl ?_ ?_
  ·refine Zx5 hall Side.row ex6 rfl trivial rfl rfl rfl ?_;dsimp only [go_sem];refine Zt3 8 rfl ?_;refine Zy3 hall rfl trivial ?_;dsimp only [go_sem];refine Zh5 hall hs haf hnap 2 6 ?_;dsimp only [go_sem];refine ⟨by simp,?_⟩;refine Zt3 11 rfl ?_;refine Zx5 hall Side.row ex6 rfl trivial rfl rfl rfl ?_;dsimp only [go_sem];refine Zh5 hall hs haf hnap 2 3 ?_;dsimp only [go_sem];refine ⟨by simp,?_⟩;refine Zt3 14 rfl ?_;refine Zy3 hall rfl trivial ?_;dsimp only [go_sem];refine Zt3 15 rfl ?_;obtain ⟨x7,ex7,h⟩:=Option.bind_eq_some_iff.1 h
   refine Zv4 Mail.row ex7 hall rfl trivial rfl rfl ?_;dsimp only [go_sem];refine Zt3 16 rfl ?_;refine Zy3 hall rfl trivial ?_;dsimp only [go_sem];refine Zs3 rfl ?_ _;obtain rfl:=Option.some.inj h;exact Zv5 Z7e rfl (by simp [go_sem])
  ·refine Zy3 hall rfl trivial ?_;dsimp only [go_sem];refine Zh5 hall hs haf hnap 2 7 ?_;dsimp only [go_sem];refine ⟨by simp,?_⟩;refine Zu3 6 11 rfl ?_ ?_
   ·refine Zx5 hall Side.row ex6 rfl trivial rfl rfl rfl ?_;dsimp only [go_sem];refine Zt3 11 rfl ?_;refine Zx5 hall Side.row ex6 rfl trivial rfl rfl rfl ?_;dsimp only [go_sem];refine Zh5 hall hs haf hnap 2 3 ?_;dsimp only [go_sem];refine ⟨by simp,?_⟩;refine Zt3 14 rfl ?_;refine Zy3 hall rfl trivial ?_;dsimp only [go_sem];refine Zt3 15 rfl ?_;obtain ⟨x7,ex7,h⟩:=Option.bind_eq_some_iff.1 h;refine Zv4 Mail.row ex7 hall rfl trivial rfl rfl ?_;dsimp only [go_sem];refine Zt3 16 rfl ?_;refine Zy3 hall rfl trivial ?_;dsimp only [go_sem]
    refine Zs3 rfl ?_ _;obtain rfl:=Option.some.inj h;exact Zv5 Z7e rfl (by simp [go_sem])
   ·refine Zx5 hall Side.row ex6 rfl trivial rfl rfl rfl ?_;dsimp only [go_sem];refine Zh5 hall hs haf hnap 1 5 ?_;dsimp only [go_sem];refine ⟨by simp,?_⟩;refine Zt3 6 rfl ?_;refine Zx5 hall Side.row ex6 rfl trivial rfl rfl rfl ?_;dsimp only [go_sem];refine Zh5 hall hs haf hnap 1 3 ?_;dsimp only [go_sem];refine ⟨by simp,?_⟩;refine Zt3 14 rfl ?_;refine Zy3 hall rfl trivial ?_;dsimp only [go_sem];refine Zt3 15 rfl ?_;obtain ⟨x7,ex7,h⟩:=Option.bind_eq_some_iff.1 h;refine Zv4 Mail.row ex7 hall rfl trivial rfl rfl ?_;dsimp only [go_sem]
    refine Zt3 16 rfl ?_;refine Zy3 hall rfl trivial ?_;dsimp only [go_sem];refine Zs3 rfl ?_ _;obtain rfl:=Option.some.inj h;exact Zv5 Z7e rfl (by simp [go_sem])
 ·refine Zy3 hall rfl trivial ?_;dsimp only [go_sem];refine Zh5 hall hs haf hnap 2 10 ?_;dsimp only [go_sem];refine ⟨by simp,?_⟩;obtain ⟨x6,ex6,h⟩:=Option.bind_eq_some_iff.1 h;refine Zu3 3 11 rfl ?_ ?_
  ·refine Zy3 hall rfl trivial ?_;dsimp only [go_sem];refine Zh5 hall hs haf hnap 2 7 ?_;dsimp only [go_sem];refine ⟨by simp,?_⟩;refine Zu3 6 11 rfl ?_ ?_
   ·refine Zx5 hall Side.row ex6 rfl trivial rfl rfl rfl ?_;dsimp only [go_sem];refine Zt3 11 rfl ?_;refine Zx5 hall Side.row ex6 rfl trivial rfl rfl rfl ?_;dsimp only [go_sem];refine Zh5 hall hs haf hnap 2 3 ?_;dsimp only [go_sem];refine ⟨by simp,?_⟩;refine Zt3 14 rfl ?_;refine Zy3 hall rfl trivial ?_;dsimp only [go_sem];refine Zt3 15 rfl ?_;obtain ⟨x7,ex7,h⟩:=Option.bind_eq_some_iff.1 h;refine Zv4 Mail.row ex7 hall rfl trivial rfl rfl ?_;dsimp only [go_sem];refine Zt3 16 rfl ?_;refine Zy3 hall rfl trivial ?_;dsimp only [go_sem]
    refine Zs3 rfl ?_ _;obtain rfl:=Option.some.inj h;exact Zv5 Z7e rfl (by simp [go_sem])
   ·refine Zx5 hall Side.row ex6 rfl trivial rfl rfl rfl ?_;dsimp only [go_sem];refine Zh5 hall hs haf hnap 1 5 ?_;dsimp only [go_sem];refine ⟨by simp,?_⟩;refine Zt3 6 rfl ?_;refine Zx5 hall Side.row ex6 rfl trivial rfl rfl rfl ?_;dsimp only [go_sem];refine Zh5 hall hs haf hnap 1 3 ?_;dsimp only [go_sem];refine ⟨by simp,?_⟩;refine Zt3 14 rfl ?_;refine Zy3 hall rfl trivial ?_;dsimp only [go_sem];refine Zt3 15 rfl ?_;obtain ⟨x7,ex7,h⟩:=Option.bind_eq_some_iff.1 h;refine Zv4 Mail.row ex7 hall rfl trivial rfl rfl ?_;dsimp only [go_sem]
    refine Zt3 16 rfl ?_;refine Zy3 hall rfl trivial ?_;dsimp only [go_sem];refine Zs3 rfl ?_ _;obtain rfl:=Option.some.inj h;exact Zv5 Z7e rfl (by simp [go_sem])
  ·refine Zx5 hall Side.row ex6 rfl trivial rfl rfl rfl ?_;dsimp only [go_sem];refine Zh5 hall hs haf hnap 1 8 ?_;dsimp only [go_sem];refine ⟨by simp,?_⟩;refine Zt3 3 rfl ?_;refine Zy3 hall rfl trivial ?_;dsimp only [go_sem];refine Zh5 hall hs haf hnap 2 5 ?_;dsimp only [go_sem];refine ⟨by simp,?_⟩;refine Zt3 6 rfl ?_;refine Zx5 hall Side.row ex6 rfl trivial rfl rfl rfl ?_;dsimp only [go_sem];refine Zh5 hall hs haf hnap 1 3 ?_;dsimp only [go_sem];refine ⟨by simp,?_⟩;refine Zt3 14 rfl ?_;refine Zy3 hall rfl trivial ?_;dsimp only [go_sem]
   refine Zt3 15 rfl ?_;obtain ⟨x7,ex7,h⟩:=Option.bind_eq_some_iff.1 h;refine Zv4 Mail.row ex7 hall rfl trivial rfl rfl ?_;dsimp only [go_sem];refine Zt3 16 rfl ?_;refine Zy3 hall rfl trivial ?_;dsimp only [go_sem];refine Zs3 rfl ?_ _;obtain rfl:=Option.some.inj h;exact Zv5 Z7e rfl (by simp [go_sem])
def Zde (_F:Nat) (x1:Int) (x2:Int) (_x3:Int) (x4:Int) (x5:(List Side)):Option (List Mail):=
 (at_ x5 x4).bind fun x6=>
 (Za4 40 [] ([(Mail.mk x2 x6.Peer ((Msg.mk x1 x6.Epoch 0)))])).bind fun x7=>
 some x7
theorem Zee {F:Nat} {x1:Int} {x2:Int} {x3:Int} {x4:Int} {x5:(List Side)}:ole (Zde F x1 x2 x3 x4 x5) (Zbe x1 x2 x3 x4 x5):=by
 unfold Zde Zbe
 with_reducible repeat' first | exact Zf4 _ | assumption | intro _ | refine Zg4 ?_ ?_ | refine Zh4 ?_ ?_ | refine Zi4 ?_ | refine Zj4 ?_
noncomputable def Zfe (x1:Int) (x2:Int) (_x3:Int) (x4:Int) (x5:(List Side)) (x6:(List Mail)):Option (List Mail):=
 (at_ x5 x4).bind fun x7=>
 (Za4 40 x6 ([(Mail.mk x2 x7.Peer ((Msg.mk x1 x7.Epoch 0)))])).bind fun x8=>
 some x8
theorem Zge (x1:Int) (x2:Int) (x3:Int) (x4:Int) (x5:(List Side)) (x6:(List Mail)) (r:(List Mail)) (h:Zfe x1 x2 x3 x4 x5 x6=some r):FunT Try.prog 132 [.iv x1,.ptr 2 0,.ptr 0 0,.ptr 3 0] [some ⟨39,[.iv x2,.iv x3,.osl 0]⟩,none,some ⟨41,[.osl 1]⟩,some ⟨146,[.oel 0 ((x4).toNat*8) 0]⟩] [some ⟨49,8,List.map Side.row x5⟩,some ⟨97,5,List.map Mail.row x6⟩] (.tup []) [some ⟨39,[.iv x2,.iv x3,.osl 0]⟩,none,some ⟨41,[.osl 3]⟩,some ⟨146,[.oel 0 ((x4).toNat*8) 0]⟩] [some ⟨49,8,List.map Side.row x5⟩,none,none,some ⟨97,5,List.map Mail.row r⟩]:=by
 refine Zu5 Z7e rfl rfl rfl (by first | rfl | simp [go_sem]) fun w0 M0=>?_
 rw [Zfe] at h
 dsimp only [lun,List.cons_append,List.nil_append]
 refine Zh3 (by kernel_rfl) fun all hall hs hnap haf=>?_;dsimp only [go_sem];refine Zh5 hall hs haf hnap 3 14 ?_;dsimp only [go_sem];refine ⟨by simp,?_⟩;refine Zv3 0 3 8 rfl ?_ ?_ ?_
 ·refine Zy3 hall rfl trivial ?_;dsimp only [go_sem];refine Zu3 3 8 rfl ?_ ?_
  ·refine Zy3 hall rfl trivial ?_;dsimp only [go_sem];refine Zh5 hall hs haf hnap 2 10 ?_;dsimp only [go_sem];refine ⟨by simp,?_⟩;obtain ⟨x7,ex7,h⟩:=Option.bind_eq_some_iff.1 h;refine Zu3 6 8 rfl ?_ ?_
   ·refine Zx5 hall Side.row ex7 rfl trivial rfl rfl rfl ?_;dsimp only [go_sem];refine Zt3 8 rfl ?_;refine Zy3 hall rfl trivial ?_;dsimp only [go_sem];refine Zh5 hall hs haf hnap 2 6 ?_;dsimp only [go_sem];refine ⟨by simp,?_⟩;refine Zt3 11 rfl ?_;refine Zx5 hall Side.row ex7 rfl trivial rfl rfl rfl ?_;dsimp only [go_sem];refine Zh5 hall hs haf hnap 2 3 ?_;dsimp only [go_sem];refine ⟨by simp,?_⟩;refine Zt3 14 rfl ?_;refine Zy3 hall rfl trivial ?_;dsimp only [go_sem];refine Zt3 15 rfl ?_;obtain ⟨x8,ex8,h⟩:=Option.bind_eq_some_iff.1 h
    refine Zu4 Mail.row ex8 hall rfl trivial rfl rfl rfl ?_;dsimp only [go_sem];refine Zt3 16 rfl ?_;refine Zy3 hall rfl trivial ?_;dsimp only [go_sem];refine Zs3 rfl ?_ _;obtain rfl:=Option.some.inj h;exact Zv5 Z7e rfl (by simp [go_sem])
   ·refine Zy3 hall rfl trivial ?_;dsimp only [go_sem];refine Zh5 hall hs haf hnap 2 7 ?_;dsimp only [go_sem];refine ⟨by simp,?_⟩;refine Zu3 6 11 rfl ?_ ?_
    ·refine Zx5 hall Side.row ex7 rfl trivial rfl rfl rfl ?_;dsimp only [go_sem];refine Zt3 11 rfl ?_;refine Zx5 hall Side.row ex7 rfl trivial rfl rfl rfl ?_;dsimp only [go_sem];refine Zh5 hall hs haf hnap 2 3 ?_;dsimp only [go_sem];refine ⟨by simp,?_⟩;refine Zt3 14 rfl ?_;refine Zy3 hall rfl trivial ?_;dsimp only [go_sem];refine Zt3 15 rfl ?_;obtain ⟨x8,ex8,h⟩:=Option.bind_eq_some_iff.1 h;refine Zu4 Mail.row ex8 hall rfl trivial rfl rfl rfl ?_;dsimp only [go_sem];refine Zt3 16 rfl ?_;refine Zy3 hall rfl trivial ?_;dsimp only [go_sem]
     refine Zs3 rfl ?_ _;obtain rfl:=Option.some.inj h;exact Zv5 Z7e rfl (by simp [go_sem])
    ·refine Zx5 hall Side.row ex7 rfl trivial rfl rfl rfl ?_;dsimp only [go_sem];refine Zh5 hall hs haf hnap 1 5 ?_;dsimp only [go_sem];refine ⟨by simp,?_⟩;refine Zt3 6 rfl ?_;refine Zx5 hall Side.row ex7 rfl trivial rfl rfl rfl ?_;dsimp only [go_sem];refine Zh5 hall hs haf hnap 1 3 ?_;dsimp only [go_sem];refine ⟨by simp,?_⟩;refine Zt3 14 rfl ?_;refine Zy3 hall rfl trivial ?_;dsimp only [go_sem];refine Zt3 15 rfl ?_;obtain ⟨x8,ex8,h⟩:=Option.bind_eq_some_iff.1 h;refine Zu4 Mail.row ex8 hall rfl trivial rfl rfl rfl ?_;dsimp only [go_sem]
     refine Zt3 16 rfl ?_;refine Zy3 hall rfl trivial ?_;dsimp only [go_sem];refine Zs3 rfl ?_ _;obtain rfl:=Option.some.inj h;exact Zv5 Z7e rfl (by simp [go_sem])
  ·refine Zy3 hall rfl trivial ?_;dsimp only [go_sem];refine Zh5 hall hs haf hnap 2 10 ?_;dsimp only [go_sem];refine ⟨by simp,?_⟩;obtain ⟨x7,ex7,h⟩:=Option.bind_eq_some_iff.1 h;refine Zu3 3 11 rfl ?_ ?_
   ·refine Zy3 hall rfl trivial ?_;dsimp only [go_sem];refine Zh5 hall hs haf hnap 2 7 ?_;dsimp only [go_sem];refine ⟨by simp,?_⟩;refine Zu3 6 11 rfl ?_ ?_
    ·refine Zx5 hall Side.row ex7 rfl trivial rfl rfl rfl ?_;dsimp only [go_sem];refine Zt3 11 rfl ?_;refine Zx5 hall Side.row ex7 rfl trivial rfl rfl rfl ?_;dsimp only [go_sem];refine Zh5 hall hs haf hnap 2 3 ?_;dsimp only [go_sem];refine ⟨by simp,?_⟩;refine Zt3 14 rfl ?_;refine Zy3 hall rfl trivial ?_;dsimp only [go_sem];refine Zt3 15 rfl ?_;obtain ⟨x8,ex8,h⟩:=Option.bind_eq_some_iff.1 h;refine Zu4 Mail.row ex8 hall rfl trivial rfl rfl rfl ?_;dsimp only [go_sem];refine Zt3 16 rfl ?_;refine Zy3 hall rfl trivial ?_;dsimp only [go_sem]
     refine Zs3 rfl ?_ _;obtain rfl:=Option.some.inj h;exact Zv5 Z7e rfl (by simp [go_sem])
    ·refine Zx5 hall Side.row ex7 rfl trivial rfl rfl rfl ?_;dsimp only [go_sem];refine Zh5 hall hs haf hnap 1 5 ?_;dsimp only [go_sem];refine ⟨by simp,?_⟩;refine Zt3 6 rfl ?_;refine Zx5 hall Side.row ex7 rfl trivial rfl rfl rfl ?_;dsimp only [go_sem];refine Zh5 hall hs haf hnap 1 3 ?_;dsimp only [go_sem];refine ⟨by simp,?_⟩;refine Zt3 14 rfl ?_;refine Zy3 hall rfl trivial ?_;dsimp only [go_sem];refine Zt3 15 rfl ?_;obtain ⟨x8,ex8,h⟩:=Option.bind_eq_some_iff.1 h;refine Zu4 Mail.row ex8 hall rfl trivial rfl rfl rfl ?_;dsimp only [go_sem]
     refine Zt3 16 rfl ?_;refine Zy3 hall rfl trivial ?_;dsimp only [go_sem];refine Zs3 rfl ?_ _;obtain rfl:=Option.some.inj h;exact Zv5 Z7e rfl (by simp [go_sem])
   ·refine Zx5 hall Side.row ex7 rfl trivial rfl rfl rfl ?_;dsimp only [go_sem];refine Zh5 hall hs haf hnap 1 8 ?_;dsimp only [go_sem];refine ⟨by simp,?_⟩;refine Zt3 3 rfl ?_;refine Zy3 hall rfl trivial ?_;dsimp only [go_sem];refine Zh5 hall hs haf hnap 2 5 ?_;dsimp only [go_sem];refine ⟨by simp,?_⟩;refine Zt3 6 rfl ?_;refine Zx5 hall Side.row ex7 rfl trivial rfl rfl rfl ?_;dsimp only [go_sem];refine Zh5 hall hs haf hnap 1 3 ?_;dsimp only [go_sem];refine ⟨by simp,?_⟩;refine Zt3 14 rfl ?_;refine Zy3 hall rfl trivial ?_;dsimp only [go_sem]
    refine Zt3 15 rfl ?_;obtain ⟨x8,ex8,h⟩:=Option.bind_eq_some_iff.1 h;refine Zu4 Mail.row ex8 hall rfl trivial rfl rfl rfl ?_;dsimp only [go_sem];refine Zt3 16 rfl ?_;refine Zy3 hall rfl trivial ?_;dsimp only [go_sem];refine Zs3 rfl ?_ _;obtain rfl:=Option.some.inj h;exact Zv5 Z7e rfl (by simp [go_sem])
 ·refine Zy3 hall rfl trivial ?_;dsimp only [go_sem];refine Zh5 hall hs haf hnap 2 11 ?_;dsimp only [go_sem];refine ⟨by simp,?_⟩;obtain ⟨x7,ex7,h⟩:=Option.bind_eq_some_iff.1 h;refine Zv3 0 6 8 rfl ?_ ?_ ?_
  ·refine Zy3 hall rfl trivial ?_;dsimp only [go_sem];refine Zu3 6 8 rfl ?_ ?_
   ·refine Zx5 hall Side.row ex7 rfl trivial rfl rfl rfl ?_;dsimp only [go_sem];refine Zt3 8 rfl ?_;refine Zy3 hall rfl trivial ?_;dsimp only [go_sem];refine Zh5 hall hs haf hnap 2 6 ?_;dsimp only [go_sem];refine ⟨by simp,?_⟩;refine Zt3 11 rfl ?_;refine Zx5 hall Side.row ex7 rfl trivial rfl rfl rfl ?_;dsimp only [go_sem];refine Zh5 hall hs haf hnap 2 3 ?_;dsimp only [go_sem];refine ⟨by simp,?_⟩;refine Zt3 14 rfl ?_;refine Zy3 hall rfl trivial ?_;dsimp only [go_sem];refine Zt3 15 rfl ?_;obtain ⟨x8,ex8,h⟩:=Option.bind_eq_some_iff.1 h
    refine Zu4 Mail.row ex8 hall rfl trivial rfl rfl rfl ?_;dsimp only [go_sem];refine Zt3 16 rfl ?_;refine Zy3 hall rfl trivial ?_;dsimp only [go_sem];refine Zs3 rfl ?_ _;obtain rfl:=Option.some.inj h;exact Zv5 Z7e rfl (by simp [go_sem])
   ·refine Zy3 hall rfl trivial ?_;dsimp only [go_sem];refine Zh5 hall hs haf hnap 2 7 ?_;dsimp only [go_sem];refine ⟨by simp,?_⟩;refine Zu3 6 11 rfl ?_ ?_
    ·refine Zx5 hall Side.row ex7 rfl trivial rfl rfl rfl ?_;dsimp only [go_sem];refine Zt3 11 rfl ?_;refine Zx5 hall Side.row ex7 rfl trivial rfl rfl rfl ?_;dsimp only [go_sem];refine Zh5 hall hs haf hnap 2 3 ?_;dsimp only [go_sem];refine ⟨by simp,?_⟩;refine Zt3 14 rfl ?_;refine Zy3 hall rfl trivial ?_;dsimp only [go_sem];refine Zt3 15 rfl ?_;obtain ⟨x8,ex8,h⟩:=Option.bind_eq_some_iff.1 h;refine Zu4 Mail.row ex8 hall rfl trivial rfl rfl rfl ?_;dsimp only [go_sem];refine Zt3 16 rfl ?_;refine Zy3 hall rfl trivial ?_;dsimp only [go_sem]
     refine Zs3 rfl ?_ _;obtain rfl:=Option.some.inj h;exact Zv5 Z7e rfl (by simp [go_sem])
    ·refine Zx5 hall Side.row ex7 rfl trivial rfl rfl rfl ?_;dsimp only [go_sem];refine Zh5 hall hs haf hnap 1 5 ?_;dsimp only [go_sem];refine ⟨by simp,?_⟩;refine Zt3 6 rfl ?_;refine Zx5 hall Side.row ex7 rfl trivial rfl rfl rfl ?_;dsimp only [go_sem];refine Zh5 hall hs haf hnap 1 3 ?_;dsimp only [go_sem];refine ⟨by simp,?_⟩;refine Zt3 14 rfl ?_;refine Zy3 hall rfl trivial ?_;dsimp only [go_sem];refine Zt3 15 rfl ?_;obtain ⟨x8,ex8,h⟩:=Option.bind_eq_some_iff.1 h;refine Zu4 Mail.row ex8 hall rfl trivial rfl rfl rfl ?_;dsimp only [go_sem]
     refine Zt3 16 rfl ?_;refine Zy3 hall rfl trivial ?_;dsimp only [go_sem];refine Zs3 rfl ?_ _;obtain rfl:=Option.some.inj h;exact Zv5 Z7e rfl (by simp [go_sem])
  ·refine Zx5 hall Side.row ex7 rfl trivial rfl rfl rfl ?_;dsimp only [go_sem];refine Zu3 0 8 rfl ?_ ?_
   ·refine Zy3 hall rfl trivial ?_;dsimp only [go_sem];refine Zt3 8 rfl ?_;refine Zy3 hall rfl trivial ?_;dsimp only [go_sem];refine Zh5 hall hs haf hnap 2 6 ?_;dsimp only [go_sem];refine ⟨by simp,?_⟩;refine Zt3 11 rfl ?_;refine Zx5 hall Side.row ex7 rfl trivial rfl rfl rfl ?_;dsimp only [go_sem];refine Zh5 hall hs haf hnap 2 3 ?_;dsimp only [go_sem];refine ⟨by simp,?_⟩;refine Zt3 14 rfl ?_;refine Zy3 hall rfl trivial ?_;dsimp only [go_sem];refine Zt3 15 rfl ?_;obtain ⟨x8,ex8,h⟩:=Option.bind_eq_some_iff.1 h
    refine Zu4 Mail.row ex8 hall rfl trivial rfl rfl rfl ?_;dsimp only [go_sem];refine Zt3 16 rfl ?_;refine Zy3 hall rfl trivial ?_;dsimp only [go_sem];refine Zs3 rfl ?_ _;obtain rfl:=Option.some.inj h;exact Zv5 Z7e rfl (by simp [go_sem])
   ·refine Zy3 hall rfl trivial ?_;dsimp only [go_sem];refine Zh5 hall hs haf hnap 2 7 ?_;dsimp only [go_sem];refine ⟨by simp,?_⟩;refine Zu3 0 11 rfl ?_ ?_
    ·refine Zy3 hall rfl trivial ?_;dsimp only [go_sem];refine Zt3 11 rfl ?_;refine Zx5 hall Side.row ex7 rfl trivial rfl rfl rfl ?_;dsimp only [go_sem];refine Zh5 hall hs haf hnap 2 3 ?_;dsimp only [go_sem];refine ⟨by simp,?_⟩;refine Zt3 14 rfl ?_;refine Zy3 hall rfl trivial ?_;dsimp only [go_sem];refine Zt3 15 rfl ?_;obtain ⟨x8,ex8,h⟩:=Option.bind_eq_some_iff.1 h;refine Zu4 Mail.row ex8 hall rfl trivial rfl rfl rfl ?_;dsimp only [go_sem];refine Zt3 16 rfl ?_;refine Zy3 hall rfl trivial ?_;dsimp only [go_sem];refine Zs3 rfl ?_ _
     obtain rfl:=Option.some.inj h;exact Zv5 Z7e rfl (by simp [go_sem])
    ·refine Zx5 hall Side.row ex7 rfl trivial rfl rfl rfl ?_;dsimp only [go_sem];refine Zh5 hall hs haf hnap 2 4 ?_;dsimp only [go_sem];refine ⟨by simp,?_⟩;refine Zu3 0 14 rfl ?_ ?_
     ·refine Zy3 hall rfl trivial ?_;dsimp only [go_sem];refine Zt3 14 rfl ?_;refine Zy3 hall rfl trivial ?_;dsimp only [go_sem];refine Zt3 15 rfl ?_;obtain ⟨x8,ex8,h⟩:=Option.bind_eq_some_iff.1 h;refine Zu4 Mail.row ex8 hall rfl trivial rfl rfl rfl ?_;dsimp only [go_sem];refine Zt3 16 rfl ?_;refine Zy3 hall rfl trivial ?_;dsimp only [go_sem];refine Zs3 rfl ?_ _;obtain rfl:=Option.some.inj h;exact Zv5 Z7e rfl (by simp [go_sem])
     ·refine Zy3 hall rfl trivial ?_;dsimp only [go_sem];refine Zt3 0 rfl ?_;refine Zy3 hall rfl trivial ?_;dsimp only [go_sem];refine Zt3 15 rfl ?_;obtain ⟨x8,ex8,h⟩:=Option.bind_eq_some_iff.1 h;refine Zu4 Mail.row ex8 hall rfl trivial rfl rfl rfl ?_;dsimp only [go_sem];refine Zt3 16 rfl ?_;refine Zy3 hall rfl trivial ?_;dsimp only [go_sem];refine Zs3 rfl ?_ _;obtain rfl:=Option.some.inj h;exact Zv5 Z7e rfl (by simp [go_sem])
  ·refine Zy3 hall rfl trivial ?_;dsimp only [go_sem];refine Zh5 hall hs haf hnap 2 8 ?_;dsimp only [go_sem];refine ⟨by simp,?_⟩;refine Zv3 0 6 11 rfl ?_ ?_ ?_
   ·refine Zy3 hall rfl trivial ?_;dsimp only [go_sem];refine Zu3 6 11 rfl ?_ ?_
    ·refine Zx5 hall Side.row ex7 rfl trivial rfl rfl rfl ?_;dsimp only [go_sem];refine Zt3 11 rfl ?_;refine Zx5 hall Side.row ex7 rfl trivial rfl rfl rfl ?_;dsimp only [go_sem];refine Zh5 hall hs haf hnap 2 3 ?_;dsimp only [go_sem];refine ⟨by simp,?_⟩;refine Zt3 14 rfl ?_;refine Zy3 hall rfl trivial ?_;dsimp only [go_sem];refine Zt3 15 rfl ?_;obtain ⟨x8,ex8,h⟩:=Option.bind_eq_some_iff.1 h;refine Zu4 Mail.row ex8 hall rfl trivial rfl rfl rfl ?_;dsimp only [go_sem];refine Zt3 16 rfl ?_;refine Zy3 hall rfl trivial ?_;dsimp only [go_sem]
     refine Zs3 rfl ?_ _;obtain rfl:=Option.some.inj h;exact Zv5 Z7e rfl (by simp [go_sem])
    ·refine Zx5 hall Side.row ex7 rfl trivial rfl rfl rfl ?_;dsimp only [go_sem];refine Zh5 hall hs haf hnap 1 5 ?_;dsimp only [go_sem];refine ⟨by simp,?_⟩;refine Zt3 6 rfl ?_;refine Zx5 hall Side.row ex7 rfl trivial rfl rfl rfl ?_;dsimp only [go_sem];refine Zh5 hall hs haf hnap 1 3 ?_;dsimp only [go_sem];refine ⟨by simp,?_⟩;refine Zt3 14 rfl ?_;refine Zy3 hall rfl trivial ?_;dsimp only [go_sem];refine Zt3 15 rfl ?_;obtain ⟨x8,ex8,h⟩:=Option.bind_eq_some_iff.1 h;refine Zu4 Mail.row ex8 hall rfl trivial rfl rfl rfl ?_;dsimp only [go_sem]
     refine Zt3 16 rfl ?_;refine Zy3 hall rfl trivial ?_;dsimp only [go_sem];refine Zs3 rfl ?_ _;obtain rfl:=Option.some.inj h;exact Zv5 Z7e rfl (by simp [go_sem])
   ·refine Zx5 hall Side.row ex7 rfl trivial rfl rfl rfl ?_;dsimp only [go_sem];refine Zu3 0 11 rfl ?_ ?_
    ·refine Zy3 hall rfl trivial ?_;dsimp only [go_sem];refine Zt3 11 rfl ?_;refine Zx5 hall Side.row ex7 rfl trivial rfl rfl rfl ?_;dsimp only [go_sem];refine Zh5 hall hs haf hnap 2 3 ?_;dsimp only [go_sem];refine ⟨by simp,?_⟩;refine Zt3 14 rfl ?_;refine Zy3 hall rfl trivial ?_;dsimp only [go_sem];refine Zt3 15 rfl ?_;obtain ⟨x8,ex8,h⟩:=Option.bind_eq_some_iff.1 h;refine Zu4 Mail.row ex8 hall rfl trivial rfl rfl rfl ?_;dsimp only [go_sem];refine Zt3 16 rfl ?_;refine Zy3 hall rfl trivial ?_;dsimp only [go_sem];refine Zs3 rfl ?_ _
     obtain rfl:=Option.some.inj h;exact Zv5 Z7e rfl (by simp [go_sem])
    ·refine Zx5 hall Side.row ex7 rfl trivial rfl rfl rfl ?_;dsimp only [go_sem];refine Zh5 hall hs haf hnap 2 4 ?_;dsimp only [go_sem];refine ⟨by simp,?_⟩;refine Zu3 0 14 rfl ?_ ?_
     ·refine Zy3 hall rfl trivial ?_;dsimp only [go_sem];refine Zt3 14 rfl ?_;refine Zy3 hall rfl trivial ?_;dsimp only [go_sem];refine Zt3 15 rfl ?_;obtain ⟨x8,ex8,h⟩:=Option.bind_eq_some_iff.1 h;refine Zu4 Mail.row ex8 hall rfl trivial rfl rfl rfl ?_;dsimp only [go_sem];refine Zt3 16 rfl ?_;refine Zy3 hall rfl trivial ?_;dsimp only [go_sem];refine Zs3 rfl ?_ _;obtain rfl:=Option.some.inj h;exact Zv5 Z7e rfl (by simp [go_sem])
     ·refine Zy3 hall rfl trivial ?_;dsimp only [go_sem];refine Zt3 0 rfl ?_;refine Zy3 hall rfl trivial ?_;dsimp only [go_sem];refine Zt3 15 rfl ?_;obtain ⟨x8,ex8,h⟩:=Option.bind_eq_some_iff.1 h;refine Zu4 Mail.row ex8 hall rfl trivial rfl rfl rfl ?_;dsimp only [go_sem];refine Zt3 16 rfl ?_;refine Zy3 hall rfl trivial ?_;dsimp only [go_sem];refine Zs3 rfl ?_ _;obtain rfl:=Option.some.inj h;exact Zv5 Z7e rfl (by simp [go_sem])
   ·refine Zx5 hall Side.row ex7 rfl trivial rfl rfl rfl ?_;dsimp only [go_sem];refine Zh5 hall hs haf hnap 1 6 ?_;dsimp only [go_sem];refine ⟨by simp,?_⟩;refine Zu3 0 6 rfl ?_ ?_
    ·refine Zy3 hall rfl trivial ?_;dsimp only [go_sem];refine Zt3 6 rfl ?_;refine Zx5 hall Side.row ex7 rfl trivial rfl rfl rfl ?_;dsimp only [go_sem];refine Zh5 hall hs haf hnap 1 3 ?_;dsimp only [go_sem];refine ⟨by simp,?_⟩;refine Zt3 14 rfl ?_;refine Zy3 hall rfl trivial ?_;dsimp only [go_sem];refine Zt3 15 rfl ?_;obtain ⟨x8,ex8,h⟩:=Option.bind_eq_some_iff.1 h;refine Zu4 Mail.row ex8 hall rfl trivial rfl rfl rfl ?_;dsimp only [go_sem];refine Zt3 16 rfl ?_;refine Zy3 hall rfl trivial ?_;dsimp only [go_sem];refine Zs3 rfl ?_ _
     obtain rfl:=Option.some.inj h;exact Zv5 Z7e rfl (by simp [go_sem])
    ·refine Zx5 hall Side.row ex7 rfl trivial rfl rfl rfl ?_;dsimp only [go_sem];refine Zh5 hall hs haf hnap 1 4 ?_;dsimp only [go_sem];refine ⟨by simp,?_⟩;refine Zu3 0 14 rfl ?_ ?_
     ·refine Zy3 hall rfl trivial ?_;dsimp only [go_sem];refine Zt3 14 rfl ?_;refine Zy3 hall rfl trivial ?_;dsimp only [go_sem];refine Zt3 15 rfl ?_;obtain ⟨x8,ex8,h⟩:=Option.bind_eq_some_iff.1 h;refine Zu4 Mail.row ex8 hall rfl trivial rfl rfl rfl ?_;dsimp only [go_sem];refine Zt3 16 rfl ?_;refine Zy3 hall rfl trivial ?_;dsimp only [go_sem];refine Zs3 rfl ?_ _;obtain rfl:=Option.some.inj h;exact Zv5 Z7e rfl (by simp [go_sem])
     ·refine Zy3 hall rfl trivial ?_;dsimp only [go_sem];refine Zt3 0 rfl ?_;refine Zy3 hall rfl trivial ?_;dsimp only [go_sem];refine Zt3 15 rfl ?_;obtain ⟨x8,ex8,h⟩:=Option.bind_eq_some_iff.1 h;refine Zu4 Mail.row ex8 hall rfl trivial rfl rfl rfl ?_;dsimp only [go_sem];refine Zt3 16 rfl ?_;refine Zy3 hall rfl trivial ?_;dsimp only [go_sem];refine Zs3 rfl ?_ _;obtain rfl:=Option.some.inj h;exact Zv5 Z7e rfl (by simp [go_sem])
 ·refine Zy3 hall rfl trivial ?_;dsimp only [go_sem];refine Zh5 hall hs haf hnap 2 11 ?_;dsimp only [go_sem];refine ⟨by simp,?_⟩;obtain ⟨x7,ex7,h⟩:=Option.bind_eq_some_iff.1 h;refine Zv3 0 3 11 rfl ?_ ?_ ?_
  ·refine Zy3 hall rfl trivial ?_;dsimp only [go_sem];refine Zu3 3 11 rfl ?_ ?_
   ·refine Zy3 hall rfl trivial ?_;dsimp only [go_sem];refine Zh5 hall hs haf hnap 2 7 ?_;dsimp only [go_sem];refine ⟨by simp,?_⟩;refine Zu3 6 11 rfl ?_ ?_
    ·refine Zx5 hall Side.row ex7 rfl trivial rfl rfl rfl ?_;dsimp only [go_sem];refine Zt3 11 rfl ?_;refine Zx5 hall Side.row ex7 rfl trivial rfl rfl rfl ?_;dsimp only [go_sem];refine Zh5 hall hs haf hnap 2 3 ?_;dsimp only [go_sem];refine ⟨by simp,?_⟩;refine Zt3 14 rfl ?_;refine Zy3 hall rfl trivial ?_;dsimp only [go_sem];refine Zt3 15 rfl ?_;obtain ⟨x8,ex8,h⟩:=Option.bind_eq_some_iff.1 h;refine Zu4 Mail.row ex8 hall rfl trivial rfl rfl rfl ?_;dsimp only [go_sem];refine Zt3 16 rfl ?_;refine Zy3 hall rfl trivial ?_;dsimp only [go_sem]
     refine Zs3 rfl ?_ _;obtain rfl:=Option.some.inj h;exact Zv5 Z7e rfl (by simp [go_sem])
    ·refine Zx5 hall Side.row ex7 rfl trivial rfl rfl rfl ?_;dsimp only [go_sem];refine Zh5 hall hs haf hnap 1 5 ?_;dsimp only [go_sem];refine ⟨by simp,?_⟩;refine Zt3 6 rfl ?_;refine Zx5 hall Side.row ex7 rfl trivial rfl rfl rfl ?_;dsimp only [go_sem];refine Zh5 hall hs haf hnap 1 3 ?_;dsimp only [go_sem];refine ⟨by simp,?_⟩;refine Zt3 14 rfl ?_;refine Zy3 hall rfl trivial ?_;dsimp only [go_sem];refine Zt3 15 rfl ?_;obtain ⟨x8,ex8,h⟩:=Option.bind_eq_some_iff.1 h;refine Zu4 Mail.row ex8 hall rfl trivial rfl rfl rfl ?_;dsimp only [go_sem]
     refine Zt3 16 rfl ?_;refine Zy3 hall rfl trivial ?_;dsimp only [go_sem];refine Zs3 rfl ?_ _;obtain rfl:=Option.some.inj h;exact Zv5 Z7e rfl (by simp [go_sem])
   ·refine Zx5 hall Side.row ex7 rfl trivial rfl rfl rfl ?_;dsimp only [go_sem];refine Zh5 hall hs haf hnap 1 8 ?_;dsimp only [go_sem];refine ⟨by simp,?_⟩;refine Zt3 3 rfl ?_;refine Zy3 hall rfl trivial ?_;dsimp only [go_sem];refine Zh5 hall hs haf hnap 2 5 ?_;dsimp only [go_sem];refine ⟨by simp,?_⟩;refine Zt3 6 rfl ?_;refine Zx5 hall Side.row ex7 rfl trivial rfl rfl rfl ?_;dsimp only [go_sem];refine Zh5 hall hs haf hnap 1 3 ?_;dsimp only [go_sem];refine ⟨by simp,?_⟩;refine Zt3 14 rfl ?_;refine Zy3 hall rfl trivial ?_;dsimp only [go_sem]
    refine Zt3 15 rfl ?_;obtain ⟨x8,ex8,h⟩:=Option.bind_eq_some_iff.1 h;refine Zu4 Mail.row ex8 hall rfl trivial rfl rfl rfl ?_;dsimp only [go_sem];refine Zt3 16 rfl ?_;refine Zy3 hall rfl trivial ?_;dsimp only [go_sem];refine Zs3 rfl ?_ _;obtain rfl:=Option.some.inj h;exact Zv5 Z7e rfl (by simp [go_sem])
  ·refine Zy3 hall rfl trivial ?_;dsimp only [go_sem];refine Zh5 hall hs haf hnap 2 8 ?_;dsimp only [go_sem];refine ⟨by simp,?_⟩;refine Zv3 0 6 11 rfl ?_ ?_ ?_
   ·refine Zy3 hall rfl trivial ?_;dsimp only [go_sem];refine Zu3 6 11 rfl ?_ ?_
    ·refine Zx5 hall Side.row ex7 rfl trivial rfl rfl rfl ?_;dsimp only [go_sem];refine Zt3 11 rfl ?_;refine Zx5 hall Side.row ex7 rfl trivial rfl rfl rfl ?_;dsimp only [go_sem];refine Zh5 hall hs haf hnap 2 3 ?_;dsimp only [go_sem];refine ⟨by simp,?_⟩;refine Zt3 14 rfl ?_;refine Zy3 hall rfl trivial ?_;dsimp only [go_sem];refine Zt3 15 rfl ?_;obtain ⟨x8,ex8,h⟩:=Option.bind_eq_some_iff.1 h;refine Zu4 Mail.row ex8 hall rfl trivial rfl rfl rfl ?_;dsimp only [go_sem];refine Zt3 16 rfl ?_;refine Zy3 hall rfl trivial ?_;dsimp only [go_sem]
     refine Zs3 rfl ?_ _;obtain rfl:=Option.some.inj h;exact Zv5 Z7e rfl (by simp [go_sem])
    ·refine Zx5 hall Side.row ex7 rfl trivial rfl rfl rfl ?_;dsimp only [go_sem];refine Zh5 hall hs haf hnap 1 5 ?_;dsimp only [go_sem];refine ⟨by simp,?_⟩;refine Zt3 6 rfl ?_;refine Zx5 hall Side.row ex7 rfl trivial rfl rfl rfl ?_;dsimp only [go_sem];refine Zh5 hall hs haf hnap 1 3 ?_;dsimp only [go_sem];refine ⟨by simp,?_⟩;refine Zt3 14 rfl ?_;refine Zy3 hall rfl trivial ?_;dsimp only [go_sem];refine Zt3 15 rfl ?_;obtain ⟨x8,ex8,h⟩:=Option.bind_eq_some_iff.1 h;refine Zu4 Mail.row ex8 hall rfl trivial rfl rfl rfl ?_;dsimp only [go_sem]
     refine Zt3 16 rfl ?_;refine Zy3 hall rfl trivial ?_;dsimp only [go_sem];refine Zs3 rfl ?_ _;obtain rfl:=Option.some.inj h;exact Zv5 Z7e rfl (by simp [go_sem])
   ·refine Zx5 hall Side.row ex7 rfl trivial rfl rfl rfl ?_;dsimp only [go_sem];refine Zu3 0 11 rfl ?_ ?_
    ·refine Zy3 hall rfl trivial ?_;dsimp only [go_sem];refine Zt3 11 rfl ?_;refine Zx5 hall Side.row ex7 rfl trivial rfl rfl rfl ?_;dsimp only [go_sem];refine Zh5 hall hs haf hnap 2 3 ?_;dsimp only [go_sem];refine ⟨by simp,?_⟩;refine Zt3 14 rfl ?_;refine Zy3 hall rfl trivial ?_;dsimp only [go_sem];refine Zt3 15 rfl ?_;obtain ⟨x8,ex8,h⟩:=Option.bind_eq_some_iff.1 h;refine Zu4 Mail.row ex8 hall rfl trivial rfl rfl rfl ?_;dsimp only [go_sem];refine Zt3 16 rfl ?_;refine Zy3 hall rfl trivial ?_;dsimp only [go_sem];refine Zs3 rfl ?_ _
     obtain rfl:=Option.some.inj h;exact Zv5 Z7e rfl (by simp [go_sem])
    ·refine Zx5 hall Side.row ex7 rfl trivial rfl rfl rfl ?_;dsimp only [go_sem];refine Zh5 hall hs haf hnap 2 4 ?_;dsimp only [go_sem];refine ⟨by simp,?_⟩;refine Zu3 0 14 rfl ?_ ?_
     ·refine Zy3 hall rfl trivial ?_;dsimp only [go_sem];refine Zt3 14 rfl ?_;refine Zy3 hall rfl trivial ?_;dsimp only [go_sem];refine Zt3 15 rfl ?_;obtain ⟨x8,ex8,h⟩:=Option.bind_eq_some_iff.1 h;refine Zu4 Mail.row ex8 hall rfl trivial rfl rfl rfl ?_;dsimp only [go_sem];refine Zt3 16 rfl ?_;refine Zy3 hall rfl trivial ?_;dsimp only [go_sem];refine Zs3 rfl ?_ _;obtain rfl:=Option.some.inj h;exact Zv5 Z7e rfl (by simp [go_sem])
     ·refine Zy3 hall rfl trivial ?_;dsimp only [go_sem];refine Zt3 0 rfl ?_;refine Zy3 hall rfl trivial ?_;dsimp only [go_sem];refine Zt3 15 rfl ?_;obtain ⟨x8,ex8,h⟩:=Option.bind_eq_some_iff.1 h;refine Zu4 Mail.row ex8 hall rfl trivial rfl rfl rfl ?_;dsimp only [go_sem];refine Zt3 16 rfl ?_;refine Zy3 hall rfl trivial ?_;dsimp only [go_sem];refine Zs3 rfl ?_ _;obtain rfl:=Option.some.inj h;exact Zv5 Z7e rfl (by simp [go_sem])
   ·refine Zx5 hall Side.row ex7 rfl trivial rfl rfl rfl ?_;dsimp only [go_sem];refine Zh5 hall hs haf hnap 1 6 ?_;dsimp only [go_sem];refine ⟨by simp,?_⟩;refine Zu3 0 6 rfl ?_ ?_
    ·refine Zy3 hall rfl trivial ?_;dsimp only [go_sem];refine Zt3 6 rfl ?_;refine Zx5 hall Side.row ex7 rfl trivial rfl rfl rfl ?_;dsimp only [go_sem];refine Zh5 hall hs haf hnap 1 3 ?_;dsimp only [go_sem];refine ⟨by simp,?_⟩;refine Zt3 14 rfl ?_;refine Zy3 hall rfl trivial ?_;dsimp only [go_sem];refine Zt3 15 rfl ?_;obtain ⟨x8,ex8,h⟩:=Option.bind_eq_some_iff.1 h;refine Zu4 Mail.row ex8 hall rfl trivial rfl rfl rfl ?_;dsimp only [go_sem];refine Zt3 16 rfl ?_;refine Zy3 hall rfl trivial ?_;dsimp only [go_sem];refine Zs3 rfl ?_ _
     obtain rfl:=Option.some.inj h;exact Zv5 Z7e rfl (by simp [go_sem])
    ·refine Zx5 hall Side.row ex7 rfl trivial rfl rfl rfl ?_;dsimp only [go_sem];refine Zh5 hall hs haf hnap 1 4 ?_;dsimp only [go_sem];refine ⟨by simp,?_⟩;refine Zu3 0 14 rfl ?_ ?_
     ·refine Zy3 hall rfl trivial ?_;dsimp only [go_sem];refine Zt3 14 rfl ?_;refine Zy3 hall rfl trivial ?_;dsimp only [go_sem];refine Zt3 15 rfl ?_;obtain ⟨x8,ex8,h⟩:=Option.bind_eq_some_iff.1 h;refine Zu4 Mail.row ex8 hall rfl trivial rfl rfl rfl ?_;dsimp only [go_sem];refine Zt3 16 rfl ?_;refine Zy3 hall rfl trivial ?_;dsimp only [go_sem];refine Zs3 rfl ?_ _;obtain rfl:=Option.some.inj h;exact Zv5 Z7e rfl (by simp [go_sem])
     ·refine Zy3 hall rfl trivial ?_;dsimp only [go_sem];refine Zt3 0 rfl ?_;refine Zy3 hall rfl trivial ?_;dsimp only [go_sem];refine Zt3 15 rfl ?_;obtain ⟨x8,ex8,h⟩:=Option.bind_eq_some_iff.1 h;refine Zu4 Mail.row ex8 hall rfl trivial rfl rfl rfl ?_;dsimp only [go_sem];refine Zt3 16 rfl ?_;refine Zy3 hall rfl trivial ?_;dsimp only [go_sem];refine Zs3 rfl ?_ _;obtain rfl:=Option.some.inj h;exact Zv5 Z7e rfl (by simp [go_sem])
  ·refine Zx5 hall Side.row ex7 rfl trivial rfl rfl rfl ?_;dsimp only [go_sem];refine Zh5 hall hs haf hnap 1 9 ?_;dsimp only [go_sem];refine ⟨by simp,?_⟩;refine Zu3 0 3 rfl ?_ ?_
   ·refine Zy3 hall rfl trivial ?_;dsimp only [go_sem];refine Zt3 3 rfl ?_;refine Zy3 hall rfl trivial ?_;dsimp only [go_sem];refine Zh5 hall hs haf hnap 2 5 ?_;dsimp only [go_sem];refine ⟨by simp,?_⟩;refine Zt3 6 rfl ?_;refine Zx5 hall Side.row ex7 rfl trivial rfl rfl rfl ?_;dsimp only [go_sem];refine Zh5 hall hs haf hnap 1 3 ?_;dsimp only [go_sem];refine ⟨by simp,?_⟩;refine Zt3 14 rfl ?_;refine Zy3 hall rfl trivial ?_;dsimp only [go_sem];refine Zt3 15 rfl ?_;obtain ⟨x8,ex8,h⟩:=Option.bind_eq_some_iff.1 h
    refine Zu4 Mail.row ex8 hall rfl trivial rfl rfl rfl ?_;dsimp only [go_sem];refine Zt3 16 rfl ?_;refine Zy3 hall rfl trivial ?_;dsimp only [go_sem];refine Zs3 rfl ?_ _;obtain rfl:=Option.some.inj h;exact Zv5 Z7e rfl (by simp [go_sem])
   ·refine Zy3 hall rfl trivial ?_;dsimp only [go_sem];refine Zh5 hall hs haf hnap 2 6 ?_;dsimp only [go_sem];refine ⟨by simp,?_⟩;refine Zu3 0 6 rfl ?_ ?_
    ·refine Zy3 hall rfl trivial ?_;dsimp only [go_sem];refine Zt3 6 rfl ?_;refine Zx5 hall Side.row ex7 rfl trivial rfl rfl rfl ?_;dsimp only [go_sem];refine Zh5 hall hs haf hnap 1 3 ?_;dsimp only [go_sem];refine ⟨by simp,?_⟩;refine Zt3 14 rfl ?_;refine Zy3 hall rfl trivial ?_;dsimp only [go_sem];refine Zt3 15 rfl ?_;obtain ⟨x8,ex8,h⟩:=Option.bind_eq_some_iff.1 h;refine Zu4 Mail.row ex8 hall rfl trivial rfl rfl rfl ?_;dsimp only [go_sem];refine Zt3 16 rfl ?_;refine Zy3 hall rfl trivial ?_;dsimp only [go_sem];refine Zs3 rfl ?_ _
     obtain rfl:=Option.some.inj h;exact Zv5 Z7e rfl (by simp [go_sem])
    ·refine Zx5 hall Side.row ex7 rfl trivial rfl rfl rfl ?_;dsimp only [go_sem];refine Zh5 hall hs haf hnap 1 4 ?_;dsimp only [go_sem];refine ⟨by simp,?_⟩;refine Zu3 0 14 rfl ?_ ?_
     ·refine Zy3 hall rfl trivial ?_;dsimp only [go_sem];refine Zt3 14 rfl ?_;refine Zy3 hall rfl trivial ?_;dsimp only [go_sem];refine Zt3 15 rfl ?_;obtain ⟨x8,ex8,h⟩:=Option.bind_eq_some_iff.1 h;refine Zu4 Mail.row ex8 hall rfl trivial rfl rfl rfl ?_;dsimp only [go_sem];refine Zt3 16 rfl ?_;refine Zy3 hall rfl trivial ?_;dsimp only [go_sem];refine Zs3 rfl ?_ _;obtain rfl:=Option.some.inj h;exact Zv5 Z7e rfl (by simp [go_sem])
     ·refine Zy3 hall rfl trivial ?_;dsimp only [go_sem];refine Zt3 0 rfl ?_;refine Zy3 hall rfl trivial ?_;dsimp only [go_sem];refine Zt3 15 rfl ?_;obtain ⟨x8,ex8,h⟩:=Option.bind_eq_some_iff.1 h;refine Zu4 Mail.row ex8 hall rfl trivial rfl rfl rfl ?_;dsimp only [go_sem];refine Zt3 16 rfl ?_;refine Zy3 hall rfl trivial ?_;dsimp only [go_sem];refine Zs3 rfl ?_ _;obtain rfl:=Option.some.inj h;exact Zv5 Z7e rfl (by simp [go_sem])
def Zhe (_F:Nat) (x1:Int) (x2:Int) (_x3:Int) (x4:Int) (x5:(List Side)) (x6:(List Mail)):Option (List Mail):=
 (at_ x5 x4).bind fun x7=>
 (Za4 40 x6 ([(Mail.mk x2 x7.Peer ((Msg.mk x1 x7.Epoch 0)))])).bind fun x8=>
 some x8
theorem Zie {F:Nat} {x1:Int} {x2:Int} {x3:Int} {x4:Int} {x5:(List Side)} {x6:(List Mail)}:ole (Zhe F x1 x2 x3 x4 x5 x6) (Zfe x1 x2 x3 x4 x5 x6):=by
 unfold Zhe Zfe
 with_reducible repeat' first | exact Zf4 _ | assumption | intro _ | refine Zg4 ?_ ?_ | refine Zh4 ?_ ?_ | refine Zi4 ?_ | refine Zj4 ?_
noncomputable def Zje (x1:Diner) (x50:(List Mail)):(Int×(List Side))→Option (Diner×(List Mail)×Int)
| (x65,x66)=>
 some ((Diner.mk x1.ID x65 x66),x50,0)
noncomputable def Zke (x1:Diner) (x49:(List Side)) (x50:(List Mail)):(Int×(List Side))→Option ((Int×(List Side)) ⊕ (Diner×(List Mail)×Int))
| (x55,x56)=>
 ifb (decide (x55<(ln Side.row x49))) (
 (at_ x56 x55).bind fun x57=>
 some (.inl (wr (x55+1),x56.set (x55).toNat ((Side.mk x57.Peer x57.Epoch x57.State x57.Fork true x57.Token x57.Bottle x57.Ask))))) (
 Option.map Sum.inr ((Zje x1 x50) (2,x56)))
noncomputable def Zle (x1:Diner) (x49:(List Side)) (x50:(List Mail)):Bool→Option (Diner×(List Mail)×Int)
| x51=>
 ifb x51 (
 loop (Zke x1 x49 x50) (0,x49)) (
 (Zje x1 x50) (x1.Phase,x49))
noncomputable def Zme (x1:Diner):(Bool×(List Side)×(List Mail))→Option (Diner×(List Mail)×Int)
| (x48,x49,x50)=>
 ifb (decide (x1.Phase=1)) (
 (Zle x1 x49 x50) x48) (
 (Zle x1 x49 x50) false)
noncomputable def Zne (x21:Int) (x33:(List Side)) (x34:(List Mail)):Bool→Option ((Bool×Int×(List Side)×(List Mail)) ⊕ (Diner×(List Mail)×Int))
| x36=>
 some (.inl (x36,wr (x21+1),x33,x34))
noncomputable def Zoe (x20:Bool) (x21:Int):((List Side)×(List Mail))→Option ((Bool×Int×(List Side)×(List Mail)) ⊕ (Diner×(List Mail)×Int))
| (x33,x34)=>
 ifb x20 (
 (at_ x33 x21).bind fun x35=>
 (Zne x21 x33 x34) x35.Fork) (
 (Zne x21 x33 x34) false)
noncomputable def Zpe (x1:Diner) (x20:Bool) (x21:Int) (x27:(List Side)) (x28:(List Mail)):Bool→Option ((Bool×Int×(List Side)×(List Mail)) ⊕ (Diner×(List Mail)×Int))
| x30=>
 ifb x30 (
 (at_ x27 x21).bind fun x31=>
 (Zfe 2 x1.ID x1.Phase x21 (x27.set (x21).toNat ((Side.mk x31.Peer x31.Epoch x31.State x31.Fork x31.Dirty false x31.Bottle x31.Ask))) x28).bind fun x32=>
 (Zoe x20 x21) ((x27.set (x21).toNat ((Side.mk x31.Peer x31.Epoch x31.State x31.Fork x31.Dirty false x31.Bottle x31.Ask))),x32)) (
 (Zoe x20 x21) (x27,x28))
noncomputable def Zqe (x1:Diner) (x20:Bool) (x21:Int):((List Side)×(List Mail))→Option ((Bool×Int×(List Side)×(List Mail)) ⊕ (Diner×(List Mail)×Int))
| (x27,x28)=>
 ifb (decide (x1.Phase=1)) (
 (at_ x27 x21).bind fun x29=>
 ifb x29.Token (
 (Zpe x1 x20 x21 x27 x28) (!x29.Fork)) (
 (Zpe x1 x20 x21 x27 x28) false)) (
 (Zpe x1 x20 x21 x27 x28) false)
noncomputable def Zre (x1:Diner) (x20:Bool) (x21:Int) (x22:(List Side)) (x23:(List Mail)) (x24:Side):Bool→Option ((Bool×Int×(List Side)×(List Mail)) ⊕ (Diner×(List Mail)×Int))
| x25=>
 ifb x25 (
 (Zfe 1 x1.ID x1.Phase x21 (x22.set (x21).toNat ((Side.mk x24.Peer x24.Epoch x24.State false false x24.Token x24.Bottle x24.Ask))) x23).bind fun x26=>
 (Zqe x1 x20 x21) ((x22.set (x21).toNat ((Side.mk x24.Peer x24.Epoch x24.State false false x24.Token x24.Bottle x24.Ask))),x26)) (
 (Zqe x1 x20 x21) (x22,x23))
noncomputable def Zse (x1:Diner) (x3:(List Side)):(Bool×Int×(List Side)×(List Mail))→Option ((Bool×Int×(List Side)×(List Mail)) ⊕ (Diner×(List Mail)×Int))
| (x20,x21,x22,x23)=>
 ifb (decide (x21<(ln Side.row x3))) (
 (at_ x22 x21).bind fun x24=>
 ifb x24.Fork (
 ifb x24.Dirty (
 ifb x24.Token (
 (Zre x1 x20 x21 x22 x23 x24) (!decide (x1.Phase=2))) (
 (Zre x1 x20 x21 x22 x23 x24) false)) (
 (Zre x1 x20 x21 x22 x23 x24) false)) (
 (Zre x1 x20 x21 x22 x23 x24) false)) (
 Option.map Sum.inr ((Zme x1) (x20,x22,x23)))
noncomputable def Zte (x1:Diner):Option (Diner×(List Mail)×Int):=
 (Zpd x1).bind fun x2=>
 ifb (!decide (x2=0)) (
 some ((Diner.mk 0 0 (([]:(List Side)))),([]:(List Mail)),x2)) (
 (Zrd x1.Sides).bind fun x3=>
 loop (Zse x1 x3) (true,0,x3,([]:List Mail)))
theorem k_dine_Fire (x1:Diner) (r:(Diner×(List Mail)×Int)) (h:Zte x1=some r):Zq2 Try.prog 120 [.agg (Diner.row x1)] (.tup [.agg (Diner.row r.1),.sl 5 (List.map Mail.row r.2.1),.iv r.2.2]):=by
 refine Zu2 ok120 rfl rfl fun w0 H0=>?_
 rw [Zte] at h
 refine Zl2 11 ?_;dsimp only [Zae,Z9e,Z8e,go_sem];refine ⟨by simp,?_⟩;obtain ⟨x2,ex2,h⟩:=Option.bind_eq_some_iff.1 h;refine Zz2 trivial (Zqd x1 _ ex2) (h:=?_);refine Zl2 7 ?_;dsimp only [Zae,Z9e,Z8e,go_sem];refine ⟨by simp,?_⟩;refine Zn4 h rfl (fun _ h=>?_) fun _ h=>?_
 ·refine Zl2 8 ?_;dsimp only [Zae,Z9e,Z8e,go_sem];refine ⟨by simp,?_⟩;exact Zx4 (res:=fun (r:(Diner×(List Mail)×Int))=>.tup [.agg (Diner.row r.1),.sl 5 (List.map Mail.row r.2.1),.iv r.2.2]) ok120 h
 ·refine Zl2 5 ?_;dsimp only [Zae,Z9e,Z8e,go_sem];refine ⟨by simp,?_⟩;obtain ⟨x3,ex3,h⟩:=Option.bind_eq_some_iff.1 h;refine Zd5 trivial (Zsd x1.Sides _ ex3) (h:=?_);refine Zl2 19 ?_;dsimp only [Zae,Z9e,Z8e,go_sem];refine ⟨by simp,?_⟩
  refine Zl4 (fun ((x48,x49,x50):(Bool×(List Side)×(List Mail)))=>(⟨(.any :: .ptr 0 0 :: .ptr 1 0::an 3 (.ptr 2 0 :: .bv x48::an 104 [])),[some ⟨39,[.iv x1.ID,.iv x1.Phase,.osl 0]⟩,some ⟨39,[.iv 0,.iv 0,.nl]⟩,some ⟨41,[.osl 1]⟩],[some ⟨49,8,List.map Side.row x49⟩,some ⟨97,5,List.map Mail.row x50⟩]⟩:St)) (Zme x1) r ?_ fun J1=>?_
  ·rintro ⟨x48,x49,x50⟩ h;rw [Zme] at h;(try dsimp only);refine Zl2 7 ?_;dsimp only [Zae,Z9e,Z8e,go_sem];refine ⟨by simp,?_⟩;refine Zl4 (fun (x51:Bool)=>(⟨(.any :: .ptr 0 0 :: .ptr 1 0::an 3 (.ptr 2 0::an 89 (.bv x51::an 15 []))),[some ⟨39,[.iv x1.ID,.iv x1.Phase,.osl 0]⟩,some ⟨39,[.iv 0,.iv 0,.nl]⟩,some ⟨41,[.osl 1]⟩],[some ⟨49,8,List.map Side.row x49⟩,some ⟨97,5,List.map Mail.row x50⟩]⟩:St)) (Zle x1 x49 x50) r ?_ fun J7=>?_
   ·intro x51 h;rw [Zle] at h;(try dsimp only);refine Zl4 (fun ((x65,x66):(Int×(List Side)))=>(⟨(.any :: .ptr 0 0 :: .ptr 1 0::an 3 (.ptr 2 0::an 105 [])),[some ⟨39,[.iv x1.ID,.iv x65,.osl 0]⟩,some ⟨39,[.iv 0,.iv 0,.nl]⟩,some ⟨41,[.osl 1]⟩],[some ⟨49,8,List.map Side.row x66⟩,some ⟨97,5,List.map Mail.row x50⟩]⟩:St)) (Zje x1 x50) r ?_ fun J8=>?_
    ·rintro ⟨x65,x66⟩ h;rw [Zje] at h;(try dsimp only);refine Zl2 1 ?_;dsimp only [Zae,Z9e,Z8e,go_sem];refine ⟨by simp,?_⟩;refine Zh3 (by kernel_rfl) fun all hall hs hnap haf=>?_;dsimp only [go_sem];refine Zu3 0 1 rfl ?_ ?_
     ·refine Zy3 hall rfl trivial ?_;dsimp only [go_sem];refine Zu3 1 2 rfl ?_ ?_
      ·refine Zy3 hall rfl trivial ?_;dsimp only [go_sem];refine Zt3 2 rfl ?_;refine Zy3 hall rfl trivial ?_;dsimp only [go_sem];refine Zh5 hall hs haf hnap 2 0 ?_;dsimp only [go_sem];refine ⟨by simp,?_⟩;refine Zs3 rfl ?_ _;refine Z83 0 rfl ?_;dsimp only [go_sem];refine Z83 1 rfl ?_;dsimp only [go_sem];exact Zx4 (res:=fun (r:(Diner×(List Mail)×Int))=>.tup [.agg (Diner.row r.1),.sl 5 (List.map Mail.row r.2.1),.iv r.2.2]) ok120 h
      ·refine Zy3 hall rfl trivial ?_;dsimp only [go_sem];refine Zt3 1 rfl ?_;refine Zy3 hall rfl trivial ?_;dsimp only [go_sem];refine Zh5 hall hs haf hnap 2 0 ?_;dsimp only [go_sem];refine ⟨by simp,?_⟩;refine Zs3 rfl ?_ _;refine Z83 0 rfl ?_;dsimp only [go_sem];refine Z83 1 rfl ?_;dsimp only [go_sem];exact Zx4 (res:=fun (r:(Diner×(List Mail)×Int))=>.tup [.agg (Diner.row r.1),.sl 5 (List.map Mail.row r.2.1),.iv r.2.2]) ok120 h
     ·refine Zy3 hall rfl trivial ?_;dsimp only [go_sem];refine Zt3 0 rfl ?_;refine Zy3 hall rfl trivial ?_;dsimp only [go_sem];refine Zt3 2 rfl ?_;refine Zy3 hall rfl trivial ?_;dsimp only [go_sem];refine Zh5 hall hs haf hnap 2 0 ?_;dsimp only [go_sem];refine ⟨by simp,?_⟩;refine Zs3 rfl ?_ _;refine Z83 0 rfl ?_;dsimp only [go_sem];refine Z83 1 rfl ?_;dsimp only [go_sem];exact Zx4 (res:=fun (r:(Diner×(List Mail)×Int))=>.tup [.agg (Diner.row r.1),.sl 5 (List.map Mail.row r.2.1),.iv r.2.2]) ok120 h
    ·refine Zn4 h rfl (fun _ h=>?_) fun _ h=>?_
     ·refine Zl2 13 ?_;dsimp only [Zae,Z9e,Z8e,go_sem];refine ⟨by simp,?_⟩;refine Zm4 h (fun ((x55,x56):(Int×(List Side)))=>(⟨(.any :: .ptr 0 0 :: .ptr 1 0::an 3 (.ptr 2 0::an 93 (.iv (ln Side.row x49) :: .iv x55::an 10 []))),[some ⟨39,[.iv x1.ID,.iv 2,.osl 0]⟩,some ⟨39,[.iv 0,.iv 0,.nl]⟩,some ⟨41,[.osl 1]⟩],[some ⟨49,8,List.map Side.row x56⟩,some ⟨97,5,List.map Mail.row x50⟩]⟩:St)) (by simp [go_sem]) (by rintro ⟨x55,x56⟩;first | rfl | simp [go_sem]) ?_;rintro n1 ⟨x55,x56⟩ y1 h hin1 hout1;rw [Zke] at h;(try dsimp only)
      refine Zl2 5 ?_;dsimp only [Zae,Z9e,Z8e,go_sem];refine ⟨by simp,?_⟩;refine Zn4 h rfl (fun _ h=>?_) fun _ h=>?_
      ·refine Zl2 12 ?_;dsimp only [Zae,Z9e,Z8e,go_sem];refine ⟨by simp,?_⟩;obtain ⟨x57,ex57,h⟩:=Option.bind_eq_some_iff.1 h;refine Zk5 Side.row ex57 trivial rfl rfl rfl ?_;refine Zl2 1 ?_;dsimp only [Zae,Z9e,Z8e,go_sem];refine ⟨by simp,?_⟩;refine Zp5 [.bv true] Side.row (y':=(Side.mk x57.Peer x57.Epoch x57.State x57.Fork true x57.Token x57.Bottle x57.Ask)) ex57 trivial rfl rfl rfl (by first | exact Z94 _ | simp [go_sem]) rfl rfl rfl rfl ?_;refine Zl2 6 ?_;dsimp only [Zae,Z9e,Z8e,go_sem];refine ⟨by simp,?_⟩
       exact Zy4 h hin1
      ·refine Zl2 1 ?_;dsimp only [Zae,Z9e,Z8e,go_sem];refine ⟨by simp,?_⟩;exact Zz4 J8 (s:=(2,x56)) (Zk4 h hout1)
     ·refine Zl2 1 ?_;dsimp only [Zae,Z9e,Z8e,go_sem];refine ⟨by simp,?_⟩;exact Zz4 J8 (s:=(x1.Phase,x49)) h
   ·refine Zw4 94 h rfl (fun _ h=>?_) fun _ h=>?_
    ·dsimp only [go_sem];refine Zl2 3 ?_;dsimp only [Zae,Z9e,Z8e,go_sem];refine ⟨by simp,?_⟩;exact Zz4 J7 (s:=x48) h
    ·dsimp only [go_sem];refine Zl2 3 ?_;dsimp only [Zae,Z9e,Z8e,go_sem];refine ⟨by simp,?_⟩;exact Zz4 J7 (s:=false) h
  ·refine Zl2 1 ?_;dsimp only [Zae,Z9e,Z8e,go_sem];refine ⟨by simp,?_⟩;refine V_ownB 2 0 97 5 rfl rfl rfl ?_;dsimp only [go_sem]
   refine Zm4 h (fun ((x20,x21,x22,x23):(Bool×Int×(List Side)×(List Mail)))=>(⟨(.any :: .ptr 0 0 :: .ptr 1 0::an 3 (.ptr 2 0 :: .bv x20::an 16 (.iv (ln Side.row x3) :: .iv x21::an 86 []))),[some ⟨39,[.iv x1.ID,.iv x1.Phase,.osl 0]⟩,some ⟨39,[.iv 0,.iv 0,.nl]⟩,some ⟨41,[.osl 1]⟩],[some ⟨49,8,List.map Side.row x22⟩,some ⟨97,5,List.map Mail.row x23⟩]⟩:St)) (by simp [go_sem]) (by rintro ⟨x20,x21,x22,x23⟩;first | rfl | simp [go_sem]) ?_;rintro n1 ⟨x20,x21,x22,x23⟩ y1 h hin1 hout1;rw [Zse] at h;(try dsimp only);refine Zl2 5 ?_
   dsimp only [Zae,Z9e,Z8e,go_sem];refine ⟨by simp,?_⟩;refine Zn4 h rfl (fun _ h=>?_) fun _ h=>?_
   ·refine Zl2 13 ?_;dsimp only [Zae,Z9e,Z8e,go_sem];refine ⟨by simp,?_⟩;obtain ⟨x24,ex24,h⟩:=Option.bind_eq_some_iff.1 h;refine Zk5 Side.row ex24 trivial rfl rfl rfl ?_;refine Zl2 14 ?_;dsimp only [Zae,Z9e,Z8e,go_sem];refine ⟨by simp,?_⟩;refine Zl5 Side.row ex24 trivial rfl rfl rfl ?_;refine Zl2 1 ?_;dsimp only [Zae,Z9e,Z8e,go_sem];refine ⟨by simp,?_⟩
    refine Zl4 (fun (x25:Bool)=>(⟨(.any :: .ptr 0 0 :: .ptr 1 0::an 3 (.ptr 2 0 :: .bv x20 :: .any :: .ptr 3 0 :: .clo 132 [.ptr 2 0,.ptr 0 0,.ptr 3 0]::an 13 (.iv (ln Side.row x3) :: .iv x21::an 27 (.bv x25::an 58 [])))),[some ⟨39,[.iv x1.ID,.iv x1.Phase,.osl 0]⟩,some ⟨39,[.iv 0,.iv 0,.nl]⟩,some ⟨41,[.osl 1]⟩,some ⟨146,[.oel 0 ((x21).toNat*8) 0]⟩],[some ⟨49,8,List.map Side.row x22⟩,some ⟨97,5,List.map Mail.row x23⟩]⟩:St)) (Zre x1 x20 x21 x22 x23 x24) y1 ?_ fun J2=>?_
    ·intro x25 h;rw [Zre] at h;(try dsimp only);refine Zl4 (fun ((x27,x28):((List Side)×(List Mail)))=>(⟨(.any :: .ptr 0 0 :: .ptr 1 0::an 3 (.ptr 2 0 :: .bv x20 :: .any :: .ptr 3 0 :: .clo 132 [.ptr 2 0,.ptr 0 0,.ptr 3 0]::an 13 (.iv (ln Side.row x3) :: .iv x21::an 86 []))),[some ⟨39,[.iv x1.ID,.iv x1.Phase,.osl 0]⟩,some ⟨39,[.iv 0,.iv 0,.nl]⟩,some ⟨41,[.osl 1]⟩,some ⟨146,[.oel 0 ((x21).toNat*8) 0]⟩],[some ⟨49,8,List.map Side.row x27⟩,some ⟨97,5,List.map Mail.row x28⟩]⟩:St)) (Zqe x1 x20 x21) y1 ?_ fun J3=>?_
     ·rintro ⟨x27,x28⟩ h;rw [Zqe] at h;(try dsimp only);refine Zl2 7 ?_;dsimp only [Zae,Z9e,Z8e,go_sem];refine ⟨by simp,?_⟩
      refine Zl4 (fun (x30:Bool)=>(⟨(.any :: .ptr 0 0 :: .ptr 1 0::an 3 (.ptr 2 0 :: .bv x20 :: .any :: .ptr 3 0 :: .clo 132 [.ptr 2 0,.ptr 0 0,.ptr 3 0]::an 13 (.iv (ln Side.row x3) :: .iv x21::an 51 (.bv x30::an 34 [])))),[some ⟨39,[.iv x1.ID,.iv x1.Phase,.osl 0]⟩,some ⟨39,[.iv 0,.iv 0,.nl]⟩,some ⟨41,[.osl 1]⟩,some ⟨146,[.oel 0 ((x21).toNat*8) 0]⟩],[some ⟨49,8,List.map Side.row x27⟩,some ⟨97,5,List.map Mail.row x28⟩]⟩:St)) (Zpe x1 x20 x21 x27 x28) y1 ?_ fun J4=>?_
      ·intro x30 h;rw [Zpe] at h;(try dsimp only);refine Zl4 (fun ((x33,x34):((List Side)×(List Mail)))=>(⟨(.any :: .ptr 0 0 :: .ptr 1 0::an 3 (.ptr 2 0 :: .bv x20 :: .any :: .ptr 3 0::an 14 (.iv (ln Side.row x3) :: .iv x21::an 86 []))),[some ⟨39,[.iv x1.ID,.iv x1.Phase,.osl 0]⟩,some ⟨39,[.iv 0,.iv 0,.nl]⟩,some ⟨41,[.osl 1]⟩,some ⟨146,[.oel 0 ((x21).toNat*8) 0]⟩],[some ⟨49,8,List.map Side.row x33⟩,some ⟨97,5,List.map Mail.row x34⟩]⟩:St)) (Zoe x20 x21) y1 ?_ fun J5=>?_
       ·rintro ⟨x33,x34⟩ h;rw [Zoe] at h;(try dsimp only);refine Zl2 3 ?_;dsimp only [Zae,Z9e,Z8e,go_sem];refine ⟨by simp,?_⟩;refine Zl4 (fun (x36:Bool)=>(⟨(.any :: .ptr 0 0 :: .ptr 1 0::an 3 (.ptr 2 0 :: .bv x36::an 16 (.iv (ln Side.row x3) :: .iv x21::an 86 []))),[some ⟨39,[.iv x1.ID,.iv x1.Phase,.osl 0]⟩,some ⟨39,[.iv 0,.iv 0,.nl]⟩,some ⟨41,[.osl 1]⟩],[some ⟨49,8,List.map Side.row x33⟩,some ⟨97,5,List.map Mail.row x34⟩]⟩:St)) (Zne x21 x33 x34) y1 ?_ fun J6=>?_
        ·intro x36 h;rw [Zne] at h;(try dsimp only);refine Zl2 5 ?_;dsimp only [Zae,Z9e,Z8e,go_sem];refine ⟨by simp,?_⟩;exact Zy4 h hin1
        ·refine Zw4 84 h rfl (fun _ h=>?_) fun _ h=>?_
         ·dsimp only [go_sem];refine Zl2 3 ?_;dsimp only [Zae,Z9e,Z8e,go_sem];refine ⟨by simp,?_⟩;obtain ⟨x35,ex35,h⟩:=Option.bind_eq_some_iff.1 h;refine Zl5 Side.row ex35 trivial rfl rfl rfl ?_;refine Zl2 3 ?_;dsimp only [Zae,Z9e,Z8e,go_sem];refine ⟨by simp,?_⟩;exact Zz4 J6 (s:=x35.Fork) h
         ·dsimp only [go_sem];refine Zl2 7 ?_;dsimp only [Zae,Z9e,Z8e,go_sem];refine ⟨by simp,?_⟩;exact Zz4 J6 (s:=false) h
       ·refine Zn4 h rfl (fun _ h=>?_) fun _ h=>?_
        ·refine Zl2 5 ?_;dsimp only [Zae,Z9e,Z8e,go_sem];refine ⟨by simp,?_⟩;obtain ⟨x31,ex31,h⟩:=Option.bind_eq_some_iff.1 h;refine Zp5 [.bv false] Side.row (y':=(Side.mk x31.Peer x31.Epoch x31.State x31.Fork x31.Dirty false x31.Bottle x31.Ask)) ex31 trivial rfl rfl rfl (by first | exact Z94 _ | simp [go_sem]) rfl rfl rfl rfl ?_;refine Zl2 3 ?_;dsimp only [Zae,Z9e,Z8e,go_sem];refine ⟨by simp,?_⟩;obtain ⟨x32,ex32,h⟩:=Option.bind_eq_some_iff.1 h
         refine Zw5 [true,false,true,true] [true,true] trivial rfl (Zge 2 x1.ID x1.Phase x21 (x27.set (x21).toNat ((Side.mk x31.Peer x31.Epoch x31.State x31.Fork x31.Dirty false x31.Bottle x31.Ask))) x28 _ ex32) (by kernel_rfl) (h:=?_);dsimp only [go_sem];refine Zl2 1 ?_;dsimp only [Zae,Z9e,Z8e,go_sem];refine ⟨by simp,?_⟩;refine Z44 3 1 rfl rfl rfl ?_;dsimp only [go_sem];exact Zz4 J5 (s:=((x27.set (x21).toNat ((Side.mk x31.Peer x31.Epoch x31.State x31.Fork x31.Dirty false x31.Bottle x31.Ask))),x32)) h
        ·refine Zl2 1 ?_;dsimp only [Zae,Z9e,Z8e,go_sem];refine ⟨by simp,?_⟩;exact Zz4 J5 (s:=(x27,x28)) h
      ·refine Zw4 65 h rfl (fun _ h=>?_) fun _ h=>?_
       ·dsimp only [go_sem];refine Zl2 3 ?_;dsimp only [Zae,Z9e,Z8e,go_sem];refine ⟨by simp,?_⟩;obtain ⟨x29,ex29,h⟩:=Option.bind_eq_some_iff.1 h;refine Zl5 Side.row ex29 trivial rfl rfl rfl ?_;refine Zl2 2 ?_;dsimp only [Zae,Z9e,Z8e,go_sem];refine ⟨by simp,?_⟩;refine Zw4 71 h rfl (fun _ h=>?_) fun _ h=>?_
        ·dsimp only [go_sem];refine Zl2 3 ?_;dsimp only [Zae,Z9e,Z8e,go_sem];refine ⟨by simp,?_⟩;refine Zl5 Side.row ex29 trivial rfl rfl rfl ?_;refine Zl2 3 ?_;dsimp only [Zae,Z9e,Z8e,go_sem];refine ⟨by simp,?_⟩;exact Zz4 J4 (s:=!x29.Fork) h
        ·dsimp only [go_sem];refine Zl2 7 ?_;dsimp only [Zae,Z9e,Z8e,go_sem];refine ⟨by simp,?_⟩;exact Zz4 J4 (s:=false) h
       ·dsimp only [go_sem];refine Zl2 13 ?_;dsimp only [Zae,Z9e,Z8e,go_sem];refine ⟨by simp,?_⟩;exact Zz4 J4 (s:=false) h
     ·refine Zn4 h rfl (fun _ h=>?_) fun _ h=>?_
      ·refine Zl2 1 ?_;dsimp only [Zae,Z9e,Z8e,go_sem];refine ⟨by simp,?_⟩;refine Zh3 (by kernel_rfl) fun all hall hs hnap haf=>?_;dsimp only [go_sem];refine Zu3 0 1 rfl ?_ ?_
       ·refine Zy3 hall rfl trivial ?_;dsimp only [go_sem];refine Zh5 hall hs haf hnap 2 5 ?_;dsimp only [go_sem];refine ⟨by simp,?_⟩;refine Zu3 1 4 rfl ?_ ?_
        ·refine Zy3 hall rfl trivial ?_;dsimp only [go_sem];refine Zt3 4 rfl ?_;refine Zy5 hall [.bv false] Side.row (y':=(Side.mk x24.Peer x24.Epoch x24.State false x24.Dirty x24.Token x24.Bottle x24.Ask)) ex24 rfl trivial rfl rfl rfl (by first | exact Z94 _ | simp [go_sem]) rfl rfl rfl rfl ?_;dsimp only [go_sem];refine Zh5 hall hs haf hnap 2 1 ?_;dsimp only [go_sem];refine ⟨by simp,?_⟩;refine Zt3 7 rfl ?_
         refine Zz5 hall [.bv false] Side.row (y':=(Side.mk x24.Peer x24.Epoch x24.State false false x24.Token x24.Bottle x24.Ask)) (at_set ex24) rfl trivial rfl rfl rfl (by first | exact Z94 _ | simp [go_sem]) rfl rfl rfl rfl ?_;dsimp only [go_sem];refine Zs3 rfl ?_ _;refine Zl2 2 ?_;dsimp only [Zae,Z9e,Z8e,go_sem];refine ⟨by simp,?_⟩;obtain ⟨x26,ex26,h⟩:=Option.bind_eq_some_iff.1 h
         refine Zw5 [true,false,true,true] [true,true] trivial rfl (Zge 1 x1.ID x1.Phase x21 (x22.set (x21).toNat ((Side.mk x24.Peer x24.Epoch x24.State false false x24.Token x24.Bottle x24.Ask))) x23 _ ex26) (by kernel_rfl) (h:=?_);dsimp only [go_sem];refine Zl2 1 ?_;dsimp only [Zae,Z9e,Z8e,go_sem];refine ⟨by simp,?_⟩;refine Z44 3 1 rfl rfl rfl ?_;dsimp only [go_sem];exact Zz4 J3 (s:=((x22.set (x21).toNat ((Side.mk x24.Peer x24.Epoch x24.State false false x24.Token x24.Bottle x24.Ask))),x26)) h
        ·refine Zy5 hall [.bv false] Side.row (y':=(Side.mk x24.Peer x24.Epoch x24.State false x24.Dirty x24.Token x24.Bottle x24.Ask)) ex24 rfl trivial rfl rfl rfl (by first | exact Z94 _ | simp [go_sem]) rfl rfl rfl rfl ?_;dsimp only [go_sem];refine Zt3 1 rfl ?_;refine Zy3 hall rfl trivial ?_;dsimp only [go_sem];refine Zh5 hall hs haf hnap 2 1 ?_;dsimp only [go_sem];refine ⟨by simp,?_⟩;refine Zt3 7 rfl ?_
         refine Zz5 hall [.bv false] Side.row (y':=(Side.mk x24.Peer x24.Epoch x24.State false false x24.Token x24.Bottle x24.Ask)) (at_set ex24) rfl trivial rfl rfl rfl (by first | exact Z94 _ | simp [go_sem]) rfl rfl rfl rfl ?_;dsimp only [go_sem];refine Zs3 rfl ?_ _;refine Zl2 2 ?_;dsimp only [Zae,Z9e,Z8e,go_sem];refine ⟨by simp,?_⟩;obtain ⟨x26,ex26,h⟩:=Option.bind_eq_some_iff.1 h
         refine Zw5 [true,false,true,true] [true,true] trivial rfl (Zge 1 x1.ID x1.Phase x21 (x22.set (x21).toNat ((Side.mk x24.Peer x24.Epoch x24.State false false x24.Token x24.Bottle x24.Ask))) x23 _ ex26) (by kernel_rfl) (h:=?_);dsimp only [go_sem];refine Zl2 1 ?_;dsimp only [Zae,Z9e,Z8e,go_sem];refine ⟨by simp,?_⟩;refine Z44 3 1 rfl rfl rfl ?_;dsimp only [go_sem];exact Zz4 J3 (s:=((x22.set (x21).toNat ((Side.mk x24.Peer x24.Epoch x24.State false false x24.Token x24.Bottle x24.Ask))),x26)) h
       ·refine Zy3 hall rfl trivial ?_;dsimp only [go_sem];refine Zt3 0 rfl ?_;refine Zy3 hall rfl trivial ?_;dsimp only [go_sem];refine Zh5 hall hs haf hnap 2 4 ?_;dsimp only [go_sem];refine ⟨by simp,?_⟩;refine Zt3 4 rfl ?_;refine Zy5 hall [.bv false] Side.row (y':=(Side.mk x24.Peer x24.Epoch x24.State false x24.Dirty x24.Token x24.Bottle x24.Ask)) ex24 rfl trivial rfl rfl rfl (by first | exact Z94 _ | simp [go_sem]) rfl rfl rfl rfl ?_;dsimp only [go_sem];refine Zh5 hall hs haf hnap 2 1 ?_;dsimp only [go_sem];refine ⟨by simp,?_⟩
        refine Zt3 7 rfl ?_;refine Zz5 hall [.bv false] Side.row (y':=(Side.mk x24.Peer x24.Epoch x24.State false false x24.Token x24.Bottle x24.Ask)) (at_set ex24) rfl trivial rfl rfl rfl (by first | exact Z94 _ | simp [go_sem]) rfl rfl rfl rfl ?_;dsimp only [go_sem];refine Zs3 rfl ?_ _;refine Zl2 2 ?_;dsimp only [Zae,Z9e,Z8e,go_sem];refine ⟨by simp,?_⟩;obtain ⟨x26,ex26,h⟩:=Option.bind_eq_some_iff.1 h
        refine Zw5 [true,false,true,true] [true,true] trivial rfl (Zge 1 x1.ID x1.Phase x21 (x22.set (x21).toNat ((Side.mk x24.Peer x24.Epoch x24.State false false x24.Token x24.Bottle x24.Ask))) x23 _ ex26) (by kernel_rfl) (h:=?_);dsimp only [go_sem];refine Zl2 1 ?_;dsimp only [Zae,Z9e,Z8e,go_sem];refine ⟨by simp,?_⟩;refine Z44 3 1 rfl rfl rfl ?_;dsimp only [go_sem];exact Zz4 J3 (s:=((x22.set (x21).toNat ((Side.mk x24.Peer x24.Epoch x24.State false false x24.Token x24.Bottle x24.Ask))),x26)) h
      ·refine Zl2 1 ?_;dsimp only [Zae,Z9e,Z8e,go_sem];refine ⟨by simp,?_⟩;exact Zz4 J3 (s:=(x22,x23)) h
    ·refine Zw4 37 h rfl (fun _ h=>?_) fun _ h=>?_
     ·dsimp only [go_sem];refine Zl2 3 ?_;dsimp only [Zae,Z9e,Z8e,go_sem];refine ⟨by simp,?_⟩;refine Zl5 Side.row ex24 trivial rfl rfl rfl ?_;refine Zl2 2 ?_;dsimp only [Zae,Z9e,Z8e,go_sem];refine ⟨by simp,?_⟩;refine Zw4 43 h rfl (fun _ h=>?_) fun _ h=>?_
      ·dsimp only [go_sem];refine Zl2 3 ?_;dsimp only [Zae,Z9e,Z8e,go_sem];refine ⟨by simp,?_⟩;refine Zl5 Side.row ex24 trivial rfl rfl rfl ?_;refine Zl2 2 ?_;dsimp only [Zae,Z9e,Z8e,go_sem];refine ⟨by simp,?_⟩;refine Zw4 49 h rfl (fun _ h=>?_) fun _ h=>?_
       ·dsimp only [go_sem];refine Zl2 5 ?_;dsimp only [Zae,Z9e,Z8e,go_sem];refine ⟨by simp,?_⟩;exact Zz4 J2 (s:=!decide (x1.Phase=2)) h
       ·dsimp only [go_sem];refine Zl2 5 ?_;dsimp only [Zae,Z9e,Z8e,go_sem];refine ⟨by simp,?_⟩;exact Zz4 J2 (s:=false) h
      ·dsimp only [go_sem];refine Zl2 11 ?_;dsimp only [Zae,Z9e,Z8e,go_sem];refine ⟨by simp,?_⟩;exact Zz4 J2 (s:=false) h
     ·dsimp only [go_sem];refine Zl2 17 ?_;dsimp only [Zae,Z9e,Z8e,go_sem];refine ⟨by simp,?_⟩;exact Zz4 J2 (s:=false) h
   ·refine Zl2 1 ?_;dsimp only [Zae,Z9e,Z8e,go_sem];refine ⟨by simp,?_⟩;exact Zz4 J1 (s:=(x20,x22,x23)) (Zk4 h hout1)
def sideD (id q:Int) (x:Side):Bool:=decide (q<x.Peer)&&(!decide (x.Peer=id)&&(decide (0≤x.Epoch)&&(decide (x.Epoch≤65535)&&(decide (0≤x.State)&&(decide (x.State≤3)&&!(x.Dirty&&!x.Fork))))))
def Zue (id:Int):Int→List Side→Bool
 | _,[]=>true
 | q,x::r=>sideD id q x&&Zue id x.Peer r
def okD (d:Diner):Bool:=decide (0≤d.ID)&&(decide (0≤d.Phase)&&(decide (d.Phase≤2)&&(decide (d.Sides.length<64)&&Zue d.ID (-1) d.Sides)))
theorem s_odd (x:Side) (d:Diner) (q:Int):Z2d x d q=some (!sideD d.ID q x):=by
 simp only [Z2d,Z1d,Z0d,sideD]
 by_cases h1:q<x.Peer
 ·by_cases h2:x.Peer=d.ID
  ·have h1':q<d.ID:=h2 ▸ h1
   simp [h2,h1']
  ·by_cases h3:x.Epoch<0
   ·have:¬0≤x.Epoch:=by omega
    simp [h1,h2,h3,this]
   ·have h3':0≤x.Epoch:=by omega
    by_cases h4:65535<x.Epoch
    ·have:¬x.Epoch≤65535:=by omega
     simp [h1,h2,h3,h4,this]
    ·have h4':x.Epoch≤65535:=by omega
     by_cases h5:x.State<0
     ·have:¬0≤x.State:=by omega
      simp [h1,h2,h3,h4,h5,this]
     ·have h5':0≤x.State:=by omega
      by_cases h6:3<x.State
      ·have:¬x.State≤3:=by omega
       simp [h1,h2,h3,h4,h5,h6,this]
      ·have h6':x.State≤3:=by omega
       simp only [h1,h2,h3,h4,h5,h6,h3',h4',h5',h6',decide_true,decide_false,Z36,Z46,Bool.not_true,Bool.not_false,Bool.true_and]
       cases x.Dirty<;>cases x.Fork<;>rfl
 ·simp [h1]
def Zve (id:Int):Nat→Int→List Side→Int×Int
 | _,q,[]=>(-1,q)
 | k,q,x::r=>if sideD id q x then Zve id (k+1) x.Peer r else (k,x.Peer)
theorem scanD_ok (id:Int):∀(l:List Side) (k:Nat) (q:Int),decide (0≤(Zve id k q l).1)=!Zue id q l
 | [],k,q=>by simp [Zve,Zue]
 | x::r,k,q=>by
   by_cases h:sideD id q x=true
   ·have e1:Zve id k q (x::r)=Zve id (k+1) x.Peer r:=by simp [Zve,h]
    rw [e1,scanD_ok id r (k+1) x.Peer]
    simp [Zue,h]
   ·have h':sideD id q x=false:=by simpa using h
    have e1:Zve id k q (x::r)=((k:Int),x.Peer):=by simp [Zve,h']
    rw [e1]
    simp [Zue,h']
def lastQ (q:Int) (pre:List Side):Int:=match pre.getLast? with | some x=>x.Peer | none=>q
theorem Zwe (q:Int) (pre:List Side) (x:Side):lastQ q (pre++[x])=x.Peer:=by simp [lastQ]
theorem Zxe (d:Diner):Zpd d=some (if okD d then 0 else 130):=by
 simp only [Zpd,Zod,okD]
 by_cases h1:d.ID<0
 ·have:¬0≤d.ID:=by omega
  simp [h1,this]
 have h1':0≤d.ID:=by omega
 by_cases h2:d.Phase<0
 ·have:¬0≤d.Phase:=by omega
  simp [h1,h2,this]
 have h2':0≤d.Phase:=by omega
 by_cases h3:2<d.Phase
 ·have:¬d.Phase≤2:=by omega
  simp [h1,h2,h3,this]
 have h3':d.Phase≤2:=by omega
 by_cases h4:64≤d.Sides.length
 ·have h4':(64:Int)≤ln Side.row d.Sides:=by rw [Z65];omega
  have:¬d.Sides.length<64:=by omega
  simp [h1,h2,h3,h4',this]
 have h4':¬(64:Int)≤ln Side.row d.Sides:=by rw [Z65];omega
 have h4'':d.Sides.length<64:=by omega
 simp only [h1,h2,h3,h4',h1',h2',h3',h4'',decide_true,decide_false,Z46,Bool.true_and]
 have key:Zcd d.Sides d (-1)=some (Zve d.ID 0 (-1) d.Sides):=by
  unfold Zcd
  refine Zb9 d.Sides _ (fun pre=>((pre.length:Int),lastQ (-1) pre)) (fun pre post=>some (Zve d.ID pre.length (lastQ (-1) pre) post)) (fun pre x post h=>?_) ?_
  ·have hx:=Zd9 h
   have hm:=Ze9 h
   dsimp only [Zbd]
   rw [Z96 hx,Z36,Z76 hx,Option.bind_some,s_odd,Option.bind_some,Z56]
   cases hs:sideD d.ID (lastQ (-1) pre) x with
   | true=>
     left
     exact ⟨by rw [Z36,Zg9,Zwe,Zb6 (by omega)],by simp [Zve,hs,Zwe]⟩
   | false=>
     right
     exact ⟨_,rfl,by simp [Zve,hs]⟩
  ·dsimp only [Zbd]
   rw [Za6,Z46];rfl
 simp only [Zkd,key,Option.bind_some,scanD_ok]
 cases Zue d.ID (-1) d.Sides<;>rfl
theorem Zye (l:List Side) (hl:l.length≤1000000):Zrd l=some l:=by
 simp only [Zrd]
 rw [Z86 _ _ (by omega) (by simp;omega)];rfl
theorem Zze {d:Diner} (h:okD d=true):d.Sides.length<64:=by
 simp only [okD,Bool.and_eq_true,decide_eq_true_eq] at h;exact h.2.2.2.1
def Z0f:Diner:=⟨0,0,[]⟩
def Z1f (d:Diner) (a b:Int):Diner×Int:=if okD d then (if d.Phase=a then (⟨d.ID,b,d.Sides⟩,0) else (Z0f,134)) else (Z0f,130)
theorem s_turned (d:Diner) (a b:Int):Zwd d a b=some (Z1f d a b):=by
 simp only [Zwd,Zxe,Option.bind_some,Zvd,Z1f]
 cases h:okD d with
 | false=>simp [Zud,Z0f]
 | true=>
   have:=Zze h
   by_cases hp:d.Phase=a
   ·simp [hp,Zud,Zye d.Sides (by omega)]
   ·simp [hp,Zud,Z0f]
theorem s_dStart (d:Diner):Zzd d=some (Z1f d 0 1):=by simp [Zzd,s_turned]
theorem s_dStop (d:Diner):Zyd d=some (Z1f d 2 0):=by simp [Zyd,s_turned]
def Z2f (ph:Int) (x:Side):Side:=if x.Fork&&(x.Dirty&&(x.Token&&!decide (ph=2))) then {x with Fork:=false,Dirty:=false} else x
def Z3f (ph:Int) (x:Side):Side:=if decide (ph=1)&&((Z2f ph x).Token&&!(Z2f ph x).Fork) then {Z2f ph x with Token:=false} else Z2f ph x
def Z4f (id ph:Int) (x:Side):List Mail:=
 (if x.Fork&&(x.Dirty&&(x.Token&&!decide (ph=2))) then [⟨id,x.Peer,⟨1,x.Epoch,0⟩⟩] else []) ++
 (if decide (ph=1)&&((Z2f ph x).Token&&!(Z2f ph x).Fork) then [⟨id,x.Peer,⟨2,x.Epoch,0⟩⟩] else [])
def Z5f (x:Side):Side:= {x with Dirty:=true}
def Z6f (d:Diner):Diner:=if decide (d.Phase=1)&&(d.Sides.map (Z3f d.Phase)).all (·.Fork) then ⟨d.ID,2,(d.Sides.map (Z3f d.Phase)).map Z5f⟩ else ⟨d.ID,d.Phase,d.Sides.map (Z3f d.Phase)⟩
def Z7f (d:Diner):List Mail:=d.Sides.flatMap (Z4f d.ID d.Phase)
theorem fireM_len (id ph:Int) (x:Side):(Z4f id ph x).length≤2:=by
 unfold Z4f
 rw [List.length_append]
 have h1:∀(c:Bool) (m:Mail),(if c then [m] else []).length≤1:=by intro c m;cases c<;>simp
 have:=h1 (x.Fork&&(x.Dirty&&(x.Token&&!decide (ph=2)))) ⟨id,x.Peer,⟨1,x.Epoch,0⟩⟩
 have:=h1 (decide (ph=1)&&((Z2f ph x).Token&&!(Z2f ph x).Fork)) ⟨id,x.Peer,⟨2,x.Epoch,0⟩⟩
 omega
theorem Z8f (l:List Side) (id ph:Int):(l.flatMap (Z4f id ph)).length≤2*l.length:=by
 induction l with
 | nil=>simp
 | cons x l ih=>have:=fireM_len id ph x;rw [List.flatMap_cons,List.length_append,List.length_cons];omega
theorem s_send (k id ph:Int) (a b:List Side) (x:Side) (E:List Mail) (hE:E.length≤1000000):Zfe k id ph (a.length:Int) (a++x::b) E=some (E++[⟨id,x.Peer,⟨k,x.Epoch,0⟩⟩]):=by
 simp only [Zfe]
 rw [at_mid rfl,Option.bind_some,Z86 _ _ (by omega) (by simp;omega),Option.bind_some]
theorem fire_step (d:Diner) (l:List Side) (hl:l.length<64) (pre post:List Side) (x:Side) (h:l=pre++x::post) (all:Bool) (A:List Side) (hA:A.length=pre.length) (E:List Mail) (hE:E.length≤1000):
  Zse d l (all,(pre.length:Int),A++x::post,E)=some (.inl (all&&(Z3f d.Phase x).Fork,((pre.length+1:Nat):Int),A++Z3f d.Phase x::post,E++Z4f d.ID d.Phase x)):=by
 have hx:=Zd9 h
 have hm:=Ze9 h
 have at1:∀y:Side,at_ (A++y::post) (pre.length:Int)=some y:=fun y=>by rw [←hA];exact at_mid rfl
 have st1:∀y z:Side,(A++y::post).set ((pre.length:Int)).toNat z=A++z::post:=fun y z=>by rw [←hA];exact Zf9 _ _ _ _
 have sd:∀(k:Int) (y:Side) (E:List Mail),E.length≤1000000→Zfe k d.ID d.Phase (pre.length:Int) (A++y::post) E=some (E++[⟨d.ID,y.Peer,⟨k,y.Epoch,0⟩⟩]):=fun k y E hE=>by rw [←hA];exact s_send k d.ID d.Phase A post y E hE
 have fin:∀(y:Side) (E':List Mail),Zoe all (pre.length:Int) (A++y::post,E')=some (.inl (all&&y.Fork,((pre.length+1:Nat):Int),A++y::post,E')):=fun y E'=>by
  dsimp only [Zoe,Zne]
  rw [at1,Zb6 (by omega)]
  cases all<;>rfl
 have j3:∀(y:Side) (E':List Mail),E'.length≤100000→Zqe d all (pre.length:Int) (A++y::post,E') =
   if decide (d.Phase=1)&&(y.Token&&!y.Fork) then some (.inl (all&&y.Fork,((pre.length+1:Nat):Int),A++{y with Token:=false}::post,E'++[⟨d.ID,y.Peer,⟨2,y.Epoch,0⟩⟩])) else some (.inl (all&&y.Fork,((pre.length+1:Nat):Int),A++y::post,E')):=fun y E' hE'=>by
  dsimp only [Zqe]
  by_cases h1:d.Phase=1
  ·rw [decide_eq_true h1,Z36,at1,Option.bind_some]
   cases ht:y.Token with
   | false=>dsimp only [Zpe];rw [Z46,Z46,fin];simp
   | true=>
     cases hf:y.Fork with
     | true=>dsimp only [Zpe];rw [Z36,Bool.not_true,Z46,fin];simp [hf]
     | false=>
       dsimp only [Zpe]
       rw [Z36,Bool.not_false,Z36,at1,Option.bind_some,st1,sd _ _ _ (by omega),Option.bind_some,fin]
       simp [hf]
  ·rw [decide_eq_false h1,Z46];dsimp only [Zpe];rw [Z46,fin];simp
 dsimp only [Zse]
 rw [Z96 hx,Z36,at1,Option.bind_some]
 have j2:∀z:Bool,Zre d all (pre.length:Int) (A++x::post) E x z=if z then Zqe d all (pre.length:Int) (A++{x with Fork:=false,Dirty:=false}::post,E++[⟨d.ID,x.Peer,⟨1,x.Epoch,0⟩⟩]) else Zqe d all (pre.length:Int) (A++x::post,E):=fun z=>by
  cases z with
  | false=>dsimp only [Zre];rw [Z46];rfl
  | true=>
    dsimp only [Zre]
    rw [Z36,st1,sd _ _ _ (by omega),Option.bind_some];rfl
 have e:ifb x.Fork (ifb x.Dirty (ifb x.Token (Zre d all (pre.length:Int) (A++x::post) E x (!decide (d.Phase=2))) (Zre d all (pre.length:Int) (A++x::post) E x false)) (Zre d all (pre.length:Int) (A++x::post) E x false)) (Zre d all (pre.length:Int) (A++x::post) E x false)
   =Zre d all (pre.length:Int) (A++x::post) E x (x.Fork&&(x.Dirty&&(x.Token&&!decide (d.Phase=2)))):=by
  cases x.Fork<;>cases x.Dirty<;>cases x.Token<;>rfl
 rw [e,j2]
 cases hz:(x.Fork&&(x.Dirty&&(x.Token&&!decide (d.Phase=2)))) with
 | false=>
   rw [if_neg (by simp),j3 _ _ (by omega)]
   have f1:Z2f d.Phase x=x:=by simp only [Z2f,hz];rfl
   unfold Z3f Z4f
   rw [f1,hz]
   cases hq:(decide (d.Phase=1)&&(x.Token&&!x.Fork))<;>simp
 | true=>
   rw [if_pos rfl,j3 _ _ (by simp;omega)]
   have f1:Z2f d.Phase x={x with Fork:=false,Dirty:=false}:=by simp only [Z2f,hz];rfl
   unfold Z3f Z4f
   rw [f1,hz]
   cases hq:(decide (d.Phase=1)&&(x.Token&&!false))<;>simp_all
theorem s_Fire (d:Diner):Zte d=some (if okD d then (Z6f d,Z7f d,0) else (Z0f,[],130)):=by
 simp only [Zte,Zxe,Option.bind_some]
 cases h:okD d with
 | false=>rfl
 | true=>
   have hl:=Zze h
   simp only [if_true,decide_true,Bool.not_true,Z46,Zye d.Sides (by omega),Option.bind_some]
   have key:=Zb9 d.Sides (Zse d d.Sides) (fun pre=>((pre.map (Z3f d.Phase)).all (·.Fork),(pre.length:Int),pre.map (Z3f d.Phase)++d.Sides.drop pre.length,pre.flatMap (Z4f d.ID d.Phase))) (fun _ _=>some (Z6f d,Z7f d,0)) (fun pre x post hp=>?_) ?_
   ·simpa using key
   ·left
    have hd:d.Sides.drop pre.length=x::post:=by rw [hp];simp
    have hd':d.Sides.drop (pre++[x]).length=post:=by rw [hp];simp
    have hm:=Ze9 hp
    have hE:=Z8f pre d.ID d.Phase
    refine ⟨?_,rfl⟩
    rw [hd,hd',fire_step d d.Sides hl pre post x hp _ _ (by simp) _ (by omega),Zg9]
    simp
   ·have hE:=Z8f d.Sides d.ID d.Phase
    dsimp only [Zse]
    rw [Za6,Z46]
    simp only [List.drop_length,List.append_nil]
    dsimp only [Zme]
    by_cases h1:d.Phase=1
    ·rw [decide_eq_true h1,Z36]
     dsimp only [Zle]
     cases hall:(d.Sides.map (Z3f d.Phase)).all (·.Fork) with
     | false=>
       rw [Z46]
       unfold Z6f
       rw [hall,Bool.and_false]
       rfl
     | true=>
       rw [Z36]
       generalize hS:d.Sides.map (Z3f d.Phase)=S at hall
       have hSl:S.length<64:=by rw [←hS];simpa using hl
       have k2:=Zc9 S (Zke d S (d.Sides.flatMap (Z4f d.ID d.Phase))) (fun pre=>((pre.length:Int),pre.map Z5f++S.drop pre.length)) (⟨d.ID,2,S.map Z5f⟩,d.Sides.flatMap (Z4f d.ID d.Phase),0) (fun pre x post hp=>?_) ?_
       ·have k3:loop (Zke d S (d.Sides.flatMap (Z4f d.ID d.Phase))) (0,S)=some (⟨d.ID,2,S.map Z5f⟩,d.Sides.flatMap (Z4f d.ID d.Phase),0):=by simpa using k2
        rw [k3]
        unfold Z6f
        rw [hS,hall,decide_eq_true h1]
        rfl
       ·have hx:=Zd9 hp
        have hm:=Ze9 hp
        have hd:S.drop pre.length=x::post:=by rw [hp];simp
        have hd':S.drop (pre++[x]).length=post:=by rw [hp];simp
        dsimp only [Zke]
        have e1:((pre.length:Nat):Int)=(((pre.map Z5f).length:Nat):Int):=by simp
        rw [Z96 hx,Z36,hd,hd',e1,at_mid rfl,Option.bind_some,Zf9,←e1,Zg9,Zb6 (by omega)]
        simp [Z5f]
       ·dsimp only [Zke]
        rw [Za6,Z46]
        simp [Zje]
    ·rw [decide_eq_false h1,Z46]
     dsimp only [Zle]
     rw [Z46]
     unfold Z6f
     rw [decide_eq_false h1,Bool.false_and]
     rfl
def getD' (d:Diner) (peer:Int) (m:Msg):Diner×Int:=
 if okD d then match d.Sides.findIdx? (fun x=>decide (x.Peer=peer)&&decide (x.Epoch=m.Epoch)) with
  | none=>(Z0f,131)
  | some i=>match d.Sides[i]? with
    | none=>(Z0f,131)
    | some x=>
      if decide (m.Kind=1)&&decide (m.Num=0) then (if x.Fork then (Z0f,132) else (⟨d.ID,d.Phase,d.Sides.set i {x with Fork:=true}⟩,0))
      else if decide (m.Kind=2)&&decide (m.Num=0) then (if x.Token then (Z0f,132) else (⟨d.ID,d.Phase,d.Sides.set i {x with Token:=true}⟩,0))
      else (Z0f,133)
 else (Z0f,130)
theorem s_Get (d:Diner) (peer:Int) (m:Msg):Z6e d peer m=some (getD' d peer m):=by
 simp only [Z6e,Zxe,Option.bind_some,getD']
 cases h:okD d with
 | false=>rfl
 | true=>
   have hl:=Zze h
   simp only [if_true,decide_true,Bool.not_true,Z46]
   rw [Zn7 d.Sides (fun z=>Z1e z peer m) (fun x=>decide (x.Peer=peer)&&decide (x.Epoch=m.Epoch)) (by omega) (fun x _=>by
    simp only [Z1e,Z0e]
    cases decide (x.Peer=peer)<;>rfl),Option.bind_some,plc_neg]
   have hfi:=Zo9 (fun x:Side=>decide (x.Peer=peer)&&decide (x.Epoch=m.Epoch)) d.Sides
   cases hf:d.Sides.findIdx? (fun x=>decide (x.Peer=peer)&&decide (x.Epoch=m.Epoch)) with
   | none=>rfl
   | some i=>
     rw [hf] at hfi
     obtain ⟨x,hx,_⟩:=hfi
     simp only [Option.isNone_some,Z46,Zye d.Sides (by omega),Option.bind_some,plc,Z76 hx,hx,Int.toNat_natCast,Z5e,Z3e,Z4e]
     by_cases k1:m.Kind=1
     ·by_cases k2:m.Num=0
      ·cases x.Fork<;>simp [k1,k2,Z0f]
      ·have:¬(1:Int)=2:=by omega
       simp [k1,k2,Z0f]
     ·by_cases k3:m.Kind=2
      ·by_cases k2:m.Num=0
       ·cases x.Token<;>simp [k3,k2,Z0f]
       ·simp [k3,k2,Z0f]
      ·simp [k1,k3,Z0f]
def key (d:Diner):Int×List Int:=(d.ID,d.Sides.map (·.Peer))
def sideK (K:List (Int×List Int)) (i:Nat) (p:Int):Bool:=decide (0≤p)&&(decide (p<K.length)&&(!decide (p=i)&&(match K[p.toNat]? with | some e=>decide ((i:Int)∈e.2) | none=>false)))
def okFromK (K:List (Int×List Int)) (i:Nat):Option Int→List Int→Bool
 | _,[]=>true
 | p,x::r=>(match p with | none=>true | some q=>decide (q<x))&&(sideK K i x&&okFromK K i (some x) r)
def okAllK (K:List (Int×List Int)):Nat→List (Int×List Int)→Bool
 | _,[]=>true
 | i,d::r=>decide (d.1=i)&&(okFromK K i none d.2&&okAllK K (i+1) r)
def edgesK:Nat→List (Int×List Int)→List Edge
 | _,[]=>[]
 | i,d::r=>((d.2.filter fun x=>decide ((i:Int)<x)).map fun x=>⟨i,x⟩)++edgesK (i+1) r
theorem Z9f (d:Diner) (i:Int):(Zn9 d i).isSome=decide (i∈d.Sides.map (·.Peer)):=by
 unfold Zn9
 rw [Bool.eq_iff_iff,List.find?_isSome,decide_eq_true_iff,List.mem_map]
 simp
theorem sideB_key (l:List Diner) (i:Nat) (x:Side):Zz9 l i x=sideK (l.map key) i x.Peer:=by
 unfold Zz9 sideK
 rw [List.length_map,List.getElem?_map]
 cases l[x.Peer.toNat]? with
 | none=>rfl
 | some e=>simp only [Option.map_some,key,Z9f]
theorem Zaf (l:List Diner) (i:Nat):∀(xs:List Side) (p:Option Int),Z0a l i p xs=okFromK (l.map key) i p (xs.map (·.Peer))
 | [],_=>rfl
 | x::r,p=>by
   simp only [Z0a,List.map_cons,okFromK,Zaf l i r,sideB_key]
   cases p<;>rfl
theorem Zbf (l:List Diner):∀(r:List Diner) (i:Nat),Z2a l i r=okAllK (l.map key) i (r.map key)
 | [],_=>rfl
 | d::r,i=>by
   simp only [Z2a,List.map_cons,okAllK,Zbf l r,Zaf]
   rfl
theorem Zcf:∀(r:List Diner) (i:Nat),Z3a i r=edgesK i (r.map key)
 | [],_=>rfl
 | d::r,i=>by
   simp only [Z3a,List.map_cons,edgesK,Zcf r,Z1a,key,List.filter_map,List.map_map]
   rfl
theorem graphP_key {l m:List Diner} (h:l.map key=m.map key):Z5a l=Z5a m:=by
 have hl:l.length=m.length:=by have:=congrArg List.length h;simpa using this
 unfold Z5a
 rw [Zbf,Zbf,Zcf,Zcf,h,hl]
theorem pw_len:∀(l:List Int) (q n:Int),l.Pairwise (· < ·)→(∀x∈l,q≤x∧x<n)→l=[]∨(l.length:Int)≤n-q
 | [],_,_,_,_=>.inl rfl
 | x::l,q,n,h,hb=>by
   rw [List.pairwise_cons] at h
   have h1:=hb x (by simp)
   right
   rcases pw_len l (x+1) n h.2 (fun y hy=>⟨by have:=h.1 y hy;omega,(hb y (by simp [hy])).2⟩) with rfl | h2
   ·simp only [List.length_cons,List.length_nil];omega
   ·simp only [List.length_cons];omega
theorem near_few {g:Graph} (hg:okG g=true) (a:Int):((Zic g a).length:Int)≤g.N:=by
 rcases pw_len (Zic g a) 0 g.N (Zjc hg a) (fun x hx=>by have:=Zmc hg hx;omega) with h | h
 ·rw [h];exact (Zs7 hg).1
 ·omega
def has (x:Side) (k:Int):Bool:=if k=1 then x.Fork else x.Token
def bn (b:Bool):Nat:=if b then 1 else 0
def hasD (d:Diner) (k b:Int):Nat:=match Zn9 d b with | some x=>bn (has x k) | none=>0
def cnt (M:List Mail) (k a b:Int):Nat:=M.count ⟨a,b,⟨k,1,0⟩⟩
structure LocD (d:Diner):Prop where
 lo:0≤d.Phase
 hi:d.Phase≤2
 side:∀x∈d.Sides,x.Epoch=1∧x.State=0∧(x.Dirty=true→x.Fork=true)
 eat:d.Phase=2→∀x∈d.Sides,x.Fork=true∧x.Dirty=true
def mailG (g:Graph) (m:Mail):Prop:=(m.Msg.Kind=1∨m.Msg.Kind=2)∧m.Msg.Epoch=1∧m.Msg.Num=0∧m.To∈Zic g m.From
structure Inv (g:Graph) (s:Scene):Prop where
 len:(s.Diners.length:Int)=g.N
 shp:∀(a:Nat) d,s.Diners[a]?=some d→d.ID=a∧d.Sides.map (·.Peer)=Zic g a
 loc:∀d∈s.Diners,LocD d
 mail:∀m∈s.Mail,mailG g m
 one:∀(a b:Nat) da db,s.Diners[a]?=some da→s.Diners[b]?=some db→(b:Int)∈Zic g a→∀k,(k=1∨k=2)→hasD da k b+hasD db k a+cnt s.Mail k a b+cnt s.Mail k b a=1
theorem Inv.set {g:Graph} {s:Scene} (hg:okG g=true) (h:Inv g s) {a:Nat} {d d':Diner} (hd:s.Diners[a]?=some d) (hid:d'.ID=d.ID) (hp:d'.Sides.map (·.Peer)=d.Sides.map (·.Peer)) (hl:LocD d')
  {M:List Mail} (hm:∀m∈M,mailG g m) (ho:∀k p q:Int,p≠a→q≠a→cnt M k p q=cnt s.Mail k p q)
  (hc:∀b∈Zic g a,∀k,(k=1∨k=2)→hasD d' k b+cnt M k a b+cnt M k b a=hasD d k b+cnt s.Mail k a b+cnt s.Mail k b a):Inv g ⟨s.Diners.set a d',M⟩:=by
 have hlt:=(List.getElem?_eq_some_iff.1 hd).1
 have get:∀(k:Nat) e,(s.Diners.set a d')[k]?=some e→(k=a∧e=d')∨(k≠a∧s.Diners[k]?=some e):=fun k e he=>by
  rw [List.getElem?_set] at he
  split at he
  ·rename_i hk
   simp at he
   exact .inl ⟨hk.symm,he.symm⟩
  ·rename_i hk
   exact .inr ⟨fun e=>hk e.symm,he⟩
 refine ⟨by simpa using h.len,fun k e he=>?_,fun e he=>?_,hm,fun x y dx dy hx hy hxy k hk=>?_⟩
 ·rcases get k e he with ⟨rfl,rfl⟩ | ⟨_,he⟩
  ·rw [hid,hp];exact h.shp k d hd
  ·exact h.shp k e he
 ·obtain ⟨k,hk⟩:=List.mem_iff_getElem?.1 he
  rcases get k e hk with ⟨_,rfl⟩ | ⟨_,he⟩
  ·exact hl
  ·exact h.loc e (List.mem_iff_getElem?.2 ⟨_,he⟩)
 ·dsimp only at hx hy ⊢
  have hne:=(Zmc hg hxy).2.2.1
  have hyx:=Zwc hg hxy
  rcases get x dx hx with ⟨rfl,rfl⟩ | ⟨x1,hx'⟩<;>rcases get y dy hy with ⟨rfl,rfl⟩ | ⟨y1,hy'⟩
  ·exact absurd rfl hne
  ·have:=hc y hxy k hk
   have:=h.one x y d dy hd hy' hxy k hk
   omega
  ·have:=hc x hyx k hk
   have:=h.one x y dx d hx' hd hxy k hk
   omega
  ·rw [ho k x y (by omega) (by omega),ho k y x (by omega) (by omega)]
   exact h.one x y dx dy hx' hy' hxy k hk
theorem fire2_peer (ph:Int) (x:Side):(Z3f ph x).Peer=x.Peer∧(Z3f ph x).Epoch=x.Epoch∧(Z3f ph x).State=x.State:=by
 unfold Z3f Z2f
 split<;>split<;>exact ⟨rfl,rfl,rfl⟩
theorem fire2_dirty (ph:Int) (x:Side) (h:x.Dirty=true→x.Fork=true):(Z3f ph x).Dirty=true→(Z3f ph x).Fork=true:=by
 unfold Z3f Z2f
 split<;>split<;>simp_all
theorem fire2_eats (x:Side):Z3f 2 x=x:=by
 unfold Z3f Z2f
 simp
theorem fire_side (id ph k:Int) (x:Side) (hk:k=1∨k=2) (he:x.Epoch=1):bn (has (Z3f ph x) k)+(Z4f id ph x).count ⟨id,x.Peer,⟨k,1,0⟩⟩=bn (has x k):=by
 obtain ⟨p,e,st,f,d,t,bo,ask⟩:=x
 dsimp only at he
 subst he
 unfold Z4f Z3f Z2f has bn
 generalize h1:decide (ph=1)=q1
 generalize h2:decide (ph=2)=q2
 rcases hk with rfl | rfl<;>cases f<;>cases d<;>cases t<;>cases q1<;>cases q2<;>simp
theorem Zdf {id ph:Int} {x:Side} {m:Mail} (h:m∈Z4f id ph x):m.From=id∧m.To=x.Peer∧(m.Msg.Kind=1∨m.Msg.Kind=2)∧m.Msg.Epoch=x.Epoch∧m.Msg.Num=0:=by
 unfold Z4f at h
 rw [List.mem_append] at h
 rcases h with h | h
 ·split at h
  ·simp at h;subst h;exact ⟨rfl,rfl,.inl rfl,rfl,rfl⟩
  ·simp at h
 ·split at h
  ·simp at h;subst h;exact ⟨rfl,rfl,.inr rfl,rfl,rfl⟩
  ·simp at h
theorem Zef {M:List Mail} {m:Mail} (h:m∉M):M.count m=0:=List.count_eq_zero.2 h
theorem Zff (id ph k b:Int):∀(l:List Side),l.Pairwise (fun x y=>x.Peer<y.Peer)→(l.flatMap (Z4f id ph)).count ⟨id,b,⟨k,1,0⟩⟩=match l.find? (fun x=>decide (x.Peer=b)) with | some x=>(Z4f id ph x).count ⟨id,x.Peer,⟨k,1,0⟩⟩ | none=>0
 | [],_=>rfl
 | x::l,h=>by
   rw [List.pairwise_cons] at h
   rw [List.flatMap_cons,List.count_append,Zff id ph k b l h.2,List.find?_cons]
   by_cases hx:x.Peer=b
   ·have:l.find? (fun x=>decide (x.Peer=b))=none:=by
     rw [List.find?_eq_none]
     intro y hy
     have:=h.1 y hy
     simp;omega
    rw [this,decide_eq_true hx,←hx];simp
   ·rw [decide_eq_false hx,Zef (fun hm=>hx (Zdf hm).2.1.symm)];simp
theorem Zgf {d:Diner} {k p q:Int} (hp:p≠d.ID):(Z7f d).count ⟨p,q,⟨k,1,0⟩⟩=0:=by
 refine Zef fun h=>?_
 obtain ⟨x,_,hx⟩:=List.mem_flatMap.1 h
 exact hp (Zdf hx).1
def Zhf (d:Diner) (x:Side):Side:=if decide (d.Phase=1)&&(d.Sides.map (Z3f d.Phase)).all (·.Fork) then Z5f (Z3f d.Phase x) else Z3f d.Phase x
theorem Zif (d:Diner):(Z6f d).Sides=d.Sides.map (Zhf d):=by
 unfold Z6f Zhf
 split
 ·simp only [List.map_map];rfl
 ·rfl
theorem fireD_id (d:Diner):(Z6f d).ID=d.ID:=by unfold Z6f;split<;>rfl
theorem Zjf (d:Diner) (x:Side):(Zhf d x).Peer=x.Peer∧(Zhf d x).Epoch=x.Epoch∧(Zhf d x).State=x.State∧∀k,has (Zhf d x) k=has (Z3f d.Phase x) k:=by
 obtain ⟨h1,h2,h3⟩:=fire2_peer d.Phase x
 unfold Zhf
 split
 ·exact ⟨h1,h2,h3,fun k=>rfl⟩
 ·exact ⟨h1,h2,h3,fun k=>rfl⟩
theorem sideO_map (d:Diner) (f:Side→Side) (hf:∀x,(f x).Peer=x.Peer) (i p b:Int):Zn9 ⟨i,p,d.Sides.map f⟩ b=(Zn9 d b).map f:=by
 unfold Zn9
 dsimp only
 rw [List.find?_map]
 congr 2
 funext x
 simp only [Function.comp,hf]
theorem Zkf (d:Diner) (b:Int):Zn9 (Z6f d) b=(Zn9 d b).map (Zhf d):=by
 have:=sideO_map d (Zhf d) (fun x=>(Zjf d x).1) (Z6f d).ID (Z6f d).Phase b
 rw [←Zif] at this
 exact this
theorem Zlf {d:Diner} {b:Int} {x:Side} (h:Zn9 d b=some x):x∈d.Sides∧x.Peer=b:=by
 unfold Zn9 at h
 exact ⟨List.mem_of_find?_eq_some h,by simpa using List.find?_some h⟩
theorem LocD.fire {d:Diner} (h:LocD d):LocD (Z6f d):=by
 have hs:∀y∈(Z6f d).Sides,∃x∈d.Sides,y=Zhf d x:=fun y hy=>by
  rw [Zif] at hy
  obtain ⟨x,hx,rfl⟩:=List.mem_map.1 hy
  exact ⟨x,hx,rfl⟩
 have hph:(Z6f d).Phase=2→(decide (d.Phase=1)&&(d.Sides.map (Z3f d.Phase)).all (·.Fork))=true∨d.Phase=2:=fun h2=>by
  unfold Z6f at h2
  split at h2
  ·rename_i h1;exact .inl h1
  ·exact .inr h2
 have allF:(decide (d.Phase=1)&&(d.Sides.map (Z3f d.Phase)).all (·.Fork))=true→∀x∈d.Sides,(Z3f d.Phase x).Fork=true:=fun h1 x hx=>by
  rw [Bool.and_eq_true,List.all_eq_true] at h1
  exact h1.2 _ (List.mem_map_of_mem hx)
 refine ⟨?_,?_,fun y hy=>?_,fun h2 y hy=>?_⟩
 ·unfold Z6f;split
  ·show (0:Int)≤2;omega
  ·exact h.lo
 ·unfold Z6f;split
  ·exact Int.le_refl _
  ·exact h.hi
 ·obtain ⟨x,hx,rfl⟩:=hs y hy
  obtain ⟨s1,s2,s3⟩:=h.side x hx
  obtain ⟨p1,p2,p3,_⟩:=Zjf d x
  refine ⟨by rw [p2,s1],by rw [p3,s2],?_⟩
  unfold Zhf
  split
  ·rename_i h1;exact fun _=>allF h1 x hx
  ·exact fire2_dirty _ _ s3
 ·obtain ⟨x,hx,rfl⟩:=hs y hy
  rcases hph h2 with h1 | h1
  ·unfold Zhf
   rw [if_pos h1]
   exact ⟨allF h1 x hx,rfl⟩
  ·unfold Zhf
   rw [h1,show (decide ((2:Int)=1)&&(d.Sides.map (Z3f 2)).all (·.Fork))=false from rfl,if_neg (by simp),fire2_eats]
   exact h.eat h1 x hx
theorem Inv.pw {g:Graph} {s:Scene} (hg:okG g=true) (h:Inv g s) {a:Nat} {d:Diner} (hd:s.Diners[a]?=some d):d.Sides.Pairwise fun x y=>x.Peer<y.Peer:=by
 have:=Zjc hg a
 rw [←(h.shp a d hd).2,List.pairwise_map] at this
 exact this
theorem Inv.fire {g:Graph} {s:Scene} (hg:okG g=true) (h:Inv g s) {a:Nat} {d:Diner} (hd:s.Diners[a]?=some d):Inv g ⟨s.Diners.set a (Z6f d),s.Mail++Z7f d⟩:=by
 obtain ⟨hid,hsh⟩:=h.shp a d hd
 have hdm:=List.mem_iff_getElem?.2 ⟨_,hd⟩
 have hloc:=h.loc d hdm
 refine h.set hg hd (fireD_id d) ?_ hloc.fire (fun m hm=>?_) (fun k p q hp hq=>?_) (fun b hb k hk=>?_)
 ·rw [Zif,List.map_map]
  refine List.map_congr_left fun x _=>(Zjf d x).1
 ·rcases List.mem_append.1 hm with hm | hm
  ·exact h.mail m hm
  ·obtain ⟨x,hx,hxm⟩:=List.mem_flatMap.1 hm
   obtain ⟨m1,m2,m3,m4,m5⟩:=Zdf hxm
   refine ⟨m3,by rw [m4];exact (hloc.side x hx).1,m5,?_⟩
   rw [m1,m2,hid,←hsh]
   exact List.mem_map_of_mem hx
 ·unfold cnt
  rw [List.count_append,Zgf (by rw [hid];exact hp)]
  rfl
 ·have hne:=(Zmc hg hb).2.2.1
  unfold cnt
  rw [List.count_append,List.count_append,Zgf (p:=b) (by rw [hid];exact hne)]
  have e:=Zff d.ID d.Phase k b d.Sides (h.pw hg hd)
  rw [hid] at e
  unfold Z7f
  rw [hid,e]
  unfold hasD
  rw [Zkf]
  unfold Zn9
  cases hf:d.Sides.find? (fun x=>decide (x.Peer=b)) with
  | none=>simp
  | some x=>
    have hx:=List.mem_of_find?_eq_some hf
    have:=fire_side (a:Int) d.Phase k x hk (hloc.side x hx).1
    have h3:=(Zjf d x).2.2.2 k
    simp only [Option.map_some,h3]
    omega
set_option maxRecDepth 100000
set_option maxHeartbeats 4000000
def e101:EC:=.seq (.reg [(Qa 2 (.box 97 5 (.t 0))),(Qa 3 (.mv (.c .ff)))]) (.seq (.reg [(Qa 4 (.fld 0 (.t 2))),(Qa 5 (.load (.t 4))),(Qa 6 (.fld 1 (.t 2))),(Qa 7 (.load (.t 6))),(Qa 8 (.mm false [(.t 5),(.t 7)])),(Qa 9 (.bin .lss (.t 8) (.c (.iv 0)))),(Qa 10 (.mv (.t 9))),(Qg 11 10 false (.fld 0 (.t 2))),(Qg 12 10 false (.load (.t 11))),(Qg 13 10 false (.fld 1 (.t 2))),(Qg 14 10 false (.load (.t 13))),(Qg 15 10 false (.mm true [(.t 12),(.t 14)])),(Qg 16 10 false (.fld 0 (.t 1))),(Qg 17 10 false (.load (.t 16))),(Qg 18 10 false (.len (.t 17))),(Qg 19 10 false (.bin .geq (.t 15) (.t 18))),(Qa 20 (.pick (.t 10) (.c .tt) (.t 19))),(Qa 21 (.mv (.t 20))),(Qg 22 21 false (.fld 0 (.t 2))),(Qg 23 21 false (.load (.t 22))),(Qg 24 21 false (.fld 1 (.t 2))),(Qg 25 21 false (.load (.t 24))),(Qg 26 21 false (.bin .eql (.t 23) (.t 25))),(Qa 27 (.pick (.t 21) (.c .tt) (.t 26))),(Qa 3 (.mv (.t 27)))]) (.ret))
theorem ok101:FnOK Try.prog 101 Try.f101 e101 [.t 3] 2 26:=⟨by kernel_rfl,⟨_,rfl,by kernel_rfl⟩,by kernel_rfl,by kernel_rfl⟩
noncomputable def Zmf:Bool→Option Bool
| x3=>
 some x3
noncomputable def Znf (x1:Mail) (x2:Scene):Option Bool:=
 ifb (decide (((min x1.From x1.To))<0)) (
 Zmf true) (
 ifb (decide ((ln Diner.row x2.Diners)≤((max x1.From x1.To)))) (
 Zmf true) (
 Zmf (decide (x1.From=x1.To))))
theorem Zof (x1:Mail) (x2:Scene) (r:Bool) (h:Znf x1 x2=some r):Zq2 Try.prog 101 [.agg (Mail.row x1),.elt (Scene.row x2) 0] (.bv r):=by
 refine Zu2 ok101 rfl rfl fun w0 H0=>?_
 rw [Znf] at h
 refine Zl2 14 ?_;dsimp only [e101,go_sem];refine ⟨by simp,?_⟩;refine Zl4 (fun (x3:Bool)=>(⟨(an 3 (.bv x3::an 24 [])),[],[]⟩:St)) Zmf r ?_ fun J1=>?_
 ·intro x3 h;rw [Zmf] at h;(try dsimp only);exact Zx4 (res:=fun (r:Bool)=>.bv r) ok101 h
 ·refine Zw4 10 h rfl (fun _ h=>?_) fun _ h=>?_
  ·dsimp only [go_sem];refine Zl2 19 ?_;dsimp only [e101,go_sem];refine ⟨by simp,?_⟩;exact Zz4 J1 (s:=true) h
  ·dsimp only [go_sem];refine Zl2 11 ?_;dsimp only [e101,go_sem];refine ⟨by simp,?_⟩;refine Zw4 21 h rfl (fun _ h=>?_) fun _ h=>?_
   ·dsimp only [go_sem];refine Zl2 8 ?_;dsimp only [e101,go_sem];refine ⟨by simp,?_⟩;exact Zz4 J1 (s:=true) h
   ·dsimp only [go_sem];refine Zl2 8 ?_;dsimp only [e101,go_sem];refine ⟨by simp,?_⟩;exact Zz4 J1 (s:=decide (x1.From=x1.To)) h
set_option maxRecDepth 100000
set_option maxHeartbeats 4000000
def e102:EC:=.seq (.reg [(Qa 1 (.box 39 3 (.t 0))),(Qa 2 (.mv (.c .ff)))]) (.seq (.reg [(Qa 3 (.loadA 3 (.t 1))),(Qa 4 (.call 103 [(.t 3)])),(Qa 5 (.bin .neq (.t 4) (.c (.iv 0)))),(Qa 2 (.mv (.t 5)))]) (.ret))
theorem ok102:FnOK Try.prog 102 Try.f102 e102 [.t 2] 1 5:=⟨by kernel_rfl,⟨_,rfl,by kernel_rfl⟩,by kernel_rfl,by kernel_rfl⟩
noncomputable def Zpf (x1:Diner):Option Bool:=
 (Zpd x1).bind fun x2=>
 some (!decide (x2=0))
theorem Zqf (x1:Diner) (r:Bool) (h:Zpf x1=some r):Zq2 Try.prog 102 [.agg (Diner.row x1)] (.bv r):=by
 refine Zu2 ok102 rfl rfl fun w0 H0=>?_
 rw [Zpf] at h
 refine Zl2 8 ?_;dsimp only [e102,go_sem];refine ⟨by simp,?_⟩;obtain ⟨x2,ex2,h⟩:=Option.bind_eq_some_iff.1 h;refine Zz2 trivial (Zqd x1 _ ex2) (h:=?_);refine Zl2 3 ?_;dsimp only [e102,go_sem];refine ⟨by simp,?_⟩;exact Zx4 (res:=fun (r:Bool)=>.bv r) ok102 h
set_option maxRecDepth 100000
set_option maxHeartbeats 4000000
def Zrf:EC:=.seq (.reg [(Qa 9 (.bin .lss (.t 8) (.t 7)))]) (.seq (.ite (.t 9) (.skip) (.exit 0)) (.seq (.blk 1 (.seq (.reg [(Qa 10 (.mv (.t 8))),(Qa 5 (.mv (.t 10)))]) (.seq (.reg [(Qa 11 (.mv (.t 1))),(Qa 12 (.mv (.t 0))),(Qa 13 (.mv (.t 5))),(Qa 14 (.idx 3 (.t 12) (.t 13))),(Qa 15 (.loadA 3 (.t 14))),(Qa 16 (.callv (.t 11) [(.t 15)]))]) (.ite (.t 16) (.seq (.reg [(Qa 17 (.mv (.t 5))),(Qa 4 (.mv (.t 17)))]) (.ret)) (.skip))))) (.reg [(Qa 18 (.bin .add (.t 8) (.c (.iv 1)))),(Qa 8 (.mv (.t 18)))])))
def e125:EC:=.seq (.reg [(Qa 4 (.mv (.c (.iv 0))))]) (.seq (.seq (.reg [(Qa 6 (.mv (.t 0))),(Qa 7 (.len (.t 6))),(Qa 8 (.mv (.c (.iv 0))))]) (.blk 0 (.loop Zrf))) (.seq (.reg [(Qa 4 (.mv (.c (.iv (-1)))))]) (.ret)))
theorem ok125:FnOK Try.prog 125 Try.f125 e125 [.t 4] 2 17:=⟨by kernel_rfl,⟨_,rfl,by kernel_rfl⟩,by kernel_rfl,by kernel_rfl⟩
noncomputable def Zsf:Unit→Option Int
| ()=>
 some (-1)
noncomputable def Ztf (x1:(List Diner)) (p1:(Diner→Option Bool)):Int→Option (Int ⊕ Int)
| x5=>
 ifb (decide (x5<(ln Diner.row x1))) (
 (at_ x1 x5).bind fun x6=>
 (p1 x6).bind fun x7=>
 ifb x7 (
 Option.map Sum.inr (some x5)) (
 some (.inl (wr (x5+1))))) (
 Option.map Sum.inr (Zsf ()))
noncomputable def Zuf (x1:(List Diner)) (p1:(Diner→Option Bool)):Option Int:=
 loop (Ztf x1 p1) 0
theorem Zvf (x1:(List Diner)) (g1:Nat) (caps1:List AV) (p1:(Diner→Option Bool)) (hc1:CloOK Try.prog g1 caps1 (fun z=>[.agg (Diner.row z)]) p1 (fun z=>.bv z)) (r:Int) (h:Zuf x1 p1=some r):Zq2 Try.prog 125 [.sl 3 (List.map Diner.row x1),.clo g1 caps1] (.iv r):=by
 refine Zu2 ok125 rfl rfl fun w0 H0=>?_
 rw [Zuf] at h
 refine Zl2 11 ?_;dsimp only [e125,Zrf,go_sem];refine ⟨by simp,?_⟩;refine Zl4 (fun (_:Unit)=>(⟨(an 19 []),[],[]⟩:St)) Zsf r ?_ fun J1=>?_
 ·rintro ⟨⟩ h;rw [Zsf] at h;(try dsimp only);refine Zl2 4 ?_;dsimp only [e125,Zrf,go_sem];refine ⟨by simp,?_⟩;exact Zx4 (res:=fun (r:Int)=>.iv r) ok125 h
 ·refine Zl2 1 ?_;dsimp only [e125,Zrf,go_sem];refine ⟨by simp,?_⟩;refine Zm4 h (fun (x5:Int)=>(⟨(.sl 3 (List.map Diner.row x1) :: .clo g1 caps1::an 5 (.iv (ln Diner.row x1) :: .iv x5::an 10 [])),[],[]⟩:St)) (by simp [go_sem]) (by intro x5;first | rfl | simp [go_sem,Z84 _ hc1.pu]) ?_;rintro n1 x5 y1 h hin1 hout1;rw [Ztf] at h;(try dsimp only);refine Zl2 5 ?_;dsimp only [e125,Zrf,go_sem];refine ⟨by simp,?_⟩;refine Zn4 h rfl (fun _ h=>?_) fun _ h=>?_
  ·refine Zl2 13 ?_;dsimp only [e125,Zrf,go_sem];refine ⟨by simp,?_⟩;obtain ⟨x6,ex6,h⟩:=Option.bind_eq_some_iff.1 h;refine Zq4 Diner.row ex6 trivial rfl rfl rfl ?_;refine Zl2 1 ?_;dsimp only [e125,Zrf,go_sem];refine ⟨by simp,?_⟩;obtain ⟨x7,ex7,h⟩:=Option.bind_eq_some_iff.1 h;refine Z35 trivial rfl hc1 (x:=x6) ex7 (by first | exact Z94 _ | simp [go_sem]) (by first | rfl | simp [go_sem,hc1.pu]) ?_;refine Zl2 1 ?_;dsimp only [e125,Zrf,go_sem];refine ⟨by simp,?_⟩;refine Zn4 h rfl (fun _ h=>?_) fun _ h=>?_
   ·refine Zl2 5 ?_;dsimp only [e125,Zrf,go_sem];refine ⟨by simp,?_⟩;exact Zx4 (res:=fun (r:Int)=>.iv r) ok125 (Zk4 h hout1)
   ·refine Zl2 6 ?_;dsimp only [e125,Zrf,go_sem];refine ⟨by simp,?_⟩;exact Zy4 h hin1 (hok:=by first | rfl | simp [go_sem,Z84 _ hc1.pu])
  ·refine Zl2 1 ?_;dsimp only [e125,Zrf,go_sem];refine ⟨by simp,?_⟩;exact Zz4 J1 (s:=()) (Zk4 h hout1) (hok:=by first | rfl | simp [go_sem,Z84 _ hc1.pu])
set_option maxRecDepth 100000
set_option maxHeartbeats 4000000
def e104:EC:=.seq (.reg [(Qa 4 (.mv (.c .ff)))]) (.seq (.reg [(Qa 5 (.mv (.t 0))),(Qa 6 (.mv (.t 1))),(Qa 7 (.call 125 [(.t 5),(.t 6)])),(Qa 8 (.bin .geq (.t 7) (.c (.iv 0)))),(Qa 4 (.mv (.t 8)))]) (.ret))
theorem ok104:FnOK Try.prog 104 Try.f104 e104 [.t 4] 2 7:=⟨by kernel_rfl,⟨_,rfl,by kernel_rfl⟩,by kernel_rfl,by kernel_rfl⟩
noncomputable def Zwf (x1:(List Diner)) (p1:(Diner→Option Bool)):Option Bool:=
 (Zuf x1 p1).bind fun x2=>
 some (decide (0≤x2))
theorem Zxf (x1:(List Diner)) (g1:Nat) (caps1:List AV) (p1:(Diner→Option Bool)) (hc1:CloOK Try.prog g1 caps1 (fun z=>[.agg (Diner.row z)]) p1 (fun z=>.bv z)) (r:Bool) (h:Zwf x1 p1=some r):Zq2 Try.prog 104 [.sl 3 (List.map Diner.row x1),.clo g1 caps1] (.bv r):=by
 refine Zu2 ok104 rfl rfl fun w0 H0=>?_
 rw [Zwf] at h
 refine Zl2 8 ?_;dsimp only [e104,go_sem];refine ⟨by simp,?_⟩;obtain ⟨x2,ex2,h⟩:=Option.bind_eq_some_iff.1 h;refine Zz2 trivial (Zvf x1 _ _ p1 hc1 _ ex2) (hp:=(by first | rfl | simp [go_sem,hc1.pu])) (h:=?_);refine Zl2 3 ?_;dsimp only [e104,go_sem];refine ⟨by simp,?_⟩;exact Zx4 (res:=fun (r:Bool)=>.bv r) ok104 h
set_option maxRecDepth 100000
set_option maxHeartbeats 4000000
def Zyf:EC:=.seq (.reg [(Qa 9 (.bin .lss (.t 8) (.t 7)))]) (.seq (.ite (.t 9) (.skip) (.exit 0)) (.seq (.blk 1 (.seq (.reg [(Qa 10 (.mv (.t 8))),(Qa 5 (.mv (.t 10)))]) (.seq (.reg [(Qa 11 (.mv (.t 1))),(Qa 12 (.mv (.t 0))),(Qa 13 (.mv (.t 5))),(Qa 14 (.idx 5 (.t 12) (.t 13))),(Qa 15 (.loadA 5 (.t 14))),(Qa 16 (.callv (.t 11) [(.t 15)]))]) (.ite (.t 16) (.seq (.reg [(Qa 17 (.mv (.t 5))),(Qa 4 (.mv (.t 17)))]) (.ret)) (.skip))))) (.reg [(Qa 18 (.bin .add (.t 8) (.c (.iv 1)))),(Qa 8 (.mv (.t 18)))])))
def e95:EC:=.seq (.reg [(Qa 4 (.mv (.c (.iv 0))))]) (.seq (.seq (.reg [(Qa 6 (.mv (.t 0))),(Qa 7 (.len (.t 6))),(Qa 8 (.mv (.c (.iv 0))))]) (.blk 0 (.loop Zyf))) (.seq (.reg [(Qa 4 (.mv (.c (.iv (-1)))))]) (.ret)))
theorem ok95:FnOK Try.prog 95 Try.f95 e95 [.t 4] 2 17:=⟨by kernel_rfl,⟨_,rfl,by kernel_rfl⟩,by kernel_rfl,by kernel_rfl⟩
noncomputable def Zzf:Unit→Option Int
| ()=>
 some (-1)
noncomputable def Z0g (x1:(List Mail)) (p1:(Mail→Option Bool)):Int→Option (Int ⊕ Int)
| x5=>
 ifb (decide (x5<(ln Mail.row x1))) (
 (at_ x1 x5).bind fun x6=>
 (p1 x6).bind fun x7=>
 ifb x7 (
 Option.map Sum.inr (some x5)) (
 some (.inl (wr (x5+1))))) (
 Option.map Sum.inr (Zzf ()))
noncomputable def Z1g (x1:(List Mail)) (p1:(Mail→Option Bool)):Option Int:=
 loop (Z0g x1 p1) 0
theorem Z2g (x1:(List Mail)) (g1:Nat) (caps1:List AV) (p1:(Mail→Option Bool)) (hc1:CloOK Try.prog g1 caps1 (fun z=>[.agg (Mail.row z)]) p1 (fun z=>.bv z)) (r:Int) (h:Z1g x1 p1=some r):Zq2 Try.prog 95 [.sl 5 (List.map Mail.row x1),.clo g1 caps1] (.iv r):=by
 refine Zu2 ok95 rfl rfl fun w0 H0=>?_
 rw [Z1g] at h
 refine Zl2 11 ?_;dsimp only [e95,Zyf,go_sem];refine ⟨by simp,?_⟩;refine Zl4 (fun (_:Unit)=>(⟨(an 19 []),[],[]⟩:St)) Zzf r ?_ fun J1=>?_
 ·rintro ⟨⟩ h;rw [Zzf] at h;(try dsimp only);refine Zl2 4 ?_;dsimp only [e95,Zyf,go_sem];refine ⟨by simp,?_⟩;exact Zx4 (res:=fun (r:Int)=>.iv r) ok95 h
 ·refine Zl2 1 ?_;dsimp only [e95,Zyf,go_sem];refine ⟨by simp,?_⟩;refine Zm4 h (fun (x5:Int)=>(⟨(.sl 5 (List.map Mail.row x1) :: .clo g1 caps1::an 5 (.iv (ln Mail.row x1) :: .iv x5::an 10 [])),[],[]⟩:St)) (by simp [go_sem]) (by intro x5;first | rfl | simp [go_sem,Z84 _ hc1.pu]) ?_;rintro n1 x5 y1 h hin1 hout1;rw [Z0g] at h;(try dsimp only);refine Zl2 5 ?_;dsimp only [e95,Zyf,go_sem];refine ⟨by simp,?_⟩;refine Zn4 h rfl (fun _ h=>?_) fun _ h=>?_
  ·refine Zl2 13 ?_;dsimp only [e95,Zyf,go_sem];refine ⟨by simp,?_⟩;obtain ⟨x6,ex6,h⟩:=Option.bind_eq_some_iff.1 h;refine Zq4 Mail.row ex6 trivial rfl rfl rfl ?_;refine Zl2 1 ?_;dsimp only [e95,Zyf,go_sem];refine ⟨by simp,?_⟩;obtain ⟨x7,ex7,h⟩:=Option.bind_eq_some_iff.1 h;refine Z35 trivial rfl hc1 (x:=x6) ex7 (by first | exact Z94 _ | simp [go_sem]) (by first | rfl | simp [go_sem,hc1.pu]) ?_;refine Zl2 1 ?_;dsimp only [e95,Zyf,go_sem];refine ⟨by simp,?_⟩;refine Zn4 h rfl (fun _ h=>?_) fun _ h=>?_
   ·refine Zl2 5 ?_;dsimp only [e95,Zyf,go_sem];refine ⟨by simp,?_⟩;exact Zx4 (res:=fun (r:Int)=>.iv r) ok95 (Zk4 h hout1)
   ·refine Zl2 6 ?_;dsimp only [e95,Zyf,go_sem];refine ⟨by simp,?_⟩;exact Zy4 h hin1 (hok:=by first | rfl | simp [go_sem,Z84 _ hc1.pu])
  ·refine Zl2 1 ?_;dsimp only [e95,Zyf,go_sem];refine ⟨by simp,?_⟩;exact Zz4 J1 (s:=()) (Zk4 h hout1) (hok:=by first | rfl | simp [go_sem,Z84 _ hc1.pu])
set_option maxRecDepth 100000
set_option maxHeartbeats 4000000
def e105:EC:=.seq (.reg [(Qa 4 (.mv (.c .ff)))]) (.seq (.reg [(Qa 5 (.mv (.t 0))),(Qa 6 (.mv (.t 1))),(Qa 7 (.call 95 [(.t 5),(.t 6)])),(Qa 8 (.bin .geq (.t 7) (.c (.iv 0)))),(Qa 4 (.mv (.t 8)))]) (.ret))
theorem ok105:FnOK Try.prog 105 Try.f105 e105 [.t 4] 2 7:=⟨by kernel_rfl,⟨_,rfl,by kernel_rfl⟩,by kernel_rfl,by kernel_rfl⟩
noncomputable def Z3g (x1:(List Mail)) (p1:(Mail→Option Bool)):Option Bool:=
 (Z1g x1 p1).bind fun x2=>
 some (decide (0≤x2))
theorem Z4g (x1:(List Mail)) (g1:Nat) (caps1:List AV) (p1:(Mail→Option Bool)) (hc1:CloOK Try.prog g1 caps1 (fun z=>[.agg (Mail.row z)]) p1 (fun z=>.bv z)) (r:Bool) (h:Z3g x1 p1=some r):Zq2 Try.prog 105 [.sl 5 (List.map Mail.row x1),.clo g1 caps1] (.bv r):=by
 refine Zu2 ok105 rfl rfl fun w0 H0=>?_
 rw [Z3g] at h
 refine Zl2 8 ?_;dsimp only [e105,go_sem];refine ⟨by simp,?_⟩;obtain ⟨x2,ex2,h⟩:=Option.bind_eq_some_iff.1 h;refine Zz2 trivial (Z2g x1 _ _ p1 hc1 _ ex2) (hp:=(by first | rfl | simp [go_sem,hc1.pu])) (h:=?_);refine Zl2 3 ?_;dsimp only [e105,go_sem];refine ⟨by simp,?_⟩;exact Zx4 (res:=fun (r:Bool)=>.bv r) ok105 h
set_option maxRecDepth 100000
set_option maxHeartbeats 4000000
def e71:EC:=.seq (.reg [(Qa 1 (.box 43 2 (.t 0))),(Qa 2 (.mv (.c (.iv 0))))]) (.seq (.reg [(Qa 7 (.mkf 101 [(.t 1)])),(Qa 3 (.mv (.t 7)))]) (.seq (.reg [(Qa 4 (.mv (.c (.clo 102 []))))]) (.seq (.seq (.reg [(Qa 9 (.fld 0 (.t 1))),(Qa 10 (.load (.t 9))),(Qa 11 (.call 21 [(.t 10)])),(Qa 8 (.mv (.t 11))),(Qa 12 (.ext (.t 8) 0)),(Qa 13 (.ext (.t 8) 1)),(Qa 5 (.alloc 24 [.iv 0,.nl])),(Qb (.store 2 (.t 5) (.t 12))),(Qa 6 (.mv (.t 13)))]) (.seq (.reg [(Qa 14 (.mv (.t 6))),(Qa 15 (.not (.t 14))),(Qa 16 (.mv (.t 15))),(Qg 17 16 false (.fld 0 (.t 1))),(Qg 18 16 false (.load (.t 17))),(Qg 19 16 false (.mv (.t 4))),(Qg 20 16 false (.call 104 [(.t 18),(.t 19)])),(Qa 21 (.pick (.t 16) (.c .tt) (.t 20))),(Qa 22 (.mv (.t 21))),(Qg 23 22 false (.fld 1 (.t 1))),(Qg 24 22 false (.load (.t 23))),(Qg 25 22 false (.mv (.t 3))),(Qg 26 22 false (.call 105 [(.t 24),(.t 25)])),(Qa 27 (.pick (.t 22) (.c .tt) (.t 26)))]) (.ite (.t 27) (.seq (.reg [(Qa 2 (.mv (.c (.iv 142))))]) (.ret)) (.skip)))) (.seq (.reg [(Qa 2 (.mv (.c (.iv 0))))]) (.ret)))))
theorem ok71:FnOK Try.prog 71 Try.f71 e71 [.t 2] 1 27:=⟨by kernel_rfl,⟨_,rfl,by kernel_rfl⟩,by kernel_rfl,by kernel_rfl⟩
noncomputable def Z5g:Bool→Option Int
| x5=>
 ifb x5 (
 some 142) (
 some 0)
noncomputable def Z6g (x1:Scene):Option Int:=
 (Zy9 x1.Diners).bind fun x2=>
 ifb (!x2.2) (
 Z5g true) (
 (Zwf x1.Diners ((fun z=>Zpf z))).bind fun x3=>
 ifb x3 (
 Z5g true) (
 (Z3g x1.Mail ((fun z=>Znf z x1))).bind fun x4=>
 Z5g x4))
theorem Z7g (x1:Scene) (r:Int) (h:Z6g x1=some r):Zq2 Try.prog 71 [.agg (Scene.row x1)] (.iv r):=by
 refine Zu2 ok71 rfl rfl fun w0 H0=>?_
 rw [Z6g] at h
 refine Zl2 19 ?_;dsimp only [e71,go_sem];refine ⟨by simp,?_⟩;obtain ⟨x2,ex2,h⟩:=Option.bind_eq_some_iff.1 h;refine Zz2 trivial (k_place_Graph x1.Diners _ ex2) (h:=?_);refine Zl2 12 ?_;dsimp only [e71,go_sem];refine ⟨by simp,?_⟩;refine Zl4 (fun (x5:Bool)=>(⟨(an 27 [.bv x5]),[],[]⟩:St)) Z5g r ?_ fun J1=>?_
 ·intro x5 h;rw [Z5g] at h;(try dsimp only);refine Zn4 h rfl (fun _ h=>?_) fun _ h=>?_
  ·refine Zl2 4 ?_;dsimp only [e71,go_sem];refine ⟨by simp,?_⟩;exact Zx4 (res:=fun (r:Int)=>.iv r) ok71 h
  ·refine Zl2 5 ?_;dsimp only [e71,go_sem];refine ⟨by simp,?_⟩;exact Zx4 (res:=fun (r:Int)=>.iv r) ok71 h
 ·refine Zw4 16 h rfl (fun _ h=>?_) fun _ h=>?_
  ·dsimp only [go_sem];refine Zl2 12 ?_;dsimp only [e71,go_sem];refine ⟨by simp,?_⟩;exact Zz4 J1 (s:=true) h
  ·dsimp only [go_sem];refine Zl2 3 ?_;dsimp only [e71,go_sem];refine ⟨by simp,?_⟩;obtain ⟨x3,ex3,h⟩:=Option.bind_eq_some_iff.1 h;refine Zz2 trivial (Zxf x1.Diners _ _ ((fun z=>Zpf z)) ⟨by kernel_rfl,rfl,fun z r hz=>Zqf z r hz⟩ _ ex3) (h:=?_);refine Zl2 2 ?_;dsimp only [e71,go_sem];refine ⟨by simp,?_⟩;refine Zw4 22 h rfl (fun _ h=>?_) fun _ h=>?_
   ·dsimp only [go_sem];refine Zl2 6 ?_;dsimp only [e71,go_sem];refine ⟨by simp,?_⟩;exact Zz4 J1 (s:=true) h
   ·dsimp only [go_sem];refine Zl2 3 ?_;dsimp only [e71,go_sem];refine ⟨by simp,?_⟩;obtain ⟨x4,ex4,h⟩:=Option.bind_eq_some_iff.1 h;refine Z25 trivial ((Z05.refl _).block 0 rfl rfl) (Z4g x1.Mail _ _ ((fun z=>Znf z x1)) ⟨by kernel_rfl,rfl,fun z r hz=>Zof z x1 r hz⟩ _ ex4) (h:=?_);refine Zl2 2 ?_;dsimp only [e71,go_sem];refine ⟨by simp,?_⟩;exact Zz4 J1 (s:=x4) h
set_option maxRecDepth 100000
set_option maxHeartbeats 4000000
def e73:EC:=.seq (.reg [(Qa 2 (.box 43 2 (.t 0))),(Qa 4 (.mv (.c .ff)))]) (.seq (.reg [(Qa 5 (.mv (.t 1))),(Qa 6 (.bin .geq (.t 5) (.c (.iv 0)))),(Qa 7 (.mv (.t 6))),(Qg 8 7 true (.mv (.t 1))),(Qg 9 7 true (.fld 0 (.t 2))),(Qg 10 7 true (.load (.t 9))),(Qg 11 7 true (.len (.t 10))),(Qg 12 7 true (.bin .lss (.t 8) (.t 11))),(Qa 13 (.pick (.t 7) (.t 12) (.c .ff))),(Qa 4 (.mv (.t 13)))]) (.ret))
theorem ok73:FnOK Try.prog 73 Try.f73 e73 [.t 4] 2 12:=⟨by kernel_rfl,⟨_,rfl,by kernel_rfl⟩,by kernel_rfl,by kernel_rfl⟩
noncomputable def Z8g:Bool→Option Bool
| x3=>
 some x3
noncomputable def Z9g (x1:Scene) (x2:Int):Option Bool:=
 ifb (decide (0≤x2)) (
 Z8g (decide (x2<(ln Diner.row x1.Diners)))) (
 Z8g false)
theorem Zag (x1:Scene) (x2:Int) (r:Bool) (h:Z9g x1 x2=some r):Zq2 Try.prog 73 [.agg (Scene.row x1),.iv x2] (.bv r):=by
 refine Zu2 ok73 rfl rfl fun w0 H0=>?_
 rw [Z9g] at h
 refine Zl2 10 ?_;dsimp only [e73,go_sem];refine ⟨by simp,?_⟩;refine Zl4 (fun (x3:Bool)=>(⟨(an 4 (.bv x3::an 9 [])),[],[]⟩:St)) Z8g r ?_ fun J1=>?_
 ·intro x3 h;rw [Z8g] at h;(try dsimp only);exact Zx4 (res:=fun (r:Bool)=>.bv r) ok73 h
 ·refine Zw4 7 h rfl (fun _ h=>?_) fun _ h=>?_
  ·dsimp only [go_sem];refine Zl2 8 ?_;dsimp only [e73,go_sem];refine ⟨by simp,?_⟩;exact Zz4 J1 (s:=decide (x2<(ln Diner.row x1.Diners))) h
  ·dsimp only [go_sem];refine Zl2 8 ?_;dsimp only [e73,go_sem];refine ⟨by simp,?_⟩;exact Zz4 J1 (s:=false) h
set_option maxRecDepth 100000
set_option maxHeartbeats 4000000
def e119:EC:=.seq (.reg [(Qa 4 (.mv (.c .nl)))]) (.seq (.seq (.reg [(Qa 5 (.mv (.t 1))),(Qa 6 (.bin .lss (.t 5) (.c (.iv 0))))]) (.ite (.t 6) (.reg [(Qa 7 .bad),(Qb .bad)]) (.skip))) (.seq (.seq (.reg [(Qa 8 (.mv (.t 1))),(Qa 9 (.mv (.t 0))),(Qa 10 (.cap (.t 9))),(Qa 11 (.mv (.t 0))),(Qa 12 (.len (.t 11))),(Qa 13 (.bin .sub (.t 10) (.t 12))),(Qa 14 (.bin .sub (.t 8) (.t 13))),(Qa 1 (.mv (.t 14)))]) (.seq (.reg [(Qa 15 (.mv (.t 1))),(Qa 16 (.bin .gtr (.t 15) (.c (.iv 0))))]) (.ite (.t 16) (.reg [(Qa 17 (.mv (.t 0))),(Qa 18 (.mv (.t 0))),(Qa 19 (.cap (.t 18))),(Qa 20 (.slice 5 (.t 17) none (some (.t 19)))),(Qa 21 (.mv (.t 1))),(Qa 22 (.apz 97 5 40 [.iv 0,.iv 0,.iv 0,.iv 0,.iv 0] (.t 20) (.t 21))),(Qa 23 (.mv (.t 0))),(Qa 24 (.len (.t 23))),(Qa 25 (.slice 5 (.t 22) none (some (.t 24)))),(Qa 0 (.mv (.t 25)))]) (.skip)))) (.seq (.reg [(Qa 26 (.mv (.t 0))),(Qa 4 (.mv (.t 26)))]) (.ret))))
theorem ok119:FnOK Try.prog 119 Try.f119 e119 [.t 4] 2 25:=⟨by kernel_rfl,⟨_,rfl,by kernel_rfl⟩,by kernel_rfl,by kernel_rfl⟩
noncomputable def Zbg (_x1:(List Mail)) (_x2:Int):Option (List Mail):=
 none
theorem k_slices_Grow_Mail (x1:(List Mail)) (x2:Int) (r:(List Mail)) (h:Zbg x1 x2=some r):Zq2 Try.prog 119 [.sl 5 (List.map Mail.row x1),.iv x2] (.sl 5 (List.map Mail.row r)):=by
 simp [Zbg] at h
set_option maxRecDepth 100000
set_option maxHeartbeats 4000000
def Zcg:EC:=.seq (.reg [(Qa 28 (.bin .lss (.t 27) (.t 26)))]) (.seq (.ite (.t 28) (.skip) (.exit 2)) (.seq (.blk 3 (.seq (.reg [(Qa 29 (.idx 1 (.t 25) (.t 27))),(Qa 30 (.load (.t 29))),(Qa 8 (.mv (.t 30)))]) (.reg [(Qa 31 (.mv (.t 6))),(Qa 32 (.mv (.t 8))),(Qa 33 (.app 97 5 40 (.t 31) (.t 32))),(Qa 6 (.mv (.t 33)))]))) (.reg [(Qa 34 (.bin .add (.t 27) (.c (.iv 1)))),(Qa 27 (.mv (.t 34)))])))
def Zdg:EC:=.seq (.reg [(Qa 12 (.bin .lss (.t 11) (.t 10)))]) (.seq (.ite (.t 12) (.skip) (.exit 0)) (.seq (.blk 1 (.seq (.reg [(Qa 13 (.idx 1 (.t 9) (.t 11))),(Qa 14 (.load (.t 13))),(Qa 5 (.mv (.t 14)))]) (.seq (.reg [(Qa 15 (.mv (.t 3))),(Qa 16 (.mv (.t 5))),(Qa 17 (.len (.t 16))),(Qa 18 (.bin .add (.t 15) (.t 17))),(Qa 3 (.mv (.t 18)))]) (.seq (.reg [(Qa 19 (.mv (.t 3))),(Qa 20 (.bin .lss (.t 19) (.c (.iv 0))))]) (.ite (.t 20) (.reg [(Qa 21 .bad),(Qb .bad)]) (.skip)))))) (.reg [(Qa 22 (.bin .add (.t 11) (.c (.iv 1)))),(Qa 11 (.mv (.t 22)))])))
def e97:EC:=.seq (.reg [(Qa 2 (.mv (.c .nl)))]) (.seq (.reg [(Qa 3 (.mv (.c (.iv 0))))]) (.seq (.seq (.reg [(Qa 9 (.mv (.t 0))),(Qa 10 (.len (.t 9))),(Qa 11 (.mv (.c (.iv 0))))]) (.blk 0 (.loop Zdg))) (.seq (.reg [(Qa 23 (.mv (.t 3))),(Qa 24 (.call 119 [(.c .nl),(.t 23)])),(Qa 6 (.mv (.t 24)))]) (.seq (.seq (.reg [(Qa 25 (.mv (.t 0))),(Qa 26 (.len (.t 25))),(Qa 27 (.mv (.c (.iv 0))))]) (.blk 2 (.loop Zcg))) (.seq (.reg [(Qa 35 (.mv (.t 6))),(Qa 2 (.mv (.t 35)))]) (.ret))))))
theorem ok97:FnOK Try.prog 97 Try.f97 e97 [.t 2] 1 35:=⟨by kernel_rfl,⟨_,rfl,by kernel_rfl⟩,by kernel_rfl,by kernel_rfl⟩
noncomputable def Zeg:(List Mail)→Option (List Mail)
| x4=>
 some x4
noncomputable def Zfg (x1:Int):Unit→Option (List Mail)
| ()=>
 ifb (decide (0<(wr (x1-(wr (0-0)))))) (
 (apz_ 40 (wr (x1-(wr (0-0)))) ((Mail.mk 0 0 ((Msg.mk 0 0 0))))).bind fun x2=>
 (sub_ x2 0 0).bind fun x3=>
 Zeg x3) (
 Zeg (([]:List Mail)))
noncomputable def Zgg (x1:Int):Option (List Mail):=
 ifb (decide (x1<0)) (
 none) (
 (Zfg x1) ())
theorem Zhg (x1:Int) (r:(List Mail)) (h:Zgg x1=some r):FunT Try.prog 119 [.nl,.iv x1] [] [] (.osl 0) [] [some ⟨97,5,List.map Mail.row r⟩]:=by
 refine Zu5 ok119 rfl rfl rfl (by first | rfl | simp [go_sem]) fun w0 M0=>?_
 rw [Zgg] at h
 dsimp only [lun,List.cons_append,List.nil_append]
 refine Zl2 10 ?_;dsimp only [e119,go_sem];refine ⟨by simp,?_⟩;refine Zl4 (fun (_:Unit)=>(⟨(.nl :: .iv x1::an 25 []),[],[]⟩:St)) (Zfg x1) r ?_ fun J1=>?_
 ·rintro ⟨⟩ h;rw [Zfg] at h;(try dsimp only);refine Zl2 5 ?_;dsimp only [e119,go_sem];refine ⟨by simp,?_⟩;refine V_capN trivial rfl ?_;refine Zl2 11 ?_;dsimp only [e119,go_sem];refine ⟨by simp,?_⟩;refine Zl4 (fun (x4:(List Mail))=>(⟨(.osl 0::an 26 []),[],[some ⟨97,5,List.map Mail.row x4⟩]⟩:St)) Zeg r ?_ fun J2=>?_
  ·intro x4 h;rw [Zeg] at h;(try dsimp only);refine Zl2 5 ?_;dsimp only [e119,go_sem];refine ⟨by simp,?_⟩;obtain rfl:=Option.some.inj h;exact T_done ok119 rfl (by simp [go_sem])
  ·refine Zn4 h rfl (fun _ h=>?_) fun _ h=>?_
   ·refine Zl2 3 ?_;dsimp only [e119,go_sem];refine ⟨by simp,?_⟩;refine V_capN trivial rfl ?_;refine V_sliceN trivial rfl rfl rfl ?_;refine Zl2 1 ?_;dsimp only [e119,go_sem];refine ⟨by simp,?_⟩;obtain ⟨x2,ex2,h⟩:=Option.bind_eq_some_iff.1 h;refine V_apzM Mail.row ex2 trivial rfl rfl rfl rfl ?_;refine Zl2 2 ?_;dsimp only [e119,go_sem];refine ⟨by simp,?_⟩;obtain ⟨x3,ex3,h⟩:=Option.bind_eq_some_iff.1 h;refine V_cutM Mail.row ex3 trivial rfl rfl rfl rfl ?_;refine Zl2 2 ?_;dsimp only [e119,go_sem];refine ⟨by simp,?_⟩;refine Z44 1 0 rfl rfl rfl ?_
    dsimp only [go_sem];exact Zz4 J2 (s:=x3) h
   ·refine Zl2 1 ?_;dsimp only [e119,go_sem];refine ⟨by simp,?_⟩;refine V_own 0 97 5 rfl rfl ?_;dsimp only [go_sem];exact Zz4 J2 (s:=([]:List Mail)) h
 ·refine Zn4 h rfl (fun _ h=>?_) fun _ h=>?_
  ·cases h
  ·refine Zl2 1 ?_;dsimp only [e119,go_sem];refine ⟨by simp,?_⟩;exact Zz4 J1 (s:=()) h
def Zig (_F:Nat):(List Mail)→Option (List Mail)
| x4=>
 some x4
theorem Zjg {F:Nat}:∀s,ole (Zig F s) (Zeg s):=by
 intro x4
 unfold Zig Zeg
 try dsimp only
 with_reducible repeat' first | exact Zf4 _ | assumption | intro _ | refine Zg4 ?_ ?_ | refine Zh4 ?_ ?_ | refine Zi4 ?_ | refine Zj4 ?_
def Zkg (F:Nat) (x1:Int):Unit→Option (List Mail)
| ()=>
 ifb (decide (0<(wr (x1-(wr (0-0)))))) (
 (apz_ 40 (wr (x1-(wr (0-0)))) ((Mail.mk 0 0 ((Msg.mk 0 0 0))))).bind fun x2=>
 (sub_ x2 0 0).bind fun x3=>
 Zig F x3) (
 Zig F (([]:List Mail)))
theorem Zlg {F:Nat} {x1:Int}:∀s,ole (Zkg F x1 s) (Zfg x1 s):=by
 rintro ⟨⟩
 unfold Zkg Zfg
 try dsimp only
 with_reducible repeat' first | exact Zf4 _ | assumption | intro _ | refine Zg4 ?_ ?_ | refine Zh4 ?_ ?_ | refine Zi4 ?_ | refine Zj4 ?_ | apply Zjg
def Zmg (F:Nat) (x1:Int):Option (List Mail):=
 ifb (decide (x1<0)) (
 none) (
 (Zkg F x1) ())
theorem Zng {F:Nat} {x1:Int}:ole (Zmg F x1) (Zgg x1):=by
 unfold Zmg Zgg
 with_reducible repeat' first | exact Zf4 _ | assumption | intro _ | refine Zg4 ?_ ?_ | refine Zh4 ?_ ?_ | refine Zi4 ?_ | refine Zj4 ?_ | apply Zjg | apply Zlg
noncomputable def Zog:(List Mail)→Option (List Mail)
| x31=>
 some x31
noncomputable def Zpg (x1:(List (List Mail))):(Int×(List Mail))→Option ((Int×(List Mail)) ⊕ (List Mail))
| (x21,x22)=>
 ifb (decide (x21<(ln (Z55 5 Mail.row) x1))) (
 (at_ x1 x21).bind fun x23=>
 (Za4 40 x22 x23).bind fun x24=>
 some (.inl (wr (x21+1),x24))) (
 Option.map Sum.inr (Zog x22))
noncomputable def Zqg (x1:(List (List Mail))):Int→Option (List Mail)
| x15=>
 (Zgg x15).bind fun x16=>
 loop (Zpg x1) (0,x16)
noncomputable def Zrg (x5:Int) (x6:Int) (x7:(List Mail)):Unit→Option ((Int×Int) ⊕ (List Mail))
| ()=>
 some (.inl (wr (x5+(ln Mail.row x7)),wr (x6+1)))
noncomputable def Zsg (x1:(List (List Mail))):(Int×Int)→Option ((Int×Int) ⊕ (List Mail))
| (x5,x6)=>
 ifb (decide (x6<(ln (Z55 5 Mail.row) x1))) (
 (at_ x1 x6).bind fun x7=>
 ifb (decide ((wr (x5+(ln Mail.row x7)))<0)) (
 none) (
 (Zrg x5 x6 x7) ())) (
 Option.map Sum.inr ((Zqg x1) x5))
noncomputable def Ztg (x1:(List (List Mail))):Option (List Mail):=
 loop (Zsg x1) (0,0)
theorem Zug (x1:(List (List Mail))) (r:(List Mail)) (h:Ztg x1=some r):FunO Try.prog 97 [.sl 1 (List.map (Z55 5 Mail.row) x1)] 97 5 (List.map Mail.row r):=by
 refine Zc5 ok97 rfl fun w0 H0=>?_
 rw [Ztg] at h
 refine Zl2 15 ?_;dsimp only [e97,Zdg,Zcg,go_sem];refine ⟨by simp,?_⟩;refine Zl4 (fun (x15:Int)=>(⟨(.sl 1 (List.map (Z55 5 Mail.row) x1) :: .any :: .any :: .iv x15::an 32 []),[],[]⟩:St)) (Zqg x1) r ?_ fun J1=>?_
 ·intro x15 h;rw [Zqg] at h;(try dsimp only);refine Zl2 3 ?_;dsimp only [e97,Zdg,Zcg,go_sem];refine ⟨by simp,?_⟩;obtain ⟨x16,ex16,h⟩:=Option.bind_eq_some_iff.1 h;refine V_callT [] [] trivial (Zhg x15 _ ex16) (h:=?_);dsimp only [go_sem];refine Zl2 9 ?_;dsimp only [e97,Zdg,Zcg,go_sem];refine ⟨by simp,?_⟩;refine Zl4 (fun (x31:(List Mail))=>(⟨(an 6 (.osl 0::an 29 [])),[],[some ⟨97,5,List.map Mail.row x31⟩]⟩:St)) Zog r ?_ fun J3=>?_
  ·intro x31 h;rw [Zog] at h;(try dsimp only);refine Zl2 5 ?_;dsimp only [e97,Zdg,Zcg,go_sem];refine ⟨by simp,?_⟩;exact Zj5 Mail.row ok97 h rfl rfl
  ·refine Zl2 1 ?_;dsimp only [e97,Zdg,Zcg,go_sem];refine ⟨by simp,?_⟩;refine Zm4 h (fun ((x21,x22):(Int×(List Mail)))=>(⟨(an 6 (.osl 0::an 18 (.sl 1 (List.map (Z55 5 Mail.row) x1) :: .iv (ln (Z55 5 Mail.row) x1) :: .iv x21::an 8 []))),[],[some ⟨97,5,List.map Mail.row x22⟩]⟩:St)) (by simp [go_sem]) (by rintro ⟨x21,x22⟩;first | rfl | simp [go_sem]) ?_;rintro n1 ⟨x21,x22⟩ y1 h hin1 hout1;rw [Zpg] at h;(try dsimp only);refine Zl2 5 ?_;dsimp only [e97,Zdg,Zcg,go_sem];refine ⟨by simp,?_⟩
   refine Zn4 h rfl (fun _ h=>?_) fun _ h=>?_
   ·refine Zl2 5 ?_;dsimp only [e97,Zdg,Zcg,go_sem];refine ⟨by simp,?_⟩;obtain ⟨x23,ex23,h⟩:=Option.bind_eq_some_iff.1 h;refine Zq4 (Z55 5 Mail.row) ex23 trivial rfl rfl rfl ?_;refine Zl2 6 ?_;dsimp only [e97,Zdg,Zcg,go_sem];refine ⟨by simp,?_⟩;obtain ⟨x24,ex24,h⟩:=Option.bind_eq_some_iff.1 h;refine Zt4 Mail.row ex24 trivial rfl rfl rfl ?_;refine Zl2 7 ?_;dsimp only [e97,Zdg,Zcg,go_sem];refine ⟨by simp,?_⟩;refine Z44 1 0 rfl rfl rfl ?_;dsimp only [go_sem];exact Zy4 h hin1
   ·refine Zl2 1 ?_;dsimp only [e97,Zdg,Zcg,go_sem];refine ⟨by simp,?_⟩;exact Zz4 J3 (s:=x22) (Zk4 h hout1)
 ·refine Zl2 1 ?_;dsimp only [e97,Zdg,Zcg,go_sem];refine ⟨by simp,?_⟩;refine Zm4 h (fun ((x5,x6):(Int×Int))=>(⟨(.sl 1 (List.map (Z55 5 Mail.row) x1) :: .any :: .any :: .iv x5::an 5 (.sl 1 (List.map (Z55 5 Mail.row) x1) :: .iv (ln (Z55 5 Mail.row) x1) :: .iv x6::an 24 [])),[],[]⟩:St)) (by simp [go_sem]) (by rintro ⟨x5,x6⟩;first | rfl | simp [go_sem]) ?_;rintro n1 ⟨x5,x6⟩ y1 h hin1 hout1;rw [Zsg] at h;(try dsimp only);refine Zl2 5 ?_;dsimp only [e97,Zdg,Zcg,go_sem];refine ⟨by simp,?_⟩
  refine Zn4 h rfl (fun _ h=>?_) fun _ h=>?_
  ·refine Zl2 5 ?_;dsimp only [e97,Zdg,Zcg,go_sem];refine ⟨by simp,?_⟩;obtain ⟨x7,ex7,h⟩:=Option.bind_eq_some_iff.1 h;refine Zq4 (Z55 5 Mail.row) ex7 trivial rfl rfl rfl ?_;refine Zl2 16 ?_;dsimp only [e97,Zdg,Zcg,go_sem];refine ⟨by simp,?_⟩;refine Zl4 (fun (_:Unit)=>(⟨(.sl 1 (List.map (Z55 5 Mail.row) x1) :: .any :: .any :: .iv (wr (x5+(ln Mail.row x7)))::an 5 (.sl 1 (List.map (Z55 5 Mail.row) x1) :: .iv (ln (Z55 5 Mail.row) x1) :: .iv x6::an 24 [])),[],[]⟩:St)) (Zrg x5 x6 x7) y1 ?_ fun J2=>?_
   ·rintro ⟨⟩ h;rw [Zrg] at h;(try dsimp only);refine Zl2 5 ?_;dsimp only [e97,Zdg,Zcg,go_sem];refine ⟨by simp,?_⟩;exact Zy4 h hin1
   ·refine Zn4 h rfl (fun _ h=>?_) fun _ h=>?_
    ·cases h
    ·refine Zl2 1 ?_;dsimp only [e97,Zdg,Zcg,go_sem];refine ⟨by simp,?_⟩;exact Zz4 J2 (s:=()) h
  ·refine Zl2 1 ?_;dsimp only [e97,Zdg,Zcg,go_sem];refine ⟨by simp,?_⟩;exact Zz4 J1 (s:=x5) (Zk4 h hout1)
theorem k_slices_Concat_Mail (x1:(List (List Mail))) (r:(List Mail)) (h:Ztg x1=some r):Zq2 Try.prog 97 [.sl 1 (List.map (Z55 5 Mail.row) x1)] (.sl 5 (List.map Mail.row r)):=(Zug x1 r h).sealed
set_option maxRecDepth 100000
set_option maxHeartbeats 4000000
def Zvg:EC:=.seq (.reg [(Qa 48 (.bin .lss (.t 47) (.t 46)))]) (.seq (.ite (.t 48) (.skip) (.exit 0)) (.seq (.blk 1 (.seq (.reg [(Qa 49 (.idx 3 (.t 45) (.t 47))),(Qa 50 (.loadA 3 (.t 49))),(Qa 13 (.alloc 39 [.iv 0,.iv 0,.nl])),(Qb (.store 3 (.t 13) (.t 50)))]) (.seq (.seq (.reg [(Qa 51 (.fld 0 (.t 13))),(Qa 52 (.load (.t 51))),(Qa 53 (.mv (.t 1))),(Qa 54 (.bin .eql (.t 52) (.t 53)))]) (.ite (.t 54) (.reg [(Qa 55 (.loadA 3 (.t 8))),(Qb (.store 3 (.t 13) (.t 55)))]) (.skip))) (.seq (.reg [(Qa 56 (.fld 2 (.t 13))),(Qa 57 (.load (.t 56))),(Qa 58 (.call 121 [(.t 57)])),(Qa 59 (.fld 2 (.t 13))),(Qb (.store 1 (.t 59) (.t 58)))]) (.reg [(Qa 60 (.fld 0 (.t 11))),(Qa 61 (.load (.t 60))),(Qa 62 (.loadA 3 (.t 13))),(Qa 63 (.bsl 39 3 1 [.iv 0,.iv 0,.nl] [(0,(.t 62))])),(Qa 64 (.app 39 3 40 (.t 61) (.t 63))),(Qa 65 (.fld 0 (.t 11))),(Qb (.store 1 (.t 65) (.t 64)))]))))) (.reg [(Qa 66 (.bin .add (.t 47) (.c (.iv 1)))),(Qa 47 (.mv (.t 66)))])))
def e98:EC:=.seq (.reg [(Qa 3 (.box 43 2 (.t 0))),(Qa 6 (.alloc 43 [.nl,.nl])),(Qa 7 (.mv (.c (.iv 0))))]) (.seq (.reg [(Qa 15 (.mv (.t 2))),(Qa 16 (.fld 0 (.t 3))),(Qa 17 (.load (.t 16))),(Qa 18 (.mv (.t 1))),(Qa 19 (.idx 3 (.t 17) (.t 18))),(Qa 20 (.loadA 3 (.t 19))),(Qa 21 (.callv (.t 15) [(.t 20)])),(Qa 14 (.mv (.t 21))),(Qa 22 (.ext (.t 14) 0)),(Qa 23 (.ext (.t 14) 1)),(Qa 8 (.alloc 39 [.iv 0,.iv 0,.nl])),(Qb (.store 3 (.t 8) (.t 22))),(Qa 9 (.mv (.t 23)))]) (.seq (.seq (.reg [(Qa 24 (.mv (.t 9))),(Qa 25 (.bin .neq (.t 24) (.c (.iv 0))))]) (.ite (.t 25) (.seq (.reg [(Qa 26 (.build [.nl,.nl] [])),(Qa 27 (.mv (.t 9))),(Qb (.store 2 (.t 6) (.t 26))),(Qa 7 (.mv (.t 27)))]) (.ret)) (.skip))) (.seq (.reg [(Qa 29 (.loadA 3 (.t 8))),(Qa 30 (.call 120 [(.t 29)])),(Qa 28 (.mv (.t 30))),(Qa 31 (.ext (.t 28) 0)),(Qa 32 (.ext (.t 28) 1)),(Qa 33 (.ext (.t 28) 2)),(Qb (.store 3 (.t 8) (.t 31))),(Qa 10 (.mv (.t 32))),(Qa 9 (.mv (.t 33)))]) (.seq (.seq (.reg [(Qa 34 (.mv (.t 9))),(Qa 35 (.bin .neq (.t 34) (.c (.iv 0))))]) (.ite (.t 35) (.seq (.reg [(Qa 36 (.build [.nl,.nl] [])),(Qa 37 (.mv (.t 9))),(Qb (.store 2 (.t 6) (.t 36))),(Qa 7 (.mv (.t 37)))]) (.ret)) (.skip))) (.seq (.reg [(Qa 38 (.fld 1 (.t 3))),(Qa 39 (.load (.t 38))),(Qa 40 (.mv (.t 10))),(Qa 41 (.bsl 41 1 2 [.nl] [(0,(.t 39)),(1,(.t 40))])),(Qa 42 (.call 97 [(.t 41)])),(Qa 43 (.build [.nl,.nl] [(1,1,(.t 42))])),(Qa 11 (.alloc 43 [.nl,.nl])),(Qb (.store 2 (.t 11) (.t 43)))]) (.seq (.seq (.reg [(Qa 44 (.fld 0 (.t 3))),(Qa 45 (.load (.t 44))),(Qa 46 (.len (.t 45))),(Qa 47 (.mv (.c (.iv 0))))]) (.blk 0 (.loop Zvg))) (.seq (.reg [(Qa 67 (.loadA 2 (.t 11))),(Qb (.store 2 (.t 6) (.t 67))),(Qa 7 (.mv (.c (.iv 0))))]) (.ret))))))))
theorem ok98:FnOK Try.prog 98 Try.f98 e98 [.c 6 (some 2),.t 7] 3 65:=⟨by kernel_rfl,⟨_,rfl,by kernel_rfl⟩,by kernel_rfl,by kernel_rfl⟩
noncomputable def Zwg (x6:(List Mail)):(List Diner)→Option (Scene×Int)
| x28=>
 some ((Scene.mk x28 x6),0)
noncomputable def Zxg (x13:Int) (x14:(List Diner)):Diner→Option ((Int×(List Diner)) ⊕ (Scene×Int))
| x16=>
 (Zrd x16.Sides).bind fun x17=>
 (Za4 40 x14 ([(Diner.mk x16.ID x16.Phase x17)])).bind fun x18=>
 some (.inl (wr (x13+1),x18))
noncomputable def Zyg (x1:Scene) (x2:Int) (x5:(Diner×(List Mail)×Int)) (x6:(List Mail)):(Int×(List Diner))→Option ((Int×(List Diner)) ⊕ (Scene×Int))
| (x13,x14)=>
 ifb (decide (x13<(ln Diner.row x1.Diners))) (
 (at_ x1.Diners x13).bind fun x15=>
 ifb (decide (x15.ID=x2)) (
 (Zxg x13 x14) x5.1) (
 (Zxg x13 x14) x15)) (
 Option.map Sum.inr ((Zwg x6) x14))
noncomputable def Zzg (x1:Scene) (x2:Int) (p2:(Diner→Option (Diner×Int))):Option (Scene×Int):=
 (at_ x1.Diners x2).bind fun x3=>
 (p2 x3).bind fun x4=>
 ifb (!decide (x4.2=0)) (
 some ((Scene.mk (([]:(List Diner))) (([]:(List Mail)))),x4.2)) (
 (Zte x4.1).bind fun x5=>
 ifb (!decide (x5.2.2=0)) (
 some ((Scene.mk (([]:(List Diner))) (([]:(List Mail)))),x5.2.2)) (
 (Ztg ([x1.Mail,x5.2.1])).bind fun x6=>
 loop (Zyg x1 x2 x5 x6) (0,([]:List Diner))))
theorem Z0h (x1:Scene) (x2:Int) (g2:Nat) (caps2:List AV) (p2:(Diner→Option (Diner×Int))) (hc2:CloOK Try.prog g2 caps2 (fun z=>[.agg (Diner.row z)]) p2 (fun z=>.tup [.agg (Diner.row z.1),.iv z.2])) (r:(Scene×Int)) (h:Zzg x1 x2 p2=some r):Zq2 Try.prog 98 [.agg (Scene.row x1),.iv x2,.clo g2 caps2] (.tup [.agg (Scene.row r.1),.iv r.2]):=by
 refine Zu2 ok98 rfl rfl fun w0 H0=>?_
 rw [Zzg] at h
 refine Zl2 12 ?_;dsimp only [e98,Zvg,go_sem];refine ⟨by simp,?_⟩;obtain ⟨x3,ex3,h⟩:=Option.bind_eq_some_iff.1 h;refine Zq4 Diner.row ex3 trivial rfl rfl rfl ?_;refine Zl2 1 ?_;dsimp only [e98,Zvg,go_sem];refine ⟨by simp,?_⟩;obtain ⟨x4,ex4,h⟩:=Option.bind_eq_some_iff.1 h;refine Z35 trivial rfl hc2 (x:=x3) ex4 (by first | exact Z94 _ | simp [go_sem]) (by first | rfl | simp [go_sem,hc2.pu]) ?_;refine Zl2 13 ?_;dsimp only [e98,Zvg,go_sem];refine ⟨by simp,?_⟩;refine Zn4 h rfl (fun _ h=>?_) fun _ h=>?_
 ·refine Zl2 7 ?_;dsimp only [e98,Zvg,go_sem];refine ⟨by simp,?_⟩;exact Zx4 (res:=fun (r:(Scene×Int))=>.tup [.agg (Scene.row r.1),.iv r.2]) ok98 h
 ·refine Zl2 4 ?_;dsimp only [e98,Zvg,go_sem];refine ⟨by simp,?_⟩;obtain ⟨x5,ex5,h⟩:=Option.bind_eq_some_iff.1 h;refine Zz2 trivial (k_dine_Fire x4.1 _ ex5) (hp:=(by first | rfl | simp [go_sem,hc2.pu])) (h:=?_);refine Zl2 14 ?_;dsimp only [e98,Zvg,go_sem];refine ⟨by simp,?_⟩;refine Zn4 h rfl (fun _ h=>?_) fun _ h=>?_
  ·refine Zl2 7 ?_;dsimp only [e98,Zvg,go_sem];refine ⟨by simp,?_⟩;exact Zx4 (res:=fun (r:(Scene×Int))=>.tup [.agg (Scene.row r.1),.iv r.2]) ok98 h
  ·refine Zl2 7 ?_;dsimp only [e98,Zvg,go_sem];refine ⟨by simp,?_⟩;refine Z83 0 rfl ?_;dsimp only [go_sem];obtain ⟨x6,ex6,h⟩:=Option.bind_eq_some_iff.1 h;refine Zd5 trivial (Zug ([x1.Mail,x5.2.1]) _ ex6) (hp:=(by first | rfl | simp [go_sem,hc2.pu])) (h:=?_);refine Zl2 12 ?_;dsimp only [e98,Zvg,go_sem];refine ⟨by simp,?_⟩
   refine Zl4 (fun (x28:(List Diner))=>(⟨(an 6 (.ptr 1 0::an 4 (.ptr 3 0::an 56 []))),[none,some ⟨43,[.nl,.nl]⟩,none,some ⟨43,[.osl 2,.osl 1]⟩],[none,some ⟨97,5,List.map Mail.row x6⟩,some ⟨39,3,List.map Diner.row x28⟩]⟩:St)) (Zwg x6) r ?_ fun J1=>?_
   ·intro x28 h;rw [Zwg] at h;(try dsimp only);refine Zl2 6 ?_;dsimp only [e98,Zvg,go_sem];refine ⟨by simp,?_⟩;refine Z83 2 rfl ?_;dsimp only [go_sem];refine Z83 1 rfl ?_;dsimp only [go_sem];exact Zx4 (res:=fun (r:(Scene×Int))=>.tup [.agg (Scene.row r.1),.iv r.2]) ok98 h
   ·refine Zl2 1 ?_;dsimp only [e98,Zvg,go_sem];refine ⟨by simp,?_⟩;refine V_ownB 3 0 39 3 rfl rfl rfl ?_;dsimp only [go_sem]
    refine Zm4 h (fun ((x13,x14):(Int×(List Diner)))=>(⟨(.any :: .iv x2::an 4 (.ptr 1 0 :: .any :: .ptr 2 0 :: .any :: .any :: .ptr 3 0::an 33 (.sl 3 (List.map Diner.row x1.Diners) :: .iv (ln Diner.row x1.Diners) :: .iv x13::an 20 []))),[none,some ⟨43,[.nl,.nl]⟩,some ⟨39,[.iv x5.1.ID,.iv x5.1.Phase,.sl 8 (List.map Side.row x5.1.Sides)]⟩,some ⟨43,[.osl 2,.osl 1]⟩],[none,some ⟨97,5,List.map Mail.row x6⟩,some ⟨39,3,List.map Diner.row x14⟩]⟩:St)) (by simp [go_sem]) (by rintro ⟨x13,x14⟩;first | rfl | simp [go_sem,Z84 _ hc2.pu]) ?_
    rintro n1 ⟨x13,x14⟩ y1 h hin1 hout1;rw [Zyg] at h;(try dsimp only);refine Zl2 5 ?_;dsimp only [e98,Zvg,go_sem];refine ⟨by simp,?_⟩;refine Zn4 h rfl (fun _ h=>?_) fun _ h=>?_
    ·refine Zl2 5 ?_;dsimp only [e98,Zvg,go_sem];refine ⟨by simp,?_⟩;obtain ⟨x15,ex15,h⟩:=Option.bind_eq_some_iff.1 h;refine Zq4 Diner.row ex15 trivial rfl rfl rfl ?_;refine Zl2 12 ?_;dsimp only [e98,Zvg,go_sem];refine ⟨by simp,?_⟩
     refine Zl4 (fun (x16:Diner)=>(⟨(.any :: .iv x2::an 4 (.ptr 1 0 :: .any :: .ptr 2 0 :: .any :: .any :: .ptr 3 0 :: .any :: .ptr 4 0::an 31 (.sl 3 (List.map Diner.row x1.Diners) :: .iv (ln Diner.row x1.Diners) :: .iv x13::an 20 []))),[none,some ⟨43,[.nl,.nl]⟩,some ⟨39,[.iv x5.1.ID,.iv x5.1.Phase,.sl 8 (List.map Side.row x5.1.Sides)]⟩,some ⟨43,[.osl 2,.osl 1]⟩,some ⟨39,[.iv x16.ID,.iv x16.Phase,.sl 8 (List.map Side.row x16.Sides)]⟩],[none,some ⟨97,5,List.map Mail.row x6⟩,some ⟨39,3,List.map Diner.row x14⟩]⟩:St)) (Zxg x13 x14) y1 ?_ fun J2=>?_
     ·intro x16 h;rw [Zxg] at h;(try dsimp only);refine Zl2 4 ?_;dsimp only [e98,Zvg,go_sem];refine ⟨by simp,?_⟩;obtain ⟨x17,ex17,h⟩:=Option.bind_eq_some_iff.1 h;refine Zd5 trivial (Zsd x16.Sides _ ex17) (hp:=(by first | rfl | simp [go_sem,hc2.pu])) (h:=?_);refine Zl2 7 ?_;dsimp only [e98,Zvg,go_sem];refine ⟨by simp,?_⟩;refine Z83 3 rfl ?_;dsimp only [go_sem];refine Zl2 1 ?_;dsimp only [e98,Zvg,go_sem];refine ⟨by simp,?_⟩;obtain ⟨x18,ex18,h⟩:=Option.bind_eq_some_iff.1 h
      refine Zt4 Diner.row ex18 trivial rfl rfl rfl ?_;refine Zl2 8 ?_;dsimp only [e98,Zvg,go_sem];refine ⟨by simp,?_⟩;refine Z44 5 2 rfl rfl rfl ?_;dsimp only [go_sem];exact Zy4 h hin1 (hok:=by first | rfl | simp [go_sem,Z84 _ hc2.pu])
     ·refine Zn4 h rfl (fun _ h=>?_) fun _ h=>?_
      ·refine Zl2 4 ?_;dsimp only [e98,Zvg,go_sem];refine ⟨by simp,?_⟩;exact Zz4 J2 (s:=x5.1) h (hok:=by first | rfl | simp [go_sem,Z84 _ hc2.pu])
      ·refine Zl2 1 ?_;dsimp only [e98,Zvg,go_sem];refine ⟨by simp,?_⟩;exact Zz4 J2 (s:=x15) h (hok:=by first | rfl | simp [go_sem,Z84 _ hc2.pu])
    ·refine Zl2 1 ?_;dsimp only [e98,Zvg,go_sem];refine ⟨by simp,?_⟩;exact Zz4 J1 (s:=x14) (Zk4 h hout1) (hok:=by first | rfl | simp [go_sem,Z84 _ hc2.pu])
set_option maxRecDepth 100000
set_option maxHeartbeats 4000000
def e76:EC:=.seq (.reg [(Qa 3 (.box 43 2 (.t 0))),(Qa 6 (.alloc 43 [.nl,.nl])),(Qa 7 (.mv (.c (.iv 0))))]) (.seq (.seq (.reg [(Qa 9 (.loadA 2 (.t 3))),(Qa 10 (.call 71 [(.t 9)])),(Qa 8 (.mv (.t 10)))]) (.seq (.reg [(Qa 11 (.mv (.t 8))),(Qa 12 (.bin .neq (.t 11) (.c (.iv 0))))]) (.ite (.t 12) (.seq (.reg [(Qa 13 (.build [.nl,.nl] [])),(Qa 14 (.mv (.t 8))),(Qb (.store 2 (.t 6) (.t 13))),(Qa 7 (.mv (.t 14)))]) (.ret)) (.skip)))) (.seq (.seq (.reg [(Qa 15 (.loadA 2 (.t 3))),(Qa 16 (.mv (.t 1))),(Qa 17 (.call 73 [(.t 15),(.t 16)])),(Qa 18 (.not (.t 17)))]) (.ite (.t 18) (.seq (.reg [(Qa 19 (.build [.nl,.nl] [])),(Qb (.store 2 (.t 6) (.t 19))),(Qa 7 (.mv (.c (.iv 140))))]) (.ret)) (.skip))) (.seq (.reg [(Qa 20 (.loadA 2 (.t 3))),(Qa 21 (.mv (.t 1))),(Qa 22 (.mv (.t 2))),(Qa 23 (.call 98 [(.t 20),(.t 21),(.t 22)])),(Qa 24 (.ext (.t 23) 0)),(Qa 25 (.ext (.t 23) 1)),(Qb (.store 2 (.t 6) (.t 24))),(Qa 7 (.mv (.t 25)))]) (.ret))))
theorem ok76:FnOK Try.prog 76 Try.f76 e76 [.c 6 (some 2),.t 7] 3 23:=⟨by kernel_rfl,⟨_,rfl,by kernel_rfl⟩,by kernel_rfl,by kernel_rfl⟩
noncomputable def Z1h (x1:Scene) (x2:Int) (p2:(Diner→Option (Diner×Int))):Option (Scene×Int):=
 (Z6g x1).bind fun x3=>
 ifb (!decide (x3=0)) (
 some ((Scene.mk (([]:(List Diner))) (([]:(List Mail)))),x3)) (
 (Z9g x1 x2).bind fun x4=>
 ifb (!x4) (
 some ((Scene.mk (([]:(List Diner))) (([]:(List Mail)))),140)) (
 (Zzg x1 x2 p2).bind fun x5=>
 some (x5.1,x5.2)))
theorem Z2h (x1:Scene) (x2:Int) (g2:Nat) (caps2:List AV) (p2:(Diner→Option (Diner×Int))) (hc2:CloOK Try.prog g2 caps2 (fun z=>[.agg (Diner.row z)]) p2 (fun z=>.tup [.agg (Diner.row z.1),.iv z.2])) (r:(Scene×Int)) (h:Z1h x1 x2 p2=some r):Zq2 Try.prog 76 [.agg (Scene.row x1),.iv x2,.clo g2 caps2] (.tup [.agg (Scene.row r.1),.iv r.2]):=by
 refine Zu2 ok76 rfl rfl fun w0 H0=>?_
 rw [Z1h] at h
 refine Zl2 10 ?_;dsimp only [e76,go_sem];refine ⟨by simp,?_⟩;obtain ⟨x3,ex3,h⟩:=Option.bind_eq_some_iff.1 h;refine Zz2 trivial (Z7g x1 _ ex3) (hp:=(by first | rfl | simp [go_sem,hc2.pu])) (h:=?_);refine Zl2 7 ?_;dsimp only [e76,go_sem];refine ⟨by simp,?_⟩;refine Zn4 h rfl (fun _ h=>?_) fun _ h=>?_
 ·refine Zl2 7 ?_;dsimp only [e76,go_sem];refine ⟨by simp,?_⟩;exact Zx4 (res:=fun (r:(Scene×Int))=>.tup [.agg (Scene.row r.1),.iv r.2]) ok76 h
 ·refine Zl2 6 ?_;dsimp only [e76,go_sem];refine ⟨by simp,?_⟩;obtain ⟨x4,ex4,h⟩:=Option.bind_eq_some_iff.1 h;refine Zz2 trivial (Zag x1 x2 _ ex4) (hp:=(by first | rfl | simp [go_sem,hc2.pu])) (h:=?_);refine Zl2 2 ?_;dsimp only [e76,go_sem];refine ⟨by simp,?_⟩;refine Zn4 h rfl (fun _ h=>?_) fun _ h=>?_
  ·refine Zl2 6 ?_;dsimp only [e76,go_sem];refine ⟨by simp,?_⟩;exact Zx4 (res:=fun (r:(Scene×Int))=>.tup [.agg (Scene.row r.1),.iv r.2]) ok76 h
  ·refine Zl2 6 ?_;dsimp only [e76,go_sem];refine ⟨by simp,?_⟩;obtain ⟨x5,ex5,h⟩:=Option.bind_eq_some_iff.1 h;refine Zz2 trivial (Z0h x1 x2 _ _ p2 hc2 _ ex5) (hp:=(by first | rfl | simp [go_sem,hc2.pu])) (h:=?_);refine Zl2 5 ?_;dsimp only [e76,go_sem];refine ⟨by simp,?_⟩;exact Zx4 (res:=fun (r:(Scene×Int))=>.tup [.agg (Scene.row r.1),.iv r.2]) ok76 h
set_option maxRecDepth 100000
set_option maxHeartbeats 4000000
def e69:EC:=.seq (.reg [(Qa 2 (.box 43 2 (.t 0))),(Qa 4 (.alloc 43 [.nl,.nl])),(Qa 5 (.mv (.c (.iv 0))))]) (.seq (.reg [(Qa 6 (.loadA 2 (.t 2))),(Qa 7 (.mv (.t 1))),(Qa 8 (.call 76 [(.t 6),(.t 7),(.c (.clo 94 []))])),(Qa 9 (.ext (.t 8) 0)),(Qa 10 (.ext (.t 8) 1)),(Qb (.store 2 (.t 4) (.t 9))),(Qa 5 (.mv (.t 10)))]) (.ret))
theorem ok69:FnOK Try.prog 69 Try.f69 e69 [.c 4 (some 2),.t 5] 2 9:=⟨by kernel_rfl,⟨_,rfl,by kernel_rfl⟩,by kernel_rfl,by kernel_rfl⟩
noncomputable def Z3h (x1:Scene) (x2:Int):Option (Scene×Int):=
 (Z1h x1 x2 ((fun z=>Zzd z))).bind fun x3=>
 some (x3.1,x3.2)
theorem Z4h (x1:Scene) (x2:Int) (r:(Scene×Int)) (h:Z3h x1 x2=some r):Zq2 Try.prog 69 [.agg (Scene.row x1),.iv x2] (.tup [.agg (Scene.row r.1),.iv r.2]):=by
 refine Zu2 ok69 rfl rfl fun w0 H0=>?_
 rw [Z3h] at h
 refine Zl2 10 ?_;dsimp only [e69,go_sem];refine ⟨by simp,?_⟩;obtain ⟨x3,ex3,h⟩:=Option.bind_eq_some_iff.1 h;refine Zz2 trivial (Z2h x1 x2 _ _ ((fun z=>Zzd z)) ⟨by kernel_rfl,rfl,fun z r hz=>k_dine_Start z r hz⟩ _ ex3) (h:=?_);refine Zl2 5 ?_;dsimp only [e69,go_sem];refine ⟨by simp,?_⟩;exact Zx4 (res:=fun (r:(Scene×Int))=>.tup [.agg (Scene.row r.1),.iv r.2]) ok69 h
set_option maxRecDepth 100000
set_option maxHeartbeats 4000000
def e44:EC:=.seq (.reg [(Qa 2 (.box 43 2 (.t 0))),(Qa 4 (.alloc 43 [.nl,.nl])),(Qa 5 (.mv (.c (.iv 0))))]) (.seq (.reg [(Qa 6 (.loadA 2 (.t 2))),(Qa 7 (.mv (.t 1))),(Qa 8 (.call 76 [(.t 6),(.t 7),(.c (.clo 77 []))])),(Qa 9 (.ext (.t 8) 0)),(Qa 10 (.ext (.t 8) 1)),(Qb (.store 2 (.t 4) (.t 9))),(Qa 5 (.mv (.t 10)))]) (.ret))
theorem ok44:FnOK Try.prog 44 Try.f44 e44 [.c 4 (some 2),.t 5] 2 9:=⟨by kernel_rfl,⟨_,rfl,by kernel_rfl⟩,by kernel_rfl,by kernel_rfl⟩
noncomputable def Z5h (x1:Scene) (x2:Int):Option (Scene×Int):=
 (Z1h x1 x2 ((fun z=>Zyd z))).bind fun x3=>
 some (x3.1,x3.2)
theorem Z6h (x1:Scene) (x2:Int) (r:(Scene×Int)) (h:Z5h x1 x2=some r):Zq2 Try.prog 44 [.agg (Scene.row x1),.iv x2] (.tup [.agg (Scene.row r.1),.iv r.2]):=by
 refine Zu2 ok44 rfl rfl fun w0 H0=>?_
 rw [Z5h] at h
 refine Zl2 10 ?_;dsimp only [e44,go_sem];refine ⟨by simp,?_⟩;obtain ⟨x3,ex3,h⟩:=Option.bind_eq_some_iff.1 h;refine Zz2 trivial (Z2h x1 x2 _ _ ((fun z=>Zyd z)) ⟨by kernel_rfl,rfl,fun z r hz=>k_dine_Stop z r hz⟩ _ ex3) (h:=?_);refine Zl2 5 ?_;dsimp only [e44,go_sem];refine ⟨by simp,?_⟩;exact Zx4 (res:=fun (r:(Scene×Int))=>.tup [.agg (Scene.row r.1),.iv r.2]) ok44 h
set_option maxRecDepth 100000
set_option maxHeartbeats 4000000
def e96:EC:=.seq (.reg [(Qa 3 (.box 97 5 (.t 0))),(Qa 4 (.mv (.c .ff)))]) (.seq (.reg [(Qa 5 (.fld 0 (.t 3))),(Qa 6 (.load (.t 5))),(Qa 7 (.load (.t 1))),(Qa 8 (.bin .eql (.t 6) (.t 7))),(Qa 9 (.mv (.t 8))),(Qg 10 9 true (.fld 1 (.t 3))),(Qg 11 9 true (.load (.t 10))),(Qg 12 9 true (.load (.t 2))),(Qg 13 9 true (.bin .eql (.t 11) (.t 12))),(Qa 14 (.pick (.t 9) (.t 13) (.c .ff))),(Qa 4 (.mv (.t 14)))]) (.ret))
theorem ok96:FnOK Try.prog 96 Try.f96 e96 [.t 4] 3 12:=⟨by kernel_rfl,⟨_,rfl,by kernel_rfl⟩,by kernel_rfl,by kernel_rfl⟩
noncomputable def Z7h:Bool→Option Bool
| x4=>
 some x4
noncomputable def Z8h (x1:Mail) (x2:Int) (x3:Int):Option Bool:=
 ifb (decide (x1.From=x2)) (
 Z7h (decide (x1.To=x3))) (
 Z7h false)
theorem Z9h (x1:Mail) (x2:Int) (x3:Int) (r:Bool) (h:Z8h x1 x2 x3=some r):Zq2 Try.prog 96 [.agg (Mail.row x1),.elt (Z45 x2) 0,.elt (Z45 x3) 0] (.bv r):=by
 refine Zu2 ok96 rfl rfl fun w0 H0=>?_
 rw [Z8h] at h
 refine Zl2 12 ?_;dsimp only [e96,go_sem];refine ⟨by simp,?_⟩;refine Zl4 (fun (x4:Bool)=>(⟨(an 4 (.bv x4::an 10 [])),[],[]⟩:St)) Z7h r ?_ fun J1=>?_
 ·intro x4 h;rw [Z7h] at h;(try dsimp only);exact Zx4 (res:=fun (r:Bool)=>.bv r) ok96 h
 ·refine Zw4 9 h rfl (fun _ h=>?_) fun _ h=>?_
  ·dsimp only [go_sem];refine Zl2 7 ?_;dsimp only [e96,go_sem];refine ⟨by simp,?_⟩;exact Zz4 J1 (s:=decide (x1.To=x3)) h
  ·dsimp only [go_sem];refine Zl2 7 ?_;dsimp only [e96,go_sem];refine ⟨by simp,?_⟩;exact Zz4 J1 (s:=false) h
set_option maxRecDepth 100000
set_option maxHeartbeats 4000000
def e99:EC:=.seq (.reg [(Qa 3 (.box 39 3 (.t 0))),(Qa 4 (.alloc 39 [.iv 0,.iv 0,.nl])),(Qa 5 (.mv (.c (.iv 0))))]) (.seq (.reg [(Qa 6 (.loadA 3 (.t 3))),(Qa 7 (.load (.t 1))),(Qa 8 (.loadA 3 (.t 2))),(Qa 9 (.call 100 [(.t 6),(.t 7),(.t 8)])),(Qa 10 (.ext (.t 9) 0)),(Qa 11 (.ext (.t 9) 1)),(Qb (.store 3 (.t 4) (.t 10))),(Qa 5 (.mv (.t 11)))]) (.ret))
theorem ok99:FnOK Try.prog 99 Try.f99 e99 [.c 4 (some 3),.t 5] 3 9:=⟨by kernel_rfl,⟨_,rfl,by kernel_rfl⟩,by kernel_rfl,by kernel_rfl⟩
noncomputable def Zah (x1:Diner) (x2:Int) (x3:Msg):Option (Diner×Int):=
 (Z6e x1 x2 x3).bind fun x4=>
 some (x4.1,x4.2)
theorem Zbh (x1:Diner) (x2:Int) (x3:Msg) (r:(Diner×Int)) (h:Zah x1 x2 x3=some r):Zq2 Try.prog 99 [.agg (Diner.row x1),.elt (Z45 x2) 0,.elt (Msg.row x3) 0] (.tup [.agg (Diner.row r.1),.iv r.2]):=by
 refine Zu2 ok99 rfl rfl fun w0 H0=>?_
 rw [Zah] at h
 refine Zl2 11 ?_;dsimp only [e99,go_sem];refine ⟨by simp,?_⟩;obtain ⟨x4,ex4,h⟩:=Option.bind_eq_some_iff.1 h;refine Zz2 trivial (k_dine_Get x1 x2 x3 _ ex4) (h:=?_);refine Zl2 5 ?_;dsimp only [e99,go_sem];refine ⟨by simp,?_⟩;exact Zx4 (res:=fun (r:(Diner×Int))=>.tup [.agg (Diner.row r.1),.iv r.2]) ok99 h
set_option maxRecDepth 100000
set_option maxHeartbeats 4000000
def e70:EC:=.seq (.reg [(Qa 3 (.box 43 2 (.t 0))),(Qa 4 (.box 3 1 (.t 1))),(Qa 5 (.box 3 1 (.t 2))),(Qa 6 (.alloc 43 [.nl,.nl])),(Qa 7 (.mv (.c (.iv 0))))]) (.seq (.seq (.reg [(Qa 11 (.loadA 2 (.t 3))),(Qa 12 (.call 71 [(.t 11)])),(Qa 8 (.mv (.t 12)))]) (.seq (.reg [(Qa 13 (.mv (.t 8))),(Qa 14 (.bin .neq (.t 13) (.c (.iv 0))))]) (.ite (.t 14) (.seq (.reg [(Qa 15 (.build [.nl,.nl] [])),(Qa 16 (.mv (.t 8))),(Qb (.store 2 (.t 6) (.t 15))),(Qa 7 (.mv (.t 16)))]) (.ret)) (.skip)))) (.seq (.seq (.reg [(Qa 17 (.loadA 2 (.t 3))),(Qa 18 (.load (.t 4))),(Qa 19 (.call 73 [(.t 17),(.t 18)])),(Qa 20 (.not (.t 19))),(Qa 21 (.mv (.t 20))),(Qg 22 21 false (.loadA 2 (.t 3))),(Qg 23 21 false (.load (.t 5))),(Qg 24 21 false (.call 73 [(.t 22),(.t 23)])),(Qg 25 21 false (.not (.t 24))),(Qa 26 (.pick (.t 21) (.c .tt) (.t 25)))]) (.ite (.t 26) (.seq (.reg [(Qa 27 (.build [.nl,.nl] [])),(Qb (.store 2 (.t 6) (.t 27))),(Qa 7 (.mv (.c (.iv 140))))]) (.ret)) (.skip))) (.seq (.reg [(Qa 28 (.fld 1 (.t 3))),(Qa 29 (.load (.t 28))),(Qa 30 (.mkf 96 [(.t 4),(.t 5)])),(Qa 31 (.call 95 [(.t 29),(.t 30)])),(Qa 9 (.mv (.t 31)))]) (.seq (.seq (.reg [(Qa 32 (.mv (.t 9))),(Qa 33 (.bin .lss (.t 32) (.c (.iv 0))))]) (.ite (.t 33) (.seq (.reg [(Qa 34 (.build [.nl,.nl] [])),(Qb (.store 2 (.t 6) (.t 34))),(Qa 7 (.mv (.c (.iv 141))))]) (.ret)) (.skip))) (.seq (.reg [(Qa 35 (.fld 1 (.t 3))),(Qa 36 (.load (.t 35))),(Qa 37 (.mv (.t 9))),(Qa 38 (.idx 5 (.t 36) (.t 37))),(Qa 39 (.fld 2 (.t 38))),(Qa 40 (.loadA 3 (.t 39))),(Qa 10 (.alloc 93 [.iv 0,.iv 0,.iv 0])),(Qb (.store 3 (.t 10) (.t 40)))]) (.seq (.drw [(Qa 41 (.fld 1 (.t 3))),(Qa 42 (.load (.t 41))),(Qa 43 (.mv (.t 9))),(Qa 44 (.slice 5 (.t 42) none (some (.t 43)))),(Qa 45 (.fld 1 (.t 3))),(Qa 46 (.load (.t 45))),(Qa 47 (.mv (.t 9))),(Qa 48 (.bin .add (.t 47) (.c (.iv 1)))),(Qa 49 (.slice 5 (.t 46) (some (.t 48)) none)),(Qa 50 (.bsl 41 1 2 [.nl] [(0,(.t 44)),(1,(.t 49))])),(Qa 51 (.call 97 [(.t 50)])),(Qa 52 (.fld 1 (.t 3))),(Qb (.store 1 (.t 52) (.t 51)))] [[],[0],[],[1,2],[],[4],[],[6],[5,7],[3,8],[9],[0,1,2,3,4,5,6,7,8,9,10],[11,10,10,0,1,2,3,4,5,6,7,8,9,10]] [[1],[0,3],[3],[1,2,9],[5],[4,8],[7],[6,8],[5,7,9],[3,8,10],[9,12],[12],[10,11]]) (.seq (.reg [(Qa 53 (.loadA 2 (.t 3))),(Qa 54 (.load (.t 5))),(Qa 55 (.mkf 99 [(.t 4),(.t 10)])),(Qa 56 (.call 98 [(.t 53),(.t 54),(.t 55)])),(Qa 57 (.ext (.t 56) 0)),(Qa 58 (.ext (.t 56) 1)),(Qb (.store 2 (.t 6) (.t 57))),(Qa 7 (.mv (.t 58)))]) (.ret))))))))
theorem ok70:FnOK Try.prog 70 Try.f70 e70 [.c 6 (some 2),.t 7] 3 56:=⟨by kernel_rfl,⟨_,rfl,by kernel_rfl⟩,by kernel_rfl,by kernel_rfl⟩
noncomputable def Zch (x1:Scene) (x2:Int) (x3:Int) (x9:Mail):(List Mail)→Option (Scene×Int)
| x15=>
 (Zzg ((Scene.mk x1.Diners x15)) x3 ((fun z=>Zah z x2 x9.Msg))).bind fun x16=>
 some (x16.1,x16.2)
noncomputable def Zdh (x1:Scene) (x2:Int) (x3:Int):Bool→Option (Scene×Int)
| x7=>
 ifb x7 (
 some ((Scene.mk (([]:(List Diner))) (([]:(List Mail)))),140)) (
 (Z1g x1.Mail ((fun z=>Z8h z x2 x3))).bind fun x8=>
 ifb (decide (x8<0)) (
 some ((Scene.mk (([]:(List Diner))) (([]:(List Mail)))),141)) (
 (at_ x1.Mail x8).bind fun x9=>
 (sub_ x1.Mail 0 x8).bind fun x10=>
 (sub_ x1.Mail (wr (x8+1)) (ln Mail.row x1.Mail)).bind fun x11=>
 (Ztg ([x10,x11])).bind fun x14=>
 (Zch x1 x2 x3 x9) x14))
noncomputable def Zeh (x1:Scene) (x2:Int) (x3:Int):Option (Scene×Int):=
 (Z6g x1).bind fun x4=>
 ifb (!decide (x4=0)) (
 some ((Scene.mk (([]:(List Diner))) (([]:(List Mail)))),x4)) (
 (Z9g x1 x2).bind fun x5=>
 ifb (!x5) (
 (Zdh x1 x2 x3) true) (
 (Z9g x1 x3).bind fun x6=>
 (Zdh x1 x2 x3) (!x6)))
theorem Zfh (x1:Scene) (x2:Int) (x3:Int) (r:(Scene×Int)) (h:Zeh x1 x2 x3=some r):Zq2 Try.prog 70 [.agg (Scene.row x1),.iv x2,.iv x3] (.tup [.agg (Scene.row r.1),.iv r.2]):=by
 refine Zu2 ok70 rfl rfl fun w0 H0=>?_
 rw [Zeh] at h
 refine Zl2 12 ?_;dsimp only [e70,go_sem];refine ⟨by simp,?_⟩;obtain ⟨x4,ex4,h⟩:=Option.bind_eq_some_iff.1 h;refine Zz2 trivial (Z7g x1 _ ex4) (h:=?_);refine Zl2 7 ?_;dsimp only [e70,go_sem];refine ⟨by simp,?_⟩;refine Zn4 h rfl (fun _ h=>?_) fun _ h=>?_
 ·refine Zl2 7 ?_;dsimp only [e70,go_sem];refine ⟨by simp,?_⟩;exact Zx4 (res:=fun (r:(Scene×Int))=>.tup [.agg (Scene.row r.1),.iv r.2]) ok70 h
 ·refine Zl2 6 ?_;dsimp only [e70,go_sem];refine ⟨by simp,?_⟩;obtain ⟨x5,ex5,h⟩:=Option.bind_eq_some_iff.1 h;refine Zz2 trivial (Zag x1 x2 _ ex5) (h:=?_);refine Zl2 2 ?_;dsimp only [e70,go_sem];refine ⟨by simp,?_⟩;refine Zl4 (fun (x7:Bool)=>(⟨(an 3 (.ptr 0 0 :: .ptr 1 0 :: .ptr 2 0 :: .ptr 3 0::an 19 (.bv x7::an 32 []))),[some ⟨43,[.sl 3 (List.map Diner.row x1.Diners),.sl 5 (List.map Mail.row x1.Mail)]⟩,some ⟨3,[.iv x2]⟩,some ⟨3,[.iv x3]⟩,some ⟨43,[.nl,.nl]⟩],[]⟩:St)) (Zdh x1 x2 x3) r ?_ fun J1=>?_
  ·intro x7 h;rw [Zdh] at h;(try dsimp only);refine Zn4 h rfl (fun _ h=>?_) fun _ h=>?_
   ·refine Zl2 6 ?_;dsimp only [e70,go_sem];refine ⟨by simp,?_⟩;exact Zx4 (res:=fun (r:(Scene×Int))=>.tup [.agg (Scene.row r.1),.iv r.2]) ok70 h
   ·refine Zl2 6 ?_;dsimp only [e70,go_sem];refine ⟨by simp,?_⟩;obtain ⟨x8,ex8,h⟩:=Option.bind_eq_some_iff.1 h;refine Z25 trivial (((Z05.refl _).block 1 rfl rfl).block 2 rfl rfl) (Z2g x1.Mail _ _ ((fun z=>Z8h z x2 x3)) ⟨by kernel_rfl,rfl,fun z r hz=>Z9h z x2 x3 r hz⟩ _ ex8) (h:=?_);refine Zl2 8 ?_;dsimp only [e70,go_sem];refine ⟨by simp,?_⟩;refine Zn4 h rfl (fun _ h=>?_) fun _ h=>?_
    ·refine Zl2 6 ?_;dsimp only [e70,go_sem];refine ⟨by simp,?_⟩;exact Zx4 (res:=fun (r:(Scene×Int))=>.tup [.agg (Scene.row r.1),.iv r.2]) ok70 h
    ·refine Zl2 6 ?_;dsimp only [e70,go_sem];refine ⟨by simp,?_⟩;obtain ⟨x9,ex9,h⟩:=Option.bind_eq_some_iff.1 h;refine Zq4 Mail.row ex9 trivial rfl rfl rfl ?_;refine Zl2 6 ?_;dsimp only [e70,go_sem];refine ⟨by simp,?_⟩
     refine Zl4 (fun (x15:(List Mail))=>(⟨(an 3 (.ptr 0 0 :: .ptr 1 0 :: .ptr 2 0 :: .ptr 3 0::an 3 (.ptr 4 0::an 48 []))),[some ⟨43,[.sl 3 (List.map Diner.row x1.Diners),.osl 1]⟩,some ⟨3,[.iv x2]⟩,some ⟨3,[.iv x3]⟩,some ⟨43,[.nl,.nl]⟩,some ⟨93,[.iv x9.Msg.Kind,.iv x9.Msg.Epoch,.iv x9.Msg.Num]⟩],[none,some ⟨97,5,List.map Mail.row x15⟩]⟩:St)) (Zch x1 x2 x3 x9) r ?_ fun J2=>?_
     ·intro x15 h;rw [Zch] at h;(try dsimp only);refine Zl2 5 ?_;dsimp only [e70,go_sem];refine ⟨by simp,?_⟩;refine Z83 1 rfl ?_;dsimp only [go_sem];refine V_sealB 1 rfl rfl ?_;dsimp only [go_sem];refine V_sealB 4 rfl rfl ?_;dsimp only [go_sem];obtain ⟨x16,ex16,h⟩:=Option.bind_eq_some_iff.1 h;refine Zz2 trivial (Z0h ((Scene.mk x1.Diners x15)) x3 _ _ ((fun z=>Zah z x2 x9.Msg)) ⟨by kernel_rfl,rfl,fun z r hz=>Zbh z x2 x9.Msg r hz⟩ _ ex16) (h:=?_);refine Zl2 5 ?_;dsimp only [e70,go_sem]
      refine ⟨by simp,?_⟩;exact Zx4 (res:=fun (r:(Scene×Int))=>.tup [.agg (Scene.row r.1),.iv r.2]) ok70 h
     ·refine Zh3 (by kernel_rfl) fun all hall hs hnap haf=>?_;dsimp only [go_sem]
      refine Zi5 hall hs haf hnap 7 6 [true,true,true,false,true,true,true,true,false,false,false,false,false] (⟨(an 3 (.ptr 0 0 :: .ptr 1 0 :: .ptr 2 0 :: .ptr 3 0 :: .any :: .any :: .iv x8 :: .ptr 4 0::an 15 (.bv x7 :: .any :: .ptr 0 1 :: .sl 5 (List.map Mail.row x1.Mail) :: .clo 96 [.ptr 1 0,.ptr 2 0] :: .iv x8 :: .iv x8 :: .bv (decide (x8<0)) :: .any :: .ptr 0 1 :: .sl 5 (List.map Mail.row x1.Mail) :: .iv x8 :: .elt [.iv x9.From,.iv x9.To,.iv x9.Msg.Kind,.iv x9.Msg.Epoch,.iv x9.Msg.Num] 0 :: .elt [.iv x9.From,.iv x9.To,.iv x9.Msg.Kind,.iv x9.Msg.Epoch,.iv x9.Msg.Num] 2 :: .agg [.iv x9.Msg.Kind,.iv x9.Msg.Epoch,.iv x9.Msg.Num] :: .ptr 0 1 :: .sl 5 (List.map Mail.row x1.Mail) :: .iv x8 :: .any :: .ptr 0 1 :: .sl 5 (List.map Mail.row x1.Mail) :: .iv x8 :: .iv (wr (x8+1))::an 10 []))),[some ⟨43,[.sl 3 (List.map Diner.row x1.Diners),.sl 5 (List.map Mail.row x1.Mail)]⟩,some ⟨3,[.iv x2]⟩,some ⟨3,[.iv x3]⟩,some ⟨43,[.nl,.nl]⟩,some ⟨93,[.iv x9.Msg.Kind,.iv x9.Msg.Epoch,.iv x9.Msg.Num]⟩],[]⟩:St) (by kernel_rfl) ?_
      obtain ⟨x10,ex10,h⟩:=Option.bind_eq_some_iff.1 h;obtain ⟨x11,ex11,h⟩:=Option.bind_eq_some_iff.1 h;refine Zu3 3 8 rfl ?_ ?_
      ·refine Zb5 Mail.row ex10 hall rfl trivial rfl rfl rfl rfl ?_;dsimp only [go_sem];refine Zt3 8 rfl ?_;refine Zb5 Mail.row ex11 hall rfl trivial rfl rfl rfl rfl ?_;dsimp only [go_sem];refine Zt3 9 rfl ?_;refine GO_bslS hall rfl trivial rfl trivial ?_;dsimp only [go_sem];refine Zt3 10 rfl ?_;obtain ⟨x14,ex14,h⟩:=Option.bind_eq_some_iff.1 h;refine GO_callO hall rfl trivial (Zug ([x10,x11]) _ ex14) (h:=?_);dsimp only [go_sem];refine Zh5 hall hs haf hnap 1 1 ?_;dsimp only [go_sem];refine ⟨by simp,?_⟩;refine Zt3 12 rfl ?_
       refine Zy3 hall rfl trivial ?_;dsimp only [go_sem];refine Zs3 rfl ?_ _;exact Zz4 J2 (s:=x14) h
      ·refine Zb5 Mail.row ex11 hall rfl trivial rfl rfl rfl rfl ?_;dsimp only [go_sem];refine Zt3 3 rfl ?_;refine Zb5 Mail.row ex10 hall rfl trivial rfl rfl rfl rfl ?_;dsimp only [go_sem];refine Zt3 9 rfl ?_;refine GO_bslS hall rfl trivial rfl trivial ?_;dsimp only [go_sem];refine Zt3 10 rfl ?_;obtain ⟨x14,ex14,h⟩:=Option.bind_eq_some_iff.1 h;refine GO_callO hall rfl trivial (Zug ([x10,x11]) _ ex14) (h:=?_);dsimp only [go_sem];refine Zh5 hall hs haf hnap 1 1 ?_;dsimp only [go_sem];refine ⟨by simp,?_⟩;refine Zt3 12 rfl ?_
       refine Zy3 hall rfl trivial ?_;dsimp only [go_sem];refine Zs3 rfl ?_ _;exact Zz4 J2 (s:=x14) h
  ·refine Zw4 21 h rfl (fun _ h=>?_) fun _ h=>?_
   ·dsimp only [go_sem];refine Zl2 6 ?_;dsimp only [e70,go_sem];refine ⟨by simp,?_⟩;exact Zz4 J1 (s:=true) h
   ·dsimp only [go_sem];refine Zl2 2 ?_;dsimp only [e70,go_sem];refine ⟨by simp,?_⟩;obtain ⟨x6,ex6,h⟩:=Option.bind_eq_some_iff.1 h;refine Zz2 trivial (Zag x1 x3 _ ex6) (h:=?_);refine Zl2 3 ?_;dsimp only [e70,go_sem];refine ⟨by simp,?_⟩;exact Zz4 J1 (s:=!x6) h
set_option maxRecDepth 100000
set_option maxHeartbeats 4000000
def e46:EC:=.seq (.reg [(Qa 2 (.box 43 2 (.t 0))),(Qa 3 (.box 79 3 (.t 1))),(Qa 4 (.alloc 43 [.nl,.nl])),(Qa 5 (.mv (.c (.iv 0))))]) (.seq (.seq (.reg [(Qa 6 (.fld 0 (.t 3))),(Qa 7 (.load (.t 6)))]) (.blk 0 (.seq (.reg [(Qa 9 (.bin .eql (.t 7) (.c (.iv 0)))),(Qa 8 (.mv (.t 9)))]) (.ite (.t 8) (.seq (.reg [(Qa 10 (.loadA 2 (.t 2))),(Qa 11 (.fld 1 (.t 3))),(Qa 12 (.load (.t 11))),(Qa 13 (.call 69 [(.t 10),(.t 12)])),(Qa 14 (.ext (.t 13) 0)),(Qa 15 (.ext (.t 13) 1)),(Qb (.store 2 (.t 4) (.t 14))),(Qa 5 (.mv (.t 15)))]) (.ret)) (.seq (.reg [(Qa 17 (.bin .eql (.t 7) (.c (.iv 1)))),(Qa 16 (.mv (.t 17)))]) (.ite (.t 16) (.seq (.reg [(Qa 18 (.loadA 2 (.t 2))),(Qa 19 (.fld 1 (.t 3))),(Qa 20 (.load (.t 19))),(Qa 21 (.call 44 [(.t 18),(.t 20)])),(Qa 22 (.ext (.t 21) 0)),(Qa 23 (.ext (.t 21) 1)),(Qb (.store 2 (.t 4) (.t 22))),(Qa 5 (.mv (.t 23)))]) (.ret)) (.skip))))))) (.seq (.reg [(Qa 24 (.loadA 2 (.t 2))),(Qa 25 (.fld 1 (.t 3))),(Qa 26 (.load (.t 25))),(Qa 27 (.fld 2 (.t 3))),(Qa 28 (.load (.t 27))),(Qa 29 (.call 70 [(.t 24),(.t 26),(.t 28)])),(Qa 30 (.ext (.t 29) 0)),(Qa 31 (.ext (.t 29) 1)),(Qb (.store 2 (.t 4) (.t 30))),(Qa 5 (.mv (.t 31)))]) (.ret)))
theorem ok46:FnOK Try.prog 46 Try.f46 e46 [.c 4 (some 2),.t 5] 2 30:=⟨by kernel_rfl,⟨_,rfl,by kernel_rfl⟩,by kernel_rfl,by kernel_rfl⟩
noncomputable def Zgh (x1:Scene) (x2:narthexlaw14_Act):Option (Scene×Int):=
 ifb (decide (x2.K=0)) (
 (Z3h x1 x2.A).bind fun x3=>
 some (x3.1,x3.2)) (
 ifb (decide (x2.K=1)) (
 (Z5h x1 x2.A).bind fun x4=>
 some (x4.1,x4.2)) (
 (Zeh x1 x2.A x2.B).bind fun x5=>
 some (x5.1,x5.2)))
theorem Zhh (x1:Scene) (x2:narthexlaw14_Act) (r:(Scene×Int)) (h:Zgh x1 x2=some r):Zq2 Try.prog 46 [.agg (Scene.row x1),.agg (narthexlaw14_Act.row x2)] (.tup [.agg (Scene.row r.1),.iv r.2]):=by
 refine Zu2 ok46 rfl rfl fun w0 H0=>?_
 rw [Zgh] at h
 refine Zl2 19 ?_;dsimp only [e46,go_sem];refine ⟨by simp,?_⟩;refine Zn4 h rfl (fun _ h=>?_) fun _ h=>?_
 ·refine Zl2 5 ?_;dsimp only [e46,go_sem];refine ⟨by simp,?_⟩;obtain ⟨x3,ex3,h⟩:=Option.bind_eq_some_iff.1 h;refine Zz2 trivial (Z4h x1 x2.A _ ex3) (h:=?_);refine Zl2 5 ?_;dsimp only [e46,go_sem];refine ⟨by simp,?_⟩;exact Zx4 (res:=fun (r:(Scene×Int))=>.tup [.agg (Scene.row r.1),.iv r.2]) ok46 h
 ·refine Zl2 5 ?_;dsimp only [e46,go_sem];refine ⟨by simp,?_⟩;refine Zn4 h rfl (fun _ h=>?_) fun _ h=>?_
  ·refine Zl2 5 ?_;dsimp only [e46,go_sem];refine ⟨by simp,?_⟩;obtain ⟨x4,ex4,h⟩:=Option.bind_eq_some_iff.1 h;refine Zz2 trivial (Z6h x1 x2.A _ ex4) (h:=?_);refine Zl2 5 ?_;dsimp only [e46,go_sem];refine ⟨by simp,?_⟩;exact Zx4 (res:=fun (r:(Scene×Int))=>.tup [.agg (Scene.row r.1),.iv r.2]) ok46 h
  ·refine Zl2 9 ?_;dsimp only [e46,go_sem];refine ⟨by simp,?_⟩;obtain ⟨x5,ex5,h⟩:=Option.bind_eq_some_iff.1 h;refine Zz2 trivial (Zfh x1 x2.A x2.B _ ex5) (h:=?_);refine Zl2 5 ?_;dsimp only [e46,go_sem];refine ⟨by simp,?_⟩;exact Zx4 (res:=fun (r:(Scene×Int))=>.tup [.agg (Scene.row r.1),.iv r.2]) ok46 h
set_option maxRecDepth 100000
set_option maxHeartbeats 4000000
def e45:EC:=.seq (.reg [(Qa 1 (.box 43 2 (.t 0))),(Qa 2 (.alloc 43 [.nl,.nl]))]) (.seq (.drw [(Qa 3 (.fld 0 (.t 1))),(Qa 4 (.load (.t 3))),(Qa 5 (.call 22 [(.t 4)])),(Qa 6 (.bsl 97 5 0 [.iv 0,.iv 0,.iv 0,.iv 0,.iv 0] [])),(Qa 7 (.fld 1 (.t 1))),(Qa 8 (.load (.t 7))),(Qa 9 (.app 97 5 40 (.t 6) (.t 8))),(Qa 10 (.build [.nl,.nl] [(0,1,(.t 5)),(1,1,(.t 9))])),(Qb (.store 2 (.t 2) (.t 10)))] [[],[0],[1],[],[],[4],[3,5,2],[2,6],[7,6,0,1,2,3,4,5,6,7]] [[1],[0,2],[1,7],[6],[5],[4,6],[3,5,7],[2,6,8],[7]]) (.ret))
theorem ok45:FnOK Try.prog 45 Try.f45 e45 [.c 2 (some 2)] 1 10:=⟨by kernel_rfl,⟨_,rfl,by kernel_rfl⟩,by kernel_rfl,by kernel_rfl⟩
noncomputable def Zih:((List Diner)×(List Mail))→Option Scene
| (x5,x6)=>
 some (Scene.mk x5 x6)
noncomputable def Zjh (x1:Scene):Option Scene:=
 (Z69 x1.Diners).bind fun x2=>
 (Za4 40 (([]:List Mail)) x1.Mail).bind fun x4=>
 Zih (x2,x4)
theorem Zkh (x1:Scene) (r:Scene) (h:Zjh x1=some r):Zq2 Try.prog 45 [.agg (Scene.row x1)] (.agg (Scene.row r)):=by
 refine Zu2 ok45 rfl rfl fun w0 H0=>?_
 rw [Zjh] at h
 refine Zl2 6 ?_;dsimp only [e45,go_sem];refine ⟨by simp,?_⟩;refine Zl4 (fun ((x5,x6):((List Diner)×(List Mail)))=>(⟨(.any :: .any :: .ptr 1 0::an 8 []),[none,some ⟨43,[.sl 3 (List.map Diner.row x5),.osl 1]⟩],[none,some ⟨97,5,List.map Mail.row x6⟩]⟩:St)) Zih r ?_ fun J1=>?_
 ·rintro ⟨x5,x6⟩ h;rw [Zih] at h;(try dsimp only);refine Z83 1 rfl ?_;dsimp only [go_sem];exact Zx4 (res:=fun (r:Scene)=>.agg (Scene.row r)) ok45 h
 ·refine Zh3 (by kernel_rfl) fun all hall hs hnap haf=>?_;dsimp only [go_sem];refine Zh5 hall hs haf hnap 4 5 ?_;dsimp only [go_sem];refine ⟨by simp,?_⟩;obtain ⟨x2,ex2,h⟩:=Option.bind_eq_some_iff.1 h;refine Zu3 2 3 rfl ?_ ?_
  ·refine Zz3 hall rfl trivial (Z89 x1.Diners _ ex2) (h:=?_);dsimp only [go_sem];refine Zt3 3 rfl ?_;refine Zy3 hall rfl trivial ?_;dsimp only [go_sem];refine Zt3 6 rfl ?_;obtain ⟨x4,ex4,h⟩:=Option.bind_eq_some_iff.1 h;refine Zu4 Mail.row ex4 hall rfl trivial rfl rfl rfl ?_;dsimp only [go_sem];refine Zh5 hall hs haf hnap 1 1 ?_;dsimp only [go_sem];refine ⟨by simp,?_⟩;refine Zt3 8 rfl ?_;refine Zy3 hall rfl trivial ?_;dsimp only [go_sem];refine Zs3 rfl ?_ _;exact Zz4 J1 (s:=(x2,x4)) h
  ·refine Zy3 hall rfl trivial ?_;dsimp only [go_sem];refine Zt3 2 rfl ?_;refine Zz3 hall rfl trivial (Z89 x1.Diners _ ex2) (h:=?_);dsimp only [go_sem];refine Zt3 6 rfl ?_;obtain ⟨x4,ex4,h⟩:=Option.bind_eq_some_iff.1 h;refine Zu4 Mail.row ex4 hall rfl trivial rfl rfl rfl ?_;dsimp only [go_sem];refine Zh5 hall hs haf hnap 1 1 ?_;dsimp only [go_sem];refine ⟨by simp,?_⟩;refine Zt3 8 rfl ?_;refine Zy3 hall rfl trivial ?_;dsimp only [go_sem];refine Zs3 rfl ?_ _;exact Zz4 J1 (s:=(x2,x4)) h
set_option maxRecDepth 100000
set_option maxHeartbeats 4000000
def Zlh:EC:=.seq (.seq (.reg [(Qa 11 (.mv (.t 5))),(Qa 12 (.mv (.t 0))),(Qa 13 (.len (.t 12))),(Qa 14 (.bin .lss (.t 11) (.t 13)))]) (.ite (.t 14) (.skip) (.exit 0))) (.seq (.blk 1 (.seq (.drw [(Qa 17 (.mv (.t 0))),(Qa 18 (.mv (.t 5))),(Qa 19 (.idx 5 (.t 17) (.t 18))),(Qa 20 (.loadA 5 (.t 19))),(Qa 21 (.mv (.t 1))),(Qa 22 (.mv (.t 5))),(Qa 23 (.idx 5 (.t 21) (.t 22))),(Qa 24 (.loadA 5 (.t 23))),(Qa 25 (.eqs true [true,true,true,true,true] (.t 20) (.t 24)))] [[],[],[0,1],[2],[],[],[4,5],[6],[3,7]] [[2],[2],[0,1,3],[2,8],[6],[6],[4,5,7],[6,8],[3,7]]) (.ite (.t 25) (.seq (.reg [(Qa 4 (.mv (.c .ff)))]) (.ret)) (.skip)))) (.reg [(Qa 15 (.mv (.t 5))),(Qa 16 (.bin .add (.t 15) (.c (.iv 1)))),(Qa 5 (.mv (.t 16)))]))
def e78:EC:=.seq (.reg [(Qa 4 (.mv (.c .ff)))]) (.seq (.seq (.reg [(Qa 6 (.mv (.t 0))),(Qa 7 (.len (.t 6))),(Qa 8 (.mv (.t 1))),(Qa 9 (.len (.t 8))),(Qa 10 (.bin .neq (.t 7) (.t 9)))]) (.ite (.t 10) (.seq (.reg [(Qa 4 (.mv (.c .ff)))]) (.ret)) (.skip))) (.seq (.seq (.reg [(Qa 5 (.mv (.c (.iv 0))))]) (.blk 0 (.loop Zlh))) (.seq (.reg [(Qa 4 (.mv (.c .tt)))]) (.ret))))
theorem ok78:FnOK Try.prog 78 Try.f78 e78 [.t 4] 2 24:=⟨by kernel_rfl,⟨_,rfl,by kernel_rfl⟩,by kernel_rfl,by kernel_rfl⟩
noncomputable def Zmh:Unit→Option Bool
| ()=>
 some true
noncomputable def Znh (x1:(List Mail)) (x2:(List Mail)):Int→Option (Int ⊕ Bool)
| x6=>
 ifb (decide (x6<(ln Mail.row x1))) (
 (at_ x1 x6).bind fun x7=>
 (at_ x2 x6).bind fun x8=>
 ifb (!(decide (x7.From=x8.From)&&(decide (x7.To=x8.To)&&(decide (x7.Msg.Kind=x8.Msg.Kind)&&(decide (x7.Msg.Epoch=x8.Msg.Epoch)&&(decide (x7.Msg.Num=x8.Msg.Num)&&true)))))) (
 Option.map Sum.inr (some false)) (
 some (.inl (wr (x6+1))))) (
 Option.map Sum.inr (Zmh ()))
noncomputable def Zoh (x1:(List Mail)) (x2:(List Mail)):Option Bool:=
 ifb (!decide ((ln Mail.row x1)=(ln Mail.row x2))) (
 some false) (
 loop (Znh x1 x2) 0)
theorem Zph (x1:(List Mail)) (x2:(List Mail)) (r:Bool) (h:Zoh x1 x2=some r):Zq2 Try.prog 78 [.sl 5 (List.map Mail.row x1),.sl 5 (List.map Mail.row x2)] (.bv r):=by
 refine Zu2 ok78 rfl rfl fun w0 H0=>?_
 rw [Zoh] at h
 refine Zl2 13 ?_;dsimp only [e78,Zlh,go_sem];refine ⟨by simp,?_⟩;refine Zn4 h rfl (fun _ h=>?_) fun _ h=>?_
 ·refine Zl2 4 ?_;dsimp only [e78,Zlh,go_sem];refine ⟨by simp,?_⟩;exact Zx4 (res:=fun (r:Bool)=>.bv r) ok78 h
 ·refine Zl2 6 ?_;dsimp only [e78,Zlh,go_sem];refine ⟨by simp,?_⟩;refine Zl4 (fun (_:Unit)=>(⟨(an 26 []),[],[]⟩:St)) Zmh r ?_ fun J1=>?_
  ·rintro ⟨⟩ h;rw [Zmh] at h;(try dsimp only);refine Zl2 4 ?_;dsimp only [e78,Zlh,go_sem];refine ⟨by simp,?_⟩;exact Zx4 (res:=fun (r:Bool)=>.bv r) ok78 h
  ·refine Zl2 1 ?_;dsimp only [e78,Zlh,go_sem];refine ⟨by simp,?_⟩;refine Zm4 h (fun (x6:Int)=>(⟨(.sl 5 (List.map Mail.row x1) :: .sl 5 (List.map Mail.row x2)::an 3 (.iv x6::an 20 [])),[],[]⟩:St)) (by simp [go_sem]) (by intro x6;first | rfl | simp [go_sem]) ?_;rintro n1 x6 y1 h hin1 hout1;rw [Znh] at h;(try dsimp only);refine Zl2 8 ?_;dsimp only [e78,Zlh,go_sem];refine ⟨by simp,?_⟩;refine Zn4 h rfl (fun _ h=>?_) fun _ h=>?_
   ·refine Zl2 4 ?_;dsimp only [e78,Zlh,go_sem];refine ⟨by simp,?_⟩;refine Zh3 (by kernel_rfl) fun all hall hs hnap haf=>?_;dsimp only [go_sem];refine Zh5 hall hs haf hnap 4 5 ?_;dsimp only [go_sem];refine ⟨by simp,?_⟩;obtain ⟨x7,ex7,h⟩:=Option.bind_eq_some_iff.1 h;refine Zr4 hall hs haf hnap 2 Mail.row ex7 rfl rfl trivial rfl rfl rfl rfl ?_;refine Zh5 hall hs haf hnap 1 3 ?_;dsimp only [go_sem];refine ⟨by simp,?_⟩;obtain ⟨x8,ex8,h⟩:=Option.bind_eq_some_iff.1 h;refine Zr4 hall hs haf hnap 6 Mail.row ex8 rfl rfl trivial rfl rfl rfl rfl ?_
    refine Zh5 hall hs haf hnap 2 0 ?_;dsimp only [go_sem];refine ⟨by simp,?_⟩;refine Zs3 rfl ?_ _;refine Zn4 h rfl (fun _ h=>?_) fun _ h=>?_
    ·refine Zl2 4 ?_;dsimp only [e78,Zlh,go_sem];refine ⟨by simp,?_⟩;exact Zx4 (res:=fun (r:Bool)=>.bv r) ok78 (Zk4 h hout1)
    ·refine Zl2 7 ?_;dsimp only [e78,Zlh,go_sem];refine ⟨by simp,?_⟩;exact Zy4 h hin1
   ·refine Zl2 1 ?_;dsimp only [e78,Zlh,go_sem];refine ⟨by simp,?_⟩;exact Zz4 J1 (s:=()) (Zk4 h hout1)
set_option maxRecDepth 100000
set_option maxHeartbeats 4000000
def e47:EC:=.seq (.reg [(Qa 2 (.box 43 2 (.t 0))),(Qa 3 (.box 43 2 (.t 1))),(Qa 4 (.mv (.c .ff)))]) (.seq (.reg [(Qa 5 (.fld 0 (.t 2))),(Qa 6 (.load (.t 5))),(Qa 7 (.fld 0 (.t 3))),(Qa 8 (.load (.t 7))),(Qa 9 (.call 18 [(.t 6),(.t 8)])),(Qa 10 (.mv (.t 9))),(Qg 11 10 true (.fld 1 (.t 2))),(Qg 12 10 true (.load (.t 11))),(Qg 13 10 true (.fld 1 (.t 3))),(Qg 14 10 true (.load (.t 13))),(Qg 15 10 true (.call 78 [(.t 12),(.t 14)])),(Qa 16 (.pick (.t 10) (.t 15) (.c .ff))),(Qa 4 (.mv (.t 16)))]) (.ret))
theorem ok47:FnOK Try.prog 47 Try.f47 e47 [.t 4] 2 15:=⟨by kernel_rfl,⟨_,rfl,by kernel_rfl⟩,by kernel_rfl,by kernel_rfl⟩
noncomputable def Zqh:Bool→Option Bool
| x5=>
 some x5
noncomputable def Zrh (x1:Scene) (x2:Scene):Option Bool:=
 (Zn8 x1.Diners x2.Diners).bind fun x3=>
 ifb x3 (
 (Zoh x1.Mail x2.Mail).bind fun x4=>
 Zqh x4) (
 Zqh false)
theorem k_narthexref14_Same (x1:Scene) (x2:Scene) (r:Bool) (h:Zrh x1 x2=some r):Zq2 Try.prog 47 [.agg (Scene.row x1),.agg (Scene.row x2)] (.bv r):=by
 refine Zu2 ok47 rfl rfl fun w0 H0=>?_
 rw [Zrh] at h
 refine Zl2 12 ?_;dsimp only [e47,go_sem];refine ⟨by simp,?_⟩;obtain ⟨x3,ex3,h⟩:=Option.bind_eq_some_iff.1 h;refine Zz2 trivial (Zo8 x1.Diners x2.Diners _ ex3) (h:=?_);refine Zl2 1 ?_;dsimp only [e47,go_sem];refine ⟨by simp,?_⟩;refine Zl4 (fun (x5:Bool)=>(⟨(an 4 (.bv x5::an 12 [])),[],[]⟩:St)) Zqh r ?_ fun J1=>?_
 ·intro x5 h;rw [Zqh] at h;(try dsimp only);exact Zx4 (res:=fun (r:Bool)=>.bv r) ok47 h
 ·refine Zw4 10 h rfl (fun _ h=>?_) fun _ h=>?_
  ·dsimp only [go_sem];refine Zl2 4 ?_;dsimp only [e47,go_sem];refine ⟨by simp,?_⟩;obtain ⟨x4,ex4,h⟩:=Option.bind_eq_some_iff.1 h;refine Zz2 trivial (Zph x1.Mail x2.Mail _ ex4) (h:=?_);refine Zl2 3 ?_;dsimp only [e47,go_sem];refine ⟨by simp,?_⟩;exact Zz4 J1 (s:=x4) h
  ·dsimp only [go_sem];refine Zl2 8 ?_;dsimp only [e47,go_sem];refine ⟨by simp,?_⟩;exact Zz4 J1 (s:=false) h
theorem Zsh (l:List Mail) (p:Mail→Option Bool) (q:Mail→Bool) (hl:l.length≤4000000000000000000) (hp:∀x∈l,p x=some (q x)):Z1g l p=some (plc (l.findIdx? q)):=by
 unfold Z1g
 refine Zg6 l _ q hl (fun k x hx=>?_) ?_
 ·simp only [Z0g,Z96 hx,Z36,Z76 hx,Option.bind_some,hp x (List.mem_iff_getElem?.2 ⟨k,hx⟩),Zc6 hx hl]
  cases q x<;>rfl
 ·simp only [Z0g,Za6,Z46,Zzf,Option.map_some]
theorem Zth (l:List Mail) (p:Mail→Option Bool) (q:Mail→Bool) (hl:l.length≤4000000000000000000) (hp:∀x∈l,p x=some (q x)):Z3g l p=some (l.any q):=by
 unfold Z3g
 rw [Zsh l p q hl hp,Option.bind_some,Ze6,Zh6]
theorem Zuh (l:List Diner) (p:Diner→Option Bool) (q:Diner→Bool) (hl:l.length≤4000000000000000000) (hp:∀x∈l,p x=some (q x)):Zuf l p=some (plc (l.findIdx? q)):=by
 unfold Zuf
 refine Zg6 l _ q hl (fun k x hx=>?_) ?_
 ·simp only [Ztf,Z96 hx,Z36,Z76 hx,Option.bind_some,hp x (List.mem_iff_getElem?.2 ⟨k,hx⟩),Zc6 hx hl]
  cases q x<;>rfl
 ·simp only [Ztf,Za6,Z46,Zsf,Option.map_some]
theorem Zvh (l:List Diner) (p:Diner→Option Bool) (q:Diner→Bool) (hl:l.length≤4000000000000000000) (hp:∀x∈l,p x=some (q x)):Zwf l p=some (l.any q):=by
 unfold Zwf
 rw [Zuh l p q hl hp,Option.bind_some,Ze6,Zh6]
def Zwh:Scene:=⟨[],[]⟩
def Zxh (n:Nat) (m:Mail):Bool:=!(decide (min m.From m.To<0)||(decide ((n:Int)≤max m.From m.To)||decide (m.From=m.To)))
def okS (s:Scene):Bool:=(Z5a s.Diners).2&&(s.Diners.all okD&&s.Mail.all (Zxh s.Diners.length))
theorem s_tCheck1 (m:Mail) (s:Scene):Znf m s=some (!Zxh s.Diners.length m):=by
 simp only [Znf,Zmf,Zxh,Z65,Bool.not_not]
 cases decide (min m.From m.To<0)<;>cases decide ((s.Diners.length:Int)≤max m.From m.To)<;>rfl
theorem s_tCheck (s:Scene) (hD:Zm9 s.Diners) (hM:s.Mail.length≤1000000):Z6g s=some (if okS s then 0 else 142):=by
 simp only [Z6g,s_Graph _ hD,Option.bind_some,Z5g]
 rw [show okS s=((Z5a s.Diners).2&&(s.Diners.all okD&&s.Mail.all (Zxh s.Diners.length))) from rfl]
 cases h1:(Z5a s.Diners).2 with
 | false=>simp
 | true=>
   rw [Zvh s.Diners _ (fun d=>!okD d) (by have:=hD.1;omega) (fun d _=>by
    simp only [Zpf,Zxe,Option.bind_some]
    cases okD d<;>rfl)]
   rw [Zth s.Mail _ (fun m=>!Zxh s.Diners.length m) (by omega) (fun m _=>s_tCheck1 m s)]
   have e1:s.Diners.any (fun d=>!okD d)=!s.Diners.all okD:=Zu7 _ _ _ fun _=>rfl
   have e2:s.Mail.any (fun m=>!Zxh s.Diners.length m)=!s.Mail.all (Zxh s.Diners.length):=Zu7 _ _ _ fun _=>rfl
   rw [e1,e2]
   cases s.Diners.all okD<;>cases s.Mail.all (Zxh s.Diners.length)<;>rfl
def Zyh (s:Scene) (a:Int):Bool:=decide (0≤a)&&decide (a<s.Diners.length)
theorem s_there (s:Scene) (a:Int):Z9g s a=some (Zyh s a):=by
 simp only [Z9g,Z8g,Zyh,Z65]
 cases decide (0≤a)<;>rfl
theorem s_Grow (n:Nat) (hn:n≤3000000):Zgg n=some []:=by
 have e0:wr (0-0)=0:=Z66 (by omega) (by omega)
 have e1:wr ((n:Int)-0)=n:=by rw [Z66 (by omega) (by omega)];omega
 simp only [Zgg,Zfg,Zeg,e0,e1]
 rw [decide_eq_false (by omega),Z46]
 by_cases h:0<n
 ·rw [decide_eq_true (by omega),Z36]
  unfold apz_
  rw [if_pos ⟨by omega,by omega,by omega⟩,Option.bind_some]
  unfold sub_
  rw [if_pos ⟨by omega,by omega,by omega⟩]
  simp
 ·rw [decide_eq_false (by omega),Z46]
theorem s_Concat (a b:List Mail) (ha:a.length≤1000000) (hb:b.length≤1000000):Ztg [a,b]=some (a++b):=by
 have g0:at_ [a,b] 0=some a:=rfl
 have g1:at_ [a,b] (wr (0+1))=some b:=by rw [Z66 (by omega) (by omega)];rfl
 have l0:ln (Z55 5 Mail.row) [a,b]=2:=by rw [Z65];rfl
 have w1:wr (0+1)=1:=Z66 (by omega) (by omega)
 have w2:wr (1+1)=2:=Z66 (by omega) (by omega)
 have s1:wr (0+ln Mail.row a)=(a.length:Int):=by rw [Z65,Z66 (by omega) (by omega)];omega
 have s2:wr ((a.length:Int)+ln Mail.row b)=((a.length+b.length:Nat):Int):=by rw [Z65,Z66 (by omega) (by omega)];omega
 unfold Ztg
 rw [Ze4]
 dsimp only [Zsg]
 rw [l0,show decide ((0:Int)<2)=true from rfl,Z36,g0,Option.bind_some,s1,decide_eq_false (by omega),Z46]
 dsimp only [Zrg]
 rw [s1,w1,Ze4]
 dsimp only [Zsg]
 rw [l0,show decide ((1:Int)<2)=true from rfl,Z36,←w1,g1,Option.bind_some,s2,decide_eq_false (by omega),Z46]
 dsimp only [Zrg]
 rw [s2,w1,w2,Ze4]
 dsimp only [Zsg]
 rw [l0,show decide ((2:Int)<2)=false from rfl,Z46]
 dsimp only [Zqg]
 rw [s_Grow _ (by omega),Option.bind_some]
 have k:loop (Zpg [a,b]) (0,[])=some (a++b):=by
  rw [Ze4]
  dsimp only [Zpg]
  rw [l0,show decide ((0:Int)<2)=true from rfl,Z36,g0,Option.bind_some,Z86 _ _ (by omega) (by simp;omega),Option.bind_some,List.nil_append,w1]
  dsimp only
  rw [Ze4]
  dsimp only [Zpg]
  rw [l0,show decide ((1:Int)<2)=true from rfl,Z36,←w1,g1,Option.bind_some,Z86 _ _ (by omega) (by omega),Option.bind_some,w1,w2]
  dsimp only
  rw [Ze4]
  dsimp only [Zpg]
  rw [l0,show decide ((2:Int)<2)=false from rfl,Z46]
  rfl
 rw [k];rfl
def actS (s:Scene) (a:Int) (d:Diner):Scene:=⟨s.Diners.map fun x=>if x.ID=a then Z6f d else x,s.Mail++Z7f d⟩
def actP (s:Scene) (a:Int) (r:Diner×Int):Scene×Int:=if r.2=0 then (if okD r.1 then (actS s a r.1,0) else (Zwh,130)) else (Zwh,r.2)
theorem okD_fireD {d:Diner} (h:okD d=true):(Z6f d).Sides.length≤64:=by
 have:=Zze h
 unfold Z6f
 split<;>simp<;>omega
theorem s_act (s:Scene) (a:Int) (p:Diner→Option (Diner×Int)) (q:Diner→Diner×Int) (hp:∀d,p d=some (q d)) (hD:Zm9 s.Diners) (hM:s.Mail.length≤900000) (d:Diner) (hd:at_ s.Diners a=some d):Zzg s a p=some (actP s a (q d)):=by
 simp only [Zzg,hd,Option.bind_some,hp,actP]
 by_cases h0:(q d).2=0
 ·simp only [h0,decide_true,Bool.not_true,Z46,s_Fire,Option.bind_some,if_true]
  cases hk:okD (q d).1 with
  | false=>rfl
  | true=>
    have hl:=Zze hk
    have hf:=okD_fireD hk
    have hms:=Z8f (q d).1.Sides (q d).1.ID (q d).1.Phase
    have hc:=s_Concat s.Mail (Z7f (q d).1) (by omega) (by unfold Z7f;omega)
    simp only [if_true,decide_true,Bool.not_true,Z46,hc,Option.bind_some]
    refine Zc9 s.Diners _ (fun pre=>((pre.length:Int),pre.map fun x=>if x.ID=a then Z6f (q d).1 else x)) _ (fun pre x post h=>?_) ?_
    ·have hx:=Zd9 h
     have hm:=Ze9 h
     have h1:=hD.1
     have h2:=hD.2 x (mid_mem h)
     dsimp only [Zyg]
     rw [Z96 hx,Z36,Z76 hx,Option.bind_some,Zg9,List.map_append]
     have step:∀z:Diner,z.Sides.length≤5000→Zxg (pre.length:Int) (pre.map fun x=>if x.ID=a then Z6f (q d).1 else x) z=some (.inl (((pre.length+1:Nat):Int),(pre.map fun x=>if x.ID=a then Z6f (q d).1 else x)++[z])):=fun z hz=>by
      dsimp only [Zxg]
      rw [Zye z.Sides (by omega),Option.bind_some,Z86 _ _ (by omega) (by simp;omega),Option.bind_some,Zb6 (by omega)]
     by_cases hi:x.ID=a
     ·rw [decide_eq_true hi,Z36,step _ (by omega)]
      simp [hi]
     ·rw [decide_eq_false hi,Z46,step _ h2]
      simp [hi]
    ·dsimp only [Zyg]
     rw [Za6,Z46]
     rfl
 ·simp only [h0,decide_false,Bool.not_false,Z36,if_false]
  rfl
def Zzh (s:Scene) (a:Int) (q:Diner→Diner×Int):Scene×Int:=
 if okS s then (if Zyh s a then (match at_ s.Diners a with | some d=>actP s a (q d) | none=>(Zwh,140)) else (Zwh,140)) else (Zwh,142)
theorem Z0i {s:Scene} {a:Int} (h:Zyh s a=true):∃d,at_ s.Diners a=some d∧s.Diners[a.toNat]?=some d:=by
 simp only [Zyh,Bool.and_eq_true,decide_eq_true_eq] at h
 exact at_lt h.1 h.2
theorem s_turn (s:Scene) (a:Int) (p:Diner→Option (Diner×Int)) (q:Diner→Diner×Int) (hp:∀d,p d=some (q d)) (hD:Zm9 s.Diners) (hM:s.Mail.length≤900000):Z1h s a p=some (Zzh s a q):=by
 simp only [Z1h,s_tCheck s hD (by omega),Option.bind_some,Zzh]
 cases okS s with
 | false=>rfl
 | true=>
   simp only [if_true,decide_true,Bool.not_true,Z46,s_there,Option.bind_some]
   cases h:Zyh s a with
   | false=>rfl
   | true=>
     obtain ⟨d,hd,_⟩:=Z0i h
     simp only [Bool.not_true,Z46,s_act s a p q hp hD hM d hd,hd,Option.bind_some,if_true]
theorem s_Start (s:Scene) (a:Int) (hD:Zm9 s.Diners) (hM:s.Mail.length≤900000):Z3h s a=some (Zzh s a fun d=>Z1f d 0 1):=by
 simp only [Z3h,s_turn s a _ (fun d=>Z1f d 0 1) s_dStart hD hM,Option.bind_some]
theorem s_Stop (s:Scene) (a:Int) (hD:Zm9 s.Diners) (hM:s.Mail.length≤900000):Z5h s a=some (Zzh s a fun d=>Z1f d 2 0):=by
 simp only [Z5h,s_turn s a _ (fun d=>Z1f d 2 0) s_dStop hD hM,Option.bind_some]
def Z1i (s:Scene) (a b:Int):Option Nat:=s.Mail.findIdx? fun m=>decide (m.From=a)&&decide (m.To=b)
def Z2i (s:Scene) (a b:Int):Scene×Int:=
 if okS s then (if Zyh s a&&Zyh s b then (match Z1i s a b with
  | none=>(Zwh,141)
  | some i=>match s.Mail[i]?,at_ s.Diners b with
    | some m,some d=>actP ⟨s.Diners,s.Mail.take i++s.Mail.drop (i+1)⟩ b (getD' d a m.Msg)
    | _,_=>(Zwh,140)) else (Zwh,140)) else (Zwh,142)
theorem Z3i (s:Scene) (a b:Int) (hD:Zm9 s.Diners) (hM:s.Mail.length≤900000):Zeh s a b=some (Z2i s a b):=by
 simp only [Zeh,s_tCheck s hD (by omega),Option.bind_some,Z2i]
 cases okS s with
 | false=>rfl
 | true=>
   simp only [if_true,decide_true,Bool.not_true,Z46,s_there,Option.bind_some]
   cases h:Zyh s a with
   | false=>rfl
   | true=>
     cases h':Zyh s b with
     | false=>rfl
     | true=>
       obtain ⟨d,hd,_⟩:=Z0i h'
       simp only [Bool.not_true,Z46,Zdh,Bool.and_self,if_true]
       rw [Zsh s.Mail (fun z=>Z8h z a b) (fun m=>decide (m.From=a)&&decide (m.To=b)) (by omega) (fun m _=>by
        simp only [Z8h,Z7h]
        cases decide (m.From=a)<;>rfl),Option.bind_some,plc_neg]
       have hfi:=Zo9 (fun m:Mail=>decide (m.From=a)&&decide (m.To=b)) s.Mail
       unfold Z1i
       cases hf:s.Mail.findIdx? (fun m=>decide (m.From=a)&&decide (m.To=b)) with
       | none=>rfl
       | some i=>
         rw [hf] at hfi
         obtain ⟨m,hm,_⟩:=hfi
         have hlt:=(List.getElem?_eq_some_iff.1 hm).1
         have e1:sub_ s.Mail 0 (i:Int)=some (s.Mail.take i):=by
          unfold sub_
          rw [if_pos ⟨by omega,by omega,by omega⟩];simp
         have e2:sub_ s.Mail (wr ((i:Int)+1)) (ln Mail.row s.Mail)=some (s.Mail.drop (i+1)):=by
          rw [Zb6 (by omega),Z65]
          unfold sub_
          rw [if_pos ⟨by omega,by omega,by omega⟩];simp
         simp only [Option.isNone_some,Z46,plc,Z76 hm,Option.bind_some,e1,e2,hm,hd]
         rw [s_Concat _ _ (by simp;omega) (by simp;omega),Option.bind_some]
         simp only [Zch]
         rw [s_act ⟨s.Diners,s.Mail.take i++s.Mail.drop (i+1)⟩ b _ (fun d=>getD' d a m.Msg) (fun d=>by simp only [Zah,s_Get,Option.bind_some]) hD (by simp;omega) d hd]
         rfl
def Z4i (s:Scene) (k a b:Int):Scene×Int:=if k=0 then Zzh s a (fun d=>Z1f d 0 1) else if k=1 then Zzh s a (fun d=>Z1f d 2 0) else Z2i s a b
theorem s_act14 (s:Scene) (k a b:Int) (hD:Zm9 s.Diners) (hM:s.Mail.length≤900000):Zgh s ⟨k,a,b⟩=some (Z4i s k a b):=by
 simp only [Zgh,Z4i,s_Start s a hD hM,s_Stop s a hD hM,Z3i s a b hD hM,Option.bind_some]
 by_cases h0:k=0
 ·simp [h0]
 ·by_cases h1:k=1
  ·simp [h1]
  ·simp [h0,h1]
theorem s_own14 (s:Scene) (hD:Zm9 s.Diners) (hM:s.Mail.length≤900000):Zjh s=some s:=by
 simp only [Zjh,s_Own _ hD,Option.bind_some]
 rw [Z86 _ _ (by omega) (by simp;omega)]
 rfl
theorem s_SameMail (l m:List Mail) (hl:l.length≤1000000):Zoh l m=some (decide (l=m)):=by
 simp only [Zoh,Zl9]
 by_cases h:l.length=m.length
 ·simp only [h,decide_true,Bool.not_true,Z46]
  rw [Zi9 l m _ (fun x y=>decide (x=y)) h (by omega) (fun k x y hx hy=>by
   simp only [Znh,Z96 hx,Z36,Z76 hx,Z76 hy,Option.bind_some,Mail_eqB,Zc6 hx (show l.length≤4000000000000000000 by omega),Z56,Option.map_some]
   cases decide (x=y)<;>rfl) (by simp only [Znh,Za6,Z46,Zmh,Option.map_some]),Zj9 l m h]
 ·simp [h,Zk9 h]
theorem s_Same14 (s t:Scene) (hD:Zm9 s.Diners) (hM:s.Mail.length≤900000):Zrh s t=some (decide (s=t)):=by
 obtain ⟨l,m⟩:=s
 obtain ⟨l',m'⟩:=t
 simp only [Zrh,Zqh,s_r12Same _ _ hD,s_SameMail m m' (by simp only at hM;omega),Option.bind_some,Scene.mk.injEq]
 by_cases h1:l=l'<;>by_cases h2:m=m'<;>simp [h1,h2]
theorem ids {l:List Diner} (h:(Z5a l).2=true) {k:Nat} {d:Diner} (hd:l[k]?=some d):d.ID=k:=by
 unfold Z5a at h
 split at h
 ·rename_i h1
  simp only [Bool.and_eq_true] at h1
  have:=((Zba l l 0).1 h1.1 k d hd).1
  simpa using this
 ·simp at h
set_option maxRecDepth 100000
set_option maxHeartbeats 4000000
def Z5i:EC:=.seq (.reg [(Qa 9 (.bin .lss (.t 8) (.t 7)))]) (.seq (.ite (.t 9) (.skip) (.exit 0)) (.seq (.blk 1 (.seq (.reg [(Qa 10 (.mv (.t 8))),(Qa 5 (.mv (.t 10)))]) (.seq (.reg [(Qa 11 (.mv (.t 1))),(Qa 12 (.mv (.t 0))),(Qa 13 (.mv (.t 5))),(Qa 14 (.idx 1 (.t 12) (.t 13))),(Qa 15 (.load (.t 14))),(Qa 16 (.bin .eql (.t 11) (.t 15)))]) (.ite (.t 16) (.seq (.reg [(Qa 17 (.mv (.t 5))),(Qa 4 (.mv (.t 17)))]) (.ret)) (.skip))))) (.reg [(Qa 18 (.bin .add (.t 8) (.c (.iv 1)))),(Qa 8 (.mv (.t 18)))])))
def e87:EC:=.seq (.reg [(Qa 4 (.mv (.c (.iv 0))))]) (.seq (.seq (.reg [(Qa 6 (.mv (.t 0))),(Qa 7 (.len (.t 6))),(Qa 8 (.mv (.c (.iv 0))))]) (.blk 0 (.loop Z5i))) (.seq (.reg [(Qa 4 (.mv (.c (.iv (-1)))))]) (.ret)))
theorem ok87:FnOK Try.prog 87 Try.f87 e87 [.t 4] 2 17:=⟨by kernel_rfl,⟨_,rfl,by kernel_rfl⟩,by kernel_rfl,by kernel_rfl⟩
noncomputable def Z6i:Unit→Option Int
| ()=>
 some (-1)
noncomputable def Z7i (x1:(List Int)) (x2:Int):Int→Option (Int ⊕ Int)
| x5=>
 ifb (decide (x5<(ln Z45 x1))) (
 (at_ x1 x5).bind fun x6=>
 ifb (decide (x2=x6)) (
 Option.map Sum.inr (some x5)) (
 some (.inl (wr (x5+1))))) (
 Option.map Sum.inr (Z6i ()))
noncomputable def Z8i (x1:(List Int)) (x2:Int):Option Int:=
 loop (Z7i x1 x2) 0
theorem Z9i (x1:(List Int)) (x2:Int) (r:Int) (h:Z8i x1 x2=some r):Zq2 Try.prog 87 [.sl 1 (List.map Z45 x1),.iv x2] (.iv r):=by
 refine Zu2 ok87 rfl rfl fun w0 H0=>?_
 rw [Z8i] at h
 refine Zl2 11 ?_;dsimp only [e87,Z5i,go_sem];refine ⟨by simp,?_⟩;refine Zl4 (fun (_:Unit)=>(⟨(an 19 []),[],[]⟩:St)) Z6i r ?_ fun J1=>?_
 ·rintro ⟨⟩ h;rw [Z6i] at h;(try dsimp only);refine Zl2 4 ?_;dsimp only [e87,Z5i,go_sem];refine ⟨by simp,?_⟩;exact Zx4 (res:=fun (r:Int)=>.iv r) ok87 h
 ·refine Zl2 1 ?_;dsimp only [e87,Z5i,go_sem];refine ⟨by simp,?_⟩;refine Zm4 h (fun (x5:Int)=>(⟨(.sl 1 (List.map Z45 x1) :: .iv x2::an 5 (.iv (ln Z45 x1) :: .iv x5::an 10 [])),[],[]⟩:St)) (by simp [go_sem]) (by intro x5;first | rfl | simp [go_sem]) ?_;rintro n1 x5 y1 h hin1 hout1;rw [Z7i] at h;(try dsimp only);refine Zl2 5 ?_;dsimp only [e87,Z5i,go_sem];refine ⟨by simp,?_⟩;refine Zn4 h rfl (fun _ h=>?_) fun _ h=>?_
  ·refine Zl2 13 ?_;dsimp only [e87,Z5i,go_sem];refine ⟨by simp,?_⟩;obtain ⟨x6,ex6,h⟩:=Option.bind_eq_some_iff.1 h;refine Zq4 Z45 ex6 trivial rfl rfl rfl ?_;refine Zl2 3 ?_;dsimp only [e87,Z5i,go_sem];refine ⟨by simp,?_⟩;refine Zn4 h rfl (fun _ h=>?_) fun _ h=>?_
   ·refine Zl2 5 ?_;dsimp only [e87,Z5i,go_sem];refine ⟨by simp,?_⟩;exact Zx4 (res:=fun (r:Int)=>.iv r) ok87 (Zk4 h hout1)
   ·refine Zl2 6 ?_;dsimp only [e87,Z5i,go_sem];refine ⟨by simp,?_⟩;exact Zy4 h hin1
  ·refine Zl2 1 ?_;dsimp only [e87,Z5i,go_sem];refine ⟨by simp,?_⟩;exact Zz4 J1 (s:=()) (Zk4 h hout1)
set_option maxRecDepth 100000
set_option maxHeartbeats 4000000
def e64:EC:=.seq (.reg [(Qa 4 (.mv (.c .ff)))]) (.seq (.reg [(Qa 5 (.mv (.t 0))),(Qa 6 (.mv (.t 1))),(Qa 7 (.call 87 [(.t 5),(.t 6)])),(Qa 8 (.bin .geq (.t 7) (.c (.iv 0)))),(Qa 4 (.mv (.t 8)))]) (.ret))
theorem ok64:FnOK Try.prog 64 Try.f64 e64 [.t 4] 2 7:=⟨by kernel_rfl,⟨_,rfl,by kernel_rfl⟩,by kernel_rfl,by kernel_rfl⟩
noncomputable def Zai (x1:(List Int)) (x2:Int):Option Bool:=
 (Z8i x1 x2).bind fun x3=>
 some (decide (0≤x3))
theorem Zbi (x1:(List Int)) (x2:Int) (r:Bool) (h:Zai x1 x2=some r):Zq2 Try.prog 64 [.sl 1 (List.map Z45 x1),.iv x2] (.bv r):=by
 refine Zu2 ok64 rfl rfl fun w0 H0=>?_
 rw [Zai] at h
 refine Zl2 8 ?_;dsimp only [e64,go_sem];refine ⟨by simp,?_⟩;obtain ⟨x3,ex3,h⟩:=Option.bind_eq_some_iff.1 h;refine Zz2 trivial (Z9i x1 x2 _ ex3) (h:=?_);refine Zl2 3 ?_;dsimp only [e64,go_sem];refine ⟨by simp,?_⟩;exact Zx4 (res:=fun (r:Bool)=>.bv r) ok64 h
set_option maxRecDepth 100000
set_option maxHeartbeats 4000000
def e88:EC:=.seq (.reg [(Qa 2 (.mv (.c .ff)))]) (.seq (.reg [(Qa 3 (.mv (.t 0))),(Qa 4 (.bin .lss (.t 3) (.c (.iv 0)))),(Qa 2 (.mv (.t 4)))]) (.ret))
theorem ok88:FnOK Try.prog 88 Try.f88 e88 [.t 2] 1 4:=⟨by kernel_rfl,⟨_,rfl,by kernel_rfl⟩,by kernel_rfl,by kernel_rfl⟩
noncomputable def Zci (x1:Int):Option Bool:=
 some (decide (x1<0))
theorem Zdi (x1:Int) (r:Bool) (h:Zci x1=some r):Zq2 Try.prog 88 [.iv x1] (.bv r):=by
 refine Zu2 ok88 rfl rfl fun w0 H0=>?_
 rw [Zci] at h
 refine Zl2 10 ?_;dsimp only [e88,go_sem];refine ⟨by simp,?_⟩;exact Zx4 (res:=fun (r:Bool)=>.bv r) ok88 h
set_option maxRecDepth 100000
set_option maxHeartbeats 4000000
def e90:EC:=.seq (.reg [(Qa 4 (.mv (.c .ff)))]) (.seq (.reg [(Qa 5 (.load (.t 1))),(Qa 6 (.mv (.t 0))),(Qa 7 (.idx 1 (.t 5) (.t 6))),(Qa 8 (.load (.t 7))),(Qa 9 (.bin .eql (.t 8) (.c (.iv 0)))),(Qa 10 (.mv (.t 9))),(Qg 11 10 true (.mv (.t 0))),(Qg 12 10 true (.load (.t 2))),(Qg 13 10 true (.bin .gtr (.t 11) (.t 12))),(Qa 14 (.pick (.t 10) (.t 13) (.c .ff))),(Qa 4 (.mv (.t 14)))]) (.ret))
theorem ok90:FnOK Try.prog 90 Try.f90 e90 [.t 4] 3 12:=⟨by kernel_rfl,⟨_,rfl,by kernel_rfl⟩,by kernel_rfl,by kernel_rfl⟩
noncomputable def Zei:Bool→Option Bool
| x5=>
 some x5
noncomputable def Zfi (x1:Int) (x2:(List Int)) (x3:Int):Option Bool:=
 (at_ x2 x1).bind fun x4=>
 ifb (decide (x4=0)) (
 Zei (decide (x3<x1))) (
 Zei false)
theorem Zgi (x1:Int) (x2:(List Int)) (x3:Int) (r:Bool) (h:Zfi x1 x2 x3=some r):Zq2 Try.prog 90 [.iv x1,.elt ((Z55 1 Z45) x2) 0,.elt (Z45 x3) 0] (.bv r):=by
 refine Zu2 ok90 rfl rfl fun w0 H0=>?_
 rw [Zfi] at h
 refine Zl2 8 ?_;dsimp only [e90,go_sem];refine ⟨by simp,?_⟩;obtain ⟨x4,ex4,h⟩:=Option.bind_eq_some_iff.1 h;refine Zq4 Z45 ex4 trivial rfl rfl rfl ?_;refine Zl2 3 ?_;dsimp only [e90,go_sem];refine ⟨by simp,?_⟩;refine Zl4 (fun (x5:Bool)=>(⟨(an 4 (.bv x5::an 10 [])),[],[]⟩:St)) Zei r ?_ fun J1=>?_
 ·intro x5 h;rw [Zei] at h;(try dsimp only);exact Zx4 (res:=fun (r:Bool)=>.bv r) ok90 h
 ·refine Zw4 10 h rfl (fun _ h=>?_) fun _ h=>?_
  ·dsimp only [go_sem];refine Zl2 6 ?_;dsimp only [e90,go_sem];refine ⟨by simp,?_⟩;exact Zz4 J1 (s:=decide (x3<x1)) h
  ·dsimp only [go_sem];refine Zl2 6 ?_;dsimp only [e90,go_sem];refine ⟨by simp,?_⟩;exact Zz4 J1 (s:=false) h
set_option maxRecDepth 100000
set_option maxHeartbeats 4000000
def e91:EC:=.seq (.reg [(Qa 5 (.mv (.c .ff)))]) (.seq (.drw [(Qa 6 (.load (.t 1))),(Qa 7 (.mv (.t 0))),(Qa 8 (.idx 1 (.t 6) (.t 7))),(Qa 9 (.load (.t 8))),(Qa 10 (.load (.t 2))),(Qa 11 (.load (.t 3))),(Qa 12 (.idx 1 (.t 10) (.t 11))),(Qa 13 (.load (.t 12))),(Qa 14 (.bin .eql (.t 9) (.t 13))),(Qa 5 (.mv (.t 14)))] [[],[],[0,1],[2],[],[],[4,5],[6],[3,7],[8,0,1,2,3,4,5,6,7,8]] [[2],[2],[0,1,3],[2,8],[6],[6],[4,5,7],[6,8],[3,7,9],[8]]) (.ret))
theorem ok91:FnOK Try.prog 91 Try.f91 e91 [.t 5] 4 11:=⟨by kernel_rfl,⟨_,rfl,by kernel_rfl⟩,by kernel_rfl,by kernel_rfl⟩
noncomputable def Zhi (x1:Int) (x2:(List Int)) (x3:(List Int)) (x4:Int):Option Bool:=
 (at_ x2 x1).bind fun x5=>
 (at_ x3 x4).bind fun x6=>
 some (decide (x5=x6))
theorem Zii (x1:Int) (x2:(List Int)) (x3:(List Int)) (x4:Int) (r:Bool) (h:Zhi x1 x2 x3 x4=some r):Zq2 Try.prog 91 [.iv x1,.elt ((Z55 1 Z45) x2) 0,.elt ((Z55 1 Z45) x3) 0,.elt (Z45 x4) 0] (.bv r):=by
 refine Zu2 ok91 rfl rfl fun w0 H0=>?_
 rw [Zhi] at h
 refine Zl2 5 ?_;dsimp only [e91,go_sem];refine ⟨by simp,?_⟩;refine Zh3 (by kernel_rfl) fun all hall hs hnap haf=>?_;dsimp only [go_sem];refine Zh5 hall hs haf hnap 4 6 ?_;dsimp only [go_sem];refine ⟨by simp,?_⟩;obtain ⟨x5,ex5,h⟩:=Option.bind_eq_some_iff.1 h;refine Zr4 hall hs haf hnap 2 Z45 ex5 rfl rfl trivial rfl rfl rfl rfl ?_;refine Zh5 hall hs haf hnap 1 4 ?_;dsimp only [go_sem];refine ⟨by simp,?_⟩;obtain ⟨x6,ex6,h⟩:=Option.bind_eq_some_iff.1 h;refine Zr4 hall hs haf hnap 6 Z45 ex6 rfl rfl trivial rfl rfl rfl rfl ?_
 refine Zh5 hall hs haf hnap 3 0 ?_;dsimp only [go_sem];refine ⟨by simp,?_⟩;refine Zs3 rfl ?_ _;exact Zx4 (res:=fun (r:Bool)=>.bv r) ok91 h
end NX
end Go.Proofs.Ytadebhbiglmodaa
