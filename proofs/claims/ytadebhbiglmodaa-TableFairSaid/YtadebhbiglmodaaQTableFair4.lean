/-
  The function narthex/colour.Round: its code compiled, a model, and that the code answers as the model. Written by a program of ours (lb.py). No statement of the seat is proved here.
-/
import Derived.KernelRfl
import Derived.Test.YtadebhbiglmodaaQTableFair1
import Derived.Test.YtadebhbiglmodaaQTableFair3
import Derived.Test.YtadebhbiglmodaaQTableFair2
namespace Go.Proofs.Ytadebhbiglmodaa
namespace NX
open Go
set_option maxRecDepth 100000
set_option maxHeartbeats 4000000
def Zji:EC:=.seq (.seq (.reg [(Qa 47 (.mv (.t 9))),(Qa 48 (.mkf 91 [(.t 3),(.t 7),(.t 8)])),(Qa 49 (.call 82 [(.t 47),(.t 48)]))]) (.ite (.t 49) (.skip) (.exit 2))) (.blk 3 (.reg [(Qa 50 (.load (.t 7))),(Qa 51 (.load (.t 8))),(Qa 52 (.idx 1 (.t 50) (.t 51))),(Qa 53 (.load (.t 52))),(Qa 54 (.bin .add (.t 53) (.c (.iv 1)))),(Qa 55 (.idx 1 (.t 50) (.t 51))),(Qb (.store 1 (.t 55) (.t 54)))]))
def Zki:EC:=.seq (.reg [(Qa 29 (.bin .lss (.t 28) (.t 27)))]) (.seq (.ite (.t 29) (.skip) (.exit 0)) (.seq (.blk 1 (.seq (.reg [(Qa 30 (.mv (.t 28))),(Qa 8 (.alloc 3 [.iv 0])),(Qb (.store 1 (.t 8) (.t 30)))]) (.seq (.reg [(Qa 31 (.loadA 2 (.t 2))),(Qa 32 (.load (.t 8))),(Qa 33 (.call 51 [(.t 31),(.t 32)])),(Qa 9 (.mv (.t 33)))]) (.seq (.seq (.reg [(Qa 34 (.load (.t 3))),(Qa 35 (.load (.t 8))),(Qa 36 (.idx 1 (.t 34) (.t 35))),(Qa 37 (.load (.t 36))),(Qa 38 (.bin .neq (.t 37) (.c (.iv 0)))),(Qa 39 (.mv (.t 38))),(Qg 40 39 false (.mv (.t 9))),(Qg 41 39 false (.mkf 90 [(.t 3),(.t 8)])),(Qg 42 39 false (.call 82 [(.t 40),(.t 41)])),(Qa 43 (.pick (.t 39) (.c .tt) (.t 42)))]) (.ite (.t 43) (.exit 1) (.skip))) (.seq (.reg [(Qa 44 (.load (.t 7))),(Qa 45 (.load (.t 8))),(Qa 46 (.idx 1 (.t 44) (.t 45))),(Qb (.store 1 (.t 46) (.c (.iv 1))))]) (.blk 2 (.loop Zji))))))) (.reg [(Qa 56 (.bin .add (.t 28) (.c (.iv 1)))),(Qa 28 (.mv (.t 56)))])))
def e65:EC:=.seq (.reg [(Qa 2 (.box 24 2 (.t 0))),(Qa 3 (.box 25 1 (.t 1))),(Qa 4 (.mv (.c .nl))),(Qa 5 (.mv (.c (.iv 0))))]) (.seq (.seq (.reg [(Qa 10 (.loadA 2 (.t 2))),(Qa 11 (.call 49 [(.t 10)])),(Qa 6 (.mv (.t 11)))]) (.seq (.reg [(Qa 12 (.mv (.t 6))),(Qa 13 (.bin .neq (.t 12) (.c (.iv 0))))]) (.ite (.t 13) (.seq (.reg [(Qa 14 (.mv (.t 6))),(Qa 4 (.mv (.c .nl))),(Qa 5 (.mv (.t 14)))]) (.ret)) (.skip)))) (.seq (.seq (.reg [(Qa 15 (.load (.t 3))),(Qa 16 (.len (.t 15))),(Qa 17 (.fld 0 (.t 2))),(Qa 18 (.load (.t 17))),(Qa 19 (.bin .neq (.t 16) (.t 18))),(Qa 20 (.mv (.t 19))),(Qg 21 20 false (.load (.t 3))),(Qg 22 20 false (.call 82 [(.t 21),(.c (.clo 88 []))])),(Qa 23 (.pick (.t 20) (.c .tt) (.t 22)))]) (.ite (.t 23) (.seq (.reg [(Qa 4 (.mv (.c .nl))),(Qa 5 (.mv (.c (.iv 110))))]) (.ret)) (.skip))) (.seq (.reg [(Qa 24 (.load (.t 3))),(Qa 25 (.call 89 [(.t 24)])),(Qa 7 (.alloc 25 [.nl])),(Qb (.store 1 (.t 7) (.t 25)))]) (.seq (.seq (.reg [(Qa 26 (.fld 0 (.t 2))),(Qa 27 (.load (.t 26))),(Qa 28 (.mv (.c (.iv 0))))]) (.blk 0 (.loop Zki))) (.seq (.reg [(Qa 57 (.load (.t 7))),(Qa 4 (.mv (.t 57))),(Qa 5 (.mv (.c (.iv 0))))]) (.ret))))))
theorem ok65:FnOK Try.prog 65 Try.f65 e65 [.t 4,.t 5] 2 56:=⟨by kernel_rfl,⟨_,rfl,by kernel_rfl⟩,by kernel_rfl,by kernel_rfl⟩
noncomputable def Zli:(List Int)→Option ((List Int)×Int)
| x54=>
 some (x54,0)
noncomputable def Zmi (x26:Int):(List Int)→Option ((Int×(List Int)) ⊕ ((List Int)×Int))
| x46=>
 some (.inl (wr (x26+1),x46))
noncomputable def Zni (x2:(List Int)) (x26:Int) (x28:(List Int)):(List Int)→Option ((List Int) ⊕ ((Int×(List Int)) ⊕ ((List Int)×Int)))
| x35=>
 (Zj7 x28 ((fun z=>Zhi z x2 x35 x26))).bind fun x36=>
 ifb x36 (
 (at_ x35 x26).bind fun x37=>
 some (.inl (x35.set (x26).toNat (wr (x37+1))))) (
 Option.map Sum.inr ((Zmi x26) x35))
noncomputable def Zoi (x2:(List Int)) (x26:Int) (x27:(List Int)) (x28:(List Int)):Bool→Option ((Int×(List Int)) ⊕ ((List Int)×Int))
| x31=>
 ifb x31 (
 (Zmi x26) x27) (
 (at_ x27 x26).bind fun _=>
 loop (Zni x2 x26 x28) (x27.set (x26).toNat 1))
noncomputable def Zpi (x1:Graph) (x2:(List Int)):(Int×(List Int))→Option ((Int×(List Int)) ⊕ ((List Int)×Int))
| (x26,x27)=>
 ifb (decide (x26<x1.N)) (
 (Zxb x1 x26).bind fun x28=>
 (at_ x2 x26).bind fun x29=>
 ifb (!decide (x29=0)) (
 (Zoi x2 x26 x27 x28) true) (
 (Zj7 x28 ((fun z=>Zfi z x2 x26))).bind fun x30=>
 (Zoi x2 x26 x27 x28) x30)) (
 Option.map Sum.inr (Zli x27))
noncomputable def Zqi (x1:Graph) (x2:(List Int)):Bool→Option ((List Int)×Int)
| x5=>
 ifb x5 (
 some (([]:(List Int)),110)) (
 (Zjb x2).bind fun x6=>
 loop (Zpi x1 x2) (0,x6))
noncomputable def Zri (x1:Graph) (x2:(List Int)):Option ((List Int)×Int):=
 (Zc7 x1).bind fun x3=>
 ifb (!decide (x3=0)) (
 some (([]:(List Int)),x3)) (
 ifb (!decide ((ln Z45 x2)=x1.N)) (
 (Zqi x1 x2) true) (
 (Zj7 x2 ((fun z=>Zci z))).bind fun x4=>
 (Zqi x1 x2) x4))
theorem Zsi (x1:Graph) (x2:(List Int)) (r:((List Int)×Int)) (h:Zri x1 x2=some r):Zq2 Try.prog 65 [.agg (Graph.row x1),.sl 1 (List.map Z45 x2)] (.tup [.sl 1 (List.map Z45 r.1),.iv r.2]):=by
 refine Zu2 ok65 rfl rfl fun w0 H0=>?_
 rw [Zri] at h
 refine Zl2 11 ?_;dsimp only [e65,Zki,Zji,go_sem];refine ⟨by simp,?_⟩;obtain ⟨x3,ex3,h⟩:=Option.bind_eq_some_iff.1 h;refine Zz2 trivial (Zd7 x1 _ ex3) (h:=?_);refine Zl2 7 ?_;dsimp only [e65,Zki,Zji,go_sem];refine ⟨by simp,?_⟩;refine Zn4 h rfl (fun _ h=>?_) fun _ h=>?_
 ·refine Zl2 6 ?_;dsimp only [e65,Zki,Zji,go_sem];refine ⟨by simp,?_⟩;exact Zx4 (res:=fun (r:((List Int)×Int))=>.tup [.sl 1 (List.map Z45 r.1),.iv r.2]) ok65 h
 ·refine Zl2 10 ?_;dsimp only [e65,Zki,Zji,go_sem];refine ⟨by simp,?_⟩;refine Zl4 (fun (x5:Bool)=>(⟨(.any :: .any :: .ptr 0 0 :: .ptr 1 0::an 19 (.bv x5::an 34 [])),[some ⟨24,[.iv x1.N,.sl 2 (List.map Edge.row x1.Edges)]⟩,some ⟨25,[.sl 1 (List.map Z45 x2)]⟩],[]⟩:St)) (Zqi x1 x2) r ?_ fun J1=>?_
  ·intro x5 h;rw [Zqi] at h;(try dsimp only);refine Zn4 h rfl (fun _ h=>?_) fun _ h=>?_
   ·refine Zl2 5 ?_;dsimp only [e65,Zki,Zji,go_sem];refine ⟨by simp,?_⟩;exact Zx4 (res:=fun (r:((List Int)×Int))=>.tup [.sl 1 (List.map Z45 r.1),.iv r.2]) ok65 h
   ·refine Zl2 4 ?_;dsimp only [e65,Zki,Zji,go_sem];refine ⟨by simp,?_⟩;obtain ⟨x6,ex6,h⟩:=Option.bind_eq_some_iff.1 h;refine Zd5 trivial (Zkb x2 _ ex6) (h:=?_);refine Zl2 10 ?_;dsimp only [e65,Zki,Zji,go_sem];refine ⟨by simp,?_⟩;refine Zl4 (fun (x54:(List Int))=>(⟨(an 7 (.ptr 2 0::an 50 [])),[none,none,some ⟨25,[.osl 0]⟩],[some ⟨3,1,List.map Z45 x54⟩]⟩:St)) Zli r ?_ fun J2=>?_
    ·intro x54 h;rw [Zli] at h;(try dsimp only);refine Zl2 6 ?_;dsimp only [e65,Zki,Zji,go_sem];refine ⟨by simp,?_⟩;refine Z83 0 rfl ?_;dsimp only [go_sem];exact Zx4 (res:=fun (r:((List Int)×Int))=>.tup [.sl 1 (List.map Z45 r.1),.iv r.2]) ok65 h
    ·refine Zl2 1 ?_;dsimp only [e65,Zki,Zji,go_sem];refine ⟨by simp,?_⟩;refine Zm4 h (fun ((x26,x27):(Int×(List Int)))=>(⟨(.any :: .any :: .ptr 0 0 :: .ptr 1 0::an 3 (.ptr 2 0::an 19 (.iv x1.N :: .iv x26::an 29 []))),[some ⟨24,[.iv x1.N,.sl 2 (List.map Edge.row x1.Edges)]⟩,some ⟨25,[.sl 1 (List.map Z45 x2)]⟩,some ⟨25,[.osl 0]⟩],[some ⟨3,1,List.map Z45 x27⟩]⟩:St)) (by simp [go_sem]) (by rintro ⟨x26,x27⟩;first | rfl | simp [go_sem]) ?_;rintro n1 ⟨x26,x27⟩ y1 h hin1 hout1;rw [Zpi] at h;(try dsimp only);refine Zl2 5 ?_
     dsimp only [e65,Zki,Zji,go_sem];refine ⟨by simp,?_⟩;refine Zn4 h rfl (fun _ h=>?_) fun _ h=>?_
     ·refine Zl2 2 ?_;dsimp only [e65,Zki,Zji,go_sem];refine ⟨by simp,?_⟩;refine Zl4 (fun (x46:(List Int))=>(⟨(.any :: .any :: .ptr 0 0 :: .ptr 1 0::an 3 (.ptr 2 0::an 19 (.iv x1.N :: .iv x26::an 29 []))),[some ⟨24,[.iv x1.N,.sl 2 (List.map Edge.row x1.Edges)]⟩,some ⟨25,[.sl 1 (List.map Z45 x2)]⟩,some ⟨25,[.osl 0]⟩],[some ⟨3,1,List.map Z45 x46⟩]⟩:St)) (Zmi x26) y1 ?_ fun J3=>?_
      ·intro x46 h;rw [Zmi] at h;(try dsimp only);refine Zl2 4 ?_;dsimp only [e65,Zki,Zji,go_sem];refine ⟨by simp,?_⟩;exact Zy4 h hin1
      ·refine Zl2 11 ?_;dsimp only [e65,Zki,Zji,go_sem];refine ⟨by simp,?_⟩;obtain ⟨x28,ex28,h⟩:=Option.bind_eq_some_iff.1 h;refine Zz2 trivial (Zyb x1 x26 _ ex28) (h:=?_);refine Zl2 7 ?_;dsimp only [e65,Zki,Zji,go_sem];refine ⟨by simp,?_⟩;obtain ⟨x29,ex29,h⟩:=Option.bind_eq_some_iff.1 h;refine Zq4 Z45 ex29 trivial rfl rfl rfl ?_;refine Zl2 3 ?_;dsimp only [e65,Zki,Zji,go_sem];refine ⟨by simp,?_⟩
       refine Zl4 (fun (x31:Bool)=>(⟨(.any :: .any :: .ptr 0 0 :: .ptr 1 0::an 3 (.ptr 2 0 :: .ptr 3 0 :: .sl 1 (List.map Z45 x28)::an 17 (.iv x1.N :: .iv x26::an 14 (.bv x31::an 14 [])))),[some ⟨24,[.iv x1.N,.sl 2 (List.map Edge.row x1.Edges)]⟩,some ⟨25,[.sl 1 (List.map Z45 x2)]⟩,some ⟨25,[.osl 0]⟩,some ⟨3,[.iv x26]⟩],[some ⟨3,1,List.map Z45 x27⟩]⟩:St)) (Zoi x2 x26 x27 x28) y1 ?_ fun J4=>?_
       ·intro x31 h;rw [Zoi] at h;(try dsimp only);refine Zn4 h rfl (fun _ h=>?_) fun _ h=>?_
        ·refine Zl2 1 ?_;dsimp only [e65,Zki,Zji,go_sem];refine ⟨by simp,?_⟩;exact Zz4 J3 (s:=x27) h
        ·refine Zl2 5 ?_;dsimp only [e65,Zki,Zji,go_sem];refine ⟨by simp,?_⟩;obtain ⟨x32,ex32,h⟩:=Option.bind_eq_some_iff.1 h;refine Zk5 Z45 ex32 trivial rfl rfl rfl ?_;refine Zp5 [.iv 1] Z45 (y':=1) ex32 trivial rfl rfl rfl (by first | exact Z94 _ | simp [go_sem]) rfl rfl rfl rfl ?_;refine Zl2 2 ?_;dsimp only [e65,Zki,Zji,go_sem];refine ⟨by simp,?_⟩
         refine Zm4 h (fun (x35:(List Int))=>(⟨(.any :: .any :: .ptr 0 0 :: .ptr 1 0::an 3 (.ptr 2 0 :: .ptr 3 0 :: .sl 1 (List.map Z45 x28)::an 17 (.iv x1.N :: .iv x26::an 29 []))),[some ⟨24,[.iv x1.N,.sl 2 (List.map Edge.row x1.Edges)]⟩,some ⟨25,[.sl 1 (List.map Z45 x2)]⟩,some ⟨25,[.osl 0]⟩,some ⟨3,[.iv x26]⟩],[some ⟨3,1,List.map Z45 x35⟩]⟩:St)) (by simp [go_sem]) (by intro x35;first | rfl | simp [go_sem]) ?_;rintro n2 x35 y2 h hin2 hout2;rw [Zni] at h;(try dsimp only);refine Zl2 5 ?_;dsimp only [e65,Zki,Zji,go_sem]
         refine ⟨by simp,?_⟩;obtain ⟨x36,ex36,h⟩:=Option.bind_eq_some_iff.1 h;refine Z25 trivial (((((Z05.refl _).slice 0 rfl).block 1 rfl rfl).block 2 rfl rfl).block 3 rfl rfl) (Zk7 x28 _ _ ((fun z=>Zhi z x2 x35 x26)) ⟨by kernel_rfl,rfl,fun z r hz=>Zii z x2 x35 x26 r hz⟩ _ ex36) (h:=?_);refine Zl2 1 ?_;dsimp only [e65,Zki,Zji,go_sem];refine ⟨by simp,?_⟩;refine Zn4 h rfl (fun _ h=>?_) fun _ h=>?_
         ·refine Zl2 5 ?_;dsimp only [e65,Zki,Zji,go_sem];refine ⟨by simp,?_⟩;obtain ⟨x37,ex37,h⟩:=Option.bind_eq_some_iff.1 h;refine Zk5 Z45 ex37 trivial rfl rfl rfl ?_;refine Zl5 Z45 ex37 trivial rfl rfl rfl ?_;refine Zl2 1 ?_;dsimp only [e65,Zki,Zji,go_sem];refine ⟨by simp,?_⟩;refine Zk5 Z45 ex37 trivial rfl rfl rfl ?_;refine Zp5 [.iv (wr (x37+1))] Z45 (y':=wr (x37+1)) ex37 trivial rfl rfl rfl (by first | exact Z94 _ | simp [go_sem]) rfl rfl rfl rfl ?_;refine Zl2 2 ?_
          dsimp only [e65,Zki,Zji,go_sem];refine ⟨by simp,?_⟩;exact Zy4 h hin2
         ·refine Zl2 2 ?_;dsimp only [e65,Zki,Zji,go_sem];refine ⟨by simp,?_⟩;exact Zz4 J3 (s:=x35) (Zk4 h hout2)
       ·refine Zw4 39 h rfl (fun _ h=>?_) fun _ h=>?_
        ·dsimp only [go_sem];refine Zl2 5 ?_;dsimp only [e65,Zki,Zji,go_sem];refine ⟨by simp,?_⟩;exact Zz4 J4 (s:=true) h
        ·dsimp only [go_sem];refine Zl2 2 ?_;dsimp only [e65,Zki,Zji,go_sem];refine ⟨by simp,?_⟩;obtain ⟨x30,ex30,h⟩:=Option.bind_eq_some_iff.1 h;refine Z25 trivial (((Z05.refl _).block 1 rfl rfl).block 3 rfl rfl) (Zk7 x28 _ _ ((fun z=>Zfi z x2 x26)) ⟨by kernel_rfl,rfl,fun z r hz=>Zgi z x2 x26 r hz⟩ _ ex30) (h:=?_);refine Zl2 2 ?_;dsimp only [e65,Zki,Zji,go_sem];refine ⟨by simp,?_⟩;exact Zz4 J4 (s:=x30) h
     ·refine Zl2 1 ?_;dsimp only [e65,Zki,Zji,go_sem];refine ⟨by simp,?_⟩;exact Zz4 J2 (s:=x27) (Zk4 h hout1)
  ·refine Zw4 20 h rfl (fun _ h=>?_) fun _ h=>?_
   ·dsimp only [go_sem];refine Zl2 4 ?_;dsimp only [e65,Zki,Zji,go_sem];refine ⟨by simp,?_⟩;exact Zz4 J1 (s:=true) h
   ·dsimp only [go_sem];refine Zl2 1 ?_;dsimp only [e65,Zki,Zji,go_sem];refine ⟨by simp,?_⟩;obtain ⟨x4,ex4,h⟩:=Option.bind_eq_some_iff.1 h;refine Zz2 trivial (Zk7 x2 _ _ ((fun z=>Zci z)) ⟨by kernel_rfl,rfl,fun z r hz=>Zdi z r hz⟩ _ ex4) (h:=?_);refine Zl2 2 ?_;dsimp only [e65,Zki,Zji,go_sem];refine ⟨by simp,?_⟩;exact Zz4 J1 (s:=x4) h
set_option maxRecDepth 100000
set_option maxHeartbeats 4000000
def Zti:EC:=.seq (.seq (.reg [(Qa 16 (.mv (.t 6))),(Qa 17 (.call 64 [(.t 16),(.c (.iv 0))]))]) (.ite (.t 17) (.skip) (.exit 0))) (.blk 1 (.seq (.reg [(Qa 19 (.loadA 2 (.t 1))),(Qa 20 (.mv (.t 6))),(Qa 21 (.call 65 [(.t 19),(.t 20)])),(Qa 18 (.mv (.t 21))),(Qa 22 (.ext (.t 18) 0)),(Qa 23 (.ext (.t 18) 1)),(Qa 6 (.mv (.t 22)))]) (.reg [(Qa 24 (.mv (.t 7))),(Qa 25 (.bin .add (.t 24) (.c (.iv 1)))),(Qa 7 (.mv (.t 25)))])))
def e31:EC:=.seq (.reg [(Qa 1 (.box 24 2 (.t 0))),(Qa 2 (.mv (.c .nl))),(Qa 3 (.mv (.c (.iv 0)))),(Qa 4 (.mv (.c (.iv 0))))]) (.seq (.seq (.reg [(Qa 8 (.loadA 2 (.t 1))),(Qa 9 (.call 49 [(.t 8)])),(Qa 5 (.mv (.t 9)))]) (.seq (.reg [(Qa 10 (.mv (.t 5))),(Qa 11 (.bin .neq (.t 10) (.c (.iv 0))))]) (.ite (.t 11) (.seq (.reg [(Qa 12 (.mv (.t 5))),(Qa 2 (.mv (.c .nl))),(Qa 3 (.mv (.c (.iv 0)))),(Qa 4 (.mv (.t 12)))]) (.ret)) (.skip)))) (.seq (.reg [(Qa 13 (.fld 0 (.t 1))),(Qa 14 (.load (.t 13))),(Qa 15 (.mks 3 1 8 [.iv 0] (.t 14) (.t 14))),(Qa 6 (.mv (.t 15))),(Qa 7 (.mv (.c (.iv 0))))]) (.seq (.blk 0 (.loop Zti)) (.seq (.reg [(Qa 26 (.mv (.t 6))),(Qa 27 (.mv (.t 7))),(Qa 2 (.mv (.t 26))),(Qa 3 (.mv (.t 27))),(Qa 4 (.mv (.c (.iv 0))))]) (.ret)))))
theorem ok31:FnOK Try.prog 31 Try.f31 e31 [.t 2,.t 3,.t 4] 1 27:=⟨by kernel_rfl,⟨_,rfl,by kernel_rfl⟩,by kernel_rfl,by kernel_rfl⟩
noncomputable def Zui:((List Int)×Int)→Option ((List Int)×Int×Int)
| (x17,x18)=>
 some (x17,x18,0)
noncomputable def Zvi (x1:Graph):((List Int)×Int)→Option (((List Int)×Int) ⊕ ((List Int)×Int×Int))
| (x8,x9)=>
 (Zai x8 0).bind fun x10=>
 ifb x10 (
 (Zri x1 x8).bind fun x11=>
 some (.inl (x11.1,wr (x9+1)))) (
 Option.map Sum.inr (Zui (x8,x9)))
noncomputable def Zwi (x1:Graph):Option ((List Int)×Int×Int):=
 (Zc7 x1).bind fun x2=>
 ifb (!decide (x2=0)) (
 some (([]:(List Int)),0,x2)) (
 (mk_ 8 x1.N 0).bind fun x3=>
 loop (Zvi x1) (x3,0))
theorem k_colour_Run (x1:Graph) (r:((List Int)×Int×Int)) (h:Zwi x1=some r):Zq2 Try.prog 31 [.agg (Graph.row x1)] (.tup [.sl 1 (List.map Z45 r.1),.iv r.2.1,.iv r.2.2]):=by
 refine Zu2 ok31 rfl rfl fun w0 H0=>?_
 rw [Zwi] at h
 refine Zl2 11 ?_;dsimp only [e31,Zti,go_sem];refine ⟨by simp,?_⟩;obtain ⟨x2,ex2,h⟩:=Option.bind_eq_some_iff.1 h;refine Zz2 trivial (Zd7 x1 _ ex2) (h:=?_);refine Zl2 7 ?_;dsimp only [e31,Zti,go_sem];refine ⟨by simp,?_⟩;refine Zn4 h rfl (fun _ h=>?_) fun _ h=>?_
 ·refine Zl2 7 ?_;dsimp only [e31,Zti,go_sem];refine ⟨by simp,?_⟩;exact Zx4 (res:=fun (r:((List Int)×Int×Int))=>.tup [.sl 1 (List.map Z45 r.1),.iv r.2.1,.iv r.2.2]) ok31 h
 ·refine Zl2 5 ?_;dsimp only [e31,Zti,go_sem];refine ⟨by simp,?_⟩;obtain ⟨x3,ex3,h⟩:=Option.bind_eq_some_iff.1 h;refine V_mksM Z45 ex3 trivial rfl rfl rfl rfl ?_;refine Zl2 4 ?_;dsimp only [e31,Zti,go_sem];refine ⟨by simp,?_⟩;refine Zl4 (fun ((x17,x18):((List Int)×Int))=>(⟨(an 6 (.sl 1 (List.map Z45 x17) :: .iv x18::an 20 [])),[],[]⟩:St)) Zui r ?_ fun J1=>?_
  ·rintro ⟨x17,x18⟩ h;rw [Zui] at h;(try dsimp only);refine Zl2 8 ?_;dsimp only [e31,Zti,go_sem];refine ⟨by simp,?_⟩;exact Zx4 (res:=fun (r:((List Int)×Int×Int))=>.tup [.sl 1 (List.map Z45 r.1),.iv r.2.1,.iv r.2.2]) ok31 h
  ·refine Zl2 1 ?_;dsimp only [e31,Zti,go_sem];refine ⟨by simp,?_⟩;refine Z83 0 rfl ?_;dsimp only [go_sem];refine Zm4 h (fun ((x8,x9):((List Int)×Int))=>(⟨(.any :: .ptr 0 0::an 4 (.sl 1 (List.map Z45 x8) :: .iv x9::an 20 [])),[some ⟨24,[.iv x1.N,.sl 2 (List.map Edge.row x1.Edges)]⟩],[]⟩:St)) (by simp [go_sem]) (by rintro ⟨x8,x9⟩;first | rfl | simp [go_sem]) ?_;rintro n1 ⟨x8,x9⟩ y1 h hin1 hout1;rw [Zvi] at h;(try dsimp only);refine Zl2 4 ?_;dsimp only [e31,Zti,go_sem];refine ⟨by simp,?_⟩
   obtain ⟨x10,ex10,h⟩:=Option.bind_eq_some_iff.1 h;refine Zz2 trivial (Zbi x8 0 _ ex10) (h:=?_);refine Zl2 1 ?_;dsimp only [e31,Zti,go_sem];refine ⟨by simp,?_⟩;refine Zn4 h rfl (fun _ h=>?_) fun _ h=>?_
   ·refine Zl2 6 ?_;dsimp only [e31,Zti,go_sem];refine ⟨by simp,?_⟩;obtain ⟨x11,ex11,h⟩:=Option.bind_eq_some_iff.1 h;refine Zz2 trivial (Zsi x1 x8 _ ex11) (h:=?_);refine Zl2 11 ?_;dsimp only [e31,Zti,go_sem];refine ⟨by simp,?_⟩;exact Zy4 h hin1
   ·refine Zl2 1 ?_;dsimp only [e31,Zti,go_sem];refine ⟨by simp,?_⟩;exact Zz4 J1 (s:=(x8,x9)) (Zk4 h hout1)
def lsf (p:Nat→Bool):Nat→Nat→Nat
 | 0,k=>k
 | f+1,k=>if p k then k else lsf p f (k+1)
theorem lsf_spec (p:Nat→Bool):∀(f k:Nat),p (k+f)=true→p (lsf p f k)=true∧k≤lsf p f k∧lsf p f k≤k+f
 | 0,k,h=>⟨h,Nat.le_refl _,Nat.le_refl _⟩
 | f+1,k,h=>by
   simp only [lsf]
   split
   ·rename_i h1;exact ⟨h1,Nat.le_refl _,by omega⟩
   ·obtain ⟨h1,h2,h3⟩:=lsf_spec p f (k+1) (by rw [show k+1+f=k+(f+1) by omega];exact h)
    exact ⟨h1,by omega,by omega⟩
def Zxi (c:List Int) (near:List Int) (k:Nat):Bool:=near.any fun b=>decide (cg c b=(k:Int))
def Zyi (c near:List Int):Nat:=lsf (fun k=>!Zxi c near k) 200 1
def Zzi (c near:List Int) (a:Int):Bool:=decide (cg c a=0)&&!near.any fun b=>decide (cg c b=0)&&decide (a<b)
def newC (g:Graph) (c:List Int) (a:Nat):Int:=if Zzi c (Zic g a) a then (Zyi c (Zic g a):Int) else cg c a
def Z0j (g:Graph) (c:List Int):List Int:=(List.range g.N.toNat).map (newC g c)
structure ColI (g:Graph) (c:List Int):Prop where
 len:(c.length:Int)=g.N
 lo:∀x∈c,0≤x
 hi:∀x∈c,x≤100
theorem cg_mem {c:List Int} {a:Int} (h0:0≤a) (h:a<c.length):cg c a∈c:=by
 obtain ⟨x,h1,h2⟩:=at_lt h0 h
 unfold cg
 rw [h2]
 exact List.mem_iff_getElem?.2 ⟨_,h2⟩
theorem Z1j {g:Graph} (hg:okG g=true) {c:List Int} (hc:ColI g c) (a:Int):Zxi c (Zic g a) (Zyi c (Zic g a))=false∧1≤Zyi c (Zic g a)∧Zyi c (Zic g a)≤201:=by
 have h:=lsf_spec (fun k=>!Zxi c (Zic g a) k) 200 1 (by
  simp only [Bool.not_eq_true']
  unfold Zxi
  rw [List.any_eq_false]
  intro b hb
  obtain ⟨b1,b2,_⟩:=Zmc hg hb
  have:=hc.hi _ (cg_mem (c:=c) b1 (by rw [hc.len];exact b2))
  simp;omega)
 have h1:=h.1
 simp only [Bool.not_eq_true'] at h1
 exact ⟨h1,h.2.1,h.2.2⟩
theorem Z2j (l:List Int) (x:Int) (hl:l.length≤1000000):Zai l x=some (decide (x∈l)):=by
 have h1:Z8i l x=some (plc (l.findIdx? fun y=>decide (x=y))):=by
  unfold Z8i
  refine Zg6 l _ (fun y=>decide (x=y)) (by omega) (fun k y hy=>?_) ?_
  ·simp only [Z7i,Z96 hy,Z36,Z76 hy,Option.bind_some,Zc6 hy (show l.length≤4000000000000000000 by omega)]
   cases decide (x=y)<;>rfl
  ·simp only [Z7i,Za6,Z46,Z6i,Option.map_some]
 simp only [Zai,h1,Option.bind_some,Ze6,Zh6]
 congr 1
 rw [Bool.eq_iff_iff,List.any_eq_true,decide_eq_true_iff]
 constructor
 ·rintro ⟨y,hy,h⟩
  have:x=y:=by simpa using h
  exact this ▸ hy
 ·intro h;exact ⟨x,h,by simp⟩
theorem s_Round2 (g:Graph) (hg:okG g=true) (c:List Int) (hc:ColI g c) (a:Nat) (ha:(a:Int)<g.N) (A B:List Int) (hA:A.length=a):
  loop (Zni c a (Zic g a)) (A++1::B)=some (.inl (((a+1:Nat):Int),A++(Zyi c (Zic g a):Int)::B)):=by
 obtain ⟨g1,g2,g3,_,_⟩:=Zs7 hg
 have hnl:=Zkc g a
 have at1:∀y:Int,at_ (A++y::B) (a:Int)=some y:=fun y=>by rw [←hA];exact at_mid rfl
 have st1:∀y z:Int,(A++y::B).set ((a:Int)).toNat z=A++z::B:=fun y z=>by rw [←hA];exact Zf9 _ _ _ _
 have step:∀k:Nat,Zj7 (Zic g a) (fun z=>Zhi z c (A++(k:Int)::B) a)=some (Zxi c (Zic g a) k):=fun k=>by
  refine Zp7 (Zic g a) _ (fun b=>decide (cg c b=(k:Int))) (by omega) (fun b hb=>?_)
  obtain ⟨b1,b2,_⟩:=Zmc hg hb
  simp only [Zhi]
  rw [Zgb (c:=c) b1 (by rw [hc.len];exact b2),Option.bind_some,at1,Option.bind_some]
 have key:∀f k:Nat,k+f=201→1≤k→Zxi c (Zic g a) 201=false→loop (Zni c a (Zic g a)) (A++(k:Int)::B)=some (.inl (((a+1:Nat):Int),A++(lsf (fun k=>!Zxi c (Zic g a) k) f k:Int)::B)):=by
  intro f
  induction f with
  | zero=>
    intro k hk _ h201
    have:k=201:=by omega
    subst this
    rw [Ze4]
    dsimp only [Zni]
    rw [step,Option.bind_some,h201,Z46]
    dsimp only [Zmi]
    rw [Zb6 (by omega)]
    rfl
  | succ f ih=>
    intro k hk h1 h201
    rw [Ze4]
    dsimp only [Zni]
    rw [step,Option.bind_some]
    cases hu:Zxi c (Zic g a) k with
    | true=>
      rw [Z36,at1,Option.bind_some,st1,Zb6 (by omega)]
      dsimp only
      rw [ih (k+1) (by omega) (by omega) h201]
      simp [lsf,hu]
    | false=>
      rw [Z46]
      dsimp only [Zmi]
      rw [Zb6 (by omega)]
      simp [lsf,hu]
 refine key 200 1 rfl (Nat.le_refl _) ?_
 unfold Zxi
 rw [List.any_eq_false]
 intro b hb
 obtain ⟨b1,b2,_⟩:=Zmc hg hb
 have:=hc.hi _ (cg_mem (c:=c) b1 (by rw [hc.len];exact b2))
 simp;omega
theorem drop_cons {c:List Int} {k:Nat} (h:k<c.length):c.drop k=cg c k::c.drop (k+1):=by
 rw [List.drop_eq_getElem_cons h]
 congr 1
 unfold cg
 simp [h]
theorem s_Round (g:Graph) (hg:okG g=true) (c:List Int) (hc:ColI g c):Zri g c=some (Z0j g c,0):=by
 obtain ⟨g1,g2,g3,_,_⟩:=Zs7 hg
 have hlen:=hc.len
 simp only [Zri,Zr7,hg,if_true,decide_true,Bool.not_true,Z46,Option.bind_some,Z65,hlen]
 rw [Zp7 c (fun z=>Zci z) (fun x=>decide (x<0)) (by omega) (fun x _=>rfl),Option.bind_some]
 have e0:c.any (fun x=>decide (x<0))=false:=by
  rw [List.any_eq_false];intro x hx;have:=hc.lo x hx;simp;omega
 rw [e0]
 simp only [Zqi,Z46,Zjb]
 rw [Z86 _ _ (by omega) (by simp;omega),Option.bind_some,List.nil_append]
 refine (Zh9 g.N.toNat (Zpi g c) (fun k=>((k:Int),(List.range k).map (newC g c)++c.drop k)) (Z0j g c,0) (fun k hk=>?_) ?_)
 ·have hkl:k<c.length:=by omega
  obtain ⟨g1',_⟩:=Zs7 hg
  dsimp only [Zpi]
  rw [decide_eq_true (by omega),Z36,s_Near,hg,if_pos rfl,Option.bind_some,Zgb (c:=c) (Int.natCast_nonneg k) (by omega),Option.bind_some,drop_cons hkl,Zqc]
  have hA:((List.range k).map (newC g c)).length=k:=by simp
  have keep:newC g c k=cg c k→Zoi c k ((List.range k).map (newC g c)++cg c k::c.drop (k+1)) (Zic g k) true=some (.inl (((k+1:Nat):Int),((List.range k).map (newC g c)++[newC g c k])++c.drop (k+1))):=fun e=>by
   dsimp only [Zoi,Zmi]
   rw [Z36,Zb6 (by omega),e];simp
  by_cases h0:cg c k=0
  ·rw [decide_eq_true h0,Bool.not_true,Z46]
   have hcf:Zj7 (Zic g k) (fun z=>Zfi z c k)=some ((Zic g k).any fun b=>decide (cg c b=0)&&decide ((k:Int)<b)):=by
    refine Zp7 (Zic g k) _ (fun b=>decide (cg c b=0)&&decide ((k:Int)<b)) (by have:=Zkc g k;omega) (fun b hb=>?_)
    obtain ⟨b1,b2,_⟩:=Zmc hg hb
    simp only [Zfi,Zei]
    rw [Zgb (c:=c) b1 (by omega),Option.bind_some]
    cases decide (cg c b=0)<;>rfl
   rw [hcf,Option.bind_some]
   cases ht:(Zic g k).any fun b=>decide (cg c b=0)&&decide ((k:Int)<b) with
   | true=>
     refine keep ?_
     unfold newC Zzi
     rw [ht];simp
   | false=>
     have e:newC g c k=(Zyi c (Zic g k):Int):=by
      unfold newC Zzi
      rw [ht,decide_eq_true h0];simp
     dsimp only [Zoi]
     have at1:=at_mid (l:=(List.range k).map (newC g c)++cg c k::c.drop (k+1)) rfl
     rw [hA] at at1
     have st1:=Zf9 ((List.range k).map (newC g c)) (c.drop (k+1)) (cg c k) 1
     rw [hA] at st1
     rw [Z46,at1,Option.bind_some,st1,s_Round2 g hg c hc k (by omega) _ _ hA,e]
     simp
  ·rw [decide_eq_false h0,Bool.not_false,Z36]
   refine keep ?_
   unfold newC Zzi
   rw [decide_eq_false h0];simp
 ·dsimp only [Zpi]
  rw [decide_eq_false (by omega),Z46,List.drop_eq_nil_of_le (by omega),List.append_nil]
  rfl
set_option maxRecDepth 100000
set_option maxHeartbeats 4000000
def e68:EC:=.seq (.reg [(Qa 1 (.box 24 2 (.t 0))),(Qa 2 (.alloc 43 [.nl,.nl])),(Qa 3 (.mv (.c (.iv 0))))]) (.seq (.reg [(Qa 9 (.loadA 2 (.t 1))),(Qa 10 (.call 31 [(.t 9)])),(Qa 8 (.mv (.t 10))),(Qa 11 (.ext (.t 8) 0)),(Qa 12 (.ext (.t 8) 1)),(Qa 13 (.ext (.t 8) 2)),(Qa 4 (.mv (.t 11))),(Qa 5 (.mv (.t 12))),(Qa 6 (.mv (.t 13)))]) (.seq (.seq (.reg [(Qa 14 (.mv (.t 6))),(Qa 15 (.bin .neq (.t 14) (.c (.iv 0))))]) (.ite (.t 15) (.seq (.reg [(Qa 16 (.build [.nl,.nl] [])),(Qa 17 (.mv (.t 6))),(Qb (.store 2 (.t 2) (.t 16))),(Qa 3 (.mv (.t 17)))]) (.ret)) (.skip))) (.seq (.reg [(Qa 19 (.loadA 2 (.t 1))),(Qa 20 (.mv (.t 4))),(Qa 21 (.call 14 [(.t 19),(.t 20)])),(Qa 18 (.mv (.t 21))),(Qa 22 (.ext (.t 18) 0)),(Qa 23 (.ext (.t 18) 1)),(Qa 7 (.mv (.t 22))),(Qa 6 (.mv (.t 23)))]) (.seq (.reg [(Qa 24 (.mv (.t 7))),(Qa 25 (.build [.nl,.nl] [(0,1,(.t 24))])),(Qa 26 (.mv (.t 6))),(Qb (.store 2 (.t 2) (.t 25))),(Qa 3 (.mv (.t 26)))]) (.ret)))))
theorem ok68:FnOK Try.prog 68 Try.f68 e68 [.c 2 (some 2),.t 3] 1 26:=⟨by kernel_rfl,⟨_,rfl,by kernel_rfl⟩,by kernel_rfl,by kernel_rfl⟩
noncomputable def Z3j (x1:Graph):Option (Scene×Int):=
 (Zwi x1).bind fun x2=>
 ifb (!decide (x2.2.2=0)) (
 some ((Scene.mk (([]:(List Diner))) (([]:(List Mail)))),x2.2.2)) (
 (Z5c x1 x2.1).bind fun x3=>
 some ((Scene.mk x3.1 (([]:(List Mail)))),x3.2))
theorem Z4j (x1:Graph) (r:(Scene×Int)) (h:Z3j x1=some r):Zq2 Try.prog 68 [.agg (Graph.row x1)] (.tup [.agg (Scene.row r.1),.iv r.2]):=by
 refine Zu2 ok68 rfl rfl fun w0 H0=>?_
 rw [Z3j] at h
 refine Zl2 9 ?_;dsimp only [e68,go_sem];refine ⟨by simp,?_⟩;obtain ⟨x2,ex2,h⟩:=Option.bind_eq_some_iff.1 h;refine Zz2 trivial (k_colour_Run x1 _ ex2) (h:=?_);refine Zl2 14 ?_;dsimp only [e68,go_sem];refine ⟨by simp,?_⟩;refine Zn4 h rfl (fun _ h=>?_) fun _ h=>?_
 ·refine Zl2 7 ?_;dsimp only [e68,go_sem];refine ⟨by simp,?_⟩;exact Zx4 (res:=fun (r:(Scene×Int))=>.tup [.agg (Scene.row r.1),.iv r.2]) ok68 h
 ·refine Zl2 5 ?_;dsimp only [e68,go_sem];refine ⟨by simp,?_⟩;obtain ⟨x3,ex3,h⟩:=Option.bind_eq_some_iff.1 h;refine Zz2 trivial (k_place_Table x1 x2.1 _ ex3) (h:=?_);refine Zl2 14 ?_;dsimp only [e68,go_sem];refine ⟨by simp,?_⟩;exact Zx4 (res:=fun (r:(Scene×Int))=>.tup [.agg (Scene.row r.1),.iv r.2]) ok68 h
theorem lsf_le (p:Nat→Bool):∀(f k j:Nat),p j=true→k≤j→j≤k+f→lsf p f k≤j
 | 0,k,j,_,h1,_=>h1
 | f+1,k,j,h,h1,h2=>by
   simp only [lsf]
   split
   ·exact h1
   ·rename_i hp
    have:k≠j:=by rintro rfl;exact hp h
    exact lsf_le p f (k+1) j h (by omega) (by omega)
theorem countP_lt {α:Type} (p q:α→Bool):∀(l:List α),(∀x∈l,p x=true→q x=true)→(∃x∈l,q x=true∧p x=false)→l.countP p<l.countP q
 | [],_,⟨x,hx,_⟩=>absurd hx (by simp)
 | y::l,h,⟨x,hx,h1,h2⟩=>by
   have hle:l.countP p≤l.countP q:=List.countP_mono_left fun z hz=>h z (List.mem_cons_of_mem _ hz)
   rw [List.countP_cons,List.countP_cons]
   rcases List.mem_cons.1 hx with rfl | hx
   ·rw [h1,h2];simp;omega
   ·have:=countP_lt p q l (fun z hz=>h z (List.mem_cons_of_mem _ hz)) ⟨x,hx,h1,h2⟩
    have hy:=h y (by simp)
    cases hp:p y with
    | false=>simp;omega
    | true=>rw [hy hp];simp;omega
def zeros (g:Graph) (c:List Int):Nat:=(List.range g.N.toNat).countP fun a:Nat=>decide (cg c (a:Int)=0)
theorem zeros_le (g:Graph) (c:List Int):zeros g c≤g.N.toNat:=by
 have:=List.countP_le_length (p:=fun a:Nat=>decide (cg c (a:Int)=0)) (l:=List.range g.N.toNat)
 simpa [zeros] using this
structure ColN (g:Graph) (c:List Int) (n:Nat):Prop where
 len:(c.length:Int)=g.N
 lo:∀x∈c,0≤x
 hi:∀x∈c,x≤n
 ne:∀a b,b∈Zic g a→cg c a≠0→cg c b≠0→cg c a≠cg c b
theorem ColN.I {g:Graph} {c:List Int} {n:Nat} (h:ColN g c n) (hn:n≤100):ColI g c:=⟨h.len,h.lo,fun x hx=>by have:=h.hi x hx;omega⟩
theorem Z5j {g:Graph} {c:List Int} {a:Int} (h0:0≤a) (h:a<g.N):cg (Z0j g c) a=newC g c a.toNat:=by
 unfold cg Z0j
 rw [List.getElem?_map,List.getElem?_range (by omega)];rfl
theorem near_symm' {g:Graph} (hg:okG g=true) {a b:Int} (h:b∈Zic g a):a∈Zic g b:=by
 rw [Zlc hg] at *;exact h.symm
theorem Z6j {c near:List Int} {a:Int}:Zzi c near a=true↔cg c a=0∧∀b∈near,cg c b=0→b≤a:=by
 unfold Zzi
 simp only [Bool.and_eq_true,decide_eq_true_eq,Bool.not_eq_true',List.any_eq_false,Bool.and_eq_true,decide_eq_true_eq,not_and]
 constructor
 ·rintro ⟨h1,h2⟩;exact ⟨h1,fun b hb h0=>by have:=h2 b hb h0;omega⟩
 ·rintro ⟨h1,h2⟩;exact ⟨h1,fun b hb h0=>by have:=h2 b hb h0;omega⟩
theorem freshC_le {g:Graph} {c:List Int} {n:Nat} (hc:ColN g c n) (hn:n≤100) (a:Int):Zyi c (Zic g a)≤n+1:=by
 refine lsf_le _ _ _ _ ?_ (by omega) (by omega)
 simp only [Bool.not_eq_true']
 unfold Zxi
 rw [List.any_eq_false]
 intro b hb
 simp only [decide_eq_true_eq]
 intro he
 by_cases h:0≤b∧b<c.length
 ·have:=hc.hi _ (cg_mem (c:=c) h.1 h.2)
  omega
 ·unfold cg at he
  have hb0:0≤b.toNat:=Nat.zero_le _
  cases hq:c[b.toNat]? with
  | none=>rw [hq] at he;simp at he;omega
  | some y=>
    rw [hq] at he
    have:=hc.hi y (List.mem_iff_getElem?.2 ⟨_,hq⟩)
    simp at he;omega
theorem Z7j (g:Graph) (c:List Int) (a:Nat):(Zzi c (Zic g a) a=true∧newC g c a=(Zyi c (Zic g a):Int))∨(Zzi c (Zic g a) a=false∧newC g c a=cg c a):=by
 unfold newC
 cases Zzi c (Zic g a) a<;>simp
theorem ColN.round {g:Graph} (hg:okG g=true) {c:List Int} {n:Nat} (hc:ColN g c n) (hn:n≤100):ColN g (Z0j g c) (n+1):=by
 obtain ⟨g1,g2,_,_,_⟩:=Zs7 hg
 have hI:=hc.I hn
 have hmem:∀x∈Z0j g c,0≤x∧x≤n+1:=fun x hx=>by
  obtain ⟨a,ha,rfl⟩:=List.mem_map.1 hx
  have ha':=List.mem_range.1 ha
  have:=freshC_le hc hn a
  rcases Z7j g c a with ⟨_,h2⟩ | ⟨_,h2⟩
  ·rw [h2];omega
  ·rw [h2]
   have hm:=cg_mem (c:=c) (a:=(a:Int)) (by omega) (by have:=hc.len;omega)
   have:=hc.lo _ hm
   have:=hc.hi _ hm
   omega
 refine ⟨by simp [Z0j];omega,fun x hx=>(hmem x hx).1,fun x hx=>by have:=(hmem x hx).2;omega,fun a b hb ha0 hb0=>?_⟩
 obtain ⟨b1,b2,b3,a1,a2⟩:=Zmc hg hb
 have hab:=near_symm' hg hb
 rw [Z5j a1 a2] at ha0 ⊢
 rw [Z5j b1 b2] at hb0 ⊢
 have ea:((a.toNat:Nat):Int)=a:=Int.toNat_of_nonneg a1
 have eb:((b.toNat:Nat):Int)=b:=Int.toNat_of_nonneg b1
 have ua:=(Z1j hg hI a).1
 have ub:=(Z1j hg hI b).1
 unfold Zxi at ua ub
 rw [List.any_eq_false] at ua ub
 have ua':=ua b hb
 have ub':=ub a hab
 simp only [decide_eq_true_eq] at ua' ub'
 rcases Z7j g c a.toNat with ⟨h1,h2⟩ | ⟨h1,h2⟩<;>rcases Z7j g c b.toNat with ⟨k1,k2⟩ | ⟨k1,k2⟩<;>rw [ea] at h1 h2<;>rw [eb] at k1 k2
 ·rw [Z6j] at h1 k1
  have:=h1.2 b hb k1.1
  have:=k1.2 a hab h1.1
  exact absurd (by omega) b3
 ·rw [h2,k2];exact fun e=>ua' e.symm
 ·rw [h2,k2];exact ub'
 ·rw [h2,k2]
  rw [h2] at ha0
  rw [k2] at hb0
  exact hc.ne a b hb ha0 hb0
theorem max_zero (p:Nat→Bool):∀n:Nat,(∃a,a<n∧p a=true)→∃a,a<n∧p a=true∧∀b,b<n→p b=true→b≤a
 | 0,⟨a,h,_⟩=>absurd h (by omega)
 | n+1,⟨a,h,hp⟩=>by
   cases hn:p n with
   | true=>exact ⟨n,by omega,hn,fun b hb _=>by omega⟩
   | false=>
     have:a≠n:=by rintro rfl;rw [hn] at hp;simp at hp
     obtain ⟨a',h1,h2,h3⟩:=max_zero p n ⟨a,by omega,hp⟩
     refine ⟨a',by omega,h2,fun b hb hpb=>?_⟩
     have:b≠n:=by rintro rfl;rw [hn] at hpb;simp at hpb
     exact h3 b (by omega) hpb
theorem Z8j {g:Graph} (hg:okG g=true) {c:List Int} {n:Nat} (hc:ColN g c n) (hn:n≤100) (h0:(0:Int)∈c):zeros g (Z0j g c)<zeros g c:=by
 have hI:=hc.I hn
 have ex:∃a,a<g.N.toNat∧(fun a:Nat=>decide (cg c (a:Int)=0)) a=true:=by
  obtain ⟨k,hk⟩:=List.mem_iff_getElem?.1 h0
  have hlt:=(List.getElem?_eq_some_iff.1 hk).1
  have:=hc.len
  refine ⟨k,by omega,?_⟩
  simp [cg,hk]
 obtain ⟨a,h1,h2,h3⟩:=max_zero _ _ ex
 simp only [decide_eq_true_eq] at h2 h3
 refine countP_lt _ _ _ (fun b hb hz=>?_) ⟨a,List.mem_range.2 h1,by simpa using h2,?_⟩
 ·have hb':=List.mem_range.1 hb
  have hf:=(Z1j hg hI b).2.1
  simp only [decide_eq_true_eq] at hz ⊢
  rw [Z5j (by omega) (by omega),Int.toNat_natCast] at hz
  rcases Z7j g c b with ⟨k1,k2⟩ | ⟨k1,k2⟩
  ·rw [Z6j] at k1;exact k1.1
  ·rw [←k2];exact hz
 ·have ht:Zzi c (Zic g a) a=true:=by
   rw [Z6j]
   refine ⟨h2,fun b hb hb0=>?_⟩
   obtain ⟨b1,b2,_⟩:=Zmc hg hb
   have:=h3 b.toNat (by omega) (by rw [Int.toNat_of_nonneg b1];exact hb0)
   omega
  have hf:=(Z1j hg hI a).2.1
  simp only [decide_eq_false_iff_not]
  rw [Z5j (by omega) (by omega),Int.toNat_natCast]
  unfold newC
  rw [ht];simp;omega
def runL (g:Graph):Nat→List Int→Int→List Int×Int
 | 0,c,n=>(c,n)
 | f+1,c,n=>if (0:Int)∈c then runL g f (Z0j g c) (n+1) else (c,n)
theorem zeros_pos {g:Graph} {c:List Int} {n:Nat} (hc:ColN g c n) (h0:(0:Int)∈c):0<zeros g c:=by
 obtain ⟨k,hk⟩:=List.mem_iff_getElem?.1 h0
 have hlt:=(List.getElem?_eq_some_iff.1 hk).1
 have:=hc.len
 refine List.countP_pos_iff.2 ⟨k,List.mem_range.2 (by omega),?_⟩
 simp [cg,hk]
theorem runL_right {g:Graph} (hg:okG g=true):∀(f:Nat) (c:List Int) (n:Nat),ColN g c n→zeros g c≤f→n+f≤100→Zhb g (runL g f c n).1=true∧(runL g f c n).1.length≤64:=by
 obtain ⟨g1,g2,g3,g4,g5⟩:=Zs7 hg
 have done:∀(c:List Int) (n:Nat),ColN g c n→(0:Int)∉c→Zhb g c=true∧c.length≤64:=fun c n hc h0=>by
  have hl:=hc.len
  refine ⟨?_,by omega⟩
  unfold Zhb
  rw [decide_eq_true hl,Bool.true_and,Bool.and_eq_true,List.all_eq_true,List.all_eq_true]
  have nz:∀a:Int,0≤a→a<g.N→cg c a≠0:=fun a h1 h2 h=>h0 (h ▸ cg_mem (c:=c) h1 (by omega))
  refine ⟨fun x hx=>?_,fun e he=>?_⟩
  ·have:=hc.lo x hx
   have:x≠0:=by rintro rfl;exact h0 hx
   simp;omega
  ·obtain ⟨e1,e2,e3⟩:=g4 e he
   have:=hc.ne e.A e.B ((Zlc hg).2 (.inl he)) (nz _ e1 (by omega)) (nz _ (by omega) e3)
   simpa using this
 intro f
 induction f with
 | zero=>
   intro c n hc hz _
   have h0:(0:Int)∉c:=fun h=>by have:=zeros_pos hc h;omega
   exact done c n hc h0
 | succ f ih=>
   intro c n hc hz hn
   simp only [runL]
   split
   ·rename_i h0
    have:=Z8j hg hc (by omega) h0
    have k:=ih (Z0j g c) (n+1) (hc.round hg (by omega)) (by omega) (by omega)
    rwa [show ((n+1:Nat):Int)=(n:Int)+1 from rfl] at k
   ·rename_i h0
    exact done c n hc h0
theorem run_loop {g:Graph} (hg:okG g=true):∀(f:Nat) (c:List Int) (n:Nat),ColN g c n→zeros g c≤f→n+f≤100→loop (Zvi g) (c,(n:Int))=some ((runL g f c n).1,(runL g f c n).2,0):=by
 obtain ⟨g1,g2,g3,g4,g5⟩:=Zs7 hg
 have stop:∀(c:List Int) (n:Nat),ColN g c n→(0:Int)∉c→loop (Zvi g) (c,(n:Int))=some (c,(n:Int),0):=fun c n hc h0=>by
  have hl:=hc.len
  rw [Ze4]
  dsimp only [Zvi]
  rw [Z2j c 0 (by omega),Option.bind_some,decide_eq_false h0,Z46]
  rfl
 intro f
 induction f with
 | zero=>
   intro c n hc hz _
   have h0:(0:Int)∉c:=fun h=>by have:=zeros_pos hc h;omega
   exact stop c n hc h0
 | succ f ih=>
   intro c n hc hz hn
   have hl:=hc.len
   simp only [runL]
   by_cases h0:(0:Int)∈c
   ·rw [if_pos h0,Ze4]
    dsimp only [Zvi]
    rw [Z2j c 0 (by omega),Option.bind_some,decide_eq_true h0,Z36,s_Round g hg c (hc.I (by omega)),Option.bind_some,Zb6 (by omega)]
    have:=Z8j hg hc (by omega) h0
    exact ih (Z0j g c) (n+1) (hc.round hg (by omega)) (by omega) (by omega)
   ·rw [if_neg h0];exact stop c n hc h0
def c0 (g:Graph):List Int:=List.replicate g.N.toNat 0
def Z9j (g:Graph):List Int:=(runL g 64 (c0 g) 0).1
theorem cg_c0 (g:Graph) (a:Int):cg (c0 g) a=0:=by
 unfold cg c0
 rw [List.getElem?_replicate]
 split<;>rfl
theorem c0_ok {g:Graph} (hg:okG g=true):ColN g (c0 g) 0:=by
 obtain ⟨g1,_⟩:=Zs7 hg
 refine ⟨by simp [c0];omega,fun x hx=>?_,fun x hx=>?_,fun a b _ h _=>absurd (cg_c0 g a) h⟩
 ·have:=List.eq_of_mem_replicate hx;omega
 ·have:=List.eq_of_mem_replicate hx;omega
theorem zeros64 {g:Graph} (hg:okG g=true) (c:List Int):zeros g c≤64:=by
 have:=zeros_le g c
 have:=(Zs7 hg).2.1
 omega
theorem Zaj {g:Graph} (hg:okG g=true):Zhb g (Z9j g)=true∧(Z9j g).length≤64:=by
 have:=runL_right hg 64 (c0 g) 0 (c0_ok hg) (zeros64 hg _) (by omega)
 exact this
theorem s_Run (g:Graph) (hg:okG g=true):Zwi g=some (Z9j g,(runL g 64 (c0 g) 0).2,0):=by
 obtain ⟨g1,g2,_⟩:=Zs7 hg
 simp only [Zwi,Zr7,hg,if_true,Option.bind_some,decide_true,Bool.not_true,Z46]
 have e:mk_ 8 g.N 0=some (c0 g):=by
  unfold mk_
  rw [if_pos ⟨by omega,by omega⟩];rfl
 rw [e,Option.bind_some]
 exact run_loop hg 64 (c0 g) 0 (c0_ok hg) (zeros64 hg _) (by omega)
def Zbj (g:Graph):Scene:=⟨Zpc g (Z9j g),[]⟩
theorem s_New (g:Graph):Z3j g=some (if okG g then (Zbj g,0) else (⟨[],[]⟩,30)):=by
 cases hg:okG g with
 | false=>
   have:Zwi g=some ([],0,30):=by
    simp only [Zwi,Zr7,hg,Option.bind_some];rfl
   simp only [Z3j,this,Option.bind_some];rfl
 | true=>
   obtain ⟨h1,h2⟩:=Zaj hg
   simp only [Z3j,s_Run g hg,Option.bind_some,decide_true,Bool.not_true,Z46,s_Table g _ (show (Z9j g).length≤1000000 by omega),hg,h1,if_true]
   rfl
theorem Zcj (id:Int):∀(l:List Side) (q:Int),l.Pairwise (fun x y=>x.Peer<y.Peer)→(∀x∈l,q<x.Peer∧x.Peer≠id∧x.Epoch=1∧x.State=0∧(x.Dirty=true→x.Fork=true))→Zue id q l=true
 | [],_,_,_=>rfl
 | x::l,q,h,hb=>by
   rw [List.pairwise_cons] at h
   obtain ⟨b1,b2,b3,b4,b5⟩:=hb x (by simp)
   have ih:=Zcj id l x.Peer h.2 fun y hy=>by
    have:=hb y (by simp [hy])
    exact ⟨h.1 y hy,this.2⟩
   simp only [Zue,ih,Bool.and_true,sideD,decide_eq_true b1,decide_eq_false b2,b3,b4]
   cases hd:x.Dirty with
   | false=>rfl
   | true=>rw [b5 hd];rfl
theorem LocD.ok {g:Graph} (hg:okG g=true) (hN:g.N≤60) {a:Nat} {d:Diner} (h:LocD d) (hid:d.ID=a) (hp:d.Sides.map (·.Peer)=Zic g a):okD d=true:=by
 have hlen:d.Sides.length=(Zic g a).length:=by rw [←hp];simp
 have hfew:=near_few hg (a:Int)
 have hpw:d.Sides.Pairwise fun x y=>x.Peer<y.Peer:=by
  have:=Zjc hg (a:Int)
  rw [←hp,List.pairwise_map] at this
  exact this
 unfold okD
 rw [decide_eq_true (show 0≤d.ID by omega),decide_eq_true h.lo,decide_eq_true h.hi,decide_eq_true (show d.Sides.length<64 by omega),Zcj d.ID d.Sides (-1) hpw fun x hx=>?_]
 ·rfl
 ·have hm:x.Peer∈Zic g a:=by rw [←hp];exact List.mem_map_of_mem hx
  obtain ⟨n1,n2,n3,_⟩:=Zmc hg hm
  exact ⟨by omega,by omega,h.side x hx⟩
theorem Inv.okd {g:Graph} {s:Scene} (hg:okG g=true) (hN:g.N≤60) (h:Inv g s) {d:Diner} (hd:d∈s.Diners):okD d=true:=by
 obtain ⟨k,hk⟩:=List.mem_iff_getElem?.1 hd
 obtain ⟨h1,h2⟩:=h.shp k d hk
 exact (h.loc d hd).ok hg hN h1 h2
theorem Inv.few {g:Graph} {s:Scene} (hg:okG g=true) (h:Inv g s):Zm9 s.Diners:=by
 have:=(Zs7 hg).2.1
 refine ⟨by have:=h.len;omega,fun d hd=>?_⟩
 obtain ⟨k,hk⟩:=List.mem_iff_getElem?.1 hd
 have h2:=(h.shp k d hk).2
 have:d.Sides.length=(Zic g k).length:=by rw [←h2];simp
 have:=near_few hg (k:Int)
 omega
theorem Inv.graph {g:Graph} {s:Scene} (hg:okG g=true) (h:Inv g s):Z5a s.Diners=(g,true):=by
 rw [←graphP_T hg []]
 refine graphP_key (List.ext_getElem? fun k=>?_)
 have hl:=Zvc hg []
 have hl2:=h.len
 rw [List.getElem?_map,List.getElem?_map]
 by_cases hk:k<s.Diners.length
 ·have e:=Zuc (g:=g) (c:=[]) (a:=(k:Int)) (by omega) (by omega)
  have hx:s.Diners[k]?=some s.Diners[k]:=List.getElem?_eq_getElem hk
  obtain ⟨h1,h2⟩:=h.shp k _ hx
  rw [Int.toNat_natCast] at e
  rw [hx,e]
  simp only [Option.map_some,key,h1,h2,Zoc,List.map_map]
  congr 2
  exact (List.map_id _).symm
 ·rw [List.getElem?_eq_none (by omega),List.getElem?_eq_none (by omega)]
theorem mailG_ok {g:Graph} (hg:okG g=true) {n:Nat} (hn:(n:Int)=g.N) {m:Mail} (h:mailG g m):Zxh n m=true:=by
 obtain ⟨n1,n2,n3,n4,n5⟩:=Zmc hg h.2.2.2
 unfold Zxh
 rw [decide_eq_false (by omega),decide_eq_false (by omega),decide_eq_false (by omega)];rfl
theorem Inv.ok {g:Graph} {s:Scene} (hg:okG g=true) (hN:g.N≤60) (h:Inv g s):okS s=true:=by
 unfold okS
 rw [h.graph hg,Bool.true_and,Bool.and_eq_true,List.all_eq_true,List.all_eq_true]
 exact ⟨fun d hd=>h.okd hg hN hd,fun m hm=>mailG_ok hg h.len (h.mail m hm)⟩
theorem Inv.init {g:Graph} (hg:okG g=true) {c:List Int} (hr:Zhb g c=true):Inv g ⟨Zpc g c,[]⟩:=by
 have get:∀(k:Nat) d,(Zpc g c)[k]?=some d→(k:Int)<g.N∧d=Zoc g c k:=fun k d hd=>by
  have hk:=(List.getElem?_eq_some_iff.1 hd).1
  have hl:=Zvc hg c
  have e:=Zuc (g:=g) (c:=c) (a:=(k:Int)) (by omega) (by omega)
  rw [Int.toNat_natCast,hd] at e
  exact ⟨by omega,by simpa using e⟩
 refine ⟨Zvc hg c,fun k d hd=>?_,fun d hd=>?_,by simp,fun a b da db ha hb hab k hk=>?_⟩
 ·obtain ⟨_,rfl⟩:=get k d hd
  refine ⟨rfl,?_⟩
  simp only [Zoc,List.map_map]
  exact List.map_id _
 ·obtain ⟨k,hk⟩:=List.mem_iff_getElem?.1 hd
  obtain ⟨_,rfl⟩:=get k d hk
  refine ⟨Int.le_refl _,by show (0:Int)≤2;omega,fun x hx=>?_,fun h=>absurd h (by show ¬(0:Int)=2;omega)⟩
  obtain ⟨b,_,rfl⟩:=List.mem_map.1 hx
  exact ⟨rfl,rfl,fun h=>h⟩
 ·obtain ⟨_,rfl⟩:=get a da ha
  obtain ⟨_,rfl⟩:=get b db hb
  have hne:=Zsc hg hr hab
  have hba:=Zwc hg hab
  unfold hasD cnt
  rw [sideO_T,if_pos hab,sideO_T,if_pos hba]
  have hlt:decide (cg c a<cg c b)=!decide (cg c b<cg c a):=by
   rw [←decide_not,decide_eq_decide];omega
  simp only [Znc,has,hlt,bn]
  by_cases hh:cg c b<cg c a<;>rcases hk with rfl | rfl<;>simp [hh]
theorem Zdj {l:List Diner} (hid:∀(k:Nat) x,l[k]?=some x→x.ID=k) (a:Nat) (y:Diner):(l.map fun x=>if x.ID=(a:Int) then y else x)=l.set a y:=by
 refine List.ext_getElem? fun k=>?_
 rw [List.getElem?_map,List.getElem?_set]
 by_cases hk:k<l.length
 ·have hx:l[k]?=some l[k]:=List.getElem?_eq_getElem hk
  have:=hid k _ hx
  rw [hx,Option.map_some]
  by_cases he:a=k
  ·subst he;simp [this,hk]
  ·rw [if_neg (by omega),if_neg he]
 ·rw [List.getElem?_eq_none (by omega)]
  split
  ·rename_i he;subst he;simp;omega
  ·rfl
theorem Inv.ids {g:Graph} {s:Scene} (h:Inv g s) (k:Nat) (x:Diner) (hx:s.Diners[k]?=some x):x.ID=k:=(h.shp k x hx).1
theorem actS_eq {g:Graph} {s:Scene} (h:Inv g s) (a:Nat) (d:Diner):actS s a d=⟨(s.Diners.set a d).set a (Z6f d),s.Mail++Z7f d⟩:=by
 unfold actS
 rw [Zdj h.ids a,List.set_set]
theorem Zej {l:List Diner} {a:Nat} {d d':Diner} (hd:l[a]?=some d):(l.set a d')[a]?=some d':=by
 have hlt:=(List.getElem?_eq_some_iff.1 hd).1
 rw [List.getElem?_set];simp [hlt]
theorem Inv.act {g:Graph} {s s1:Scene} (hg:okG g=true) (hN:g.N≤60) {a:Nat} {d:Diner} (h:Inv g s1) (hd:s1.Diners[a]?=some d) (he:s1.Diners=s.Diners.set a d) (hm:s1.Mail=s.Mail) (hs:∀(k:Nat) x,s.Diners[k]?=some x→x.ID=k):
  okD d=true∧Inv g (actS s a d):=by
 refine ⟨h.okd hg hN (List.mem_iff_getElem?.2 ⟨_,hd⟩),?_⟩
 have:=h.fire hg hd
 unfold actS
 rw [Zdj hs a]
 rw [he,List.set_set,hm] at this
 exact this
theorem Inv.phase {g:Graph} {s:Scene} (hg:okG g=true) (h:Inv g s) {a:Nat} {d:Diner} (hd:s.Diners[a]?=some d) {p:Int} (h0:0≤p) (h1:p<2):Inv g ⟨s.Diners.set a ⟨d.ID,p,d.Sides⟩,s.Mail⟩:=by
 have hl:=h.loc d (List.mem_iff_getElem?.2 ⟨_,hd⟩)
 exact h.set (d':=⟨d.ID,p,d.Sides⟩) hg hd rfl rfl ⟨h0,by show p≤2;omega,hl.side,fun e=>absurd e (by show ¬p=2;omega)⟩ h.mail (fun _ _ _ _ _=>rfl) (fun _ _ _ _=>rfl)
theorem Zfj {s:Scene} {a:Int}:Zyh s a=true↔0≤a∧a<s.Diners.length:=by simp [Zyh]
def fineE (e:Int):Bool:=decide (e=0)||(decide (e=134)||(decide (e=141)||decide (e=140)))
theorem turnS_inv {g:Graph} {s:Scene} (hg:okG g=true) (hN:g.N≤60) (h:Inv g s) (a p q:Int) (h0:0≤q) (h1:q<2):fineE (Zzh s a fun d=>Z1f d p q).2=true∧((Zzh s a fun d=>Z1f d p q).2=0→Inv g (Zzh s a fun d=>Z1f d p q).1):=by
 unfold Zzh
 rw [h.ok hg hN,if_pos rfl]
 cases ht:Zyh s a with
 | false=>exact ⟨rfl,fun e=>absurd e (by show ¬(140:Int)=0;omega)⟩
 | true=>
   obtain ⟨a0,_⟩:=Zfj.1 ht
   obtain ⟨d,hd1,hd⟩:=Z0i ht
   have hok:=h.okd hg hN (List.mem_iff_getElem?.2 ⟨_,hd⟩)
   rw [if_pos rfl,hd1]
   dsimp only
   unfold Z1f
   rw [hok,if_pos rfl]
   by_cases hp:d.Phase=p
   ·rw [if_pos hp]
    have h2:=h.phase hg hd (p:=q) h0 h1
    obtain ⟨k1,k2⟩:=Inv.act (s:=s) hg hN h2 (Zej hd) rfl rfl h.ids
    rw [Int.toNat_of_nonneg a0] at k2
    unfold actP
    rw [if_pos rfl,if_pos k1]
    exact ⟨rfl,fun _=>k2⟩
   ·rw [if_neg hp]
    exact ⟨rfl,fun e=>absurd e (by show ¬(134:Int)=0;omega)⟩
theorem Zgj {α:Type} {p q:α→Bool}:∀ {l:List α},(∀x∈l,p x=q x)→l.find? p=l.find? q
 | [],_=>rfl
 | x::l,h=>by
   rw [List.find?_cons,List.find?_cons,h x (by simp),Zgj fun y hy=>h y (by simp [hy])]
theorem Zhj {M:List Mail} {i:Nat} {m:Mail} (hm:M[i]?=some m) (x:Mail):(M.take i++M.drop (i+1)).count x+(if m=x then 1 else 0)=M.count x:=by
 have hlt:=(List.getElem?_eq_some_iff.1 hm).1
 have e:M=M.take i++m::M.drop (i+1):=by
  have h1:=List.take_append_drop i M
  rw [List.drop_eq_getElem_cons hlt] at h1
  have h2:M[i]=m:=by rw [List.getElem?_eq_getElem hlt] at hm;simpa using hm
  rw [h2] at h1
  exact h1.symm
 have e2:M.count x=(M.take i++m::M.drop (i+1)).count x:=by rw [←e]
 rw [e2,List.count_append,List.count_append,List.count_cons]
 by_cases h:m=x
 ·simp [h];omega
 ·simp [h]
def Zij (x:Side) (k:Int):Side:=if k=1 then {x with Fork:=true} else {x with Token:=true}
theorem delivS_eq {g:Graph} {s:Scene} (hg:okG g=true) (hN:g.N≤60) (h:Inv g s) {a b:Int} (ht:Zyh s a=true) (ht':Zyh s b=true) {i:Nat} (hf:Z1i s a b=some i):
  ∃m db x d1,s.Mail[i]?=some m∧m.From=a∧m.To=b∧s.Diners[b.toNat]?=some db∧Zn9 db a=some x∧(m.Msg.Kind=1∨m.Msg.Kind=2)∧d1.ID=db.ID∧d1.Phase=db.Phase∧(∀z:Int,Zn9 d1 z=if z=a then some (Zij x m.Msg.Kind) else Zn9 db z)∧
   Inv g ⟨s.Diners.set b.toNat d1,s.Mail.take i++s.Mail.drop (i+1)⟩∧Z2i s a b=(actS ⟨s.Diners,s.Mail.take i++s.Mail.drop (i+1)⟩ b d1,0)∧Inv g (actS ⟨s.Diners,s.Mail.take i++s.Mail.drop (i+1)⟩ b d1):=by
 obtain ⟨a0,a1⟩:=Zfj.1 ht
 obtain ⟨b0,b1⟩:=Zfj.1 ht'
 obtain ⟨db,hdb1,hdb⟩:=Z0i ht'
 obtain ⟨da,_,hda⟩:=Z0i ht
 have hf0:=hf
 unfold Z1i at hf
 have hfi:=Zo9 (fun m:Mail=>decide (m.From=a)&&decide (m.To=b)) s.Mail
 rw [hf] at hfi
 obtain ⟨m,hm,hq⟩:=hfi
 have hq':=List.find?_some hq
 simp only [Bool.and_eq_true,decide_eq_true_eq] at hq'
 obtain ⟨q1,q2⟩:=hq'
 have hmm:m∈s.Mail:=List.mem_iff_getElem?.2 ⟨_,hm⟩
 obtain ⟨m1,m2,m3,m4⟩:=h.mail m hmm
 rw [q1,q2] at m4
 have nab:=Zwc hg m4
 obtain ⟨hid,hsh⟩:=h.shp _ _ hdb
 have hok:=h.okd hg hN (List.mem_iff_getElem?.2 ⟨_,hdb⟩)
 have hloc:=h.loc db (List.mem_iff_getElem?.2 ⟨_,hdb⟩)
 have hpw:=h.pw hg hdb
 have hsome:(Zn9 db a).isSome=true:=by
  rw [Z9f,hsh,Int.toNat_of_nonneg b0];exact decide_eq_true nab
 obtain ⟨x,hx⟩:=Option.isSome_iff_exists.1 hsome
 obtain ⟨xm,xp⟩:=Zlf hx
 have hidx:=Zo9 (fun x:Side=>decide (x.Peer=a)&&decide (x.Epoch=m.Msg.Epoch)) db.Sides
 have efun:∀y∈db.Sides,(decide (y.Peer=a)&&decide (y.Epoch=m.Msg.Epoch))=decide (y.Peer=a):=fun y hy=>by
  rw [m2,(hloc.side y hy).1];simp
 have efind:db.Sides.find? (fun y=>decide (y.Peer=a)&&decide (y.Epoch=m.Msg.Epoch))=some x:=by
  rw [←hx];unfold Zn9
  exact Zgj efun
 cases hj:db.Sides.findIdx? (fun y=>decide (y.Peer=a)&&decide (y.Epoch=m.Msg.Epoch)) with
 | none=>rw [hj] at hidx;rw [efind] at hidx;exact absurd hidx (by simp)
 | some j=>
   rw [hj] at hidx
   obtain ⟨x',hx1,hx2⟩:=hidx
   rw [efind] at hx2
   have:x'=x:=by simpa using hx2.symm
   subst this
   have hk:m.Msg.Kind=1∨m.Msg.Kind=2:=m1
   have hme:m=⟨a,b,⟨m.Msg.Kind,1,0⟩⟩:=by
    obtain ⟨f,t,⟨k,e,n⟩⟩:=m
    dsimp only at q1 q2 m2 m3 ⊢
    rw [q1,q2,m2,m3]
   have hcnt:1≤cnt s.Mail m.Msg.Kind a b:=by
    unfold cnt
    have:=List.count_pos_iff.2 hmm
    rw [←hme];omega
   have hone:=h.one b.toNat a.toNat db da hdb hda (by rw [Int.toNat_of_nonneg b0,Int.toNat_of_nonneg a0];exact nab) m.Msg.Kind hk
   rw [Int.toNat_of_nonneg b0,Int.toNat_of_nonneg a0] at hone
   have hhas:has x' m.Msg.Kind=false:=by
    cases hh:has x' m.Msg.Kind with
    | false=>rfl
    | true=>
      have:hasD db m.Msg.Kind a=1:=by unfold hasD;rw [hx];simp only [hh,bn];rfl
      omega
   have hgp:(Zij x' m.Msg.Kind).Peer=x'.Peer:=by unfold Zij;split<;>rfl
   have hjlt:=(List.getElem?_eq_some_iff.1 hx1).1
   have es:∀z:Int,Zn9 ⟨db.ID,db.Phase,db.Sides.set j (Zij x' m.Msg.Kind)⟩ z=if z=a then some (Zij x' m.Msg.Kind) else Zn9 db z:=fun z=>by
    have hsplit:db.Sides=db.Sides.take j++x'::db.Sides.drop (j+1):=by
     have h1:=List.take_append_drop j db.Sides
     rw [List.drop_eq_getElem_cons hjlt] at h1
     have h2:db.Sides[j]=x':=by rw [List.getElem?_eq_getElem hjlt] at hx1;simpa using hx1
     rw [h2] at h1;exact h1.symm
    have hjl:(db.Sides.take j).length=j:=by simp;omega
    have hset2:db.Sides.set j (Zij x' m.Msg.Kind)=db.Sides.take j++Zij x' m.Msg.Kind::db.Sides.drop (j+1):=by
     have:=Zf9 (db.Sides.take j) (db.Sides.drop (j+1)) x' (Zij x' m.Msg.Kind)
     rw [←hsplit,hjl,Int.toNat_natCast] at this
     exact this
    unfold Zn9
    dsimp only
    rw [hset2]
    have hpw2:=hpw
    rw [hsplit,List.pairwise_append,List.pairwise_cons] at hpw2
    have before:∀y∈db.Sides.take j,y.Peer≠a:=fun y hy=>by
     have:=hpw2.2.2 y hy x' (by simp);omega
    rw [List.find?_append,List.find?_cons,hgp]
    by_cases hz:z=a
    ·subst hz
     rw [decide_eq_true xp,if_pos rfl]
     have:(db.Sides.take j).find? (fun y=>decide (y.Peer=z))=none:=by
      rw [List.find?_eq_none];intro y hy;simpa using before y hy
     rw [this];rfl
    ·rw [if_neg hz]
     have e3:db.Sides.find? (fun y=>decide (y.Peer=z))=(db.Sides.take j++x'::db.Sides.drop (j+1)).find? (fun y=>decide (y.Peer=z)):=by rw [←hsplit]
     rw [e3,List.find?_append,List.find?_cons,decide_eq_false (show ¬x'.Peer=z by omega)]
   have hset:Inv g ⟨s.Diners.set b.toNat ⟨db.ID,db.Phase,db.Sides.set j (Zij x' m.Msg.Kind)⟩,s.Mail.take i++s.Mail.drop (i+1)⟩:=by
    have smem:∀y∈db.Sides.set j (Zij x' m.Msg.Kind),y=Zij x' m.Msg.Kind∨y∈db.Sides:=fun y hy=>by
     rcases List.mem_or_eq_of_mem_set hy with h1 | h1
     ·exact .inr h1
     ·exact .inl h1
    have gloc:=hloc.side x' xm
    have gside:(Zij x' m.Msg.Kind).Epoch=1∧(Zij x' m.Msg.Kind).State=0∧((Zij x' m.Msg.Kind).Dirty=true→(Zij x' m.Msg.Kind).Fork=true):=by
     unfold Zij;split
     ·exact ⟨gloc.1,gloc.2.1,fun _=>rfl⟩
     ·exact gloc
    refine h.set (d':=⟨db.ID,db.Phase,db.Sides.set j (Zij x' m.Msg.Kind)⟩) hg hdb rfl ?_ ⟨hloc.lo,hloc.hi,fun y hy=>?_,fun h2 y hy=>?_⟩ (fun y hy=>?_) (fun k p q hp hq=>?_) (fun c hc k hk'=>?_)
    ·dsimp only
     rw [List.map_set,hgp]
     refine List.ext_getElem? fun n=>?_
     rw [List.getElem?_set]
     split
     ·rename_i hn;subst hn
      rw [List.getElem?_map,hx1];simp [hjlt]
     ·rfl
    ·rcases smem y hy with rfl | hy
     ·exact gside
     ·exact hloc.side y hy
    ·rcases smem y hy with rfl | hy
     ·have:=hloc.eat h2 x' xm
      unfold Zij;split
      ·exact ⟨rfl,this.2⟩
      ·exact this
     ·exact hloc.eat h2 y hy
    ·rcases List.mem_append.1 hy with hy | hy
     ·exact h.mail y (List.mem_of_mem_take hy)
     ·exact h.mail y (List.mem_of_mem_drop hy)
    ·have:=Zhj hm ⟨p,q,⟨k,1,0⟩⟩
     rw [if_neg (by rw [hme];simp only [Mail.mk.injEq];omega)] at this
     exact this
    ·rw [Int.toNat_of_nonneg b0] at hc ⊢
     have e1:=Zhj hm ⟨b,c,⟨k,1,0⟩⟩
     have e2:=Zhj hm ⟨c,b,⟨k,1,0⟩⟩
     have hnab:a≠b:=fun e=>(Zmc hg m4).2.2.1 e.symm
     rw [if_neg (by rw [hme];simp only [Mail.mk.injEq];omega)] at e1
     unfold hasD
     rw [es]
     by_cases hca:c=a
     ·subst hca
      rw [if_pos rfl,hx]
      dsimp only
      by_cases hkk:k=m.Msg.Kind
      ·subst hkk
       have h1:has (Zij x' m.Msg.Kind) m.Msg.Kind=true:=by
        unfold has Zij
        rcases hk with h1 | h1<;>rw [h1]<;>rfl
       rw [if_pos hme] at e2
       rw [h1,hhas]
       unfold cnt
       simp only [bn,if_true,Bool.false_eq_true,if_false]
       omega
      ·have h1:has (Zij x' m.Msg.Kind) k=has x' k:=by
        unfold has Zij
        rcases hk with h2 | h2<;>rcases hk' with h3 | h3<;>rw [h2,h3]
        ·exact absurd (h3.trans h2.symm) hkk
        ·rfl
        ·rfl
        ·exact absurd (h3.trans h2.symm) hkk
       rw [if_neg (by rw [hme];simp only [Mail.mk.injEq,Msg.mk.injEq];omega)] at e2
       rw [h1]
       unfold cnt
       omega
     ·rw [if_neg hca]
      rw [if_neg (by rw [hme];simp only [Mail.mk.injEq];omega)] at e2
      unfold cnt
      omega
   obtain ⟨k1,k2⟩:=Inv.act (s:=⟨s.Diners,s.Mail.take i++s.Mail.drop (i+1)⟩) hg hN hset (Zej hdb) rfl rfl h.ids
   rw [Int.toNat_of_nonneg b0] at k2
   refine ⟨m,db,x',⟨db.ID,db.Phase,db.Sides.set j (Zij x' m.Msg.Kind)⟩,hm,q1,q2,hdb,hx,hk,rfl,rfl,es,hset,?_,k2⟩
   have hres:(if (decide (m.Msg.Kind=1)&&decide (m.Msg.Num=0))=true then (if x'.Fork=true then (Z0f,132) else (⟨db.ID,db.Phase,db.Sides.set j {x' with Fork:=true}⟩,0))
    else if (decide (m.Msg.Kind=2)&&decide (m.Msg.Num=0))=true then (if x'.Token=true then (Z0f,132) else (⟨db.ID,db.Phase,db.Sides.set j {x' with Token:=true}⟩,0))
    else ((Z0f,133):Diner×Int))=(⟨db.ID,db.Phase,db.Sides.set j (Zij x' m.Msg.Kind)⟩,0):=by
    unfold has at hhas
    unfold Zij
    rcases hk with h1 | h1
    ·rw [h1] at hhas ⊢
     rw [m3]
     simp at hhas
     simp [hhas]
    ·rw [h1] at hhas ⊢
     rw [m3]
     simp at hhas
     simp [hhas]
   unfold Z2i getD'
   rw [h.ok hg hN,if_pos rfl,ht,ht',Bool.true_and,if_pos rfl,hf0]
   dsimp only
   rw [hm,hdb1]
   dsimp only
   rw [hok,if_pos rfl,hj]
   dsimp only
   rw [hx1]
   dsimp only
   rw [hres]
   unfold actP
   dsimp only
   rw [if_pos rfl,if_pos k1]
theorem delivS_inv {g:Graph} {s:Scene} (hg:okG g=true) (hN:g.N≤60) (h:Inv g s) (a b:Int):fineE (Z2i s a b).2=true∧((Z2i s a b).2=0→Inv g (Z2i s a b).1):=by
 cases ht:Zyh s a with
 | false=>
   unfold Z2i
   rw [h.ok hg hN,if_pos rfl,ht]
   exact ⟨rfl,fun e=>absurd e (by show ¬(140:Int)=0;omega)⟩
 | true=>
   cases ht':Zyh s b with
   | false=>
     unfold Z2i
     rw [h.ok hg hN,if_pos rfl,ht,ht']
     exact ⟨rfl,fun e=>absurd e (by show ¬(140:Int)=0;omega)⟩
   | true=>
     cases hf:Z1i s a b with
     | none=>
       unfold Z2i
       rw [h.ok hg hN,if_pos rfl,ht,ht',Bool.true_and,if_pos rfl,hf]
       exact ⟨rfl,fun e=>absurd e (by show ¬(141:Int)=0;omega)⟩
     | some i=>
       obtain ⟨m,db,x,d1,_,_,_,_,_,_,_,_,_,_,e,k⟩:=delivS_eq hg hN h ht ht' hf
       rw [e]
       exact ⟨rfl,fun _=>k⟩
theorem actA_inv {g:Graph} {s:Scene} (hg:okG g=true) (hN:g.N≤60) (h:Inv g s) (k a b:Int):fineE (Z4i s k a b).2=true∧((Z4i s k a b).2=0→Inv g (Z4i s k a b).1):=by
 unfold Z4i
 split
 ·exact turnS_inv hg hN h a 0 1 (by omega) (by omega)
 ·split
  ·exact turnS_inv hg hN h a 2 0 (by omega) (by omega)
  ·exact delivS_inv hg hN h a b
set_option maxRecDepth 100000
set_option maxHeartbeats 4000000
def e74:EC:=.seq (.reg [(Qa 1 (.box 49 8 (.t 0))),(Qa 2 (.mv (.c .ff)))]) (.seq (.reg [(Qa 3 (.fld 3 (.t 1))),(Qa 4 (.load (.t 3))),(Qa 2 (.mv (.t 4)))]) (.ret))
theorem ok74:FnOK Try.prog 74 Try.f74 e74 [.t 2] 1 4:=⟨by kernel_rfl,⟨_,rfl,by kernel_rfl⟩,by kernel_rfl,by kernel_rfl⟩
noncomputable def Zjj (x1:Side):Option Bool:=
 some x1.Fork
theorem Zkj (x1:Side) (r:Bool) (h:Zjj x1=some r):Zq2 Try.prog 74 [.agg (Side.row x1)] (.bv r):=by
 refine Zu2 ok74 rfl rfl fun w0 H0=>?_
 rw [Zjj] at h
 refine Zl2 11 ?_;dsimp only [e74,go_sem];refine ⟨by simp,?_⟩;exact Zx4 (res:=fun (r:Bool)=>.bv r) ok74 h
set_option maxRecDepth 100000
set_option maxHeartbeats 4000000
def e75:EC:=.seq (.reg [(Qa 1 (.box 49 8 (.t 0))),(Qa 2 (.mv (.c .ff)))]) (.seq (.reg [(Qa 3 (.fld 5 (.t 1))),(Qa 4 (.load (.t 3))),(Qa 2 (.mv (.t 4)))]) (.ret))
theorem ok75:FnOK Try.prog 75 Try.f75 e75 [.t 2] 1 4:=⟨by kernel_rfl,⟨_,rfl,by kernel_rfl⟩,by kernel_rfl,by kernel_rfl⟩
noncomputable def Zlj (x1:Side):Option Bool:=
 some x1.Token
theorem Zmj (x1:Side) (r:Bool) (h:Zlj x1=some r):Zq2 Try.prog 75 [.agg (Side.row x1)] (.bv r):=by
 refine Zu2 ok75 rfl rfl fun w0 H0=>?_
 rw [Zlj] at h
 refine Zl2 11 ?_;dsimp only [e75,go_sem];refine ⟨by simp,?_⟩;exact Zx4 (res:=fun (r:Bool)=>.bv r) ok75 h
set_option maxRecDepth 100000
set_option maxHeartbeats 4000000
def Znj:EC:=.seq (.reg [(Qa 89 (.bin .lss (.t 88) (.t 87)))]) (.seq (.ite (.t 89) (.skip) (.exit 3)) (.seq (.blk 4 (.seq (.reg [(Qa 90 (.idx 5 (.t 86) (.t 88))),(Qa 91 (.loadA 5 (.t 90))),(Qa 16 (.alloc 97 [.iv 0,.iv 0,.iv 0,.iv 0,.iv 0])),(Qb (.store 5 (.t 16) (.t 91)))]) (.seq (.reg [(Qa 92 (.fld 2 (.t 16))),(Qa 93 (.fld 0 (.t 92))),(Qa 94 (.load (.t 93))),(Qa 95 (.mv (.t 2))),(Qa 96 (.bin .eql (.t 94) (.t 95))),(Qa 97 (.mv (.t 96))),(Qg 98 97 true (.fld 2 (.t 16))),(Qg 99 97 true (.fld 1 (.t 98))),(Qg 100 97 true (.load (.t 99))),(Qg 101 97 true (.fld 1 (.t 7))),(Qg 102 97 true (.load (.t 101))),(Qg 103 97 true (.bin .eql (.t 100) (.t 102))),(Qa 104 (.pick (.t 97) (.t 103) (.c .ff))),(Qa 105 (.mv (.t 104))),(Qg 106 105 true (.fld 0 (.t 16))),(Qg 107 105 true (.load (.t 106))),(Qg 108 105 true (.fld 1 (.t 16))),(Qg 109 105 true (.load (.t 108))),(Qg 110 105 true (.mm false [(.t 107),(.t 109)])),(Qg 111 105 true (.fld 0 (.t 4))),(Qg 112 105 true (.load (.t 111))),(Qg 113 105 true (.fld 1 (.t 4))),(Qg 114 105 true (.load (.t 113))),(Qg 115 105 true (.mm false [(.t 112),(.t 114)])),(Qg 116 105 true (.bin .eql (.t 110) (.t 115))),(Qa 117 (.pick (.t 105) (.t 116) (.c .ff))),(Qa 118 (.mv (.t 117))),(Qg 119 118 true (.fld 0 (.t 16))),(Qg 120 118 true (.load (.t 119))),(Qg 121 118 true (.fld 1 (.t 16))),(Qg 122 118 true (.load (.t 121))),(Qg 123 118 true (.mm true [(.t 120),(.t 122)])),(Qg 124 118 true (.fld 0 (.t 4))),(Qg 125 118 true (.load (.t 124))),(Qg 126 118 true (.fld 1 (.t 4))),(Qg 127 118 true (.load (.t 126))),(Qg 128 118 true (.mm true [(.t 125),(.t 127)])),(Qg 129 118 true (.bin .eql (.t 123) (.t 128))),(Qa 130 (.pick (.t 118) (.t 129) (.c .ff)))]) (.ite (.t 130) (.reg [(Qa 131 (.mv (.t 12))),(Qa 132 (.bin .add (.t 131) (.c (.iv 1)))),(Qa 12 (.mv (.t 132)))]) (.skip))))) (.reg [(Qa 133 (.bin .add (.t 88) (.c (.iv 1)))),(Qa 88 (.mv (.t 133)))])))
def Zoj:EC:=.seq (.reg [(Qa 76 (.bin .lss (.t 75) (.t 74)))]) (.seq (.ite (.t 76) (.skip) (.exit 1)) (.seq (.blk 2 (.seq (.reg [(Qa 77 (.idx 8 (.t 73) (.t 75))),(Qa 78 (.loadA 8 (.t 77))),(Qa 14 (.alloc 49 [.iv 0,.iv 0,.iv 0,.ff,.ff,.ff,.ff,.ff])),(Qb (.store 8 (.t 14) (.t 78)))]) (.seq (.reg [(Qa 79 (.mv (.t 11))),(Qa 80 (.loadA 8 (.t 14))),(Qa 81 (.callv (.t 79) [(.t 80)]))]) (.ite (.t 81) (.reg [(Qa 82 (.mv (.t 12))),(Qa 83 (.bin .add (.t 82) (.c (.iv 1)))),(Qa 12 (.mv (.t 83)))]) (.skip))))) (.reg [(Qa 84 (.bin .add (.t 75) (.c (.iv 1)))),(Qa 75 (.mv (.t 84)))])))
def e39:EC:=.seq (.reg [(Qa 3 (.box 43 2 (.t 0))),(Qa 4 (.box 58 2 (.t 1))),(Qa 6 (.mv (.c (.iv 0))))]) (.seq (.seq (.reg [(Qa 17 (.loadA 2 (.t 3))),(Qa 18 (.fld 0 (.t 4))),(Qa 19 (.load (.t 18))),(Qa 20 (.call 73 [(.t 17),(.t 19)])),(Qa 21 (.not (.t 20))),(Qa 22 (.mv (.t 21))),(Qg 23 22 false (.loadA 2 (.t 3))),(Qg 24 22 false (.fld 1 (.t 4))),(Qg 25 22 false (.load (.t 24))),(Qg 26 22 false (.call 73 [(.t 23),(.t 25)])),(Qg 27 22 false (.not (.t 26))),(Qa 28 (.pick (.t 22) (.c .tt) (.t 27)))]) (.ite (.t 28) (.seq (.reg [(Qa 6 (.mv (.c (.iv 0))))]) (.ret)) (.skip))) (.seq (.drw [(Qa 30 (.fld 0 (.t 3))),(Qa 31 (.load (.t 30))),(Qa 32 (.fld 0 (.t 4))),(Qa 33 (.load (.t 32))),(Qa 34 (.idx 3 (.t 31) (.t 33))),(Qa 35 (.loadA 3 (.t 34))),(Qa 36 (.fld 1 (.t 4))),(Qa 37 (.load (.t 36))),(Qa 38 (.call 24 [(.t 35),(.t 37)])),(Qa 29 (.mv (.t 38))),(Qa 39 (.ext (.t 29) 0)),(Qa 40 (.ext (.t 29) 1)),(Qa 7 (.alloc 49 [.iv 0,.iv 0,.iv 0,.ff,.ff,.ff,.ff,.ff])),(Qb (.store 8 (.t 7) (.t 39))),(Qa 8 (.mv (.t 40)))] [[],[0],[],[2],[1,3],[4],[],[6],[5,7],[8],[9],[9],[],[12,10,8,0,1,2,3,4,5,6,7,8,9,10,12],[11,13,0,1,2,3,4,5,6,7,8,9,10,11,12,13]] [[1],[0,4],[3],[2,4],[1,3,5],[4,8],[7],[6,8],[5,7,9],[8,10,11],[9,13],[9,14],[13],[10,12],[11]]) (.seq (.drw [(Qa 42 (.fld 0 (.t 3))),(Qa 43 (.load (.t 42))),(Qa 44 (.fld 1 (.t 4))),(Qa 45 (.load (.t 44))),(Qa 46 (.idx 3 (.t 43) (.t 45))),(Qa 47 (.loadA 3 (.t 46))),(Qa 48 (.fld 0 (.t 4))),(Qa 49 (.load (.t 48))),(Qa 50 (.call 24 [(.t 47),(.t 49)])),(Qa 41 (.mv (.t 50))),(Qa 51 (.ext (.t 41) 0)),(Qa 52 (.ext (.t 41) 1)),(Qa 9 (.alloc 49 [.iv 0,.iv 0,.iv 0,.ff,.ff,.ff,.ff,.ff])),(Qb (.store 8 (.t 9) (.t 51))),(Qa 10 (.mv (.t 52)))] [[],[0],[],[2],[1,3],[4],[],[6],[5,7],[8],[9],[9],[],[12,10,8,0,1,2,3,4,5,6,7,8,9,10,12],[11,13,0,1,2,3,4,5,6,7,8,9,10,11,12,13]] [[1],[0,4],[3],[2,4],[1,3,5],[4,8],[7],[6,8],[5,7,9],[8,10,11],[9,13],[9,14],[13],[10,12],[11]]) (.seq (.seq (.reg [(Qa 53 (.mv (.t 8))),(Qa 54 (.not (.t 53))),(Qa 55 (.mv (.t 54))),(Qg 56 55 false (.mv (.t 10))),(Qg 57 55 false (.not (.t 56))),(Qa 58 (.pick (.t 55) (.c .tt) (.t 57))),(Qa 59 (.mv (.t 58))),(Qg 60 59 false (.fld 1 (.t 7))),(Qg 61 59 false (.load (.t 60))),(Qg 62 59 false (.fld 1 (.t 9))),(Qg 63 59 false (.load (.t 62))),(Qg 64 59 false (.bin .neq (.t 61) (.t 63))),(Qa 65 (.pick (.t 59) (.c .tt) (.t 64)))]) (.ite (.t 65) (.seq (.reg [(Qa 6 (.mv (.c (.iv 0))))]) (.ret)) (.skip))) (.seq (.reg [(Qa 11 (.mv (.c .any)))]) (.seq (.seq (.reg [(Qa 66 (.mv (.t 2)))]) (.blk 0 (.seq (.reg [(Qa 68 (.bin .eql (.t 66) (.c (.iv 1)))),(Qa 67 (.mv (.t 68)))]) (.ite (.t 67) (.reg [(Qa 11 (.mv (.c (.clo 74 []))))]) (.seq (.reg [(Qa 70 (.bin .eql (.t 66) (.c (.iv 2)))),(Qa 69 (.mv (.t 70)))]) (.ite (.t 69) (.reg [(Qa 11 (.mv (.c (.clo 75 []))))]) (.seq (.reg [(Qa 6 (.mv (.c (.iv 0))))]) (.ret)))))))) (.seq (.reg [(Qa 12 (.mv (.c (.iv 0))))]) (.seq (.seq (.reg [(Qa 71 (.loadA 8 (.t 7))),(Qa 72 (.loadA 8 (.t 9))),(Qa 73 (.bsl 49 8 2 [.iv 0,.iv 0,.iv 0,.ff,.ff,.ff,.ff,.ff] [(0,(.t 71)),(1,(.t 72))])),(Qa 74 (.len (.t 73))),(Qa 75 (.mv (.c (.iv 0))))]) (.blk 1 (.loop Zoj))) (.seq (.seq (.reg [(Qa 85 (.fld 1 (.t 3))),(Qa 86 (.load (.t 85))),(Qa 87 (.len (.t 86))),(Qa 88 (.mv (.c (.iv 0))))]) (.blk 3 (.loop Znj))) (.seq (.reg [(Qa 134 (.mv (.t 12))),(Qa 6 (.mv (.t 134)))]) (.ret)))))))))))
theorem ok39:FnOK Try.prog 39 Try.f39 e39 [.t 6] 3 132:=⟨by kernel_rfl,⟨_,rfl,by kernel_rfl⟩,by kernel_rfl,by kernel_rfl⟩
noncomputable def Zpj:Int→Option Int
| x58=>
 some x58
noncomputable def Zqj (x45:Int):Int→Option ((Int×Int) ⊕ Int)
| x48=>
 some (.inl (x48,wr (x45+1)))
noncomputable def Zrj (x44:Int) (x45:Int):Bool→Option ((Int×Int) ⊕ Int)
| x47=>
 ifb x47 (
 (Zqj x45) (wr (x44+1))) (
 (Zqj x45) x44)
noncomputable def Zsj (x1:Scene) (x2:Edge) (x3:Int) (x11:Side):(Int×Int)→Option ((Int×Int) ⊕ Int)
| (x44,x45)=>
 ifb (decide (x45<(ln Mail.row x1.Mail))) (
 (at_ x1.Mail x45).bind fun x46=>
 ifb (decide (x46.Msg.Kind=x3)) (
 ifb (decide (x46.Msg.Epoch=x11.Epoch)) (
 ifb (decide (((min x46.From x46.To))=((min x2.A x2.B)))) (
 (Zrj x44 x45) (decide (((max x46.From x46.To))=((max x2.A x2.B))))) (
 (Zrj x44 x45) false)) (
 (Zrj x44 x45) false)) (
 (Zrj x44 x45) false)) (
 Option.map Sum.inr (Zpj x44))
noncomputable def Ztj (x1:Scene) (x2:Edge) (x3:Int) (x11:Side):Int→Option Int
| x38=>
 loop (Zsj x1 x2 x3 x11) (x38,0)
noncomputable def Zuj (x24:Int):Int→Option ((Int×Int) ⊕ Int)
| x27=>
 some (.inl (x27,wr (x24+1)))
noncomputable def Zvj (x1:Scene) (x2:Edge) (x3:Int) (x11:Side) (x16:Side):(Int×Int)→Option ((Int×Int) ⊕ Int)
| (x23,x24)=>
 ifb (decide (x24<(ln Side.row ([x11,x16])))) (
 (at_ ([x11,x16]) x24).bind fun x25=>
 (Zjj x25).bind fun x26=>
 ifb x26 (
 (Zuj x24) (wr (x23+1))) (
 (Zuj x24) x23)) (
 Option.map Sum.inr ((Ztj x1 x2 x3 x11) x23))
noncomputable def Zwj:Int→Option Int
| x99=>
 some x99
noncomputable def Zxj (x86:Int):Int→Option ((Int×Int) ⊕ Int)
| x89=>
 some (.inl (x89,wr (x86+1)))
noncomputable def Zyj (x85:Int) (x86:Int):Bool→Option ((Int×Int) ⊕ Int)
| x88=>
 ifb x88 (
 (Zxj x86) (wr (x85+1))) (
 (Zxj x86) x85)
noncomputable def Zzj (x1:Scene) (x2:Edge) (x3:Int) (x11:Side):(Int×Int)→Option ((Int×Int) ⊕ Int)
| (x85,x86)=>
 ifb (decide (x86<(ln Mail.row x1.Mail))) (
 (at_ x1.Mail x86).bind fun x87=>
 ifb (decide (x87.Msg.Kind=x3)) (
 ifb (decide (x87.Msg.Epoch=x11.Epoch)) (
 ifb (decide (((min x87.From x87.To))=((min x2.A x2.B)))) (
 (Zyj x85 x86) (decide (((max x87.From x87.To))=((max x2.A x2.B))))) (
 (Zyj x85 x86) false)) (
 (Zyj x85 x86) false)) (
 (Zyj x85 x86) false)) (
 Option.map Sum.inr (Zwj x85))
noncomputable def Z0k (x1:Scene) (x2:Edge) (x3:Int) (x11:Side):Int→Option Int
| x79=>
 loop (Zzj x1 x2 x3 x11) (x79,0)
noncomputable def Z1k (x65:Int):Int→Option ((Int×Int) ⊕ Int)
| x68=>
 some (.inl (x68,wr (x65+1)))
noncomputable def Z2k (x1:Scene) (x2:Edge) (x3:Int) (x11:Side) (x16:Side):(Int×Int)→Option ((Int×Int) ⊕ Int)
| (x64,x65)=>
 ifb (decide (x65<(ln Side.row ([x11,x16])))) (
 (at_ ([x11,x16]) x65).bind fun x66=>
 (Zlj x66).bind fun x67=>
 ifb x67 (
 (Z1k x65) (wr (x64+1))) (
 (Z1k x65) x64)) (
 Option.map Sum.inr ((Z0k x1 x2 x3 x11) x64))
noncomputable def Z3k (x1:Scene) (x2:Edge) (x3:Int) (x11:Side) (x16:Side):Bool→Option Int
| x17=>
 ifb x17 (
 some 0) (
 ifb (decide (x3=1)) (
 loop (Zvj x1 x2 x3 x11 x16) (0,0)) (
 ifb (decide (x3=2)) (
 loop (Z2k x1 x2 x3 x11 x16) (0,0)) (
 some 0)))
noncomputable def Z4k (x1:Scene) (x2:Edge) (x3:Int) (x10:Bool) (x11:Side):(Bool×Side)→Option Int
| (x15,x16)=>
 ifb (!x10) (
 (Z3k x1 x2 x3 x11 x16) true) (
 ifb (!x15) (
 (Z3k x1 x2 x3 x11 x16) true) (
 (Z3k x1 x2 x3 x11 x16) (!decide (x11.Epoch=x16.Epoch))))
noncomputable def Z5k (x1:Scene) (x2:Edge) (x3:Int):(Bool×Side)→Option Int
| (x10,x11)=>
 (at_ x1.Diners x2.B).bind fun x12=>
 (Zr8 x12 x2.A).bind fun x13=>
 (Z4k x1 x2 x3 x10 x11) (x13.2,x13.1)
noncomputable def Z6k (x1:Scene) (x2:Edge) (x3:Int):Bool→Option Int
| x6=>
 ifb x6 (
 some 0) (
 (at_ x1.Diners x2.A).bind fun x7=>
 (Zr8 x7 x2.B).bind fun x8=>
 (Z5k x1 x2 x3) (x8.2,x8.1))
noncomputable def Z7k (x1:Scene) (x2:Edge) (x3:Int):Option Int:=
 (Z9g x1 x2.A).bind fun x4=>
 ifb (!x4) (
 (Z6k x1 x2 x3) true) (
 (Z9g x1 x2.B).bind fun x5=>
 (Z6k x1 x2 x3) (!x5))
theorem k_table_Count (x1:Scene) (x2:Edge) (x3:Int) (r:Int) (h:Z7k x1 x2 x3=some r):Zq2 Try.prog 39 [.agg (Scene.row x1),.agg (Edge.row x2),.iv x3] (.iv r):=by
 refine Zu2 ok39 rfl rfl fun w0 H0=>?_
 rw [Z7k] at h
 refine Zl2 12 ?_;dsimp only [e39,Zoj,Znj,go_sem];refine ⟨by simp,?_⟩;obtain ⟨x4,ex4,h⟩:=Option.bind_eq_some_iff.1 h;refine Zz2 trivial (Zag x1 x2.A _ ex4) (h:=?_);refine Zl2 2 ?_;dsimp only [e39,Zoj,Znj,go_sem];refine ⟨by simp,?_⟩;refine Zl4 (fun (x6:Bool)=>(⟨(.any :: .any :: .iv x3 :: .ptr 0 0 :: .ptr 1 0::an 23 (.bv x6::an 106 [])),[some ⟨43,[.sl 3 (List.map Diner.row x1.Diners),.sl 5 (List.map Mail.row x1.Mail)]⟩,some ⟨58,[.iv x2.A,.iv x2.B]⟩],[]⟩:St)) (Z6k x1 x2 x3) r ?_ fun J1=>?_
 ·intro x6 h;rw [Z6k] at h;(try dsimp only);refine Zn4 h rfl (fun _ h=>?_) fun _ h=>?_
  ·refine Zl2 4 ?_;dsimp only [e39,Zoj,Znj,go_sem];refine ⟨by simp,?_⟩;exact Zx4 (res:=fun (r:Int)=>.iv r) ok39 h
  ·refine Zl2 2 ?_;dsimp only [e39,Zoj,Znj,go_sem];refine ⟨by simp,?_⟩;refine Zl4 (fun ((x10,x11):(Bool×Side))=>(⟨(.any :: .any :: .iv x3 :: .ptr 0 0 :: .ptr 1 0 :: .any :: .any :: .ptr 2 0 :: .bv x10::an 126 []),[some ⟨43,[.sl 3 (List.map Diner.row x1.Diners),.sl 5 (List.map Mail.row x1.Mail)]⟩,some ⟨58,[.iv x2.A,.iv x2.B]⟩,some ⟨49,[.iv x11.Peer,.iv x11.Epoch,.iv x11.State,.bv x11.Fork,.bv x11.Dirty,.bv x11.Token,.bv x11.Bottle,.bv x11.Ask]⟩],[]⟩:St)) (Z5k x1 x2 x3) r ?_ fun J2=>?_
   ·rintro ⟨x10,x11⟩ h;rw [Z5k] at h;(try dsimp only);refine Zl2 1 ?_;dsimp only [e39,Zoj,Znj,go_sem];refine ⟨by simp,?_⟩
    refine Zl4 (fun ((x15,x16):(Bool×Side))=>(⟨(.any :: .any :: .iv x3 :: .ptr 0 0 :: .ptr 1 0 :: .any :: .any :: .ptr 2 0 :: .bv x10 :: .ptr 3 0 :: .bv x15::an 124 []),[some ⟨43,[.sl 3 (List.map Diner.row x1.Diners),.sl 5 (List.map Mail.row x1.Mail)]⟩,some ⟨58,[.iv x2.A,.iv x2.B]⟩,some ⟨49,[.iv x11.Peer,.iv x11.Epoch,.iv x11.State,.bv x11.Fork,.bv x11.Dirty,.bv x11.Token,.bv x11.Bottle,.bv x11.Ask]⟩,some ⟨49,[.iv x16.Peer,.iv x16.Epoch,.iv x16.State,.bv x16.Fork,.bv x16.Dirty,.bv x16.Token,.bv x16.Bottle,.bv x16.Ask]⟩],[]⟩:St)) (Z4k x1 x2 x3 x10 x11) r ?_ fun J3=>?_
    ·rintro ⟨x15,x16⟩ h;rw [Z4k] at h;(try dsimp only);refine Zl2 6 ?_;dsimp only [e39,Zoj,Znj,go_sem];refine ⟨by simp,?_⟩
     refine Zl4 (fun (x17:Bool)=>(⟨(.any :: .any :: .iv x3 :: .ptr 0 0 :: .ptr 1 0 :: .any :: .any :: .ptr 2 0 :: .any :: .ptr 3 0::an 55 (.bv x17::an 69 [])),[some ⟨43,[.sl 3 (List.map Diner.row x1.Diners),.sl 5 (List.map Mail.row x1.Mail)]⟩,some ⟨58,[.iv x2.A,.iv x2.B]⟩,some ⟨49,[.iv x11.Peer,.iv x11.Epoch,.iv x11.State,.bv x11.Fork,.bv x11.Dirty,.bv x11.Token,.bv x11.Bottle,.bv x11.Ask]⟩,some ⟨49,[.iv x16.Peer,.iv x16.Epoch,.iv x16.State,.bv x16.Fork,.bv x16.Dirty,.bv x16.Token,.bv x16.Bottle,.bv x16.Ask]⟩],[]⟩:St)) (Z3k x1 x2 x3 x11 x16) r ?_ fun J4=>?_
     ·intro x17 h;rw [Z3k] at h;(try dsimp only);refine Zn4 h rfl (fun _ h=>?_) fun _ h=>?_
      ·refine Zl2 4 ?_;dsimp only [e39,Zoj,Znj,go_sem];refine ⟨by simp,?_⟩;exact Zx4 (res:=fun (r:Int)=>.iv r) ok39 h
      ·refine Zl2 16 ?_;dsimp only [e39,Zoj,Znj,go_sem];refine ⟨by simp,?_⟩;refine Zn4 h rfl (fun _ h=>?_) fun _ h=>?_
       ·refine Zl2 17 ?_;dsimp only [e39,Zoj,Znj,go_sem];refine ⟨by simp,?_⟩;refine Zl4 (fun (x38:Int)=>(⟨(.any :: .any :: .iv x3 :: .ptr 0 0 :: .ptr 1 0 :: .any :: .any :: .ptr 2 0::an 4 (.iv x38::an 122 [])),[some ⟨43,[.sl 3 (List.map Diner.row x1.Diners),.sl 5 (List.map Mail.row x1.Mail)]⟩,some ⟨58,[.iv x2.A,.iv x2.B]⟩,some ⟨49,[.iv x11.Peer,.iv x11.Epoch,.iv x11.State,.bv x11.Fork,.bv x11.Dirty,.bv x11.Token,.bv x11.Bottle,.bv x11.Ask]⟩],[]⟩:St)) (Ztj x1 x2 x3 x11) r ?_ fun J5=>?_
        ·intro x38 h;rw [Ztj] at h;(try dsimp only);refine Zl2 8 ?_;dsimp only [e39,Zoj,Znj,go_sem];refine ⟨by simp,?_⟩;refine Zl4 (fun (x58:Int)=>(⟨(an 12 (.iv x58::an 122 [])),[],[]⟩:St)) Zpj r ?_ fun J7=>?_
         ·intro x58 h;rw [Zpj] at h;(try dsimp only);refine Zl2 5 ?_;dsimp only [e39,Zoj,Znj,go_sem];refine ⟨by simp,?_⟩;exact Zx4 (res:=fun (r:Int)=>.iv r) ok39 h
         ·refine Zl2 1 ?_;dsimp only [e39,Zoj,Znj,go_sem];refine ⟨by simp,?_⟩;refine Zm4 h (fun ((x44,x45):(Int×Int))=>(⟨(.any :: .any :: .iv x3 :: .any :: .ptr 1 0 :: .any :: .any :: .ptr 2 0::an 4 (.iv x44::an 73 (.sl 5 (List.map Mail.row x1.Mail) :: .iv (ln Mail.row x1.Mail) :: .iv x45::an 46 []))),[none,some ⟨58,[.iv x2.A,.iv x2.B]⟩,some ⟨49,[.iv x11.Peer,.iv x11.Epoch,.iv x11.State,.bv x11.Fork,.bv x11.Dirty,.bv x11.Token,.bv x11.Bottle,.bv x11.Ask]⟩],[]⟩:St)) (by simp [go_sem]) (by rintro ⟨x44,x45⟩;first | rfl | simp [go_sem]) ?_
          rintro n1 ⟨x44,x45⟩ y1 h hin1 hout1;rw [Zsj] at h;(try dsimp only);refine Zl2 5 ?_;dsimp only [e39,Zoj,Znj,go_sem];refine ⟨by simp,?_⟩;refine Zn4 h rfl (fun _ h=>?_) fun _ h=>?_
          ·refine Zl2 5 ?_;dsimp only [e39,Zoj,Znj,go_sem];refine ⟨by simp,?_⟩;obtain ⟨x46,ex46,h⟩:=Option.bind_eq_some_iff.1 h;refine Zq4 Mail.row ex46 trivial rfl rfl rfl ?_;refine Zl2 12 ?_;dsimp only [e39,Zoj,Znj,go_sem];refine ⟨by simp,?_⟩
           refine Zl4 (fun (x47:Bool)=>(⟨(.any :: .any :: .iv x3 :: .any :: .ptr 1 0 :: .any :: .any :: .ptr 2 0::an 4 (.iv x44::an 73 (.sl 5 (List.map Mail.row x1.Mail) :: .iv (ln Mail.row x1.Mail) :: .iv x45::an 41 (.bv x47::an 4 [])))),[none,some ⟨58,[.iv x2.A,.iv x2.B]⟩,some ⟨49,[.iv x11.Peer,.iv x11.Epoch,.iv x11.State,.bv x11.Fork,.bv x11.Dirty,.bv x11.Token,.bv x11.Bottle,.bv x11.Ask]⟩],[]⟩:St)) (Zrj x44 x45) y1 ?_ fun J8=>?_
           ·intro x47 h;rw [Zrj] at h;(try dsimp only);refine Zl4 (fun (x48:Int)=>(⟨(.any :: .any :: .iv x3 :: .any :: .ptr 1 0 :: .any :: .any :: .ptr 2 0::an 4 (.iv x48::an 73 (.sl 5 (List.map Mail.row x1.Mail) :: .iv (ln Mail.row x1.Mail) :: .iv x45::an 46 []))),[none,some ⟨58,[.iv x2.A,.iv x2.B]⟩,some ⟨49,[.iv x11.Peer,.iv x11.Epoch,.iv x11.State,.bv x11.Fork,.bv x11.Dirty,.bv x11.Token,.bv x11.Bottle,.bv x11.Ask]⟩],[]⟩:St)) (Zqj x45) y1 ?_ fun J9=>?_
            ·intro x48 h;rw [Zqj] at h;(try dsimp only);refine Zl2 5 ?_;dsimp only [e39,Zoj,Znj,go_sem];refine ⟨by simp,?_⟩;exact Zy4 h hin1
            ·refine Zn4 h rfl (fun _ h=>?_) fun _ h=>?_
             ·refine Zl2 5 ?_;dsimp only [e39,Zoj,Znj,go_sem];refine ⟨by simp,?_⟩;exact Zz4 J9 (s:=wr (x44+1)) h
             ·refine Zl2 1 ?_;dsimp only [e39,Zoj,Znj,go_sem];refine ⟨by simp,?_⟩;exact Zz4 J9 (s:=x44) h
           ·refine Zw4 97 h rfl (fun _ h=>?_) fun _ h=>?_
            ·dsimp only [go_sem];refine Zl2 8 ?_;dsimp only [e39,Zoj,Znj,go_sem];refine ⟨by simp,?_⟩;refine Zw4 105 h rfl (fun _ h=>?_) fun _ h=>?_
             ·dsimp only [go_sem];refine Zl2 13 ?_;dsimp only [e39,Zoj,Znj,go_sem];refine ⟨by simp,?_⟩;refine Zw4 118 h rfl (fun _ h=>?_) fun _ h=>?_
              ·dsimp only [go_sem];refine Zl2 13 ?_;dsimp only [e39,Zoj,Znj,go_sem];refine ⟨by simp,?_⟩;exact Zz4 J8 (s:=decide (((max x46.From x46.To))=((max x2.A x2.B)))) h
              ·dsimp only [go_sem];refine Zl2 13 ?_;dsimp only [e39,Zoj,Znj,go_sem];refine ⟨by simp,?_⟩;exact Zz4 J8 (s:=false) h
             ·dsimp only [go_sem];refine Zl2 26 ?_;dsimp only [e39,Zoj,Znj,go_sem];refine ⟨by simp,?_⟩;exact Zz4 J8 (s:=false) h
            ·dsimp only [go_sem];refine Zl2 34 ?_;dsimp only [e39,Zoj,Znj,go_sem];refine ⟨by simp,?_⟩;exact Zz4 J8 (s:=false) h
          ·refine Zl2 1 ?_;dsimp only [e39,Zoj,Znj,go_sem];refine ⟨by simp,?_⟩;exact Zz4 J7 (s:=x44) (Zk4 h hout1)
        ·refine Zl2 1 ?_;dsimp only [e39,Zoj,Znj,go_sem];refine ⟨by simp,?_⟩
         refine Zm4 h (fun ((x23,x24):(Int×Int))=>(⟨(.any :: .any :: .iv x3 :: .ptr 0 0 :: .ptr 1 0 :: .any :: .any :: .ptr 2 0::an 3 (.clo 74 [] :: .iv x23::an 60 (.osl 0 :: .iv (ln Side.row ([x11,x16])) :: .iv x24::an 59 []))),[some ⟨43,[.sl 3 (List.map Diner.row x1.Diners),.sl 5 (List.map Mail.row x1.Mail)]⟩,some ⟨58,[.iv x2.A,.iv x2.B]⟩,some ⟨49,[.iv x11.Peer,.iv x11.Epoch,.iv x11.State,.bv x11.Fork,.bv x11.Dirty,.bv x11.Token,.bv x11.Bottle,.bv x11.Ask]⟩],[some ⟨49,8,List.map Side.row ([x11,x16])⟩]⟩:St)) (by simp [go_sem]) (by rintro ⟨x23,x24⟩;first | rfl | simp [go_sem]) ?_
         rintro n1 ⟨x23,x24⟩ y1 h hin1 hout1;rw [Zvj] at h;(try dsimp only);refine Zl2 5 ?_;dsimp only [e39,Zoj,Znj,go_sem];refine ⟨by simp,?_⟩;refine Zn4 h rfl (fun _ h=>?_) fun _ h=>?_
         ·refine Zl2 5 ?_;dsimp only [e39,Zoj,Znj,go_sem];refine ⟨by simp,?_⟩;obtain ⟨x25,ex25,h⟩:=Option.bind_eq_some_iff.1 h;refine Zk5 Side.row ex25 trivial rfl rfl rfl ?_;refine V_loadAO Side.row ex25 trivial rfl rfl rfl ?_;refine Zl2 7 ?_;dsimp only [e39,Zoj,Znj,go_sem];refine ⟨by simp,?_⟩;obtain ⟨x26,ex26,h⟩:=Option.bind_eq_some_iff.1 h;refine V_callv trivial rfl (Zkj x25 _ ex26) (by kernel_rfl) (h:=?_);refine Zl2 1 ?_;dsimp only [e39,Zoj,Znj,go_sem];refine ⟨by simp,?_⟩
          refine Zl4 (fun (x27:Int)=>(⟨(.any :: .any :: .iv x3 :: .ptr 0 0 :: .ptr 1 0 :: .any :: .any :: .ptr 2 0::an 3 (.clo 74 [] :: .iv x27::an 60 (.osl 0 :: .iv (ln Side.row ([x11,x16])) :: .iv x24::an 59 []))),[some ⟨43,[.sl 3 (List.map Diner.row x1.Diners),.sl 5 (List.map Mail.row x1.Mail)]⟩,some ⟨58,[.iv x2.A,.iv x2.B]⟩,some ⟨49,[.iv x11.Peer,.iv x11.Epoch,.iv x11.State,.bv x11.Fork,.bv x11.Dirty,.bv x11.Token,.bv x11.Bottle,.bv x11.Ask]⟩],[some ⟨49,8,List.map Side.row ([x11,x16])⟩]⟩:St)) (Zuj x24) y1 ?_ fun J6=>?_
          ·intro x27 h;rw [Zuj] at h;(try dsimp only);refine Zl2 5 ?_;dsimp only [e39,Zoj,Znj,go_sem];refine ⟨by simp,?_⟩;exact Zy4 h hin1
          ·refine Zn4 h rfl (fun _ h=>?_) fun _ h=>?_
           ·refine Zl2 5 ?_;dsimp only [e39,Zoj,Znj,go_sem];refine ⟨by simp,?_⟩;exact Zz4 J6 (s:=wr (x23+1)) h
           ·refine Zl2 1 ?_;dsimp only [e39,Zoj,Znj,go_sem];refine ⟨by simp,?_⟩;exact Zz4 J6 (s:=x23) h
         ·refine Zl2 1 ?_;dsimp only [e39,Zoj,Znj,go_sem];refine ⟨by simp,?_⟩;exact Zz4 J5 (s:=x23) (Zk4 h hout1)
       ·refine Zl2 5 ?_;dsimp only [e39,Zoj,Znj,go_sem];refine ⟨by simp,?_⟩;refine Zn4 h rfl (fun _ h=>?_) fun _ h=>?_
        ·refine Zl2 17 ?_;dsimp only [e39,Zoj,Znj,go_sem];refine ⟨by simp,?_⟩;refine Zl4 (fun (x79:Int)=>(⟨(.any :: .any :: .iv x3 :: .ptr 0 0 :: .ptr 1 0 :: .any :: .any :: .ptr 2 0::an 4 (.iv x79::an 122 [])),[some ⟨43,[.sl 3 (List.map Diner.row x1.Diners),.sl 5 (List.map Mail.row x1.Mail)]⟩,some ⟨58,[.iv x2.A,.iv x2.B]⟩,some ⟨49,[.iv x11.Peer,.iv x11.Epoch,.iv x11.State,.bv x11.Fork,.bv x11.Dirty,.bv x11.Token,.bv x11.Bottle,.bv x11.Ask]⟩],[]⟩:St)) (Z0k x1 x2 x3 x11) r ?_ fun J10=>?_
         ·intro x79 h;rw [Z0k] at h;(try dsimp only);refine Zl2 8 ?_;dsimp only [e39,Zoj,Znj,go_sem];refine ⟨by simp,?_⟩;refine Zl4 (fun (x99:Int)=>(⟨(an 12 (.iv x99::an 122 [])),[],[]⟩:St)) Zwj r ?_ fun J12=>?_
          ·intro x99 h;rw [Zwj] at h;(try dsimp only);refine Zl2 5 ?_;dsimp only [e39,Zoj,Znj,go_sem];refine ⟨by simp,?_⟩;exact Zx4 (res:=fun (r:Int)=>.iv r) ok39 h
          ·refine Zl2 1 ?_;dsimp only [e39,Zoj,Znj,go_sem];refine ⟨by simp,?_⟩;refine Zm4 h (fun ((x85,x86):(Int×Int))=>(⟨(.any :: .any :: .iv x3 :: .any :: .ptr 1 0 :: .any :: .any :: .ptr 2 0::an 4 (.iv x85::an 73 (.sl 5 (List.map Mail.row x1.Mail) :: .iv (ln Mail.row x1.Mail) :: .iv x86::an 46 []))),[none,some ⟨58,[.iv x2.A,.iv x2.B]⟩,some ⟨49,[.iv x11.Peer,.iv x11.Epoch,.iv x11.State,.bv x11.Fork,.bv x11.Dirty,.bv x11.Token,.bv x11.Bottle,.bv x11.Ask]⟩],[]⟩:St)) (by simp [go_sem]) (by rintro ⟨x85,x86⟩;first | rfl | simp [go_sem]) ?_
           rintro n1 ⟨x85,x86⟩ y1 h hin1 hout1;rw [Zzj] at h;(try dsimp only);refine Zl2 5 ?_;dsimp only [e39,Zoj,Znj,go_sem];refine ⟨by simp,?_⟩;refine Zn4 h rfl (fun _ h=>?_) fun _ h=>?_
           ·refine Zl2 5 ?_;dsimp only [e39,Zoj,Znj,go_sem];refine ⟨by simp,?_⟩;obtain ⟨x87,ex87,h⟩:=Option.bind_eq_some_iff.1 h;refine Zq4 Mail.row ex87 trivial rfl rfl rfl ?_;refine Zl2 12 ?_;dsimp only [e39,Zoj,Znj,go_sem];refine ⟨by simp,?_⟩
            refine Zl4 (fun (x88:Bool)=>(⟨(.any :: .any :: .iv x3 :: .any :: .ptr 1 0 :: .any :: .any :: .ptr 2 0::an 4 (.iv x85::an 73 (.sl 5 (List.map Mail.row x1.Mail) :: .iv (ln Mail.row x1.Mail) :: .iv x86::an 41 (.bv x88::an 4 [])))),[none,some ⟨58,[.iv x2.A,.iv x2.B]⟩,some ⟨49,[.iv x11.Peer,.iv x11.Epoch,.iv x11.State,.bv x11.Fork,.bv x11.Dirty,.bv x11.Token,.bv x11.Bottle,.bv x11.Ask]⟩],[]⟩:St)) (Zyj x85 x86) y1 ?_ fun J13=>?_
            ·intro x88 h;rw [Zyj] at h;(try dsimp only);refine Zl4 (fun (x89:Int)=>(⟨(.any :: .any :: .iv x3 :: .any :: .ptr 1 0 :: .any :: .any :: .ptr 2 0::an 4 (.iv x89::an 73 (.sl 5 (List.map Mail.row x1.Mail) :: .iv (ln Mail.row x1.Mail) :: .iv x86::an 46 []))),[none,some ⟨58,[.iv x2.A,.iv x2.B]⟩,some ⟨49,[.iv x11.Peer,.iv x11.Epoch,.iv x11.State,.bv x11.Fork,.bv x11.Dirty,.bv x11.Token,.bv x11.Bottle,.bv x11.Ask]⟩],[]⟩:St)) (Zxj x86) y1 ?_ fun J14=>?_
             ·intro x89 h;rw [Zxj] at h;(try dsimp only);refine Zl2 5 ?_;dsimp only [e39,Zoj,Znj,go_sem];refine ⟨by simp,?_⟩;exact Zy4 h hin1
             ·refine Zn4 h rfl (fun _ h=>?_) fun _ h=>?_
              ·refine Zl2 5 ?_;dsimp only [e39,Zoj,Znj,go_sem];refine ⟨by simp,?_⟩;exact Zz4 J14 (s:=wr (x85+1)) h
              ·refine Zl2 1 ?_;dsimp only [e39,Zoj,Znj,go_sem];refine ⟨by simp,?_⟩;exact Zz4 J14 (s:=x85) h
            ·refine Zw4 97 h rfl (fun _ h=>?_) fun _ h=>?_
             ·dsimp only [go_sem];refine Zl2 8 ?_;dsimp only [e39,Zoj,Znj,go_sem];refine ⟨by simp,?_⟩;refine Zw4 105 h rfl (fun _ h=>?_) fun _ h=>?_
              ·dsimp only [go_sem];refine Zl2 13 ?_;dsimp only [e39,Zoj,Znj,go_sem];refine ⟨by simp,?_⟩;refine Zw4 118 h rfl (fun _ h=>?_) fun _ h=>?_
               ·dsimp only [go_sem];refine Zl2 13 ?_;dsimp only [e39,Zoj,Znj,go_sem];refine ⟨by simp,?_⟩;exact Zz4 J13 (s:=decide (((max x87.From x87.To))=((max x2.A x2.B)))) h
               ·dsimp only [go_sem];refine Zl2 13 ?_;dsimp only [e39,Zoj,Znj,go_sem];refine ⟨by simp,?_⟩;exact Zz4 J13 (s:=false) h
              ·dsimp only [go_sem];refine Zl2 26 ?_;dsimp only [e39,Zoj,Znj,go_sem];refine ⟨by simp,?_⟩;exact Zz4 J13 (s:=false) h
             ·dsimp only [go_sem];refine Zl2 34 ?_;dsimp only [e39,Zoj,Znj,go_sem];refine ⟨by simp,?_⟩;exact Zz4 J13 (s:=false) h
           ·refine Zl2 1 ?_;dsimp only [e39,Zoj,Znj,go_sem];refine ⟨by simp,?_⟩;exact Zz4 J12 (s:=x85) (Zk4 h hout1)
         ·refine Zl2 1 ?_;dsimp only [e39,Zoj,Znj,go_sem];refine ⟨by simp,?_⟩
          refine Zm4 h (fun ((x64,x65):(Int×Int))=>(⟨(.any :: .any :: .iv x3 :: .ptr 0 0 :: .ptr 1 0 :: .any :: .any :: .ptr 2 0::an 3 (.clo 75 [] :: .iv x64::an 60 (.osl 0 :: .iv (ln Side.row ([x11,x16])) :: .iv x65::an 59 []))),[some ⟨43,[.sl 3 (List.map Diner.row x1.Diners),.sl 5 (List.map Mail.row x1.Mail)]⟩,some ⟨58,[.iv x2.A,.iv x2.B]⟩,some ⟨49,[.iv x11.Peer,.iv x11.Epoch,.iv x11.State,.bv x11.Fork,.bv x11.Dirty,.bv x11.Token,.bv x11.Bottle,.bv x11.Ask]⟩],[some ⟨49,8,List.map Side.row ([x11,x16])⟩]⟩:St)) (by simp [go_sem]) (by rintro ⟨x64,x65⟩;first | rfl | simp [go_sem]) ?_
          rintro n1 ⟨x64,x65⟩ y1 h hin1 hout1;rw [Z2k] at h;(try dsimp only);refine Zl2 5 ?_;dsimp only [e39,Zoj,Znj,go_sem];refine ⟨by simp,?_⟩;refine Zn4 h rfl (fun _ h=>?_) fun _ h=>?_
          ·refine Zl2 5 ?_;dsimp only [e39,Zoj,Znj,go_sem];refine ⟨by simp,?_⟩;obtain ⟨x66,ex66,h⟩:=Option.bind_eq_some_iff.1 h;refine Zk5 Side.row ex66 trivial rfl rfl rfl ?_;refine V_loadAO Side.row ex66 trivial rfl rfl rfl ?_;refine Zl2 7 ?_;dsimp only [e39,Zoj,Znj,go_sem];refine ⟨by simp,?_⟩;obtain ⟨x67,ex67,h⟩:=Option.bind_eq_some_iff.1 h;refine V_callv trivial rfl (Zmj x66 _ ex67) (by kernel_rfl) (h:=?_);refine Zl2 1 ?_;dsimp only [e39,Zoj,Znj,go_sem];refine ⟨by simp,?_⟩
           refine Zl4 (fun (x68:Int)=>(⟨(.any :: .any :: .iv x3 :: .ptr 0 0 :: .ptr 1 0 :: .any :: .any :: .ptr 2 0::an 3 (.clo 75 [] :: .iv x68::an 60 (.osl 0 :: .iv (ln Side.row ([x11,x16])) :: .iv x65::an 59 []))),[some ⟨43,[.sl 3 (List.map Diner.row x1.Diners),.sl 5 (List.map Mail.row x1.Mail)]⟩,some ⟨58,[.iv x2.A,.iv x2.B]⟩,some ⟨49,[.iv x11.Peer,.iv x11.Epoch,.iv x11.State,.bv x11.Fork,.bv x11.Dirty,.bv x11.Token,.bv x11.Bottle,.bv x11.Ask]⟩],[some ⟨49,8,List.map Side.row ([x11,x16])⟩]⟩:St)) (Z1k x65) y1 ?_ fun J11=>?_
           ·intro x68 h;rw [Z1k] at h;(try dsimp only);refine Zl2 5 ?_;dsimp only [e39,Zoj,Znj,go_sem];refine ⟨by simp,?_⟩;exact Zy4 h hin1
           ·refine Zn4 h rfl (fun _ h=>?_) fun _ h=>?_
            ·refine Zl2 5 ?_;dsimp only [e39,Zoj,Znj,go_sem];refine ⟨by simp,?_⟩;exact Zz4 J11 (s:=wr (x64+1)) h
            ·refine Zl2 1 ?_;dsimp only [e39,Zoj,Znj,go_sem];refine ⟨by simp,?_⟩;exact Zz4 J11 (s:=x64) h
          ·refine Zl2 1 ?_;dsimp only [e39,Zoj,Znj,go_sem];refine ⟨by simp,?_⟩;exact Zz4 J10 (s:=x64) (Zk4 h hout1)
        ·refine Zl2 4 ?_;dsimp only [e39,Zoj,Znj,go_sem];refine ⟨by simp,?_⟩;exact Zx4 (res:=fun (r:Int)=>.iv r) ok39 h
     ·refine Zw4 55 h rfl (fun _ h=>?_) fun _ h=>?_
      ·dsimp only [go_sem];refine Zl2 11 ?_;dsimp only [e39,Zoj,Znj,go_sem];refine ⟨by simp,?_⟩;exact Zz4 J4 (s:=true) h
      ·dsimp only [go_sem];refine Zl2 4 ?_;dsimp only [e39,Zoj,Znj,go_sem];refine ⟨by simp,?_⟩;refine Zw4 59 h rfl (fun _ h=>?_) fun _ h=>?_
       ·dsimp only [go_sem];refine Zl2 7 ?_;dsimp only [e39,Zoj,Znj,go_sem];refine ⟨by simp,?_⟩;exact Zz4 J4 (s:=true) h
       ·dsimp only [go_sem];refine Zl2 7 ?_;dsimp only [e39,Zoj,Znj,go_sem];refine ⟨by simp,?_⟩;exact Zz4 J4 (s:=!decide (x11.Epoch=x16.Epoch)) h
    ·refine Zh3 (by kernel_rfl) fun all hall hs hnap haf=>?_;dsimp only [go_sem]
     refine Zi5 hall hs haf hnap 6 9 [true,true,true,true,false,false,true,true,false,false,false,false,false,false,false] (⟨(.any :: .any :: .iv x3 :: .ptr 0 0 :: .ptr 1 0 :: .any :: .any :: .ptr 2 0 :: .bv x10::an 33 (.ptr 0 0 :: .sl 3 (List.map Diner.row x1.Diners) :: .ptr 1 1 :: .iv x2.B :: .any :: .any :: .ptr 1 0 :: .iv x2.A::an 85 [])),[some ⟨43,[.sl 3 (List.map Diner.row x1.Diners),.sl 5 (List.map Mail.row x1.Mail)]⟩,some ⟨58,[.iv x2.A,.iv x2.B]⟩,some ⟨49,[.iv x11.Peer,.iv x11.Epoch,.iv x11.State,.bv x11.Fork,.bv x11.Dirty,.bv x11.Token,.bv x11.Bottle,.bv x11.Ask]⟩],[]⟩:St) (by kernel_rfl) ?_
     obtain ⟨x12,ex12,h⟩:=Option.bind_eq_some_iff.1 h;refine Zr4 hall hs haf hnap 4 Diner.row ex12 rfl rfl trivial rfl rfl rfl rfl ?_;refine Zh5 hall hs haf hnap 1 7 ?_;dsimp only [go_sem];refine ⟨by simp,?_⟩;obtain ⟨x13,ex13,h⟩:=Option.bind_eq_some_iff.1 h;refine Zu3 8 12 rfl ?_ ?_
     ·refine Zz3 hall rfl trivial (Zs8 x12 x2.A _ ex13) (h:=?_);dsimp only [go_sem];refine Zh5 hall hs haf hnap 3 3 ?_;dsimp only [go_sem];refine ⟨by simp,?_⟩;refine Zt3 12 rfl ?_;refine Zy3 hall rfl trivial ?_;dsimp only [go_sem];refine Zt3 13 rfl ?_;refine Zy3 hall rfl trivial ?_;dsimp only [go_sem];refine Zh5 hall hs haf hnap 1 0 ?_;dsimp only [go_sem];refine ⟨by simp,?_⟩;refine Zs3 rfl ?_ _;exact Zz4 J3 (s:=(x13.2,x13.1)) h
     ·refine Zy3 hall rfl trivial ?_;dsimp only [go_sem];refine Zt3 8 rfl ?_;refine Zz3 hall rfl trivial (Zs8 x12 x2.A _ ex13) (h:=?_);dsimp only [go_sem];refine Zh5 hall hs haf hnap 3 2 ?_;dsimp only [go_sem];refine ⟨by simp,?_⟩;refine Zt3 13 rfl ?_;refine Zy3 hall rfl trivial ?_;dsimp only [go_sem];refine Zh5 hall hs haf hnap 1 0 ?_;dsimp only [go_sem];refine ⟨by simp,?_⟩;refine Zs3 rfl ?_ _;exact Zz4 J3 (s:=(x13.2,x13.1)) h
   ·refine Zh3 (by kernel_rfl) fun all hall hs hnap haf=>?_;dsimp only [go_sem];refine Zi5 hall hs haf hnap 6 9 [true,true,true,true,false,false,true,true,false,false,false,false,false,false,false] (⟨(.any :: .any :: .iv x3 :: .ptr 0 0 :: .ptr 1 0::an 23 (.bv x6 :: .any :: .ptr 0 0 :: .sl 3 (List.map Diner.row x1.Diners) :: .ptr 1 0 :: .iv x2.A :: .any :: .any :: .ptr 1 1 :: .iv x2.B::an 97 [])),[some ⟨43,[.sl 3 (List.map Diner.row x1.Diners),.sl 5 (List.map Mail.row x1.Mail)]⟩,some ⟨58,[.iv x2.A,.iv x2.B]⟩],[]⟩:St) (by kernel_rfl) ?_
    obtain ⟨x7,ex7,h⟩:=Option.bind_eq_some_iff.1 h;refine Zr4 hall hs haf hnap 4 Diner.row ex7 rfl rfl trivial rfl rfl rfl rfl ?_;refine Zh5 hall hs haf hnap 1 7 ?_;dsimp only [go_sem];refine ⟨by simp,?_⟩;obtain ⟨x8,ex8,h⟩:=Option.bind_eq_some_iff.1 h;refine Zu3 8 12 rfl ?_ ?_
    ·refine Zz3 hall rfl trivial (Zs8 x7 x2.B _ ex8) (h:=?_);dsimp only [go_sem];refine Zh5 hall hs haf hnap 3 3 ?_;dsimp only [go_sem];refine ⟨by simp,?_⟩;refine Zt3 12 rfl ?_;refine Zy3 hall rfl trivial ?_;dsimp only [go_sem];refine Zt3 13 rfl ?_;refine Zy3 hall rfl trivial ?_;dsimp only [go_sem];refine Zh5 hall hs haf hnap 1 0 ?_;dsimp only [go_sem];refine ⟨by simp,?_⟩;refine Zs3 rfl ?_ _;exact Zz4 J2 (s:=(x8.2,x8.1)) h
    ·refine Zy3 hall rfl trivial ?_;dsimp only [go_sem];refine Zt3 8 rfl ?_;refine Zz3 hall rfl trivial (Zs8 x7 x2.B _ ex8) (h:=?_);dsimp only [go_sem];refine Zh5 hall hs haf hnap 3 2 ?_;dsimp only [go_sem];refine ⟨by simp,?_⟩;refine Zt3 13 rfl ?_;refine Zy3 hall rfl trivial ?_;dsimp only [go_sem];refine Zh5 hall hs haf hnap 1 0 ?_;dsimp only [go_sem];refine ⟨by simp,?_⟩;refine Zs3 rfl ?_ _;exact Zz4 J2 (s:=(x8.2,x8.1)) h
 ·refine Zw4 22 h rfl (fun _ h=>?_) fun _ h=>?_
  ·dsimp only [go_sem];refine Zl2 7 ?_;dsimp only [e39,Zoj,Znj,go_sem];refine ⟨by simp,?_⟩;exact Zz4 J1 (s:=true) h
  ·dsimp only [go_sem];refine Zl2 3 ?_;dsimp only [e39,Zoj,Znj,go_sem];refine ⟨by simp,?_⟩;obtain ⟨x5,ex5,h⟩:=Option.bind_eq_some_iff.1 h;refine Zz2 trivial (Zag x1 x2.B _ ex5) (h:=?_);refine Zl2 3 ?_;dsimp only [e39,Zoj,Znj,go_sem];refine ⟨by simp,?_⟩;exact Zz4 J1 (s:=!x5) h
set_option maxRecDepth 100000
set_option maxHeartbeats 4000000
def Z8k:EC:=.seq (.reg [(Qa 12 (.bin .lss (.t 11) (.t 10)))]) (.seq (.ite (.t 12) (.skip) (.exit 0)) (.seq (.blk 1 (.seq (.reg [(Qa 13 (.idx 3 (.t 9) (.t 11))),(Qa 14 (.loadA 3 (.t 13))),(Qa 7 (.alloc 39 [.iv 0,.iv 0,.nl])),(Qb (.store 3 (.t 7) (.t 14)))]) (.seq (.reg [(Qa 15 (.fld 1 (.t 7))),(Qa 16 (.load (.t 15))),(Qa 17 (.mv (.t 1))),(Qa 18 (.bin .eql (.t 16) (.t 17)))]) (.ite (.t 18) (.reg [(Qa 19 (.mv (.t 5))),(Qa 20 (.fld 0 (.t 7))),(Qa 21 (.load (.t 20))),(Qa 22 (.bsl 3 1 1 [.iv 0] [(0,(.t 21))])),(Qa 23 (.app 3 1 8 (.t 19) (.t 22))),(Qa 5 (.mv (.t 23)))]) (.skip))))) (.reg [(Qa 24 (.bin .add (.t 11) (.c (.iv 1)))),(Qa 11 (.mv (.t 24)))])))
def e41:EC:=.seq (.reg [(Qa 2 (.box 43 2 (.t 0))),(Qa 4 (.mv (.c .nl)))]) (.seq (.reg [(Qa 5 (.mv (.c .nl)))]) (.seq (.seq (.reg [(Qa 8 (.fld 0 (.t 2))),(Qa 9 (.load (.t 8))),(Qa 10 (.len (.t 9))),(Qa 11 (.mv (.c (.iv 0))))]) (.blk 0 (.loop Z8k))) (.seq (.reg [(Qa 25 (.mv (.t 5))),(Qa 4 (.mv (.t 25)))]) (.ret))))
theorem ok41:FnOK Try.prog 41 Try.f41 e41 [.t 4] 2 24:=⟨by kernel_rfl,⟨_,rfl,by kernel_rfl⟩,by kernel_rfl,by kernel_rfl⟩
noncomputable def Z9k:(List Int)→Option (List Int)
| x20=>
 some x20
noncomputable def Zak (x8:Int):(List Int)→Option ((Int×(List Int)) ⊕ (List Int))
| x12=>
 some (.inl (wr (x8+1),x12))
noncomputable def Zbk (x1:Scene) (x2:Int):(Int×(List Int))→Option ((Int×(List Int)) ⊕ (List Int))
| (x8,x9)=>
 ifb (decide (x8<(ln Diner.row x1.Diners))) (
 (at_ x1.Diners x8).bind fun x10=>
 ifb (decide (x10.Phase=x2)) (
 (Za4 8 x9 ([x10.ID])).bind fun x11=>
 (Zak x8) x11) (
 (Zak x8) x9)) (
 Option.map Sum.inr (Z9k x9))
noncomputable def Zck (x1:Scene) (x2:Int):Option (List Int):=
 loop (Zbk x1 x2) (0,([]:List Int))
theorem Zdk (x1:Scene) (x2:Int) (r:(List Int)) (h:Zck x1 x2=some r):FunO Try.prog 41 [.agg (Scene.row x1),.iv x2] 3 1 (List.map Z45 r):=by
 refine Zc5 ok41 rfl fun w0 H0=>?_
 rw [Zck] at h
 refine Zl2 17 ?_;dsimp only [e41,Z8k,go_sem];refine ⟨by simp,?_⟩;refine Zl4 (fun (x20:(List Int))=>(⟨(an 5 (.osl 0::an 20 [])),[],[some ⟨3,1,List.map Z45 x20⟩]⟩:St)) Z9k r ?_ fun J1=>?_
 ·intro x20 h;rw [Z9k] at h;(try dsimp only);refine Zl2 5 ?_;dsimp only [e41,Z8k,go_sem];refine ⟨by simp,?_⟩;exact Zj5 Z45 ok41 h rfl rfl
 ·refine Zl2 1 ?_;dsimp only [e41,Z8k,go_sem];refine ⟨by simp,?_⟩;refine V_own 5 3 1 rfl rfl ?_;dsimp only [go_sem];refine Zm4 h (fun ((x8,x9):(Int×(List Int)))=>(⟨(.any :: .iv x2::an 3 (.osl 0::an 3 (.sl 3 (List.map Diner.row x1.Diners) :: .iv (ln Diner.row x1.Diners) :: .iv x8::an 14 []))),[],[some ⟨3,1,List.map Z45 x9⟩]⟩:St)) (by simp [go_sem]) (by rintro ⟨x8,x9⟩;first | rfl | simp [go_sem]) ?_;rintro n1 ⟨x8,x9⟩ y1 h hin1 hout1;rw [Zbk] at h;(try dsimp only);refine Zl2 5 ?_;dsimp only [e41,Z8k,go_sem];refine ⟨by simp,?_⟩
  refine Zn4 h rfl (fun _ h=>?_) fun _ h=>?_
  ·refine Zl2 5 ?_;dsimp only [e41,Z8k,go_sem];refine ⟨by simp,?_⟩;obtain ⟨x10,ex10,h⟩:=Option.bind_eq_some_iff.1 h;refine Zq4 Diner.row ex10 trivial rfl rfl rfl ?_;refine Zl2 11 ?_;dsimp only [e41,Z8k,go_sem];refine ⟨by simp,?_⟩;refine Zl4 (fun (x12:(List Int))=>(⟨(.any :: .iv x2::an 3 (.osl 0::an 3 (.sl 3 (List.map Diner.row x1.Diners) :: .iv (ln Diner.row x1.Diners) :: .iv x8::an 14 []))),[],[some ⟨3,1,List.map Z45 x12⟩]⟩:St)) (Zak x8) y1 ?_ fun J2=>?_
   ·intro x12 h;rw [Zak] at h;(try dsimp only);refine Zl2 5 ?_;dsimp only [e41,Z8k,go_sem];refine ⟨by simp,?_⟩;exact Zy4 h hin1
   ·refine Zn4 h rfl (fun _ h=>?_) fun _ h=>?_
    ·refine Zl2 5 ?_;dsimp only [e41,Z8k,go_sem];refine ⟨by simp,?_⟩;obtain ⟨x11,ex11,h⟩:=Option.bind_eq_some_iff.1 h;refine Zt4 Z45 ex11 trivial rfl rfl rfl ?_;refine Zl2 2 ?_;dsimp only [e41,Z8k,go_sem];refine ⟨by simp,?_⟩;refine Z44 2 0 rfl rfl rfl ?_;dsimp only [go_sem];exact Zz4 J2 (s:=x11) h
    ·refine Zl2 1 ?_;dsimp only [e41,Z8k,go_sem];refine ⟨by simp,?_⟩;exact Zz4 J2 (s:=x9) h
  ·refine Zl2 1 ?_;dsimp only [e41,Z8k,go_sem];refine ⟨by simp,?_⟩;exact Zz4 J1 (s:=x9) (Zk4 h hout1)
theorem Zek (x1:Scene) (x2:Int) (r:(List Int)) (h:Zck x1 x2=some r):Zq2 Try.prog 41 [.agg (Scene.row x1),.iv x2] (.sl 1 (List.map Z45 r)):=(Zdk x1 x2 r h).sealed
set_option maxRecDepth 100000
set_option maxHeartbeats 4000000
def Zfk:EC:=.seq (.seq (.reg [(Qa 28 (.mv (.t 10))),(Qa 29 (.mv (.t 1))),(Qa 30 (.len (.t 29))),(Qa 31 (.bin .lss (.t 28) (.t 30)))]) (.ite (.t 31) (.skip) (.exit 0))) (.seq (.blk 1 (.seq (.drw [(Qa 35 (.loadA 2 (.t 8))),(Qa 36 (.call 45 [(.t 35)])),(Qa 37 (.mv (.t 1))),(Qa 38 (.mv (.t 10))),(Qa 39 (.idx 3 (.t 37) (.t 38))),(Qa 40 (.loadA 3 (.t 39))),(Qa 41 (.call 46 [(.t 36),(.t 40)])),(Qa 34 (.mv (.t 41))),(Qa 42 (.ext (.t 34) 0)),(Qa 43 (.ext (.t 34) 1)),(Qa 11 (.alloc 43 [.nl,.nl])),(Qb (.store 2 (.t 11) (.t 42))),(Qa 12 (.mv (.t 43)))] [[],[0],[],[],[2,3],[4],[1,5,1],[6],[7],[7],[],[10,8,6,0,1,2,3,4,5,6,7,8,10],[9,11,0,1,2,3,4,5,6,7,8,9,10,11]] [[1],[0,6],[4],[4],[2,3,5],[4,6],[1,5,7],[6,8,9],[7,11],[7,12],[11],[8,10],[9]]) (.seq (.seq (.reg [(Qa 44 (.mv (.t 12))),(Qa 45 (.bin .neq (.t 44) (.c (.iv 0)))),(Qa 46 (.mv (.t 45))),(Qg 47 46 true (.mv (.t 12))),(Qg 48 46 true (.bin .neq (.t 47) (.c (.iv 134)))),(Qa 49 (.pick (.t 46) (.t 48) (.c .ff))),(Qa 50 (.mv (.t 49))),(Qg 51 50 true (.mv (.t 12))),(Qg 52 50 true (.bin .neq (.t 51) (.c (.iv 141)))),(Qa 53 (.pick (.t 50) (.t 52) (.c .ff))),(Qa 54 (.mv (.t 53))),(Qg 55 54 true (.mv (.t 12))),(Qg 56 54 true (.bin .neq (.t 55) (.c (.iv 140)))),(Qa 57 (.pick (.t 54) (.t 56) (.c .ff)))]) (.ite (.t 57) (.seq (.reg [(Qa 58 (.loadA 2 (.t 8))),(Qb (.store 2 (.t 6) (.t 58))),(Qa 7 (.mv (.c .ff)))]) (.ret)) (.skip))) (.seq (.seq (.reg [(Qa 59 (.mv (.t 12))),(Qa 60 (.bin .eql (.t 59) (.c (.iv 0))))]) (.ite (.t 60) (.reg [(Qa 61 (.loadA 2 (.t 11))),(Qb (.store 2 (.t 8) (.t 61)))]) (.skip))) (.seq (.reg [(Qa 62 (.mv (.t 2))),(Qa 63 (.loadA 2 (.t 8))),(Qa 64 (.callv (.t 62) [(.t 63)])),(Qa 65 (.not (.t 64)))]) (.ite (.t 65) (.seq (.reg [(Qa 66 (.loadA 2 (.t 8))),(Qb (.store 2 (.t 6) (.t 66))),(Qa 7 (.mv (.c .ff)))]) (.ret)) (.skip))))))) (.reg [(Qa 32 (.mv (.t 10))),(Qa 33 (.bin .add (.t 32) (.c (.iv 1)))),(Qa 10 (.mv (.t 33)))]))
def e37:EC:=.seq (.reg [(Qa 3 (.box 24 2 (.t 0))),(Qa 6 (.alloc 43 [.nl,.nl])),(Qa 7 (.mv (.c .ff)))]) (.seq (.reg [(Qa 14 (.loadA 2 (.t 3))),(Qa 15 (.call 15 [(.t 14)])),(Qa 16 (.call 68 [(.t 15)])),(Qa 13 (.mv (.t 16))),(Qa 17 (.ext (.t 13) 0)),(Qa 18 (.ext (.t 13) 1)),(Qa 8 (.alloc 43 [.nl,.nl])),(Qb (.store 2 (.t 8) (.t 17))),(Qa 9 (.mv (.t 18)))]) (.seq (.seq (.reg [(Qa 19 (.mv (.t 9))),(Qa 20 (.bin .neq (.t 19) (.c (.iv 0)))),(Qa 21 (.mv (.t 20))),(Qg 22 21 false (.mv (.t 2))),(Qg 23 21 false (.loadA 2 (.t 8))),(Qg 24 21 false (.callv (.t 22) [(.t 23)])),(Qg 25 21 false (.not (.t 24))),(Qa 26 (.pick (.t 21) (.c .tt) (.t 25)))]) (.ite (.t 26) (.seq (.reg [(Qa 27 (.loadA 2 (.t 8))),(Qb (.store 2 (.t 6) (.t 27))),(Qa 7 (.mv (.c .ff)))]) (.ret)) (.skip))) (.seq (.seq (.reg [(Qa 10 (.mv (.c (.iv 0))))]) (.blk 0 (.loop Zfk))) (.seq (.reg [(Qa 67 (.loadA 2 (.t 8))),(Qb (.store 2 (.t 6) (.t 67))),(Qa 7 (.mv (.c .tt)))]) (.ret)))))
theorem ok37:FnOK Try.prog 37 Try.f37 e37 [.c 6 (some 2),.t 7] 3 65:=⟨by kernel_rfl,⟨_,rfl,by kernel_rfl⟩,by kernel_rfl,by kernel_rfl⟩
noncomputable def Zgk:Scene→Option (Scene×Bool)
| x36=>
 some (x36,true)
noncomputable def Zhk (p2:(Scene→Option Bool)) (x19:Int):Scene→Option ((Int×Scene) ⊕ (Scene×Bool))
| x29=>
 (p2 x29).bind fun x30=>
 ifb (!x30) (
 Option.map Sum.inr (some (x29,false))) (
 some (.inl (wr (x19+1),x29)))
noncomputable def Zik (p2:(Scene→Option Bool)) (x19:Int) (x20:Scene) (x26:Int) (x27:Scene):Bool→Option ((Int×Scene) ⊕ (Scene×Bool))
| x28=>
 ifb x28 (
 Option.map Sum.inr (some (x20,false))) (
 ifb (decide (x26=0)) (
 (Zhk p2 x19) x27) (
 (Zhk p2 x19) x20))
noncomputable def Zjk (p2:(Scene→Option Bool)) (x19:Int) (x20:Scene):(Int×Scene)→Option ((Int×Scene) ⊕ (Scene×Bool))
| (x26,x27)=>
 ifb (!decide (x26=0)) (
 ifb (!decide (x26=134)) (
 ifb (!decide (x26=141)) (
 (Zik p2 x19 x20 x26 x27) (!decide (x26=140))) (
 (Zik p2 x19 x20 x26 x27) false)) (
 (Zik p2 x19 x20 x26 x27) false)) (
 (Zik p2 x19 x20 x26 x27) false)
noncomputable def Zkk (x2:(List narthexlaw14_Act)) (p2:(Scene→Option Bool)):(Int×Scene)→Option ((Int×Scene) ⊕ (Scene×Bool))
| (x19,x20)=>
 ifb (decide (x19<(ln narthexlaw14_Act.row x2))) (
 (at_ x2 x19).bind fun x21=>
 (Zjh x20).bind fun x22=>
 (Zgh x22 x21).bind fun x24=>
 (Zjk p2 x19 x20) (x24.2,x24.1)) (
 Option.map Sum.inr (Zgk x20))
noncomputable def Zlk (x2:(List narthexlaw14_Act)) (p2:(Scene→Option Bool)) (x4:(Scene×Int)):Bool→Option (Scene×Bool)
| x6=>
 ifb x6 (
 some (x4.1,false)) (
 loop (Zkk x2 p2) (0,x4.1))
noncomputable def Zmk (x1:Graph) (x2:(List narthexlaw14_Act)) (p2:(Scene→Option Bool)):Option (Scene×Bool):=
 (Z99 x1).bind fun x3=>
 (Z3j x3).bind fun x4=>
 ifb (!decide (x4.2=0)) (
 (Zlk x2 p2 x4) true) (
 (p2 x4.1).bind fun x5=>
 (Zlk x2 p2 x4) (!x5))
theorem Znk (x1:Graph) (x2:(List narthexlaw14_Act)) (g2:Nat) (caps2:List AV) (p2:(Scene→Option Bool)) (hc2:CloOK Try.prog g2 caps2 (fun z=>[.agg (Scene.row z)]) p2 (fun z=>.bv z)) (r:(Scene×Bool)) (h:Zmk x1 x2 p2=some r):Zq2 Try.prog 37 [.agg (Graph.row x1),.sl 3 (List.map narthexlaw14_Act.row x2),.clo g2 caps2] (.tup [.agg (Scene.row r.1),.bv r.2]):=by
 refine Zu2 ok37 rfl rfl fun w0 H0=>?_
 rw [Zmk] at h
 refine Zl2 9 ?_;dsimp only [e37,Zfk,go_sem];refine ⟨by simp,?_⟩;obtain ⟨x3,ex3,h⟩:=Option.bind_eq_some_iff.1 h;refine Zz2 trivial (Za9 x1 _ ex3) (hp:=(by first | rfl | simp [go_sem,hc2.pu])) (h:=?_);obtain ⟨x4,ex4,h⟩:=Option.bind_eq_some_iff.1 h;refine Zz2 trivial (Z4j x3 _ ex4) (hp:=(by first | rfl | simp [go_sem,hc2.pu])) (h:=?_);refine Zl2 13 ?_;dsimp only [e37,Zfk,go_sem];refine ⟨by simp,?_⟩
 refine Zl4 (fun (x6:Bool)=>(⟨(.any :: .sl 3 (List.map narthexlaw14_Act.row x2) :: .clo g2 caps2::an 3 (.ptr 1 0 :: .any :: .ptr 2 0::an 17 (.bv x6::an 41 []))),[none,some ⟨43,[.nl,.nl]⟩,some ⟨43,[.sl 3 (List.map Diner.row x4.1.Diners),.sl 5 (List.map Mail.row x4.1.Mail)]⟩],[]⟩:St)) (Zlk x2 p2 x4) r ?_ fun J1=>?_
 ·intro x6 h;rw [Zlk] at h;(try dsimp only);refine Zn4 h rfl (fun _ h=>?_) fun _ h=>?_
  ·refine Zl2 6 ?_;dsimp only [e37,Zfk,go_sem];refine ⟨by simp,?_⟩;exact Zx4 (res:=fun (r:(Scene×Bool))=>.tup [.agg (Scene.row r.1),.bv r.2]) ok37 h
  ·refine Zl2 6 ?_;dsimp only [e37,Zfk,go_sem];refine ⟨by simp,?_⟩;refine Zl4 (fun (x36:Scene)=>(⟨(an 6 (.ptr 1 0 :: .any :: .ptr 2 0::an 59 [])),[none,some ⟨43,[.nl,.nl]⟩,some ⟨43,[.sl 3 (List.map Diner.row x36.Diners),.sl 5 (List.map Mail.row x36.Mail)]⟩],[]⟩:St)) Zgk r ?_ fun J2=>?_
   ·intro x36 h;rw [Zgk] at h;(try dsimp only);refine Zl2 6 ?_;dsimp only [e37,Zfk,go_sem];refine ⟨by simp,?_⟩;exact Zx4 (res:=fun (r:(Scene×Bool))=>.tup [.agg (Scene.row r.1),.bv r.2]) ok37 h
   ·refine Zl2 1 ?_;dsimp only [e37,Zfk,go_sem];refine ⟨by simp,?_⟩;refine Zm4 h (fun ((x19,x20):(Int×Scene))=>(⟨(.any :: .sl 3 (List.map narthexlaw14_Act.row x2) :: .clo g2 caps2::an 3 (.ptr 1 0 :: .any :: .ptr 2 0 :: .any :: .iv x19::an 57 [])),[none,some ⟨43,[.nl,.nl]⟩,some ⟨43,[.sl 3 (List.map Diner.row x20.Diners),.sl 5 (List.map Mail.row x20.Mail)]⟩],[]⟩:St)) (by simp [go_sem]) (by rintro ⟨x19,x20⟩;first | rfl | simp [go_sem,Z84 _ hc2.pu]) ?_;rintro n1 ⟨x19,x20⟩ y1 h hin1 hout1;rw [Zkk] at h;(try dsimp only);refine Zl2 8 ?_
    dsimp only [e37,Zfk,go_sem];refine ⟨by simp,?_⟩;refine Zn4 h rfl (fun _ h=>?_) fun _ h=>?_
    ·refine Zl2 4 ?_;dsimp only [e37,Zfk,go_sem];refine ⟨by simp,?_⟩;refine Zl4 (fun ((x26,x27):(Int×Scene))=>(⟨(.any :: .sl 3 (List.map narthexlaw14_Act.row x2) :: .clo g2 caps2::an 3 (.ptr 1 0 :: .any :: .ptr 2 0 :: .any :: .iv x19 :: .ptr 3 0 :: .iv x26::an 55 [])),[none,some ⟨43,[.nl,.nl]⟩,some ⟨43,[.sl 3 (List.map Diner.row x20.Diners),.sl 5 (List.map Mail.row x20.Mail)]⟩,some ⟨43,[.sl 3 (List.map Diner.row x27.Diners),.sl 5 (List.map Mail.row x27.Mail)]⟩],[]⟩:St)) (Zjk p2 x19 x20) y1 ?_ fun J3=>?_
     ·rintro ⟨x26,x27⟩ h;rw [Zjk] at h;(try dsimp only);refine Zl2 6 ?_;dsimp only [e37,Zfk,go_sem];refine ⟨by simp,?_⟩
      refine Zl4 (fun (x28:Bool)=>(⟨(.any :: .sl 3 (List.map narthexlaw14_Act.row x2) :: .clo g2 caps2::an 3 (.ptr 1 0 :: .any :: .ptr 2 0 :: .any :: .iv x19 :: .ptr 3 0 :: .iv x26::an 44 (.bv x28::an 10 []))),[none,some ⟨43,[.nl,.nl]⟩,some ⟨43,[.sl 3 (List.map Diner.row x20.Diners),.sl 5 (List.map Mail.row x20.Mail)]⟩,some ⟨43,[.sl 3 (List.map Diner.row x27.Diners),.sl 5 (List.map Mail.row x27.Mail)]⟩],[]⟩:St)) (Zik p2 x19 x20 x26 x27) y1 ?_ fun J4=>?_
      ·intro x28 h;rw [Zik] at h;(try dsimp only);refine Zn4 h rfl (fun _ h=>?_) fun _ h=>?_
       ·refine Zl2 6 ?_;dsimp only [e37,Zfk,go_sem];refine ⟨by simp,?_⟩;exact Zx4 (res:=fun (r:(Scene×Bool))=>.tup [.agg (Scene.row r.1),.bv r.2]) ok37 (Zk4 h hout1)
       ·refine Zl2 7 ?_;dsimp only [e37,Zfk,go_sem];refine ⟨by simp,?_⟩;refine Zl4 (fun (x29:Scene)=>(⟨(.any :: .sl 3 (List.map narthexlaw14_Act.row x2) :: .clo g2 caps2::an 3 (.ptr 1 0 :: .any :: .ptr 2 0 :: .any :: .iv x19::an 57 [])),[none,some ⟨43,[.nl,.nl]⟩,some ⟨43,[.sl 3 (List.map Diner.row x29.Diners),.sl 5 (List.map Mail.row x29.Mail)]⟩],[]⟩:St)) (Zhk p2 x19) y1 ?_ fun J5=>?_
        ·intro x29 h;rw [Zhk] at h;(try dsimp only);refine Zl2 4 ?_;dsimp only [e37,Zfk,go_sem];refine ⟨by simp,?_⟩;obtain ⟨x30,ex30,h⟩:=Option.bind_eq_some_iff.1 h;refine Z35 trivial rfl hc2 (x:=x29) ex30 (by first | exact Z94 _ | simp [go_sem]) (by first | rfl | simp [go_sem,hc2.pu]) ?_;refine Zl2 2 ?_;dsimp only [e37,Zfk,go_sem];refine ⟨by simp,?_⟩;refine Zn4 h rfl (fun _ h=>?_) fun _ h=>?_
         ·refine Zl2 6 ?_;dsimp only [e37,Zfk,go_sem];refine ⟨by simp,?_⟩;exact Zx4 (res:=fun (r:(Scene×Bool))=>.tup [.agg (Scene.row r.1),.bv r.2]) ok37 (Zk4 h hout1)
         ·refine Zl2 7 ?_;dsimp only [e37,Zfk,go_sem];refine ⟨by simp,?_⟩;exact Zy4 h hin1 (hok:=by first | rfl | simp [go_sem,Z84 _ hc2.pu])
        ·refine Zn4 h rfl (fun _ h=>?_) fun _ h=>?_
         ·refine Zl2 4 ?_;dsimp only [e37,Zfk,go_sem];refine ⟨by simp,?_⟩;exact Zz4 J5 (s:=x27) h (hok:=by first | rfl | simp [go_sem,Z84 _ hc2.pu])
         ·refine Zl2 1 ?_;dsimp only [e37,Zfk,go_sem];refine ⟨by simp,?_⟩;exact Zz4 J5 (s:=x20) h (hok:=by first | rfl | simp [go_sem,Z84 _ hc2.pu])
      ·refine Zw4 46 h rfl (fun _ h=>?_) fun _ h=>?_
       ·dsimp only [go_sem];refine Zl2 4 ?_;dsimp only [e37,Zfk,go_sem];refine ⟨by simp,?_⟩;refine Zw4 50 h rfl (fun _ h=>?_) fun _ h=>?_
        ·dsimp only [go_sem];refine Zl2 4 ?_;dsimp only [e37,Zfk,go_sem];refine ⟨by simp,?_⟩;refine Zw4 54 h rfl (fun _ h=>?_) fun _ h=>?_
         ·dsimp only [go_sem];refine Zl2 4 ?_;dsimp only [e37,Zfk,go_sem];refine ⟨by simp,?_⟩;exact Zz4 J4 (s:=!decide (x26=140)) h (hok:=by first | rfl | simp [go_sem,Z84 _ hc2.pu])
         ·dsimp only [go_sem];refine Zl2 4 ?_;dsimp only [e37,Zfk,go_sem];refine ⟨by simp,?_⟩;exact Zz4 J4 (s:=false) h (hok:=by first | rfl | simp [go_sem,Z84 _ hc2.pu])
        ·dsimp only [go_sem];refine Zl2 8 ?_;dsimp only [e37,Zfk,go_sem];refine ⟨by simp,?_⟩;exact Zz4 J4 (s:=false) h (hok:=by first | rfl | simp [go_sem,Z84 _ hc2.pu])
       ·dsimp only [go_sem];refine Zl2 12 ?_;dsimp only [e37,Zfk,go_sem];refine ⟨by simp,?_⟩;exact Zz4 J4 (s:=false) h (hok:=by first | rfl | simp [go_sem,Z84 _ hc2.pu])
     ·refine Zh3 (by kernel_rfl) fun all hall hs hnap haf=>?_;dsimp only [go_sem];refine Zh5 hall hs haf hnap 3 10 ?_;dsimp only [go_sem];refine ⟨by simp,?_⟩;obtain ⟨x21,ex21,h⟩:=Option.bind_eq_some_iff.1 h;refine Zr4 hall hs haf hnap 4 narthexlaw14_Act.row ex21 rfl rfl trivial rfl rfl rfl rfl ?_;refine Zh5 hall hs haf hnap 1 8 ?_;dsimp only [go_sem];refine ⟨by simp,?_⟩;obtain ⟨x22,ex22,h⟩:=Option.bind_eq_some_iff.1 h;refine Zu3 1 10 rfl ?_ ?_
      ·refine Zz3 hall rfl trivial (Zkh x20 _ ex22) (hp:=(by first | rfl | simp [go_sem,hc2.pu])) (h:=?_);dsimp only [go_sem];obtain ⟨x24,ex24,h⟩:=Option.bind_eq_some_iff.1 h;refine Zu3 6 10 rfl ?_ ?_
       ·refine Zz3 hall rfl trivial (Zhh x22 x21 _ ex24) (hp:=(by first | rfl | simp [go_sem,hc2.pu])) (h:=?_);dsimp only [go_sem];refine Zh5 hall hs haf hnap 3 3 ?_;dsimp only [go_sem];refine ⟨by simp,?_⟩;refine Zt3 10 rfl ?_;refine Zy3 hall rfl trivial ?_;dsimp only [go_sem];refine Zt3 11 rfl ?_;refine Zy3 hall rfl trivial ?_;dsimp only [go_sem];refine Zh5 hall hs haf hnap 1 0 ?_;dsimp only [go_sem];refine ⟨by simp,?_⟩;refine Zs3 rfl ?_ _;exact Zz4 J3 (s:=(x24.2,x24.1)) h (hok:=by first | rfl | simp [go_sem,Z84 _ hc2.pu])
       ·refine Zy3 hall rfl trivial ?_;dsimp only [go_sem];refine Zt3 6 rfl ?_;refine Zz3 hall rfl trivial (Zhh x22 x21 _ ex24) (hp:=(by first | rfl | simp [go_sem,hc2.pu])) (h:=?_);dsimp only [go_sem];refine Zh5 hall hs haf hnap 3 2 ?_;dsimp only [go_sem];refine ⟨by simp,?_⟩;refine Zt3 11 rfl ?_;refine Zy3 hall rfl trivial ?_;dsimp only [go_sem];refine Zh5 hall hs haf hnap 1 0 ?_;dsimp only [go_sem];refine ⟨by simp,?_⟩;refine Zs3 rfl ?_ _;exact Zz4 J3 (s:=(x24.2,x24.1)) h (hok:=by first | rfl | simp [go_sem,Z84 _ hc2.pu])
      ·refine Zy3 hall rfl trivial ?_;dsimp only [go_sem];refine Zt3 1 rfl ?_;refine Zz3 hall rfl trivial (Zkh x20 _ ex22) (hp:=(by first | rfl | simp [go_sem,hc2.pu])) (h:=?_);dsimp only [go_sem];refine Zt3 6 rfl ?_;obtain ⟨x24,ex24,h⟩:=Option.bind_eq_some_iff.1 h;refine Zz3 hall rfl trivial (Zhh x22 x21 _ ex24) (hp:=(by first | rfl | simp [go_sem,hc2.pu])) (h:=?_);dsimp only [go_sem];refine Zh5 hall hs haf hnap 3 2 ?_;dsimp only [go_sem];refine ⟨by simp,?_⟩;refine Zt3 11 rfl ?_;refine Zy3 hall rfl trivial ?_
       dsimp only [go_sem];refine Zh5 hall hs haf hnap 1 0 ?_;dsimp only [go_sem];refine ⟨by simp,?_⟩;refine Zs3 rfl ?_ _;exact Zz4 J3 (s:=(x24.2,x24.1)) h (hok:=by first | rfl | simp [go_sem,Z84 _ hc2.pu])
    ·refine Zl2 1 ?_;dsimp only [e37,Zfk,go_sem];refine ⟨by simp,?_⟩;exact Zz4 J2 (s:=x20) (Zk4 h hout1) (hok:=by first | rfl | simp [go_sem,Z84 _ hc2.pu])
 ·refine Zw4 21 h rfl (fun _ h=>?_) fun _ h=>?_
  ·dsimp only [go_sem];refine Zl2 6 ?_;dsimp only [e37,Zfk,go_sem];refine ⟨by simp,?_⟩;exact Zz4 J1 (s:=true) h (hok:=by first | rfl | simp [go_sem,Z84 _ hc2.pu])
  ·dsimp only [go_sem];refine Zl2 2 ?_;dsimp only [e37,Zfk,go_sem];refine ⟨by simp,?_⟩;obtain ⟨x5,ex5,h⟩:=Option.bind_eq_some_iff.1 h;refine Z35 trivial rfl hc2 (x:=x4.1) ex5 (by first | exact Z94 _ | simp [go_sem]) (by first | rfl | simp [go_sem,hc2.pu]) ?_;refine Zl2 3 ?_;dsimp only [e37,Zfk,go_sem];refine ⟨by simp,?_⟩;exact Zz4 J1 (s:=!x5) h (hok:=by first | rfl | simp [go_sem,Z84 _ hc2.pu])
set_option maxRecDepth 100000
set_option maxHeartbeats 4000000
def e36:EC:=.seq (.reg [(Qa 1 (.box 24 2 (.t 0))),(Qa 2 (.mv (.c .ff)))]) (.seq (.reg [(Qa 3 (.fld 0 (.t 1))),(Qa 4 (.load (.t 3))),(Qa 5 (.bin .leq (.t 4) (.c (.iv 10)))),(Qa 6 (.mv (.t 5))),(Qg 7 6 true (.loadA 2 (.t 1))),(Qg 8 6 true (.call 16 [(.t 7)])),(Qa 9 (.pick (.t 6) (.t 8) (.c .ff))),(Qa 2 (.mv (.t 9)))]) (.ret))
theorem ok36:FnOK Try.prog 36 Try.f36 e36 [.t 2] 1 9:=⟨by kernel_rfl,⟨_,rfl,by kernel_rfl⟩,by kernel_rfl,by kernel_rfl⟩
noncomputable def Zok:Bool→Option Bool
| x3=>
 some x3
noncomputable def Zpk (x1:Graph):Option Bool:=
 ifb (decide (x1.N≤10)) (
 (Zta x1).bind fun x2=>
 Zok x2) (
 Zok false)
theorem Zqk (x1:Graph) (r:Bool) (h:Zpk x1=some r):Zq2 Try.prog 36 [.agg (Graph.row x1)] (.bv r):=by
 refine Zu2 ok36 rfl rfl fun w0 H0=>?_
 rw [Zpk] at h
 refine Zl2 11 ?_;dsimp only [e36,go_sem];refine ⟨by simp,?_⟩;refine Zl4 (fun (x3:Bool)=>(⟨(.any :: .any :: .bv x3::an 7 []),[],[]⟩:St)) Zok r ?_ fun J1=>?_
 ·intro x3 h;rw [Zok] at h;(try dsimp only);exact Zx4 (res:=fun (r:Bool)=>.bv r) ok36 h
 ·refine Zw4 6 h rfl (fun _ h=>?_) fun _ h=>?_
  ·dsimp only [go_sem];refine Zl2 1 ?_;dsimp only [e36,go_sem];refine ⟨by simp,?_⟩;obtain ⟨x2,ex2,h⟩:=Option.bind_eq_some_iff.1 h;refine Zz2 trivial (Zua x1 _ ex2) (h:=?_);refine Zl2 3 ?_;dsimp only [e36,go_sem];refine ⟨by simp,?_⟩;exact Zz4 J1 (s:=x2) h
  ·dsimp only [go_sem];refine Zl2 5 ?_;dsimp only [e36,go_sem];refine ⟨by simp,?_⟩;exact Zz4 J1 (s:=false) h
def mailB (e:Edge) (k ep:Int) (m:Mail):Bool:=decide (m.Msg.Kind=k)&&(decide (m.Msg.Epoch=ep)&&(decide (min m.From m.To=min e.A e.B)&&decide (max m.From m.To=max e.A e.B)))
def Zrk (M:List Mail) (e:Edge) (k ep:Int):Nat:=M.countP (mailB e k ep)
theorem Zsk (M:List Mail) (m:Mail) (e:Edge) (k ep:Int):Zrk (M++[m]) e k ep=Zrk M e k ep+bn (mailB e k ep m):=by
 unfold Zrk
 rw [List.countP_append,List.countP_cons]
 cases mailB e k ep m<;>simp [bn]
theorem countM_le (M:List Mail) (e:Edge) (k ep:Int):Zrk M e k ep≤M.length:=List.countP_le_length
theorem s_countL2 (s:Scene) (e:Edge) (k:Int) (x:Side) (n:Nat) (hn:n≤2) (hM:s.Mail.length≤900000):loop (Zsj s e k x) ((n:Int),0)=some ((n+Zrk s.Mail e k x.Epoch:Nat):Int):=by
 have key:=Zc9 s.Mail (Zsj s e k x) (fun pre=>(((n+Zrk pre e k x.Epoch:Nat):Int),(pre.length:Int))) ((n+Zrk s.Mail e k x.Epoch:Nat):Int) (fun pre m post h=>?_) ?_
 ·exact key
 ·have hx:=Zd9 h
  have hm:=Ze9 h
  have hc:=countM_le pre e k x.Epoch
  dsimp only [Zsj]
  rw [Z96 hx,Z36,Z76 hx,Option.bind_some,Zsk,Zg9]
  have step:∀z,Zrj ((n+Zrk pre e k x.Epoch:Nat):Int) (pre.length:Int) z=some (.inl (((n+(Zrk pre e k x.Epoch+bn z):Nat):Int),((pre.length+1:Nat):Int))):=fun z=>by
   cases z with
   | true=>dsimp only [Zrj,Zqj];rw [Z36,Zb6 (by omega),Zb6 (by omega)];rfl
   | false=>dsimp only [Zrj,Zqj];rw [Z46,Zb6 (by omega)];rfl
  unfold mailB
  cases h1:decide (m.Msg.Kind=k) with
  | false=>rw [Z46,step,Bool.false_and]
  | true=>
    cases h2:decide (m.Msg.Epoch=x.Epoch) with
    | false=>rw [Z36,Z46,step,Bool.true_and,Bool.false_and]
    | true=>
      cases h3:decide (min m.From m.To=min e.A e.B) with
      | false=>rw [Z36,Z36,Z46,step,Bool.true_and,Bool.true_and,Bool.false_and]
      | true=>rw [Z36,Z36,Z36,step,Bool.true_and,Bool.true_and,Bool.true_and]
 ·dsimp only [Zsj]
  rw [Za6,Z46];rfl
theorem s_countL4 (s:Scene) (e:Edge) (k:Int) (x:Side) (n:Nat) (hn:n≤2) (hM:s.Mail.length≤900000):loop (Zzj s e k x) ((n:Int),0)=some ((n+Zrk s.Mail e k x.Epoch:Nat):Int):=by
 have key:=Zc9 s.Mail (Zzj s e k x) (fun pre=>(((n+Zrk pre e k x.Epoch:Nat):Int),(pre.length:Int))) ((n+Zrk s.Mail e k x.Epoch:Nat):Int) (fun pre m post h=>?_) ?_
 ·exact key
 ·have hx:=Zd9 h
  have hm:=Ze9 h
  have hc:=countM_le pre e k x.Epoch
  dsimp only [Zzj]
  rw [Z96 hx,Z36,Z76 hx,Option.bind_some,Zsk,Zg9]
  have step:∀z,Zyj ((n+Zrk pre e k x.Epoch:Nat):Int) (pre.length:Int) z=some (.inl (((n+(Zrk pre e k x.Epoch+bn z):Nat):Int),((pre.length+1:Nat):Int))):=fun z=>by
   cases z with
   | true=>dsimp only [Zyj,Zxj];rw [Z36,Zb6 (by omega),Zb6 (by omega)];rfl
   | false=>dsimp only [Zyj,Zxj];rw [Z46,Zb6 (by omega)];rfl
  unfold mailB
  cases h1:decide (m.Msg.Kind=k) with
  | false=>rw [Z46,step,Bool.false_and]
  | true=>
    cases h2:decide (m.Msg.Epoch=x.Epoch) with
    | false=>rw [Z36,Z46,step,Bool.true_and,Bool.false_and]
    | true=>
      cases h3:decide (min m.From m.To=min e.A e.B) with
      | false=>rw [Z36,Z36,Z46,step,Bool.true_and,Bool.true_and,Bool.false_and]
      | true=>rw [Z36,Z36,Z36,step,Bool.true_and,Bool.true_and,Bool.true_and]
 ·dsimp only [Zzj]
  rw [Za6,Z46];rfl
theorem s_countS1 (s:Scene) (e:Edge) (k:Int) (x y:Side):loop (Zvj s e k x y) (0,0)=Ztj s e k x ((bn x.Fork+bn y.Fork:Nat):Int):=by
 have ef:(([x,y].countP (·.Fork):Nat):Int)=((bn x.Fork+bn y.Fork:Nat):Int):=by
  rw [List.countP_cons,List.countP_cons,List.countP_nil]
  cases x.Fork<;>cases y.Fork<;>rfl
 rw [←ef]
 refine Zb9 [x,y] (Zvj s e k x y) (fun pre=>(((pre.countP (·.Fork):Nat):Int),(pre.length:Int))) (fun _ _=>Ztj s e k x (([x,y].countP (·.Fork):Nat):Int)) (fun pre z post h=>.inl ⟨?_,rfl⟩) ?_
 ·have hx:=Zd9 h
  have hm:=Ze9 h
  have h2:pre.length<2:=hm
  have hc:pre.countP (·.Fork)≤pre.length:=List.countP_le_length
  dsimp only [Zvj,Zjj,Zuj]
  rw [Z96 hx,Z36,Z76 hx,Option.bind_some,Option.bind_some,Zg9,List.countP_append,List.countP_cons,List.countP_nil,Zb6 (by omega),Zb6 (by omega)]
  cases z.Fork<;>rfl
 ·dsimp only [Zvj]
  rw [Za6,Z46]
theorem s_countS3 (s:Scene) (e:Edge) (k:Int) (x y:Side):loop (Z2k s e k x y) (0,0)=Z0k s e k x ((bn x.Token+bn y.Token:Nat):Int):=by
 have ef:(([x,y].countP (·.Token):Nat):Int)=((bn x.Token+bn y.Token:Nat):Int):=by
  rw [List.countP_cons,List.countP_cons,List.countP_nil]
  cases x.Token<;>cases y.Token<;>rfl
 rw [←ef]
 refine Zb9 [x,y] (Z2k s e k x y) (fun pre=>(((pre.countP (·.Token):Nat):Int),(pre.length:Int))) (fun _ _=>Z0k s e k x (([x,y].countP (·.Token):Nat):Int)) (fun pre z post h=>.inl ⟨?_,rfl⟩) ?_
 ·have hx:=Zd9 h
  have hm:=Ze9 h
  have h2:pre.length<2:=hm
  have hc:pre.countP (·.Token)≤pre.length:=List.countP_le_length
  dsimp only [Z2k,Zlj,Z1k]
  rw [Z96 hx,Z36,Z76 hx,Option.bind_some,Option.bind_some,Zg9,List.countP_append,List.countP_cons,List.countP_nil,Zb6 (by omega),Zb6 (by omega)]
  cases z.Token<;>rfl
 ·dsimp only [Z2k]
  rw [Za6,Z46]
def countS (s:Scene) (e:Edge) (k:Int):Nat:=
 if Zyh s e.A&&Zyh s e.B then
  match s.Diners[e.A.toNat]?,s.Diners[e.B.toNat]? with
  | some da,some db=>match Zn9 da e.B,Zn9 db e.A with
    | some x,some y=>if decide (x.Epoch=y.Epoch)&&(decide (k=1)||decide (k=2)) then bn (has x k)+bn (has y k)+Zrk s.Mail e k x.Epoch else 0
    | _,_=>0
  | _,_=>0
 else 0
theorem s_Count (s:Scene) (e:Edge) (k:Int) (hD:Zm9 s.Diners) (hM:s.Mail.length≤900000):Z7k s e k=some (countS s e k:Int):=by
 simp only [Z7k,s_there,Option.bind_some]
 unfold countS
 cases ha:Zyh s e.A with
 | false=>rfl
 | true=>
   cases hb:Zyh s e.B with
   | false=>rfl
   | true=>
     obtain ⟨da,a1,a2⟩:=Z0i ha
     obtain ⟨db,b1,b2⟩:=Z0i hb
     have la:=hD.2 da (List.mem_iff_getElem?.2 ⟨_,a2⟩)
     have lb:=hD.2 db (List.mem_iff_getElem?.2 ⟨_,b2⟩)
     simp only [Bool.not_true,Z46,Z6k,a1,a2,b1,b2,Option.bind_some,Z5k,s_Side da e.B (by omega),s_Side db e.A (by omega),Bool.and_self,if_true,Z4k]
     cases hx:Zn9 da e.B with
     | none=>rfl
     | some x=>
       cases hy:Zn9 db e.A with
       | none=>rfl
       | some y=>
         simp only [sideP,Bool.not_true,Z46,Z3k]
         by_cases he:x.Epoch=y.Epoch
         ·by_cases h1:k=1
          ·subst h1
           have n2:bn x.Fork+bn y.Fork≤2:=by cases x.Fork<;>cases y.Fork<;>decide
           simp only [decide_true,Z36,s_countS1,Ztj,s_countL2 s e 1 x _ n2 hM]
           simp [he,has]
          ·by_cases h2:k=2
           ·subst h2
            have n2:bn x.Token+bn y.Token≤2:=by cases x.Token<;>cases y.Token<;>decide
            simp only [Z46,show decide ((2:Int)=1)=false from rfl,decide_true,Z36,s_countS3,Z0k,s_countL4 s e 2 x _ n2 hM]
            simp [he,has]
           ·simp [he,h1,h2]
         ·simp [he]
def Ztk (l:List Diner) (p:Int):List Int:=(l.filter fun d=>decide (d.Phase=p)).map (·.ID)
theorem Zuk (s:Scene) (p:Int) (hD:Zm9 s.Diners):Zck s p=some (Ztk s.Diners p):=by
 unfold Zck
 refine Zc9 s.Diners (Zbk s p) (fun pre=>((pre.length:Int),Ztk pre p)) _ (fun pre d post h=>?_) ?_
 ·have hx:=Zd9 h
  have hm:=Ze9 h
  have:=hD.1
  have hl:(Ztk pre p).length≤pre.length:=by unfold Ztk;rw [List.length_map];exact List.length_filter_le _ _
  have e:Ztk (pre++[d]) p=if d.Phase=p then Ztk pre p++[d.ID] else Ztk pre p:=by
   unfold Ztk
   by_cases hp:d.Phase=p<;>simp [hp]
  dsimp only [Zbk]
  rw [Z96 hx,Z36,Z76 hx,Option.bind_some,e,Zg9]
  by_cases hp:d.Phase=p
  ·rw [decide_eq_true hp,Z36,Z86 _ _ (by omega) (by simp only [List.length_singleton];omega),Option.bind_some,if_pos hp]
   dsimp only [Zak];rw [Zb6 (by omega)]
  ·rw [decide_eq_false hp,Z46,if_neg hp]
   dsimp only [Zak];rw [Zb6 (by omega)]
 ·dsimp only [Zbk]
  rw [Za6,Z46];rfl
theorem fireMs_small {d:Diner} (h:okD d=true):(Z7f d).length≤128:=by
 have h1:=Zze h
 have h2:=Z8f d.Sides d.ID d.Phase
 unfold Z7f
 omega
theorem actP_mail {s:Scene} {a:Int} {r:Diner×Int} (h:(actP s a r).2=0):(actP s a r).1.Mail.length≤s.Mail.length+128:=by
 unfold actP at h ⊢
 split at h
 ·rename_i h1
  split at h
  ·rename_i h2
   rw [if_pos h1,if_pos h2]
   have:=fireMs_small h2
   simp only [actS,List.length_append];omega
  ·simp at h
 ·exact absurd h (by assumption)
theorem Zvk {s:Scene} {a:Int} {q:Diner→Diner×Int} (h:(Zzh s a q).2=0):(Zzh s a q).1.Mail.length≤s.Mail.length+128:=by
 unfold Zzh at h ⊢
 cases hk:okS s with
 | false=>rw [hk] at h;simp at h
 | true=>
   rw [hk] at h
   simp only [if_true] at h ⊢
   cases ht:Zyh s a with
   | false=>rw [ht] at h;simp at h
   | true=>
     rw [ht] at h
     simp only [if_true] at h ⊢
     obtain ⟨d,hd,_⟩:=Z0i ht
     rw [hd] at h ⊢
     exact actP_mail h
theorem delivS_mail {s:Scene} {a b:Int} (h:(Z2i s a b).2=0):(Z2i s a b).1.Mail.length≤s.Mail.length+128:=by
 unfold Z2i at h ⊢
 cases hk:okS s with
 | false=>rw [hk] at h;simp at h
 | true=>
   rw [hk] at h
   simp only [if_true] at h ⊢
   cases ht:(Zyh s a&&Zyh s b) with
   | false=>rw [ht] at h;simp at h
   | true=>
     rw [ht] at h
     simp only [if_true] at h ⊢
     cases hi:Z1i s a b with
     | none=>rw [hi] at h;simp at h
     | some i=>
       rw [hi] at h
       simp only at h ⊢
       split at h
       ·rename_i m d hm hd
        have:=actP_mail h
        simp only [List.length_append,List.length_take,List.length_drop] at this
        refine Nat.le_trans this ?_
        omega
       ·simp at h
theorem actA_mail {s:Scene} {k a b:Int} (h:(Z4i s k a b).2=0):(Z4i s k a b).1.Mail.length≤s.Mail.length+128:=by
 unfold Z4i at h ⊢
 split at h
 ·rename_i h1;rw [if_pos h1];exact Zvk h
 ·rename_i h1
  rw [if_neg h1]
  split at h
  ·rename_i h2;rw [if_pos h2];exact Zvk h
  ·rename_i h2;rw [if_neg h2];exact delivS_mail h
def actT (s:Scene) (a:narthexlaw14_Act):Scene:=if (Z4i s a.K a.A a.B).2=0 then (Z4i s a.K a.A a.B).1 else s
def Zwk (g:Graph) (l:List narthexlaw14_Act):Scene:=l.foldl actT (Zbj g)
theorem Inv.first {g:Graph} (hg:okG g=true):Inv g (Zbj g):=Inv.init hg (Zaj hg).1
theorem s_run14 {g:Graph} (hg:okG g=true) (hN:g.N≤60) {J:Scene→Prop} (hJ:∀s,J s→Inv g s) (h0:J (Zbj g)) (hs:∀s k a b,J s→(Z4i s k a b).2=0→J (Z4i s k a b).1)
  (l:List narthexlaw14_Act) (hl:l.length≤80) (p:Scene→Option Bool) (hp:∀s,J s→s.Mail.length≤20000→p s=some true):
  Zmk g l p=some (Zwk g l,true)∧J (Zwk g l)∧(Zwk g l).Mail.length≤128*l.length:=by
 have inv:∀(l:List narthexlaw14_Act) s,J s→J (l.foldl actT s)∧(l.foldl actT s).Mail.length≤s.Mail.length+128*l.length:=fun l=>by
  induction l with
  | nil=>exact fun s h=>⟨h,by simp⟩
  | cons a l ih=>
    intro s h
    have h1:J (actT s a)∧(actT s a).Mail.length≤s.Mail.length+128:=by
     unfold actT
     split
     ·rename_i h2;exact ⟨hs _ _ _ _ h h2,actA_mail h2⟩
     ·exact ⟨h,by omega⟩
    have h3:=ih _ h1.1
    rw [List.foldl_cons,List.length_cons]
    exact ⟨h3.1,by omega⟩
 have e0:(Zbj g).Mail.length=0:=rfl
 have hrun:=inv l (Zbj g) h0
 refine ⟨?_,hrun.1,by have:=hrun.2;rw [e0] at this;unfold Zwk;omega⟩
 obtain ⟨g1,g2,g3,_,_⟩:=Zs7 hg
 simp only [Zmk,s_Own03 g (by omega),Option.bind_some,s_New,hg,if_true,decide_true,Bool.not_true,Z46,hp _ h0 (by rw [e0];omega),Zlk]
 refine Zb9 l (Zkk l p) (fun pre=>((pre.length:Int),Zwk g pre)) (fun _ _=>some (Zwk g l,true)) (fun pre a post h=>.inl ⟨?_,rfl⟩) ?_
 ·have hx:=Zd9 h
  have hm:=Ze9 h
  obtain ⟨k1,k2⟩:=inv pre (Zbj g) h0
  rw [e0] at k2
  have k1':J (Zwk g pre):=k1
  have k2':(Zwk g pre).Mail.length≤128*pre.length:=by unfold Zwk;omega
  have hI:=hJ _ k1'
  have er:Zwk g (pre++[a])=actT (Zwk g pre) a:=by unfold Zwk;rw [List.foldl_append];rfl
  obtain ⟨ak,aa,ab⟩:=a
  obtain ⟨f1,f2⟩:=actA_inv hg hN hI ak aa ab
  have hT:=inv [⟨ak,aa,ab⟩] (Zwk g pre) k1'
  simp only [List.foldl_cons,List.foldl_nil,List.length_singleton] at hT
  have pT:p (actT (Zwk g pre) ⟨ak,aa,ab⟩)=some true:=hp _ hT.1 (by omega)
  dsimp only [Zkk]
  rw [Z96 hx,Z36,Z76 hx,Option.bind_some,s_own14 _ (hI.few hg) (by omega),Option.bind_some,s_act14 _ ak aa ab (hI.few hg) (by omega),Option.bind_some,er,Zg9]
  have ej:∀z:Scene,p z=some true→Zhk p (pre.length:Int) z=some (.inl (((pre.length+1:Nat):Int),z)):=fun z hz=>by
   dsimp only [Zhk]
   rw [hz,Option.bind_some,Zb6 (by omega)];rfl
  have e3:Zjk p (pre.length:Int) (Zwk g pre) ((Z4i (Zwk g pre) ak aa ab).2,(Z4i (Zwk g pre) ak aa ab).1)=Zik p (pre.length:Int) (Zwk g pre) (Z4i (Zwk g pre) ak aa ab).2 (Z4i (Zwk g pre) ak aa ab).1 false:=by
   unfold fineE at f1
   dsimp only [Zjk]
   cases c1:decide ((Z4i (Zwk g pre) ak aa ab).2=0) with
   | true=>rfl
   | false=>
     cases c2:decide ((Z4i (Zwk g pre) ak aa ab).2=134) with
     | true=>rfl
     | false=>
       cases c3:decide ((Z4i (Zwk g pre) ak aa ab).2=141) with
       | true=>rfl
       | false=>
         rw [c1,c2,c3,Bool.false_or,Bool.false_or,Bool.false_or] at f1
         rw [f1];rfl
  rw [e3]
  dsimp only [Zik]
  rw [Z46]
  unfold actT at pT ⊢
  dsimp only at pT ⊢
  by_cases hz:(Z4i (Zwk g pre) ak aa ab).2=0
  ·rw [if_pos hz] at pT ⊢
   rw [decide_eq_true hz,Z36,ej _ pT]
  ·rw [if_neg hz] at pT ⊢
   rw [decide_eq_false hz,Z46,ej _ pT]
 ·dsimp only [Zkk]
  rw [Za6,Z46];rfl
theorem s_Small (g:Graph):Zpk g=some (decide (g.N≤10)&&okG g):=by
 simp only [Zpk,Zib,Option.bind_some,Zok]
 cases decide (g.N≤10)<;>rfl
theorem Inv.get {g:Graph} {s:Scene} (h:Inv g s) {a:Int} (h0:0≤a) (h1:a<g.N):∃d,s.Diners[a.toNat]?=some d:=by
 have:=h.len
 exact ⟨_,List.getElem?_eq_getElem (by omega)⟩
theorem Inv.sided {g:Graph} {s:Scene} (h:Inv g s) {a:Int} (h0:0≤a) {d:Diner} (hd:s.Diners[a.toNat]?=some d) {b:Int} (hb:b∈Zic g a):∃x,Zn9 d b=some x∧x∈d.Sides:=by
 have h1:=(h.shp _ _ hd).2
 rw [Int.toNat_of_nonneg h0] at h1
 have:(Zn9 d b).isSome=true:=by rw [Z9f,h1];exact decide_eq_true hb
 obtain ⟨x,hx⟩:=Option.isSome_iff_exists.1 this
 exact ⟨x,hx,(Zlf hx).1⟩
theorem Zxk {g:Graph} {s:Scene} (h:Inv g s) {p a:Int} (ha:a∈Ztk s.Diners p):∃d,s.Diners[a.toNat]?=some d∧0≤a∧d.ID=a∧d.Phase=p:=by
 unfold Ztk at ha
 obtain ⟨d,hd,rfl⟩:=List.mem_map.1 ha
 rw [List.mem_filter,decide_eq_true_eq] at hd
 obtain ⟨k,hk⟩:=List.mem_iff_getElem?.1 hd.1
 have:=h.ids k d hk
 refine ⟨d,?_,by omega,rfl,hd.2⟩
 rw [this,Int.toNat_natCast];exact hk
theorem phasesL_len (l:List Diner) (p:Int):(Ztk l p).length≤l.length:=by
 unfold Ztk;rw [List.length_map];exact List.length_filter_le _ _
def Own (x y:Side) (pa pb:Int) (cab cba:List Int) (ra rb:Int):Prop:=
 cab=[]∧y.Fork=false∧(y.Token=false→pb=1)∧((x.Fork&&x.Dirty)=true→ra<rb)∧((x.Fork&&x.Dirty)=false→rb<ra)∧
 ((x.Fork=true∧(x.Dirty=false→pa=1)∧((x.Token=true∧y.Token=false∧cba=[])∨(x.Token=false∧y.Token=true∧cba=[])∨(x.Token=false∧y.Token=false∧cba=[2])))∨
  (x.Fork=false∧x.Token=false∧pa=1∧((y.Token=true∧cba=[1])∨(y.Token=false∧cba=[1,2]))))
def Zyk (x y:Side) (pa pb:Int) (cab cba:List Int) (ra rb:Int):Prop:=Own x y pa pb cab cba ra rb∨Own y x pb pa cba cab rb ra
theorem Zyk.symm {x y:Side} {pa pb:Int} {cab cba:List Int} {ra rb:Int} (h:Zyk x y pa pb cab cba ra rb):Zyk y x pb pa cba cab rb ra:=Or.symm h
theorem Zyk.phase {x y:Side} {pa pb:Int} {cab cba:List Int} {ra rb:Int} (h:Zyk x y pa pb cab cba ra rb) (hp:pa≠1) (p:Int):Zyk x y p pb cab cba ra rb:=by
 rcases h with ⟨h1,h2,h3,h4,h5,h6⟩ | ⟨h1,h2,h3,h4,h5,h6⟩
 ·left
  rcases h6 with ⟨k1,k2,k3⟩ | ⟨k1,k2,k3,k4⟩
  ·exact ⟨h1,h2,h3,h4,h5,.inl ⟨k1,fun e=>absurd (k2 e) hp,k3⟩⟩
  ·exact absurd k3 hp
 ·exact .inr ⟨h1,h2,fun e=>absurd (h3 e) hp,h4,h5,h6⟩
theorem Zyk.fire {x y:Side} {pa pb:Int} {cab cba:List Int} {ra rb:Int} (id:Int) (h:Zyk x y pa pb cab cba ra rb):Zyk (Z3f pa x) y pa pb (cab++(Z4f id pa x).map (·.Msg.Kind)) cba ra rb:=by
 obtain ⟨p,e,st,f,d,t,bo,ak⟩:=x
 obtain ⟨p',e',st',f',d',t',bo',ak'⟩:=y
 unfold Zyk Own at h ⊢
 unfold Z3f Z4f Z2f
 by_cases q1:pa=1
 ·subst q1
  cases f<;>cases d<;>cases t<;>simp_all
  all_goals rcases h.2.2.2 with h | h<;>simp_all
 ·by_cases q2:pa=2
  ·subst q2
   cases f<;>cases d<;>cases t<;>simp_all
  ·cases f<;>cases d<;>cases t<;>simp_all
theorem Zyk.eat {x y:Side} {pb:Int} {cab cba:List Int} {ra rb:Int} (h:Zyk x y 1 pb cab cba ra rb) (hf:x.Fork=true) {r:Int} (hr:r<rb):Zyk (Z5f x) y 2 pb cab cba r rb:=by
 obtain ⟨p,e,st,f,d,t,bo,ak⟩:=x
 dsimp only at hf
 subst hf
 rcases h with ⟨h1,h2,h3,h4,h5,h6⟩ | ⟨h1,h2,h3,h4,h5,h6⟩
 ·refine .inl ⟨h1,h2,h3,fun _=>hr,fun e=>absurd e (by simp [Z5f]),?_⟩
  rcases h6 with ⟨k1,k2,k3⟩ | ⟨k1,k2,k3,k4⟩
  ·exact .inl ⟨rfl,fun e=>absurd e (by simp [Z5f]),k3⟩
  ·exact absurd k1 (by simp)
 ·exact absurd h2 (by simp)
theorem Zyk.getF {x y:Side} {pa pb:Int} {cab cba:List Int} {ra rb:Int} (h:Zyk x y pa pb cab (1::cba) ra rb) (hd:x.Dirty=true→x.Fork=true):Zyk {x with Fork:=true} y pa pb cab cba ra rb∧x.Fork=false∧x.Dirty=false:=by
 rcases h with ⟨h1,h2,h3,h4,h5,h6⟩ | ⟨h1,h2,h3,h4,h5,h6⟩
 ·rcases h6 with ⟨k1,k2,k3 | k3 | k3⟩ | ⟨k1,k2,k3,k4⟩
  ·exact absurd k3.2.2 (by simp)
  ·exact absurd k3.2.2 (by simp)
  ·exact absurd k3.2.2 (by simp)
  ·have hx:x.Dirty=false:=by
    cases hh:x.Dirty with
    | false=>rfl
    | true=>exact absurd (hd hh) (by simp [k1])
   refine ⟨.inl ⟨h1,h2,h3,fun e=>absurd e (by simp [hx]),fun _=>h5 (by simp [hx]),.inl ⟨rfl,fun _=>k3,?_⟩⟩,k1,hx⟩
   rcases k4 with ⟨k5,k6⟩ | ⟨k5,k6⟩
   ·exact .inr (.inl ⟨k2,k5,by simpa using k6⟩)
   ·exact .inr (.inr ⟨k2,k5,by simpa using k6⟩)
 ·exact absurd h1 (by simp)
theorem Zyk.getT {x y:Side} {pa pb:Int} {cab cba:List Int} {ra rb:Int} (h:Zyk x y pa pb cab (2::cba) ra rb):Zyk {x with Token:=true} y pa pb cab cba ra rb∧x.Fork=true:=by
 rcases h with ⟨h1,h2,h3,h4,h5,h6⟩ | ⟨h1,h2,h3,h4,h5,h6⟩
 ·rcases h6 with ⟨k1,k2,k3 | k3 | k3⟩ | ⟨k1,k2,k3,k4⟩
  ·exact absurd k3.2.2 (by simp)
  ·exact absurd k3.2.2 (by simp)
  ·refine ⟨.inl ⟨h1,h2,h3,h4,h5,.inl ⟨k1,k2,.inl ⟨rfl,k3.2.1,by simpa using k3.2.2⟩⟩⟩,k1⟩
  ·rcases k4 with ⟨k5,k6⟩ | ⟨k5,k6⟩<;>exact absurd k6 (by simp)
 ·exact absurd h1 (by simp)
theorem Zyk.few {x y:Side} {pa pb:Int} {cab cba:List Int} {ra rb:Int} (h:Zyk x y pa pb cab cba ra rb):cab.length+cba.length≤2:=by
 rcases h with ⟨h1,h2,h3,h4,h5,h6⟩ | ⟨h1,h2,h3,h4,h5,h6⟩<;>rcases h6 with ⟨k1,k2,k3 | k3 | k3⟩ | ⟨k1,k2,k3,k4 | k4⟩<;>simp_all
def ch (M:List Mail) (a b:Int):List Int:=(M.filter fun m=>decide (m.From=a)&&decide (m.To=b)).map (·.Msg.Kind)
theorem Zzk (M N:List Mail) (a b:Int):ch (M++N) a b=ch M a b++ch N a b:=by simp [ch]
theorem ch_nil {M:List Mail} {a b:Int} (h:∀m∈M,¬(m.From=a∧m.To=b)):ch M a b=[]:=by
 unfold ch
 rw [List.map_eq_nil_iff,List.filter_eq_nil_iff]
 intro m hm
 simpa using h m hm
theorem Z0l {d:Diner} {p q:Int} (hp:p≠d.ID):ch (Z7f d) p q=[]:=by
 refine ch_nil fun m hm=>?_
 obtain ⟨x,_,hx⟩:=List.mem_flatMap.1 hm
 exact fun e=>hp (e.1.symm.trans (Zdf hx).1)
theorem ch_fires (id ph b:Int):∀(l:List Side),l.Pairwise (fun x y=>x.Peer<y.Peer)→ch (l.flatMap (Z4f id ph)) id b=match l.find? (fun x=>decide (x.Peer=b)) with | some x=>(Z4f id ph x).map (·.Msg.Kind) | none=>[]
 | [],_=>rfl
 | x::l,h=>by
   rw [List.pairwise_cons] at h
   rw [List.flatMap_cons,Zzk,ch_fires id ph b l h.2,List.find?_cons]
   by_cases hx:x.Peer=b
   ·have:l.find? (fun x=>decide (x.Peer=b))=none:=by
     rw [List.find?_eq_none]
     intro y hy
     have:=h.1 y hy
     simp;omega
    rw [this,decide_eq_true hx]
    have:(Z4f id ph x).filter (fun m=>decide (m.From=id)&&decide (m.To=b))=Z4f id ph x:=by
     rw [List.filter_eq_self]
     intro m hm
     have:=Zdf hm
     simp [this.1,this.2.1,hx]
    simp [ch,this]
   ·rw [decide_eq_false hx,ch_nil (M:=Z4f id ph x) (fun m hm e=>hx ((Zdf hm).2.1.symm.trans e.2))];rfl
theorem ch_fire {d:Diner} {b:Int} {x:Side} (hp:d.Sides.Pairwise fun x y=>x.Peer<y.Peer) (hx:Zn9 d b=some x):ch (Z7f d) d.ID b=(Z4f d.ID d.Phase x).map (·.Msg.Kind):=by
 unfold Z7f
 rw [ch_fires d.ID d.Phase b d.Sides hp]
 unfold Zn9 at hx
 rw [hx]
theorem ch_take {M:List Mail} {a b:Int} {i:Nat} {m:Mail} (hi:M.findIdx? (fun m=>decide (m.From=a)&&decide (m.To=b))=some i) (hm:M[i]?=some m):
  ch M a b=m.Msg.Kind::ch (M.take i++M.drop (i+1)) a b∧∀p q:Int,¬(p=a∧q=b)→ch (M.take i++M.drop (i+1)) p q=ch M p q:=by
 have hlt:=(List.getElem?_eq_some_iff.1 hm).1
 have e:M=M.take i++m::M.drop (i+1):=by
  have h1:=List.take_append_drop i M
  rw [List.drop_eq_getElem_cons hlt] at h1
  have h2:M[i]=m:=by rw [List.getElem?_eq_getElem hlt] at hm;simpa using hm
  rw [h2] at h1
  exact h1.symm
 obtain ⟨hlt',h1,h2⟩:=List.findIdx?_eq_some_iff_getElem.1 hi
 have hmi:M[i]=m:=by rw [List.getElem?_eq_getElem hlt] at hm;simpa using hm
 rw [hmi] at h1
 simp only [Bool.and_eq_true,decide_eq_true_eq] at h1
 have h3:ch (M.take i) a b=[]:=ch_nil fun x hx=>by
  obtain ⟨k,hk⟩:=List.mem_iff_getElem?.1 hx
  have hki:k<i:=by
   have:=(List.getElem?_eq_some_iff.1 hk).1
   simp at this;omega
  have h4:=h2 k hki
  rw [List.getElem?_take_of_lt hki,List.getElem?_eq_getElem (by omega)] at hk
  have:M[k]=x:=by simpa using hk
  rw [this] at h4
  simpa using h4
 have cons:∀p q:Int,ch (m::M.drop (i+1)) p q=if m.From=p∧m.To=q then m.Msg.Kind::ch (M.drop (i+1)) p q else ch (M.drop (i+1)) p q:=fun p q=>by
  unfold ch
  rw [List.filter_cons]
  by_cases hh:m.From=p∧m.To=q
  ·simp [hh.1,hh.2]
  ·rw [if_neg hh,if_neg (by simpa using hh)]
 refine ⟨?_,fun p q hpq=>?_⟩
 ·have e2:ch M a b=ch (M.take i++m::M.drop (i+1)) a b:=by rw [←e]
  rw [e2,Zzk,Zzk,h3,cons,if_pos h1];rfl
 ·have e2:ch M p q=ch (M.take i++m::M.drop (i+1)) p q:=by rw [←e]
  rw [e2,Zzk,Zzk,cons,if_neg (by rw [h1.1,h1.2];exact fun e=>hpq ⟨e.1.symm,e.2.symm⟩)]
def Z1l (r:Nat→Int) (s:Scene):Prop:=∀(a b:Nat) da db x y,s.Diners[a]?=some da→s.Diners[b]?=some db→Zn9 da b=some x→Zn9 db a=some y→Zyk x y da.Phase db.Phase (ch s.Mail a b) (ch s.Mail b a) (r a) (r b)
theorem Z1l.set {r r':Nat→Int} {s:Scene} (h:Z1l r s) {a:Nat} {d:Diner} (hs:Zn9 d a=none) {M:List Mail} (hr:∀k,k≠a→r' k=r k) (hc:∀p q:Nat,p≠a→q≠a→ch M p q=ch s.Mail p q)
  (hn:∀(b:Nat) db x y,b≠a→s.Diners[b]?=some db→Zn9 d b=some x→Zn9 db a=some y→Zyk x y d.Phase db.Phase (ch M a b) (ch M b a) (r' a) (r b)):Z1l r' ⟨s.Diners.set a d,M⟩:=by
 have get:∀(k:Nat) e,(s.Diners.set a d)[k]?=some e→(k=a∧e=d)∨(k≠a∧s.Diners[k]?=some e):=fun k e he=>by
  rw [List.getElem?_set] at he
  split at he
  ·rename_i hk
   simp at he
   exact .inl ⟨hk.symm,he.2.symm⟩
  ·rename_i hk
   exact .inr ⟨fun e=>hk e.symm,he⟩
 intro p q dp dq x y hp hq hx hy
 dsimp only at hp hq ⊢
 rcases get p dp hp with ⟨rfl,rfl⟩ | ⟨p1,hp'⟩<;>rcases get q dq hq with ⟨rfl,rfl⟩ | ⟨q1,hq'⟩
 ·rw [hs] at hx;simp at hx
 ·rw [hr q q1];exact hn q dq x y q1 hq' hx hy
 ·rw [hr p p1];exact (hn p dp y x p1 hp' hy hx).symm
 ·rw [hr p p1,hr q q1,hc p q p1 q1,hc q p q1 p1];exact h p q dp dq x y hp' hq' hx hy
def SetS (ph:Int) (x:Side):Prop:=(x.Fork=true→x.Dirty=true→x.Token=true→ph=2)∧(ph=1→x.Token=true→x.Fork=true)
structure SetD (d:Diner):Prop where
 side:∀x∈d.Sides,SetS d.Phase x
 lack:d.Phase=1→∃x∈d.Sides,x.Fork=false
theorem fire2_set (ph:Int) (x:Side):SetS ph (Z3f ph x):=by
 obtain ⟨p,e,st,f,d,t,bo,ak⟩:=x
 unfold SetS Z3f Z2f
 by_cases q1:ph=1
 ·subst q1
  cases f<;>cases d<;>cases t<;>simp
 ·by_cases q2:ph=2
  ·subst q2
   cases f<;>cases d<;>cases t<;>simp
  ·cases f<;>cases d<;>cases t<;>simp_all
theorem SetS.fire {ph:Int} {x:Side} (h:SetS ph x) (id:Int):Z3f ph x=x∧Z4f id ph x=[]:=by
 obtain ⟨p,e,st,f,d,t,bo,ak⟩:=x
 obtain ⟨h1,h2⟩:=h
 unfold Z4f Z3f Z2f
 by_cases q1:ph=1
 ·subst q1
  cases f<;>cases d<;>cases t<;>simp_all
 ·by_cases q2:ph=2
  ·subst q2
   cases f<;>cases d<;>cases t<;>simp
  ·cases f<;>cases d<;>cases t<;>simp_all
theorem fireD_set (d:Diner):SetD (Z6f d):=by
 unfold Z6f
 split
 ·exact ⟨fun x _=>⟨fun _ _ _=>rfl,fun e=>absurd e (by show ¬(2:Int)=1;omega)⟩,fun e=>absurd e (by show ¬(2:Int)=1;omega)⟩
 ·rename_i h
  refine ⟨fun x hx=>?_,fun e=>?_⟩
  ·obtain ⟨y,_,rfl⟩:=List.mem_map.1 hx
   exact fire2_set _ _
  ·dsimp only at e ⊢
   rw [decide_eq_true e,Bool.true_and,Bool.not_eq_true,List.all_eq_false] at h
   obtain ⟨x,hx,hf⟩:=h
   exact ⟨x,hx,by simpa using hf⟩
theorem low (r:Nat→Int):∀n:Nat,∃m:Int,∀k,k<n→m<r k
 | 0=>⟨0,fun k hk=>absurd hk (by omega)⟩
 | n+1=>by
   obtain ⟨m,hm⟩:=low r n
   refine ⟨min m (r n-1),fun k hk=>?_⟩
   by_cases h:k=n
   ·subst h;omega
   ·have:=hm k (by omega);omega
theorem Inv.self {g:Graph} {s:Scene} (hg:okG g=true) (h:Inv g s) {a:Nat} {d:Diner} (hd:s.Diners[a]?=some d):Zn9 d a=none:=by
 cases hx:Zn9 d (a:Int) with
 | none=>rfl
 | some x=>
   obtain ⟨x1,x2⟩:=Zlf hx
   have hm:x.Peer∈Zic g a:=by rw [←(h.shp a d hd).2];exact List.mem_map_of_mem x1
   exact absurd x2 (Zmc hg hm).2.2.1
theorem edge_fireD {g:Graph} {s:Scene} (hg:okG g=true) (h:Inv g s) {a:Nat} {d:Diner} (hd:s.Diners[a]?=some d) {r:Nat→Int} (he:Z1l r s):∃r',Z1l r' ⟨s.Diners.set a (Z6f d),s.Mail++Z7f d⟩:=by
 obtain ⟨hid,hsh⟩:=h.shp a d hd
 have hpw:=h.pw hg hd
 have hself:Zn9 (Z6f d) a=none:=by rw [Zkf,h.self hg hd];rfl
 have hc:∀p q:Nat,p≠a→q≠a→ch (s.Mail++Z7f d) p q=ch s.Mail p q:=fun p q hp _=>by
  rw [Zzk,Z0l (by rw [hid];omega),List.append_nil]
 have hin:∀(b:Nat) db x y,b≠a→s.Diners[b]?=some db→Zn9 d b=some x→Zn9 db a=some y→Zyk (Z3f d.Phase x) y d.Phase db.Phase (ch (s.Mail++Z7f d) a b) (ch (s.Mail++Z7f d) b a) (r a) (r b):=fun b db x y hb hdb hx hy=>by
  have h1:=(he a b d db x y hd hdb hx hy).fire d.ID
  rw [←ch_fire hpw hx,hid,←Zzk] at h1
  rw [Zzk _ _ (b:Int) (a:Int),Z0l (by rw [hid];omega),List.append_nil]
  exact h1
 cases hq:decide (d.Phase=1)&&(d.Sides.map (Z3f d.Phase)).all (·.Fork) with
 | false=>
   refine ⟨r,he.set hself (fun _ _=>rfl) hc fun b db x y hb hdb hx hy=>?_⟩
   rw [Zkf,Option.map_eq_some_iff] at hx
   obtain ⟨x0,hx0,rfl⟩:=hx
   have e1:Zhf d x0=Z3f d.Phase x0:=by unfold Zhf;rw [hq];rfl
   have e2:(Z6f d).Phase=d.Phase:=by unfold Z6f;rw [hq];rfl
   rw [e1,e2]
   exact hin b db x0 y hb hdb hx0 hy
 | true=>
   obtain ⟨m,hm⟩:=low r s.Diners.length
   refine ⟨fun k=>if k=a then m else r k,he.set hself (fun k hk=>by rw [if_neg hk]) hc fun b db x y hb hdb hx hy=>?_⟩
   rw [Zkf,Option.map_eq_some_iff] at hx
   obtain ⟨x0,hx0,rfl⟩:=hx
   have e1:Zhf d x0=Z5f (Z3f d.Phase x0):=by unfold Zhf;rw [hq];rfl
   have e2:(Z6f d).Phase=2:=by unfold Z6f;rw [hq];rfl
   rw [Bool.and_eq_true,decide_eq_true_eq,List.all_eq_true] at hq
   have h2:=hin b db x0 y hb hdb hx0 hy
   rw [e1,e2,if_pos rfl]
   rw [hq.1] at h2 ⊢
   refine h2.eat ?_ (hm b (List.getElem?_eq_some_iff.1 hdb).1)
   have:=hq.2 _ (List.mem_map_of_mem (Zlf hx0).1)
   rwa [hq.1] at this
structure Fair (g:Graph) (s:Scene):Prop where
 inv:Inv g s
 set:∀d∈s.Diners,SetD d
 edge:∃r:Nat→Int,Z1l r s
theorem Fair.fire {g:Graph} {s:Scene} (hg:okG g=true) (hset:∀d∈s.Diners,SetD d) {a:Nat} {d:Diner} {M:List Mail} (hlt:a<s.Diners.length) (hi:Inv g ⟨s.Diners.set a d,M⟩) {r:Nat→Int} (he:Z1l r ⟨s.Diners.set a d,M⟩):
  Fair g ⟨s.Diners.set a (Z6f d),M++Z7f d⟩:=by
 have hd:(s.Diners.set a d)[a]?=some d:=by rw [List.getElem?_set];simp [hlt]
 have h1:=hi.fire hg hd
 have h2:=edge_fireD hg hi hd he
 dsimp only at h1 h2
 rw [List.set_set] at h1 h2
 refine ⟨h1,fun e hm=>?_,h2⟩
 rcases List.mem_or_eq_of_mem_set hm with hm | rfl
 ·exact hset e hm
 ·exact fireD_set d
theorem Fair.first {g:Graph} (hg:okG g=true):Fair g (Zbj g):=by
 have hr:=(Zaj hg).1
 have hI:=Inv.first hg
 have get:∀(k:Nat) d,(Zpc g (Z9j g))[k]?=some d→d=Zoc g (Z9j g) k:=fun k d hd=>by
  have hk:=(List.getElem?_eq_some_iff.1 hd).1
  have hl:=Zvc hg (Z9j g)
  have e:=Zuc (g:=g) (c:=Z9j g) (a:=(k:Int)) (by omega) (by omega)
  rw [Int.toNat_natCast,hd] at e
  simpa using e
 refine ⟨hI,fun d hd=>?_,fun k=> -cg (Z9j g) k,fun a b da db x y ha hb hx hy=>?_⟩
 ·obtain ⟨k,hk⟩:=List.mem_iff_getElem?.1 hd
  have:=get k d hk
  subst this
  refine ⟨fun x hx=>?_,fun e=>absurd e (by show ¬(0:Int)=1;omega)⟩
  obtain ⟨b,_,rfl⟩:=List.mem_map.1 hx
  refine ⟨fun e1 _ e3=>?_,fun e=>absurd e (by show ¬(0:Int)=1;omega)⟩
  simp only [Znc] at e1 e3
  rw [e1] at e3
  exact absurd e3 (by simp)
 ·have:=get a da ha
  subst this
  have:=get b db hb
  subst this
  rw [sideO_T] at hx hy
  split at hx
  ·rename_i hab
   rw [if_pos (Zwc hg hab)] at hy
   have hne:=Zsc hg hr hab
   simp only [Option.some.injEq] at hx hy
   subst hx;subst hy
   have hlt:decide (cg (Z9j g) a<cg (Z9j g) b)=!decide (cg (Z9j g) b<cg (Z9j g) a):=by
    rw [←decide_not,decide_eq_decide];omega
   have e0:∀p q:Int,ch (Zbj g).Mail p q=[]:=fun _ _=>rfl
   rw [e0,e0]
   unfold Zyk Own
   by_cases hh:cg (Z9j g) b<cg (Z9j g) a
   ·left
    simp [Znc,hlt,hh]
   ·right
    simp [Znc,hlt,hh]
    omega
  ·simp at hx
theorem actS_set {s:Scene} (hs:∀(k:Nat) x,s.Diners[k]?=some x→x.ID=k) {a:Int} (h0:0≤a) (d:Diner):actS s a d=⟨s.Diners.set a.toNat (Z6f d),s.Mail++Z7f d⟩:=by
 have:=Zdj hs a.toNat (Z6f d)
 rw [Int.toNat_of_nonneg h0] at this
 unfold actS
 rw [this]
theorem turnS_ok {g:Graph} {s:Scene} (hg:okG g=true) (hN:g.N≤60) (h:Inv g s) {a p:Int} (q:Int) (h0:0≤a) {d:Diner} (hd:s.Diners[a.toNat]?=some d) (hp:d.Phase=p) (h1:0≤q) (h2:q<2):
  (Zzh s a fun d=>Z1f d p q)=(⟨s.Diners.set a.toNat (Z6f ⟨d.ID,q,d.Sides⟩),s.Mail++Z7f ⟨d.ID,q,d.Sides⟩⟩,0):=by
 have ht:Zyh s a=true:=Zfj.2 ⟨h0,by have:=(List.getElem?_eq_some_iff.1 hd).1;omega⟩
 obtain ⟨d',hd1,hd'⟩:=Z0i ht
 have e:d'=d:=by rw [hd] at hd';simpa using hd'.symm
 subst e
 have hok:=h.okd hg hN (List.mem_iff_getElem?.2 ⟨_,hd⟩)
 have h3:=h.phase hg hd (p:=q) h1 h2
 obtain ⟨k1,_⟩:=Inv.act (s:=s) hg hN h3 (Zej hd) rfl rfl h.ids
 unfold Zzh
 rw [h.ok hg hN,if_pos rfl,ht,if_pos rfl,hd1]
 dsimp only
 unfold Z1f actP
 rw [hok,if_pos rfl,if_pos hp,if_pos rfl,if_pos k1,actS_set h.ids h0]
theorem turnS_eq {g:Graph} {s:Scene} (hg:okG g=true) (hN:g.N≤60) (h:Inv g s) {a p q:Int} (h1:0≤q) (h2:q<2) (he:(Zzh s a fun d=>Z1f d p q).2=0):
  ∃d,0≤a∧s.Diners[a.toNat]?=some d∧d.Phase=p∧(Zzh s a fun d=>Z1f d p q).1=⟨s.Diners.set a.toNat (Z6f ⟨d.ID,q,d.Sides⟩),s.Mail++Z7f ⟨d.ID,q,d.Sides⟩⟩:=by
 cases ht:Zyh s a with
 | false=>
   unfold Zzh at he
   rw [h.ok hg hN,if_pos rfl,ht] at he
   exact absurd he (by show ¬(140:Int)=0;omega)
 | true=>
   obtain ⟨h0,_⟩:=Zfj.1 ht
   obtain ⟨d,hd1,hd⟩:=Z0i ht
   have hok:=h.okd hg hN (List.mem_iff_getElem?.2 ⟨_,hd⟩)
   by_cases hp:d.Phase=p
   ·exact ⟨d,h0,hd,hp,by rw [turnS_ok hg hN h q h0 hd hp h1 h2]⟩
   ·unfold Zzh at he
    rw [h.ok hg hN,if_pos rfl,ht,if_pos rfl,hd1] at he
    dsimp only at he
    unfold Z1f at he
    rw [hok,if_pos rfl,if_neg hp] at he
    exact absurd he (by show ¬(134:Int)=0;omega)
theorem sideO_none {d:Diner} {a:Int} (h:Zn9 d a=none) (p:Int):Zn9 ⟨d.ID,p,d.Sides⟩ a=none:=h
theorem Fair.turn {g:Graph} {s:Scene} (hg:okG g=true) (h:Fair g s) {a:Nat} {d:Diner} (hd:s.Diners[a]?=some d) (hp:d.Phase≠1) {q:Int} (h1:0≤q) (h2:q<2):Fair g ⟨s.Diners.set a (Z6f ⟨d.ID,q,d.Sides⟩),s.Mail++Z7f ⟨d.ID,q,d.Sides⟩⟩:=by
 obtain ⟨r,he⟩:=h.edge
 refine Fair.fire hg h.set (List.getElem?_eq_some_iff.1 hd).1 (h.inv.phase hg hd h1 h2) (r:=r) (he.set (sideO_none (h.inv.self hg hd) q) (fun _ _=>rfl) (fun _ _ _ _=>rfl) fun b db x y hb hdb hx hy=>?_)
 exact (he a b d db x y hd hdb hx hy).phase hp q
def pdD (d:Diner) (q:Int):Nat:=match Zn9 d q with | some x=>if x.Fork&&(x.Dirty&&!decide (d.Phase=2)) then 2 else 0 | none=>0
def pd (s:Scene) (p:Nat) (q:Int):Nat:=match s.Diners[p]? with | some d=>pdD d q | none=>0
def psi (s:Scene) (p q:Nat):Nat:=(ch s.Mail p q).length+(ch s.Mail q p).length+pd s p q+pd s q p
theorem Z2l (s:Scene) (p q:Nat):psi s p q=psi s q p:=by unfold psi;omega
theorem pdD_le (d:Diner) (q:Int):pdD d q≤2:=by
 unfold pdD
 split
 ·split<;>omega
 ·omega
theorem pd_le (s:Scene) (p:Nat) (q:Int):pd s p q≤2:=by
 unfold pd
 split
 ·exact pdD_le _ _
 ·omega
theorem Z3l (d:Diner):(Z6f d).Phase=d.Phase∧(∀y,Zhf d y=Z3f d.Phase y)∨d.Phase=1∧(Z6f d).Phase=2:=by
 unfold Z6f Zhf
 cases hq:decide (d.Phase=1)&&(d.Sides.map (Z3f d.Phase)).all (·.Fork) with
 | false=>exact .inl ⟨rfl,fun _=>rfl⟩
 | true=>
   rw [Bool.and_eq_true,decide_eq_true_eq] at hq
   exact .inr ⟨hq.1,rfl⟩
theorem pd_eat {d:Diner} (h:d.Phase=2) (q:Int):pdD d q=0:=by
 unfold pdD
 rw [h]
 split
 ·simp
 ·rfl
theorem deliv_pd {d d1:Diner} {a:Int} {x:Side} {k:Int} (hs:SetD d) (hpw:d1.Sides.Pairwise fun x y=>x.Peer<y.Peer) (hx:Zn9 d a=some x) (hd:x.Dirty=true→x.Fork=true) (hk:k=1∧x.Fork=false∨k=2∧x.Fork=true)
  (hph:d1.Phase=d.Phase) (h1:∀z:Int,Zn9 d1 z=if z=a then some (Zij x k) else Zn9 d z):∀z:Int,pdD (Z6f d1) z+(ch (Z7f d1) d1.ID z).length≤pdD d z:=fun z=>by
 have hc:(ch (Z7f d1) d1.ID z).length=match Zn9 d1 z with | some y=>(Z4f d1.ID d1.Phase y).length | none=>0:=by
  unfold Z7f
  rw [ch_fires d1.ID d1.Phase z d1.Sides hpw]
  unfold Zn9
  cases d1.Sides.find? (fun x=>decide (x.Peer=z))<;>simp
 have hp:pdD (Z6f d1) z=match Zn9 d1 z with | some y=>if (Zhf d1 y).Fork&&((Zhf d1 y).Dirty&&!decide ((Z6f d1).Phase=2)) then 2 else 0 | none=>0:=by
  unfold pdD
  rw [Zkf]
  cases Zn9 d1 z<;>rfl
 rw [hc,hp,h1]
 by_cases hz:z=a
 ·subst hz
  rw [if_pos rfl]
  dsimp only
  unfold pdD
  rw [hx]
  dsimp only
  obtain ⟨p,e,st,f,dd,t,bo,ak⟩:=x
  dsimp only at hd hk ⊢
  rcases Z3l d1 with ⟨q1,q2⟩ | ⟨q1,q2⟩
  ·rw [q1,q2,hph]
   unfold Zij Z4f Z3f Z2f
   rcases hk with ⟨rfl,hf⟩ | ⟨rfl,hf⟩
   ·subst hf
    cases dd<;>simp_all
   ·subst hf
    by_cases c2:d.Phase=2
    ·rw [c2];cases dd<;>cases t<;>simp
    ·by_cases c1:d.Phase=1
     ·rw [c1];cases dd<;>cases t<;>simp
     ·cases dd<;>cases t<;>simp [c1,c2]
  ·rw [q2,←hph,q1,show decide ((2:Int)=2)=true from rfl,Bool.not_true,Bool.and_false,Bool.and_false,if_neg (by simp),Nat.zero_add]
   unfold Zij Z4f Z2f
   rcases hk with ⟨rfl,hf⟩ | ⟨rfl,hf⟩
   ·subst hf
    cases dd<;>simp_all
   ·subst hf
    cases dd<;>cases t<;>simp
 ·rw [if_neg hz]
  cases hy:Zn9 d z with
  | none=>simp
  | some y=>
    dsimp only
    have hset:=(hs.side y (Zlf hy).1).fire d1.ID
    rw [←hph] at hset
    rw [hset.2]
    rcases Z3l d1 with ⟨q1,q2⟩ | ⟨q1,q2⟩
    ·unfold pdD
     rw [q1,q2,hset.1,hy,hph]
     simp
    ·rw [q2]
     simp
def tz (d:Diner):Bool:=decide (d.Phase=0)
theorem Z4l {α β:Type} {f:α→β} {l:List α} {k:Nat} {x y:α} (hx:l[k]?=some x) (h:f y=f x):(l.set k y).map f=l.map f:=by
 refine List.ext_getElem? fun n=>?_
 rw [List.getElem?_map,List.getElem?_map,List.getElem?_set]
 split
 ·rename_i e
  subst e
  have:=(List.getElem?_eq_some_iff.1 hx).1
  rw [hx,if_pos this];simp [h]
 ·rfl
theorem fireD_tz (d:Diner):tz (Z6f d)=tz d:=by
 unfold tz
 rcases Z3l d with ⟨h,_⟩ | ⟨h1,h2⟩
 ·rw [h]
 ·rw [h1,h2];rfl
theorem Fair.deliv {g:Graph} {s:Scene} (hg:okG g=true) (hN:g.N≤60) (h:Fair g s) {a b:Int} (ht:Zyh s a=true) (ht':Zyh s b=true) {i:Nat} (hf:Z1i s a b=some i):
  ∃t,Z2i s a b=(t,0)∧Fair g t∧(∀p q:Nat,p≠q→psi t p q≤psi s p q)∧psi t a.toNat b.toNat+1≤psi s a.toNat b.toNat∧t.Diners.map tz=s.Diners.map tz:=by
 obtain ⟨a0,a1⟩:=Zfj.1 ht
 obtain ⟨b0,b1⟩:=Zfj.1 ht'
 obtain ⟨da,_,hda⟩:=Z0i ht
 obtain ⟨m,db,x,d1,hm,m1,m2,hdb,hx,hk,i1,i2,i3,hI,heq,_⟩:=delivS_eq hg hN h.inv ht ht' hf
 have hids:∀(k:Nat) x,s.Diners[k]?=some x→x.ID=k:=h.inv.ids
 rw [actS_set (s:=⟨s.Diners,s.Mail.take i++s.Mail.drop (i+1)⟩) hids b0] at heq
 dsimp only at heq
 obtain ⟨r,he⟩:=h.edge
 unfold Z1i at hf
 obtain ⟨c1,c2⟩:=ch_take hf hm
 have hmm:m∈s.Mail:=List.mem_iff_getElem?.2 ⟨_,hm⟩
 have hnear:=(h.inv.mail m hmm).2.2.2
 rw [m1,m2] at hnear
 have nab:=Zwc hg hnear
 have hne:a≠b:=fun e=>(Zmc hg hnear).2.2.1 e.symm
 obtain ⟨y,hy,_⟩:=h.inv.sided a0 hda hnear
 have ea:((a.toNat:Nat):Int)=a:=Int.toNat_of_nonneg a0
 have eb:((b.toNat:Nat):Int)=b:=Int.toNat_of_nonneg b0
 have hE:=he b.toNat a.toNat db da x y hdb hda (by rw [ea];exact hx) (by rw [eb];exact hy)
 rw [ea,eb,c1] at hE
 have hxd:=((h.inv.loc db (List.mem_iff_getElem?.2 ⟨_,hdb⟩)).side x (Zlf hx).1).2.2
 have hget:Zyk (Zij x m.Msg.Kind) y db.Phase da.Phase (ch s.Mail b a) (ch (s.Mail.take i++s.Mail.drop (i+1)) a b) (r b.toNat) (r a.toNat)∧(m.Msg.Kind=1∧x.Fork=false∨m.Msg.Kind=2∧x.Fork=true):=by
  rcases hk with h1 | h1
  ·rw [h1] at hE ⊢
   obtain ⟨k1,k2,k3⟩:=hE.getF hxd
   exact ⟨k1,.inl ⟨rfl,k2⟩⟩
  ·rw [h1] at hE ⊢
   obtain ⟨k1,k2⟩:=hE.getT
   exact ⟨k1,.inr ⟨rfl,k2⟩⟩
 have hself:Zn9 d1 b.toNat=none:=by
  rw [i3,if_neg (by rw [eb];exact fun e=>hne e.symm)];exact h.inv.self hg hdb
 have hcm:∀p q:Int,¬(p=a∧q=b)→ch (s.Mail.take i++s.Mail.drop (i+1)) p q=ch s.Mail p q:=c2
 have he1:Z1l r ⟨s.Diners.set b.toNat d1,s.Mail.take i++s.Mail.drop (i+1)⟩:=by
  refine he.set hself (fun _ _=>rfl) (fun p q hp hq=>hcm p q (by omega)) fun c dc x' y' hc hdc hx' hy'=>?_
  rw [i3] at hx'
  rw [eb,hcm b c (by omega)]
  by_cases hca:(c:Int)=a
  ·rw [if_pos hca] at hx'
   have hca':c=a.toNat:=by omega
   subst hca'
   have e1:dc=da:=by rw [hda] at hdc;simpa using hdc.symm
   subst e1
   rw [eb,hy] at hy'
   simp only [Option.some.injEq] at hx' hy'
   subst hx';subst hy'
   rw [ea,i2]
   exact hget.1
  ·rw [if_neg hca] at hx'
   rw [hcm c b (by omega),i2]
   have:=he b.toNat c db dc x' y' hdb hdc hx' hy'
   rwa [eb] at this
 have hlt:b.toNat<s.Diners.length:=by omega
 have hF:=Fair.fire hg h.set hlt hI he1
 have hd1:(s.Diners.set b.toNat d1)[b.toNat]?=some d1:=Zej hdb
 have hpw:=hI.pw hg hd1
 have hid1:d1.ID=b:=by rw [i1,hids _ _ hdb,eb]
 have hpd:=deliv_pd (h.set db (List.mem_iff_getElem?.2 ⟨_,hdb⟩)) hpw hx hxd hget.2 i2 i3
 rw [hid1] at hpd
 refine ⟨_,heq,hF,?_,?_,?_⟩
 ·have hB:∀q:Nat,q≠b.toNat→psi ⟨s.Diners.set b.toNat (Z6f d1),s.Mail.take i++s.Mail.drop (i+1)++Z7f d1⟩ b.toNat q≤psi s b.toNat q:=fun q hq=>by
   have p1:=hpd q
   unfold psi pd
   dsimp only
   rw [Zej hdb,List.getElem?_set,if_neg (fun e=>hq e.symm),hdb]
   dsimp only
   rw [eb,Zzk _ (Z7f d1),Zzk _ (Z7f d1),hcm b q (by omega),Z0l (p:=q) (by rw [hid1];omega),List.append_nil,List.length_append]
   by_cases hqa:(q:Int)=a
   ·rw [hqa] at p1 ⊢
    rw [c1,List.length_cons]
    omega
   ·rw [hcm q b (by omega)]
    omega
  intro p q hpq
  by_cases hp:p=b.toNat
  ·subst hp
   exact hB q fun e=>hpq e.symm
  ·by_cases hq:q=b.toNat
   ·subst hq
    rw [Z2l _ p,Z2l s p]
    exact hB p hp
   ·unfold psi pd
    dsimp only
    rw [List.getElem?_set,List.getElem?_set,if_neg (fun e=>hp e.symm),if_neg (fun e=>hq e.symm),Zzk _ (Z7f d1),Zzk _ (Z7f d1),hcm p q (by omega),hcm q p (by omega),Z0l (p:=p) (by rw [hid1];omega),Z0l (p:=q) (by rw [hid1];omega),List.append_nil,List.append_nil]
    exact Nat.le_refl _
 ·have p1:=hpd a
  rw [Z2l _ a.toNat,Z2l s a.toNat]
  unfold psi pd
  dsimp only
  rw [Zej hdb,List.getElem?_set,if_neg (by omega),hdb]
  dsimp only
  rw [ea,eb,Zzk _ (Z7f d1),Zzk _ (Z7f d1),hcm b a (by omega),Z0l (p:=a) (by rw [hid1];exact hne),List.append_nil,List.length_append,c1,List.length_cons]
  omega
 ·dsimp only
  exact Z4l hdb (by rw [fireD_tz];unfold tz;rw [i2])
theorem Fair.act {g:Graph} {s:Scene} (hg:okG g=true) (hN:g.N≤60) (h:Fair g s) (k a b:Int) (he:(Z4i s k a b).2=0):Fair g (Z4i s k a b).1:=by
 unfold Z4i at he ⊢
 split at he
 ·rename_i h1
  rw [if_pos h1]
  obtain ⟨d,d0,d1,d2,d3⟩:=turnS_eq hg hN h.inv (by omega) (by omega) he
  rw [d3]
  exact h.turn hg d1 (by omega) (by omega) (by omega)
 ·rename_i h1
  rw [if_neg h1]
  split at he
  ·rename_i h2
   rw [if_pos h2]
   obtain ⟨d,d0,d1,d2,d3⟩:=turnS_eq hg hN h.inv (by omega) (by omega) he
   rw [d3]
   exact h.turn hg d1 (by omega) (by omega) (by omega)
  ·rename_i h2
   rw [if_neg h2]
   cases ht:Zyh s a with
   | false=>
     unfold Z2i at he
     rw [h.inv.ok hg hN,if_pos rfl,ht] at he
     exact absurd he (by show ¬(140:Int)=0;omega)
   | true=>
     cases ht':Zyh s b with
     | false=>
       unfold Z2i at he
       rw [h.inv.ok hg hN,if_pos rfl,ht,ht'] at he
       exact absurd he (by show ¬(140:Int)=0;omega)
     | true=>
       cases hf:Z1i s a b with
       | none=>
         unfold Z2i at he
         rw [h.inv.ok hg hN,if_pos rfl,ht,ht',Bool.true_and,if_pos rfl,hf] at he
         exact absurd he (by show ¬(141:Int)=0;omega)
       | some i=>
         obtain ⟨t,e,k,_⟩:=h.deliv hg hN ht ht' hf
         rw [e]
         exact k
theorem sum_le {α:Type} {f g:α→Nat}:∀ {l:List α},(∀x∈l,f x≤g x)→(l.map f).sum≤(l.map g).sum
 | [],_=>Nat.le_refl _
 | x::l,h=>by
   have h1:=h x (by simp)
   have h2:=sum_le (l:=l) fun y hy=>h y (by simp [hy])
   simp only [List.map_cons,List.sum_cons];omega
theorem sum_lt {α:Type} {f g:α→Nat}:∀ {l:List α},(∀x∈l,f x≤g x)→(∃x∈l,f x+1≤g x)→(l.map f).sum+1≤(l.map g).sum
 | [],_,h=>by obtain ⟨x,hx,_⟩:=h;simp at hx
 | x::l,h,h'=>by
   have h1:=h x (by simp)
   have h3:∀y∈l,f y≤g y:=fun y hy=>h y (by simp [hy])
   simp only [List.map_cons,List.sum_cons]
   obtain ⟨y,hy,hlt⟩:=h'
   rcases List.mem_cons.1 hy with rfl | hy
   ·have:=sum_le h3;omega
   ·have:=sum_lt h3 ⟨y,hy,hlt⟩;omega
theorem sum_add {α:Type} (f g:α→Nat):∀l:List α,(l.map fun x=>f x+g x).sum=(l.map f).sum+(l.map g).sum
 | []=>rfl
 | x::l=>by simp only [List.map_cons,List.sum_cons,sum_add f g l];omega
theorem sum_const {α:Type} {f:α→Nat} {c:Nat}:∀ {l:List α},(∀x∈l,f x≤c)→(l.map f).sum≤c*l.length
 | [],_=>Nat.zero_le _
 | x::l,h=>by
   have h1:=h x (by simp)
   have h2:=sum_const (l:=l) fun y hy=>h y (by simp [hy])
   simp only [List.map_cons,List.sum_cons,List.length_cons,Nat.mul_add];omega
theorem mem_sum {α:Type} {f:α→Nat}:∀ {l:List α} {x:α},x∈l→f x≤(l.map f).sum
 | y::l,x,h=>by
   simp only [List.map_cons,List.sum_cons]
   rcases List.mem_cons.1 h with rfl | h
   ·omega
   ·have:=mem_sum (f:=f) h;omega
def phi (g:Graph) (s:Scene):Nat:=(g.Edges.map fun e=>psi s e.A.toNat e.B.toNat).sum
theorem Fair.psi6 {g:Graph} {s:Scene} (h:Fair g s) {a b:Nat} (ha:(a:Int)<g.N) (hb:(b:Int)<g.N) (hab:(b:Int)∈Zic g a) (hg:okG g=true):psi s a b≤6:=by
 obtain ⟨r,he⟩:=h.edge
 obtain ⟨da,hda⟩:=h.inv.get (a:=(a:Int)) (by omega) ha
 obtain ⟨db,hdb⟩:=h.inv.get (a:=(b:Int)) (by omega) hb
 obtain ⟨x,hx,_⟩:=h.inv.sided (by omega) hda hab
 obtain ⟨y,hy,_⟩:=h.inv.sided (by omega) hdb (Zwc hg hab)
 have:=(he a b da db x y (by simpa using hda) (by simpa using hdb) hx hy).few
 have h1:=pd_le s a b
 have h2:=pd_le s b a
 unfold psi
 omega
theorem Z5l {g:Graph} (hg:okG g=true) {e:Edge} (he:e∈g.Edges):0≤e.A∧e.A<e.B∧e.B<g.N∧e.B∈Zic g e.A:=by
 obtain ⟨g1,g2,g3,g4,g5⟩:=Zs7 hg
 obtain ⟨e1,e2,e3⟩:=g4 e he
 exact ⟨e1,e2,e3,(Zlc hg).2 (.inl he)⟩
theorem Fair.phi6 {g:Graph} {s:Scene} (hg:okG g=true) (h:Fair g s):phi g s≤6*g.Edges.length:=by
 refine sum_const fun e he=>?_
 obtain ⟨e1,e2,e3,e4⟩:=Z5l hg he
 refine h.psi6 (by omega) (by omega) ?_ hg
 rw [Int.toNat_of_nonneg e1,Int.toNat_of_nonneg (by omega)];exact e4
theorem mail_phi {g:Graph} (hg:okG g=true):∀M:List Mail,(∀m∈M,mailG g m)→M.length≤(g.Edges.map fun e=>(ch M e.A e.B).length+(ch M e.B e.A).length).sum
 | [],_=>by simp
 | m::M,h=>by
   have ih:=mail_phi hg M fun x hx=>h x (by simp [hx])
   have hm:=(h m (by simp)).2.2.2
   have cons:∀p q:Int,(ch (m::M) p q).length=(if m.From=p∧m.To=q then 1 else 0)+(ch M p q).length:=fun p q=>by
    unfold ch
    rw [List.filter_cons]
    by_cases hh:m.From=p∧m.To=q
    ·simp [hh.1,hh.2];omega
    ·rw [if_neg hh,if_neg (by simpa using hh)];omega
   rw [List.length_cons]
   refine Nat.le_trans (Nat.succ_le_succ ih) (sum_lt (fun e _=>by rw [cons,cons];omega) ?_)
   rcases (Zlc hg).1 hm with h1 | h1
   ·exact ⟨_,h1,by rw [cons,cons,if_pos ⟨rfl,rfl⟩];dsimp only;omega⟩
   ·exact ⟨_,h1,by rw [cons m.To m.From,cons m.From m.To,if_pos (⟨rfl,rfl⟩:m.From=m.From∧m.To=m.To)];dsimp only;omega⟩
theorem Fair.mails {g:Graph} {s:Scene} (hg:okG g=true) (h:Fair g s):s.Mail.length≤phi g s:=by
 refine Nat.le_trans (mail_phi hg s.Mail h.inv.mail) (sum_le fun e he=>?_)
 obtain ⟨e1,e2,e3,_⟩:=Z5l hg he
 unfold psi
 rw [Int.toNat_of_nonneg e1,Int.toNat_of_nonneg (show 0≤e.B by omega)]
 omega
theorem Fair.step {g:Graph} {s:Scene} (hg:okG g=true) (hN:g.N≤60) (h:Fair g s) {m:Mail} (hm:s.Mail[0]?=some m):
  ∃t,Z2i s m.From m.To=(t,0)∧Fair g t∧phi g t+1≤phi g s∧t.Diners.map tz=s.Diners.map tz:=by
 have hmm:m∈s.Mail:=List.mem_iff_getElem?.2 ⟨_,hm⟩
 have hnear:=(h.inv.mail m hmm).2.2.2
 obtain ⟨n1,n2,n3,n4,n5⟩:=Zmc hg hnear
 have hl:=h.inv.len
 have ht:Zyh s m.From=true:=Zfj.2 ⟨n4,by omega⟩
 have ht':Zyh s m.To=true:=Zfj.2 ⟨n1,by omega⟩
 have hi:Z1i s m.From m.To=some 0:=by
  unfold Z1i
  obtain ⟨M,hM⟩:∃M,s.Mail=m::M:=by
   cases hs:s.Mail with
   | nil=>rw [hs] at hm;simp at hm
   | cons y M=>rw [hs] at hm;simp at hm;exact ⟨M,by rw [hm]⟩
  rw [hM,List.findIdx?_cons]
  simp
 obtain ⟨t,e1,e2,e3,e4,e5⟩:=h.deliv hg hN ht ht' hi
 refine ⟨t,e1,e2,sum_lt (fun e he=>?_) ?_,e5⟩
 ·obtain ⟨k1,k2,k3,_⟩:=Z5l hg he
  exact e3 _ _ (by omega)
 ·rcases (Zlc hg).1 hnear with h1 | h1
  ·exact ⟨_,h1,e4⟩
  ·exact ⟨_,h1,by rw [Z2l t,Z2l s];exact e4⟩
theorem top (r:Nat→Int):∀ {l:List Nat},l≠ []→∃a∈l,∀b∈l,r b≤r a
 | [],h=>absurd rfl h
 | [a],_=>⟨a,by simp,fun b hb=>by simp at hb;subst hb;omega⟩
 | a::c::l,_=>by
   obtain ⟨t,ht,hm⟩:=top r (l:=c::l) (by simp)
   by_cases h:r t≤r a
   ·exact ⟨a,by simp,fun b hb=>by
     rcases List.mem_cons.1 hb with rfl | hb
     ·omega
     ·have:=hm b hb;omega⟩
   ·exact ⟨t,List.mem_cons_of_mem _ ht,fun b hb=>by
     rcases List.mem_cons.1 hb with rfl | hb
     ·omega
     ·exact hm b hb⟩
theorem Fair.eats {g:Graph} {s:Scene} (hg:okG g=true) (h:Fair g s) (hM:s.Mail=[]) (hh:∃d∈s.Diners,d.Phase=1):∃d∈s.Diners,d.Phase=2:=by
 obtain ⟨r,he⟩:=h.edge
 refine Classical.byContradiction fun hno=>?_
 have no2:∀d∈s.Diners,d.Phase≠2:=fun d hd e=>hno ⟨d,hd,e⟩
 obtain ⟨d0,hd0,hp0⟩:=hh
 obtain ⟨k0,hk0⟩:=List.mem_iff_getElem?.1 hd0
 have hl:∀(k:Nat) d,s.Diners[k]?=some d→d.Phase=1→k∈(List.range s.Diners.length).filter (fun k=>match s.Diners[k]? with | some d=>decide (d.Phase=1) | none=>false):=fun k d hk hp=>by
  rw [List.mem_filter,List.mem_range]
  exact ⟨(List.getElem?_eq_some_iff.1 hk).1,by rw [hk];exact decide_eq_true hp⟩
 obtain ⟨a,ha,hmax⟩:=top r (l:=(List.range s.Diners.length).filter (fun k=>match s.Diners[k]? with | some d=>decide (d.Phase=1) | none=>false)) (fun e=>by
  have:=hl k0 d0 hk0 hp0
  rw [e] at this;simp at this)
 rw [List.mem_filter,List.mem_range] at ha
 obtain ⟨ha1,ha2⟩:=ha
 have hda:s.Diners[a]?=some s.Diners[a]:=List.getElem?_eq_getElem ha1
 rw [hda] at ha2
 have hpa:s.Diners[a].Phase=1:=by simpa using ha2
 obtain ⟨x,hx,hxf⟩:=(h.set _ (List.mem_iff_getElem?.2 ⟨_,hda⟩)).lack hpa
 obtain ⟨_,hsh⟩:=h.inv.shp a _ hda
 have hnear:x.Peer∈Zic g a:=by rw [←hsh];exact List.mem_map_of_mem hx
 obtain ⟨n1,n2,_,_,_⟩:=Zmc hg hnear
 obtain ⟨db,hdb⟩:=h.inv.get n1 n2
 obtain ⟨y,hy,ym⟩:=h.inv.sided n1 hdb (Zwc hg hnear)
 have hxo:Zn9 s.Diners[a] x.Peer=some x:=by
  obtain ⟨x',hx',xm'⟩:=h.inv.sided (a:=(a:Int)) (by omega) (by rw [Int.toNat_natCast];exact hda) hnear
  have hpw:=h.inv.pw hg hda
  have e:x'=x:=by
   obtain ⟨i,hi⟩:=List.mem_iff_getElem?.1 hx
   obtain ⟨j,hj⟩:=List.mem_iff_getElem?.1 xm'
   have hp':=(Zlf hx').2
   rw [List.pairwise_iff_getElem] at hpw
   obtain ⟨i1,i2⟩:=List.getElem?_eq_some_iff.1 hi
   obtain ⟨j1,j2⟩:=List.getElem?_eq_some_iff.1 hj
   rcases Nat.lt_trichotomy i j with q | q | q
   ·have:=hpw i j i1 j1 q;rw [i2,j2] at this;omega
   ·subst q;rw [←j2,i2]
   ·have:=hpw j i j1 i1 q;rw [i2,j2] at this;omega
  rw [e] at hx';exact hx'
 have hE:=he a x.Peer.toNat _ db x y hda hdb (by rw [Int.toNat_of_nonneg n1];exact hxo) hy
 have e0:∀p q:Int,ch s.Mail p q=[]:=fun p q=>by rw [hM];rfl
 rw [e0,e0,hpa] at hE
 have hsx:=(h.set _ (List.mem_iff_getElem?.2 ⟨_,hda⟩)).side x hx
 have hxt:x.Token=false:=by
  cases hh:x.Token with
  | false=>rfl
  | true=>have:=hsx.2 hpa hh;rw [hxf] at this;simp at this
 have hdm:=List.mem_iff_getElem?.2 ⟨_,hdb⟩
 have hsy:=(h.set db hdm).side y ym
 rcases hE with ⟨h1,h2,h3,h4,h5,h6⟩ | ⟨h1,h2,h3,h4,h5,h6⟩
 ·rcases h6 with ⟨k1,_,_⟩ | ⟨k1,k2,k3,k4 | k4⟩
  ·rw [hxf] at k1;simp at k1
  ·exact absurd k4.2 (by simp)
  ·exact absurd k4.2 (by simp)
 ·rcases h6 with ⟨k1,k2,k3 | k3 | k3⟩ | ⟨k1,k2,k3,k4 | k4⟩
  ·cases hyd:y.Dirty with
   | true=>exact no2 db hdm (hsy.1 k1 hyd k3.1)
   | false=>
     have hb:=hmax _ (hl _ db hdb (k2 hyd))
     have:=h5 (by rw [hyd];simp)
     omega
  ·rw [hxt] at k3;exact absurd k3.2.1 (by simp)
  ·exact absurd k3.2.2 (by simp)
  ·exact absurd k4.2 (by simp)
  ·exact absurd k4.2 (by simp)
set_option maxRecDepth 100000
set_option maxHeartbeats 4000000
def Z6l:EC:=.seq (.reg [(Qa 14 (.bin .lss (.t 13) (.t 12)))]) (.seq (.ite (.t 14) (.skip) (.exit 0)) (.seq (.blk 1 (.seq (.reg [(Qa 15 (.mv (.t 13))),(Qa 5 (.mv (.t 15)))]) (.seq (.drw [(Qa 16 (.mv (.t 0))),(Qa 17 (.mv (.t 5))),(Qa 18 (.idx 5 (.t 16) (.t 17))),(Qa 19 (.loadA 5 (.t 18))),(Qa 20 (.mv (.t 1))),(Qa 21 (.mv (.t 5))),(Qa 22 (.idx 5 (.t 20) (.t 21))),(Qa 23 (.loadA 5 (.t 22))),(Qa 24 (.eqs true [true,true,true,true,true] (.t 19) (.t 23)))] [[],[],[0,1],[2],[],[],[4,5],[6],[3,7]] [[2],[2],[0,1,3],[2,8],[6],[6],[4,5,7],[6,8],[3,7]]) (.ite (.t 24) (.seq (.reg [(Qa 4 (.mv (.c .ff)))]) (.ret)) (.skip))))) (.reg [(Qa 25 (.bin .add (.t 13) (.c (.iv 1)))),(Qa 13 (.mv (.t 25)))])))
def e106:EC:=.seq (.reg [(Qa 4 (.mv (.c .ff)))]) (.seq (.seq (.reg [(Qa 6 (.mv (.t 0))),(Qa 7 (.len (.t 6))),(Qa 8 (.mv (.t 1))),(Qa 9 (.len (.t 8))),(Qa 10 (.bin .neq (.t 7) (.t 9)))]) (.ite (.t 10) (.seq (.reg [(Qa 4 (.mv (.c .ff)))]) (.ret)) (.skip))) (.seq (.seq (.reg [(Qa 11 (.mv (.t 0))),(Qa 12 (.len (.t 11))),(Qa 13 (.mv (.c (.iv 0))))]) (.blk 0 (.loop Z6l))) (.seq (.reg [(Qa 4 (.mv (.c .tt)))]) (.ret))))
theorem ok106:FnOK Try.prog 106 Try.f106 e106 [.t 4] 2 24:=⟨by kernel_rfl,⟨_,rfl,by kernel_rfl⟩,by kernel_rfl,by kernel_rfl⟩
noncomputable def Z7l:Unit→Option Bool
| ()=>
 some true
noncomputable def Z8l (x1:(List Mail)) (x2:(List Mail)):Int→Option (Int ⊕ Bool)
| x6=>
 ifb (decide (x6<(ln Mail.row x1))) (
 (at_ x1 x6).bind fun x7=>
 (at_ x2 x6).bind fun x8=>
 ifb (!(decide (x7.From=x8.From)&&(decide (x7.To=x8.To)&&(decide (x7.Msg.Kind=x8.Msg.Kind)&&(decide (x7.Msg.Epoch=x8.Msg.Epoch)&&(decide (x7.Msg.Num=x8.Msg.Num)&&true)))))) (
 Option.map Sum.inr (some false)) (
 some (.inl (wr (x6+1))))) (
 Option.map Sum.inr (Z7l ()))
noncomputable def Z9l (x1:(List Mail)) (x2:(List Mail)):Option Bool:=
 ifb (!decide ((ln Mail.row x1)=(ln Mail.row x2))) (
 some false) (
 loop (Z8l x1 x2) 0)
theorem Zal (x1:(List Mail)) (x2:(List Mail)) (r:Bool) (h:Z9l x1 x2=some r):Zq2 Try.prog 106 [.sl 5 (List.map Mail.row x1),.sl 5 (List.map Mail.row x2)] (.bv r):=by
 refine Zu2 ok106 rfl rfl fun w0 H0=>?_
 rw [Z9l] at h
 refine Zl2 13 ?_;dsimp only [e106,Z6l,go_sem];refine ⟨by simp,?_⟩;refine Zn4 h rfl (fun _ h=>?_) fun _ h=>?_
 ·refine Zl2 4 ?_;dsimp only [e106,Z6l,go_sem];refine ⟨by simp,?_⟩;exact Zx4 (res:=fun (r:Bool)=>.bv r) ok106 h
 ·refine Zl2 8 ?_;dsimp only [e106,Z6l,go_sem];refine ⟨by simp,?_⟩;refine Zl4 (fun (_:Unit)=>(⟨(an 26 []),[],[]⟩:St)) Z7l r ?_ fun J1=>?_
  ·rintro ⟨⟩ h;rw [Z7l] at h;(try dsimp only);refine Zl2 4 ?_;dsimp only [e106,Z6l,go_sem];refine ⟨by simp,?_⟩;exact Zx4 (res:=fun (r:Bool)=>.bv r) ok106 h
  ·refine Zl2 1 ?_;dsimp only [e106,Z6l,go_sem];refine ⟨by simp,?_⟩;refine Zm4 h (fun (x6:Int)=>(⟨(.sl 5 (List.map Mail.row x1) :: .sl 5 (List.map Mail.row x2)::an 10 (.iv (ln Mail.row x1) :: .iv x6::an 12 [])),[],[]⟩:St)) (by simp [go_sem]) (by intro x6;first | rfl | simp [go_sem]) ?_;rintro n1 x6 y1 h hin1 hout1;rw [Z8l] at h;(try dsimp only);refine Zl2 5 ?_;dsimp only [e106,Z6l,go_sem];refine ⟨by simp,?_⟩;refine Zn4 h rfl (fun _ h=>?_) fun _ h=>?_
   ·refine Zl2 9 ?_;dsimp only [e106,Z6l,go_sem];refine ⟨by simp,?_⟩;refine Zh3 (by kernel_rfl) fun all hall hs hnap haf=>?_;dsimp only [go_sem];refine Zh5 hall hs haf hnap 4 5 ?_;dsimp only [go_sem];refine ⟨by simp,?_⟩;obtain ⟨x7,ex7,h⟩:=Option.bind_eq_some_iff.1 h;refine Zr4 hall hs haf hnap 2 Mail.row ex7 rfl rfl trivial rfl rfl rfl rfl ?_;refine Zh5 hall hs haf hnap 1 3 ?_;dsimp only [go_sem];refine ⟨by simp,?_⟩;obtain ⟨x8,ex8,h⟩:=Option.bind_eq_some_iff.1 h;refine Zr4 hall hs haf hnap 6 Mail.row ex8 rfl rfl trivial rfl rfl rfl rfl ?_
    refine Zh5 hall hs haf hnap 2 0 ?_;dsimp only [go_sem];refine ⟨by simp,?_⟩;refine Zs3 rfl ?_ _;refine Zn4 h rfl (fun _ h=>?_) fun _ h=>?_
    ·refine Zl2 4 ?_;dsimp only [e106,Z6l,go_sem];refine ⟨by simp,?_⟩;exact Zx4 (res:=fun (r:Bool)=>.bv r) ok106 (Zk4 h hout1)
    ·refine Zl2 6 ?_;dsimp only [e106,Z6l,go_sem];refine ⟨by simp,?_⟩;exact Zy4 h hin1
   ·refine Zl2 1 ?_;dsimp only [e106,Z6l,go_sem];refine ⟨by simp,?_⟩;exact Zz4 J1 (s:=()) (Zk4 h hout1)
set_option maxRecDepth 100000
set_option maxHeartbeats 4000000
def e72:EC:=.seq (.reg [(Qa 2 (.box 43 2 (.t 0))),(Qa 3 (.box 43 2 (.t 1))),(Qa 4 (.mv (.c .ff)))]) (.seq (.reg [(Qa 5 (.fld 0 (.t 2))),(Qa 6 (.load (.t 5))),(Qa 7 (.fld 0 (.t 3))),(Qa 8 (.load (.t 7))),(Qa 9 (.call 27 [(.t 6),(.t 8)])),(Qa 10 (.mv (.t 9))),(Qg 11 10 true (.fld 1 (.t 2))),(Qg 12 10 true (.load (.t 11))),(Qg 13 10 true (.fld 1 (.t 3))),(Qg 14 10 true (.load (.t 13))),(Qg 15 10 true (.call 106 [(.t 12),(.t 14)])),(Qa 16 (.pick (.t 10) (.t 15) (.c .ff))),(Qa 4 (.mv (.t 16)))]) (.ret))
theorem ok72:FnOK Try.prog 72 Try.f72 e72 [.t 4] 2 15:=⟨by kernel_rfl,⟨_,rfl,by kernel_rfl⟩,by kernel_rfl,by kernel_rfl⟩
noncomputable def Zbl:Bool→Option Bool
| x5=>
 some x5
noncomputable def Zcl (x1:Scene) (x2:Scene):Option Bool:=
 (Z88 x1.Diners x2.Diners).bind fun x3=>
 ifb x3 (
 (Z9l x1.Mail x2.Mail).bind fun x4=>
 Zbl x4) (
 Zbl false)
theorem Zdl (x1:Scene) (x2:Scene) (r:Bool) (h:Zcl x1 x2=some r):Zq2 Try.prog 72 [.agg (Scene.row x1),.agg (Scene.row x2)] (.bv r):=by
 refine Zu2 ok72 rfl rfl fun w0 H0=>?_
 rw [Zcl] at h
 refine Zl2 12 ?_;dsimp only [e72,go_sem];refine ⟨by simp,?_⟩;obtain ⟨x3,ex3,h⟩:=Option.bind_eq_some_iff.1 h;refine Zz2 trivial (k_place_Same x1.Diners x2.Diners _ ex3) (h:=?_);refine Zl2 1 ?_;dsimp only [e72,go_sem];refine ⟨by simp,?_⟩;refine Zl4 (fun (x5:Bool)=>(⟨(an 4 (.bv x5::an 12 [])),[],[]⟩:St)) Zbl r ?_ fun J1=>?_
 ·intro x5 h;rw [Zbl] at h;(try dsimp only);exact Zx4 (res:=fun (r:Bool)=>.bv r) ok72 h
 ·refine Zw4 10 h rfl (fun _ h=>?_) fun _ h=>?_
  ·dsimp only [go_sem];refine Zl2 4 ?_;dsimp only [e72,go_sem];refine ⟨by simp,?_⟩;obtain ⟨x4,ex4,h⟩:=Option.bind_eq_some_iff.1 h;refine Zz2 trivial (Zal x1.Mail x2.Mail _ ex4) (h:=?_);refine Zl2 3 ?_;dsimp only [e72,go_sem];refine ⟨by simp,?_⟩;exact Zz4 J1 (s:=x4) h
  ·dsimp only [go_sem];refine Zl2 8 ?_;dsimp only [e72,go_sem];refine ⟨by simp,?_⟩;exact Zz4 J1 (s:=false) h
set_option maxRecDepth 100000
set_option maxHeartbeats 4000000
def e35:EC:=.seq (.reg [(Qa 0 (.mv (.c .ff)))]) (.seq (.reg [(Qa 16 (.build [.iv 0,.iv 0] [(0,1,(.c (.iv 0))),(1,1,(.c (.iv 1)))])),(Qa 17 (.bsl 58 2 1 [.iv 0,.iv 0] [(0,(.t 16))])),(Qa 18 (.build [.iv 0,.nl] [(0,1,(.c (.iv 2))),(1,1,(.t 17))])),(Qa 19 (.call 68 [(.t 18)])),(Qa 15 (.mv (.t 19))),(Qa 20 (.ext (.t 15) 0)),(Qa 21 (.ext (.t 15) 1)),(Qa 1 (.alloc 43 [.nl,.nl])),(Qb (.store 2 (.t 1) (.t 20))),(Qa 2 (.mv (.t 21)))]) (.seq (.seq (.reg [(Qa 22 (.mv (.t 2))),(Qa 23 (.bin .neq (.t 22) (.c (.iv 0)))),(Qa 24 (.mv (.t 23))),(Qg 25 24 false (.fld 0 (.t 1))),(Qg 26 24 false (.load (.t 25))),(Qg 27 24 false (.len (.t 26))),(Qg 28 24 false (.bin .neq (.t 27) (.c (.iv 2)))),(Qa 29 (.pick (.t 24) (.c .tt) (.t 28)))]) (.ite (.t 29) (.seq (.reg [(Qa 0 (.mv (.c .ff)))]) (.ret)) (.skip))) (.seq (.reg [(Qa 31 (.fld 0 (.t 1))),(Qa 32 (.load (.t 31))),(Qa 33 (.idx 3 (.t 32) (.c (.iv 0)))),(Qa 34 (.loadA 3 (.t 33))),(Qa 35 (.call 24 [(.t 34),(.c (.iv 1))])),(Qa 30 (.mv (.t 35))),(Qa 36 (.ext (.t 30) 0)),(Qa 37 (.ext (.t 30) 1)),(Qa 3 (.alloc 49 [.iv 0,.iv 0,.iv 0,.ff,.ff,.ff,.ff,.ff])),(Qb (.store 8 (.t 3) (.t 36))),(Qa 4 (.mv (.t 37)))]) (.seq (.reg [(Qa 5 (.mv (.c (.iv 0))))]) (.seq (.seq (.reg [(Qa 38 (.fld 3 (.t 3))),(Qa 39 (.load (.t 38)))]) (.ite (.t 39) (.reg [(Qa 5 (.mv (.c (.iv 1))))]) (.skip))) (.seq (.reg [(Qa 41 (.loadA 2 (.t 1))),(Qa 42 (.mv (.t 5))),(Qa 43 (.call 69 [(.t 41),(.t 42)])),(Qa 40 (.mv (.t 43))),(Qa 44 (.ext (.t 40) 0)),(Qa 45 (.ext (.t 40) 1)),(Qb (.store 2 (.t 1) (.t 44))),(Qa 6 (.mv (.t 45)))]) (.seq (.reg [(Qa 47 (.loadA 2 (.t 1))),(Qa 48 (.mv (.t 5))),(Qa 49 (.mv (.t 5))),(Qa 50 (.bin .sub (.c (.iv 1)) (.t 49))),(Qa 51 (.call 70 [(.t 47),(.t 48),(.t 50)])),(Qa 46 (.mv (.t 51))),(Qa 52 (.ext (.t 46) 0)),(Qa 53 (.ext (.t 46) 1)),(Qb (.store 2 (.t 1) (.t 52))),(Qa 7 (.mv (.t 53)))]) (.seq (.reg [(Qa 54 (.loadA 2 (.t 1))),(Qa 55 (.build [.iv 0,.iv 0] [(0,1,(.c (.iv 0))),(1,1,(.c (.iv 1)))])),(Qa 56 (.call 39 [(.t 54),(.t 55),(.c (.iv 1))])),(Qa 8 (.mv (.t 56)))]) (.seq (.reg [(Qa 58 (.loadA 2 (.t 1))),(Qa 59 (.mv (.t 5))),(Qa 60 (.bin .sub (.c (.iv 1)) (.t 59))),(Qa 61 (.mv (.t 5))),(Qa 62 (.call 70 [(.t 58),(.t 60),(.t 61)])),(Qa 57 (.mv (.t 62))),(Qa 63 (.ext (.t 57) 0)),(Qa 64 (.ext (.t 57) 1)),(Qb (.store 2 (.t 1) (.t 63))),(Qa 9 (.mv (.t 64)))]) (.seq (.reg [(Qa 65 (.loadA 2 (.t 1))),(Qa 66 (.call 41 [(.t 65),(.c (.iv 2))])),(Qa 10 (.mv (.t 66)))]) (.seq (.reg [(Qa 68 (.loadA 2 (.t 1))),(Qa 69 (.mv (.t 5))),(Qa 70 (.call 44 [(.t 68),(.t 69)])),(Qa 67 (.mv (.t 70))),(Qa 71 (.ext (.t 67) 0)),(Qa 72 (.ext (.t 67) 1)),(Qa 11 (.alloc 43 [.nl,.nl])),(Qb (.store 2 (.t 11) (.t 71))),(Qa 12 (.mv (.t 72)))]) (.seq (.reg [(Qa 74 (.loadA 2 (.t 1))),(Qa 75 (.call 70 [(.t 74),(.c (.iv 0)),(.c (.iv 1))])),(Qa 73 (.mv (.t 75))),(Qa 76 (.ext (.t 73) 0)),(Qa 77 (.ext (.t 73) 1)),(Qa 13 (.alloc 43 [.nl,.nl])),(Qb (.store 2 (.t 13) (.t 76))),(Qa 14 (.mv (.t 77)))]) (.seq (.reg [(Qa 78 (.mv (.t 6))),(Qa 79 (.bin .eql (.t 78) (.c (.iv 0)))),(Qa 80 (.mv (.t 79))),(Qg 81 80 true (.mv (.t 7))),(Qg 82 80 true (.bin .eql (.t 81) (.c (.iv 0)))),(Qa 83 (.pick (.t 80) (.t 82) (.c .ff))),(Qa 84 (.mv (.t 83))),(Qg 85 84 true (.mv (.t 8))),(Qg 86 84 true (.bin .eql (.t 85) (.c (.iv 1)))),(Qa 87 (.pick (.t 84) (.t 86) (.c .ff))),(Qa 88 (.mv (.t 87))),(Qg 89 88 true (.mv (.t 9))),(Qg 90 88 true (.bin .eql (.t 89) (.c (.iv 0)))),(Qa 91 (.pick (.t 88) (.t 90) (.c .ff))),(Qa 92 (.mv (.t 91))),(Qg 93 92 true (.mv (.t 10))),(Qg 94 92 true (.len (.t 93))),(Qg 95 92 true (.bin .eql (.t 94) (.c (.iv 1)))),(Qa 96 (.pick (.t 92) (.t 95) (.c .ff))),(Qa 97 (.mv (.t 96))),(Qg 98 97 true (.mv (.t 10))),(Qg 99 97 true (.idx 1 (.t 98) (.c (.iv 0)))),(Qg 100 97 true (.load (.t 99))),(Qg 101 97 true (.mv (.t 5))),(Qg 102 97 true (.bin .eql (.t 100) (.t 101))),(Qa 103 (.pick (.t 97) (.t 102) (.c .ff))),(Qa 104 (.mv (.t 103))),(Qg 105 104 true (.mv (.t 12))),(Qg 106 104 true (.bin .eql (.t 105) (.c (.iv 0)))),(Qa 107 (.pick (.t 104) (.t 106) (.c .ff))),(Qa 108 (.mv (.t 107))),(Qg 109 108 true (.mv (.t 14))),(Qg 110 108 true (.bin .eql (.t 109) (.c (.iv 141)))),(Qa 111 (.pick (.t 108) (.t 110) (.c .ff))),(Qa 112 (.mv (.t 111))),(Qg 113 112 true (.loadA 2 (.t 1))),(Qg 114 112 true (.call 71 [(.t 113)])),(Qg 115 112 true (.bin .eql (.t 114) (.c (.iv 0)))),(Qa 116 (.pick (.t 112) (.t 115) (.c .ff))),(Qa 117 (.mv (.t 116))),(Qg 118 117 true (.loadA 2 (.t 1))),(Qg 119 117 true (.loadA 2 (.t 1))),(Qg 120 117 true (.call 72 [(.t 118),(.t 119)])),(Qa 121 (.pick (.t 117) (.t 120) (.c .ff))),(Qa 122 (.mv (.t 121))),(Qg 123 122 true (.loadA 2 (.t 1))),(Qg 124 122 true (.loadA 2 (.t 11))),(Qg 125 122 true (.call 72 [(.t 123),(.t 124)])),(Qg 126 122 true (.not (.t 125))),(Qa 127 (.pick (.t 122) (.t 126) (.c .ff))),(Qa 0 (.mv (.t 127)))]) (.ret))))))))))))))
theorem ok35:FnOK Try.prog 35 Try.f35 e35 [.t 0] 0 128:=⟨by kernel_rfl,⟨_,rfl,by kernel_rfl⟩,by kernel_rfl,by kernel_rfl⟩
noncomputable def Zel:Bool→Option Bool
| x17=>
 some x17
noncomputable def Zfl (x1:(Scene×Int)):Int→Option Bool
| x5=>
 (Z3h x1.1 x5).bind fun x6=>
 (Zeh x6.1 x5 (wr (1-x5))).bind fun x7=>
 (Z7k x7.1 ((Edge.mk 0 1)) 1).bind fun x8=>
 (Zeh x7.1 (wr (1-x5)) x5).bind fun x9=>
 (Zck x9.1 2).bind fun x10=>
 (Z5h x9.1 x5).bind fun x11=>
 (Zeh x9.1 0 1).bind fun x12=>
 ifb (decide (x6.2=0)) (
 ifb (decide (x7.2=0)) (
 ifb (decide (x8=1)) (
 ifb (decide (x9.2=0)) (
 ifb (decide ((ln Z45 x10)=1)) (
 (at_ x10 0).bind fun x13=>
 ifb (decide (x13=x5)) (
 ifb (decide (x11.2=0)) (
 ifb (decide (x12.2=141)) (
 (Z6g x9.1).bind fun x14=>
 ifb (decide (x14=0)) (
 (Zcl x9.1 x9.1).bind fun x15=>
 ifb x15 (
 (Zcl x9.1 x11.1).bind fun x16=>
 Zel (!x16)) (
 Zel false)) (
 Zel false)) (
 Zel false)) (
 Zel false)) (
 Zel false)) (
 Zel false)) (
 Zel false)) (
 Zel false)) (
 Zel false)) (
 Zel false)
noncomputable def Zgl (x1:(Scene×Int)):Bool→Option Bool
| x2=>
 ifb x2 (
 some false) (
 (at_ x1.1.Diners 0).bind fun x3=>
 (Zr8 x3 1).bind fun x4=>
 ifb x4.1.Fork (
 (Zfl x1) 1) (
 (Zfl x1) 0))
noncomputable def Zhl:Option Bool:=
 (Z3j ((Graph.mk 2 ([(Edge.mk 0 1)])))).bind fun x1=>
 ifb (!decide (x1.2=0)) (
 (Zgl x1) true) (
 (Zgl x1) (!decide ((ln Diner.row x1.1.Diners)=2)))
theorem Zil (r:Bool) (h:Zhl=some r):Zq2 Try.prog 35 [] (.bv r):=by
 refine Zu2 ok35 rfl rfl fun w0 H0=>?_
 rw [Zhl] at h
 refine Zl2 9 ?_;dsimp only [e35,go_sem];refine ⟨by simp,?_⟩;refine Z83 0 rfl ?_;dsimp only [go_sem];obtain ⟨x1,ex1,h⟩:=Option.bind_eq_some_iff.1 h;refine Zz2 trivial (Z4j ((Graph.mk 2 ([(Edge.mk 0 1)]))) _ ex1) (h:=?_);refine Zl2 13 ?_;dsimp only [e35,go_sem];refine ⟨by simp,?_⟩;refine Zl4 (fun (x2:Bool)=>(⟨(.any :: .ptr 0 0::an 27 (.bv x2::an 98 [])),[some ⟨43,[.sl 3 (List.map Diner.row x1.1.Diners),.sl 5 (List.map Mail.row x1.1.Mail)]⟩],[]⟩:St)) (Zgl x1) r ?_ fun J1=>?_
 ·intro x2 h;rw [Zgl] at h;(try dsimp only);refine Zn4 h rfl (fun _ h=>?_) fun _ h=>?_
  ·refine Zl2 4 ?_;dsimp only [e35,go_sem];refine ⟨by simp,?_⟩;exact Zx4 (res:=fun (r:Bool)=>.bv r) ok35 h
  ·refine Zl2 5 ?_;dsimp only [e35,go_sem];refine ⟨by simp,?_⟩;obtain ⟨x3,ex3,h⟩:=Option.bind_eq_some_iff.1 h;refine Zq4 Diner.row ex3 trivial rfl rfl rfl ?_;refine Zl2 1 ?_;dsimp only [e35,go_sem];refine ⟨by simp,?_⟩;obtain ⟨x4,ex4,h⟩:=Option.bind_eq_some_iff.1 h;refine Zz2 trivial (Zs8 x3 1 _ ex4) (h:=?_);refine Zl2 17 ?_;dsimp only [e35,go_sem];refine ⟨by simp,?_⟩
   refine Zl4 (fun (x5:Int)=>(⟨(.any :: .ptr 0 0::an 3 (.iv x5::an 122 [])),[some ⟨43,[.sl 3 (List.map Diner.row x1.1.Diners),.sl 5 (List.map Mail.row x1.1.Mail)]⟩],[]⟩:St)) (Zfl x1) r ?_ fun J2=>?_
   ·intro x5 h;rw [Zfl] at h;(try dsimp only);refine Zl2 4 ?_;dsimp only [e35,go_sem];refine ⟨by simp,?_⟩;obtain ⟨x6,ex6,h⟩:=Option.bind_eq_some_iff.1 h;refine Zz2 trivial (Z4h x1.1 x5 _ ex6) (h:=?_);refine Zl2 12 ?_;dsimp only [e35,go_sem];refine ⟨by simp,?_⟩;obtain ⟨x7,ex7,h⟩:=Option.bind_eq_some_iff.1 h;refine Zz2 trivial (Zfh x6.1 x5 (wr (1-x5)) _ ex7) (h:=?_);refine Zl2 10 ?_;dsimp only [e35,go_sem];refine ⟨by simp,?_⟩;obtain ⟨x8,ex8,h⟩:=Option.bind_eq_some_iff.1 h
    refine Zz2 trivial (k_table_Count x7.1 ((Edge.mk 0 1)) 1 _ ex8) (h:=?_);refine Zl2 8 ?_;dsimp only [e35,go_sem];refine ⟨by simp,?_⟩;obtain ⟨x9,ex9,h⟩:=Option.bind_eq_some_iff.1 h;refine Zz2 trivial (Zfh x7.1 (wr (1-x5)) x5 _ ex9) (h:=?_);refine Zl2 9 ?_;dsimp only [e35,go_sem];refine ⟨by simp,?_⟩;obtain ⟨x10,ex10,h⟩:=Option.bind_eq_some_iff.1 h;refine Zz2 trivial (Zek x9.1 2 _ ex10) (h:=?_);refine Zl2 6 ?_;dsimp only [e35,go_sem];refine ⟨by simp,?_⟩;obtain ⟨x11,ex11,h⟩:=Option.bind_eq_some_iff.1 h
    refine Zz2 trivial (Z6h x9.1 x5 _ ex11) (h:=?_);refine Zl2 10 ?_;dsimp only [e35,go_sem];refine ⟨by simp,?_⟩;obtain ⟨x12,ex12,h⟩:=Option.bind_eq_some_iff.1 h;refine Zz2 trivial (Zfh x9.1 0 1 _ ex12) (h:=?_);refine Zl2 12 ?_;dsimp only [e35,go_sem];refine ⟨by simp,?_⟩;refine Zl4 (fun (x17:Bool)=>(⟨(.bv x17::an 127 []),[],[]⟩:St)) Zel r ?_ fun J3=>?_
    ·intro x17 h;rw [Zel] at h;(try dsimp only);exact Zx4 (res:=fun (r:Bool)=>.bv r) ok35 h
    ·refine Zw4 80 h rfl (fun _ h=>?_) fun _ h=>?_
     ·dsimp only [go_sem];refine Zl2 4 ?_;dsimp only [e35,go_sem];refine ⟨by simp,?_⟩;refine Zw4 84 h rfl (fun _ h=>?_) fun _ h=>?_
      ·dsimp only [go_sem];refine Zl2 4 ?_;dsimp only [e35,go_sem];refine ⟨by simp,?_⟩;refine Zw4 88 h rfl (fun _ h=>?_) fun _ h=>?_
       ·dsimp only [go_sem];refine Zl2 4 ?_;dsimp only [e35,go_sem];refine ⟨by simp,?_⟩;refine Zw4 92 h rfl (fun _ h=>?_) fun _ h=>?_
        ·dsimp only [go_sem];refine Zl2 5 ?_;dsimp only [e35,go_sem];refine ⟨by simp,?_⟩;refine Zw4 97 h rfl (fun _ h=>?_) fun _ h=>?_
         ·dsimp only [go_sem];refine Zl2 1 ?_;dsimp only [e35,go_sem];refine ⟨by simp,?_⟩;obtain ⟨x13,ex13,h⟩:=Option.bind_eq_some_iff.1 h;refine Zq4 Z45 ex13 trivial rfl rfl rfl ?_;refine Zl2 5 ?_;dsimp only [e35,go_sem];refine ⟨by simp,?_⟩;refine Zw4 104 h rfl (fun _ h=>?_) fun _ h=>?_
          ·dsimp only [go_sem];refine Zl2 4 ?_;dsimp only [e35,go_sem];refine ⟨by simp,?_⟩;refine Zw4 108 h rfl (fun _ h=>?_) fun _ h=>?_
           ·dsimp only [go_sem];refine Zl2 4 ?_;dsimp only [e35,go_sem];refine ⟨by simp,?_⟩;refine Zw4 112 h rfl (fun _ h=>?_) fun _ h=>?_
            ·dsimp only [go_sem];refine Zl2 1 ?_;dsimp only [e35,go_sem];refine ⟨by simp,?_⟩;obtain ⟨x14,ex14,h⟩:=Option.bind_eq_some_iff.1 h;refine Zz2 trivial (Z7g x9.1 _ ex14) (h:=?_);refine Zl2 3 ?_;dsimp only [e35,go_sem];refine ⟨by simp,?_⟩;refine Zw4 117 h rfl (fun _ h=>?_) fun _ h=>?_
             ·dsimp only [go_sem];refine Zl2 2 ?_;dsimp only [e35,go_sem];refine ⟨by simp,?_⟩;obtain ⟨x15,ex15,h⟩:=Option.bind_eq_some_iff.1 h;refine Zz2 trivial (Zdl x9.1 x9.1 _ ex15) (h:=?_);refine Zl2 2 ?_;dsimp only [e35,go_sem];refine ⟨by simp,?_⟩;refine Zw4 122 h rfl (fun _ h=>?_) fun _ h=>?_
              ·dsimp only [go_sem];refine Zl2 2 ?_;dsimp only [e35,go_sem];refine ⟨by simp,?_⟩;obtain ⟨x16,ex16,h⟩:=Option.bind_eq_some_iff.1 h;refine Zz2 trivial (Zdl x9.1 x11.1 _ ex16) (h:=?_);refine Zl2 4 ?_;dsimp only [e35,go_sem];refine ⟨by simp,?_⟩;exact Zz4 J3 (s:=!x16) h
              ·dsimp only [go_sem];refine Zl2 7 ?_;dsimp only [e35,go_sem];refine ⟨by simp,?_⟩;exact Zz4 J3 (s:=false) h
             ·dsimp only [go_sem];refine Zl2 12 ?_;dsimp only [e35,go_sem];refine ⟨by simp,?_⟩;exact Zz4 J3 (s:=false) h
            ·dsimp only [go_sem];refine Zl2 17 ?_;dsimp only [e35,go_sem];refine ⟨by simp,?_⟩;exact Zz4 J3 (s:=false) h
           ·dsimp only [go_sem];refine Zl2 21 ?_;dsimp only [e35,go_sem];refine ⟨by simp,?_⟩;exact Zz4 J3 (s:=false) h
          ·dsimp only [go_sem];refine Zl2 25 ?_;dsimp only [e35,go_sem];refine ⟨by simp,?_⟩;exact Zz4 J3 (s:=false) h
         ·dsimp only [go_sem];refine Zl2 32 ?_;dsimp only [e35,go_sem];refine ⟨by simp,?_⟩;exact Zz4 J3 (s:=false) h
        ·dsimp only [go_sem];refine Zl2 37 ?_;dsimp only [e35,go_sem];refine ⟨by simp,?_⟩;exact Zz4 J3 (s:=false) h
       ·dsimp only [go_sem];refine Zl2 41 ?_;dsimp only [e35,go_sem];refine ⟨by simp,?_⟩;exact Zz4 J3 (s:=false) h
      ·dsimp only [go_sem];refine Zl2 45 ?_;dsimp only [e35,go_sem];refine ⟨by simp,?_⟩;exact Zz4 J3 (s:=false) h
     ·dsimp only [go_sem];refine Zl2 49 ?_;dsimp only [e35,go_sem];refine ⟨by simp,?_⟩;exact Zz4 J3 (s:=false) h
   ·refine Zn4 h rfl (fun _ h=>?_) fun _ h=>?_
    ·refine Zl2 3 ?_;dsimp only [e35,go_sem];refine ⟨by simp,?_⟩;exact Zz4 J2 (s:=1) h
    ·refine Zl2 1 ?_;dsimp only [e35,go_sem];refine ⟨by simp,?_⟩;exact Zz4 J2 (s:=0) h
 ·refine Zw4 24 h rfl (fun _ h=>?_) fun _ h=>?_
  ·dsimp only [go_sem];refine Zl2 6 ?_;dsimp only [e35,go_sem];refine ⟨by simp,?_⟩;exact Zz4 J1 (s:=true) h
  ·dsimp only [go_sem];refine Zl2 6 ?_;dsimp only [e35,go_sem];refine ⟨by simp,?_⟩;exact Zz4 J1 (s:=!decide ((ln Diner.row x1.1.Diners)=2)) h
theorem s_EqualMail (l m:List Mail) (hl:l.length≤1000000):Z9l l m=some (decide (l=m)):=by
 simp only [Z9l,Zl9]
 by_cases h:l.length=m.length
 ·simp only [h,decide_true,Bool.not_true,Z46]
  rw [Zi9 l m _ (fun x y=>decide (x=y)) h (by omega) (fun k x y hx hy=>by
   simp only [Z8l,Z96 hx,Z36,Z76 hx,Z76 hy,Option.bind_some,Mail_eqB,Zc6 hx (show l.length≤4000000000000000000 by omega),Z56]
   cases decide (x=y)<;>rfl) (by simp only [Z8l,Za6,Z46,Z7l,Option.map_some]),Zj9 l m h]
 ·simp [h,Zk9 h]
theorem s_tSame (s t:Scene) (hD:Zm9 s.Diners) (hM:s.Mail.length≤900000):Zcl s t=some (decide (s=t)):=by
 obtain ⟨l,m⟩:=s
 obtain ⟨l',m'⟩:=t
 simp only [Zcl,Zbl,s_placeSame _ _ hD,s_EqualMail m m' (by simp only at hM;omega),Option.bind_some,Scene.mk.injEq]
 by_cases h1:l=l'<;>by_cases h2:m=m'<;>simp [h1,h2]
def g14:Graph:=⟨2,[⟨0,1⟩]⟩
def w0:Scene:=Zbj g14
def w1:Scene×Int:=Zzh w0 1 fun d=>Z1f d 0 1
def w2:Scene×Int:=Z2i w1.1 1 0
def w3:Scene×Int:=Z2i w2.1 0 1
def w4:Scene×Int:=Zzh w3.1 1 fun d=>Z1f d 2 0
def w5:Scene×Int:=Z2i w3.1 0 1
theorem s_awake14:Zhl=some true:=by
 have f0:fewB w0=true:=by kernel_rfl
 have f1:fewB w1.1=true:=by kernel_rfl
 have f2:fewB w2.1=true:=by kernel_rfl
 have f3:fewB w3.1=true:=by kernel_rfl
 have m:∀ {s:Scene},fewB s=true→s.Mail.length≤900000:=fun h=>by have:=(fewB_iff h).2.1;omega
 have hN:Z3j ⟨2,[⟨0,1⟩]⟩=some (w0,0):=by
  rw [s_New,show okG ⟨2,[⟨0,1⟩]⟩=true from by kernel_rfl];rfl
 have hl:ln Diner.row w0.Diners=2:=by rw [Z65];kernel_rfl
 have h0:∃d,at_ w0.Diners 0=some d∧sideP (Zn9 d 1)=(⟨1,1,0,true,true,false,true,false⟩,true)∧d.Sides.length≤1000000:=by
  refine ⟨Zoc g14 (Z9j g14) 0,by kernel_rfl,by kernel_rfl,by rw [show (Zoc g14 (Z9j g14) 0).Sides.length=1 from by kernel_rfl];omega⟩
 obtain ⟨d,d1,d2,d3⟩:=h0
 have wr1:wr (1-1)=0:=Z66 (by omega) (by omega)
 simp only [Zhl,hN,Option.bind_some,hl,decide_true,Bool.not_true,Z46,Zgl,d1,s_Side d 1 d3,d2,Z36,Zfl,wr1]
 rw [s_Start w0 1 (Zp9 f0) (m f0),Option.bind_some]
 rw [show (Zzh w0 1 fun d=>Z1f d 0 1)=w1 from rfl,Z3i w1.1 1 0 (Zp9 f1) (m f1),Option.bind_some]
 rw [show Z2i w1.1 1 0=w2 from rfl,s_Count w2.1 _ 1 (Zp9 f2) (m f2),Option.bind_some,Z3i w2.1 0 1 (Zp9 f2) (m f2),Option.bind_some]
 rw [show Z2i w2.1 0 1=w3 from rfl,Zuk w3.1 2 (Zp9 f3),Option.bind_some,s_Stop w3.1 1 (Zp9 f3) (m f3),Option.bind_some,Z3i w3.1 0 1 (Zp9 f3) (m f3),Option.bind_some]
 rw [s_tCheck w3.1 (Zp9 f3) (by have:=m f3;omega),s_tSame w3.1 w3.1 (Zp9 f3) (m f3),s_tSame w3.1 _ (Zp9 f3) (m f3)]
 rw [show (Zzh w3.1 1 fun d=>Z1f d 2 0)=w4 from rfl,show Z2i w3.1 0 1=w5 from rfl]
 rw [show decide (w1.2=0)=true from by kernel_rfl,Z36,show decide (w2.2=0)=true from by kernel_rfl,Z36,show decide ((countS w2.1 ⟨0,1⟩ 1:Int)=1)=true from by kernel_rfl,Z36,
  show decide (w3.2=0)=true from by kernel_rfl,Z36,show Ztk w3.1.Diners 2=[1] from by kernel_rfl,show decide (ln Z45 [(1:Int)]=1)=true from rfl,Z36,show at_ [(1:Int)] 0=some 1 from rfl,Option.bind_some]
 rw [show decide ((1:Int)=1)=true from rfl,Z36,show decide (w4.2=0)=true from by kernel_rfl,Z36,show decide (w5.2=141)=true from by kernel_rfl,Z36,Option.bind_some,show okS w3.1=true from by kernel_rfl]
 rw [show decide ((if true=true then (0:Int) else 142)=0)=true from rfl,Z36,Option.bind_some,decide_eq_true rfl,Z36,Option.bind_some,show decide (w3.1=w4.1)=false from by kernel_rfl]
 rfl
set_option maxRecDepth 100000
set_option maxHeartbeats 4000000
def e42:EC:=.seq (.reg [(Qa 1 (.box 43 2 (.t 0))),(Qa 2 (.mv (.c .ff)))]) (.seq (.reg [(Qa 2 (.mv (.c .tt)))]) (.ret))
theorem ok42:FnOK Try.prog 42 Try.f42 e42 [.t 2] 1 2:=⟨by kernel_rfl,⟨_,rfl,by kernel_rfl⟩,by kernel_rfl,by kernel_rfl⟩
noncomputable def Zjl (_x1:Scene):Option Bool:=
 some true
theorem Zkl (x1:Scene) (r:Bool) (h:Zjl x1=some r):Zq2 Try.prog 42 [.agg (Scene.row x1)] (.bv r):=by
 refine Zu2 ok42 rfl rfl fun w0 H0=>?_
 rw [Zjl] at h
 refine Zl2 9 ?_;dsimp only [e42,go_sem];refine ⟨by simp,?_⟩;exact Zx4 (res:=fun (r:Bool)=>.bv r) ok42 h
set_option maxRecDepth 100000
set_option maxHeartbeats 4000000
def Zll:EC:=.seq (.seq (.reg [(Qa 9 (.mv (.t 6))),(Qa 10 (.mv (.t 1))),(Qa 11 (.bin .lss (.t 9) (.t 10))),(Qa 12 (.mv (.t 11))),(Qg 13 12 true (.fld 1 (.t 2))),(Qg 14 12 true (.load (.t 13))),(Qg 15 12 true (.len (.t 14))),(Qg 16 12 true (.bin .gtr (.t 15) (.c (.iv 0)))),(Qa 17 (.pick (.t 12) (.t 16) (.c .ff)))]) (.ite (.t 17) (.skip) (.exit 0))) (.seq (.blk 1 (.seq (.drw [(Qa 21 (.loadA 2 (.t 2))),(Qa 22 (.call 45 [(.t 21)])),(Qa 23 (.fld 1 (.t 2))),(Qa 24 (.load (.t 23))),(Qa 25 (.idx 5 (.t 24) (.c (.iv 0)))),(Qa 26 (.fld 0 (.t 25))),(Qa 27 (.load (.t 26))),(Qa 28 (.fld 1 (.t 2))),(Qa 29 (.load (.t 28))),(Qa 30 (.idx 5 (.t 29) (.c (.iv 0)))),(Qa 31 (.fld 1 (.t 30))),(Qa 32 (.load (.t 31))),(Qa 33 (.call 70 [(.t 22),(.t 27),(.t 32)])),(Qa 20 (.mv (.t 33))),(Qa 34 (.ext (.t 20) 0)),(Qa 35 (.ext (.t 20) 1)),(Qa 7 (.alloc 43 [.nl,.nl])),(Qb (.store 2 (.t 7) (.t 34))),(Qa 8 (.mv (.t 35)))] [[],[0],[],[2],[3],[4],[5],[],[7],[8],[9],[10],[1,6,11,1],[12],[13],[13],[],[16,14,12,0,1,2,3,4,5,6,7,8,9,10,11,12,13,14,16],[15,17,0,1,2,3,4,5,6,7,8,9,10,11,12,13,14,15,16,17]] [[1],[0,12],[3],[2,4],[3,5],[4,6],[5,12],[8],[7,9],[8,10],[9,11],[10,12],[1,6,11,13],[12,14,15],[13,17],[13,18],[17],[14,16],[15]]) (.seq (.seq (.reg [(Qa 36 (.mv (.t 8))),(Qa 37 (.bin .neq (.t 36) (.c (.iv 0))))]) (.ite (.t 37) (.seq (.reg [(Qa 38 (.loadA 2 (.t 2))),(Qb (.store 2 (.t 4) (.t 38))),(Qa 5 (.mv (.c .ff)))]) (.ret)) (.skip))) (.reg [(Qa 39 (.loadA 2 (.t 7))),(Qb (.store 2 (.t 2) (.t 39)))])))) (.reg [(Qa 18 (.mv (.t 6))),(Qa 19 (.bin .add (.t 18) (.c (.iv 1)))),(Qa 6 (.mv (.t 19)))]))
def e43:EC:=.seq (.reg [(Qa 2 (.box 43 2 (.t 0))),(Qa 4 (.alloc 43 [.nl,.nl])),(Qa 5 (.mv (.c .ff)))]) (.seq (.seq (.reg [(Qa 6 (.mv (.c (.iv 0))))]) (.blk 0 (.loop Zll))) (.seq (.drw [(Qa 40 (.loadA 2 (.t 2))),(Qa 41 (.fld 1 (.t 2))),(Qa 42 (.load (.t 41))),(Qa 43 (.len (.t 42))),(Qa 44 (.bin .eql (.t 43) (.c (.iv 0)))),(Qb (.store 2 (.t 4) (.t 40))),(Qa 5 (.mv (.t 44)))] [[],[],[1],[2],[3],[0,0],[4,5,0,1,2,3,4,5]] [[5],[2],[1,3],[2,4],[3,6],[0],[4]]) (.ret)))
theorem ok43:FnOK Try.prog 43 Try.f43 e43 [.c 4 (some 2),.t 5] 2 43:=⟨by kernel_rfl,⟨_,rfl,by kernel_rfl⟩,by kernel_rfl,by kernel_rfl⟩
noncomputable def Zml:Scene→Option (Scene×Bool)
| x30=>
 some (x30,decide ((ln Mail.row x30.Mail)=0))
noncomputable def Znl (x14:Int) (x15:Scene):(Int×Scene)→Option ((Int×Scene) ⊕ (Scene×Bool))
| (x23,x24)=>
 ifb (!decide (x23=0)) (
 Option.map Sum.inr (some (x15,false))) (
 some (.inl (wr (x14+1),x24)))
noncomputable def Zol (x14:Int) (x15:Scene):Bool→Option ((Int×Scene) ⊕ (Scene×Bool))
| x16=>
 ifb x16 (
 (at_ x15.Mail 0).bind fun x17=>
 (at_ x15.Mail 0).bind fun x18=>
 (Zjh x15).bind fun x19=>
 (Zeh x19 x17.From x18.To).bind fun x21=>
 (Znl x14 x15) (x21.2,x21.1)) (
 Option.map Sum.inr (Zml x15))
noncomputable def Zpl (x2:Int):(Int×Scene)→Option ((Int×Scene) ⊕ (Scene×Bool))
| (x14,x15)=>
 ifb (decide (x14<x2)) (
 (Zol x14 x15) (decide (0<(ln Mail.row x15.Mail)))) (
 (Zol x14 x15) false)
noncomputable def Zql (x1:Scene) (x2:Int):Option (Scene×Bool):=
 loop (Zpl x2) (0,x1)
theorem Zrl (x1:Scene) (x2:Int) (r:(Scene×Bool)) (h:Zql x1 x2=some r):Zq2 Try.prog 43 [.agg (Scene.row x1),.iv x2] (.tup [.agg (Scene.row r.1),.bv r.2]):=by
 refine Zu2 ok43 rfl rfl fun w0 H0=>?_
 rw [Zql] at h
 refine Zl2 11 ?_;dsimp only [e43,Zll,go_sem];refine ⟨by simp,?_⟩;refine Zl4 (fun (x30:Scene)=>(⟨(.any :: .any :: .ptr 0 0 :: .any :: .ptr 1 0::an 40 []),[some ⟨43,[.sl 3 (List.map Diner.row x30.Diners),.sl 5 (List.map Mail.row x30.Mail)]⟩,some ⟨43,[.nl,.nl]⟩],[]⟩:St)) Zml r ?_ fun J1=>?_
 ·intro x30 h;rw [Zml] at h;(try dsimp only);refine Zl2 1 ?_;dsimp only [e43,Zll,go_sem];refine ⟨by simp,?_⟩;refine Zh3 (by kernel_rfl) fun all hall hs hnap haf=>?_;dsimp only [go_sem];refine Zh5 hall hs haf hnap 2 5 ?_;dsimp only [go_sem];refine ⟨by simp,?_⟩;refine Zu3 2 5 rfl ?_ ?_
  ·refine Zy3 hall rfl trivial ?_;dsimp only [go_sem];refine Zh5 hall hs haf hnap 2 2 ?_;dsimp only [go_sem];refine ⟨by simp,?_⟩;refine Zt3 5 rfl ?_;refine Zy3 hall rfl trivial ?_;dsimp only [go_sem];refine Zh5 hall hs haf hnap 1 0 ?_;dsimp only [go_sem];refine ⟨by simp,?_⟩;refine Zs3 rfl ?_ _;exact Zx4 (res:=fun (r:(Scene×Bool))=>.tup [.agg (Scene.row r.1),.bv r.2]) ok43 h
  ·refine Zy3 hall rfl trivial ?_;dsimp only [go_sem];refine Zh5 hall hs haf hnap 4 0 ?_;dsimp only [go_sem];refine ⟨by simp,?_⟩;refine Zs3 rfl ?_ _;exact Zx4 (res:=fun (r:(Scene×Bool))=>.tup [.agg (Scene.row r.1),.bv r.2]) ok43 h
 ·refine Zl2 1 ?_;dsimp only [e43,Zll,go_sem];refine ⟨by simp,?_⟩;refine Zm4 h (fun ((x14,x15):(Int×Scene))=>(⟨(.any :: .iv x2 :: .ptr 0 0 :: .any :: .ptr 1 0 :: .any :: .iv x14::an 38 []),[some ⟨43,[.sl 3 (List.map Diner.row x15.Diners),.sl 5 (List.map Mail.row x15.Mail)]⟩,some ⟨43,[.nl,.nl]⟩],[]⟩:St)) (by simp [go_sem]) (by rintro ⟨x14,x15⟩;first | rfl | simp [go_sem]) ?_;rintro n1 ⟨x14,x15⟩ y1 h hin1 hout1;rw [Zpl] at h;(try dsimp only);refine Zl2 7 ?_;dsimp only [e43,Zll,go_sem];refine ⟨by simp,?_⟩
  refine Zl4 (fun (x16:Bool)=>(⟨(.any :: .iv x2 :: .ptr 0 0 :: .any :: .ptr 1 0 :: .any :: .iv x14::an 10 (.bv x16::an 27 [])),[some ⟨43,[.sl 3 (List.map Diner.row x15.Diners),.sl 5 (List.map Mail.row x15.Mail)]⟩,some ⟨43,[.nl,.nl]⟩],[]⟩:St)) (Zol x14 x15) y1 ?_ fun J2=>?_
  ·intro x16 h;rw [Zol] at h;(try dsimp only);refine Zn4 h rfl (fun _ h=>?_) fun _ h=>?_
   ·refine Zl2 4 ?_;dsimp only [e43,Zll,go_sem];refine ⟨by simp,?_⟩;refine Zl4 (fun ((x23,x24):(Int×Scene))=>(⟨(.any :: .iv x2 :: .ptr 0 0 :: .any :: .ptr 1 0 :: .any :: .iv x14 :: .ptr 2 0 :: .iv x23::an 36 []),[some ⟨43,[.sl 3 (List.map Diner.row x15.Diners),.sl 5 (List.map Mail.row x15.Mail)]⟩,some ⟨43,[.nl,.nl]⟩,some ⟨43,[.sl 3 (List.map Diner.row x24.Diners),.sl 5 (List.map Mail.row x24.Mail)]⟩],[]⟩:St)) (Znl x14 x15) y1 ?_ fun J3=>?_
    ·rintro ⟨x23,x24⟩ h;rw [Znl] at h;(try dsimp only);refine Zl2 6 ?_;dsimp only [e43,Zll,go_sem];refine ⟨by simp,?_⟩;refine Zn4 h rfl (fun _ h=>?_) fun _ h=>?_
     ·refine Zl2 6 ?_;dsimp only [e43,Zll,go_sem];refine ⟨by simp,?_⟩;exact Zx4 (res:=fun (r:(Scene×Bool))=>.tup [.agg (Scene.row r.1),.bv r.2]) ok43 (Zk4 h hout1)
     ·refine Zl2 11 ?_;dsimp only [e43,Zll,go_sem];refine ⟨by simp,?_⟩;exact Zy4 h hin1
    ·refine Zh3 (by kernel_rfl) fun all hall hs hnap haf=>?_;dsimp only [go_sem]
     refine Zi5 hall hs haf hnap 5 14 [true,false,true,true,false,false,false,true,true,false,false,false,false,false,false,false,false,false,false] (⟨(.any :: .iv x2 :: .ptr 0 0 :: .any :: .ptr 1 0 :: .any :: .iv x14::an 10 (.bv x16::an 3 (.agg [.sl 3 (List.map Diner.row x15.Diners),.sl 5 (List.map Mail.row x15.Mail)] :: .any :: .ptr 0 1 :: .sl 5 (List.map Mail.row x15.Mail)::an 3 (.ptr 0 1 :: .sl 5 (List.map Mail.row x15.Mail)::an 15 [])))),[some ⟨43,[.sl 3 (List.map Diner.row x15.Diners),.sl 5 (List.map Mail.row x15.Mail)]⟩,some ⟨43,[.nl,.nl]⟩],[]⟩:St) (by kernel_rfl) ?_
     obtain ⟨x17,ex17,h⟩:=Option.bind_eq_some_iff.1 h;refine Zr4 hall hs haf hnap 4 Mail.row ex17 rfl rfl trivial rfl rfl rfl rfl ?_;refine Zh5 hall hs haf hnap 2 11 ?_;dsimp only [go_sem];refine ⟨by simp,?_⟩;obtain ⟨x18,ex18,h⟩:=Option.bind_eq_some_iff.1 h;refine Zr4 hall hs haf hnap 9 Mail.row ex18 rfl rfl trivial rfl rfl rfl rfl ?_;refine Zh5 hall hs haf hnap 2 8 ?_;dsimp only [go_sem];refine ⟨by simp,?_⟩;obtain ⟨x19,ex19,h⟩:=Option.bind_eq_some_iff.1 h;refine Zu3 1 16 rfl ?_ ?_
     ·refine Zz3 hall rfl trivial (Zkh x15 _ ex19) (h:=?_);dsimp only [go_sem];obtain ⟨x21,ex21,h⟩:=Option.bind_eq_some_iff.1 h;refine Zu3 12 16 rfl ?_ ?_
      ·refine Zz3 hall rfl trivial (Zfh x19 x17.From x18.To _ ex21) (h:=?_);dsimp only [go_sem];refine Zh5 hall hs haf hnap 3 3 ?_;dsimp only [go_sem];refine ⟨by simp,?_⟩;refine Zt3 16 rfl ?_;refine Zy3 hall rfl trivial ?_;dsimp only [go_sem];refine Zt3 17 rfl ?_;refine Zy3 hall rfl trivial ?_;dsimp only [go_sem];refine Zh5 hall hs haf hnap 1 0 ?_;dsimp only [go_sem];refine ⟨by simp,?_⟩;refine Zs3 rfl ?_ _;exact Zz4 J3 (s:=(x21.2,x21.1)) h
      ·refine Zy3 hall rfl trivial ?_;dsimp only [go_sem];refine Zt3 12 rfl ?_;refine Zz3 hall rfl trivial (Zfh x19 x17.From x18.To _ ex21) (h:=?_);dsimp only [go_sem];refine Zh5 hall hs haf hnap 3 2 ?_;dsimp only [go_sem];refine ⟨by simp,?_⟩;refine Zt3 17 rfl ?_;refine Zy3 hall rfl trivial ?_;dsimp only [go_sem];refine Zh5 hall hs haf hnap 1 0 ?_;dsimp only [go_sem];refine ⟨by simp,?_⟩;refine Zs3 rfl ?_ _;exact Zz4 J3 (s:=(x21.2,x21.1)) h
     ·refine Zy3 hall rfl trivial ?_;dsimp only [go_sem];refine Zt3 1 rfl ?_;refine Zz3 hall rfl trivial (Zkh x15 _ ex19) (h:=?_);dsimp only [go_sem];refine Zt3 12 rfl ?_;obtain ⟨x21,ex21,h⟩:=Option.bind_eq_some_iff.1 h;refine Zz3 hall rfl trivial (Zfh x19 x17.From x18.To _ ex21) (h:=?_);dsimp only [go_sem];refine Zh5 hall hs haf hnap 3 2 ?_;dsimp only [go_sem];refine ⟨by simp,?_⟩;refine Zt3 17 rfl ?_;refine Zy3 hall rfl trivial ?_;dsimp only [go_sem];refine Zh5 hall hs haf hnap 1 0 ?_;dsimp only [go_sem]
      refine ⟨by simp,?_⟩;refine Zs3 rfl ?_ _;exact Zz4 J3 (s:=(x21.2,x21.1)) h
   ·refine Zl2 1 ?_;dsimp only [e43,Zll,go_sem];refine ⟨by simp,?_⟩;exact Zz4 J1 (s:=x15) (Zk4 h hout1)
  ·refine Zw4 12 h rfl (fun _ h=>?_) fun _ h=>?_
   ·dsimp only [go_sem];refine Zl2 6 ?_;dsimp only [e43,Zll,go_sem];refine ⟨by simp,?_⟩;exact Zz4 J2 (s:=decide (0<(ln Mail.row x15.Mail))) h
   ·dsimp only [go_sem];refine Zl2 6 ?_;dsimp only [e43,Zll,go_sem];refine ⟨by simp,?_⟩;exact Zz4 J2 (s:=false) h
set_option maxRecDepth 100000
set_option maxHeartbeats 4000000
def Zsl:EC:=.seq (.seq (.reg [(Qa 67 (.mv (.t 11))),(Qa 68 (.mv (.t 10))),(Qa 69 (.len (.t 68))),(Qa 70 (.bin .lss (.t 67) (.t 69)))]) (.ite (.t 70) (.skip) (.exit 2))) (.seq (.blk 3 (.seq (.drw [(Qa 74 (.loadA 2 (.t 5))),(Qa 75 (.call 45 [(.t 74)])),(Qa 76 (.mv (.t 10))),(Qa 77 (.mv (.t 11))),(Qa 78 (.idx 1 (.t 76) (.t 77))),(Qa 79 (.load (.t 78))),(Qa 80 (.call 44 [(.t 75),(.t 79)])),(Qa 73 (.mv (.t 80))),(Qa 81 (.ext (.t 73) 0)),(Qa 82 (.ext (.t 73) 1)),(Qa 12 (.alloc 43 [.nl,.nl])),(Qb (.store 2 (.t 12) (.t 81))),(Qa 13 (.mv (.t 82)))] [[],[0],[],[],[2,3],[4],[1,5,1],[6],[7],[7],[],[10,8,6,0,1,2,3,4,5,6,7,8,10],[9,11,0,1,2,3,4,5,6,7,8,9,10,11]] [[1],[0,6],[4],[4],[2,3,5],[4,6],[1,5,7],[6,8,9],[7,11],[7,12],[11],[8,10],[9]]) (.seq (.seq (.reg [(Qa 83 (.mv (.t 13))),(Qa 84 (.bin .neq (.t 83) (.c (.iv 0))))]) (.ite (.t 84) (.seq (.reg [(Qa 4 (.mv (.c .ff)))]) (.ret)) (.skip))) (.reg [(Qa 85 (.loadA 2 (.t 12))),(Qb (.store 2 (.t 5) (.t 85)))])))) (.reg [(Qa 71 (.mv (.t 11))),(Qa 72 (.bin .add (.t 71) (.c (.iv 1)))),(Qa 11 (.mv (.t 72)))]))
def Ztl:EC:=.seq (.seq (.reg [(Qa 35 (.mv (.t 7))),(Qa 36 (.fld 0 (.t 2))),(Qa 37 (.load (.t 36))),(Qa 38 (.bin .leq (.t 35) (.t 37)))]) (.ite (.t 38) (.skip) (.exit 0))) (.seq (.blk 1 (.seq (.reg [(Qa 42 (.loadA 2 (.t 5))),(Qa 43 (.fld 1 (.t 2))),(Qa 44 (.load (.t 43))),(Qa 45 (.len (.t 44))),(Qa 46 (.bin .mul (.c (.iv 20)) (.t 45))),(Qa 47 (.bin .add (.t 46) (.c (.iv 20)))),(Qa 48 (.call 43 [(.t 42),(.t 47)])),(Qa 41 (.mv (.t 48))),(Qa 49 (.ext (.t 41) 0)),(Qa 50 (.ext (.t 41) 1)),(Qa 8 (.alloc 43 [.nl,.nl])),(Qb (.store 2 (.t 8) (.t 49))),(Qa 9 (.mv (.t 50)))]) (.seq (.reg [(Qa 51 (.loadA 2 (.t 8))),(Qb (.store 2 (.t 5) (.t 51)))]) (.seq (.reg [(Qa 52 (.loadA 2 (.t 5))),(Qa 53 (.call 41 [(.t 52),(.c (.iv 2))])),(Qa 10 (.mv (.t 53)))]) (.seq (.seq (.reg [(Qa 54 (.mv (.t 9))),(Qa 55 (.not (.t 54))),(Qa 56 (.mv (.t 55))),(Qg 57 56 false (.mv (.t 10))),(Qg 58 56 false (.len (.t 57))),(Qg 59 56 false (.bin .eql (.t 58) (.c (.iv 0)))),(Qg 60 56 false (.mv (.t 59))),(Qg 61 60 true (.loadA 2 (.t 5))),(Qg 62 60 true (.call 41 [(.t 61),(.c (.iv 1))])),(Qg 63 60 true (.len (.t 62))),(Qg 64 60 true (.bin .gtr (.t 63) (.c (.iv 0)))),(Qg 65 56 false (.pick (.t 60) (.t 64) (.c .ff))),(Qa 66 (.pick (.t 56) (.c .tt) (.t 65)))]) (.ite (.t 66) (.seq (.reg [(Qa 4 (.mv (.c .ff)))]) (.ret)) (.skip))) (.seq (.reg [(Qa 11 (.mv (.c (.iv 0))))]) (.blk 2 (.loop Zsl)))))))) (.reg [(Qa 39 (.mv (.t 7))),(Qa 40 (.bin .add (.t 39) (.c (.iv 1)))),(Qa 7 (.mv (.t 40)))]))
def e11:EC:=.seq (.reg [(Qa 2 (.box 24 2 (.t 0))),(Qa 4 (.mv (.c .ff)))]) (.seq (.seq (.reg [(Qa 14 (.call 35 [])),(Qa 15 (.not (.t 14))),(Qa 16 (.mv (.t 15))),(Qg 17 16 false (.loadA 2 (.t 2))),(Qg 18 16 false (.call 36 [(.t 17)])),(Qg 19 16 false (.not (.t 18))),(Qa 20 (.pick (.t 16) (.c .tt) (.t 19))),(Qa 21 (.mv (.t 20))),(Qg 22 21 false (.mv (.t 1))),(Qg 23 21 false (.len (.t 22))),(Qg 24 21 false (.bin .gtr (.t 23) (.c (.iv 80)))),(Qa 25 (.pick (.t 21) (.c .tt) (.t 24)))]) (.ite (.t 25) (.seq (.reg [(Qa 26 (.call 35 [])),(Qa 4 (.mv (.t 26)))]) (.ret)) (.skip))) (.seq (.reg [(Qa 28 (.loadA 2 (.t 2))),(Qa 29 (.mv (.t 1))),(Qa 30 (.call 37 [(.t 28),(.t 29),(.c (.clo 42 []))])),(Qa 27 (.mv (.t 30))),(Qa 31 (.ext (.t 27) 0)),(Qa 32 (.ext (.t 27) 1)),(Qa 5 (.alloc 43 [.nl,.nl])),(Qb (.store 2 (.t 5) (.t 31))),(Qa 6 (.mv (.t 32)))]) (.seq (.seq (.reg [(Qa 33 (.mv (.t 6))),(Qa 34 (.not (.t 33)))]) (.ite (.t 34) (.seq (.reg [(Qa 4 (.mv (.c .ff)))]) (.ret)) (.skip))) (.seq (.seq (.reg [(Qa 7 (.mv (.c (.iv 0))))]) (.blk 0 (.loop Ztl))) (.seq (.reg [(Qa 86 (.loadA 2 (.t 5))),(Qa 87 (.call 41 [(.t 86),(.c (.iv 1))])),(Qa 88 (.len (.t 87))),(Qa 89 (.bin .eql (.t 88) (.c (.iv 0)))),(Qa 90 (.mv (.t 89))),(Qg 91 90 true (.loadA 2 (.t 5))),(Qg 92 90 true (.call 41 [(.t 91),(.c (.iv 2))])),(Qg 93 90 true (.len (.t 92))),(Qg 94 90 true (.bin .eql (.t 93) (.c (.iv 0)))),(Qa 95 (.pick (.t 90) (.t 94) (.c .ff))),(Qa 4 (.mv (.t 95)))]) (.ret))))))
theorem ok11:FnOK Try.prog 11 Try.f11 e11 [.t 4] 2 94:=⟨by kernel_rfl,⟨_,rfl,by kernel_rfl⟩,by kernel_rfl,by kernel_rfl⟩
noncomputable def Zul:Bool→Option Bool
| x79=>
 some x79
noncomputable def Zvl:Scene→Option Bool
| x76=>
 (Zck x76 1).bind fun x77=>
 ifb (decide ((ln Z45 x77)=0)) (
 (Zck x76 2).bind fun x78=>
 Zul (decide ((ln Z45 x78)=0))) (
 Zul false)
noncomputable def Zwl (x39:Int):Scene→Option ((Int×Scene) ⊕ Bool)
| x70=>
 some (.inl (wr (x39+1),x70))
noncomputable def Zxl (x54:Int):(Int×Scene)→Option ((Int×Scene) ⊕ ((Int×Scene) ⊕ Bool))
| (x61,x62)=>
 ifb (!decide (x61=0)) (
 Option.map Sum.inr (Option.map Sum.inr (some false))) (
 some (.inl (wr (x54+1),x62)))
noncomputable def Zyl (x39:Int) (x42:(List Int)):(Int×Scene)→Option ((Int×Scene) ⊕ ((Int×Scene) ⊕ Bool))
| (x54,x55)=>
 ifb (decide (x54<(ln Z45 x42))) (
 (at_ x42 x54).bind fun x56=>
 (Zjh x55).bind fun x57=>
 (Z5h x57 x56).bind fun x59=>
 (Zxl x54) (x59.2,x59.1)) (
 Option.map Sum.inr ((Zwl x39) x55))
noncomputable def Zzl (x39:Int) (x41:(Scene×Bool)) (x42:(List Int)):Bool→Option ((Int×Scene) ⊕ Bool)
| x44=>
 ifb x44 (
 Option.map Sum.inr (some false)) (
 loop (Zyl x39 x42) (0,x41.1))
noncomputable def Z0m (x1:Graph):(Int×Scene)→Option ((Int×Scene) ⊕ Bool)
| (x39,x40)=>
 ifb (decide (x39≤x1.N)) (
 (Zql x40 (wr ((wr (20*(ln Edge.row x1.Edges)))+20))).bind fun x41=>
 (Zck x41.1 2).bind fun x42=>
 ifb (!x41.2) (
 (Zzl x39 x41 x42) true) (
 ifb (decide ((ln Z45 x42)=0)) (
 (Zck x41.1 1).bind fun x43=>
 (Zzl x39 x41 x42) (decide (0<(ln Z45 x43)))) (
 (Zzl x39 x41 x42) false))) (
 Option.map Sum.inr (Zvl x40))
noncomputable def Z1m (x1:Graph) (x2:(List narthexlaw14_Act)):Bool→Option Bool
| x5=>
 ifb x5 (
 (Zhl).bind fun x6=>
 some x6) (
 (Zmk x1 x2 ((fun z=>Zjl z))).bind fun x7=>
 ifb (!x7.2) (
 some false) (
 loop (Z0m x1) (0,x7.1)))
noncomputable def Z2m (x1:Graph) (x2:(List narthexlaw14_Act)):Option Bool:=
 (Zhl).bind fun x3=>
 ifb (!x3) (
 (Z1m x1 x2) true) (
 (Zpk x1).bind fun x4=>
 ifb (!x4) (
 (Z1m x1 x2) true) (
 (Z1m x1 x2) (decide (80<(ln narthexlaw14_Act.row x2)))))
theorem Z3m (x1:Graph) (x2:(List narthexlaw14_Act)) (r:Bool) (h:Z2m x1 x2=some r):Zq2 Try.prog 11 [.agg (Graph.row x1),.sl 3 (List.map narthexlaw14_Act.row x2)] (.bv r):=by
 refine Zu2 ok11 rfl rfl fun w0 H0=>?_
 rw [Z2m] at h
 refine Zl2 8 ?_;dsimp only [e11,Ztl,Zsl,go_sem];refine ⟨by simp,?_⟩;obtain ⟨x3,ex3,h⟩:=Option.bind_eq_some_iff.1 h;refine Zz2 trivial (Zil _ ex3) (h:=?_);refine Zl2 2 ?_;dsimp only [e11,Ztl,Zsl,go_sem];refine ⟨by simp,?_⟩;refine Zl4 (fun (x5:Bool)=>(⟨(.any :: .sl 3 (List.map narthexlaw14_Act.row x2) :: .ptr 0 0::an 22 (.bv x5::an 70 [])),[some ⟨24,[.iv x1.N,.sl 2 (List.map Edge.row x1.Edges)]⟩],[]⟩:St)) (Z1m x1 x2) r ?_ fun J1=>?_
 ·intro x5 h;rw [Z1m] at h;(try dsimp only);refine Zn4 h rfl (fun _ h=>?_) fun _ h=>?_
  ·refine Zl2 2 ?_;dsimp only [e11,Ztl,Zsl,go_sem];refine ⟨by simp,?_⟩;obtain ⟨x6,ex6,h⟩:=Option.bind_eq_some_iff.1 h;refine Zz2 trivial (Zil _ ex6) (h:=?_);refine Zl2 2 ?_;dsimp only [e11,Ztl,Zsl,go_sem];refine ⟨by simp,?_⟩;exact Zx4 (res:=fun (r:Bool)=>.bv r) ok11 h
  ·refine Zl2 5 ?_;dsimp only [e11,Ztl,Zsl,go_sem];refine ⟨by simp,?_⟩;obtain ⟨x7,ex7,h⟩:=Option.bind_eq_some_iff.1 h;refine Zz2 trivial (Znk x1 x2 _ _ ((fun z=>Zjl z)) ⟨by kernel_rfl,rfl,fun z r hz=>Zkl z r hz⟩ _ ex7) (h:=?_);refine Zl2 13 ?_;dsimp only [e11,Ztl,Zsl,go_sem];refine ⟨by simp,?_⟩;refine Zn4 h rfl (fun _ h=>?_) fun _ h=>?_
   ·refine Zl2 4 ?_;dsimp only [e11,Ztl,Zsl,go_sem];refine ⟨by simp,?_⟩;exact Zx4 (res:=fun (r:Bool)=>.bv r) ok11 h
   ·refine Zl2 6 ?_;dsimp only [e11,Ztl,Zsl,go_sem];refine ⟨by simp,?_⟩;refine Zl4 (fun (x76:Scene)=>(⟨(an 5 (.ptr 1 0::an 90 [])),[none,some ⟨43,[.sl 3 (List.map Diner.row x76.Diners),.sl 5 (List.map Mail.row x76.Mail)]⟩],[]⟩:St)) Zvl r ?_ fun J2=>?_
    ·intro x76 h;rw [Zvl] at h;(try dsimp only);refine Zl2 3 ?_;dsimp only [e11,Ztl,Zsl,go_sem];refine ⟨by simp,?_⟩;obtain ⟨x77,ex77,h⟩:=Option.bind_eq_some_iff.1 h;refine Zz2 trivial (Zek x76 1 _ ex77) (h:=?_);refine Zl2 3 ?_;dsimp only [e11,Ztl,Zsl,go_sem];refine ⟨by simp,?_⟩;refine Zl4 (fun (x79:Bool)=>(⟨(an 4 (.bv x79::an 91 [])),[],[]⟩:St)) Zul r ?_ fun J6=>?_
     ·intro x79 h;rw [Zul] at h;(try dsimp only);exact Zx4 (res:=fun (r:Bool)=>.bv r) ok11 h
     ·refine Zw4 90 h rfl (fun _ h=>?_) fun _ h=>?_
      ·dsimp only [go_sem];refine Zl2 1 ?_;dsimp only [e11,Ztl,Zsl,go_sem];refine ⟨by simp,?_⟩;obtain ⟨x78,ex78,h⟩:=Option.bind_eq_some_iff.1 h;refine Zz2 trivial (Zek x76 2 _ ex78) (h:=?_);refine Zl2 5 ?_;dsimp only [e11,Ztl,Zsl,go_sem];refine ⟨by simp,?_⟩;exact Zz4 J6 (s:=decide ((ln Z45 x78)=0)) h
      ·dsimp only [go_sem];refine Zl2 7 ?_;dsimp only [e11,Ztl,Zsl,go_sem];refine ⟨by simp,?_⟩;exact Zz4 J6 (s:=false) h
    ·refine Zl2 1 ?_;dsimp only [e11,Ztl,Zsl,go_sem];refine ⟨by simp,?_⟩;refine Zm4 h (fun ((x39,x40):(Int×Scene))=>(⟨(.any :: .any :: .ptr 0 0 :: .any :: .any :: .ptr 1 0 :: .any :: .iv x39::an 88 []),[some ⟨24,[.iv x1.N,.sl 2 (List.map Edge.row x1.Edges)]⟩,some ⟨43,[.sl 3 (List.map Diner.row x40.Diners),.sl 5 (List.map Mail.row x40.Mail)]⟩],[]⟩:St)) (by simp [go_sem]) (by rintro ⟨x39,x40⟩;first | rfl | simp [go_sem]) ?_;rintro n1 ⟨x39,x40⟩ y1 h hin1 hout1;rw [Z0m] at h;(try dsimp only);refine Zl2 8 ?_
     dsimp only [e11,Ztl,Zsl,go_sem];refine ⟨by simp,?_⟩;refine Zn4 h rfl (fun _ h=>?_) fun _ h=>?_
     ·refine Zl2 11 ?_;dsimp only [e11,Ztl,Zsl,go_sem];refine ⟨by simp,?_⟩;obtain ⟨x41,ex41,h⟩:=Option.bind_eq_some_iff.1 h;refine Zz2 trivial (Zrl x40 (wr ((wr (20*(ln Edge.row x1.Edges)))+20)) _ ex41) (h:=?_);refine Zl2 15 ?_;dsimp only [e11,Ztl,Zsl,go_sem];refine ⟨by simp,?_⟩;obtain ⟨x42,ex42,h⟩:=Option.bind_eq_some_iff.1 h;refine Zz2 trivial (Zek x41.1 2 _ ex42) (h:=?_);refine Zl2 8 ?_;dsimp only [e11,Ztl,Zsl,go_sem];refine ⟨by simp,?_⟩
      refine Zl4 (fun (x44:Bool)=>(⟨(.any :: .any :: .ptr 0 0 :: .any :: .any :: .ptr 1 0 :: .any :: .iv x39 :: .any :: .any :: .sl 1 (List.map Z45 x42)::an 55 (.bv x44::an 29 [])),[some ⟨24,[.iv x1.N,.sl 2 (List.map Edge.row x1.Edges)]⟩,some ⟨43,[.sl 3 (List.map Diner.row x41.1.Diners),.sl 5 (List.map Mail.row x41.1.Mail)]⟩],[]⟩:St)) (Zzl x39 x41 x42) y1 ?_ fun J3=>?_
      ·intro x44 h;rw [Zzl] at h;(try dsimp only);refine Zn4 h rfl (fun _ h=>?_) fun _ h=>?_
       ·refine Zl2 4 ?_;dsimp only [e11,Ztl,Zsl,go_sem];refine ⟨by simp,?_⟩;exact Zx4 (res:=fun (r:Bool)=>.bv r) ok11 (Zk4 h hout1)
       ·refine Zl2 5 ?_;dsimp only [e11,Ztl,Zsl,go_sem];refine ⟨by simp,?_⟩;refine Zl4 (fun (x70:Scene)=>(⟨(.any :: .any :: .ptr 0 0 :: .any :: .any :: .ptr 1 0 :: .any :: .iv x39::an 88 []),[some ⟨24,[.iv x1.N,.sl 2 (List.map Edge.row x1.Edges)]⟩,some ⟨43,[.sl 3 (List.map Diner.row x70.Diners),.sl 5 (List.map Mail.row x70.Mail)]⟩],[]⟩:St)) (Zwl x39) y1 ?_ fun J4=>?_
        ·intro x70 h;rw [Zwl] at h;(try dsimp only);refine Zl2 6 ?_;dsimp only [e11,Ztl,Zsl,go_sem];refine ⟨by simp,?_⟩;exact Zy4 h hin1
        ·refine Zl2 1 ?_;dsimp only [e11,Ztl,Zsl,go_sem];refine ⟨by simp,?_⟩;refine Zm4 h (fun ((x54,x55):(Int×Scene))=>(⟨(.any :: .any :: .ptr 0 0 :: .any :: .any :: .ptr 1 0 :: .any :: .iv x39 :: .any :: .any :: .sl 1 (List.map Z45 x42) :: .iv x54::an 84 []),[some ⟨24,[.iv x1.N,.sl 2 (List.map Edge.row x1.Edges)]⟩,some ⟨43,[.sl 3 (List.map Diner.row x55.Diners),.sl 5 (List.map Mail.row x55.Mail)]⟩],[]⟩:St)) (by simp [go_sem]) (by rintro ⟨x54,x55⟩;first | rfl | simp [go_sem]) ?_;rintro n2 ⟨x54,x55⟩ y2 h hin2 hout2
         rw [Zyl] at h;(try dsimp only);refine Zl2 8 ?_;dsimp only [e11,Ztl,Zsl,go_sem];refine ⟨by simp,?_⟩;refine Zn4 h rfl (fun _ h=>?_) fun _ h=>?_
         ·refine Zl2 4 ?_;dsimp only [e11,Ztl,Zsl,go_sem];refine ⟨by simp,?_⟩
          refine Zl4 (fun ((x61,x62):(Int×Scene))=>(⟨(.any :: .any :: .ptr 0 0 :: .any :: .any :: .ptr 1 0 :: .any :: .iv x39 :: .any :: .any :: .sl 1 (List.map Z45 x42) :: .iv x54 :: .ptr 2 0 :: .iv x61::an 82 []),[some ⟨24,[.iv x1.N,.sl 2 (List.map Edge.row x1.Edges)]⟩,some ⟨43,[.sl 3 (List.map Diner.row x55.Diners),.sl 5 (List.map Mail.row x55.Mail)]⟩,some ⟨43,[.sl 3 (List.map Diner.row x62.Diners),.sl 5 (List.map Mail.row x62.Mail)]⟩],[]⟩:St)) (Zxl x54) y2 ?_ fun J5=>?_
          ·rintro ⟨x61,x62⟩ h;rw [Zxl] at h;(try dsimp only);refine Zl2 6 ?_;dsimp only [e11,Ztl,Zsl,go_sem];refine ⟨by simp,?_⟩;refine Zn4 h rfl (fun _ h=>?_) fun _ h=>?_
           ·refine Zl2 4 ?_;dsimp only [e11,Ztl,Zsl,go_sem];refine ⟨by simp,?_⟩;exact Zx4 (res:=fun (r:Bool)=>.bv r) ok11 (Zk4 (Zk4 h hout2) hout1)
           ·refine Zl2 11 ?_;dsimp only [e11,Ztl,Zsl,go_sem];refine ⟨by simp,?_⟩;exact Zy4 h hin2
          ·refine Zh3 (by kernel_rfl) fun all hall hs hnap haf=>?_;dsimp only [go_sem];refine Zh5 hall hs haf hnap 3 10 ?_;dsimp only [go_sem];refine ⟨by simp,?_⟩;obtain ⟨x56,ex56,h⟩:=Option.bind_eq_some_iff.1 h;refine Zr4 hall hs haf hnap 4 Z45 ex56 rfl rfl trivial rfl rfl rfl rfl ?_;refine Zh5 hall hs haf hnap 1 8 ?_;dsimp only [go_sem];refine ⟨by simp,?_⟩;obtain ⟨x57,ex57,h⟩:=Option.bind_eq_some_iff.1 h;refine Zu3 1 10 rfl ?_ ?_
           ·refine Zz3 hall rfl trivial (Zkh x55 _ ex57) (h:=?_);dsimp only [go_sem];obtain ⟨x59,ex59,h⟩:=Option.bind_eq_some_iff.1 h;refine Zu3 6 10 rfl ?_ ?_
            ·refine Zz3 hall rfl trivial (Z6h x57 x56 _ ex59) (h:=?_);dsimp only [go_sem];refine Zh5 hall hs haf hnap 3 3 ?_;dsimp only [go_sem];refine ⟨by simp,?_⟩;refine Zt3 10 rfl ?_;refine Zy3 hall rfl trivial ?_;dsimp only [go_sem];refine Zt3 11 rfl ?_;refine Zy3 hall rfl trivial ?_;dsimp only [go_sem];refine Zh5 hall hs haf hnap 1 0 ?_;dsimp only [go_sem];refine ⟨by simp,?_⟩;refine Zs3 rfl ?_ _;exact Zz4 J5 (s:=(x59.2,x59.1)) h
            ·refine Zy3 hall rfl trivial ?_;dsimp only [go_sem];refine Zt3 6 rfl ?_;refine Zz3 hall rfl trivial (Z6h x57 x56 _ ex59) (h:=?_);dsimp only [go_sem];refine Zh5 hall hs haf hnap 3 2 ?_;dsimp only [go_sem];refine ⟨by simp,?_⟩;refine Zt3 11 rfl ?_;refine Zy3 hall rfl trivial ?_;dsimp only [go_sem];refine Zh5 hall hs haf hnap 1 0 ?_;dsimp only [go_sem];refine ⟨by simp,?_⟩;refine Zs3 rfl ?_ _;exact Zz4 J5 (s:=(x59.2,x59.1)) h
           ·refine Zy3 hall rfl trivial ?_;dsimp only [go_sem];refine Zt3 1 rfl ?_;refine Zz3 hall rfl trivial (Zkh x55 _ ex57) (h:=?_);dsimp only [go_sem];refine Zt3 6 rfl ?_;obtain ⟨x59,ex59,h⟩:=Option.bind_eq_some_iff.1 h;refine Zz3 hall rfl trivial (Z6h x57 x56 _ ex59) (h:=?_);dsimp only [go_sem];refine Zh5 hall hs haf hnap 3 2 ?_;dsimp only [go_sem];refine ⟨by simp,?_⟩;refine Zt3 11 rfl ?_;refine Zy3 hall rfl trivial ?_;dsimp only [go_sem];refine Zh5 hall hs haf hnap 1 0 ?_;dsimp only [go_sem]
            refine ⟨by simp,?_⟩;refine Zs3 rfl ?_ _;exact Zz4 J5 (s:=(x59.2,x59.1)) h
         ·refine Zl2 1 ?_;dsimp only [e11,Ztl,Zsl,go_sem];refine ⟨by simp,?_⟩;exact Zz4 J4 (s:=x55) (Zk4 h hout2)
      ·refine Zw4 56 h rfl (fun _ h=>?_) fun _ h=>?_
       ·dsimp only [go_sem];refine Zl2 11 ?_;dsimp only [e11,Ztl,Zsl,go_sem];refine ⟨by simp,?_⟩;exact Zz4 J3 (s:=true) h
       ·dsimp only [go_sem];refine Zl2 4 ?_;dsimp only [e11,Ztl,Zsl,go_sem];refine ⟨by simp,?_⟩;refine Zw4 60 h rfl (fun _ h=>?_) fun _ h=>?_
        ·dsimp only [go_sem];refine Zl2 1 ?_;dsimp only [e11,Ztl,Zsl,go_sem];refine ⟨by simp,?_⟩;obtain ⟨x43,ex43,h⟩:=Option.bind_eq_some_iff.1 h;refine Zz2 trivial (Zek x41.1 1 _ ex43) (h:=?_);refine Zl2 5 ?_;dsimp only [e11,Ztl,Zsl,go_sem];refine ⟨by simp,?_⟩;exact Zz4 J3 (s:=decide (0<(ln Z45 x43))) h
        ·dsimp only [go_sem];refine Zl2 7 ?_;dsimp only [e11,Ztl,Zsl,go_sem];refine ⟨by simp,?_⟩;exact Zz4 J3 (s:=false) h
     ·refine Zl2 1 ?_;dsimp only [e11,Ztl,Zsl,go_sem];refine ⟨by simp,?_⟩;exact Zz4 J2 (s:=x40) (Zk4 h hout1)
 ·refine Zw4 16 h rfl (fun _ h=>?_) fun _ h=>?_
  ·dsimp only [go_sem];refine Zl2 10 ?_;dsimp only [e11,Ztl,Zsl,go_sem];refine ⟨by simp,?_⟩;exact Zz4 J1 (s:=true) h
  ·dsimp only [go_sem];refine Zl2 1 ?_;dsimp only [e11,Ztl,Zsl,go_sem];refine ⟨by simp,?_⟩;obtain ⟨x4,ex4,h⟩:=Option.bind_eq_some_iff.1 h;refine Zz2 trivial (Zqk x1 _ ex4) (h:=?_);refine Zl2 3 ?_;dsimp only [e11,Ztl,Zsl,go_sem];refine ⟨by simp,?_⟩;refine Zw4 21 h rfl (fun _ h=>?_) fun _ h=>?_
   ·dsimp only [go_sem];refine Zl2 5 ?_;dsimp only [e11,Ztl,Zsl,go_sem];refine ⟨by simp,?_⟩;exact Zz4 J1 (s:=true) h
   ·dsimp only [go_sem];refine Zl2 5 ?_;dsimp only [e11,Ztl,Zsl,go_sem];refine ⟨by simp,?_⟩;exact Zz4 J1 (s:=decide (80<(ln narthexlaw14_Act.row x2))) h
theorem Fair.small {g:Graph} {s:Scene} (hg:okG g=true) (h:Fair g s):s.Mail.length≤2400∧phi g s≤6*g.Edges.length:=by
 have h1:=h.mails hg
 have h2:=h.phi6 hg
 have h3:=(Zs7 hg).2.2.1
 exact ⟨by omega,h2⟩
theorem s_quietL {g:Graph} (hg:okG g=true) (hN:g.N≤60) (most:Int) (hm:most≤1000000):∀(n i:Nat) (s:Scene),Fair g s→phi g s≤n→(i:Int)+n≤most→
  ∃t,loop (Zpl most) ((i:Int),s)=some (t,true)∧t.Mail=[]∧Fair g t∧t.Diners.map tz=s.Diners.map tz:=fun n=>by
 have done:∀(i:Nat) (s:Scene),s.Mail=[]→loop (Zpl most) ((i:Int),s)=some (s,true):=fun i s he=>by
  rw [Ze4]
  dsimp only [Zpl]
  have e1:decide (0<ln Mail.row s.Mail)=false:=by rw [Z65,he];rfl
  have e2:decide (ln Mail.row s.Mail=0)=true:=by rw [Z65,he];rfl
  have e3:Zol i s false=some (.inr (s,true)):=by
   dsimp only [Zol,Zml]
   rw [Z46,e2];rfl
  rw [e1,e3]
  cases decide ((i:Int)<most)<;>rfl
 induction n with
 | zero=>
   intro i s h hp _
   have:=h.mails hg
   have hM:s.Mail=[]:=List.eq_nil_of_length_eq_zero (by omega)
   exact ⟨s,done i s hM,hM,h,rfl⟩
 | succ n ih=>
   intro i s h hp hi
   cases hM:s.Mail with
   | nil=>exact ⟨s,done i s hM,hM,h,rfl⟩
   | cons m M=>
     have h0:s.Mail[0]?=some m:=by rw [hM];rfl
     obtain ⟨t,e1,e2,e3,e4⟩:=h.step hg hN h0
     obtain ⟨u,u1,u2,u3,u4⟩:=ih (i+1) t e2 (by omega) (by omega)
     refine ⟨u,?_,u2,u3,u4.trans e4⟩
     have hs:=(h.small hg).1
     rw [Ze4]
     dsimp only [Zpl]
     have a0:at_ s.Mail 0=some m:=Z76 (k:=0) h0
     have l0:decide (0<ln Mail.row s.Mail)=true:=by rw [Z65];exact decide_eq_true (by rw [hM,List.length_cons];omega)
     rw [decide_eq_true (by omega),Z36,l0]
     dsimp only [Zol]
     rw [Z36,a0,Option.bind_some,Option.bind_some,s_own14 s (h.inv.few hg) (by omega),Option.bind_some,Z3i s m.From m.To (h.inv.few hg) (by omega),Option.bind_some,e1]
     dsimp only [Znl]
     rw [show decide ((0:Int)=0)=true from rfl,Bool.not_true,Z46,Zb6 (by omega)]
     exact u1
theorem s_quiet {g:Graph} (hg:okG g=true) (hN:g.N≤60) {s:Scene} (h:Fair g s):∃t,Zql s (wr (wr (20*ln Edge.row g.Edges)+20))=some (t,true)∧t.Mail=[]∧Fair g t∧t.Diners.map tz=s.Diners.map tz:=by
 have h3:=(Zs7 hg).2.2.1
 have hp:=(h.small hg).2
 rw [Z65,Z66 (n:=20*(g.Edges.length:Int)) (by omega) (by omega),Z66 (by omega) (by omega)]
 exact s_quietL hg hN (20*(g.Edges.length:Int)+20) (by omega) (phi g s) 0 s h (Nat.le_refl _) (by omega)
def hz (d:Diner):Bool:=decide (d.Phase=1)
def ez (d:Diner):Bool:=decide (d.Phase=2)
theorem s_stops {g:Graph} (hg:okG g=true) (hN:g.N≤60) (n:Nat) (hn:n≤1000) (p:List Int):∀(rest pre:List Int) (s:Scene),p=pre++rest→pre.length+rest.length≤1000→Fair g s→rest.Nodup→(∀a∈rest,0≤a∧a<g.N)→
  (∀(k:Nat) d,s.Diners[k]?=some d→(d.Phase=2↔(k:Int)∈rest))→
  ∃t,loop (Zyl n p) ((pre.length:Int),s)=some (.inl (((n+1:Nat):Int),t))∧Fair g t∧t.Diners.map hz=s.Diners.map hz∧∀d∈t.Diners,d.Phase≠2
 | [],pre,s,hp,hl,h,_,_,hph=>by
   refine ⟨s,?_,h,rfl,fun d hd e=>?_⟩
   ·rw [List.append_nil] at hp
    subst hp
    rw [Ze4]
    dsimp only [Zyl]
    rw [Za6,Z46]
    dsimp only [Zwl]
    rw [Zb6 (by omega)];rfl
   ·obtain ⟨k,hk⟩:=List.mem_iff_getElem?.1 hd
    have:=(hph k d hk).1 e
    simp at this
 | a::rest,pre,s,hp,hl,h,hnd,hr,hph=>by
   obtain ⟨a0,a1⟩:=hr a (by simp)
   obtain ⟨d,hd⟩:=h.inv.get a0 a1
   have hpd:d.Phase=2:=(hph _ d hd).2 (by rw [Int.toNat_of_nonneg a0];simp)
   have e1:=turnS_ok hg hN h.inv 0 a0 hd hpd (by omega) (by omega)
   have e2:=h.turn hg hd (by omega) (q:=0) (by omega) (by omega)
   rw [List.nodup_cons] at hnd
   have hf0:(Z6f ⟨d.ID,0,d.Sides⟩).Phase=0:=by
    rcases Z3l ⟨d.ID,0,d.Sides⟩ with ⟨q,_⟩ | ⟨q,_⟩
    ·exact q
    ·exact absurd q (by show ¬(0:Int)=1;omega)
   have hx:p[pre.length]?=some a:=Zd9 hp
   obtain ⟨t,t1,t2,t3,t4⟩:=s_stops hg hN n hn p rest (pre++[a]) _ (by rw [hp];simp) (by rw [Zg9];rw [List.length_cons] at hl;omega) e2 hnd.2 (fun b hb=>hr b (by simp [hb])) (fun k e he=>by
    dsimp only at he
    rw [List.getElem?_set] at he
    split at he
    ·rename_i hk
     split at he
     ·have hk2:(k:Int)=a:=by omega
      have he2:e=Z6f ⟨d.ID,0,d.Sides⟩:=by simpa using he.symm
      rw [he2,hf0,hk2]
      exact ⟨fun q=>absurd q (by omega),fun q=>absurd q hnd.1⟩
     ·simp at he
    ·rename_i hk
     rw [hph k e he,List.mem_cons]
     exact ⟨fun q=>q.resolve_left (by omega),.inr⟩)
   refine ⟨t,?_,t2,t3.trans (Z4l hd (by unfold hz;rw [hf0,hpd];rfl)),t4⟩
   rw [Ze4]
   dsimp only [Zyl]
   have hs:=(h.small hg).1
   rw [Z96 hx,Z36,Z76 hx,Option.bind_some,s_own14 s (h.inv.few hg) (by omega),Option.bind_some,s_Stop s a (h.inv.few hg) (by omega),Option.bind_some,e1]
   dsimp only [Zxl]
   rw [show decide ((0:Int)=0)=true from rfl,Bool.not_true,Z46,Zb6 (by rw [List.length_cons] at hl;omega)]
   rw [Zg9] at t1
   exact t1
theorem ids_pw {g:Graph} {s:Scene} (h:Inv g s):s.Diners.Pairwise fun x y=>x.ID<y.ID:=by
 rw [List.pairwise_iff_getElem]
 intro i j hi hj hij
 have e1:=h.ids i _ (List.getElem?_eq_getElem hi)
 have e2:=h.ids j _ (List.getElem?_eq_getElem hj)
 omega
theorem phases_nd {g:Graph} {s:Scene} (h:Inv g s) (p:Int):(Ztk s.Diners p).Nodup:=by
 unfold Ztk
 refine List.Pairwise.imp (R:=fun x y=>x<y) (fun hh=>by omega) ?_
 rw [List.pairwise_map]
 exact (ids_pw h).filter _
theorem phases_iff {g:Graph} {s:Scene} (h:Inv g s) (p:Int) (k:Nat) (d:Diner) (hd:s.Diners[k]?=some d):d.Phase=p↔(k:Int)∈Ztk s.Diners p:=by
 refine ⟨fun e=>?_,fun hm=>?_⟩
 ·unfold Ztk
  refine List.mem_map.2 ⟨d,?_,h.ids k d hd⟩
  rw [List.mem_filter]
  exact ⟨List.mem_iff_getElem?.2 ⟨k,hd⟩,decide_eq_true e⟩
 ·obtain ⟨d',h1,h2,h3,h4⟩:=Zxk h hm
  rw [Int.toNat_natCast,hd] at h1
  have:d=d':=by simpa using h1
  rw [this];exact h4
def nz (s:Scene):Nat:=(s.Diners.map tz).count false
theorem Z4m:∀ {l:List Diner},(∀d∈l,LocD d)→(l.map tz).count false=(l.map hz).count true+(l.map ez).count true
 | [],_=>rfl
 | d::l,h=>by
   have ih:=Z4m (l:=l) fun e he=>h e (by simp [he])
   have h1:=h d (by simp)
   have lo:=h1.lo
   have hi:=h1.hi
   simp only [List.map_cons,List.count_cons,ih]
   have:d.Phase=0∨d.Phase=1∨d.Phase=2:=by omega
   rcases this with q | q | q<;>simp [tz,hz,ez,q]<;>omega
theorem Z5m {l:List Diner} {f:Diner→Bool} (h:∀d∈l,f d=false):(l.map f).count true=0:=by
 rw [List.count_eq_zero]
 intro hm
 obtain ⟨d,hd,e⟩:=List.mem_map.1 hm
 rw [h d hd] at e;simp at e
theorem Z6m {l:List Diner} {f:Diner→Bool} (h:∃d∈l,f d=true):1≤(l.map f).count true:=by
 obtain ⟨d,hd,e⟩:=h
 exact List.count_pos_iff.2 (List.mem_map.2 ⟨d,hd,e⟩)
theorem Z7m {l:List Diner} {p:Int}:Ztk l p=[]↔∀d∈l,d.Phase≠p:=by
 unfold Ztk
 rw [List.map_eq_nil_iff,List.filter_eq_nil_iff]
 simp
theorem s_rounds {g:Graph} (hg:okG g=true) (hN:g.N≤60):∀(j n:Nat) (s:Scene),Fair g s→(n:Int)+j=g.N+1→nz s≤j→loop (Z0m g) ((n:Int),s)=some true
 | 0,n,s,h,hj,hz0=>by
   have hsp:=Z4m h.inv.loc
   unfold nz at hz0
   have n1:Ztk s.Diners 1=[]:=Z7m.2 fun d hd e=>by
    have:=Z6m (f:=hz) ⟨d,hd,by unfold hz;exact decide_eq_true e⟩
    omega
   have n2:Ztk s.Diners 2=[]:=Z7m.2 fun d hd e=>by
    have:=Z6m (f:=ez) ⟨d,hd,by unfold ez;exact decide_eq_true e⟩
    omega
   have l0:decide (ln Z45 ([]:List Int)=0)=true:=by rw [Z65];rfl
   rw [Ze4]
   dsimp only [Z0m]
   rw [decide_eq_false (by omega),Z46]
   dsimp only [Zvl]
   rw [Zuk s 1 (h.inv.few hg),Option.bind_some,n1,l0,Z36,Zuk s 2 (h.inv.few hg),Option.bind_some,n2,l0]
   rfl
 | j+1,n,s,h,hj,hz0=>by
   obtain ⟨t,t1,t2,t3,t4⟩:=s_quiet hg hN h
   have hnz:nz t=nz s:=by unfold nz;rw [t4]
   have hsp:=Z4m t3.inv.loc
   have g2:=(Zs7 hg).2.1
   have hlen:=phasesL_len t.Diners 2
   have hl2:=t3.inv.len
   obtain ⟨u,u1,u2,u3,u4⟩:=s_stops hg hN n (by omega) (Ztk t.Diners 2) (Ztk t.Diners 2) [] t rfl (by simp only [List.length_nil];omega) t3 (phases_nd t3.inv 2) (fun a ha=>by
    obtain ⟨d,d1,d2,d3,d4⟩:=Zxk t3.inv ha
    have:=(List.getElem?_eq_some_iff.1 d1).1
    exact ⟨d2,by omega⟩) (phases_iff t3.inv 2)
   have hu:nz u=(t.Diners.map hz).count true:=by
    have:=Z4m u2.inv.loc
    unfold nz
    rw [this,u3,Z5m (f:=ez) fun d hd=>decide_eq_false (u4 d hd),Nat.add_zero]
   have key:(Ztk t.Diners 2=[]→Ztk t.Diners 1=[])∧nz u≤j:=by
    by_cases he:Ztk t.Diners 2=[]
    ·have n2:=Z7m.1 he
     have n1:Ztk t.Diners 1=[]:=Z7m.2 fun d hd e=>by
      obtain ⟨d',h1,h2⟩:=t3.eats hg t2 ⟨d,hd,e⟩
      exact n2 d' h1 h2
     refine ⟨fun _=>n1,?_⟩
     rw [hu,Z5m (f:=hz) fun d hd=>decide_eq_false (Z7m.1 n1 d hd)]
     omega
    ·refine ⟨fun e=>absurd e he,?_⟩
     have:∃d∈t.Diners,ez d=true:=Classical.byContradiction fun hno=>he (Z7m.2 fun d hd e=>hno ⟨d,hd,decide_eq_true e⟩)
     have:=Z6m this
     unfold nz at hu hnz hz0
     unfold nz
     omega
   have ih:=s_rounds hg hN j (n+1) u u2 (by omega) key.2
   have hj3:Zzl n (t,true) (Ztk t.Diners 2) false=some (.inl (((n+1:Nat):Int),u)):=by
    dsimp only [Zzl]
    rw [Z46]
    exact u1
   rw [Ze4]
   dsimp only [Z0m]
   rw [decide_eq_true (by omega),Z36,t1,Option.bind_some]
   dsimp only
   rw [Zuk t 2 (t3.inv.few hg),Option.bind_some,Bool.not_true,Z46,Zuk t 1 (t3.inv.few hg),Option.bind_some,hj3]
   have hd:∀l:List Int,l=[]→decide (0<ln Z45 l)=false:=fun l e=>by rw [e,Z65];rfl
   by_cases he:Ztk t.Diners 2=[]
   ·rw [hd _ (key.1 he),hj3]
    cases decide (ln Z45 (Ztk t.Diners 2)=0)<;>exact ih
   ·have:decide (ln Z45 (Ztk t.Diners 2)=0)=false:=by
     rw [Z65]
     refine decide_eq_false fun e=>he (List.eq_nil_of_length_eq_zero (by omega))
    rw [this]
    exact ih
theorem Z8m (g:Graph) (l:List narthexlaw14_Act):Z2m g l=some true:=by
 have yes:Z1m g l true=some true:=by
  simp only [Z1m,Z36,s_awake14,Option.bind_some]
 simp only [Z2m,s_awake14,Option.bind_some,Bool.not_true,Z46,s_Small,yes]
 by_cases hN:g.N≤10
 ·cases hg:okG g with
  | false=>simp
  | true=>
    rw [decide_eq_true hN,Z65]
    by_cases hl:(80:Int)<l.length
    ·rw [decide_eq_true hl];exact yes
    ·rw [decide_eq_false hl]
     simp only [Bool.and_self,Bool.not_true,Z46,Z1m]
     obtain ⟨h1,h2,_⟩:=s_run14 hg (by omega) (J:=Fair g) (fun _ h=>h.inv) (Fair.first hg) (fun s k a b h he=>h.act hg (by omega) k a b he) l (by omega) (fun z=>Zjl z) (fun s h hM=>rfl)
     rw [h1,Option.bind_some]
     dsimp only
     rw [Bool.not_true,Z46]
     have h0:=(Zs7 hg).1
     have hc:nz (Zwk g l)≤(Zwk g l).Diners.length:=by
      unfold nz
      have:=List.count_le_length (l:=(Zwk g l).Diners.map tz) (a:=false)
      rwa [List.length_map] at this
     have hlen:=h2.inv.len
     exact s_rounds hg (by omega) (g.N.toNat+1) 0 _ h2 (by omega) (by omega)
 ·rw [decide_eq_false hN];simp
end NX
end Go.Proofs.Ytadebhbiglmodaa
