/-
  The function narthex/narthexref03.Same: its code compiled, a model, and that the code answers as the model. Written by a program of ours (lb.py). No statement of the seat is proved here.
-/
import Derived.KernelRfl
import Derived.Shelf.Sort.Plain
import Derived.Shelf.Slices.In.SortNone
import Derived.Sort.OwnSortedInts
import Derived.Test.YtadebhbiglmodaaQTableFair1
namespace Go.Proofs.Ytadebhbiglmodaa
namespace NX
open Go
set_option maxRecDepth 100000
set_option maxHeartbeats 4000000
def Z98:EC:=.seq (.seq (.reg [(Qa 20 (.mv (.t 5))),(Qa 21 (.fld 1 (.t 2))),(Qa 22 (.load (.t 21))),(Qa 23 (.len (.t 22))),(Qa 24 (.bin .lss (.t 20) (.t 23)))]) (.ite (.t 24) (.skip) (.exit 0))) (.seq (.blk 1 (.seq (.drw [(Qa 27 (.fld 1 (.t 2))),(Qa 28 (.load (.t 27))),(Qa 29 (.mv (.t 5))),(Qa 30 (.idx 2 (.t 28) (.t 29))),(Qa 31 (.loadA 2 (.t 30))),(Qa 32 (.fld 1 (.t 3))),(Qa 33 (.load (.t 32))),(Qa 34 (.mv (.t 5))),(Qa 35 (.idx 2 (.t 33) (.t 34))),(Qa 36 (.loadA 2 (.t 35))),(Qa 37 (.eqs true [true,true] (.t 31) (.t 36)))] [[],[0],[],[1,2],[3],[],[5],[],[6,7],[8],[4,9]] [[1],[0,3],[3],[1,2,4],[3,10],[6],[5,8],[8],[6,7,9],[8,10],[4,9]]) (.ite (.t 37) (.seq (.reg [(Qa 4 (.mv (.c .ff)))]) (.ret)) (.skip)))) (.reg [(Qa 25 (.mv (.t 5))),(Qa 26 (.bin .add (.t 25) (.c (.iv 1)))),(Qa 5 (.mv (.t 26)))]))
def e26:EC:=.seq (.reg [(Qa 2 (.box 24 2 (.t 0))),(Qa 3 (.box 24 2 (.t 1))),(Qa 4 (.mv (.c .ff)))]) (.seq (.seq (.reg [(Qa 6 (.fld 0 (.t 2))),(Qa 7 (.load (.t 6))),(Qa 8 (.fld 0 (.t 3))),(Qa 9 (.load (.t 8))),(Qa 10 (.bin .neq (.t 7) (.t 9))),(Qa 11 (.mv (.t 10))),(Qg 12 11 false (.fld 1 (.t 2))),(Qg 13 11 false (.load (.t 12))),(Qg 14 11 false (.len (.t 13))),(Qg 15 11 false (.fld 1 (.t 3))),(Qg 16 11 false (.load (.t 15))),(Qg 17 11 false (.len (.t 16))),(Qg 18 11 false (.bin .neq (.t 14) (.t 17))),(Qa 19 (.pick (.t 11) (.c .tt) (.t 18)))]) (.ite (.t 19) (.seq (.reg [(Qa 4 (.mv (.c .ff)))]) (.ret)) (.skip))) (.seq (.seq (.reg [(Qa 5 (.mv (.c (.iv 0))))]) (.blk 0 (.loop Z98))) (.seq (.reg [(Qa 4 (.mv (.c .tt)))]) (.ret))))
theorem ok26:FnOK Try.prog 26 Try.f26 e26 [.t 4] 2 36:=⟨by kernel_rfl,⟨_,rfl,by kernel_rfl⟩,by kernel_rfl,by kernel_rfl⟩
noncomputable def Za8:Unit→Option Bool
| ()=>
 some true
noncomputable def Zb8 (x1:Graph) (x2:Graph):Int→Option (Int ⊕ Bool)
| x7=>
 ifb (decide (x7<(ln Edge.row x1.Edges))) (
 (at_ x1.Edges x7).bind fun x8=>
 (at_ x2.Edges x7).bind fun x9=>
 ifb (!(decide (x8.A=x9.A)&&(decide (x8.B=x9.B)&&true))) (
 Option.map Sum.inr (some false)) (
 some (.inl (wr (x7+1))))) (
 Option.map Sum.inr (Za8 ()))
noncomputable def Zc8 (x1:Graph) (x2:Graph):Bool→Option Bool
| x3=>
 ifb x3 (
 some false) (
 loop (Zb8 x1 x2) 0)
noncomputable def Zd8 (x1:Graph) (x2:Graph):Option Bool:=
 ifb (!decide (x1.N=x2.N)) (
 (Zc8 x1 x2) true) (
 (Zc8 x1 x2) (!decide ((ln Edge.row x1.Edges)=(ln Edge.row x2.Edges))))
theorem k_narthexref03_Same (x1:Graph) (x2:Graph) (r:Bool) (h:Zd8 x1 x2=some r):Zq2 Try.prog 26 [.agg (Graph.row x1),.agg (Graph.row x2)] (.bv r):=by
 refine Zu2 ok26 rfl rfl fun w0 H0=>?_
 rw [Zd8] at h
 refine Zl2 15 ?_;dsimp only [e26,Z98,go_sem];refine ⟨by simp,?_⟩;refine Zl4 (fun (x3:Bool)=>(⟨(.any :: .any :: .ptr 0 0 :: .ptr 1 0::an 15 (.bv x3::an 18 [])),[some ⟨24,[.iv x1.N,.sl 2 (List.map Edge.row x1.Edges)]⟩,some ⟨24,[.iv x2.N,.sl 2 (List.map Edge.row x2.Edges)]⟩],[]⟩:St)) (Zc8 x1 x2) r ?_ fun J1=>?_
 ·intro x3 h;rw [Zc8] at h;(try dsimp only);refine Zn4 h rfl (fun _ h=>?_) fun _ h=>?_
  ·refine Zl2 4 ?_;dsimp only [e26,Z98,go_sem];refine ⟨by simp,?_⟩;exact Zx4 (res:=fun (r:Bool)=>.bv r) ok26 h
  ·refine Zl2 6 ?_;dsimp only [e26,Z98,go_sem];refine ⟨by simp,?_⟩;refine Zl4 (fun (_:Unit)=>(⟨(an 38 []),[],[]⟩:St)) Za8 r ?_ fun J2=>?_
   ·rintro ⟨⟩ h;rw [Za8] at h;(try dsimp only);refine Zl2 4 ?_;dsimp only [e26,Z98,go_sem];refine ⟨by simp,?_⟩;exact Zx4 (res:=fun (r:Bool)=>.bv r) ok26 h
   ·refine Zl2 1 ?_;dsimp only [e26,Z98,go_sem];refine ⟨by simp,?_⟩;refine Zm4 h (fun (x7:Int)=>(⟨(.any :: .any :: .ptr 0 0 :: .ptr 1 0 :: .any :: .iv x7::an 32 []),[some ⟨24,[.iv x1.N,.sl 2 (List.map Edge.row x1.Edges)]⟩,some ⟨24,[.iv x2.N,.sl 2 (List.map Edge.row x2.Edges)]⟩],[]⟩:St)) (by simp [go_sem]) (by intro x7;first | rfl | simp [go_sem]) ?_;rintro n1 x7 y1 h hin1 hout1;rw [Zb8] at h;(try dsimp only);refine Zl2 9 ?_;dsimp only [e26,Z98,go_sem];refine ⟨by simp,?_⟩;refine Zn4 h rfl (fun _ h=>?_) fun _ h=>?_
    ·refine Zl2 4 ?_;dsimp only [e26,Z98,go_sem];refine ⟨by simp,?_⟩;refine Zh3 (by kernel_rfl) fun all hall hs hnap haf=>?_;dsimp only [go_sem]
     refine Zi5 hall hs haf hnap 6 5 [true,true,true,false,false,true,true,true,false,false,false] (⟨(.any :: .any :: .ptr 0 0 :: .ptr 1 0 :: .any :: .iv x7::an 14 (.iv x7 :: .ptr 0 1 :: .sl 2 (List.map Edge.row x1.Edges) :: .iv (ln Edge.row x1.Edges) :: .bv (decide (x7<(ln Edge.row x1.Edges))) :: .any :: .any :: .ptr 0 1 :: .sl 2 (List.map Edge.row x1.Edges) :: .iv x7 :: .any :: .any :: .ptr 1 1 :: .sl 2 (List.map Edge.row x2.Edges) :: .iv x7::an 3 [])),[some ⟨24,[.iv x1.N,.sl 2 (List.map Edge.row x1.Edges)]⟩,some ⟨24,[.iv x2.N,.sl 2 (List.map Edge.row x2.Edges)]⟩],[]⟩:St) (by kernel_rfl) ?_
     obtain ⟨x8,ex8,h⟩:=Option.bind_eq_some_iff.1 h;refine Zr4 hall hs haf hnap 3 Edge.row ex8 rfl rfl trivial rfl rfl rfl rfl ?_;refine Zh5 hall hs haf hnap 1 3 ?_;dsimp only [go_sem];refine ⟨by simp,?_⟩;obtain ⟨x9,ex9,h⟩:=Option.bind_eq_some_iff.1 h;refine Zr4 hall hs haf hnap 8 Edge.row ex9 rfl rfl trivial rfl rfl rfl rfl ?_;refine Zh5 hall hs haf hnap 2 0 ?_;dsimp only [go_sem];refine ⟨by simp,?_⟩;refine Zs3 rfl ?_ _;refine Zn4 h rfl (fun _ h=>?_) fun _ h=>?_
     ·refine Zl2 4 ?_;dsimp only [e26,Z98,go_sem];refine ⟨by simp,?_⟩;exact Zx4 (res:=fun (r:Bool)=>.bv r) ok26 (Zk4 h hout1)
     ·refine Zl2 7 ?_;dsimp only [e26,Z98,go_sem];refine ⟨by simp,?_⟩;exact Zy4 h hin1
    ·refine Zl2 1 ?_;dsimp only [e26,Z98,go_sem];refine ⟨by simp,?_⟩;exact Zz4 J2 (s:=()) (Zk4 h hout1)
 ·refine Zw4 11 h rfl (fun _ h=>?_) fun _ h=>?_
  ·dsimp only [go_sem];refine Zl2 9 ?_;dsimp only [e26,Z98,go_sem];refine ⟨by simp,?_⟩;exact Zz4 J1 (s:=true) h
  ·dsimp only [go_sem];refine Zl2 9 ?_;dsimp only [e26,Z98,go_sem];refine ⟨by simp,?_⟩;exact Zz4 J1 (s:=!decide ((ln Edge.row x1.Edges)=(ln Edge.row x2.Edges))) h
set_option maxRecDepth 100000
set_option maxHeartbeats 4000000
def Ze8:EC:=.seq (.seq (.reg [(Qa 27 (.mv (.t 5))),(Qa 28 (.fld 2 (.t 2))),(Qa 29 (.load (.t 28))),(Qa 30 (.len (.t 29))),(Qa 31 (.bin .lss (.t 27) (.t 30)))]) (.ite (.t 31) (.skip) (.exit 0))) (.seq (.blk 1 (.seq (.drw [(Qa 34 (.fld 2 (.t 2))),(Qa 35 (.load (.t 34))),(Qa 36 (.mv (.t 5))),(Qa 37 (.idx 8 (.t 35) (.t 36))),(Qa 38 (.loadA 8 (.t 37))),(Qa 39 (.fld 2 (.t 3))),(Qa 40 (.load (.t 39))),(Qa 41 (.mv (.t 5))),(Qa 42 (.idx 8 (.t 40) (.t 41))),(Qa 43 (.loadA 8 (.t 42))),(Qa 44 (.eqs true [true,true,true,false,false,false,false,false] (.t 38) (.t 43)))] [[],[0],[],[1,2],[3],[],[5],[],[6,7],[8],[4,9]] [[1],[0,3],[3],[1,2,4],[3,10],[6],[5,8],[8],[6,7,9],[8,10],[4,9]]) (.ite (.t 44) (.seq (.reg [(Qa 4 (.mv (.c .ff)))]) (.ret)) (.skip)))) (.reg [(Qa 32 (.mv (.t 5))),(Qa 33 (.bin .add (.t 32) (.c (.iv 1)))),(Qa 5 (.mv (.t 33)))]))
def e48:EC:=.seq (.reg [(Qa 2 (.box 39 3 (.t 0))),(Qa 3 (.box 39 3 (.t 1))),(Qa 4 (.mv (.c .ff)))]) (.seq (.seq (.reg [(Qa 6 (.fld 0 (.t 2))),(Qa 7 (.load (.t 6))),(Qa 8 (.fld 0 (.t 3))),(Qa 9 (.load (.t 8))),(Qa 10 (.bin .neq (.t 7) (.t 9))),(Qa 11 (.mv (.t 10))),(Qg 12 11 false (.fld 1 (.t 2))),(Qg 13 11 false (.load (.t 12))),(Qg 14 11 false (.fld 1 (.t 3))),(Qg 15 11 false (.load (.t 14))),(Qg 16 11 false (.bin .neq (.t 13) (.t 15))),(Qa 17 (.pick (.t 11) (.c .tt) (.t 16))),(Qa 18 (.mv (.t 17))),(Qg 19 18 false (.fld 2 (.t 2))),(Qg 20 18 false (.load (.t 19))),(Qg 21 18 false (.len (.t 20))),(Qg 22 18 false (.fld 2 (.t 3))),(Qg 23 18 false (.load (.t 22))),(Qg 24 18 false (.len (.t 23))),(Qg 25 18 false (.bin .neq (.t 21) (.t 24))),(Qa 26 (.pick (.t 18) (.c .tt) (.t 25)))]) (.ite (.t 26) (.seq (.reg [(Qa 4 (.mv (.c .ff)))]) (.ret)) (.skip))) (.seq (.seq (.reg [(Qa 5 (.mv (.c (.iv 0))))]) (.blk 0 (.loop Ze8))) (.seq (.reg [(Qa 4 (.mv (.c .tt)))]) (.ret))))
theorem ok48:FnOK Try.prog 48 Try.f48 e48 [.t 4] 2 43:=⟨by kernel_rfl,⟨_,rfl,by kernel_rfl⟩,by kernel_rfl,by kernel_rfl⟩
noncomputable def Zf8:Unit→Option Bool
| ()=>
 some true
noncomputable def Zg8 (x1:Diner) (x2:Diner):Int→Option (Int ⊕ Bool)
| x7=>
 ifb (decide (x7<(ln Side.row x1.Sides))) (
 (at_ x1.Sides x7).bind fun x8=>
 (at_ x2.Sides x7).bind fun x9=>
 ifb (!(decide (x8.Peer=x9.Peer)&&(decide (x8.Epoch=x9.Epoch)&&(decide (x8.State=x9.State)&&((x8.Fork==x9.Fork)&&((x8.Dirty==x9.Dirty)&&((x8.Token==x9.Token)&&((x8.Bottle==x9.Bottle)&&((x8.Ask==x9.Ask)&&true))))))))) (
 Option.map Sum.inr (some false)) (
 some (.inl (wr (x7+1))))) (
 Option.map Sum.inr (Zf8 ()))
noncomputable def Zh8 (x1:Diner) (x2:Diner):Bool→Option Bool
| x3=>
 ifb x3 (
 some false) (
 loop (Zg8 x1 x2) 0)
noncomputable def Zi8 (x1:Diner) (x2:Diner):Option Bool:=
 ifb (!decide (x1.ID=x2.ID)) (
 (Zh8 x1 x2) true) (
 ifb (!decide (x1.Phase=x2.Phase)) (
 (Zh8 x1 x2) true) (
 (Zh8 x1 x2) (!decide ((ln Side.row x1.Sides)=(ln Side.row x2.Sides)))))
theorem Zj8 (x1:Diner) (x2:Diner) (r:Bool) (h:Zi8 x1 x2=some r):Zq2 Try.prog 48 [.agg (Diner.row x1),.agg (Diner.row x2)] (.bv r):=by
 refine Zu2 ok48 rfl rfl fun w0 H0=>?_
 rw [Zi8] at h
 refine Zl2 15 ?_;dsimp only [e48,Ze8,go_sem];refine ⟨by simp,?_⟩;refine Zl4 (fun (x3:Bool)=>(⟨(.any :: .any :: .ptr 0 0 :: .ptr 1 0::an 22 (.bv x3::an 18 [])),[some ⟨39,[.iv x1.ID,.iv x1.Phase,.sl 8 (List.map Side.row x1.Sides)]⟩,some ⟨39,[.iv x2.ID,.iv x2.Phase,.sl 8 (List.map Side.row x2.Sides)]⟩],[]⟩:St)) (Zh8 x1 x2) r ?_ fun J1=>?_
 ·intro x3 h;rw [Zh8] at h;(try dsimp only);refine Zn4 h rfl (fun _ h=>?_) fun _ h=>?_
  ·refine Zl2 4 ?_;dsimp only [e48,Ze8,go_sem];refine ⟨by simp,?_⟩;exact Zx4 (res:=fun (r:Bool)=>.bv r) ok48 h
  ·refine Zl2 6 ?_;dsimp only [e48,Ze8,go_sem];refine ⟨by simp,?_⟩;refine Zl4 (fun (_:Unit)=>(⟨(an 45 []),[],[]⟩:St)) Zf8 r ?_ fun J2=>?_
   ·rintro ⟨⟩ h;rw [Zf8] at h;(try dsimp only);refine Zl2 4 ?_;dsimp only [e48,Ze8,go_sem];refine ⟨by simp,?_⟩;exact Zx4 (res:=fun (r:Bool)=>.bv r) ok48 h
   ·refine Zl2 1 ?_;dsimp only [e48,Ze8,go_sem];refine ⟨by simp,?_⟩;refine Zm4 h (fun (x7:Int)=>(⟨(.any :: .any :: .ptr 0 0 :: .ptr 1 0 :: .any :: .iv x7::an 39 []),[some ⟨39,[.iv x1.ID,.iv x1.Phase,.sl 8 (List.map Side.row x1.Sides)]⟩,some ⟨39,[.iv x2.ID,.iv x2.Phase,.sl 8 (List.map Side.row x2.Sides)]⟩],[]⟩:St)) (by simp [go_sem]) (by intro x7;first | rfl | simp [go_sem]) ?_;rintro n1 x7 y1 h hin1 hout1;rw [Zg8] at h;(try dsimp only);refine Zl2 9 ?_;dsimp only [e48,Ze8,go_sem];refine ⟨by simp,?_⟩
    refine Zn4 h rfl (fun _ h=>?_) fun _ h=>?_
    ·refine Zl2 4 ?_;dsimp only [e48,Ze8,go_sem];refine ⟨by simp,?_⟩;refine Zh3 (by kernel_rfl) fun all hall hs hnap haf=>?_;dsimp only [go_sem]
     refine Zi5 hall hs haf hnap 6 5 [true,true,true,false,false,true,true,true,false,false,false] (⟨(.any :: .any :: .ptr 0 0 :: .ptr 1 0 :: .any :: .iv x7::an 21 (.iv x7 :: .ptr 0 2 :: .sl 8 (List.map Side.row x1.Sides) :: .iv (ln Side.row x1.Sides) :: .bv (decide (x7<(ln Side.row x1.Sides))) :: .any :: .any :: .ptr 0 2 :: .sl 8 (List.map Side.row x1.Sides) :: .iv x7 :: .any :: .any :: .ptr 1 2 :: .sl 8 (List.map Side.row x2.Sides) :: .iv x7::an 3 [])),[some ⟨39,[.iv x1.ID,.iv x1.Phase,.sl 8 (List.map Side.row x1.Sides)]⟩,some ⟨39,[.iv x2.ID,.iv x2.Phase,.sl 8 (List.map Side.row x2.Sides)]⟩],[]⟩:St) (by kernel_rfl) ?_
     obtain ⟨x8,ex8,h⟩:=Option.bind_eq_some_iff.1 h;refine Zr4 hall hs haf hnap 3 Side.row ex8 rfl rfl trivial rfl rfl rfl rfl ?_;refine Zh5 hall hs haf hnap 1 3 ?_;dsimp only [go_sem];refine ⟨by simp,?_⟩;obtain ⟨x9,ex9,h⟩:=Option.bind_eq_some_iff.1 h;refine Zr4 hall hs haf hnap 8 Side.row ex9 rfl rfl trivial rfl rfl rfl rfl ?_;refine Zh5 hall hs haf hnap 2 0 ?_;dsimp only [go_sem];refine ⟨by simp,?_⟩;refine Zs3 rfl ?_ _;refine Zn4 h rfl (fun _ h=>?_) fun _ h=>?_
     ·refine Zl2 4 ?_;dsimp only [e48,Ze8,go_sem];refine ⟨by simp,?_⟩;exact Zx4 (res:=fun (r:Bool)=>.bv r) ok48 (Zk4 h hout1)
     ·refine Zl2 7 ?_;dsimp only [e48,Ze8,go_sem];refine ⟨by simp,?_⟩;exact Zy4 h hin1
    ·refine Zl2 1 ?_;dsimp only [e48,Ze8,go_sem];refine ⟨by simp,?_⟩;exact Zz4 J2 (s:=()) (Zk4 h hout1)
 ·refine Zw4 11 h rfl (fun _ h=>?_) fun _ h=>?_
  ·dsimp only [go_sem];refine Zl2 16 ?_;dsimp only [e48,Ze8,go_sem];refine ⟨by simp,?_⟩;exact Zz4 J1 (s:=true) h
  ·dsimp only [go_sem];refine Zl2 7 ?_;dsimp only [e48,Ze8,go_sem];refine ⟨by simp,?_⟩;refine Zw4 18 h rfl (fun _ h=>?_) fun _ h=>?_
   ·dsimp only [go_sem];refine Zl2 9 ?_;dsimp only [e48,Ze8,go_sem];refine ⟨by simp,?_⟩;exact Zz4 J1 (s:=true) h
   ·dsimp only [go_sem];refine Zl2 9 ?_;dsimp only [e48,Ze8,go_sem];refine ⟨by simp,?_⟩;exact Zz4 J1 (s:=!decide ((ln Side.row x1.Sides)=(ln Side.row x2.Sides))) h
set_option maxRecDepth 100000
set_option maxHeartbeats 4000000
def Zk8:EC:=.seq (.seq (.reg [(Qa 11 (.mv (.t 5))),(Qa 12 (.mv (.t 0))),(Qa 13 (.len (.t 12))),(Qa 14 (.bin .lss (.t 11) (.t 13)))]) (.ite (.t 14) (.skip) (.exit 0))) (.seq (.blk 1 (.seq (.drw [(Qa 17 (.mv (.t 0))),(Qa 18 (.mv (.t 5))),(Qa 19 (.idx 3 (.t 17) (.t 18))),(Qa 20 (.loadA 3 (.t 19))),(Qa 21 (.mv (.t 1))),(Qa 22 (.mv (.t 5))),(Qa 23 (.idx 3 (.t 21) (.t 22))),(Qa 24 (.loadA 3 (.t 23))),(Qa 25 (.call 48 [(.t 20),(.t 24)])),(Qa 26 (.not (.t 25)))] [[],[],[0,1],[2],[],[],[4,5],[6],[3,7],[8]] [[2],[2],[0,1,3],[2,8],[6],[6],[4,5,7],[6,8],[3,7,9],[8]]) (.ite (.t 26) (.seq (.reg [(Qa 4 (.mv (.c .ff)))]) (.ret)) (.skip)))) (.reg [(Qa 15 (.mv (.t 5))),(Qa 16 (.bin .add (.t 15) (.c (.iv 1)))),(Qa 5 (.mv (.t 16)))]))
def e18:EC:=.seq (.reg [(Qa 4 (.mv (.c .ff)))]) (.seq (.seq (.reg [(Qa 6 (.mv (.t 0))),(Qa 7 (.len (.t 6))),(Qa 8 (.mv (.t 1))),(Qa 9 (.len (.t 8))),(Qa 10 (.bin .neq (.t 7) (.t 9)))]) (.ite (.t 10) (.seq (.reg [(Qa 4 (.mv (.c .ff)))]) (.ret)) (.skip))) (.seq (.seq (.reg [(Qa 5 (.mv (.c (.iv 0))))]) (.blk 0 (.loop Zk8))) (.seq (.reg [(Qa 4 (.mv (.c .tt)))]) (.ret))))
theorem ok18:FnOK Try.prog 18 Try.f18 e18 [.t 4] 2 25:=⟨by kernel_rfl,⟨_,rfl,by kernel_rfl⟩,by kernel_rfl,by kernel_rfl⟩
noncomputable def Zl8:Unit→Option Bool
| ()=>
 some true
noncomputable def Zm8 (x1:(List Diner)) (x2:(List Diner)):Int→Option (Int ⊕ Bool)
| x7=>
 ifb (decide (x7<(ln Diner.row x1))) (
 (at_ x1 x7).bind fun x8=>
 (at_ x2 x7).bind fun x9=>
 (Zi8 x8 x9).bind fun x10=>
 ifb (!x10) (
 Option.map Sum.inr (some false)) (
 some (.inl (wr (x7+1))))) (
 Option.map Sum.inr (Zl8 ()))
noncomputable def Zn8 (x1:(List Diner)) (x2:(List Diner)):Option Bool:=
 ifb (!decide ((ln Diner.row x1)=(ln Diner.row x2))) (
 some false) (
 loop (Zm8 x1 x2) 0)
theorem Zo8 (x1:(List Diner)) (x2:(List Diner)) (r:Bool) (h:Zn8 x1 x2=some r):Zq2 Try.prog 18 [.sl 3 (List.map Diner.row x1),.sl 3 (List.map Diner.row x2)] (.bv r):=by
 refine Zu2 ok18 rfl rfl fun w0 H0=>?_
 rw [Zn8] at h
 refine Zl2 13 ?_;dsimp only [e18,Zk8,go_sem];refine ⟨by simp,?_⟩;refine Zn4 h rfl (fun _ h=>?_) fun _ h=>?_
 ·refine Zl2 4 ?_;dsimp only [e18,Zk8,go_sem];refine ⟨by simp,?_⟩;exact Zx4 (res:=fun (r:Bool)=>.bv r) ok18 h
 ·refine Zl2 6 ?_;dsimp only [e18,Zk8,go_sem];refine ⟨by simp,?_⟩;refine Zl4 (fun (_:Unit)=>(⟨(an 27 []),[],[]⟩:St)) Zl8 r ?_ fun J1=>?_
  ·rintro ⟨⟩ h;rw [Zl8] at h;(try dsimp only);refine Zl2 4 ?_;dsimp only [e18,Zk8,go_sem];refine ⟨by simp,?_⟩;exact Zx4 (res:=fun (r:Bool)=>.bv r) ok18 h
  ·refine Zl2 1 ?_;dsimp only [e18,Zk8,go_sem];refine ⟨by simp,?_⟩;refine Zm4 h (fun (x7:Int)=>(⟨(.sl 3 (List.map Diner.row x1) :: .sl 3 (List.map Diner.row x2)::an 3 (.iv x7::an 21 [])),[],[]⟩:St)) (by simp [go_sem]) (by intro x7;first | rfl | simp [go_sem]) ?_;rintro n1 x7 y1 h hin1 hout1;rw [Zm8] at h;(try dsimp only);refine Zl2 8 ?_;dsimp only [e18,Zk8,go_sem];refine ⟨by simp,?_⟩;refine Zn4 h rfl (fun _ h=>?_) fun _ h=>?_
   ·refine Zl2 4 ?_;dsimp only [e18,Zk8,go_sem];refine ⟨by simp,?_⟩;refine Zh3 (by kernel_rfl) fun all hall hs hnap haf=>?_;dsimp only [go_sem];refine Zh5 hall hs haf hnap 4 6 ?_;dsimp only [go_sem];refine ⟨by simp,?_⟩;obtain ⟨x8,ex8,h⟩:=Option.bind_eq_some_iff.1 h;refine Zr4 hall hs haf hnap 2 Diner.row ex8 rfl rfl trivial rfl rfl rfl rfl ?_;refine Zh5 hall hs haf hnap 1 4 ?_;dsimp only [go_sem];refine ⟨by simp,?_⟩;obtain ⟨x9,ex9,h⟩:=Option.bind_eq_some_iff.1 h;refine Zr4 hall hs haf hnap 6 Diner.row ex9 rfl rfl trivial rfl rfl rfl rfl ?_
    refine Zh5 hall hs haf hnap 1 2 ?_;dsimp only [go_sem];refine ⟨by simp,?_⟩;refine Zt3 8 rfl ?_;obtain ⟨x10,ex10,h⟩:=Option.bind_eq_some_iff.1 h;refine Zz3 hall rfl trivial (Zj8 x8 x9 _ ex10) (h:=?_);dsimp only [go_sem];refine Zh5 hall hs haf hnap 1 0 ?_;dsimp only [go_sem];refine ⟨by simp,?_⟩;refine Zs3 rfl ?_ _;refine Zn4 h rfl (fun _ h=>?_) fun _ h=>?_
    ·refine Zl2 4 ?_;dsimp only [e18,Zk8,go_sem];refine ⟨by simp,?_⟩;exact Zx4 (res:=fun (r:Bool)=>.bv r) ok18 (Zk4 h hout1)
    ·refine Zl2 7 ?_;dsimp only [e18,Zk8,go_sem];refine ⟨by simp,?_⟩;exact Zy4 h hin1
   ·refine Zl2 1 ?_;dsimp only [e18,Zk8,go_sem];refine ⟨by simp,?_⟩;exact Zz4 J1 (s:=()) (Zk4 h hout1)
set_option maxRecDepth 100000
set_option maxHeartbeats 4000000
def e56:EC:=.seq (.reg [(Qa 2 (.box 49 8 (.t 0))),(Qa 3 (.mv (.c .ff)))]) (.seq (.reg [(Qa 4 (.fld 0 (.t 2))),(Qa 5 (.load (.t 4))),(Qa 6 (.load (.t 1))),(Qa 7 (.bin .eql (.t 5) (.t 6))),(Qa 3 (.mv (.t 7)))]) (.ret))
theorem ok56:FnOK Try.prog 56 Try.f56 e56 [.t 3] 2 6:=⟨by kernel_rfl,⟨_,rfl,by kernel_rfl⟩,by kernel_rfl,by kernel_rfl⟩
noncomputable def Zp8 (x1:Side) (x2:Int):Option Bool:=
 some (decide (x1.Peer=x2))
theorem Zq8 (x1:Side) (x2:Int) (r:Bool) (h:Zp8 x1 x2=some r):Zq2 Try.prog 56 [.agg (Side.row x1),.elt (Z45 x2) 0] (.bv r):=by
 refine Zu2 ok56 rfl rfl fun w0 H0=>?_
 rw [Zp8] at h
 refine Zl2 13 ?_;dsimp only [e56,go_sem];refine ⟨by simp,?_⟩;exact Zx4 (res:=fun (r:Bool)=>.bv r) ok56 h
set_option maxRecDepth 100000
set_option maxHeartbeats 4000000
def e24:EC:=.seq (.reg [(Qa 2 (.box 39 3 (.t 0))),(Qa 3 (.box 3 1 (.t 1))),(Qa 4 (.alloc 49 [.iv 0,.iv 0,.iv 0,.ff,.ff,.ff,.ff,.ff])),(Qa 5 (.mv (.c .ff)))]) (.seq (.reg [(Qa 7 (.fld 2 (.t 2))),(Qa 8 (.load (.t 7))),(Qa 9 (.mkf 56 [(.t 3)])),(Qa 10 (.call 55 [(.t 8),(.t 9)])),(Qa 6 (.mv (.t 10)))]) (.seq (.seq (.reg [(Qa 11 (.mv (.t 6))),(Qa 12 (.bin .lss (.t 11) (.c (.iv 0))))]) (.ite (.t 12) (.seq (.reg [(Qa 13 (.build [.iv 0,.iv 0,.iv 0,.ff,.ff,.ff,.ff,.ff] [])),(Qb (.store 8 (.t 4) (.t 13))),(Qa 5 (.mv (.c .ff)))]) (.ret)) (.skip))) (.seq (.reg [(Qa 14 (.fld 2 (.t 2))),(Qa 15 (.load (.t 14))),(Qa 16 (.mv (.t 6))),(Qa 17 (.idx 8 (.t 15) (.t 16))),(Qa 18 (.loadA 8 (.t 17))),(Qb (.store 8 (.t 4) (.t 18))),(Qa 5 (.mv (.c .tt)))]) (.ret))))
theorem ok24:FnOK Try.prog 24 Try.f24 e24 [.c 4 (some 8),.t 5] 2 17:=⟨by kernel_rfl,⟨_,rfl,by kernel_rfl⟩,by kernel_rfl,by kernel_rfl⟩
noncomputable def Zr8 (x1:Diner) (x2:Int):Option (Side×Bool):=
 (Zt6 x1.Sides ((fun z=>Zp8 z x2))).bind fun x3=>
 ifb (decide (x3<0)) (
 some ((Side.mk 0 0 0 false false false false false),false)) (
 (at_ x1.Sides x3).bind fun x4=>
 some (x4,true))
theorem Zs8 (x1:Diner) (x2:Int) (r:(Side×Bool)) (h:Zr8 x1 x2=some r):Zq2 Try.prog 24 [.agg (Diner.row x1),.iv x2] (.tup [.agg (Side.row r.1),.bv r.2]):=by
 refine Zu2 ok24 rfl rfl fun w0 H0=>?_
 rw [Zr8] at h
 refine Zl2 12 ?_;dsimp only [e24,go_sem];refine ⟨by simp,?_⟩;obtain ⟨x3,ex3,h⟩:=Option.bind_eq_some_iff.1 h;refine Z25 trivial ((Z05.refl _).block 1 rfl rfl) (Zu6 x1.Sides _ _ ((fun z=>Zp8 z x2)) ⟨by kernel_rfl,rfl,fun z r hz=>Zq8 z x2 r hz⟩ _ ex3) (h:=?_);refine Zl2 8 ?_;dsimp only [e24,go_sem];refine ⟨by simp,?_⟩;refine Zn4 h rfl (fun _ h=>?_) fun _ h=>?_
 ·refine Zl2 6 ?_;dsimp only [e24,go_sem];refine ⟨by simp,?_⟩;exact Zx4 (res:=fun (r:(Side×Bool))=>.tup [.agg (Side.row r.1),.bv r.2]) ok24 h
 ·refine Zl2 6 ?_;dsimp only [e24,go_sem];refine ⟨by simp,?_⟩;obtain ⟨x4,ex4,h⟩:=Option.bind_eq_some_iff.1 h;refine Zq4 Side.row ex4 trivial rfl rfl rfl ?_;refine Zl2 4 ?_;dsimp only [e24,go_sem];refine ⟨by simp,?_⟩;exact Zx4 (res:=fun (r:(Side×Bool))=>.tup [.agg (Side.row r.1),.bv r.2]) ok24 h
set_option maxRecDepth 100000
set_option maxHeartbeats 4000000
def Zt8:EC:=.seq (.seq (.reg [(Qa 7 (.mv (.t 6))),(Qa 8 (.fld 2 (.t 2))),(Qa 9 (.load (.t 8))),(Qa 10 (.len (.t 9))),(Qa 11 (.bin .lss (.t 7) (.t 10)))]) (.ite (.t 11) (.skip) (.exit 0))) (.seq (.blk 1 (.seq (.reg [(Qa 14 (.fld 2 (.t 2))),(Qa 15 (.load (.t 14))),(Qa 16 (.mv (.t 6))),(Qa 17 (.idx 8 (.t 15) (.t 16))),(Qa 18 (.fld 0 (.t 17))),(Qa 19 (.load (.t 18))),(Qa 20 (.mv (.t 1))),(Qa 21 (.bin .eql (.t 19) (.t 20)))]) (.ite (.t 21) (.seq (.reg [(Qa 22 (.fld 2 (.t 2))),(Qa 23 (.load (.t 22))),(Qa 24 (.mv (.t 6))),(Qa 25 (.idx 8 (.t 23) (.t 24))),(Qa 26 (.loadA 8 (.t 25))),(Qb (.store 8 (.t 4) (.t 26))),(Qa 5 (.mv (.c .tt)))]) (.ret)) (.skip)))) (.reg [(Qa 12 (.mv (.t 6))),(Qa 13 (.bin .add (.t 12) (.c (.iv 1)))),(Qa 6 (.mv (.t 13)))]))
def e25:EC:=.seq (.reg [(Qa 2 (.box 39 3 (.t 0))),(Qa 4 (.alloc 49 [.iv 0,.iv 0,.iv 0,.ff,.ff,.ff,.ff,.ff])),(Qa 5 (.mv (.c .ff)))]) (.seq (.seq (.reg [(Qa 6 (.mv (.c (.iv 0))))]) (.blk 0 (.loop Zt8))) (.seq (.reg [(Qa 27 (.build [.iv 0,.iv 0,.iv 0,.ff,.ff,.ff,.ff,.ff] [])),(Qb (.store 8 (.t 4) (.t 27))),(Qa 5 (.mv (.c .ff)))]) (.ret)))
theorem ok25:FnOK Try.prog 25 Try.f25 e25 [.c 4 (some 8),.t 5] 2 26:=⟨by kernel_rfl,⟨_,rfl,by kernel_rfl⟩,by kernel_rfl,by kernel_rfl⟩
noncomputable def Zu8:Unit→Option (Side×Bool)
| ()=>
 some ((Side.mk 0 0 0 false false false false false),false)
noncomputable def Zv8 (x1:Diner) (x2:Int):Int→Option (Int ⊕ (Side×Bool))
| x6=>
 ifb (decide (x6<(ln Side.row x1.Sides))) (
 (at_ x1.Sides x6).bind fun x7=>
 ifb (decide (x7.Peer=x2)) (
 (at_ x1.Sides x6).bind fun x8=>
 Option.map Sum.inr (some (x8,true))) (
 some (.inl (wr (x6+1))))) (
 Option.map Sum.inr (Zu8 ()))
noncomputable def Zw8 (x1:Diner) (x2:Int):Option (Side×Bool):=
 loop (Zv8 x1 x2) 0
theorem k_narthexref12_Side (x1:Diner) (x2:Int) (r:(Side×Bool)) (h:Zw8 x1 x2=some r):Zq2 Try.prog 25 [.agg (Diner.row x1),.iv x2] (.tup [.agg (Side.row r.1),.bv r.2]):=by
 refine Zu2 ok25 rfl rfl fun w0 H0=>?_
 rw [Zw8] at h
 refine Zl2 11 ?_;dsimp only [e25,Zt8,go_sem];refine ⟨by simp,?_⟩;refine Zl4 (fun (_:Unit)=>(⟨(an 4 (.ptr 1 0::an 23 [])),[none,some ⟨49,[.iv 0,.iv 0,.iv 0,.ff,.ff,.ff,.ff,.ff]⟩],[]⟩:St)) Zu8 r ?_ fun J1=>?_
 ·rintro ⟨⟩ h;rw [Zu8] at h;(try dsimp only);refine Zl2 6 ?_;dsimp only [e25,Zt8,go_sem];refine ⟨by simp,?_⟩;exact Zx4 (res:=fun (r:(Side×Bool))=>.tup [.agg (Side.row r.1),.bv r.2]) ok25 h
 ·refine Zl2 1 ?_;dsimp only [e25,Zt8,go_sem];refine ⟨by simp,?_⟩;refine Zm4 h (fun (x6:Int)=>(⟨(.any :: .iv x2 :: .ptr 0 0 :: .any :: .ptr 1 0 :: .any :: .iv x6::an 21 []),[some ⟨39,[.iv x1.ID,.iv x1.Phase,.sl 8 (List.map Side.row x1.Sides)]⟩,some ⟨49,[.iv 0,.iv 0,.iv 0,.ff,.ff,.ff,.ff,.ff]⟩],[]⟩:St)) (by simp [go_sem]) (by intro x6;first | rfl | simp [go_sem]) ?_;rintro n1 x6 y1 h hin1 hout1;rw [Zv8] at h;(try dsimp only);refine Zl2 9 ?_;dsimp only [e25,Zt8,go_sem];refine ⟨by simp,?_⟩
  refine Zn4 h rfl (fun _ h=>?_) fun _ h=>?_
  ·refine Zl2 8 ?_;dsimp only [e25,Zt8,go_sem];refine ⟨by simp,?_⟩;obtain ⟨x7,ex7,h⟩:=Option.bind_eq_some_iff.1 h;refine Zq4 Side.row ex7 trivial rfl rfl rfl ?_;refine Zl2 5 ?_;dsimp only [e25,Zt8,go_sem];refine ⟨by simp,?_⟩;refine Zn4 h rfl (fun _ h=>?_) fun _ h=>?_
   ·refine Zl2 5 ?_;dsimp only [e25,Zt8,go_sem];refine ⟨by simp,?_⟩;obtain ⟨x8,ex8,h⟩:=Option.bind_eq_some_iff.1 h;refine Zq4 Side.row ex8 trivial rfl rfl rfl ?_;refine Zl2 4 ?_;dsimp only [e25,Zt8,go_sem];refine ⟨by simp,?_⟩;exact Zx4 (res:=fun (r:(Side×Bool))=>.tup [.agg (Side.row r.1),.bv r.2]) ok25 (Zk4 h hout1)
   ·refine Zl2 7 ?_;dsimp only [e25,Zt8,go_sem];refine ⟨by simp,?_⟩;exact Zy4 h hin1
  ·refine Zl2 1 ?_;dsimp only [e25,Zt8,go_sem];refine ⟨by simp,?_⟩;exact Zz4 J1 (s:=()) (Zk4 h hout1)
set_option maxRecDepth 100000
set_option maxHeartbeats 4000000
def Zx8:EC:=.seq (.seq (.reg [(Qa 4 (.mv (.t 3))),(Qa 5 (.fld 0 (.t 1))),(Qa 6 (.load (.t 5))),(Qa 7 (.len (.t 6))),(Qa 8 (.bin .lss (.t 4) (.t 7))),(Qa 9 (.mv (.t 8))),(Qg 10 9 true (.mv (.t 3))),(Qg 11 9 true (.bin .lss (.t 10) (.c (.iv 25)))),(Qa 12 (.pick (.t 9) (.t 11) (.c .ff)))]) (.ite (.t 12) (.skip) (.exit 0))) (.seq (.blk 1 (.seq (.reg [(Qa 15 (.fld 0 (.t 1))),(Qa 16 (.load (.t 15))),(Qa 17 (.mv (.t 3))),(Qa 18 (.idx 3 (.t 16) (.t 17))),(Qa 19 (.fld 2 (.t 18))),(Qa 20 (.load (.t 19))),(Qa 21 (.len (.t 20))),(Qa 22 (.bin .gtr (.t 21) (.c (.iv 24))))]) (.ite (.t 22) (.seq (.reg [(Qa 2 (.mv (.c .ff)))]) (.ret)) (.skip)))) (.reg [(Qa 13 (.mv (.t 3))),(Qa 14 (.bin .add (.t 13) (.c (.iv 1)))),(Qa 3 (.mv (.t 14)))]))
def e20:EC:=.seq (.reg [(Qa 1 (.box 43 2 (.t 0))),(Qa 2 (.mv (.c .ff)))]) (.seq (.seq (.reg [(Qa 3 (.mv (.c (.iv 0))))]) (.blk 0 (.loop Zx8))) (.seq (.reg [(Qa 23 (.fld 0 (.t 1))),(Qa 24 (.load (.t 23))),(Qa 25 (.len (.t 24))),(Qa 26 (.bin .leq (.t 25) (.c (.iv 24)))),(Qa 27 (.mv (.t 26))),(Qg 28 27 true (.fld 1 (.t 1))),(Qg 29 27 true (.load (.t 28))),(Qg 30 27 true (.len (.t 29))),(Qg 31 27 true (.bin .leq (.t 30) (.c (.iv 40)))),(Qa 32 (.pick (.t 27) (.t 31) (.c .ff))),(Qa 2 (.mv (.t 32)))]) (.ret)))
theorem ok20:FnOK Try.prog 20 Try.f20 e20 [.t 2] 1 32:=⟨by kernel_rfl,⟨_,rfl,by kernel_rfl⟩,by kernel_rfl,by kernel_rfl⟩
noncomputable def Zy8:Bool→Option Bool
| x11=>
 some x11
noncomputable def Zz8 (x1:Scene):Unit→Option Bool
| ()=>
 ifb (decide ((ln Diner.row x1.Diners)≤24)) (
 Zy8 (decide ((ln Mail.row x1.Mail)≤40))) (
 Zy8 false)
noncomputable def Z09 (x1:Scene) (x5:Int):Bool→Option (Int ⊕ Bool)
| x6=>
 ifb x6 (
 (at_ x1.Diners x5).bind fun x7=>
 ifb (decide (24<(ln Side.row x7.Sides))) (
 Option.map Sum.inr (some false)) (
 some (.inl (wr (x5+1))))) (
 Option.map Sum.inr ((Zz8 x1) ()))
noncomputable def Z19 (x1:Scene):Int→Option (Int ⊕ Bool)
| x5=>
 ifb (decide (x5<(ln Diner.row x1.Diners))) (
 (Z09 x1 x5) (decide (x5<25))) (
 (Z09 x1 x5) false)
noncomputable def Z29 (x1:Scene):Option Bool:=
 loop (Z19 x1) 0
theorem k_narthexref12_Few (x1:Scene) (r:Bool) (h:Z29 x1=some r):Zq2 Try.prog 20 [.agg (Scene.row x1)] (.bv r):=by
 refine Zu2 ok20 rfl rfl fun w0 H0=>?_
 rw [Z29] at h
 refine Zl2 10 ?_;dsimp only [e20,Zx8,go_sem];refine ⟨by simp,?_⟩;refine Zl4 (fun (_:Unit)=>(⟨(.any :: .ptr 0 0::an 31 []),[some ⟨43,[.sl 3 (List.map Diner.row x1.Diners),.sl 5 (List.map Mail.row x1.Mail)]⟩],[]⟩:St)) (Zz8 x1) r ?_ fun J1=>?_
 ·rintro ⟨⟩ h;rw [Zz8] at h;(try dsimp only);refine Zl2 7 ?_;dsimp only [e20,Zx8,go_sem];refine ⟨by simp,?_⟩;refine Zl4 (fun (x11:Bool)=>(⟨(.any :: .any :: .bv x11::an 30 []),[],[]⟩:St)) Zy8 r ?_ fun J3=>?_
  ·intro x11 h;rw [Zy8] at h;(try dsimp only);exact Zx4 (res:=fun (r:Bool)=>.bv r) ok20 h
  ·refine Zw4 27 h rfl (fun _ h=>?_) fun _ h=>?_
   ·dsimp only [go_sem];refine Zl2 7 ?_;dsimp only [e20,Zx8,go_sem];refine ⟨by simp,?_⟩;exact Zz4 J3 (s:=decide ((ln Mail.row x1.Mail)≤40)) h
   ·dsimp only [go_sem];refine Zl2 7 ?_;dsimp only [e20,Zx8,go_sem];refine ⟨by simp,?_⟩;exact Zz4 J3 (s:=false) h
 ·refine Zl2 1 ?_;dsimp only [e20,Zx8,go_sem];refine ⟨by simp,?_⟩;refine Zm4 h (fun (x5:Int)=>(⟨(.any :: .ptr 0 0 :: .any :: .iv x5::an 29 []),[some ⟨43,[.sl 3 (List.map Diner.row x1.Diners),.sl 5 (List.map Mail.row x1.Mail)]⟩],[]⟩:St)) (by simp [go_sem]) (by intro x5;first | rfl | simp [go_sem]) ?_;rintro n1 x5 y1 h hin1 hout1;rw [Z19] at h;(try dsimp only);refine Zl2 9 ?_;dsimp only [e20,Zx8,go_sem];refine ⟨by simp,?_⟩
  refine Zl4 (fun (x6:Bool)=>(⟨(.any :: .ptr 0 0 :: .any :: .iv x5::an 8 (.bv x6::an 20 [])),[some ⟨43,[.sl 3 (List.map Diner.row x1.Diners),.sl 5 (List.map Mail.row x1.Mail)]⟩],[]⟩:St)) (Z09 x1 x5) y1 ?_ fun J2=>?_
  ·intro x6 h;rw [Z09] at h;(try dsimp only);refine Zn4 h rfl (fun _ h=>?_) fun _ h=>?_
   ·refine Zl2 8 ?_;dsimp only [e20,Zx8,go_sem];refine ⟨by simp,?_⟩;obtain ⟨x7,ex7,h⟩:=Option.bind_eq_some_iff.1 h;refine Zq4 Diner.row ex7 trivial rfl rfl rfl ?_;refine Zl2 5 ?_;dsimp only [e20,Zx8,go_sem];refine ⟨by simp,?_⟩;refine Zn4 h rfl (fun _ h=>?_) fun _ h=>?_
    ·refine Zl2 4 ?_;dsimp only [e20,Zx8,go_sem];refine ⟨by simp,?_⟩;exact Zx4 (res:=fun (r:Bool)=>.bv r) ok20 (Zk4 h hout1)
    ·refine Zl2 7 ?_;dsimp only [e20,Zx8,go_sem];refine ⟨by simp,?_⟩;exact Zy4 h hin1
   ·refine Zl2 1 ?_;dsimp only [e20,Zx8,go_sem];refine ⟨by simp,?_⟩;exact Zz4 J1 (s:=()) (Zk4 h hout1)
  ·refine Zw4 9 h rfl (fun _ h=>?_) fun _ h=>?_
   ·dsimp only [go_sem];refine Zl2 4 ?_;dsimp only [e20,Zx8,go_sem];refine ⟨by simp,?_⟩;exact Zz4 J2 (s:=decide (x5<25)) h
   ·dsimp only [go_sem];refine Zl2 4 ?_;dsimp only [e20,Zx8,go_sem];refine ⟨by simp,?_⟩;exact Zz4 J2 (s:=false) h
set_option maxRecDepth 100000
set_option maxHeartbeats 4000000
def Z39:EC:=.seq (.seq (.reg [(Qa 7 (.mv (.t 4))),(Qa 8 (.mv (.t 0))),(Qa 9 (.len (.t 8))),(Qa 10 (.bin .lss (.t 7) (.t 9)))]) (.ite (.t 10) (.skip) (.exit 0))) (.seq (.blk 1 (.seq (.reg [(Qa 13 (.mv (.t 0))),(Qa 14 (.mv (.t 4))),(Qa 15 (.idx 3 (.t 13) (.t 14))),(Qa 16 (.loadA 3 (.t 15))),(Qa 5 (.alloc 39 [.iv 0,.iv 0,.nl])),(Qb (.store 3 (.t 5) (.t 16)))]) (.seq (.reg [(Qa 17 (.bsl 49 8 0 [.iv 0,.iv 0,.iv 0,.ff,.ff,.ff,.ff,.ff] [])),(Qa 18 (.fld 2 (.t 5))),(Qa 19 (.load (.t 18))),(Qa 20 (.app 49 8 32 (.t 17) (.t 19))),(Qa 21 (.fld 2 (.t 5))),(Qb (.store 1 (.t 21) (.t 20)))]) (.reg [(Qa 22 (.mv (.t 3))),(Qa 23 (.loadA 3 (.t 5))),(Qa 24 (.bsl 39 3 1 [.iv 0,.iv 0,.nl] [(0,(.t 23))])),(Qa 25 (.app 39 3 40 (.t 22) (.t 24))),(Qa 3 (.mv (.t 25)))])))) (.reg [(Qa 11 (.mv (.t 4))),(Qa 12 (.bin .add (.t 11) (.c (.iv 1)))),(Qa 4 (.mv (.t 12)))]))
def e22:EC:=.seq (.reg [(Qa 2 (.mv (.c .nl)))]) (.seq (.reg [(Qa 6 (.bsl 39 3 0 [.iv 0,.iv 0,.nl] [])),(Qa 3 (.mv (.t 6)))]) (.seq (.seq (.reg [(Qa 4 (.mv (.c (.iv 0))))]) (.blk 0 (.loop Z39))) (.seq (.reg [(Qa 26 (.mv (.t 3))),(Qa 2 (.mv (.t 26)))]) (.ret))))
theorem ok22:FnOK Try.prog 22 Try.f22 e22 [.t 2] 1 26:=⟨by kernel_rfl,⟨_,rfl,by kernel_rfl⟩,by kernel_rfl,by kernel_rfl⟩
noncomputable def Z49:(List Diner)→Option (List Diner)
| x17=>
 some x17
noncomputable def Z59 (x1:(List Diner)):(Int×(List Diner))→Option ((Int×(List Diner)) ⊕ (List Diner))
| (x7,x8)=>
 ifb (decide (x7<(ln Diner.row x1))) (
 (at_ x1 x7).bind fun x9=>
 (Za4 32 (([]:List Side)) x9.Sides).bind fun x10=>
 (Za4 40 x8 ([(Diner.mk x9.ID x9.Phase x10)])).bind fun x11=>
 some (.inl (wr (x7+1),x11))) (
 Option.map Sum.inr (Z49 x8))
noncomputable def Z69 (x1:(List Diner)):Option (List Diner):=
 loop (Z59 x1) (0,([]:List Diner))
theorem Z79 (x1:(List Diner)) (r:(List Diner)) (h:Z69 x1=some r):FunO Try.prog 22 [.sl 3 (List.map Diner.row x1)] 39 3 (List.map Diner.row r):=by
 refine Zc5 ok22 rfl fun w0 H0=>?_
 rw [Z69] at h
 refine Zl2 14 ?_;dsimp only [e22,Z39,go_sem];refine ⟨by simp,?_⟩;refine Zl4 (fun (x17:(List Diner))=>(⟨(an 3 (.osl 0::an 23 [])),[],[some ⟨39,3,List.map Diner.row x17⟩]⟩:St)) Z49 r ?_ fun J1=>?_
 ·intro x17 h;rw [Z49] at h;(try dsimp only);refine Zl2 5 ?_;dsimp only [e22,Z39,go_sem];refine ⟨by simp,?_⟩;exact Zj5 Diner.row ok22 h rfl rfl
 ·refine Zl2 1 ?_;dsimp only [e22,Z39,go_sem];refine ⟨by simp,?_⟩;refine Zm4 h (fun ((x7,x8):(Int×(List Diner)))=>(⟨(.sl 3 (List.map Diner.row x1) :: .any :: .any :: .osl 0 :: .iv x7::an 22 []),[],[some ⟨39,3,List.map Diner.row x8⟩]⟩:St)) (by simp [go_sem]) (by rintro ⟨x7,x8⟩;first | rfl | simp [go_sem]) ?_;rintro n1 ⟨x7,x8⟩ y1 h hin1 hout1;rw [Z59] at h;(try dsimp only);refine Zl2 8 ?_;dsimp only [e22,Z39,go_sem];refine ⟨by simp,?_⟩;refine Zn4 h rfl (fun _ h=>?_) fun _ h=>?_
  ·refine Zl2 7 ?_;dsimp only [e22,Z39,go_sem];refine ⟨by simp,?_⟩;obtain ⟨x9,ex9,h⟩:=Option.bind_eq_some_iff.1 h;refine Zq4 Diner.row ex9 trivial rfl rfl rfl ?_;refine Zl2 9 ?_;dsimp only [e22,Z39,go_sem];refine ⟨by simp,?_⟩;obtain ⟨x10,ex10,h⟩:=Option.bind_eq_some_iff.1 h;refine Zt4 Side.row ex10 trivial rfl rfl rfl ?_;refine Zl2 6 ?_;dsimp only [e22,Z39,go_sem];refine ⟨by simp,?_⟩;refine Z83 2 rfl ?_;dsimp only [go_sem];refine Zl2 1 ?_;dsimp only [e22,Z39,go_sem];refine ⟨by simp,?_⟩
   obtain ⟨x11,ex11,h⟩:=Option.bind_eq_some_iff.1 h;refine Zt4 Diner.row ex11 trivial rfl rfl rfl ?_;refine Zl2 8 ?_;dsimp only [e22,Z39,go_sem];refine ⟨by simp,?_⟩;refine Z44 4 0 rfl rfl rfl ?_;dsimp only [go_sem];exact Zy4 h hin1
  ·refine Zl2 1 ?_;dsimp only [e22,Z39,go_sem];refine ⟨by simp,?_⟩;exact Zz4 J1 (s:=x8) (Zk4 h hout1)
theorem Z89 (x1:(List Diner)) (r:(List Diner)) (h:Z69 x1=some r):Zq2 Try.prog 22 [.sl 3 (List.map Diner.row x1)] (.sl 3 (List.map Diner.row r)):=(Z79 x1 r h).sealed
set_option maxRecDepth 100000
set_option maxHeartbeats 4000000
def e15:EC:=.seq (.reg [(Qa 1 (.box 24 2 (.t 0))),(Qa 2 (.alloc 24 [.iv 0,.nl]))]) (.seq (.drw [(Qa 3 (.fld 0 (.t 1))),(Qa 4 (.load (.t 3))),(Qa 5 (.bsl 58 2 0 [.iv 0,.iv 0] [])),(Qa 6 (.fld 1 (.t 1))),(Qa 7 (.load (.t 6))),(Qa 8 (.app 58 2 16 (.t 5) (.t 7))),(Qa 9 (.build [.iv 0,.nl] [(0,1,(.t 4)),(1,1,(.t 8))])),(Qb (.store 2 (.t 2) (.t 9)))] [[],[0],[],[],[3],[2,4],[1,5],[6,5,0,1,2,3,4,5,6]] [[1],[0,6],[5],[4],[3,5],[2,4,6],[1,5,7],[6]]) (.ret))
theorem ok15:FnOK Try.prog 15 Try.f15 e15 [.c 2 (some 2)] 1 9:=⟨by kernel_rfl,⟨_,rfl,by kernel_rfl⟩,by kernel_rfl,by kernel_rfl⟩
noncomputable def Z99 (x1:Graph):Option Graph:=
 (Za4 16 (([]:List Edge)) x1.Edges).bind fun x2=>
 some (Graph.mk x1.N x2)
theorem Za9 (x1:Graph) (r:Graph) (h:Z99 x1=some r):Zq2 Try.prog 15 [.agg (Graph.row x1)] (.agg (Graph.row r)):=by
 refine Zu2 ok15 rfl rfl fun w0 H0=>?_
 rw [Z99] at h
 refine Zl2 6 ?_;dsimp only [e15,go_sem];refine ⟨by simp,?_⟩;refine Zh3 (by kernel_rfl) fun all hall hs hnap haf=>?_;dsimp only [go_sem];refine Zh5 hall hs haf hnap 4 4 ?_;dsimp only [go_sem];refine ⟨by simp,?_⟩;refine Zt3 2 rfl ?_;refine Zy3 hall rfl trivial ?_;dsimp only [go_sem];refine Zt3 5 rfl ?_;obtain ⟨x2,ex2,h⟩:=Option.bind_eq_some_iff.1 h;refine Zu4 Edge.row ex2 hall rfl trivial rfl rfl rfl ?_;dsimp only [go_sem];refine Zh5 hall hs haf hnap 1 1 ?_;dsimp only [go_sem];refine ⟨by simp,?_⟩;refine Zt3 7 rfl ?_;refine Zy3 hall rfl trivial ?_
 dsimp only [go_sem];refine Zs3 rfl ?_ _;refine Z83 1 rfl ?_;dsimp only [go_sem];exact Zx4 (res:=fun (r:Graph)=>.agg (Graph.row r)) ok15 h
theorem loop_pp {α τ β:Type} (l:List α) (body:τ→Option (τ ⊕ β)) (st:List α→τ) (R:List α→List α→Option β)
  (hb:∀pre x post,l=pre++x::post→(body (st pre)=some (.inl (st (pre++[x])))∧R pre (x::post)=R (pre++[x]) post)∨∃r,body (st pre)=some (.inr r)∧R pre (x::post)=some r)
  (he:body (st l)=(R l []).map .inr):∀post pre,l=pre++post→loop body (st pre)=R pre post
 | [],pre,h=>by
   have:pre=l:=by simpa using h.symm
   subst this
   rw [Ze4,he]
   cases R pre []<;>rfl
 | x::post,pre,h=>by
   rw [Ze4]
   rcases hb pre x post h with ⟨h1,h2⟩ | ⟨r,h1,h2⟩
   ·rw [h1,h2]
    exact loop_pp l body st R hb he post (pre++[x]) (by simpa using h)
   ·rw [h1,h2]
theorem Zb9 {α τ β:Type} (l:List α) (body:τ→Option (τ ⊕ β)) (st:List α→τ) (R:List α→List α→Option β)
 (hb:∀pre x post,l=pre++x::post→(body (st pre)=some (.inl (st (pre++[x])))∧R pre (x::post)=R (pre++[x]) post)∨∃r,body (st pre)=some (.inr r)∧R pre (x::post)=some r)
 (he:body (st l)=(R l []).map .inr):loop body (st [])=R [] l:=loop_pp l body st R hb he l [] rfl
theorem loop_ppI {α τ β:Type} (l:List α) (body:τ→Option (τ ⊕ β)) (st:List α→τ) (R:List α→List α→Option β) (I:List α→Prop)
  (hb:∀pre x post,l=pre++x::post→I pre→(body (st pre)=some (.inl (st (pre++[x])))∧I (pre++[x])∧R pre (x::post)=R (pre++[x]) post)∨∃r,body (st pre)=some (.inr r)∧R pre (x::post)=some r)
  (he:I l→body (st l)=(R l []).map .inr):∀post pre,l=pre++post→I pre→loop body (st pre)=R pre post
 | [],pre,h,hI=>by
   have:pre=l:=by simpa using h.symm
   subst this
   rw [Ze4,he hI]
   cases R pre []<;>rfl
 | x::post,pre,h,hI=>by
   rw [Ze4]
   rcases hb pre x post h hI with ⟨h1,h3,h2⟩ | ⟨r,h1,h2⟩
   ·rw [h1,h2]
    exact loop_ppI l body st R I hb he post (pre++[x]) (by simpa using h) h3
   ·rw [h1,h2]
theorem Zc9 {α τ β:Type} (l:List α) (body:τ→Option (τ ⊕ β)) (st:List α→τ) (r:β)
  (hb:∀pre x post,l=pre++x::post→body (st pre)=some (.inl (st (pre++[x])))) (he:body (st l)=some (.inr r)):loop body (st [])=some r:=
 Zb9 l body st (fun _ _=>some r) (fun pre x post h=>.inl ⟨hb pre x post h,rfl⟩) he
theorem Zd9 {α:Type} {l pre post:List α} {x:α} (h:l=pre++x::post):l[pre.length]?=some x:=by subst h;simp
theorem Ze9 {α:Type} {l pre post:List α} {x:α} (h:l=pre++x::post):pre.length<l.length:=by subst h;simp
theorem mid_mem {α:Type} {l pre post:List α} {x:α} (h:l=pre++x::post):x∈l:=by subst h;simp
theorem at_mid {α:Type} {l a b:List α} {x:α} (h:l=a++x::b):at_ l (a.length:Int)=some x:=Z76 (Zd9 h)
theorem Zf9 {α:Type} (a b:List α) (x y:α):(a++x::b).set ((a.length:Int)).toNat y=a++y::b:=by simp
theorem Zg9 {α:Type} (pre:List α) (x:α):(pre++[x]).length=pre.length+1:=by simp
theorem Zh9 {τ β:Type} (n:Nat) (body:τ→Option (τ ⊕ β)) (st:Nat→τ) (r:β) (hb:∀k,k<n→body (st k)=some (.inl (st (k+1)))) (he:body (st n)=some (.inr r)):loop body (st 0)=some r:=by
 have key:∀m k,m+k=n→loop body (st k)=some r:=by
  intro m
  induction m with
  | zero=>intro k hk;have:k=n:=by omega
          subst this;rw [Ze4,he]
  | succ m ih=>intro k hk;rw [Ze4,hb k (by omega)];exact ih (k+1) (by omega)
 exact key n 0 rfl
theorem loop_natI {τ β:Type} (n:Nat) (body:τ→Option (τ ⊕ β)) (st:Nat→τ) (R:Nat→Option β) (hb:∀k,k<n→(body (st k)=some (.inl (st (k+1)))∧R k=R (k+1))∨∃r,body (st k)=some (.inr r)∧R k=some r) (he:body (st n)=(R n).map .inr):loop body (st 0)=R 0:=by
 have key:∀m k,m+k=n→loop body (st k)=R k:=by
  intro m
  induction m with
  | zero=>
    intro k hk
    have:k=n:=by omega
    subst this
    rw [Ze4,he]
    cases R k<;>rfl
  | succ m ih=>
    intro k hk
    rw [Ze4]
    rcases hb k (by omega) with ⟨h1,h2⟩ | ⟨r,h1,h2⟩
    ·rw [h1,h2];exact ih (k+1) (by omega)
    ·rw [h1,h2]
 exact key n 0 rfl
theorem Zi9 {α:Type} (l m:List α) (body:Int→Option (Int ⊕ Bool)) (eqv:α→α→Bool) (hlm:l.length=m.length) (hl:l.length≤4000000000000000000)
  (hb:∀(k:Nat) x y,l[k]?=some x→m[k]?=some y→body k=some (if eqv x y then .inl ((k+1:Nat):Int) else .inr false)) (he:body l.length=some (.inr true)):loop body 0=some ((l.zip m).all fun p=>eqv p.1 p.2):=by
 rw [Zi6 (l.zip m) body (fun p=>!eqv p.1 p.2) false true (by simp;omega) (fun k x hx=>by
  obtain ⟨x1,x2⟩:=x
  rw [List.getElem?_zip_eq_some] at hx
  rw [hb k x1 x2 hx.1 hx.2]
  cases eqv x1 x2<;>rfl) (by rw [show (l.zip m).length=l.length by simp [hlm]];exact he)]
 have:∀(q:List (α×α)),(if q.any (fun p=>!eqv p.1 p.2) then some false else some true)=some (q.all fun p=>eqv p.1 p.2):=by
  intro q
  induction q with
  | nil=>rfl
  | cons p q ih=>
    rw [List.any_cons,List.all_cons]
    cases h:eqv p.1 p.2 with
    | true=>exact ih
    | false=>rfl
 have h2:=this (l.zip m)
 rw [←h2]
 cases (l.zip m).any (fun p=>!eqv p.1 p.2)<;>rfl
theorem Zj9 {α:Type} [DecidableEq α]:∀(l m:List α),l.length=m.length→(l.zip m).all (fun p=>decide (p.1=p.2))=decide (l=m)
 | [],[],_=>rfl
 | [],_::_,h=>by simp at h
 | _::_,[],h=>by simp at h
 | x::l,y::m,h=>by
   have ih:=Zj9 l m (by simpa using h)
   simp only [List.zip_cons_cons,List.all_cons,ih]
   by_cases h1:x=y<;>simp [h1]
theorem Zk9 {α:Type} [DecidableEq α] {l m:List α} (h:l.length≠m.length):decide (l=m)=false:=decide_eq_false (by rintro rfl;exact h rfl)
theorem Side_eqB (x y:Side):(decide (x.Peer=y.Peer)&&(decide (x.Epoch=y.Epoch)&&(decide (x.State=y.State)&&((x.Fork==y.Fork)&&((x.Dirty==y.Dirty)&&((x.Token==y.Token)&&((x.Bottle==y.Bottle)&&((x.Ask==y.Ask)&&true))))))))=decide (x=y):=by
 rw [Bool.eq_iff_iff];cases x;cases y;simp [Side.mk.injEq]
theorem Mail_eqB (x y:Mail):(decide (x.From=y.From)&&(decide (x.To=y.To)&&(decide (x.Msg.Kind=y.Msg.Kind)&&(decide (x.Msg.Epoch=y.Msg.Epoch)&&(decide (x.Msg.Num=y.Msg.Num)&&true)))))=decide (x=y):=by
 rw [Bool.eq_iff_iff]
 obtain ⟨x1,x2,x3,x4,x5⟩:=x
 obtain ⟨y1,y2,y3,y4,y5⟩:=y
 simp [Mail.mk.injEq,Msg.mk.injEq]
theorem Edge_eqB (x y:Edge):(decide (x.A=y.A)&&(decide (x.B=y.B)&&true))=decide (x=y):=by
 rw [Bool.eq_iff_iff];cases x;cases y;simp [Edge.mk.injEq]
theorem Arc_eqB (x y:Arc):(decide (x.From=y.From)&&(decide (x.To=y.To)&&true))=decide (x=y):=by
 rw [Bool.eq_iff_iff];cases x;cases y;simp [Arc.mk.injEq]
theorem Zl9 {α β:Type} (f:α→List AV) (g:β→List AV) (l:List α) (m:List β):decide (ln f l=ln g m)=decide (l.length=m.length):=by
 rw [Z65,Z65,decide_eq_decide];omega
theorem s_EqualSide (l m:List Side) (hl:l.length≤1000000):Z38 l m=some (decide (l=m)):=by
 simp only [Z38,Zl9]
 by_cases h:l.length=m.length
 ·simp only [h,decide_true,Bool.not_true,Z46]
  rw [Zi9 l m _ (fun x y=>decide (x=y)) h (by omega) (fun k x y hx hy=>by
   simp only [Z28,Z96 hx,Z36,Z76 hx,Z76 hy,Option.bind_some,Side_eqB,Zc6 hx (show l.length≤4000000000000000000 by omega),Z56]
   cases decide (x=y)<;>rfl) (by simp only [Z28,Za6,Z46,Z18,Option.map_some]),Zj9 l m h]
 ·simp [h,Zk9 h]
theorem s_r12SameOne (a b:Diner) (hl:a.Sides.length≤1000000):Zi8 a b=some (decide (a=b)):=by
 obtain ⟨a1,a2,l⟩:=a
 obtain ⟨b1,b2,m⟩:=b
 dsimp only at hl
 simp only [Zi8,Zh8,Zl9,Diner.mk.injEq]
 by_cases h1:a1=b1
 ·by_cases h2:a2=b2
  ·by_cases h:l.length=m.length
   ·simp only [h1,h2,h,decide_true,Bool.not_true,Z46,true_and]
    rw [Zi9 l m _ (fun x y=>decide (x=y)) h (by omega) (fun k x y hx hy=>by
     simp only [Zg8,Z96 hx,Z36,Z76 hx,Z76 hy,Option.bind_some,Side_eqB,Zc6 hx (show l.length≤4000000000000000000 by omega),Z56,Option.map_some]
     cases decide (x=y)<;>rfl) (by simp only [Zg8,Za6,Z46,Zf8,Option.map_some]),Zj9 l m h]
   ·have:=Zk9 h
    simp [h1,h2,h];rintro rfl;exact h rfl
  ·simp [h1,h2]
 ·simp [h1]
theorem s_placeSame1 (a b:Diner) (hl:a.Sides.length≤1000000):Z68 a b=some (decide (a=b)):=by
 obtain ⟨a1,a2,l⟩:=a
 obtain ⟨b1,b2,m⟩:=b
 dsimp only at hl
 simp only [Z68,Z58,s_EqualSide l m hl,Diner.mk.injEq]
 by_cases h1:a1=b1<;>by_cases h2:a2=b2<;>simp [h1,h2]
def Zm9 (l:List Diner):Prop:=l.length≤5000∧∀d∈l,d.Sides.length≤5000
theorem s_placeSame (l m:List Diner) (hl:Zm9 l):Z88 l m=some (decide (l=m)):=by
 simp only [Z88,Zy7,Zl9]
 by_cases h:l.length=m.length
 ·simp only [h,decide_true,Bool.not_true,Z46]
  rw [Zi9 l m _ (fun x y=>decide (x=y)) h (by have:=hl.1;omega) (fun k x y hx hy=>by
   simp only [Zx7,Z96 hx,Z36,Z76 hx,Z76 hy,Option.bind_some,s_placeSame1 x y (by have:=hl.2 x (List.mem_iff_getElem?.2 ⟨k,hx⟩);omega),Zc6 hx (show l.length≤4000000000000000000 by have:=hl.1;omega),Z56,Option.map_some]
   cases decide (x=y)<;>rfl) (by simp only [Zx7,Za6,Z46,Zw7,Option.map_some]),Zj9 l m h]
  rfl
 ·simp [h,Zk9 h]
theorem s_r12Same (l m:List Diner) (hl:Zm9 l):Zn8 l m=some (decide (l=m)):=by
 simp only [Zn8,Zl9]
 by_cases h:l.length=m.length
 ·simp only [h,decide_true,Bool.not_true,Z46]
  rw [Zi9 l m _ (fun x y=>decide (x=y)) h (by have:=hl.1;omega) (fun k x y hx hy=>by
   simp only [Zm8,Z96 hx,Z36,Z76 hx,Z76 hy,Option.bind_some,s_r12SameOne x y (by have:=hl.2 x (List.mem_iff_getElem?.2 ⟨k,hx⟩);omega),Zc6 hx (show l.length≤4000000000000000000 by have:=hl.1;omega),Z56,Option.map_some]
   cases decide (x=y)<;>rfl) (by simp only [Zm8,Za6,Z46,Zl8,Option.map_some]),Zj9 l m h]
 ·simp [h,Zk9 h]
theorem s_r03Same (g h:Graph) (hl:g.Edges.length≤1000000):Zd8 g h=some (decide (g=h)):=by
 obtain ⟨n,l⟩:=g
 obtain ⟨n',m⟩:=h
 dsimp only at hl
 simp only [Zd8,Zc8,Zl9,Graph.mk.injEq]
 by_cases h1:n=n'
 ·by_cases h:l.length=m.length
  ·simp only [h1,h,decide_true,Bool.not_true,Z46,true_and]
   rw [Zi9 l m _ (fun x y=>decide (x=y)) h (by omega) (fun k x y hx hy=>by
    simp only [Zb8,Z96 hx,Z36,Z76 hx,Z76 hy,Option.bind_some,Edge_eqB,Zc6 hx (show l.length≤4000000000000000000 by omega),Z56,Option.map_some]
    cases decide (x=y)<;>rfl) (by simp only [Zb8,Za6,Z46,Za8,Option.map_some]),Zj9 l m h]
  ·simp [h1,h];rintro rfl;exact h rfl
 ·simp [h1]
def side0:Side:=⟨0,0,0,false,false,false,false,false⟩
def Zn9 (d:Diner) (p:Int):Option Side:=d.Sides.find? fun x=>decide (x.Peer=p)
def sideP (o:Option Side):Side×Bool:=match o with | some x=>(x,true) | none=>(side0,false)
theorem Zo9 {α:Type} (q:α→Bool):∀l:List α,match l.findIdx? q with
  | some i=>∃x,l[i]?=some x∧l.find? q=some x
  | none=>l.find? q=none
 | []=>rfl
 | x::l=>by
   have ih:=Zo9 q l
   rw [List.findIdx?_cons,List.find?_cons]
   cases h:q x with
   | true=>exact ⟨x,rfl,by simp⟩
   | false=>
     simp only [Bool.false_eq_true,if_false]
     cases hf:l.findIdx? q with
     | none=>rw [hf] at ih;simpa using ih
     | some i=>rw [hf] at ih;obtain ⟨y,h1,h2⟩:=ih;exact ⟨y,by simpa using h1,by simpa using h2⟩
theorem s_Side (d:Diner) (p:Int) (hl:d.Sides.length≤1000000):Zr8 d p=some (sideP (Zn9 d p)):=by
 simp only [Zr8]
 rw [Zn7 d.Sides (fun z=>Zp8 z p) (fun x=>decide (x.Peer=p)) (by omega) (fun x _=>rfl),Option.bind_some,plc_neg]
 have:=Zo9 (fun x:Side=>decide (x.Peer=p)) d.Sides
 unfold Zn9
 cases h:d.Sides.findIdx? (fun x=>decide (x.Peer=p)) with
 | none=>rw [h] at this;simp only at this;rw [this];rfl
 | some i=>
   rw [h] at this
   obtain ⟨x,h1,h2⟩:=this
   rw [h2]
   simp only [Option.isNone_some,Z46,plc,Z76 h1,Option.bind_some,sideP]
theorem s_r12Side (d:Diner) (p:Int) (hl:d.Sides.length≤1000000):Zw8 d p=some (sideP (Zn9 d p)):=by
 unfold Zw8
 have:=loop_forL d.Sides (Zv8 d p) (fun k (_:Unit)=>k) (fun x _=>if decide (x.Peer=p) then some (.inr (x,true)) else some (.inl ())) (fun _=>some (side0,false)) (by omega) (fun k x s hx=>by
  simp only [Zv8,Z96 hx,Z36,Z76 hx,Option.bind_some,Zc6 hx (show d.Sides.length≤4000000000000000000 by omega),Option.map_some]
  cases decide (x.Peer=p)<;>rfl) (fun _=>by simp only [Zv8,Za6,Z46,Zu8,Option.map_some];rfl) ()
 rw [this,forL_find (fun x=>if decide (x.Peer=p) then some (.inr (x,true)) else some (.inl ())) (fun x=>decide (x.Peer=p)) (fun x=>(x,true)) (some (side0,false)) d.Sides (fun x _=>rfl)]
 unfold Zn9
 cases d.Sides.find? (fun x=>decide (x.Peer=p))<;>rfl
def fewB (s:Scene):Bool:=decide (s.Diners.length≤24)&&(decide (s.Mail.length≤40)&&s.Diners.all fun d=>decide (d.Sides.length≤24))
theorem s_Few (s:Scene):Z29 s=some (fewB s):=by
 unfold Z29
 by_cases h24:s.Diners.length≤24
 ·rw [Zi6 s.Diners (Z19 s) (fun d=>!decide (d.Sides.length≤24)) false (decide (s.Mail.length≤40)) (by omega) (fun k x hx=>by
   have hk:=(List.getElem?_eq_some_iff.1 hx).1
   have h25:decide ((k:Int)<25)=true:=decide_eq_true (by omega)
   have e:decide (24<ln Side.row x.Sides)=!decide (x.Sides.length≤24):=by
    rw [Z65,←decide_not,decide_eq_decide];omega
   simp only [Z19,Z96 hx,Z36,Z09,h25,Z76 hx,Option.bind_some,e,Zc6 hx (show s.Diners.length≤4000000000000000000 by omega),Option.map_some]
   cases decide (x.Sides.length≤24)<;>rfl) (by
   have e1:decide (ln Diner.row s.Diners≤24)=true:=by rw [Z65];exact decide_eq_true (by omega)
   have e2:decide (ln Mail.row s.Mail≤40)=decide (s.Mail.length≤40):=by rw [Z65,decide_eq_decide];omega
   simp only [Z19,Za6,Z46,Z09,Zz8,Zy8,e1,e2,Z36,Option.map_some])]
  unfold fewB
  have:s.Diners.any (fun d=>!decide (d.Sides.length≤24))=!s.Diners.all (fun d=>decide (d.Sides.length≤24)):=Zu7 _ _ _ fun _=>rfl
  rw [this]
  cases s.Diners.all (fun d=>decide (d.Sides.length≤24))<;>simp [h24]
 ·
  have hf:fewB s=false:=by simp [fewB,h24]
  rw [hf]
  have key:∀m k:Nat,m+k=25→loop (Z19 s) (k:Int)=some false:=by
   intro m
   induction m with
   | zero=>
     intro k hk
     have:k=25:=by omega
     subst this
     rw [Ze4]
     have e1:decide (ln Diner.row s.Diners≤24)=false:=by rw [Z65];exact decide_eq_false (by omega)
     simp only [Z19,Z09,Zz8,Zy8,e1,Z46,Option.map_some]
     cases decide (((25:Nat):Int)<ln Diner.row s.Diners)<;>rfl
   | succ m ih=>
     intro k hk
     have hx:s.Diners[k]?=some s.Diners[k]:=List.getElem?_eq_getElem (by omega)
     have h25:decide ((k:Int)<25)=true:=decide_eq_true (by omega)
     rw [Ze4]
     simp only [Z19,Z96 hx,Z36,Z09,h25,Z76 hx,Option.bind_some,Zb6 (show k≤4000000000000000000 by omega),Option.map_some]
     cases decide (24<ln Side.row s.Diners[k].Sides) with
     | true=>rfl
     | false=>exact ih (k+1) (by omega)
  exact key 25 0 rfl
theorem fewB_iff {s:Scene} (h:fewB s=true):s.Diners.length≤24∧s.Mail.length≤40∧∀d∈s.Diners,d.Sides.length≤24:=by
 simp only [fewB,Bool.and_eq_true,decide_eq_true_eq,List.all_eq_true] at h
 exact h
theorem Zp9 {s:Scene} (h:fewB s=true):Zm9 s.Diners:=by
 obtain ⟨h1,_,h3⟩:=fewB_iff h
 exact ⟨by omega,fun d hd=>by have:=h3 d hd;omega⟩
theorem s_Own (l:List Diner) (hl:Zm9 l):Z69 l=some l:=by
 unfold Z69
 refine Zc9 l _ (fun pre=>((pre.length:Int),pre)) l (fun pre x post h=>?_) ?_
 ·have hx:=Zd9 h
  have hm:=Ze9 h
  have h1:=hl.1
  have h2:=hl.2 x (mid_mem h)
  dsimp only [Z59]
  rw [Z96 hx,Z36,Z76 hx,Option.bind_some,Z86 _ _ (by omega) (by simp;omega),Option.bind_some,Z86 _ _ (by omega) (by simp;omega),Option.bind_some,Zb6 (by omega),Zg9]
  rfl
 ·dsimp only [Z59]
  rw [Za6,Z46];rfl
theorem s_Own03 (g:Graph) (hl:g.Edges.length≤1000000):Z99 g=some g:=by
 simp only [Z99]
 rw [Z86 _ _ (by omega) (by simp;omega)]
 rfl
set_option maxRecDepth 100000
set_option maxHeartbeats 4000000
def Zq9:EC:=.seq (.reg [(Qa 34 (.bin .lss (.t 33) (.t 32)))]) (.seq (.ite (.t 34) (.skip) (.exit 2)) (.seq (.blk 3 (.seq (.reg [(Qa 35 (.mv (.t 33))),(Qa 36 (.idx 8 (.t 31) (.t 33))),(Qa 37 (.loadA 8 (.t 36))),(Qa 8 (.alloc 49 [.iv 0,.iv 0,.iv 0,.ff,.ff,.ff,.ff,.ff])),(Qa 7 (.mv (.t 35))),(Qb (.store 8 (.t 8) (.t 37)))]) (.seq (.seq (.drw [(Qa 38 (.fld 0 (.t 8))),(Qa 39 (.load (.t 38))),(Qa 40 (.bin .lss (.t 39) (.c (.iv 0)))),(Qa 41 (.mv (.t 40))),(Qg 42 41 false (.fld 0 (.t 8))),(Qg 43 41 false (.load (.t 42))),(Qg 44 41 false (.mv (.t 0))),(Qg 45 41 false (.len (.t 44))),(Qg 46 41 false (.bin .geq (.t 43) (.t 45))),(Qa 47 (.pick (.t 41) (.c .tt) (.t 46))),(Qa 48 (.mv (.t 47))),(Qg 49 48 false (.fld 0 (.t 8))),(Qg 50 48 false (.load (.t 49))),(Qg 51 48 false (.mv (.t 5))),(Qg 52 48 false (.bin .eql (.t 50) (.t 51))),(Qa 53 (.pick (.t 48) (.c .tt) (.t 52))),(Qa 54 (.mv (.t 53))),(Qg 55 54 false (.mv (.t 7))),(Qg 56 54 false (.bin .gtr (.t 55) (.c (.iv 0)))),(Qg 57 54 false (.mv (.t 56))),(Qg 58 57 true (.fld 2 (.t 6))),(Qg 59 57 true (.load (.t 58))),(Qg 60 57 true (.mv (.t 7))),(Qg 61 57 true (.bin .sub (.t 60) (.c (.iv 1)))),(Qg 62 57 true (.idx 8 (.t 59) (.t 61))),(Qg 63 57 true (.fld 0 (.t 62))),(Qg 64 57 true (.load (.t 63))),(Qg 65 57 true (.fld 0 (.t 8))),(Qg 66 57 true (.load (.t 65))),(Qg 67 57 true (.bin .geq (.t 64) (.t 66))),(Qg 68 54 false (.pick (.t 57) (.t 67) (.c .ff))),(Qa 69 (.pick (.t 54) (.c .tt) (.t 68)))] [[],[0],[1],[2],[3],[4,3],[3],[6,3],[5,7,3],[3,8],[9,3],[10],[11,10],[10],[12,13,10],[10,14],[15,10],[16],[17,16],[18,16,16],[19],[20,19],[19],[22,19],[21,23,19],[24,19],[25,19],[19],[27,19],[26,28,19],[19,29,16],[16,30]] [[1],[0,2],[1,3],[2,4,5,6,7,8,9],[3,5],[3,4,8],[3,7],[3,6,8],[3,5,7,9],[3,8,10],[9,11,12,13,14,15],[10,12],[10,11,14],[10,14],[10,12,13,15],[10,14,16],[15,17,18,19,30,31],[16,18],[16,17,19],[16,18,20,21,22,23,24,25,26,27,28,29,30],[19,21],[19,20,24],[19,23],[19,22,24],[19,21,23,25],[19,24,26],[19,25,29],[19,28],[19,27,29],[19,26,28,30],[16,19,29,31],[16,30]]) (.ite (.t 69) (.seq (.reg [(Qa 70 (.build [.iv 0,.nl] [])),(Qb (.store 2 (.t 2) (.t 70))),(Qa 3 (.mv (.c .ff)))]) (.ret)) (.skip))) (.seq (.seq (.reg [(Qa 72 (.mv (.t 0))),(Qa 73 (.fld 0 (.t 8))),(Qa 74 (.load (.t 73))),(Qa 75 (.idx 3 (.t 72) (.t 74))),(Qa 76 (.loadA 3 (.t 75))),(Qa 77 (.mv (.t 5))),(Qa 78 (.call 24 [(.t 76),(.t 77)])),(Qa 71 (.mv (.t 78))),(Qa 79 (.ext (.t 71) 0)),(Qa 80 (.ext (.t 71) 1)),(Qa 9 (.alloc 49 [.iv 0,.iv 0,.iv 0,.ff,.ff,.ff,.ff,.ff])),(Qb (.store 8 (.t 9) (.t 79))),(Qa 10 (.mv (.t 80)))]) (.seq (.reg [(Qa 81 (.mv (.t 10))),(Qa 82 (.not (.t 81)))]) (.ite (.t 82) (.seq (.reg [(Qa 83 (.build [.iv 0,.nl] [])),(Qb (.store 2 (.t 2) (.t 83))),(Qa 3 (.mv (.c .ff)))]) (.ret)) (.skip)))) (.seq (.reg [(Qa 84 (.mv (.t 5))),(Qa 85 (.fld 0 (.t 8))),(Qa 86 (.load (.t 85))),(Qa 87 (.bin .lss (.t 84) (.t 86)))]) (.ite (.t 87) (.reg [(Qa 88 (.fld 1 (.t 4))),(Qa 89 (.load (.t 88))),(Qa 90 (.mv (.t 5))),(Qa 91 (.fld 0 (.t 8))),(Qa 92 (.load (.t 91))),(Qa 93 (.build [.iv 0,.iv 0] [(0,1,(.t 90)),(1,1,(.t 92))])),(Qa 94 (.bsl 58 2 1 [.iv 0,.iv 0] [(0,(.t 93))])),(Qa 95 (.app 58 2 16 (.t 89) (.t 94))),(Qa 96 (.fld 1 (.t 4))),(Qb (.store 1 (.t 96) (.t 95)))]) (.skip))))))) (.reg [(Qa 97 (.bin .add (.t 33) (.c (.iv 1)))),(Qa 33 (.mv (.t 97)))])))
def Zr9:EC:=.seq (.reg [(Qa 21 (.bin .lss (.t 20) (.t 19)))]) (.seq (.ite (.t 21) (.skip) (.exit 0)) (.seq (.blk 1 (.seq (.reg [(Qa 22 (.mv (.t 20))),(Qa 23 (.idx 3 (.t 18) (.t 20))),(Qa 24 (.loadA 3 (.t 23))),(Qa 6 (.alloc 39 [.iv 0,.iv 0,.nl])),(Qa 5 (.mv (.t 22))),(Qb (.store 3 (.t 6) (.t 24)))]) (.seq (.seq (.reg [(Qa 25 (.fld 0 (.t 6))),(Qa 26 (.load (.t 25))),(Qa 27 (.mv (.t 5))),(Qa 28 (.bin .neq (.t 26) (.t 27)))]) (.ite (.t 28) (.seq (.reg [(Qa 29 (.build [.iv 0,.nl] [])),(Qb (.store 2 (.t 2) (.t 29))),(Qa 3 (.mv (.c .ff)))]) (.ret)) (.skip))) (.seq (.reg [(Qa 30 (.fld 2 (.t 6))),(Qa 31 (.load (.t 30))),(Qa 32 (.len (.t 31))),(Qa 33 (.mv (.c (.iv 0))))]) (.blk 2 (.loop Zq9)))))) (.reg [(Qa 98 (.bin .add (.t 20) (.c (.iv 1)))),(Qa 20 (.mv (.t 98)))])))
def e21:EC:=.seq (.reg [(Qa 2 (.alloc 24 [.iv 0,.nl])),(Qa 3 (.mv (.c .ff)))]) (.seq (.seq (.reg [(Qa 11 (.mv (.t 0))),(Qa 12 (.len (.t 11))),(Qa 13 (.bin .gtr (.t 12) (.c (.iv 64))))]) (.ite (.t 13) (.seq (.reg [(Qa 14 (.build [.iv 0,.nl] [])),(Qb (.store 2 (.t 2) (.t 14))),(Qa 3 (.mv (.c .ff)))]) (.ret)) (.skip))) (.seq (.reg [(Qa 15 (.mv (.t 0))),(Qa 16 (.len (.t 15))),(Qa 17 (.build [.iv 0,.nl] [(0,1,(.t 16))])),(Qa 4 (.alloc 24 [.iv 0,.nl])),(Qb (.store 2 (.t 4) (.t 17)))]) (.seq (.seq (.reg [(Qa 18 (.mv (.t 0))),(Qa 19 (.len (.t 18))),(Qa 20 (.mv (.c (.iv 0))))]) (.blk 0 (.loop Zr9))) (.seq (.seq (.reg [(Qa 99 (.loadA 2 (.t 4))),(Qa 100 (.call 49 [(.t 99)])),(Qa 101 (.bin .neq (.t 100) (.c (.iv 0))))]) (.ite (.t 101) (.seq (.reg [(Qa 102 (.build [.iv 0,.nl] [])),(Qb (.store 2 (.t 2) (.t 102))),(Qa 3 (.mv (.c .ff)))]) (.ret)) (.skip))) (.seq (.reg [(Qa 103 (.loadA 2 (.t 4))),(Qb (.store 2 (.t 2) (.t 103))),(Qa 3 (.mv (.c .tt)))]) (.ret))))))
theorem ok21:FnOK Try.prog 21 Try.f21 e21 [.c 2 (some 2),.t 3] 1 103:=⟨by kernel_rfl,⟨_,rfl,by kernel_rfl⟩,by kernel_rfl,by kernel_rfl⟩
noncomputable def Zs9 (x1:(List Diner)):(List Edge)→Option (Graph×Bool)
| x78=>
 (Zc7 ((Graph.mk (ln Diner.row x1) x78))).bind fun x79=>
 ifb (!decide (x79=0)) (
 some ((Graph.mk 0 (([]:(List Edge)))),false)) (
 some ((Graph.mk (ln Diner.row x1) x78),true))
noncomputable def Zt9 (x35:Int):(List Edge)→Option ((Int×(List Edge)) ⊕ (Graph×Bool))
| x69=>
 some (.inl (wr (x35+1),x69))
noncomputable def Zu9 (x47:Int):(List Edge)→Option ((Int×(List Edge)) ⊕ ((Int×(List Edge)) ⊕ (Graph×Bool)))
| x55=>
 some (.inl (wr (x47+1),x55))
noncomputable def Zv9 (x1:(List Diner)) (x35:Int) (x47:Int) (x48:(List Edge)) (x49:Side):Bool→Option ((Int×(List Edge)) ⊕ ((Int×(List Edge)) ⊕ (Graph×Bool)))
| x51=>
 ifb x51 (
 Option.map Sum.inr (Option.map Sum.inr (some ((Graph.mk 0 (([]:(List Edge)))),false)))) (
 (at_ x1 x49.Peer).bind fun x52=>
 (Zr8 x52 x35).bind fun x53=>
 ifb (!x53.2) (
 Option.map Sum.inr (Option.map Sum.inr (some ((Graph.mk 0 (([]:(List Edge)))),false)))) (
 ifb (decide (x35<x49.Peer)) (
 (Za4 16 x48 ([(Edge.mk x35 x49.Peer)])).bind fun x54=>
 (Zu9 x47) x54) (
 (Zu9 x47) x48)))
noncomputable def Zw9 (x1:(List Diner)) (x35:Int) (x37:Diner):(Int×(List Edge))→Option ((Int×(List Edge)) ⊕ ((Int×(List Edge)) ⊕ (Graph×Bool)))
| (x47,x48)=>
 ifb (decide (x47<(ln Side.row x37.Sides))) (
 (at_ x37.Sides x47).bind fun x49=>
 ifb (decide (x49.Peer<0)) (
 (Zv9 x1 x35 x47 x48 x49) true) (
 ifb (decide ((ln Diner.row x1)≤x49.Peer)) (
 (Zv9 x1 x35 x47 x48 x49) true) (
 ifb (decide (x49.Peer=x35)) (
 (Zv9 x1 x35 x47 x48 x49) true) (
 ifb (decide (0<x47)) (
 (at_ x37.Sides (wr (x47-1))).bind fun x50=>
 (Zv9 x1 x35 x47 x48 x49) (decide (x49.Peer≤x50.Peer))) (
 (Zv9 x1 x35 x47 x48 x49) false))))) (
 Option.map Sum.inr ((Zt9 x35) x48))
noncomputable def Zx9 (x1:(List Diner)):(Int×(List Edge))→Option ((Int×(List Edge)) ⊕ (Graph×Bool))
| (x35,x36)=>
 ifb (decide (x35<(ln Diner.row x1))) (
 (at_ x1 x35).bind fun x37=>
 ifb (!decide (x37.ID=x35)) (
 Option.map Sum.inr (some ((Graph.mk 0 (([]:(List Edge)))),false))) (
 loop (Zw9 x1 x35 x37) (0,x36))) (
 Option.map Sum.inr ((Zs9 x1) x36))
noncomputable def Zy9 (x1:(List Diner)):Option (Graph×Bool):=
 ifb (decide (64<(ln Diner.row x1))) (
 some ((Graph.mk 0 (([]:(List Edge)))),false)) (
 loop (Zx9 x1) (0,([]:List Edge)))
theorem k_place_Graph (x1:(List Diner)) (r:(Graph×Bool)) (h:Zy9 x1=some r):Zq2 Try.prog 21 [.sl 3 (List.map Diner.row x1)] (.tup [.agg (Graph.row r.1),.bv r.2]):=by
 refine Zu2 ok21 rfl rfl fun w0 H0=>?_
 rw [Zy9] at h
 refine Zl2 12 ?_;dsimp only [e21,Zr9,Zq9,go_sem];refine ⟨by simp,?_⟩;refine Zn4 h rfl (fun _ h=>?_) fun _ h=>?_
 ·refine Zl2 6 ?_;dsimp only [e21,Zr9,Zq9,go_sem];refine ⟨by simp,?_⟩;exact Zx4 (res:=fun (r:(Graph×Bool))=>.tup [.agg (Graph.row r.1),.bv r.2]) ok21 h
 ·refine Zl2 16 ?_;dsimp only [e21,Zr9,Zq9,go_sem];refine ⟨by simp,?_⟩;refine Zl4 (fun (x78:(List Edge))=>(⟨(.any :: .any :: .ptr 0 0 :: .any :: .ptr 1 0::an 99 []),[some ⟨24,[.iv 0,.nl]⟩,some ⟨24,[.iv (ln Diner.row x1),.osl 0]⟩],[some ⟨58,2,List.map Edge.row x78⟩]⟩:St)) (Zs9 x1) r ?_ fun J1=>?_
  ·intro x78 h;rw [Zs9] at h;(try dsimp only);refine Zl2 4 ?_;dsimp only [e21,Zr9,Zq9,go_sem];refine ⟨by simp,?_⟩;obtain ⟨x79,ex79,h⟩:=Option.bind_eq_some_iff.1 h;refine Z25 trivial ((Z05.refl _).slice 0 rfl) (Zd7 ((Graph.mk (ln Diner.row x1) x78)) _ ex79) (h:=?_);refine Zl2 2 ?_;dsimp only [e21,Zr9,Zq9,go_sem];refine ⟨by simp,?_⟩;refine Zn4 h rfl (fun _ h=>?_) fun _ h=>?_
   ·refine Zl2 6 ?_;dsimp only [e21,Zr9,Zq9,go_sem];refine ⟨by simp,?_⟩;exact Zx4 (res:=fun (r:(Graph×Bool))=>.tup [.agg (Graph.row r.1),.bv r.2]) ok21 h
   ·refine Zl2 7 ?_;dsimp only [e21,Zr9,Zq9,go_sem];refine ⟨by simp,?_⟩;refine Z83 0 rfl ?_;dsimp only [go_sem];exact Zx4 (res:=fun (r:(Graph×Bool))=>.tup [.agg (Graph.row r.1),.bv r.2]) ok21 h
  ·refine Zl2 1 ?_;dsimp only [e21,Zr9,Zq9,go_sem];refine ⟨by simp,?_⟩;refine V_ownB 1 1 58 2 rfl rfl rfl ?_;dsimp only [go_sem];refine Zm4 h (fun ((x35,x36):(Int×(List Edge)))=>(⟨(.sl 3 (List.map Diner.row x1) :: .any :: .ptr 0 0 :: .any :: .ptr 1 0::an 13 (.sl 3 (List.map Diner.row x1) :: .iv (ln Diner.row x1) :: .iv x35::an 83 [])),[some ⟨24,[.iv 0,.nl]⟩,some ⟨24,[.iv (ln Diner.row x1),.osl 0]⟩],[some ⟨58,2,List.map Edge.row x36⟩]⟩:St)) (by simp [go_sem]) (by rintro ⟨x35,x36⟩;first | rfl | simp [go_sem]) ?_;rintro n1 ⟨x35,x36⟩ y1 h hin1 hout1
   rw [Zx9] at h;(try dsimp only);refine Zl2 5 ?_;dsimp only [e21,Zr9,Zq9,go_sem];refine ⟨by simp,?_⟩;refine Zn4 h rfl (fun _ h=>?_) fun _ h=>?_
   ·refine Zl2 6 ?_;dsimp only [e21,Zr9,Zq9,go_sem];refine ⟨by simp,?_⟩;obtain ⟨x37,ex37,h⟩:=Option.bind_eq_some_iff.1 h;refine Zq4 Diner.row ex37 trivial rfl rfl rfl ?_;refine Zl2 13 ?_;dsimp only [e21,Zr9,Zq9,go_sem];refine ⟨by simp,?_⟩;refine Zn4 h rfl (fun _ h=>?_) fun _ h=>?_
    ·refine Zl2 6 ?_;dsimp only [e21,Zr9,Zq9,go_sem];refine ⟨by simp,?_⟩;exact Zx4 (res:=fun (r:(Graph×Bool))=>.tup [.agg (Graph.row r.1),.bv r.2]) ok21 (Zk4 h hout1)
    ·refine Zl2 8 ?_;dsimp only [e21,Zr9,Zq9,go_sem];refine ⟨by simp,?_⟩;refine Zl4 (fun (x69:(List Edge))=>(⟨(.sl 3 (List.map Diner.row x1) :: .any :: .ptr 0 0 :: .any :: .ptr 1 0::an 13 (.sl 3 (List.map Diner.row x1) :: .iv (ln Diner.row x1) :: .iv x35::an 83 [])),[some ⟨24,[.iv 0,.nl]⟩,some ⟨24,[.iv (ln Diner.row x1),.osl 0]⟩],[some ⟨58,2,List.map Edge.row x69⟩]⟩:St)) (Zt9 x35) y1 ?_ fun J2=>?_
     ·intro x69 h;rw [Zt9] at h;(try dsimp only);refine Zl2 5 ?_;dsimp only [e21,Zr9,Zq9,go_sem];refine ⟨by simp,?_⟩;exact Zy4 h hin1
     ·refine Zl2 1 ?_;dsimp only [e21,Zr9,Zq9,go_sem];refine ⟨by simp,?_⟩
      refine Zm4 h (fun ((x47,x48):(Int×(List Edge)))=>(⟨(.sl 3 (List.map Diner.row x1) :: .any :: .ptr 0 0 :: .any :: .ptr 1 0 :: .iv x35 :: .ptr 2 0::an 11 (.sl 3 (List.map Diner.row x1) :: .iv (ln Diner.row x1) :: .iv x35::an 10 (.sl 8 (List.map Side.row x37.Sides) :: .iv (ln Side.row x37.Sides) :: .iv x47::an 70 []))),[some ⟨24,[.iv 0,.nl]⟩,some ⟨24,[.iv (ln Diner.row x1),.osl 0]⟩,some ⟨39,[.iv x37.ID,.iv x37.Phase,.sl 8 (List.map Side.row x37.Sides)]⟩],[some ⟨58,2,List.map Edge.row x48⟩]⟩:St)) (by simp [go_sem]) (by rintro ⟨x47,x48⟩;first | rfl | simp [go_sem]) ?_
      rintro n2 ⟨x47,x48⟩ y2 h hin2 hout2;rw [Zw9] at h;(try dsimp only);refine Zl2 5 ?_;dsimp only [e21,Zr9,Zq9,go_sem];refine ⟨by simp,?_⟩;refine Zn4 h rfl (fun _ h=>?_) fun _ h=>?_
      ·refine Zl2 6 ?_;dsimp only [e21,Zr9,Zq9,go_sem];refine ⟨by simp,?_⟩;obtain ⟨x49,ex49,h⟩:=Option.bind_eq_some_iff.1 h;refine Zq4 Side.row ex49 trivial rfl rfl rfl ?_;refine Zl2 7 ?_;dsimp only [e21,Zr9,Zq9,go_sem];refine ⟨by simp,?_⟩
       refine Zl4 (fun (x51:Bool)=>(⟨(.sl 3 (List.map Diner.row x1) :: .any :: .ptr 0 0 :: .any :: .ptr 1 0 :: .iv x35 :: .ptr 2 0 :: .any :: .ptr 3 0::an 9 (.sl 3 (List.map Diner.row x1) :: .iv (ln Diner.row x1) :: .iv x35::an 10 (.sl 8 (List.map Side.row x37.Sides) :: .iv (ln Side.row x37.Sides) :: .iv x47::an 35 (.bv x51::an 34 [])))),[some ⟨24,[.iv 0,.nl]⟩,some ⟨24,[.iv (ln Diner.row x1),.osl 0]⟩,some ⟨39,[.iv x37.ID,.iv x37.Phase,.sl 8 (List.map Side.row x37.Sides)]⟩,some ⟨49,[.iv x49.Peer,.iv x49.Epoch,.iv x49.State,.bv x49.Fork,.bv x49.Dirty,.bv x49.Token,.bv x49.Bottle,.bv x49.Ask]⟩],[some ⟨58,2,List.map Edge.row x48⟩]⟩:St)) (Zv9 x1 x35 x47 x48 x49) y2 ?_ fun J3=>?_
       ·intro x51 h;rw [Zv9] at h;(try dsimp only);refine Zn4 h rfl (fun _ h=>?_) fun _ h=>?_
        ·refine Zl2 6 ?_;dsimp only [e21,Zr9,Zq9,go_sem];refine ⟨by simp,?_⟩;exact Zx4 (res:=fun (r:(Graph×Bool))=>.tup [.agg (Graph.row r.1),.bv r.2]) ok21 (Zk4 (Zk4 h hout2) hout1)
        ·refine Zl2 7 ?_;dsimp only [e21,Zr9,Zq9,go_sem];refine ⟨by simp,?_⟩;obtain ⟨x52,ex52,h⟩:=Option.bind_eq_some_iff.1 h;refine Zq4 Diner.row ex52 trivial rfl rfl rfl ?_;refine Zl2 2 ?_;dsimp only [e21,Zr9,Zq9,go_sem];refine ⟨by simp,?_⟩;obtain ⟨x53,ex53,h⟩:=Option.bind_eq_some_iff.1 h;refine Zz2 trivial (Zs8 x52 x35 _ ex53) (h:=?_);refine Zl2 12 ?_;dsimp only [e21,Zr9,Zq9,go_sem];refine ⟨by simp,?_⟩;refine Zn4 h rfl (fun _ h=>?_) fun _ h=>?_
         ·refine Zl2 6 ?_;dsimp only [e21,Zr9,Zq9,go_sem];refine ⟨by simp,?_⟩;exact Zx4 (res:=fun (r:(Graph×Bool))=>.tup [.agg (Graph.row r.1),.bv r.2]) ok21 (Zk4 (Zk4 h hout2) hout1)
         ·refine Zl2 8 ?_;dsimp only [e21,Zr9,Zq9,go_sem];refine ⟨by simp,?_⟩
          refine Zl4 (fun (x55:(List Edge))=>(⟨(.sl 3 (List.map Diner.row x1) :: .any :: .ptr 0 0 :: .any :: .ptr 1 0 :: .iv x35 :: .ptr 2 0::an 11 (.sl 3 (List.map Diner.row x1) :: .iv (ln Diner.row x1) :: .iv x35::an 10 (.sl 8 (List.map Side.row x37.Sides) :: .iv (ln Side.row x37.Sides) :: .iv x47::an 70 []))),[some ⟨24,[.iv 0,.nl]⟩,some ⟨24,[.iv (ln Diner.row x1),.osl 0]⟩,some ⟨39,[.iv x37.ID,.iv x37.Phase,.sl 8 (List.map Side.row x37.Sides)]⟩],[some ⟨58,2,List.map Edge.row x55⟩]⟩:St)) (Zu9 x47) y2 ?_ fun J4=>?_
          ·intro x55 h;rw [Zu9] at h;(try dsimp only);refine Zl2 5 ?_;dsimp only [e21,Zr9,Zq9,go_sem];refine ⟨by simp,?_⟩;exact Zy4 h hin2
          ·refine Zn4 h rfl (fun _ h=>?_) fun _ h=>?_
           ·refine Zl2 8 ?_;dsimp only [e21,Zr9,Zq9,go_sem];refine ⟨by simp,?_⟩;obtain ⟨x54,ex54,h⟩:=Option.bind_eq_some_iff.1 h;refine Zt4 Edge.row ex54 trivial rfl rfl rfl ?_;refine Zl2 3 ?_;dsimp only [e21,Zr9,Zq9,go_sem];refine ⟨by simp,?_⟩;refine Z44 2 0 rfl rfl rfl ?_;dsimp only [go_sem];exact Zz4 J4 (s:=x54) h
           ·refine Zl2 1 ?_;dsimp only [e21,Zr9,Zq9,go_sem];refine ⟨by simp,?_⟩;exact Zz4 J4 (s:=x48) h
       ·refine Zh3 (by kernel_rfl) fun all hall hs hnap haf=>?_;dsimp only [go_sem]
        refine Zi5 hall hs haf hnap 4 28 [true,true,true,true,false,false,false,false,false,false,false,false,false,false,false,false,false,false,false,false,false,false,false,false,false,false,false,false,false,false,false,false] (⟨(.sl 3 (List.map Diner.row x1) :: .any :: .ptr 0 0 :: .any :: .ptr 1 0 :: .iv x35 :: .ptr 2 0 :: .iv x47 :: .ptr 3 0::an 9 (.sl 3 (List.map Diner.row x1) :: .iv (ln Diner.row x1) :: .iv x35::an 10 (.sl 8 (List.map Side.row x37.Sides) :: .iv (ln Side.row x37.Sides) :: .iv x47 :: .bv (decide (x47<(ln Side.row x37.Sides))) :: .iv x47 :: .elt [.iv x49.Peer,.iv x49.Epoch,.iv x49.State,.bv x49.Fork,.bv x49.Dirty,.bv x49.Token,.bv x49.Bottle,.bv x49.Ask] 0 :: .agg [.iv x49.Peer,.iv x49.Epoch,.iv x49.State,.bv x49.Fork,.bv x49.Dirty,.bv x49.Token,.bv x49.Bottle,.bv x49.Ask] :: .ptr 3 0 :: .iv x49.Peer :: .bv (decide (x49.Peer<0)) :: .bv (decide (x49.Peer<0))::an 62 []))),[some ⟨24,[.iv 0,.nl]⟩,some ⟨24,[.iv (ln Diner.row x1),.osl 0]⟩,some ⟨39,[.iv x37.ID,.iv x37.Phase,.sl 8 (List.map Side.row x37.Sides)]⟩,some ⟨49,[.iv x49.Peer,.iv x49.Epoch,.iv x49.State,.bv x49.Fork,.bv x49.Dirty,.bv x49.Token,.bv x49.Bottle,.bv x49.Ask]⟩],[some ⟨58,2,List.map Edge.row x48⟩]⟩:St) (by kernel_rfl) ?_
        refine Z75 41 h rfl (fun _ h=>?_) fun _ h=>?_
        ·dsimp only [go_sem]
         refine Zi5 hall hs haf hnap 28 0 [true,true,true,true,true,true,true,true,true,true,true,true,true,true,true,true,true,true,true,true,true,true,true,true,true,true,true,true,true,true,true,true] (⟨(.sl 3 (List.map Diner.row x1) :: .any :: .ptr 0 0 :: .any :: .ptr 1 0 :: .iv x35 :: .ptr 2 0 :: .iv x47 :: .ptr 3 0::an 9 (.sl 3 (List.map Diner.row x1) :: .iv (ln Diner.row x1) :: .iv x35::an 10 (.sl 8 (List.map Side.row x37.Sides) :: .iv (ln Side.row x37.Sides) :: .iv x47 :: .bv (decide (x47<(ln Side.row x37.Sides))) :: .iv x47 :: .elt [.iv x49.Peer,.iv x49.Epoch,.iv x49.State,.bv x49.Fork,.bv x49.Dirty,.bv x49.Token,.bv x49.Bottle,.bv x49.Ask] 0 :: .agg [.iv x49.Peer,.iv x49.Epoch,.iv x49.State,.bv x49.Fork,.bv x49.Dirty,.bv x49.Token,.bv x49.Bottle,.bv x49.Ask] :: .ptr 3 0 :: .iv x49.Peer :: .bv (decide (x49.Peer<0)) :: .tt :: .un :: .un :: .un :: .un :: .un :: .tt :: .tt :: .un :: .un :: .un :: .un :: .tt :: .tt :: .un :: .un :: .un :: .un :: .un :: .un :: .un :: .un :: .un :: .un :: .un :: .un :: .un :: .un :: .tt::an 34 []))),[some ⟨24,[.iv 0,.nl]⟩,some ⟨24,[.iv (ln Diner.row x1),.osl 0]⟩,some ⟨39,[.iv x37.ID,.iv x37.Phase,.sl 8 (List.map Side.row x37.Sides)]⟩,some ⟨49,[.iv x49.Peer,.iv x49.Epoch,.iv x49.State,.bv x49.Fork,.bv x49.Dirty,.bv x49.Token,.bv x49.Bottle,.bv x49.Ask]⟩],[some ⟨58,2,List.map Edge.row x48⟩]⟩:St) (by kernel_rfl) ?_
         refine Zs3 rfl ?_ _;exact Zz4 J3 (s:=true) h
        ·dsimp only [go_sem]
         refine Zi5 hall hs haf hnap 7 21 [true,true,true,true,true,true,true,true,true,true,true,false,false,false,false,false,false,false,false,false,false,false,false,false,false,false,false,false,false,false,false,false] (⟨(.sl 3 (List.map Diner.row x1) :: .any :: .ptr 0 0 :: .any :: .ptr 1 0 :: .iv x35 :: .ptr 2 0 :: .iv x47 :: .ptr 3 0::an 9 (.sl 3 (List.map Diner.row x1) :: .iv (ln Diner.row x1) :: .iv x35::an 10 (.sl 8 (List.map Side.row x37.Sides) :: .iv (ln Side.row x37.Sides) :: .iv x47 :: .bv (decide (x47<(ln Side.row x37.Sides))) :: .iv x47 :: .elt [.iv x49.Peer,.iv x49.Epoch,.iv x49.State,.bv x49.Fork,.bv x49.Dirty,.bv x49.Token,.bv x49.Bottle,.bv x49.Ask] 0 :: .agg [.iv x49.Peer,.iv x49.Epoch,.iv x49.State,.bv x49.Fork,.bv x49.Dirty,.bv x49.Token,.bv x49.Bottle,.bv x49.Ask] :: .ptr 3 0 :: .iv x49.Peer :: .bv (decide (x49.Peer<0)) :: .ff :: .ptr 3 0 :: .iv x49.Peer :: .sl 3 (List.map Diner.row x1) :: .iv (ln Diner.row x1) :: .bv (decide ((ln Diner.row x1)≤x49.Peer)) :: .bv (decide ((ln Diner.row x1)≤x49.Peer)) :: .bv (decide ((ln Diner.row x1)≤x49.Peer))::an 55 []))),[some ⟨24,[.iv 0,.nl]⟩,some ⟨24,[.iv (ln Diner.row x1),.osl 0]⟩,some ⟨39,[.iv x37.ID,.iv x37.Phase,.sl 8 (List.map Side.row x37.Sides)]⟩,some ⟨49,[.iv x49.Peer,.iv x49.Epoch,.iv x49.State,.bv x49.Fork,.bv x49.Dirty,.bv x49.Token,.bv x49.Bottle,.bv x49.Ask]⟩],[some ⟨58,2,List.map Edge.row x48⟩]⟩:St) (by kernel_rfl) ?_
         refine Z75 48 h rfl (fun _ h=>?_) fun _ h=>?_
         ·dsimp only [go_sem]
          refine Zi5 hall hs haf hnap 21 0 [true,true,true,true,true,true,true,true,true,true,true,true,true,true,true,true,true,true,true,true,true,true,true,true,true,true,true,true,true,true,true,true] (⟨(.sl 3 (List.map Diner.row x1) :: .any :: .ptr 0 0 :: .any :: .ptr 1 0 :: .iv x35 :: .ptr 2 0 :: .iv x47 :: .ptr 3 0::an 9 (.sl 3 (List.map Diner.row x1) :: .iv (ln Diner.row x1) :: .iv x35::an 10 (.sl 8 (List.map Side.row x37.Sides) :: .iv (ln Side.row x37.Sides) :: .iv x47 :: .bv (decide (x47<(ln Side.row x37.Sides))) :: .iv x47 :: .elt [.iv x49.Peer,.iv x49.Epoch,.iv x49.State,.bv x49.Fork,.bv x49.Dirty,.bv x49.Token,.bv x49.Bottle,.bv x49.Ask] 0 :: .agg [.iv x49.Peer,.iv x49.Epoch,.iv x49.State,.bv x49.Fork,.bv x49.Dirty,.bv x49.Token,.bv x49.Bottle,.bv x49.Ask] :: .ptr 3 0 :: .iv x49.Peer :: .bv (decide (x49.Peer<0)) :: .ff :: .ptr 3 0 :: .iv x49.Peer :: .sl 3 (List.map Diner.row x1) :: .iv (ln Diner.row x1) :: .bv (decide ((ln Diner.row x1)≤x49.Peer)) :: .bv (decide ((ln Diner.row x1)≤x49.Peer)) :: .tt :: .un :: .un :: .un :: .un :: .tt :: .tt :: .un :: .un :: .un :: .un :: .un :: .un :: .un :: .un :: .un :: .un :: .un :: .un :: .un :: .un :: .tt::an 34 []))),[some ⟨24,[.iv 0,.nl]⟩,some ⟨24,[.iv (ln Diner.row x1),.osl 0]⟩,some ⟨39,[.iv x37.ID,.iv x37.Phase,.sl 8 (List.map Side.row x37.Sides)]⟩,some ⟨49,[.iv x49.Peer,.iv x49.Epoch,.iv x49.State,.bv x49.Fork,.bv x49.Dirty,.bv x49.Token,.bv x49.Bottle,.bv x49.Ask]⟩],[some ⟨58,2,List.map Edge.row x48⟩]⟩:St) (by kernel_rfl) ?_
          refine Zs3 rfl ?_ _;exact Zz4 J3 (s:=true) h
         ·dsimp only [go_sem]
          refine Zi5 hall hs haf hnap 6 15 [true,true,true,true,true,true,true,true,true,true,true,true,true,true,true,true,true,false,false,false,false,false,false,false,false,false,false,false,false,false,false,false] (⟨(.sl 3 (List.map Diner.row x1) :: .any :: .ptr 0 0 :: .any :: .ptr 1 0 :: .iv x35 :: .ptr 2 0 :: .iv x47 :: .ptr 3 0::an 9 (.sl 3 (List.map Diner.row x1) :: .iv (ln Diner.row x1) :: .iv x35::an 10 (.sl 8 (List.map Side.row x37.Sides) :: .iv (ln Side.row x37.Sides) :: .iv x47 :: .bv (decide (x47<(ln Side.row x37.Sides))) :: .iv x47 :: .elt [.iv x49.Peer,.iv x49.Epoch,.iv x49.State,.bv x49.Fork,.bv x49.Dirty,.bv x49.Token,.bv x49.Bottle,.bv x49.Ask] 0 :: .agg [.iv x49.Peer,.iv x49.Epoch,.iv x49.State,.bv x49.Fork,.bv x49.Dirty,.bv x49.Token,.bv x49.Bottle,.bv x49.Ask] :: .ptr 3 0 :: .iv x49.Peer :: .bv (decide (x49.Peer<0)) :: .ff :: .ptr 3 0 :: .iv x49.Peer :: .sl 3 (List.map Diner.row x1) :: .iv (ln Diner.row x1) :: .bv (decide ((ln Diner.row x1)≤x49.Peer)) :: .bv (decide ((ln Diner.row x1)≤x49.Peer)) :: .ff :: .ptr 3 0 :: .iv x49.Peer :: .iv x35 :: .bv (decide (x49.Peer=x35)) :: .bv (decide (x49.Peer=x35)) :: .bv (decide (x49.Peer=x35))::an 49 []))),[some ⟨24,[.iv 0,.nl]⟩,some ⟨24,[.iv (ln Diner.row x1),.osl 0]⟩,some ⟨39,[.iv x37.ID,.iv x37.Phase,.sl 8 (List.map Side.row x37.Sides)]⟩,some ⟨49,[.iv x49.Peer,.iv x49.Epoch,.iv x49.State,.bv x49.Fork,.bv x49.Dirty,.bv x49.Token,.bv x49.Bottle,.bv x49.Ask]⟩],[some ⟨58,2,List.map Edge.row x48⟩]⟩:St) (by kernel_rfl) ?_
          refine Z75 54 h rfl (fun _ h=>?_) fun _ h=>?_
          ·dsimp only [go_sem]
           refine Zi5 hall hs haf hnap 15 0 [true,true,true,true,true,true,true,true,true,true,true,true,true,true,true,true,true,true,true,true,true,true,true,true,true,true,true,true,true,true,true,true] (⟨(.sl 3 (List.map Diner.row x1) :: .any :: .ptr 0 0 :: .any :: .ptr 1 0 :: .iv x35 :: .ptr 2 0 :: .iv x47 :: .ptr 3 0::an 9 (.sl 3 (List.map Diner.row x1) :: .iv (ln Diner.row x1) :: .iv x35::an 10 (.sl 8 (List.map Side.row x37.Sides) :: .iv (ln Side.row x37.Sides) :: .iv x47 :: .bv (decide (x47<(ln Side.row x37.Sides))) :: .iv x47 :: .elt [.iv x49.Peer,.iv x49.Epoch,.iv x49.State,.bv x49.Fork,.bv x49.Dirty,.bv x49.Token,.bv x49.Bottle,.bv x49.Ask] 0 :: .agg [.iv x49.Peer,.iv x49.Epoch,.iv x49.State,.bv x49.Fork,.bv x49.Dirty,.bv x49.Token,.bv x49.Bottle,.bv x49.Ask] :: .ptr 3 0 :: .iv x49.Peer :: .bv (decide (x49.Peer<0)) :: .ff :: .ptr 3 0 :: .iv x49.Peer :: .sl 3 (List.map Diner.row x1) :: .iv (ln Diner.row x1) :: .bv (decide ((ln Diner.row x1)≤x49.Peer)) :: .bv (decide ((ln Diner.row x1)≤x49.Peer)) :: .ff :: .ptr 3 0 :: .iv x49.Peer :: .iv x35 :: .bv (decide (x49.Peer=x35)) :: .bv (decide (x49.Peer=x35)) :: .tt :: .un :: .un :: .un :: .un :: .un :: .un :: .un :: .un :: .un :: .un :: .un :: .un :: .un :: .un :: .tt::an 34 []))),[some ⟨24,[.iv 0,.nl]⟩,some ⟨24,[.iv (ln Diner.row x1),.osl 0]⟩,some ⟨39,[.iv x37.ID,.iv x37.Phase,.sl 8 (List.map Side.row x37.Sides)]⟩,some ⟨49,[.iv x49.Peer,.iv x49.Epoch,.iv x49.State,.bv x49.Fork,.bv x49.Dirty,.bv x49.Token,.bv x49.Bottle,.bv x49.Ask]⟩],[some ⟨58,2,List.map Edge.row x48⟩]⟩:St) (by kernel_rfl) ?_
           refine Zs3 rfl ?_ _;exact Zz4 J3 (s:=true) h
          ·dsimp only [go_sem]
           refine Zi5 hall hs haf hnap 3 12 [true,true,true,true,true,true,true,true,true,true,true,true,true,true,true,true,true,true,true,true,false,false,false,false,false,false,false,false,false,false,false,false] (⟨(.sl 3 (List.map Diner.row x1) :: .any :: .ptr 0 0 :: .any :: .ptr 1 0 :: .iv x35 :: .ptr 2 0 :: .iv x47 :: .ptr 3 0::an 9 (.sl 3 (List.map Diner.row x1) :: .iv (ln Diner.row x1) :: .iv x35::an 10 (.sl 8 (List.map Side.row x37.Sides) :: .iv (ln Side.row x37.Sides) :: .iv x47 :: .bv (decide (x47<(ln Side.row x37.Sides))) :: .iv x47 :: .elt [.iv x49.Peer,.iv x49.Epoch,.iv x49.State,.bv x49.Fork,.bv x49.Dirty,.bv x49.Token,.bv x49.Bottle,.bv x49.Ask] 0 :: .agg [.iv x49.Peer,.iv x49.Epoch,.iv x49.State,.bv x49.Fork,.bv x49.Dirty,.bv x49.Token,.bv x49.Bottle,.bv x49.Ask] :: .ptr 3 0 :: .iv x49.Peer :: .bv (decide (x49.Peer<0)) :: .ff :: .ptr 3 0 :: .iv x49.Peer :: .sl 3 (List.map Diner.row x1) :: .iv (ln Diner.row x1) :: .bv (decide ((ln Diner.row x1)≤x49.Peer)) :: .bv (decide ((ln Diner.row x1)≤x49.Peer)) :: .ff :: .ptr 3 0 :: .iv x49.Peer :: .iv x35 :: .bv (decide (x49.Peer=x35)) :: .bv (decide (x49.Peer=x35)) :: .ff :: .iv x47 :: .bv (decide (0<x47)) :: .bv (decide (0<x47))::an 46 []))),[some ⟨24,[.iv 0,.nl]⟩,some ⟨24,[.iv (ln Diner.row x1),.osl 0]⟩,some ⟨39,[.iv x37.ID,.iv x37.Phase,.sl 8 (List.map Side.row x37.Sides)]⟩,some ⟨49,[.iv x49.Peer,.iv x49.Epoch,.iv x49.State,.bv x49.Fork,.bv x49.Dirty,.bv x49.Token,.bv x49.Bottle,.bv x49.Ask]⟩],[some ⟨58,2,List.map Edge.row x48⟩]⟩:St) (by kernel_rfl) ?_
           refine Z75 57 h rfl (fun _ h=>?_) fun _ h=>?_
           ·dsimp only [go_sem]
            refine Zi5 hall hs haf hnap 6 6 [true,true,true,true,true,true,true,true,true,true,true,true,true,true,true,true,true,true,true,true,true,true,true,true,false,false,false,true,true,false,false,false] (⟨(.sl 3 (List.map Diner.row x1) :: .any :: .ptr 0 0 :: .any :: .ptr 1 0 :: .iv x35 :: .ptr 2 0 :: .iv x47 :: .ptr 3 0::an 9 (.sl 3 (List.map Diner.row x1) :: .iv (ln Diner.row x1) :: .iv x35::an 10 (.sl 8 (List.map Side.row x37.Sides) :: .iv (ln Side.row x37.Sides) :: .iv x47 :: .bv (decide (x47<(ln Side.row x37.Sides))) :: .iv x47 :: .elt [.iv x49.Peer,.iv x49.Epoch,.iv x49.State,.bv x49.Fork,.bv x49.Dirty,.bv x49.Token,.bv x49.Bottle,.bv x49.Ask] 0 :: .agg [.iv x49.Peer,.iv x49.Epoch,.iv x49.State,.bv x49.Fork,.bv x49.Dirty,.bv x49.Token,.bv x49.Bottle,.bv x49.Ask] :: .ptr 3 0 :: .iv x49.Peer :: .bv (decide (x49.Peer<0)) :: .ff :: .ptr 3 0 :: .iv x49.Peer :: .sl 3 (List.map Diner.row x1) :: .iv (ln Diner.row x1) :: .bv (decide ((ln Diner.row x1)≤x49.Peer)) :: .bv (decide ((ln Diner.row x1)≤x49.Peer)) :: .ff :: .ptr 3 0 :: .iv x49.Peer :: .iv x35 :: .bv (decide (x49.Peer=x35)) :: .bv (decide (x49.Peer=x35)) :: .ff :: .iv x47 :: .bv (decide (0<x47)) :: .tt :: .ptr 2 2 :: .sl 8 (List.map Side.row x37.Sides) :: .iv x47 :: .iv (wr (x47-1))::an 3 (.ptr 3 0 :: .iv x49.Peer::an 37 [])))),[some ⟨24,[.iv 0,.nl]⟩,some ⟨24,[.iv (ln Diner.row x1),.osl 0]⟩,some ⟨39,[.iv x37.ID,.iv x37.Phase,.sl 8 (List.map Side.row x37.Sides)]⟩,some ⟨49,[.iv x49.Peer,.iv x49.Epoch,.iv x49.State,.bv x49.Fork,.bv x49.Dirty,.bv x49.Token,.bv x49.Bottle,.bv x49.Ask]⟩],[some ⟨58,2,List.map Edge.row x48⟩]⟩:St) (by kernel_rfl) ?_
            obtain ⟨x50,ex50,h⟩:=Option.bind_eq_some_iff.1 h;refine Zr4 hall hs haf hnap 24 Side.row ex50 rfl rfl trivial rfl rfl rfl rfl ?_
            refine Zi5 hall hs haf hnap 5 0 [true,true,true,true,true,true,true,true,true,true,true,true,true,true,true,true,true,true,true,true,true,true,true,true,true,true,true,true,true,true,true,true] (⟨(.sl 3 (List.map Diner.row x1) :: .any :: .ptr 0 0 :: .any :: .ptr 1 0 :: .iv x35 :: .ptr 2 0 :: .iv x47 :: .ptr 3 0::an 9 (.sl 3 (List.map Diner.row x1) :: .iv (ln Diner.row x1) :: .iv x35::an 10 (.sl 8 (List.map Side.row x37.Sides) :: .iv (ln Side.row x37.Sides) :: .iv x47 :: .bv (decide (x47<(ln Side.row x37.Sides))) :: .iv x47 :: .elt [.iv x49.Peer,.iv x49.Epoch,.iv x49.State,.bv x49.Fork,.bv x49.Dirty,.bv x49.Token,.bv x49.Bottle,.bv x49.Ask] 0 :: .agg [.iv x49.Peer,.iv x49.Epoch,.iv x49.State,.bv x49.Fork,.bv x49.Dirty,.bv x49.Token,.bv x49.Bottle,.bv x49.Ask] :: .ptr 3 0 :: .iv x49.Peer :: .bv (decide (x49.Peer<0)) :: .ff :: .ptr 3 0 :: .iv x49.Peer :: .sl 3 (List.map Diner.row x1) :: .iv (ln Diner.row x1) :: .bv (decide ((ln Diner.row x1)≤x49.Peer)) :: .bv (decide ((ln Diner.row x1)≤x49.Peer)) :: .ff :: .ptr 3 0 :: .iv x49.Peer :: .iv x35 :: .bv (decide (x49.Peer=x35)) :: .bv (decide (x49.Peer=x35)) :: .ff :: .iv x47 :: .bv (decide (0<x47)) :: .tt :: .ptr 2 2 :: .sl 8 (List.map Side.row x37.Sides) :: .iv x47 :: .iv (wr (x47-1)) :: .elt [.iv x50.Peer,.iv x50.Epoch,.iv x50.State,.bv x50.Fork,.bv x50.Dirty,.bv x50.Token,.bv x50.Bottle,.bv x50.Ask] 0 :: .elt [.iv x50.Peer,.iv x50.Epoch,.iv x50.State,.bv x50.Fork,.bv x50.Dirty,.bv x50.Token,.bv x50.Bottle,.bv x50.Ask] 0 :: .iv x50.Peer :: .ptr 3 0 :: .iv x49.Peer :: .bv (decide (x49.Peer≤x50.Peer)) :: .bv (decide (x49.Peer≤x50.Peer)) :: .bv (decide (x49.Peer≤x50.Peer))::an 34 []))),[some ⟨24,[.iv 0,.nl]⟩,some ⟨24,[.iv (ln Diner.row x1),.osl 0]⟩,some ⟨39,[.iv x37.ID,.iv x37.Phase,.sl 8 (List.map Side.row x37.Sides)]⟩,some ⟨49,[.iv x49.Peer,.iv x49.Epoch,.iv x49.State,.bv x49.Fork,.bv x49.Dirty,.bv x49.Token,.bv x49.Bottle,.bv x49.Ask]⟩],[some ⟨58,2,List.map Edge.row x48⟩]⟩:St) (by kernel_rfl) ?_
            refine Zs3 rfl ?_ _;exact Zz4 J3 (s:=decide (x49.Peer≤x50.Peer)) h
           ·dsimp only [go_sem]
            refine Zi5 hall hs haf hnap 12 0 [true,true,true,true,true,true,true,true,true,true,true,true,true,true,true,true,true,true,true,true,true,true,true,true,true,true,true,true,true,true,true,true] (⟨(.sl 3 (List.map Diner.row x1) :: .any :: .ptr 0 0 :: .any :: .ptr 1 0 :: .iv x35 :: .ptr 2 0 :: .iv x47 :: .ptr 3 0::an 9 (.sl 3 (List.map Diner.row x1) :: .iv (ln Diner.row x1) :: .iv x35::an 10 (.sl 8 (List.map Side.row x37.Sides) :: .iv (ln Side.row x37.Sides) :: .iv x47 :: .bv (decide (x47<(ln Side.row x37.Sides))) :: .iv x47 :: .elt [.iv x49.Peer,.iv x49.Epoch,.iv x49.State,.bv x49.Fork,.bv x49.Dirty,.bv x49.Token,.bv x49.Bottle,.bv x49.Ask] 0 :: .agg [.iv x49.Peer,.iv x49.Epoch,.iv x49.State,.bv x49.Fork,.bv x49.Dirty,.bv x49.Token,.bv x49.Bottle,.bv x49.Ask] :: .ptr 3 0 :: .iv x49.Peer :: .bv (decide (x49.Peer<0)) :: .ff :: .ptr 3 0 :: .iv x49.Peer :: .sl 3 (List.map Diner.row x1) :: .iv (ln Diner.row x1) :: .bv (decide ((ln Diner.row x1)≤x49.Peer)) :: .bv (decide ((ln Diner.row x1)≤x49.Peer)) :: .ff :: .ptr 3 0 :: .iv x49.Peer :: .iv x35 :: .bv (decide (x49.Peer=x35)) :: .bv (decide (x49.Peer=x35)) :: .ff :: .iv x47 :: .bv (decide (0<x47)) :: .ff :: .un :: .un :: .un :: .un :: .un :: .un :: .un :: .un :: .un :: .un :: .ff :: .ff::an 34 []))),[some ⟨24,[.iv 0,.nl]⟩,some ⟨24,[.iv (ln Diner.row x1),.osl 0]⟩,some ⟨39,[.iv x37.ID,.iv x37.Phase,.sl 8 (List.map Side.row x37.Sides)]⟩,some ⟨49,[.iv x49.Peer,.iv x49.Epoch,.iv x49.State,.bv x49.Fork,.bv x49.Dirty,.bv x49.Token,.bv x49.Bottle,.bv x49.Ask]⟩],[some ⟨58,2,List.map Edge.row x48⟩]⟩:St) (by kernel_rfl) ?_
            refine Zs3 rfl ?_ _;exact Zz4 J3 (s:=false) h
      ·refine Zl2 1 ?_;dsimp only [e21,Zr9,Zq9,go_sem];refine ⟨by simp,?_⟩;exact Zz4 J2 (s:=x48) (Zk4 h hout2)
   ·refine Zl2 1 ?_;dsimp only [e21,Zr9,Zq9,go_sem];refine ⟨by simp,?_⟩;exact Zz4 J1 (s:=x36) (Zk4 h hout1)
def Zz9 (l:List Diner) (i:Nat) (x:Side):Bool:=
 decide (0≤x.Peer)&&(decide (x.Peer<l.length)&&(!decide (x.Peer=i)&&(match l[x.Peer.toNat]? with | some e=>(Zn9 e i).isSome | none=>false)))
def lastP (pre:List Side):Option Int:=pre.getLast?.map (·.Peer)
def riseB (p:Option Int) (x:Side):Bool:=match p with | none=>true | some q=>decide (q<x.Peer)
def Z0a (l:List Diner) (i:Nat):Option Int→List Side→Bool
 | _,[]=>true
 | p,x::r=>riseB p x&&(Zz9 l i x&&Z0a l i (some x.Peer) r)
def Z1a (i:Nat) (xs:List Side):List Edge:=(xs.filter fun x=>decide ((i:Int)<x.Peer)).map fun x=>⟨i,x.Peer⟩
def Z2a (l:List Diner):Nat→List Diner→Bool
 | _,[]=>true
 | i,d::r=>decide (d.ID=i)&&(Z0a l i none d.Sides&&Z2a l (i+1) r)
def Z3a:Nat→List Diner→List Edge
 | _,[]=>[]
 | i,d::r=>Z1a i d.Sides++Z3a (i+1) r
def Z4a:Graph:=⟨0,[]⟩
def Z5a (l:List Diner):Graph×Bool:=if Z2a l 0 l&&okG ⟨l.length,Z3a 0 l⟩ then (⟨l.length,Z3a 0 l⟩,true) else (Z4a,false)
theorem Z6a (pre:List Side) (x:Side):lastP (pre++[x])=some x.Peer:=by simp [lastP]
theorem edgesD_snoc (i:Nat) (pre:List Side) (x:Side):Z1a i (pre++[x])=if decide ((i:Int)<x.Peer) then Z1a i pre++[⟨i,x.Peer⟩] else Z1a i pre:=by
 unfold Z1a
 by_cases h:(i:Int)<x.Peer<;>simp [h]
theorem Z7a (i:Nat) (xs:List Side):(Z1a i xs).length≤xs.length:=by simp [Z1a,List.length_filter_le]
theorem Z8a:∀(a b:List Diner) (i:Nat),Z3a i (a++b)=Z3a i a++Z3a (i+a.length) b
 | [],b,i=>by simp [Z3a]
 | d::a,b,i=>by simp [Z3a,Z8a a b (i+1),Nat.add_comm,Nat.add_left_comm]
theorem Z9a:∀(l:List Diner) (i:Nat),(∀d∈l,d.Sides.length≤5000)→(Z3a i l).length≤l.length*5000
 | [],_,_=>by simp [Z3a]
 | d::l,i,h=>by
   have h1:=Z9a l (i+1) fun e he=>h e (by simp [he])
   have h2:=h d (by simp)
   have h3:=Z7a i d.Sides
   simp only [Z3a,List.length_append,List.length_cons]
   omega
theorem prev_step {γ:Type} {l pre post:List Side} {x:Side} (h:l=pre++x::post) (hl:l.length≤5000) (A:Bool→Option γ):
  ifb (decide (0<(pre.length:Int))) ((at_ l (wr ((pre.length:Int)-1))).bind fun y=>A (decide (x.Peer≤y.Peer))) (A false)=A (!riseB (lastP pre) x):=by
 rcases List.eq_nil_or_concat pre with rfl | ⟨q,y,rfl⟩
 ·simp [lastP,riseB]
 ·rw [List.concat_eq_append] at h ⊢
  have hy:l[q.length]?=some y:=by subst h;simp
  have hm:=Ze9 h
  have e:decide (0<(((q++[y]).length:Nat):Int))=true:=decide_eq_true (by simp only [Zg9];omega)
  rw [e,Z36,Zg9,wr_pred (by simp at hm;omega),Z76 hy,Option.bind_some,Z6a,riseB,←decide_not]
  congr 2
  simp
theorem inner_len {l:List Diner} {pre post:List Diner} {d:Diner} (hl:Zm9 l) (h:l=pre++d::post):(Z3a 0 pre).length≤25000000:=by
 have h1:=Z9a pre 0 fun e he=>hl.2 e (by subst h;simp [he])
 have h2:=Ze9 h
 have:=hl.1
 omega
theorem s_Graph2 (l:List Diner) (hl:Zm9 l) (i:Nat) (d:Diner) (hd:d∈l) (hi:i≤5000) (E:List Edge) (hE:E.length≤25000000):
  loop (Zw9 l i d) (0,E)=some (if Z0a l i none d.Sides then .inl (((i+1:Nat):Int),E++Z1a i d.Sides) else .inr (Z4a,false)):=by
 have hdl:=hl.2 d hd
 have key:=(Zb9 d.Sides (Zw9 l i d) (fun pre=>((pre.length:Int),E++Z1a i pre)) (fun pre post=>some (if Z0a l i (lastP pre) post then .inl (((i+1:Nat):Int),E++Z1a i (pre++post)) else .inr (Z4a,false))) ?_ ?_)
 ·rw [show Z1a i []=[] from rfl,List.append_nil] at key;exact key
 ·intro pre x post h
  have hx:=Zd9 h
  have hm:=Ze9 h
  dsimp only [Zw9]
  rw [Z96 hx,Z36,Z76 hx,Option.bind_some,prev_step h hdl (Zv9 l i pre.length (E++Z1a i pre) x)]
  have bad:Zv9 l (i:Int) pre.length (E++Z1a i pre) x true=some (.inr (.inr (Z4a,false))):=rfl
  by_cases h1:x.Peer<0
  ·right
   refine ⟨_,by rw [decide_eq_true h1,Z36,bad],?_⟩
   have:Zz9 l i x=false:=by simp [Zz9];omega
   simp [Z0a,this]
  by_cases h2:(l.length:Int)≤x.Peer
  ·right
   refine ⟨_,by rw [decide_eq_false h1,Z46,Z65,decide_eq_true h2,Z36,bad],?_⟩
   have:Zz9 l i x=false:=by simp [Zz9];omega
   simp [Z0a,this]
  by_cases h3:x.Peer=i
  ·right
   refine ⟨_,by rw [decide_eq_false h1,Z46,Z65,decide_eq_false h2,Z46,decide_eq_true h3,Z36,bad],?_⟩
   have:Zz9 l i x=false:=by simp [Zz9,h3]
   simp [Z0a,this]
  rw [decide_eq_false h1,Z46,Z65,decide_eq_false h2,Z46,decide_eq_false h3,Z46]
  cases h4:riseB (lastP pre) x with
  | false=>
    right
    exact ⟨_,by rw [Bool.not_false,bad],by simp [Z0a,h4]⟩
  | true=>
    obtain ⟨e,he1,he2⟩:=at_lt (l:=l) (i:=x.Peer) (by omega) (by omega)
    have hes:=hl.2 e (List.mem_iff_getElem?.2 ⟨_,he2⟩)
    have hsb:Zz9 l i x=(Zn9 e i).isSome:=by
     rw [Zz9,decide_eq_true (show 0≤x.Peer by omega),decide_eq_true (show x.Peer<l.length by omega),decide_eq_false h3,he2];simp
    rw [Bool.not_true]
    dsimp only [Zv9]
    rw [Z46,he1,Option.bind_some,s_Side e i (by omega),Option.bind_some]
    cases ho:Zn9 e i with
    | none=>
      right
      exact ⟨(.inr (Z4a,false)),rfl,by rw [ho] at hsb;simp [Z0a,hsb]⟩
    | some y=>
      left
      rw [ho] at hsb
      refine ⟨?_,by simp [Z0a,hsb,h4,Z6a]⟩
      simp only [sideP,Bool.not_true,Z46,Zu9]
      rw [edgesD_snoc,Zg9,Zb6 (by omega)]
      have:=Z7a i pre
      by_cases h5:(i:Int)<x.Peer
      ·rw [decide_eq_true h5,Z36,Z86 _ _ (by omega) (by simp;omega),Option.bind_some]
       simp
      ·rw [decide_eq_false h5,Z46];simp
 ·dsimp only [Zw9]
  rw [Za6,Z46,Zt9,Zb6 (by omega)]
  simp [Z0a]
theorem s_Graph (l:List Diner) (hl:Zm9 l):Zy9 l=some (Z5a l):=by
 unfold Zy9
 by_cases h64:64<l.length
 ·have:okG ⟨l.length,Z3a 0 l⟩=false:=by simp [okG];omega
  rw [Z65,decide_eq_true (by omega),Z36]
  simp [Z5a,this,Z4a]
 rw [Z65,decide_eq_false (by omega),Z46]
 refine (Zb9 l (Zx9 l) (fun pre=>((pre.length:Int),Z3a 0 pre)) (fun pre post=>some (if Z2a l pre.length post&&okG ⟨l.length,Z3a 0 (pre++post)⟩ then (⟨l.length,Z3a 0 (pre++post)⟩,true) else (Z4a,false))) ?_ ?_).trans rfl
 ·intro pre d post h
  have hx:=Zd9 h
  have hm:=Ze9 h
  have hd:=mid_mem h
  dsimp only [Zx9]
  rw [Z96 hx,Z36,Z76 hx,Option.bind_some,Z56]
  by_cases h1:d.ID=pre.length
  ·rw [decide_eq_true h1,Z36,s_Graph2 l hl pre.length d hd (by omega) _ (inner_len hl h)]
   cases h2:Z0a l pre.length none d.Sides with
   | true=>left;exact ⟨by rw [if_pos rfl,Zg9,Z8a];simp [Z3a],by simp [Z2a,h1,h2]⟩
   | false=>right;exact ⟨_,rfl,by simp [Z2a,h2]⟩
  ·right
   exact ⟨_,by rw [decide_eq_false h1,Z46];rfl,by simp [Z2a,h1,Z4a]⟩
 ·dsimp only [Zx9]
  rw [Za6,Z46,Zs9,Z65,Zr7,Option.bind_some]
  simp only [Z2a,List.append_nil,Bool.true_and]
  cases okG ⟨l.length,Z3a 0 l⟩<;>rfl
theorem Zaa (l:List Diner) (i:Nat):∀(xs:List Side) (p:Option Int),Z0a l i p xs=true↔(∀x∈xs,Zz9 l i x=true)∧xs.Pairwise (fun x y=>x.Peer<y.Peer)∧∀q,p=some q→∀x∈xs,q<x.Peer
 | [],p=>by simp [Z0a]
 | x::r,p=>by
   simp only [Z0a,Bool.and_eq_true,Zaa l i r (some x.Peer)]
   constructor
   ·rintro ⟨h1,h2,h3,h4,h5⟩
    refine ⟨fun y hy=>?_,List.pairwise_cons.2 ⟨fun y hy=>h5 _ rfl y hy,h4⟩,?_⟩
    ·rcases List.mem_cons.1 hy with rfl | hy
     ·exact h2
     ·exact h3 y hy
    ·rintro q rfl y hy
     have hq:q<x.Peer:=by simpa [riseB] using h1
     rcases List.mem_cons.1 hy with rfl | hy
     ·exact hq
     ·have:=h5 _ rfl y hy;omega
   ·rintro ⟨h1,h2,h3⟩
    rw [List.pairwise_cons] at h2
    refine ⟨?_,h1 x (by simp),fun y hy=>h1 y (by simp [hy]),h2.2,?_⟩
    ·cases p with
     | none=>rfl
     | some q=>simpa [riseB] using h3 q rfl x (by simp)
    ·rintro q e y hy
     simp at e;subst e;exact h2.1 y hy
theorem Zba (l:List Diner):∀(r:List Diner) (i:Nat),Z2a l i r=true↔∀k d,r[k]?=some d→d.ID=((i+k:Nat):Int)∧Z0a l (i+k) none d.Sides=true
 | [],i=>by simp [Z2a]
 | d::r,i=>by
   simp only [Z2a,Bool.and_eq_true,decide_eq_true_eq,Zba l r (i+1)]
   constructor
   ·rintro ⟨h1,h2,h3⟩ k e he
    cases k with
    | zero=>simp at he;subst he;exact ⟨by simpa using h1,by simpa using h2⟩
    | succ k=>
      have:=h3 k e (by simpa using he)
      rw [show i+(k+1)=i+1+k by omega];exact this
   ·intro h
    refine ⟨by simpa using (h 0 d (by simp)).1,by simpa using (h 0 d (by simp)).2,fun k e he=>?_⟩
    have:=h (k+1) e (by simpa using he)
    rw [show i+1+k=i+(k+1) by omega];exact this
theorem Zca {i:Nat} {xs:List Side} {e:Edge}:e∈Z1a i xs↔e.A=i∧(i:Int)<e.B∧∃x∈xs,x.Peer=e.B:=by
 unfold Z1a
 simp only [List.mem_map,List.mem_filter,decide_eq_true_eq]
 constructor
 ·rintro ⟨x,⟨h1,h2⟩,rfl⟩;exact ⟨rfl,h2,x,h1,rfl⟩
 ·rintro ⟨h1,h2,x,h3,h4⟩
  obtain ⟨a,b⟩:=e
  dsimp only at *
  subst h1;subst h4;exact ⟨x,⟨h3,h2⟩,rfl⟩
theorem Zda:∀ {r:List Diner} {i:Nat} {e:Edge},e∈Z3a i r↔∃k d,r[k]?=some d∧e∈Z1a (i+k) d.Sides
 | [],i,e=>by simp [Z3a]
 | d::r,i,e=>by
   simp only [Z3a,List.mem_append,Zda (r:=r)]
   constructor
   ·rintro (h | ⟨k,f,h1,h2⟩)
    ·exact ⟨0,d,by simp,by simpa using h⟩
    ·exact ⟨k+1,f,by simpa using h1,by rw [show i+(k+1)=i+1+k by omega];exact h2⟩
   ·rintro ⟨k,f,h1,h2⟩
    cases k with
    | zero=>simp at h1;subst h1;exact .inl (by simpa using h2)
    | succ k=>exact .inr ⟨k,f,by simpa using h1,by rw [show i+1+k=i+(k+1) by omega];exact h2⟩
theorem edgesD_pw {i:Nat} {xs:List Side} (h:xs.Pairwise fun x y=>x.Peer<y.Peer):(Z1a i xs).Pairwise fun x y=>x.lt y=true:=by
 unfold Z1a
 rw [List.pairwise_map]
 refine (List.Pairwise.filter _ h).imp fun hxy=>?_
 simp [Edge.lt,hxy]
theorem edgesL_pw:∀ {r:List Diner} {i:Nat},(∀d∈r,d.Sides.Pairwise fun x y=>x.Peer<y.Peer)→(Z3a i r).Pairwise fun x y=>x.lt y=true
 | [],_,_=>List.Pairwise.nil
 | d::r,i,h=>by
   simp only [Z3a]
   rw [List.pairwise_append]
   refine ⟨edgesD_pw (h d (by simp)),edgesL_pw fun e he=>h e (by simp [he]),fun x hx y hy=>?_⟩
   obtain ⟨h1,_,_⟩:=Zca.1 hx
   obtain ⟨k,e,_,hy⟩:=Zda.1 hy
   obtain ⟨h2,_,_⟩:=Zca.1 hy
   have:x.A<y.A:=by rw [h1,h2];omega
   simp [Edge.lt,this]
set_option maxRecDepth 100000
set_option maxHeartbeats 4000000
def e83:EC:=.seq (.reg [(Qa 2 (.mv (.c .ff)))]) (.seq (.reg [(Qa 3 (.mv (.t 0))),(Qa 4 (.bin .lss (.t 3) (.c (.iv 1)))),(Qa 2 (.mv (.t 4)))]) (.ret))
theorem ok83:FnOK Try.prog 83 Try.f83 e83 [.t 2] 1 4:=⟨by kernel_rfl,⟨_,rfl,by kernel_rfl⟩,by kernel_rfl,by kernel_rfl⟩
noncomputable def Zea (x1:Int):Option Bool:=
 some (decide (x1<1))
theorem Zfa (x1:Int) (r:Bool) (h:Zea x1=some r):Zq2 Try.prog 83 [.iv x1] (.bv r):=by
 refine Zu2 ok83 rfl rfl fun w0 H0=>?_
 rw [Zea] at h
 refine Zl2 10 ?_;dsimp only [e83,go_sem];refine ⟨by simp,?_⟩;exact Zx4 (res:=fun (r:Bool)=>.bv r) ok83 h
set_option maxRecDepth 100000
set_option maxHeartbeats 4000000
def e84:EC:=.seq (.reg [(Qa 2 (.box 58 2 (.t 0))),(Qa 3 (.mv (.c .ff)))]) (.seq (.drw [(Qa 4 (.load (.t 1))),(Qa 5 (.fld 0 (.t 2))),(Qa 6 (.load (.t 5))),(Qa 7 (.idx 1 (.t 4) (.t 6))),(Qa 8 (.load (.t 7))),(Qa 9 (.load (.t 1))),(Qa 10 (.fld 1 (.t 2))),(Qa 11 (.load (.t 10))),(Qa 12 (.idx 1 (.t 9) (.t 11))),(Qa 13 (.load (.t 12))),(Qa 14 (.bin .eql (.t 8) (.t 13))),(Qa 3 (.mv (.t 14)))] [[],[],[1],[0,2],[3],[],[],[6],[5,7],[8],[4,9],[10,0,1,2,3,4,5,6,7,8,9,10]] [[3],[2],[1,3],[0,2,4],[3,10],[8],[7],[6,8],[5,7,9],[8,10],[4,9,11],[10]]) (.ret))
theorem ok84:FnOK Try.prog 84 Try.f84 e84 [.t 3] 2 13:=⟨by kernel_rfl,⟨_,rfl,by kernel_rfl⟩,by kernel_rfl,by kernel_rfl⟩
noncomputable def Zga (x1:Edge) (x2:(List Int)):Option Bool:=
 (at_ x2 x1.A).bind fun x3=>
 (at_ x2 x1.B).bind fun x4=>
 some (decide (x3=x4))
theorem Zha (x1:Edge) (x2:(List Int)) (r:Bool) (h:Zga x1 x2=some r):Zq2 Try.prog 84 [.agg (Edge.row x1),.elt ((Z55 1 Z45) x2) 0] (.bv r):=by
 refine Zu2 ok84 rfl rfl fun w0 H0=>?_
 rw [Zga] at h
 refine Zl2 6 ?_;dsimp only [e84,go_sem];refine ⟨by simp,?_⟩;refine Zh3 (by kernel_rfl) fun all hall hs hnap haf=>?_;dsimp only [go_sem];refine Zi5 hall hs haf hnap 6 6 [true,true,true,false,false,true,true,true,false,false,false,false] (⟨[.agg [.iv x1.A,.iv x1.B],.elt [.sl 1 (List.map Z45 x2)] 0,.ptr 0 0,.ff,.sl 1 (List.map Z45 x2),.ptr 0 0,.iv x1.A,.un,.un,.sl 1 (List.map Z45 x2),.ptr 0 1,.iv x1.B,.un,.un,.un],[some ⟨58,[.iv x1.A,.iv x1.B]⟩],[]⟩:St) (by kernel_rfl) ?_;obtain ⟨x3,ex3,h⟩:=Option.bind_eq_some_iff.1 h
 refine Zr4 hall hs haf hnap 3 Z45 ex3 rfl rfl trivial rfl rfl rfl rfl ?_;refine Zh5 hall hs haf hnap 1 4 ?_;dsimp only [go_sem];refine ⟨by simp,?_⟩;obtain ⟨x4,ex4,h⟩:=Option.bind_eq_some_iff.1 h;refine Zr4 hall hs haf hnap 8 Z45 ex4 rfl rfl trivial rfl rfl rfl rfl ?_;refine Zh5 hall hs haf hnap 3 0 ?_;dsimp only [go_sem];refine ⟨by simp,?_⟩;refine Zs3 rfl ?_ _;exact Zx4 (res:=fun (r:Bool)=>.bv r) ok84 h
set_option maxRecDepth 100000
set_option maxHeartbeats 4000000
def e50:EC:=.seq (.reg [(Qa 2 (.box 24 2 (.t 0))),(Qa 3 (.box 25 1 (.t 1))),(Qa 4 (.mv (.c .ff)))]) (.seq (.seq (.reg [(Qa 5 (.loadA 2 (.t 2))),(Qa 6 (.call 49 [(.t 5)])),(Qa 7 (.bin .neq (.t 6) (.c (.iv 0)))),(Qa 8 (.mv (.t 7))),(Qg 9 8 false (.load (.t 3))),(Qg 10 8 false (.len (.t 9))),(Qg 11 8 false (.fld 0 (.t 2))),(Qg 12 8 false (.load (.t 11))),(Qg 13 8 false (.bin .neq (.t 10) (.t 12))),(Qa 14 (.pick (.t 8) (.c .tt) (.t 13))),(Qa 15 (.mv (.t 14))),(Qg 16 15 false (.load (.t 3))),(Qg 17 15 false (.call 82 [(.t 16),(.c (.clo 83 []))])),(Qa 18 (.pick (.t 15) (.c .tt) (.t 17)))]) (.ite (.t 18) (.seq (.reg [(Qa 4 (.mv (.c .ff)))]) (.ret)) (.skip))) (.seq (.reg [(Qa 19 (.fld 1 (.t 2))),(Qa 20 (.load (.t 19))),(Qa 21 (.mkf 84 [(.t 3)])),(Qa 22 (.call 80 [(.t 20),(.t 21)])),(Qa 23 (.not (.t 22))),(Qa 4 (.mv (.t 23)))]) (.ret)))
theorem ok50:FnOK Try.prog 50 Try.f50 e50 [.t 4] 2 22:=⟨by kernel_rfl,⟨_,rfl,by kernel_rfl⟩,by kernel_rfl,by kernel_rfl⟩
noncomputable def Zia (x1:Graph) (x2:(List Int)):Bool→Option Bool
| x5=>
 ifb x5 (
 some false) (
 (Zo6 x1.Edges ((fun z=>Zga z x2))).bind fun x6=>
 some (!x6))
noncomputable def Zja (x1:Graph) (x2:(List Int)):Option Bool:=
 (Zc7 x1).bind fun x3=>
 ifb (!decide (x3=0)) (
 (Zia x1 x2) true) (
 ifb (!decide ((ln Z45 x2)=x1.N)) (
 (Zia x1 x2) true) (
 (Zj7 x2 ((fun z=>Zea z))).bind fun x4=>
 (Zia x1 x2) x4))
theorem Zka (x1:Graph) (x2:(List Int)) (r:Bool) (h:Zja x1 x2=some r):Zq2 Try.prog 50 [.agg (Graph.row x1),.sl 1 (List.map Z45 x2)] (.bv r):=by
 refine Zu2 ok50 rfl rfl fun w0 H0=>?_
 rw [Zja] at h
 refine Zl2 10 ?_;dsimp only [e50,go_sem];refine ⟨by simp,?_⟩;obtain ⟨x3,ex3,h⟩:=Option.bind_eq_some_iff.1 h;refine Zz2 trivial (Zd7 x1 _ ex3) (h:=?_);refine Zl2 2 ?_;dsimp only [e50,go_sem];refine ⟨by simp,?_⟩;refine Zl4 (fun (x5:Bool)=>(⟨(.any :: .any :: .ptr 0 0 :: .ptr 1 0::an 14 (.bv x5::an 5 [])),[some ⟨24,[.iv x1.N,.sl 2 (List.map Edge.row x1.Edges)]⟩,some ⟨25,[.sl 1 (List.map Z45 x2)]⟩],[]⟩:St)) (Zia x1 x2) r ?_ fun J1=>?_
 ·intro x5 h;rw [Zia] at h;(try dsimp only);refine Zn4 h rfl (fun _ h=>?_) fun _ h=>?_
  ·refine Zl2 4 ?_;dsimp only [e50,go_sem];refine ⟨by simp,?_⟩;exact Zx4 (res:=fun (r:Bool)=>.bv r) ok50 h
  ·refine Zl2 6 ?_;dsimp only [e50,go_sem];refine ⟨by simp,?_⟩;obtain ⟨x6,ex6,h⟩:=Option.bind_eq_some_iff.1 h;refine Z25 trivial ((Z05.refl _).block 1 rfl rfl) (Zp6 x1.Edges _ _ ((fun z=>Zga z x2)) ⟨by kernel_rfl,rfl,fun z r hz=>Zha z x2 r hz⟩ _ ex6) (h:=?_);refine Zl2 3 ?_;dsimp only [e50,go_sem];refine ⟨by simp,?_⟩;exact Zx4 (res:=fun (r:Bool)=>.bv r) ok50 h
 ·refine Zw4 8 h rfl (fun _ h=>?_) fun _ h=>?_
  ·dsimp only [go_sem];refine Zl2 11 ?_;dsimp only [e50,go_sem];refine ⟨by simp,?_⟩;exact Zz4 J1 (s:=true) h
  ·dsimp only [go_sem];refine Zl2 7 ?_;dsimp only [e50,go_sem];refine ⟨by simp,?_⟩;refine Zw4 15 h rfl (fun _ h=>?_) fun _ h=>?_
   ·dsimp only [go_sem];refine Zl2 4 ?_;dsimp only [e50,go_sem];refine ⟨by simp,?_⟩;exact Zz4 J1 (s:=true) h
   ·dsimp only [go_sem];refine Zl2 1 ?_;dsimp only [e50,go_sem];refine ⟨by simp,?_⟩;obtain ⟨x4,ex4,h⟩:=Option.bind_eq_some_iff.1 h;refine Zz2 trivial (Zk7 x2 _ _ ((fun z=>Zea z)) ⟨by kernel_rfl,rfl,fun z r hz=>Zfa z r hz⟩ _ ex4) (h:=?_);refine Zl2 2 ?_;dsimp only [e50,go_sem];refine ⟨by simp,?_⟩;exact Zz4 J1 (s:=x4) h
set_option maxRecDepth 100000
set_option maxHeartbeats 4000000
def e52:EC:=.seq (.reg [(Qa 2 (.box 58 2 (.t 0))),(Qa 3 (.box 58 2 (.t 1))),(Qa 4 (.mv (.c .ff)))]) (.seq (.reg [(Qa 5 (.fld 0 (.t 2))),(Qa 6 (.load (.t 5))),(Qa 7 (.fld 0 (.t 3))),(Qa 8 (.load (.t 7))),(Qa 9 (.bin .lss (.t 6) (.t 8))),(Qa 10 (.mv (.t 9))),(Qg 11 10 false (.fld 0 (.t 2))),(Qg 12 10 false (.load (.t 11))),(Qg 13 10 false (.fld 0 (.t 3))),(Qg 14 10 false (.load (.t 13))),(Qg 15 10 false (.bin .eql (.t 12) (.t 14))),(Qg 16 10 false (.mv (.t 15))),(Qg 17 16 true (.fld 1 (.t 2))),(Qg 18 16 true (.load (.t 17))),(Qg 19 16 true (.fld 1 (.t 3))),(Qg 20 16 true (.load (.t 19))),(Qg 21 16 true (.bin .lss (.t 18) (.t 20))),(Qg 22 10 false (.pick (.t 16) (.t 21) (.c .ff))),(Qa 23 (.pick (.t 10) (.c .tt) (.t 22))),(Qa 4 (.mv (.t 23)))]) (.ret))
theorem ok52:FnOK Try.prog 52 Try.f52 e52 [.t 4] 2 22:=⟨by kernel_rfl,⟨_,rfl,by kernel_rfl⟩,by kernel_rfl,by kernel_rfl⟩
noncomputable def Zla:Bool→Option Bool
| x3=>
 some x3
noncomputable def Zma (x1:Edge) (x2:Edge):Option Bool:=
 ifb (decide (x1.A<x2.A)) (
 Zla true) (
 ifb (decide (x1.A=x2.A)) (
 Zla (decide (x1.B<x2.B))) (
 Zla false))
theorem Zna (x1:Edge) (x2:Edge) (r:Bool) (h:Zma x1 x2=some r):Zq2 Try.prog 52 [.agg (Edge.row x1),.agg (Edge.row x2)] (.bv r):=by
 refine Zu2 ok52 rfl rfl fun w0 H0=>?_
 rw [Zma] at h
 refine Zl2 14 ?_;dsimp only [e52,go_sem];refine ⟨by simp,?_⟩;refine Zl4 (fun (x3:Bool)=>(⟨(an 4 (.bv x3::an 19 [])),[],[]⟩:St)) Zla r ?_ fun J1=>?_
 ·intro x3 h;rw [Zla] at h;(try dsimp only);exact Zx4 (res:=fun (r:Bool)=>.bv r) ok52 h
 ·refine Zw4 10 h rfl (fun _ h=>?_) fun _ h=>?_
  ·dsimp only [go_sem];refine Zl2 15 ?_;dsimp only [e52,go_sem];refine ⟨by simp,?_⟩;exact Zz4 J1 (s:=true) h
  ·dsimp only [go_sem];refine Zl2 6 ?_;dsimp only [e52,go_sem];refine ⟨by simp,?_⟩;refine Zw4 16 h rfl (fun _ h=>?_) fun _ h=>?_
   ·dsimp only [go_sem];refine Zl2 9 ?_;dsimp only [e52,go_sem];refine ⟨by simp,?_⟩;exact Zz4 J1 (s:=decide (x1.B<x2.B)) h
   ·dsimp only [go_sem];refine Zl2 9 ?_;dsimp only [e52,go_sem];refine ⟨by simp,?_⟩;exact Zz4 J1 (s:=false) h
set_option maxRecDepth 100000
set_option maxHeartbeats 4000000
def Zoa:EC:=.seq (.seq (.reg [(Qa 19 (.mv (.t 3))),(Qa 20 (.fld 1 (.t 1))),(Qa 21 (.load (.t 20))),(Qa 22 (.len (.t 21))),(Qa 23 (.bin .lss (.t 19) (.t 22)))]) (.ite (.t 23) (.skip) (.exit 0))) (.seq (.blk 1 (.seq (.reg [(Qa 26 (.fld 1 (.t 1))),(Qa 27 (.load (.t 26))),(Qa 28 (.mv (.t 3))),(Qa 29 (.idx 2 (.t 27) (.t 28))),(Qa 30 (.loadA 2 (.t 29))),(Qa 4 (.alloc 58 [.iv 0,.iv 0])),(Qb (.store 2 (.t 4) (.t 30)))]) (.seq (.drw [(Qa 31 (.fld 0 (.t 4))),(Qa 32 (.load (.t 31))),(Qa 33 (.bin .lss (.t 32) (.c (.iv 0)))),(Qa 34 (.mv (.t 33))),(Qg 35 34 false (.fld 0 (.t 4))),(Qg 36 34 false (.load (.t 35))),(Qg 37 34 false (.fld 1 (.t 4))),(Qg 38 34 false (.load (.t 37))),(Qg 39 34 false (.bin .geq (.t 36) (.t 38))),(Qa 40 (.pick (.t 34) (.c .tt) (.t 39))),(Qa 41 (.mv (.t 40))),(Qg 42 41 false (.fld 1 (.t 4))),(Qg 43 41 false (.load (.t 42))),(Qg 44 41 false (.fld 0 (.t 1))),(Qg 45 41 false (.load (.t 44))),(Qg 46 41 false (.bin .geq (.t 43) (.t 45))),(Qa 47 (.pick (.t 41) (.c .tt) (.t 46))),(Qa 48 (.mv (.t 47))),(Qg 49 48 false (.mv (.t 3))),(Qg 50 48 false (.bin .gtr (.t 49) (.c (.iv 0)))),(Qg 51 48 false (.mv (.t 50))),(Qg 52 51 true (.fld 1 (.t 1))),(Qg 53 51 true (.load (.t 52))),(Qg 54 51 true (.mv (.t 3))),(Qg 55 51 true (.bin .sub (.t 54) (.c (.iv 1)))),(Qg 56 51 true (.idx 2 (.t 53) (.t 55))),(Qg 57 51 true (.loadA 2 (.t 56))),(Qg 58 51 true (.loadA 2 (.t 4))),(Qg 59 51 true (.call 52 [(.t 57),(.t 58)])),(Qg 60 51 true (.not (.t 59))),(Qg 61 48 false (.pick (.t 51) (.t 60) (.c .ff))),(Qa 62 (.pick (.t 48) (.c .tt) (.t 61)))] [[],[0],[1],[2],[3],[4,3],[3],[6,3],[5,7,3],[3,8],[9,3],[10],[11,10],[10],[13,10],[12,14,10],[10,15],[16,10],[17],[18,17],[19,17,17],[20],[21,20],[20],[23,20],[22,24,20],[25,20],[20],[26,27,20,20],[28,20],[20,29,17],[17,30]] [[1],[0,2],[1,3],[2,4,5,6,7,8,9],[3,5],[3,4,8],[3,7],[3,6,8],[3,5,7,9],[3,8,10],[9,11,12,13,14,15,16],[10,12],[10,11,15],[10,14],[10,13,15],[10,12,14,16],[10,15,17],[16,18,19,20,30,31],[17,19],[17,18,20],[17,19,21,22,23,24,25,26,27,28,29,30],[20,22],[20,21,25],[20,24],[20,23,25],[20,22,24,26],[20,25,28],[20,28],[20,26,27,29],[20,28,30],[17,20,29,31],[17,30]]) (.ite (.t 62) (.seq (.reg [(Qa 2 (.mv (.c .ff)))]) (.ret)) (.skip))))) (.reg [(Qa 24 (.mv (.t 3))),(Qa 25 (.bin .add (.t 24) (.c (.iv 1)))),(Qa 3 (.mv (.t 25)))]))
def e16:EC:=.seq (.reg [(Qa 1 (.box 24 2 (.t 0))),(Qa 2 (.mv (.c .ff)))]) (.seq (.seq (.reg [(Qa 5 (.fld 0 (.t 1))),(Qa 6 (.load (.t 5))),(Qa 7 (.bin .lss (.t 6) (.c (.iv 0)))),(Qa 8 (.mv (.t 7))),(Qg 9 8 false (.fld 0 (.t 1))),(Qg 10 8 false (.load (.t 9))),(Qg 11 8 false (.bin .gtr (.t 10) (.c (.iv 64)))),(Qa 12 (.pick (.t 8) (.c .tt) (.t 11))),(Qa 13 (.mv (.t 12))),(Qg 14 13 false (.fld 1 (.t 1))),(Qg 15 13 false (.load (.t 14))),(Qg 16 13 false (.len (.t 15))),(Qg 17 13 false (.bin .gtr (.t 16) (.c (.iv 400)))),(Qa 18 (.pick (.t 13) (.c .tt) (.t 17)))]) (.ite (.t 18) (.seq (.reg [(Qa 2 (.mv (.c .ff)))]) (.ret)) (.skip))) (.seq (.seq (.reg [(Qa 3 (.mv (.c (.iv 0))))]) (.blk 0 (.loop Zoa))) (.seq (.reg [(Qa 2 (.mv (.c .tt)))]) (.ret))))
theorem ok16:FnOK Try.prog 16 Try.f16 e16 [.t 2] 1 62:=⟨by kernel_rfl,⟨_,rfl,by kernel_rfl⟩,by kernel_rfl,by kernel_rfl⟩
noncomputable def Zpa:Unit→Option Bool
| ()=>
 some true
noncomputable def Zqa (x8:Int):Bool→Option (Int ⊕ Bool)
| x12=>
 ifb x12 (
 Option.map Sum.inr (some false)) (
 some (.inl (wr (x8+1))))
noncomputable def Zra (x1:Graph):Int→Option (Int ⊕ Bool)
| x8=>
 ifb (decide (x8<(ln Edge.row x1.Edges))) (
 (at_ x1.Edges x8).bind fun x9=>
 ifb (decide (x9.A<0)) (
 (Zqa x8) true) (
 ifb (decide (x9.B≤x9.A)) (
 (Zqa x8) true) (
 ifb (decide (x1.N≤x9.B)) (
 (Zqa x8) true) (
 ifb (decide (0<x8)) (
 (at_ x1.Edges (wr (x8-1))).bind fun x10=>
 (Zma x10 x9).bind fun x11=>
 (Zqa x8) (!x11)) (
 (Zqa x8) false))))) (
 Option.map Sum.inr (Zpa ()))
noncomputable def Zsa (x1:Graph):Bool→Option Bool
| x2=>
 ifb x2 (
 some false) (
 loop (Zra x1) 0)
noncomputable def Zta (x1:Graph):Option Bool:=
 ifb (decide (x1.N<0)) (
 (Zsa x1) true) (
 ifb (decide (64<x1.N)) (
 (Zsa x1) true) (
 (Zsa x1) (decide (400<(ln Edge.row x1.Edges)))))
theorem Zua (x1:Graph) (r:Bool) (h:Zta x1=some r):Zq2 Try.prog 16 [.agg (Graph.row x1)] (.bv r):=by
 refine Zu2 ok16 rfl rfl fun w0 H0=>?_
 rw [Zta] at h
 refine Zl2 12 ?_;dsimp only [e16,Zoa,go_sem];refine ⟨by simp,?_⟩;refine Zl4 (fun (x2:Bool)=>(⟨(.any :: .ptr 0 0::an 16 (.bv x2::an 44 [])),[some ⟨24,[.iv x1.N,.sl 2 (List.map Edge.row x1.Edges)]⟩],[]⟩:St)) (Zsa x1) r ?_ fun J1=>?_
 ·intro x2 h;rw [Zsa] at h;(try dsimp only);refine Zn4 h rfl (fun _ h=>?_) fun _ h=>?_
  ·refine Zl2 4 ?_;dsimp only [e16,Zoa,go_sem];refine ⟨by simp,?_⟩;exact Zx4 (res:=fun (r:Bool)=>.bv r) ok16 h
  ·refine Zl2 6 ?_;dsimp only [e16,Zoa,go_sem];refine ⟨by simp,?_⟩;refine Zl4 (fun (_:Unit)=>(⟨(an 63 []),[],[]⟩:St)) Zpa r ?_ fun J2=>?_
   ·rintro ⟨⟩ h;rw [Zpa] at h;(try dsimp only);refine Zl2 4 ?_;dsimp only [e16,Zoa,go_sem];refine ⟨by simp,?_⟩;exact Zx4 (res:=fun (r:Bool)=>.bv r) ok16 h
   ·refine Zl2 1 ?_;dsimp only [e16,Zoa,go_sem];refine ⟨by simp,?_⟩;refine Zm4 h (fun (x8:Int)=>(⟨(.any :: .ptr 0 0 :: .any :: .iv x8::an 59 []),[some ⟨24,[.iv x1.N,.sl 2 (List.map Edge.row x1.Edges)]⟩],[]⟩:St)) (by simp [go_sem]) (by intro x8;first | rfl | simp [go_sem]) ?_;rintro n1 x8 y1 h hin1 hout1;rw [Zra] at h;(try dsimp only);refine Zl2 9 ?_;dsimp only [e16,Zoa,go_sem];refine ⟨by simp,?_⟩;refine Zn4 h rfl (fun _ h=>?_) fun _ h=>?_
    ·refine Zl2 8 ?_;dsimp only [e16,Zoa,go_sem];refine ⟨by simp,?_⟩;obtain ⟨x9,ex9,h⟩:=Option.bind_eq_some_iff.1 h;refine Zq4 Edge.row ex9 trivial rfl rfl rfl ?_;refine Zl2 5 ?_;dsimp only [e16,Zoa,go_sem];refine ⟨by simp,?_⟩;refine Zl4 (fun (x12:Bool)=>(⟨(.any :: .ptr 0 0 :: .any :: .iv x8::an 58 [.bv x12]),[some ⟨24,[.iv x1.N,.sl 2 (List.map Edge.row x1.Edges)]⟩],[]⟩:St)) (Zqa x8) y1 ?_ fun J3=>?_
     ·intro x12 h;rw [Zqa] at h;(try dsimp only);refine Zn4 h rfl (fun _ h=>?_) fun _ h=>?_
      ·refine Zl2 4 ?_;dsimp only [e16,Zoa,go_sem];refine ⟨by simp,?_⟩;exact Zx4 (res:=fun (r:Bool)=>.bv r) ok16 (Zk4 h hout1)
      ·refine Zl2 7 ?_;dsimp only [e16,Zoa,go_sem];refine ⟨by simp,?_⟩;exact Zy4 h hin1
     ·refine Zh3 (by kernel_rfl) fun all hall hs hnap haf=>?_;dsimp only [go_sem]
      refine Zi5 hall hs haf hnap 4 28 [true,true,true,true,false,false,false,false,false,false,false,false,false,false,false,false,false,false,false,false,false,false,false,false,false,false,false,false,false,false,false,false] (⟨(.any :: .ptr 0 0 :: .any :: .iv x8 :: .ptr 1 0::an 14 (.iv x8 :: .ptr 0 1 :: .sl 2 (List.map Edge.row x1.Edges) :: .iv (ln Edge.row x1.Edges) :: .bv (decide (x8<(ln Edge.row x1.Edges))) :: .any :: .any :: .ptr 0 1 :: .sl 2 (List.map Edge.row x1.Edges) :: .iv x8 :: .elt [.iv x9.A,.iv x9.B] 0 :: .agg [.iv x9.A,.iv x9.B] :: .ptr 1 0 :: .iv x9.A :: .bv (decide (x9.A<0)) :: .bv (decide (x9.A<0))::an 28 [])),[some ⟨24,[.iv x1.N,.sl 2 (List.map Edge.row x1.Edges)]⟩,some ⟨58,[.iv x9.A,.iv x9.B]⟩],[]⟩:St) (by kernel_rfl) ?_
      refine Z75 34 h rfl (fun _ h=>?_) fun _ h=>?_
      ·dsimp only [go_sem]
       refine Zi5 hall hs haf hnap 28 0 [true,true,true,true,true,true,true,true,true,true,true,true,true,true,true,true,true,true,true,true,true,true,true,true,true,true,true,true,true,true,true,true] (⟨(.any :: .ptr 0 0 :: .any :: .iv x8 :: .ptr 1 0::an 14 (.iv x8 :: .ptr 0 1 :: .sl 2 (List.map Edge.row x1.Edges) :: .iv (ln Edge.row x1.Edges) :: .bv (decide (x8<(ln Edge.row x1.Edges))) :: .any :: .any :: .ptr 0 1 :: .sl 2 (List.map Edge.row x1.Edges) :: .iv x8 :: .elt [.iv x9.A,.iv x9.B] 0 :: .agg [.iv x9.A,.iv x9.B] :: .ptr 1 0 :: .iv x9.A :: .bv (decide (x9.A<0)) :: .tt :: .un :: .un :: .un :: .un :: .un :: .tt :: .tt :: .un :: .un :: .un :: .un :: .un :: .tt :: .tt :: .un :: .un :: .un :: .un :: .un :: .un :: .un :: .un :: .un :: .un :: .un :: .un :: .un :: .tt::[])),[some ⟨24,[.iv x1.N,.sl 2 (List.map Edge.row x1.Edges)]⟩,some ⟨58,[.iv x9.A,.iv x9.B]⟩],[]⟩:St) (by kernel_rfl) ?_
       refine Zs3 rfl ?_ _;exact Zz4 J3 (s:=true) h
      ·dsimp only [go_sem]
       refine Zi5 hall hs haf hnap 7 21 [true,true,true,true,true,true,true,true,true,true,true,false,false,false,false,false,false,false,false,false,false,false,false,false,false,false,false,false,false,false,false,false] (⟨(.any :: .ptr 0 0 :: .any :: .iv x8 :: .ptr 1 0::an 14 (.iv x8 :: .ptr 0 1 :: .sl 2 (List.map Edge.row x1.Edges) :: .iv (ln Edge.row x1.Edges) :: .bv (decide (x8<(ln Edge.row x1.Edges))) :: .any :: .any :: .ptr 0 1 :: .sl 2 (List.map Edge.row x1.Edges) :: .iv x8 :: .elt [.iv x9.A,.iv x9.B] 0 :: .agg [.iv x9.A,.iv x9.B] :: .ptr 1 0 :: .iv x9.A :: .bv (decide (x9.A<0)) :: .ff :: .ptr 1 0 :: .iv x9.A :: .ptr 1 1 :: .iv x9.B :: .bv (decide (x9.B≤x9.A)) :: .bv (decide (x9.B≤x9.A)) :: .bv (decide (x9.B≤x9.A))::an 21 [])),[some ⟨24,[.iv x1.N,.sl 2 (List.map Edge.row x1.Edges)]⟩,some ⟨58,[.iv x9.A,.iv x9.B]⟩],[]⟩:St) (by kernel_rfl) ?_
       refine Z75 41 h rfl (fun _ h=>?_) fun _ h=>?_
       ·dsimp only [go_sem]
        refine Zi5 hall hs haf hnap 21 0 [true,true,true,true,true,true,true,true,true,true,true,true,true,true,true,true,true,true,true,true,true,true,true,true,true,true,true,true,true,true,true,true] (⟨(.any :: .ptr 0 0 :: .any :: .iv x8 :: .ptr 1 0::an 14 (.iv x8 :: .ptr 0 1 :: .sl 2 (List.map Edge.row x1.Edges) :: .iv (ln Edge.row x1.Edges) :: .bv (decide (x8<(ln Edge.row x1.Edges))) :: .any :: .any :: .ptr 0 1 :: .sl 2 (List.map Edge.row x1.Edges) :: .iv x8 :: .elt [.iv x9.A,.iv x9.B] 0 :: .agg [.iv x9.A,.iv x9.B] :: .ptr 1 0 :: .iv x9.A :: .bv (decide (x9.A<0)) :: .ff :: .ptr 1 0 :: .iv x9.A :: .ptr 1 1 :: .iv x9.B :: .bv (decide (x9.B≤x9.A)) :: .bv (decide (x9.B≤x9.A)) :: .tt :: .un :: .un :: .un :: .un :: .un :: .tt :: .tt :: .un :: .un :: .un :: .un :: .un :: .un :: .un :: .un :: .un :: .un :: .un :: .un :: .un :: .tt::[])),[some ⟨24,[.iv x1.N,.sl 2 (List.map Edge.row x1.Edges)]⟩,some ⟨58,[.iv x9.A,.iv x9.B]⟩],[]⟩:St) (by kernel_rfl) ?_
        refine Zs3 rfl ?_ _;exact Zz4 J3 (s:=true) h
       ·dsimp only [go_sem]
        refine Zi5 hall hs haf hnap 7 14 [true,true,true,true,true,true,true,true,true,true,true,true,true,true,true,true,true,true,false,false,false,false,false,false,false,false,false,false,false,false,false,false] (⟨(.any :: .ptr 0 0 :: .any :: .iv x8 :: .ptr 1 0::an 14 (.iv x8 :: .ptr 0 1 :: .sl 2 (List.map Edge.row x1.Edges) :: .iv (ln Edge.row x1.Edges) :: .bv (decide (x8<(ln Edge.row x1.Edges))) :: .any :: .any :: .ptr 0 1 :: .sl 2 (List.map Edge.row x1.Edges) :: .iv x8 :: .elt [.iv x9.A,.iv x9.B] 0 :: .agg [.iv x9.A,.iv x9.B] :: .ptr 1 0 :: .iv x9.A :: .bv (decide (x9.A<0)) :: .ff :: .ptr 1 0 :: .iv x9.A :: .ptr 1 1 :: .iv x9.B :: .bv (decide (x9.B≤x9.A)) :: .bv (decide (x9.B≤x9.A)) :: .ff :: .ptr 1 1 :: .iv x9.B :: .ptr 0 0 :: .iv x1.N :: .bv (decide (x1.N≤x9.B)) :: .bv (decide (x1.N≤x9.B)) :: .bv (decide (x1.N≤x9.B))::an 14 [])),[some ⟨24,[.iv x1.N,.sl 2 (List.map Edge.row x1.Edges)]⟩,some ⟨58,[.iv x9.A,.iv x9.B]⟩],[]⟩:St) (by kernel_rfl) ?_
        refine Z75 48 h rfl (fun _ h=>?_) fun _ h=>?_
        ·dsimp only [go_sem]
         refine Zi5 hall hs haf hnap 14 0 [true,true,true,true,true,true,true,true,true,true,true,true,true,true,true,true,true,true,true,true,true,true,true,true,true,true,true,true,true,true,true,true] (⟨(.any :: .ptr 0 0 :: .any :: .iv x8 :: .ptr 1 0::an 14 (.iv x8 :: .ptr 0 1 :: .sl 2 (List.map Edge.row x1.Edges) :: .iv (ln Edge.row x1.Edges) :: .bv (decide (x8<(ln Edge.row x1.Edges))) :: .any :: .any :: .ptr 0 1 :: .sl 2 (List.map Edge.row x1.Edges) :: .iv x8 :: .elt [.iv x9.A,.iv x9.B] 0 :: .agg [.iv x9.A,.iv x9.B] :: .ptr 1 0 :: .iv x9.A :: .bv (decide (x9.A<0)) :: .ff :: .ptr 1 0 :: .iv x9.A :: .ptr 1 1 :: .iv x9.B :: .bv (decide (x9.B≤x9.A)) :: .bv (decide (x9.B≤x9.A)) :: .ff :: .ptr 1 1 :: .iv x9.B :: .ptr 0 0 :: .iv x1.N :: .bv (decide (x1.N≤x9.B)) :: .bv (decide (x1.N≤x9.B)) :: .tt :: .un :: .un :: .un :: .un :: .un :: .un :: .un :: .un :: .un :: .un :: .un :: .un :: .un :: .tt::[])),[some ⟨24,[.iv x1.N,.sl 2 (List.map Edge.row x1.Edges)]⟩,some ⟨58,[.iv x9.A,.iv x9.B]⟩],[]⟩:St) (by kernel_rfl) ?_
         refine Zs3 rfl ?_ _;exact Zz4 J3 (s:=true) h
        ·dsimp only [go_sem]
         refine Zi5 hall hs haf hnap 3 11 [true,true,true,true,true,true,true,true,true,true,true,true,true,true,true,true,true,true,true,true,true,false,false,false,false,false,false,false,false,false,false,false] (⟨(.any :: .ptr 0 0 :: .any :: .iv x8 :: .ptr 1 0::an 14 (.iv x8 :: .ptr 0 1 :: .sl 2 (List.map Edge.row x1.Edges) :: .iv (ln Edge.row x1.Edges) :: .bv (decide (x8<(ln Edge.row x1.Edges))) :: .any :: .any :: .ptr 0 1 :: .sl 2 (List.map Edge.row x1.Edges) :: .iv x8 :: .elt [.iv x9.A,.iv x9.B] 0 :: .agg [.iv x9.A,.iv x9.B] :: .ptr 1 0 :: .iv x9.A :: .bv (decide (x9.A<0)) :: .ff :: .ptr 1 0 :: .iv x9.A :: .ptr 1 1 :: .iv x9.B :: .bv (decide (x9.B≤x9.A)) :: .bv (decide (x9.B≤x9.A)) :: .ff :: .ptr 1 1 :: .iv x9.B :: .ptr 0 0 :: .iv x1.N :: .bv (decide (x1.N≤x9.B)) :: .bv (decide (x1.N≤x9.B)) :: .ff :: .iv x8 :: .bv (decide (0<x8)) :: .bv (decide (0<x8))::an 11 [])),[some ⟨24,[.iv x1.N,.sl 2 (List.map Edge.row x1.Edges)]⟩,some ⟨58,[.iv x9.A,.iv x9.B]⟩],[]⟩:St) (by kernel_rfl) ?_
         refine Z75 51 h rfl (fun _ h=>?_) fun _ h=>?_
         ·dsimp only [go_sem]
          refine Zi5 hall hs haf hnap 5 6 [true,true,true,true,true,true,true,true,true,true,true,true,true,true,true,true,true,true,true,true,true,true,true,true,true,false,false,true,false,false,false,false] (⟨(.any :: .ptr 0 0 :: .any :: .iv x8 :: .ptr 1 0::an 14 (.iv x8 :: .ptr 0 1 :: .sl 2 (List.map Edge.row x1.Edges) :: .iv (ln Edge.row x1.Edges) :: .bv (decide (x8<(ln Edge.row x1.Edges))) :: .any :: .any :: .ptr 0 1 :: .sl 2 (List.map Edge.row x1.Edges) :: .iv x8 :: .elt [.iv x9.A,.iv x9.B] 0 :: .agg [.iv x9.A,.iv x9.B] :: .ptr 1 0 :: .iv x9.A :: .bv (decide (x9.A<0)) :: .ff :: .ptr 1 0 :: .iv x9.A :: .ptr 1 1 :: .iv x9.B :: .bv (decide (x9.B≤x9.A)) :: .bv (decide (x9.B≤x9.A)) :: .ff :: .ptr 1 1 :: .iv x9.B :: .ptr 0 0 :: .iv x1.N :: .bv (decide (x1.N≤x9.B)) :: .bv (decide (x1.N≤x9.B)) :: .ff :: .iv x8 :: .bv (decide (0<x8)) :: .tt :: .ptr 0 1 :: .sl 2 (List.map Edge.row x1.Edges) :: .iv x8 :: .iv (wr (x8-1)) :: .any :: .any :: .agg [.iv x9.A,.iv x9.B]::an 4 [])),[some ⟨24,[.iv x1.N,.sl 2 (List.map Edge.row x1.Edges)]⟩,some ⟨58,[.iv x9.A,.iv x9.B]⟩],[]⟩:St) (by kernel_rfl) ?_
          obtain ⟨x10,ex10,h⟩:=Option.bind_eq_some_iff.1 h;refine Zr4 hall hs haf hnap 25 Edge.row ex10 rfl rfl trivial rfl rfl rfl rfl ?_;refine Zh5 hall hs haf hnap 1 4 ?_;dsimp only [go_sem];refine ⟨by simp,?_⟩;refine Zt3 28 rfl ?_;obtain ⟨x11,ex11,h⟩:=Option.bind_eq_some_iff.1 h;refine Zz3 hall rfl trivial (Zna x10 x9 _ ex11) (h:=?_);dsimp only [go_sem]
          refine Zi5 hall hs haf hnap 3 0 [true,true,true,true,true,true,true,true,true,true,true,true,true,true,true,true,true,true,true,true,true,true,true,true,true,true,true,true,true,true,true,true] (⟨(.any :: .ptr 0 0 :: .any :: .iv x8 :: .ptr 1 0::an 14 (.iv x8 :: .ptr 0 1 :: .sl 2 (List.map Edge.row x1.Edges) :: .iv (ln Edge.row x1.Edges) :: .bv (decide (x8<(ln Edge.row x1.Edges))) :: .any :: .any :: .ptr 0 1 :: .sl 2 (List.map Edge.row x1.Edges) :: .iv x8 :: .elt [.iv x9.A,.iv x9.B] 0 :: .agg [.iv x9.A,.iv x9.B] :: .ptr 1 0 :: .iv x9.A :: .bv (decide (x9.A<0)) :: .ff :: .ptr 1 0 :: .iv x9.A :: .ptr 1 1 :: .iv x9.B :: .bv (decide (x9.B≤x9.A)) :: .bv (decide (x9.B≤x9.A)) :: .ff :: .ptr 1 1 :: .iv x9.B :: .ptr 0 0 :: .iv x1.N :: .bv (decide (x1.N≤x9.B)) :: .bv (decide (x1.N≤x9.B)) :: .ff :: .iv x8 :: .bv (decide (0<x8)) :: .tt :: .ptr 0 1 :: .sl 2 (List.map Edge.row x1.Edges) :: .iv x8 :: .iv (wr (x8-1)) :: .elt [.iv x10.A,.iv x10.B] 0 :: .agg [.iv x10.A,.iv x10.B] :: .agg [.iv x9.A,.iv x9.B] :: .bv x11 :: .bv (!x11) :: .bv (!x11) :: .bv (!x11)::[])),[some ⟨24,[.iv x1.N,.sl 2 (List.map Edge.row x1.Edges)]⟩,some ⟨58,[.iv x9.A,.iv x9.B]⟩],[]⟩:St) (by kernel_rfl) ?_
          refine Zs3 rfl ?_ _;exact Zz4 J3 (s:=!x11) h
         ·dsimp only [go_sem]
          refine Zi5 hall hs haf hnap 11 0 [true,true,true,true,true,true,true,true,true,true,true,true,true,true,true,true,true,true,true,true,true,true,true,true,true,true,true,true,true,true,true,true] (⟨(.any :: .ptr 0 0 :: .any :: .iv x8 :: .ptr 1 0::an 14 (.iv x8 :: .ptr 0 1 :: .sl 2 (List.map Edge.row x1.Edges) :: .iv (ln Edge.row x1.Edges) :: .bv (decide (x8<(ln Edge.row x1.Edges))) :: .any :: .any :: .ptr 0 1 :: .sl 2 (List.map Edge.row x1.Edges) :: .iv x8 :: .elt [.iv x9.A,.iv x9.B] 0 :: .agg [.iv x9.A,.iv x9.B] :: .ptr 1 0 :: .iv x9.A :: .bv (decide (x9.A<0)) :: .ff :: .ptr 1 0 :: .iv x9.A :: .ptr 1 1 :: .iv x9.B :: .bv (decide (x9.B≤x9.A)) :: .bv (decide (x9.B≤x9.A)) :: .ff :: .ptr 1 1 :: .iv x9.B :: .ptr 0 0 :: .iv x1.N :: .bv (decide (x1.N≤x9.B)) :: .bv (decide (x1.N≤x9.B)) :: .ff :: .iv x8 :: .bv (decide (0<x8)) :: .ff :: .un :: .un :: .un :: .un :: .un :: .un :: .un :: .un :: .un :: .ff :: .ff::[])),[some ⟨24,[.iv x1.N,.sl 2 (List.map Edge.row x1.Edges)]⟩,some ⟨58,[.iv x9.A,.iv x9.B]⟩],[]⟩:St) (by kernel_rfl) ?_
          refine Zs3 rfl ?_ _;exact Zz4 J3 (s:=false) h
    ·refine Zl2 1 ?_;dsimp only [e16,Zoa,go_sem];refine ⟨by simp,?_⟩;exact Zz4 J2 (s:=()) (Zk4 h hout1)
 ·refine Zw4 8 h rfl (fun _ h=>?_) fun _ h=>?_
  ·dsimp only [go_sem];refine Zl2 11 ?_;dsimp only [e16,Zoa,go_sem];refine ⟨by simp,?_⟩;exact Zz4 J1 (s:=true) h
  ·dsimp only [go_sem];refine Zl2 5 ?_;dsimp only [e16,Zoa,go_sem];refine ⟨by simp,?_⟩;refine Zw4 13 h rfl (fun _ h=>?_) fun _ h=>?_
   ·dsimp only [go_sem];refine Zl2 6 ?_;dsimp only [e16,Zoa,go_sem];refine ⟨by simp,?_⟩;exact Zz4 J1 (s:=true) h
   ·dsimp only [go_sem];refine Zl2 6 ?_;dsimp only [e16,Zoa,go_sem];refine ⟨by simp,?_⟩;exact Zz4 J1 (s:=decide (400<(ln Edge.row x1.Edges))) h
set_option maxRecDepth 100000
set_option maxHeartbeats 4000000
def Zva:EC:=.seq (.seq (.reg [(Qa 9 (.mv (.t 7))),(Qa 10 (.fld 1 (.t 3))),(Qa 11 (.load (.t 10))),(Qa 12 (.len (.t 11))),(Qa 13 (.bin .lss (.t 9) (.t 12)))]) (.ite (.t 13) (.skip) (.exit 0))) (.seq (.blk 1 (.seq (.reg [(Qa 16 (.fld 1 (.t 3))),(Qa 17 (.load (.t 16))),(Qa 18 (.mv (.t 7))),(Qa 19 (.idx 2 (.t 17) (.t 18))),(Qa 20 (.loadA 2 (.t 19))),(Qa 8 (.alloc 58 [.iv 0,.iv 0])),(Qb (.store 2 (.t 8) (.t 20)))]) (.seq (.reg [(Qa 21 (.fld 0 (.t 8))),(Qa 22 (.load (.t 21))),(Qa 23 (.mv (.t 1))),(Qa 24 (.bin .eql (.t 22) (.t 23))),(Qa 25 (.mv (.t 24))),(Qg 26 25 true (.fld 1 (.t 8))),(Qg 27 25 true (.load (.t 26))),(Qg 28 25 true (.mv (.t 2))),(Qg 29 25 true (.bin .eql (.t 27) (.t 28))),(Qa 30 (.pick (.t 25) (.t 29) (.c .ff))),(Qa 31 (.mv (.t 30))),(Qg 32 31 true (.mv (.t 1))),(Qg 33 31 true (.mv (.t 2))),(Qg 34 31 true (.bin .leq (.t 32) (.t 33))),(Qa 35 (.pick (.t 31) (.t 34) (.c .ff))),(Qa 36 (.mv (.t 35))),(Qg 37 36 false (.fld 0 (.t 8))),(Qg 38 36 false (.load (.t 37))),(Qg 39 36 false (.mv (.t 2))),(Qg 40 36 false (.bin .eql (.t 38) (.t 39))),(Qg 41 36 false (.mv (.t 40))),(Qg 42 41 true (.fld 1 (.t 8))),(Qg 43 41 true (.load (.t 42))),(Qg 44 41 true (.mv (.t 1))),(Qg 45 41 true (.bin .eql (.t 43) (.t 44))),(Qg 46 36 false (.pick (.t 41) (.t 45) (.c .ff))),(Qg 47 36 false (.mv (.t 46))),(Qg 48 47 true (.mv (.t 2))),(Qg 49 47 true (.mv (.t 1))),(Qg 50 47 true (.bin .lss (.t 48) (.t 49))),(Qg 51 36 false (.pick (.t 47) (.t 50) (.c .ff))),(Qa 52 (.pick (.t 36) (.c .tt) (.t 51)))]) (.ite (.t 52) (.seq (.reg [(Qa 6 (.mv (.c .tt)))]) (.ret)) (.skip))))) (.reg [(Qa 14 (.mv (.t 7))),(Qa 15 (.bin .add (.t 14) (.c (.iv 1)))),(Qa 7 (.mv (.t 15)))]))
def e32:EC:=.seq (.reg [(Qa 3 (.box 24 2 (.t 0))),(Qa 6 (.mv (.c .ff)))]) (.seq (.seq (.reg [(Qa 7 (.mv (.c (.iv 0))))]) (.blk 0 (.loop Zva))) (.seq (.reg [(Qa 6 (.mv (.c .ff)))]) (.ret)))
theorem ok32:FnOK Try.prog 32 Try.f32 e32 [.t 6] 3 50:=⟨by kernel_rfl,⟨_,rfl,by kernel_rfl⟩,by kernel_rfl,by kernel_rfl⟩
noncomputable def Zwa:Unit→Option Bool
| ()=>
 some false
noncomputable def Zxa (x7:Int):Bool→Option (Int ⊕ Bool)
| x9=>
 ifb x9 (
 Option.map Sum.inr (some true)) (
 some (.inl (wr (x7+1))))
noncomputable def Zya (x1:Graph) (x2:Int) (x3:Int):Int→Option (Int ⊕ Bool)
| x7=>
 ifb (decide (x7<(ln Edge.row x1.Edges))) (
 (at_ x1.Edges x7).bind fun x8=>
 ifb (decide (x8.A=x2)) (
 ifb (decide (x8.B=x3)) (
 ifb (decide (x2≤x3)) (
 (Zxa x7) true) (
 ifb (decide (x8.A=x3)) (
 ifb (decide (x8.B=x2)) (
 (Zxa x7) (decide (x3<x2))) (
 (Zxa x7) false)) (
 (Zxa x7) false))) (
 ifb (decide (x8.A=x3)) (
 ifb (decide (x8.B=x2)) (
 (Zxa x7) (decide (x3<x2))) (
 (Zxa x7) false)) (
 (Zxa x7) false))) (
 ifb (decide (x8.A=x3)) (
 ifb (decide (x8.B=x2)) (
 (Zxa x7) (decide (x3<x2))) (
 (Zxa x7) false)) (
 (Zxa x7) false))) (
 Option.map Sum.inr (Zwa ()))
noncomputable def Zza (x1:Graph) (x2:Int) (x3:Int):Option Bool:=
 loop (Zya x1 x2 x3) 0
theorem Z0b (x1:Graph) (x2:Int) (x3:Int) (r:Bool) (h:Zza x1 x2 x3=some r):Zq2 Try.prog 32 [.agg (Graph.row x1),.iv x2,.iv x3] (.bv r):=by
 refine Zu2 ok32 rfl rfl fun w0 H0=>?_
 rw [Zza] at h
 refine Zl2 10 ?_;dsimp only [e32,Zva,go_sem];refine ⟨by simp,?_⟩;refine Zl4 (fun (_:Unit)=>(⟨(an 53 []),[],[]⟩:St)) Zwa r ?_ fun J1=>?_
 ·rintro ⟨⟩ h;rw [Zwa] at h;(try dsimp only);refine Zl2 4 ?_;dsimp only [e32,Zva,go_sem];refine ⟨by simp,?_⟩;exact Zx4 (res:=fun (r:Bool)=>.bv r) ok32 h
 ·refine Zl2 1 ?_;dsimp only [e32,Zva,go_sem];refine ⟨by simp,?_⟩;refine Zm4 h (fun (x7:Int)=>(⟨(.any :: .iv x2 :: .iv x3 :: .ptr 0 0::an 3 (.iv x7::an 45 [])),[some ⟨24,[.iv x1.N,.sl 2 (List.map Edge.row x1.Edges)]⟩],[]⟩:St)) (by simp [go_sem]) (by intro x7;first | rfl | simp [go_sem]) ?_;rintro n1 x7 y1 h hin1 hout1;rw [Zya] at h;(try dsimp only);refine Zl2 9 ?_;dsimp only [e32,Zva,go_sem];refine ⟨by simp,?_⟩;refine Zn4 h rfl (fun _ h=>?_) fun _ h=>?_
  ·refine Zl2 8 ?_;dsimp only [e32,Zva,go_sem];refine ⟨by simp,?_⟩;obtain ⟨x8,ex8,h⟩:=Option.bind_eq_some_iff.1 h;refine Zq4 Edge.row ex8 trivial rfl rfl rfl ?_;refine Zl2 11 ?_;dsimp only [e32,Zva,go_sem];refine ⟨by simp,?_⟩;refine Zl4 (fun (x9:Bool)=>(⟨(.any :: .iv x2 :: .iv x3 :: .ptr 0 0::an 3 (.iv x7::an 44 [.bv x9])),[some ⟨24,[.iv x1.N,.sl 2 (List.map Edge.row x1.Edges)]⟩],[]⟩:St)) (Zxa x7) y1 ?_ fun J2=>?_
   ·intro x9 h;rw [Zxa] at h;(try dsimp only);refine Zn4 h rfl (fun _ h=>?_) fun _ h=>?_
    ·refine Zl2 4 ?_;dsimp only [e32,Zva,go_sem];refine ⟨by simp,?_⟩;exact Zx4 (res:=fun (r:Bool)=>.bv r) ok32 (Zk4 h hout1)
    ·refine Zl2 7 ?_;dsimp only [e32,Zva,go_sem];refine ⟨by simp,?_⟩;exact Zy4 h hin1
   ·refine Zw4 25 h rfl (fun _ h=>?_) fun _ h=>?_
    ·dsimp only [go_sem];refine Zl2 6 ?_;dsimp only [e32,Zva,go_sem];refine ⟨by simp,?_⟩;refine Zw4 31 h rfl (fun _ h=>?_) fun _ h=>?_
     ·dsimp only [go_sem];refine Zl2 5 ?_;dsimp only [e32,Zva,go_sem];refine ⟨by simp,?_⟩;refine Zw4 36 h rfl (fun _ h=>?_) fun _ h=>?_
      ·dsimp only [go_sem];refine Zl2 17 ?_;dsimp only [e32,Zva,go_sem];refine ⟨by simp,?_⟩;exact Zz4 J2 (s:=true) h
      ·dsimp only [go_sem];refine Zl2 5 ?_;dsimp only [e32,Zva,go_sem];refine ⟨by simp,?_⟩;refine Zw4 41 h rfl (fun _ h=>?_) fun _ h=>?_
       ·dsimp only [go_sem];refine Zl2 6 ?_;dsimp only [e32,Zva,go_sem];refine ⟨by simp,?_⟩;refine Zw4 47 h rfl (fun _ h=>?_) fun _ h=>?_
        ·dsimp only [go_sem];refine Zl2 6 ?_;dsimp only [e32,Zva,go_sem];refine ⟨by simp,?_⟩;exact Zz4 J2 (s:=decide (x3<x2)) h
        ·dsimp only [go_sem];refine Zl2 6 ?_;dsimp only [e32,Zva,go_sem];refine ⟨by simp,?_⟩;exact Zz4 J2 (s:=false) h
       ·dsimp only [go_sem];refine Zl2 12 ?_;dsimp only [e32,Zva,go_sem];refine ⟨by simp,?_⟩;exact Zz4 J2 (s:=false) h
     ·dsimp only [go_sem];refine Zl2 10 ?_;dsimp only [e32,Zva,go_sem];refine ⟨by simp,?_⟩;refine Zw4 41 h rfl (fun _ h=>?_) fun _ h=>?_
      ·dsimp only [go_sem];refine Zl2 6 ?_;dsimp only [e32,Zva,go_sem];refine ⟨by simp,?_⟩;refine Zw4 47 h rfl (fun _ h=>?_) fun _ h=>?_
       ·dsimp only [go_sem];refine Zl2 6 ?_;dsimp only [e32,Zva,go_sem];refine ⟨by simp,?_⟩;exact Zz4 J2 (s:=decide (x3<x2)) h
       ·dsimp only [go_sem];refine Zl2 6 ?_;dsimp only [e32,Zva,go_sem];refine ⟨by simp,?_⟩;exact Zz4 J2 (s:=false) h
      ·dsimp only [go_sem];refine Zl2 12 ?_;dsimp only [e32,Zva,go_sem];refine ⟨by simp,?_⟩;exact Zz4 J2 (s:=false) h
    ·dsimp only [go_sem];refine Zl2 16 ?_;dsimp only [e32,Zva,go_sem];refine ⟨by simp,?_⟩;refine Zw4 41 h rfl (fun _ h=>?_) fun _ h=>?_
     ·dsimp only [go_sem];refine Zl2 6 ?_;dsimp only [e32,Zva,go_sem];refine ⟨by simp,?_⟩;refine Zw4 47 h rfl (fun _ h=>?_) fun _ h=>?_
      ·dsimp only [go_sem];refine Zl2 6 ?_;dsimp only [e32,Zva,go_sem];refine ⟨by simp,?_⟩;exact Zz4 J2 (s:=decide (x3<x2)) h
      ·dsimp only [go_sem];refine Zl2 6 ?_;dsimp only [e32,Zva,go_sem];refine ⟨by simp,?_⟩;exact Zz4 J2 (s:=false) h
     ·dsimp only [go_sem];refine Zl2 12 ?_;dsimp only [e32,Zva,go_sem];refine ⟨by simp,?_⟩;exact Zz4 J2 (s:=false) h
  ·refine Zl2 1 ?_;dsimp only [e32,Zva,go_sem];refine ⟨by simp,?_⟩;exact Zz4 J1 (s:=()) (Zk4 h hout1)
set_option maxRecDepth 100000
set_option maxHeartbeats 4000000
def Z1b:EC:=.seq (.seq (.reg [(Qa 6 (.mv (.t 5))),(Qa 7 (.mv (.t 1))),(Qa 8 (.len (.t 7))),(Qa 9 (.bin .lss (.t 6) (.t 8)))]) (.ite (.t 9) (.skip) (.exit 0))) (.seq (.blk 1 (.seq (.reg [(Qa 12 (.mv (.t 1))),(Qa 13 (.mv (.t 5))),(Qa 14 (.idx 1 (.t 12) (.t 13))),(Qa 15 (.load (.t 14))),(Qa 16 (.bin .lss (.t 15) (.c (.iv 0))))]) (.ite (.t 16) (.seq (.reg [(Qa 4 (.mv (.c .ff)))]) (.ret)) (.skip)))) (.reg [(Qa 10 (.mv (.t 5))),(Qa 11 (.bin .add (.t 10) (.c (.iv 1)))),(Qa 5 (.mv (.t 11)))]))
def e53:EC:=.seq (.reg [(Qa 2 (.box 24 2 (.t 0))),(Qa 4 (.mv (.c .ff)))]) (.seq (.seq (.reg [(Qa 5 (.mv (.c (.iv 0))))]) (.blk 0 (.loop Z1b))) (.seq (.reg [(Qa 17 (.mv (.t 1))),(Qa 18 (.len (.t 17))),(Qa 19 (.fld 0 (.t 2))),(Qa 20 (.load (.t 19))),(Qa 21 (.bin .eql (.t 18) (.t 20))),(Qa 4 (.mv (.t 21)))]) (.ret)))
theorem ok53:FnOK Try.prog 53 Try.f53 e53 [.t 4] 2 20:=⟨by kernel_rfl,⟨_,rfl,by kernel_rfl⟩,by kernel_rfl,by kernel_rfl⟩
noncomputable def Z2b (x1:Graph) (x2:(List Int)):Unit→Option Bool
| ()=>
 some (decide ((ln Z45 x2)=x1.N))
noncomputable def Z3b (x1:Graph) (x2:(List Int)):Int→Option (Int ⊕ Bool)
| x5=>
 ifb (decide (x5<(ln Z45 x2))) (
 (at_ x2 x5).bind fun x6=>
 ifb (decide (x6<0)) (
 Option.map Sum.inr (some false)) (
 some (.inl (wr (x5+1))))) (
 Option.map Sum.inr ((Z2b x1 x2) ()))
noncomputable def Z4b (x1:Graph) (x2:(List Int)):Option Bool:=
 loop (Z3b x1 x2) 0
theorem Z5b (x1:Graph) (x2:(List Int)) (r:Bool) (h:Z4b x1 x2=some r):Zq2 Try.prog 53 [.agg (Graph.row x1),.sl 1 (List.map Z45 x2)] (.bv r):=by
 refine Zu2 ok53 rfl rfl fun w0 H0=>?_
 rw [Z4b] at h
 refine Zl2 10 ?_;dsimp only [e53,Z1b,go_sem];refine ⟨by simp,?_⟩;refine Zl4 (fun (_:Unit)=>(⟨(.any :: .sl 1 (List.map Z45 x2) :: .ptr 0 0::an 19 []),[some ⟨24,[.iv x1.N,.sl 2 (List.map Edge.row x1.Edges)]⟩],[]⟩:St)) (Z2b x1 x2) r ?_ fun J1=>?_
 ·rintro ⟨⟩ h;rw [Z2b] at h;(try dsimp only);refine Zl2 9 ?_;dsimp only [e53,Z1b,go_sem];refine ⟨by simp,?_⟩;exact Zx4 (res:=fun (r:Bool)=>.bv r) ok53 h
 ·refine Zl2 1 ?_;dsimp only [e53,Z1b,go_sem];refine ⟨by simp,?_⟩;refine Zm4 h (fun (x5:Int)=>(⟨(.any :: .sl 1 (List.map Z45 x2) :: .ptr 0 0 :: .any :: .any :: .iv x5::an 16 []),[some ⟨24,[.iv x1.N,.sl 2 (List.map Edge.row x1.Edges)]⟩],[]⟩:St)) (by simp [go_sem]) (by intro x5;first | rfl | simp [go_sem]) ?_;rintro n1 x5 y1 h hin1 hout1;rw [Z3b] at h;(try dsimp only);refine Zl2 8 ?_;dsimp only [e53,Z1b,go_sem];refine ⟨by simp,?_⟩;refine Zn4 h rfl (fun _ h=>?_) fun _ h=>?_
  ·refine Zl2 7 ?_;dsimp only [e53,Z1b,go_sem];refine ⟨by simp,?_⟩;obtain ⟨x6,ex6,h⟩:=Option.bind_eq_some_iff.1 h;refine Zq4 Z45 ex6 trivial rfl rfl rfl ?_;refine Zl2 3 ?_;dsimp only [e53,Z1b,go_sem];refine ⟨by simp,?_⟩;refine Zn4 h rfl (fun _ h=>?_) fun _ h=>?_
   ·refine Zl2 4 ?_;dsimp only [e53,Z1b,go_sem];refine ⟨by simp,?_⟩;exact Zx4 (res:=fun (r:Bool)=>.bv r) ok53 (Zk4 h hout1)
   ·refine Zl2 7 ?_;dsimp only [e53,Z1b,go_sem];refine ⟨by simp,?_⟩;exact Zy4 h hin1
  ·refine Zl2 1 ?_;dsimp only [e53,Z1b,go_sem];refine ⟨by simp,?_⟩;exact Zz4 J1 (s:=()) (Zk4 h hout1)
set_option maxRecDepth 100000
set_option maxHeartbeats 4000000
def Z6b:EC:=.seq (.seq (.reg [(Qa 6 (.mv (.t 5))),(Qa 7 (.mv (.t 0))),(Qa 8 (.len (.t 7))),(Qa 9 (.bin .lss (.t 6) (.t 8)))]) (.ite (.t 9) (.skip) (.exit 0))) (.seq (.blk 1 (.seq (.reg [(Qa 12 (.mv (.t 0))),(Qa 13 (.mv (.t 5))),(Qa 14 (.idx 1 (.t 12) (.t 13))),(Qa 15 (.load (.t 14))),(Qa 16 (.mv (.t 1))),(Qa 17 (.bin .eql (.t 15) (.t 16)))]) (.ite (.t 17) (.seq (.reg [(Qa 4 (.mv (.c .tt)))]) (.ret)) (.skip)))) (.reg [(Qa 10 (.mv (.t 5))),(Qa 11 (.bin .add (.t 10) (.c (.iv 1)))),(Qa 5 (.mv (.t 11)))]))
def e54:EC:=.seq (.reg [(Qa 4 (.mv (.c .ff)))]) (.seq (.seq (.reg [(Qa 5 (.mv (.c (.iv 0))))]) (.blk 0 (.loop Z6b))) (.seq (.reg [(Qa 4 (.mv (.c .ff)))]) (.ret)))
theorem ok54:FnOK Try.prog 54 Try.f54 e54 [.t 4] 2 16:=⟨by kernel_rfl,⟨_,rfl,by kernel_rfl⟩,by kernel_rfl,by kernel_rfl⟩
noncomputable def Z7b:Unit→Option Bool
| ()=>
 some false
noncomputable def Z8b (x1:(List Int)) (x2:Int):Int→Option (Int ⊕ Bool)
| x5=>
 ifb (decide (x5<(ln Z45 x1))) (
 (at_ x1 x5).bind fun x6=>
 ifb (decide (x6=x2)) (
 Option.map Sum.inr (some true)) (
 some (.inl (wr (x5+1))))) (
 Option.map Sum.inr (Z7b ()))
noncomputable def Z9b (x1:(List Int)) (x2:Int):Option Bool:=
 loop (Z8b x1 x2) 0
theorem Zab (x1:(List Int)) (x2:Int) (r:Bool) (h:Z9b x1 x2=some r):Zq2 Try.prog 54 [.sl 1 (List.map Z45 x1),.iv x2] (.bv r):=by
 refine Zu2 ok54 rfl rfl fun w0 H0=>?_
 rw [Z9b] at h
 refine Zl2 9 ?_;dsimp only [e54,Z6b,go_sem];refine ⟨by simp,?_⟩;refine Zl4 (fun (_:Unit)=>(⟨(an 18 []),[],[]⟩:St)) Z7b r ?_ fun J1=>?_
 ·rintro ⟨⟩ h;rw [Z7b] at h;(try dsimp only);refine Zl2 4 ?_;dsimp only [e54,Z6b,go_sem];refine ⟨by simp,?_⟩;exact Zx4 (res:=fun (r:Bool)=>.bv r) ok54 h
 ·refine Zl2 1 ?_;dsimp only [e54,Z6b,go_sem];refine ⟨by simp,?_⟩;refine Zm4 h (fun (x5:Int)=>(⟨(.sl 1 (List.map Z45 x1) :: .iv x2::an 3 (.iv x5::an 12 [])),[],[]⟩:St)) (by simp [go_sem]) (by intro x5;first | rfl | simp [go_sem]) ?_;rintro n1 x5 y1 h hin1 hout1;rw [Z8b] at h;(try dsimp only);refine Zl2 8 ?_;dsimp only [e54,Z6b,go_sem];refine ⟨by simp,?_⟩;refine Zn4 h rfl (fun _ h=>?_) fun _ h=>?_
  ·refine Zl2 7 ?_;dsimp only [e54,Z6b,go_sem];refine ⟨by simp,?_⟩;obtain ⟨x6,ex6,h⟩:=Option.bind_eq_some_iff.1 h;refine Zq4 Z45 ex6 trivial rfl rfl rfl ?_;refine Zl2 4 ?_;dsimp only [e54,Z6b,go_sem];refine ⟨by simp,?_⟩;refine Zn4 h rfl (fun _ h=>?_) fun _ h=>?_
   ·refine Zl2 4 ?_;dsimp only [e54,Z6b,go_sem];refine ⟨by simp,?_⟩;exact Zx4 (res:=fun (r:Bool)=>.bv r) ok54 (Zk4 h hout1)
   ·refine Zl2 7 ?_;dsimp only [e54,Z6b,go_sem];refine ⟨by simp,?_⟩;exact Zy4 h hin1
  ·refine Zl2 1 ?_;dsimp only [e54,Z6b,go_sem];refine ⟨by simp,?_⟩;exact Zz4 J1 (s:=()) (Zk4 h hout1)
set_option maxRecDepth 100000
set_option maxHeartbeats 4000000
def Zbb:EC:=.seq (.seq (.reg [(Qa 19 (.mv (.t 5))),(Qa 20 (.fld 1 (.t 2))),(Qa 21 (.load (.t 20))),(Qa 22 (.len (.t 21))),(Qa 23 (.bin .lss (.t 19) (.t 22)))]) (.ite (.t 23) (.skip) (.exit 0))) (.seq (.blk 1 (.seq (.drw [(Qa 26 (.mv (.t 1))),(Qa 27 (.fld 1 (.t 2))),(Qa 28 (.load (.t 27))),(Qa 29 (.mv (.t 5))),(Qa 30 (.idx 2 (.t 28) (.t 29))),(Qa 31 (.fld 0 (.t 30))),(Qa 32 (.load (.t 31))),(Qa 33 (.idx 1 (.t 26) (.t 32))),(Qa 34 (.load (.t 33))),(Qa 35 (.mv (.t 1))),(Qa 36 (.fld 1 (.t 2))),(Qa 37 (.load (.t 36))),(Qa 38 (.mv (.t 5))),(Qa 39 (.idx 2 (.t 37) (.t 38))),(Qa 40 (.fld 1 (.t 39))),(Qa 41 (.load (.t 40))),(Qa 42 (.idx 1 (.t 35) (.t 41))),(Qa 43 (.load (.t 42))),(Qa 44 (.bin .eql (.t 34) (.t 43)))] [[],[],[1],[],[2,3],[4],[5],[0,6],[7],[],[],[10],[],[11,12],[13],[14],[9,15],[16],[8,17]] [[7],[2],[1,4],[4],[2,3,5],[4,6],[5,7],[0,6,8],[7,18],[16],[11],[10,13],[13],[11,12,14],[13,15],[14,16],[9,15,17],[16,18],[8,17]]) (.ite (.t 44) (.seq (.reg [(Qa 4 (.mv (.c .ff)))]) (.ret)) (.skip)))) (.reg [(Qa 24 (.mv (.t 5))),(Qa 25 (.bin .add (.t 24) (.c (.iv 1)))),(Qa 5 (.mv (.t 25)))]))
def e17:EC:=.seq (.reg [(Qa 2 (.box 24 2 (.t 0))),(Qa 4 (.mv (.c .ff)))]) (.seq (.seq (.reg [(Qa 6 (.loadA 2 (.t 2))),(Qa 7 (.call 16 [(.t 6)])),(Qa 8 (.not (.t 7))),(Qa 9 (.mv (.t 8))),(Qg 10 9 false (.loadA 2 (.t 2))),(Qg 11 9 false (.mv (.t 1))),(Qg 12 9 false (.call 53 [(.t 10),(.t 11)])),(Qg 13 9 false (.not (.t 12))),(Qa 14 (.pick (.t 9) (.c .tt) (.t 13))),(Qa 15 (.mv (.t 14))),(Qg 16 15 false (.mv (.t 1))),(Qg 17 15 false (.call 54 [(.t 16),(.c (.iv 0))])),(Qa 18 (.pick (.t 15) (.c .tt) (.t 17)))]) (.ite (.t 18) (.seq (.reg [(Qa 4 (.mv (.c .ff)))]) (.ret)) (.skip))) (.seq (.seq (.reg [(Qa 5 (.mv (.c (.iv 0))))]) (.blk 0 (.loop Zbb))) (.seq (.reg [(Qa 4 (.mv (.c .tt)))]) (.ret))))
theorem ok17:FnOK Try.prog 17 Try.f17 e17 [.t 4] 2 43:=⟨by kernel_rfl,⟨_,rfl,by kernel_rfl⟩,by kernel_rfl,by kernel_rfl⟩
noncomputable def Zcb:Unit→Option Bool
| ()=>
 some true
noncomputable def Zdb (x1:Graph) (x2:(List Int)):Int→Option (Int ⊕ Bool)
| x12=>
 ifb (decide (x12<(ln Edge.row x1.Edges))) (
 (at_ x1.Edges x12).bind fun x13=>
 (at_ x2 x13.A).bind fun x14=>
 (at_ x1.Edges x12).bind fun x15=>
 (at_ x2 x15.B).bind fun x16=>
 ifb (decide (x14=x16)) (
 Option.map Sum.inr (some false)) (
 some (.inl (wr (x12+1))))) (
 Option.map Sum.inr (Zcb ()))
noncomputable def Zeb (x1:Graph) (x2:(List Int)):Bool→Option Bool
| x6=>
 ifb x6 (
 some false) (
 loop (Zdb x1 x2) 0)
noncomputable def Zfb (x1:Graph) (x2:(List Int)):Option Bool:=
 (Zta x1).bind fun x3=>
 ifb (!x3) (
 (Zeb x1 x2) true) (
 (Z4b x1 x2).bind fun x4=>
 ifb (!x4) (
 (Zeb x1 x2) true) (
 (Z9b x2 0).bind fun x5=>
 (Zeb x1 x2) x5))
theorem k_narthexref11_Right (x1:Graph) (x2:(List Int)) (r:Bool) (h:Zfb x1 x2=some r):Zq2 Try.prog 17 [.agg (Graph.row x1),.sl 1 (List.map Z45 x2)] (.bv r):=by
 refine Zu2 ok17 rfl rfl fun w0 H0=>?_
 rw [Zfb] at h
 refine Zl2 9 ?_;dsimp only [e17,Zbb,go_sem];refine ⟨by simp,?_⟩;obtain ⟨x3,ex3,h⟩:=Option.bind_eq_some_iff.1 h;refine Zz2 trivial (Zua x1 _ ex3) (h:=?_);refine Zl2 2 ?_;dsimp only [e17,Zbb,go_sem];refine ⟨by simp,?_⟩;refine Zl4 (fun (x6:Bool)=>(⟨(.any :: .sl 1 (List.map Z45 x2) :: .ptr 0 0::an 15 (.bv x6::an 26 [])),[some ⟨24,[.iv x1.N,.sl 2 (List.map Edge.row x1.Edges)]⟩],[]⟩:St)) (Zeb x1 x2) r ?_ fun J1=>?_
 ·intro x6 h;rw [Zeb] at h;(try dsimp only);refine Zn4 h rfl (fun _ h=>?_) fun _ h=>?_
  ·refine Zl2 4 ?_;dsimp only [e17,Zbb,go_sem];refine ⟨by simp,?_⟩;exact Zx4 (res:=fun (r:Bool)=>.bv r) ok17 h
  ·refine Zl2 6 ?_;dsimp only [e17,Zbb,go_sem];refine ⟨by simp,?_⟩;refine Zl4 (fun (_:Unit)=>(⟨(an 45 []),[],[]⟩:St)) Zcb r ?_ fun J2=>?_
   ·rintro ⟨⟩ h;rw [Zcb] at h;(try dsimp only);refine Zl2 4 ?_;dsimp only [e17,Zbb,go_sem];refine ⟨by simp,?_⟩;exact Zx4 (res:=fun (r:Bool)=>.bv r) ok17 h
   ·refine Zl2 1 ?_;dsimp only [e17,Zbb,go_sem];refine ⟨by simp,?_⟩;refine Zm4 h (fun (x12:Int)=>(⟨(.any :: .sl 1 (List.map Z45 x2) :: .ptr 0 0 :: .any :: .any :: .iv x12::an 39 []),[some ⟨24,[.iv x1.N,.sl 2 (List.map Edge.row x1.Edges)]⟩],[]⟩:St)) (by simp [go_sem]) (by intro x12;first | rfl | simp [go_sem]) ?_;rintro n1 x12 y1 h hin1 hout1;rw [Zdb] at h;(try dsimp only);refine Zl2 9 ?_;dsimp only [e17,Zbb,go_sem];refine ⟨by simp,?_⟩;refine Zn4 h rfl (fun _ h=>?_) fun _ h=>?_
    ·refine Zl2 4 ?_;dsimp only [e17,Zbb,go_sem];refine ⟨by simp,?_⟩;refine Zh3 (by kernel_rfl) fun all hall hs hnap haf=>?_;dsimp only [go_sem]
     refine Zi5 hall hs haf hnap 8 11 [true,true,true,true,false,false,false,false,false,true,true,true,true,false,false,false,false,false,false] (⟨(.any :: .sl 1 (List.map Z45 x2) :: .ptr 0 0 :: .any :: .any :: .iv x12::an 13 (.iv x12 :: .ptr 0 1 :: .sl 2 (List.map Edge.row x1.Edges) :: .iv (ln Edge.row x1.Edges) :: .bv (decide (x12<(ln Edge.row x1.Edges))) :: .any :: .any :: .sl 1 (List.map Z45 x2) :: .ptr 0 1 :: .sl 2 (List.map Edge.row x1.Edges) :: .iv x12::an 5 (.sl 1 (List.map Z45 x2) :: .ptr 0 1 :: .sl 2 (List.map Edge.row x1.Edges) :: .iv x12::an 6 []))),[some ⟨24,[.iv x1.N,.sl 2 (List.map Edge.row x1.Edges)]⟩],[]⟩:St) (by kernel_rfl) ?_
     obtain ⟨x13,ex13,h⟩:=Option.bind_eq_some_iff.1 h;refine Zr4 hall hs haf hnap 4 Edge.row ex13 rfl rfl trivial rfl rfl rfl rfl ?_;refine Zh5 hall hs haf hnap 2 8 ?_;dsimp only [go_sem];refine ⟨by simp,?_⟩;obtain ⟨x14,ex14,h⟩:=Option.bind_eq_some_iff.1 h;refine Zr4 hall hs haf hnap 7 Z45 ex14 rfl rfl trivial rfl rfl rfl rfl ?_;refine Zh5 hall hs haf hnap 1 6 ?_;dsimp only [go_sem];refine ⟨by simp,?_⟩;obtain ⟨x15,ex15,h⟩:=Option.bind_eq_some_iff.1 h;refine Zr4 hall hs haf hnap 13 Edge.row ex15 rfl rfl trivial rfl rfl rfl rfl ?_
     refine Zh5 hall hs haf hnap 2 3 ?_;dsimp only [go_sem];refine ⟨by simp,?_⟩;obtain ⟨x16,ex16,h⟩:=Option.bind_eq_some_iff.1 h;refine Zr4 hall hs haf hnap 16 Z45 ex16 rfl rfl trivial rfl rfl rfl rfl ?_;refine Zh5 hall hs haf hnap 2 0 ?_;dsimp only [go_sem];refine ⟨by simp,?_⟩;refine Zs3 rfl ?_ _;refine Zn4 h rfl (fun _ h=>?_) fun _ h=>?_
     ·refine Zl2 4 ?_;dsimp only [e17,Zbb,go_sem];refine ⟨by simp,?_⟩;exact Zx4 (res:=fun (r:Bool)=>.bv r) ok17 (Zk4 h hout1)
     ·refine Zl2 7 ?_;dsimp only [e17,Zbb,go_sem];refine ⟨by simp,?_⟩;exact Zy4 h hin1
    ·refine Zl2 1 ?_;dsimp only [e17,Zbb,go_sem];refine ⟨by simp,?_⟩;exact Zz4 J2 (s:=()) (Zk4 h hout1)
 ·refine Zw4 9 h rfl (fun _ h=>?_) fun _ h=>?_
  ·dsimp only [go_sem];refine Zl2 10 ?_;dsimp only [e17,Zbb,go_sem];refine ⟨by simp,?_⟩;exact Zz4 J1 (s:=true) h
  ·dsimp only [go_sem];refine Zl2 2 ?_;dsimp only [e17,Zbb,go_sem];refine ⟨by simp,?_⟩;obtain ⟨x4,ex4,h⟩:=Option.bind_eq_some_iff.1 h;refine Zz2 trivial (Z5b x1 x2 _ ex4) (h:=?_);refine Zl2 3 ?_;dsimp only [e17,Zbb,go_sem];refine ⟨by simp,?_⟩;refine Zw4 15 h rfl (fun _ h=>?_) fun _ h=>?_
   ·dsimp only [go_sem];refine Zl2 4 ?_;dsimp only [e17,Zbb,go_sem];refine ⟨by simp,?_⟩;exact Zz4 J1 (s:=true) h
   ·dsimp only [go_sem];refine Zl2 1 ?_;dsimp only [e17,Zbb,go_sem];refine ⟨by simp,?_⟩;obtain ⟨x5,ex5,h⟩:=Option.bind_eq_some_iff.1 h;refine Zz2 trivial (Zab x2 0 _ ex5) (h:=?_);refine Zl2 2 ?_;dsimp only [e17,Zbb,go_sem];refine ⟨by simp,?_⟩;exact Zz4 J1 (s:=x5) h
def cg (c:List Int) (i:Int):Int:=(c[i.toNat]?).getD 0
theorem Zgb {c:List Int} {i:Int} (h0:0≤i) (h:i<c.length):at_ c i=some (cg c i):=by
 obtain ⟨x,h1,h2⟩:=at_lt h0 h
 rw [h1,cg,h2];rfl
def Zhb (g:Graph) (c:List Int):Bool:=decide ((c.length:Int)=g.N)&&(c.all (fun x=>decide (1≤x))&&g.Edges.all (fun e=>!decide (cg c e.A=cg c e.B)))
theorem s_Right (g:Graph) (c:List Int) (_:c.length≤1000000):Zja g c=some (okG g&&Zhb g c):=by
 simp only [Zja,Zr7,Option.bind_some,Z56]
 cases hg:okG g with
 | false=>simp [Zia]
 | true=>
   obtain ⟨g1,g2,g3,g4,g5⟩:=Zs7 hg
   simp only [if_true,decide_true,Z36,Bool.true_and,Z65]
   by_cases hl:(c.length:Int)=g.N
   ·rw [Zp7 c (fun z=>Zea z) (fun x=>decide (x<1)) (by omega) (fun x _=>rfl)]
    simp only [hl,decide_true,Z36,Option.bind_some,Zhb,Bool.true_and]
    have e1:c.any (fun x=>decide (x<1))=!c.all (fun x=>decide (1≤x)):=Zu7 _ _ _ (fun x=>by
     by_cases h:x<1
     ·have:¬1≤x:=by omega
      simp [h,this]
     ·have:1≤x:=by omega
      simp [h,this])
    rw [e1]
    cases hp:c.all (fun x=>decide (1≤x)) with
    | false=>simp [Zia]
    | true=>
      simp only [Bool.not_true,Zia,Z46]
      rw [Zo7 g.Edges _ (fun e=>decide (cg c e.A=cg c e.B)) (by omega) (fun e he=>by
       obtain ⟨k1,k2,k3⟩:=g4 e he
       simp only [Zga,Zgb (c:=c) k1 (by omega),Zgb (c:=c) (show 0≤e.B by omega) (by omega),Option.bind_some])]
      simp [Zt7]
   ·simp [hl,Zhb,Zia]
theorem s_ahead (x y:Edge):Zma x y=some (x.lt y):=by
 simp only [Zma,Zla,Edge.lt]
 by_cases h1:x.A<y.A
 ·simp [h1]
 ·by_cases h2:x.A=y.A<;>simp [h1,h2]
theorem Zib (g:Graph):Zta g=some (okG g):=by
 simp only [Zta,Zsa]
 by_cases h1:g.N<0
 ·have:¬0≤g.N:=by omega
  simp [h1,okG,this]
 by_cases h2:64<g.N
 ·have:¬g.N≤64:=by omega
  simp [h1,h2,okG,this]
 by_cases h3:400<g.Edges.length
 ·have:¬g.Edges.length≤400:=by omega
  have h3':(400:Int)<ln Edge.row g.Edges:=by rw [Z65];omega
  simp [h1,h2,h3',okG,this]
 have h3':¬(400:Int)<ln Edge.row g.Edges:=by rw [Z65];omega
 have e1:0≤g.N:=by omega
 have e2:g.N≤64:=by omega
 have e3:g.Edges.length≤400:=by omega
 simp only [h1,h2,h3',decide_false,Z46,okG,e1,e2,e3,decide_true,Bool.true_and]
 have key:=Zq7 g.Edges (Zra g) false true (fun e=>!e.ok g.N) (by omega) (fun k x hx=>by
  have hw:wr ((k:Int)+1)=((k+1:Nat):Int):=Zc6 hx (by omega)
  simp only [Zra,Z96 hx,Z36,Z76 hx,Option.bind_some,Zqa,hw,Edge.ok]
  by_cases k1:x.A<0
  ·have:¬0≤x.A:=by omega
   simp [k1,this]
  ·have k1':0≤x.A:=by omega
   by_cases k2:x.B≤x.A
   ·have:¬x.A<x.B:=by omega
    simp [k1,k2,this]
   ·have k2':x.A<x.B:=by omega
    by_cases k3:g.N≤x.B
    ·have:¬x.B<g.N:=by omega
     simp [k1,k2,k3,this]
    ·have k3':x.B<g.N:=by omega
     simp only [k1,k2,k3,k1',k2',k3',decide_false,decide_true,Z46,Bool.and_self,Bool.not_true,Bool.false_or]
     cases k with
     | zero=>simp
     | succ k=>
       have hk:=(List.getElem?_eq_some_iff.1 hx).1
       have hy:g.Edges[k]?=some g.Edges[k]:=List.getElem?_eq_getElem (by omega)
       have h0:decide ((0:Int)<((k+1:Nat):Int))=true:=decide_eq_true (by omega)
       simp only [h0,Z36,wr_pred (show k≤4000000000000000000 by omega),Z76 hy,hy,Option.bind_some,s_ahead]
       cases g.Edges[k].lt x<;>simp)
  (by simp only [Zra,Za6,Z46,Zpa,Option.map_some])
 rw [key]
 have:g.Edges.all (fun x=>!!Edge.ok g.N x)=g.Edges.all (Edge.ok g.N):=by simp
 rw [this]
 cases g.Edges.all (Edge.ok g.N)&&risB g.Edges<;>rfl
theorem s_r11Check (g:Graph) (c:List Int) (hc:c.length≤1000000):Z4b g c=some (decide ((c.length:Int)=g.N)&&c.all (fun x=>decide (0≤x))):=by
 unfold Z4b
 rw [Zi6 c (Z3b g c) (fun x=>decide (x<0)) false (decide ((c.length:Int)=g.N)) (by omega) (fun k x hx=>by
  have hw:wr ((k:Int)+1)=((k+1:Nat):Int):=Zc6 hx (by omega)
  simp only [Z3b,Z96 hx,Z36,Z76 hx,Option.bind_some,hw]
  by_cases h:x<0<;>simp [h])
  (by simp only [Z3b,Za6,Z46,Z2b,Option.map_some];rw [Z65])]
 have e1:c.any (fun x=>decide (x<0))=!c.all (fun x=>decide (0≤x)):=Zu7 _ _ _ (fun x=>by
  by_cases h:x<0
  ·have:¬0≤x:=by omega
   simp [h,this]
  ·have:0≤x:=by omega
   simp [h,this])
 rw [e1]
 cases c.all (fun x=>decide (0≤x))<;>simp
theorem s_r01Has (l:List Int) (x:Int) (hl:l.length≤1000000):Z9b l x=some (decide (x∈l)):=by
 unfold Z9b
 rw [Zi6 l (Z8b l x) (fun y=>decide (y=x)) true false (by omega) (fun k y hy=>by
  have hw:wr ((k:Int)+1)=((k+1:Nat):Int):=Zc6 hy (by omega)
  simp only [Z8b,Z96 hy,Z36,Z76 hy,Option.bind_some,hw]
  by_cases h:y=x<;>simp [h])
  (by simp only [Z8b,Za6,Z46,Z7b,Option.map_some])]
 by_cases h:x∈l
 ·have:l.any (fun y=>decide (y=x))=true:=by rw [List.any_eq_true];exact ⟨x,h,by simp⟩
  simp [this,h]
 ·have:l.any (fun y=>decide (y=x))=false:=by
   rw [List.any_eq_false];intro y hy;simp;rintro rfl;exact h hy
  simp [this,h]
theorem s_r11Right (g:Graph) (c:List Int) (hc:c.length≤1000000):Zfb g c=some (okG g&&Zhb g c):=by
 simp only [Zfb,Zib,Option.bind_some,Z56]
 cases hg:okG g with
 | false=>simp [Zeb]
 | true=>
   obtain ⟨g1,g2,g3,g4,g5⟩:=Zs7 hg
   rw [s_r11Check g c hc,s_r01Has c 0 hc]
   simp only [Z36,Option.bind_some,Bool.true_and,Zhb]
   by_cases hl:(c.length:Int)=g.N
   ·simp only [hl,decide_true,Bool.true_and]
    cases h0:c.all (fun x=>decide (0≤x)) with
    | false=>
      have:c.all (fun x=>decide (1≤x))=false:=by
       rw [List.all_eq_false] at h0 ⊢
       obtain ⟨x,hx,h⟩:=h0
       exact ⟨x,hx,by simp at h ⊢;omega⟩
      simp [Zeb,this]
    | true=>
      simp only [Z36,Zeb]
      have h0':∀x∈c,0≤x:=by rw [List.all_eq_true] at h0;intro x hx;simpa using h0 x hx
      by_cases hz:(0:Int)∈c
      ·have:c.all (fun x=>decide (1≤x))=false:=by
        rw [List.all_eq_false];exact ⟨0,hz,by simp⟩
       simp [hz,this]
      ·have:c.all (fun x=>decide (1≤x))=true:=by
        rw [List.all_eq_true];intro x hx
        have:=h0' x hx
        have:x≠0:=by rintro rfl;exact hz hx
        simp;omega
       simp only [hz,decide_false,Z46,this,Bool.true_and]
       rw [Zi6 g.Edges (Zdb g c) (fun e=>decide (cg c e.A=cg c e.B)) false true (by omega) (fun k e he=>by
        have hw:wr ((k:Int)+1)=((k+1:Nat):Int):=Zc6 he (by omega)
        obtain ⟨k1,k2,k3⟩:=g4 e (List.mem_iff_getElem?.2 ⟨k,he⟩)
        simp only [Zdb,Z96 he,Z36,Z76 he,Option.bind_some,Zgb (c:=c) k1 (by omega),Zgb (c:=c) (show 0≤e.B by omega) (by omega),hw]
        by_cases h:cg c e.A=cg c e.B<;>simp [h])
        (by simp only [Zdb,Za6,Z46,Zcb,Option.map_some])]
       rw [Zt7]
       cases g.Edges.any (fun e=>decide (cg c e.A=cg c e.B))<;>rfl
   ·simp [hl,Zeb]
def hasB (g:Graph) (a b:Int):Bool:=g.Edges.any fun e=>(decide (e.A=a)&&(decide (e.B=b)&&decide (a≤b)))||(decide (e.A=b)&&(decide (e.B=a)&&decide (b<a)))
theorem s_r03Has (g:Graph) (a b:Int) (hl:g.Edges.length≤1000000):Zza g a b=some (hasB g a b):=by
 unfold Zza hasB
 rw [Zi6 g.Edges (Zya g a b) (fun e=>(decide (e.A=a)&&(decide (e.B=b)&&decide (a≤b)))||(decide (e.A=b)&&(decide (e.B=a)&&decide (b<a)))) true false (by omega) (fun k e he=>by
  have hw:wr ((k:Int)+1)=((k+1:Nat):Int):=Zc6 he (by omega)
  simp only [Zya,Z96 he,Z36,Z76 he,Option.bind_some,Zxa,hw]
  generalize decide (e.A=a)=p1;generalize decide (e.B=b)=p2;generalize decide (a≤b)=p3;generalize decide (e.A=b)=p4;generalize decide (e.B=a)=p5;generalize decide (b<a)=p6
  cases p1<;>cases p2<;>cases p3<;>cases p4<;>cases p5<;>cases p6<;>rfl)
  (by simp only [Zya,Za6,Z46,Zwa,Option.map_some])]
 generalize List.any _ _=p
 cases p<;>rfl
end NX
end Go.Proofs.Ytadebhbiglmodaa
namespace Go.Proofs.Ytadebhbiglmodaa
namespace NX
open Go Go.RowKit
section
variable {c:Ctx} {M:Mem} {S S':St} {a:Act} {w:World} {fn:Func} {K:AV→List (Option Blk)→List (Option Sl)→Prop} {k:List It} {bs:List (Option Blk)} {ss:List (Option Sl)}
theorem isLL_ints {M:Mem} {zs:List Int} {vss:List (List Value)} (h:AV.isLL M 1 (zs.map Z45) vss):vss.flatten=zs.map (Value.int .i64):=by
 induction zs generalizing vss with
 | nil=>simp [AV.isLL] at h;subst h;rfl
 | cons z zs ih=>
   obtain ⟨v,r,rfl,h1,h2,h3⟩:=h
   obtain ⟨u,q,rfl,h4,h5⟩:=h2
   simp only [AV.isL] at h5
   simp only [AV.is] at h4
   subst h5;subst h4
   simp [ih h3]
theorem ints_isLL {M:Mem}:∀(zs:List Int),∃vss,AV.isLL M 1 (zs.map Z45) vss∧vss.flatten=zs.map (Value.int .i64)
 | []=>⟨[],rfl,rfl⟩
 | z::zs=>by
   obtain ⟨vss,h1,h2⟩:=ints_isLL (M:=M) zs
   exact ⟨[.int .i64 z]::vss,⟨_,_,rfl,rfl,⟨_,_,rfl,rfl,rfl⟩,h1⟩,by simp [h2]⟩
theorem sem_sort {ρ:Shelf.Ren} (Ly:Lays.n189 c.P ρ) {j T:Nat} {x:X} {zs:List Int} (hx:S.x x = .osl j) (hj:Zf S.ss j=some ⟨T,1,zs.map Z45⟩) (hlen:zs.length<4611686018427387904):
  Zv2 c S (.call (ρ.f 189) [x]) (.tup []) ⟨S.tm,S.bs,Zg S.ss j (some ⟨T,1,(zs.mergeSort fun x y=>decide (x≤y)).map Z45⟩)⟩:=by
 intro ro ho M a w hT next Q hn
 obtain ⟨dst,op,ty,pos,af,gd⟩:=ro
 dsimp only at ho
 obtain ⟨cargs,argTypes,rfl,hfn,hxs⟩:=Zy2 ho
 obtain ⟨q,rfl⟩:∃q,cargs = #[q]:=by
  have:cargs.toList.length=1:=by have:=congrArg List.length hxs;simpa using this
  obtain ⟨l⟩:=cargs
  match l,this with
  | [q],_=>exact ⟨q,rfl⟩
 have hqx:cX q=x:=by simpa using hxs
 have hq:=Zw1 hT q
 rw [hqx,hx] at hq
 obtain ⟨hjn,hq⟩:=hq
 obtain ⟨g0,vss,h1,h2,h3,h4⟩:=hT.st.slc j _ hj
 dsimp only at h1 h3 g0
 have hfl:=isLL_ints h1
 have hrun:(execOp a.eval ⟨dst,.call ⟨.value (.func (ρ.f 189)), #[q],argTypes⟩,ty,pos,af,gd⟩).run c.P w = .ok (.enter (ρ.f 189) (#[q].map a.eval)) w:=by
  have he:a.eval (.func (ρ.f 189)) = .func (.func (ρ.f 189)) #[] #[]:=rfl
  generalize a.eval=ρ' at *
  simp [execOp,resolve,Deferred.ofValue,invoke,he,Zx2 hfn]
 have e1:(#[q].map a.eval) = #[M.σ j]:=by
  apply Array.ext';simp;exact hq
 rw [e1] at hrun
 unfold Oper.wp
 rw [hrun]
 show Calls c.P (ρ.f 189) #[M.σ j] w _
 obtain ⟨rs,hr1,hr2⟩:=ints_isLL (M:=M.pure) (zs.mergeSort fun x y=>decide (x≤y))
 have hone:∀v∈rs.flatten,v.oneCell'=true:=by
  rw [hr2];intro v hv
  obtain ⟨z,_,rfl⟩:=List.mem_map.1 hv;rfl
 have hl2:(zs.mergeSort fun x y=>decide (x≤y)).length=zs.length:=by simp
 rcases h3.2 with ⟨e2,e3⟩ | ⟨g,cap,cur,e2,hb,e3,e4,e5,e6,e7⟩
 ·have hz:zs=[]:=by simpa using e3
  subst hz
  rw [e2]
  refine (Any.slices_Sort_int_none Ly none 0 w).mono ?_
  rintro e w' ⟨rfl,rfl⟩
  refine hn M _ _ (.refl M) ?_ ⟨[],rfl,rfl⟩
  have:Zg S.ss j (some (⟨T,1,([].mergeSort fun (x y:Int)=>decide (x≤y)).map Z45⟩:Sl))=S.ss:=by
   have hj':=hj
   simp only [List.map_nil] at hj'
   have:∀(l:List (Option Sl)) (j:Nat) (L:Sl),Zf l j=some L→Zg l j (some L)=l:=by
    intro l
    induction l with
    | nil=>intro j L h;simp [Zf] at h
    | cons x l ih=>intro j L h;cases j with
      | zero=>simp [Zf] at h;subst h;rfl
      | succ j=>simp only [Zg];rw [ih j L (by simpa [Zf] using h)]
   simpa using this _ _ _ hj'
  rw [this];exact hT.st
 ·have e4':zs.length≤cap:=by simpa using e4
  rw [e2]
  simp only [List.length_map]
  rw [Nat.mul_one,List.length_map] at e7
  rw [hfl] at e7
  refine (Any.slices_Sort_int Ly g 0 cap zs w (holds_of_blockI e3 e7) (Array.getElem?_eq_some_iff.1 e3).1 hlen).mono ?_
  rintro e w' ⟨rfl,n,os,rfl⟩
  refine hn M _ _ (.refl M) ?_ ⟨[],rfl,rfl⟩
  refine hT.st.rewrite hj (g:=g) (by rw [e2];rfl) (grownBy_sortedI _) (vss':=rs) hr1 hone ?_
  rw [hr2,List.length_map,hl2,e2,List.length_map]
  exact ownsRow_sortedI (ss:=zs) hl2 hb e3 e4' e5 e6
theorem V_sort {ρ:Shelf.Ren} (Ly:Lays.n189 c.P ρ) {d:Option Nat} {g:Option (Nat×Bool)} {l:List EOp} {j T f:Nat} {x:X} (zs:List Int) (hg:gm S g) (hf:f=ρ.f 189) (hx:S.x x = .osl j) (hj:Zf S.ss j=some ⟨T,1,zs.map Z45⟩) (hlen:zs.length<4611686018427387904)
  (h:V c fn K (.ops l::k) ((⟨S.tm,S.bs,Zg S.ss j (some ⟨T,1,(zs.mergeSort fun x y=>decide (x≤y)).map Z45⟩)⟩:St).put d (.tup []))):V c fn K (.ops (⟨d,g,.call f [x]⟩::l)::k) S:=by
 subst hf
 exact Zw2 hg (sem_sort Ly hx hj hlen) rfl h
end
end NX
end Go.Proofs.Ytadebhbiglmodaa
/-
  The function slices.Clone[[]int,int]: its code compiled, a model, and that the code answers as the model. Written by a program of ours (lb.py). No statement of the seat is proved here.
-/
namespace Go.Proofs.Ytadebhbiglmodaa
namespace NX
open Go
set_option maxRecDepth 100000
set_option maxHeartbeats 4000000
def e89:EC:=.seq (.reg [(Qa 2 (.mv (.c .nl)))]) (.seq (.seq (.reg [(Qa 3 (.mv (.t 0))),(Qa 4 (.isnil false (.t 3)))]) (.ite (.t 4) (.seq (.reg [(Qa 2 (.mv (.c .nl)))]) (.ret)) (.skip))) (.seq (.reg [(Qa 5 (.bsl 3 1 0 [.iv 0] [])),(Qa 6 (.mv (.t 0))),(Qa 7 (.app 3 1 8 (.t 5) (.t 6))),(Qa 2 (.mv (.t 7)))]) (.ret)))
theorem ok89:FnOK Try.prog 89 Try.f89 e89 [.t 2] 1 7:=⟨by kernel_rfl,⟨_,rfl,by kernel_rfl⟩,by kernel_rfl,by kernel_rfl⟩
noncomputable def Zjb (x1:(List Int)):Option (List Int):=Za4 8 [] x1
theorem Zkb (x1:(List Int)) (r:(List Int)) (h:Zjb x1=some r):FunO Try.prog 89 [.sl 1 (List.map Z45 x1)] 3 1 (List.map Z45 r):=by
 refine Zc5 ok89 rfl fun w0 H0=>?_
 rw [Zjb] at h
 refine Zl2 100 ?_
 dsimp only [e89,go_sem]
 refine ⟨by simp,?_⟩
 refine V_isnil trivial rfl (fun hn=>?_) ?_
 ·refine Zl2 100 ?_
  dsimp only [go_sem]
  refine ⟨by simp,?_⟩
  refine V_own 2 3 1 rfl rfl ?_
  dsimp only [go_sem]
  have hn:x1=[]:=by simpa using hn
  subst hn
  exact Zj5 Z45 (e:=[]) ok89 (by simpa [Za4] using h) rfl rfl
 ·refine Zl2 100 ?_
  dsimp only [go_sem]
  refine ⟨by simp,?_⟩
  refine Zt4 Z45 h trivial rfl rfl rfl ?_
  refine Zl2 100 ?_
  dsimp only [go_sem]
  refine ⟨by simp,?_⟩
  exact Zj5 Z45 ok89 (rfl:some r=some r) rfl rfl
theorem k_slices_Clone_int (x1:(List Int)) (r:(List Int)) (h:Zjb x1=some r):Zq2 Try.prog 89 [.sl 1 (List.map Z45 x1)] (.sl 1 (List.map Z45 r)):=(Zkb x1 r h).sealed
def Zlb (_F:Nat) (x1:(List Int)):Option (List Int):=Za4 8 [] x1
theorem le_slices_Clone_int {F:Nat} {x1:(List Int)}:ole (Zlb F x1) (Zjb x1):=Zf4 _
set_option maxRecDepth 100000
set_option maxHeartbeats 4000000
def Zmb:EC:=.seq (.seq (.reg [(Qa 29 (.mv (.t 5))),(Qa 30 (.mv (.t 4))),(Qa 31 (.len (.t 30))),(Qa 32 (.bin .lss (.t 29) (.t 31)))]) (.ite (.t 32) (.skip) (.exit 2))) (.seq (.blk 3 (.seq (.drw [(Qa 35 (.mv (.t 4))),(Qa 36 (.mv (.t 5))),(Qa 37 (.idx 1 (.t 35) (.t 36))),(Qa 38 (.load (.t 37))),(Qa 39 (.mv (.t 4))),(Qa 40 (.mv (.t 5))),(Qa 41 (.bin .sub (.t 40) (.c (.iv 1)))),(Qa 42 (.idx 1 (.t 39) (.t 41))),(Qa 43 (.load (.t 42))),(Qa 44 (.bin .neq (.t 38) (.t 43)))] [[],[],[0,1],[2],[],[],[5],[4,6],[7],[3,8]] [[2],[2],[0,1,3],[2,9],[7],[6],[5,7],[4,6,8],[7,9],[3,8]]) (.ite (.t 44) (.seq (.reg [(Qa 45 (.mv (.t 0))),(Qa 46 (.mv (.t 3))),(Qa 47 (.mv (.t 4))),(Qa 48 (.mv (.t 5))),(Qa 49 (.idx 1 (.t 47) (.t 48))),(Qa 50 (.load (.t 49))),(Qa 51 (.idx 1 (.t 45) (.t 46))),(Qb (.store 1 (.t 51) (.t 50)))]) (.reg [(Qa 52 (.mv (.t 3))),(Qa 53 (.bin .add (.t 52) (.c (.iv 1)))),(Qa 3 (.mv (.t 53)))])) (.skip)))) (.reg [(Qa 33 (.mv (.t 5))),(Qa 34 (.bin .add (.t 33) (.c (.iv 1)))),(Qa 5 (.mv (.t 34)))]))
def Znb:EC:=.seq (.seq (.reg [(Qa 10 (.mv (.t 3))),(Qa 11 (.mv (.t 0))),(Qa 12 (.len (.t 11))),(Qa 13 (.bin .lss (.t 10) (.t 12)))]) (.ite (.t 13) (.skip) (.exit 0))) (.seq (.blk 1 (.seq (.drw [(Qa 16 (.mv (.t 0))),(Qa 17 (.mv (.t 3))),(Qa 18 (.idx 1 (.t 16) (.t 17))),(Qa 19 (.load (.t 18))),(Qa 20 (.mv (.t 0))),(Qa 21 (.mv (.t 3))),(Qa 22 (.bin .sub (.t 21) (.c (.iv 1)))),(Qa 23 (.idx 1 (.t 20) (.t 22))),(Qa 24 (.load (.t 23))),(Qa 25 (.bin .eql (.t 19) (.t 24)))] [[],[],[0,1],[2],[],[],[5],[4,6],[7],[3,8]] [[2],[2],[0,1,3],[2,9],[7],[6],[5,7],[4,6,8],[7,9],[3,8]]) (.ite (.t 25) (.seq (.reg [(Qa 26 (.mv (.t 0))),(Qa 27 (.mv (.t 3))),(Qa 28 (.slice 1 (.t 26) (some (.t 27)) none)),(Qa 4 (.mv (.t 28)))]) (.seq (.seq (.reg [(Qa 5 (.mv (.c (.iv 1))))]) (.blk 2 (.loop Zmb))) (.seq (.reg [(Qa 54 (.mv (.t 0))),(Qa 55 (.mv (.t 3))),(Qa 56 (.slice 1 (.t 54) (some (.t 55)) none)),(Qb .bad)]) (.seq (.reg [(Qa 57 (.mv (.t 0))),(Qa 58 (.mv (.t 3))),(Qa 59 (.slice 1 (.t 57) none (some (.t 58)))),(Qa 2 (.mv (.t 59)))]) (.ret))))) (.skip)))) (.reg [(Qa 14 (.mv (.t 3))),(Qa 15 (.bin .add (.t 14) (.c (.iv 1)))),(Qa 3 (.mv (.t 15)))]))
def e113:EC:=.seq (.reg [(Qa 2 (.mv (.c .nl)))]) (.seq (.seq (.reg [(Qa 6 (.mv (.t 0))),(Qa 7 (.len (.t 6))),(Qa 8 (.bin .lss (.t 7) (.c (.iv 2))))]) (.ite (.t 8) (.seq (.reg [(Qa 9 (.mv (.t 0))),(Qa 2 (.mv (.t 9)))]) (.ret)) (.skip))) (.seq (.seq (.reg [(Qa 3 (.mv (.c (.iv 1))))]) (.blk 0 (.loop Znb))) (.seq (.reg [(Qa 60 (.mv (.t 0))),(Qa 2 (.mv (.t 60)))]) (.ret))))
theorem ok113:FnOK Try.prog 113 Try.f113 e113 [.t 2] 1 60:=⟨by kernel_rfl,⟨_,rfl,by kernel_rfl⟩,by kernel_rfl,by kernel_rfl⟩
noncomputable def Zob (x1:(List Int)):Unit→Option (List Int)
| ()=>
 some x1
noncomputable def Zpb (x1:(List Int)):Int→Option (Int ⊕ (List Int))
| x21=>
 ifb (decide (x21<(ln Z45 x1))) (
 (at_ x1 x21).bind fun x22=>
 (at_ x1 (wr (x21-1))).bind fun x23=>
 ifb (decide (x22=x23)) (
 none) (
 some (.inl (wr (x21+1))))) (
 Option.map Sum.inr ((Zob x1) ()))
noncomputable def Zqb (x1:(List Int)):Option (List Int):=
 ifb (decide ((ln Z45 x1)<2)) (
 some x1) (
 loop (Zpb x1) 1)
theorem Zrb (x1:(List Int)) (r:(List Int)) (h:Zqb x1=some r):Zq2 Try.prog 113 [.sl 1 (List.map Z45 x1)] (.sl 1 (List.map Z45 r)):=by
 refine Zu2 ok113 rfl rfl fun w0 H0=>?_
 rw [Zqb] at h
 refine Zl2 11 ?_;dsimp only [e113,Znb,Zmb,go_sem];refine ⟨by simp,?_⟩;refine Zn4 h rfl (fun _ h=>?_) fun _ h=>?_
 ·refine Zl2 5 ?_;dsimp only [e113,Znb,Zmb,go_sem];refine ⟨by simp,?_⟩;exact Zx4 (res:=fun (r:(List Int))=>.sl 1 (List.map Z45 r)) ok113 h
 ·refine Zl2 6 ?_;dsimp only [e113,Znb,Zmb,go_sem];refine ⟨by simp,?_⟩;refine Zl4 (fun (_:Unit)=>(⟨(.sl 1 (List.map Z45 x1)::an 60 []),[],[]⟩:St)) (Zob x1) r ?_ fun J1=>?_
  ·rintro ⟨⟩ h;rw [Zob] at h;(try dsimp only);refine Zl2 5 ?_;dsimp only [e113,Znb,Zmb,go_sem];refine ⟨by simp,?_⟩;exact Zx4 (res:=fun (r:(List Int))=>.sl 1 (List.map Z45 r)) ok113 h
  ·refine Zl2 1 ?_;dsimp only [e113,Znb,Zmb,go_sem];refine ⟨by simp,?_⟩;refine Zm4 h (fun (x21:Int)=>(⟨(.sl 1 (List.map Z45 x1) :: .any :: .any :: .iv x21::an 57 []),[],[]⟩:St)) (by simp [go_sem]) (by intro x21;first | rfl | simp [go_sem]) ?_;rintro n1 x21 y1 h hin1 hout1;rw [Zpb] at h;(try dsimp only);refine Zl2 8 ?_;dsimp only [e113,Znb,Zmb,go_sem];refine ⟨by simp,?_⟩;refine Zn4 h rfl (fun _ h=>?_) fun _ h=>?_
   ·refine Zl2 4 ?_;dsimp only [e113,Znb,Zmb,go_sem];refine ⟨by simp,?_⟩;refine Zh3 (by kernel_rfl) fun all hall hs hnap haf=>?_;dsimp only [go_sem];refine Zh5 hall hs haf hnap 5 5 ?_;dsimp only [go_sem];refine ⟨by simp,?_⟩;obtain ⟨x22,ex22,h⟩:=Option.bind_eq_some_iff.1 h;refine Zr4 hall hs haf hnap 2 Z45 ex22 rfl rfl trivial rfl rfl rfl rfl ?_;refine Zh5 hall hs haf hnap 1 3 ?_;dsimp only [go_sem];refine ⟨by simp,?_⟩;obtain ⟨x23,ex23,h⟩:=Option.bind_eq_some_iff.1 h
    refine Zr4 hall hs haf hnap 7 Z45 ex23 rfl rfl trivial rfl rfl rfl rfl ?_;refine Zh5 hall hs haf hnap 2 0 ?_;dsimp only [go_sem];refine ⟨by simp,?_⟩;refine Zs3 rfl ?_ _;refine Zn4 h rfl (fun _ h=>?_) fun _ h=>?_
    ·cases h
    ·refine Zl2 7 ?_;dsimp only [e113,Znb,Zmb,go_sem];refine ⟨by simp,?_⟩;exact Zy4 h hin1
   ·refine Zl2 1 ?_;dsimp only [e113,Znb,Zmb,go_sem];refine ⟨by simp,?_⟩;exact Zz4 J1 (s:=()) (Zk4 h hout1)
set_option maxRecDepth 100000
def laysSort_ren:Go.Shelf.Ren:=⟨(fun | 189=>112 | 125=>128 | 257=>127 | 128=>142 | 129=>143 | 294=>133 | 295=>134 | 296=>135 | 297=>136 | 298=>137 | 299=>138 | 216=>139 | 300=>140 | 301=>141 | 328=>146 | 329=>147 | 330=>148 | 331=>149 | 332=>150 | 215=>126 | 343=>151 | n=>n),(fun | 28=>25 | 3=>3 | 46=>151 | 0=>0 | 51=>167 | 53=>169 | 4=>4 | 183=>159 | 182=>158 | 131=>164 | 5=>5 | 9=>9 | 218=>174 | 222=>178 | 228=>180 | 229=>181 | n=>n),(fun | n=>n)⟩
theorem laysSort:Lays.n189 Try.prog laysSort_ren where
 mixed:=by kernel_rfl
 f125:=Try.func128.trans (congrArg some (by kernel_rfl))
 f128:=Try.func142.trans (congrArg some (by kernel_rfl))
 f129:=Try.func143.trans (congrArg some (by kernel_rfl))
 f189:=Try.func112.trans (congrArg some (by kernel_rfl))
 f215:=Try.func126.trans (congrArg some (by kernel_rfl))
 f216:=Try.func139.trans (congrArg some (by kernel_rfl))
 f257:=Try.func127.trans (congrArg some (by kernel_rfl))
 f294:=Try.func133.trans (congrArg some (by kernel_rfl))
 f295:=Try.func134.trans (congrArg some (by kernel_rfl))
 f296:=Try.func135.trans (congrArg some (by kernel_rfl))
 f297:=Try.func136.trans (congrArg some (by kernel_rfl))
 f298:=Try.func137.trans (congrArg some (by kernel_rfl))
 f299:=Try.func138.trans (congrArg some (by kernel_rfl))
 f300:=Try.func140.trans (congrArg some (by kernel_rfl))
 f301:=Try.func141.trans (congrArg some (by kernel_rfl))
 f328:=Try.func146.trans (congrArg some (by kernel_rfl))
 f329:=Try.func147.trans (congrArg some (by kernel_rfl))
 f330:=Try.func148.trans (congrArg some (by kernel_rfl))
 f331:=Try.func149.trans (congrArg some (by kernel_rfl))
 f332:=Try.func150.trans (congrArg some (by kernel_rfl))
 f343:=Try.func151.trans (congrArg some (by kernel_rfl))
 t0:=Try.underlying0
 a0:=Try.isAgg0
 z0:=Try.sizeOf0
 v0:=Try.zeroValue0
 t3:=Try.underlying3
 a3:=Try.isAgg3
 z3:=Try.sizeOf3
 v3:=Try.zeroValue3
 t4:=Try.underlying4
 a4:=Try.isAgg4
 z4:=Try.sizeOf4
 v4:=Try.zeroValue4
 t5:=Try.underlying5
 a5:=Try.isAgg5
 z5:=Try.sizeOf5
 v5:=Try.zeroValue5
 t9:=Try.underlying9
 a9:=Try.isAgg9
 z9:=Try.sizeOf9
 v9:=Try.zeroValue9
 t28:=Try.underlying25
 a28:=Try.isAgg25
 z28:=Try.sizeOf25
 v28:=Try.zeroValue25
 t46:=Try.underlying151
 a46:=Try.isAgg151
 z46:=Try.sizeOf151
 v46:=Try.zeroValue151
 t51:=Try.underlying167
 a51:=Try.isAgg167
 z51:=Try.sizeOf167
 v51:=Try.zeroValue167
 t53:=Try.underlying169
 a53:=Try.isAgg169
 z53:=Try.sizeOf169
 v53:=Try.zeroValue169
 t131:=Try.underlying164
 a131:=Try.isAgg164
 z131:=Try.sizeOf164
 v131:=Try.zeroValue164
 t182:=Try.underlying158
 a182:=Try.isAgg158
 z182:=Try.sizeOf158
 v182:=Try.zeroValue158
 t183:=Try.underlying159
 a183:=Try.isAgg159
 z183:=Try.sizeOf159
 v183:=Try.zeroValue159
 t218:=Try.underlying174
 a218:=Try.isAgg174
 z218:=Try.sizeOf174
 v218:=Try.zeroValue174
 t222:=Try.underlying178
 a222:=Try.isAgg178
 z222:=Try.sizeOf178
 v222:=Try.zeroValue178
 t228:=Try.underlying180
 a228:=Try.isAgg180
 z228:=Try.sizeOf180
 v228:=Try.zeroValue180
 t229:=Try.underlying181
 a229:=Try.isAgg181
 z229:=Try.sizeOf181
 v229:=Try.zeroValue181
def e85:EC:=.seq (.reg [(Qa 2 (.mv (.c .nl)))]) (.seq (.reg [(Qa 4 (.mv (.t 0))),(Qa 5 (.call 89 [(.t 4)])),(Qa 3 (.mv (.t 5)))]) (.seq (.reg [(Qa 6 (.mv (.t 3))),(Qa 7 (.call 112 [(.t 6)]))]) (.seq (.reg [(Qa 8 (.mv (.t 3))),(Qa 9 (.call 113 [(.t 8)])),(Qa 2 (.mv (.t 9)))]) (.ret))))
theorem ok85:FnOK Try.prog 85 Try.f85 e85 [.t 2] 1 9:=⟨by kernel_rfl,⟨_,rfl,by kernel_rfl⟩,by kernel_rfl,by kernel_rfl⟩
noncomputable def Zsb (x1:List Int):Option (List Int):=
 (Zjb x1).bind fun x2=>
 ifb (decide (x2.length<4611686018427387904)) (
 Zqb (x2.mergeSort fun x y=>decide (x≤y))) none
theorem k_set_Of (x1:List Int) (r:List Int) (h:Zsb x1=some r):Zq2 Try.prog 85 [.sl 1 (List.map Z45 x1)] (.sl 1 (List.map Z45 r)):=by
 refine Zu2 ok85 rfl rfl fun w0 H0=>?_
 rw [Zsb] at h
 refine Zl2 100 ?_
 dsimp only [e85,go_sem]
 refine ⟨by simp,?_⟩
 obtain ⟨x2,ex2,h⟩:=Option.bind_eq_some_iff.1 h
 refine Zd5 trivial (Zkb x1 _ ex2) (by first | exact Z94 _ | simp [go_sem]) (by first | rfl | simp [go_sem]) ?_
 refine Zl2 100 ?_
 dsimp only [e85,go_sem]
 refine ⟨by simp,?_⟩
 by_cases hl:x2.length<4611686018427387904
 ·rw [show decide (x2.length<4611686018427387904)=true from decide_eq_true hl] at h
  have h:Zqb (x2.mergeSort fun x y=>decide (x≤y))=some r:=h
  refine V_sort laysSort x2 trivial (by kernel_rfl) rfl rfl hl ?_
  refine Zl2 100 ?_
  dsimp only [e85,go_sem]
  refine ⟨by simp,?_⟩
  refine Z83 0 rfl ?_
  dsimp only [go_sem]
  refine Zz2 trivial (Zrb _ _ h) (by first | exact Z94 _ | simp [go_sem]) (by first | rfl | simp [go_sem]) ?_
  refine Zl2 100 ?_
  dsimp only [e85,go_sem]
  refine ⟨by simp,?_⟩
  exact Zx4 (res:=fun (r:List Int)=>.sl 1 (List.map Z45 r)) ok85 rfl (by first | exact le_refl _ | simp [go_sem])
 ·rw [show decide (x2.length<4611686018427387904)=false from decide_eq_false hl] at h
  cases h
set_option maxRecDepth 100000
set_option maxHeartbeats 4000000
def Ztb:EC:=.seq (.reg [(Qa 15 (.bin .lss (.t 14) (.t 13)))]) (.seq (.ite (.t 15) (.skip) (.exit 0)) (.seq (.blk 1 (.seq (.reg [(Qa 16 (.idx 2 (.t 12) (.t 14))),(Qa 17 (.loadA 2 (.t 16))),(Qa 7 (.alloc 58 [.iv 0,.iv 0])),(Qb (.store 2 (.t 7) (.t 17)))]) (.seq (.reg [(Qa 18 (.mv (.t 1)))]) (.blk 2 (.seq (.reg [(Qa 20 (.fld 0 (.t 7))),(Qa 21 (.load (.t 20))),(Qa 22 (.bin .eql (.t 18) (.t 21))),(Qa 19 (.mv (.t 22)))]) (.ite (.t 19) (.reg [(Qa 23 (.mv (.t 5))),(Qa 24 (.fld 1 (.t 7))),(Qa 25 (.load (.t 24))),(Qa 26 (.bsl 3 1 1 [.iv 0] [(0,(.t 25))])),(Qa 27 (.app 3 1 8 (.t 23) (.t 26))),(Qa 5 (.mv (.t 27)))]) (.seq (.reg [(Qa 29 (.fld 1 (.t 7))),(Qa 30 (.load (.t 29))),(Qa 31 (.bin .eql (.t 18) (.t 30))),(Qa 28 (.mv (.t 31)))]) (.ite (.t 28) (.reg [(Qa 32 (.mv (.t 5))),(Qa 33 (.fld 0 (.t 7))),(Qa 34 (.load (.t 33))),(Qa 35 (.bsl 3 1 1 [.iv 0] [(0,(.t 34))])),(Qa 36 (.app 3 1 8 (.t 32) (.t 35))),(Qa 5 (.mv (.t 36)))]) (.skip))))))))) (.reg [(Qa 37 (.bin .add (.t 14) (.c (.iv 1)))),(Qa 14 (.mv (.t 37)))])))
def e51:EC:=.seq (.reg [(Qa 2 (.box 24 2 (.t 0))),(Qa 4 (.mv (.c .nl)))]) (.seq (.seq (.reg [(Qa 8 (.loadA 2 (.t 2))),(Qa 9 (.call 49 [(.t 8)])),(Qa 10 (.bin .neq (.t 9) (.c (.iv 0))))]) (.ite (.t 10) (.seq (.reg [(Qa 4 (.mv (.c .nl)))]) (.ret)) (.skip))) (.seq (.reg [(Qa 5 (.mv (.c .nl)))]) (.seq (.seq (.reg [(Qa 11 (.fld 1 (.t 2))),(Qa 12 (.load (.t 11))),(Qa 13 (.len (.t 12))),(Qa 14 (.mv (.c (.iv 0))))]) (.blk 0 (.loop Ztb))) (.seq (.reg [(Qa 38 (.mv (.t 5))),(Qa 39 (.call 85 [(.t 38)])),(Qa 4 (.mv (.t 39)))]) (.ret)))))
theorem ok51:FnOK Try.prog 51 Try.f51 e51 [.t 4] 2 38:=⟨by kernel_rfl,⟨_,rfl,by kernel_rfl⟩,by kernel_rfl,by kernel_rfl⟩
noncomputable def Zub:(List Int)→Option (List Int)
| x23=>
 (Zsb x23).bind fun x24=>
 some x24
noncomputable def Zvb (x10:Int):(List Int)→Option ((Int×(List Int)) ⊕ (List Int))
| x15=>
 some (.inl (wr (x10+1),x15))
noncomputable def Zwb (x1:Graph) (x2:Int):(Int×(List Int))→Option ((Int×(List Int)) ⊕ (List Int))
| (x10,x11)=>
 ifb (decide (x10<(ln Edge.row x1.Edges))) (
 (at_ x1.Edges x10).bind fun x12=>
 ifb (decide (x2=x12.A)) (
 (Za4 8 x11 ([x12.B])).bind fun x13=>
 (Zvb x10) x13) (
 ifb (decide (x2=x12.B)) (
 (Za4 8 x11 ([x12.A])).bind fun x14=>
 (Zvb x10) x14) (
 (Zvb x10) x11))) (
 Option.map Sum.inr (Zub x11))
noncomputable def Zxb (x1:Graph) (x2:Int):Option (List Int):=
 (Zc7 x1).bind fun x3=>
 ifb (!decide (x3=0)) (
 some ([]:(List Int))) (
 loop (Zwb x1 x2) (0,([]:List Int)))
theorem Zyb (x1:Graph) (x2:Int) (r:(List Int)) (h:Zxb x1 x2=some r):Zq2 Try.prog 51 [.agg (Graph.row x1),.iv x2] (.sl 1 (List.map Z45 r)):=by
 refine Zu2 ok51 rfl rfl fun w0 H0=>?_
 rw [Zxb] at h
 refine Zl2 9 ?_;dsimp only [e51,Ztb,go_sem];refine ⟨by simp,?_⟩;obtain ⟨x3,ex3,h⟩:=Option.bind_eq_some_iff.1 h;refine Zz2 trivial (Zd7 x1 _ ex3) (h:=?_);refine Zl2 2 ?_;dsimp only [e51,Ztb,go_sem];refine ⟨by simp,?_⟩;refine Zn4 h rfl (fun _ h=>?_) fun _ h=>?_
 ·refine Zl2 4 ?_;dsimp only [e51,Ztb,go_sem];refine ⟨by simp,?_⟩;exact Zx4 (res:=fun (r:(List Int))=>.sl 1 (List.map Z45 r)) ok51 h
 ·refine Zl2 13 ?_;dsimp only [e51,Ztb,go_sem];refine ⟨by simp,?_⟩;refine Zl4 (fun (x23:(List Int))=>(⟨(an 5 (.osl 0::an 34 [])),[],[some ⟨3,1,List.map Z45 x23⟩]⟩:St)) Zub r ?_ fun J1=>?_
  ·intro x23 h;rw [Zub] at h;(try dsimp only);refine Zl2 3 ?_;dsimp only [e51,Ztb,go_sem];refine ⟨by simp,?_⟩;refine Z83 0 rfl ?_;dsimp only [go_sem];obtain ⟨x24,ex24,h⟩:=Option.bind_eq_some_iff.1 h;refine Zz2 trivial (k_set_Of x23 _ ex24) (h:=?_);refine Zl2 2 ?_;dsimp only [e51,Ztb,go_sem];refine ⟨by simp,?_⟩;exact Zx4 (res:=fun (r:(List Int))=>.sl 1 (List.map Z45 r)) ok51 h
  ·refine Zl2 1 ?_;dsimp only [e51,Ztb,go_sem];refine ⟨by simp,?_⟩;refine V_own 5 3 1 rfl rfl ?_;dsimp only [go_sem];refine Zm4 h (fun ((x10,x11):(Int×(List Int)))=>(⟨(.any :: .iv x2::an 3 (.osl 0::an 6 (.sl 2 (List.map Edge.row x1.Edges) :: .iv (ln Edge.row x1.Edges) :: .iv x10::an 25 []))),[],[some ⟨3,1,List.map Z45 x11⟩]⟩:St)) (by simp [go_sem]) (by rintro ⟨x10,x11⟩;first | rfl | simp [go_sem]) ?_;rintro n1 ⟨x10,x11⟩ y1 h hin1 hout1;rw [Zwb] at h;(try dsimp only);refine Zl2 5 ?_;dsimp only [e51,Ztb,go_sem];refine ⟨by simp,?_⟩
   refine Zn4 h rfl (fun _ h=>?_) fun _ h=>?_
   ·refine Zl2 5 ?_;dsimp only [e51,Ztb,go_sem];refine ⟨by simp,?_⟩;obtain ⟨x12,ex12,h⟩:=Option.bind_eq_some_iff.1 h;refine Zq4 Edge.row ex12 trivial rfl rfl rfl ?_;refine Zl2 16 ?_;dsimp only [e51,Ztb,go_sem];refine ⟨by simp,?_⟩;refine Zl4 (fun (x15:(List Int))=>(⟨(.any :: .iv x2::an 3 (.osl 0::an 6 (.sl 2 (List.map Edge.row x1.Edges) :: .iv (ln Edge.row x1.Edges) :: .iv x10::an 25 []))),[],[some ⟨3,1,List.map Z45 x15⟩]⟩:St)) (Zvb x10) y1 ?_ fun J2=>?_
    ·intro x15 h;rw [Zvb] at h;(try dsimp only);refine Zl2 6 ?_;dsimp only [e51,Ztb,go_sem];refine ⟨by simp,?_⟩;exact Zy4 h hin1
    ·refine Zn4 h rfl (fun _ h=>?_) fun _ h=>?_
     ·refine Zl2 5 ?_;dsimp only [e51,Ztb,go_sem];refine ⟨by simp,?_⟩;obtain ⟨x13,ex13,h⟩:=Option.bind_eq_some_iff.1 h;refine Zt4 Z45 ex13 trivial rfl rfl rfl ?_;refine Zl2 2 ?_;dsimp only [e51,Ztb,go_sem];refine ⟨by simp,?_⟩;refine Z44 2 0 rfl rfl rfl ?_;dsimp only [go_sem];exact Zz4 J2 (s:=x13) h
     ·refine Zl2 7 ?_;dsimp only [e51,Ztb,go_sem];refine ⟨by simp,?_⟩;refine Zn4 h rfl (fun _ h=>?_) fun _ h=>?_
      ·refine Zl2 5 ?_;dsimp only [e51,Ztb,go_sem];refine ⟨by simp,?_⟩;obtain ⟨x14,ex14,h⟩:=Option.bind_eq_some_iff.1 h;refine Zt4 Z45 ex14 trivial rfl rfl rfl ?_;refine Zl2 2 ?_;dsimp only [e51,Ztb,go_sem];refine ⟨by simp,?_⟩;refine Z44 2 0 rfl rfl rfl ?_;dsimp only [go_sem];exact Zz4 J2 (s:=x14) h
      ·refine Zl2 1 ?_;dsimp only [e51,Ztb,go_sem];refine ⟨by simp,?_⟩;exact Zz4 J2 (s:=x11) h
   ·refine Zl2 1 ?_;dsimp only [e51,Ztb,go_sem];refine ⟨by simp,?_⟩;exact Zz4 J1 (s:=x11) (Zk4 h hout1)
set_option maxRecDepth 100000
set_option maxHeartbeats 4000000
def Zzb:EC:=.seq (.reg [(Qa 34 (.bin .lss (.t 33) (.t 32)))]) (.seq (.ite (.t 34) (.skip) (.exit 2)) (.seq (.blk 3 (.seq (.reg [(Qa 35 (.idx 1 (.t 31) (.t 33))),(Qa 36 (.load (.t 35))),(Qa 11 (.mv (.t 36)))]) (.seq (.drw [(Qa 37 (.mv (.t 1))),(Qa 38 (.mv (.t 8))),(Qa 39 (.idx 1 (.t 37) (.t 38))),(Qa 40 (.load (.t 39))),(Qa 41 (.mv (.t 1))),(Qa 42 (.mv (.t 11))),(Qa 43 (.idx 1 (.t 41) (.t 42))),(Qa 44 (.load (.t 43))),(Qa 45 (.bin .gtr (.t 40) (.t 44))),(Qa 12 (.mv (.t 45)))] [[],[],[0,1],[2],[],[],[4,5],[6],[3,7],[8,0,1,2,3,4,5,6,7,8]] [[2],[2],[0,1,3],[2,8],[6],[6],[4,5,7],[6,8],[3,7,9],[8]]) (.reg [(Qa 46 (.fld 2 (.t 9))),(Qa 47 (.load (.t 46))),(Qa 48 (.mv (.t 11))),(Qa 49 (.mv (.t 12))),(Qa 50 (.mv (.t 12))),(Qa 51 (.mv (.t 12))),(Qa 52 (.mv (.t 12))),(Qa 53 (.not (.t 52))),(Qa 54 (.mv (.t 12))),(Qa 55 (.not (.t 54))),(Qa 56 (.build [.iv 0,.iv 0,.iv 0,.ff,.ff,.ff,.ff,.ff] [(0,1,(.t 48)),(1,1,(.c (.iv 1))),(3,1,(.t 49)),(4,1,(.t 50)),(6,1,(.t 51)),(5,1,(.t 53)),(7,1,(.t 55))])),(Qa 57 (.bsl 49 8 1 [.iv 0,.iv 0,.iv 0,.ff,.ff,.ff,.ff,.ff] [(0,(.t 56))])),(Qa 58 (.app 49 8 32 (.t 47) (.t 57))),(Qa 59 (.fld 2 (.t 9))),(Qb (.store 1 (.t 59) (.t 58)))])))) (.reg [(Qa 60 (.bin .add (.t 33) (.c (.iv 1)))),(Qa 33 (.mv (.t 60)))])))
def Z0c:EC:=.seq (.reg [(Qa 25 (.bin .lss (.t 24) (.t 23)))]) (.seq (.ite (.t 25) (.skip) (.exit 0)) (.seq (.blk 1 (.seq (.reg [(Qa 26 (.mv (.t 24))),(Qa 8 (.mv (.t 26)))]) (.seq (.reg [(Qa 27 (.mv (.t 8))),(Qa 28 (.build [.iv 0,.iv 0,.nl] [(0,1,(.t 27))])),(Qa 9 (.alloc 39 [.iv 0,.iv 0,.nl])),(Qb (.store 3 (.t 9) (.t 28)))]) (.seq (.seq (.reg [(Qa 29 (.loadA 2 (.t 2))),(Qa 30 (.mv (.t 8))),(Qa 31 (.call 51 [(.t 29),(.t 30)])),(Qa 32 (.len (.t 31))),(Qa 33 (.mv (.c (.iv 0))))]) (.blk 2 (.loop Zzb))) (.reg [(Qa 61 (.mv (.t 7))),(Qa 62 (.loadA 3 (.t 9))),(Qa 63 (.bsl 39 3 1 [.iv 0,.iv 0,.nl] [(0,(.t 62))])),(Qa 64 (.app 39 3 40 (.t 61) (.t 63))),(Qa 7 (.mv (.t 64)))]))))) (.reg [(Qa 65 (.bin .add (.t 24) (.c (.iv 1)))),(Qa 24 (.mv (.t 65)))])))
def e14:EC:=.seq (.reg [(Qa 2 (.box 24 2 (.t 0))),(Qa 4 (.mv (.c .nl))),(Qa 5 (.mv (.c (.iv 0))))]) (.seq (.seq (.reg [(Qa 13 (.loadA 2 (.t 2))),(Qa 14 (.call 49 [(.t 13)])),(Qa 6 (.mv (.t 14)))]) (.seq (.reg [(Qa 15 (.mv (.t 6))),(Qa 16 (.bin .neq (.t 15) (.c (.iv 0))))]) (.ite (.t 16) (.seq (.reg [(Qa 17 (.mv (.t 6))),(Qa 4 (.mv (.c .nl))),(Qa 5 (.mv (.t 17)))]) (.ret)) (.skip)))) (.seq (.seq (.reg [(Qa 18 (.loadA 2 (.t 2))),(Qa 19 (.mv (.t 1))),(Qa 20 (.call 50 [(.t 18),(.t 19)])),(Qa 21 (.not (.t 20)))]) (.ite (.t 21) (.seq (.reg [(Qa 4 (.mv (.c .nl))),(Qa 5 (.mv (.c (.iv 120))))]) (.ret)) (.skip))) (.seq (.reg [(Qa 7 (.mv (.c .nl)))]) (.seq (.seq (.reg [(Qa 22 (.fld 0 (.t 2))),(Qa 23 (.load (.t 22))),(Qa 24 (.mv (.c (.iv 0))))]) (.blk 0 (.loop Z0c))) (.seq (.reg [(Qa 66 (.mv (.t 7))),(Qa 4 (.mv (.t 66))),(Qa 5 (.mv (.c (.iv 0))))]) (.ret))))))
theorem ok14:FnOK Try.prog 14 Try.f14 e14 [.t 4,.t 5] 2 65:=⟨by kernel_rfl,⟨_,rfl,by kernel_rfl⟩,by kernel_rfl,by kernel_rfl⟩
noncomputable def Z1c:(List Diner)→Option ((List Diner)×Int)
| x68=>
 some (x68,0)
noncomputable def Z2c (x31:Int) (x32:(List Diner)):(List Side)→Option ((Int×(List Diner)) ⊕ ((List Diner)×Int))
| x59=>
 (Za4 40 x32 ([(Diner.mk x31 0 x59)])).bind fun x60=>
 some (.inl (wr (x31+1),x60))
noncomputable def Z3c (x2:(List Int)) (x31:Int) (x32:(List Diner)) (x33:(List Int)):(Int×(List Side))→Option ((Int×(List Side)) ⊕ ((Int×(List Diner)) ⊕ ((List Diner)×Int)))
| (x40,x41)=>
 ifb (decide (x40<(ln Z45 x33))) (
 (at_ x33 x40).bind fun x42=>
 (at_ x2 x31).bind fun x43=>
 (at_ x2 x42).bind fun x44=>
 (Za4 32 x41 ([(Side.mk x42 1 0 (decide (x44<x43)) (decide (x44<x43)) (!(decide (x44<x43))) (decide (x44<x43)) (!(decide (x44<x43))))])).bind fun x45=>
 some (.inl (wr (x40+1),x45))) (
 Option.map Sum.inr ((Z2c x31 x32) x41))
noncomputable def Z4c (x1:Graph) (x2:(List Int)):(Int×(List Diner))→Option ((Int×(List Diner)) ⊕ ((List Diner)×Int))
| (x31,x32)=>
 ifb (decide (x31<x1.N)) (
 (Zxb x1 x31).bind fun x33=>
 loop (Z3c x2 x31 x32 x33) (0,([]:List Side))) (
 Option.map Sum.inr (Z1c x32))
noncomputable def Z5c (x1:Graph) (x2:(List Int)):Option ((List Diner)×Int):=
 (Zc7 x1).bind fun x3=>
 ifb (!decide (x3=0)) (
 some (([]:(List Diner)),x3)) (
 (Zja x1 x2).bind fun x4=>
 ifb (!x4) (
 some (([]:(List Diner)),120)) (
 loop (Z4c x1 x2) (0,([]:List Diner))))
theorem k_place_Table (x1:Graph) (x2:(List Int)) (r:((List Diner)×Int)) (h:Z5c x1 x2=some r):Zq2 Try.prog 14 [.agg (Graph.row x1),.sl 1 (List.map Z45 x2)] (.tup [.sl 3 (List.map Diner.row r.1),.iv r.2]):=by
 refine Zu2 ok14 rfl rfl fun w0 H0=>?_
 rw [Z5c] at h
 refine Zl2 10 ?_;dsimp only [e14,Z0c,Zzb,go_sem];refine ⟨by simp,?_⟩;obtain ⟨x3,ex3,h⟩:=Option.bind_eq_some_iff.1 h;refine Zz2 trivial (Zd7 x1 _ ex3) (h:=?_);refine Zl2 7 ?_;dsimp only [e14,Z0c,Zzb,go_sem];refine ⟨by simp,?_⟩;refine Zn4 h rfl (fun _ h=>?_) fun _ h=>?_
 ·refine Zl2 6 ?_;dsimp only [e14,Z0c,Zzb,go_sem];refine ⟨by simp,?_⟩;exact Zx4 (res:=fun (r:((List Diner)×Int))=>.tup [.sl 3 (List.map Diner.row r.1),.iv r.2]) ok14 h
 ·refine Zl2 6 ?_;dsimp only [e14,Z0c,Zzb,go_sem];refine ⟨by simp,?_⟩;obtain ⟨x4,ex4,h⟩:=Option.bind_eq_some_iff.1 h;refine Zz2 trivial (Zka x1 x2 _ ex4) (h:=?_);refine Zl2 2 ?_;dsimp only [e14,Z0c,Zzb,go_sem];refine ⟨by simp,?_⟩;refine Zn4 h rfl (fun _ h=>?_) fun _ h=>?_
  ·refine Zl2 5 ?_;dsimp only [e14,Z0c,Zzb,go_sem];refine ⟨by simp,?_⟩;exact Zx4 (res:=fun (r:((List Diner)×Int))=>.tup [.sl 3 (List.map Diner.row r.1),.iv r.2]) ok14 h
  ·refine Zl2 12 ?_;dsimp only [e14,Z0c,Zzb,go_sem];refine ⟨by simp,?_⟩;refine Zl4 (fun (x68:(List Diner))=>(⟨(an 7 (.osl 0::an 59 [])),[],[some ⟨39,3,List.map Diner.row x68⟩]⟩:St)) Z1c r ?_ fun J1=>?_
   ·intro x68 h;rw [Z1c] at h;(try dsimp only);refine Zl2 6 ?_;dsimp only [e14,Z0c,Zzb,go_sem];refine ⟨by simp,?_⟩;refine Z83 0 rfl ?_;dsimp only [go_sem];exact Zx4 (res:=fun (r:((List Diner)×Int))=>.tup [.sl 3 (List.map Diner.row r.1),.iv r.2]) ok14 h
   ·refine Zl2 1 ?_;dsimp only [e14,Z0c,Zzb,go_sem];refine ⟨by simp,?_⟩;refine V_own 7 39 3 rfl rfl ?_;dsimp only [go_sem];refine Zm4 h (fun ((x31,x32):(Int×(List Diner)))=>(⟨(.any :: .sl 1 (List.map Z45 x2) :: .ptr 0 0::an 4 (.osl 0::an 15 (.iv x1.N :: .iv x31::an 42 []))),[some ⟨24,[.iv x1.N,.sl 2 (List.map Edge.row x1.Edges)]⟩],[some ⟨39,3,List.map Diner.row x32⟩]⟩:St)) (by simp [go_sem]) (by rintro ⟨x31,x32⟩;first | rfl | simp [go_sem]) ?_;rintro n1 ⟨x31,x32⟩ y1 h hin1 hout1;rw [Z4c] at h;(try dsimp only);refine Zl2 5 ?_
    dsimp only [e14,Z0c,Zzb,go_sem];refine ⟨by simp,?_⟩;refine Zn4 h rfl (fun _ h=>?_) fun _ h=>?_
    ·refine Zl2 20 ?_;dsimp only [e14,Z0c,Zzb,go_sem];refine ⟨by simp,?_⟩;obtain ⟨x33,ex33,h⟩:=Option.bind_eq_some_iff.1 h;refine Zz2 trivial (Zyb x1 x31 _ ex33) (h:=?_);refine Zl2 3 ?_;dsimp only [e14,Z0c,Zzb,go_sem];refine ⟨by simp,?_⟩
     refine Zl4 (fun (x59:(List Side))=>(⟨(.any :: .sl 1 (List.map Z45 x2) :: .ptr 0 0::an 4 (.osl 0 :: .any :: .ptr 1 0::an 13 (.iv x1.N :: .iv x31::an 42 []))),[some ⟨24,[.iv x1.N,.sl 2 (List.map Edge.row x1.Edges)]⟩,some ⟨39,[.iv x31,.iv 0,.osl 1]⟩],[some ⟨39,3,List.map Diner.row x32⟩,some ⟨49,8,List.map Side.row x59⟩]⟩:St)) (Z2c x31 x32) y1 ?_ fun J2=>?_
     ·intro x59 h;rw [Z2c] at h;(try dsimp only);refine Zl2 3 ?_;dsimp only [e14,Z0c,Zzb,go_sem];refine ⟨by simp,?_⟩;refine Z83 1 rfl ?_;dsimp only [go_sem];refine Zl2 1 ?_;dsimp only [e14,Z0c,Zzb,go_sem];refine ⟨by simp,?_⟩;obtain ⟨x60,ex60,h⟩:=Option.bind_eq_some_iff.1 h;refine Zt4 Diner.row ex60 trivial rfl rfl rfl ?_;refine Zl2 7 ?_;dsimp only [e14,Z0c,Zzb,go_sem];refine ⟨by simp,?_⟩;refine Z44 3 0 rfl rfl rfl ?_;dsimp only [go_sem];exact Zy4 h hin1
     ·refine Zl2 1 ?_;dsimp only [e14,Z0c,Zzb,go_sem];refine ⟨by simp,?_⟩;refine V_ownB 1 2 49 8 rfl rfl rfl ?_;dsimp only [go_sem]
      refine Zm4 h (fun ((x40,x41):(Int×(List Side)))=>(⟨(.any :: .sl 1 (List.map Z45 x2) :: .ptr 0 0::an 4 (.osl 0 :: .iv x31 :: .ptr 1 0::an 13 (.iv x1.N :: .iv x31::an 6 (.sl 1 (List.map Z45 x33) :: .iv (ln Z45 x33) :: .iv x40::an 33 [])))),[some ⟨24,[.iv x1.N,.sl 2 (List.map Edge.row x1.Edges)]⟩,some ⟨39,[.iv x31,.iv 0,.osl 1]⟩],[some ⟨39,3,List.map Diner.row x32⟩,some ⟨49,8,List.map Side.row x41⟩]⟩:St)) (by simp [go_sem]) (by rintro ⟨x40,x41⟩;first | rfl | simp [go_sem]) ?_;rintro n2 ⟨x40,x41⟩ y2 h hin2 hout2;rw [Z3c] at h
      (try dsimp only);refine Zl2 5 ?_;dsimp only [e14,Z0c,Zzb,go_sem];refine ⟨by simp,?_⟩;refine Zn4 h rfl (fun _ h=>?_) fun _ h=>?_
      ·refine Zl2 5 ?_;dsimp only [e14,Z0c,Zzb,go_sem];refine ⟨by simp,?_⟩;obtain ⟨x42,ex42,h⟩:=Option.bind_eq_some_iff.1 h;refine Zq4 Z45 ex42 trivial rfl rfl rfl ?_;refine Zl2 4 ?_;dsimp only [e14,Z0c,Zzb,go_sem];refine ⟨by simp,?_⟩;refine Zh3 (by kernel_rfl) fun all hall hs hnap haf=>?_;dsimp only [go_sem];refine Zh5 hall hs haf hnap 4 6 ?_;dsimp only [go_sem];refine ⟨by simp,?_⟩;obtain ⟨x43,ex43,h⟩:=Option.bind_eq_some_iff.1 h;refine Zr4 hall hs haf hnap 2 Z45 ex43 rfl rfl trivial rfl rfl rfl rfl ?_
       refine Zh5 hall hs haf hnap 1 4 ?_;dsimp only [go_sem];refine ⟨by simp,?_⟩;obtain ⟨x44,ex44,h⟩:=Option.bind_eq_some_iff.1 h;refine Zr4 hall hs haf hnap 6 Z45 ex44 rfl rfl trivial rfl rfl rfl rfl ?_;refine Zh5 hall hs haf hnap 3 0 ?_;dsimp only [go_sem];refine ⟨by simp,?_⟩;refine Zs3 rfl ?_ _;refine Zl2 13 ?_;dsimp only [e14,Z0c,Zzb,go_sem];refine ⟨by simp,?_⟩;obtain ⟨x45,ex45,h⟩:=Option.bind_eq_some_iff.1 h;refine Zt4 Side.row ex45 trivial rfl rfl rfl ?_;refine Zl2 8 ?_;dsimp only [e14,Z0c,Zzb,go_sem]
       refine ⟨by simp,?_⟩;refine Z44 3 1 rfl rfl rfl ?_;dsimp only [go_sem];exact Zy4 h hin2
      ·refine Zl2 1 ?_;dsimp only [e14,Z0c,Zzb,go_sem];refine ⟨by simp,?_⟩;exact Zz4 J2 (s:=x41) (Zk4 h hout2)
    ·refine Zl2 1 ?_;dsimp only [e14,Z0c,Zzb,go_sem];refine ⟨by simp,?_⟩;exact Zz4 J1 (s:=x32) (Zk4 h hout1)
set_option maxRecDepth 100000
set_option maxHeartbeats 4000000
def Z6c:EC:=.seq (.seq (.reg [(Qa 19 (.mv (.t 8))),(Qa 20 (.fld 0 (.t 2))),(Qa 21 (.load (.t 20))),(Qa 22 (.bin .lss (.t 19) (.t 21)))]) (.ite (.t 22) (.skip) (.exit 2))) (.seq (.blk 3 (.seq (.seq (.reg [(Qa 25 (.loadA 2 (.t 2))),(Qa 26 (.mv (.t 6))),(Qa 27 (.mv (.t 8))),(Qa 28 (.call 32 [(.t 25),(.t 26),(.t 27)])),(Qa 29 (.not (.t 28)))]) (.ite (.t 29) (.exit 3) (.skip))) (.seq (.reg [(Qa 30 (.mv (.t 8))),(Qa 31 (.build [.iv 0,.iv 0,.iv 0,.ff,.ff,.ff,.ff,.ff] [(0,1,(.t 30)),(1,1,(.c (.iv 1)))])),(Qa 9 (.alloc 49 [.iv 0,.iv 0,.iv 0,.ff,.ff,.ff,.ff,.ff])),(Qb (.store 8 (.t 9) (.t 31)))]) (.seq (.seq (.drw [(Qa 32 (.mv (.t 1))),(Qa 33 (.mv (.t 6))),(Qa 34 (.idx 1 (.t 32) (.t 33))),(Qa 35 (.load (.t 34))),(Qa 36 (.mv (.t 1))),(Qa 37 (.mv (.t 8))),(Qa 38 (.idx 1 (.t 36) (.t 37))),(Qa 39 (.load (.t 38))),(Qa 40 (.bin .lss (.t 35) (.t 39)))] [[],[],[0,1],[2],[],[],[4,5],[6],[3,7]] [[2],[2],[0,1,3],[2,8],[6],[6],[4,5,7],[6,8],[3,7]]) (.ite (.t 40) (.reg [(Qa 41 (.fld 5 (.t 9))),(Qb (.store 1 (.t 41) (.c .tt))),(Qa 42 (.fld 7 (.t 9))),(Qb (.store 1 (.t 42) (.c .tt)))]) (.reg [(Qa 43 (.fld 3 (.t 9))),(Qb (.store 1 (.t 43) (.c .tt))),(Qa 44 (.fld 4 (.t 9))),(Qb (.store 1 (.t 44) (.c .tt))),(Qa 45 (.fld 6 (.t 9))),(Qb (.store 1 (.t 45) (.c .tt)))]))) (.reg [(Qa 46 (.fld 2 (.t 7))),(Qa 47 (.load (.t 46))),(Qa 48 (.loadA 8 (.t 9))),(Qa 49 (.bsl 49 8 1 [.iv 0,.iv 0,.iv 0,.ff,.ff,.ff,.ff,.ff] [(0,(.t 48))])),(Qa 50 (.app 49 8 32 (.t 47) (.t 49))),(Qa 51 (.fld 2 (.t 7))),(Qb (.store 1 (.t 51) (.t 50)))]))))) (.reg [(Qa 23 (.mv (.t 8))),(Qa 24 (.bin .add (.t 23) (.c (.iv 1)))),(Qa 8 (.mv (.t 24)))]))
def Z7c:EC:=.seq (.seq (.reg [(Qa 11 (.mv (.t 6))),(Qa 12 (.fld 0 (.t 2))),(Qa 13 (.load (.t 12))),(Qa 14 (.bin .lss (.t 11) (.t 13)))]) (.ite (.t 14) (.skip) (.exit 0))) (.seq (.blk 1 (.seq (.reg [(Qa 17 (.mv (.t 6))),(Qa 18 (.build [.iv 0,.iv 0,.nl] [(0,1,(.t 17))])),(Qa 7 (.alloc 39 [.iv 0,.iv 0,.nl])),(Qb (.store 3 (.t 7) (.t 18)))]) (.seq (.seq (.reg [(Qa 8 (.mv (.c (.iv 0))))]) (.blk 2 (.loop Z6c))) (.reg [(Qa 52 (.mv (.t 5))),(Qa 53 (.loadA 3 (.t 7))),(Qa 54 (.bsl 39 3 1 [.iv 0,.iv 0,.nl] [(0,(.t 53))])),(Qa 55 (.app 39 3 40 (.t 52) (.t 54))),(Qa 5 (.mv (.t 55)))])))) (.reg [(Qa 15 (.mv (.t 6))),(Qa 16 (.bin .add (.t 15) (.c (.iv 1)))),(Qa 6 (.mv (.t 16)))]))
def e19:EC:=.seq (.reg [(Qa 2 (.box 24 2 (.t 0))),(Qa 4 (.mv (.c .nl)))]) (.seq (.reg [(Qa 10 (.bsl 39 3 0 [.iv 0,.iv 0,.nl] [])),(Qa 5 (.mv (.t 10)))]) (.seq (.seq (.reg [(Qa 6 (.mv (.c (.iv 0))))]) (.blk 0 (.loop Z7c))) (.seq (.reg [(Qa 56 (.mv (.t 5))),(Qa 4 (.mv (.t 56)))]) (.ret))))
theorem ok19:FnOK Try.prog 19 Try.f19 e19 [.t 4] 2 55:=⟨by kernel_rfl,⟨_,rfl,by kernel_rfl⟩,by kernel_rfl,by kernel_rfl⟩
noncomputable def Z8c:(List Diner)→Option (List Diner)
| x64=>
 some x64
noncomputable def Z9c (x29:Int) (x30:(List Diner)):(List Side)→Option ((Int×(List Diner)) ⊕ (List Diner))
| x56=>
 (Za4 40 x30 ([(Diner.mk x29 0 x56)])).bind fun x57=>
 some (.inl (wr (x29+1),x57))
noncomputable def Zac (x39:Int):(List Side)→Option ((Int×(List Side)) ⊕ ((Int×(List Diner)) ⊕ (List Diner)))
| x46=>
 some (.inl (wr (x39+1),x46))
noncomputable def Zbc (x39:Int) (x40:(List Side)):Side→Option ((Int×(List Side)) ⊕ ((Int×(List Diner)) ⊕ (List Diner)))
| x44=>
 (Za4 32 x40 ([x44])).bind fun x45=>
 (Zac x39) x45
noncomputable def Zcc (x1:Graph) (x2:(List Int)) (x29:Int) (x30:(List Diner)):(Int×(List Side))→Option ((Int×(List Side)) ⊕ ((Int×(List Diner)) ⊕ (List Diner)))
| (x39,x40)=>
 ifb (decide (x39<x1.N)) (
 (Zza x1 x29 x39).bind fun x41=>
 ifb (!x41) (
 (Zac x39) x40) (
 (at_ x2 x29).bind fun x42=>
 (at_ x2 x39).bind fun x43=>
 ifb (decide (x42<x43)) (
 (Zbc x39 x40) ((Side.mk x39 1 0 false false true false true))) (
 (Zbc x39 x40) ((Side.mk x39 1 0 true true false true false))))) (
 Option.map Sum.inr ((Z9c x29 x30) x40))
noncomputable def Zdc (x1:Graph) (x2:(List Int)):(Int×(List Diner))→Option ((Int×(List Diner)) ⊕ (List Diner))
| (x29,x30)=>
 ifb (decide (x29<x1.N)) (
 loop (Zcc x1 x2 x29 x30) (0,([]:List Side))) (
 Option.map Sum.inr (Z8c x30))
noncomputable def Zec (x1:Graph) (x2:(List Int)):Option (List Diner):=
 loop (Zdc x1 x2) (0,([]:List Diner))
theorem Zfc (x1:Graph) (x2:(List Int)) (r:(List Diner)) (h:Zec x1 x2=some r):FunO Try.prog 19 [.agg (Graph.row x1),.sl 1 (List.map Z45 x2)] 39 3 (List.map Diner.row r):=by
 refine Zc5 ok19 rfl fun w0 H0=>?_
 rw [Zec] at h
 refine Zl2 15 ?_;dsimp only [e19,Z7c,Z6c,go_sem];refine ⟨by simp,?_⟩;refine Zl4 (fun (x64:(List Diner))=>(⟨(an 5 (.osl 0::an 51 [])),[],[some ⟨39,3,List.map Diner.row x64⟩]⟩:St)) Z8c r ?_ fun J1=>?_
 ·intro x64 h;rw [Z8c] at h;(try dsimp only);refine Zl2 5 ?_;dsimp only [e19,Z7c,Z6c,go_sem];refine ⟨by simp,?_⟩;exact Zj5 Diner.row ok19 h rfl rfl
 ·refine Zl2 1 ?_;dsimp only [e19,Z7c,Z6c,go_sem];refine ⟨by simp,?_⟩;refine Zm4 h (fun ((x29,x30):(Int×(List Diner)))=>(⟨(.any :: .sl 1 (List.map Z45 x2) :: .ptr 0 0 :: .any :: .any :: .osl 0 :: .iv x29::an 50 []),[some ⟨24,[.iv x1.N,.sl 2 (List.map Edge.row x1.Edges)]⟩],[some ⟨39,3,List.map Diner.row x30⟩]⟩:St)) (by simp [go_sem]) (by rintro ⟨x29,x30⟩;first | rfl | simp [go_sem]) ?_;rintro n1 ⟨x29,x30⟩ y1 h hin1 hout1;rw [Zdc] at h;(try dsimp only);refine Zl2 8 ?_;dsimp only [e19,Z7c,Z6c,go_sem];refine ⟨by simp,?_⟩
  refine Zn4 h rfl (fun _ h=>?_) fun _ h=>?_
  ·refine Zl2 15 ?_;dsimp only [e19,Z7c,Z6c,go_sem];refine ⟨by simp,?_⟩;refine Zl4 (fun (x56:(List Side))=>(⟨(.any :: .sl 1 (List.map Z45 x2) :: .ptr 0 0 :: .any :: .any :: .osl 0 :: .iv x29 :: .ptr 1 0::an 49 []),[some ⟨24,[.iv x1.N,.sl 2 (List.map Edge.row x1.Edges)]⟩,some ⟨39,[.iv x29,.iv 0,.osl 1]⟩],[some ⟨39,3,List.map Diner.row x30⟩,some ⟨49,8,List.map Side.row x56⟩]⟩:St)) (Z9c x29 x30) y1 ?_ fun J2=>?_
   ·intro x56 h;rw [Z9c] at h;(try dsimp only);refine Zl2 3 ?_;dsimp only [e19,Z7c,Z6c,go_sem];refine ⟨by simp,?_⟩;refine Z83 1 rfl ?_;dsimp only [go_sem];refine Zl2 1 ?_;dsimp only [e19,Z7c,Z6c,go_sem];refine ⟨by simp,?_⟩;obtain ⟨x57,ex57,h⟩:=Option.bind_eq_some_iff.1 h;refine Zt4 Diner.row ex57 trivial rfl rfl rfl ?_;refine Zl2 8 ?_;dsimp only [e19,Z7c,Z6c,go_sem];refine ⟨by simp,?_⟩;refine Z44 3 0 rfl rfl rfl ?_;dsimp only [go_sem];exact Zy4 h hin1
   ·refine Zl2 1 ?_;dsimp only [e19,Z7c,Z6c,go_sem];refine ⟨by simp,?_⟩;refine V_ownB 1 2 49 8 rfl rfl rfl ?_;dsimp only [go_sem];refine Zm4 h (fun ((x39,x40):(Int×(List Side)))=>(⟨(.any :: .sl 1 (List.map Z45 x2) :: .ptr 0 0 :: .any :: .any :: .osl 0 :: .iv x29 :: .ptr 1 0 :: .iv x39::an 48 []),[some ⟨24,[.iv x1.N,.sl 2 (List.map Edge.row x1.Edges)]⟩,some ⟨39,[.iv x29,.iv 0,.osl 1]⟩],[some ⟨39,3,List.map Diner.row x30⟩,some ⟨49,8,List.map Side.row x40⟩]⟩:St)) (by simp [go_sem]) (by rintro ⟨x39,x40⟩;first | rfl | simp [go_sem]) ?_
    rintro n2 ⟨x39,x40⟩ y2 h hin2 hout2;rw [Zcc] at h;(try dsimp only);refine Zl2 8 ?_;dsimp only [e19,Z7c,Z6c,go_sem];refine ⟨by simp,?_⟩;refine Zn4 h rfl (fun _ h=>?_) fun _ h=>?_
    ·refine Zl2 2 ?_;dsimp only [e19,Z7c,Z6c,go_sem];refine ⟨by simp,?_⟩;refine Zl4 (fun (x46:(List Side))=>(⟨(.any :: .sl 1 (List.map Z45 x2) :: .ptr 0 0 :: .any :: .any :: .osl 0 :: .iv x29 :: .ptr 1 0 :: .iv x39::an 48 []),[some ⟨24,[.iv x1.N,.sl 2 (List.map Edge.row x1.Edges)]⟩,some ⟨39,[.iv x29,.iv 0,.osl 1]⟩],[some ⟨39,3,List.map Diner.row x30⟩,some ⟨49,8,List.map Side.row x46⟩]⟩:St)) (Zac x39) y2 ?_ fun J3=>?_
     ·intro x46 h;rw [Zac] at h;(try dsimp only);refine Zl2 5 ?_;dsimp only [e19,Z7c,Z6c,go_sem];refine ⟨by simp,?_⟩;exact Zy4 h hin2
     ·refine Zl2 7 ?_;dsimp only [e19,Z7c,Z6c,go_sem];refine ⟨by simp,?_⟩;obtain ⟨x41,ex41,h⟩:=Option.bind_eq_some_iff.1 h;refine Zz2 trivial (Z0b x1 x29 x39 _ ex41) (h:=?_);refine Zl2 2 ?_;dsimp only [e19,Z7c,Z6c,go_sem];refine ⟨by simp,?_⟩;refine Zn4 h rfl (fun _ h=>?_) fun _ h=>?_
      ·refine Zl2 1 ?_;dsimp only [e19,Z7c,Z6c,go_sem];refine ⟨by simp,?_⟩;exact Zz4 J3 (s:=x40) h
      ·refine Zl2 10 ?_;dsimp only [e19,Z7c,Z6c,go_sem];refine ⟨by simp,?_⟩;refine Zh3 (by kernel_rfl) fun all hall hs hnap haf=>?_;dsimp only [go_sem];refine Zh5 hall hs haf hnap 4 5 ?_;dsimp only [go_sem];refine ⟨by simp,?_⟩;obtain ⟨x42,ex42,h⟩:=Option.bind_eq_some_iff.1 h;refine Zr4 hall hs haf hnap 2 Z45 ex42 rfl rfl trivial rfl rfl rfl rfl ?_;refine Zh5 hall hs haf hnap 1 3 ?_;dsimp only [go_sem];refine ⟨by simp,?_⟩;obtain ⟨x43,ex43,h⟩:=Option.bind_eq_some_iff.1 h
       refine Zr4 hall hs haf hnap 6 Z45 ex43 rfl rfl trivial rfl rfl rfl rfl ?_;refine Zh5 hall hs haf hnap 2 0 ?_;dsimp only [go_sem];refine ⟨by simp,?_⟩;refine Zs3 rfl ?_ _
       refine Zl4 (fun (x44:Side)=>(⟨(.any :: .sl 1 (List.map Z45 x2) :: .ptr 0 0 :: .any :: .any :: .osl 0 :: .iv x29 :: .ptr 1 0 :: .iv x39 :: .ptr 2 0::an 47 []),[some ⟨24,[.iv x1.N,.sl 2 (List.map Edge.row x1.Edges)]⟩,some ⟨39,[.iv x29,.iv 0,.osl 1]⟩,some ⟨49,[.iv x44.Peer,.iv x44.Epoch,.iv x44.State,.bv x44.Fork,.bv x44.Dirty,.bv x44.Token,.bv x44.Bottle,.bv x44.Ask]⟩],[some ⟨39,3,List.map Diner.row x30⟩,some ⟨49,8,List.map Side.row x40⟩]⟩:St)) (Zbc x39 x40) y2 ?_ fun J4=>?_
       ·intro x44 h;rw [Zbc] at h;(try dsimp only);refine Zl2 5 ?_;dsimp only [e19,Z7c,Z6c,go_sem];refine ⟨by simp,?_⟩;obtain ⟨x45,ex45,h⟩:=Option.bind_eq_some_iff.1 h;refine Zt4 Side.row ex45 trivial rfl rfl rfl ?_;refine Zl2 4 ?_;dsimp only [e19,Z7c,Z6c,go_sem];refine ⟨by simp,?_⟩;refine Z44 3 1 rfl rfl rfl ?_;dsimp only [go_sem];exact Zz4 J3 (s:=x45) h
       ·refine Zn4 h rfl (fun _ h=>?_) fun _ h=>?_
        ·refine Zl2 6 ?_;dsimp only [e19,Z7c,Z6c,go_sem];refine ⟨by simp,?_⟩;exact Zz4 J4 (s:=(Side.mk x39 1 0 false false true false true)) h
        ·refine Zl2 8 ?_;dsimp only [e19,Z7c,Z6c,go_sem];refine ⟨by simp,?_⟩;exact Zz4 J4 (s:=(Side.mk x39 1 0 true true false true false)) h
    ·refine Zl2 1 ?_;dsimp only [e19,Z7c,Z6c,go_sem];refine ⟨by simp,?_⟩;exact Zz4 J2 (s:=x40) (Zk4 h hout2)
  ·refine Zl2 1 ?_;dsimp only [e19,Z7c,Z6c,go_sem];refine ⟨by simp,?_⟩;exact Zz4 J1 (s:=x30) (Zk4 h hout1)
theorem k_narthexref12_Table (x1:Graph) (x2:(List Int)) (r:(List Diner)) (h:Zec x1 x2=some r):Zq2 Try.prog 19 [.agg (Graph.row x1),.sl 1 (List.map Z45 x2)] (.sl 3 (List.map Diner.row r)):=(Zfc x1 x2 r h).sealed
theorem pw_ext {α:Type} {R:α→α→Prop} (irr:∀x,¬R x x) (asy:∀x y,R x y→¬R y x):∀ {l m:List α},l.Pairwise R→m.Pairwise R→(∀x,x∈l↔x∈m)→l=m
 | [],[],_,_,_=>rfl
 | [],y::m,_,_,h=>absurd ((h y).2 (by simp)) (by simp)
 | x::l,[],_,_,h=>absurd ((h x).1 (by simp)) (by simp)
 | x::l,y::m,hl,hm,h=>by
   rw [List.pairwise_cons] at hl hm
   have hxy:x=y:=by
    rcases List.mem_cons.1 ((h x).1 (by simp)) with e | e
    ·exact e
    ·rcases List.mem_cons.1 ((h y).2 (by simp)) with e2 | e2
     ·exact e2.symm
     ·exact absurd (hl.1 y e2) (asy _ _ (hm.1 x e))
   subst hxy
   rw [pw_ext irr asy hl.2 hm.2 fun z=>?_]
   constructor
   ·intro hz
    rcases List.mem_cons.1 ((h z).1 (List.mem_cons_of_mem _ hz)) with e | e
    ·subst e;exact absurd (hl.1 z hz) (irr z)
    ·exact e
   ·intro hz
    rcases List.mem_cons.1 ((h z).2 (List.mem_cons_of_mem _ hz)) with e | e
    ·subst e;exact absurd (hm.1 z hz) (irr z)
    ·exact e
theorem Edge.lt_trans {x y z:Edge} (h:x.lt y=true) (k:y.lt z=true):x.lt z=true:=by
 simp only [Edge.lt,Bool.or_eq_true,Bool.and_eq_true,decide_eq_true_eq] at *
 omega
theorem Edge.lt_irr (x:Edge):¬x.lt x=true:=by
 simp only [Edge.lt,Bool.or_eq_true,Bool.and_eq_true,decide_eq_true_eq]
 omega
theorem Zgc:∀ {l:List Edge},risB l=true→l.Pairwise fun x y=>x.lt y=true
 | [],_=>List.Pairwise.nil
 | [x],_=>by simp
 | x::y::l,h=>by
   simp only [risB,Bool.and_eq_true] at h
   have ih:=Zgc h.2
   refine List.pairwise_cons.2 ⟨?_,ih⟩
   intro z hz
   rcases List.mem_cons.1 hz with rfl | hz
   ·exact h.1
   ·exact Edge.lt_trans h.1 ((List.pairwise_cons.1 ih).1 z hz)
theorem okG_pw {g:Graph} (h:okG g=true):g.Edges.Pairwise fun x y=>x.lt y=true:=Zgc (Zs7 h).2.2.2.2
def Zhc (a:Int) (e:Edge):Option Int:=if a=e.A then some e.B else if a=e.B then some e.A else none
def Zic (g:Graph) (a:Int):List Int:=g.Edges.filterMap (Zhc a)
theorem Zjc {g:Graph} (h:okG g=true) (a:Int):(Zic g a).Pairwise (· < ·):=by
 unfold Zic
 rw [List.pairwise_filterMap]
 obtain ⟨_,_,_,h4,_⟩:=Zs7 h
 refine List.Pairwise.imp_of_mem ?_ (okG_pw h)
 intro x y hx hy hxy b hb b' hb'
 have k1:=h4 x hx
 have k2:=h4 y hy
 simp only [Edge.lt,Bool.or_eq_true,Bool.and_eq_true,decide_eq_true_eq] at hxy
 unfold Zhc at hb hb'
 split at hb<;>split at hb'
 ·simp at hb hb';omega
 ·split at hb'
  ·simp at hb hb';omega
  ·simp at hb'
 ·split at hb
  ·simp at hb hb';omega
  ·simp at hb
 ·split at hb<;>split at hb'
  ·simp at hb hb';omega
  ·simp at hb'
  ·simp at hb
  ·simp at hb
theorem pw_chain {l:List Int} (h:l.Pairwise (· < ·)) {k:Nat} {x y:Int} (hx:l[k]?=some x) (hy:l[k+1]?=some y):x<y:=by
 rw [List.pairwise_iff_getElem] at h
 obtain ⟨h1,rfl⟩:=List.getElem?_eq_some_iff.1 hx
 obtain ⟨h2,rfl⟩:=List.getElem?_eq_some_iff.1 hy
 exact h k (k+1) h1 h2 (by omega)
theorem s_Compact (l:List Int) (hl:l.length≤1000000) (h:l.Pairwise (· < ·)):Zqb l=some l:=by
 unfold Zqb
 by_cases h2:l.length<2
 ·rw [Z65,decide_eq_true (by omega),Z36]
 ·rw [Z65,decide_eq_false (by omega),Z46]
  refine Zh9 (l.length-1) (Zpb l) (fun k=>((k+1:Nat):Int)) l (fun k hk=>?_) ?_
  ·have hx:l[k+1]?=some l[k+1]:=List.getElem?_eq_getElem (by omega)
   have hy:l[k]?=some l[k]:=List.getElem?_eq_getElem (by omega)
   have:=pw_chain h hy hx
   dsimp only [Zpb]
   rw [Z96 hx,Z36,Z76 hx,Option.bind_some,wr_pred (by omega),Z76 hy,Option.bind_some,decide_eq_false (by omega),Z46,Zb6 (by omega)]
  ·dsimp only [Zpb]
   rw [show l.length-1+1=l.length by omega,Za6,Z46];rfl
theorem s_setOf (l:List Int) (hl:l.length≤1000000) (h:l.Pairwise (· < ·)):Zsb l=some l:=by
 simp only [Zsb,Zjb]
 rw [Z86 _ _ (by omega) (by simp;omega),Option.bind_some,List.nil_append,decide_eq_true (by omega),Z36,List.mergeSort_of_pairwise (h.imp fun hxy=>decide_eq_true (by omega)),s_Compact l hl h]
theorem Zkc (g:Graph) (a:Int):(Zic g a).length≤g.Edges.length:=List.length_filterMap_le _ _
theorem s_Near (g:Graph) (a:Int):Zxb g a=some (if okG g then Zic g a else []):=by
 simp only [Zxb,Zr7,Option.bind_some]
 cases hg:okG g with
 | false=>rfl
 | true=>
   have h400:=(Zs7 hg).2.2.1
   simp only [if_true,decide_true,Bool.not_true,Z46]
   refine Zc9 g.Edges _ (fun pre=>((pre.length:Int),pre.filterMap (Zhc a))) (Zic g a) (fun pre e post h=>?_) ?_
   ·have hx:=Zd9 h
    have hm:=Ze9 h
    have hl:(pre.filterMap (Zhc a)).length≤pre.length:=List.length_filterMap_le _ _
    dsimp only [Zwb]
    rw [Z96 hx,Z36,Z76 hx,Option.bind_some,Zg9,List.filterMap_append]
    by_cases h1:a=e.A
    ·rw [decide_eq_true h1,Z36,Z86 _ _ (by omega) (by simp only [List.length_singleton];omega),Option.bind_some,Zvb,Zb6 (by omega)]
     simp [Zhc,h1]
    ·by_cases h2:a=e.B
     ·rw [decide_eq_false h1,Z46,decide_eq_true h2,Z36,Z86 _ _ (by omega) (by simp only [List.length_singleton];omega),Option.bind_some,Zvb,Zb6 (by omega)]
      have:¬e.B=e.A:=fun e'=>h1 (h2.trans e')
      simp [Zhc,h2,this]
     ·rw [decide_eq_false h1,Z46,decide_eq_false h2,Z46,Zvb,Zb6 (by omega)]
      simp [Zhc,h1,h2]
   ·dsimp only [Zwb]
    rw [Za6,Z46,Zub]
    have:(g.Edges.filterMap (Zhc a))=Zic g a:=rfl
    rw [this,s_setOf _ (by have:=Zkc g a;omega) (Zjc hg a)]
    rfl
theorem Zlc {g:Graph} (h:okG g=true) {a b:Int}:b∈Zic g a↔(⟨a,b⟩:Edge)∈g.Edges∨(⟨b,a⟩:Edge)∈g.Edges:=by
 obtain ⟨_,_,_,h4,_⟩:=Zs7 h
 unfold Zic
 rw [List.mem_filterMap]
 constructor
 ·rintro ⟨e,he,hb⟩
  unfold Zhc at hb
  split at hb
  ·rename_i h1
   simp at hb;subst hb;subst h1;exact .inl he
  ·split at hb
   ·rename_i h2
    simp at hb;subst hb;subst h2;exact .inr he
   ·simp at hb
 ·rintro (he | he)
  ·exact ⟨_,he,by simp [Zhc]⟩
  ·have:=h4 _ he
   dsimp only at this
   exact ⟨_,he,by unfold Zhc;rw [if_neg (by dsimp only;omega),if_pos rfl]⟩
theorem hasB_iff {g:Graph} (h:okG g=true) {a b:Int}:hasB g a b=true↔b∈Zic g a:=by
 rw [Zlc h]
 obtain ⟨_,_,_,h4,_⟩:=Zs7 h
 simp only [hasB,List.any_eq_true,Bool.or_eq_true,Bool.and_eq_true,decide_eq_true_eq]
 constructor
 ·rintro ⟨e,he,(⟨rfl,rfl,_⟩ | ⟨rfl,rfl,_⟩)⟩
  ·exact .inl he
  ·exact .inr he
 ·rintro (he | he)
  ·have:=h4 _ he;dsimp only at this
   exact ⟨_,he,.inl ⟨rfl,rfl,by omega⟩⟩
  ·have:=h4 _ he;dsimp only at this
   exact ⟨_,he,.inr ⟨rfl,rfl,by omega⟩⟩
theorem Zmc {g:Graph} (h:okG g=true) {a b:Int} (hb:b∈Zic g a):0≤b∧b<g.N∧b≠a∧0≤a∧a<g.N:=by
 obtain ⟨_,_,_,h4,_⟩:=Zs7 h
 rcases (Zlc h).1 hb with he | he
 ·have:=h4 _ he;dsimp only at this;omega
 ·have:=h4 _ he;dsimp only at this;omega
def Znc (c:List Int) (a b:Int):Side:=⟨b,1,0,decide (cg c b<cg c a),decide (cg c b<cg c a),!decide (cg c b<cg c a),decide (cg c b<cg c a),!decide (cg c b<cg c a)⟩
def Zoc (g:Graph) (c:List Int) (a:Nat):Diner:=⟨a,0,(Zic g a).map (Znc c a)⟩
def Zpc (g:Graph) (c:List Int):List Diner:=(List.range g.N.toNat).map (Zoc g c)
theorem Zqc {α:Type} (f:Nat→α) (k:Nat):(List.range (k+1)).map f=(List.range k).map f++[f k]:=by simp [List.range_succ]
theorem s_Table2 (g:Graph) (hg:okG g=true) (c:List Int) (hc:(c.length:Int)=g.N) (a:Nat) (ha:(a:Int)<g.N) (L:List Diner) (hL:L.length≤1000):
  loop (Z3c c a L (Zic g a)) (0,[])=some (.inl (((a+1:Nat):Int),L++[Zoc g c a])):=by
 obtain ⟨g1,g2,g3,_,_⟩:=Zs7 hg
 have hnl:=Zkc g a
 refine Zc9 (Zic g a) _ (fun pre=>((pre.length:Int),pre.map (Znc c a))) _ (fun pre b post h=>?_) ?_
 ·have hx:=Zd9 h
  have hm:=Ze9 h
  obtain ⟨b1,b2,_,_,_⟩:=Zmc hg (mid_mem h)
  dsimp only [Z3c]
  rw [Z96 hx,Z36,Z76 hx,Option.bind_some,Zgb (c:=c) (Int.natCast_nonneg a) (by omega),Option.bind_some,Zgb (c:=c) b1 (by omega),Option.bind_some,Z86 _ _ (by omega) (by simp;omega),Option.bind_some,Zg9,Zb6 (by omega),List.map_append]
  rfl
 ·dsimp only [Z3c]
  rw [Za6,Z46,Z2c,Z86 _ _ (by omega) (by simp;omega),Option.bind_some,Zb6 (by omega)]
  rfl
theorem Zrc {g:Graph} {c:List Int} (h:Zhb g c=true):(c.length:Int)=g.N:=by
 simp only [Zhb,Bool.and_eq_true,decide_eq_true_eq] at h;exact h.1
theorem s_Table (g:Graph) (c:List Int) (hc:c.length≤1000000):Z5c g c=some (if okG g then (if Zhb g c then (Zpc g c,0) else ([],120)) else ([],30)):=by
 simp only [Z5c,Zr7,Option.bind_some]
 cases hg:okG g with
 | false=>rfl
 | true=>
   obtain ⟨g1,g2,_,_,_⟩:=Zs7 hg
   simp only [if_true,decide_true,Bool.not_true,Z46,s_Right g c hc,hg,Bool.true_and,Option.bind_some]
   cases hr:Zhb g c with
   | false=>rfl
   | true=>
     simp only [Bool.not_true,Z46,if_true]
     refine Zh9 g.N.toNat (Z4c g c) (fun k=>((k:Int),(List.range k).map (Zoc g c))) _ (fun k hk=>?_) ?_
     ·dsimp only [Z4c]
      rw [decide_eq_true (by omega),Z36,s_Near,hg,if_pos rfl,Option.bind_some,s_Table2 g hg c (Zrc hr) k (by omega) _ (by simp;omega),Zqc]
     ·dsimp only [Z4c]
      rw [decide_eq_false (by omega),Z46]
      rfl
theorem Zsc {g:Graph} (hg:okG g=true) {c:List Int} (h:Zhb g c=true) {a b:Int} (hb:b∈Zic g a):cg c a≠cg c b:=by
 simp only [Zhb,Bool.and_eq_true,List.all_eq_true,Bool.not_eq_true',decide_eq_false_iff_not] at h
 rcases (Zlc hg).1 hb with he | he
 ·exact h.2.2 _ he
 ·exact fun e=>h.2.2 _ he e.symm
theorem near_filter {g:Graph} (hg:okG g=true) (a:Int):Zic g a=((List.range g.N.toNat).map (fun k:Nat=>(k:Int))).filter (fun b=>hasB g a b):=by
 refine pw_ext (fun x=>by omega) (fun x y h=>by omega) (Zjc hg a) ?_ fun x=>?_
 ·refine List.Pairwise.filter _ ?_
  rw [List.pairwise_map]
  exact List.pairwise_lt_range.imp fun h=>by omega
 ·rw [List.mem_filter,List.mem_map,hasB_iff hg]
  constructor
  ·intro h
   obtain ⟨h1,h2,_⟩:=Zmc hg h
   exact ⟨⟨x.toNat,by simp;omega,by omega⟩,h⟩
  ·exact fun h=>h.2
theorem Ztc (p:Int→Bool) (k:Nat):(((List.range (k+1)).map (fun k:Nat=>(k:Int))).filter p)=((List.range k).map (fun k:Nat=>(k:Int))).filter p++(if p k then [(k:Int)] else []):=by
 rw [Zqc,List.filter_append]
 cases h:p k<;>simp [h]
theorem s_r12Table2 (g:Graph) (hg:okG g=true) (c:List Int) (hr:Zhb g c=true) (a:Nat) (ha:(a:Int)<g.N) (L:List Diner) (hL:L.length≤1000):
  loop (Zcc g c a L) (0,[])=some (.inl (((a+1:Nat):Int),L++[Zoc g c a])):=by
 obtain ⟨g1,g2,g3,_,_⟩:=Zs7 hg
 have hc:=Zrc hr
 refine Zh9 g.N.toNat (Zcc g c a L) (fun k=>((k:Int),(((List.range k).map (fun k:Nat=>(k:Int))).filter (fun b=>hasB g a b)).map (Znc c a))) _ (fun k hk=>?_) ?_
 ·have hlen:(((List.range k).map (fun k:Nat=>(k:Int))).filter (fun b=>hasB g a b)).length≤64:=by
   have:=List.length_filter_le (fun b=>hasB g a b) ((List.range k).map (fun k:Nat=>(k:Int)))
   simp only [List.length_map,List.length_range] at this
   omega
  dsimp only [Zcc]
  rw [decide_eq_true (by omega),Z36,s_r03Has g a k (by omega),Option.bind_some,Ztc,List.map_append]
  cases hh:hasB g a k with
  | false=>
    rw [Bool.not_false,Z36,Zac,Zb6 (by omega)]
    simp
  | true=>
    have hne:=Zsc hg hr ((hasB_iff hg).1 hh)
    rw [Bool.not_true,Z46,Zgb (c:=c) (Int.natCast_nonneg a) (by omega),Option.bind_some,Zgb (c:=c) (Int.natCast_nonneg k) (by omega),Option.bind_some]
    by_cases h1:cg c a<cg c k
    ·rw [decide_eq_true h1,Z36,Zbc,Z86 _ _ (by omega) (by simp only [List.length_map,List.length_singleton];omega),Option.bind_some,Zac,Zb6 (by omega)]
     have:¬cg c k<cg c a:=by omega
     simp [Znc,this]
    ·rw [decide_eq_false h1,Z46,Zbc,Z86 _ _ (by omega) (by simp only [List.length_map,List.length_singleton];omega),Option.bind_some,Zac,Zb6 (by omega)]
     have:cg c k<cg c a:=by omega
     simp [Znc,this]
 ·dsimp only [Zcc]
  rw [decide_eq_false (by omega),Z46,←near_filter hg,Z9c,Z86 _ _ (by omega) (by simp;omega),Option.bind_some,Zb6 (by omega)]
  rfl
theorem s_r12Table (g:Graph) (hg:okG g=true) (c:List Int) (hr:Zhb g c=true):Zec g c=some (Zpc g c):=by
 obtain ⟨g1,g2,_,_,_⟩:=Zs7 hg
 unfold Zec
 refine Zh9 g.N.toNat (Zdc g c) (fun k=>((k:Int),(List.range k).map (Zoc g c))) _ (fun k hk=>?_) ?_
 ·dsimp only [Zdc]
  rw [decide_eq_true (by omega),Z36,s_r12Table2 g hg c hr k (by omega) _ (by simp;omega),Zqc]
 ·dsimp only [Zdc]
  rw [decide_eq_false (by omega),Z46]
  rfl
theorem tableT_few {g:Graph} (hg:okG g=true) (c:List Int):Zm9 (Zpc g c):=by
 obtain ⟨g1,g2,g3,_,_⟩:=Zs7 hg
 refine ⟨by simp [Zpc];omega,fun d hd=>?_⟩
 obtain ⟨a,_,rfl⟩:=List.mem_map.1 hd
 have:=Zkc g a
 simp only [Zoc,List.length_map];omega
theorem risB_of:∀ {l:List Edge},l.Pairwise (fun x y=>x.lt y=true)→risB l=true
 | [],_=>rfl
 | [x],_=>rfl
 | x::y::l,h=>by
   rw [List.pairwise_cons] at h
   simp only [risB,Bool.and_eq_true]
   exact ⟨h.1 y (by simp),risB_of h.2⟩
theorem Zuc {g:Graph} {c:List Int} {a:Int} (h0:0≤a) (h:a<g.N):(Zpc g c)[a.toNat]?=some (Zoc g c a.toNat):=by
 unfold Zpc
 rw [List.getElem?_map,List.getElem?_range (by omega)];rfl
theorem Zvc {g:Graph} (hg:okG g=true) (c:List Int):((Zpc g c).length:Int)=g.N:=by
 have:=(Zs7 hg).1
 simp [Zpc];omega
theorem tableT_at {g:Graph} {c:List Int} {a:Int} (h0:0≤a) (h:a<g.N):at_ (Zpc g c) a=some (Zoc g c a.toNat):=by
 have:=Z76 (Zuc (c:=c) h0 h)
 rwa [Int.toNat_of_nonneg h0] at this
theorem sideO_T (g:Graph) (c:List Int) (a:Nat) (b:Int):Zn9 (Zoc g c a) b=if b∈Zic g a then some (Znc c a b) else none:=by
 unfold Zn9 Zoc
 dsimp only
 rw [List.find?_map]
 have e:((fun x:Side=>decide (x.Peer=b))∘Znc c a)=fun z=>decide (z=b):=rfl
 rw [e]
 by_cases h:b∈Zic g a
 ·rw [if_pos h]
  have:(Zic g a).find? (fun z=>decide (z=b))=some b:=by
   cases hf:(Zic g a).find? (fun z=>decide (z=b)) with
   | none=>rw [List.find?_eq_none] at hf;exact absurd (by simp) (hf b h)
   | some z=>have:=List.find?_some hf;simp at this;rw [this]
  rw [this];rfl
 ·rw [if_neg h]
  have:(Zic g a).find? (fun z=>decide (z=b))=none:=by
   rw [List.find?_eq_none];intro z hz;simp;rintro rfl;exact h hz
  rw [this];rfl
theorem Zwc {g:Graph} (hg:okG g=true) {a b:Int} (h:b∈Zic g a):a∈Zic g b:=by
 rw [Zlc hg] at *;exact h.symm
theorem tableT_pw {g:Graph} (hg:okG g=true) (c:List Int) (d:Diner) (hd:d∈Zpc g c):d.Sides.Pairwise fun x y=>x.Peer<y.Peer:=by
 obtain ⟨a,_,rfl⟩:=List.mem_map.1 hd
 simp only [Zoc,List.pairwise_map]
 exact Zjc hg a
theorem graphP_T {g:Graph} (hg:okG g=true) (c:List Int):Z5a (Zpc g c)=(g,true):=by
 obtain ⟨g1,g2,g3,g4,g5⟩:=Zs7 hg
 have hlen:=Zvc hg c
 have hall:Z2a (Zpc g c) 0 (Zpc g c)=true:=by
  rw [Zba]
  intro k d hd
  have hk:=(List.getElem?_eq_some_iff.1 hd).1
  have e:=Zuc (g:=g) (c:=c) (a:=(k:Int)) (by omega) (by omega)
  rw [Int.toNat_natCast,hd] at e
  simp at e;subst e
  refine ⟨by simp [Zoc],?_⟩
  rw [Nat.zero_add,Zaa]
  refine ⟨fun x hx=>?_,tableT_pw hg c _ (List.mem_iff_getElem?.2 ⟨_,hd⟩),by simp⟩
  obtain ⟨b,hb,rfl⟩:=List.mem_map.1 hx
  obtain ⟨b1,b2,b3,_,_⟩:=Zmc hg hb
  have hs:Zn9 (Zoc g c b.toNat) k=some (Znc c b.toNat k):=by
   rw [sideO_T,if_pos]
   rw [Int.toNat_of_nonneg b1];exact Zwc hg hb
  have hs':(Zn9 (Zoc g c b.toNat) (k:Int)).isSome=true:=by rw [hs];rfl
  show (decide (0≤b)&&(decide (b<((Zpc g c).length:Int))&&(!decide (b=(k:Int))&&(match (Zpc g c)[b.toNat]? with | some e=>(Zn9 e k).isSome | none=>false))))=true
  rw [decide_eq_true b1,decide_eq_true (by omega),decide_eq_false b3,Zuc (c:=c) b1 b2]
  simpa using hs'
 have hedges:Z3a 0 (Zpc g c)=g.Edges:=by
  refine pw_ext (R:=fun x y=>x.lt y=true) Edge.lt_irr (fun x y h1 h2=>Edge.lt_irr x (Edge.lt_trans h1 h2)) (edgesL_pw (tableT_pw hg c)) (okG_pw hg) fun e=>?_
  rw [Zda]
  constructor
  ·rintro ⟨k,d,hd,he⟩
   have hk:=(List.getElem?_eq_some_iff.1 hd).1
   have e':=Zuc (g:=g) (c:=c) (a:=(k:Int)) (by omega) (by omega)
   rw [Int.toNat_natCast,hd] at e'
   simp at e';subst e'
   obtain ⟨h1,h2,x,hx,h3⟩:=Zca.1 he
   obtain ⟨b,hb,rfl⟩:=List.mem_map.1 hx
   simp only [Znc] at h3
   subst h3
   rw [Nat.zero_add] at h1 h2
   rcases (Zlc hg).1 hb with hb | hb
   ·obtain ⟨e1,e2⟩:=e;dsimp only at h1 hb;rw [h1];exact hb
   ·have:=g4 _ hb;dsimp only at this;omega
  ·intro he
   have h:=g4 e he
   refine ⟨e.A.toNat,Zoc g c e.A.toNat,Zuc h.1 (by omega),Zca.2 ⟨by omega,by omega,Znc c e.A.toNat e.B,?_,rfl⟩⟩
   simp only [Zoc]
   refine List.mem_map_of_mem ?_
   rw [Zlc hg,Int.toNat_of_nonneg h.1]
   exact .inl he
 have hG:(⟨(Zpc g c).length,Z3a 0 (Zpc g c)⟩:Graph)=g:=by
  rw [hedges,hlen]
 unfold Z5a
 rw [hG,hall,hg];rfl
set_option maxRecDepth 100000
set_option maxHeartbeats 4000000
def e123:EC:=.seq (.reg [(Qa 3 (.box 49 8 (.t 0))),(Qa 4 (.mv (.c .ff)))]) (.seq (.reg [(Qa 6 (.fld 0 (.t 3))),(Qa 7 (.load (.t 6))),(Qa 8 (.load (.t 1))),(Qa 9 (.bin .gtr (.t 7) (.t 8))),(Qa 10 (.mv (.t 9))),(Qg 11 10 true (.fld 0 (.t 3))),(Qg 12 10 true (.load (.t 11))),(Qg 13 10 true (.fld 0 (.t 2))),(Qg 14 10 true (.load (.t 13))),(Qg 15 10 true (.bin .neq (.t 12) (.t 14))),(Qa 16 (.pick (.t 10) (.t 15) (.c .ff))),(Qa 5 (.mv (.t 16)))]) (.seq (.reg [(Qa 17 (.fld 0 (.t 3))),(Qa 18 (.load (.t 17))),(Qb (.store 1 (.t 1) (.t 18)))]) (.seq (.reg [(Qa 19 (.mv (.t 5))),(Qa 20 (.not (.t 19))),(Qa 21 (.mv (.t 20))),(Qg 22 21 false (.fld 1 (.t 3))),(Qg 23 21 false (.load (.t 22))),(Qg 24 21 false (.bin .lss (.t 23) (.c (.iv 0)))),(Qa 25 (.pick (.t 21) (.c .tt) (.t 24))),(Qa 26 (.mv (.t 25))),(Qg 27 26 false (.fld 1 (.t 3))),(Qg 28 26 false (.load (.t 27))),(Qg 29 26 false (.bin .gtr (.t 28) (.c (.iv 65535)))),(Qa 30 (.pick (.t 26) (.c .tt) (.t 29))),(Qa 31 (.mv (.t 30))),(Qg 32 31 false (.fld 2 (.t 3))),(Qg 33 31 false (.load (.t 32))),(Qg 34 31 false (.bin .lss (.t 33) (.c (.iv 0)))),(Qa 35 (.pick (.t 31) (.c .tt) (.t 34))),(Qa 36 (.mv (.t 35))),(Qg 37 36 false (.fld 2 (.t 3))),(Qg 38 36 false (.load (.t 37))),(Qg 39 36 false (.bin .gtr (.t 38) (.c (.iv 3)))),(Qa 40 (.pick (.t 36) (.c .tt) (.t 39))),(Qa 41 (.mv (.t 40))),(Qg 42 41 false (.fld 4 (.t 3))),(Qg 43 41 false (.load (.t 42))),(Qg 44 41 false (.mv (.t 43))),(Qg 45 44 true (.fld 3 (.t 3))),(Qg 46 44 true (.load (.t 45))),(Qg 47 44 true (.not (.t 46))),(Qg 48 41 false (.pick (.t 44) (.t 47) (.c .ff))),(Qa 49 (.pick (.t 41) (.c .tt) (.t 48))),(Qa 4 (.mv (.t 49)))]) (.ret))))
theorem ok123:FnOK Try.prog 123 Try.f123 e123 [.t 4] 3 47:=⟨by kernel_rfl,⟨_,rfl,by kernel_rfl⟩,by kernel_rfl,by kernel_rfl⟩
noncomputable def Zxc (_x1:Side) (_x2:Int) (_x3:Diner):Option Bool:=
 none
theorem k_dine_Check_1 (x1:Side) (x2:Int) (x3:Diner) (r:Bool) (h:Zxc x1 x2 x3=some r):Zq2 Try.prog 123 [.agg (Side.row x1),.elt (Z45 x2) 0,.elt (Diner.row x3) 0] (.bv r):=by
 simp [Zxc] at h
set_option maxRecDepth 100000
set_option maxHeartbeats 4000000
def e124:EC:=.seq (.reg [(Qa 4 (.mv (.c .ff)))]) (.seq (.reg [(Qa 5 (.mv (.t 0))),(Qa 6 (.mv (.t 1))),(Qa 7 (.call 55 [(.t 5),(.t 6)])),(Qa 8 (.bin .geq (.t 7) (.c (.iv 0)))),(Qa 4 (.mv (.t 8)))]) (.ret))
theorem ok124:FnOK Try.prog 124 Try.f124 e124 [.t 4] 2 7:=⟨by kernel_rfl,⟨_,rfl,by kernel_rfl⟩,by kernel_rfl,by kernel_rfl⟩
noncomputable def Zyc (x1:(List Side)) (p1:(Side→Option Bool)):Option Bool:=
 (Zt6 x1 p1).bind fun x2=>
 some (decide (0≤x2))
theorem Zzc (x1:(List Side)) (g1:Nat) (caps1:List AV) (p1:(Side→Option Bool)) (hc1:CloOK Try.prog g1 caps1 (fun z=>[.agg (Side.row z)]) p1 (fun z=>.bv z)) (r:Bool) (h:Zyc x1 p1=some r):Zq2 Try.prog 124 [.sl 8 (List.map Side.row x1),.clo g1 caps1] (.bv r):=by
 refine Zu2 ok124 rfl rfl fun w0 H0=>?_
 rw [Zyc] at h
 refine Zl2 8 ?_;dsimp only [e124,go_sem];refine ⟨by simp,?_⟩;obtain ⟨x2,ex2,h⟩:=Option.bind_eq_some_iff.1 h;refine Zz2 trivial (Zu6 x1 _ _ p1 hc1 _ ex2) (hp:=(by first | rfl | simp [go_sem,hc1.pu])) (h:=?_);refine Zl2 3 ?_;dsimp only [e124,go_sem];refine ⟨by simp,?_⟩;exact Zx4 (res:=fun (r:Bool)=>.bv r) ok124 h
end NX
end Go.Proofs.Ytadebhbiglmodaa
