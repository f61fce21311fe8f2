/-
  The function narthex/narthexref12.Side: its code compiled, a model, and that the code answers as the model. Written by a program of ours (lb.py). No statement of the seat is proved here.
-/
import Derived.KernelRfl
import Derived.Shelf.Sort.Plain
import Derived.Shelf.Slices.In.SortNone
import Derived.Sort.OwnSortedInts
import Derived.Test.YtadebhbiglmodaaGreatS1
namespace Go.Proofs.YtadebhbiglmodaaGreat
namespace NX
open Go
set_option maxRecDepth 100000
set_option maxHeartbeats 4000000
def Zk8:EC:=.seq (.seq (.reg [(Qa 7 (.mv (.t 6))),(Qa 8 (.fld 2 (.t 2))),(Qa 9 (.load (.t 8))),(Qa 10 (.len (.t 9))),(Qa 11 (.bin .lss (.t 7) (.t 10)))]) (.ite (.t 11) (.skip) (.exit 0))) (.seq (.blk 1 (.seq (.reg [(Qa 14 (.fld 2 (.t 2))),(Qa 15 (.load (.t 14))),(Qa 16 (.mv (.t 6))),(Qa 17 (.idx 8 (.t 15) (.t 16))),(Qa 18 (.fld 0 (.t 17))),(Qa 19 (.load (.t 18))),(Qa 20 (.mv (.t 1))),(Qa 21 (.bin .eql (.t 19) (.t 20)))]) (.ite (.t 21) (.seq (.reg [(Qa 22 (.fld 2 (.t 2))),(Qa 23 (.load (.t 22))),(Qa 24 (.mv (.t 6))),(Qa 25 (.idx 8 (.t 23) (.t 24))),(Qa 26 (.loadA 8 (.t 25))),(Qb (.store 8 (.t 4) (.t 26))),(Qa 5 (.mv (.c .tt)))]) (.ret)) (.skip)))) (.reg [(Qa 12 (.mv (.t 6))),(Qa 13 (.bin .add (.t 12) (.c (.iv 1)))),(Qa 6 (.mv (.t 13)))]))
def e52:EC:=.seq (.reg [(Qa 2 (.box 70 3 (.t 0))),(Qa 4 (.alloc 65 [.iv 0,.iv 0,.iv 0,.ff,.ff,.ff,.ff,.ff])),(Qa 5 (.mv (.c .ff)))]) (.seq (.seq (.reg [(Qa 6 (.mv (.c (.iv 0))))]) (.blk 0 (.loop Zk8))) (.seq (.reg [(Qa 27 (.build [.iv 0,.iv 0,.iv 0,.ff,.ff,.ff,.ff,.ff] [])),(Qb (.store 8 (.t 4) (.t 27))),(Qa 5 (.mv (.c .ff)))]) (.ret)))
theorem ok52:FnOK Tryz.prog 52 Tryz.f52 e52 [.c 4 (some 8),.t 5] 2 26:=⟨by kernel_rfl,⟨_,rfl,by kernel_rfl⟩,by kernel_rfl,by kernel_rfl⟩
noncomputable def Zl8:Unit→Option (Side×Bool)
| ()=>
 some ((Side.mk 0 0 0 false false false false false),false)
noncomputable def Zm8 (x1:Diner) (x2:Int):Int→Option (Int ⊕ (Side×Bool))
| x6=>
 ifb (decide (x6<(ln Side.row x1.Sides))) (
 (at_ x1.Sides x6).bind fun x7=>
 ifb (decide (x7.Peer=x2)) (
 (at_ x1.Sides x6).bind fun x8=>
 Option.map Sum.inr (some (x8,true))) (
 some (.inl (wr (x6+1))))) (
 Option.map Sum.inr (Zl8 ()))
noncomputable def Zn8 (x1:Diner) (x2:Int):Option (Side×Bool):=
 loop (Zm8 x1 x2) 0
theorem k_narthexref12_Side (x1:Diner) (x2:Int) (r:(Side×Bool)) (h:Zn8 x1 x2=some r):Zq2 Tryz.prog 52 [.agg (Diner.row x1),.iv x2] (.tup [.agg (Side.row r.1),.bv r.2]):=by
 refine Zu2 ok52 rfl rfl fun w0 H0=>?_
 rw [Zn8] at h
 refine Zl2 11 ?_;dsimp only [e52,Zk8,go_sem];refine ⟨by simp,?_⟩;refine Zl4 (fun (_:Unit)=>(⟨(an 4 (.ptr 1 0::an 23 [])),[none,some ⟨65,[.iv 0,.iv 0,.iv 0,.ff,.ff,.ff,.ff,.ff]⟩],[]⟩:St)) Zl8 r ?_ fun J1=>?_
 ·rintro ⟨⟩ h;rw [Zl8] at h;(try dsimp only);refine Zl2 6 ?_;dsimp only [e52,Zk8,go_sem];refine ⟨by simp,?_⟩;exact Zx4 (res:=fun (r:(Side×Bool))=>.tup [.agg (Side.row r.1),.bv r.2]) ok52 h
 ·refine Zl2 1 ?_;dsimp only [e52,Zk8,go_sem];refine ⟨by simp,?_⟩;refine Zm4 h (fun (x6:Int)=>(⟨(.any :: .iv x2 :: .ptr 0 0 :: .any :: .ptr 1 0 :: .any :: .iv x6::an 21 []),[some ⟨70,[.iv x1.ID,.iv x1.Phase,.sl 8 (List.map Side.row x1.Sides)]⟩,some ⟨65,[.iv 0,.iv 0,.iv 0,.ff,.ff,.ff,.ff,.ff]⟩],[]⟩:St)) (by simp [go_sem]) (by intro x6;first | rfl | simp [go_sem]) ?_;rintro n1 x6 y1 h hin1 hout1;rw [Zm8] at h;(try dsimp only);refine Zl2 9 ?_;dsimp only [e52,Zk8,go_sem];refine ⟨by simp,?_⟩
  refine Zn4 h rfl (fun _ h=>?_) fun _ h=>?_
  ·refine Zl2 8 ?_;dsimp only [e52,Zk8,go_sem];refine ⟨by simp,?_⟩;obtain ⟨x7,ex7,h⟩:=Option.bind_eq_some_iff.1 h;refine Zq4 Side.row ex7 trivial rfl rfl rfl ?_;refine Zl2 5 ?_;dsimp only [e52,Zk8,go_sem];refine ⟨by simp,?_⟩;refine Zn4 h rfl (fun _ h=>?_) fun _ h=>?_
   ·refine Zl2 5 ?_;dsimp only [e52,Zk8,go_sem];refine ⟨by simp,?_⟩;obtain ⟨x8,ex8,h⟩:=Option.bind_eq_some_iff.1 h;refine Zq4 Side.row ex8 trivial rfl rfl rfl ?_;refine Zl2 4 ?_;dsimp only [e52,Zk8,go_sem];refine ⟨by simp,?_⟩;exact Zx4 (res:=fun (r:(Side×Bool))=>.tup [.agg (Side.row r.1),.bv r.2]) ok52 (Zk4 h hout1)
   ·refine Zl2 7 ?_;dsimp only [e52,Zk8,go_sem];refine ⟨by simp,?_⟩;exact Zy4 h hin1
  ·refine Zl2 1 ?_;dsimp only [e52,Zk8,go_sem];refine ⟨by simp,?_⟩;exact Zz4 J1 (s:=()) (Zk4 h hout1)
set_option maxRecDepth 100000
set_option maxHeartbeats 4000000
def Zo8:EC:=.seq (.seq (.reg [(Qa 4 (.mv (.t 3))),(Qa 5 (.fld 0 (.t 1))),(Qa 6 (.load (.t 5))),(Qa 7 (.len (.t 6))),(Qa 8 (.bin .lss (.t 4) (.t 7))),(Qa 9 (.mv (.t 8))),(Qg 10 9 true (.mv (.t 3))),(Qg 11 9 true (.bin .lss (.t 10) (.c (.iv 25)))),(Qa 12 (.pick (.t 9) (.t 11) (.c .ff)))]) (.ite (.t 12) (.skip) (.exit 0))) (.seq (.blk 1 (.seq (.reg [(Qa 15 (.fld 0 (.t 1))),(Qa 16 (.load (.t 15))),(Qa 17 (.mv (.t 3))),(Qa 18 (.idx 3 (.t 16) (.t 17))),(Qa 19 (.fld 2 (.t 18))),(Qa 20 (.load (.t 19))),(Qa 21 (.len (.t 20))),(Qa 22 (.bin .gtr (.t 21) (.c (.iv 24))))]) (.ite (.t 22) (.seq (.reg [(Qa 2 (.mv (.c .ff)))]) (.ret)) (.skip)))) (.reg [(Qa 13 (.mv (.t 3))),(Qa 14 (.bin .add (.t 13) (.c (.iv 1)))),(Qa 3 (.mv (.t 14)))]))
def e7:EC:=.seq (.reg [(Qa 1 (.box 25 2 (.t 0))),(Qa 2 (.mv (.c .ff)))]) (.seq (.seq (.reg [(Qa 3 (.mv (.c (.iv 0))))]) (.blk 0 (.loop Zo8))) (.seq (.reg [(Qa 23 (.fld 0 (.t 1))),(Qa 24 (.load (.t 23))),(Qa 25 (.len (.t 24))),(Qa 26 (.bin .leq (.t 25) (.c (.iv 24)))),(Qa 27 (.mv (.t 26))),(Qg 28 27 true (.fld 1 (.t 1))),(Qg 29 27 true (.load (.t 28))),(Qg 30 27 true (.len (.t 29))),(Qg 31 27 true (.bin .leq (.t 30) (.c (.iv 40)))),(Qa 32 (.pick (.t 27) (.t 31) (.c .ff))),(Qa 2 (.mv (.t 32)))]) (.ret)))
theorem ok7:FnOK Tryz.prog 7 Tryz.f7 e7 [.t 2] 1 32:=⟨by kernel_rfl,⟨_,rfl,by kernel_rfl⟩,by kernel_rfl,by kernel_rfl⟩
noncomputable def Zp8:Bool→Option Bool
| x11=>
 some x11
noncomputable def Zq8 (x1:Scene):Unit→Option Bool
| ()=>
 ifb (decide ((ln Diner.row x1.Diners)≤24)) (
 Zp8 (decide ((ln Mail.row x1.Mail)≤40))) (
 Zp8 false)
noncomputable def Zr8 (x1:Scene) (x5:Int):Bool→Option (Int ⊕ Bool)
| x6=>
 ifb x6 (
 (at_ x1.Diners x5).bind fun x7=>
 ifb (decide (24<(ln Side.row x7.Sides))) (
 Option.map Sum.inr (some false)) (
 some (.inl (wr (x5+1))))) (
 Option.map Sum.inr ((Zq8 x1) ()))
noncomputable def Zs8 (x1:Scene):Int→Option (Int ⊕ Bool)
| x5=>
 ifb (decide (x5<(ln Diner.row x1.Diners))) (
 (Zr8 x1 x5) (decide (x5<25))) (
 (Zr8 x1 x5) false)
noncomputable def Zt8 (x1:Scene):Option Bool:=
 loop (Zs8 x1) 0
theorem k_narthexref12_Few (x1:Scene) (r:Bool) (h:Zt8 x1=some r):Zq2 Tryz.prog 7 [.agg (Scene.row x1)] (.bv r):=by
 refine Zu2 ok7 rfl rfl fun w0 H0=>?_
 rw [Zt8] at h
 refine Zl2 10 ?_;dsimp only [e7,Zo8,go_sem];refine ⟨by simp,?_⟩;refine Zl4 (fun (_:Unit)=>(⟨(.any :: .ptr 0 0::an 31 []),[some ⟨25,[.sl 3 (List.map Diner.row x1.Diners),.sl 5 (List.map Mail.row x1.Mail)]⟩],[]⟩:St)) (Zq8 x1) r ?_ fun J1=>?_
 ·rintro ⟨⟩ h;rw [Zq8] at h;(try dsimp only);refine Zl2 7 ?_;dsimp only [e7,Zo8,go_sem];refine ⟨by simp,?_⟩;refine Zl4 (fun (x11:Bool)=>(⟨(.any :: .any :: .bv x11::an 30 []),[],[]⟩:St)) Zp8 r ?_ fun J3=>?_
  ·intro x11 h;rw [Zp8] at h;(try dsimp only);exact Zx4 (res:=fun (r:Bool)=>.bv r) ok7 h
  ·refine Zw4 27 h rfl (fun _ h=>?_) fun _ h=>?_
   ·dsimp only [go_sem];refine Zl2 7 ?_;dsimp only [e7,Zo8,go_sem];refine ⟨by simp,?_⟩;exact Zz4 J3 (s:=decide ((ln Mail.row x1.Mail)≤40)) h
   ·dsimp only [go_sem];refine Zl2 7 ?_;dsimp only [e7,Zo8,go_sem];refine ⟨by simp,?_⟩;exact Zz4 J3 (s:=false) h
 ·refine Zl2 1 ?_;dsimp only [e7,Zo8,go_sem];refine ⟨by simp,?_⟩;refine Zm4 h (fun (x5:Int)=>(⟨(.any :: .ptr 0 0 :: .any :: .iv x5::an 29 []),[some ⟨25,[.sl 3 (List.map Diner.row x1.Diners),.sl 5 (List.map Mail.row x1.Mail)]⟩],[]⟩:St)) (by simp [go_sem]) (by intro x5;first | rfl | simp [go_sem]) ?_;rintro n1 x5 y1 h hin1 hout1;rw [Zs8] at h;(try dsimp only);refine Zl2 9 ?_;dsimp only [e7,Zo8,go_sem];refine ⟨by simp,?_⟩
  refine Zl4 (fun (x6:Bool)=>(⟨(.any :: .ptr 0 0 :: .any :: .iv x5::an 8 (.bv x6::an 20 [])),[some ⟨25,[.sl 3 (List.map Diner.row x1.Diners),.sl 5 (List.map Mail.row x1.Mail)]⟩],[]⟩:St)) (Zr8 x1 x5) y1 ?_ fun J2=>?_
  ·intro x6 h;rw [Zr8] at h;(try dsimp only);refine Zn4 h rfl (fun _ h=>?_) fun _ h=>?_
   ·refine Zl2 8 ?_;dsimp only [e7,Zo8,go_sem];refine ⟨by simp,?_⟩;obtain ⟨x7,ex7,h⟩:=Option.bind_eq_some_iff.1 h;refine Zq4 Diner.row ex7 trivial rfl rfl rfl ?_;refine Zl2 5 ?_;dsimp only [e7,Zo8,go_sem];refine ⟨by simp,?_⟩;refine Zn4 h rfl (fun _ h=>?_) fun _ h=>?_
    ·refine Zl2 4 ?_;dsimp only [e7,Zo8,go_sem];refine ⟨by simp,?_⟩;exact Zx4 (res:=fun (r:Bool)=>.bv r) ok7 (Zk4 h hout1)
    ·refine Zl2 7 ?_;dsimp only [e7,Zo8,go_sem];refine ⟨by simp,?_⟩;exact Zy4 h hin1
   ·refine Zl2 1 ?_;dsimp only [e7,Zo8,go_sem];refine ⟨by simp,?_⟩;exact Zz4 J1 (s:=()) (Zk4 h hout1)
  ·refine Zw4 9 h rfl (fun _ h=>?_) fun _ h=>?_
   ·dsimp only [go_sem];refine Zl2 4 ?_;dsimp only [e7,Zo8,go_sem];refine ⟨by simp,?_⟩;exact Zz4 J2 (s:=decide (x5<25)) h
   ·dsimp only [go_sem];refine Zl2 4 ?_;dsimp only [e7,Zo8,go_sem];refine ⟨by simp,?_⟩;exact Zz4 J2 (s:=false) h
set_option maxRecDepth 100000
set_option maxHeartbeats 4000000
def Zu8:EC:=.seq (.seq (.reg [(Qa 7 (.mv (.t 4))),(Qa 8 (.mv (.t 0))),(Qa 9 (.len (.t 8))),(Qa 10 (.bin .lss (.t 7) (.t 9)))]) (.ite (.t 10) (.skip) (.exit 0))) (.seq (.blk 1 (.seq (.reg [(Qa 13 (.mv (.t 0))),(Qa 14 (.mv (.t 4))),(Qa 15 (.idx 3 (.t 13) (.t 14))),(Qa 16 (.loadA 3 (.t 15))),(Qa 5 (.alloc 70 [.iv 0,.iv 0,.nl])),(Qb (.store 3 (.t 5) (.t 16)))]) (.seq (.reg [(Qa 17 (.bsl 65 8 0 [.iv 0,.iv 0,.iv 0,.ff,.ff,.ff,.ff,.ff] [])),(Qa 18 (.fld 2 (.t 5))),(Qa 19 (.load (.t 18))),(Qa 20 (.app 65 8 32 (.t 17) (.t 19))),(Qa 21 (.fld 2 (.t 5))),(Qb (.store 1 (.t 21) (.t 20)))]) (.reg [(Qa 22 (.mv (.t 3))),(Qa 23 (.loadA 3 (.t 5))),(Qa 24 (.bsl 70 3 1 [.iv 0,.iv 0,.nl] [(0,(.t 23))])),(Qa 25 (.app 70 3 40 (.t 22) (.t 24))),(Qa 3 (.mv (.t 25)))])))) (.reg [(Qa 11 (.mv (.t 4))),(Qa 12 (.bin .add (.t 11) (.c (.iv 1)))),(Qa 4 (.mv (.t 12)))]))
def e35:EC:=.seq (.reg [(Qa 2 (.mv (.c .nl)))]) (.seq (.reg [(Qa 6 (.bsl 70 3 0 [.iv 0,.iv 0,.nl] [])),(Qa 3 (.mv (.t 6)))]) (.seq (.seq (.reg [(Qa 4 (.mv (.c (.iv 0))))]) (.blk 0 (.loop Zu8))) (.seq (.reg [(Qa 26 (.mv (.t 3))),(Qa 2 (.mv (.t 26)))]) (.ret))))
theorem ok35:FnOK Tryz.prog 35 Tryz.f35 e35 [.t 2] 1 26:=⟨by kernel_rfl,⟨_,rfl,by kernel_rfl⟩,by kernel_rfl,by kernel_rfl⟩
noncomputable def Zv8:(List Diner)→Option (List Diner)
| x17=>
 some x17
noncomputable def Zw8 (x1:(List Diner)):(Int×(List Diner))→Option ((Int×(List Diner)) ⊕ (List Diner))
| (x7,x8)=>
 ifb (decide (x7<(ln Diner.row x1))) (
 (at_ x1 x7).bind fun x9=>
 (Za4 32 (([]:List Side)) x9.Sides).bind fun x10=>
 (Za4 40 x8 ([(Diner.mk x9.ID x9.Phase x10)])).bind fun x11=>
 some (.inl (wr (x7+1),x11))) (
 Option.map Sum.inr (Zv8 x8))
noncomputable def Zx8 (x1:(List Diner)):Option (List Diner):=
 loop (Zw8 x1) (0,([]:List Diner))
theorem Zy8 (x1:(List Diner)) (r:(List Diner)) (h:Zx8 x1=some r):FunO Tryz.prog 35 [.sl 3 (List.map Diner.row x1)] 70 3 (List.map Diner.row r):=by
 refine Zc5 ok35 rfl fun w0 H0=>?_
 rw [Zx8] at h
 refine Zl2 14 ?_;dsimp only [e35,Zu8,go_sem];refine ⟨by simp,?_⟩;refine Zl4 (fun (x17:(List Diner))=>(⟨(an 3 (.osl 0::an 23 [])),[],[some ⟨70,3,List.map Diner.row x17⟩]⟩:St)) Zv8 r ?_ fun J1=>?_
 ·intro x17 h;rw [Zv8] at h;(try dsimp only);refine Zl2 5 ?_;dsimp only [e35,Zu8,go_sem];refine ⟨by simp,?_⟩;exact Zj5 Diner.row ok35 h rfl rfl
 ·refine Zl2 1 ?_;dsimp only [e35,Zu8,go_sem];refine ⟨by simp,?_⟩;refine Zm4 h (fun ((x7,x8):(Int×(List Diner)))=>(⟨(.sl 3 (List.map Diner.row x1) :: .any :: .any :: .osl 0 :: .iv x7::an 22 []),[],[some ⟨70,3,List.map Diner.row x8⟩]⟩:St)) (by simp [go_sem]) (by rintro ⟨x7,x8⟩;first | rfl | simp [go_sem]) ?_;rintro n1 ⟨x7,x8⟩ y1 h hin1 hout1;rw [Zw8] at h;(try dsimp only);refine Zl2 8 ?_;dsimp only [e35,Zu8,go_sem];refine ⟨by simp,?_⟩;refine Zn4 h rfl (fun _ h=>?_) fun _ h=>?_
  ·refine Zl2 7 ?_;dsimp only [e35,Zu8,go_sem];refine ⟨by simp,?_⟩;obtain ⟨x9,ex9,h⟩:=Option.bind_eq_some_iff.1 h;refine Zq4 Diner.row ex9 trivial rfl rfl rfl ?_;refine Zl2 9 ?_;dsimp only [e35,Zu8,go_sem];refine ⟨by simp,?_⟩;obtain ⟨x10,ex10,h⟩:=Option.bind_eq_some_iff.1 h;refine Zt4 Side.row ex10 trivial rfl rfl rfl ?_;refine Zl2 6 ?_;dsimp only [e35,Zu8,go_sem];refine ⟨by simp,?_⟩;refine Z83 2 rfl ?_;dsimp only [go_sem];refine Zl2 1 ?_;dsimp only [e35,Zu8,go_sem];refine ⟨by simp,?_⟩
   obtain ⟨x11,ex11,h⟩:=Option.bind_eq_some_iff.1 h;refine Zt4 Diner.row ex11 trivial rfl rfl rfl ?_;refine Zl2 8 ?_;dsimp only [e35,Zu8,go_sem];refine ⟨by simp,?_⟩;refine Z44 4 0 rfl rfl rfl ?_;dsimp only [go_sem];exact Zy4 h hin1
  ·refine Zl2 1 ?_;dsimp only [e35,Zu8,go_sem];refine ⟨by simp,?_⟩;exact Zz4 J1 (s:=x8) (Zk4 h hout1)
theorem Zz8 (x1:(List Diner)) (r:(List Diner)) (h:Zx8 x1=some r):Zq2 Tryz.prog 35 [.sl 3 (List.map Diner.row x1)] (.sl 3 (List.map Diner.row r)):=(Zy8 x1 r h).sealed
set_option maxRecDepth 100000
set_option maxHeartbeats 4000000
def e21:EC:=.seq (.reg [(Qa 1 (.box 48 2 (.t 0))),(Qa 2 (.alloc 48 [.iv 0,.nl]))]) (.seq (.drw [(Qa 3 (.fld 0 (.t 1))),(Qa 4 (.load (.t 3))),(Qa 5 (.bsl 29 2 0 [.iv 0,.iv 0] [])),(Qa 6 (.fld 1 (.t 1))),(Qa 7 (.load (.t 6))),(Qa 8 (.app 29 2 16 (.t 5) (.t 7))),(Qa 9 (.build [.iv 0,.nl] [(0,1,(.t 4)),(1,1,(.t 8))])),(Qb (.store 2 (.t 2) (.t 9)))] [[],[0],[],[],[3],[2,4],[1,5],[6,5,0,1,2,3,4,5,6]] [[1],[0,6],[5],[4],[3,5],[2,4,6],[1,5,7],[6]]) (.ret))
theorem ok21:FnOK Tryz.prog 21 Tryz.f21 e21 [.c 2 (some 2)] 1 9:=⟨by kernel_rfl,⟨_,rfl,by kernel_rfl⟩,by kernel_rfl,by kernel_rfl⟩
noncomputable def Z09 (x1:Graph):Option Graph:=
 (Za4 16 (([]:List Edge)) x1.Edges).bind fun x2=>
 some (Graph.mk x1.N x2)
theorem Z19 (x1:Graph) (r:Graph) (h:Z09 x1=some r):Zq2 Tryz.prog 21 [.agg (Graph.row x1)] (.agg (Graph.row r)):=by
 refine Zu2 ok21 rfl rfl fun w0 H0=>?_
 rw [Z09] at h
 refine Zl2 6 ?_;dsimp only [e21,go_sem];refine ⟨by simp,?_⟩;refine Zh3 (by kernel_rfl) fun all hall hs hnap haf=>?_;dsimp only [go_sem];refine Zh5 hall hs haf hnap 4 4 ?_;dsimp only [go_sem];refine ⟨by simp,?_⟩;refine Zt3 2 rfl ?_;refine Zy3 hall rfl trivial ?_;dsimp only [go_sem];refine Zt3 5 rfl ?_;obtain ⟨x2,ex2,h⟩:=Option.bind_eq_some_iff.1 h;refine Zu4 Edge.row ex2 hall rfl trivial rfl rfl rfl ?_;dsimp only [go_sem];refine Zh5 hall hs haf hnap 1 1 ?_;dsimp only [go_sem];refine ⟨by simp,?_⟩;refine Zt3 7 rfl ?_;refine Zy3 hall rfl trivial ?_
 dsimp only [go_sem];refine Zs3 rfl ?_ _;refine Z83 1 rfl ?_;dsimp only [go_sem];exact Zx4 (res:=fun (r:Graph)=>.agg (Graph.row r)) ok21 h
theorem loop_pp {α τ β:Type} (l:List α) (body:τ→Option (τ ⊕ β)) (st:List α→τ) (R:List α→List α→Option β)
  (hb:∀pre x post,l=pre++x::post→(body (st pre)=some (.inl (st (pre++[x])))∧R pre (x::post)=R (pre++[x]) post)∨∃r,body (st pre)=some (.inr r)∧R pre (x::post)=some r)
  (he:body (st l)=(R l []).map .inr):∀post pre,l=pre++post→loop body (st pre)=R pre post
 | [],pre,h=>by
   have:pre=l:=by simpa using h.symm
   subst this
   rw [Ze4,he]
   cases R pre []<;>rfl
 | x::post,pre,h=>by
   rw [Ze4]
   rcases hb pre x post h with ⟨h1,h2⟩ | ⟨r,h1,h2⟩
   ·rw [h1,h2]
    exact loop_pp l body st R hb he post (pre++[x]) (by simpa using h)
   ·rw [h1,h2]
theorem Z29 {α τ β:Type} (l:List α) (body:τ→Option (τ ⊕ β)) (st:List α→τ) (R:List α→List α→Option β)
 (hb:∀pre x post,l=pre++x::post→(body (st pre)=some (.inl (st (pre++[x])))∧R pre (x::post)=R (pre++[x]) post)∨∃r,body (st pre)=some (.inr r)∧R pre (x::post)=some r)
 (he:body (st l)=(R l []).map .inr):loop body (st [])=R [] l:=loop_pp l body st R hb he l [] rfl
theorem loop_ppI {α τ β:Type} (l:List α) (body:τ→Option (τ ⊕ β)) (st:List α→τ) (R:List α→List α→Option β) (I:List α→Prop)
  (hb:∀pre x post,l=pre++x::post→I pre→(body (st pre)=some (.inl (st (pre++[x])))∧I (pre++[x])∧R pre (x::post)=R (pre++[x]) post)∨∃r,body (st pre)=some (.inr r)∧R pre (x::post)=some r)
  (he:I l→body (st l)=(R l []).map .inr):∀post pre,l=pre++post→I pre→loop body (st pre)=R pre post
 | [],pre,h,hI=>by
   have:pre=l:=by simpa using h.symm
   subst this
   rw [Ze4,he hI]
   cases R pre []<;>rfl
 | x::post,pre,h,hI=>by
   rw [Ze4]
   rcases hb pre x post h hI with ⟨h1,h3,h2⟩ | ⟨r,h1,h2⟩
   ·rw [h1,h2]
    exact loop_ppI l body st R I hb he post (pre++[x]) (by simpa using h) h3
   ·rw [h1,h2]
theorem Z39 {α τ β:Type} (l:List α) (body:τ→Option (τ ⊕ β)) (st:List α→τ) (r:β)
  (hb:∀pre x post,l=pre++x::post→body (st pre)=some (.inl (st (pre++[x])))) (he:body (st l)=some (.inr r)):loop body (st [])=some r:=
 Z29 l body st (fun _ _=>some r) (fun pre x post h=>.inl ⟨hb pre x post h,rfl⟩) he
theorem Z49 {α:Type} {l pre post:List α} {x:α} (h:l=pre++x::post):l[pre.length]?=some x:=by subst h;simp
theorem Z59 {α:Type} {l pre post:List α} {x:α} (h:l=pre++x::post):pre.length<l.length:=by subst h;simp
theorem mid_mem {α:Type} {l pre post:List α} {x:α} (h:l=pre++x::post):x∈l:=by subst h;simp
theorem at_mid {α:Type} {l a b:List α} {x:α} (h:l=a++x::b):at_ l (a.length:Int)=some x:=Zo5 (Z49 h)
theorem Z69 {α:Type} (a b:List α) (x y:α):(a++x::b).set ((a.length:Int)).toNat y=a++y::b:=by simp
theorem Z79 {α:Type} (pre:List α) (x:α):(pre++[x]).length=pre.length+1:=by simp
theorem Z89 {τ β:Type} (n:Nat) (body:τ→Option (τ ⊕ β)) (st:Nat→τ) (r:β) (hb:∀k,k<n→body (st k)=some (.inl (st (k+1)))) (he:body (st n)=some (.inr r)):loop body (st 0)=some r:=by
 have key:∀m k,m+k=n→loop body (st k)=some r:=by
  intro m
  induction m with
  | zero=>intro k hk;have:k=n:=by omega
          subst this;rw [Ze4,he]
  | succ m ih=>intro k hk;rw [Ze4,hb k (by omega)];exact ih (k+1) (by omega)
 exact key n 0 rfl
theorem loop_natI {τ β:Type} (n:Nat) (body:τ→Option (τ ⊕ β)) (st:Nat→τ) (R:Nat→Option β) (hb:∀k,k<n→(body (st k)=some (.inl (st (k+1)))∧R k=R (k+1))∨∃r,body (st k)=some (.inr r)∧R k=some r) (he:body (st n)=(R n).map .inr):loop body (st 0)=R 0:=by
 have key:∀m k,m+k=n→loop body (st k)=R k:=by
  intro m
  induction m with
  | zero=>
    intro k hk
    have:k=n:=by omega
    subst this
    rw [Ze4,he]
    cases R k<;>rfl
  | succ m ih=>
    intro k hk
    rw [Ze4]
    rcases hb k (by omega) with ⟨h1,h2⟩ | ⟨r,h1,h2⟩
    ·rw [h1,h2];exact ih (k+1) (by omega)
    ·rw [h1,h2]
 exact key n 0 rfl
theorem Z99 {α:Type} (l m:List α) (body:Int→Option (Int ⊕ Bool)) (eqv:α→α→Bool) (hlm:l.length=m.length) (hl:l.length≤4000000000000000000)
  (hb:∀(k:Nat) x y,l[k]?=some x→m[k]?=some y→body k=some (if eqv x y then .inl ((k+1:Nat):Int) else .inr false)) (he:body l.length=some (.inr true)):loop body 0=some ((l.zip m).all fun p=>eqv p.1 p.2):=by
 rw [Zz5 (l.zip m) body (fun p=>!eqv p.1 p.2) false true (by simp;omega) (fun k x hx=>by
  obtain ⟨x1,x2⟩:=x
  rw [List.getElem?_zip_eq_some] at hx
  rw [hb k x1 x2 hx.1 hx.2]
  cases eqv x1 x2<;>rfl) (by rw [show (l.zip m).length=l.length by simp [hlm]];exact he)]
 have:∀(q:List (α×α)),(if q.any (fun p=>!eqv p.1 p.2) then some false else some true)=some (q.all fun p=>eqv p.1 p.2):=by
  intro q
  induction q with
  | nil=>rfl
  | cons p q ih=>
    rw [List.any_cons,List.all_cons]
    cases h:eqv p.1 p.2 with
    | true=>exact ih
    | false=>rfl
 have h2:=this (l.zip m)
 rw [←h2]
 cases (l.zip m).any (fun p=>!eqv p.1 p.2)<;>rfl
theorem Za9 {α:Type} [DecidableEq α]:∀(l m:List α),l.length=m.length→(l.zip m).all (fun p=>decide (p.1=p.2))=decide (l=m)
 | [],[],_=>rfl
 | [],_::_,h=>by simp at h
 | _::_,[],h=>by simp at h
 | x::l,y::m,h=>by
   have ih:=Za9 l m (by simpa using h)
   simp only [List.zip_cons_cons,List.all_cons,ih]
   by_cases h1:x=y<;>simp [h1]
theorem Zb9 {α:Type} [DecidableEq α] {l m:List α} (h:l.length≠m.length):decide (l=m)=false:=decide_eq_false (by rintro rfl;exact h rfl)
theorem Side_eqB (x y:Side):(decide (x.Peer=y.Peer)&&(decide (x.Epoch=y.Epoch)&&(decide (x.State=y.State)&&((x.Fork==y.Fork)&&((x.Dirty==y.Dirty)&&((x.Token==y.Token)&&((x.Bottle==y.Bottle)&&((x.Ask==y.Ask)&&true))))))))=decide (x=y):=by
 rw [Bool.eq_iff_iff];cases x;cases y;simp [Side.mk.injEq]
theorem Mail_eqB (x y:Mail):(decide (x.From=y.From)&&(decide (x.To=y.To)&&(decide (x.Msg.Kind=y.Msg.Kind)&&(decide (x.Msg.Epoch=y.Msg.Epoch)&&(decide (x.Msg.Num=y.Msg.Num)&&true)))))=decide (x=y):=by
 rw [Bool.eq_iff_iff]
 obtain ⟨x1,x2,x3,x4,x5⟩:=x
 obtain ⟨y1,y2,y3,y4,y5⟩:=y
 simp [Mail.mk.injEq,Msg.mk.injEq]
theorem Edge_eqB (x y:Edge):(decide (x.A=y.A)&&(decide (x.B=y.B)&&true))=decide (x=y):=by
 rw [Bool.eq_iff_iff];cases x;cases y;simp [Edge.mk.injEq]
theorem Arc_eqB (x y:Arc):(decide (x.From=y.From)&&(decide (x.To=y.To)&&true))=decide (x=y):=by
 rw [Bool.eq_iff_iff];cases x;cases y;simp [Arc.mk.injEq]
theorem Zc9 {α β:Type} (f:α→List AV) (g:β→List AV) (l:List α) (m:List β):decide (ln f l=ln g m)=decide (l.length=m.length):=by
 rw [Z65,Z65,decide_eq_decide];omega
theorem s_EqualSide (l m:List Side) (hl:l.length≤1000000):Zz7 l m=some (decide (l=m)):=by
 simp only [Zz7,Zc9]
 by_cases h:l.length=m.length
 ·simp only [h,decide_true,Bool.not_true,Zl5]
  rw [Z99 l m _ (fun x y=>decide (x=y)) h (by omega) (fun k x y hx hy=>by
   simp only [Zy7,Zq5 hx,Zk5,Zo5 hx,Zo5 hy,Option.bind_some,Side_eqB,Zt5 hx (show l.length≤4000000000000000000 by omega),Zm5]
   cases decide (x=y)<;>rfl) (by simp only [Zy7,Zr5,Zl5,Zx7,Option.map_some]),Za9 l m h]
 ·simp [h,Zb9 h]
theorem s_r12SameOne (a b:Diner) (hl:a.Sides.length≤1000000):Z98 a b=some (decide (a=b)):=by
 obtain ⟨a1,a2,l⟩:=a
 obtain ⟨b1,b2,m⟩:=b
 dsimp only at hl
 simp only [Z98,Z88,Zc9,Diner.mk.injEq]
 by_cases h1:a1=b1
 ·by_cases h2:a2=b2
  ·by_cases h:l.length=m.length
   ·simp only [h1,h2,h,decide_true,Bool.not_true,Zl5,true_and]
    rw [Z99 l m _ (fun x y=>decide (x=y)) h (by omega) (fun k x y hx hy=>by
     simp only [Z78,Zq5 hx,Zk5,Zo5 hx,Zo5 hy,Option.bind_some,Side_eqB,Zt5 hx (show l.length≤4000000000000000000 by omega),Zm5,Option.map_some]
     cases decide (x=y)<;>rfl) (by simp only [Z78,Zr5,Zl5,Z68,Option.map_some]),Za9 l m h]
   ·have:=Zb9 h
    simp [h1,h2,h];rintro rfl;exact h rfl
  ·simp [h1,h2]
 ·simp [h1]
theorem s_placeSame1 (a b:Diner) (hl:a.Sides.length≤1000000):Z28 a b=some (decide (a=b)):=by
 obtain ⟨a1,a2,l⟩:=a
 obtain ⟨b1,b2,m⟩:=b
 dsimp only at hl
 simp only [Z28,Z18,s_EqualSide l m hl,Diner.mk.injEq]
 by_cases h1:a1=b1<;>by_cases h2:a2=b2<;>simp [h1,h2]
def Zd9 (l:List Diner):Prop:=l.length≤5000∧∀d∈l,d.Sides.length≤5000
theorem s_placeSame (l m:List Diner) (hl:Zd9 l):Z48 l m=some (decide (l=m)):=by
 simp only [Z48,Zu7,Zc9]
 by_cases h:l.length=m.length
 ·simp only [h,decide_true,Bool.not_true,Zl5]
  rw [Z99 l m _ (fun x y=>decide (x=y)) h (by have:=hl.1;omega) (fun k x y hx hy=>by
   simp only [Zt7,Zq5 hx,Zk5,Zo5 hx,Zo5 hy,Option.bind_some,s_placeSame1 x y (by have:=hl.2 x (List.mem_iff_getElem?.2 ⟨k,hx⟩);omega),Zt5 hx (show l.length≤4000000000000000000 by have:=hl.1;omega),Zm5,Option.map_some]
   cases decide (x=y)<;>rfl) (by simp only [Zt7,Zr5,Zl5,Zs7,Option.map_some]),Za9 l m h]
  rfl
 ·simp [h,Zb9 h]
theorem s_r12Same (l m:List Diner) (hl:Zd9 l):Ze8 l m=some (decide (l=m)):=by
 simp only [Ze8,Zc9]
 by_cases h:l.length=m.length
 ·simp only [h,decide_true,Bool.not_true,Zl5]
  rw [Z99 l m _ (fun x y=>decide (x=y)) h (by have:=hl.1;omega) (fun k x y hx hy=>by
   simp only [Zd8,Zq5 hx,Zk5,Zo5 hx,Zo5 hy,Option.bind_some,s_r12SameOne x y (by have:=hl.2 x (List.mem_iff_getElem?.2 ⟨k,hx⟩);omega),Zt5 hx (show l.length≤4000000000000000000 by have:=hl.1;omega),Zm5,Option.map_some]
   cases decide (x=y)<;>rfl) (by simp only [Zd8,Zr5,Zl5,Zc8,Option.map_some]),Za9 l m h]
 ·simp [h,Zb9 h]
def side0:Side:=⟨0,0,0,false,false,false,false,false⟩
def Ze9 (d:Diner) (p:Int):Option Side:=d.Sides.find? fun x=>decide (x.Peer=p)
def sideP (o:Option Side):Side×Bool:=match o with | some x=>(x,true) | none=>(side0,false)
theorem Zf9 {α:Type} (q:α→Bool):∀l:List α,match l.findIdx? q with
  | some i=>∃x,l[i]?=some x∧l.find? q=some x
  | none=>l.find? q=none
 | []=>rfl
 | x::l=>by
   have ih:=Zf9 q l
   rw [List.findIdx?_cons,List.find?_cons]
   cases h:q x with
   | true=>exact ⟨x,rfl,by simp⟩
   | false=>
     simp only [Bool.false_eq_true,if_false]
     cases hf:l.findIdx? q with
     | none=>rw [hf] at ih;simpa using ih
     | some i=>rw [hf] at ih;obtain ⟨y,h1,h2⟩:=ih;exact ⟨y,by simpa using h1,by simpa using h2⟩
theorem s_Side (d:Diner) (p:Int) (hl:d.Sides.length≤1000000):Zi8 d p=some (sideP (Ze9 d p)):=by
 simp only [Zi8]
 rw [Zk7 d.Sides (fun z=>Zg8 z p) (fun x=>decide (x.Peer=p)) (by omega) (fun x _=>rfl),Option.bind_some,plc_neg]
 have:=Zf9 (fun x:Side=>decide (x.Peer=p)) d.Sides
 unfold Ze9
 cases h:d.Sides.findIdx? (fun x=>decide (x.Peer=p)) with
 | none=>rw [h] at this;simp only at this;rw [this];rfl
 | some i=>
   rw [h] at this
   obtain ⟨x,h1,h2⟩:=this
   rw [h2]
   simp only [Option.isNone_some,Zl5,plc,Zo5 h1,Option.bind_some,sideP]
theorem s_r12Side (d:Diner) (p:Int) (hl:d.Sides.length≤1000000):Zn8 d p=some (sideP (Ze9 d p)):=by
 unfold Zn8
 have:=loop_forL d.Sides (Zm8 d p) (fun k (_:Unit)=>k) (fun x _=>if decide (x.Peer=p) then some (.inr (x,true)) else some (.inl ())) (fun _=>some (side0,false)) (by omega) (fun k x s hx=>by
  simp only [Zm8,Zq5 hx,Zk5,Zo5 hx,Option.bind_some,Zt5 hx (show d.Sides.length≤4000000000000000000 by omega),Option.map_some]
  cases decide (x.Peer=p)<;>rfl) (fun _=>by simp only [Zm8,Zr5,Zl5,Zl8,Option.map_some];rfl) ()
 rw [this,forL_find (fun x=>if decide (x.Peer=p) then some (.inr (x,true)) else some (.inl ())) (fun x=>decide (x.Peer=p)) (fun x=>(x,true)) (some (side0,false)) d.Sides (fun x _=>rfl)]
 unfold Ze9
 cases d.Sides.find? (fun x=>decide (x.Peer=p))<;>rfl
def fewB (s:Scene):Bool:=decide (s.Diners.length≤24)&&(decide (s.Mail.length≤40)&&s.Diners.all fun d=>decide (d.Sides.length≤24))
theorem s_Few (s:Scene):Zt8 s=some (fewB s):=by
 unfold Zt8
 by_cases h24:s.Diners.length≤24
 ·rw [Zz5 s.Diners (Zs8 s) (fun d=>!decide (d.Sides.length≤24)) false (decide (s.Mail.length≤40)) (by omega) (fun k x hx=>by
   have hk:=(List.getElem?_eq_some_iff.1 hx).1
   have h25:decide ((k:Int)<25)=true:=decide_eq_true (by omega)
   have e:decide (24<ln Side.row x.Sides)=!decide (x.Sides.length≤24):=by
    rw [Z65,←decide_not,decide_eq_decide];omega
   simp only [Zs8,Zq5 hx,Zk5,Zr8,h25,Zo5 hx,Option.bind_some,e,Zt5 hx (show s.Diners.length≤4000000000000000000 by omega),Option.map_some]
   cases decide (x.Sides.length≤24)<;>rfl) (by
   have e1:decide (ln Diner.row s.Diners≤24)=true:=by rw [Z65];exact decide_eq_true (by omega)
   have e2:decide (ln Mail.row s.Mail≤40)=decide (s.Mail.length≤40):=by rw [Z65,decide_eq_decide];omega
   simp only [Zs8,Zr5,Zl5,Zr8,Zq8,Zp8,e1,e2,Zk5,Option.map_some])]
  unfold fewB
  have:s.Diners.any (fun d=>!decide (d.Sides.length≤24))=!s.Diners.all (fun d=>decide (d.Sides.length≤24)):=Zq7 _ _ _ fun _=>rfl
  rw [this]
  cases s.Diners.all (fun d=>decide (d.Sides.length≤24))<;>simp [h24]
 ·
  have hf:fewB s=false:=by simp [fewB,h24]
  rw [hf]
  have key:∀m k:Nat,m+k=25→loop (Zs8 s) (k:Int)=some false:=by
   intro m
   induction m with
   | zero=>
     intro k hk
     have:k=25:=by omega
     subst this
     rw [Ze4]
     have e1:decide (ln Diner.row s.Diners≤24)=false:=by rw [Z65];exact decide_eq_false (by omega)
     simp only [Zs8,Zr8,Zq8,Zp8,e1,Zl5,Option.map_some]
     cases decide (((25:Nat):Int)<ln Diner.row s.Diners)<;>rfl
   | succ m ih=>
     intro k hk
     have hx:s.Diners[k]?=some s.Diners[k]:=List.getElem?_eq_getElem (by omega)
     have h25:decide ((k:Int)<25)=true:=decide_eq_true (by omega)
     rw [Ze4]
     simp only [Zs8,Zq5 hx,Zk5,Zr8,h25,Zo5 hx,Option.bind_some,Zs5 (show k≤4000000000000000000 by omega),Option.map_some]
     cases decide (24<ln Side.row s.Diners[k].Sides) with
     | true=>rfl
     | false=>exact ih (k+1) (by omega)
  exact key 25 0 rfl
theorem fewB_iff {s:Scene} (h:fewB s=true):s.Diners.length≤24∧s.Mail.length≤40∧∀d∈s.Diners,d.Sides.length≤24:=by
 simp only [fewB,Bool.and_eq_true,decide_eq_true_eq,List.all_eq_true] at h
 exact h
theorem Zg9 {s:Scene} (h:fewB s=true):Zd9 s.Diners:=by
 obtain ⟨h1,_,h3⟩:=fewB_iff h
 exact ⟨by omega,fun d hd=>by have:=h3 d hd;omega⟩
theorem s_Own (l:List Diner) (hl:Zd9 l):Zx8 l=some l:=by
 unfold Zx8
 refine Z39 l _ (fun pre=>((pre.length:Int),pre)) l (fun pre x post h=>?_) ?_
 ·have hx:=Z49 h
  have hm:=Z59 h
  have h1:=hl.1
  have h2:=hl.2 x (mid_mem h)
  dsimp only [Zw8]
  rw [Zq5 hx,Zk5,Zo5 hx,Option.bind_some,Zp5 _ _ (by omega) (by simp;omega),Option.bind_some,Zp5 _ _ (by omega) (by simp;omega),Option.bind_some,Zs5 (by omega),Z79]
  rfl
 ·dsimp only [Zw8]
  rw [Zr5,Zl5];rfl
theorem s_Own03 (g:Graph) (hl:g.Edges.length≤1000000):Z09 g=some g:=by
 simp only [Z09]
 rw [Zp5 _ _ (by omega) (by simp;omega)]
 rfl
set_option maxRecDepth 100000
set_option maxHeartbeats 4000000
def Zh9:EC:=.seq (.reg [(Qa 34 (.bin .lss (.t 33) (.t 32)))]) (.seq (.ite (.t 34) (.skip) (.exit 2)) (.seq (.blk 3 (.seq (.reg [(Qa 35 (.mv (.t 33))),(Qa 36 (.idx 8 (.t 31) (.t 33))),(Qa 37 (.loadA 8 (.t 36))),(Qa 8 (.alloc 65 [.iv 0,.iv 0,.iv 0,.ff,.ff,.ff,.ff,.ff])),(Qa 7 (.mv (.t 35))),(Qb (.store 8 (.t 8) (.t 37)))]) (.seq (.seq (.drw [(Qa 38 (.fld 0 (.t 8))),(Qa 39 (.load (.t 38))),(Qa 40 (.bin .lss (.t 39) (.c (.iv 0)))),(Qa 41 (.mv (.t 40))),(Qg 42 41 false (.fld 0 (.t 8))),(Qg 43 41 false (.load (.t 42))),(Qg 44 41 false (.mv (.t 0))),(Qg 45 41 false (.len (.t 44))),(Qg 46 41 false (.bin .geq (.t 43) (.t 45))),(Qa 47 (.pick (.t 41) (.c .tt) (.t 46))),(Qa 48 (.mv (.t 47))),(Qg 49 48 false (.fld 0 (.t 8))),(Qg 50 48 false (.load (.t 49))),(Qg 51 48 false (.mv (.t 5))),(Qg 52 48 false (.bin .eql (.t 50) (.t 51))),(Qa 53 (.pick (.t 48) (.c .tt) (.t 52))),(Qa 54 (.mv (.t 53))),(Qg 55 54 false (.mv (.t 7))),(Qg 56 54 false (.bin .gtr (.t 55) (.c (.iv 0)))),(Qg 57 54 false (.mv (.t 56))),(Qg 58 57 true (.fld 2 (.t 6))),(Qg 59 57 true (.load (.t 58))),(Qg 60 57 true (.mv (.t 7))),(Qg 61 57 true (.bin .sub (.t 60) (.c (.iv 1)))),(Qg 62 57 true (.idx 8 (.t 59) (.t 61))),(Qg 63 57 true (.fld 0 (.t 62))),(Qg 64 57 true (.load (.t 63))),(Qg 65 57 true (.fld 0 (.t 8))),(Qg 66 57 true (.load (.t 65))),(Qg 67 57 true (.bin .geq (.t 64) (.t 66))),(Qg 68 54 false (.pick (.t 57) (.t 67) (.c .ff))),(Qa 69 (.pick (.t 54) (.c .tt) (.t 68)))] [[],[0],[1],[2],[3],[4,3],[3],[6,3],[5,7,3],[3,8],[9,3],[10],[11,10],[10],[12,13,10],[10,14],[15,10],[16],[17,16],[18,16,16],[19],[20,19],[19],[22,19],[21,23,19],[24,19],[25,19],[19],[27,19],[26,28,19],[19,29,16],[16,30]] [[1],[0,2],[1,3],[2,4,5,6,7,8,9],[3,5],[3,4,8],[3,7],[3,6,8],[3,5,7,9],[3,8,10],[9,11,12,13,14,15],[10,12],[10,11,14],[10,14],[10,12,13,15],[10,14,16],[15,17,18,19,30,31],[16,18],[16,17,19],[16,18,20,21,22,23,24,25,26,27,28,29,30],[19,21],[19,20,24],[19,23],[19,22,24],[19,21,23,25],[19,24,26],[19,25,29],[19,28],[19,27,29],[19,26,28,30],[16,19,29,31],[16,30]]) (.ite (.t 69) (.seq (.reg [(Qa 70 (.build [.iv 0,.nl] [])),(Qb (.store 2 (.t 2) (.t 70))),(Qa 3 (.mv (.c .ff)))]) (.ret)) (.skip))) (.seq (.seq (.reg [(Qa 72 (.mv (.t 0))),(Qa 73 (.fld 0 (.t 8))),(Qa 74 (.load (.t 73))),(Qa 75 (.idx 3 (.t 72) (.t 74))),(Qa 76 (.loadA 3 (.t 75))),(Qa 77 (.mv (.t 5))),(Qa 78 (.call 31 [(.t 76),(.t 77)])),(Qa 71 (.mv (.t 78))),(Qa 79 (.ext (.t 71) 0)),(Qa 80 (.ext (.t 71) 1)),(Qa 9 (.alloc 65 [.iv 0,.iv 0,.iv 0,.ff,.ff,.ff,.ff,.ff])),(Qb (.store 8 (.t 9) (.t 79))),(Qa 10 (.mv (.t 80)))]) (.seq (.reg [(Qa 81 (.mv (.t 10))),(Qa 82 (.not (.t 81)))]) (.ite (.t 82) (.seq (.reg [(Qa 83 (.build [.iv 0,.nl] [])),(Qb (.store 2 (.t 2) (.t 83))),(Qa 3 (.mv (.c .ff)))]) (.ret)) (.skip)))) (.seq (.reg [(Qa 84 (.mv (.t 5))),(Qa 85 (.fld 0 (.t 8))),(Qa 86 (.load (.t 85))),(Qa 87 (.bin .lss (.t 84) (.t 86)))]) (.ite (.t 87) (.reg [(Qa 88 (.fld 1 (.t 4))),(Qa 89 (.load (.t 88))),(Qa 90 (.mv (.t 5))),(Qa 91 (.fld 0 (.t 8))),(Qa 92 (.load (.t 91))),(Qa 93 (.build [.iv 0,.iv 0] [(0,1,(.t 90)),(1,1,(.t 92))])),(Qa 94 (.bsl 29 2 1 [.iv 0,.iv 0] [(0,(.t 93))])),(Qa 95 (.app 29 2 16 (.t 89) (.t 94))),(Qa 96 (.fld 1 (.t 4))),(Qb (.store 1 (.t 96) (.t 95)))]) (.skip))))))) (.reg [(Qa 97 (.bin .add (.t 33) (.c (.iv 1)))),(Qa 33 (.mv (.t 97)))])))
def Zi9:EC:=.seq (.reg [(Qa 21 (.bin .lss (.t 20) (.t 19)))]) (.seq (.ite (.t 21) (.skip) (.exit 0)) (.seq (.blk 1 (.seq (.reg [(Qa 22 (.mv (.t 20))),(Qa 23 (.idx 3 (.t 18) (.t 20))),(Qa 24 (.loadA 3 (.t 23))),(Qa 6 (.alloc 70 [.iv 0,.iv 0,.nl])),(Qa 5 (.mv (.t 22))),(Qb (.store 3 (.t 6) (.t 24)))]) (.seq (.seq (.reg [(Qa 25 (.fld 0 (.t 6))),(Qa 26 (.load (.t 25))),(Qa 27 (.mv (.t 5))),(Qa 28 (.bin .neq (.t 26) (.t 27)))]) (.ite (.t 28) (.seq (.reg [(Qa 29 (.build [.iv 0,.nl] [])),(Qb (.store 2 (.t 2) (.t 29))),(Qa 3 (.mv (.c .ff)))]) (.ret)) (.skip))) (.seq (.reg [(Qa 30 (.fld 2 (.t 6))),(Qa 31 (.load (.t 30))),(Qa 32 (.len (.t 31))),(Qa 33 (.mv (.c (.iv 0))))]) (.blk 2 (.loop Zh9)))))) (.reg [(Qa 98 (.bin .add (.t 20) (.c (.iv 1)))),(Qa 20 (.mv (.t 98)))])))
def e44:EC:=.seq (.reg [(Qa 2 (.alloc 48 [.iv 0,.nl])),(Qa 3 (.mv (.c .ff)))]) (.seq (.seq (.reg [(Qa 11 (.mv (.t 0))),(Qa 12 (.len (.t 11))),(Qa 13 (.bin .gtr (.t 12) (.c (.iv 64))))]) (.ite (.t 13) (.seq (.reg [(Qa 14 (.build [.iv 0,.nl] [])),(Qb (.store 2 (.t 2) (.t 14))),(Qa 3 (.mv (.c .ff)))]) (.ret)) (.skip))) (.seq (.reg [(Qa 15 (.mv (.t 0))),(Qa 16 (.len (.t 15))),(Qa 17 (.build [.iv 0,.nl] [(0,1,(.t 16))])),(Qa 4 (.alloc 48 [.iv 0,.nl])),(Qb (.store 2 (.t 4) (.t 17)))]) (.seq (.seq (.reg [(Qa 18 (.mv (.t 0))),(Qa 19 (.len (.t 18))),(Qa 20 (.mv (.c (.iv 0))))]) (.blk 0 (.loop Zi9))) (.seq (.seq (.reg [(Qa 99 (.loadA 2 (.t 4))),(Qa 100 (.call 80 [(.t 99)])),(Qa 101 (.bin .neq (.t 100) (.c (.iv 0))))]) (.ite (.t 101) (.seq (.reg [(Qa 102 (.build [.iv 0,.nl] [])),(Qb (.store 2 (.t 2) (.t 102))),(Qa 3 (.mv (.c .ff)))]) (.ret)) (.skip))) (.seq (.reg [(Qa 103 (.loadA 2 (.t 4))),(Qb (.store 2 (.t 2) (.t 103))),(Qa 3 (.mv (.c .tt)))]) (.ret))))))
theorem ok44:FnOK Tryz.prog 44 Tryz.f44 e44 [.c 2 (some 2),.t 3] 1 103:=⟨by kernel_rfl,⟨_,rfl,by kernel_rfl⟩,by kernel_rfl,by kernel_rfl⟩
noncomputable def Zj9 (x1:(List Diner)):(List Edge)→Option (Graph×Bool)
| x78=>
 (Z97 ((Graph.mk (ln Diner.row x1) x78))).bind fun x79=>
 ifb (!decide (x79=0)) (
 some ((Graph.mk 0 (([]:(List Edge)))),false)) (
 some ((Graph.mk (ln Diner.row x1) x78),true))
noncomputable def Zk9 (x35:Int):(List Edge)→Option ((Int×(List Edge)) ⊕ (Graph×Bool))
| x69=>
 some (.inl (wr (x35+1),x69))
noncomputable def Zl9 (x47:Int):(List Edge)→Option ((Int×(List Edge)) ⊕ ((Int×(List Edge)) ⊕ (Graph×Bool)))
| x55=>
 some (.inl (wr (x47+1),x55))
noncomputable def Zm9 (x1:(List Diner)) (x35:Int) (x47:Int) (x48:(List Edge)) (x49:Side):Bool→Option ((Int×(List Edge)) ⊕ ((Int×(List Edge)) ⊕ (Graph×Bool)))
| x51=>
 ifb x51 (
 Option.map Sum.inr (Option.map Sum.inr (some ((Graph.mk 0 (([]:(List Edge)))),false)))) (
 (at_ x1 x49.Peer).bind fun x52=>
 (Zi8 x52 x35).bind fun x53=>
 ifb (!x53.2) (
 Option.map Sum.inr (Option.map Sum.inr (some ((Graph.mk 0 (([]:(List Edge)))),false)))) (
 ifb (decide (x35<x49.Peer)) (
 (Za4 16 x48 ([(Edge.mk x35 x49.Peer)])).bind fun x54=>
 (Zl9 x47) x54) (
 (Zl9 x47) x48)))
noncomputable def Zn9 (x1:(List Diner)) (x35:Int) (x37:Diner):(Int×(List Edge))→Option ((Int×(List Edge)) ⊕ ((Int×(List Edge)) ⊕ (Graph×Bool)))
| (x47,x48)=>
 ifb (decide (x47<(ln Side.row x37.Sides))) (
 (at_ x37.Sides x47).bind fun x49=>
 ifb (decide (x49.Peer<0)) (
 (Zm9 x1 x35 x47 x48 x49) true) (
 ifb (decide ((ln Diner.row x1)≤x49.Peer)) (
 (Zm9 x1 x35 x47 x48 x49) true) (
 ifb (decide (x49.Peer=x35)) (
 (Zm9 x1 x35 x47 x48 x49) true) (
 ifb (decide (0<x47)) (
 (at_ x37.Sides (wr (x47-1))).bind fun x50=>
 (Zm9 x1 x35 x47 x48 x49) (decide (x49.Peer≤x50.Peer))) (
 (Zm9 x1 x35 x47 x48 x49) false))))) (
 Option.map Sum.inr ((Zk9 x35) x48))
noncomputable def Zo9 (x1:(List Diner)):(Int×(List Edge))→Option ((Int×(List Edge)) ⊕ (Graph×Bool))
| (x35,x36)=>
 ifb (decide (x35<(ln Diner.row x1))) (
 (at_ x1 x35).bind fun x37=>
 ifb (!decide (x37.ID=x35)) (
 Option.map Sum.inr (some ((Graph.mk 0 (([]:(List Edge)))),false))) (
 loop (Zn9 x1 x35 x37) (0,x36))) (
 Option.map Sum.inr ((Zj9 x1) x36))
noncomputable def Zp9 (x1:(List Diner)):Option (Graph×Bool):=
 ifb (decide (64<(ln Diner.row x1))) (
 some ((Graph.mk 0 (([]:(List Edge)))),false)) (
 loop (Zo9 x1) (0,([]:List Edge)))
theorem k_place_Graph (x1:(List Diner)) (r:(Graph×Bool)) (h:Zp9 x1=some r):Zq2 Tryz.prog 44 [.sl 3 (List.map Diner.row x1)] (.tup [.agg (Graph.row r.1),.bv r.2]):=by
 refine Zu2 ok44 rfl rfl fun w0 H0=>?_
 rw [Zp9] at h
 refine Zl2 12 ?_;dsimp only [e44,Zi9,Zh9,go_sem];refine ⟨by simp,?_⟩;refine Zn4 h rfl (fun _ h=>?_) fun _ h=>?_
 ·refine Zl2 6 ?_;dsimp only [e44,Zi9,Zh9,go_sem];refine ⟨by simp,?_⟩;exact Zx4 (res:=fun (r:(Graph×Bool))=>.tup [.agg (Graph.row r.1),.bv r.2]) ok44 h
 ·refine Zl2 16 ?_;dsimp only [e44,Zi9,Zh9,go_sem];refine ⟨by simp,?_⟩;refine Zl4 (fun (x78:(List Edge))=>(⟨(.any :: .any :: .ptr 0 0 :: .any :: .ptr 1 0::an 99 []),[some ⟨48,[.iv 0,.nl]⟩,some ⟨48,[.iv (ln Diner.row x1),.osl 0]⟩],[some ⟨29,2,List.map Edge.row x78⟩]⟩:St)) (Zj9 x1) r ?_ fun J1=>?_
  ·intro x78 h;rw [Zj9] at h;(try dsimp only);refine Zl2 4 ?_;dsimp only [e44,Zi9,Zh9,go_sem];refine ⟨by simp,?_⟩;obtain ⟨x79,ex79,h⟩:=Option.bind_eq_some_iff.1 h;refine Z25 trivial ((Z05.refl _).slice 0 rfl) (Za7 ((Graph.mk (ln Diner.row x1) x78)) _ ex79) (h:=?_);refine Zl2 2 ?_;dsimp only [e44,Zi9,Zh9,go_sem];refine ⟨by simp,?_⟩;refine Zn4 h rfl (fun _ h=>?_) fun _ h=>?_
   ·refine Zl2 6 ?_;dsimp only [e44,Zi9,Zh9,go_sem];refine ⟨by simp,?_⟩;exact Zx4 (res:=fun (r:(Graph×Bool))=>.tup [.agg (Graph.row r.1),.bv r.2]) ok44 h
   ·refine Zl2 7 ?_;dsimp only [e44,Zi9,Zh9,go_sem];refine ⟨by simp,?_⟩;refine Z83 0 rfl ?_;dsimp only [go_sem];exact Zx4 (res:=fun (r:(Graph×Bool))=>.tup [.agg (Graph.row r.1),.bv r.2]) ok44 h
  ·refine Zl2 1 ?_;dsimp only [e44,Zi9,Zh9,go_sem];refine ⟨by simp,?_⟩;refine V_ownB 1 1 29 2 rfl rfl rfl ?_;dsimp only [go_sem];refine Zm4 h (fun ((x35,x36):(Int×(List Edge)))=>(⟨(.sl 3 (List.map Diner.row x1) :: .any :: .ptr 0 0 :: .any :: .ptr 1 0::an 13 (.sl 3 (List.map Diner.row x1) :: .iv (ln Diner.row x1) :: .iv x35::an 83 [])),[some ⟨48,[.iv 0,.nl]⟩,some ⟨48,[.iv (ln Diner.row x1),.osl 0]⟩],[some ⟨29,2,List.map Edge.row x36⟩]⟩:St)) (by simp [go_sem]) (by rintro ⟨x35,x36⟩;first | rfl | simp [go_sem]) ?_;rintro n1 ⟨x35,x36⟩ y1 h hin1 hout1
   rw [Zo9] at h;(try dsimp only);refine Zl2 5 ?_;dsimp only [e44,Zi9,Zh9,go_sem];refine ⟨by simp,?_⟩;refine Zn4 h rfl (fun _ h=>?_) fun _ h=>?_
   ·refine Zl2 6 ?_;dsimp only [e44,Zi9,Zh9,go_sem];refine ⟨by simp,?_⟩;obtain ⟨x37,ex37,h⟩:=Option.bind_eq_some_iff.1 h;refine Zq4 Diner.row ex37 trivial rfl rfl rfl ?_;refine Zl2 13 ?_;dsimp only [e44,Zi9,Zh9,go_sem];refine ⟨by simp,?_⟩;refine Zn4 h rfl (fun _ h=>?_) fun _ h=>?_
    ·refine Zl2 6 ?_;dsimp only [e44,Zi9,Zh9,go_sem];refine ⟨by simp,?_⟩;exact Zx4 (res:=fun (r:(Graph×Bool))=>.tup [.agg (Graph.row r.1),.bv r.2]) ok44 (Zk4 h hout1)
    ·refine Zl2 8 ?_;dsimp only [e44,Zi9,Zh9,go_sem];refine ⟨by simp,?_⟩;refine Zl4 (fun (x69:(List Edge))=>(⟨(.sl 3 (List.map Diner.row x1) :: .any :: .ptr 0 0 :: .any :: .ptr 1 0::an 13 (.sl 3 (List.map Diner.row x1) :: .iv (ln Diner.row x1) :: .iv x35::an 83 [])),[some ⟨48,[.iv 0,.nl]⟩,some ⟨48,[.iv (ln Diner.row x1),.osl 0]⟩],[some ⟨29,2,List.map Edge.row x69⟩]⟩:St)) (Zk9 x35) y1 ?_ fun J2=>?_
     ·intro x69 h;rw [Zk9] at h;(try dsimp only);refine Zl2 5 ?_;dsimp only [e44,Zi9,Zh9,go_sem];refine ⟨by simp,?_⟩;exact Zy4 h hin1
     ·refine Zl2 1 ?_;dsimp only [e44,Zi9,Zh9,go_sem];refine ⟨by simp,?_⟩
      refine Zm4 h (fun ((x47,x48):(Int×(List Edge)))=>(⟨(.sl 3 (List.map Diner.row x1) :: .any :: .ptr 0 0 :: .any :: .ptr 1 0 :: .iv x35 :: .ptr 2 0::an 11 (.sl 3 (List.map Diner.row x1) :: .iv (ln Diner.row x1) :: .iv x35::an 10 (.sl 8 (List.map Side.row x37.Sides) :: .iv (ln Side.row x37.Sides) :: .iv x47::an 70 []))),[some ⟨48,[.iv 0,.nl]⟩,some ⟨48,[.iv (ln Diner.row x1),.osl 0]⟩,some ⟨70,[.iv x37.ID,.iv x37.Phase,.sl 8 (List.map Side.row x37.Sides)]⟩],[some ⟨29,2,List.map Edge.row x48⟩]⟩:St)) (by simp [go_sem]) (by rintro ⟨x47,x48⟩;first | rfl | simp [go_sem]) ?_
      rintro n2 ⟨x47,x48⟩ y2 h hin2 hout2;rw [Zn9] at h;(try dsimp only);refine Zl2 5 ?_;dsimp only [e44,Zi9,Zh9,go_sem];refine ⟨by simp,?_⟩;refine Zn4 h rfl (fun _ h=>?_) fun _ h=>?_
      ·refine Zl2 6 ?_;dsimp only [e44,Zi9,Zh9,go_sem];refine ⟨by simp,?_⟩;obtain ⟨x49,ex49,h⟩:=Option.bind_eq_some_iff.1 h;refine Zq4 Side.row ex49 trivial rfl rfl rfl ?_;refine Zl2 7 ?_;dsimp only [e44,Zi9,Zh9,go_sem];refine ⟨by simp,?_⟩
       refine Zl4 (fun (x51:Bool)=>(⟨(.sl 3 (List.map Diner.row x1) :: .any :: .ptr 0 0 :: .any :: .ptr 1 0 :: .iv x35 :: .ptr 2 0 :: .any :: .ptr 3 0::an 9 (.sl 3 (List.map Diner.row x1) :: .iv (ln Diner.row x1) :: .iv x35::an 10 (.sl 8 (List.map Side.row x37.Sides) :: .iv (ln Side.row x37.Sides) :: .iv x47::an 35 (.bv x51::an 34 [])))),[some ⟨48,[.iv 0,.nl]⟩,some ⟨48,[.iv (ln Diner.row x1),.osl 0]⟩,some ⟨70,[.iv x37.ID,.iv x37.Phase,.sl 8 (List.map Side.row x37.Sides)]⟩,some ⟨65,[.iv x49.Peer,.iv x49.Epoch,.iv x49.State,.bv x49.Fork,.bv x49.Dirty,.bv x49.Token,.bv x49.Bottle,.bv x49.Ask]⟩],[some ⟨29,2,List.map Edge.row x48⟩]⟩:St)) (Zm9 x1 x35 x47 x48 x49) y2 ?_ fun J3=>?_
       ·intro x51 h;rw [Zm9] at h;(try dsimp only);refine Zn4 h rfl (fun _ h=>?_) fun _ h=>?_
        ·refine Zl2 6 ?_;dsimp only [e44,Zi9,Zh9,go_sem];refine ⟨by simp,?_⟩;exact Zx4 (res:=fun (r:(Graph×Bool))=>.tup [.agg (Graph.row r.1),.bv r.2]) ok44 (Zk4 (Zk4 h hout2) hout1)
        ·refine Zl2 7 ?_;dsimp only [e44,Zi9,Zh9,go_sem];refine ⟨by simp,?_⟩;obtain ⟨x52,ex52,h⟩:=Option.bind_eq_some_iff.1 h;refine Zq4 Diner.row ex52 trivial rfl rfl rfl ?_;refine Zl2 2 ?_;dsimp only [e44,Zi9,Zh9,go_sem];refine ⟨by simp,?_⟩;obtain ⟨x53,ex53,h⟩:=Option.bind_eq_some_iff.1 h;refine Zz2 trivial (Zj8 x52 x35 _ ex53) (h:=?_);refine Zl2 12 ?_;dsimp only [e44,Zi9,Zh9,go_sem];refine ⟨by simp,?_⟩;refine Zn4 h rfl (fun _ h=>?_) fun _ h=>?_
         ·refine Zl2 6 ?_;dsimp only [e44,Zi9,Zh9,go_sem];refine ⟨by simp,?_⟩;exact Zx4 (res:=fun (r:(Graph×Bool))=>.tup [.agg (Graph.row r.1),.bv r.2]) ok44 (Zk4 (Zk4 h hout2) hout1)
         ·refine Zl2 8 ?_;dsimp only [e44,Zi9,Zh9,go_sem];refine ⟨by simp,?_⟩
          refine Zl4 (fun (x55:(List Edge))=>(⟨(.sl 3 (List.map Diner.row x1) :: .any :: .ptr 0 0 :: .any :: .ptr 1 0 :: .iv x35 :: .ptr 2 0::an 11 (.sl 3 (List.map Diner.row x1) :: .iv (ln Diner.row x1) :: .iv x35::an 10 (.sl 8 (List.map Side.row x37.Sides) :: .iv (ln Side.row x37.Sides) :: .iv x47::an 70 []))),[some ⟨48,[.iv 0,.nl]⟩,some ⟨48,[.iv (ln Diner.row x1),.osl 0]⟩,some ⟨70,[.iv x37.ID,.iv x37.Phase,.sl 8 (List.map Side.row x37.Sides)]⟩],[some ⟨29,2,List.map Edge.row x55⟩]⟩:St)) (Zl9 x47) y2 ?_ fun J4=>?_
          ·intro x55 h;rw [Zl9] at h;(try dsimp only);refine Zl2 5 ?_;dsimp only [e44,Zi9,Zh9,go_sem];refine ⟨by simp,?_⟩;exact Zy4 h hin2
          ·refine Zn4 h rfl (fun _ h=>?_) fun _ h=>?_
           ·refine Zl2 8 ?_;dsimp only [e44,Zi9,Zh9,go_sem];refine ⟨by simp,?_⟩;obtain ⟨x54,ex54,h⟩:=Option.bind_eq_some_iff.1 h;refine Zt4 Edge.row ex54 trivial rfl rfl rfl ?_;refine Zl2 3 ?_;dsimp only [e44,Zi9,Zh9,go_sem];refine ⟨by simp,?_⟩;refine Z44 2 0 rfl rfl rfl ?_;dsimp only [go_sem];exact Zz4 J4 (s:=x54) h
           ·refine Zl2 1 ?_;dsimp only [e44,Zi9,Zh9,go_sem];refine ⟨by simp,?_⟩;exact Zz4 J4 (s:=x48) h
       ·refine Zh3 (by kernel_rfl) fun all hall hs hnap haf=>?_;dsimp only [go_sem]
        refine Zi5 hall hs haf hnap 4 28 [true,true,true,true,false,false,false,false,false,false,false,false,false,false,false,false,false,false,false,false,false,false,false,false,false,false,false,false,false,false,false,false] (⟨(.sl 3 (List.map Diner.row x1) :: .any :: .ptr 0 0 :: .any :: .ptr 1 0 :: .iv x35 :: .ptr 2 0 :: .iv x47 :: .ptr 3 0::an 9 (.sl 3 (List.map Diner.row x1) :: .iv (ln Diner.row x1) :: .iv x35::an 10 (.sl 8 (List.map Side.row x37.Sides) :: .iv (ln Side.row x37.Sides) :: .iv x47 :: .bv (decide (x47<(ln Side.row x37.Sides))) :: .iv x47 :: .elt [.iv x49.Peer,.iv x49.Epoch,.iv x49.State,.bv x49.Fork,.bv x49.Dirty,.bv x49.Token,.bv x49.Bottle,.bv x49.Ask] 0 :: .agg [.iv x49.Peer,.iv x49.Epoch,.iv x49.State,.bv x49.Fork,.bv x49.Dirty,.bv x49.Token,.bv x49.Bottle,.bv x49.Ask] :: .ptr 3 0 :: .iv x49.Peer :: .bv (decide (x49.Peer<0)) :: .bv (decide (x49.Peer<0))::an 62 []))),[some ⟨48,[.iv 0,.nl]⟩,some ⟨48,[.iv (ln Diner.row x1),.osl 0]⟩,some ⟨70,[.iv x37.ID,.iv x37.Phase,.sl 8 (List.map Side.row x37.Sides)]⟩,some ⟨65,[.iv x49.Peer,.iv x49.Epoch,.iv x49.State,.bv x49.Fork,.bv x49.Dirty,.bv x49.Token,.bv x49.Bottle,.bv x49.Ask]⟩],[some ⟨29,2,List.map Edge.row x48⟩]⟩:St) (by kernel_rfl) ?_
        refine Z75 41 h rfl (fun _ h=>?_) fun _ h=>?_
        ·dsimp only [go_sem]
         refine Zi5 hall hs haf hnap 28 0 [true,true,true,true,true,true,true,true,true,true,true,true,true,true,true,true,true,true,true,true,true,true,true,true,true,true,true,true,true,true,true,true] (⟨(.sl 3 (List.map Diner.row x1) :: .any :: .ptr 0 0 :: .any :: .ptr 1 0 :: .iv x35 :: .ptr 2 0 :: .iv x47 :: .ptr 3 0::an 9 (.sl 3 (List.map Diner.row x1) :: .iv (ln Diner.row x1) :: .iv x35::an 10 (.sl 8 (List.map Side.row x37.Sides) :: .iv (ln Side.row x37.Sides) :: .iv x47 :: .bv (decide (x47<(ln Side.row x37.Sides))) :: .iv x47 :: .elt [.iv x49.Peer,.iv x49.Epoch,.iv x49.State,.bv x49.Fork,.bv x49.Dirty,.bv x49.Token,.bv x49.Bottle,.bv x49.Ask] 0 :: .agg [.iv x49.Peer,.iv x49.Epoch,.iv x49.State,.bv x49.Fork,.bv x49.Dirty,.bv x49.Token,.bv x49.Bottle,.bv x49.Ask] :: .ptr 3 0 :: .iv x49.Peer :: .bv (decide (x49.Peer<0)) :: .tt :: .un :: .un :: .un :: .un :: .un :: .tt :: .tt :: .un :: .un :: .un :: .un :: .tt :: .tt :: .un :: .un :: .un :: .un :: .un :: .un :: .un :: .un :: .un :: .un :: .un :: .un :: .un :: .un :: .tt::an 34 []))),[some ⟨48,[.iv 0,.nl]⟩,some ⟨48,[.iv (ln Diner.row x1),.osl 0]⟩,some ⟨70,[.iv x37.ID,.iv x37.Phase,.sl 8 (List.map Side.row x37.Sides)]⟩,some ⟨65,[.iv x49.Peer,.iv x49.Epoch,.iv x49.State,.bv x49.Fork,.bv x49.Dirty,.bv x49.Token,.bv x49.Bottle,.bv x49.Ask]⟩],[some ⟨29,2,List.map Edge.row x48⟩]⟩:St) (by kernel_rfl) ?_
         refine Zs3 rfl ?_ _;exact Zz4 J3 (s:=true) h
        ·dsimp only [go_sem]
         refine Zi5 hall hs haf hnap 7 21 [true,true,true,true,true,true,true,true,true,true,true,false,false,false,false,false,false,false,false,false,false,false,false,false,false,false,false,false,false,false,false,false] (⟨(.sl 3 (List.map Diner.row x1) :: .any :: .ptr 0 0 :: .any :: .ptr 1 0 :: .iv x35 :: .ptr 2 0 :: .iv x47 :: .ptr 3 0::an 9 (.sl 3 (List.map Diner.row x1) :: .iv (ln Diner.row x1) :: .iv x35::an 10 (.sl 8 (List.map Side.row x37.Sides) :: .iv (ln Side.row x37.Sides) :: .iv x47 :: .bv (decide (x47<(ln Side.row x37.Sides))) :: .iv x47 :: .elt [.iv x49.Peer,.iv x49.Epoch,.iv x49.State,.bv x49.Fork,.bv x49.Dirty,.bv x49.Token,.bv x49.Bottle,.bv x49.Ask] 0 :: .agg [.iv x49.Peer,.iv x49.Epoch,.iv x49.State,.bv x49.Fork,.bv x49.Dirty,.bv x49.Token,.bv x49.Bottle,.bv x49.Ask] :: .ptr 3 0 :: .iv x49.Peer :: .bv (decide (x49.Peer<0)) :: .ff :: .ptr 3 0 :: .iv x49.Peer :: .sl 3 (List.map Diner.row x1) :: .iv (ln Diner.row x1) :: .bv (decide ((ln Diner.row x1)≤x49.Peer)) :: .bv (decide ((ln Diner.row x1)≤x49.Peer)) :: .bv (decide ((ln Diner.row x1)≤x49.Peer))::an 55 []))),[some ⟨48,[.iv 0,.nl]⟩,some ⟨48,[.iv (ln Diner.row x1),.osl 0]⟩,some ⟨70,[.iv x37.ID,.iv x37.Phase,.sl 8 (List.map Side.row x37.Sides)]⟩,some ⟨65,[.iv x49.Peer,.iv x49.Epoch,.iv x49.State,.bv x49.Fork,.bv x49.Dirty,.bv x49.Token,.bv x49.Bottle,.bv x49.Ask]⟩],[some ⟨29,2,List.map Edge.row x48⟩]⟩:St) (by kernel_rfl) ?_
         refine Z75 48 h rfl (fun _ h=>?_) fun _ h=>?_
         ·dsimp only [go_sem]
          refine Zi5 hall hs haf hnap 21 0 [true,true,true,true,true,true,true,true,true,true,true,true,true,true,true,true,true,true,true,true,true,true,true,true,true,true,true,true,true,true,true,true] (⟨(.sl 3 (List.map Diner.row x1) :: .any :: .ptr 0 0 :: .any :: .ptr 1 0 :: .iv x35 :: .ptr 2 0 :: .iv x47 :: .ptr 3 0::an 9 (.sl 3 (List.map Diner.row x1) :: .iv (ln Diner.row x1) :: .iv x35::an 10 (.sl 8 (List.map Side.row x37.Sides) :: .iv (ln Side.row x37.Sides) :: .iv x47 :: .bv (decide (x47<(ln Side.row x37.Sides))) :: .iv x47 :: .elt [.iv x49.Peer,.iv x49.Epoch,.iv x49.State,.bv x49.Fork,.bv x49.Dirty,.bv x49.Token,.bv x49.Bottle,.bv x49.Ask] 0 :: .agg [.iv x49.Peer,.iv x49.Epoch,.iv x49.State,.bv x49.Fork,.bv x49.Dirty,.bv x49.Token,.bv x49.Bottle,.bv x49.Ask] :: .ptr 3 0 :: .iv x49.Peer :: .bv (decide (x49.Peer<0)) :: .ff :: .ptr 3 0 :: .iv x49.Peer :: .sl 3 (List.map Diner.row x1) :: .iv (ln Diner.row x1) :: .bv (decide ((ln Diner.row x1)≤x49.Peer)) :: .bv (decide ((ln Diner.row x1)≤x49.Peer)) :: .tt :: .un :: .un :: .un :: .un :: .tt :: .tt :: .un :: .un :: .un :: .un :: .un :: .un :: .un :: .un :: .un :: .un :: .un :: .un :: .un :: .un :: .tt::an 34 []))),[some ⟨48,[.iv 0,.nl]⟩,some ⟨48,[.iv (ln Diner.row x1),.osl 0]⟩,some ⟨70,[.iv x37.ID,.iv x37.Phase,.sl 8 (List.map Side.row x37.Sides)]⟩,some ⟨65,[.iv x49.Peer,.iv x49.Epoch,.iv x49.State,.bv x49.Fork,.bv x49.Dirty,.bv x49.Token,.bv x49.Bottle,.bv x49.Ask]⟩],[some ⟨29,2,List.map Edge.row x48⟩]⟩:St) (by kernel_rfl) ?_
          refine Zs3 rfl ?_ _;exact Zz4 J3 (s:=true) h
         ·dsimp only [go_sem]
          refine Zi5 hall hs haf hnap 6 15 [true,true,true,true,true,true,true,true,true,true,true,true,true,true,true,true,true,false,false,false,false,false,false,false,false,false,false,false,false,false,false,false] (⟨(.sl 3 (List.map Diner.row x1) :: .any :: .ptr 0 0 :: .any :: .ptr 1 0 :: .iv x35 :: .ptr 2 0 :: .iv x47 :: .ptr 3 0::an 9 (.sl 3 (List.map Diner.row x1) :: .iv (ln Diner.row x1) :: .iv x35::an 10 (.sl 8 (List.map Side.row x37.Sides) :: .iv (ln Side.row x37.Sides) :: .iv x47 :: .bv (decide (x47<(ln Side.row x37.Sides))) :: .iv x47 :: .elt [.iv x49.Peer,.iv x49.Epoch,.iv x49.State,.bv x49.Fork,.bv x49.Dirty,.bv x49.Token,.bv x49.Bottle,.bv x49.Ask] 0 :: .agg [.iv x49.Peer,.iv x49.Epoch,.iv x49.State,.bv x49.Fork,.bv x49.Dirty,.bv x49.Token,.bv x49.Bottle,.bv x49.Ask] :: .ptr 3 0 :: .iv x49.Peer :: .bv (decide (x49.Peer<0)) :: .ff :: .ptr 3 0 :: .iv x49.Peer :: .sl 3 (List.map Diner.row x1) :: .iv (ln Diner.row x1) :: .bv (decide ((ln Diner.row x1)≤x49.Peer)) :: .bv (decide ((ln Diner.row x1)≤x49.Peer)) :: .ff :: .ptr 3 0 :: .iv x49.Peer :: .iv x35 :: .bv (decide (x49.Peer=x35)) :: .bv (decide (x49.Peer=x35)) :: .bv (decide (x49.Peer=x35))::an 49 []))),[some ⟨48,[.iv 0,.nl]⟩,some ⟨48,[.iv (ln Diner.row x1),.osl 0]⟩,some ⟨70,[.iv x37.ID,.iv x37.Phase,.sl 8 (List.map Side.row x37.Sides)]⟩,some ⟨65,[.iv x49.Peer,.iv x49.Epoch,.iv x49.State,.bv x49.Fork,.bv x49.Dirty,.bv x49.Token,.bv x49.Bottle,.bv x49.Ask]⟩],[some ⟨29,2,List.map Edge.row x48⟩]⟩:St) (by kernel_rfl) ?_
          refine Z75 54 h rfl (fun _ h=>?_) fun _ h=>?_
          ·dsimp only [go_sem]
           refine Zi5 hall hs haf hnap 15 0 [true,true,true,true,true,true,true,true,true,true,true,true,true,true,true,true,true,true,true,true,true,true,true,true,true,true,true,true,true,true,true,true] (⟨(.sl 3 (List.map Diner.row x1) :: .any :: .ptr 0 0 :: .any :: .ptr 1 0 :: .iv x35 :: .ptr 2 0 :: .iv x47 :: .ptr 3 0::an 9 (.sl 3 (List.map Diner.row x1) :: .iv (ln Diner.row x1) :: .iv x35::an 10 (.sl 8 (List.map Side.row x37.Sides) :: .iv (ln Side.row x37.Sides) :: .iv x47 :: .bv (decide (x47<(ln Side.row x37.Sides))) :: .iv x47 :: .elt [.iv x49.Peer,.iv x49.Epoch,.iv x49.State,.bv x49.Fork,.bv x49.Dirty,.bv x49.Token,.bv x49.Bottle,.bv x49.Ask] 0 :: .agg [.iv x49.Peer,.iv x49.Epoch,.iv x49.State,.bv x49.Fork,.bv x49.Dirty,.bv x49.Token,.bv x49.Bottle,.bv x49.Ask] :: .ptr 3 0 :: .iv x49.Peer :: .bv (decide (x49.Peer<0)) :: .ff :: .ptr 3 0 :: .iv x49.Peer :: .sl 3 (List.map Diner.row x1) :: .iv (ln Diner.row x1) :: .bv (decide ((ln Diner.row x1)≤x49.Peer)) :: .bv (decide ((ln Diner.row x1)≤x49.Peer)) :: .ff :: .ptr 3 0 :: .iv x49.Peer :: .iv x35 :: .bv (decide (x49.Peer=x35)) :: .bv (decide (x49.Peer=x35)) :: .tt :: .un :: .un :: .un :: .un :: .un :: .un :: .un :: .un :: .un :: .un :: .un :: .un :: .un :: .un :: .tt::an 34 []))),[some ⟨48,[.iv 0,.nl]⟩,some ⟨48,[.iv (ln Diner.row x1),.osl 0]⟩,some ⟨70,[.iv x37.ID,.iv x37.Phase,.sl 8 (List.map Side.row x37.Sides)]⟩,some ⟨65,[.iv x49.Peer,.iv x49.Epoch,.iv x49.State,.bv x49.Fork,.bv x49.Dirty,.bv x49.Token,.bv x49.Bottle,.bv x49.Ask]⟩],[some ⟨29,2,List.map Edge.row x48⟩]⟩:St) (by kernel_rfl) ?_
           refine Zs3 rfl ?_ _;exact Zz4 J3 (s:=true) h
          ·dsimp only [go_sem]
           refine Zi5 hall hs haf hnap 3 12 [true,true,true,true,true,true,true,true,true,true,true,true,true,true,true,true,true,true,true,true,false,false,false,false,false,false,false,false,false,false,false,false] (⟨(.sl 3 (List.map Diner.row x1) :: .any :: .ptr 0 0 :: .any :: .ptr 1 0 :: .iv x35 :: .ptr 2 0 :: .iv x47 :: .ptr 3 0::an 9 (.sl 3 (List.map Diner.row x1) :: .iv (ln Diner.row x1) :: .iv x35::an 10 (.sl 8 (List.map Side.row x37.Sides) :: .iv (ln Side.row x37.Sides) :: .iv x47 :: .bv (decide (x47<(ln Side.row x37.Sides))) :: .iv x47 :: .elt [.iv x49.Peer,.iv x49.Epoch,.iv x49.State,.bv x49.Fork,.bv x49.Dirty,.bv x49.Token,.bv x49.Bottle,.bv x49.Ask] 0 :: .agg [.iv x49.Peer,.iv x49.Epoch,.iv x49.State,.bv x49.Fork,.bv x49.Dirty,.bv x49.Token,.bv x49.Bottle,.bv x49.Ask] :: .ptr 3 0 :: .iv x49.Peer :: .bv (decide (x49.Peer<0)) :: .ff :: .ptr 3 0 :: .iv x49.Peer :: .sl 3 (List.map Diner.row x1) :: .iv (ln Diner.row x1) :: .bv (decide ((ln Diner.row x1)≤x49.Peer)) :: .bv (decide ((ln Diner.row x1)≤x49.Peer)) :: .ff :: .ptr 3 0 :: .iv x49.Peer :: .iv x35 :: .bv (decide (x49.Peer=x35)) :: .bv (decide (x49.Peer=x35)) :: .ff :: .iv x47 :: .bv (decide (0<x47)) :: .bv (decide (0<x47))::an 46 []))),[some ⟨48,[.iv 0,.nl]⟩,some ⟨48,[.iv (ln Diner.row x1),.osl 0]⟩,some ⟨70,[.iv x37.ID,.iv x37.Phase,.sl 8 (List.map Side.row x37.Sides)]⟩,some ⟨65,[.iv x49.Peer,.iv x49.Epoch,.iv x49.State,.bv x49.Fork,.bv x49.Dirty,.bv x49.Token,.bv x49.Bottle,.bv x49.Ask]⟩],[some ⟨29,2,List.map Edge.row x48⟩]⟩:St) (by kernel_rfl) ?_
           refine Z75 57 h rfl (fun _ h=>?_) fun _ h=>?_
           ·dsimp only [go_sem]
            refine Zi5 hall hs haf hnap 6 6 [true,true,true,true,true,true,true,true,true,true,true,true,true,true,true,true,true,true,true,true,true,true,true,true,false,false,false,true,true,false,false,false] (⟨(.sl 3 (List.map Diner.row x1) :: .any :: .ptr 0 0 :: .any :: .ptr 1 0 :: .iv x35 :: .ptr 2 0 :: .iv x47 :: .ptr 3 0::an 9 (.sl 3 (List.map Diner.row x1) :: .iv (ln Diner.row x1) :: .iv x35::an 10 (.sl 8 (List.map Side.row x37.Sides) :: .iv (ln Side.row x37.Sides) :: .iv x47 :: .bv (decide (x47<(ln Side.row x37.Sides))) :: .iv x47 :: .elt [.iv x49.Peer,.iv x49.Epoch,.iv x49.State,.bv x49.Fork,.bv x49.Dirty,.bv x49.Token,.bv x49.Bottle,.bv x49.Ask] 0 :: .agg [.iv x49.Peer,.iv x49.Epoch,.iv x49.State,.bv x49.Fork,.bv x49.Dirty,.bv x49.Token,.bv x49.Bottle,.bv x49.Ask] :: .ptr 3 0 :: .iv x49.Peer :: .bv (decide (x49.Peer<0)) :: .ff :: .ptr 3 0 :: .iv x49.Peer :: .sl 3 (List.map Diner.row x1) :: .iv (ln Diner.row x1) :: .bv (decide ((ln Diner.row x1)≤x49.Peer)) :: .bv (decide ((ln Diner.row x1)≤x49.Peer)) :: .ff :: .ptr 3 0 :: .iv x49.Peer :: .iv x35 :: .bv (decide (x49.Peer=x35)) :: .bv (decide (x49.Peer=x35)) :: .ff :: .iv x47 :: .bv (decide (0<x47)) :: .tt :: .ptr 2 2 :: .sl 8 (List.map Side.row x37.Sides) :: .iv x47 :: .iv (wr (x47-1))::an 3 (.ptr 3 0 :: .iv x49.Peer::an 37 [])))),[some ⟨48,[.iv 0,.nl]⟩,some ⟨48,[.iv (ln Diner.row x1),.osl 0]⟩,some ⟨70,[.iv x37.ID,.iv x37.Phase,.sl 8 (List.map Side.row x37.Sides)]⟩,some ⟨65,[.iv x49.Peer,.iv x49.Epoch,.iv x49.State,.bv x49.Fork,.bv x49.Dirty,.bv x49.Token,.bv x49.Bottle,.bv x49.Ask]⟩],[some ⟨29,2,List.map Edge.row x48⟩]⟩:St) (by kernel_rfl) ?_
            obtain ⟨x50,ex50,h⟩:=Option.bind_eq_some_iff.1 h;refine Zr4 hall hs haf hnap 24 Side.row ex50 rfl rfl trivial rfl rfl rfl rfl ?_
            refine Zi5 hall hs haf hnap 5 0 [true,true,true,true,true,true,true,true,true,true,true,true,true,true,true,true,true,true,true,true,true,true,true,true,true,true,true,true,true,true,true,true] (⟨(.sl 3 (List.map Diner.row x1) :: .any :: .ptr 0 0 :: .any :: .ptr 1 0 :: .iv x35 :: .ptr 2 0 :: .iv x47 :: .ptr 3 0::an 9 (.sl 3 (List.map Diner.row x1) :: .iv (ln Diner.row x1) :: .iv x35::an 10 (.sl 8 (List.map Side.row x37.Sides) :: .iv (ln Side.row x37.Sides) :: .iv x47 :: .bv (decide (x47<(ln Side.row x37.Sides))) :: .iv x47 :: .elt [.iv x49.Peer,.iv x49.Epoch,.iv x49.State,.bv x49.Fork,.bv x49.Dirty,.bv x49.Token,.bv x49.Bottle,.bv x49.Ask] 0 :: .agg [.iv x49.Peer,.iv x49.Epoch,.iv x49.State,.bv x49.Fork,.bv x49.Dirty,.bv x49.Token,.bv x49.Bottle,.bv x49.Ask] :: .ptr 3 0 :: .iv x49.Peer :: .bv (decide (x49.Peer<0)) :: .ff :: .ptr 3 0 :: .iv x49.Peer :: .sl 3 (List.map Diner.row x1) :: .iv (ln Diner.row x1) :: .bv (decide ((ln Diner.row x1)≤x49.Peer)) :: .bv (decide ((ln Diner.row x1)≤x49.Peer)) :: .ff :: .ptr 3 0 :: .iv x49.Peer :: .iv x35 :: .bv (decide (x49.Peer=x35)) :: .bv (decide (x49.Peer=x35)) :: .ff :: .iv x47 :: .bv (decide (0<x47)) :: .tt :: .ptr 2 2 :: .sl 8 (List.map Side.row x37.Sides) :: .iv x47 :: .iv (wr (x47-1)) :: .elt [.iv x50.Peer,.iv x50.Epoch,.iv x50.State,.bv x50.Fork,.bv x50.Dirty,.bv x50.Token,.bv x50.Bottle,.bv x50.Ask] 0 :: .elt [.iv x50.Peer,.iv x50.Epoch,.iv x50.State,.bv x50.Fork,.bv x50.Dirty,.bv x50.Token,.bv x50.Bottle,.bv x50.Ask] 0 :: .iv x50.Peer :: .ptr 3 0 :: .iv x49.Peer :: .bv (decide (x49.Peer≤x50.Peer)) :: .bv (decide (x49.Peer≤x50.Peer)) :: .bv (decide (x49.Peer≤x50.Peer))::an 34 []))),[some ⟨48,[.iv 0,.nl]⟩,some ⟨48,[.iv (ln Diner.row x1),.osl 0]⟩,some ⟨70,[.iv x37.ID,.iv x37.Phase,.sl 8 (List.map Side.row x37.Sides)]⟩,some ⟨65,[.iv x49.Peer,.iv x49.Epoch,.iv x49.State,.bv x49.Fork,.bv x49.Dirty,.bv x49.Token,.bv x49.Bottle,.bv x49.Ask]⟩],[some ⟨29,2,List.map Edge.row x48⟩]⟩:St) (by kernel_rfl) ?_
            refine Zs3 rfl ?_ _;exact Zz4 J3 (s:=decide (x49.Peer≤x50.Peer)) h
           ·dsimp only [go_sem]
            refine Zi5 hall hs haf hnap 12 0 [true,true,true,true,true,true,true,true,true,true,true,true,true,true,true,true,true,true,true,true,true,true,true,true,true,true,true,true,true,true,true,true] (⟨(.sl 3 (List.map Diner.row x1) :: .any :: .ptr 0 0 :: .any :: .ptr 1 0 :: .iv x35 :: .ptr 2 0 :: .iv x47 :: .ptr 3 0::an 9 (.sl 3 (List.map Diner.row x1) :: .iv (ln Diner.row x1) :: .iv x35::an 10 (.sl 8 (List.map Side.row x37.Sides) :: .iv (ln Side.row x37.Sides) :: .iv x47 :: .bv (decide (x47<(ln Side.row x37.Sides))) :: .iv x47 :: .elt [.iv x49.Peer,.iv x49.Epoch,.iv x49.State,.bv x49.Fork,.bv x49.Dirty,.bv x49.Token,.bv x49.Bottle,.bv x49.Ask] 0 :: .agg [.iv x49.Peer,.iv x49.Epoch,.iv x49.State,.bv x49.Fork,.bv x49.Dirty,.bv x49.Token,.bv x49.Bottle,.bv x49.Ask] :: .ptr 3 0 :: .iv x49.Peer :: .bv (decide (x49.Peer<0)) :: .ff :: .ptr 3 0 :: .iv x49.Peer :: .sl 3 (List.map Diner.row x1) :: .iv (ln Diner.row x1) :: .bv (decide ((ln Diner.row x1)≤x49.Peer)) :: .bv (decide ((ln Diner.row x1)≤x49.Peer)) :: .ff :: .ptr 3 0 :: .iv x49.Peer :: .iv x35 :: .bv (decide (x49.Peer=x35)) :: .bv (decide (x49.Peer=x35)) :: .ff :: .iv x47 :: .bv (decide (0<x47)) :: .ff :: .un :: .un :: .un :: .un :: .un :: .un :: .un :: .un :: .un :: .un :: .ff :: .ff::an 34 []))),[some ⟨48,[.iv 0,.nl]⟩,some ⟨48,[.iv (ln Diner.row x1),.osl 0]⟩,some ⟨70,[.iv x37.ID,.iv x37.Phase,.sl 8 (List.map Side.row x37.Sides)]⟩,some ⟨65,[.iv x49.Peer,.iv x49.Epoch,.iv x49.State,.bv x49.Fork,.bv x49.Dirty,.bv x49.Token,.bv x49.Bottle,.bv x49.Ask]⟩],[some ⟨29,2,List.map Edge.row x48⟩]⟩:St) (by kernel_rfl) ?_
            refine Zs3 rfl ?_ _;exact Zz4 J3 (s:=false) h
      ·refine Zl2 1 ?_;dsimp only [e44,Zi9,Zh9,go_sem];refine ⟨by simp,?_⟩;exact Zz4 J2 (s:=x48) (Zk4 h hout2)
   ·refine Zl2 1 ?_;dsimp only [e44,Zi9,Zh9,go_sem];refine ⟨by simp,?_⟩;exact Zz4 J1 (s:=x36) (Zk4 h hout1)
def Zq9 (l:List Diner) (i:Nat) (x:Side):Bool:=
 decide (0≤x.Peer)&&(decide (x.Peer<l.length)&&(!decide (x.Peer=i)&&(match l[x.Peer.toNat]? with | some e=>(Ze9 e i).isSome | none=>false)))
def lastP (pre:List Side):Option Int:=pre.getLast?.map (·.Peer)
def riseB (p:Option Int) (x:Side):Bool:=match p with | none=>true | some q=>decide (q<x.Peer)
def Zr9 (l:List Diner) (i:Nat):Option Int→List Side→Bool
 | _,[]=>true
 | p,x::r=>riseB p x&&(Zq9 l i x&&Zr9 l i (some x.Peer) r)
def Zs9 (i:Nat) (xs:List Side):List Edge:=(xs.filter fun x=>decide ((i:Int)<x.Peer)).map fun x=>⟨i,x.Peer⟩
def Zt9 (l:List Diner):Nat→List Diner→Bool
 | _,[]=>true
 | i,d::r=>decide (d.ID=i)&&(Zr9 l i none d.Sides&&Zt9 l (i+1) r)
def Zu9:Nat→List Diner→List Edge
 | _,[]=>[]
 | i,d::r=>Zs9 i d.Sides++Zu9 (i+1) r
def Zv9:Graph:=⟨0,[]⟩
def Zw9 (l:List Diner):Graph×Bool:=if Zt9 l 0 l&&okG ⟨l.length,Zu9 0 l⟩ then (⟨l.length,Zu9 0 l⟩,true) else (Zv9,false)
theorem Zx9 (pre:List Side) (x:Side):lastP (pre++[x])=some x.Peer:=by simp [lastP]
theorem edgesD_snoc (i:Nat) (pre:List Side) (x:Side):Zs9 i (pre++[x])=if decide ((i:Int)<x.Peer) then Zs9 i pre++[⟨i,x.Peer⟩] else Zs9 i pre:=by
 unfold Zs9
 by_cases h:(i:Int)<x.Peer<;>simp [h]
theorem Zy9 (i:Nat) (xs:List Side):(Zs9 i xs).length≤xs.length:=by simp [Zs9,List.length_filter_le]
theorem Zz9:∀(a b:List Diner) (i:Nat),Zu9 i (a++b)=Zu9 i a++Zu9 (i+a.length) b
 | [],b,i=>by simp [Zu9]
 | d::a,b,i=>by simp [Zu9,Zz9 a b (i+1),Nat.add_comm,Nat.add_left_comm]
theorem Z0a:∀(l:List Diner) (i:Nat),(∀d∈l,d.Sides.length≤5000)→(Zu9 i l).length≤l.length*5000
 | [],_,_=>by simp [Zu9]
 | d::l,i,h=>by
   have h1:=Z0a l (i+1) fun e he=>h e (by simp [he])
   have h2:=h d (by simp)
   have h3:=Zy9 i d.Sides
   simp only [Zu9,List.length_append,List.length_cons]
   omega
theorem prev_step {γ:Type} {l pre post:List Side} {x:Side} (h:l=pre++x::post) (hl:l.length≤5000) (A:Bool→Option γ):
  ifb (decide (0<(pre.length:Int))) ((at_ l (wr ((pre.length:Int)-1))).bind fun y=>A (decide (x.Peer≤y.Peer))) (A false)=A (!riseB (lastP pre) x):=by
 rcases List.eq_nil_or_concat pre with rfl | ⟨q,y,rfl⟩
 ·simp [lastP,riseB]
 ·rw [List.concat_eq_append] at h ⊢
  have hy:l[q.length]?=some y:=by subst h;simp
  have hm:=Z59 h
  have e:decide (0<(((q++[y]).length:Nat):Int))=true:=decide_eq_true (by simp only [Z79];omega)
  rw [e,Zk5,Z79,wr_pred (by simp at hm;omega),Zo5 hy,Option.bind_some,Zx9,riseB,←decide_not]
  congr 2
  simp
theorem inner_len {l:List Diner} {pre post:List Diner} {d:Diner} (hl:Zd9 l) (h:l=pre++d::post):(Zu9 0 pre).length≤25000000:=by
 have h1:=Z0a pre 0 fun e he=>hl.2 e (by subst h;simp [he])
 have h2:=Z59 h
 have:=hl.1
 omega
theorem s_Graph2 (l:List Diner) (hl:Zd9 l) (i:Nat) (d:Diner) (hd:d∈l) (hi:i≤5000) (E:List Edge) (hE:E.length≤25000000):
  loop (Zn9 l i d) (0,E)=some (if Zr9 l i none d.Sides then .inl (((i+1:Nat):Int),E++Zs9 i d.Sides) else .inr (Zv9,false)):=by
 have hdl:=hl.2 d hd
 have key:=(Z29 d.Sides (Zn9 l i d) (fun pre=>((pre.length:Int),E++Zs9 i pre)) (fun pre post=>some (if Zr9 l i (lastP pre) post then .inl (((i+1:Nat):Int),E++Zs9 i (pre++post)) else .inr (Zv9,false))) ?_ ?_)
 ·rw [show Zs9 i []=[] from rfl,List.append_nil] at key;exact key
 ·intro pre x post h
  have hx:=Z49 h
  have hm:=Z59 h
  dsimp only [Zn9]
  rw [Zq5 hx,Zk5,Zo5 hx,Option.bind_some,prev_step h hdl (Zm9 l i pre.length (E++Zs9 i pre) x)]
  have bad:Zm9 l (i:Int) pre.length (E++Zs9 i pre) x true=some (.inr (.inr (Zv9,false))):=rfl
  by_cases h1:x.Peer<0
  ·right
   refine ⟨_,by rw [decide_eq_true h1,Zk5,bad],?_⟩
   have:Zq9 l i x=false:=by simp [Zq9];omega
   simp [Zr9,this]
  by_cases h2:(l.length:Int)≤x.Peer
  ·right
   refine ⟨_,by rw [decide_eq_false h1,Zl5,Z65,decide_eq_true h2,Zk5,bad],?_⟩
   have:Zq9 l i x=false:=by simp [Zq9];omega
   simp [Zr9,this]
  by_cases h3:x.Peer=i
  ·right
   refine ⟨_,by rw [decide_eq_false h1,Zl5,Z65,decide_eq_false h2,Zl5,decide_eq_true h3,Zk5,bad],?_⟩
   have:Zq9 l i x=false:=by simp [Zq9,h3]
   simp [Zr9,this]
  rw [decide_eq_false h1,Zl5,Z65,decide_eq_false h2,Zl5,decide_eq_false h3,Zl5]
  cases h4:riseB (lastP pre) x with
  | false=>
    right
    exact ⟨_,by rw [Bool.not_false,bad],by simp [Zr9,h4]⟩
  | true=>
    obtain ⟨e,he1,he2⟩:=at_lt (l:=l) (i:=x.Peer) (by omega) (by omega)
    have hes:=hl.2 e (List.mem_iff_getElem?.2 ⟨_,he2⟩)
    have hsb:Zq9 l i x=(Ze9 e i).isSome:=by
     rw [Zq9,decide_eq_true (show 0≤x.Peer by omega),decide_eq_true (show x.Peer<l.length by omega),decide_eq_false h3,he2];simp
    rw [Bool.not_true]
    dsimp only [Zm9]
    rw [Zl5,he1,Option.bind_some,s_Side e i (by omega),Option.bind_some]
    cases ho:Ze9 e i with
    | none=>
      right
      exact ⟨(.inr (Zv9,false)),rfl,by rw [ho] at hsb;simp [Zr9,hsb]⟩
    | some y=>
      left
      rw [ho] at hsb
      refine ⟨?_,by simp [Zr9,hsb,h4,Zx9]⟩
      simp only [sideP,Bool.not_true,Zl5,Zl9]
      rw [edgesD_snoc,Z79,Zs5 (by omega)]
      have:=Zy9 i pre
      by_cases h5:(i:Int)<x.Peer
      ·rw [decide_eq_true h5,Zk5,Zp5 _ _ (by omega) (by simp;omega),Option.bind_some]
       simp
      ·rw [decide_eq_false h5,Zl5];simp
 ·dsimp only [Zn9]
  rw [Zr5,Zl5,Zk9,Zs5 (by omega)]
  simp [Zr9]
theorem s_Graph (l:List Diner) (hl:Zd9 l):Zp9 l=some (Zw9 l):=by
 unfold Zp9
 by_cases h64:64<l.length
 ·have:okG ⟨l.length,Zu9 0 l⟩=false:=by simp [okG];omega
  rw [Z65,decide_eq_true (by omega),Zk5]
  simp [Zw9,this,Zv9]
 rw [Z65,decide_eq_false (by omega),Zl5]
 refine (Z29 l (Zo9 l) (fun pre=>((pre.length:Int),Zu9 0 pre)) (fun pre post=>some (if Zt9 l pre.length post&&okG ⟨l.length,Zu9 0 (pre++post)⟩ then (⟨l.length,Zu9 0 (pre++post)⟩,true) else (Zv9,false))) ?_ ?_).trans rfl
 ·intro pre d post h
  have hx:=Z49 h
  have hm:=Z59 h
  have hd:=mid_mem h
  dsimp only [Zo9]
  rw [Zq5 hx,Zk5,Zo5 hx,Option.bind_some,Zm5]
  by_cases h1:d.ID=pre.length
  ·rw [decide_eq_true h1,Zk5,s_Graph2 l hl pre.length d hd (by omega) _ (inner_len hl h)]
   cases h2:Zr9 l pre.length none d.Sides with
   | true=>left;exact ⟨by rw [if_pos rfl,Z79,Zz9];simp [Zu9],by simp [Zt9,h1,h2]⟩
   | false=>right;exact ⟨_,rfl,by simp [Zt9,h2]⟩
  ·right
   exact ⟨_,by rw [decide_eq_false h1,Zl5];rfl,by simp [Zt9,h1,Zv9]⟩
 ·dsimp only [Zo9]
  rw [Zr5,Zl5,Zj9,Z65,Zo7,Option.bind_some]
  simp only [Zt9,List.append_nil,Bool.true_and]
  cases okG ⟨l.length,Zu9 0 l⟩<;>rfl
theorem Z1a (l:List Diner) (i:Nat):∀(xs:List Side) (p:Option Int),Zr9 l i p xs=true↔(∀x∈xs,Zq9 l i x=true)∧xs.Pairwise (fun x y=>x.Peer<y.Peer)∧∀q,p=some q→∀x∈xs,q<x.Peer
 | [],p=>by simp [Zr9]
 | x::r,p=>by
   simp only [Zr9,Bool.and_eq_true,Z1a l i r (some x.Peer)]
   constructor
   ·rintro ⟨h1,h2,h3,h4,h5⟩
    refine ⟨fun y hy=>?_,List.pairwise_cons.2 ⟨fun y hy=>h5 _ rfl y hy,h4⟩,?_⟩
    ·rcases List.mem_cons.1 hy with rfl | hy
     ·exact h2
     ·exact h3 y hy
    ·rintro q rfl y hy
     have hq:q<x.Peer:=by simpa [riseB] using h1
     rcases List.mem_cons.1 hy with rfl | hy
     ·exact hq
     ·have:=h5 _ rfl y hy;omega
   ·rintro ⟨h1,h2,h3⟩
    rw [List.pairwise_cons] at h2
    refine ⟨?_,h1 x (by simp),fun y hy=>h1 y (by simp [hy]),h2.2,?_⟩
    ·cases p with
     | none=>rfl
     | some q=>simpa [riseB] using h3 q rfl x (by simp)
    ·rintro q e y hy
     simp at e;subst e;exact h2.1 y hy
theorem Z2a (l:List Diner):∀(r:List Diner) (i:Nat),Zt9 l i r=true↔∀k d,r[k]?=some d→d.ID=((i+k:Nat):Int)∧Zr9 l (i+k) none d.Sides=true
 | [],i=>by simp [Zt9]
 | d::r,i=>by
   simp only [Zt9,Bool.and_eq_true,decide_eq_true_eq,Z2a l r (i+1)]
   constructor
   ·rintro ⟨h1,h2,h3⟩ k e he
    cases k with
    | zero=>simp at he;subst he;exact ⟨by simpa using h1,by simpa using h2⟩
    | succ k=>
      have:=h3 k e (by simpa using he)
      rw [show i+(k+1)=i+1+k by omega];exact this
   ·intro h
    refine ⟨by simpa using (h 0 d (by simp)).1,by simpa using (h 0 d (by simp)).2,fun k e he=>?_⟩
    have:=h (k+1) e (by simpa using he)
    rw [show i+1+k=i+(k+1) by omega];exact this
theorem Z3a {i:Nat} {xs:List Side} {e:Edge}:e∈Zs9 i xs↔e.A=i∧(i:Int)<e.B∧∃x∈xs,x.Peer=e.B:=by
 unfold Zs9
 simp only [List.mem_map,List.mem_filter,decide_eq_true_eq]
 constructor
 ·rintro ⟨x,⟨h1,h2⟩,rfl⟩;exact ⟨rfl,h2,x,h1,rfl⟩
 ·rintro ⟨h1,h2,x,h3,h4⟩
  obtain ⟨a,b⟩:=e
  dsimp only at *
  subst h1;subst h4;exact ⟨x,⟨h3,h2⟩,rfl⟩
theorem Z4a:∀ {r:List Diner} {i:Nat} {e:Edge},e∈Zu9 i r↔∃k d,r[k]?=some d∧e∈Zs9 (i+k) d.Sides
 | [],i,e=>by simp [Zu9]
 | d::r,i,e=>by
   simp only [Zu9,List.mem_append,Z4a (r:=r)]
   constructor
   ·rintro (h | ⟨k,f,h1,h2⟩)
    ·exact ⟨0,d,by simp,by simpa using h⟩
    ·exact ⟨k+1,f,by simpa using h1,by rw [show i+(k+1)=i+1+k by omega];exact h2⟩
   ·rintro ⟨k,f,h1,h2⟩
    cases k with
    | zero=>simp at h1;subst h1;exact .inl (by simpa using h2)
    | succ k=>exact .inr ⟨k,f,by simpa using h1,by rw [show i+1+k=i+(k+1) by omega];exact h2⟩
theorem edgesD_pw {i:Nat} {xs:List Side} (h:xs.Pairwise fun x y=>x.Peer<y.Peer):(Zs9 i xs).Pairwise fun x y=>x.lt y=true:=by
 unfold Zs9
 rw [List.pairwise_map]
 refine (List.Pairwise.filter _ h).imp fun hxy=>?_
 simp [Edge.lt,hxy]
theorem edgesL_pw:∀ {r:List Diner} {i:Nat},(∀d∈r,d.Sides.Pairwise fun x y=>x.Peer<y.Peer)→(Zu9 i r).Pairwise fun x y=>x.lt y=true
 | [],_,_=>List.Pairwise.nil
 | d::r,i,h=>by
   simp only [Zu9]
   rw [List.pairwise_append]
   refine ⟨edgesD_pw (h d (by simp)),edgesL_pw fun e he=>h e (by simp [he]),fun x hx y hy=>?_⟩
   obtain ⟨h1,_,_⟩:=Z3a.1 hx
   obtain ⟨k,e,_,hy⟩:=Z4a.1 hy
   obtain ⟨h2,_,_⟩:=Z3a.1 hy
   have:x.A<y.A:=by rw [h1,h2];omega
   simp [Edge.lt,this]
set_option maxRecDepth 100000
set_option maxHeartbeats 4000000
def e112:EC:=.seq (.reg [(Qa 2 (.mv (.c .ff)))]) (.seq (.reg [(Qa 3 (.mv (.t 0))),(Qa 4 (.bin .lss (.t 3) (.c (.iv 1)))),(Qa 2 (.mv (.t 4)))]) (.ret))
theorem ok112:FnOK Tryz.prog 112 Tryz.f112 e112 [.t 2] 1 4:=⟨by kernel_rfl,⟨_,rfl,by kernel_rfl⟩,by kernel_rfl,by kernel_rfl⟩
noncomputable def Z5a (x1:Int):Option Bool:=
 some (decide (x1<1))
theorem Z6a (x1:Int) (r:Bool) (h:Z5a x1=some r):Zq2 Tryz.prog 112 [.iv x1] (.bv r):=by
 refine Zu2 ok112 rfl rfl fun w0 H0=>?_
 rw [Z5a] at h
 refine Zl2 10 ?_;dsimp only [e112,go_sem];refine ⟨by simp,?_⟩;exact Zx4 (res:=fun (r:Bool)=>.bv r) ok112 h
set_option maxRecDepth 100000
set_option maxHeartbeats 4000000
def e113:EC:=.seq (.reg [(Qa 2 (.box 29 2 (.t 0))),(Qa 3 (.mv (.c .ff)))]) (.seq (.drw [(Qa 4 (.load (.t 1))),(Qa 5 (.fld 0 (.t 2))),(Qa 6 (.load (.t 5))),(Qa 7 (.idx 1 (.t 4) (.t 6))),(Qa 8 (.load (.t 7))),(Qa 9 (.load (.t 1))),(Qa 10 (.fld 1 (.t 2))),(Qa 11 (.load (.t 10))),(Qa 12 (.idx 1 (.t 9) (.t 11))),(Qa 13 (.load (.t 12))),(Qa 14 (.bin .eql (.t 8) (.t 13))),(Qa 3 (.mv (.t 14)))] [[],[],[1],[0,2],[3],[],[],[6],[5,7],[8],[4,9],[10,0,1,2,3,4,5,6,7,8,9,10]] [[3],[2],[1,3],[0,2,4],[3,10],[8],[7],[6,8],[5,7,9],[8,10],[4,9,11],[10]]) (.ret))
theorem ok113:FnOK Tryz.prog 113 Tryz.f113 e113 [.t 3] 2 13:=⟨by kernel_rfl,⟨_,rfl,by kernel_rfl⟩,by kernel_rfl,by kernel_rfl⟩
noncomputable def Z7a (x1:Edge) (x2:(List Int)):Option Bool:=
 (at_ x2 x1.A).bind fun x3=>
 (at_ x2 x1.B).bind fun x4=>
 some (decide (x3=x4))
theorem Z8a (x1:Edge) (x2:(List Int)) (r:Bool) (h:Z7a x1 x2=some r):Zq2 Tryz.prog 113 [.agg (Edge.row x1),.elt ((Z55 1 Z45) x2) 0] (.bv r):=by
 refine Zu2 ok113 rfl rfl fun w0 H0=>?_
 rw [Z7a] at h
 refine Zl2 6 ?_;dsimp only [e113,go_sem];refine ⟨by simp,?_⟩;refine Zh3 (by kernel_rfl) fun all hall hs hnap haf=>?_;dsimp only [go_sem];refine Zi5 hall hs haf hnap 6 6 [true,true,true,false,false,true,true,true,false,false,false,false] (⟨[.agg [.iv x1.A,.iv x1.B],.elt [.sl 1 (List.map Z45 x2)] 0,.ptr 0 0,.ff,.sl 1 (List.map Z45 x2),.ptr 0 0,.iv x1.A,.un,.un,.sl 1 (List.map Z45 x2),.ptr 0 1,.iv x1.B,.un,.un,.un],[some ⟨29,[.iv x1.A,.iv x1.B]⟩],[]⟩:St) (by kernel_rfl) ?_;obtain ⟨x3,ex3,h⟩:=Option.bind_eq_some_iff.1 h
 refine Zr4 hall hs haf hnap 3 Z45 ex3 rfl rfl trivial rfl rfl rfl rfl ?_;refine Zh5 hall hs haf hnap 1 4 ?_;dsimp only [go_sem];refine ⟨by simp,?_⟩;obtain ⟨x4,ex4,h⟩:=Option.bind_eq_some_iff.1 h;refine Zr4 hall hs haf hnap 8 Z45 ex4 rfl rfl trivial rfl rfl rfl rfl ?_;refine Zh5 hall hs haf hnap 3 0 ?_;dsimp only [go_sem];refine ⟨by simp,?_⟩;refine Zs3 rfl ?_ _;exact Zx4 (res:=fun (r:Bool)=>.bv r) ok113 h
set_option maxRecDepth 100000
set_option maxHeartbeats 4000000
def e87:EC:=.seq (.reg [(Qa 2 (.box 48 2 (.t 0))),(Qa 3 (.box 43 1 (.t 1))),(Qa 4 (.mv (.c .ff)))]) (.seq (.seq (.reg [(Qa 5 (.loadA 2 (.t 2))),(Qa 6 (.call 80 [(.t 5)])),(Qa 7 (.bin .neq (.t 6) (.c (.iv 0)))),(Qa 8 (.mv (.t 7))),(Qg 9 8 false (.load (.t 3))),(Qg 10 8 false (.len (.t 9))),(Qg 11 8 false (.fld 0 (.t 2))),(Qg 12 8 false (.load (.t 11))),(Qg 13 8 false (.bin .neq (.t 10) (.t 12))),(Qa 14 (.pick (.t 8) (.c .tt) (.t 13))),(Qa 15 (.mv (.t 14))),(Qg 16 15 false (.load (.t 3))),(Qg 17 15 false (.call 107 [(.t 16),(.c (.clo 112 []))])),(Qa 18 (.pick (.t 15) (.c .tt) (.t 17)))]) (.ite (.t 18) (.seq (.reg [(Qa 4 (.mv (.c .ff)))]) (.ret)) (.skip))) (.seq (.reg [(Qa 19 (.fld 1 (.t 2))),(Qa 20 (.load (.t 19))),(Qa 21 (.mkf 113 [(.t 3)])),(Qa 22 (.call 104 [(.t 20),(.t 21)])),(Qa 23 (.not (.t 22))),(Qa 4 (.mv (.t 23)))]) (.ret)))
theorem ok87:FnOK Tryz.prog 87 Tryz.f87 e87 [.t 4] 2 22:=⟨by kernel_rfl,⟨_,rfl,by kernel_rfl⟩,by kernel_rfl,by kernel_rfl⟩
noncomputable def Z9a (x1:Graph) (x2:(List Int)):Bool→Option Bool
| x5=>
 ifb x5 (
 some false) (
 (Zl6 x1.Edges ((fun z=>Z7a z x2))).bind fun x6=>
 some (!x6))
noncomputable def Zaa (x1:Graph) (x2:(List Int)):Option Bool:=
 (Z97 x1).bind fun x3=>
 ifb (!decide (x3=0)) (
 (Z9a x1 x2) true) (
 ifb (!decide ((ln Z45 x2)=x1.N)) (
 (Z9a x1 x2) true) (
 (Zg7 x2 ((fun z=>Z5a z))).bind fun x4=>
 (Z9a x1 x2) x4))
theorem Zba (x1:Graph) (x2:(List Int)) (r:Bool) (h:Zaa x1 x2=some r):Zq2 Tryz.prog 87 [.agg (Graph.row x1),.sl 1 (List.map Z45 x2)] (.bv r):=by
 refine Zu2 ok87 rfl rfl fun w0 H0=>?_
 rw [Zaa] at h
 refine Zl2 10 ?_;dsimp only [e87,go_sem];refine ⟨by simp,?_⟩;obtain ⟨x3,ex3,h⟩:=Option.bind_eq_some_iff.1 h;refine Zz2 trivial (Za7 x1 _ ex3) (h:=?_);refine Zl2 2 ?_;dsimp only [e87,go_sem];refine ⟨by simp,?_⟩;refine Zl4 (fun (x5:Bool)=>(⟨(.any :: .any :: .ptr 0 0 :: .ptr 1 0::an 14 (.bv x5::an 5 [])),[some ⟨48,[.iv x1.N,.sl 2 (List.map Edge.row x1.Edges)]⟩,some ⟨43,[.sl 1 (List.map Z45 x2)]⟩],[]⟩:St)) (Z9a x1 x2) r ?_ fun J1=>?_
 ·intro x5 h;rw [Z9a] at h;(try dsimp only);refine Zn4 h rfl (fun _ h=>?_) fun _ h=>?_
  ·refine Zl2 4 ?_;dsimp only [e87,go_sem];refine ⟨by simp,?_⟩;exact Zx4 (res:=fun (r:Bool)=>.bv r) ok87 h
  ·refine Zl2 6 ?_;dsimp only [e87,go_sem];refine ⟨by simp,?_⟩;obtain ⟨x6,ex6,h⟩:=Option.bind_eq_some_iff.1 h;refine Z25 trivial ((Z05.refl _).block 1 rfl rfl) (Zm6 x1.Edges _ _ ((fun z=>Z7a z x2)) ⟨by kernel_rfl,rfl,fun z r hz=>Z8a z x2 r hz⟩ _ ex6) (h:=?_);refine Zl2 3 ?_;dsimp only [e87,go_sem];refine ⟨by simp,?_⟩;exact Zx4 (res:=fun (r:Bool)=>.bv r) ok87 h
 ·refine Zw4 8 h rfl (fun _ h=>?_) fun _ h=>?_
  ·dsimp only [go_sem];refine Zl2 11 ?_;dsimp only [e87,go_sem];refine ⟨by simp,?_⟩;exact Zz4 J1 (s:=true) h
  ·dsimp only [go_sem];refine Zl2 7 ?_;dsimp only [e87,go_sem];refine ⟨by simp,?_⟩;refine Zw4 15 h rfl (fun _ h=>?_) fun _ h=>?_
   ·dsimp only [go_sem];refine Zl2 4 ?_;dsimp only [e87,go_sem];refine ⟨by simp,?_⟩;exact Zz4 J1 (s:=true) h
   ·dsimp only [go_sem];refine Zl2 1 ?_;dsimp only [e87,go_sem];refine ⟨by simp,?_⟩;obtain ⟨x4,ex4,h⟩:=Option.bind_eq_some_iff.1 h;refine Zz2 trivial (Zh7 x2 _ _ ((fun z=>Z5a z)) ⟨by kernel_rfl,rfl,fun z r hz=>Z6a z r hz⟩ _ ex4) (h:=?_);refine Zl2 2 ?_;dsimp only [e87,go_sem];refine ⟨by simp,?_⟩;exact Zz4 J1 (s:=x4) h
set_option maxRecDepth 100000
set_option maxHeartbeats 4000000
def e57:EC:=.seq (.reg [(Qa 2 (.box 29 2 (.t 0))),(Qa 3 (.box 29 2 (.t 1))),(Qa 4 (.mv (.c .ff)))]) (.seq (.reg [(Qa 5 (.fld 0 (.t 2))),(Qa 6 (.load (.t 5))),(Qa 7 (.fld 0 (.t 3))),(Qa 8 (.load (.t 7))),(Qa 9 (.bin .lss (.t 6) (.t 8))),(Qa 10 (.mv (.t 9))),(Qg 11 10 false (.fld 0 (.t 2))),(Qg 12 10 false (.load (.t 11))),(Qg 13 10 false (.fld 0 (.t 3))),(Qg 14 10 false (.load (.t 13))),(Qg 15 10 false (.bin .eql (.t 12) (.t 14))),(Qg 16 10 false (.mv (.t 15))),(Qg 17 16 true (.fld 1 (.t 2))),(Qg 18 16 true (.load (.t 17))),(Qg 19 16 true (.fld 1 (.t 3))),(Qg 20 16 true (.load (.t 19))),(Qg 21 16 true (.bin .lss (.t 18) (.t 20))),(Qg 22 10 false (.pick (.t 16) (.t 21) (.c .ff))),(Qa 23 (.pick (.t 10) (.c .tt) (.t 22))),(Qa 4 (.mv (.t 23)))]) (.ret))
theorem ok57:FnOK Tryz.prog 57 Tryz.f57 e57 [.t 4] 2 22:=⟨by kernel_rfl,⟨_,rfl,by kernel_rfl⟩,by kernel_rfl,by kernel_rfl⟩
noncomputable def Zca:Bool→Option Bool
| x3=>
 some x3
noncomputable def Zda (x1:Edge) (x2:Edge):Option Bool:=
 ifb (decide (x1.A<x2.A)) (
 Zca true) (
 ifb (decide (x1.A=x2.A)) (
 Zca (decide (x1.B<x2.B))) (
 Zca false))
theorem Zea (x1:Edge) (x2:Edge) (r:Bool) (h:Zda x1 x2=some r):Zq2 Tryz.prog 57 [.agg (Edge.row x1),.agg (Edge.row x2)] (.bv r):=by
 refine Zu2 ok57 rfl rfl fun w0 H0=>?_
 rw [Zda] at h
 refine Zl2 14 ?_;dsimp only [e57,go_sem];refine ⟨by simp,?_⟩;refine Zl4 (fun (x3:Bool)=>(⟨(an 4 (.bv x3::an 19 [])),[],[]⟩:St)) Zca r ?_ fun J1=>?_
 ·intro x3 h;rw [Zca] at h;(try dsimp only);exact Zx4 (res:=fun (r:Bool)=>.bv r) ok57 h
 ·refine Zw4 10 h rfl (fun _ h=>?_) fun _ h=>?_
  ·dsimp only [go_sem];refine Zl2 15 ?_;dsimp only [e57,go_sem];refine ⟨by simp,?_⟩;exact Zz4 J1 (s:=true) h
  ·dsimp only [go_sem];refine Zl2 6 ?_;dsimp only [e57,go_sem];refine ⟨by simp,?_⟩;refine Zw4 16 h rfl (fun _ h=>?_) fun _ h=>?_
   ·dsimp only [go_sem];refine Zl2 9 ?_;dsimp only [e57,go_sem];refine ⟨by simp,?_⟩;exact Zz4 J1 (s:=decide (x1.B<x2.B)) h
   ·dsimp only [go_sem];refine Zl2 9 ?_;dsimp only [e57,go_sem];refine ⟨by simp,?_⟩;exact Zz4 J1 (s:=false) h
set_option maxRecDepth 100000
set_option maxHeartbeats 4000000
def Zfa:EC:=.seq (.seq (.reg [(Qa 19 (.mv (.t 3))),(Qa 20 (.fld 1 (.t 1))),(Qa 21 (.load (.t 20))),(Qa 22 (.len (.t 21))),(Qa 23 (.bin .lss (.t 19) (.t 22)))]) (.ite (.t 23) (.skip) (.exit 0))) (.seq (.blk 1 (.seq (.reg [(Qa 26 (.fld 1 (.t 1))),(Qa 27 (.load (.t 26))),(Qa 28 (.mv (.t 3))),(Qa 29 (.idx 2 (.t 27) (.t 28))),(Qa 30 (.loadA 2 (.t 29))),(Qa 4 (.alloc 29 [.iv 0,.iv 0])),(Qb (.store 2 (.t 4) (.t 30)))]) (.seq (.drw [(Qa 31 (.fld 0 (.t 4))),(Qa 32 (.load (.t 31))),(Qa 33 (.bin .lss (.t 32) (.c (.iv 0)))),(Qa 34 (.mv (.t 33))),(Qg 35 34 false (.fld 0 (.t 4))),(Qg 36 34 false (.load (.t 35))),(Qg 37 34 false (.fld 1 (.t 4))),(Qg 38 34 false (.load (.t 37))),(Qg 39 34 false (.bin .geq (.t 36) (.t 38))),(Qa 40 (.pick (.t 34) (.c .tt) (.t 39))),(Qa 41 (.mv (.t 40))),(Qg 42 41 false (.fld 1 (.t 4))),(Qg 43 41 false (.load (.t 42))),(Qg 44 41 false (.fld 0 (.t 1))),(Qg 45 41 false (.load (.t 44))),(Qg 46 41 false (.bin .geq (.t 43) (.t 45))),(Qa 47 (.pick (.t 41) (.c .tt) (.t 46))),(Qa 48 (.mv (.t 47))),(Qg 49 48 false (.mv (.t 3))),(Qg 50 48 false (.bin .gtr (.t 49) (.c (.iv 0)))),(Qg 51 48 false (.mv (.t 50))),(Qg 52 51 true (.fld 1 (.t 1))),(Qg 53 51 true (.load (.t 52))),(Qg 54 51 true (.mv (.t 3))),(Qg 55 51 true (.bin .sub (.t 54) (.c (.iv 1)))),(Qg 56 51 true (.idx 2 (.t 53) (.t 55))),(Qg 57 51 true (.loadA 2 (.t 56))),(Qg 58 51 true (.loadA 2 (.t 4))),(Qg 59 51 true (.call 57 [(.t 57),(.t 58)])),(Qg 60 51 true (.not (.t 59))),(Qg 61 48 false (.pick (.t 51) (.t 60) (.c .ff))),(Qa 62 (.pick (.t 48) (.c .tt) (.t 61)))] [[],[0],[1],[2],[3],[4,3],[3],[6,3],[5,7,3],[3,8],[9,3],[10],[11,10],[10],[13,10],[12,14,10],[10,15],[16,10],[17],[18,17],[19,17,17],[20],[21,20],[20],[23,20],[22,24,20],[25,20],[20],[26,27,20,20],[28,20],[20,29,17],[17,30]] [[1],[0,2],[1,3],[2,4,5,6,7,8,9],[3,5],[3,4,8],[3,7],[3,6,8],[3,5,7,9],[3,8,10],[9,11,12,13,14,15,16],[10,12],[10,11,15],[10,14],[10,13,15],[10,12,14,16],[10,15,17],[16,18,19,20,30,31],[17,19],[17,18,20],[17,19,21,22,23,24,25,26,27,28,29,30],[20,22],[20,21,25],[20,24],[20,23,25],[20,22,24,26],[20,25,28],[20,28],[20,26,27,29],[20,28,30],[17,20,29,31],[17,30]]) (.ite (.t 62) (.seq (.reg [(Qa 2 (.mv (.c .ff)))]) (.ret)) (.skip))))) (.reg [(Qa 24 (.mv (.t 3))),(Qa 25 (.bin .add (.t 24) (.c (.iv 1)))),(Qa 3 (.mv (.t 25)))]))
def e22:EC:=.seq (.reg [(Qa 1 (.box 48 2 (.t 0))),(Qa 2 (.mv (.c .ff)))]) (.seq (.seq (.reg [(Qa 5 (.fld 0 (.t 1))),(Qa 6 (.load (.t 5))),(Qa 7 (.bin .lss (.t 6) (.c (.iv 0)))),(Qa 8 (.mv (.t 7))),(Qg 9 8 false (.fld 0 (.t 1))),(Qg 10 8 false (.load (.t 9))),(Qg 11 8 false (.bin .gtr (.t 10) (.c (.iv 64)))),(Qa 12 (.pick (.t 8) (.c .tt) (.t 11))),(Qa 13 (.mv (.t 12))),(Qg 14 13 false (.fld 1 (.t 1))),(Qg 15 13 false (.load (.t 14))),(Qg 16 13 false (.len (.t 15))),(Qg 17 13 false (.bin .gtr (.t 16) (.c (.iv 400)))),(Qa 18 (.pick (.t 13) (.c .tt) (.t 17)))]) (.ite (.t 18) (.seq (.reg [(Qa 2 (.mv (.c .ff)))]) (.ret)) (.skip))) (.seq (.seq (.reg [(Qa 3 (.mv (.c (.iv 0))))]) (.blk 0 (.loop Zfa))) (.seq (.reg [(Qa 2 (.mv (.c .tt)))]) (.ret))))
theorem ok22:FnOK Tryz.prog 22 Tryz.f22 e22 [.t 2] 1 62:=⟨by kernel_rfl,⟨_,rfl,by kernel_rfl⟩,by kernel_rfl,by kernel_rfl⟩
noncomputable def Zga:Unit→Option Bool
| ()=>
 some true
noncomputable def Zha (x8:Int):Bool→Option (Int ⊕ Bool)
| x12=>
 ifb x12 (
 Option.map Sum.inr (some false)) (
 some (.inl (wr (x8+1))))
noncomputable def Zia (x1:Graph):Int→Option (Int ⊕ Bool)
| x8=>
 ifb (decide (x8<(ln Edge.row x1.Edges))) (
 (at_ x1.Edges x8).bind fun x9=>
 ifb (decide (x9.A<0)) (
 (Zha x8) true) (
 ifb (decide (x9.B≤x9.A)) (
 (Zha x8) true) (
 ifb (decide (x1.N≤x9.B)) (
 (Zha x8) true) (
 ifb (decide (0<x8)) (
 (at_ x1.Edges (wr (x8-1))).bind fun x10=>
 (Zda x10 x9).bind fun x11=>
 (Zha x8) (!x11)) (
 (Zha x8) false))))) (
 Option.map Sum.inr (Zga ()))
noncomputable def Zja (x1:Graph):Bool→Option Bool
| x2=>
 ifb x2 (
 some false) (
 loop (Zia x1) 0)
noncomputable def Zka (x1:Graph):Option Bool:=
 ifb (decide (x1.N<0)) (
 (Zja x1) true) (
 ifb (decide (64<x1.N)) (
 (Zja x1) true) (
 (Zja x1) (decide (400<(ln Edge.row x1.Edges)))))
theorem Zla (x1:Graph) (r:Bool) (h:Zka x1=some r):Zq2 Tryz.prog 22 [.agg (Graph.row x1)] (.bv r):=by
 refine Zu2 ok22 rfl rfl fun w0 H0=>?_
 rw [Zka] at h
 refine Zl2 12 ?_;dsimp only [e22,Zfa,go_sem];refine ⟨by simp,?_⟩;refine Zl4 (fun (x2:Bool)=>(⟨(.any :: .ptr 0 0::an 16 (.bv x2::an 44 [])),[some ⟨48,[.iv x1.N,.sl 2 (List.map Edge.row x1.Edges)]⟩],[]⟩:St)) (Zja x1) r ?_ fun J1=>?_
 ·intro x2 h;rw [Zja] at h;(try dsimp only);refine Zn4 h rfl (fun _ h=>?_) fun _ h=>?_
  ·refine Zl2 4 ?_;dsimp only [e22,Zfa,go_sem];refine ⟨by simp,?_⟩;exact Zx4 (res:=fun (r:Bool)=>.bv r) ok22 h
  ·refine Zl2 6 ?_;dsimp only [e22,Zfa,go_sem];refine ⟨by simp,?_⟩;refine Zl4 (fun (_:Unit)=>(⟨(an 63 []),[],[]⟩:St)) Zga r ?_ fun J2=>?_
   ·rintro ⟨⟩ h;rw [Zga] at h;(try dsimp only);refine Zl2 4 ?_;dsimp only [e22,Zfa,go_sem];refine ⟨by simp,?_⟩;exact Zx4 (res:=fun (r:Bool)=>.bv r) ok22 h
   ·refine Zl2 1 ?_;dsimp only [e22,Zfa,go_sem];refine ⟨by simp,?_⟩;refine Zm4 h (fun (x8:Int)=>(⟨(.any :: .ptr 0 0 :: .any :: .iv x8::an 59 []),[some ⟨48,[.iv x1.N,.sl 2 (List.map Edge.row x1.Edges)]⟩],[]⟩:St)) (by simp [go_sem]) (by intro x8;first | rfl | simp [go_sem]) ?_;rintro n1 x8 y1 h hin1 hout1;rw [Zia] at h;(try dsimp only);refine Zl2 9 ?_;dsimp only [e22,Zfa,go_sem];refine ⟨by simp,?_⟩;refine Zn4 h rfl (fun _ h=>?_) fun _ h=>?_
    ·refine Zl2 8 ?_;dsimp only [e22,Zfa,go_sem];refine ⟨by simp,?_⟩;obtain ⟨x9,ex9,h⟩:=Option.bind_eq_some_iff.1 h;refine Zq4 Edge.row ex9 trivial rfl rfl rfl ?_;refine Zl2 5 ?_;dsimp only [e22,Zfa,go_sem];refine ⟨by simp,?_⟩;refine Zl4 (fun (x12:Bool)=>(⟨(.any :: .ptr 0 0 :: .any :: .iv x8::an 58 [.bv x12]),[some ⟨48,[.iv x1.N,.sl 2 (List.map Edge.row x1.Edges)]⟩],[]⟩:St)) (Zha x8) y1 ?_ fun J3=>?_
     ·intro x12 h;rw [Zha] at h;(try dsimp only);refine Zn4 h rfl (fun _ h=>?_) fun _ h=>?_
      ·refine Zl2 4 ?_;dsimp only [e22,Zfa,go_sem];refine ⟨by simp,?_⟩;exact Zx4 (res:=fun (r:Bool)=>.bv r) ok22 (Zk4 h hout1)
      ·refine Zl2 7 ?_;dsimp only [e22,Zfa,go_sem];refine ⟨by simp,?_⟩;exact Zy4 h hin1
     ·refine Zh3 (by kernel_rfl) fun all hall hs hnap haf=>?_;dsimp only [go_sem]
      refine Zi5 hall hs haf hnap 4 28 [true,true,true,true,false,false,false,false,false,false,false,false,false,false,false,false,false,false,false,false,false,false,false,false,false,false,false,false,false,false,false,false] (⟨(.any :: .ptr 0 0 :: .any :: .iv x8 :: .ptr 1 0::an 14 (.iv x8 :: .ptr 0 1 :: .sl 2 (List.map Edge.row x1.Edges) :: .iv (ln Edge.row x1.Edges) :: .bv (decide (x8<(ln Edge.row x1.Edges))) :: .any :: .any :: .ptr 0 1 :: .sl 2 (List.map Edge.row x1.Edges) :: .iv x8 :: .elt [.iv x9.A,.iv x9.B] 0 :: .agg [.iv x9.A,.iv x9.B] :: .ptr 1 0 :: .iv x9.A :: .bv (decide (x9.A<0)) :: .bv (decide (x9.A<0))::an 28 [])),[some ⟨48,[.iv x1.N,.sl 2 (List.map Edge.row x1.Edges)]⟩,some ⟨29,[.iv x9.A,.iv x9.B]⟩],[]⟩:St) (by kernel_rfl) ?_
      refine Z75 34 h rfl (fun _ h=>?_) fun _ h=>?_
      ·dsimp only [go_sem]
       refine Zi5 hall hs haf hnap 28 0 [true,true,true,true,true,true,true,true,true,true,true,true,true,true,true,true,true,true,true,true,true,true,true,true,true,true,true,true,true,true,true,true] (⟨(.any :: .ptr 0 0 :: .any :: .iv x8 :: .ptr 1 0::an 14 (.iv x8 :: .ptr 0 1 :: .sl 2 (List.map Edge.row x1.Edges) :: .iv (ln Edge.row x1.Edges) :: .bv (decide (x8<(ln Edge.row x1.Edges))) :: .any :: .any :: .ptr 0 1 :: .sl 2 (List.map Edge.row x1.Edges) :: .iv x8 :: .elt [.iv x9.A,.iv x9.B] 0 :: .agg [.iv x9.A,.iv x9.B] :: .ptr 1 0 :: .iv x9.A :: .bv (decide (x9.A<0)) :: .tt :: .un :: .un :: .un :: .un :: .un :: .tt :: .tt :: .un :: .un :: .un :: .un :: .un :: .tt :: .tt :: .un :: .un :: .un :: .un :: .un :: .un :: .un :: .un :: .un :: .un :: .un :: .un :: .un :: .tt::[])),[some ⟨48,[.iv x1.N,.sl 2 (List.map Edge.row x1.Edges)]⟩,some ⟨29,[.iv x9.A,.iv x9.B]⟩],[]⟩:St) (by kernel_rfl) ?_
       refine Zs3 rfl ?_ _;exact Zz4 J3 (s:=true) h
      ·dsimp only [go_sem]
       refine Zi5 hall hs haf hnap 7 21 [true,true,true,true,true,true,true,true,true,true,true,false,false,false,false,false,false,false,false,false,false,false,false,false,false,false,false,false,false,false,false,false] (⟨(.any :: .ptr 0 0 :: .any :: .iv x8 :: .ptr 1 0::an 14 (.iv x8 :: .ptr 0 1 :: .sl 2 (List.map Edge.row x1.Edges) :: .iv (ln Edge.row x1.Edges) :: .bv (decide (x8<(ln Edge.row x1.Edges))) :: .any :: .any :: .ptr 0 1 :: .sl 2 (List.map Edge.row x1.Edges) :: .iv x8 :: .elt [.iv x9.A,.iv x9.B] 0 :: .agg [.iv x9.A,.iv x9.B] :: .ptr 1 0 :: .iv x9.A :: .bv (decide (x9.A<0)) :: .ff :: .ptr 1 0 :: .iv x9.A :: .ptr 1 1 :: .iv x9.B :: .bv (decide (x9.B≤x9.A)) :: .bv (decide (x9.B≤x9.A)) :: .bv (decide (x9.B≤x9.A))::an 21 [])),[some ⟨48,[.iv x1.N,.sl 2 (List.map Edge.row x1.Edges)]⟩,some ⟨29,[.iv x9.A,.iv x9.B]⟩],[]⟩:St) (by kernel_rfl) ?_
       refine Z75 41 h rfl (fun _ h=>?_) fun _ h=>?_
       ·dsimp only [go_sem]
        refine Zi5 hall hs haf hnap 21 0 [true,true,true,true,true,true,true,true,true,true,true,true,true,true,true,true,true,true,true,true,true,true,true,true,true,true,true,true,true,true,true,true] (⟨(.any :: .ptr 0 0 :: .any :: .iv x8 :: .ptr 1 0::an 14 (.iv x8 :: .ptr 0 1 :: .sl 2 (List.map Edge.row x1.Edges) :: .iv (ln Edge.row x1.Edges) :: .bv (decide (x8<(ln Edge.row x1.Edges))) :: .any :: .any :: .ptr 0 1 :: .sl 2 (List.map Edge.row x1.Edges) :: .iv x8 :: .elt [.iv x9.A,.iv x9.B] 0 :: .agg [.iv x9.A,.iv x9.B] :: .ptr 1 0 :: .iv x9.A :: .bv (decide (x9.A<0)) :: .ff :: .ptr 1 0 :: .iv x9.A :: .ptr 1 1 :: .iv x9.B :: .bv (decide (x9.B≤x9.A)) :: .bv (decide (x9.B≤x9.A)) :: .tt :: .un :: .un :: .un :: .un :: .un :: .tt :: .tt :: .un :: .un :: .un :: .un :: .un :: .un :: .un :: .un :: .un :: .un :: .un :: .un :: .un :: .tt::[])),[some ⟨48,[.iv x1.N,.sl 2 (List.map Edge.row x1.Edges)]⟩,some ⟨29,[.iv x9.A,.iv x9.B]⟩],[]⟩:St) (by kernel_rfl) ?_
        refine Zs3 rfl ?_ _;exact Zz4 J3 (s:=true) h
       ·dsimp only [go_sem]
        refine Zi5 hall hs haf hnap 7 14 [true,true,true,true,true,true,true,true,true,true,true,true,true,true,true,true,true,true,false,false,false,false,false,false,false,false,false,false,false,false,false,false] (⟨(.any :: .ptr 0 0 :: .any :: .iv x8 :: .ptr 1 0::an 14 (.iv x8 :: .ptr 0 1 :: .sl 2 (List.map Edge.row x1.Edges) :: .iv (ln Edge.row x1.Edges) :: .bv (decide (x8<(ln Edge.row x1.Edges))) :: .any :: .any :: .ptr 0 1 :: .sl 2 (List.map Edge.row x1.Edges) :: .iv x8 :: .elt [.iv x9.A,.iv x9.B] 0 :: .agg [.iv x9.A,.iv x9.B] :: .ptr 1 0 :: .iv x9.A :: .bv (decide (x9.A<0)) :: .ff :: .ptr 1 0 :: .iv x9.A :: .ptr 1 1 :: .iv x9.B :: .bv (decide (x9.B≤x9.A)) :: .bv (decide (x9.B≤x9.A)) :: .ff :: .ptr 1 1 :: .iv x9.B :: .ptr 0 0 :: .iv x1.N :: .bv (decide (x1.N≤x9.B)) :: .bv (decide (x1.N≤x9.B)) :: .bv (decide (x1.N≤x9.B))::an 14 [])),[some ⟨48,[.iv x1.N,.sl 2 (List.map Edge.row x1.Edges)]⟩,some ⟨29,[.iv x9.A,.iv x9.B]⟩],[]⟩:St) (by kernel_rfl) ?_
        refine Z75 48 h rfl (fun _ h=>?_) fun _ h=>?_
        ·dsimp only [go_sem]
         refine Zi5 hall hs haf hnap 14 0 [true,true,true,true,true,true,true,true,true,true,true,true,true,true,true,true,true,true,true,true,true,true,true,true,true,true,true,true,true,true,true,true] (⟨(.any :: .ptr 0 0 :: .any :: .iv x8 :: .ptr 1 0::an 14 (.iv x8 :: .ptr 0 1 :: .sl 2 (List.map Edge.row x1.Edges) :: .iv (ln Edge.row x1.Edges) :: .bv (decide (x8<(ln Edge.row x1.Edges))) :: .any :: .any :: .ptr 0 1 :: .sl 2 (List.map Edge.row x1.Edges) :: .iv x8 :: .elt [.iv x9.A,.iv x9.B] 0 :: .agg [.iv x9.A,.iv x9.B] :: .ptr 1 0 :: .iv x9.A :: .bv (decide (x9.A<0)) :: .ff :: .ptr 1 0 :: .iv x9.A :: .ptr 1 1 :: .iv x9.B :: .bv (decide (x9.B≤x9.A)) :: .bv (decide (x9.B≤x9.A)) :: .ff :: .ptr 1 1 :: .iv x9.B :: .ptr 0 0 :: .iv x1.N :: .bv (decide (x1.N≤x9.B)) :: .bv (decide (x1.N≤x9.B)) :: .tt :: .un :: .un :: .un :: .un :: .un :: .un :: .un :: .un :: .un :: .un :: .un :: .un :: .un :: .tt::[])),[some ⟨48,[.iv x1.N,.sl 2 (List.map Edge.row x1.Edges)]⟩,some ⟨29,[.iv x9.A,.iv x9.B]⟩],[]⟩:St) (by kernel_rfl) ?_
         refine Zs3 rfl ?_ _;exact Zz4 J3 (s:=true) h
        ·dsimp only [go_sem]
         refine Zi5 hall hs haf hnap 3 11 [true,true,true,true,true,true,true,true,true,true,true,true,true,true,true,true,true,true,true,true,true,false,false,false,false,false,false,false,false,false,false,false] (⟨(.any :: .ptr 0 0 :: .any :: .iv x8 :: .ptr 1 0::an 14 (.iv x8 :: .ptr 0 1 :: .sl 2 (List.map Edge.row x1.Edges) :: .iv (ln Edge.row x1.Edges) :: .bv (decide (x8<(ln Edge.row x1.Edges))) :: .any :: .any :: .ptr 0 1 :: .sl 2 (List.map Edge.row x1.Edges) :: .iv x8 :: .elt [.iv x9.A,.iv x9.B] 0 :: .agg [.iv x9.A,.iv x9.B] :: .ptr 1 0 :: .iv x9.A :: .bv (decide (x9.A<0)) :: .ff :: .ptr 1 0 :: .iv x9.A :: .ptr 1 1 :: .iv x9.B :: .bv (decide (x9.B≤x9.A)) :: .bv (decide (x9.B≤x9.A)) :: .ff :: .ptr 1 1 :: .iv x9.B :: .ptr 0 0 :: .iv x1.N :: .bv (decide (x1.N≤x9.B)) :: .bv (decide (x1.N≤x9.B)) :: .ff :: .iv x8 :: .bv (decide (0<x8)) :: .bv (decide (0<x8))::an 11 [])),[some ⟨48,[.iv x1.N,.sl 2 (List.map Edge.row x1.Edges)]⟩,some ⟨29,[.iv x9.A,.iv x9.B]⟩],[]⟩:St) (by kernel_rfl) ?_
         refine Z75 51 h rfl (fun _ h=>?_) fun _ h=>?_
         ·dsimp only [go_sem]
          refine Zi5 hall hs haf hnap 5 6 [true,true,true,true,true,true,true,true,true,true,true,true,true,true,true,true,true,true,true,true,true,true,true,true,true,false,false,true,false,false,false,false] (⟨(.any :: .ptr 0 0 :: .any :: .iv x8 :: .ptr 1 0::an 14 (.iv x8 :: .ptr 0 1 :: .sl 2 (List.map Edge.row x1.Edges) :: .iv (ln Edge.row x1.Edges) :: .bv (decide (x8<(ln Edge.row x1.Edges))) :: .any :: .any :: .ptr 0 1 :: .sl 2 (List.map Edge.row x1.Edges) :: .iv x8 :: .elt [.iv x9.A,.iv x9.B] 0 :: .agg [.iv x9.A,.iv x9.B] :: .ptr 1 0 :: .iv x9.A :: .bv (decide (x9.A<0)) :: .ff :: .ptr 1 0 :: .iv x9.A :: .ptr 1 1 :: .iv x9.B :: .bv (decide (x9.B≤x9.A)) :: .bv (decide (x9.B≤x9.A)) :: .ff :: .ptr 1 1 :: .iv x9.B :: .ptr 0 0 :: .iv x1.N :: .bv (decide (x1.N≤x9.B)) :: .bv (decide (x1.N≤x9.B)) :: .ff :: .iv x8 :: .bv (decide (0<x8)) :: .tt :: .ptr 0 1 :: .sl 2 (List.map Edge.row x1.Edges) :: .iv x8 :: .iv (wr (x8-1)) :: .any :: .any :: .agg [.iv x9.A,.iv x9.B]::an 4 [])),[some ⟨48,[.iv x1.N,.sl 2 (List.map Edge.row x1.Edges)]⟩,some ⟨29,[.iv x9.A,.iv x9.B]⟩],[]⟩:St) (by kernel_rfl) ?_
          obtain ⟨x10,ex10,h⟩:=Option.bind_eq_some_iff.1 h;refine Zr4 hall hs haf hnap 25 Edge.row ex10 rfl rfl trivial rfl rfl rfl rfl ?_;refine Zh5 hall hs haf hnap 1 4 ?_;dsimp only [go_sem];refine ⟨by simp,?_⟩;refine Zt3 28 rfl ?_;obtain ⟨x11,ex11,h⟩:=Option.bind_eq_some_iff.1 h;refine Zz3 hall rfl trivial (Zea x10 x9 _ ex11) (h:=?_);dsimp only [go_sem]
          refine Zi5 hall hs haf hnap 3 0 [true,true,true,true,true,true,true,true,true,true,true,true,true,true,true,true,true,true,true,true,true,true,true,true,true,true,true,true,true,true,true,true] (⟨(.any :: .ptr 0 0 :: .any :: .iv x8 :: .ptr 1 0::an 14 (.iv x8 :: .ptr 0 1 :: .sl 2 (List.map Edge.row x1.Edges) :: .iv (ln Edge.row x1.Edges) :: .bv (decide (x8<(ln Edge.row x1.Edges))) :: .any :: .any :: .ptr 0 1 :: .sl 2 (List.map Edge.row x1.Edges) :: .iv x8 :: .elt [.iv x9.A,.iv x9.B] 0 :: .agg [.iv x9.A,.iv x9.B] :: .ptr 1 0 :: .iv x9.A :: .bv (decide (x9.A<0)) :: .ff :: .ptr 1 0 :: .iv x9.A :: .ptr 1 1 :: .iv x9.B :: .bv (decide (x9.B≤x9.A)) :: .bv (decide (x9.B≤x9.A)) :: .ff :: .ptr 1 1 :: .iv x9.B :: .ptr 0 0 :: .iv x1.N :: .bv (decide (x1.N≤x9.B)) :: .bv (decide (x1.N≤x9.B)) :: .ff :: .iv x8 :: .bv (decide (0<x8)) :: .tt :: .ptr 0 1 :: .sl 2 (List.map Edge.row x1.Edges) :: .iv x8 :: .iv (wr (x8-1)) :: .elt [.iv x10.A,.iv x10.B] 0 :: .agg [.iv x10.A,.iv x10.B] :: .agg [.iv x9.A,.iv x9.B] :: .bv x11 :: .bv (!x11) :: .bv (!x11) :: .bv (!x11)::[])),[some ⟨48,[.iv x1.N,.sl 2 (List.map Edge.row x1.Edges)]⟩,some ⟨29,[.iv x9.A,.iv x9.B]⟩],[]⟩:St) (by kernel_rfl) ?_
          refine Zs3 rfl ?_ _;exact Zz4 J3 (s:=!x11) h
         ·dsimp only [go_sem]
          refine Zi5 hall hs haf hnap 11 0 [true,true,true,true,true,true,true,true,true,true,true,true,true,true,true,true,true,true,true,true,true,true,true,true,true,true,true,true,true,true,true,true] (⟨(.any :: .ptr 0 0 :: .any :: .iv x8 :: .ptr 1 0::an 14 (.iv x8 :: .ptr 0 1 :: .sl 2 (List.map Edge.row x1.Edges) :: .iv (ln Edge.row x1.Edges) :: .bv (decide (x8<(ln Edge.row x1.Edges))) :: .any :: .any :: .ptr 0 1 :: .sl 2 (List.map Edge.row x1.Edges) :: .iv x8 :: .elt [.iv x9.A,.iv x9.B] 0 :: .agg [.iv x9.A,.iv x9.B] :: .ptr 1 0 :: .iv x9.A :: .bv (decide (x9.A<0)) :: .ff :: .ptr 1 0 :: .iv x9.A :: .ptr 1 1 :: .iv x9.B :: .bv (decide (x9.B≤x9.A)) :: .bv (decide (x9.B≤x9.A)) :: .ff :: .ptr 1 1 :: .iv x9.B :: .ptr 0 0 :: .iv x1.N :: .bv (decide (x1.N≤x9.B)) :: .bv (decide (x1.N≤x9.B)) :: .ff :: .iv x8 :: .bv (decide (0<x8)) :: .ff :: .un :: .un :: .un :: .un :: .un :: .un :: .un :: .un :: .un :: .ff :: .ff::[])),[some ⟨48,[.iv x1.N,.sl 2 (List.map Edge.row x1.Edges)]⟩,some ⟨29,[.iv x9.A,.iv x9.B]⟩],[]⟩:St) (by kernel_rfl) ?_
          refine Zs3 rfl ?_ _;exact Zz4 J3 (s:=false) h
    ·refine Zl2 1 ?_;dsimp only [e22,Zfa,go_sem];refine ⟨by simp,?_⟩;exact Zz4 J2 (s:=()) (Zk4 h hout1)
 ·refine Zw4 8 h rfl (fun _ h=>?_) fun _ h=>?_
  ·dsimp only [go_sem];refine Zl2 11 ?_;dsimp only [e22,Zfa,go_sem];refine ⟨by simp,?_⟩;exact Zz4 J1 (s:=true) h
  ·dsimp only [go_sem];refine Zl2 5 ?_;dsimp only [e22,Zfa,go_sem];refine ⟨by simp,?_⟩;refine Zw4 13 h rfl (fun _ h=>?_) fun _ h=>?_
   ·dsimp only [go_sem];refine Zl2 6 ?_;dsimp only [e22,Zfa,go_sem];refine ⟨by simp,?_⟩;exact Zz4 J1 (s:=true) h
   ·dsimp only [go_sem];refine Zl2 6 ?_;dsimp only [e22,Zfa,go_sem];refine ⟨by simp,?_⟩;exact Zz4 J1 (s:=decide (400<(ln Edge.row x1.Edges))) h
set_option maxRecDepth 100000
set_option maxHeartbeats 4000000
def Zma:EC:=.seq (.seq (.reg [(Qa 9 (.mv (.t 7))),(Qa 10 (.fld 1 (.t 3))),(Qa 11 (.load (.t 10))),(Qa 12 (.len (.t 11))),(Qa 13 (.bin .lss (.t 9) (.t 12)))]) (.ite (.t 13) (.skip) (.exit 0))) (.seq (.blk 1 (.seq (.reg [(Qa 16 (.fld 1 (.t 3))),(Qa 17 (.load (.t 16))),(Qa 18 (.mv (.t 7))),(Qa 19 (.idx 2 (.t 17) (.t 18))),(Qa 20 (.loadA 2 (.t 19))),(Qa 8 (.alloc 29 [.iv 0,.iv 0])),(Qb (.store 2 (.t 8) (.t 20)))]) (.seq (.reg [(Qa 21 (.fld 0 (.t 8))),(Qa 22 (.load (.t 21))),(Qa 23 (.mv (.t 1))),(Qa 24 (.bin .eql (.t 22) (.t 23))),(Qa 25 (.mv (.t 24))),(Qg 26 25 true (.fld 1 (.t 8))),(Qg 27 25 true (.load (.t 26))),(Qg 28 25 true (.mv (.t 2))),(Qg 29 25 true (.bin .eql (.t 27) (.t 28))),(Qa 30 (.pick (.t 25) (.t 29) (.c .ff))),(Qa 31 (.mv (.t 30))),(Qg 32 31 true (.mv (.t 1))),(Qg 33 31 true (.mv (.t 2))),(Qg 34 31 true (.bin .leq (.t 32) (.t 33))),(Qa 35 (.pick (.t 31) (.t 34) (.c .ff))),(Qa 36 (.mv (.t 35))),(Qg 37 36 false (.fld 0 (.t 8))),(Qg 38 36 false (.load (.t 37))),(Qg 39 36 false (.mv (.t 2))),(Qg 40 36 false (.bin .eql (.t 38) (.t 39))),(Qg 41 36 false (.mv (.t 40))),(Qg 42 41 true (.fld 1 (.t 8))),(Qg 43 41 true (.load (.t 42))),(Qg 44 41 true (.mv (.t 1))),(Qg 45 41 true (.bin .eql (.t 43) (.t 44))),(Qg 46 36 false (.pick (.t 41) (.t 45) (.c .ff))),(Qg 47 36 false (.mv (.t 46))),(Qg 48 47 true (.mv (.t 2))),(Qg 49 47 true (.mv (.t 1))),(Qg 50 47 true (.bin .lss (.t 48) (.t 49))),(Qg 51 36 false (.pick (.t 47) (.t 50) (.c .ff))),(Qa 52 (.pick (.t 36) (.c .tt) (.t 51)))]) (.ite (.t 52) (.seq (.reg [(Qa 6 (.mv (.c .tt)))]) (.ret)) (.skip))))) (.reg [(Qa 14 (.mv (.t 7))),(Qa 15 (.bin .add (.t 14) (.c (.iv 1)))),(Qa 7 (.mv (.t 15)))]))
def e90:EC:=.seq (.reg [(Qa 3 (.box 48 2 (.t 0))),(Qa 6 (.mv (.c .ff)))]) (.seq (.seq (.reg [(Qa 7 (.mv (.c (.iv 0))))]) (.blk 0 (.loop Zma))) (.seq (.reg [(Qa 6 (.mv (.c .ff)))]) (.ret)))
theorem ok90:FnOK Tryz.prog 90 Tryz.f90 e90 [.t 6] 3 50:=⟨by kernel_rfl,⟨_,rfl,by kernel_rfl⟩,by kernel_rfl,by kernel_rfl⟩
noncomputable def Zna:Unit→Option Bool
| ()=>
 some false
noncomputable def Zoa (x7:Int):Bool→Option (Int ⊕ Bool)
| x9=>
 ifb x9 (
 Option.map Sum.inr (some true)) (
 some (.inl (wr (x7+1))))
noncomputable def Zpa (x1:Graph) (x2:Int) (x3:Int):Int→Option (Int ⊕ Bool)
| x7=>
 ifb (decide (x7<(ln Edge.row x1.Edges))) (
 (at_ x1.Edges x7).bind fun x8=>
 ifb (decide (x8.A=x2)) (
 ifb (decide (x8.B=x3)) (
 ifb (decide (x2≤x3)) (
 (Zoa x7) true) (
 ifb (decide (x8.A=x3)) (
 ifb (decide (x8.B=x2)) (
 (Zoa x7) (decide (x3<x2))) (
 (Zoa x7) false)) (
 (Zoa x7) false))) (
 ifb (decide (x8.A=x3)) (
 ifb (decide (x8.B=x2)) (
 (Zoa x7) (decide (x3<x2))) (
 (Zoa x7) false)) (
 (Zoa x7) false))) (
 ifb (decide (x8.A=x3)) (
 ifb (decide (x8.B=x2)) (
 (Zoa x7) (decide (x3<x2))) (
 (Zoa x7) false)) (
 (Zoa x7) false))) (
 Option.map Sum.inr (Zna ()))
noncomputable def Zqa (x1:Graph) (x2:Int) (x3:Int):Option Bool:=
 loop (Zpa x1 x2 x3) 0
theorem Zra (x1:Graph) (x2:Int) (x3:Int) (r:Bool) (h:Zqa x1 x2 x3=some r):Zq2 Tryz.prog 90 [.agg (Graph.row x1),.iv x2,.iv x3] (.bv r):=by
 refine Zu2 ok90 rfl rfl fun w0 H0=>?_
 rw [Zqa] at h
 refine Zl2 10 ?_;dsimp only [e90,Zma,go_sem];refine ⟨by simp,?_⟩;refine Zl4 (fun (_:Unit)=>(⟨(an 53 []),[],[]⟩:St)) Zna r ?_ fun J1=>?_
 ·rintro ⟨⟩ h;rw [Zna] at h;(try dsimp only);refine Zl2 4 ?_;dsimp only [e90,Zma,go_sem];refine ⟨by simp,?_⟩;exact Zx4 (res:=fun (r:Bool)=>.bv r) ok90 h
 ·refine Zl2 1 ?_;dsimp only [e90,Zma,go_sem];refine ⟨by simp,?_⟩;refine Zm4 h (fun (x7:Int)=>(⟨(.any :: .iv x2 :: .iv x3 :: .ptr 0 0::an 3 (.iv x7::an 45 [])),[some ⟨48,[.iv x1.N,.sl 2 (List.map Edge.row x1.Edges)]⟩],[]⟩:St)) (by simp [go_sem]) (by intro x7;first | rfl | simp [go_sem]) ?_;rintro n1 x7 y1 h hin1 hout1;rw [Zpa] at h;(try dsimp only);refine Zl2 9 ?_;dsimp only [e90,Zma,go_sem];refine ⟨by simp,?_⟩;refine Zn4 h rfl (fun _ h=>?_) fun _ h=>?_
  ·refine Zl2 8 ?_;dsimp only [e90,Zma,go_sem];refine ⟨by simp,?_⟩;obtain ⟨x8,ex8,h⟩:=Option.bind_eq_some_iff.1 h;refine Zq4 Edge.row ex8 trivial rfl rfl rfl ?_;refine Zl2 11 ?_;dsimp only [e90,Zma,go_sem];refine ⟨by simp,?_⟩;refine Zl4 (fun (x9:Bool)=>(⟨(.any :: .iv x2 :: .iv x3 :: .ptr 0 0::an 3 (.iv x7::an 44 [.bv x9])),[some ⟨48,[.iv x1.N,.sl 2 (List.map Edge.row x1.Edges)]⟩],[]⟩:St)) (Zoa x7) y1 ?_ fun J2=>?_
   ·intro x9 h;rw [Zoa] at h;(try dsimp only);refine Zn4 h rfl (fun _ h=>?_) fun _ h=>?_
    ·refine Zl2 4 ?_;dsimp only [e90,Zma,go_sem];refine ⟨by simp,?_⟩;exact Zx4 (res:=fun (r:Bool)=>.bv r) ok90 (Zk4 h hout1)
    ·refine Zl2 7 ?_;dsimp only [e90,Zma,go_sem];refine ⟨by simp,?_⟩;exact Zy4 h hin1
   ·refine Zw4 25 h rfl (fun _ h=>?_) fun _ h=>?_
    ·dsimp only [go_sem];refine Zl2 6 ?_;dsimp only [e90,Zma,go_sem];refine ⟨by simp,?_⟩;refine Zw4 31 h rfl (fun _ h=>?_) fun _ h=>?_
     ·dsimp only [go_sem];refine Zl2 5 ?_;dsimp only [e90,Zma,go_sem];refine ⟨by simp,?_⟩;refine Zw4 36 h rfl (fun _ h=>?_) fun _ h=>?_
      ·dsimp only [go_sem];refine Zl2 17 ?_;dsimp only [e90,Zma,go_sem];refine ⟨by simp,?_⟩;exact Zz4 J2 (s:=true) h
      ·dsimp only [go_sem];refine Zl2 5 ?_;dsimp only [e90,Zma,go_sem];refine ⟨by simp,?_⟩;refine Zw4 41 h rfl (fun _ h=>?_) fun _ h=>?_
       ·dsimp only [go_sem];refine Zl2 6 ?_;dsimp only [e90,Zma,go_sem];refine ⟨by simp,?_⟩;refine Zw4 47 h rfl (fun _ h=>?_) fun _ h=>?_
        ·dsimp only [go_sem];refine Zl2 6 ?_;dsimp only [e90,Zma,go_sem];refine ⟨by simp,?_⟩;exact Zz4 J2 (s:=decide (x3<x2)) h
        ·dsimp only [go_sem];refine Zl2 6 ?_;dsimp only [e90,Zma,go_sem];refine ⟨by simp,?_⟩;exact Zz4 J2 (s:=false) h
       ·dsimp only [go_sem];refine Zl2 12 ?_;dsimp only [e90,Zma,go_sem];refine ⟨by simp,?_⟩;exact Zz4 J2 (s:=false) h
     ·dsimp only [go_sem];refine Zl2 10 ?_;dsimp only [e90,Zma,go_sem];refine ⟨by simp,?_⟩;refine Zw4 41 h rfl (fun _ h=>?_) fun _ h=>?_
      ·dsimp only [go_sem];refine Zl2 6 ?_;dsimp only [e90,Zma,go_sem];refine ⟨by simp,?_⟩;refine Zw4 47 h rfl (fun _ h=>?_) fun _ h=>?_
       ·dsimp only [go_sem];refine Zl2 6 ?_;dsimp only [e90,Zma,go_sem];refine ⟨by simp,?_⟩;exact Zz4 J2 (s:=decide (x3<x2)) h
       ·dsimp only [go_sem];refine Zl2 6 ?_;dsimp only [e90,Zma,go_sem];refine ⟨by simp,?_⟩;exact Zz4 J2 (s:=false) h
      ·dsimp only [go_sem];refine Zl2 12 ?_;dsimp only [e90,Zma,go_sem];refine ⟨by simp,?_⟩;exact Zz4 J2 (s:=false) h
    ·dsimp only [go_sem];refine Zl2 16 ?_;dsimp only [e90,Zma,go_sem];refine ⟨by simp,?_⟩;refine Zw4 41 h rfl (fun _ h=>?_) fun _ h=>?_
     ·dsimp only [go_sem];refine Zl2 6 ?_;dsimp only [e90,Zma,go_sem];refine ⟨by simp,?_⟩;refine Zw4 47 h rfl (fun _ h=>?_) fun _ h=>?_
      ·dsimp only [go_sem];refine Zl2 6 ?_;dsimp only [e90,Zma,go_sem];refine ⟨by simp,?_⟩;exact Zz4 J2 (s:=decide (x3<x2)) h
      ·dsimp only [go_sem];refine Zl2 6 ?_;dsimp only [e90,Zma,go_sem];refine ⟨by simp,?_⟩;exact Zz4 J2 (s:=false) h
     ·dsimp only [go_sem];refine Zl2 12 ?_;dsimp only [e90,Zma,go_sem];refine ⟨by simp,?_⟩;exact Zz4 J2 (s:=false) h
  ·refine Zl2 1 ?_;dsimp only [e90,Zma,go_sem];refine ⟨by simp,?_⟩;exact Zz4 J1 (s:=()) (Zk4 h hout1)
set_option maxRecDepth 100000
set_option maxHeartbeats 4000000
def Zsa:EC:=.seq (.seq (.reg [(Qa 6 (.mv (.t 5))),(Qa 7 (.mv (.t 0))),(Qa 8 (.len (.t 7))),(Qa 9 (.bin .lss (.t 6) (.t 8)))]) (.ite (.t 9) (.skip) (.exit 0))) (.seq (.blk 1 (.seq (.reg [(Qa 12 (.mv (.t 0))),(Qa 13 (.mv (.t 5))),(Qa 14 (.idx 1 (.t 12) (.t 13))),(Qa 15 (.load (.t 14))),(Qa 16 (.mv (.t 1))),(Qa 17 (.bin .eql (.t 15) (.t 16)))]) (.ite (.t 17) (.seq (.reg [(Qa 4 (.mv (.c .tt)))]) (.ret)) (.skip)))) (.reg [(Qa 10 (.mv (.t 5))),(Qa 11 (.bin .add (.t 10) (.c (.iv 1)))),(Qa 5 (.mv (.t 11)))]))
def e30:EC:=.seq (.reg [(Qa 4 (.mv (.c .ff)))]) (.seq (.seq (.reg [(Qa 5 (.mv (.c (.iv 0))))]) (.blk 0 (.loop Zsa))) (.seq (.reg [(Qa 4 (.mv (.c .ff)))]) (.ret)))
theorem ok30:FnOK Tryz.prog 30 Tryz.f30 e30 [.t 4] 2 16:=⟨by kernel_rfl,⟨_,rfl,by kernel_rfl⟩,by kernel_rfl,by kernel_rfl⟩
noncomputable def Zta:Unit→Option Bool
| ()=>
 some false
noncomputable def Zua (x1:(List Int)) (x2:Int):Int→Option (Int ⊕ Bool)
| x5=>
 ifb (decide (x5<(ln Z45 x1))) (
 (at_ x1 x5).bind fun x6=>
 ifb (decide (x6=x2)) (
 Option.map Sum.inr (some true)) (
 some (.inl (wr (x5+1))))) (
 Option.map Sum.inr (Zta ()))
noncomputable def Zva (x1:(List Int)) (x2:Int):Option Bool:=
 loop (Zua x1 x2) 0
theorem k_narthexref01_Has (x1:(List Int)) (x2:Int) (r:Bool) (h:Zva x1 x2=some r):Zq2 Tryz.prog 30 [.sl 1 (List.map Z45 x1),.iv x2] (.bv r):=by
 refine Zu2 ok30 rfl rfl fun w0 H0=>?_
 rw [Zva] at h
 refine Zl2 9 ?_;dsimp only [e30,Zsa,go_sem];refine ⟨by simp,?_⟩;refine Zl4 (fun (_:Unit)=>(⟨(an 18 []),[],[]⟩:St)) Zta r ?_ fun J1=>?_
 ·rintro ⟨⟩ h;rw [Zta] at h;(try dsimp only);refine Zl2 4 ?_;dsimp only [e30,Zsa,go_sem];refine ⟨by simp,?_⟩;exact Zx4 (res:=fun (r:Bool)=>.bv r) ok30 h
 ·refine Zl2 1 ?_;dsimp only [e30,Zsa,go_sem];refine ⟨by simp,?_⟩;refine Zm4 h (fun (x5:Int)=>(⟨(.sl 1 (List.map Z45 x1) :: .iv x2::an 3 (.iv x5::an 12 [])),[],[]⟩:St)) (by simp [go_sem]) (by intro x5;first | rfl | simp [go_sem]) ?_;rintro n1 x5 y1 h hin1 hout1;rw [Zua] at h;(try dsimp only);refine Zl2 8 ?_;dsimp only [e30,Zsa,go_sem];refine ⟨by simp,?_⟩;refine Zn4 h rfl (fun _ h=>?_) fun _ h=>?_
  ·refine Zl2 7 ?_;dsimp only [e30,Zsa,go_sem];refine ⟨by simp,?_⟩;obtain ⟨x6,ex6,h⟩:=Option.bind_eq_some_iff.1 h;refine Zq4 Z45 ex6 trivial rfl rfl rfl ?_;refine Zl2 4 ?_;dsimp only [e30,Zsa,go_sem];refine ⟨by simp,?_⟩;refine Zn4 h rfl (fun _ h=>?_) fun _ h=>?_
   ·refine Zl2 4 ?_;dsimp only [e30,Zsa,go_sem];refine ⟨by simp,?_⟩;exact Zx4 (res:=fun (r:Bool)=>.bv r) ok30 (Zk4 h hout1)
   ·refine Zl2 7 ?_;dsimp only [e30,Zsa,go_sem];refine ⟨by simp,?_⟩;exact Zy4 h hin1
  ·refine Zl2 1 ?_;dsimp only [e30,Zsa,go_sem];refine ⟨by simp,?_⟩;exact Zz4 J1 (s:=()) (Zk4 h hout1)
def cg (c:List Int) (i:Int):Int:=(c[i.toNat]?).getD 0
theorem at_cg {c:List Int} {i:Int} (h0:0≤i) (h:i<c.length):at_ c i=some (cg c i):=by
 obtain ⟨x,h1,h2⟩:=at_lt h0 h
 rw [h1,cg,h2];rfl
def Zwa (g:Graph) (c:List Int):Bool:=decide ((c.length:Int)=g.N)&&(c.all (fun x=>decide (1≤x))&&g.Edges.all (fun e=>!decide (cg c e.A=cg c e.B)))
theorem s_Right (g:Graph) (c:List Int) (_:c.length≤1000000):Zaa g c=some (okG g&&Zwa g c):=by
 simp only [Zaa,Zo7,Option.bind_some,Zm5]
 cases hg:okG g with
 | false=>simp [Z9a]
 | true=>
   obtain ⟨g1,g2,g3,g4,g5⟩:=Zp7 hg
   simp only [if_true,decide_true,Zk5,Bool.true_and,Z65]
   by_cases hl:(c.length:Int)=g.N
   ·rw [Zm7 c (fun z=>Z5a z) (fun x=>decide (x<1)) (by omega) (fun x _=>rfl)]
    simp only [hl,decide_true,Zk5,Option.bind_some,Zwa,Bool.true_and]
    have e1:c.any (fun x=>decide (x<1))=!c.all (fun x=>decide (1≤x)):=Zq7 _ _ _ (fun x=>by
     by_cases h:x<1
     ·have:¬1≤x:=by omega
      simp [h,this]
     ·have:1≤x:=by omega
      simp [h,this])
    rw [e1]
    cases hp:c.all (fun x=>decide (1≤x)) with
    | false=>simp [Z9a]
    | true=>
      simp only [Bool.not_true,Z9a,Zl5]
      rw [Zl7 g.Edges _ (fun e=>decide (cg c e.A=cg c e.B)) (by omega) (fun e he=>by
       obtain ⟨k1,k2,k3⟩:=g4 e he
       simp only [Z7a,at_cg (c:=c) k1 (by omega),at_cg (c:=c) (show 0≤e.B by omega) (by omega),Option.bind_some])]
      simp [all_not_any]
   ·simp [hl,Zwa,Z9a]
theorem s_ahead (x y:Edge):Zda x y=some (x.lt y):=by
 simp only [Zda,Zca,Edge.lt]
 by_cases h1:x.A<y.A
 ·simp [h1]
 ·by_cases h2:x.A=y.A<;>simp [h1,h2]
theorem s_r03Check (g:Graph):Zka g=some (okG g):=by
 simp only [Zka,Zja]
 by_cases h1:g.N<0
 ·have:¬0≤g.N:=by omega
  simp [h1,okG,this]
 by_cases h2:64<g.N
 ·have:¬g.N≤64:=by omega
  simp [h1,h2,okG,this]
 by_cases h3:400<g.Edges.length
 ·have:¬g.Edges.length≤400:=by omega
  have h3':(400:Int)<ln Edge.row g.Edges:=by rw [Z65];omega
  simp [h1,h2,h3',okG,this]
 have h3':¬(400:Int)<ln Edge.row g.Edges:=by rw [Z65];omega
 have e1:0≤g.N:=by omega
 have e2:g.N≤64:=by omega
 have e3:g.Edges.length≤400:=by omega
 simp only [h1,h2,h3',decide_false,Zl5,okG,e1,e2,e3,decide_true,Bool.true_and]
 have key:=Zn7 g.Edges (Zia g) false true (fun e=>!e.ok g.N) (by omega) (fun k x hx=>by
  have hw:wr ((k:Int)+1)=((k+1:Nat):Int):=Zt5 hx (by omega)
  simp only [Zia,Zq5 hx,Zk5,Zo5 hx,Option.bind_some,Zha,hw,Edge.ok]
  by_cases k1:x.A<0
  ·have:¬0≤x.A:=by omega
   simp [k1,this]
  ·have k1':0≤x.A:=by omega
   by_cases k2:x.B≤x.A
   ·have:¬x.A<x.B:=by omega
    simp [k1,k2,this]
   ·have k2':x.A<x.B:=by omega
    by_cases k3:g.N≤x.B
    ·have:¬x.B<g.N:=by omega
     simp [k1,k2,k3,this]
    ·have k3':x.B<g.N:=by omega
     simp only [k1,k2,k3,k1',k2',k3',decide_false,decide_true,Zl5,Bool.and_self,Bool.not_true,Bool.false_or]
     cases k with
     | zero=>simp
     | succ k=>
       have hk:=(List.getElem?_eq_some_iff.1 hx).1
       have hy:g.Edges[k]?=some g.Edges[k]:=List.getElem?_eq_getElem (by omega)
       have h0:decide ((0:Int)<((k+1:Nat):Int))=true:=decide_eq_true (by omega)
       simp only [h0,Zk5,wr_pred (show k≤4000000000000000000 by omega),Zo5 hy,hy,Option.bind_some,s_ahead]
       cases g.Edges[k].lt x<;>simp)
  (by simp only [Zia,Zr5,Zl5,Zga,Option.map_some])
 rw [key]
 have:g.Edges.all (fun x=>!!Edge.ok g.N x)=g.Edges.all (Edge.ok g.N):=by simp
 rw [this]
 cases g.Edges.all (Edge.ok g.N)&&risB g.Edges<;>rfl
theorem s_r01Has (l:List Int) (x:Int) (hl:l.length≤1000000):Zva l x=some (decide (x∈l)):=by
 unfold Zva
 rw [Zz5 l (Zua l x) (fun y=>decide (y=x)) true false (by omega) (fun k y hy=>by
  have hw:wr ((k:Int)+1)=((k+1:Nat):Int):=Zt5 hy (by omega)
  simp only [Zua,Zq5 hy,Zk5,Zo5 hy,Option.bind_some,hw]
  by_cases h:y=x<;>simp [h])
  (by simp only [Zua,Zr5,Zl5,Zta,Option.map_some])]
 by_cases h:x∈l
 ·have:l.any (fun y=>decide (y=x))=true:=by rw [List.any_eq_true];exact ⟨x,h,by simp⟩
  simp [this,h]
 ·have:l.any (fun y=>decide (y=x))=false:=by
   rw [List.any_eq_false];intro y hy;simp;rintro rfl;exact h hy
  simp [this,h]
def hasB (g:Graph) (a b:Int):Bool:=g.Edges.any fun e=>(decide (e.A=a)&&(decide (e.B=b)&&decide (a≤b)))||(decide (e.A=b)&&(decide (e.B=a)&&decide (b<a)))
theorem s_r03Has (g:Graph) (a b:Int) (hl:g.Edges.length≤1000000):Zqa g a b=some (hasB g a b):=by
 unfold Zqa hasB
 rw [Zz5 g.Edges (Zpa g a b) (fun e=>(decide (e.A=a)&&(decide (e.B=b)&&decide (a≤b)))||(decide (e.A=b)&&(decide (e.B=a)&&decide (b<a)))) true false (by omega) (fun k e he=>by
  have hw:wr ((k:Int)+1)=((k+1:Nat):Int):=Zt5 he (by omega)
  simp only [Zpa,Zq5 he,Zk5,Zo5 he,Option.bind_some,Zoa,hw]
  generalize decide (e.A=a)=p1;generalize decide (e.B=b)=p2;generalize decide (a≤b)=p3;generalize decide (e.A=b)=p4;generalize decide (e.B=a)=p5;generalize decide (b<a)=p6
  cases p1<;>cases p2<;>cases p3<;>cases p4<;>cases p5<;>cases p6<;>rfl)
  (by simp only [Zpa,Zr5,Zl5,Zna,Option.map_some])]
 generalize List.any _ _=p
 cases p<;>rfl
end NX
end Go.Proofs.YtadebhbiglmodaaGreat
namespace Go.Proofs.YtadebhbiglmodaaGreat
namespace NX
open Go Go.RowKit
section
variable {c:Ctx} {M:Mem} {S S':St} {a:Act} {w:World} {fn:Func} {K:AV→List (Option Blk)→List (Option Sl)→Prop} {k:List It} {bs:List (Option Blk)} {ss:List (Option Sl)}
theorem isLL_ints {M:Mem} {zs:List Int} {vss:List (List Value)} (h:AV.isLL M 1 (zs.map Z45) vss):vss.flatten=zs.map (Value.int .i64):=by
 induction zs generalizing vss with
 | nil=>simp [AV.isLL] at h;subst h;rfl
 | cons z zs ih=>
   obtain ⟨v,r,rfl,h1,h2,h3⟩:=h
   obtain ⟨u,q,rfl,h4,h5⟩:=h2
   simp only [AV.isL] at h5
   simp only [AV.is] at h4
   subst h5;subst h4
   simp [ih h3]
theorem ints_isLL {M:Mem}:∀(zs:List Int),∃vss,AV.isLL M 1 (zs.map Z45) vss∧vss.flatten=zs.map (Value.int .i64)
 | []=>⟨[],rfl,rfl⟩
 | z::zs=>by
   obtain ⟨vss,h1,h2⟩:=ints_isLL (M:=M) zs
   exact ⟨[.int .i64 z]::vss,⟨_,_,rfl,rfl,⟨_,_,rfl,rfl,rfl⟩,h1⟩,by simp [h2]⟩
theorem sem_sort {ρ:Shelf.Ren} (Ly:Lays.n189 c.P ρ) {j T:Nat} {x:X} {zs:List Int} (hx:S.x x = .osl j) (hj:Zf S.ss j=some ⟨T,1,zs.map Z45⟩) (hlen:zs.length<4611686018427387904):
  Zv2 c S (.call (ρ.f 189) [x]) (.tup []) ⟨S.tm,S.bs,Zg S.ss j (some ⟨T,1,(zs.mergeSort fun x y=>decide (x≤y)).map Z45⟩)⟩:=by
 intro ro ho M a w hT next Q hn
 obtain ⟨dst,op,ty,pos,af,gd⟩:=ro
 dsimp only at ho
 obtain ⟨cargs,argTypes,rfl,hfn,hxs⟩:=Zy2 ho
 obtain ⟨q,rfl⟩:∃q,cargs = #[q]:=by
  have:cargs.toList.length=1:=by have:=congrArg List.length hxs;simpa using this
  obtain ⟨l⟩:=cargs
  match l,this with
  | [q],_=>exact ⟨q,rfl⟩
 have hqx:cX q=x:=by simpa using hxs
 have hq:=Zw1 hT q
 rw [hqx,hx] at hq
 obtain ⟨hjn,hq⟩:=hq
 obtain ⟨g0,vss,h1,h2,h3,h4⟩:=hT.st.slc j _ hj
 dsimp only at h1 h3 g0
 have hfl:=isLL_ints h1
 have hrun:(execOp a.eval ⟨dst,.call ⟨.value (.func (ρ.f 189)), #[q],argTypes⟩,ty,pos,af,gd⟩).run c.P w = .ok (.enter (ρ.f 189) (#[q].map a.eval)) w:=by
  have he:a.eval (.func (ρ.f 189)) = .func (.func (ρ.f 189)) #[] #[]:=rfl
  generalize a.eval=ρ' at *
  simp [execOp,resolve,Deferred.ofValue,invoke,he,Zx2 hfn]
 have e1:(#[q].map a.eval) = #[M.σ j]:=by
  apply Array.ext';simp;exact hq
 rw [e1] at hrun
 unfold Oper.wp
 rw [hrun]
 show Calls c.P (ρ.f 189) #[M.σ j] w _
 obtain ⟨rs,hr1,hr2⟩:=ints_isLL (M:=M.pure) (zs.mergeSort fun x y=>decide (x≤y))
 have hone:∀v∈rs.flatten,v.oneCell'=true:=by
  rw [hr2];intro v hv
  obtain ⟨z,_,rfl⟩:=List.mem_map.1 hv;rfl
 have hl2:(zs.mergeSort fun x y=>decide (x≤y)).length=zs.length:=by simp
 rcases h3.2 with ⟨e2,e3⟩ | ⟨g,cap,cur,e2,hb,e3,e4,e5,e6,e7⟩
 ·have hz:zs=[]:=by simpa using e3
  subst hz
  rw [e2]
  refine (Any.slices_Sort_int_none Ly none 0 w).mono ?_
  rintro e w' ⟨rfl,rfl⟩
  refine hn M _ _ (.refl M) ?_ ⟨[],rfl,rfl⟩
  have:Zg S.ss j (some (⟨T,1,([].mergeSort fun (x y:Int)=>decide (x≤y)).map Z45⟩:Sl))=S.ss:=by
   have hj':=hj
   simp only [List.map_nil] at hj'
   have:∀(l:List (Option Sl)) (j:Nat) (L:Sl),Zf l j=some L→Zg l j (some L)=l:=by
    intro l
    induction l with
    | nil=>intro j L h;simp [Zf] at h
    | cons x l ih=>intro j L h;cases j with
      | zero=>simp [Zf] at h;subst h;rfl
      | succ j=>simp only [Zg];rw [ih j L (by simpa [Zf] using h)]
   simpa using this _ _ _ hj'
  rw [this];exact hT.st
 ·have e4':zs.length≤cap:=by simpa using e4
  rw [e2]
  simp only [List.length_map]
  rw [Nat.mul_one,List.length_map] at e7
  rw [hfl] at e7
  refine (Any.slices_Sort_int Ly g 0 cap zs w (holds_of_blockI e3 e7) (Array.getElem?_eq_some_iff.1 e3).1 hlen).mono ?_
  rintro e w' ⟨rfl,n,os,rfl⟩
  refine hn M _ _ (.refl M) ?_ ⟨[],rfl,rfl⟩
  refine hT.st.rewrite hj (g:=g) (by rw [e2];rfl) (grownBy_sortedI _) (vss':=rs) hr1 hone ?_
  rw [hr2,List.length_map,hl2,e2,List.length_map]
  exact ownsRow_sortedI (ss:=zs) hl2 hb e3 e4' e5 e6
theorem V_sort {ρ:Shelf.Ren} (Ly:Lays.n189 c.P ρ) {d:Option Nat} {g:Option (Nat×Bool)} {l:List EOp} {j T f:Nat} {x:X} (zs:List Int) (hg:gm S g) (hf:f=ρ.f 189) (hx:S.x x = .osl j) (hj:Zf S.ss j=some ⟨T,1,zs.map Z45⟩) (hlen:zs.length<4611686018427387904)
  (h:V c fn K (.ops l::k) ((⟨S.tm,S.bs,Zg S.ss j (some ⟨T,1,(zs.mergeSort fun x y=>decide (x≤y)).map Z45⟩)⟩:St).put d (.tup []))):V c fn K (.ops (⟨d,g,.call f [x]⟩::l)::k) S:=by
 subst hf
 exact Zw2 hg (sem_sort Ly hx hj hlen) rfl h
end
end NX
end Go.Proofs.YtadebhbiglmodaaGreat
/-
  The function slices.Clone[[]int,int]: its code compiled, a model, and that the code answers as the model. Written by a program of ours (lb.py). No statement of the seat is proved here.
-/
namespace Go.Proofs.YtadebhbiglmodaaGreat
namespace NX
open Go
set_option maxRecDepth 100000
set_option maxHeartbeats 4000000
def e109:EC:=.seq (.reg [(Qa 2 (.mv (.c .nl)))]) (.seq (.seq (.reg [(Qa 3 (.mv (.t 0))),(Qa 4 (.isnil false (.t 3)))]) (.ite (.t 4) (.seq (.reg [(Qa 2 (.mv (.c .nl)))]) (.ret)) (.skip))) (.seq (.reg [(Qa 5 (.bsl 3 1 0 [.iv 0] [])),(Qa 6 (.mv (.t 0))),(Qa 7 (.app 3 1 8 (.t 5) (.t 6))),(Qa 2 (.mv (.t 7)))]) (.ret)))
theorem ok109:FnOK Tryz.prog 109 Tryz.f109 e109 [.t 2] 1 7:=⟨by kernel_rfl,⟨_,rfl,by kernel_rfl⟩,by kernel_rfl,by kernel_rfl⟩
noncomputable def Zxa (x1:(List Int)):Option (List Int):=Za4 8 [] x1
theorem Zya (x1:(List Int)) (r:(List Int)) (h:Zxa x1=some r):FunO Tryz.prog 109 [.sl 1 (List.map Z45 x1)] 3 1 (List.map Z45 r):=by
 refine Zc5 ok109 rfl fun w0 H0=>?_
 rw [Zxa] at h
 refine Zl2 100 ?_
 dsimp only [e109,go_sem]
 refine ⟨by simp,?_⟩
 refine V_isnil trivial rfl (fun hn=>?_) ?_
 ·refine Zl2 100 ?_
  dsimp only [go_sem]
  refine ⟨by simp,?_⟩
  refine V_own 2 3 1 rfl rfl ?_
  dsimp only [go_sem]
  have hn:x1=[]:=by simpa using hn
  subst hn
  exact Zj5 Z45 (e:=[]) ok109 (by simpa [Za4] using h) rfl rfl
 ·refine Zl2 100 ?_
  dsimp only [go_sem]
  refine ⟨by simp,?_⟩
  refine Zt4 Z45 h trivial rfl rfl rfl ?_
  refine Zl2 100 ?_
  dsimp only [go_sem]
  refine ⟨by simp,?_⟩
  exact Zj5 Z45 ok109 (rfl:some r=some r) rfl rfl
theorem k_slices_Clone_int (x1:(List Int)) (r:(List Int)) (h:Zxa x1=some r):Zq2 Tryz.prog 109 [.sl 1 (List.map Z45 x1)] (.sl 1 (List.map Z45 r)):=(Zya x1 r h).sealed
def Zza (_F:Nat) (x1:(List Int)):Option (List Int):=Za4 8 [] x1
theorem le_slices_Clone_int {F:Nat} {x1:(List Int)}:ole (Zza F x1) (Zxa x1):=Zf4 _
set_option maxRecDepth 100000
set_option maxHeartbeats 4000000
def Z0b:EC:=.seq (.seq (.reg [(Qa 29 (.mv (.t 5))),(Qa 30 (.mv (.t 4))),(Qa 31 (.len (.t 30))),(Qa 32 (.bin .lss (.t 29) (.t 31)))]) (.ite (.t 32) (.skip) (.exit 2))) (.seq (.blk 3 (.seq (.drw [(Qa 35 (.mv (.t 4))),(Qa 36 (.mv (.t 5))),(Qa 37 (.idx 1 (.t 35) (.t 36))),(Qa 38 (.load (.t 37))),(Qa 39 (.mv (.t 4))),(Qa 40 (.mv (.t 5))),(Qa 41 (.bin .sub (.t 40) (.c (.iv 1)))),(Qa 42 (.idx 1 (.t 39) (.t 41))),(Qa 43 (.load (.t 42))),(Qa 44 (.bin .neq (.t 38) (.t 43)))] [[],[],[0,1],[2],[],[],[5],[4,6],[7],[3,8]] [[2],[2],[0,1,3],[2,9],[7],[6],[5,7],[4,6,8],[7,9],[3,8]]) (.ite (.t 44) (.seq (.reg [(Qa 45 (.mv (.t 0))),(Qa 46 (.mv (.t 3))),(Qa 47 (.mv (.t 4))),(Qa 48 (.mv (.t 5))),(Qa 49 (.idx 1 (.t 47) (.t 48))),(Qa 50 (.load (.t 49))),(Qa 51 (.idx 1 (.t 45) (.t 46))),(Qb (.store 1 (.t 51) (.t 50)))]) (.reg [(Qa 52 (.mv (.t 3))),(Qa 53 (.bin .add (.t 52) (.c (.iv 1)))),(Qa 3 (.mv (.t 53)))])) (.skip)))) (.reg [(Qa 33 (.mv (.t 5))),(Qa 34 (.bin .add (.t 33) (.c (.iv 1)))),(Qa 5 (.mv (.t 34)))]))
def Z1b:EC:=.seq (.seq (.reg [(Qa 10 (.mv (.t 3))),(Qa 11 (.mv (.t 0))),(Qa 12 (.len (.t 11))),(Qa 13 (.bin .lss (.t 10) (.t 12)))]) (.ite (.t 13) (.skip) (.exit 0))) (.seq (.blk 1 (.seq (.drw [(Qa 16 (.mv (.t 0))),(Qa 17 (.mv (.t 3))),(Qa 18 (.idx 1 (.t 16) (.t 17))),(Qa 19 (.load (.t 18))),(Qa 20 (.mv (.t 0))),(Qa 21 (.mv (.t 3))),(Qa 22 (.bin .sub (.t 21) (.c (.iv 1)))),(Qa 23 (.idx 1 (.t 20) (.t 22))),(Qa 24 (.load (.t 23))),(Qa 25 (.bin .eql (.t 19) (.t 24)))] [[],[],[0,1],[2],[],[],[5],[4,6],[7],[3,8]] [[2],[2],[0,1,3],[2,9],[7],[6],[5,7],[4,6,8],[7,9],[3,8]]) (.ite (.t 25) (.seq (.reg [(Qa 26 (.mv (.t 0))),(Qa 27 (.mv (.t 3))),(Qa 28 (.slice 1 (.t 26) (some (.t 27)) none)),(Qa 4 (.mv (.t 28)))]) (.seq (.seq (.reg [(Qa 5 (.mv (.c (.iv 1))))]) (.blk 2 (.loop Z0b))) (.seq (.reg [(Qa 54 (.mv (.t 0))),(Qa 55 (.mv (.t 3))),(Qa 56 (.slice 1 (.t 54) (some (.t 55)) none)),(Qb .bad)]) (.seq (.reg [(Qa 57 (.mv (.t 0))),(Qa 58 (.mv (.t 3))),(Qa 59 (.slice 1 (.t 57) none (some (.t 58)))),(Qa 2 (.mv (.t 59)))]) (.ret))))) (.skip)))) (.reg [(Qa 14 (.mv (.t 3))),(Qa 15 (.bin .add (.t 14) (.c (.iv 1)))),(Qa 3 (.mv (.t 15)))]))
def e127:EC:=.seq (.reg [(Qa 2 (.mv (.c .nl)))]) (.seq (.seq (.reg [(Qa 6 (.mv (.t 0))),(Qa 7 (.len (.t 6))),(Qa 8 (.bin .lss (.t 7) (.c (.iv 2))))]) (.ite (.t 8) (.seq (.reg [(Qa 9 (.mv (.t 0))),(Qa 2 (.mv (.t 9)))]) (.ret)) (.skip))) (.seq (.seq (.reg [(Qa 3 (.mv (.c (.iv 1))))]) (.blk 0 (.loop Z1b))) (.seq (.reg [(Qa 60 (.mv (.t 0))),(Qa 2 (.mv (.t 60)))]) (.ret))))
theorem ok127:FnOK Tryz.prog 127 Tryz.f127 e127 [.t 2] 1 60:=⟨by kernel_rfl,⟨_,rfl,by kernel_rfl⟩,by kernel_rfl,by kernel_rfl⟩
noncomputable def Z2b (x1:(List Int)):Unit→Option (List Int)
| ()=>
 some x1
noncomputable def Z3b (x1:(List Int)):Int→Option (Int ⊕ (List Int))
| x21=>
 ifb (decide (x21<(ln Z45 x1))) (
 (at_ x1 x21).bind fun x22=>
 (at_ x1 (wr (x21-1))).bind fun x23=>
 ifb (decide (x22=x23)) (
 none) (
 some (.inl (wr (x21+1))))) (
 Option.map Sum.inr ((Z2b x1) ()))
noncomputable def Z4b (x1:(List Int)):Option (List Int):=
 ifb (decide ((ln Z45 x1)<2)) (
 some x1) (
 loop (Z3b x1) 1)
theorem Z5b (x1:(List Int)) (r:(List Int)) (h:Z4b x1=some r):Zq2 Tryz.prog 127 [.sl 1 (List.map Z45 x1)] (.sl 1 (List.map Z45 r)):=by
 refine Zu2 ok127 rfl rfl fun w0 H0=>?_
 rw [Z4b] at h
 refine Zl2 11 ?_;dsimp only [e127,Z1b,Z0b,go_sem];refine ⟨by simp,?_⟩;refine Zn4 h rfl (fun _ h=>?_) fun _ h=>?_
 ·refine Zl2 5 ?_;dsimp only [e127,Z1b,Z0b,go_sem];refine ⟨by simp,?_⟩;exact Zx4 (res:=fun (r:(List Int))=>.sl 1 (List.map Z45 r)) ok127 h
 ·refine Zl2 6 ?_;dsimp only [e127,Z1b,Z0b,go_sem];refine ⟨by simp,?_⟩;refine Zl4 (fun (_:Unit)=>(⟨(.sl 1 (List.map Z45 x1)::an 60 []),[],[]⟩:St)) (Z2b x1) r ?_ fun J1=>?_
  ·rintro ⟨⟩ h;rw [Z2b] at h;(try dsimp only);refine Zl2 5 ?_;dsimp only [e127,Z1b,Z0b,go_sem];refine ⟨by simp,?_⟩;exact Zx4 (res:=fun (r:(List Int))=>.sl 1 (List.map Z45 r)) ok127 h
  ·refine Zl2 1 ?_;dsimp only [e127,Z1b,Z0b,go_sem];refine ⟨by simp,?_⟩;refine Zm4 h (fun (x21:Int)=>(⟨(.sl 1 (List.map Z45 x1) :: .any :: .any :: .iv x21::an 57 []),[],[]⟩:St)) (by simp [go_sem]) (by intro x21;first | rfl | simp [go_sem]) ?_;rintro n1 x21 y1 h hin1 hout1;rw [Z3b] at h;(try dsimp only);refine Zl2 8 ?_;dsimp only [e127,Z1b,Z0b,go_sem];refine ⟨by simp,?_⟩;refine Zn4 h rfl (fun _ h=>?_) fun _ h=>?_
   ·refine Zl2 4 ?_;dsimp only [e127,Z1b,Z0b,go_sem];refine ⟨by simp,?_⟩;refine Zh3 (by kernel_rfl) fun all hall hs hnap haf=>?_;dsimp only [go_sem];refine Zh5 hall hs haf hnap 5 5 ?_;dsimp only [go_sem];refine ⟨by simp,?_⟩;obtain ⟨x22,ex22,h⟩:=Option.bind_eq_some_iff.1 h;refine Zr4 hall hs haf hnap 2 Z45 ex22 rfl rfl trivial rfl rfl rfl rfl ?_;refine Zh5 hall hs haf hnap 1 3 ?_;dsimp only [go_sem];refine ⟨by simp,?_⟩;obtain ⟨x23,ex23,h⟩:=Option.bind_eq_some_iff.1 h
    refine Zr4 hall hs haf hnap 7 Z45 ex23 rfl rfl trivial rfl rfl rfl rfl ?_;refine Zh5 hall hs haf hnap 2 0 ?_;dsimp only [go_sem];refine ⟨by simp,?_⟩;refine Zs3 rfl ?_ _;refine Zn4 h rfl (fun _ h=>?_) fun _ h=>?_
    ·cases h
    ·refine Zl2 7 ?_;dsimp only [e127,Z1b,Z0b,go_sem];refine ⟨by simp,?_⟩;exact Zy4 h hin1
   ·refine Zl2 1 ?_;dsimp only [e127,Z1b,Z0b,go_sem];refine ⟨by simp,?_⟩;exact Zz4 J1 (s:=()) (Zk4 h hout1)
set_option maxRecDepth 100000
def laysSort_ren:Go.Shelf.Ren:=⟨(fun | 189=>126 | 125=>132 | 257=>131 | 128=>142 | 129=>143 | 294=>133 | 295=>134 | 296=>135 | 297=>136 | 298=>137 | 299=>138 | 216=>139 | 300=>140 | 301=>141 | 328=>144 | 329=>145 | 330=>146 | 331=>147 | 332=>148 | 215=>130 | 343=>149 | n=>n),(fun | 28=>43 | 3=>3 | 46=>152 | 0=>0 | 51=>162 | 53=>165 | 4=>4 | 183=>172 | 182=>171 | 131=>177 | 5=>5 | 9=>9 | 218=>181 | 222=>185 | 228=>187 | 229=>188 | n=>n),(fun | n=>n)⟩
theorem laysSort:Lays.n189 Tryz.prog laysSort_ren where
 mixed:=by kernel_rfl
 f125:=Tryz.func132.trans (congrArg some (by kernel_rfl))
 f128:=Tryz.func142.trans (congrArg some (by kernel_rfl))
 f129:=Tryz.func143.trans (congrArg some (by kernel_rfl))
 f189:=Tryz.func126.trans (congrArg some (by kernel_rfl))
 f215:=Tryz.func130.trans (congrArg some (by kernel_rfl))
 f216:=Tryz.func139.trans (congrArg some (by kernel_rfl))
 f257:=Tryz.func131.trans (congrArg some (by kernel_rfl))
 f294:=Tryz.func133.trans (congrArg some (by kernel_rfl))
 f295:=Tryz.func134.trans (congrArg some (by kernel_rfl))
 f296:=Tryz.func135.trans (congrArg some (by kernel_rfl))
 f297:=Tryz.func136.trans (congrArg some (by kernel_rfl))
 f298:=Tryz.func137.trans (congrArg some (by kernel_rfl))
 f299:=Tryz.func138.trans (congrArg some (by kernel_rfl))
 f300:=Tryz.func140.trans (congrArg some (by kernel_rfl))
 f301:=Tryz.func141.trans (congrArg some (by kernel_rfl))
 f328:=Tryz.func144.trans (congrArg some (by kernel_rfl))
 f329:=Tryz.func145.trans (congrArg some (by kernel_rfl))
 f330:=Tryz.func146.trans (congrArg some (by kernel_rfl))
 f331:=Tryz.func147.trans (congrArg some (by kernel_rfl))
 f332:=Tryz.func148.trans (congrArg some (by kernel_rfl))
 f343:=Tryz.func149.trans (congrArg some (by kernel_rfl))
 t0:=Tryz.underlying0
 a0:=Tryz.isAgg0
 z0:=Tryz.sizeOf0
 v0:=Tryz.zeroValue0
 t3:=Tryz.underlying3
 a3:=Tryz.isAgg3
 z3:=Tryz.sizeOf3
 v3:=Tryz.zeroValue3
 t4:=Tryz.underlying4
 a4:=Tryz.isAgg4
 z4:=Tryz.sizeOf4
 v4:=Tryz.zeroValue4
 t5:=Tryz.underlying5
 a5:=Tryz.isAgg5
 z5:=Tryz.sizeOf5
 v5:=Tryz.zeroValue5
 t9:=Tryz.underlying9
 a9:=Tryz.isAgg9
 z9:=Tryz.sizeOf9
 v9:=Tryz.zeroValue9
 t28:=Tryz.underlying43
 a28:=Tryz.isAgg43
 z28:=Tryz.sizeOf43
 v28:=Tryz.zeroValue43
 t46:=Tryz.underlying152
 a46:=Tryz.isAgg152
 z46:=Tryz.sizeOf152
 v46:=Tryz.zeroValue152
 t51:=Tryz.underlying162
 a51:=Tryz.isAgg162
 z51:=Tryz.sizeOf162
 v51:=Tryz.zeroValue162
 t53:=Tryz.underlying165
 a53:=Tryz.isAgg165
 z53:=Tryz.sizeOf165
 v53:=Tryz.zeroValue165
 t131:=Tryz.underlying177
 a131:=Tryz.isAgg177
 z131:=Tryz.sizeOf177
 v131:=Tryz.zeroValue177
 t182:=Tryz.underlying171
 a182:=Tryz.isAgg171
 z182:=Tryz.sizeOf171
 v182:=Tryz.zeroValue171
 t183:=Tryz.underlying172
 a183:=Tryz.isAgg172
 z183:=Tryz.sizeOf172
 v183:=Tryz.zeroValue172
 t218:=Tryz.underlying181
 a218:=Tryz.isAgg181
 z218:=Tryz.sizeOf181
 v218:=Tryz.zeroValue181
 t222:=Tryz.underlying185
 a222:=Tryz.isAgg185
 z222:=Tryz.sizeOf185
 v222:=Tryz.zeroValue185
 t228:=Tryz.underlying187
 a228:=Tryz.isAgg187
 z228:=Tryz.sizeOf187
 v228:=Tryz.zeroValue187
 t229:=Tryz.underlying188
 a229:=Tryz.isAgg188
 z229:=Tryz.sizeOf188
 v229:=Tryz.zeroValue188
def e114:EC:=.seq (.reg [(Qa 2 (.mv (.c .nl)))]) (.seq (.reg [(Qa 4 (.mv (.t 0))),(Qa 5 (.call 109 [(.t 4)])),(Qa 3 (.mv (.t 5)))]) (.seq (.reg [(Qa 6 (.mv (.t 3))),(Qa 7 (.call 126 [(.t 6)]))]) (.seq (.reg [(Qa 8 (.mv (.t 3))),(Qa 9 (.call 127 [(.t 8)])),(Qa 2 (.mv (.t 9)))]) (.ret))))
theorem ok114:FnOK Tryz.prog 114 Tryz.f114 e114 [.t 2] 1 9:=⟨by kernel_rfl,⟨_,rfl,by kernel_rfl⟩,by kernel_rfl,by kernel_rfl⟩
noncomputable def Z6b (x1:List Int):Option (List Int):=
 (Zxa x1).bind fun x2=>
 ifb (decide (x2.length<4611686018427387904)) (
 Z4b (x2.mergeSort fun x y=>decide (x≤y))) none
theorem k_set_Of (x1:List Int) (r:List Int) (h:Z6b x1=some r):Zq2 Tryz.prog 114 [.sl 1 (List.map Z45 x1)] (.sl 1 (List.map Z45 r)):=by
 refine Zu2 ok114 rfl rfl fun w0 H0=>?_
 rw [Z6b] at h
 refine Zl2 100 ?_
 dsimp only [e114,go_sem]
 refine ⟨by simp,?_⟩
 obtain ⟨x2,ex2,h⟩:=Option.bind_eq_some_iff.1 h
 refine Zd5 trivial (Zya x1 _ ex2) (by first | exact Z94 _ | simp [go_sem]) (by first | rfl | simp [go_sem]) ?_
 refine Zl2 100 ?_
 dsimp only [e114,go_sem]
 refine ⟨by simp,?_⟩
 by_cases hl:x2.length<4611686018427387904
 ·rw [show decide (x2.length<4611686018427387904)=true from decide_eq_true hl] at h
  have h:Z4b (x2.mergeSort fun x y=>decide (x≤y))=some r:=h
  refine V_sort laysSort x2 trivial (by kernel_rfl) rfl rfl hl ?_
  refine Zl2 100 ?_
  dsimp only [e114,go_sem]
  refine ⟨by simp,?_⟩
  refine Z83 0 rfl ?_
  dsimp only [go_sem]
  refine Zz2 trivial (Z5b _ _ h) (by first | exact Z94 _ | simp [go_sem]) (by first | rfl | simp [go_sem]) ?_
  refine Zl2 100 ?_
  dsimp only [e114,go_sem]
  refine ⟨by simp,?_⟩
  exact Zx4 (res:=fun (r:List Int)=>.sl 1 (List.map Z45 r)) ok114 rfl (by first | exact le_refl _ | simp [go_sem])
 ·rw [show decide (x2.length<4611686018427387904)=false from decide_eq_false hl] at h
  cases h
set_option maxRecDepth 100000
set_option maxHeartbeats 4000000
def Z7b:EC:=.seq (.reg [(Qa 15 (.bin .lss (.t 14) (.t 13)))]) (.seq (.ite (.t 15) (.skip) (.exit 0)) (.seq (.blk 1 (.seq (.reg [(Qa 16 (.idx 2 (.t 12) (.t 14))),(Qa 17 (.loadA 2 (.t 16))),(Qa 7 (.alloc 29 [.iv 0,.iv 0])),(Qb (.store 2 (.t 7) (.t 17)))]) (.seq (.reg [(Qa 18 (.mv (.t 1)))]) (.blk 2 (.seq (.reg [(Qa 20 (.fld 0 (.t 7))),(Qa 21 (.load (.t 20))),(Qa 22 (.bin .eql (.t 18) (.t 21))),(Qa 19 (.mv (.t 22)))]) (.ite (.t 19) (.reg [(Qa 23 (.mv (.t 5))),(Qa 24 (.fld 1 (.t 7))),(Qa 25 (.load (.t 24))),(Qa 26 (.bsl 3 1 1 [.iv 0] [(0,(.t 25))])),(Qa 27 (.app 3 1 8 (.t 23) (.t 26))),(Qa 5 (.mv (.t 27)))]) (.seq (.reg [(Qa 29 (.fld 1 (.t 7))),(Qa 30 (.load (.t 29))),(Qa 31 (.bin .eql (.t 18) (.t 30))),(Qa 28 (.mv (.t 31)))]) (.ite (.t 28) (.reg [(Qa 32 (.mv (.t 5))),(Qa 33 (.fld 0 (.t 7))),(Qa 34 (.load (.t 33))),(Qa 35 (.bsl 3 1 1 [.iv 0] [(0,(.t 34))])),(Qa 36 (.app 3 1 8 (.t 32) (.t 35))),(Qa 5 (.mv (.t 36)))]) (.skip))))))))) (.reg [(Qa 37 (.bin .add (.t 14) (.c (.iv 1)))),(Qa 14 (.mv (.t 37)))])))
def e88:EC:=.seq (.reg [(Qa 2 (.box 48 2 (.t 0))),(Qa 4 (.mv (.c .nl)))]) (.seq (.seq (.reg [(Qa 8 (.loadA 2 (.t 2))),(Qa 9 (.call 80 [(.t 8)])),(Qa 10 (.bin .neq (.t 9) (.c (.iv 0))))]) (.ite (.t 10) (.seq (.reg [(Qa 4 (.mv (.c .nl)))]) (.ret)) (.skip))) (.seq (.reg [(Qa 5 (.mv (.c .nl)))]) (.seq (.seq (.reg [(Qa 11 (.fld 1 (.t 2))),(Qa 12 (.load (.t 11))),(Qa 13 (.len (.t 12))),(Qa 14 (.mv (.c (.iv 0))))]) (.blk 0 (.loop Z7b))) (.seq (.reg [(Qa 38 (.mv (.t 5))),(Qa 39 (.call 114 [(.t 38)])),(Qa 4 (.mv (.t 39)))]) (.ret)))))
theorem ok88:FnOK Tryz.prog 88 Tryz.f88 e88 [.t 4] 2 38:=⟨by kernel_rfl,⟨_,rfl,by kernel_rfl⟩,by kernel_rfl,by kernel_rfl⟩
noncomputable def Z8b:(List Int)→Option (List Int)
| x23=>
 (Z6b x23).bind fun x24=>
 some x24
noncomputable def Z9b (x10:Int):(List Int)→Option ((Int×(List Int)) ⊕ (List Int))
| x15=>
 some (.inl (wr (x10+1),x15))
noncomputable def Zab (x1:Graph) (x2:Int):(Int×(List Int))→Option ((Int×(List Int)) ⊕ (List Int))
| (x10,x11)=>
 ifb (decide (x10<(ln Edge.row x1.Edges))) (
 (at_ x1.Edges x10).bind fun x12=>
 ifb (decide (x2=x12.A)) (
 (Za4 8 x11 ([x12.B])).bind fun x13=>
 (Z9b x10) x13) (
 ifb (decide (x2=x12.B)) (
 (Za4 8 x11 ([x12.A])).bind fun x14=>
 (Z9b x10) x14) (
 (Z9b x10) x11))) (
 Option.map Sum.inr (Z8b x11))
noncomputable def Zbb (x1:Graph) (x2:Int):Option (List Int):=
 (Z97 x1).bind fun x3=>
 ifb (!decide (x3=0)) (
 some ([]:(List Int))) (
 loop (Zab x1 x2) (0,([]:List Int)))
theorem Zcb (x1:Graph) (x2:Int) (r:(List Int)) (h:Zbb x1 x2=some r):Zq2 Tryz.prog 88 [.agg (Graph.row x1),.iv x2] (.sl 1 (List.map Z45 r)):=by
 refine Zu2 ok88 rfl rfl fun w0 H0=>?_
 rw [Zbb] at h
 refine Zl2 9 ?_;dsimp only [e88,Z7b,go_sem];refine ⟨by simp,?_⟩;obtain ⟨x3,ex3,h⟩:=Option.bind_eq_some_iff.1 h;refine Zz2 trivial (Za7 x1 _ ex3) (h:=?_);refine Zl2 2 ?_;dsimp only [e88,Z7b,go_sem];refine ⟨by simp,?_⟩;refine Zn4 h rfl (fun _ h=>?_) fun _ h=>?_
 ·refine Zl2 4 ?_;dsimp only [e88,Z7b,go_sem];refine ⟨by simp,?_⟩;exact Zx4 (res:=fun (r:(List Int))=>.sl 1 (List.map Z45 r)) ok88 h
 ·refine Zl2 13 ?_;dsimp only [e88,Z7b,go_sem];refine ⟨by simp,?_⟩;refine Zl4 (fun (x23:(List Int))=>(⟨(an 5 (.osl 0::an 34 [])),[],[some ⟨3,1,List.map Z45 x23⟩]⟩:St)) Z8b r ?_ fun J1=>?_
  ·intro x23 h;rw [Z8b] at h;(try dsimp only);refine Zl2 3 ?_;dsimp only [e88,Z7b,go_sem];refine ⟨by simp,?_⟩;refine Z83 0 rfl ?_;dsimp only [go_sem];obtain ⟨x24,ex24,h⟩:=Option.bind_eq_some_iff.1 h;refine Zz2 trivial (k_set_Of x23 _ ex24) (h:=?_);refine Zl2 2 ?_;dsimp only [e88,Z7b,go_sem];refine ⟨by simp,?_⟩;exact Zx4 (res:=fun (r:(List Int))=>.sl 1 (List.map Z45 r)) ok88 h
  ·refine Zl2 1 ?_;dsimp only [e88,Z7b,go_sem];refine ⟨by simp,?_⟩;refine V_own 5 3 1 rfl rfl ?_;dsimp only [go_sem];refine Zm4 h (fun ((x10,x11):(Int×(List Int)))=>(⟨(.any :: .iv x2::an 3 (.osl 0::an 6 (.sl 2 (List.map Edge.row x1.Edges) :: .iv (ln Edge.row x1.Edges) :: .iv x10::an 25 []))),[],[some ⟨3,1,List.map Z45 x11⟩]⟩:St)) (by simp [go_sem]) (by rintro ⟨x10,x11⟩;first | rfl | simp [go_sem]) ?_;rintro n1 ⟨x10,x11⟩ y1 h hin1 hout1;rw [Zab] at h;(try dsimp only);refine Zl2 5 ?_;dsimp only [e88,Z7b,go_sem];refine ⟨by simp,?_⟩
   refine Zn4 h rfl (fun _ h=>?_) fun _ h=>?_
   ·refine Zl2 5 ?_;dsimp only [e88,Z7b,go_sem];refine ⟨by simp,?_⟩;obtain ⟨x12,ex12,h⟩:=Option.bind_eq_some_iff.1 h;refine Zq4 Edge.row ex12 trivial rfl rfl rfl ?_;refine Zl2 16 ?_;dsimp only [e88,Z7b,go_sem];refine ⟨by simp,?_⟩;refine Zl4 (fun (x15:(List Int))=>(⟨(.any :: .iv x2::an 3 (.osl 0::an 6 (.sl 2 (List.map Edge.row x1.Edges) :: .iv (ln Edge.row x1.Edges) :: .iv x10::an 25 []))),[],[some ⟨3,1,List.map Z45 x15⟩]⟩:St)) (Z9b x10) y1 ?_ fun J2=>?_
    ·intro x15 h;rw [Z9b] at h;(try dsimp only);refine Zl2 6 ?_;dsimp only [e88,Z7b,go_sem];refine ⟨by simp,?_⟩;exact Zy4 h hin1
    ·refine Zn4 h rfl (fun _ h=>?_) fun _ h=>?_
     ·refine Zl2 5 ?_;dsimp only [e88,Z7b,go_sem];refine ⟨by simp,?_⟩;obtain ⟨x13,ex13,h⟩:=Option.bind_eq_some_iff.1 h;refine Zt4 Z45 ex13 trivial rfl rfl rfl ?_;refine Zl2 2 ?_;dsimp only [e88,Z7b,go_sem];refine ⟨by simp,?_⟩;refine Z44 2 0 rfl rfl rfl ?_;dsimp only [go_sem];exact Zz4 J2 (s:=x13) h
     ·refine Zl2 7 ?_;dsimp only [e88,Z7b,go_sem];refine ⟨by simp,?_⟩;refine Zn4 h rfl (fun _ h=>?_) fun _ h=>?_
      ·refine Zl2 5 ?_;dsimp only [e88,Z7b,go_sem];refine ⟨by simp,?_⟩;obtain ⟨x14,ex14,h⟩:=Option.bind_eq_some_iff.1 h;refine Zt4 Z45 ex14 trivial rfl rfl rfl ?_;refine Zl2 2 ?_;dsimp only [e88,Z7b,go_sem];refine ⟨by simp,?_⟩;refine Z44 2 0 rfl rfl rfl ?_;dsimp only [go_sem];exact Zz4 J2 (s:=x14) h
      ·refine Zl2 1 ?_;dsimp only [e88,Z7b,go_sem];refine ⟨by simp,?_⟩;exact Zz4 J2 (s:=x11) h
   ·refine Zl2 1 ?_;dsimp only [e88,Z7b,go_sem];refine ⟨by simp,?_⟩;exact Zz4 J1 (s:=x11) (Zk4 h hout1)
set_option maxRecDepth 100000
set_option maxHeartbeats 4000000
def Zdb:EC:=.seq (.reg [(Qa 34 (.bin .lss (.t 33) (.t 32)))]) (.seq (.ite (.t 34) (.skip) (.exit 2)) (.seq (.blk 3 (.seq (.reg [(Qa 35 (.idx 1 (.t 31) (.t 33))),(Qa 36 (.load (.t 35))),(Qa 11 (.mv (.t 36)))]) (.seq (.drw [(Qa 37 (.mv (.t 1))),(Qa 38 (.mv (.t 8))),(Qa 39 (.idx 1 (.t 37) (.t 38))),(Qa 40 (.load (.t 39))),(Qa 41 (.mv (.t 1))),(Qa 42 (.mv (.t 11))),(Qa 43 (.idx 1 (.t 41) (.t 42))),(Qa 44 (.load (.t 43))),(Qa 45 (.bin .gtr (.t 40) (.t 44))),(Qa 12 (.mv (.t 45)))] [[],[],[0,1],[2],[],[],[4,5],[6],[3,7],[8,0,1,2,3,4,5,6,7,8]] [[2],[2],[0,1,3],[2,8],[6],[6],[4,5,7],[6,8],[3,7,9],[8]]) (.reg [(Qa 46 (.fld 2 (.t 9))),(Qa 47 (.load (.t 46))),(Qa 48 (.mv (.t 11))),(Qa 49 (.mv (.t 12))),(Qa 50 (.mv (.t 12))),(Qa 51 (.mv (.t 12))),(Qa 52 (.mv (.t 12))),(Qa 53 (.not (.t 52))),(Qa 54 (.mv (.t 12))),(Qa 55 (.not (.t 54))),(Qa 56 (.build [.iv 0,.iv 0,.iv 0,.ff,.ff,.ff,.ff,.ff] [(0,1,(.t 48)),(1,1,(.c (.iv 1))),(3,1,(.t 49)),(4,1,(.t 50)),(6,1,(.t 51)),(5,1,(.t 53)),(7,1,(.t 55))])),(Qa 57 (.bsl 65 8 1 [.iv 0,.iv 0,.iv 0,.ff,.ff,.ff,.ff,.ff] [(0,(.t 56))])),(Qa 58 (.app 65 8 32 (.t 47) (.t 57))),(Qa 59 (.fld 2 (.t 9))),(Qb (.store 1 (.t 59) (.t 58)))])))) (.reg [(Qa 60 (.bin .add (.t 33) (.c (.iv 1)))),(Qa 33 (.mv (.t 60)))])))
def Zeb:EC:=.seq (.reg [(Qa 25 (.bin .lss (.t 24) (.t 23)))]) (.seq (.ite (.t 25) (.skip) (.exit 0)) (.seq (.blk 1 (.seq (.reg [(Qa 26 (.mv (.t 24))),(Qa 8 (.mv (.t 26)))]) (.seq (.reg [(Qa 27 (.mv (.t 8))),(Qa 28 (.build [.iv 0,.iv 0,.nl] [(0,1,(.t 27))])),(Qa 9 (.alloc 70 [.iv 0,.iv 0,.nl])),(Qb (.store 3 (.t 9) (.t 28)))]) (.seq (.seq (.reg [(Qa 29 (.loadA 2 (.t 2))),(Qa 30 (.mv (.t 8))),(Qa 31 (.call 88 [(.t 29),(.t 30)])),(Qa 32 (.len (.t 31))),(Qa 33 (.mv (.c (.iv 0))))]) (.blk 2 (.loop Zdb))) (.reg [(Qa 61 (.mv (.t 7))),(Qa 62 (.loadA 3 (.t 9))),(Qa 63 (.bsl 70 3 1 [.iv 0,.iv 0,.nl] [(0,(.t 62))])),(Qa 64 (.app 70 3 40 (.t 61) (.t 63))),(Qa 7 (.mv (.t 64)))]))))) (.reg [(Qa 65 (.bin .add (.t 24) (.c (.iv 1)))),(Qa 24 (.mv (.t 65)))])))
def e56:EC:=.seq (.reg [(Qa 2 (.box 48 2 (.t 0))),(Qa 4 (.mv (.c .nl))),(Qa 5 (.mv (.c (.iv 0))))]) (.seq (.seq (.reg [(Qa 13 (.loadA 2 (.t 2))),(Qa 14 (.call 80 [(.t 13)])),(Qa 6 (.mv (.t 14)))]) (.seq (.reg [(Qa 15 (.mv (.t 6))),(Qa 16 (.bin .neq (.t 15) (.c (.iv 0))))]) (.ite (.t 16) (.seq (.reg [(Qa 17 (.mv (.t 6))),(Qa 4 (.mv (.c .nl))),(Qa 5 (.mv (.t 17)))]) (.ret)) (.skip)))) (.seq (.seq (.reg [(Qa 18 (.loadA 2 (.t 2))),(Qa 19 (.mv (.t 1))),(Qa 20 (.call 87 [(.t 18),(.t 19)])),(Qa 21 (.not (.t 20)))]) (.ite (.t 21) (.seq (.reg [(Qa 4 (.mv (.c .nl))),(Qa 5 (.mv (.c (.iv 120))))]) (.ret)) (.skip))) (.seq (.reg [(Qa 7 (.mv (.c .nl)))]) (.seq (.seq (.reg [(Qa 22 (.fld 0 (.t 2))),(Qa 23 (.load (.t 22))),(Qa 24 (.mv (.c (.iv 0))))]) (.blk 0 (.loop Zeb))) (.seq (.reg [(Qa 66 (.mv (.t 7))),(Qa 4 (.mv (.t 66))),(Qa 5 (.mv (.c (.iv 0))))]) (.ret))))))
theorem ok56:FnOK Tryz.prog 56 Tryz.f56 e56 [.t 4,.t 5] 2 65:=⟨by kernel_rfl,⟨_,rfl,by kernel_rfl⟩,by kernel_rfl,by kernel_rfl⟩
noncomputable def Zfb:(List Diner)→Option ((List Diner)×Int)
| x68=>
 some (x68,0)
noncomputable def Zgb (x31:Int) (x32:(List Diner)):(List Side)→Option ((Int×(List Diner)) ⊕ ((List Diner)×Int))
| x59=>
 (Za4 40 x32 ([(Diner.mk x31 0 x59)])).bind fun x60=>
 some (.inl (wr (x31+1),x60))
noncomputable def Zhb (x2:(List Int)) (x31:Int) (x32:(List Diner)) (x33:(List Int)):(Int×(List Side))→Option ((Int×(List Side)) ⊕ ((Int×(List Diner)) ⊕ ((List Diner)×Int)))
| (x40,x41)=>
 ifb (decide (x40<(ln Z45 x33))) (
 (at_ x33 x40).bind fun x42=>
 (at_ x2 x31).bind fun x43=>
 (at_ x2 x42).bind fun x44=>
 (Za4 32 x41 ([(Side.mk x42 1 0 (decide (x44<x43)) (decide (x44<x43)) (!(decide (x44<x43))) (decide (x44<x43)) (!(decide (x44<x43))))])).bind fun x45=>
 some (.inl (wr (x40+1),x45))) (
 Option.map Sum.inr ((Zgb x31 x32) x41))
noncomputable def Zib (x1:Graph) (x2:(List Int)):(Int×(List Diner))→Option ((Int×(List Diner)) ⊕ ((List Diner)×Int))
| (x31,x32)=>
 ifb (decide (x31<x1.N)) (
 (Zbb x1 x31).bind fun x33=>
 loop (Zhb x2 x31 x32 x33) (0,([]:List Side))) (
 Option.map Sum.inr (Zfb x32))
noncomputable def Zjb (x1:Graph) (x2:(List Int)):Option ((List Diner)×Int):=
 (Z97 x1).bind fun x3=>
 ifb (!decide (x3=0)) (
 some (([]:(List Diner)),x3)) (
 (Zaa x1 x2).bind fun x4=>
 ifb (!x4) (
 some (([]:(List Diner)),120)) (
 loop (Zib x1 x2) (0,([]:List Diner))))
theorem k_place_Table (x1:Graph) (x2:(List Int)) (r:((List Diner)×Int)) (h:Zjb x1 x2=some r):Zq2 Tryz.prog 56 [.agg (Graph.row x1),.sl 1 (List.map Z45 x2)] (.tup [.sl 3 (List.map Diner.row r.1),.iv r.2]):=by
 refine Zu2 ok56 rfl rfl fun w0 H0=>?_
 rw [Zjb] at h
 refine Zl2 10 ?_;dsimp only [e56,Zeb,Zdb,go_sem];refine ⟨by simp,?_⟩;obtain ⟨x3,ex3,h⟩:=Option.bind_eq_some_iff.1 h;refine Zz2 trivial (Za7 x1 _ ex3) (h:=?_);refine Zl2 7 ?_;dsimp only [e56,Zeb,Zdb,go_sem];refine ⟨by simp,?_⟩;refine Zn4 h rfl (fun _ h=>?_) fun _ h=>?_
 ·refine Zl2 6 ?_;dsimp only [e56,Zeb,Zdb,go_sem];refine ⟨by simp,?_⟩;exact Zx4 (res:=fun (r:((List Diner)×Int))=>.tup [.sl 3 (List.map Diner.row r.1),.iv r.2]) ok56 h
 ·refine Zl2 6 ?_;dsimp only [e56,Zeb,Zdb,go_sem];refine ⟨by simp,?_⟩;obtain ⟨x4,ex4,h⟩:=Option.bind_eq_some_iff.1 h;refine Zz2 trivial (Zba x1 x2 _ ex4) (h:=?_);refine Zl2 2 ?_;dsimp only [e56,Zeb,Zdb,go_sem];refine ⟨by simp,?_⟩;refine Zn4 h rfl (fun _ h=>?_) fun _ h=>?_
  ·refine Zl2 5 ?_;dsimp only [e56,Zeb,Zdb,go_sem];refine ⟨by simp,?_⟩;exact Zx4 (res:=fun (r:((List Diner)×Int))=>.tup [.sl 3 (List.map Diner.row r.1),.iv r.2]) ok56 h
  ·refine Zl2 12 ?_;dsimp only [e56,Zeb,Zdb,go_sem];refine ⟨by simp,?_⟩;refine Zl4 (fun (x68:(List Diner))=>(⟨(an 7 (.osl 0::an 59 [])),[],[some ⟨70,3,List.map Diner.row x68⟩]⟩:St)) Zfb r ?_ fun J1=>?_
   ·intro x68 h;rw [Zfb] at h;(try dsimp only);refine Zl2 6 ?_;dsimp only [e56,Zeb,Zdb,go_sem];refine ⟨by simp,?_⟩;refine Z83 0 rfl ?_;dsimp only [go_sem];exact Zx4 (res:=fun (r:((List Diner)×Int))=>.tup [.sl 3 (List.map Diner.row r.1),.iv r.2]) ok56 h
   ·refine Zl2 1 ?_;dsimp only [e56,Zeb,Zdb,go_sem];refine ⟨by simp,?_⟩;refine V_own 7 70 3 rfl rfl ?_;dsimp only [go_sem];refine Zm4 h (fun ((x31,x32):(Int×(List Diner)))=>(⟨(.any :: .sl 1 (List.map Z45 x2) :: .ptr 0 0::an 4 (.osl 0::an 15 (.iv x1.N :: .iv x31::an 42 []))),[some ⟨48,[.iv x1.N,.sl 2 (List.map Edge.row x1.Edges)]⟩],[some ⟨70,3,List.map Diner.row x32⟩]⟩:St)) (by simp [go_sem]) (by rintro ⟨x31,x32⟩;first | rfl | simp [go_sem]) ?_;rintro n1 ⟨x31,x32⟩ y1 h hin1 hout1;rw [Zib] at h;(try dsimp only);refine Zl2 5 ?_
    dsimp only [e56,Zeb,Zdb,go_sem];refine ⟨by simp,?_⟩;refine Zn4 h rfl (fun _ h=>?_) fun _ h=>?_
    ·refine Zl2 20 ?_;dsimp only [e56,Zeb,Zdb,go_sem];refine ⟨by simp,?_⟩;obtain ⟨x33,ex33,h⟩:=Option.bind_eq_some_iff.1 h;refine Zz2 trivial (Zcb x1 x31 _ ex33) (h:=?_);refine Zl2 3 ?_;dsimp only [e56,Zeb,Zdb,go_sem];refine ⟨by simp,?_⟩
     refine Zl4 (fun (x59:(List Side))=>(⟨(.any :: .sl 1 (List.map Z45 x2) :: .ptr 0 0::an 4 (.osl 0 :: .any :: .ptr 1 0::an 13 (.iv x1.N :: .iv x31::an 42 []))),[some ⟨48,[.iv x1.N,.sl 2 (List.map Edge.row x1.Edges)]⟩,some ⟨70,[.iv x31,.iv 0,.osl 1]⟩],[some ⟨70,3,List.map Diner.row x32⟩,some ⟨65,8,List.map Side.row x59⟩]⟩:St)) (Zgb x31 x32) y1 ?_ fun J2=>?_
     ·intro x59 h;rw [Zgb] at h;(try dsimp only);refine Zl2 3 ?_;dsimp only [e56,Zeb,Zdb,go_sem];refine ⟨by simp,?_⟩;refine Z83 1 rfl ?_;dsimp only [go_sem];refine Zl2 1 ?_;dsimp only [e56,Zeb,Zdb,go_sem];refine ⟨by simp,?_⟩;obtain ⟨x60,ex60,h⟩:=Option.bind_eq_some_iff.1 h;refine Zt4 Diner.row ex60 trivial rfl rfl rfl ?_;refine Zl2 7 ?_;dsimp only [e56,Zeb,Zdb,go_sem];refine ⟨by simp,?_⟩;refine Z44 3 0 rfl rfl rfl ?_;dsimp only [go_sem];exact Zy4 h hin1
     ·refine Zl2 1 ?_;dsimp only [e56,Zeb,Zdb,go_sem];refine ⟨by simp,?_⟩;refine V_ownB 1 2 65 8 rfl rfl rfl ?_;dsimp only [go_sem]
      refine Zm4 h (fun ((x40,x41):(Int×(List Side)))=>(⟨(.any :: .sl 1 (List.map Z45 x2) :: .ptr 0 0::an 4 (.osl 0 :: .iv x31 :: .ptr 1 0::an 13 (.iv x1.N :: .iv x31::an 6 (.sl 1 (List.map Z45 x33) :: .iv (ln Z45 x33) :: .iv x40::an 33 [])))),[some ⟨48,[.iv x1.N,.sl 2 (List.map Edge.row x1.Edges)]⟩,some ⟨70,[.iv x31,.iv 0,.osl 1]⟩],[some ⟨70,3,List.map Diner.row x32⟩,some ⟨65,8,List.map Side.row x41⟩]⟩:St)) (by simp [go_sem]) (by rintro ⟨x40,x41⟩;first | rfl | simp [go_sem]) ?_;rintro n2 ⟨x40,x41⟩ y2 h hin2 hout2;rw [Zhb] at h
      (try dsimp only);refine Zl2 5 ?_;dsimp only [e56,Zeb,Zdb,go_sem];refine ⟨by simp,?_⟩;refine Zn4 h rfl (fun _ h=>?_) fun _ h=>?_
      ·refine Zl2 5 ?_;dsimp only [e56,Zeb,Zdb,go_sem];refine ⟨by simp,?_⟩;obtain ⟨x42,ex42,h⟩:=Option.bind_eq_some_iff.1 h;refine Zq4 Z45 ex42 trivial rfl rfl rfl ?_;refine Zl2 4 ?_;dsimp only [e56,Zeb,Zdb,go_sem];refine ⟨by simp,?_⟩;refine Zh3 (by kernel_rfl) fun all hall hs hnap haf=>?_;dsimp only [go_sem];refine Zh5 hall hs haf hnap 4 6 ?_;dsimp only [go_sem];refine ⟨by simp,?_⟩;obtain ⟨x43,ex43,h⟩:=Option.bind_eq_some_iff.1 h;refine Zr4 hall hs haf hnap 2 Z45 ex43 rfl rfl trivial rfl rfl rfl rfl ?_
       refine Zh5 hall hs haf hnap 1 4 ?_;dsimp only [go_sem];refine ⟨by simp,?_⟩;obtain ⟨x44,ex44,h⟩:=Option.bind_eq_some_iff.1 h;refine Zr4 hall hs haf hnap 6 Z45 ex44 rfl rfl trivial rfl rfl rfl rfl ?_;refine Zh5 hall hs haf hnap 3 0 ?_;dsimp only [go_sem];refine ⟨by simp,?_⟩;refine Zs3 rfl ?_ _;refine Zl2 13 ?_;dsimp only [e56,Zeb,Zdb,go_sem];refine ⟨by simp,?_⟩;obtain ⟨x45,ex45,h⟩:=Option.bind_eq_some_iff.1 h;refine Zt4 Side.row ex45 trivial rfl rfl rfl ?_;refine Zl2 8 ?_;dsimp only [e56,Zeb,Zdb,go_sem]
       refine ⟨by simp,?_⟩;refine Z44 3 1 rfl rfl rfl ?_;dsimp only [go_sem];exact Zy4 h hin2
      ·refine Zl2 1 ?_;dsimp only [e56,Zeb,Zdb,go_sem];refine ⟨by simp,?_⟩;exact Zz4 J2 (s:=x41) (Zk4 h hout2)
    ·refine Zl2 1 ?_;dsimp only [e56,Zeb,Zdb,go_sem];refine ⟨by simp,?_⟩;exact Zz4 J1 (s:=x32) (Zk4 h hout1)
set_option maxRecDepth 100000
set_option maxHeartbeats 4000000
def Zkb:EC:=.seq (.seq (.reg [(Qa 19 (.mv (.t 8))),(Qa 20 (.fld 0 (.t 2))),(Qa 21 (.load (.t 20))),(Qa 22 (.bin .lss (.t 19) (.t 21)))]) (.ite (.t 22) (.skip) (.exit 2))) (.seq (.blk 3 (.seq (.seq (.reg [(Qa 25 (.loadA 2 (.t 2))),(Qa 26 (.mv (.t 6))),(Qa 27 (.mv (.t 8))),(Qa 28 (.call 90 [(.t 25),(.t 26),(.t 27)])),(Qa 29 (.not (.t 28)))]) (.ite (.t 29) (.exit 3) (.skip))) (.seq (.reg [(Qa 30 (.mv (.t 8))),(Qa 31 (.build [.iv 0,.iv 0,.iv 0,.ff,.ff,.ff,.ff,.ff] [(0,1,(.t 30)),(1,1,(.c (.iv 1)))])),(Qa 9 (.alloc 65 [.iv 0,.iv 0,.iv 0,.ff,.ff,.ff,.ff,.ff])),(Qb (.store 8 (.t 9) (.t 31)))]) (.seq (.seq (.drw [(Qa 32 (.mv (.t 1))),(Qa 33 (.mv (.t 6))),(Qa 34 (.idx 1 (.t 32) (.t 33))),(Qa 35 (.load (.t 34))),(Qa 36 (.mv (.t 1))),(Qa 37 (.mv (.t 8))),(Qa 38 (.idx 1 (.t 36) (.t 37))),(Qa 39 (.load (.t 38))),(Qa 40 (.bin .lss (.t 35) (.t 39)))] [[],[],[0,1],[2],[],[],[4,5],[6],[3,7]] [[2],[2],[0,1,3],[2,8],[6],[6],[4,5,7],[6,8],[3,7]]) (.ite (.t 40) (.reg [(Qa 41 (.fld 5 (.t 9))),(Qb (.store 1 (.t 41) (.c .tt))),(Qa 42 (.fld 7 (.t 9))),(Qb (.store 1 (.t 42) (.c .tt)))]) (.reg [(Qa 43 (.fld 3 (.t 9))),(Qb (.store 1 (.t 43) (.c .tt))),(Qa 44 (.fld 4 (.t 9))),(Qb (.store 1 (.t 44) (.c .tt))),(Qa 45 (.fld 6 (.t 9))),(Qb (.store 1 (.t 45) (.c .tt)))]))) (.reg [(Qa 46 (.fld 2 (.t 7))),(Qa 47 (.load (.t 46))),(Qa 48 (.loadA 8 (.t 9))),(Qa 49 (.bsl 65 8 1 [.iv 0,.iv 0,.iv 0,.ff,.ff,.ff,.ff,.ff] [(0,(.t 48))])),(Qa 50 (.app 65 8 32 (.t 47) (.t 49))),(Qa 51 (.fld 2 (.t 7))),(Qb (.store 1 (.t 51) (.t 50)))]))))) (.reg [(Qa 23 (.mv (.t 8))),(Qa 24 (.bin .add (.t 23) (.c (.iv 1)))),(Qa 8 (.mv (.t 24)))]))
def Zlb:EC:=.seq (.seq (.reg [(Qa 11 (.mv (.t 6))),(Qa 12 (.fld 0 (.t 2))),(Qa 13 (.load (.t 12))),(Qa 14 (.bin .lss (.t 11) (.t 13)))]) (.ite (.t 14) (.skip) (.exit 0))) (.seq (.blk 1 (.seq (.reg [(Qa 17 (.mv (.t 6))),(Qa 18 (.build [.iv 0,.iv 0,.nl] [(0,1,(.t 17))])),(Qa 7 (.alloc 70 [.iv 0,.iv 0,.nl])),(Qb (.store 3 (.t 7) (.t 18)))]) (.seq (.seq (.reg [(Qa 8 (.mv (.c (.iv 0))))]) (.blk 2 (.loop Zkb))) (.reg [(Qa 52 (.mv (.t 5))),(Qa 53 (.loadA 3 (.t 7))),(Qa 54 (.bsl 70 3 1 [.iv 0,.iv 0,.nl] [(0,(.t 53))])),(Qa 55 (.app 70 3 40 (.t 52) (.t 54))),(Qa 5 (.mv (.t 55)))])))) (.reg [(Qa 15 (.mv (.t 6))),(Qa 16 (.bin .add (.t 15) (.c (.iv 1)))),(Qa 6 (.mv (.t 16)))]))
def e59:EC:=.seq (.reg [(Qa 2 (.box 48 2 (.t 0))),(Qa 4 (.mv (.c .nl)))]) (.seq (.reg [(Qa 10 (.bsl 70 3 0 [.iv 0,.iv 0,.nl] [])),(Qa 5 (.mv (.t 10)))]) (.seq (.seq (.reg [(Qa 6 (.mv (.c (.iv 0))))]) (.blk 0 (.loop Zlb))) (.seq (.reg [(Qa 56 (.mv (.t 5))),(Qa 4 (.mv (.t 56)))]) (.ret))))
theorem ok59:FnOK Tryz.prog 59 Tryz.f59 e59 [.t 4] 2 55:=⟨by kernel_rfl,⟨_,rfl,by kernel_rfl⟩,by kernel_rfl,by kernel_rfl⟩
noncomputable def Zmb:(List Diner)→Option (List Diner)
| x64=>
 some x64
noncomputable def Znb (x29:Int) (x30:(List Diner)):(List Side)→Option ((Int×(List Diner)) ⊕ (List Diner))
| x56=>
 (Za4 40 x30 ([(Diner.mk x29 0 x56)])).bind fun x57=>
 some (.inl (wr (x29+1),x57))
noncomputable def Zob (x39:Int):(List Side)→Option ((Int×(List Side)) ⊕ ((Int×(List Diner)) ⊕ (List Diner)))
| x46=>
 some (.inl (wr (x39+1),x46))
noncomputable def Zpb (x39:Int) (x40:(List Side)):Side→Option ((Int×(List Side)) ⊕ ((Int×(List Diner)) ⊕ (List Diner)))
| x44=>
 (Za4 32 x40 ([x44])).bind fun x45=>
 (Zob x39) x45
noncomputable def Zqb (x1:Graph) (x2:(List Int)) (x29:Int) (x30:(List Diner)):(Int×(List Side))→Option ((Int×(List Side)) ⊕ ((Int×(List Diner)) ⊕ (List Diner)))
| (x39,x40)=>
 ifb (decide (x39<x1.N)) (
 (Zqa x1 x29 x39).bind fun x41=>
 ifb (!x41) (
 (Zob x39) x40) (
 (at_ x2 x29).bind fun x42=>
 (at_ x2 x39).bind fun x43=>
 ifb (decide (x42<x43)) (
 (Zpb x39 x40) ((Side.mk x39 1 0 false false true false true))) (
 (Zpb x39 x40) ((Side.mk x39 1 0 true true false true false))))) (
 Option.map Sum.inr ((Znb x29 x30) x40))
noncomputable def Zrb (x1:Graph) (x2:(List Int)):(Int×(List Diner))→Option ((Int×(List Diner)) ⊕ (List Diner))
| (x29,x30)=>
 ifb (decide (x29<x1.N)) (
 loop (Zqb x1 x2 x29 x30) (0,([]:List Side))) (
 Option.map Sum.inr (Zmb x30))
noncomputable def Zsb (x1:Graph) (x2:(List Int)):Option (List Diner):=
 loop (Zrb x1 x2) (0,([]:List Diner))
theorem Ztb (x1:Graph) (x2:(List Int)) (r:(List Diner)) (h:Zsb x1 x2=some r):FunO Tryz.prog 59 [.agg (Graph.row x1),.sl 1 (List.map Z45 x2)] 70 3 (List.map Diner.row r):=by
 refine Zc5 ok59 rfl fun w0 H0=>?_
 rw [Zsb] at h
 refine Zl2 15 ?_;dsimp only [e59,Zlb,Zkb,go_sem];refine ⟨by simp,?_⟩;refine Zl4 (fun (x64:(List Diner))=>(⟨(an 5 (.osl 0::an 51 [])),[],[some ⟨70,3,List.map Diner.row x64⟩]⟩:St)) Zmb r ?_ fun J1=>?_
 ·intro x64 h;rw [Zmb] at h;(try dsimp only);refine Zl2 5 ?_;dsimp only [e59,Zlb,Zkb,go_sem];refine ⟨by simp,?_⟩;exact Zj5 Diner.row ok59 h rfl rfl
 ·refine Zl2 1 ?_;dsimp only [e59,Zlb,Zkb,go_sem];refine ⟨by simp,?_⟩;refine Zm4 h (fun ((x29,x30):(Int×(List Diner)))=>(⟨(.any :: .sl 1 (List.map Z45 x2) :: .ptr 0 0 :: .any :: .any :: .osl 0 :: .iv x29::an 50 []),[some ⟨48,[.iv x1.N,.sl 2 (List.map Edge.row x1.Edges)]⟩],[some ⟨70,3,List.map Diner.row x30⟩]⟩:St)) (by simp [go_sem]) (by rintro ⟨x29,x30⟩;first | rfl | simp [go_sem]) ?_;rintro n1 ⟨x29,x30⟩ y1 h hin1 hout1;rw [Zrb] at h;(try dsimp only);refine Zl2 8 ?_;dsimp only [e59,Zlb,Zkb,go_sem];refine ⟨by simp,?_⟩
  refine Zn4 h rfl (fun _ h=>?_) fun _ h=>?_
  ·refine Zl2 15 ?_;dsimp only [e59,Zlb,Zkb,go_sem];refine ⟨by simp,?_⟩;refine Zl4 (fun (x56:(List Side))=>(⟨(.any :: .sl 1 (List.map Z45 x2) :: .ptr 0 0 :: .any :: .any :: .osl 0 :: .iv x29 :: .ptr 1 0::an 49 []),[some ⟨48,[.iv x1.N,.sl 2 (List.map Edge.row x1.Edges)]⟩,some ⟨70,[.iv x29,.iv 0,.osl 1]⟩],[some ⟨70,3,List.map Diner.row x30⟩,some ⟨65,8,List.map Side.row x56⟩]⟩:St)) (Znb x29 x30) y1 ?_ fun J2=>?_
   ·intro x56 h;rw [Znb] at h;(try dsimp only);refine Zl2 3 ?_;dsimp only [e59,Zlb,Zkb,go_sem];refine ⟨by simp,?_⟩;refine Z83 1 rfl ?_;dsimp only [go_sem];refine Zl2 1 ?_;dsimp only [e59,Zlb,Zkb,go_sem];refine ⟨by simp,?_⟩;obtain ⟨x57,ex57,h⟩:=Option.bind_eq_some_iff.1 h;refine Zt4 Diner.row ex57 trivial rfl rfl rfl ?_;refine Zl2 8 ?_;dsimp only [e59,Zlb,Zkb,go_sem];refine ⟨by simp,?_⟩;refine Z44 3 0 rfl rfl rfl ?_;dsimp only [go_sem];exact Zy4 h hin1
   ·refine Zl2 1 ?_;dsimp only [e59,Zlb,Zkb,go_sem];refine ⟨by simp,?_⟩;refine V_ownB 1 2 65 8 rfl rfl rfl ?_;dsimp only [go_sem];refine Zm4 h (fun ((x39,x40):(Int×(List Side)))=>(⟨(.any :: .sl 1 (List.map Z45 x2) :: .ptr 0 0 :: .any :: .any :: .osl 0 :: .iv x29 :: .ptr 1 0 :: .iv x39::an 48 []),[some ⟨48,[.iv x1.N,.sl 2 (List.map Edge.row x1.Edges)]⟩,some ⟨70,[.iv x29,.iv 0,.osl 1]⟩],[some ⟨70,3,List.map Diner.row x30⟩,some ⟨65,8,List.map Side.row x40⟩]⟩:St)) (by simp [go_sem]) (by rintro ⟨x39,x40⟩;first | rfl | simp [go_sem]) ?_
    rintro n2 ⟨x39,x40⟩ y2 h hin2 hout2;rw [Zqb] at h;(try dsimp only);refine Zl2 8 ?_;dsimp only [e59,Zlb,Zkb,go_sem];refine ⟨by simp,?_⟩;refine Zn4 h rfl (fun _ h=>?_) fun _ h=>?_
    ·refine Zl2 2 ?_;dsimp only [e59,Zlb,Zkb,go_sem];refine ⟨by simp,?_⟩;refine Zl4 (fun (x46:(List Side))=>(⟨(.any :: .sl 1 (List.map Z45 x2) :: .ptr 0 0 :: .any :: .any :: .osl 0 :: .iv x29 :: .ptr 1 0 :: .iv x39::an 48 []),[some ⟨48,[.iv x1.N,.sl 2 (List.map Edge.row x1.Edges)]⟩,some ⟨70,[.iv x29,.iv 0,.osl 1]⟩],[some ⟨70,3,List.map Diner.row x30⟩,some ⟨65,8,List.map Side.row x46⟩]⟩:St)) (Zob x39) y2 ?_ fun J3=>?_
     ·intro x46 h;rw [Zob] at h;(try dsimp only);refine Zl2 5 ?_;dsimp only [e59,Zlb,Zkb,go_sem];refine ⟨by simp,?_⟩;exact Zy4 h hin2
     ·refine Zl2 7 ?_;dsimp only [e59,Zlb,Zkb,go_sem];refine ⟨by simp,?_⟩;obtain ⟨x41,ex41,h⟩:=Option.bind_eq_some_iff.1 h;refine Zz2 trivial (Zra x1 x29 x39 _ ex41) (h:=?_);refine Zl2 2 ?_;dsimp only [e59,Zlb,Zkb,go_sem];refine ⟨by simp,?_⟩;refine Zn4 h rfl (fun _ h=>?_) fun _ h=>?_
      ·refine Zl2 1 ?_;dsimp only [e59,Zlb,Zkb,go_sem];refine ⟨by simp,?_⟩;exact Zz4 J3 (s:=x40) h
      ·refine Zl2 10 ?_;dsimp only [e59,Zlb,Zkb,go_sem];refine ⟨by simp,?_⟩;refine Zh3 (by kernel_rfl) fun all hall hs hnap haf=>?_;dsimp only [go_sem];refine Zh5 hall hs haf hnap 4 5 ?_;dsimp only [go_sem];refine ⟨by simp,?_⟩;obtain ⟨x42,ex42,h⟩:=Option.bind_eq_some_iff.1 h;refine Zr4 hall hs haf hnap 2 Z45 ex42 rfl rfl trivial rfl rfl rfl rfl ?_;refine Zh5 hall hs haf hnap 1 3 ?_;dsimp only [go_sem];refine ⟨by simp,?_⟩;obtain ⟨x43,ex43,h⟩:=Option.bind_eq_some_iff.1 h
       refine Zr4 hall hs haf hnap 6 Z45 ex43 rfl rfl trivial rfl rfl rfl rfl ?_;refine Zh5 hall hs haf hnap 2 0 ?_;dsimp only [go_sem];refine ⟨by simp,?_⟩;refine Zs3 rfl ?_ _
       refine Zl4 (fun (x44:Side)=>(⟨(.any :: .sl 1 (List.map Z45 x2) :: .ptr 0 0 :: .any :: .any :: .osl 0 :: .iv x29 :: .ptr 1 0 :: .iv x39 :: .ptr 2 0::an 47 []),[some ⟨48,[.iv x1.N,.sl 2 (List.map Edge.row x1.Edges)]⟩,some ⟨70,[.iv x29,.iv 0,.osl 1]⟩,some ⟨65,[.iv x44.Peer,.iv x44.Epoch,.iv x44.State,.bv x44.Fork,.bv x44.Dirty,.bv x44.Token,.bv x44.Bottle,.bv x44.Ask]⟩],[some ⟨70,3,List.map Diner.row x30⟩,some ⟨65,8,List.map Side.row x40⟩]⟩:St)) (Zpb x39 x40) y2 ?_ fun J4=>?_
       ·intro x44 h;rw [Zpb] at h;(try dsimp only);refine Zl2 5 ?_;dsimp only [e59,Zlb,Zkb,go_sem];refine ⟨by simp,?_⟩;obtain ⟨x45,ex45,h⟩:=Option.bind_eq_some_iff.1 h;refine Zt4 Side.row ex45 trivial rfl rfl rfl ?_;refine Zl2 4 ?_;dsimp only [e59,Zlb,Zkb,go_sem];refine ⟨by simp,?_⟩;refine Z44 3 1 rfl rfl rfl ?_;dsimp only [go_sem];exact Zz4 J3 (s:=x45) h
       ·refine Zn4 h rfl (fun _ h=>?_) fun _ h=>?_
        ·refine Zl2 6 ?_;dsimp only [e59,Zlb,Zkb,go_sem];refine ⟨by simp,?_⟩;exact Zz4 J4 (s:=(Side.mk x39 1 0 false false true false true)) h
        ·refine Zl2 8 ?_;dsimp only [e59,Zlb,Zkb,go_sem];refine ⟨by simp,?_⟩;exact Zz4 J4 (s:=(Side.mk x39 1 0 true true false true false)) h
    ·refine Zl2 1 ?_;dsimp only [e59,Zlb,Zkb,go_sem];refine ⟨by simp,?_⟩;exact Zz4 J2 (s:=x40) (Zk4 h hout2)
  ·refine Zl2 1 ?_;dsimp only [e59,Zlb,Zkb,go_sem];refine ⟨by simp,?_⟩;exact Zz4 J1 (s:=x30) (Zk4 h hout1)
theorem k_narthexref12_Table (x1:Graph) (x2:(List Int)) (r:(List Diner)) (h:Zsb x1 x2=some r):Zq2 Tryz.prog 59 [.agg (Graph.row x1),.sl 1 (List.map Z45 x2)] (.sl 3 (List.map Diner.row r)):=(Ztb x1 x2 r h).sealed
theorem pw_ext {α:Type} {R:α→α→Prop} (irr:∀x,¬R x x) (asy:∀x y,R x y→¬R y x):∀ {l m:List α},l.Pairwise R→m.Pairwise R→(∀x,x∈l↔x∈m)→l=m
 | [],[],_,_,_=>rfl
 | [],y::m,_,_,h=>absurd ((h y).2 (by simp)) (by simp)
 | x::l,[],_,_,h=>absurd ((h x).1 (by simp)) (by simp)
 | x::l,y::m,hl,hm,h=>by
   rw [List.pairwise_cons] at hl hm
   have hxy:x=y:=by
    rcases List.mem_cons.1 ((h x).1 (by simp)) with e | e
    ·exact e
    ·rcases List.mem_cons.1 ((h y).2 (by simp)) with e2 | e2
     ·exact e2.symm
     ·exact absurd (hl.1 y e2) (asy _ _ (hm.1 x e))
   subst hxy
   rw [pw_ext irr asy hl.2 hm.2 fun z=>?_]
   constructor
   ·intro hz
    rcases List.mem_cons.1 ((h z).1 (List.mem_cons_of_mem _ hz)) with e | e
    ·subst e;exact absurd (hl.1 z hz) (irr z)
    ·exact e
   ·intro hz
    rcases List.mem_cons.1 ((h z).2 (List.mem_cons_of_mem _ hz)) with e | e
    ·subst e;exact absurd (hm.1 z hz) (irr z)
    ·exact e
theorem Edge.lt_trans {x y z:Edge} (h:x.lt y=true) (k:y.lt z=true):x.lt z=true:=by
 simp only [Edge.lt,Bool.or_eq_true,Bool.and_eq_true,decide_eq_true_eq] at *
 omega
theorem Edge.lt_irr (x:Edge):¬x.lt x=true:=by
 simp only [Edge.lt,Bool.or_eq_true,Bool.and_eq_true,decide_eq_true_eq]
 omega
theorem Zub:∀ {l:List Edge},risB l=true→l.Pairwise fun x y=>x.lt y=true
 | [],_=>List.Pairwise.nil
 | [x],_=>by simp
 | x::y::l,h=>by
   simp only [risB,Bool.and_eq_true] at h
   have ih:=Zub h.2
   refine List.pairwise_cons.2 ⟨?_,ih⟩
   intro z hz
   rcases List.mem_cons.1 hz with rfl | hz
   ·exact h.1
   ·exact Edge.lt_trans h.1 ((List.pairwise_cons.1 ih).1 z hz)
theorem okG_pw {g:Graph} (h:okG g=true):g.Edges.Pairwise fun x y=>x.lt y=true:=Zub (Zp7 h).2.2.2.2
def Zvb (a:Int) (e:Edge):Option Int:=if a=e.A then some e.B else if a=e.B then some e.A else none
def Zwb (g:Graph) (a:Int):List Int:=g.Edges.filterMap (Zvb a)
theorem Zxb {g:Graph} (h:okG g=true) (a:Int):(Zwb g a).Pairwise (· < ·):=by
 unfold Zwb
 rw [List.pairwise_filterMap]
 obtain ⟨_,_,_,h4,_⟩:=Zp7 h
 refine List.Pairwise.imp_of_mem ?_ (okG_pw h)
 intro x y hx hy hxy b hb b' hb'
 have k1:=h4 x hx
 have k2:=h4 y hy
 simp only [Edge.lt,Bool.or_eq_true,Bool.and_eq_true,decide_eq_true_eq] at hxy
 unfold Zvb at hb hb'
 split at hb<;>split at hb'
 ·simp at hb hb';omega
 ·split at hb'
  ·simp at hb hb';omega
  ·simp at hb'
 ·split at hb
  ·simp at hb hb';omega
  ·simp at hb
 ·split at hb<;>split at hb'
  ·simp at hb hb';omega
  ·simp at hb'
  ·simp at hb
  ·simp at hb
theorem pw_chain {l:List Int} (h:l.Pairwise (· < ·)) {k:Nat} {x y:Int} (hx:l[k]?=some x) (hy:l[k+1]?=some y):x<y:=by
 rw [List.pairwise_iff_getElem] at h
 obtain ⟨h1,rfl⟩:=List.getElem?_eq_some_iff.1 hx
 obtain ⟨h2,rfl⟩:=List.getElem?_eq_some_iff.1 hy
 exact h k (k+1) h1 h2 (by omega)
theorem s_Compact (l:List Int) (hl:l.length≤1000000) (h:l.Pairwise (· < ·)):Z4b l=some l:=by
 unfold Z4b
 by_cases h2:l.length<2
 ·rw [Z65,decide_eq_true (by omega),Zk5]
 ·rw [Z65,decide_eq_false (by omega),Zl5]
  refine Z89 (l.length-1) (Z3b l) (fun k=>((k+1:Nat):Int)) l (fun k hk=>?_) ?_
  ·have hx:l[k+1]?=some l[k+1]:=List.getElem?_eq_getElem (by omega)
   have hy:l[k]?=some l[k]:=List.getElem?_eq_getElem (by omega)
   have:=pw_chain h hy hx
   dsimp only [Z3b]
   rw [Zq5 hx,Zk5,Zo5 hx,Option.bind_some,wr_pred (by omega),Zo5 hy,Option.bind_some,decide_eq_false (by omega),Zl5,Zs5 (by omega)]
  ·dsimp only [Z3b]
   rw [show l.length-1+1=l.length by omega,Zr5,Zl5];rfl
theorem s_setOf (l:List Int) (hl:l.length≤1000000) (h:l.Pairwise (· < ·)):Z6b l=some l:=by
 simp only [Z6b,Zxa]
 rw [Zp5 _ _ (by omega) (by simp;omega),Option.bind_some,List.nil_append,decide_eq_true (by omega),Zk5,List.mergeSort_of_pairwise (h.imp fun hxy=>decide_eq_true (by omega)),s_Compact l hl h]
theorem Zyb (g:Graph) (a:Int):(Zwb g a).length≤g.Edges.length:=List.length_filterMap_le _ _
theorem s_Near (g:Graph) (a:Int):Zbb g a=some (if okG g then Zwb g a else []):=by
 simp only [Zbb,Zo7,Option.bind_some]
 cases hg:okG g with
 | false=>rfl
 | true=>
   have h400:=(Zp7 hg).2.2.1
   simp only [if_true,decide_true,Bool.not_true,Zl5]
   refine Z39 g.Edges _ (fun pre=>((pre.length:Int),pre.filterMap (Zvb a))) (Zwb g a) (fun pre e post h=>?_) ?_
   ·have hx:=Z49 h
    have hm:=Z59 h
    have hl:(pre.filterMap (Zvb a)).length≤pre.length:=List.length_filterMap_le _ _
    dsimp only [Zab]
    rw [Zq5 hx,Zk5,Zo5 hx,Option.bind_some,Z79,List.filterMap_append]
    by_cases h1:a=e.A
    ·rw [decide_eq_true h1,Zk5,Zp5 _ _ (by omega) (by simp only [List.length_singleton];omega),Option.bind_some,Z9b,Zs5 (by omega)]
     simp [Zvb,h1]
    ·by_cases h2:a=e.B
     ·rw [decide_eq_false h1,Zl5,decide_eq_true h2,Zk5,Zp5 _ _ (by omega) (by simp only [List.length_singleton];omega),Option.bind_some,Z9b,Zs5 (by omega)]
      have:¬e.B=e.A:=fun e'=>h1 (h2.trans e')
      simp [Zvb,h2,this]
     ·rw [decide_eq_false h1,Zl5,decide_eq_false h2,Zl5,Z9b,Zs5 (by omega)]
      simp [Zvb,h1,h2]
   ·dsimp only [Zab]
    rw [Zr5,Zl5,Z8b]
    have:(g.Edges.filterMap (Zvb a))=Zwb g a:=rfl
    rw [this,s_setOf _ (by have:=Zyb g a;omega) (Zxb hg a)]
    rfl
theorem Zzb {g:Graph} (h:okG g=true) {a b:Int}:b∈Zwb g a↔(⟨a,b⟩:Edge)∈g.Edges∨(⟨b,a⟩:Edge)∈g.Edges:=by
 obtain ⟨_,_,_,h4,_⟩:=Zp7 h
 unfold Zwb
 rw [List.mem_filterMap]
 constructor
 ·rintro ⟨e,he,hb⟩
  unfold Zvb at hb
  split at hb
  ·rename_i h1
   simp at hb;subst hb;subst h1;exact .inl he
  ·split at hb
   ·rename_i h2
    simp at hb;subst hb;subst h2;exact .inr he
   ·simp at hb
 ·rintro (he | he)
  ·exact ⟨_,he,by simp [Zvb]⟩
  ·have:=h4 _ he
   dsimp only at this
   exact ⟨_,he,by unfold Zvb;rw [if_neg (by dsimp only;omega),if_pos rfl]⟩
theorem hasB_iff {g:Graph} (h:okG g=true) {a b:Int}:hasB g a b=true↔b∈Zwb g a:=by
 rw [Zzb h]
 obtain ⟨_,_,_,h4,_⟩:=Zp7 h
 simp only [hasB,List.any_eq_true,Bool.or_eq_true,Bool.and_eq_true,decide_eq_true_eq]
 constructor
 ·rintro ⟨e,he,(⟨rfl,rfl,_⟩ | ⟨rfl,rfl,_⟩)⟩
  ·exact .inl he
  ·exact .inr he
 ·rintro (he | he)
  ·have:=h4 _ he;dsimp only at this
   exact ⟨_,he,.inl ⟨rfl,rfl,by omega⟩⟩
  ·have:=h4 _ he;dsimp only at this
   exact ⟨_,he,.inr ⟨rfl,rfl,by omega⟩⟩
theorem Z0c {g:Graph} (h:okG g=true) {a b:Int} (hb:b∈Zwb g a):0≤b∧b<g.N∧b≠a∧0≤a∧a<g.N:=by
 obtain ⟨_,_,_,h4,_⟩:=Zp7 h
 rcases (Zzb h).1 hb with he | he
 ·have:=h4 _ he;dsimp only at this;omega
 ·have:=h4 _ he;dsimp only at this;omega
def Z1c (c:List Int) (a b:Int):Side:=⟨b,1,0,decide (cg c b<cg c a),decide (cg c b<cg c a),!decide (cg c b<cg c a),decide (cg c b<cg c a),!decide (cg c b<cg c a)⟩
def Z2c (g:Graph) (c:List Int) (a:Nat):Diner:=⟨a,0,(Zwb g a).map (Z1c c a)⟩
def Z3c (g:Graph) (c:List Int):List Diner:=(List.range g.N.toNat).map (Z2c g c)
theorem Z4c {α:Type} (f:Nat→α) (k:Nat):(List.range (k+1)).map f=(List.range k).map f++[f k]:=by simp [List.range_succ]
theorem s_Table2 (g:Graph) (hg:okG g=true) (c:List Int) (hc:(c.length:Int)=g.N) (a:Nat) (ha:(a:Int)<g.N) (L:List Diner) (hL:L.length≤1000):
  loop (Zhb c a L (Zwb g a)) (0,[])=some (.inl (((a+1:Nat):Int),L++[Z2c g c a])):=by
 obtain ⟨g1,g2,g3,_,_⟩:=Zp7 hg
 have hnl:=Zyb g a
 refine Z39 (Zwb g a) _ (fun pre=>((pre.length:Int),pre.map (Z1c c a))) _ (fun pre b post h=>?_) ?_
 ·have hx:=Z49 h
  have hm:=Z59 h
  obtain ⟨b1,b2,_,_,_⟩:=Z0c hg (mid_mem h)
  dsimp only [Zhb]
  rw [Zq5 hx,Zk5,Zo5 hx,Option.bind_some,at_cg (c:=c) (Int.natCast_nonneg a) (by omega),Option.bind_some,at_cg (c:=c) b1 (by omega),Option.bind_some,Zp5 _ _ (by omega) (by simp;omega),Option.bind_some,Z79,Zs5 (by omega),List.map_append]
  rfl
 ·dsimp only [Zhb]
  rw [Zr5,Zl5,Zgb,Zp5 _ _ (by omega) (by simp;omega),Option.bind_some,Zs5 (by omega)]
  rfl
theorem Z5c {g:Graph} {c:List Int} (h:Zwa g c=true):(c.length:Int)=g.N:=by
 simp only [Zwa,Bool.and_eq_true,decide_eq_true_eq] at h;exact h.1
theorem s_Table (g:Graph) (c:List Int) (hc:c.length≤1000000):Zjb g c=some (if okG g then (if Zwa g c then (Z3c g c,0) else ([],120)) else ([],30)):=by
 simp only [Zjb,Zo7,Option.bind_some]
 cases hg:okG g with
 | false=>rfl
 | true=>
   obtain ⟨g1,g2,_,_,_⟩:=Zp7 hg
   simp only [if_true,decide_true,Bool.not_true,Zl5,s_Right g c hc,hg,Bool.true_and,Option.bind_some]
   cases hr:Zwa g c with
   | false=>rfl
   | true=>
     simp only [Bool.not_true,Zl5,if_true]
     refine Z89 g.N.toNat (Zib g c) (fun k=>((k:Int),(List.range k).map (Z2c g c))) _ (fun k hk=>?_) ?_
     ·dsimp only [Zib]
      rw [decide_eq_true (by omega),Zk5,s_Near,hg,if_pos rfl,Option.bind_some,s_Table2 g hg c (Z5c hr) k (by omega) _ (by simp;omega),Z4c]
     ·dsimp only [Zib]
      rw [decide_eq_false (by omega),Zl5]
      rfl
theorem rightB_ne {g:Graph} (hg:okG g=true) {c:List Int} (h:Zwa g c=true) {a b:Int} (hb:b∈Zwb g a):cg c a≠cg c b:=by
 simp only [Zwa,Bool.and_eq_true,List.all_eq_true,Bool.not_eq_true',decide_eq_false_iff_not] at h
 rcases (Zzb hg).1 hb with he | he
 ·exact h.2.2 _ he
 ·exact fun e=>h.2.2 _ he e.symm
theorem near_filter {g:Graph} (hg:okG g=true) (a:Int):Zwb g a=((List.range g.N.toNat).map (fun k:Nat=>(k:Int))).filter (fun b=>hasB g a b):=by
 refine pw_ext (fun x=>by omega) (fun x y h=>by omega) (Zxb hg a) ?_ fun x=>?_
 ·refine List.Pairwise.filter _ ?_
  rw [List.pairwise_map]
  exact List.pairwise_lt_range.imp fun h=>by omega
 ·rw [List.mem_filter,List.mem_map,hasB_iff hg]
  constructor
  ·intro h
   obtain ⟨h1,h2,_⟩:=Z0c hg h
   exact ⟨⟨x.toNat,by simp;omega,by omega⟩,h⟩
  ·exact fun h=>h.2
theorem Z6c (p:Int→Bool) (k:Nat):(((List.range (k+1)).map (fun k:Nat=>(k:Int))).filter p)=((List.range k).map (fun k:Nat=>(k:Int))).filter p++(if p k then [(k:Int)] else []):=by
 rw [Z4c,List.filter_append]
 cases h:p k<;>simp [h]
theorem s_r12Table2 (g:Graph) (hg:okG g=true) (c:List Int) (hr:Zwa g c=true) (a:Nat) (ha:(a:Int)<g.N) (L:List Diner) (hL:L.length≤1000):
  loop (Zqb g c a L) (0,[])=some (.inl (((a+1:Nat):Int),L++[Z2c g c a])):=by
 obtain ⟨g1,g2,g3,_,_⟩:=Zp7 hg
 have hc:=Z5c hr
 refine Z89 g.N.toNat (Zqb g c a L) (fun k=>((k:Int),(((List.range k).map (fun k:Nat=>(k:Int))).filter (fun b=>hasB g a b)).map (Z1c c a))) _ (fun k hk=>?_) ?_
 ·have hlen:(((List.range k).map (fun k:Nat=>(k:Int))).filter (fun b=>hasB g a b)).length≤64:=by
   have:=List.length_filter_le (fun b=>hasB g a b) ((List.range k).map (fun k:Nat=>(k:Int)))
   simp only [List.length_map,List.length_range] at this
   omega
  dsimp only [Zqb]
  rw [decide_eq_true (by omega),Zk5,s_r03Has g a k (by omega),Option.bind_some,Z6c,List.map_append]
  cases hh:hasB g a k with
  | false=>
    rw [Bool.not_false,Zk5,Zob,Zs5 (by omega)]
    simp
  | true=>
    have hne:=rightB_ne hg hr ((hasB_iff hg).1 hh)
    rw [Bool.not_true,Zl5,at_cg (c:=c) (Int.natCast_nonneg a) (by omega),Option.bind_some,at_cg (c:=c) (Int.natCast_nonneg k) (by omega),Option.bind_some]
    by_cases h1:cg c a<cg c k
    ·rw [decide_eq_true h1,Zk5,Zpb,Zp5 _ _ (by omega) (by simp only [List.length_map,List.length_singleton];omega),Option.bind_some,Zob,Zs5 (by omega)]
     have:¬cg c k<cg c a:=by omega
     simp [Z1c,this]
    ·rw [decide_eq_false h1,Zl5,Zpb,Zp5 _ _ (by omega) (by simp only [List.length_map,List.length_singleton];omega),Option.bind_some,Zob,Zs5 (by omega)]
     have:cg c k<cg c a:=by omega
     simp [Z1c,this]
 ·dsimp only [Zqb]
  rw [decide_eq_false (by omega),Zl5,←near_filter hg,Znb,Zp5 _ _ (by omega) (by simp;omega),Option.bind_some,Zs5 (by omega)]
  rfl
theorem s_r12Table (g:Graph) (hg:okG g=true) (c:List Int) (hr:Zwa g c=true):Zsb g c=some (Z3c g c):=by
 obtain ⟨g1,g2,_,_,_⟩:=Zp7 hg
 unfold Zsb
 refine Z89 g.N.toNat (Zrb g c) (fun k=>((k:Int),(List.range k).map (Z2c g c))) _ (fun k hk=>?_) ?_
 ·dsimp only [Zrb]
  rw [decide_eq_true (by omega),Zk5,s_r12Table2 g hg c hr k (by omega) _ (by simp;omega),Z4c]
 ·dsimp only [Zrb]
  rw [decide_eq_false (by omega),Zl5]
  rfl
theorem tableT_few {g:Graph} (hg:okG g=true) (c:List Int):Zd9 (Z3c g c):=by
 obtain ⟨g1,g2,g3,_,_⟩:=Zp7 hg
 refine ⟨by simp [Z3c];omega,fun d hd=>?_⟩
 obtain ⟨a,_,rfl⟩:=List.mem_map.1 hd
 have:=Zyb g a
 simp only [Z2c,List.length_map];omega
theorem risB_of:∀ {l:List Edge},l.Pairwise (fun x y=>x.lt y=true)→risB l=true
 | [],_=>rfl
 | [x],_=>rfl
 | x::y::l,h=>by
   rw [List.pairwise_cons] at h
   simp only [risB,Bool.and_eq_true]
   exact ⟨h.1 y (by simp),risB_of h.2⟩
theorem Z7c {g:Graph} {c:List Int} {a:Int} (h0:0≤a) (h:a<g.N):(Z3c g c)[a.toNat]?=some (Z2c g c a.toNat):=by
 unfold Z3c
 rw [List.getElem?_map,List.getElem?_range (by omega)];rfl
theorem Z8c {g:Graph} (hg:okG g=true) (c:List Int):((Z3c g c).length:Int)=g.N:=by
 have:=(Zp7 hg).1
 simp [Z3c];omega
theorem tableT_at {g:Graph} {c:List Int} {a:Int} (h0:0≤a) (h:a<g.N):at_ (Z3c g c) a=some (Z2c g c a.toNat):=by
 have:=Zo5 (Z7c (c:=c) h0 h)
 rwa [Int.toNat_of_nonneg h0] at this
theorem sideO_T (g:Graph) (c:List Int) (a:Nat) (b:Int):Ze9 (Z2c g c a) b=if b∈Zwb g a then some (Z1c c a b) else none:=by
 unfold Ze9 Z2c
 dsimp only
 rw [List.find?_map]
 have e:((fun x:Side=>decide (x.Peer=b))∘Z1c c a)=fun z=>decide (z=b):=rfl
 rw [e]
 by_cases h:b∈Zwb g a
 ·rw [if_pos h]
  have:(Zwb g a).find? (fun z=>decide (z=b))=some b:=by
   cases hf:(Zwb g a).find? (fun z=>decide (z=b)) with
   | none=>rw [List.find?_eq_none] at hf;exact absurd (by simp) (hf b h)
   | some z=>have:=List.find?_some hf;simp at this;rw [this]
  rw [this];rfl
 ·rw [if_neg h]
  have:(Zwb g a).find? (fun z=>decide (z=b))=none:=by
   rw [List.find?_eq_none];intro z hz;simp;rintro rfl;exact h hz
  rw [this];rfl
theorem Z9c {g:Graph} (hg:okG g=true) {a b:Int} (h:b∈Zwb g a):a∈Zwb g b:=by
 rw [Zzb hg] at *;exact h.symm
theorem tableT_pw {g:Graph} (hg:okG g=true) (c:List Int) (d:Diner) (hd:d∈Z3c g c):d.Sides.Pairwise fun x y=>x.Peer<y.Peer:=by
 obtain ⟨a,_,rfl⟩:=List.mem_map.1 hd
 simp only [Z2c,List.pairwise_map]
 exact Zxb hg a
theorem graphP_T {g:Graph} (hg:okG g=true) (c:List Int):Zw9 (Z3c g c)=(g,true):=by
 obtain ⟨g1,g2,g3,g4,g5⟩:=Zp7 hg
 have hlen:=Z8c hg c
 have hall:Zt9 (Z3c g c) 0 (Z3c g c)=true:=by
  rw [Z2a]
  intro k d hd
  have hk:=(List.getElem?_eq_some_iff.1 hd).1
  have e:=Z7c (g:=g) (c:=c) (a:=(k:Int)) (by omega) (by omega)
  rw [Int.toNat_natCast,hd] at e
  simp at e;subst e
  refine ⟨by simp [Z2c],?_⟩
  rw [Nat.zero_add,Z1a]
  refine ⟨fun x hx=>?_,tableT_pw hg c _ (List.mem_iff_getElem?.2 ⟨_,hd⟩),by simp⟩
  obtain ⟨b,hb,rfl⟩:=List.mem_map.1 hx
  obtain ⟨b1,b2,b3,_,_⟩:=Z0c hg hb
  have hs:Ze9 (Z2c g c b.toNat) k=some (Z1c c b.toNat k):=by
   rw [sideO_T,if_pos]
   rw [Int.toNat_of_nonneg b1];exact Z9c hg hb
  have hs':(Ze9 (Z2c g c b.toNat) (k:Int)).isSome=true:=by rw [hs];rfl
  show (decide (0≤b)&&(decide (b<((Z3c g c).length:Int))&&(!decide (b=(k:Int))&&(match (Z3c g c)[b.toNat]? with | some e=>(Ze9 e k).isSome | none=>false))))=true
  rw [decide_eq_true b1,decide_eq_true (by omega),decide_eq_false b3,Z7c (c:=c) b1 b2]
  simpa using hs'
 have hedges:Zu9 0 (Z3c g c)=g.Edges:=by
  refine pw_ext (R:=fun x y=>x.lt y=true) Edge.lt_irr (fun x y h1 h2=>Edge.lt_irr x (Edge.lt_trans h1 h2)) (edgesL_pw (tableT_pw hg c)) (okG_pw hg) fun e=>?_
  rw [Z4a]
  constructor
  ·rintro ⟨k,d,hd,he⟩
   have hk:=(List.getElem?_eq_some_iff.1 hd).1
   have e':=Z7c (g:=g) (c:=c) (a:=(k:Int)) (by omega) (by omega)
   rw [Int.toNat_natCast,hd] at e'
   simp at e';subst e'
   obtain ⟨h1,h2,x,hx,h3⟩:=Z3a.1 he
   obtain ⟨b,hb,rfl⟩:=List.mem_map.1 hx
   simp only [Z1c] at h3
   subst h3
   rw [Nat.zero_add] at h1 h2
   rcases (Zzb hg).1 hb with hb | hb
   ·obtain ⟨e1,e2⟩:=e;dsimp only at h1 hb;rw [h1];exact hb
   ·have:=g4 _ hb;dsimp only at this;omega
  ·intro he
   have h:=g4 e he
   refine ⟨e.A.toNat,Z2c g c e.A.toNat,Z7c h.1 (by omega),Z3a.2 ⟨by omega,by omega,Z1c c e.A.toNat e.B,?_,rfl⟩⟩
   simp only [Z2c]
   refine List.mem_map_of_mem ?_
   rw [Zzb hg,Int.toNat_of_nonneg h.1]
   exact .inl he
 have hG:(⟨(Z3c g c).length,Zu9 0 (Z3c g c)⟩:Graph)=g:=by
  rw [hedges,hlen]
 unfold Zw9
 rw [hG,hall,hg];rfl
set_option maxRecDepth 100000
set_option maxHeartbeats 4000000
def e78:EC:=.seq (.reg [(Qa 3 (.box 65 8 (.t 0))),(Qa 4 (.mv (.c .ff)))]) (.seq (.reg [(Qa 6 (.fld 0 (.t 3))),(Qa 7 (.load (.t 6))),(Qa 8 (.load (.t 1))),(Qa 9 (.bin .gtr (.t 7) (.t 8))),(Qa 10 (.mv (.t 9))),(Qg 11 10 true (.fld 0 (.t 3))),(Qg 12 10 true (.load (.t 11))),(Qg 13 10 true (.fld 0 (.t 2))),(Qg 14 10 true (.load (.t 13))),(Qg 15 10 true (.bin .neq (.t 12) (.t 14))),(Qa 16 (.pick (.t 10) (.t 15) (.c .ff))),(Qa 5 (.mv (.t 16)))]) (.seq (.reg [(Qa 17 (.fld 0 (.t 3))),(Qa 18 (.load (.t 17))),(Qb (.store 1 (.t 1) (.t 18)))]) (.seq (.reg [(Qa 19 (.mv (.t 5))),(Qa 20 (.not (.t 19))),(Qa 21 (.mv (.t 20))),(Qg 22 21 false (.fld 1 (.t 3))),(Qg 23 21 false (.load (.t 22))),(Qg 24 21 false (.bin .lss (.t 23) (.c (.iv 0)))),(Qa 25 (.pick (.t 21) (.c .tt) (.t 24))),(Qa 26 (.mv (.t 25))),(Qg 27 26 false (.fld 1 (.t 3))),(Qg 28 26 false (.load (.t 27))),(Qg 29 26 false (.bin .gtr (.t 28) (.c (.iv 65535)))),(Qa 30 (.pick (.t 26) (.c .tt) (.t 29))),(Qa 31 (.mv (.t 30))),(Qg 32 31 false (.fld 2 (.t 3))),(Qg 33 31 false (.load (.t 32))),(Qg 34 31 false (.bin .lss (.t 33) (.c (.iv 0)))),(Qa 35 (.pick (.t 31) (.c .tt) (.t 34))),(Qa 36 (.mv (.t 35))),(Qg 37 36 false (.fld 2 (.t 3))),(Qg 38 36 false (.load (.t 37))),(Qg 39 36 false (.bin .gtr (.t 38) (.c (.iv 3)))),(Qa 40 (.pick (.t 36) (.c .tt) (.t 39))),(Qa 41 (.mv (.t 40))),(Qg 42 41 false (.fld 4 (.t 3))),(Qg 43 41 false (.load (.t 42))),(Qg 44 41 false (.mv (.t 43))),(Qg 45 44 true (.fld 3 (.t 3))),(Qg 46 44 true (.load (.t 45))),(Qg 47 44 true (.not (.t 46))),(Qg 48 41 false (.pick (.t 44) (.t 47) (.c .ff))),(Qa 49 (.pick (.t 41) (.c .tt) (.t 48))),(Qa 4 (.mv (.t 49)))]) (.ret))))
theorem ok78:FnOK Tryz.prog 78 Tryz.f78 e78 [.t 4] 3 47:=⟨by kernel_rfl,⟨_,rfl,by kernel_rfl⟩,by kernel_rfl,by kernel_rfl⟩
noncomputable def Zac (_x1:Side) (_x2:Int) (_x3:Diner):Option Bool:=
 none
theorem k_dine_Check_1 (x1:Side) (x2:Int) (x3:Diner) (r:Bool) (h:Zac x1 x2 x3=some r):Zq2 Tryz.prog 78 [.agg (Side.row x1),.elt (Z45 x2) 0,.elt (Diner.row x3) 0] (.bv r):=by
 simp [Zac] at h
set_option maxRecDepth 100000
set_option maxHeartbeats 4000000
def e79:EC:=.seq (.reg [(Qa 4 (.mv (.c .ff)))]) (.seq (.reg [(Qa 5 (.mv (.t 0))),(Qa 6 (.mv (.t 1))),(Qa 7 (.call 64 [(.t 5),(.t 6)])),(Qa 8 (.bin .geq (.t 7) (.c (.iv 0)))),(Qa 4 (.mv (.t 8)))]) (.ret))
theorem ok79:FnOK Tryz.prog 79 Tryz.f79 e79 [.t 4] 2 7:=⟨by kernel_rfl,⟨_,rfl,by kernel_rfl⟩,by kernel_rfl,by kernel_rfl⟩
noncomputable def Zbc (x1:(List Side)) (p1:(Side→Option Bool)):Option Bool:=
 (Zq6 x1 p1).bind fun x2=>
 some (decide (0≤x2))
theorem Zcc (x1:(List Side)) (g1:Nat) (caps1:List AV) (p1:(Side→Option Bool)) (hc1:CloOK Tryz.prog g1 caps1 (fun z=>[.agg (Side.row z)]) p1 (fun z=>.bv z)) (r:Bool) (h:Zbc x1 p1=some r):Zq2 Tryz.prog 79 [.sl 8 (List.map Side.row x1),.clo g1 caps1] (.bv r):=by
 refine Zu2 ok79 rfl rfl fun w0 H0=>?_
 rw [Zbc] at h
 refine Zl2 8 ?_;dsimp only [e79,go_sem];refine ⟨by simp,?_⟩;obtain ⟨x2,ex2,h⟩:=Option.bind_eq_some_iff.1 h;refine Zz2 trivial (Zr6 x1 _ _ p1 hc1 _ ex2) (hp:=(by first | rfl | simp [go_sem,hc1.pu])) (h:=?_);refine Zl2 3 ?_;dsimp only [e79,go_sem];refine ⟨by simp,?_⟩;exact Zx4 (res:=fun (r:Bool)=>.bv r) ok79 h
set_option maxRecDepth 100000
set_option maxHeartbeats 4000000
def e43:EC:=.seq (.reg [(Qa 1 (.box 70 3 (.t 0))),(Qa 2 (.mv (.c (.iv 0))))]) (.seq (.reg [(Qa 3 (.alloc 3 [.iv 0])),(Qb (.store 1 (.t 3) (.c (.iv (-1)))))]) (.seq (.reg [(Qa 5 (.mkf 78 [(.t 3),(.t 1)])),(Qa 4 (.mv (.t 5)))]) (.seq (.seq (.reg [(Qa 6 (.fld 0 (.t 1))),(Qa 7 (.load (.t 6))),(Qa 8 (.bin .lss (.t 7) (.c (.iv 0)))),(Qa 9 (.mv (.t 8))),(Qg 10 9 false (.fld 1 (.t 1))),(Qg 11 9 false (.load (.t 10))),(Qg 12 9 false (.bin .lss (.t 11) (.c (.iv 0)))),(Qa 13 (.pick (.t 9) (.c .tt) (.t 12))),(Qa 14 (.mv (.t 13))),(Qg 15 14 false (.fld 1 (.t 1))),(Qg 16 14 false (.load (.t 15))),(Qg 17 14 false (.bin .gtr (.t 16) (.c (.iv 2)))),(Qa 18 (.pick (.t 14) (.c .tt) (.t 17))),(Qa 19 (.mv (.t 18))),(Qg 20 19 false (.fld 2 (.t 1))),(Qg 21 19 false (.load (.t 20))),(Qg 22 19 false (.len (.t 21))),(Qg 23 19 false (.bin .geq (.t 22) (.c (.iv 64)))),(Qa 24 (.pick (.t 19) (.c .tt) (.t 23))),(Qa 25 (.mv (.t 24))),(Qg 26 25 false (.fld 2 (.t 1))),(Qg 27 25 false (.load (.t 26))),(Qg 28 25 false (.mv (.t 4))),(Qg 29 25 false (.call 79 [(.t 27),(.t 28)])),(Qa 30 (.pick (.t 25) (.c .tt) (.t 29)))]) (.ite (.t 30) (.seq (.reg [(Qa 2 (.mv (.c (.iv 130))))]) (.ret)) (.skip))) (.seq (.reg [(Qa 2 (.mv (.c (.iv 0))))]) (.ret)))))
theorem ok43:FnOK Tryz.prog 43 Tryz.f43 e43 [.t 2] 1 30:=⟨by kernel_rfl,⟨_,rfl,by kernel_rfl⟩,by kernel_rfl,by kernel_rfl⟩
noncomputable def Zdc:Bool→Option Bool
| x5=>
 some x5
noncomputable def Zec (x1:Side):Bool→Option Bool
| x4=>
 ifb (!x4) (
 Zdc true) (
 ifb (decide (x1.Epoch<0)) (
 Zdc true) (
 ifb (decide (65535<x1.Epoch)) (
 Zdc true) (
 ifb (decide (x1.State<0)) (
 Zdc true) (
 ifb (decide (3<x1.State)) (
 Zdc true) (
 ifb x1.Dirty (
 Zdc (!x1.Fork)) (
 Zdc false))))))
noncomputable def Zfc (x1:Side) (x2:Diner) (x3:Int):Option Bool:=
 ifb (decide (x3<x1.Peer)) (
 (Zec x1) (!decide (x1.Peer=x2.ID))) (
 (Zec x1) false)
theorem Zgc (x1:Side) (x2:Diner) (x3:Int) (r:Bool) (h:Zfc x1 x2 x3=some r):FunT Tryz.prog 78 [.agg [.iv x1.Peer,.iv x1.Epoch,.iv x1.State,.bv x1.Fork,.bv x1.Dirty,.bv x1.Token,.bv x1.Bottle,.bv x1.Ask],.ptr 1 0,.ptr 0 0] [some ⟨70,[.iv x2.ID,.iv x2.Phase,.sl 8 (List.map Side.row x2.Sides)]⟩,some ⟨3,[.iv x3]⟩] [] (.bv r) [some ⟨70,[.iv x2.ID,.iv x2.Phase,.sl 8 (List.map Side.row x2.Sides)]⟩,some ⟨3,[.iv x1.Peer]⟩] []:=by
 refine Za6 ok78 rfl rfl rfl (by first | rfl | simp [go_sem]) fun w0 M0=>?_
 rw [Zfc] at h
 dsimp only [lun,List.cons_append,List.nil_append]
 refine Zl2 12 ?_;dsimp only [e78,go_sem];refine ⟨by simp,?_⟩;refine Zl4 (fun (x4:Bool)=>(⟨(.any :: .ptr 1 0 :: .any :: .ptr 2 0 :: .any :: .bv x4::an 44 []),[some ⟨70,[.iv x2.ID,.iv x2.Phase,.sl 8 (List.map Side.row x2.Sides)]⟩,some ⟨3,[.iv x3]⟩,some ⟨65,[.iv x1.Peer,.iv x1.Epoch,.iv x1.State,.bv x1.Fork,.bv x1.Dirty,.bv x1.Token,.bv x1.Bottle,.bv x1.Ask]⟩],[]⟩:St)) (Zec x1) r ?_ fun J1=>?_
 ·intro x4 h;rw [Zec] at h;(try dsimp only);refine Zl2 11 ?_;dsimp only [e78,go_sem];refine ⟨by simp,?_⟩;refine Zl4 (fun (x5:Bool)=>(⟨(an 4 (.bv x5::an 45 [])),[some ⟨70,[.iv x2.ID,.iv x2.Phase,.sl 8 (List.map Side.row x2.Sides)]⟩,some ⟨3,[.iv x1.Peer]⟩],[]⟩:St)) Zdc r ?_ fun J2=>?_
  ·intro x5 h;rw [Zdc] at h;(try dsimp only);obtain rfl:=Option.some.inj h;exact T_done ok78 rfl (by simp [go_sem])
  ·refine Zw4 21 h rfl (fun _ h=>?_) fun _ h=>?_
   ·dsimp only [go_sem];refine Zl2 30 ?_;dsimp only [e78,go_sem];refine ⟨by simp,?_⟩;exact Zz4 J2 (s:=true) h
   ·dsimp only [go_sem];refine Zl2 5 ?_;dsimp only [e78,go_sem];refine ⟨by simp,?_⟩;refine Zw4 26 h rfl (fun _ h=>?_) fun _ h=>?_
    ·dsimp only [go_sem];refine Zl2 25 ?_;dsimp only [e78,go_sem];refine ⟨by simp,?_⟩;exact Zz4 J2 (s:=true) h
    ·dsimp only [go_sem];refine Zl2 5 ?_;dsimp only [e78,go_sem];refine ⟨by simp,?_⟩;refine Zw4 31 h rfl (fun _ h=>?_) fun _ h=>?_
     ·dsimp only [go_sem];refine Zl2 20 ?_;dsimp only [e78,go_sem];refine ⟨by simp,?_⟩;exact Zz4 J2 (s:=true) h
     ·dsimp only [go_sem];refine Zl2 5 ?_;dsimp only [e78,go_sem];refine ⟨by simp,?_⟩;refine Zw4 36 h rfl (fun _ h=>?_) fun _ h=>?_
      ·dsimp only [go_sem];refine Zl2 15 ?_;dsimp only [e78,go_sem];refine ⟨by simp,?_⟩;exact Zz4 J2 (s:=true) h
      ·dsimp only [go_sem];refine Zl2 5 ?_;dsimp only [e78,go_sem];refine ⟨by simp,?_⟩;refine Zw4 41 h rfl (fun _ h=>?_) fun _ h=>?_
       ·dsimp only [go_sem];refine Zl2 10 ?_;dsimp only [e78,go_sem];refine ⟨by simp,?_⟩;exact Zz4 J2 (s:=true) h
       ·dsimp only [go_sem];refine Zl2 3 ?_;dsimp only [e78,go_sem];refine ⟨by simp,?_⟩;refine Zw4 44 h rfl (fun _ h=>?_) fun _ h=>?_
        ·dsimp only [go_sem];refine Zl2 7 ?_;dsimp only [e78,go_sem];refine ⟨by simp,?_⟩;exact Zz4 J2 (s:=!x1.Fork) h
        ·dsimp only [go_sem];refine Zl2 7 ?_;dsimp only [e78,go_sem];refine ⟨by simp,?_⟩;exact Zz4 J2 (s:=false) h
 ·refine Zw4 10 h rfl (fun _ h=>?_) fun _ h=>?_
  ·dsimp only [go_sem];refine Zl2 8 ?_;dsimp only [e78,go_sem];refine ⟨by simp,?_⟩;exact Zz4 J1 (s:=!decide (x1.Peer=x2.ID)) h
  ·dsimp only [go_sem];refine Zl2 8 ?_;dsimp only [e78,go_sem];refine ⟨by simp,?_⟩;exact Zz4 J1 (s:=false) h
def Zhc (_F:Nat):Bool→Option Bool
| x5=>
 some x5
theorem Zic {F:Nat}:∀s,ole (Zhc F s) (Zdc s):=by
 intro x5
 unfold Zhc Zdc
 try dsimp only
 with_reducible repeat' first | exact Zf4 _ | assumption | intro _ | refine Zg4 ?_ ?_ | refine Zh4 ?_ ?_ | refine Zi4 ?_ | refine Zj4 ?_
def Zjc (F:Nat) (x1:Side):Bool→Option Bool
| x4=>
 ifb (!x4) (
 Zhc F true) (
 ifb (decide (x1.Epoch<0)) (
 Zhc F true) (
 ifb (decide (65535<x1.Epoch)) (
 Zhc F true) (
 ifb (decide (x1.State<0)) (
 Zhc F true) (
 ifb (decide (3<x1.State)) (
 Zhc F true) (
 ifb x1.Dirty (
 Zhc F (!x1.Fork)) (
 Zhc F false))))))
theorem Zkc {F:Nat} {x1:Side}:∀s,ole (Zjc F x1 s) (Zec x1 s):=by
 intro x4
 unfold Zjc Zec
 try dsimp only
 with_reducible repeat' first | exact Zf4 _ | assumption | intro _ | refine Zg4 ?_ ?_ | refine Zh4 ?_ ?_ | refine Zi4 ?_ | refine Zj4 ?_ | apply Zic
def Zlc (F:Nat) (x1:Side) (x2:Diner) (x3:Int):Option Bool:=
 ifb (decide (x3<x1.Peer)) (
 (Zjc F x1) (!decide (x1.Peer=x2.ID))) (
 (Zjc F x1) false)
theorem Zmc {F:Nat} {x1:Side} {x2:Diner} {x3:Int}:ole (Zlc F x1 x2 x3) (Zfc x1 x2 x3):=by
 unfold Zlc Zfc
 with_reducible repeat' first | exact Zf4 _ | assumption | intro _ | refine Zg4 ?_ ?_ | refine Zh4 ?_ ?_ | refine Zi4 ?_ | refine Zj4 ?_ | apply Zic | apply Zkc
noncomputable def Znc:Int→Option (Int×Int)
| x19=>
 some ((-1),x19)
noncomputable def Zoc (x1:(List Side)) (x2:Diner):(Int×Int)→Option ((Int×Int) ⊕ (Int×Int))
| (x8,x9)=>
 ifb (decide (x8<(ln Side.row x1))) (
 (at_ x1 x8).bind fun x10=>
 (Zfc x10 x2 x9).bind fun x11=>
 ifb x11 (
 Option.map Sum.inr (some (x8,x10.Peer))) (
 some (.inl (wr (x8+1),x10.Peer)))) (
 Option.map Sum.inr (Znc x9))
noncomputable def Zpc (x1:(List Side)) (x2:Diner) (x3:Int):Option (Int×Int):=
 loop (Zoc x1 x2) (0,x3)
theorem Zqc (x1:(List Side)) (x2:Diner) (x3:Int) (r:(Int×Int)) (h:Zpc x1 x2 x3=some r):FunT Tryz.prog 64 [.sl 8 (List.map Side.row x1),.clo 78 [.ptr 1 0,.ptr 0 0]] [some ⟨70,[.iv x2.ID,.iv x2.Phase,.sl 8 (List.map Side.row x2.Sides)]⟩,some ⟨3,[.iv x3]⟩] [] (.iv r.1) [some ⟨70,[.iv x2.ID,.iv x2.Phase,.sl 8 (List.map Side.row x2.Sides)]⟩,some ⟨3,[.iv r.2]⟩] []:=by
 refine Za6 ok64 rfl rfl rfl (by first | rfl | simp [go_sem]) fun w0 M0=>?_
 rw [Zpc] at h
 dsimp only [lun,List.cons_append,List.nil_append]
 refine Zl2 11 ?_;dsimp only [e64,Zn6,go_sem];refine ⟨by simp,?_⟩;refine Zl4 (fun (x19:Int)=>(⟨(an 19 []),[some ⟨70,[.iv x2.ID,.iv x2.Phase,.sl 8 (List.map Side.row x2.Sides)]⟩,some ⟨3,[.iv x19]⟩],[]⟩:St)) Znc r ?_ fun J1=>?_
 ·intro x19 h;rw [Znc] at h;(try dsimp only);refine Zl2 4 ?_;dsimp only [e64,Zn6,go_sem];refine ⟨by simp,?_⟩;obtain rfl:=Option.some.inj h;exact T_done ok64 rfl (by simp [go_sem])
 ·refine Zl2 1 ?_;dsimp only [e64,Zn6,go_sem];refine ⟨by simp,?_⟩;refine Zm4 h (fun ((x8,x9):(Int×Int))=>(⟨(.sl 8 (List.map Side.row x1) :: .clo 78 [.ptr 1 0,.ptr 0 0]::an 5 (.iv (ln Side.row x1) :: .iv x8::an 10 [])),[some ⟨70,[.iv x2.ID,.iv x2.Phase,.sl 8 (List.map Side.row x2.Sides)]⟩,some ⟨3,[.iv x9]⟩],[]⟩:St)) (by simp [go_sem]) (by rintro ⟨x8,x9⟩;first | rfl | simp [go_sem]) ?_;rintro n1 ⟨x8,x9⟩ y1 h hin1 hout1;rw [Zoc] at h;(try dsimp only);refine Zl2 5 ?_;dsimp only [e64,Zn6,go_sem]
  refine ⟨by simp,?_⟩;refine Zn4 h rfl (fun _ h=>?_) fun _ h=>?_
  ·refine Zl2 13 ?_;dsimp only [e64,Zn6,go_sem];refine ⟨by simp,?_⟩;obtain ⟨x10,ex10,h⟩:=Option.bind_eq_some_iff.1 h;refine Zq4 Side.row ex10 trivial rfl rfl rfl ?_;refine Zl2 1 ?_;dsimp only [e64,Zn6,go_sem];refine ⟨by simp,?_⟩;obtain ⟨x11,ex11,h⟩:=Option.bind_eq_some_iff.1 h;refine Zc6 [true,true] [] trivial rfl (Zgc x10 x2 x9 _ ex11) (by kernel_rfl) (h:=?_);dsimp only [go_sem];refine Zl2 1 ?_;dsimp only [e64,Zn6,go_sem];refine ⟨by simp,?_⟩;refine Zn4 h rfl (fun _ h=>?_) fun _ h=>?_
   ·refine Zl2 5 ?_;dsimp only [e64,Zn6,go_sem];refine ⟨by simp,?_⟩;obtain rfl:=Option.some.inj (Zk4 h hout1);exact T_done ok64 rfl (by simp [go_sem])
   ·refine Zl2 6 ?_;dsimp only [e64,Zn6,go_sem];refine ⟨by simp,?_⟩;exact Zy4 h hin1
  ·refine Zl2 1 ?_;dsimp only [e64,Zn6,go_sem];refine ⟨by simp,?_⟩;exact Zz4 J1 (s:=x9) (Zk4 h hout1)
def Zrc (_F:Nat):Int→Option (Int×Int)
| x19=>
 some ((-1),x19)
theorem Zsc {F:Nat}:∀s,ole (Zrc F s) (Znc s):=by
 intro x19
 unfold Zrc Znc
 try dsimp only
 with_reducible repeat' first | exact Zf4 _ | assumption | intro _ | refine Zg4 ?_ ?_ | refine Zh4 ?_ ?_ | refine Zi4 ?_ | refine Zj4 ?_
def Ztc (F:Nat) (x1:(List Side)) (x2:Diner):(Int×Int)→Option ((Int×Int) ⊕ (Int×Int))
| (x8,x9)=>
 ifb (decide (x8<(ln Side.row x1))) (
 (at_ x1 x8).bind fun x10=>
 (Zlc F x10 x2 x9).bind fun x11=>
 ifb x11 (
 Option.map Sum.inr (some (x8,x10.Peer))) (
 some (.inl (wr (x8+1),x10.Peer)))) (
 Option.map Sum.inr (Zrc F x9))
theorem Zuc {F:Nat} {x1:(List Side)} {x2:Diner}:∀s,ole (Ztc F x1 x2 s) (Zoc x1 x2 s):=by
 rintro ⟨x8,x9⟩
 unfold Ztc Zoc
 try dsimp only
 with_reducible repeat' first | exact Zf4 _ | assumption | intro _ | refine Zg4 ?_ ?_ | refine Zh4 ?_ ?_ | refine Zi4 ?_ | refine Zj4 ?_ | apply Zsc | apply Zmc
def Zvc (F:Nat) (x1:(List Side)) (x2:Diner) (x3:Int):Option (Int×Int):=
 loopF F (Ztc F x1 x2) (0,x3)
theorem Zwc {F:Nat} {x1:(List Side)} {x2:Diner} {x3:Int}:ole (Zvc F x1 x2 x3) (Zpc x1 x2 x3):=by
 unfold Zvc Zpc
 with_reducible repeat' first | exact Zf4 _ | assumption | intro _ | refine Zg4 ?_ ?_ | refine Zh4 ?_ ?_ | refine Zi4 ?_ | refine Zj4 ?_ | apply Zsc | apply Zmc | apply Zuc
noncomputable def Zxc (x1:(List Side)) (x2:Diner) (x3:Int):Option (Bool×Int):=
 (Zpc x1 x2 x3).bind fun x4=>
 some (decide (0≤x4.1),x4.2)
theorem Zyc (x1:(List Side)) (x2:Diner) (x3:Int) (r:(Bool×Int)) (h:Zxc x1 x2 x3=some r):FunT Tryz.prog 79 [.sl 8 (List.map Side.row x1),.clo 78 [.ptr 1 0,.ptr 0 0]] [some ⟨70,[.iv x2.ID,.iv x2.Phase,.sl 8 (List.map Side.row x2.Sides)]⟩,some ⟨3,[.iv x3]⟩] [] (.bv r.1) [some ⟨70,[.iv x2.ID,.iv x2.Phase,.sl 8 (List.map Side.row x2.Sides)]⟩,some ⟨3,[.iv r.2]⟩] []:=by
 refine Za6 ok79 rfl rfl rfl (by first | rfl | simp [go_sem]) fun w0 M0=>?_
 rw [Zxc] at h
 dsimp only [lun,List.cons_append,List.nil_append]
 refine Zl2 8 ?_;dsimp only [e79,go_sem];refine ⟨by simp,?_⟩;obtain ⟨x4,ex4,h⟩:=Option.bind_eq_some_iff.1 h;refine V_callT [true,true] [] trivial (Zqc x1 x2 x3 _ ex4) (h:=?_);dsimp only [go_sem];refine Zl2 3 ?_;dsimp only [e79,go_sem];refine ⟨by simp,?_⟩;obtain rfl:=Option.some.inj h;exact T_done ok79 rfl (by simp [go_sem])
def Zzc (F:Nat) (x1:(List Side)) (x2:Diner) (x3:Int):Option (Bool×Int):=
 (Zvc F x1 x2 x3).bind fun x4=>
 some (decide (0≤x4.1),x4.2)
theorem Z0d {F:Nat} {x1:(List Side)} {x2:Diner} {x3:Int}:ole (Zzc F x1 x2 x3) (Zxc x1 x2 x3):=by
 unfold Zzc Zxc
 with_reducible repeat' first | exact Zf4 _ | assumption | intro _ | refine Zg4 ?_ ?_ | refine Zh4 ?_ ?_ | refine Zi4 ?_ | refine Zj4 ?_ | apply Zwc
noncomputable def Z1d:Bool→Option Int
| x3=>
 ifb x3 (
 some 130) (
 some 0)
noncomputable def Z2d (x1:Diner):Option Int:=
 ifb (decide (x1.ID<0)) (
 Z1d true) (
 ifb (decide (x1.Phase<0)) (
 Z1d true) (
 ifb (decide (2<x1.Phase)) (
 Z1d true) (
 ifb (decide (64≤(ln Side.row x1.Sides))) (
 Z1d true) (
 (Zxc x1.Sides x1 ((-1))).bind fun x2=>
 Z1d x2.1))))
theorem Z3d (x1:Diner) (r:Int) (h:Z2d x1=some r):Zq2 Tryz.prog 43 [.agg (Diner.row x1)] (.iv r):=by
 refine Zu2 ok43 rfl rfl fun w0 H0=>?_
 rw [Z2d] at h
 refine Zl2 22 ?_;dsimp only [e43,go_sem];refine ⟨by simp,?_⟩;refine Zl4 (fun (x3:Bool)=>(⟨(an 30 [.bv x3]),[],[]⟩:St)) Z1d r ?_ fun J1=>?_
 ·intro x3 h;rw [Z1d] at h;(try dsimp only);refine Zn4 h rfl (fun _ h=>?_) fun _ h=>?_
  ·refine Zl2 4 ?_;dsimp only [e43,go_sem];refine ⟨by simp,?_⟩;exact Zx4 (res:=fun (r:Int)=>.iv r) ok43 h
  ·refine Zl2 5 ?_;dsimp only [e43,go_sem];refine ⟨by simp,?_⟩;exact Zx4 (res:=fun (r:Int)=>.iv r) ok43 h
 ·refine Zw4 9 h rfl (fun _ h=>?_) fun _ h=>?_
  ·dsimp only [go_sem];refine Zl2 22 ?_;dsimp only [e43,go_sem];refine ⟨by simp,?_⟩;exact Zz4 J1 (s:=true) h
  ·dsimp only [go_sem];refine Zl2 5 ?_;dsimp only [e43,go_sem];refine ⟨by simp,?_⟩;refine Zw4 14 h rfl (fun _ h=>?_) fun _ h=>?_
   ·dsimp only [go_sem];refine Zl2 17 ?_;dsimp only [e43,go_sem];refine ⟨by simp,?_⟩;exact Zz4 J1 (s:=true) h
   ·dsimp only [go_sem];refine Zl2 5 ?_;dsimp only [e43,go_sem];refine ⟨by simp,?_⟩;refine Zw4 19 h rfl (fun _ h=>?_) fun _ h=>?_
    ·dsimp only [go_sem];refine Zl2 12 ?_;dsimp only [e43,go_sem];refine ⟨by simp,?_⟩;exact Zz4 J1 (s:=true) h
    ·dsimp only [go_sem];refine Zl2 6 ?_;dsimp only [e43,go_sem];refine ⟨by simp,?_⟩;refine Zw4 25 h rfl (fun _ h=>?_) fun _ h=>?_
     ·dsimp only [go_sem];refine Zl2 6 ?_;dsimp only [e43,go_sem];refine ⟨by simp,?_⟩;exact Zz4 J1 (s:=true) h
     ·dsimp only [go_sem];refine Zl2 3 ?_;dsimp only [e43,go_sem];refine ⟨by simp,?_⟩;obtain ⟨x2,ex2,h⟩:=Option.bind_eq_some_iff.1 h;refine V_callT [true,true] [] trivial (Zyc x1.Sides x1 ((-1)) _ ex2) (h:=?_);dsimp only [go_sem];refine Zl2 2 ?_;dsimp only [e43,go_sem];refine ⟨by simp,?_⟩;exact Zz4 J1 (s:=x2.1) h
set_option maxRecDepth 100000
set_option maxHeartbeats 4000000
def e100:EC:=.seq (.reg [(Qa 2 (.mv (.c .nl)))]) (.seq (.seq (.reg [(Qa 3 (.mv (.t 0))),(Qa 4 (.isnil false (.t 3)))]) (.ite (.t 4) (.seq (.reg [(Qa 2 (.mv (.c .nl)))]) (.ret)) (.skip))) (.seq (.reg [(Qa 5 (.bsl 65 8 0 [.iv 0,.iv 0,.iv 0,.ff,.ff,.ff,.ff,.ff] [])),(Qa 6 (.mv (.t 0))),(Qa 7 (.app 65 8 32 (.t 5) (.t 6))),(Qa 2 (.mv (.t 7)))]) (.ret)))
theorem ok100:FnOK Tryz.prog 100 Tryz.f100 e100 [.t 2] 1 7:=⟨by kernel_rfl,⟨_,rfl,by kernel_rfl⟩,by kernel_rfl,by kernel_rfl⟩
noncomputable def Z4d (x1:(List Side)):Option (List Side):=Za4 32 [] x1
theorem Z5d (x1:(List Side)) (r:(List Side)) (h:Z4d x1=some r):FunO Tryz.prog 100 [.sl 8 (List.map Side.row x1)] 65 8 (List.map Side.row r):=by
 refine Zc5 ok100 rfl fun w0 H0=>?_
 rw [Z4d] at h
 refine Zl2 100 ?_
 dsimp only [e100,go_sem]
 refine ⟨by simp,?_⟩
 refine V_isnil trivial rfl (fun hn=>?_) ?_
 ·refine Zl2 100 ?_
  dsimp only [go_sem]
  refine ⟨by simp,?_⟩
  refine V_own 2 65 8 rfl rfl ?_
  dsimp only [go_sem]
  have hn:x1=[]:=by simpa using hn
  subst hn
  exact Zj5 Side.row (e:=[]) ok100 (by simpa [Za4] using h) rfl rfl
 ·refine Zl2 100 ?_
  dsimp only [go_sem]
  refine ⟨by simp,?_⟩
  refine Zt4 Side.row h trivial rfl rfl rfl ?_
  refine Zl2 100 ?_
  dsimp only [go_sem]
  refine ⟨by simp,?_⟩
  exact Zj5 Side.row ok100 (rfl:some r=some r) rfl rfl
theorem k_slices_Clone_Side (x1:(List Side)) (r:(List Side)) (h:Z4d x1=some r):Zq2 Tryz.prog 100 [.sl 8 (List.map Side.row x1)] (.sl 8 (List.map Side.row r)):=(Z5d x1 r h).sealed
def Z6d (_F:Nat) (x1:(List Side)):Option (List Side):=Za4 32 [] x1
theorem le_slices_Clone_Side {F:Nat} {x1:(List Side)}:ole (Z6d F x1) (Z4d x1):=Zf4 _
set_option maxRecDepth 100000
set_option maxHeartbeats 4000000
def e97:EC:=.seq (.reg [(Qa 3 (.box 70 3 (.t 0))),(Qa 6 (.alloc 70 [.iv 0,.iv 0,.nl])),(Qa 7 (.mv (.c (.iv 0))))]) (.seq (.reg [(Qa 9 (.loadA 3 (.t 3))),(Qa 10 (.call 43 [(.t 9)])),(Qa 8 (.mv (.t 10)))]) (.seq (.seq (.reg [(Qa 11 (.mv (.t 8))),(Qa 12 (.bin .eql (.t 11) (.c (.iv 0)))),(Qa 13 (.mv (.t 12))),(Qg 14 13 true (.fld 1 (.t 3))),(Qg 15 13 true (.load (.t 14))),(Qg 16 13 true (.mv (.t 1))),(Qg 17 13 true (.bin .neq (.t 15) (.t 16))),(Qa 18 (.pick (.t 13) (.t 17) (.c .ff)))]) (.ite (.t 18) (.reg [(Qa 8 (.mv (.c (.iv 134))))]) (.skip))) (.seq (.seq (.reg [(Qa 19 (.mv (.t 8))),(Qa 20 (.bin .neq (.t 19) (.c (.iv 0))))]) (.ite (.t 20) (.seq (.reg [(Qa 21 (.build [.iv 0,.iv 0,.nl] [])),(Qa 22 (.mv (.t 8))),(Qb (.store 3 (.t 6) (.t 21))),(Qa 7 (.mv (.t 22)))]) (.ret)) (.skip))) (.seq (.drw [(Qa 23 (.fld 0 (.t 3))),(Qa 24 (.load (.t 23))),(Qa 25 (.mv (.t 2))),(Qa 26 (.fld 2 (.t 3))),(Qa 27 (.load (.t 26))),(Qa 28 (.call 100 [(.t 27)])),(Qa 29 (.build [.iv 0,.iv 0,.nl] [(0,1,(.t 24)),(1,1,(.t 25)),(2,1,(.t 28))])),(Qb (.store 3 (.t 6) (.t 29))),(Qa 7 (.mv (.c (.iv 0))))] [[],[0],[],[],[3],[4],[1,2,5],[6,5,0,1,2,3,4,5,6],[7,0,1,2,3,4,5,6,7]] [[1],[0,6],[6],[4],[3,5],[4,6],[1,2,5,7],[6],[]]) (.ret)))))
theorem ok97:FnOK Tryz.prog 97 Tryz.f97 e97 [.c 6 (some 3),.t 7] 3 27:=⟨by kernel_rfl,⟨_,rfl,by kernel_rfl⟩,by kernel_rfl,by kernel_rfl⟩
noncomputable def Z7d (x1:Diner) (x3:Int):Int→Option (Diner×Int)
| x6=>
 ifb (!decide (x6=0)) (
 some ((Diner.mk 0 0 (([]:(List Side)))),x6)) (
 (Z4d x1.Sides).bind fun x7=>
 some ((Diner.mk x1.ID x3 x7),0))
noncomputable def Z8d (x1:Diner) (x3:Int) (x4:Int):Bool→Option (Diner×Int)
| x5=>
 ifb x5 (
 (Z7d x1 x3) 134) (
 (Z7d x1 x3) x4)
noncomputable def Z9d (x1:Diner) (x2:Int) (x3:Int):Option (Diner×Int):=
 (Z2d x1).bind fun x4=>
 ifb (decide (x4=0)) (
 (Z8d x1 x3 x4) (!decide (x1.Phase=x2))) (
 (Z8d x1 x3 x4) false)
theorem Zad (x1:Diner) (x2:Int) (x3:Int) (r:(Diner×Int)) (h:Z9d x1 x2 x3=some r):Zq2 Tryz.prog 97 [.agg (Diner.row x1),.iv x2,.iv x3] (.tup [.agg (Diner.row r.1),.iv r.2]):=by
 refine Zu2 ok97 rfl rfl fun w0 H0=>?_
 rw [Z9d] at h
 refine Zl2 9 ?_;dsimp only [e97,go_sem];refine ⟨by simp,?_⟩;obtain ⟨x4,ex4,h⟩:=Option.bind_eq_some_iff.1 h;refine Zz2 trivial (Z3d x1 _ ex4) (h:=?_);refine Zl2 8 ?_;dsimp only [e97,go_sem];refine ⟨by simp,?_⟩;refine Zl4 (fun (x5:Bool)=>(⟨(.any :: .any :: .iv x3 :: .ptr 0 0 :: .any :: .any :: .ptr 1 0 :: .any :: .iv x4::an 9 (.bv x5::an 11 [])),[some ⟨70,[.iv x1.ID,.iv x1.Phase,.sl 8 (List.map Side.row x1.Sides)]⟩,some ⟨70,[.iv 0,.iv 0,.nl]⟩],[]⟩:St)) (Z8d x1 x3 x4) r ?_ fun J1=>?_
 ·intro x5 h;rw [Z8d] at h;(try dsimp only);refine Zl4 (fun (x6:Int)=>(⟨(.any :: .any :: .iv x3 :: .ptr 0 0 :: .any :: .any :: .ptr 1 0 :: .any :: .iv x6::an 21 []),[some ⟨70,[.iv x1.ID,.iv x1.Phase,.sl 8 (List.map Side.row x1.Sides)]⟩,some ⟨70,[.iv 0,.iv 0,.nl]⟩],[]⟩:St)) (Z7d x1 x3) r ?_ fun J2=>?_
  ·intro x6 h;rw [Z7d] at h;(try dsimp only);refine Zl2 6 ?_;dsimp only [e97,go_sem];refine ⟨by simp,?_⟩;refine Zn4 h rfl (fun _ h=>?_) fun _ h=>?_
   ·refine Zl2 7 ?_;dsimp only [e97,go_sem];refine ⟨by simp,?_⟩;exact Zx4 (res:=fun (r:(Diner×Int))=>.tup [.agg (Diner.row r.1),.iv r.2]) ok97 h
   ·refine Zl2 2 ?_;dsimp only [e97,go_sem];refine ⟨by simp,?_⟩;refine Zh3 (by kernel_rfl) fun all hall hs hnap haf=>?_;dsimp only [go_sem];refine Zh5 hall hs haf hnap 5 4 ?_;dsimp only [go_sem];refine ⟨by simp,?_⟩;refine Zt3 5 rfl ?_;obtain ⟨x7,ex7,h⟩:=Option.bind_eq_some_iff.1 h;refine GO_callO hall rfl trivial (Z5d x1.Sides _ ex7) (h:=?_);dsimp only [go_sem];refine Zh5 hall hs haf hnap 1 2 ?_;dsimp only [go_sem];refine ⟨by simp,?_⟩;refine Zt3 7 rfl ?_;refine Zy3 hall rfl trivial ?_;dsimp only [go_sem]
    refine Zh5 hall hs haf hnap 1 0 ?_;dsimp only [go_sem];refine ⟨by simp,?_⟩;refine Zs3 rfl ?_ _;refine Z83 0 rfl ?_;dsimp only [go_sem];exact Zx4 (res:=fun (r:(Diner×Int))=>.tup [.agg (Diner.row r.1),.iv r.2]) ok97 h
  ·refine Zn4 h rfl (fun _ h=>?_) fun _ h=>?_
   ·refine Zl2 3 ?_;dsimp only [e97,go_sem];refine ⟨by simp,?_⟩;exact Zz4 J2 (s:=134) h
   ·refine Zl2 1 ?_;dsimp only [e97,go_sem];refine ⟨by simp,?_⟩;exact Zz4 J2 (s:=x4) h
 ·refine Zw4 13 h rfl (fun _ h=>?_) fun _ h=>?_
  ·dsimp only [go_sem];refine Zl2 6 ?_;dsimp only [e97,go_sem];refine ⟨by simp,?_⟩;exact Zz4 J1 (s:=!decide (x1.Phase=x2)) h
  ·dsimp only [go_sem];refine Zl2 6 ?_;dsimp only [e97,go_sem];refine ⟨by simp,?_⟩;exact Zz4 J1 (s:=false) h
set_option maxRecDepth 100000
set_option maxHeartbeats 4000000
def e74:EC:=.seq (.reg [(Qa 1 (.box 70 3 (.t 0))),(Qa 2 (.alloc 70 [.iv 0,.iv 0,.nl])),(Qa 3 (.mv (.c (.iv 0))))]) (.seq (.reg [(Qa 4 (.loadA 3 (.t 1))),(Qa 5 (.call 97 [(.t 4),(.c (.iv 2)),(.c (.iv 0))])),(Qa 6 (.ext (.t 5) 0)),(Qa 7 (.ext (.t 5) 1)),(Qb (.store 3 (.t 2) (.t 6))),(Qa 3 (.mv (.t 7)))]) (.ret))
theorem ok74:FnOK Tryz.prog 74 Tryz.f74 e74 [.c 2 (some 3),.t 3] 1 7:=⟨by kernel_rfl,⟨_,rfl,by kernel_rfl⟩,by kernel_rfl,by kernel_rfl⟩
noncomputable def Zbd (x1:Diner):Option (Diner×Int):=
 (Z9d x1 2 0).bind fun x2=>
 some (x2.1,x2.2)
theorem k_dine_Stop (x1:Diner) (r:(Diner×Int)) (h:Zbd x1=some r):Zq2 Tryz.prog 74 [.agg (Diner.row x1)] (.tup [.agg (Diner.row r.1),.iv r.2]):=by
 refine Zu2 ok74 rfl rfl fun w0 H0=>?_
 rw [Zbd] at h
 refine Zl2 9 ?_;dsimp only [e74,go_sem];refine ⟨by simp,?_⟩;obtain ⟨x2,ex2,h⟩:=Option.bind_eq_some_iff.1 h;refine Zz2 trivial (Zad x1 2 0 _ ex2) (h:=?_);refine Zl2 5 ?_;dsimp only [e74,go_sem];refine ⟨by simp,?_⟩;exact Zx4 (res:=fun (r:(Diner×Int))=>.tup [.agg (Diner.row r.1),.iv r.2]) ok74 h
set_option maxRecDepth 100000
set_option maxHeartbeats 4000000
def e67:EC:=.seq (.reg [(Qa 1 (.box 70 3 (.t 0))),(Qa 2 (.alloc 70 [.iv 0,.iv 0,.nl])),(Qa 3 (.mv (.c (.iv 0))))]) (.seq (.reg [(Qa 4 (.loadA 3 (.t 1))),(Qa 5 (.call 97 [(.t 4),(.c (.iv 0)),(.c (.iv 1))])),(Qa 6 (.ext (.t 5) 0)),(Qa 7 (.ext (.t 5) 1)),(Qb (.store 3 (.t 2) (.t 6))),(Qa 3 (.mv (.t 7)))]) (.ret))
theorem ok67:FnOK Tryz.prog 67 Tryz.f67 e67 [.c 2 (some 3),.t 3] 1 7:=⟨by kernel_rfl,⟨_,rfl,by kernel_rfl⟩,by kernel_rfl,by kernel_rfl⟩
noncomputable def Zcd (x1:Diner):Option (Diner×Int):=
 (Z9d x1 0 1).bind fun x2=>
 some (x2.1,x2.2)
theorem k_dine_Start (x1:Diner) (r:(Diner×Int)) (h:Zcd x1=some r):Zq2 Tryz.prog 67 [.agg (Diner.row x1)] (.tup [.agg (Diner.row r.1),.iv r.2]):=by
 refine Zu2 ok67 rfl rfl fun w0 H0=>?_
 rw [Zcd] at h
 refine Zl2 9 ?_;dsimp only [e67,go_sem];refine ⟨by simp,?_⟩;obtain ⟨x2,ex2,h⟩:=Option.bind_eq_some_iff.1 h;refine Zz2 trivial (Zad x1 0 1 _ ex2) (h:=?_);refine Zl2 5 ?_;dsimp only [e67,go_sem];refine ⟨by simp,?_⟩;exact Zx4 (res:=fun (r:(Diner×Int))=>.tup [.agg (Diner.row r.1),.iv r.2]) ok67 h
set_option maxRecDepth 100000
set_option maxHeartbeats 4000000
def e101:EC:=.seq (.reg [(Qa 3 (.box 65 8 (.t 0))),(Qa 4 (.mv (.c .ff)))]) (.seq (.reg [(Qa 5 (.fld 0 (.t 3))),(Qa 6 (.load (.t 5))),(Qa 7 (.load (.t 1))),(Qa 8 (.bin .eql (.t 6) (.t 7))),(Qa 9 (.mv (.t 8))),(Qg 10 9 true (.fld 1 (.t 3))),(Qg 11 9 true (.load (.t 10))),(Qg 12 9 true (.fld 1 (.t 2))),(Qg 13 9 true (.load (.t 12))),(Qg 14 9 true (.bin .eql (.t 11) (.t 13))),(Qa 15 (.pick (.t 9) (.t 14) (.c .ff))),(Qa 4 (.mv (.t 15)))]) (.ret))
theorem ok101:FnOK Tryz.prog 101 Tryz.f101 e101 [.t 4] 3 13:=⟨by kernel_rfl,⟨_,rfl,by kernel_rfl⟩,by kernel_rfl,by kernel_rfl⟩
noncomputable def Zdd:Bool→Option Bool
| x4=>
 some x4
noncomputable def Zed (x1:Side) (x2:Int) (x3:Msg):Option Bool:=
 ifb (decide (x1.Peer=x2)) (
 Zdd (decide (x1.Epoch=x3.Epoch))) (
 Zdd false)
theorem k_dine_Get_1 (x1:Side) (x2:Int) (x3:Msg) (r:Bool) (h:Zed x1 x2 x3=some r):Zq2 Tryz.prog 101 [.agg (Side.row x1),.elt (Z45 x2) 0,.elt (Msg.row x3) 0] (.bv r):=by
 refine Zu2 ok101 rfl rfl fun w0 H0=>?_
 rw [Zed] at h
 refine Zl2 12 ?_;dsimp only [e101,go_sem];refine ⟨by simp,?_⟩;refine Zl4 (fun (x4:Bool)=>(⟨(an 4 (.bv x4::an 11 [])),[],[]⟩:St)) Zdd r ?_ fun J1=>?_
 ·intro x4 h;rw [Zdd] at h;(try dsimp only);exact Zx4 (res:=fun (r:Bool)=>.bv r) ok101 h
 ·refine Zw4 9 h rfl (fun _ h=>?_) fun _ h=>?_
  ·dsimp only [go_sem];refine Zl2 8 ?_;dsimp only [e101,go_sem];refine ⟨by simp,?_⟩;exact Zz4 J1 (s:=decide (x1.Epoch=x3.Epoch)) h
  ·dsimp only [go_sem];refine Zl2 8 ?_;dsimp only [e101,go_sem];refine ⟨by simp,?_⟩;exact Zz4 J1 (s:=false) h
set_option maxRecDepth 100000
set_option maxHeartbeats 4000000
def e73:EC:=.seq (.reg [(Qa 3 (.box 70 3 (.t 0))),(Qa 4 (.box 3 1 (.t 1))),(Qa 5 (.box 76 3 (.t 2))),(Qa 6 (.alloc 70 [.iv 0,.iv 0,.nl])),(Qa 7 (.mv (.c (.iv 0))))]) (.seq (.seq (.reg [(Qa 12 (.loadA 3 (.t 3))),(Qa 13 (.call 43 [(.t 12)])),(Qa 8 (.mv (.t 13)))]) (.seq (.reg [(Qa 14 (.mv (.t 8))),(Qa 15 (.bin .neq (.t 14) (.c (.iv 0))))]) (.ite (.t 15) (.seq (.reg [(Qa 16 (.build [.iv 0,.iv 0,.nl] [])),(Qa 17 (.mv (.t 8))),(Qb (.store 3 (.t 6) (.t 16))),(Qa 7 (.mv (.t 17)))]) (.ret)) (.skip)))) (.seq (.reg [(Qa 18 (.fld 2 (.t 3))),(Qa 19 (.load (.t 18))),(Qa 20 (.mkf 101 [(.t 4),(.t 5)])),(Qa 21 (.call 64 [(.t 19),(.t 20)])),(Qa 9 (.mv (.t 21)))]) (.seq (.seq (.reg [(Qa 22 (.mv (.t 9))),(Qa 23 (.bin .lss (.t 22) (.c (.iv 0))))]) (.ite (.t 23) (.seq (.reg [(Qa 24 (.build [.iv 0,.iv 0,.nl] [])),(Qb (.store 3 (.t 6) (.t 24))),(Qa 7 (.mv (.c (.iv 131))))]) (.ret)) (.skip))) (.seq (.reg [(Qa 25 (.fld 2 (.t 3))),(Qa 26 (.load (.t 25))),(Qa 27 (.call 100 [(.t 26)])),(Qa 28 (.fld 2 (.t 3))),(Qb (.store 1 (.t 28) (.t 27)))]) (.seq (.reg [(Qa 29 (.fld 2 (.t 3))),(Qa 30 (.load (.t 29))),(Qa 31 (.mv (.t 9))),(Qa 32 (.idx 8 (.t 30) (.t 31))),(Qa 10 (.mv (.t 32)))]) (.seq (.reg [(Qa 11 (.mv (.c .ff)))]) (.seq (.blk 0 (.seq (.reg [(Qa 35 (.fld 0 (.t 5))),(Qa 36 (.load (.t 35))),(Qa 37 (.bin .eql (.t 36) (.c (.iv 1)))),(Qa 38 (.mv (.t 37))),(Qg 39 38 true (.fld 2 (.t 5))),(Qg 40 38 true (.load (.t 39))),(Qg 41 38 true (.bin .eql (.t 40) (.c (.iv 0)))),(Qa 42 (.pick (.t 38) (.t 41) (.c .ff))),(Qa 34 (.mv (.t 42)))]) (.ite (.t 34) (.reg [(Qa 43 (.mv (.t 10))),(Qa 44 (.mv (.t 10))),(Qa 45 (.nilchk (.t 44))),(Qa 46 (.fld 3 (.t 45))),(Qa 47 (.load (.t 46))),(Qa 11 (.mv (.t 47))),(Qa 48 (.nilchk (.t 43))),(Qa 49 (.fld 3 (.t 48))),(Qb (.store 1 (.t 49) (.c .tt)))]) (.seq (.reg [(Qa 51 (.fld 0 (.t 5))),(Qa 52 (.load (.t 51))),(Qa 53 (.bin .eql (.t 52) (.c (.iv 2)))),(Qa 54 (.mv (.t 53))),(Qg 55 54 true (.fld 2 (.t 5))),(Qg 56 54 true (.load (.t 55))),(Qg 57 54 true (.bin .eql (.t 56) (.c (.iv 0)))),(Qa 58 (.pick (.t 54) (.t 57) (.c .ff))),(Qa 50 (.mv (.t 58)))]) (.ite (.t 50) (.reg [(Qa 59 (.mv (.t 10))),(Qa 60 (.mv (.t 10))),(Qa 61 (.nilchk (.t 60))),(Qa 62 (.fld 5 (.t 61))),(Qa 63 (.load (.t 62))),(Qa 11 (.mv (.t 63))),(Qa 64 (.nilchk (.t 59))),(Qa 65 (.fld 5 (.t 64))),(Qb (.store 1 (.t 65) (.c .tt)))]) (.seq (.reg [(Qa 33 (.build [.iv 0,.iv 0,.nl] [])),(Qb (.store 3 (.t 6) (.t 33))),(Qa 7 (.mv (.c (.iv 133))))]) (.ret))))))) (.seq (.seq (.reg [(Qa 66 (.mv (.t 11)))]) (.ite (.t 66) (.seq (.reg [(Qa 67 (.build [.iv 0,.iv 0,.nl] [])),(Qb (.store 3 (.t 6) (.t 67))),(Qa 7 (.mv (.c (.iv 132))))]) (.ret)) (.skip))) (.seq (.reg [(Qa 68 (.loadA 3 (.t 3))),(Qb (.store 3 (.t 6) (.t 68))),(Qa 7 (.mv (.c (.iv 0))))]) (.ret))))))))))
theorem ok73:FnOK Tryz.prog 73 Tryz.f73 e73 [.c 6 (some 3),.t 7] 3 66:=⟨by kernel_rfl,⟨_,rfl,by kernel_rfl⟩,by kernel_rfl,by kernel_rfl⟩
noncomputable def Zfd (x1:Diner):(Bool×(List Side))→Option (Diner×Int)
| (x10,x11)=>
 ifb x10 (
 some ((Diner.mk 0 0 (([]:(List Side)))),132)) (
 some ((Diner.mk x1.ID x1.Phase x11),0))
noncomputable def Zgd (x1:Diner) (x5:Int) (x6:(List Side)) (x7:Side):Bool→Option (Diner×Int)
| x9=>
 ifb x9 (
 (Zfd x1) (x7.Token,x6.set (x5).toNat ((Side.mk x7.Peer x7.Epoch x7.State x7.Fork x7.Dirty true x7.Bottle x7.Ask)))) (
 some ((Diner.mk 0 0 (([]:(List Side)))),133))
noncomputable def Zhd (x1:Diner) (x3:Msg) (x5:Int) (x6:(List Side)) (x7:Side):Bool→Option (Diner×Int)
| x8=>
 ifb x8 (
 (Zfd x1) (x7.Fork,x6.set (x5).toNat ((Side.mk x7.Peer x7.Epoch x7.State true x7.Dirty x7.Token x7.Bottle x7.Ask)))) (
 ifb (decide (x3.Kind=2)) (
 (Zgd x1 x5 x6 x7) (decide (x3.Num=0))) (
 (Zgd x1 x5 x6 x7) false))
noncomputable def Zid (x1:Diner) (x2:Int) (x3:Msg):Option (Diner×Int):=
 (Z2d x1).bind fun x4=>
 ifb (!decide (x4=0)) (
 some ((Diner.mk 0 0 (([]:(List Side)))),x4)) (
 (Zq6 x1.Sides ((fun z=>Zed z x2 x3))).bind fun x5=>
 ifb (decide (x5<0)) (
 some ((Diner.mk 0 0 (([]:(List Side)))),131)) (
 (Z4d x1.Sides).bind fun x6=>
 (at_ x6 x5).bind fun x7=>
 ifb (decide (x3.Kind=1)) (
 (Zhd x1 x3 x5 x6 x7) (decide (x3.Num=0))) (
 (Zhd x1 x3 x5 x6 x7) false)))
theorem k_dine_Get (x1:Diner) (x2:Int) (x3:Msg) (r:(Diner×Int)) (h:Zid x1 x2 x3=some r):Zq2 Tryz.prog 73 [.agg (Diner.row x1),.iv x2,.agg (Msg.row x3)] (.tup [.agg (Diner.row r.1),.iv r.2]):=by
 refine Zu2 ok73 rfl rfl fun w0 H0=>?_
 rw [Zid] at h
 refine Zl2 12 ?_;dsimp only [e73,go_sem];refine ⟨by simp,?_⟩;obtain ⟨x4,ex4,h⟩:=Option.bind_eq_some_iff.1 h;refine Zz2 trivial (Z3d x1 _ ex4) (h:=?_);refine Zl2 7 ?_;dsimp only [e73,go_sem];refine ⟨by simp,?_⟩;refine Zn4 h rfl (fun _ h=>?_) fun _ h=>?_
 ·refine Zl2 7 ?_;dsimp only [e73,go_sem];refine ⟨by simp,?_⟩;exact Zx4 (res:=fun (r:(Diner×Int))=>.tup [.agg (Diner.row r.1),.iv r.2]) ok73 h
 ·refine Zl2 6 ?_;dsimp only [e73,go_sem];refine ⟨by simp,?_⟩;obtain ⟨x5,ex5,h⟩:=Option.bind_eq_some_iff.1 h;refine Z25 trivial (((Z05.refl _).block 1 rfl rfl).block 2 rfl rfl) (Zr6 x1.Sides _ _ ((fun z=>Zed z x2 x3)) ⟨by kernel_rfl,rfl,fun z r hz=>k_dine_Get_1 z x2 x3 r hz⟩ _ ex5) (h:=?_);refine Zl2 8 ?_;dsimp only [e73,go_sem];refine ⟨by simp,?_⟩;refine Zn4 h rfl (fun _ h=>?_) fun _ h=>?_
  ·refine Zl2 6 ?_;dsimp only [e73,go_sem];refine ⟨by simp,?_⟩;exact Zx4 (res:=fun (r:(Diner×Int))=>.tup [.agg (Diner.row r.1),.iv r.2]) ok73 h
  ·refine Zl2 5 ?_;dsimp only [e73,go_sem];refine ⟨by simp,?_⟩;obtain ⟨x6,ex6,h⟩:=Option.bind_eq_some_iff.1 h;refine Zd5 trivial (Z5d x1.Sides _ ex6) (h:=?_);refine Zl2 8 ?_;dsimp only [e73,go_sem];refine ⟨by simp,?_⟩;obtain ⟨x7,ex7,h⟩:=Option.bind_eq_some_iff.1 h;refine Z06 Side.row ex7 trivial rfl rfl rfl ?_;refine Zl2 14 ?_;dsimp only [e73,go_sem];refine ⟨by simp,?_⟩
   refine Zl4 (fun (x8:Bool)=>(⟨(an 3 (.ptr 0 0 :: .any :: .ptr 2 0 :: .ptr 3 0::an 3 (.oel 0 ((x5).toNat*8) 0::an 23 (.bv x8::an 34 [])))),[some ⟨70,[.iv x1.ID,.iv x1.Phase,.osl 0]⟩,none,some ⟨76,[.iv x3.Kind,.iv x3.Epoch,.iv x3.Num]⟩,some ⟨70,[.iv 0,.iv 0,.nl]⟩],[some ⟨65,8,List.map Side.row x6⟩]⟩:St)) (Zhd x1 x3 x5 x6 x7) r ?_ fun J1=>?_
   ·intro x8 h;rw [Zhd] at h;(try dsimp only);refine Zl4 (fun ((x10,x11):(Bool×(List Side)))=>(⟨(an 3 (.ptr 0 0 :: .any :: .any :: .ptr 3 0::an 4 (.bv x10::an 57 []))),[some ⟨70,[.iv x1.ID,.iv x1.Phase,.osl 0]⟩,none,none,some ⟨70,[.iv 0,.iv 0,.nl]⟩],[some ⟨65,8,List.map Side.row x11⟩]⟩:St)) (Zfd x1) r ?_ fun J2=>?_
    ·rintro ⟨x10,x11⟩ h;rw [Zfd] at h;(try dsimp only);refine Zl2 6 ?_;dsimp only [e73,go_sem];refine ⟨by simp,?_⟩;refine Zn4 h rfl (fun _ h=>?_) fun _ h=>?_
     ·refine Zl2 6 ?_;dsimp only [e73,go_sem];refine ⟨by simp,?_⟩;exact Zx4 (res:=fun (r:(Diner×Int))=>.tup [.agg (Diner.row r.1),.iv r.2]) ok73 h
     ·refine Zl2 7 ?_;dsimp only [e73,go_sem];refine ⟨by simp,?_⟩;refine Z83 0 rfl ?_;dsimp only [go_sem];exact Zx4 (res:=fun (r:(Diner×Int))=>.tup [.agg (Diner.row r.1),.iv r.2]) ok73 h
    ·refine Zn4 h rfl (fun _ h=>?_) fun _ h=>?_
     ·refine Zl2 5 ?_;dsimp only [e73,go_sem];refine ⟨by simp,?_⟩;refine Z16 Side.row ex7 trivial rfl rfl rfl ?_;refine Zl2 3 ?_;dsimp only [e73,go_sem];refine ⟨by simp,?_⟩;refine Z56 [.bv true] Side.row (y':=(Side.mk x7.Peer x7.Epoch x7.State true x7.Dirty x7.Token x7.Bottle x7.Ask)) ex7 trivial rfl rfl rfl (by first | exact Z94 _ | simp [go_sem]) rfl rfl rfl rfl ?_;refine Zl2 1 ?_;dsimp only [e73,go_sem];refine ⟨by simp,?_⟩;exact Zz4 J2 (s:=(x7.Fork,x6.set (x5).toNat ((Side.mk x7.Peer x7.Epoch x7.State true x7.Dirty x7.Token x7.Bottle x7.Ask)))) h
     ·refine Zl2 6 ?_;dsimp only [e73,go_sem];refine ⟨by simp,?_⟩;refine Zl4 (fun (x9:Bool)=>(⟨(an 3 (.ptr 0 0 :: .any :: .any :: .ptr 3 0::an 3 (.oel 0 ((x5).toNat*8) 0::an 39 (.bv x9::an 18 [])))),[some ⟨70,[.iv x1.ID,.iv x1.Phase,.osl 0]⟩,none,none,some ⟨70,[.iv 0,.iv 0,.nl]⟩],[some ⟨65,8,List.map Side.row x6⟩]⟩:St)) (Zgd x1 x5 x6 x7) r ?_ fun J3=>?_
      ·intro x9 h;rw [Zgd] at h;(try dsimp only);refine Zn4 h rfl (fun _ h=>?_) fun _ h=>?_
       ·refine Zl2 5 ?_;dsimp only [e73,go_sem];refine ⟨by simp,?_⟩;refine Z16 Side.row ex7 trivial rfl rfl rfl ?_;refine Zl2 3 ?_;dsimp only [e73,go_sem];refine ⟨by simp,?_⟩;refine Z56 [.bv true] Side.row (y':=(Side.mk x7.Peer x7.Epoch x7.State x7.Fork x7.Dirty true x7.Bottle x7.Ask)) ex7 trivial rfl rfl rfl (by first | exact Z94 _ | simp [go_sem]) rfl rfl rfl rfl ?_;refine Zl2 1 ?_;dsimp only [e73,go_sem];refine ⟨by simp,?_⟩
        exact Zz4 J2 (s:=(x7.Token,x6.set (x5).toNat ((Side.mk x7.Peer x7.Epoch x7.State x7.Fork x7.Dirty true x7.Bottle x7.Ask)))) h
       ·refine Zl2 6 ?_;dsimp only [e73,go_sem];refine ⟨by simp,?_⟩;exact Zx4 (res:=fun (r:(Diner×Int))=>.tup [.agg (Diner.row r.1),.iv r.2]) ok73 h
      ·refine Zw4 54 h rfl (fun _ h=>?_) fun _ h=>?_
       ·dsimp only [go_sem];refine Zl2 6 ?_;dsimp only [e73,go_sem];refine ⟨by simp,?_⟩;exact Zz4 J3 (s:=decide (x3.Num=0)) h
       ·dsimp only [go_sem];refine Zl2 6 ?_;dsimp only [e73,go_sem];refine ⟨by simp,?_⟩;exact Zz4 J3 (s:=false) h
   ·refine Zw4 38 h rfl (fun _ h=>?_) fun _ h=>?_
    ·dsimp only [go_sem];refine Zl2 6 ?_;dsimp only [e73,go_sem];refine ⟨by simp,?_⟩;exact Zz4 J1 (s:=decide (x3.Num=0)) h
    ·dsimp only [go_sem];refine Zl2 6 ?_;dsimp only [e73,go_sem];refine ⟨by simp,?_⟩;exact Zz4 J1 (s:=false) h
set_option maxRecDepth 100000
set_option maxHeartbeats 4000000
def e121:EC:=.drw [(Qa 5 (.load (.t 1))),(Qa 6 (.fld 0 (.t 2))),(Qa 7 (.load (.t 6))),(Qa 8 (.load (.t 3))),(Qa 9 (.nilchk (.t 8))),(Qa 10 (.fld 0 (.t 9))),(Qa 11 (.load (.t 10))),(Qa 12 (.mv (.t 0))),(Qa 13 (.load (.t 3))),(Qa 14 (.nilchk (.t 13))),(Qa 15 (.fld 1 (.t 14))),(Qa 16 (.load (.t 15))),(Qa 17 (.build [.iv 0,.iv 0,.iv 0] [(0,1,(.t 12)),(1,1,(.t 16))])),(Qa 18 (.build [.iv 0,.iv 0,.iv 0,.iv 0,.iv 0] [(0,1,(.t 7)),(1,1,(.t 11)),(2,3,(.t 17))])),(Qa 19 (.bsl 78 5 1 [.iv 0,.iv 0,.iv 0,.iv 0,.iv 0] [(0,(.t 18))])),(Qa 20 (.app 78 5 40 (.t 5) (.t 19))),(Qb (.store 1 (.t 1) (.t 20)))] [[],[],[1],[],[3],[4],[5],[],[],[8],[9],[10],[7,11],[2,6,12],[13],[0,14],[15,15,0,1,2,3,4,5,6,7,8,9,10,11,12,13,14,15]] [[15],[2],[1,13],[4],[3,5],[4,6],[5,13],[12],[9],[8,10],[9,11],[10,12],[7,11,13],[2,6,12,14],[13,15],[0,14,16],[15]]
theorem Zjd:FnOK Tryz.prog 121 Tryz.f121 e121 [] 4 17:=⟨by kernel_rfl,⟨_,rfl,by kernel_rfl⟩,by kernel_rfl,by kernel_rfl⟩
end NX
end Go.Proofs.YtadebhbiglmodaaGreat
