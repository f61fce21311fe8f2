/-
  The function narthex/table.Deliver: its code compiled, a model, and that the code answers as the model. Written by a program of ours (lb.py). No statement of the seat is proved here.
-/
import Derived.KernelRfl
import Derived.Test.YtadebhbiglmodaaQ4
import Derived.Test.YtadebhbiglmodaaQ2
import Derived.Test.YtadebhbiglmodaaQ3
namespace Go.Proofs.Ytadebhbiglmodaa
namespace NX
open Go
set_option maxRecDepth 100000
set_option maxHeartbeats 4000000
def e70 : EC := .seq (.reg [⟨(some 3), none, .box 43 2 (.t 0)⟩, ⟨(some 4), none, .box 3 1 (.t 1)⟩, ⟨(some 5), none, .box 3 1 (.t 2)⟩, ⟨(some 6), none, .alloc 43 [.nl, .nl]⟩, ⟨(some 7), none, .mv (.c (.iv 0))⟩]) (.seq (.seq (.reg [⟨(some 11), none, .loadA 2 (.t 3)⟩, ⟨(some 12), none, .call 71 [(.t 11)]⟩, ⟨(some 8), none, .mv (.t 12)⟩]) (.seq (.reg [⟨(some 13), none, .mv (.t 8)⟩, ⟨(some 14), none, .bin .neq (.t 13) (.c (.iv 0))⟩]) (.ite (.t 14) (.seq (.reg [⟨(some 15), none, .build [.nl, .nl] []⟩, ⟨(some 16), none, .mv (.t 8)⟩, ⟨none, none, .store 2 (.t 6) (.t 15)⟩, ⟨(some 7), none, .mv (.t 16)⟩]) (.ret)) (.skip)))) (.seq (.seq (.reg [⟨(some 17), none, .loadA 2 (.t 3)⟩, ⟨(some 18), none, .load (.t 4)⟩, ⟨(some 19), none, .call 73 [(.t 17), (.t 18)]⟩, ⟨(some 20), none, .not (.t 19)⟩, ⟨(some 21), none, .mv (.t 20)⟩, ⟨(some 22), (some (21, false)), .loadA 2 (.t 3)⟩, ⟨(some 23), (some (21, false)), .load (.t 5)⟩, ⟨(some 24), (some (21, false)), .call 73 [(.t 22), (.t 23)]⟩, ⟨(some 25), (some (21, false)), .not (.t 24)⟩, ⟨(some 26), none, .pick (.t 21) (.c .tt) (.t 25)⟩]) (.ite (.t 26) (.seq (.reg [⟨(some 27), none, .build [.nl, .nl] []⟩, ⟨none, none, .store 2 (.t 6) (.t 27)⟩, ⟨(some 7), none, .mv (.c (.iv 140))⟩]) (.ret)) (.skip))) (.seq (.reg [⟨(some 28), none, .fld 1 (.t 3)⟩, ⟨(some 29), none, .load (.t 28)⟩, ⟨(some 30), none, .mkf 96 [(.t 4), (.t 5)]⟩, ⟨(some 31), none, .call 95 [(.t 29), (.t 30)]⟩, ⟨(some 9), none, .mv (.t 31)⟩]) (.seq (.seq (.reg [⟨(some 32), none, .mv (.t 9)⟩, ⟨(some 33), none, .bin .lss (.t 32) (.c (.iv 0))⟩]) (.ite (.t 33) (.seq (.reg [⟨(some 34), none, .build [.nl, .nl] []⟩, ⟨none, none, .store 2 (.t 6) (.t 34)⟩, ⟨(some 7), none, .mv (.c (.iv 141))⟩]) (.ret)) (.skip))) (.seq (.reg [⟨(some 35), none, .fld 1 (.t 3)⟩, ⟨(some 36), none, .load (.t 35)⟩, ⟨(some 37), none, .mv (.t 9)⟩, ⟨(some 38), none, .idx 5 (.t 36) (.t 37)⟩, ⟨(some 39), none, .fld 2 (.t 38)⟩, ⟨(some 40), none, .loadA 3 (.t 39)⟩, ⟨(some 10), none, .alloc 93 [.iv 0, .iv 0, .iv 0]⟩, ⟨none, none, .store 3 (.t 10) (.t 40)⟩]) (.seq (.drw [⟨(some 41), none, .fld 1 (.t 3)⟩, ⟨(some 42), none, .load (.t 41)⟩, ⟨(some 43), none, .mv (.t 9)⟩, ⟨(some 44), none, .slice 5 (.t 42) none (some (.t 43))⟩, ⟨(some 45), none, .fld 1 (.t 3)⟩, ⟨(some 46), none, .load (.t 45)⟩, ⟨(some 47), none, .mv (.t 9)⟩, ⟨(some 48), none, .bin .add (.t 47) (.c (.iv 1))⟩, ⟨(some 49), none, .slice 5 (.t 46) (some (.t 48)) none⟩, ⟨(some 50), none, .bsl 41 1 2 [.nl] [(0, (.t 44)), (1, (.t 49))]⟩, ⟨(some 51), none, .call 97 [(.t 50)]⟩, ⟨(some 52), none, .fld 1 (.t 3)⟩, ⟨none, none, .store 1 (.t 52) (.t 51)⟩] [[], [0], [], [1, 2], [], [4], [], [6], [5, 7], [3, 8], [9], [0, 1, 2, 3, 4, 5, 6, 7, 8, 9, 10], [11, 10, 10, 0, 1, 2, 3, 4, 5, 6, 7, 8, 9, 10]] [[1], [0, 3], [3], [1, 2, 9], [5], [4, 8], [7], [6, 8], [5, 7, 9], [3, 8, 10], [9, 12], [12], [10, 11]]) (.seq (.reg [⟨(some 53), none, .loadA 2 (.t 3)⟩, ⟨(some 54), none, .load (.t 5)⟩, ⟨(some 55), none, .mkf 99 [(.t 4), (.t 10)]⟩, ⟨(some 56), none, .call 98 [(.t 53), (.t 54), (.t 55)]⟩, ⟨(some 57), none, .ext (.t 56) 0⟩, ⟨(some 58), none, .ext (.t 56) 1⟩, ⟨none, none, .store 2 (.t 6) (.t 57)⟩, ⟨(some 7), none, .mv (.t 58)⟩]) (.ret))))))))
theorem ok70 : FnOK Try.prog 70 Try.f70 e70 [.c 6 (some 2), .t 7] 3 56 := ⟨by kernel_rfl, ⟨_, rfl, by kernel_rfl⟩, by kernel_rfl, by kernel_rfl⟩
/- narthex/table.Deliver -/
noncomputable def m_table_Deliver_j2 (x1 : Scene) (x2 : Int) (x3 : Int) (x9 : Mail) : (List Mail) → Option (Scene × Int)
| x15 =>
 (m_table_act ((Scene.mk x1.Diners x15)) x3 ((fun z => m_table_Deliver_2 z x2 x9.Msg))).bind fun x16 =>
 some (x16.1, x16.2)
noncomputable def m_table_Deliver_j1 (x1 : Scene) (x2 : Int) (x3 : Int) : Bool → Option (Scene × Int)
| x7 =>
 ifb x7 (
 some ((Scene.mk (([] : (List Diner))) (([] : (List Mail)))), 140)) (
 (m_slices_IndexFunc_Mail x1.Mail ((fun z => m_table_Deliver_1 z x2 x3))).bind fun x8 =>
 ifb (decide (x8 < 0)) (
 some ((Scene.mk (([] : (List Diner))) (([] : (List Mail)))), 141)) (
 (at_ x1.Mail x8).bind fun x9 =>
 (sub_ x1.Mail 0 x8).bind fun x10 =>
 (sub_ x1.Mail (wr (x8 + 1)) (ln Mail.row x1.Mail)).bind fun x11 =>
 (m_slices_Concat_Mail ([x10, x11])).bind fun x14 =>
 (m_table_Deliver_j2 x1 x2 x3 x9) x14))
noncomputable def m_table_Deliver (x1 : Scene) (x2 : Int) (x3 : Int) : Option (Scene × Int) :=
 (m_table_Check x1).bind fun x4 =>
 ifb (!decide (x4 = 0)) (
 some ((Scene.mk (([] : (List Diner))) (([] : (List Mail)))), x4)) (
 (m_table_there x1 x2).bind fun x5 =>
 ifb (!x5) (
 (m_table_Deliver_j1 x1 x2 x3) true) (
 (m_table_there x1 x3).bind fun x6 =>
 (m_table_Deliver_j1 x1 x2 x3) (!x6)))
theorem k_table_Deliver (x1 : Scene) (x2 : Int) (x3 : Int) (r : (Scene × Int)) (h : m_table_Deliver x1 x2 x3 = some r) : FunP Try.prog 70 [.agg (Scene.row x1), .iv x2, .iv x3] (.tup [.agg (Scene.row r.1), .iv r.2]) := by
  refine FunP_intro ok70 rfl rfl fun w0 H0 => ?_
  rw [m_table_Deliver] at h
  refine V_go 12 ?_; dsimp only [e70, go_sem, Nat.reduceBEq, Nat.reduceAdd]; refine ⟨by simp, ?_⟩; obtain ⟨x4, ex4, h⟩ := Option.bind_eq_some_iff.1 h; refine V_call trivial (k_table_Check x1 _ ex4) (h := ?_); refine V_go 7 ?_; dsimp only [e70, go_sem, Nat.reduceBEq, Nat.reduceAdd]; refine ⟨by simp, ?_⟩; refine M_ite h rfl (fun _ h => ?_) fun _ h => ?_
  ·refine V_go 7 ?_; dsimp only [e70, go_sem, Nat.reduceBEq, Nat.reduceAdd]; refine ⟨by simp, ?_⟩; exact M_done (res := fun (r : (Scene × Int)) => .tup [.agg (Scene.row r.1), .iv r.2]) ok70 h
  ·refine V_go 6 ?_; dsimp only [e70, go_sem, Nat.reduceBEq, Nat.reduceAdd]; refine ⟨by simp, ?_⟩; obtain ⟨x5, ex5, h⟩ := Option.bind_eq_some_iff.1 h; refine V_call trivial (k_table_there x1 x2 _ ex5) (h := ?_); refine V_go 2 ?_; dsimp only [e70, go_sem, Nat.reduceBEq, Nat.reduceAdd]; refine ⟨by simp, ?_⟩
   refine V_join (fun (x7 : Bool) => (⟨(an 3 (.ptr 0 0 :: .ptr 1 0 :: .ptr 2 0 :: .ptr 3 0 :: an 19 (.bv x7 :: an 32 []))), [some ⟨43, [.sl 3 (List.map Diner.row x1.Diners), .sl 5 (List.map Mail.row x1.Mail)]⟩, some ⟨3, [.iv x2]⟩, some ⟨3, [.iv x3]⟩, some ⟨43, [.nl, .nl]⟩], []⟩ : St)) (m_table_Deliver_j1 x1 x2 x3) r ?_ fun J1 => ?_
   ·intro x7 h; rw [m_table_Deliver_j1] at h; (try dsimp only); refine M_ite h rfl (fun _ h => ?_) fun _ h => ?_
    ·refine V_go 6 ?_; dsimp only [e70, go_sem, Nat.reduceBEq, Nat.reduceAdd]; refine ⟨by simp, ?_⟩; exact M_done (res := fun (r : (Scene × Int)) => .tup [.agg (Scene.row r.1), .iv r.2]) ok70 h
    ·refine V_go 6 ?_; dsimp only [e70, go_sem, Nat.reduceBEq, Nat.reduceAdd]; refine ⟨by simp, ?_⟩; obtain ⟨x8, ex8, h⟩ := Option.bind_eq_some_iff.1 h; refine V_callL trivial (((Lend.refl _).block 1 rfl rfl).block 2 rfl rfl) (k_slices_IndexFunc_Mail x1.Mail _ _ ((fun z => m_table_Deliver_1 z x2 x3)) ⟨by kernel_rfl, rfl, fun z r hz => k_table_Deliver_1 z x2 x3 r hz⟩ _ ex8) (h := ?_); refine V_go 8 ?_; dsimp only [e70, go_sem, Nat.reduceBEq, Nat.reduceAdd]; refine ⟨by simp, ?_⟩; refine M_ite h rfl (fun _ h => ?_) fun _ h => ?_
     ·refine V_go 6 ?_; dsimp only [e70, go_sem, Nat.reduceBEq, Nat.reduceAdd]; refine ⟨by simp, ?_⟩; exact M_done (res := fun (r : (Scene × Int)) => .tup [.agg (Scene.row r.1), .iv r.2]) ok70 h
     ·refine V_go 6 ?_; dsimp only [e70, go_sem, Nat.reduceBEq, Nat.reduceAdd]; refine ⟨by simp, ?_⟩; obtain ⟨x9, ex9, h⟩ := Option.bind_eq_some_iff.1 h; refine V_idxM Mail.row ex9 trivial rfl rfl rfl ?_; refine V_go 6 ?_; dsimp only [e70, go_sem, Nat.reduceBEq, Nat.reduceAdd]; refine ⟨by simp, ?_⟩
      refine V_join (fun (x15 : (List Mail)) => (⟨(an 3 (.ptr 0 0 :: .ptr 1 0 :: .ptr 2 0 :: .ptr 3 0 :: an 3 (.ptr 4 0 :: an 48 []))), [some ⟨43, [.sl 3 (List.map Diner.row x1.Diners), .osl 1]⟩, some ⟨3, [.iv x2]⟩, some ⟨3, [.iv x3]⟩, some ⟨43, [.nl, .nl]⟩, some ⟨93, [.iv x9.Msg.Kind, .iv x9.Msg.Epoch, .iv x9.Msg.Num]⟩], [none, some ⟨97, 5, List.map Mail.row x15⟩]⟩ : St)) (m_table_Deliver_j2 x1 x2 x3 x9) r ?_ fun J2 => ?_
      ·intro x15 h; rw [m_table_Deliver_j2] at h; (try dsimp only); refine V_go 5 ?_; dsimp only [e70, go_sem, Nat.reduceBEq, Nat.reduceAdd]; refine ⟨by simp, ?_⟩; refine V_seal 1 rfl ?_; dsimp only [go_sem, Nat.reduceBEq, Nat.reduceAdd]; refine V_sealB 1 rfl rfl ?_; dsimp only [go_sem, Nat.reduceBEq, Nat.reduceAdd]; refine V_sealB 4 rfl rfl ?_; dsimp only [go_sem, Nat.reduceBEq, Nat.reduceAdd]; obtain ⟨x16, ex16, h⟩ := Option.bind_eq_some_iff.1 h
       refine V_call trivial (k_table_act ((Scene.mk x1.Diners x15)) x3 _ _ ((fun z => m_table_Deliver_2 z x2 x9.Msg)) ⟨by kernel_rfl, rfl, fun z r hz => k_table_Deliver_2 z x2 x9.Msg r hz⟩ _ ex16) (h := ?_); refine V_go 5 ?_; dsimp only [e70, go_sem, Nat.reduceBEq, Nat.reduceAdd]; refine ⟨by simp, ?_⟩; exact M_done (res := fun (r : (Scene × Int)) => .tup [.agg (Scene.row r.1), .iv r.2]) ok70 h
      ·refine V_drw (by kernel_rfl) fun all hall hs hnap haf => ?_; dsimp only [go_sem, Nat.reduceBEq, Nat.reduceAdd]
       refine G_goE hall hs haf hnap 7 6 [true, true, true, false, true, true, true, true, false, false, false, false, false] (⟨(an 3 (.ptr 0 0 :: .ptr 1 0 :: .ptr 2 0 :: .ptr 3 0 :: .any :: .any :: .iv x8 :: .ptr 4 0 :: an 15 (.bv x7 :: .any :: .ptr 0 1 :: .sl 5 (List.map Mail.row x1.Mail) :: .clo 96 [.ptr 1 0, .ptr 2 0] :: .iv x8 :: .iv x8 :: .bv (decide (x8 < 0)) :: .any :: .ptr 0 1 :: .sl 5 (List.map Mail.row x1.Mail) :: .iv x8 :: .elt [.iv x9.From, .iv x9.To, .iv x9.Msg.Kind, .iv x9.Msg.Epoch, .iv x9.Msg.Num] 0 :: .elt [.iv x9.From, .iv x9.To, .iv x9.Msg.Kind, .iv x9.Msg.Epoch, .iv x9.Msg.Num] 2 :: .agg [.iv x9.Msg.Kind, .iv x9.Msg.Epoch, .iv x9.Msg.Num] :: .ptr 0 1 :: .sl 5 (List.map Mail.row x1.Mail) :: .iv x8 :: .any :: .ptr 0 1 :: .sl 5 (List.map Mail.row x1.Mail) :: .iv x8 :: .iv (wr (x8 + 1)) :: an 10 []))), [some ⟨43, [.sl 3 (List.map Diner.row x1.Diners), .sl 5 (List.map Mail.row x1.Mail)]⟩, some ⟨3, [.iv x2]⟩, some ⟨3, [.iv x3]⟩, some ⟨43, [.nl, .nl]⟩, some ⟨93, [.iv x9.Msg.Kind, .iv x9.Msg.Epoch, .iv x9.Msg.Num]⟩], []⟩ : St) (by kernel_rfl) ?_
       obtain ⟨x10, ex10, h⟩ := Option.bind_eq_some_iff.1 h; obtain ⟨x11, ex11, h⟩ := Option.bind_eq_some_iff.1 h; refine G_two 3 8 rfl ?_ ?_
       ·refine GO_sliceM Mail.row ex10 hall rfl trivial rfl rfl rfl rfl ?_; dsimp only [go_sem, Nat.reduceBEq, Nat.reduceAdd]; refine G_one 8 rfl ?_; refine GO_sliceM Mail.row ex11 hall rfl trivial rfl rfl rfl rfl ?_; dsimp only [go_sem, Nat.reduceBEq, Nat.reduceAdd]; refine G_one 9 rfl ?_; refine GO_bslS hall rfl trivial rfl trivial ?_; dsimp only [go_sem, Nat.reduceBEq, Nat.reduceAdd]; refine G_one 10 rfl ?_; obtain ⟨x14, ex14, h⟩ := Option.bind_eq_some_iff.1 h; refine GO_callO hall rfl trivial (o_slices_Concat_Mail ([x10, x11]) _ ex14) (h := ?_)
        dsimp only [go_sem, Nat.reduceBEq, Nat.reduceAdd]; refine G_goN hall hs haf hnap 1 1 ?_; dsimp only [go_sem, Nat.reduceBEq, Nat.reduceAdd]; refine ⟨by simp, ?_⟩; refine G_one 12 rfl ?_; refine GO_ev hall rfl trivial ?_; dsimp only [go_sem, Nat.reduceBEq, Nat.reduceAdd]; refine G_done rfl ?_ _; exact M_to J2 (s := x14) h
       ·refine GO_sliceM Mail.row ex11 hall rfl trivial rfl rfl rfl rfl ?_; dsimp only [go_sem, Nat.reduceBEq, Nat.reduceAdd]; refine G_one 3 rfl ?_; refine GO_sliceM Mail.row ex10 hall rfl trivial rfl rfl rfl rfl ?_; dsimp only [go_sem, Nat.reduceBEq, Nat.reduceAdd]; refine G_one 9 rfl ?_; refine GO_bslS hall rfl trivial rfl trivial ?_; dsimp only [go_sem, Nat.reduceBEq, Nat.reduceAdd]; refine G_one 10 rfl ?_; obtain ⟨x14, ex14, h⟩ := Option.bind_eq_some_iff.1 h; refine GO_callO hall rfl trivial (o_slices_Concat_Mail ([x10, x11]) _ ex14) (h := ?_)
        dsimp only [go_sem, Nat.reduceBEq, Nat.reduceAdd]; refine G_goN hall hs haf hnap 1 1 ?_; dsimp only [go_sem, Nat.reduceBEq, Nat.reduceAdd]; refine ⟨by simp, ?_⟩; refine G_one 12 rfl ?_; refine GO_ev hall rfl trivial ?_; dsimp only [go_sem, Nat.reduceBEq, Nat.reduceAdd]; refine G_done rfl ?_ _; exact M_to J2 (s := x14) h
   ·refine M_case 21 h rfl (fun _ h => ?_) fun _ h => ?_
    ·dsimp only [go_sem, Nat.reduceBEq, Nat.reduceAdd]; refine V_go 6 ?_; dsimp only [e70, go_sem, Nat.reduceBEq, Nat.reduceAdd]; refine ⟨by simp, ?_⟩; exact M_to J1 (s := true) h
    ·dsimp only [go_sem, Nat.reduceBEq, Nat.reduceAdd]; refine V_go 2 ?_; dsimp only [e70, go_sem, Nat.reduceBEq, Nat.reduceAdd]; refine ⟨by simp, ?_⟩; obtain ⟨x6, ex6, h⟩ := Option.bind_eq_some_iff.1 h; refine V_call trivial (k_table_there x1 x3 _ ex6) (h := ?_); refine V_go 3 ?_; dsimp only [e70, go_sem, Nat.reduceBEq, Nat.reduceAdd]; refine ⟨by simp, ?_⟩; exact M_to J1 (s := !x6) h
def f_table_Deliver_j2 (F : Nat) (x1 : Scene) (x2 : Int) (x3 : Int) (x9 : Mail) : (List Mail) → Option (Scene × Int)
| x15 =>
 (f_table_act F ((Scene.mk x1.Diners x15)) x3 ((fun z => f_table_Deliver_2 F z x2 x9.Msg))).bind fun x16 =>
 some (x16.1, x16.2)
theorem le_table_Deliver_j2 {F : Nat} {x1 : Scene} {x2 : Int} {x3 : Int} {x9 : Mail} : ∀ s, ole (f_table_Deliver_j2 F x1 x2 x3 x9 s) (m_table_Deliver_j2 x1 x2 x3 x9 s) := by
  intro x15
  unfold f_table_Deliver_j2 m_table_Deliver_j2
  try dsimp only
  with_reducible repeat' first | exact ole_refl _ | assumption | intro _ | refine ole_ifb ?_ ?_ | refine ole_bind ?_ ?_ | refine ole_map ?_ | refine ole_loop ?_ | apply le_table_act | apply le_table_Deliver_2
def f_table_Deliver_j1 (F : Nat) (x1 : Scene) (x2 : Int) (x3 : Int) : Bool → Option (Scene × Int)
| x7 =>
 ifb x7 (
 some ((Scene.mk (([] : (List Diner))) (([] : (List Mail)))), 140)) (
 (f_slices_IndexFunc_Mail F x1.Mail ((fun z => f_table_Deliver_1 F z x2 x3))).bind fun x8 =>
 ifb (decide (x8 < 0)) (
 some ((Scene.mk (([] : (List Diner))) (([] : (List Mail)))), 141)) (
 (at_ x1.Mail x8).bind fun x9 =>
 (sub_ x1.Mail 0 x8).bind fun x10 =>
 (sub_ x1.Mail (wr (x8 + 1)) (ln Mail.row x1.Mail)).bind fun x11 =>
 (f_slices_Concat_Mail F ([x10, x11])).bind fun x14 =>
 (f_table_Deliver_j2 F x1 x2 x3 x9) x14))
theorem le_table_Deliver_j1 {F : Nat} {x1 : Scene} {x2 : Int} {x3 : Int} : ∀ s, ole (f_table_Deliver_j1 F x1 x2 x3 s) (m_table_Deliver_j1 x1 x2 x3 s) := by
  intro x7
  unfold f_table_Deliver_j1 m_table_Deliver_j1
  try dsimp only
  with_reducible repeat' first | exact ole_refl _ | assumption | intro _ | refine ole_ifb ?_ ?_ | refine ole_bind ?_ ?_ | refine ole_map ?_ | refine ole_loop ?_ | apply le_table_act | apply le_table_Deliver_2 | apply le_table_Deliver_j2 | apply le_slices_IndexFunc_Mail | apply le_table_Deliver_1 | apply le_slices_Concat_Mail
def f_table_Deliver (F : Nat) (x1 : Scene) (x2 : Int) (x3 : Int) : Option (Scene × Int) :=
 (f_table_Check F x1).bind fun x4 =>
 ifb (!decide (x4 = 0)) (
 some ((Scene.mk (([] : (List Diner))) (([] : (List Mail)))), x4)) (
 (f_table_there F x1 x2).bind fun x5 =>
 ifb (!x5) (
 (f_table_Deliver_j1 F x1 x2 x3) true) (
 (f_table_there F x1 x3).bind fun x6 =>
 (f_table_Deliver_j1 F x1 x2 x3) (!x6)))
theorem le_table_Deliver {F : Nat} {x1 : Scene} {x2 : Int} {x3 : Int} : ole (f_table_Deliver F x1 x2 x3) (m_table_Deliver x1 x2 x3) := by
  unfold f_table_Deliver m_table_Deliver
  with_reducible repeat' first | exact ole_refl _ | assumption | intro _ | refine ole_ifb ?_ ?_ | refine ole_bind ?_ ?_ | refine ole_map ?_ | refine ole_loop ?_ | apply le_table_act | apply le_table_Deliver_2 | apply le_table_Deliver_j2 | apply le_slices_IndexFunc_Mail | apply le_table_Deliver_1 | apply le_slices_Concat_Mail | apply le_table_Deliver_j1 | apply le_table_Check | apply le_table_there
end NX
end Go.Proofs.Ytadebhbiglmodaa
/-
  The function narthex/table.Count$1: its code compiled, a model, and that the code answers as the model. Written by a program of ours (lb.py). No statement of the seat is proved here.
-/
namespace Go.Proofs.Ytadebhbiglmodaa
namespace NX
open Go
set_option maxRecDepth 100000
set_option maxHeartbeats 4000000
def e74 : EC := .seq (.reg [⟨(some 1), none, .box 49 8 (.t 0)⟩, ⟨(some 2), none, .mv (.c .ff)⟩]) (.seq (.reg [⟨(some 3), none, .fld 3 (.t 1)⟩, ⟨(some 4), none, .load (.t 3)⟩, ⟨(some 2), none, .mv (.t 4)⟩]) (.ret))
theorem ok74 : FnOK Try.prog 74 Try.f74 e74 [.t 2] 1 4 := ⟨by kernel_rfl, ⟨_, rfl, by kernel_rfl⟩, by kernel_rfl, by kernel_rfl⟩
/- narthex/table.Count$1 -/
noncomputable def m_table_Count_1 (x1 : Side) : Option Bool :=
 some x1.Fork
theorem k_table_Count_1 (x1 : Side) (r : Bool) (h : m_table_Count_1 x1 = some r) : FunP Try.prog 74 [.agg (Side.row x1)] (.bv r) := by
  refine FunP_intro ok74 rfl rfl fun w0 H0 => ?_
  rw [m_table_Count_1] at h
  refine V_go 11 ?_; dsimp only [e74, go_sem, Nat.reduceBEq, Nat.reduceAdd]; refine ⟨by simp, ?_⟩; exact M_done (res := fun (r : Bool) => .bv r) ok74 h
def f_table_Count_1 (_F : Nat) (x1 : Side) : Option Bool :=
 some x1.Fork
theorem le_table_Count_1 {F : Nat} {x1 : Side} : ole (f_table_Count_1 F x1) (m_table_Count_1 x1) := by
  unfold f_table_Count_1 m_table_Count_1
  with_reducible repeat' first | exact ole_refl _ | assumption | intro _ | refine ole_ifb ?_ ?_ | refine ole_bind ?_ ?_ | refine ole_map ?_ | refine ole_loop ?_
end NX
end Go.Proofs.Ytadebhbiglmodaa
/-
  The function narthex/table.Count$2: its code compiled, a model, and that the code answers as the model. Written by a program of ours (lb.py). No statement of the seat is proved here.
-/
namespace Go.Proofs.Ytadebhbiglmodaa
namespace NX
open Go
set_option maxRecDepth 100000
set_option maxHeartbeats 4000000
def e75 : EC := .seq (.reg [⟨(some 1), none, .box 49 8 (.t 0)⟩, ⟨(some 2), none, .mv (.c .ff)⟩]) (.seq (.reg [⟨(some 3), none, .fld 5 (.t 1)⟩, ⟨(some 4), none, .load (.t 3)⟩, ⟨(some 2), none, .mv (.t 4)⟩]) (.ret))
theorem ok75 : FnOK Try.prog 75 Try.f75 e75 [.t 2] 1 4 := ⟨by kernel_rfl, ⟨_, rfl, by kernel_rfl⟩, by kernel_rfl, by kernel_rfl⟩
/- narthex/table.Count$2 -/
noncomputable def m_table_Count_2 (x1 : Side) : Option Bool :=
 some x1.Token
theorem k_table_Count_2 (x1 : Side) (r : Bool) (h : m_table_Count_2 x1 = some r) : FunP Try.prog 75 [.agg (Side.row x1)] (.bv r) := by
  refine FunP_intro ok75 rfl rfl fun w0 H0 => ?_
  rw [m_table_Count_2] at h
  refine V_go 11 ?_; dsimp only [e75, go_sem, Nat.reduceBEq, Nat.reduceAdd]; refine ⟨by simp, ?_⟩; exact M_done (res := fun (r : Bool) => .bv r) ok75 h
def f_table_Count_2 (_F : Nat) (x1 : Side) : Option Bool :=
 some x1.Token
theorem le_table_Count_2 {F : Nat} {x1 : Side} : ole (f_table_Count_2 F x1) (m_table_Count_2 x1) := by
  unfold f_table_Count_2 m_table_Count_2
  with_reducible repeat' first | exact ole_refl _ | assumption | intro _ | refine ole_ifb ?_ ?_ | refine ole_bind ?_ ?_ | refine ole_map ?_ | refine ole_loop ?_
end NX
end Go.Proofs.Ytadebhbiglmodaa
/-
  The function narthex/table.Count: its code compiled, a model, and that the code answers as the model. Written by a program of ours (lb.py). No statement of the seat is proved here.
-/
namespace Go.Proofs.Ytadebhbiglmodaa
namespace NX
open Go
set_option maxRecDepth 100000
set_option maxHeartbeats 4000000
def e39_L1 : EC := .seq (.reg [⟨(some 89), none, .bin .lss (.t 88) (.t 87)⟩]) (.seq (.ite (.t 89) (.skip) (.exit 3)) (.seq (.blk 4 (.seq (.reg [⟨(some 90), none, .idx 5 (.t 86) (.t 88)⟩, ⟨(some 91), none, .loadA 5 (.t 90)⟩, ⟨(some 16), none, .alloc 97 [.iv 0, .iv 0, .iv 0, .iv 0, .iv 0]⟩, ⟨none, none, .store 5 (.t 16) (.t 91)⟩]) (.seq (.reg [⟨(some 92), none, .fld 2 (.t 16)⟩, ⟨(some 93), none, .fld 0 (.t 92)⟩, ⟨(some 94), none, .load (.t 93)⟩, ⟨(some 95), none, .mv (.t 2)⟩, ⟨(some 96), none, .bin .eql (.t 94) (.t 95)⟩, ⟨(some 97), none, .mv (.t 96)⟩, ⟨(some 98), (some (97, true)), .fld 2 (.t 16)⟩, ⟨(some 99), (some (97, true)), .fld 1 (.t 98)⟩, ⟨(some 100), (some (97, true)), .load (.t 99)⟩, ⟨(some 101), (some (97, true)), .fld 1 (.t 7)⟩, ⟨(some 102), (some (97, true)), .load (.t 101)⟩, ⟨(some 103), (some (97, true)), .bin .eql (.t 100) (.t 102)⟩, ⟨(some 104), none, .pick (.t 97) (.t 103) (.c .ff)⟩, ⟨(some 105), none, .mv (.t 104)⟩, ⟨(some 106), (some (105, true)), .fld 0 (.t 16)⟩, ⟨(some 107), (some (105, true)), .load (.t 106)⟩, ⟨(some 108), (some (105, true)), .fld 1 (.t 16)⟩, ⟨(some 109), (some (105, true)), .load (.t 108)⟩, ⟨(some 110), (some (105, true)), .mm false [(.t 107), (.t 109)]⟩, ⟨(some 111), (some (105, true)), .fld 0 (.t 4)⟩, ⟨(some 112), (some (105, true)), .load (.t 111)⟩, ⟨(some 113), (some (105, true)), .fld 1 (.t 4)⟩, ⟨(some 114), (some (105, true)), .load (.t 113)⟩, ⟨(some 115), (some (105, true)), .mm false [(.t 112), (.t 114)]⟩, ⟨(some 116), (some (105, true)), .bin .eql (.t 110) (.t 115)⟩, ⟨(some 117), none, .pick (.t 105) (.t 116) (.c .ff)⟩, ⟨(some 118), none, .mv (.t 117)⟩, ⟨(some 119), (some (118, true)), .fld 0 (.t 16)⟩, ⟨(some 120), (some (118, true)), .load (.t 119)⟩, ⟨(some 121), (some (118, true)), .fld 1 (.t 16)⟩, ⟨(some 122), (some (118, true)), .load (.t 121)⟩, ⟨(some 123), (some (118, true)), .mm true [(.t 120), (.t 122)]⟩, ⟨(some 124), (some (118, true)), .fld 0 (.t 4)⟩, ⟨(some 125), (some (118, true)), .load (.t 124)⟩, ⟨(some 126), (some (118, true)), .fld 1 (.t 4)⟩, ⟨(some 127), (some (118, true)), .load (.t 126)⟩, ⟨(some 128), (some (118, true)), .mm true [(.t 125), (.t 127)]⟩, ⟨(some 129), (some (118, true)), .bin .eql (.t 123) (.t 128)⟩, ⟨(some 130), none, .pick (.t 118) (.t 129) (.c .ff)⟩]) (.ite (.t 130) (.reg [⟨(some 131), none, .mv (.t 12)⟩, ⟨(some 132), none, .bin .add (.t 131) (.c (.iv 1))⟩, ⟨(some 12), none, .mv (.t 132)⟩]) (.skip))))) (.reg [⟨(some 133), none, .bin .add (.t 88) (.c (.iv 1))⟩, ⟨(some 88), none, .mv (.t 133)⟩])))
def e39_L0 : EC := .seq (.reg [⟨(some 76), none, .bin .lss (.t 75) (.t 74)⟩]) (.seq (.ite (.t 76) (.skip) (.exit 1)) (.seq (.blk 2 (.seq (.reg [⟨(some 77), none, .idx 8 (.t 73) (.t 75)⟩, ⟨(some 78), none, .loadA 8 (.t 77)⟩, ⟨(some 14), none, .alloc 49 [.iv 0, .iv 0, .iv 0, .ff, .ff, .ff, .ff, .ff]⟩, ⟨none, none, .store 8 (.t 14) (.t 78)⟩]) (.seq (.reg [⟨(some 79), none, .mv (.t 11)⟩, ⟨(some 80), none, .loadA 8 (.t 14)⟩, ⟨(some 81), none, .callv (.t 79) [(.t 80)]⟩]) (.ite (.t 81) (.reg [⟨(some 82), none, .mv (.t 12)⟩, ⟨(some 83), none, .bin .add (.t 82) (.c (.iv 1))⟩, ⟨(some 12), none, .mv (.t 83)⟩]) (.skip))))) (.reg [⟨(some 84), none, .bin .add (.t 75) (.c (.iv 1))⟩, ⟨(some 75), none, .mv (.t 84)⟩])))
def e39 : EC := .seq (.reg [⟨(some 3), none, .box 43 2 (.t 0)⟩, ⟨(some 4), none, .box 58 2 (.t 1)⟩, ⟨(some 6), none, .mv (.c (.iv 0))⟩]) (.seq (.seq (.reg [⟨(some 17), none, .loadA 2 (.t 3)⟩, ⟨(some 18), none, .fld 0 (.t 4)⟩, ⟨(some 19), none, .load (.t 18)⟩, ⟨(some 20), none, .call 73 [(.t 17), (.t 19)]⟩, ⟨(some 21), none, .not (.t 20)⟩, ⟨(some 22), none, .mv (.t 21)⟩, ⟨(some 23), (some (22, false)), .loadA 2 (.t 3)⟩, ⟨(some 24), (some (22, false)), .fld 1 (.t 4)⟩, ⟨(some 25), (some (22, false)), .load (.t 24)⟩, ⟨(some 26), (some (22, false)), .call 73 [(.t 23), (.t 25)]⟩, ⟨(some 27), (some (22, false)), .not (.t 26)⟩, ⟨(some 28), none, .pick (.t 22) (.c .tt) (.t 27)⟩]) (.ite (.t 28) (.seq (.reg [⟨(some 6), none, .mv (.c (.iv 0))⟩]) (.ret)) (.skip))) (.seq (.drw [⟨(some 30), none, .fld 0 (.t 3)⟩, ⟨(some 31), none, .load (.t 30)⟩, ⟨(some 32), none, .fld 0 (.t 4)⟩, ⟨(some 33), none, .load (.t 32)⟩, ⟨(some 34), none, .idx 3 (.t 31) (.t 33)⟩, ⟨(some 35), none, .loadA 3 (.t 34)⟩, ⟨(some 36), none, .fld 1 (.t 4)⟩, ⟨(some 37), none, .load (.t 36)⟩, ⟨(some 38), none, .call 24 [(.t 35), (.t 37)]⟩, ⟨(some 29), none, .mv (.t 38)⟩, ⟨(some 39), none, .ext (.t 29) 0⟩, ⟨(some 40), none, .ext (.t 29) 1⟩, ⟨(some 7), none, .alloc 49 [.iv 0, .iv 0, .iv 0, .ff, .ff, .ff, .ff, .ff]⟩, ⟨none, none, .store 8 (.t 7) (.t 39)⟩, ⟨(some 8), none, .mv (.t 40)⟩] [[], [0], [], [2], [1, 3], [4], [], [6], [5, 7], [8], [9], [9], [], [12, 10, 8, 0, 1, 2, 3, 4, 5, 6, 7, 8, 9, 10, 12], [11, 13, 0, 1, 2, 3, 4, 5, 6, 7, 8, 9, 10, 11, 12, 13]] [[1], [0, 4], [3], [2, 4], [1, 3, 5], [4, 8], [7], [6, 8], [5, 7, 9], [8, 10, 11], [9, 13], [9, 14], [13], [10, 12], [11]]) (.seq (.drw [⟨(some 42), none, .fld 0 (.t 3)⟩, ⟨(some 43), none, .load (.t 42)⟩, ⟨(some 44), none, .fld 1 (.t 4)⟩, ⟨(some 45), none, .load (.t 44)⟩, ⟨(some 46), none, .idx 3 (.t 43) (.t 45)⟩, ⟨(some 47), none, .loadA 3 (.t 46)⟩, ⟨(some 48), none, .fld 0 (.t 4)⟩, ⟨(some 49), none, .load (.t 48)⟩, ⟨(some 50), none, .call 24 [(.t 47), (.t 49)]⟩, ⟨(some 41), none, .mv (.t 50)⟩, ⟨(some 51), none, .ext (.t 41) 0⟩, ⟨(some 52), none, .ext (.t 41) 1⟩, ⟨(some 9), none, .alloc 49 [.iv 0, .iv 0, .iv 0, .ff, .ff, .ff, .ff, .ff]⟩, ⟨none, none, .store 8 (.t 9) (.t 51)⟩, ⟨(some 10), none, .mv (.t 52)⟩] [[], [0], [], [2], [1, 3], [4], [], [6], [5, 7], [8], [9], [9], [], [12, 10, 8, 0, 1, 2, 3, 4, 5, 6, 7, 8, 9, 10, 12], [11, 13, 0, 1, 2, 3, 4, 5, 6, 7, 8, 9, 10, 11, 12, 13]] [[1], [0, 4], [3], [2, 4], [1, 3, 5], [4, 8], [7], [6, 8], [5, 7, 9], [8, 10, 11], [9, 13], [9, 14], [13], [10, 12], [11]]) (.seq (.seq (.reg [⟨(some 53), none, .mv (.t 8)⟩, ⟨(some 54), none, .not (.t 53)⟩, ⟨(some 55), none, .mv (.t 54)⟩, ⟨(some 56), (some (55, false)), .mv (.t 10)⟩, ⟨(some 57), (some (55, false)), .not (.t 56)⟩, ⟨(some 58), none, .pick (.t 55) (.c .tt) (.t 57)⟩, ⟨(some 59), none, .mv (.t 58)⟩, ⟨(some 60), (some (59, false)), .fld 1 (.t 7)⟩, ⟨(some 61), (some (59, false)), .load (.t 60)⟩, ⟨(some 62), (some (59, false)), .fld 1 (.t 9)⟩, ⟨(some 63), (some (59, false)), .load (.t 62)⟩, ⟨(some 64), (some (59, false)), .bin .neq (.t 61) (.t 63)⟩, ⟨(some 65), none, .pick (.t 59) (.c .tt) (.t 64)⟩]) (.ite (.t 65) (.seq (.reg [⟨(some 6), none, .mv (.c (.iv 0))⟩]) (.ret)) (.skip))) (.seq (.reg [⟨(some 11), none, .mv (.c .any)⟩]) (.seq (.seq (.reg [⟨(some 66), none, .mv (.t 2)⟩]) (.blk 0 (.seq (.reg [⟨(some 68), none, .bin .eql (.t 66) (.c (.iv 1))⟩, ⟨(some 67), none, .mv (.t 68)⟩]) (.ite (.t 67) (.reg [⟨(some 11), none, .mv (.c (.clo 74 []))⟩]) (.seq (.reg [⟨(some 70), none, .bin .eql (.t 66) (.c (.iv 2))⟩, ⟨(some 69), none, .mv (.t 70)⟩]) (.ite (.t 69) (.reg [⟨(some 11), none, .mv (.c (.clo 75 []))⟩]) (.seq (.reg [⟨(some 6), none, .mv (.c (.iv 0))⟩]) (.ret)))))))) (.seq (.reg [⟨(some 12), none, .mv (.c (.iv 0))⟩]) (.seq (.seq (.reg [⟨(some 71), none, .loadA 8 (.t 7)⟩, ⟨(some 72), none, .loadA 8 (.t 9)⟩, ⟨(some 73), none, .bsl 49 8 2 [.iv 0, .iv 0, .iv 0, .ff, .ff, .ff, .ff, .ff] [(0, (.t 71)), (1, (.t 72))]⟩, ⟨(some 74), none, .len (.t 73)⟩, ⟨(some 75), none, .mv (.c (.iv 0))⟩]) (.blk 1 (.loop e39_L0))) (.seq (.seq (.reg [⟨(some 85), none, .fld 1 (.t 3)⟩, ⟨(some 86), none, .load (.t 85)⟩, ⟨(some 87), none, .len (.t 86)⟩, ⟨(some 88), none, .mv (.c (.iv 0))⟩]) (.blk 3 (.loop e39_L1))) (.seq (.reg [⟨(some 134), none, .mv (.t 12)⟩, ⟨(some 6), none, .mv (.t 134)⟩]) (.ret)))))))))))
theorem ok39 : FnOK Try.prog 39 Try.f39 e39 [.t 6] 3 132 := ⟨by kernel_rfl, ⟨_, rfl, by kernel_rfl⟩, by kernel_rfl, by kernel_rfl⟩
/- narthex/table.Count -/
noncomputable def m_table_Count_j7  : Int → Option Int
| x58 =>
 some x58
noncomputable def m_table_Count_j9 (x45 : Int) : Int → Option ((Int × Int) ⊕ Int)
| x48 =>
 some (.inl (x48, wr (x45 + 1)))
noncomputable def m_table_Count_j8 (x44 : Int) (x45 : Int) : Bool → Option ((Int × Int) ⊕ Int)
| x47 =>
 ifb x47 (
 (m_table_Count_j9 x45) (wr (x44 + 1))) (
 (m_table_Count_j9 x45) x44)
noncomputable def m_table_Count_l2 (x1 : Scene) (x2 : Edge) (x3 : Int) (x11 : Side) : (Int × Int) → Option ((Int × Int) ⊕ Int)
| (x44, x45) =>
 ifb (decide (x45 < (ln Mail.row x1.Mail))) (
 (at_ x1.Mail x45).bind fun x46 =>
 ifb (decide (x46.Msg.Kind = x3)) (
 ifb (decide (x46.Msg.Epoch = x11.Epoch)) (
 ifb (decide (((min x46.From x46.To)) = ((min x2.A x2.B)))) (
 (m_table_Count_j8 x44 x45) (decide (((max x46.From x46.To)) = ((max x2.A x2.B))))) (
 (m_table_Count_j8 x44 x45) false)) (
 (m_table_Count_j8 x44 x45) false)) (
 (m_table_Count_j8 x44 x45) false)) (
 Option.map Sum.inr (m_table_Count_j7 x44))
noncomputable def m_table_Count_j5 (x1 : Scene) (x2 : Edge) (x3 : Int) (x11 : Side) : Int → Option Int
| x38 =>
 loop (m_table_Count_l2 x1 x2 x3 x11) (x38, 0)
noncomputable def m_table_Count_j6 (x24 : Int) : Int → Option ((Int × Int) ⊕ Int)
| x27 =>
 some (.inl (x27, wr (x24 + 1)))
noncomputable def m_table_Count_l1 (x1 : Scene) (x2 : Edge) (x3 : Int) (x11 : Side) (x16 : Side) : (Int × Int) → Option ((Int × Int) ⊕ Int)
| (x23, x24) =>
 ifb (decide (x24 < (ln Side.row ([x11, x16])))) (
 (at_ ([x11, x16]) x24).bind fun x25 =>
 (m_table_Count_1 x25).bind fun x26 =>
 ifb x26 (
 (m_table_Count_j6 x24) (wr (x23 + 1))) (
 (m_table_Count_j6 x24) x23)) (
 Option.map Sum.inr ((m_table_Count_j5 x1 x2 x3 x11) x23))
noncomputable def m_table_Count_j12  : Int → Option Int
| x99 =>
 some x99
noncomputable def m_table_Count_j14 (x86 : Int) : Int → Option ((Int × Int) ⊕ Int)
| x89 =>
 some (.inl (x89, wr (x86 + 1)))
noncomputable def m_table_Count_j13 (x85 : Int) (x86 : Int) : Bool → Option ((Int × Int) ⊕ Int)
| x88 =>
 ifb x88 (
 (m_table_Count_j14 x86) (wr (x85 + 1))) (
 (m_table_Count_j14 x86) x85)
noncomputable def m_table_Count_l4 (x1 : Scene) (x2 : Edge) (x3 : Int) (x11 : Side) : (Int × Int) → Option ((Int × Int) ⊕ Int)
| (x85, x86) =>
 ifb (decide (x86 < (ln Mail.row x1.Mail))) (
 (at_ x1.Mail x86).bind fun x87 =>
 ifb (decide (x87.Msg.Kind = x3)) (
 ifb (decide (x87.Msg.Epoch = x11.Epoch)) (
 ifb (decide (((min x87.From x87.To)) = ((min x2.A x2.B)))) (
 (m_table_Count_j13 x85 x86) (decide (((max x87.From x87.To)) = ((max x2.A x2.B))))) (
 (m_table_Count_j13 x85 x86) false)) (
 (m_table_Count_j13 x85 x86) false)) (
 (m_table_Count_j13 x85 x86) false)) (
 Option.map Sum.inr (m_table_Count_j12 x85))
noncomputable def m_table_Count_j10 (x1 : Scene) (x2 : Edge) (x3 : Int) (x11 : Side) : Int → Option Int
| x79 =>
 loop (m_table_Count_l4 x1 x2 x3 x11) (x79, 0)
noncomputable def m_table_Count_j11 (x65 : Int) : Int → Option ((Int × Int) ⊕ Int)
| x68 =>
 some (.inl (x68, wr (x65 + 1)))
noncomputable def m_table_Count_l3 (x1 : Scene) (x2 : Edge) (x3 : Int) (x11 : Side) (x16 : Side) : (Int × Int) → Option ((Int × Int) ⊕ Int)
| (x64, x65) =>
 ifb (decide (x65 < (ln Side.row ([x11, x16])))) (
 (at_ ([x11, x16]) x65).bind fun x66 =>
 (m_table_Count_2 x66).bind fun x67 =>
 ifb x67 (
 (m_table_Count_j11 x65) (wr (x64 + 1))) (
 (m_table_Count_j11 x65) x64)) (
 Option.map Sum.inr ((m_table_Count_j10 x1 x2 x3 x11) x64))
noncomputable def m_table_Count_j4 (x1 : Scene) (x2 : Edge) (x3 : Int) (x11 : Side) (x16 : Side) : Bool → Option Int
| x17 =>
 ifb x17 (
 some 0) (
 ifb (decide (x3 = 1)) (
 loop (m_table_Count_l1 x1 x2 x3 x11 x16) (0, 0)) (
 ifb (decide (x3 = 2)) (
 loop (m_table_Count_l3 x1 x2 x3 x11 x16) (0, 0)) (
 some 0)))
noncomputable def m_table_Count_j3 (x1 : Scene) (x2 : Edge) (x3 : Int) (x10 : Bool) (x11 : Side) : (Bool × Side) → Option Int
| (x15, x16) =>
 ifb (!x10) (
 (m_table_Count_j4 x1 x2 x3 x11 x16) true) (
 ifb (!x15) (
 (m_table_Count_j4 x1 x2 x3 x11 x16) true) (
 (m_table_Count_j4 x1 x2 x3 x11 x16) (!decide (x11.Epoch = x16.Epoch))))
noncomputable def m_table_Count_j2 (x1 : Scene) (x2 : Edge) (x3 : Int) : (Bool × Side) → Option Int
| (x10, x11) =>
 (at_ x1.Diners x2.B).bind fun x12 =>
 (m_place_Side x12 x2.A).bind fun x13 =>
 (m_table_Count_j3 x1 x2 x3 x10 x11) (x13.2, x13.1)
noncomputable def m_table_Count_j1 (x1 : Scene) (x2 : Edge) (x3 : Int) : Bool → Option Int
| x6 =>
 ifb x6 (
 some 0) (
 (at_ x1.Diners x2.A).bind fun x7 =>
 (m_place_Side x7 x2.B).bind fun x8 =>
 (m_table_Count_j2 x1 x2 x3) (x8.2, x8.1))
noncomputable def m_table_Count (x1 : Scene) (x2 : Edge) (x3 : Int) : Option Int :=
 (m_table_there x1 x2.A).bind fun x4 =>
 ifb (!x4) (
 (m_table_Count_j1 x1 x2 x3) true) (
 (m_table_there x1 x2.B).bind fun x5 =>
 (m_table_Count_j1 x1 x2 x3) (!x5))
theorem k_table_Count (x1 : Scene) (x2 : Edge) (x3 : Int) (r : Int) (h : m_table_Count x1 x2 x3 = some r) : FunP Try.prog 39 [.agg (Scene.row x1), .agg (Edge.row x2), .iv x3] (.iv r) := by
  refine FunP_intro ok39 rfl rfl fun w0 H0 => ?_
  rw [m_table_Count] at h
  refine V_go 12 ?_; dsimp only [e39, e39_L0, e39_L1, go_sem, Nat.reduceBEq, Nat.reduceAdd]; refine ⟨by simp, ?_⟩; obtain ⟨x4, ex4, h⟩ := Option.bind_eq_some_iff.1 h; refine V_call trivial (k_table_there x1 x2.A _ ex4) (h := ?_); refine V_go 2 ?_; dsimp only [e39, e39_L0, e39_L1, go_sem, Nat.reduceBEq, Nat.reduceAdd]; refine ⟨by simp, ?_⟩
  refine V_join (fun (x6 : Bool) => (⟨(.any :: .any :: .iv x3 :: .ptr 0 0 :: .ptr 1 0 :: an 23 (.bv x6 :: an 106 [])), [some ⟨43, [.sl 3 (List.map Diner.row x1.Diners), .sl 5 (List.map Mail.row x1.Mail)]⟩, some ⟨58, [.iv x2.A, .iv x2.B]⟩], []⟩ : St)) (m_table_Count_j1 x1 x2 x3) r ?_ fun J1 => ?_
  ·intro x6 h; rw [m_table_Count_j1] at h; (try dsimp only); refine M_ite h rfl (fun _ h => ?_) fun _ h => ?_
   ·refine V_go 4 ?_; dsimp only [e39, e39_L0, e39_L1, go_sem, Nat.reduceBEq, Nat.reduceAdd]; refine ⟨by simp, ?_⟩; exact M_done (res := fun (r : Int) => .iv r) ok39 h
   ·refine V_go 2 ?_; dsimp only [e39, e39_L0, e39_L1, go_sem, Nat.reduceBEq, Nat.reduceAdd]; refine ⟨by simp, ?_⟩; refine V_join (fun ((x10, x11) : (Bool × Side)) => (⟨(.any :: .any :: .iv x3 :: .ptr 0 0 :: .ptr 1 0 :: .any :: .any :: .ptr 2 0 :: .bv x10 :: an 126 []), [some ⟨43, [.sl 3 (List.map Diner.row x1.Diners), .sl 5 (List.map Mail.row x1.Mail)]⟩, some ⟨58, [.iv x2.A, .iv x2.B]⟩, some ⟨49, [.iv x11.Peer, .iv x11.Epoch, .iv x11.State, .bv x11.Fork, .bv x11.Dirty, .bv x11.Token, .bv x11.Bottle, .bv x11.Ask]⟩], []⟩ : St)) (m_table_Count_j2 x1 x2 x3) r ?_ fun J2 => ?_
    ·rintro ⟨x10, x11⟩ h; rw [m_table_Count_j2] at h; (try dsimp only); refine V_go 1 ?_; dsimp only [e39, e39_L0, e39_L1, go_sem, Nat.reduceBEq, Nat.reduceAdd]; refine ⟨by simp, ?_⟩
     refine V_join (fun ((x15, x16) : (Bool × Side)) => (⟨(.any :: .any :: .iv x3 :: .ptr 0 0 :: .ptr 1 0 :: .any :: .any :: .ptr 2 0 :: .bv x10 :: .ptr 3 0 :: .bv x15 :: an 124 []), [some ⟨43, [.sl 3 (List.map Diner.row x1.Diners), .sl 5 (List.map Mail.row x1.Mail)]⟩, some ⟨58, [.iv x2.A, .iv x2.B]⟩, some ⟨49, [.iv x11.Peer, .iv x11.Epoch, .iv x11.State, .bv x11.Fork, .bv x11.Dirty, .bv x11.Token, .bv x11.Bottle, .bv x11.Ask]⟩, some ⟨49, [.iv x16.Peer, .iv x16.Epoch, .iv x16.State, .bv x16.Fork, .bv x16.Dirty, .bv x16.Token, .bv x16.Bottle, .bv x16.Ask]⟩], []⟩ : St)) (m_table_Count_j3 x1 x2 x3 x10 x11) r ?_ fun J3 => ?_
     ·rintro ⟨x15, x16⟩ h; rw [m_table_Count_j3] at h; (try dsimp only); refine V_go 6 ?_; dsimp only [e39, e39_L0, e39_L1, go_sem, Nat.reduceBEq, Nat.reduceAdd]; refine ⟨by simp, ?_⟩
      refine V_join (fun (x17 : Bool) => (⟨(.any :: .any :: .iv x3 :: .ptr 0 0 :: .ptr 1 0 :: .any :: .any :: .ptr 2 0 :: .any :: .ptr 3 0 :: an 55 (.bv x17 :: an 69 [])), [some ⟨43, [.sl 3 (List.map Diner.row x1.Diners), .sl 5 (List.map Mail.row x1.Mail)]⟩, some ⟨58, [.iv x2.A, .iv x2.B]⟩, some ⟨49, [.iv x11.Peer, .iv x11.Epoch, .iv x11.State, .bv x11.Fork, .bv x11.Dirty, .bv x11.Token, .bv x11.Bottle, .bv x11.Ask]⟩, some ⟨49, [.iv x16.Peer, .iv x16.Epoch, .iv x16.State, .bv x16.Fork, .bv x16.Dirty, .bv x16.Token, .bv x16.Bottle, .bv x16.Ask]⟩], []⟩ : St)) (m_table_Count_j4 x1 x2 x3 x11 x16) r ?_ fun J4 => ?_
      ·intro x17 h; rw [m_table_Count_j4] at h; (try dsimp only); refine M_ite h rfl (fun _ h => ?_) fun _ h => ?_
       ·refine V_go 4 ?_; dsimp only [e39, e39_L0, e39_L1, go_sem, Nat.reduceBEq, Nat.reduceAdd]; refine ⟨by simp, ?_⟩; exact M_done (res := fun (r : Int) => .iv r) ok39 h
       ·refine V_go 16 ?_; dsimp only [e39, e39_L0, e39_L1, go_sem, Nat.reduceBEq, Nat.reduceAdd]; refine ⟨by simp, ?_⟩; refine M_ite h rfl (fun _ h => ?_) fun _ h => ?_
        ·refine V_go 17 ?_; dsimp only [e39, e39_L0, e39_L1, go_sem, Nat.reduceBEq, Nat.reduceAdd]; refine ⟨by simp, ?_⟩; refine V_join (fun (x38 : Int) => (⟨(.any :: .any :: .iv x3 :: .ptr 0 0 :: .ptr 1 0 :: .any :: .any :: .ptr 2 0 :: an 4 (.iv x38 :: an 122 [])), [some ⟨43, [.sl 3 (List.map Diner.row x1.Diners), .sl 5 (List.map Mail.row x1.Mail)]⟩, some ⟨58, [.iv x2.A, .iv x2.B]⟩, some ⟨49, [.iv x11.Peer, .iv x11.Epoch, .iv x11.State, .bv x11.Fork, .bv x11.Dirty, .bv x11.Token, .bv x11.Bottle, .bv x11.Ask]⟩], []⟩ : St)) (m_table_Count_j5 x1 x2 x3 x11) r ?_ fun J5 => ?_
         ·intro x38 h; rw [m_table_Count_j5] at h; (try dsimp only); refine V_go 8 ?_; dsimp only [e39, e39_L0, e39_L1, go_sem, Nat.reduceBEq, Nat.reduceAdd]; refine ⟨by simp, ?_⟩; refine V_join (fun (x58 : Int) => (⟨(an 12 (.iv x58 :: an 122 [])), [], []⟩ : St)) m_table_Count_j7 r ?_ fun J7 => ?_
          ·intro x58 h; rw [m_table_Count_j7] at h; (try dsimp only); refine V_go 5 ?_; dsimp only [e39, e39_L0, e39_L1, go_sem, Nat.reduceBEq, Nat.reduceAdd]; refine ⟨by simp, ?_⟩; exact M_done (res := fun (r : Int) => .iv r) ok39 h
          ·refine V_go 1 ?_; dsimp only [e39, e39_L0, e39_L1, go_sem, Nat.reduceBEq, Nat.reduceAdd]; refine ⟨by simp, ?_⟩
           refine M_loop h (fun ((x44, x45) : (Int × Int)) => (⟨(.any :: .any :: .iv x3 :: .any :: .ptr 1 0 :: .any :: .any :: .ptr 2 0 :: an 4 (.iv x44 :: an 73 (.sl 5 (List.map Mail.row x1.Mail) :: .iv (ln Mail.row x1.Mail) :: .iv x45 :: an 46 []))), [none, some ⟨58, [.iv x2.A, .iv x2.B]⟩, some ⟨49, [.iv x11.Peer, .iv x11.Epoch, .iv x11.State, .bv x11.Fork, .bv x11.Dirty, .bv x11.Token, .bv x11.Bottle, .bv x11.Ask]⟩], []⟩ : St)) (by simp [go_sem]) (by rintro ⟨x44, x45⟩; first | rfl | simp [go_sem]) ?_; rintro n1 ⟨x44, x45⟩ y1 h hin1 hout1; rw [m_table_Count_l2] at h; (try dsimp only)
           refine V_go 5 ?_; dsimp only [e39, e39_L0, e39_L1, go_sem, Nat.reduceBEq, Nat.reduceAdd]; refine ⟨by simp, ?_⟩; refine M_ite h rfl (fun _ h => ?_) fun _ h => ?_
           ·refine V_go 5 ?_; dsimp only [e39, e39_L0, e39_L1, go_sem, Nat.reduceBEq, Nat.reduceAdd]; refine ⟨by simp, ?_⟩; obtain ⟨x46, ex46, h⟩ := Option.bind_eq_some_iff.1 h; refine V_idxM Mail.row ex46 trivial rfl rfl rfl ?_; refine V_go 12 ?_; dsimp only [e39, e39_L0, e39_L1, go_sem, Nat.reduceBEq, Nat.reduceAdd]; refine ⟨by simp, ?_⟩
            refine V_join (fun (x47 : Bool) => (⟨(.any :: .any :: .iv x3 :: .any :: .ptr 1 0 :: .any :: .any :: .ptr 2 0 :: an 4 (.iv x44 :: an 73 (.sl 5 (List.map Mail.row x1.Mail) :: .iv (ln Mail.row x1.Mail) :: .iv x45 :: an 41 (.bv x47 :: an 4 [])))), [none, some ⟨58, [.iv x2.A, .iv x2.B]⟩, some ⟨49, [.iv x11.Peer, .iv x11.Epoch, .iv x11.State, .bv x11.Fork, .bv x11.Dirty, .bv x11.Token, .bv x11.Bottle, .bv x11.Ask]⟩], []⟩ : St)) (m_table_Count_j8 x44 x45) y1 ?_ fun J8 => ?_
            ·intro x47 h; rw [m_table_Count_j8] at h; (try dsimp only); refine V_join (fun (x48 : Int) => (⟨(.any :: .any :: .iv x3 :: .any :: .ptr 1 0 :: .any :: .any :: .ptr 2 0 :: an 4 (.iv x48 :: an 73 (.sl 5 (List.map Mail.row x1.Mail) :: .iv (ln Mail.row x1.Mail) :: .iv x45 :: an 46 []))), [none, some ⟨58, [.iv x2.A, .iv x2.B]⟩, some ⟨49, [.iv x11.Peer, .iv x11.Epoch, .iv x11.State, .bv x11.Fork, .bv x11.Dirty, .bv x11.Token, .bv x11.Bottle, .bv x11.Ask]⟩], []⟩ : St)) (m_table_Count_j9 x45) y1 ?_ fun J9 => ?_
             ·intro x48 h; rw [m_table_Count_j9] at h; (try dsimp only); refine V_go 5 ?_; dsimp only [e39, e39_L0, e39_L1, go_sem, Nat.reduceBEq, Nat.reduceAdd]; refine ⟨by simp, ?_⟩; exact M_back h hin1
             ·refine M_ite h rfl (fun _ h => ?_) fun _ h => ?_
              ·refine V_go 5 ?_; dsimp only [e39, e39_L0, e39_L1, go_sem, Nat.reduceBEq, Nat.reduceAdd]; refine ⟨by simp, ?_⟩; exact M_to J9 (s := wr (x44 + 1)) h
              ·refine V_go 1 ?_; dsimp only [e39, e39_L0, e39_L1, go_sem, Nat.reduceBEq, Nat.reduceAdd]; refine ⟨by simp, ?_⟩; exact M_to J9 (s := x44) h
            ·refine M_case 97 h rfl (fun _ h => ?_) fun _ h => ?_
             ·dsimp only [go_sem, Nat.reduceBEq, Nat.reduceAdd]; refine V_go 8 ?_; dsimp only [e39, e39_L0, e39_L1, go_sem, Nat.reduceBEq, Nat.reduceAdd]; refine ⟨by simp, ?_⟩; refine M_case 105 h rfl (fun _ h => ?_) fun _ h => ?_
              ·dsimp only [go_sem, Nat.reduceBEq, Nat.reduceAdd]; refine V_go 13 ?_; dsimp only [e39, e39_L0, e39_L1, go_sem, Nat.reduceBEq, Nat.reduceAdd]; refine ⟨by simp, ?_⟩; refine M_case 118 h rfl (fun _ h => ?_) fun _ h => ?_
               ·dsimp only [go_sem, Nat.reduceBEq, Nat.reduceAdd]; refine V_go 13 ?_; dsimp only [e39, e39_L0, e39_L1, go_sem, Nat.reduceBEq, Nat.reduceAdd]; refine ⟨by simp, ?_⟩; exact M_to J8 (s := decide (((max x46.From x46.To)) = ((max x2.A x2.B)))) h
               ·dsimp only [go_sem, Nat.reduceBEq, Nat.reduceAdd]; refine V_go 13 ?_; dsimp only [e39, e39_L0, e39_L1, go_sem, Nat.reduceBEq, Nat.reduceAdd]; refine ⟨by simp, ?_⟩; exact M_to J8 (s := false) h
              ·dsimp only [go_sem, Nat.reduceBEq, Nat.reduceAdd]; refine V_go 26 ?_; dsimp only [e39, e39_L0, e39_L1, go_sem, Nat.reduceBEq, Nat.reduceAdd]; refine ⟨by simp, ?_⟩; exact M_to J8 (s := false) h
             ·dsimp only [go_sem, Nat.reduceBEq, Nat.reduceAdd]; refine V_go 34 ?_; dsimp only [e39, e39_L0, e39_L1, go_sem, Nat.reduceBEq, Nat.reduceAdd]; refine ⟨by simp, ?_⟩; exact M_to J8 (s := false) h
           ·refine V_go 1 ?_; dsimp only [e39, e39_L0, e39_L1, go_sem, Nat.reduceBEq, Nat.reduceAdd]; refine ⟨by simp, ?_⟩; exact M_to J7 (s := x44) (M_out h hout1)
         ·refine V_go 1 ?_; dsimp only [e39, e39_L0, e39_L1, go_sem, Nat.reduceBEq, Nat.reduceAdd]; refine ⟨by simp, ?_⟩
          refine M_loop h (fun ((x23, x24) : (Int × Int)) => (⟨(.any :: .any :: .iv x3 :: .ptr 0 0 :: .ptr 1 0 :: .any :: .any :: .ptr 2 0 :: an 3 (.clo 74 [] :: .iv x23 :: an 60 (.osl 0 :: .iv (ln Side.row ([x11, x16])) :: .iv x24 :: an 59 []))), [some ⟨43, [.sl 3 (List.map Diner.row x1.Diners), .sl 5 (List.map Mail.row x1.Mail)]⟩, some ⟨58, [.iv x2.A, .iv x2.B]⟩, some ⟨49, [.iv x11.Peer, .iv x11.Epoch, .iv x11.State, .bv x11.Fork, .bv x11.Dirty, .bv x11.Token, .bv x11.Bottle, .bv x11.Ask]⟩], [some ⟨49, 8, List.map Side.row ([x11, x16])⟩]⟩ : St)) (by simp [go_sem]) (by rintro ⟨x23, x24⟩; first | rfl | simp [go_sem]) ?_
          rintro n1 ⟨x23, x24⟩ y1 h hin1 hout1; rw [m_table_Count_l1] at h; (try dsimp only); refine V_go 5 ?_; dsimp only [e39, e39_L0, e39_L1, go_sem, Nat.reduceBEq, Nat.reduceAdd]; refine ⟨by simp, ?_⟩; refine M_ite h rfl (fun _ h => ?_) fun _ h => ?_
          ·refine V_go 5 ?_; dsimp only [e39, e39_L0, e39_L1, go_sem, Nat.reduceBEq, Nat.reduceAdd]; refine ⟨by simp, ?_⟩; obtain ⟨x25, ex25, h⟩ := Option.bind_eq_some_iff.1 h; refine V_idxOM Side.row ex25 trivial rfl rfl rfl ?_; refine V_loadAO Side.row ex25 trivial rfl rfl rfl ?_; refine V_go 7 ?_; dsimp only [e39, e39_L0, e39_L1, go_sem, Nat.reduceBEq, Nat.reduceAdd]; refine ⟨by simp, ?_⟩; obtain ⟨x26, ex26, h⟩ := Option.bind_eq_some_iff.1 h; refine V_callv trivial rfl (k_table_Count_1 x25 _ ex26) (by kernel_rfl) (h := ?_); refine V_go 1 ?_
           dsimp only [e39, e39_L0, e39_L1, go_sem, Nat.reduceBEq, Nat.reduceAdd]; refine ⟨by simp, ?_⟩
           refine V_join (fun (x27 : Int) => (⟨(.any :: .any :: .iv x3 :: .ptr 0 0 :: .ptr 1 0 :: .any :: .any :: .ptr 2 0 :: an 3 (.clo 74 [] :: .iv x27 :: an 60 (.osl 0 :: .iv (ln Side.row ([x11, x16])) :: .iv x24 :: an 59 []))), [some ⟨43, [.sl 3 (List.map Diner.row x1.Diners), .sl 5 (List.map Mail.row x1.Mail)]⟩, some ⟨58, [.iv x2.A, .iv x2.B]⟩, some ⟨49, [.iv x11.Peer, .iv x11.Epoch, .iv x11.State, .bv x11.Fork, .bv x11.Dirty, .bv x11.Token, .bv x11.Bottle, .bv x11.Ask]⟩], [some ⟨49, 8, List.map Side.row ([x11, x16])⟩]⟩ : St)) (m_table_Count_j6 x24) y1 ?_ fun J6 => ?_
           ·intro x27 h; rw [m_table_Count_j6] at h; (try dsimp only); refine V_go 5 ?_; dsimp only [e39, e39_L0, e39_L1, go_sem, Nat.reduceBEq, Nat.reduceAdd]; refine ⟨by simp, ?_⟩; exact M_back h hin1
           ·refine M_ite h rfl (fun _ h => ?_) fun _ h => ?_
            ·refine V_go 5 ?_; dsimp only [e39, e39_L0, e39_L1, go_sem, Nat.reduceBEq, Nat.reduceAdd]; refine ⟨by simp, ?_⟩; exact M_to J6 (s := wr (x23 + 1)) h
            ·refine V_go 1 ?_; dsimp only [e39, e39_L0, e39_L1, go_sem, Nat.reduceBEq, Nat.reduceAdd]; refine ⟨by simp, ?_⟩; exact M_to J6 (s := x23) h
          ·refine V_go 1 ?_; dsimp only [e39, e39_L0, e39_L1, go_sem, Nat.reduceBEq, Nat.reduceAdd]; refine ⟨by simp, ?_⟩; exact M_to J5 (s := x23) (M_out h hout1)
        ·refine V_go 5 ?_; dsimp only [e39, e39_L0, e39_L1, go_sem, Nat.reduceBEq, Nat.reduceAdd]; refine ⟨by simp, ?_⟩; refine M_ite h rfl (fun _ h => ?_) fun _ h => ?_
         ·refine V_go 17 ?_; dsimp only [e39, e39_L0, e39_L1, go_sem, Nat.reduceBEq, Nat.reduceAdd]; refine ⟨by simp, ?_⟩; refine V_join (fun (x79 : Int) => (⟨(.any :: .any :: .iv x3 :: .ptr 0 0 :: .ptr 1 0 :: .any :: .any :: .ptr 2 0 :: an 4 (.iv x79 :: an 122 [])), [some ⟨43, [.sl 3 (List.map Diner.row x1.Diners), .sl 5 (List.map Mail.row x1.Mail)]⟩, some ⟨58, [.iv x2.A, .iv x2.B]⟩, some ⟨49, [.iv x11.Peer, .iv x11.Epoch, .iv x11.State, .bv x11.Fork, .bv x11.Dirty, .bv x11.Token, .bv x11.Bottle, .bv x11.Ask]⟩], []⟩ : St)) (m_table_Count_j10 x1 x2 x3 x11) r ?_ fun J10 => ?_
          ·intro x79 h; rw [m_table_Count_j10] at h; (try dsimp only); refine V_go 8 ?_; dsimp only [e39, e39_L0, e39_L1, go_sem, Nat.reduceBEq, Nat.reduceAdd]; refine ⟨by simp, ?_⟩; refine V_join (fun (x99 : Int) => (⟨(an 12 (.iv x99 :: an 122 [])), [], []⟩ : St)) m_table_Count_j12 r ?_ fun J12 => ?_
           ·intro x99 h; rw [m_table_Count_j12] at h; (try dsimp only); refine V_go 5 ?_; dsimp only [e39, e39_L0, e39_L1, go_sem, Nat.reduceBEq, Nat.reduceAdd]; refine ⟨by simp, ?_⟩; exact M_done (res := fun (r : Int) => .iv r) ok39 h
           ·refine V_go 1 ?_; dsimp only [e39, e39_L0, e39_L1, go_sem, Nat.reduceBEq, Nat.reduceAdd]; refine ⟨by simp, ?_⟩
            refine M_loop h (fun ((x85, x86) : (Int × Int)) => (⟨(.any :: .any :: .iv x3 :: .any :: .ptr 1 0 :: .any :: .any :: .ptr 2 0 :: an 4 (.iv x85 :: an 73 (.sl 5 (List.map Mail.row x1.Mail) :: .iv (ln Mail.row x1.Mail) :: .iv x86 :: an 46 []))), [none, some ⟨58, [.iv x2.A, .iv x2.B]⟩, some ⟨49, [.iv x11.Peer, .iv x11.Epoch, .iv x11.State, .bv x11.Fork, .bv x11.Dirty, .bv x11.Token, .bv x11.Bottle, .bv x11.Ask]⟩], []⟩ : St)) (by simp [go_sem]) (by rintro ⟨x85, x86⟩; first | rfl | simp [go_sem]) ?_; rintro n1 ⟨x85, x86⟩ y1 h hin1 hout1; rw [m_table_Count_l4] at h; (try dsimp only)
            refine V_go 5 ?_; dsimp only [e39, e39_L0, e39_L1, go_sem, Nat.reduceBEq, Nat.reduceAdd]; refine ⟨by simp, ?_⟩; refine M_ite h rfl (fun _ h => ?_) fun _ h => ?_
            ·refine V_go 5 ?_; dsimp only [e39, e39_L0, e39_L1, go_sem, Nat.reduceBEq, Nat.reduceAdd]; refine ⟨by simp, ?_⟩; obtain ⟨x87, ex87, h⟩ := Option.bind_eq_some_iff.1 h; refine V_idxM Mail.row ex87 trivial rfl rfl rfl ?_; refine V_go 12 ?_; dsimp only [e39, e39_L0, e39_L1, go_sem, Nat.reduceBEq, Nat.reduceAdd]; refine ⟨by simp, ?_⟩
             refine V_join (fun (x88 : Bool) => (⟨(.any :: .any :: .iv x3 :: .any :: .ptr 1 0 :: .any :: .any :: .ptr 2 0 :: an 4 (.iv x85 :: an 73 (.sl 5 (List.map Mail.row x1.Mail) :: .iv (ln Mail.row x1.Mail) :: .iv x86 :: an 41 (.bv x88 :: an 4 [])))), [none, some ⟨58, [.iv x2.A, .iv x2.B]⟩, some ⟨49, [.iv x11.Peer, .iv x11.Epoch, .iv x11.State, .bv x11.Fork, .bv x11.Dirty, .bv x11.Token, .bv x11.Bottle, .bv x11.Ask]⟩], []⟩ : St)) (m_table_Count_j13 x85 x86) y1 ?_ fun J13 => ?_
             ·intro x88 h; rw [m_table_Count_j13] at h; (try dsimp only); refine V_join (fun (x89 : Int) => (⟨(.any :: .any :: .iv x3 :: .any :: .ptr 1 0 :: .any :: .any :: .ptr 2 0 :: an 4 (.iv x89 :: an 73 (.sl 5 (List.map Mail.row x1.Mail) :: .iv (ln Mail.row x1.Mail) :: .iv x86 :: an 46 []))), [none, some ⟨58, [.iv x2.A, .iv x2.B]⟩, some ⟨49, [.iv x11.Peer, .iv x11.Epoch, .iv x11.State, .bv x11.Fork, .bv x11.Dirty, .bv x11.Token, .bv x11.Bottle, .bv x11.Ask]⟩], []⟩ : St)) (m_table_Count_j14 x86) y1 ?_ fun J14 => ?_
              ·intro x89 h; rw [m_table_Count_j14] at h; (try dsimp only); refine V_go 5 ?_; dsimp only [e39, e39_L0, e39_L1, go_sem, Nat.reduceBEq, Nat.reduceAdd]; refine ⟨by simp, ?_⟩; exact M_back h hin1
              ·refine M_ite h rfl (fun _ h => ?_) fun _ h => ?_
               ·refine V_go 5 ?_; dsimp only [e39, e39_L0, e39_L1, go_sem, Nat.reduceBEq, Nat.reduceAdd]; refine ⟨by simp, ?_⟩; exact M_to J14 (s := wr (x85 + 1)) h
               ·refine V_go 1 ?_; dsimp only [e39, e39_L0, e39_L1, go_sem, Nat.reduceBEq, Nat.reduceAdd]; refine ⟨by simp, ?_⟩; exact M_to J14 (s := x85) h
             ·refine M_case 97 h rfl (fun _ h => ?_) fun _ h => ?_
              ·dsimp only [go_sem, Nat.reduceBEq, Nat.reduceAdd]; refine V_go 8 ?_; dsimp only [e39, e39_L0, e39_L1, go_sem, Nat.reduceBEq, Nat.reduceAdd]; refine ⟨by simp, ?_⟩; refine M_case 105 h rfl (fun _ h => ?_) fun _ h => ?_
               ·dsimp only [go_sem, Nat.reduceBEq, Nat.reduceAdd]; refine V_go 13 ?_; dsimp only [e39, e39_L0, e39_L1, go_sem, Nat.reduceBEq, Nat.reduceAdd]; refine ⟨by simp, ?_⟩; refine M_case 118 h rfl (fun _ h => ?_) fun _ h => ?_
                ·dsimp only [go_sem, Nat.reduceBEq, Nat.reduceAdd]; refine V_go 13 ?_; dsimp only [e39, e39_L0, e39_L1, go_sem, Nat.reduceBEq, Nat.reduceAdd]; refine ⟨by simp, ?_⟩; exact M_to J13 (s := decide (((max x87.From x87.To)) = ((max x2.A x2.B)))) h
                ·dsimp only [go_sem, Nat.reduceBEq, Nat.reduceAdd]; refine V_go 13 ?_; dsimp only [e39, e39_L0, e39_L1, go_sem, Nat.reduceBEq, Nat.reduceAdd]; refine ⟨by simp, ?_⟩; exact M_to J13 (s := false) h
               ·dsimp only [go_sem, Nat.reduceBEq, Nat.reduceAdd]; refine V_go 26 ?_; dsimp only [e39, e39_L0, e39_L1, go_sem, Nat.reduceBEq, Nat.reduceAdd]; refine ⟨by simp, ?_⟩; exact M_to J13 (s := false) h
              ·dsimp only [go_sem, Nat.reduceBEq, Nat.reduceAdd]; refine V_go 34 ?_; dsimp only [e39, e39_L0, e39_L1, go_sem, Nat.reduceBEq, Nat.reduceAdd]; refine ⟨by simp, ?_⟩; exact M_to J13 (s := false) h
            ·refine V_go 1 ?_; dsimp only [e39, e39_L0, e39_L1, go_sem, Nat.reduceBEq, Nat.reduceAdd]; refine ⟨by simp, ?_⟩; exact M_to J12 (s := x85) (M_out h hout1)
          ·refine V_go 1 ?_; dsimp only [e39, e39_L0, e39_L1, go_sem, Nat.reduceBEq, Nat.reduceAdd]; refine ⟨by simp, ?_⟩
           refine M_loop h (fun ((x64, x65) : (Int × Int)) => (⟨(.any :: .any :: .iv x3 :: .ptr 0 0 :: .ptr 1 0 :: .any :: .any :: .ptr 2 0 :: an 3 (.clo 75 [] :: .iv x64 :: an 60 (.osl 0 :: .iv (ln Side.row ([x11, x16])) :: .iv x65 :: an 59 []))), [some ⟨43, [.sl 3 (List.map Diner.row x1.Diners), .sl 5 (List.map Mail.row x1.Mail)]⟩, some ⟨58, [.iv x2.A, .iv x2.B]⟩, some ⟨49, [.iv x11.Peer, .iv x11.Epoch, .iv x11.State, .bv x11.Fork, .bv x11.Dirty, .bv x11.Token, .bv x11.Bottle, .bv x11.Ask]⟩], [some ⟨49, 8, List.map Side.row ([x11, x16])⟩]⟩ : St)) (by simp [go_sem]) (by rintro ⟨x64, x65⟩; first | rfl | simp [go_sem]) ?_
           rintro n1 ⟨x64, x65⟩ y1 h hin1 hout1; rw [m_table_Count_l3] at h; (try dsimp only); refine V_go 5 ?_; dsimp only [e39, e39_L0, e39_L1, go_sem, Nat.reduceBEq, Nat.reduceAdd]; refine ⟨by simp, ?_⟩; refine M_ite h rfl (fun _ h => ?_) fun _ h => ?_
           ·refine V_go 5 ?_; dsimp only [e39, e39_L0, e39_L1, go_sem, Nat.reduceBEq, Nat.reduceAdd]; refine ⟨by simp, ?_⟩; obtain ⟨x66, ex66, h⟩ := Option.bind_eq_some_iff.1 h; refine V_idxOM Side.row ex66 trivial rfl rfl rfl ?_; refine V_loadAO Side.row ex66 trivial rfl rfl rfl ?_; refine V_go 7 ?_; dsimp only [e39, e39_L0, e39_L1, go_sem, Nat.reduceBEq, Nat.reduceAdd]; refine ⟨by simp, ?_⟩; obtain ⟨x67, ex67, h⟩ := Option.bind_eq_some_iff.1 h; refine V_callv trivial rfl (k_table_Count_2 x66 _ ex67) (by kernel_rfl) (h := ?_); refine V_go 1 ?_
            dsimp only [e39, e39_L0, e39_L1, go_sem, Nat.reduceBEq, Nat.reduceAdd]; refine ⟨by simp, ?_⟩
            refine V_join (fun (x68 : Int) => (⟨(.any :: .any :: .iv x3 :: .ptr 0 0 :: .ptr 1 0 :: .any :: .any :: .ptr 2 0 :: an 3 (.clo 75 [] :: .iv x68 :: an 60 (.osl 0 :: .iv (ln Side.row ([x11, x16])) :: .iv x65 :: an 59 []))), [some ⟨43, [.sl 3 (List.map Diner.row x1.Diners), .sl 5 (List.map Mail.row x1.Mail)]⟩, some ⟨58, [.iv x2.A, .iv x2.B]⟩, some ⟨49, [.iv x11.Peer, .iv x11.Epoch, .iv x11.State, .bv x11.Fork, .bv x11.Dirty, .bv x11.Token, .bv x11.Bottle, .bv x11.Ask]⟩], [some ⟨49, 8, List.map Side.row ([x11, x16])⟩]⟩ : St)) (m_table_Count_j11 x65) y1 ?_ fun J11 => ?_
            ·intro x68 h; rw [m_table_Count_j11] at h; (try dsimp only); refine V_go 5 ?_; dsimp only [e39, e39_L0, e39_L1, go_sem, Nat.reduceBEq, Nat.reduceAdd]; refine ⟨by simp, ?_⟩; exact M_back h hin1
            ·refine M_ite h rfl (fun _ h => ?_) fun _ h => ?_
             ·refine V_go 5 ?_; dsimp only [e39, e39_L0, e39_L1, go_sem, Nat.reduceBEq, Nat.reduceAdd]; refine ⟨by simp, ?_⟩; exact M_to J11 (s := wr (x64 + 1)) h
             ·refine V_go 1 ?_; dsimp only [e39, e39_L0, e39_L1, go_sem, Nat.reduceBEq, Nat.reduceAdd]; refine ⟨by simp, ?_⟩; exact M_to J11 (s := x64) h
           ·refine V_go 1 ?_; dsimp only [e39, e39_L0, e39_L1, go_sem, Nat.reduceBEq, Nat.reduceAdd]; refine ⟨by simp, ?_⟩; exact M_to J10 (s := x64) (M_out h hout1)
         ·refine V_go 4 ?_; dsimp only [e39, e39_L0, e39_L1, go_sem, Nat.reduceBEq, Nat.reduceAdd]; refine ⟨by simp, ?_⟩; exact M_done (res := fun (r : Int) => .iv r) ok39 h
      ·refine M_case 55 h rfl (fun _ h => ?_) fun _ h => ?_
       ·dsimp only [go_sem, Nat.reduceBEq, Nat.reduceAdd]; refine V_go 11 ?_; dsimp only [e39, e39_L0, e39_L1, go_sem, Nat.reduceBEq, Nat.reduceAdd]; refine ⟨by simp, ?_⟩; exact M_to J4 (s := true) h
       ·dsimp only [go_sem, Nat.reduceBEq, Nat.reduceAdd]; refine V_go 4 ?_; dsimp only [e39, e39_L0, e39_L1, go_sem, Nat.reduceBEq, Nat.reduceAdd]; refine ⟨by simp, ?_⟩; refine M_case 59 h rfl (fun _ h => ?_) fun _ h => ?_
        ·dsimp only [go_sem, Nat.reduceBEq, Nat.reduceAdd]; refine V_go 7 ?_; dsimp only [e39, e39_L0, e39_L1, go_sem, Nat.reduceBEq, Nat.reduceAdd]; refine ⟨by simp, ?_⟩; exact M_to J4 (s := true) h
        ·dsimp only [go_sem, Nat.reduceBEq, Nat.reduceAdd]; refine V_go 7 ?_; dsimp only [e39, e39_L0, e39_L1, go_sem, Nat.reduceBEq, Nat.reduceAdd]; refine ⟨by simp, ?_⟩; exact M_to J4 (s := !decide (x11.Epoch = x16.Epoch)) h
     ·refine V_drw (by kernel_rfl) fun all hall hs hnap haf => ?_; dsimp only [go_sem, Nat.reduceBEq, Nat.reduceAdd]
      refine G_goE hall hs haf hnap 6 9 [true, true, true, true, false, false, true, true, false, false, false, false, false, false, false] (⟨(.any :: .any :: .iv x3 :: .ptr 0 0 :: .ptr 1 0 :: .any :: .any :: .ptr 2 0 :: .bv x10 :: an 33 (.ptr 0 0 :: .sl 3 (List.map Diner.row x1.Diners) :: .ptr 1 1 :: .iv x2.B :: .any :: .any :: .ptr 1 0 :: .iv x2.A :: an 85 [])), [some ⟨43, [.sl 3 (List.map Diner.row x1.Diners), .sl 5 (List.map Mail.row x1.Mail)]⟩, some ⟨58, [.iv x2.A, .iv x2.B]⟩, some ⟨49, [.iv x11.Peer, .iv x11.Epoch, .iv x11.State, .bv x11.Fork, .bv x11.Dirty, .bv x11.Token, .bv x11.Bottle, .bv x11.Ask]⟩], []⟩ : St) (by kernel_rfl) ?_
      obtain ⟨x12, ex12, h⟩ := Option.bind_eq_some_iff.1 h; refine G_idxM hall hs haf hnap 4 Diner.row ex12 rfl rfl trivial rfl rfl rfl rfl ?_; refine G_goN hall hs haf hnap 1 7 ?_; dsimp only [go_sem, Nat.reduceBEq, Nat.reduceAdd]; refine ⟨by simp, ?_⟩; obtain ⟨x13, ex13, h⟩ := Option.bind_eq_some_iff.1 h; refine G_two 8 12 rfl ?_ ?_
      ·refine GO_call hall rfl trivial (k_place_Side x12 x2.A _ ex13) (h := ?_); dsimp only [go_sem, Nat.reduceBEq, Nat.reduceAdd]; refine G_goN hall hs haf hnap 3 3 ?_; dsimp only [go_sem, Nat.reduceBEq, Nat.reduceAdd]; refine ⟨by simp, ?_⟩; refine G_one 12 rfl ?_; refine GO_ev hall rfl trivial ?_; dsimp only [go_sem, Nat.reduceBEq, Nat.reduceAdd]; refine G_one 13 rfl ?_; refine GO_ev hall rfl trivial ?_; dsimp only [go_sem, Nat.reduceBEq, Nat.reduceAdd]; refine G_goN hall hs haf hnap 1 0 ?_; dsimp only [go_sem, Nat.reduceBEq, Nat.reduceAdd]; refine ⟨by simp, ?_⟩; refine G_done rfl ?_ _
       exact M_to J3 (s := (x13.2, x13.1)) h
      ·refine GO_ev hall rfl trivial ?_; dsimp only [go_sem, Nat.reduceBEq, Nat.reduceAdd]; refine G_one 8 rfl ?_; refine GO_call hall rfl trivial (k_place_Side x12 x2.A _ ex13) (h := ?_); dsimp only [go_sem, Nat.reduceBEq, Nat.reduceAdd]; refine G_goN hall hs haf hnap 3 2 ?_; dsimp only [go_sem, Nat.reduceBEq, Nat.reduceAdd]; refine ⟨by simp, ?_⟩; refine G_one 13 rfl ?_; refine GO_ev hall rfl trivial ?_; dsimp only [go_sem, Nat.reduceBEq, Nat.reduceAdd]; refine G_goN hall hs haf hnap 1 0 ?_; dsimp only [go_sem, Nat.reduceBEq, Nat.reduceAdd]; refine ⟨by simp, ?_⟩; refine G_done rfl ?_ _
       exact M_to J3 (s := (x13.2, x13.1)) h
    ·refine V_drw (by kernel_rfl) fun all hall hs hnap haf => ?_; dsimp only [go_sem, Nat.reduceBEq, Nat.reduceAdd]
     refine G_goE hall hs haf hnap 6 9 [true, true, true, true, false, false, true, true, false, false, false, false, false, false, false] (⟨(.any :: .any :: .iv x3 :: .ptr 0 0 :: .ptr 1 0 :: an 23 (.bv x6 :: .any :: .ptr 0 0 :: .sl 3 (List.map Diner.row x1.Diners) :: .ptr 1 0 :: .iv x2.A :: .any :: .any :: .ptr 1 1 :: .iv x2.B :: an 97 [])), [some ⟨43, [.sl 3 (List.map Diner.row x1.Diners), .sl 5 (List.map Mail.row x1.Mail)]⟩, some ⟨58, [.iv x2.A, .iv x2.B]⟩], []⟩ : St) (by kernel_rfl) ?_; obtain ⟨x7, ex7, h⟩ := Option.bind_eq_some_iff.1 h
     refine G_idxM hall hs haf hnap 4 Diner.row ex7 rfl rfl trivial rfl rfl rfl rfl ?_; refine G_goN hall hs haf hnap 1 7 ?_; dsimp only [go_sem, Nat.reduceBEq, Nat.reduceAdd]; refine ⟨by simp, ?_⟩; obtain ⟨x8, ex8, h⟩ := Option.bind_eq_some_iff.1 h; refine G_two 8 12 rfl ?_ ?_
     ·refine GO_call hall rfl trivial (k_place_Side x7 x2.B _ ex8) (h := ?_); dsimp only [go_sem, Nat.reduceBEq, Nat.reduceAdd]; refine G_goN hall hs haf hnap 3 3 ?_; dsimp only [go_sem, Nat.reduceBEq, Nat.reduceAdd]; refine ⟨by simp, ?_⟩; refine G_one 12 rfl ?_; refine GO_ev hall rfl trivial ?_; dsimp only [go_sem, Nat.reduceBEq, Nat.reduceAdd]; refine G_one 13 rfl ?_; refine GO_ev hall rfl trivial ?_; dsimp only [go_sem, Nat.reduceBEq, Nat.reduceAdd]; refine G_goN hall hs haf hnap 1 0 ?_; dsimp only [go_sem, Nat.reduceBEq, Nat.reduceAdd]; refine ⟨by simp, ?_⟩; refine G_done rfl ?_ _
      exact M_to J2 (s := (x8.2, x8.1)) h
     ·refine GO_ev hall rfl trivial ?_; dsimp only [go_sem, Nat.reduceBEq, Nat.reduceAdd]; refine G_one 8 rfl ?_; refine GO_call hall rfl trivial (k_place_Side x7 x2.B _ ex8) (h := ?_); dsimp only [go_sem, Nat.reduceBEq, Nat.reduceAdd]; refine G_goN hall hs haf hnap 3 2 ?_; dsimp only [go_sem, Nat.reduceBEq, Nat.reduceAdd]; refine ⟨by simp, ?_⟩; refine G_one 13 rfl ?_; refine GO_ev hall rfl trivial ?_; dsimp only [go_sem, Nat.reduceBEq, Nat.reduceAdd]; refine G_goN hall hs haf hnap 1 0 ?_; dsimp only [go_sem, Nat.reduceBEq, Nat.reduceAdd]; refine ⟨by simp, ?_⟩; refine G_done rfl ?_ _
      exact M_to J2 (s := (x8.2, x8.1)) h
  ·refine M_case 22 h rfl (fun _ h => ?_) fun _ h => ?_
   ·dsimp only [go_sem, Nat.reduceBEq, Nat.reduceAdd]; refine V_go 7 ?_; dsimp only [e39, e39_L0, e39_L1, go_sem, Nat.reduceBEq, Nat.reduceAdd]; refine ⟨by simp, ?_⟩; exact M_to J1 (s := true) h
   ·dsimp only [go_sem, Nat.reduceBEq, Nat.reduceAdd]; refine V_go 3 ?_; dsimp only [e39, e39_L0, e39_L1, go_sem, Nat.reduceBEq, Nat.reduceAdd]; refine ⟨by simp, ?_⟩; obtain ⟨x5, ex5, h⟩ := Option.bind_eq_some_iff.1 h; refine V_call trivial (k_table_there x1 x2.B _ ex5) (h := ?_); refine V_go 3 ?_; dsimp only [e39, e39_L0, e39_L1, go_sem, Nat.reduceBEq, Nat.reduceAdd]; refine ⟨by simp, ?_⟩; exact M_to J1 (s := !x5) h
def f_table_Count_j7 (_F : Nat)  : Int → Option Int
| x58 =>
 some x58
theorem le_table_Count_j7 {F : Nat} : ∀ s, ole (f_table_Count_j7 F s) (m_table_Count_j7 s) := by
  intro x58
  unfold f_table_Count_j7 m_table_Count_j7
  try dsimp only
  with_reducible repeat' first | exact ole_refl _ | assumption | intro _ | refine ole_ifb ?_ ?_ | refine ole_bind ?_ ?_ | refine ole_map ?_ | refine ole_loop ?_
def f_table_Count_j9 (_F : Nat) (x45 : Int) : Int → Option ((Int × Int) ⊕ Int)
| x48 =>
 some (.inl (x48, wr (x45 + 1)))
theorem le_table_Count_j9 {F : Nat} {x45 : Int} : ∀ s, ole (f_table_Count_j9 F x45 s) (m_table_Count_j9 x45 s) := by
  intro x48
  unfold f_table_Count_j9 m_table_Count_j9
  try dsimp only
  with_reducible repeat' first | exact ole_refl _ | assumption | intro _ | refine ole_ifb ?_ ?_ | refine ole_bind ?_ ?_ | refine ole_map ?_ | refine ole_loop ?_ | apply le_table_Count_j7
def f_table_Count_j8 (F : Nat) (x44 : Int) (x45 : Int) : Bool → Option ((Int × Int) ⊕ Int)
| x47 =>
 ifb x47 (
 (f_table_Count_j9 F x45) (wr (x44 + 1))) (
 (f_table_Count_j9 F x45) x44)
theorem le_table_Count_j8 {F : Nat} {x44 : Int} {x45 : Int} : ∀ s, ole (f_table_Count_j8 F x44 x45 s) (m_table_Count_j8 x44 x45 s) := by
  intro x47
  unfold f_table_Count_j8 m_table_Count_j8
  try dsimp only
  with_reducible repeat' first | exact ole_refl _ | assumption | intro _ | refine ole_ifb ?_ ?_ | refine ole_bind ?_ ?_ | refine ole_map ?_ | refine ole_loop ?_ | apply le_table_Count_j7 | apply le_table_Count_j9
def f_table_Count_l2 (F : Nat) (x1 : Scene) (x2 : Edge) (x3 : Int) (x11 : Side) : (Int × Int) → Option ((Int × Int) ⊕ Int)
| (x44, x45) =>
 ifb (decide (x45 < (ln Mail.row x1.Mail))) (
 (at_ x1.Mail x45).bind fun x46 =>
 ifb (decide (x46.Msg.Kind = x3)) (
 ifb (decide (x46.Msg.Epoch = x11.Epoch)) (
 ifb (decide (((min x46.From x46.To)) = ((min x2.A x2.B)))) (
 (f_table_Count_j8 F x44 x45) (decide (((max x46.From x46.To)) = ((max x2.A x2.B))))) (
 (f_table_Count_j8 F x44 x45) false)) (
 (f_table_Count_j8 F x44 x45) false)) (
 (f_table_Count_j8 F x44 x45) false)) (
 Option.map Sum.inr (f_table_Count_j7 F x44))
theorem le_table_Count_l2 {F : Nat} {x1 : Scene} {x2 : Edge} {x3 : Int} {x11 : Side} : ∀ s, ole (f_table_Count_l2 F x1 x2 x3 x11 s) (m_table_Count_l2 x1 x2 x3 x11 s) := by
  rintro ⟨x44, x45⟩
  unfold f_table_Count_l2 m_table_Count_l2
  try dsimp only
  with_reducible repeat' first | exact ole_refl _ | assumption | intro _ | refine ole_ifb ?_ ?_ | refine ole_bind ?_ ?_ | refine ole_map ?_ | refine ole_loop ?_ | apply le_table_Count_j7 | apply le_table_Count_j9 | apply le_table_Count_j8
def f_table_Count_j5 (F : Nat) (x1 : Scene) (x2 : Edge) (x3 : Int) (x11 : Side) : Int → Option Int
| x38 =>
 loopF F (f_table_Count_l2 F x1 x2 x3 x11) (x38, 0)
theorem le_table_Count_j5 {F : Nat} {x1 : Scene} {x2 : Edge} {x3 : Int} {x11 : Side} : ∀ s, ole (f_table_Count_j5 F x1 x2 x3 x11 s) (m_table_Count_j5 x1 x2 x3 x11 s) := by
  intro x38
  unfold f_table_Count_j5 m_table_Count_j5
  try dsimp only
  with_reducible repeat' first | exact ole_refl _ | assumption | intro _ | refine ole_ifb ?_ ?_ | refine ole_bind ?_ ?_ | refine ole_map ?_ | refine ole_loop ?_ | apply le_table_Count_j7 | apply le_table_Count_j9 | apply le_table_Count_j8 | apply le_table_Count_l2
def f_table_Count_j6 (_F : Nat) (x24 : Int) : Int → Option ((Int × Int) ⊕ Int)
| x27 =>
 some (.inl (x27, wr (x24 + 1)))
theorem le_table_Count_j6 {F : Nat} {x24 : Int} : ∀ s, ole (f_table_Count_j6 F x24 s) (m_table_Count_j6 x24 s) := by
  intro x27
  unfold f_table_Count_j6 m_table_Count_j6
  try dsimp only
  with_reducible repeat' first | exact ole_refl _ | assumption | intro _ | refine ole_ifb ?_ ?_ | refine ole_bind ?_ ?_ | refine ole_map ?_ | refine ole_loop ?_ | apply le_table_Count_j7 | apply le_table_Count_j9 | apply le_table_Count_j8 | apply le_table_Count_l2 | apply le_table_Count_j5
def f_table_Count_l1 (F : Nat) (x1 : Scene) (x2 : Edge) (x3 : Int) (x11 : Side) (x16 : Side) : (Int × Int) → Option ((Int × Int) ⊕ Int)
| (x23, x24) =>
 ifb (decide (x24 < (ln Side.row ([x11, x16])))) (
 (at_ ([x11, x16]) x24).bind fun x25 =>
 (f_table_Count_1 F x25).bind fun x26 =>
 ifb x26 (
 (f_table_Count_j6 F x24) (wr (x23 + 1))) (
 (f_table_Count_j6 F x24) x23)) (
 Option.map Sum.inr ((f_table_Count_j5 F x1 x2 x3 x11) x23))
theorem le_table_Count_l1 {F : Nat} {x1 : Scene} {x2 : Edge} {x3 : Int} {x11 : Side} {x16 : Side} : ∀ s, ole (f_table_Count_l1 F x1 x2 x3 x11 x16 s) (m_table_Count_l1 x1 x2 x3 x11 x16 s) := by
  rintro ⟨x23, x24⟩
  unfold f_table_Count_l1 m_table_Count_l1
  try dsimp only
  with_reducible repeat' first | exact ole_refl _ | assumption | intro _ | refine ole_ifb ?_ ?_ | refine ole_bind ?_ ?_ | refine ole_map ?_ | refine ole_loop ?_ | apply le_table_Count_j7 | apply le_table_Count_j9 | apply le_table_Count_j8 | apply le_table_Count_l2 | apply le_table_Count_j5 | apply le_table_Count_j6 | apply le_table_Count_1
def f_table_Count_j12 (_F : Nat)  : Int → Option Int
| x99 =>
 some x99
theorem le_table_Count_j12 {F : Nat} : ∀ s, ole (f_table_Count_j12 F s) (m_table_Count_j12 s) := by
  intro x99
  unfold f_table_Count_j12 m_table_Count_j12
  try dsimp only
  with_reducible repeat' first | exact ole_refl _ | assumption | intro _ | refine ole_ifb ?_ ?_ | refine ole_bind ?_ ?_ | refine ole_map ?_ | refine ole_loop ?_ | apply le_table_Count_j7 | apply le_table_Count_j9 | apply le_table_Count_j8 | apply le_table_Count_l2 | apply le_table_Count_j5 | apply le_table_Count_j6 | apply le_table_Count_1 | apply le_table_Count_l1
def f_table_Count_j14 (_F : Nat) (x86 : Int) : Int → Option ((Int × Int) ⊕ Int)
| x89 =>
 some (.inl (x89, wr (x86 + 1)))
theorem le_table_Count_j14 {F : Nat} {x86 : Int} : ∀ s, ole (f_table_Count_j14 F x86 s) (m_table_Count_j14 x86 s) := by
  intro x89
  unfold f_table_Count_j14 m_table_Count_j14
  try dsimp only
  with_reducible repeat' first | exact ole_refl _ | assumption | intro _ | refine ole_ifb ?_ ?_ | refine ole_bind ?_ ?_ | refine ole_map ?_ | refine ole_loop ?_ | apply le_table_Count_j7 | apply le_table_Count_j9 | apply le_table_Count_j8 | apply le_table_Count_l2 | apply le_table_Count_j5 | apply le_table_Count_j6 | apply le_table_Count_1 | apply le_table_Count_l1 | apply le_table_Count_j12
def f_table_Count_j13 (F : Nat) (x85 : Int) (x86 : Int) : Bool → Option ((Int × Int) ⊕ Int)
| x88 =>
 ifb x88 (
 (f_table_Count_j14 F x86) (wr (x85 + 1))) (
 (f_table_Count_j14 F x86) x85)
theorem le_table_Count_j13 {F : Nat} {x85 : Int} {x86 : Int} : ∀ s, ole (f_table_Count_j13 F x85 x86 s) (m_table_Count_j13 x85 x86 s) := by
  intro x88
  unfold f_table_Count_j13 m_table_Count_j13
  try dsimp only
  with_reducible repeat' first | exact ole_refl _ | assumption | intro _ | refine ole_ifb ?_ ?_ | refine ole_bind ?_ ?_ | refine ole_map ?_ | refine ole_loop ?_ | apply le_table_Count_j7 | apply le_table_Count_j9 | apply le_table_Count_j8 | apply le_table_Count_l2 | apply le_table_Count_j5 | apply le_table_Count_j6 | apply le_table_Count_1 | apply le_table_Count_l1 | apply le_table_Count_j12 | apply le_table_Count_j14
def f_table_Count_l4 (F : Nat) (x1 : Scene) (x2 : Edge) (x3 : Int) (x11 : Side) : (Int × Int) → Option ((Int × Int) ⊕ Int)
| (x85, x86) =>
 ifb (decide (x86 < (ln Mail.row x1.Mail))) (
 (at_ x1.Mail x86).bind fun x87 =>
 ifb (decide (x87.Msg.Kind = x3)) (
 ifb (decide (x87.Msg.Epoch = x11.Epoch)) (
 ifb (decide (((min x87.From x87.To)) = ((min x2.A x2.B)))) (
 (f_table_Count_j13 F x85 x86) (decide (((max x87.From x87.To)) = ((max x2.A x2.B))))) (
 (f_table_Count_j13 F x85 x86) false)) (
 (f_table_Count_j13 F x85 x86) false)) (
 (f_table_Count_j13 F x85 x86) false)) (
 Option.map Sum.inr (f_table_Count_j12 F x85))
theorem le_table_Count_l4 {F : Nat} {x1 : Scene} {x2 : Edge} {x3 : Int} {x11 : Side} : ∀ s, ole (f_table_Count_l4 F x1 x2 x3 x11 s) (m_table_Count_l4 x1 x2 x3 x11 s) := by
  rintro ⟨x85, x86⟩
  unfold f_table_Count_l4 m_table_Count_l4
  try dsimp only
  with_reducible repeat' first | exact ole_refl _ | assumption | intro _ | refine ole_ifb ?_ ?_ | refine ole_bind ?_ ?_ | refine ole_map ?_ | refine ole_loop ?_ | apply le_table_Count_j7 | apply le_table_Count_j9 | apply le_table_Count_j8 | apply le_table_Count_l2 | apply le_table_Count_j5 | apply le_table_Count_j6 | apply le_table_Count_1 | apply le_table_Count_l1 | apply le_table_Count_j12 | apply le_table_Count_j14 | apply le_table_Count_j13
def f_table_Count_j10 (F : Nat) (x1 : Scene) (x2 : Edge) (x3 : Int) (x11 : Side) : Int → Option Int
| x79 =>
 loopF F (f_table_Count_l4 F x1 x2 x3 x11) (x79, 0)
theorem le_table_Count_j10 {F : Nat} {x1 : Scene} {x2 : Edge} {x3 : Int} {x11 : Side} : ∀ s, ole (f_table_Count_j10 F x1 x2 x3 x11 s) (m_table_Count_j10 x1 x2 x3 x11 s) := by
  intro x79
  unfold f_table_Count_j10 m_table_Count_j10
  try dsimp only
  with_reducible repeat' first | exact ole_refl _ | assumption | intro _ | refine ole_ifb ?_ ?_ | refine ole_bind ?_ ?_ | refine ole_map ?_ | refine ole_loop ?_ | apply le_table_Count_j7 | apply le_table_Count_j9 | apply le_table_Count_j8 | apply le_table_Count_l2 | apply le_table_Count_j5 | apply le_table_Count_j6 | apply le_table_Count_1 | apply le_table_Count_l1 | apply le_table_Count_j12 | apply le_table_Count_j14 | apply le_table_Count_j13 | apply le_table_Count_l4
def f_table_Count_j11 (_F : Nat) (x65 : Int) : Int → Option ((Int × Int) ⊕ Int)
| x68 =>
 some (.inl (x68, wr (x65 + 1)))
theorem le_table_Count_j11 {F : Nat} {x65 : Int} : ∀ s, ole (f_table_Count_j11 F x65 s) (m_table_Count_j11 x65 s) := by
  intro x68
  unfold f_table_Count_j11 m_table_Count_j11
  try dsimp only
  with_reducible repeat' first | exact ole_refl _ | assumption | intro _ | refine ole_ifb ?_ ?_ | refine ole_bind ?_ ?_ | refine ole_map ?_ | refine ole_loop ?_ | apply le_table_Count_j7 | apply le_table_Count_j9 | apply le_table_Count_j8 | apply le_table_Count_l2 | apply le_table_Count_j5 | apply le_table_Count_j6 | apply le_table_Count_1 | apply le_table_Count_l1 | apply le_table_Count_j12 | apply le_table_Count_j14 | apply le_table_Count_j13 | apply le_table_Count_l4 | apply le_table_Count_j10
def f_table_Count_l3 (F : Nat) (x1 : Scene) (x2 : Edge) (x3 : Int) (x11 : Side) (x16 : Side) : (Int × Int) → Option ((Int × Int) ⊕ Int)
| (x64, x65) =>
 ifb (decide (x65 < (ln Side.row ([x11, x16])))) (
 (at_ ([x11, x16]) x65).bind fun x66 =>
 (f_table_Count_2 F x66).bind fun x67 =>
 ifb x67 (
 (f_table_Count_j11 F x65) (wr (x64 + 1))) (
 (f_table_Count_j11 F x65) x64)) (
 Option.map Sum.inr ((f_table_Count_j10 F x1 x2 x3 x11) x64))
theorem le_table_Count_l3 {F : Nat} {x1 : Scene} {x2 : Edge} {x3 : Int} {x11 : Side} {x16 : Side} : ∀ s, ole (f_table_Count_l3 F x1 x2 x3 x11 x16 s) (m_table_Count_l3 x1 x2 x3 x11 x16 s) := by
  rintro ⟨x64, x65⟩
  unfold f_table_Count_l3 m_table_Count_l3
  try dsimp only
  with_reducible repeat' first | exact ole_refl _ | assumption | intro _ | refine ole_ifb ?_ ?_ | refine ole_bind ?_ ?_ | refine ole_map ?_ | refine ole_loop ?_ | apply le_table_Count_j7 | apply le_table_Count_j9 | apply le_table_Count_j8 | apply le_table_Count_l2 | apply le_table_Count_j5 | apply le_table_Count_j6 | apply le_table_Count_1 | apply le_table_Count_l1 | apply le_table_Count_j12 | apply le_table_Count_j14 | apply le_table_Count_j13 | apply le_table_Count_l4 | apply le_table_Count_j10 | apply le_table_Count_j11 | apply le_table_Count_2
def f_table_Count_j4 (F : Nat) (x1 : Scene) (x2 : Edge) (x3 : Int) (x11 : Side) (x16 : Side) : Bool → Option Int
| x17 =>
 ifb x17 (
 some 0) (
 ifb (decide (x3 = 1)) (
 loopF F (f_table_Count_l1 F x1 x2 x3 x11 x16) (0, 0)) (
 ifb (decide (x3 = 2)) (
 loopF F (f_table_Count_l3 F x1 x2 x3 x11 x16) (0, 0)) (
 some 0)))
theorem le_table_Count_j4 {F : Nat} {x1 : Scene} {x2 : Edge} {x3 : Int} {x11 : Side} {x16 : Side} : ∀ s, ole (f_table_Count_j4 F x1 x2 x3 x11 x16 s) (m_table_Count_j4 x1 x2 x3 x11 x16 s) := by
  intro x17
  unfold f_table_Count_j4 m_table_Count_j4
  try dsimp only
  with_reducible repeat' first | exact ole_refl _ | assumption | intro _ | refine ole_ifb ?_ ?_ | refine ole_bind ?_ ?_ | refine ole_map ?_ | refine ole_loop ?_ | apply le_table_Count_j7 | apply le_table_Count_j9 | apply le_table_Count_j8 | apply le_table_Count_l2 | apply le_table_Count_j5 | apply le_table_Count_j6 | apply le_table_Count_1 | apply le_table_Count_l1 | apply le_table_Count_j12 | apply le_table_Count_j14 | apply le_table_Count_j13 | apply le_table_Count_l4 | apply le_table_Count_j10 | apply le_table_Count_j11 | apply le_table_Count_2 | apply le_table_Count_l3
def f_table_Count_j3 (F : Nat) (x1 : Scene) (x2 : Edge) (x3 : Int) (x10 : Bool) (x11 : Side) : (Bool × Side) → Option Int
| (x15, x16) =>
 ifb (!x10) (
 (f_table_Count_j4 F x1 x2 x3 x11 x16) true) (
 ifb (!x15) (
 (f_table_Count_j4 F x1 x2 x3 x11 x16) true) (
 (f_table_Count_j4 F x1 x2 x3 x11 x16) (!decide (x11.Epoch = x16.Epoch))))
theorem le_table_Count_j3 {F : Nat} {x1 : Scene} {x2 : Edge} {x3 : Int} {x10 : Bool} {x11 : Side} : ∀ s, ole (f_table_Count_j3 F x1 x2 x3 x10 x11 s) (m_table_Count_j3 x1 x2 x3 x10 x11 s) := by
  rintro ⟨x15, x16⟩
  unfold f_table_Count_j3 m_table_Count_j3
  try dsimp only
  with_reducible repeat' first | exact ole_refl _ | assumption | intro _ | refine ole_ifb ?_ ?_ | refine ole_bind ?_ ?_ | refine ole_map ?_ | refine ole_loop ?_ | apply le_table_Count_j7 | apply le_table_Count_j9 | apply le_table_Count_j8 | apply le_table_Count_l2 | apply le_table_Count_j5 | apply le_table_Count_j6 | apply le_table_Count_1 | apply le_table_Count_l1 | apply le_table_Count_j12 | apply le_table_Count_j14 | apply le_table_Count_j13 | apply le_table_Count_l4 | apply le_table_Count_j10 | apply le_table_Count_j11 | apply le_table_Count_2 | apply le_table_Count_l3 | apply le_table_Count_j4
def f_table_Count_j2 (F : Nat) (x1 : Scene) (x2 : Edge) (x3 : Int) : (Bool × Side) → Option Int
| (x10, x11) =>
 (at_ x1.Diners x2.B).bind fun x12 =>
 (f_place_Side F x12 x2.A).bind fun x13 =>
 (f_table_Count_j3 F x1 x2 x3 x10 x11) (x13.2, x13.1)
theorem le_table_Count_j2 {F : Nat} {x1 : Scene} {x2 : Edge} {x3 : Int} : ∀ s, ole (f_table_Count_j2 F x1 x2 x3 s) (m_table_Count_j2 x1 x2 x3 s) := by
  rintro ⟨x10, x11⟩
  unfold f_table_Count_j2 m_table_Count_j2
  try dsimp only
  with_reducible repeat' first | exact ole_refl _ | assumption | intro _ | refine ole_ifb ?_ ?_ | refine ole_bind ?_ ?_ | refine ole_map ?_ | refine ole_loop ?_ | apply le_table_Count_j7 | apply le_table_Count_j9 | apply le_table_Count_j8 | apply le_table_Count_l2 | apply le_table_Count_j5 | apply le_table_Count_j6 | apply le_table_Count_1 | apply le_table_Count_l1 | apply le_table_Count_j12 | apply le_table_Count_j14 | apply le_table_Count_j13 | apply le_table_Count_l4 | apply le_table_Count_j10 | apply le_table_Count_j11 | apply le_table_Count_2 | apply le_table_Count_l3 | apply le_table_Count_j4 | apply le_table_Count_j3 | apply le_place_Side
def f_table_Count_j1 (F : Nat) (x1 : Scene) (x2 : Edge) (x3 : Int) : Bool → Option Int
| x6 =>
 ifb x6 (
 some 0) (
 (at_ x1.Diners x2.A).bind fun x7 =>
 (f_place_Side F x7 x2.B).bind fun x8 =>
 (f_table_Count_j2 F x1 x2 x3) (x8.2, x8.1))
theorem le_table_Count_j1 {F : Nat} {x1 : Scene} {x2 : Edge} {x3 : Int} : ∀ s, ole (f_table_Count_j1 F x1 x2 x3 s) (m_table_Count_j1 x1 x2 x3 s) := by
  intro x6
  unfold f_table_Count_j1 m_table_Count_j1
  try dsimp only
  with_reducible repeat' first | exact ole_refl _ | assumption | intro _ | refine ole_ifb ?_ ?_ | refine ole_bind ?_ ?_ | refine ole_map ?_ | refine ole_loop ?_ | apply le_table_Count_j7 | apply le_table_Count_j9 | apply le_table_Count_j8 | apply le_table_Count_l2 | apply le_table_Count_j5 | apply le_table_Count_j6 | apply le_table_Count_1 | apply le_table_Count_l1 | apply le_table_Count_j12 | apply le_table_Count_j14 | apply le_table_Count_j13 | apply le_table_Count_l4 | apply le_table_Count_j10 | apply le_table_Count_j11 | apply le_table_Count_2 | apply le_table_Count_l3 | apply le_table_Count_j4 | apply le_table_Count_j3 | apply le_place_Side | apply le_table_Count_j2
def f_table_Count (F : Nat) (x1 : Scene) (x2 : Edge) (x3 : Int) : Option Int :=
 (f_table_there F x1 x2.A).bind fun x4 =>
 ifb (!x4) (
 (f_table_Count_j1 F x1 x2 x3) true) (
 (f_table_there F x1 x2.B).bind fun x5 =>
 (f_table_Count_j1 F x1 x2 x3) (!x5))
theorem le_table_Count {F : Nat} {x1 : Scene} {x2 : Edge} {x3 : Int} : ole (f_table_Count F x1 x2 x3) (m_table_Count x1 x2 x3) := by
  unfold f_table_Count m_table_Count
  with_reducible repeat' first | exact ole_refl _ | assumption | intro _ | refine ole_ifb ?_ ?_ | refine ole_bind ?_ ?_ | refine ole_map ?_ | refine ole_loop ?_ | apply le_table_Count_j7 | apply le_table_Count_j9 | apply le_table_Count_j8 | apply le_table_Count_l2 | apply le_table_Count_j5 | apply le_table_Count_j6 | apply le_table_Count_1 | apply le_table_Count_l1 | apply le_table_Count_j12 | apply le_table_Count_j14 | apply le_table_Count_j13 | apply le_table_Count_l4 | apply le_table_Count_j10 | apply le_table_Count_j11 | apply le_table_Count_2 | apply le_table_Count_l3 | apply le_table_Count_j4 | apply le_table_Count_j3 | apply le_place_Side | apply le_table_Count_j2 | apply le_table_Count_j1 | apply le_table_there
end NX
end Go.Proofs.Ytadebhbiglmodaa
/-
  The function narthex/table.Phases: its code compiled, a model, and that the code answers as the model. Written by a program of ours (lb.py). No statement of the seat is proved here.
-/
namespace Go.Proofs.Ytadebhbiglmodaa
namespace NX
open Go
set_option maxRecDepth 100000
set_option maxHeartbeats 4000000
def e41_L0 : EC := .seq (.reg [⟨(some 12), none, .bin .lss (.t 11) (.t 10)⟩]) (.seq (.ite (.t 12) (.skip) (.exit 0)) (.seq (.blk 1 (.seq (.reg [⟨(some 13), none, .idx 3 (.t 9) (.t 11)⟩, ⟨(some 14), none, .loadA 3 (.t 13)⟩, ⟨(some 7), none, .alloc 39 [.iv 0, .iv 0, .nl]⟩, ⟨none, none, .store 3 (.t 7) (.t 14)⟩]) (.seq (.reg [⟨(some 15), none, .fld 1 (.t 7)⟩, ⟨(some 16), none, .load (.t 15)⟩, ⟨(some 17), none, .mv (.t 1)⟩, ⟨(some 18), none, .bin .eql (.t 16) (.t 17)⟩]) (.ite (.t 18) (.reg [⟨(some 19), none, .mv (.t 5)⟩, ⟨(some 20), none, .fld 0 (.t 7)⟩, ⟨(some 21), none, .load (.t 20)⟩, ⟨(some 22), none, .bsl 3 1 1 [.iv 0] [(0, (.t 21))]⟩, ⟨(some 23), none, .app 3 1 8 (.t 19) (.t 22)⟩, ⟨(some 5), none, .mv (.t 23)⟩]) (.skip))))) (.reg [⟨(some 24), none, .bin .add (.t 11) (.c (.iv 1))⟩, ⟨(some 11), none, .mv (.t 24)⟩])))
def e41 : EC := .seq (.reg [⟨(some 2), none, .box 43 2 (.t 0)⟩, ⟨(some 4), none, .mv (.c .nl)⟩]) (.seq (.reg [⟨(some 5), none, .mv (.c .nl)⟩]) (.seq (.seq (.reg [⟨(some 8), none, .fld 0 (.t 2)⟩, ⟨(some 9), none, .load (.t 8)⟩, ⟨(some 10), none, .len (.t 9)⟩, ⟨(some 11), none, .mv (.c (.iv 0))⟩]) (.blk 0 (.loop e41_L0))) (.seq (.reg [⟨(some 25), none, .mv (.t 5)⟩, ⟨(some 4), none, .mv (.t 25)⟩]) (.ret))))
theorem ok41 : FnOK Try.prog 41 Try.f41 e41 [.t 4] 2 24 := ⟨by kernel_rfl, ⟨_, rfl, by kernel_rfl⟩, by kernel_rfl, by kernel_rfl⟩
/- narthex/table.Phases -/
noncomputable def m_table_Phases_j1  : (List Int) → Option (List Int)
| x20 =>
 some x20
noncomputable def m_table_Phases_j2 (x8 : Int) : (List Int) → Option ((Int × (List Int)) ⊕ (List Int))
| x12 =>
 some (.inl (wr (x8 + 1), x12))
noncomputable def m_table_Phases_l1 (x1 : Scene) (x2 : Int) : (Int × (List Int)) → Option ((Int × (List Int)) ⊕ (List Int))
| (x8, x9) =>
 ifb (decide (x8 < (ln Diner.row x1.Diners))) (
 (at_ x1.Diners x8).bind fun x10 =>
 ifb (decide (x10.Phase = x2)) (
 (app_ 8 x9 ([x10.ID])).bind fun x11 =>
 (m_table_Phases_j2 x8) x11) (
 (m_table_Phases_j2 x8) x9)) (
 Option.map Sum.inr (m_table_Phases_j1 x9))
noncomputable def m_table_Phases (x1 : Scene) (x2 : Int) : Option (List Int) :=
 loop (m_table_Phases_l1 x1 x2) (0, ([] : List Int))
theorem o_table_Phases (x1 : Scene) (x2 : Int) (r : (List Int)) (h : m_table_Phases x1 x2 = some r) : FunO Try.prog 41 [.agg (Scene.row x1), .iv x2] 3 1 (List.map intRow r) := by
  refine FunO_intro ok41 rfl fun w0 H0 => ?_
  rw [m_table_Phases] at h
  refine V_go 17 ?_; dsimp only [e41, e41_L0, go_sem, Nat.reduceBEq, Nat.reduceAdd]; refine ⟨by simp, ?_⟩; refine V_join (fun (x20 : (List Int)) => (⟨(an 5 (.osl 0 :: an 20 [])), [], [some ⟨3, 1, List.map intRow x20⟩]⟩ : St)) m_table_Phases_j1 r ?_ fun J1 => ?_
  ·intro x20 h; rw [m_table_Phases_j1] at h; (try dsimp only); refine V_go 5 ?_; dsimp only [e41, e41_L0, go_sem, Nat.reduceBEq, Nat.reduceAdd]; refine ⟨by simp, ?_⟩; exact O_doneM intRow ok41 h rfl rfl
  ·refine V_go 1 ?_; dsimp only [e41, e41_L0, go_sem, Nat.reduceBEq, Nat.reduceAdd]; refine ⟨by simp, ?_⟩; refine V_own 5 3 1 rfl rfl ?_; dsimp only [go_sem, Nat.reduceBEq, Nat.reduceAdd]; refine M_loop h (fun ((x8, x9) : (Int × (List Int))) => (⟨(.any :: .iv x2 :: an 3 (.osl 0 :: an 3 (.sl 3 (List.map Diner.row x1.Diners) :: .iv (ln Diner.row x1.Diners) :: .iv x8 :: an 14 []))), [], [some ⟨3, 1, List.map intRow x9⟩]⟩ : St)) (by simp [go_sem]) (by rintro ⟨x8, x9⟩; first | rfl | simp [go_sem]) ?_; rintro n1 ⟨x8, x9⟩ y1 h hin1 hout1; rw [m_table_Phases_l1] at h; (try dsimp only); refine V_go 5 ?_
   dsimp only [e41, e41_L0, go_sem, Nat.reduceBEq, Nat.reduceAdd]; refine ⟨by simp, ?_⟩; refine M_ite h rfl (fun _ h => ?_) fun _ h => ?_
   ·refine V_go 5 ?_; dsimp only [e41, e41_L0, go_sem, Nat.reduceBEq, Nat.reduceAdd]; refine ⟨by simp, ?_⟩; obtain ⟨x10, ex10, h⟩ := Option.bind_eq_some_iff.1 h; refine V_idxM Diner.row ex10 trivial rfl rfl rfl ?_; refine V_go 11 ?_; dsimp only [e41, e41_L0, go_sem, Nat.reduceBEq, Nat.reduceAdd]; refine ⟨by simp, ?_⟩; refine V_join (fun (x12 : (List Int)) => (⟨(.any :: .iv x2 :: an 3 (.osl 0 :: an 3 (.sl 3 (List.map Diner.row x1.Diners) :: .iv (ln Diner.row x1.Diners) :: .iv x8 :: an 14 []))), [], [some ⟨3, 1, List.map intRow x12⟩]⟩ : St)) (m_table_Phases_j2 x8) y1 ?_ fun J2 => ?_
    ·intro x12 h; rw [m_table_Phases_j2] at h; (try dsimp only); refine V_go 5 ?_; dsimp only [e41, e41_L0, go_sem, Nat.reduceBEq, Nat.reduceAdd]; refine ⟨by simp, ?_⟩; exact M_back h hin1
    ·refine M_ite h rfl (fun _ h => ?_) fun _ h => ?_
     ·refine V_go 5 ?_; dsimp only [e41, e41_L0, go_sem, Nat.reduceBEq, Nat.reduceAdd]; refine ⟨by simp, ?_⟩; obtain ⟨x11, ex11, h⟩ := Option.bind_eq_some_iff.1 h; refine V_appM intRow ex11 trivial rfl rfl rfl ?_; refine V_go 2 ?_; dsimp only [e41, e41_L0, go_sem, Nat.reduceBEq, Nat.reduceAdd]; refine ⟨by simp, ?_⟩; refine V_ren 2 0 rfl rfl rfl ?_; dsimp only [go_sem, Nat.reduceBEq, Nat.reduceAdd]; exact M_to J2 (s := x11) h
     ·refine V_go 1 ?_; dsimp only [e41, e41_L0, go_sem, Nat.reduceBEq, Nat.reduceAdd]; refine ⟨by simp, ?_⟩; exact M_to J2 (s := x9) h
   ·refine V_go 1 ?_; dsimp only [e41, e41_L0, go_sem, Nat.reduceBEq, Nat.reduceAdd]; refine ⟨by simp, ?_⟩; exact M_to J1 (s := x9) (M_out h hout1)
theorem k_table_Phases (x1 : Scene) (x2 : Int) (r : (List Int)) (h : m_table_Phases x1 x2 = some r) : FunP Try.prog 41 [.agg (Scene.row x1), .iv x2] (.sl 1 (List.map intRow r)) := (o_table_Phases x1 x2 r h).sealed
def f_table_Phases_j1 (_F : Nat)  : (List Int) → Option (List Int)
| x20 =>
 some x20
theorem le_table_Phases_j1 {F : Nat} : ∀ s, ole (f_table_Phases_j1 F s) (m_table_Phases_j1 s) := by
  intro x20
  unfold f_table_Phases_j1 m_table_Phases_j1
  try dsimp only
  with_reducible repeat' first | exact ole_refl _ | assumption | intro _ | refine ole_ifb ?_ ?_ | refine ole_bind ?_ ?_ | refine ole_map ?_ | refine ole_loop ?_
def f_table_Phases_j2 (_F : Nat) (x8 : Int) : (List Int) → Option ((Int × (List Int)) ⊕ (List Int))
| x12 =>
 some (.inl (wr (x8 + 1), x12))
theorem le_table_Phases_j2 {F : Nat} {x8 : Int} : ∀ s, ole (f_table_Phases_j2 F x8 s) (m_table_Phases_j2 x8 s) := by
  intro x12
  unfold f_table_Phases_j2 m_table_Phases_j2
  try dsimp only
  with_reducible repeat' first | exact ole_refl _ | assumption | intro _ | refine ole_ifb ?_ ?_ | refine ole_bind ?_ ?_ | refine ole_map ?_ | refine ole_loop ?_ | apply le_table_Phases_j1
def f_table_Phases_l1 (F : Nat) (x1 : Scene) (x2 : Int) : (Int × (List Int)) → Option ((Int × (List Int)) ⊕ (List Int))
| (x8, x9) =>
 ifb (decide (x8 < (ln Diner.row x1.Diners))) (
 (at_ x1.Diners x8).bind fun x10 =>
 ifb (decide (x10.Phase = x2)) (
 (app_ 8 x9 ([x10.ID])).bind fun x11 =>
 (f_table_Phases_j2 F x8) x11) (
 (f_table_Phases_j2 F x8) x9)) (
 Option.map Sum.inr (f_table_Phases_j1 F x9))
theorem le_table_Phases_l1 {F : Nat} {x1 : Scene} {x2 : Int} : ∀ s, ole (f_table_Phases_l1 F x1 x2 s) (m_table_Phases_l1 x1 x2 s) := by
  rintro ⟨x8, x9⟩
  unfold f_table_Phases_l1 m_table_Phases_l1
  try dsimp only
  with_reducible repeat' first | exact ole_refl _ | assumption | intro _ | refine ole_ifb ?_ ?_ | refine ole_bind ?_ ?_ | refine ole_map ?_ | refine ole_loop ?_ | apply le_table_Phases_j1 | apply le_table_Phases_j2
def f_table_Phases (F : Nat) (x1 : Scene) (x2 : Int) : Option (List Int) :=
 loopF F (f_table_Phases_l1 F x1 x2) (0, ([] : List Int))
theorem le_table_Phases {F : Nat} {x1 : Scene} {x2 : Int} : ole (f_table_Phases F x1 x2) (m_table_Phases x1 x2) := by
  unfold f_table_Phases m_table_Phases
  with_reducible repeat' first | exact ole_refl _ | assumption | intro _ | refine ole_ifb ?_ ?_ | refine ole_bind ?_ ?_ | refine ole_map ?_ | refine ole_loop ?_ | apply le_table_Phases_j1 | apply le_table_Phases_j2 | apply le_table_Phases_l1
end NX
end Go.Proofs.Ytadebhbiglmodaa
/-
  The function narthex/table.Stop: its code compiled, a model, and that the code answers as the model. Written by a program of ours (lb.py). No statement of the seat is proved here.
-/
namespace Go.Proofs.Ytadebhbiglmodaa
namespace NX
open Go
set_option maxRecDepth 100000
set_option maxHeartbeats 4000000
def e44 : EC := .seq (.reg [⟨(some 2), none, .box 43 2 (.t 0)⟩, ⟨(some 4), none, .alloc 43 [.nl, .nl]⟩, ⟨(some 5), none, .mv (.c (.iv 0))⟩]) (.seq (.reg [⟨(some 6), none, .loadA 2 (.t 2)⟩, ⟨(some 7), none, .mv (.t 1)⟩, ⟨(some 8), none, .call 76 [(.t 6), (.t 7), (.c (.clo 77 []))]⟩, ⟨(some 9), none, .ext (.t 8) 0⟩, ⟨(some 10), none, .ext (.t 8) 1⟩, ⟨none, none, .store 2 (.t 4) (.t 9)⟩, ⟨(some 5), none, .mv (.t 10)⟩]) (.ret))
theorem ok44 : FnOK Try.prog 44 Try.f44 e44 [.c 4 (some 2), .t 5] 2 9 := ⟨by kernel_rfl, ⟨_, rfl, by kernel_rfl⟩, by kernel_rfl, by kernel_rfl⟩
/- narthex/table.Stop -/
noncomputable def m_table_Stop (x1 : Scene) (x2 : Int) : Option (Scene × Int) :=
 (m_table_turn x1 x2 ((fun z => m_dine_Stop z))).bind fun x3 =>
 some (x3.1, x3.2)
theorem k_table_Stop (x1 : Scene) (x2 : Int) (r : (Scene × Int)) (h : m_table_Stop x1 x2 = some r) : FunP Try.prog 44 [.agg (Scene.row x1), .iv x2] (.tup [.agg (Scene.row r.1), .iv r.2]) := by
  refine FunP_intro ok44 rfl rfl fun w0 H0 => ?_
  rw [m_table_Stop] at h
  refine V_go 10 ?_; dsimp only [e44, go_sem, Nat.reduceBEq, Nat.reduceAdd]; refine ⟨by simp, ?_⟩; obtain ⟨x3, ex3, h⟩ := Option.bind_eq_some_iff.1 h; refine V_call trivial (k_table_turn x1 x2 _ _ ((fun z => m_dine_Stop z)) ⟨by kernel_rfl, rfl, fun z r hz => k_dine_Stop z r hz⟩ _ ex3) (h := ?_); refine V_go 5 ?_; dsimp only [e44, go_sem, Nat.reduceBEq, Nat.reduceAdd]; refine ⟨by simp, ?_⟩; exact M_done (res := fun (r : (Scene × Int)) => .tup [.agg (Scene.row r.1), .iv r.2]) ok44 h
def f_table_Stop (F : Nat) (x1 : Scene) (x2 : Int) : Option (Scene × Int) :=
 (f_table_turn F x1 x2 ((fun z => f_dine_Stop F z))).bind fun x3 =>
 some (x3.1, x3.2)
theorem le_table_Stop {F : Nat} {x1 : Scene} {x2 : Int} : ole (f_table_Stop F x1 x2) (m_table_Stop x1 x2) := by
  unfold f_table_Stop m_table_Stop
  with_reducible repeat' first | exact ole_refl _ | assumption | intro _ | refine ole_ifb ?_ ?_ | refine ole_bind ?_ ?_ | refine ole_map ?_ | refine ole_loop ?_ | apply le_table_turn | apply le_dine_Stop
end NX
end Go.Proofs.Ytadebhbiglmodaa
/-
  The function slices.Equal[[]narthex/api.Mail,narthex/api.Mail]: its code compiled, a model, and that the code answers as the model. Written by a program of ours (lb.py). No statement of the seat is proved here.
-/
namespace Go.Proofs.Ytadebhbiglmodaa
namespace NX
open Go
set_option maxRecDepth 100000
set_option maxHeartbeats 4000000
def e106_L0 : EC := .seq (.reg [⟨(some 14), none, .bin .lss (.t 13) (.t 12)⟩]) (.seq (.ite (.t 14) (.skip) (.exit 0)) (.seq (.blk 1 (.seq (.reg [⟨(some 15), none, .mv (.t 13)⟩, ⟨(some 5), none, .mv (.t 15)⟩]) (.seq (.drw [⟨(some 16), none, .mv (.t 0)⟩, ⟨(some 17), none, .mv (.t 5)⟩, ⟨(some 18), none, .idx 5 (.t 16) (.t 17)⟩, ⟨(some 19), none, .loadA 5 (.t 18)⟩, ⟨(some 20), none, .mv (.t 1)⟩, ⟨(some 21), none, .mv (.t 5)⟩, ⟨(some 22), none, .idx 5 (.t 20) (.t 21)⟩, ⟨(some 23), none, .loadA 5 (.t 22)⟩, ⟨(some 24), none, .eqs true [true, true, true, true, true] (.t 19) (.t 23)⟩] [[], [], [0, 1], [2], [], [], [4, 5], [6], [3, 7]] [[2], [2], [0, 1, 3], [2, 8], [6], [6], [4, 5, 7], [6, 8], [3, 7]]) (.ite (.t 24) (.seq (.reg [⟨(some 4), none, .mv (.c .ff)⟩]) (.ret)) (.skip))))) (.reg [⟨(some 25), none, .bin .add (.t 13) (.c (.iv 1))⟩, ⟨(some 13), none, .mv (.t 25)⟩])))
def e106 : EC := .seq (.reg [⟨(some 4), none, .mv (.c .ff)⟩]) (.seq (.seq (.reg [⟨(some 6), none, .mv (.t 0)⟩, ⟨(some 7), none, .len (.t 6)⟩, ⟨(some 8), none, .mv (.t 1)⟩, ⟨(some 9), none, .len (.t 8)⟩, ⟨(some 10), none, .bin .neq (.t 7) (.t 9)⟩]) (.ite (.t 10) (.seq (.reg [⟨(some 4), none, .mv (.c .ff)⟩]) (.ret)) (.skip))) (.seq (.seq (.reg [⟨(some 11), none, .mv (.t 0)⟩, ⟨(some 12), none, .len (.t 11)⟩, ⟨(some 13), none, .mv (.c (.iv 0))⟩]) (.blk 0 (.loop e106_L0))) (.seq (.reg [⟨(some 4), none, .mv (.c .tt)⟩]) (.ret))))
theorem ok106 : FnOK Try.prog 106 Try.f106 e106 [.t 4] 2 24 := ⟨by kernel_rfl, ⟨_, rfl, by kernel_rfl⟩, by kernel_rfl, by kernel_rfl⟩
/- slices.Equal[[]narthex/api.Mail,narthex/api.Mail] -/
noncomputable def m_slices_Equal_Mail_j1  : Unit → Option Bool
| () =>
 some true
noncomputable def m_slices_Equal_Mail_l1 (x1 : (List Mail)) (x2 : (List Mail)) : Int → Option (Int ⊕ Bool)
| x6 =>
 ifb (decide (x6 < (ln Mail.row x1))) (
 (at_ x1 x6).bind fun x7 =>
 (at_ x2 x6).bind fun x8 =>
 ifb (!(decide (x7.From = x8.From) && (decide (x7.To = x8.To) && (decide (x7.Msg.Kind = x8.Msg.Kind) && (decide (x7.Msg.Epoch = x8.Msg.Epoch) && (decide (x7.Msg.Num = x8.Msg.Num) && true)))))) (
 Option.map Sum.inr (some false)) (
 some (.inl (wr (x6 + 1))))) (
 Option.map Sum.inr (m_slices_Equal_Mail_j1 ()))
noncomputable def m_slices_Equal_Mail (x1 : (List Mail)) (x2 : (List Mail)) : Option Bool :=
 ifb (!decide ((ln Mail.row x1) = (ln Mail.row x2))) (
 some false) (
 loop (m_slices_Equal_Mail_l1 x1 x2) 0)
theorem k_slices_Equal_Mail (x1 : (List Mail)) (x2 : (List Mail)) (r : Bool) (h : m_slices_Equal_Mail x1 x2 = some r) : FunP Try.prog 106 [.sl 5 (List.map Mail.row x1), .sl 5 (List.map Mail.row x2)] (.bv r) := by
  refine FunP_intro ok106 rfl rfl fun w0 H0 => ?_
  rw [m_slices_Equal_Mail] at h
  refine V_go 13 ?_; dsimp only [e106, e106_L0, go_sem, Nat.reduceBEq, Nat.reduceAdd]; refine ⟨by simp, ?_⟩; refine M_ite h rfl (fun _ h => ?_) fun _ h => ?_
  ·refine V_go 4 ?_; dsimp only [e106, e106_L0, go_sem, Nat.reduceBEq, Nat.reduceAdd]; refine ⟨by simp, ?_⟩; exact M_done (res := fun (r : Bool) => .bv r) ok106 h
  ·refine V_go 8 ?_; dsimp only [e106, e106_L0, go_sem, Nat.reduceBEq, Nat.reduceAdd]; refine ⟨by simp, ?_⟩; refine V_join (fun (_ : Unit) => (⟨(an 26 []), [], []⟩ : St)) m_slices_Equal_Mail_j1 r ?_ fun J1 => ?_
   ·rintro ⟨⟩ h; rw [m_slices_Equal_Mail_j1] at h; (try dsimp only); refine V_go 4 ?_; dsimp only [e106, e106_L0, go_sem, Nat.reduceBEq, Nat.reduceAdd]; refine ⟨by simp, ?_⟩; exact M_done (res := fun (r : Bool) => .bv r) ok106 h
   ·refine V_go 1 ?_; dsimp only [e106, e106_L0, go_sem, Nat.reduceBEq, Nat.reduceAdd]; refine ⟨by simp, ?_⟩; refine M_loop h (fun (x6 : Int) => (⟨(.sl 5 (List.map Mail.row x1) :: .sl 5 (List.map Mail.row x2) :: an 10 (.iv (ln Mail.row x1) :: .iv x6 :: an 12 [])), [], []⟩ : St)) (by simp [go_sem]) (by intro x6; first | rfl | simp [go_sem]) ?_; rintro n1 x6 y1 h hin1 hout1; rw [m_slices_Equal_Mail_l1] at h; (try dsimp only); refine V_go 5 ?_; dsimp only [e106, e106_L0, go_sem, Nat.reduceBEq, Nat.reduceAdd]; refine ⟨by simp, ?_⟩; refine M_ite h rfl (fun _ h => ?_) fun _ h => ?_
    ·refine V_go 9 ?_; dsimp only [e106, e106_L0, go_sem, Nat.reduceBEq, Nat.reduceAdd]; refine ⟨by simp, ?_⟩; refine V_drw (by kernel_rfl) fun all hall hs hnap haf => ?_; dsimp only [go_sem, Nat.reduceBEq, Nat.reduceAdd]; refine G_goN hall hs haf hnap 4 5 ?_; dsimp only [go_sem, Nat.reduceBEq, Nat.reduceAdd]; refine ⟨by simp, ?_⟩; obtain ⟨x7, ex7, h⟩ := Option.bind_eq_some_iff.1 h; refine G_idxM hall hs haf hnap 2 Mail.row ex7 rfl rfl trivial rfl rfl rfl rfl ?_; refine G_goN hall hs haf hnap 1 3 ?_; dsimp only [go_sem, Nat.reduceBEq, Nat.reduceAdd]; refine ⟨by simp, ?_⟩
     obtain ⟨x8, ex8, h⟩ := Option.bind_eq_some_iff.1 h; refine G_idxM hall hs haf hnap 6 Mail.row ex8 rfl rfl trivial rfl rfl rfl rfl ?_; refine G_goN hall hs haf hnap 2 0 ?_; dsimp only [go_sem, Nat.reduceBEq, Nat.reduceAdd]; refine ⟨by simp, ?_⟩; refine G_done rfl ?_ _; refine M_ite h rfl (fun _ h => ?_) fun _ h => ?_
     ·refine V_go 4 ?_; dsimp only [e106, e106_L0, go_sem, Nat.reduceBEq, Nat.reduceAdd]; refine ⟨by simp, ?_⟩; exact M_done (res := fun (r : Bool) => .bv r) ok106 (M_out h hout1)
     ·refine V_go 6 ?_; dsimp only [e106, e106_L0, go_sem, Nat.reduceBEq, Nat.reduceAdd]; refine ⟨by simp, ?_⟩; exact M_back h hin1
    ·refine V_go 1 ?_; dsimp only [e106, e106_L0, go_sem, Nat.reduceBEq, Nat.reduceAdd]; refine ⟨by simp, ?_⟩; exact M_to J1 (s := ()) (M_out h hout1)
def f_slices_Equal_Mail_j1 (_F : Nat)  : Unit → Option Bool
| () =>
 some true
theorem le_slices_Equal_Mail_j1 {F : Nat} : ∀ s, ole (f_slices_Equal_Mail_j1 F s) (m_slices_Equal_Mail_j1 s) := by
  rintro ⟨⟩
  unfold f_slices_Equal_Mail_j1 m_slices_Equal_Mail_j1
  try dsimp only
  with_reducible repeat' first | exact ole_refl _ | assumption | intro _ | refine ole_ifb ?_ ?_ | refine ole_bind ?_ ?_ | refine ole_map ?_ | refine ole_loop ?_
def f_slices_Equal_Mail_l1 (F : Nat) (x1 : (List Mail)) (x2 : (List Mail)) : Int → Option (Int ⊕ Bool)
| x6 =>
 ifb (decide (x6 < (ln Mail.row x1))) (
 (at_ x1 x6).bind fun x7 =>
 (at_ x2 x6).bind fun x8 =>
 ifb (!(decide (x7.From = x8.From) && (decide (x7.To = x8.To) && (decide (x7.Msg.Kind = x8.Msg.Kind) && (decide (x7.Msg.Epoch = x8.Msg.Epoch) && (decide (x7.Msg.Num = x8.Msg.Num) && true)))))) (
 Option.map Sum.inr (some false)) (
 some (.inl (wr (x6 + 1))))) (
 Option.map Sum.inr (f_slices_Equal_Mail_j1 F ()))
theorem le_slices_Equal_Mail_l1 {F : Nat} {x1 : (List Mail)} {x2 : (List Mail)} : ∀ s, ole (f_slices_Equal_Mail_l1 F x1 x2 s) (m_slices_Equal_Mail_l1 x1 x2 s) := by
  intro x6
  unfold f_slices_Equal_Mail_l1 m_slices_Equal_Mail_l1
  try dsimp only
  with_reducible repeat' first | exact ole_refl _ | assumption | intro _ | refine ole_ifb ?_ ?_ | refine ole_bind ?_ ?_ | refine ole_map ?_ | refine ole_loop ?_ | apply le_slices_Equal_Mail_j1
def f_slices_Equal_Mail (F : Nat) (x1 : (List Mail)) (x2 : (List Mail)) : Option Bool :=
 ifb (!decide ((ln Mail.row x1) = (ln Mail.row x2))) (
 some false) (
 loopF F (f_slices_Equal_Mail_l1 F x1 x2) 0)
theorem le_slices_Equal_Mail {F : Nat} {x1 : (List Mail)} {x2 : (List Mail)} : ole (f_slices_Equal_Mail F x1 x2) (m_slices_Equal_Mail x1 x2) := by
  unfold f_slices_Equal_Mail m_slices_Equal_Mail
  with_reducible repeat' first | exact ole_refl _ | assumption | intro _ | refine ole_ifb ?_ ?_ | refine ole_bind ?_ ?_ | refine ole_map ?_ | refine ole_loop ?_ | apply le_slices_Equal_Mail_j1 | apply le_slices_Equal_Mail_l1
end NX
end Go.Proofs.Ytadebhbiglmodaa
/-
  The function narthex/table.Same: its code compiled, a model, and that the code answers as the model. Written by a program of ours (lb.py). No statement of the seat is proved here.
-/
namespace Go.Proofs.Ytadebhbiglmodaa
namespace NX
open Go
set_option maxRecDepth 100000
set_option maxHeartbeats 4000000
def e72 : EC := .seq (.reg [⟨(some 2), none, .box 43 2 (.t 0)⟩, ⟨(some 3), none, .box 43 2 (.t 1)⟩, ⟨(some 4), none, .mv (.c .ff)⟩]) (.seq (.reg [⟨(some 5), none, .fld 0 (.t 2)⟩, ⟨(some 6), none, .load (.t 5)⟩, ⟨(some 7), none, .fld 0 (.t 3)⟩, ⟨(some 8), none, .load (.t 7)⟩, ⟨(some 9), none, .call 27 [(.t 6), (.t 8)]⟩, ⟨(some 10), none, .mv (.t 9)⟩, ⟨(some 11), (some (10, true)), .fld 1 (.t 2)⟩, ⟨(some 12), (some (10, true)), .load (.t 11)⟩, ⟨(some 13), (some (10, true)), .fld 1 (.t 3)⟩, ⟨(some 14), (some (10, true)), .load (.t 13)⟩, ⟨(some 15), (some (10, true)), .call 106 [(.t 12), (.t 14)]⟩, ⟨(some 16), none, .pick (.t 10) (.t 15) (.c .ff)⟩, ⟨(some 4), none, .mv (.t 16)⟩]) (.ret))
theorem ok72 : FnOK Try.prog 72 Try.f72 e72 [.t 4] 2 15 := ⟨by kernel_rfl, ⟨_, rfl, by kernel_rfl⟩, by kernel_rfl, by kernel_rfl⟩
/- narthex/table.Same -/
noncomputable def m_table_Same_j1  : Bool → Option Bool
| x5 =>
 some x5
noncomputable def m_table_Same (x1 : Scene) (x2 : Scene) : Option Bool :=
 (m_place_Same x1.Diners x2.Diners).bind fun x3 =>
 ifb x3 (
 (m_slices_Equal_Mail x1.Mail x2.Mail).bind fun x4 =>
 m_table_Same_j1 x4) (
 m_table_Same_j1 false)
theorem k_table_Same (x1 : Scene) (x2 : Scene) (r : Bool) (h : m_table_Same x1 x2 = some r) : FunP Try.prog 72 [.agg (Scene.row x1), .agg (Scene.row x2)] (.bv r) := by
  refine FunP_intro ok72 rfl rfl fun w0 H0 => ?_
  rw [m_table_Same] at h
  refine V_go 12 ?_; dsimp only [e72, go_sem, Nat.reduceBEq, Nat.reduceAdd]; refine ⟨by simp, ?_⟩; obtain ⟨x3, ex3, h⟩ := Option.bind_eq_some_iff.1 h; refine V_call trivial (k_place_Same x1.Diners x2.Diners _ ex3) (h := ?_); refine V_go 1 ?_; dsimp only [e72, go_sem, Nat.reduceBEq, Nat.reduceAdd]; refine ⟨by simp, ?_⟩; refine V_join (fun (x5 : Bool) => (⟨(an 4 (.bv x5 :: an 12 [])), [], []⟩ : St)) m_table_Same_j1 r ?_ fun J1 => ?_
  ·intro x5 h; rw [m_table_Same_j1] at h; (try dsimp only); exact M_done (res := fun (r : Bool) => .bv r) ok72 h
  ·refine M_case 10 h rfl (fun _ h => ?_) fun _ h => ?_
   ·dsimp only [go_sem, Nat.reduceBEq, Nat.reduceAdd]; refine V_go 4 ?_; dsimp only [e72, go_sem, Nat.reduceBEq, Nat.reduceAdd]; refine ⟨by simp, ?_⟩; obtain ⟨x4, ex4, h⟩ := Option.bind_eq_some_iff.1 h; refine V_call trivial (k_slices_Equal_Mail x1.Mail x2.Mail _ ex4) (h := ?_); refine V_go 3 ?_; dsimp only [e72, go_sem, Nat.reduceBEq, Nat.reduceAdd]; refine ⟨by simp, ?_⟩; exact M_to J1 (s := x4) h
   ·dsimp only [go_sem, Nat.reduceBEq, Nat.reduceAdd]; refine V_go 8 ?_; dsimp only [e72, go_sem, Nat.reduceBEq, Nat.reduceAdd]; refine ⟨by simp, ?_⟩; exact M_to J1 (s := false) h
def f_table_Same_j1 (_F : Nat)  : Bool → Option Bool
| x5 =>
 some x5
theorem le_table_Same_j1 {F : Nat} : ∀ s, ole (f_table_Same_j1 F s) (m_table_Same_j1 s) := by
  intro x5
  unfold f_table_Same_j1 m_table_Same_j1
  try dsimp only
  with_reducible repeat' first | exact ole_refl _ | assumption | intro _ | refine ole_ifb ?_ ?_ | refine ole_bind ?_ ?_ | refine ole_map ?_ | refine ole_loop ?_
def f_table_Same (F : Nat) (x1 : Scene) (x2 : Scene) : Option Bool :=
 (f_place_Same F x1.Diners x2.Diners).bind fun x3 =>
 ifb x3 (
 (f_slices_Equal_Mail F x1.Mail x2.Mail).bind fun x4 =>
 f_table_Same_j1 F x4) (
 f_table_Same_j1 F false)
theorem le_table_Same {F : Nat} {x1 : Scene} {x2 : Scene} : ole (f_table_Same F x1 x2) (m_table_Same x1 x2) := by
  unfold f_table_Same m_table_Same
  with_reducible repeat' first | exact ole_refl _ | assumption | intro _ | refine ole_ifb ?_ ?_ | refine ole_bind ?_ ?_ | refine ole_map ?_ | refine ole_loop ?_ | apply le_table_Same_j1 | apply le_place_Same | apply le_slices_Equal_Mail
end NX
end Go.Proofs.Ytadebhbiglmodaa
/-
  The function narthex/narthexlaw14.awake: its code compiled, a model, and that the code answers as the model. Written by a program of ours (lb.py). No statement of the seat is proved here.
-/
namespace Go.Proofs.Ytadebhbiglmodaa
namespace NX
open Go
set_option maxRecDepth 100000
set_option maxHeartbeats 4000000
def e35 : EC := .seq (.reg [⟨(some 0), none, .mv (.c .ff)⟩]) (.seq (.reg [⟨(some 16), none, .build [.iv 0, .iv 0] [(0, 1, (.c (.iv 0))), (1, 1, (.c (.iv 1)))]⟩, ⟨(some 17), none, .bsl 58 2 1 [.iv 0, .iv 0] [(0, (.t 16))]⟩, ⟨(some 18), none, .build [.iv 0, .nl] [(0, 1, (.c (.iv 2))), (1, 1, (.t 17))]⟩, ⟨(some 19), none, .call 68 [(.t 18)]⟩, ⟨(some 15), none, .mv (.t 19)⟩, ⟨(some 20), none, .ext (.t 15) 0⟩, ⟨(some 21), none, .ext (.t 15) 1⟩, ⟨(some 1), none, .alloc 43 [.nl, .nl]⟩, ⟨none, none, .store 2 (.t 1) (.t 20)⟩, ⟨(some 2), none, .mv (.t 21)⟩]) (.seq (.seq (.reg [⟨(some 22), none, .mv (.t 2)⟩, ⟨(some 23), none, .bin .neq (.t 22) (.c (.iv 0))⟩, ⟨(some 24), none, .mv (.t 23)⟩, ⟨(some 25), (some (24, false)), .fld 0 (.t 1)⟩, ⟨(some 26), (some (24, false)), .load (.t 25)⟩, ⟨(some 27), (some (24, false)), .len (.t 26)⟩, ⟨(some 28), (some (24, false)), .bin .neq (.t 27) (.c (.iv 2))⟩, ⟨(some 29), none, .pick (.t 24) (.c .tt) (.t 28)⟩]) (.ite (.t 29) (.seq (.reg [⟨(some 0), none, .mv (.c .ff)⟩]) (.ret)) (.skip))) (.seq (.reg [⟨(some 31), none, .fld 0 (.t 1)⟩, ⟨(some 32), none, .load (.t 31)⟩, ⟨(some 33), none, .idx 3 (.t 32) (.c (.iv 0))⟩, ⟨(some 34), none, .loadA 3 (.t 33)⟩, ⟨(some 35), none, .call 24 [(.t 34), (.c (.iv 1))]⟩, ⟨(some 30), none, .mv (.t 35)⟩, ⟨(some 36), none, .ext (.t 30) 0⟩, ⟨(some 37), none, .ext (.t 30) 1⟩, ⟨(some 3), none, .alloc 49 [.iv 0, .iv 0, .iv 0, .ff, .ff, .ff, .ff, .ff]⟩, ⟨none, none, .store 8 (.t 3) (.t 36)⟩, ⟨(some 4), none, .mv (.t 37)⟩]) (.seq (.reg [⟨(some 5), none, .mv (.c (.iv 0))⟩]) (.seq (.seq (.reg [⟨(some 38), none, .fld 3 (.t 3)⟩, ⟨(some 39), none, .load (.t 38)⟩]) (.ite (.t 39) (.reg [⟨(some 5), none, .mv (.c (.iv 1))⟩]) (.skip))) (.seq (.reg [⟨(some 41), none, .loadA 2 (.t 1)⟩, ⟨(some 42), none, .mv (.t 5)⟩, ⟨(some 43), none, .call 69 [(.t 41), (.t 42)]⟩, ⟨(some 40), none, .mv (.t 43)⟩, ⟨(some 44), none, .ext (.t 40) 0⟩, ⟨(some 45), none, .ext (.t 40) 1⟩, ⟨none, none, .store 2 (.t 1) (.t 44)⟩, ⟨(some 6), none, .mv (.t 45)⟩]) (.seq (.reg [⟨(some 47), none, .loadA 2 (.t 1)⟩, ⟨(some 48), none, .mv (.t 5)⟩, ⟨(some 49), none, .mv (.t 5)⟩, ⟨(some 50), none, .bin .sub (.c (.iv 1)) (.t 49)⟩, ⟨(some 51), none, .call 70 [(.t 47), (.t 48), (.t 50)]⟩, ⟨(some 46), none, .mv (.t 51)⟩, ⟨(some 52), none, .ext (.t 46) 0⟩, ⟨(some 53), none, .ext (.t 46) 1⟩, ⟨none, none, .store 2 (.t 1) (.t 52)⟩, ⟨(some 7), none, .mv (.t 53)⟩]) (.seq (.reg [⟨(some 54), none, .loadA 2 (.t 1)⟩, ⟨(some 55), none, .build [.iv 0, .iv 0] [(0, 1, (.c (.iv 0))), (1, 1, (.c (.iv 1)))]⟩, ⟨(some 56), none, .call 39 [(.t 54), (.t 55), (.c (.iv 1))]⟩, ⟨(some 8), none, .mv (.t 56)⟩]) (.seq (.reg [⟨(some 58), none, .loadA 2 (.t 1)⟩, ⟨(some 59), none, .mv (.t 5)⟩, ⟨(some 60), none, .bin .sub (.c (.iv 1)) (.t 59)⟩, ⟨(some 61), none, .mv (.t 5)⟩, ⟨(some 62), none, .call 70 [(.t 58), (.t 60), (.t 61)]⟩, ⟨(some 57), none, .mv (.t 62)⟩, ⟨(some 63), none, .ext (.t 57) 0⟩, ⟨(some 64), none, .ext (.t 57) 1⟩, ⟨none, none, .store 2 (.t 1) (.t 63)⟩, ⟨(some 9), none, .mv (.t 64)⟩]) (.seq (.reg [⟨(some 65), none, .loadA 2 (.t 1)⟩, ⟨(some 66), none, .call 41 [(.t 65), (.c (.iv 2))]⟩, ⟨(some 10), none, .mv (.t 66)⟩]) (.seq (.reg [⟨(some 68), none, .loadA 2 (.t 1)⟩, ⟨(some 69), none, .mv (.t 5)⟩, ⟨(some 70), none, .call 44 [(.t 68), (.t 69)]⟩, ⟨(some 67), none, .mv (.t 70)⟩, ⟨(some 71), none, .ext (.t 67) 0⟩, ⟨(some 72), none, .ext (.t 67) 1⟩, ⟨(some 11), none, .alloc 43 [.nl, .nl]⟩, ⟨none, none, .store 2 (.t 11) (.t 71)⟩, ⟨(some 12), none, .mv (.t 72)⟩]) (.seq (.reg [⟨(some 74), none, .loadA 2 (.t 1)⟩, ⟨(some 75), none, .call 70 [(.t 74), (.c (.iv 0)), (.c (.iv 1))]⟩, ⟨(some 73), none, .mv (.t 75)⟩, ⟨(some 76), none, .ext (.t 73) 0⟩, ⟨(some 77), none, .ext (.t 73) 1⟩, ⟨(some 13), none, .alloc 43 [.nl, .nl]⟩, ⟨none, none, .store 2 (.t 13) (.t 76)⟩, ⟨(some 14), none, .mv (.t 77)⟩]) (.seq (.reg [⟨(some 78), none, .mv (.t 6)⟩, ⟨(some 79), none, .bin .eql (.t 78) (.c (.iv 0))⟩, ⟨(some 80), none, .mv (.t 79)⟩, ⟨(some 81), (some (80, true)), .mv (.t 7)⟩, ⟨(some 82), (some (80, true)), .bin .eql (.t 81) (.c (.iv 0))⟩, ⟨(some 83), none, .pick (.t 80) (.t 82) (.c .ff)⟩, ⟨(some 84), none, .mv (.t 83)⟩, ⟨(some 85), (some (84, true)), .mv (.t 8)⟩, ⟨(some 86), (some (84, true)), .bin .eql (.t 85) (.c (.iv 1))⟩, ⟨(some 87), none, .pick (.t 84) (.t 86) (.c .ff)⟩, ⟨(some 88), none, .mv (.t 87)⟩, ⟨(some 89), (some (88, true)), .mv (.t 9)⟩, ⟨(some 90), (some (88, true)), .bin .eql (.t 89) (.c (.iv 0))⟩, ⟨(some 91), none, .pick (.t 88) (.t 90) (.c .ff)⟩, ⟨(some 92), none, .mv (.t 91)⟩, ⟨(some 93), (some (92, true)), .mv (.t 10)⟩, ⟨(some 94), (some (92, true)), .len (.t 93)⟩, ⟨(some 95), (some (92, true)), .bin .eql (.t 94) (.c (.iv 1))⟩, ⟨(some 96), none, .pick (.t 92) (.t 95) (.c .ff)⟩, ⟨(some 97), none, .mv (.t 96)⟩, ⟨(some 98), (some (97, true)), .mv (.t 10)⟩, ⟨(some 99), (some (97, true)), .idx 1 (.t 98) (.c (.iv 0))⟩, ⟨(some 100), (some (97, true)), .load (.t 99)⟩, ⟨(some 101), (some (97, true)), .mv (.t 5)⟩, ⟨(some 102), (some (97, true)), .bin .eql (.t 100) (.t 101)⟩, ⟨(some 103), none, .pick (.t 97) (.t 102) (.c .ff)⟩, ⟨(some 104), none, .mv (.t 103)⟩, ⟨(some 105), (some (104, true)), .mv (.t 12)⟩, ⟨(some 106), (some (104, true)), .bin .eql (.t 105) (.c (.iv 0))⟩, ⟨(some 107), none, .pick (.t 104) (.t 106) (.c .ff)⟩, ⟨(some 108), none, .mv (.t 107)⟩, ⟨(some 109), (some (108, true)), .mv (.t 14)⟩, ⟨(some 110), (some (108, true)), .bin .eql (.t 109) (.c (.iv 141))⟩, ⟨(some 111), none, .pick (.t 108) (.t 110) (.c .ff)⟩, ⟨(some 112), none, .mv (.t 111)⟩, ⟨(some 113), (some (112, true)), .loadA 2 (.t 1)⟩, ⟨(some 114), (some (112, true)), .call 71 [(.t 113)]⟩, ⟨(some 115), (some (112, true)), .bin .eql (.t 114) (.c (.iv 0))⟩, ⟨(some 116), none, .pick (.t 112) (.t 115) (.c .ff)⟩, ⟨(some 117), none, .mv (.t 116)⟩, ⟨(some 118), (some (117, true)), .loadA 2 (.t 1)⟩, ⟨(some 119), (some (117, true)), .loadA 2 (.t 1)⟩, ⟨(some 120), (some (117, true)), .call 72 [(.t 118), (.t 119)]⟩, ⟨(some 121), none, .pick (.t 117) (.t 120) (.c .ff)⟩, ⟨(some 122), none, .mv (.t 121)⟩, ⟨(some 123), (some (122, true)), .loadA 2 (.t 1)⟩, ⟨(some 124), (some (122, true)), .loadA 2 (.t 11)⟩, ⟨(some 125), (some (122, true)), .call 72 [(.t 123), (.t 124)]⟩, ⟨(some 126), (some (122, true)), .not (.t 125)⟩, ⟨(some 127), none, .pick (.t 122) (.t 126) (.c .ff)⟩, ⟨(some 0), none, .mv (.t 127)⟩]) (.ret))))))))))))))
theorem ok35 : FnOK Try.prog 35 Try.f35 e35 [.t 0] 0 128 := ⟨by kernel_rfl, ⟨_, rfl, by kernel_rfl⟩, by kernel_rfl, by kernel_rfl⟩
/- narthex/narthexlaw14.awake -/
noncomputable def m_narthexlaw14_awake_j3  : Bool → Option Bool
| x17 =>
 some x17
noncomputable def m_narthexlaw14_awake_j2 (x1 : (Scene × Int)) : Int → Option Bool
| x5 =>
 (m_table_Start x1.1 x5).bind fun x6 =>
 (m_table_Deliver x6.1 x5 (wr (1 - x5))).bind fun x7 =>
 (m_table_Count x7.1 ((Edge.mk 0 1)) 1).bind fun x8 =>
 (m_table_Deliver x7.1 (wr (1 - x5)) x5).bind fun x9 =>
 (m_table_Phases x9.1 2).bind fun x10 =>
 (m_table_Stop x9.1 x5).bind fun x11 =>
 (m_table_Deliver x9.1 0 1).bind fun x12 =>
 ifb (decide (x6.2 = 0)) (
 ifb (decide (x7.2 = 0)) (
 ifb (decide (x8 = 1)) (
 ifb (decide (x9.2 = 0)) (
 ifb (decide ((ln intRow x10) = 1)) (
 (at_ x10 0).bind fun x13 =>
 ifb (decide (x13 = x5)) (
 ifb (decide (x11.2 = 0)) (
 ifb (decide (x12.2 = 141)) (
 (m_table_Check x9.1).bind fun x14 =>
 ifb (decide (x14 = 0)) (
 (m_table_Same x9.1 x9.1).bind fun x15 =>
 ifb x15 (
 (m_table_Same x9.1 x11.1).bind fun x16 =>
 m_narthexlaw14_awake_j3 (!x16)) (
 m_narthexlaw14_awake_j3 false)) (
 m_narthexlaw14_awake_j3 false)) (
 m_narthexlaw14_awake_j3 false)) (
 m_narthexlaw14_awake_j3 false)) (
 m_narthexlaw14_awake_j3 false)) (
 m_narthexlaw14_awake_j3 false)) (
 m_narthexlaw14_awake_j3 false)) (
 m_narthexlaw14_awake_j3 false)) (
 m_narthexlaw14_awake_j3 false)) (
 m_narthexlaw14_awake_j3 false)
noncomputable def m_narthexlaw14_awake_j1 (x1 : (Scene × Int)) : Bool → Option Bool
| x2 =>
 ifb x2 (
 some false) (
 (at_ x1.1.Diners 0).bind fun x3 =>
 (m_place_Side x3 1).bind fun x4 =>
 ifb x4.1.Fork (
 (m_narthexlaw14_awake_j2 x1) 1) (
 (m_narthexlaw14_awake_j2 x1) 0))
noncomputable def m_narthexlaw14_awake  : Option Bool :=
 (m_table_New ((Graph.mk 2 ([(Edge.mk 0 1)])))).bind fun x1 =>
 ifb (!decide (x1.2 = 0)) (
 (m_narthexlaw14_awake_j1 x1) true) (
 (m_narthexlaw14_awake_j1 x1) (!decide ((ln Diner.row x1.1.Diners) = 2)))
theorem k_narthexlaw14_awake  (r : Bool) (h : m_narthexlaw14_awake = some r) : FunP Try.prog 35 [] (.bv r) := by
  refine FunP_intro ok35 rfl rfl fun w0 H0 => ?_
  rw [m_narthexlaw14_awake] at h
  refine V_go 9 ?_; dsimp only [e35, go_sem, Nat.reduceBEq, Nat.reduceAdd]; refine ⟨by simp, ?_⟩; refine V_seal 0 rfl ?_; dsimp only [go_sem, Nat.reduceBEq, Nat.reduceAdd]; obtain ⟨x1, ex1, h⟩ := Option.bind_eq_some_iff.1 h; refine V_call trivial (k_table_New ((Graph.mk 2 ([(Edge.mk 0 1)]))) _ ex1) (h := ?_); refine V_go 13 ?_; dsimp only [e35, go_sem, Nat.reduceBEq, Nat.reduceAdd]; refine ⟨by simp, ?_⟩
  refine V_join (fun (x2 : Bool) => (⟨(.any :: .ptr 0 0 :: an 27 (.bv x2 :: an 98 [])), [some ⟨43, [.sl 3 (List.map Diner.row x1.1.Diners), .sl 5 (List.map Mail.row x1.1.Mail)]⟩], []⟩ : St)) (m_narthexlaw14_awake_j1 x1) r ?_ fun J1 => ?_
  ·intro x2 h; rw [m_narthexlaw14_awake_j1] at h; (try dsimp only); refine M_ite h rfl (fun _ h => ?_) fun _ h => ?_
   ·refine V_go 4 ?_; dsimp only [e35, go_sem, Nat.reduceBEq, Nat.reduceAdd]; refine ⟨by simp, ?_⟩; exact M_done (res := fun (r : Bool) => .bv r) ok35 h
   ·refine V_go 5 ?_; dsimp only [e35, go_sem, Nat.reduceBEq, Nat.reduceAdd]; refine ⟨by simp, ?_⟩; obtain ⟨x3, ex3, h⟩ := Option.bind_eq_some_iff.1 h; refine V_idxM Diner.row ex3 trivial rfl rfl rfl ?_; refine V_go 1 ?_; dsimp only [e35, go_sem, Nat.reduceBEq, Nat.reduceAdd]; refine ⟨by simp, ?_⟩; obtain ⟨x4, ex4, h⟩ := Option.bind_eq_some_iff.1 h; refine V_call trivial (k_place_Side x3 1 _ ex4) (h := ?_); refine V_go 17 ?_; dsimp only [e35, go_sem, Nat.reduceBEq, Nat.reduceAdd]; refine ⟨by simp, ?_⟩
    refine V_join (fun (x5 : Int) => (⟨(.any :: .ptr 0 0 :: an 3 (.iv x5 :: an 122 [])), [some ⟨43, [.sl 3 (List.map Diner.row x1.1.Diners), .sl 5 (List.map Mail.row x1.1.Mail)]⟩], []⟩ : St)) (m_narthexlaw14_awake_j2 x1) r ?_ fun J2 => ?_
    ·intro x5 h; rw [m_narthexlaw14_awake_j2] at h; (try dsimp only); refine V_go 4 ?_; dsimp only [e35, go_sem, Nat.reduceBEq, Nat.reduceAdd]; refine ⟨by simp, ?_⟩; obtain ⟨x6, ex6, h⟩ := Option.bind_eq_some_iff.1 h; refine V_call trivial (k_table_Start x1.1 x5 _ ex6) (h := ?_); refine V_go 12 ?_; dsimp only [e35, go_sem, Nat.reduceBEq, Nat.reduceAdd]; refine ⟨by simp, ?_⟩; obtain ⟨x7, ex7, h⟩ := Option.bind_eq_some_iff.1 h; refine V_call trivial (k_table_Deliver x6.1 x5 (wr (1 - x5)) _ ex7) (h := ?_); refine V_go 10 ?_; dsimp only [e35, go_sem, Nat.reduceBEq, Nat.reduceAdd]
     refine ⟨by simp, ?_⟩; obtain ⟨x8, ex8, h⟩ := Option.bind_eq_some_iff.1 h; refine V_call trivial (k_table_Count x7.1 ((Edge.mk 0 1)) 1 _ ex8) (h := ?_); refine V_go 8 ?_; dsimp only [e35, go_sem, Nat.reduceBEq, Nat.reduceAdd]; refine ⟨by simp, ?_⟩; obtain ⟨x9, ex9, h⟩ := Option.bind_eq_some_iff.1 h; refine V_call trivial (k_table_Deliver x7.1 (wr (1 - x5)) x5 _ ex9) (h := ?_); refine V_go 9 ?_; dsimp only [e35, go_sem, Nat.reduceBEq, Nat.reduceAdd]; refine ⟨by simp, ?_⟩; obtain ⟨x10, ex10, h⟩ := Option.bind_eq_some_iff.1 h; refine V_call trivial (k_table_Phases x9.1 2 _ ex10) (h := ?_)
     refine V_go 6 ?_; dsimp only [e35, go_sem, Nat.reduceBEq, Nat.reduceAdd]; refine ⟨by simp, ?_⟩; obtain ⟨x11, ex11, h⟩ := Option.bind_eq_some_iff.1 h; refine V_call trivial (k_table_Stop x9.1 x5 _ ex11) (h := ?_); refine V_go 10 ?_; dsimp only [e35, go_sem, Nat.reduceBEq, Nat.reduceAdd]; refine ⟨by simp, ?_⟩; obtain ⟨x12, ex12, h⟩ := Option.bind_eq_some_iff.1 h; refine V_call trivial (k_table_Deliver x9.1 0 1 _ ex12) (h := ?_); refine V_go 12 ?_; dsimp only [e35, go_sem, Nat.reduceBEq, Nat.reduceAdd]; refine ⟨by simp, ?_⟩
     refine V_join (fun (x17 : Bool) => (⟨(.bv x17 :: an 127 []), [], []⟩ : St)) m_narthexlaw14_awake_j3 r ?_ fun J3 => ?_
     ·intro x17 h; rw [m_narthexlaw14_awake_j3] at h; (try dsimp only); exact M_done (res := fun (r : Bool) => .bv r) ok35 h
     ·refine M_case 80 h rfl (fun _ h => ?_) fun _ h => ?_
      ·dsimp only [go_sem, Nat.reduceBEq, Nat.reduceAdd]; refine V_go 4 ?_; dsimp only [e35, go_sem, Nat.reduceBEq, Nat.reduceAdd]; refine ⟨by simp, ?_⟩; refine M_case 84 h rfl (fun _ h => ?_) fun _ h => ?_
       ·dsimp only [go_sem, Nat.reduceBEq, Nat.reduceAdd]; refine V_go 4 ?_; dsimp only [e35, go_sem, Nat.reduceBEq, Nat.reduceAdd]; refine ⟨by simp, ?_⟩; refine M_case 88 h rfl (fun _ h => ?_) fun _ h => ?_
        ·dsimp only [go_sem, Nat.reduceBEq, Nat.reduceAdd]; refine V_go 4 ?_; dsimp only [e35, go_sem, Nat.reduceBEq, Nat.reduceAdd]; refine ⟨by simp, ?_⟩; refine M_case 92 h rfl (fun _ h => ?_) fun _ h => ?_
         ·dsimp only [go_sem, Nat.reduceBEq, Nat.reduceAdd]; refine V_go 5 ?_; dsimp only [e35, go_sem, Nat.reduceBEq, Nat.reduceAdd]; refine ⟨by simp, ?_⟩; refine M_case 97 h rfl (fun _ h => ?_) fun _ h => ?_
          ·dsimp only [go_sem, Nat.reduceBEq, Nat.reduceAdd]; refine V_go 1 ?_; dsimp only [e35, go_sem, Nat.reduceBEq, Nat.reduceAdd]; refine ⟨by simp, ?_⟩; obtain ⟨x13, ex13, h⟩ := Option.bind_eq_some_iff.1 h; refine V_idxM intRow ex13 trivial rfl rfl rfl ?_; refine V_go 5 ?_; dsimp only [e35, go_sem, Nat.reduceBEq, Nat.reduceAdd]; refine ⟨by simp, ?_⟩; refine M_case 104 h rfl (fun _ h => ?_) fun _ h => ?_
           ·dsimp only [go_sem, Nat.reduceBEq, Nat.reduceAdd]; refine V_go 4 ?_; dsimp only [e35, go_sem, Nat.reduceBEq, Nat.reduceAdd]; refine ⟨by simp, ?_⟩; refine M_case 108 h rfl (fun _ h => ?_) fun _ h => ?_
            ·dsimp only [go_sem, Nat.reduceBEq, Nat.reduceAdd]; refine V_go 4 ?_; dsimp only [e35, go_sem, Nat.reduceBEq, Nat.reduceAdd]; refine ⟨by simp, ?_⟩; refine M_case 112 h rfl (fun _ h => ?_) fun _ h => ?_
             ·dsimp only [go_sem, Nat.reduceBEq, Nat.reduceAdd]; refine V_go 1 ?_; dsimp only [e35, go_sem, Nat.reduceBEq, Nat.reduceAdd]; refine ⟨by simp, ?_⟩; obtain ⟨x14, ex14, h⟩ := Option.bind_eq_some_iff.1 h; refine V_call trivial (k_table_Check x9.1 _ ex14) (h := ?_); refine V_go 3 ?_; dsimp only [e35, go_sem, Nat.reduceBEq, Nat.reduceAdd]; refine ⟨by simp, ?_⟩; refine M_case 117 h rfl (fun _ h => ?_) fun _ h => ?_
              ·dsimp only [go_sem, Nat.reduceBEq, Nat.reduceAdd]; refine V_go 2 ?_; dsimp only [e35, go_sem, Nat.reduceBEq, Nat.reduceAdd]; refine ⟨by simp, ?_⟩; obtain ⟨x15, ex15, h⟩ := Option.bind_eq_some_iff.1 h; refine V_call trivial (k_table_Same x9.1 x9.1 _ ex15) (h := ?_); refine V_go 2 ?_; dsimp only [e35, go_sem, Nat.reduceBEq, Nat.reduceAdd]; refine ⟨by simp, ?_⟩; refine M_case 122 h rfl (fun _ h => ?_) fun _ h => ?_
               ·dsimp only [go_sem, Nat.reduceBEq, Nat.reduceAdd]; refine V_go 2 ?_; dsimp only [e35, go_sem, Nat.reduceBEq, Nat.reduceAdd]; refine ⟨by simp, ?_⟩; obtain ⟨x16, ex16, h⟩ := Option.bind_eq_some_iff.1 h; refine V_call trivial (k_table_Same x9.1 x11.1 _ ex16) (h := ?_); refine V_go 4 ?_; dsimp only [e35, go_sem, Nat.reduceBEq, Nat.reduceAdd]; refine ⟨by simp, ?_⟩; exact M_to J3 (s := !x16) h
               ·dsimp only [go_sem, Nat.reduceBEq, Nat.reduceAdd]; refine V_go 7 ?_; dsimp only [e35, go_sem, Nat.reduceBEq, Nat.reduceAdd]; refine ⟨by simp, ?_⟩; exact M_to J3 (s := false) h
              ·dsimp only [go_sem, Nat.reduceBEq, Nat.reduceAdd]; refine V_go 12 ?_; dsimp only [e35, go_sem, Nat.reduceBEq, Nat.reduceAdd]; refine ⟨by simp, ?_⟩; exact M_to J3 (s := false) h
             ·dsimp only [go_sem, Nat.reduceBEq, Nat.reduceAdd]; refine V_go 17 ?_; dsimp only [e35, go_sem, Nat.reduceBEq, Nat.reduceAdd]; refine ⟨by simp, ?_⟩; exact M_to J3 (s := false) h
            ·dsimp only [go_sem, Nat.reduceBEq, Nat.reduceAdd]; refine V_go 21 ?_; dsimp only [e35, go_sem, Nat.reduceBEq, Nat.reduceAdd]; refine ⟨by simp, ?_⟩; exact M_to J3 (s := false) h
           ·dsimp only [go_sem, Nat.reduceBEq, Nat.reduceAdd]; refine V_go 25 ?_; dsimp only [e35, go_sem, Nat.reduceBEq, Nat.reduceAdd]; refine ⟨by simp, ?_⟩; exact M_to J3 (s := false) h
          ·dsimp only [go_sem, Nat.reduceBEq, Nat.reduceAdd]; refine V_go 32 ?_; dsimp only [e35, go_sem, Nat.reduceBEq, Nat.reduceAdd]; refine ⟨by simp, ?_⟩; exact M_to J3 (s := false) h
         ·dsimp only [go_sem, Nat.reduceBEq, Nat.reduceAdd]; refine V_go 37 ?_; dsimp only [e35, go_sem, Nat.reduceBEq, Nat.reduceAdd]; refine ⟨by simp, ?_⟩; exact M_to J3 (s := false) h
        ·dsimp only [go_sem, Nat.reduceBEq, Nat.reduceAdd]; refine V_go 41 ?_; dsimp only [e35, go_sem, Nat.reduceBEq, Nat.reduceAdd]; refine ⟨by simp, ?_⟩; exact M_to J3 (s := false) h
       ·dsimp only [go_sem, Nat.reduceBEq, Nat.reduceAdd]; refine V_go 45 ?_; dsimp only [e35, go_sem, Nat.reduceBEq, Nat.reduceAdd]; refine ⟨by simp, ?_⟩; exact M_to J3 (s := false) h
      ·dsimp only [go_sem, Nat.reduceBEq, Nat.reduceAdd]; refine V_go 49 ?_; dsimp only [e35, go_sem, Nat.reduceBEq, Nat.reduceAdd]; refine ⟨by simp, ?_⟩; exact M_to J3 (s := false) h
    ·refine M_ite h rfl (fun _ h => ?_) fun _ h => ?_
     ·refine V_go 3 ?_; dsimp only [e35, go_sem, Nat.reduceBEq, Nat.reduceAdd]; refine ⟨by simp, ?_⟩; exact M_to J2 (s := 1) h
     ·refine V_go 1 ?_; dsimp only [e35, go_sem, Nat.reduceBEq, Nat.reduceAdd]; refine ⟨by simp, ?_⟩; exact M_to J2 (s := 0) h
  ·refine M_case 24 h rfl (fun _ h => ?_) fun _ h => ?_
   ·dsimp only [go_sem, Nat.reduceBEq, Nat.reduceAdd]; refine V_go 6 ?_; dsimp only [e35, go_sem, Nat.reduceBEq, Nat.reduceAdd]; refine ⟨by simp, ?_⟩; exact M_to J1 (s := true) h
   ·dsimp only [go_sem, Nat.reduceBEq, Nat.reduceAdd]; refine V_go 6 ?_; dsimp only [e35, go_sem, Nat.reduceBEq, Nat.reduceAdd]; refine ⟨by simp, ?_⟩; exact M_to J1 (s := !decide ((ln Diner.row x1.1.Diners) = 2)) h
def f_narthexlaw14_awake_j3 (_F : Nat)  : Bool → Option Bool
| x17 =>
 some x17
theorem le_narthexlaw14_awake_j3 {F : Nat} : ∀ s, ole (f_narthexlaw14_awake_j3 F s) (m_narthexlaw14_awake_j3 s) := by
  intro x17
  unfold f_narthexlaw14_awake_j3 m_narthexlaw14_awake_j3
  try dsimp only
  with_reducible repeat' first | exact ole_refl _ | assumption | intro _ | refine ole_ifb ?_ ?_ | refine ole_bind ?_ ?_ | refine ole_map ?_ | refine ole_loop ?_
def f_narthexlaw14_awake_j2 (F : Nat) (x1 : (Scene × Int)) : Int → Option Bool
| x5 =>
 (f_table_Start F x1.1 x5).bind fun x6 =>
 (f_table_Deliver F x6.1 x5 (wr (1 - x5))).bind fun x7 =>
 (f_table_Count F x7.1 ((Edge.mk 0 1)) 1).bind fun x8 =>
 (f_table_Deliver F x7.1 (wr (1 - x5)) x5).bind fun x9 =>
 (f_table_Phases F x9.1 2).bind fun x10 =>
 (f_table_Stop F x9.1 x5).bind fun x11 =>
 (f_table_Deliver F x9.1 0 1).bind fun x12 =>
 ifb (decide (x6.2 = 0)) (
 ifb (decide (x7.2 = 0)) (
 ifb (decide (x8 = 1)) (
 ifb (decide (x9.2 = 0)) (
 ifb (decide ((ln intRow x10) = 1)) (
 (at_ x10 0).bind fun x13 =>
 ifb (decide (x13 = x5)) (
 ifb (decide (x11.2 = 0)) (
 ifb (decide (x12.2 = 141)) (
 (f_table_Check F x9.1).bind fun x14 =>
 ifb (decide (x14 = 0)) (
 (f_table_Same F x9.1 x9.1).bind fun x15 =>
 ifb x15 (
 (f_table_Same F x9.1 x11.1).bind fun x16 =>
 f_narthexlaw14_awake_j3 F (!x16)) (
 f_narthexlaw14_awake_j3 F false)) (
 f_narthexlaw14_awake_j3 F false)) (
 f_narthexlaw14_awake_j3 F false)) (
 f_narthexlaw14_awake_j3 F false)) (
 f_narthexlaw14_awake_j3 F false)) (
 f_narthexlaw14_awake_j3 F false)) (
 f_narthexlaw14_awake_j3 F false)) (
 f_narthexlaw14_awake_j3 F false)) (
 f_narthexlaw14_awake_j3 F false)) (
 f_narthexlaw14_awake_j3 F false)
theorem le_narthexlaw14_awake_j2 {F : Nat} {x1 : (Scene × Int)} : ∀ s, ole (f_narthexlaw14_awake_j2 F x1 s) (m_narthexlaw14_awake_j2 x1 s) := by
  intro x5
  unfold f_narthexlaw14_awake_j2 m_narthexlaw14_awake_j2
  try dsimp only
  with_reducible repeat' first | exact ole_refl _ | assumption | intro _ | refine ole_ifb ?_ ?_ | refine ole_bind ?_ ?_ | refine ole_map ?_ | refine ole_loop ?_ | apply le_narthexlaw14_awake_j3 | apply le_table_Start | apply le_table_Deliver | apply le_table_Count | apply le_table_Phases | apply le_table_Stop | apply le_table_Check | apply le_table_Same
def f_narthexlaw14_awake_j1 (F : Nat) (x1 : (Scene × Int)) : Bool → Option Bool
| x2 =>
 ifb x2 (
 some false) (
 (at_ x1.1.Diners 0).bind fun x3 =>
 (f_place_Side F x3 1).bind fun x4 =>
 ifb x4.1.Fork (
 (f_narthexlaw14_awake_j2 F x1) 1) (
 (f_narthexlaw14_awake_j2 F x1) 0))
theorem le_narthexlaw14_awake_j1 {F : Nat} {x1 : (Scene × Int)} : ∀ s, ole (f_narthexlaw14_awake_j1 F x1 s) (m_narthexlaw14_awake_j1 x1 s) := by
  intro x2
  unfold f_narthexlaw14_awake_j1 m_narthexlaw14_awake_j1
  try dsimp only
  with_reducible repeat' first | exact ole_refl _ | assumption | intro _ | refine ole_ifb ?_ ?_ | refine ole_bind ?_ ?_ | refine ole_map ?_ | refine ole_loop ?_ | apply le_narthexlaw14_awake_j3 | apply le_table_Start | apply le_table_Deliver | apply le_table_Count | apply le_table_Phases | apply le_table_Stop | apply le_table_Check | apply le_table_Same | apply le_narthexlaw14_awake_j2 | apply le_place_Side
def f_narthexlaw14_awake (F : Nat)  : Option Bool :=
 (f_table_New F ((Graph.mk 2 ([(Edge.mk 0 1)])))).bind fun x1 =>
 ifb (!decide (x1.2 = 0)) (
 (f_narthexlaw14_awake_j1 F x1) true) (
 (f_narthexlaw14_awake_j1 F x1) (!decide ((ln Diner.row x1.1.Diners) = 2)))
theorem le_narthexlaw14_awake {F : Nat} : ole (f_narthexlaw14_awake F) (m_narthexlaw14_awake) := by
  unfold f_narthexlaw14_awake m_narthexlaw14_awake
  with_reducible repeat' first | exact ole_refl _ | assumption | intro _ | refine ole_ifb ?_ ?_ | refine ole_bind ?_ ?_ | refine ole_map ?_ | refine ole_loop ?_ | apply le_narthexlaw14_awake_j3 | apply le_table_Start | apply le_table_Deliver | apply le_table_Count | apply le_table_Phases | apply le_table_Stop | apply le_table_Check | apply le_table_Same | apply le_narthexlaw14_awake_j2 | apply le_place_Side | apply le_narthexlaw14_awake_j1 | apply le_table_New
end NX
end Go.Proofs.Ytadebhbiglmodaa
/-
  The anchor of layer 14: its model answers true. No statement of the seat is proved here.
-/
namespace Go.Proofs.Ytadebhbiglmodaa
namespace NX
open Go
theorem s_awake14 : m_narthexlaw14_awake = some true := le_narthexlaw14_awake.h _ (by kernel_rfl : f_narthexlaw14_awake 50 = some true)
end NX
end Go.Proofs.Ytadebhbiglmodaa
/-
  The function narthex/narthexlaw14.own: its code compiled, a model, and that the code answers as the model. Written by a program of ours (lb.py). No statement of the seat is proved here.
-/
namespace Go.Proofs.Ytadebhbiglmodaa
namespace NX
open Go
set_option maxRecDepth 100000
set_option maxHeartbeats 4000000
def e45 : EC := .seq (.reg [⟨(some 1), none, .box 43 2 (.t 0)⟩, ⟨(some 2), none, .alloc 43 [.nl, .nl]⟩]) (.seq (.drw [⟨(some 3), none, .fld 0 (.t 1)⟩, ⟨(some 4), none, .load (.t 3)⟩, ⟨(some 5), none, .call 22 [(.t 4)]⟩, ⟨(some 6), none, .bsl 97 5 0 [.iv 0, .iv 0, .iv 0, .iv 0, .iv 0] []⟩, ⟨(some 7), none, .fld 1 (.t 1)⟩, ⟨(some 8), none, .load (.t 7)⟩, ⟨(some 9), none, .app 97 5 40 (.t 6) (.t 8)⟩, ⟨(some 10), none, .build [.nl, .nl] [(0, 1, (.t 5)), (1, 1, (.t 9))]⟩, ⟨none, none, .store 2 (.t 2) (.t 10)⟩] [[], [0], [1], [], [], [4], [3, 5, 2], [2, 6], [7, 6, 0, 1, 2, 3, 4, 5, 6, 7]] [[1], [0, 2], [1, 7], [6], [5], [4, 6], [3, 5, 7], [2, 6, 8], [7]]) (.ret))
theorem ok45 : FnOK Try.prog 45 Try.f45 e45 [.c 2 (some 2)] 1 10 := ⟨by kernel_rfl, ⟨_, rfl, by kernel_rfl⟩, by kernel_rfl, by kernel_rfl⟩
/- narthex/narthexlaw14.own -/
noncomputable def m_narthexlaw14_own_j1  : ((List Diner) × (List Mail)) → Option Scene
| (x5, x6) =>
 some (Scene.mk x5 x6)
noncomputable def m_narthexlaw14_own (x1 : Scene) : Option Scene :=
 (m_narthexlaw12_Own x1.Diners).bind fun x2 =>
 (app_ 40 (([] : List Mail)) x1.Mail).bind fun x4 =>
 m_narthexlaw14_own_j1 (x2, x4)
theorem k_narthexlaw14_own (x1 : Scene) (r : Scene) (h : m_narthexlaw14_own x1 = some r) : FunP Try.prog 45 [.agg (Scene.row x1)] (.agg (Scene.row r)) := by
  refine FunP_intro ok45 rfl rfl fun w0 H0 => ?_
  rw [m_narthexlaw14_own] at h
  refine V_go 6 ?_; dsimp only [e45, go_sem, Nat.reduceBEq, Nat.reduceAdd]; refine ⟨by simp, ?_⟩; refine V_join (fun ((x5, x6) : ((List Diner) × (List Mail))) => (⟨(.any :: .any :: .ptr 1 0 :: an 8 []), [none, some ⟨43, [.sl 3 (List.map Diner.row x5), .osl 1]⟩], [none, some ⟨97, 5, List.map Mail.row x6⟩]⟩ : St)) m_narthexlaw14_own_j1 r ?_ fun J1 => ?_
  ·rintro ⟨x5, x6⟩ h; rw [m_narthexlaw14_own_j1] at h; (try dsimp only); refine V_seal 1 rfl ?_; dsimp only [go_sem, Nat.reduceBEq, Nat.reduceAdd]; exact M_done (res := fun (r : Scene) => .agg (Scene.row r)) ok45 h
  ·refine V_drw (by kernel_rfl) fun all hall hs hnap haf => ?_; dsimp only [go_sem, Nat.reduceBEq, Nat.reduceAdd]; refine G_goN hall hs haf hnap 4 5 ?_; dsimp only [go_sem, Nat.reduceBEq, Nat.reduceAdd]; refine ⟨by simp, ?_⟩; obtain ⟨x2, ex2, h⟩ := Option.bind_eq_some_iff.1 h; refine G_two 2 3 rfl ?_ ?_
   ·refine GO_call hall rfl trivial (k_narthexlaw12_Own x1.Diners _ ex2) (h := ?_); dsimp only [go_sem, Nat.reduceBEq, Nat.reduceAdd]; refine G_one 3 rfl ?_; refine GO_ev hall rfl trivial ?_; dsimp only [go_sem, Nat.reduceBEq, Nat.reduceAdd]; refine G_one 6 rfl ?_; obtain ⟨x4, ex4, h⟩ := Option.bind_eq_some_iff.1 h; refine GO_appM Mail.row ex4 hall rfl trivial rfl rfl rfl ?_; dsimp only [go_sem, Nat.reduceBEq, Nat.reduceAdd]; refine G_goN hall hs haf hnap 1 1 ?_; dsimp only [go_sem, Nat.reduceBEq, Nat.reduceAdd]; refine ⟨by simp, ?_⟩; refine G_one 8 rfl ?_; refine GO_ev hall rfl trivial ?_
    dsimp only [go_sem, Nat.reduceBEq, Nat.reduceAdd]; refine G_done rfl ?_ _; exact M_to J1 (s := (x2, x4)) h
   ·refine GO_ev hall rfl trivial ?_; dsimp only [go_sem, Nat.reduceBEq, Nat.reduceAdd]; refine G_one 2 rfl ?_; refine GO_call hall rfl trivial (k_narthexlaw12_Own x1.Diners _ ex2) (h := ?_); dsimp only [go_sem, Nat.reduceBEq, Nat.reduceAdd]; refine G_one 6 rfl ?_; obtain ⟨x4, ex4, h⟩ := Option.bind_eq_some_iff.1 h; refine GO_appM Mail.row ex4 hall rfl trivial rfl rfl rfl ?_; dsimp only [go_sem, Nat.reduceBEq, Nat.reduceAdd]; refine G_goN hall hs haf hnap 1 1 ?_; dsimp only [go_sem, Nat.reduceBEq, Nat.reduceAdd]; refine ⟨by simp, ?_⟩; refine G_one 8 rfl ?_; refine GO_ev hall rfl trivial ?_
    dsimp only [go_sem, Nat.reduceBEq, Nat.reduceAdd]; refine G_done rfl ?_ _; exact M_to J1 (s := (x2, x4)) h
end NX
end Go.Proofs.Ytadebhbiglmodaa
/-
  The function narthex/narthexlaw14.act: its code compiled, a model, and that the code answers as the model. Written by a program of ours (lb.py). No statement of the seat is proved here.
-/
namespace Go.Proofs.Ytadebhbiglmodaa
namespace NX
open Go
set_option maxRecDepth 100000
set_option maxHeartbeats 4000000
def e46 : EC := .seq (.reg [⟨(some 2), none, .box 43 2 (.t 0)⟩, ⟨(some 3), none, .box 79 3 (.t 1)⟩, ⟨(some 4), none, .alloc 43 [.nl, .nl]⟩, ⟨(some 5), none, .mv (.c (.iv 0))⟩]) (.seq (.seq (.reg [⟨(some 6), none, .fld 0 (.t 3)⟩, ⟨(some 7), none, .load (.t 6)⟩]) (.blk 0 (.seq (.reg [⟨(some 9), none, .bin .eql (.t 7) (.c (.iv 0))⟩, ⟨(some 8), none, .mv (.t 9)⟩]) (.ite (.t 8) (.seq (.reg [⟨(some 10), none, .loadA 2 (.t 2)⟩, ⟨(some 11), none, .fld 1 (.t 3)⟩, ⟨(some 12), none, .load (.t 11)⟩, ⟨(some 13), none, .call 69 [(.t 10), (.t 12)]⟩, ⟨(some 14), none, .ext (.t 13) 0⟩, ⟨(some 15), none, .ext (.t 13) 1⟩, ⟨none, none, .store 2 (.t 4) (.t 14)⟩, ⟨(some 5), none, .mv (.t 15)⟩]) (.ret)) (.seq (.reg [⟨(some 17), none, .bin .eql (.t 7) (.c (.iv 1))⟩, ⟨(some 16), none, .mv (.t 17)⟩]) (.ite (.t 16) (.seq (.reg [⟨(some 18), none, .loadA 2 (.t 2)⟩, ⟨(some 19), none, .fld 1 (.t 3)⟩, ⟨(some 20), none, .load (.t 19)⟩, ⟨(some 21), none, .call 44 [(.t 18), (.t 20)]⟩, ⟨(some 22), none, .ext (.t 21) 0⟩, ⟨(some 23), none, .ext (.t 21) 1⟩, ⟨none, none, .store 2 (.t 4) (.t 22)⟩, ⟨(some 5), none, .mv (.t 23)⟩]) (.ret)) (.skip))))))) (.seq (.reg [⟨(some 24), none, .loadA 2 (.t 2)⟩, ⟨(some 25), none, .fld 1 (.t 3)⟩, ⟨(some 26), none, .load (.t 25)⟩, ⟨(some 27), none, .fld 2 (.t 3)⟩, ⟨(some 28), none, .load (.t 27)⟩, ⟨(some 29), none, .call 70 [(.t 24), (.t 26), (.t 28)]⟩, ⟨(some 30), none, .ext (.t 29) 0⟩, ⟨(some 31), none, .ext (.t 29) 1⟩, ⟨none, none, .store 2 (.t 4) (.t 30)⟩, ⟨(some 5), none, .mv (.t 31)⟩]) (.ret)))
theorem ok46 : FnOK Try.prog 46 Try.f46 e46 [.c 4 (some 2), .t 5] 2 30 := ⟨by kernel_rfl, ⟨_, rfl, by kernel_rfl⟩, by kernel_rfl, by kernel_rfl⟩
/- narthex/narthexlaw14.act -/
noncomputable def m_narthexlaw14_act (x1 : Scene) (x2 : narthexlaw14_Act) : Option (Scene × Int) :=
 ifb (decide (x2.K = 0)) (
 (m_table_Start x1 x2.A).bind fun x3 =>
 some (x3.1, x3.2)) (
 ifb (decide (x2.K = 1)) (
 (m_table_Stop x1 x2.A).bind fun x4 =>
 some (x4.1, x4.2)) (
 (m_table_Deliver x1 x2.A x2.B).bind fun x5 =>
 some (x5.1, x5.2)))
theorem k_narthexlaw14_act (x1 : Scene) (x2 : narthexlaw14_Act) (r : (Scene × Int)) (h : m_narthexlaw14_act x1 x2 = some r) : FunP Try.prog 46 [.agg (Scene.row x1), .agg (narthexlaw14_Act.row x2)] (.tup [.agg (Scene.row r.1), .iv r.2]) := by
  refine FunP_intro ok46 rfl rfl fun w0 H0 => ?_
  rw [m_narthexlaw14_act] at h
  refine V_go 19 ?_; dsimp only [e46, go_sem, Nat.reduceBEq, Nat.reduceAdd]; refine ⟨by simp, ?_⟩; refine M_ite h rfl (fun _ h => ?_) fun _ h => ?_
  ·refine V_go 5 ?_; dsimp only [e46, go_sem, Nat.reduceBEq, Nat.reduceAdd]; refine ⟨by simp, ?_⟩; obtain ⟨x3, ex3, h⟩ := Option.bind_eq_some_iff.1 h; refine V_call trivial (k_table_Start x1 x2.A _ ex3) (h := ?_); refine V_go 5 ?_; dsimp only [e46, go_sem, Nat.reduceBEq, Nat.reduceAdd]; refine ⟨by simp, ?_⟩; exact M_done (res := fun (r : (Scene × Int)) => .tup [.agg (Scene.row r.1), .iv r.2]) ok46 h
  ·refine V_go 5 ?_; dsimp only [e46, go_sem, Nat.reduceBEq, Nat.reduceAdd]; refine ⟨by simp, ?_⟩; refine M_ite h rfl (fun _ h => ?_) fun _ h => ?_
   ·refine V_go 5 ?_; dsimp only [e46, go_sem, Nat.reduceBEq, Nat.reduceAdd]; refine ⟨by simp, ?_⟩; obtain ⟨x4, ex4, h⟩ := Option.bind_eq_some_iff.1 h; refine V_call trivial (k_table_Stop x1 x2.A _ ex4) (h := ?_); refine V_go 5 ?_; dsimp only [e46, go_sem, Nat.reduceBEq, Nat.reduceAdd]; refine ⟨by simp, ?_⟩; exact M_done (res := fun (r : (Scene × Int)) => .tup [.agg (Scene.row r.1), .iv r.2]) ok46 h
   ·refine V_go 9 ?_; dsimp only [e46, go_sem, Nat.reduceBEq, Nat.reduceAdd]; refine ⟨by simp, ?_⟩; obtain ⟨x5, ex5, h⟩ := Option.bind_eq_some_iff.1 h; refine V_call trivial (k_table_Deliver x1 x2.A x2.B _ ex5) (h := ?_); refine V_go 5 ?_; dsimp only [e46, go_sem, Nat.reduceBEq, Nat.reduceAdd]; refine ⟨by simp, ?_⟩; exact M_done (res := fun (r : (Scene × Int)) => .tup [.agg (Scene.row r.1), .iv r.2]) ok46 h
end NX
end Go.Proofs.Ytadebhbiglmodaa
/-
  The function narthex/narthexref13.SameMail: its code compiled, a model, and that the code answers as the model. Written by a program of ours (lb.py). No statement of the seat is proved here.
-/
namespace Go.Proofs.Ytadebhbiglmodaa
namespace NX
open Go
set_option maxRecDepth 100000
set_option maxHeartbeats 4000000
def e78_L0 : EC := .seq (.seq (.reg [⟨(some 11), none, .mv (.t 5)⟩, ⟨(some 12), none, .mv (.t 0)⟩, ⟨(some 13), none, .len (.t 12)⟩, ⟨(some 14), none, .bin .lss (.t 11) (.t 13)⟩]) (.ite (.t 14) (.skip) (.exit 0))) (.seq (.blk 1 (.seq (.drw [⟨(some 17), none, .mv (.t 0)⟩, ⟨(some 18), none, .mv (.t 5)⟩, ⟨(some 19), none, .idx 5 (.t 17) (.t 18)⟩, ⟨(some 20), none, .loadA 5 (.t 19)⟩, ⟨(some 21), none, .mv (.t 1)⟩, ⟨(some 22), none, .mv (.t 5)⟩, ⟨(some 23), none, .idx 5 (.t 21) (.t 22)⟩, ⟨(some 24), none, .loadA 5 (.t 23)⟩, ⟨(some 25), none, .eqs true [true, true, true, true, true] (.t 20) (.t 24)⟩] [[], [], [0, 1], [2], [], [], [4, 5], [6], [3, 7]] [[2], [2], [0, 1, 3], [2, 8], [6], [6], [4, 5, 7], [6, 8], [3, 7]]) (.ite (.t 25) (.seq (.reg [⟨(some 4), none, .mv (.c .ff)⟩]) (.ret)) (.skip)))) (.reg [⟨(some 15), none, .mv (.t 5)⟩, ⟨(some 16), none, .bin .add (.t 15) (.c (.iv 1))⟩, ⟨(some 5), none, .mv (.t 16)⟩]))
def e78 : EC := .seq (.reg [⟨(some 4), none, .mv (.c .ff)⟩]) (.seq (.seq (.reg [⟨(some 6), none, .mv (.t 0)⟩, ⟨(some 7), none, .len (.t 6)⟩, ⟨(some 8), none, .mv (.t 1)⟩, ⟨(some 9), none, .len (.t 8)⟩, ⟨(some 10), none, .bin .neq (.t 7) (.t 9)⟩]) (.ite (.t 10) (.seq (.reg [⟨(some 4), none, .mv (.c .ff)⟩]) (.ret)) (.skip))) (.seq (.seq (.reg [⟨(some 5), none, .mv (.c (.iv 0))⟩]) (.blk 0 (.loop e78_L0))) (.seq (.reg [⟨(some 4), none, .mv (.c .tt)⟩]) (.ret))))
theorem ok78 : FnOK Try.prog 78 Try.f78 e78 [.t 4] 2 24 := ⟨by kernel_rfl, ⟨_, rfl, by kernel_rfl⟩, by kernel_rfl, by kernel_rfl⟩
/- narthex/narthexref13.SameMail -/
noncomputable def m_narthexref13_SameMail_j1  : Unit → Option Bool
| () =>
 some true
noncomputable def m_narthexref13_SameMail_l1 (x1 : (List Mail)) (x2 : (List Mail)) : Int → Option (Int ⊕ Bool)
| x6 =>
 ifb (decide (x6 < (ln Mail.row x1))) (
 (at_ x1 x6).bind fun x7 =>
 (at_ x2 x6).bind fun x8 =>
 ifb (!(decide (x7.From = x8.From) && (decide (x7.To = x8.To) && (decide (x7.Msg.Kind = x8.Msg.Kind) && (decide (x7.Msg.Epoch = x8.Msg.Epoch) && (decide (x7.Msg.Num = x8.Msg.Num) && true)))))) (
 Option.map Sum.inr (some false)) (
 some (.inl (wr (x6 + 1))))) (
 Option.map Sum.inr (m_narthexref13_SameMail_j1 ()))
noncomputable def m_narthexref13_SameMail (x1 : (List Mail)) (x2 : (List Mail)) : Option Bool :=
 ifb (!decide ((ln Mail.row x1) = (ln Mail.row x2))) (
 some false) (
 loop (m_narthexref13_SameMail_l1 x1 x2) 0)
theorem k_narthexref13_SameMail (x1 : (List Mail)) (x2 : (List Mail)) (r : Bool) (h : m_narthexref13_SameMail x1 x2 = some r) : FunP Try.prog 78 [.sl 5 (List.map Mail.row x1), .sl 5 (List.map Mail.row x2)] (.bv r) := by
  refine FunP_intro ok78 rfl rfl fun w0 H0 => ?_
  rw [m_narthexref13_SameMail] at h
  refine V_go 13 ?_; dsimp only [e78, e78_L0, go_sem, Nat.reduceBEq, Nat.reduceAdd]; refine ⟨by simp, ?_⟩; refine M_ite h rfl (fun _ h => ?_) fun _ h => ?_
  ·refine V_go 4 ?_; dsimp only [e78, e78_L0, go_sem, Nat.reduceBEq, Nat.reduceAdd]; refine ⟨by simp, ?_⟩; exact M_done (res := fun (r : Bool) => .bv r) ok78 h
  ·refine V_go 6 ?_; dsimp only [e78, e78_L0, go_sem, Nat.reduceBEq, Nat.reduceAdd]; refine ⟨by simp, ?_⟩; refine V_join (fun (_ : Unit) => (⟨(an 26 []), [], []⟩ : St)) m_narthexref13_SameMail_j1 r ?_ fun J1 => ?_
   ·rintro ⟨⟩ h; rw [m_narthexref13_SameMail_j1] at h; (try dsimp only); refine V_go 4 ?_; dsimp only [e78, e78_L0, go_sem, Nat.reduceBEq, Nat.reduceAdd]; refine ⟨by simp, ?_⟩; exact M_done (res := fun (r : Bool) => .bv r) ok78 h
   ·refine V_go 1 ?_; dsimp only [e78, e78_L0, go_sem, Nat.reduceBEq, Nat.reduceAdd]; refine ⟨by simp, ?_⟩; refine M_loop h (fun (x6 : Int) => (⟨(.sl 5 (List.map Mail.row x1) :: .sl 5 (List.map Mail.row x2) :: an 3 (.iv x6 :: an 20 [])), [], []⟩ : St)) (by simp [go_sem]) (by intro x6; first | rfl | simp [go_sem]) ?_; rintro n1 x6 y1 h hin1 hout1; rw [m_narthexref13_SameMail_l1] at h; (try dsimp only); refine V_go 8 ?_; dsimp only [e78, e78_L0, go_sem, Nat.reduceBEq, Nat.reduceAdd]; refine ⟨by simp, ?_⟩; refine M_ite h rfl (fun _ h => ?_) fun _ h => ?_
    ·refine V_go 4 ?_; dsimp only [e78, e78_L0, go_sem, Nat.reduceBEq, Nat.reduceAdd]; refine ⟨by simp, ?_⟩; refine V_drw (by kernel_rfl) fun all hall hs hnap haf => ?_; dsimp only [go_sem, Nat.reduceBEq, Nat.reduceAdd]; refine G_goN hall hs haf hnap 4 5 ?_; dsimp only [go_sem, Nat.reduceBEq, Nat.reduceAdd]; refine ⟨by simp, ?_⟩; obtain ⟨x7, ex7, h⟩ := Option.bind_eq_some_iff.1 h; refine G_idxM hall hs haf hnap 2 Mail.row ex7 rfl rfl trivial rfl rfl rfl rfl ?_; refine G_goN hall hs haf hnap 1 3 ?_; dsimp only [go_sem, Nat.reduceBEq, Nat.reduceAdd]; refine ⟨by simp, ?_⟩
     obtain ⟨x8, ex8, h⟩ := Option.bind_eq_some_iff.1 h; refine G_idxM hall hs haf hnap 6 Mail.row ex8 rfl rfl trivial rfl rfl rfl rfl ?_; refine G_goN hall hs haf hnap 2 0 ?_; dsimp only [go_sem, Nat.reduceBEq, Nat.reduceAdd]; refine ⟨by simp, ?_⟩; refine G_done rfl ?_ _; refine M_ite h rfl (fun _ h => ?_) fun _ h => ?_
     ·refine V_go 4 ?_; dsimp only [e78, e78_L0, go_sem, Nat.reduceBEq, Nat.reduceAdd]; refine ⟨by simp, ?_⟩; exact M_done (res := fun (r : Bool) => .bv r) ok78 (M_out h hout1)
     ·refine V_go 7 ?_; dsimp only [e78, e78_L0, go_sem, Nat.reduceBEq, Nat.reduceAdd]; refine ⟨by simp, ?_⟩; exact M_back h hin1
    ·refine V_go 1 ?_; dsimp only [e78, e78_L0, go_sem, Nat.reduceBEq, Nat.reduceAdd]; refine ⟨by simp, ?_⟩; exact M_to J1 (s := ()) (M_out h hout1)
end NX
end Go.Proofs.Ytadebhbiglmodaa
/-
  The function narthex/narthexref14.Same: its code compiled, a model, and that the code answers as the model. Written by a program of ours (lb.py). No statement of the seat is proved here.
-/
namespace Go.Proofs.Ytadebhbiglmodaa
namespace NX
open Go
set_option maxRecDepth 100000
set_option maxHeartbeats 4000000
def e47 : EC := .seq (.reg [⟨(some 2), none, .box 43 2 (.t 0)⟩, ⟨(some 3), none, .box 43 2 (.t 1)⟩, ⟨(some 4), none, .mv (.c .ff)⟩]) (.seq (.reg [⟨(some 5), none, .fld 0 (.t 2)⟩, ⟨(some 6), none, .load (.t 5)⟩, ⟨(some 7), none, .fld 0 (.t 3)⟩, ⟨(some 8), none, .load (.t 7)⟩, ⟨(some 9), none, .call 18 [(.t 6), (.t 8)]⟩, ⟨(some 10), none, .mv (.t 9)⟩, ⟨(some 11), (some (10, true)), .fld 1 (.t 2)⟩, ⟨(some 12), (some (10, true)), .load (.t 11)⟩, ⟨(some 13), (some (10, true)), .fld 1 (.t 3)⟩, ⟨(some 14), (some (10, true)), .load (.t 13)⟩, ⟨(some 15), (some (10, true)), .call 78 [(.t 12), (.t 14)]⟩, ⟨(some 16), none, .pick (.t 10) (.t 15) (.c .ff)⟩, ⟨(some 4), none, .mv (.t 16)⟩]) (.ret))
theorem ok47 : FnOK Try.prog 47 Try.f47 e47 [.t 4] 2 15 := ⟨by kernel_rfl, ⟨_, rfl, by kernel_rfl⟩, by kernel_rfl, by kernel_rfl⟩
/- narthex/narthexref14.Same -/
noncomputable def m_narthexref14_Same_j1  : Bool → Option Bool
| x5 =>
 some x5
noncomputable def m_narthexref14_Same (x1 : Scene) (x2 : Scene) : Option Bool :=
 (m_narthexref12_Same x1.Diners x2.Diners).bind fun x3 =>
 ifb x3 (
 (m_narthexref13_SameMail x1.Mail x2.Mail).bind fun x4 =>
 m_narthexref14_Same_j1 x4) (
 m_narthexref14_Same_j1 false)
theorem k_narthexref14_Same (x1 : Scene) (x2 : Scene) (r : Bool) (h : m_narthexref14_Same x1 x2 = some r) : FunP Try.prog 47 [.agg (Scene.row x1), .agg (Scene.row x2)] (.bv r) := by
  refine FunP_intro ok47 rfl rfl fun w0 H0 => ?_
  rw [m_narthexref14_Same] at h
  refine V_go 12 ?_; dsimp only [e47, go_sem, Nat.reduceBEq, Nat.reduceAdd]; refine ⟨by simp, ?_⟩; obtain ⟨x3, ex3, h⟩ := Option.bind_eq_some_iff.1 h; refine V_call trivial (k_narthexref12_Same x1.Diners x2.Diners _ ex3) (h := ?_); refine V_go 1 ?_; dsimp only [e47, go_sem, Nat.reduceBEq, Nat.reduceAdd]; refine ⟨by simp, ?_⟩; refine V_join (fun (x5 : Bool) => (⟨(an 4 (.bv x5 :: an 12 [])), [], []⟩ : St)) m_narthexref14_Same_j1 r ?_ fun J1 => ?_
  ·intro x5 h; rw [m_narthexref14_Same_j1] at h; (try dsimp only); exact M_done (res := fun (r : Bool) => .bv r) ok47 h
  ·refine M_case 10 h rfl (fun _ h => ?_) fun _ h => ?_
   ·dsimp only [go_sem, Nat.reduceBEq, Nat.reduceAdd]; refine V_go 4 ?_; dsimp only [e47, go_sem, Nat.reduceBEq, Nat.reduceAdd]; refine ⟨by simp, ?_⟩; obtain ⟨x4, ex4, h⟩ := Option.bind_eq_some_iff.1 h; refine V_call trivial (k_narthexref13_SameMail x1.Mail x2.Mail _ ex4) (h := ?_); refine V_go 3 ?_; dsimp only [e47, go_sem, Nat.reduceBEq, Nat.reduceAdd]; refine ⟨by simp, ?_⟩; exact M_to J1 (s := x4) h
   ·dsimp only [go_sem, Nat.reduceBEq, Nat.reduceAdd]; refine V_go 8 ?_; dsimp only [e47, go_sem, Nat.reduceBEq, Nat.reduceAdd]; refine ⟨by simp, ?_⟩; exact M_to J1 (s := false) h
end NX
end Go.Proofs.Ytadebhbiglmodaa
/-
  The function narthex/narthexlaw14.TableOthers: its code compiled, a model, and that the code answers as the model. Written by a program of ours (lb.py). No statement of the seat is proved here.
-/
namespace Go.Proofs.Ytadebhbiglmodaa
namespace NX
open Go
set_option maxRecDepth 100000
set_option maxHeartbeats 4000000
def e12_L0 : EC := .seq (.seq (.reg [⟨(some 41), none, .mv (.t 8)⟩, ⟨(some 42), none, .fld 0 (.t 2)⟩, ⟨(some 43), none, .load (.t 42)⟩, ⟨(some 44), none, .len (.t 43)⟩, ⟨(some 45), none, .bin .lss (.t 41) (.t 44)⟩]) (.ite (.t 45) (.skip) (.exit 0))) (.seq (.blk 1 (.seq (.drw [⟨(some 48), none, .mv (.t 8)⟩, ⟨(some 49), none, .mv (.t 7)⟩, ⟨(some 50), none, .bin .neq (.t 48) (.t 49)⟩, ⟨(some 51), none, .mv (.t 50)⟩, ⟨(some 52), (some (51, true)), .mv (.t 8)⟩, ⟨(some 53), (some (51, true)), .fld 0 (.t 5)⟩, ⟨(some 54), (some (51, true)), .load (.t 53)⟩, ⟨(some 55), (some (51, true)), .len (.t 54)⟩, ⟨(some 56), (some (51, true)), .bin .geq (.t 52) (.t 55)⟩, ⟨(some 57), (some (51, true)), .mv (.t 56)⟩, ⟨(some 58), (some (57, false)), .fld 0 (.t 2)⟩, ⟨(some 59), (some (57, false)), .load (.t 58)⟩, ⟨(some 60), (some (57, false)), .mv (.t 8)⟩, ⟨(some 61), (some (57, false)), .idx 3 (.t 59) (.t 60)⟩, ⟨(some 62), (some (57, false)), .loadA 3 (.t 61)⟩, ⟨(some 63), (some (57, false)), .fld 0 (.t 5)⟩, ⟨(some 64), (some (57, false)), .load (.t 63)⟩, ⟨(some 65), (some (57, false)), .mv (.t 8)⟩, ⟨(some 66), (some (57, false)), .idx 3 (.t 64) (.t 65)⟩, ⟨(some 67), (some (57, false)), .loadA 3 (.t 66)⟩, ⟨(some 68), (some (57, false)), .call 48 [(.t 62), (.t 67)]⟩, ⟨(some 69), (some (57, false)), .not (.t 68)⟩, ⟨(some 70), (some (51, true)), .pick (.t 57) (.c .tt) (.t 69)⟩, ⟨(some 71), none, .pick (.t 51) (.t 70) (.c .ff)⟩] [[], [], [0, 1], [2], [3], [3], [5, 3], [6, 3], [4, 7, 3], [8, 3, 3], [9], [10, 9], [9], [11, 12, 9], [13, 9], [9], [15, 9], [9], [16, 17, 9], [18, 9], [14, 19, 9, 9], [20, 9], [9, 21, 3], [3, 22]] [[2], [2], [0, 1, 3], [2, 4, 5, 6, 7, 8, 9, 22, 23], [3, 8], [3, 6], [3, 5, 7], [3, 6, 8], [3, 4, 7, 9], [3, 8, 10, 11, 12, 13, 14, 15, 16, 17, 18, 19, 20, 21, 22], [9, 11], [9, 10, 13], [9, 13], [9, 11, 12, 14], [9, 13, 20], [9, 16], [9, 15, 18], [9, 18], [9, 16, 17, 19], [9, 18, 20], [9, 14, 19, 21], [9, 20, 22], [3, 9, 21, 23], [3, 22]]) (.ite (.t 71) (.seq (.reg [⟨(some 4), none, .mv (.c .ff)⟩]) (.ret)) (.skip)))) (.reg [⟨(some 46), none, .mv (.t 8)⟩, ⟨(some 47), none, .bin .add (.t 46) (.c (.iv 1))⟩, ⟨(some 8), none, .mv (.t 47)⟩]))
def e12 : EC := .seq (.reg [⟨(some 2), none, .box 43 2 (.t 0)⟩, ⟨(some 3), none, .box 79 3 (.t 1)⟩, ⟨(some 4), none, .mv (.c .ff)⟩]) (.seq (.seq (.reg [⟨(some 9), none, .call 35 []⟩, ⟨(some 10), none, .not (.t 9)⟩, ⟨(some 11), none, .mv (.t 10)⟩, ⟨(some 12), (some (11, false)), .loadA 2 (.t 2)⟩, ⟨(some 13), (some (11, false)), .call 20 [(.t 12)]⟩, ⟨(some 14), (some (11, false)), .not (.t 13)⟩, ⟨(some 15), none, .pick (.t 11) (.c .tt) (.t 14)⟩]) (.ite (.t 15) (.seq (.reg [⟨(some 16), none, .call 35 []⟩, ⟨(some 4), none, .mv (.t 16)⟩]) (.ret)) (.skip))) (.seq (.reg [⟨(some 17), none, .fld 0 (.t 3)⟩, ⟨(some 18), none, .load (.t 17)⟩, ⟨(some 19), none, .mm true [(.t 18), (.c (.iv 0))]⟩, ⟨(some 20), none, .mm false [(.t 19), (.c (.iv 2))]⟩, ⟨(some 21), none, .fld 0 (.t 3)⟩, ⟨none, none, .store 1 (.t 21) (.t 20)⟩]) (.seq (.drw [⟨(some 23), none, .loadA 2 (.t 2)⟩, ⟨(some 24), none, .call 45 [(.t 23)]⟩, ⟨(some 25), none, .loadA 3 (.t 3)⟩, ⟨(some 26), none, .call 46 [(.t 24), (.t 25)]⟩, ⟨(some 22), none, .mv (.t 26)⟩, ⟨(some 27), none, .ext (.t 22) 0⟩, ⟨(some 28), none, .ext (.t 22) 1⟩, ⟨(some 5), none, .alloc 43 [.nl, .nl]⟩, ⟨none, none, .store 2 (.t 5) (.t 27)⟩, ⟨(some 6), none, .mv (.t 28)⟩] [[], [0], [], [1, 2, 1], [3], [4], [4], [], [7, 5, 3, 0, 1, 2, 3, 4, 5, 7], [6, 8, 0, 1, 2, 3, 4, 5, 6, 7, 8]] [[1], [0, 3], [3], [1, 2, 4], [3, 5, 6], [4, 8], [4, 9], [8], [5, 7], [6]]) (.seq (.seq (.reg [⟨(some 29), none, .mv (.t 6)⟩, ⟨(some 30), none, .bin .neq (.t 29) (.c (.iv 0))⟩]) (.ite (.t 30) (.seq (.reg [⟨(some 31), none, .loadA 2 (.t 5)⟩, ⟨(some 32), none, .build [.nl, .nl] []⟩, ⟨(some 33), none, .call 47 [(.t 31), (.t 32)]⟩, ⟨(some 4), none, .mv (.t 33)⟩]) (.ret)) (.skip))) (.seq (.reg [⟨(some 34), none, .fld 1 (.t 3)⟩, ⟨(some 35), none, .load (.t 34)⟩, ⟨(some 7), none, .mv (.t 35)⟩]) (.seq (.seq (.reg [⟨(some 36), none, .fld 0 (.t 3)⟩, ⟨(some 37), none, .load (.t 36)⟩, ⟨(some 38), none, .bin .eql (.t 37) (.c (.iv 2))⟩]) (.ite (.t 38) (.reg [⟨(some 39), none, .fld 2 (.t 3)⟩, ⟨(some 40), none, .load (.t 39)⟩, ⟨(some 7), none, .mv (.t 40)⟩]) (.skip))) (.seq (.seq (.reg [⟨(some 8), none, .mv (.c (.iv 0))⟩]) (.blk 0 (.loop e12_L0))) (.seq (.reg [⟨(some 72), none, .fld 0 (.t 5)⟩, ⟨(some 73), none, .load (.t 72)⟩, ⟨(some 74), none, .len (.t 73)⟩, ⟨(some 75), none, .fld 0 (.t 2)⟩, ⟨(some 76), none, .load (.t 75)⟩, ⟨(some 77), none, .len (.t 76)⟩, ⟨(some 78), none, .bin .eql (.t 74) (.t 77)⟩, ⟨(some 4), none, .mv (.t 78)⟩]) (.ret)))))))))
theorem ok12 : FnOK Try.prog 12 Try.f12 e12 [.t 4] 2 77 := ⟨by kernel_rfl, ⟨_, rfl, by kernel_rfl⟩, by kernel_rfl, by kernel_rfl⟩
/- narthex/narthexlaw14.TableOthers -/
noncomputable def m_narthexlaw14_TableOthers_j4 (x1 : Scene) (x12 : Scene) : Unit → Option Bool
| () =>
 some (decide ((ln Diner.row x12.Diners) = (ln Diner.row x1.Diners)))
noncomputable def m_narthexlaw14_TableOthers_j5 (x20 : Int) : Bool → Option (Int ⊕ Bool)
| x24 =>
 ifb x24 (
 Option.map Sum.inr (some false)) (
 some (.inl (wr (x20 + 1))))
noncomputable def m_narthexlaw14_TableOthers_l1 (x1 : Scene) (x12 : Scene) (x14 : Int) : Int → Option (Int ⊕ Bool)
| x20 =>
 ifb (decide (x20 < (ln Diner.row x1.Diners))) (
 ifb (!decide (x20 = x14)) (
 ifb (decide ((ln Diner.row x12.Diners) ≤ x20)) (
 (m_narthexlaw14_TableOthers_j5 x20) true) (
 (at_ x1.Diners x20).bind fun x21 =>
 (at_ x12.Diners x20).bind fun x22 =>
 (m_narthexref12_SameOne x21 x22).bind fun x23 =>
 (m_narthexlaw14_TableOthers_j5 x20) (!x23))) (
 (m_narthexlaw14_TableOthers_j5 x20) false)) (
 Option.map Sum.inr ((m_narthexlaw14_TableOthers_j4 x1 x12) ()))
noncomputable def m_narthexlaw14_TableOthers_j3 (x1 : Scene) (x12 : Scene) : Int → Option Bool
| x14 =>
 loop (m_narthexlaw14_TableOthers_l1 x1 x12 x14) 0
noncomputable def m_narthexlaw14_TableOthers_j2 (x1 : Scene) (x2 : narthexlaw14_Act) : (Int × Scene) → Option Bool
| (x11, x12) =>
 ifb (!decide (x11 = 0)) (
 (m_narthexref14_Same x12 ((Scene.mk (([] : (List Diner))) (([] : (List Mail)))))).bind fun x13 =>
 some x13) (
 ifb (decide (((min ((max x2.K 0)) 2)) = 2)) (
 (m_narthexlaw14_TableOthers_j3 x1 x12) x2.B) (
 (m_narthexlaw14_TableOthers_j3 x1 x12) x2.A))
noncomputable def m_narthexlaw14_TableOthers_j1 (x1 : Scene) (x2 : narthexlaw14_Act) : Bool → Option Bool
| x5 =>
 ifb x5 (
 (m_narthexlaw14_awake).bind fun x6 =>
 some x6) (
 (m_narthexlaw14_own x1).bind fun x7 =>
 (m_narthexlaw14_act x7 ((narthexlaw14_Act.mk ((min ((max x2.K 0)) 2)) x2.A x2.B))).bind fun x9 =>
 (m_narthexlaw14_TableOthers_j2 x1 x2) (x9.2, x9.1))
noncomputable def m_narthexlaw14_TableOthers (x1 : Scene) (x2 : narthexlaw14_Act) : Option Bool :=
 (m_narthexlaw14_awake).bind fun x3 =>
 ifb (!x3) (
 (m_narthexlaw14_TableOthers_j1 x1 x2) true) (
 (m_narthexref12_Few x1).bind fun x4 =>
 (m_narthexlaw14_TableOthers_j1 x1 x2) (!x4))
theorem k_narthexlaw14_TableOthers (x1 : Scene) (x2 : narthexlaw14_Act) (r : Bool) (h : m_narthexlaw14_TableOthers x1 x2 = some r) : FunP Try.prog 12 [.agg (Scene.row x1), .agg (narthexlaw14_Act.row x2)] (.bv r) := by
  refine FunP_intro ok12 rfl rfl fun w0 H0 => ?_
  rw [m_narthexlaw14_TableOthers] at h
  refine V_go 9 ?_; dsimp only [e12, e12_L0, go_sem, Nat.reduceBEq, Nat.reduceAdd]; refine ⟨by simp, ?_⟩; obtain ⟨x3, ex3, h⟩ := Option.bind_eq_some_iff.1 h; refine V_call trivial (k_narthexlaw14_awake _ ex3) (h := ?_); refine V_go 2 ?_; dsimp only [e12, e12_L0, go_sem, Nat.reduceBEq, Nat.reduceAdd]; refine ⟨by simp, ?_⟩
  refine V_join (fun (x5 : Bool) => (⟨(.any :: .any :: .ptr 0 0 :: .ptr 1 0 :: an 11 (.bv x5 :: an 63 [])), [some ⟨43, [.sl 3 (List.map Diner.row x1.Diners), .sl 5 (List.map Mail.row x1.Mail)]⟩, some ⟨79, [.iv x2.K, .iv x2.A, .iv x2.B]⟩], []⟩ : St)) (m_narthexlaw14_TableOthers_j1 x1 x2) r ?_ fun J1 => ?_
  ·intro x5 h; rw [m_narthexlaw14_TableOthers_j1] at h; (try dsimp only); refine M_ite h rfl (fun _ h => ?_) fun _ h => ?_
   ·refine V_go 2 ?_; dsimp only [e12, e12_L0, go_sem, Nat.reduceBEq, Nat.reduceAdd]; refine ⟨by simp, ?_⟩; obtain ⟨x6, ex6, h⟩ := Option.bind_eq_some_iff.1 h; refine V_call trivial (k_narthexlaw14_awake _ ex6) (h := ?_); refine V_go 2 ?_; dsimp only [e12, e12_L0, go_sem, Nat.reduceBEq, Nat.reduceAdd]; refine ⟨by simp, ?_⟩; exact M_done (res := fun (r : Bool) => .bv r) ok12 h
   ·refine V_go 11 ?_; dsimp only [e12, e12_L0, go_sem, Nat.reduceBEq, Nat.reduceAdd]; refine ⟨by simp, ?_⟩; refine V_join (fun ((x11, x12) : (Int × Scene)) => (⟨(.any :: .any :: .ptr 0 0 :: .ptr 1 0 :: .any :: .ptr 2 0 :: .iv x11 :: an 72 []), [some ⟨43, [.sl 3 (List.map Diner.row x1.Diners), .sl 5 (List.map Mail.row x1.Mail)]⟩, some ⟨79, [.iv ((min ((max x2.K 0)) 2)), .iv x2.A, .iv x2.B]⟩, some ⟨43, [.sl 3 (List.map Diner.row x12.Diners), .sl 5 (List.map Mail.row x12.Mail)]⟩], []⟩ : St)) (m_narthexlaw14_TableOthers_j2 x1 x2) r ?_ fun J2 => ?_
    ·rintro ⟨x11, x12⟩ h; rw [m_narthexlaw14_TableOthers_j2] at h; (try dsimp only); refine V_go 6 ?_; dsimp only [e12, e12_L0, go_sem, Nat.reduceBEq, Nat.reduceAdd]; refine ⟨by simp, ?_⟩; refine M_ite h rfl (fun _ h => ?_) fun _ h => ?_
     ·refine V_go 4 ?_; dsimp only [e12, e12_L0, go_sem, Nat.reduceBEq, Nat.reduceAdd]; refine ⟨by simp, ?_⟩; obtain ⟨x13, ex13, h⟩ := Option.bind_eq_some_iff.1 h; refine V_call trivial (k_narthexref14_Same x12 ((Scene.mk (([] : (List Diner))) (([] : (List Mail))))) _ ex13) (h := ?_); refine V_go 2 ?_; dsimp only [e12, e12_L0, go_sem, Nat.reduceBEq, Nat.reduceAdd]; refine ⟨by simp, ?_⟩; exact M_done (res := fun (r : Bool) => .bv r) ok12 h
     ·refine V_go 14 ?_; dsimp only [e12, e12_L0, go_sem, Nat.reduceBEq, Nat.reduceAdd]; refine ⟨by simp, ?_⟩; refine V_join (fun (x14 : Int) => (⟨(.any :: .any :: .ptr 0 0 :: .any :: .any :: .ptr 2 0 :: .any :: .iv x14 :: an 71 []), [some ⟨43, [.sl 3 (List.map Diner.row x1.Diners), .sl 5 (List.map Mail.row x1.Mail)]⟩, none, some ⟨43, [.sl 3 (List.map Diner.row x12.Diners), .sl 5 (List.map Mail.row x12.Mail)]⟩], []⟩ : St)) (m_narthexlaw14_TableOthers_j3 x1 x12) r ?_ fun J3 => ?_
      ·intro x14 h; rw [m_narthexlaw14_TableOthers_j3] at h; (try dsimp only); refine V_go 5 ?_; dsimp only [e12, e12_L0, go_sem, Nat.reduceBEq, Nat.reduceAdd]; refine ⟨by simp, ?_⟩; refine V_join (fun (_ : Unit) => (⟨(.any :: .any :: .ptr 0 0 :: .any :: .any :: .ptr 2 0 :: an 73 []), [some ⟨43, [.sl 3 (List.map Diner.row x1.Diners), .sl 5 (List.map Mail.row x1.Mail)]⟩, none, some ⟨43, [.sl 3 (List.map Diner.row x12.Diners), .sl 5 (List.map Mail.row x12.Mail)]⟩], []⟩ : St)) (m_narthexlaw14_TableOthers_j4 x1 x12) r ?_ fun J4 => ?_
       ·rintro ⟨⟩ h; rw [m_narthexlaw14_TableOthers_j4] at h; (try dsimp only); refine V_go 11 ?_; dsimp only [e12, e12_L0, go_sem, Nat.reduceBEq, Nat.reduceAdd]; refine ⟨by simp, ?_⟩; exact M_done (res := fun (r : Bool) => .bv r) ok12 h
       ·refine V_go 1 ?_; dsimp only [e12, e12_L0, go_sem, Nat.reduceBEq, Nat.reduceAdd]; refine ⟨by simp, ?_⟩; refine M_loop h (fun (x20 : Int) => (⟨(.any :: .any :: .ptr 0 0 :: .any :: .any :: .ptr 2 0 :: .any :: .iv x14 :: .iv x20 :: an 70 []), [some ⟨43, [.sl 3 (List.map Diner.row x1.Diners), .sl 5 (List.map Mail.row x1.Mail)]⟩, none, some ⟨43, [.sl 3 (List.map Diner.row x12.Diners), .sl 5 (List.map Mail.row x12.Mail)]⟩], []⟩ : St)) (by simp [go_sem]) (by intro x20; first | rfl | simp [go_sem]) ?_; rintro n1 x20 y1 h hin1 hout1; rw [m_narthexlaw14_TableOthers_l1] at h; (try dsimp only)
        refine V_go 9 ?_; dsimp only [e12, e12_L0, go_sem, Nat.reduceBEq, Nat.reduceAdd]; refine ⟨by simp, ?_⟩; refine M_ite h rfl (fun _ h => ?_) fun _ h => ?_
        ·refine V_go 4 ?_; dsimp only [e12, e12_L0, go_sem, Nat.reduceBEq, Nat.reduceAdd]; refine ⟨by simp, ?_⟩; refine V_join (fun (x24 : Bool) => (⟨(.any :: .any :: .ptr 0 0 :: .any :: .any :: .ptr 2 0 :: .any :: .iv x14 :: .iv x20 :: an 62 (.bv x24 :: an 7 [])), [some ⟨43, [.sl 3 (List.map Diner.row x1.Diners), .sl 5 (List.map Mail.row x1.Mail)]⟩, none, some ⟨43, [.sl 3 (List.map Diner.row x12.Diners), .sl 5 (List.map Mail.row x12.Mail)]⟩], []⟩ : St)) (m_narthexlaw14_TableOthers_j5 x20) y1 ?_ fun J5 => ?_
         ·intro x24 h; rw [m_narthexlaw14_TableOthers_j5] at h; (try dsimp only); refine M_ite h rfl (fun _ h => ?_) fun _ h => ?_
          ·refine V_go 4 ?_; dsimp only [e12, e12_L0, go_sem, Nat.reduceBEq, Nat.reduceAdd]; refine ⟨by simp, ?_⟩; exact M_done (res := fun (r : Bool) => .bv r) ok12 (M_out h hout1)
          ·refine V_go 7 ?_; dsimp only [e12, e12_L0, go_sem, Nat.reduceBEq, Nat.reduceAdd]; refine ⟨by simp, ?_⟩; exact M_back h hin1
         ·refine V_drw (by kernel_rfl) fun all hall hs hnap haf => ?_; dsimp only [go_sem, Nat.reduceBEq, Nat.reduceAdd]
          refine G_goE hall hs haf hnap 4 20 [true, true, true, true, false, false, false, false, false, false, false, false, false, false, false, false, false, false, false, false, false, false, false, false] (⟨(.any :: .any :: .ptr 0 0 :: .any :: .any :: .ptr 2 0 :: .any :: .iv x14 :: .iv x20 :: an 32 (.iv x20 :: .ptr 0 0 :: .sl 3 (List.map Diner.row x1.Diners) :: .iv (ln Diner.row x1.Diners) :: .bv (decide (x20 < (ln Diner.row x1.Diners))) :: .any :: .any :: .iv x20 :: .iv x14 :: .bv (!decide (x20 = x14)) :: .bv (!decide (x20 = x14)) :: an 27 [])), [some ⟨43, [.sl 3 (List.map Diner.row x1.Diners), .sl 5 (List.map Mail.row x1.Mail)]⟩, none, some ⟨43, [.sl 3 (List.map Diner.row x12.Diners), .sl 5 (List.map Mail.row x12.Mail)]⟩], []⟩ : St) (by kernel_rfl) ?_
          refine GM_case 51 h rfl (fun _ h => ?_) fun _ h => ?_
          ·dsimp only [go_sem, Nat.reduceBEq, Nat.reduceAdd]
           refine G_goE hall hs haf hnap 6 14 [true, true, true, true, true, true, true, true, true, true, false, false, false, false, false, false, false, false, false, false, false, false, false, false] (⟨(.any :: .any :: .ptr 0 0 :: .any :: .any :: .ptr 2 0 :: .any :: .iv x14 :: .iv x20 :: an 32 (.iv x20 :: .ptr 0 0 :: .sl 3 (List.map Diner.row x1.Diners) :: .iv (ln Diner.row x1.Diners) :: .bv (decide (x20 < (ln Diner.row x1.Diners))) :: .any :: .any :: .iv x20 :: .iv x14 :: .bv (!decide (x20 = x14)) :: .tt :: .iv x20 :: .ptr 2 0 :: .sl 3 (List.map Diner.row x12.Diners) :: .iv (ln Diner.row x12.Diners) :: .bv (decide ((ln Diner.row x12.Diners) ≤ x20)) :: .bv (decide ((ln Diner.row x12.Diners) ≤ x20)) :: an 21 [])), [some ⟨43, [.sl 3 (List.map Diner.row x1.Diners), .sl 5 (List.map Mail.row x1.Mail)]⟩, none, some ⟨43, [.sl 3 (List.map Diner.row x12.Diners), .sl 5 (List.map Mail.row x12.Mail)]⟩], []⟩ : St) (by kernel_rfl) ?_
           refine GM_case 57 h rfl (fun _ h => ?_) fun _ h => ?_
           ·dsimp only [go_sem, Nat.reduceBEq, Nat.reduceAdd]
            refine G_goE hall hs haf hnap 14 0 [true, true, true, true, true, true, true, true, true, true, true, true, true, true, true, true, true, true, true, true, true, true, true, true] (⟨(.any :: .any :: .ptr 0 0 :: .any :: .any :: .ptr 2 0 :: .any :: .iv x14 :: .iv x20 :: an 32 (.iv x20 :: .ptr 0 0 :: .sl 3 (List.map Diner.row x1.Diners) :: .iv (ln Diner.row x1.Diners) :: .bv (decide (x20 < (ln Diner.row x1.Diners))) :: .any :: .any :: .iv x20 :: .iv x14 :: .bv (!decide (x20 = x14)) :: .tt :: .iv x20 :: .ptr 2 0 :: .sl 3 (List.map Diner.row x12.Diners) :: .iv (ln Diner.row x12.Diners) :: .bv (decide ((ln Diner.row x12.Diners) ≤ x20)) :: .tt :: .un :: .un :: .un :: .un :: .un :: .un :: .un :: .un :: .un :: .un :: .un :: .un :: .tt :: .tt :: an 7 [])), [some ⟨43, [.sl 3 (List.map Diner.row x1.Diners), .sl 5 (List.map Mail.row x1.Mail)]⟩, none, some ⟨43, [.sl 3 (List.map Diner.row x12.Diners), .sl 5 (List.map Mail.row x12.Mail)]⟩], []⟩ : St) (by kernel_rfl) ?_
            refine G_done rfl ?_ _; exact M_to J5 (s := true) h
           ·dsimp only [go_sem, Nat.reduceBEq, Nat.reduceAdd]
            refine G_goE hall hs haf hnap 6 8 [true, true, true, true, true, true, true, true, true, true, true, true, true, false, false, true, true, true, false, false, false, false, false, false] (⟨(.any :: .any :: .ptr 0 0 :: .any :: .any :: .ptr 2 0 :: .any :: .iv x14 :: .iv x20 :: an 32 (.iv x20 :: .ptr 0 0 :: .sl 3 (List.map Diner.row x1.Diners) :: .iv (ln Diner.row x1.Diners) :: .bv (decide (x20 < (ln Diner.row x1.Diners))) :: .any :: .any :: .iv x20 :: .iv x14 :: .bv (!decide (x20 = x14)) :: .tt :: .iv x20 :: .ptr 2 0 :: .sl 3 (List.map Diner.row x12.Diners) :: .iv (ln Diner.row x12.Diners) :: .bv (decide ((ln Diner.row x12.Diners) ≤ x20)) :: .ff :: .ptr 0 0 :: .sl 3 (List.map Diner.row x1.Diners) :: .iv x20 :: .any :: .any :: .ptr 2 0 :: .sl 3 (List.map Diner.row x12.Diners) :: .iv x20 :: an 13 [])), [some ⟨43, [.sl 3 (List.map Diner.row x1.Diners), .sl 5 (List.map Mail.row x1.Mail)]⟩, none, some ⟨43, [.sl 3 (List.map Diner.row x12.Diners), .sl 5 (List.map Mail.row x12.Mail)]⟩], []⟩ : St) (by kernel_rfl) ?_
            obtain ⟨x21, ex21, h⟩ := Option.bind_eq_some_iff.1 h; refine G_idxM hall hs haf hnap 13 Diner.row ex21 rfl rfl trivial rfl rfl rfl rfl ?_; refine G_goN hall hs haf hnap 1 6 ?_; dsimp only [go_sem, Nat.reduceBEq, Nat.reduceAdd]; refine ⟨by simp, ?_⟩; obtain ⟨x22, ex22, h⟩ := Option.bind_eq_some_iff.1 h; refine G_idxM hall hs haf hnap 18 Diner.row ex22 rfl rfl trivial rfl rfl rfl rfl ?_; refine G_goN hall hs haf hnap 1 4 ?_; dsimp only [go_sem, Nat.reduceBEq, Nat.reduceAdd]; refine ⟨by simp, ?_⟩; refine G_one 20 rfl ?_; obtain ⟨x23, ex23, h⟩ := Option.bind_eq_some_iff.1 h
            refine GO_call hall rfl trivial (k_narthexref12_SameOne x21 x22 _ ex23) (h := ?_); dsimp only [go_sem, Nat.reduceBEq, Nat.reduceAdd]
            refine G_goE hall hs haf hnap 3 0 [true, true, true, true, true, true, true, true, true, true, true, true, true, true, true, true, true, true, true, true, true, true, true, true] (⟨(.any :: .any :: .ptr 0 0 :: .any :: .any :: .ptr 2 0 :: .any :: .iv x14 :: .iv x20 :: an 32 (.iv x20 :: .ptr 0 0 :: .sl 3 (List.map Diner.row x1.Diners) :: .iv (ln Diner.row x1.Diners) :: .bv (decide (x20 < (ln Diner.row x1.Diners))) :: .any :: .any :: .iv x20 :: .iv x14 :: .bv (!decide (x20 = x14)) :: .tt :: .iv x20 :: .ptr 2 0 :: .sl 3 (List.map Diner.row x12.Diners) :: .iv (ln Diner.row x12.Diners) :: .bv (decide ((ln Diner.row x12.Diners) ≤ x20)) :: .ff :: .ptr 0 0 :: .sl 3 (List.map Diner.row x1.Diners) :: .iv x20 :: .elt [.iv x21.ID, .iv x21.Phase, .sl 8 (List.map Side.row x21.Sides)] 0 :: .agg [.iv x21.ID, .iv x21.Phase, .sl 8 (List.map Side.row x21.Sides)] :: .ptr 2 0 :: .sl 3 (List.map Diner.row x12.Diners) :: .iv x20 :: .elt [.iv x22.ID, .iv x22.Phase, .sl 8 (List.map Side.row x22.Sides)] 0 :: .agg [.iv x22.ID, .iv x22.Phase, .sl 8 (List.map Side.row x22.Sides)] :: .bv x23 :: .bv (!x23) :: .bv (!x23) :: .bv (!x23) :: an 7 [])), [some ⟨43, [.sl 3 (List.map Diner.row x1.Diners), .sl 5 (List.map Mail.row x1.Mail)]⟩, none, some ⟨43, [.sl 3 (List.map Diner.row x12.Diners), .sl 5 (List.map Mail.row x12.Mail)]⟩], []⟩ : St) (by kernel_rfl) ?_
            refine G_done rfl ?_ _; exact M_to J5 (s := !x23) h
          ·dsimp only [go_sem, Nat.reduceBEq, Nat.reduceAdd]
           refine G_goE hall hs haf hnap 20 0 [true, true, true, true, true, true, true, true, true, true, true, true, true, true, true, true, true, true, true, true, true, true, true, true] (⟨(.any :: .any :: .ptr 0 0 :: .any :: .any :: .ptr 2 0 :: .any :: .iv x14 :: .iv x20 :: an 32 (.iv x20 :: .ptr 0 0 :: .sl 3 (List.map Diner.row x1.Diners) :: .iv (ln Diner.row x1.Diners) :: .bv (decide (x20 < (ln Diner.row x1.Diners))) :: .any :: .any :: .iv x20 :: .iv x14 :: .bv (!decide (x20 = x14)) :: .ff :: .un :: .un :: .un :: .un :: .un :: .un :: .un :: .un :: .un :: .un :: .un :: .un :: .un :: .un :: .un :: .un :: .un :: .un :: .un :: .ff :: an 7 [])), [some ⟨43, [.sl 3 (List.map Diner.row x1.Diners), .sl 5 (List.map Mail.row x1.Mail)]⟩, none, some ⟨43, [.sl 3 (List.map Diner.row x12.Diners), .sl 5 (List.map Mail.row x12.Mail)]⟩], []⟩ : St) (by kernel_rfl) ?_
           refine G_done rfl ?_ _; exact M_to J5 (s := false) h
        ·refine V_go 1 ?_; dsimp only [e12, e12_L0, go_sem, Nat.reduceBEq, Nat.reduceAdd]; refine ⟨by simp, ?_⟩; exact M_to J4 (s := ()) (M_out h hout1)
      ·refine M_ite h rfl (fun _ h => ?_) fun _ h => ?_
       ·refine V_go 5 ?_; dsimp only [e12, e12_L0, go_sem, Nat.reduceBEq, Nat.reduceAdd]; refine ⟨by simp, ?_⟩; exact M_to J3 (s := x2.B) h
       ·refine V_go 1 ?_; dsimp only [e12, e12_L0, go_sem, Nat.reduceBEq, Nat.reduceAdd]; refine ⟨by simp, ?_⟩; exact M_to J3 (s := x2.A) h
    ·refine V_drw (by kernel_rfl) fun all hall hs hnap haf => ?_; dsimp only [go_sem, Nat.reduceBEq, Nat.reduceAdd]; refine G_goN hall hs haf hnap 2 8 ?_; dsimp only [go_sem, Nat.reduceBEq, Nat.reduceAdd]; refine ⟨by simp, ?_⟩; obtain ⟨x7, ex7, h⟩ := Option.bind_eq_some_iff.1 h; refine G_two 1 7 rfl ?_ ?_
     ·refine GO_call hall rfl trivial (k_narthexlaw14_own x1 _ ex7) (h := ?_); dsimp only [go_sem, Nat.reduceBEq, Nat.reduceAdd]; obtain ⟨x9, ex9, h⟩ := Option.bind_eq_some_iff.1 h; refine G_two 3 7 rfl ?_ ?_
      ·refine GO_call hall rfl trivial (k_narthexlaw14_act x7 ((narthexlaw14_Act.mk ((min ((max x2.K 0)) 2)) x2.A x2.B)) _ ex9) (h := ?_); dsimp only [go_sem, Nat.reduceBEq, Nat.reduceAdd]; refine G_goN hall hs haf hnap 3 3 ?_; dsimp only [go_sem, Nat.reduceBEq, Nat.reduceAdd]; refine ⟨by simp, ?_⟩; refine G_one 7 rfl ?_; refine GO_ev hall rfl trivial ?_; dsimp only [go_sem, Nat.reduceBEq, Nat.reduceAdd]; refine G_one 8 rfl ?_; refine GO_ev hall rfl trivial ?_; dsimp only [go_sem, Nat.reduceBEq, Nat.reduceAdd]; refine G_goN hall hs haf hnap 1 0 ?_
       dsimp only [go_sem, Nat.reduceBEq, Nat.reduceAdd]; refine ⟨by simp, ?_⟩; refine G_done rfl ?_ _; exact M_to J2 (s := (x9.2, x9.1)) h
      ·refine GO_ev hall rfl trivial ?_; dsimp only [go_sem, Nat.reduceBEq, Nat.reduceAdd]; refine G_one 3 rfl ?_; refine GO_call hall rfl trivial (k_narthexlaw14_act x7 ((narthexlaw14_Act.mk ((min ((max x2.K 0)) 2)) x2.A x2.B)) _ ex9) (h := ?_); dsimp only [go_sem, Nat.reduceBEq, Nat.reduceAdd]; refine G_goN hall hs haf hnap 3 2 ?_; dsimp only [go_sem, Nat.reduceBEq, Nat.reduceAdd]; refine ⟨by simp, ?_⟩; refine G_one 8 rfl ?_; refine GO_ev hall rfl trivial ?_; dsimp only [go_sem, Nat.reduceBEq, Nat.reduceAdd]; refine G_goN hall hs haf hnap 1 0 ?_
       dsimp only [go_sem, Nat.reduceBEq, Nat.reduceAdd]; refine ⟨by simp, ?_⟩; refine G_done rfl ?_ _; exact M_to J2 (s := (x9.2, x9.1)) h
     ·refine GO_ev hall rfl trivial ?_; dsimp only [go_sem, Nat.reduceBEq, Nat.reduceAdd]; refine G_one 1 rfl ?_; refine GO_call hall rfl trivial (k_narthexlaw14_own x1 _ ex7) (h := ?_); dsimp only [go_sem, Nat.reduceBEq, Nat.reduceAdd]; refine G_one 3 rfl ?_; obtain ⟨x9, ex9, h⟩ := Option.bind_eq_some_iff.1 h; refine GO_call hall rfl trivial (k_narthexlaw14_act x7 ((narthexlaw14_Act.mk ((min ((max x2.K 0)) 2)) x2.A x2.B)) _ ex9) (h := ?_); dsimp only [go_sem, Nat.reduceBEq, Nat.reduceAdd]; refine G_goN hall hs haf hnap 3 2 ?_; dsimp only [go_sem, Nat.reduceBEq, Nat.reduceAdd]
      refine ⟨by simp, ?_⟩; refine G_one 8 rfl ?_; refine GO_ev hall rfl trivial ?_; dsimp only [go_sem, Nat.reduceBEq, Nat.reduceAdd]; refine G_goN hall hs haf hnap 1 0 ?_; dsimp only [go_sem, Nat.reduceBEq, Nat.reduceAdd]; refine ⟨by simp, ?_⟩; refine G_done rfl ?_ _; exact M_to J2 (s := (x9.2, x9.1)) h
  ·refine M_case 11 h rfl (fun _ h => ?_) fun _ h => ?_
   ·dsimp only [go_sem, Nat.reduceBEq, Nat.reduceAdd]; refine V_go 5 ?_; dsimp only [e12, e12_L0, go_sem, Nat.reduceBEq, Nat.reduceAdd]; refine ⟨by simp, ?_⟩; exact M_to J1 (s := true) h
   ·dsimp only [go_sem, Nat.reduceBEq, Nat.reduceAdd]; refine V_go 1 ?_; dsimp only [e12, e12_L0, go_sem, Nat.reduceBEq, Nat.reduceAdd]; refine ⟨by simp, ?_⟩; obtain ⟨x4, ex4, h⟩ := Option.bind_eq_some_iff.1 h; refine V_call trivial (k_narthexref12_Few x1 _ ex4) (h := ?_); refine V_go 3 ?_; dsimp only [e12, e12_L0, go_sem, Nat.reduceBEq, Nat.reduceAdd]; refine ⟨by simp, ?_⟩; exact M_to J1 (s := !x4) h
end NX
end Go.Proofs.Ytadebhbiglmodaa
/-
  Plain laws: package table. No statement of the seat is proved here.
-/
namespace Go.Proofs.Ytadebhbiglmodaa
namespace NX
open Go
theorem s_IndexFunc_Mail' (l : List Mail) (p : Mail → Option Bool) (q : Mail → Bool) (hl : l.length ≤ 4000000000000000000) (hp : ∀ x ∈ l, p x = some (q x)) : m_slices_IndexFunc_Mail l p = some (plc (l.findIdx? q)) := by
  unfold m_slices_IndexFunc_Mail
  refine loop_place l _ q hl (fun k x hx => ?_) ?_
  · simp only [m_slices_IndexFunc_Mail_l1, lt_len hx, ifb_true, at_get hx, Option.bind_some, hp x (List.mem_iff_getElem?.2 ⟨k, hx⟩), wr_succ' hx hl]
    cases q x <;> rfl
  · simp only [m_slices_IndexFunc_Mail_l1, nlt_len, ifb_false, m_slices_IndexFunc_Mail_j1, Option.map_some]
theorem s_ContainsFunc_Mail' (l : List Mail) (p : Mail → Option Bool) (q : Mail → Bool) (hl : l.length ≤ 4000000000000000000) (hp : ∀ x ∈ l, p x = some (q x)) : m_slices_ContainsFunc_Mail l p = some (l.any q) := by
  unfold m_slices_ContainsFunc_Mail
  rw [s_IndexFunc_Mail' l p q hl hp, Option.bind_some, plc_nonneg, findIdx_any]
theorem s_IndexFunc_Diner' (l : List Diner) (p : Diner → Option Bool) (q : Diner → Bool) (hl : l.length ≤ 4000000000000000000) (hp : ∀ x ∈ l, p x = some (q x)) : m_slices_IndexFunc_Diner l p = some (plc (l.findIdx? q)) := by
  unfold m_slices_IndexFunc_Diner
  refine loop_place l _ q hl (fun k x hx => ?_) ?_
  · simp only [m_slices_IndexFunc_Diner_l1, lt_len hx, ifb_true, at_get hx, Option.bind_some, hp x (List.mem_iff_getElem?.2 ⟨k, hx⟩), wr_succ' hx hl]
    cases q x <;> rfl
  · simp only [m_slices_IndexFunc_Diner_l1, nlt_len, ifb_false, m_slices_IndexFunc_Diner_j1, Option.map_some]
theorem s_ContainsFunc_Diner' (l : List Diner) (p : Diner → Option Bool) (q : Diner → Bool) (hl : l.length ≤ 4000000000000000000) (hp : ∀ x ∈ l, p x = some (q x)) : m_slices_ContainsFunc_Diner l p = some (l.any q) := by
  unfold m_slices_ContainsFunc_Diner
  rw [s_IndexFunc_Diner' l p q hl hp, Option.bind_some, plc_nonneg, findIdx_any]
def scene0 : Scene := ⟨[], []⟩
def okMail (n : Nat) (m : Mail) : Bool := !(decide (min m.From m.To < 0) || (decide ((n : Int) ≤ max m.From m.To) || decide (m.From = m.To)))
/-- A scene that may be. -/
def okS (s : Scene) : Bool := (graphP s.Diners).2 && (s.Diners.all okD && s.Mail.all (okMail s.Diners.length))
theorem s_tCheck1 (m : Mail) (s : Scene) : m_table_Check_1 m s = some (!okMail s.Diners.length m) := by
  simp only [m_table_Check_1, m_table_Check_1_j1, okMail, ln_eq, Bool.not_not]
  cases decide (min m.From m.To < 0) <;> cases decide ((s.Diners.length : Int) ≤ max m.From m.To) <;> rfl
theorem s_tCheck (s : Scene) (hD : fewD s.Diners) (hM : s.Mail.length ≤ 1000000) : m_table_Check s = some (if okS s then 0 else 142) := by
  simp only [m_table_Check, s_Graph _ hD, Option.bind_some, m_table_Check_j1]
  rw [show okS s = ((graphP s.Diners).2 && (s.Diners.all okD && s.Mail.all (okMail s.Diners.length))) from rfl]
  cases h1 : (graphP s.Diners).2 with
  | false => simp
  | true =>
    rw [s_ContainsFunc_Diner' s.Diners _ (fun d => !okD d) (by have := hD.1; omega) (fun d _ => by
      simp only [m_table_Check_2, s_dCheck, Option.bind_some]
      cases okD d <;> rfl)]
    rw [s_ContainsFunc_Mail' s.Mail _ (fun m => !okMail s.Diners.length m) (by omega) (fun m _ => s_tCheck1 m s)]
    have e1 : s.Diners.any (fun d => !okD d) = !s.Diners.all okD := any_not_all _ _ _ fun _ => rfl
    have e2 : s.Mail.any (fun m => !okMail s.Diners.length m) = !s.Mail.all (okMail s.Diners.length) := any_not_all _ _ _ fun _ => rfl
    rw [e1, e2]
    cases s.Diners.all okD <;> cases s.Mail.all (okMail s.Diners.length) <;> rfl
def thereB (s : Scene) (a : Int) : Bool := decide (0 ≤ a) && decide (a < s.Diners.length)
theorem s_there (s : Scene) (a : Int) : m_table_there s a = some (thereB s a) := by
  simp only [m_table_there, m_table_there_j1, thereB, ln_eq]
  cases decide (0 ≤ a) <;> rfl
theorem s_Grow (n : Nat) (hn : n ≤ 3000000) : m_slices_Grow_Mail_in_slices_Concat_Mail_1 n = some [] := by
  have e0 : wr (0 - 0) = 0 := wr_id (by omega) (by omega)
  have e1 : wr ((n : Int) - 0) = n := by rw [wr_id (by omega) (by omega)]; omega
  simp only [m_slices_Grow_Mail_in_slices_Concat_Mail_1, m_slices_Grow_Mail_in_slices_Concat_Mail_1_j1, m_slices_Grow_Mail_in_slices_Concat_Mail_1_j2, e0, e1]
  rw [decide_eq_false (by omega), ifb_false]
  by_cases h : 0 < n
  · rw [decide_eq_true (by omega), ifb_true]
    unfold apz_
    rw [if_pos ⟨by omega, by omega, by omega⟩, Option.bind_some]
    unfold sub_
    rw [if_pos ⟨by omega, by omega, by omega⟩]
    simp
  · rw [decide_eq_false (by omega), ifb_false]
theorem s_Concat (a b : List Mail) (ha : a.length ≤ 1000000) (hb : b.length ≤ 1000000) : m_slices_Concat_Mail [a, b] = some (a ++ b) := by
  have g0 : at_ [a, b] 0 = some a := rfl
  have g1 : at_ [a, b] (wr (0 + 1)) = some b := by rw [wr_id (by omega) (by omega)]; rfl
  have l0 : ln (slRow 5 Mail.row) [a, b] = 2 := by rw [ln_eq]; rfl
  have w1 : wr (0 + 1) = 1 := wr_id (by omega) (by omega)
  have w2 : wr (1 + 1) = 2 := wr_id (by omega) (by omega)
  have s1 : wr (0 + ln Mail.row a) = (a.length : Int) := by rw [ln_eq, wr_id (by omega) (by omega)]; omega
  have s2 : wr ((a.length : Int) + ln Mail.row b) = ((a.length + b.length : Nat) : Int) := by rw [ln_eq, wr_id (by omega) (by omega)]; omega
  unfold m_slices_Concat_Mail
  rw [loop_eq]
  dsimp only [m_slices_Concat_Mail_l1]
  rw [l0, show decide ((0 : Int) < 2) = true from rfl, ifb_true, g0, Option.bind_some, s1, decide_eq_false (by omega), ifb_false]
  dsimp only [m_slices_Concat_Mail_j2]
  rw [s1, w1, loop_eq]
  dsimp only [m_slices_Concat_Mail_l1]
  rw [l0, show decide ((1 : Int) < 2) = true from rfl, ifb_true, ← w1, g1, Option.bind_some, s2, decide_eq_false (by omega), ifb_false]
  dsimp only [m_slices_Concat_Mail_j2]
  rw [s2, w1, w2, loop_eq]
  dsimp only [m_slices_Concat_Mail_l1]
  rw [l0, show decide ((2 : Int) < 2) = false from rfl, ifb_false]
  dsimp only [m_slices_Concat_Mail_j1]
  rw [s_Grow _ (by omega), Option.bind_some]
  have k : loop (m_slices_Concat_Mail_l2 [a, b]) (0, []) = some (a ++ b) := by
    rw [loop_eq]
    dsimp only [m_slices_Concat_Mail_l2]
    rw [l0, show decide ((0 : Int) < 2) = true from rfl, ifb_true, g0, Option.bind_some, app_ok _ _ (by omega) (by simp; omega), Option.bind_some, List.nil_append, w1]
    dsimp only
    rw [loop_eq]
    dsimp only [m_slices_Concat_Mail_l2]
    rw [l0, show decide ((1 : Int) < 2) = true from rfl, ifb_true, ← w1, g1, Option.bind_some, app_ok _ _ (by omega) (by omega), Option.bind_some, w1, w2]
    dsimp only
    rw [loop_eq]
    dsimp only [m_slices_Concat_Mail_l2]
    rw [l0, show decide ((2 : Int) < 2) = false from rfl, ifb_false]
    rfl
  rw [k]; rfl
/-- What becomes of a scene, if a node is another one. -/
def actS (s : Scene) (a : Int) (d : Diner) : Scene := ⟨s.Diners.map fun x => if x.ID = a then fireD d else x, s.Mail ++ fireMs d⟩
def actP (s : Scene) (a : Int) (r : Diner × Int) : Scene × Int := if r.2 = 0 then (if okD r.1 then (actS s a r.1, 0) else (scene0, 130)) else (scene0, r.2)
theorem okD_fireD {d : Diner} (h : okD d = true) : (fireD d).Sides.length ≤ 64 := by
  have := okD_len h
  unfold fireD
  split <;> simp <;> omega
theorem s_act (s : Scene) (a : Int) (p : Diner → Option (Diner × Int)) (q : Diner → Diner × Int) (hp : ∀ d, p d = some (q d)) (hD : fewD s.Diners) (hM : s.Mail.length ≤ 900000) (d : Diner) (hd : at_ s.Diners a = some d) : m_table_act s a p = some (actP s a (q d)) := by
  simp only [m_table_act, hd, Option.bind_some, hp, actP]
  by_cases h0 : (q d).2 = 0
  · simp only [h0, decide_true, Bool.not_true, ifb_false, s_Fire, Option.bind_some, if_true]
    cases hk : okD (q d).1 with
    | false => rfl
    | true =>
      have hl := okD_len hk
      have hf := okD_fireD hk
      have hms := fireMs_len (q d).1.Sides (q d).1.ID (q d).1.Phase
      have hc := s_Concat s.Mail (fireMs (q d).1) (by omega) (by unfold fireMs; omega)
      simp only [if_true, decide_true, Bool.not_true, ifb_false, hc, Option.bind_some]
      refine loop_pre s.Diners _ (fun pre => ((pre.length : Int), pre.map fun x => if x.ID = a then fireD (q d).1 else x)) _ (fun pre x post h => ?_) ?_
      · have hx := mid_get h
        have hm := mid_len h
        have h1 := hD.1
        have h2 := hD.2 x (mid_mem h)
        dsimp only [m_table_act_l1]
        rw [lt_len hx, ifb_true, at_get hx, Option.bind_some, len_snoc, List.map_append]
        have step : ∀ z : Diner, z.Sides.length ≤ 5000 → m_table_act_j2 (pre.length : Int) (pre.map fun x => if x.ID = a then fireD (q d).1 else x) z = some (.inl (((pre.length + 1 : Nat) : Int), (pre.map fun x => if x.ID = a then fireD (q d).1 else x) ++ [z])) := fun z hz => by
          dsimp only [m_table_act_j2]
          rw [s_CloneSide z.Sides (by omega), Option.bind_some, app_ok _ _ (by omega) (by simp; omega), Option.bind_some, wr_succ (by omega)]
        by_cases hi : x.ID = a
        · rw [decide_eq_true hi, ifb_true, step _ (by omega)]
          simp [hi]
        · rw [decide_eq_false hi, ifb_false, step _ h2]
          simp [hi]
      · dsimp only [m_table_act_l1]
        rw [nlt_len, ifb_false]
        rfl
  · simp only [h0, decide_false, Bool.not_false, ifb_true, if_false]
    rfl
def turnS (s : Scene) (a : Int) (q : Diner → Diner × Int) : Scene × Int :=
  if okS s then (if thereB s a then (match at_ s.Diners a with | some d => actP s a (q d) | none => (scene0, 140)) else (scene0, 140)) else (scene0, 142)
theorem there_at {s : Scene} {a : Int} (h : thereB s a = true) : ∃ d, at_ s.Diners a = some d ∧ s.Diners[a.toNat]? = some d := by
  simp only [thereB, Bool.and_eq_true, decide_eq_true_eq] at h
  exact at_lt h.1 h.2
theorem s_turn (s : Scene) (a : Int) (p : Diner → Option (Diner × Int)) (q : Diner → Diner × Int) (hp : ∀ d, p d = some (q d)) (hD : fewD s.Diners) (hM : s.Mail.length ≤ 900000) : m_table_turn s a p = some (turnS s a q) := by
  simp only [m_table_turn, s_tCheck s hD (by omega), Option.bind_some, turnS]
  cases okS s with
  | false => rfl
  | true =>
    simp only [if_true, decide_true, Bool.not_true, ifb_false, s_there, Option.bind_some]
    cases h : thereB s a with
    | false => rfl
    | true =>
      obtain ⟨d, hd, _⟩ := there_at h
      simp only [Bool.not_true, ifb_false, s_act s a p q hp hD hM d hd, hd, Option.bind_some, if_true]
theorem s_Start (s : Scene) (a : Int) (hD : fewD s.Diners) (hM : s.Mail.length ≤ 900000) : m_table_Start s a = some (turnS s a fun d => turnD d 0 1) := by
  simp only [m_table_Start, s_turn s a _ (fun d => turnD d 0 1) s_dStart hD hM, Option.bind_some]
theorem s_Stop (s : Scene) (a : Int) (hD : fewD s.Diners) (hM : s.Mail.length ≤ 900000) : m_table_Stop s a = some (turnS s a fun d => turnD d 2 0) := by
  simp only [m_table_Stop, s_turn s a _ (fun d => turnD d 2 0) s_dStop hD hM, Option.bind_some]
def delivI (s : Scene) (a b : Int) : Option Nat := s.Mail.findIdx? fun m => decide (m.From = a) && decide (m.To = b)
def delivS (s : Scene) (a b : Int) : Scene × Int :=
  if okS s then (if thereB s a && thereB s b then (match delivI s a b with
    | none => (scene0, 141)
    | some i => match s.Mail[i]?, at_ s.Diners b with
      | some m, some d => actP ⟨s.Diners, s.Mail.take i ++ s.Mail.drop (i + 1)⟩ b (getD' d a m.Msg)
      | _, _ => (scene0, 140)) else (scene0, 140)) else (scene0, 142)
theorem s_Deliver (s : Scene) (a b : Int) (hD : fewD s.Diners) (hM : s.Mail.length ≤ 900000) : m_table_Deliver s a b = some (delivS s a b) := by
  simp only [m_table_Deliver, s_tCheck s hD (by omega), Option.bind_some, delivS]
  cases okS s with
  | false => rfl
  | true =>
    simp only [if_true, decide_true, Bool.not_true, ifb_false, s_there, Option.bind_some]
    cases h : thereB s a with
    | false => rfl
    | true =>
      cases h' : thereB s b with
      | false => rfl
      | true =>
        obtain ⟨d, hd, _⟩ := there_at h'
        simp only [Bool.not_true, ifb_false, m_table_Deliver_j1, Bool.and_self, if_true]
        rw [s_IndexFunc_Mail' s.Mail (fun z => m_table_Deliver_1 z a b) (fun m => decide (m.From = a) && decide (m.To = b)) (by omega) (fun m _ => by
          simp only [m_table_Deliver_1, m_table_Deliver_1_j1]
          cases decide (m.From = a) <;> rfl), Option.bind_some, plc_neg]
        have hfi := find_idx (fun m : Mail => decide (m.From = a) && decide (m.To = b)) s.Mail
        unfold delivI
        cases hf : s.Mail.findIdx? (fun m => decide (m.From = a) && decide (m.To = b)) with
        | none => rfl
        | some i =>
          rw [hf] at hfi
          obtain ⟨m, hm, _⟩ := hfi
          have hlt := (List.getElem?_eq_some_iff.1 hm).1
          have e1 : sub_ s.Mail 0 (i : Int) = some (s.Mail.take i) := by
            unfold sub_
            rw [if_pos ⟨by omega, by omega, by omega⟩]; simp
          have e2 : sub_ s.Mail (wr ((i : Int) + 1)) (ln Mail.row s.Mail) = some (s.Mail.drop (i + 1)) := by
            rw [wr_succ (by omega), ln_eq]
            unfold sub_
            rw [if_pos ⟨by omega, by omega, by omega⟩]; simp
          simp only [Option.isNone_some, ifb_false, plc, at_get hm, Option.bind_some, e1, e2, hm, hd]
          rw [s_Concat _ _ (by simp; omega) (by simp; omega), Option.bind_some]
          simp only [m_table_Deliver_j2]
          rw [s_act ⟨s.Diners, s.Mail.take i ++ s.Mail.drop (i + 1)⟩ b _ (fun d => getD' d a m.Msg) (fun d => by simp only [m_table_Deliver_2, s_Get, Option.bind_some]) hD (by simp; omega) d hd]
          rfl
def actA (s : Scene) (k a b : Int) : Scene × Int := if k = 0 then turnS s a (fun d => turnD d 0 1) else if k = 1 then turnS s a (fun d => turnD d 2 0) else delivS s a b
theorem s_act14 (s : Scene) (k a b : Int) (hD : fewD s.Diners) (hM : s.Mail.length ≤ 900000) : m_narthexlaw14_act s ⟨k, a, b⟩ = some (actA s k a b) := by
  simp only [m_narthexlaw14_act, actA, s_Start s a hD hM, s_Stop s a hD hM, s_Deliver s a b hD hM, Option.bind_some]
  by_cases h0 : k = 0
  · simp [h0]
  · by_cases h1 : k = 1
    · simp [h1]
    · simp [h0, h1]
theorem s_own14 (s : Scene) (hD : fewD s.Diners) (hM : s.Mail.length ≤ 900000) : m_narthexlaw14_own s = some s := by
  simp only [m_narthexlaw14_own, s_Own _ hD, Option.bind_some]
  rw [app_ok _ _ (by omega) (by simp; omega)]
  rfl
theorem s_SameMail (l m : List Mail) (hl : l.length ≤ 1000000) : m_narthexref13_SameMail l m = some (decide (l = m)) := by
  simp only [m_narthexref13_SameMail, ln_dec]
  by_cases h : l.length = m.length
  · simp only [h, decide_true, Bool.not_true, ifb_false]
    rw [loop_all2 l m _ (fun x y => decide (x = y)) h (by omega) (fun k x y hx hy => by
      simp only [m_narthexref13_SameMail_l1, lt_len hx, ifb_true, at_get hx, at_get hy, Option.bind_some, Mail_eqB, wr_succ' hx (show l.length ≤ 4000000000000000000 by omega), ifb_not, Option.map_some]
      cases decide (x = y) <;> rfl) (by simp only [m_narthexref13_SameMail_l1, nlt_len, ifb_false, m_narthexref13_SameMail_j1, Option.map_some]), zip_all_eq l m h]
  · simp [h, len_ne h]
theorem s_Same14 (s t : Scene) (hD : fewD s.Diners) (hM : s.Mail.length ≤ 900000) : m_narthexref14_Same s t = some (decide (s = t)) := by
  obtain ⟨l, m⟩ := s
  obtain ⟨l', m'⟩ := t
  simp only [m_narthexref14_Same, m_narthexref14_Same_j1, s_r12Same _ _ hD, s_SameMail m m' (by simp only at hM; omega), Option.bind_some, Scene.mk.injEq]
  by_cases h1 : l = l' <;> by_cases h2 : m = m' <;> simp [h1, h2]
theorem ids {l : List Diner} (h : (graphP l).2 = true) {k : Nat} {d : Diner} (hd : l[k]? = some d) : d.ID = k := by
  unfold graphP at h
  split at h
  · rename_i h1
    simp only [Bool.and_eq_true] at h1
    have := ((okAll_iff l l 0).1 h1.1 k d hd).1
    simpa using this
  · simp at h
theorem actP_others {s : Scene} {a : Int} {r : Diner × Int} (h : (actP s a r).2 = 0) : (actP s a r).1.Diners.length = s.Diners.length ∧ ∀ (k : Nat) (d : Diner), s.Diners[k]? = some d → d.ID ≠ a → (actP s a r).1.Diners[k]? = some d := by
  unfold actP at h ⊢
  split at h
  · rename_i h1
    split at h
    · rename_i h2
      rw [if_pos h1, if_pos h2]
      refine ⟨by simp [actS], fun k d hd hne => ?_⟩
      simp only [actS, List.getElem?_map, hd, Option.map_some, if_neg hne]
    · simp at h
  · exact absurd h (by assumption)
theorem actP_none {s : Scene} {a : Int} {r : Diner × Int} (h : (actP s a r).2 ≠ 0) : (actP s a r).1 = scene0 := by
  unfold actP at h ⊢
  split
  · rename_i h1
    split
    · rename_i h2
      rw [if_pos h1, if_pos h2] at h; simp at h
    · rfl
  · rfl
theorem turnS_others {s : Scene} {a : Int} {q : Diner → Diner × Int} (h : (turnS s a q).2 = 0) : okS s = true ∧ (turnS s a q).1.Diners.length = s.Diners.length ∧ ∀ (k : Nat) (d : Diner), s.Diners[k]? = some d → d.ID ≠ a → (turnS s a q).1.Diners[k]? = some d := by
  unfold turnS at h ⊢
  cases hk : okS s with
  | false => rw [hk] at h; simp at h
  | true =>
    rw [hk] at h
    simp only [if_true] at h ⊢
    cases ht : thereB s a with
    | false => rw [ht] at h; simp at h
    | true =>
      rw [ht] at h
      simp only [if_true] at h ⊢
      obtain ⟨d, hd, _⟩ := there_at ht
      rw [hd] at h ⊢
      exact ⟨trivial, actP_others h⟩
theorem turnS_none {s : Scene} {a : Int} {q : Diner → Diner × Int} (h : (turnS s a q).2 ≠ 0) : (turnS s a q).1 = scene0 := by
  unfold turnS at h ⊢
  cases hk : okS s with
  | false => rfl
  | true =>
    rw [hk] at h
    simp only [if_true] at h ⊢
    cases ht : thereB s a with
    | false => rfl
    | true =>
      rw [ht] at h
      simp only [if_true] at h ⊢
      obtain ⟨d, hd, _⟩ := there_at ht
      rw [hd] at h ⊢
      exact actP_none h
theorem delivS_others {s : Scene} {a b : Int} (h : (delivS s a b).2 = 0) : okS s = true ∧ (delivS s a b).1.Diners.length = s.Diners.length ∧ ∀ (k : Nat) (d : Diner), s.Diners[k]? = some d → d.ID ≠ b → (delivS s a b).1.Diners[k]? = some d := by
  unfold delivS at h ⊢
  cases hk : okS s with
  | false => rw [hk] at h; simp at h
  | true =>
    rw [hk] at h
    simp only [if_true] at h ⊢
    cases ht : (thereB s a && thereB s b) with
    | false => rw [ht] at h; simp at h
    | true =>
      rw [ht] at h
      simp only [if_true] at h ⊢
      cases hi : delivI s a b with
      | none => rw [hi] at h; simp at h
      | some i =>
        rw [hi] at h
        simp only at h ⊢
        split at h
        · rename_i m d hm hd
          exact ⟨trivial, actP_others (s := ⟨s.Diners, s.Mail.take i ++ s.Mail.drop (i + 1)⟩) h⟩
        · simp at h
theorem delivS_none {s : Scene} {a b : Int} (h : (delivS s a b).2 ≠ 0) : (delivS s a b).1 = scene0 := by
  unfold delivS at h ⊢
  cases hk : okS s with
  | false => rfl
  | true =>
    rw [hk] at h
    simp only [if_true] at h ⊢
    cases ht : (thereB s a && thereB s b) with
    | false => rfl
    | true =>
      rw [ht] at h
      simp only [if_true] at h ⊢
      cases hi : delivI s a b with
      | none => rfl
      | some i =>
        rw [hi] at h
        simp only at h ⊢
        split
        · rename_i m d hm hd
          rw [hm, hd] at h
          exact actP_none h
        · rfl
def whoA (k a b : Int) : Int := if k = 2 then b else a
theorem actA_others {s : Scene} {k a b : Int} (hk : k = 0 ∨ k = 1 ∨ k = 2) (h : (actA s k a b).2 = 0) : okS s = true ∧ (actA s k a b).1.Diners.length = s.Diners.length ∧ ∀ (j : Nat) (d : Diner), s.Diners[j]? = some d → d.ID ≠ whoA k a b → (actA s k a b).1.Diners[j]? = some d := by
  unfold actA whoA at *
  rcases hk with rfl | rfl | rfl
  · exact turnS_others h
  · exact turnS_others h
  · exact delivS_others h
theorem actA_none {s : Scene} {k a b : Int} (hk : k = 0 ∨ k = 1 ∨ k = 2) (h : (actA s k a b).2 ≠ 0) : (actA s k a b).1 = scene0 := by
  unfold actA at *
  rcases hk with rfl | rfl | rfl
  · exact turnS_none h
  · exact turnS_none h
  · exact delivS_none h
theorem p_narthexlaw14_TableOthers (s : Scene) (c : narthexlaw14_Act) : m_narthexlaw14_TableOthers s c = some true := by
  obtain ⟨k0, a, b⟩ := c
  have yes : m_narthexlaw14_TableOthers_j1 s ⟨k0, a, b⟩ true = some true := by
    simp only [m_narthexlaw14_TableOthers_j1, ifb_true, s_awake14, Option.bind_some]
  simp only [m_narthexlaw14_TableOthers, s_awake14, Option.bind_some, Bool.not_true, ifb_false, s_Few]
  cases hf : fewB s with
  | false => exact yes
  | true =>
    have hD := fewB_D hf
    obtain ⟨f1, f2, f3⟩ := fewB_iff hf
    simp only [Bool.not_true, m_narthexlaw14_TableOthers_j1, ifb_false, s_own14 s hD (by omega), Option.bind_some, s_act14 s _ a b hD (by omega)]
    generalize hk : min (max k0 0) 2 = k
    have hk3 : k = 0 ∨ k = 1 ∨ k = 2 := by omega
    simp only [m_narthexlaw14_TableOthers_j2, hk]
    by_cases h0 : (actA s k a b).2 = 0
    · obtain ⟨h1, h2, h3⟩ := actA_others hk3 h0
      have hg : (graphP s.Diners).2 = true := by
        simp only [okS, Bool.and_eq_true] at h1; exact h1.1
      rw [decide_eq_true h0, Bool.not_true, ifb_false]
      have key : ∀ who, who = whoA k a b → m_narthexlaw14_TableOthers_j3 s (actA s k a b).1 who = some true := by
        rintro who rfl
        dsimp only [m_narthexlaw14_TableOthers_j3]
        refine loop_nat s.Diners.length _ (fun j => (j : Int)) true (fun j hj => ?_) ?_
        · have hx : s.Diners[j]? = some s.Diners[j] := List.getElem?_eq_getElem hj
          dsimp only [m_narthexlaw14_TableOthers_l1]
          rw [lt_len hx, ifb_true]
          have good : m_narthexlaw14_TableOthers_j5 (j : Int) false = some (.inl ((j + 1 : Nat) : Int)) := by
            dsimp only [m_narthexlaw14_TableOthers_j5]; rw [ifb_false, wr_succ (by omega)]
          by_cases hw : (j : Int) = whoA k a b
          · rw [decide_eq_true hw, Bool.not_true, ifb_false, good]
          · have hid := ids hg hx
            have hy := h3 j _ hx (by rw [hid]; exact hw)
            rw [decide_eq_false hw, Bool.not_false, ifb_true, ln_eq, h2, decide_eq_false (by omega), ifb_false, at_get hx, Option.bind_some, at_get hy, Option.bind_some, s_r12SameOne _ _ (by have := f3 _ (List.getElem_mem hj); omega), Option.bind_some, decide_eq_true rfl, Bool.not_true, good]
        · dsimp only [m_narthexlaw14_TableOthers_l1]
          rw [nlt_len, ifb_false]
          dsimp only [m_narthexlaw14_TableOthers_j4]
          rw [ln_dec, h2, decide_eq_true rfl]; rfl
      by_cases hk2 : k = 2
      · rw [decide_eq_true hk2, ifb_true]; exact key b (by simp [whoA, hk2])
      · rw [decide_eq_false hk2, ifb_false]; exact key a (by simp [whoA, hk2])
    · rw [decide_eq_false h0, Bool.not_false, ifb_true, actA_none hk3 h0]
      have := s_Same14 scene0 scene0 ⟨by simp [scene0], by simp [scene0]⟩ (by simp [scene0])
      rw [decide_eq_true rfl] at this
      have e : m_narthexref14_Same scene0 ⟨[], []⟩ = some true := this
      rw [e]; rfl
end NX
end Go.Proofs.Ytadebhbiglmodaa
