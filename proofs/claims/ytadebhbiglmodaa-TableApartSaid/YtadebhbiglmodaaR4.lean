/-
  The function narthex/dine.Check: its code compiled, a model, and that the code answers as the model. Written by a program of ours (lb.py). No statement of the seat is proved here.
-/
import Derived.KernelRfl
import Derived.Test.YtadebhbiglmodaaR3
import Derived.Test.YtadebhbiglmodaaR2
namespace Go.Proofs.Ytadebhbiglmodaa
namespace NX
open Go
set_option maxRecDepth 100000
set_option maxHeartbeats 4000000
def e103 : EC := .seq (.reg [⟨(some 1), none, .box 39 3 (.t 0)⟩, ⟨(some 2), none, .mv (.c (.iv 0))⟩]) (.seq (.reg [⟨(some 3), none, .alloc 3 [.iv 0]⟩, ⟨none, none, .store 1 (.t 3) (.c (.iv (-1)))⟩]) (.seq (.reg [⟨(some 5), none, .mkf 123 [(.t 3), (.t 1)]⟩, ⟨(some 4), none, .mv (.t 5)⟩]) (.seq (.seq (.reg [⟨(some 6), none, .fld 0 (.t 1)⟩, ⟨(some 7), none, .load (.t 6)⟩, ⟨(some 8), none, .bin .lss (.t 7) (.c (.iv 0))⟩, ⟨(some 9), none, .mv (.t 8)⟩, ⟨(some 10), (some (9, false)), .fld 1 (.t 1)⟩, ⟨(some 11), (some (9, false)), .load (.t 10)⟩, ⟨(some 12), (some (9, false)), .bin .lss (.t 11) (.c (.iv 0))⟩, ⟨(some 13), none, .pick (.t 9) (.c .tt) (.t 12)⟩, ⟨(some 14), none, .mv (.t 13)⟩, ⟨(some 15), (some (14, false)), .fld 1 (.t 1)⟩, ⟨(some 16), (some (14, false)), .load (.t 15)⟩, ⟨(some 17), (some (14, false)), .bin .gtr (.t 16) (.c (.iv 2))⟩, ⟨(some 18), none, .pick (.t 14) (.c .tt) (.t 17)⟩, ⟨(some 19), none, .mv (.t 18)⟩, ⟨(some 20), (some (19, false)), .fld 2 (.t 1)⟩, ⟨(some 21), (some (19, false)), .load (.t 20)⟩, ⟨(some 22), (some (19, false)), .len (.t 21)⟩, ⟨(some 23), (some (19, false)), .bin .geq (.t 22) (.c (.iv 64))⟩, ⟨(some 24), none, .pick (.t 19) (.c .tt) (.t 23)⟩, ⟨(some 25), none, .mv (.t 24)⟩, ⟨(some 26), (some (25, false)), .fld 2 (.t 1)⟩, ⟨(some 27), (some (25, false)), .load (.t 26)⟩, ⟨(some 28), (some (25, false)), .mv (.t 4)⟩, ⟨(some 29), (some (25, false)), .call 124 [(.t 27), (.t 28)]⟩, ⟨(some 30), none, .pick (.t 25) (.c .tt) (.t 29)⟩]) (.ite (.t 30) (.seq (.reg [⟨(some 2), none, .mv (.c (.iv 130))⟩]) (.ret)) (.skip))) (.seq (.reg [⟨(some 2), none, .mv (.c (.iv 0))⟩]) (.ret)))))
theorem ok103 : FnOK Try.prog 103 Try.f103 e103 [.t 2] 1 30 := ⟨by kernel_rfl, ⟨_, rfl, by kernel_rfl⟩, by kernel_rfl, by kernel_rfl⟩
/- narthex/dine.Check$1, lent own memory -/
noncomputable def m_dine_Check_1_in_dine_Check_3_j2  : Bool → Option Bool
| x5 =>
 some x5
noncomputable def m_dine_Check_1_in_dine_Check_3_j1 (x1 : Side) : Bool → Option Bool
| x4 =>
 ifb (!x4) (
 m_dine_Check_1_in_dine_Check_3_j2 true) (
 ifb (decide (x1.Epoch < 0)) (
 m_dine_Check_1_in_dine_Check_3_j2 true) (
 ifb (decide (65535 < x1.Epoch)) (
 m_dine_Check_1_in_dine_Check_3_j2 true) (
 ifb (decide (x1.State < 0)) (
 m_dine_Check_1_in_dine_Check_3_j2 true) (
 ifb (decide (3 < x1.State)) (
 m_dine_Check_1_in_dine_Check_3_j2 true) (
 ifb x1.Dirty (
 m_dine_Check_1_in_dine_Check_3_j2 (!x1.Fork)) (
 m_dine_Check_1_in_dine_Check_3_j2 false))))))
noncomputable def m_dine_Check_1_in_dine_Check_3 (x1 : Side) (x2 : Diner) (x3 : Int) : Option Bool :=
 ifb (decide (x3 < x1.Peer)) (
 (m_dine_Check_1_in_dine_Check_3_j1 x1) (!decide (x1.Peer = x2.ID))) (
 (m_dine_Check_1_in_dine_Check_3_j1 x1) false)
theorem t_dine_Check_1_in_dine_Check_3 (x1 : Side) (x2 : Diner) (x3 : Int) (r : Bool) (h : m_dine_Check_1_in_dine_Check_3 x1 x2 x3 = some r) : FunT Try.prog 123 [.agg [.iv x1.Peer, .iv x1.Epoch, .iv x1.State, .bv x1.Fork, .bv x1.Dirty, .bv x1.Token, .bv x1.Bottle, .bv x1.Ask], .ptr 1 0, .ptr 0 0] [some ⟨39, [.iv x2.ID, .iv x2.Phase, .sl 8 (List.map Side.row x2.Sides)]⟩, some ⟨3, [.iv x3]⟩] [] (.bv r) [some ⟨39, [.iv x2.ID, .iv x2.Phase, .sl 8 (List.map Side.row x2.Sides)]⟩, some ⟨3, [.iv x1.Peer]⟩] [] := by
  refine FunT_intro ok123 rfl rfl rfl (by first | rfl | simp [go_sem]) fun w0 M0 => ?_
  rw [m_dine_Check_1_in_dine_Check_3] at h
  dsimp only [lun, List.cons_append, List.nil_append]
  refine V_go 12 ?_; dsimp only [e123, go_sem, Nat.reduceBEq, Nat.reduceAdd]; refine ⟨by simp, ?_⟩; refine V_join (fun (x4 : Bool) => (⟨(.any :: .ptr 1 0 :: .any :: .ptr 2 0 :: .any :: .bv x4 :: an 44 []), [some ⟨39, [.iv x2.ID, .iv x2.Phase, .sl 8 (List.map Side.row x2.Sides)]⟩, some ⟨3, [.iv x3]⟩, some ⟨49, [.iv x1.Peer, .iv x1.Epoch, .iv x1.State, .bv x1.Fork, .bv x1.Dirty, .bv x1.Token, .bv x1.Bottle, .bv x1.Ask]⟩], []⟩ : St)) (m_dine_Check_1_in_dine_Check_3_j1 x1) r ?_ fun J1 => ?_
  ·intro x4 h; rw [m_dine_Check_1_in_dine_Check_3_j1] at h; (try dsimp only); refine V_go 11 ?_; dsimp only [e123, go_sem, Nat.reduceBEq, Nat.reduceAdd]; refine ⟨by simp, ?_⟩; refine V_join (fun (x5 : Bool) => (⟨(an 4 (.bv x5 :: an 45 [])), [some ⟨39, [.iv x2.ID, .iv x2.Phase, .sl 8 (List.map Side.row x2.Sides)]⟩, some ⟨3, [.iv x1.Peer]⟩], []⟩ : St)) m_dine_Check_1_in_dine_Check_3_j2 r ?_ fun J2 => ?_
   ·intro x5 h; rw [m_dine_Check_1_in_dine_Check_3_j2] at h; (try dsimp only); obtain rfl := Option.some.inj h; exact T_done ok123 rfl (by simp [go_sem])
   ·refine M_case 21 h rfl (fun _ h => ?_) fun _ h => ?_
    ·dsimp only [go_sem, Nat.reduceBEq, Nat.reduceAdd]; refine V_go 30 ?_; dsimp only [e123, go_sem, Nat.reduceBEq, Nat.reduceAdd]; refine ⟨by simp, ?_⟩; exact M_to J2 (s := true) h
    ·dsimp only [go_sem, Nat.reduceBEq, Nat.reduceAdd]; refine V_go 5 ?_; dsimp only [e123, go_sem, Nat.reduceBEq, Nat.reduceAdd]; refine ⟨by simp, ?_⟩; refine M_case 26 h rfl (fun _ h => ?_) fun _ h => ?_
     ·dsimp only [go_sem, Nat.reduceBEq, Nat.reduceAdd]; refine V_go 25 ?_; dsimp only [e123, go_sem, Nat.reduceBEq, Nat.reduceAdd]; refine ⟨by simp, ?_⟩; exact M_to J2 (s := true) h
     ·dsimp only [go_sem, Nat.reduceBEq, Nat.reduceAdd]; refine V_go 5 ?_; dsimp only [e123, go_sem, Nat.reduceBEq, Nat.reduceAdd]; refine ⟨by simp, ?_⟩; refine M_case 31 h rfl (fun _ h => ?_) fun _ h => ?_
      ·dsimp only [go_sem, Nat.reduceBEq, Nat.reduceAdd]; refine V_go 20 ?_; dsimp only [e123, go_sem, Nat.reduceBEq, Nat.reduceAdd]; refine ⟨by simp, ?_⟩; exact M_to J2 (s := true) h
      ·dsimp only [go_sem, Nat.reduceBEq, Nat.reduceAdd]; refine V_go 5 ?_; dsimp only [e123, go_sem, Nat.reduceBEq, Nat.reduceAdd]; refine ⟨by simp, ?_⟩; refine M_case 36 h rfl (fun _ h => ?_) fun _ h => ?_
       ·dsimp only [go_sem, Nat.reduceBEq, Nat.reduceAdd]; refine V_go 15 ?_; dsimp only [e123, go_sem, Nat.reduceBEq, Nat.reduceAdd]; refine ⟨by simp, ?_⟩; exact M_to J2 (s := true) h
       ·dsimp only [go_sem, Nat.reduceBEq, Nat.reduceAdd]; refine V_go 5 ?_; dsimp only [e123, go_sem, Nat.reduceBEq, Nat.reduceAdd]; refine ⟨by simp, ?_⟩; refine M_case 41 h rfl (fun _ h => ?_) fun _ h => ?_
        ·dsimp only [go_sem, Nat.reduceBEq, Nat.reduceAdd]; refine V_go 10 ?_; dsimp only [e123, go_sem, Nat.reduceBEq, Nat.reduceAdd]; refine ⟨by simp, ?_⟩; exact M_to J2 (s := true) h
        ·dsimp only [go_sem, Nat.reduceBEq, Nat.reduceAdd]; refine V_go 3 ?_; dsimp only [e123, go_sem, Nat.reduceBEq, Nat.reduceAdd]; refine ⟨by simp, ?_⟩; refine M_case 44 h rfl (fun _ h => ?_) fun _ h => ?_
         ·dsimp only [go_sem, Nat.reduceBEq, Nat.reduceAdd]; refine V_go 7 ?_; dsimp only [e123, go_sem, Nat.reduceBEq, Nat.reduceAdd]; refine ⟨by simp, ?_⟩; exact M_to J2 (s := !x1.Fork) h
         ·dsimp only [go_sem, Nat.reduceBEq, Nat.reduceAdd]; refine V_go 7 ?_; dsimp only [e123, go_sem, Nat.reduceBEq, Nat.reduceAdd]; refine ⟨by simp, ?_⟩; exact M_to J2 (s := false) h
  ·refine M_case 10 h rfl (fun _ h => ?_) fun _ h => ?_
   ·dsimp only [go_sem, Nat.reduceBEq, Nat.reduceAdd]; refine V_go 8 ?_; dsimp only [e123, go_sem, Nat.reduceBEq, Nat.reduceAdd]; refine ⟨by simp, ?_⟩; exact M_to J1 (s := !decide (x1.Peer = x2.ID)) h
   ·dsimp only [go_sem, Nat.reduceBEq, Nat.reduceAdd]; refine V_go 8 ?_; dsimp only [e123, go_sem, Nat.reduceBEq, Nat.reduceAdd]; refine ⟨by simp, ?_⟩; exact M_to J1 (s := false) h
def f_dine_Check_1_in_dine_Check_3_j2 (_F : Nat)  : Bool → Option Bool
| x5 =>
 some x5
theorem le_dine_Check_1_in_dine_Check_3_j2 {F : Nat} : ∀ s, ole (f_dine_Check_1_in_dine_Check_3_j2 F s) (m_dine_Check_1_in_dine_Check_3_j2 s) := by
  intro x5
  unfold f_dine_Check_1_in_dine_Check_3_j2 m_dine_Check_1_in_dine_Check_3_j2
  try dsimp only
  with_reducible repeat' first | exact ole_refl _ | assumption | intro _ | refine ole_ifb ?_ ?_ | refine ole_bind ?_ ?_ | refine ole_map ?_ | refine ole_loop ?_
def f_dine_Check_1_in_dine_Check_3_j1 (F : Nat) (x1 : Side) : Bool → Option Bool
| x4 =>
 ifb (!x4) (
 f_dine_Check_1_in_dine_Check_3_j2 F true) (
 ifb (decide (x1.Epoch < 0)) (
 f_dine_Check_1_in_dine_Check_3_j2 F true) (
 ifb (decide (65535 < x1.Epoch)) (
 f_dine_Check_1_in_dine_Check_3_j2 F true) (
 ifb (decide (x1.State < 0)) (
 f_dine_Check_1_in_dine_Check_3_j2 F true) (
 ifb (decide (3 < x1.State)) (
 f_dine_Check_1_in_dine_Check_3_j2 F true) (
 ifb x1.Dirty (
 f_dine_Check_1_in_dine_Check_3_j2 F (!x1.Fork)) (
 f_dine_Check_1_in_dine_Check_3_j2 F false))))))
theorem le_dine_Check_1_in_dine_Check_3_j1 {F : Nat} {x1 : Side} : ∀ s, ole (f_dine_Check_1_in_dine_Check_3_j1 F x1 s) (m_dine_Check_1_in_dine_Check_3_j1 x1 s) := by
  intro x4
  unfold f_dine_Check_1_in_dine_Check_3_j1 m_dine_Check_1_in_dine_Check_3_j1
  try dsimp only
  with_reducible repeat' first | exact ole_refl _ | assumption | intro _ | refine ole_ifb ?_ ?_ | refine ole_bind ?_ ?_ | refine ole_map ?_ | refine ole_loop ?_ | apply le_dine_Check_1_in_dine_Check_3_j2
def f_dine_Check_1_in_dine_Check_3 (F : Nat) (x1 : Side) (x2 : Diner) (x3 : Int) : Option Bool :=
 ifb (decide (x3 < x1.Peer)) (
 (f_dine_Check_1_in_dine_Check_3_j1 F x1) (!decide (x1.Peer = x2.ID))) (
 (f_dine_Check_1_in_dine_Check_3_j1 F x1) false)
theorem le_dine_Check_1_in_dine_Check_3 {F : Nat} {x1 : Side} {x2 : Diner} {x3 : Int} : ole (f_dine_Check_1_in_dine_Check_3 F x1 x2 x3) (m_dine_Check_1_in_dine_Check_3 x1 x2 x3) := by
  unfold f_dine_Check_1_in_dine_Check_3 m_dine_Check_1_in_dine_Check_3
  with_reducible repeat' first | exact ole_refl _ | assumption | intro _ | refine ole_ifb ?_ ?_ | refine ole_bind ?_ ?_ | refine ole_map ?_ | refine ole_loop ?_ | apply le_dine_Check_1_in_dine_Check_3_j2 | apply le_dine_Check_1_in_dine_Check_3_j1
/- slices.IndexFunc[[]narthex/api.Side,narthex/api.Side], lent own memory -/
noncomputable def m_slices_IndexFunc_Side_in_dine_Check_2_j1  : Int → Option (Int × Int)
| x19 =>
 some ((-1), x19)
noncomputable def m_slices_IndexFunc_Side_in_dine_Check_2_l1 (x1 : (List Side)) (x2 : Diner) : (Int × Int) → Option ((Int × Int) ⊕ (Int × Int))
| (x8, x9) =>
 ifb (decide (x8 < (ln Side.row x1))) (
 (at_ x1 x8).bind fun x10 =>
 (m_dine_Check_1_in_dine_Check_3 x10 x2 x9).bind fun x11 =>
 ifb x11 (
 Option.map Sum.inr (some (x8, x10.Peer))) (
 some (.inl (wr (x8 + 1), x10.Peer)))) (
 Option.map Sum.inr (m_slices_IndexFunc_Side_in_dine_Check_2_j1 x9))
noncomputable def m_slices_IndexFunc_Side_in_dine_Check_2 (x1 : (List Side)) (x2 : Diner) (x3 : Int) : Option (Int × Int) :=
 loop (m_slices_IndexFunc_Side_in_dine_Check_2_l1 x1 x2) (0, x3)
theorem t_slices_IndexFunc_Side_in_dine_Check_2 (x1 : (List Side)) (x2 : Diner) (x3 : Int) (r : (Int × Int)) (h : m_slices_IndexFunc_Side_in_dine_Check_2 x1 x2 x3 = some r) : FunT Try.prog 55 [.sl 8 (List.map Side.row x1), .clo 123 [.ptr 1 0, .ptr 0 0]] [some ⟨39, [.iv x2.ID, .iv x2.Phase, .sl 8 (List.map Side.row x2.Sides)]⟩, some ⟨3, [.iv x3]⟩] [] (.iv r.1) [some ⟨39, [.iv x2.ID, .iv x2.Phase, .sl 8 (List.map Side.row x2.Sides)]⟩, some ⟨3, [.iv r.2]⟩] [] := by
  refine FunT_intro ok55 rfl rfl rfl (by first | rfl | simp [go_sem]) fun w0 M0 => ?_
  rw [m_slices_IndexFunc_Side_in_dine_Check_2] at h
  dsimp only [lun, List.cons_append, List.nil_append]
  refine V_go 11 ?_; dsimp only [e55, e55_L0, go_sem, Nat.reduceBEq, Nat.reduceAdd]; refine ⟨by simp, ?_⟩; refine V_join (fun (x19 : Int) => (⟨(an 19 []), [some ⟨39, [.iv x2.ID, .iv x2.Phase, .sl 8 (List.map Side.row x2.Sides)]⟩, some ⟨3, [.iv x19]⟩], []⟩ : St)) m_slices_IndexFunc_Side_in_dine_Check_2_j1 r ?_ fun J1 => ?_
  ·intro x19 h; rw [m_slices_IndexFunc_Side_in_dine_Check_2_j1] at h; (try dsimp only); refine V_go 4 ?_; dsimp only [e55, e55_L0, go_sem, Nat.reduceBEq, Nat.reduceAdd]; refine ⟨by simp, ?_⟩; obtain rfl := Option.some.inj h; exact T_done ok55 rfl (by simp [go_sem])
  ·refine V_go 1 ?_; dsimp only [e55, e55_L0, go_sem, Nat.reduceBEq, Nat.reduceAdd]; refine ⟨by simp, ?_⟩; refine M_loop h (fun ((x8, x9) : (Int × Int)) => (⟨(.sl 8 (List.map Side.row x1) :: .clo 123 [.ptr 1 0, .ptr 0 0] :: an 5 (.iv (ln Side.row x1) :: .iv x8 :: an 10 [])), [some ⟨39, [.iv x2.ID, .iv x2.Phase, .sl 8 (List.map Side.row x2.Sides)]⟩, some ⟨3, [.iv x9]⟩], []⟩ : St)) (by simp [go_sem]) (by rintro ⟨x8, x9⟩; first | rfl | simp [go_sem]) ?_; rintro n1 ⟨x8, x9⟩ y1 h hin1 hout1; rw [m_slices_IndexFunc_Side_in_dine_Check_2_l1] at h; (try dsimp only); refine V_go 5 ?_
   dsimp only [e55, e55_L0, go_sem, Nat.reduceBEq, Nat.reduceAdd]; refine ⟨by simp, ?_⟩; refine M_ite h rfl (fun _ h => ?_) fun _ h => ?_
   ·refine V_go 13 ?_; dsimp only [e55, e55_L0, go_sem, Nat.reduceBEq, Nat.reduceAdd]; refine ⟨by simp, ?_⟩; obtain ⟨x10, ex10, h⟩ := Option.bind_eq_some_iff.1 h; refine V_idxM Side.row ex10 trivial rfl rfl rfl ?_; refine V_go 1 ?_; dsimp only [e55, e55_L0, go_sem, Nat.reduceBEq, Nat.reduceAdd]; refine ⟨by simp, ?_⟩; obtain ⟨x11, ex11, h⟩ := Option.bind_eq_some_iff.1 h; refine V_callvT [true, true] [] trivial rfl (t_dine_Check_1_in_dine_Check_3 x10 x2 x9 _ ex11) (by kernel_rfl) (h := ?_); dsimp only [go_sem, Nat.reduceBEq, Nat.reduceAdd]; refine V_go 1 ?_
    dsimp only [e55, e55_L0, go_sem, Nat.reduceBEq, Nat.reduceAdd]; refine ⟨by simp, ?_⟩; refine M_ite h rfl (fun _ h => ?_) fun _ h => ?_
    ·refine V_go 5 ?_; dsimp only [e55, e55_L0, go_sem, Nat.reduceBEq, Nat.reduceAdd]; refine ⟨by simp, ?_⟩; obtain rfl := Option.some.inj (M_out h hout1); exact T_done ok55 rfl (by simp [go_sem])
    ·refine V_go 6 ?_; dsimp only [e55, e55_L0, go_sem, Nat.reduceBEq, Nat.reduceAdd]; refine ⟨by simp, ?_⟩; exact M_back h hin1
   ·refine V_go 1 ?_; dsimp only [e55, e55_L0, go_sem, Nat.reduceBEq, Nat.reduceAdd]; refine ⟨by simp, ?_⟩; exact M_to J1 (s := x9) (M_out h hout1)
def f_slices_IndexFunc_Side_in_dine_Check_2_j1 (_F : Nat)  : Int → Option (Int × Int)
| x19 =>
 some ((-1), x19)
theorem le_slices_IndexFunc_Side_in_dine_Check_2_j1 {F : Nat} : ∀ s, ole (f_slices_IndexFunc_Side_in_dine_Check_2_j1 F s) (m_slices_IndexFunc_Side_in_dine_Check_2_j1 s) := by
  intro x19
  unfold f_slices_IndexFunc_Side_in_dine_Check_2_j1 m_slices_IndexFunc_Side_in_dine_Check_2_j1
  try dsimp only
  with_reducible repeat' first | exact ole_refl _ | assumption | intro _ | refine ole_ifb ?_ ?_ | refine ole_bind ?_ ?_ | refine ole_map ?_ | refine ole_loop ?_
def f_slices_IndexFunc_Side_in_dine_Check_2_l1 (F : Nat) (x1 : (List Side)) (x2 : Diner) : (Int × Int) → Option ((Int × Int) ⊕ (Int × Int))
| (x8, x9) =>
 ifb (decide (x8 < (ln Side.row x1))) (
 (at_ x1 x8).bind fun x10 =>
 (f_dine_Check_1_in_dine_Check_3 F x10 x2 x9).bind fun x11 =>
 ifb x11 (
 Option.map Sum.inr (some (x8, x10.Peer))) (
 some (.inl (wr (x8 + 1), x10.Peer)))) (
 Option.map Sum.inr (f_slices_IndexFunc_Side_in_dine_Check_2_j1 F x9))
theorem le_slices_IndexFunc_Side_in_dine_Check_2_l1 {F : Nat} {x1 : (List Side)} {x2 : Diner} : ∀ s, ole (f_slices_IndexFunc_Side_in_dine_Check_2_l1 F x1 x2 s) (m_slices_IndexFunc_Side_in_dine_Check_2_l1 x1 x2 s) := by
  rintro ⟨x8, x9⟩
  unfold f_slices_IndexFunc_Side_in_dine_Check_2_l1 m_slices_IndexFunc_Side_in_dine_Check_2_l1
  try dsimp only
  with_reducible repeat' first | exact ole_refl _ | assumption | intro _ | refine ole_ifb ?_ ?_ | refine ole_bind ?_ ?_ | refine ole_map ?_ | refine ole_loop ?_ | apply le_slices_IndexFunc_Side_in_dine_Check_2_j1 | apply le_dine_Check_1_in_dine_Check_3
def f_slices_IndexFunc_Side_in_dine_Check_2 (F : Nat) (x1 : (List Side)) (x2 : Diner) (x3 : Int) : Option (Int × Int) :=
 loopF F (f_slices_IndexFunc_Side_in_dine_Check_2_l1 F x1 x2) (0, x3)
theorem le_slices_IndexFunc_Side_in_dine_Check_2 {F : Nat} {x1 : (List Side)} {x2 : Diner} {x3 : Int} : ole (f_slices_IndexFunc_Side_in_dine_Check_2 F x1 x2 x3) (m_slices_IndexFunc_Side_in_dine_Check_2 x1 x2 x3) := by
  unfold f_slices_IndexFunc_Side_in_dine_Check_2 m_slices_IndexFunc_Side_in_dine_Check_2
  with_reducible repeat' first | exact ole_refl _ | assumption | intro _ | refine ole_ifb ?_ ?_ | refine ole_bind ?_ ?_ | refine ole_map ?_ | refine ole_loop ?_ | apply le_slices_IndexFunc_Side_in_dine_Check_2_j1 | apply le_dine_Check_1_in_dine_Check_3 | apply le_slices_IndexFunc_Side_in_dine_Check_2_l1
/- slices.ContainsFunc[[]narthex/api.Side,narthex/api.Side], lent own memory -/
noncomputable def m_slices_ContainsFunc_Side_in_dine_Check_1 (x1 : (List Side)) (x2 : Diner) (x3 : Int) : Option (Bool × Int) :=
 (m_slices_IndexFunc_Side_in_dine_Check_2 x1 x2 x3).bind fun x4 =>
 some (decide (0 ≤ x4.1), x4.2)
theorem t_slices_ContainsFunc_Side_in_dine_Check_1 (x1 : (List Side)) (x2 : Diner) (x3 : Int) (r : (Bool × Int)) (h : m_slices_ContainsFunc_Side_in_dine_Check_1 x1 x2 x3 = some r) : FunT Try.prog 124 [.sl 8 (List.map Side.row x1), .clo 123 [.ptr 1 0, .ptr 0 0]] [some ⟨39, [.iv x2.ID, .iv x2.Phase, .sl 8 (List.map Side.row x2.Sides)]⟩, some ⟨3, [.iv x3]⟩] [] (.bv r.1) [some ⟨39, [.iv x2.ID, .iv x2.Phase, .sl 8 (List.map Side.row x2.Sides)]⟩, some ⟨3, [.iv r.2]⟩] [] := by
  refine FunT_intro ok124 rfl rfl rfl (by first | rfl | simp [go_sem]) fun w0 M0 => ?_
  rw [m_slices_ContainsFunc_Side_in_dine_Check_1] at h
  dsimp only [lun, List.cons_append, List.nil_append]
  refine V_go 8 ?_; dsimp only [e124, go_sem, Nat.reduceBEq, Nat.reduceAdd]; refine ⟨by simp, ?_⟩; obtain ⟨x4, ex4, h⟩ := Option.bind_eq_some_iff.1 h; refine V_callT [true, true] [] trivial (t_slices_IndexFunc_Side_in_dine_Check_2 x1 x2 x3 _ ex4) (h := ?_); dsimp only [go_sem, Nat.reduceBEq, Nat.reduceAdd]; refine V_go 3 ?_; dsimp only [e124, go_sem, Nat.reduceBEq, Nat.reduceAdd]; refine ⟨by simp, ?_⟩; obtain rfl := Option.some.inj h; exact T_done ok124 rfl (by simp [go_sem])
def f_slices_ContainsFunc_Side_in_dine_Check_1 (F : Nat) (x1 : (List Side)) (x2 : Diner) (x3 : Int) : Option (Bool × Int) :=
 (f_slices_IndexFunc_Side_in_dine_Check_2 F x1 x2 x3).bind fun x4 =>
 some (decide (0 ≤ x4.1), x4.2)
theorem le_slices_ContainsFunc_Side_in_dine_Check_1 {F : Nat} {x1 : (List Side)} {x2 : Diner} {x3 : Int} : ole (f_slices_ContainsFunc_Side_in_dine_Check_1 F x1 x2 x3) (m_slices_ContainsFunc_Side_in_dine_Check_1 x1 x2 x3) := by
  unfold f_slices_ContainsFunc_Side_in_dine_Check_1 m_slices_ContainsFunc_Side_in_dine_Check_1
  with_reducible repeat' first | exact ole_refl _ | assumption | intro _ | refine ole_ifb ?_ ?_ | refine ole_bind ?_ ?_ | refine ole_map ?_ | refine ole_loop ?_ | apply le_slices_IndexFunc_Side_in_dine_Check_2
/- narthex/dine.Check -/
noncomputable def m_dine_Check_j1  : Bool → Option Int
| x3 =>
 ifb x3 (
 some 130) (
 some 0)
noncomputable def m_dine_Check (x1 : Diner) : Option Int :=
 ifb (decide (x1.ID < 0)) (
 m_dine_Check_j1 true) (
 ifb (decide (x1.Phase < 0)) (
 m_dine_Check_j1 true) (
 ifb (decide (2 < x1.Phase)) (
 m_dine_Check_j1 true) (
 ifb (decide (64 ≤ (ln Side.row x1.Sides))) (
 m_dine_Check_j1 true) (
 (m_slices_ContainsFunc_Side_in_dine_Check_1 x1.Sides x1 ((-1))).bind fun x2 =>
 m_dine_Check_j1 x2.1))))
theorem k_dine_Check (x1 : Diner) (r : Int) (h : m_dine_Check x1 = some r) : FunP Try.prog 103 [.agg (Diner.row x1)] (.iv r) := by
  refine FunP_intro ok103 rfl rfl fun w0 H0 => ?_
  rw [m_dine_Check] at h
  refine V_go 22 ?_; dsimp only [e103, go_sem, Nat.reduceBEq, Nat.reduceAdd]; refine ⟨by simp, ?_⟩; refine V_join (fun (x3 : Bool) => (⟨(an 30 [.bv x3]), [], []⟩ : St)) m_dine_Check_j1 r ?_ fun J1 => ?_
  ·intro x3 h; rw [m_dine_Check_j1] at h; (try dsimp only); refine M_ite h rfl (fun _ h => ?_) fun _ h => ?_
   ·refine V_go 4 ?_; dsimp only [e103, go_sem, Nat.reduceBEq, Nat.reduceAdd]; refine ⟨by simp, ?_⟩; exact M_done (res := fun (r : Int) => .iv r) ok103 h
   ·refine V_go 5 ?_; dsimp only [e103, go_sem, Nat.reduceBEq, Nat.reduceAdd]; refine ⟨by simp, ?_⟩; exact M_done (res := fun (r : Int) => .iv r) ok103 h
  ·refine M_case 9 h rfl (fun _ h => ?_) fun _ h => ?_
   ·dsimp only [go_sem, Nat.reduceBEq, Nat.reduceAdd]; refine V_go 22 ?_; dsimp only [e103, go_sem, Nat.reduceBEq, Nat.reduceAdd]; refine ⟨by simp, ?_⟩; exact M_to J1 (s := true) h
   ·dsimp only [go_sem, Nat.reduceBEq, Nat.reduceAdd]; refine V_go 5 ?_; dsimp only [e103, go_sem, Nat.reduceBEq, Nat.reduceAdd]; refine ⟨by simp, ?_⟩; refine M_case 14 h rfl (fun _ h => ?_) fun _ h => ?_
    ·dsimp only [go_sem, Nat.reduceBEq, Nat.reduceAdd]; refine V_go 17 ?_; dsimp only [e103, go_sem, Nat.reduceBEq, Nat.reduceAdd]; refine ⟨by simp, ?_⟩; exact M_to J1 (s := true) h
    ·dsimp only [go_sem, Nat.reduceBEq, Nat.reduceAdd]; refine V_go 5 ?_; dsimp only [e103, go_sem, Nat.reduceBEq, Nat.reduceAdd]; refine ⟨by simp, ?_⟩; refine M_case 19 h rfl (fun _ h => ?_) fun _ h => ?_
     ·dsimp only [go_sem, Nat.reduceBEq, Nat.reduceAdd]; refine V_go 12 ?_; dsimp only [e103, go_sem, Nat.reduceBEq, Nat.reduceAdd]; refine ⟨by simp, ?_⟩; exact M_to J1 (s := true) h
     ·dsimp only [go_sem, Nat.reduceBEq, Nat.reduceAdd]; refine V_go 6 ?_; dsimp only [e103, go_sem, Nat.reduceBEq, Nat.reduceAdd]; refine ⟨by simp, ?_⟩; refine M_case 25 h rfl (fun _ h => ?_) fun _ h => ?_
      ·dsimp only [go_sem, Nat.reduceBEq, Nat.reduceAdd]; refine V_go 6 ?_; dsimp only [e103, go_sem, Nat.reduceBEq, Nat.reduceAdd]; refine ⟨by simp, ?_⟩; exact M_to J1 (s := true) h
      ·dsimp only [go_sem, Nat.reduceBEq, Nat.reduceAdd]; refine V_go 3 ?_; dsimp only [e103, go_sem, Nat.reduceBEq, Nat.reduceAdd]; refine ⟨by simp, ?_⟩; obtain ⟨x2, ex2, h⟩ := Option.bind_eq_some_iff.1 h; refine V_callT [true, true] [] trivial (t_slices_ContainsFunc_Side_in_dine_Check_1 x1.Sides x1 ((-1)) _ ex2) (h := ?_); dsimp only [go_sem, Nat.reduceBEq, Nat.reduceAdd]; refine V_go 2 ?_; dsimp only [e103, go_sem, Nat.reduceBEq, Nat.reduceAdd]; refine ⟨by simp, ?_⟩; exact M_to J1 (s := x2.1) h
def f_dine_Check_j1 (_F : Nat)  : Bool → Option Int
| x3 =>
 ifb x3 (
 some 130) (
 some 0)
theorem le_dine_Check_j1 {F : Nat} : ∀ s, ole (f_dine_Check_j1 F s) (m_dine_Check_j1 s) := by
  intro x3
  unfold f_dine_Check_j1 m_dine_Check_j1
  try dsimp only
  with_reducible repeat' first | exact ole_refl _ | assumption | intro _ | refine ole_ifb ?_ ?_ | refine ole_bind ?_ ?_ | refine ole_map ?_ | refine ole_loop ?_
def f_dine_Check (F : Nat) (x1 : Diner) : Option Int :=
 ifb (decide (x1.ID < 0)) (
 f_dine_Check_j1 F true) (
 ifb (decide (x1.Phase < 0)) (
 f_dine_Check_j1 F true) (
 ifb (decide (2 < x1.Phase)) (
 f_dine_Check_j1 F true) (
 ifb (decide (64 ≤ (ln Side.row x1.Sides))) (
 f_dine_Check_j1 F true) (
 (f_slices_ContainsFunc_Side_in_dine_Check_1 F x1.Sides x1 ((-1))).bind fun x2 =>
 f_dine_Check_j1 F x2.1))))
theorem le_dine_Check {F : Nat} {x1 : Diner} : ole (f_dine_Check F x1) (m_dine_Check x1) := by
  unfold f_dine_Check m_dine_Check
  with_reducible repeat' first | exact ole_refl _ | assumption | intro _ | refine ole_ifb ?_ ?_ | refine ole_bind ?_ ?_ | refine ole_map ?_ | refine ole_loop ?_ | apply le_dine_Check_j1 | apply le_slices_ContainsFunc_Side_in_dine_Check_1
end NX
end Go.Proofs.Ytadebhbiglmodaa
/-
  The function slices.Clone[[]narthex/api.Side,narthex/api.Side]: its code compiled, a model, and that the code answers as the model. Written by a program of ours (lb.py). No statement of the seat is proved here.
-/
namespace Go.Proofs.Ytadebhbiglmodaa
namespace NX
open Go
set_option maxRecDepth 100000
set_option maxHeartbeats 4000000
def e121 : EC := .seq (.reg [⟨(some 2), none, .mv (.c .nl)⟩]) (.seq (.seq (.reg [⟨(some 3), none, .mv (.t 0)⟩, ⟨(some 4), none, .isnil false (.t 3)⟩]) (.ite (.t 4) (.seq (.reg [⟨(some 2), none, .mv (.c .nl)⟩]) (.ret)) (.skip))) (.seq (.reg [⟨(some 5), none, .bsl 49 8 0 [.iv 0, .iv 0, .iv 0, .ff, .ff, .ff, .ff, .ff] []⟩, ⟨(some 6), none, .mv (.t 0)⟩, ⟨(some 7), none, .app 49 8 32 (.t 5) (.t 6)⟩, ⟨(some 2), none, .mv (.t 7)⟩]) (.ret)))
theorem ok121 : FnOK Try.prog 121 Try.f121 e121 [.t 2] 1 7 := ⟨by kernel_rfl, ⟨_, rfl, by kernel_rfl⟩, by kernel_rfl, by kernel_rfl⟩
/- slices.Clone[[]narthex/api.Side,narthex/api.Side] -/
noncomputable def m_slices_Clone_Side (x1 : (List Side)) : Option (List Side) := app_ 32 [] x1
theorem o_slices_Clone_Side (x1 : (List Side)) (r : (List Side)) (h : m_slices_Clone_Side x1 = some r) : FunO Try.prog 121 [.sl 8 (List.map Side.row x1)] 49 8 (List.map Side.row r) := by
  refine FunO_intro ok121 rfl fun w0 H0 => ?_
  rw [m_slices_Clone_Side] at h
  refine V_go 100 ?_
  dsimp only [e121, go_sem, Nat.reduceBEq, Nat.reduceAdd]
  refine ⟨by simp, ?_⟩
  refine V_isnil trivial rfl (fun hn => ?_) ?_
  · refine V_go 100 ?_
    dsimp only [go_sem, Nat.reduceBEq, Nat.reduceAdd]
    refine ⟨by simp, ?_⟩
    refine V_own 2 49 8 rfl rfl ?_
    dsimp only [go_sem, Nat.reduceBEq, Nat.reduceAdd]
    have hn : x1 = [] := by simpa using hn
    subst hn
    exact O_doneM Side.row (e := []) ok121 (by simpa [app_] using h) rfl rfl
  · refine V_go 100 ?_
    dsimp only [go_sem, Nat.reduceBEq, Nat.reduceAdd]
    refine ⟨by simp, ?_⟩
    refine V_appM Side.row h trivial rfl rfl rfl ?_
    refine V_go 100 ?_
    dsimp only [go_sem, Nat.reduceBEq, Nat.reduceAdd]
    refine ⟨by simp, ?_⟩
    exact O_doneM Side.row ok121 (rfl : some r = some r) rfl rfl
theorem k_slices_Clone_Side (x1 : (List Side)) (r : (List Side)) (h : m_slices_Clone_Side x1 = some r) : FunP Try.prog 121 [.sl 8 (List.map Side.row x1)] (.sl 8 (List.map Side.row r)) := (o_slices_Clone_Side x1 r h).sealed
def f_slices_Clone_Side (_F : Nat) (x1 : (List Side)) : Option (List Side) := app_ 32 [] x1
theorem le_slices_Clone_Side {F : Nat} {x1 : (List Side)} : ole (f_slices_Clone_Side F x1) (m_slices_Clone_Side x1) := ole_refl _
end NX
end Go.Proofs.Ytadebhbiglmodaa
/-
  The function narthex/dine.turned: its code compiled, a model, and that the code answers as the model. Written by a program of ours (lb.py). No statement of the seat is proved here.
-/
namespace Go.Proofs.Ytadebhbiglmodaa
namespace NX
open Go
set_option maxRecDepth 100000
set_option maxHeartbeats 4000000
def e107 : EC := .seq (.reg [⟨(some 3), none, .box 39 3 (.t 0)⟩, ⟨(some 6), none, .alloc 39 [.iv 0, .iv 0, .nl]⟩, ⟨(some 7), none, .mv (.c (.iv 0))⟩]) (.seq (.reg [⟨(some 9), none, .loadA 3 (.t 3)⟩, ⟨(some 10), none, .call 103 [(.t 9)]⟩, ⟨(some 8), none, .mv (.t 10)⟩]) (.seq (.seq (.reg [⟨(some 11), none, .mv (.t 8)⟩, ⟨(some 12), none, .bin .eql (.t 11) (.c (.iv 0))⟩, ⟨(some 13), none, .mv (.t 12)⟩, ⟨(some 14), (some (13, true)), .fld 1 (.t 3)⟩, ⟨(some 15), (some (13, true)), .load (.t 14)⟩, ⟨(some 16), (some (13, true)), .mv (.t 1)⟩, ⟨(some 17), (some (13, true)), .bin .neq (.t 15) (.t 16)⟩, ⟨(some 18), none, .pick (.t 13) (.t 17) (.c .ff)⟩]) (.ite (.t 18) (.reg [⟨(some 8), none, .mv (.c (.iv 134))⟩]) (.skip))) (.seq (.seq (.reg [⟨(some 19), none, .mv (.t 8)⟩, ⟨(some 20), none, .bin .neq (.t 19) (.c (.iv 0))⟩]) (.ite (.t 20) (.seq (.reg [⟨(some 21), none, .build [.iv 0, .iv 0, .nl] []⟩, ⟨(some 22), none, .mv (.t 8)⟩, ⟨none, none, .store 3 (.t 6) (.t 21)⟩, ⟨(some 7), none, .mv (.t 22)⟩]) (.ret)) (.skip))) (.seq (.drw [⟨(some 23), none, .fld 0 (.t 3)⟩, ⟨(some 24), none, .load (.t 23)⟩, ⟨(some 25), none, .mv (.t 2)⟩, ⟨(some 26), none, .fld 2 (.t 3)⟩, ⟨(some 27), none, .load (.t 26)⟩, ⟨(some 28), none, .call 121 [(.t 27)]⟩, ⟨(some 29), none, .build [.iv 0, .iv 0, .nl] [(0, 1, (.t 24)), (1, 1, (.t 25)), (2, 1, (.t 28))]⟩, ⟨none, none, .store 3 (.t 6) (.t 29)⟩, ⟨(some 7), none, .mv (.c (.iv 0))⟩] [[], [0], [], [], [3], [4], [1, 2, 5], [6, 5, 0, 1, 2, 3, 4, 5, 6], [7, 0, 1, 2, 3, 4, 5, 6, 7]] [[1], [0, 6], [6], [4], [3, 5], [4, 6], [1, 2, 5, 7], [6], []]) (.ret)))))
theorem ok107 : FnOK Try.prog 107 Try.f107 e107 [.c 6 (some 3), .t 7] 3 27 := ⟨by kernel_rfl, ⟨_, rfl, by kernel_rfl⟩, by kernel_rfl, by kernel_rfl⟩
/- narthex/dine.turned -/
noncomputable def m_dine_turned_j2 (x1 : Diner) (x3 : Int) : Int → Option (Diner × Int)
| x6 =>
 ifb (!decide (x6 = 0)) (
 some ((Diner.mk 0 0 (([] : (List Side)))), x6)) (
 (m_slices_Clone_Side x1.Sides).bind fun x7 =>
 some ((Diner.mk x1.ID x3 x7), 0))
noncomputable def m_dine_turned_j1 (x1 : Diner) (x3 : Int) (x4 : Int) : Bool → Option (Diner × Int)
| x5 =>
 ifb x5 (
 (m_dine_turned_j2 x1 x3) 134) (
 (m_dine_turned_j2 x1 x3) x4)
noncomputable def m_dine_turned (x1 : Diner) (x2 : Int) (x3 : Int) : Option (Diner × Int) :=
 (m_dine_Check x1).bind fun x4 =>
 ifb (decide (x4 = 0)) (
 (m_dine_turned_j1 x1 x3 x4) (!decide (x1.Phase = x2))) (
 (m_dine_turned_j1 x1 x3 x4) false)
theorem k_dine_turned (x1 : Diner) (x2 : Int) (x3 : Int) (r : (Diner × Int)) (h : m_dine_turned x1 x2 x3 = some r) : FunP Try.prog 107 [.agg (Diner.row x1), .iv x2, .iv x3] (.tup [.agg (Diner.row r.1), .iv r.2]) := by
  refine FunP_intro ok107 rfl rfl fun w0 H0 => ?_
  rw [m_dine_turned] at h
  refine V_go 9 ?_; dsimp only [e107, go_sem, Nat.reduceBEq, Nat.reduceAdd]; refine ⟨by simp, ?_⟩; obtain ⟨x4, ex4, h⟩ := Option.bind_eq_some_iff.1 h; refine V_call trivial (k_dine_Check x1 _ ex4) (h := ?_); refine V_go 8 ?_; dsimp only [e107, go_sem, Nat.reduceBEq, Nat.reduceAdd]; refine ⟨by simp, ?_⟩
  refine V_join (fun (x5 : Bool) => (⟨(.any :: .any :: .iv x3 :: .ptr 0 0 :: .any :: .any :: .ptr 1 0 :: .any :: .iv x4 :: an 9 (.bv x5 :: an 11 [])), [some ⟨39, [.iv x1.ID, .iv x1.Phase, .sl 8 (List.map Side.row x1.Sides)]⟩, some ⟨39, [.iv 0, .iv 0, .nl]⟩], []⟩ : St)) (m_dine_turned_j1 x1 x3 x4) r ?_ fun J1 => ?_
  ·intro x5 h; rw [m_dine_turned_j1] at h; (try dsimp only); refine V_join (fun (x6 : Int) => (⟨(.any :: .any :: .iv x3 :: .ptr 0 0 :: .any :: .any :: .ptr 1 0 :: .any :: .iv x6 :: an 21 []), [some ⟨39, [.iv x1.ID, .iv x1.Phase, .sl 8 (List.map Side.row x1.Sides)]⟩, some ⟨39, [.iv 0, .iv 0, .nl]⟩], []⟩ : St)) (m_dine_turned_j2 x1 x3) r ?_ fun J2 => ?_
   ·intro x6 h; rw [m_dine_turned_j2] at h; (try dsimp only); refine V_go 6 ?_; dsimp only [e107, go_sem, Nat.reduceBEq, Nat.reduceAdd]; refine ⟨by simp, ?_⟩; refine M_ite h rfl (fun _ h => ?_) fun _ h => ?_
    ·refine V_go 7 ?_; dsimp only [e107, go_sem, Nat.reduceBEq, Nat.reduceAdd]; refine ⟨by simp, ?_⟩; exact M_done (res := fun (r : (Diner × Int)) => .tup [.agg (Diner.row r.1), .iv r.2]) ok107 h
    ·refine V_go 2 ?_; dsimp only [e107, go_sem, Nat.reduceBEq, Nat.reduceAdd]; refine ⟨by simp, ?_⟩; refine V_drw (by kernel_rfl) fun all hall hs hnap haf => ?_; dsimp only [go_sem, Nat.reduceBEq, Nat.reduceAdd]; refine G_goN hall hs haf hnap 5 4 ?_; dsimp only [go_sem, Nat.reduceBEq, Nat.reduceAdd]; refine ⟨by simp, ?_⟩; refine G_one 5 rfl ?_; obtain ⟨x7, ex7, h⟩ := Option.bind_eq_some_iff.1 h; refine GO_callO hall rfl trivial (o_slices_Clone_Side x1.Sides _ ex7) (h := ?_); dsimp only [go_sem, Nat.reduceBEq, Nat.reduceAdd]; refine G_goN hall hs haf hnap 1 2 ?_
     dsimp only [go_sem, Nat.reduceBEq, Nat.reduceAdd]; refine ⟨by simp, ?_⟩; refine G_one 7 rfl ?_; refine GO_ev hall rfl trivial ?_; dsimp only [go_sem, Nat.reduceBEq, Nat.reduceAdd]; refine G_goN hall hs haf hnap 1 0 ?_; dsimp only [go_sem, Nat.reduceBEq, Nat.reduceAdd]; refine ⟨by simp, ?_⟩; refine G_done rfl ?_ _; refine V_seal 0 rfl ?_; dsimp only [go_sem, Nat.reduceBEq, Nat.reduceAdd]; exact M_done (res := fun (r : (Diner × Int)) => .tup [.agg (Diner.row r.1), .iv r.2]) ok107 h
   ·refine M_ite h rfl (fun _ h => ?_) fun _ h => ?_
    ·refine V_go 3 ?_; dsimp only [e107, go_sem, Nat.reduceBEq, Nat.reduceAdd]; refine ⟨by simp, ?_⟩; exact M_to J2 (s := 134) h
    ·refine V_go 1 ?_; dsimp only [e107, go_sem, Nat.reduceBEq, Nat.reduceAdd]; refine ⟨by simp, ?_⟩; exact M_to J2 (s := x4) h
  ·refine M_case 13 h rfl (fun _ h => ?_) fun _ h => ?_
   ·dsimp only [go_sem, Nat.reduceBEq, Nat.reduceAdd]; refine V_go 6 ?_; dsimp only [e107, go_sem, Nat.reduceBEq, Nat.reduceAdd]; refine ⟨by simp, ?_⟩; exact M_to J1 (s := !decide (x1.Phase = x2)) h
   ·dsimp only [go_sem, Nat.reduceBEq, Nat.reduceAdd]; refine V_go 6 ?_; dsimp only [e107, go_sem, Nat.reduceBEq, Nat.reduceAdd]; refine ⟨by simp, ?_⟩; exact M_to J1 (s := false) h
def f_dine_turned_j2 (F : Nat) (x1 : Diner) (x3 : Int) : Int → Option (Diner × Int)
| x6 =>
 ifb (!decide (x6 = 0)) (
 some ((Diner.mk 0 0 (([] : (List Side)))), x6)) (
 (f_slices_Clone_Side F x1.Sides).bind fun x7 =>
 some ((Diner.mk x1.ID x3 x7), 0))
theorem le_dine_turned_j2 {F : Nat} {x1 : Diner} {x3 : Int} : ∀ s, ole (f_dine_turned_j2 F x1 x3 s) (m_dine_turned_j2 x1 x3 s) := by
  intro x6
  unfold f_dine_turned_j2 m_dine_turned_j2
  try dsimp only
  with_reducible repeat' first | exact ole_refl _ | assumption | intro _ | refine ole_ifb ?_ ?_ | refine ole_bind ?_ ?_ | refine ole_map ?_ | refine ole_loop ?_ | apply le_slices_Clone_Side
def f_dine_turned_j1 (F : Nat) (x1 : Diner) (x3 : Int) (x4 : Int) : Bool → Option (Diner × Int)
| x5 =>
 ifb x5 (
 (f_dine_turned_j2 F x1 x3) 134) (
 (f_dine_turned_j2 F x1 x3) x4)
theorem le_dine_turned_j1 {F : Nat} {x1 : Diner} {x3 : Int} {x4 : Int} : ∀ s, ole (f_dine_turned_j1 F x1 x3 x4 s) (m_dine_turned_j1 x1 x3 x4 s) := by
  intro x5
  unfold f_dine_turned_j1 m_dine_turned_j1
  try dsimp only
  with_reducible repeat' first | exact ole_refl _ | assumption | intro _ | refine ole_ifb ?_ ?_ | refine ole_bind ?_ ?_ | refine ole_map ?_ | refine ole_loop ?_ | apply le_slices_Clone_Side | apply le_dine_turned_j2
def f_dine_turned (F : Nat) (x1 : Diner) (x2 : Int) (x3 : Int) : Option (Diner × Int) :=
 (f_dine_Check F x1).bind fun x4 =>
 ifb (decide (x4 = 0)) (
 (f_dine_turned_j1 F x1 x3 x4) (!decide (x1.Phase = x2))) (
 (f_dine_turned_j1 F x1 x3 x4) false)
theorem le_dine_turned {F : Nat} {x1 : Diner} {x2 : Int} {x3 : Int} : ole (f_dine_turned F x1 x2 x3) (m_dine_turned x1 x2 x3) := by
  unfold f_dine_turned m_dine_turned
  with_reducible repeat' first | exact ole_refl _ | assumption | intro _ | refine ole_ifb ?_ ?_ | refine ole_bind ?_ ?_ | refine ole_map ?_ | refine ole_loop ?_ | apply le_slices_Clone_Side | apply le_dine_turned_j2 | apply le_dine_turned_j1 | apply le_dine_Check
end NX
end Go.Proofs.Ytadebhbiglmodaa
/-
  The function narthex/dine.Stop: its code compiled, a model, and that the code answers as the model. Written by a program of ours (lb.py). No statement of the seat is proved here.
-/
namespace Go.Proofs.Ytadebhbiglmodaa
namespace NX
open Go
set_option maxRecDepth 100000
set_option maxHeartbeats 4000000
def e77 : EC := .seq (.reg [⟨(some 1), none, .box 39 3 (.t 0)⟩, ⟨(some 2), none, .alloc 39 [.iv 0, .iv 0, .nl]⟩, ⟨(some 3), none, .mv (.c (.iv 0))⟩]) (.seq (.reg [⟨(some 4), none, .loadA 3 (.t 1)⟩, ⟨(some 5), none, .call 107 [(.t 4), (.c (.iv 2)), (.c (.iv 0))]⟩, ⟨(some 6), none, .ext (.t 5) 0⟩, ⟨(some 7), none, .ext (.t 5) 1⟩, ⟨none, none, .store 3 (.t 2) (.t 6)⟩, ⟨(some 3), none, .mv (.t 7)⟩]) (.ret))
theorem ok77 : FnOK Try.prog 77 Try.f77 e77 [.c 2 (some 3), .t 3] 1 7 := ⟨by kernel_rfl, ⟨_, rfl, by kernel_rfl⟩, by kernel_rfl, by kernel_rfl⟩
/- narthex/dine.Stop -/
noncomputable def m_dine_Stop (x1 : Diner) : Option (Diner × Int) :=
 (m_dine_turned x1 2 0).bind fun x2 =>
 some (x2.1, x2.2)
theorem k_dine_Stop (x1 : Diner) (r : (Diner × Int)) (h : m_dine_Stop x1 = some r) : FunP Try.prog 77 [.agg (Diner.row x1)] (.tup [.agg (Diner.row r.1), .iv r.2]) := by
  refine FunP_intro ok77 rfl rfl fun w0 H0 => ?_
  rw [m_dine_Stop] at h
  refine V_go 9 ?_; dsimp only [e77, go_sem, Nat.reduceBEq, Nat.reduceAdd]; refine ⟨by simp, ?_⟩; obtain ⟨x2, ex2, h⟩ := Option.bind_eq_some_iff.1 h; refine V_call trivial (k_dine_turned x1 2 0 _ ex2) (h := ?_); refine V_go 5 ?_; dsimp only [e77, go_sem, Nat.reduceBEq, Nat.reduceAdd]; refine ⟨by simp, ?_⟩; exact M_done (res := fun (r : (Diner × Int)) => .tup [.agg (Diner.row r.1), .iv r.2]) ok77 h
def f_dine_Stop (F : Nat) (x1 : Diner) : Option (Diner × Int) :=
 (f_dine_turned F x1 2 0).bind fun x2 =>
 some (x2.1, x2.2)
theorem le_dine_Stop {F : Nat} {x1 : Diner} : ole (f_dine_Stop F x1) (m_dine_Stop x1) := by
  unfold f_dine_Stop m_dine_Stop
  with_reducible repeat' first | exact ole_refl _ | assumption | intro _ | refine ole_ifb ?_ ?_ | refine ole_bind ?_ ?_ | refine ole_map ?_ | refine ole_loop ?_ | apply le_dine_turned
end NX
end Go.Proofs.Ytadebhbiglmodaa
/-
  The function narthex/dine.Start: its code compiled, a model, and that the code answers as the model. Written by a program of ours (lb.py). No statement of the seat is proved here.
-/
namespace Go.Proofs.Ytadebhbiglmodaa
namespace NX
open Go
set_option maxRecDepth 100000
set_option maxHeartbeats 4000000
def e94 : EC := .seq (.reg [⟨(some 1), none, .box 39 3 (.t 0)⟩, ⟨(some 2), none, .alloc 39 [.iv 0, .iv 0, .nl]⟩, ⟨(some 3), none, .mv (.c (.iv 0))⟩]) (.seq (.reg [⟨(some 4), none, .loadA 3 (.t 1)⟩, ⟨(some 5), none, .call 107 [(.t 4), (.c (.iv 0)), (.c (.iv 1))]⟩, ⟨(some 6), none, .ext (.t 5) 0⟩, ⟨(some 7), none, .ext (.t 5) 1⟩, ⟨none, none, .store 3 (.t 2) (.t 6)⟩, ⟨(some 3), none, .mv (.t 7)⟩]) (.ret))
theorem ok94 : FnOK Try.prog 94 Try.f94 e94 [.c 2 (some 3), .t 3] 1 7 := ⟨by kernel_rfl, ⟨_, rfl, by kernel_rfl⟩, by kernel_rfl, by kernel_rfl⟩
/- narthex/dine.Start -/
noncomputable def m_dine_Start (x1 : Diner) : Option (Diner × Int) :=
 (m_dine_turned x1 0 1).bind fun x2 =>
 some (x2.1, x2.2)
theorem k_dine_Start (x1 : Diner) (r : (Diner × Int)) (h : m_dine_Start x1 = some r) : FunP Try.prog 94 [.agg (Diner.row x1)] (.tup [.agg (Diner.row r.1), .iv r.2]) := by
  refine FunP_intro ok94 rfl rfl fun w0 H0 => ?_
  rw [m_dine_Start] at h
  refine V_go 9 ?_; dsimp only [e94, go_sem, Nat.reduceBEq, Nat.reduceAdd]; refine ⟨by simp, ?_⟩; obtain ⟨x2, ex2, h⟩ := Option.bind_eq_some_iff.1 h; refine V_call trivial (k_dine_turned x1 0 1 _ ex2) (h := ?_); refine V_go 5 ?_; dsimp only [e94, go_sem, Nat.reduceBEq, Nat.reduceAdd]; refine ⟨by simp, ?_⟩; exact M_done (res := fun (r : (Diner × Int)) => .tup [.agg (Diner.row r.1), .iv r.2]) ok94 h
def f_dine_Start (F : Nat) (x1 : Diner) : Option (Diner × Int) :=
 (f_dine_turned F x1 0 1).bind fun x2 =>
 some (x2.1, x2.2)
theorem le_dine_Start {F : Nat} {x1 : Diner} : ole (f_dine_Start F x1) (m_dine_Start x1) := by
  unfold f_dine_Start m_dine_Start
  with_reducible repeat' first | exact ole_refl _ | assumption | intro _ | refine ole_ifb ?_ ?_ | refine ole_bind ?_ ?_ | refine ole_map ?_ | refine ole_loop ?_ | apply le_dine_turned
end NX
end Go.Proofs.Ytadebhbiglmodaa
/-
  The function narthex/dine.Get$1: its code compiled, a model, and that the code answers as the model. Written by a program of ours (lb.py). No statement of the seat is proved here.
-/
namespace Go.Proofs.Ytadebhbiglmodaa
namespace NX
open Go
set_option maxRecDepth 100000
set_option maxHeartbeats 4000000
def e122 : EC := .seq (.reg [⟨(some 3), none, .box 49 8 (.t 0)⟩, ⟨(some 4), none, .mv (.c .ff)⟩]) (.seq (.reg [⟨(some 5), none, .fld 0 (.t 3)⟩, ⟨(some 6), none, .load (.t 5)⟩, ⟨(some 7), none, .load (.t 1)⟩, ⟨(some 8), none, .bin .eql (.t 6) (.t 7)⟩, ⟨(some 9), none, .mv (.t 8)⟩, ⟨(some 10), (some (9, true)), .fld 1 (.t 3)⟩, ⟨(some 11), (some (9, true)), .load (.t 10)⟩, ⟨(some 12), (some (9, true)), .fld 1 (.t 2)⟩, ⟨(some 13), (some (9, true)), .load (.t 12)⟩, ⟨(some 14), (some (9, true)), .bin .eql (.t 11) (.t 13)⟩, ⟨(some 15), none, .pick (.t 9) (.t 14) (.c .ff)⟩, ⟨(some 4), none, .mv (.t 15)⟩]) (.ret))
theorem ok122 : FnOK Try.prog 122 Try.f122 e122 [.t 4] 3 13 := ⟨by kernel_rfl, ⟨_, rfl, by kernel_rfl⟩, by kernel_rfl, by kernel_rfl⟩
/- narthex/dine.Get$1 -/
noncomputable def m_dine_Get_1_j1  : Bool → Option Bool
| x4 =>
 some x4
noncomputable def m_dine_Get_1 (x1 : Side) (x2 : Int) (x3 : Msg) : Option Bool :=
 ifb (decide (x1.Peer = x2)) (
 m_dine_Get_1_j1 (decide (x1.Epoch = x3.Epoch))) (
 m_dine_Get_1_j1 false)
theorem k_dine_Get_1 (x1 : Side) (x2 : Int) (x3 : Msg) (r : Bool) (h : m_dine_Get_1 x1 x2 x3 = some r) : FunP Try.prog 122 [.agg (Side.row x1), .elt (intRow x2) 0, .elt (Msg.row x3) 0] (.bv r) := by
  refine FunP_intro ok122 rfl rfl fun w0 H0 => ?_
  rw [m_dine_Get_1] at h
  refine V_go 12 ?_; dsimp only [e122, go_sem, Nat.reduceBEq, Nat.reduceAdd]; refine ⟨by simp, ?_⟩; refine V_join (fun (x4 : Bool) => (⟨(an 4 (.bv x4 :: an 11 [])), [], []⟩ : St)) m_dine_Get_1_j1 r ?_ fun J1 => ?_
  ·intro x4 h; rw [m_dine_Get_1_j1] at h; (try dsimp only); exact M_done (res := fun (r : Bool) => .bv r) ok122 h
  ·refine M_case 9 h rfl (fun _ h => ?_) fun _ h => ?_
   ·dsimp only [go_sem, Nat.reduceBEq, Nat.reduceAdd]; refine V_go 8 ?_; dsimp only [e122, go_sem, Nat.reduceBEq, Nat.reduceAdd]; refine ⟨by simp, ?_⟩; exact M_to J1 (s := decide (x1.Epoch = x3.Epoch)) h
   ·dsimp only [go_sem, Nat.reduceBEq, Nat.reduceAdd]; refine V_go 8 ?_; dsimp only [e122, go_sem, Nat.reduceBEq, Nat.reduceAdd]; refine ⟨by simp, ?_⟩; exact M_to J1 (s := false) h
def f_dine_Get_1_j1 (_F : Nat)  : Bool → Option Bool
| x4 =>
 some x4
theorem le_dine_Get_1_j1 {F : Nat} : ∀ s, ole (f_dine_Get_1_j1 F s) (m_dine_Get_1_j1 s) := by
  intro x4
  unfold f_dine_Get_1_j1 m_dine_Get_1_j1
  try dsimp only
  with_reducible repeat' first | exact ole_refl _ | assumption | intro _ | refine ole_ifb ?_ ?_ | refine ole_bind ?_ ?_ | refine ole_map ?_ | refine ole_loop ?_
def f_dine_Get_1 (F : Nat) (x1 : Side) (x2 : Int) (x3 : Msg) : Option Bool :=
 ifb (decide (x1.Peer = x2)) (
 f_dine_Get_1_j1 F (decide (x1.Epoch = x3.Epoch))) (
 f_dine_Get_1_j1 F false)
theorem le_dine_Get_1 {F : Nat} {x1 : Side} {x2 : Int} {x3 : Msg} : ole (f_dine_Get_1 F x1 x2 x3) (m_dine_Get_1 x1 x2 x3) := by
  unfold f_dine_Get_1 m_dine_Get_1
  with_reducible repeat' first | exact ole_refl _ | assumption | intro _ | refine ole_ifb ?_ ?_ | refine ole_bind ?_ ?_ | refine ole_map ?_ | refine ole_loop ?_ | apply le_dine_Get_1_j1
end NX
end Go.Proofs.Ytadebhbiglmodaa
/-
  The function narthex/dine.Get: its code compiled, a model, and that the code answers as the model. Written by a program of ours (lb.py). No statement of the seat is proved here.
-/
namespace Go.Proofs.Ytadebhbiglmodaa
namespace NX
open Go
set_option maxRecDepth 100000
set_option maxHeartbeats 4000000
def e100 : EC := .seq (.reg [⟨(some 3), none, .box 39 3 (.t 0)⟩, ⟨(some 4), none, .box 3 1 (.t 1)⟩, ⟨(some 5), none, .box 93 3 (.t 2)⟩, ⟨(some 6), none, .alloc 39 [.iv 0, .iv 0, .nl]⟩, ⟨(some 7), none, .mv (.c (.iv 0))⟩]) (.seq (.seq (.reg [⟨(some 12), none, .loadA 3 (.t 3)⟩, ⟨(some 13), none, .call 103 [(.t 12)]⟩, ⟨(some 8), none, .mv (.t 13)⟩]) (.seq (.reg [⟨(some 14), none, .mv (.t 8)⟩, ⟨(some 15), none, .bin .neq (.t 14) (.c (.iv 0))⟩]) (.ite (.t 15) (.seq (.reg [⟨(some 16), none, .build [.iv 0, .iv 0, .nl] []⟩, ⟨(some 17), none, .mv (.t 8)⟩, ⟨none, none, .store 3 (.t 6) (.t 16)⟩, ⟨(some 7), none, .mv (.t 17)⟩]) (.ret)) (.skip)))) (.seq (.reg [⟨(some 18), none, .fld 2 (.t 3)⟩, ⟨(some 19), none, .load (.t 18)⟩, ⟨(some 20), none, .mkf 122 [(.t 4), (.t 5)]⟩, ⟨(some 21), none, .call 55 [(.t 19), (.t 20)]⟩, ⟨(some 9), none, .mv (.t 21)⟩]) (.seq (.seq (.reg [⟨(some 22), none, .mv (.t 9)⟩, ⟨(some 23), none, .bin .lss (.t 22) (.c (.iv 0))⟩]) (.ite (.t 23) (.seq (.reg [⟨(some 24), none, .build [.iv 0, .iv 0, .nl] []⟩, ⟨none, none, .store 3 (.t 6) (.t 24)⟩, ⟨(some 7), none, .mv (.c (.iv 131))⟩]) (.ret)) (.skip))) (.seq (.reg [⟨(some 25), none, .fld 2 (.t 3)⟩, ⟨(some 26), none, .load (.t 25)⟩, ⟨(some 27), none, .call 121 [(.t 26)]⟩, ⟨(some 28), none, .fld 2 (.t 3)⟩, ⟨none, none, .store 1 (.t 28) (.t 27)⟩]) (.seq (.reg [⟨(some 29), none, .fld 2 (.t 3)⟩, ⟨(some 30), none, .load (.t 29)⟩, ⟨(some 31), none, .mv (.t 9)⟩, ⟨(some 32), none, .idx 8 (.t 30) (.t 31)⟩, ⟨(some 10), none, .mv (.t 32)⟩]) (.seq (.reg [⟨(some 11), none, .mv (.c .ff)⟩]) (.seq (.blk 0 (.seq (.reg [⟨(some 35), none, .fld 0 (.t 5)⟩, ⟨(some 36), none, .load (.t 35)⟩, ⟨(some 37), none, .bin .eql (.t 36) (.c (.iv 1))⟩, ⟨(some 38), none, .mv (.t 37)⟩, ⟨(some 39), (some (38, true)), .fld 2 (.t 5)⟩, ⟨(some 40), (some (38, true)), .load (.t 39)⟩, ⟨(some 41), (some (38, true)), .bin .eql (.t 40) (.c (.iv 0))⟩, ⟨(some 42), none, .pick (.t 38) (.t 41) (.c .ff)⟩, ⟨(some 34), none, .mv (.t 42)⟩]) (.ite (.t 34) (.reg [⟨(some 43), none, .mv (.t 10)⟩, ⟨(some 44), none, .mv (.t 10)⟩, ⟨(some 45), none, .nilchk (.t 44)⟩, ⟨(some 46), none, .fld 3 (.t 45)⟩, ⟨(some 47), none, .load (.t 46)⟩, ⟨(some 11), none, .mv (.t 47)⟩, ⟨(some 48), none, .nilchk (.t 43)⟩, ⟨(some 49), none, .fld 3 (.t 48)⟩, ⟨none, none, .store 1 (.t 49) (.c .tt)⟩]) (.seq (.reg [⟨(some 51), none, .fld 0 (.t 5)⟩, ⟨(some 52), none, .load (.t 51)⟩, ⟨(some 53), none, .bin .eql (.t 52) (.c (.iv 2))⟩, ⟨(some 54), none, .mv (.t 53)⟩, ⟨(some 55), (some (54, true)), .fld 2 (.t 5)⟩, ⟨(some 56), (some (54, true)), .load (.t 55)⟩, ⟨(some 57), (some (54, true)), .bin .eql (.t 56) (.c (.iv 0))⟩, ⟨(some 58), none, .pick (.t 54) (.t 57) (.c .ff)⟩, ⟨(some 50), none, .mv (.t 58)⟩]) (.ite (.t 50) (.reg [⟨(some 59), none, .mv (.t 10)⟩, ⟨(some 60), none, .mv (.t 10)⟩, ⟨(some 61), none, .nilchk (.t 60)⟩, ⟨(some 62), none, .fld 5 (.t 61)⟩, ⟨(some 63), none, .load (.t 62)⟩, ⟨(some 11), none, .mv (.t 63)⟩, ⟨(some 64), none, .nilchk (.t 59)⟩, ⟨(some 65), none, .fld 5 (.t 64)⟩, ⟨none, none, .store 1 (.t 65) (.c .tt)⟩]) (.seq (.reg [⟨(some 33), none, .build [.iv 0, .iv 0, .nl] []⟩, ⟨none, none, .store 3 (.t 6) (.t 33)⟩, ⟨(some 7), none, .mv (.c (.iv 133))⟩]) (.ret))))))) (.seq (.seq (.reg [⟨(some 66), none, .mv (.t 11)⟩]) (.ite (.t 66) (.seq (.reg [⟨(some 67), none, .build [.iv 0, .iv 0, .nl] []⟩, ⟨none, none, .store 3 (.t 6) (.t 67)⟩, ⟨(some 7), none, .mv (.c (.iv 132))⟩]) (.ret)) (.skip))) (.seq (.reg [⟨(some 68), none, .loadA 3 (.t 3)⟩, ⟨none, none, .store 3 (.t 6) (.t 68)⟩, ⟨(some 7), none, .mv (.c (.iv 0))⟩]) (.ret))))))))))
theorem ok100 : FnOK Try.prog 100 Try.f100 e100 [.c 6 (some 3), .t 7] 3 66 := ⟨by kernel_rfl, ⟨_, rfl, by kernel_rfl⟩, by kernel_rfl, by kernel_rfl⟩
/- narthex/dine.Get -/
noncomputable def m_dine_Get_j2 (x1 : Diner) : (Bool × (List Side)) → Option (Diner × Int)
| (x10, x11) =>
 ifb x10 (
 some ((Diner.mk 0 0 (([] : (List Side)))), 132)) (
 some ((Diner.mk x1.ID x1.Phase x11), 0))
noncomputable def m_dine_Get_j3 (x1 : Diner) (x5 : Int) (x6 : (List Side)) (x7 : Side) : Bool → Option (Diner × Int)
| x9 =>
 ifb x9 (
 (m_dine_Get_j2 x1) (x7.Token, x6.set (x5).toNat ((Side.mk x7.Peer x7.Epoch x7.State x7.Fork x7.Dirty true x7.Bottle x7.Ask)))) (
 some ((Diner.mk 0 0 (([] : (List Side)))), 133))
noncomputable def m_dine_Get_j1 (x1 : Diner) (x3 : Msg) (x5 : Int) (x6 : (List Side)) (x7 : Side) : Bool → Option (Diner × Int)
| x8 =>
 ifb x8 (
 (m_dine_Get_j2 x1) (x7.Fork, x6.set (x5).toNat ((Side.mk x7.Peer x7.Epoch x7.State true x7.Dirty x7.Token x7.Bottle x7.Ask)))) (
 ifb (decide (x3.Kind = 2)) (
 (m_dine_Get_j3 x1 x5 x6 x7) (decide (x3.Num = 0))) (
 (m_dine_Get_j3 x1 x5 x6 x7) false))
noncomputable def m_dine_Get (x1 : Diner) (x2 : Int) (x3 : Msg) : Option (Diner × Int) :=
 (m_dine_Check x1).bind fun x4 =>
 ifb (!decide (x4 = 0)) (
 some ((Diner.mk 0 0 (([] : (List Side)))), x4)) (
 (m_slices_IndexFunc_Side x1.Sides ((fun z => m_dine_Get_1 z x2 x3))).bind fun x5 =>
 ifb (decide (x5 < 0)) (
 some ((Diner.mk 0 0 (([] : (List Side)))), 131)) (
 (m_slices_Clone_Side x1.Sides).bind fun x6 =>
 (at_ x6 x5).bind fun x7 =>
 ifb (decide (x3.Kind = 1)) (
 (m_dine_Get_j1 x1 x3 x5 x6 x7) (decide (x3.Num = 0))) (
 (m_dine_Get_j1 x1 x3 x5 x6 x7) false)))
theorem k_dine_Get (x1 : Diner) (x2 : Int) (x3 : Msg) (r : (Diner × Int)) (h : m_dine_Get x1 x2 x3 = some r) : FunP Try.prog 100 [.agg (Diner.row x1), .iv x2, .agg (Msg.row x3)] (.tup [.agg (Diner.row r.1), .iv r.2]) := by
  refine FunP_intro ok100 rfl rfl fun w0 H0 => ?_
  rw [m_dine_Get] at h
  refine V_go 12 ?_; dsimp only [e100, go_sem, Nat.reduceBEq, Nat.reduceAdd]; refine ⟨by simp, ?_⟩; obtain ⟨x4, ex4, h⟩ := Option.bind_eq_some_iff.1 h; refine V_call trivial (k_dine_Check x1 _ ex4) (h := ?_); refine V_go 7 ?_; dsimp only [e100, go_sem, Nat.reduceBEq, Nat.reduceAdd]; refine ⟨by simp, ?_⟩; refine M_ite h rfl (fun _ h => ?_) fun _ h => ?_
  ·refine V_go 7 ?_; dsimp only [e100, go_sem, Nat.reduceBEq, Nat.reduceAdd]; refine ⟨by simp, ?_⟩; exact M_done (res := fun (r : (Diner × Int)) => .tup [.agg (Diner.row r.1), .iv r.2]) ok100 h
  ·refine V_go 6 ?_; dsimp only [e100, go_sem, Nat.reduceBEq, Nat.reduceAdd]; refine ⟨by simp, ?_⟩; obtain ⟨x5, ex5, h⟩ := Option.bind_eq_some_iff.1 h; refine V_callL trivial (((Lend.refl _).block 1 rfl rfl).block 2 rfl rfl) (k_slices_IndexFunc_Side x1.Sides _ _ ((fun z => m_dine_Get_1 z x2 x3)) ⟨by kernel_rfl, rfl, fun z r hz => k_dine_Get_1 z x2 x3 r hz⟩ _ ex5) (h := ?_); refine V_go 8 ?_; dsimp only [e100, go_sem, Nat.reduceBEq, Nat.reduceAdd]; refine ⟨by simp, ?_⟩; refine M_ite h rfl (fun _ h => ?_) fun _ h => ?_
   ·refine V_go 6 ?_; dsimp only [e100, go_sem, Nat.reduceBEq, Nat.reduceAdd]; refine ⟨by simp, ?_⟩; exact M_done (res := fun (r : (Diner × Int)) => .tup [.agg (Diner.row r.1), .iv r.2]) ok100 h
   ·refine V_go 5 ?_; dsimp only [e100, go_sem, Nat.reduceBEq, Nat.reduceAdd]; refine ⟨by simp, ?_⟩; obtain ⟨x6, ex6, h⟩ := Option.bind_eq_some_iff.1 h; refine V_callO trivial (o_slices_Clone_Side x1.Sides _ ex6) (h := ?_); refine V_go 8 ?_; dsimp only [e100, go_sem, Nat.reduceBEq, Nat.reduceAdd]; refine ⟨by simp, ?_⟩; obtain ⟨x7, ex7, h⟩ := Option.bind_eq_some_iff.1 h; refine V_idxOM Side.row ex7 trivial rfl rfl rfl ?_; refine V_go 14 ?_; dsimp only [e100, go_sem, Nat.reduceBEq, Nat.reduceAdd]; refine ⟨by simp, ?_⟩
    refine V_join (fun (x8 : Bool) => (⟨(an 3 (.ptr 0 0 :: .any :: .ptr 2 0 :: .ptr 3 0 :: an 3 (.oel 0 ((x5).toNat * 8) 0 :: an 23 (.bv x8 :: an 34 [])))), [some ⟨39, [.iv x1.ID, .iv x1.Phase, .osl 0]⟩, none, some ⟨93, [.iv x3.Kind, .iv x3.Epoch, .iv x3.Num]⟩, some ⟨39, [.iv 0, .iv 0, .nl]⟩], [some ⟨49, 8, List.map Side.row x6⟩]⟩ : St)) (m_dine_Get_j1 x1 x3 x5 x6 x7) r ?_ fun J1 => ?_
    ·intro x8 h; rw [m_dine_Get_j1] at h; (try dsimp only); refine V_join (fun ((x10, x11) : (Bool × (List Side))) => (⟨(an 3 (.ptr 0 0 :: .any :: .any :: .ptr 3 0 :: an 4 (.bv x10 :: an 57 []))), [some ⟨39, [.iv x1.ID, .iv x1.Phase, .osl 0]⟩, none, none, some ⟨39, [.iv 0, .iv 0, .nl]⟩], [some ⟨49, 8, List.map Side.row x11⟩]⟩ : St)) (m_dine_Get_j2 x1) r ?_ fun J2 => ?_
     ·rintro ⟨x10, x11⟩ h; rw [m_dine_Get_j2] at h; (try dsimp only); refine V_go 6 ?_; dsimp only [e100, go_sem, Nat.reduceBEq, Nat.reduceAdd]; refine ⟨by simp, ?_⟩; refine M_ite h rfl (fun _ h => ?_) fun _ h => ?_
      ·refine V_go 6 ?_; dsimp only [e100, go_sem, Nat.reduceBEq, Nat.reduceAdd]; refine ⟨by simp, ?_⟩; exact M_done (res := fun (r : (Diner × Int)) => .tup [.agg (Diner.row r.1), .iv r.2]) ok100 h
      ·refine V_go 7 ?_; dsimp only [e100, go_sem, Nat.reduceBEq, Nat.reduceAdd]; refine ⟨by simp, ?_⟩; refine V_seal 0 rfl ?_; dsimp only [go_sem, Nat.reduceBEq, Nat.reduceAdd]; exact M_done (res := fun (r : (Diner × Int)) => .tup [.agg (Diner.row r.1), .iv r.2]) ok100 h
     ·refine M_ite h rfl (fun _ h => ?_) fun _ h => ?_
      ·refine V_go 5 ?_; dsimp only [e100, go_sem, Nat.reduceBEq, Nat.reduceAdd]; refine ⟨by simp, ?_⟩; refine V_loadO Side.row ex7 trivial rfl rfl rfl ?_; refine V_go 3 ?_; dsimp only [e100, go_sem, Nat.reduceBEq, Nat.reduceAdd]; refine ⟨by simp, ?_⟩; refine V_storeO [.bv true] Side.row (y' := (Side.mk x7.Peer x7.Epoch x7.State true x7.Dirty x7.Token x7.Bottle x7.Ask)) ex7 trivial rfl rfl rfl (by first | exact leL_refl _ | simp [go_sem]) rfl rfl rfl rfl ?_; refine V_go 1 ?_; dsimp only [e100, go_sem, Nat.reduceBEq, Nat.reduceAdd]; refine ⟨by simp, ?_⟩
       exact M_to J2 (s := (x7.Fork, x6.set (x5).toNat ((Side.mk x7.Peer x7.Epoch x7.State true x7.Dirty x7.Token x7.Bottle x7.Ask)))) h
      ·refine V_go 6 ?_; dsimp only [e100, go_sem, Nat.reduceBEq, Nat.reduceAdd]; refine ⟨by simp, ?_⟩; refine V_join (fun (x9 : Bool) => (⟨(an 3 (.ptr 0 0 :: .any :: .any :: .ptr 3 0 :: an 3 (.oel 0 ((x5).toNat * 8) 0 :: an 39 (.bv x9 :: an 18 [])))), [some ⟨39, [.iv x1.ID, .iv x1.Phase, .osl 0]⟩, none, none, some ⟨39, [.iv 0, .iv 0, .nl]⟩], [some ⟨49, 8, List.map Side.row x6⟩]⟩ : St)) (m_dine_Get_j3 x1 x5 x6 x7) r ?_ fun J3 => ?_
       ·intro x9 h; rw [m_dine_Get_j3] at h; (try dsimp only); refine M_ite h rfl (fun _ h => ?_) fun _ h => ?_
        ·refine V_go 5 ?_; dsimp only [e100, go_sem, Nat.reduceBEq, Nat.reduceAdd]; refine ⟨by simp, ?_⟩; refine V_loadO Side.row ex7 trivial rfl rfl rfl ?_; refine V_go 3 ?_; dsimp only [e100, go_sem, Nat.reduceBEq, Nat.reduceAdd]; refine ⟨by simp, ?_⟩; refine V_storeO [.bv true] Side.row (y' := (Side.mk x7.Peer x7.Epoch x7.State x7.Fork x7.Dirty true x7.Bottle x7.Ask)) ex7 trivial rfl rfl rfl (by first | exact leL_refl _ | simp [go_sem]) rfl rfl rfl rfl ?_; refine V_go 1 ?_; dsimp only [e100, go_sem, Nat.reduceBEq, Nat.reduceAdd]; refine ⟨by simp, ?_⟩
         exact M_to J2 (s := (x7.Token, x6.set (x5).toNat ((Side.mk x7.Peer x7.Epoch x7.State x7.Fork x7.Dirty true x7.Bottle x7.Ask)))) h
        ·refine V_go 6 ?_; dsimp only [e100, go_sem, Nat.reduceBEq, Nat.reduceAdd]; refine ⟨by simp, ?_⟩; exact M_done (res := fun (r : (Diner × Int)) => .tup [.agg (Diner.row r.1), .iv r.2]) ok100 h
       ·refine M_case 54 h rfl (fun _ h => ?_) fun _ h => ?_
        ·dsimp only [go_sem, Nat.reduceBEq, Nat.reduceAdd]; refine V_go 6 ?_; dsimp only [e100, go_sem, Nat.reduceBEq, Nat.reduceAdd]; refine ⟨by simp, ?_⟩; exact M_to J3 (s := decide (x3.Num = 0)) h
        ·dsimp only [go_sem, Nat.reduceBEq, Nat.reduceAdd]; refine V_go 6 ?_; dsimp only [e100, go_sem, Nat.reduceBEq, Nat.reduceAdd]; refine ⟨by simp, ?_⟩; exact M_to J3 (s := false) h
    ·refine M_case 38 h rfl (fun _ h => ?_) fun _ h => ?_
     ·dsimp only [go_sem, Nat.reduceBEq, Nat.reduceAdd]; refine V_go 6 ?_; dsimp only [e100, go_sem, Nat.reduceBEq, Nat.reduceAdd]; refine ⟨by simp, ?_⟩; exact M_to J1 (s := decide (x3.Num = 0)) h
     ·dsimp only [go_sem, Nat.reduceBEq, Nat.reduceAdd]; refine V_go 6 ?_; dsimp only [e100, go_sem, Nat.reduceBEq, Nat.reduceAdd]; refine ⟨by simp, ?_⟩; exact M_to J1 (s := false) h
def f_dine_Get_j2 (_F : Nat) (x1 : Diner) : (Bool × (List Side)) → Option (Diner × Int)
| (x10, x11) =>
 ifb x10 (
 some ((Diner.mk 0 0 (([] : (List Side)))), 132)) (
 some ((Diner.mk x1.ID x1.Phase x11), 0))
theorem le_dine_Get_j2 {F : Nat} {x1 : Diner} : ∀ s, ole (f_dine_Get_j2 F x1 s) (m_dine_Get_j2 x1 s) := by
  rintro ⟨x10, x11⟩
  unfold f_dine_Get_j2 m_dine_Get_j2
  try dsimp only
  with_reducible repeat' first | exact ole_refl _ | assumption | intro _ | refine ole_ifb ?_ ?_ | refine ole_bind ?_ ?_ | refine ole_map ?_ | refine ole_loop ?_
def f_dine_Get_j3 (F : Nat) (x1 : Diner) (x5 : Int) (x6 : (List Side)) (x7 : Side) : Bool → Option (Diner × Int)
| x9 =>
 ifb x9 (
 (f_dine_Get_j2 F x1) (x7.Token, x6.set (x5).toNat ((Side.mk x7.Peer x7.Epoch x7.State x7.Fork x7.Dirty true x7.Bottle x7.Ask)))) (
 some ((Diner.mk 0 0 (([] : (List Side)))), 133))
theorem le_dine_Get_j3 {F : Nat} {x1 : Diner} {x5 : Int} {x6 : (List Side)} {x7 : Side} : ∀ s, ole (f_dine_Get_j3 F x1 x5 x6 x7 s) (m_dine_Get_j3 x1 x5 x6 x7 s) := by
  intro x9
  unfold f_dine_Get_j3 m_dine_Get_j3
  try dsimp only
  with_reducible repeat' first | exact ole_refl _ | assumption | intro _ | refine ole_ifb ?_ ?_ | refine ole_bind ?_ ?_ | refine ole_map ?_ | refine ole_loop ?_ | apply le_dine_Get_j2
def f_dine_Get_j1 (F : Nat) (x1 : Diner) (x3 : Msg) (x5 : Int) (x6 : (List Side)) (x7 : Side) : Bool → Option (Diner × Int)
| x8 =>
 ifb x8 (
 (f_dine_Get_j2 F x1) (x7.Fork, x6.set (x5).toNat ((Side.mk x7.Peer x7.Epoch x7.State true x7.Dirty x7.Token x7.Bottle x7.Ask)))) (
 ifb (decide (x3.Kind = 2)) (
 (f_dine_Get_j3 F x1 x5 x6 x7) (decide (x3.Num = 0))) (
 (f_dine_Get_j3 F x1 x5 x6 x7) false))
theorem le_dine_Get_j1 {F : Nat} {x1 : Diner} {x3 : Msg} {x5 : Int} {x6 : (List Side)} {x7 : Side} : ∀ s, ole (f_dine_Get_j1 F x1 x3 x5 x6 x7 s) (m_dine_Get_j1 x1 x3 x5 x6 x7 s) := by
  intro x8
  unfold f_dine_Get_j1 m_dine_Get_j1
  try dsimp only
  with_reducible repeat' first | exact ole_refl _ | assumption | intro _ | refine ole_ifb ?_ ?_ | refine ole_bind ?_ ?_ | refine ole_map ?_ | refine ole_loop ?_ | apply le_dine_Get_j2 | apply le_dine_Get_j3
def f_dine_Get (F : Nat) (x1 : Diner) (x2 : Int) (x3 : Msg) : Option (Diner × Int) :=
 (f_dine_Check F x1).bind fun x4 =>
 ifb (!decide (x4 = 0)) (
 some ((Diner.mk 0 0 (([] : (List Side)))), x4)) (
 (f_slices_IndexFunc_Side F x1.Sides ((fun z => f_dine_Get_1 F z x2 x3))).bind fun x5 =>
 ifb (decide (x5 < 0)) (
 some ((Diner.mk 0 0 (([] : (List Side)))), 131)) (
 (f_slices_Clone_Side F x1.Sides).bind fun x6 =>
 (at_ x6 x5).bind fun x7 =>
 ifb (decide (x3.Kind = 1)) (
 (f_dine_Get_j1 F x1 x3 x5 x6 x7) (decide (x3.Num = 0))) (
 (f_dine_Get_j1 F x1 x3 x5 x6 x7) false)))
theorem le_dine_Get {F : Nat} {x1 : Diner} {x2 : Int} {x3 : Msg} : ole (f_dine_Get F x1 x2 x3) (m_dine_Get x1 x2 x3) := by
  unfold f_dine_Get m_dine_Get
  with_reducible repeat' first | exact ole_refl _ | assumption | intro _ | refine ole_ifb ?_ ?_ | refine ole_bind ?_ ?_ | refine ole_map ?_ | refine ole_loop ?_ | apply le_dine_Get_j2 | apply le_dine_Get_j3 | apply le_dine_Get_j1 | apply le_dine_Check | apply le_slices_IndexFunc_Side | apply le_dine_Get_1 | apply le_slices_Clone_Side
end NX
end Go.Proofs.Ytadebhbiglmodaa
/-
  The function narthex/dine.Fire$1: its code compiled, a model, and that the code answers as the model. Written by a program of ours (lb.py). No statement of the seat is proved here.
-/
namespace Go.Proofs.Ytadebhbiglmodaa
namespace NX
open Go
set_option maxRecDepth 100000
set_option maxHeartbeats 4000000
def e132 : EC := .drw [⟨(some 5), none, .load (.t 1)⟩, ⟨(some 6), none, .fld 0 (.t 2)⟩, ⟨(some 7), none, .load (.t 6)⟩, ⟨(some 8), none, .load (.t 3)⟩, ⟨(some 9), none, .nilchk (.t 8)⟩, ⟨(some 10), none, .fld 0 (.t 9)⟩, ⟨(some 11), none, .load (.t 10)⟩, ⟨(some 12), none, .mv (.t 0)⟩, ⟨(some 13), none, .load (.t 3)⟩, ⟨(some 14), none, .nilchk (.t 13)⟩, ⟨(some 15), none, .fld 1 (.t 14)⟩, ⟨(some 16), none, .load (.t 15)⟩, ⟨(some 17), none, .build [.iv 0, .iv 0, .iv 0] [(0, 1, (.t 12)), (1, 1, (.t 16))]⟩, ⟨(some 18), none, .build [.iv 0, .iv 0, .iv 0, .iv 0, .iv 0] [(0, 1, (.t 7)), (1, 1, (.t 11)), (2, 3, (.t 17))]⟩, ⟨(some 19), none, .bsl 97 5 1 [.iv 0, .iv 0, .iv 0, .iv 0, .iv 0] [(0, (.t 18))]⟩, ⟨(some 20), none, .app 97 5 40 (.t 5) (.t 19)⟩, ⟨none, none, .store 1 (.t 1) (.t 20)⟩] [[], [], [1], [], [3], [4], [5], [], [], [8], [9], [10], [7, 11], [2, 6, 12], [13], [0, 14], [15, 15, 0, 1, 2, 3, 4, 5, 6, 7, 8, 9, 10, 11, 12, 13, 14, 15]] [[15], [2], [1, 13], [4], [3, 5], [4, 6], [5, 13], [12], [9], [8, 10], [9, 11], [10, 12], [7, 11, 13], [2, 6, 12, 14], [13, 15], [0, 14, 16], [15]]
theorem ok132 : FnOK Try.prog 132 Try.f132 e132 [] 4 17 := ⟨by kernel_rfl, ⟨_, rfl, by kernel_rfl⟩, by kernel_rfl, by kernel_rfl⟩
/- no model -/
end NX
end Go.Proofs.Ytadebhbiglmodaa
/-
  The function narthex/dine.Fire: its code compiled, a model, and that the code answers as the model. Written by a program of ours (lb.py). No statement of the seat is proved here.
-/
namespace Go.Proofs.Ytadebhbiglmodaa
namespace NX
open Go
set_option maxRecDepth 100000
set_option maxHeartbeats 4000000
def e120_L1 : EC := .seq (.reg [⟨(some 102), none, .bin .lss (.t 101) (.t 100)⟩]) (.seq (.ite (.t 102) (.skip) (.exit 2)) (.seq (.blk 3 (.seq (.reg [⟨(some 103), none, .mv (.t 101)⟩, ⟨(some 11), none, .mv (.t 103)⟩]) (.reg [⟨(some 104), none, .fld 2 (.t 1)⟩, ⟨(some 105), none, .load (.t 104)⟩, ⟨(some 106), none, .mv (.t 11)⟩, ⟨(some 107), none, .idx 8 (.t 105) (.t 106)⟩, ⟨(some 108), none, .fld 4 (.t 107)⟩, ⟨none, none, .store 1 (.t 108) (.c .tt)⟩]))) (.reg [⟨(some 109), none, .bin .add (.t 101) (.c (.iv 1))⟩, ⟨(some 101), none, .mv (.t 109)⟩])))
def e120_L0 : EC := .seq (.reg [⟨(some 26), none, .bin .lss (.t 25) (.t 24)⟩]) (.seq (.ite (.t 26) (.skip) (.exit 0)) (.seq (.blk 1 (.seq (.reg [⟨(some 27), none, .mv (.t 25)⟩, ⟨(some 8), none, .mv (.t 27)⟩]) (.seq (.reg [⟨(some 28), none, .fld 2 (.t 1)⟩, ⟨(some 29), none, .load (.t 28)⟩, ⟨(some 30), none, .mv (.t 8)⟩, ⟨(some 31), none, .idx 8 (.t 29) (.t 30)⟩, ⟨(some 9), none, .alloc 146 [.nlp]⟩, ⟨none, none, .store 1 (.t 9) (.t 31)⟩]) (.seq (.reg [⟨(some 32), none, .mkf 132 [(.t 6), (.t 1), (.t 9)]⟩, ⟨(some 10), none, .mv (.t 32)⟩]) (.seq (.seq (.reg [⟨(some 33), none, .load (.t 9)⟩, ⟨(some 34), none, .nilchk (.t 33)⟩, ⟨(some 35), none, .fld 3 (.t 34)⟩, ⟨(some 36), none, .load (.t 35)⟩, ⟨(some 37), none, .mv (.t 36)⟩, ⟨(some 38), (some (37, true)), .load (.t 9)⟩, ⟨(some 39), (some (37, true)), .nilchk (.t 38)⟩, ⟨(some 40), (some (37, true)), .fld 4 (.t 39)⟩, ⟨(some 41), (some (37, true)), .load (.t 40)⟩, ⟨(some 42), none, .pick (.t 37) (.t 41) (.c .ff)⟩, ⟨(some 43), none, .mv (.t 42)⟩, ⟨(some 44), (some (43, true)), .load (.t 9)⟩, ⟨(some 45), (some (43, true)), .nilchk (.t 44)⟩, ⟨(some 46), (some (43, true)), .fld 5 (.t 45)⟩, ⟨(some 47), (some (43, true)), .load (.t 46)⟩, ⟨(some 48), none, .pick (.t 43) (.t 47) (.c .ff)⟩, ⟨(some 49), none, .mv (.t 48)⟩, ⟨(some 50), (some (49, true)), .fld 1 (.t 1)⟩, ⟨(some 51), (some (49, true)), .load (.t 50)⟩, ⟨(some 52), (some (49, true)), .bin .neq (.t 51) (.c (.iv 2))⟩, ⟨(some 53), none, .pick (.t 49) (.t 52) (.c .ff)⟩]) (.ite (.t 53) (.seq (.drw [⟨(some 54), none, .load (.t 9)⟩, ⟨(some 55), none, .load (.t 9)⟩, ⟨(some 56), none, .nilchk (.t 54)⟩, ⟨(some 57), none, .fld 3 (.t 56)⟩, ⟨none, none, .store 1 (.t 57) (.c .ff)⟩, ⟨(some 58), none, .nilchk (.t 55)⟩, ⟨(some 59), none, .fld 4 (.t 58)⟩, ⟨none, none, .store 1 (.t 59) (.c .ff)⟩] [[], [], [0, 0], [2, 0], [3, 0], [1, 0, 1, 2, 3, 4], [5, 0, 1, 2, 3, 4], [6, 4, 0, 1, 2, 3, 4]] [[2], [5], [0, 3], [2, 4], [3], [1, 6], [5, 7], [6]]) (.reg [⟨(some 60), none, .mv (.t 10)⟩, ⟨(some 61), none, .callv (.t 60) [(.c (.iv 1))]⟩])) (.skip))) (.seq (.seq (.reg [⟨(some 62), none, .fld 1 (.t 1)⟩, ⟨(some 63), none, .load (.t 62)⟩, ⟨(some 64), none, .bin .eql (.t 63) (.c (.iv 1))⟩, ⟨(some 65), none, .mv (.t 64)⟩, ⟨(some 66), (some (65, true)), .load (.t 9)⟩, ⟨(some 67), (some (65, true)), .nilchk (.t 66)⟩, ⟨(some 68), (some (65, true)), .fld 5 (.t 67)⟩, ⟨(some 69), (some (65, true)), .load (.t 68)⟩, ⟨(some 70), none, .pick (.t 65) (.t 69) (.c .ff)⟩, ⟨(some 71), none, .mv (.t 70)⟩, ⟨(some 72), (some (71, true)), .load (.t 9)⟩, ⟨(some 73), (some (71, true)), .nilchk (.t 72)⟩, ⟨(some 74), (some (71, true)), .fld 3 (.t 73)⟩, ⟨(some 75), (some (71, true)), .load (.t 74)⟩, ⟨(some 76), (some (71, true)), .not (.t 75)⟩, ⟨(some 77), none, .pick (.t 71) (.t 76) (.c .ff)⟩]) (.ite (.t 77) (.seq (.reg [⟨(some 78), none, .load (.t 9)⟩, ⟨(some 79), none, .nilchk (.t 78)⟩, ⟨(some 80), none, .fld 5 (.t 79)⟩, ⟨none, none, .store 1 (.t 80) (.c .ff)⟩]) (.reg [⟨(some 81), none, .mv (.t 10)⟩, ⟨(some 82), none, .callv (.t 81) [(.c (.iv 2))]⟩])) (.skip))) (.reg [⟨(some 83), none, .mv (.t 7)⟩, ⟨(some 84), none, .mv (.t 83)⟩, ⟨(some 85), (some (84, true)), .load (.t 9)⟩, ⟨(some 86), (some (84, true)), .nilchk (.t 85)⟩, ⟨(some 87), (some (84, true)), .fld 3 (.t 86)⟩, ⟨(some 88), (some (84, true)), .load (.t 87)⟩, ⟨(some 89), none, .pick (.t 84) (.t 88) (.c .ff)⟩, ⟨(some 7), none, .mv (.t 89)⟩]))))))) (.reg [⟨(some 90), none, .bin .add (.t 25) (.c (.iv 1))⟩, ⟨(some 25), none, .mv (.t 90)⟩])))
def e120 : EC := .seq (.reg [⟨(some 1), none, .box 39 3 (.t 0)⟩, ⟨(some 2), none, .alloc 39 [.iv 0, .iv 0, .nl]⟩, ⟨(some 3), none, .mv (.c .nl)⟩, ⟨(some 4), none, .mv (.c (.iv 0))⟩]) (.seq (.seq (.reg [⟨(some 12), none, .loadA 3 (.t 1)⟩, ⟨(some 13), none, .call 103 [(.t 12)]⟩, ⟨(some 5), none, .mv (.t 13)⟩]) (.seq (.reg [⟨(some 14), none, .mv (.t 5)⟩, ⟨(some 15), none, .bin .neq (.t 14) (.c (.iv 0))⟩]) (.ite (.t 15) (.seq (.reg [⟨(some 16), none, .build [.iv 0, .iv 0, .nl] []⟩, ⟨(some 17), none, .mv (.t 5)⟩, ⟨none, none, .store 3 (.t 2) (.t 16)⟩, ⟨(some 3), none, .mv (.c .nl)⟩, ⟨(some 4), none, .mv (.t 17)⟩]) (.ret)) (.skip)))) (.seq (.reg [⟨(some 18), none, .fld 2 (.t 1)⟩, ⟨(some 19), none, .load (.t 18)⟩, ⟨(some 20), none, .call 121 [(.t 19)]⟩, ⟨(some 21), none, .fld 2 (.t 1)⟩, ⟨none, none, .store 1 (.t 21) (.t 20)⟩]) (.seq (.reg [⟨(some 6), none, .alloc 41 [.nl]⟩]) (.seq (.reg [⟨(some 7), none, .mv (.c .tt)⟩]) (.seq (.seq (.reg [⟨(some 22), none, .fld 2 (.t 1)⟩, ⟨(some 23), none, .load (.t 22)⟩, ⟨(some 24), none, .len (.t 23)⟩, ⟨(some 25), none, .mv (.c (.iv 0))⟩]) (.blk 0 (.loop e120_L0))) (.seq (.seq (.reg [⟨(some 91), none, .fld 1 (.t 1)⟩, ⟨(some 92), none, .load (.t 91)⟩, ⟨(some 93), none, .bin .eql (.t 92) (.c (.iv 1))⟩, ⟨(some 94), none, .mv (.t 93)⟩, ⟨(some 95), (some (94, true)), .mv (.t 7)⟩, ⟨(some 96), none, .pick (.t 94) (.t 95) (.c .ff)⟩]) (.ite (.t 96) (.seq (.reg [⟨(some 97), none, .fld 1 (.t 1)⟩, ⟨none, none, .store 1 (.t 97) (.c (.iv 2))⟩]) (.seq (.reg [⟨(some 98), none, .fld 2 (.t 1)⟩, ⟨(some 99), none, .load (.t 98)⟩, ⟨(some 100), none, .len (.t 99)⟩, ⟨(some 101), none, .mv (.c (.iv 0))⟩]) (.blk 2 (.loop e120_L1)))) (.skip))) (.seq (.drw [⟨(some 110), none, .loadA 3 (.t 1)⟩, ⟨(some 111), none, .load (.t 6)⟩, ⟨none, none, .store 3 (.t 2) (.t 110)⟩, ⟨(some 3), none, .mv (.t 111)⟩, ⟨(some 4), none, .mv (.c (.iv 0))⟩] [[], [], [0, 0], [1, 2, 0, 1, 2], [3, 0, 1, 2, 3]] [[2], [3], [0], [1], []]) (.ret))))))))
theorem ok120 : FnOK Try.prog 120 Try.f120 e120 [.c 2 (some 3), .t 3, .t 4] 1 111 := ⟨by kernel_rfl, ⟨_, rfl, by kernel_rfl⟩, by kernel_rfl, by kernel_rfl⟩
/- narthex/dine.Fire$1, lent own memory -/
noncomputable def m_dine_Fire_1_in_dine_Fire_1 (x1 : Int) (x2 : Int) (_x3 : Int) (x4 : Int) (x5 : (List Side)) : Option (List Mail) :=
 (at_ x5 x4).bind fun x6 =>
 (app_ 40 [] ([(Mail.mk x2 x6.Peer ((Msg.mk x1 x6.Epoch 0)))])).bind fun x7 =>
 some x7
theorem t_dine_Fire_1_in_dine_Fire_1 (x1 : Int) (x2 : Int) (x3 : Int) (x4 : Int) (x5 : (List Side)) (r : (List Mail)) (h : m_dine_Fire_1_in_dine_Fire_1 x1 x2 x3 x4 x5 = some r) : FunT Try.prog 132 [.iv x1, .ptr 2 0, .ptr 0 0, .ptr 3 0] [some ⟨39, [.iv x2, .iv x3, .osl 0]⟩, none, some ⟨41, [.nl]⟩, some ⟨146, [.oel 0 ((x4).toNat * 8) 0]⟩] [some ⟨49, 8, List.map Side.row x5⟩] (.tup []) [some ⟨39, [.iv x2, .iv x3, .osl 0]⟩, none, some ⟨41, [.osl 2]⟩, some ⟨146, [.oel 0 ((x4).toNat * 8) 0]⟩] [some ⟨49, 8, List.map Side.row x5⟩, none, some ⟨97, 5, List.map Mail.row r⟩] := by
  refine FunT_intro ok132 rfl rfl rfl (by first | rfl | simp [go_sem]) fun w0 M0 => ?_
  rw [m_dine_Fire_1_in_dine_Fire_1] at h
  dsimp only [lun, List.cons_append, List.nil_append]
  refine V_drw (by kernel_rfl) fun all hall hs hnap haf => ?_; dsimp only [go_sem, Nat.reduceBEq, Nat.reduceAdd]; refine G_goE hall hs haf hnap 4 13 [true, true, true, false, false, false, false, true, false, false, false, false, false, false, false, false, false] (⟨[.iv x1, .ptr 2 0, .ptr 0 0, .ptr 3 0, .un, .nl, .ptr 0 0, .iv x2, .un, .un, .un, .un, .iv x1, .un, .un, .un, .un, .un, .un, .un, .un], [some ⟨39, [.iv x2, .iv x3, .osl 0]⟩, none, some ⟨41, [.nl]⟩, some ⟨146, [.oel 0 ((x4).toNat * 8) 0]⟩], [some ⟨49, 8, List.map Side.row x5⟩]⟩ : St) (by kernel_rfl) ?_; refine G_two 3 8 rfl ?_ ?_
  ·refine GO_ev hall rfl trivial ?_; dsimp only [go_sem, Nat.reduceBEq, Nat.reduceAdd]; refine G_goN hall hs haf hnap 2 10 ?_; dsimp only [go_sem, Nat.reduceBEq, Nat.reduceAdd]; refine ⟨by simp, ?_⟩; obtain ⟨x6, ex6, h⟩ := Option.bind_eq_some_iff.1 h; refine G_two 6 8 rfl ?_ ?_
   ·refine GO_loadO hall Side.row ex6 rfl trivial rfl rfl rfl ?_; dsimp only [go_sem, Nat.reduceBEq, Nat.reduceAdd]; refine G_one 8 rfl ?_; refine GO_ev hall rfl trivial ?_; dsimp only [go_sem, Nat.reduceBEq, Nat.reduceAdd]; refine G_goN hall hs haf hnap 2 6 ?_; dsimp only [go_sem, Nat.reduceBEq, Nat.reduceAdd]; refine ⟨by simp, ?_⟩; refine G_one 11 rfl ?_; refine GO_loadO hall Side.row ex6 rfl trivial rfl rfl rfl ?_; dsimp only [go_sem, Nat.reduceBEq, Nat.reduceAdd]; refine G_goN hall hs haf hnap 2 3 ?_; dsimp only [go_sem, Nat.reduceBEq, Nat.reduceAdd]; refine ⟨by simp, ?_⟩
    refine G_one 14 rfl ?_; refine GO_ev hall rfl trivial ?_; dsimp only [go_sem, Nat.reduceBEq, Nat.reduceAdd]; refine G_one 15 rfl ?_; obtain ⟨x7, ex7, h⟩ := Option.bind_eq_some_iff.1 h; refine GO_app0M Mail.row ex7 hall rfl trivial rfl rfl ?_; dsimp only [go_sem, Nat.reduceBEq, Nat.reduceAdd]; refine G_one 16 rfl ?_; refine GO_ev hall rfl trivial ?_; dsimp only [go_sem, Nat.reduceBEq, Nat.reduceAdd]; refine G_done rfl ?_ _; obtain rfl := Option.some.inj h; exact T_stop ok132 rfl (by simp [go_sem])
   ·refine GO_ev hall rfl trivial ?_; dsimp only [go_sem, Nat.reduceBEq, Nat.reduceAdd]; refine G_goN hall hs haf hnap 2 7 ?_; dsimp only [go_sem, Nat.reduceBEq, Nat.reduceAdd]; refine ⟨by simp, ?_⟩; refine G_two 6 11 rfl ?_ ?_
    ·refine GO_loadO hall Side.row ex6 rfl trivial rfl rfl rfl ?_; dsimp only [go_sem, Nat.reduceBEq, Nat.reduceAdd]; refine G_one 11 rfl ?_; refine GO_loadO hall Side.row ex6 rfl trivial rfl rfl rfl ?_; dsimp only [go_sem, Nat.reduceBEq, Nat.reduceAdd]; refine G_goN hall hs haf hnap 2 3 ?_; dsimp only [go_sem, Nat.reduceBEq, Nat.reduceAdd]; refine ⟨by simp, ?_⟩; refine G_one 14 rfl ?_; refine GO_ev hall rfl trivial ?_; dsimp only [go_sem, Nat.reduceBEq, Nat.reduceAdd]; refine G_one 15 rfl ?_; obtain ⟨x7, ex7, h⟩ := Option.bind_eq_some_iff.1 h
     refine GO_app0M Mail.row ex7 hall rfl trivial rfl rfl ?_; dsimp only [go_sem, Nat.reduceBEq, Nat.reduceAdd]; refine G_one 16 rfl ?_; refine GO_ev hall rfl trivial ?_; dsimp only [go_sem, Nat.reduceBEq, Nat.reduceAdd]; refine G_done rfl ?_ _; obtain rfl := Option.some.inj h; exact T_stop ok132 rfl (by simp [go_sem])
    ·refine GO_loadO hall Side.row ex6 rfl trivial rfl rfl rfl ?_; dsimp only [go_sem, Nat.reduceBEq, Nat.reduceAdd]; refine G_goN hall hs haf hnap 1 5 ?_; dsimp only [go_sem, Nat.reduceBEq, Nat.reduceAdd]; refine ⟨by simp, ?_⟩; refine G_one 6 rfl ?_; refine GO_loadO hall Side.row ex6 rfl trivial rfl rfl rfl ?_; dsimp only [go_sem, Nat.reduceBEq, Nat.reduceAdd]; refine G_goN hall hs haf hnap 1 3 ?_; dsimp only [go_sem, Nat.reduceBEq, Nat.reduceAdd]; refine ⟨by simp, ?_⟩; refine G_one 14 rfl ?_; refine GO_ev hall rfl trivial ?_; dsimp only [go_sem, Nat.reduceBEq, Nat.reduceAdd]
     refine G_one 15 rfl ?_; obtain ⟨x7, ex7, h⟩ := Option.bind_eq_some_iff.1 h; refine GO_app0M Mail.row ex7 hall rfl trivial rfl rfl ?_; dsimp only [go_sem, Nat.reduceBEq, Nat.reduceAdd]; refine G_one 16 rfl ?_; refine GO_ev hall rfl trivial ?_; dsimp only [go_sem, Nat.reduceBEq, Nat.reduceAdd]; refine G_done rfl ?_ _; obtain rfl := Option.some.inj h; exact T_stop ok132 rfl (by simp [go_sem])
  ·refine GO_ev hall rfl trivial ?_; dsimp only [go_sem, Nat.reduceBEq, Nat.reduceAdd]; refine G_goN hall hs haf hnap 2 10 ?_; dsimp only [go_sem, Nat.reduceBEq, Nat.reduceAdd]; refine ⟨by simp, ?_⟩; obtain ⟨x6, ex6, h⟩ := Option.bind_eq_some_iff.1 h; refine G_two 3 11 rfl ?_ ?_
   ·refine GO_ev hall rfl trivial ?_; dsimp only [go_sem, Nat.reduceBEq, Nat.reduceAdd]; refine G_goN hall hs haf hnap 2 7 ?_; dsimp only [go_sem, Nat.reduceBEq, Nat.reduceAdd]; refine ⟨by simp, ?_⟩; refine G_two 6 11 rfl ?_ ?_
    ·refine GO_loadO hall Side.row ex6 rfl trivial rfl rfl rfl ?_; dsimp only [go_sem, Nat.reduceBEq, Nat.reduceAdd]; refine G_one 11 rfl ?_; refine GO_loadO hall Side.row ex6 rfl trivial rfl rfl rfl ?_; dsimp only [go_sem, Nat.reduceBEq, Nat.reduceAdd]; refine G_goN hall hs haf hnap 2 3 ?_; dsimp only [go_sem, Nat.reduceBEq, Nat.reduceAdd]; refine ⟨by simp, ?_⟩; refine G_one 14 rfl ?_; refine GO_ev hall rfl trivial ?_; dsimp only [go_sem, Nat.reduceBEq, Nat.reduceAdd]; refine G_one 15 rfl ?_; obtain ⟨x7, ex7, h⟩ := Option.bind_eq_some_iff.1 h
     refine GO_app0M Mail.row ex7 hall rfl trivial rfl rfl ?_; dsimp only [go_sem, Nat.reduceBEq, Nat.reduceAdd]; refine G_one 16 rfl ?_; refine GO_ev hall rfl trivial ?_; dsimp only [go_sem, Nat.reduceBEq, Nat.reduceAdd]; refine G_done rfl ?_ _; obtain rfl := Option.some.inj h; exact T_stop ok132 rfl (by simp [go_sem])
    ·refine GO_loadO hall Side.row ex6 rfl trivial rfl rfl rfl ?_; dsimp only [go_sem, Nat.reduceBEq, Nat.reduceAdd]; refine G_goN hall hs haf hnap 1 5 ?_; dsimp only [go_sem, Nat.reduceBEq, Nat.reduceAdd]; refine ⟨by simp, ?_⟩; refine G_one 6 rfl ?_; refine GO_loadO hall Side.row ex6 rfl trivial rfl rfl rfl ?_; dsimp only [go_sem, Nat.reduceBEq, Nat.reduceAdd]; refine G_goN hall hs haf hnap 1 3 ?_; dsimp only [go_sem, Nat.reduceBEq, Nat.reduceAdd]; refine ⟨by simp, ?_⟩; refine G_one 14 rfl ?_; refine GO_ev hall rfl trivial ?_; dsimp only [go_sem, Nat.reduceBEq, Nat.reduceAdd]
     refine G_one 15 rfl ?_; obtain ⟨x7, ex7, h⟩ := Option.bind_eq_some_iff.1 h; refine GO_app0M Mail.row ex7 hall rfl trivial rfl rfl ?_; dsimp only [go_sem, Nat.reduceBEq, Nat.reduceAdd]; refine G_one 16 rfl ?_; refine GO_ev hall rfl trivial ?_; dsimp only [go_sem, Nat.reduceBEq, Nat.reduceAdd]; refine G_done rfl ?_ _; obtain rfl := Option.some.inj h; exact T_stop ok132 rfl (by simp [go_sem])
   ·refine GO_loadO hall Side.row ex6 rfl trivial rfl rfl rfl ?_; dsimp only [go_sem, Nat.reduceBEq, Nat.reduceAdd]; refine G_goN hall hs haf hnap 1 8 ?_; dsimp only [go_sem, Nat.reduceBEq, Nat.reduceAdd]; refine ⟨by simp, ?_⟩; refine G_one 3 rfl ?_; refine GO_ev hall rfl trivial ?_; dsimp only [go_sem, Nat.reduceBEq, Nat.reduceAdd]; refine G_goN hall hs haf hnap 2 5 ?_; dsimp only [go_sem, Nat.reduceBEq, Nat.reduceAdd]; refine ⟨by simp, ?_⟩; refine G_one 6 rfl ?_; refine GO_loadO hall Side.row ex6 rfl trivial rfl rfl rfl ?_; dsimp only [go_sem, Nat.reduceBEq, Nat.reduceAdd]
    refine G_goN hall hs haf hnap 1 3 ?_; dsimp only [go_sem, Nat.reduceBEq, Nat.reduceAdd]; refine ⟨by simp, ?_⟩; refine G_one 14 rfl ?_; refine GO_ev hall rfl trivial ?_; dsimp only [go_sem, Nat.reduceBEq, Nat.reduceAdd]; refine G_one 15 rfl ?_; obtain ⟨x7, ex7, h⟩ := Option.bind_eq_some_iff.1 h; refine GO_app0M Mail.row ex7 hall rfl trivial rfl rfl ?_; dsimp only [go_sem, Nat.reduceBEq, Nat.reduceAdd]; refine G_one 16 rfl ?_; refine GO_ev hall rfl trivial ?_; dsimp only [go_sem, Nat.reduceBEq, Nat.reduceAdd]; refine G_done rfl ?_ _; obtain rfl := Option.some.inj h
    exact T_stop ok132 rfl (by simp [go_sem])
def f_dine_Fire_1_in_dine_Fire_1 (_F : Nat) (x1 : Int) (x2 : Int) (_x3 : Int) (x4 : Int) (x5 : (List Side)) : Option (List Mail) :=
 (at_ x5 x4).bind fun x6 =>
 (app_ 40 [] ([(Mail.mk x2 x6.Peer ((Msg.mk x1 x6.Epoch 0)))])).bind fun x7 =>
 some x7
theorem le_dine_Fire_1_in_dine_Fire_1 {F : Nat} {x1 : Int} {x2 : Int} {x3 : Int} {x4 : Int} {x5 : (List Side)} : ole (f_dine_Fire_1_in_dine_Fire_1 F x1 x2 x3 x4 x5) (m_dine_Fire_1_in_dine_Fire_1 x1 x2 x3 x4 x5) := by
  unfold f_dine_Fire_1_in_dine_Fire_1 m_dine_Fire_1_in_dine_Fire_1
  with_reducible repeat' first | exact ole_refl _ | assumption | intro _ | refine ole_ifb ?_ ?_ | refine ole_bind ?_ ?_ | refine ole_map ?_ | refine ole_loop ?_
/- narthex/dine.Fire$1, lent own memory -/
noncomputable def m_dine_Fire_1_in_dine_Fire_2 (x1 : Int) (x2 : Int) (_x3 : Int) (x4 : Int) (x5 : (List Side)) (x6 : (List Mail)) : Option (List Mail) :=
 (at_ x5 x4).bind fun x7 =>
 (app_ 40 x6 ([(Mail.mk x2 x7.Peer ((Msg.mk x1 x7.Epoch 0)))])).bind fun x8 =>
 some x8
theorem t_dine_Fire_1_in_dine_Fire_2 (x1 : Int) (x2 : Int) (x3 : Int) (x4 : Int) (x5 : (List Side)) (x6 : (List Mail)) (r : (List Mail)) (h : m_dine_Fire_1_in_dine_Fire_2 x1 x2 x3 x4 x5 x6 = some r) : FunT Try.prog 132 [.iv x1, .ptr 2 0, .ptr 0 0, .ptr 3 0] [some ⟨39, [.iv x2, .iv x3, .osl 0]⟩, none, some ⟨41, [.osl 1]⟩, some ⟨146, [.oel 0 ((x4).toNat * 8) 0]⟩] [some ⟨49, 8, List.map Side.row x5⟩, some ⟨97, 5, List.map Mail.row x6⟩] (.tup []) [some ⟨39, [.iv x2, .iv x3, .osl 0]⟩, none, some ⟨41, [.osl 3]⟩, some ⟨146, [.oel 0 ((x4).toNat * 8) 0]⟩] [some ⟨49, 8, List.map Side.row x5⟩, none, none, some ⟨97, 5, List.map Mail.row r⟩] := by
  refine FunT_intro ok132 rfl rfl rfl (by first | rfl | simp [go_sem]) fun w0 M0 => ?_
  rw [m_dine_Fire_1_in_dine_Fire_2] at h
  dsimp only [lun, List.cons_append, List.nil_append]
  refine V_drw (by kernel_rfl) fun all hall hs hnap haf => ?_; dsimp only [go_sem, Nat.reduceBEq, Nat.reduceAdd]; refine G_goN hall hs haf hnap 3 14 ?_; dsimp only [go_sem, Nat.reduceBEq, Nat.reduceAdd]; refine ⟨by simp, ?_⟩; refine G_three 0 3 8 rfl ?_ ?_ ?_
  ·refine GO_ev hall rfl trivial ?_; dsimp only [go_sem, Nat.reduceBEq, Nat.reduceAdd]; refine G_two 3 8 rfl ?_ ?_
   ·refine GO_ev hall rfl trivial ?_; dsimp only [go_sem, Nat.reduceBEq, Nat.reduceAdd]; refine G_goN hall hs haf hnap 2 10 ?_; dsimp only [go_sem, Nat.reduceBEq, Nat.reduceAdd]; refine ⟨by simp, ?_⟩; obtain ⟨x7, ex7, h⟩ := Option.bind_eq_some_iff.1 h; refine G_two 6 8 rfl ?_ ?_
    ·refine GO_loadO hall Side.row ex7 rfl trivial rfl rfl rfl ?_; dsimp only [go_sem, Nat.reduceBEq, Nat.reduceAdd]; refine G_one 8 rfl ?_; refine GO_ev hall rfl trivial ?_; dsimp only [go_sem, Nat.reduceBEq, Nat.reduceAdd]; refine G_goN hall hs haf hnap 2 6 ?_; dsimp only [go_sem, Nat.reduceBEq, Nat.reduceAdd]; refine ⟨by simp, ?_⟩; refine G_one 11 rfl ?_; refine GO_loadO hall Side.row ex7 rfl trivial rfl rfl rfl ?_; dsimp only [go_sem, Nat.reduceBEq, Nat.reduceAdd]; refine G_goN hall hs haf hnap 2 3 ?_; dsimp only [go_sem, Nat.reduceBEq, Nat.reduceAdd]; refine ⟨by simp, ?_⟩
     refine G_one 14 rfl ?_; refine GO_ev hall rfl trivial ?_; dsimp only [go_sem, Nat.reduceBEq, Nat.reduceAdd]; refine G_one 15 rfl ?_; obtain ⟨x8, ex8, h⟩ := Option.bind_eq_some_iff.1 h; refine GO_appM Mail.row ex8 hall rfl trivial rfl rfl rfl ?_; dsimp only [go_sem, Nat.reduceBEq, Nat.reduceAdd]; refine G_one 16 rfl ?_; refine GO_ev hall rfl trivial ?_; dsimp only [go_sem, Nat.reduceBEq, Nat.reduceAdd]; refine G_done rfl ?_ _; obtain rfl := Option.some.inj h; exact T_stop ok132 rfl (by simp [go_sem])
    ·refine GO_ev hall rfl trivial ?_; dsimp only [go_sem, Nat.reduceBEq, Nat.reduceAdd]; refine G_goN hall hs haf hnap 2 7 ?_; dsimp only [go_sem, Nat.reduceBEq, Nat.reduceAdd]; refine ⟨by simp, ?_⟩; refine G_two 6 11 rfl ?_ ?_
     ·refine GO_loadO hall Side.row ex7 rfl trivial rfl rfl rfl ?_; dsimp only [go_sem, Nat.reduceBEq, Nat.reduceAdd]; refine G_one 11 rfl ?_; refine GO_loadO hall Side.row ex7 rfl trivial rfl rfl rfl ?_; dsimp only [go_sem, Nat.reduceBEq, Nat.reduceAdd]; refine G_goN hall hs haf hnap 2 3 ?_; dsimp only [go_sem, Nat.reduceBEq, Nat.reduceAdd]; refine ⟨by simp, ?_⟩; refine G_one 14 rfl ?_; refine GO_ev hall rfl trivial ?_; dsimp only [go_sem, Nat.reduceBEq, Nat.reduceAdd]; refine G_one 15 rfl ?_; obtain ⟨x8, ex8, h⟩ := Option.bind_eq_some_iff.1 h
      refine GO_appM Mail.row ex8 hall rfl trivial rfl rfl rfl ?_; dsimp only [go_sem, Nat.reduceBEq, Nat.reduceAdd]; refine G_one 16 rfl ?_; refine GO_ev hall rfl trivial ?_; dsimp only [go_sem, Nat.reduceBEq, Nat.reduceAdd]; refine G_done rfl ?_ _; obtain rfl := Option.some.inj h; exact T_stop ok132 rfl (by simp [go_sem])
     ·refine GO_loadO hall Side.row ex7 rfl trivial rfl rfl rfl ?_; dsimp only [go_sem, Nat.reduceBEq, Nat.reduceAdd]; refine G_goN hall hs haf hnap 1 5 ?_; dsimp only [go_sem, Nat.reduceBEq, Nat.reduceAdd]; refine ⟨by simp, ?_⟩; refine G_one 6 rfl ?_; refine GO_loadO hall Side.row ex7 rfl trivial rfl rfl rfl ?_; dsimp only [go_sem, Nat.reduceBEq, Nat.reduceAdd]; refine G_goN hall hs haf hnap 1 3 ?_; dsimp only [go_sem, Nat.reduceBEq, Nat.reduceAdd]; refine ⟨by simp, ?_⟩; refine G_one 14 rfl ?_; refine GO_ev hall rfl trivial ?_; dsimp only [go_sem, Nat.reduceBEq, Nat.reduceAdd]
      refine G_one 15 rfl ?_; obtain ⟨x8, ex8, h⟩ := Option.bind_eq_some_iff.1 h; refine GO_appM Mail.row ex8 hall rfl trivial rfl rfl rfl ?_; dsimp only [go_sem, Nat.reduceBEq, Nat.reduceAdd]; refine G_one 16 rfl ?_; refine GO_ev hall rfl trivial ?_; dsimp only [go_sem, Nat.reduceBEq, Nat.reduceAdd]; refine G_done rfl ?_ _; obtain rfl := Option.some.inj h; exact T_stop ok132 rfl (by simp [go_sem])
   ·refine GO_ev hall rfl trivial ?_; dsimp only [go_sem, Nat.reduceBEq, Nat.reduceAdd]; refine G_goN hall hs haf hnap 2 10 ?_; dsimp only [go_sem, Nat.reduceBEq, Nat.reduceAdd]; refine ⟨by simp, ?_⟩; obtain ⟨x7, ex7, h⟩ := Option.bind_eq_some_iff.1 h; refine G_two 3 11 rfl ?_ ?_
    ·refine GO_ev hall rfl trivial ?_; dsimp only [go_sem, Nat.reduceBEq, Nat.reduceAdd]; refine G_goN hall hs haf hnap 2 7 ?_; dsimp only [go_sem, Nat.reduceBEq, Nat.reduceAdd]; refine ⟨by simp, ?_⟩; refine G_two 6 11 rfl ?_ ?_
     ·refine GO_loadO hall Side.row ex7 rfl trivial rfl rfl rfl ?_; dsimp only [go_sem, Nat.reduceBEq, Nat.reduceAdd]; refine G_one 11 rfl ?_; refine GO_loadO hall Side.row ex7 rfl trivial rfl rfl rfl ?_; dsimp only [go_sem, Nat.reduceBEq, Nat.reduceAdd]; refine G_goN hall hs haf hnap 2 3 ?_; dsimp only [go_sem, Nat.reduceBEq, Nat.reduceAdd]; refine ⟨by simp, ?_⟩; refine G_one 14 rfl ?_; refine GO_ev hall rfl trivial ?_; dsimp only [go_sem, Nat.reduceBEq, Nat.reduceAdd]; refine G_one 15 rfl ?_; obtain ⟨x8, ex8, h⟩ := Option.bind_eq_some_iff.1 h
      refine GO_appM Mail.row ex8 hall rfl trivial rfl rfl rfl ?_; dsimp only [go_sem, Nat.reduceBEq, Nat.reduceAdd]; refine G_one 16 rfl ?_; refine GO_ev hall rfl trivial ?_; dsimp only [go_sem, Nat.reduceBEq, Nat.reduceAdd]; refine G_done rfl ?_ _; obtain rfl := Option.some.inj h; exact T_stop ok132 rfl (by simp [go_sem])
     ·refine GO_loadO hall Side.row ex7 rfl trivial rfl rfl rfl ?_; dsimp only [go_sem, Nat.reduceBEq, Nat.reduceAdd]; refine G_goN hall hs haf hnap 1 5 ?_; dsimp only [go_sem, Nat.reduceBEq, Nat.reduceAdd]; refine ⟨by simp, ?_⟩; refine G_one 6 rfl ?_; refine GO_loadO hall Side.row ex7 rfl trivial rfl rfl rfl ?_; dsimp only [go_sem, Nat.reduceBEq, Nat.reduceAdd]; refine G_goN hall hs haf hnap 1 3 ?_; dsimp only [go_sem, Nat.reduceBEq, Nat.reduceAdd]; refine ⟨by simp, ?_⟩; refine G_one 14 rfl ?_; refine GO_ev hall rfl trivial ?_; dsimp only [go_sem, Nat.reduceBEq, Nat.reduceAdd]
      refine G_one 15 rfl ?_; obtain ⟨x8, ex8, h⟩ := Option.bind_eq_some_iff.1 h; refine GO_appM Mail.row ex8 hall rfl trivial rfl rfl rfl ?_; dsimp only [go_sem, Nat.reduceBEq, Nat.reduceAdd]; refine G_one 16 rfl ?_; refine GO_ev hall rfl trivial ?_; dsimp only [go_sem, Nat.reduceBEq, Nat.reduceAdd]; refine G_done rfl ?_ _; obtain rfl := Option.some.inj h; exact T_stop ok132 rfl (by simp [go_sem])
    ·refine GO_loadO hall Side.row ex7 rfl trivial rfl rfl rfl ?_; dsimp only [go_sem, Nat.reduceBEq, Nat.reduceAdd]; refine G_goN hall hs haf hnap 1 8 ?_; dsimp only [go_sem, Nat.reduceBEq, Nat.reduceAdd]; refine ⟨by simp, ?_⟩; refine G_one 3 rfl ?_; refine GO_ev hall rfl trivial ?_; dsimp only [go_sem, Nat.reduceBEq, Nat.reduceAdd]; refine G_goN hall hs haf hnap 2 5 ?_; dsimp only [go_sem, Nat.reduceBEq, Nat.reduceAdd]; refine ⟨by simp, ?_⟩; refine G_one 6 rfl ?_; refine GO_loadO hall Side.row ex7 rfl trivial rfl rfl rfl ?_; dsimp only [go_sem, Nat.reduceBEq, Nat.reduceAdd]
     refine G_goN hall hs haf hnap 1 3 ?_; dsimp only [go_sem, Nat.reduceBEq, Nat.reduceAdd]; refine ⟨by simp, ?_⟩; refine G_one 14 rfl ?_; refine GO_ev hall rfl trivial ?_; dsimp only [go_sem, Nat.reduceBEq, Nat.reduceAdd]; refine G_one 15 rfl ?_; obtain ⟨x8, ex8, h⟩ := Option.bind_eq_some_iff.1 h; refine GO_appM Mail.row ex8 hall rfl trivial rfl rfl rfl ?_; dsimp only [go_sem, Nat.reduceBEq, Nat.reduceAdd]; refine G_one 16 rfl ?_; refine GO_ev hall rfl trivial ?_; dsimp only [go_sem, Nat.reduceBEq, Nat.reduceAdd]; refine G_done rfl ?_ _; obtain rfl := Option.some.inj h
     exact T_stop ok132 rfl (by simp [go_sem])
  ·refine GO_ev hall rfl trivial ?_; dsimp only [go_sem, Nat.reduceBEq, Nat.reduceAdd]; refine G_goN hall hs haf hnap 2 11 ?_; dsimp only [go_sem, Nat.reduceBEq, Nat.reduceAdd]; refine ⟨by simp, ?_⟩; obtain ⟨x7, ex7, h⟩ := Option.bind_eq_some_iff.1 h; refine G_three 0 6 8 rfl ?_ ?_ ?_
   ·refine GO_ev hall rfl trivial ?_; dsimp only [go_sem, Nat.reduceBEq, Nat.reduceAdd]; refine G_two 6 8 rfl ?_ ?_
    ·refine GO_loadO hall Side.row ex7 rfl trivial rfl rfl rfl ?_; dsimp only [go_sem, Nat.reduceBEq, Nat.reduceAdd]; refine G_one 8 rfl ?_; refine GO_ev hall rfl trivial ?_; dsimp only [go_sem, Nat.reduceBEq, Nat.reduceAdd]; refine G_goN hall hs haf hnap 2 6 ?_; dsimp only [go_sem, Nat.reduceBEq, Nat.reduceAdd]; refine ⟨by simp, ?_⟩; refine G_one 11 rfl ?_; refine GO_loadO hall Side.row ex7 rfl trivial rfl rfl rfl ?_; dsimp only [go_sem, Nat.reduceBEq, Nat.reduceAdd]; refine G_goN hall hs haf hnap 2 3 ?_; dsimp only [go_sem, Nat.reduceBEq, Nat.reduceAdd]; refine ⟨by simp, ?_⟩
     refine G_one 14 rfl ?_; refine GO_ev hall rfl trivial ?_; dsimp only [go_sem, Nat.reduceBEq, Nat.reduceAdd]; refine G_one 15 rfl ?_; obtain ⟨x8, ex8, h⟩ := Option.bind_eq_some_iff.1 h; refine GO_appM Mail.row ex8 hall rfl trivial rfl rfl rfl ?_; dsimp only [go_sem, Nat.reduceBEq, Nat.reduceAdd]; refine G_one 16 rfl ?_; refine GO_ev hall rfl trivial ?_; dsimp only [go_sem, Nat.reduceBEq, Nat.reduceAdd]; refine G_done rfl ?_ _; obtain rfl := Option.some.inj h; exact T_stop ok132 rfl (by simp [go_sem])
    ·refine GO_ev hall rfl trivial ?_; dsimp only [go_sem, Nat.reduceBEq, Nat.reduceAdd]; refine G_goN hall hs haf hnap 2 7 ?_; dsimp only [go_sem, Nat.reduceBEq, Nat.reduceAdd]; refine ⟨by simp, ?_⟩; refine G_two 6 11 rfl ?_ ?_
     ·refine GO_loadO hall Side.row ex7 rfl trivial rfl rfl rfl ?_; dsimp only [go_sem, Nat.reduceBEq, Nat.reduceAdd]; refine G_one 11 rfl ?_; refine GO_loadO hall Side.row ex7 rfl trivial rfl rfl rfl ?_; dsimp only [go_sem, Nat.reduceBEq, Nat.reduceAdd]; refine G_goN hall hs haf hnap 2 3 ?_; dsimp only [go_sem, Nat.reduceBEq, Nat.reduceAdd]; refine ⟨by simp, ?_⟩; refine G_one 14 rfl ?_; refine GO_ev hall rfl trivial ?_; dsimp only [go_sem, Nat.reduceBEq, Nat.reduceAdd]; refine G_one 15 rfl ?_; obtain ⟨x8, ex8, h⟩ := Option.bind_eq_some_iff.1 h
      refine GO_appM Mail.row ex8 hall rfl trivial rfl rfl rfl ?_; dsimp only [go_sem, Nat.reduceBEq, Nat.reduceAdd]; refine G_one 16 rfl ?_; refine GO_ev hall rfl trivial ?_; dsimp only [go_sem, Nat.reduceBEq, Nat.reduceAdd]; refine G_done rfl ?_ _; obtain rfl := Option.some.inj h; exact T_stop ok132 rfl (by simp [go_sem])
     ·refine GO_loadO hall Side.row ex7 rfl trivial rfl rfl rfl ?_; dsimp only [go_sem, Nat.reduceBEq, Nat.reduceAdd]; refine G_goN hall hs haf hnap 1 5 ?_; dsimp only [go_sem, Nat.reduceBEq, Nat.reduceAdd]; refine ⟨by simp, ?_⟩; refine G_one 6 rfl ?_; refine GO_loadO hall Side.row ex7 rfl trivial rfl rfl rfl ?_; dsimp only [go_sem, Nat.reduceBEq, Nat.reduceAdd]; refine G_goN hall hs haf hnap 1 3 ?_; dsimp only [go_sem, Nat.reduceBEq, Nat.reduceAdd]; refine ⟨by simp, ?_⟩; refine G_one 14 rfl ?_; refine GO_ev hall rfl trivial ?_; dsimp only [go_sem, Nat.reduceBEq, Nat.reduceAdd]
      refine G_one 15 rfl ?_; obtain ⟨x8, ex8, h⟩ := Option.bind_eq_some_iff.1 h; refine GO_appM Mail.row ex8 hall rfl trivial rfl rfl rfl ?_; dsimp only [go_sem, Nat.reduceBEq, Nat.reduceAdd]; refine G_one 16 rfl ?_; refine GO_ev hall rfl trivial ?_; dsimp only [go_sem, Nat.reduceBEq, Nat.reduceAdd]; refine G_done rfl ?_ _; obtain rfl := Option.some.inj h; exact T_stop ok132 rfl (by simp [go_sem])
   ·refine GO_loadO hall Side.row ex7 rfl trivial rfl rfl rfl ?_; dsimp only [go_sem, Nat.reduceBEq, Nat.reduceAdd]; refine G_two 0 8 rfl ?_ ?_
    ·refine GO_ev hall rfl trivial ?_; dsimp only [go_sem, Nat.reduceBEq, Nat.reduceAdd]; refine G_one 8 rfl ?_; refine GO_ev hall rfl trivial ?_; dsimp only [go_sem, Nat.reduceBEq, Nat.reduceAdd]; refine G_goN hall hs haf hnap 2 6 ?_; dsimp only [go_sem, Nat.reduceBEq, Nat.reduceAdd]; refine ⟨by simp, ?_⟩; refine G_one 11 rfl ?_; refine GO_loadO hall Side.row ex7 rfl trivial rfl rfl rfl ?_; dsimp only [go_sem, Nat.reduceBEq, Nat.reduceAdd]; refine G_goN hall hs haf hnap 2 3 ?_; dsimp only [go_sem, Nat.reduceBEq, Nat.reduceAdd]; refine ⟨by simp, ?_⟩; refine G_one 14 rfl ?_
     refine GO_ev hall rfl trivial ?_; dsimp only [go_sem, Nat.reduceBEq, Nat.reduceAdd]; refine G_one 15 rfl ?_; obtain ⟨x8, ex8, h⟩ := Option.bind_eq_some_iff.1 h; refine GO_appM Mail.row ex8 hall rfl trivial rfl rfl rfl ?_; dsimp only [go_sem, Nat.reduceBEq, Nat.reduceAdd]; refine G_one 16 rfl ?_; refine GO_ev hall rfl trivial ?_; dsimp only [go_sem, Nat.reduceBEq, Nat.reduceAdd]; refine G_done rfl ?_ _; obtain rfl := Option.some.inj h; exact T_stop ok132 rfl (by simp [go_sem])
    ·refine GO_ev hall rfl trivial ?_; dsimp only [go_sem, Nat.reduceBEq, Nat.reduceAdd]; refine G_goN hall hs haf hnap 2 7 ?_; dsimp only [go_sem, Nat.reduceBEq, Nat.reduceAdd]; refine ⟨by simp, ?_⟩; refine G_two 0 11 rfl ?_ ?_
     ·refine GO_ev hall rfl trivial ?_; dsimp only [go_sem, Nat.reduceBEq, Nat.reduceAdd]; refine G_one 11 rfl ?_; refine GO_loadO hall Side.row ex7 rfl trivial rfl rfl rfl ?_; dsimp only [go_sem, Nat.reduceBEq, Nat.reduceAdd]; refine G_goN hall hs haf hnap 2 3 ?_; dsimp only [go_sem, Nat.reduceBEq, Nat.reduceAdd]; refine ⟨by simp, ?_⟩; refine G_one 14 rfl ?_; refine GO_ev hall rfl trivial ?_; dsimp only [go_sem, Nat.reduceBEq, Nat.reduceAdd]; refine G_one 15 rfl ?_; obtain ⟨x8, ex8, h⟩ := Option.bind_eq_some_iff.1 h; refine GO_appM Mail.row ex8 hall rfl trivial rfl rfl rfl ?_
      dsimp only [go_sem, Nat.reduceBEq, Nat.reduceAdd]; refine G_one 16 rfl ?_; refine GO_ev hall rfl trivial ?_; dsimp only [go_sem, Nat.reduceBEq, Nat.reduceAdd]; refine G_done rfl ?_ _; obtain rfl := Option.some.inj h; exact T_stop ok132 rfl (by simp [go_sem])
     ·refine GO_loadO hall Side.row ex7 rfl trivial rfl rfl rfl ?_; dsimp only [go_sem, Nat.reduceBEq, Nat.reduceAdd]; refine G_goN hall hs haf hnap 2 4 ?_; dsimp only [go_sem, Nat.reduceBEq, Nat.reduceAdd]; refine ⟨by simp, ?_⟩; refine G_two 0 14 rfl ?_ ?_
      ·refine GO_ev hall rfl trivial ?_; dsimp only [go_sem, Nat.reduceBEq, Nat.reduceAdd]; refine G_one 14 rfl ?_; refine GO_ev hall rfl trivial ?_; dsimp only [go_sem, Nat.reduceBEq, Nat.reduceAdd]; refine G_one 15 rfl ?_; obtain ⟨x8, ex8, h⟩ := Option.bind_eq_some_iff.1 h; refine GO_appM Mail.row ex8 hall rfl trivial rfl rfl rfl ?_; dsimp only [go_sem, Nat.reduceBEq, Nat.reduceAdd]; refine G_one 16 rfl ?_; refine GO_ev hall rfl trivial ?_; dsimp only [go_sem, Nat.reduceBEq, Nat.reduceAdd]; refine G_done rfl ?_ _; obtain rfl := Option.some.inj h; exact T_stop ok132 rfl (by simp [go_sem])
      ·refine GO_ev hall rfl trivial ?_; dsimp only [go_sem, Nat.reduceBEq, Nat.reduceAdd]; refine G_one 0 rfl ?_; refine GO_ev hall rfl trivial ?_; dsimp only [go_sem, Nat.reduceBEq, Nat.reduceAdd]; refine G_one 15 rfl ?_; obtain ⟨x8, ex8, h⟩ := Option.bind_eq_some_iff.1 h; refine GO_appM Mail.row ex8 hall rfl trivial rfl rfl rfl ?_; dsimp only [go_sem, Nat.reduceBEq, Nat.reduceAdd]; refine G_one 16 rfl ?_; refine GO_ev hall rfl trivial ?_; dsimp only [go_sem, Nat.reduceBEq, Nat.reduceAdd]; refine G_done rfl ?_ _; obtain rfl := Option.some.inj h; exact T_stop ok132 rfl (by simp [go_sem])
   ·refine GO_ev hall rfl trivial ?_; dsimp only [go_sem, Nat.reduceBEq, Nat.reduceAdd]; refine G_goN hall hs haf hnap 2 8 ?_; dsimp only [go_sem, Nat.reduceBEq, Nat.reduceAdd]; refine ⟨by simp, ?_⟩; refine G_three 0 6 11 rfl ?_ ?_ ?_
    ·refine GO_ev hall rfl trivial ?_; dsimp only [go_sem, Nat.reduceBEq, Nat.reduceAdd]; refine G_two 6 11 rfl ?_ ?_
     ·refine GO_loadO hall Side.row ex7 rfl trivial rfl rfl rfl ?_; dsimp only [go_sem, Nat.reduceBEq, Nat.reduceAdd]; refine G_one 11 rfl ?_; refine GO_loadO hall Side.row ex7 rfl trivial rfl rfl rfl ?_; dsimp only [go_sem, Nat.reduceBEq, Nat.reduceAdd]; refine G_goN hall hs haf hnap 2 3 ?_; dsimp only [go_sem, Nat.reduceBEq, Nat.reduceAdd]; refine ⟨by simp, ?_⟩; refine G_one 14 rfl ?_; refine GO_ev hall rfl trivial ?_; dsimp only [go_sem, Nat.reduceBEq, Nat.reduceAdd]; refine G_one 15 rfl ?_; obtain ⟨x8, ex8, h⟩ := Option.bind_eq_some_iff.1 h
      refine GO_appM Mail.row ex8 hall rfl trivial rfl rfl rfl ?_; dsimp only [go_sem, Nat.reduceBEq, Nat.reduceAdd]; refine G_one 16 rfl ?_; refine GO_ev hall rfl trivial ?_; dsimp only [go_sem, Nat.reduceBEq, Nat.reduceAdd]; refine G_done rfl ?_ _; obtain rfl := Option.some.inj h; exact T_stop ok132 rfl (by simp [go_sem])
     ·refine GO_loadO hall Side.row ex7 rfl trivial rfl rfl rfl ?_; dsimp only [go_sem, Nat.reduceBEq, Nat.reduceAdd]; refine G_goN hall hs haf hnap 1 5 ?_; dsimp only [go_sem, Nat.reduceBEq, Nat.reduceAdd]; refine ⟨by simp, ?_⟩; refine G_one 6 rfl ?_; refine GO_loadO hall Side.row ex7 rfl trivial rfl rfl rfl ?_; dsimp only [go_sem, Nat.reduceBEq, Nat.reduceAdd]; refine G_goN hall hs haf hnap 1 3 ?_; dsimp only [go_sem, Nat.reduceBEq, Nat.reduceAdd]; refine ⟨by simp, ?_⟩; refine G_one 14 rfl ?_; refine GO_ev hall rfl trivial ?_; dsimp only [go_sem, Nat.reduceBEq, Nat.reduceAdd]
      refine G_one 15 rfl ?_; obtain ⟨x8, ex8, h⟩ := Option.bind_eq_some_iff.1 h; refine GO_appM Mail.row ex8 hall rfl trivial rfl rfl rfl ?_; dsimp only [go_sem, Nat.reduceBEq, Nat.reduceAdd]; refine G_one 16 rfl ?_; refine GO_ev hall rfl trivial ?_; dsimp only [go_sem, Nat.reduceBEq, Nat.reduceAdd]; refine G_done rfl ?_ _; obtain rfl := Option.some.inj h; exact T_stop ok132 rfl (by simp [go_sem])
    ·refine GO_loadO hall Side.row ex7 rfl trivial rfl rfl rfl ?_; dsimp only [go_sem, Nat.reduceBEq, Nat.reduceAdd]; refine G_two 0 11 rfl ?_ ?_
     ·refine GO_ev hall rfl trivial ?_; dsimp only [go_sem, Nat.reduceBEq, Nat.reduceAdd]; refine G_one 11 rfl ?_; refine GO_loadO hall Side.row ex7 rfl trivial rfl rfl rfl ?_; dsimp only [go_sem, Nat.reduceBEq, Nat.reduceAdd]; refine G_goN hall hs haf hnap 2 3 ?_; dsimp only [go_sem, Nat.reduceBEq, Nat.reduceAdd]; refine ⟨by simp, ?_⟩; refine G_one 14 rfl ?_; refine GO_ev hall rfl trivial ?_; dsimp only [go_sem, Nat.reduceBEq, Nat.reduceAdd]; refine G_one 15 rfl ?_; obtain ⟨x8, ex8, h⟩ := Option.bind_eq_some_iff.1 h; refine GO_appM Mail.row ex8 hall rfl trivial rfl rfl rfl ?_
      dsimp only [go_sem, Nat.reduceBEq, Nat.reduceAdd]; refine G_one 16 rfl ?_; refine GO_ev hall rfl trivial ?_; dsimp only [go_sem, Nat.reduceBEq, Nat.reduceAdd]; refine G_done rfl ?_ _; obtain rfl := Option.some.inj h; exact T_stop ok132 rfl (by simp [go_sem])
     ·refine GO_loadO hall Side.row ex7 rfl trivial rfl rfl rfl ?_; dsimp only [go_sem, Nat.reduceBEq, Nat.reduceAdd]; refine G_goN hall hs haf hnap 2 4 ?_; dsimp only [go_sem, Nat.reduceBEq, Nat.reduceAdd]; refine ⟨by simp, ?_⟩; refine G_two 0 14 rfl ?_ ?_
      ·refine GO_ev hall rfl trivial ?_; dsimp only [go_sem, Nat.reduceBEq, Nat.reduceAdd]; refine G_one 14 rfl ?_; refine GO_ev hall rfl trivial ?_; dsimp only [go_sem, Nat.reduceBEq, Nat.reduceAdd]; refine G_one 15 rfl ?_; obtain ⟨x8, ex8, h⟩ := Option.bind_eq_some_iff.1 h; refine GO_appM Mail.row ex8 hall rfl trivial rfl rfl rfl ?_; dsimp only [go_sem, Nat.reduceBEq, Nat.reduceAdd]; refine G_one 16 rfl ?_; refine GO_ev hall rfl trivial ?_; dsimp only [go_sem, Nat.reduceBEq, Nat.reduceAdd]; refine G_done rfl ?_ _; obtain rfl := Option.some.inj h; exact T_stop ok132 rfl (by simp [go_sem])
      ·refine GO_ev hall rfl trivial ?_; dsimp only [go_sem, Nat.reduceBEq, Nat.reduceAdd]; refine G_one 0 rfl ?_; refine GO_ev hall rfl trivial ?_; dsimp only [go_sem, Nat.reduceBEq, Nat.reduceAdd]; refine G_one 15 rfl ?_; obtain ⟨x8, ex8, h⟩ := Option.bind_eq_some_iff.1 h; refine GO_appM Mail.row ex8 hall rfl trivial rfl rfl rfl ?_; dsimp only [go_sem, Nat.reduceBEq, Nat.reduceAdd]; refine G_one 16 rfl ?_; refine GO_ev hall rfl trivial ?_; dsimp only [go_sem, Nat.reduceBEq, Nat.reduceAdd]; refine G_done rfl ?_ _; obtain rfl := Option.some.inj h; exact T_stop ok132 rfl (by simp [go_sem])
    ·refine GO_loadO hall Side.row ex7 rfl trivial rfl rfl rfl ?_; dsimp only [go_sem, Nat.reduceBEq, Nat.reduceAdd]; refine G_goN hall hs haf hnap 1 6 ?_; dsimp only [go_sem, Nat.reduceBEq, Nat.reduceAdd]; refine ⟨by simp, ?_⟩; refine G_two 0 6 rfl ?_ ?_
     ·refine GO_ev hall rfl trivial ?_; dsimp only [go_sem, Nat.reduceBEq, Nat.reduceAdd]; refine G_one 6 rfl ?_; refine GO_loadO hall Side.row ex7 rfl trivial rfl rfl rfl ?_; dsimp only [go_sem, Nat.reduceBEq, Nat.reduceAdd]; refine G_goN hall hs haf hnap 1 3 ?_; dsimp only [go_sem, Nat.reduceBEq, Nat.reduceAdd]; refine ⟨by simp, ?_⟩; refine G_one 14 rfl ?_; refine GO_ev hall rfl trivial ?_; dsimp only [go_sem, Nat.reduceBEq, Nat.reduceAdd]; refine G_one 15 rfl ?_; obtain ⟨x8, ex8, h⟩ := Option.bind_eq_some_iff.1 h; refine GO_appM Mail.row ex8 hall rfl trivial rfl rfl rfl ?_
      dsimp only [go_sem, Nat.reduceBEq, Nat.reduceAdd]; refine G_one 16 rfl ?_; refine GO_ev hall rfl trivial ?_; dsimp only [go_sem, Nat.reduceBEq, Nat.reduceAdd]; refine G_done rfl ?_ _; obtain rfl := Option.some.inj h; exact T_stop ok132 rfl (by simp [go_sem])
     ·refine GO_loadO hall Side.row ex7 rfl trivial rfl rfl rfl ?_; dsimp only [go_sem, Nat.reduceBEq, Nat.reduceAdd]; refine G_goN hall hs haf hnap 1 4 ?_; dsimp only [go_sem, Nat.reduceBEq, Nat.reduceAdd]; refine ⟨by simp, ?_⟩; refine G_two 0 14 rfl ?_ ?_
      ·refine GO_ev hall rfl trivial ?_; dsimp only [go_sem, Nat.reduceBEq, Nat.reduceAdd]; refine G_one 14 rfl ?_; refine GO_ev hall rfl trivial ?_; dsimp only [go_sem, Nat.reduceBEq, Nat.reduceAdd]; refine G_one 15 rfl ?_; obtain ⟨x8, ex8, h⟩ := Option.bind_eq_some_iff.1 h; refine GO_appM Mail.row ex8 hall rfl trivial rfl rfl rfl ?_; dsimp only [go_sem, Nat.reduceBEq, Nat.reduceAdd]; refine G_one 16 rfl ?_; refine GO_ev hall rfl trivial ?_; dsimp only [go_sem, Nat.reduceBEq, Nat.reduceAdd]; refine G_done rfl ?_ _; obtain rfl := Option.some.inj h; exact T_stop ok132 rfl (by simp [go_sem])
      ·refine GO_ev hall rfl trivial ?_; dsimp only [go_sem, Nat.reduceBEq, Nat.reduceAdd]; refine G_one 0 rfl ?_; refine GO_ev hall rfl trivial ?_; dsimp only [go_sem, Nat.reduceBEq, Nat.reduceAdd]; refine G_one 15 rfl ?_; obtain ⟨x8, ex8, h⟩ := Option.bind_eq_some_iff.1 h; refine GO_appM Mail.row ex8 hall rfl trivial rfl rfl rfl ?_; dsimp only [go_sem, Nat.reduceBEq, Nat.reduceAdd]; refine G_one 16 rfl ?_; refine GO_ev hall rfl trivial ?_; dsimp only [go_sem, Nat.reduceBEq, Nat.reduceAdd]; refine G_done rfl ?_ _; obtain rfl := Option.some.inj h; exact T_stop ok132 rfl (by simp [go_sem])
  ·refine GO_ev hall rfl trivial ?_; dsimp only [go_sem, Nat.reduceBEq, Nat.reduceAdd]; refine G_goN hall hs haf hnap 2 11 ?_; dsimp only [go_sem, Nat.reduceBEq, Nat.reduceAdd]; refine ⟨by simp, ?_⟩; obtain ⟨x7, ex7, h⟩ := Option.bind_eq_some_iff.1 h; refine G_three 0 3 11 rfl ?_ ?_ ?_
   ·refine GO_ev hall rfl trivial ?_; dsimp only [go_sem, Nat.reduceBEq, Nat.reduceAdd]; refine G_two 3 11 rfl ?_ ?_
    ·refine GO_ev hall rfl trivial ?_; dsimp only [go_sem, Nat.reduceBEq, Nat.reduceAdd]; refine G_goN hall hs haf hnap 2 7 ?_; dsimp only [go_sem, Nat.reduceBEq, Nat.reduceAdd]; refine ⟨by simp, ?_⟩; refine G_two 6 11 rfl ?_ ?_
     ·refine GO_loadO hall Side.row ex7 rfl trivial rfl rfl rfl ?_; dsimp only [go_sem, Nat.reduceBEq, Nat.reduceAdd]; refine G_one 11 rfl ?_; refine GO_loadO hall Side.row ex7 rfl trivial rfl rfl rfl ?_; dsimp only [go_sem, Nat.reduceBEq, Nat.reduceAdd]; refine G_goN hall hs haf hnap 2 3 ?_; dsimp only [go_sem, Nat.reduceBEq, Nat.reduceAdd]; refine ⟨by simp, ?_⟩; refine G_one 14 rfl ?_; refine GO_ev hall rfl trivial ?_; dsimp only [go_sem, Nat.reduceBEq, Nat.reduceAdd]; refine G_one 15 rfl ?_; obtain ⟨x8, ex8, h⟩ := Option.bind_eq_some_iff.1 h
      refine GO_appM Mail.row ex8 hall rfl trivial rfl rfl rfl ?_; dsimp only [go_sem, Nat.reduceBEq, Nat.reduceAdd]; refine G_one 16 rfl ?_; refine GO_ev hall rfl trivial ?_; dsimp only [go_sem, Nat.reduceBEq, Nat.reduceAdd]; refine G_done rfl ?_ _; obtain rfl := Option.some.inj h; exact T_stop ok132 rfl (by simp [go_sem])
     ·refine GO_loadO hall Side.row ex7 rfl trivial rfl rfl rfl ?_; dsimp only [go_sem, Nat.reduceBEq, Nat.reduceAdd]; refine G_goN hall hs haf hnap 1 5 ?_; dsimp only [go_sem, Nat.reduceBEq, Nat.reduceAdd]; refine ⟨by simp, ?_⟩; refine G_one 6 rfl ?_; refine GO_loadO hall Side.row ex7 rfl trivial rfl rfl rfl ?_; dsimp only [go_sem, Nat.reduceBEq, Nat.reduceAdd]; refine G_goN hall hs haf hnap 1 3 ?_; dsimp only [go_sem, Nat.reduceBEq, Nat.reduceAdd]; refine ⟨by simp, ?_⟩; refine G_one 14 rfl ?_; refine GO_ev hall rfl trivial ?_; dsimp only [go_sem, Nat.reduceBEq, Nat.reduceAdd]
      refine G_one 15 rfl ?_; obtain ⟨x8, ex8, h⟩ := Option.bind_eq_some_iff.1 h; refine GO_appM Mail.row ex8 hall rfl trivial rfl rfl rfl ?_; dsimp only [go_sem, Nat.reduceBEq, Nat.reduceAdd]; refine G_one 16 rfl ?_; refine GO_ev hall rfl trivial ?_; dsimp only [go_sem, Nat.reduceBEq, Nat.reduceAdd]; refine G_done rfl ?_ _; obtain rfl := Option.some.inj h; exact T_stop ok132 rfl (by simp [go_sem])
    ·refine GO_loadO hall Side.row ex7 rfl trivial rfl rfl rfl ?_; dsimp only [go_sem, Nat.reduceBEq, Nat.reduceAdd]; refine G_goN hall hs haf hnap 1 8 ?_; dsimp only [go_sem, Nat.reduceBEq, Nat.reduceAdd]; refine ⟨by simp, ?_⟩; refine G_one 3 rfl ?_; refine GO_ev hall rfl trivial ?_; dsimp only [go_sem, Nat.reduceBEq, Nat.reduceAdd]; refine G_goN hall hs haf hnap 2 5 ?_; dsimp only [go_sem, Nat.reduceBEq, Nat.reduceAdd]; refine ⟨by simp, ?_⟩; refine G_one 6 rfl ?_; refine GO_loadO hall Side.row ex7 rfl trivial rfl rfl rfl ?_; dsimp only [go_sem, Nat.reduceBEq, Nat.reduceAdd]
     refine G_goN hall hs haf hnap 1 3 ?_; dsimp only [go_sem, Nat.reduceBEq, Nat.reduceAdd]; refine ⟨by simp, ?_⟩; refine G_one 14 rfl ?_; refine GO_ev hall rfl trivial ?_; dsimp only [go_sem, Nat.reduceBEq, Nat.reduceAdd]; refine G_one 15 rfl ?_; obtain ⟨x8, ex8, h⟩ := Option.bind_eq_some_iff.1 h; refine GO_appM Mail.row ex8 hall rfl trivial rfl rfl rfl ?_; dsimp only [go_sem, Nat.reduceBEq, Nat.reduceAdd]; refine G_one 16 rfl ?_; refine GO_ev hall rfl trivial ?_; dsimp only [go_sem, Nat.reduceBEq, Nat.reduceAdd]; refine G_done rfl ?_ _; obtain rfl := Option.some.inj h
     exact T_stop ok132 rfl (by simp [go_sem])
   ·refine GO_ev hall rfl trivial ?_; dsimp only [go_sem, Nat.reduceBEq, Nat.reduceAdd]; refine G_goN hall hs haf hnap 2 8 ?_; dsimp only [go_sem, Nat.reduceBEq, Nat.reduceAdd]; refine ⟨by simp, ?_⟩; refine G_three 0 6 11 rfl ?_ ?_ ?_
    ·refine GO_ev hall rfl trivial ?_; dsimp only [go_sem, Nat.reduceBEq, Nat.reduceAdd]; refine G_two 6 11 rfl ?_ ?_
     ·refine GO_loadO hall Side.row ex7 rfl trivial rfl rfl rfl ?_; dsimp only [go_sem, Nat.reduceBEq, Nat.reduceAdd]; refine G_one 11 rfl ?_; refine GO_loadO hall Side.row ex7 rfl trivial rfl rfl rfl ?_; dsimp only [go_sem, Nat.reduceBEq, Nat.reduceAdd]; refine G_goN hall hs haf hnap 2 3 ?_; dsimp only [go_sem, Nat.reduceBEq, Nat.reduceAdd]; refine ⟨by simp, ?_⟩; refine G_one 14 rfl ?_; refine GO_ev hall rfl trivial ?_; dsimp only [go_sem, Nat.reduceBEq, Nat.reduceAdd]; refine G_one 15 rfl ?_; obtain ⟨x8, ex8, h⟩ := Option.bind_eq_some_iff.1 h
      refine GO_appM Mail.row ex8 hall rfl trivial rfl rfl rfl ?_; dsimp only [go_sem, Nat.reduceBEq, Nat.reduceAdd]; refine G_one 16 rfl ?_; refine GO_ev hall rfl trivial ?_; dsimp only [go_sem, Nat.reduceBEq, Nat.reduceAdd]; refine G_done rfl ?_ _; obtain rfl := Option.some.inj h; exact T_stop ok132 rfl (by simp [go_sem])
     ·refine GO_loadO hall Side.row ex7 rfl trivial rfl rfl rfl ?_; dsimp only [go_sem, Nat.reduceBEq, Nat.reduceAdd]; refine G_goN hall hs haf hnap 1 5 ?_; dsimp only [go_sem, Nat.reduceBEq, Nat.reduceAdd]; refine ⟨by simp, ?_⟩; refine G_one 6 rfl ?_; refine GO_loadO hall Side.row ex7 rfl trivial rfl rfl rfl ?_; dsimp only [go_sem, Nat.reduceBEq, Nat.reduceAdd]; refine G_goN hall hs haf hnap 1 3 ?_; dsimp only [go_sem, Nat.reduceBEq, Nat.reduceAdd]; refine ⟨by simp, ?_⟩; refine G_one 14 rfl ?_; refine GO_ev hall rfl trivial ?_; dsimp only [go_sem, Nat.reduceBEq, Nat.reduceAdd]
      refine G_one 15 rfl ?_; obtain ⟨x8, ex8, h⟩ := Option.bind_eq_some_iff.1 h; refine GO_appM Mail.row ex8 hall rfl trivial rfl rfl rfl ?_; dsimp only [go_sem, Nat.reduceBEq, Nat.reduceAdd]; refine G_one 16 rfl ?_; refine GO_ev hall rfl trivial ?_; dsimp only [go_sem, Nat.reduceBEq, Nat.reduceAdd]; refine G_done rfl ?_ _; obtain rfl := Option.some.inj h; exact T_stop ok132 rfl (by simp [go_sem])
    ·refine GO_loadO hall Side.row ex7 rfl trivial rfl rfl rfl ?_; dsimp only [go_sem, Nat.reduceBEq, Nat.reduceAdd]; refine G_two 0 11 rfl ?_ ?_
     ·refine GO_ev hall rfl trivial ?_; dsimp only [go_sem, Nat.reduceBEq, Nat.reduceAdd]; refine G_one 11 rfl ?_; refine GO_loadO hall Side.row ex7 rfl trivial rfl rfl rfl ?_; dsimp only [go_sem, Nat.reduceBEq, Nat.reduceAdd]; refine G_goN hall hs haf hnap 2 3 ?_; dsimp only [go_sem, Nat.reduceBEq, Nat.reduceAdd]; refine ⟨by simp, ?_⟩; refine G_one 14 rfl ?_; refine GO_ev hall rfl trivial ?_; dsimp only [go_sem, Nat.reduceBEq, Nat.reduceAdd]; refine G_one 15 rfl ?_; obtain ⟨x8, ex8, h⟩ := Option.bind_eq_some_iff.1 h; refine GO_appM Mail.row ex8 hall rfl trivial rfl rfl rfl ?_
      dsimp only [go_sem, Nat.reduceBEq, Nat.reduceAdd]; refine G_one 16 rfl ?_; refine GO_ev hall rfl trivial ?_; dsimp only [go_sem, Nat.reduceBEq, Nat.reduceAdd]; refine G_done rfl ?_ _; obtain rfl := Option.some.inj h; exact T_stop ok132 rfl (by simp [go_sem])
     ·refine GO_loadO hall Side.row ex7 rfl trivial rfl rfl rfl ?_; dsimp only [go_sem, Nat.reduceBEq, Nat.reduceAdd]; refine G_goN hall hs haf hnap 2 4 ?_; dsimp only [go_sem, Nat.reduceBEq, Nat.reduceAdd]; refine ⟨by simp, ?_⟩; refine G_two 0 14 rfl ?_ ?_
      ·refine GO_ev hall rfl trivial ?_; dsimp only [go_sem, Nat.reduceBEq, Nat.reduceAdd]; refine G_one 14 rfl ?_; refine GO_ev hall rfl trivial ?_; dsimp only [go_sem, Nat.reduceBEq, Nat.reduceAdd]; refine G_one 15 rfl ?_; obtain ⟨x8, ex8, h⟩ := Option.bind_eq_some_iff.1 h; refine GO_appM Mail.row ex8 hall rfl trivial rfl rfl rfl ?_; dsimp only [go_sem, Nat.reduceBEq, Nat.reduceAdd]; refine G_one 16 rfl ?_; refine GO_ev hall rfl trivial ?_; dsimp only [go_sem, Nat.reduceBEq, Nat.reduceAdd]; refine G_done rfl ?_ _; obtain rfl := Option.some.inj h; exact T_stop ok132 rfl (by simp [go_sem])
      ·refine GO_ev hall rfl trivial ?_; dsimp only [go_sem, Nat.reduceBEq, Nat.reduceAdd]; refine G_one 0 rfl ?_; refine GO_ev hall rfl trivial ?_; dsimp only [go_sem, Nat.reduceBEq, Nat.reduceAdd]; refine G_one 15 rfl ?_; obtain ⟨x8, ex8, h⟩ := Option.bind_eq_some_iff.1 h; refine GO_appM Mail.row ex8 hall rfl trivial rfl rfl rfl ?_; dsimp only [go_sem, Nat.reduceBEq, Nat.reduceAdd]; refine G_one 16 rfl ?_; refine GO_ev hall rfl trivial ?_; dsimp only [go_sem, Nat.reduceBEq, Nat.reduceAdd]; refine G_done rfl ?_ _; obtain rfl := Option.some.inj h; exact T_stop ok132 rfl (by simp [go_sem])
    ·refine GO_loadO hall Side.row ex7 rfl trivial rfl rfl rfl ?_; dsimp only [go_sem, Nat.reduceBEq, Nat.reduceAdd]; refine G_goN hall hs haf hnap 1 6 ?_; dsimp only [go_sem, Nat.reduceBEq, Nat.reduceAdd]; refine ⟨by simp, ?_⟩; refine G_two 0 6 rfl ?_ ?_
     ·refine GO_ev hall rfl trivial ?_; dsimp only [go_sem, Nat.reduceBEq, Nat.reduceAdd]; refine G_one 6 rfl ?_; refine GO_loadO hall Side.row ex7 rfl trivial rfl rfl rfl ?_; dsimp only [go_sem, Nat.reduceBEq, Nat.reduceAdd]; refine G_goN hall hs haf hnap 1 3 ?_; dsimp only [go_sem, Nat.reduceBEq, Nat.reduceAdd]; refine ⟨by simp, ?_⟩; refine G_one 14 rfl ?_; refine GO_ev hall rfl trivial ?_; dsimp only [go_sem, Nat.reduceBEq, Nat.reduceAdd]; refine G_one 15 rfl ?_; obtain ⟨x8, ex8, h⟩ := Option.bind_eq_some_iff.1 h; refine GO_appM Mail.row ex8 hall rfl trivial rfl rfl rfl ?_
      dsimp only [go_sem, Nat.reduceBEq, Nat.reduceAdd]; refine G_one 16 rfl ?_; refine GO_ev hall rfl trivial ?_; dsimp only [go_sem, Nat.reduceBEq, Nat.reduceAdd]; refine G_done rfl ?_ _; obtain rfl := Option.some.inj h; exact T_stop ok132 rfl (by simp [go_sem])
     ·refine GO_loadO hall Side.row ex7 rfl trivial rfl rfl rfl ?_; dsimp only [go_sem, Nat.reduceBEq, Nat.reduceAdd]; refine G_goN hall hs haf hnap 1 4 ?_; dsimp only [go_sem, Nat.reduceBEq, Nat.reduceAdd]; refine ⟨by simp, ?_⟩; refine G_two 0 14 rfl ?_ ?_
      ·refine GO_ev hall rfl trivial ?_; dsimp only [go_sem, Nat.reduceBEq, Nat.reduceAdd]; refine G_one 14 rfl ?_; refine GO_ev hall rfl trivial ?_; dsimp only [go_sem, Nat.reduceBEq, Nat.reduceAdd]; refine G_one 15 rfl ?_; obtain ⟨x8, ex8, h⟩ := Option.bind_eq_some_iff.1 h; refine GO_appM Mail.row ex8 hall rfl trivial rfl rfl rfl ?_; dsimp only [go_sem, Nat.reduceBEq, Nat.reduceAdd]; refine G_one 16 rfl ?_; refine GO_ev hall rfl trivial ?_; dsimp only [go_sem, Nat.reduceBEq, Nat.reduceAdd]; refine G_done rfl ?_ _; obtain rfl := Option.some.inj h; exact T_stop ok132 rfl (by simp [go_sem])
      ·refine GO_ev hall rfl trivial ?_; dsimp only [go_sem, Nat.reduceBEq, Nat.reduceAdd]; refine G_one 0 rfl ?_; refine GO_ev hall rfl trivial ?_; dsimp only [go_sem, Nat.reduceBEq, Nat.reduceAdd]; refine G_one 15 rfl ?_; obtain ⟨x8, ex8, h⟩ := Option.bind_eq_some_iff.1 h; refine GO_appM Mail.row ex8 hall rfl trivial rfl rfl rfl ?_; dsimp only [go_sem, Nat.reduceBEq, Nat.reduceAdd]; refine G_one 16 rfl ?_; refine GO_ev hall rfl trivial ?_; dsimp only [go_sem, Nat.reduceBEq, Nat.reduceAdd]; refine G_done rfl ?_ _; obtain rfl := Option.some.inj h; exact T_stop ok132 rfl (by simp [go_sem])
   ·refine GO_loadO hall Side.row ex7 rfl trivial rfl rfl rfl ?_; dsimp only [go_sem, Nat.reduceBEq, Nat.reduceAdd]; refine G_goN hall hs haf hnap 1 9 ?_; dsimp only [go_sem, Nat.reduceBEq, Nat.reduceAdd]; refine ⟨by simp, ?_⟩; refine G_two 0 3 rfl ?_ ?_
    ·refine GO_ev hall rfl trivial ?_; dsimp only [go_sem, Nat.reduceBEq, Nat.reduceAdd]; refine G_one 3 rfl ?_; refine GO_ev hall rfl trivial ?_; dsimp only [go_sem, Nat.reduceBEq, Nat.reduceAdd]; refine G_goN hall hs haf hnap 2 5 ?_; dsimp only [go_sem, Nat.reduceBEq, Nat.reduceAdd]; refine ⟨by simp, ?_⟩; refine G_one 6 rfl ?_; refine GO_loadO hall Side.row ex7 rfl trivial rfl rfl rfl ?_; dsimp only [go_sem, Nat.reduceBEq, Nat.reduceAdd]; refine G_goN hall hs haf hnap 1 3 ?_; dsimp only [go_sem, Nat.reduceBEq, Nat.reduceAdd]; refine ⟨by simp, ?_⟩; refine G_one 14 rfl ?_
     refine GO_ev hall rfl trivial ?_; dsimp only [go_sem, Nat.reduceBEq, Nat.reduceAdd]; refine G_one 15 rfl ?_; obtain ⟨x8, ex8, h⟩ := Option.bind_eq_some_iff.1 h; refine GO_appM Mail.row ex8 hall rfl trivial rfl rfl rfl ?_; dsimp only [go_sem, Nat.reduceBEq, Nat.reduceAdd]; refine G_one 16 rfl ?_; refine GO_ev hall rfl trivial ?_; dsimp only [go_sem, Nat.reduceBEq, Nat.reduceAdd]; refine G_done rfl ?_ _; obtain rfl := Option.some.inj h; exact T_stop ok132 rfl (by simp [go_sem])
    ·refine GO_ev hall rfl trivial ?_; dsimp only [go_sem, Nat.reduceBEq, Nat.reduceAdd]; refine G_goN hall hs haf hnap 2 6 ?_; dsimp only [go_sem, Nat.reduceBEq, Nat.reduceAdd]; refine ⟨by simp, ?_⟩; refine G_two 0 6 rfl ?_ ?_
     ·refine GO_ev hall rfl trivial ?_; dsimp only [go_sem, Nat.reduceBEq, Nat.reduceAdd]; refine G_one 6 rfl ?_; refine GO_loadO hall Side.row ex7 rfl trivial rfl rfl rfl ?_; dsimp only [go_sem, Nat.reduceBEq, Nat.reduceAdd]; refine G_goN hall hs haf hnap 1 3 ?_; dsimp only [go_sem, Nat.reduceBEq, Nat.reduceAdd]; refine ⟨by simp, ?_⟩; refine G_one 14 rfl ?_; refine GO_ev hall rfl trivial ?_; dsimp only [go_sem, Nat.reduceBEq, Nat.reduceAdd]; refine G_one 15 rfl ?_; obtain ⟨x8, ex8, h⟩ := Option.bind_eq_some_iff.1 h; refine GO_appM Mail.row ex8 hall rfl trivial rfl rfl rfl ?_
      dsimp only [go_sem, Nat.reduceBEq, Nat.reduceAdd]; refine G_one 16 rfl ?_; refine GO_ev hall rfl trivial ?_; dsimp only [go_sem, Nat.reduceBEq, Nat.reduceAdd]; refine G_done rfl ?_ _; obtain rfl := Option.some.inj h; exact T_stop ok132 rfl (by simp [go_sem])
     ·refine GO_loadO hall Side.row ex7 rfl trivial rfl rfl rfl ?_; dsimp only [go_sem, Nat.reduceBEq, Nat.reduceAdd]; refine G_goN hall hs haf hnap 1 4 ?_; dsimp only [go_sem, Nat.reduceBEq, Nat.reduceAdd]; refine ⟨by simp, ?_⟩; refine G_two 0 14 rfl ?_ ?_
      ·refine GO_ev hall rfl trivial ?_; dsimp only [go_sem, Nat.reduceBEq, Nat.reduceAdd]; refine G_one 14 rfl ?_; refine GO_ev hall rfl trivial ?_; dsimp only [go_sem, Nat.reduceBEq, Nat.reduceAdd]; refine G_one 15 rfl ?_; obtain ⟨x8, ex8, h⟩ := Option.bind_eq_some_iff.1 h; refine GO_appM Mail.row ex8 hall rfl trivial rfl rfl rfl ?_; dsimp only [go_sem, Nat.reduceBEq, Nat.reduceAdd]; refine G_one 16 rfl ?_; refine GO_ev hall rfl trivial ?_; dsimp only [go_sem, Nat.reduceBEq, Nat.reduceAdd]; refine G_done rfl ?_ _; obtain rfl := Option.some.inj h; exact T_stop ok132 rfl (by simp [go_sem])
      ·refine GO_ev hall rfl trivial ?_; dsimp only [go_sem, Nat.reduceBEq, Nat.reduceAdd]; refine G_one 0 rfl ?_; refine GO_ev hall rfl trivial ?_; dsimp only [go_sem, Nat.reduceBEq, Nat.reduceAdd]; refine G_one 15 rfl ?_; obtain ⟨x8, ex8, h⟩ := Option.bind_eq_some_iff.1 h; refine GO_appM Mail.row ex8 hall rfl trivial rfl rfl rfl ?_; dsimp only [go_sem, Nat.reduceBEq, Nat.reduceAdd]; refine G_one 16 rfl ?_; refine GO_ev hall rfl trivial ?_; dsimp only [go_sem, Nat.reduceBEq, Nat.reduceAdd]; refine G_done rfl ?_ _; obtain rfl := Option.some.inj h; exact T_stop ok132 rfl (by simp [go_sem])
def f_dine_Fire_1_in_dine_Fire_2 (_F : Nat) (x1 : Int) (x2 : Int) (_x3 : Int) (x4 : Int) (x5 : (List Side)) (x6 : (List Mail)) : Option (List Mail) :=
 (at_ x5 x4).bind fun x7 =>
 (app_ 40 x6 ([(Mail.mk x2 x7.Peer ((Msg.mk x1 x7.Epoch 0)))])).bind fun x8 =>
 some x8
theorem le_dine_Fire_1_in_dine_Fire_2 {F : Nat} {x1 : Int} {x2 : Int} {x3 : Int} {x4 : Int} {x5 : (List Side)} {x6 : (List Mail)} : ole (f_dine_Fire_1_in_dine_Fire_2 F x1 x2 x3 x4 x5 x6) (m_dine_Fire_1_in_dine_Fire_2 x1 x2 x3 x4 x5 x6) := by
  unfold f_dine_Fire_1_in_dine_Fire_2 m_dine_Fire_1_in_dine_Fire_2
  with_reducible repeat' first | exact ole_refl _ | assumption | intro _ | refine ole_ifb ?_ ?_ | refine ole_bind ?_ ?_ | refine ole_map ?_ | refine ole_loop ?_
/- narthex/dine.Fire -/
noncomputable def m_dine_Fire_j8 (x1 : Diner) (x50 : (List Mail)) : (Int × (List Side)) → Option (Diner × (List Mail) × Int)
| (x65, x66) =>
 some ((Diner.mk x1.ID x65 x66), x50, 0)
noncomputable def m_dine_Fire_l2 (x1 : Diner) (x49 : (List Side)) (x50 : (List Mail)) : (Int × (List Side)) → Option ((Int × (List Side)) ⊕ (Diner × (List Mail) × Int))
| (x55, x56) =>
 ifb (decide (x55 < (ln Side.row x49))) (
 (at_ x56 x55).bind fun x57 =>
 some (.inl (wr (x55 + 1), x56.set (x55).toNat ((Side.mk x57.Peer x57.Epoch x57.State x57.Fork true x57.Token x57.Bottle x57.Ask))))) (
 Option.map Sum.inr ((m_dine_Fire_j8 x1 x50) (2, x56)))
noncomputable def m_dine_Fire_j7 (x1 : Diner) (x49 : (List Side)) (x50 : (List Mail)) : Bool → Option (Diner × (List Mail) × Int)
| x51 =>
 ifb x51 (
 loop (m_dine_Fire_l2 x1 x49 x50) (0, x49)) (
 (m_dine_Fire_j8 x1 x50) (x1.Phase, x49))
noncomputable def m_dine_Fire_j1 (x1 : Diner) : (Bool × (List Side) × (List Mail)) → Option (Diner × (List Mail) × Int)
| (x48, x49, x50) =>
 ifb (decide (x1.Phase = 1)) (
 (m_dine_Fire_j7 x1 x49 x50) x48) (
 (m_dine_Fire_j7 x1 x49 x50) false)
noncomputable def m_dine_Fire_j6 (x21 : Int) (x33 : (List Side)) (x34 : (List Mail)) : Bool → Option ((Bool × Int × (List Side) × (List Mail)) ⊕ (Diner × (List Mail) × Int))
| x36 =>
 some (.inl (x36, wr (x21 + 1), x33, x34))
noncomputable def m_dine_Fire_j5 (x20 : Bool) (x21 : Int) : ((List Side) × (List Mail)) → Option ((Bool × Int × (List Side) × (List Mail)) ⊕ (Diner × (List Mail) × Int))
| (x33, x34) =>
 ifb x20 (
 (at_ x33 x21).bind fun x35 =>
 (m_dine_Fire_j6 x21 x33 x34) x35.Fork) (
 (m_dine_Fire_j6 x21 x33 x34) false)
noncomputable def m_dine_Fire_j4 (x1 : Diner) (x20 : Bool) (x21 : Int) (x27 : (List Side)) (x28 : (List Mail)) : Bool → Option ((Bool × Int × (List Side) × (List Mail)) ⊕ (Diner × (List Mail) × Int))
| x30 =>
 ifb x30 (
 (at_ x27 x21).bind fun x31 =>
 (m_dine_Fire_1_in_dine_Fire_2 2 x1.ID x1.Phase x21 (x27.set (x21).toNat ((Side.mk x31.Peer x31.Epoch x31.State x31.Fork x31.Dirty false x31.Bottle x31.Ask))) x28).bind fun x32 =>
 (m_dine_Fire_j5 x20 x21) ((x27.set (x21).toNat ((Side.mk x31.Peer x31.Epoch x31.State x31.Fork x31.Dirty false x31.Bottle x31.Ask))), x32)) (
 (m_dine_Fire_j5 x20 x21) (x27, x28))
noncomputable def m_dine_Fire_j3 (x1 : Diner) (x20 : Bool) (x21 : Int) : ((List Side) × (List Mail)) → Option ((Bool × Int × (List Side) × (List Mail)) ⊕ (Diner × (List Mail) × Int))
| (x27, x28) =>
 ifb (decide (x1.Phase = 1)) (
 (at_ x27 x21).bind fun x29 =>
 ifb x29.Token (
 (m_dine_Fire_j4 x1 x20 x21 x27 x28) (!x29.Fork)) (
 (m_dine_Fire_j4 x1 x20 x21 x27 x28) false)) (
 (m_dine_Fire_j4 x1 x20 x21 x27 x28) false)
noncomputable def m_dine_Fire_j2 (x1 : Diner) (x20 : Bool) (x21 : Int) (x22 : (List Side)) (x23 : (List Mail)) (x24 : Side) : Bool → Option ((Bool × Int × (List Side) × (List Mail)) ⊕ (Diner × (List Mail) × Int))
| x25 =>
 ifb x25 (
 (m_dine_Fire_1_in_dine_Fire_2 1 x1.ID x1.Phase x21 (x22.set (x21).toNat ((Side.mk x24.Peer x24.Epoch x24.State false false x24.Token x24.Bottle x24.Ask))) x23).bind fun x26 =>
 (m_dine_Fire_j3 x1 x20 x21) ((x22.set (x21).toNat ((Side.mk x24.Peer x24.Epoch x24.State false false x24.Token x24.Bottle x24.Ask))), x26)) (
 (m_dine_Fire_j3 x1 x20 x21) (x22, x23))
noncomputable def m_dine_Fire_l1 (x1 : Diner) (x3 : (List Side)) : (Bool × Int × (List Side) × (List Mail)) → Option ((Bool × Int × (List Side) × (List Mail)) ⊕ (Diner × (List Mail) × Int))
| (x20, x21, x22, x23) =>
 ifb (decide (x21 < (ln Side.row x3))) (
 (at_ x22 x21).bind fun x24 =>
 ifb x24.Fork (
 ifb x24.Dirty (
 ifb x24.Token (
 (m_dine_Fire_j2 x1 x20 x21 x22 x23 x24) (!decide (x1.Phase = 2))) (
 (m_dine_Fire_j2 x1 x20 x21 x22 x23 x24) false)) (
 (m_dine_Fire_j2 x1 x20 x21 x22 x23 x24) false)) (
 (m_dine_Fire_j2 x1 x20 x21 x22 x23 x24) false)) (
 Option.map Sum.inr ((m_dine_Fire_j1 x1) (x20, x22, x23)))
noncomputable def m_dine_Fire (x1 : Diner) : Option (Diner × (List Mail) × Int) :=
 (m_dine_Check x1).bind fun x2 =>
 ifb (!decide (x2 = 0)) (
 some ((Diner.mk 0 0 (([] : (List Side)))), ([] : (List Mail)), x2)) (
 (m_slices_Clone_Side x1.Sides).bind fun x3 =>
 loop (m_dine_Fire_l1 x1 x3) (true, 0, x3, ([] : List Mail)))
theorem k_dine_Fire (x1 : Diner) (r : (Diner × (List Mail) × Int)) (h : m_dine_Fire x1 = some r) : FunP Try.prog 120 [.agg (Diner.row x1)] (.tup [.agg (Diner.row r.1), .sl 5 (List.map Mail.row r.2.1), .iv r.2.2]) := by
  refine FunP_intro ok120 rfl rfl fun w0 H0 => ?_
  rw [m_dine_Fire] at h
  refine V_go 11 ?_; dsimp only [e120, e120_L0, e120_L1, go_sem, Nat.reduceBEq, Nat.reduceAdd]; refine ⟨by simp, ?_⟩; obtain ⟨x2, ex2, h⟩ := Option.bind_eq_some_iff.1 h; refine V_call trivial (k_dine_Check x1 _ ex2) (h := ?_); refine V_go 7 ?_; dsimp only [e120, e120_L0, e120_L1, go_sem, Nat.reduceBEq, Nat.reduceAdd]; refine ⟨by simp, ?_⟩; refine M_ite h rfl (fun _ h => ?_) fun _ h => ?_
  ·refine V_go 8 ?_; dsimp only [e120, e120_L0, e120_L1, go_sem, Nat.reduceBEq, Nat.reduceAdd]; refine ⟨by simp, ?_⟩; exact M_done (res := fun (r : (Diner × (List Mail) × Int)) => .tup [.agg (Diner.row r.1), .sl 5 (List.map Mail.row r.2.1), .iv r.2.2]) ok120 h
  ·refine V_go 5 ?_; dsimp only [e120, e120_L0, e120_L1, go_sem, Nat.reduceBEq, Nat.reduceAdd]; refine ⟨by simp, ?_⟩; obtain ⟨x3, ex3, h⟩ := Option.bind_eq_some_iff.1 h; refine V_callO trivial (o_slices_Clone_Side x1.Sides _ ex3) (h := ?_); refine V_go 19 ?_; dsimp only [e120, e120_L0, e120_L1, go_sem, Nat.reduceBEq, Nat.reduceAdd]; refine ⟨by simp, ?_⟩
   refine V_join (fun ((x48, x49, x50) : (Bool × (List Side) × (List Mail))) => (⟨(.any :: .ptr 0 0 :: .ptr 1 0 :: an 3 (.ptr 2 0 :: .bv x48 :: an 104 [])), [some ⟨39, [.iv x1.ID, .iv x1.Phase, .osl 0]⟩, some ⟨39, [.iv 0, .iv 0, .nl]⟩, some ⟨41, [.osl 1]⟩], [some ⟨49, 8, List.map Side.row x49⟩, some ⟨97, 5, List.map Mail.row x50⟩]⟩ : St)) (m_dine_Fire_j1 x1) r ?_ fun J1 => ?_
   ·rintro ⟨x48, x49, x50⟩ h; rw [m_dine_Fire_j1] at h; (try dsimp only); refine V_go 7 ?_; dsimp only [e120, e120_L0, e120_L1, go_sem, Nat.reduceBEq, Nat.reduceAdd]; refine ⟨by simp, ?_⟩; refine V_join (fun (x51 : Bool) => (⟨(.any :: .ptr 0 0 :: .ptr 1 0 :: an 3 (.ptr 2 0 :: an 89 (.bv x51 :: an 15 []))), [some ⟨39, [.iv x1.ID, .iv x1.Phase, .osl 0]⟩, some ⟨39, [.iv 0, .iv 0, .nl]⟩, some ⟨41, [.osl 1]⟩], [some ⟨49, 8, List.map Side.row x49⟩, some ⟨97, 5, List.map Mail.row x50⟩]⟩ : St)) (m_dine_Fire_j7 x1 x49 x50) r ?_ fun J7 => ?_
    ·intro x51 h; rw [m_dine_Fire_j7] at h; (try dsimp only); refine V_join (fun ((x65, x66) : (Int × (List Side))) => (⟨(.any :: .ptr 0 0 :: .ptr 1 0 :: an 3 (.ptr 2 0 :: an 105 [])), [some ⟨39, [.iv x1.ID, .iv x65, .osl 0]⟩, some ⟨39, [.iv 0, .iv 0, .nl]⟩, some ⟨41, [.osl 1]⟩], [some ⟨49, 8, List.map Side.row x66⟩, some ⟨97, 5, List.map Mail.row x50⟩]⟩ : St)) (m_dine_Fire_j8 x1 x50) r ?_ fun J8 => ?_
     ·rintro ⟨x65, x66⟩ h; rw [m_dine_Fire_j8] at h; (try dsimp only); refine V_go 1 ?_; dsimp only [e120, e120_L0, e120_L1, go_sem, Nat.reduceBEq, Nat.reduceAdd]; refine ⟨by simp, ?_⟩; refine V_drw (by kernel_rfl) fun all hall hs hnap haf => ?_; dsimp only [go_sem, Nat.reduceBEq, Nat.reduceAdd]; refine G_two 0 1 rfl ?_ ?_
      ·refine GO_ev hall rfl trivial ?_; dsimp only [go_sem, Nat.reduceBEq, Nat.reduceAdd]; refine G_two 1 2 rfl ?_ ?_
       ·refine GO_ev hall rfl trivial ?_; dsimp only [go_sem, Nat.reduceBEq, Nat.reduceAdd]; refine G_one 2 rfl ?_; refine GO_ev hall rfl trivial ?_; dsimp only [go_sem, Nat.reduceBEq, Nat.reduceAdd]; refine G_goN hall hs haf hnap 2 0 ?_; dsimp only [go_sem, Nat.reduceBEq, Nat.reduceAdd]; refine ⟨by simp, ?_⟩; refine G_done rfl ?_ _; refine V_seal 0 rfl ?_; dsimp only [go_sem, Nat.reduceBEq, Nat.reduceAdd]; refine V_seal 1 rfl ?_; dsimp only [go_sem, Nat.reduceBEq, Nat.reduceAdd]
        exact M_done (res := fun (r : (Diner × (List Mail) × Int)) => .tup [.agg (Diner.row r.1), .sl 5 (List.map Mail.row r.2.1), .iv r.2.2]) ok120 h
       ·refine GO_ev hall rfl trivial ?_; dsimp only [go_sem, Nat.reduceBEq, Nat.reduceAdd]; refine G_one 1 rfl ?_; refine GO_ev hall rfl trivial ?_; dsimp only [go_sem, Nat.reduceBEq, Nat.reduceAdd]; refine G_goN hall hs haf hnap 2 0 ?_; dsimp only [go_sem, Nat.reduceBEq, Nat.reduceAdd]; refine ⟨by simp, ?_⟩; refine G_done rfl ?_ _; refine V_seal 0 rfl ?_; dsimp only [go_sem, Nat.reduceBEq, Nat.reduceAdd]; refine V_seal 1 rfl ?_; dsimp only [go_sem, Nat.reduceBEq, Nat.reduceAdd]
        exact M_done (res := fun (r : (Diner × (List Mail) × Int)) => .tup [.agg (Diner.row r.1), .sl 5 (List.map Mail.row r.2.1), .iv r.2.2]) ok120 h
      ·refine GO_ev hall rfl trivial ?_; dsimp only [go_sem, Nat.reduceBEq, Nat.reduceAdd]; refine G_one 0 rfl ?_; refine GO_ev hall rfl trivial ?_; dsimp only [go_sem, Nat.reduceBEq, Nat.reduceAdd]; refine G_one 2 rfl ?_; refine GO_ev hall rfl trivial ?_; dsimp only [go_sem, Nat.reduceBEq, Nat.reduceAdd]; refine G_goN hall hs haf hnap 2 0 ?_; dsimp only [go_sem, Nat.reduceBEq, Nat.reduceAdd]; refine ⟨by simp, ?_⟩; refine G_done rfl ?_ _; refine V_seal 0 rfl ?_; dsimp only [go_sem, Nat.reduceBEq, Nat.reduceAdd]; refine V_seal 1 rfl ?_; dsimp only [go_sem, Nat.reduceBEq, Nat.reduceAdd]
       exact M_done (res := fun (r : (Diner × (List Mail) × Int)) => .tup [.agg (Diner.row r.1), .sl 5 (List.map Mail.row r.2.1), .iv r.2.2]) ok120 h
     ·refine M_ite h rfl (fun _ h => ?_) fun _ h => ?_
      ·refine V_go 13 ?_; dsimp only [e120, e120_L0, e120_L1, go_sem, Nat.reduceBEq, Nat.reduceAdd]; refine ⟨by simp, ?_⟩; refine M_loop h (fun ((x55, x56) : (Int × (List Side))) => (⟨(.any :: .ptr 0 0 :: .ptr 1 0 :: an 3 (.ptr 2 0 :: an 93 (.iv (ln Side.row x49) :: .iv x55 :: an 10 []))), [some ⟨39, [.iv x1.ID, .iv 2, .osl 0]⟩, some ⟨39, [.iv 0, .iv 0, .nl]⟩, some ⟨41, [.osl 1]⟩], [some ⟨49, 8, List.map Side.row x56⟩, some ⟨97, 5, List.map Mail.row x50⟩]⟩ : St)) (by simp [go_sem]) (by rintro ⟨x55, x56⟩; first | rfl | simp [go_sem]) ?_; rintro n1 ⟨x55, x56⟩ y1 h hin1 hout1
       rw [m_dine_Fire_l2] at h; (try dsimp only); refine V_go 5 ?_; dsimp only [e120, e120_L0, e120_L1, go_sem, Nat.reduceBEq, Nat.reduceAdd]; refine ⟨by simp, ?_⟩; refine M_ite h rfl (fun _ h => ?_) fun _ h => ?_
       ·refine V_go 12 ?_; dsimp only [e120, e120_L0, e120_L1, go_sem, Nat.reduceBEq, Nat.reduceAdd]; refine ⟨by simp, ?_⟩; obtain ⟨x57, ex57, h⟩ := Option.bind_eq_some_iff.1 h; refine V_idxOM Side.row ex57 trivial rfl rfl rfl ?_; refine V_go 1 ?_; dsimp only [e120, e120_L0, e120_L1, go_sem, Nat.reduceBEq, Nat.reduceAdd]; refine ⟨by simp, ?_⟩; refine V_storeO [.bv true] Side.row (y' := (Side.mk x57.Peer x57.Epoch x57.State x57.Fork true x57.Token x57.Bottle x57.Ask)) ex57 trivial rfl rfl rfl (by first | exact leL_refl _ | simp [go_sem]) rfl rfl rfl rfl ?_; refine V_go 6 ?_
        dsimp only [e120, e120_L0, e120_L1, go_sem, Nat.reduceBEq, Nat.reduceAdd]; refine ⟨by simp, ?_⟩; exact M_back h hin1
       ·refine V_go 1 ?_; dsimp only [e120, e120_L0, e120_L1, go_sem, Nat.reduceBEq, Nat.reduceAdd]; refine ⟨by simp, ?_⟩; exact M_to J8 (s := (2, x56)) (M_out h hout1)
      ·refine V_go 1 ?_; dsimp only [e120, e120_L0, e120_L1, go_sem, Nat.reduceBEq, Nat.reduceAdd]; refine ⟨by simp, ?_⟩; exact M_to J8 (s := (x1.Phase, x49)) h
    ·refine M_case 94 h rfl (fun _ h => ?_) fun _ h => ?_
     ·dsimp only [go_sem, Nat.reduceBEq, Nat.reduceAdd]; refine V_go 3 ?_; dsimp only [e120, e120_L0, e120_L1, go_sem, Nat.reduceBEq, Nat.reduceAdd]; refine ⟨by simp, ?_⟩; exact M_to J7 (s := x48) h
     ·dsimp only [go_sem, Nat.reduceBEq, Nat.reduceAdd]; refine V_go 3 ?_; dsimp only [e120, e120_L0, e120_L1, go_sem, Nat.reduceBEq, Nat.reduceAdd]; refine ⟨by simp, ?_⟩; exact M_to J7 (s := false) h
   ·refine V_go 1 ?_; dsimp only [e120, e120_L0, e120_L1, go_sem, Nat.reduceBEq, Nat.reduceAdd]; refine ⟨by simp, ?_⟩; refine V_ownB 2 0 97 5 rfl rfl rfl ?_; dsimp only [go_sem, Nat.reduceBEq, Nat.reduceAdd]
    refine M_loop h (fun ((x20, x21, x22, x23) : (Bool × Int × (List Side) × (List Mail))) => (⟨(.any :: .ptr 0 0 :: .ptr 1 0 :: an 3 (.ptr 2 0 :: .bv x20 :: an 16 (.iv (ln Side.row x3) :: .iv x21 :: an 86 []))), [some ⟨39, [.iv x1.ID, .iv x1.Phase, .osl 0]⟩, some ⟨39, [.iv 0, .iv 0, .nl]⟩, some ⟨41, [.osl 1]⟩], [some ⟨49, 8, List.map Side.row x22⟩, some ⟨97, 5, List.map Mail.row x23⟩]⟩ : St)) (by simp [go_sem]) (by rintro ⟨x20, x21, x22, x23⟩; first | rfl | simp [go_sem]) ?_; rintro n1 ⟨x20, x21, x22, x23⟩ y1 h hin1 hout1; rw [m_dine_Fire_l1] at h; (try dsimp only); refine V_go 5 ?_
    dsimp only [e120, e120_L0, e120_L1, go_sem, Nat.reduceBEq, Nat.reduceAdd]; refine ⟨by simp, ?_⟩; refine M_ite h rfl (fun _ h => ?_) fun _ h => ?_
    ·refine V_go 13 ?_; dsimp only [e120, e120_L0, e120_L1, go_sem, Nat.reduceBEq, Nat.reduceAdd]; refine ⟨by simp, ?_⟩; obtain ⟨x24, ex24, h⟩ := Option.bind_eq_some_iff.1 h; refine V_idxOM Side.row ex24 trivial rfl rfl rfl ?_; refine V_go 14 ?_; dsimp only [e120, e120_L0, e120_L1, go_sem, Nat.reduceBEq, Nat.reduceAdd]; refine ⟨by simp, ?_⟩; refine V_loadO Side.row ex24 trivial rfl rfl rfl ?_; refine V_go 1 ?_; dsimp only [e120, e120_L0, e120_L1, go_sem, Nat.reduceBEq, Nat.reduceAdd]; refine ⟨by simp, ?_⟩
     refine V_join (fun (x25 : Bool) => (⟨(.any :: .ptr 0 0 :: .ptr 1 0 :: an 3 (.ptr 2 0 :: .bv x20 :: .any :: .ptr 3 0 :: .clo 132 [.ptr 2 0, .ptr 0 0, .ptr 3 0] :: an 13 (.iv (ln Side.row x3) :: .iv x21 :: an 27 (.bv x25 :: an 58 [])))), [some ⟨39, [.iv x1.ID, .iv x1.Phase, .osl 0]⟩, some ⟨39, [.iv 0, .iv 0, .nl]⟩, some ⟨41, [.osl 1]⟩, some ⟨146, [.oel 0 ((x21).toNat * 8) 0]⟩], [some ⟨49, 8, List.map Side.row x22⟩, some ⟨97, 5, List.map Mail.row x23⟩]⟩ : St)) (m_dine_Fire_j2 x1 x20 x21 x22 x23 x24) y1 ?_ fun J2 => ?_
     ·intro x25 h; rw [m_dine_Fire_j2] at h; (try dsimp only); refine V_join (fun ((x27, x28) : ((List Side) × (List Mail))) => (⟨(.any :: .ptr 0 0 :: .ptr 1 0 :: an 3 (.ptr 2 0 :: .bv x20 :: .any :: .ptr 3 0 :: .clo 132 [.ptr 2 0, .ptr 0 0, .ptr 3 0] :: an 13 (.iv (ln Side.row x3) :: .iv x21 :: an 86 []))), [some ⟨39, [.iv x1.ID, .iv x1.Phase, .osl 0]⟩, some ⟨39, [.iv 0, .iv 0, .nl]⟩, some ⟨41, [.osl 1]⟩, some ⟨146, [.oel 0 ((x21).toNat * 8) 0]⟩], [some ⟨49, 8, List.map Side.row x27⟩, some ⟨97, 5, List.map Mail.row x28⟩]⟩ : St)) (m_dine_Fire_j3 x1 x20 x21) y1 ?_ fun J3 => ?_
      ·rintro ⟨x27, x28⟩ h; rw [m_dine_Fire_j3] at h; (try dsimp only); refine V_go 7 ?_; dsimp only [e120, e120_L0, e120_L1, go_sem, Nat.reduceBEq, Nat.reduceAdd]; refine ⟨by simp, ?_⟩
       refine V_join (fun (x30 : Bool) => (⟨(.any :: .ptr 0 0 :: .ptr 1 0 :: an 3 (.ptr 2 0 :: .bv x20 :: .any :: .ptr 3 0 :: .clo 132 [.ptr 2 0, .ptr 0 0, .ptr 3 0] :: an 13 (.iv (ln Side.row x3) :: .iv x21 :: an 51 (.bv x30 :: an 34 [])))), [some ⟨39, [.iv x1.ID, .iv x1.Phase, .osl 0]⟩, some ⟨39, [.iv 0, .iv 0, .nl]⟩, some ⟨41, [.osl 1]⟩, some ⟨146, [.oel 0 ((x21).toNat * 8) 0]⟩], [some ⟨49, 8, List.map Side.row x27⟩, some ⟨97, 5, List.map Mail.row x28⟩]⟩ : St)) (m_dine_Fire_j4 x1 x20 x21 x27 x28) y1 ?_ fun J4 => ?_
       ·intro x30 h; rw [m_dine_Fire_j4] at h; (try dsimp only); refine V_join (fun ((x33, x34) : ((List Side) × (List Mail))) => (⟨(.any :: .ptr 0 0 :: .ptr 1 0 :: an 3 (.ptr 2 0 :: .bv x20 :: .any :: .ptr 3 0 :: an 14 (.iv (ln Side.row x3) :: .iv x21 :: an 86 []))), [some ⟨39, [.iv x1.ID, .iv x1.Phase, .osl 0]⟩, some ⟨39, [.iv 0, .iv 0, .nl]⟩, some ⟨41, [.osl 1]⟩, some ⟨146, [.oel 0 ((x21).toNat * 8) 0]⟩], [some ⟨49, 8, List.map Side.row x33⟩, some ⟨97, 5, List.map Mail.row x34⟩]⟩ : St)) (m_dine_Fire_j5 x20 x21) y1 ?_ fun J5 => ?_
        ·rintro ⟨x33, x34⟩ h; rw [m_dine_Fire_j5] at h; (try dsimp only); refine V_go 3 ?_; dsimp only [e120, e120_L0, e120_L1, go_sem, Nat.reduceBEq, Nat.reduceAdd]; refine ⟨by simp, ?_⟩; refine V_join (fun (x36 : Bool) => (⟨(.any :: .ptr 0 0 :: .ptr 1 0 :: an 3 (.ptr 2 0 :: .bv x36 :: an 16 (.iv (ln Side.row x3) :: .iv x21 :: an 86 []))), [some ⟨39, [.iv x1.ID, .iv x1.Phase, .osl 0]⟩, some ⟨39, [.iv 0, .iv 0, .nl]⟩, some ⟨41, [.osl 1]⟩], [some ⟨49, 8, List.map Side.row x33⟩, some ⟨97, 5, List.map Mail.row x34⟩]⟩ : St)) (m_dine_Fire_j6 x21 x33 x34) y1 ?_ fun J6 => ?_
         ·intro x36 h; rw [m_dine_Fire_j6] at h; (try dsimp only); refine V_go 5 ?_; dsimp only [e120, e120_L0, e120_L1, go_sem, Nat.reduceBEq, Nat.reduceAdd]; refine ⟨by simp, ?_⟩; exact M_back h hin1
         ·refine M_case 84 h rfl (fun _ h => ?_) fun _ h => ?_
          ·dsimp only [go_sem, Nat.reduceBEq, Nat.reduceAdd]; refine V_go 3 ?_; dsimp only [e120, e120_L0, e120_L1, go_sem, Nat.reduceBEq, Nat.reduceAdd]; refine ⟨by simp, ?_⟩; obtain ⟨x35, ex35, h⟩ := Option.bind_eq_some_iff.1 h; refine V_loadO Side.row ex35 trivial rfl rfl rfl ?_; refine V_go 3 ?_; dsimp only [e120, e120_L0, e120_L1, go_sem, Nat.reduceBEq, Nat.reduceAdd]; refine ⟨by simp, ?_⟩; exact M_to J6 (s := x35.Fork) h
          ·dsimp only [go_sem, Nat.reduceBEq, Nat.reduceAdd]; refine V_go 7 ?_; dsimp only [e120, e120_L0, e120_L1, go_sem, Nat.reduceBEq, Nat.reduceAdd]; refine ⟨by simp, ?_⟩; exact M_to J6 (s := false) h
        ·refine M_ite h rfl (fun _ h => ?_) fun _ h => ?_
         ·refine V_go 5 ?_; dsimp only [e120, e120_L0, e120_L1, go_sem, Nat.reduceBEq, Nat.reduceAdd]; refine ⟨by simp, ?_⟩; obtain ⟨x31, ex31, h⟩ := Option.bind_eq_some_iff.1 h; refine V_storeO [.bv false] Side.row (y' := (Side.mk x31.Peer x31.Epoch x31.State x31.Fork x31.Dirty false x31.Bottle x31.Ask)) ex31 trivial rfl rfl rfl (by first | exact leL_refl _ | simp [go_sem]) rfl rfl rfl rfl ?_; refine V_go 3 ?_; dsimp only [e120, e120_L0, e120_L1, go_sem, Nat.reduceBEq, Nat.reduceAdd]; refine ⟨by simp, ?_⟩; obtain ⟨x32, ex32, h⟩ := Option.bind_eq_some_iff.1 h
          refine V_callvT [true, false, true, true] [true, true] trivial rfl (t_dine_Fire_1_in_dine_Fire_2 2 x1.ID x1.Phase x21 (x27.set (x21).toNat ((Side.mk x31.Peer x31.Epoch x31.State x31.Fork x31.Dirty false x31.Bottle x31.Ask))) x28 _ ex32) (by kernel_rfl) (h := ?_); dsimp only [go_sem, Nat.reduceBEq, Nat.reduceAdd]; refine V_go 1 ?_; dsimp only [e120, e120_L0, e120_L1, go_sem, Nat.reduceBEq, Nat.reduceAdd]; refine ⟨by simp, ?_⟩; refine V_ren 3 1 rfl rfl rfl ?_; dsimp only [go_sem, Nat.reduceBEq, Nat.reduceAdd]
          exact M_to J5 (s := ((x27.set (x21).toNat ((Side.mk x31.Peer x31.Epoch x31.State x31.Fork x31.Dirty false x31.Bottle x31.Ask))), x32)) h
         ·refine V_go 1 ?_; dsimp only [e120, e120_L0, e120_L1, go_sem, Nat.reduceBEq, Nat.reduceAdd]; refine ⟨by simp, ?_⟩; exact M_to J5 (s := (x27, x28)) h
       ·refine M_case 65 h rfl (fun _ h => ?_) fun _ h => ?_
        ·dsimp only [go_sem, Nat.reduceBEq, Nat.reduceAdd]; refine V_go 3 ?_; dsimp only [e120, e120_L0, e120_L1, go_sem, Nat.reduceBEq, Nat.reduceAdd]; refine ⟨by simp, ?_⟩; obtain ⟨x29, ex29, h⟩ := Option.bind_eq_some_iff.1 h; refine V_loadO Side.row ex29 trivial rfl rfl rfl ?_; refine V_go 2 ?_; dsimp only [e120, e120_L0, e120_L1, go_sem, Nat.reduceBEq, Nat.reduceAdd]; refine ⟨by simp, ?_⟩; refine M_case 71 h rfl (fun _ h => ?_) fun _ h => ?_
         ·dsimp only [go_sem, Nat.reduceBEq, Nat.reduceAdd]; refine V_go 3 ?_; dsimp only [e120, e120_L0, e120_L1, go_sem, Nat.reduceBEq, Nat.reduceAdd]; refine ⟨by simp, ?_⟩; refine V_loadO Side.row ex29 trivial rfl rfl rfl ?_; refine V_go 3 ?_; dsimp only [e120, e120_L0, e120_L1, go_sem, Nat.reduceBEq, Nat.reduceAdd]; refine ⟨by simp, ?_⟩; exact M_to J4 (s := !x29.Fork) h
         ·dsimp only [go_sem, Nat.reduceBEq, Nat.reduceAdd]; refine V_go 7 ?_; dsimp only [e120, e120_L0, e120_L1, go_sem, Nat.reduceBEq, Nat.reduceAdd]; refine ⟨by simp, ?_⟩; exact M_to J4 (s := false) h
        ·dsimp only [go_sem, Nat.reduceBEq, Nat.reduceAdd]; refine V_go 13 ?_; dsimp only [e120, e120_L0, e120_L1, go_sem, Nat.reduceBEq, Nat.reduceAdd]; refine ⟨by simp, ?_⟩; exact M_to J4 (s := false) h
      ·refine M_ite h rfl (fun _ h => ?_) fun _ h => ?_
       ·refine V_go 1 ?_; dsimp only [e120, e120_L0, e120_L1, go_sem, Nat.reduceBEq, Nat.reduceAdd]; refine ⟨by simp, ?_⟩; refine V_drw (by kernel_rfl) fun all hall hs hnap haf => ?_; dsimp only [go_sem, Nat.reduceBEq, Nat.reduceAdd]; refine G_two 0 1 rfl ?_ ?_
        ·refine GO_ev hall rfl trivial ?_; dsimp only [go_sem, Nat.reduceBEq, Nat.reduceAdd]; refine G_goN hall hs haf hnap 2 5 ?_; dsimp only [go_sem, Nat.reduceBEq, Nat.reduceAdd]; refine ⟨by simp, ?_⟩; refine G_two 1 4 rfl ?_ ?_
         ·refine GO_ev hall rfl trivial ?_; dsimp only [go_sem, Nat.reduceBEq, Nat.reduceAdd]; refine G_one 4 rfl ?_; refine GO_storeO hall [.bv false] Side.row (y' := (Side.mk x24.Peer x24.Epoch x24.State false x24.Dirty x24.Token x24.Bottle x24.Ask)) ex24 rfl trivial rfl rfl rfl (by first | exact leL_refl _ | simp [go_sem]) rfl rfl rfl rfl ?_; dsimp only [go_sem, Nat.reduceBEq, Nat.reduceAdd]; refine G_goN hall hs haf hnap 2 1 ?_; dsimp only [go_sem, Nat.reduceBEq, Nat.reduceAdd]; refine ⟨by simp, ?_⟩; refine G_one 7 rfl ?_
          refine GO_storeOS hall [.bv false] Side.row (y' := (Side.mk x24.Peer x24.Epoch x24.State false false x24.Token x24.Bottle x24.Ask)) (at_set ex24) rfl trivial rfl rfl rfl (by first | exact leL_refl _ | simp [go_sem]) rfl rfl rfl rfl ?_; dsimp only [go_sem, Nat.reduceBEq, Nat.reduceAdd]; refine G_done rfl ?_ _; refine V_go 2 ?_; dsimp only [e120, e120_L0, e120_L1, go_sem, Nat.reduceBEq, Nat.reduceAdd]; refine ⟨by simp, ?_⟩; obtain ⟨x26, ex26, h⟩ := Option.bind_eq_some_iff.1 h
          refine V_callvT [true, false, true, true] [true, true] trivial rfl (t_dine_Fire_1_in_dine_Fire_2 1 x1.ID x1.Phase x21 (x22.set (x21).toNat ((Side.mk x24.Peer x24.Epoch x24.State false false x24.Token x24.Bottle x24.Ask))) x23 _ ex26) (by kernel_rfl) (h := ?_); dsimp only [go_sem, Nat.reduceBEq, Nat.reduceAdd]; refine V_go 1 ?_; dsimp only [e120, e120_L0, e120_L1, go_sem, Nat.reduceBEq, Nat.reduceAdd]; refine ⟨by simp, ?_⟩; refine V_ren 3 1 rfl rfl rfl ?_; dsimp only [go_sem, Nat.reduceBEq, Nat.reduceAdd]
          exact M_to J3 (s := ((x22.set (x21).toNat ((Side.mk x24.Peer x24.Epoch x24.State false false x24.Token x24.Bottle x24.Ask))), x26)) h
         ·refine GO_storeO hall [.bv false] Side.row (y' := (Side.mk x24.Peer x24.Epoch x24.State false x24.Dirty x24.Token x24.Bottle x24.Ask)) ex24 rfl trivial rfl rfl rfl (by first | exact leL_refl _ | simp [go_sem]) rfl rfl rfl rfl ?_; dsimp only [go_sem, Nat.reduceBEq, Nat.reduceAdd]; refine G_one 1 rfl ?_; refine GO_ev hall rfl trivial ?_; dsimp only [go_sem, Nat.reduceBEq, Nat.reduceAdd]; refine G_goN hall hs haf hnap 2 1 ?_; dsimp only [go_sem, Nat.reduceBEq, Nat.reduceAdd]; refine ⟨by simp, ?_⟩; refine G_one 7 rfl ?_
          refine GO_storeOS hall [.bv false] Side.row (y' := (Side.mk x24.Peer x24.Epoch x24.State false false x24.Token x24.Bottle x24.Ask)) (at_set ex24) rfl trivial rfl rfl rfl (by first | exact leL_refl _ | simp [go_sem]) rfl rfl rfl rfl ?_; dsimp only [go_sem, Nat.reduceBEq, Nat.reduceAdd]; refine G_done rfl ?_ _; refine V_go 2 ?_; dsimp only [e120, e120_L0, e120_L1, go_sem, Nat.reduceBEq, Nat.reduceAdd]; refine ⟨by simp, ?_⟩; obtain ⟨x26, ex26, h⟩ := Option.bind_eq_some_iff.1 h
          refine V_callvT [true, false, true, true] [true, true] trivial rfl (t_dine_Fire_1_in_dine_Fire_2 1 x1.ID x1.Phase x21 (x22.set (x21).toNat ((Side.mk x24.Peer x24.Epoch x24.State false false x24.Token x24.Bottle x24.Ask))) x23 _ ex26) (by kernel_rfl) (h := ?_); dsimp only [go_sem, Nat.reduceBEq, Nat.reduceAdd]; refine V_go 1 ?_; dsimp only [e120, e120_L0, e120_L1, go_sem, Nat.reduceBEq, Nat.reduceAdd]; refine ⟨by simp, ?_⟩; refine V_ren 3 1 rfl rfl rfl ?_; dsimp only [go_sem, Nat.reduceBEq, Nat.reduceAdd]
          exact M_to J3 (s := ((x22.set (x21).toNat ((Side.mk x24.Peer x24.Epoch x24.State false false x24.Token x24.Bottle x24.Ask))), x26)) h
        ·refine GO_ev hall rfl trivial ?_; dsimp only [go_sem, Nat.reduceBEq, Nat.reduceAdd]; refine G_one 0 rfl ?_; refine GO_ev hall rfl trivial ?_; dsimp only [go_sem, Nat.reduceBEq, Nat.reduceAdd]; refine G_goN hall hs haf hnap 2 4 ?_; dsimp only [go_sem, Nat.reduceBEq, Nat.reduceAdd]; refine ⟨by simp, ?_⟩; refine G_one 4 rfl ?_; refine GO_storeO hall [.bv false] Side.row (y' := (Side.mk x24.Peer x24.Epoch x24.State false x24.Dirty x24.Token x24.Bottle x24.Ask)) ex24 rfl trivial rfl rfl rfl (by first | exact leL_refl _ | simp [go_sem]) rfl rfl rfl rfl ?_
         dsimp only [go_sem, Nat.reduceBEq, Nat.reduceAdd]; refine G_goN hall hs haf hnap 2 1 ?_; dsimp only [go_sem, Nat.reduceBEq, Nat.reduceAdd]; refine ⟨by simp, ?_⟩; refine G_one 7 rfl ?_; refine GO_storeOS hall [.bv false] Side.row (y' := (Side.mk x24.Peer x24.Epoch x24.State false false x24.Token x24.Bottle x24.Ask)) (at_set ex24) rfl trivial rfl rfl rfl (by first | exact leL_refl _ | simp [go_sem]) rfl rfl rfl rfl ?_; dsimp only [go_sem, Nat.reduceBEq, Nat.reduceAdd]; refine G_done rfl ?_ _; refine V_go 2 ?_; dsimp only [e120, e120_L0, e120_L1, go_sem, Nat.reduceBEq, Nat.reduceAdd]
         refine ⟨by simp, ?_⟩; obtain ⟨x26, ex26, h⟩ := Option.bind_eq_some_iff.1 h; refine V_callvT [true, false, true, true] [true, true] trivial rfl (t_dine_Fire_1_in_dine_Fire_2 1 x1.ID x1.Phase x21 (x22.set (x21).toNat ((Side.mk x24.Peer x24.Epoch x24.State false false x24.Token x24.Bottle x24.Ask))) x23 _ ex26) (by kernel_rfl) (h := ?_); dsimp only [go_sem, Nat.reduceBEq, Nat.reduceAdd]; refine V_go 1 ?_; dsimp only [e120, e120_L0, e120_L1, go_sem, Nat.reduceBEq, Nat.reduceAdd]; refine ⟨by simp, ?_⟩; refine V_ren 3 1 rfl rfl rfl ?_; dsimp only [go_sem, Nat.reduceBEq, Nat.reduceAdd]
         exact M_to J3 (s := ((x22.set (x21).toNat ((Side.mk x24.Peer x24.Epoch x24.State false false x24.Token x24.Bottle x24.Ask))), x26)) h
       ·refine V_go 1 ?_; dsimp only [e120, e120_L0, e120_L1, go_sem, Nat.reduceBEq, Nat.reduceAdd]; refine ⟨by simp, ?_⟩; exact M_to J3 (s := (x22, x23)) h
     ·refine M_case 37 h rfl (fun _ h => ?_) fun _ h => ?_
      ·dsimp only [go_sem, Nat.reduceBEq, Nat.reduceAdd]; refine V_go 3 ?_; dsimp only [e120, e120_L0, e120_L1, go_sem, Nat.reduceBEq, Nat.reduceAdd]; refine ⟨by simp, ?_⟩; refine V_loadO Side.row ex24 trivial rfl rfl rfl ?_; refine V_go 2 ?_; dsimp only [e120, e120_L0, e120_L1, go_sem, Nat.reduceBEq, Nat.reduceAdd]; refine ⟨by simp, ?_⟩; refine M_case 43 h rfl (fun _ h => ?_) fun _ h => ?_
       ·dsimp only [go_sem, Nat.reduceBEq, Nat.reduceAdd]; refine V_go 3 ?_; dsimp only [e120, e120_L0, e120_L1, go_sem, Nat.reduceBEq, Nat.reduceAdd]; refine ⟨by simp, ?_⟩; refine V_loadO Side.row ex24 trivial rfl rfl rfl ?_; refine V_go 2 ?_; dsimp only [e120, e120_L0, e120_L1, go_sem, Nat.reduceBEq, Nat.reduceAdd]; refine ⟨by simp, ?_⟩; refine M_case 49 h rfl (fun _ h => ?_) fun _ h => ?_
        ·dsimp only [go_sem, Nat.reduceBEq, Nat.reduceAdd]; refine V_go 5 ?_; dsimp only [e120, e120_L0, e120_L1, go_sem, Nat.reduceBEq, Nat.reduceAdd]; refine ⟨by simp, ?_⟩; exact M_to J2 (s := !decide (x1.Phase = 2)) h
        ·dsimp only [go_sem, Nat.reduceBEq, Nat.reduceAdd]; refine V_go 5 ?_; dsimp only [e120, e120_L0, e120_L1, go_sem, Nat.reduceBEq, Nat.reduceAdd]; refine ⟨by simp, ?_⟩; exact M_to J2 (s := false) h
       ·dsimp only [go_sem, Nat.reduceBEq, Nat.reduceAdd]; refine V_go 11 ?_; dsimp only [e120, e120_L0, e120_L1, go_sem, Nat.reduceBEq, Nat.reduceAdd]; refine ⟨by simp, ?_⟩; exact M_to J2 (s := false) h
      ·dsimp only [go_sem, Nat.reduceBEq, Nat.reduceAdd]; refine V_go 17 ?_; dsimp only [e120, e120_L0, e120_L1, go_sem, Nat.reduceBEq, Nat.reduceAdd]; refine ⟨by simp, ?_⟩; exact M_to J2 (s := false) h
    ·refine V_go 1 ?_; dsimp only [e120, e120_L0, e120_L1, go_sem, Nat.reduceBEq, Nat.reduceAdd]; refine ⟨by simp, ?_⟩; exact M_to J1 (s := (x20, x22, x23)) (M_out h hout1)
def f_dine_Fire_j8 (_F : Nat) (x1 : Diner) (x50 : (List Mail)) : (Int × (List Side)) → Option (Diner × (List Mail) × Int)
| (x65, x66) =>
 some ((Diner.mk x1.ID x65 x66), x50, 0)
theorem le_dine_Fire_j8 {F : Nat} {x1 : Diner} {x50 : (List Mail)} : ∀ s, ole (f_dine_Fire_j8 F x1 x50 s) (m_dine_Fire_j8 x1 x50 s) := by
  rintro ⟨x65, x66⟩
  unfold f_dine_Fire_j8 m_dine_Fire_j8
  try dsimp only
  with_reducible repeat' first | exact ole_refl _ | assumption | intro _ | refine ole_ifb ?_ ?_ | refine ole_bind ?_ ?_ | refine ole_map ?_ | refine ole_loop ?_
def f_dine_Fire_l2 (F : Nat) (x1 : Diner) (x49 : (List Side)) (x50 : (List Mail)) : (Int × (List Side)) → Option ((Int × (List Side)) ⊕ (Diner × (List Mail) × Int))
| (x55, x56) =>
 ifb (decide (x55 < (ln Side.row x49))) (
 (at_ x56 x55).bind fun x57 =>
 some (.inl (wr (x55 + 1), x56.set (x55).toNat ((Side.mk x57.Peer x57.Epoch x57.State x57.Fork true x57.Token x57.Bottle x57.Ask))))) (
 Option.map Sum.inr ((f_dine_Fire_j8 F x1 x50) (2, x56)))
theorem le_dine_Fire_l2 {F : Nat} {x1 : Diner} {x49 : (List Side)} {x50 : (List Mail)} : ∀ s, ole (f_dine_Fire_l2 F x1 x49 x50 s) (m_dine_Fire_l2 x1 x49 x50 s) := by
  rintro ⟨x55, x56⟩
  unfold f_dine_Fire_l2 m_dine_Fire_l2
  try dsimp only
  with_reducible repeat' first | exact ole_refl _ | assumption | intro _ | refine ole_ifb ?_ ?_ | refine ole_bind ?_ ?_ | refine ole_map ?_ | refine ole_loop ?_ | apply le_dine_Fire_j8
def f_dine_Fire_j7 (F : Nat) (x1 : Diner) (x49 : (List Side)) (x50 : (List Mail)) : Bool → Option (Diner × (List Mail) × Int)
| x51 =>
 ifb x51 (
 loopF F (f_dine_Fire_l2 F x1 x49 x50) (0, x49)) (
 (f_dine_Fire_j8 F x1 x50) (x1.Phase, x49))
theorem le_dine_Fire_j7 {F : Nat} {x1 : Diner} {x49 : (List Side)} {x50 : (List Mail)} : ∀ s, ole (f_dine_Fire_j7 F x1 x49 x50 s) (m_dine_Fire_j7 x1 x49 x50 s) := by
  intro x51
  unfold f_dine_Fire_j7 m_dine_Fire_j7
  try dsimp only
  with_reducible repeat' first | exact ole_refl _ | assumption | intro _ | refine ole_ifb ?_ ?_ | refine ole_bind ?_ ?_ | refine ole_map ?_ | refine ole_loop ?_ | apply le_dine_Fire_j8 | apply le_dine_Fire_l2
def f_dine_Fire_j1 (F : Nat) (x1 : Diner) : (Bool × (List Side) × (List Mail)) → Option (Diner × (List Mail) × Int)
| (x48, x49, x50) =>
 ifb (decide (x1.Phase = 1)) (
 (f_dine_Fire_j7 F x1 x49 x50) x48) (
 (f_dine_Fire_j7 F x1 x49 x50) false)
theorem le_dine_Fire_j1 {F : Nat} {x1 : Diner} : ∀ s, ole (f_dine_Fire_j1 F x1 s) (m_dine_Fire_j1 x1 s) := by
  rintro ⟨x48, x49, x50⟩
  unfold f_dine_Fire_j1 m_dine_Fire_j1
  try dsimp only
  with_reducible repeat' first | exact ole_refl _ | assumption | intro _ | refine ole_ifb ?_ ?_ | refine ole_bind ?_ ?_ | refine ole_map ?_ | refine ole_loop ?_ | apply le_dine_Fire_j8 | apply le_dine_Fire_l2 | apply le_dine_Fire_j7
def f_dine_Fire_j6 (_F : Nat) (x21 : Int) (x33 : (List Side)) (x34 : (List Mail)) : Bool → Option ((Bool × Int × (List Side) × (List Mail)) ⊕ (Diner × (List Mail) × Int))
| x36 =>
 some (.inl (x36, wr (x21 + 1), x33, x34))
theorem le_dine_Fire_j6 {F : Nat} {x21 : Int} {x33 : (List Side)} {x34 : (List Mail)} : ∀ s, ole (f_dine_Fire_j6 F x21 x33 x34 s) (m_dine_Fire_j6 x21 x33 x34 s) := by
  intro x36
  unfold f_dine_Fire_j6 m_dine_Fire_j6
  try dsimp only
  with_reducible repeat' first | exact ole_refl _ | assumption | intro _ | refine ole_ifb ?_ ?_ | refine ole_bind ?_ ?_ | refine ole_map ?_ | refine ole_loop ?_ | apply le_dine_Fire_j8 | apply le_dine_Fire_l2 | apply le_dine_Fire_j7 | apply le_dine_Fire_j1
def f_dine_Fire_j5 (F : Nat) (x20 : Bool) (x21 : Int) : ((List Side) × (List Mail)) → Option ((Bool × Int × (List Side) × (List Mail)) ⊕ (Diner × (List Mail) × Int))
| (x33, x34) =>
 ifb x20 (
 (at_ x33 x21).bind fun x35 =>
 (f_dine_Fire_j6 F x21 x33 x34) x35.Fork) (
 (f_dine_Fire_j6 F x21 x33 x34) false)
theorem le_dine_Fire_j5 {F : Nat} {x20 : Bool} {x21 : Int} : ∀ s, ole (f_dine_Fire_j5 F x20 x21 s) (m_dine_Fire_j5 x20 x21 s) := by
  rintro ⟨x33, x34⟩
  unfold f_dine_Fire_j5 m_dine_Fire_j5
  try dsimp only
  with_reducible repeat' first | exact ole_refl _ | assumption | intro _ | refine ole_ifb ?_ ?_ | refine ole_bind ?_ ?_ | refine ole_map ?_ | refine ole_loop ?_ | apply le_dine_Fire_j8 | apply le_dine_Fire_l2 | apply le_dine_Fire_j7 | apply le_dine_Fire_j1 | apply le_dine_Fire_j6
def f_dine_Fire_j4 (F : Nat) (x1 : Diner) (x20 : Bool) (x21 : Int) (x27 : (List Side)) (x28 : (List Mail)) : Bool → Option ((Bool × Int × (List Side) × (List Mail)) ⊕ (Diner × (List Mail) × Int))
| x30 =>
 ifb x30 (
 (at_ x27 x21).bind fun x31 =>
 (f_dine_Fire_1_in_dine_Fire_2 F 2 x1.ID x1.Phase x21 (x27.set (x21).toNat ((Side.mk x31.Peer x31.Epoch x31.State x31.Fork x31.Dirty false x31.Bottle x31.Ask))) x28).bind fun x32 =>
 (f_dine_Fire_j5 F x20 x21) ((x27.set (x21).toNat ((Side.mk x31.Peer x31.Epoch x31.State x31.Fork x31.Dirty false x31.Bottle x31.Ask))), x32)) (
 (f_dine_Fire_j5 F x20 x21) (x27, x28))
theorem le_dine_Fire_j4 {F : Nat} {x1 : Diner} {x20 : Bool} {x21 : Int} {x27 : (List Side)} {x28 : (List Mail)} : ∀ s, ole (f_dine_Fire_j4 F x1 x20 x21 x27 x28 s) (m_dine_Fire_j4 x1 x20 x21 x27 x28 s) := by
  intro x30
  unfold f_dine_Fire_j4 m_dine_Fire_j4
  try dsimp only
  with_reducible repeat' first | exact ole_refl _ | assumption | intro _ | refine ole_ifb ?_ ?_ | refine ole_bind ?_ ?_ | refine ole_map ?_ | refine ole_loop ?_ | apply le_dine_Fire_j8 | apply le_dine_Fire_l2 | apply le_dine_Fire_j7 | apply le_dine_Fire_j1 | apply le_dine_Fire_j6 | apply le_dine_Fire_j5 | apply le_dine_Fire_1_in_dine_Fire_2
def f_dine_Fire_j3 (F : Nat) (x1 : Diner) (x20 : Bool) (x21 : Int) : ((List Side) × (List Mail)) → Option ((Bool × Int × (List Side) × (List Mail)) ⊕ (Diner × (List Mail) × Int))
| (x27, x28) =>
 ifb (decide (x1.Phase = 1)) (
 (at_ x27 x21).bind fun x29 =>
 ifb x29.Token (
 (f_dine_Fire_j4 F x1 x20 x21 x27 x28) (!x29.Fork)) (
 (f_dine_Fire_j4 F x1 x20 x21 x27 x28) false)) (
 (f_dine_Fire_j4 F x1 x20 x21 x27 x28) false)
theorem le_dine_Fire_j3 {F : Nat} {x1 : Diner} {x20 : Bool} {x21 : Int} : ∀ s, ole (f_dine_Fire_j3 F x1 x20 x21 s) (m_dine_Fire_j3 x1 x20 x21 s) := by
  rintro ⟨x27, x28⟩
  unfold f_dine_Fire_j3 m_dine_Fire_j3
  try dsimp only
  with_reducible repeat' first | exact ole_refl _ | assumption | intro _ | refine ole_ifb ?_ ?_ | refine ole_bind ?_ ?_ | refine ole_map ?_ | refine ole_loop ?_ | apply le_dine_Fire_j8 | apply le_dine_Fire_l2 | apply le_dine_Fire_j7 | apply le_dine_Fire_j1 | apply le_dine_Fire_j6 | apply le_dine_Fire_j5 | apply le_dine_Fire_1_in_dine_Fire_2 | apply le_dine_Fire_j4
def f_dine_Fire_j2 (F : Nat) (x1 : Diner) (x20 : Bool) (x21 : Int) (x22 : (List Side)) (x23 : (List Mail)) (x24 : Side) : Bool → Option ((Bool × Int × (List Side) × (List Mail)) ⊕ (Diner × (List Mail) × Int))
| x25 =>
 ifb x25 (
 (f_dine_Fire_1_in_dine_Fire_2 F 1 x1.ID x1.Phase x21 (x22.set (x21).toNat ((Side.mk x24.Peer x24.Epoch x24.State false false x24.Token x24.Bottle x24.Ask))) x23).bind fun x26 =>
 (f_dine_Fire_j3 F x1 x20 x21) ((x22.set (x21).toNat ((Side.mk x24.Peer x24.Epoch x24.State false false x24.Token x24.Bottle x24.Ask))), x26)) (
 (f_dine_Fire_j3 F x1 x20 x21) (x22, x23))
theorem le_dine_Fire_j2 {F : Nat} {x1 : Diner} {x20 : Bool} {x21 : Int} {x22 : (List Side)} {x23 : (List Mail)} {x24 : Side} : ∀ s, ole (f_dine_Fire_j2 F x1 x20 x21 x22 x23 x24 s) (m_dine_Fire_j2 x1 x20 x21 x22 x23 x24 s) := by
  intro x25
  unfold f_dine_Fire_j2 m_dine_Fire_j2
  try dsimp only
  with_reducible repeat' first | exact ole_refl _ | assumption | intro _ | refine ole_ifb ?_ ?_ | refine ole_bind ?_ ?_ | refine ole_map ?_ | refine ole_loop ?_ | apply le_dine_Fire_j8 | apply le_dine_Fire_l2 | apply le_dine_Fire_j7 | apply le_dine_Fire_j1 | apply le_dine_Fire_j6 | apply le_dine_Fire_j5 | apply le_dine_Fire_1_in_dine_Fire_2 | apply le_dine_Fire_j4 | apply le_dine_Fire_j3
def f_dine_Fire_l1 (F : Nat) (x1 : Diner) (x3 : (List Side)) : (Bool × Int × (List Side) × (List Mail)) → Option ((Bool × Int × (List Side) × (List Mail)) ⊕ (Diner × (List Mail) × Int))
| (x20, x21, x22, x23) =>
 ifb (decide (x21 < (ln Side.row x3))) (
 (at_ x22 x21).bind fun x24 =>
 ifb x24.Fork (
 ifb x24.Dirty (
 ifb x24.Token (
 (f_dine_Fire_j2 F x1 x20 x21 x22 x23 x24) (!decide (x1.Phase = 2))) (
 (f_dine_Fire_j2 F x1 x20 x21 x22 x23 x24) false)) (
 (f_dine_Fire_j2 F x1 x20 x21 x22 x23 x24) false)) (
 (f_dine_Fire_j2 F x1 x20 x21 x22 x23 x24) false)) (
 Option.map Sum.inr ((f_dine_Fire_j1 F x1) (x20, x22, x23)))
theorem le_dine_Fire_l1 {F : Nat} {x1 : Diner} {x3 : (List Side)} : ∀ s, ole (f_dine_Fire_l1 F x1 x3 s) (m_dine_Fire_l1 x1 x3 s) := by
  rintro ⟨x20, x21, x22, x23⟩
  unfold f_dine_Fire_l1 m_dine_Fire_l1
  try dsimp only
  with_reducible repeat' first | exact ole_refl _ | assumption | intro _ | refine ole_ifb ?_ ?_ | refine ole_bind ?_ ?_ | refine ole_map ?_ | refine ole_loop ?_ | apply le_dine_Fire_j8 | apply le_dine_Fire_l2 | apply le_dine_Fire_j7 | apply le_dine_Fire_j1 | apply le_dine_Fire_j6 | apply le_dine_Fire_j5 | apply le_dine_Fire_1_in_dine_Fire_2 | apply le_dine_Fire_j4 | apply le_dine_Fire_j3 | apply le_dine_Fire_j2
def f_dine_Fire (F : Nat) (x1 : Diner) : Option (Diner × (List Mail) × Int) :=
 (f_dine_Check F x1).bind fun x2 =>
 ifb (!decide (x2 = 0)) (
 some ((Diner.mk 0 0 (([] : (List Side)))), ([] : (List Mail)), x2)) (
 (f_slices_Clone_Side F x1.Sides).bind fun x3 =>
 loopF F (f_dine_Fire_l1 F x1 x3) (true, 0, x3, ([] : List Mail)))
theorem le_dine_Fire {F : Nat} {x1 : Diner} : ole (f_dine_Fire F x1) (m_dine_Fire x1) := by
  unfold f_dine_Fire m_dine_Fire
  with_reducible repeat' first | exact ole_refl _ | assumption | intro _ | refine ole_ifb ?_ ?_ | refine ole_bind ?_ ?_ | refine ole_map ?_ | refine ole_loop ?_ | apply le_dine_Fire_j8 | apply le_dine_Fire_l2 | apply le_dine_Fire_j7 | apply le_dine_Fire_j1 | apply le_dine_Fire_j6 | apply le_dine_Fire_j5 | apply le_dine_Fire_1_in_dine_Fire_2 | apply le_dine_Fire_j4 | apply le_dine_Fire_j3 | apply le_dine_Fire_j2 | apply le_dine_Fire_l1 | apply le_dine_Check | apply le_slices_Clone_Side
end NX
end Go.Proofs.Ytadebhbiglmodaa
/-
  Plain laws: package dine. No statement of the seat is proved here.
-/
namespace Go.Proofs.Ytadebhbiglmodaa
namespace NX
open Go
/-- May a side stand behind a peer? -/
def sideD (id q : Int) (x : Side) : Bool := decide (q < x.Peer) && (!decide (x.Peer = id) && (decide (0 ≤ x.Epoch) && (decide (x.Epoch ≤ 65535) && (decide (0 ≤ x.State) && (decide (x.State ≤ 3) && !(x.Dirty && !x.Fork))))))
def okSides (id : Int) : Int → List Side → Bool
  | _, [] => true
  | q, x :: r => sideD id q x && okSides id x.Peer r
/-- A diner that may be. -/
def okD (d : Diner) : Bool := decide (0 ≤ d.ID) && (decide (0 ≤ d.Phase) && (decide (d.Phase ≤ 2) && (decide (d.Sides.length < 64) && okSides d.ID (-1) d.Sides)))
theorem s_odd (x : Side) (d : Diner) (q : Int) : m_dine_Check_1_in_dine_Check_3 x d q = some (!sideD d.ID q x) := by
  simp only [m_dine_Check_1_in_dine_Check_3, m_dine_Check_1_in_dine_Check_3_j1, m_dine_Check_1_in_dine_Check_3_j2, sideD]
  by_cases h1 : q < x.Peer
  · by_cases h2 : x.Peer = d.ID
    · have h1' : q < d.ID := h2 ▸ h1
      simp [h2, h1']
    · by_cases h3 : x.Epoch < 0
      · have : ¬ 0 ≤ x.Epoch := by omega
        simp [h1, h2, h3, this]
      · have h3' : 0 ≤ x.Epoch := by omega
        by_cases h4 : 65535 < x.Epoch
        · have : ¬ x.Epoch ≤ 65535 := by omega
          simp [h1, h2, h3, h4, this]
        · have h4' : x.Epoch ≤ 65535 := by omega
          by_cases h5 : x.State < 0
          · have : ¬ 0 ≤ x.State := by omega
            simp [h1, h2, h3, h4, h5, this]
          · have h5' : 0 ≤ x.State := by omega
            by_cases h6 : 3 < x.State
            · have : ¬ x.State ≤ 3 := by omega
              simp [h1, h2, h3, h4, h5, h6, this]
            · have h6' : x.State ≤ 3 := by omega
              simp only [h1, h2, h3, h4, h5, h6, h3', h4', h5', h6', decide_true, decide_false, ifb_true, ifb_false, Bool.not_true, Bool.not_false, Bool.true_and]
              cases x.Dirty <;> cases x.Fork <;> rfl
  · simp [h1]
def scanD (id : Int) : Nat → Int → List Side → Int × Int
  | _, q, [] => (-1, q)
  | k, q, x :: r => if sideD id q x then scanD id (k + 1) x.Peer r else (k, x.Peer)
theorem scanD_ok (id : Int) : ∀ (l : List Side) (k : Nat) (q : Int), decide (0 ≤ (scanD id k q l).1) = !okSides id q l
  | [], k, q => by simp [scanD, okSides]
  | x :: r, k, q => by
    by_cases h : sideD id q x = true
    · have e1 : scanD id k q (x :: r) = scanD id (k + 1) x.Peer r := by simp [scanD, h]
      rw [e1, scanD_ok id r (k + 1) x.Peer]
      simp [okSides, h]
    · have h' : sideD id q x = false := by simpa using h
      have e1 : scanD id k q (x :: r) = ((k : Int), x.Peer) := by simp [scanD, h']
      rw [e1]
      simp [okSides, h']
def lastQ (q : Int) (pre : List Side) : Int := match pre.getLast? with | some x => x.Peer | none => q
theorem lastQ_snoc (q : Int) (pre : List Side) (x : Side) : lastQ q (pre ++ [x]) = x.Peer := by simp [lastQ]
theorem s_dCheck (d : Diner) : m_dine_Check d = some (if okD d then 0 else 130) := by
  simp only [m_dine_Check, m_dine_Check_j1, okD]
  by_cases h1 : d.ID < 0
  · have : ¬ 0 ≤ d.ID := by omega
    simp [h1, this]
  have h1' : 0 ≤ d.ID := by omega
  by_cases h2 : d.Phase < 0
  · have : ¬ 0 ≤ d.Phase := by omega
    simp [h1, h2, this]
  have h2' : 0 ≤ d.Phase := by omega
  by_cases h3 : 2 < d.Phase
  · have : ¬ d.Phase ≤ 2 := by omega
    simp [h1, h2, h3, this]
  have h3' : d.Phase ≤ 2 := by omega
  by_cases h4 : 64 ≤ d.Sides.length
  · have h4' : (64 : Int) ≤ ln Side.row d.Sides := by rw [ln_eq]; omega
    have : ¬ d.Sides.length < 64 := by omega
    simp [h1, h2, h3, h4', this]
  have h4' : ¬ (64 : Int) ≤ ln Side.row d.Sides := by rw [ln_eq]; omega
  have h4'' : d.Sides.length < 64 := by omega
  simp only [h1, h2, h3, h4', h1', h2', h3', h4'', decide_true, decide_false, ifb_false, Bool.true_and]
  have key : m_slices_IndexFunc_Side_in_dine_Check_2 d.Sides d (-1) = some (scanD d.ID 0 (-1) d.Sides) := by
    unfold m_slices_IndexFunc_Side_in_dine_Check_2
    refine loop_pp0 d.Sides _ (fun pre => ((pre.length : Int), lastQ (-1) pre)) (fun pre post => some (scanD d.ID pre.length (lastQ (-1) pre) post)) (fun pre x post h => ?_) ?_
    · have hx := mid_get h
      have hm := mid_len h
      dsimp only [m_slices_IndexFunc_Side_in_dine_Check_2_l1]
      rw [lt_len hx, ifb_true, at_get hx, Option.bind_some, s_odd, Option.bind_some, ifb_not]
      cases hs : sideD d.ID (lastQ (-1) pre) x with
      | true =>
        left
        exact ⟨by rw [ifb_true, len_snoc, lastQ_snoc, wr_succ (by omega)], by simp [scanD, hs, lastQ_snoc]⟩
      | false =>
        right
        exact ⟨_, rfl, by simp [scanD, hs]⟩
    · dsimp only [m_slices_IndexFunc_Side_in_dine_Check_2_l1]
      rw [nlt_len, ifb_false]; rfl
  simp only [m_slices_ContainsFunc_Side_in_dine_Check_1, key, Option.bind_some, scanD_ok]
  cases okSides d.ID (-1) d.Sides <;> rfl
theorem s_CloneSide (l : List Side) (hl : l.length ≤ 1000000) : m_slices_Clone_Side l = some l := by
  simp only [m_slices_Clone_Side]
  rw [app_ok _ _ (by omega) (by simp; omega)]; rfl
theorem okD_len {d : Diner} (h : okD d = true) : d.Sides.length < 64 := by
  simp only [okD, Bool.and_eq_true, decide_eq_true_eq] at h; exact h.2.2.2.1
def diner0 : Diner := ⟨0, 0, []⟩
def turnD (d : Diner) (a b : Int) : Diner × Int := if okD d then (if d.Phase = a then (⟨d.ID, b, d.Sides⟩, 0) else (diner0, 134)) else (diner0, 130)
theorem s_turned (d : Diner) (a b : Int) : m_dine_turned d a b = some (turnD d a b) := by
  simp only [m_dine_turned, s_dCheck, Option.bind_some, m_dine_turned_j1, turnD]
  cases h : okD d with
  | false => simp [m_dine_turned_j2, diner0]
  | true =>
    have := okD_len h
    by_cases hp : d.Phase = a
    · simp [hp, m_dine_turned_j2, s_CloneSide d.Sides (by omega)]
    · simp [hp, m_dine_turned_j2, diner0]
theorem s_dStart (d : Diner) : m_dine_Start d = some (turnD d 0 1) := by simp [m_dine_Start, s_turned]
theorem s_dStop (d : Diner) : m_dine_Stop d = some (turnD d 2 0) := by simp [m_dine_Stop, s_turned]
/-! Fire -/
def fire1 (ph : Int) (x : Side) : Side := if x.Fork && (x.Dirty && (x.Token && !decide (ph = 2))) then { x with Fork := false, Dirty := false } else x
def fire2 (ph : Int) (x : Side) : Side := if decide (ph = 1) && ((fire1 ph x).Token && !(fire1 ph x).Fork) then { fire1 ph x with Token := false } else fire1 ph x
def fireM (id ph : Int) (x : Side) : List Mail :=
  (if x.Fork && (x.Dirty && (x.Token && !decide (ph = 2))) then [⟨id, x.Peer, ⟨1, x.Epoch, 0⟩⟩] else []) ++
  (if decide (ph = 1) && ((fire1 ph x).Token && !(fire1 ph x).Fork) then [⟨id, x.Peer, ⟨2, x.Epoch, 0⟩⟩] else [])
def dirtyS (x : Side) : Side := { x with Dirty := true }
def fireD (d : Diner) : Diner := if decide (d.Phase = 1) && (d.Sides.map (fire2 d.Phase)).all (·.Fork) then ⟨d.ID, 2, (d.Sides.map (fire2 d.Phase)).map dirtyS⟩ else ⟨d.ID, d.Phase, d.Sides.map (fire2 d.Phase)⟩
def fireMs (d : Diner) : List Mail := d.Sides.flatMap (fireM d.ID d.Phase)
theorem fireM_len (id ph : Int) (x : Side) : (fireM id ph x).length ≤ 2 := by
  unfold fireM
  rw [List.length_append]
  have h1 : ∀ (c : Bool) (m : Mail), (if c then [m] else []).length ≤ 1 := by intro c m; cases c <;> simp
  have := h1 (x.Fork && (x.Dirty && (x.Token && !decide (ph = 2)))) ⟨id, x.Peer, ⟨1, x.Epoch, 0⟩⟩
  have := h1 (decide (ph = 1) && ((fire1 ph x).Token && !(fire1 ph x).Fork)) ⟨id, x.Peer, ⟨2, x.Epoch, 0⟩⟩
  omega
theorem fireMs_len (l : List Side) (id ph : Int) : (l.flatMap (fireM id ph)).length ≤ 2 * l.length := by
  induction l with
  | nil => simp
  | cons x l ih => have := fireM_len id ph x; rw [List.flatMap_cons, List.length_append, List.length_cons]; omega
theorem s_send (k id ph : Int) (a b : List Side) (x : Side) (E : List Mail) (hE : E.length ≤ 1000000) : m_dine_Fire_1_in_dine_Fire_2 k id ph (a.length : Int) (a ++ x :: b) E = some (E ++ [⟨id, x.Peer, ⟨k, x.Epoch, 0⟩⟩]) := by
  simp only [m_dine_Fire_1_in_dine_Fire_2]
  rw [at_mid rfl, Option.bind_some, app_ok _ _ (by omega) (by simp; omega), Option.bind_some]
theorem fire_step (d : Diner) (l : List Side) (hl : l.length < 64) (pre post : List Side) (x : Side) (h : l = pre ++ x :: post) (all : Bool) (A : List Side) (hA : A.length = pre.length) (E : List Mail) (hE : E.length ≤ 1000) :
    m_dine_Fire_l1 d l (all, (pre.length : Int), A ++ x :: post, E) = some (.inl (all && (fire2 d.Phase x).Fork, ((pre.length + 1 : Nat) : Int), A ++ fire2 d.Phase x :: post, E ++ fireM d.ID d.Phase x)) := by
  have hx := mid_get h
  have hm := mid_len h
  have at1 : ∀ y : Side, at_ (A ++ y :: post) (pre.length : Int) = some y := fun y => by rw [← hA]; exact at_mid rfl
  have st1 : ∀ y z : Side, (A ++ y :: post).set ((pre.length : Int)).toNat z = A ++ z :: post := fun y z => by rw [← hA]; exact set_mid _ _ _ _
  have sd : ∀ (k : Int) (y : Side) (E : List Mail), E.length ≤ 1000000 → m_dine_Fire_1_in_dine_Fire_2 k d.ID d.Phase (pre.length : Int) (A ++ y :: post) E = some (E ++ [⟨d.ID, y.Peer, ⟨k, y.Epoch, 0⟩⟩]) := fun k y E hE => by rw [← hA]; exact s_send k d.ID d.Phase A post y E hE
  have fin : ∀ (y : Side) (E' : List Mail), m_dine_Fire_j5 all (pre.length : Int) (A ++ y :: post, E') = some (.inl (all && y.Fork, ((pre.length + 1 : Nat) : Int), A ++ y :: post, E')) := fun y E' => by
    dsimp only [m_dine_Fire_j5, m_dine_Fire_j6]
    rw [at1, wr_succ (by omega)]
    cases all <;> rfl
  have j3 : ∀ (y : Side) (E' : List Mail), E'.length ≤ 100000 → m_dine_Fire_j3 d all (pre.length : Int) (A ++ y :: post, E') =
      if decide (d.Phase = 1) && (y.Token && !y.Fork) then some (.inl (all && y.Fork, ((pre.length + 1 : Nat) : Int), A ++ { y with Token := false } :: post, E' ++ [⟨d.ID, y.Peer, ⟨2, y.Epoch, 0⟩⟩])) else some (.inl (all && y.Fork, ((pre.length + 1 : Nat) : Int), A ++ y :: post, E')) := fun y E' hE' => by
    dsimp only [m_dine_Fire_j3]
    by_cases h1 : d.Phase = 1
    · rw [decide_eq_true h1, ifb_true, at1, Option.bind_some]
      cases ht : y.Token with
      | false => dsimp only [m_dine_Fire_j4]; rw [ifb_false, ifb_false, fin]; simp
      | true =>
        cases hf : y.Fork with
        | true => dsimp only [m_dine_Fire_j4]; rw [ifb_true, Bool.not_true, ifb_false, fin]; simp [hf]
        | false =>
          dsimp only [m_dine_Fire_j4]
          rw [ifb_true, Bool.not_false, ifb_true, at1, Option.bind_some, st1, sd _ _ _ (by omega), Option.bind_some, fin]
          simp [hf]
    · rw [decide_eq_false h1, ifb_false]; dsimp only [m_dine_Fire_j4]; rw [ifb_false, fin]; simp
  dsimp only [m_dine_Fire_l1]
  rw [lt_len hx, ifb_true, at1, Option.bind_some]
  have j2 : ∀ z : Bool, m_dine_Fire_j2 d all (pre.length : Int) (A ++ x :: post) E x z = if z then m_dine_Fire_j3 d all (pre.length : Int) (A ++ { x with Fork := false, Dirty := false } :: post, E ++ [⟨d.ID, x.Peer, ⟨1, x.Epoch, 0⟩⟩]) else m_dine_Fire_j3 d all (pre.length : Int) (A ++ x :: post, E) := fun z => by
    cases z with
    | false => dsimp only [m_dine_Fire_j2]; rw [ifb_false]; rfl
    | true =>
      dsimp only [m_dine_Fire_j2]
      rw [ifb_true, st1, sd _ _ _ (by omega), Option.bind_some]; rfl
  have e : ifb x.Fork (ifb x.Dirty (ifb x.Token (m_dine_Fire_j2 d all (pre.length : Int) (A ++ x :: post) E x (!decide (d.Phase = 2))) (m_dine_Fire_j2 d all (pre.length : Int) (A ++ x :: post) E x false)) (m_dine_Fire_j2 d all (pre.length : Int) (A ++ x :: post) E x false)) (m_dine_Fire_j2 d all (pre.length : Int) (A ++ x :: post) E x false)
      = m_dine_Fire_j2 d all (pre.length : Int) (A ++ x :: post) E x (x.Fork && (x.Dirty && (x.Token && !decide (d.Phase = 2)))) := by
    cases x.Fork <;> cases x.Dirty <;> cases x.Token <;> rfl
  rw [e, j2]
  cases hz : (x.Fork && (x.Dirty && (x.Token && !decide (d.Phase = 2)))) with
  | false =>
    rw [if_neg (by simp), j3 _ _ (by omega)]
    have f1 : fire1 d.Phase x = x := by simp only [fire1, hz]; rfl
    unfold fire2 fireM
    rw [f1, hz]
    cases hq : (decide (d.Phase = 1) && (x.Token && !x.Fork)) <;> simp
  | true =>
    rw [if_pos rfl, j3 _ _ (by simp; omega)]
    have f1 : fire1 d.Phase x = { x with Fork := false, Dirty := false } := by simp only [fire1, hz]; rfl
    unfold fire2 fireM
    rw [f1, hz]
    cases hq : (decide (d.Phase = 1) && (x.Token && !false)) <;> simp_all
theorem s_Fire (d : Diner) : m_dine_Fire d = some (if okD d then (fireD d, fireMs d, 0) else (diner0, [], 130)) := by
  simp only [m_dine_Fire, s_dCheck, Option.bind_some]
  cases h : okD d with
  | false => rfl
  | true =>
    have hl := okD_len h
    simp only [if_true, decide_true, Bool.not_true, ifb_false, s_CloneSide d.Sides (by omega), Option.bind_some]
    have key := loop_pp0 d.Sides (m_dine_Fire_l1 d d.Sides) (fun pre => ((pre.map (fire2 d.Phase)).all (·.Fork), (pre.length : Int), pre.map (fire2 d.Phase) ++ d.Sides.drop pre.length, pre.flatMap (fireM d.ID d.Phase))) (fun _ _ => some (fireD d, fireMs d, 0)) (fun pre x post hp => ?_) ?_
    · simpa using key
    · left
      have hd : d.Sides.drop pre.length = x :: post := by rw [hp]; simp
      have hd' : d.Sides.drop (pre ++ [x]).length = post := by rw [hp]; simp
      have hm := mid_len hp
      have hE := fireMs_len pre d.ID d.Phase
      refine ⟨?_, rfl⟩
      rw [hd, hd', fire_step d d.Sides hl pre post x hp _ _ (by simp) _ (by omega), len_snoc]
      simp
    · have hE := fireMs_len d.Sides d.ID d.Phase
      dsimp only [m_dine_Fire_l1]
      rw [nlt_len, ifb_false]
      simp only [List.drop_length, List.append_nil]
      dsimp only [m_dine_Fire_j1]
      by_cases h1 : d.Phase = 1
      · rw [decide_eq_true h1, ifb_true]
        dsimp only [m_dine_Fire_j7]
        cases hall : (d.Sides.map (fire2 d.Phase)).all (·.Fork) with
        | false =>
          rw [ifb_false]
          unfold fireD
          rw [hall, Bool.and_false]
          rfl
        | true =>
          rw [ifb_true]
          generalize hS : d.Sides.map (fire2 d.Phase) = S at hall
          have hSl : S.length < 64 := by rw [← hS]; simpa using hl
          have k2 := loop_pre S (m_dine_Fire_l2 d S (d.Sides.flatMap (fireM d.ID d.Phase))) (fun pre => ((pre.length : Int), pre.map dirtyS ++ S.drop pre.length)) (⟨d.ID, 2, S.map dirtyS⟩, d.Sides.flatMap (fireM d.ID d.Phase), 0) (fun pre x post hp => ?_) ?_
          · have k3 : loop (m_dine_Fire_l2 d S (d.Sides.flatMap (fireM d.ID d.Phase))) (0, S) = some (⟨d.ID, 2, S.map dirtyS⟩, d.Sides.flatMap (fireM d.ID d.Phase), 0) := by simpa using k2
            rw [k3]
            unfold fireD
            rw [hS, hall, decide_eq_true h1]
            rfl
          · have hx := mid_get hp
            have hm := mid_len hp
            have hd : S.drop pre.length = x :: post := by rw [hp]; simp
            have hd' : S.drop (pre ++ [x]).length = post := by rw [hp]; simp
            dsimp only [m_dine_Fire_l2]
            have e1 : ((pre.length : Nat) : Int) = (((pre.map dirtyS).length : Nat) : Int) := by simp
            rw [lt_len hx, ifb_true, hd, hd', e1, at_mid rfl, Option.bind_some, set_mid, ← e1, len_snoc, wr_succ (by omega)]
            simp [dirtyS]
          · dsimp only [m_dine_Fire_l2]
            rw [nlt_len, ifb_false]
            simp [m_dine_Fire_j8]
      · rw [decide_eq_false h1, ifb_false]
        dsimp only [m_dine_Fire_j7]
        rw [ifb_false]
        unfold fireD
        rw [decide_eq_false h1, Bool.false_and]
        rfl
/-! Get -/
def getD' (d : Diner) (peer : Int) (m : Msg) : Diner × Int :=
  if okD d then match d.Sides.findIdx? (fun x => decide (x.Peer = peer) && decide (x.Epoch = m.Epoch)) with
    | none => (diner0, 131)
    | some i => match d.Sides[i]? with
      | none => (diner0, 131)
      | some x =>
        if decide (m.Kind = 1) && decide (m.Num = 0) then (if x.Fork then (diner0, 132) else (⟨d.ID, d.Phase, d.Sides.set i { x with Fork := true }⟩, 0))
        else if decide (m.Kind = 2) && decide (m.Num = 0) then (if x.Token then (diner0, 132) else (⟨d.ID, d.Phase, d.Sides.set i { x with Token := true }⟩, 0))
        else (diner0, 133)
  else (diner0, 130)
theorem s_Get (d : Diner) (peer : Int) (m : Msg) : m_dine_Get d peer m = some (getD' d peer m) := by
  simp only [m_dine_Get, s_dCheck, Option.bind_some, getD']
  cases h : okD d with
  | false => rfl
  | true =>
    have hl := okD_len h
    simp only [if_true, decide_true, Bool.not_true, ifb_false]
    rw [s_IndexFunc_Side d.Sides (fun z => m_dine_Get_1 z peer m) (fun x => decide (x.Peer = peer) && decide (x.Epoch = m.Epoch)) (by omega) (fun x _ => by
      simp only [m_dine_Get_1, m_dine_Get_1_j1]
      cases decide (x.Peer = peer) <;> rfl), Option.bind_some, plc_neg]
    have hfi := find_idx (fun x : Side => decide (x.Peer = peer) && decide (x.Epoch = m.Epoch)) d.Sides
    cases hf : d.Sides.findIdx? (fun x => decide (x.Peer = peer) && decide (x.Epoch = m.Epoch)) with
    | none => rfl
    | some i =>
      rw [hf] at hfi
      obtain ⟨x, hx, _⟩ := hfi
      simp only [Option.isNone_some, ifb_false, s_CloneSide d.Sides (by omega), Option.bind_some, plc, at_get hx, hx, Int.toNat_natCast, m_dine_Get_j1, m_dine_Get_j2, m_dine_Get_j3]
      by_cases k1 : m.Kind = 1
      · by_cases k2 : m.Num = 0
        · cases x.Fork <;> simp [k1, k2, diner0]
        · have : ¬ (1 : Int) = 2 := by omega
          simp [k1, k2, diner0]
      · by_cases k3 : m.Kind = 2
        · by_cases k2 : m.Num = 0
          · cases x.Token <;> simp [k3, k2, diner0]
          · simp [k3, k2, diner0]
        · simp [k1, k3, diner0]
end NX
end Go.Proofs.Ytadebhbiglmodaa
/-
  Plain laws: what always holds of a graph's scene. No statement of the seat is proved here.
-/
namespace Go.Proofs.Ytadebhbiglmodaa
namespace NX
open Go
/-! The graph of nodes is told by their ids and their sides' peers. -/
def key (d : Diner) : Int × List Int := (d.ID, d.Sides.map (·.Peer))
def sideK (K : List (Int × List Int)) (i : Nat) (p : Int) : Bool := decide (0 ≤ p) && (decide (p < K.length) && (!decide (p = i) && (match K[p.toNat]? with | some e => decide ((i : Int) ∈ e.2) | none => false)))
def okFromK (K : List (Int × List Int)) (i : Nat) : Option Int → List Int → Bool
  | _, [] => true
  | p, x :: r => (match p with | none => true | some q => decide (q < x)) && (sideK K i x && okFromK K i (some x) r)
def okAllK (K : List (Int × List Int)) : Nat → List (Int × List Int) → Bool
  | _, [] => true
  | i, d :: r => decide (d.1 = i) && (okFromK K i none d.2 && okAllK K (i + 1) r)
def edgesK : Nat → List (Int × List Int) → List Edge
  | _, [] => []
  | i, d :: r => ((d.2.filter fun x => decide ((i : Int) < x)).map fun x => ⟨i, x⟩) ++ edgesK (i + 1) r
theorem sideO_mem (d : Diner) (i : Int) : (sideO d i).isSome = decide (i ∈ d.Sides.map (·.Peer)) := by
  unfold sideO
  rw [Bool.eq_iff_iff, List.find?_isSome, decide_eq_true_iff, List.mem_map]
  simp
theorem sideB_key (l : List Diner) (i : Nat) (x : Side) : sideB l i x = sideK (l.map key) i x.Peer := by
  unfold sideB sideK
  rw [List.length_map, List.getElem?_map]
  cases l[x.Peer.toNat]? with
  | none => rfl
  | some e => simp only [Option.map_some, key, sideO_mem]
theorem okFrom_key (l : List Diner) (i : Nat) : ∀ (xs : List Side) (p : Option Int), okFrom l i p xs = okFromK (l.map key) i p (xs.map (·.Peer))
  | [], _ => rfl
  | x :: r, p => by
    simp only [okFrom, List.map_cons, okFromK, okFrom_key l i r, sideB_key]
    cases p <;> rfl
theorem okAll_key (l : List Diner) : ∀ (r : List Diner) (i : Nat), okAll l i r = okAllK (l.map key) i (r.map key)
  | [], _ => rfl
  | d :: r, i => by
    simp only [okAll, List.map_cons, okAllK, okAll_key l r, okFrom_key]
    rfl
theorem edgesL_key : ∀ (r : List Diner) (i : Nat), edgesL i r = edgesK i (r.map key)
  | [], _ => rfl
  | d :: r, i => by
    simp only [edgesL, List.map_cons, edgesK, edgesL_key r, edgesD, key, List.filter_map, List.map_map]
    rfl
theorem graphP_key {l m : List Diner} (h : l.map key = m.map key) : graphP l = graphP m := by
  have hl : l.length = m.length := by have := congrArg List.length h; simpa using this
  unfold graphP
  rw [okAll_key, okAll_key, edgesL_key, edgesL_key, h, hl]
/-! Lists of numbers that rise -/
theorem pw_len : ∀ (l : List Int) (q n : Int), l.Pairwise (· < ·) → (∀ x ∈ l, q ≤ x ∧ x < n) → l = [] ∨ (l.length : Int) ≤ n - q
  | [], _, _, _, _ => .inl rfl
  | x :: l, q, n, h, hb => by
    rw [List.pairwise_cons] at h
    have h1 := hb x (by simp)
    right
    rcases pw_len l (x + 1) n h.2 (fun y hy => ⟨by have := h.1 y hy; omega, (hb y (by simp [hy])).2⟩) with rfl | h2
    · simp only [List.length_cons, List.length_nil]; omega
    · simp only [List.length_cons]; omega
theorem near_few {g : Graph} (hg : okG g = true) (a : Int) : ((nearL g a).length : Int) ≤ g.N := by
  rcases pw_len (nearL g a) 0 g.N (nearL_pw hg a) (fun x hx => by have := near_range hg hx; omega) with h | h
  · rw [h]; exact (okG_parts hg).1
  · omega
/-! Counting -/
def has (x : Side) (k : Int) : Bool := if k = 1 then x.Fork else x.Token
def bn (b : Bool) : Nat := if b then 1 else 0
def hasD (d : Diner) (k b : Int) : Nat := match sideO d b with | some x => bn (has x k) | none => 0
def cnt (M : List Mail) (k a b : Int) : Nat := M.count ⟨a, b, ⟨k, 1, 0⟩⟩
/-- What holds of a node by itself. -/
structure LocD (d : Diner) : Prop where
  lo : 0 ≤ d.Phase
  hi : d.Phase ≤ 2
  side : ∀ x ∈ d.Sides, x.Epoch = 1 ∧ x.State = 0 ∧ (x.Dirty = true → x.Fork = true)
  eat : d.Phase = 2 → ∀ x ∈ d.Sides, x.Fork = true ∧ x.Dirty = true
def mailG (g : Graph) (m : Mail) : Prop := (m.Msg.Kind = 1 ∨ m.Msg.Kind = 2) ∧ m.Msg.Epoch = 1 ∧ m.Msg.Num = 0 ∧ m.To ∈ nearL g m.From
/-- What always holds. -/
structure Inv (g : Graph) (s : Scene) : Prop where
  len : (s.Diners.length : Int) = g.N
  shp : ∀ (a : Nat) d, s.Diners[a]? = some d → d.ID = a ∧ d.Sides.map (·.Peer) = nearL g a
  loc : ∀ d ∈ s.Diners, LocD d
  mail : ∀ m ∈ s.Mail, mailG g m
  one : ∀ (a b : Nat) da db, s.Diners[a]? = some da → s.Diners[b]? = some db → (b : Int) ∈ nearL g a → ∀ k, (k = 1 ∨ k = 2) → hasD da k b + hasD db k a + cnt s.Mail k a b + cnt s.Mail k b a = 1
theorem Inv.set {g : Graph} {s : Scene} (hg : okG g = true) (h : Inv g s) {a : Nat} {d d' : Diner} (hd : s.Diners[a]? = some d) (hid : d'.ID = d.ID) (hp : d'.Sides.map (·.Peer) = d.Sides.map (·.Peer)) (hl : LocD d')
    {M : List Mail} (hm : ∀ m ∈ M, mailG g m) (ho : ∀ k p q : Int, p ≠ a → q ≠ a → cnt M k p q = cnt s.Mail k p q)
    (hc : ∀ b ∈ nearL g a, ∀ k, (k = 1 ∨ k = 2) → hasD d' k b + cnt M k a b + cnt M k b a = hasD d k b + cnt s.Mail k a b + cnt s.Mail k b a) : Inv g ⟨s.Diners.set a d', M⟩ := by
  have hlt := (List.getElem?_eq_some_iff.1 hd).1
  have get : ∀ (k : Nat) e, (s.Diners.set a d')[k]? = some e → (k = a ∧ e = d') ∨ (k ≠ a ∧ s.Diners[k]? = some e) := fun k e he => by
    rw [List.getElem?_set] at he
    split at he
    · rename_i hk
      simp at he
      exact .inl ⟨hk.symm, he.symm⟩
    · rename_i hk
      exact .inr ⟨fun e => hk e.symm, he⟩
  refine ⟨by simpa using h.len, fun k e he => ?_, fun e he => ?_, hm, fun x y dx dy hx hy hxy k hk => ?_⟩
  · rcases get k e he with ⟨rfl, rfl⟩ | ⟨_, he⟩
    · rw [hid, hp]; exact h.shp k d hd
    · exact h.shp k e he
  · obtain ⟨k, hk⟩ := List.mem_iff_getElem?.1 he
    rcases get k e hk with ⟨_, rfl⟩ | ⟨_, he⟩
    · exact hl
    · exact h.loc e (List.mem_iff_getElem?.2 ⟨_, he⟩)
  · dsimp only at hx hy ⊢
    have hne := (near_range hg hxy).2.2.1
    have hyx := near_symm hg hxy
    rcases get x dx hx with ⟨rfl, rfl⟩ | ⟨x1, hx'⟩ <;> rcases get y dy hy with ⟨rfl, rfl⟩ | ⟨y1, hy'⟩
    · exact absurd rfl hne
    · have := hc y hxy k hk
      have := h.one x y d dy hd hy' hxy k hk
      omega
    · have := hc x hyx k hk
      have := h.one x y dx d hx' hd hxy k hk
      omega
    · rw [ho k x y (by omega) (by omega), ho k y x (by omega) (by omega)]
      exact h.one x y dx dy hx' hy' hxy k hk
/-! What goes out -/
theorem fire2_peer (ph : Int) (x : Side) : (fire2 ph x).Peer = x.Peer ∧ (fire2 ph x).Epoch = x.Epoch ∧ (fire2 ph x).State = x.State := by
  unfold fire2 fire1
  split <;> split <;> exact ⟨rfl, rfl, rfl⟩
theorem fire2_dirty (ph : Int) (x : Side) (h : x.Dirty = true → x.Fork = true) : (fire2 ph x).Dirty = true → (fire2 ph x).Fork = true := by
  unfold fire2 fire1
  split <;> split <;> simp_all
theorem fire2_eats (x : Side) : fire2 2 x = x := by
  unfold fire2 fire1
  simp
theorem fire_side (id ph k : Int) (x : Side) (hk : k = 1 ∨ k = 2) (he : x.Epoch = 1) : bn (has (fire2 ph x) k) + (fireM id ph x).count ⟨id, x.Peer, ⟨k, 1, 0⟩⟩ = bn (has x k) := by
  obtain ⟨p, e, st, f, d, t, bo, ask⟩ := x
  dsimp only at he
  subst he
  unfold fireM fire2 fire1 has bn
  generalize h1 : decide (ph = 1) = q1
  generalize h2 : decide (ph = 2) = q2
  rcases hk with rfl | rfl <;> cases f <;> cases d <;> cases t <;> cases q1 <;> cases q2 <;> simp
theorem fireM_from {id ph : Int} {x : Side} {m : Mail} (h : m ∈ fireM id ph x) : m.From = id ∧ m.To = x.Peer ∧ (m.Msg.Kind = 1 ∨ m.Msg.Kind = 2) ∧ m.Msg.Epoch = x.Epoch ∧ m.Msg.Num = 0 := by
  unfold fireM at h
  rw [List.mem_append] at h
  rcases h with h | h
  · split at h
    · simp at h; subst h; exact ⟨rfl, rfl, .inl rfl, rfl, rfl⟩
    · simp at h
  · split at h
    · simp at h; subst h; exact ⟨rfl, rfl, .inr rfl, rfl, rfl⟩
    · simp at h
theorem count_zero {M : List Mail} {m : Mail} (h : m ∉ M) : M.count m = 0 := List.count_eq_zero.2 h
theorem fireMs_count (id ph k b : Int) : ∀ (l : List Side), l.Pairwise (fun x y => x.Peer < y.Peer) → (l.flatMap (fireM id ph)).count ⟨id, b, ⟨k, 1, 0⟩⟩ = match l.find? (fun x => decide (x.Peer = b)) with | some x => (fireM id ph x).count ⟨id, x.Peer, ⟨k, 1, 0⟩⟩ | none => 0
  | [], _ => rfl
  | x :: l, h => by
    rw [List.pairwise_cons] at h
    rw [List.flatMap_cons, List.count_append, fireMs_count id ph k b l h.2, List.find?_cons]
    by_cases hx : x.Peer = b
    · have : l.find? (fun x => decide (x.Peer = b)) = none := by
        rw [List.find?_eq_none]
        intro y hy
        have := h.1 y hy
        simp; omega
      rw [this, decide_eq_true hx, ← hx]; simp
    · rw [decide_eq_false hx, count_zero (fun hm => hx (fireM_from hm).2.1.symm)]; simp
theorem fireMs_other {d : Diner} {k p q : Int} (hp : p ≠ d.ID) : (fireMs d).count ⟨p, q, ⟨k, 1, 0⟩⟩ = 0 := by
  refine count_zero fun h => ?_
  obtain ⟨x, _, hx⟩ := List.mem_flatMap.1 h
  exact hp (fireM_from hx).1
/-- The sides of a node behind 'Fire'. -/
def fire3 (d : Diner) (x : Side) : Side := if decide (d.Phase = 1) && (d.Sides.map (fire2 d.Phase)).all (·.Fork) then dirtyS (fire2 d.Phase x) else fire2 d.Phase x
theorem fireD_sides (d : Diner) : (fireD d).Sides = d.Sides.map (fire3 d) := by
  unfold fireD fire3
  split
  · simp only [List.map_map]; rfl
  · rfl
theorem fireD_id (d : Diner) : (fireD d).ID = d.ID := by unfold fireD; split <;> rfl
theorem fire3_peer (d : Diner) (x : Side) : (fire3 d x).Peer = x.Peer ∧ (fire3 d x).Epoch = x.Epoch ∧ (fire3 d x).State = x.State ∧ ∀ k, has (fire3 d x) k = has (fire2 d.Phase x) k := by
  obtain ⟨h1, h2, h3⟩ := fire2_peer d.Phase x
  unfold fire3
  split
  · exact ⟨h1, h2, h3, fun k => rfl⟩
  · exact ⟨h1, h2, h3, fun k => rfl⟩
theorem sideO_map (d : Diner) (f : Side → Side) (hf : ∀ x, (f x).Peer = x.Peer) (i p b : Int) : sideO ⟨i, p, d.Sides.map f⟩ b = (sideO d b).map f := by
  unfold sideO
  dsimp only
  rw [List.find?_map]
  congr 2
  funext x
  simp only [Function.comp, hf]
theorem sideO_fire (d : Diner) (b : Int) : sideO (fireD d) b = (sideO d b).map (fire3 d) := by
  have := sideO_map d (fire3 d) (fun x => (fire3_peer d x).1) (fireD d).ID (fireD d).Phase b
  rw [← fireD_sides] at this
  exact this
theorem sideO_some {d : Diner} {b : Int} {x : Side} (h : sideO d b = some x) : x ∈ d.Sides ∧ x.Peer = b := by
  unfold sideO at h
  exact ⟨List.mem_of_find?_eq_some h, by simpa using List.find?_some h⟩
theorem LocD.fire {d : Diner} (h : LocD d) : LocD (fireD d) := by
  have hs : ∀ y ∈ (fireD d).Sides, ∃ x ∈ d.Sides, y = fire3 d x := fun y hy => by
    rw [fireD_sides] at hy
    obtain ⟨x, hx, rfl⟩ := List.mem_map.1 hy
    exact ⟨x, hx, rfl⟩
  have hph : (fireD d).Phase = 2 → (decide (d.Phase = 1) && (d.Sides.map (fire2 d.Phase)).all (·.Fork)) = true ∨ d.Phase = 2 := fun h2 => by
    unfold fireD at h2
    split at h2
    · rename_i h1; exact .inl h1
    · exact .inr h2
  have allF : (decide (d.Phase = 1) && (d.Sides.map (fire2 d.Phase)).all (·.Fork)) = true → ∀ x ∈ d.Sides, (fire2 d.Phase x).Fork = true := fun h1 x hx => by
    rw [Bool.and_eq_true, List.all_eq_true] at h1
    exact h1.2 _ (List.mem_map_of_mem hx)
  refine ⟨?_, ?_, fun y hy => ?_, fun h2 y hy => ?_⟩
  · unfold fireD; split
    · show (0 : Int) ≤ 2; omega
    · exact h.lo
  · unfold fireD; split
    · exact Int.le_refl _
    · exact h.hi
  · obtain ⟨x, hx, rfl⟩ := hs y hy
    obtain ⟨s1, s2, s3⟩ := h.side x hx
    obtain ⟨p1, p2, p3, _⟩ := fire3_peer d x
    refine ⟨by rw [p2, s1], by rw [p3, s2], ?_⟩
    unfold fire3
    split
    · rename_i h1; exact fun _ => allF h1 x hx
    · exact fire2_dirty _ _ s3
  · obtain ⟨x, hx, rfl⟩ := hs y hy
    rcases hph h2 with h1 | h1
    · unfold fire3
      rw [if_pos h1]
      exact ⟨allF h1 x hx, rfl⟩
    · unfold fire3
      rw [h1, show (decide ((2 : Int) = 1) && (d.Sides.map (fire2 2)).all (·.Fork)) = false from rfl, if_neg (by simp), fire2_eats]
      exact h.eat h1 x hx
theorem Inv.pw {g : Graph} {s : Scene} (hg : okG g = true) (h : Inv g s) {a : Nat} {d : Diner} (hd : s.Diners[a]? = some d) : d.Sides.Pairwise fun x y => x.Peer < y.Peer := by
  have := nearL_pw hg a
  rw [← (h.shp a d hd).2, List.pairwise_map] at this
  exact this
theorem Inv.fire {g : Graph} {s : Scene} (hg : okG g = true) (h : Inv g s) {a : Nat} {d : Diner} (hd : s.Diners[a]? = some d) : Inv g ⟨s.Diners.set a (fireD d), s.Mail ++ fireMs d⟩ := by
  obtain ⟨hid, hsh⟩ := h.shp a d hd
  have hdm := List.mem_iff_getElem?.2 ⟨_, hd⟩
  have hloc := h.loc d hdm
  refine h.set hg hd (fireD_id d) ?_ hloc.fire (fun m hm => ?_) (fun k p q hp hq => ?_) (fun b hb k hk => ?_)
  · rw [fireD_sides, List.map_map]
    refine List.map_congr_left fun x _ => (fire3_peer d x).1
  · rcases List.mem_append.1 hm with hm | hm
    · exact h.mail m hm
    · obtain ⟨x, hx, hxm⟩ := List.mem_flatMap.1 hm
      obtain ⟨m1, m2, m3, m4, m5⟩ := fireM_from hxm
      refine ⟨m3, by rw [m4]; exact (hloc.side x hx).1, m5, ?_⟩
      rw [m1, m2, hid, ← hsh]
      exact List.mem_map_of_mem hx
  · unfold cnt
    rw [List.count_append, fireMs_other (by rw [hid]; exact hp)]
    rfl
  · have hne := (near_range hg hb).2.2.1
    unfold cnt
    rw [List.count_append, List.count_append, fireMs_other (p := b) (by rw [hid]; exact hne)]
    have e := fireMs_count d.ID d.Phase k b d.Sides (h.pw hg hd)
    rw [hid] at e
    unfold fireMs
    rw [hid, e]
    unfold hasD
    rw [sideO_fire]
    unfold sideO
    cases hf : d.Sides.find? (fun x => decide (x.Peer = b)) with
    | none => simp
    | some x =>
      have hx := List.mem_of_find?_eq_some hf
      have := fire_side (a : Int) d.Phase k x hk (hloc.side x hx).1
      have h3 := (fire3_peer d x).2.2.2 k
      simp only [Option.map_some, h3]
      omega
end NX
end Go.Proofs.Ytadebhbiglmodaa
/-
  The function narthex/table.Check$1: its code compiled, a model, and that the code answers as the model. Written by a program of ours (lb.py). No statement of the seat is proved here.
-/
namespace Go.Proofs.Ytadebhbiglmodaa
namespace NX
open Go
set_option maxRecDepth 100000
set_option maxHeartbeats 4000000
def e101 : EC := .seq (.reg [⟨(some 2), none, .box 97 5 (.t 0)⟩, ⟨(some 3), none, .mv (.c .ff)⟩]) (.seq (.reg [⟨(some 4), none, .fld 0 (.t 2)⟩, ⟨(some 5), none, .load (.t 4)⟩, ⟨(some 6), none, .fld 1 (.t 2)⟩, ⟨(some 7), none, .load (.t 6)⟩, ⟨(some 8), none, .mm false [(.t 5), (.t 7)]⟩, ⟨(some 9), none, .bin .lss (.t 8) (.c (.iv 0))⟩, ⟨(some 10), none, .mv (.t 9)⟩, ⟨(some 11), (some (10, false)), .fld 0 (.t 2)⟩, ⟨(some 12), (some (10, false)), .load (.t 11)⟩, ⟨(some 13), (some (10, false)), .fld 1 (.t 2)⟩, ⟨(some 14), (some (10, false)), .load (.t 13)⟩, ⟨(some 15), (some (10, false)), .mm true [(.t 12), (.t 14)]⟩, ⟨(some 16), (some (10, false)), .fld 0 (.t 1)⟩, ⟨(some 17), (some (10, false)), .load (.t 16)⟩, ⟨(some 18), (some (10, false)), .len (.t 17)⟩, ⟨(some 19), (some (10, false)), .bin .geq (.t 15) (.t 18)⟩, ⟨(some 20), none, .pick (.t 10) (.c .tt) (.t 19)⟩, ⟨(some 21), none, .mv (.t 20)⟩, ⟨(some 22), (some (21, false)), .fld 0 (.t 2)⟩, ⟨(some 23), (some (21, false)), .load (.t 22)⟩, ⟨(some 24), (some (21, false)), .fld 1 (.t 2)⟩, ⟨(some 25), (some (21, false)), .load (.t 24)⟩, ⟨(some 26), (some (21, false)), .bin .eql (.t 23) (.t 25)⟩, ⟨(some 27), none, .pick (.t 21) (.c .tt) (.t 26)⟩, ⟨(some 3), none, .mv (.t 27)⟩]) (.ret))
theorem ok101 : FnOK Try.prog 101 Try.f101 e101 [.t 3] 2 26 := ⟨by kernel_rfl, ⟨_, rfl, by kernel_rfl⟩, by kernel_rfl, by kernel_rfl⟩
/- narthex/table.Check$1 -/
noncomputable def m_table_Check_1_j1  : Bool → Option Bool
| x3 =>
 some x3
noncomputable def m_table_Check_1 (x1 : Mail) (x2 : Scene) : Option Bool :=
 ifb (decide (((min x1.From x1.To)) < 0)) (
 m_table_Check_1_j1 true) (
 ifb (decide ((ln Diner.row x2.Diners) ≤ ((max x1.From x1.To)))) (
 m_table_Check_1_j1 true) (
 m_table_Check_1_j1 (decide (x1.From = x1.To))))
theorem k_table_Check_1 (x1 : Mail) (x2 : Scene) (r : Bool) (h : m_table_Check_1 x1 x2 = some r) : FunP Try.prog 101 [.agg (Mail.row x1), .elt (Scene.row x2) 0] (.bv r) := by
  refine FunP_intro ok101 rfl rfl fun w0 H0 => ?_
  rw [m_table_Check_1] at h
  refine V_go 14 ?_; dsimp only [e101, go_sem, Nat.reduceBEq, Nat.reduceAdd]; refine ⟨by simp, ?_⟩; refine V_join (fun (x3 : Bool) => (⟨(an 3 (.bv x3 :: an 24 [])), [], []⟩ : St)) m_table_Check_1_j1 r ?_ fun J1 => ?_
  ·intro x3 h; rw [m_table_Check_1_j1] at h; (try dsimp only); exact M_done (res := fun (r : Bool) => .bv r) ok101 h
  ·refine M_case 10 h rfl (fun _ h => ?_) fun _ h => ?_
   ·dsimp only [go_sem, Nat.reduceBEq, Nat.reduceAdd]; refine V_go 19 ?_; dsimp only [e101, go_sem, Nat.reduceBEq, Nat.reduceAdd]; refine ⟨by simp, ?_⟩; exact M_to J1 (s := true) h
   ·dsimp only [go_sem, Nat.reduceBEq, Nat.reduceAdd]; refine V_go 11 ?_; dsimp only [e101, go_sem, Nat.reduceBEq, Nat.reduceAdd]; refine ⟨by simp, ?_⟩; refine M_case 21 h rfl (fun _ h => ?_) fun _ h => ?_
    ·dsimp only [go_sem, Nat.reduceBEq, Nat.reduceAdd]; refine V_go 8 ?_; dsimp only [e101, go_sem, Nat.reduceBEq, Nat.reduceAdd]; refine ⟨by simp, ?_⟩; exact M_to J1 (s := true) h
    ·dsimp only [go_sem, Nat.reduceBEq, Nat.reduceAdd]; refine V_go 8 ?_; dsimp only [e101, go_sem, Nat.reduceBEq, Nat.reduceAdd]; refine ⟨by simp, ?_⟩; exact M_to J1 (s := decide (x1.From = x1.To)) h
def f_table_Check_1_j1 (_F : Nat)  : Bool → Option Bool
| x3 =>
 some x3
theorem le_table_Check_1_j1 {F : Nat} : ∀ s, ole (f_table_Check_1_j1 F s) (m_table_Check_1_j1 s) := by
  intro x3
  unfold f_table_Check_1_j1 m_table_Check_1_j1
  try dsimp only
  with_reducible repeat' first | exact ole_refl _ | assumption | intro _ | refine ole_ifb ?_ ?_ | refine ole_bind ?_ ?_ | refine ole_map ?_ | refine ole_loop ?_
def f_table_Check_1 (F : Nat) (x1 : Mail) (x2 : Scene) : Option Bool :=
 ifb (decide (((min x1.From x1.To)) < 0)) (
 f_table_Check_1_j1 F true) (
 ifb (decide ((ln Diner.row x2.Diners) ≤ ((max x1.From x1.To)))) (
 f_table_Check_1_j1 F true) (
 f_table_Check_1_j1 F (decide (x1.From = x1.To))))
theorem le_table_Check_1 {F : Nat} {x1 : Mail} {x2 : Scene} : ole (f_table_Check_1 F x1 x2) (m_table_Check_1 x1 x2) := by
  unfold f_table_Check_1 m_table_Check_1
  with_reducible repeat' first | exact ole_refl _ | assumption | intro _ | refine ole_ifb ?_ ?_ | refine ole_bind ?_ ?_ | refine ole_map ?_ | refine ole_loop ?_ | apply le_table_Check_1_j1
end NX
end Go.Proofs.Ytadebhbiglmodaa
/-
  The function narthex/table.Check$2: its code compiled, a model, and that the code answers as the model. Written by a program of ours (lb.py). No statement of the seat is proved here.
-/
namespace Go.Proofs.Ytadebhbiglmodaa
namespace NX
open Go
set_option maxRecDepth 100000
set_option maxHeartbeats 4000000
def e102 : EC := .seq (.reg [⟨(some 1), none, .box 39 3 (.t 0)⟩, ⟨(some 2), none, .mv (.c .ff)⟩]) (.seq (.reg [⟨(some 3), none, .loadA 3 (.t 1)⟩, ⟨(some 4), none, .call 103 [(.t 3)]⟩, ⟨(some 5), none, .bin .neq (.t 4) (.c (.iv 0))⟩, ⟨(some 2), none, .mv (.t 5)⟩]) (.ret))
theorem ok102 : FnOK Try.prog 102 Try.f102 e102 [.t 2] 1 5 := ⟨by kernel_rfl, ⟨_, rfl, by kernel_rfl⟩, by kernel_rfl, by kernel_rfl⟩
/- narthex/table.Check$2 -/
noncomputable def m_table_Check_2 (x1 : Diner) : Option Bool :=
 (m_dine_Check x1).bind fun x2 =>
 some (!decide (x2 = 0))
theorem k_table_Check_2 (x1 : Diner) (r : Bool) (h : m_table_Check_2 x1 = some r) : FunP Try.prog 102 [.agg (Diner.row x1)] (.bv r) := by
  refine FunP_intro ok102 rfl rfl fun w0 H0 => ?_
  rw [m_table_Check_2] at h
  refine V_go 8 ?_; dsimp only [e102, go_sem, Nat.reduceBEq, Nat.reduceAdd]; refine ⟨by simp, ?_⟩; obtain ⟨x2, ex2, h⟩ := Option.bind_eq_some_iff.1 h; refine V_call trivial (k_dine_Check x1 _ ex2) (h := ?_); refine V_go 3 ?_; dsimp only [e102, go_sem, Nat.reduceBEq, Nat.reduceAdd]; refine ⟨by simp, ?_⟩; exact M_done (res := fun (r : Bool) => .bv r) ok102 h
def f_table_Check_2 (F : Nat) (x1 : Diner) : Option Bool :=
 (f_dine_Check F x1).bind fun x2 =>
 some (!decide (x2 = 0))
theorem le_table_Check_2 {F : Nat} {x1 : Diner} : ole (f_table_Check_2 F x1) (m_table_Check_2 x1) := by
  unfold f_table_Check_2 m_table_Check_2
  with_reducible repeat' first | exact ole_refl _ | assumption | intro _ | refine ole_ifb ?_ ?_ | refine ole_bind ?_ ?_ | refine ole_map ?_ | refine ole_loop ?_ | apply le_dine_Check
end NX
end Go.Proofs.Ytadebhbiglmodaa
/-
  The function slices.IndexFunc[[]narthex/api.Diner,narthex/api.Diner]: its code compiled, a model, and that the code answers as the model. Written by a program of ours (lb.py). No statement of the seat is proved here.
-/
namespace Go.Proofs.Ytadebhbiglmodaa
namespace NX
open Go
set_option maxRecDepth 100000
set_option maxHeartbeats 4000000
def e125_L0 : EC := .seq (.reg [⟨(some 9), none, .bin .lss (.t 8) (.t 7)⟩]) (.seq (.ite (.t 9) (.skip) (.exit 0)) (.seq (.blk 1 (.seq (.reg [⟨(some 10), none, .mv (.t 8)⟩, ⟨(some 5), none, .mv (.t 10)⟩]) (.seq (.reg [⟨(some 11), none, .mv (.t 1)⟩, ⟨(some 12), none, .mv (.t 0)⟩, ⟨(some 13), none, .mv (.t 5)⟩, ⟨(some 14), none, .idx 3 (.t 12) (.t 13)⟩, ⟨(some 15), none, .loadA 3 (.t 14)⟩, ⟨(some 16), none, .callv (.t 11) [(.t 15)]⟩]) (.ite (.t 16) (.seq (.reg [⟨(some 17), none, .mv (.t 5)⟩, ⟨(some 4), none, .mv (.t 17)⟩]) (.ret)) (.skip))))) (.reg [⟨(some 18), none, .bin .add (.t 8) (.c (.iv 1))⟩, ⟨(some 8), none, .mv (.t 18)⟩])))
def e125 : EC := .seq (.reg [⟨(some 4), none, .mv (.c (.iv 0))⟩]) (.seq (.seq (.reg [⟨(some 6), none, .mv (.t 0)⟩, ⟨(some 7), none, .len (.t 6)⟩, ⟨(some 8), none, .mv (.c (.iv 0))⟩]) (.blk 0 (.loop e125_L0))) (.seq (.reg [⟨(some 4), none, .mv (.c (.iv (-1)))⟩]) (.ret)))
theorem ok125 : FnOK Try.prog 125 Try.f125 e125 [.t 4] 2 17 := ⟨by kernel_rfl, ⟨_, rfl, by kernel_rfl⟩, by kernel_rfl, by kernel_rfl⟩
/- slices.IndexFunc[[]narthex/api.Diner,narthex/api.Diner] -/
noncomputable def m_slices_IndexFunc_Diner_j1  : Unit → Option Int
| () =>
 some (-1)
noncomputable def m_slices_IndexFunc_Diner_l1 (x1 : (List Diner)) (p1 : (Diner → Option Bool)) : Int → Option (Int ⊕ Int)
| x5 =>
 ifb (decide (x5 < (ln Diner.row x1))) (
 (at_ x1 x5).bind fun x6 =>
 (p1 x6).bind fun x7 =>
 ifb x7 (
 Option.map Sum.inr (some x5)) (
 some (.inl (wr (x5 + 1))))) (
 Option.map Sum.inr (m_slices_IndexFunc_Diner_j1 ()))
noncomputable def m_slices_IndexFunc_Diner (x1 : (List Diner)) (p1 : (Diner → Option Bool)) : Option Int :=
 loop (m_slices_IndexFunc_Diner_l1 x1 p1) 0
theorem k_slices_IndexFunc_Diner (x1 : (List Diner)) (g1 : Nat) (caps1 : List AV) (p1 : (Diner → Option Bool)) (hc1 : CloOK Try.prog g1 caps1 (fun z => [.agg (Diner.row z)]) p1 (fun z => .bv z)) (r : Int) (h : m_slices_IndexFunc_Diner x1 p1 = some r) : FunP Try.prog 125 [.sl 3 (List.map Diner.row x1), .clo g1 caps1] (.iv r) := by
  refine FunP_intro ok125 rfl rfl fun w0 H0 => ?_
  rw [m_slices_IndexFunc_Diner] at h
  refine V_go 11 ?_; dsimp only [e125, e125_L0, go_sem, Nat.reduceBEq, Nat.reduceAdd]; refine ⟨by simp, ?_⟩; refine V_join (fun (_ : Unit) => (⟨(an 19 []), [], []⟩ : St)) m_slices_IndexFunc_Diner_j1 r ?_ fun J1 => ?_
  ·rintro ⟨⟩ h; rw [m_slices_IndexFunc_Diner_j1] at h; (try dsimp only); refine V_go 4 ?_; dsimp only [e125, e125_L0, go_sem, Nat.reduceBEq, Nat.reduceAdd]; refine ⟨by simp, ?_⟩; exact M_done (res := fun (r : Int) => .iv r) ok125 h
  ·refine V_go 1 ?_; dsimp only [e125, e125_L0, go_sem, Nat.reduceBEq, Nat.reduceAdd]; refine ⟨by simp, ?_⟩; refine M_loop h (fun (x5 : Int) => (⟨(.sl 3 (List.map Diner.row x1) :: .clo g1 caps1 :: an 5 (.iv (ln Diner.row x1) :: .iv x5 :: an 10 [])), [], []⟩ : St)) (by simp [go_sem]) (by intro x5; first | rfl | simp [go_sem, puL_ok _ hc1.pu]) ?_; rintro n1 x5 y1 h hin1 hout1; rw [m_slices_IndexFunc_Diner_l1] at h; (try dsimp only); refine V_go 5 ?_; dsimp only [e125, e125_L0, go_sem, Nat.reduceBEq, Nat.reduceAdd]; refine ⟨by simp, ?_⟩; refine M_ite h rfl (fun _ h => ?_) fun _ h => ?_
   ·refine V_go 13 ?_; dsimp only [e125, e125_L0, go_sem, Nat.reduceBEq, Nat.reduceAdd]; refine ⟨by simp, ?_⟩; obtain ⟨x6, ex6, h⟩ := Option.bind_eq_some_iff.1 h; refine V_idxM Diner.row ex6 trivial rfl rfl rfl ?_; refine V_go 1 ?_; dsimp only [e125, e125_L0, go_sem, Nat.reduceBEq, Nat.reduceAdd]; refine ⟨by simp, ?_⟩; obtain ⟨x7, ex7, h⟩ := Option.bind_eq_some_iff.1 h; refine V_callp trivial rfl hc1 (x := x6) ex7 (by first | exact leL_refl _ | simp [go_sem]) (by first | rfl | simp [go_sem, hc1.pu]) ?_; refine V_go 1 ?_; dsimp only [e125, e125_L0, go_sem, Nat.reduceBEq, Nat.reduceAdd]
    refine ⟨by simp, ?_⟩; refine M_ite h rfl (fun _ h => ?_) fun _ h => ?_
    ·refine V_go 5 ?_; dsimp only [e125, e125_L0, go_sem, Nat.reduceBEq, Nat.reduceAdd]; refine ⟨by simp, ?_⟩; exact M_done (res := fun (r : Int) => .iv r) ok125 (M_out h hout1)
    ·refine V_go 6 ?_; dsimp only [e125, e125_L0, go_sem, Nat.reduceBEq, Nat.reduceAdd]; refine ⟨by simp, ?_⟩; exact M_back h hin1 (hok := by first | rfl | simp [go_sem, puL_ok _ hc1.pu])
   ·refine V_go 1 ?_; dsimp only [e125, e125_L0, go_sem, Nat.reduceBEq, Nat.reduceAdd]; refine ⟨by simp, ?_⟩; exact M_to J1 (s := ()) (M_out h hout1) (hok := by first | rfl | simp [go_sem, puL_ok _ hc1.pu])
def f_slices_IndexFunc_Diner_j1 (_F : Nat)  : Unit → Option Int
| () =>
 some (-1)
theorem le_slices_IndexFunc_Diner_j1 {F : Nat} : ∀ s, ole (f_slices_IndexFunc_Diner_j1 F s) (m_slices_IndexFunc_Diner_j1 s) := by
  rintro ⟨⟩
  unfold f_slices_IndexFunc_Diner_j1 m_slices_IndexFunc_Diner_j1
  try dsimp only
  with_reducible repeat' first | exact ole_refl _ | assumption | intro _ | refine ole_ifb ?_ ?_ | refine ole_bind ?_ ?_ | refine ole_map ?_ | refine ole_loop ?_ | apply h_p1
def f_slices_IndexFunc_Diner_l1 (F : Nat) (x1 : (List Diner)) (p1 : (Diner → Option Bool)) : Int → Option (Int ⊕ Int)
| x5 =>
 ifb (decide (x5 < (ln Diner.row x1))) (
 (at_ x1 x5).bind fun x6 =>
 (p1 x6).bind fun x7 =>
 ifb x7 (
 Option.map Sum.inr (some x5)) (
 some (.inl (wr (x5 + 1))))) (
 Option.map Sum.inr (f_slices_IndexFunc_Diner_j1 F ()))
theorem le_slices_IndexFunc_Diner_l1 {F : Nat} {x1 : (List Diner)} {p1 q1 : (Diner → Option Bool)} (h_p1 : ∀ z, ole (p1 z) (q1 z)) : ∀ s, ole (f_slices_IndexFunc_Diner_l1 F x1 p1 s) (m_slices_IndexFunc_Diner_l1 x1 q1 s) := by
  intro x5
  unfold f_slices_IndexFunc_Diner_l1 m_slices_IndexFunc_Diner_l1
  try dsimp only
  with_reducible repeat' first | exact ole_refl _ | assumption | intro _ | refine ole_ifb ?_ ?_ | refine ole_bind ?_ ?_ | refine ole_map ?_ | refine ole_loop ?_ | apply le_slices_IndexFunc_Diner_j1 | apply h_p1
def f_slices_IndexFunc_Diner (F : Nat) (x1 : (List Diner)) (p1 : (Diner → Option Bool)) : Option Int :=
 loopF F (f_slices_IndexFunc_Diner_l1 F x1 p1) 0
theorem le_slices_IndexFunc_Diner {F : Nat} {x1 : (List Diner)} {p1 q1 : (Diner → Option Bool)} (h_p1 : ∀ z, ole (p1 z) (q1 z)) : ole (f_slices_IndexFunc_Diner F x1 p1) (m_slices_IndexFunc_Diner x1 q1) := by
  unfold f_slices_IndexFunc_Diner m_slices_IndexFunc_Diner
  with_reducible repeat' first | exact ole_refl _ | assumption | intro _ | refine ole_ifb ?_ ?_ | refine ole_bind ?_ ?_ | refine ole_map ?_ | refine ole_loop ?_ | apply le_slices_IndexFunc_Diner_j1 | apply le_slices_IndexFunc_Diner_l1 | apply h_p1
end NX
end Go.Proofs.Ytadebhbiglmodaa
/-
  The function slices.ContainsFunc[[]narthex/api.Diner,narthex/api.Diner]: its code compiled, a model, and that the code answers as the model. Written by a program of ours (lb.py). No statement of the seat is proved here.
-/
namespace Go.Proofs.Ytadebhbiglmodaa
namespace NX
open Go
set_option maxRecDepth 100000
set_option maxHeartbeats 4000000
def e104 : EC := .seq (.reg [⟨(some 4), none, .mv (.c .ff)⟩]) (.seq (.reg [⟨(some 5), none, .mv (.t 0)⟩, ⟨(some 6), none, .mv (.t 1)⟩, ⟨(some 7), none, .call 125 [(.t 5), (.t 6)]⟩, ⟨(some 8), none, .bin .geq (.t 7) (.c (.iv 0))⟩, ⟨(some 4), none, .mv (.t 8)⟩]) (.ret))
theorem ok104 : FnOK Try.prog 104 Try.f104 e104 [.t 4] 2 7 := ⟨by kernel_rfl, ⟨_, rfl, by kernel_rfl⟩, by kernel_rfl, by kernel_rfl⟩
/- slices.ContainsFunc[[]narthex/api.Diner,narthex/api.Diner] -/
noncomputable def m_slices_ContainsFunc_Diner (x1 : (List Diner)) (p1 : (Diner → Option Bool)) : Option Bool :=
 (m_slices_IndexFunc_Diner x1 p1).bind fun x2 =>
 some (decide (0 ≤ x2))
theorem k_slices_ContainsFunc_Diner (x1 : (List Diner)) (g1 : Nat) (caps1 : List AV) (p1 : (Diner → Option Bool)) (hc1 : CloOK Try.prog g1 caps1 (fun z => [.agg (Diner.row z)]) p1 (fun z => .bv z)) (r : Bool) (h : m_slices_ContainsFunc_Diner x1 p1 = some r) : FunP Try.prog 104 [.sl 3 (List.map Diner.row x1), .clo g1 caps1] (.bv r) := by
  refine FunP_intro ok104 rfl rfl fun w0 H0 => ?_
  rw [m_slices_ContainsFunc_Diner] at h
  refine V_go 8 ?_; dsimp only [e104, go_sem, Nat.reduceBEq, Nat.reduceAdd]; refine ⟨by simp, ?_⟩; obtain ⟨x2, ex2, h⟩ := Option.bind_eq_some_iff.1 h; refine V_call trivial (k_slices_IndexFunc_Diner x1 _ _ p1 hc1 _ ex2) (hp := (by first | rfl | simp [go_sem, hc1.pu])) (h := ?_); refine V_go 3 ?_; dsimp only [e104, go_sem, Nat.reduceBEq, Nat.reduceAdd]; refine ⟨by simp, ?_⟩; exact M_done (res := fun (r : Bool) => .bv r) ok104 h
def f_slices_ContainsFunc_Diner (F : Nat) (x1 : (List Diner)) (p1 : (Diner → Option Bool)) : Option Bool :=
 (f_slices_IndexFunc_Diner F x1 p1).bind fun x2 =>
 some (decide (0 ≤ x2))
theorem le_slices_ContainsFunc_Diner {F : Nat} {x1 : (List Diner)} {p1 q1 : (Diner → Option Bool)} (h_p1 : ∀ z, ole (p1 z) (q1 z)) : ole (f_slices_ContainsFunc_Diner F x1 p1) (m_slices_ContainsFunc_Diner x1 q1) := by
  unfold f_slices_ContainsFunc_Diner m_slices_ContainsFunc_Diner
  with_reducible repeat' first | exact ole_refl _ | assumption | intro _ | refine ole_ifb ?_ ?_ | refine ole_bind ?_ ?_ | refine ole_map ?_ | refine ole_loop ?_ | apply le_slices_IndexFunc_Diner | apply h_p1
end NX
end Go.Proofs.Ytadebhbiglmodaa
/-
  The function slices.IndexFunc[[]narthex/api.Mail,narthex/api.Mail]: its code compiled, a model, and that the code answers as the model. Written by a program of ours (lb.py). No statement of the seat is proved here.
-/
namespace Go.Proofs.Ytadebhbiglmodaa
namespace NX
open Go
set_option maxRecDepth 100000
set_option maxHeartbeats 4000000
def e95_L0 : EC := .seq (.reg [⟨(some 9), none, .bin .lss (.t 8) (.t 7)⟩]) (.seq (.ite (.t 9) (.skip) (.exit 0)) (.seq (.blk 1 (.seq (.reg [⟨(some 10), none, .mv (.t 8)⟩, ⟨(some 5), none, .mv (.t 10)⟩]) (.seq (.reg [⟨(some 11), none, .mv (.t 1)⟩, ⟨(some 12), none, .mv (.t 0)⟩, ⟨(some 13), none, .mv (.t 5)⟩, ⟨(some 14), none, .idx 5 (.t 12) (.t 13)⟩, ⟨(some 15), none, .loadA 5 (.t 14)⟩, ⟨(some 16), none, .callv (.t 11) [(.t 15)]⟩]) (.ite (.t 16) (.seq (.reg [⟨(some 17), none, .mv (.t 5)⟩, ⟨(some 4), none, .mv (.t 17)⟩]) (.ret)) (.skip))))) (.reg [⟨(some 18), none, .bin .add (.t 8) (.c (.iv 1))⟩, ⟨(some 8), none, .mv (.t 18)⟩])))
def e95 : EC := .seq (.reg [⟨(some 4), none, .mv (.c (.iv 0))⟩]) (.seq (.seq (.reg [⟨(some 6), none, .mv (.t 0)⟩, ⟨(some 7), none, .len (.t 6)⟩, ⟨(some 8), none, .mv (.c (.iv 0))⟩]) (.blk 0 (.loop e95_L0))) (.seq (.reg [⟨(some 4), none, .mv (.c (.iv (-1)))⟩]) (.ret)))
theorem ok95 : FnOK Try.prog 95 Try.f95 e95 [.t 4] 2 17 := ⟨by kernel_rfl, ⟨_, rfl, by kernel_rfl⟩, by kernel_rfl, by kernel_rfl⟩
/- slices.IndexFunc[[]narthex/api.Mail,narthex/api.Mail] -/
noncomputable def m_slices_IndexFunc_Mail_j1  : Unit → Option Int
| () =>
 some (-1)
noncomputable def m_slices_IndexFunc_Mail_l1 (x1 : (List Mail)) (p1 : (Mail → Option Bool)) : Int → Option (Int ⊕ Int)
| x5 =>
 ifb (decide (x5 < (ln Mail.row x1))) (
 (at_ x1 x5).bind fun x6 =>
 (p1 x6).bind fun x7 =>
 ifb x7 (
 Option.map Sum.inr (some x5)) (
 some (.inl (wr (x5 + 1))))) (
 Option.map Sum.inr (m_slices_IndexFunc_Mail_j1 ()))
noncomputable def m_slices_IndexFunc_Mail (x1 : (List Mail)) (p1 : (Mail → Option Bool)) : Option Int :=
 loop (m_slices_IndexFunc_Mail_l1 x1 p1) 0
theorem k_slices_IndexFunc_Mail (x1 : (List Mail)) (g1 : Nat) (caps1 : List AV) (p1 : (Mail → Option Bool)) (hc1 : CloOK Try.prog g1 caps1 (fun z => [.agg (Mail.row z)]) p1 (fun z => .bv z)) (r : Int) (h : m_slices_IndexFunc_Mail x1 p1 = some r) : FunP Try.prog 95 [.sl 5 (List.map Mail.row x1), .clo g1 caps1] (.iv r) := by
  refine FunP_intro ok95 rfl rfl fun w0 H0 => ?_
  rw [m_slices_IndexFunc_Mail] at h
  refine V_go 11 ?_; dsimp only [e95, e95_L0, go_sem, Nat.reduceBEq, Nat.reduceAdd]; refine ⟨by simp, ?_⟩; refine V_join (fun (_ : Unit) => (⟨(an 19 []), [], []⟩ : St)) m_slices_IndexFunc_Mail_j1 r ?_ fun J1 => ?_
  ·rintro ⟨⟩ h; rw [m_slices_IndexFunc_Mail_j1] at h; (try dsimp only); refine V_go 4 ?_; dsimp only [e95, e95_L0, go_sem, Nat.reduceBEq, Nat.reduceAdd]; refine ⟨by simp, ?_⟩; exact M_done (res := fun (r : Int) => .iv r) ok95 h
  ·refine V_go 1 ?_; dsimp only [e95, e95_L0, go_sem, Nat.reduceBEq, Nat.reduceAdd]; refine ⟨by simp, ?_⟩; refine M_loop h (fun (x5 : Int) => (⟨(.sl 5 (List.map Mail.row x1) :: .clo g1 caps1 :: an 5 (.iv (ln Mail.row x1) :: .iv x5 :: an 10 [])), [], []⟩ : St)) (by simp [go_sem]) (by intro x5; first | rfl | simp [go_sem, puL_ok _ hc1.pu]) ?_; rintro n1 x5 y1 h hin1 hout1; rw [m_slices_IndexFunc_Mail_l1] at h; (try dsimp only); refine V_go 5 ?_; dsimp only [e95, e95_L0, go_sem, Nat.reduceBEq, Nat.reduceAdd]; refine ⟨by simp, ?_⟩; refine M_ite h rfl (fun _ h => ?_) fun _ h => ?_
   ·refine V_go 13 ?_; dsimp only [e95, e95_L0, go_sem, Nat.reduceBEq, Nat.reduceAdd]; refine ⟨by simp, ?_⟩; obtain ⟨x6, ex6, h⟩ := Option.bind_eq_some_iff.1 h; refine V_idxM Mail.row ex6 trivial rfl rfl rfl ?_; refine V_go 1 ?_; dsimp only [e95, e95_L0, go_sem, Nat.reduceBEq, Nat.reduceAdd]; refine ⟨by simp, ?_⟩; obtain ⟨x7, ex7, h⟩ := Option.bind_eq_some_iff.1 h; refine V_callp trivial rfl hc1 (x := x6) ex7 (by first | exact leL_refl _ | simp [go_sem]) (by first | rfl | simp [go_sem, hc1.pu]) ?_; refine V_go 1 ?_; dsimp only [e95, e95_L0, go_sem, Nat.reduceBEq, Nat.reduceAdd]
    refine ⟨by simp, ?_⟩; refine M_ite h rfl (fun _ h => ?_) fun _ h => ?_
    ·refine V_go 5 ?_; dsimp only [e95, e95_L0, go_sem, Nat.reduceBEq, Nat.reduceAdd]; refine ⟨by simp, ?_⟩; exact M_done (res := fun (r : Int) => .iv r) ok95 (M_out h hout1)
    ·refine V_go 6 ?_; dsimp only [e95, e95_L0, go_sem, Nat.reduceBEq, Nat.reduceAdd]; refine ⟨by simp, ?_⟩; exact M_back h hin1 (hok := by first | rfl | simp [go_sem, puL_ok _ hc1.pu])
   ·refine V_go 1 ?_; dsimp only [e95, e95_L0, go_sem, Nat.reduceBEq, Nat.reduceAdd]; refine ⟨by simp, ?_⟩; exact M_to J1 (s := ()) (M_out h hout1) (hok := by first | rfl | simp [go_sem, puL_ok _ hc1.pu])
def f_slices_IndexFunc_Mail_j1 (_F : Nat)  : Unit → Option Int
| () =>
 some (-1)
theorem le_slices_IndexFunc_Mail_j1 {F : Nat} : ∀ s, ole (f_slices_IndexFunc_Mail_j1 F s) (m_slices_IndexFunc_Mail_j1 s) := by
  rintro ⟨⟩
  unfold f_slices_IndexFunc_Mail_j1 m_slices_IndexFunc_Mail_j1
  try dsimp only
  with_reducible repeat' first | exact ole_refl _ | assumption | intro _ | refine ole_ifb ?_ ?_ | refine ole_bind ?_ ?_ | refine ole_map ?_ | refine ole_loop ?_ | apply h_p1
def f_slices_IndexFunc_Mail_l1 (F : Nat) (x1 : (List Mail)) (p1 : (Mail → Option Bool)) : Int → Option (Int ⊕ Int)
| x5 =>
 ifb (decide (x5 < (ln Mail.row x1))) (
 (at_ x1 x5).bind fun x6 =>
 (p1 x6).bind fun x7 =>
 ifb x7 (
 Option.map Sum.inr (some x5)) (
 some (.inl (wr (x5 + 1))))) (
 Option.map Sum.inr (f_slices_IndexFunc_Mail_j1 F ()))
theorem le_slices_IndexFunc_Mail_l1 {F : Nat} {x1 : (List Mail)} {p1 q1 : (Mail → Option Bool)} (h_p1 : ∀ z, ole (p1 z) (q1 z)) : ∀ s, ole (f_slices_IndexFunc_Mail_l1 F x1 p1 s) (m_slices_IndexFunc_Mail_l1 x1 q1 s) := by
  intro x5
  unfold f_slices_IndexFunc_Mail_l1 m_slices_IndexFunc_Mail_l1
  try dsimp only
  with_reducible repeat' first | exact ole_refl _ | assumption | intro _ | refine ole_ifb ?_ ?_ | refine ole_bind ?_ ?_ | refine ole_map ?_ | refine ole_loop ?_ | apply le_slices_IndexFunc_Mail_j1 | apply h_p1
def f_slices_IndexFunc_Mail (F : Nat) (x1 : (List Mail)) (p1 : (Mail → Option Bool)) : Option Int :=
 loopF F (f_slices_IndexFunc_Mail_l1 F x1 p1) 0
theorem le_slices_IndexFunc_Mail {F : Nat} {x1 : (List Mail)} {p1 q1 : (Mail → Option Bool)} (h_p1 : ∀ z, ole (p1 z) (q1 z)) : ole (f_slices_IndexFunc_Mail F x1 p1) (m_slices_IndexFunc_Mail x1 q1) := by
  unfold f_slices_IndexFunc_Mail m_slices_IndexFunc_Mail
  with_reducible repeat' first | exact ole_refl _ | assumption | intro _ | refine ole_ifb ?_ ?_ | refine ole_bind ?_ ?_ | refine ole_map ?_ | refine ole_loop ?_ | apply le_slices_IndexFunc_Mail_j1 | apply le_slices_IndexFunc_Mail_l1 | apply h_p1
end NX
end Go.Proofs.Ytadebhbiglmodaa
/-
  The function slices.ContainsFunc[[]narthex/api.Mail,narthex/api.Mail]: its code compiled, a model, and that the code answers as the model. Written by a program of ours (lb.py). No statement of the seat is proved here.
-/
namespace Go.Proofs.Ytadebhbiglmodaa
namespace NX
open Go
set_option maxRecDepth 100000
set_option maxHeartbeats 4000000
def e105 : EC := .seq (.reg [⟨(some 4), none, .mv (.c .ff)⟩]) (.seq (.reg [⟨(some 5), none, .mv (.t 0)⟩, ⟨(some 6), none, .mv (.t 1)⟩, ⟨(some 7), none, .call 95 [(.t 5), (.t 6)]⟩, ⟨(some 8), none, .bin .geq (.t 7) (.c (.iv 0))⟩, ⟨(some 4), none, .mv (.t 8)⟩]) (.ret))
theorem ok105 : FnOK Try.prog 105 Try.f105 e105 [.t 4] 2 7 := ⟨by kernel_rfl, ⟨_, rfl, by kernel_rfl⟩, by kernel_rfl, by kernel_rfl⟩
/- slices.ContainsFunc[[]narthex/api.Mail,narthex/api.Mail] -/
noncomputable def m_slices_ContainsFunc_Mail (x1 : (List Mail)) (p1 : (Mail → Option Bool)) : Option Bool :=
 (m_slices_IndexFunc_Mail x1 p1).bind fun x2 =>
 some (decide (0 ≤ x2))
theorem k_slices_ContainsFunc_Mail (x1 : (List Mail)) (g1 : Nat) (caps1 : List AV) (p1 : (Mail → Option Bool)) (hc1 : CloOK Try.prog g1 caps1 (fun z => [.agg (Mail.row z)]) p1 (fun z => .bv z)) (r : Bool) (h : m_slices_ContainsFunc_Mail x1 p1 = some r) : FunP Try.prog 105 [.sl 5 (List.map Mail.row x1), .clo g1 caps1] (.bv r) := by
  refine FunP_intro ok105 rfl rfl fun w0 H0 => ?_
  rw [m_slices_ContainsFunc_Mail] at h
  refine V_go 8 ?_; dsimp only [e105, go_sem, Nat.reduceBEq, Nat.reduceAdd]; refine ⟨by simp, ?_⟩; obtain ⟨x2, ex2, h⟩ := Option.bind_eq_some_iff.1 h; refine V_call trivial (k_slices_IndexFunc_Mail x1 _ _ p1 hc1 _ ex2) (hp := (by first | rfl | simp [go_sem, hc1.pu])) (h := ?_); refine V_go 3 ?_; dsimp only [e105, go_sem, Nat.reduceBEq, Nat.reduceAdd]; refine ⟨by simp, ?_⟩; exact M_done (res := fun (r : Bool) => .bv r) ok105 h
def f_slices_ContainsFunc_Mail (F : Nat) (x1 : (List Mail)) (p1 : (Mail → Option Bool)) : Option Bool :=
 (f_slices_IndexFunc_Mail F x1 p1).bind fun x2 =>
 some (decide (0 ≤ x2))
theorem le_slices_ContainsFunc_Mail {F : Nat} {x1 : (List Mail)} {p1 q1 : (Mail → Option Bool)} (h_p1 : ∀ z, ole (p1 z) (q1 z)) : ole (f_slices_ContainsFunc_Mail F x1 p1) (m_slices_ContainsFunc_Mail x1 q1) := by
  unfold f_slices_ContainsFunc_Mail m_slices_ContainsFunc_Mail
  with_reducible repeat' first | exact ole_refl _ | assumption | intro _ | refine ole_ifb ?_ ?_ | refine ole_bind ?_ ?_ | refine ole_map ?_ | refine ole_loop ?_ | apply le_slices_IndexFunc_Mail | apply h_p1
end NX
end Go.Proofs.Ytadebhbiglmodaa
/-
  The function narthex/table.Check: its code compiled, a model, and that the code answers as the model. Written by a program of ours (lb.py). No statement of the seat is proved here.
-/
namespace Go.Proofs.Ytadebhbiglmodaa
namespace NX
open Go
set_option maxRecDepth 100000
set_option maxHeartbeats 4000000
def e71 : EC := .seq (.reg [⟨(some 1), none, .box 43 2 (.t 0)⟩, ⟨(some 2), none, .mv (.c (.iv 0))⟩]) (.seq (.reg [⟨(some 7), none, .mkf 101 [(.t 1)]⟩, ⟨(some 3), none, .mv (.t 7)⟩]) (.seq (.reg [⟨(some 4), none, .mv (.c (.clo 102 []))⟩]) (.seq (.seq (.reg [⟨(some 9), none, .fld 0 (.t 1)⟩, ⟨(some 10), none, .load (.t 9)⟩, ⟨(some 11), none, .call 21 [(.t 10)]⟩, ⟨(some 8), none, .mv (.t 11)⟩, ⟨(some 12), none, .ext (.t 8) 0⟩, ⟨(some 13), none, .ext (.t 8) 1⟩, ⟨(some 5), none, .alloc 24 [.iv 0, .nl]⟩, ⟨none, none, .store 2 (.t 5) (.t 12)⟩, ⟨(some 6), none, .mv (.t 13)⟩]) (.seq (.reg [⟨(some 14), none, .mv (.t 6)⟩, ⟨(some 15), none, .not (.t 14)⟩, ⟨(some 16), none, .mv (.t 15)⟩, ⟨(some 17), (some (16, false)), .fld 0 (.t 1)⟩, ⟨(some 18), (some (16, false)), .load (.t 17)⟩, ⟨(some 19), (some (16, false)), .mv (.t 4)⟩, ⟨(some 20), (some (16, false)), .call 104 [(.t 18), (.t 19)]⟩, ⟨(some 21), none, .pick (.t 16) (.c .tt) (.t 20)⟩, ⟨(some 22), none, .mv (.t 21)⟩, ⟨(some 23), (some (22, false)), .fld 1 (.t 1)⟩, ⟨(some 24), (some (22, false)), .load (.t 23)⟩, ⟨(some 25), (some (22, false)), .mv (.t 3)⟩, ⟨(some 26), (some (22, false)), .call 105 [(.t 24), (.t 25)]⟩, ⟨(some 27), none, .pick (.t 22) (.c .tt) (.t 26)⟩]) (.ite (.t 27) (.seq (.reg [⟨(some 2), none, .mv (.c (.iv 142))⟩]) (.ret)) (.skip)))) (.seq (.reg [⟨(some 2), none, .mv (.c (.iv 0))⟩]) (.ret)))))
theorem ok71 : FnOK Try.prog 71 Try.f71 e71 [.t 2] 1 27 := ⟨by kernel_rfl, ⟨_, rfl, by kernel_rfl⟩, by kernel_rfl, by kernel_rfl⟩
/- narthex/table.Check -/
noncomputable def m_table_Check_j1  : Bool → Option Int
| x5 =>
 ifb x5 (
 some 142) (
 some 0)
noncomputable def m_table_Check (x1 : Scene) : Option Int :=
 (m_place_Graph x1.Diners).bind fun x2 =>
 ifb (!x2.2) (
 m_table_Check_j1 true) (
 (m_slices_ContainsFunc_Diner x1.Diners ((fun z => m_table_Check_2 z))).bind fun x3 =>
 ifb x3 (
 m_table_Check_j1 true) (
 (m_slices_ContainsFunc_Mail x1.Mail ((fun z => m_table_Check_1 z x1))).bind fun x4 =>
 m_table_Check_j1 x4))
theorem k_table_Check (x1 : Scene) (r : Int) (h : m_table_Check x1 = some r) : FunP Try.prog 71 [.agg (Scene.row x1)] (.iv r) := by
  refine FunP_intro ok71 rfl rfl fun w0 H0 => ?_
  rw [m_table_Check] at h
  refine V_go 19 ?_; dsimp only [e71, go_sem, Nat.reduceBEq, Nat.reduceAdd]; refine ⟨by simp, ?_⟩; obtain ⟨x2, ex2, h⟩ := Option.bind_eq_some_iff.1 h; refine V_call trivial (k_place_Graph x1.Diners _ ex2) (h := ?_); refine V_go 12 ?_; dsimp only [e71, go_sem, Nat.reduceBEq, Nat.reduceAdd]; refine ⟨by simp, ?_⟩; refine V_join (fun (x5 : Bool) => (⟨(an 27 [.bv x5]), [], []⟩ : St)) m_table_Check_j1 r ?_ fun J1 => ?_
  ·intro x5 h; rw [m_table_Check_j1] at h; (try dsimp only); refine M_ite h rfl (fun _ h => ?_) fun _ h => ?_
   ·refine V_go 4 ?_; dsimp only [e71, go_sem, Nat.reduceBEq, Nat.reduceAdd]; refine ⟨by simp, ?_⟩; exact M_done (res := fun (r : Int) => .iv r) ok71 h
   ·refine V_go 5 ?_; dsimp only [e71, go_sem, Nat.reduceBEq, Nat.reduceAdd]; refine ⟨by simp, ?_⟩; exact M_done (res := fun (r : Int) => .iv r) ok71 h
  ·refine M_case 16 h rfl (fun _ h => ?_) fun _ h => ?_
   ·dsimp only [go_sem, Nat.reduceBEq, Nat.reduceAdd]; refine V_go 12 ?_; dsimp only [e71, go_sem, Nat.reduceBEq, Nat.reduceAdd]; refine ⟨by simp, ?_⟩; exact M_to J1 (s := true) h
   ·dsimp only [go_sem, Nat.reduceBEq, Nat.reduceAdd]; refine V_go 3 ?_; dsimp only [e71, go_sem, Nat.reduceBEq, Nat.reduceAdd]; refine ⟨by simp, ?_⟩; obtain ⟨x3, ex3, h⟩ := Option.bind_eq_some_iff.1 h; refine V_call trivial (k_slices_ContainsFunc_Diner x1.Diners _ _ ((fun z => m_table_Check_2 z)) ⟨by kernel_rfl, rfl, fun z r hz => k_table_Check_2 z r hz⟩ _ ex3) (h := ?_); refine V_go 2 ?_; dsimp only [e71, go_sem, Nat.reduceBEq, Nat.reduceAdd]; refine ⟨by simp, ?_⟩; refine M_case 22 h rfl (fun _ h => ?_) fun _ h => ?_
    ·dsimp only [go_sem, Nat.reduceBEq, Nat.reduceAdd]; refine V_go 6 ?_; dsimp only [e71, go_sem, Nat.reduceBEq, Nat.reduceAdd]; refine ⟨by simp, ?_⟩; exact M_to J1 (s := true) h
    ·dsimp only [go_sem, Nat.reduceBEq, Nat.reduceAdd]; refine V_go 3 ?_; dsimp only [e71, go_sem, Nat.reduceBEq, Nat.reduceAdd]; refine ⟨by simp, ?_⟩; obtain ⟨x4, ex4, h⟩ := Option.bind_eq_some_iff.1 h; refine V_callL trivial ((Lend.refl _).block 0 rfl rfl) (k_slices_ContainsFunc_Mail x1.Mail _ _ ((fun z => m_table_Check_1 z x1)) ⟨by kernel_rfl, rfl, fun z r hz => k_table_Check_1 z x1 r hz⟩ _ ex4) (h := ?_); refine V_go 2 ?_; dsimp only [e71, go_sem, Nat.reduceBEq, Nat.reduceAdd]; refine ⟨by simp, ?_⟩; exact M_to J1 (s := x4) h
def f_table_Check_j1 (_F : Nat)  : Bool → Option Int
| x5 =>
 ifb x5 (
 some 142) (
 some 0)
theorem le_table_Check_j1 {F : Nat} : ∀ s, ole (f_table_Check_j1 F s) (m_table_Check_j1 s) := by
  intro x5
  unfold f_table_Check_j1 m_table_Check_j1
  try dsimp only
  with_reducible repeat' first | exact ole_refl _ | assumption | intro _ | refine ole_ifb ?_ ?_ | refine ole_bind ?_ ?_ | refine ole_map ?_ | refine ole_loop ?_
def f_table_Check (F : Nat) (x1 : Scene) : Option Int :=
 (f_place_Graph F x1.Diners).bind fun x2 =>
 ifb (!x2.2) (
 f_table_Check_j1 F true) (
 (f_slices_ContainsFunc_Diner F x1.Diners ((fun z => f_table_Check_2 F z))).bind fun x3 =>
 ifb x3 (
 f_table_Check_j1 F true) (
 (f_slices_ContainsFunc_Mail F x1.Mail ((fun z => f_table_Check_1 F z x1))).bind fun x4 =>
 f_table_Check_j1 F x4))
theorem le_table_Check {F : Nat} {x1 : Scene} : ole (f_table_Check F x1) (m_table_Check x1) := by
  unfold f_table_Check m_table_Check
  with_reducible repeat' first | exact ole_refl _ | assumption | intro _ | refine ole_ifb ?_ ?_ | refine ole_bind ?_ ?_ | refine ole_map ?_ | refine ole_loop ?_ | apply le_table_Check_j1 | apply le_place_Graph | apply le_slices_ContainsFunc_Diner | apply le_table_Check_2 | apply le_slices_ContainsFunc_Mail | apply le_table_Check_1
end NX
end Go.Proofs.Ytadebhbiglmodaa
/-
  The function narthex/table.there: its code compiled, a model, and that the code answers as the model. Written by a program of ours (lb.py). No statement of the seat is proved here.
-/
namespace Go.Proofs.Ytadebhbiglmodaa
namespace NX
open Go
set_option maxRecDepth 100000
set_option maxHeartbeats 4000000
def e73 : EC := .seq (.reg [⟨(some 2), none, .box 43 2 (.t 0)⟩, ⟨(some 4), none, .mv (.c .ff)⟩]) (.seq (.reg [⟨(some 5), none, .mv (.t 1)⟩, ⟨(some 6), none, .bin .geq (.t 5) (.c (.iv 0))⟩, ⟨(some 7), none, .mv (.t 6)⟩, ⟨(some 8), (some (7, true)), .mv (.t 1)⟩, ⟨(some 9), (some (7, true)), .fld 0 (.t 2)⟩, ⟨(some 10), (some (7, true)), .load (.t 9)⟩, ⟨(some 11), (some (7, true)), .len (.t 10)⟩, ⟨(some 12), (some (7, true)), .bin .lss (.t 8) (.t 11)⟩, ⟨(some 13), none, .pick (.t 7) (.t 12) (.c .ff)⟩, ⟨(some 4), none, .mv (.t 13)⟩]) (.ret))
theorem ok73 : FnOK Try.prog 73 Try.f73 e73 [.t 4] 2 12 := ⟨by kernel_rfl, ⟨_, rfl, by kernel_rfl⟩, by kernel_rfl, by kernel_rfl⟩
/- narthex/table.there -/
noncomputable def m_table_there_j1  : Bool → Option Bool
| x3 =>
 some x3
noncomputable def m_table_there (x1 : Scene) (x2 : Int) : Option Bool :=
 ifb (decide (0 ≤ x2)) (
 m_table_there_j1 (decide (x2 < (ln Diner.row x1.Diners)))) (
 m_table_there_j1 false)
theorem k_table_there (x1 : Scene) (x2 : Int) (r : Bool) (h : m_table_there x1 x2 = some r) : FunP Try.prog 73 [.agg (Scene.row x1), .iv x2] (.bv r) := by
  refine FunP_intro ok73 rfl rfl fun w0 H0 => ?_
  rw [m_table_there] at h
  refine V_go 10 ?_; dsimp only [e73, go_sem, Nat.reduceBEq, Nat.reduceAdd]; refine ⟨by simp, ?_⟩; refine V_join (fun (x3 : Bool) => (⟨(an 4 (.bv x3 :: an 9 [])), [], []⟩ : St)) m_table_there_j1 r ?_ fun J1 => ?_
  ·intro x3 h; rw [m_table_there_j1] at h; (try dsimp only); exact M_done (res := fun (r : Bool) => .bv r) ok73 h
  ·refine M_case 7 h rfl (fun _ h => ?_) fun _ h => ?_
   ·dsimp only [go_sem, Nat.reduceBEq, Nat.reduceAdd]; refine V_go 8 ?_; dsimp only [e73, go_sem, Nat.reduceBEq, Nat.reduceAdd]; refine ⟨by simp, ?_⟩; exact M_to J1 (s := decide (x2 < (ln Diner.row x1.Diners))) h
   ·dsimp only [go_sem, Nat.reduceBEq, Nat.reduceAdd]; refine V_go 8 ?_; dsimp only [e73, go_sem, Nat.reduceBEq, Nat.reduceAdd]; refine ⟨by simp, ?_⟩; exact M_to J1 (s := false) h
def f_table_there_j1 (_F : Nat)  : Bool → Option Bool
| x3 =>
 some x3
theorem le_table_there_j1 {F : Nat} : ∀ s, ole (f_table_there_j1 F s) (m_table_there_j1 s) := by
  intro x3
  unfold f_table_there_j1 m_table_there_j1
  try dsimp only
  with_reducible repeat' first | exact ole_refl _ | assumption | intro _ | refine ole_ifb ?_ ?_ | refine ole_bind ?_ ?_ | refine ole_map ?_ | refine ole_loop ?_
def f_table_there (F : Nat) (x1 : Scene) (x2 : Int) : Option Bool :=
 ifb (decide (0 ≤ x2)) (
 f_table_there_j1 F (decide (x2 < (ln Diner.row x1.Diners)))) (
 f_table_there_j1 F false)
theorem le_table_there {F : Nat} {x1 : Scene} {x2 : Int} : ole (f_table_there F x1 x2) (m_table_there x1 x2) := by
  unfold f_table_there m_table_there
  with_reducible repeat' first | exact ole_refl _ | assumption | intro _ | refine ole_ifb ?_ ?_ | refine ole_bind ?_ ?_ | refine ole_map ?_ | refine ole_loop ?_ | apply le_table_there_j1
end NX
end Go.Proofs.Ytadebhbiglmodaa
/-
  The function slices.Grow[[]narthex/api.Mail,narthex/api.Mail]: its code compiled, a model, and that the code answers as the model. Written by a program of ours (lb.py). No statement of the seat is proved here.
-/
namespace Go.Proofs.Ytadebhbiglmodaa
namespace NX
open Go
set_option maxRecDepth 100000
set_option maxHeartbeats 4000000
def e119 : EC := .seq (.reg [⟨(some 4), none, .mv (.c .nl)⟩]) (.seq (.seq (.reg [⟨(some 5), none, .mv (.t 1)⟩, ⟨(some 6), none, .bin .lss (.t 5) (.c (.iv 0))⟩]) (.ite (.t 6) (.reg [⟨(some 7), none, .bad⟩, ⟨none, none, .bad⟩]) (.skip))) (.seq (.seq (.reg [⟨(some 8), none, .mv (.t 1)⟩, ⟨(some 9), none, .mv (.t 0)⟩, ⟨(some 10), none, .cap (.t 9)⟩, ⟨(some 11), none, .mv (.t 0)⟩, ⟨(some 12), none, .len (.t 11)⟩, ⟨(some 13), none, .bin .sub (.t 10) (.t 12)⟩, ⟨(some 14), none, .bin .sub (.t 8) (.t 13)⟩, ⟨(some 1), none, .mv (.t 14)⟩]) (.seq (.reg [⟨(some 15), none, .mv (.t 1)⟩, ⟨(some 16), none, .bin .gtr (.t 15) (.c (.iv 0))⟩]) (.ite (.t 16) (.reg [⟨(some 17), none, .mv (.t 0)⟩, ⟨(some 18), none, .mv (.t 0)⟩, ⟨(some 19), none, .cap (.t 18)⟩, ⟨(some 20), none, .slice 5 (.t 17) none (some (.t 19))⟩, ⟨(some 21), none, .mv (.t 1)⟩, ⟨(some 22), none, .apz 97 5 40 [.iv 0, .iv 0, .iv 0, .iv 0, .iv 0] (.t 20) (.t 21)⟩, ⟨(some 23), none, .mv (.t 0)⟩, ⟨(some 24), none, .len (.t 23)⟩, ⟨(some 25), none, .slice 5 (.t 22) none (some (.t 24))⟩, ⟨(some 0), none, .mv (.t 25)⟩]) (.skip)))) (.seq (.reg [⟨(some 26), none, .mv (.t 0)⟩, ⟨(some 4), none, .mv (.t 26)⟩]) (.ret))))
theorem ok119 : FnOK Try.prog 119 Try.f119 e119 [.t 4] 2 25 := ⟨by kernel_rfl, ⟨_, rfl, by kernel_rfl⟩, by kernel_rfl, by kernel_rfl⟩
/- slices.Grow[[]narthex/api.Mail,narthex/api.Mail] -/
noncomputable def m_slices_Grow_Mail (_x1 : (List Mail)) (_x2 : Int) : Option (List Mail) :=
 none
theorem k_slices_Grow_Mail (x1 : (List Mail)) (x2 : Int) (r : (List Mail)) (h : m_slices_Grow_Mail x1 x2 = some r) : FunP Try.prog 119 [.sl 5 (List.map Mail.row x1), .iv x2] (.sl 5 (List.map Mail.row r)) := by
  simp [m_slices_Grow_Mail] at h
def f_slices_Grow_Mail (_F : Nat) (_x1 : (List Mail)) (_x2 : Int) : Option (List Mail) := none
theorem le_slices_Grow_Mail {F : Nat} {x1 : (List Mail)} {x2 : Int} : ole (f_slices_Grow_Mail F x1 x2) (m_slices_Grow_Mail x1 x2) := ⟨fun _ h => by simp [f_slices_Grow_Mail] at h⟩
end NX
end Go.Proofs.Ytadebhbiglmodaa
