/-
  The function slices.Concat[[]narthex/api.Mail,narthex/api.Mail]: its code compiled, a model, and that the code answers as the model. Written by a program of ours (lb.py). No statement of the seat is proved here.
-/
import Derived.KernelRfl
import Derived.Test.YtadebhbiglmodaaR4
import Derived.Test.YtadebhbiglmodaaR2
import Derived.Test.YtadebhbiglmodaaR3
namespace Go.Proofs.Ytadebhbiglmodaa
namespace NX
open Go
set_option maxRecDepth 100000
set_option maxHeartbeats 4000000
def e97_L1 : EC := .seq (.reg [⟨(some 28), none, .bin .lss (.t 27) (.t 26)⟩]) (.seq (.ite (.t 28) (.skip) (.exit 2)) (.seq (.blk 3 (.seq (.reg [⟨(some 29), none, .idx 1 (.t 25) (.t 27)⟩, ⟨(some 30), none, .load (.t 29)⟩, ⟨(some 8), none, .mv (.t 30)⟩]) (.reg [⟨(some 31), none, .mv (.t 6)⟩, ⟨(some 32), none, .mv (.t 8)⟩, ⟨(some 33), none, .app 97 5 40 (.t 31) (.t 32)⟩, ⟨(some 6), none, .mv (.t 33)⟩]))) (.reg [⟨(some 34), none, .bin .add (.t 27) (.c (.iv 1))⟩, ⟨(some 27), none, .mv (.t 34)⟩])))
def e97_L0 : EC := .seq (.reg [⟨(some 12), none, .bin .lss (.t 11) (.t 10)⟩]) (.seq (.ite (.t 12) (.skip) (.exit 0)) (.seq (.blk 1 (.seq (.reg [⟨(some 13), none, .idx 1 (.t 9) (.t 11)⟩, ⟨(some 14), none, .load (.t 13)⟩, ⟨(some 5), none, .mv (.t 14)⟩]) (.seq (.reg [⟨(some 15), none, .mv (.t 3)⟩, ⟨(some 16), none, .mv (.t 5)⟩, ⟨(some 17), none, .len (.t 16)⟩, ⟨(some 18), none, .bin .add (.t 15) (.t 17)⟩, ⟨(some 3), none, .mv (.t 18)⟩]) (.seq (.reg [⟨(some 19), none, .mv (.t 3)⟩, ⟨(some 20), none, .bin .lss (.t 19) (.c (.iv 0))⟩]) (.ite (.t 20) (.reg [⟨(some 21), none, .bad⟩, ⟨none, none, .bad⟩]) (.skip)))))) (.reg [⟨(some 22), none, .bin .add (.t 11) (.c (.iv 1))⟩, ⟨(some 11), none, .mv (.t 22)⟩])))
def e97 : EC := .seq (.reg [⟨(some 2), none, .mv (.c .nl)⟩]) (.seq (.reg [⟨(some 3), none, .mv (.c (.iv 0))⟩]) (.seq (.seq (.reg [⟨(some 9), none, .mv (.t 0)⟩, ⟨(some 10), none, .len (.t 9)⟩, ⟨(some 11), none, .mv (.c (.iv 0))⟩]) (.blk 0 (.loop e97_L0))) (.seq (.reg [⟨(some 23), none, .mv (.t 3)⟩, ⟨(some 24), none, .call 119 [(.c .nl), (.t 23)]⟩, ⟨(some 6), none, .mv (.t 24)⟩]) (.seq (.seq (.reg [⟨(some 25), none, .mv (.t 0)⟩, ⟨(some 26), none, .len (.t 25)⟩, ⟨(some 27), none, .mv (.c (.iv 0))⟩]) (.blk 2 (.loop e97_L1))) (.seq (.reg [⟨(some 35), none, .mv (.t 6)⟩, ⟨(some 2), none, .mv (.t 35)⟩]) (.ret))))))
theorem ok97 : FnOK Try.prog 97 Try.f97 e97 [.t 2] 1 35 := ⟨by kernel_rfl, ⟨_, rfl, by kernel_rfl⟩, by kernel_rfl, by kernel_rfl⟩
/- slices.Grow[[]narthex/api.Mail,narthex/api.Mail], lent own memory -/
noncomputable def m_slices_Grow_Mail_in_slices_Concat_Mail_1_j2  : (List Mail) → Option (List Mail)
| x4 =>
 some x4
noncomputable def m_slices_Grow_Mail_in_slices_Concat_Mail_1_j1 (x1 : Int) : Unit → Option (List Mail)
| () =>
 ifb (decide (0 < (wr (x1 - (wr (0 - 0)))))) (
 (apz_ 40 (wr (x1 - (wr (0 - 0)))) ((Mail.mk 0 0 ((Msg.mk 0 0 0))))).bind fun x2 =>
 (sub_ x2 0 0).bind fun x3 =>
 m_slices_Grow_Mail_in_slices_Concat_Mail_1_j2 x3) (
 m_slices_Grow_Mail_in_slices_Concat_Mail_1_j2 (([] : List Mail)))
noncomputable def m_slices_Grow_Mail_in_slices_Concat_Mail_1 (x1 : Int) : Option (List Mail) :=
 ifb (decide (x1 < 0)) (
 none) (
 (m_slices_Grow_Mail_in_slices_Concat_Mail_1_j1 x1) ())
theorem t_slices_Grow_Mail_in_slices_Concat_Mail_1 (x1 : Int) (r : (List Mail)) (h : m_slices_Grow_Mail_in_slices_Concat_Mail_1 x1 = some r) : FunT Try.prog 119 [.nl, .iv x1] [] [] (.osl 0) [] [some ⟨97, 5, List.map Mail.row r⟩] := by
  refine FunT_intro ok119 rfl rfl rfl (by first | rfl | simp [go_sem]) fun w0 M0 => ?_
  rw [m_slices_Grow_Mail_in_slices_Concat_Mail_1] at h
  dsimp only [lun, List.cons_append, List.nil_append]
  refine V_go 10 ?_; dsimp only [e119, go_sem, Nat.reduceBEq, Nat.reduceAdd]; refine ⟨by simp, ?_⟩; refine V_join (fun (_ : Unit) => (⟨(.nl :: .iv x1 :: an 25 []), [], []⟩ : St)) (m_slices_Grow_Mail_in_slices_Concat_Mail_1_j1 x1) r ?_ fun J1 => ?_
  ·rintro ⟨⟩ h; rw [m_slices_Grow_Mail_in_slices_Concat_Mail_1_j1] at h; (try dsimp only); refine V_go 5 ?_; dsimp only [e119, go_sem, Nat.reduceBEq, Nat.reduceAdd]; refine ⟨by simp, ?_⟩; refine V_capN trivial rfl ?_; refine V_go 11 ?_; dsimp only [e119, go_sem, Nat.reduceBEq, Nat.reduceAdd]; refine ⟨by simp, ?_⟩; refine V_join (fun (x4 : (List Mail)) => (⟨(.osl 0 :: an 26 []), [], [some ⟨97, 5, List.map Mail.row x4⟩]⟩ : St)) m_slices_Grow_Mail_in_slices_Concat_Mail_1_j2 r ?_ fun J2 => ?_
   ·intro x4 h; rw [m_slices_Grow_Mail_in_slices_Concat_Mail_1_j2] at h; (try dsimp only); refine V_go 5 ?_; dsimp only [e119, go_sem, Nat.reduceBEq, Nat.reduceAdd]; refine ⟨by simp, ?_⟩; obtain rfl := Option.some.inj h; exact T_done ok119 rfl (by simp [go_sem])
   ·refine M_ite h rfl (fun _ h => ?_) fun _ h => ?_
    ·refine V_go 3 ?_; dsimp only [e119, go_sem, Nat.reduceBEq, Nat.reduceAdd]; refine ⟨by simp, ?_⟩; refine V_capN trivial rfl ?_; refine V_sliceN trivial rfl rfl rfl ?_; refine V_go 1 ?_; dsimp only [e119, go_sem, Nat.reduceBEq, Nat.reduceAdd]; refine ⟨by simp, ?_⟩; obtain ⟨x2, ex2, h⟩ := Option.bind_eq_some_iff.1 h; refine V_apzM Mail.row ex2 trivial rfl rfl rfl rfl ?_; refine V_go 2 ?_; dsimp only [e119, go_sem, Nat.reduceBEq, Nat.reduceAdd]; refine ⟨by simp, ?_⟩; obtain ⟨x3, ex3, h⟩ := Option.bind_eq_some_iff.1 h; refine V_cutM Mail.row ex3 trivial rfl rfl rfl rfl ?_; refine V_go 2 ?_
     dsimp only [e119, go_sem, Nat.reduceBEq, Nat.reduceAdd]; refine ⟨by simp, ?_⟩; refine V_ren 1 0 rfl rfl rfl ?_; dsimp only [go_sem, Nat.reduceBEq, Nat.reduceAdd]; exact M_to J2 (s := x3) h
    ·refine V_go 1 ?_; dsimp only [e119, go_sem, Nat.reduceBEq, Nat.reduceAdd]; refine ⟨by simp, ?_⟩; refine V_own 0 97 5 rfl rfl ?_; dsimp only [go_sem, Nat.reduceBEq, Nat.reduceAdd]; exact M_to J2 (s := ([] : List Mail)) h
  ·refine M_ite h rfl (fun _ h => ?_) fun _ h => ?_
   ·cases h
   ·refine V_go 1 ?_; dsimp only [e119, go_sem, Nat.reduceBEq, Nat.reduceAdd]; refine ⟨by simp, ?_⟩; exact M_to J1 (s := ()) h
def f_slices_Grow_Mail_in_slices_Concat_Mail_1_j2 (_F : Nat)  : (List Mail) → Option (List Mail)
| x4 =>
 some x4
theorem le_slices_Grow_Mail_in_slices_Concat_Mail_1_j2 {F : Nat} : ∀ s, ole (f_slices_Grow_Mail_in_slices_Concat_Mail_1_j2 F s) (m_slices_Grow_Mail_in_slices_Concat_Mail_1_j2 s) := by
  intro x4
  unfold f_slices_Grow_Mail_in_slices_Concat_Mail_1_j2 m_slices_Grow_Mail_in_slices_Concat_Mail_1_j2
  try dsimp only
  with_reducible repeat' first | exact ole_refl _ | assumption | intro _ | refine ole_ifb ?_ ?_ | refine ole_bind ?_ ?_ | refine ole_map ?_ | refine ole_loop ?_
def f_slices_Grow_Mail_in_slices_Concat_Mail_1_j1 (F : Nat) (x1 : Int) : Unit → Option (List Mail)
| () =>
 ifb (decide (0 < (wr (x1 - (wr (0 - 0)))))) (
 (apz_ 40 (wr (x1 - (wr (0 - 0)))) ((Mail.mk 0 0 ((Msg.mk 0 0 0))))).bind fun x2 =>
 (sub_ x2 0 0).bind fun x3 =>
 f_slices_Grow_Mail_in_slices_Concat_Mail_1_j2 F x3) (
 f_slices_Grow_Mail_in_slices_Concat_Mail_1_j2 F (([] : List Mail)))
theorem le_slices_Grow_Mail_in_slices_Concat_Mail_1_j1 {F : Nat} {x1 : Int} : ∀ s, ole (f_slices_Grow_Mail_in_slices_Concat_Mail_1_j1 F x1 s) (m_slices_Grow_Mail_in_slices_Concat_Mail_1_j1 x1 s) := by
  rintro ⟨⟩
  unfold f_slices_Grow_Mail_in_slices_Concat_Mail_1_j1 m_slices_Grow_Mail_in_slices_Concat_Mail_1_j1
  try dsimp only
  with_reducible repeat' first | exact ole_refl _ | assumption | intro _ | refine ole_ifb ?_ ?_ | refine ole_bind ?_ ?_ | refine ole_map ?_ | refine ole_loop ?_ | apply le_slices_Grow_Mail_in_slices_Concat_Mail_1_j2
def f_slices_Grow_Mail_in_slices_Concat_Mail_1 (F : Nat) (x1 : Int) : Option (List Mail) :=
 ifb (decide (x1 < 0)) (
 none) (
 (f_slices_Grow_Mail_in_slices_Concat_Mail_1_j1 F x1) ())
theorem le_slices_Grow_Mail_in_slices_Concat_Mail_1 {F : Nat} {x1 : Int} : ole (f_slices_Grow_Mail_in_slices_Concat_Mail_1 F x1) (m_slices_Grow_Mail_in_slices_Concat_Mail_1 x1) := by
  unfold f_slices_Grow_Mail_in_slices_Concat_Mail_1 m_slices_Grow_Mail_in_slices_Concat_Mail_1
  with_reducible repeat' first | exact ole_refl _ | assumption | intro _ | refine ole_ifb ?_ ?_ | refine ole_bind ?_ ?_ | refine ole_map ?_ | refine ole_loop ?_ | apply le_slices_Grow_Mail_in_slices_Concat_Mail_1_j2 | apply le_slices_Grow_Mail_in_slices_Concat_Mail_1_j1
/- slices.Concat[[]narthex/api.Mail,narthex/api.Mail] -/
noncomputable def m_slices_Concat_Mail_j3  : (List Mail) → Option (List Mail)
| x31 =>
 some x31
noncomputable def m_slices_Concat_Mail_l2 (x1 : (List (List Mail))) : (Int × (List Mail)) → Option ((Int × (List Mail)) ⊕ (List Mail))
| (x21, x22) =>
 ifb (decide (x21 < (ln (slRow 5 Mail.row) x1))) (
 (at_ x1 x21).bind fun x23 =>
 (app_ 40 x22 x23).bind fun x24 =>
 some (.inl (wr (x21 + 1), x24))) (
 Option.map Sum.inr (m_slices_Concat_Mail_j3 x22))
noncomputable def m_slices_Concat_Mail_j1 (x1 : (List (List Mail))) : Int → Option (List Mail)
| x15 =>
 (m_slices_Grow_Mail_in_slices_Concat_Mail_1 x15).bind fun x16 =>
 loop (m_slices_Concat_Mail_l2 x1) (0, x16)
noncomputable def m_slices_Concat_Mail_j2 (x5 : Int) (x6 : Int) (x7 : (List Mail)) : Unit → Option ((Int × Int) ⊕ (List Mail))
| () =>
 some (.inl (wr (x5 + (ln Mail.row x7)), wr (x6 + 1)))
noncomputable def m_slices_Concat_Mail_l1 (x1 : (List (List Mail))) : (Int × Int) → Option ((Int × Int) ⊕ (List Mail))
| (x5, x6) =>
 ifb (decide (x6 < (ln (slRow 5 Mail.row) x1))) (
 (at_ x1 x6).bind fun x7 =>
 ifb (decide ((wr (x5 + (ln Mail.row x7))) < 0)) (
 none) (
 (m_slices_Concat_Mail_j2 x5 x6 x7) ())) (
 Option.map Sum.inr ((m_slices_Concat_Mail_j1 x1) x5))
noncomputable def m_slices_Concat_Mail (x1 : (List (List Mail))) : Option (List Mail) :=
 loop (m_slices_Concat_Mail_l1 x1) (0, 0)
theorem o_slices_Concat_Mail (x1 : (List (List Mail))) (r : (List Mail)) (h : m_slices_Concat_Mail x1 = some r) : FunO Try.prog 97 [.sl 1 (List.map (slRow 5 Mail.row) x1)] 97 5 (List.map Mail.row r) := by
  refine FunO_intro ok97 rfl fun w0 H0 => ?_
  rw [m_slices_Concat_Mail] at h
  refine V_go 15 ?_; dsimp only [e97, e97_L0, e97_L1, go_sem, Nat.reduceBEq, Nat.reduceAdd]; refine ⟨by simp, ?_⟩; refine V_join (fun (x15 : Int) => (⟨(.sl 1 (List.map (slRow 5 Mail.row) x1) :: .any :: .any :: .iv x15 :: an 32 []), [], []⟩ : St)) (m_slices_Concat_Mail_j1 x1) r ?_ fun J1 => ?_
  ·intro x15 h; rw [m_slices_Concat_Mail_j1] at h; (try dsimp only); refine V_go 3 ?_; dsimp only [e97, e97_L0, e97_L1, go_sem, Nat.reduceBEq, Nat.reduceAdd]; refine ⟨by simp, ?_⟩; obtain ⟨x16, ex16, h⟩ := Option.bind_eq_some_iff.1 h; refine V_callT [] [] trivial (t_slices_Grow_Mail_in_slices_Concat_Mail_1 x15 _ ex16) (h := ?_); dsimp only [go_sem, Nat.reduceBEq, Nat.reduceAdd]; refine V_go 9 ?_; dsimp only [e97, e97_L0, e97_L1, go_sem, Nat.reduceBEq, Nat.reduceAdd]; refine ⟨by simp, ?_⟩
   refine V_join (fun (x31 : (List Mail)) => (⟨(an 6 (.osl 0 :: an 29 [])), [], [some ⟨97, 5, List.map Mail.row x31⟩]⟩ : St)) m_slices_Concat_Mail_j3 r ?_ fun J3 => ?_
   ·intro x31 h; rw [m_slices_Concat_Mail_j3] at h; (try dsimp only); refine V_go 5 ?_; dsimp only [e97, e97_L0, e97_L1, go_sem, Nat.reduceBEq, Nat.reduceAdd]; refine ⟨by simp, ?_⟩; exact O_doneM Mail.row ok97 h rfl rfl
   ·refine V_go 1 ?_; dsimp only [e97, e97_L0, e97_L1, go_sem, Nat.reduceBEq, Nat.reduceAdd]; refine ⟨by simp, ?_⟩; refine M_loop h (fun ((x21, x22) : (Int × (List Mail))) => (⟨(an 6 (.osl 0 :: an 18 (.sl 1 (List.map (slRow 5 Mail.row) x1) :: .iv (ln (slRow 5 Mail.row) x1) :: .iv x21 :: an 8 []))), [], [some ⟨97, 5, List.map Mail.row x22⟩]⟩ : St)) (by simp [go_sem]) (by rintro ⟨x21, x22⟩; first | rfl | simp [go_sem]) ?_; rintro n1 ⟨x21, x22⟩ y1 h hin1 hout1; rw [m_slices_Concat_Mail_l2] at h; (try dsimp only); refine V_go 5 ?_
    dsimp only [e97, e97_L0, e97_L1, go_sem, Nat.reduceBEq, Nat.reduceAdd]; refine ⟨by simp, ?_⟩; refine M_ite h rfl (fun _ h => ?_) fun _ h => ?_
    ·refine V_go 5 ?_; dsimp only [e97, e97_L0, e97_L1, go_sem, Nat.reduceBEq, Nat.reduceAdd]; refine ⟨by simp, ?_⟩; obtain ⟨x23, ex23, h⟩ := Option.bind_eq_some_iff.1 h; refine V_idxM (slRow 5 Mail.row) ex23 trivial rfl rfl rfl ?_; refine V_go 6 ?_; dsimp only [e97, e97_L0, e97_L1, go_sem, Nat.reduceBEq, Nat.reduceAdd]; refine ⟨by simp, ?_⟩; obtain ⟨x24, ex24, h⟩ := Option.bind_eq_some_iff.1 h; refine V_appM Mail.row ex24 trivial rfl rfl rfl ?_; refine V_go 7 ?_; dsimp only [e97, e97_L0, e97_L1, go_sem, Nat.reduceBEq, Nat.reduceAdd]; refine ⟨by simp, ?_⟩; refine V_ren 1 0 rfl rfl rfl ?_
     dsimp only [go_sem, Nat.reduceBEq, Nat.reduceAdd]; exact M_back h hin1
    ·refine V_go 1 ?_; dsimp only [e97, e97_L0, e97_L1, go_sem, Nat.reduceBEq, Nat.reduceAdd]; refine ⟨by simp, ?_⟩; exact M_to J3 (s := x22) (M_out h hout1)
  ·refine V_go 1 ?_; dsimp only [e97, e97_L0, e97_L1, go_sem, Nat.reduceBEq, Nat.reduceAdd]; refine ⟨by simp, ?_⟩; refine M_loop h (fun ((x5, x6) : (Int × Int)) => (⟨(.sl 1 (List.map (slRow 5 Mail.row) x1) :: .any :: .any :: .iv x5 :: an 5 (.sl 1 (List.map (slRow 5 Mail.row) x1) :: .iv (ln (slRow 5 Mail.row) x1) :: .iv x6 :: an 24 [])), [], []⟩ : St)) (by simp [go_sem]) (by rintro ⟨x5, x6⟩; first | rfl | simp [go_sem]) ?_; rintro n1 ⟨x5, x6⟩ y1 h hin1 hout1; rw [m_slices_Concat_Mail_l1] at h; (try dsimp only); refine V_go 5 ?_
   dsimp only [e97, e97_L0, e97_L1, go_sem, Nat.reduceBEq, Nat.reduceAdd]; refine ⟨by simp, ?_⟩; refine M_ite h rfl (fun _ h => ?_) fun _ h => ?_
   ·refine V_go 5 ?_; dsimp only [e97, e97_L0, e97_L1, go_sem, Nat.reduceBEq, Nat.reduceAdd]; refine ⟨by simp, ?_⟩; obtain ⟨x7, ex7, h⟩ := Option.bind_eq_some_iff.1 h; refine V_idxM (slRow 5 Mail.row) ex7 trivial rfl rfl rfl ?_; refine V_go 16 ?_; dsimp only [e97, e97_L0, e97_L1, go_sem, Nat.reduceBEq, Nat.reduceAdd]; refine ⟨by simp, ?_⟩
    refine V_join (fun (_ : Unit) => (⟨(.sl 1 (List.map (slRow 5 Mail.row) x1) :: .any :: .any :: .iv (wr (x5 + (ln Mail.row x7))) :: an 5 (.sl 1 (List.map (slRow 5 Mail.row) x1) :: .iv (ln (slRow 5 Mail.row) x1) :: .iv x6 :: an 24 [])), [], []⟩ : St)) (m_slices_Concat_Mail_j2 x5 x6 x7) y1 ?_ fun J2 => ?_
    ·rintro ⟨⟩ h; rw [m_slices_Concat_Mail_j2] at h; (try dsimp only); refine V_go 5 ?_; dsimp only [e97, e97_L0, e97_L1, go_sem, Nat.reduceBEq, Nat.reduceAdd]; refine ⟨by simp, ?_⟩; exact M_back h hin1
    ·refine M_ite h rfl (fun _ h => ?_) fun _ h => ?_
     ·cases h
     ·refine V_go 1 ?_; dsimp only [e97, e97_L0, e97_L1, go_sem, Nat.reduceBEq, Nat.reduceAdd]; refine ⟨by simp, ?_⟩; exact M_to J2 (s := ()) h
   ·refine V_go 1 ?_; dsimp only [e97, e97_L0, e97_L1, go_sem, Nat.reduceBEq, Nat.reduceAdd]; refine ⟨by simp, ?_⟩; exact M_to J1 (s := x5) (M_out h hout1)
theorem k_slices_Concat_Mail (x1 : (List (List Mail))) (r : (List Mail)) (h : m_slices_Concat_Mail x1 = some r) : FunP Try.prog 97 [.sl 1 (List.map (slRow 5 Mail.row) x1)] (.sl 5 (List.map Mail.row r)) := (o_slices_Concat_Mail x1 r h).sealed
def f_slices_Concat_Mail_j3 (_F : Nat)  : (List Mail) → Option (List Mail)
| x31 =>
 some x31
theorem le_slices_Concat_Mail_j3 {F : Nat} : ∀ s, ole (f_slices_Concat_Mail_j3 F s) (m_slices_Concat_Mail_j3 s) := by
  intro x31
  unfold f_slices_Concat_Mail_j3 m_slices_Concat_Mail_j3
  try dsimp only
  with_reducible repeat' first | exact ole_refl _ | assumption | intro _ | refine ole_ifb ?_ ?_ | refine ole_bind ?_ ?_ | refine ole_map ?_ | refine ole_loop ?_
def f_slices_Concat_Mail_l2 (F : Nat) (x1 : (List (List Mail))) : (Int × (List Mail)) → Option ((Int × (List Mail)) ⊕ (List Mail))
| (x21, x22) =>
 ifb (decide (x21 < (ln (slRow 5 Mail.row) x1))) (
 (at_ x1 x21).bind fun x23 =>
 (app_ 40 x22 x23).bind fun x24 =>
 some (.inl (wr (x21 + 1), x24))) (
 Option.map Sum.inr (f_slices_Concat_Mail_j3 F x22))
theorem le_slices_Concat_Mail_l2 {F : Nat} {x1 : (List (List Mail))} : ∀ s, ole (f_slices_Concat_Mail_l2 F x1 s) (m_slices_Concat_Mail_l2 x1 s) := by
  rintro ⟨x21, x22⟩
  unfold f_slices_Concat_Mail_l2 m_slices_Concat_Mail_l2
  try dsimp only
  with_reducible repeat' first | exact ole_refl _ | assumption | intro _ | refine ole_ifb ?_ ?_ | refine ole_bind ?_ ?_ | refine ole_map ?_ | refine ole_loop ?_ | apply le_slices_Concat_Mail_j3
def f_slices_Concat_Mail_j1 (F : Nat) (x1 : (List (List Mail))) : Int → Option (List Mail)
| x15 =>
 (f_slices_Grow_Mail_in_slices_Concat_Mail_1 F x15).bind fun x16 =>
 loopF F (f_slices_Concat_Mail_l2 F x1) (0, x16)
theorem le_slices_Concat_Mail_j1 {F : Nat} {x1 : (List (List Mail))} : ∀ s, ole (f_slices_Concat_Mail_j1 F x1 s) (m_slices_Concat_Mail_j1 x1 s) := by
  intro x15
  unfold f_slices_Concat_Mail_j1 m_slices_Concat_Mail_j1
  try dsimp only
  with_reducible repeat' first | exact ole_refl _ | assumption | intro _ | refine ole_ifb ?_ ?_ | refine ole_bind ?_ ?_ | refine ole_map ?_ | refine ole_loop ?_ | apply le_slices_Concat_Mail_j3 | apply le_slices_Concat_Mail_l2 | apply le_slices_Grow_Mail_in_slices_Concat_Mail_1
def f_slices_Concat_Mail_j2 (_F : Nat) (x5 : Int) (x6 : Int) (x7 : (List Mail)) : Unit → Option ((Int × Int) ⊕ (List Mail))
| () =>
 some (.inl (wr (x5 + (ln Mail.row x7)), wr (x6 + 1)))
theorem le_slices_Concat_Mail_j2 {F : Nat} {x5 : Int} {x6 : Int} {x7 : (List Mail)} : ∀ s, ole (f_slices_Concat_Mail_j2 F x5 x6 x7 s) (m_slices_Concat_Mail_j2 x5 x6 x7 s) := by
  rintro ⟨⟩
  unfold f_slices_Concat_Mail_j2 m_slices_Concat_Mail_j2
  try dsimp only
  with_reducible repeat' first | exact ole_refl _ | assumption | intro _ | refine ole_ifb ?_ ?_ | refine ole_bind ?_ ?_ | refine ole_map ?_ | refine ole_loop ?_ | apply le_slices_Concat_Mail_j3 | apply le_slices_Concat_Mail_l2 | apply le_slices_Grow_Mail_in_slices_Concat_Mail_1 | apply le_slices_Concat_Mail_j1
def f_slices_Concat_Mail_l1 (F : Nat) (x1 : (List (List Mail))) : (Int × Int) → Option ((Int × Int) ⊕ (List Mail))
| (x5, x6) =>
 ifb (decide (x6 < (ln (slRow 5 Mail.row) x1))) (
 (at_ x1 x6).bind fun x7 =>
 ifb (decide ((wr (x5 + (ln Mail.row x7))) < 0)) (
 none) (
 (f_slices_Concat_Mail_j2 F x5 x6 x7) ())) (
 Option.map Sum.inr ((f_slices_Concat_Mail_j1 F x1) x5))
theorem le_slices_Concat_Mail_l1 {F : Nat} {x1 : (List (List Mail))} : ∀ s, ole (f_slices_Concat_Mail_l1 F x1 s) (m_slices_Concat_Mail_l1 x1 s) := by
  rintro ⟨x5, x6⟩
  unfold f_slices_Concat_Mail_l1 m_slices_Concat_Mail_l1
  try dsimp only
  with_reducible repeat' first | exact ole_refl _ | assumption | intro _ | refine ole_ifb ?_ ?_ | refine ole_bind ?_ ?_ | refine ole_map ?_ | refine ole_loop ?_ | apply le_slices_Concat_Mail_j3 | apply le_slices_Concat_Mail_l2 | apply le_slices_Grow_Mail_in_slices_Concat_Mail_1 | apply le_slices_Concat_Mail_j1 | apply le_slices_Concat_Mail_j2
def f_slices_Concat_Mail (F : Nat) (x1 : (List (List Mail))) : Option (List Mail) :=
 loopF F (f_slices_Concat_Mail_l1 F x1) (0, 0)
theorem le_slices_Concat_Mail {F : Nat} {x1 : (List (List Mail))} : ole (f_slices_Concat_Mail F x1) (m_slices_Concat_Mail x1) := by
  unfold f_slices_Concat_Mail m_slices_Concat_Mail
  with_reducible repeat' first | exact ole_refl _ | assumption | intro _ | refine ole_ifb ?_ ?_ | refine ole_bind ?_ ?_ | refine ole_map ?_ | refine ole_loop ?_ | apply le_slices_Concat_Mail_j3 | apply le_slices_Concat_Mail_l2 | apply le_slices_Grow_Mail_in_slices_Concat_Mail_1 | apply le_slices_Concat_Mail_j1 | apply le_slices_Concat_Mail_j2 | apply le_slices_Concat_Mail_l1
end NX
end Go.Proofs.Ytadebhbiglmodaa
/-
  The function narthex/table.act: its code compiled, a model, and that the code answers as the model. Written by a program of ours (lb.py). No statement of the seat is proved here.
-/
namespace Go.Proofs.Ytadebhbiglmodaa
namespace NX
open Go
set_option maxRecDepth 100000
set_option maxHeartbeats 4000000
def e98_L0 : EC := .seq (.reg [⟨(some 48), none, .bin .lss (.t 47) (.t 46)⟩]) (.seq (.ite (.t 48) (.skip) (.exit 0)) (.seq (.blk 1 (.seq (.reg [⟨(some 49), none, .idx 3 (.t 45) (.t 47)⟩, ⟨(some 50), none, .loadA 3 (.t 49)⟩, ⟨(some 13), none, .alloc 39 [.iv 0, .iv 0, .nl]⟩, ⟨none, none, .store 3 (.t 13) (.t 50)⟩]) (.seq (.seq (.reg [⟨(some 51), none, .fld 0 (.t 13)⟩, ⟨(some 52), none, .load (.t 51)⟩, ⟨(some 53), none, .mv (.t 1)⟩, ⟨(some 54), none, .bin .eql (.t 52) (.t 53)⟩]) (.ite (.t 54) (.reg [⟨(some 55), none, .loadA 3 (.t 8)⟩, ⟨none, none, .store 3 (.t 13) (.t 55)⟩]) (.skip))) (.seq (.reg [⟨(some 56), none, .fld 2 (.t 13)⟩, ⟨(some 57), none, .load (.t 56)⟩, ⟨(some 58), none, .call 121 [(.t 57)]⟩, ⟨(some 59), none, .fld 2 (.t 13)⟩, ⟨none, none, .store 1 (.t 59) (.t 58)⟩]) (.reg [⟨(some 60), none, .fld 0 (.t 11)⟩, ⟨(some 61), none, .load (.t 60)⟩, ⟨(some 62), none, .loadA 3 (.t 13)⟩, ⟨(some 63), none, .bsl 39 3 1 [.iv 0, .iv 0, .nl] [(0, (.t 62))]⟩, ⟨(some 64), none, .app 39 3 40 (.t 61) (.t 63)⟩, ⟨(some 65), none, .fld 0 (.t 11)⟩, ⟨none, none, .store 1 (.t 65) (.t 64)⟩]))))) (.reg [⟨(some 66), none, .bin .add (.t 47) (.c (.iv 1))⟩, ⟨(some 47), none, .mv (.t 66)⟩])))
def e98 : EC := .seq (.reg [⟨(some 3), none, .box 43 2 (.t 0)⟩, ⟨(some 6), none, .alloc 43 [.nl, .nl]⟩, ⟨(some 7), none, .mv (.c (.iv 0))⟩]) (.seq (.reg [⟨(some 15), none, .mv (.t 2)⟩, ⟨(some 16), none, .fld 0 (.t 3)⟩, ⟨(some 17), none, .load (.t 16)⟩, ⟨(some 18), none, .mv (.t 1)⟩, ⟨(some 19), none, .idx 3 (.t 17) (.t 18)⟩, ⟨(some 20), none, .loadA 3 (.t 19)⟩, ⟨(some 21), none, .callv (.t 15) [(.t 20)]⟩, ⟨(some 14), none, .mv (.t 21)⟩, ⟨(some 22), none, .ext (.t 14) 0⟩, ⟨(some 23), none, .ext (.t 14) 1⟩, ⟨(some 8), none, .alloc 39 [.iv 0, .iv 0, .nl]⟩, ⟨none, none, .store 3 (.t 8) (.t 22)⟩, ⟨(some 9), none, .mv (.t 23)⟩]) (.seq (.seq (.reg [⟨(some 24), none, .mv (.t 9)⟩, ⟨(some 25), none, .bin .neq (.t 24) (.c (.iv 0))⟩]) (.ite (.t 25) (.seq (.reg [⟨(some 26), none, .build [.nl, .nl] []⟩, ⟨(some 27), none, .mv (.t 9)⟩, ⟨none, none, .store 2 (.t 6) (.t 26)⟩, ⟨(some 7), none, .mv (.t 27)⟩]) (.ret)) (.skip))) (.seq (.reg [⟨(some 29), none, .loadA 3 (.t 8)⟩, ⟨(some 30), none, .call 120 [(.t 29)]⟩, ⟨(some 28), none, .mv (.t 30)⟩, ⟨(some 31), none, .ext (.t 28) 0⟩, ⟨(some 32), none, .ext (.t 28) 1⟩, ⟨(some 33), none, .ext (.t 28) 2⟩, ⟨none, none, .store 3 (.t 8) (.t 31)⟩, ⟨(some 10), none, .mv (.t 32)⟩, ⟨(some 9), none, .mv (.t 33)⟩]) (.seq (.seq (.reg [⟨(some 34), none, .mv (.t 9)⟩, ⟨(some 35), none, .bin .neq (.t 34) (.c (.iv 0))⟩]) (.ite (.t 35) (.seq (.reg [⟨(some 36), none, .build [.nl, .nl] []⟩, ⟨(some 37), none, .mv (.t 9)⟩, ⟨none, none, .store 2 (.t 6) (.t 36)⟩, ⟨(some 7), none, .mv (.t 37)⟩]) (.ret)) (.skip))) (.seq (.reg [⟨(some 38), none, .fld 1 (.t 3)⟩, ⟨(some 39), none, .load (.t 38)⟩, ⟨(some 40), none, .mv (.t 10)⟩, ⟨(some 41), none, .bsl 41 1 2 [.nl] [(0, (.t 39)), (1, (.t 40))]⟩, ⟨(some 42), none, .call 97 [(.t 41)]⟩, ⟨(some 43), none, .build [.nl, .nl] [(1, 1, (.t 42))]⟩, ⟨(some 11), none, .alloc 43 [.nl, .nl]⟩, ⟨none, none, .store 2 (.t 11) (.t 43)⟩]) (.seq (.seq (.reg [⟨(some 44), none, .fld 0 (.t 3)⟩, ⟨(some 45), none, .load (.t 44)⟩, ⟨(some 46), none, .len (.t 45)⟩, ⟨(some 47), none, .mv (.c (.iv 0))⟩]) (.blk 0 (.loop e98_L0))) (.seq (.reg [⟨(some 67), none, .loadA 2 (.t 11)⟩, ⟨none, none, .store 2 (.t 6) (.t 67)⟩, ⟨(some 7), none, .mv (.c (.iv 0))⟩]) (.ret))))))))
theorem ok98 : FnOK Try.prog 98 Try.f98 e98 [.c 6 (some 2), .t 7] 3 65 := ⟨by kernel_rfl, ⟨_, rfl, by kernel_rfl⟩, by kernel_rfl, by kernel_rfl⟩
/- narthex/table.act -/
noncomputable def m_table_act_j1 (x6 : (List Mail)) : (List Diner) → Option (Scene × Int)
| x28 =>
 some ((Scene.mk x28 x6), 0)
noncomputable def m_table_act_j2 (x13 : Int) (x14 : (List Diner)) : Diner → Option ((Int × (List Diner)) ⊕ (Scene × Int))
| x16 =>
 (m_slices_Clone_Side x16.Sides).bind fun x17 =>
 (app_ 40 x14 ([(Diner.mk x16.ID x16.Phase x17)])).bind fun x18 =>
 some (.inl (wr (x13 + 1), x18))
noncomputable def m_table_act_l1 (x1 : Scene) (x2 : Int) (x5 : (Diner × (List Mail) × Int)) (x6 : (List Mail)) : (Int × (List Diner)) → Option ((Int × (List Diner)) ⊕ (Scene × Int))
| (x13, x14) =>
 ifb (decide (x13 < (ln Diner.row x1.Diners))) (
 (at_ x1.Diners x13).bind fun x15 =>
 ifb (decide (x15.ID = x2)) (
 (m_table_act_j2 x13 x14) x5.1) (
 (m_table_act_j2 x13 x14) x15)) (
 Option.map Sum.inr ((m_table_act_j1 x6) x14))
noncomputable def m_table_act (x1 : Scene) (x2 : Int) (p2 : (Diner → Option (Diner × Int))) : Option (Scene × Int) :=
 (at_ x1.Diners x2).bind fun x3 =>
 (p2 x3).bind fun x4 =>
 ifb (!decide (x4.2 = 0)) (
 some ((Scene.mk (([] : (List Diner))) (([] : (List Mail)))), x4.2)) (
 (m_dine_Fire x4.1).bind fun x5 =>
 ifb (!decide (x5.2.2 = 0)) (
 some ((Scene.mk (([] : (List Diner))) (([] : (List Mail)))), x5.2.2)) (
 (m_slices_Concat_Mail ([x1.Mail, x5.2.1])).bind fun x6 =>
 loop (m_table_act_l1 x1 x2 x5 x6) (0, ([] : List Diner))))
theorem k_table_act (x1 : Scene) (x2 : Int) (g2 : Nat) (caps2 : List AV) (p2 : (Diner → Option (Diner × Int))) (hc2 : CloOK Try.prog g2 caps2 (fun z => [.agg (Diner.row z)]) p2 (fun z => .tup [.agg (Diner.row z.1), .iv z.2])) (r : (Scene × Int)) (h : m_table_act x1 x2 p2 = some r) : FunP Try.prog 98 [.agg (Scene.row x1), .iv x2, .clo g2 caps2] (.tup [.agg (Scene.row r.1), .iv r.2]) := by
  refine FunP_intro ok98 rfl rfl fun w0 H0 => ?_
  rw [m_table_act] at h
  refine V_go 12 ?_; dsimp only [e98, e98_L0, go_sem, Nat.reduceBEq, Nat.reduceAdd]; refine ⟨by simp, ?_⟩; obtain ⟨x3, ex3, h⟩ := Option.bind_eq_some_iff.1 h; refine V_idxM Diner.row ex3 trivial rfl rfl rfl ?_; refine V_go 1 ?_; dsimp only [e98, e98_L0, go_sem, Nat.reduceBEq, Nat.reduceAdd]; refine ⟨by simp, ?_⟩; obtain ⟨x4, ex4, h⟩ := Option.bind_eq_some_iff.1 h; refine V_callp trivial rfl hc2 (x := x3) ex4 (by first | exact leL_refl _ | simp [go_sem]) (by first | rfl | simp [go_sem, hc2.pu]) ?_; refine V_go 13 ?_; dsimp only [e98, e98_L0, go_sem, Nat.reduceBEq, Nat.reduceAdd]
  refine ⟨by simp, ?_⟩; refine M_ite h rfl (fun _ h => ?_) fun _ h => ?_
  ·refine V_go 7 ?_; dsimp only [e98, e98_L0, go_sem, Nat.reduceBEq, Nat.reduceAdd]; refine ⟨by simp, ?_⟩; exact M_done (res := fun (r : (Scene × Int)) => .tup [.agg (Scene.row r.1), .iv r.2]) ok98 h
  ·refine V_go 4 ?_; dsimp only [e98, e98_L0, go_sem, Nat.reduceBEq, Nat.reduceAdd]; refine ⟨by simp, ?_⟩; obtain ⟨x5, ex5, h⟩ := Option.bind_eq_some_iff.1 h; refine V_call trivial (k_dine_Fire x4.1 _ ex5) (hp := (by first | rfl | simp [go_sem, hc2.pu])) (h := ?_); refine V_go 14 ?_; dsimp only [e98, e98_L0, go_sem, Nat.reduceBEq, Nat.reduceAdd]; refine ⟨by simp, ?_⟩; refine M_ite h rfl (fun _ h => ?_) fun _ h => ?_
   ·refine V_go 7 ?_; dsimp only [e98, e98_L0, go_sem, Nat.reduceBEq, Nat.reduceAdd]; refine ⟨by simp, ?_⟩; exact M_done (res := fun (r : (Scene × Int)) => .tup [.agg (Scene.row r.1), .iv r.2]) ok98 h
   ·refine V_go 7 ?_; dsimp only [e98, e98_L0, go_sem, Nat.reduceBEq, Nat.reduceAdd]; refine ⟨by simp, ?_⟩; refine V_seal 0 rfl ?_; dsimp only [go_sem, Nat.reduceBEq, Nat.reduceAdd]; obtain ⟨x6, ex6, h⟩ := Option.bind_eq_some_iff.1 h; refine V_callO trivial (o_slices_Concat_Mail ([x1.Mail, x5.2.1]) _ ex6) (hp := (by first | rfl | simp [go_sem, hc2.pu])) (h := ?_); refine V_go 12 ?_; dsimp only [e98, e98_L0, go_sem, Nat.reduceBEq, Nat.reduceAdd]; refine ⟨by simp, ?_⟩
    refine V_join (fun (x28 : (List Diner)) => (⟨(an 6 (.ptr 1 0 :: an 4 (.ptr 3 0 :: an 56 []))), [none, some ⟨43, [.nl, .nl]⟩, none, some ⟨43, [.osl 2, .osl 1]⟩], [none, some ⟨97, 5, List.map Mail.row x6⟩, some ⟨39, 3, List.map Diner.row x28⟩]⟩ : St)) (m_table_act_j1 x6) r ?_ fun J1 => ?_
    ·intro x28 h; rw [m_table_act_j1] at h; (try dsimp only); refine V_go 6 ?_; dsimp only [e98, e98_L0, go_sem, Nat.reduceBEq, Nat.reduceAdd]; refine ⟨by simp, ?_⟩; refine V_seal 2 rfl ?_; dsimp only [go_sem, Nat.reduceBEq, Nat.reduceAdd]; refine V_seal 1 rfl ?_; dsimp only [go_sem, Nat.reduceBEq, Nat.reduceAdd]; exact M_done (res := fun (r : (Scene × Int)) => .tup [.agg (Scene.row r.1), .iv r.2]) ok98 h
    ·refine V_go 1 ?_; dsimp only [e98, e98_L0, go_sem, Nat.reduceBEq, Nat.reduceAdd]; refine ⟨by simp, ?_⟩; refine V_ownB 3 0 39 3 rfl rfl rfl ?_; dsimp only [go_sem, Nat.reduceBEq, Nat.reduceAdd]
     refine M_loop h (fun ((x13, x14) : (Int × (List Diner))) => (⟨(.any :: .iv x2 :: an 4 (.ptr 1 0 :: .any :: .ptr 2 0 :: .any :: .any :: .ptr 3 0 :: an 33 (.sl 3 (List.map Diner.row x1.Diners) :: .iv (ln Diner.row x1.Diners) :: .iv x13 :: an 20 []))), [none, some ⟨43, [.nl, .nl]⟩, some ⟨39, [.iv x5.1.ID, .iv x5.1.Phase, .sl 8 (List.map Side.row x5.1.Sides)]⟩, some ⟨43, [.osl 2, .osl 1]⟩], [none, some ⟨97, 5, List.map Mail.row x6⟩, some ⟨39, 3, List.map Diner.row x14⟩]⟩ : St)) (by simp [go_sem]) (by rintro ⟨x13, x14⟩; first | rfl | simp [go_sem, puL_ok _ hc2.pu]) ?_
     rintro n1 ⟨x13, x14⟩ y1 h hin1 hout1; rw [m_table_act_l1] at h; (try dsimp only); refine V_go 5 ?_; dsimp only [e98, e98_L0, go_sem, Nat.reduceBEq, Nat.reduceAdd]; refine ⟨by simp, ?_⟩; refine M_ite h rfl (fun _ h => ?_) fun _ h => ?_
     ·refine V_go 5 ?_; dsimp only [e98, e98_L0, go_sem, Nat.reduceBEq, Nat.reduceAdd]; refine ⟨by simp, ?_⟩; obtain ⟨x15, ex15, h⟩ := Option.bind_eq_some_iff.1 h; refine V_idxM Diner.row ex15 trivial rfl rfl rfl ?_; refine V_go 12 ?_; dsimp only [e98, e98_L0, go_sem, Nat.reduceBEq, Nat.reduceAdd]; refine ⟨by simp, ?_⟩
      refine V_join (fun (x16 : Diner) => (⟨(.any :: .iv x2 :: an 4 (.ptr 1 0 :: .any :: .ptr 2 0 :: .any :: .any :: .ptr 3 0 :: .any :: .ptr 4 0 :: an 31 (.sl 3 (List.map Diner.row x1.Diners) :: .iv (ln Diner.row x1.Diners) :: .iv x13 :: an 20 []))), [none, some ⟨43, [.nl, .nl]⟩, some ⟨39, [.iv x5.1.ID, .iv x5.1.Phase, .sl 8 (List.map Side.row x5.1.Sides)]⟩, some ⟨43, [.osl 2, .osl 1]⟩, some ⟨39, [.iv x16.ID, .iv x16.Phase, .sl 8 (List.map Side.row x16.Sides)]⟩], [none, some ⟨97, 5, List.map Mail.row x6⟩, some ⟨39, 3, List.map Diner.row x14⟩]⟩ : St)) (m_table_act_j2 x13 x14) y1 ?_ fun J2 => ?_
      ·intro x16 h; rw [m_table_act_j2] at h; (try dsimp only); refine V_go 4 ?_; dsimp only [e98, e98_L0, go_sem, Nat.reduceBEq, Nat.reduceAdd]; refine ⟨by simp, ?_⟩; obtain ⟨x17, ex17, h⟩ := Option.bind_eq_some_iff.1 h; refine V_callO trivial (o_slices_Clone_Side x16.Sides _ ex17) (hp := (by first | rfl | simp [go_sem, hc2.pu])) (h := ?_); refine V_go 7 ?_; dsimp only [e98, e98_L0, go_sem, Nat.reduceBEq, Nat.reduceAdd]; refine ⟨by simp, ?_⟩; refine V_seal 3 rfl ?_; dsimp only [go_sem, Nat.reduceBEq, Nat.reduceAdd]; refine V_go 1 ?_
       dsimp only [e98, e98_L0, go_sem, Nat.reduceBEq, Nat.reduceAdd]; refine ⟨by simp, ?_⟩; obtain ⟨x18, ex18, h⟩ := Option.bind_eq_some_iff.1 h; refine V_appM Diner.row ex18 trivial rfl rfl rfl ?_; refine V_go 8 ?_; dsimp only [e98, e98_L0, go_sem, Nat.reduceBEq, Nat.reduceAdd]; refine ⟨by simp, ?_⟩; refine V_ren 5 2 rfl rfl rfl ?_; dsimp only [go_sem, Nat.reduceBEq, Nat.reduceAdd]; exact M_back h hin1 (hok := by first | rfl | simp [go_sem, puL_ok _ hc2.pu])
      ·refine M_ite h rfl (fun _ h => ?_) fun _ h => ?_
       ·refine V_go 4 ?_; dsimp only [e98, e98_L0, go_sem, Nat.reduceBEq, Nat.reduceAdd]; refine ⟨by simp, ?_⟩; exact M_to J2 (s := x5.1) h (hok := by first | rfl | simp [go_sem, puL_ok _ hc2.pu])
       ·refine V_go 1 ?_; dsimp only [e98, e98_L0, go_sem, Nat.reduceBEq, Nat.reduceAdd]; refine ⟨by simp, ?_⟩; exact M_to J2 (s := x15) h (hok := by first | rfl | simp [go_sem, puL_ok _ hc2.pu])
     ·refine V_go 1 ?_; dsimp only [e98, e98_L0, go_sem, Nat.reduceBEq, Nat.reduceAdd]; refine ⟨by simp, ?_⟩; exact M_to J1 (s := x14) (M_out h hout1) (hok := by first | rfl | simp [go_sem, puL_ok _ hc2.pu])
def f_table_act_j1 (_F : Nat) (x6 : (List Mail)) : (List Diner) → Option (Scene × Int)
| x28 =>
 some ((Scene.mk x28 x6), 0)
theorem le_table_act_j1 {F : Nat} {x6 : (List Mail)} : ∀ s, ole (f_table_act_j1 F x6 s) (m_table_act_j1 x6 s) := by
  intro x28
  unfold f_table_act_j1 m_table_act_j1
  try dsimp only
  with_reducible repeat' first | exact ole_refl _ | assumption | intro _ | refine ole_ifb ?_ ?_ | refine ole_bind ?_ ?_ | refine ole_map ?_ | refine ole_loop ?_ | apply h_p2
def f_table_act_j2 (F : Nat) (x13 : Int) (x14 : (List Diner)) : Diner → Option ((Int × (List Diner)) ⊕ (Scene × Int))
| x16 =>
 (f_slices_Clone_Side F x16.Sides).bind fun x17 =>
 (app_ 40 x14 ([(Diner.mk x16.ID x16.Phase x17)])).bind fun x18 =>
 some (.inl (wr (x13 + 1), x18))
theorem le_table_act_j2 {F : Nat} {x13 : Int} {x14 : (List Diner)} : ∀ s, ole (f_table_act_j2 F x13 x14 s) (m_table_act_j2 x13 x14 s) := by
  intro x16
  unfold f_table_act_j2 m_table_act_j2
  try dsimp only
  with_reducible repeat' first | exact ole_refl _ | assumption | intro _ | refine ole_ifb ?_ ?_ | refine ole_bind ?_ ?_ | refine ole_map ?_ | refine ole_loop ?_ | apply le_table_act_j1 | apply le_slices_Clone_Side | apply h_p2
def f_table_act_l1 (F : Nat) (x1 : Scene) (x2 : Int) (x5 : (Diner × (List Mail) × Int)) (x6 : (List Mail)) : (Int × (List Diner)) → Option ((Int × (List Diner)) ⊕ (Scene × Int))
| (x13, x14) =>
 ifb (decide (x13 < (ln Diner.row x1.Diners))) (
 (at_ x1.Diners x13).bind fun x15 =>
 ifb (decide (x15.ID = x2)) (
 (f_table_act_j2 F x13 x14) x5.1) (
 (f_table_act_j2 F x13 x14) x15)) (
 Option.map Sum.inr ((f_table_act_j1 F x6) x14))
theorem le_table_act_l1 {F : Nat} {x1 : Scene} {x2 : Int} {x5 : (Diner × (List Mail) × Int)} {x6 : (List Mail)} : ∀ s, ole (f_table_act_l1 F x1 x2 x5 x6 s) (m_table_act_l1 x1 x2 x5 x6 s) := by
  rintro ⟨x13, x14⟩
  unfold f_table_act_l1 m_table_act_l1
  try dsimp only
  with_reducible repeat' first | exact ole_refl _ | assumption | intro _ | refine ole_ifb ?_ ?_ | refine ole_bind ?_ ?_ | refine ole_map ?_ | refine ole_loop ?_ | apply le_table_act_j1 | apply le_slices_Clone_Side | apply le_table_act_j2 | apply h_p2
def f_table_act (F : Nat) (x1 : Scene) (x2 : Int) (p2 : (Diner → Option (Diner × Int))) : Option (Scene × Int) :=
 (at_ x1.Diners x2).bind fun x3 =>
 (p2 x3).bind fun x4 =>
 ifb (!decide (x4.2 = 0)) (
 some ((Scene.mk (([] : (List Diner))) (([] : (List Mail)))), x4.2)) (
 (f_dine_Fire F x4.1).bind fun x5 =>
 ifb (!decide (x5.2.2 = 0)) (
 some ((Scene.mk (([] : (List Diner))) (([] : (List Mail)))), x5.2.2)) (
 (f_slices_Concat_Mail F ([x1.Mail, x5.2.1])).bind fun x6 =>
 loopF F (f_table_act_l1 F x1 x2 x5 x6) (0, ([] : List Diner))))
theorem le_table_act {F : Nat} {x1 : Scene} {x2 : Int} {p2 q2 : (Diner → Option (Diner × Int))} (h_p2 : ∀ z, ole (p2 z) (q2 z)) : ole (f_table_act F x1 x2 p2) (m_table_act x1 x2 q2) := by
  unfold f_table_act m_table_act
  with_reducible repeat' first | exact ole_refl _ | assumption | intro _ | refine ole_ifb ?_ ?_ | refine ole_bind ?_ ?_ | refine ole_map ?_ | refine ole_loop ?_ | apply le_table_act_j1 | apply le_slices_Clone_Side | apply le_table_act_j2 | apply le_table_act_l1 | apply le_dine_Fire | apply le_slices_Concat_Mail | apply h_p2
end NX
end Go.Proofs.Ytadebhbiglmodaa
/-
  The function narthex/table.turn: its code compiled, a model, and that the code answers as the model. Written by a program of ours (lb.py). No statement of the seat is proved here.
-/
namespace Go.Proofs.Ytadebhbiglmodaa
namespace NX
open Go
set_option maxRecDepth 100000
set_option maxHeartbeats 4000000
def e76 : EC := .seq (.reg [⟨(some 3), none, .box 43 2 (.t 0)⟩, ⟨(some 6), none, .alloc 43 [.nl, .nl]⟩, ⟨(some 7), none, .mv (.c (.iv 0))⟩]) (.seq (.seq (.reg [⟨(some 9), none, .loadA 2 (.t 3)⟩, ⟨(some 10), none, .call 71 [(.t 9)]⟩, ⟨(some 8), none, .mv (.t 10)⟩]) (.seq (.reg [⟨(some 11), none, .mv (.t 8)⟩, ⟨(some 12), none, .bin .neq (.t 11) (.c (.iv 0))⟩]) (.ite (.t 12) (.seq (.reg [⟨(some 13), none, .build [.nl, .nl] []⟩, ⟨(some 14), none, .mv (.t 8)⟩, ⟨none, none, .store 2 (.t 6) (.t 13)⟩, ⟨(some 7), none, .mv (.t 14)⟩]) (.ret)) (.skip)))) (.seq (.seq (.reg [⟨(some 15), none, .loadA 2 (.t 3)⟩, ⟨(some 16), none, .mv (.t 1)⟩, ⟨(some 17), none, .call 73 [(.t 15), (.t 16)]⟩, ⟨(some 18), none, .not (.t 17)⟩]) (.ite (.t 18) (.seq (.reg [⟨(some 19), none, .build [.nl, .nl] []⟩, ⟨none, none, .store 2 (.t 6) (.t 19)⟩, ⟨(some 7), none, .mv (.c (.iv 140))⟩]) (.ret)) (.skip))) (.seq (.reg [⟨(some 20), none, .loadA 2 (.t 3)⟩, ⟨(some 21), none, .mv (.t 1)⟩, ⟨(some 22), none, .mv (.t 2)⟩, ⟨(some 23), none, .call 98 [(.t 20), (.t 21), (.t 22)]⟩, ⟨(some 24), none, .ext (.t 23) 0⟩, ⟨(some 25), none, .ext (.t 23) 1⟩, ⟨none, none, .store 2 (.t 6) (.t 24)⟩, ⟨(some 7), none, .mv (.t 25)⟩]) (.ret))))
theorem ok76 : FnOK Try.prog 76 Try.f76 e76 [.c 6 (some 2), .t 7] 3 23 := ⟨by kernel_rfl, ⟨_, rfl, by kernel_rfl⟩, by kernel_rfl, by kernel_rfl⟩
/- narthex/table.turn -/
noncomputable def m_table_turn (x1 : Scene) (x2 : Int) (p2 : (Diner → Option (Diner × Int))) : Option (Scene × Int) :=
 (m_table_Check x1).bind fun x3 =>
 ifb (!decide (x3 = 0)) (
 some ((Scene.mk (([] : (List Diner))) (([] : (List Mail)))), x3)) (
 (m_table_there x1 x2).bind fun x4 =>
 ifb (!x4) (
 some ((Scene.mk (([] : (List Diner))) (([] : (List Mail)))), 140)) (
 (m_table_act x1 x2 p2).bind fun x5 =>
 some (x5.1, x5.2)))
theorem k_table_turn (x1 : Scene) (x2 : Int) (g2 : Nat) (caps2 : List AV) (p2 : (Diner → Option (Diner × Int))) (hc2 : CloOK Try.prog g2 caps2 (fun z => [.agg (Diner.row z)]) p2 (fun z => .tup [.agg (Diner.row z.1), .iv z.2])) (r : (Scene × Int)) (h : m_table_turn x1 x2 p2 = some r) : FunP Try.prog 76 [.agg (Scene.row x1), .iv x2, .clo g2 caps2] (.tup [.agg (Scene.row r.1), .iv r.2]) := by
  refine FunP_intro ok76 rfl rfl fun w0 H0 => ?_
  rw [m_table_turn] at h
  refine V_go 10 ?_; dsimp only [e76, go_sem, Nat.reduceBEq, Nat.reduceAdd]; refine ⟨by simp, ?_⟩; obtain ⟨x3, ex3, h⟩ := Option.bind_eq_some_iff.1 h; refine V_call trivial (k_table_Check x1 _ ex3) (hp := (by first | rfl | simp [go_sem, hc2.pu])) (h := ?_); refine V_go 7 ?_; dsimp only [e76, go_sem, Nat.reduceBEq, Nat.reduceAdd]; refine ⟨by simp, ?_⟩; refine M_ite h rfl (fun _ h => ?_) fun _ h => ?_
  ·refine V_go 7 ?_; dsimp only [e76, go_sem, Nat.reduceBEq, Nat.reduceAdd]; refine ⟨by simp, ?_⟩; exact M_done (res := fun (r : (Scene × Int)) => .tup [.agg (Scene.row r.1), .iv r.2]) ok76 h
  ·refine V_go 6 ?_; dsimp only [e76, go_sem, Nat.reduceBEq, Nat.reduceAdd]; refine ⟨by simp, ?_⟩; obtain ⟨x4, ex4, h⟩ := Option.bind_eq_some_iff.1 h; refine V_call trivial (k_table_there x1 x2 _ ex4) (hp := (by first | rfl | simp [go_sem, hc2.pu])) (h := ?_); refine V_go 2 ?_; dsimp only [e76, go_sem, Nat.reduceBEq, Nat.reduceAdd]; refine ⟨by simp, ?_⟩; refine M_ite h rfl (fun _ h => ?_) fun _ h => ?_
   ·refine V_go 6 ?_; dsimp only [e76, go_sem, Nat.reduceBEq, Nat.reduceAdd]; refine ⟨by simp, ?_⟩; exact M_done (res := fun (r : (Scene × Int)) => .tup [.agg (Scene.row r.1), .iv r.2]) ok76 h
   ·refine V_go 6 ?_; dsimp only [e76, go_sem, Nat.reduceBEq, Nat.reduceAdd]; refine ⟨by simp, ?_⟩; obtain ⟨x5, ex5, h⟩ := Option.bind_eq_some_iff.1 h; refine V_call trivial (k_table_act x1 x2 _ _ p2 hc2 _ ex5) (hp := (by first | rfl | simp [go_sem, hc2.pu])) (h := ?_); refine V_go 5 ?_; dsimp only [e76, go_sem, Nat.reduceBEq, Nat.reduceAdd]; refine ⟨by simp, ?_⟩; exact M_done (res := fun (r : (Scene × Int)) => .tup [.agg (Scene.row r.1), .iv r.2]) ok76 h
def f_table_turn (F : Nat) (x1 : Scene) (x2 : Int) (p2 : (Diner → Option (Diner × Int))) : Option (Scene × Int) :=
 (f_table_Check F x1).bind fun x3 =>
 ifb (!decide (x3 = 0)) (
 some ((Scene.mk (([] : (List Diner))) (([] : (List Mail)))), x3)) (
 (f_table_there F x1 x2).bind fun x4 =>
 ifb (!x4) (
 some ((Scene.mk (([] : (List Diner))) (([] : (List Mail)))), 140)) (
 (f_table_act F x1 x2 p2).bind fun x5 =>
 some (x5.1, x5.2)))
theorem le_table_turn {F : Nat} {x1 : Scene} {x2 : Int} {p2 q2 : (Diner → Option (Diner × Int))} (h_p2 : ∀ z, ole (p2 z) (q2 z)) : ole (f_table_turn F x1 x2 p2) (m_table_turn x1 x2 q2) := by
  unfold f_table_turn m_table_turn
  with_reducible repeat' first | exact ole_refl _ | assumption | intro _ | refine ole_ifb ?_ ?_ | refine ole_bind ?_ ?_ | refine ole_map ?_ | refine ole_loop ?_ | apply le_table_Check | apply le_table_there | apply le_table_act | apply h_p2
end NX
end Go.Proofs.Ytadebhbiglmodaa
/-
  The function narthex/table.Start: its code compiled, a model, and that the code answers as the model. Written by a program of ours (lb.py). No statement of the seat is proved here.
-/
namespace Go.Proofs.Ytadebhbiglmodaa
namespace NX
open Go
set_option maxRecDepth 100000
set_option maxHeartbeats 4000000
def e69 : EC := .seq (.reg [⟨(some 2), none, .box 43 2 (.t 0)⟩, ⟨(some 4), none, .alloc 43 [.nl, .nl]⟩, ⟨(some 5), none, .mv (.c (.iv 0))⟩]) (.seq (.reg [⟨(some 6), none, .loadA 2 (.t 2)⟩, ⟨(some 7), none, .mv (.t 1)⟩, ⟨(some 8), none, .call 76 [(.t 6), (.t 7), (.c (.clo 94 []))]⟩, ⟨(some 9), none, .ext (.t 8) 0⟩, ⟨(some 10), none, .ext (.t 8) 1⟩, ⟨none, none, .store 2 (.t 4) (.t 9)⟩, ⟨(some 5), none, .mv (.t 10)⟩]) (.ret))
theorem ok69 : FnOK Try.prog 69 Try.f69 e69 [.c 4 (some 2), .t 5] 2 9 := ⟨by kernel_rfl, ⟨_, rfl, by kernel_rfl⟩, by kernel_rfl, by kernel_rfl⟩
/- narthex/table.Start -/
noncomputable def m_table_Start (x1 : Scene) (x2 : Int) : Option (Scene × Int) :=
 (m_table_turn x1 x2 ((fun z => m_dine_Start z))).bind fun x3 =>
 some (x3.1, x3.2)
theorem k_table_Start (x1 : Scene) (x2 : Int) (r : (Scene × Int)) (h : m_table_Start x1 x2 = some r) : FunP Try.prog 69 [.agg (Scene.row x1), .iv x2] (.tup [.agg (Scene.row r.1), .iv r.2]) := by
  refine FunP_intro ok69 rfl rfl fun w0 H0 => ?_
  rw [m_table_Start] at h
  refine V_go 10 ?_; dsimp only [e69, go_sem, Nat.reduceBEq, Nat.reduceAdd]; refine ⟨by simp, ?_⟩; obtain ⟨x3, ex3, h⟩ := Option.bind_eq_some_iff.1 h; refine V_call trivial (k_table_turn x1 x2 _ _ ((fun z => m_dine_Start z)) ⟨by kernel_rfl, rfl, fun z r hz => k_dine_Start z r hz⟩ _ ex3) (h := ?_); refine V_go 5 ?_; dsimp only [e69, go_sem, Nat.reduceBEq, Nat.reduceAdd]; refine ⟨by simp, ?_⟩; exact M_done (res := fun (r : (Scene × Int)) => .tup [.agg (Scene.row r.1), .iv r.2]) ok69 h
def f_table_Start (F : Nat) (x1 : Scene) (x2 : Int) : Option (Scene × Int) :=
 (f_table_turn F x1 x2 ((fun z => f_dine_Start F z))).bind fun x3 =>
 some (x3.1, x3.2)
theorem le_table_Start {F : Nat} {x1 : Scene} {x2 : Int} : ole (f_table_Start F x1 x2) (m_table_Start x1 x2) := by
  unfold f_table_Start m_table_Start
  with_reducible repeat' first | exact ole_refl _ | assumption | intro _ | refine ole_ifb ?_ ?_ | refine ole_bind ?_ ?_ | refine ole_map ?_ | refine ole_loop ?_ | apply le_table_turn | apply le_dine_Start
end NX
end Go.Proofs.Ytadebhbiglmodaa
/-
  The function narthex/table.Stop: its code compiled, a model, and that the code answers as the model. Written by a program of ours (lb.py). No statement of the seat is proved here.
-/
namespace Go.Proofs.Ytadebhbiglmodaa
namespace NX
open Go
set_option maxRecDepth 100000
set_option maxHeartbeats 4000000
def e44 : EC := .seq (.reg [⟨(some 2), none, .box 43 2 (.t 0)⟩, ⟨(some 4), none, .alloc 43 [.nl, .nl]⟩, ⟨(some 5), none, .mv (.c (.iv 0))⟩]) (.seq (.reg [⟨(some 6), none, .loadA 2 (.t 2)⟩, ⟨(some 7), none, .mv (.t 1)⟩, ⟨(some 8), none, .call 76 [(.t 6), (.t 7), (.c (.clo 77 []))]⟩, ⟨(some 9), none, .ext (.t 8) 0⟩, ⟨(some 10), none, .ext (.t 8) 1⟩, ⟨none, none, .store 2 (.t 4) (.t 9)⟩, ⟨(some 5), none, .mv (.t 10)⟩]) (.ret))
theorem ok44 : FnOK Try.prog 44 Try.f44 e44 [.c 4 (some 2), .t 5] 2 9 := ⟨by kernel_rfl, ⟨_, rfl, by kernel_rfl⟩, by kernel_rfl, by kernel_rfl⟩
/- narthex/table.Stop -/
noncomputable def m_table_Stop (x1 : Scene) (x2 : Int) : Option (Scene × Int) :=
 (m_table_turn x1 x2 ((fun z => m_dine_Stop z))).bind fun x3 =>
 some (x3.1, x3.2)
theorem k_table_Stop (x1 : Scene) (x2 : Int) (r : (Scene × Int)) (h : m_table_Stop x1 x2 = some r) : FunP Try.prog 44 [.agg (Scene.row x1), .iv x2] (.tup [.agg (Scene.row r.1), .iv r.2]) := by
  refine FunP_intro ok44 rfl rfl fun w0 H0 => ?_
  rw [m_table_Stop] at h
  refine V_go 10 ?_; dsimp only [e44, go_sem, Nat.reduceBEq, Nat.reduceAdd]; refine ⟨by simp, ?_⟩; obtain ⟨x3, ex3, h⟩ := Option.bind_eq_some_iff.1 h; refine V_call trivial (k_table_turn x1 x2 _ _ ((fun z => m_dine_Stop z)) ⟨by kernel_rfl, rfl, fun z r hz => k_dine_Stop z r hz⟩ _ ex3) (h := ?_); refine V_go 5 ?_; dsimp only [e44, go_sem, Nat.reduceBEq, Nat.reduceAdd]; refine ⟨by simp, ?_⟩; exact M_done (res := fun (r : (Scene × Int)) => .tup [.agg (Scene.row r.1), .iv r.2]) ok44 h
def f_table_Stop (F : Nat) (x1 : Scene) (x2 : Int) : Option (Scene × Int) :=
 (f_table_turn F x1 x2 ((fun z => f_dine_Stop F z))).bind fun x3 =>
 some (x3.1, x3.2)
theorem le_table_Stop {F : Nat} {x1 : Scene} {x2 : Int} : ole (f_table_Stop F x1 x2) (m_table_Stop x1 x2) := by
  unfold f_table_Stop m_table_Stop
  with_reducible repeat' first | exact ole_refl _ | assumption | intro _ | refine ole_ifb ?_ ?_ | refine ole_bind ?_ ?_ | refine ole_map ?_ | refine ole_loop ?_ | apply le_table_turn | apply le_dine_Stop
end NX
end Go.Proofs.Ytadebhbiglmodaa
/-
  The function narthex/table.Deliver$1: its code compiled, a model, and that the code answers as the model. Written by a program of ours (lb.py). No statement of the seat is proved here.
-/
namespace Go.Proofs.Ytadebhbiglmodaa
namespace NX
open Go
set_option maxRecDepth 100000
set_option maxHeartbeats 4000000
def e96 : EC := .seq (.reg [⟨(some 3), none, .box 97 5 (.t 0)⟩, ⟨(some 4), none, .mv (.c .ff)⟩]) (.seq (.reg [⟨(some 5), none, .fld 0 (.t 3)⟩, ⟨(some 6), none, .load (.t 5)⟩, ⟨(some 7), none, .load (.t 1)⟩, ⟨(some 8), none, .bin .eql (.t 6) (.t 7)⟩, ⟨(some 9), none, .mv (.t 8)⟩, ⟨(some 10), (some (9, true)), .fld 1 (.t 3)⟩, ⟨(some 11), (some (9, true)), .load (.t 10)⟩, ⟨(some 12), (some (9, true)), .load (.t 2)⟩, ⟨(some 13), (some (9, true)), .bin .eql (.t 11) (.t 12)⟩, ⟨(some 14), none, .pick (.t 9) (.t 13) (.c .ff)⟩, ⟨(some 4), none, .mv (.t 14)⟩]) (.ret))
theorem ok96 : FnOK Try.prog 96 Try.f96 e96 [.t 4] 3 12 := ⟨by kernel_rfl, ⟨_, rfl, by kernel_rfl⟩, by kernel_rfl, by kernel_rfl⟩
/- narthex/table.Deliver$1 -/
noncomputable def m_table_Deliver_1_j1  : Bool → Option Bool
| x4 =>
 some x4
noncomputable def m_table_Deliver_1 (x1 : Mail) (x2 : Int) (x3 : Int) : Option Bool :=
 ifb (decide (x1.From = x2)) (
 m_table_Deliver_1_j1 (decide (x1.To = x3))) (
 m_table_Deliver_1_j1 false)
theorem k_table_Deliver_1 (x1 : Mail) (x2 : Int) (x3 : Int) (r : Bool) (h : m_table_Deliver_1 x1 x2 x3 = some r) : FunP Try.prog 96 [.agg (Mail.row x1), .elt (intRow x2) 0, .elt (intRow x3) 0] (.bv r) := by
  refine FunP_intro ok96 rfl rfl fun w0 H0 => ?_
  rw [m_table_Deliver_1] at h
  refine V_go 12 ?_; dsimp only [e96, go_sem, Nat.reduceBEq, Nat.reduceAdd]; refine ⟨by simp, ?_⟩; refine V_join (fun (x4 : Bool) => (⟨(an 4 (.bv x4 :: an 10 [])), [], []⟩ : St)) m_table_Deliver_1_j1 r ?_ fun J1 => ?_
  ·intro x4 h; rw [m_table_Deliver_1_j1] at h; (try dsimp only); exact M_done (res := fun (r : Bool) => .bv r) ok96 h
  ·refine M_case 9 h rfl (fun _ h => ?_) fun _ h => ?_
   ·dsimp only [go_sem, Nat.reduceBEq, Nat.reduceAdd]; refine V_go 7 ?_; dsimp only [e96, go_sem, Nat.reduceBEq, Nat.reduceAdd]; refine ⟨by simp, ?_⟩; exact M_to J1 (s := decide (x1.To = x3)) h
   ·dsimp only [go_sem, Nat.reduceBEq, Nat.reduceAdd]; refine V_go 7 ?_; dsimp only [e96, go_sem, Nat.reduceBEq, Nat.reduceAdd]; refine ⟨by simp, ?_⟩; exact M_to J1 (s := false) h
def f_table_Deliver_1_j1 (_F : Nat)  : Bool → Option Bool
| x4 =>
 some x4
theorem le_table_Deliver_1_j1 {F : Nat} : ∀ s, ole (f_table_Deliver_1_j1 F s) (m_table_Deliver_1_j1 s) := by
  intro x4
  unfold f_table_Deliver_1_j1 m_table_Deliver_1_j1
  try dsimp only
  with_reducible repeat' first | exact ole_refl _ | assumption | intro _ | refine ole_ifb ?_ ?_ | refine ole_bind ?_ ?_ | refine ole_map ?_ | refine ole_loop ?_
def f_table_Deliver_1 (F : Nat) (x1 : Mail) (x2 : Int) (x3 : Int) : Option Bool :=
 ifb (decide (x1.From = x2)) (
 f_table_Deliver_1_j1 F (decide (x1.To = x3))) (
 f_table_Deliver_1_j1 F false)
theorem le_table_Deliver_1 {F : Nat} {x1 : Mail} {x2 : Int} {x3 : Int} : ole (f_table_Deliver_1 F x1 x2 x3) (m_table_Deliver_1 x1 x2 x3) := by
  unfold f_table_Deliver_1 m_table_Deliver_1
  with_reducible repeat' first | exact ole_refl _ | assumption | intro _ | refine ole_ifb ?_ ?_ | refine ole_bind ?_ ?_ | refine ole_map ?_ | refine ole_loop ?_ | apply le_table_Deliver_1_j1
end NX
end Go.Proofs.Ytadebhbiglmodaa
/-
  The function narthex/table.Deliver$2: its code compiled, a model, and that the code answers as the model. Written by a program of ours (lb.py). No statement of the seat is proved here.
-/
namespace Go.Proofs.Ytadebhbiglmodaa
namespace NX
open Go
set_option maxRecDepth 100000
set_option maxHeartbeats 4000000
def e99 : EC := .seq (.reg [⟨(some 3), none, .box 39 3 (.t 0)⟩, ⟨(some 4), none, .alloc 39 [.iv 0, .iv 0, .nl]⟩, ⟨(some 5), none, .mv (.c (.iv 0))⟩]) (.seq (.reg [⟨(some 6), none, .loadA 3 (.t 3)⟩, ⟨(some 7), none, .load (.t 1)⟩, ⟨(some 8), none, .loadA 3 (.t 2)⟩, ⟨(some 9), none, .call 100 [(.t 6), (.t 7), (.t 8)]⟩, ⟨(some 10), none, .ext (.t 9) 0⟩, ⟨(some 11), none, .ext (.t 9) 1⟩, ⟨none, none, .store 3 (.t 4) (.t 10)⟩, ⟨(some 5), none, .mv (.t 11)⟩]) (.ret))
theorem ok99 : FnOK Try.prog 99 Try.f99 e99 [.c 4 (some 3), .t 5] 3 9 := ⟨by kernel_rfl, ⟨_, rfl, by kernel_rfl⟩, by kernel_rfl, by kernel_rfl⟩
/- narthex/table.Deliver$2 -/
noncomputable def m_table_Deliver_2 (x1 : Diner) (x2 : Int) (x3 : Msg) : Option (Diner × Int) :=
 (m_dine_Get x1 x2 x3).bind fun x4 =>
 some (x4.1, x4.2)
theorem k_table_Deliver_2 (x1 : Diner) (x2 : Int) (x3 : Msg) (r : (Diner × Int)) (h : m_table_Deliver_2 x1 x2 x3 = some r) : FunP Try.prog 99 [.agg (Diner.row x1), .elt (intRow x2) 0, .elt (Msg.row x3) 0] (.tup [.agg (Diner.row r.1), .iv r.2]) := by
  refine FunP_intro ok99 rfl rfl fun w0 H0 => ?_
  rw [m_table_Deliver_2] at h
  refine V_go 11 ?_; dsimp only [e99, go_sem, Nat.reduceBEq, Nat.reduceAdd]; refine ⟨by simp, ?_⟩; obtain ⟨x4, ex4, h⟩ := Option.bind_eq_some_iff.1 h; refine V_call trivial (k_dine_Get x1 x2 x3 _ ex4) (h := ?_); refine V_go 5 ?_; dsimp only [e99, go_sem, Nat.reduceBEq, Nat.reduceAdd]; refine ⟨by simp, ?_⟩; exact M_done (res := fun (r : (Diner × Int)) => .tup [.agg (Diner.row r.1), .iv r.2]) ok99 h
def f_table_Deliver_2 (F : Nat) (x1 : Diner) (x2 : Int) (x3 : Msg) : Option (Diner × Int) :=
 (f_dine_Get F x1 x2 x3).bind fun x4 =>
 some (x4.1, x4.2)
theorem le_table_Deliver_2 {F : Nat} {x1 : Diner} {x2 : Int} {x3 : Msg} : ole (f_table_Deliver_2 F x1 x2 x3) (m_table_Deliver_2 x1 x2 x3) := by
  unfold f_table_Deliver_2 m_table_Deliver_2
  with_reducible repeat' first | exact ole_refl _ | assumption | intro _ | refine ole_ifb ?_ ?_ | refine ole_bind ?_ ?_ | refine ole_map ?_ | refine ole_loop ?_ | apply le_dine_Get
end NX
end Go.Proofs.Ytadebhbiglmodaa
/-
  The function narthex/table.Deliver: its code compiled, a model, and that the code answers as the model. Written by a program of ours (lb.py). No statement of the seat is proved here.
-/
namespace Go.Proofs.Ytadebhbiglmodaa
namespace NX
open Go
set_option maxRecDepth 100000
set_option maxHeartbeats 4000000
def e70 : EC := .seq (.reg [⟨(some 3), none, .box 43 2 (.t 0)⟩, ⟨(some 4), none, .box 3 1 (.t 1)⟩, ⟨(some 5), none, .box 3 1 (.t 2)⟩, ⟨(some 6), none, .alloc 43 [.nl, .nl]⟩, ⟨(some 7), none, .mv (.c (.iv 0))⟩]) (.seq (.seq (.reg [⟨(some 11), none, .loadA 2 (.t 3)⟩, ⟨(some 12), none, .call 71 [(.t 11)]⟩, ⟨(some 8), none, .mv (.t 12)⟩]) (.seq (.reg [⟨(some 13), none, .mv (.t 8)⟩, ⟨(some 14), none, .bin .neq (.t 13) (.c (.iv 0))⟩]) (.ite (.t 14) (.seq (.reg [⟨(some 15), none, .build [.nl, .nl] []⟩, ⟨(some 16), none, .mv (.t 8)⟩, ⟨none, none, .store 2 (.t 6) (.t 15)⟩, ⟨(some 7), none, .mv (.t 16)⟩]) (.ret)) (.skip)))) (.seq (.seq (.reg [⟨(some 17), none, .loadA 2 (.t 3)⟩, ⟨(some 18), none, .load (.t 4)⟩, ⟨(some 19), none, .call 73 [(.t 17), (.t 18)]⟩, ⟨(some 20), none, .not (.t 19)⟩, ⟨(some 21), none, .mv (.t 20)⟩, ⟨(some 22), (some (21, false)), .loadA 2 (.t 3)⟩, ⟨(some 23), (some (21, false)), .load (.t 5)⟩, ⟨(some 24), (some (21, false)), .call 73 [(.t 22), (.t 23)]⟩, ⟨(some 25), (some (21, false)), .not (.t 24)⟩, ⟨(some 26), none, .pick (.t 21) (.c .tt) (.t 25)⟩]) (.ite (.t 26) (.seq (.reg [⟨(some 27), none, .build [.nl, .nl] []⟩, ⟨none, none, .store 2 (.t 6) (.t 27)⟩, ⟨(some 7), none, .mv (.c (.iv 140))⟩]) (.ret)) (.skip))) (.seq (.reg [⟨(some 28), none, .fld 1 (.t 3)⟩, ⟨(some 29), none, .load (.t 28)⟩, ⟨(some 30), none, .mkf 96 [(.t 4), (.t 5)]⟩, ⟨(some 31), none, .call 95 [(.t 29), (.t 30)]⟩, ⟨(some 9), none, .mv (.t 31)⟩]) (.seq (.seq (.reg [⟨(some 32), none, .mv (.t 9)⟩, ⟨(some 33), none, .bin .lss (.t 32) (.c (.iv 0))⟩]) (.ite (.t 33) (.seq (.reg [⟨(some 34), none, .build [.nl, .nl] []⟩, ⟨none, none, .store 2 (.t 6) (.t 34)⟩, ⟨(some 7), none, .mv (.c (.iv 141))⟩]) (.ret)) (.skip))) (.seq (.reg [⟨(some 35), none, .fld 1 (.t 3)⟩, ⟨(some 36), none, .load (.t 35)⟩, ⟨(some 37), none, .mv (.t 9)⟩, ⟨(some 38), none, .idx 5 (.t 36) (.t 37)⟩, ⟨(some 39), none, .fld 2 (.t 38)⟩, ⟨(some 40), none, .loadA 3 (.t 39)⟩, ⟨(some 10), none, .alloc 93 [.iv 0, .iv 0, .iv 0]⟩, ⟨none, none, .store 3 (.t 10) (.t 40)⟩]) (.seq (.drw [⟨(some 41), none, .fld 1 (.t 3)⟩, ⟨(some 42), none, .load (.t 41)⟩, ⟨(some 43), none, .mv (.t 9)⟩, ⟨(some 44), none, .slice 5 (.t 42) none (some (.t 43))⟩, ⟨(some 45), none, .fld 1 (.t 3)⟩, ⟨(some 46), none, .load (.t 45)⟩, ⟨(some 47), none, .mv (.t 9)⟩, ⟨(some 48), none, .bin .add (.t 47) (.c (.iv 1))⟩, ⟨(some 49), none, .slice 5 (.t 46) (some (.t 48)) none⟩, ⟨(some 50), none, .bsl 41 1 2 [.nl] [(0, (.t 44)), (1, (.t 49))]⟩, ⟨(some 51), none, .call 97 [(.t 50)]⟩, ⟨(some 52), none, .fld 1 (.t 3)⟩, ⟨none, none, .store 1 (.t 52) (.t 51)⟩] [[], [0], [], [1, 2], [], [4], [], [6], [5, 7], [3, 8], [9], [0, 1, 2, 3, 4, 5, 6, 7, 8, 9, 10], [11, 10, 10, 0, 1, 2, 3, 4, 5, 6, 7, 8, 9, 10]] [[1], [0, 3], [3], [1, 2, 9], [5], [4, 8], [7], [6, 8], [5, 7, 9], [3, 8, 10], [9, 12], [12], [10, 11]]) (.seq (.reg [⟨(some 53), none, .loadA 2 (.t 3)⟩, ⟨(some 54), none, .load (.t 5)⟩, ⟨(some 55), none, .mkf 99 [(.t 4), (.t 10)]⟩, ⟨(some 56), none, .call 98 [(.t 53), (.t 54), (.t 55)]⟩, ⟨(some 57), none, .ext (.t 56) 0⟩, ⟨(some 58), none, .ext (.t 56) 1⟩, ⟨none, none, .store 2 (.t 6) (.t 57)⟩, ⟨(some 7), none, .mv (.t 58)⟩]) (.ret))))))))
theorem ok70 : FnOK Try.prog 70 Try.f70 e70 [.c 6 (some 2), .t 7] 3 56 := ⟨by kernel_rfl, ⟨_, rfl, by kernel_rfl⟩, by kernel_rfl, by kernel_rfl⟩
/- narthex/table.Deliver -/
noncomputable def m_table_Deliver_j2 (x1 : Scene) (x2 : Int) (x3 : Int) (x9 : Mail) : (List Mail) → Option (Scene × Int)
| x15 =>
 (m_table_act ((Scene.mk x1.Diners x15)) x3 ((fun z => m_table_Deliver_2 z x2 x9.Msg))).bind fun x16 =>
 some (x16.1, x16.2)
noncomputable def m_table_Deliver_j1 (x1 : Scene) (x2 : Int) (x3 : Int) : Bool → Option (Scene × Int)
| x7 =>
 ifb x7 (
 some ((Scene.mk (([] : (List Diner))) (([] : (List Mail)))), 140)) (
 (m_slices_IndexFunc_Mail x1.Mail ((fun z => m_table_Deliver_1 z x2 x3))).bind fun x8 =>
 ifb (decide (x8 < 0)) (
 some ((Scene.mk (([] : (List Diner))) (([] : (List Mail)))), 141)) (
 (at_ x1.Mail x8).bind fun x9 =>
 (sub_ x1.Mail 0 x8).bind fun x10 =>
 (sub_ x1.Mail (wr (x8 + 1)) (ln Mail.row x1.Mail)).bind fun x11 =>
 (m_slices_Concat_Mail ([x10, x11])).bind fun x14 =>
 (m_table_Deliver_j2 x1 x2 x3 x9) x14))
noncomputable def m_table_Deliver (x1 : Scene) (x2 : Int) (x3 : Int) : Option (Scene × Int) :=
 (m_table_Check x1).bind fun x4 =>
 ifb (!decide (x4 = 0)) (
 some ((Scene.mk (([] : (List Diner))) (([] : (List Mail)))), x4)) (
 (m_table_there x1 x2).bind fun x5 =>
 ifb (!x5) (
 (m_table_Deliver_j1 x1 x2 x3) true) (
 (m_table_there x1 x3).bind fun x6 =>
 (m_table_Deliver_j1 x1 x2 x3) (!x6)))
theorem k_table_Deliver (x1 : Scene) (x2 : Int) (x3 : Int) (r : (Scene × Int)) (h : m_table_Deliver x1 x2 x3 = some r) : FunP Try.prog 70 [.agg (Scene.row x1), .iv x2, .iv x3] (.tup [.agg (Scene.row r.1), .iv r.2]) := by
  refine FunP_intro ok70 rfl rfl fun w0 H0 => ?_
  rw [m_table_Deliver] at h
  refine V_go 12 ?_; dsimp only [e70, go_sem, Nat.reduceBEq, Nat.reduceAdd]; refine ⟨by simp, ?_⟩; obtain ⟨x4, ex4, h⟩ := Option.bind_eq_some_iff.1 h; refine V_call trivial (k_table_Check x1 _ ex4) (h := ?_); refine V_go 7 ?_; dsimp only [e70, go_sem, Nat.reduceBEq, Nat.reduceAdd]; refine ⟨by simp, ?_⟩; refine M_ite h rfl (fun _ h => ?_) fun _ h => ?_
  ·refine V_go 7 ?_; dsimp only [e70, go_sem, Nat.reduceBEq, Nat.reduceAdd]; refine ⟨by simp, ?_⟩; exact M_done (res := fun (r : (Scene × Int)) => .tup [.agg (Scene.row r.1), .iv r.2]) ok70 h
  ·refine V_go 6 ?_; dsimp only [e70, go_sem, Nat.reduceBEq, Nat.reduceAdd]; refine ⟨by simp, ?_⟩; obtain ⟨x5, ex5, h⟩ := Option.bind_eq_some_iff.1 h; refine V_call trivial (k_table_there x1 x2 _ ex5) (h := ?_); refine V_go 2 ?_; dsimp only [e70, go_sem, Nat.reduceBEq, Nat.reduceAdd]; refine ⟨by simp, ?_⟩
   refine V_join (fun (x7 : Bool) => (⟨(an 3 (.ptr 0 0 :: .ptr 1 0 :: .ptr 2 0 :: .ptr 3 0 :: an 19 (.bv x7 :: an 32 []))), [some ⟨43, [.sl 3 (List.map Diner.row x1.Diners), .sl 5 (List.map Mail.row x1.Mail)]⟩, some ⟨3, [.iv x2]⟩, some ⟨3, [.iv x3]⟩, some ⟨43, [.nl, .nl]⟩], []⟩ : St)) (m_table_Deliver_j1 x1 x2 x3) r ?_ fun J1 => ?_
   ·intro x7 h; rw [m_table_Deliver_j1] at h; (try dsimp only); refine M_ite h rfl (fun _ h => ?_) fun _ h => ?_
    ·refine V_go 6 ?_; dsimp only [e70, go_sem, Nat.reduceBEq, Nat.reduceAdd]; refine ⟨by simp, ?_⟩; exact M_done (res := fun (r : (Scene × Int)) => .tup [.agg (Scene.row r.1), .iv r.2]) ok70 h
    ·refine V_go 6 ?_; dsimp only [e70, go_sem, Nat.reduceBEq, Nat.reduceAdd]; refine ⟨by simp, ?_⟩; obtain ⟨x8, ex8, h⟩ := Option.bind_eq_some_iff.1 h; refine V_callL trivial (((Lend.refl _).block 1 rfl rfl).block 2 rfl rfl) (k_slices_IndexFunc_Mail x1.Mail _ _ ((fun z => m_table_Deliver_1 z x2 x3)) ⟨by kernel_rfl, rfl, fun z r hz => k_table_Deliver_1 z x2 x3 r hz⟩ _ ex8) (h := ?_); refine V_go 8 ?_; dsimp only [e70, go_sem, Nat.reduceBEq, Nat.reduceAdd]; refine ⟨by simp, ?_⟩; refine M_ite h rfl (fun _ h => ?_) fun _ h => ?_
     ·refine V_go 6 ?_; dsimp only [e70, go_sem, Nat.reduceBEq, Nat.reduceAdd]; refine ⟨by simp, ?_⟩; exact M_done (res := fun (r : (Scene × Int)) => .tup [.agg (Scene.row r.1), .iv r.2]) ok70 h
     ·refine V_go 6 ?_; dsimp only [e70, go_sem, Nat.reduceBEq, Nat.reduceAdd]; refine ⟨by simp, ?_⟩; obtain ⟨x9, ex9, h⟩ := Option.bind_eq_some_iff.1 h; refine V_idxM Mail.row ex9 trivial rfl rfl rfl ?_; refine V_go 6 ?_; dsimp only [e70, go_sem, Nat.reduceBEq, Nat.reduceAdd]; refine ⟨by simp, ?_⟩
      refine V_join (fun (x15 : (List Mail)) => (⟨(an 3 (.ptr 0 0 :: .ptr 1 0 :: .ptr 2 0 :: .ptr 3 0 :: an 3 (.ptr 4 0 :: an 48 []))), [some ⟨43, [.sl 3 (List.map Diner.row x1.Diners), .osl 1]⟩, some ⟨3, [.iv x2]⟩, some ⟨3, [.iv x3]⟩, some ⟨43, [.nl, .nl]⟩, some ⟨93, [.iv x9.Msg.Kind, .iv x9.Msg.Epoch, .iv x9.Msg.Num]⟩], [none, some ⟨97, 5, List.map Mail.row x15⟩]⟩ : St)) (m_table_Deliver_j2 x1 x2 x3 x9) r ?_ fun J2 => ?_
      ·intro x15 h; rw [m_table_Deliver_j2] at h; (try dsimp only); refine V_go 5 ?_; dsimp only [e70, go_sem, Nat.reduceBEq, Nat.reduceAdd]; refine ⟨by simp, ?_⟩; refine V_seal 1 rfl ?_; dsimp only [go_sem, Nat.reduceBEq, Nat.reduceAdd]; refine V_sealB 1 rfl rfl ?_; dsimp only [go_sem, Nat.reduceBEq, Nat.reduceAdd]; refine V_sealB 4 rfl rfl ?_; dsimp only [go_sem, Nat.reduceBEq, Nat.reduceAdd]; obtain ⟨x16, ex16, h⟩ := Option.bind_eq_some_iff.1 h
       refine V_call trivial (k_table_act ((Scene.mk x1.Diners x15)) x3 _ _ ((fun z => m_table_Deliver_2 z x2 x9.Msg)) ⟨by kernel_rfl, rfl, fun z r hz => k_table_Deliver_2 z x2 x9.Msg r hz⟩ _ ex16) (h := ?_); refine V_go 5 ?_; dsimp only [e70, go_sem, Nat.reduceBEq, Nat.reduceAdd]; refine ⟨by simp, ?_⟩; exact M_done (res := fun (r : (Scene × Int)) => .tup [.agg (Scene.row r.1), .iv r.2]) ok70 h
      ·refine V_drw (by kernel_rfl) fun all hall hs hnap haf => ?_; dsimp only [go_sem, Nat.reduceBEq, Nat.reduceAdd]
       refine G_goE hall hs haf hnap 7 6 [true, true, true, false, true, true, true, true, false, false, false, false, false] (⟨(an 3 (.ptr 0 0 :: .ptr 1 0 :: .ptr 2 0 :: .ptr 3 0 :: .any :: .any :: .iv x8 :: .ptr 4 0 :: an 15 (.bv x7 :: .any :: .ptr 0 1 :: .sl 5 (List.map Mail.row x1.Mail) :: .clo 96 [.ptr 1 0, .ptr 2 0] :: .iv x8 :: .iv x8 :: .bv (decide (x8 < 0)) :: .any :: .ptr 0 1 :: .sl 5 (List.map Mail.row x1.Mail) :: .iv x8 :: .elt [.iv x9.From, .iv x9.To, .iv x9.Msg.Kind, .iv x9.Msg.Epoch, .iv x9.Msg.Num] 0 :: .elt [.iv x9.From, .iv x9.To, .iv x9.Msg.Kind, .iv x9.Msg.Epoch, .iv x9.Msg.Num] 2 :: .agg [.iv x9.Msg.Kind, .iv x9.Msg.Epoch, .iv x9.Msg.Num] :: .ptr 0 1 :: .sl 5 (List.map Mail.row x1.Mail) :: .iv x8 :: .any :: .ptr 0 1 :: .sl 5 (List.map Mail.row x1.Mail) :: .iv x8 :: .iv (wr (x8 + 1)) :: an 10 []))), [some ⟨43, [.sl 3 (List.map Diner.row x1.Diners), .sl 5 (List.map Mail.row x1.Mail)]⟩, some ⟨3, [.iv x2]⟩, some ⟨3, [.iv x3]⟩, some ⟨43, [.nl, .nl]⟩, some ⟨93, [.iv x9.Msg.Kind, .iv x9.Msg.Epoch, .iv x9.Msg.Num]⟩], []⟩ : St) (by kernel_rfl) ?_
       obtain ⟨x10, ex10, h⟩ := Option.bind_eq_some_iff.1 h; obtain ⟨x11, ex11, h⟩ := Option.bind_eq_some_iff.1 h; refine G_two 3 8 rfl ?_ ?_
       ·refine GO_sliceM Mail.row ex10 hall rfl trivial rfl rfl rfl rfl ?_; dsimp only [go_sem, Nat.reduceBEq, Nat.reduceAdd]; refine G_one 8 rfl ?_; refine GO_sliceM Mail.row ex11 hall rfl trivial rfl rfl rfl rfl ?_; dsimp only [go_sem, Nat.reduceBEq, Nat.reduceAdd]; refine G_one 9 rfl ?_; refine GO_bslS hall rfl trivial rfl trivial ?_; dsimp only [go_sem, Nat.reduceBEq, Nat.reduceAdd]; refine G_one 10 rfl ?_; obtain ⟨x14, ex14, h⟩ := Option.bind_eq_some_iff.1 h; refine GO_callO hall rfl trivial (o_slices_Concat_Mail ([x10, x11]) _ ex14) (h := ?_)
        dsimp only [go_sem, Nat.reduceBEq, Nat.reduceAdd]; refine G_goN hall hs haf hnap 1 1 ?_; dsimp only [go_sem, Nat.reduceBEq, Nat.reduceAdd]; refine ⟨by simp, ?_⟩; refine G_one 12 rfl ?_; refine GO_ev hall rfl trivial ?_; dsimp only [go_sem, Nat.reduceBEq, Nat.reduceAdd]; refine G_done rfl ?_ _; exact M_to J2 (s := x14) h
       ·refine GO_sliceM Mail.row ex11 hall rfl trivial rfl rfl rfl rfl ?_; dsimp only [go_sem, Nat.reduceBEq, Nat.reduceAdd]; refine G_one 3 rfl ?_; refine GO_sliceM Mail.row ex10 hall rfl trivial rfl rfl rfl rfl ?_; dsimp only [go_sem, Nat.reduceBEq, Nat.reduceAdd]; refine G_one 9 rfl ?_; refine GO_bslS hall rfl trivial rfl trivial ?_; dsimp only [go_sem, Nat.reduceBEq, Nat.reduceAdd]; refine G_one 10 rfl ?_; obtain ⟨x14, ex14, h⟩ := Option.bind_eq_some_iff.1 h; refine GO_callO hall rfl trivial (o_slices_Concat_Mail ([x10, x11]) _ ex14) (h := ?_)
        dsimp only [go_sem, Nat.reduceBEq, Nat.reduceAdd]; refine G_goN hall hs haf hnap 1 1 ?_; dsimp only [go_sem, Nat.reduceBEq, Nat.reduceAdd]; refine ⟨by simp, ?_⟩; refine G_one 12 rfl ?_; refine GO_ev hall rfl trivial ?_; dsimp only [go_sem, Nat.reduceBEq, Nat.reduceAdd]; refine G_done rfl ?_ _; exact M_to J2 (s := x14) h
   ·refine M_case 21 h rfl (fun _ h => ?_) fun _ h => ?_
    ·dsimp only [go_sem, Nat.reduceBEq, Nat.reduceAdd]; refine V_go 6 ?_; dsimp only [e70, go_sem, Nat.reduceBEq, Nat.reduceAdd]; refine ⟨by simp, ?_⟩; exact M_to J1 (s := true) h
    ·dsimp only [go_sem, Nat.reduceBEq, Nat.reduceAdd]; refine V_go 2 ?_; dsimp only [e70, go_sem, Nat.reduceBEq, Nat.reduceAdd]; refine ⟨by simp, ?_⟩; obtain ⟨x6, ex6, h⟩ := Option.bind_eq_some_iff.1 h; refine V_call trivial (k_table_there x1 x3 _ ex6) (h := ?_); refine V_go 3 ?_; dsimp only [e70, go_sem, Nat.reduceBEq, Nat.reduceAdd]; refine ⟨by simp, ?_⟩; exact M_to J1 (s := !x6) h
def f_table_Deliver_j2 (F : Nat) (x1 : Scene) (x2 : Int) (x3 : Int) (x9 : Mail) : (List Mail) → Option (Scene × Int)
| x15 =>
 (f_table_act F ((Scene.mk x1.Diners x15)) x3 ((fun z => f_table_Deliver_2 F z x2 x9.Msg))).bind fun x16 =>
 some (x16.1, x16.2)
theorem le_table_Deliver_j2 {F : Nat} {x1 : Scene} {x2 : Int} {x3 : Int} {x9 : Mail} : ∀ s, ole (f_table_Deliver_j2 F x1 x2 x3 x9 s) (m_table_Deliver_j2 x1 x2 x3 x9 s) := by
  intro x15
  unfold f_table_Deliver_j2 m_table_Deliver_j2
  try dsimp only
  with_reducible repeat' first | exact ole_refl _ | assumption | intro _ | refine ole_ifb ?_ ?_ | refine ole_bind ?_ ?_ | refine ole_map ?_ | refine ole_loop ?_ | apply le_table_act | apply le_table_Deliver_2
def f_table_Deliver_j1 (F : Nat) (x1 : Scene) (x2 : Int) (x3 : Int) : Bool → Option (Scene × Int)
| x7 =>
 ifb x7 (
 some ((Scene.mk (([] : (List Diner))) (([] : (List Mail)))), 140)) (
 (f_slices_IndexFunc_Mail F x1.Mail ((fun z => f_table_Deliver_1 F z x2 x3))).bind fun x8 =>
 ifb (decide (x8 < 0)) (
 some ((Scene.mk (([] : (List Diner))) (([] : (List Mail)))), 141)) (
 (at_ x1.Mail x8).bind fun x9 =>
 (sub_ x1.Mail 0 x8).bind fun x10 =>
 (sub_ x1.Mail (wr (x8 + 1)) (ln Mail.row x1.Mail)).bind fun x11 =>
 (f_slices_Concat_Mail F ([x10, x11])).bind fun x14 =>
 (f_table_Deliver_j2 F x1 x2 x3 x9) x14))
theorem le_table_Deliver_j1 {F : Nat} {x1 : Scene} {x2 : Int} {x3 : Int} : ∀ s, ole (f_table_Deliver_j1 F x1 x2 x3 s) (m_table_Deliver_j1 x1 x2 x3 s) := by
  intro x7
  unfold f_table_Deliver_j1 m_table_Deliver_j1
  try dsimp only
  with_reducible repeat' first | exact ole_refl _ | assumption | intro _ | refine ole_ifb ?_ ?_ | refine ole_bind ?_ ?_ | refine ole_map ?_ | refine ole_loop ?_ | apply le_table_act | apply le_table_Deliver_2 | apply le_table_Deliver_j2 | apply le_slices_IndexFunc_Mail | apply le_table_Deliver_1 | apply le_slices_Concat_Mail
def f_table_Deliver (F : Nat) (x1 : Scene) (x2 : Int) (x3 : Int) : Option (Scene × Int) :=
 (f_table_Check F x1).bind fun x4 =>
 ifb (!decide (x4 = 0)) (
 some ((Scene.mk (([] : (List Diner))) (([] : (List Mail)))), x4)) (
 (f_table_there F x1 x2).bind fun x5 =>
 ifb (!x5) (
 (f_table_Deliver_j1 F x1 x2 x3) true) (
 (f_table_there F x1 x3).bind fun x6 =>
 (f_table_Deliver_j1 F x1 x2 x3) (!x6)))
theorem le_table_Deliver {F : Nat} {x1 : Scene} {x2 : Int} {x3 : Int} : ole (f_table_Deliver F x1 x2 x3) (m_table_Deliver x1 x2 x3) := by
  unfold f_table_Deliver m_table_Deliver
  with_reducible repeat' first | exact ole_refl _ | assumption | intro _ | refine ole_ifb ?_ ?_ | refine ole_bind ?_ ?_ | refine ole_map ?_ | refine ole_loop ?_ | apply le_table_act | apply le_table_Deliver_2 | apply le_table_Deliver_j2 | apply le_slices_IndexFunc_Mail | apply le_table_Deliver_1 | apply le_slices_Concat_Mail | apply le_table_Deliver_j1 | apply le_table_Check | apply le_table_there
end NX
end Go.Proofs.Ytadebhbiglmodaa
/-
  The function narthex/narthexlaw14.act: its code compiled, a model, and that the code answers as the model. Written by a program of ours (lb.py). No statement of the seat is proved here.
-/
namespace Go.Proofs.Ytadebhbiglmodaa
namespace NX
open Go
set_option maxRecDepth 100000
set_option maxHeartbeats 4000000
def e46 : EC := .seq (.reg [⟨(some 2), none, .box 43 2 (.t 0)⟩, ⟨(some 3), none, .box 79 3 (.t 1)⟩, ⟨(some 4), none, .alloc 43 [.nl, .nl]⟩, ⟨(some 5), none, .mv (.c (.iv 0))⟩]) (.seq (.seq (.reg [⟨(some 6), none, .fld 0 (.t 3)⟩, ⟨(some 7), none, .load (.t 6)⟩]) (.blk 0 (.seq (.reg [⟨(some 9), none, .bin .eql (.t 7) (.c (.iv 0))⟩, ⟨(some 8), none, .mv (.t 9)⟩]) (.ite (.t 8) (.seq (.reg [⟨(some 10), none, .loadA 2 (.t 2)⟩, ⟨(some 11), none, .fld 1 (.t 3)⟩, ⟨(some 12), none, .load (.t 11)⟩, ⟨(some 13), none, .call 69 [(.t 10), (.t 12)]⟩, ⟨(some 14), none, .ext (.t 13) 0⟩, ⟨(some 15), none, .ext (.t 13) 1⟩, ⟨none, none, .store 2 (.t 4) (.t 14)⟩, ⟨(some 5), none, .mv (.t 15)⟩]) (.ret)) (.seq (.reg [⟨(some 17), none, .bin .eql (.t 7) (.c (.iv 1))⟩, ⟨(some 16), none, .mv (.t 17)⟩]) (.ite (.t 16) (.seq (.reg [⟨(some 18), none, .loadA 2 (.t 2)⟩, ⟨(some 19), none, .fld 1 (.t 3)⟩, ⟨(some 20), none, .load (.t 19)⟩, ⟨(some 21), none, .call 44 [(.t 18), (.t 20)]⟩, ⟨(some 22), none, .ext (.t 21) 0⟩, ⟨(some 23), none, .ext (.t 21) 1⟩, ⟨none, none, .store 2 (.t 4) (.t 22)⟩, ⟨(some 5), none, .mv (.t 23)⟩]) (.ret)) (.skip))))))) (.seq (.reg [⟨(some 24), none, .loadA 2 (.t 2)⟩, ⟨(some 25), none, .fld 1 (.t 3)⟩, ⟨(some 26), none, .load (.t 25)⟩, ⟨(some 27), none, .fld 2 (.t 3)⟩, ⟨(some 28), none, .load (.t 27)⟩, ⟨(some 29), none, .call 70 [(.t 24), (.t 26), (.t 28)]⟩, ⟨(some 30), none, .ext (.t 29) 0⟩, ⟨(some 31), none, .ext (.t 29) 1⟩, ⟨none, none, .store 2 (.t 4) (.t 30)⟩, ⟨(some 5), none, .mv (.t 31)⟩]) (.ret)))
theorem ok46 : FnOK Try.prog 46 Try.f46 e46 [.c 4 (some 2), .t 5] 2 30 := ⟨by kernel_rfl, ⟨_, rfl, by kernel_rfl⟩, by kernel_rfl, by kernel_rfl⟩
/- narthex/narthexlaw14.act -/
noncomputable def m_narthexlaw14_act (x1 : Scene) (x2 : narthexlaw14_Act) : Option (Scene × Int) :=
 ifb (decide (x2.K = 0)) (
 (m_table_Start x1 x2.A).bind fun x3 =>
 some (x3.1, x3.2)) (
 ifb (decide (x2.K = 1)) (
 (m_table_Stop x1 x2.A).bind fun x4 =>
 some (x4.1, x4.2)) (
 (m_table_Deliver x1 x2.A x2.B).bind fun x5 =>
 some (x5.1, x5.2)))
theorem k_narthexlaw14_act (x1 : Scene) (x2 : narthexlaw14_Act) (r : (Scene × Int)) (h : m_narthexlaw14_act x1 x2 = some r) : FunP Try.prog 46 [.agg (Scene.row x1), .agg (narthexlaw14_Act.row x2)] (.tup [.agg (Scene.row r.1), .iv r.2]) := by
  refine FunP_intro ok46 rfl rfl fun w0 H0 => ?_
  rw [m_narthexlaw14_act] at h
  refine V_go 19 ?_; dsimp only [e46, go_sem, Nat.reduceBEq, Nat.reduceAdd]; refine ⟨by simp, ?_⟩; refine M_ite h rfl (fun _ h => ?_) fun _ h => ?_
  ·refine V_go 5 ?_; dsimp only [e46, go_sem, Nat.reduceBEq, Nat.reduceAdd]; refine ⟨by simp, ?_⟩; obtain ⟨x3, ex3, h⟩ := Option.bind_eq_some_iff.1 h; refine V_call trivial (k_table_Start x1 x2.A _ ex3) (h := ?_); refine V_go 5 ?_; dsimp only [e46, go_sem, Nat.reduceBEq, Nat.reduceAdd]; refine ⟨by simp, ?_⟩; exact M_done (res := fun (r : (Scene × Int)) => .tup [.agg (Scene.row r.1), .iv r.2]) ok46 h
  ·refine V_go 5 ?_; dsimp only [e46, go_sem, Nat.reduceBEq, Nat.reduceAdd]; refine ⟨by simp, ?_⟩; refine M_ite h rfl (fun _ h => ?_) fun _ h => ?_
   ·refine V_go 5 ?_; dsimp only [e46, go_sem, Nat.reduceBEq, Nat.reduceAdd]; refine ⟨by simp, ?_⟩; obtain ⟨x4, ex4, h⟩ := Option.bind_eq_some_iff.1 h; refine V_call trivial (k_table_Stop x1 x2.A _ ex4) (h := ?_); refine V_go 5 ?_; dsimp only [e46, go_sem, Nat.reduceBEq, Nat.reduceAdd]; refine ⟨by simp, ?_⟩; exact M_done (res := fun (r : (Scene × Int)) => .tup [.agg (Scene.row r.1), .iv r.2]) ok46 h
   ·refine V_go 9 ?_; dsimp only [e46, go_sem, Nat.reduceBEq, Nat.reduceAdd]; refine ⟨by simp, ?_⟩; obtain ⟨x5, ex5, h⟩ := Option.bind_eq_some_iff.1 h; refine V_call trivial (k_table_Deliver x1 x2.A x2.B _ ex5) (h := ?_); refine V_go 5 ?_; dsimp only [e46, go_sem, Nat.reduceBEq, Nat.reduceAdd]; refine ⟨by simp, ?_⟩; exact M_done (res := fun (r : (Scene × Int)) => .tup [.agg (Scene.row r.1), .iv r.2]) ok46 h
end NX
end Go.Proofs.Ytadebhbiglmodaa
/-
  The function narthex/narthexlaw14.own: its code compiled, a model, and that the code answers as the model. Written by a program of ours (lb.py). No statement of the seat is proved here.
-/
namespace Go.Proofs.Ytadebhbiglmodaa
namespace NX
open Go
set_option maxRecDepth 100000
set_option maxHeartbeats 4000000
def e45 : EC := .seq (.reg [⟨(some 1), none, .box 43 2 (.t 0)⟩, ⟨(some 2), none, .alloc 43 [.nl, .nl]⟩]) (.seq (.drw [⟨(some 3), none, .fld 0 (.t 1)⟩, ⟨(some 4), none, .load (.t 3)⟩, ⟨(some 5), none, .call 22 [(.t 4)]⟩, ⟨(some 6), none, .bsl 97 5 0 [.iv 0, .iv 0, .iv 0, .iv 0, .iv 0] []⟩, ⟨(some 7), none, .fld 1 (.t 1)⟩, ⟨(some 8), none, .load (.t 7)⟩, ⟨(some 9), none, .app 97 5 40 (.t 6) (.t 8)⟩, ⟨(some 10), none, .build [.nl, .nl] [(0, 1, (.t 5)), (1, 1, (.t 9))]⟩, ⟨none, none, .store 2 (.t 2) (.t 10)⟩] [[], [0], [1], [], [], [4], [3, 5, 2], [2, 6], [7, 6, 0, 1, 2, 3, 4, 5, 6, 7]] [[1], [0, 2], [1, 7], [6], [5], [4, 6], [3, 5, 7], [2, 6, 8], [7]]) (.ret))
theorem ok45 : FnOK Try.prog 45 Try.f45 e45 [.c 2 (some 2)] 1 10 := ⟨by kernel_rfl, ⟨_, rfl, by kernel_rfl⟩, by kernel_rfl, by kernel_rfl⟩
/- narthex/narthexlaw14.own -/
noncomputable def m_narthexlaw14_own_j1  : ((List Diner) × (List Mail)) → Option Scene
| (x5, x6) =>
 some (Scene.mk x5 x6)
noncomputable def m_narthexlaw14_own (x1 : Scene) : Option Scene :=
 (m_narthexlaw12_Own x1.Diners).bind fun x2 =>
 (app_ 40 (([] : List Mail)) x1.Mail).bind fun x4 =>
 m_narthexlaw14_own_j1 (x2, x4)
theorem k_narthexlaw14_own (x1 : Scene) (r : Scene) (h : m_narthexlaw14_own x1 = some r) : FunP Try.prog 45 [.agg (Scene.row x1)] (.agg (Scene.row r)) := by
  refine FunP_intro ok45 rfl rfl fun w0 H0 => ?_
  rw [m_narthexlaw14_own] at h
  refine V_go 6 ?_; dsimp only [e45, go_sem, Nat.reduceBEq, Nat.reduceAdd]; refine ⟨by simp, ?_⟩; refine V_join (fun ((x5, x6) : ((List Diner) × (List Mail))) => (⟨(.any :: .any :: .ptr 1 0 :: an 8 []), [none, some ⟨43, [.sl 3 (List.map Diner.row x5), .osl 1]⟩], [none, some ⟨97, 5, List.map Mail.row x6⟩]⟩ : St)) m_narthexlaw14_own_j1 r ?_ fun J1 => ?_
  ·rintro ⟨x5, x6⟩ h; rw [m_narthexlaw14_own_j1] at h; (try dsimp only); refine V_seal 1 rfl ?_; dsimp only [go_sem, Nat.reduceBEq, Nat.reduceAdd]; exact M_done (res := fun (r : Scene) => .agg (Scene.row r)) ok45 h
  ·refine V_drw (by kernel_rfl) fun all hall hs hnap haf => ?_; dsimp only [go_sem, Nat.reduceBEq, Nat.reduceAdd]; refine G_goN hall hs haf hnap 4 5 ?_; dsimp only [go_sem, Nat.reduceBEq, Nat.reduceAdd]; refine ⟨by simp, ?_⟩; obtain ⟨x2, ex2, h⟩ := Option.bind_eq_some_iff.1 h; refine G_two 2 3 rfl ?_ ?_
   ·refine GO_call hall rfl trivial (k_narthexlaw12_Own x1.Diners _ ex2) (h := ?_); dsimp only [go_sem, Nat.reduceBEq, Nat.reduceAdd]; refine G_one 3 rfl ?_; refine GO_ev hall rfl trivial ?_; dsimp only [go_sem, Nat.reduceBEq, Nat.reduceAdd]; refine G_one 6 rfl ?_; obtain ⟨x4, ex4, h⟩ := Option.bind_eq_some_iff.1 h; refine GO_appM Mail.row ex4 hall rfl trivial rfl rfl rfl ?_; dsimp only [go_sem, Nat.reduceBEq, Nat.reduceAdd]; refine G_goN hall hs haf hnap 1 1 ?_; dsimp only [go_sem, Nat.reduceBEq, Nat.reduceAdd]; refine ⟨by simp, ?_⟩; refine G_one 8 rfl ?_; refine GO_ev hall rfl trivial ?_
    dsimp only [go_sem, Nat.reduceBEq, Nat.reduceAdd]; refine G_done rfl ?_ _; exact M_to J1 (s := (x2, x4)) h
   ·refine GO_ev hall rfl trivial ?_; dsimp only [go_sem, Nat.reduceBEq, Nat.reduceAdd]; refine G_one 2 rfl ?_; refine GO_call hall rfl trivial (k_narthexlaw12_Own x1.Diners _ ex2) (h := ?_); dsimp only [go_sem, Nat.reduceBEq, Nat.reduceAdd]; refine G_one 6 rfl ?_; obtain ⟨x4, ex4, h⟩ := Option.bind_eq_some_iff.1 h; refine GO_appM Mail.row ex4 hall rfl trivial rfl rfl rfl ?_; dsimp only [go_sem, Nat.reduceBEq, Nat.reduceAdd]; refine G_goN hall hs haf hnap 1 1 ?_; dsimp only [go_sem, Nat.reduceBEq, Nat.reduceAdd]; refine ⟨by simp, ?_⟩; refine G_one 8 rfl ?_; refine GO_ev hall rfl trivial ?_
    dsimp only [go_sem, Nat.reduceBEq, Nat.reduceAdd]; refine G_done rfl ?_ _; exact M_to J1 (s := (x2, x4)) h
end NX
end Go.Proofs.Ytadebhbiglmodaa
/-
  The function narthex/narthexref13.SameMail: its code compiled, a model, and that the code answers as the model. Written by a program of ours (lb.py). No statement of the seat is proved here.
-/
namespace Go.Proofs.Ytadebhbiglmodaa
namespace NX
open Go
set_option maxRecDepth 100000
set_option maxHeartbeats 4000000
def e78_L0 : EC := .seq (.seq (.reg [⟨(some 11), none, .mv (.t 5)⟩, ⟨(some 12), none, .mv (.t 0)⟩, ⟨(some 13), none, .len (.t 12)⟩, ⟨(some 14), none, .bin .lss (.t 11) (.t 13)⟩]) (.ite (.t 14) (.skip) (.exit 0))) (.seq (.blk 1 (.seq (.drw [⟨(some 17), none, .mv (.t 0)⟩, ⟨(some 18), none, .mv (.t 5)⟩, ⟨(some 19), none, .idx 5 (.t 17) (.t 18)⟩, ⟨(some 20), none, .loadA 5 (.t 19)⟩, ⟨(some 21), none, .mv (.t 1)⟩, ⟨(some 22), none, .mv (.t 5)⟩, ⟨(some 23), none, .idx 5 (.t 21) (.t 22)⟩, ⟨(some 24), none, .loadA 5 (.t 23)⟩, ⟨(some 25), none, .eqs true [true, true, true, true, true] (.t 20) (.t 24)⟩] [[], [], [0, 1], [2], [], [], [4, 5], [6], [3, 7]] [[2], [2], [0, 1, 3], [2, 8], [6], [6], [4, 5, 7], [6, 8], [3, 7]]) (.ite (.t 25) (.seq (.reg [⟨(some 4), none, .mv (.c .ff)⟩]) (.ret)) (.skip)))) (.reg [⟨(some 15), none, .mv (.t 5)⟩, ⟨(some 16), none, .bin .add (.t 15) (.c (.iv 1))⟩, ⟨(some 5), none, .mv (.t 16)⟩]))
def e78 : EC := .seq (.reg [⟨(some 4), none, .mv (.c .ff)⟩]) (.seq (.seq (.reg [⟨(some 6), none, .mv (.t 0)⟩, ⟨(some 7), none, .len (.t 6)⟩, ⟨(some 8), none, .mv (.t 1)⟩, ⟨(some 9), none, .len (.t 8)⟩, ⟨(some 10), none, .bin .neq (.t 7) (.t 9)⟩]) (.ite (.t 10) (.seq (.reg [⟨(some 4), none, .mv (.c .ff)⟩]) (.ret)) (.skip))) (.seq (.seq (.reg [⟨(some 5), none, .mv (.c (.iv 0))⟩]) (.blk 0 (.loop e78_L0))) (.seq (.reg [⟨(some 4), none, .mv (.c .tt)⟩]) (.ret))))
theorem ok78 : FnOK Try.prog 78 Try.f78 e78 [.t 4] 2 24 := ⟨by kernel_rfl, ⟨_, rfl, by kernel_rfl⟩, by kernel_rfl, by kernel_rfl⟩
/- narthex/narthexref13.SameMail -/
noncomputable def m_narthexref13_SameMail_j1  : Unit → Option Bool
| () =>
 some true
noncomputable def m_narthexref13_SameMail_l1 (x1 : (List Mail)) (x2 : (List Mail)) : Int → Option (Int ⊕ Bool)
| x6 =>
 ifb (decide (x6 < (ln Mail.row x1))) (
 (at_ x1 x6).bind fun x7 =>
 (at_ x2 x6).bind fun x8 =>
 ifb (!(decide (x7.From = x8.From) && (decide (x7.To = x8.To) && (decide (x7.Msg.Kind = x8.Msg.Kind) && (decide (x7.Msg.Epoch = x8.Msg.Epoch) && (decide (x7.Msg.Num = x8.Msg.Num) && true)))))) (
 Option.map Sum.inr (some false)) (
 some (.inl (wr (x6 + 1))))) (
 Option.map Sum.inr (m_narthexref13_SameMail_j1 ()))
noncomputable def m_narthexref13_SameMail (x1 : (List Mail)) (x2 : (List Mail)) : Option Bool :=
 ifb (!decide ((ln Mail.row x1) = (ln Mail.row x2))) (
 some false) (
 loop (m_narthexref13_SameMail_l1 x1 x2) 0)
theorem k_narthexref13_SameMail (x1 : (List Mail)) (x2 : (List Mail)) (r : Bool) (h : m_narthexref13_SameMail x1 x2 = some r) : FunP Try.prog 78 [.sl 5 (List.map Mail.row x1), .sl 5 (List.map Mail.row x2)] (.bv r) := by
  refine FunP_intro ok78 rfl rfl fun w0 H0 => ?_
  rw [m_narthexref13_SameMail] at h
  refine V_go 13 ?_; dsimp only [e78, e78_L0, go_sem, Nat.reduceBEq, Nat.reduceAdd]; refine ⟨by simp, ?_⟩; refine M_ite h rfl (fun _ h => ?_) fun _ h => ?_
  ·refine V_go 4 ?_; dsimp only [e78, e78_L0, go_sem, Nat.reduceBEq, Nat.reduceAdd]; refine ⟨by simp, ?_⟩; exact M_done (res := fun (r : Bool) => .bv r) ok78 h
  ·refine V_go 6 ?_; dsimp only [e78, e78_L0, go_sem, Nat.reduceBEq, Nat.reduceAdd]; refine ⟨by simp, ?_⟩; refine V_join (fun (_ : Unit) => (⟨(an 26 []), [], []⟩ : St)) m_narthexref13_SameMail_j1 r ?_ fun J1 => ?_
   ·rintro ⟨⟩ h; rw [m_narthexref13_SameMail_j1] at h; (try dsimp only); refine V_go 4 ?_; dsimp only [e78, e78_L0, go_sem, Nat.reduceBEq, Nat.reduceAdd]; refine ⟨by simp, ?_⟩; exact M_done (res := fun (r : Bool) => .bv r) ok78 h
   ·refine V_go 1 ?_; dsimp only [e78, e78_L0, go_sem, Nat.reduceBEq, Nat.reduceAdd]; refine ⟨by simp, ?_⟩; refine M_loop h (fun (x6 : Int) => (⟨(.sl 5 (List.map Mail.row x1) :: .sl 5 (List.map Mail.row x2) :: an 3 (.iv x6 :: an 20 [])), [], []⟩ : St)) (by simp [go_sem]) (by intro x6; first | rfl | simp [go_sem]) ?_; rintro n1 x6 y1 h hin1 hout1; rw [m_narthexref13_SameMail_l1] at h; (try dsimp only); refine V_go 8 ?_; dsimp only [e78, e78_L0, go_sem, Nat.reduceBEq, Nat.reduceAdd]; refine ⟨by simp, ?_⟩; refine M_ite h rfl (fun _ h => ?_) fun _ h => ?_
    ·refine V_go 4 ?_; dsimp only [e78, e78_L0, go_sem, Nat.reduceBEq, Nat.reduceAdd]; refine ⟨by simp, ?_⟩; refine V_drw (by kernel_rfl) fun all hall hs hnap haf => ?_; dsimp only [go_sem, Nat.reduceBEq, Nat.reduceAdd]; refine G_goN hall hs haf hnap 4 5 ?_; dsimp only [go_sem, Nat.reduceBEq, Nat.reduceAdd]; refine ⟨by simp, ?_⟩; obtain ⟨x7, ex7, h⟩ := Option.bind_eq_some_iff.1 h; refine G_idxM hall hs haf hnap 2 Mail.row ex7 rfl rfl trivial rfl rfl rfl rfl ?_; refine G_goN hall hs haf hnap 1 3 ?_; dsimp only [go_sem, Nat.reduceBEq, Nat.reduceAdd]; refine ⟨by simp, ?_⟩
     obtain ⟨x8, ex8, h⟩ := Option.bind_eq_some_iff.1 h; refine G_idxM hall hs haf hnap 6 Mail.row ex8 rfl rfl trivial rfl rfl rfl rfl ?_; refine G_goN hall hs haf hnap 2 0 ?_; dsimp only [go_sem, Nat.reduceBEq, Nat.reduceAdd]; refine ⟨by simp, ?_⟩; refine G_done rfl ?_ _; refine M_ite h rfl (fun _ h => ?_) fun _ h => ?_
     ·refine V_go 4 ?_; dsimp only [e78, e78_L0, go_sem, Nat.reduceBEq, Nat.reduceAdd]; refine ⟨by simp, ?_⟩; exact M_done (res := fun (r : Bool) => .bv r) ok78 (M_out h hout1)
     ·refine V_go 7 ?_; dsimp only [e78, e78_L0, go_sem, Nat.reduceBEq, Nat.reduceAdd]; refine ⟨by simp, ?_⟩; exact M_back h hin1
    ·refine V_go 1 ?_; dsimp only [e78, e78_L0, go_sem, Nat.reduceBEq, Nat.reduceAdd]; refine ⟨by simp, ?_⟩; exact M_to J1 (s := ()) (M_out h hout1)
end NX
end Go.Proofs.Ytadebhbiglmodaa
/-
  The function narthex/narthexref14.Same: its code compiled, a model, and that the code answers as the model. Written by a program of ours (lb.py). No statement of the seat is proved here.
-/
namespace Go.Proofs.Ytadebhbiglmodaa
namespace NX
open Go
set_option maxRecDepth 100000
set_option maxHeartbeats 4000000
def e47 : EC := .seq (.reg [⟨(some 2), none, .box 43 2 (.t 0)⟩, ⟨(some 3), none, .box 43 2 (.t 1)⟩, ⟨(some 4), none, .mv (.c .ff)⟩]) (.seq (.reg [⟨(some 5), none, .fld 0 (.t 2)⟩, ⟨(some 6), none, .load (.t 5)⟩, ⟨(some 7), none, .fld 0 (.t 3)⟩, ⟨(some 8), none, .load (.t 7)⟩, ⟨(some 9), none, .call 18 [(.t 6), (.t 8)]⟩, ⟨(some 10), none, .mv (.t 9)⟩, ⟨(some 11), (some (10, true)), .fld 1 (.t 2)⟩, ⟨(some 12), (some (10, true)), .load (.t 11)⟩, ⟨(some 13), (some (10, true)), .fld 1 (.t 3)⟩, ⟨(some 14), (some (10, true)), .load (.t 13)⟩, ⟨(some 15), (some (10, true)), .call 78 [(.t 12), (.t 14)]⟩, ⟨(some 16), none, .pick (.t 10) (.t 15) (.c .ff)⟩, ⟨(some 4), none, .mv (.t 16)⟩]) (.ret))
theorem ok47 : FnOK Try.prog 47 Try.f47 e47 [.t 4] 2 15 := ⟨by kernel_rfl, ⟨_, rfl, by kernel_rfl⟩, by kernel_rfl, by kernel_rfl⟩
/- narthex/narthexref14.Same -/
noncomputable def m_narthexref14_Same_j1  : Bool → Option Bool
| x5 =>
 some x5
noncomputable def m_narthexref14_Same (x1 : Scene) (x2 : Scene) : Option Bool :=
 (m_narthexref12_Same x1.Diners x2.Diners).bind fun x3 =>
 ifb x3 (
 (m_narthexref13_SameMail x1.Mail x2.Mail).bind fun x4 =>
 m_narthexref14_Same_j1 x4) (
 m_narthexref14_Same_j1 false)
theorem k_narthexref14_Same (x1 : Scene) (x2 : Scene) (r : Bool) (h : m_narthexref14_Same x1 x2 = some r) : FunP Try.prog 47 [.agg (Scene.row x1), .agg (Scene.row x2)] (.bv r) := by
  refine FunP_intro ok47 rfl rfl fun w0 H0 => ?_
  rw [m_narthexref14_Same] at h
  refine V_go 12 ?_; dsimp only [e47, go_sem, Nat.reduceBEq, Nat.reduceAdd]; refine ⟨by simp, ?_⟩; obtain ⟨x3, ex3, h⟩ := Option.bind_eq_some_iff.1 h; refine V_call trivial (k_narthexref12_Same x1.Diners x2.Diners _ ex3) (h := ?_); refine V_go 1 ?_; dsimp only [e47, go_sem, Nat.reduceBEq, Nat.reduceAdd]; refine ⟨by simp, ?_⟩; refine V_join (fun (x5 : Bool) => (⟨(an 4 (.bv x5 :: an 12 [])), [], []⟩ : St)) m_narthexref14_Same_j1 r ?_ fun J1 => ?_
  ·intro x5 h; rw [m_narthexref14_Same_j1] at h; (try dsimp only); exact M_done (res := fun (r : Bool) => .bv r) ok47 h
  ·refine M_case 10 h rfl (fun _ h => ?_) fun _ h => ?_
   ·dsimp only [go_sem, Nat.reduceBEq, Nat.reduceAdd]; refine V_go 4 ?_; dsimp only [e47, go_sem, Nat.reduceBEq, Nat.reduceAdd]; refine ⟨by simp, ?_⟩; obtain ⟨x4, ex4, h⟩ := Option.bind_eq_some_iff.1 h; refine V_call trivial (k_narthexref13_SameMail x1.Mail x2.Mail _ ex4) (h := ?_); refine V_go 3 ?_; dsimp only [e47, go_sem, Nat.reduceBEq, Nat.reduceAdd]; refine ⟨by simp, ?_⟩; exact M_to J1 (s := x4) h
   ·dsimp only [go_sem, Nat.reduceBEq, Nat.reduceAdd]; refine V_go 8 ?_; dsimp only [e47, go_sem, Nat.reduceBEq, Nat.reduceAdd]; refine ⟨by simp, ?_⟩; exact M_to J1 (s := false) h
end NX
end Go.Proofs.Ytadebhbiglmodaa
/-
  Plain laws: package table. No statement of the seat is proved here.
-/
namespace Go.Proofs.Ytadebhbiglmodaa
namespace NX
open Go
theorem s_IndexFunc_Mail' (l : List Mail) (p : Mail → Option Bool) (q : Mail → Bool) (hl : l.length ≤ 4000000000000000000) (hp : ∀ x ∈ l, p x = some (q x)) : m_slices_IndexFunc_Mail l p = some (plc (l.findIdx? q)) := by
  unfold m_slices_IndexFunc_Mail
  refine loop_place l _ q hl (fun k x hx => ?_) ?_
  · simp only [m_slices_IndexFunc_Mail_l1, lt_len hx, ifb_true, at_get hx, Option.bind_some, hp x (List.mem_iff_getElem?.2 ⟨k, hx⟩), wr_succ' hx hl]
    cases q x <;> rfl
  · simp only [m_slices_IndexFunc_Mail_l1, nlt_len, ifb_false, m_slices_IndexFunc_Mail_j1, Option.map_some]
theorem s_ContainsFunc_Mail' (l : List Mail) (p : Mail → Option Bool) (q : Mail → Bool) (hl : l.length ≤ 4000000000000000000) (hp : ∀ x ∈ l, p x = some (q x)) : m_slices_ContainsFunc_Mail l p = some (l.any q) := by
  unfold m_slices_ContainsFunc_Mail
  rw [s_IndexFunc_Mail' l p q hl hp, Option.bind_some, plc_nonneg, findIdx_any]
theorem s_IndexFunc_Diner' (l : List Diner) (p : Diner → Option Bool) (q : Diner → Bool) (hl : l.length ≤ 4000000000000000000) (hp : ∀ x ∈ l, p x = some (q x)) : m_slices_IndexFunc_Diner l p = some (plc (l.findIdx? q)) := by
  unfold m_slices_IndexFunc_Diner
  refine loop_place l _ q hl (fun k x hx => ?_) ?_
  · simp only [m_slices_IndexFunc_Diner_l1, lt_len hx, ifb_true, at_get hx, Option.bind_some, hp x (List.mem_iff_getElem?.2 ⟨k, hx⟩), wr_succ' hx hl]
    cases q x <;> rfl
  · simp only [m_slices_IndexFunc_Diner_l1, nlt_len, ifb_false, m_slices_IndexFunc_Diner_j1, Option.map_some]
theorem s_ContainsFunc_Diner' (l : List Diner) (p : Diner → Option Bool) (q : Diner → Bool) (hl : l.length ≤ 4000000000000000000) (hp : ∀ x ∈ l, p x = some (q x)) : m_slices_ContainsFunc_Diner l p = some (l.any q) := by
  unfold m_slices_ContainsFunc_Diner
  rw [s_IndexFunc_Diner' l p q hl hp, Option.bind_some, plc_nonneg, findIdx_any]
def scene0 : Scene := ⟨[], []⟩
def okMail (n : Nat) (m : Mail) : Bool := !(decide (min m.From m.To < 0) || (decide ((n : Int) ≤ max m.From m.To) || decide (m.From = m.To)))
/-- A scene that may be. -/
def okS (s : Scene) : Bool := (graphP s.Diners).2 && (s.Diners.all okD && s.Mail.all (okMail s.Diners.length))
theorem s_tCheck1 (m : Mail) (s : Scene) : m_table_Check_1 m s = some (!okMail s.Diners.length m) := by
  simp only [m_table_Check_1, m_table_Check_1_j1, okMail, ln_eq, Bool.not_not]
  cases decide (min m.From m.To < 0) <;> cases decide ((s.Diners.length : Int) ≤ max m.From m.To) <;> rfl
theorem s_tCheck (s : Scene) (hD : fewD s.Diners) (hM : s.Mail.length ≤ 1000000) : m_table_Check s = some (if okS s then 0 else 142) := by
  simp only [m_table_Check, s_Graph _ hD, Option.bind_some, m_table_Check_j1]
  rw [show okS s = ((graphP s.Diners).2 && (s.Diners.all okD && s.Mail.all (okMail s.Diners.length))) from rfl]
  cases h1 : (graphP s.Diners).2 with
  | false => simp
  | true =>
    rw [s_ContainsFunc_Diner' s.Diners _ (fun d => !okD d) (by have := hD.1; omega) (fun d _ => by
      simp only [m_table_Check_2, s_dCheck, Option.bind_some]
      cases okD d <;> rfl)]
    rw [s_ContainsFunc_Mail' s.Mail _ (fun m => !okMail s.Diners.length m) (by omega) (fun m _ => s_tCheck1 m s)]
    have e1 : s.Diners.any (fun d => !okD d) = !s.Diners.all okD := any_not_all _ _ _ fun _ => rfl
    have e2 : s.Mail.any (fun m => !okMail s.Diners.length m) = !s.Mail.all (okMail s.Diners.length) := any_not_all _ _ _ fun _ => rfl
    rw [e1, e2]
    cases s.Diners.all okD <;> cases s.Mail.all (okMail s.Diners.length) <;> rfl
def thereB (s : Scene) (a : Int) : Bool := decide (0 ≤ a) && decide (a < s.Diners.length)
theorem s_there (s : Scene) (a : Int) : m_table_there s a = some (thereB s a) := by
  simp only [m_table_there, m_table_there_j1, thereB, ln_eq]
  cases decide (0 ≤ a) <;> rfl
theorem s_Grow (n : Nat) (hn : n ≤ 3000000) : m_slices_Grow_Mail_in_slices_Concat_Mail_1 n = some [] := by
  have e0 : wr (0 - 0) = 0 := wr_id (by omega) (by omega)
  have e1 : wr ((n : Int) - 0) = n := by rw [wr_id (by omega) (by omega)]; omega
  simp only [m_slices_Grow_Mail_in_slices_Concat_Mail_1, m_slices_Grow_Mail_in_slices_Concat_Mail_1_j1, m_slices_Grow_Mail_in_slices_Concat_Mail_1_j2, e0, e1]
  rw [decide_eq_false (by omega), ifb_false]
  by_cases h : 0 < n
  · rw [decide_eq_true (by omega), ifb_true]
    unfold apz_
    rw [if_pos ⟨by omega, by omega, by omega⟩, Option.bind_some]
    unfold sub_
    rw [if_pos ⟨by omega, by omega, by omega⟩]
    simp
  · rw [decide_eq_false (by omega), ifb_false]
theorem s_Concat (a b : List Mail) (ha : a.length ≤ 1000000) (hb : b.length ≤ 1000000) : m_slices_Concat_Mail [a, b] = some (a ++ b) := by
  have g0 : at_ [a, b] 0 = some a := rfl
  have g1 : at_ [a, b] (wr (0 + 1)) = some b := by rw [wr_id (by omega) (by omega)]; rfl
  have l0 : ln (slRow 5 Mail.row) [a, b] = 2 := by rw [ln_eq]; rfl
  have w1 : wr (0 + 1) = 1 := wr_id (by omega) (by omega)
  have w2 : wr (1 + 1) = 2 := wr_id (by omega) (by omega)
  have s1 : wr (0 + ln Mail.row a) = (a.length : Int) := by rw [ln_eq, wr_id (by omega) (by omega)]; omega
  have s2 : wr ((a.length : Int) + ln Mail.row b) = ((a.length + b.length : Nat) : Int) := by rw [ln_eq, wr_id (by omega) (by omega)]; omega
  unfold m_slices_Concat_Mail
  rw [loop_eq]
  dsimp only [m_slices_Concat_Mail_l1]
  rw [l0, show decide ((0 : Int) < 2) = true from rfl, ifb_true, g0, Option.bind_some, s1, decide_eq_false (by omega), ifb_false]
  dsimp only [m_slices_Concat_Mail_j2]
  rw [s1, w1, loop_eq]
  dsimp only [m_slices_Concat_Mail_l1]
  rw [l0, show decide ((1 : Int) < 2) = true from rfl, ifb_true, ← w1, g1, Option.bind_some, s2, decide_eq_false (by omega), ifb_false]
  dsimp only [m_slices_Concat_Mail_j2]
  rw [s2, w1, w2, loop_eq]
  dsimp only [m_slices_Concat_Mail_l1]
  rw [l0, show decide ((2 : Int) < 2) = false from rfl, ifb_false]
  dsimp only [m_slices_Concat_Mail_j1]
  rw [s_Grow _ (by omega), Option.bind_some]
  have k : loop (m_slices_Concat_Mail_l2 [a, b]) (0, []) = some (a ++ b) := by
    rw [loop_eq]
    dsimp only [m_slices_Concat_Mail_l2]
    rw [l0, show decide ((0 : Int) < 2) = true from rfl, ifb_true, g0, Option.bind_some, app_ok _ _ (by omega) (by simp; omega), Option.bind_some, List.nil_append, w1]
    dsimp only
    rw [loop_eq]
    dsimp only [m_slices_Concat_Mail_l2]
    rw [l0, show decide ((1 : Int) < 2) = true from rfl, ifb_true, ← w1, g1, Option.bind_some, app_ok _ _ (by omega) (by omega), Option.bind_some, w1, w2]
    dsimp only
    rw [loop_eq]
    dsimp only [m_slices_Concat_Mail_l2]
    rw [l0, show decide ((2 : Int) < 2) = false from rfl, ifb_false]
    rfl
  rw [k]; rfl
/-- What becomes of a scene, if a node is another one. -/
def actS (s : Scene) (a : Int) (d : Diner) : Scene := ⟨s.Diners.map fun x => if x.ID = a then fireD d else x, s.Mail ++ fireMs d⟩
def actP (s : Scene) (a : Int) (r : Diner × Int) : Scene × Int := if r.2 = 0 then (if okD r.1 then (actS s a r.1, 0) else (scene0, 130)) else (scene0, r.2)
theorem okD_fireD {d : Diner} (h : okD d = true) : (fireD d).Sides.length ≤ 64 := by
  have := okD_len h
  unfold fireD
  split <;> simp <;> omega
theorem s_act (s : Scene) (a : Int) (p : Diner → Option (Diner × Int)) (q : Diner → Diner × Int) (hp : ∀ d, p d = some (q d)) (hD : fewD s.Diners) (hM : s.Mail.length ≤ 900000) (d : Diner) (hd : at_ s.Diners a = some d) : m_table_act s a p = some (actP s a (q d)) := by
  simp only [m_table_act, hd, Option.bind_some, hp, actP]
  by_cases h0 : (q d).2 = 0
  · simp only [h0, decide_true, Bool.not_true, ifb_false, s_Fire, Option.bind_some, if_true]
    cases hk : okD (q d).1 with
    | false => rfl
    | true =>
      have hl := okD_len hk
      have hf := okD_fireD hk
      have hms := fireMs_len (q d).1.Sides (q d).1.ID (q d).1.Phase
      have hc := s_Concat s.Mail (fireMs (q d).1) (by omega) (by unfold fireMs; omega)
      simp only [if_true, decide_true, Bool.not_true, ifb_false, hc, Option.bind_some]
      refine loop_pre s.Diners _ (fun pre => ((pre.length : Int), pre.map fun x => if x.ID = a then fireD (q d).1 else x)) _ (fun pre x post h => ?_) ?_
      · have hx := mid_get h
        have hm := mid_len h
        have h1 := hD.1
        have h2 := hD.2 x (mid_mem h)
        dsimp only [m_table_act_l1]
        rw [lt_len hx, ifb_true, at_get hx, Option.bind_some, len_snoc, List.map_append]
        have step : ∀ z : Diner, z.Sides.length ≤ 5000 → m_table_act_j2 (pre.length : Int) (pre.map fun x => if x.ID = a then fireD (q d).1 else x) z = some (.inl (((pre.length + 1 : Nat) : Int), (pre.map fun x => if x.ID = a then fireD (q d).1 else x) ++ [z])) := fun z hz => by
          dsimp only [m_table_act_j2]
          rw [s_CloneSide z.Sides (by omega), Option.bind_some, app_ok _ _ (by omega) (by simp; omega), Option.bind_some, wr_succ (by omega)]
        by_cases hi : x.ID = a
        · rw [decide_eq_true hi, ifb_true, step _ (by omega)]
          simp [hi]
        · rw [decide_eq_false hi, ifb_false, step _ h2]
          simp [hi]
      · dsimp only [m_table_act_l1]
        rw [nlt_len, ifb_false]
        rfl
  · simp only [h0, decide_false, Bool.not_false, ifb_true, if_false]
    rfl
def turnS (s : Scene) (a : Int) (q : Diner → Diner × Int) : Scene × Int :=
  if okS s then (if thereB s a then (match at_ s.Diners a with | some d => actP s a (q d) | none => (scene0, 140)) else (scene0, 140)) else (scene0, 142)
theorem there_at {s : Scene} {a : Int} (h : thereB s a = true) : ∃ d, at_ s.Diners a = some d ∧ s.Diners[a.toNat]? = some d := by
  simp only [thereB, Bool.and_eq_true, decide_eq_true_eq] at h
  exact at_lt h.1 h.2
theorem s_turn (s : Scene) (a : Int) (p : Diner → Option (Diner × Int)) (q : Diner → Diner × Int) (hp : ∀ d, p d = some (q d)) (hD : fewD s.Diners) (hM : s.Mail.length ≤ 900000) : m_table_turn s a p = some (turnS s a q) := by
  simp only [m_table_turn, s_tCheck s hD (by omega), Option.bind_some, turnS]
  cases okS s with
  | false => rfl
  | true =>
    simp only [if_true, decide_true, Bool.not_true, ifb_false, s_there, Option.bind_some]
    cases h : thereB s a with
    | false => rfl
    | true =>
      obtain ⟨d, hd, _⟩ := there_at h
      simp only [Bool.not_true, ifb_false, s_act s a p q hp hD hM d hd, hd, Option.bind_some, if_true]
theorem s_Start (s : Scene) (a : Int) (hD : fewD s.Diners) (hM : s.Mail.length ≤ 900000) : m_table_Start s a = some (turnS s a fun d => turnD d 0 1) := by
  simp only [m_table_Start, s_turn s a _ (fun d => turnD d 0 1) s_dStart hD hM, Option.bind_some]
theorem s_Stop (s : Scene) (a : Int) (hD : fewD s.Diners) (hM : s.Mail.length ≤ 900000) : m_table_Stop s a = some (turnS s a fun d => turnD d 2 0) := by
  simp only [m_table_Stop, s_turn s a _ (fun d => turnD d 2 0) s_dStop hD hM, Option.bind_some]
def delivI (s : Scene) (a b : Int) : Option Nat := s.Mail.findIdx? fun m => decide (m.From = a) && decide (m.To = b)
def delivS (s : Scene) (a b : Int) : Scene × Int :=
  if okS s then (if thereB s a && thereB s b then (match delivI s a b with
    | none => (scene0, 141)
    | some i => match s.Mail[i]?, at_ s.Diners b with
      | some m, some d => actP ⟨s.Diners, s.Mail.take i ++ s.Mail.drop (i + 1)⟩ b (getD' d a m.Msg)
      | _, _ => (scene0, 140)) else (scene0, 140)) else (scene0, 142)
theorem s_Deliver (s : Scene) (a b : Int) (hD : fewD s.Diners) (hM : s.Mail.length ≤ 900000) : m_table_Deliver s a b = some (delivS s a b) := by
  simp only [m_table_Deliver, s_tCheck s hD (by omega), Option.bind_some, delivS]
  cases okS s with
  | false => rfl
  | true =>
    simp only [if_true, decide_true, Bool.not_true, ifb_false, s_there, Option.bind_some]
    cases h : thereB s a with
    | false => rfl
    | true =>
      cases h' : thereB s b with
      | false => rfl
      | true =>
        obtain ⟨d, hd, _⟩ := there_at h'
        simp only [Bool.not_true, ifb_false, m_table_Deliver_j1, Bool.and_self, if_true]
        rw [s_IndexFunc_Mail' s.Mail (fun z => m_table_Deliver_1 z a b) (fun m => decide (m.From = a) && decide (m.To = b)) (by omega) (fun m _ => by
          simp only [m_table_Deliver_1, m_table_Deliver_1_j1]
          cases decide (m.From = a) <;> rfl), Option.bind_some, plc_neg]
        have hfi := find_idx (fun m : Mail => decide (m.From = a) && decide (m.To = b)) s.Mail
        unfold delivI
        cases hf : s.Mail.findIdx? (fun m => decide (m.From = a) && decide (m.To = b)) with
        | none => rfl
        | some i =>
          rw [hf] at hfi
          obtain ⟨m, hm, _⟩ := hfi
          have hlt := (List.getElem?_eq_some_iff.1 hm).1
          have e1 : sub_ s.Mail 0 (i : Int) = some (s.Mail.take i) := by
            unfold sub_
            rw [if_pos ⟨by omega, by omega, by omega⟩]; simp
          have e2 : sub_ s.Mail (wr ((i : Int) + 1)) (ln Mail.row s.Mail) = some (s.Mail.drop (i + 1)) := by
            rw [wr_succ (by omega), ln_eq]
            unfold sub_
            rw [if_pos ⟨by omega, by omega, by omega⟩]; simp
          simp only [Option.isNone_some, ifb_false, plc, at_get hm, Option.bind_some, e1, e2, hm, hd]
          rw [s_Concat _ _ (by simp; omega) (by simp; omega), Option.bind_some]
          simp only [m_table_Deliver_j2]
          rw [s_act ⟨s.Diners, s.Mail.take i ++ s.Mail.drop (i + 1)⟩ b _ (fun d => getD' d a m.Msg) (fun d => by simp only [m_table_Deliver_2, s_Get, Option.bind_some]) hD (by simp; omega) d hd]
          rfl
def actA (s : Scene) (k a b : Int) : Scene × Int := if k = 0 then turnS s a (fun d => turnD d 0 1) else if k = 1 then turnS s a (fun d => turnD d 2 0) else delivS s a b
theorem s_act14 (s : Scene) (k a b : Int) (hD : fewD s.Diners) (hM : s.Mail.length ≤ 900000) : m_narthexlaw14_act s ⟨k, a, b⟩ = some (actA s k a b) := by
  simp only [m_narthexlaw14_act, actA, s_Start s a hD hM, s_Stop s a hD hM, s_Deliver s a b hD hM, Option.bind_some]
  by_cases h0 : k = 0
  · simp [h0]
  · by_cases h1 : k = 1
    · simp [h1]
    · simp [h0, h1]
theorem s_own14 (s : Scene) (hD : fewD s.Diners) (hM : s.Mail.length ≤ 900000) : m_narthexlaw14_own s = some s := by
  simp only [m_narthexlaw14_own, s_Own _ hD, Option.bind_some]
  rw [app_ok _ _ (by omega) (by simp; omega)]
  rfl
theorem s_SameMail (l m : List Mail) (hl : l.length ≤ 1000000) : m_narthexref13_SameMail l m = some (decide (l = m)) := by
  simp only [m_narthexref13_SameMail, ln_dec]
  by_cases h : l.length = m.length
  · simp only [h, decide_true, Bool.not_true, ifb_false]
    rw [loop_all2 l m _ (fun x y => decide (x = y)) h (by omega) (fun k x y hx hy => by
      simp only [m_narthexref13_SameMail_l1, lt_len hx, ifb_true, at_get hx, at_get hy, Option.bind_some, Mail_eqB, wr_succ' hx (show l.length ≤ 4000000000000000000 by omega), ifb_not, Option.map_some]
      cases decide (x = y) <;> rfl) (by simp only [m_narthexref13_SameMail_l1, nlt_len, ifb_false, m_narthexref13_SameMail_j1, Option.map_some]), zip_all_eq l m h]
  · simp [h, len_ne h]
theorem s_Same14 (s t : Scene) (hD : fewD s.Diners) (hM : s.Mail.length ≤ 900000) : m_narthexref14_Same s t = some (decide (s = t)) := by
  obtain ⟨l, m⟩ := s
  obtain ⟨l', m'⟩ := t
  simp only [m_narthexref14_Same, m_narthexref14_Same_j1, s_r12Same _ _ hD, s_SameMail m m' (by simp only at hM; omega), Option.bind_some, Scene.mk.injEq]
  by_cases h1 : l = l' <;> by_cases h2 : m = m' <;> simp [h1, h2]
theorem ids {l : List Diner} (h : (graphP l).2 = true) {k : Nat} {d : Diner} (hd : l[k]? = some d) : d.ID = k := by
  unfold graphP at h
  split at h
  · rename_i h1
    simp only [Bool.and_eq_true] at h1
    have := ((okAll_iff l l 0).1 h1.1 k d hd).1
    simpa using this
  · simp at h
end NX
end Go.Proofs.Ytadebhbiglmodaa
/-
  The function slices.Index[[]int,int]: its code compiled, a model, and that the code answers as the model. Written by a program of ours (lb.py). No statement of the seat is proved here.
-/
namespace Go.Proofs.Ytadebhbiglmodaa
namespace NX
open Go
set_option maxRecDepth 100000
set_option maxHeartbeats 4000000
def e87_L0 : EC := .seq (.reg [⟨(some 9), none, .bin .lss (.t 8) (.t 7)⟩]) (.seq (.ite (.t 9) (.skip) (.exit 0)) (.seq (.blk 1 (.seq (.reg [⟨(some 10), none, .mv (.t 8)⟩, ⟨(some 5), none, .mv (.t 10)⟩]) (.seq (.reg [⟨(some 11), none, .mv (.t 1)⟩, ⟨(some 12), none, .mv (.t 0)⟩, ⟨(some 13), none, .mv (.t 5)⟩, ⟨(some 14), none, .idx 1 (.t 12) (.t 13)⟩, ⟨(some 15), none, .load (.t 14)⟩, ⟨(some 16), none, .bin .eql (.t 11) (.t 15)⟩]) (.ite (.t 16) (.seq (.reg [⟨(some 17), none, .mv (.t 5)⟩, ⟨(some 4), none, .mv (.t 17)⟩]) (.ret)) (.skip))))) (.reg [⟨(some 18), none, .bin .add (.t 8) (.c (.iv 1))⟩, ⟨(some 8), none, .mv (.t 18)⟩])))
def e87 : EC := .seq (.reg [⟨(some 4), none, .mv (.c (.iv 0))⟩]) (.seq (.seq (.reg [⟨(some 6), none, .mv (.t 0)⟩, ⟨(some 7), none, .len (.t 6)⟩, ⟨(some 8), none, .mv (.c (.iv 0))⟩]) (.blk 0 (.loop e87_L0))) (.seq (.reg [⟨(some 4), none, .mv (.c (.iv (-1)))⟩]) (.ret)))
theorem ok87 : FnOK Try.prog 87 Try.f87 e87 [.t 4] 2 17 := ⟨by kernel_rfl, ⟨_, rfl, by kernel_rfl⟩, by kernel_rfl, by kernel_rfl⟩
/- slices.Index[[]int,int] -/
noncomputable def m_slices_Index_int_j1  : Unit → Option Int
| () =>
 some (-1)
noncomputable def m_slices_Index_int_l1 (x1 : (List Int)) (x2 : Int) : Int → Option (Int ⊕ Int)
| x5 =>
 ifb (decide (x5 < (ln intRow x1))) (
 (at_ x1 x5).bind fun x6 =>
 ifb (decide (x2 = x6)) (
 Option.map Sum.inr (some x5)) (
 some (.inl (wr (x5 + 1))))) (
 Option.map Sum.inr (m_slices_Index_int_j1 ()))
noncomputable def m_slices_Index_int (x1 : (List Int)) (x2 : Int) : Option Int :=
 loop (m_slices_Index_int_l1 x1 x2) 0
theorem k_slices_Index_int (x1 : (List Int)) (x2 : Int) (r : Int) (h : m_slices_Index_int x1 x2 = some r) : FunP Try.prog 87 [.sl 1 (List.map intRow x1), .iv x2] (.iv r) := by
  refine FunP_intro ok87 rfl rfl fun w0 H0 => ?_
  rw [m_slices_Index_int] at h
  refine V_go 11 ?_; dsimp only [e87, e87_L0, go_sem, Nat.reduceBEq, Nat.reduceAdd]; refine ⟨by simp, ?_⟩; refine V_join (fun (_ : Unit) => (⟨(an 19 []), [], []⟩ : St)) m_slices_Index_int_j1 r ?_ fun J1 => ?_
  ·rintro ⟨⟩ h; rw [m_slices_Index_int_j1] at h; (try dsimp only); refine V_go 4 ?_; dsimp only [e87, e87_L0, go_sem, Nat.reduceBEq, Nat.reduceAdd]; refine ⟨by simp, ?_⟩; exact M_done (res := fun (r : Int) => .iv r) ok87 h
  ·refine V_go 1 ?_; dsimp only [e87, e87_L0, go_sem, Nat.reduceBEq, Nat.reduceAdd]; refine ⟨by simp, ?_⟩; refine M_loop h (fun (x5 : Int) => (⟨(.sl 1 (List.map intRow x1) :: .iv x2 :: an 5 (.iv (ln intRow x1) :: .iv x5 :: an 10 [])), [], []⟩ : St)) (by simp [go_sem]) (by intro x5; first | rfl | simp [go_sem]) ?_; rintro n1 x5 y1 h hin1 hout1; rw [m_slices_Index_int_l1] at h; (try dsimp only); refine V_go 5 ?_; dsimp only [e87, e87_L0, go_sem, Nat.reduceBEq, Nat.reduceAdd]; refine ⟨by simp, ?_⟩; refine M_ite h rfl (fun _ h => ?_) fun _ h => ?_
   ·refine V_go 13 ?_; dsimp only [e87, e87_L0, go_sem, Nat.reduceBEq, Nat.reduceAdd]; refine ⟨by simp, ?_⟩; obtain ⟨x6, ex6, h⟩ := Option.bind_eq_some_iff.1 h; refine V_idxM intRow ex6 trivial rfl rfl rfl ?_; refine V_go 3 ?_; dsimp only [e87, e87_L0, go_sem, Nat.reduceBEq, Nat.reduceAdd]; refine ⟨by simp, ?_⟩; refine M_ite h rfl (fun _ h => ?_) fun _ h => ?_
    ·refine V_go 5 ?_; dsimp only [e87, e87_L0, go_sem, Nat.reduceBEq, Nat.reduceAdd]; refine ⟨by simp, ?_⟩; exact M_done (res := fun (r : Int) => .iv r) ok87 (M_out h hout1)
    ·refine V_go 6 ?_; dsimp only [e87, e87_L0, go_sem, Nat.reduceBEq, Nat.reduceAdd]; refine ⟨by simp, ?_⟩; exact M_back h hin1
   ·refine V_go 1 ?_; dsimp only [e87, e87_L0, go_sem, Nat.reduceBEq, Nat.reduceAdd]; refine ⟨by simp, ?_⟩; exact M_to J1 (s := ()) (M_out h hout1)
def f_slices_Index_int_j1 (_F : Nat)  : Unit → Option Int
| () =>
 some (-1)
theorem le_slices_Index_int_j1 {F : Nat} : ∀ s, ole (f_slices_Index_int_j1 F s) (m_slices_Index_int_j1 s) := by
  rintro ⟨⟩
  unfold f_slices_Index_int_j1 m_slices_Index_int_j1
  try dsimp only
  with_reducible repeat' first | exact ole_refl _ | assumption | intro _ | refine ole_ifb ?_ ?_ | refine ole_bind ?_ ?_ | refine ole_map ?_ | refine ole_loop ?_
def f_slices_Index_int_l1 (F : Nat) (x1 : (List Int)) (x2 : Int) : Int → Option (Int ⊕ Int)
| x5 =>
 ifb (decide (x5 < (ln intRow x1))) (
 (at_ x1 x5).bind fun x6 =>
 ifb (decide (x2 = x6)) (
 Option.map Sum.inr (some x5)) (
 some (.inl (wr (x5 + 1))))) (
 Option.map Sum.inr (f_slices_Index_int_j1 F ()))
theorem le_slices_Index_int_l1 {F : Nat} {x1 : (List Int)} {x2 : Int} : ∀ s, ole (f_slices_Index_int_l1 F x1 x2 s) (m_slices_Index_int_l1 x1 x2 s) := by
  intro x5
  unfold f_slices_Index_int_l1 m_slices_Index_int_l1
  try dsimp only
  with_reducible repeat' first | exact ole_refl _ | assumption | intro _ | refine ole_ifb ?_ ?_ | refine ole_bind ?_ ?_ | refine ole_map ?_ | refine ole_loop ?_ | apply le_slices_Index_int_j1
def f_slices_Index_int (F : Nat) (x1 : (List Int)) (x2 : Int) : Option Int :=
 loopF F (f_slices_Index_int_l1 F x1 x2) 0
theorem le_slices_Index_int {F : Nat} {x1 : (List Int)} {x2 : Int} : ole (f_slices_Index_int F x1 x2) (m_slices_Index_int x1 x2) := by
  unfold f_slices_Index_int m_slices_Index_int
  with_reducible repeat' first | exact ole_refl _ | assumption | intro _ | refine ole_ifb ?_ ?_ | refine ole_bind ?_ ?_ | refine ole_map ?_ | refine ole_loop ?_ | apply le_slices_Index_int_j1 | apply le_slices_Index_int_l1
end NX
end Go.Proofs.Ytadebhbiglmodaa
/-
  The function slices.Contains[[]int,int]: its code compiled, a model, and that the code answers as the model. Written by a program of ours (lb.py). No statement of the seat is proved here.
-/
namespace Go.Proofs.Ytadebhbiglmodaa
namespace NX
open Go
set_option maxRecDepth 100000
set_option maxHeartbeats 4000000
def e64 : EC := .seq (.reg [⟨(some 4), none, .mv (.c .ff)⟩]) (.seq (.reg [⟨(some 5), none, .mv (.t 0)⟩, ⟨(some 6), none, .mv (.t 1)⟩, ⟨(some 7), none, .call 87 [(.t 5), (.t 6)]⟩, ⟨(some 8), none, .bin .geq (.t 7) (.c (.iv 0))⟩, ⟨(some 4), none, .mv (.t 8)⟩]) (.ret))
theorem ok64 : FnOK Try.prog 64 Try.f64 e64 [.t 4] 2 7 := ⟨by kernel_rfl, ⟨_, rfl, by kernel_rfl⟩, by kernel_rfl, by kernel_rfl⟩
/- slices.Contains[[]int,int] -/
noncomputable def m_slices_Contains_int (x1 : (List Int)) (x2 : Int) : Option Bool :=
 (m_slices_Index_int x1 x2).bind fun x3 =>
 some (decide (0 ≤ x3))
theorem k_slices_Contains_int (x1 : (List Int)) (x2 : Int) (r : Bool) (h : m_slices_Contains_int x1 x2 = some r) : FunP Try.prog 64 [.sl 1 (List.map intRow x1), .iv x2] (.bv r) := by
  refine FunP_intro ok64 rfl rfl fun w0 H0 => ?_
  rw [m_slices_Contains_int] at h
  refine V_go 8 ?_; dsimp only [e64, go_sem, Nat.reduceBEq, Nat.reduceAdd]; refine ⟨by simp, ?_⟩; obtain ⟨x3, ex3, h⟩ := Option.bind_eq_some_iff.1 h; refine V_call trivial (k_slices_Index_int x1 x2 _ ex3) (h := ?_); refine V_go 3 ?_; dsimp only [e64, go_sem, Nat.reduceBEq, Nat.reduceAdd]; refine ⟨by simp, ?_⟩; exact M_done (res := fun (r : Bool) => .bv r) ok64 h
def f_slices_Contains_int (F : Nat) (x1 : (List Int)) (x2 : Int) : Option Bool :=
 (f_slices_Index_int F x1 x2).bind fun x3 =>
 some (decide (0 ≤ x3))
theorem le_slices_Contains_int {F : Nat} {x1 : (List Int)} {x2 : Int} : ole (f_slices_Contains_int F x1 x2) (m_slices_Contains_int x1 x2) := by
  unfold f_slices_Contains_int m_slices_Contains_int
  with_reducible repeat' first | exact ole_refl _ | assumption | intro _ | refine ole_ifb ?_ ?_ | refine ole_bind ?_ ?_ | refine ole_map ?_ | refine ole_loop ?_ | apply le_slices_Index_int
end NX
end Go.Proofs.Ytadebhbiglmodaa
/-
  The function narthex/colour.Round$1: its code compiled, a model, and that the code answers as the model. Written by a program of ours (lb.py). No statement of the seat is proved here.
-/
namespace Go.Proofs.Ytadebhbiglmodaa
namespace NX
open Go
set_option maxRecDepth 100000
set_option maxHeartbeats 4000000
def e88 : EC := .seq (.reg [⟨(some 2), none, .mv (.c .ff)⟩]) (.seq (.reg [⟨(some 3), none, .mv (.t 0)⟩, ⟨(some 4), none, .bin .lss (.t 3) (.c (.iv 0))⟩, ⟨(some 2), none, .mv (.t 4)⟩]) (.ret))
theorem ok88 : FnOK Try.prog 88 Try.f88 e88 [.t 2] 1 4 := ⟨by kernel_rfl, ⟨_, rfl, by kernel_rfl⟩, by kernel_rfl, by kernel_rfl⟩
/- narthex/colour.Round$1 -/
noncomputable def m_colour_Round_1 (x1 : Int) : Option Bool :=
 some (decide (x1 < 0))
theorem k_colour_Round_1 (x1 : Int) (r : Bool) (h : m_colour_Round_1 x1 = some r) : FunP Try.prog 88 [.iv x1] (.bv r) := by
  refine FunP_intro ok88 rfl rfl fun w0 H0 => ?_
  rw [m_colour_Round_1] at h
  refine V_go 10 ?_; dsimp only [e88, go_sem, Nat.reduceBEq, Nat.reduceAdd]; refine ⟨by simp, ?_⟩; exact M_done (res := fun (r : Bool) => .bv r) ok88 h
def f_colour_Round_1 (_F : Nat) (x1 : Int) : Option Bool :=
 some (decide (x1 < 0))
theorem le_colour_Round_1 {F : Nat} {x1 : Int} : ole (f_colour_Round_1 F x1) (m_colour_Round_1 x1) := by
  unfold f_colour_Round_1 m_colour_Round_1
  with_reducible repeat' first | exact ole_refl _ | assumption | intro _ | refine ole_ifb ?_ ?_ | refine ole_bind ?_ ?_ | refine ole_map ?_ | refine ole_loop ?_
end NX
end Go.Proofs.Ytadebhbiglmodaa
/-
  The function narthex/colour.Round$2: its code compiled, a model, and that the code answers as the model. Written by a program of ours (lb.py). No statement of the seat is proved here.
-/
namespace Go.Proofs.Ytadebhbiglmodaa
namespace NX
open Go
set_option maxRecDepth 100000
set_option maxHeartbeats 4000000
def e90 : EC := .seq (.reg [⟨(some 4), none, .mv (.c .ff)⟩]) (.seq (.reg [⟨(some 5), none, .load (.t 1)⟩, ⟨(some 6), none, .mv (.t 0)⟩, ⟨(some 7), none, .idx 1 (.t 5) (.t 6)⟩, ⟨(some 8), none, .load (.t 7)⟩, ⟨(some 9), none, .bin .eql (.t 8) (.c (.iv 0))⟩, ⟨(some 10), none, .mv (.t 9)⟩, ⟨(some 11), (some (10, true)), .mv (.t 0)⟩, ⟨(some 12), (some (10, true)), .load (.t 2)⟩, ⟨(some 13), (some (10, true)), .bin .gtr (.t 11) (.t 12)⟩, ⟨(some 14), none, .pick (.t 10) (.t 13) (.c .ff)⟩, ⟨(some 4), none, .mv (.t 14)⟩]) (.ret))
theorem ok90 : FnOK Try.prog 90 Try.f90 e90 [.t 4] 3 12 := ⟨by kernel_rfl, ⟨_, rfl, by kernel_rfl⟩, by kernel_rfl, by kernel_rfl⟩
/- narthex/colour.Round$2 -/
noncomputable def m_colour_Round_2_j1  : Bool → Option Bool
| x5 =>
 some x5
noncomputable def m_colour_Round_2 (x1 : Int) (x2 : (List Int)) (x3 : Int) : Option Bool :=
 (at_ x2 x1).bind fun x4 =>
 ifb (decide (x4 = 0)) (
 m_colour_Round_2_j1 (decide (x3 < x1))) (
 m_colour_Round_2_j1 false)
theorem k_colour_Round_2 (x1 : Int) (x2 : (List Int)) (x3 : Int) (r : Bool) (h : m_colour_Round_2 x1 x2 x3 = some r) : FunP Try.prog 90 [.iv x1, .elt ((slRow 1 intRow) x2) 0, .elt (intRow x3) 0] (.bv r) := by
  refine FunP_intro ok90 rfl rfl fun w0 H0 => ?_
  rw [m_colour_Round_2] at h
  refine V_go 8 ?_; dsimp only [e90, go_sem, Nat.reduceBEq, Nat.reduceAdd]; refine ⟨by simp, ?_⟩; obtain ⟨x4, ex4, h⟩ := Option.bind_eq_some_iff.1 h; refine V_idxM intRow ex4 trivial rfl rfl rfl ?_; refine V_go 3 ?_; dsimp only [e90, go_sem, Nat.reduceBEq, Nat.reduceAdd]; refine ⟨by simp, ?_⟩; refine V_join (fun (x5 : Bool) => (⟨(an 4 (.bv x5 :: an 10 [])), [], []⟩ : St)) m_colour_Round_2_j1 r ?_ fun J1 => ?_
  ·intro x5 h; rw [m_colour_Round_2_j1] at h; (try dsimp only); exact M_done (res := fun (r : Bool) => .bv r) ok90 h
  ·refine M_case 10 h rfl (fun _ h => ?_) fun _ h => ?_
   ·dsimp only [go_sem, Nat.reduceBEq, Nat.reduceAdd]; refine V_go 6 ?_; dsimp only [e90, go_sem, Nat.reduceBEq, Nat.reduceAdd]; refine ⟨by simp, ?_⟩; exact M_to J1 (s := decide (x3 < x1)) h
   ·dsimp only [go_sem, Nat.reduceBEq, Nat.reduceAdd]; refine V_go 6 ?_; dsimp only [e90, go_sem, Nat.reduceBEq, Nat.reduceAdd]; refine ⟨by simp, ?_⟩; exact M_to J1 (s := false) h
def f_colour_Round_2_j1 (_F : Nat)  : Bool → Option Bool
| x5 =>
 some x5
theorem le_colour_Round_2_j1 {F : Nat} : ∀ s, ole (f_colour_Round_2_j1 F s) (m_colour_Round_2_j1 s) := by
  intro x5
  unfold f_colour_Round_2_j1 m_colour_Round_2_j1
  try dsimp only
  with_reducible repeat' first | exact ole_refl _ | assumption | intro _ | refine ole_ifb ?_ ?_ | refine ole_bind ?_ ?_ | refine ole_map ?_ | refine ole_loop ?_
def f_colour_Round_2 (F : Nat) (x1 : Int) (x2 : (List Int)) (x3 : Int) : Option Bool :=
 (at_ x2 x1).bind fun x4 =>
 ifb (decide (x4 = 0)) (
 f_colour_Round_2_j1 F (decide (x3 < x1))) (
 f_colour_Round_2_j1 F false)
theorem le_colour_Round_2 {F : Nat} {x1 : Int} {x2 : (List Int)} {x3 : Int} : ole (f_colour_Round_2 F x1 x2 x3) (m_colour_Round_2 x1 x2 x3) := by
  unfold f_colour_Round_2 m_colour_Round_2
  with_reducible repeat' first | exact ole_refl _ | assumption | intro _ | refine ole_ifb ?_ ?_ | refine ole_bind ?_ ?_ | refine ole_map ?_ | refine ole_loop ?_ | apply le_colour_Round_2_j1
end NX
end Go.Proofs.Ytadebhbiglmodaa
/-
  The function narthex/colour.Round$3: its code compiled, a model, and that the code answers as the model. Written by a program of ours (lb.py). No statement of the seat is proved here.
-/
namespace Go.Proofs.Ytadebhbiglmodaa
namespace NX
open Go
set_option maxRecDepth 100000
set_option maxHeartbeats 4000000
def e91 : EC := .seq (.reg [⟨(some 5), none, .mv (.c .ff)⟩]) (.seq (.drw [⟨(some 6), none, .load (.t 1)⟩, ⟨(some 7), none, .mv (.t 0)⟩, ⟨(some 8), none, .idx 1 (.t 6) (.t 7)⟩, ⟨(some 9), none, .load (.t 8)⟩, ⟨(some 10), none, .load (.t 2)⟩, ⟨(some 11), none, .load (.t 3)⟩, ⟨(some 12), none, .idx 1 (.t 10) (.t 11)⟩, ⟨(some 13), none, .load (.t 12)⟩, ⟨(some 14), none, .bin .eql (.t 9) (.t 13)⟩, ⟨(some 5), none, .mv (.t 14)⟩] [[], [], [0, 1], [2], [], [], [4, 5], [6], [3, 7], [8, 0, 1, 2, 3, 4, 5, 6, 7, 8]] [[2], [2], [0, 1, 3], [2, 8], [6], [6], [4, 5, 7], [6, 8], [3, 7, 9], [8]]) (.ret))
theorem ok91 : FnOK Try.prog 91 Try.f91 e91 [.t 5] 4 11 := ⟨by kernel_rfl, ⟨_, rfl, by kernel_rfl⟩, by kernel_rfl, by kernel_rfl⟩
/- narthex/colour.Round$3 -/
noncomputable def m_colour_Round_3 (x1 : Int) (x2 : (List Int)) (x3 : (List Int)) (x4 : Int) : Option Bool :=
 (at_ x2 x1).bind fun x5 =>
 (at_ x3 x4).bind fun x6 =>
 some (decide (x5 = x6))
theorem k_colour_Round_3 (x1 : Int) (x2 : (List Int)) (x3 : (List Int)) (x4 : Int) (r : Bool) (h : m_colour_Round_3 x1 x2 x3 x4 = some r) : FunP Try.prog 91 [.iv x1, .elt ((slRow 1 intRow) x2) 0, .elt ((slRow 1 intRow) x3) 0, .elt (intRow x4) 0] (.bv r) := by
  refine FunP_intro ok91 rfl rfl fun w0 H0 => ?_
  rw [m_colour_Round_3] at h
  refine V_go 5 ?_; dsimp only [e91, go_sem, Nat.reduceBEq, Nat.reduceAdd]; refine ⟨by simp, ?_⟩; refine V_drw (by kernel_rfl) fun all hall hs hnap haf => ?_; dsimp only [go_sem, Nat.reduceBEq, Nat.reduceAdd]; refine G_goN hall hs haf hnap 4 6 ?_; dsimp only [go_sem, Nat.reduceBEq, Nat.reduceAdd]; refine ⟨by simp, ?_⟩; obtain ⟨x5, ex5, h⟩ := Option.bind_eq_some_iff.1 h; refine G_idxM hall hs haf hnap 2 intRow ex5 rfl rfl trivial rfl rfl rfl rfl ?_; refine G_goN hall hs haf hnap 1 4 ?_; dsimp only [go_sem, Nat.reduceBEq, Nat.reduceAdd]; refine ⟨by simp, ?_⟩
  obtain ⟨x6, ex6, h⟩ := Option.bind_eq_some_iff.1 h; refine G_idxM hall hs haf hnap 6 intRow ex6 rfl rfl trivial rfl rfl rfl rfl ?_; refine G_goN hall hs haf hnap 3 0 ?_; dsimp only [go_sem, Nat.reduceBEq, Nat.reduceAdd]; refine ⟨by simp, ?_⟩; refine G_done rfl ?_ _; exact M_done (res := fun (r : Bool) => .bv r) ok91 h
def f_colour_Round_3 (_F : Nat) (x1 : Int) (x2 : (List Int)) (x3 : (List Int)) (x4 : Int) : Option Bool :=
 (at_ x2 x1).bind fun x5 =>
 (at_ x3 x4).bind fun x6 =>
 some (decide (x5 = x6))
theorem le_colour_Round_3 {F : Nat} {x1 : Int} {x2 : (List Int)} {x3 : (List Int)} {x4 : Int} : ole (f_colour_Round_3 F x1 x2 x3 x4) (m_colour_Round_3 x1 x2 x3 x4) := by
  unfold f_colour_Round_3 m_colour_Round_3
  with_reducible repeat' first | exact ole_refl _ | assumption | intro _ | refine ole_ifb ?_ ?_ | refine ole_bind ?_ ?_ | refine ole_map ?_ | refine ole_loop ?_
end NX
end Go.Proofs.Ytadebhbiglmodaa
/-
  The function narthex/colour.Round: its code compiled, a model, and that the code answers as the model. Written by a program of ours (lb.py). No statement of the seat is proved here.
-/
namespace Go.Proofs.Ytadebhbiglmodaa
namespace NX
open Go
set_option maxRecDepth 100000
set_option maxHeartbeats 4000000
def e65_L1 : EC := .seq (.seq (.reg [⟨(some 47), none, .mv (.t 9)⟩, ⟨(some 48), none, .mkf 91 [(.t 3), (.t 7), (.t 8)]⟩, ⟨(some 49), none, .call 82 [(.t 47), (.t 48)]⟩]) (.ite (.t 49) (.skip) (.exit 2))) (.blk 3 (.reg [⟨(some 50), none, .load (.t 7)⟩, ⟨(some 51), none, .load (.t 8)⟩, ⟨(some 52), none, .idx 1 (.t 50) (.t 51)⟩, ⟨(some 53), none, .load (.t 52)⟩, ⟨(some 54), none, .bin .add (.t 53) (.c (.iv 1))⟩, ⟨(some 55), none, .idx 1 (.t 50) (.t 51)⟩, ⟨none, none, .store 1 (.t 55) (.t 54)⟩]))
def e65_L0 : EC := .seq (.reg [⟨(some 29), none, .bin .lss (.t 28) (.t 27)⟩]) (.seq (.ite (.t 29) (.skip) (.exit 0)) (.seq (.blk 1 (.seq (.reg [⟨(some 30), none, .mv (.t 28)⟩, ⟨(some 8), none, .alloc 3 [.iv 0]⟩, ⟨none, none, .store 1 (.t 8) (.t 30)⟩]) (.seq (.reg [⟨(some 31), none, .loadA 2 (.t 2)⟩, ⟨(some 32), none, .load (.t 8)⟩, ⟨(some 33), none, .call 51 [(.t 31), (.t 32)]⟩, ⟨(some 9), none, .mv (.t 33)⟩]) (.seq (.seq (.reg [⟨(some 34), none, .load (.t 3)⟩, ⟨(some 35), none, .load (.t 8)⟩, ⟨(some 36), none, .idx 1 (.t 34) (.t 35)⟩, ⟨(some 37), none, .load (.t 36)⟩, ⟨(some 38), none, .bin .neq (.t 37) (.c (.iv 0))⟩, ⟨(some 39), none, .mv (.t 38)⟩, ⟨(some 40), (some (39, false)), .mv (.t 9)⟩, ⟨(some 41), (some (39, false)), .mkf 90 [(.t 3), (.t 8)]⟩, ⟨(some 42), (some (39, false)), .call 82 [(.t 40), (.t 41)]⟩, ⟨(some 43), none, .pick (.t 39) (.c .tt) (.t 42)⟩]) (.ite (.t 43) (.exit 1) (.skip))) (.seq (.reg [⟨(some 44), none, .load (.t 7)⟩, ⟨(some 45), none, .load (.t 8)⟩, ⟨(some 46), none, .idx 1 (.t 44) (.t 45)⟩, ⟨none, none, .store 1 (.t 46) (.c (.iv 1))⟩]) (.blk 2 (.loop e65_L1))))))) (.reg [⟨(some 56), none, .bin .add (.t 28) (.c (.iv 1))⟩, ⟨(some 28), none, .mv (.t 56)⟩])))
def e65 : EC := .seq (.reg [⟨(some 2), none, .box 24 2 (.t 0)⟩, ⟨(some 3), none, .box 25 1 (.t 1)⟩, ⟨(some 4), none, .mv (.c .nl)⟩, ⟨(some 5), none, .mv (.c (.iv 0))⟩]) (.seq (.seq (.reg [⟨(some 10), none, .loadA 2 (.t 2)⟩, ⟨(some 11), none, .call 49 [(.t 10)]⟩, ⟨(some 6), none, .mv (.t 11)⟩]) (.seq (.reg [⟨(some 12), none, .mv (.t 6)⟩, ⟨(some 13), none, .bin .neq (.t 12) (.c (.iv 0))⟩]) (.ite (.t 13) (.seq (.reg [⟨(some 14), none, .mv (.t 6)⟩, ⟨(some 4), none, .mv (.c .nl)⟩, ⟨(some 5), none, .mv (.t 14)⟩]) (.ret)) (.skip)))) (.seq (.seq (.reg [⟨(some 15), none, .load (.t 3)⟩, ⟨(some 16), none, .len (.t 15)⟩, ⟨(some 17), none, .fld 0 (.t 2)⟩, ⟨(some 18), none, .load (.t 17)⟩, ⟨(some 19), none, .bin .neq (.t 16) (.t 18)⟩, ⟨(some 20), none, .mv (.t 19)⟩, ⟨(some 21), (some (20, false)), .load (.t 3)⟩, ⟨(some 22), (some (20, false)), .call 82 [(.t 21), (.c (.clo 88 []))]⟩, ⟨(some 23), none, .pick (.t 20) (.c .tt) (.t 22)⟩]) (.ite (.t 23) (.seq (.reg [⟨(some 4), none, .mv (.c .nl)⟩, ⟨(some 5), none, .mv (.c (.iv 110))⟩]) (.ret)) (.skip))) (.seq (.reg [⟨(some 24), none, .load (.t 3)⟩, ⟨(some 25), none, .call 89 [(.t 24)]⟩, ⟨(some 7), none, .alloc 25 [.nl]⟩, ⟨none, none, .store 1 (.t 7) (.t 25)⟩]) (.seq (.seq (.reg [⟨(some 26), none, .fld 0 (.t 2)⟩, ⟨(some 27), none, .load (.t 26)⟩, ⟨(some 28), none, .mv (.c (.iv 0))⟩]) (.blk 0 (.loop e65_L0))) (.seq (.reg [⟨(some 57), none, .load (.t 7)⟩, ⟨(some 4), none, .mv (.t 57)⟩, ⟨(some 5), none, .mv (.c (.iv 0))⟩]) (.ret))))))
theorem ok65 : FnOK Try.prog 65 Try.f65 e65 [.t 4, .t 5] 2 56 := ⟨by kernel_rfl, ⟨_, rfl, by kernel_rfl⟩, by kernel_rfl, by kernel_rfl⟩
/- narthex/colour.Round -/
noncomputable def m_colour_Round_j2  : (List Int) → Option ((List Int) × Int)
| x54 =>
 some (x54, 0)
noncomputable def m_colour_Round_j3 (x26 : Int) : (List Int) → Option ((Int × (List Int)) ⊕ ((List Int) × Int))
| x46 =>
 some (.inl (wr (x26 + 1), x46))
noncomputable def m_colour_Round_l2 (x2 : (List Int)) (x26 : Int) (x28 : (List Int)) : (List Int) → Option ((List Int) ⊕ ((Int × (List Int)) ⊕ ((List Int) × Int)))
| x35 =>
 (m_slices_ContainsFunc_int x28 ((fun z => m_colour_Round_3 z x2 x35 x26))).bind fun x36 =>
 ifb x36 (
 (at_ x35 x26).bind fun x37 =>
 some (.inl (x35.set (x26).toNat (wr (x37 + 1))))) (
 Option.map Sum.inr ((m_colour_Round_j3 x26) x35))
noncomputable def m_colour_Round_j4 (x2 : (List Int)) (x26 : Int) (x27 : (List Int)) (x28 : (List Int)) : Bool → Option ((Int × (List Int)) ⊕ ((List Int) × Int))
| x31 =>
 ifb x31 (
 (m_colour_Round_j3 x26) x27) (
 (at_ x27 x26).bind fun _ =>
 loop (m_colour_Round_l2 x2 x26 x28) (x27.set (x26).toNat 1))
noncomputable def m_colour_Round_l1 (x1 : Graph) (x2 : (List Int)) : (Int × (List Int)) → Option ((Int × (List Int)) ⊕ ((List Int) × Int))
| (x26, x27) =>
 ifb (decide (x26 < x1.N)) (
 (m_graph_Near x1 x26).bind fun x28 =>
 (at_ x2 x26).bind fun x29 =>
 ifb (!decide (x29 = 0)) (
 (m_colour_Round_j4 x2 x26 x27 x28) true) (
 (m_slices_ContainsFunc_int x28 ((fun z => m_colour_Round_2 z x2 x26))).bind fun x30 =>
 (m_colour_Round_j4 x2 x26 x27 x28) x30)) (
 Option.map Sum.inr (m_colour_Round_j2 x27))
noncomputable def m_colour_Round_j1 (x1 : Graph) (x2 : (List Int)) : Bool → Option ((List Int) × Int)
| x5 =>
 ifb x5 (
 some (([] : (List Int)), 110)) (
 (m_slices_Clone_int x2).bind fun x6 =>
 loop (m_colour_Round_l1 x1 x2) (0, x6))
noncomputable def m_colour_Round (x1 : Graph) (x2 : (List Int)) : Option ((List Int) × Int) :=
 (m_graph_Check x1).bind fun x3 =>
 ifb (!decide (x3 = 0)) (
 some (([] : (List Int)), x3)) (
 ifb (!decide ((ln intRow x2) = x1.N)) (
 (m_colour_Round_j1 x1 x2) true) (
 (m_slices_ContainsFunc_int x2 ((fun z => m_colour_Round_1 z))).bind fun x4 =>
 (m_colour_Round_j1 x1 x2) x4))
theorem k_colour_Round (x1 : Graph) (x2 : (List Int)) (r : ((List Int) × Int)) (h : m_colour_Round x1 x2 = some r) : FunP Try.prog 65 [.agg (Graph.row x1), .sl 1 (List.map intRow x2)] (.tup [.sl 1 (List.map intRow r.1), .iv r.2]) := by
  refine FunP_intro ok65 rfl rfl fun w0 H0 => ?_
  rw [m_colour_Round] at h
  refine V_go 11 ?_; dsimp only [e65, e65_L0, e65_L1, go_sem, Nat.reduceBEq, Nat.reduceAdd]; refine ⟨by simp, ?_⟩; obtain ⟨x3, ex3, h⟩ := Option.bind_eq_some_iff.1 h; refine V_call trivial (k_graph_Check x1 _ ex3) (h := ?_); refine V_go 7 ?_; dsimp only [e65, e65_L0, e65_L1, go_sem, Nat.reduceBEq, Nat.reduceAdd]; refine ⟨by simp, ?_⟩; refine M_ite h rfl (fun _ h => ?_) fun _ h => ?_
  ·refine V_go 6 ?_; dsimp only [e65, e65_L0, e65_L1, go_sem, Nat.reduceBEq, Nat.reduceAdd]; refine ⟨by simp, ?_⟩; exact M_done (res := fun (r : ((List Int) × Int)) => .tup [.sl 1 (List.map intRow r.1), .iv r.2]) ok65 h
  ·refine V_go 10 ?_; dsimp only [e65, e65_L0, e65_L1, go_sem, Nat.reduceBEq, Nat.reduceAdd]; refine ⟨by simp, ?_⟩; refine V_join (fun (x5 : Bool) => (⟨(.any :: .any :: .ptr 0 0 :: .ptr 1 0 :: an 19 (.bv x5 :: an 34 [])), [some ⟨24, [.iv x1.N, .sl 2 (List.map Edge.row x1.Edges)]⟩, some ⟨25, [.sl 1 (List.map intRow x2)]⟩], []⟩ : St)) (m_colour_Round_j1 x1 x2) r ?_ fun J1 => ?_
   ·intro x5 h; rw [m_colour_Round_j1] at h; (try dsimp only); refine M_ite h rfl (fun _ h => ?_) fun _ h => ?_
    ·refine V_go 5 ?_; dsimp only [e65, e65_L0, e65_L1, go_sem, Nat.reduceBEq, Nat.reduceAdd]; refine ⟨by simp, ?_⟩; exact M_done (res := fun (r : ((List Int) × Int)) => .tup [.sl 1 (List.map intRow r.1), .iv r.2]) ok65 h
    ·refine V_go 4 ?_; dsimp only [e65, e65_L0, e65_L1, go_sem, Nat.reduceBEq, Nat.reduceAdd]; refine ⟨by simp, ?_⟩; obtain ⟨x6, ex6, h⟩ := Option.bind_eq_some_iff.1 h; refine V_callO trivial (o_slices_Clone_int x2 _ ex6) (h := ?_); refine V_go 10 ?_; dsimp only [e65, e65_L0, e65_L1, go_sem, Nat.reduceBEq, Nat.reduceAdd]; refine ⟨by simp, ?_⟩; refine V_join (fun (x54 : (List Int)) => (⟨(an 7 (.ptr 2 0 :: an 50 [])), [none, none, some ⟨25, [.osl 0]⟩], [some ⟨3, 1, List.map intRow x54⟩]⟩ : St)) m_colour_Round_j2 r ?_ fun J2 => ?_
     ·intro x54 h; rw [m_colour_Round_j2] at h; (try dsimp only); refine V_go 6 ?_; dsimp only [e65, e65_L0, e65_L1, go_sem, Nat.reduceBEq, Nat.reduceAdd]; refine ⟨by simp, ?_⟩; refine V_seal 0 rfl ?_; dsimp only [go_sem, Nat.reduceBEq, Nat.reduceAdd]; exact M_done (res := fun (r : ((List Int) × Int)) => .tup [.sl 1 (List.map intRow r.1), .iv r.2]) ok65 h
     ·refine V_go 1 ?_; dsimp only [e65, e65_L0, e65_L1, go_sem, Nat.reduceBEq, Nat.reduceAdd]; refine ⟨by simp, ?_⟩; refine M_loop h (fun ((x26, x27) : (Int × (List Int))) => (⟨(.any :: .any :: .ptr 0 0 :: .ptr 1 0 :: an 3 (.ptr 2 0 :: an 19 (.iv x1.N :: .iv x26 :: an 29 []))), [some ⟨24, [.iv x1.N, .sl 2 (List.map Edge.row x1.Edges)]⟩, some ⟨25, [.sl 1 (List.map intRow x2)]⟩, some ⟨25, [.osl 0]⟩], [some ⟨3, 1, List.map intRow x27⟩]⟩ : St)) (by simp [go_sem]) (by rintro ⟨x26, x27⟩; first | rfl | simp [go_sem]) ?_; rintro n1 ⟨x26, x27⟩ y1 h hin1 hout1; rw [m_colour_Round_l1] at h
      (try dsimp only); refine V_go 5 ?_; dsimp only [e65, e65_L0, e65_L1, go_sem, Nat.reduceBEq, Nat.reduceAdd]; refine ⟨by simp, ?_⟩; refine M_ite h rfl (fun _ h => ?_) fun _ h => ?_
      ·refine V_go 2 ?_; dsimp only [e65, e65_L0, e65_L1, go_sem, Nat.reduceBEq, Nat.reduceAdd]; refine ⟨by simp, ?_⟩; refine V_join (fun (x46 : (List Int)) => (⟨(.any :: .any :: .ptr 0 0 :: .ptr 1 0 :: an 3 (.ptr 2 0 :: an 19 (.iv x1.N :: .iv x26 :: an 29 []))), [some ⟨24, [.iv x1.N, .sl 2 (List.map Edge.row x1.Edges)]⟩, some ⟨25, [.sl 1 (List.map intRow x2)]⟩, some ⟨25, [.osl 0]⟩], [some ⟨3, 1, List.map intRow x46⟩]⟩ : St)) (m_colour_Round_j3 x26) y1 ?_ fun J3 => ?_
       ·intro x46 h; rw [m_colour_Round_j3] at h; (try dsimp only); refine V_go 4 ?_; dsimp only [e65, e65_L0, e65_L1, go_sem, Nat.reduceBEq, Nat.reduceAdd]; refine ⟨by simp, ?_⟩; exact M_back h hin1
       ·refine V_go 11 ?_; dsimp only [e65, e65_L0, e65_L1, go_sem, Nat.reduceBEq, Nat.reduceAdd]; refine ⟨by simp, ?_⟩; obtain ⟨x28, ex28, h⟩ := Option.bind_eq_some_iff.1 h; refine V_call trivial (k_graph_Near x1 x26 _ ex28) (h := ?_); refine V_go 7 ?_; dsimp only [e65, e65_L0, e65_L1, go_sem, Nat.reduceBEq, Nat.reduceAdd]; refine ⟨by simp, ?_⟩; obtain ⟨x29, ex29, h⟩ := Option.bind_eq_some_iff.1 h; refine V_idxM intRow ex29 trivial rfl rfl rfl ?_; refine V_go 3 ?_; dsimp only [e65, e65_L0, e65_L1, go_sem, Nat.reduceBEq, Nat.reduceAdd]; refine ⟨by simp, ?_⟩
        refine V_join (fun (x31 : Bool) => (⟨(.any :: .any :: .ptr 0 0 :: .ptr 1 0 :: an 3 (.ptr 2 0 :: .ptr 3 0 :: .sl 1 (List.map intRow x28) :: an 17 (.iv x1.N :: .iv x26 :: an 14 (.bv x31 :: an 14 [])))), [some ⟨24, [.iv x1.N, .sl 2 (List.map Edge.row x1.Edges)]⟩, some ⟨25, [.sl 1 (List.map intRow x2)]⟩, some ⟨25, [.osl 0]⟩, some ⟨3, [.iv x26]⟩], [some ⟨3, 1, List.map intRow x27⟩]⟩ : St)) (m_colour_Round_j4 x2 x26 x27 x28) y1 ?_ fun J4 => ?_
        ·intro x31 h; rw [m_colour_Round_j4] at h; (try dsimp only); refine M_ite h rfl (fun _ h => ?_) fun _ h => ?_
         ·refine V_go 1 ?_; dsimp only [e65, e65_L0, e65_L1, go_sem, Nat.reduceBEq, Nat.reduceAdd]; refine ⟨by simp, ?_⟩; exact M_to J3 (s := x27) h
         ·refine V_go 5 ?_; dsimp only [e65, e65_L0, e65_L1, go_sem, Nat.reduceBEq, Nat.reduceAdd]; refine ⟨by simp, ?_⟩; obtain ⟨x32, ex32, h⟩ := Option.bind_eq_some_iff.1 h; refine V_idxOM intRow ex32 trivial rfl rfl rfl ?_; refine V_storeO [.iv 1] intRow (y' := 1) ex32 trivial rfl rfl rfl (by first | exact leL_refl _ | simp [go_sem]) rfl rfl rfl rfl ?_; refine V_go 2 ?_; dsimp only [e65, e65_L0, e65_L1, go_sem, Nat.reduceBEq, Nat.reduceAdd]; refine ⟨by simp, ?_⟩
          refine M_loop h (fun (x35 : (List Int)) => (⟨(.any :: .any :: .ptr 0 0 :: .ptr 1 0 :: an 3 (.ptr 2 0 :: .ptr 3 0 :: .sl 1 (List.map intRow x28) :: an 17 (.iv x1.N :: .iv x26 :: an 29 []))), [some ⟨24, [.iv x1.N, .sl 2 (List.map Edge.row x1.Edges)]⟩, some ⟨25, [.sl 1 (List.map intRow x2)]⟩, some ⟨25, [.osl 0]⟩, some ⟨3, [.iv x26]⟩], [some ⟨3, 1, List.map intRow x35⟩]⟩ : St)) (by simp [go_sem]) (by intro x35; first | rfl | simp [go_sem]) ?_; rintro n2 x35 y2 h hin2 hout2; rw [m_colour_Round_l2] at h; (try dsimp only); refine V_go 5 ?_
          dsimp only [e65, e65_L0, e65_L1, go_sem, Nat.reduceBEq, Nat.reduceAdd]; refine ⟨by simp, ?_⟩; obtain ⟨x36, ex36, h⟩ := Option.bind_eq_some_iff.1 h; refine V_callL trivial (((((Lend.refl _).slice 0 rfl).block 1 rfl rfl).block 2 rfl rfl).block 3 rfl rfl) (k_slices_ContainsFunc_int x28 _ _ ((fun z => m_colour_Round_3 z x2 x35 x26)) ⟨by kernel_rfl, rfl, fun z r hz => k_colour_Round_3 z x2 x35 x26 r hz⟩ _ ex36) (h := ?_); refine V_go 1 ?_; dsimp only [e65, e65_L0, e65_L1, go_sem, Nat.reduceBEq, Nat.reduceAdd]; refine ⟨by simp, ?_⟩; refine M_ite h rfl (fun _ h => ?_) fun _ h => ?_
          ·refine V_go 5 ?_; dsimp only [e65, e65_L0, e65_L1, go_sem, Nat.reduceBEq, Nat.reduceAdd]; refine ⟨by simp, ?_⟩; obtain ⟨x37, ex37, h⟩ := Option.bind_eq_some_iff.1 h; refine V_idxOM intRow ex37 trivial rfl rfl rfl ?_; refine V_loadO intRow ex37 trivial rfl rfl rfl ?_; refine V_go 1 ?_; dsimp only [e65, e65_L0, e65_L1, go_sem, Nat.reduceBEq, Nat.reduceAdd]; refine ⟨by simp, ?_⟩; refine V_idxOM intRow ex37 trivial rfl rfl rfl ?_
           refine V_storeO [.iv (wr (x37 + 1))] intRow (y' := wr (x37 + 1)) ex37 trivial rfl rfl rfl (by first | exact leL_refl _ | simp [go_sem]) rfl rfl rfl rfl ?_; refine V_go 2 ?_; dsimp only [e65, e65_L0, e65_L1, go_sem, Nat.reduceBEq, Nat.reduceAdd]; refine ⟨by simp, ?_⟩; exact M_back h hin2
          ·refine V_go 2 ?_; dsimp only [e65, e65_L0, e65_L1, go_sem, Nat.reduceBEq, Nat.reduceAdd]; refine ⟨by simp, ?_⟩; exact M_to J3 (s := x35) (M_out h hout2)
        ·refine M_case 39 h rfl (fun _ h => ?_) fun _ h => ?_
         ·dsimp only [go_sem, Nat.reduceBEq, Nat.reduceAdd]; refine V_go 5 ?_; dsimp only [e65, e65_L0, e65_L1, go_sem, Nat.reduceBEq, Nat.reduceAdd]; refine ⟨by simp, ?_⟩; exact M_to J4 (s := true) h
         ·dsimp only [go_sem, Nat.reduceBEq, Nat.reduceAdd]; refine V_go 2 ?_; dsimp only [e65, e65_L0, e65_L1, go_sem, Nat.reduceBEq, Nat.reduceAdd]; refine ⟨by simp, ?_⟩; obtain ⟨x30, ex30, h⟩ := Option.bind_eq_some_iff.1 h; refine V_callL trivial (((Lend.refl _).block 1 rfl rfl).block 3 rfl rfl) (k_slices_ContainsFunc_int x28 _ _ ((fun z => m_colour_Round_2 z x2 x26)) ⟨by kernel_rfl, rfl, fun z r hz => k_colour_Round_2 z x2 x26 r hz⟩ _ ex30) (h := ?_); refine V_go 2 ?_; dsimp only [e65, e65_L0, e65_L1, go_sem, Nat.reduceBEq, Nat.reduceAdd]; refine ⟨by simp, ?_⟩
          exact M_to J4 (s := x30) h
      ·refine V_go 1 ?_; dsimp only [e65, e65_L0, e65_L1, go_sem, Nat.reduceBEq, Nat.reduceAdd]; refine ⟨by simp, ?_⟩; exact M_to J2 (s := x27) (M_out h hout1)
   ·refine M_case 20 h rfl (fun _ h => ?_) fun _ h => ?_
    ·dsimp only [go_sem, Nat.reduceBEq, Nat.reduceAdd]; refine V_go 4 ?_; dsimp only [e65, e65_L0, e65_L1, go_sem, Nat.reduceBEq, Nat.reduceAdd]; refine ⟨by simp, ?_⟩; exact M_to J1 (s := true) h
    ·dsimp only [go_sem, Nat.reduceBEq, Nat.reduceAdd]; refine V_go 1 ?_; dsimp only [e65, e65_L0, e65_L1, go_sem, Nat.reduceBEq, Nat.reduceAdd]; refine ⟨by simp, ?_⟩; obtain ⟨x4, ex4, h⟩ := Option.bind_eq_some_iff.1 h; refine V_call trivial (k_slices_ContainsFunc_int x2 _ _ ((fun z => m_colour_Round_1 z)) ⟨by kernel_rfl, rfl, fun z r hz => k_colour_Round_1 z r hz⟩ _ ex4) (h := ?_); refine V_go 2 ?_; dsimp only [e65, e65_L0, e65_L1, go_sem, Nat.reduceBEq, Nat.reduceAdd]; refine ⟨by simp, ?_⟩; exact M_to J1 (s := x4) h
def f_colour_Round_j2 (_F : Nat)  : (List Int) → Option ((List Int) × Int)
| x54 =>
 some (x54, 0)
theorem le_colour_Round_j2 {F : Nat} : ∀ s, ole (f_colour_Round_j2 F s) (m_colour_Round_j2 s) := by
  intro x54
  unfold f_colour_Round_j2 m_colour_Round_j2
  try dsimp only
  with_reducible repeat' first | exact ole_refl _ | assumption | intro _ | refine ole_ifb ?_ ?_ | refine ole_bind ?_ ?_ | refine ole_map ?_ | refine ole_loop ?_
def f_colour_Round_j3 (_F : Nat) (x26 : Int) : (List Int) → Option ((Int × (List Int)) ⊕ ((List Int) × Int))
| x46 =>
 some (.inl (wr (x26 + 1), x46))
theorem le_colour_Round_j3 {F : Nat} {x26 : Int} : ∀ s, ole (f_colour_Round_j3 F x26 s) (m_colour_Round_j3 x26 s) := by
  intro x46
  unfold f_colour_Round_j3 m_colour_Round_j3
  try dsimp only
  with_reducible repeat' first | exact ole_refl _ | assumption | intro _ | refine ole_ifb ?_ ?_ | refine ole_bind ?_ ?_ | refine ole_map ?_ | refine ole_loop ?_ | apply le_colour_Round_j2
def f_colour_Round_l2 (F : Nat) (x2 : (List Int)) (x26 : Int) (x28 : (List Int)) : (List Int) → Option ((List Int) ⊕ ((Int × (List Int)) ⊕ ((List Int) × Int)))
| x35 =>
 (f_slices_ContainsFunc_int F x28 ((fun z => f_colour_Round_3 F z x2 x35 x26))).bind fun x36 =>
 ifb x36 (
 (at_ x35 x26).bind fun x37 =>
 some (.inl (x35.set (x26).toNat (wr (x37 + 1))))) (
 Option.map Sum.inr ((f_colour_Round_j3 F x26) x35))
theorem le_colour_Round_l2 {F : Nat} {x2 : (List Int)} {x26 : Int} {x28 : (List Int)} : ∀ s, ole (f_colour_Round_l2 F x2 x26 x28 s) (m_colour_Round_l2 x2 x26 x28 s) := by
  intro x35
  unfold f_colour_Round_l2 m_colour_Round_l2
  try dsimp only
  with_reducible repeat' first | exact ole_refl _ | assumption | intro _ | refine ole_ifb ?_ ?_ | refine ole_bind ?_ ?_ | refine ole_map ?_ | refine ole_loop ?_ | apply le_colour_Round_j2 | apply le_colour_Round_j3 | apply le_slices_ContainsFunc_int | apply le_colour_Round_3
def f_colour_Round_j4 (F : Nat) (x2 : (List Int)) (x26 : Int) (x27 : (List Int)) (x28 : (List Int)) : Bool → Option ((Int × (List Int)) ⊕ ((List Int) × Int))
| x31 =>
 ifb x31 (
 (f_colour_Round_j3 F x26) x27) (
 (at_ x27 x26).bind fun _ =>
 loopF F (f_colour_Round_l2 F x2 x26 x28) (x27.set (x26).toNat 1))
theorem le_colour_Round_j4 {F : Nat} {x2 : (List Int)} {x26 : Int} {x27 : (List Int)} {x28 : (List Int)} : ∀ s, ole (f_colour_Round_j4 F x2 x26 x27 x28 s) (m_colour_Round_j4 x2 x26 x27 x28 s) := by
  intro x31
  unfold f_colour_Round_j4 m_colour_Round_j4
  try dsimp only
  with_reducible repeat' first | exact ole_refl _ | assumption | intro _ | refine ole_ifb ?_ ?_ | refine ole_bind ?_ ?_ | refine ole_map ?_ | refine ole_loop ?_ | apply le_colour_Round_j2 | apply le_colour_Round_j3 | apply le_slices_ContainsFunc_int | apply le_colour_Round_3 | apply le_colour_Round_l2
def f_colour_Round_l1 (F : Nat) (x1 : Graph) (x2 : (List Int)) : (Int × (List Int)) → Option ((Int × (List Int)) ⊕ ((List Int) × Int))
| (x26, x27) =>
 ifb (decide (x26 < x1.N)) (
 (f_graph_Near F x1 x26).bind fun x28 =>
 (at_ x2 x26).bind fun x29 =>
 ifb (!decide (x29 = 0)) (
 (f_colour_Round_j4 F x2 x26 x27 x28) true) (
 (f_slices_ContainsFunc_int F x28 ((fun z => f_colour_Round_2 F z x2 x26))).bind fun x30 =>
 (f_colour_Round_j4 F x2 x26 x27 x28) x30)) (
 Option.map Sum.inr (f_colour_Round_j2 F x27))
theorem le_colour_Round_l1 {F : Nat} {x1 : Graph} {x2 : (List Int)} : ∀ s, ole (f_colour_Round_l1 F x1 x2 s) (m_colour_Round_l1 x1 x2 s) := by
  rintro ⟨x26, x27⟩
  unfold f_colour_Round_l1 m_colour_Round_l1
  try dsimp only
  with_reducible repeat' first | exact ole_refl _ | assumption | intro _ | refine ole_ifb ?_ ?_ | refine ole_bind ?_ ?_ | refine ole_map ?_ | refine ole_loop ?_ | apply le_colour_Round_j2 | apply le_colour_Round_j3 | apply le_slices_ContainsFunc_int | apply le_colour_Round_3 | apply le_colour_Round_l2 | apply le_colour_Round_j4 | apply le_graph_Near | apply le_colour_Round_2
def f_colour_Round_j1 (F : Nat) (x1 : Graph) (x2 : (List Int)) : Bool → Option ((List Int) × Int)
| x5 =>
 ifb x5 (
 some (([] : (List Int)), 110)) (
 (f_slices_Clone_int F x2).bind fun x6 =>
 loopF F (f_colour_Round_l1 F x1 x2) (0, x6))
theorem le_colour_Round_j1 {F : Nat} {x1 : Graph} {x2 : (List Int)} : ∀ s, ole (f_colour_Round_j1 F x1 x2 s) (m_colour_Round_j1 x1 x2 s) := by
  intro x5
  unfold f_colour_Round_j1 m_colour_Round_j1
  try dsimp only
  with_reducible repeat' first | exact ole_refl _ | assumption | intro _ | refine ole_ifb ?_ ?_ | refine ole_bind ?_ ?_ | refine ole_map ?_ | refine ole_loop ?_ | apply le_colour_Round_j2 | apply le_colour_Round_j3 | apply le_slices_ContainsFunc_int | apply le_colour_Round_3 | apply le_colour_Round_l2 | apply le_colour_Round_j4 | apply le_graph_Near | apply le_colour_Round_2 | apply le_colour_Round_l1 | apply le_slices_Clone_int
def f_colour_Round (F : Nat) (x1 : Graph) (x2 : (List Int)) : Option ((List Int) × Int) :=
 (f_graph_Check F x1).bind fun x3 =>
 ifb (!decide (x3 = 0)) (
 some (([] : (List Int)), x3)) (
 ifb (!decide ((ln intRow x2) = x1.N)) (
 (f_colour_Round_j1 F x1 x2) true) (
 (f_slices_ContainsFunc_int F x2 ((fun z => f_colour_Round_1 F z))).bind fun x4 =>
 (f_colour_Round_j1 F x1 x2) x4))
theorem le_colour_Round {F : Nat} {x1 : Graph} {x2 : (List Int)} : ole (f_colour_Round F x1 x2) (m_colour_Round x1 x2) := by
  unfold f_colour_Round m_colour_Round
  with_reducible repeat' first | exact ole_refl _ | assumption | intro _ | refine ole_ifb ?_ ?_ | refine ole_bind ?_ ?_ | refine ole_map ?_ | refine ole_loop ?_ | apply le_colour_Round_j2 | apply le_colour_Round_j3 | apply le_slices_ContainsFunc_int | apply le_colour_Round_3 | apply le_colour_Round_l2 | apply le_colour_Round_j4 | apply le_graph_Near | apply le_colour_Round_2 | apply le_colour_Round_l1 | apply le_slices_Clone_int | apply le_colour_Round_j1 | apply le_graph_Check | apply le_colour_Round_1
end NX
end Go.Proofs.Ytadebhbiglmodaa
/-
  The function narthex/colour.Run: its code compiled, a model, and that the code answers as the model. Written by a program of ours (lb.py). No statement of the seat is proved here.
-/
namespace Go.Proofs.Ytadebhbiglmodaa
namespace NX
open Go
set_option maxRecDepth 100000
set_option maxHeartbeats 4000000
def e31_L0 : EC := .seq (.seq (.reg [⟨(some 16), none, .mv (.t 6)⟩, ⟨(some 17), none, .call 64 [(.t 16), (.c (.iv 0))]⟩]) (.ite (.t 17) (.skip) (.exit 0))) (.blk 1 (.seq (.reg [⟨(some 19), none, .loadA 2 (.t 1)⟩, ⟨(some 20), none, .mv (.t 6)⟩, ⟨(some 21), none, .call 65 [(.t 19), (.t 20)]⟩, ⟨(some 18), none, .mv (.t 21)⟩, ⟨(some 22), none, .ext (.t 18) 0⟩, ⟨(some 23), none, .ext (.t 18) 1⟩, ⟨(some 6), none, .mv (.t 22)⟩]) (.reg [⟨(some 24), none, .mv (.t 7)⟩, ⟨(some 25), none, .bin .add (.t 24) (.c (.iv 1))⟩, ⟨(some 7), none, .mv (.t 25)⟩])))
def e31 : EC := .seq (.reg [⟨(some 1), none, .box 24 2 (.t 0)⟩, ⟨(some 2), none, .mv (.c .nl)⟩, ⟨(some 3), none, .mv (.c (.iv 0))⟩, ⟨(some 4), none, .mv (.c (.iv 0))⟩]) (.seq (.seq (.reg [⟨(some 8), none, .loadA 2 (.t 1)⟩, ⟨(some 9), none, .call 49 [(.t 8)]⟩, ⟨(some 5), none, .mv (.t 9)⟩]) (.seq (.reg [⟨(some 10), none, .mv (.t 5)⟩, ⟨(some 11), none, .bin .neq (.t 10) (.c (.iv 0))⟩]) (.ite (.t 11) (.seq (.reg [⟨(some 12), none, .mv (.t 5)⟩, ⟨(some 2), none, .mv (.c .nl)⟩, ⟨(some 3), none, .mv (.c (.iv 0))⟩, ⟨(some 4), none, .mv (.t 12)⟩]) (.ret)) (.skip)))) (.seq (.reg [⟨(some 13), none, .fld 0 (.t 1)⟩, ⟨(some 14), none, .load (.t 13)⟩, ⟨(some 15), none, .mks 3 1 8 [.iv 0] (.t 14) (.t 14)⟩, ⟨(some 6), none, .mv (.t 15)⟩, ⟨(some 7), none, .mv (.c (.iv 0))⟩]) (.seq (.blk 0 (.loop e31_L0)) (.seq (.reg [⟨(some 26), none, .mv (.t 6)⟩, ⟨(some 27), none, .mv (.t 7)⟩, ⟨(some 2), none, .mv (.t 26)⟩, ⟨(some 3), none, .mv (.t 27)⟩, ⟨(some 4), none, .mv (.c (.iv 0))⟩]) (.ret)))))
theorem ok31 : FnOK Try.prog 31 Try.f31 e31 [.t 2, .t 3, .t 4] 1 27 := ⟨by kernel_rfl, ⟨_, rfl, by kernel_rfl⟩, by kernel_rfl, by kernel_rfl⟩
/- narthex/colour.Run -/
noncomputable def m_colour_Run_j1  : ((List Int) × Int) → Option ((List Int) × Int × Int)
| (x17, x18) =>
 some (x17, x18, 0)
noncomputable def m_colour_Run_l1 (x1 : Graph) : ((List Int) × Int) → Option (((List Int) × Int) ⊕ ((List Int) × Int × Int))
| (x8, x9) =>
 (m_slices_Contains_int x8 0).bind fun x10 =>
 ifb x10 (
 (m_colour_Round x1 x8).bind fun x11 =>
 some (.inl (x11.1, wr (x9 + 1)))) (
 Option.map Sum.inr (m_colour_Run_j1 (x8, x9)))
noncomputable def m_colour_Run (x1 : Graph) : Option ((List Int) × Int × Int) :=
 (m_graph_Check x1).bind fun x2 =>
 ifb (!decide (x2 = 0)) (
 some (([] : (List Int)), 0, x2)) (
 (mk_ 8 x1.N 0).bind fun x3 =>
 loop (m_colour_Run_l1 x1) (x3, 0))
theorem k_colour_Run (x1 : Graph) (r : ((List Int) × Int × Int)) (h : m_colour_Run x1 = some r) : FunP Try.prog 31 [.agg (Graph.row x1)] (.tup [.sl 1 (List.map intRow r.1), .iv r.2.1, .iv r.2.2]) := by
  refine FunP_intro ok31 rfl rfl fun w0 H0 => ?_
  rw [m_colour_Run] at h
  refine V_go 11 ?_; dsimp only [e31, e31_L0, go_sem, Nat.reduceBEq, Nat.reduceAdd]; refine ⟨by simp, ?_⟩; obtain ⟨x2, ex2, h⟩ := Option.bind_eq_some_iff.1 h; refine V_call trivial (k_graph_Check x1 _ ex2) (h := ?_); refine V_go 7 ?_; dsimp only [e31, e31_L0, go_sem, Nat.reduceBEq, Nat.reduceAdd]; refine ⟨by simp, ?_⟩; refine M_ite h rfl (fun _ h => ?_) fun _ h => ?_
  ·refine V_go 7 ?_; dsimp only [e31, e31_L0, go_sem, Nat.reduceBEq, Nat.reduceAdd]; refine ⟨by simp, ?_⟩; exact M_done (res := fun (r : ((List Int) × Int × Int)) => .tup [.sl 1 (List.map intRow r.1), .iv r.2.1, .iv r.2.2]) ok31 h
  ·refine V_go 5 ?_; dsimp only [e31, e31_L0, go_sem, Nat.reduceBEq, Nat.reduceAdd]; refine ⟨by simp, ?_⟩; obtain ⟨x3, ex3, h⟩ := Option.bind_eq_some_iff.1 h; refine V_mksM intRow ex3 trivial rfl rfl rfl rfl ?_; refine V_go 4 ?_; dsimp only [e31, e31_L0, go_sem, Nat.reduceBEq, Nat.reduceAdd]; refine ⟨by simp, ?_⟩; refine V_join (fun ((x17, x18) : ((List Int) × Int)) => (⟨(an 6 (.sl 1 (List.map intRow x17) :: .iv x18 :: an 20 [])), [], []⟩ : St)) m_colour_Run_j1 r ?_ fun J1 => ?_
   ·rintro ⟨x17, x18⟩ h; rw [m_colour_Run_j1] at h; (try dsimp only); refine V_go 8 ?_; dsimp only [e31, e31_L0, go_sem, Nat.reduceBEq, Nat.reduceAdd]; refine ⟨by simp, ?_⟩; exact M_done (res := fun (r : ((List Int) × Int × Int)) => .tup [.sl 1 (List.map intRow r.1), .iv r.2.1, .iv r.2.2]) ok31 h
   ·refine V_go 1 ?_; dsimp only [e31, e31_L0, go_sem, Nat.reduceBEq, Nat.reduceAdd]; refine ⟨by simp, ?_⟩; refine V_seal 0 rfl ?_; dsimp only [go_sem, Nat.reduceBEq, Nat.reduceAdd]; refine M_loop h (fun ((x8, x9) : ((List Int) × Int)) => (⟨(.any :: .ptr 0 0 :: an 4 (.sl 1 (List.map intRow x8) :: .iv x9 :: an 20 [])), [some ⟨24, [.iv x1.N, .sl 2 (List.map Edge.row x1.Edges)]⟩], []⟩ : St)) (by simp [go_sem]) (by rintro ⟨x8, x9⟩; first | rfl | simp [go_sem]) ?_; rintro n1 ⟨x8, x9⟩ y1 h hin1 hout1; rw [m_colour_Run_l1] at h; (try dsimp only); refine V_go 4 ?_
    dsimp only [e31, e31_L0, go_sem, Nat.reduceBEq, Nat.reduceAdd]; refine ⟨by simp, ?_⟩; obtain ⟨x10, ex10, h⟩ := Option.bind_eq_some_iff.1 h; refine V_call trivial (k_slices_Contains_int x8 0 _ ex10) (h := ?_); refine V_go 1 ?_; dsimp only [e31, e31_L0, go_sem, Nat.reduceBEq, Nat.reduceAdd]; refine ⟨by simp, ?_⟩; refine M_ite h rfl (fun _ h => ?_) fun _ h => ?_
    ·refine V_go 6 ?_; dsimp only [e31, e31_L0, go_sem, Nat.reduceBEq, Nat.reduceAdd]; refine ⟨by simp, ?_⟩; obtain ⟨x11, ex11, h⟩ := Option.bind_eq_some_iff.1 h; refine V_call trivial (k_colour_Round x1 x8 _ ex11) (h := ?_); refine V_go 11 ?_; dsimp only [e31, e31_L0, go_sem, Nat.reduceBEq, Nat.reduceAdd]; refine ⟨by simp, ?_⟩; exact M_back h hin1
    ·refine V_go 1 ?_; dsimp only [e31, e31_L0, go_sem, Nat.reduceBEq, Nat.reduceAdd]; refine ⟨by simp, ?_⟩; exact M_to J1 (s := (x8, x9)) (M_out h hout1)
def f_colour_Run_j1 (_F : Nat)  : ((List Int) × Int) → Option ((List Int) × Int × Int)
| (x17, x18) =>
 some (x17, x18, 0)
theorem le_colour_Run_j1 {F : Nat} : ∀ s, ole (f_colour_Run_j1 F s) (m_colour_Run_j1 s) := by
  rintro ⟨x17, x18⟩
  unfold f_colour_Run_j1 m_colour_Run_j1
  try dsimp only
  with_reducible repeat' first | exact ole_refl _ | assumption | intro _ | refine ole_ifb ?_ ?_ | refine ole_bind ?_ ?_ | refine ole_map ?_ | refine ole_loop ?_
def f_colour_Run_l1 (F : Nat) (x1 : Graph) : ((List Int) × Int) → Option (((List Int) × Int) ⊕ ((List Int) × Int × Int))
| (x8, x9) =>
 (f_slices_Contains_int F x8 0).bind fun x10 =>
 ifb x10 (
 (f_colour_Round F x1 x8).bind fun x11 =>
 some (.inl (x11.1, wr (x9 + 1)))) (
 Option.map Sum.inr (f_colour_Run_j1 F (x8, x9)))
theorem le_colour_Run_l1 {F : Nat} {x1 : Graph} : ∀ s, ole (f_colour_Run_l1 F x1 s) (m_colour_Run_l1 x1 s) := by
  rintro ⟨x8, x9⟩
  unfold f_colour_Run_l1 m_colour_Run_l1
  try dsimp only
  with_reducible repeat' first | exact ole_refl _ | assumption | intro _ | refine ole_ifb ?_ ?_ | refine ole_bind ?_ ?_ | refine ole_map ?_ | refine ole_loop ?_ | apply le_colour_Run_j1 | apply le_slices_Contains_int | apply le_colour_Round
def f_colour_Run (F : Nat) (x1 : Graph) : Option ((List Int) × Int × Int) :=
 (f_graph_Check F x1).bind fun x2 =>
 ifb (!decide (x2 = 0)) (
 some (([] : (List Int)), 0, x2)) (
 (mk_ 8 x1.N 0).bind fun x3 =>
 loopF F (f_colour_Run_l1 F x1) (x3, 0))
theorem le_colour_Run {F : Nat} {x1 : Graph} : ole (f_colour_Run F x1) (m_colour_Run x1) := by
  unfold f_colour_Run m_colour_Run
  with_reducible repeat' first | exact ole_refl _ | assumption | intro _ | refine ole_ifb ?_ ?_ | refine ole_bind ?_ ?_ | refine ole_map ?_ | refine ole_loop ?_ | apply le_colour_Run_j1 | apply le_slices_Contains_int | apply le_colour_Round | apply le_colour_Run_l1 | apply le_graph_Check
end NX
end Go.Proofs.Ytadebhbiglmodaa
/-
  Plain laws: package colour: rounds, and all of them. No statement of the seat is proved here.
-/
namespace Go.Proofs.Ytadebhbiglmodaa
namespace NX
open Go
/-- The first one from 'k' on. -/
def lsf (p : Nat → Bool) : Nat → Nat → Nat
  | 0, k => k
  | f + 1, k => if p k then k else lsf p f (k + 1)
theorem lsf_spec (p : Nat → Bool) : ∀ (f k : Nat), p (k + f) = true → p (lsf p f k) = true ∧ k ≤ lsf p f k ∧ lsf p f k ≤ k + f
  | 0, k, h => ⟨h, Nat.le_refl _, Nat.le_refl _⟩
  | f + 1, k, h => by
    simp only [lsf]
    split
    · rename_i h1; exact ⟨h1, Nat.le_refl _, by omega⟩
    · obtain ⟨h1, h2, h3⟩ := lsf_spec p f (k + 1) (by rw [show k + 1 + f = k + (f + 1) by omega]; exact h)
      exact ⟨h1, by omega, by omega⟩
def usedB (c : List Int) (near : List Int) (k : Nat) : Bool := near.any fun b => decide (cg c b = (k : Int))
def freshC (c near : List Int) : Nat := lsf (fun k => !usedB c near k) 200 1
def turnB (c near : List Int) (a : Int) : Bool := decide (cg c a = 0) && !near.any fun b => decide (cg c b = 0) && decide (a < b)
def newC (g : Graph) (c : List Int) (a : Nat) : Int := if turnB c (nearL g a) a then (freshC c (nearL g a) : Int) else cg c a
def roundC (g : Graph) (c : List Int) : List Int := (List.range g.N.toNat).map (newC g c)
/-- Colours that go on: of all nodes, none too great. -/
structure ColI (g : Graph) (c : List Int) : Prop where
  len : (c.length : Int) = g.N
  lo : ∀ x ∈ c, 0 ≤ x
  hi : ∀ x ∈ c, x ≤ 100
theorem cg_mem {c : List Int} {a : Int} (h0 : 0 ≤ a) (h : a < c.length) : cg c a ∈ c := by
  obtain ⟨x, h1, h2⟩ := at_lt h0 h
  unfold cg
  rw [h2]
  exact List.mem_iff_getElem?.2 ⟨_, h2⟩
theorem freshC_spec {g : Graph} (hg : okG g = true) {c : List Int} (hc : ColI g c) (a : Int) : usedB c (nearL g a) (freshC c (nearL g a)) = false ∧ 1 ≤ freshC c (nearL g a) ∧ freshC c (nearL g a) ≤ 201 := by
  have h := lsf_spec (fun k => !usedB c (nearL g a) k) 200 1 (by
    simp only [Bool.not_eq_true']
    unfold usedB
    rw [List.any_eq_false]
    intro b hb
    obtain ⟨b1, b2, _⟩ := near_range hg hb
    have := hc.hi _ (cg_mem (c := c) b1 (by rw [hc.len]; exact b2))
    simp; omega)
  have h1 := h.1
  simp only [Bool.not_eq_true'] at h1
  exact ⟨h1, h.2.1, h.2.2⟩
theorem s_ContainsInt (l : List Int) (x : Int) (hl : l.length ≤ 1000000) : m_slices_Contains_int l x = some (decide (x ∈ l)) := by
  have h1 : m_slices_Index_int l x = some (plc (l.findIdx? fun y => decide (x = y))) := by
    unfold m_slices_Index_int
    refine loop_place l _ (fun y => decide (x = y)) (by omega) (fun k y hy => ?_) ?_
    · simp only [m_slices_Index_int_l1, lt_len hy, ifb_true, at_get hy, Option.bind_some, wr_succ' hy (show l.length ≤ 4000000000000000000 by omega)]
      cases decide (x = y) <;> rfl
    · simp only [m_slices_Index_int_l1, nlt_len, ifb_false, m_slices_Index_int_j1, Option.map_some]
  simp only [m_slices_Contains_int, h1, Option.bind_some, plc_nonneg, findIdx_any]
  congr 1
  rw [Bool.eq_iff_iff, List.any_eq_true, decide_eq_true_iff]
  constructor
  · rintro ⟨y, hy, h⟩
    have : x = y := by simpa using h
    exact this ▸ hy
  · intro h; exact ⟨x, h, by simp⟩
/-- The search for a colour, on the way. -/
theorem s_Round2 (g : Graph) (hg : okG g = true) (c : List Int) (hc : ColI g c) (a : Nat) (ha : (a : Int) < g.N) (A B : List Int) (hA : A.length = a) :
    loop (m_colour_Round_l2 c a (nearL g a)) (A ++ 1 :: B) = some (.inl (((a + 1 : Nat) : Int), A ++ (freshC c (nearL g a) : Int) :: B)) := by
  obtain ⟨g1, g2, g3, _, _⟩ := okG_parts hg
  have hnl := nearL_len g a
  have at1 : ∀ y : Int, at_ (A ++ y :: B) (a : Int) = some y := fun y => by rw [← hA]; exact at_mid rfl
  have st1 : ∀ y z : Int, (A ++ y :: B).set ((a : Int)).toNat z = A ++ z :: B := fun y z => by rw [← hA]; exact set_mid _ _ _ _
  have step : ∀ k : Nat, m_slices_ContainsFunc_int (nearL g a) (fun z => m_colour_Round_3 z c (A ++ (k : Int) :: B) a) = some (usedB c (nearL g a) k) := fun k => by
    refine s_ContainsFunc_int (nearL g a) _ (fun b => decide (cg c b = (k : Int))) (by omega) (fun b hb => ?_)
    obtain ⟨b1, b2, _⟩ := near_range hg hb
    simp only [m_colour_Round_3]
    rw [at_cg (c := c) b1 (by rw [hc.len]; exact b2), Option.bind_some, at1, Option.bind_some]
  have key : ∀ f k : Nat, k + f = 201 → 1 ≤ k → usedB c (nearL g a) 201 = false → loop (m_colour_Round_l2 c a (nearL g a)) (A ++ (k : Int) :: B) = some (.inl (((a + 1 : Nat) : Int), A ++ (lsf (fun k => !usedB c (nearL g a) k) f k : Int) :: B)) := by
    intro f
    induction f with
    | zero =>
      intro k hk _ h201
      have : k = 201 := by omega
      subst this
      rw [loop_eq]
      dsimp only [m_colour_Round_l2]
      rw [step, Option.bind_some, h201, ifb_false]
      dsimp only [m_colour_Round_j3]
      rw [wr_succ (by omega)]
      rfl
    | succ f ih =>
      intro k hk h1 h201
      rw [loop_eq]
      dsimp only [m_colour_Round_l2]
      rw [step, Option.bind_some]
      cases hu : usedB c (nearL g a) k with
      | true =>
        rw [ifb_true, at1, Option.bind_some, st1, wr_succ (by omega)]
        dsimp only
        rw [ih (k + 1) (by omega) (by omega) h201]
        simp [lsf, hu]
      | false =>
        rw [ifb_false]
        dsimp only [m_colour_Round_j3]
        rw [wr_succ (by omega)]
        simp [lsf, hu]
  refine key 200 1 rfl (Nat.le_refl _) ?_
  unfold usedB
  rw [List.any_eq_false]
  intro b hb
  obtain ⟨b1, b2, _⟩ := near_range hg hb
  have := hc.hi _ (cg_mem (c := c) b1 (by rw [hc.len]; exact b2))
  simp; omega
theorem drop_cons {c : List Int} {k : Nat} (h : k < c.length) : c.drop k = cg c k :: c.drop (k + 1) := by
  rw [List.drop_eq_getElem_cons h]
  congr 1
  unfold cg
  simp [h]
theorem s_Round (g : Graph) (hg : okG g = true) (c : List Int) (hc : ColI g c) : m_colour_Round g c = some (roundC g c, 0) := by
  obtain ⟨g1, g2, g3, _, _⟩ := okG_parts hg
  have hlen := hc.len
  simp only [m_colour_Round, s_Check, hg, if_true, decide_true, Bool.not_true, ifb_false, Option.bind_some, ln_eq, hlen]
  rw [s_ContainsFunc_int c (fun z => m_colour_Round_1 z) (fun x => decide (x < 0)) (by omega) (fun x _ => rfl), Option.bind_some]
  have e0 : c.any (fun x => decide (x < 0)) = false := by
    rw [List.any_eq_false]; intro x hx; have := hc.lo x hx; simp; omega
  rw [e0]
  simp only [m_colour_Round_j1, ifb_false, m_slices_Clone_int]
  rw [app_ok _ _ (by omega) (by simp; omega), Option.bind_some, List.nil_append]
  refine (loop_nat g.N.toNat (m_colour_Round_l1 g c) (fun k => ((k : Int), (List.range k).map (newC g c) ++ c.drop k)) (roundC g c, 0) (fun k hk => ?_) ?_)
  · have hkl : k < c.length := by omega
    obtain ⟨g1', _⟩ := okG_parts hg
    dsimp only [m_colour_Round_l1]
    rw [decide_eq_true (by omega), ifb_true, s_Near, hg, if_pos rfl, Option.bind_some, at_cg (c := c) (Int.natCast_nonneg k) (by omega), Option.bind_some, drop_cons hkl, map_range_succ]
    have hA : ((List.range k).map (newC g c)).length = k := by simp
    have keep : newC g c k = cg c k → m_colour_Round_j4 c k ((List.range k).map (newC g c) ++ cg c k :: c.drop (k + 1)) (nearL g k) true = some (.inl (((k + 1 : Nat) : Int), ((List.range k).map (newC g c) ++ [newC g c k]) ++ c.drop (k + 1))) := fun e => by
      dsimp only [m_colour_Round_j4, m_colour_Round_j3]
      rw [ifb_true, wr_succ (by omega), e]; simp
    by_cases h0 : cg c k = 0
    · rw [decide_eq_true h0, Bool.not_true, ifb_false]
      have hcf : m_slices_ContainsFunc_int (nearL g k) (fun z => m_colour_Round_2 z c k) = some ((nearL g k).any fun b => decide (cg c b = 0) && decide ((k : Int) < b)) := by
        refine s_ContainsFunc_int (nearL g k) _ (fun b => decide (cg c b = 0) && decide ((k : Int) < b)) (by have := nearL_len g k; omega) (fun b hb => ?_)
        obtain ⟨b1, b2, _⟩ := near_range hg hb
        simp only [m_colour_Round_2, m_colour_Round_2_j1]
        rw [at_cg (c := c) b1 (by omega), Option.bind_some]
        cases decide (cg c b = 0) <;> rfl
      rw [hcf, Option.bind_some]
      cases ht : (nearL g k).any fun b => decide (cg c b = 0) && decide ((k : Int) < b) with
      | true =>
        refine keep ?_
        unfold newC turnB
        rw [ht]; simp
      | false =>
        have e : newC g c k = (freshC c (nearL g k) : Int) := by
          unfold newC turnB
          rw [ht, decide_eq_true h0]; simp
        dsimp only [m_colour_Round_j4]
        have at1 := at_mid (l := (List.range k).map (newC g c) ++ cg c k :: c.drop (k + 1)) rfl
        rw [hA] at at1
        have st1 := set_mid ((List.range k).map (newC g c)) (c.drop (k + 1)) (cg c k) 1
        rw [hA] at st1
        rw [ifb_false, at1, Option.bind_some, st1, s_Round2 g hg c hc k (by omega) _ _ hA, e]
        simp
    · rw [decide_eq_false h0, Bool.not_false, ifb_true]
      refine keep ?_
      unfold newC turnB
      rw [decide_eq_false h0]; simp
  · dsimp only [m_colour_Round_l1]
    rw [decide_eq_false (by omega), ifb_false, List.drop_eq_nil_of_le (by omega), List.append_nil]
    rfl
end NX
end Go.Proofs.Ytadebhbiglmodaa
/-
  The function narthex/table.New: its code compiled, a model, and that the code answers as the model. Written by a program of ours (lb.py). No statement of the seat is proved here.
-/
namespace Go.Proofs.Ytadebhbiglmodaa
namespace NX
open Go
set_option maxRecDepth 100000
set_option maxHeartbeats 4000000
def e68 : EC := .seq (.reg [⟨(some 1), none, .box 24 2 (.t 0)⟩, ⟨(some 2), none, .alloc 43 [.nl, .nl]⟩, ⟨(some 3), none, .mv (.c (.iv 0))⟩]) (.seq (.reg [⟨(some 9), none, .loadA 2 (.t 1)⟩, ⟨(some 10), none, .call 31 [(.t 9)]⟩, ⟨(some 8), none, .mv (.t 10)⟩, ⟨(some 11), none, .ext (.t 8) 0⟩, ⟨(some 12), none, .ext (.t 8) 1⟩, ⟨(some 13), none, .ext (.t 8) 2⟩, ⟨(some 4), none, .mv (.t 11)⟩, ⟨(some 5), none, .mv (.t 12)⟩, ⟨(some 6), none, .mv (.t 13)⟩]) (.seq (.seq (.reg [⟨(some 14), none, .mv (.t 6)⟩, ⟨(some 15), none, .bin .neq (.t 14) (.c (.iv 0))⟩]) (.ite (.t 15) (.seq (.reg [⟨(some 16), none, .build [.nl, .nl] []⟩, ⟨(some 17), none, .mv (.t 6)⟩, ⟨none, none, .store 2 (.t 2) (.t 16)⟩, ⟨(some 3), none, .mv (.t 17)⟩]) (.ret)) (.skip))) (.seq (.reg [⟨(some 19), none, .loadA 2 (.t 1)⟩, ⟨(some 20), none, .mv (.t 4)⟩, ⟨(some 21), none, .call 14 [(.t 19), (.t 20)]⟩, ⟨(some 18), none, .mv (.t 21)⟩, ⟨(some 22), none, .ext (.t 18) 0⟩, ⟨(some 23), none, .ext (.t 18) 1⟩, ⟨(some 7), none, .mv (.t 22)⟩, ⟨(some 6), none, .mv (.t 23)⟩]) (.seq (.reg [⟨(some 24), none, .mv (.t 7)⟩, ⟨(some 25), none, .build [.nl, .nl] [(0, 1, (.t 24))]⟩, ⟨(some 26), none, .mv (.t 6)⟩, ⟨none, none, .store 2 (.t 2) (.t 25)⟩, ⟨(some 3), none, .mv (.t 26)⟩]) (.ret)))))
theorem ok68 : FnOK Try.prog 68 Try.f68 e68 [.c 2 (some 2), .t 3] 1 26 := ⟨by kernel_rfl, ⟨_, rfl, by kernel_rfl⟩, by kernel_rfl, by kernel_rfl⟩
/- narthex/table.New -/
noncomputable def m_table_New (x1 : Graph) : Option (Scene × Int) :=
 (m_colour_Run x1).bind fun x2 =>
 ifb (!decide (x2.2.2 = 0)) (
 some ((Scene.mk (([] : (List Diner))) (([] : (List Mail)))), x2.2.2)) (
 (m_place_Table x1 x2.1).bind fun x3 =>
 some ((Scene.mk x3.1 (([] : (List Mail)))), x3.2))
theorem k_table_New (x1 : Graph) (r : (Scene × Int)) (h : m_table_New x1 = some r) : FunP Try.prog 68 [.agg (Graph.row x1)] (.tup [.agg (Scene.row r.1), .iv r.2]) := by
  refine FunP_intro ok68 rfl rfl fun w0 H0 => ?_
  rw [m_table_New] at h
  refine V_go 9 ?_; dsimp only [e68, go_sem, Nat.reduceBEq, Nat.reduceAdd]; refine ⟨by simp, ?_⟩; obtain ⟨x2, ex2, h⟩ := Option.bind_eq_some_iff.1 h; refine V_call trivial (k_colour_Run x1 _ ex2) (h := ?_); refine V_go 14 ?_; dsimp only [e68, go_sem, Nat.reduceBEq, Nat.reduceAdd]; refine ⟨by simp, ?_⟩; refine M_ite h rfl (fun _ h => ?_) fun _ h => ?_
  ·refine V_go 7 ?_; dsimp only [e68, go_sem, Nat.reduceBEq, Nat.reduceAdd]; refine ⟨by simp, ?_⟩; exact M_done (res := fun (r : (Scene × Int)) => .tup [.agg (Scene.row r.1), .iv r.2]) ok68 h
  ·refine V_go 5 ?_; dsimp only [e68, go_sem, Nat.reduceBEq, Nat.reduceAdd]; refine ⟨by simp, ?_⟩; obtain ⟨x3, ex3, h⟩ := Option.bind_eq_some_iff.1 h; refine V_call trivial (k_place_Table x1 x2.1 _ ex3) (h := ?_); refine V_go 14 ?_; dsimp only [e68, go_sem, Nat.reduceBEq, Nat.reduceAdd]; refine ⟨by simp, ?_⟩; exact M_done (res := fun (r : (Scene × Int)) => .tup [.agg (Scene.row r.1), .iv r.2]) ok68 h
def f_table_New (F : Nat) (x1 : Graph) : Option (Scene × Int) :=
 (f_colour_Run F x1).bind fun x2 =>
 ifb (!decide (x2.2.2 = 0)) (
 some ((Scene.mk (([] : (List Diner))) (([] : (List Mail)))), x2.2.2)) (
 (f_place_Table F x1 x2.1).bind fun x3 =>
 some ((Scene.mk x3.1 (([] : (List Mail)))), x3.2))
theorem le_table_New {F : Nat} {x1 : Graph} : ole (f_table_New F x1) (m_table_New x1) := by
  unfold f_table_New m_table_New
  with_reducible repeat' first | exact ole_refl _ | assumption | intro _ | refine ole_ifb ?_ ?_ | refine ole_bind ?_ ?_ | refine ole_map ?_ | refine ole_loop ?_ | apply le_colour_Run | apply le_place_Table
end NX
end Go.Proofs.Ytadebhbiglmodaa
/-
  Plain laws: package colour: all rounds; package table: the scene of a graph. No statement of the seat is proved here.
-/
namespace Go.Proofs.Ytadebhbiglmodaa
namespace NX
open Go
theorem lsf_le (p : Nat → Bool) : ∀ (f k j : Nat), p j = true → k ≤ j → j ≤ k + f → lsf p f k ≤ j
  | 0, k, j, _, h1, _ => h1
  | f + 1, k, j, h, h1, h2 => by
    simp only [lsf]
    split
    · exact h1
    · rename_i hp
      have : k ≠ j := by rintro rfl; exact hp h
      exact lsf_le p f (k + 1) j h (by omega) (by omega)
theorem countP_lt {α : Type} (p q : α → Bool) : ∀ (l : List α), (∀ x ∈ l, p x = true → q x = true) → (∃ x ∈ l, q x = true ∧ p x = false) → l.countP p < l.countP q
  | [], _, ⟨x, hx, _⟩ => absurd hx (by simp)
  | y :: l, h, ⟨x, hx, h1, h2⟩ => by
    have hle : l.countP p ≤ l.countP q := List.countP_mono_left fun z hz => h z (List.mem_cons_of_mem _ hz)
    rw [List.countP_cons, List.countP_cons]
    rcases List.mem_cons.1 hx with rfl | hx
    · rw [h1, h2]; simp; omega
    · have := countP_lt p q l (fun z hz => h z (List.mem_cons_of_mem _ hz)) ⟨x, hx, h1, h2⟩
      have hy := h y (by simp)
      cases hp : p y with
      | false => simp; omega
      | true => rw [hy hp]; simp; omega
/-- How many have no colour. -/
def zeros (g : Graph) (c : List Int) : Nat := (List.range g.N.toNat).countP fun a : Nat => decide (cg c (a : Int) = 0)
theorem zeros_le (g : Graph) (c : List Int) : zeros g c ≤ g.N.toNat := by
  have := List.countP_le_length (p := fun a : Nat => decide (cg c (a : Int) = 0)) (l := List.range g.N.toNat)
  simpa [zeros] using this
/-- Colours behind so many rounds. -/
structure ColN (g : Graph) (c : List Int) (n : Nat) : Prop where
  len : (c.length : Int) = g.N
  lo : ∀ x ∈ c, 0 ≤ x
  hi : ∀ x ∈ c, x ≤ n
  ne : ∀ a b, b ∈ nearL g a → cg c a ≠ 0 → cg c b ≠ 0 → cg c a ≠ cg c b
theorem ColN.I {g : Graph} {c : List Int} {n : Nat} (h : ColN g c n) (hn : n ≤ 100) : ColI g c := ⟨h.len, h.lo, fun x hx => by have := h.hi x hx; omega⟩
theorem cg_round {g : Graph} {c : List Int} {a : Int} (h0 : 0 ≤ a) (h : a < g.N) : cg (roundC g c) a = newC g c a.toNat := by
  unfold cg roundC
  rw [List.getElem?_map, List.getElem?_range (by omega)]; rfl
theorem near_symm' {g : Graph} (hg : okG g = true) {a b : Int} (h : b ∈ nearL g a) : a ∈ nearL g b := by
  rw [mem_nearL hg] at *; exact h.symm
theorem turnB_iff {c near : List Int} {a : Int} : turnB c near a = true ↔ cg c a = 0 ∧ ∀ b ∈ near, cg c b = 0 → b ≤ a := by
  unfold turnB
  simp only [Bool.and_eq_true, decide_eq_true_eq, Bool.not_eq_true', List.any_eq_false, Bool.and_eq_true, decide_eq_true_eq, not_and]
  constructor
  · rintro ⟨h1, h2⟩; exact ⟨h1, fun b hb h0 => by have := h2 b hb h0; omega⟩
  · rintro ⟨h1, h2⟩; exact ⟨h1, fun b hb h0 => by have := h2 b hb h0; omega⟩
theorem freshC_le {g : Graph} {c : List Int} {n : Nat} (hc : ColN g c n) (hn : n ≤ 100) (a : Int) : freshC c (nearL g a) ≤ n + 1 := by
  refine lsf_le _ _ _ _ ?_ (by omega) (by omega)
  simp only [Bool.not_eq_true']
  unfold usedB
  rw [List.any_eq_false]
  intro b hb
  simp only [decide_eq_true_eq]
  intro he
  by_cases h : 0 ≤ b ∧ b < c.length
  · have := hc.hi _ (cg_mem (c := c) h.1 h.2)
    omega
  · unfold cg at he
    have hb0 : 0 ≤ b.toNat := Nat.zero_le _
    cases hq : c[b.toNat]? with
    | none => rw [hq] at he; simp at he; omega
    | some y =>
      rw [hq] at he
      have := hc.hi y (List.mem_iff_getElem?.2 ⟨_, hq⟩)
      simp at he; omega
theorem newC_cases (g : Graph) (c : List Int) (a : Nat) : (turnB c (nearL g a) a = true ∧ newC g c a = (freshC c (nearL g a) : Int)) ∨ (turnB c (nearL g a) a = false ∧ newC g c a = cg c a) := by
  unfold newC
  cases turnB c (nearL g a) a <;> simp
theorem ColN.round {g : Graph} (hg : okG g = true) {c : List Int} {n : Nat} (hc : ColN g c n) (hn : n ≤ 100) : ColN g (roundC g c) (n + 1) := by
  obtain ⟨g1, g2, _, _, _⟩ := okG_parts hg
  have hI := hc.I hn
  have hmem : ∀ x ∈ roundC g c, 0 ≤ x ∧ x ≤ n + 1 := fun x hx => by
    obtain ⟨a, ha, rfl⟩ := List.mem_map.1 hx
    have ha' := List.mem_range.1 ha
    have := freshC_le hc hn a
    rcases newC_cases g c a with ⟨_, h2⟩ | ⟨_, h2⟩
    · rw [h2]; omega
    · rw [h2]
      have hm := cg_mem (c := c) (a := (a : Int)) (by omega) (by have := hc.len; omega)
      have := hc.lo _ hm
      have := hc.hi _ hm
      omega
  refine ⟨by simp [roundC]; omega, fun x hx => (hmem x hx).1, fun x hx => by have := (hmem x hx).2; omega, fun a b hb ha0 hb0 => ?_⟩
  obtain ⟨b1, b2, b3, a1, a2⟩ := near_range hg hb
  have hab := near_symm' hg hb
  rw [cg_round a1 a2] at ha0 ⊢
  rw [cg_round b1 b2] at hb0 ⊢
  have ea : ((a.toNat : Nat) : Int) = a := Int.toNat_of_nonneg a1
  have eb : ((b.toNat : Nat) : Int) = b := Int.toNat_of_nonneg b1
  have ua := (freshC_spec hg hI a).1
  have ub := (freshC_spec hg hI b).1
  unfold usedB at ua ub
  rw [List.any_eq_false] at ua ub
  have ua' := ua b hb
  have ub' := ub a hab
  simp only [decide_eq_true_eq] at ua' ub'
  rcases newC_cases g c a.toNat with ⟨h1, h2⟩ | ⟨h1, h2⟩ <;> rcases newC_cases g c b.toNat with ⟨k1, k2⟩ | ⟨k1, k2⟩ <;> rw [ea] at h1 h2 <;> rw [eb] at k1 k2
  · rw [turnB_iff] at h1 k1
    have := h1.2 b hb k1.1
    have := k1.2 a hab h1.1
    exact absurd (by omega) b3
  · rw [h2, k2]; exact fun e => ua' e.symm
  · rw [h2, k2]; exact ub'
  · rw [h2, k2]
    rw [h2] at ha0
    rw [k2] at hb0
    exact hc.ne a b hb ha0 hb0
theorem max_zero (p : Nat → Bool) : ∀ n : Nat, (∃ a, a < n ∧ p a = true) → ∃ a, a < n ∧ p a = true ∧ ∀ b, b < n → p b = true → b ≤ a
  | 0, ⟨a, h, _⟩ => absurd h (by omega)
  | n + 1, ⟨a, h, hp⟩ => by
    cases hn : p n with
    | true => exact ⟨n, by omega, hn, fun b hb _ => by omega⟩
    | false =>
      have : a ≠ n := by rintro rfl; rw [hn] at hp; simp at hp
      obtain ⟨a', h1, h2, h3⟩ := max_zero p n ⟨a, by omega, hp⟩
      refine ⟨a', by omega, h2, fun b hb hpb => ?_⟩
      have : b ≠ n := by rintro rfl; rw [hn] at hpb; simp at hpb
      exact h3 b (by omega) hpb
theorem zeros_round {g : Graph} (hg : okG g = true) {c : List Int} {n : Nat} (hc : ColN g c n) (hn : n ≤ 100) (h0 : (0 : Int) ∈ c) : zeros g (roundC g c) < zeros g c := by
  have hI := hc.I hn
  have ex : ∃ a, a < g.N.toNat ∧ (fun a : Nat => decide (cg c (a : Int) = 0)) a = true := by
    obtain ⟨k, hk⟩ := List.mem_iff_getElem?.1 h0
    have hlt := (List.getElem?_eq_some_iff.1 hk).1
    have := hc.len
    refine ⟨k, by omega, ?_⟩
    simp [cg, hk]
  obtain ⟨a, h1, h2, h3⟩ := max_zero _ _ ex
  simp only [decide_eq_true_eq] at h2 h3
  refine countP_lt _ _ _ (fun b hb hz => ?_) ⟨a, List.mem_range.2 h1, by simpa using h2, ?_⟩
  · have hb' := List.mem_range.1 hb
    have hf := (freshC_spec hg hI b).2.1
    simp only [decide_eq_true_eq] at hz ⊢
    rw [cg_round (by omega) (by omega), Int.toNat_natCast] at hz
    rcases newC_cases g c b with ⟨k1, k2⟩ | ⟨k1, k2⟩
    · rw [turnB_iff] at k1; exact k1.1
    · rw [← k2]; exact hz
  · have ht : turnB c (nearL g a) a = true := by
      rw [turnB_iff]
      refine ⟨h2, fun b hb hb0 => ?_⟩
      obtain ⟨b1, b2, _⟩ := near_range hg hb
      have := h3 b.toNat (by omega) (by rw [Int.toNat_of_nonneg b1]; exact hb0)
      omega
    have hf := (freshC_spec hg hI a).2.1
    simp only [decide_eq_false_iff_not]
    rw [cg_round (by omega) (by omega), Int.toNat_natCast]
    unfold newC
    rw [ht]; simp; omega
/-- All rounds. -/
def runL (g : Graph) : Nat → List Int → Int → List Int × Int
  | 0, c, n => (c, n)
  | f + 1, c, n => if (0 : Int) ∈ c then runL g f (roundC g c) (n + 1) else (c, n)
theorem zeros_pos {g : Graph} {c : List Int} {n : Nat} (hc : ColN g c n) (h0 : (0 : Int) ∈ c) : 0 < zeros g c := by
  obtain ⟨k, hk⟩ := List.mem_iff_getElem?.1 h0
  have hlt := (List.getElem?_eq_some_iff.1 hk).1
  have := hc.len
  refine List.countP_pos_iff.2 ⟨k, List.mem_range.2 (by omega), ?_⟩
  simp [cg, hk]
theorem runL_right {g : Graph} (hg : okG g = true) : ∀ (f : Nat) (c : List Int) (n : Nat), ColN g c n → zeros g c ≤ f → n + f ≤ 100 → rightB g (runL g f c n).1 = true ∧ (runL g f c n).1.length ≤ 64 := by
  obtain ⟨g1, g2, g3, g4, g5⟩ := okG_parts hg
  have done : ∀ (c : List Int) (n : Nat), ColN g c n → (0 : Int) ∉ c → rightB g c = true ∧ c.length ≤ 64 := fun c n hc h0 => by
    have hl := hc.len
    refine ⟨?_, by omega⟩
    unfold rightB
    rw [decide_eq_true hl, Bool.true_and, Bool.and_eq_true, List.all_eq_true, List.all_eq_true]
    have nz : ∀ a : Int, 0 ≤ a → a < g.N → cg c a ≠ 0 := fun a h1 h2 h => h0 (h ▸ cg_mem (c := c) h1 (by omega))
    refine ⟨fun x hx => ?_, fun e he => ?_⟩
    · have := hc.lo x hx
      have : x ≠ 0 := by rintro rfl; exact h0 hx
      simp; omega
    · obtain ⟨e1, e2, e3⟩ := g4 e he
      have := hc.ne e.A e.B ((mem_nearL hg).2 (.inl he)) (nz _ e1 (by omega)) (nz _ (by omega) e3)
      simpa using this
  intro f
  induction f with
  | zero =>
    intro c n hc hz _
    have h0 : (0 : Int) ∉ c := fun h => by have := zeros_pos hc h; omega
    exact done c n hc h0
  | succ f ih =>
    intro c n hc hz hn
    simp only [runL]
    split
    · rename_i h0
      have := zeros_round hg hc (by omega) h0
      have k := ih (roundC g c) (n + 1) (hc.round hg (by omega)) (by omega) (by omega)
      rwa [show ((n + 1 : Nat) : Int) = (n : Int) + 1 from rfl] at k
    · rename_i h0
      exact done c n hc h0
theorem run_loop {g : Graph} (hg : okG g = true) : ∀ (f : Nat) (c : List Int) (n : Nat), ColN g c n → zeros g c ≤ f → n + f ≤ 100 → loop (m_colour_Run_l1 g) (c, (n : Int)) = some ((runL g f c n).1, (runL g f c n).2, 0) := by
  obtain ⟨g1, g2, g3, g4, g5⟩ := okG_parts hg
  have stop : ∀ (c : List Int) (n : Nat), ColN g c n → (0 : Int) ∉ c → loop (m_colour_Run_l1 g) (c, (n : Int)) = some (c, (n : Int), 0) := fun c n hc h0 => by
    have hl := hc.len
    rw [loop_eq]
    dsimp only [m_colour_Run_l1]
    rw [s_ContainsInt c 0 (by omega), Option.bind_some, decide_eq_false h0, ifb_false]
    rfl
  intro f
  induction f with
  | zero =>
    intro c n hc hz _
    have h0 : (0 : Int) ∉ c := fun h => by have := zeros_pos hc h; omega
    exact stop c n hc h0
  | succ f ih =>
    intro c n hc hz hn
    have hl := hc.len
    simp only [runL]
    by_cases h0 : (0 : Int) ∈ c
    · rw [if_pos h0, loop_eq]
      dsimp only [m_colour_Run_l1]
      rw [s_ContainsInt c 0 (by omega), Option.bind_some, decide_eq_true h0, ifb_true, s_Round g hg c (hc.I (by omega)), Option.bind_some, wr_succ (by omega)]
      have := zeros_round hg hc (by omega) h0
      exact ih (roundC g c) (n + 1) (hc.round hg (by omega)) (by omega) (by omega)
    · rw [if_neg h0]; exact stop c n hc h0
def c0 (g : Graph) : List Int := List.replicate g.N.toNat 0
/-- The colours of a graph. -/
def colours (g : Graph) : List Int := (runL g 64 (c0 g) 0).1
theorem cg_c0 (g : Graph) (a : Int) : cg (c0 g) a = 0 := by
  unfold cg c0
  rw [List.getElem?_replicate]
  split <;> rfl
theorem c0_ok {g : Graph} (hg : okG g = true) : ColN g (c0 g) 0 := by
  obtain ⟨g1, _⟩ := okG_parts hg
  refine ⟨by simp [c0]; omega, fun x hx => ?_, fun x hx => ?_, fun a b _ h _ => absurd (cg_c0 g a) h⟩
  · have := List.eq_of_mem_replicate hx; omega
  · have := List.eq_of_mem_replicate hx; omega
theorem zeros64 {g : Graph} (hg : okG g = true) (c : List Int) : zeros g c ≤ 64 := by
  have := zeros_le g c
  have := (okG_parts hg).2.1
  omega
theorem colours_right {g : Graph} (hg : okG g = true) : rightB g (colours g) = true ∧ (colours g).length ≤ 64 := by
  have := runL_right hg 64 (c0 g) 0 (c0_ok hg) (zeros64 hg _) (by omega)
  exact this
theorem s_Run (g : Graph) (hg : okG g = true) : m_colour_Run g = some (colours g, (runL g 64 (c0 g) 0).2, 0) := by
  obtain ⟨g1, g2, _⟩ := okG_parts hg
  simp only [m_colour_Run, s_Check, hg, if_true, Option.bind_some, decide_true, Bool.not_true, ifb_false]
  have e : mk_ 8 g.N 0 = some (c0 g) := by
    unfold mk_
    rw [if_pos ⟨by omega, by omega⟩]; rfl
  rw [e, Option.bind_some]
  exact run_loop hg 64 (c0 g) 0 (c0_ok hg) (zeros64 hg _) (by omega)
def sceneT (g : Graph) : Scene := ⟨tableT g (colours g), []⟩
theorem s_New (g : Graph) : m_table_New g = some (if okG g then (sceneT g, 0) else (⟨[], []⟩, 30)) := by
  cases hg : okG g with
  | false =>
    have : m_colour_Run g = some ([], 0, 30) := by
      simp only [m_colour_Run, s_Check, hg, Option.bind_some]; rfl
    simp only [m_table_New, this, Option.bind_some]; rfl
  | true =>
    obtain ⟨h1, h2⟩ := colours_right hg
    simp only [m_table_New, s_Run g hg, Option.bind_some, decide_true, Bool.not_true, ifb_false, s_Table g _ (show (colours g).length ≤ 1000000 by omega), hg, h1, if_true]
    rfl
end NX
end Go.Proofs.Ytadebhbiglmodaa
/-
  Plain laws: what always holds of a graph's scene goes on to hold. No statement of the seat is proved here.
-/
namespace Go.Proofs.Ytadebhbiglmodaa
namespace NX
open Go
theorem okSides_of (id : Int) : ∀ (l : List Side) (q : Int), l.Pairwise (fun x y => x.Peer < y.Peer) → (∀ x ∈ l, q < x.Peer ∧ x.Peer ≠ id ∧ x.Epoch = 1 ∧ x.State = 0 ∧ (x.Dirty = true → x.Fork = true)) → okSides id q l = true
  | [], _, _, _ => rfl
  | x :: l, q, h, hb => by
    rw [List.pairwise_cons] at h
    obtain ⟨b1, b2, b3, b4, b5⟩ := hb x (by simp)
    have ih := okSides_of id l x.Peer h.2 fun y hy => by
      have := hb y (by simp [hy])
      exact ⟨h.1 y hy, this.2⟩
    simp only [okSides, ih, Bool.and_true, sideD, decide_eq_true b1, decide_eq_false b2, b3, b4]
    cases hd : x.Dirty with
    | false => rfl
    | true => rw [b5 hd]; rfl
theorem LocD.ok {g : Graph} (hg : okG g = true) (hN : g.N ≤ 60) {a : Nat} {d : Diner} (h : LocD d) (hid : d.ID = a) (hp : d.Sides.map (·.Peer) = nearL g a) : okD d = true := by
  have hlen : d.Sides.length = (nearL g a).length := by rw [← hp]; simp
  have hfew := near_few hg (a : Int)
  have hpw : d.Sides.Pairwise fun x y => x.Peer < y.Peer := by
    have := nearL_pw hg (a : Int)
    rw [← hp, List.pairwise_map] at this
    exact this
  unfold okD
  rw [decide_eq_true (show 0 ≤ d.ID by omega), decide_eq_true h.lo, decide_eq_true h.hi, decide_eq_true (show d.Sides.length < 64 by omega), okSides_of d.ID d.Sides (-1) hpw fun x hx => ?_]
  · rfl
  · have hm : x.Peer ∈ nearL g a := by rw [← hp]; exact List.mem_map_of_mem hx
    obtain ⟨n1, n2, n3, _⟩ := near_range hg hm
    exact ⟨by omega, by omega, h.side x hx⟩
theorem Inv.okd {g : Graph} {s : Scene} (hg : okG g = true) (hN : g.N ≤ 60) (h : Inv g s) {d : Diner} (hd : d ∈ s.Diners) : okD d = true := by
  obtain ⟨k, hk⟩ := List.mem_iff_getElem?.1 hd
  obtain ⟨h1, h2⟩ := h.shp k d hk
  exact (h.loc d hd).ok hg hN h1 h2
theorem Inv.few {g : Graph} {s : Scene} (hg : okG g = true) (h : Inv g s) : fewD s.Diners := by
  have := (okG_parts hg).2.1
  refine ⟨by have := h.len; omega, fun d hd => ?_⟩
  obtain ⟨k, hk⟩ := List.mem_iff_getElem?.1 hd
  have h2 := (h.shp k d hk).2
  have : d.Sides.length = (nearL g k).length := by rw [← h2]; simp
  have := near_few hg (k : Int)
  omega
theorem Inv.graph {g : Graph} {s : Scene} (hg : okG g = true) (h : Inv g s) : graphP s.Diners = (g, true) := by
  rw [← graphP_T hg []]
  refine graphP_key (List.ext_getElem? fun k => ?_)
  have hl := tableT_len hg []
  have hl2 := h.len
  rw [List.getElem?_map, List.getElem?_map]
  by_cases hk : k < s.Diners.length
  · have e := tableT_get (g := g) (c := []) (a := (k : Int)) (by omega) (by omega)
    have hx : s.Diners[k]? = some s.Diners[k] := List.getElem?_eq_getElem hk
    obtain ⟨h1, h2⟩ := h.shp k _ hx
    rw [Int.toNat_natCast] at e
    rw [hx, e]
    simp only [Option.map_some, key, h1, h2, dinerT, List.map_map]
    congr 2
    exact (List.map_id _).symm
  · rw [List.getElem?_eq_none (by omega), List.getElem?_eq_none (by omega)]
theorem mailG_ok {g : Graph} (hg : okG g = true) {n : Nat} (hn : (n : Int) = g.N) {m : Mail} (h : mailG g m) : okMail n m = true := by
  obtain ⟨n1, n2, n3, n4, n5⟩ := near_range hg h.2.2.2
  unfold okMail
  rw [decide_eq_false (by omega), decide_eq_false (by omega), decide_eq_false (by omega)]; rfl
theorem Inv.ok {g : Graph} {s : Scene} (hg : okG g = true) (hN : g.N ≤ 60) (h : Inv g s) : okS s = true := by
  unfold okS
  rw [h.graph hg, Bool.true_and, Bool.and_eq_true, List.all_eq_true, List.all_eq_true]
  exact ⟨fun d hd => h.okd hg hN hd, fun m hm => mailG_ok hg h.len (h.mail m hm)⟩
/-! The first scene -/
theorem Inv.init {g : Graph} (hg : okG g = true) {c : List Int} (hr : rightB g c = true) : Inv g ⟨tableT g c, []⟩ := by
  have get : ∀ (k : Nat) d, (tableT g c)[k]? = some d → (k : Int) < g.N ∧ d = dinerT g c k := fun k d hd => by
    have hk := (List.getElem?_eq_some_iff.1 hd).1
    have hl := tableT_len hg c
    have e := tableT_get (g := g) (c := c) (a := (k : Int)) (by omega) (by omega)
    rw [Int.toNat_natCast, hd] at e
    exact ⟨by omega, by simpa using e⟩
  refine ⟨tableT_len hg c, fun k d hd => ?_, fun d hd => ?_, by simp, fun a b da db ha hb hab k hk => ?_⟩
  · obtain ⟨_, rfl⟩ := get k d hd
    refine ⟨rfl, ?_⟩
    simp only [dinerT, List.map_map]
    exact List.map_id _
  · obtain ⟨k, hk⟩ := List.mem_iff_getElem?.1 hd
    obtain ⟨_, rfl⟩ := get k d hk
    refine ⟨Int.le_refl _, by show (0 : Int) ≤ 2; omega, fun x hx => ?_, fun h => absurd h (by show ¬ (0 : Int) = 2; omega)⟩
    obtain ⟨b, _, rfl⟩ := List.mem_map.1 hx
    exact ⟨rfl, rfl, fun h => h⟩
  · obtain ⟨_, rfl⟩ := get a da ha
    obtain ⟨_, rfl⟩ := get b db hb
    have hne := rightB_ne hg hr hab
    have hba := near_symm hg hab
    unfold hasD cnt
    rw [sideO_T, if_pos hab, sideO_T, if_pos hba]
    have hlt : decide (cg c a < cg c b) = !decide (cg c b < cg c a) := by
      rw [← decide_not, decide_eq_decide]; omega
    simp only [sideT, has, hlt, bn]
    by_cases hh : cg c b < cg c a <;> rcases hk with rfl | rfl <;> simp [hh]
/-! What is done -/
theorem map_set_id {l : List Diner} (hid : ∀ (k : Nat) x, l[k]? = some x → x.ID = k) (a : Nat) (y : Diner) : (l.map fun x => if x.ID = (a : Int) then y else x) = l.set a y := by
  refine List.ext_getElem? fun k => ?_
  rw [List.getElem?_map, List.getElem?_set]
  by_cases hk : k < l.length
  · have hx : l[k]? = some l[k] := List.getElem?_eq_getElem hk
    have := hid k _ hx
    rw [hx, Option.map_some]
    by_cases he : a = k
    · subst he; simp [this, hk]
    · rw [if_neg (by omega), if_neg he]
  · rw [List.getElem?_eq_none (by omega)]
    split
    · rename_i he; subst he; simp; omega
    · rfl
theorem Inv.ids {g : Graph} {s : Scene} (h : Inv g s) (k : Nat) (x : Diner) (hx : s.Diners[k]? = some x) : x.ID = k := (h.shp k x hx).1
/-- Another node instead of one, then 'Fire'. -/
theorem actS_eq {g : Graph} {s : Scene} (h : Inv g s) (a : Nat) (d : Diner) : actS s a d = ⟨(s.Diners.set a d).set a (fireD d), s.Mail ++ fireMs d⟩ := by
  unfold actS
  rw [map_set_id h.ids a, List.set_set]
theorem set_get {l : List Diner} {a : Nat} {d d' : Diner} (hd : l[a]? = some d) : (l.set a d')[a]? = some d' := by
  have hlt := (List.getElem?_eq_some_iff.1 hd).1
  rw [List.getElem?_set]; simp [hlt]
theorem Inv.act {g : Graph} {s s1 : Scene} (hg : okG g = true) (hN : g.N ≤ 60) {a : Nat} {d : Diner} (h : Inv g s1) (hd : s1.Diners[a]? = some d) (he : s1.Diners = s.Diners.set a d) (hm : s1.Mail = s.Mail) (hs : ∀ (k : Nat) x, s.Diners[k]? = some x → x.ID = k) :
    okD d = true ∧ Inv g (actS s a d) := by
  refine ⟨h.okd hg hN (List.mem_iff_getElem?.2 ⟨_, hd⟩), ?_⟩
  have := h.fire hg hd
  unfold actS
  rw [map_set_id hs a]
  rw [he, List.set_set, hm] at this
  exact this
/-- A node of another phase. -/
theorem Inv.phase {g : Graph} {s : Scene} (hg : okG g = true) (h : Inv g s) {a : Nat} {d : Diner} (hd : s.Diners[a]? = some d) {p : Int} (h0 : 0 ≤ p) (h1 : p < 2) : Inv g ⟨s.Diners.set a ⟨d.ID, p, d.Sides⟩, s.Mail⟩ := by
  have hl := h.loc d (List.mem_iff_getElem?.2 ⟨_, hd⟩)
  exact h.set (d' := ⟨d.ID, p, d.Sides⟩) hg hd rfl rfl ⟨h0, by show p ≤ 2; omega, hl.side, fun e => absurd e (by show ¬ p = 2; omega)⟩ h.mail (fun _ _ _ _ _ => rfl) (fun _ _ _ _ => rfl)
theorem thereB_iff {s : Scene} {a : Int} : thereB s a = true ↔ 0 ≤ a ∧ a < s.Diners.length := by simp [thereB]
/-- What may be wrong. -/
def fineE (e : Int) : Bool := decide (e = 0) || (decide (e = 134) || (decide (e = 141) || decide (e = 140)))
theorem turnS_inv {g : Graph} {s : Scene} (hg : okG g = true) (hN : g.N ≤ 60) (h : Inv g s) (a p q : Int) (h0 : 0 ≤ q) (h1 : q < 2) : fineE (turnS s a fun d => turnD d p q).2 = true ∧ ((turnS s a fun d => turnD d p q).2 = 0 → Inv g (turnS s a fun d => turnD d p q).1) := by
  unfold turnS
  rw [h.ok hg hN, if_pos rfl]
  cases ht : thereB s a with
  | false => exact ⟨rfl, fun e => absurd e (by show ¬ (140 : Int) = 0; omega)⟩
  | true =>
    obtain ⟨a0, _⟩ := thereB_iff.1 ht
    obtain ⟨d, hd1, hd⟩ := there_at ht
    have hok := h.okd hg hN (List.mem_iff_getElem?.2 ⟨_, hd⟩)
    rw [if_pos rfl, hd1]
    dsimp only
    unfold turnD
    rw [hok, if_pos rfl]
    by_cases hp : d.Phase = p
    · rw [if_pos hp]
      have h2 := h.phase hg hd (p := q) h0 h1
      obtain ⟨k1, k2⟩ := Inv.act (s := s) hg hN h2 (set_get hd) rfl rfl h.ids
      rw [Int.toNat_of_nonneg a0] at k2
      unfold actP
      rw [if_pos rfl, if_pos k1]
      exact ⟨rfl, fun _ => k2⟩
    · rw [if_neg hp]
      exact ⟨rfl, fun e => absurd e (by show ¬ (134 : Int) = 0; omega)⟩
theorem find_congr {α : Type} {p q : α → Bool} : ∀ {l : List α}, (∀ x ∈ l, p x = q x) → l.find? p = l.find? q
  | [], _ => rfl
  | x :: l, h => by
    rw [List.find?_cons, List.find?_cons, h x (by simp), find_congr fun y hy => h y (by simp [hy])]
/-- What comes, comes to a side that lacks it. -/
theorem cnt_erase {M : List Mail} {i : Nat} {m : Mail} (hm : M[i]? = some m) (x : Mail) : (M.take i ++ M.drop (i + 1)).count x + (if m = x then 1 else 0) = M.count x := by
  have hlt := (List.getElem?_eq_some_iff.1 hm).1
  have e : M = M.take i ++ m :: M.drop (i + 1) := by
    have h1 := List.take_append_drop i M
    rw [List.drop_eq_getElem_cons hlt] at h1
    have h2 : M[i] = m := by rw [List.getElem?_eq_getElem hlt] at hm; simpa using hm
    rw [h2] at h1
    exact h1.symm
  have e2 : M.count x = (M.take i ++ m :: M.drop (i + 1)).count x := by rw [← e]
  rw [e2, List.count_append, List.count_append, List.count_cons]
  by_cases h : m = x
  · simp [h]; omega
  · simp [h]
def getS (x : Side) (k : Int) : Side := if k = 1 then { x with Fork := true } else { x with Token := true }
theorem delivS_inv {g : Graph} {s : Scene} (hg : okG g = true) (hN : g.N ≤ 60) (h : Inv g s) (a b : Int) : fineE (delivS s a b).2 = true ∧ ((delivS s a b).2 = 0 → Inv g (delivS s a b).1) ∧ ((delivS s a b).2 = 0 ∨ thereB s a = false ∨ thereB s b = false ∨ delivI s a b = none) := by
  unfold delivS
  rw [h.ok hg hN, if_pos rfl]
  cases ht : thereB s a with
  | false => exact ⟨rfl, fun e => absurd e (by show ¬ (140 : Int) = 0; omega), .inr (.inl rfl)⟩
  | true =>
    cases ht' : thereB s b with
    | false => exact ⟨rfl, fun e => absurd e (by show ¬ (140 : Int) = 0; omega), .inr (.inr (.inl rfl))⟩
    | true =>
      obtain ⟨a0, a1⟩ := thereB_iff.1 ht
      obtain ⟨b0, b1⟩ := thereB_iff.1 ht'
      obtain ⟨db, hdb1, hdb⟩ := there_at ht'
      obtain ⟨da, _, hda⟩ := there_at ht
      rw [Bool.true_and, if_pos rfl]
      have hfi := find_idx (fun m : Mail => decide (m.From = a) && decide (m.To = b)) s.Mail
      unfold delivI
      cases hf : s.Mail.findIdx? (fun m => decide (m.From = a) && decide (m.To = b)) with
      | none => exact ⟨rfl, fun e => absurd e (by show ¬ (141 : Int) = 0; omega), .inr (.inr (.inr rfl))⟩
      | some i =>
        rw [hf] at hfi
        obtain ⟨m, hm, hq⟩ := hfi
        have hq' := List.find?_some hq
        simp only [Bool.and_eq_true, decide_eq_true_eq] at hq'
        obtain ⟨q1, q2⟩ := hq'
        have hmm : m ∈ s.Mail := List.mem_iff_getElem?.2 ⟨_, hm⟩
        obtain ⟨m1, m2, m3, m4⟩ := h.mail m hmm
        rw [q1, q2] at m4
        have nab := near_symm hg m4
        dsimp only
        rw [hm, hdb1]
        dsimp only
        obtain ⟨hid, hsh⟩ := h.shp _ _ hdb
        have hok := h.okd hg hN (List.mem_iff_getElem?.2 ⟨_, hdb⟩)
        have hloc := h.loc db (List.mem_iff_getElem?.2 ⟨_, hdb⟩)
        have hpw := h.pw hg hdb
        -- the side is there
        have hsome : (sideO db a).isSome = true := by
          rw [sideO_mem, hsh, Int.toNat_of_nonneg b0]; exact decide_eq_true nab
        obtain ⟨x, hx⟩ := Option.isSome_iff_exists.1 hsome
        obtain ⟨xm, xp⟩ := sideO_some hx
        have hidx := find_idx (fun x : Side => decide (x.Peer = a) && decide (x.Epoch = m.Msg.Epoch)) db.Sides
        have efun : ∀ y ∈ db.Sides, (decide (y.Peer = a) && decide (y.Epoch = m.Msg.Epoch)) = decide (y.Peer = a) := fun y hy => by
          rw [m2, (hloc.side y hy).1]; simp
        have efind : db.Sides.find? (fun y => decide (y.Peer = a) && decide (y.Epoch = m.Msg.Epoch)) = some x := by
          rw [← hx]; unfold sideO
          exact find_congr efun
        unfold getD'
        rw [hok, if_pos rfl]
        cases hj : db.Sides.findIdx? (fun y => decide (y.Peer = a) && decide (y.Epoch = m.Msg.Epoch)) with
        | none => rw [hj] at hidx; rw [efind] at hidx; exact absurd hidx (by simp)
        | some j =>
          rw [hj] at hidx
          obtain ⟨x', hx1, hx2⟩ := hidx
          rw [efind] at hx2
          have : x' = x := by simpa using hx2.symm
          subst this
          dsimp only
          rw [hx1]
          dsimp only
          have hk : m.Msg.Kind = 1 ∨ m.Msg.Kind = 2 := m1
          have hme : m = ⟨a, b, ⟨m.Msg.Kind, 1, 0⟩⟩ := by
            obtain ⟨f, t, ⟨k, e, n⟩⟩ := m
            dsimp only at q1 q2 m2 m3 ⊢
            rw [q1, q2, m2, m3]
          have hcnt : 1 ≤ cnt s.Mail m.Msg.Kind a b := by
            unfold cnt
            have := List.count_pos_iff.2 hmm
            rw [← hme]; omega
          have hone := h.one b.toNat a.toNat db da hdb hda (by rw [Int.toNat_of_nonneg b0, Int.toNat_of_nonneg a0]; exact nab) m.Msg.Kind hk
          rw [Int.toNat_of_nonneg b0, Int.toNat_of_nonneg a0] at hone
          have hhas : has x' m.Msg.Kind = false := by
            cases hh : has x' m.Msg.Kind with
            | false => rfl
            | true =>
              have : hasD db m.Msg.Kind a = 1 := by unfold hasD; rw [hx]; simp only [hh, bn]; rfl
              omega
          -- behind it
          have hset : Inv g ⟨s.Diners.set b.toNat ⟨db.ID, db.Phase, db.Sides.set j (getS x' m.Msg.Kind)⟩, s.Mail.take i ++ s.Mail.drop (i + 1)⟩ := by
            have hgp : (getS x' m.Msg.Kind).Peer = x'.Peer := by unfold getS; split <;> rfl
            have hjlt := (List.getElem?_eq_some_iff.1 hx1).1
            have smem : ∀ y ∈ db.Sides.set j (getS x' m.Msg.Kind), y = getS x' m.Msg.Kind ∨ y ∈ db.Sides := fun y hy => by
              rcases List.mem_or_eq_of_mem_set hy with h1 | h1
              · exact .inr h1
              · exact .inl h1
            have gloc := hloc.side x' xm
            have gside : (getS x' m.Msg.Kind).Epoch = 1 ∧ (getS x' m.Msg.Kind).State = 0 ∧ ((getS x' m.Msg.Kind).Dirty = true → (getS x' m.Msg.Kind).Fork = true) := by
              unfold getS; split
              · exact ⟨gloc.1, gloc.2.1, fun _ => rfl⟩
              · exact gloc
            refine h.set (d' := ⟨db.ID, db.Phase, db.Sides.set j (getS x' m.Msg.Kind)⟩) hg hdb rfl ?_ ⟨hloc.lo, hloc.hi, fun y hy => ?_, fun h2 y hy => ?_⟩ (fun y hy => ?_) (fun k p q hp hq => ?_) (fun c hc k hk' => ?_)
            · dsimp only
              rw [List.map_set, hgp]
              refine List.ext_getElem? fun n => ?_
              rw [List.getElem?_set]
              split
              · rename_i hn; subst hn
                rw [List.getElem?_map, hx1]; simp [hjlt]
              · rfl
            · rcases smem y hy with rfl | hy
              · exact gside
              · exact hloc.side y hy
            · rcases smem y hy with rfl | hy
              · have := hloc.eat h2 x' xm
                unfold getS; split
                · exact ⟨rfl, this.2⟩
                · exact this
              · exact hloc.eat h2 y hy
            · rcases List.mem_append.1 hy with hy | hy
              · exact h.mail y (List.mem_of_mem_take hy)
              · exact h.mail y (List.mem_of_mem_drop hy)
            · have := cnt_erase hm ⟨p, q, ⟨k, 1, 0⟩⟩
              rw [if_neg (by rw [hme]; simp only [Mail.mk.injEq]; omega)] at this
              exact this
            · rw [Int.toNat_of_nonneg b0] at hc ⊢
              have e1 := cnt_erase hm ⟨b, c, ⟨k, 1, 0⟩⟩
              have e2 := cnt_erase hm ⟨c, b, ⟨k, 1, 0⟩⟩
              have hnab : a ≠ b := fun e => (near_range hg m4).2.2.1 e.symm
              rw [if_neg (by rw [hme]; simp only [Mail.mk.injEq]; omega)] at e1
              -- the sides behind it
              have es : ∀ z : Int, sideO ⟨db.ID, db.Phase, db.Sides.set j (getS x' m.Msg.Kind)⟩ z = if z = a then some (getS x' m.Msg.Kind) else sideO db z := fun z => by
                have hsplit : db.Sides = db.Sides.take j ++ x' :: db.Sides.drop (j + 1) := by
                  have h1 := List.take_append_drop j db.Sides
                  rw [List.drop_eq_getElem_cons hjlt] at h1
                  have h2 : db.Sides[j] = x' := by rw [List.getElem?_eq_getElem hjlt] at hx1; simpa using hx1
                  rw [h2] at h1; exact h1.symm
                have hjl : (db.Sides.take j).length = j := by simp; omega
                have hset2 : db.Sides.set j (getS x' m.Msg.Kind) = db.Sides.take j ++ getS x' m.Msg.Kind :: db.Sides.drop (j + 1) := by
                  have := set_mid (db.Sides.take j) (db.Sides.drop (j + 1)) x' (getS x' m.Msg.Kind)
                  rw [← hsplit, hjl, Int.toNat_natCast] at this
                  exact this
                unfold sideO
                dsimp only
                rw [hset2]
                have hpw2 := hpw
                rw [hsplit, List.pairwise_append, List.pairwise_cons] at hpw2
                have before : ∀ y ∈ db.Sides.take j, y.Peer ≠ a := fun y hy => by
                  have := hpw2.2.2 y hy x' (by simp); omega
                rw [List.find?_append, List.find?_cons, hgp]
                by_cases hz : z = a
                · subst hz
                  rw [decide_eq_true xp, if_pos rfl]
                  have : (db.Sides.take j).find? (fun y => decide (y.Peer = z)) = none := by
                    rw [List.find?_eq_none]; intro y hy; simpa using before y hy
                  rw [this]; rfl
                · rw [if_neg hz]
                  have e3 : db.Sides.find? (fun y => decide (y.Peer = z)) = (db.Sides.take j ++ x' :: db.Sides.drop (j + 1)).find? (fun y => decide (y.Peer = z)) := by rw [← hsplit]
                  rw [e3, List.find?_append, List.find?_cons, decide_eq_false (show ¬ x'.Peer = z by omega)]
              unfold hasD
              rw [es]
              by_cases hca : c = a
              · subst hca
                rw [if_pos rfl, hx]
                dsimp only
                by_cases hkk : k = m.Msg.Kind
                · subst hkk
                  have h1 : has (getS x' m.Msg.Kind) m.Msg.Kind = true := by
                    unfold has getS
                    rcases hk with h1 | h1 <;> rw [h1] <;> rfl
                  rw [if_pos hme] at e2
                  rw [h1, hhas]
                  unfold cnt
                  simp only [bn, if_true, Bool.false_eq_true, if_false]
                  omega
                · have h1 : has (getS x' m.Msg.Kind) k = has x' k := by
                    unfold has getS
                    rcases hk with h2 | h2 <;> rcases hk' with h3 | h3 <;> rw [h2, h3]
                    · exact absurd (h3.trans h2.symm) hkk
                    · rfl
                    · rfl
                    · exact absurd (h3.trans h2.symm) hkk
                  rw [if_neg (by rw [hme]; simp only [Mail.mk.injEq, Msg.mk.injEq]; omega)] at e2
                  rw [h1]
                  unfold cnt
                  omega
              · rw [if_neg hca]
                rw [if_neg (by rw [hme]; simp only [Mail.mk.injEq]; omega)] at e2
                unfold cnt
                omega
          have fin : (match (⟨db.ID, db.Phase, db.Sides.set j (getS x' m.Msg.Kind)⟩, (0 : Int)) with | r => actP ⟨s.Diners, s.Mail.take i ++ s.Mail.drop (i + 1)⟩ b r) = (actS ⟨s.Diners, s.Mail.take i ++ s.Mail.drop (i + 1)⟩ b ⟨db.ID, db.Phase, db.Sides.set j (getS x' m.Msg.Kind)⟩, 0) ∧ Inv g (actS ⟨s.Diners, s.Mail.take i ++ s.Mail.drop (i + 1)⟩ b ⟨db.ID, db.Phase, db.Sides.set j (getS x' m.Msg.Kind)⟩) := by
            obtain ⟨k1, k2⟩ := Inv.act (s := ⟨s.Diners, s.Mail.take i ++ s.Mail.drop (i + 1)⟩) hg hN hset (set_get hdb) rfl rfl h.ids
            rw [Int.toNat_of_nonneg b0] at k2
            refine ⟨?_, k2⟩
            dsimp only
            unfold actP
            rw [if_pos rfl, if_pos k1]
          have hres : (if (decide (m.Msg.Kind = 1) && decide (m.Msg.Num = 0)) = true then (if x'.Fork = true then (diner0, 132) else (⟨db.ID, db.Phase, db.Sides.set j { x' with Fork := true }⟩, 0))
              else if (decide (m.Msg.Kind = 2) && decide (m.Msg.Num = 0)) = true then (if x'.Token = true then (diner0, 132) else (⟨db.ID, db.Phase, db.Sides.set j { x' with Token := true }⟩, 0))
              else ((diner0, 133) : Diner × Int)) = (⟨db.ID, db.Phase, db.Sides.set j (getS x' m.Msg.Kind)⟩, 0) := by
            unfold has at hhas
            unfold getS
            rcases hk with h1 | h1
            · rw [h1] at hhas ⊢
              rw [m3]
              simp at hhas
              simp [hhas]
            · rw [h1] at hhas ⊢
              rw [m3]
              simp at hhas
              simp [hhas]
          rw [hres]
          obtain ⟨f1, f2⟩ := fin
          dsimp only at f1
          rw [f1]
          exact ⟨rfl, fun _ => f2, .inl rfl⟩
theorem actA_inv {g : Graph} {s : Scene} (hg : okG g = true) (hN : g.N ≤ 60) (h : Inv g s) (k a b : Int) : fineE (actA s k a b).2 = true ∧ ((actA s k a b).2 = 0 → Inv g (actA s k a b).1) := by
  unfold actA
  split
  · exact turnS_inv hg hN h a 0 1 (by omega) (by omega)
  · split
    · exact turnS_inv hg hN h a 2 0 (by omega) (by omega)
    · have := delivS_inv hg hN h a b
      exact ⟨this.1, this.2.1⟩
end NX
end Go.Proofs.Ytadebhbiglmodaa
/-
  The function narthex/table.Count$1: its code compiled, a model, and that the code answers as the model. Written by a program of ours (lb.py). No statement of the seat is proved here.
-/
namespace Go.Proofs.Ytadebhbiglmodaa
namespace NX
open Go
set_option maxRecDepth 100000
set_option maxHeartbeats 4000000
def e74 : EC := .seq (.reg [⟨(some 1), none, .box 49 8 (.t 0)⟩, ⟨(some 2), none, .mv (.c .ff)⟩]) (.seq (.reg [⟨(some 3), none, .fld 3 (.t 1)⟩, ⟨(some 4), none, .load (.t 3)⟩, ⟨(some 2), none, .mv (.t 4)⟩]) (.ret))
theorem ok74 : FnOK Try.prog 74 Try.f74 e74 [.t 2] 1 4 := ⟨by kernel_rfl, ⟨_, rfl, by kernel_rfl⟩, by kernel_rfl, by kernel_rfl⟩
/- narthex/table.Count$1 -/
noncomputable def m_table_Count_1 (x1 : Side) : Option Bool :=
 some x1.Fork
theorem k_table_Count_1 (x1 : Side) (r : Bool) (h : m_table_Count_1 x1 = some r) : FunP Try.prog 74 [.agg (Side.row x1)] (.bv r) := by
  refine FunP_intro ok74 rfl rfl fun w0 H0 => ?_
  rw [m_table_Count_1] at h
  refine V_go 11 ?_; dsimp only [e74, go_sem, Nat.reduceBEq, Nat.reduceAdd]; refine ⟨by simp, ?_⟩; exact M_done (res := fun (r : Bool) => .bv r) ok74 h
def f_table_Count_1 (_F : Nat) (x1 : Side) : Option Bool :=
 some x1.Fork
theorem le_table_Count_1 {F : Nat} {x1 : Side} : ole (f_table_Count_1 F x1) (m_table_Count_1 x1) := by
  unfold f_table_Count_1 m_table_Count_1
  with_reducible repeat' first | exact ole_refl _ | assumption | intro _ | refine ole_ifb ?_ ?_ | refine ole_bind ?_ ?_ | refine ole_map ?_ | refine ole_loop ?_
end NX
end Go.Proofs.Ytadebhbiglmodaa
/-
  The function narthex/table.Count$2: its code compiled, a model, and that the code answers as the model. Written by a program of ours (lb.py). No statement of the seat is proved here.
-/
namespace Go.Proofs.Ytadebhbiglmodaa
namespace NX
open Go
set_option maxRecDepth 100000
set_option maxHeartbeats 4000000
def e75 : EC := .seq (.reg [⟨(some 1), none, .box 49 8 (.t 0)⟩, ⟨(some 2), none, .mv (.c .ff)⟩]) (.seq (.reg [⟨(some 3), none, .fld 5 (.t 1)⟩, ⟨(some 4), none, .load (.t 3)⟩, ⟨(some 2), none, .mv (.t 4)⟩]) (.ret))
theorem ok75 : FnOK Try.prog 75 Try.f75 e75 [.t 2] 1 4 := ⟨by kernel_rfl, ⟨_, rfl, by kernel_rfl⟩, by kernel_rfl, by kernel_rfl⟩
/- narthex/table.Count$2 -/
noncomputable def m_table_Count_2 (x1 : Side) : Option Bool :=
 some x1.Token
theorem k_table_Count_2 (x1 : Side) (r : Bool) (h : m_table_Count_2 x1 = some r) : FunP Try.prog 75 [.agg (Side.row x1)] (.bv r) := by
  refine FunP_intro ok75 rfl rfl fun w0 H0 => ?_
  rw [m_table_Count_2] at h
  refine V_go 11 ?_; dsimp only [e75, go_sem, Nat.reduceBEq, Nat.reduceAdd]; refine ⟨by simp, ?_⟩; exact M_done (res := fun (r : Bool) => .bv r) ok75 h
def f_table_Count_2 (_F : Nat) (x1 : Side) : Option Bool :=
 some x1.Token
theorem le_table_Count_2 {F : Nat} {x1 : Side} : ole (f_table_Count_2 F x1) (m_table_Count_2 x1) := by
  unfold f_table_Count_2 m_table_Count_2
  with_reducible repeat' first | exact ole_refl _ | assumption | intro _ | refine ole_ifb ?_ ?_ | refine ole_bind ?_ ?_ | refine ole_map ?_ | refine ole_loop ?_
end NX
end Go.Proofs.Ytadebhbiglmodaa
