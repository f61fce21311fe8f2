/-
  The function narthex/narthexref03.Same: its code compiled, a model, and that the code answers as the model. Written by a program of ours (lb.py). No statement of the seat is proved here.
-/
import Derived.KernelRfl
import Derived.Shelf.Sort.Plain
import Derived.Shelf.Slices.In.SortNone
import Derived.Sort.OwnSortedInts
import Derived.Test.YtadebhbiglmodaaKPlaceArcs2
import Derived.Test.YtadebhbiglmodaaKPlaceArcs1
namespace Go.Proofs.Ytadebhbiglmodaa
namespace NX
open Go
set_option maxRecDepth 100000
set_option maxHeartbeats 4000000
def e_narthexref03_Same_L0 : EC := .seq (.seq (.reg [⟨(some 20), none, .mv (.t 5)⟩, ⟨(some 21), none, .fld 1 (.t 2)⟩, ⟨(some 22), none, .load (.t 21)⟩, ⟨(some 23), none, .len (.t 22)⟩, ⟨(some 24), none, .bin .lss (.t 20) (.t 23)⟩]) (.ite (.t 24) (.skip) (.exit 0))) (.seq (.blk 1 (.seq (.drw [⟨(some 27), none, .fld 1 (.t 2)⟩, ⟨(some 28), none, .load (.t 27)⟩, ⟨(some 29), none, .mv (.t 5)⟩, ⟨(some 30), none, .idx 2 (.t 28) (.t 29)⟩, ⟨(some 31), none, .loadA 2 (.t 30)⟩, ⟨(some 32), none, .fld 1 (.t 3)⟩, ⟨(some 33), none, .load (.t 32)⟩, ⟨(some 34), none, .mv (.t 5)⟩, ⟨(some 35), none, .idx 2 (.t 33) (.t 34)⟩, ⟨(some 36), none, .loadA 2 (.t 35)⟩, ⟨(some 37), none, .eqs true [true, true] (.t 31) (.t 36)⟩] [[], [0], [], [1, 2], [3], [], [5], [], [6, 7], [8], [4, 9]] [[1], [0, 3], [3], [1, 2, 4], [3, 10], [6], [5, 8], [8], [6, 7, 9], [8, 10], [4, 9]]) (.ite (.t 37) (.seq (.reg [⟨(some 4), none, .mv (.c .ff)⟩]) (.ret)) (.skip)))) (.reg [⟨(some 25), none, .mv (.t 5)⟩, ⟨(some 26), none, .bin .add (.t 25) (.c (.iv 1))⟩, ⟨(some 5), none, .mv (.t 26)⟩]))
def e_narthexref03_Same : EC := .seq (.reg [⟨(some 2), none, .box 24 2 (.t 0)⟩, ⟨(some 3), none, .box 24 2 (.t 1)⟩, ⟨(some 4), none, .mv (.c .ff)⟩]) (.seq (.seq (.reg [⟨(some 6), none, .fld 0 (.t 2)⟩, ⟨(some 7), none, .load (.t 6)⟩, ⟨(some 8), none, .fld 0 (.t 3)⟩, ⟨(some 9), none, .load (.t 8)⟩, ⟨(some 10), none, .bin .neq (.t 7) (.t 9)⟩, ⟨(some 11), none, .mv (.t 10)⟩, ⟨(some 12), (some (11, false)), .fld 1 (.t 2)⟩, ⟨(some 13), (some (11, false)), .load (.t 12)⟩, ⟨(some 14), (some (11, false)), .len (.t 13)⟩, ⟨(some 15), (some (11, false)), .fld 1 (.t 3)⟩, ⟨(some 16), (some (11, false)), .load (.t 15)⟩, ⟨(some 17), (some (11, false)), .len (.t 16)⟩, ⟨(some 18), (some (11, false)), .bin .neq (.t 14) (.t 17)⟩, ⟨(some 19), none, .pick (.t 11) (.c .tt) (.t 18)⟩]) (.ite (.t 19) (.seq (.reg [⟨(some 4), none, .mv (.c .ff)⟩]) (.ret)) (.skip))) (.seq (.seq (.reg [⟨(some 5), none, .mv (.c (.iv 0))⟩]) (.blk 0 (.loop e_narthexref03_Same_L0))) (.seq (.reg [⟨(some 4), none, .mv (.c .tt)⟩]) (.ret))))
theorem ok_narthexref03_Same : FnOK Try.prog 26 Try.f26 e_narthexref03_Same [.t 4] 2 36 := ⟨by kernel_rfl, ⟨_, rfl, by kernel_rfl⟩, by kernel_rfl, by kernel_rfl⟩
/- narthex/narthexref03.Same -/
noncomputable def m_narthexref03_Same_j2  : Unit → Option Bool
| () =>
 some true
noncomputable def m_narthexref03_Same_l1 (x1 : Graph) (x2 : Graph) : Int → Option (Int ⊕ Bool)
| x7 =>
 ifb (decide (x7 < (ln Edge.row x1.Edges))) (
 (at_ x1.Edges x7).bind fun x8 =>
 (at_ x2.Edges x7).bind fun x9 =>
 ifb (!(decide (x8.A = x9.A) && (decide (x8.B = x9.B) && true))) (
 Option.map Sum.inr (some false)) (
 some (.inl (wr (x7 + 1))))) (
 Option.map Sum.inr (m_narthexref03_Same_j2 ()))
noncomputable def m_narthexref03_Same_j1 (x1 : Graph) (x2 : Graph) : Bool → Option Bool
| x3 =>
 ifb x3 (
 some false) (
 loop (m_narthexref03_Same_l1 x1 x2) 0)
noncomputable def m_narthexref03_Same (x1 : Graph) (x2 : Graph) : Option Bool :=
 ifb (!decide (x1.N = x2.N)) (
 (m_narthexref03_Same_j1 x1 x2) true) (
 (m_narthexref03_Same_j1 x1 x2) (!decide ((ln Edge.row x1.Edges) = (ln Edge.row x2.Edges))))
theorem k_narthexref03_Same (x1 : Graph) (x2 : Graph) (r : Bool) (h : m_narthexref03_Same x1 x2 = some r) : FunP Try.prog 26 [.agg (Graph.row x1), .agg (Graph.row x2)] (.bv r) := by
  refine FunP_intro ok_narthexref03_Same rfl rfl fun w0 H0 => ?_
  rw [m_narthexref03_Same] at h
  refine V_go 15 ?_
  dsimp only [e_narthexref03_Same, e_narthexref03_Same_L0, go_sem, Nat.reduceBEq, Nat.reduceAdd]
  refine ⟨by simp, ?_⟩
  refine V_join (fun (x3 : Bool) => (⟨(.any :: .any :: .ptr 0 0 :: .ptr 1 0 :: an 15 (.bv x3 :: an 18 [])), [some ⟨24, [.iv x1.N, .sl 2 (List.map Edge.row x1.Edges)]⟩, some ⟨24, [.iv x2.N, .sl 2 (List.map Edge.row x2.Edges)]⟩], []⟩ : St)) (m_narthexref03_Same_j1 x1 x2) r ?_ fun J1 => ?_
  · intro x3 h
    rw [m_narthexref03_Same_j1] at h
    try dsimp only
    refine M_ite h rfl (fun hb h => ?_) (fun hb h => ?_)
    · refine V_go 4 ?_
      dsimp only [e_narthexref03_Same, e_narthexref03_Same_L0, go_sem, Nat.reduceBEq, Nat.reduceAdd]
      refine ⟨by simp, ?_⟩
      exact M_done (res := fun (r : Bool) => .bv r) ok_narthexref03_Same h (by first | exact le_refl _ | simp [go_sem])
    · refine V_go 6 ?_
      dsimp only [e_narthexref03_Same, e_narthexref03_Same_L0, go_sem, Nat.reduceBEq, Nat.reduceAdd]
      refine ⟨by simp, ?_⟩
      refine V_join (fun (_ : Unit) => (⟨(an 38 []), [], []⟩ : St)) m_narthexref03_Same_j2 r ?_ fun J2 => ?_
      · rintro ⟨⟩ h
        rw [m_narthexref03_Same_j2] at h
        try dsimp only
        refine V_go 4 ?_
        dsimp only [e_narthexref03_Same, e_narthexref03_Same_L0, go_sem, Nat.reduceBEq, Nat.reduceAdd]
        refine ⟨by simp, ?_⟩
        exact M_done (res := fun (r : Bool) => .bv r) ok_narthexref03_Same h (by first | exact le_refl _ | simp [go_sem])
      · refine V_go 1 ?_
        dsimp only [e_narthexref03_Same, e_narthexref03_Same_L0, go_sem, Nat.reduceBEq, Nat.reduceAdd]
        refine ⟨by simp, ?_⟩
        refine M_loop h (fun (x7 : Int) => (⟨(.any :: .any :: .ptr 0 0 :: .ptr 1 0 :: .any :: .iv x7 :: an 32 []), [some ⟨24, [.iv x1.N, .sl 2 (List.map Edge.row x1.Edges)]⟩, some ⟨24, [.iv x2.N, .sl 2 (List.map Edge.row x2.Edges)]⟩], []⟩ : St)) (by simp [go_sem]) (by intro x7; first | rfl | simp [go_sem]) ?_
        rintro n1 x7 y1 h hin1 hout1
        rw [m_narthexref03_Same_l1] at h
        try dsimp only
        refine V_go 9 ?_
        dsimp only [e_narthexref03_Same, e_narthexref03_Same_L0, go_sem, Nat.reduceBEq, Nat.reduceAdd]
        refine ⟨by simp, ?_⟩
        refine M_ite h rfl (fun hb h => ?_) (fun hb h => ?_)
        · refine V_go 4 ?_
          dsimp only [e_narthexref03_Same, e_narthexref03_Same_L0, go_sem, Nat.reduceBEq, Nat.reduceAdd]
          refine ⟨by simp, ?_⟩
          refine V_drw (by kernel_rfl) fun all hall hs hnap haf => ?_
          dsimp only [go_sem, Nat.reduceBEq, Nat.reduceAdd]
          refine G_goE hall hs haf hnap 6 5 [true, true, true, false, false, true, true, true, false, false, false] (⟨(.any :: .any :: .ptr 0 0 :: .ptr 1 0 :: .any :: .iv x7 :: an 14 (.iv x7 :: .ptr 0 1 :: .sl 2 (List.map Edge.row x1.Edges) :: .iv (ln Edge.row x1.Edges) :: .bv (decide (x7 < (ln Edge.row x1.Edges))) :: .any :: .any :: .ptr 0 1 :: .sl 2 (List.map Edge.row x1.Edges) :: .iv x7 :: .any :: .any :: .ptr 1 1 :: .sl 2 (List.map Edge.row x2.Edges) :: .iv x7 :: an 3 [])), [some ⟨24, [.iv x1.N, .sl 2 (List.map Edge.row x1.Edges)]⟩, some ⟨24, [.iv x2.N, .sl 2 (List.map Edge.row x2.Edges)]⟩], []⟩ : St) (by kernel_rfl) ?_
          obtain ⟨x8, ex8, h⟩ := Option.bind_eq_some_iff.1 h
          refine G_idxM hall hs haf hnap 3 Edge.row ex8 rfl rfl trivial rfl rfl rfl rfl ?_
          refine G_goN hall hs haf hnap 1 3 ?_
          dsimp only [go_sem, Nat.reduceBEq, Nat.reduceAdd]
          refine ⟨by simp, ?_⟩
          obtain ⟨x9, ex9, h⟩ := Option.bind_eq_some_iff.1 h
          refine G_idxM hall hs haf hnap 8 Edge.row ex9 rfl rfl trivial rfl rfl rfl rfl ?_
          refine G_goN hall hs haf hnap 2 0 ?_
          dsimp only [go_sem, Nat.reduceBEq, Nat.reduceAdd]
          refine ⟨by simp, ?_⟩
          refine G_done rfl ?_ _
          refine M_ite h rfl (fun hb h => ?_) (fun hb h => ?_)
          · refine V_go 4 ?_
            dsimp only [e_narthexref03_Same, e_narthexref03_Same_L0, go_sem, Nat.reduceBEq, Nat.reduceAdd]
            refine ⟨by simp, ?_⟩
            exact M_done (res := fun (r : Bool) => .bv r) ok_narthexref03_Same (M_out h hout1) (by first | exact le_refl _ | simp [go_sem])
          · refine V_go 7 ?_
            dsimp only [e_narthexref03_Same, e_narthexref03_Same_L0, go_sem, Nat.reduceBEq, Nat.reduceAdd]
            refine ⟨by simp, ?_⟩
            exact M_back h hin1 (by simp [go_sem]) (by first | rfl | simp [go_sem])
        · refine V_go 1 ?_
          dsimp only [e_narthexref03_Same, e_narthexref03_Same_L0, go_sem, Nat.reduceBEq, Nat.reduceAdd]
          refine ⟨by simp, ?_⟩
          exact M_to J2 (s := ()) (M_out h hout1) (by simp [go_sem]) (by first | rfl | simp [go_sem])
  · refine M_case 11 h rfl (fun hb h => ?_) (fun hb h => ?_)
    · dsimp only [go_sem, Nat.reduceBEq, Nat.reduceAdd]
      refine V_go 9 ?_
      dsimp only [e_narthexref03_Same, e_narthexref03_Same_L0, go_sem, Nat.reduceBEq, Nat.reduceAdd]
      refine ⟨by simp, ?_⟩
      exact M_to J1 (s := true) h (by simp [go_sem]) (by first | rfl | simp [go_sem])
    · dsimp only [go_sem, Nat.reduceBEq, Nat.reduceAdd]
      refine V_go 9 ?_
      dsimp only [e_narthexref03_Same, e_narthexref03_Same_L0, go_sem, Nat.reduceBEq, Nat.reduceAdd]
      refine ⟨by simp, ?_⟩
      exact M_to J1 (s := !decide ((ln Edge.row x1.Edges) = (ln Edge.row x2.Edges))) h (by simp [go_sem]) (by first | rfl | simp [go_sem])
def f_narthexref03_Same_j2 (F : Nat)  : Unit → Option Bool
| () =>
 some true
theorem le_narthexref03_Same_j2 {F : Nat} : ∀ s, ole (f_narthexref03_Same_j2 F s) (m_narthexref03_Same_j2 s) := by
  rintro ⟨⟩
  unfold f_narthexref03_Same_j2 m_narthexref03_Same_j2
  try dsimp only
  repeat' first | with_reducible exact ole_refl _ | assumption | intro _ | with_reducible refine ole_ifb ?_ ?_ | with_reducible refine ole_bind ?_ ?_ | with_reducible refine ole_map ?_ | with_reducible refine ole_loop ?_
def f_narthexref03_Same_l1 (F : Nat) (x1 : Graph) (x2 : Graph) : Int → Option (Int ⊕ Bool)
| x7 =>
 ifb (decide (x7 < (ln Edge.row x1.Edges))) (
 (at_ x1.Edges x7).bind fun x8 =>
 (at_ x2.Edges x7).bind fun x9 =>
 ifb (!(decide (x8.A = x9.A) && (decide (x8.B = x9.B) && true))) (
 Option.map Sum.inr (some false)) (
 some (.inl (wr (x7 + 1))))) (
 Option.map Sum.inr (f_narthexref03_Same_j2 F ()))
theorem le_narthexref03_Same_l1 {F : Nat} {x1 : Graph} {x2 : Graph} : ∀ s, ole (f_narthexref03_Same_l1 F x1 x2 s) (m_narthexref03_Same_l1 x1 x2 s) := by
  intro x7
  unfold f_narthexref03_Same_l1 m_narthexref03_Same_l1
  try dsimp only
  repeat' first | with_reducible exact ole_refl _ | assumption | intro _ | with_reducible refine ole_ifb ?_ ?_ | with_reducible refine ole_bind ?_ ?_ | with_reducible refine ole_map ?_ | with_reducible refine ole_loop ?_ | with_reducible apply le_narthexref03_Same_j2
def f_narthexref03_Same_j1 (F : Nat) (x1 : Graph) (x2 : Graph) : Bool → Option Bool
| x3 =>
 ifb x3 (
 some false) (
 loopF F (f_narthexref03_Same_l1 F x1 x2) 0)
theorem le_narthexref03_Same_j1 {F : Nat} {x1 : Graph} {x2 : Graph} : ∀ s, ole (f_narthexref03_Same_j1 F x1 x2 s) (m_narthexref03_Same_j1 x1 x2 s) := by
  intro x3
  unfold f_narthexref03_Same_j1 m_narthexref03_Same_j1
  try dsimp only
  repeat' first | with_reducible exact ole_refl _ | assumption | intro _ | with_reducible refine ole_ifb ?_ ?_ | with_reducible refine ole_bind ?_ ?_ | with_reducible refine ole_map ?_ | with_reducible refine ole_loop ?_ | with_reducible apply le_narthexref03_Same_j2 | with_reducible apply le_narthexref03_Same_l1
def f_narthexref03_Same (F : Nat) (x1 : Graph) (x2 : Graph) : Option Bool :=
 ifb (!decide (x1.N = x2.N)) (
 (f_narthexref03_Same_j1 F x1 x2) true) (
 (f_narthexref03_Same_j1 F x1 x2) (!decide ((ln Edge.row x1.Edges) = (ln Edge.row x2.Edges))))
theorem le_narthexref03_Same {F : Nat} {x1 : Graph} {x2 : Graph} : ole (f_narthexref03_Same F x1 x2) (m_narthexref03_Same x1 x2) := by
  unfold f_narthexref03_Same m_narthexref03_Same
  repeat' first | with_reducible exact ole_refl _ | assumption | intro _ | with_reducible refine ole_ifb ?_ ?_ | with_reducible refine ole_bind ?_ ?_ | with_reducible refine ole_map ?_ | with_reducible refine ole_loop ?_ | with_reducible apply le_narthexref03_Same_j2 | with_reducible apply le_narthexref03_Same_l1 | with_reducible apply le_narthexref03_Same_j1
end NX
end Go.Proofs.Ytadebhbiglmodaa
/-
  The function narthex/narthexref11.Check: its code compiled, a model, and that the code answers as the model. Written by a program of ours (lb.py). No statement of the seat is proved here.
-/
namespace Go.Proofs.Ytadebhbiglmodaa
namespace NX
open Go
set_option maxRecDepth 100000
set_option maxHeartbeats 4000000
def e_narthexref11_Check_L0 : EC := .seq (.seq (.reg [⟨(some 6), none, .mv (.t 5)⟩, ⟨(some 7), none, .mv (.t 1)⟩, ⟨(some 8), none, .len (.t 7)⟩, ⟨(some 9), none, .bin .lss (.t 6) (.t 8)⟩]) (.ite (.t 9) (.skip) (.exit 0))) (.seq (.blk 1 (.seq (.reg [⟨(some 12), none, .mv (.t 1)⟩, ⟨(some 13), none, .mv (.t 5)⟩, ⟨(some 14), none, .idx 1 (.t 12) (.t 13)⟩, ⟨(some 15), none, .load (.t 14)⟩, ⟨(some 16), none, .bin .lss (.t 15) (.c (.iv 0))⟩]) (.ite (.t 16) (.seq (.reg [⟨(some 4), none, .mv (.c .ff)⟩]) (.ret)) (.skip)))) (.reg [⟨(some 10), none, .mv (.t 5)⟩, ⟨(some 11), none, .bin .add (.t 10) (.c (.iv 1))⟩, ⟨(some 5), none, .mv (.t 11)⟩]))
def e_narthexref11_Check : EC := .seq (.reg [⟨(some 2), none, .box 24 2 (.t 0)⟩, ⟨(some 4), none, .mv (.c .ff)⟩]) (.seq (.seq (.reg [⟨(some 5), none, .mv (.c (.iv 0))⟩]) (.blk 0 (.loop e_narthexref11_Check_L0))) (.seq (.reg [⟨(some 17), none, .mv (.t 1)⟩, ⟨(some 18), none, .len (.t 17)⟩, ⟨(some 19), none, .fld 0 (.t 2)⟩, ⟨(some 20), none, .load (.t 19)⟩, ⟨(some 21), none, .bin .eql (.t 18) (.t 20)⟩, ⟨(some 4), none, .mv (.t 21)⟩]) (.ret)))
theorem ok_narthexref11_Check : FnOK Try.prog 53 Try.f53 e_narthexref11_Check [.t 4] 2 20 := ⟨by kernel_rfl, ⟨_, rfl, by kernel_rfl⟩, by kernel_rfl, by kernel_rfl⟩
/- narthex/narthexref11.Check -/
noncomputable def m_narthexref11_Check_j1 (x1 : Graph) (x2 : (List Int)) : Unit → Option Bool
| () =>
 some (decide ((ln intRow x2) = x1.N))
noncomputable def m_narthexref11_Check_l1 (x1 : Graph) (x2 : (List Int)) : Int → Option (Int ⊕ Bool)
| x5 =>
 ifb (decide (x5 < (ln intRow x2))) (
 (at_ x2 x5).bind fun x6 =>
 ifb (decide (x6 < 0)) (
 Option.map Sum.inr (some false)) (
 some (.inl (wr (x5 + 1))))) (
 Option.map Sum.inr ((m_narthexref11_Check_j1 x1 x2) ()))
noncomputable def m_narthexref11_Check (x1 : Graph) (x2 : (List Int)) : Option Bool :=
 loop (m_narthexref11_Check_l1 x1 x2) 0
theorem k_narthexref11_Check (x1 : Graph) (x2 : (List Int)) (r : Bool) (h : m_narthexref11_Check x1 x2 = some r) : FunP Try.prog 53 [.agg (Graph.row x1), .sl 1 (List.map intRow x2)] (.bv r) := by
  refine FunP_intro ok_narthexref11_Check rfl rfl fun w0 H0 => ?_
  rw [m_narthexref11_Check] at h
  refine V_go 10 ?_
  dsimp only [e_narthexref11_Check, e_narthexref11_Check_L0, go_sem, Nat.reduceBEq, Nat.reduceAdd]
  refine ⟨by simp, ?_⟩
  refine V_join (fun (_ : Unit) => (⟨(.any :: .sl 1 (List.map intRow x2) :: .ptr 0 0 :: an 19 []), [some ⟨24, [.iv x1.N, .sl 2 (List.map Edge.row x1.Edges)]⟩], []⟩ : St)) (m_narthexref11_Check_j1 x1 x2) r ?_ fun J1 => ?_
  · rintro ⟨⟩ h
    rw [m_narthexref11_Check_j1] at h
    try dsimp only
    refine V_go 9 ?_
    dsimp only [e_narthexref11_Check, e_narthexref11_Check_L0, go_sem, Nat.reduceBEq, Nat.reduceAdd]
    refine ⟨by simp, ?_⟩
    exact M_done (res := fun (r : Bool) => .bv r) ok_narthexref11_Check h (by first | exact le_refl _ | simp [go_sem])
  · refine V_go 1 ?_
    dsimp only [e_narthexref11_Check, e_narthexref11_Check_L0, go_sem, Nat.reduceBEq, Nat.reduceAdd]
    refine ⟨by simp, ?_⟩
    refine M_loop h (fun (x5 : Int) => (⟨(.any :: .sl 1 (List.map intRow x2) :: .ptr 0 0 :: .any :: .any :: .iv x5 :: an 16 []), [some ⟨24, [.iv x1.N, .sl 2 (List.map Edge.row x1.Edges)]⟩], []⟩ : St)) (by simp [go_sem]) (by intro x5; first | rfl | simp [go_sem]) ?_
    rintro n1 x5 y1 h hin1 hout1
    rw [m_narthexref11_Check_l1] at h
    try dsimp only
    refine V_go 8 ?_
    dsimp only [e_narthexref11_Check, e_narthexref11_Check_L0, go_sem, Nat.reduceBEq, Nat.reduceAdd]
    refine ⟨by simp, ?_⟩
    refine M_ite h rfl (fun hb h => ?_) (fun hb h => ?_)
    · refine V_go 7 ?_
      dsimp only [e_narthexref11_Check, e_narthexref11_Check_L0, go_sem, Nat.reduceBEq, Nat.reduceAdd]
      refine ⟨by simp, ?_⟩
      obtain ⟨x6, ex6, h⟩ := Option.bind_eq_some_iff.1 h
      refine V_idxM intRow ex6 trivial rfl rfl rfl ?_
      refine V_go 3 ?_
      dsimp only [e_narthexref11_Check, e_narthexref11_Check_L0, go_sem, Nat.reduceBEq, Nat.reduceAdd]
      refine ⟨by simp, ?_⟩
      refine M_ite h rfl (fun hb h => ?_) (fun hb h => ?_)
      · refine V_go 4 ?_
        dsimp only [e_narthexref11_Check, e_narthexref11_Check_L0, go_sem, Nat.reduceBEq, Nat.reduceAdd]
        refine ⟨by simp, ?_⟩
        exact M_done (res := fun (r : Bool) => .bv r) ok_narthexref11_Check (M_out h hout1) (by first | exact le_refl _ | simp [go_sem])
      · refine V_go 7 ?_
        dsimp only [e_narthexref11_Check, e_narthexref11_Check_L0, go_sem, Nat.reduceBEq, Nat.reduceAdd]
        refine ⟨by simp, ?_⟩
        exact M_back h hin1 (by simp [go_sem]) (by first | rfl | simp [go_sem])
    · refine V_go 1 ?_
      dsimp only [e_narthexref11_Check, e_narthexref11_Check_L0, go_sem, Nat.reduceBEq, Nat.reduceAdd]
      refine ⟨by simp, ?_⟩
      exact M_to J1 (s := ()) (M_out h hout1) (by simp [go_sem]) (by first | rfl | simp [go_sem])
def f_narthexref11_Check_j1 (F : Nat) (x1 : Graph) (x2 : (List Int)) : Unit → Option Bool
| () =>
 some (decide ((ln intRow x2) = x1.N))
theorem le_narthexref11_Check_j1 {F : Nat} {x1 : Graph} {x2 : (List Int)} : ∀ s, ole (f_narthexref11_Check_j1 F x1 x2 s) (m_narthexref11_Check_j1 x1 x2 s) := by
  rintro ⟨⟩
  unfold f_narthexref11_Check_j1 m_narthexref11_Check_j1
  try dsimp only
  repeat' first | with_reducible exact ole_refl _ | assumption | intro _ | with_reducible refine ole_ifb ?_ ?_ | with_reducible refine ole_bind ?_ ?_ | with_reducible refine ole_map ?_ | with_reducible refine ole_loop ?_
def f_narthexref11_Check_l1 (F : Nat) (x1 : Graph) (x2 : (List Int)) : Int → Option (Int ⊕ Bool)
| x5 =>
 ifb (decide (x5 < (ln intRow x2))) (
 (at_ x2 x5).bind fun x6 =>
 ifb (decide (x6 < 0)) (
 Option.map Sum.inr (some false)) (
 some (.inl (wr (x5 + 1))))) (
 Option.map Sum.inr ((f_narthexref11_Check_j1 F x1 x2) ()))
theorem le_narthexref11_Check_l1 {F : Nat} {x1 : Graph} {x2 : (List Int)} : ∀ s, ole (f_narthexref11_Check_l1 F x1 x2 s) (m_narthexref11_Check_l1 x1 x2 s) := by
  intro x5
  unfold f_narthexref11_Check_l1 m_narthexref11_Check_l1
  try dsimp only
  repeat' first | with_reducible exact ole_refl _ | assumption | intro _ | with_reducible refine ole_ifb ?_ ?_ | with_reducible refine ole_bind ?_ ?_ | with_reducible refine ole_map ?_ | with_reducible refine ole_loop ?_ | with_reducible apply le_narthexref11_Check_j1
def f_narthexref11_Check (F : Nat) (x1 : Graph) (x2 : (List Int)) : Option Bool :=
 loopF F (f_narthexref11_Check_l1 F x1 x2) 0
theorem le_narthexref11_Check {F : Nat} {x1 : Graph} {x2 : (List Int)} : ole (f_narthexref11_Check F x1 x2) (m_narthexref11_Check x1 x2) := by
  unfold f_narthexref11_Check m_narthexref11_Check
  repeat' first | with_reducible exact ole_refl _ | assumption | intro _ | with_reducible refine ole_ifb ?_ ?_ | with_reducible refine ole_bind ?_ ?_ | with_reducible refine ole_map ?_ | with_reducible refine ole_loop ?_ | with_reducible apply le_narthexref11_Check_j1 | with_reducible apply le_narthexref11_Check_l1
end NX
end Go.Proofs.Ytadebhbiglmodaa
/-
  The function narthex/narthexref01.Has: its code compiled, a model, and that the code answers as the model. Written by a program of ours (lb.py). No statement of the seat is proved here.
-/
namespace Go.Proofs.Ytadebhbiglmodaa
namespace NX
open Go
set_option maxRecDepth 100000
set_option maxHeartbeats 4000000
def e_narthexref01_Has_L0 : EC := .seq (.seq (.reg [⟨(some 6), none, .mv (.t 5)⟩, ⟨(some 7), none, .mv (.t 0)⟩, ⟨(some 8), none, .len (.t 7)⟩, ⟨(some 9), none, .bin .lss (.t 6) (.t 8)⟩]) (.ite (.t 9) (.skip) (.exit 0))) (.seq (.blk 1 (.seq (.reg [⟨(some 12), none, .mv (.t 0)⟩, ⟨(some 13), none, .mv (.t 5)⟩, ⟨(some 14), none, .idx 1 (.t 12) (.t 13)⟩, ⟨(some 15), none, .load (.t 14)⟩, ⟨(some 16), none, .mv (.t 1)⟩, ⟨(some 17), none, .bin .eql (.t 15) (.t 16)⟩]) (.ite (.t 17) (.seq (.reg [⟨(some 4), none, .mv (.c .tt)⟩]) (.ret)) (.skip)))) (.reg [⟨(some 10), none, .mv (.t 5)⟩, ⟨(some 11), none, .bin .add (.t 10) (.c (.iv 1))⟩, ⟨(some 5), none, .mv (.t 11)⟩]))
def e_narthexref01_Has : EC := .seq (.reg [⟨(some 4), none, .mv (.c .ff)⟩]) (.seq (.seq (.reg [⟨(some 5), none, .mv (.c (.iv 0))⟩]) (.blk 0 (.loop e_narthexref01_Has_L0))) (.seq (.reg [⟨(some 4), none, .mv (.c .ff)⟩]) (.ret)))
theorem ok_narthexref01_Has : FnOK Try.prog 54 Try.f54 e_narthexref01_Has [.t 4] 2 16 := ⟨by kernel_rfl, ⟨_, rfl, by kernel_rfl⟩, by kernel_rfl, by kernel_rfl⟩
/- narthex/narthexref01.Has -/
noncomputable def m_narthexref01_Has_j1  : Unit → Option Bool
| () =>
 some false
noncomputable def m_narthexref01_Has_l1 (x1 : (List Int)) (x2 : Int) : Int → Option (Int ⊕ Bool)
| x5 =>
 ifb (decide (x5 < (ln intRow x1))) (
 (at_ x1 x5).bind fun x6 =>
 ifb (decide (x6 = x2)) (
 Option.map Sum.inr (some true)) (
 some (.inl (wr (x5 + 1))))) (
 Option.map Sum.inr (m_narthexref01_Has_j1 ()))
noncomputable def m_narthexref01_Has (x1 : (List Int)) (x2 : Int) : Option Bool :=
 loop (m_narthexref01_Has_l1 x1 x2) 0
theorem k_narthexref01_Has (x1 : (List Int)) (x2 : Int) (r : Bool) (h : m_narthexref01_Has x1 x2 = some r) : FunP Try.prog 54 [.sl 1 (List.map intRow x1), .iv x2] (.bv r) := by
  refine FunP_intro ok_narthexref01_Has rfl rfl fun w0 H0 => ?_
  rw [m_narthexref01_Has] at h
  refine V_go 9 ?_
  dsimp only [e_narthexref01_Has, e_narthexref01_Has_L0, go_sem, Nat.reduceBEq, Nat.reduceAdd]
  refine ⟨by simp, ?_⟩
  refine V_join (fun (_ : Unit) => (⟨(an 18 []), [], []⟩ : St)) m_narthexref01_Has_j1 r ?_ fun J1 => ?_
  · rintro ⟨⟩ h
    rw [m_narthexref01_Has_j1] at h
    try dsimp only
    refine V_go 4 ?_
    dsimp only [e_narthexref01_Has, e_narthexref01_Has_L0, go_sem, Nat.reduceBEq, Nat.reduceAdd]
    refine ⟨by simp, ?_⟩
    exact M_done (res := fun (r : Bool) => .bv r) ok_narthexref01_Has h (by first | exact le_refl _ | simp [go_sem])
  · refine V_go 1 ?_
    dsimp only [e_narthexref01_Has, e_narthexref01_Has_L0, go_sem, Nat.reduceBEq, Nat.reduceAdd]
    refine ⟨by simp, ?_⟩
    refine M_loop h (fun (x5 : Int) => (⟨(.sl 1 (List.map intRow x1) :: .iv x2 :: an 3 (.iv x5 :: an 12 [])), [], []⟩ : St)) (by simp [go_sem]) (by intro x5; first | rfl | simp [go_sem]) ?_
    rintro n1 x5 y1 h hin1 hout1
    rw [m_narthexref01_Has_l1] at h
    try dsimp only
    refine V_go 8 ?_
    dsimp only [e_narthexref01_Has, e_narthexref01_Has_L0, go_sem, Nat.reduceBEq, Nat.reduceAdd]
    refine ⟨by simp, ?_⟩
    refine M_ite h rfl (fun hb h => ?_) (fun hb h => ?_)
    · refine V_go 7 ?_
      dsimp only [e_narthexref01_Has, e_narthexref01_Has_L0, go_sem, Nat.reduceBEq, Nat.reduceAdd]
      refine ⟨by simp, ?_⟩
      obtain ⟨x6, ex6, h⟩ := Option.bind_eq_some_iff.1 h
      refine V_idxM intRow ex6 trivial rfl rfl rfl ?_
      refine V_go 4 ?_
      dsimp only [e_narthexref01_Has, e_narthexref01_Has_L0, go_sem, Nat.reduceBEq, Nat.reduceAdd]
      refine ⟨by simp, ?_⟩
      refine M_ite h rfl (fun hb h => ?_) (fun hb h => ?_)
      · refine V_go 4 ?_
        dsimp only [e_narthexref01_Has, e_narthexref01_Has_L0, go_sem, Nat.reduceBEq, Nat.reduceAdd]
        refine ⟨by simp, ?_⟩
        exact M_done (res := fun (r : Bool) => .bv r) ok_narthexref01_Has (M_out h hout1) (by first | exact le_refl _ | simp [go_sem])
      · refine V_go 7 ?_
        dsimp only [e_narthexref01_Has, e_narthexref01_Has_L0, go_sem, Nat.reduceBEq, Nat.reduceAdd]
        refine ⟨by simp, ?_⟩
        exact M_back h hin1 (by simp [go_sem]) (by first | rfl | simp [go_sem])
    · refine V_go 1 ?_
      dsimp only [e_narthexref01_Has, e_narthexref01_Has_L0, go_sem, Nat.reduceBEq, Nat.reduceAdd]
      refine ⟨by simp, ?_⟩
      exact M_to J1 (s := ()) (M_out h hout1) (by simp [go_sem]) (by first | rfl | simp [go_sem])
def f_narthexref01_Has_j1 (F : Nat)  : Unit → Option Bool
| () =>
 some false
theorem le_narthexref01_Has_j1 {F : Nat} : ∀ s, ole (f_narthexref01_Has_j1 F s) (m_narthexref01_Has_j1 s) := by
  rintro ⟨⟩
  unfold f_narthexref01_Has_j1 m_narthexref01_Has_j1
  try dsimp only
  repeat' first | with_reducible exact ole_refl _ | assumption | intro _ | with_reducible refine ole_ifb ?_ ?_ | with_reducible refine ole_bind ?_ ?_ | with_reducible refine ole_map ?_ | with_reducible refine ole_loop ?_
def f_narthexref01_Has_l1 (F : Nat) (x1 : (List Int)) (x2 : Int) : Int → Option (Int ⊕ Bool)
| x5 =>
 ifb (decide (x5 < (ln intRow x1))) (
 (at_ x1 x5).bind fun x6 =>
 ifb (decide (x6 = x2)) (
 Option.map Sum.inr (some true)) (
 some (.inl (wr (x5 + 1))))) (
 Option.map Sum.inr (f_narthexref01_Has_j1 F ()))
theorem le_narthexref01_Has_l1 {F : Nat} {x1 : (List Int)} {x2 : Int} : ∀ s, ole (f_narthexref01_Has_l1 F x1 x2 s) (m_narthexref01_Has_l1 x1 x2 s) := by
  intro x5
  unfold f_narthexref01_Has_l1 m_narthexref01_Has_l1
  try dsimp only
  repeat' first | with_reducible exact ole_refl _ | assumption | intro _ | with_reducible refine ole_ifb ?_ ?_ | with_reducible refine ole_bind ?_ ?_ | with_reducible refine ole_map ?_ | with_reducible refine ole_loop ?_ | with_reducible apply le_narthexref01_Has_j1
def f_narthexref01_Has (F : Nat) (x1 : (List Int)) (x2 : Int) : Option Bool :=
 loopF F (f_narthexref01_Has_l1 F x1 x2) 0
theorem le_narthexref01_Has {F : Nat} {x1 : (List Int)} {x2 : Int} : ole (f_narthexref01_Has F x1 x2) (m_narthexref01_Has x1 x2) := by
  unfold f_narthexref01_Has m_narthexref01_Has
  repeat' first | with_reducible exact ole_refl _ | assumption | intro _ | with_reducible refine ole_ifb ?_ ?_ | with_reducible refine ole_bind ?_ ?_ | with_reducible refine ole_map ?_ | with_reducible refine ole_loop ?_ | with_reducible apply le_narthexref01_Has_j1 | with_reducible apply le_narthexref01_Has_l1
end NX
end Go.Proofs.Ytadebhbiglmodaa
/-
  The function narthex/narthexref11.Right: its code compiled, a model, and that the code answers as the model. Written by a program of ours (lb.py). No statement of the seat is proved here.
-/
namespace Go.Proofs.Ytadebhbiglmodaa
namespace NX
open Go
set_option maxRecDepth 100000
set_option maxHeartbeats 4000000
def e_narthexref11_Right_L0 : EC := .seq (.seq (.reg [⟨(some 19), none, .mv (.t 5)⟩, ⟨(some 20), none, .fld 1 (.t 2)⟩, ⟨(some 21), none, .load (.t 20)⟩, ⟨(some 22), none, .len (.t 21)⟩, ⟨(some 23), none, .bin .lss (.t 19) (.t 22)⟩]) (.ite (.t 23) (.skip) (.exit 0))) (.seq (.blk 1 (.seq (.drw [⟨(some 26), none, .mv (.t 1)⟩, ⟨(some 27), none, .fld 1 (.t 2)⟩, ⟨(some 28), none, .load (.t 27)⟩, ⟨(some 29), none, .mv (.t 5)⟩, ⟨(some 30), none, .idx 2 (.t 28) (.t 29)⟩, ⟨(some 31), none, .fld 0 (.t 30)⟩, ⟨(some 32), none, .load (.t 31)⟩, ⟨(some 33), none, .idx 1 (.t 26) (.t 32)⟩, ⟨(some 34), none, .load (.t 33)⟩, ⟨(some 35), none, .mv (.t 1)⟩, ⟨(some 36), none, .fld 1 (.t 2)⟩, ⟨(some 37), none, .load (.t 36)⟩, ⟨(some 38), none, .mv (.t 5)⟩, ⟨(some 39), none, .idx 2 (.t 37) (.t 38)⟩, ⟨(some 40), none, .fld 1 (.t 39)⟩, ⟨(some 41), none, .load (.t 40)⟩, ⟨(some 42), none, .idx 1 (.t 35) (.t 41)⟩, ⟨(some 43), none, .load (.t 42)⟩, ⟨(some 44), none, .bin .eql (.t 34) (.t 43)⟩] [[], [], [1], [], [2, 3], [4], [5], [0, 6], [7], [], [], [10], [], [11, 12], [13], [14], [9, 15], [16], [8, 17]] [[7], [2], [1, 4], [4], [2, 3, 5], [4, 6], [5, 7], [0, 6, 8], [7, 18], [16], [11], [10, 13], [13], [11, 12, 14], [13, 15], [14, 16], [9, 15, 17], [16, 18], [8, 17]]) (.ite (.t 44) (.seq (.reg [⟨(some 4), none, .mv (.c .ff)⟩]) (.ret)) (.skip)))) (.reg [⟨(some 24), none, .mv (.t 5)⟩, ⟨(some 25), none, .bin .add (.t 24) (.c (.iv 1))⟩, ⟨(some 5), none, .mv (.t 25)⟩]))
def e_narthexref11_Right : EC := .seq (.reg [⟨(some 2), none, .box 24 2 (.t 0)⟩, ⟨(some 4), none, .mv (.c .ff)⟩]) (.seq (.seq (.reg [⟨(some 6), none, .loadA 2 (.t 2)⟩, ⟨(some 7), none, .call 16 [(.t 6)]⟩, ⟨(some 8), none, .not (.t 7)⟩, ⟨(some 9), none, .mv (.t 8)⟩, ⟨(some 10), (some (9, false)), .loadA 2 (.t 2)⟩, ⟨(some 11), (some (9, false)), .mv (.t 1)⟩, ⟨(some 12), (some (9, false)), .call 53 [(.t 10), (.t 11)]⟩, ⟨(some 13), (some (9, false)), .not (.t 12)⟩, ⟨(some 14), none, .pick (.t 9) (.c .tt) (.t 13)⟩, ⟨(some 15), none, .mv (.t 14)⟩, ⟨(some 16), (some (15, false)), .mv (.t 1)⟩, ⟨(some 17), (some (15, false)), .call 54 [(.t 16), (.c (.iv 0))]⟩, ⟨(some 18), none, .pick (.t 15) (.c .tt) (.t 17)⟩]) (.ite (.t 18) (.seq (.reg [⟨(some 4), none, .mv (.c .ff)⟩]) (.ret)) (.skip))) (.seq (.seq (.reg [⟨(some 5), none, .mv (.c (.iv 0))⟩]) (.blk 0 (.loop e_narthexref11_Right_L0))) (.seq (.reg [⟨(some 4), none, .mv (.c .tt)⟩]) (.ret))))
theorem ok_narthexref11_Right : FnOK Try.prog 17 Try.f17 e_narthexref11_Right [.t 4] 2 43 := ⟨by kernel_rfl, ⟨_, rfl, by kernel_rfl⟩, by kernel_rfl, by kernel_rfl⟩
/- narthex/narthexref11.Right -/
noncomputable def m_narthexref11_Right_j2  : Unit → Option Bool
| () =>
 some true
noncomputable def m_narthexref11_Right_l1 (x1 : Graph) (x2 : (List Int)) : Int → Option (Int ⊕ Bool)
| x12 =>
 ifb (decide (x12 < (ln Edge.row x1.Edges))) (
 (at_ x1.Edges x12).bind fun x13 =>
 (at_ x2 x13.A).bind fun x14 =>
 (at_ x1.Edges x12).bind fun x15 =>
 (at_ x2 x15.B).bind fun x16 =>
 ifb (decide (x14 = x16)) (
 Option.map Sum.inr (some false)) (
 some (.inl (wr (x12 + 1))))) (
 Option.map Sum.inr (m_narthexref11_Right_j2 ()))
noncomputable def m_narthexref11_Right_j1 (x1 : Graph) (x2 : (List Int)) : Bool → Option Bool
| x6 =>
 ifb x6 (
 some false) (
 loop (m_narthexref11_Right_l1 x1 x2) 0)
noncomputable def m_narthexref11_Right (x1 : Graph) (x2 : (List Int)) : Option Bool :=
 (m_narthexref03_Check x1).bind fun x3 =>
 ifb (!x3) (
 (m_narthexref11_Right_j1 x1 x2) true) (
 (m_narthexref11_Check x1 x2).bind fun x4 =>
 ifb (!x4) (
 (m_narthexref11_Right_j1 x1 x2) true) (
 (m_narthexref01_Has x2 0).bind fun x5 =>
 (m_narthexref11_Right_j1 x1 x2) x5))
theorem k_narthexref11_Right (x1 : Graph) (x2 : (List Int)) (r : Bool) (h : m_narthexref11_Right x1 x2 = some r) : FunP Try.prog 17 [.agg (Graph.row x1), .sl 1 (List.map intRow x2)] (.bv r) := by
  refine FunP_intro ok_narthexref11_Right rfl rfl fun w0 H0 => ?_
  rw [m_narthexref11_Right] at h
  refine V_go 9 ?_
  dsimp only [e_narthexref11_Right, e_narthexref11_Right_L0, go_sem, Nat.reduceBEq, Nat.reduceAdd]
  refine ⟨by simp, ?_⟩
  obtain ⟨x3, ex3, h⟩ := Option.bind_eq_some_iff.1 h
  refine V_call trivial (k_narthexref03_Check x1 _ ex3) (by first | exact leL_refl _ | simp [go_sem]) (by first | rfl | simp [go_sem]) ?_
  refine V_go 2 ?_
  dsimp only [e_narthexref11_Right, e_narthexref11_Right_L0, go_sem, Nat.reduceBEq, Nat.reduceAdd]
  refine ⟨by simp, ?_⟩
  refine V_join (fun (x6 : Bool) => (⟨(.any :: .sl 1 (List.map intRow x2) :: .ptr 0 0 :: an 15 (.bv x6 :: an 26 [])), [some ⟨24, [.iv x1.N, .sl 2 (List.map Edge.row x1.Edges)]⟩], []⟩ : St)) (m_narthexref11_Right_j1 x1 x2) r ?_ fun J1 => ?_
  · intro x6 h
    rw [m_narthexref11_Right_j1] at h
    try dsimp only
    refine M_ite h rfl (fun hb h => ?_) (fun hb h => ?_)
    · refine V_go 4 ?_
      dsimp only [e_narthexref11_Right, e_narthexref11_Right_L0, go_sem, Nat.reduceBEq, Nat.reduceAdd]
      refine ⟨by simp, ?_⟩
      exact M_done (res := fun (r : Bool) => .bv r) ok_narthexref11_Right h (by first | exact le_refl _ | simp [go_sem])
    · refine V_go 6 ?_
      dsimp only [e_narthexref11_Right, e_narthexref11_Right_L0, go_sem, Nat.reduceBEq, Nat.reduceAdd]
      refine ⟨by simp, ?_⟩
      refine V_join (fun (_ : Unit) => (⟨(an 45 []), [], []⟩ : St)) m_narthexref11_Right_j2 r ?_ fun J2 => ?_
      · rintro ⟨⟩ h
        rw [m_narthexref11_Right_j2] at h
        try dsimp only
        refine V_go 4 ?_
        dsimp only [e_narthexref11_Right, e_narthexref11_Right_L0, go_sem, Nat.reduceBEq, Nat.reduceAdd]
        refine ⟨by simp, ?_⟩
        exact M_done (res := fun (r : Bool) => .bv r) ok_narthexref11_Right h (by first | exact le_refl _ | simp [go_sem])
      · refine V_go 1 ?_
        dsimp only [e_narthexref11_Right, e_narthexref11_Right_L0, go_sem, Nat.reduceBEq, Nat.reduceAdd]
        refine ⟨by simp, ?_⟩
        refine M_loop h (fun (x12 : Int) => (⟨(.any :: .sl 1 (List.map intRow x2) :: .ptr 0 0 :: .any :: .any :: .iv x12 :: an 39 []), [some ⟨24, [.iv x1.N, .sl 2 (List.map Edge.row x1.Edges)]⟩], []⟩ : St)) (by simp [go_sem]) (by intro x12; first | rfl | simp [go_sem]) ?_
        rintro n1 x12 y1 h hin1 hout1
        rw [m_narthexref11_Right_l1] at h
        try dsimp only
        refine V_go 9 ?_
        dsimp only [e_narthexref11_Right, e_narthexref11_Right_L0, go_sem, Nat.reduceBEq, Nat.reduceAdd]
        refine ⟨by simp, ?_⟩
        refine M_ite h rfl (fun hb h => ?_) (fun hb h => ?_)
        · refine V_go 4 ?_
          dsimp only [e_narthexref11_Right, e_narthexref11_Right_L0, go_sem, Nat.reduceBEq, Nat.reduceAdd]
          refine ⟨by simp, ?_⟩
          refine V_drw (by kernel_rfl) fun all hall hs hnap haf => ?_
          dsimp only [go_sem, Nat.reduceBEq, Nat.reduceAdd]
          refine G_goE hall hs haf hnap 8 11 [true, true, true, true, false, false, false, false, false, true, true, true, true, false, false, false, false, false, false] (⟨(.any :: .sl 1 (List.map intRow x2) :: .ptr 0 0 :: .any :: .any :: .iv x12 :: an 13 (.iv x12 :: .ptr 0 1 :: .sl 2 (List.map Edge.row x1.Edges) :: .iv (ln Edge.row x1.Edges) :: .bv (decide (x12 < (ln Edge.row x1.Edges))) :: .any :: .any :: .sl 1 (List.map intRow x2) :: .ptr 0 1 :: .sl 2 (List.map Edge.row x1.Edges) :: .iv x12 :: an 5 (.sl 1 (List.map intRow x2) :: .ptr 0 1 :: .sl 2 (List.map Edge.row x1.Edges) :: .iv x12 :: an 6 []))), [some ⟨24, [.iv x1.N, .sl 2 (List.map Edge.row x1.Edges)]⟩], []⟩ : St) (by kernel_rfl) ?_
          obtain ⟨x13, ex13, h⟩ := Option.bind_eq_some_iff.1 h
          refine G_idxM hall hs haf hnap 4 Edge.row ex13 rfl rfl trivial rfl rfl rfl rfl ?_
          refine G_goN hall hs haf hnap 2 8 ?_
          dsimp only [go_sem, Nat.reduceBEq, Nat.reduceAdd]
          refine ⟨by simp, ?_⟩
          obtain ⟨x14, ex14, h⟩ := Option.bind_eq_some_iff.1 h
          refine G_idxM hall hs haf hnap 7 intRow ex14 rfl rfl trivial rfl rfl rfl rfl ?_
          refine G_goN hall hs haf hnap 1 6 ?_
          dsimp only [go_sem, Nat.reduceBEq, Nat.reduceAdd]
          refine ⟨by simp, ?_⟩
          obtain ⟨x15, ex15, h⟩ := Option.bind_eq_some_iff.1 h
          refine G_idxM hall hs haf hnap 13 Edge.row ex15 rfl rfl trivial rfl rfl rfl rfl ?_
          refine G_goN hall hs haf hnap 2 3 ?_
          dsimp only [go_sem, Nat.reduceBEq, Nat.reduceAdd]
          refine ⟨by simp, ?_⟩
          obtain ⟨x16, ex16, h⟩ := Option.bind_eq_some_iff.1 h
          refine G_idxM hall hs haf hnap 16 intRow ex16 rfl rfl trivial rfl rfl rfl rfl ?_
          refine G_goN hall hs haf hnap 2 0 ?_
          dsimp only [go_sem, Nat.reduceBEq, Nat.reduceAdd]
          refine ⟨by simp, ?_⟩
          refine G_done rfl ?_ _
          refine M_ite h rfl (fun hb h => ?_) (fun hb h => ?_)
          · refine V_go 4 ?_
            dsimp only [e_narthexref11_Right, e_narthexref11_Right_L0, go_sem, Nat.reduceBEq, Nat.reduceAdd]
            refine ⟨by simp, ?_⟩
            exact M_done (res := fun (r : Bool) => .bv r) ok_narthexref11_Right (M_out h hout1) (by first | exact le_refl _ | simp [go_sem])
          · refine V_go 7 ?_
            dsimp only [e_narthexref11_Right, e_narthexref11_Right_L0, go_sem, Nat.reduceBEq, Nat.reduceAdd]
            refine ⟨by simp, ?_⟩
            exact M_back h hin1 (by simp [go_sem]) (by first | rfl | simp [go_sem])
        · refine V_go 1 ?_
          dsimp only [e_narthexref11_Right, e_narthexref11_Right_L0, go_sem, Nat.reduceBEq, Nat.reduceAdd]
          refine ⟨by simp, ?_⟩
          exact M_to J2 (s := ()) (M_out h hout1) (by simp [go_sem]) (by first | rfl | simp [go_sem])
  · refine M_case 9 h rfl (fun hb h => ?_) (fun hb h => ?_)
    · dsimp only [go_sem, Nat.reduceBEq, Nat.reduceAdd]
      refine V_go 10 ?_
      dsimp only [e_narthexref11_Right, e_narthexref11_Right_L0, go_sem, Nat.reduceBEq, Nat.reduceAdd]
      refine ⟨by simp, ?_⟩
      exact M_to J1 (s := true) h (by simp [go_sem]) (by first | rfl | simp [go_sem])
    · dsimp only [go_sem, Nat.reduceBEq, Nat.reduceAdd]
      refine V_go 2 ?_
      dsimp only [e_narthexref11_Right, e_narthexref11_Right_L0, go_sem, Nat.reduceBEq, Nat.reduceAdd]
      refine ⟨by simp, ?_⟩
      obtain ⟨x4, ex4, h⟩ := Option.bind_eq_some_iff.1 h
      refine V_call trivial (k_narthexref11_Check x1 x2 _ ex4) (by first | exact leL_refl _ | simp [go_sem]) (by first | rfl | simp [go_sem]) ?_
      refine V_go 3 ?_
      dsimp only [e_narthexref11_Right, e_narthexref11_Right_L0, go_sem, Nat.reduceBEq, Nat.reduceAdd]
      refine ⟨by simp, ?_⟩
      refine M_case 15 h rfl (fun hb h => ?_) (fun hb h => ?_)
      · dsimp only [go_sem, Nat.reduceBEq, Nat.reduceAdd]
        refine V_go 4 ?_
        dsimp only [e_narthexref11_Right, e_narthexref11_Right_L0, go_sem, Nat.reduceBEq, Nat.reduceAdd]
        refine ⟨by simp, ?_⟩
        exact M_to J1 (s := true) h (by simp [go_sem]) (by first | rfl | simp [go_sem])
      · dsimp only [go_sem, Nat.reduceBEq, Nat.reduceAdd]
        refine V_go 1 ?_
        dsimp only [e_narthexref11_Right, e_narthexref11_Right_L0, go_sem, Nat.reduceBEq, Nat.reduceAdd]
        refine ⟨by simp, ?_⟩
        obtain ⟨x5, ex5, h⟩ := Option.bind_eq_some_iff.1 h
        refine V_call trivial (k_narthexref01_Has x2 0 _ ex5) (by first | exact leL_refl _ | simp [go_sem]) (by first | rfl | simp [go_sem]) ?_
        refine V_go 2 ?_
        dsimp only [e_narthexref11_Right, e_narthexref11_Right_L0, go_sem, Nat.reduceBEq, Nat.reduceAdd]
        refine ⟨by simp, ?_⟩
        exact M_to J1 (s := x5) h (by simp [go_sem]) (by first | rfl | simp [go_sem])
def f_narthexref11_Right_j2 (F : Nat)  : Unit → Option Bool
| () =>
 some true
theorem le_narthexref11_Right_j2 {F : Nat} : ∀ s, ole (f_narthexref11_Right_j2 F s) (m_narthexref11_Right_j2 s) := by
  rintro ⟨⟩
  unfold f_narthexref11_Right_j2 m_narthexref11_Right_j2
  try dsimp only
  repeat' first | with_reducible exact ole_refl _ | assumption | intro _ | with_reducible refine ole_ifb ?_ ?_ | with_reducible refine ole_bind ?_ ?_ | with_reducible refine ole_map ?_ | with_reducible refine ole_loop ?_
def f_narthexref11_Right_l1 (F : Nat) (x1 : Graph) (x2 : (List Int)) : Int → Option (Int ⊕ Bool)
| x12 =>
 ifb (decide (x12 < (ln Edge.row x1.Edges))) (
 (at_ x1.Edges x12).bind fun x13 =>
 (at_ x2 x13.A).bind fun x14 =>
 (at_ x1.Edges x12).bind fun x15 =>
 (at_ x2 x15.B).bind fun x16 =>
 ifb (decide (x14 = x16)) (
 Option.map Sum.inr (some false)) (
 some (.inl (wr (x12 + 1))))) (
 Option.map Sum.inr (f_narthexref11_Right_j2 F ()))
theorem le_narthexref11_Right_l1 {F : Nat} {x1 : Graph} {x2 : (List Int)} : ∀ s, ole (f_narthexref11_Right_l1 F x1 x2 s) (m_narthexref11_Right_l1 x1 x2 s) := by
  intro x12
  unfold f_narthexref11_Right_l1 m_narthexref11_Right_l1
  try dsimp only
  repeat' first | with_reducible exact ole_refl _ | assumption | intro _ | with_reducible refine ole_ifb ?_ ?_ | with_reducible refine ole_bind ?_ ?_ | with_reducible refine ole_map ?_ | with_reducible refine ole_loop ?_ | with_reducible apply le_narthexref11_Right_j2
def f_narthexref11_Right_j1 (F : Nat) (x1 : Graph) (x2 : (List Int)) : Bool → Option Bool
| x6 =>
 ifb x6 (
 some false) (
 loopF F (f_narthexref11_Right_l1 F x1 x2) 0)
theorem le_narthexref11_Right_j1 {F : Nat} {x1 : Graph} {x2 : (List Int)} : ∀ s, ole (f_narthexref11_Right_j1 F x1 x2 s) (m_narthexref11_Right_j1 x1 x2 s) := by
  intro x6
  unfold f_narthexref11_Right_j1 m_narthexref11_Right_j1
  try dsimp only
  repeat' first | with_reducible exact ole_refl _ | assumption | intro _ | with_reducible refine ole_ifb ?_ ?_ | with_reducible refine ole_bind ?_ ?_ | with_reducible refine ole_map ?_ | with_reducible refine ole_loop ?_ | with_reducible apply le_narthexref11_Right_j2 | with_reducible apply le_narthexref11_Right_l1
def f_narthexref11_Right (F : Nat) (x1 : Graph) (x2 : (List Int)) : Option Bool :=
 (f_narthexref03_Check F x1).bind fun x3 =>
 ifb (!x3) (
 (f_narthexref11_Right_j1 F x1 x2) true) (
 (f_narthexref11_Check F x1 x2).bind fun x4 =>
 ifb (!x4) (
 (f_narthexref11_Right_j1 F x1 x2) true) (
 (f_narthexref01_Has F x2 0).bind fun x5 =>
 (f_narthexref11_Right_j1 F x1 x2) x5))
theorem le_narthexref11_Right {F : Nat} {x1 : Graph} {x2 : (List Int)} : ole (f_narthexref11_Right F x1 x2) (m_narthexref11_Right x1 x2) := by
  unfold f_narthexref11_Right m_narthexref11_Right
  repeat' first | with_reducible exact ole_refl _ | assumption | intro _ | with_reducible refine ole_ifb ?_ ?_ | with_reducible refine ole_bind ?_ ?_ | with_reducible refine ole_map ?_ | with_reducible refine ole_loop ?_ | with_reducible apply le_narthexref11_Right_j2 | with_reducible apply le_narthexref11_Right_l1 | with_reducible apply le_narthexref11_Right_j1 | with_reducible apply le_narthexref03_Check | with_reducible apply le_narthexref11_Check | with_reducible apply le_narthexref01_Has
end NX
end Go.Proofs.Ytadebhbiglmodaa
/-
  The function narthex/narthexref12.SameOne: its code compiled, a model, and that the code answers as the model. Written by a program of ours (lb.py). No statement of the seat is proved here.
-/
namespace Go.Proofs.Ytadebhbiglmodaa
namespace NX
open Go
set_option maxRecDepth 100000
set_option maxHeartbeats 4000000
def e_narthexref12_SameOne_L0 : EC := .seq (.seq (.reg [⟨(some 27), none, .mv (.t 5)⟩, ⟨(some 28), none, .fld 2 (.t 2)⟩, ⟨(some 29), none, .load (.t 28)⟩, ⟨(some 30), none, .len (.t 29)⟩, ⟨(some 31), none, .bin .lss (.t 27) (.t 30)⟩]) (.ite (.t 31) (.skip) (.exit 0))) (.seq (.blk 1 (.seq (.drw [⟨(some 34), none, .fld 2 (.t 2)⟩, ⟨(some 35), none, .load (.t 34)⟩, ⟨(some 36), none, .mv (.t 5)⟩, ⟨(some 37), none, .idx 8 (.t 35) (.t 36)⟩, ⟨(some 38), none, .loadA 8 (.t 37)⟩, ⟨(some 39), none, .fld 2 (.t 3)⟩, ⟨(some 40), none, .load (.t 39)⟩, ⟨(some 41), none, .mv (.t 5)⟩, ⟨(some 42), none, .idx 8 (.t 40) (.t 41)⟩, ⟨(some 43), none, .loadA 8 (.t 42)⟩, ⟨(some 44), none, .eqs true [true, true, true, false, false, false, false, false] (.t 38) (.t 43)⟩] [[], [0], [], [1, 2], [3], [], [5], [], [6, 7], [8], [4, 9]] [[1], [0, 3], [3], [1, 2, 4], [3, 10], [6], [5, 8], [8], [6, 7, 9], [8, 10], [4, 9]]) (.ite (.t 44) (.seq (.reg [⟨(some 4), none, .mv (.c .ff)⟩]) (.ret)) (.skip)))) (.reg [⟨(some 32), none, .mv (.t 5)⟩, ⟨(some 33), none, .bin .add (.t 32) (.c (.iv 1))⟩, ⟨(some 5), none, .mv (.t 33)⟩]))
def e_narthexref12_SameOne : EC := .seq (.reg [⟨(some 2), none, .box 39 3 (.t 0)⟩, ⟨(some 3), none, .box 39 3 (.t 1)⟩, ⟨(some 4), none, .mv (.c .ff)⟩]) (.seq (.seq (.reg [⟨(some 6), none, .fld 0 (.t 2)⟩, ⟨(some 7), none, .load (.t 6)⟩, ⟨(some 8), none, .fld 0 (.t 3)⟩, ⟨(some 9), none, .load (.t 8)⟩, ⟨(some 10), none, .bin .neq (.t 7) (.t 9)⟩, ⟨(some 11), none, .mv (.t 10)⟩, ⟨(some 12), (some (11, false)), .fld 1 (.t 2)⟩, ⟨(some 13), (some (11, false)), .load (.t 12)⟩, ⟨(some 14), (some (11, false)), .fld 1 (.t 3)⟩, ⟨(some 15), (some (11, false)), .load (.t 14)⟩, ⟨(some 16), (some (11, false)), .bin .neq (.t 13) (.t 15)⟩, ⟨(some 17), none, .pick (.t 11) (.c .tt) (.t 16)⟩, ⟨(some 18), none, .mv (.t 17)⟩, ⟨(some 19), (some (18, false)), .fld 2 (.t 2)⟩, ⟨(some 20), (some (18, false)), .load (.t 19)⟩, ⟨(some 21), (some (18, false)), .len (.t 20)⟩, ⟨(some 22), (some (18, false)), .fld 2 (.t 3)⟩, ⟨(some 23), (some (18, false)), .load (.t 22)⟩, ⟨(some 24), (some (18, false)), .len (.t 23)⟩, ⟨(some 25), (some (18, false)), .bin .neq (.t 21) (.t 24)⟩, ⟨(some 26), none, .pick (.t 18) (.c .tt) (.t 25)⟩]) (.ite (.t 26) (.seq (.reg [⟨(some 4), none, .mv (.c .ff)⟩]) (.ret)) (.skip))) (.seq (.seq (.reg [⟨(some 5), none, .mv (.c (.iv 0))⟩]) (.blk 0 (.loop e_narthexref12_SameOne_L0))) (.seq (.reg [⟨(some 4), none, .mv (.c .tt)⟩]) (.ret))))
theorem ok_narthexref12_SameOne : FnOK Try.prog 48 Try.f48 e_narthexref12_SameOne [.t 4] 2 43 := ⟨by kernel_rfl, ⟨_, rfl, by kernel_rfl⟩, by kernel_rfl, by kernel_rfl⟩
/- narthex/narthexref12.SameOne -/
noncomputable def m_narthexref12_SameOne_j2  : Unit → Option Bool
| () =>
 some true
noncomputable def m_narthexref12_SameOne_l1 (x1 : Diner) (x2 : Diner) : Int → Option (Int ⊕ Bool)
| x7 =>
 ifb (decide (x7 < (ln Side.row x1.Sides))) (
 (at_ x1.Sides x7).bind fun x8 =>
 (at_ x2.Sides x7).bind fun x9 =>
 ifb (!(decide (x8.Peer = x9.Peer) && (decide (x8.Epoch = x9.Epoch) && (decide (x8.State = x9.State) && ((x8.Fork == x9.Fork) && ((x8.Dirty == x9.Dirty) && ((x8.Token == x9.Token) && ((x8.Bottle == x9.Bottle) && ((x8.Ask == x9.Ask) && true))))))))) (
 Option.map Sum.inr (some false)) (
 some (.inl (wr (x7 + 1))))) (
 Option.map Sum.inr (m_narthexref12_SameOne_j2 ()))
noncomputable def m_narthexref12_SameOne_j1 (x1 : Diner) (x2 : Diner) : Bool → Option Bool
| x3 =>
 ifb x3 (
 some false) (
 loop (m_narthexref12_SameOne_l1 x1 x2) 0)
noncomputable def m_narthexref12_SameOne (x1 : Diner) (x2 : Diner) : Option Bool :=
 ifb (!decide (x1.ID = x2.ID)) (
 (m_narthexref12_SameOne_j1 x1 x2) true) (
 ifb (!decide (x1.Phase = x2.Phase)) (
 (m_narthexref12_SameOne_j1 x1 x2) true) (
 (m_narthexref12_SameOne_j1 x1 x2) (!decide ((ln Side.row x1.Sides) = (ln Side.row x2.Sides)))))
theorem k_narthexref12_SameOne (x1 : Diner) (x2 : Diner) (r : Bool) (h : m_narthexref12_SameOne x1 x2 = some r) : FunP Try.prog 48 [.agg (Diner.row x1), .agg (Diner.row x2)] (.bv r) := by
  refine FunP_intro ok_narthexref12_SameOne rfl rfl fun w0 H0 => ?_
  rw [m_narthexref12_SameOne] at h
  refine V_go 15 ?_
  dsimp only [e_narthexref12_SameOne, e_narthexref12_SameOne_L0, go_sem, Nat.reduceBEq, Nat.reduceAdd]
  refine ⟨by simp, ?_⟩
  refine V_join (fun (x3 : Bool) => (⟨(.any :: .any :: .ptr 0 0 :: .ptr 1 0 :: an 22 (.bv x3 :: an 18 [])), [some ⟨39, [.iv x1.ID, .iv x1.Phase, .sl 8 (List.map Side.row x1.Sides)]⟩, some ⟨39, [.iv x2.ID, .iv x2.Phase, .sl 8 (List.map Side.row x2.Sides)]⟩], []⟩ : St)) (m_narthexref12_SameOne_j1 x1 x2) r ?_ fun J1 => ?_
  · intro x3 h
    rw [m_narthexref12_SameOne_j1] at h
    try dsimp only
    refine M_ite h rfl (fun hb h => ?_) (fun hb h => ?_)
    · refine V_go 4 ?_
      dsimp only [e_narthexref12_SameOne, e_narthexref12_SameOne_L0, go_sem, Nat.reduceBEq, Nat.reduceAdd]
      refine ⟨by simp, ?_⟩
      exact M_done (res := fun (r : Bool) => .bv r) ok_narthexref12_SameOne h (by first | exact le_refl _ | simp [go_sem])
    · refine V_go 6 ?_
      dsimp only [e_narthexref12_SameOne, e_narthexref12_SameOne_L0, go_sem, Nat.reduceBEq, Nat.reduceAdd]
      refine ⟨by simp, ?_⟩
      refine V_join (fun (_ : Unit) => (⟨(an 45 []), [], []⟩ : St)) m_narthexref12_SameOne_j2 r ?_ fun J2 => ?_
      · rintro ⟨⟩ h
        rw [m_narthexref12_SameOne_j2] at h
        try dsimp only
        refine V_go 4 ?_
        dsimp only [e_narthexref12_SameOne, e_narthexref12_SameOne_L0, go_sem, Nat.reduceBEq, Nat.reduceAdd]
        refine ⟨by simp, ?_⟩
        exact M_done (res := fun (r : Bool) => .bv r) ok_narthexref12_SameOne h (by first | exact le_refl _ | simp [go_sem])
      · refine V_go 1 ?_
        dsimp only [e_narthexref12_SameOne, e_narthexref12_SameOne_L0, go_sem, Nat.reduceBEq, Nat.reduceAdd]
        refine ⟨by simp, ?_⟩
        refine M_loop h (fun (x7 : Int) => (⟨(.any :: .any :: .ptr 0 0 :: .ptr 1 0 :: .any :: .iv x7 :: an 39 []), [some ⟨39, [.iv x1.ID, .iv x1.Phase, .sl 8 (List.map Side.row x1.Sides)]⟩, some ⟨39, [.iv x2.ID, .iv x2.Phase, .sl 8 (List.map Side.row x2.Sides)]⟩], []⟩ : St)) (by simp [go_sem]) (by intro x7; first | rfl | simp [go_sem]) ?_
        rintro n1 x7 y1 h hin1 hout1
        rw [m_narthexref12_SameOne_l1] at h
        try dsimp only
        refine V_go 9 ?_
        dsimp only [e_narthexref12_SameOne, e_narthexref12_SameOne_L0, go_sem, Nat.reduceBEq, Nat.reduceAdd]
        refine ⟨by simp, ?_⟩
        refine M_ite h rfl (fun hb h => ?_) (fun hb h => ?_)
        · refine V_go 4 ?_
          dsimp only [e_narthexref12_SameOne, e_narthexref12_SameOne_L0, go_sem, Nat.reduceBEq, Nat.reduceAdd]
          refine ⟨by simp, ?_⟩
          refine V_drw (by kernel_rfl) fun all hall hs hnap haf => ?_
          dsimp only [go_sem, Nat.reduceBEq, Nat.reduceAdd]
          refine G_goE hall hs haf hnap 6 5 [true, true, true, false, false, true, true, true, false, false, false] (⟨(.any :: .any :: .ptr 0 0 :: .ptr 1 0 :: .any :: .iv x7 :: an 21 (.iv x7 :: .ptr 0 2 :: .sl 8 (List.map Side.row x1.Sides) :: .iv (ln Side.row x1.Sides) :: .bv (decide (x7 < (ln Side.row x1.Sides))) :: .any :: .any :: .ptr 0 2 :: .sl 8 (List.map Side.row x1.Sides) :: .iv x7 :: .any :: .any :: .ptr 1 2 :: .sl 8 (List.map Side.row x2.Sides) :: .iv x7 :: an 3 [])), [some ⟨39, [.iv x1.ID, .iv x1.Phase, .sl 8 (List.map Side.row x1.Sides)]⟩, some ⟨39, [.iv x2.ID, .iv x2.Phase, .sl 8 (List.map Side.row x2.Sides)]⟩], []⟩ : St) (by kernel_rfl) ?_
          obtain ⟨x8, ex8, h⟩ := Option.bind_eq_some_iff.1 h
          refine G_idxM hall hs haf hnap 3 Side.row ex8 rfl rfl trivial rfl rfl rfl rfl ?_
          refine G_goN hall hs haf hnap 1 3 ?_
          dsimp only [go_sem, Nat.reduceBEq, Nat.reduceAdd]
          refine ⟨by simp, ?_⟩
          obtain ⟨x9, ex9, h⟩ := Option.bind_eq_some_iff.1 h
          refine G_idxM hall hs haf hnap 8 Side.row ex9 rfl rfl trivial rfl rfl rfl rfl ?_
          refine G_goN hall hs haf hnap 2 0 ?_
          dsimp only [go_sem, Nat.reduceBEq, Nat.reduceAdd]
          refine ⟨by simp, ?_⟩
          refine G_done rfl ?_ _
          refine M_ite h rfl (fun hb h => ?_) (fun hb h => ?_)
          · refine V_go 4 ?_
            dsimp only [e_narthexref12_SameOne, e_narthexref12_SameOne_L0, go_sem, Nat.reduceBEq, Nat.reduceAdd]
            refine ⟨by simp, ?_⟩
            exact M_done (res := fun (r : Bool) => .bv r) ok_narthexref12_SameOne (M_out h hout1) (by first | exact le_refl _ | simp [go_sem])
          · refine V_go 7 ?_
            dsimp only [e_narthexref12_SameOne, e_narthexref12_SameOne_L0, go_sem, Nat.reduceBEq, Nat.reduceAdd]
            refine ⟨by simp, ?_⟩
            exact M_back h hin1 (by simp [go_sem]) (by first | rfl | simp [go_sem])
        · refine V_go 1 ?_
          dsimp only [e_narthexref12_SameOne, e_narthexref12_SameOne_L0, go_sem, Nat.reduceBEq, Nat.reduceAdd]
          refine ⟨by simp, ?_⟩
          exact M_to J2 (s := ()) (M_out h hout1) (by simp [go_sem]) (by first | rfl | simp [go_sem])
  · refine M_case 11 h rfl (fun hb h => ?_) (fun hb h => ?_)
    · dsimp only [go_sem, Nat.reduceBEq, Nat.reduceAdd]
      refine V_go 16 ?_
      dsimp only [e_narthexref12_SameOne, e_narthexref12_SameOne_L0, go_sem, Nat.reduceBEq, Nat.reduceAdd]
      refine ⟨by simp, ?_⟩
      exact M_to J1 (s := true) h (by simp [go_sem]) (by first | rfl | simp [go_sem])
    · dsimp only [go_sem, Nat.reduceBEq, Nat.reduceAdd]
      refine V_go 7 ?_
      dsimp only [e_narthexref12_SameOne, e_narthexref12_SameOne_L0, go_sem, Nat.reduceBEq, Nat.reduceAdd]
      refine ⟨by simp, ?_⟩
      refine M_case 18 h rfl (fun hb h => ?_) (fun hb h => ?_)
      · dsimp only [go_sem, Nat.reduceBEq, Nat.reduceAdd]
        refine V_go 9 ?_
        dsimp only [e_narthexref12_SameOne, e_narthexref12_SameOne_L0, go_sem, Nat.reduceBEq, Nat.reduceAdd]
        refine ⟨by simp, ?_⟩
        exact M_to J1 (s := true) h (by simp [go_sem]) (by first | rfl | simp [go_sem])
      · dsimp only [go_sem, Nat.reduceBEq, Nat.reduceAdd]
        refine V_go 9 ?_
        dsimp only [e_narthexref12_SameOne, e_narthexref12_SameOne_L0, go_sem, Nat.reduceBEq, Nat.reduceAdd]
        refine ⟨by simp, ?_⟩
        exact M_to J1 (s := !decide ((ln Side.row x1.Sides) = (ln Side.row x2.Sides))) h (by simp [go_sem]) (by first | rfl | simp [go_sem])
def f_narthexref12_SameOne_j2 (F : Nat)  : Unit → Option Bool
| () =>
 some true
theorem le_narthexref12_SameOne_j2 {F : Nat} : ∀ s, ole (f_narthexref12_SameOne_j2 F s) (m_narthexref12_SameOne_j2 s) := by
  rintro ⟨⟩
  unfold f_narthexref12_SameOne_j2 m_narthexref12_SameOne_j2
  try dsimp only
  repeat' first | with_reducible exact ole_refl _ | assumption | intro _ | with_reducible refine ole_ifb ?_ ?_ | with_reducible refine ole_bind ?_ ?_ | with_reducible refine ole_map ?_ | with_reducible refine ole_loop ?_
def f_narthexref12_SameOne_l1 (F : Nat) (x1 : Diner) (x2 : Diner) : Int → Option (Int ⊕ Bool)
| x7 =>
 ifb (decide (x7 < (ln Side.row x1.Sides))) (
 (at_ x1.Sides x7).bind fun x8 =>
 (at_ x2.Sides x7).bind fun x9 =>
 ifb (!(decide (x8.Peer = x9.Peer) && (decide (x8.Epoch = x9.Epoch) && (decide (x8.State = x9.State) && ((x8.Fork == x9.Fork) && ((x8.Dirty == x9.Dirty) && ((x8.Token == x9.Token) && ((x8.Bottle == x9.Bottle) && ((x8.Ask == x9.Ask) && true))))))))) (
 Option.map Sum.inr (some false)) (
 some (.inl (wr (x7 + 1))))) (
 Option.map Sum.inr (f_narthexref12_SameOne_j2 F ()))
theorem le_narthexref12_SameOne_l1 {F : Nat} {x1 : Diner} {x2 : Diner} : ∀ s, ole (f_narthexref12_SameOne_l1 F x1 x2 s) (m_narthexref12_SameOne_l1 x1 x2 s) := by
  intro x7
  unfold f_narthexref12_SameOne_l1 m_narthexref12_SameOne_l1
  try dsimp only
  repeat' first | with_reducible exact ole_refl _ | assumption | intro _ | with_reducible refine ole_ifb ?_ ?_ | with_reducible refine ole_bind ?_ ?_ | with_reducible refine ole_map ?_ | with_reducible refine ole_loop ?_ | with_reducible apply le_narthexref12_SameOne_j2
def f_narthexref12_SameOne_j1 (F : Nat) (x1 : Diner) (x2 : Diner) : Bool → Option Bool
| x3 =>
 ifb x3 (
 some false) (
 loopF F (f_narthexref12_SameOne_l1 F x1 x2) 0)
theorem le_narthexref12_SameOne_j1 {F : Nat} {x1 : Diner} {x2 : Diner} : ∀ s, ole (f_narthexref12_SameOne_j1 F x1 x2 s) (m_narthexref12_SameOne_j1 x1 x2 s) := by
  intro x3
  unfold f_narthexref12_SameOne_j1 m_narthexref12_SameOne_j1
  try dsimp only
  repeat' first | with_reducible exact ole_refl _ | assumption | intro _ | with_reducible refine ole_ifb ?_ ?_ | with_reducible refine ole_bind ?_ ?_ | with_reducible refine ole_map ?_ | with_reducible refine ole_loop ?_ | with_reducible apply le_narthexref12_SameOne_j2 | with_reducible apply le_narthexref12_SameOne_l1
def f_narthexref12_SameOne (F : Nat) (x1 : Diner) (x2 : Diner) : Option Bool :=
 ifb (!decide (x1.ID = x2.ID)) (
 (f_narthexref12_SameOne_j1 F x1 x2) true) (
 ifb (!decide (x1.Phase = x2.Phase)) (
 (f_narthexref12_SameOne_j1 F x1 x2) true) (
 (f_narthexref12_SameOne_j1 F x1 x2) (!decide ((ln Side.row x1.Sides) = (ln Side.row x2.Sides)))))
theorem le_narthexref12_SameOne {F : Nat} {x1 : Diner} {x2 : Diner} : ole (f_narthexref12_SameOne F x1 x2) (m_narthexref12_SameOne x1 x2) := by
  unfold f_narthexref12_SameOne m_narthexref12_SameOne
  repeat' first | with_reducible exact ole_refl _ | assumption | intro _ | with_reducible refine ole_ifb ?_ ?_ | with_reducible refine ole_bind ?_ ?_ | with_reducible refine ole_map ?_ | with_reducible refine ole_loop ?_ | with_reducible apply le_narthexref12_SameOne_j2 | with_reducible apply le_narthexref12_SameOne_l1 | with_reducible apply le_narthexref12_SameOne_j1
end NX
end Go.Proofs.Ytadebhbiglmodaa
/-
  The function narthex/narthexref12.Same: its code compiled, a model, and that the code answers as the model. Written by a program of ours (lb.py). No statement of the seat is proved here.
-/
namespace Go.Proofs.Ytadebhbiglmodaa
namespace NX
open Go
set_option maxRecDepth 100000
set_option maxHeartbeats 4000000
def e_narthexref12_Same_L0 : EC := .seq (.seq (.reg [⟨(some 11), none, .mv (.t 5)⟩, ⟨(some 12), none, .mv (.t 0)⟩, ⟨(some 13), none, .len (.t 12)⟩, ⟨(some 14), none, .bin .lss (.t 11) (.t 13)⟩]) (.ite (.t 14) (.skip) (.exit 0))) (.seq (.blk 1 (.seq (.drw [⟨(some 17), none, .mv (.t 0)⟩, ⟨(some 18), none, .mv (.t 5)⟩, ⟨(some 19), none, .idx 3 (.t 17) (.t 18)⟩, ⟨(some 20), none, .loadA 3 (.t 19)⟩, ⟨(some 21), none, .mv (.t 1)⟩, ⟨(some 22), none, .mv (.t 5)⟩, ⟨(some 23), none, .idx 3 (.t 21) (.t 22)⟩, ⟨(some 24), none, .loadA 3 (.t 23)⟩, ⟨(some 25), none, .call 48 [(.t 20), (.t 24)]⟩, ⟨(some 26), none, .not (.t 25)⟩] [[], [], [0, 1], [2], [], [], [4, 5], [6], [3, 7], [8]] [[2], [2], [0, 1, 3], [2, 8], [6], [6], [4, 5, 7], [6, 8], [3, 7, 9], [8]]) (.ite (.t 26) (.seq (.reg [⟨(some 4), none, .mv (.c .ff)⟩]) (.ret)) (.skip)))) (.reg [⟨(some 15), none, .mv (.t 5)⟩, ⟨(some 16), none, .bin .add (.t 15) (.c (.iv 1))⟩, ⟨(some 5), none, .mv (.t 16)⟩]))
def e_narthexref12_Same : EC := .seq (.reg [⟨(some 4), none, .mv (.c .ff)⟩]) (.seq (.seq (.reg [⟨(some 6), none, .mv (.t 0)⟩, ⟨(some 7), none, .len (.t 6)⟩, ⟨(some 8), none, .mv (.t 1)⟩, ⟨(some 9), none, .len (.t 8)⟩, ⟨(some 10), none, .bin .neq (.t 7) (.t 9)⟩]) (.ite (.t 10) (.seq (.reg [⟨(some 4), none, .mv (.c .ff)⟩]) (.ret)) (.skip))) (.seq (.seq (.reg [⟨(some 5), none, .mv (.c (.iv 0))⟩]) (.blk 0 (.loop e_narthexref12_Same_L0))) (.seq (.reg [⟨(some 4), none, .mv (.c .tt)⟩]) (.ret))))
theorem ok_narthexref12_Same : FnOK Try.prog 18 Try.f18 e_narthexref12_Same [.t 4] 2 25 := ⟨by kernel_rfl, ⟨_, rfl, by kernel_rfl⟩, by kernel_rfl, by kernel_rfl⟩
/- narthex/narthexref12.Same -/
noncomputable def m_narthexref12_Same_j1  : Unit → Option Bool
| () =>
 some true
noncomputable def m_narthexref12_Same_l1 (x1 : (List Diner)) (x2 : (List Diner)) : Int → Option (Int ⊕ Bool)
| x7 =>
 ifb (decide (x7 < (ln Diner.row x1))) (
 (at_ x1 x7).bind fun x8 =>
 (at_ x2 x7).bind fun x9 =>
 (m_narthexref12_SameOne x8 x9).bind fun x10 =>
 ifb (!x10) (
 Option.map Sum.inr (some false)) (
 some (.inl (wr (x7 + 1))))) (
 Option.map Sum.inr (m_narthexref12_Same_j1 ()))
noncomputable def m_narthexref12_Same (x1 : (List Diner)) (x2 : (List Diner)) : Option Bool :=
 ifb (!decide ((ln Diner.row x1) = (ln Diner.row x2))) (
 some false) (
 loop (m_narthexref12_Same_l1 x1 x2) 0)
theorem k_narthexref12_Same (x1 : (List Diner)) (x2 : (List Diner)) (r : Bool) (h : m_narthexref12_Same x1 x2 = some r) : FunP Try.prog 18 [.sl 3 (List.map Diner.row x1), .sl 3 (List.map Diner.row x2)] (.bv r) := by
  refine FunP_intro ok_narthexref12_Same rfl rfl fun w0 H0 => ?_
  rw [m_narthexref12_Same] at h
  refine V_go 13 ?_
  dsimp only [e_narthexref12_Same, e_narthexref12_Same_L0, go_sem, Nat.reduceBEq, Nat.reduceAdd]
  refine ⟨by simp, ?_⟩
  refine M_ite h rfl (fun hb h => ?_) (fun hb h => ?_)
  · refine V_go 4 ?_
    dsimp only [e_narthexref12_Same, e_narthexref12_Same_L0, go_sem, Nat.reduceBEq, Nat.reduceAdd]
    refine ⟨by simp, ?_⟩
    exact M_done (res := fun (r : Bool) => .bv r) ok_narthexref12_Same h (by first | exact le_refl _ | simp [go_sem])
  · refine V_go 6 ?_
    dsimp only [e_narthexref12_Same, e_narthexref12_Same_L0, go_sem, Nat.reduceBEq, Nat.reduceAdd]
    refine ⟨by simp, ?_⟩
    refine V_join (fun (_ : Unit) => (⟨(an 27 []), [], []⟩ : St)) m_narthexref12_Same_j1 r ?_ fun J1 => ?_
    · rintro ⟨⟩ h
      rw [m_narthexref12_Same_j1] at h
      try dsimp only
      refine V_go 4 ?_
      dsimp only [e_narthexref12_Same, e_narthexref12_Same_L0, go_sem, Nat.reduceBEq, Nat.reduceAdd]
      refine ⟨by simp, ?_⟩
      exact M_done (res := fun (r : Bool) => .bv r) ok_narthexref12_Same h (by first | exact le_refl _ | simp [go_sem])
    · refine V_go 1 ?_
      dsimp only [e_narthexref12_Same, e_narthexref12_Same_L0, go_sem, Nat.reduceBEq, Nat.reduceAdd]
      refine ⟨by simp, ?_⟩
      refine M_loop h (fun (x7 : Int) => (⟨(.sl 3 (List.map Diner.row x1) :: .sl 3 (List.map Diner.row x2) :: an 3 (.iv x7 :: an 21 [])), [], []⟩ : St)) (by simp [go_sem]) (by intro x7; first | rfl | simp [go_sem]) ?_
      rintro n1 x7 y1 h hin1 hout1
      rw [m_narthexref12_Same_l1] at h
      try dsimp only
      refine V_go 8 ?_
      dsimp only [e_narthexref12_Same, e_narthexref12_Same_L0, go_sem, Nat.reduceBEq, Nat.reduceAdd]
      refine ⟨by simp, ?_⟩
      refine M_ite h rfl (fun hb h => ?_) (fun hb h => ?_)
      · refine V_go 4 ?_
        dsimp only [e_narthexref12_Same, e_narthexref12_Same_L0, go_sem, Nat.reduceBEq, Nat.reduceAdd]
        refine ⟨by simp, ?_⟩
        refine V_drw (by kernel_rfl) fun all hall hs hnap haf => ?_
        dsimp only [go_sem, Nat.reduceBEq, Nat.reduceAdd]
        refine G_goN hall hs haf hnap 4 6 ?_
        dsimp only [go_sem, Nat.reduceBEq, Nat.reduceAdd]
        refine ⟨by simp, ?_⟩
        obtain ⟨x8, ex8, h⟩ := Option.bind_eq_some_iff.1 h
        refine G_idxM hall hs haf hnap 2 Diner.row ex8 rfl rfl trivial rfl rfl rfl rfl ?_
        refine G_goN hall hs haf hnap 1 4 ?_
        dsimp only [go_sem, Nat.reduceBEq, Nat.reduceAdd]
        refine ⟨by simp, ?_⟩
        obtain ⟨x9, ex9, h⟩ := Option.bind_eq_some_iff.1 h
        refine G_idxM hall hs haf hnap 6 Diner.row ex9 rfl rfl trivial rfl rfl rfl rfl ?_
        refine G_goN hall hs haf hnap 1 2 ?_
        dsimp only [go_sem, Nat.reduceBEq, Nat.reduceAdd]
        refine ⟨by simp, ?_⟩
        refine G_one 8 rfl ?_
        obtain ⟨x10, ex10, h⟩ := Option.bind_eq_some_iff.1 h
        refine GO_call hall rfl trivial (k_narthexref12_SameOne x8 x9 _ ex10) (by first | exact leL_refl _ | simp [go_sem]) (by first | rfl | simp [go_sem]) ?_
        dsimp only [go_sem, Nat.reduceBEq, Nat.reduceAdd]
        refine G_goN hall hs haf hnap 1 0 ?_
        dsimp only [go_sem, Nat.reduceBEq, Nat.reduceAdd]
        refine ⟨by simp, ?_⟩
        refine G_done rfl ?_ _
        refine M_ite h rfl (fun hb h => ?_) (fun hb h => ?_)
        · refine V_go 4 ?_
          dsimp only [e_narthexref12_Same, e_narthexref12_Same_L0, go_sem, Nat.reduceBEq, Nat.reduceAdd]
          refine ⟨by simp, ?_⟩
          exact M_done (res := fun (r : Bool) => .bv r) ok_narthexref12_Same (M_out h hout1) (by first | exact le_refl _ | simp [go_sem])
        · refine V_go 7 ?_
          dsimp only [e_narthexref12_Same, e_narthexref12_Same_L0, go_sem, Nat.reduceBEq, Nat.reduceAdd]
          refine ⟨by simp, ?_⟩
          exact M_back h hin1 (by simp [go_sem]) (by first | rfl | simp [go_sem])
      · refine V_go 1 ?_
        dsimp only [e_narthexref12_Same, e_narthexref12_Same_L0, go_sem, Nat.reduceBEq, Nat.reduceAdd]
        refine ⟨by simp, ?_⟩
        exact M_to J1 (s := ()) (M_out h hout1) (by simp [go_sem]) (by first | rfl | simp [go_sem])
def f_narthexref12_Same_j1 (F : Nat)  : Unit → Option Bool
| () =>
 some true
theorem le_narthexref12_Same_j1 {F : Nat} : ∀ s, ole (f_narthexref12_Same_j1 F s) (m_narthexref12_Same_j1 s) := by
  rintro ⟨⟩
  unfold f_narthexref12_Same_j1 m_narthexref12_Same_j1
  try dsimp only
  repeat' first | with_reducible exact ole_refl _ | assumption | intro _ | with_reducible refine ole_ifb ?_ ?_ | with_reducible refine ole_bind ?_ ?_ | with_reducible refine ole_map ?_ | with_reducible refine ole_loop ?_
def f_narthexref12_Same_l1 (F : Nat) (x1 : (List Diner)) (x2 : (List Diner)) : Int → Option (Int ⊕ Bool)
| x7 =>
 ifb (decide (x7 < (ln Diner.row x1))) (
 (at_ x1 x7).bind fun x8 =>
 (at_ x2 x7).bind fun x9 =>
 (f_narthexref12_SameOne F x8 x9).bind fun x10 =>
 ifb (!x10) (
 Option.map Sum.inr (some false)) (
 some (.inl (wr (x7 + 1))))) (
 Option.map Sum.inr (f_narthexref12_Same_j1 F ()))
theorem le_narthexref12_Same_l1 {F : Nat} {x1 : (List Diner)} {x2 : (List Diner)} : ∀ s, ole (f_narthexref12_Same_l1 F x1 x2 s) (m_narthexref12_Same_l1 x1 x2 s) := by
  intro x7
  unfold f_narthexref12_Same_l1 m_narthexref12_Same_l1
  try dsimp only
  repeat' first | with_reducible exact ole_refl _ | assumption | intro _ | with_reducible refine ole_ifb ?_ ?_ | with_reducible refine ole_bind ?_ ?_ | with_reducible refine ole_map ?_ | with_reducible refine ole_loop ?_ | with_reducible apply le_narthexref12_Same_j1 | with_reducible apply le_narthexref12_SameOne
def f_narthexref12_Same (F : Nat) (x1 : (List Diner)) (x2 : (List Diner)) : Option Bool :=
 ifb (!decide ((ln Diner.row x1) = (ln Diner.row x2))) (
 some false) (
 loopF F (f_narthexref12_Same_l1 F x1 x2) 0)
theorem le_narthexref12_Same {F : Nat} {x1 : (List Diner)} {x2 : (List Diner)} : ole (f_narthexref12_Same F x1 x2) (m_narthexref12_Same x1 x2) := by
  unfold f_narthexref12_Same m_narthexref12_Same
  repeat' first | with_reducible exact ole_refl _ | assumption | intro _ | with_reducible refine ole_ifb ?_ ?_ | with_reducible refine ole_bind ?_ ?_ | with_reducible refine ole_map ?_ | with_reducible refine ole_loop ?_ | with_reducible apply le_narthexref12_Same_j1 | with_reducible apply le_narthexref12_SameOne | with_reducible apply le_narthexref12_Same_l1
end NX
end Go.Proofs.Ytadebhbiglmodaa
/-
  Plain laws: Go's library over the program's data, and packages graph and colour. No statement of the seat is proved here.
-/
namespace Go.Proofs.Ytadebhbiglmodaa
namespace NX
open Go
theorem s_IndexFunc_Edge (l : List Edge) (p : Edge → Option Bool) (q : Edge → Bool) (hl : l.length ≤ 4000000000000000000) (hp : ∀ x ∈ l, p x = some (q x)) : m_slices_IndexFunc_Edge l p = some (plc (l.findIdx? q)) := by
  unfold m_slices_IndexFunc_Edge
  refine loop_place l _ q hl (fun k x hx => ?_) ?_
  · simp only [m_slices_IndexFunc_Edge_l1, lt_len hx, ifb_true, at_get hx, Option.bind_some, hp x (List.mem_iff_getElem?.2 ⟨k, hx⟩), wr_succ' hx hl]
    cases q x <;> rfl
  · simp only [m_slices_IndexFunc_Edge_l1, nlt_len, ifb_false, m_slices_IndexFunc_Edge_j1, Option.map_some]
theorem s_IndexFunc_int (l : List Int) (p : Int → Option Bool) (q : Int → Bool) (hl : l.length ≤ 4000000000000000000) (hp : ∀ x ∈ l, p x = some (q x)) : m_slices_IndexFunc_int l p = some (plc (l.findIdx? q)) := by
  unfold m_slices_IndexFunc_int
  refine loop_place l _ q hl (fun k x hx => ?_) ?_
  · simp only [m_slices_IndexFunc_int_l1, lt_len hx, ifb_true, at_get hx, Option.bind_some, hp x (List.mem_iff_getElem?.2 ⟨k, hx⟩), wr_succ' hx hl]
    cases q x <;> rfl
  · simp only [m_slices_IndexFunc_int_l1, nlt_len, ifb_false, m_slices_IndexFunc_int_j1, Option.map_some]
theorem s_IndexFunc_Side (l : List Side) (p : Side → Option Bool) (q : Side → Bool) (hl : l.length ≤ 4000000000000000000) (hp : ∀ x ∈ l, p x = some (q x)) : m_slices_IndexFunc_Side l p = some (plc (l.findIdx? q)) := by
  unfold m_slices_IndexFunc_Side
  refine loop_place l _ q hl (fun k x hx => ?_) ?_
  · simp only [m_slices_IndexFunc_Side_l1, lt_len hx, ifb_true, at_get hx, Option.bind_some, hp x (List.mem_iff_getElem?.2 ⟨k, hx⟩), wr_succ' hx hl]
    cases q x <;> rfl
  · simp only [m_slices_IndexFunc_Side_l1, nlt_len, ifb_false, m_slices_IndexFunc_Side_j1, Option.map_some]
theorem s_ContainsFunc_Edge (l : List Edge) (p : Edge → Option Bool) (q : Edge → Bool) (hl : l.length ≤ 4000000000000000000) (hp : ∀ x ∈ l, p x = some (q x)) : m_slices_ContainsFunc_Edge l p = some (l.any q) := by
  unfold m_slices_ContainsFunc_Edge
  rw [s_IndexFunc_Edge l p q hl hp, Option.bind_some, plc_nonneg, findIdx_any]
theorem s_ContainsFunc_int (l : List Int) (p : Int → Option Bool) (q : Int → Bool) (hl : l.length ≤ 4000000000000000000) (hp : ∀ x ∈ l, p x = some (q x)) : m_slices_ContainsFunc_int l p = some (l.any q) := by
  unfold m_slices_ContainsFunc_int
  rw [s_IndexFunc_int l p q hl hp, Option.bind_some, plc_nonneg, findIdx_any]
def cmpI (a b : Int) : Int := if a < b then -1 else if b < a then 1 else 0
theorem s_Compare (a b : Int) : m_cmp_Compare_int a b = some (cmpI a b) := by
  simp only [m_cmp_Compare_int, m_cmp_isNaN_int, Option.bind_some, cmpI]
  by_cases h1 : a < b <;> by_cases h2 : b < a <;> simp [h1, h2, ifb]
theorem s_Or (a b : Int) : m_cmp_Or_int [a, b] = some (if a ≠ 0 then a else b) := by
  unfold m_cmp_Or_int
  rw [loop_eq]
  simp only [m_cmp_Or_int_l1, ln_eq, List.length_cons, List.length_nil]
  by_cases ha : a = 0
  · subst ha
    simp [at_]
    rw [show wr 1 = 1 from wr_id (by omega) (by omega), loop_eq]
    simp only [m_cmp_Or_int_l1, ln_eq, List.length_cons, List.length_nil]
    by_cases hb : b = 0
    · subst hb
      simp [at_]
      rw [show wr 2 = 2 from wr_id (by omega) (by omega), loop_eq]
      simp [m_cmp_Or_int_l1, ln_eq, m_cmp_Or_int_j1]
    · simp [at_, hb]
  · simp [at_, ha]
/-- The order of edges. -/
def Edge.lt (x y : Edge) : Bool := decide (x.A < y.A) || (decide (x.A = y.A) && decide (x.B < y.B))
theorem s_rank (x y : Edge) : ∃ n, m_graph_rank x y = some n ∧ decide (0 ≤ n) = !x.lt y := by
  refine ⟨if cmpI x.A y.A ≠ 0 then cmpI x.A y.A else cmpI x.B y.B, by simp only [m_graph_rank, s_Compare, Option.bind_some, s_Or], ?_⟩
  unfold cmpI Edge.lt
  by_cases h1 : x.A < y.A
  · simp [h1]
  · by_cases h2 : y.A < x.A
    · have : x.A ≠ y.A := by omega
      simp [h1, h2, this]
    · have : x.A = y.A := by omega
      simp [this]
      by_cases h3 : x.B < y.B
      · simp [h3]
      · by_cases h4 : y.B < x.B <;> simp [h3, h4] <;> omega
def Edge.ok (n : Int) (e : Edge) : Bool := decide (0 ≤ e.A) && (decide (e.A < e.B) && decide (e.B < n))
/-- Each one lies ahead of the next one. -/
def risB : List Edge → Bool
  | x :: y :: l => x.lt y && risB (y :: l)
  | _ => true
theorem risB_iff (l : List Edge) : risB l = true ↔ ∀ k x y, l[k]? = some x → l[k + 1]? = some y → x.lt y = true := by
  induction l with
  | nil => simp [risB]
  | cons a l ih =>
    cases l with
    | nil => simp [risB]
    | cons b l =>
      simp only [risB, Bool.and_eq_true, ih]
      constructor
      · rintro ⟨h1, h2⟩ k x y hx hy
        cases k with
        | zero => simp at hx hy; subst hx; subst hy; exact h1
        | succ k => exact h2 k x y (by simpa using hx) (by simpa using hy)
      · intro h
        exact ⟨h 0 a b (by simp) (by simp), fun k x y hx hy => h (k + 1) x y (by simpa using hx) (by simpa using hy)⟩
/-- A graph that may be. -/
def okG (g : Graph) : Bool := decide (0 ≤ g.N) && (decide (g.N ≤ 64) && (decide (g.Edges.length ≤ 400) && (g.Edges.all (Edge.ok g.N) && risB g.Edges)))
theorem s_Check1 (e : Edge) (g : Graph) : m_graph_Check_1 e g = some (!e.ok g.N) := by
  simp only [m_graph_Check_1, m_graph_Check_1_j1, Edge.ok]
  by_cases h1 : e.A < 0
  · have : ¬ 0 ≤ e.A := by omega
    simp [h1, this]
  · have h1' : 0 ≤ e.A := by omega
    by_cases h2 : e.B ≤ e.A
    · have : ¬ e.A < e.B := by omega
      simp [h1, h2, this]
    · have h2' : e.A < e.B := by omega
      by_cases h3 : g.N ≤ e.B
      · have : ¬ e.B < g.N := by omega
        simp [h1, h2, h3, this]
      · have : e.B < g.N := by omega
        simp [h1, h2, h3, this, h1', h2']
/-- A loop that asks each one and the one ahead of it. -/
theorem loop_pairs {β : Type} (l : List Edge) (body : Int → Option (Int ⊕ β)) (yes no : β) (q : Edge → Bool) (hl : l.length ≤ 4000000000000000000)
    (hb : ∀ (k : Nat) x, l[k]? = some x → body k = some (if q x || (match k with | 0 => false | k + 1 => match l[k]? with | some y => !y.lt x | none => false) then .inr yes else .inl ((k + 1 : Nat) : Int))) (he : body l.length = some (.inr no)) :
    loop body 0 = some (if l.all (fun x => !q x) && risB l then no else yes) := by
  have key : ∀ m k, m + k = l.length → (∀ j x, j < k → l[j]? = some x → q x = false) → (∀ j x y, j + 1 < k → l[j]? = some x → l[j + 1]? = some y → x.lt y = true) → loop body (k : Int) = some (if l.all (fun x => !q x) && risB l then no else yes) := by
    intro m
    induction m with
    | zero =>
      intro k hk h1 h2
      have : k = l.length := by omega
      subst this
      rw [loop_eq, he]
      have a1 : l.all (fun x => !q x) = true := by
        rw [List.all_eq_true]
        intro x hx
        obtain ⟨j, hj⟩ := List.mem_iff_getElem?.1 hx
        simp [h1 j x (List.getElem?_eq_some_iff.1 hj).1 hj]
      have a2 : risB l = true := by
        rw [risB_iff]
        intro j x y hx hy
        exact h2 j x y (List.getElem?_eq_some_iff.1 hy).1 hx hy
      simp [a1, a2]
    | succ m ih =>
      intro k hk h1 h2
      have hlt : k < l.length := by omega
      have hx : l[k]? = some l[k] := List.getElem?_eq_getElem hlt
      rw [loop_eq, hb k _ hx]
      by_cases hq : q l[k] = true
      · have : l.all (fun x => !q x) = false := by
          rw [List.all_eq_false]
          exact ⟨l[k], List.getElem_mem hlt, by simp [hq]⟩
        simp [hq, this]
      · have hq : q l[k] = false := by simpa using hq
        cases k with
        | zero =>
          simp only [hq, Bool.or_false, Bool.false_eq_true, if_false]
          refine ih 1 (by omega) (fun j x hj hjx => ?_) (fun j x y hj => by omega)
          have : j = 0 := by omega
          subst this
          rw [hx] at hjx; simp at hjx; rw [← hjx]; exact hq
        | succ k =>
          have hy : l[k]? = some l[k] := List.getElem?_eq_getElem (by omega)
          simp only [hq, hy, Bool.false_or]
          by_cases hr : l[k].lt l[k + 1] = true
          · simp only [hr, Bool.not_true, Bool.false_eq_true, if_false]
            refine ih (k + 1 + 1) (by omega) (fun j x hj hjx => ?_) (fun j x y hj hjx hjy => ?_)
            · rcases Nat.lt_succ_iff_lt_or_eq.1 hj with h | rfl
              · exact h1 j x h hjx
              · rw [hx] at hjx; simp at hjx; rw [← hjx]; exact hq
            · rcases Nat.lt_succ_iff_lt_or_eq.1 (Nat.succ_lt_succ_iff.1 hj) with h | rfl
              · exact h2 j x y (by omega) hjx hjy
              · rw [hy] at hjx; rw [hx] at hjy; simp at hjx hjy; rw [← hjx, ← hjy]; exact hr
          · have hr : l[k].lt l[k + 1] = false := by simpa using hr
            have : risB l = false := by
              cases h : risB l with
              | false => rfl
              | true => rw [risB_iff] at h; have := h k _ _ hy hx; rw [hr] at this; exact absurd this (by simp)
            simp [hr, this]
  exact key l.length 0 (by omega) (fun j x hj => by omega) (fun j x y hj => by omega)
theorem wr_pred {k : Nat} (h : k ≤ 4000000000000000000) : wr (((k + 1 : Nat) : Int) - 1) = (k : Int) := by
  rw [wr_id (by omega) (by omega)]; omega
theorem s_Check (g : Graph) : m_graph_Check g = some (if okG g then 0 else 30) := by
  simp only [m_graph_Check, m_graph_Check_j1]
  by_cases h1 : g.N < 0
  · have : ¬ 0 ≤ g.N := by omega
    simp [h1, okG, this]
  by_cases h2 : 64 < g.N
  · have : ¬ g.N ≤ 64 := by omega
    simp [h1, h2, okG, this]
  by_cases h3 : 400 < g.Edges.length
  · have : ¬ g.Edges.length ≤ 400 := by omega
    have h3' : (400 : Int) < ln Edge.row g.Edges := by rw [ln_eq]; omega
    simp [h1, h2, h3', okG, this]
  have h3' : ¬ (400 : Int) < ln Edge.row g.Edges := by rw [ln_eq]; omega
  rw [s_ContainsFunc_Edge g.Edges _ (fun e => !e.ok g.N) (by omega) (fun x _ => s_Check1 x g)]
  have e1 : 0 ≤ g.N := by omega
  have e2 : g.N ≤ 64 := by omega
  have e3 : g.Edges.length ≤ 400 := by omega
  simp only [h1, h2, h3', decide_false, ifb_false, Option.bind_some, okG, e1, e2, e3, decide_true, Bool.true_and]
  by_cases h4 : g.Edges.any (fun e => !e.ok g.N) = true
  · have h5 : g.Edges.all (Edge.ok g.N) = false := by
      rw [List.any_eq_true] at h4
      obtain ⟨x, hx, hq⟩ := h4
      rw [List.all_eq_false]; exact ⟨x, hx, by simpa using hq⟩
    simp [h4, h5]
  · have h4 : g.Edges.any (fun e => !e.ok g.N) = false := by simpa using h4
    have h5 : g.Edges.all (Edge.ok g.N) = true := by
      rw [List.any_eq_false] at h4
      rw [List.all_eq_true]; intro x hx; simpa using h4 x hx
    simp only [h4, h5, ifb_false, Bool.true_and]
    have key := loop_pairs g.Edges (m_graph_Check_l1 g) 30 0 (fun _ => false) (by omega) (fun k x hx => by
      cases k with
      | zero =>
        have := lt_len (f := Edge.row) hx
        simp only [m_graph_Check_l1, this, ifb_true, m_graph_Check_j3]
        simp
        exact wr_succ' hx (by omega)
      | succ k =>
        have hk := (List.getElem?_eq_some_iff.1 hx).1
        have hy : g.Edges[k]? = some g.Edges[k] := List.getElem?_eq_getElem (by omega)
        obtain ⟨n, hn1, hn2⟩ := s_rank g.Edges[k] x
        have h0 : decide ((0 : Int) < ((k + 1 : Nat) : Int)) = true := decide_eq_true (by omega)
        simp only [m_graph_Check_l1, lt_len hx, ifb_true, h0, wr_pred (show k ≤ 4000000000000000000 by omega), at_get hy, at_get hx, Option.bind_some, hn1, hn2, m_graph_Check_j3, hy, Bool.false_or]
        cases g.Edges[k].lt x
        · simp
        · simp only [Bool.not_true, Bool.false_eq_true, if_false, ifb_false]; rw [wr_succ' hx (show g.Edges.length ≤ 4000000000000000000 by omega)])
      (by simp only [m_graph_Check_l1, nlt_len, ifb_false, m_graph_Check_j2, Option.map_some])
    rw [key]
    simp
end NX
end Go.Proofs.Ytadebhbiglmodaa
/-
  Plain laws: colours, and what the references say of graphs and nodes. No statement of the seat is proved here.
-/
namespace Go.Proofs.Ytadebhbiglmodaa
namespace NX
open Go
theorem okG_parts {g : Graph} (h : okG g = true) : 0 ≤ g.N ∧ g.N ≤ 64 ∧ g.Edges.length ≤ 400 ∧ (∀ e ∈ g.Edges, 0 ≤ e.A ∧ e.A < e.B ∧ e.B < g.N) ∧ risB g.Edges = true := by
  simp only [okG, Bool.and_eq_true, decide_eq_true_eq, List.all_eq_true, Edge.ok] at h
  exact ⟨h.1, h.2.1, h.2.2.1, fun e he => h.2.2.2.1 e he, h.2.2.2.2⟩
/-- A colour. -/
def cg (c : List Int) (i : Int) : Int := (c[i.toNat]?).getD 0
theorem at_cg {c : List Int} {i : Int} (h0 : 0 ≤ i) (h : i < c.length) : at_ c i = some (cg c i) := by
  obtain ⟨x, h1, h2⟩ := at_lt h0 h
  rw [h1, cg, h2]; rfl
/-- Colours of a graph. -/
def rightB (g : Graph) (c : List Int) : Bool := decide ((c.length : Int) = g.N) && (c.all (fun x => decide (1 ≤ x)) && g.Edges.all (fun e => !decide (cg c e.A = cg c e.B)))
theorem all_not_any {α : Type} (l : List α) (p : α → Bool) : l.all (fun x => !p x) = !l.any p := by
  induction l with
  | nil => rfl
  | cons x l ih => simp [ih]
theorem any_not_all {α : Type} (l : List α) (p q : α → Bool) (h : ∀ x, p x = !q x) : l.any p = !l.all q := by
  induction l with
  | nil => rfl
  | cons x l ih => simp [ih, h]
theorem s_Right (g : Graph) (c : List Int) (hc : c.length ≤ 1000000) : m_colour_Right g c = some (okG g && rightB g c) := by
  simp only [m_colour_Right, s_Check, Option.bind_some, ifb_not]
  cases hg : okG g with
  | false => simp [m_colour_Right_j1]
  | true =>
    obtain ⟨g1, g2, g3, g4, g5⟩ := okG_parts hg
    simp only [if_true, decide_true, ifb_true, Bool.true_and, ln_eq]
    by_cases hl : (c.length : Int) = g.N
    · rw [s_ContainsFunc_int c (fun z => m_colour_Right_1 z) (fun x => decide (x < 1)) (by omega) (fun x _ => rfl)]
      simp only [hl, decide_true, ifb_true, Option.bind_some, rightB, Bool.true_and]
      have e1 : c.any (fun x => decide (x < 1)) = !c.all (fun x => decide (1 ≤ x)) := any_not_all _ _ _ (fun x => by
        by_cases h : x < 1
        · have : ¬ 1 ≤ x := by omega
          simp [h, this]
        · have : 1 ≤ x := by omega
          simp [h, this])
      rw [e1]
      cases hp : c.all (fun x => decide (1 ≤ x)) with
      | false => simp [m_colour_Right_j1]
      | true =>
        simp only [Bool.not_true, m_colour_Right_j1, ifb_false]
        rw [s_ContainsFunc_Edge g.Edges _ (fun e => decide (cg c e.A = cg c e.B)) (by omega) (fun e he => by
          obtain ⟨k1, k2, k3⟩ := g4 e he
          simp only [m_colour_Right_2, at_cg (c := c) k1 (by omega), at_cg (c := c) (show 0 ≤ e.B by omega) (by omega), Option.bind_some])]
        simp [all_not_any]
    · simp [hl, rightB, m_colour_Right_j1]
/-! The references -/
theorem s_ahead (x y : Edge) : m_narthexref03_ahead x y = some (x.lt y) := by
  simp only [m_narthexref03_ahead, m_narthexref03_ahead_j1, Edge.lt]
  by_cases h1 : x.A < y.A
  · simp [h1]
  · by_cases h2 : x.A = y.A <;> simp [h1, h2]
theorem s_r03Check (g : Graph) : m_narthexref03_Check g = some (okG g) := by
  simp only [m_narthexref03_Check, m_narthexref03_Check_j1]
  by_cases h1 : g.N < 0
  · have : ¬ 0 ≤ g.N := by omega
    simp [h1, okG, this]
  by_cases h2 : 64 < g.N
  · have : ¬ g.N ≤ 64 := by omega
    simp [h1, h2, okG, this]
  by_cases h3 : 400 < g.Edges.length
  · have : ¬ g.Edges.length ≤ 400 := by omega
    have h3' : (400 : Int) < ln Edge.row g.Edges := by rw [ln_eq]; omega
    simp [h1, h2, h3', okG, this]
  have h3' : ¬ (400 : Int) < ln Edge.row g.Edges := by rw [ln_eq]; omega
  have e1 : 0 ≤ g.N := by omega
  have e2 : g.N ≤ 64 := by omega
  have e3 : g.Edges.length ≤ 400 := by omega
  simp only [h1, h2, h3', decide_false, ifb_false, okG, e1, e2, e3, decide_true, Bool.true_and]
  have key := loop_pairs g.Edges (m_narthexref03_Check_l1 g) false true (fun e => !e.ok g.N) (by omega) (fun k x hx => by
    have hw : wr ((k : Int) + 1) = ((k + 1 : Nat) : Int) := wr_succ' hx (by omega)
    simp only [m_narthexref03_Check_l1, lt_len hx, ifb_true, at_get hx, Option.bind_some, m_narthexref03_Check_j3, hw, Edge.ok]
    by_cases k1 : x.A < 0
    · have : ¬ 0 ≤ x.A := by omega
      simp [k1, this]
    · have k1' : 0 ≤ x.A := by omega
      by_cases k2 : x.B ≤ x.A
      · have : ¬ x.A < x.B := by omega
        simp [k1, k2, this]
      · have k2' : x.A < x.B := by omega
        by_cases k3 : g.N ≤ x.B
        · have : ¬ x.B < g.N := by omega
          simp [k1, k2, k3, this]
        · have k3' : x.B < g.N := by omega
          simp only [k1, k2, k3, k1', k2', k3', decide_false, decide_true, ifb_false, Bool.and_self, Bool.not_true, Bool.false_or]
          cases k with
          | zero => simp
          | succ k =>
            have hk := (List.getElem?_eq_some_iff.1 hx).1
            have hy : g.Edges[k]? = some g.Edges[k] := List.getElem?_eq_getElem (by omega)
            have h0 : decide ((0 : Int) < ((k + 1 : Nat) : Int)) = true := decide_eq_true (by omega)
            simp only [h0, ifb_true, wr_pred (show k ≤ 4000000000000000000 by omega), at_get hy, hy, Option.bind_some, s_ahead]
            cases g.Edges[k].lt x <;> simp)
    (by simp only [m_narthexref03_Check_l1, nlt_len, ifb_false, m_narthexref03_Check_j2, Option.map_some])
  rw [key]
  have : g.Edges.all (fun x => !!Edge.ok g.N x) = g.Edges.all (Edge.ok g.N) := by simp
  rw [this]
  cases g.Edges.all (Edge.ok g.N) && risB g.Edges <;> rfl
theorem s_r11Check (g : Graph) (c : List Int) (hc : c.length ≤ 1000000) : m_narthexref11_Check g c = some (decide ((c.length : Int) = g.N) && c.all (fun x => decide (0 ≤ x))) := by
  unfold m_narthexref11_Check
  rw [loop_any c (m_narthexref11_Check_l1 g c) (fun x => decide (x < 0)) false (decide ((c.length : Int) = g.N)) (by omega) (fun k x hx => by
    have hw : wr ((k : Int) + 1) = ((k + 1 : Nat) : Int) := wr_succ' hx (by omega)
    simp only [m_narthexref11_Check_l1, lt_len hx, ifb_true, at_get hx, Option.bind_some, hw]
    by_cases h : x < 0 <;> simp [h])
    (by simp only [m_narthexref11_Check_l1, nlt_len, ifb_false, m_narthexref11_Check_j1, Option.map_some]; rw [ln_eq])]
  have e1 : c.any (fun x => decide (x < 0)) = !c.all (fun x => decide (0 ≤ x)) := any_not_all _ _ _ (fun x => by
    by_cases h : x < 0
    · have : ¬ 0 ≤ x := by omega
      simp [h, this]
    · have : 0 ≤ x := by omega
      simp [h, this])
  rw [e1]
  cases c.all (fun x => decide (0 ≤ x)) <;> simp
theorem s_r01Has (l : List Int) (x : Int) (hl : l.length ≤ 1000000) : m_narthexref01_Has l x = some (decide (x ∈ l)) := by
  unfold m_narthexref01_Has
  rw [loop_any l (m_narthexref01_Has_l1 l x) (fun y => decide (y = x)) true false (by omega) (fun k y hy => by
    have hw : wr ((k : Int) + 1) = ((k + 1 : Nat) : Int) := wr_succ' hy (by omega)
    simp only [m_narthexref01_Has_l1, lt_len hy, ifb_true, at_get hy, Option.bind_some, hw]
    by_cases h : y = x <;> simp [h])
    (by simp only [m_narthexref01_Has_l1, nlt_len, ifb_false, m_narthexref01_Has_j1, Option.map_some])]
  by_cases h : x ∈ l
  · have : l.any (fun y => decide (y = x)) = true := by rw [List.any_eq_true]; exact ⟨x, h, by simp⟩
    simp [this, h]
  · have : l.any (fun y => decide (y = x)) = false := by
      rw [List.any_eq_false]; intro y hy; simp; rintro rfl; exact h hy
    simp [this, h]
theorem s_r11Right (g : Graph) (c : List Int) (hc : c.length ≤ 1000000) : m_narthexref11_Right g c = some (okG g && rightB g c) := by
  simp only [m_narthexref11_Right, s_r03Check, Option.bind_some, ifb_not]
  cases hg : okG g with
  | false => simp [m_narthexref11_Right_j1]
  | true =>
    obtain ⟨g1, g2, g3, g4, g5⟩ := okG_parts hg
    rw [s_r11Check g c hc, s_r01Has c 0 hc]
    simp only [ifb_true, Option.bind_some, Bool.true_and, rightB]
    by_cases hl : (c.length : Int) = g.N
    · simp only [hl, decide_true, Bool.true_and]
      cases h0 : c.all (fun x => decide (0 ≤ x)) with
      | false =>
        have : c.all (fun x => decide (1 ≤ x)) = false := by
          rw [List.all_eq_false] at h0 ⊢
          obtain ⟨x, hx, h⟩ := h0
          exact ⟨x, hx, by simp at h ⊢; omega⟩
        simp [m_narthexref11_Right_j1, this]
      | true =>
        simp only [ifb_true, m_narthexref11_Right_j1]
        have h0' : ∀ x ∈ c, 0 ≤ x := by rw [List.all_eq_true] at h0; intro x hx; simpa using h0 x hx
        by_cases hz : (0 : Int) ∈ c
        · have : c.all (fun x => decide (1 ≤ x)) = false := by
            rw [List.all_eq_false]; exact ⟨0, hz, by simp⟩
          simp [hz, this]
        · have : c.all (fun x => decide (1 ≤ x)) = true := by
            rw [List.all_eq_true]; intro x hx
            have := h0' x hx
            have : x ≠ 0 := by rintro rfl; exact hz hx
            simp; omega
          simp only [hz, decide_false, ifb_false, this, Bool.true_and]
          rw [loop_any g.Edges (m_narthexref11_Right_l1 g c) (fun e => decide (cg c e.A = cg c e.B)) false true (by omega) (fun k e he => by
            have hw : wr ((k : Int) + 1) = ((k + 1 : Nat) : Int) := wr_succ' he (by omega)
            obtain ⟨k1, k2, k3⟩ := g4 e (List.mem_iff_getElem?.2 ⟨k, he⟩)
            simp only [m_narthexref11_Right_l1, lt_len he, ifb_true, at_get he, Option.bind_some, at_cg (c := c) k1 (by omega), at_cg (c := c) (show 0 ≤ e.B by omega) (by omega), hw]
            by_cases h : cg c e.A = cg c e.B <;> simp [h])
            (by simp only [m_narthexref11_Right_l1, nlt_len, ifb_false, m_narthexref11_Right_j2, Option.map_some])]
          rw [all_not_any]
          cases g.Edges.any (fun e => decide (cg c e.A = cg c e.B)) <;> rfl
    · simp [hl, m_narthexref11_Right_j1]
/-- Is there an edge between two nodes? -/
def hasB (g : Graph) (a b : Int) : Bool := g.Edges.any fun e => (decide (e.A = a) && (decide (e.B = b) && decide (a ≤ b))) || (decide (e.A = b) && (decide (e.B = a) && decide (b < a)))
theorem s_r03Has (g : Graph) (a b : Int) (hl : g.Edges.length ≤ 1000000) : m_narthexref03_Has g a b = some (hasB g a b) := by
  unfold m_narthexref03_Has hasB
  rw [loop_any g.Edges (m_narthexref03_Has_l1 g a b) (fun e => (decide (e.A = a) && (decide (e.B = b) && decide (a ≤ b))) || (decide (e.A = b) && (decide (e.B = a) && decide (b < a)))) true false (by omega) (fun k e he => by
    have hw : wr ((k : Int) + 1) = ((k + 1 : Nat) : Int) := wr_succ' he (by omega)
    simp only [m_narthexref03_Has_l1, lt_len he, ifb_true, at_get he, Option.bind_some, m_narthexref03_Has_j2, hw]
    generalize decide (e.A = a) = p1; generalize decide (e.B = b) = p2; generalize decide (a ≤ b) = p3; generalize decide (e.A = b) = p4; generalize decide (e.B = a) = p5; generalize decide (b < a) = p6
    cases p1 <;> cases p2 <;> cases p3 <;> cases p4 <;> cases p5 <;> cases p6 <;> rfl)
    (by simp only [m_narthexref03_Has_l1, nlt_len, ifb_false, m_narthexref03_Has_j1, Option.map_some])]
  generalize List.any _ _ = p
  cases p <;> rfl
end NX
end Go.Proofs.Ytadebhbiglmodaa
/-
  The symbolic machine: own slices of integers, sorted by the library. No statement of the seat is proved here.
-/
namespace Go.Proofs.Ytadebhbiglmodaa
namespace NX
open Go Go.RowKit

section
variable {c : Ctx} {M : Mem} {S S' : St} {a : Act} {w : World} {fn : Func} {K : AV → List (Option Blk) → List (Option Sl) → Prop} {k : List It} {bs : List (Option Blk)} {ss : List (Option Sl)}
theorem isLL_ints {M : Mem} {zs : List Int} {vss : List (List Value)} (h : AV.isLL M 1 (zs.map intRow) vss) : vss.flatten = zs.map (Value.int .i64) := by
  induction zs generalizing vss with
  | nil => simp [AV.isLL] at h; subst h; rfl
  | cons z zs ih =>
    obtain ⟨v, r, rfl, h1, h2, h3⟩ := h
    obtain ⟨u, q, rfl, h4, h5⟩ := h2
    simp only [AV.isL] at h5
    simp only [AV.is] at h4
    subst h5; subst h4
    simp [ih h3]
theorem ints_isLL {M : Mem} : ∀ (zs : List Int), ∃ vss, AV.isLL M 1 (zs.map intRow) vss ∧ vss.flatten = zs.map (Value.int .i64)
  | [] => ⟨[], rfl, rfl⟩
  | z :: zs => by
    obtain ⟨vss, h1, h2⟩ := ints_isLL (M := M) zs
    exact ⟨[.int .i64 z] :: vss, ⟨_, _, rfl, rfl, ⟨_, _, rfl, rfl, rfl⟩, h1⟩, by simp [h2]⟩
/-- An own slice of integers is sorted by the library. -/
theorem sem_sort {ρ : Shelf.Ren} (Ly : Lays.n189 c.P ρ) {j T : Nat} {x : X} {zs : List Int} (hx : S.x x = .osl j) (hj : oget S.ss j = some ⟨T, 1, zs.map intRow⟩) (hlen : zs.length < 4611686018427387904) :
    Sem1 c S (.call (ρ.f 189) [x]) (.tup []) ⟨S.tm, S.bs, oput S.ss j (some ⟨T, 1, (zs.mergeSort fun x y => decide (x ≤ y)).map intRow⟩)⟩ := by
  intro ro ho M a w hT next Q hn
  obtain ⟨dst, op, ty, pos, af, gd⟩ := ro
  dsimp only at ho
  obtain ⟨cargs, argTypes, rfl, hfn, hxs⟩ := cO_call ho
  obtain ⟨q, rfl⟩ : ∃ q, cargs = #[q] := by
    have : cargs.toList.length = 1 := by have := congrArg List.length hxs; simpa using this
    obtain ⟨l⟩ := cargs
    match l, this with
    | [q], _ => exact ⟨q, rfl⟩
  have hqx : cX q = x := by simpa using hxs
  have hq := X_is hT q
  rw [hqx, hx] at hq
  obtain ⟨hjn, hq⟩ := hq
  obtain ⟨g0, vss, h1, h2, h3, h4⟩ := hT.st.slc j _ hj
  dsimp only at h1 h3 g0
  have hfl := isLL_ints h1
  have hrun : (execOp a.eval ⟨dst, .call ⟨.value (.func (ρ.f 189)), #[q], argTypes⟩, ty, pos, af, gd⟩).run c.P w = .ok (.enter (ρ.f 189) (#[q].map a.eval)) w := by
    have he : a.eval (.func (ρ.f 189)) = .func (.func (ρ.f 189)) #[] #[] := rfl
    generalize a.eval = ρ' at *
    simp [execOp, resolve, Deferred.ofValue, invoke, he, callFunc_run hfn]
  have e1 : (#[q].map a.eval) = #[M.σ j] := by
    apply Array.ext'; simp; exact hq
  rw [e1] at hrun
  unfold Oper.wp
  rw [hrun]
  show Calls c.P (ρ.f 189) #[M.σ j] w _
  obtain ⟨rs, hr1, hr2⟩ := ints_isLL (M := M.pure) (zs.mergeSort fun x y => decide (x ≤ y))
  have hone : ∀ v ∈ rs.flatten, v.oneCell' = true := by
    rw [hr2]; intro v hv
    obtain ⟨z, _, rfl⟩ := List.mem_map.1 hv; rfl
  have hl2 : (zs.mergeSort fun x y => decide (x ≤ y)).length = zs.length := by simp
  rcases h3.2 with ⟨e2, e3⟩ | ⟨g, cap, cur, e2, hb, e3, e4, e5, e6, e7⟩
  · have hz : zs = [] := by simpa using e3
    subst hz
    rw [e2]
    refine (Any.slices_Sort_int_none Ly none 0 w).mono ?_
    rintro e w' ⟨rfl, rfl⟩
    refine hn M _ _ (.refl M) ?_ ⟨[], rfl, rfl⟩
    have : oput S.ss j (some (⟨T, 1, ([].mergeSort fun (x y : Int) => decide (x ≤ y)).map intRow⟩ : Sl)) = S.ss := by
      have hj' := hj
      simp only [List.map_nil] at hj'
      have : ∀ (l : List (Option Sl)) (j : Nat) (L : Sl), oget l j = some L → oput l j (some L) = l := by
        intro l
        induction l with
        | nil => intro j L h; simp [oget] at h
        | cons x l ih => intro j L h; cases j with
          | zero => simp [oget] at h; subst h; rfl
          | succ j => simp only [oput]; rw [ih j L (by simpa [oget] using h)]
      simpa using this _ _ _ hj'
    rw [this]; exact hT.st
  · have e4' : zs.length ≤ cap := by simpa using e4
    rw [e2]
    simp only [List.length_map]
    rw [Nat.mul_one, List.length_map] at e7
    rw [hfl] at e7
    refine (Any.slices_Sort_int Ly g 0 cap zs w (holds_of_blockI e3 e7) (Array.getElem?_eq_some_iff.1 e3).1 hlen).mono ?_
    rintro e w' ⟨rfl, n, os, rfl⟩
    refine hn M _ _ (.refl M) ?_ ⟨[], rfl, rfl⟩
    refine hT.st.rewrite hj (g := g) (by rw [e2]; rfl) (grownBy_sortedI _) (vss' := rs) hr1 hone ?_
    rw [hr2, List.length_map, hl2, e2, List.length_map]
    exact ownsRow_sortedI (ss := zs) hl2 hb e3 e4' e5 e6
theorem V_sort {ρ : Shelf.Ren} (Ly : Lays.n189 c.P ρ) {d : Option Nat} {g : Option (Nat × Bool)} {l : List EOp} {j T f : Nat} {x : X} (zs : List Int) (hg : gm S g) (hf : f = ρ.f 189) (hx : S.x x = .osl j) (hj : oget S.ss j = some ⟨T, 1, zs.map intRow⟩) (hlen : zs.length < 4611686018427387904)
    (h : V c fn K (.ops l :: k) ((⟨S.tm, S.bs, oput S.ss j (some ⟨T, 1, (zs.mergeSort fun x y => decide (x ≤ y)).map intRow⟩)⟩ : St).put d (.tup []))) : V c fn K (.ops (⟨d, g, .call f [x]⟩ :: l) :: k) S := by
  subst hf
  exact V_sem hg (sem_sort Ly hx hj hlen) rfl h

end
end NX
end Go.Proofs.Ytadebhbiglmodaa
/-
  The function slices.Clone[[]int,int]: its code compiled, a model, and that the code answers as the model. Written by a program of ours (lb.py). No statement of the seat is proved here.
-/
namespace Go.Proofs.Ytadebhbiglmodaa
namespace NX
open Go
set_option maxRecDepth 100000
set_option maxHeartbeats 4000000
def e_slices_Clone_int : EC := .seq (.reg [⟨(some 2), none, .mv (.c .nl)⟩]) (.seq (.seq (.reg [⟨(some 3), none, .mv (.t 0)⟩, ⟨(some 4), none, .isnil false (.t 3)⟩]) (.ite (.t 4) (.seq (.reg [⟨(some 2), none, .mv (.c .nl)⟩]) (.ret)) (.skip))) (.seq (.reg [⟨(some 5), none, .bsl 3 1 0 [.iv 0] []⟩, ⟨(some 6), none, .mv (.t 0)⟩, ⟨(some 7), none, .app 3 1 8 (.t 5) (.t 6)⟩, ⟨(some 2), none, .mv (.t 7)⟩]) (.ret)))
theorem ok_slices_Clone_int : FnOK Try.prog 89 Try.f89 e_slices_Clone_int [.t 2] 1 7 := ⟨by kernel_rfl, ⟨_, rfl, by kernel_rfl⟩, by kernel_rfl, by kernel_rfl⟩
/- slices.Clone[[]int,int] -/
noncomputable def m_slices_Clone_int (x1 : (List Int)) : Option (List Int) := app_ 8 [] x1
theorem o_slices_Clone_int (x1 : (List Int)) (r : (List Int)) (h : m_slices_Clone_int x1 = some r) : FunO Try.prog 89 [.sl 1 (List.map intRow x1)] 3 1 (List.map intRow r) := by
  refine FunO_intro ok_slices_Clone_int rfl fun w0 H0 => ?_
  rw [m_slices_Clone_int] at h
  refine V_go 100 ?_
  dsimp only [e_slices_Clone_int, go_sem, Nat.reduceBEq, Nat.reduceAdd]
  refine ⟨by simp, ?_⟩
  refine V_isnil trivial rfl (fun hn => ?_) ?_
  · refine V_go 100 ?_
    dsimp only [go_sem, Nat.reduceBEq, Nat.reduceAdd]
    refine ⟨by simp, ?_⟩
    refine V_own 2 3 1 rfl rfl ?_
    dsimp only [go_sem, Nat.reduceBEq, Nat.reduceAdd]
    have hn : x1 = [] := by simpa using hn
    subst hn
    exact O_doneM intRow (e := []) ok_slices_Clone_int (by simpa [app_] using h) rfl rfl
  · refine V_go 100 ?_
    dsimp only [go_sem, Nat.reduceBEq, Nat.reduceAdd]
    refine ⟨by simp, ?_⟩
    refine V_appM intRow h trivial rfl rfl rfl ?_
    refine V_go 100 ?_
    dsimp only [go_sem, Nat.reduceBEq, Nat.reduceAdd]
    refine ⟨by simp, ?_⟩
    exact O_doneM intRow ok_slices_Clone_int (rfl : some r = some r) rfl rfl
theorem k_slices_Clone_int (x1 : (List Int)) (r : (List Int)) (h : m_slices_Clone_int x1 = some r) : FunP Try.prog 89 [.sl 1 (List.map intRow x1)] (.sl 1 (List.map intRow r)) := (o_slices_Clone_int x1 r h).sealed
def f_slices_Clone_int (F : Nat) (x1 : (List Int)) : Option (List Int) := app_ 8 [] x1
theorem le_slices_Clone_int {F : Nat} {x1 : (List Int)} : ole (f_slices_Clone_int F x1) (m_slices_Clone_int x1) := ole_refl _
end NX
end Go.Proofs.Ytadebhbiglmodaa
/-
  The function slices.Compact[[]int,int]: its code compiled, a model, and that the code answers as the model. Written by a program of ours (lb.py). No statement of the seat is proved here.
-/
namespace Go.Proofs.Ytadebhbiglmodaa
namespace NX
open Go
set_option maxRecDepth 100000
set_option maxHeartbeats 4000000
def e_slices_Compact_int_L1 : EC := .seq (.seq (.reg [⟨(some 29), none, .mv (.t 5)⟩, ⟨(some 30), none, .mv (.t 4)⟩, ⟨(some 31), none, .len (.t 30)⟩, ⟨(some 32), none, .bin .lss (.t 29) (.t 31)⟩]) (.ite (.t 32) (.skip) (.exit 2))) (.seq (.blk 3 (.seq (.drw [⟨(some 35), none, .mv (.t 4)⟩, ⟨(some 36), none, .mv (.t 5)⟩, ⟨(some 37), none, .idx 1 (.t 35) (.t 36)⟩, ⟨(some 38), none, .load (.t 37)⟩, ⟨(some 39), none, .mv (.t 4)⟩, ⟨(some 40), none, .mv (.t 5)⟩, ⟨(some 41), none, .bin .sub (.t 40) (.c (.iv 1))⟩, ⟨(some 42), none, .idx 1 (.t 39) (.t 41)⟩, ⟨(some 43), none, .load (.t 42)⟩, ⟨(some 44), none, .bin .neq (.t 38) (.t 43)⟩] [[], [], [0, 1], [2], [], [], [5], [4, 6], [7], [3, 8]] [[2], [2], [0, 1, 3], [2, 9], [7], [6], [5, 7], [4, 6, 8], [7, 9], [3, 8]]) (.ite (.t 44) (.seq (.reg [⟨(some 45), none, .mv (.t 0)⟩, ⟨(some 46), none, .mv (.t 3)⟩, ⟨(some 47), none, .mv (.t 4)⟩, ⟨(some 48), none, .mv (.t 5)⟩, ⟨(some 49), none, .idx 1 (.t 47) (.t 48)⟩, ⟨(some 50), none, .load (.t 49)⟩, ⟨(some 51), none, .idx 1 (.t 45) (.t 46)⟩, ⟨none, none, .store 1 (.t 51) (.t 50)⟩]) (.reg [⟨(some 52), none, .mv (.t 3)⟩, ⟨(some 53), none, .bin .add (.t 52) (.c (.iv 1))⟩, ⟨(some 3), none, .mv (.t 53)⟩])) (.skip)))) (.reg [⟨(some 33), none, .mv (.t 5)⟩, ⟨(some 34), none, .bin .add (.t 33) (.c (.iv 1))⟩, ⟨(some 5), none, .mv (.t 34)⟩]))
def e_slices_Compact_int_L0 : EC := .seq (.seq (.reg [⟨(some 10), none, .mv (.t 3)⟩, ⟨(some 11), none, .mv (.t 0)⟩, ⟨(some 12), none, .len (.t 11)⟩, ⟨(some 13), none, .bin .lss (.t 10) (.t 12)⟩]) (.ite (.t 13) (.skip) (.exit 0))) (.seq (.blk 1 (.seq (.drw [⟨(some 16), none, .mv (.t 0)⟩, ⟨(some 17), none, .mv (.t 3)⟩, ⟨(some 18), none, .idx 1 (.t 16) (.t 17)⟩, ⟨(some 19), none, .load (.t 18)⟩, ⟨(some 20), none, .mv (.t 0)⟩, ⟨(some 21), none, .mv (.t 3)⟩, ⟨(some 22), none, .bin .sub (.t 21) (.c (.iv 1))⟩, ⟨(some 23), none, .idx 1 (.t 20) (.t 22)⟩, ⟨(some 24), none, .load (.t 23)⟩, ⟨(some 25), none, .bin .eql (.t 19) (.t 24)⟩] [[], [], [0, 1], [2], [], [], [5], [4, 6], [7], [3, 8]] [[2], [2], [0, 1, 3], [2, 9], [7], [6], [5, 7], [4, 6, 8], [7, 9], [3, 8]]) (.ite (.t 25) (.seq (.reg [⟨(some 26), none, .mv (.t 0)⟩, ⟨(some 27), none, .mv (.t 3)⟩, ⟨(some 28), none, .slice 1 (.t 26) (some (.t 27)) none⟩, ⟨(some 4), none, .mv (.t 28)⟩]) (.seq (.seq (.reg [⟨(some 5), none, .mv (.c (.iv 1))⟩]) (.blk 2 (.loop e_slices_Compact_int_L1))) (.seq (.reg [⟨(some 54), none, .mv (.t 0)⟩, ⟨(some 55), none, .mv (.t 3)⟩, ⟨(some 56), none, .slice 1 (.t 54) (some (.t 55)) none⟩, ⟨none, none, .bad⟩]) (.seq (.reg [⟨(some 57), none, .mv (.t 0)⟩, ⟨(some 58), none, .mv (.t 3)⟩, ⟨(some 59), none, .slice 1 (.t 57) none (some (.t 58))⟩, ⟨(some 2), none, .mv (.t 59)⟩]) (.ret))))) (.skip)))) (.reg [⟨(some 14), none, .mv (.t 3)⟩, ⟨(some 15), none, .bin .add (.t 14) (.c (.iv 1))⟩, ⟨(some 3), none, .mv (.t 15)⟩]))
def e_slices_Compact_int : EC := .seq (.reg [⟨(some 2), none, .mv (.c .nl)⟩]) (.seq (.seq (.reg [⟨(some 6), none, .mv (.t 0)⟩, ⟨(some 7), none, .len (.t 6)⟩, ⟨(some 8), none, .bin .lss (.t 7) (.c (.iv 2))⟩]) (.ite (.t 8) (.seq (.reg [⟨(some 9), none, .mv (.t 0)⟩, ⟨(some 2), none, .mv (.t 9)⟩]) (.ret)) (.skip))) (.seq (.seq (.reg [⟨(some 3), none, .mv (.c (.iv 1))⟩]) (.blk 0 (.loop e_slices_Compact_int_L0))) (.seq (.reg [⟨(some 60), none, .mv (.t 0)⟩, ⟨(some 2), none, .mv (.t 60)⟩]) (.ret))))
theorem ok_slices_Compact_int : FnOK Try.prog 113 Try.f113 e_slices_Compact_int [.t 2] 1 60 := ⟨by kernel_rfl, ⟨_, rfl, by kernel_rfl⟩, by kernel_rfl, by kernel_rfl⟩
/- slices.Compact[[]int,int] -/
noncomputable def m_slices_Compact_int_j1 (x1 : (List Int)) : Unit → Option (List Int)
| () =>
 some x1
noncomputable def m_slices_Compact_int_l1 (x1 : (List Int)) : Int → Option (Int ⊕ (List Int))
| x21 =>
 ifb (decide (x21 < (ln intRow x1))) (
 (at_ x1 x21).bind fun x22 =>
 (at_ x1 (wr (x21 - 1))).bind fun x23 =>
 ifb (decide (x22 = x23)) (
 none) (
 some (.inl (wr (x21 + 1))))) (
 Option.map Sum.inr ((m_slices_Compact_int_j1 x1) ()))
noncomputable def m_slices_Compact_int (x1 : (List Int)) : Option (List Int) :=
 ifb (decide ((ln intRow x1) < 2)) (
 some x1) (
 loop (m_slices_Compact_int_l1 x1) 1)
theorem k_slices_Compact_int (x1 : (List Int)) (r : (List Int)) (h : m_slices_Compact_int x1 = some r) : FunP Try.prog 113 [.sl 1 (List.map intRow x1)] (.sl 1 (List.map intRow r)) := by
  refine FunP_intro ok_slices_Compact_int rfl rfl fun w0 H0 => ?_
  rw [m_slices_Compact_int] at h
  refine V_go 11 ?_
  dsimp only [e_slices_Compact_int, e_slices_Compact_int_L0, e_slices_Compact_int_L1, go_sem, Nat.reduceBEq, Nat.reduceAdd]
  refine ⟨by simp, ?_⟩
  refine M_ite h rfl (fun hb h => ?_) (fun hb h => ?_)
  · refine V_go 5 ?_
    dsimp only [e_slices_Compact_int, e_slices_Compact_int_L0, e_slices_Compact_int_L1, go_sem, Nat.reduceBEq, Nat.reduceAdd]
    refine ⟨by simp, ?_⟩
    exact M_done (res := fun (r : (List Int)) => .sl 1 (List.map intRow r)) ok_slices_Compact_int h (by first | exact le_refl _ | simp [go_sem])
  · refine V_go 6 ?_
    dsimp only [e_slices_Compact_int, e_slices_Compact_int_L0, e_slices_Compact_int_L1, go_sem, Nat.reduceBEq, Nat.reduceAdd]
    refine ⟨by simp, ?_⟩
    refine V_join (fun (_ : Unit) => (⟨(.sl 1 (List.map intRow x1) :: an 60 []), [], []⟩ : St)) (m_slices_Compact_int_j1 x1) r ?_ fun J1 => ?_
    · rintro ⟨⟩ h
      rw [m_slices_Compact_int_j1] at h
      try dsimp only
      refine V_go 5 ?_
      dsimp only [e_slices_Compact_int, e_slices_Compact_int_L0, e_slices_Compact_int_L1, go_sem, Nat.reduceBEq, Nat.reduceAdd]
      refine ⟨by simp, ?_⟩
      exact M_done (res := fun (r : (List Int)) => .sl 1 (List.map intRow r)) ok_slices_Compact_int h (by first | exact le_refl _ | simp [go_sem])
    · refine V_go 1 ?_
      dsimp only [e_slices_Compact_int, e_slices_Compact_int_L0, e_slices_Compact_int_L1, go_sem, Nat.reduceBEq, Nat.reduceAdd]
      refine ⟨by simp, ?_⟩
      refine M_loop h (fun (x21 : Int) => (⟨(.sl 1 (List.map intRow x1) :: .any :: .any :: .iv x21 :: an 57 []), [], []⟩ : St)) (by simp [go_sem]) (by intro x21; first | rfl | simp [go_sem]) ?_
      rintro n1 x21 y1 h hin1 hout1
      rw [m_slices_Compact_int_l1] at h
      try dsimp only
      refine V_go 8 ?_
      dsimp only [e_slices_Compact_int, e_slices_Compact_int_L0, e_slices_Compact_int_L1, go_sem, Nat.reduceBEq, Nat.reduceAdd]
      refine ⟨by simp, ?_⟩
      refine M_ite h rfl (fun hb h => ?_) (fun hb h => ?_)
      · refine V_go 4 ?_
        dsimp only [e_slices_Compact_int, e_slices_Compact_int_L0, e_slices_Compact_int_L1, go_sem, Nat.reduceBEq, Nat.reduceAdd]
        refine ⟨by simp, ?_⟩
        refine V_drw (by kernel_rfl) fun all hall hs hnap haf => ?_
        dsimp only [go_sem, Nat.reduceBEq, Nat.reduceAdd]
        refine G_goN hall hs haf hnap 5 5 ?_
        dsimp only [go_sem, Nat.reduceBEq, Nat.reduceAdd]
        refine ⟨by simp, ?_⟩
        obtain ⟨x22, ex22, h⟩ := Option.bind_eq_some_iff.1 h
        refine G_idxM hall hs haf hnap 2 intRow ex22 rfl rfl trivial rfl rfl rfl rfl ?_
        refine G_goN hall hs haf hnap 1 3 ?_
        dsimp only [go_sem, Nat.reduceBEq, Nat.reduceAdd]
        refine ⟨by simp, ?_⟩
        obtain ⟨x23, ex23, h⟩ := Option.bind_eq_some_iff.1 h
        refine G_idxM hall hs haf hnap 7 intRow ex23 rfl rfl trivial rfl rfl rfl rfl ?_
        refine G_goN hall hs haf hnap 2 0 ?_
        dsimp only [go_sem, Nat.reduceBEq, Nat.reduceAdd]
        refine ⟨by simp, ?_⟩
        refine G_done rfl ?_ _
        refine M_ite h rfl (fun hb h => ?_) (fun hb h => ?_)
        · cases h
        · refine V_go 7 ?_
          dsimp only [e_slices_Compact_int, e_slices_Compact_int_L0, e_slices_Compact_int_L1, go_sem, Nat.reduceBEq, Nat.reduceAdd]
          refine ⟨by simp, ?_⟩
          exact M_back h hin1 (by simp [go_sem]) (by first | rfl | simp [go_sem])
      · refine V_go 1 ?_
        dsimp only [e_slices_Compact_int, e_slices_Compact_int_L0, e_slices_Compact_int_L1, go_sem, Nat.reduceBEq, Nat.reduceAdd]
        refine ⟨by simp, ?_⟩
        exact M_to J1 (s := ()) (M_out h hout1) (by simp [go_sem]) (by first | rfl | simp [go_sem])
def f_slices_Compact_int_j1 (F : Nat) (x1 : (List Int)) : Unit → Option (List Int)
| () =>
 some x1
theorem le_slices_Compact_int_j1 {F : Nat} {x1 : (List Int)} : ∀ s, ole (f_slices_Compact_int_j1 F x1 s) (m_slices_Compact_int_j1 x1 s) := by
  rintro ⟨⟩
  unfold f_slices_Compact_int_j1 m_slices_Compact_int_j1
  try dsimp only
  repeat' first | with_reducible exact ole_refl _ | assumption | intro _ | with_reducible refine ole_ifb ?_ ?_ | with_reducible refine ole_bind ?_ ?_ | with_reducible refine ole_map ?_ | with_reducible refine ole_loop ?_
def f_slices_Compact_int_l1 (F : Nat) (x1 : (List Int)) : Int → Option (Int ⊕ (List Int))
| x21 =>
 ifb (decide (x21 < (ln intRow x1))) (
 (at_ x1 x21).bind fun x22 =>
 (at_ x1 (wr (x21 - 1))).bind fun x23 =>
 ifb (decide (x22 = x23)) (
 none) (
 some (.inl (wr (x21 + 1))))) (
 Option.map Sum.inr ((f_slices_Compact_int_j1 F x1) ()))
theorem le_slices_Compact_int_l1 {F : Nat} {x1 : (List Int)} : ∀ s, ole (f_slices_Compact_int_l1 F x1 s) (m_slices_Compact_int_l1 x1 s) := by
  intro x21
  unfold f_slices_Compact_int_l1 m_slices_Compact_int_l1
  try dsimp only
  repeat' first | with_reducible exact ole_refl _ | assumption | intro _ | with_reducible refine ole_ifb ?_ ?_ | with_reducible refine ole_bind ?_ ?_ | with_reducible refine ole_map ?_ | with_reducible refine ole_loop ?_ | with_reducible apply le_slices_Compact_int_j1
def f_slices_Compact_int (F : Nat) (x1 : (List Int)) : Option (List Int) :=
 ifb (decide ((ln intRow x1) < 2)) (
 some x1) (
 loopF F (f_slices_Compact_int_l1 F x1) 1)
theorem le_slices_Compact_int {F : Nat} {x1 : (List Int)} : ole (f_slices_Compact_int F x1) (m_slices_Compact_int x1) := by
  unfold f_slices_Compact_int m_slices_Compact_int
  repeat' first | with_reducible exact ole_refl _ | assumption | intro _ | with_reducible refine ole_ifb ?_ ?_ | with_reducible refine ole_bind ?_ ?_ | with_reducible refine ole_map ?_ | with_reducible refine ole_loop ?_ | with_reducible apply le_slices_Compact_int_j1 | with_reducible apply le_slices_Compact_int_l1
end NX
end Go.Proofs.Ytadebhbiglmodaa
/-
  The function narthex/set.Of: its code compiled, a model, and that the code answers as the model. Written by a program of ours (lb.py). No statement of the seat is proved here.
-/
namespace Go.Proofs.Ytadebhbiglmodaa
namespace NX
open Go
set_option maxRecDepth 100000
def laysSort_ren : Go.Shelf.Ren := ⟨(fun | 189 => 112 | 125 => 128 | 257 => 127 | 128 => 142 | 129 => 143 | 294 => 133 | 295 => 134 | 296 => 135 | 297 => 136 | 298 => 137 | 299 => 138 | 216 => 139 | 300 => 140 | 301 => 141 | 328 => 146 | 329 => 147 | 330 => 148 | 331 => 149 | 332 => 150 | 215 => 126 | 343 => 151 | n => n), (fun | 28 => 25 | 3 => 3 | 46 => 151 | 0 => 0 | 51 => 167 | 53 => 169 | 4 => 4 | 183 => 159 | 182 => 158 | 131 => 164 | 5 => 5 | 9 => 9 | 218 => 174 | 222 => 178 | 228 => 180 | 229 => 181 | n => n), (fun  | n => n)⟩
theorem laysSort : Lays.n189 Try.prog laysSort_ren where
  mixed := by kernel_rfl
  f125 := Try.func128.trans (congrArg some (by kernel_rfl))
  f128 := Try.func142.trans (congrArg some (by kernel_rfl))
  f129 := Try.func143.trans (congrArg some (by kernel_rfl))
  f189 := Try.func112.trans (congrArg some (by kernel_rfl))
  f215 := Try.func126.trans (congrArg some (by kernel_rfl))
  f216 := Try.func139.trans (congrArg some (by kernel_rfl))
  f257 := Try.func127.trans (congrArg some (by kernel_rfl))
  f294 := Try.func133.trans (congrArg some (by kernel_rfl))
  f295 := Try.func134.trans (congrArg some (by kernel_rfl))
  f296 := Try.func135.trans (congrArg some (by kernel_rfl))
  f297 := Try.func136.trans (congrArg some (by kernel_rfl))
  f298 := Try.func137.trans (congrArg some (by kernel_rfl))
  f299 := Try.func138.trans (congrArg some (by kernel_rfl))
  f300 := Try.func140.trans (congrArg some (by kernel_rfl))
  f301 := Try.func141.trans (congrArg some (by kernel_rfl))
  f328 := Try.func146.trans (congrArg some (by kernel_rfl))
  f329 := Try.func147.trans (congrArg some (by kernel_rfl))
  f330 := Try.func148.trans (congrArg some (by kernel_rfl))
  f331 := Try.func149.trans (congrArg some (by kernel_rfl))
  f332 := Try.func150.trans (congrArg some (by kernel_rfl))
  f343 := Try.func151.trans (congrArg some (by kernel_rfl))
  t0 := Try.underlying0
  a0 := Try.isAgg0
  z0 := Try.sizeOf0
  v0 := Try.zeroValue0
  t3 := Try.underlying3
  a3 := Try.isAgg3
  z3 := Try.sizeOf3
  v3 := Try.zeroValue3
  t4 := Try.underlying4
  a4 := Try.isAgg4
  z4 := Try.sizeOf4
  v4 := Try.zeroValue4
  t5 := Try.underlying5
  a5 := Try.isAgg5
  z5 := Try.sizeOf5
  v5 := Try.zeroValue5
  t9 := Try.underlying9
  a9 := Try.isAgg9
  z9 := Try.sizeOf9
  v9 := Try.zeroValue9
  t28 := Try.underlying25
  a28 := Try.isAgg25
  z28 := Try.sizeOf25
  v28 := Try.zeroValue25
  t46 := Try.underlying151
  a46 := Try.isAgg151
  z46 := Try.sizeOf151
  v46 := Try.zeroValue151
  t51 := Try.underlying167
  a51 := Try.isAgg167
  z51 := Try.sizeOf167
  v51 := Try.zeroValue167
  t53 := Try.underlying169
  a53 := Try.isAgg169
  z53 := Try.sizeOf169
  v53 := Try.zeroValue169
  t131 := Try.underlying164
  a131 := Try.isAgg164
  z131 := Try.sizeOf164
  v131 := Try.zeroValue164
  t182 := Try.underlying158
  a182 := Try.isAgg158
  z182 := Try.sizeOf158
  v182 := Try.zeroValue158
  t183 := Try.underlying159
  a183 := Try.isAgg159
  z183 := Try.sizeOf159
  v183 := Try.zeroValue159
  t218 := Try.underlying174
  a218 := Try.isAgg174
  z218 := Try.sizeOf174
  v218 := Try.zeroValue174
  t222 := Try.underlying178
  a222 := Try.isAgg178
  z222 := Try.sizeOf178
  v222 := Try.zeroValue178
  t228 := Try.underlying180
  a228 := Try.isAgg180
  z228 := Try.sizeOf180
  v228 := Try.zeroValue180
  t229 := Try.underlying181
  a229 := Try.isAgg181
  z229 := Try.sizeOf181
  v229 := Try.zeroValue181


def e_set_Of : EC := .seq (.reg [⟨(some 2), none, .mv (.c .nl)⟩]) (.seq (.reg [⟨(some 4), none, .mv (.t 0)⟩, ⟨(some 5), none, .call 89 [(.t 4)]⟩, ⟨(some 3), none, .mv (.t 5)⟩]) (.seq (.reg [⟨(some 6), none, .mv (.t 3)⟩, ⟨(some 7), none, .call 112 [(.t 6)]⟩]) (.seq (.reg [⟨(some 8), none, .mv (.t 3)⟩, ⟨(some 9), none, .call 113 [(.t 8)]⟩, ⟨(some 2), none, .mv (.t 9)⟩]) (.ret))))
theorem ok_set_Of : FnOK Try.prog 85 Try.f85 e_set_Of [.t 2] 1 9 := ⟨by kernel_rfl, ⟨_, rfl, by kernel_rfl⟩, by kernel_rfl, by kernel_rfl⟩
noncomputable def m_set_Of (x1 : List Int) : Option (List Int) :=
  (m_slices_Clone_int x1).bind fun x2 =>
  ifb (decide (x2.length < 4611686018427387904)) (
  m_slices_Compact_int (x2.mergeSort fun x y => decide (x ≤ y))) none
theorem k_set_Of (x1 : List Int) (r : List Int) (h : m_set_Of x1 = some r) : FunP Try.prog 85 [.sl 1 (List.map intRow x1)] (.sl 1 (List.map intRow r)) := by
  refine FunP_intro ok_set_Of rfl rfl fun w0 H0 => ?_
  rw [m_set_Of] at h
  refine V_go 100 ?_
  dsimp only [e_set_Of, go_sem, Nat.reduceBEq, Nat.reduceAdd]
  refine ⟨by simp, ?_⟩
  obtain ⟨x2, ex2, h⟩ := Option.bind_eq_some_iff.1 h
  refine V_callO trivial (o_slices_Clone_int x1 _ ex2) (by first | exact leL_refl _ | simp [go_sem]) (by first | rfl | simp [go_sem]) ?_
  refine V_go 100 ?_
  dsimp only [e_set_Of, go_sem, Nat.reduceBEq, Nat.reduceAdd]
  refine ⟨by simp, ?_⟩
  by_cases hl : x2.length < 4611686018427387904
  · rw [show decide (x2.length < 4611686018427387904) = true from decide_eq_true hl] at h
    have h : m_slices_Compact_int (x2.mergeSort fun x y => decide (x ≤ y)) = some r := h
    refine V_sort laysSort x2 trivial (by kernel_rfl) rfl rfl hl ?_
    refine V_go 100 ?_
    dsimp only [e_set_Of, go_sem, Nat.reduceBEq, Nat.reduceAdd]
    refine ⟨by simp, ?_⟩
    refine V_seal 0 rfl ?_
    dsimp only [go_sem, Nat.reduceBEq, Nat.reduceAdd]
    refine V_call trivial (k_slices_Compact_int _ _ h) (by first | exact leL_refl _ | simp [go_sem]) (by first | rfl | simp [go_sem]) ?_
    refine V_go 100 ?_
    dsimp only [e_set_Of, go_sem, Nat.reduceBEq, Nat.reduceAdd]
    refine ⟨by simp, ?_⟩
    exact M_done (res := fun (r : List Int) => .sl 1 (List.map intRow r)) ok_set_Of rfl (by first | exact le_refl _ | simp [go_sem])
  · rw [show decide (x2.length < 4611686018427387904) = false from decide_eq_false hl] at h
    cases h
def f_set_Of (F : Nat) (x1 : List Int) : Option (List Int) :=
  (f_slices_Clone_int F x1).bind fun x2 =>
  ifb (decide (x2.length < 4611686018427387904)) (
  f_slices_Compact_int F (x2.mergeSort fun x y => decide (x ≤ y))) none
theorem le_set_Of {F : Nat} {x1 : List Int} : ole (f_set_Of F x1) (m_set_Of x1) := by
  unfold f_set_Of m_set_Of
  repeat' first | with_reducible exact ole_refl _ | intro _ | with_reducible refine ole_ifb ?_ ?_ | with_reducible refine ole_bind ?_ ?_ | with_reducible apply le_slices_Clone_int | with_reducible apply le_slices_Compact_int
end NX
end Go.Proofs.Ytadebhbiglmodaa
/-
  The function narthex/graph.Near: its code compiled, a model, and that the code answers as the model. Written by a program of ours (lb.py). No statement of the seat is proved here.
-/
namespace Go.Proofs.Ytadebhbiglmodaa
namespace NX
open Go
set_option maxRecDepth 100000
set_option maxHeartbeats 4000000
def e_graph_Near_L0 : EC := .seq (.reg [⟨(some 15), none, .bin .lss (.t 14) (.t 13)⟩]) (.seq (.ite (.t 15) (.skip) (.exit 0)) (.seq (.blk 1 (.seq (.reg [⟨(some 16), none, .idx 2 (.t 12) (.t 14)⟩, ⟨(some 17), none, .loadA 2 (.t 16)⟩, ⟨(some 7), none, .alloc 58 [.iv 0, .iv 0]⟩, ⟨none, none, .store 2 (.t 7) (.t 17)⟩]) (.seq (.reg [⟨(some 18), none, .mv (.t 1)⟩]) (.blk 2 (.seq (.reg [⟨(some 20), none, .fld 0 (.t 7)⟩, ⟨(some 21), none, .load (.t 20)⟩, ⟨(some 22), none, .bin .eql (.t 18) (.t 21)⟩, ⟨(some 19), none, .mv (.t 22)⟩]) (.ite (.t 19) (.reg [⟨(some 23), none, .mv (.t 5)⟩, ⟨(some 24), none, .fld 1 (.t 7)⟩, ⟨(some 25), none, .load (.t 24)⟩, ⟨(some 26), none, .bsl 3 1 1 [.iv 0] [(0, (.t 25))]⟩, ⟨(some 27), none, .app 3 1 8 (.t 23) (.t 26)⟩, ⟨(some 5), none, .mv (.t 27)⟩]) (.seq (.reg [⟨(some 29), none, .fld 1 (.t 7)⟩, ⟨(some 30), none, .load (.t 29)⟩, ⟨(some 31), none, .bin .eql (.t 18) (.t 30)⟩, ⟨(some 28), none, .mv (.t 31)⟩]) (.ite (.t 28) (.reg [⟨(some 32), none, .mv (.t 5)⟩, ⟨(some 33), none, .fld 0 (.t 7)⟩, ⟨(some 34), none, .load (.t 33)⟩, ⟨(some 35), none, .bsl 3 1 1 [.iv 0] [(0, (.t 34))]⟩, ⟨(some 36), none, .app 3 1 8 (.t 32) (.t 35)⟩, ⟨(some 5), none, .mv (.t 36)⟩]) (.skip))))))))) (.reg [⟨(some 37), none, .bin .add (.t 14) (.c (.iv 1))⟩, ⟨(some 14), none, .mv (.t 37)⟩])))
def e_graph_Near : EC := .seq (.reg [⟨(some 2), none, .box 24 2 (.t 0)⟩, ⟨(some 4), none, .mv (.c .nl)⟩]) (.seq (.seq (.reg [⟨(some 8), none, .loadA 2 (.t 2)⟩, ⟨(some 9), none, .call 49 [(.t 8)]⟩, ⟨(some 10), none, .bin .neq (.t 9) (.c (.iv 0))⟩]) (.ite (.t 10) (.seq (.reg [⟨(some 4), none, .mv (.c .nl)⟩]) (.ret)) (.skip))) (.seq (.reg [⟨(some 5), none, .mv (.c .nl)⟩]) (.seq (.seq (.reg [⟨(some 11), none, .fld 1 (.t 2)⟩, ⟨(some 12), none, .load (.t 11)⟩, ⟨(some 13), none, .len (.t 12)⟩, ⟨(some 14), none, .mv (.c (.iv 0))⟩]) (.blk 0 (.loop e_graph_Near_L0))) (.seq (.reg [⟨(some 38), none, .mv (.t 5)⟩, ⟨(some 39), none, .call 85 [(.t 38)]⟩, ⟨(some 4), none, .mv (.t 39)⟩]) (.ret)))))
theorem ok_graph_Near : FnOK Try.prog 51 Try.f51 e_graph_Near [.t 4] 2 38 := ⟨by kernel_rfl, ⟨_, rfl, by kernel_rfl⟩, by kernel_rfl, by kernel_rfl⟩
/- narthex/graph.Near -/
noncomputable def m_graph_Near_j1  : (List Int) → Option (List Int)
| x23 =>
 (m_set_Of x23).bind fun x24 =>
 some x24
noncomputable def m_graph_Near_j2 (x10 : Int) : (List Int) → Option ((Int × (List Int)) ⊕ (List Int))
| x15 =>
 some (.inl (wr (x10 + 1), x15))
noncomputable def m_graph_Near_l1 (x1 : Graph) (x2 : Int) : (Int × (List Int)) → Option ((Int × (List Int)) ⊕ (List Int))
| (x10, x11) =>
 ifb (decide (x10 < (ln Edge.row x1.Edges))) (
 (at_ x1.Edges x10).bind fun x12 =>
 ifb (decide (x2 = x12.A)) (
 (app_ 8 x11 ([x12.B])).bind fun x13 =>
 (m_graph_Near_j2 x10) x13) (
 ifb (decide (x2 = x12.B)) (
 (app_ 8 x11 ([x12.A])).bind fun x14 =>
 (m_graph_Near_j2 x10) x14) (
 (m_graph_Near_j2 x10) x11))) (
 Option.map Sum.inr (m_graph_Near_j1 x11))
noncomputable def m_graph_Near (x1 : Graph) (x2 : Int) : Option (List Int) :=
 (m_graph_Check x1).bind fun x3 =>
 ifb (!decide (x3 = 0)) (
 some ([] : (List Int))) (
 loop (m_graph_Near_l1 x1 x2) (0, ([] : List Int)))
theorem k_graph_Near (x1 : Graph) (x2 : Int) (r : (List Int)) (h : m_graph_Near x1 x2 = some r) : FunP Try.prog 51 [.agg (Graph.row x1), .iv x2] (.sl 1 (List.map intRow r)) := by
  refine FunP_intro ok_graph_Near rfl rfl fun w0 H0 => ?_
  rw [m_graph_Near] at h
  refine V_go 9 ?_
  dsimp only [e_graph_Near, e_graph_Near_L0, go_sem, Nat.reduceBEq, Nat.reduceAdd]
  refine ⟨by simp, ?_⟩
  obtain ⟨x3, ex3, h⟩ := Option.bind_eq_some_iff.1 h
  refine V_call trivial (k_graph_Check x1 _ ex3) (by first | exact leL_refl _ | simp [go_sem]) (by first | rfl | simp [go_sem]) ?_
  refine V_go 2 ?_
  dsimp only [e_graph_Near, e_graph_Near_L0, go_sem, Nat.reduceBEq, Nat.reduceAdd]
  refine ⟨by simp, ?_⟩
  refine M_ite h rfl (fun hb h => ?_) (fun hb h => ?_)
  · refine V_go 4 ?_
    dsimp only [e_graph_Near, e_graph_Near_L0, go_sem, Nat.reduceBEq, Nat.reduceAdd]
    refine ⟨by simp, ?_⟩
    exact M_done (res := fun (r : (List Int)) => .sl 1 (List.map intRow r)) ok_graph_Near h (by first | exact le_refl _ | simp [go_sem])
  · refine V_go 13 ?_
    dsimp only [e_graph_Near, e_graph_Near_L0, go_sem, Nat.reduceBEq, Nat.reduceAdd]
    refine ⟨by simp, ?_⟩
    refine V_join (fun (x23 : (List Int)) => (⟨(an 5 (.osl 0 :: an 34 [])), [], [some ⟨3, 1, List.map intRow x23⟩]⟩ : St)) m_graph_Near_j1 r ?_ fun J1 => ?_
    · intro x23 h
      rw [m_graph_Near_j1] at h
      try dsimp only
      refine V_go 3 ?_
      dsimp only [e_graph_Near, e_graph_Near_L0, go_sem, Nat.reduceBEq, Nat.reduceAdd]
      refine ⟨by simp, ?_⟩
      refine V_seal 0 rfl ?_
      dsimp only [go_sem, Nat.reduceBEq, Nat.reduceAdd]
      obtain ⟨x24, ex24, h⟩ := Option.bind_eq_some_iff.1 h
      refine V_call trivial (k_set_Of x23 _ ex24) (by first | exact leL_refl _ | simp [go_sem]) (by first | rfl | simp [go_sem]) ?_
      refine V_go 2 ?_
      dsimp only [e_graph_Near, e_graph_Near_L0, go_sem, Nat.reduceBEq, Nat.reduceAdd]
      refine ⟨by simp, ?_⟩
      exact M_done (res := fun (r : (List Int)) => .sl 1 (List.map intRow r)) ok_graph_Near h (by first | exact le_refl _ | simp [go_sem])
    · refine V_go 1 ?_
      dsimp only [e_graph_Near, e_graph_Near_L0, go_sem, Nat.reduceBEq, Nat.reduceAdd]
      refine ⟨by simp, ?_⟩
      refine V_own 5 3 1 rfl rfl ?_
      dsimp only [go_sem, Nat.reduceBEq, Nat.reduceAdd]
      refine M_loop h (fun ((x10, x11) : (Int × (List Int))) => (⟨(.any :: .iv x2 :: an 3 (.osl 0 :: an 6 (.sl 2 (List.map Edge.row x1.Edges) :: .iv (ln Edge.row x1.Edges) :: .iv x10 :: an 25 []))), [], [some ⟨3, 1, List.map intRow x11⟩]⟩ : St)) (by simp [go_sem]) (by rintro ⟨x10, x11⟩; first | rfl | simp [go_sem]) ?_
      rintro n1 ⟨x10, x11⟩ y1 h hin1 hout1
      rw [m_graph_Near_l1] at h
      try dsimp only
      refine V_go 5 ?_
      dsimp only [e_graph_Near, e_graph_Near_L0, go_sem, Nat.reduceBEq, Nat.reduceAdd]
      refine ⟨by simp, ?_⟩
      refine M_ite h rfl (fun hb h => ?_) (fun hb h => ?_)
      · refine V_go 5 ?_
        dsimp only [e_graph_Near, e_graph_Near_L0, go_sem, Nat.reduceBEq, Nat.reduceAdd]
        refine ⟨by simp, ?_⟩
        obtain ⟨x12, ex12, h⟩ := Option.bind_eq_some_iff.1 h
        refine V_idxM Edge.row ex12 trivial rfl rfl rfl ?_
        refine V_go 16 ?_
        dsimp only [e_graph_Near, e_graph_Near_L0, go_sem, Nat.reduceBEq, Nat.reduceAdd]
        refine ⟨by simp, ?_⟩
        refine V_join (fun (x15 : (List Int)) => (⟨(.any :: .iv x2 :: an 3 (.osl 0 :: an 6 (.sl 2 (List.map Edge.row x1.Edges) :: .iv (ln Edge.row x1.Edges) :: .iv x10 :: an 25 []))), [], [some ⟨3, 1, List.map intRow x15⟩]⟩ : St)) (m_graph_Near_j2 x10) y1 ?_ fun J2 => ?_
        · intro x15 h
          rw [m_graph_Near_j2] at h
          try dsimp only
          refine V_go 6 ?_
          dsimp only [e_graph_Near, e_graph_Near_L0, go_sem, Nat.reduceBEq, Nat.reduceAdd]
          refine ⟨by simp, ?_⟩
          exact M_back h hin1 (by simp [go_sem]) (by first | rfl | simp [go_sem])
        · refine M_ite h rfl (fun hb h => ?_) (fun hb h => ?_)
          · refine V_go 5 ?_
            dsimp only [e_graph_Near, e_graph_Near_L0, go_sem, Nat.reduceBEq, Nat.reduceAdd]
            refine ⟨by simp, ?_⟩
            obtain ⟨x13, ex13, h⟩ := Option.bind_eq_some_iff.1 h
            refine V_appM intRow ex13 trivial rfl rfl rfl ?_
            refine V_go 2 ?_
            dsimp only [e_graph_Near, e_graph_Near_L0, go_sem, Nat.reduceBEq, Nat.reduceAdd]
            refine ⟨by simp, ?_⟩
            refine V_ren 2 0 rfl rfl rfl ?_
            dsimp only [go_sem, Nat.reduceBEq, Nat.reduceAdd]
            exact M_to J2 (s := x13) h (by simp [go_sem]) (by first | rfl | simp [go_sem])
          · refine V_go 7 ?_
            dsimp only [e_graph_Near, e_graph_Near_L0, go_sem, Nat.reduceBEq, Nat.reduceAdd]
            refine ⟨by simp, ?_⟩
            refine M_ite h rfl (fun hb h => ?_) (fun hb h => ?_)
            · refine V_go 5 ?_
              dsimp only [e_graph_Near, e_graph_Near_L0, go_sem, Nat.reduceBEq, Nat.reduceAdd]
              refine ⟨by simp, ?_⟩
              obtain ⟨x14, ex14, h⟩ := Option.bind_eq_some_iff.1 h
              refine V_appM intRow ex14 trivial rfl rfl rfl ?_
              refine V_go 2 ?_
              dsimp only [e_graph_Near, e_graph_Near_L0, go_sem, Nat.reduceBEq, Nat.reduceAdd]
              refine ⟨by simp, ?_⟩
              refine V_ren 2 0 rfl rfl rfl ?_
              dsimp only [go_sem, Nat.reduceBEq, Nat.reduceAdd]
              exact M_to J2 (s := x14) h (by simp [go_sem]) (by first | rfl | simp [go_sem])
            · refine V_go 1 ?_
              dsimp only [e_graph_Near, e_graph_Near_L0, go_sem, Nat.reduceBEq, Nat.reduceAdd]
              refine ⟨by simp, ?_⟩
              exact M_to J2 (s := x11) h (by simp [go_sem]) (by first | rfl | simp [go_sem])
      · refine V_go 1 ?_
        dsimp only [e_graph_Near, e_graph_Near_L0, go_sem, Nat.reduceBEq, Nat.reduceAdd]
        refine ⟨by simp, ?_⟩
        exact M_to J1 (s := x11) (M_out h hout1) (by simp [go_sem]) (by first | rfl | simp [go_sem])
def f_graph_Near_j1 (F : Nat)  : (List Int) → Option (List Int)
| x23 =>
 (f_set_Of F x23).bind fun x24 =>
 some x24
theorem le_graph_Near_j1 {F : Nat} : ∀ s, ole (f_graph_Near_j1 F s) (m_graph_Near_j1 s) := by
  intro x23
  unfold f_graph_Near_j1 m_graph_Near_j1
  try dsimp only
  repeat' first | with_reducible exact ole_refl _ | assumption | intro _ | with_reducible refine ole_ifb ?_ ?_ | with_reducible refine ole_bind ?_ ?_ | with_reducible refine ole_map ?_ | with_reducible refine ole_loop ?_ | with_reducible apply le_set_Of
def f_graph_Near_j2 (F : Nat) (x10 : Int) : (List Int) → Option ((Int × (List Int)) ⊕ (List Int))
| x15 =>
 some (.inl (wr (x10 + 1), x15))
theorem le_graph_Near_j2 {F : Nat} {x10 : Int} : ∀ s, ole (f_graph_Near_j2 F x10 s) (m_graph_Near_j2 x10 s) := by
  intro x15
  unfold f_graph_Near_j2 m_graph_Near_j2
  try dsimp only
  repeat' first | with_reducible exact ole_refl _ | assumption | intro _ | with_reducible refine ole_ifb ?_ ?_ | with_reducible refine ole_bind ?_ ?_ | with_reducible refine ole_map ?_ | with_reducible refine ole_loop ?_ | with_reducible apply le_set_Of | with_reducible apply le_graph_Near_j1
def f_graph_Near_l1 (F : Nat) (x1 : Graph) (x2 : Int) : (Int × (List Int)) → Option ((Int × (List Int)) ⊕ (List Int))
| (x10, x11) =>
 ifb (decide (x10 < (ln Edge.row x1.Edges))) (
 (at_ x1.Edges x10).bind fun x12 =>
 ifb (decide (x2 = x12.A)) (
 (app_ 8 x11 ([x12.B])).bind fun x13 =>
 (f_graph_Near_j2 F x10) x13) (
 ifb (decide (x2 = x12.B)) (
 (app_ 8 x11 ([x12.A])).bind fun x14 =>
 (f_graph_Near_j2 F x10) x14) (
 (f_graph_Near_j2 F x10) x11))) (
 Option.map Sum.inr (f_graph_Near_j1 F x11))
theorem le_graph_Near_l1 {F : Nat} {x1 : Graph} {x2 : Int} : ∀ s, ole (f_graph_Near_l1 F x1 x2 s) (m_graph_Near_l1 x1 x2 s) := by
  rintro ⟨x10, x11⟩
  unfold f_graph_Near_l1 m_graph_Near_l1
  try dsimp only
  repeat' first | with_reducible exact ole_refl _ | assumption | intro _ | with_reducible refine ole_ifb ?_ ?_ | with_reducible refine ole_bind ?_ ?_ | with_reducible refine ole_map ?_ | with_reducible refine ole_loop ?_ | with_reducible apply le_set_Of | with_reducible apply le_graph_Near_j1 | with_reducible apply le_graph_Near_j2
def f_graph_Near (F : Nat) (x1 : Graph) (x2 : Int) : Option (List Int) :=
 (f_graph_Check F x1).bind fun x3 =>
 ifb (!decide (x3 = 0)) (
 some ([] : (List Int))) (
 loopF F (f_graph_Near_l1 F x1 x2) (0, ([] : List Int)))
theorem le_graph_Near {F : Nat} {x1 : Graph} {x2 : Int} : ole (f_graph_Near F x1 x2) (m_graph_Near x1 x2) := by
  unfold f_graph_Near m_graph_Near
  repeat' first | with_reducible exact ole_refl _ | assumption | intro _ | with_reducible refine ole_ifb ?_ ?_ | with_reducible refine ole_bind ?_ ?_ | with_reducible refine ole_map ?_ | with_reducible refine ole_loop ?_ | with_reducible apply le_set_Of | with_reducible apply le_graph_Near_j1 | with_reducible apply le_graph_Near_j2 | with_reducible apply le_graph_Near_l1 | with_reducible apply le_graph_Check
end NX
end Go.Proofs.Ytadebhbiglmodaa
/-
  The function narthex/place.Table: its code compiled, a model, and that the code answers as the model. Written by a program of ours (lb.py). No statement of the seat is proved here.
-/
namespace Go.Proofs.Ytadebhbiglmodaa
namespace NX
open Go
set_option maxRecDepth 100000
set_option maxHeartbeats 4000000
def e_place_Table_L1 : EC := .seq (.reg [⟨(some 34), none, .bin .lss (.t 33) (.t 32)⟩]) (.seq (.ite (.t 34) (.skip) (.exit 2)) (.seq (.blk 3 (.seq (.reg [⟨(some 35), none, .idx 1 (.t 31) (.t 33)⟩, ⟨(some 36), none, .load (.t 35)⟩, ⟨(some 11), none, .mv (.t 36)⟩]) (.seq (.drw [⟨(some 37), none, .mv (.t 1)⟩, ⟨(some 38), none, .mv (.t 8)⟩, ⟨(some 39), none, .idx 1 (.t 37) (.t 38)⟩, ⟨(some 40), none, .load (.t 39)⟩, ⟨(some 41), none, .mv (.t 1)⟩, ⟨(some 42), none, .mv (.t 11)⟩, ⟨(some 43), none, .idx 1 (.t 41) (.t 42)⟩, ⟨(some 44), none, .load (.t 43)⟩, ⟨(some 45), none, .bin .gtr (.t 40) (.t 44)⟩, ⟨(some 12), none, .mv (.t 45)⟩] [[], [], [0, 1], [2], [], [], [4, 5], [6], [3, 7], [8, 0, 1, 2, 3, 4, 5, 6, 7, 8]] [[2], [2], [0, 1, 3], [2, 8], [6], [6], [4, 5, 7], [6, 8], [3, 7, 9], [8]]) (.reg [⟨(some 46), none, .fld 2 (.t 9)⟩, ⟨(some 47), none, .load (.t 46)⟩, ⟨(some 48), none, .mv (.t 11)⟩, ⟨(some 49), none, .mv (.t 12)⟩, ⟨(some 50), none, .mv (.t 12)⟩, ⟨(some 51), none, .mv (.t 12)⟩, ⟨(some 52), none, .mv (.t 12)⟩, ⟨(some 53), none, .not (.t 52)⟩, ⟨(some 54), none, .mv (.t 12)⟩, ⟨(some 55), none, .not (.t 54)⟩, ⟨(some 56), none, .build [.iv 0, .iv 0, .iv 0, .ff, .ff, .ff, .ff, .ff] [(0, 1, (.t 48)), (1, 1, (.c (.iv 1))), (3, 1, (.t 49)), (4, 1, (.t 50)), (6, 1, (.t 51)), (5, 1, (.t 53)), (7, 1, (.t 55))]⟩, ⟨(some 57), none, .bsl 49 8 1 [.iv 0, .iv 0, .iv 0, .ff, .ff, .ff, .ff, .ff] [(0, (.t 56))]⟩, ⟨(some 58), none, .app 49 8 32 (.t 47) (.t 57)⟩, ⟨(some 59), none, .fld 2 (.t 9)⟩, ⟨none, none, .store 1 (.t 59) (.t 58)⟩])))) (.reg [⟨(some 60), none, .bin .add (.t 33) (.c (.iv 1))⟩, ⟨(some 33), none, .mv (.t 60)⟩])))
def e_place_Table_L0 : EC := .seq (.reg [⟨(some 25), none, .bin .lss (.t 24) (.t 23)⟩]) (.seq (.ite (.t 25) (.skip) (.exit 0)) (.seq (.blk 1 (.seq (.reg [⟨(some 26), none, .mv (.t 24)⟩, ⟨(some 8), none, .mv (.t 26)⟩]) (.seq (.reg [⟨(some 27), none, .mv (.t 8)⟩, ⟨(some 28), none, .build [.iv 0, .iv 0, .nl] [(0, 1, (.t 27))]⟩, ⟨(some 9), none, .alloc 39 [.iv 0, .iv 0, .nl]⟩, ⟨none, none, .store 3 (.t 9) (.t 28)⟩]) (.seq (.seq (.reg [⟨(some 29), none, .loadA 2 (.t 2)⟩, ⟨(some 30), none, .mv (.t 8)⟩, ⟨(some 31), none, .call 51 [(.t 29), (.t 30)]⟩, ⟨(some 32), none, .len (.t 31)⟩, ⟨(some 33), none, .mv (.c (.iv 0))⟩]) (.blk 2 (.loop e_place_Table_L1))) (.reg [⟨(some 61), none, .mv (.t 7)⟩, ⟨(some 62), none, .loadA 3 (.t 9)⟩, ⟨(some 63), none, .bsl 39 3 1 [.iv 0, .iv 0, .nl] [(0, (.t 62))]⟩, ⟨(some 64), none, .app 39 3 40 (.t 61) (.t 63)⟩, ⟨(some 7), none, .mv (.t 64)⟩]))))) (.reg [⟨(some 65), none, .bin .add (.t 24) (.c (.iv 1))⟩, ⟨(some 24), none, .mv (.t 65)⟩])))
def e_place_Table : EC := .seq (.reg [⟨(some 2), none, .box 24 2 (.t 0)⟩, ⟨(some 4), none, .mv (.c .nl)⟩, ⟨(some 5), none, .mv (.c (.iv 0))⟩]) (.seq (.seq (.reg [⟨(some 13), none, .loadA 2 (.t 2)⟩, ⟨(some 14), none, .call 49 [(.t 13)]⟩, ⟨(some 6), none, .mv (.t 14)⟩]) (.seq (.reg [⟨(some 15), none, .mv (.t 6)⟩, ⟨(some 16), none, .bin .neq (.t 15) (.c (.iv 0))⟩]) (.ite (.t 16) (.seq (.reg [⟨(some 17), none, .mv (.t 6)⟩, ⟨(some 4), none, .mv (.c .nl)⟩, ⟨(some 5), none, .mv (.t 17)⟩]) (.ret)) (.skip)))) (.seq (.seq (.reg [⟨(some 18), none, .loadA 2 (.t 2)⟩, ⟨(some 19), none, .mv (.t 1)⟩, ⟨(some 20), none, .call 50 [(.t 18), (.t 19)]⟩, ⟨(some 21), none, .not (.t 20)⟩]) (.ite (.t 21) (.seq (.reg [⟨(some 4), none, .mv (.c .nl)⟩, ⟨(some 5), none, .mv (.c (.iv 120))⟩]) (.ret)) (.skip))) (.seq (.reg [⟨(some 7), none, .mv (.c .nl)⟩]) (.seq (.seq (.reg [⟨(some 22), none, .fld 0 (.t 2)⟩, ⟨(some 23), none, .load (.t 22)⟩, ⟨(some 24), none, .mv (.c (.iv 0))⟩]) (.blk 0 (.loop e_place_Table_L0))) (.seq (.reg [⟨(some 66), none, .mv (.t 7)⟩, ⟨(some 4), none, .mv (.t 66)⟩, ⟨(some 5), none, .mv (.c (.iv 0))⟩]) (.ret))))))
theorem ok_place_Table : FnOK Try.prog 14 Try.f14 e_place_Table [.t 4, .t 5] 2 65 := ⟨by kernel_rfl, ⟨_, rfl, by kernel_rfl⟩, by kernel_rfl, by kernel_rfl⟩
/- narthex/place.Table -/
noncomputable def m_place_Table_j1  : (List Diner) → Option ((List Diner) × Int)
| x68 =>
 some (x68, 0)
noncomputable def m_place_Table_j2 (x31 : Int) (x32 : (List Diner)) : (List Side) → Option ((Int × (List Diner)) ⊕ ((List Diner) × Int))
| x59 =>
 (app_ 40 x32 ([(Diner.mk x31 0 x59)])).bind fun x60 =>
 some (.inl (wr (x31 + 1), x60))
noncomputable def m_place_Table_l2 (x2 : (List Int)) (x31 : Int) (x32 : (List Diner)) (x33 : (List Int)) : (Int × (List Side)) → Option ((Int × (List Side)) ⊕ ((Int × (List Diner)) ⊕ ((List Diner) × Int)))
| (x40, x41) =>
 ifb (decide (x40 < (ln intRow x33))) (
 (at_ x33 x40).bind fun x42 =>
 (at_ x2 x31).bind fun x43 =>
 (at_ x2 x42).bind fun x44 =>
 (app_ 32 x41 ([(Side.mk x42 1 0 (decide (x44 < x43)) (decide (x44 < x43)) (!(decide (x44 < x43))) (decide (x44 < x43)) (!(decide (x44 < x43))))])).bind fun x45 =>
 some (.inl (wr (x40 + 1), x45))) (
 Option.map Sum.inr ((m_place_Table_j2 x31 x32) x41))
noncomputable def m_place_Table_l1 (x1 : Graph) (x2 : (List Int)) : (Int × (List Diner)) → Option ((Int × (List Diner)) ⊕ ((List Diner) × Int))
| (x31, x32) =>
 ifb (decide (x31 < x1.N)) (
 (m_graph_Near x1 x31).bind fun x33 =>
 loop (m_place_Table_l2 x2 x31 x32 x33) (0, ([] : List Side))) (
 Option.map Sum.inr (m_place_Table_j1 x32))
noncomputable def m_place_Table (x1 : Graph) (x2 : (List Int)) : Option ((List Diner) × Int) :=
 (m_graph_Check x1).bind fun x3 =>
 ifb (!decide (x3 = 0)) (
 some (([] : (List Diner)), x3)) (
 (m_colour_Right x1 x2).bind fun x4 =>
 ifb (!x4) (
 some (([] : (List Diner)), 120)) (
 loop (m_place_Table_l1 x1 x2) (0, ([] : List Diner))))
theorem k_place_Table (x1 : Graph) (x2 : (List Int)) (r : ((List Diner) × Int)) (h : m_place_Table x1 x2 = some r) : FunP Try.prog 14 [.agg (Graph.row x1), .sl 1 (List.map intRow x2)] (.tup [.sl 3 (List.map Diner.row r.1), .iv r.2]) := by
  refine FunP_intro ok_place_Table rfl rfl fun w0 H0 => ?_
  rw [m_place_Table] at h
  refine V_go 10 ?_
  dsimp only [e_place_Table, e_place_Table_L0, e_place_Table_L1, go_sem, Nat.reduceBEq, Nat.reduceAdd]
  refine ⟨by simp, ?_⟩
  obtain ⟨x3, ex3, h⟩ := Option.bind_eq_some_iff.1 h
  refine V_call trivial (k_graph_Check x1 _ ex3) (by first | exact leL_refl _ | simp [go_sem]) (by first | rfl | simp [go_sem]) ?_
  refine V_go 7 ?_
  dsimp only [e_place_Table, e_place_Table_L0, e_place_Table_L1, go_sem, Nat.reduceBEq, Nat.reduceAdd]
  refine ⟨by simp, ?_⟩
  refine M_ite h rfl (fun hb h => ?_) (fun hb h => ?_)
  · refine V_go 6 ?_
    dsimp only [e_place_Table, e_place_Table_L0, e_place_Table_L1, go_sem, Nat.reduceBEq, Nat.reduceAdd]
    refine ⟨by simp, ?_⟩
    exact M_done (res := fun (r : ((List Diner) × Int)) => .tup [.sl 3 (List.map Diner.row r.1), .iv r.2]) ok_place_Table h (by first | exact le_refl _ | simp [go_sem])
  · refine V_go 6 ?_
    dsimp only [e_place_Table, e_place_Table_L0, e_place_Table_L1, go_sem, Nat.reduceBEq, Nat.reduceAdd]
    refine ⟨by simp, ?_⟩
    obtain ⟨x4, ex4, h⟩ := Option.bind_eq_some_iff.1 h
    refine V_call trivial (k_colour_Right x1 x2 _ ex4) (by first | exact leL_refl _ | simp [go_sem]) (by first | rfl | simp [go_sem]) ?_
    refine V_go 2 ?_
    dsimp only [e_place_Table, e_place_Table_L0, e_place_Table_L1, go_sem, Nat.reduceBEq, Nat.reduceAdd]
    refine ⟨by simp, ?_⟩
    refine M_ite h rfl (fun hb h => ?_) (fun hb h => ?_)
    · refine V_go 5 ?_
      dsimp only [e_place_Table, e_place_Table_L0, e_place_Table_L1, go_sem, Nat.reduceBEq, Nat.reduceAdd]
      refine ⟨by simp, ?_⟩
      exact M_done (res := fun (r : ((List Diner) × Int)) => .tup [.sl 3 (List.map Diner.row r.1), .iv r.2]) ok_place_Table h (by first | exact le_refl _ | simp [go_sem])
    · refine V_go 12 ?_
      dsimp only [e_place_Table, e_place_Table_L0, e_place_Table_L1, go_sem, Nat.reduceBEq, Nat.reduceAdd]
      refine ⟨by simp, ?_⟩
      refine V_join (fun (x68 : (List Diner)) => (⟨(an 7 (.osl 0 :: an 59 [])), [], [some ⟨39, 3, List.map Diner.row x68⟩]⟩ : St)) m_place_Table_j1 r ?_ fun J1 => ?_
      · intro x68 h
        rw [m_place_Table_j1] at h
        try dsimp only
        refine V_go 6 ?_
        dsimp only [e_place_Table, e_place_Table_L0, e_place_Table_L1, go_sem, Nat.reduceBEq, Nat.reduceAdd]
        refine ⟨by simp, ?_⟩
        refine V_seal 0 rfl ?_
        dsimp only [go_sem, Nat.reduceBEq, Nat.reduceAdd]
        exact M_done (res := fun (r : ((List Diner) × Int)) => .tup [.sl 3 (List.map Diner.row r.1), .iv r.2]) ok_place_Table h (by first | exact le_refl _ | simp [go_sem])
      · refine V_go 1 ?_
        dsimp only [e_place_Table, e_place_Table_L0, e_place_Table_L1, go_sem, Nat.reduceBEq, Nat.reduceAdd]
        refine ⟨by simp, ?_⟩
        refine V_own 7 39 3 rfl rfl ?_
        dsimp only [go_sem, Nat.reduceBEq, Nat.reduceAdd]
        refine M_loop h (fun ((x31, x32) : (Int × (List Diner))) => (⟨(.any :: .sl 1 (List.map intRow x2) :: .ptr 0 0 :: an 4 (.osl 0 :: an 15 (.iv x1.N :: .iv x31 :: an 42 []))), [some ⟨24, [.iv x1.N, .sl 2 (List.map Edge.row x1.Edges)]⟩], [some ⟨39, 3, List.map Diner.row x32⟩]⟩ : St)) (by simp [go_sem]) (by rintro ⟨x31, x32⟩; first | rfl | simp [go_sem]) ?_
        rintro n1 ⟨x31, x32⟩ y1 h hin1 hout1
        rw [m_place_Table_l1] at h
        try dsimp only
        refine V_go 5 ?_
        dsimp only [e_place_Table, e_place_Table_L0, e_place_Table_L1, go_sem, Nat.reduceBEq, Nat.reduceAdd]
        refine ⟨by simp, ?_⟩
        refine M_ite h rfl (fun hb h => ?_) (fun hb h => ?_)
        · refine V_go 20 ?_
          dsimp only [e_place_Table, e_place_Table_L0, e_place_Table_L1, go_sem, Nat.reduceBEq, Nat.reduceAdd]
          refine ⟨by simp, ?_⟩
          obtain ⟨x33, ex33, h⟩ := Option.bind_eq_some_iff.1 h
          refine V_call trivial (k_graph_Near x1 x31 _ ex33) (by first | exact leL_refl _ | simp [go_sem]) (by first | rfl | simp [go_sem]) ?_
          refine V_go 3 ?_
          dsimp only [e_place_Table, e_place_Table_L0, e_place_Table_L1, go_sem, Nat.reduceBEq, Nat.reduceAdd]
          refine ⟨by simp, ?_⟩
          refine V_join (fun (x59 : (List Side)) => (⟨(.any :: .sl 1 (List.map intRow x2) :: .ptr 0 0 :: an 4 (.osl 0 :: .any :: .ptr 1 0 :: an 13 (.iv x1.N :: .iv x31 :: an 42 []))), [some ⟨24, [.iv x1.N, .sl 2 (List.map Edge.row x1.Edges)]⟩, some ⟨39, [.iv x31, .iv 0, .osl 1]⟩], [some ⟨39, 3, List.map Diner.row x32⟩, some ⟨49, 8, List.map Side.row x59⟩]⟩ : St)) (m_place_Table_j2 x31 x32) y1 ?_ fun J2 => ?_
          · intro x59 h
            rw [m_place_Table_j2] at h
            try dsimp only
            refine V_go 3 ?_
            dsimp only [e_place_Table, e_place_Table_L0, e_place_Table_L1, go_sem, Nat.reduceBEq, Nat.reduceAdd]
            refine ⟨by simp, ?_⟩
            refine V_seal 1 rfl ?_
            dsimp only [go_sem, Nat.reduceBEq, Nat.reduceAdd]
            refine V_go 1 ?_
            dsimp only [e_place_Table, e_place_Table_L0, e_place_Table_L1, go_sem, Nat.reduceBEq, Nat.reduceAdd]
            refine ⟨by simp, ?_⟩
            obtain ⟨x60, ex60, h⟩ := Option.bind_eq_some_iff.1 h
            refine V_appM Diner.row ex60 trivial rfl rfl rfl ?_
            refine V_go 7 ?_
            dsimp only [e_place_Table, e_place_Table_L0, e_place_Table_L1, go_sem, Nat.reduceBEq, Nat.reduceAdd]
            refine ⟨by simp, ?_⟩
            refine V_ren 3 0 rfl rfl rfl ?_
            dsimp only [go_sem, Nat.reduceBEq, Nat.reduceAdd]
            exact M_back h hin1 (by simp [go_sem]) (by first | rfl | simp [go_sem])
          · refine V_go 1 ?_
            dsimp only [e_place_Table, e_place_Table_L0, e_place_Table_L1, go_sem, Nat.reduceBEq, Nat.reduceAdd]
            refine ⟨by simp, ?_⟩
            refine V_ownB 1 2 49 8 rfl rfl rfl ?_
            dsimp only [go_sem, Nat.reduceBEq, Nat.reduceAdd]
            refine M_loop h (fun ((x40, x41) : (Int × (List Side))) => (⟨(.any :: .sl 1 (List.map intRow x2) :: .ptr 0 0 :: an 4 (.osl 0 :: .iv x31 :: .ptr 1 0 :: an 13 (.iv x1.N :: .iv x31 :: an 6 (.sl 1 (List.map intRow x33) :: .iv (ln intRow x33) :: .iv x40 :: an 33 [])))), [some ⟨24, [.iv x1.N, .sl 2 (List.map Edge.row x1.Edges)]⟩, some ⟨39, [.iv x31, .iv 0, .osl 1]⟩], [some ⟨39, 3, List.map Diner.row x32⟩, some ⟨49, 8, List.map Side.row x41⟩]⟩ : St)) (by simp [go_sem]) (by rintro ⟨x40, x41⟩; first | rfl | simp [go_sem]) ?_
            rintro n2 ⟨x40, x41⟩ y2 h hin2 hout2
            rw [m_place_Table_l2] at h
            try dsimp only
            refine V_go 5 ?_
            dsimp only [e_place_Table, e_place_Table_L0, e_place_Table_L1, go_sem, Nat.reduceBEq, Nat.reduceAdd]
            refine ⟨by simp, ?_⟩
            refine M_ite h rfl (fun hb h => ?_) (fun hb h => ?_)
            · refine V_go 5 ?_
              dsimp only [e_place_Table, e_place_Table_L0, e_place_Table_L1, go_sem, Nat.reduceBEq, Nat.reduceAdd]
              refine ⟨by simp, ?_⟩
              obtain ⟨x42, ex42, h⟩ := Option.bind_eq_some_iff.1 h
              refine V_idxM intRow ex42 trivial rfl rfl rfl ?_
              refine V_go 4 ?_
              dsimp only [e_place_Table, e_place_Table_L0, e_place_Table_L1, go_sem, Nat.reduceBEq, Nat.reduceAdd]
              refine ⟨by simp, ?_⟩
              refine V_drw (by kernel_rfl) fun all hall hs hnap haf => ?_
              dsimp only [go_sem, Nat.reduceBEq, Nat.reduceAdd]
              refine G_goN hall hs haf hnap 4 6 ?_
              dsimp only [go_sem, Nat.reduceBEq, Nat.reduceAdd]
              refine ⟨by simp, ?_⟩
              obtain ⟨x43, ex43, h⟩ := Option.bind_eq_some_iff.1 h
              refine G_idxM hall hs haf hnap 2 intRow ex43 rfl rfl trivial rfl rfl rfl rfl ?_
              refine G_goN hall hs haf hnap 1 4 ?_
              dsimp only [go_sem, Nat.reduceBEq, Nat.reduceAdd]
              refine ⟨by simp, ?_⟩
              obtain ⟨x44, ex44, h⟩ := Option.bind_eq_some_iff.1 h
              refine G_idxM hall hs haf hnap 6 intRow ex44 rfl rfl trivial rfl rfl rfl rfl ?_
              refine G_goN hall hs haf hnap 3 0 ?_
              dsimp only [go_sem, Nat.reduceBEq, Nat.reduceAdd]
              refine ⟨by simp, ?_⟩
              refine G_done rfl ?_ _
              refine V_go 13 ?_
              dsimp only [e_place_Table, e_place_Table_L0, e_place_Table_L1, go_sem, Nat.reduceBEq, Nat.reduceAdd]
              refine ⟨by simp, ?_⟩
              obtain ⟨x45, ex45, h⟩ := Option.bind_eq_some_iff.1 h
              refine V_appM Side.row ex45 trivial rfl rfl rfl ?_
              refine V_go 8 ?_
              dsimp only [e_place_Table, e_place_Table_L0, e_place_Table_L1, go_sem, Nat.reduceBEq, Nat.reduceAdd]
              refine ⟨by simp, ?_⟩
              refine V_ren 3 1 rfl rfl rfl ?_
              dsimp only [go_sem, Nat.reduceBEq, Nat.reduceAdd]
              exact M_back h hin2 (by simp [go_sem]) (by first | rfl | simp [go_sem])
            · refine V_go 1 ?_
              dsimp only [e_place_Table, e_place_Table_L0, e_place_Table_L1, go_sem, Nat.reduceBEq, Nat.reduceAdd]
              refine ⟨by simp, ?_⟩
              exact M_to J2 (s := x41) (M_out h hout2) (by simp [go_sem]) (by first | rfl | simp [go_sem])
        · refine V_go 1 ?_
          dsimp only [e_place_Table, e_place_Table_L0, e_place_Table_L1, go_sem, Nat.reduceBEq, Nat.reduceAdd]
          refine ⟨by simp, ?_⟩
          exact M_to J1 (s := x32) (M_out h hout1) (by simp [go_sem]) (by first | rfl | simp [go_sem])
def f_place_Table_j1 (F : Nat)  : (List Diner) → Option ((List Diner) × Int)
| x68 =>
 some (x68, 0)
theorem le_place_Table_j1 {F : Nat} : ∀ s, ole (f_place_Table_j1 F s) (m_place_Table_j1 s) := by
  intro x68
  unfold f_place_Table_j1 m_place_Table_j1
  try dsimp only
  repeat' first | with_reducible exact ole_refl _ | assumption | intro _ | with_reducible refine ole_ifb ?_ ?_ | with_reducible refine ole_bind ?_ ?_ | with_reducible refine ole_map ?_ | with_reducible refine ole_loop ?_
def f_place_Table_j2 (F : Nat) (x31 : Int) (x32 : (List Diner)) : (List Side) → Option ((Int × (List Diner)) ⊕ ((List Diner) × Int))
| x59 =>
 (app_ 40 x32 ([(Diner.mk x31 0 x59)])).bind fun x60 =>
 some (.inl (wr (x31 + 1), x60))
theorem le_place_Table_j2 {F : Nat} {x31 : Int} {x32 : (List Diner)} : ∀ s, ole (f_place_Table_j2 F x31 x32 s) (m_place_Table_j2 x31 x32 s) := by
  intro x59
  unfold f_place_Table_j2 m_place_Table_j2
  try dsimp only
  repeat' first | with_reducible exact ole_refl _ | assumption | intro _ | with_reducible refine ole_ifb ?_ ?_ | with_reducible refine ole_bind ?_ ?_ | with_reducible refine ole_map ?_ | with_reducible refine ole_loop ?_ | with_reducible apply le_place_Table_j1
def f_place_Table_l2 (F : Nat) (x2 : (List Int)) (x31 : Int) (x32 : (List Diner)) (x33 : (List Int)) : (Int × (List Side)) → Option ((Int × (List Side)) ⊕ ((Int × (List Diner)) ⊕ ((List Diner) × Int)))
| (x40, x41) =>
 ifb (decide (x40 < (ln intRow x33))) (
 (at_ x33 x40).bind fun x42 =>
 (at_ x2 x31).bind fun x43 =>
 (at_ x2 x42).bind fun x44 =>
 (app_ 32 x41 ([(Side.mk x42 1 0 (decide (x44 < x43)) (decide (x44 < x43)) (!(decide (x44 < x43))) (decide (x44 < x43)) (!(decide (x44 < x43))))])).bind fun x45 =>
 some (.inl (wr (x40 + 1), x45))) (
 Option.map Sum.inr ((f_place_Table_j2 F x31 x32) x41))
theorem le_place_Table_l2 {F : Nat} {x2 : (List Int)} {x31 : Int} {x32 : (List Diner)} {x33 : (List Int)} : ∀ s, ole (f_place_Table_l2 F x2 x31 x32 x33 s) (m_place_Table_l2 x2 x31 x32 x33 s) := by
  rintro ⟨x40, x41⟩
  unfold f_place_Table_l2 m_place_Table_l2
  try dsimp only
  repeat' first | with_reducible exact ole_refl _ | assumption | intro _ | with_reducible refine ole_ifb ?_ ?_ | with_reducible refine ole_bind ?_ ?_ | with_reducible refine ole_map ?_ | with_reducible refine ole_loop ?_ | with_reducible apply le_place_Table_j1 | with_reducible apply le_place_Table_j2
def f_place_Table_l1 (F : Nat) (x1 : Graph) (x2 : (List Int)) : (Int × (List Diner)) → Option ((Int × (List Diner)) ⊕ ((List Diner) × Int))
| (x31, x32) =>
 ifb (decide (x31 < x1.N)) (
 (f_graph_Near F x1 x31).bind fun x33 =>
 loopF F (f_place_Table_l2 F x2 x31 x32 x33) (0, ([] : List Side))) (
 Option.map Sum.inr (f_place_Table_j1 F x32))
theorem le_place_Table_l1 {F : Nat} {x1 : Graph} {x2 : (List Int)} : ∀ s, ole (f_place_Table_l1 F x1 x2 s) (m_place_Table_l1 x1 x2 s) := by
  rintro ⟨x31, x32⟩
  unfold f_place_Table_l1 m_place_Table_l1
  try dsimp only
  repeat' first | with_reducible exact ole_refl _ | assumption | intro _ | with_reducible refine ole_ifb ?_ ?_ | with_reducible refine ole_bind ?_ ?_ | with_reducible refine ole_map ?_ | with_reducible refine ole_loop ?_ | with_reducible apply le_place_Table_j1 | with_reducible apply le_place_Table_j2 | with_reducible apply le_place_Table_l2 | with_reducible apply le_graph_Near
def f_place_Table (F : Nat) (x1 : Graph) (x2 : (List Int)) : Option ((List Diner) × Int) :=
 (f_graph_Check F x1).bind fun x3 =>
 ifb (!decide (x3 = 0)) (
 some (([] : (List Diner)), x3)) (
 (f_colour_Right F x1 x2).bind fun x4 =>
 ifb (!x4) (
 some (([] : (List Diner)), 120)) (
 loopF F (f_place_Table_l1 F x1 x2) (0, ([] : List Diner))))
theorem le_place_Table {F : Nat} {x1 : Graph} {x2 : (List Int)} : ole (f_place_Table F x1 x2) (m_place_Table x1 x2) := by
  unfold f_place_Table m_place_Table
  repeat' first | with_reducible exact ole_refl _ | assumption | intro _ | with_reducible refine ole_ifb ?_ ?_ | with_reducible refine ole_bind ?_ ?_ | with_reducible refine ole_map ?_ | with_reducible refine ole_loop ?_ | with_reducible apply le_place_Table_j1 | with_reducible apply le_place_Table_j2 | with_reducible apply le_place_Table_l2 | with_reducible apply le_graph_Near | with_reducible apply le_place_Table_l1 | with_reducible apply le_graph_Check | with_reducible apply le_colour_Right
end NX
end Go.Proofs.Ytadebhbiglmodaa
/-
  The function narthex/place.Side$1: its code compiled, a model, and that the code answers as the model. Written by a program of ours (lb.py). No statement of the seat is proved here.
-/
namespace Go.Proofs.Ytadebhbiglmodaa
namespace NX
open Go
set_option maxRecDepth 100000
set_option maxHeartbeats 4000000
def e_place_Side_1 : EC := .seq (.reg [⟨(some 2), none, .box 49 8 (.t 0)⟩, ⟨(some 3), none, .mv (.c .ff)⟩]) (.seq (.reg [⟨(some 4), none, .fld 0 (.t 2)⟩, ⟨(some 5), none, .load (.t 4)⟩, ⟨(some 6), none, .load (.t 1)⟩, ⟨(some 7), none, .bin .eql (.t 5) (.t 6)⟩, ⟨(some 3), none, .mv (.t 7)⟩]) (.ret))
theorem ok_place_Side_1 : FnOK Try.prog 56 Try.f56 e_place_Side_1 [.t 3] 2 6 := ⟨by kernel_rfl, ⟨_, rfl, by kernel_rfl⟩, by kernel_rfl, by kernel_rfl⟩
/- narthex/place.Side$1 -/
noncomputable def m_place_Side_1 (x1 : Side) (x2 : Int) : Option Bool :=
 some (decide (x1.Peer = x2))
theorem k_place_Side_1 (x1 : Side) (x2 : Int) (r : Bool) (h : m_place_Side_1 x1 x2 = some r) : FunP Try.prog 56 [.agg (Side.row x1), .elt (intRow x2) 0] (.bv r) := by
  refine FunP_intro ok_place_Side_1 rfl rfl fun w0 H0 => ?_
  rw [m_place_Side_1] at h
  refine V_go 13 ?_
  dsimp only [e_place_Side_1, go_sem, Nat.reduceBEq, Nat.reduceAdd]
  refine ⟨by simp, ?_⟩
  exact M_done (res := fun (r : Bool) => .bv r) ok_place_Side_1 h (by first | exact le_refl _ | simp [go_sem])
def f_place_Side_1 (F : Nat) (x1 : Side) (x2 : Int) : Option Bool :=
 some (decide (x1.Peer = x2))
theorem le_place_Side_1 {F : Nat} {x1 : Side} {x2 : Int} : ole (f_place_Side_1 F x1 x2) (m_place_Side_1 x1 x2) := by
  unfold f_place_Side_1 m_place_Side_1
  repeat' first | with_reducible exact ole_refl _ | assumption | intro _ | with_reducible refine ole_ifb ?_ ?_ | with_reducible refine ole_bind ?_ ?_ | with_reducible refine ole_map ?_ | with_reducible refine ole_loop ?_
end NX
end Go.Proofs.Ytadebhbiglmodaa
/-
  The function narthex/place.Side: its code compiled, a model, and that the code answers as the model. Written by a program of ours (lb.py). No statement of the seat is proved here.
-/
namespace Go.Proofs.Ytadebhbiglmodaa
namespace NX
open Go
set_option maxRecDepth 100000
set_option maxHeartbeats 4000000
def e_place_Side : EC := .seq (.reg [⟨(some 2), none, .box 39 3 (.t 0)⟩, ⟨(some 3), none, .box 3 1 (.t 1)⟩, ⟨(some 4), none, .alloc 49 [.iv 0, .iv 0, .iv 0, .ff, .ff, .ff, .ff, .ff]⟩, ⟨(some 5), none, .mv (.c .ff)⟩]) (.seq (.reg [⟨(some 7), none, .fld 2 (.t 2)⟩, ⟨(some 8), none, .load (.t 7)⟩, ⟨(some 9), none, .mkf 56 [(.t 3)]⟩, ⟨(some 10), none, .call 55 [(.t 8), (.t 9)]⟩, ⟨(some 6), none, .mv (.t 10)⟩]) (.seq (.seq (.reg [⟨(some 11), none, .mv (.t 6)⟩, ⟨(some 12), none, .bin .lss (.t 11) (.c (.iv 0))⟩]) (.ite (.t 12) (.seq (.reg [⟨(some 13), none, .build [.iv 0, .iv 0, .iv 0, .ff, .ff, .ff, .ff, .ff] []⟩, ⟨none, none, .store 8 (.t 4) (.t 13)⟩, ⟨(some 5), none, .mv (.c .ff)⟩]) (.ret)) (.skip))) (.seq (.reg [⟨(some 14), none, .fld 2 (.t 2)⟩, ⟨(some 15), none, .load (.t 14)⟩, ⟨(some 16), none, .mv (.t 6)⟩, ⟨(some 17), none, .idx 8 (.t 15) (.t 16)⟩, ⟨(some 18), none, .loadA 8 (.t 17)⟩, ⟨none, none, .store 8 (.t 4) (.t 18)⟩, ⟨(some 5), none, .mv (.c .tt)⟩]) (.ret))))
theorem ok_place_Side : FnOK Try.prog 24 Try.f24 e_place_Side [.c 4 (some 8), .t 5] 2 17 := ⟨by kernel_rfl, ⟨_, rfl, by kernel_rfl⟩, by kernel_rfl, by kernel_rfl⟩
/- narthex/place.Side -/
noncomputable def m_place_Side (x1 : Diner) (x2 : Int) : Option (Side × Bool) :=
 (m_slices_IndexFunc_Side x1.Sides ((fun z => m_place_Side_1 z x2))).bind fun x3 =>
 ifb (decide (x3 < 0)) (
 some ((Side.mk 0 0 0 false false false false false), false)) (
 (at_ x1.Sides x3).bind fun x4 =>
 some (x4, true))
theorem k_place_Side (x1 : Diner) (x2 : Int) (r : (Side × Bool)) (h : m_place_Side x1 x2 = some r) : FunP Try.prog 24 [.agg (Diner.row x1), .iv x2] (.tup [.agg (Side.row r.1), .bv r.2]) := by
  refine FunP_intro ok_place_Side rfl rfl fun w0 H0 => ?_
  rw [m_place_Side] at h
  refine V_go 12 ?_
  dsimp only [e_place_Side, go_sem, Nat.reduceBEq, Nat.reduceAdd]
  refine ⟨by simp, ?_⟩
  obtain ⟨x3, ex3, h⟩ := Option.bind_eq_some_iff.1 h
  refine V_callL trivial ((Lend.refl _).block 1 rfl rfl) (k_slices_IndexFunc_Side x1.Sides _ _ ((fun z => m_place_Side_1 z x2)) ⟨by kernel_rfl, rfl, fun z r hz => k_place_Side_1 z x2 r hz⟩ _ ex3) (by first | exact leL_refl _ | simp [go_sem]) (by first | rfl | simp [go_sem]) rfl ?_
  refine V_go 8 ?_
  dsimp only [e_place_Side, go_sem, Nat.reduceBEq, Nat.reduceAdd]
  refine ⟨by simp, ?_⟩
  refine M_ite h rfl (fun hb h => ?_) (fun hb h => ?_)
  · refine V_go 6 ?_
    dsimp only [e_place_Side, go_sem, Nat.reduceBEq, Nat.reduceAdd]
    refine ⟨by simp, ?_⟩
    exact M_done (res := fun (r : (Side × Bool)) => .tup [.agg (Side.row r.1), .bv r.2]) ok_place_Side h (by first | exact le_refl _ | simp [go_sem])
  · refine V_go 6 ?_
    dsimp only [e_place_Side, go_sem, Nat.reduceBEq, Nat.reduceAdd]
    refine ⟨by simp, ?_⟩
    obtain ⟨x4, ex4, h⟩ := Option.bind_eq_some_iff.1 h
    refine V_idxM Side.row ex4 trivial rfl rfl rfl ?_
    refine V_go 4 ?_
    dsimp only [e_place_Side, go_sem, Nat.reduceBEq, Nat.reduceAdd]
    refine ⟨by simp, ?_⟩
    exact M_done (res := fun (r : (Side × Bool)) => .tup [.agg (Side.row r.1), .bv r.2]) ok_place_Side h (by first | exact le_refl _ | simp [go_sem])
def f_place_Side (F : Nat) (x1 : Diner) (x2 : Int) : Option (Side × Bool) :=
 (f_slices_IndexFunc_Side F x1.Sides ((fun z => f_place_Side_1 F z x2))).bind fun x3 =>
 ifb (decide (x3 < 0)) (
 some ((Side.mk 0 0 0 false false false false false), false)) (
 (at_ x1.Sides x3).bind fun x4 =>
 some (x4, true))
theorem le_place_Side {F : Nat} {x1 : Diner} {x2 : Int} : ole (f_place_Side F x1 x2) (m_place_Side x1 x2) := by
  unfold f_place_Side m_place_Side
  repeat' first | with_reducible exact ole_refl _ | assumption | intro _ | with_reducible refine ole_ifb ?_ ?_ | with_reducible refine ole_bind ?_ ?_ | with_reducible refine ole_map ?_ | with_reducible refine ole_loop ?_ | with_reducible apply le_slices_IndexFunc_Side | with_reducible apply le_place_Side_1
end NX
end Go.Proofs.Ytadebhbiglmodaa
