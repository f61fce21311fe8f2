/-
  The function slices.Compact[[]int,int]: its code compiled, a model, and that the code answers as the model. Written by a program of ours (lb.py). No statement of the seat is proved here.
-/
import Derived.KernelRfl
import Derived.Test.YtadebhbiglmodaaP2
namespace Go.Proofs.Ytadebhbiglmodaa
namespace NX
open Go
set_option maxRecDepth 100000
set_option maxHeartbeats 4000000
def e113_L1 : EC := .seq (.seq (.reg [⟨(some 29), none, .mv (.t 5)⟩, ⟨(some 30), none, .mv (.t 4)⟩, ⟨(some 31), none, .len (.t 30)⟩, ⟨(some 32), none, .bin .lss (.t 29) (.t 31)⟩]) (.ite (.t 32) (.skip) (.exit 2))) (.seq (.blk 3 (.seq (.drw [⟨(some 35), none, .mv (.t 4)⟩, ⟨(some 36), none, .mv (.t 5)⟩, ⟨(some 37), none, .idx 1 (.t 35) (.t 36)⟩, ⟨(some 38), none, .load (.t 37)⟩, ⟨(some 39), none, .mv (.t 4)⟩, ⟨(some 40), none, .mv (.t 5)⟩, ⟨(some 41), none, .bin .sub (.t 40) (.c (.iv 1))⟩, ⟨(some 42), none, .idx 1 (.t 39) (.t 41)⟩, ⟨(some 43), none, .load (.t 42)⟩, ⟨(some 44), none, .bin .neq (.t 38) (.t 43)⟩] [[], [], [0, 1], [2], [], [], [5], [4, 6], [7], [3, 8]] [[2], [2], [0, 1, 3], [2, 9], [7], [6], [5, 7], [4, 6, 8], [7, 9], [3, 8]]) (.ite (.t 44) (.seq (.reg [⟨(some 45), none, .mv (.t 0)⟩, ⟨(some 46), none, .mv (.t 3)⟩, ⟨(some 47), none, .mv (.t 4)⟩, ⟨(some 48), none, .mv (.t 5)⟩, ⟨(some 49), none, .idx 1 (.t 47) (.t 48)⟩, ⟨(some 50), none, .load (.t 49)⟩, ⟨(some 51), none, .idx 1 (.t 45) (.t 46)⟩, ⟨none, none, .store 1 (.t 51) (.t 50)⟩]) (.reg [⟨(some 52), none, .mv (.t 3)⟩, ⟨(some 53), none, .bin .add (.t 52) (.c (.iv 1))⟩, ⟨(some 3), none, .mv (.t 53)⟩])) (.skip)))) (.reg [⟨(some 33), none, .mv (.t 5)⟩, ⟨(some 34), none, .bin .add (.t 33) (.c (.iv 1))⟩, ⟨(some 5), none, .mv (.t 34)⟩]))
def e113_L0 : EC := .seq (.seq (.reg [⟨(some 10), none, .mv (.t 3)⟩, ⟨(some 11), none, .mv (.t 0)⟩, ⟨(some 12), none, .len (.t 11)⟩, ⟨(some 13), none, .bin .lss (.t 10) (.t 12)⟩]) (.ite (.t 13) (.skip) (.exit 0))) (.seq (.blk 1 (.seq (.drw [⟨(some 16), none, .mv (.t 0)⟩, ⟨(some 17), none, .mv (.t 3)⟩, ⟨(some 18), none, .idx 1 (.t 16) (.t 17)⟩, ⟨(some 19), none, .load (.t 18)⟩, ⟨(some 20), none, .mv (.t 0)⟩, ⟨(some 21), none, .mv (.t 3)⟩, ⟨(some 22), none, .bin .sub (.t 21) (.c (.iv 1))⟩, ⟨(some 23), none, .idx 1 (.t 20) (.t 22)⟩, ⟨(some 24), none, .load (.t 23)⟩, ⟨(some 25), none, .bin .eql (.t 19) (.t 24)⟩] [[], [], [0, 1], [2], [], [], [5], [4, 6], [7], [3, 8]] [[2], [2], [0, 1, 3], [2, 9], [7], [6], [5, 7], [4, 6, 8], [7, 9], [3, 8]]) (.ite (.t 25) (.seq (.reg [⟨(some 26), none, .mv (.t 0)⟩, ⟨(some 27), none, .mv (.t 3)⟩, ⟨(some 28), none, .slice 1 (.t 26) (some (.t 27)) none⟩, ⟨(some 4), none, .mv (.t 28)⟩]) (.seq (.seq (.reg [⟨(some 5), none, .mv (.c (.iv 1))⟩]) (.blk 2 (.loop e113_L1))) (.seq (.reg [⟨(some 54), none, .mv (.t 0)⟩, ⟨(some 55), none, .mv (.t 3)⟩, ⟨(some 56), none, .slice 1 (.t 54) (some (.t 55)) none⟩, ⟨none, none, .bad⟩]) (.seq (.reg [⟨(some 57), none, .mv (.t 0)⟩, ⟨(some 58), none, .mv (.t 3)⟩, ⟨(some 59), none, .slice 1 (.t 57) none (some (.t 58))⟩, ⟨(some 2), none, .mv (.t 59)⟩]) (.ret))))) (.skip)))) (.reg [⟨(some 14), none, .mv (.t 3)⟩, ⟨(some 15), none, .bin .add (.t 14) (.c (.iv 1))⟩, ⟨(some 3), none, .mv (.t 15)⟩]))
def e113 : EC := .seq (.reg [⟨(some 2), none, .mv (.c .nl)⟩]) (.seq (.seq (.reg [⟨(some 6), none, .mv (.t 0)⟩, ⟨(some 7), none, .len (.t 6)⟩, ⟨(some 8), none, .bin .lss (.t 7) (.c (.iv 2))⟩]) (.ite (.t 8) (.seq (.reg [⟨(some 9), none, .mv (.t 0)⟩, ⟨(some 2), none, .mv (.t 9)⟩]) (.ret)) (.skip))) (.seq (.seq (.reg [⟨(some 3), none, .mv (.c (.iv 1))⟩]) (.blk 0 (.loop e113_L0))) (.seq (.reg [⟨(some 60), none, .mv (.t 0)⟩, ⟨(some 2), none, .mv (.t 60)⟩]) (.ret))))
theorem ok113 : FnOK Try.prog 113 Try.f113 e113 [.t 2] 1 60 := ⟨by kernel_rfl, ⟨_, rfl, by kernel_rfl⟩, by kernel_rfl, by kernel_rfl⟩
/- slices.Compact[[]int,int] -/
noncomputable def m_slices_Compact_int_j1 (x1 : (List Int)) : Unit → Option (List Int)
| () =>
 some x1
noncomputable def m_slices_Compact_int_l1 (x1 : (List Int)) : Int → Option (Int ⊕ (List Int))
| x21 =>
 ifb (decide (x21 < (ln intRow x1))) (
 (at_ x1 x21).bind fun x22 =>
 (at_ x1 (wr (x21 - 1))).bind fun x23 =>
 ifb (decide (x22 = x23)) (
 none) (
 some (.inl (wr (x21 + 1))))) (
 Option.map Sum.inr ((m_slices_Compact_int_j1 x1) ()))
noncomputable def m_slices_Compact_int (x1 : (List Int)) : Option (List Int) :=
 ifb (decide ((ln intRow x1) < 2)) (
 some x1) (
 loop (m_slices_Compact_int_l1 x1) 1)
theorem k_slices_Compact_int (x1 : (List Int)) (r : (List Int)) (h : m_slices_Compact_int x1 = some r) : FunP Try.prog 113 [.sl 1 (List.map intRow x1)] (.sl 1 (List.map intRow r)) := by
  refine FunP_intro ok113 rfl rfl fun w0 H0 => ?_
  rw [m_slices_Compact_int] at h
  refine V_go 11 ?_; dsimp only [e113, e113_L0, e113_L1, go_sem, Nat.reduceBEq, Nat.reduceAdd]; refine ⟨by simp, ?_⟩; refine M_ite h rfl (fun _ h => ?_) fun _ h => ?_
  ·refine V_go 5 ?_; dsimp only [e113, e113_L0, e113_L1, go_sem, Nat.reduceBEq, Nat.reduceAdd]; refine ⟨by simp, ?_⟩; exact M_done (res := fun (r : (List Int)) => .sl 1 (List.map intRow r)) ok113 h
  ·refine V_go 6 ?_; dsimp only [e113, e113_L0, e113_L1, go_sem, Nat.reduceBEq, Nat.reduceAdd]; refine ⟨by simp, ?_⟩; refine V_join (fun (_ : Unit) => (⟨(.sl 1 (List.map intRow x1) :: an 60 []), [], []⟩ : St)) (m_slices_Compact_int_j1 x1) r ?_ fun J1 => ?_
   ·rintro ⟨⟩ h; rw [m_slices_Compact_int_j1] at h; (try dsimp only); refine V_go 5 ?_; dsimp only [e113, e113_L0, e113_L1, go_sem, Nat.reduceBEq, Nat.reduceAdd]; refine ⟨by simp, ?_⟩; exact M_done (res := fun (r : (List Int)) => .sl 1 (List.map intRow r)) ok113 h
   ·refine V_go 1 ?_; dsimp only [e113, e113_L0, e113_L1, go_sem, Nat.reduceBEq, Nat.reduceAdd]; refine ⟨by simp, ?_⟩; refine M_loop h (fun (x21 : Int) => (⟨(.sl 1 (List.map intRow x1) :: .any :: .any :: .iv x21 :: an 57 []), [], []⟩ : St)) (by simp [go_sem]) (by intro x21; first | rfl | simp [go_sem]) ?_; rintro n1 x21 y1 h hin1 hout1; rw [m_slices_Compact_int_l1] at h; (try dsimp only); refine V_go 8 ?_; dsimp only [e113, e113_L0, e113_L1, go_sem, Nat.reduceBEq, Nat.reduceAdd]; refine ⟨by simp, ?_⟩; refine M_ite h rfl (fun _ h => ?_) fun _ h => ?_
    ·refine V_go 4 ?_; dsimp only [e113, e113_L0, e113_L1, go_sem, Nat.reduceBEq, Nat.reduceAdd]; refine ⟨by simp, ?_⟩; refine V_drw (by kernel_rfl) fun all hall hs hnap haf => ?_; dsimp only [go_sem, Nat.reduceBEq, Nat.reduceAdd]; refine G_goN hall hs haf hnap 5 5 ?_; dsimp only [go_sem, Nat.reduceBEq, Nat.reduceAdd]; refine ⟨by simp, ?_⟩; obtain ⟨x22, ex22, h⟩ := Option.bind_eq_some_iff.1 h; refine G_idxM hall hs haf hnap 2 intRow ex22 rfl rfl trivial rfl rfl rfl rfl ?_; refine G_goN hall hs haf hnap 1 3 ?_; dsimp only [go_sem, Nat.reduceBEq, Nat.reduceAdd]; refine ⟨by simp, ?_⟩
     obtain ⟨x23, ex23, h⟩ := Option.bind_eq_some_iff.1 h; refine G_idxM hall hs haf hnap 7 intRow ex23 rfl rfl trivial rfl rfl rfl rfl ?_; refine G_goN hall hs haf hnap 2 0 ?_; dsimp only [go_sem, Nat.reduceBEq, Nat.reduceAdd]; refine ⟨by simp, ?_⟩; refine G_done rfl ?_ _; refine M_ite h rfl (fun _ h => ?_) fun _ h => ?_
     ·cases h
     ·refine V_go 7 ?_; dsimp only [e113, e113_L0, e113_L1, go_sem, Nat.reduceBEq, Nat.reduceAdd]; refine ⟨by simp, ?_⟩; exact M_back h hin1
    ·refine V_go 1 ?_; dsimp only [e113, e113_L0, e113_L1, go_sem, Nat.reduceBEq, Nat.reduceAdd]; refine ⟨by simp, ?_⟩; exact M_to J1 (s := ()) (M_out h hout1)
def f_slices_Compact_int_j1 (_F : Nat) (x1 : (List Int)) : Unit → Option (List Int)
| () =>
 some x1
theorem le_slices_Compact_int_j1 {F : Nat} {x1 : (List Int)} : ∀ s, ole (f_slices_Compact_int_j1 F x1 s) (m_slices_Compact_int_j1 x1 s) := by
  rintro ⟨⟩
  unfold f_slices_Compact_int_j1 m_slices_Compact_int_j1
  try dsimp only
  with_reducible repeat' first | exact ole_refl _ | assumption | intro _ | refine ole_ifb ?_ ?_ | refine ole_bind ?_ ?_ | refine ole_map ?_ | refine ole_loop ?_
def f_slices_Compact_int_l1 (F : Nat) (x1 : (List Int)) : Int → Option (Int ⊕ (List Int))
| x21 =>
 ifb (decide (x21 < (ln intRow x1))) (
 (at_ x1 x21).bind fun x22 =>
 (at_ x1 (wr (x21 - 1))).bind fun x23 =>
 ifb (decide (x22 = x23)) (
 none) (
 some (.inl (wr (x21 + 1))))) (
 Option.map Sum.inr ((f_slices_Compact_int_j1 F x1) ()))
theorem le_slices_Compact_int_l1 {F : Nat} {x1 : (List Int)} : ∀ s, ole (f_slices_Compact_int_l1 F x1 s) (m_slices_Compact_int_l1 x1 s) := by
  intro x21
  unfold f_slices_Compact_int_l1 m_slices_Compact_int_l1
  try dsimp only
  with_reducible repeat' first | exact ole_refl _ | assumption | intro _ | refine ole_ifb ?_ ?_ | refine ole_bind ?_ ?_ | refine ole_map ?_ | refine ole_loop ?_ | apply le_slices_Compact_int_j1
def f_slices_Compact_int (F : Nat) (x1 : (List Int)) : Option (List Int) :=
 ifb (decide ((ln intRow x1) < 2)) (
 some x1) (
 loopF F (f_slices_Compact_int_l1 F x1) 1)
theorem le_slices_Compact_int {F : Nat} {x1 : (List Int)} : ole (f_slices_Compact_int F x1) (m_slices_Compact_int x1) := by
  unfold f_slices_Compact_int m_slices_Compact_int
  with_reducible repeat' first | exact ole_refl _ | assumption | intro _ | refine ole_ifb ?_ ?_ | refine ole_bind ?_ ?_ | refine ole_map ?_ | refine ole_loop ?_ | apply le_slices_Compact_int_j1 | apply le_slices_Compact_int_l1
end NX
end Go.Proofs.Ytadebhbiglmodaa
/-
  The function narthex/set.Of: its code compiled, a model, and that the code answers as the model. Written by a program of ours (lb.py). No statement of the seat is proved here.
-/
namespace Go.Proofs.Ytadebhbiglmodaa
namespace NX
open Go
set_option maxRecDepth 100000
def laysSort_ren : Go.Shelf.Ren := ⟨(fun | 189 => 112 | 125 => 128 | 257 => 127 | 128 => 142 | 129 => 143 | 294 => 133 | 295 => 134 | 296 => 135 | 297 => 136 | 298 => 137 | 299 => 138 | 216 => 139 | 300 => 140 | 301 => 141 | 328 => 146 | 329 => 147 | 330 => 148 | 331 => 149 | 332 => 150 | 215 => 126 | 343 => 151 | n => n), (fun | 28 => 25 | 3 => 3 | 46 => 151 | 0 => 0 | 51 => 167 | 53 => 169 | 4 => 4 | 183 => 159 | 182 => 158 | 131 => 164 | 5 => 5 | 9 => 9 | 218 => 174 | 222 => 178 | 228 => 180 | 229 => 181 | n => n), (fun  | n => n)⟩
theorem laysSort : Lays.n189 Try.prog laysSort_ren where
  mixed := by kernel_rfl
  f125 := Try.func128.trans (congrArg some (by kernel_rfl))
  f128 := Try.func142.trans (congrArg some (by kernel_rfl))
  f129 := Try.func143.trans (congrArg some (by kernel_rfl))
  f189 := Try.func112.trans (congrArg some (by kernel_rfl))
  f215 := Try.func126.trans (congrArg some (by kernel_rfl))
  f216 := Try.func139.trans (congrArg some (by kernel_rfl))
  f257 := Try.func127.trans (congrArg some (by kernel_rfl))
  f294 := Try.func133.trans (congrArg some (by kernel_rfl))
  f295 := Try.func134.trans (congrArg some (by kernel_rfl))
  f296 := Try.func135.trans (congrArg some (by kernel_rfl))
  f297 := Try.func136.trans (congrArg some (by kernel_rfl))
  f298 := Try.func137.trans (congrArg some (by kernel_rfl))
  f299 := Try.func138.trans (congrArg some (by kernel_rfl))
  f300 := Try.func140.trans (congrArg some (by kernel_rfl))
  f301 := Try.func141.trans (congrArg some (by kernel_rfl))
  f328 := Try.func146.trans (congrArg some (by kernel_rfl))
  f329 := Try.func147.trans (congrArg some (by kernel_rfl))
  f330 := Try.func148.trans (congrArg some (by kernel_rfl))
  f331 := Try.func149.trans (congrArg some (by kernel_rfl))
  f332 := Try.func150.trans (congrArg some (by kernel_rfl))
  f343 := Try.func151.trans (congrArg some (by kernel_rfl))
  t0 := Try.underlying0
  a0 := Try.isAgg0
  z0 := Try.sizeOf0
  v0 := Try.zeroValue0
  t3 := Try.underlying3
  a3 := Try.isAgg3
  z3 := Try.sizeOf3
  v3 := Try.zeroValue3
  t4 := Try.underlying4
  a4 := Try.isAgg4
  z4 := Try.sizeOf4
  v4 := Try.zeroValue4
  t5 := Try.underlying5
  a5 := Try.isAgg5
  z5 := Try.sizeOf5
  v5 := Try.zeroValue5
  t9 := Try.underlying9
  a9 := Try.isAgg9
  z9 := Try.sizeOf9
  v9 := Try.zeroValue9
  t28 := Try.underlying25
  a28 := Try.isAgg25
  z28 := Try.sizeOf25
  v28 := Try.zeroValue25
  t46 := Try.underlying151
  a46 := Try.isAgg151
  z46 := Try.sizeOf151
  v46 := Try.zeroValue151
  t51 := Try.underlying167
  a51 := Try.isAgg167
  z51 := Try.sizeOf167
  v51 := Try.zeroValue167
  t53 := Try.underlying169
  a53 := Try.isAgg169
  z53 := Try.sizeOf169
  v53 := Try.zeroValue169
  t131 := Try.underlying164
  a131 := Try.isAgg164
  z131 := Try.sizeOf164
  v131 := Try.zeroValue164
  t182 := Try.underlying158
  a182 := Try.isAgg158
  z182 := Try.sizeOf158
  v182 := Try.zeroValue158
  t183 := Try.underlying159
  a183 := Try.isAgg159
  z183 := Try.sizeOf159
  v183 := Try.zeroValue159
  t218 := Try.underlying174
  a218 := Try.isAgg174
  z218 := Try.sizeOf174
  v218 := Try.zeroValue174
  t222 := Try.underlying178
  a222 := Try.isAgg178
  z222 := Try.sizeOf178
  v222 := Try.zeroValue178
  t228 := Try.underlying180
  a228 := Try.isAgg180
  z228 := Try.sizeOf180
  v228 := Try.zeroValue180
  t229 := Try.underlying181
  a229 := Try.isAgg181
  z229 := Try.sizeOf181
  v229 := Try.zeroValue181


def e85 : EC := .seq (.reg [⟨(some 2), none, .mv (.c .nl)⟩]) (.seq (.reg [⟨(some 4), none, .mv (.t 0)⟩, ⟨(some 5), none, .call 89 [(.t 4)]⟩, ⟨(some 3), none, .mv (.t 5)⟩]) (.seq (.reg [⟨(some 6), none, .mv (.t 3)⟩, ⟨(some 7), none, .call 112 [(.t 6)]⟩]) (.seq (.reg [⟨(some 8), none, .mv (.t 3)⟩, ⟨(some 9), none, .call 113 [(.t 8)]⟩, ⟨(some 2), none, .mv (.t 9)⟩]) (.ret))))
theorem ok85 : FnOK Try.prog 85 Try.f85 e85 [.t 2] 1 9 := ⟨by kernel_rfl, ⟨_, rfl, by kernel_rfl⟩, by kernel_rfl, by kernel_rfl⟩
noncomputable def m_set_Of (x1 : List Int) : Option (List Int) :=
  (m_slices_Clone_int x1).bind fun x2 =>
  ifb (decide (x2.length < 4611686018427387904)) (
  m_slices_Compact_int (x2.mergeSort fun x y => decide (x ≤ y))) none
theorem k_set_Of (x1 : List Int) (r : List Int) (h : m_set_Of x1 = some r) : FunP Try.prog 85 [.sl 1 (List.map intRow x1)] (.sl 1 (List.map intRow r)) := by
  refine FunP_intro ok85 rfl rfl fun w0 H0 => ?_
  rw [m_set_Of] at h
  refine V_go 100 ?_
  dsimp only [e85, go_sem, Nat.reduceBEq, Nat.reduceAdd]
  refine ⟨by simp, ?_⟩
  obtain ⟨x2, ex2, h⟩ := Option.bind_eq_some_iff.1 h
  refine V_callO trivial (o_slices_Clone_int x1 _ ex2) (by first | exact leL_refl _ | simp [go_sem]) (by first | rfl | simp [go_sem]) ?_
  refine V_go 100 ?_
  dsimp only [e85, go_sem, Nat.reduceBEq, Nat.reduceAdd]
  refine ⟨by simp, ?_⟩
  by_cases hl : x2.length < 4611686018427387904
  · rw [show decide (x2.length < 4611686018427387904) = true from decide_eq_true hl] at h
    have h : m_slices_Compact_int (x2.mergeSort fun x y => decide (x ≤ y)) = some r := h
    refine V_sort laysSort x2 trivial (by kernel_rfl) rfl rfl hl ?_
    refine V_go 100 ?_
    dsimp only [e85, go_sem, Nat.reduceBEq, Nat.reduceAdd]
    refine ⟨by simp, ?_⟩
    refine V_seal 0 rfl ?_
    dsimp only [go_sem, Nat.reduceBEq, Nat.reduceAdd]
    refine V_call trivial (k_slices_Compact_int _ _ h) (by first | exact leL_refl _ | simp [go_sem]) (by first | rfl | simp [go_sem]) ?_
    refine V_go 100 ?_
    dsimp only [e85, go_sem, Nat.reduceBEq, Nat.reduceAdd]
    refine ⟨by simp, ?_⟩
    exact M_done (res := fun (r : List Int) => .sl 1 (List.map intRow r)) ok85 rfl (by first | exact le_refl _ | simp [go_sem])
  · rw [show decide (x2.length < 4611686018427387904) = false from decide_eq_false hl] at h
    cases h
def f_set_Of (F : Nat) (x1 : List Int) : Option (List Int) :=
  (f_slices_Clone_int F x1).bind fun x2 =>
  ifb (decide (x2.length < 4611686018427387904)) (
  f_slices_Compact_int F (x2.mergeSort fun x y => decide (x ≤ y))) none
theorem le_set_Of {F : Nat} {x1 : List Int} : ole (f_set_Of F x1) (m_set_Of x1) := by
  unfold f_set_Of m_set_Of
  repeat' first | with_reducible exact ole_refl _ | intro _ | with_reducible refine ole_ifb ?_ ?_ | with_reducible refine ole_bind ?_ ?_ | with_reducible apply le_slices_Clone_int | with_reducible apply le_slices_Compact_int
end NX
end Go.Proofs.Ytadebhbiglmodaa
/-
  The function narthex/graph.Near: its code compiled, a model, and that the code answers as the model. Written by a program of ours (lb.py). No statement of the seat is proved here.
-/
namespace Go.Proofs.Ytadebhbiglmodaa
namespace NX
open Go
set_option maxRecDepth 100000
set_option maxHeartbeats 4000000
def e51_L0 : EC := .seq (.reg [⟨(some 15), none, .bin .lss (.t 14) (.t 13)⟩]) (.seq (.ite (.t 15) (.skip) (.exit 0)) (.seq (.blk 1 (.seq (.reg [⟨(some 16), none, .idx 2 (.t 12) (.t 14)⟩, ⟨(some 17), none, .loadA 2 (.t 16)⟩, ⟨(some 7), none, .alloc 58 [.iv 0, .iv 0]⟩, ⟨none, none, .store 2 (.t 7) (.t 17)⟩]) (.seq (.reg [⟨(some 18), none, .mv (.t 1)⟩]) (.blk 2 (.seq (.reg [⟨(some 20), none, .fld 0 (.t 7)⟩, ⟨(some 21), none, .load (.t 20)⟩, ⟨(some 22), none, .bin .eql (.t 18) (.t 21)⟩, ⟨(some 19), none, .mv (.t 22)⟩]) (.ite (.t 19) (.reg [⟨(some 23), none, .mv (.t 5)⟩, ⟨(some 24), none, .fld 1 (.t 7)⟩, ⟨(some 25), none, .load (.t 24)⟩, ⟨(some 26), none, .bsl 3 1 1 [.iv 0] [(0, (.t 25))]⟩, ⟨(some 27), none, .app 3 1 8 (.t 23) (.t 26)⟩, ⟨(some 5), none, .mv (.t 27)⟩]) (.seq (.reg [⟨(some 29), none, .fld 1 (.t 7)⟩, ⟨(some 30), none, .load (.t 29)⟩, ⟨(some 31), none, .bin .eql (.t 18) (.t 30)⟩, ⟨(some 28), none, .mv (.t 31)⟩]) (.ite (.t 28) (.reg [⟨(some 32), none, .mv (.t 5)⟩, ⟨(some 33), none, .fld 0 (.t 7)⟩, ⟨(some 34), none, .load (.t 33)⟩, ⟨(some 35), none, .bsl 3 1 1 [.iv 0] [(0, (.t 34))]⟩, ⟨(some 36), none, .app 3 1 8 (.t 32) (.t 35)⟩, ⟨(some 5), none, .mv (.t 36)⟩]) (.skip))))))))) (.reg [⟨(some 37), none, .bin .add (.t 14) (.c (.iv 1))⟩, ⟨(some 14), none, .mv (.t 37)⟩])))
def e51 : EC := .seq (.reg [⟨(some 2), none, .box 24 2 (.t 0)⟩, ⟨(some 4), none, .mv (.c .nl)⟩]) (.seq (.seq (.reg [⟨(some 8), none, .loadA 2 (.t 2)⟩, ⟨(some 9), none, .call 49 [(.t 8)]⟩, ⟨(some 10), none, .bin .neq (.t 9) (.c (.iv 0))⟩]) (.ite (.t 10) (.seq (.reg [⟨(some 4), none, .mv (.c .nl)⟩]) (.ret)) (.skip))) (.seq (.reg [⟨(some 5), none, .mv (.c .nl)⟩]) (.seq (.seq (.reg [⟨(some 11), none, .fld 1 (.t 2)⟩, ⟨(some 12), none, .load (.t 11)⟩, ⟨(some 13), none, .len (.t 12)⟩, ⟨(some 14), none, .mv (.c (.iv 0))⟩]) (.blk 0 (.loop e51_L0))) (.seq (.reg [⟨(some 38), none, .mv (.t 5)⟩, ⟨(some 39), none, .call 85 [(.t 38)]⟩, ⟨(some 4), none, .mv (.t 39)⟩]) (.ret)))))
theorem ok51 : FnOK Try.prog 51 Try.f51 e51 [.t 4] 2 38 := ⟨by kernel_rfl, ⟨_, rfl, by kernel_rfl⟩, by kernel_rfl, by kernel_rfl⟩
/- narthex/graph.Near -/
noncomputable def m_graph_Near_j1  : (List Int) → Option (List Int)
| x23 =>
 (m_set_Of x23).bind fun x24 =>
 some x24
noncomputable def m_graph_Near_j2 (x10 : Int) : (List Int) → Option ((Int × (List Int)) ⊕ (List Int))
| x15 =>
 some (.inl (wr (x10 + 1), x15))
noncomputable def m_graph_Near_l1 (x1 : Graph) (x2 : Int) : (Int × (List Int)) → Option ((Int × (List Int)) ⊕ (List Int))
| (x10, x11) =>
 ifb (decide (x10 < (ln Edge.row x1.Edges))) (
 (at_ x1.Edges x10).bind fun x12 =>
 ifb (decide (x2 = x12.A)) (
 (app_ 8 x11 ([x12.B])).bind fun x13 =>
 (m_graph_Near_j2 x10) x13) (
 ifb (decide (x2 = x12.B)) (
 (app_ 8 x11 ([x12.A])).bind fun x14 =>
 (m_graph_Near_j2 x10) x14) (
 (m_graph_Near_j2 x10) x11))) (
 Option.map Sum.inr (m_graph_Near_j1 x11))
noncomputable def m_graph_Near (x1 : Graph) (x2 : Int) : Option (List Int) :=
 (m_graph_Check x1).bind fun x3 =>
 ifb (!decide (x3 = 0)) (
 some ([] : (List Int))) (
 loop (m_graph_Near_l1 x1 x2) (0, ([] : List Int)))
theorem k_graph_Near (x1 : Graph) (x2 : Int) (r : (List Int)) (h : m_graph_Near x1 x2 = some r) : FunP Try.prog 51 [.agg (Graph.row x1), .iv x2] (.sl 1 (List.map intRow r)) := by
  refine FunP_intro ok51 rfl rfl fun w0 H0 => ?_
  rw [m_graph_Near] at h
  refine V_go 9 ?_; dsimp only [e51, e51_L0, go_sem, Nat.reduceBEq, Nat.reduceAdd]; refine ⟨by simp, ?_⟩; obtain ⟨x3, ex3, h⟩ := Option.bind_eq_some_iff.1 h; refine V_call trivial (k_graph_Check x1 _ ex3) (h := ?_); refine V_go 2 ?_; dsimp only [e51, e51_L0, go_sem, Nat.reduceBEq, Nat.reduceAdd]; refine ⟨by simp, ?_⟩; refine M_ite h rfl (fun _ h => ?_) fun _ h => ?_
  ·refine V_go 4 ?_; dsimp only [e51, e51_L0, go_sem, Nat.reduceBEq, Nat.reduceAdd]; refine ⟨by simp, ?_⟩; exact M_done (res := fun (r : (List Int)) => .sl 1 (List.map intRow r)) ok51 h
  ·refine V_go 13 ?_; dsimp only [e51, e51_L0, go_sem, Nat.reduceBEq, Nat.reduceAdd]; refine ⟨by simp, ?_⟩; refine V_join (fun (x23 : (List Int)) => (⟨(an 5 (.osl 0 :: an 34 [])), [], [some ⟨3, 1, List.map intRow x23⟩]⟩ : St)) m_graph_Near_j1 r ?_ fun J1 => ?_
   ·intro x23 h; rw [m_graph_Near_j1] at h; (try dsimp only); refine V_go 3 ?_; dsimp only [e51, e51_L0, go_sem, Nat.reduceBEq, Nat.reduceAdd]; refine ⟨by simp, ?_⟩; refine V_seal 0 rfl ?_; dsimp only [go_sem, Nat.reduceBEq, Nat.reduceAdd]; obtain ⟨x24, ex24, h⟩ := Option.bind_eq_some_iff.1 h; refine V_call trivial (k_set_Of x23 _ ex24) (h := ?_); refine V_go 2 ?_; dsimp only [e51, e51_L0, go_sem, Nat.reduceBEq, Nat.reduceAdd]; refine ⟨by simp, ?_⟩; exact M_done (res := fun (r : (List Int)) => .sl 1 (List.map intRow r)) ok51 h
   ·refine V_go 1 ?_; dsimp only [e51, e51_L0, go_sem, Nat.reduceBEq, Nat.reduceAdd]; refine ⟨by simp, ?_⟩; refine V_own 5 3 1 rfl rfl ?_; dsimp only [go_sem, Nat.reduceBEq, Nat.reduceAdd]; refine M_loop h (fun ((x10, x11) : (Int × (List Int))) => (⟨(.any :: .iv x2 :: an 3 (.osl 0 :: an 6 (.sl 2 (List.map Edge.row x1.Edges) :: .iv (ln Edge.row x1.Edges) :: .iv x10 :: an 25 []))), [], [some ⟨3, 1, List.map intRow x11⟩]⟩ : St)) (by simp [go_sem]) (by rintro ⟨x10, x11⟩; first | rfl | simp [go_sem]) ?_; rintro n1 ⟨x10, x11⟩ y1 h hin1 hout1; rw [m_graph_Near_l1] at h; (try dsimp only)
    refine V_go 5 ?_; dsimp only [e51, e51_L0, go_sem, Nat.reduceBEq, Nat.reduceAdd]; refine ⟨by simp, ?_⟩; refine M_ite h rfl (fun _ h => ?_) fun _ h => ?_
    ·refine V_go 5 ?_; dsimp only [e51, e51_L0, go_sem, Nat.reduceBEq, Nat.reduceAdd]; refine ⟨by simp, ?_⟩; obtain ⟨x12, ex12, h⟩ := Option.bind_eq_some_iff.1 h; refine V_idxM Edge.row ex12 trivial rfl rfl rfl ?_; refine V_go 16 ?_; dsimp only [e51, e51_L0, go_sem, Nat.reduceBEq, Nat.reduceAdd]; refine ⟨by simp, ?_⟩; refine V_join (fun (x15 : (List Int)) => (⟨(.any :: .iv x2 :: an 3 (.osl 0 :: an 6 (.sl 2 (List.map Edge.row x1.Edges) :: .iv (ln Edge.row x1.Edges) :: .iv x10 :: an 25 []))), [], [some ⟨3, 1, List.map intRow x15⟩]⟩ : St)) (m_graph_Near_j2 x10) y1 ?_ fun J2 => ?_
     ·intro x15 h; rw [m_graph_Near_j2] at h; (try dsimp only); refine V_go 6 ?_; dsimp only [e51, e51_L0, go_sem, Nat.reduceBEq, Nat.reduceAdd]; refine ⟨by simp, ?_⟩; exact M_back h hin1
     ·refine M_ite h rfl (fun _ h => ?_) fun _ h => ?_
      ·refine V_go 5 ?_; dsimp only [e51, e51_L0, go_sem, Nat.reduceBEq, Nat.reduceAdd]; refine ⟨by simp, ?_⟩; obtain ⟨x13, ex13, h⟩ := Option.bind_eq_some_iff.1 h; refine V_appM intRow ex13 trivial rfl rfl rfl ?_; refine V_go 2 ?_; dsimp only [e51, e51_L0, go_sem, Nat.reduceBEq, Nat.reduceAdd]; refine ⟨by simp, ?_⟩; refine V_ren 2 0 rfl rfl rfl ?_; dsimp only [go_sem, Nat.reduceBEq, Nat.reduceAdd]; exact M_to J2 (s := x13) h
      ·refine V_go 7 ?_; dsimp only [e51, e51_L0, go_sem, Nat.reduceBEq, Nat.reduceAdd]; refine ⟨by simp, ?_⟩; refine M_ite h rfl (fun _ h => ?_) fun _ h => ?_
       ·refine V_go 5 ?_; dsimp only [e51, e51_L0, go_sem, Nat.reduceBEq, Nat.reduceAdd]; refine ⟨by simp, ?_⟩; obtain ⟨x14, ex14, h⟩ := Option.bind_eq_some_iff.1 h; refine V_appM intRow ex14 trivial rfl rfl rfl ?_; refine V_go 2 ?_; dsimp only [e51, e51_L0, go_sem, Nat.reduceBEq, Nat.reduceAdd]; refine ⟨by simp, ?_⟩; refine V_ren 2 0 rfl rfl rfl ?_; dsimp only [go_sem, Nat.reduceBEq, Nat.reduceAdd]; exact M_to J2 (s := x14) h
       ·refine V_go 1 ?_; dsimp only [e51, e51_L0, go_sem, Nat.reduceBEq, Nat.reduceAdd]; refine ⟨by simp, ?_⟩; exact M_to J2 (s := x11) h
    ·refine V_go 1 ?_; dsimp only [e51, e51_L0, go_sem, Nat.reduceBEq, Nat.reduceAdd]; refine ⟨by simp, ?_⟩; exact M_to J1 (s := x11) (M_out h hout1)
def f_graph_Near_j1 (F : Nat)  : (List Int) → Option (List Int)
| x23 =>
 (f_set_Of F x23).bind fun x24 =>
 some x24
theorem le_graph_Near_j1 {F : Nat} : ∀ s, ole (f_graph_Near_j1 F s) (m_graph_Near_j1 s) := by
  intro x23
  unfold f_graph_Near_j1 m_graph_Near_j1
  try dsimp only
  with_reducible repeat' first | exact ole_refl _ | assumption | intro _ | refine ole_ifb ?_ ?_ | refine ole_bind ?_ ?_ | refine ole_map ?_ | refine ole_loop ?_ | apply le_set_Of
def f_graph_Near_j2 (_F : Nat) (x10 : Int) : (List Int) → Option ((Int × (List Int)) ⊕ (List Int))
| x15 =>
 some (.inl (wr (x10 + 1), x15))
theorem le_graph_Near_j2 {F : Nat} {x10 : Int} : ∀ s, ole (f_graph_Near_j2 F x10 s) (m_graph_Near_j2 x10 s) := by
  intro x15
  unfold f_graph_Near_j2 m_graph_Near_j2
  try dsimp only
  with_reducible repeat' first | exact ole_refl _ | assumption | intro _ | refine ole_ifb ?_ ?_ | refine ole_bind ?_ ?_ | refine ole_map ?_ | refine ole_loop ?_ | apply le_set_Of | apply le_graph_Near_j1
def f_graph_Near_l1 (F : Nat) (x1 : Graph) (x2 : Int) : (Int × (List Int)) → Option ((Int × (List Int)) ⊕ (List Int))
| (x10, x11) =>
 ifb (decide (x10 < (ln Edge.row x1.Edges))) (
 (at_ x1.Edges x10).bind fun x12 =>
 ifb (decide (x2 = x12.A)) (
 (app_ 8 x11 ([x12.B])).bind fun x13 =>
 (f_graph_Near_j2 F x10) x13) (
 ifb (decide (x2 = x12.B)) (
 (app_ 8 x11 ([x12.A])).bind fun x14 =>
 (f_graph_Near_j2 F x10) x14) (
 (f_graph_Near_j2 F x10) x11))) (
 Option.map Sum.inr (f_graph_Near_j1 F x11))
theorem le_graph_Near_l1 {F : Nat} {x1 : Graph} {x2 : Int} : ∀ s, ole (f_graph_Near_l1 F x1 x2 s) (m_graph_Near_l1 x1 x2 s) := by
  rintro ⟨x10, x11⟩
  unfold f_graph_Near_l1 m_graph_Near_l1
  try dsimp only
  with_reducible repeat' first | exact ole_refl _ | assumption | intro _ | refine ole_ifb ?_ ?_ | refine ole_bind ?_ ?_ | refine ole_map ?_ | refine ole_loop ?_ | apply le_set_Of | apply le_graph_Near_j1 | apply le_graph_Near_j2
def f_graph_Near (F : Nat) (x1 : Graph) (x2 : Int) : Option (List Int) :=
 (f_graph_Check F x1).bind fun x3 =>
 ifb (!decide (x3 = 0)) (
 some ([] : (List Int))) (
 loopF F (f_graph_Near_l1 F x1 x2) (0, ([] : List Int)))
theorem le_graph_Near {F : Nat} {x1 : Graph} {x2 : Int} : ole (f_graph_Near F x1 x2) (m_graph_Near x1 x2) := by
  unfold f_graph_Near m_graph_Near
  with_reducible repeat' first | exact ole_refl _ | assumption | intro _ | refine ole_ifb ?_ ?_ | refine ole_bind ?_ ?_ | refine ole_map ?_ | refine ole_loop ?_ | apply le_set_Of | apply le_graph_Near_j1 | apply le_graph_Near_j2 | apply le_graph_Near_l1 | apply le_graph_Check
end NX
end Go.Proofs.Ytadebhbiglmodaa
/-
  The function narthex/place.Table: its code compiled, a model, and that the code answers as the model. Written by a program of ours (lb.py). No statement of the seat is proved here.
-/
namespace Go.Proofs.Ytadebhbiglmodaa
namespace NX
open Go
set_option maxRecDepth 100000
set_option maxHeartbeats 4000000
def e14_L1 : EC := .seq (.reg [⟨(some 34), none, .bin .lss (.t 33) (.t 32)⟩]) (.seq (.ite (.t 34) (.skip) (.exit 2)) (.seq (.blk 3 (.seq (.reg [⟨(some 35), none, .idx 1 (.t 31) (.t 33)⟩, ⟨(some 36), none, .load (.t 35)⟩, ⟨(some 11), none, .mv (.t 36)⟩]) (.seq (.drw [⟨(some 37), none, .mv (.t 1)⟩, ⟨(some 38), none, .mv (.t 8)⟩, ⟨(some 39), none, .idx 1 (.t 37) (.t 38)⟩, ⟨(some 40), none, .load (.t 39)⟩, ⟨(some 41), none, .mv (.t 1)⟩, ⟨(some 42), none, .mv (.t 11)⟩, ⟨(some 43), none, .idx 1 (.t 41) (.t 42)⟩, ⟨(some 44), none, .load (.t 43)⟩, ⟨(some 45), none, .bin .gtr (.t 40) (.t 44)⟩, ⟨(some 12), none, .mv (.t 45)⟩] [[], [], [0, 1], [2], [], [], [4, 5], [6], [3, 7], [8, 0, 1, 2, 3, 4, 5, 6, 7, 8]] [[2], [2], [0, 1, 3], [2, 8], [6], [6], [4, 5, 7], [6, 8], [3, 7, 9], [8]]) (.reg [⟨(some 46), none, .fld 2 (.t 9)⟩, ⟨(some 47), none, .load (.t 46)⟩, ⟨(some 48), none, .mv (.t 11)⟩, ⟨(some 49), none, .mv (.t 12)⟩, ⟨(some 50), none, .mv (.t 12)⟩, ⟨(some 51), none, .mv (.t 12)⟩, ⟨(some 52), none, .mv (.t 12)⟩, ⟨(some 53), none, .not (.t 52)⟩, ⟨(some 54), none, .mv (.t 12)⟩, ⟨(some 55), none, .not (.t 54)⟩, ⟨(some 56), none, .build [.iv 0, .iv 0, .iv 0, .ff, .ff, .ff, .ff, .ff] [(0, 1, (.t 48)), (1, 1, (.c (.iv 1))), (3, 1, (.t 49)), (4, 1, (.t 50)), (6, 1, (.t 51)), (5, 1, (.t 53)), (7, 1, (.t 55))]⟩, ⟨(some 57), none, .bsl 49 8 1 [.iv 0, .iv 0, .iv 0, .ff, .ff, .ff, .ff, .ff] [(0, (.t 56))]⟩, ⟨(some 58), none, .app 49 8 32 (.t 47) (.t 57)⟩, ⟨(some 59), none, .fld 2 (.t 9)⟩, ⟨none, none, .store 1 (.t 59) (.t 58)⟩])))) (.reg [⟨(some 60), none, .bin .add (.t 33) (.c (.iv 1))⟩, ⟨(some 33), none, .mv (.t 60)⟩])))
def e14_L0 : EC := .seq (.reg [⟨(some 25), none, .bin .lss (.t 24) (.t 23)⟩]) (.seq (.ite (.t 25) (.skip) (.exit 0)) (.seq (.blk 1 (.seq (.reg [⟨(some 26), none, .mv (.t 24)⟩, ⟨(some 8), none, .mv (.t 26)⟩]) (.seq (.reg [⟨(some 27), none, .mv (.t 8)⟩, ⟨(some 28), none, .build [.iv 0, .iv 0, .nl] [(0, 1, (.t 27))]⟩, ⟨(some 9), none, .alloc 39 [.iv 0, .iv 0, .nl]⟩, ⟨none, none, .store 3 (.t 9) (.t 28)⟩]) (.seq (.seq (.reg [⟨(some 29), none, .loadA 2 (.t 2)⟩, ⟨(some 30), none, .mv (.t 8)⟩, ⟨(some 31), none, .call 51 [(.t 29), (.t 30)]⟩, ⟨(some 32), none, .len (.t 31)⟩, ⟨(some 33), none, .mv (.c (.iv 0))⟩]) (.blk 2 (.loop e14_L1))) (.reg [⟨(some 61), none, .mv (.t 7)⟩, ⟨(some 62), none, .loadA 3 (.t 9)⟩, ⟨(some 63), none, .bsl 39 3 1 [.iv 0, .iv 0, .nl] [(0, (.t 62))]⟩, ⟨(some 64), none, .app 39 3 40 (.t 61) (.t 63)⟩, ⟨(some 7), none, .mv (.t 64)⟩]))))) (.reg [⟨(some 65), none, .bin .add (.t 24) (.c (.iv 1))⟩, ⟨(some 24), none, .mv (.t 65)⟩])))
def e14 : EC := .seq (.reg [⟨(some 2), none, .box 24 2 (.t 0)⟩, ⟨(some 4), none, .mv (.c .nl)⟩, ⟨(some 5), none, .mv (.c (.iv 0))⟩]) (.seq (.seq (.reg [⟨(some 13), none, .loadA 2 (.t 2)⟩, ⟨(some 14), none, .call 49 [(.t 13)]⟩, ⟨(some 6), none, .mv (.t 14)⟩]) (.seq (.reg [⟨(some 15), none, .mv (.t 6)⟩, ⟨(some 16), none, .bin .neq (.t 15) (.c (.iv 0))⟩]) (.ite (.t 16) (.seq (.reg [⟨(some 17), none, .mv (.t 6)⟩, ⟨(some 4), none, .mv (.c .nl)⟩, ⟨(some 5), none, .mv (.t 17)⟩]) (.ret)) (.skip)))) (.seq (.seq (.reg [⟨(some 18), none, .loadA 2 (.t 2)⟩, ⟨(some 19), none, .mv (.t 1)⟩, ⟨(some 20), none, .call 50 [(.t 18), (.t 19)]⟩, ⟨(some 21), none, .not (.t 20)⟩]) (.ite (.t 21) (.seq (.reg [⟨(some 4), none, .mv (.c .nl)⟩, ⟨(some 5), none, .mv (.c (.iv 120))⟩]) (.ret)) (.skip))) (.seq (.reg [⟨(some 7), none, .mv (.c .nl)⟩]) (.seq (.seq (.reg [⟨(some 22), none, .fld 0 (.t 2)⟩, ⟨(some 23), none, .load (.t 22)⟩, ⟨(some 24), none, .mv (.c (.iv 0))⟩]) (.blk 0 (.loop e14_L0))) (.seq (.reg [⟨(some 66), none, .mv (.t 7)⟩, ⟨(some 4), none, .mv (.t 66)⟩, ⟨(some 5), none, .mv (.c (.iv 0))⟩]) (.ret))))))
theorem ok14 : FnOK Try.prog 14 Try.f14 e14 [.t 4, .t 5] 2 65 := ⟨by kernel_rfl, ⟨_, rfl, by kernel_rfl⟩, by kernel_rfl, by kernel_rfl⟩
/- narthex/place.Table -/
noncomputable def m_place_Table_j1  : (List Diner) → Option ((List Diner) × Int)
| x68 =>
 some (x68, 0)
noncomputable def m_place_Table_j2 (x31 : Int) (x32 : (List Diner)) : (List Side) → Option ((Int × (List Diner)) ⊕ ((List Diner) × Int))
| x59 =>
 (app_ 40 x32 ([(Diner.mk x31 0 x59)])).bind fun x60 =>
 some (.inl (wr (x31 + 1), x60))
noncomputable def m_place_Table_l2 (x2 : (List Int)) (x31 : Int) (x32 : (List Diner)) (x33 : (List Int)) : (Int × (List Side)) → Option ((Int × (List Side)) ⊕ ((Int × (List Diner)) ⊕ ((List Diner) × Int)))
| (x40, x41) =>
 ifb (decide (x40 < (ln intRow x33))) (
 (at_ x33 x40).bind fun x42 =>
 (at_ x2 x31).bind fun x43 =>
 (at_ x2 x42).bind fun x44 =>
 (app_ 32 x41 ([(Side.mk x42 1 0 (decide (x44 < x43)) (decide (x44 < x43)) (!(decide (x44 < x43))) (decide (x44 < x43)) (!(decide (x44 < x43))))])).bind fun x45 =>
 some (.inl (wr (x40 + 1), x45))) (
 Option.map Sum.inr ((m_place_Table_j2 x31 x32) x41))
noncomputable def m_place_Table_l1 (x1 : Graph) (x2 : (List Int)) : (Int × (List Diner)) → Option ((Int × (List Diner)) ⊕ ((List Diner) × Int))
| (x31, x32) =>
 ifb (decide (x31 < x1.N)) (
 (m_graph_Near x1 x31).bind fun x33 =>
 loop (m_place_Table_l2 x2 x31 x32 x33) (0, ([] : List Side))) (
 Option.map Sum.inr (m_place_Table_j1 x32))
noncomputable def m_place_Table (x1 : Graph) (x2 : (List Int)) : Option ((List Diner) × Int) :=
 (m_graph_Check x1).bind fun x3 =>
 ifb (!decide (x3 = 0)) (
 some (([] : (List Diner)), x3)) (
 (m_colour_Right x1 x2).bind fun x4 =>
 ifb (!x4) (
 some (([] : (List Diner)), 120)) (
 loop (m_place_Table_l1 x1 x2) (0, ([] : List Diner))))
theorem k_place_Table (x1 : Graph) (x2 : (List Int)) (r : ((List Diner) × Int)) (h : m_place_Table x1 x2 = some r) : FunP Try.prog 14 [.agg (Graph.row x1), .sl 1 (List.map intRow x2)] (.tup [.sl 3 (List.map Diner.row r.1), .iv r.2]) := by
  refine FunP_intro ok14 rfl rfl fun w0 H0 => ?_
  rw [m_place_Table] at h
  refine V_go 10 ?_; dsimp only [e14, e14_L0, e14_L1, go_sem, Nat.reduceBEq, Nat.reduceAdd]; refine ⟨by simp, ?_⟩; obtain ⟨x3, ex3, h⟩ := Option.bind_eq_some_iff.1 h; refine V_call trivial (k_graph_Check x1 _ ex3) (h := ?_); refine V_go 7 ?_; dsimp only [e14, e14_L0, e14_L1, go_sem, Nat.reduceBEq, Nat.reduceAdd]; refine ⟨by simp, ?_⟩; refine M_ite h rfl (fun _ h => ?_) fun _ h => ?_
  ·refine V_go 6 ?_; dsimp only [e14, e14_L0, e14_L1, go_sem, Nat.reduceBEq, Nat.reduceAdd]; refine ⟨by simp, ?_⟩; exact M_done (res := fun (r : ((List Diner) × Int)) => .tup [.sl 3 (List.map Diner.row r.1), .iv r.2]) ok14 h
  ·refine V_go 6 ?_; dsimp only [e14, e14_L0, e14_L1, go_sem, Nat.reduceBEq, Nat.reduceAdd]; refine ⟨by simp, ?_⟩; obtain ⟨x4, ex4, h⟩ := Option.bind_eq_some_iff.1 h; refine V_call trivial (k_colour_Right x1 x2 _ ex4) (h := ?_); refine V_go 2 ?_; dsimp only [e14, e14_L0, e14_L1, go_sem, Nat.reduceBEq, Nat.reduceAdd]; refine ⟨by simp, ?_⟩; refine M_ite h rfl (fun _ h => ?_) fun _ h => ?_
   ·refine V_go 5 ?_; dsimp only [e14, e14_L0, e14_L1, go_sem, Nat.reduceBEq, Nat.reduceAdd]; refine ⟨by simp, ?_⟩; exact M_done (res := fun (r : ((List Diner) × Int)) => .tup [.sl 3 (List.map Diner.row r.1), .iv r.2]) ok14 h
   ·refine V_go 12 ?_; dsimp only [e14, e14_L0, e14_L1, go_sem, Nat.reduceBEq, Nat.reduceAdd]; refine ⟨by simp, ?_⟩; refine V_join (fun (x68 : (List Diner)) => (⟨(an 7 (.osl 0 :: an 59 [])), [], [some ⟨39, 3, List.map Diner.row x68⟩]⟩ : St)) m_place_Table_j1 r ?_ fun J1 => ?_
    ·intro x68 h; rw [m_place_Table_j1] at h; (try dsimp only); refine V_go 6 ?_; dsimp only [e14, e14_L0, e14_L1, go_sem, Nat.reduceBEq, Nat.reduceAdd]; refine ⟨by simp, ?_⟩; refine V_seal 0 rfl ?_; dsimp only [go_sem, Nat.reduceBEq, Nat.reduceAdd]; exact M_done (res := fun (r : ((List Diner) × Int)) => .tup [.sl 3 (List.map Diner.row r.1), .iv r.2]) ok14 h
    ·refine V_go 1 ?_; dsimp only [e14, e14_L0, e14_L1, go_sem, Nat.reduceBEq, Nat.reduceAdd]; refine ⟨by simp, ?_⟩; refine V_own 7 39 3 rfl rfl ?_; dsimp only [go_sem, Nat.reduceBEq, Nat.reduceAdd]; refine M_loop h (fun ((x31, x32) : (Int × (List Diner))) => (⟨(.any :: .sl 1 (List.map intRow x2) :: .ptr 0 0 :: an 4 (.osl 0 :: an 15 (.iv x1.N :: .iv x31 :: an 42 []))), [some ⟨24, [.iv x1.N, .sl 2 (List.map Edge.row x1.Edges)]⟩], [some ⟨39, 3, List.map Diner.row x32⟩]⟩ : St)) (by simp [go_sem]) (by rintro ⟨x31, x32⟩; first | rfl | simp [go_sem]) ?_; rintro n1 ⟨x31, x32⟩ y1 h hin1 hout1
     rw [m_place_Table_l1] at h; (try dsimp only); refine V_go 5 ?_; dsimp only [e14, e14_L0, e14_L1, go_sem, Nat.reduceBEq, Nat.reduceAdd]; refine ⟨by simp, ?_⟩; refine M_ite h rfl (fun _ h => ?_) fun _ h => ?_
     ·refine V_go 20 ?_; dsimp only [e14, e14_L0, e14_L1, go_sem, Nat.reduceBEq, Nat.reduceAdd]; refine ⟨by simp, ?_⟩; obtain ⟨x33, ex33, h⟩ := Option.bind_eq_some_iff.1 h; refine V_call trivial (k_graph_Near x1 x31 _ ex33) (h := ?_); refine V_go 3 ?_; dsimp only [e14, e14_L0, e14_L1, go_sem, Nat.reduceBEq, Nat.reduceAdd]; refine ⟨by simp, ?_⟩
      refine V_join (fun (x59 : (List Side)) => (⟨(.any :: .sl 1 (List.map intRow x2) :: .ptr 0 0 :: an 4 (.osl 0 :: .any :: .ptr 1 0 :: an 13 (.iv x1.N :: .iv x31 :: an 42 []))), [some ⟨24, [.iv x1.N, .sl 2 (List.map Edge.row x1.Edges)]⟩, some ⟨39, [.iv x31, .iv 0, .osl 1]⟩], [some ⟨39, 3, List.map Diner.row x32⟩, some ⟨49, 8, List.map Side.row x59⟩]⟩ : St)) (m_place_Table_j2 x31 x32) y1 ?_ fun J2 => ?_
      ·intro x59 h; rw [m_place_Table_j2] at h; (try dsimp only); refine V_go 3 ?_; dsimp only [e14, e14_L0, e14_L1, go_sem, Nat.reduceBEq, Nat.reduceAdd]; refine ⟨by simp, ?_⟩; refine V_seal 1 rfl ?_; dsimp only [go_sem, Nat.reduceBEq, Nat.reduceAdd]; refine V_go 1 ?_; dsimp only [e14, e14_L0, e14_L1, go_sem, Nat.reduceBEq, Nat.reduceAdd]; refine ⟨by simp, ?_⟩; obtain ⟨x60, ex60, h⟩ := Option.bind_eq_some_iff.1 h; refine V_appM Diner.row ex60 trivial rfl rfl rfl ?_; refine V_go 7 ?_; dsimp only [e14, e14_L0, e14_L1, go_sem, Nat.reduceBEq, Nat.reduceAdd]; refine ⟨by simp, ?_⟩
       refine V_ren 3 0 rfl rfl rfl ?_; dsimp only [go_sem, Nat.reduceBEq, Nat.reduceAdd]; exact M_back h hin1
      ·refine V_go 1 ?_; dsimp only [e14, e14_L0, e14_L1, go_sem, Nat.reduceBEq, Nat.reduceAdd]; refine ⟨by simp, ?_⟩; refine V_ownB 1 2 49 8 rfl rfl rfl ?_; dsimp only [go_sem, Nat.reduceBEq, Nat.reduceAdd]
       refine M_loop h (fun ((x40, x41) : (Int × (List Side))) => (⟨(.any :: .sl 1 (List.map intRow x2) :: .ptr 0 0 :: an 4 (.osl 0 :: .iv x31 :: .ptr 1 0 :: an 13 (.iv x1.N :: .iv x31 :: an 6 (.sl 1 (List.map intRow x33) :: .iv (ln intRow x33) :: .iv x40 :: an 33 [])))), [some ⟨24, [.iv x1.N, .sl 2 (List.map Edge.row x1.Edges)]⟩, some ⟨39, [.iv x31, .iv 0, .osl 1]⟩], [some ⟨39, 3, List.map Diner.row x32⟩, some ⟨49, 8, List.map Side.row x41⟩]⟩ : St)) (by simp [go_sem]) (by rintro ⟨x40, x41⟩; first | rfl | simp [go_sem]) ?_; rintro n2 ⟨x40, x41⟩ y2 h hin2 hout2; rw [m_place_Table_l2] at h
       (try dsimp only); refine V_go 5 ?_; dsimp only [e14, e14_L0, e14_L1, go_sem, Nat.reduceBEq, Nat.reduceAdd]; refine ⟨by simp, ?_⟩; refine M_ite h rfl (fun _ h => ?_) fun _ h => ?_
       ·refine V_go 5 ?_; dsimp only [e14, e14_L0, e14_L1, go_sem, Nat.reduceBEq, Nat.reduceAdd]; refine ⟨by simp, ?_⟩; obtain ⟨x42, ex42, h⟩ := Option.bind_eq_some_iff.1 h; refine V_idxM intRow ex42 trivial rfl rfl rfl ?_; refine V_go 4 ?_; dsimp only [e14, e14_L0, e14_L1, go_sem, Nat.reduceBEq, Nat.reduceAdd]; refine ⟨by simp, ?_⟩; refine V_drw (by kernel_rfl) fun all hall hs hnap haf => ?_; dsimp only [go_sem, Nat.reduceBEq, Nat.reduceAdd]; refine G_goN hall hs haf hnap 4 6 ?_; dsimp only [go_sem, Nat.reduceBEq, Nat.reduceAdd]; refine ⟨by simp, ?_⟩
        obtain ⟨x43, ex43, h⟩ := Option.bind_eq_some_iff.1 h; refine G_idxM hall hs haf hnap 2 intRow ex43 rfl rfl trivial rfl rfl rfl rfl ?_; refine G_goN hall hs haf hnap 1 4 ?_; dsimp only [go_sem, Nat.reduceBEq, Nat.reduceAdd]; refine ⟨by simp, ?_⟩; obtain ⟨x44, ex44, h⟩ := Option.bind_eq_some_iff.1 h; refine G_idxM hall hs haf hnap 6 intRow ex44 rfl rfl trivial rfl rfl rfl rfl ?_; refine G_goN hall hs haf hnap 3 0 ?_; dsimp only [go_sem, Nat.reduceBEq, Nat.reduceAdd]; refine ⟨by simp, ?_⟩; refine G_done rfl ?_ _; refine V_go 13 ?_
        dsimp only [e14, e14_L0, e14_L1, go_sem, Nat.reduceBEq, Nat.reduceAdd]; refine ⟨by simp, ?_⟩; obtain ⟨x45, ex45, h⟩ := Option.bind_eq_some_iff.1 h; refine V_appM Side.row ex45 trivial rfl rfl rfl ?_; refine V_go 8 ?_; dsimp only [e14, e14_L0, e14_L1, go_sem, Nat.reduceBEq, Nat.reduceAdd]; refine ⟨by simp, ?_⟩; refine V_ren 3 1 rfl rfl rfl ?_; dsimp only [go_sem, Nat.reduceBEq, Nat.reduceAdd]; exact M_back h hin2
       ·refine V_go 1 ?_; dsimp only [e14, e14_L0, e14_L1, go_sem, Nat.reduceBEq, Nat.reduceAdd]; refine ⟨by simp, ?_⟩; exact M_to J2 (s := x41) (M_out h hout2)
     ·refine V_go 1 ?_; dsimp only [e14, e14_L0, e14_L1, go_sem, Nat.reduceBEq, Nat.reduceAdd]; refine ⟨by simp, ?_⟩; exact M_to J1 (s := x32) (M_out h hout1)
def f_place_Table_j1 (_F : Nat)  : (List Diner) → Option ((List Diner) × Int)
| x68 =>
 some (x68, 0)
theorem le_place_Table_j1 {F : Nat} : ∀ s, ole (f_place_Table_j1 F s) (m_place_Table_j1 s) := by
  intro x68
  unfold f_place_Table_j1 m_place_Table_j1
  try dsimp only
  with_reducible repeat' first | exact ole_refl _ | assumption | intro _ | refine ole_ifb ?_ ?_ | refine ole_bind ?_ ?_ | refine ole_map ?_ | refine ole_loop ?_
def f_place_Table_j2 (_F : Nat) (x31 : Int) (x32 : (List Diner)) : (List Side) → Option ((Int × (List Diner)) ⊕ ((List Diner) × Int))
| x59 =>
 (app_ 40 x32 ([(Diner.mk x31 0 x59)])).bind fun x60 =>
 some (.inl (wr (x31 + 1), x60))
theorem le_place_Table_j2 {F : Nat} {x31 : Int} {x32 : (List Diner)} : ∀ s, ole (f_place_Table_j2 F x31 x32 s) (m_place_Table_j2 x31 x32 s) := by
  intro x59
  unfold f_place_Table_j2 m_place_Table_j2
  try dsimp only
  with_reducible repeat' first | exact ole_refl _ | assumption | intro _ | refine ole_ifb ?_ ?_ | refine ole_bind ?_ ?_ | refine ole_map ?_ | refine ole_loop ?_ | apply le_place_Table_j1
def f_place_Table_l2 (F : Nat) (x2 : (List Int)) (x31 : Int) (x32 : (List Diner)) (x33 : (List Int)) : (Int × (List Side)) → Option ((Int × (List Side)) ⊕ ((Int × (List Diner)) ⊕ ((List Diner) × Int)))
| (x40, x41) =>
 ifb (decide (x40 < (ln intRow x33))) (
 (at_ x33 x40).bind fun x42 =>
 (at_ x2 x31).bind fun x43 =>
 (at_ x2 x42).bind fun x44 =>
 (app_ 32 x41 ([(Side.mk x42 1 0 (decide (x44 < x43)) (decide (x44 < x43)) (!(decide (x44 < x43))) (decide (x44 < x43)) (!(decide (x44 < x43))))])).bind fun x45 =>
 some (.inl (wr (x40 + 1), x45))) (
 Option.map Sum.inr ((f_place_Table_j2 F x31 x32) x41))
theorem le_place_Table_l2 {F : Nat} {x2 : (List Int)} {x31 : Int} {x32 : (List Diner)} {x33 : (List Int)} : ∀ s, ole (f_place_Table_l2 F x2 x31 x32 x33 s) (m_place_Table_l2 x2 x31 x32 x33 s) := by
  rintro ⟨x40, x41⟩
  unfold f_place_Table_l2 m_place_Table_l2
  try dsimp only
  with_reducible repeat' first | exact ole_refl _ | assumption | intro _ | refine ole_ifb ?_ ?_ | refine ole_bind ?_ ?_ | refine ole_map ?_ | refine ole_loop ?_ | apply le_place_Table_j1 | apply le_place_Table_j2
def f_place_Table_l1 (F : Nat) (x1 : Graph) (x2 : (List Int)) : (Int × (List Diner)) → Option ((Int × (List Diner)) ⊕ ((List Diner) × Int))
| (x31, x32) =>
 ifb (decide (x31 < x1.N)) (
 (f_graph_Near F x1 x31).bind fun x33 =>
 loopF F (f_place_Table_l2 F x2 x31 x32 x33) (0, ([] : List Side))) (
 Option.map Sum.inr (f_place_Table_j1 F x32))
theorem le_place_Table_l1 {F : Nat} {x1 : Graph} {x2 : (List Int)} : ∀ s, ole (f_place_Table_l1 F x1 x2 s) (m_place_Table_l1 x1 x2 s) := by
  rintro ⟨x31, x32⟩
  unfold f_place_Table_l1 m_place_Table_l1
  try dsimp only
  with_reducible repeat' first | exact ole_refl _ | assumption | intro _ | refine ole_ifb ?_ ?_ | refine ole_bind ?_ ?_ | refine ole_map ?_ | refine ole_loop ?_ | apply le_place_Table_j1 | apply le_place_Table_j2 | apply le_place_Table_l2 | apply le_graph_Near
def f_place_Table (F : Nat) (x1 : Graph) (x2 : (List Int)) : Option ((List Diner) × Int) :=
 (f_graph_Check F x1).bind fun x3 =>
 ifb (!decide (x3 = 0)) (
 some (([] : (List Diner)), x3)) (
 (f_colour_Right F x1 x2).bind fun x4 =>
 ifb (!x4) (
 some (([] : (List Diner)), 120)) (
 loopF F (f_place_Table_l1 F x1 x2) (0, ([] : List Diner))))
theorem le_place_Table {F : Nat} {x1 : Graph} {x2 : (List Int)} : ole (f_place_Table F x1 x2) (m_place_Table x1 x2) := by
  unfold f_place_Table m_place_Table
  with_reducible repeat' first | exact ole_refl _ | assumption | intro _ | refine ole_ifb ?_ ?_ | refine ole_bind ?_ ?_ | refine ole_map ?_ | refine ole_loop ?_ | apply le_place_Table_j1 | apply le_place_Table_j2 | apply le_place_Table_l2 | apply le_graph_Near | apply le_place_Table_l1 | apply le_graph_Check | apply le_colour_Right
end NX
end Go.Proofs.Ytadebhbiglmodaa
/-
  The function narthex/place.Side$1: its code compiled, a model, and that the code answers as the model. Written by a program of ours (lb.py). No statement of the seat is proved here.
-/
namespace Go.Proofs.Ytadebhbiglmodaa
namespace NX
open Go
set_option maxRecDepth 100000
set_option maxHeartbeats 4000000
def e56 : EC := .seq (.reg [⟨(some 2), none, .box 49 8 (.t 0)⟩, ⟨(some 3), none, .mv (.c .ff)⟩]) (.seq (.reg [⟨(some 4), none, .fld 0 (.t 2)⟩, ⟨(some 5), none, .load (.t 4)⟩, ⟨(some 6), none, .load (.t 1)⟩, ⟨(some 7), none, .bin .eql (.t 5) (.t 6)⟩, ⟨(some 3), none, .mv (.t 7)⟩]) (.ret))
theorem ok56 : FnOK Try.prog 56 Try.f56 e56 [.t 3] 2 6 := ⟨by kernel_rfl, ⟨_, rfl, by kernel_rfl⟩, by kernel_rfl, by kernel_rfl⟩
/- narthex/place.Side$1 -/
noncomputable def m_place_Side_1 (x1 : Side) (x2 : Int) : Option Bool :=
 some (decide (x1.Peer = x2))
theorem k_place_Side_1 (x1 : Side) (x2 : Int) (r : Bool) (h : m_place_Side_1 x1 x2 = some r) : FunP Try.prog 56 [.agg (Side.row x1), .elt (intRow x2) 0] (.bv r) := by
  refine FunP_intro ok56 rfl rfl fun w0 H0 => ?_
  rw [m_place_Side_1] at h
  refine V_go 13 ?_; dsimp only [e56, go_sem, Nat.reduceBEq, Nat.reduceAdd]; refine ⟨by simp, ?_⟩; exact M_done (res := fun (r : Bool) => .bv r) ok56 h
def f_place_Side_1 (_F : Nat) (x1 : Side) (x2 : Int) : Option Bool :=
 some (decide (x1.Peer = x2))
theorem le_place_Side_1 {F : Nat} {x1 : Side} {x2 : Int} : ole (f_place_Side_1 F x1 x2) (m_place_Side_1 x1 x2) := by
  unfold f_place_Side_1 m_place_Side_1
  with_reducible repeat' first | exact ole_refl _ | assumption | intro _ | refine ole_ifb ?_ ?_ | refine ole_bind ?_ ?_ | refine ole_map ?_ | refine ole_loop ?_
end NX
end Go.Proofs.Ytadebhbiglmodaa
/-
  The function narthex/place.Side: its code compiled, a model, and that the code answers as the model. Written by a program of ours (lb.py). No statement of the seat is proved here.
-/
namespace Go.Proofs.Ytadebhbiglmodaa
namespace NX
open Go
set_option maxRecDepth 100000
set_option maxHeartbeats 4000000
def e24 : EC := .seq (.reg [⟨(some 2), none, .box 39 3 (.t 0)⟩, ⟨(some 3), none, .box 3 1 (.t 1)⟩, ⟨(some 4), none, .alloc 49 [.iv 0, .iv 0, .iv 0, .ff, .ff, .ff, .ff, .ff]⟩, ⟨(some 5), none, .mv (.c .ff)⟩]) (.seq (.reg [⟨(some 7), none, .fld 2 (.t 2)⟩, ⟨(some 8), none, .load (.t 7)⟩, ⟨(some 9), none, .mkf 56 [(.t 3)]⟩, ⟨(some 10), none, .call 55 [(.t 8), (.t 9)]⟩, ⟨(some 6), none, .mv (.t 10)⟩]) (.seq (.seq (.reg [⟨(some 11), none, .mv (.t 6)⟩, ⟨(some 12), none, .bin .lss (.t 11) (.c (.iv 0))⟩]) (.ite (.t 12) (.seq (.reg [⟨(some 13), none, .build [.iv 0, .iv 0, .iv 0, .ff, .ff, .ff, .ff, .ff] []⟩, ⟨none, none, .store 8 (.t 4) (.t 13)⟩, ⟨(some 5), none, .mv (.c .ff)⟩]) (.ret)) (.skip))) (.seq (.reg [⟨(some 14), none, .fld 2 (.t 2)⟩, ⟨(some 15), none, .load (.t 14)⟩, ⟨(some 16), none, .mv (.t 6)⟩, ⟨(some 17), none, .idx 8 (.t 15) (.t 16)⟩, ⟨(some 18), none, .loadA 8 (.t 17)⟩, ⟨none, none, .store 8 (.t 4) (.t 18)⟩, ⟨(some 5), none, .mv (.c .tt)⟩]) (.ret))))
theorem ok24 : FnOK Try.prog 24 Try.f24 e24 [.c 4 (some 8), .t 5] 2 17 := ⟨by kernel_rfl, ⟨_, rfl, by kernel_rfl⟩, by kernel_rfl, by kernel_rfl⟩
/- narthex/place.Side -/
noncomputable def m_place_Side (x1 : Diner) (x2 : Int) : Option (Side × Bool) :=
 (m_slices_IndexFunc_Side x1.Sides ((fun z => m_place_Side_1 z x2))).bind fun x3 =>
 ifb (decide (x3 < 0)) (
 some ((Side.mk 0 0 0 false false false false false), false)) (
 (at_ x1.Sides x3).bind fun x4 =>
 some (x4, true))
theorem k_place_Side (x1 : Diner) (x2 : Int) (r : (Side × Bool)) (h : m_place_Side x1 x2 = some r) : FunP Try.prog 24 [.agg (Diner.row x1), .iv x2] (.tup [.agg (Side.row r.1), .bv r.2]) := by
  refine FunP_intro ok24 rfl rfl fun w0 H0 => ?_
  rw [m_place_Side] at h
  refine V_go 12 ?_; dsimp only [e24, go_sem, Nat.reduceBEq, Nat.reduceAdd]; refine ⟨by simp, ?_⟩; obtain ⟨x3, ex3, h⟩ := Option.bind_eq_some_iff.1 h; refine V_callL trivial ((Lend.refl _).block 1 rfl rfl) (k_slices_IndexFunc_Side x1.Sides _ _ ((fun z => m_place_Side_1 z x2)) ⟨by kernel_rfl, rfl, fun z r hz => k_place_Side_1 z x2 r hz⟩ _ ex3) (h := ?_); refine V_go 8 ?_; dsimp only [e24, go_sem, Nat.reduceBEq, Nat.reduceAdd]; refine ⟨by simp, ?_⟩; refine M_ite h rfl (fun _ h => ?_) fun _ h => ?_
  ·refine V_go 6 ?_; dsimp only [e24, go_sem, Nat.reduceBEq, Nat.reduceAdd]; refine ⟨by simp, ?_⟩; exact M_done (res := fun (r : (Side × Bool)) => .tup [.agg (Side.row r.1), .bv r.2]) ok24 h
  ·refine V_go 6 ?_; dsimp only [e24, go_sem, Nat.reduceBEq, Nat.reduceAdd]; refine ⟨by simp, ?_⟩; obtain ⟨x4, ex4, h⟩ := Option.bind_eq_some_iff.1 h; refine V_idxM Side.row ex4 trivial rfl rfl rfl ?_; refine V_go 4 ?_; dsimp only [e24, go_sem, Nat.reduceBEq, Nat.reduceAdd]; refine ⟨by simp, ?_⟩; exact M_done (res := fun (r : (Side × Bool)) => .tup [.agg (Side.row r.1), .bv r.2]) ok24 h
def f_place_Side (F : Nat) (x1 : Diner) (x2 : Int) : Option (Side × Bool) :=
 (f_slices_IndexFunc_Side F x1.Sides ((fun z => f_place_Side_1 F z x2))).bind fun x3 =>
 ifb (decide (x3 < 0)) (
 some ((Side.mk 0 0 0 false false false false false), false)) (
 (at_ x1.Sides x3).bind fun x4 =>
 some (x4, true))
theorem le_place_Side {F : Nat} {x1 : Diner} {x2 : Int} : ole (f_place_Side F x1 x2) (m_place_Side x1 x2) := by
  unfold f_place_Side m_place_Side
  with_reducible repeat' first | exact ole_refl _ | assumption | intro _ | refine ole_ifb ?_ ?_ | refine ole_bind ?_ ?_ | refine ole_map ?_ | refine ole_loop ?_ | apply le_slices_IndexFunc_Side | apply le_place_Side_1
end NX
end Go.Proofs.Ytadebhbiglmodaa
/-
  The function narthex/place.Graph: its code compiled, a model, and that the code answers as the model. Written by a program of ours (lb.py). No statement of the seat is proved here.
-/
namespace Go.Proofs.Ytadebhbiglmodaa
namespace NX
open Go
set_option maxRecDepth 100000
set_option maxHeartbeats 4000000
def e21_L1 : EC := .seq (.reg [⟨(some 34), none, .bin .lss (.t 33) (.t 32)⟩]) (.seq (.ite (.t 34) (.skip) (.exit 2)) (.seq (.blk 3 (.seq (.reg [⟨(some 35), none, .mv (.t 33)⟩, ⟨(some 36), none, .idx 8 (.t 31) (.t 33)⟩, ⟨(some 37), none, .loadA 8 (.t 36)⟩, ⟨(some 8), none, .alloc 49 [.iv 0, .iv 0, .iv 0, .ff, .ff, .ff, .ff, .ff]⟩, ⟨(some 7), none, .mv (.t 35)⟩, ⟨none, none, .store 8 (.t 8) (.t 37)⟩]) (.seq (.seq (.drw [⟨(some 38), none, .fld 0 (.t 8)⟩, ⟨(some 39), none, .load (.t 38)⟩, ⟨(some 40), none, .bin .lss (.t 39) (.c (.iv 0))⟩, ⟨(some 41), none, .mv (.t 40)⟩, ⟨(some 42), (some (41, false)), .fld 0 (.t 8)⟩, ⟨(some 43), (some (41, false)), .load (.t 42)⟩, ⟨(some 44), (some (41, false)), .mv (.t 0)⟩, ⟨(some 45), (some (41, false)), .len (.t 44)⟩, ⟨(some 46), (some (41, false)), .bin .geq (.t 43) (.t 45)⟩, ⟨(some 47), none, .pick (.t 41) (.c .tt) (.t 46)⟩, ⟨(some 48), none, .mv (.t 47)⟩, ⟨(some 49), (some (48, false)), .fld 0 (.t 8)⟩, ⟨(some 50), (some (48, false)), .load (.t 49)⟩, ⟨(some 51), (some (48, false)), .mv (.t 5)⟩, ⟨(some 52), (some (48, false)), .bin .eql (.t 50) (.t 51)⟩, ⟨(some 53), none, .pick (.t 48) (.c .tt) (.t 52)⟩, ⟨(some 54), none, .mv (.t 53)⟩, ⟨(some 55), (some (54, false)), .mv (.t 7)⟩, ⟨(some 56), (some (54, false)), .bin .gtr (.t 55) (.c (.iv 0))⟩, ⟨(some 57), (some (54, false)), .mv (.t 56)⟩, ⟨(some 58), (some (57, true)), .fld 2 (.t 6)⟩, ⟨(some 59), (some (57, true)), .load (.t 58)⟩, ⟨(some 60), (some (57, true)), .mv (.t 7)⟩, ⟨(some 61), (some (57, true)), .bin .sub (.t 60) (.c (.iv 1))⟩, ⟨(some 62), (some (57, true)), .idx 8 (.t 59) (.t 61)⟩, ⟨(some 63), (some (57, true)), .fld 0 (.t 62)⟩, ⟨(some 64), (some (57, true)), .load (.t 63)⟩, ⟨(some 65), (some (57, true)), .fld 0 (.t 8)⟩, ⟨(some 66), (some (57, true)), .load (.t 65)⟩, ⟨(some 67), (some (57, true)), .bin .geq (.t 64) (.t 66)⟩, ⟨(some 68), (some (54, false)), .pick (.t 57) (.t 67) (.c .ff)⟩, ⟨(some 69), none, .pick (.t 54) (.c .tt) (.t 68)⟩] [[], [0], [1], [2], [3], [4, 3], [3], [6, 3], [5, 7, 3], [3, 8], [9, 3], [10], [11, 10], [10], [12, 13, 10], [10, 14], [15, 10], [16], [17, 16], [18, 16, 16], [19], [20, 19], [19], [22, 19], [21, 23, 19], [24, 19], [25, 19], [19], [27, 19], [26, 28, 19], [19, 29, 16], [16, 30]] [[1], [0, 2], [1, 3], [2, 4, 5, 6, 7, 8, 9], [3, 5], [3, 4, 8], [3, 7], [3, 6, 8], [3, 5, 7, 9], [3, 8, 10], [9, 11, 12, 13, 14, 15], [10, 12], [10, 11, 14], [10, 14], [10, 12, 13, 15], [10, 14, 16], [15, 17, 18, 19, 30, 31], [16, 18], [16, 17, 19], [16, 18, 20, 21, 22, 23, 24, 25, 26, 27, 28, 29, 30], [19, 21], [19, 20, 24], [19, 23], [19, 22, 24], [19, 21, 23, 25], [19, 24, 26], [19, 25, 29], [19, 28], [19, 27, 29], [19, 26, 28, 30], [16, 19, 29, 31], [16, 30]]) (.ite (.t 69) (.seq (.reg [⟨(some 70), none, .build [.iv 0, .nl] []⟩, ⟨none, none, .store 2 (.t 2) (.t 70)⟩, ⟨(some 3), none, .mv (.c .ff)⟩]) (.ret)) (.skip))) (.seq (.seq (.reg [⟨(some 72), none, .mv (.t 0)⟩, ⟨(some 73), none, .fld 0 (.t 8)⟩, ⟨(some 74), none, .load (.t 73)⟩, ⟨(some 75), none, .idx 3 (.t 72) (.t 74)⟩, ⟨(some 76), none, .loadA 3 (.t 75)⟩, ⟨(some 77), none, .mv (.t 5)⟩, ⟨(some 78), none, .call 24 [(.t 76), (.t 77)]⟩, ⟨(some 71), none, .mv (.t 78)⟩, ⟨(some 79), none, .ext (.t 71) 0⟩, ⟨(some 80), none, .ext (.t 71) 1⟩, ⟨(some 9), none, .alloc 49 [.iv 0, .iv 0, .iv 0, .ff, .ff, .ff, .ff, .ff]⟩, ⟨none, none, .store 8 (.t 9) (.t 79)⟩, ⟨(some 10), none, .mv (.t 80)⟩]) (.seq (.reg [⟨(some 81), none, .mv (.t 10)⟩, ⟨(some 82), none, .not (.t 81)⟩]) (.ite (.t 82) (.seq (.reg [⟨(some 83), none, .build [.iv 0, .nl] []⟩, ⟨none, none, .store 2 (.t 2) (.t 83)⟩, ⟨(some 3), none, .mv (.c .ff)⟩]) (.ret)) (.skip)))) (.seq (.reg [⟨(some 84), none, .mv (.t 5)⟩, ⟨(some 85), none, .fld 0 (.t 8)⟩, ⟨(some 86), none, .load (.t 85)⟩, ⟨(some 87), none, .bin .lss (.t 84) (.t 86)⟩]) (.ite (.t 87) (.reg [⟨(some 88), none, .fld 1 (.t 4)⟩, ⟨(some 89), none, .load (.t 88)⟩, ⟨(some 90), none, .mv (.t 5)⟩, ⟨(some 91), none, .fld 0 (.t 8)⟩, ⟨(some 92), none, .load (.t 91)⟩, ⟨(some 93), none, .build [.iv 0, .iv 0] [(0, 1, (.t 90)), (1, 1, (.t 92))]⟩, ⟨(some 94), none, .bsl 58 2 1 [.iv 0, .iv 0] [(0, (.t 93))]⟩, ⟨(some 95), none, .app 58 2 16 (.t 89) (.t 94)⟩, ⟨(some 96), none, .fld 1 (.t 4)⟩, ⟨none, none, .store 1 (.t 96) (.t 95)⟩]) (.skip))))))) (.reg [⟨(some 97), none, .bin .add (.t 33) (.c (.iv 1))⟩, ⟨(some 33), none, .mv (.t 97)⟩])))
def e21_L0 : EC := .seq (.reg [⟨(some 21), none, .bin .lss (.t 20) (.t 19)⟩]) (.seq (.ite (.t 21) (.skip) (.exit 0)) (.seq (.blk 1 (.seq (.reg [⟨(some 22), none, .mv (.t 20)⟩, ⟨(some 23), none, .idx 3 (.t 18) (.t 20)⟩, ⟨(some 24), none, .loadA 3 (.t 23)⟩, ⟨(some 6), none, .alloc 39 [.iv 0, .iv 0, .nl]⟩, ⟨(some 5), none, .mv (.t 22)⟩, ⟨none, none, .store 3 (.t 6) (.t 24)⟩]) (.seq (.seq (.reg [⟨(some 25), none, .fld 0 (.t 6)⟩, ⟨(some 26), none, .load (.t 25)⟩, ⟨(some 27), none, .mv (.t 5)⟩, ⟨(some 28), none, .bin .neq (.t 26) (.t 27)⟩]) (.ite (.t 28) (.seq (.reg [⟨(some 29), none, .build [.iv 0, .nl] []⟩, ⟨none, none, .store 2 (.t 2) (.t 29)⟩, ⟨(some 3), none, .mv (.c .ff)⟩]) (.ret)) (.skip))) (.seq (.reg [⟨(some 30), none, .fld 2 (.t 6)⟩, ⟨(some 31), none, .load (.t 30)⟩, ⟨(some 32), none, .len (.t 31)⟩, ⟨(some 33), none, .mv (.c (.iv 0))⟩]) (.blk 2 (.loop e21_L1)))))) (.reg [⟨(some 98), none, .bin .add (.t 20) (.c (.iv 1))⟩, ⟨(some 20), none, .mv (.t 98)⟩])))
def e21 : EC := .seq (.reg [⟨(some 2), none, .alloc 24 [.iv 0, .nl]⟩, ⟨(some 3), none, .mv (.c .ff)⟩]) (.seq (.seq (.reg [⟨(some 11), none, .mv (.t 0)⟩, ⟨(some 12), none, .len (.t 11)⟩, ⟨(some 13), none, .bin .gtr (.t 12) (.c (.iv 64))⟩]) (.ite (.t 13) (.seq (.reg [⟨(some 14), none, .build [.iv 0, .nl] []⟩, ⟨none, none, .store 2 (.t 2) (.t 14)⟩, ⟨(some 3), none, .mv (.c .ff)⟩]) (.ret)) (.skip))) (.seq (.reg [⟨(some 15), none, .mv (.t 0)⟩, ⟨(some 16), none, .len (.t 15)⟩, ⟨(some 17), none, .build [.iv 0, .nl] [(0, 1, (.t 16))]⟩, ⟨(some 4), none, .alloc 24 [.iv 0, .nl]⟩, ⟨none, none, .store 2 (.t 4) (.t 17)⟩]) (.seq (.seq (.reg [⟨(some 18), none, .mv (.t 0)⟩, ⟨(some 19), none, .len (.t 18)⟩, ⟨(some 20), none, .mv (.c (.iv 0))⟩]) (.blk 0 (.loop e21_L0))) (.seq (.seq (.reg [⟨(some 99), none, .loadA 2 (.t 4)⟩, ⟨(some 100), none, .call 49 [(.t 99)]⟩, ⟨(some 101), none, .bin .neq (.t 100) (.c (.iv 0))⟩]) (.ite (.t 101) (.seq (.reg [⟨(some 102), none, .build [.iv 0, .nl] []⟩, ⟨none, none, .store 2 (.t 2) (.t 102)⟩, ⟨(some 3), none, .mv (.c .ff)⟩]) (.ret)) (.skip))) (.seq (.reg [⟨(some 103), none, .loadA 2 (.t 4)⟩, ⟨none, none, .store 2 (.t 2) (.t 103)⟩, ⟨(some 3), none, .mv (.c .tt)⟩]) (.ret))))))
theorem ok21 : FnOK Try.prog 21 Try.f21 e21 [.c 2 (some 2), .t 3] 1 103 := ⟨by kernel_rfl, ⟨_, rfl, by kernel_rfl⟩, by kernel_rfl, by kernel_rfl⟩
/- narthex/place.Graph -/
noncomputable def m_place_Graph_j1 (x1 : (List Diner)) : (List Edge) → Option (Graph × Bool)
| x78 =>
 (m_graph_Check ((Graph.mk (ln Diner.row x1) x78))).bind fun x79 =>
 ifb (!decide (x79 = 0)) (
 some ((Graph.mk 0 (([] : (List Edge)))), false)) (
 some ((Graph.mk (ln Diner.row x1) x78), true))
noncomputable def m_place_Graph_j2 (x35 : Int) : (List Edge) → Option ((Int × (List Edge)) ⊕ (Graph × Bool))
| x69 =>
 some (.inl (wr (x35 + 1), x69))
noncomputable def m_place_Graph_j4 (x47 : Int) : (List Edge) → Option ((Int × (List Edge)) ⊕ ((Int × (List Edge)) ⊕ (Graph × Bool)))
| x55 =>
 some (.inl (wr (x47 + 1), x55))
noncomputable def m_place_Graph_j3 (x1 : (List Diner)) (x35 : Int) (x47 : Int) (x48 : (List Edge)) (x49 : Side) : Bool → Option ((Int × (List Edge)) ⊕ ((Int × (List Edge)) ⊕ (Graph × Bool)))
| x51 =>
 ifb x51 (
 Option.map Sum.inr (Option.map Sum.inr (some ((Graph.mk 0 (([] : (List Edge)))), false)))) (
 (at_ x1 x49.Peer).bind fun x52 =>
 (m_place_Side x52 x35).bind fun x53 =>
 ifb (!x53.2) (
 Option.map Sum.inr (Option.map Sum.inr (some ((Graph.mk 0 (([] : (List Edge)))), false)))) (
 ifb (decide (x35 < x49.Peer)) (
 (app_ 16 x48 ([(Edge.mk x35 x49.Peer)])).bind fun x54 =>
 (m_place_Graph_j4 x47) x54) (
 (m_place_Graph_j4 x47) x48)))
noncomputable def m_place_Graph_l2 (x1 : (List Diner)) (x35 : Int) (x37 : Diner) : (Int × (List Edge)) → Option ((Int × (List Edge)) ⊕ ((Int × (List Edge)) ⊕ (Graph × Bool)))
| (x47, x48) =>
 ifb (decide (x47 < (ln Side.row x37.Sides))) (
 (at_ x37.Sides x47).bind fun x49 =>
 ifb (decide (x49.Peer < 0)) (
 (m_place_Graph_j3 x1 x35 x47 x48 x49) true) (
 ifb (decide ((ln Diner.row x1) ≤ x49.Peer)) (
 (m_place_Graph_j3 x1 x35 x47 x48 x49) true) (
 ifb (decide (x49.Peer = x35)) (
 (m_place_Graph_j3 x1 x35 x47 x48 x49) true) (
 ifb (decide (0 < x47)) (
 (at_ x37.Sides (wr (x47 - 1))).bind fun x50 =>
 (m_place_Graph_j3 x1 x35 x47 x48 x49) (decide (x49.Peer ≤ x50.Peer))) (
 (m_place_Graph_j3 x1 x35 x47 x48 x49) false))))) (
 Option.map Sum.inr ((m_place_Graph_j2 x35) x48))
noncomputable def m_place_Graph_l1 (x1 : (List Diner)) : (Int × (List Edge)) → Option ((Int × (List Edge)) ⊕ (Graph × Bool))
| (x35, x36) =>
 ifb (decide (x35 < (ln Diner.row x1))) (
 (at_ x1 x35).bind fun x37 =>
 ifb (!decide (x37.ID = x35)) (
 Option.map Sum.inr (some ((Graph.mk 0 (([] : (List Edge)))), false))) (
 loop (m_place_Graph_l2 x1 x35 x37) (0, x36))) (
 Option.map Sum.inr ((m_place_Graph_j1 x1) x36))
noncomputable def m_place_Graph (x1 : (List Diner)) : Option (Graph × Bool) :=
 ifb (decide (64 < (ln Diner.row x1))) (
 some ((Graph.mk 0 (([] : (List Edge)))), false)) (
 loop (m_place_Graph_l1 x1) (0, ([] : List Edge)))
theorem k_place_Graph (x1 : (List Diner)) (r : (Graph × Bool)) (h : m_place_Graph x1 = some r) : FunP Try.prog 21 [.sl 3 (List.map Diner.row x1)] (.tup [.agg (Graph.row r.1), .bv r.2]) := by
  refine FunP_intro ok21 rfl rfl fun w0 H0 => ?_
  rw [m_place_Graph] at h
  refine V_go 12 ?_; dsimp only [e21, e21_L0, e21_L1, go_sem, Nat.reduceBEq, Nat.reduceAdd]; refine ⟨by simp, ?_⟩; refine M_ite h rfl (fun _ h => ?_) fun _ h => ?_
  ·refine V_go 6 ?_; dsimp only [e21, e21_L0, e21_L1, go_sem, Nat.reduceBEq, Nat.reduceAdd]; refine ⟨by simp, ?_⟩; exact M_done (res := fun (r : (Graph × Bool)) => .tup [.agg (Graph.row r.1), .bv r.2]) ok21 h
  ·refine V_go 16 ?_; dsimp only [e21, e21_L0, e21_L1, go_sem, Nat.reduceBEq, Nat.reduceAdd]; refine ⟨by simp, ?_⟩; refine V_join (fun (x78 : (List Edge)) => (⟨(.any :: .any :: .ptr 0 0 :: .any :: .ptr 1 0 :: an 99 []), [some ⟨24, [.iv 0, .nl]⟩, some ⟨24, [.iv (ln Diner.row x1), .osl 0]⟩], [some ⟨58, 2, List.map Edge.row x78⟩]⟩ : St)) (m_place_Graph_j1 x1) r ?_ fun J1 => ?_
   ·intro x78 h; rw [m_place_Graph_j1] at h; (try dsimp only); refine V_go 4 ?_; dsimp only [e21, e21_L0, e21_L1, go_sem, Nat.reduceBEq, Nat.reduceAdd]; refine ⟨by simp, ?_⟩; obtain ⟨x79, ex79, h⟩ := Option.bind_eq_some_iff.1 h; refine V_callL trivial ((Lend.refl _).slice 0 rfl) (k_graph_Check ((Graph.mk (ln Diner.row x1) x78)) _ ex79) (h := ?_); refine V_go 2 ?_; dsimp only [e21, e21_L0, e21_L1, go_sem, Nat.reduceBEq, Nat.reduceAdd]; refine ⟨by simp, ?_⟩; refine M_ite h rfl (fun _ h => ?_) fun _ h => ?_
    ·refine V_go 6 ?_; dsimp only [e21, e21_L0, e21_L1, go_sem, Nat.reduceBEq, Nat.reduceAdd]; refine ⟨by simp, ?_⟩; exact M_done (res := fun (r : (Graph × Bool)) => .tup [.agg (Graph.row r.1), .bv r.2]) ok21 h
    ·refine V_go 7 ?_; dsimp only [e21, e21_L0, e21_L1, go_sem, Nat.reduceBEq, Nat.reduceAdd]; refine ⟨by simp, ?_⟩; refine V_seal 0 rfl ?_; dsimp only [go_sem, Nat.reduceBEq, Nat.reduceAdd]; exact M_done (res := fun (r : (Graph × Bool)) => .tup [.agg (Graph.row r.1), .bv r.2]) ok21 h
   ·refine V_go 1 ?_; dsimp only [e21, e21_L0, e21_L1, go_sem, Nat.reduceBEq, Nat.reduceAdd]; refine ⟨by simp, ?_⟩; refine V_ownB 1 1 58 2 rfl rfl rfl ?_; dsimp only [go_sem, Nat.reduceBEq, Nat.reduceAdd]
    refine M_loop h (fun ((x35, x36) : (Int × (List Edge))) => (⟨(.sl 3 (List.map Diner.row x1) :: .any :: .ptr 0 0 :: .any :: .ptr 1 0 :: an 13 (.sl 3 (List.map Diner.row x1) :: .iv (ln Diner.row x1) :: .iv x35 :: an 83 [])), [some ⟨24, [.iv 0, .nl]⟩, some ⟨24, [.iv (ln Diner.row x1), .osl 0]⟩], [some ⟨58, 2, List.map Edge.row x36⟩]⟩ : St)) (by simp [go_sem]) (by rintro ⟨x35, x36⟩; first | rfl | simp [go_sem]) ?_; rintro n1 ⟨x35, x36⟩ y1 h hin1 hout1; rw [m_place_Graph_l1] at h; (try dsimp only); refine V_go 5 ?_; dsimp only [e21, e21_L0, e21_L1, go_sem, Nat.reduceBEq, Nat.reduceAdd]
    refine ⟨by simp, ?_⟩; refine M_ite h rfl (fun _ h => ?_) fun _ h => ?_
    ·refine V_go 6 ?_; dsimp only [e21, e21_L0, e21_L1, go_sem, Nat.reduceBEq, Nat.reduceAdd]; refine ⟨by simp, ?_⟩; obtain ⟨x37, ex37, h⟩ := Option.bind_eq_some_iff.1 h; refine V_idxM Diner.row ex37 trivial rfl rfl rfl ?_; refine V_go 13 ?_; dsimp only [e21, e21_L0, e21_L1, go_sem, Nat.reduceBEq, Nat.reduceAdd]; refine ⟨by simp, ?_⟩; refine M_ite h rfl (fun _ h => ?_) fun _ h => ?_
     ·refine V_go 6 ?_; dsimp only [e21, e21_L0, e21_L1, go_sem, Nat.reduceBEq, Nat.reduceAdd]; refine ⟨by simp, ?_⟩; exact M_done (res := fun (r : (Graph × Bool)) => .tup [.agg (Graph.row r.1), .bv r.2]) ok21 (M_out h hout1)
     ·refine V_go 8 ?_; dsimp only [e21, e21_L0, e21_L1, go_sem, Nat.reduceBEq, Nat.reduceAdd]; refine ⟨by simp, ?_⟩; refine V_join (fun (x69 : (List Edge)) => (⟨(.sl 3 (List.map Diner.row x1) :: .any :: .ptr 0 0 :: .any :: .ptr 1 0 :: an 13 (.sl 3 (List.map Diner.row x1) :: .iv (ln Diner.row x1) :: .iv x35 :: an 83 [])), [some ⟨24, [.iv 0, .nl]⟩, some ⟨24, [.iv (ln Diner.row x1), .osl 0]⟩], [some ⟨58, 2, List.map Edge.row x69⟩]⟩ : St)) (m_place_Graph_j2 x35) y1 ?_ fun J2 => ?_
      ·intro x69 h; rw [m_place_Graph_j2] at h; (try dsimp only); refine V_go 5 ?_; dsimp only [e21, e21_L0, e21_L1, go_sem, Nat.reduceBEq, Nat.reduceAdd]; refine ⟨by simp, ?_⟩; exact M_back h hin1
      ·refine V_go 1 ?_; dsimp only [e21, e21_L0, e21_L1, go_sem, Nat.reduceBEq, Nat.reduceAdd]; refine ⟨by simp, ?_⟩
       refine M_loop h (fun ((x47, x48) : (Int × (List Edge))) => (⟨(.sl 3 (List.map Diner.row x1) :: .any :: .ptr 0 0 :: .any :: .ptr 1 0 :: .iv x35 :: .ptr 2 0 :: an 11 (.sl 3 (List.map Diner.row x1) :: .iv (ln Diner.row x1) :: .iv x35 :: an 10 (.sl 8 (List.map Side.row x37.Sides) :: .iv (ln Side.row x37.Sides) :: .iv x47 :: an 70 []))), [some ⟨24, [.iv 0, .nl]⟩, some ⟨24, [.iv (ln Diner.row x1), .osl 0]⟩, some ⟨39, [.iv x37.ID, .iv x37.Phase, .sl 8 (List.map Side.row x37.Sides)]⟩], [some ⟨58, 2, List.map Edge.row x48⟩]⟩ : St)) (by simp [go_sem]) (by rintro ⟨x47, x48⟩; first | rfl | simp [go_sem]) ?_
       rintro n2 ⟨x47, x48⟩ y2 h hin2 hout2; rw [m_place_Graph_l2] at h; (try dsimp only); refine V_go 5 ?_; dsimp only [e21, e21_L0, e21_L1, go_sem, Nat.reduceBEq, Nat.reduceAdd]; refine ⟨by simp, ?_⟩; refine M_ite h rfl (fun _ h => ?_) fun _ h => ?_
       ·refine V_go 6 ?_; dsimp only [e21, e21_L0, e21_L1, go_sem, Nat.reduceBEq, Nat.reduceAdd]; refine ⟨by simp, ?_⟩; obtain ⟨x49, ex49, h⟩ := Option.bind_eq_some_iff.1 h; refine V_idxM Side.row ex49 trivial rfl rfl rfl ?_; refine V_go 7 ?_; dsimp only [e21, e21_L0, e21_L1, go_sem, Nat.reduceBEq, Nat.reduceAdd]; refine ⟨by simp, ?_⟩
        refine V_join (fun (x51 : Bool) => (⟨(.sl 3 (List.map Diner.row x1) :: .any :: .ptr 0 0 :: .any :: .ptr 1 0 :: .iv x35 :: .ptr 2 0 :: .any :: .ptr 3 0 :: an 9 (.sl 3 (List.map Diner.row x1) :: .iv (ln Diner.row x1) :: .iv x35 :: an 10 (.sl 8 (List.map Side.row x37.Sides) :: .iv (ln Side.row x37.Sides) :: .iv x47 :: an 35 (.bv x51 :: an 34 [])))), [some ⟨24, [.iv 0, .nl]⟩, some ⟨24, [.iv (ln Diner.row x1), .osl 0]⟩, some ⟨39, [.iv x37.ID, .iv x37.Phase, .sl 8 (List.map Side.row x37.Sides)]⟩, some ⟨49, [.iv x49.Peer, .iv x49.Epoch, .iv x49.State, .bv x49.Fork, .bv x49.Dirty, .bv x49.Token, .bv x49.Bottle, .bv x49.Ask]⟩], [some ⟨58, 2, List.map Edge.row x48⟩]⟩ : St)) (m_place_Graph_j3 x1 x35 x47 x48 x49) y2 ?_ fun J3 => ?_
        ·intro x51 h; rw [m_place_Graph_j3] at h; (try dsimp only); refine M_ite h rfl (fun _ h => ?_) fun _ h => ?_
         ·refine V_go 6 ?_; dsimp only [e21, e21_L0, e21_L1, go_sem, Nat.reduceBEq, Nat.reduceAdd]; refine ⟨by simp, ?_⟩; exact M_done (res := fun (r : (Graph × Bool)) => .tup [.agg (Graph.row r.1), .bv r.2]) ok21 (M_out (M_out h hout2) hout1)
         ·refine V_go 7 ?_; dsimp only [e21, e21_L0, e21_L1, go_sem, Nat.reduceBEq, Nat.reduceAdd]; refine ⟨by simp, ?_⟩; obtain ⟨x52, ex52, h⟩ := Option.bind_eq_some_iff.1 h; refine V_idxM Diner.row ex52 trivial rfl rfl rfl ?_; refine V_go 2 ?_; dsimp only [e21, e21_L0, e21_L1, go_sem, Nat.reduceBEq, Nat.reduceAdd]; refine ⟨by simp, ?_⟩; obtain ⟨x53, ex53, h⟩ := Option.bind_eq_some_iff.1 h; refine V_call trivial (k_place_Side x52 x35 _ ex53) (h := ?_); refine V_go 12 ?_; dsimp only [e21, e21_L0, e21_L1, go_sem, Nat.reduceBEq, Nat.reduceAdd]; refine ⟨by simp, ?_⟩
          refine M_ite h rfl (fun _ h => ?_) fun _ h => ?_
          ·refine V_go 6 ?_; dsimp only [e21, e21_L0, e21_L1, go_sem, Nat.reduceBEq, Nat.reduceAdd]; refine ⟨by simp, ?_⟩; exact M_done (res := fun (r : (Graph × Bool)) => .tup [.agg (Graph.row r.1), .bv r.2]) ok21 (M_out (M_out h hout2) hout1)
          ·refine V_go 8 ?_; dsimp only [e21, e21_L0, e21_L1, go_sem, Nat.reduceBEq, Nat.reduceAdd]; refine ⟨by simp, ?_⟩
           refine V_join (fun (x55 : (List Edge)) => (⟨(.sl 3 (List.map Diner.row x1) :: .any :: .ptr 0 0 :: .any :: .ptr 1 0 :: .iv x35 :: .ptr 2 0 :: an 11 (.sl 3 (List.map Diner.row x1) :: .iv (ln Diner.row x1) :: .iv x35 :: an 10 (.sl 8 (List.map Side.row x37.Sides) :: .iv (ln Side.row x37.Sides) :: .iv x47 :: an 70 []))), [some ⟨24, [.iv 0, .nl]⟩, some ⟨24, [.iv (ln Diner.row x1), .osl 0]⟩, some ⟨39, [.iv x37.ID, .iv x37.Phase, .sl 8 (List.map Side.row x37.Sides)]⟩], [some ⟨58, 2, List.map Edge.row x55⟩]⟩ : St)) (m_place_Graph_j4 x47) y2 ?_ fun J4 => ?_
           ·intro x55 h; rw [m_place_Graph_j4] at h; (try dsimp only); refine V_go 5 ?_; dsimp only [e21, e21_L0, e21_L1, go_sem, Nat.reduceBEq, Nat.reduceAdd]; refine ⟨by simp, ?_⟩; exact M_back h hin2
           ·refine M_ite h rfl (fun _ h => ?_) fun _ h => ?_
            ·refine V_go 8 ?_; dsimp only [e21, e21_L0, e21_L1, go_sem, Nat.reduceBEq, Nat.reduceAdd]; refine ⟨by simp, ?_⟩; obtain ⟨x54, ex54, h⟩ := Option.bind_eq_some_iff.1 h; refine V_appM Edge.row ex54 trivial rfl rfl rfl ?_; refine V_go 3 ?_; dsimp only [e21, e21_L0, e21_L1, go_sem, Nat.reduceBEq, Nat.reduceAdd]; refine ⟨by simp, ?_⟩; refine V_ren 2 0 rfl rfl rfl ?_; dsimp only [go_sem, Nat.reduceBEq, Nat.reduceAdd]; exact M_to J4 (s := x54) h
            ·refine V_go 1 ?_; dsimp only [e21, e21_L0, e21_L1, go_sem, Nat.reduceBEq, Nat.reduceAdd]; refine ⟨by simp, ?_⟩; exact M_to J4 (s := x48) h
        ·refine V_drw (by kernel_rfl) fun all hall hs hnap haf => ?_; dsimp only [go_sem, Nat.reduceBEq, Nat.reduceAdd]
         refine G_goE hall hs haf hnap 4 28 [true, true, true, true, false, false, false, false, false, false, false, false, false, false, false, false, false, false, false, false, false, false, false, false, false, false, false, false, false, false, false, false] (⟨(.sl 3 (List.map Diner.row x1) :: .any :: .ptr 0 0 :: .any :: .ptr 1 0 :: .iv x35 :: .ptr 2 0 :: .iv x47 :: .ptr 3 0 :: an 9 (.sl 3 (List.map Diner.row x1) :: .iv (ln Diner.row x1) :: .iv x35 :: an 10 (.sl 8 (List.map Side.row x37.Sides) :: .iv (ln Side.row x37.Sides) :: .iv x47 :: .bv (decide (x47 < (ln Side.row x37.Sides))) :: .iv x47 :: .elt [.iv x49.Peer, .iv x49.Epoch, .iv x49.State, .bv x49.Fork, .bv x49.Dirty, .bv x49.Token, .bv x49.Bottle, .bv x49.Ask] 0 :: .agg [.iv x49.Peer, .iv x49.Epoch, .iv x49.State, .bv x49.Fork, .bv x49.Dirty, .bv x49.Token, .bv x49.Bottle, .bv x49.Ask] :: .ptr 3 0 :: .iv x49.Peer :: .bv (decide (x49.Peer < 0)) :: .bv (decide (x49.Peer < 0)) :: an 62 []))), [some ⟨24, [.iv 0, .nl]⟩, some ⟨24, [.iv (ln Diner.row x1), .osl 0]⟩, some ⟨39, [.iv x37.ID, .iv x37.Phase, .sl 8 (List.map Side.row x37.Sides)]⟩, some ⟨49, [.iv x49.Peer, .iv x49.Epoch, .iv x49.State, .bv x49.Fork, .bv x49.Dirty, .bv x49.Token, .bv x49.Bottle, .bv x49.Ask]⟩], [some ⟨58, 2, List.map Edge.row x48⟩]⟩ : St) (by kernel_rfl) ?_
         refine GM_case 41 h rfl (fun _ h => ?_) fun _ h => ?_
         ·dsimp only [go_sem, Nat.reduceBEq, Nat.reduceAdd]
          refine G_goE hall hs haf hnap 28 0 [true, true, true, true, true, true, true, true, true, true, true, true, true, true, true, true, true, true, true, true, true, true, true, true, true, true, true, true, true, true, true, true] (⟨(.sl 3 (List.map Diner.row x1) :: .any :: .ptr 0 0 :: .any :: .ptr 1 0 :: .iv x35 :: .ptr 2 0 :: .iv x47 :: .ptr 3 0 :: an 9 (.sl 3 (List.map Diner.row x1) :: .iv (ln Diner.row x1) :: .iv x35 :: an 10 (.sl 8 (List.map Side.row x37.Sides) :: .iv (ln Side.row x37.Sides) :: .iv x47 :: .bv (decide (x47 < (ln Side.row x37.Sides))) :: .iv x47 :: .elt [.iv x49.Peer, .iv x49.Epoch, .iv x49.State, .bv x49.Fork, .bv x49.Dirty, .bv x49.Token, .bv x49.Bottle, .bv x49.Ask] 0 :: .agg [.iv x49.Peer, .iv x49.Epoch, .iv x49.State, .bv x49.Fork, .bv x49.Dirty, .bv x49.Token, .bv x49.Bottle, .bv x49.Ask] :: .ptr 3 0 :: .iv x49.Peer :: .bv (decide (x49.Peer < 0)) :: .tt :: .un :: .un :: .un :: .un :: .un :: .tt :: .tt :: .un :: .un :: .un :: .un :: .tt :: .tt :: .un :: .un :: .un :: .un :: .un :: .un :: .un :: .un :: .un :: .un :: .un :: .un :: .un :: .un :: .tt :: an 34 []))), [some ⟨24, [.iv 0, .nl]⟩, some ⟨24, [.iv (ln Diner.row x1), .osl 0]⟩, some ⟨39, [.iv x37.ID, .iv x37.Phase, .sl 8 (List.map Side.row x37.Sides)]⟩, some ⟨49, [.iv x49.Peer, .iv x49.Epoch, .iv x49.State, .bv x49.Fork, .bv x49.Dirty, .bv x49.Token, .bv x49.Bottle, .bv x49.Ask]⟩], [some ⟨58, 2, List.map Edge.row x48⟩]⟩ : St) (by kernel_rfl) ?_
          refine G_done rfl ?_ _; exact M_to J3 (s := true) h
         ·dsimp only [go_sem, Nat.reduceBEq, Nat.reduceAdd]
          refine G_goE hall hs haf hnap 7 21 [true, true, true, true, true, true, true, true, true, true, true, false, false, false, false, false, false, false, false, false, false, false, false, false, false, false, false, false, false, false, false, false] (⟨(.sl 3 (List.map Diner.row x1) :: .any :: .ptr 0 0 :: .any :: .ptr 1 0 :: .iv x35 :: .ptr 2 0 :: .iv x47 :: .ptr 3 0 :: an 9 (.sl 3 (List.map Diner.row x1) :: .iv (ln Diner.row x1) :: .iv x35 :: an 10 (.sl 8 (List.map Side.row x37.Sides) :: .iv (ln Side.row x37.Sides) :: .iv x47 :: .bv (decide (x47 < (ln Side.row x37.Sides))) :: .iv x47 :: .elt [.iv x49.Peer, .iv x49.Epoch, .iv x49.State, .bv x49.Fork, .bv x49.Dirty, .bv x49.Token, .bv x49.Bottle, .bv x49.Ask] 0 :: .agg [.iv x49.Peer, .iv x49.Epoch, .iv x49.State, .bv x49.Fork, .bv x49.Dirty, .bv x49.Token, .bv x49.Bottle, .bv x49.Ask] :: .ptr 3 0 :: .iv x49.Peer :: .bv (decide (x49.Peer < 0)) :: .ff :: .ptr 3 0 :: .iv x49.Peer :: .sl 3 (List.map Diner.row x1) :: .iv (ln Diner.row x1) :: .bv (decide ((ln Diner.row x1) ≤ x49.Peer)) :: .bv (decide ((ln Diner.row x1) ≤ x49.Peer)) :: .bv (decide ((ln Diner.row x1) ≤ x49.Peer)) :: an 55 []))), [some ⟨24, [.iv 0, .nl]⟩, some ⟨24, [.iv (ln Diner.row x1), .osl 0]⟩, some ⟨39, [.iv x37.ID, .iv x37.Phase, .sl 8 (List.map Side.row x37.Sides)]⟩, some ⟨49, [.iv x49.Peer, .iv x49.Epoch, .iv x49.State, .bv x49.Fork, .bv x49.Dirty, .bv x49.Token, .bv x49.Bottle, .bv x49.Ask]⟩], [some ⟨58, 2, List.map Edge.row x48⟩]⟩ : St) (by kernel_rfl) ?_
          refine GM_case 48 h rfl (fun _ h => ?_) fun _ h => ?_
          ·dsimp only [go_sem, Nat.reduceBEq, Nat.reduceAdd]
           refine G_goE hall hs haf hnap 21 0 [true, true, true, true, true, true, true, true, true, true, true, true, true, true, true, true, true, true, true, true, true, true, true, true, true, true, true, true, true, true, true, true] (⟨(.sl 3 (List.map Diner.row x1) :: .any :: .ptr 0 0 :: .any :: .ptr 1 0 :: .iv x35 :: .ptr 2 0 :: .iv x47 :: .ptr 3 0 :: an 9 (.sl 3 (List.map Diner.row x1) :: .iv (ln Diner.row x1) :: .iv x35 :: an 10 (.sl 8 (List.map Side.row x37.Sides) :: .iv (ln Side.row x37.Sides) :: .iv x47 :: .bv (decide (x47 < (ln Side.row x37.Sides))) :: .iv x47 :: .elt [.iv x49.Peer, .iv x49.Epoch, .iv x49.State, .bv x49.Fork, .bv x49.Dirty, .bv x49.Token, .bv x49.Bottle, .bv x49.Ask] 0 :: .agg [.iv x49.Peer, .iv x49.Epoch, .iv x49.State, .bv x49.Fork, .bv x49.Dirty, .bv x49.Token, .bv x49.Bottle, .bv x49.Ask] :: .ptr 3 0 :: .iv x49.Peer :: .bv (decide (x49.Peer < 0)) :: .ff :: .ptr 3 0 :: .iv x49.Peer :: .sl 3 (List.map Diner.row x1) :: .iv (ln Diner.row x1) :: .bv (decide ((ln Diner.row x1) ≤ x49.Peer)) :: .bv (decide ((ln Diner.row x1) ≤ x49.Peer)) :: .tt :: .un :: .un :: .un :: .un :: .tt :: .tt :: .un :: .un :: .un :: .un :: .un :: .un :: .un :: .un :: .un :: .un :: .un :: .un :: .un :: .un :: .tt :: an 34 []))), [some ⟨24, [.iv 0, .nl]⟩, some ⟨24, [.iv (ln Diner.row x1), .osl 0]⟩, some ⟨39, [.iv x37.ID, .iv x37.Phase, .sl 8 (List.map Side.row x37.Sides)]⟩, some ⟨49, [.iv x49.Peer, .iv x49.Epoch, .iv x49.State, .bv x49.Fork, .bv x49.Dirty, .bv x49.Token, .bv x49.Bottle, .bv x49.Ask]⟩], [some ⟨58, 2, List.map Edge.row x48⟩]⟩ : St) (by kernel_rfl) ?_
           refine G_done rfl ?_ _; exact M_to J3 (s := true) h
          ·dsimp only [go_sem, Nat.reduceBEq, Nat.reduceAdd]
           refine G_goE hall hs haf hnap 6 15 [true, true, true, true, true, true, true, true, true, true, true, true, true, true, true, true, true, false, false, false, false, false, false, false, false, false, false, false, false, false, false, false] (⟨(.sl 3 (List.map Diner.row x1) :: .any :: .ptr 0 0 :: .any :: .ptr 1 0 :: .iv x35 :: .ptr 2 0 :: .iv x47 :: .ptr 3 0 :: an 9 (.sl 3 (List.map Diner.row x1) :: .iv (ln Diner.row x1) :: .iv x35 :: an 10 (.sl 8 (List.map Side.row x37.Sides) :: .iv (ln Side.row x37.Sides) :: .iv x47 :: .bv (decide (x47 < (ln Side.row x37.Sides))) :: .iv x47 :: .elt [.iv x49.Peer, .iv x49.Epoch, .iv x49.State, .bv x49.Fork, .bv x49.Dirty, .bv x49.Token, .bv x49.Bottle, .bv x49.Ask] 0 :: .agg [.iv x49.Peer, .iv x49.Epoch, .iv x49.State, .bv x49.Fork, .bv x49.Dirty, .bv x49.Token, .bv x49.Bottle, .bv x49.Ask] :: .ptr 3 0 :: .iv x49.Peer :: .bv (decide (x49.Peer < 0)) :: .ff :: .ptr 3 0 :: .iv x49.Peer :: .sl 3 (List.map Diner.row x1) :: .iv (ln Diner.row x1) :: .bv (decide ((ln Diner.row x1) ≤ x49.Peer)) :: .bv (decide ((ln Diner.row x1) ≤ x49.Peer)) :: .ff :: .ptr 3 0 :: .iv x49.Peer :: .iv x35 :: .bv (decide (x49.Peer = x35)) :: .bv (decide (x49.Peer = x35)) :: .bv (decide (x49.Peer = x35)) :: an 49 []))), [some ⟨24, [.iv 0, .nl]⟩, some ⟨24, [.iv (ln Diner.row x1), .osl 0]⟩, some ⟨39, [.iv x37.ID, .iv x37.Phase, .sl 8 (List.map Side.row x37.Sides)]⟩, some ⟨49, [.iv x49.Peer, .iv x49.Epoch, .iv x49.State, .bv x49.Fork, .bv x49.Dirty, .bv x49.Token, .bv x49.Bottle, .bv x49.Ask]⟩], [some ⟨58, 2, List.map Edge.row x48⟩]⟩ : St) (by kernel_rfl) ?_
           refine GM_case 54 h rfl (fun _ h => ?_) fun _ h => ?_
           ·dsimp only [go_sem, Nat.reduceBEq, Nat.reduceAdd]
            refine G_goE hall hs haf hnap 15 0 [true, true, true, true, true, true, true, true, true, true, true, true, true, true, true, true, true, true, true, true, true, true, true, true, true, true, true, true, true, true, true, true] (⟨(.sl 3 (List.map Diner.row x1) :: .any :: .ptr 0 0 :: .any :: .ptr 1 0 :: .iv x35 :: .ptr 2 0 :: .iv x47 :: .ptr 3 0 :: an 9 (.sl 3 (List.map Diner.row x1) :: .iv (ln Diner.row x1) :: .iv x35 :: an 10 (.sl 8 (List.map Side.row x37.Sides) :: .iv (ln Side.row x37.Sides) :: .iv x47 :: .bv (decide (x47 < (ln Side.row x37.Sides))) :: .iv x47 :: .elt [.iv x49.Peer, .iv x49.Epoch, .iv x49.State, .bv x49.Fork, .bv x49.Dirty, .bv x49.Token, .bv x49.Bottle, .bv x49.Ask] 0 :: .agg [.iv x49.Peer, .iv x49.Epoch, .iv x49.State, .bv x49.Fork, .bv x49.Dirty, .bv x49.Token, .bv x49.Bottle, .bv x49.Ask] :: .ptr 3 0 :: .iv x49.Peer :: .bv (decide (x49.Peer < 0)) :: .ff :: .ptr 3 0 :: .iv x49.Peer :: .sl 3 (List.map Diner.row x1) :: .iv (ln Diner.row x1) :: .bv (decide ((ln Diner.row x1) ≤ x49.Peer)) :: .bv (decide ((ln Diner.row x1) ≤ x49.Peer)) :: .ff :: .ptr 3 0 :: .iv x49.Peer :: .iv x35 :: .bv (decide (x49.Peer = x35)) :: .bv (decide (x49.Peer = x35)) :: .tt :: .un :: .un :: .un :: .un :: .un :: .un :: .un :: .un :: .un :: .un :: .un :: .un :: .un :: .un :: .tt :: an 34 []))), [some ⟨24, [.iv 0, .nl]⟩, some ⟨24, [.iv (ln Diner.row x1), .osl 0]⟩, some ⟨39, [.iv x37.ID, .iv x37.Phase, .sl 8 (List.map Side.row x37.Sides)]⟩, some ⟨49, [.iv x49.Peer, .iv x49.Epoch, .iv x49.State, .bv x49.Fork, .bv x49.Dirty, .bv x49.Token, .bv x49.Bottle, .bv x49.Ask]⟩], [some ⟨58, 2, List.map Edge.row x48⟩]⟩ : St) (by kernel_rfl) ?_
            refine G_done rfl ?_ _; exact M_to J3 (s := true) h
           ·dsimp only [go_sem, Nat.reduceBEq, Nat.reduceAdd]
            refine G_goE hall hs haf hnap 3 12 [true, true, true, true, true, true, true, true, true, true, true, true, true, true, true, true, true, true, true, true, false, false, false, false, false, false, false, false, false, false, false, false] (⟨(.sl 3 (List.map Diner.row x1) :: .any :: .ptr 0 0 :: .any :: .ptr 1 0 :: .iv x35 :: .ptr 2 0 :: .iv x47 :: .ptr 3 0 :: an 9 (.sl 3 (List.map Diner.row x1) :: .iv (ln Diner.row x1) :: .iv x35 :: an 10 (.sl 8 (List.map Side.row x37.Sides) :: .iv (ln Side.row x37.Sides) :: .iv x47 :: .bv (decide (x47 < (ln Side.row x37.Sides))) :: .iv x47 :: .elt [.iv x49.Peer, .iv x49.Epoch, .iv x49.State, .bv x49.Fork, .bv x49.Dirty, .bv x49.Token, .bv x49.Bottle, .bv x49.Ask] 0 :: .agg [.iv x49.Peer, .iv x49.Epoch, .iv x49.State, .bv x49.Fork, .bv x49.Dirty, .bv x49.Token, .bv x49.Bottle, .bv x49.Ask] :: .ptr 3 0 :: .iv x49.Peer :: .bv (decide (x49.Peer < 0)) :: .ff :: .ptr 3 0 :: .iv x49.Peer :: .sl 3 (List.map Diner.row x1) :: .iv (ln Diner.row x1) :: .bv (decide ((ln Diner.row x1) ≤ x49.Peer)) :: .bv (decide ((ln Diner.row x1) ≤ x49.Peer)) :: .ff :: .ptr 3 0 :: .iv x49.Peer :: .iv x35 :: .bv (decide (x49.Peer = x35)) :: .bv (decide (x49.Peer = x35)) :: .ff :: .iv x47 :: .bv (decide (0 < x47)) :: .bv (decide (0 < x47)) :: an 46 []))), [some ⟨24, [.iv 0, .nl]⟩, some ⟨24, [.iv (ln Diner.row x1), .osl 0]⟩, some ⟨39, [.iv x37.ID, .iv x37.Phase, .sl 8 (List.map Side.row x37.Sides)]⟩, some ⟨49, [.iv x49.Peer, .iv x49.Epoch, .iv x49.State, .bv x49.Fork, .bv x49.Dirty, .bv x49.Token, .bv x49.Bottle, .bv x49.Ask]⟩], [some ⟨58, 2, List.map Edge.row x48⟩]⟩ : St) (by kernel_rfl) ?_
            refine GM_case 57 h rfl (fun _ h => ?_) fun _ h => ?_
            ·dsimp only [go_sem, Nat.reduceBEq, Nat.reduceAdd]
             refine G_goE hall hs haf hnap 6 6 [true, true, true, true, true, true, true, true, true, true, true, true, true, true, true, true, true, true, true, true, true, true, true, true, false, false, false, true, true, false, false, false] (⟨(.sl 3 (List.map Diner.row x1) :: .any :: .ptr 0 0 :: .any :: .ptr 1 0 :: .iv x35 :: .ptr 2 0 :: .iv x47 :: .ptr 3 0 :: an 9 (.sl 3 (List.map Diner.row x1) :: .iv (ln Diner.row x1) :: .iv x35 :: an 10 (.sl 8 (List.map Side.row x37.Sides) :: .iv (ln Side.row x37.Sides) :: .iv x47 :: .bv (decide (x47 < (ln Side.row x37.Sides))) :: .iv x47 :: .elt [.iv x49.Peer, .iv x49.Epoch, .iv x49.State, .bv x49.Fork, .bv x49.Dirty, .bv x49.Token, .bv x49.Bottle, .bv x49.Ask] 0 :: .agg [.iv x49.Peer, .iv x49.Epoch, .iv x49.State, .bv x49.Fork, .bv x49.Dirty, .bv x49.Token, .bv x49.Bottle, .bv x49.Ask] :: .ptr 3 0 :: .iv x49.Peer :: .bv (decide (x49.Peer < 0)) :: .ff :: .ptr 3 0 :: .iv x49.Peer :: .sl 3 (List.map Diner.row x1) :: .iv (ln Diner.row x1) :: .bv (decide ((ln Diner.row x1) ≤ x49.Peer)) :: .bv (decide ((ln Diner.row x1) ≤ x49.Peer)) :: .ff :: .ptr 3 0 :: .iv x49.Peer :: .iv x35 :: .bv (decide (x49.Peer = x35)) :: .bv (decide (x49.Peer = x35)) :: .ff :: .iv x47 :: .bv (decide (0 < x47)) :: .tt :: .ptr 2 2 :: .sl 8 (List.map Side.row x37.Sides) :: .iv x47 :: .iv (wr (x47 - 1)) :: an 3 (.ptr 3 0 :: .iv x49.Peer :: an 37 [])))), [some ⟨24, [.iv 0, .nl]⟩, some ⟨24, [.iv (ln Diner.row x1), .osl 0]⟩, some ⟨39, [.iv x37.ID, .iv x37.Phase, .sl 8 (List.map Side.row x37.Sides)]⟩, some ⟨49, [.iv x49.Peer, .iv x49.Epoch, .iv x49.State, .bv x49.Fork, .bv x49.Dirty, .bv x49.Token, .bv x49.Bottle, .bv x49.Ask]⟩], [some ⟨58, 2, List.map Edge.row x48⟩]⟩ : St) (by kernel_rfl) ?_
             obtain ⟨x50, ex50, h⟩ := Option.bind_eq_some_iff.1 h; refine G_idxM hall hs haf hnap 24 Side.row ex50 rfl rfl trivial rfl rfl rfl rfl ?_
             refine G_goE hall hs haf hnap 5 0 [true, true, true, true, true, true, true, true, true, true, true, true, true, true, true, true, true, true, true, true, true, true, true, true, true, true, true, true, true, true, true, true] (⟨(.sl 3 (List.map Diner.row x1) :: .any :: .ptr 0 0 :: .any :: .ptr 1 0 :: .iv x35 :: .ptr 2 0 :: .iv x47 :: .ptr 3 0 :: an 9 (.sl 3 (List.map Diner.row x1) :: .iv (ln Diner.row x1) :: .iv x35 :: an 10 (.sl 8 (List.map Side.row x37.Sides) :: .iv (ln Side.row x37.Sides) :: .iv x47 :: .bv (decide (x47 < (ln Side.row x37.Sides))) :: .iv x47 :: .elt [.iv x49.Peer, .iv x49.Epoch, .iv x49.State, .bv x49.Fork, .bv x49.Dirty, .bv x49.Token, .bv x49.Bottle, .bv x49.Ask] 0 :: .agg [.iv x49.Peer, .iv x49.Epoch, .iv x49.State, .bv x49.Fork, .bv x49.Dirty, .bv x49.Token, .bv x49.Bottle, .bv x49.Ask] :: .ptr 3 0 :: .iv x49.Peer :: .bv (decide (x49.Peer < 0)) :: .ff :: .ptr 3 0 :: .iv x49.Peer :: .sl 3 (List.map Diner.row x1) :: .iv (ln Diner.row x1) :: .bv (decide ((ln Diner.row x1) ≤ x49.Peer)) :: .bv (decide ((ln Diner.row x1) ≤ x49.Peer)) :: .ff :: .ptr 3 0 :: .iv x49.Peer :: .iv x35 :: .bv (decide (x49.Peer = x35)) :: .bv (decide (x49.Peer = x35)) :: .ff :: .iv x47 :: .bv (decide (0 < x47)) :: .tt :: .ptr 2 2 :: .sl 8 (List.map Side.row x37.Sides) :: .iv x47 :: .iv (wr (x47 - 1)) :: .elt [.iv x50.Peer, .iv x50.Epoch, .iv x50.State, .bv x50.Fork, .bv x50.Dirty, .bv x50.Token, .bv x50.Bottle, .bv x50.Ask] 0 :: .elt [.iv x50.Peer, .iv x50.Epoch, .iv x50.State, .bv x50.Fork, .bv x50.Dirty, .bv x50.Token, .bv x50.Bottle, .bv x50.Ask] 0 :: .iv x50.Peer :: .ptr 3 0 :: .iv x49.Peer :: .bv (decide (x49.Peer ≤ x50.Peer)) :: .bv (decide (x49.Peer ≤ x50.Peer)) :: .bv (decide (x49.Peer ≤ x50.Peer)) :: an 34 []))), [some ⟨24, [.iv 0, .nl]⟩, some ⟨24, [.iv (ln Diner.row x1), .osl 0]⟩, some ⟨39, [.iv x37.ID, .iv x37.Phase, .sl 8 (List.map Side.row x37.Sides)]⟩, some ⟨49, [.iv x49.Peer, .iv x49.Epoch, .iv x49.State, .bv x49.Fork, .bv x49.Dirty, .bv x49.Token, .bv x49.Bottle, .bv x49.Ask]⟩], [some ⟨58, 2, List.map Edge.row x48⟩]⟩ : St) (by kernel_rfl) ?_
             refine G_done rfl ?_ _; exact M_to J3 (s := decide (x49.Peer ≤ x50.Peer)) h
            ·dsimp only [go_sem, Nat.reduceBEq, Nat.reduceAdd]
             refine G_goE hall hs haf hnap 12 0 [true, true, true, true, true, true, true, true, true, true, true, true, true, true, true, true, true, true, true, true, true, true, true, true, true, true, true, true, true, true, true, true] (⟨(.sl 3 (List.map Diner.row x1) :: .any :: .ptr 0 0 :: .any :: .ptr 1 0 :: .iv x35 :: .ptr 2 0 :: .iv x47 :: .ptr 3 0 :: an 9 (.sl 3 (List.map Diner.row x1) :: .iv (ln Diner.row x1) :: .iv x35 :: an 10 (.sl 8 (List.map Side.row x37.Sides) :: .iv (ln Side.row x37.Sides) :: .iv x47 :: .bv (decide (x47 < (ln Side.row x37.Sides))) :: .iv x47 :: .elt [.iv x49.Peer, .iv x49.Epoch, .iv x49.State, .bv x49.Fork, .bv x49.Dirty, .bv x49.Token, .bv x49.Bottle, .bv x49.Ask] 0 :: .agg [.iv x49.Peer, .iv x49.Epoch, .iv x49.State, .bv x49.Fork, .bv x49.Dirty, .bv x49.Token, .bv x49.Bottle, .bv x49.Ask] :: .ptr 3 0 :: .iv x49.Peer :: .bv (decide (x49.Peer < 0)) :: .ff :: .ptr 3 0 :: .iv x49.Peer :: .sl 3 (List.map Diner.row x1) :: .iv (ln Diner.row x1) :: .bv (decide ((ln Diner.row x1) ≤ x49.Peer)) :: .bv (decide ((ln Diner.row x1) ≤ x49.Peer)) :: .ff :: .ptr 3 0 :: .iv x49.Peer :: .iv x35 :: .bv (decide (x49.Peer = x35)) :: .bv (decide (x49.Peer = x35)) :: .ff :: .iv x47 :: .bv (decide (0 < x47)) :: .ff :: .un :: .un :: .un :: .un :: .un :: .un :: .un :: .un :: .un :: .un :: .ff :: .ff :: an 34 []))), [some ⟨24, [.iv 0, .nl]⟩, some ⟨24, [.iv (ln Diner.row x1), .osl 0]⟩, some ⟨39, [.iv x37.ID, .iv x37.Phase, .sl 8 (List.map Side.row x37.Sides)]⟩, some ⟨49, [.iv x49.Peer, .iv x49.Epoch, .iv x49.State, .bv x49.Fork, .bv x49.Dirty, .bv x49.Token, .bv x49.Bottle, .bv x49.Ask]⟩], [some ⟨58, 2, List.map Edge.row x48⟩]⟩ : St) (by kernel_rfl) ?_
             refine G_done rfl ?_ _; exact M_to J3 (s := false) h
       ·refine V_go 1 ?_; dsimp only [e21, e21_L0, e21_L1, go_sem, Nat.reduceBEq, Nat.reduceAdd]; refine ⟨by simp, ?_⟩; exact M_to J2 (s := x48) (M_out h hout2)
    ·refine V_go 1 ?_; dsimp only [e21, e21_L0, e21_L1, go_sem, Nat.reduceBEq, Nat.reduceAdd]; refine ⟨by simp, ?_⟩; exact M_to J1 (s := x36) (M_out h hout1)
def f_place_Graph_j1 (F : Nat) (x1 : (List Diner)) : (List Edge) → Option (Graph × Bool)
| x78 =>
 (f_graph_Check F ((Graph.mk (ln Diner.row x1) x78))).bind fun x79 =>
 ifb (!decide (x79 = 0)) (
 some ((Graph.mk 0 (([] : (List Edge)))), false)) (
 some ((Graph.mk (ln Diner.row x1) x78), true))
theorem le_place_Graph_j1 {F : Nat} {x1 : (List Diner)} : ∀ s, ole (f_place_Graph_j1 F x1 s) (m_place_Graph_j1 x1 s) := by
  intro x78
  unfold f_place_Graph_j1 m_place_Graph_j1
  try dsimp only
  with_reducible repeat' first | exact ole_refl _ | assumption | intro _ | refine ole_ifb ?_ ?_ | refine ole_bind ?_ ?_ | refine ole_map ?_ | refine ole_loop ?_ | apply le_graph_Check
def f_place_Graph_j2 (_F : Nat) (x35 : Int) : (List Edge) → Option ((Int × (List Edge)) ⊕ (Graph × Bool))
| x69 =>
 some (.inl (wr (x35 + 1), x69))
theorem le_place_Graph_j2 {F : Nat} {x35 : Int} : ∀ s, ole (f_place_Graph_j2 F x35 s) (m_place_Graph_j2 x35 s) := by
  intro x69
  unfold f_place_Graph_j2 m_place_Graph_j2
  try dsimp only
  with_reducible repeat' first | exact ole_refl _ | assumption | intro _ | refine ole_ifb ?_ ?_ | refine ole_bind ?_ ?_ | refine ole_map ?_ | refine ole_loop ?_ | apply le_graph_Check | apply le_place_Graph_j1
def f_place_Graph_j4 (_F : Nat) (x47 : Int) : (List Edge) → Option ((Int × (List Edge)) ⊕ ((Int × (List Edge)) ⊕ (Graph × Bool)))
| x55 =>
 some (.inl (wr (x47 + 1), x55))
theorem le_place_Graph_j4 {F : Nat} {x47 : Int} : ∀ s, ole (f_place_Graph_j4 F x47 s) (m_place_Graph_j4 x47 s) := by
  intro x55
  unfold f_place_Graph_j4 m_place_Graph_j4
  try dsimp only
  with_reducible repeat' first | exact ole_refl _ | assumption | intro _ | refine ole_ifb ?_ ?_ | refine ole_bind ?_ ?_ | refine ole_map ?_ | refine ole_loop ?_ | apply le_graph_Check | apply le_place_Graph_j1 | apply le_place_Graph_j2
def f_place_Graph_j3 (F : Nat) (x1 : (List Diner)) (x35 : Int) (x47 : Int) (x48 : (List Edge)) (x49 : Side) : Bool → Option ((Int × (List Edge)) ⊕ ((Int × (List Edge)) ⊕ (Graph × Bool)))
| x51 =>
 ifb x51 (
 Option.map Sum.inr (Option.map Sum.inr (some ((Graph.mk 0 (([] : (List Edge)))), false)))) (
 (at_ x1 x49.Peer).bind fun x52 =>
 (f_place_Side F x52 x35).bind fun x53 =>
 ifb (!x53.2) (
 Option.map Sum.inr (Option.map Sum.inr (some ((Graph.mk 0 (([] : (List Edge)))), false)))) (
 ifb (decide (x35 < x49.Peer)) (
 (app_ 16 x48 ([(Edge.mk x35 x49.Peer)])).bind fun x54 =>
 (f_place_Graph_j4 F x47) x54) (
 (f_place_Graph_j4 F x47) x48)))
theorem le_place_Graph_j3 {F : Nat} {x1 : (List Diner)} {x35 : Int} {x47 : Int} {x48 : (List Edge)} {x49 : Side} : ∀ s, ole (f_place_Graph_j3 F x1 x35 x47 x48 x49 s) (m_place_Graph_j3 x1 x35 x47 x48 x49 s) := by
  intro x51
  unfold f_place_Graph_j3 m_place_Graph_j3
  try dsimp only
  with_reducible repeat' first | exact ole_refl _ | assumption | intro _ | refine ole_ifb ?_ ?_ | refine ole_bind ?_ ?_ | refine ole_map ?_ | refine ole_loop ?_ | apply le_graph_Check | apply le_place_Graph_j1 | apply le_place_Graph_j2 | apply le_place_Graph_j4 | apply le_place_Side
def f_place_Graph_l2 (F : Nat) (x1 : (List Diner)) (x35 : Int) (x37 : Diner) : (Int × (List Edge)) → Option ((Int × (List Edge)) ⊕ ((Int × (List Edge)) ⊕ (Graph × Bool)))
| (x47, x48) =>
 ifb (decide (x47 < (ln Side.row x37.Sides))) (
 (at_ x37.Sides x47).bind fun x49 =>
 ifb (decide (x49.Peer < 0)) (
 (f_place_Graph_j3 F x1 x35 x47 x48 x49) true) (
 ifb (decide ((ln Diner.row x1) ≤ x49.Peer)) (
 (f_place_Graph_j3 F x1 x35 x47 x48 x49) true) (
 ifb (decide (x49.Peer = x35)) (
 (f_place_Graph_j3 F x1 x35 x47 x48 x49) true) (
 ifb (decide (0 < x47)) (
 (at_ x37.Sides (wr (x47 - 1))).bind fun x50 =>
 (f_place_Graph_j3 F x1 x35 x47 x48 x49) (decide (x49.Peer ≤ x50.Peer))) (
 (f_place_Graph_j3 F x1 x35 x47 x48 x49) false))))) (
 Option.map Sum.inr ((f_place_Graph_j2 F x35) x48))
theorem le_place_Graph_l2 {F : Nat} {x1 : (List Diner)} {x35 : Int} {x37 : Diner} : ∀ s, ole (f_place_Graph_l2 F x1 x35 x37 s) (m_place_Graph_l2 x1 x35 x37 s) := by
  rintro ⟨x47, x48⟩
  unfold f_place_Graph_l2 m_place_Graph_l2
  try dsimp only
  with_reducible repeat' first | exact ole_refl _ | assumption | intro _ | refine ole_ifb ?_ ?_ | refine ole_bind ?_ ?_ | refine ole_map ?_ | refine ole_loop ?_ | apply le_graph_Check | apply le_place_Graph_j1 | apply le_place_Graph_j2 | apply le_place_Graph_j4 | apply le_place_Side | apply le_place_Graph_j3
def f_place_Graph_l1 (F : Nat) (x1 : (List Diner)) : (Int × (List Edge)) → Option ((Int × (List Edge)) ⊕ (Graph × Bool))
| (x35, x36) =>
 ifb (decide (x35 < (ln Diner.row x1))) (
 (at_ x1 x35).bind fun x37 =>
 ifb (!decide (x37.ID = x35)) (
 Option.map Sum.inr (some ((Graph.mk 0 (([] : (List Edge)))), false))) (
 loopF F (f_place_Graph_l2 F x1 x35 x37) (0, x36))) (
 Option.map Sum.inr ((f_place_Graph_j1 F x1) x36))
theorem le_place_Graph_l1 {F : Nat} {x1 : (List Diner)} : ∀ s, ole (f_place_Graph_l1 F x1 s) (m_place_Graph_l1 x1 s) := by
  rintro ⟨x35, x36⟩
  unfold f_place_Graph_l1 m_place_Graph_l1
  try dsimp only
  with_reducible repeat' first | exact ole_refl _ | assumption | intro _ | refine ole_ifb ?_ ?_ | refine ole_bind ?_ ?_ | refine ole_map ?_ | refine ole_loop ?_ | apply le_graph_Check | apply le_place_Graph_j1 | apply le_place_Graph_j2 | apply le_place_Graph_j4 | apply le_place_Side | apply le_place_Graph_j3 | apply le_place_Graph_l2
def f_place_Graph (F : Nat) (x1 : (List Diner)) : Option (Graph × Bool) :=
 ifb (decide (64 < (ln Diner.row x1))) (
 some ((Graph.mk 0 (([] : (List Edge)))), false)) (
 loopF F (f_place_Graph_l1 F x1) (0, ([] : List Edge)))
theorem le_place_Graph {F : Nat} {x1 : (List Diner)} : ole (f_place_Graph F x1) (m_place_Graph x1) := by
  unfold f_place_Graph m_place_Graph
  with_reducible repeat' first | exact ole_refl _ | assumption | intro _ | refine ole_ifb ?_ ?_ | refine ole_bind ?_ ?_ | refine ole_map ?_ | refine ole_loop ?_ | apply le_graph_Check | apply le_place_Graph_j1 | apply le_place_Graph_j2 | apply le_place_Graph_j4 | apply le_place_Side | apply le_place_Graph_j3 | apply le_place_Graph_l2 | apply le_place_Graph_l1
end NX
end Go.Proofs.Ytadebhbiglmodaa
/-
  The function narthex/place.ahead: its code compiled, a model, and that the code answers as the model. Written by a program of ours (lb.py). No statement of the seat is proved here.
-/
namespace Go.Proofs.Ytadebhbiglmodaa
namespace NX
open Go
set_option maxRecDepth 100000
set_option maxHeartbeats 4000000
def e60 : EC := .seq (.reg [⟨(some 2), none, .box 49 8 (.t 0)⟩, ⟨(some 3), none, .box 49 8 (.t 1)⟩, ⟨(some 4), none, .mv (.c .ff)⟩]) (.seq (.reg [⟨(some 5), none, .fld 3 (.t 2)⟩, ⟨(some 6), none, .load (.t 5)⟩, ⟨(some 7), none, .mv (.t 6)⟩, ⟨(some 8), (some (7, true)), .fld 4 (.t 2)⟩, ⟨(some 9), (some (7, true)), .load (.t 8)⟩, ⟨(some 10), (some (7, true)), .not (.t 9)⟩, ⟨(some 11), none, .pick (.t 7) (.t 10) (.c .ff)⟩, ⟨(some 12), none, .mv (.t 11)⟩, ⟨(some 13), (some (12, false)), .fld 3 (.t 2)⟩, ⟨(some 14), (some (12, false)), .load (.t 13)⟩, ⟨(some 15), (some (12, false)), .not (.t 14)⟩, ⟨(some 16), (some (12, false)), .mv (.t 15)⟩, ⟨(some 17), (some (16, true)), .fld 3 (.t 3)⟩, ⟨(some 18), (some (16, true)), .load (.t 17)⟩, ⟨(some 19), (some (12, false)), .pick (.t 16) (.t 18) (.c .ff)⟩, ⟨(some 20), (some (12, false)), .mv (.t 19)⟩, ⟨(some 21), (some (20, true)), .fld 4 (.t 3)⟩, ⟨(some 22), (some (20, true)), .load (.t 21)⟩, ⟨(some 23), (some (12, false)), .pick (.t 20) (.t 22) (.c .ff)⟩, ⟨(some 24), none, .pick (.t 12) (.c .tt) (.t 23)⟩, ⟨(some 4), none, .mv (.t 24)⟩]) (.ret))
theorem ok60 : FnOK Try.prog 60 Try.f60 e60 [.t 4] 2 23 := ⟨by kernel_rfl, ⟨_, rfl, by kernel_rfl⟩, by kernel_rfl, by kernel_rfl⟩
/- narthex/place.ahead -/
noncomputable def m_place_ahead_j1  : Bool → Option Bool
| x3 =>
 some x3
noncomputable def m_place_ahead (x1 : Side) (x2 : Side) : Option Bool :=
 ifb x1.Fork (
 ifb (!x1.Dirty) (
 m_place_ahead_j1 true) (
 ifb (!x1.Fork) (
 ifb x2.Fork (
 m_place_ahead_j1 x2.Dirty) (
 m_place_ahead_j1 false)) (
 m_place_ahead_j1 false))) (
 ifb (!x1.Fork) (
 ifb x2.Fork (
 m_place_ahead_j1 x2.Dirty) (
 m_place_ahead_j1 false)) (
 m_place_ahead_j1 false))
theorem k_place_ahead (x1 : Side) (x2 : Side) (r : Bool) (h : m_place_ahead x1 x2 = some r) : FunP Try.prog 60 [.agg (Side.row x1), .agg (Side.row x2)] (.bv r) := by
  refine FunP_intro ok60 rfl rfl fun w0 H0 => ?_
  rw [m_place_ahead] at h
  refine V_go 11 ?_; dsimp only [e60, go_sem, Nat.reduceBEq, Nat.reduceAdd]; refine ⟨by simp, ?_⟩; refine V_join (fun (x3 : Bool) => (⟨(an 4 (.bv x3 :: an 20 [])), [], []⟩ : St)) m_place_ahead_j1 r ?_ fun J1 => ?_
  ·intro x3 h; rw [m_place_ahead_j1] at h; (try dsimp only); exact M_done (res := fun (r : Bool) => .bv r) ok60 h
  ·refine M_case 7 h rfl (fun _ h => ?_) fun _ h => ?_
   ·dsimp only [go_sem, Nat.reduceBEq, Nat.reduceAdd]; refine V_go 5 ?_; dsimp only [e60, go_sem, Nat.reduceBEq, Nat.reduceAdd]; refine ⟨by simp, ?_⟩; refine M_case 12 h rfl (fun _ h => ?_) fun _ h => ?_
    ·dsimp only [go_sem, Nat.reduceBEq, Nat.reduceAdd]; refine V_go 14 ?_; dsimp only [e60, go_sem, Nat.reduceBEq, Nat.reduceAdd]; refine ⟨by simp, ?_⟩; exact M_to J1 (s := true) h
    ·dsimp only [go_sem, Nat.reduceBEq, Nat.reduceAdd]; refine V_go 4 ?_; dsimp only [e60, go_sem, Nat.reduceBEq, Nat.reduceAdd]; refine ⟨by simp, ?_⟩; refine M_case 16 h rfl (fun _ h => ?_) fun _ h => ?_
     ·dsimp only [go_sem, Nat.reduceBEq, Nat.reduceAdd]; refine V_go 4 ?_; dsimp only [e60, go_sem, Nat.reduceBEq, Nat.reduceAdd]; refine ⟨by simp, ?_⟩; refine M_case 20 h rfl (fun _ h => ?_) fun _ h => ?_
      ·dsimp only [go_sem, Nat.reduceBEq, Nat.reduceAdd]; refine V_go 6 ?_; dsimp only [e60, go_sem, Nat.reduceBEq, Nat.reduceAdd]; refine ⟨by simp, ?_⟩; exact M_to J1 (s := x2.Dirty) h
      ·dsimp only [go_sem, Nat.reduceBEq, Nat.reduceAdd]; refine V_go 6 ?_; dsimp only [e60, go_sem, Nat.reduceBEq, Nat.reduceAdd]; refine ⟨by simp, ?_⟩; exact M_to J1 (s := false) h
     ·dsimp only [go_sem, Nat.reduceBEq, Nat.reduceAdd]; refine V_go 10 ?_; dsimp only [e60, go_sem, Nat.reduceBEq, Nat.reduceAdd]; refine ⟨by simp, ?_⟩; exact M_to J1 (s := false) h
   ·dsimp only [go_sem, Nat.reduceBEq, Nat.reduceAdd]; refine V_go 9 ?_; dsimp only [e60, go_sem, Nat.reduceBEq, Nat.reduceAdd]; refine ⟨by simp, ?_⟩; refine M_case 16 h rfl (fun _ h => ?_) fun _ h => ?_
    ·dsimp only [go_sem, Nat.reduceBEq, Nat.reduceAdd]; refine V_go 4 ?_; dsimp only [e60, go_sem, Nat.reduceBEq, Nat.reduceAdd]; refine ⟨by simp, ?_⟩; refine M_case 20 h rfl (fun _ h => ?_) fun _ h => ?_
     ·dsimp only [go_sem, Nat.reduceBEq, Nat.reduceAdd]; refine V_go 6 ?_; dsimp only [e60, go_sem, Nat.reduceBEq, Nat.reduceAdd]; refine ⟨by simp, ?_⟩; exact M_to J1 (s := x2.Dirty) h
     ·dsimp only [go_sem, Nat.reduceBEq, Nat.reduceAdd]; refine V_go 6 ?_; dsimp only [e60, go_sem, Nat.reduceBEq, Nat.reduceAdd]; refine ⟨by simp, ?_⟩; exact M_to J1 (s := false) h
    ·dsimp only [go_sem, Nat.reduceBEq, Nat.reduceAdd]; refine V_go 10 ?_; dsimp only [e60, go_sem, Nat.reduceBEq, Nat.reduceAdd]; refine ⟨by simp, ?_⟩; exact M_to J1 (s := false) h
def f_place_ahead_j1 (_F : Nat)  : Bool → Option Bool
| x3 =>
 some x3
theorem le_place_ahead_j1 {F : Nat} : ∀ s, ole (f_place_ahead_j1 F s) (m_place_ahead_j1 s) := by
  intro x3
  unfold f_place_ahead_j1 m_place_ahead_j1
  try dsimp only
  with_reducible repeat' first | exact ole_refl _ | assumption | intro _ | refine ole_ifb ?_ ?_ | refine ole_bind ?_ ?_ | refine ole_map ?_ | refine ole_loop ?_
def f_place_ahead (F : Nat) (x1 : Side) (x2 : Side) : Option Bool :=
 ifb x1.Fork (
 ifb (!x1.Dirty) (
 f_place_ahead_j1 F true) (
 ifb (!x1.Fork) (
 ifb x2.Fork (
 f_place_ahead_j1 F x2.Dirty) (
 f_place_ahead_j1 F false)) (
 f_place_ahead_j1 F false))) (
 ifb (!x1.Fork) (
 ifb x2.Fork (
 f_place_ahead_j1 F x2.Dirty) (
 f_place_ahead_j1 F false)) (
 f_place_ahead_j1 F false))
theorem le_place_ahead {F : Nat} {x1 : Side} {x2 : Side} : ole (f_place_ahead F x1 x2) (m_place_ahead x1 x2) := by
  unfold f_place_ahead m_place_ahead
  with_reducible repeat' first | exact ole_refl _ | assumption | intro _ | refine ole_ifb ?_ ?_ | refine ole_bind ?_ ?_ | refine ole_map ?_ | refine ole_loop ?_ | apply le_place_ahead_j1
end NX
end Go.Proofs.Ytadebhbiglmodaa
/-
  The function narthex/place.Arcs: its code compiled, a model, and that the code answers as the model. Written by a program of ours (lb.py). No statement of the seat is proved here.
-/
namespace Go.Proofs.Ytadebhbiglmodaa
namespace NX
open Go
set_option maxRecDepth 100000
set_option maxHeartbeats 4000000
def e29_L1 : EC := .seq (.reg [⟨(some 28), none, .bin .lss (.t 27) (.t 26)⟩]) (.seq (.ite (.t 28) (.skip) (.exit 2)) (.seq (.blk 3 (.seq (.reg [⟨(some 29), none, .idx 3 (.t 25) (.t 27)⟩, ⟨(some 30), none, .loadA 3 (.t 29)⟩, ⟨(some 7), none, .alloc 39 [.iv 0, .iv 0, .nl]⟩, ⟨none, none, .store 3 (.t 7) (.t 30)⟩]) (.seq (.reg [⟨(some 32), none, .loadA 3 (.t 5)⟩, ⟨(some 33), none, .fld 0 (.t 7)⟩, ⟨(some 34), none, .load (.t 33)⟩, ⟨(some 35), none, .call 24 [(.t 32), (.t 34)]⟩, ⟨(some 31), none, .mv (.t 35)⟩, ⟨(some 36), none, .ext (.t 31) 0⟩, ⟨(some 37), none, .ext (.t 31) 1⟩, ⟨(some 8), none, .alloc 49 [.iv 0, .iv 0, .iv 0, .ff, .ff, .ff, .ff, .ff]⟩, ⟨none, none, .store 8 (.t 8) (.t 36)⟩, ⟨(some 9), none, .mv (.t 37)⟩]) (.seq (.reg [⟨(some 39), none, .loadA 3 (.t 7)⟩, ⟨(some 40), none, .fld 0 (.t 5)⟩, ⟨(some 41), none, .load (.t 40)⟩, ⟨(some 42), none, .call 24 [(.t 39), (.t 41)]⟩, ⟨(some 38), none, .mv (.t 42)⟩, ⟨(some 43), none, .ext (.t 38) 0⟩, ⟨(some 44), none, .ext (.t 38) 1⟩, ⟨(some 10), none, .alloc 49 [.iv 0, .iv 0, .iv 0, .ff, .ff, .ff, .ff, .ff]⟩, ⟨none, none, .store 8 (.t 10) (.t 43)⟩, ⟨(some 11), none, .mv (.t 44)⟩]) (.seq (.seq (.reg [⟨(some 45), none, .mv (.t 9)⟩, ⟨(some 46), none, .not (.t 45)⟩, ⟨(some 47), none, .mv (.t 46)⟩, ⟨(some 48), (some (47, false)), .mv (.t 11)⟩, ⟨(some 49), (some (47, false)), .not (.t 48)⟩, ⟨(some 50), none, .pick (.t 47) (.c .tt) (.t 49)⟩, ⟨(some 51), none, .mv (.t 50)⟩, ⟨(some 52), (some (51, false)), .fld 1 (.t 8)⟩, ⟨(some 53), (some (51, false)), .load (.t 52)⟩, ⟨(some 54), (some (51, false)), .fld 1 (.t 10)⟩, ⟨(some 55), (some (51, false)), .load (.t 54)⟩, ⟨(some 56), (some (51, false)), .bin .neq (.t 53) (.t 55)⟩, ⟨(some 57), none, .pick (.t 51) (.c .tt) (.t 56)⟩]) (.ite (.t 57) (.exit 3) (.skip))) (.seq (.reg [⟨(some 58), none, .fld 1 (.t 8)⟩, ⟨(some 59), none, .load (.t 58)⟩, ⟨(some 60), none, .build [.iv 0, .iv 0, .iv 0] [(0, 1, (.c (.iv 1))), (1, 1, (.t 59))]⟩, ⟨(some 12), none, .alloc 93 [.iv 0, .iv 0, .iv 0]⟩, ⟨none, none, .store 3 (.t 12) (.t 60)⟩]) (.blk 4 (.seq (.seq (.reg [⟨(some 62), none, .loadA 8 (.t 8)⟩, ⟨(some 63), none, .loadA 8 (.t 10)⟩, ⟨(some 64), none, .call 60 [(.t 62), (.t 63)]⟩, ⟨(some 61), none, .mv (.t 64)⟩]) (.ite (.t 61) (.skip) (.reg [⟨(some 65), none, .fld 3 (.t 8)⟩, ⟨(some 66), none, .load (.t 65)⟩, ⟨(some 67), none, .not (.t 66)⟩, ⟨(some 68), none, .mv (.t 67)⟩, ⟨(some 69), (some (68, true)), .fld 3 (.t 10)⟩, ⟨(some 70), (some (68, true)), .load (.t 69)⟩, ⟨(some 71), (some (68, true)), .not (.t 70)⟩, ⟨(some 72), none, .pick (.t 68) (.t 71) (.c .ff)⟩, ⟨(some 73), none, .mv (.t 72)⟩, ⟨(some 74), (some (73, true)), .fld 1 (.t 1)⟩, ⟨(some 75), (some (73, true)), .load (.t 74)⟩, ⟨(some 76), (some (73, true)), .fld 0 (.t 7)⟩, ⟨(some 77), (some (73, true)), .load (.t 76)⟩, ⟨(some 78), (some (73, true)), .fld 0 (.t 5)⟩, ⟨(some 79), (some (73, true)), .load (.t 78)⟩, ⟨(some 80), (some (73, true)), .loadA 3 (.t 12)⟩, ⟨(some 81), (some (73, true)), .build [.iv 0, .iv 0, .iv 0, .iv 0, .iv 0] [(0, 1, (.t 77)), (1, 1, (.t 79)), (2, 3, (.t 80))]⟩, ⟨(some 82), (some (73, true)), .call 61 [(.t 75), (.t 81)]⟩, ⟨(some 83), none, .pick (.t 73) (.t 82) (.c .ff)⟩, ⟨(some 61), none, .mv (.t 83)⟩]))) (.ite (.t 61) (.reg [⟨(some 84), none, .mv (.t 3)⟩, ⟨(some 85), none, .fld 0 (.t 5)⟩, ⟨(some 86), none, .load (.t 85)⟩, ⟨(some 87), none, .fld 0 (.t 7)⟩, ⟨(some 88), none, .load (.t 87)⟩, ⟨(some 89), none, .build [.iv 0, .iv 0] [(0, 1, (.t 86)), (1, 1, (.t 88))]⟩, ⟨(some 90), none, .bsl 62 2 1 [.iv 0, .iv 0] [(0, (.t 89))]⟩, ⟨(some 91), none, .app 62 2 16 (.t 84) (.t 90)⟩, ⟨(some 3), none, .mv (.t 91)⟩]) (.seq (.seq (.reg [⟨(some 93), none, .loadA 8 (.t 10)⟩, ⟨(some 94), none, .loadA 8 (.t 8)⟩, ⟨(some 95), none, .call 60 [(.t 93), (.t 94)]⟩, ⟨(some 92), none, .mv (.t 95)⟩]) (.ite (.t 92) (.skip) (.reg [⟨(some 96), none, .fld 3 (.t 8)⟩, ⟨(some 97), none, .load (.t 96)⟩, ⟨(some 98), none, .not (.t 97)⟩, ⟨(some 99), none, .mv (.t 98)⟩, ⟨(some 100), (some (99, true)), .fld 3 (.t 10)⟩, ⟨(some 101), (some (99, true)), .load (.t 100)⟩, ⟨(some 102), (some (99, true)), .not (.t 101)⟩, ⟨(some 103), none, .pick (.t 99) (.t 102) (.c .ff)⟩, ⟨(some 104), none, .mv (.t 103)⟩, ⟨(some 105), (some (104, true)), .fld 1 (.t 1)⟩, ⟨(some 106), (some (104, true)), .load (.t 105)⟩, ⟨(some 107), (some (104, true)), .fld 0 (.t 5)⟩, ⟨(some 108), (some (104, true)), .load (.t 107)⟩, ⟨(some 109), (some (104, true)), .fld 0 (.t 7)⟩, ⟨(some 110), (some (104, true)), .load (.t 109)⟩, ⟨(some 111), (some (104, true)), .loadA 3 (.t 12)⟩, ⟨(some 112), (some (104, true)), .build [.iv 0, .iv 0, .iv 0, .iv 0, .iv 0] [(0, 1, (.t 108)), (1, 1, (.t 110)), (2, 3, (.t 111))]⟩, ⟨(some 113), (some (104, true)), .call 61 [(.t 106), (.t 112)]⟩, ⟨(some 114), none, .pick (.t 104) (.t 113) (.c .ff)⟩, ⟨(some 92), none, .mv (.t 114)⟩]))) (.ite (.t 92) (.reg [⟨(some 115), none, .mv (.t 3)⟩, ⟨(some 116), none, .fld 0 (.t 7)⟩, ⟨(some 117), none, .load (.t 116)⟩, ⟨(some 118), none, .fld 0 (.t 5)⟩, ⟨(some 119), none, .load (.t 118)⟩, ⟨(some 120), none, .build [.iv 0, .iv 0] [(0, 1, (.t 117)), (1, 1, (.t 119))]⟩, ⟨(some 121), none, .bsl 62 2 1 [.iv 0, .iv 0] [(0, (.t 120))]⟩, ⟨(some 122), none, .app 62 2 16 (.t 115) (.t 121)⟩, ⟨(some 3), none, .mv (.t 122)⟩]) (.skip)))))))))))) (.reg [⟨(some 123), none, .bin .add (.t 27) (.c (.iv 1))⟩, ⟨(some 27), none, .mv (.t 123)⟩])))
def e29_L0 : EC := .seq (.reg [⟨(some 17), none, .bin .lss (.t 16) (.t 15)⟩]) (.seq (.ite (.t 17) (.skip) (.exit 0)) (.seq (.blk 1 (.seq (.reg [⟨(some 18), none, .mv (.t 16)⟩, ⟨(some 19), none, .idx 3 (.t 14) (.t 16)⟩, ⟨(some 20), none, .loadA 3 (.t 19)⟩, ⟨(some 5), none, .alloc 39 [.iv 0, .iv 0, .nl]⟩, ⟨(some 4), none, .mv (.t 18)⟩, ⟨none, none, .store 3 (.t 5) (.t 20)⟩]) (.seq (.reg [⟨(some 21), none, .fld 0 (.t 1)⟩, ⟨(some 22), none, .load (.t 21)⟩, ⟨(some 23), none, .mv (.t 4)⟩, ⟨(some 24), none, .bin .add (.t 23) (.c (.iv 1))⟩, ⟨(some 25), none, .slice 3 (.t 22) (some (.t 24)) none⟩, ⟨(some 26), none, .len (.t 25)⟩, ⟨(some 27), none, .mv (.c (.iv 0))⟩]) (.blk 2 (.loop e29_L1))))) (.reg [⟨(some 124), none, .bin .add (.t 16) (.c (.iv 1))⟩, ⟨(some 16), none, .mv (.t 124)⟩])))
def e29 : EC := .seq (.reg [⟨(some 1), none, .box 43 2 (.t 0)⟩, ⟨(some 2), none, .mv (.c .nl)⟩]) (.seq (.reg [⟨(some 3), none, .mv (.c .nl)⟩]) (.seq (.seq (.reg [⟨(some 13), none, .fld 0 (.t 1)⟩, ⟨(some 14), none, .load (.t 13)⟩, ⟨(some 15), none, .len (.t 14)⟩, ⟨(some 16), none, .mv (.c (.iv 0))⟩]) (.blk 0 (.loop e29_L0))) (.seq (.reg [⟨(some 125), none, .mv (.t 3)⟩, ⟨(some 2), none, .mv (.t 125)⟩]) (.ret))))
theorem ok29 : FnOK Try.prog 29 Try.f29 e29 [.t 2] 1 125 := ⟨by kernel_rfl, ⟨_, rfl, by kernel_rfl⟩, by kernel_rfl, by kernel_rfl⟩
/- narthex/place.Arcs -/
noncomputable def m_place_Arcs_j1  : (List Arc) → Option (List Arc)
| x100 =>
 some x100
noncomputable def m_place_Arcs_j2 (x47 : Int) : (List Arc) → Option ((Int × (List Arc)) ⊕ (List Arc))
| x92 =>
 some (.inl (wr (x47 + 1), x92))
noncomputable def m_place_Arcs_j3 (x66 : Int) : (List Arc) → Option ((Int × (List Arc)) ⊕ ((Int × (List Arc)) ⊕ (List Arc)))
| x80 =>
 some (.inl (wr (x66 + 1), x80))
noncomputable def m_place_Arcs_j6 (x49 : Diner) (x66 : Int) (x67 : (List Arc)) (x68 : Diner) : Bool → Option ((Int × (List Arc)) ⊕ ((Int × (List Arc)) ⊕ (List Arc)))
| x78 =>
 ifb x78 (
 (app_ 16 x67 ([(Arc.mk x68.ID x49.ID)])).bind fun x79 =>
 (m_place_Arcs_j3 x66) x79) (
 (m_place_Arcs_j3 x66) x67)
noncomputable def m_place_Arcs_j5 (x1 : Scene) (x49 : Diner) (x66 : Int) (x67 : (List Arc)) (x68 : Diner) (x69 : (Side × Bool)) (x70 : (Side × Bool)) : Bool → Option ((Int × (List Arc)) ⊕ ((Int × (List Arc)) ⊕ (List Arc)))
| x74 =>
 ifb x74 (
 (app_ 16 x67 ([(Arc.mk x49.ID x68.ID)])).bind fun x75 =>
 (m_place_Arcs_j3 x66) x75) (
 (m_place_ahead x70.1 x69.1).bind fun x76 =>
 ifb x76 (
 (m_place_Arcs_j6 x49 x66 x67 x68) x76) (
 ifb (!x69.1.Fork) (
 ifb (!x70.1.Fork) (
 (m_slices_Contains_Mail x1.Mail ((Mail.mk x49.ID x68.ID ((Msg.mk 1 x69.1.Epoch 0))))).bind fun x77 =>
 (m_place_Arcs_j6 x49 x66 x67 x68) x77) (
 (m_place_Arcs_j6 x49 x66 x67 x68) false)) (
 (m_place_Arcs_j6 x49 x66 x67 x68) false)))
noncomputable def m_place_Arcs_j4 (x1 : Scene) (x49 : Diner) (x66 : Int) (x67 : (List Arc)) (x68 : Diner) (x69 : (Side × Bool)) (x70 : (Side × Bool)) : Bool → Option ((Int × (List Arc)) ⊕ ((Int × (List Arc)) ⊕ (List Arc)))
| x71 =>
 ifb x71 (
 (m_place_Arcs_j3 x66) x67) (
 (m_place_ahead x69.1 x70.1).bind fun x72 =>
 ifb x72 (
 (m_place_Arcs_j5 x1 x49 x66 x67 x68 x69 x70) x72) (
 ifb (!x69.1.Fork) (
 ifb (!x70.1.Fork) (
 (m_slices_Contains_Mail x1.Mail ((Mail.mk x68.ID x49.ID ((Msg.mk 1 x69.1.Epoch 0))))).bind fun x73 =>
 (m_place_Arcs_j5 x1 x49 x66 x67 x68 x69 x70) x73) (
 (m_place_Arcs_j5 x1 x49 x66 x67 x68 x69 x70) false)) (
 (m_place_Arcs_j5 x1 x49 x66 x67 x68 x69 x70) false)))
noncomputable def m_place_Arcs_l2 (x1 : Scene) (x47 : Int) (x49 : Diner) (x50 : (List Diner)) : (Int × (List Arc)) → Option ((Int × (List Arc)) ⊕ ((Int × (List Arc)) ⊕ (List Arc)))
| (x66, x67) =>
 ifb (decide (x66 < (ln Diner.row x50))) (
 (at_ x50 x66).bind fun x68 =>
 (m_place_Side x49 x68.ID).bind fun x69 =>
 (m_place_Side x68 x49.ID).bind fun x70 =>
 ifb (!x69.2) (
 (m_place_Arcs_j4 x1 x49 x66 x67 x68 x69 x70) true) (
 ifb (!x70.2) (
 (m_place_Arcs_j4 x1 x49 x66 x67 x68 x69 x70) true) (
 (m_place_Arcs_j4 x1 x49 x66 x67 x68 x69 x70) (!decide (x69.1.Epoch = x70.1.Epoch))))) (
 Option.map Sum.inr ((m_place_Arcs_j2 x47) x67))
noncomputable def m_place_Arcs_l1 (x1 : Scene) : (Int × (List Arc)) → Option ((Int × (List Arc)) ⊕ (List Arc))
| (x47, x48) =>
 ifb (decide (x47 < (ln Diner.row x1.Diners))) (
 (at_ x1.Diners x47).bind fun x49 =>
 (sub_ x1.Diners (wr (x47 + 1)) (ln Diner.row x1.Diners)).bind fun x50 =>
 loop (m_place_Arcs_l2 x1 x47 x49 x50) (0, x48)) (
 Option.map Sum.inr (m_place_Arcs_j1 x48))
noncomputable def m_place_Arcs (x1 : Scene) : Option (List Arc) :=
 loop (m_place_Arcs_l1 x1) (0, ([] : List Arc))
theorem o_place_Arcs (x1 : Scene) (r : (List Arc)) (h : m_place_Arcs x1 = some r) : FunO Try.prog 29 [.agg (Scene.row x1)] 62 2 (List.map Arc.row r) := by
  refine FunO_intro ok29 rfl fun w0 H0 => ?_
  rw [m_place_Arcs] at h
  refine V_go 17 ?_; dsimp only [e29, e29_L0, e29_L1, go_sem, Nat.reduceBEq, Nat.reduceAdd]; refine ⟨by simp, ?_⟩; refine V_join (fun (x100 : (List Arc)) => (⟨(an 3 (.osl 0 :: an 122 [])), [], [some ⟨62, 2, List.map Arc.row x100⟩]⟩ : St)) m_place_Arcs_j1 r ?_ fun J1 => ?_
  ·intro x100 h; rw [m_place_Arcs_j1] at h; (try dsimp only); refine V_go 5 ?_; dsimp only [e29, e29_L0, e29_L1, go_sem, Nat.reduceBEq, Nat.reduceAdd]; refine ⟨by simp, ?_⟩; exact O_doneM Arc.row ok29 h rfl rfl
  ·refine V_go 1 ?_; dsimp only [e29, e29_L0, e29_L1, go_sem, Nat.reduceBEq, Nat.reduceAdd]; refine ⟨by simp, ?_⟩; refine V_own 3 62 2 rfl rfl ?_; dsimp only [go_sem, Nat.reduceBEq, Nat.reduceAdd]
   refine M_loop h (fun ((x47, x48) : (Int × (List Arc))) => (⟨(.any :: .ptr 0 0 :: .any :: .osl 0 :: an 10 (.sl 3 (List.map Diner.row x1.Diners) :: .iv (ln Diner.row x1.Diners) :: .iv x47 :: an 109 [])), [some ⟨43, [.sl 3 (List.map Diner.row x1.Diners), .sl 5 (List.map Mail.row x1.Mail)]⟩], [some ⟨62, 2, List.map Arc.row x48⟩]⟩ : St)) (by simp [go_sem]) (by rintro ⟨x47, x48⟩; first | rfl | simp [go_sem]) ?_; rintro n1 ⟨x47, x48⟩ y1 h hin1 hout1; rw [m_place_Arcs_l1] at h; (try dsimp only); refine V_go 5 ?_; dsimp only [e29, e29_L0, e29_L1, go_sem, Nat.reduceBEq, Nat.reduceAdd]
   refine ⟨by simp, ?_⟩; refine M_ite h rfl (fun _ h => ?_) fun _ h => ?_
   ·refine V_go 6 ?_; dsimp only [e29, e29_L0, e29_L1, go_sem, Nat.reduceBEq, Nat.reduceAdd]; refine ⟨by simp, ?_⟩; obtain ⟨x49, ex49, h⟩ := Option.bind_eq_some_iff.1 h; refine V_idxM Diner.row ex49 trivial rfl rfl rfl ?_; refine V_go 11 ?_; dsimp only [e29, e29_L0, e29_L1, go_sem, Nat.reduceBEq, Nat.reduceAdd]; refine ⟨by simp, ?_⟩; obtain ⟨x50, ex50, h⟩ := Option.bind_eq_some_iff.1 h; refine V_sliceM Diner.row ex50 trivial rfl rfl rfl rfl ?_; refine V_go 3 ?_; dsimp only [e29, e29_L0, e29_L1, go_sem, Nat.reduceBEq, Nat.reduceAdd]; refine ⟨by simp, ?_⟩
    refine V_join (fun (x92 : (List Arc)) => (⟨(.any :: .ptr 0 0 :: .any :: .osl 0 :: an 10 (.sl 3 (List.map Diner.row x1.Diners) :: .iv (ln Diner.row x1.Diners) :: .iv x47 :: an 109 [])), [some ⟨43, [.sl 3 (List.map Diner.row x1.Diners), .sl 5 (List.map Mail.row x1.Mail)]⟩], [some ⟨62, 2, List.map Arc.row x92⟩]⟩ : St)) (m_place_Arcs_j2 x47) y1 ?_ fun J2 => ?_
    ·intro x92 h; rw [m_place_Arcs_j2] at h; (try dsimp only); refine V_go 5 ?_; dsimp only [e29, e29_L0, e29_L1, go_sem, Nat.reduceBEq, Nat.reduceAdd]; refine ⟨by simp, ?_⟩; exact M_back h hin1
    ·refine V_go 1 ?_; dsimp only [e29, e29_L0, e29_L1, go_sem, Nat.reduceBEq, Nat.reduceAdd]; refine ⟨by simp, ?_⟩
     refine M_loop h (fun ((x66, x67) : (Int × (List Arc))) => (⟨(.any :: .ptr 0 0 :: .any :: .osl 0 :: .any :: .ptr 1 0 :: an 8 (.sl 3 (List.map Diner.row x1.Diners) :: .iv (ln Diner.row x1.Diners) :: .iv x47 :: an 8 (.sl 3 (List.map Diner.row x50) :: .iv (ln Diner.row x50) :: .iv x66 :: an 98 []))), [some ⟨43, [.sl 3 (List.map Diner.row x1.Diners), .sl 5 (List.map Mail.row x1.Mail)]⟩, some ⟨39, [.iv x49.ID, .iv x49.Phase, .sl 8 (List.map Side.row x49.Sides)]⟩], [some ⟨62, 2, List.map Arc.row x67⟩]⟩ : St)) (by simp [go_sem]) (by rintro ⟨x66, x67⟩; first | rfl | simp [go_sem]) ?_
     rintro n2 ⟨x66, x67⟩ y2 h hin2 hout2; rw [m_place_Arcs_l2] at h; (try dsimp only); refine V_go 5 ?_; dsimp only [e29, e29_L0, e29_L1, go_sem, Nat.reduceBEq, Nat.reduceAdd]; refine ⟨by simp, ?_⟩; refine M_ite h rfl (fun _ h => ?_) fun _ h => ?_
     ·refine V_go 2 ?_; dsimp only [e29, e29_L0, e29_L1, go_sem, Nat.reduceBEq, Nat.reduceAdd]; refine ⟨by simp, ?_⟩
      refine V_join (fun (x80 : (List Arc)) => (⟨(.any :: .ptr 0 0 :: .any :: .osl 0 :: .any :: .ptr 1 0 :: an 8 (.sl 3 (List.map Diner.row x1.Diners) :: .iv (ln Diner.row x1.Diners) :: .iv x47 :: an 8 (.sl 3 (List.map Diner.row x50) :: .iv (ln Diner.row x50) :: .iv x66 :: an 98 []))), [some ⟨43, [.sl 3 (List.map Diner.row x1.Diners), .sl 5 (List.map Mail.row x1.Mail)]⟩, some ⟨39, [.iv x49.ID, .iv x49.Phase, .sl 8 (List.map Side.row x49.Sides)]⟩], [some ⟨62, 2, List.map Arc.row x80⟩]⟩ : St)) (m_place_Arcs_j3 x66) y2 ?_ fun J3 => ?_
      ·intro x80 h; rw [m_place_Arcs_j3] at h; (try dsimp only); refine V_go 4 ?_; dsimp only [e29, e29_L0, e29_L1, go_sem, Nat.reduceBEq, Nat.reduceAdd]; refine ⟨by simp, ?_⟩; exact M_back h hin2
      ·refine V_go 3 ?_; dsimp only [e29, e29_L0, e29_L1, go_sem, Nat.reduceBEq, Nat.reduceAdd]; refine ⟨by simp, ?_⟩; obtain ⟨x68, ex68, h⟩ := Option.bind_eq_some_iff.1 h; refine V_idxM Diner.row ex68 trivial rfl rfl rfl ?_; refine V_go 9 ?_; dsimp only [e29, e29_L0, e29_L1, go_sem, Nat.reduceBEq, Nat.reduceAdd]; refine ⟨by simp, ?_⟩; obtain ⟨x69, ex69, h⟩ := Option.bind_eq_some_iff.1 h; refine V_call trivial (k_place_Side x49 x68.ID _ ex69) (h := ?_); refine V_go 12 ?_; dsimp only [e29, e29_L0, e29_L1, go_sem, Nat.reduceBEq, Nat.reduceAdd]; refine ⟨by simp, ?_⟩
       obtain ⟨x70, ex70, h⟩ := Option.bind_eq_some_iff.1 h; refine V_call trivial (k_place_Side x68 x49.ID _ ex70) (h := ?_); refine V_go 13 ?_; dsimp only [e29, e29_L0, e29_L1, go_sem, Nat.reduceBEq, Nat.reduceAdd]; refine ⟨by simp, ?_⟩
       refine V_join (fun (x71 : Bool) => (⟨(.any :: .ptr 0 0 :: .any :: .osl 0 :: .any :: .ptr 1 0 :: .any :: .ptr 2 0 :: .ptr 3 0 :: .any :: .ptr 4 0 :: an 3 (.sl 3 (List.map Diner.row x1.Diners) :: .iv (ln Diner.row x1.Diners) :: .iv x47 :: an 8 (.sl 3 (List.map Diner.row x50) :: .iv (ln Diner.row x50) :: .iv x66 :: an 29 (.bv x71 :: an 68 [])))), [some ⟨43, [.sl 3 (List.map Diner.row x1.Diners), .sl 5 (List.map Mail.row x1.Mail)]⟩, some ⟨39, [.iv x49.ID, .iv x49.Phase, .sl 8 (List.map Side.row x49.Sides)]⟩, some ⟨39, [.iv x68.ID, .iv x68.Phase, .sl 8 (List.map Side.row x68.Sides)]⟩, some ⟨49, [.iv x69.1.Peer, .iv x69.1.Epoch, .iv x69.1.State, .bv x69.1.Fork, .bv x69.1.Dirty, .bv x69.1.Token, .bv x69.1.Bottle, .bv x69.1.Ask]⟩, some ⟨49, [.iv x70.1.Peer, .iv x70.1.Epoch, .iv x70.1.State, .bv x70.1.Fork, .bv x70.1.Dirty, .bv x70.1.Token, .bv x70.1.Bottle, .bv x70.1.Ask]⟩], [some ⟨62, 2, List.map Arc.row x67⟩]⟩ : St)) (m_place_Arcs_j4 x1 x49 x66 x67 x68 x69 x70) y2 ?_ fun J4 => ?_
       ·intro x71 h; rw [m_place_Arcs_j4] at h; (try dsimp only); refine M_ite h rfl (fun _ h => ?_) fun _ h => ?_
        ·refine V_go 1 ?_; dsimp only [e29, e29_L0, e29_L1, go_sem, Nat.reduceBEq, Nat.reduceAdd]; refine ⟨by simp, ?_⟩; exact M_to J3 (s := x67) h
        ·refine V_go 15 ?_; dsimp only [e29, e29_L0, e29_L1, go_sem, Nat.reduceBEq, Nat.reduceAdd]; refine ⟨by simp, ?_⟩; obtain ⟨x72, ex72, h⟩ := Option.bind_eq_some_iff.1 h; refine V_call trivial (k_place_ahead x69.1 x70.1 _ ex72) (h := ?_); refine V_go 2 ?_; dsimp only [e29, e29_L0, e29_L1, go_sem, Nat.reduceBEq, Nat.reduceAdd]; refine ⟨by simp, ?_⟩
         refine V_join (fun (x74 : Bool) => (⟨(.any :: .ptr 0 0 :: .any :: .osl 0 :: .any :: .ptr 1 0 :: .any :: .ptr 2 0 :: .ptr 3 0 :: .any :: .ptr 4 0 :: .any :: .ptr 5 0 :: .any :: .sl 3 (List.map Diner.row x1.Diners) :: .iv (ln Diner.row x1.Diners) :: .iv x47 :: an 8 (.sl 3 (List.map Diner.row x50) :: .iv (ln Diner.row x50) :: .iv x66 :: an 33 (.bv x74 :: an 64 []))), [some ⟨43, [.sl 3 (List.map Diner.row x1.Diners), .sl 5 (List.map Mail.row x1.Mail)]⟩, some ⟨39, [.iv x49.ID, .iv x49.Phase, .sl 8 (List.map Side.row x49.Sides)]⟩, some ⟨39, [.iv x68.ID, .iv x68.Phase, .sl 8 (List.map Side.row x68.Sides)]⟩, some ⟨49, [.iv x69.1.Peer, .iv x69.1.Epoch, .iv x69.1.State, .bv x69.1.Fork, .bv x69.1.Dirty, .bv x69.1.Token, .bv x69.1.Bottle, .bv x69.1.Ask]⟩, some ⟨49, [.iv x70.1.Peer, .iv x70.1.Epoch, .iv x70.1.State, .bv x70.1.Fork, .bv x70.1.Dirty, .bv x70.1.Token, .bv x70.1.Bottle, .bv x70.1.Ask]⟩, some ⟨93, [.iv 1, .iv x69.1.Epoch, .iv 0]⟩], [some ⟨62, 2, List.map Arc.row x67⟩]⟩ : St)) (m_place_Arcs_j5 x1 x49 x66 x67 x68 x69 x70) y2 ?_ fun J5 => ?_
         ·intro x74 h; rw [m_place_Arcs_j5] at h; (try dsimp only); refine M_ite h rfl (fun _ h => ?_) fun _ h => ?_
          ·refine V_go 8 ?_; dsimp only [e29, e29_L0, e29_L1, go_sem, Nat.reduceBEq, Nat.reduceAdd]; refine ⟨by simp, ?_⟩; obtain ⟨x75, ex75, h⟩ := Option.bind_eq_some_iff.1 h; refine V_appM Arc.row ex75 trivial rfl rfl rfl ?_; refine V_go 4 ?_; dsimp only [e29, e29_L0, e29_L1, go_sem, Nat.reduceBEq, Nat.reduceAdd]; refine ⟨by simp, ?_⟩; refine V_ren 2 0 rfl rfl rfl ?_; dsimp only [go_sem, Nat.reduceBEq, Nat.reduceAdd]; exact M_to J3 (s := x75) h
          ·refine V_go 5 ?_; dsimp only [e29, e29_L0, e29_L1, go_sem, Nat.reduceBEq, Nat.reduceAdd]; refine ⟨by simp, ?_⟩; obtain ⟨x76, ex76, h⟩ := Option.bind_eq_some_iff.1 h; refine V_call trivial (k_place_ahead x70.1 x69.1 _ ex76) (h := ?_); refine V_go 2 ?_; dsimp only [e29, e29_L0, e29_L1, go_sem, Nat.reduceBEq, Nat.reduceAdd]; refine ⟨by simp, ?_⟩
           refine V_join (fun (x78 : Bool) => (⟨(.any :: .ptr 0 0 :: .any :: .osl 0 :: .any :: .ptr 1 0 :: .any :: .ptr 2 0 :: an 6 (.sl 3 (List.map Diner.row x1.Diners) :: .iv (ln Diner.row x1.Diners) :: .iv x47 :: an 8 (.sl 3 (List.map Diner.row x50) :: .iv (ln Diner.row x50) :: .iv x66 :: an 64 (.bv x78 :: an 33 [])))), [some ⟨43, [.sl 3 (List.map Diner.row x1.Diners), .sl 5 (List.map Mail.row x1.Mail)]⟩, some ⟨39, [.iv x49.ID, .iv x49.Phase, .sl 8 (List.map Side.row x49.Sides)]⟩, some ⟨39, [.iv x68.ID, .iv x68.Phase, .sl 8 (List.map Side.row x68.Sides)]⟩], [some ⟨62, 2, List.map Arc.row x67⟩]⟩ : St)) (m_place_Arcs_j6 x49 x66 x67 x68) y2 ?_ fun J6 => ?_
           ·intro x78 h; rw [m_place_Arcs_j6] at h; (try dsimp only); refine M_ite h rfl (fun _ h => ?_) fun _ h => ?_
            ·refine V_go 8 ?_; dsimp only [e29, e29_L0, e29_L1, go_sem, Nat.reduceBEq, Nat.reduceAdd]; refine ⟨by simp, ?_⟩; obtain ⟨x79, ex79, h⟩ := Option.bind_eq_some_iff.1 h; refine V_appM Arc.row ex79 trivial rfl rfl rfl ?_; refine V_go 4 ?_; dsimp only [e29, e29_L0, e29_L1, go_sem, Nat.reduceBEq, Nat.reduceAdd]; refine ⟨by simp, ?_⟩; refine V_ren 2 0 rfl rfl rfl ?_; dsimp only [go_sem, Nat.reduceBEq, Nat.reduceAdd]; exact M_to J3 (s := x79) h
            ·refine V_go 3 ?_; dsimp only [e29, e29_L0, e29_L1, go_sem, Nat.reduceBEq, Nat.reduceAdd]; refine ⟨by simp, ?_⟩; exact M_to J3 (s := x67) h
           ·refine M_ite h rfl (fun _ h => ?_) fun _ h => ?_
            ·refine V_go 1 ?_; dsimp only [e29, e29_L0, e29_L1, go_sem, Nat.reduceBEq, Nat.reduceAdd]; refine ⟨by simp, ?_⟩; exact M_to J6 (s := x76) h
            ·refine V_go 5 ?_; dsimp only [e29, e29_L0, e29_L1, go_sem, Nat.reduceBEq, Nat.reduceAdd]; refine ⟨by simp, ?_⟩; refine M_case 99 h rfl (fun _ h => ?_) fun _ h => ?_
             ·dsimp only [go_sem, Nat.reduceBEq, Nat.reduceAdd]; refine V_go 5 ?_; dsimp only [e29, e29_L0, e29_L1, go_sem, Nat.reduceBEq, Nat.reduceAdd]; refine ⟨by simp, ?_⟩; refine M_case 104 h rfl (fun _ h => ?_) fun _ h => ?_
              ·dsimp only [go_sem, Nat.reduceBEq, Nat.reduceAdd]; refine V_go 8 ?_; dsimp only [e29, e29_L0, e29_L1, go_sem, Nat.reduceBEq, Nat.reduceAdd]; refine ⟨by simp, ?_⟩; obtain ⟨x77, ex77, h⟩ := Option.bind_eq_some_iff.1 h; refine V_call trivial (k_slices_Contains_Mail x1.Mail ((Mail.mk x49.ID x68.ID ((Msg.mk 1 x69.1.Epoch 0)))) _ ex77) (h := ?_); refine V_go 3 ?_; dsimp only [e29, e29_L0, e29_L1, go_sem, Nat.reduceBEq, Nat.reduceAdd]; refine ⟨by simp, ?_⟩; exact M_to J6 (s := x77) h
              ·dsimp only [go_sem, Nat.reduceBEq, Nat.reduceAdd]; refine V_go 12 ?_; dsimp only [e29, e29_L0, e29_L1, go_sem, Nat.reduceBEq, Nat.reduceAdd]; refine ⟨by simp, ?_⟩; exact M_to J6 (s := false) h
             ·dsimp only [go_sem, Nat.reduceBEq, Nat.reduceAdd]; refine V_go 17 ?_; dsimp only [e29, e29_L0, e29_L1, go_sem, Nat.reduceBEq, Nat.reduceAdd]; refine ⟨by simp, ?_⟩; exact M_to J6 (s := false) h
         ·refine M_ite h rfl (fun _ h => ?_) fun _ h => ?_
          ·refine V_go 1 ?_; dsimp only [e29, e29_L0, e29_L1, go_sem, Nat.reduceBEq, Nat.reduceAdd]; refine ⟨by simp, ?_⟩; exact M_to J5 (s := x72) h
          ·refine V_go 5 ?_; dsimp only [e29, e29_L0, e29_L1, go_sem, Nat.reduceBEq, Nat.reduceAdd]; refine ⟨by simp, ?_⟩; refine M_case 68 h rfl (fun _ h => ?_) fun _ h => ?_
           ·dsimp only [go_sem, Nat.reduceBEq, Nat.reduceAdd]; refine V_go 5 ?_; dsimp only [e29, e29_L0, e29_L1, go_sem, Nat.reduceBEq, Nat.reduceAdd]; refine ⟨by simp, ?_⟩; refine M_case 73 h rfl (fun _ h => ?_) fun _ h => ?_
            ·dsimp only [go_sem, Nat.reduceBEq, Nat.reduceAdd]; refine V_go 8 ?_; dsimp only [e29, e29_L0, e29_L1, go_sem, Nat.reduceBEq, Nat.reduceAdd]; refine ⟨by simp, ?_⟩; obtain ⟨x73, ex73, h⟩ := Option.bind_eq_some_iff.1 h; refine V_call trivial (k_slices_Contains_Mail x1.Mail ((Mail.mk x68.ID x49.ID ((Msg.mk 1 x69.1.Epoch 0)))) _ ex73) (h := ?_); refine V_go 3 ?_; dsimp only [e29, e29_L0, e29_L1, go_sem, Nat.reduceBEq, Nat.reduceAdd]; refine ⟨by simp, ?_⟩; exact M_to J5 (s := x73) h
            ·dsimp only [go_sem, Nat.reduceBEq, Nat.reduceAdd]; refine V_go 12 ?_; dsimp only [e29, e29_L0, e29_L1, go_sem, Nat.reduceBEq, Nat.reduceAdd]; refine ⟨by simp, ?_⟩; exact M_to J5 (s := false) h
           ·dsimp only [go_sem, Nat.reduceBEq, Nat.reduceAdd]; refine V_go 17 ?_; dsimp only [e29, e29_L0, e29_L1, go_sem, Nat.reduceBEq, Nat.reduceAdd]; refine ⟨by simp, ?_⟩; exact M_to J5 (s := false) h
       ·refine M_case 47 h rfl (fun _ h => ?_) fun _ h => ?_
        ·dsimp only [go_sem, Nat.reduceBEq, Nat.reduceAdd]; refine V_go 11 ?_; dsimp only [e29, e29_L0, e29_L1, go_sem, Nat.reduceBEq, Nat.reduceAdd]; refine ⟨by simp, ?_⟩; exact M_to J4 (s := true) h
        ·dsimp only [go_sem, Nat.reduceBEq, Nat.reduceAdd]; refine V_go 4 ?_; dsimp only [e29, e29_L0, e29_L1, go_sem, Nat.reduceBEq, Nat.reduceAdd]; refine ⟨by simp, ?_⟩; refine M_case 51 h rfl (fun _ h => ?_) fun _ h => ?_
         ·dsimp only [go_sem, Nat.reduceBEq, Nat.reduceAdd]; refine V_go 7 ?_; dsimp only [e29, e29_L0, e29_L1, go_sem, Nat.reduceBEq, Nat.reduceAdd]; refine ⟨by simp, ?_⟩; exact M_to J4 (s := true) h
         ·dsimp only [go_sem, Nat.reduceBEq, Nat.reduceAdd]; refine V_go 7 ?_; dsimp only [e29, e29_L0, e29_L1, go_sem, Nat.reduceBEq, Nat.reduceAdd]; refine ⟨by simp, ?_⟩; exact M_to J4 (s := !decide (x69.1.Epoch = x70.1.Epoch)) h
     ·refine V_go 1 ?_; dsimp only [e29, e29_L0, e29_L1, go_sem, Nat.reduceBEq, Nat.reduceAdd]; refine ⟨by simp, ?_⟩; exact M_to J2 (s := x67) (M_out h hout2)
   ·refine V_go 1 ?_; dsimp only [e29, e29_L0, e29_L1, go_sem, Nat.reduceBEq, Nat.reduceAdd]; refine ⟨by simp, ?_⟩; exact M_to J1 (s := x48) (M_out h hout1)
theorem k_place_Arcs (x1 : Scene) (r : (List Arc)) (h : m_place_Arcs x1 = some r) : FunP Try.prog 29 [.agg (Scene.row x1)] (.sl 2 (List.map Arc.row r)) := (o_place_Arcs x1 r h).sealed
def f_place_Arcs_j1 (_F : Nat)  : (List Arc) → Option (List Arc)
| x100 =>
 some x100
theorem le_place_Arcs_j1 {F : Nat} : ∀ s, ole (f_place_Arcs_j1 F s) (m_place_Arcs_j1 s) := by
  intro x100
  unfold f_place_Arcs_j1 m_place_Arcs_j1
  try dsimp only
  with_reducible repeat' first | exact ole_refl _ | assumption | intro _ | refine ole_ifb ?_ ?_ | refine ole_bind ?_ ?_ | refine ole_map ?_ | refine ole_loop ?_
def f_place_Arcs_j2 (_F : Nat) (x47 : Int) : (List Arc) → Option ((Int × (List Arc)) ⊕ (List Arc))
| x92 =>
 some (.inl (wr (x47 + 1), x92))
theorem le_place_Arcs_j2 {F : Nat} {x47 : Int} : ∀ s, ole (f_place_Arcs_j2 F x47 s) (m_place_Arcs_j2 x47 s) := by
  intro x92
  unfold f_place_Arcs_j2 m_place_Arcs_j2
  try dsimp only
  with_reducible repeat' first | exact ole_refl _ | assumption | intro _ | refine ole_ifb ?_ ?_ | refine ole_bind ?_ ?_ | refine ole_map ?_ | refine ole_loop ?_ | apply le_place_Arcs_j1
def f_place_Arcs_j3 (_F : Nat) (x66 : Int) : (List Arc) → Option ((Int × (List Arc)) ⊕ ((Int × (List Arc)) ⊕ (List Arc)))
| x80 =>
 some (.inl (wr (x66 + 1), x80))
theorem le_place_Arcs_j3 {F : Nat} {x66 : Int} : ∀ s, ole (f_place_Arcs_j3 F x66 s) (m_place_Arcs_j3 x66 s) := by
  intro x80
  unfold f_place_Arcs_j3 m_place_Arcs_j3
  try dsimp only
  with_reducible repeat' first | exact ole_refl _ | assumption | intro _ | refine ole_ifb ?_ ?_ | refine ole_bind ?_ ?_ | refine ole_map ?_ | refine ole_loop ?_ | apply le_place_Arcs_j1 | apply le_place_Arcs_j2
def f_place_Arcs_j6 (F : Nat) (x49 : Diner) (x66 : Int) (x67 : (List Arc)) (x68 : Diner) : Bool → Option ((Int × (List Arc)) ⊕ ((Int × (List Arc)) ⊕ (List Arc)))
| x78 =>
 ifb x78 (
 (app_ 16 x67 ([(Arc.mk x68.ID x49.ID)])).bind fun x79 =>
 (f_place_Arcs_j3 F x66) x79) (
 (f_place_Arcs_j3 F x66) x67)
theorem le_place_Arcs_j6 {F : Nat} {x49 : Diner} {x66 : Int} {x67 : (List Arc)} {x68 : Diner} : ∀ s, ole (f_place_Arcs_j6 F x49 x66 x67 x68 s) (m_place_Arcs_j6 x49 x66 x67 x68 s) := by
  intro x78
  unfold f_place_Arcs_j6 m_place_Arcs_j6
  try dsimp only
  with_reducible repeat' first | exact ole_refl _ | assumption | intro _ | refine ole_ifb ?_ ?_ | refine ole_bind ?_ ?_ | refine ole_map ?_ | refine ole_loop ?_ | apply le_place_Arcs_j1 | apply le_place_Arcs_j2 | apply le_place_Arcs_j3
def f_place_Arcs_j5 (F : Nat) (x1 : Scene) (x49 : Diner) (x66 : Int) (x67 : (List Arc)) (x68 : Diner) (x69 : (Side × Bool)) (x70 : (Side × Bool)) : Bool → Option ((Int × (List Arc)) ⊕ ((Int × (List Arc)) ⊕ (List Arc)))
| x74 =>
 ifb x74 (
 (app_ 16 x67 ([(Arc.mk x49.ID x68.ID)])).bind fun x75 =>
 (f_place_Arcs_j3 F x66) x75) (
 (f_place_ahead F x70.1 x69.1).bind fun x76 =>
 ifb x76 (
 (f_place_Arcs_j6 F x49 x66 x67 x68) x76) (
 ifb (!x69.1.Fork) (
 ifb (!x70.1.Fork) (
 (f_slices_Contains_Mail F x1.Mail ((Mail.mk x49.ID x68.ID ((Msg.mk 1 x69.1.Epoch 0))))).bind fun x77 =>
 (f_place_Arcs_j6 F x49 x66 x67 x68) x77) (
 (f_place_Arcs_j6 F x49 x66 x67 x68) false)) (
 (f_place_Arcs_j6 F x49 x66 x67 x68) false)))
theorem le_place_Arcs_j5 {F : Nat} {x1 : Scene} {x49 : Diner} {x66 : Int} {x67 : (List Arc)} {x68 : Diner} {x69 : (Side × Bool)} {x70 : (Side × Bool)} : ∀ s, ole (f_place_Arcs_j5 F x1 x49 x66 x67 x68 x69 x70 s) (m_place_Arcs_j5 x1 x49 x66 x67 x68 x69 x70 s) := by
  intro x74
  unfold f_place_Arcs_j5 m_place_Arcs_j5
  try dsimp only
  with_reducible repeat' first | exact ole_refl _ | assumption | intro _ | refine ole_ifb ?_ ?_ | refine ole_bind ?_ ?_ | refine ole_map ?_ | refine ole_loop ?_ | apply le_place_Arcs_j1 | apply le_place_Arcs_j2 | apply le_place_Arcs_j3 | apply le_place_Arcs_j6 | apply le_place_ahead | apply le_slices_Contains_Mail
def f_place_Arcs_j4 (F : Nat) (x1 : Scene) (x49 : Diner) (x66 : Int) (x67 : (List Arc)) (x68 : Diner) (x69 : (Side × Bool)) (x70 : (Side × Bool)) : Bool → Option ((Int × (List Arc)) ⊕ ((Int × (List Arc)) ⊕ (List Arc)))
| x71 =>
 ifb x71 (
 (f_place_Arcs_j3 F x66) x67) (
 (f_place_ahead F x69.1 x70.1).bind fun x72 =>
 ifb x72 (
 (f_place_Arcs_j5 F x1 x49 x66 x67 x68 x69 x70) x72) (
 ifb (!x69.1.Fork) (
 ifb (!x70.1.Fork) (
 (f_slices_Contains_Mail F x1.Mail ((Mail.mk x68.ID x49.ID ((Msg.mk 1 x69.1.Epoch 0))))).bind fun x73 =>
 (f_place_Arcs_j5 F x1 x49 x66 x67 x68 x69 x70) x73) (
 (f_place_Arcs_j5 F x1 x49 x66 x67 x68 x69 x70) false)) (
 (f_place_Arcs_j5 F x1 x49 x66 x67 x68 x69 x70) false)))
theorem le_place_Arcs_j4 {F : Nat} {x1 : Scene} {x49 : Diner} {x66 : Int} {x67 : (List Arc)} {x68 : Diner} {x69 : (Side × Bool)} {x70 : (Side × Bool)} : ∀ s, ole (f_place_Arcs_j4 F x1 x49 x66 x67 x68 x69 x70 s) (m_place_Arcs_j4 x1 x49 x66 x67 x68 x69 x70 s) := by
  intro x71
  unfold f_place_Arcs_j4 m_place_Arcs_j4
  try dsimp only
  with_reducible repeat' first | exact ole_refl _ | assumption | intro _ | refine ole_ifb ?_ ?_ | refine ole_bind ?_ ?_ | refine ole_map ?_ | refine ole_loop ?_ | apply le_place_Arcs_j1 | apply le_place_Arcs_j2 | apply le_place_Arcs_j3 | apply le_place_Arcs_j6 | apply le_place_ahead | apply le_slices_Contains_Mail | apply le_place_Arcs_j5
def f_place_Arcs_l2 (F : Nat) (x1 : Scene) (x47 : Int) (x49 : Diner) (x50 : (List Diner)) : (Int × (List Arc)) → Option ((Int × (List Arc)) ⊕ ((Int × (List Arc)) ⊕ (List Arc)))
| (x66, x67) =>
 ifb (decide (x66 < (ln Diner.row x50))) (
 (at_ x50 x66).bind fun x68 =>
 (f_place_Side F x49 x68.ID).bind fun x69 =>
 (f_place_Side F x68 x49.ID).bind fun x70 =>
 ifb (!x69.2) (
 (f_place_Arcs_j4 F x1 x49 x66 x67 x68 x69 x70) true) (
 ifb (!x70.2) (
 (f_place_Arcs_j4 F x1 x49 x66 x67 x68 x69 x70) true) (
 (f_place_Arcs_j4 F x1 x49 x66 x67 x68 x69 x70) (!decide (x69.1.Epoch = x70.1.Epoch))))) (
 Option.map Sum.inr ((f_place_Arcs_j2 F x47) x67))
theorem le_place_Arcs_l2 {F : Nat} {x1 : Scene} {x47 : Int} {x49 : Diner} {x50 : (List Diner)} : ∀ s, ole (f_place_Arcs_l2 F x1 x47 x49 x50 s) (m_place_Arcs_l2 x1 x47 x49 x50 s) := by
  rintro ⟨x66, x67⟩
  unfold f_place_Arcs_l2 m_place_Arcs_l2
  try dsimp only
  with_reducible repeat' first | exact ole_refl _ | assumption | intro _ | refine ole_ifb ?_ ?_ | refine ole_bind ?_ ?_ | refine ole_map ?_ | refine ole_loop ?_ | apply le_place_Arcs_j1 | apply le_place_Arcs_j2 | apply le_place_Arcs_j3 | apply le_place_Arcs_j6 | apply le_place_ahead | apply le_slices_Contains_Mail | apply le_place_Arcs_j5 | apply le_place_Arcs_j4 | apply le_place_Side
def f_place_Arcs_l1 (F : Nat) (x1 : Scene) : (Int × (List Arc)) → Option ((Int × (List Arc)) ⊕ (List Arc))
| (x47, x48) =>
 ifb (decide (x47 < (ln Diner.row x1.Diners))) (
 (at_ x1.Diners x47).bind fun x49 =>
 (sub_ x1.Diners (wr (x47 + 1)) (ln Diner.row x1.Diners)).bind fun x50 =>
 loopF F (f_place_Arcs_l2 F x1 x47 x49 x50) (0, x48)) (
 Option.map Sum.inr (f_place_Arcs_j1 F x48))
theorem le_place_Arcs_l1 {F : Nat} {x1 : Scene} : ∀ s, ole (f_place_Arcs_l1 F x1 s) (m_place_Arcs_l1 x1 s) := by
  rintro ⟨x47, x48⟩
  unfold f_place_Arcs_l1 m_place_Arcs_l1
  try dsimp only
  with_reducible repeat' first | exact ole_refl _ | assumption | intro _ | refine ole_ifb ?_ ?_ | refine ole_bind ?_ ?_ | refine ole_map ?_ | refine ole_loop ?_ | apply le_place_Arcs_j1 | apply le_place_Arcs_j2 | apply le_place_Arcs_j3 | apply le_place_Arcs_j6 | apply le_place_ahead | apply le_slices_Contains_Mail | apply le_place_Arcs_j5 | apply le_place_Arcs_j4 | apply le_place_Side | apply le_place_Arcs_l2
def f_place_Arcs (F : Nat) (x1 : Scene) : Option (List Arc) :=
 loopF F (f_place_Arcs_l1 F x1) (0, ([] : List Arc))
theorem le_place_Arcs {F : Nat} {x1 : Scene} : ole (f_place_Arcs F x1) (m_place_Arcs x1) := by
  unfold f_place_Arcs m_place_Arcs
  with_reducible repeat' first | exact ole_refl _ | assumption | intro _ | refine ole_ifb ?_ ?_ | refine ole_bind ?_ ?_ | refine ole_map ?_ | refine ole_loop ?_ | apply le_place_Arcs_j1 | apply le_place_Arcs_j2 | apply le_place_Arcs_j3 | apply le_place_Arcs_j6 | apply le_place_ahead | apply le_slices_Contains_Mail | apply le_place_Arcs_j5 | apply le_place_Arcs_j4 | apply le_place_Side | apply le_place_Arcs_l2 | apply le_place_Arcs_l1
end NX
end Go.Proofs.Ytadebhbiglmodaa
/-
  The function narthex/narthexlaw12.awake: its code compiled, a model, and that the code answers as the model. Written by a program of ours (lb.py). No statement of the seat is proved here.
-/
namespace Go.Proofs.Ytadebhbiglmodaa
namespace NX
open Go
set_option maxRecDepth 100000
set_option maxHeartbeats 4000000
def e13 : EC := .seq (.reg [⟨(some 0), none, .mv (.c .ff)⟩]) (.seq (.reg [⟨(some 9), none, .build [.iv 0, .iv 0] [(0, 1, (.c (.iv 0))), (1, 1, (.c (.iv 1)))]⟩, ⟨(some 10), none, .bsl 58 2 1 [.iv 0, .iv 0] [(0, (.t 9))]⟩, ⟨(some 11), none, .build [.iv 0, .nl] [(0, 1, (.c (.iv 2))), (1, 1, (.t 10))]⟩, ⟨(some 1), none, .alloc 24 [.iv 0, .nl]⟩, ⟨none, none, .store 2 (.t 1) (.t 11)⟩]) (.seq (.reg [⟨(some 13), none, .loadA 2 (.t 1)⟩, ⟨(some 14), none, .bsl 3 1 2 [.iv 0] [(0, (.c (.iv 1))), (1, (.c (.iv 2)))]⟩, ⟨(some 15), none, .call 14 [(.t 13), (.t 14)]⟩, ⟨(some 12), none, .mv (.t 15)⟩, ⟨(some 16), none, .ext (.t 12) 0⟩, ⟨(some 17), none, .ext (.t 12) 1⟩, ⟨(some 2), none, .mv (.t 16)⟩, ⟨(some 3), none, .mv (.t 17)⟩]) (.seq (.seq (.reg [⟨(some 18), none, .mv (.t 3)⟩, ⟨(some 19), none, .bin .neq (.t 18) (.c (.iv 0))⟩, ⟨(some 20), none, .mv (.t 19)⟩, ⟨(some 21), (some (20, false)), .mv (.t 2)⟩, ⟨(some 22), (some (20, false)), .len (.t 21)⟩, ⟨(some 23), (some (20, false)), .bin .neq (.t 22) (.c (.iv 2))⟩, ⟨(some 24), none, .pick (.t 20) (.c .tt) (.t 23)⟩]) (.ite (.t 24) (.seq (.reg [⟨(some 0), none, .mv (.c .ff)⟩]) (.ret)) (.skip))) (.seq (.reg [⟨(some 26), none, .mv (.t 2)⟩, ⟨(some 27), none, .call 21 [(.t 26)]⟩, ⟨(some 25), none, .mv (.t 27)⟩, ⟨(some 28), none, .ext (.t 25) 0⟩, ⟨(some 29), none, .ext (.t 25) 1⟩, ⟨(some 4), none, .alloc 24 [.iv 0, .nl]⟩, ⟨none, none, .store 2 (.t 4) (.t 28)⟩, ⟨(some 5), none, .mv (.t 29)⟩]) (.seq (.reg [⟨(some 31), none, .mv (.t 2)⟩, ⟨(some 32), none, .idx 3 (.t 31) (.c (.iv 1))⟩, ⟨(some 33), none, .loadA 3 (.t 32)⟩, ⟨(some 34), none, .call 24 [(.t 33), (.c (.iv 0))]⟩, ⟨(some 30), none, .mv (.t 34)⟩, ⟨(some 35), none, .ext (.t 30) 0⟩, ⟨(some 36), none, .ext (.t 30) 1⟩, ⟨(some 6), none, .alloc 49 [.iv 0, .iv 0, .iv 0, .ff, .ff, .ff, .ff, .ff]⟩, ⟨none, none, .store 8 (.t 6) (.t 35)⟩, ⟨(some 7), none, .mv (.t 36)⟩]) (.seq (.reg [⟨(some 37), none, .mv (.t 2)⟩, ⟨(some 38), none, .build [.nl, .nl] [(0, 1, (.t 37))]⟩, ⟨(some 39), none, .call 29 [(.t 38)]⟩, ⟨(some 8), none, .mv (.t 39)⟩]) (.seq (.reg [⟨(some 40), none, .mv (.t 5)⟩, ⟨(some 41), none, .mv (.t 40)⟩, ⟨(some 42), (some (41, true)), .loadA 2 (.t 1)⟩, ⟨(some 43), (some (41, true)), .loadA 2 (.t 4)⟩, ⟨(some 44), (some (41, true)), .call 26 [(.t 42), (.t 43)]⟩, ⟨(some 45), none, .pick (.t 41) (.t 44) (.c .ff)⟩, ⟨(some 46), none, .mv (.t 45)⟩, ⟨(some 47), (some (46, true)), .mv (.t 7)⟩, ⟨(some 48), none, .pick (.t 46) (.t 47) (.c .ff)⟩, ⟨(some 49), none, .mv (.t 48)⟩, ⟨(some 50), (some (49, true)), .fld 3 (.t 6)⟩, ⟨(some 51), (some (49, true)), .load (.t 50)⟩, ⟨(some 52), none, .pick (.t 49) (.t 51) (.c .ff)⟩, ⟨(some 53), none, .mv (.t 52)⟩, ⟨(some 54), (some (53, true)), .fld 4 (.t 6)⟩, ⟨(some 55), (some (53, true)), .load (.t 54)⟩, ⟨(some 56), none, .pick (.t 53) (.t 55) (.c .ff)⟩, ⟨(some 57), none, .mv (.t 56)⟩, ⟨(some 58), (some (57, true)), .fld 5 (.t 6)⟩, ⟨(some 59), (some (57, true)), .load (.t 58)⟩, ⟨(some 60), (some (57, true)), .not (.t 59)⟩, ⟨(some 61), none, .pick (.t 57) (.t 60) (.c .ff)⟩, ⟨(some 62), none, .mv (.t 61)⟩, ⟨(some 63), (some (62, true)), .mv (.t 8)⟩, ⟨(some 64), (some (62, true)), .len (.t 63)⟩, ⟨(some 65), (some (62, true)), .bin .eql (.t 64) (.c (.iv 1))⟩, ⟨(some 66), none, .pick (.t 62) (.t 65) (.c .ff)⟩, ⟨(some 67), none, .mv (.t 66)⟩, ⟨(some 68), (some (67, true)), .mv (.t 8)⟩, ⟨(some 69), (some (67, true)), .idx 2 (.t 68) (.c (.iv 0))⟩, ⟨(some 70), (some (67, true)), .loadA 2 (.t 69)⟩, ⟨(some 71), (some (67, true)), .build [.iv 0, .iv 0] [(0, 1, (.c (.iv 0))), (1, 1, (.c (.iv 1)))]⟩, ⟨(some 72), (some (67, true)), .eqs false [true, true] (.t 70) (.t 71)⟩, ⟨(some 73), none, .pick (.t 67) (.t 72) (.c .ff)⟩, ⟨(some 74), none, .mv (.t 73)⟩, ⟨(some 75), (some (74, true)), .mv (.t 2)⟩, ⟨(some 76), (some (74, true)), .mv (.t 2)⟩, ⟨(some 77), (some (74, true)), .call 27 [(.t 75), (.t 76)]⟩, ⟨(some 78), none, .pick (.t 74) (.t 77) (.c .ff)⟩, ⟨(some 79), none, .mv (.t 78)⟩, ⟨(some 80), (some (79, true)), .mv (.t 2)⟩, ⟨(some 81), (some (79, true)), .call 27 [(.t 80), (.c .nl)]⟩, ⟨(some 82), (some (79, true)), .not (.t 81)⟩, ⟨(some 83), none, .pick (.t 79) (.t 82) (.c .ff)⟩, ⟨(some 0), none, .mv (.t 83)⟩]) (.ret))))))))
theorem ok13 : FnOK Try.prog 13 Try.f13 e13 [.t 0] 0 84 := ⟨by kernel_rfl, ⟨_, rfl, by kernel_rfl⟩, by kernel_rfl, by kernel_rfl⟩
/- narthex/narthexlaw12.awake -/
noncomputable def m_narthexlaw12_awake_j2  : Bool → Option Bool
| x11 =>
 some x11
noncomputable def m_narthexlaw12_awake_j1 (x1 : ((List Diner) × Int)) : Bool → Option Bool
| x2 =>
 ifb x2 (
 some false) (
 (m_place_Graph x1.1).bind fun x3 =>
 (at_ x1.1 1).bind fun x4 =>
 (m_place_Side x4 0).bind fun x5 =>
 (m_place_Arcs ((Scene.mk x1.1 (([] : (List Mail)))))).bind fun x6 =>
 ifb x3.2 (
 (m_narthexref03_Same ((Graph.mk 2 ([(Edge.mk 0 1)]))) x3.1).bind fun x7 =>
 ifb x7 (
 ifb x5.2 (
 ifb x5.1.Fork (
 ifb x5.1.Dirty (
 ifb (!x5.1.Token) (
 ifb (decide ((ln Arc.row x6) = 1)) (
 (at_ x6 0).bind fun x8 =>
 ifb (decide (x8.From = 0) && (decide (x8.To = 1) && true)) (
 (m_place_Same x1.1 x1.1).bind fun x9 =>
 ifb x9 (
 (m_place_Same x1.1 (([] : (List Diner)))).bind fun x10 =>
 m_narthexlaw12_awake_j2 (!x10)) (
 m_narthexlaw12_awake_j2 false)) (
 m_narthexlaw12_awake_j2 false)) (
 m_narthexlaw12_awake_j2 false)) (
 m_narthexlaw12_awake_j2 false)) (
 m_narthexlaw12_awake_j2 false)) (
 m_narthexlaw12_awake_j2 false)) (
 m_narthexlaw12_awake_j2 false)) (
 m_narthexlaw12_awake_j2 false)) (
 m_narthexlaw12_awake_j2 false))
noncomputable def m_narthexlaw12_awake  : Option Bool :=
 (m_place_Table ((Graph.mk 2 ([(Edge.mk 0 1)]))) ([1, 2])).bind fun x1 =>
 ifb (!decide (x1.2 = 0)) (
 (m_narthexlaw12_awake_j1 x1) true) (
 (m_narthexlaw12_awake_j1 x1) (!decide ((ln Diner.row x1.1) = 2)))
theorem k_narthexlaw12_awake  (r : Bool) (h : m_narthexlaw12_awake = some r) : FunP Try.prog 13 [] (.bv r) := by
  refine FunP_intro ok13 rfl rfl fun w0 H0 => ?_
  rw [m_narthexlaw12_awake] at h
  refine V_go 16 ?_; dsimp only [e13, go_sem, Nat.reduceBEq, Nat.reduceAdd]; refine ⟨by simp, ?_⟩; refine V_seal 0 rfl ?_; dsimp only [go_sem, Nat.reduceBEq, Nat.reduceAdd]; refine V_seal 1 rfl ?_; dsimp only [go_sem, Nat.reduceBEq, Nat.reduceAdd]; obtain ⟨x1, ex1, h⟩ := Option.bind_eq_some_iff.1 h; refine V_call trivial (k_place_Table ((Graph.mk 2 ([(Edge.mk 0 1)]))) ([1, 2]) _ ex1) (h := ?_); refine V_go 12 ?_; dsimp only [e13, go_sem, Nat.reduceBEq, Nat.reduceAdd]; refine ⟨by simp, ?_⟩
  refine V_join (fun (x2 : Bool) => (⟨(.any :: .ptr 0 0 :: .sl 3 (List.map Diner.row x1.1) :: an 21 (.bv x2 :: an 59 [])), [some ⟨24, [.iv 2, .sl 2 (List.map Edge.row ([(Edge.mk 0 1)]))]⟩], []⟩ : St)) (m_narthexlaw12_awake_j1 x1) r ?_ fun J1 => ?_
  ·intro x2 h; rw [m_narthexlaw12_awake_j1] at h; (try dsimp only); refine M_ite h rfl (fun _ h => ?_) fun _ h => ?_
   ·refine V_go 4 ?_; dsimp only [e13, go_sem, Nat.reduceBEq, Nat.reduceAdd]; refine ⟨by simp, ?_⟩; exact M_done (res := fun (r : Bool) => .bv r) ok13 h
   ·refine V_go 4 ?_; dsimp only [e13, go_sem, Nat.reduceBEq, Nat.reduceAdd]; refine ⟨by simp, ?_⟩; obtain ⟨x3, ex3, h⟩ := Option.bind_eq_some_iff.1 h; refine V_call trivial (k_place_Graph x1.1 _ ex3) (h := ?_); refine V_go 10 ?_; dsimp only [e13, go_sem, Nat.reduceBEq, Nat.reduceAdd]; refine ⟨by simp, ?_⟩; obtain ⟨x4, ex4, h⟩ := Option.bind_eq_some_iff.1 h; refine V_idxM Diner.row ex4 trivial rfl rfl rfl ?_; refine V_go 1 ?_; dsimp only [e13, go_sem, Nat.reduceBEq, Nat.reduceAdd]; refine ⟨by simp, ?_⟩; obtain ⟨x5, ex5, h⟩ := Option.bind_eq_some_iff.1 h
    refine V_call trivial (k_place_Side x4 0 _ ex5) (h := ?_); refine V_go 11 ?_; dsimp only [e13, go_sem, Nat.reduceBEq, Nat.reduceAdd]; refine ⟨by simp, ?_⟩; obtain ⟨x6, ex6, h⟩ := Option.bind_eq_some_iff.1 h; refine V_call trivial (k_place_Arcs ((Scene.mk x1.1 (([] : (List Mail))))) _ ex6) (h := ?_); refine V_go 6 ?_; dsimp only [e13, go_sem, Nat.reduceBEq, Nat.reduceAdd]; refine ⟨by simp, ?_⟩; refine V_join (fun (x11 : Bool) => (⟨(.bv x11 :: an 83 []), [], []⟩ : St)) m_narthexlaw12_awake_j2 r ?_ fun J2 => ?_
    ·intro x11 h; rw [m_narthexlaw12_awake_j2] at h; (try dsimp only); exact M_done (res := fun (r : Bool) => .bv r) ok13 h
    ·refine M_case 41 h rfl (fun _ h => ?_) fun _ h => ?_
     ·dsimp only [go_sem, Nat.reduceBEq, Nat.reduceAdd]; refine V_go 2 ?_; dsimp only [e13, go_sem, Nat.reduceBEq, Nat.reduceAdd]; refine ⟨by simp, ?_⟩; obtain ⟨x7, ex7, h⟩ := Option.bind_eq_some_iff.1 h; refine V_call trivial (k_narthexref03_Same ((Graph.mk 2 ([(Edge.mk 0 1)]))) x3.1 _ ex7) (h := ?_); refine V_go 2 ?_; dsimp only [e13, go_sem, Nat.reduceBEq, Nat.reduceAdd]; refine ⟨by simp, ?_⟩; refine M_case 46 h rfl (fun _ h => ?_) fun _ h => ?_
      ·dsimp only [go_sem, Nat.reduceBEq, Nat.reduceAdd]; refine V_go 3 ?_; dsimp only [e13, go_sem, Nat.reduceBEq, Nat.reduceAdd]; refine ⟨by simp, ?_⟩; refine M_case 49 h rfl (fun _ h => ?_) fun _ h => ?_
       ·dsimp only [go_sem, Nat.reduceBEq, Nat.reduceAdd]; refine V_go 4 ?_; dsimp only [e13, go_sem, Nat.reduceBEq, Nat.reduceAdd]; refine ⟨by simp, ?_⟩; refine M_case 53 h rfl (fun _ h => ?_) fun _ h => ?_
        ·dsimp only [go_sem, Nat.reduceBEq, Nat.reduceAdd]; refine V_go 4 ?_; dsimp only [e13, go_sem, Nat.reduceBEq, Nat.reduceAdd]; refine ⟨by simp, ?_⟩; refine M_case 57 h rfl (fun _ h => ?_) fun _ h => ?_
         ·dsimp only [go_sem, Nat.reduceBEq, Nat.reduceAdd]; refine V_go 5 ?_; dsimp only [e13, go_sem, Nat.reduceBEq, Nat.reduceAdd]; refine ⟨by simp, ?_⟩; refine M_case 62 h rfl (fun _ h => ?_) fun _ h => ?_
          ·dsimp only [go_sem, Nat.reduceBEq, Nat.reduceAdd]; refine V_go 5 ?_; dsimp only [e13, go_sem, Nat.reduceBEq, Nat.reduceAdd]; refine ⟨by simp, ?_⟩; refine M_case 67 h rfl (fun _ h => ?_) fun _ h => ?_
           ·dsimp only [go_sem, Nat.reduceBEq, Nat.reduceAdd]; refine V_go 1 ?_; dsimp only [e13, go_sem, Nat.reduceBEq, Nat.reduceAdd]; refine ⟨by simp, ?_⟩; obtain ⟨x8, ex8, h⟩ := Option.bind_eq_some_iff.1 h; refine V_idxM Arc.row ex8 trivial rfl rfl rfl ?_; refine V_go 5 ?_; dsimp only [e13, go_sem, Nat.reduceBEq, Nat.reduceAdd]; refine ⟨by simp, ?_⟩; refine M_case 74 h rfl (fun _ h => ?_) fun _ h => ?_
            ·dsimp only [go_sem, Nat.reduceBEq, Nat.reduceAdd]; refine V_go 2 ?_; dsimp only [e13, go_sem, Nat.reduceBEq, Nat.reduceAdd]; refine ⟨by simp, ?_⟩; obtain ⟨x9, ex9, h⟩ := Option.bind_eq_some_iff.1 h; refine V_call trivial (k_place_Same x1.1 x1.1 _ ex9) (h := ?_); refine V_go 2 ?_; dsimp only [e13, go_sem, Nat.reduceBEq, Nat.reduceAdd]; refine ⟨by simp, ?_⟩; refine M_case 79 h rfl (fun _ h => ?_) fun _ h => ?_
             ·dsimp only [go_sem, Nat.reduceBEq, Nat.reduceAdd]; refine V_go 1 ?_; dsimp only [e13, go_sem, Nat.reduceBEq, Nat.reduceAdd]; refine ⟨by simp, ?_⟩; obtain ⟨x10, ex10, h⟩ := Option.bind_eq_some_iff.1 h; refine V_call trivial (k_place_Same x1.1 (([] : (List Diner))) _ ex10) (h := ?_); refine V_go 4 ?_; dsimp only [e13, go_sem, Nat.reduceBEq, Nat.reduceAdd]; refine ⟨by simp, ?_⟩; exact M_to J2 (s := !x10) h
             ·dsimp only [go_sem, Nat.reduceBEq, Nat.reduceAdd]; refine V_go 6 ?_; dsimp only [e13, go_sem, Nat.reduceBEq, Nat.reduceAdd]; refine ⟨by simp, ?_⟩; exact M_to J2 (s := false) h
            ·dsimp only [go_sem, Nat.reduceBEq, Nat.reduceAdd]; refine V_go 11 ?_; dsimp only [e13, go_sem, Nat.reduceBEq, Nat.reduceAdd]; refine ⟨by simp, ?_⟩; exact M_to J2 (s := false) h
           ·dsimp only [go_sem, Nat.reduceBEq, Nat.reduceAdd]; refine V_go 18 ?_; dsimp only [e13, go_sem, Nat.reduceBEq, Nat.reduceAdd]; refine ⟨by simp, ?_⟩; exact M_to J2 (s := false) h
          ·dsimp only [go_sem, Nat.reduceBEq, Nat.reduceAdd]; refine V_go 23 ?_; dsimp only [e13, go_sem, Nat.reduceBEq, Nat.reduceAdd]; refine ⟨by simp, ?_⟩; exact M_to J2 (s := false) h
         ·dsimp only [go_sem, Nat.reduceBEq, Nat.reduceAdd]; refine V_go 28 ?_; dsimp only [e13, go_sem, Nat.reduceBEq, Nat.reduceAdd]; refine ⟨by simp, ?_⟩; exact M_to J2 (s := false) h
        ·dsimp only [go_sem, Nat.reduceBEq, Nat.reduceAdd]; refine V_go 32 ?_; dsimp only [e13, go_sem, Nat.reduceBEq, Nat.reduceAdd]; refine ⟨by simp, ?_⟩; exact M_to J2 (s := false) h
       ·dsimp only [go_sem, Nat.reduceBEq, Nat.reduceAdd]; refine V_go 36 ?_; dsimp only [e13, go_sem, Nat.reduceBEq, Nat.reduceAdd]; refine ⟨by simp, ?_⟩; exact M_to J2 (s := false) h
      ·dsimp only [go_sem, Nat.reduceBEq, Nat.reduceAdd]; refine V_go 39 ?_; dsimp only [e13, go_sem, Nat.reduceBEq, Nat.reduceAdd]; refine ⟨by simp, ?_⟩; exact M_to J2 (s := false) h
     ·dsimp only [go_sem, Nat.reduceBEq, Nat.reduceAdd]; refine V_go 44 ?_; dsimp only [e13, go_sem, Nat.reduceBEq, Nat.reduceAdd]; refine ⟨by simp, ?_⟩; exact M_to J2 (s := false) h
  ·refine M_case 20 h rfl (fun _ h => ?_) fun _ h => ?_
   ·dsimp only [go_sem, Nat.reduceBEq, Nat.reduceAdd]; refine V_go 5 ?_; dsimp only [e13, go_sem, Nat.reduceBEq, Nat.reduceAdd]; refine ⟨by simp, ?_⟩; exact M_to J1 (s := true) h
   ·dsimp only [go_sem, Nat.reduceBEq, Nat.reduceAdd]; refine V_go 5 ?_; dsimp only [e13, go_sem, Nat.reduceBEq, Nat.reduceAdd]; refine ⟨by simp, ?_⟩; exact M_to J1 (s := !decide ((ln Diner.row x1.1) = 2)) h
def f_narthexlaw12_awake_j2 (_F : Nat)  : Bool → Option Bool
| x11 =>
 some x11
theorem le_narthexlaw12_awake_j2 {F : Nat} : ∀ s, ole (f_narthexlaw12_awake_j2 F s) (m_narthexlaw12_awake_j2 s) := by
  intro x11
  unfold f_narthexlaw12_awake_j2 m_narthexlaw12_awake_j2
  try dsimp only
  with_reducible repeat' first | exact ole_refl _ | assumption | intro _ | refine ole_ifb ?_ ?_ | refine ole_bind ?_ ?_ | refine ole_map ?_ | refine ole_loop ?_
def f_narthexlaw12_awake_j1 (F : Nat) (x1 : ((List Diner) × Int)) : Bool → Option Bool
| x2 =>
 ifb x2 (
 some false) (
 (f_place_Graph F x1.1).bind fun x3 =>
 (at_ x1.1 1).bind fun x4 =>
 (f_place_Side F x4 0).bind fun x5 =>
 (f_place_Arcs F ((Scene.mk x1.1 (([] : (List Mail)))))).bind fun x6 =>
 ifb x3.2 (
 (f_narthexref03_Same F ((Graph.mk 2 ([(Edge.mk 0 1)]))) x3.1).bind fun x7 =>
 ifb x7 (
 ifb x5.2 (
 ifb x5.1.Fork (
 ifb x5.1.Dirty (
 ifb (!x5.1.Token) (
 ifb (decide ((ln Arc.row x6) = 1)) (
 (at_ x6 0).bind fun x8 =>
 ifb (decide (x8.From = 0) && (decide (x8.To = 1) && true)) (
 (f_place_Same F x1.1 x1.1).bind fun x9 =>
 ifb x9 (
 (f_place_Same F x1.1 (([] : (List Diner)))).bind fun x10 =>
 f_narthexlaw12_awake_j2 F (!x10)) (
 f_narthexlaw12_awake_j2 F false)) (
 f_narthexlaw12_awake_j2 F false)) (
 f_narthexlaw12_awake_j2 F false)) (
 f_narthexlaw12_awake_j2 F false)) (
 f_narthexlaw12_awake_j2 F false)) (
 f_narthexlaw12_awake_j2 F false)) (
 f_narthexlaw12_awake_j2 F false)) (
 f_narthexlaw12_awake_j2 F false)) (
 f_narthexlaw12_awake_j2 F false))
theorem le_narthexlaw12_awake_j1 {F : Nat} {x1 : ((List Diner) × Int)} : ∀ s, ole (f_narthexlaw12_awake_j1 F x1 s) (m_narthexlaw12_awake_j1 x1 s) := by
  intro x2
  unfold f_narthexlaw12_awake_j1 m_narthexlaw12_awake_j1
  try dsimp only
  with_reducible repeat' first | exact ole_refl _ | assumption | intro _ | refine ole_ifb ?_ ?_ | refine ole_bind ?_ ?_ | refine ole_map ?_ | refine ole_loop ?_ | apply le_narthexlaw12_awake_j2 | apply le_place_Graph | apply le_place_Side | apply le_place_Arcs | apply le_narthexref03_Same | apply le_place_Same
def f_narthexlaw12_awake (F : Nat)  : Option Bool :=
 (f_place_Table F ((Graph.mk 2 ([(Edge.mk 0 1)]))) ([1, 2])).bind fun x1 =>
 ifb (!decide (x1.2 = 0)) (
 (f_narthexlaw12_awake_j1 F x1) true) (
 (f_narthexlaw12_awake_j1 F x1) (!decide ((ln Diner.row x1.1) = 2)))
theorem le_narthexlaw12_awake {F : Nat} : ole (f_narthexlaw12_awake F) (m_narthexlaw12_awake) := by
  unfold f_narthexlaw12_awake m_narthexlaw12_awake
  with_reducible repeat' first | exact ole_refl _ | assumption | intro _ | refine ole_ifb ?_ ?_ | refine ole_bind ?_ ?_ | refine ole_map ?_ | refine ole_loop ?_ | apply le_narthexlaw12_awake_j2 | apply le_place_Graph | apply le_place_Side | apply le_place_Arcs | apply le_narthexref03_Same | apply le_place_Same | apply le_narthexlaw12_awake_j1 | apply le_place_Table
end NX
end Go.Proofs.Ytadebhbiglmodaa
/-
  The function narthex/narthexref12.Few: its code compiled, a model, and that the code answers as the model. Written by a program of ours (lb.py). No statement of the seat is proved here.
-/
namespace Go.Proofs.Ytadebhbiglmodaa
namespace NX
open Go
set_option maxRecDepth 100000
set_option maxHeartbeats 4000000
def e20_L0 : EC := .seq (.seq (.reg [⟨(some 4), none, .mv (.t 3)⟩, ⟨(some 5), none, .fld 0 (.t 1)⟩, ⟨(some 6), none, .load (.t 5)⟩, ⟨(some 7), none, .len (.t 6)⟩, ⟨(some 8), none, .bin .lss (.t 4) (.t 7)⟩, ⟨(some 9), none, .mv (.t 8)⟩, ⟨(some 10), (some (9, true)), .mv (.t 3)⟩, ⟨(some 11), (some (9, true)), .bin .lss (.t 10) (.c (.iv 25))⟩, ⟨(some 12), none, .pick (.t 9) (.t 11) (.c .ff)⟩]) (.ite (.t 12) (.skip) (.exit 0))) (.seq (.blk 1 (.seq (.reg [⟨(some 15), none, .fld 0 (.t 1)⟩, ⟨(some 16), none, .load (.t 15)⟩, ⟨(some 17), none, .mv (.t 3)⟩, ⟨(some 18), none, .idx 3 (.t 16) (.t 17)⟩, ⟨(some 19), none, .fld 2 (.t 18)⟩, ⟨(some 20), none, .load (.t 19)⟩, ⟨(some 21), none, .len (.t 20)⟩, ⟨(some 22), none, .bin .gtr (.t 21) (.c (.iv 24))⟩]) (.ite (.t 22) (.seq (.reg [⟨(some 2), none, .mv (.c .ff)⟩]) (.ret)) (.skip)))) (.reg [⟨(some 13), none, .mv (.t 3)⟩, ⟨(some 14), none, .bin .add (.t 13) (.c (.iv 1))⟩, ⟨(some 3), none, .mv (.t 14)⟩]))
def e20 : EC := .seq (.reg [⟨(some 1), none, .box 43 2 (.t 0)⟩, ⟨(some 2), none, .mv (.c .ff)⟩]) (.seq (.seq (.reg [⟨(some 3), none, .mv (.c (.iv 0))⟩]) (.blk 0 (.loop e20_L0))) (.seq (.reg [⟨(some 23), none, .fld 0 (.t 1)⟩, ⟨(some 24), none, .load (.t 23)⟩, ⟨(some 25), none, .len (.t 24)⟩, ⟨(some 26), none, .bin .leq (.t 25) (.c (.iv 24))⟩, ⟨(some 27), none, .mv (.t 26)⟩, ⟨(some 28), (some (27, true)), .fld 1 (.t 1)⟩, ⟨(some 29), (some (27, true)), .load (.t 28)⟩, ⟨(some 30), (some (27, true)), .len (.t 29)⟩, ⟨(some 31), (some (27, true)), .bin .leq (.t 30) (.c (.iv 40))⟩, ⟨(some 32), none, .pick (.t 27) (.t 31) (.c .ff)⟩, ⟨(some 2), none, .mv (.t 32)⟩]) (.ret)))
theorem ok20 : FnOK Try.prog 20 Try.f20 e20 [.t 2] 1 32 := ⟨by kernel_rfl, ⟨_, rfl, by kernel_rfl⟩, by kernel_rfl, by kernel_rfl⟩
/- narthex/narthexref12.Few -/
noncomputable def m_narthexref12_Few_j3  : Bool → Option Bool
| x11 =>
 some x11
noncomputable def m_narthexref12_Few_j1 (x1 : Scene) : Unit → Option Bool
| () =>
 ifb (decide ((ln Diner.row x1.Diners) ≤ 24)) (
 m_narthexref12_Few_j3 (decide ((ln Mail.row x1.Mail) ≤ 40))) (
 m_narthexref12_Few_j3 false)
noncomputable def m_narthexref12_Few_j2 (x1 : Scene) (x5 : Int) : Bool → Option (Int ⊕ Bool)
| x6 =>
 ifb x6 (
 (at_ x1.Diners x5).bind fun x7 =>
 ifb (decide (24 < (ln Side.row x7.Sides))) (
 Option.map Sum.inr (some false)) (
 some (.inl (wr (x5 + 1))))) (
 Option.map Sum.inr ((m_narthexref12_Few_j1 x1) ()))
noncomputable def m_narthexref12_Few_l1 (x1 : Scene) : Int → Option (Int ⊕ Bool)
| x5 =>
 ifb (decide (x5 < (ln Diner.row x1.Diners))) (
 (m_narthexref12_Few_j2 x1 x5) (decide (x5 < 25))) (
 (m_narthexref12_Few_j2 x1 x5) false)
noncomputable def m_narthexref12_Few (x1 : Scene) : Option Bool :=
 loop (m_narthexref12_Few_l1 x1) 0
theorem k_narthexref12_Few (x1 : Scene) (r : Bool) (h : m_narthexref12_Few x1 = some r) : FunP Try.prog 20 [.agg (Scene.row x1)] (.bv r) := by
  refine FunP_intro ok20 rfl rfl fun w0 H0 => ?_
  rw [m_narthexref12_Few] at h
  refine V_go 10 ?_; dsimp only [e20, e20_L0, go_sem, Nat.reduceBEq, Nat.reduceAdd]; refine ⟨by simp, ?_⟩; refine V_join (fun (_ : Unit) => (⟨(.any :: .ptr 0 0 :: an 31 []), [some ⟨43, [.sl 3 (List.map Diner.row x1.Diners), .sl 5 (List.map Mail.row x1.Mail)]⟩], []⟩ : St)) (m_narthexref12_Few_j1 x1) r ?_ fun J1 => ?_
  ·rintro ⟨⟩ h; rw [m_narthexref12_Few_j1] at h; (try dsimp only); refine V_go 7 ?_; dsimp only [e20, e20_L0, go_sem, Nat.reduceBEq, Nat.reduceAdd]; refine ⟨by simp, ?_⟩; refine V_join (fun (x11 : Bool) => (⟨(.any :: .any :: .bv x11 :: an 30 []), [], []⟩ : St)) m_narthexref12_Few_j3 r ?_ fun J3 => ?_
   ·intro x11 h; rw [m_narthexref12_Few_j3] at h; (try dsimp only); exact M_done (res := fun (r : Bool) => .bv r) ok20 h
   ·refine M_case 27 h rfl (fun _ h => ?_) fun _ h => ?_
    ·dsimp only [go_sem, Nat.reduceBEq, Nat.reduceAdd]; refine V_go 7 ?_; dsimp only [e20, e20_L0, go_sem, Nat.reduceBEq, Nat.reduceAdd]; refine ⟨by simp, ?_⟩; exact M_to J3 (s := decide ((ln Mail.row x1.Mail) ≤ 40)) h
    ·dsimp only [go_sem, Nat.reduceBEq, Nat.reduceAdd]; refine V_go 7 ?_; dsimp only [e20, e20_L0, go_sem, Nat.reduceBEq, Nat.reduceAdd]; refine ⟨by simp, ?_⟩; exact M_to J3 (s := false) h
  ·refine V_go 1 ?_; dsimp only [e20, e20_L0, go_sem, Nat.reduceBEq, Nat.reduceAdd]; refine ⟨by simp, ?_⟩; refine M_loop h (fun (x5 : Int) => (⟨(.any :: .ptr 0 0 :: .any :: .iv x5 :: an 29 []), [some ⟨43, [.sl 3 (List.map Diner.row x1.Diners), .sl 5 (List.map Mail.row x1.Mail)]⟩], []⟩ : St)) (by simp [go_sem]) (by intro x5; first | rfl | simp [go_sem]) ?_; rintro n1 x5 y1 h hin1 hout1; rw [m_narthexref12_Few_l1] at h; (try dsimp only); refine V_go 9 ?_; dsimp only [e20, e20_L0, go_sem, Nat.reduceBEq, Nat.reduceAdd]; refine ⟨by simp, ?_⟩
   refine V_join (fun (x6 : Bool) => (⟨(.any :: .ptr 0 0 :: .any :: .iv x5 :: an 8 (.bv x6 :: an 20 [])), [some ⟨43, [.sl 3 (List.map Diner.row x1.Diners), .sl 5 (List.map Mail.row x1.Mail)]⟩], []⟩ : St)) (m_narthexref12_Few_j2 x1 x5) y1 ?_ fun J2 => ?_
   ·intro x6 h; rw [m_narthexref12_Few_j2] at h; (try dsimp only); refine M_ite h rfl (fun _ h => ?_) fun _ h => ?_
    ·refine V_go 8 ?_; dsimp only [e20, e20_L0, go_sem, Nat.reduceBEq, Nat.reduceAdd]; refine ⟨by simp, ?_⟩; obtain ⟨x7, ex7, h⟩ := Option.bind_eq_some_iff.1 h; refine V_idxM Diner.row ex7 trivial rfl rfl rfl ?_; refine V_go 5 ?_; dsimp only [e20, e20_L0, go_sem, Nat.reduceBEq, Nat.reduceAdd]; refine ⟨by simp, ?_⟩; refine M_ite h rfl (fun _ h => ?_) fun _ h => ?_
     ·refine V_go 4 ?_; dsimp only [e20, e20_L0, go_sem, Nat.reduceBEq, Nat.reduceAdd]; refine ⟨by simp, ?_⟩; exact M_done (res := fun (r : Bool) => .bv r) ok20 (M_out h hout1)
     ·refine V_go 7 ?_; dsimp only [e20, e20_L0, go_sem, Nat.reduceBEq, Nat.reduceAdd]; refine ⟨by simp, ?_⟩; exact M_back h hin1
    ·refine V_go 1 ?_; dsimp only [e20, e20_L0, go_sem, Nat.reduceBEq, Nat.reduceAdd]; refine ⟨by simp, ?_⟩; exact M_to J1 (s := ()) (M_out h hout1)
   ·refine M_case 9 h rfl (fun _ h => ?_) fun _ h => ?_
    ·dsimp only [go_sem, Nat.reduceBEq, Nat.reduceAdd]; refine V_go 4 ?_; dsimp only [e20, e20_L0, go_sem, Nat.reduceBEq, Nat.reduceAdd]; refine ⟨by simp, ?_⟩; exact M_to J2 (s := decide (x5 < 25)) h
    ·dsimp only [go_sem, Nat.reduceBEq, Nat.reduceAdd]; refine V_go 4 ?_; dsimp only [e20, e20_L0, go_sem, Nat.reduceBEq, Nat.reduceAdd]; refine ⟨by simp, ?_⟩; exact M_to J2 (s := false) h
end NX
end Go.Proofs.Ytadebhbiglmodaa
/-
  The function narthex/narthexlaw12.Own: its code compiled, a model, and that the code answers as the model. Written by a program of ours (lb.py). No statement of the seat is proved here.
-/
namespace Go.Proofs.Ytadebhbiglmodaa
namespace NX
open Go
set_option maxRecDepth 100000
set_option maxHeartbeats 4000000
def e22_L0 : EC := .seq (.seq (.reg [⟨(some 7), none, .mv (.t 4)⟩, ⟨(some 8), none, .mv (.t 0)⟩, ⟨(some 9), none, .len (.t 8)⟩, ⟨(some 10), none, .bin .lss (.t 7) (.t 9)⟩]) (.ite (.t 10) (.skip) (.exit 0))) (.seq (.blk 1 (.seq (.reg [⟨(some 13), none, .mv (.t 0)⟩, ⟨(some 14), none, .mv (.t 4)⟩, ⟨(some 15), none, .idx 3 (.t 13) (.t 14)⟩, ⟨(some 16), none, .loadA 3 (.t 15)⟩, ⟨(some 5), none, .alloc 39 [.iv 0, .iv 0, .nl]⟩, ⟨none, none, .store 3 (.t 5) (.t 16)⟩]) (.seq (.reg [⟨(some 17), none, .bsl 49 8 0 [.iv 0, .iv 0, .iv 0, .ff, .ff, .ff, .ff, .ff] []⟩, ⟨(some 18), none, .fld 2 (.t 5)⟩, ⟨(some 19), none, .load (.t 18)⟩, ⟨(some 20), none, .app 49 8 32 (.t 17) (.t 19)⟩, ⟨(some 21), none, .fld 2 (.t 5)⟩, ⟨none, none, .store 1 (.t 21) (.t 20)⟩]) (.reg [⟨(some 22), none, .mv (.t 3)⟩, ⟨(some 23), none, .loadA 3 (.t 5)⟩, ⟨(some 24), none, .bsl 39 3 1 [.iv 0, .iv 0, .nl] [(0, (.t 23))]⟩, ⟨(some 25), none, .app 39 3 40 (.t 22) (.t 24)⟩, ⟨(some 3), none, .mv (.t 25)⟩])))) (.reg [⟨(some 11), none, .mv (.t 4)⟩, ⟨(some 12), none, .bin .add (.t 11) (.c (.iv 1))⟩, ⟨(some 4), none, .mv (.t 12)⟩]))
def e22 : EC := .seq (.reg [⟨(some 2), none, .mv (.c .nl)⟩]) (.seq (.reg [⟨(some 6), none, .bsl 39 3 0 [.iv 0, .iv 0, .nl] []⟩, ⟨(some 3), none, .mv (.t 6)⟩]) (.seq (.seq (.reg [⟨(some 4), none, .mv (.c (.iv 0))⟩]) (.blk 0 (.loop e22_L0))) (.seq (.reg [⟨(some 26), none, .mv (.t 3)⟩, ⟨(some 2), none, .mv (.t 26)⟩]) (.ret))))
theorem ok22 : FnOK Try.prog 22 Try.f22 e22 [.t 2] 1 26 := ⟨by kernel_rfl, ⟨_, rfl, by kernel_rfl⟩, by kernel_rfl, by kernel_rfl⟩
/- narthex/narthexlaw12.Own -/
noncomputable def m_narthexlaw12_Own_j1  : (List Diner) → Option (List Diner)
| x17 =>
 some x17
noncomputable def m_narthexlaw12_Own_l1 (x1 : (List Diner)) : (Int × (List Diner)) → Option ((Int × (List Diner)) ⊕ (List Diner))
| (x7, x8) =>
 ifb (decide (x7 < (ln Diner.row x1))) (
 (at_ x1 x7).bind fun x9 =>
 (app_ 32 (([] : List Side)) x9.Sides).bind fun x10 =>
 (app_ 40 x8 ([(Diner.mk x9.ID x9.Phase x10)])).bind fun x11 =>
 some (.inl (wr (x7 + 1), x11))) (
 Option.map Sum.inr (m_narthexlaw12_Own_j1 x8))
noncomputable def m_narthexlaw12_Own (x1 : (List Diner)) : Option (List Diner) :=
 loop (m_narthexlaw12_Own_l1 x1) (0, ([] : List Diner))
theorem o_narthexlaw12_Own (x1 : (List Diner)) (r : (List Diner)) (h : m_narthexlaw12_Own x1 = some r) : FunO Try.prog 22 [.sl 3 (List.map Diner.row x1)] 39 3 (List.map Diner.row r) := by
  refine FunO_intro ok22 rfl fun w0 H0 => ?_
  rw [m_narthexlaw12_Own] at h
  refine V_go 14 ?_; dsimp only [e22, e22_L0, go_sem, Nat.reduceBEq, Nat.reduceAdd]; refine ⟨by simp, ?_⟩; refine V_join (fun (x17 : (List Diner)) => (⟨(an 3 (.osl 0 :: an 23 [])), [], [some ⟨39, 3, List.map Diner.row x17⟩]⟩ : St)) m_narthexlaw12_Own_j1 r ?_ fun J1 => ?_
  ·intro x17 h; rw [m_narthexlaw12_Own_j1] at h; (try dsimp only); refine V_go 5 ?_; dsimp only [e22, e22_L0, go_sem, Nat.reduceBEq, Nat.reduceAdd]; refine ⟨by simp, ?_⟩; exact O_doneM Diner.row ok22 h rfl rfl
  ·refine V_go 1 ?_; dsimp only [e22, e22_L0, go_sem, Nat.reduceBEq, Nat.reduceAdd]; refine ⟨by simp, ?_⟩; refine M_loop h (fun ((x7, x8) : (Int × (List Diner))) => (⟨(.sl 3 (List.map Diner.row x1) :: .any :: .any :: .osl 0 :: .iv x7 :: an 22 []), [], [some ⟨39, 3, List.map Diner.row x8⟩]⟩ : St)) (by simp [go_sem]) (by rintro ⟨x7, x8⟩; first | rfl | simp [go_sem]) ?_; rintro n1 ⟨x7, x8⟩ y1 h hin1 hout1; rw [m_narthexlaw12_Own_l1] at h; (try dsimp only); refine V_go 8 ?_; dsimp only [e22, e22_L0, go_sem, Nat.reduceBEq, Nat.reduceAdd]; refine ⟨by simp, ?_⟩
   refine M_ite h rfl (fun _ h => ?_) fun _ h => ?_
   ·refine V_go 7 ?_; dsimp only [e22, e22_L0, go_sem, Nat.reduceBEq, Nat.reduceAdd]; refine ⟨by simp, ?_⟩; obtain ⟨x9, ex9, h⟩ := Option.bind_eq_some_iff.1 h; refine V_idxM Diner.row ex9 trivial rfl rfl rfl ?_; refine V_go 9 ?_; dsimp only [e22, e22_L0, go_sem, Nat.reduceBEq, Nat.reduceAdd]; refine ⟨by simp, ?_⟩; obtain ⟨x10, ex10, h⟩ := Option.bind_eq_some_iff.1 h; refine V_appM Side.row ex10 trivial rfl rfl rfl ?_; refine V_go 6 ?_; dsimp only [e22, e22_L0, go_sem, Nat.reduceBEq, Nat.reduceAdd]; refine ⟨by simp, ?_⟩; refine V_seal 2 rfl ?_; dsimp only [go_sem, Nat.reduceBEq, Nat.reduceAdd]
    refine V_go 1 ?_; dsimp only [e22, e22_L0, go_sem, Nat.reduceBEq, Nat.reduceAdd]; refine ⟨by simp, ?_⟩; obtain ⟨x11, ex11, h⟩ := Option.bind_eq_some_iff.1 h; refine V_appM Diner.row ex11 trivial rfl rfl rfl ?_; refine V_go 8 ?_; dsimp only [e22, e22_L0, go_sem, Nat.reduceBEq, Nat.reduceAdd]; refine ⟨by simp, ?_⟩; refine V_ren 4 0 rfl rfl rfl ?_; dsimp only [go_sem, Nat.reduceBEq, Nat.reduceAdd]; exact M_back h hin1
   ·refine V_go 1 ?_; dsimp only [e22, e22_L0, go_sem, Nat.reduceBEq, Nat.reduceAdd]; refine ⟨by simp, ?_⟩; exact M_to J1 (s := x8) (M_out h hout1)
theorem k_narthexlaw12_Own (x1 : (List Diner)) (r : (List Diner)) (h : m_narthexlaw12_Own x1 = some r) : FunP Try.prog 22 [.sl 3 (List.map Diner.row x1)] (.sl 3 (List.map Diner.row r)) := (o_narthexlaw12_Own x1 r h).sealed
end NX
end Go.Proofs.Ytadebhbiglmodaa
/-
  The function narthex/narthexref12.Side: its code compiled, a model, and that the code answers as the model. Written by a program of ours (lb.py). No statement of the seat is proved here.
-/
namespace Go.Proofs.Ytadebhbiglmodaa
namespace NX
open Go
set_option maxRecDepth 100000
set_option maxHeartbeats 4000000
def e25_L0 : EC := .seq (.seq (.reg [⟨(some 7), none, .mv (.t 6)⟩, ⟨(some 8), none, .fld 2 (.t 2)⟩, ⟨(some 9), none, .load (.t 8)⟩, ⟨(some 10), none, .len (.t 9)⟩, ⟨(some 11), none, .bin .lss (.t 7) (.t 10)⟩]) (.ite (.t 11) (.skip) (.exit 0))) (.seq (.blk 1 (.seq (.reg [⟨(some 14), none, .fld 2 (.t 2)⟩, ⟨(some 15), none, .load (.t 14)⟩, ⟨(some 16), none, .mv (.t 6)⟩, ⟨(some 17), none, .idx 8 (.t 15) (.t 16)⟩, ⟨(some 18), none, .fld 0 (.t 17)⟩, ⟨(some 19), none, .load (.t 18)⟩, ⟨(some 20), none, .mv (.t 1)⟩, ⟨(some 21), none, .bin .eql (.t 19) (.t 20)⟩]) (.ite (.t 21) (.seq (.reg [⟨(some 22), none, .fld 2 (.t 2)⟩, ⟨(some 23), none, .load (.t 22)⟩, ⟨(some 24), none, .mv (.t 6)⟩, ⟨(some 25), none, .idx 8 (.t 23) (.t 24)⟩, ⟨(some 26), none, .loadA 8 (.t 25)⟩, ⟨none, none, .store 8 (.t 4) (.t 26)⟩, ⟨(some 5), none, .mv (.c .tt)⟩]) (.ret)) (.skip)))) (.reg [⟨(some 12), none, .mv (.t 6)⟩, ⟨(some 13), none, .bin .add (.t 12) (.c (.iv 1))⟩, ⟨(some 6), none, .mv (.t 13)⟩]))
def e25 : EC := .seq (.reg [⟨(some 2), none, .box 39 3 (.t 0)⟩, ⟨(some 4), none, .alloc 49 [.iv 0, .iv 0, .iv 0, .ff, .ff, .ff, .ff, .ff]⟩, ⟨(some 5), none, .mv (.c .ff)⟩]) (.seq (.seq (.reg [⟨(some 6), none, .mv (.c (.iv 0))⟩]) (.blk 0 (.loop e25_L0))) (.seq (.reg [⟨(some 27), none, .build [.iv 0, .iv 0, .iv 0, .ff, .ff, .ff, .ff, .ff] []⟩, ⟨none, none, .store 8 (.t 4) (.t 27)⟩, ⟨(some 5), none, .mv (.c .ff)⟩]) (.ret)))
theorem ok25 : FnOK Try.prog 25 Try.f25 e25 [.c 4 (some 8), .t 5] 2 26 := ⟨by kernel_rfl, ⟨_, rfl, by kernel_rfl⟩, by kernel_rfl, by kernel_rfl⟩
/- narthex/narthexref12.Side -/
noncomputable def m_narthexref12_Side_j1  : Unit → Option (Side × Bool)
| () =>
 some ((Side.mk 0 0 0 false false false false false), false)
noncomputable def m_narthexref12_Side_l1 (x1 : Diner) (x2 : Int) : Int → Option (Int ⊕ (Side × Bool))
| x6 =>
 ifb (decide (x6 < (ln Side.row x1.Sides))) (
 (at_ x1.Sides x6).bind fun x7 =>
 ifb (decide (x7.Peer = x2)) (
 (at_ x1.Sides x6).bind fun x8 =>
 Option.map Sum.inr (some (x8, true))) (
 some (.inl (wr (x6 + 1))))) (
 Option.map Sum.inr (m_narthexref12_Side_j1 ()))
noncomputable def m_narthexref12_Side (x1 : Diner) (x2 : Int) : Option (Side × Bool) :=
 loop (m_narthexref12_Side_l1 x1 x2) 0
theorem k_narthexref12_Side (x1 : Diner) (x2 : Int) (r : (Side × Bool)) (h : m_narthexref12_Side x1 x2 = some r) : FunP Try.prog 25 [.agg (Diner.row x1), .iv x2] (.tup [.agg (Side.row r.1), .bv r.2]) := by
  refine FunP_intro ok25 rfl rfl fun w0 H0 => ?_
  rw [m_narthexref12_Side] at h
  refine V_go 11 ?_; dsimp only [e25, e25_L0, go_sem, Nat.reduceBEq, Nat.reduceAdd]; refine ⟨by simp, ?_⟩; refine V_join (fun (_ : Unit) => (⟨(an 4 (.ptr 1 0 :: an 23 [])), [none, some ⟨49, [.iv 0, .iv 0, .iv 0, .ff, .ff, .ff, .ff, .ff]⟩], []⟩ : St)) m_narthexref12_Side_j1 r ?_ fun J1 => ?_
  ·rintro ⟨⟩ h; rw [m_narthexref12_Side_j1] at h; (try dsimp only); refine V_go 6 ?_; dsimp only [e25, e25_L0, go_sem, Nat.reduceBEq, Nat.reduceAdd]; refine ⟨by simp, ?_⟩; exact M_done (res := fun (r : (Side × Bool)) => .tup [.agg (Side.row r.1), .bv r.2]) ok25 h
  ·refine V_go 1 ?_; dsimp only [e25, e25_L0, go_sem, Nat.reduceBEq, Nat.reduceAdd]; refine ⟨by simp, ?_⟩; refine M_loop h (fun (x6 : Int) => (⟨(.any :: .iv x2 :: .ptr 0 0 :: .any :: .ptr 1 0 :: .any :: .iv x6 :: an 21 []), [some ⟨39, [.iv x1.ID, .iv x1.Phase, .sl 8 (List.map Side.row x1.Sides)]⟩, some ⟨49, [.iv 0, .iv 0, .iv 0, .ff, .ff, .ff, .ff, .ff]⟩], []⟩ : St)) (by simp [go_sem]) (by intro x6; first | rfl | simp [go_sem]) ?_; rintro n1 x6 y1 h hin1 hout1; rw [m_narthexref12_Side_l1] at h; (try dsimp only); refine V_go 9 ?_; dsimp only [e25, e25_L0, go_sem, Nat.reduceBEq, Nat.reduceAdd]
   refine ⟨by simp, ?_⟩; refine M_ite h rfl (fun _ h => ?_) fun _ h => ?_
   ·refine V_go 8 ?_; dsimp only [e25, e25_L0, go_sem, Nat.reduceBEq, Nat.reduceAdd]; refine ⟨by simp, ?_⟩; obtain ⟨x7, ex7, h⟩ := Option.bind_eq_some_iff.1 h; refine V_idxM Side.row ex7 trivial rfl rfl rfl ?_; refine V_go 5 ?_; dsimp only [e25, e25_L0, go_sem, Nat.reduceBEq, Nat.reduceAdd]; refine ⟨by simp, ?_⟩; refine M_ite h rfl (fun _ h => ?_) fun _ h => ?_
    ·refine V_go 5 ?_; dsimp only [e25, e25_L0, go_sem, Nat.reduceBEq, Nat.reduceAdd]; refine ⟨by simp, ?_⟩; obtain ⟨x8, ex8, h⟩ := Option.bind_eq_some_iff.1 h; refine V_idxM Side.row ex8 trivial rfl rfl rfl ?_; refine V_go 4 ?_; dsimp only [e25, e25_L0, go_sem, Nat.reduceBEq, Nat.reduceAdd]; refine ⟨by simp, ?_⟩; exact M_done (res := fun (r : (Side × Bool)) => .tup [.agg (Side.row r.1), .bv r.2]) ok25 (M_out h hout1)
    ·refine V_go 7 ?_; dsimp only [e25, e25_L0, go_sem, Nat.reduceBEq, Nat.reduceAdd]; refine ⟨by simp, ?_⟩; exact M_back h hin1
   ·refine V_go 1 ?_; dsimp only [e25, e25_L0, go_sem, Nat.reduceBEq, Nat.reduceAdd]; refine ⟨by simp, ?_⟩; exact M_to J1 (s := ()) (M_out h hout1)
end NX
end Go.Proofs.Ytadebhbiglmodaa
/-
  The function narthex/narthexref12.Graph: its code compiled, a model, and that the code answers as the model. Written by a program of ours (lb.py). No statement of the seat is proved here.
-/
namespace Go.Proofs.Ytadebhbiglmodaa
namespace NX
open Go
set_option maxRecDepth 100000
set_option maxHeartbeats 4000000
def e23_L1 : EC := .seq (.seq (.reg [⟨(some 28), none, .mv (.t 7)⟩, ⟨(some 29), none, .mv (.t 0)⟩, ⟨(some 30), none, .mv (.t 5)⟩, ⟨(some 31), none, .idx 3 (.t 29) (.t 30)⟩, ⟨(some 32), none, .fld 2 (.t 31)⟩, ⟨(some 33), none, .load (.t 32)⟩, ⟨(some 34), none, .len (.t 33)⟩, ⟨(some 35), none, .bin .lss (.t 28) (.t 34)⟩]) (.ite (.t 35) (.skip) (.exit 2))) (.seq (.blk 3 (.seq (.reg [⟨(some 38), none, .mv (.t 0)⟩, ⟨(some 39), none, .mv (.t 5)⟩, ⟨(some 40), none, .idx 3 (.t 38) (.t 39)⟩, ⟨(some 41), none, .fld 2 (.t 40)⟩, ⟨(some 42), none, .load (.t 41)⟩, ⟨(some 43), none, .mv (.t 7)⟩, ⟨(some 44), none, .idx 8 (.t 42) (.t 43)⟩, ⟨(some 45), none, .fld 0 (.t 44)⟩, ⟨(some 46), none, .load (.t 45)⟩, ⟨(some 8), none, .mv (.t 46)⟩]) (.seq (.seq (.reg [⟨(some 47), none, .mv (.t 8)⟩, ⟨(some 48), none, .mv (.t 6)⟩, ⟨(some 49), none, .bin .leq (.t 47) (.t 48)⟩, ⟨(some 50), none, .mv (.t 49)⟩, ⟨(some 51), (some (50, false)), .mv (.t 8)⟩, ⟨(some 52), (some (50, false)), .mv (.t 0)⟩, ⟨(some 53), (some (50, false)), .len (.t 52)⟩, ⟨(some 54), (some (50, false)), .bin .geq (.t 51) (.t 53)⟩, ⟨(some 55), none, .pick (.t 50) (.c .tt) (.t 54)⟩, ⟨(some 56), none, .mv (.t 55)⟩, ⟨(some 57), (some (56, false)), .mv (.t 8)⟩, ⟨(some 58), (some (56, false)), .mv (.t 5)⟩, ⟨(some 59), (some (56, false)), .bin .eql (.t 57) (.t 58)⟩, ⟨(some 60), none, .pick (.t 56) (.c .tt) (.t 59)⟩]) (.ite (.t 60) (.seq (.reg [⟨(some 61), none, .build [.iv 0, .nl] []⟩, ⟨none, none, .store 2 (.t 2) (.t 61)⟩, ⟨(some 3), none, .mv (.c .ff)⟩]) (.ret)) (.skip))) (.seq (.reg [⟨(some 63), none, .mv (.t 0)⟩, ⟨(some 64), none, .mv (.t 8)⟩, ⟨(some 65), none, .idx 3 (.t 63) (.t 64)⟩, ⟨(some 66), none, .loadA 3 (.t 65)⟩, ⟨(some 67), none, .mv (.t 5)⟩, ⟨(some 68), none, .call 25 [(.t 66), (.t 67)]⟩, ⟨(some 62), none, .mv (.t 68)⟩, ⟨(some 69), none, .ext (.t 62) 0⟩, ⟨(some 70), none, .ext (.t 62) 1⟩, ⟨(some 9), none, .alloc 49 [.iv 0, .iv 0, .iv 0, .ff, .ff, .ff, .ff, .ff]⟩, ⟨none, none, .store 8 (.t 9) (.t 69)⟩, ⟨(some 10), none, .mv (.t 70)⟩]) (.seq (.seq (.reg [⟨(some 71), none, .mv (.t 10)⟩, ⟨(some 72), none, .not (.t 71)⟩]) (.ite (.t 72) (.seq (.reg [⟨(some 73), none, .build [.iv 0, .nl] []⟩, ⟨none, none, .store 2 (.t 2) (.t 73)⟩, ⟨(some 3), none, .mv (.c .ff)⟩]) (.ret)) (.skip))) (.seq (.reg [⟨(some 74), none, .mv (.t 8)⟩, ⟨(some 6), none, .mv (.t 74)⟩]) (.seq (.reg [⟨(some 75), none, .mv (.t 8)⟩, ⟨(some 76), none, .mv (.t 5)⟩, ⟨(some 77), none, .bin .gtr (.t 75) (.t 76)⟩]) (.ite (.t 77) (.reg [⟨(some 78), none, .fld 1 (.t 4)⟩, ⟨(some 79), none, .load (.t 78)⟩, ⟨(some 80), none, .mv (.t 5)⟩, ⟨(some 81), none, .mv (.t 8)⟩, ⟨(some 82), none, .build [.iv 0, .iv 0] [(0, 1, (.t 80)), (1, 1, (.t 81))]⟩, ⟨(some 83), none, .bsl 58 2 1 [.iv 0, .iv 0] [(0, (.t 82))]⟩, ⟨(some 84), none, .app 58 2 16 (.t 79) (.t 83)⟩, ⟨(some 85), none, .fld 1 (.t 4)⟩, ⟨none, none, .store 1 (.t 85) (.t 84)⟩]) (.skip))))))))) (.reg [⟨(some 36), none, .mv (.t 7)⟩, ⟨(some 37), none, .bin .add (.t 36) (.c (.iv 1))⟩, ⟨(some 7), none, .mv (.t 37)⟩]))
def e23_L0 : EC := .seq (.seq (.reg [⟨(some 14), none, .mv (.t 5)⟩, ⟨(some 15), none, .mv (.t 0)⟩, ⟨(some 16), none, .len (.t 15)⟩, ⟨(some 17), none, .bin .lss (.t 14) (.t 16)⟩]) (.ite (.t 17) (.skip) (.exit 0))) (.seq (.blk 1 (.seq (.seq (.reg [⟨(some 20), none, .mv (.t 0)⟩, ⟨(some 21), none, .mv (.t 5)⟩, ⟨(some 22), none, .idx 3 (.t 20) (.t 21)⟩, ⟨(some 23), none, .fld 0 (.t 22)⟩, ⟨(some 24), none, .load (.t 23)⟩, ⟨(some 25), none, .mv (.t 5)⟩, ⟨(some 26), none, .bin .neq (.t 24) (.t 25)⟩]) (.ite (.t 26) (.seq (.reg [⟨(some 27), none, .build [.iv 0, .nl] []⟩, ⟨none, none, .store 2 (.t 2) (.t 27)⟩, ⟨(some 3), none, .mv (.c .ff)⟩]) (.ret)) (.skip))) (.seq (.reg [⟨(some 6), none, .mv (.c (.iv (-1)))⟩]) (.seq (.reg [⟨(some 7), none, .mv (.c (.iv 0))⟩]) (.blk 2 (.loop e23_L1)))))) (.reg [⟨(some 18), none, .mv (.t 5)⟩, ⟨(some 19), none, .bin .add (.t 18) (.c (.iv 1))⟩, ⟨(some 5), none, .mv (.t 19)⟩]))
def e23 : EC := .seq (.reg [⟨(some 2), none, .alloc 24 [.iv 0, .nl]⟩, ⟨(some 3), none, .mv (.c .ff)⟩]) (.seq (.reg [⟨(some 11), none, .mv (.t 0)⟩, ⟨(some 12), none, .len (.t 11)⟩, ⟨(some 13), none, .build [.iv 0, .nl] [(0, 1, (.t 12))]⟩, ⟨(some 4), none, .alloc 24 [.iv 0, .nl]⟩, ⟨none, none, .store 2 (.t 4) (.t 13)⟩]) (.seq (.seq (.reg [⟨(some 5), none, .mv (.c (.iv 0))⟩]) (.blk 0 (.loop e23_L0))) (.seq (.seq (.reg [⟨(some 86), none, .loadA 2 (.t 4)⟩, ⟨(some 87), none, .call 16 [(.t 86)]⟩, ⟨(some 88), none, .not (.t 87)⟩]) (.ite (.t 88) (.seq (.reg [⟨(some 89), none, .build [.iv 0, .nl] []⟩, ⟨none, none, .store 2 (.t 2) (.t 89)⟩, ⟨(some 3), none, .mv (.c .ff)⟩]) (.ret)) (.skip))) (.seq (.reg [⟨(some 90), none, .loadA 2 (.t 4)⟩, ⟨none, none, .store 2 (.t 2) (.t 90)⟩, ⟨(some 3), none, .mv (.c .tt)⟩]) (.ret)))))
theorem ok23 : FnOK Try.prog 23 Try.f23 e23 [.c 2 (some 2), .t 3] 1 90 := ⟨by kernel_rfl, ⟨_, rfl, by kernel_rfl⟩, by kernel_rfl, by kernel_rfl⟩
/- narthex/narthexref12.Graph -/
noncomputable def m_narthexref12_Graph_j1 (x1 : (List Diner)) : (List Edge) → Option (Graph × Bool)
| x77 =>
 (m_narthexref03_Check ((Graph.mk (ln Diner.row x1) x77))).bind fun x78 =>
 ifb (!x78) (
 some ((Graph.mk 0 (([] : (List Edge)))), false)) (
 some ((Graph.mk (ln Diner.row x1) x77), true))
noncomputable def m_narthexref12_Graph_j2 (x36 : Int) : (List Edge) → Option ((Int × (List Edge)) ⊕ (Graph × Bool))
| x70 =>
 some (.inl (wr (x36 + 1), x70))
noncomputable def m_narthexref12_Graph_j4 (x51 : Int) (x55 : Side) : (List Edge) → Option ((Int × Int × (List Edge)) ⊕ ((Int × (List Edge)) ⊕ (Graph × Bool)))
| x60 =>
 some (.inl (x55.Peer, wr (x51 + 1), x60))
noncomputable def m_narthexref12_Graph_j3 (x1 : (List Diner)) (x36 : Int) (x51 : Int) (x52 : (List Edge)) (x55 : Side) : Bool → Option ((Int × Int × (List Edge)) ⊕ ((Int × (List Edge)) ⊕ (Graph × Bool)))
| x56 =>
 ifb x56 (
 Option.map Sum.inr (Option.map Sum.inr (some ((Graph.mk 0 (([] : (List Edge)))), false)))) (
 (at_ x1 x55.Peer).bind fun x57 =>
 (m_narthexref12_Side x57 x36).bind fun x58 =>
 ifb (!x58.2) (
 Option.map Sum.inr (Option.map Sum.inr (some ((Graph.mk 0 (([] : (List Edge)))), false)))) (
 ifb (decide (x36 < x55.Peer)) (
 (app_ 16 x52 ([(Edge.mk x36 x55.Peer)])).bind fun x59 =>
 (m_narthexref12_Graph_j4 x51 x55) x59) (
 (m_narthexref12_Graph_j4 x51 x55) x52)))
noncomputable def m_narthexref12_Graph_l2 (x1 : (List Diner)) (x36 : Int) : (Int × Int × (List Edge)) → Option ((Int × Int × (List Edge)) ⊕ ((Int × (List Edge)) ⊕ (Graph × Bool)))
| (x50, x51, x52) =>
 (at_ x1 x36).bind fun x53 =>
 ifb (decide (x51 < (ln Side.row x53.Sides))) (
 (at_ x1 x36).bind fun x54 =>
 (at_ x54.Sides x51).bind fun x55 =>
 ifb (decide (x55.Peer ≤ x50)) (
 (m_narthexref12_Graph_j3 x1 x36 x51 x52 x55) true) (
 ifb (decide ((ln Diner.row x1) ≤ x55.Peer)) (
 (m_narthexref12_Graph_j3 x1 x36 x51 x52 x55) true) (
 (m_narthexref12_Graph_j3 x1 x36 x51 x52 x55) (decide (x55.Peer = x36))))) (
 Option.map Sum.inr ((m_narthexref12_Graph_j2 x36) x52))
noncomputable def m_narthexref12_Graph_l1 (x1 : (List Diner)) : (Int × (List Edge)) → Option ((Int × (List Edge)) ⊕ (Graph × Bool))
| (x36, x37) =>
 ifb (decide (x36 < (ln Diner.row x1))) (
 (at_ x1 x36).bind fun x38 =>
 ifb (!decide (x38.ID = x36)) (
 Option.map Sum.inr (some ((Graph.mk 0 (([] : (List Edge)))), false))) (
 loop (m_narthexref12_Graph_l2 x1 x36) ((-1), 0, x37))) (
 Option.map Sum.inr ((m_narthexref12_Graph_j1 x1) x37))
noncomputable def m_narthexref12_Graph (x1 : (List Diner)) : Option (Graph × Bool) :=
 loop (m_narthexref12_Graph_l1 x1) (0, ([] : List Edge))
theorem k_narthexref12_Graph (x1 : (List Diner)) (r : (Graph × Bool)) (h : m_narthexref12_Graph x1 = some r) : FunP Try.prog 23 [.sl 3 (List.map Diner.row x1)] (.tup [.agg (Graph.row r.1), .bv r.2]) := by
  refine FunP_intro ok23 rfl rfl fun w0 H0 => ?_
  rw [m_narthexref12_Graph] at h
  refine V_go 18 ?_; dsimp only [e23, e23_L0, e23_L1, go_sem, Nat.reduceBEq, Nat.reduceAdd]; refine ⟨by simp, ?_⟩; refine V_join (fun (x77 : (List Edge)) => (⟨(.any :: .any :: .ptr 0 0 :: .any :: .ptr 1 0 :: an 86 []), [some ⟨24, [.iv 0, .nl]⟩, some ⟨24, [.iv (ln Diner.row x1), .osl 0]⟩], [some ⟨58, 2, List.map Edge.row x77⟩]⟩ : St)) (m_narthexref12_Graph_j1 x1) r ?_ fun J1 => ?_
  ·intro x77 h; rw [m_narthexref12_Graph_j1] at h; (try dsimp only); refine V_go 4 ?_; dsimp only [e23, e23_L0, e23_L1, go_sem, Nat.reduceBEq, Nat.reduceAdd]; refine ⟨by simp, ?_⟩; obtain ⟨x78, ex78, h⟩ := Option.bind_eq_some_iff.1 h; refine V_callL trivial ((Lend.refl _).slice 0 rfl) (k_narthexref03_Check ((Graph.mk (ln Diner.row x1) x77)) _ ex78) (h := ?_); refine V_go 2 ?_; dsimp only [e23, e23_L0, e23_L1, go_sem, Nat.reduceBEq, Nat.reduceAdd]; refine ⟨by simp, ?_⟩; refine M_ite h rfl (fun _ h => ?_) fun _ h => ?_
   ·refine V_go 6 ?_; dsimp only [e23, e23_L0, e23_L1, go_sem, Nat.reduceBEq, Nat.reduceAdd]; refine ⟨by simp, ?_⟩; exact M_done (res := fun (r : (Graph × Bool)) => .tup [.agg (Graph.row r.1), .bv r.2]) ok23 h
   ·refine V_go 7 ?_; dsimp only [e23, e23_L0, e23_L1, go_sem, Nat.reduceBEq, Nat.reduceAdd]; refine ⟨by simp, ?_⟩; refine V_seal 0 rfl ?_; dsimp only [go_sem, Nat.reduceBEq, Nat.reduceAdd]; exact M_done (res := fun (r : (Graph × Bool)) => .tup [.agg (Graph.row r.1), .bv r.2]) ok23 h
  ·refine V_go 1 ?_; dsimp only [e23, e23_L0, e23_L1, go_sem, Nat.reduceBEq, Nat.reduceAdd]; refine ⟨by simp, ?_⟩; refine V_ownB 1 1 58 2 rfl rfl rfl ?_; dsimp only [go_sem, Nat.reduceBEq, Nat.reduceAdd]; refine M_loop h (fun ((x36, x37) : (Int × (List Edge))) => (⟨(.sl 3 (List.map Diner.row x1) :: .any :: .ptr 0 0 :: .any :: .ptr 1 0 :: .iv x36 :: an 85 []), [some ⟨24, [.iv 0, .nl]⟩, some ⟨24, [.iv (ln Diner.row x1), .osl 0]⟩], [some ⟨58, 2, List.map Edge.row x37⟩]⟩ : St)) (by simp [go_sem]) (by rintro ⟨x36, x37⟩; first | rfl | simp [go_sem]) ?_; rintro n1 ⟨x36, x37⟩ y1 h hin1 hout1
   rw [m_narthexref12_Graph_l1] at h; (try dsimp only); refine V_go 8 ?_; dsimp only [e23, e23_L0, e23_L1, go_sem, Nat.reduceBEq, Nat.reduceAdd]; refine ⟨by simp, ?_⟩; refine M_ite h rfl (fun _ h => ?_) fun _ h => ?_
   ·refine V_go 8 ?_; dsimp only [e23, e23_L0, e23_L1, go_sem, Nat.reduceBEq, Nat.reduceAdd]; refine ⟨by simp, ?_⟩; obtain ⟨x38, ex38, h⟩ := Option.bind_eq_some_iff.1 h; refine V_idxM Diner.row ex38 trivial rfl rfl rfl ?_; refine V_go 5 ?_; dsimp only [e23, e23_L0, e23_L1, go_sem, Nat.reduceBEq, Nat.reduceAdd]; refine ⟨by simp, ?_⟩; refine M_ite h rfl (fun _ h => ?_) fun _ h => ?_
    ·refine V_go 6 ?_; dsimp only [e23, e23_L0, e23_L1, go_sem, Nat.reduceBEq, Nat.reduceAdd]; refine ⟨by simp, ?_⟩; exact M_done (res := fun (r : (Graph × Bool)) => .tup [.agg (Graph.row r.1), .bv r.2]) ok23 (M_out h hout1)
    ·refine V_go 9 ?_; dsimp only [e23, e23_L0, e23_L1, go_sem, Nat.reduceBEq, Nat.reduceAdd]; refine ⟨by simp, ?_⟩; refine V_join (fun (x70 : (List Edge)) => (⟨(.sl 3 (List.map Diner.row x1) :: .any :: .ptr 0 0 :: .any :: .ptr 1 0 :: .iv x36 :: an 85 []), [some ⟨24, [.iv 0, .nl]⟩, some ⟨24, [.iv (ln Diner.row x1), .osl 0]⟩], [some ⟨58, 2, List.map Edge.row x70⟩]⟩ : St)) (m_narthexref12_Graph_j2 x36) y1 ?_ fun J2 => ?_
     ·intro x70 h; rw [m_narthexref12_Graph_j2] at h; (try dsimp only); refine V_go 6 ?_; dsimp only [e23, e23_L0, e23_L1, go_sem, Nat.reduceBEq, Nat.reduceAdd]; refine ⟨by simp, ?_⟩; exact M_back h hin1
     ·refine V_go 1 ?_; dsimp only [e23, e23_L0, e23_L1, go_sem, Nat.reduceBEq, Nat.reduceAdd]; refine ⟨by simp, ?_⟩; refine M_loop h (fun ((x50, x51, x52) : (Int × Int × (List Edge))) => (⟨(.sl 3 (List.map Diner.row x1) :: .any :: .ptr 0 0 :: .any :: .ptr 1 0 :: .iv x36 :: .iv x50 :: .iv x51 :: an 83 []), [some ⟨24, [.iv 0, .nl]⟩, some ⟨24, [.iv (ln Diner.row x1), .osl 0]⟩], [some ⟨58, 2, List.map Edge.row x52⟩]⟩ : St)) (by simp [go_sem]) (by rintro ⟨x50, x51, x52⟩; first | rfl | simp [go_sem]) ?_; rintro n2 ⟨x50, x51, x52⟩ y2 h hin2 hout2; rw [m_narthexref12_Graph_l2] at h; (try dsimp only)
      refine V_go 6 ?_; dsimp only [e23, e23_L0, e23_L1, go_sem, Nat.reduceBEq, Nat.reduceAdd]; refine ⟨by simp, ?_⟩; obtain ⟨x53, ex53, h⟩ := Option.bind_eq_some_iff.1 h; refine V_idxM Diner.row ex53 trivial rfl rfl rfl ?_; refine V_go 5 ?_; dsimp only [e23, e23_L0, e23_L1, go_sem, Nat.reduceBEq, Nat.reduceAdd]; refine ⟨by simp, ?_⟩; refine M_ite h rfl (fun _ h => ?_) fun _ h => ?_
      ·refine V_go 7 ?_; dsimp only [e23, e23_L0, e23_L1, go_sem, Nat.reduceBEq, Nat.reduceAdd]; refine ⟨by simp, ?_⟩; obtain ⟨x54, ex54, h⟩ := Option.bind_eq_some_iff.1 h; refine V_idxM Diner.row ex54 trivial rfl rfl rfl ?_; refine V_go 3 ?_; dsimp only [e23, e23_L0, e23_L1, go_sem, Nat.reduceBEq, Nat.reduceAdd]; refine ⟨by simp, ?_⟩; obtain ⟨x55, ex55, h⟩ := Option.bind_eq_some_iff.1 h; refine V_idxM Side.row ex55 trivial rfl rfl rfl ?_; refine V_go 11 ?_; dsimp only [e23, e23_L0, e23_L1, go_sem, Nat.reduceBEq, Nat.reduceAdd]; refine ⟨by simp, ?_⟩
       refine V_join (fun (x56 : Bool) => (⟨(.sl 3 (List.map Diner.row x1) :: .any :: .ptr 0 0 :: .any :: .ptr 1 0 :: .iv x36 :: .any :: .iv x51 :: .iv x55.Peer :: an 51 (.bv x56 :: an 30 [])), [some ⟨24, [.iv 0, .nl]⟩, some ⟨24, [.iv (ln Diner.row x1), .osl 0]⟩], [some ⟨58, 2, List.map Edge.row x52⟩]⟩ : St)) (m_narthexref12_Graph_j3 x1 x36 x51 x52 x55) y2 ?_ fun J3 => ?_
       ·intro x56 h; rw [m_narthexref12_Graph_j3] at h; (try dsimp only); refine M_ite h rfl (fun _ h => ?_) fun _ h => ?_
        ·refine V_go 6 ?_; dsimp only [e23, e23_L0, e23_L1, go_sem, Nat.reduceBEq, Nat.reduceAdd]; refine ⟨by simp, ?_⟩; exact M_done (res := fun (r : (Graph × Bool)) => .tup [.agg (Graph.row r.1), .bv r.2]) ok23 (M_out (M_out h hout2) hout1)
        ·refine V_go 5 ?_; dsimp only [e23, e23_L0, e23_L1, go_sem, Nat.reduceBEq, Nat.reduceAdd]; refine ⟨by simp, ?_⟩; obtain ⟨x57, ex57, h⟩ := Option.bind_eq_some_iff.1 h; refine V_idxM Diner.row ex57 trivial rfl rfl rfl ?_; refine V_go 2 ?_; dsimp only [e23, e23_L0, e23_L1, go_sem, Nat.reduceBEq, Nat.reduceAdd]; refine ⟨by simp, ?_⟩; obtain ⟨x58, ex58, h⟩ := Option.bind_eq_some_iff.1 h; refine V_call trivial (k_narthexref12_Side x57 x36 _ ex58) (h := ?_); refine V_go 13 ?_; dsimp only [e23, e23_L0, e23_L1, go_sem, Nat.reduceBEq, Nat.reduceAdd]; refine ⟨by simp, ?_⟩
         refine M_ite h rfl (fun _ h => ?_) fun _ h => ?_
         ·refine V_go 6 ?_; dsimp only [e23, e23_L0, e23_L1, go_sem, Nat.reduceBEq, Nat.reduceAdd]; refine ⟨by simp, ?_⟩; exact M_done (res := fun (r : (Graph × Bool)) => .tup [.agg (Graph.row r.1), .bv r.2]) ok23 (M_out (M_out h hout2) hout1)
         ·refine V_go 12 ?_; dsimp only [e23, e23_L0, e23_L1, go_sem, Nat.reduceBEq, Nat.reduceAdd]; refine ⟨by simp, ?_⟩; refine V_join (fun (x60 : (List Edge)) => (⟨(.sl 3 (List.map Diner.row x1) :: .any :: .ptr 0 0 :: .any :: .ptr 1 0 :: .iv x36 :: .iv x55.Peer :: .iv x51 :: an 83 []), [some ⟨24, [.iv 0, .nl]⟩, some ⟨24, [.iv (ln Diner.row x1), .osl 0]⟩], [some ⟨58, 2, List.map Edge.row x60⟩]⟩ : St)) (m_narthexref12_Graph_j4 x51 x55) y2 ?_ fun J4 => ?_
          ·intro x60 h; rw [m_narthexref12_Graph_j4] at h; (try dsimp only); refine V_go 6 ?_; dsimp only [e23, e23_L0, e23_L1, go_sem, Nat.reduceBEq, Nat.reduceAdd]; refine ⟨by simp, ?_⟩; exact M_back h hin2
          ·refine M_ite h rfl (fun _ h => ?_) fun _ h => ?_
           ·refine V_go 7 ?_; dsimp only [e23, e23_L0, e23_L1, go_sem, Nat.reduceBEq, Nat.reduceAdd]; refine ⟨by simp, ?_⟩; obtain ⟨x59, ex59, h⟩ := Option.bind_eq_some_iff.1 h; refine V_appM Edge.row ex59 trivial rfl rfl rfl ?_; refine V_go 3 ?_; dsimp only [e23, e23_L0, e23_L1, go_sem, Nat.reduceBEq, Nat.reduceAdd]; refine ⟨by simp, ?_⟩; refine V_ren 2 0 rfl rfl rfl ?_; dsimp only [go_sem, Nat.reduceBEq, Nat.reduceAdd]; exact M_to J4 (s := x59) h
           ·refine V_go 1 ?_; dsimp only [e23, e23_L0, e23_L1, go_sem, Nat.reduceBEq, Nat.reduceAdd]; refine ⟨by simp, ?_⟩; exact M_to J4 (s := x52) h
       ·refine M_case 50 h rfl (fun _ h => ?_) fun _ h => ?_
        ·dsimp only [go_sem, Nat.reduceBEq, Nat.reduceAdd]; refine V_go 11 ?_; dsimp only [e23, e23_L0, e23_L1, go_sem, Nat.reduceBEq, Nat.reduceAdd]; refine ⟨by simp, ?_⟩; exact M_to J3 (s := true) h
        ·dsimp only [go_sem, Nat.reduceBEq, Nat.reduceAdd]; refine V_go 6 ?_; dsimp only [e23, e23_L0, e23_L1, go_sem, Nat.reduceBEq, Nat.reduceAdd]; refine ⟨by simp, ?_⟩; refine M_case 56 h rfl (fun _ h => ?_) fun _ h => ?_
         ·dsimp only [go_sem, Nat.reduceBEq, Nat.reduceAdd]; refine V_go 5 ?_; dsimp only [e23, e23_L0, e23_L1, go_sem, Nat.reduceBEq, Nat.reduceAdd]; refine ⟨by simp, ?_⟩; exact M_to J3 (s := true) h
         ·dsimp only [go_sem, Nat.reduceBEq, Nat.reduceAdd]; refine V_go 5 ?_; dsimp only [e23, e23_L0, e23_L1, go_sem, Nat.reduceBEq, Nat.reduceAdd]; refine ⟨by simp, ?_⟩; exact M_to J3 (s := decide (x55.Peer = x36)) h
      ·refine V_go 1 ?_; dsimp only [e23, e23_L0, e23_L1, go_sem, Nat.reduceBEq, Nat.reduceAdd]; refine ⟨by simp, ?_⟩; exact M_to J2 (s := x52) (M_out h hout2)
   ·refine V_go 1 ?_; dsimp only [e23, e23_L0, e23_L1, go_sem, Nat.reduceBEq, Nat.reduceAdd]; refine ⟨by simp, ?_⟩; exact M_to J1 (s := x37) (M_out h hout1)
end NX
end Go.Proofs.Ytadebhbiglmodaa
/-
  The function narthex/narthexlaw12.PlaceTells: its code compiled, a model, and that the code answers as the model. Written by a program of ours (lb.py). No statement of the seat is proved here.
-/
namespace Go.Proofs.Ytadebhbiglmodaa
namespace NX
open Go
set_option maxRecDepth 100000
set_option maxHeartbeats 4000000
def e4 : EC := .seq (.reg [⟨(some 6), none, .box 39 3 (.t 2)⟩, ⟨(some 8), none, .mv (.c .ff)⟩]) (.seq (.seq (.reg [⟨(some 17), none, .call 13 []⟩, ⟨(some 18), none, .not (.t 17)⟩, ⟨(some 19), none, .mv (.t 18)⟩, ⟨(some 20), (some (19, false)), .mv (.t 0)⟩, ⟨(some 21), (some (19, false)), .build [.nl, .nl] [(0, 1, (.t 20))]⟩, ⟨(some 22), (some (19, false)), .call 20 [(.t 21)]⟩, ⟨(some 23), (some (19, false)), .not (.t 22)⟩, ⟨(some 24), none, .pick (.t 19) (.c .tt) (.t 23)⟩, ⟨(some 25), none, .mv (.t 24)⟩, ⟨(some 26), (some (25, false)), .mv (.t 1)⟩, ⟨(some 27), (some (25, false)), .build [.nl, .nl] [(0, 1, (.t 26))]⟩, ⟨(some 28), (some (25, false)), .call 20 [(.t 27)]⟩, ⟨(some 29), (some (25, false)), .not (.t 28)⟩, ⟨(some 30), none, .pick (.t 25) (.c .tt) (.t 29)⟩, ⟨(some 31), none, .mv (.t 30)⟩, ⟨(some 32), (some (31, false)), .fld 2 (.t 6)⟩, ⟨(some 33), (some (31, false)), .load (.t 32)⟩, ⟨(some 34), (some (31, false)), .len (.t 33)⟩, ⟨(some 35), (some (31, false)), .bin .gtr (.t 34) (.c (.iv 24))⟩, ⟨(some 36), none, .pick (.t 31) (.c .tt) (.t 35)⟩]) (.ite (.t 36) (.seq (.reg [⟨(some 37), none, .call 13 []⟩, ⟨(some 8), none, .mv (.t 37)⟩]) (.ret)) (.skip))) (.seq (.reg [⟨(some 39), none, .mv (.t 0)⟩, ⟨(some 40), none, .call 22 [(.t 39)]⟩, ⟨(some 41), none, .call 21 [(.t 40)]⟩, ⟨(some 38), none, .mv (.t 41)⟩, ⟨(some 42), none, .ext (.t 38) 0⟩, ⟨(some 43), none, .ext (.t 38) 1⟩, ⟨(some 9), none, .alloc 24 [.iv 0, .nl]⟩, ⟨none, none, .store 2 (.t 9) (.t 42)⟩, ⟨(some 10), none, .mv (.t 43)⟩]) (.seq (.reg [⟨(some 45), none, .mv (.t 0)⟩, ⟨(some 46), none, .call 23 [(.t 45)]⟩, ⟨(some 44), none, .mv (.t 46)⟩, ⟨(some 47), none, .ext (.t 44) 0⟩, ⟨(some 48), none, .ext (.t 44) 1⟩, ⟨(some 11), none, .alloc 24 [.iv 0, .nl]⟩, ⟨none, none, .store 2 (.t 11) (.t 47)⟩, ⟨(some 12), none, .mv (.t 48)⟩]) (.seq (.reg [⟨(some 50), none, .loadA 3 (.t 6)⟩, ⟨(some 51), none, .mv (.t 3)⟩, ⟨(some 52), none, .call 24 [(.t 50), (.t 51)]⟩, ⟨(some 49), none, .mv (.t 52)⟩, ⟨(some 53), none, .ext (.t 49) 0⟩, ⟨(some 54), none, .ext (.t 49) 1⟩, ⟨(some 13), none, .alloc 49 [.iv 0, .iv 0, .iv 0, .ff, .ff, .ff, .ff, .ff]⟩, ⟨none, none, .store 8 (.t 13) (.t 53)⟩, ⟨(some 14), none, .mv (.t 54)⟩]) (.seq (.reg [⟨(some 56), none, .loadA 3 (.t 6)⟩, ⟨(some 57), none, .mv (.t 3)⟩, ⟨(some 58), none, .call 25 [(.t 56), (.t 57)]⟩, ⟨(some 55), none, .mv (.t 58)⟩, ⟨(some 59), none, .ext (.t 55) 0⟩, ⟨(some 60), none, .ext (.t 55) 1⟩, ⟨(some 15), none, .alloc 49 [.iv 0, .iv 0, .iv 0, .ff, .ff, .ff, .ff, .ff]⟩, ⟨none, none, .store 8 (.t 15) (.t 59)⟩, ⟨(some 16), none, .mv (.t 60)⟩]) (.seq (.reg [⟨(some 61), none, .loadA 2 (.t 9)⟩, ⟨(some 62), none, .loadA 2 (.t 11)⟩, ⟨(some 63), none, .call 26 [(.t 61), (.t 62)]⟩, ⟨(some 64), none, .mv (.t 63)⟩, ⟨(some 65), (some (64, true)), .mv (.t 10)⟩, ⟨(some 66), (some (64, true)), .mv (.t 12)⟩, ⟨(some 67), (some (64, true)), .bq false (.t 65) (.t 66)⟩, ⟨(some 68), none, .pick (.t 64) (.t 67) (.c .ff)⟩, ⟨(some 69), none, .mv (.t 68)⟩, ⟨(some 70), (some (69, true)), .loadA 8 (.t 13)⟩, ⟨(some 71), (some (69, true)), .loadA 8 (.t 15)⟩, ⟨(some 72), (some (69, true)), .eqs false [true, true, true, false, false, false, false, false] (.t 70) (.t 71)⟩, ⟨(some 73), none, .pick (.t 69) (.t 72) (.c .ff)⟩, ⟨(some 74), none, .mv (.t 73)⟩, ⟨(some 75), (some (74, true)), .mv (.t 14)⟩, ⟨(some 76), (some (74, true)), .mv (.t 16)⟩, ⟨(some 77), (some (74, true)), .bq false (.t 75) (.t 76)⟩, ⟨(some 78), none, .pick (.t 74) (.t 77) (.c .ff)⟩, ⟨(some 79), none, .mv (.t 78)⟩, ⟨(some 80), (some (79, true)), .mv (.t 0)⟩, ⟨(some 81), (some (79, true)), .call 22 [(.t 80)]⟩, ⟨(some 82), (some (79, true)), .mv (.t 1)⟩, ⟨(some 83), (some (79, true)), .call 22 [(.t 82)]⟩, ⟨(some 84), (some (79, true)), .call 27 [(.t 81), (.t 83)]⟩, ⟨(some 85), (some (79, true)), .mv (.t 0)⟩, ⟨(some 86), (some (79, true)), .mv (.t 1)⟩, ⟨(some 87), (some (79, true)), .call 18 [(.t 85), (.t 86)]⟩, ⟨(some 88), (some (79, true)), .bq false (.t 84) (.t 87)⟩, ⟨(some 89), none, .pick (.t 79) (.t 88) (.c .ff)⟩, ⟨(some 8), none, .mv (.t 89)⟩]) (.ret)))))))
theorem ok4 : FnOK Try.prog 4 Try.f4 e4 [.t 8] 4 86 := ⟨by kernel_rfl, ⟨_, rfl, by kernel_rfl⟩, by kernel_rfl, by kernel_rfl⟩
/- narthex/narthexlaw12.PlaceTells -/
noncomputable def m_narthexlaw12_PlaceTells_j2  : Bool → Option Bool
| x20 =>
 some x20
noncomputable def m_narthexlaw12_PlaceTells_j1 (x1 : (List Diner)) (x2 : (List Diner)) (x3 : Diner) (x4 : Int) : Bool → Option Bool
| x8 =>
 ifb x8 (
 (m_narthexlaw12_awake).bind fun x9 =>
 some x9) (
 (m_narthexlaw12_Own x1).bind fun x10 =>
 (m_place_Graph x10).bind fun x11 =>
 (m_narthexref12_Graph x1).bind fun x12 =>
 (m_place_Side x3 x4).bind fun x13 =>
 (m_narthexref12_Side x3 x4).bind fun x14 =>
 (m_narthexref03_Same x11.1 x12.1).bind fun x15 =>
 ifb x15 (
 ifb (x11.2 == x12.2) (
 ifb (decide (x13.1.Peer = x14.1.Peer) && (decide (x13.1.Epoch = x14.1.Epoch) && (decide (x13.1.State = x14.1.State) && ((x13.1.Fork == x14.1.Fork) && ((x13.1.Dirty == x14.1.Dirty) && ((x13.1.Token == x14.1.Token) && ((x13.1.Bottle == x14.1.Bottle) && ((x13.1.Ask == x14.1.Ask) && true)))))))) (
 ifb (x13.2 == x14.2) (
 (m_narthexlaw12_Own x1).bind fun x16 =>
 (m_narthexlaw12_Own x2).bind fun x17 =>
 (m_place_Same x16 x17).bind fun x18 =>
 (m_narthexref12_Same x1 x2).bind fun x19 =>
 m_narthexlaw12_PlaceTells_j2 (x18 == x19)) (
 m_narthexlaw12_PlaceTells_j2 false)) (
 m_narthexlaw12_PlaceTells_j2 false)) (
 m_narthexlaw12_PlaceTells_j2 false)) (
 m_narthexlaw12_PlaceTells_j2 false))
noncomputable def m_narthexlaw12_PlaceTells (x1 : (List Diner)) (x2 : (List Diner)) (x3 : Diner) (x4 : Int) : Option Bool :=
 (m_narthexlaw12_awake).bind fun x5 =>
 ifb (!x5) (
 (m_narthexlaw12_PlaceTells_j1 x1 x2 x3 x4) true) (
 (m_narthexref12_Few ((Scene.mk x1 (([] : (List Mail)))))).bind fun x6 =>
 ifb (!x6) (
 (m_narthexlaw12_PlaceTells_j1 x1 x2 x3 x4) true) (
 (m_narthexref12_Few ((Scene.mk x2 (([] : (List Mail)))))).bind fun x7 =>
 ifb (!x7) (
 (m_narthexlaw12_PlaceTells_j1 x1 x2 x3 x4) true) (
 (m_narthexlaw12_PlaceTells_j1 x1 x2 x3 x4) (decide (24 < (ln Side.row x3.Sides))))))
theorem k_narthexlaw12_PlaceTells (x1 : (List Diner)) (x2 : (List Diner)) (x3 : Diner) (x4 : Int) (r : Bool) (h : m_narthexlaw12_PlaceTells x1 x2 x3 x4 = some r) : FunP Try.prog 4 [.sl 3 (List.map Diner.row x1), .sl 3 (List.map Diner.row x2), .agg (Diner.row x3), .iv x4] (.bv r) := by
  refine FunP_intro ok4 rfl rfl fun w0 H0 => ?_
  rw [m_narthexlaw12_PlaceTells] at h
  refine V_go 8 ?_; dsimp only [e4, go_sem, Nat.reduceBEq, Nat.reduceAdd]; refine ⟨by simp, ?_⟩; obtain ⟨x5, ex5, h⟩ := Option.bind_eq_some_iff.1 h; refine V_call trivial (k_narthexlaw12_awake _ ex5) (h := ?_); refine V_go 2 ?_; dsimp only [e4, go_sem, Nat.reduceBEq, Nat.reduceAdd]; refine ⟨by simp, ?_⟩
  refine V_join (fun (x8 : Bool) => (⟨(.sl 3 (List.map Diner.row x1) :: .sl 3 (List.map Diner.row x2) :: .any :: .iv x4 :: .any :: .any :: .ptr 0 0 :: an 29 (.bv x8 :: an 53 [])), [some ⟨39, [.iv x3.ID, .iv x3.Phase, .sl 8 (List.map Side.row x3.Sides)]⟩], []⟩ : St)) (m_narthexlaw12_PlaceTells_j1 x1 x2 x3 x4) r ?_ fun J1 => ?_
  ·intro x8 h; rw [m_narthexlaw12_PlaceTells_j1] at h; (try dsimp only); refine M_ite h rfl (fun _ h => ?_) fun _ h => ?_
   ·refine V_go 2 ?_; dsimp only [e4, go_sem, Nat.reduceBEq, Nat.reduceAdd]; refine ⟨by simp, ?_⟩; obtain ⟨x9, ex9, h⟩ := Option.bind_eq_some_iff.1 h; refine V_call trivial (k_narthexlaw12_awake _ ex9) (h := ?_); refine V_go 2 ?_; dsimp only [e4, go_sem, Nat.reduceBEq, Nat.reduceAdd]; refine ⟨by simp, ?_⟩; exact M_done (res := fun (r : Bool) => .bv r) ok4 h
   ·refine V_go 4 ?_; dsimp only [e4, go_sem, Nat.reduceBEq, Nat.reduceAdd]; refine ⟨by simp, ?_⟩; obtain ⟨x10, ex10, h⟩ := Option.bind_eq_some_iff.1 h; refine V_call trivial (k_narthexlaw12_Own x1 _ ex10) (h := ?_); obtain ⟨x11, ex11, h⟩ := Option.bind_eq_some_iff.1 h; refine V_call trivial (k_place_Graph x10 _ ex11) (h := ?_); refine V_go 10 ?_; dsimp only [e4, go_sem, Nat.reduceBEq, Nat.reduceAdd]; refine ⟨by simp, ?_⟩; obtain ⟨x12, ex12, h⟩ := Option.bind_eq_some_iff.1 h; refine V_call trivial (k_narthexref12_Graph x1 _ ex12) (h := ?_); refine V_go 11 ?_
    dsimp only [e4, go_sem, Nat.reduceBEq, Nat.reduceAdd]; refine ⟨by simp, ?_⟩; obtain ⟨x13, ex13, h⟩ := Option.bind_eq_some_iff.1 h; refine V_call trivial (k_place_Side x3 x4 _ ex13) (h := ?_); refine V_go 11 ?_; dsimp only [e4, go_sem, Nat.reduceBEq, Nat.reduceAdd]; refine ⟨by simp, ?_⟩; obtain ⟨x14, ex14, h⟩ := Option.bind_eq_some_iff.1 h; refine V_call trivial (k_narthexref12_Side x3 x4 _ ex14) (h := ?_); refine V_go 11 ?_; dsimp only [e4, go_sem, Nat.reduceBEq, Nat.reduceAdd]; refine ⟨by simp, ?_⟩; obtain ⟨x15, ex15, h⟩ := Option.bind_eq_some_iff.1 h
    refine V_call trivial (k_narthexref03_Same x11.1 x12.1 _ ex15) (h := ?_); refine V_go 1 ?_; dsimp only [e4, go_sem, Nat.reduceBEq, Nat.reduceAdd]; refine ⟨by simp, ?_⟩; refine V_join (fun (x20 : Bool) => (⟨(an 8 (.bv x20 :: an 81 [])), [], []⟩ : St)) m_narthexlaw12_PlaceTells_j2 r ?_ fun J2 => ?_
    ·intro x20 h; rw [m_narthexlaw12_PlaceTells_j2] at h; (try dsimp only); exact M_done (res := fun (r : Bool) => .bv r) ok4 h
    ·refine M_case 64 h rfl (fun _ h => ?_) fun _ h => ?_
     ·dsimp only [go_sem, Nat.reduceBEq, Nat.reduceAdd]; refine V_go 5 ?_; dsimp only [e4, go_sem, Nat.reduceBEq, Nat.reduceAdd]; refine ⟨by simp, ?_⟩; refine M_case 69 h rfl (fun _ h => ?_) fun _ h => ?_
      ·dsimp only [go_sem, Nat.reduceBEq, Nat.reduceAdd]; refine V_go 5 ?_; dsimp only [e4, go_sem, Nat.reduceBEq, Nat.reduceAdd]; refine ⟨by simp, ?_⟩; refine M_case 74 h rfl (fun _ h => ?_) fun _ h => ?_
       ·dsimp only [go_sem, Nat.reduceBEq, Nat.reduceAdd]; refine V_go 5 ?_; dsimp only [e4, go_sem, Nat.reduceBEq, Nat.reduceAdd]; refine ⟨by simp, ?_⟩; refine M_case 79 h rfl (fun _ h => ?_) fun _ h => ?_
        ·dsimp only [go_sem, Nat.reduceBEq, Nat.reduceAdd]; refine V_go 1 ?_; dsimp only [e4, go_sem, Nat.reduceBEq, Nat.reduceAdd]; refine ⟨by simp, ?_⟩; obtain ⟨x16, ex16, h⟩ := Option.bind_eq_some_iff.1 h; refine V_call trivial (k_narthexlaw12_Own x1 _ ex16) (h := ?_); refine V_go 1 ?_; dsimp only [e4, go_sem, Nat.reduceBEq, Nat.reduceAdd]; refine ⟨by simp, ?_⟩; obtain ⟨x17, ex17, h⟩ := Option.bind_eq_some_iff.1 h; refine V_call trivial (k_narthexlaw12_Own x2 _ ex17) (h := ?_); obtain ⟨x18, ex18, h⟩ := Option.bind_eq_some_iff.1 h
         refine V_call trivial (k_place_Same x16 x17 _ ex18) (h := ?_); refine V_go 2 ?_; dsimp only [e4, go_sem, Nat.reduceBEq, Nat.reduceAdd]; refine ⟨by simp, ?_⟩; obtain ⟨x19, ex19, h⟩ := Option.bind_eq_some_iff.1 h; refine V_call trivial (k_narthexref12_Same x1 x2 _ ex19) (h := ?_); refine V_go 4 ?_; dsimp only [e4, go_sem, Nat.reduceBEq, Nat.reduceAdd]; refine ⟨by simp, ?_⟩; exact M_to J2 (s := x18 == x19) h
        ·dsimp only [go_sem, Nat.reduceBEq, Nat.reduceAdd]; refine V_go 12 ?_; dsimp only [e4, go_sem, Nat.reduceBEq, Nat.reduceAdd]; refine ⟨by simp, ?_⟩; exact M_to J2 (s := false) h
       ·dsimp only [go_sem, Nat.reduceBEq, Nat.reduceAdd]; refine V_go 17 ?_; dsimp only [e4, go_sem, Nat.reduceBEq, Nat.reduceAdd]; refine ⟨by simp, ?_⟩; exact M_to J2 (s := false) h
      ·dsimp only [go_sem, Nat.reduceBEq, Nat.reduceAdd]; refine V_go 22 ?_; dsimp only [e4, go_sem, Nat.reduceBEq, Nat.reduceAdd]; refine ⟨by simp, ?_⟩; exact M_to J2 (s := false) h
     ·dsimp only [go_sem, Nat.reduceBEq, Nat.reduceAdd]; refine V_go 27 ?_; dsimp only [e4, go_sem, Nat.reduceBEq, Nat.reduceAdd]; refine ⟨by simp, ?_⟩; exact M_to J2 (s := false) h
  ·refine M_case 19 h rfl (fun _ h => ?_) fun _ h => ?_
   ·dsimp only [go_sem, Nat.reduceBEq, Nat.reduceAdd]; refine V_go 18 ?_; dsimp only [e4, go_sem, Nat.reduceBEq, Nat.reduceAdd]; refine ⟨by simp, ?_⟩; exact M_to J1 (s := true) h
   ·dsimp only [go_sem, Nat.reduceBEq, Nat.reduceAdd]; refine V_go 2 ?_; dsimp only [e4, go_sem, Nat.reduceBEq, Nat.reduceAdd]; refine ⟨by simp, ?_⟩; obtain ⟨x6, ex6, h⟩ := Option.bind_eq_some_iff.1 h; refine V_call trivial (k_narthexref12_Few ((Scene.mk x1 (([] : (List Mail))))) _ ex6) (h := ?_); refine V_go 3 ?_; dsimp only [e4, go_sem, Nat.reduceBEq, Nat.reduceAdd]; refine ⟨by simp, ?_⟩; refine M_case 25 h rfl (fun _ h => ?_) fun _ h => ?_
    ·dsimp only [go_sem, Nat.reduceBEq, Nat.reduceAdd]; refine V_go 12 ?_; dsimp only [e4, go_sem, Nat.reduceBEq, Nat.reduceAdd]; refine ⟨by simp, ?_⟩; exact M_to J1 (s := true) h
    ·dsimp only [go_sem, Nat.reduceBEq, Nat.reduceAdd]; refine V_go 2 ?_; dsimp only [e4, go_sem, Nat.reduceBEq, Nat.reduceAdd]; refine ⟨by simp, ?_⟩; obtain ⟨x7, ex7, h⟩ := Option.bind_eq_some_iff.1 h; refine V_call trivial (k_narthexref12_Few ((Scene.mk x2 (([] : (List Mail))))) _ ex7) (h := ?_); refine V_go 3 ?_; dsimp only [e4, go_sem, Nat.reduceBEq, Nat.reduceAdd]; refine ⟨by simp, ?_⟩; refine M_case 31 h rfl (fun _ h => ?_) fun _ h => ?_
     ·dsimp only [go_sem, Nat.reduceBEq, Nat.reduceAdd]; refine V_go 6 ?_; dsimp only [e4, go_sem, Nat.reduceBEq, Nat.reduceAdd]; refine ⟨by simp, ?_⟩; exact M_to J1 (s := true) h
     ·dsimp only [go_sem, Nat.reduceBEq, Nat.reduceAdd]; refine V_go 6 ?_; dsimp only [e4, go_sem, Nat.reduceBEq, Nat.reduceAdd]; refine ⟨by simp, ?_⟩; exact M_to J1 (s := decide (24 < (ln Side.row x3.Sides))) h
end NX
end Go.Proofs.Ytadebhbiglmodaa
/-
  The function narthex/narthexref12.goes: its code compiled, a model, and that the code answers as the model. Written by a program of ours (lb.py). No statement of the seat is proved here.
-/
namespace Go.Proofs.Ytadebhbiglmodaa
namespace NX
open Go
set_option maxRecDepth 100000
set_option maxHeartbeats 4000000
def e63_L0 : EC := .seq (.seq (.reg [⟨(some 11), none, .mv (.t 9)⟩, ⟨(some 12), none, .mv (.t 0)⟩, ⟨(some 13), none, .len (.t 12)⟩, ⟨(some 14), none, .bin .lss (.t 11) (.t 13)⟩]) (.ite (.t 14) (.skip) (.exit 0))) (.seq (.blk 1 (.seq (.reg [⟨(some 17), none, .mv (.t 0)⟩, ⟨(some 18), none, .mv (.t 9)⟩, ⟨(some 19), none, .idx 5 (.t 17) (.t 18)⟩, ⟨(some 20), none, .loadA 5 (.t 19)⟩, ⟨(some 10), none, .alloc 97 [.iv 0, .iv 0, .iv 0, .iv 0, .iv 0]⟩, ⟨none, none, .store 5 (.t 10) (.t 20)⟩]) (.seq (.reg [⟨(some 21), none, .fld 0 (.t 10)⟩, ⟨(some 22), none, .load (.t 21)⟩, ⟨(some 23), none, .mv (.t 1)⟩, ⟨(some 24), none, .bin .eql (.t 22) (.t 23)⟩, ⟨(some 25), none, .mv (.t 24)⟩, ⟨(some 26), (some (25, true)), .fld 1 (.t 10)⟩, ⟨(some 27), (some (25, true)), .load (.t 26)⟩, ⟨(some 28), (some (25, true)), .mv (.t 2)⟩, ⟨(some 29), (some (25, true)), .bin .eql (.t 27) (.t 28)⟩, ⟨(some 30), none, .pick (.t 25) (.t 29) (.c .ff)⟩, ⟨(some 31), none, .mv (.t 30)⟩, ⟨(some 32), (some (31, true)), .fld 2 (.t 10)⟩, ⟨(some 33), (some (31, true)), .fld 0 (.t 32)⟩, ⟨(some 34), (some (31, true)), .load (.t 33)⟩, ⟨(some 35), (some (31, true)), .bin .eql (.t 34) (.c (.iv 1))⟩, ⟨(some 36), none, .pick (.t 31) (.t 35) (.c .ff)⟩, ⟨(some 37), none, .mv (.t 36)⟩, ⟨(some 38), (some (37, true)), .fld 2 (.t 10)⟩, ⟨(some 39), (some (37, true)), .fld 1 (.t 38)⟩, ⟨(some 40), (some (37, true)), .load (.t 39)⟩, ⟨(some 41), (some (37, true)), .mv (.t 3)⟩, ⟨(some 42), (some (37, true)), .bin .eql (.t 40) (.t 41)⟩, ⟨(some 43), none, .pick (.t 37) (.t 42) (.c .ff)⟩, ⟨(some 44), none, .mv (.t 43)⟩, ⟨(some 45), (some (44, true)), .fld 2 (.t 10)⟩, ⟨(some 46), (some (44, true)), .fld 2 (.t 45)⟩, ⟨(some 47), (some (44, true)), .load (.t 46)⟩, ⟨(some 48), (some (44, true)), .bin .eql (.t 47) (.c (.iv 0))⟩, ⟨(some 49), none, .pick (.t 44) (.t 48) (.c .ff)⟩]) (.ite (.t 49) (.seq (.reg [⟨(some 8), none, .mv (.c .tt)⟩]) (.ret)) (.skip))))) (.reg [⟨(some 15), none, .mv (.t 9)⟩, ⟨(some 16), none, .bin .add (.t 15) (.c (.iv 1))⟩, ⟨(some 9), none, .mv (.t 16)⟩]))
def e63 : EC := .seq (.reg [⟨(some 8), none, .mv (.c .ff)⟩]) (.seq (.seq (.reg [⟨(some 9), none, .mv (.c (.iv 0))⟩]) (.blk 0 (.loop e63_L0))) (.seq (.reg [⟨(some 8), none, .mv (.c .ff)⟩]) (.ret)))
theorem ok63 : FnOK Try.prog 63 Try.f63 e63 [.t 8] 4 46 := ⟨by kernel_rfl, ⟨_, rfl, by kernel_rfl⟩, by kernel_rfl, by kernel_rfl⟩
/- narthex/narthexref12.goes -/
noncomputable def m_narthexref12_goes_j1  : Unit → Option Bool
| () =>
 some false
noncomputable def m_narthexref12_goes_j2 (x8 : Int) : Bool → Option (Int ⊕ Bool)
| x10 =>
 ifb x10 (
 Option.map Sum.inr (some true)) (
 some (.inl (wr (x8 + 1))))
noncomputable def m_narthexref12_goes_l1 (x1 : (List Mail)) (x2 : Int) (x3 : Int) (x4 : Int) : Int → Option (Int ⊕ Bool)
| x8 =>
 ifb (decide (x8 < (ln Mail.row x1))) (
 (at_ x1 x8).bind fun x9 =>
 ifb (decide (x9.From = x2)) (
 ifb (decide (x9.To = x3)) (
 ifb (decide (x9.Msg.Kind = 1)) (
 ifb (decide (x9.Msg.Epoch = x4)) (
 (m_narthexref12_goes_j2 x8) (decide (x9.Msg.Num = 0))) (
 (m_narthexref12_goes_j2 x8) false)) (
 (m_narthexref12_goes_j2 x8) false)) (
 (m_narthexref12_goes_j2 x8) false)) (
 (m_narthexref12_goes_j2 x8) false)) (
 Option.map Sum.inr (m_narthexref12_goes_j1 ()))
noncomputable def m_narthexref12_goes (x1 : (List Mail)) (x2 : Int) (x3 : Int) (x4 : Int) : Option Bool :=
 loop (m_narthexref12_goes_l1 x1 x2 x3 x4) 0
theorem k_narthexref12_goes (x1 : (List Mail)) (x2 : Int) (x3 : Int) (x4 : Int) (r : Bool) (h : m_narthexref12_goes x1 x2 x3 x4 = some r) : FunP Try.prog 63 [.sl 5 (List.map Mail.row x1), .iv x2, .iv x3, .iv x4] (.bv r) := by
  refine FunP_intro ok63 rfl rfl fun w0 H0 => ?_
  rw [m_narthexref12_goes] at h
  refine V_go 9 ?_; dsimp only [e63, e63_L0, go_sem, Nat.reduceBEq, Nat.reduceAdd]; refine ⟨by simp, ?_⟩; refine V_join (fun (_ : Unit) => (⟨(an 50 []), [], []⟩ : St)) m_narthexref12_goes_j1 r ?_ fun J1 => ?_
  ·rintro ⟨⟩ h; rw [m_narthexref12_goes_j1] at h; (try dsimp only); refine V_go 4 ?_; dsimp only [e63, e63_L0, go_sem, Nat.reduceBEq, Nat.reduceAdd]; refine ⟨by simp, ?_⟩; exact M_done (res := fun (r : Bool) => .bv r) ok63 h
  ·refine V_go 1 ?_; dsimp only [e63, e63_L0, go_sem, Nat.reduceBEq, Nat.reduceAdd]; refine ⟨by simp, ?_⟩; refine M_loop h (fun (x8 : Int) => (⟨(.sl 5 (List.map Mail.row x1) :: .iv x2 :: .iv x3 :: .iv x4 :: an 5 (.iv x8 :: an 40 [])), [], []⟩ : St)) (by simp [go_sem]) (by intro x8; first | rfl | simp [go_sem]) ?_; rintro n1 x8 y1 h hin1 hout1; rw [m_narthexref12_goes_l1] at h; (try dsimp only); refine V_go 8 ?_; dsimp only [e63, e63_L0, go_sem, Nat.reduceBEq, Nat.reduceAdd]; refine ⟨by simp, ?_⟩; refine M_ite h rfl (fun _ h => ?_) fun _ h => ?_
   ·refine V_go 7 ?_; dsimp only [e63, e63_L0, go_sem, Nat.reduceBEq, Nat.reduceAdd]; refine ⟨by simp, ?_⟩; obtain ⟨x9, ex9, h⟩ := Option.bind_eq_some_iff.1 h; refine V_idxM Mail.row ex9 trivial rfl rfl rfl ?_; refine V_go 11 ?_; dsimp only [e63, e63_L0, go_sem, Nat.reduceBEq, Nat.reduceAdd]; refine ⟨by simp, ?_⟩; refine V_join (fun (x10 : Bool) => (⟨(.sl 5 (List.map Mail.row x1) :: .iv x2 :: .iv x3 :: .iv x4 :: an 5 (.iv x8 :: an 39 [.bv x10])), [], []⟩ : St)) (m_narthexref12_goes_j2 x8) y1 ?_ fun J2 => ?_
    ·intro x10 h; rw [m_narthexref12_goes_j2] at h; (try dsimp only); refine M_ite h rfl (fun _ h => ?_) fun _ h => ?_
     ·refine V_go 4 ?_; dsimp only [e63, e63_L0, go_sem, Nat.reduceBEq, Nat.reduceAdd]; refine ⟨by simp, ?_⟩; exact M_done (res := fun (r : Bool) => .bv r) ok63 (M_out h hout1)
     ·refine V_go 7 ?_; dsimp only [e63, e63_L0, go_sem, Nat.reduceBEq, Nat.reduceAdd]; refine ⟨by simp, ?_⟩; exact M_back h hin1
    ·refine M_case 25 h rfl (fun _ h => ?_) fun _ h => ?_
     ·dsimp only [go_sem, Nat.reduceBEq, Nat.reduceAdd]; refine V_go 6 ?_; dsimp only [e63, e63_L0, go_sem, Nat.reduceBEq, Nat.reduceAdd]; refine ⟨by simp, ?_⟩; refine M_case 31 h rfl (fun _ h => ?_) fun _ h => ?_
      ·dsimp only [go_sem, Nat.reduceBEq, Nat.reduceAdd]; refine V_go 6 ?_; dsimp only [e63, e63_L0, go_sem, Nat.reduceBEq, Nat.reduceAdd]; refine ⟨by simp, ?_⟩; refine M_case 37 h rfl (fun _ h => ?_) fun _ h => ?_
       ·dsimp only [go_sem, Nat.reduceBEq, Nat.reduceAdd]; refine V_go 7 ?_; dsimp only [e63, e63_L0, go_sem, Nat.reduceBEq, Nat.reduceAdd]; refine ⟨by simp, ?_⟩; refine M_case 44 h rfl (fun _ h => ?_) fun _ h => ?_
        ·dsimp only [go_sem, Nat.reduceBEq, Nat.reduceAdd]; refine V_go 6 ?_; dsimp only [e63, e63_L0, go_sem, Nat.reduceBEq, Nat.reduceAdd]; refine ⟨by simp, ?_⟩; exact M_to J2 (s := decide (x9.Msg.Num = 0)) h
        ·dsimp only [go_sem, Nat.reduceBEq, Nat.reduceAdd]; refine V_go 6 ?_; dsimp only [e63, e63_L0, go_sem, Nat.reduceBEq, Nat.reduceAdd]; refine ⟨by simp, ?_⟩; exact M_to J2 (s := false) h
       ·dsimp only [go_sem, Nat.reduceBEq, Nat.reduceAdd]; refine V_go 13 ?_; dsimp only [e63, e63_L0, go_sem, Nat.reduceBEq, Nat.reduceAdd]; refine ⟨by simp, ?_⟩; exact M_to J2 (s := false) h
      ·dsimp only [go_sem, Nat.reduceBEq, Nat.reduceAdd]; refine V_go 19 ?_; dsimp only [e63, e63_L0, go_sem, Nat.reduceBEq, Nat.reduceAdd]; refine ⟨by simp, ?_⟩; exact M_to J2 (s := false) h
     ·dsimp only [go_sem, Nat.reduceBEq, Nat.reduceAdd]; refine V_go 25 ?_; dsimp only [e63, e63_L0, go_sem, Nat.reduceBEq, Nat.reduceAdd]; refine ⟨by simp, ?_⟩; exact M_to J2 (s := false) h
   ·refine V_go 1 ?_; dsimp only [e63, e63_L0, go_sem, Nat.reduceBEq, Nat.reduceAdd]; refine ⟨by simp, ?_⟩; exact M_to J1 (s := ()) (M_out h hout1)
end NX
end Go.Proofs.Ytadebhbiglmodaa
