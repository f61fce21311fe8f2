/-
  The program's data. No statement of the seat is proved here.
-/
import Derived.KernelRfl
import Derived.Shelf.Sort.Plain
import Derived.Shelf.Slices.In.SortNone
import Derived.Sort.OwnSortedInts
import Derived.Test.YtadebhbiglmodaaP1
namespace Go.Proofs.Ytadebhbiglmodaa
namespace NX
open Go
structure Side where
  Peer : Int
  Epoch : Int
  State : Int
  Fork : Bool
  Dirty : Bool
  Token : Bool
  Bottle : Bool
  Ask : Bool
  deriving DecidableEq, Inhabited
def Side.row (x : Side) : List AV := [.iv x.Peer, .iv x.Epoch, .iv x.State, .bv x.Fork, .bv x.Dirty, .bv x.Token, .bv x.Bottle, .bv x.Ask]
attribute [go_sem] Side.row
structure Diner where
  ID : Int
  Phase : Int
  Sides : (List Side)
  deriving DecidableEq, Inhabited
def Diner.row (x : Diner) : List AV := [.iv x.ID, .iv x.Phase, .sl 8 (List.map Side.row x.Sides)]
attribute [go_sem] Diner.row
structure Msg where
  Kind : Int
  Epoch : Int
  Num : Int
  deriving DecidableEq, Inhabited
def Msg.row (x : Msg) : List AV := [.iv x.Kind, .iv x.Epoch, .iv x.Num]
attribute [go_sem] Msg.row
structure Mail where
  From : Int
  To : Int
  Msg : Msg
  deriving DecidableEq, Inhabited
def Mail.row (x : Mail) : List AV := [.iv x.From, .iv x.To, .iv x.Msg.Kind, .iv x.Msg.Epoch, .iv x.Msg.Num]
attribute [go_sem] Mail.row
structure Scene where
  Diners : (List Diner)
  Mail : (List Mail)
  deriving DecidableEq, Inhabited
def Scene.row (x : Scene) : List AV := [.sl 3 (List.map Diner.row x.Diners), .sl 5 (List.map Mail.row x.Mail)]
attribute [go_sem] Scene.row
structure Edge where
  A : Int
  B : Int
  deriving DecidableEq, Inhabited
def Edge.row (x : Edge) : List AV := [.iv x.A, .iv x.B]
attribute [go_sem] Edge.row
structure Graph where
  N : Int
  Edges : (List Edge)
  deriving DecidableEq, Inhabited
def Graph.row (x : Graph) : List AV := [.iv x.N, .sl 2 (List.map Edge.row x.Edges)]
attribute [go_sem] Graph.row
structure Arc where
  From : Int
  To : Int
  deriving DecidableEq, Inhabited
def Arc.row (x : Arc) : List AV := [.iv x.From, .iv x.To]
attribute [go_sem] Arc.row
structure narthexlaw14_Act where
  K : Int
  A : Int
  B : Int
  deriving DecidableEq, Inhabited
def narthexlaw14_Act.row (x : narthexlaw14_Act) : List AV := [.iv x.K, .iv x.A, .iv x.B]
attribute [go_sem] narthexlaw14_Act.row
end NX
end Go.Proofs.Ytadebhbiglmodaa
/-
  The function slices.IndexFunc[[]narthex/api.Edge,narthex/api.Edge]: its code compiled, a model, and that the code answers as the model. Written by a program of ours (lb.py). No statement of the seat is proved here.
-/
namespace Go.Proofs.Ytadebhbiglmodaa
namespace NX
open Go
set_option maxRecDepth 100000
set_option maxHeartbeats 4000000
def e108_L0 : EC := .seq (.reg [⟨(some 9), none, .bin .lss (.t 8) (.t 7)⟩]) (.seq (.ite (.t 9) (.skip) (.exit 0)) (.seq (.blk 1 (.seq (.reg [⟨(some 10), none, .mv (.t 8)⟩, ⟨(some 5), none, .mv (.t 10)⟩]) (.seq (.reg [⟨(some 11), none, .mv (.t 1)⟩, ⟨(some 12), none, .mv (.t 0)⟩, ⟨(some 13), none, .mv (.t 5)⟩, ⟨(some 14), none, .idx 2 (.t 12) (.t 13)⟩, ⟨(some 15), none, .loadA 2 (.t 14)⟩, ⟨(some 16), none, .callv (.t 11) [(.t 15)]⟩]) (.ite (.t 16) (.seq (.reg [⟨(some 17), none, .mv (.t 5)⟩, ⟨(some 4), none, .mv (.t 17)⟩]) (.ret)) (.skip))))) (.reg [⟨(some 18), none, .bin .add (.t 8) (.c (.iv 1))⟩, ⟨(some 8), none, .mv (.t 18)⟩])))
def e108 : EC := .seq (.reg [⟨(some 4), none, .mv (.c (.iv 0))⟩]) (.seq (.seq (.reg [⟨(some 6), none, .mv (.t 0)⟩, ⟨(some 7), none, .len (.t 6)⟩, ⟨(some 8), none, .mv (.c (.iv 0))⟩]) (.blk 0 (.loop e108_L0))) (.seq (.reg [⟨(some 4), none, .mv (.c (.iv (-1)))⟩]) (.ret)))
theorem ok108 : FnOK Try.prog 108 Try.f108 e108 [.t 4] 2 17 := ⟨by kernel_rfl, ⟨_, rfl, by kernel_rfl⟩, by kernel_rfl, by kernel_rfl⟩
/- slices.IndexFunc[[]narthex/api.Edge,narthex/api.Edge] -/
noncomputable def m_slices_IndexFunc_Edge_j1  : Unit → Option Int
| () =>
 some (-1)
noncomputable def m_slices_IndexFunc_Edge_l1 (x1 : (List Edge)) (p1 : (Edge → Option Bool)) : Int → Option (Int ⊕ Int)
| x5 =>
 ifb (decide (x5 < (ln Edge.row x1))) (
 (at_ x1 x5).bind fun x6 =>
 (p1 x6).bind fun x7 =>
 ifb x7 (
 Option.map Sum.inr (some x5)) (
 some (.inl (wr (x5 + 1))))) (
 Option.map Sum.inr (m_slices_IndexFunc_Edge_j1 ()))
noncomputable def m_slices_IndexFunc_Edge (x1 : (List Edge)) (p1 : (Edge → Option Bool)) : Option Int :=
 loop (m_slices_IndexFunc_Edge_l1 x1 p1) 0
theorem k_slices_IndexFunc_Edge (x1 : (List Edge)) (g1 : Nat) (caps1 : List AV) (p1 : (Edge → Option Bool)) (hc1 : CloOK Try.prog g1 caps1 (fun z => [.agg (Edge.row z)]) p1 (fun z => .bv z)) (r : Int) (h : m_slices_IndexFunc_Edge x1 p1 = some r) : FunP Try.prog 108 [.sl 2 (List.map Edge.row x1), .clo g1 caps1] (.iv r) := by
  refine FunP_intro ok108 rfl rfl fun w0 H0 => ?_
  rw [m_slices_IndexFunc_Edge] at h
  refine V_go 11 ?_; dsimp only [e108, e108_L0, go_sem, Nat.reduceBEq, Nat.reduceAdd]; refine ⟨by simp, ?_⟩; refine V_join (fun (_ : Unit) => (⟨(an 19 []), [], []⟩ : St)) m_slices_IndexFunc_Edge_j1 r ?_ fun J1 => ?_
  ·rintro ⟨⟩ h; rw [m_slices_IndexFunc_Edge_j1] at h; (try dsimp only); refine V_go 4 ?_; dsimp only [e108, e108_L0, go_sem, Nat.reduceBEq, Nat.reduceAdd]; refine ⟨by simp, ?_⟩; exact M_done (res := fun (r : Int) => .iv r) ok108 h
  ·refine V_go 1 ?_; dsimp only [e108, e108_L0, go_sem, Nat.reduceBEq, Nat.reduceAdd]; refine ⟨by simp, ?_⟩; refine M_loop h (fun (x5 : Int) => (⟨(.sl 2 (List.map Edge.row x1) :: .clo g1 caps1 :: an 5 (.iv (ln Edge.row x1) :: .iv x5 :: an 10 [])), [], []⟩ : St)) (by simp [go_sem]) (by intro x5; first | rfl | simp [go_sem, puL_ok _ hc1.pu]) ?_; rintro n1 x5 y1 h hin1 hout1; rw [m_slices_IndexFunc_Edge_l1] at h; (try dsimp only); refine V_go 5 ?_; dsimp only [e108, e108_L0, go_sem, Nat.reduceBEq, Nat.reduceAdd]; refine ⟨by simp, ?_⟩; refine M_ite h rfl (fun _ h => ?_) fun _ h => ?_
   ·refine V_go 13 ?_; dsimp only [e108, e108_L0, go_sem, Nat.reduceBEq, Nat.reduceAdd]; refine ⟨by simp, ?_⟩; obtain ⟨x6, ex6, h⟩ := Option.bind_eq_some_iff.1 h; refine V_idxM Edge.row ex6 trivial rfl rfl rfl ?_; refine V_go 1 ?_; dsimp only [e108, e108_L0, go_sem, Nat.reduceBEq, Nat.reduceAdd]; refine ⟨by simp, ?_⟩; obtain ⟨x7, ex7, h⟩ := Option.bind_eq_some_iff.1 h; refine V_callp trivial rfl hc1 (x := x6) ex7 (by first | exact leL_refl _ | simp [go_sem]) (by first | rfl | simp [go_sem, hc1.pu]) ?_; refine V_go 1 ?_; dsimp only [e108, e108_L0, go_sem, Nat.reduceBEq, Nat.reduceAdd]
    refine ⟨by simp, ?_⟩; refine M_ite h rfl (fun _ h => ?_) fun _ h => ?_
    ·refine V_go 5 ?_; dsimp only [e108, e108_L0, go_sem, Nat.reduceBEq, Nat.reduceAdd]; refine ⟨by simp, ?_⟩; exact M_done (res := fun (r : Int) => .iv r) ok108 (M_out h hout1)
    ·refine V_go 6 ?_; dsimp only [e108, e108_L0, go_sem, Nat.reduceBEq, Nat.reduceAdd]; refine ⟨by simp, ?_⟩; exact M_back h hin1 (hok := by first | rfl | simp [go_sem, puL_ok _ hc1.pu])
   ·refine V_go 1 ?_; dsimp only [e108, e108_L0, go_sem, Nat.reduceBEq, Nat.reduceAdd]; refine ⟨by simp, ?_⟩; exact M_to J1 (s := ()) (M_out h hout1) (hok := by first | rfl | simp [go_sem, puL_ok _ hc1.pu])
def f_slices_IndexFunc_Edge_j1 (_F : Nat)  : Unit → Option Int
| () =>
 some (-1)
theorem le_slices_IndexFunc_Edge_j1 {F : Nat} : ∀ s, ole (f_slices_IndexFunc_Edge_j1 F s) (m_slices_IndexFunc_Edge_j1 s) := by
  rintro ⟨⟩
  unfold f_slices_IndexFunc_Edge_j1 m_slices_IndexFunc_Edge_j1
  try dsimp only
  with_reducible repeat' first | exact ole_refl _ | assumption | intro _ | refine ole_ifb ?_ ?_ | refine ole_bind ?_ ?_ | refine ole_map ?_ | refine ole_loop ?_ | apply h_p1
def f_slices_IndexFunc_Edge_l1 (F : Nat) (x1 : (List Edge)) (p1 : (Edge → Option Bool)) : Int → Option (Int ⊕ Int)
| x5 =>
 ifb (decide (x5 < (ln Edge.row x1))) (
 (at_ x1 x5).bind fun x6 =>
 (p1 x6).bind fun x7 =>
 ifb x7 (
 Option.map Sum.inr (some x5)) (
 some (.inl (wr (x5 + 1))))) (
 Option.map Sum.inr (f_slices_IndexFunc_Edge_j1 F ()))
theorem le_slices_IndexFunc_Edge_l1 {F : Nat} {x1 : (List Edge)} {p1 q1 : (Edge → Option Bool)} (h_p1 : ∀ z, ole (p1 z) (q1 z)) : ∀ s, ole (f_slices_IndexFunc_Edge_l1 F x1 p1 s) (m_slices_IndexFunc_Edge_l1 x1 q1 s) := by
  intro x5
  unfold f_slices_IndexFunc_Edge_l1 m_slices_IndexFunc_Edge_l1
  try dsimp only
  with_reducible repeat' first | exact ole_refl _ | assumption | intro _ | refine ole_ifb ?_ ?_ | refine ole_bind ?_ ?_ | refine ole_map ?_ | refine ole_loop ?_ | apply le_slices_IndexFunc_Edge_j1 | apply h_p1
def f_slices_IndexFunc_Edge (F : Nat) (x1 : (List Edge)) (p1 : (Edge → Option Bool)) : Option Int :=
 loopF F (f_slices_IndexFunc_Edge_l1 F x1 p1) 0
theorem le_slices_IndexFunc_Edge {F : Nat} {x1 : (List Edge)} {p1 q1 : (Edge → Option Bool)} (h_p1 : ∀ z, ole (p1 z) (q1 z)) : ole (f_slices_IndexFunc_Edge F x1 p1) (m_slices_IndexFunc_Edge x1 q1) := by
  unfold f_slices_IndexFunc_Edge m_slices_IndexFunc_Edge
  with_reducible repeat' first | exact ole_refl _ | assumption | intro _ | refine ole_ifb ?_ ?_ | refine ole_bind ?_ ?_ | refine ole_map ?_ | refine ole_loop ?_ | apply le_slices_IndexFunc_Edge_j1 | apply le_slices_IndexFunc_Edge_l1 | apply h_p1
end NX
end Go.Proofs.Ytadebhbiglmodaa
/-
  The function slices.ContainsFunc[[]narthex/api.Edge,narthex/api.Edge]: its code compiled, a model, and that the code answers as the model. Written by a program of ours (lb.py). No statement of the seat is proved here.
-/
namespace Go.Proofs.Ytadebhbiglmodaa
namespace NX
open Go
set_option maxRecDepth 100000
set_option maxHeartbeats 4000000
def e80 : EC := .seq (.reg [⟨(some 4), none, .mv (.c .ff)⟩]) (.seq (.reg [⟨(some 5), none, .mv (.t 0)⟩, ⟨(some 6), none, .mv (.t 1)⟩, ⟨(some 7), none, .call 108 [(.t 5), (.t 6)]⟩, ⟨(some 8), none, .bin .geq (.t 7) (.c (.iv 0))⟩, ⟨(some 4), none, .mv (.t 8)⟩]) (.ret))
theorem ok80 : FnOK Try.prog 80 Try.f80 e80 [.t 4] 2 7 := ⟨by kernel_rfl, ⟨_, rfl, by kernel_rfl⟩, by kernel_rfl, by kernel_rfl⟩
/- slices.ContainsFunc[[]narthex/api.Edge,narthex/api.Edge] -/
noncomputable def m_slices_ContainsFunc_Edge (x1 : (List Edge)) (p1 : (Edge → Option Bool)) : Option Bool :=
 (m_slices_IndexFunc_Edge x1 p1).bind fun x2 =>
 some (decide (0 ≤ x2))
theorem k_slices_ContainsFunc_Edge (x1 : (List Edge)) (g1 : Nat) (caps1 : List AV) (p1 : (Edge → Option Bool)) (hc1 : CloOK Try.prog g1 caps1 (fun z => [.agg (Edge.row z)]) p1 (fun z => .bv z)) (r : Bool) (h : m_slices_ContainsFunc_Edge x1 p1 = some r) : FunP Try.prog 80 [.sl 2 (List.map Edge.row x1), .clo g1 caps1] (.bv r) := by
  refine FunP_intro ok80 rfl rfl fun w0 H0 => ?_
  rw [m_slices_ContainsFunc_Edge] at h
  refine V_go 8 ?_; dsimp only [e80, go_sem, Nat.reduceBEq, Nat.reduceAdd]; refine ⟨by simp, ?_⟩; obtain ⟨x2, ex2, h⟩ := Option.bind_eq_some_iff.1 h; refine V_call trivial (k_slices_IndexFunc_Edge x1 _ _ p1 hc1 _ ex2) (hp := (by first | rfl | simp [go_sem, hc1.pu])) (h := ?_); refine V_go 3 ?_; dsimp only [e80, go_sem, Nat.reduceBEq, Nat.reduceAdd]; refine ⟨by simp, ?_⟩; exact M_done (res := fun (r : Bool) => .bv r) ok80 h
def f_slices_ContainsFunc_Edge (F : Nat) (x1 : (List Edge)) (p1 : (Edge → Option Bool)) : Option Bool :=
 (f_slices_IndexFunc_Edge F x1 p1).bind fun x2 =>
 some (decide (0 ≤ x2))
theorem le_slices_ContainsFunc_Edge {F : Nat} {x1 : (List Edge)} {p1 q1 : (Edge → Option Bool)} (h_p1 : ∀ z, ole (p1 z) (q1 z)) : ole (f_slices_ContainsFunc_Edge F x1 p1) (m_slices_ContainsFunc_Edge x1 q1) := by
  unfold f_slices_ContainsFunc_Edge m_slices_ContainsFunc_Edge
  with_reducible repeat' first | exact ole_refl _ | assumption | intro _ | refine ole_ifb ?_ ?_ | refine ole_bind ?_ ?_ | refine ole_map ?_ | refine ole_loop ?_ | apply le_slices_IndexFunc_Edge | apply h_p1
end NX
end Go.Proofs.Ytadebhbiglmodaa
/-
  The function slices.IndexFunc[[]int,int]: its code compiled, a model, and that the code answers as the model. Written by a program of ours (lb.py). No statement of the seat is proved here.
-/
namespace Go.Proofs.Ytadebhbiglmodaa
namespace NX
open Go
set_option maxRecDepth 100000
set_option maxHeartbeats 4000000
def e111_L0 : EC := .seq (.reg [⟨(some 9), none, .bin .lss (.t 8) (.t 7)⟩]) (.seq (.ite (.t 9) (.skip) (.exit 0)) (.seq (.blk 1 (.seq (.reg [⟨(some 10), none, .mv (.t 8)⟩, ⟨(some 5), none, .mv (.t 10)⟩]) (.seq (.reg [⟨(some 11), none, .mv (.t 1)⟩, ⟨(some 12), none, .mv (.t 0)⟩, ⟨(some 13), none, .mv (.t 5)⟩, ⟨(some 14), none, .idx 1 (.t 12) (.t 13)⟩, ⟨(some 15), none, .load (.t 14)⟩, ⟨(some 16), none, .callv (.t 11) [(.t 15)]⟩]) (.ite (.t 16) (.seq (.reg [⟨(some 17), none, .mv (.t 5)⟩, ⟨(some 4), none, .mv (.t 17)⟩]) (.ret)) (.skip))))) (.reg [⟨(some 18), none, .bin .add (.t 8) (.c (.iv 1))⟩, ⟨(some 8), none, .mv (.t 18)⟩])))
def e111 : EC := .seq (.reg [⟨(some 4), none, .mv (.c (.iv 0))⟩]) (.seq (.seq (.reg [⟨(some 6), none, .mv (.t 0)⟩, ⟨(some 7), none, .len (.t 6)⟩, ⟨(some 8), none, .mv (.c (.iv 0))⟩]) (.blk 0 (.loop e111_L0))) (.seq (.reg [⟨(some 4), none, .mv (.c (.iv (-1)))⟩]) (.ret)))
theorem ok111 : FnOK Try.prog 111 Try.f111 e111 [.t 4] 2 17 := ⟨by kernel_rfl, ⟨_, rfl, by kernel_rfl⟩, by kernel_rfl, by kernel_rfl⟩
/- slices.IndexFunc[[]int,int] -/
noncomputable def m_slices_IndexFunc_int_j1  : Unit → Option Int
| () =>
 some (-1)
noncomputable def m_slices_IndexFunc_int_l1 (x1 : (List Int)) (p1 : (Int → Option Bool)) : Int → Option (Int ⊕ Int)
| x5 =>
 ifb (decide (x5 < (ln intRow x1))) (
 (at_ x1 x5).bind fun x6 =>
 (p1 x6).bind fun x7 =>
 ifb x7 (
 Option.map Sum.inr (some x5)) (
 some (.inl (wr (x5 + 1))))) (
 Option.map Sum.inr (m_slices_IndexFunc_int_j1 ()))
noncomputable def m_slices_IndexFunc_int (x1 : (List Int)) (p1 : (Int → Option Bool)) : Option Int :=
 loop (m_slices_IndexFunc_int_l1 x1 p1) 0
theorem k_slices_IndexFunc_int (x1 : (List Int)) (g1 : Nat) (caps1 : List AV) (p1 : (Int → Option Bool)) (hc1 : CloOK Try.prog g1 caps1 (fun z => [.iv z]) p1 (fun z => .bv z)) (r : Int) (h : m_slices_IndexFunc_int x1 p1 = some r) : FunP Try.prog 111 [.sl 1 (List.map intRow x1), .clo g1 caps1] (.iv r) := by
  refine FunP_intro ok111 rfl rfl fun w0 H0 => ?_
  rw [m_slices_IndexFunc_int] at h
  refine V_go 11 ?_; dsimp only [e111, e111_L0, go_sem, Nat.reduceBEq, Nat.reduceAdd]; refine ⟨by simp, ?_⟩; refine V_join (fun (_ : Unit) => (⟨(an 19 []), [], []⟩ : St)) m_slices_IndexFunc_int_j1 r ?_ fun J1 => ?_
  ·rintro ⟨⟩ h; rw [m_slices_IndexFunc_int_j1] at h; (try dsimp only); refine V_go 4 ?_; dsimp only [e111, e111_L0, go_sem, Nat.reduceBEq, Nat.reduceAdd]; refine ⟨by simp, ?_⟩; exact M_done (res := fun (r : Int) => .iv r) ok111 h
  ·refine V_go 1 ?_; dsimp only [e111, e111_L0, go_sem, Nat.reduceBEq, Nat.reduceAdd]; refine ⟨by simp, ?_⟩; refine M_loop h (fun (x5 : Int) => (⟨(.sl 1 (List.map intRow x1) :: .clo g1 caps1 :: an 5 (.iv (ln intRow x1) :: .iv x5 :: an 10 [])), [], []⟩ : St)) (by simp [go_sem]) (by intro x5; first | rfl | simp [go_sem, puL_ok _ hc1.pu]) ?_; rintro n1 x5 y1 h hin1 hout1; rw [m_slices_IndexFunc_int_l1] at h; (try dsimp only); refine V_go 5 ?_; dsimp only [e111, e111_L0, go_sem, Nat.reduceBEq, Nat.reduceAdd]; refine ⟨by simp, ?_⟩; refine M_ite h rfl (fun _ h => ?_) fun _ h => ?_
   ·refine V_go 13 ?_; dsimp only [e111, e111_L0, go_sem, Nat.reduceBEq, Nat.reduceAdd]; refine ⟨by simp, ?_⟩; obtain ⟨x6, ex6, h⟩ := Option.bind_eq_some_iff.1 h; refine V_idxM intRow ex6 trivial rfl rfl rfl ?_; refine V_go 1 ?_; dsimp only [e111, e111_L0, go_sem, Nat.reduceBEq, Nat.reduceAdd]; refine ⟨by simp, ?_⟩; obtain ⟨x7, ex7, h⟩ := Option.bind_eq_some_iff.1 h; refine V_callp trivial rfl hc1 (x := x6) ex7 (by first | exact leL_refl _ | simp [go_sem]) (by first | rfl | simp [go_sem, hc1.pu]) ?_; refine V_go 1 ?_; dsimp only [e111, e111_L0, go_sem, Nat.reduceBEq, Nat.reduceAdd]
    refine ⟨by simp, ?_⟩; refine M_ite h rfl (fun _ h => ?_) fun _ h => ?_
    ·refine V_go 5 ?_; dsimp only [e111, e111_L0, go_sem, Nat.reduceBEq, Nat.reduceAdd]; refine ⟨by simp, ?_⟩; exact M_done (res := fun (r : Int) => .iv r) ok111 (M_out h hout1)
    ·refine V_go 6 ?_; dsimp only [e111, e111_L0, go_sem, Nat.reduceBEq, Nat.reduceAdd]; refine ⟨by simp, ?_⟩; exact M_back h hin1 (hok := by first | rfl | simp [go_sem, puL_ok _ hc1.pu])
   ·refine V_go 1 ?_; dsimp only [e111, e111_L0, go_sem, Nat.reduceBEq, Nat.reduceAdd]; refine ⟨by simp, ?_⟩; exact M_to J1 (s := ()) (M_out h hout1) (hok := by first | rfl | simp [go_sem, puL_ok _ hc1.pu])
def f_slices_IndexFunc_int_j1 (_F : Nat)  : Unit → Option Int
| () =>
 some (-1)
theorem le_slices_IndexFunc_int_j1 {F : Nat} : ∀ s, ole (f_slices_IndexFunc_int_j1 F s) (m_slices_IndexFunc_int_j1 s) := by
  rintro ⟨⟩
  unfold f_slices_IndexFunc_int_j1 m_slices_IndexFunc_int_j1
  try dsimp only
  with_reducible repeat' first | exact ole_refl _ | assumption | intro _ | refine ole_ifb ?_ ?_ | refine ole_bind ?_ ?_ | refine ole_map ?_ | refine ole_loop ?_ | apply h_p1
def f_slices_IndexFunc_int_l1 (F : Nat) (x1 : (List Int)) (p1 : (Int → Option Bool)) : Int → Option (Int ⊕ Int)
| x5 =>
 ifb (decide (x5 < (ln intRow x1))) (
 (at_ x1 x5).bind fun x6 =>
 (p1 x6).bind fun x7 =>
 ifb x7 (
 Option.map Sum.inr (some x5)) (
 some (.inl (wr (x5 + 1))))) (
 Option.map Sum.inr (f_slices_IndexFunc_int_j1 F ()))
theorem le_slices_IndexFunc_int_l1 {F : Nat} {x1 : (List Int)} {p1 q1 : (Int → Option Bool)} (h_p1 : ∀ z, ole (p1 z) (q1 z)) : ∀ s, ole (f_slices_IndexFunc_int_l1 F x1 p1 s) (m_slices_IndexFunc_int_l1 x1 q1 s) := by
  intro x5
  unfold f_slices_IndexFunc_int_l1 m_slices_IndexFunc_int_l1
  try dsimp only
  with_reducible repeat' first | exact ole_refl _ | assumption | intro _ | refine ole_ifb ?_ ?_ | refine ole_bind ?_ ?_ | refine ole_map ?_ | refine ole_loop ?_ | apply le_slices_IndexFunc_int_j1 | apply h_p1
def f_slices_IndexFunc_int (F : Nat) (x1 : (List Int)) (p1 : (Int → Option Bool)) : Option Int :=
 loopF F (f_slices_IndexFunc_int_l1 F x1 p1) 0
theorem le_slices_IndexFunc_int {F : Nat} {x1 : (List Int)} {p1 q1 : (Int → Option Bool)} (h_p1 : ∀ z, ole (p1 z) (q1 z)) : ole (f_slices_IndexFunc_int F x1 p1) (m_slices_IndexFunc_int x1 q1) := by
  unfold f_slices_IndexFunc_int m_slices_IndexFunc_int
  with_reducible repeat' first | exact ole_refl _ | assumption | intro _ | refine ole_ifb ?_ ?_ | refine ole_bind ?_ ?_ | refine ole_map ?_ | refine ole_loop ?_ | apply le_slices_IndexFunc_int_j1 | apply le_slices_IndexFunc_int_l1 | apply h_p1
end NX
end Go.Proofs.Ytadebhbiglmodaa
/-
  The function slices.ContainsFunc[[]int,int]: its code compiled, a model, and that the code answers as the model. Written by a program of ours (lb.py). No statement of the seat is proved here.
-/
namespace Go.Proofs.Ytadebhbiglmodaa
namespace NX
open Go
set_option maxRecDepth 100000
set_option maxHeartbeats 4000000
def e82 : EC := .seq (.reg [⟨(some 4), none, .mv (.c .ff)⟩]) (.seq (.reg [⟨(some 5), none, .mv (.t 0)⟩, ⟨(some 6), none, .mv (.t 1)⟩, ⟨(some 7), none, .call 111 [(.t 5), (.t 6)]⟩, ⟨(some 8), none, .bin .geq (.t 7) (.c (.iv 0))⟩, ⟨(some 4), none, .mv (.t 8)⟩]) (.ret))
theorem ok82 : FnOK Try.prog 82 Try.f82 e82 [.t 4] 2 7 := ⟨by kernel_rfl, ⟨_, rfl, by kernel_rfl⟩, by kernel_rfl, by kernel_rfl⟩
/- slices.ContainsFunc[[]int,int] -/
noncomputable def m_slices_ContainsFunc_int (x1 : (List Int)) (p1 : (Int → Option Bool)) : Option Bool :=
 (m_slices_IndexFunc_int x1 p1).bind fun x2 =>
 some (decide (0 ≤ x2))
theorem k_slices_ContainsFunc_int (x1 : (List Int)) (g1 : Nat) (caps1 : List AV) (p1 : (Int → Option Bool)) (hc1 : CloOK Try.prog g1 caps1 (fun z => [.iv z]) p1 (fun z => .bv z)) (r : Bool) (h : m_slices_ContainsFunc_int x1 p1 = some r) : FunP Try.prog 82 [.sl 1 (List.map intRow x1), .clo g1 caps1] (.bv r) := by
  refine FunP_intro ok82 rfl rfl fun w0 H0 => ?_
  rw [m_slices_ContainsFunc_int] at h
  refine V_go 8 ?_; dsimp only [e82, go_sem, Nat.reduceBEq, Nat.reduceAdd]; refine ⟨by simp, ?_⟩; obtain ⟨x2, ex2, h⟩ := Option.bind_eq_some_iff.1 h; refine V_call trivial (k_slices_IndexFunc_int x1 _ _ p1 hc1 _ ex2) (hp := (by first | rfl | simp [go_sem, hc1.pu])) (h := ?_); refine V_go 3 ?_; dsimp only [e82, go_sem, Nat.reduceBEq, Nat.reduceAdd]; refine ⟨by simp, ?_⟩; exact M_done (res := fun (r : Bool) => .bv r) ok82 h
def f_slices_ContainsFunc_int (F : Nat) (x1 : (List Int)) (p1 : (Int → Option Bool)) : Option Bool :=
 (f_slices_IndexFunc_int F x1 p1).bind fun x2 =>
 some (decide (0 ≤ x2))
theorem le_slices_ContainsFunc_int {F : Nat} {x1 : (List Int)} {p1 q1 : (Int → Option Bool)} (h_p1 : ∀ z, ole (p1 z) (q1 z)) : ole (f_slices_ContainsFunc_int F x1 p1) (m_slices_ContainsFunc_int x1 q1) := by
  unfold f_slices_ContainsFunc_int m_slices_ContainsFunc_int
  with_reducible repeat' first | exact ole_refl _ | assumption | intro _ | refine ole_ifb ?_ ?_ | refine ole_bind ?_ ?_ | refine ole_map ?_ | refine ole_loop ?_ | apply le_slices_IndexFunc_int | apply h_p1
end NX
end Go.Proofs.Ytadebhbiglmodaa
/-
  The function slices.IndexFunc[[]narthex/api.Side,narthex/api.Side]: its code compiled, a model, and that the code answers as the model. Written by a program of ours (lb.py). No statement of the seat is proved here.
-/
namespace Go.Proofs.Ytadebhbiglmodaa
namespace NX
open Go
set_option maxRecDepth 100000
set_option maxHeartbeats 4000000
def e55_L0 : EC := .seq (.reg [⟨(some 9), none, .bin .lss (.t 8) (.t 7)⟩]) (.seq (.ite (.t 9) (.skip) (.exit 0)) (.seq (.blk 1 (.seq (.reg [⟨(some 10), none, .mv (.t 8)⟩, ⟨(some 5), none, .mv (.t 10)⟩]) (.seq (.reg [⟨(some 11), none, .mv (.t 1)⟩, ⟨(some 12), none, .mv (.t 0)⟩, ⟨(some 13), none, .mv (.t 5)⟩, ⟨(some 14), none, .idx 8 (.t 12) (.t 13)⟩, ⟨(some 15), none, .loadA 8 (.t 14)⟩, ⟨(some 16), none, .callv (.t 11) [(.t 15)]⟩]) (.ite (.t 16) (.seq (.reg [⟨(some 17), none, .mv (.t 5)⟩, ⟨(some 4), none, .mv (.t 17)⟩]) (.ret)) (.skip))))) (.reg [⟨(some 18), none, .bin .add (.t 8) (.c (.iv 1))⟩, ⟨(some 8), none, .mv (.t 18)⟩])))
def e55 : EC := .seq (.reg [⟨(some 4), none, .mv (.c (.iv 0))⟩]) (.seq (.seq (.reg [⟨(some 6), none, .mv (.t 0)⟩, ⟨(some 7), none, .len (.t 6)⟩, ⟨(some 8), none, .mv (.c (.iv 0))⟩]) (.blk 0 (.loop e55_L0))) (.seq (.reg [⟨(some 4), none, .mv (.c (.iv (-1)))⟩]) (.ret)))
theorem ok55 : FnOK Try.prog 55 Try.f55 e55 [.t 4] 2 17 := ⟨by kernel_rfl, ⟨_, rfl, by kernel_rfl⟩, by kernel_rfl, by kernel_rfl⟩
/- slices.IndexFunc[[]narthex/api.Side,narthex/api.Side] -/
noncomputable def m_slices_IndexFunc_Side_j1  : Unit → Option Int
| () =>
 some (-1)
noncomputable def m_slices_IndexFunc_Side_l1 (x1 : (List Side)) (p1 : (Side → Option Bool)) : Int → Option (Int ⊕ Int)
| x5 =>
 ifb (decide (x5 < (ln Side.row x1))) (
 (at_ x1 x5).bind fun x6 =>
 (p1 x6).bind fun x7 =>
 ifb x7 (
 Option.map Sum.inr (some x5)) (
 some (.inl (wr (x5 + 1))))) (
 Option.map Sum.inr (m_slices_IndexFunc_Side_j1 ()))
noncomputable def m_slices_IndexFunc_Side (x1 : (List Side)) (p1 : (Side → Option Bool)) : Option Int :=
 loop (m_slices_IndexFunc_Side_l1 x1 p1) 0
theorem k_slices_IndexFunc_Side (x1 : (List Side)) (g1 : Nat) (caps1 : List AV) (p1 : (Side → Option Bool)) (hc1 : CloOK Try.prog g1 caps1 (fun z => [.agg (Side.row z)]) p1 (fun z => .bv z)) (r : Int) (h : m_slices_IndexFunc_Side x1 p1 = some r) : FunP Try.prog 55 [.sl 8 (List.map Side.row x1), .clo g1 caps1] (.iv r) := by
  refine FunP_intro ok55 rfl rfl fun w0 H0 => ?_
  rw [m_slices_IndexFunc_Side] at h
  refine V_go 11 ?_; dsimp only [e55, e55_L0, go_sem, Nat.reduceBEq, Nat.reduceAdd]; refine ⟨by simp, ?_⟩; refine V_join (fun (_ : Unit) => (⟨(an 19 []), [], []⟩ : St)) m_slices_IndexFunc_Side_j1 r ?_ fun J1 => ?_
  ·rintro ⟨⟩ h; rw [m_slices_IndexFunc_Side_j1] at h; (try dsimp only); refine V_go 4 ?_; dsimp only [e55, e55_L0, go_sem, Nat.reduceBEq, Nat.reduceAdd]; refine ⟨by simp, ?_⟩; exact M_done (res := fun (r : Int) => .iv r) ok55 h
  ·refine V_go 1 ?_; dsimp only [e55, e55_L0, go_sem, Nat.reduceBEq, Nat.reduceAdd]; refine ⟨by simp, ?_⟩; refine M_loop h (fun (x5 : Int) => (⟨(.sl 8 (List.map Side.row x1) :: .clo g1 caps1 :: an 5 (.iv (ln Side.row x1) :: .iv x5 :: an 10 [])), [], []⟩ : St)) (by simp [go_sem]) (by intro x5; first | rfl | simp [go_sem, puL_ok _ hc1.pu]) ?_; rintro n1 x5 y1 h hin1 hout1; rw [m_slices_IndexFunc_Side_l1] at h; (try dsimp only); refine V_go 5 ?_; dsimp only [e55, e55_L0, go_sem, Nat.reduceBEq, Nat.reduceAdd]; refine ⟨by simp, ?_⟩; refine M_ite h rfl (fun _ h => ?_) fun _ h => ?_
   ·refine V_go 13 ?_; dsimp only [e55, e55_L0, go_sem, Nat.reduceBEq, Nat.reduceAdd]; refine ⟨by simp, ?_⟩; obtain ⟨x6, ex6, h⟩ := Option.bind_eq_some_iff.1 h; refine V_idxM Side.row ex6 trivial rfl rfl rfl ?_; refine V_go 1 ?_; dsimp only [e55, e55_L0, go_sem, Nat.reduceBEq, Nat.reduceAdd]; refine ⟨by simp, ?_⟩; obtain ⟨x7, ex7, h⟩ := Option.bind_eq_some_iff.1 h; refine V_callp trivial rfl hc1 (x := x6) ex7 (by first | exact leL_refl _ | simp [go_sem]) (by first | rfl | simp [go_sem, hc1.pu]) ?_; refine V_go 1 ?_; dsimp only [e55, e55_L0, go_sem, Nat.reduceBEq, Nat.reduceAdd]
    refine ⟨by simp, ?_⟩; refine M_ite h rfl (fun _ h => ?_) fun _ h => ?_
    ·refine V_go 5 ?_; dsimp only [e55, e55_L0, go_sem, Nat.reduceBEq, Nat.reduceAdd]; refine ⟨by simp, ?_⟩; exact M_done (res := fun (r : Int) => .iv r) ok55 (M_out h hout1)
    ·refine V_go 6 ?_; dsimp only [e55, e55_L0, go_sem, Nat.reduceBEq, Nat.reduceAdd]; refine ⟨by simp, ?_⟩; exact M_back h hin1 (hok := by first | rfl | simp [go_sem, puL_ok _ hc1.pu])
   ·refine V_go 1 ?_; dsimp only [e55, e55_L0, go_sem, Nat.reduceBEq, Nat.reduceAdd]; refine ⟨by simp, ?_⟩; exact M_to J1 (s := ()) (M_out h hout1) (hok := by first | rfl | simp [go_sem, puL_ok _ hc1.pu])
def f_slices_IndexFunc_Side_j1 (_F : Nat)  : Unit → Option Int
| () =>
 some (-1)
theorem le_slices_IndexFunc_Side_j1 {F : Nat} : ∀ s, ole (f_slices_IndexFunc_Side_j1 F s) (m_slices_IndexFunc_Side_j1 s) := by
  rintro ⟨⟩
  unfold f_slices_IndexFunc_Side_j1 m_slices_IndexFunc_Side_j1
  try dsimp only
  with_reducible repeat' first | exact ole_refl _ | assumption | intro _ | refine ole_ifb ?_ ?_ | refine ole_bind ?_ ?_ | refine ole_map ?_ | refine ole_loop ?_ | apply h_p1
def f_slices_IndexFunc_Side_l1 (F : Nat) (x1 : (List Side)) (p1 : (Side → Option Bool)) : Int → Option (Int ⊕ Int)
| x5 =>
 ifb (decide (x5 < (ln Side.row x1))) (
 (at_ x1 x5).bind fun x6 =>
 (p1 x6).bind fun x7 =>
 ifb x7 (
 Option.map Sum.inr (some x5)) (
 some (.inl (wr (x5 + 1))))) (
 Option.map Sum.inr (f_slices_IndexFunc_Side_j1 F ()))
theorem le_slices_IndexFunc_Side_l1 {F : Nat} {x1 : (List Side)} {p1 q1 : (Side → Option Bool)} (h_p1 : ∀ z, ole (p1 z) (q1 z)) : ∀ s, ole (f_slices_IndexFunc_Side_l1 F x1 p1 s) (m_slices_IndexFunc_Side_l1 x1 q1 s) := by
  intro x5
  unfold f_slices_IndexFunc_Side_l1 m_slices_IndexFunc_Side_l1
  try dsimp only
  with_reducible repeat' first | exact ole_refl _ | assumption | intro _ | refine ole_ifb ?_ ?_ | refine ole_bind ?_ ?_ | refine ole_map ?_ | refine ole_loop ?_ | apply le_slices_IndexFunc_Side_j1 | apply h_p1
def f_slices_IndexFunc_Side (F : Nat) (x1 : (List Side)) (p1 : (Side → Option Bool)) : Option Int :=
 loopF F (f_slices_IndexFunc_Side_l1 F x1 p1) 0
theorem le_slices_IndexFunc_Side {F : Nat} {x1 : (List Side)} {p1 q1 : (Side → Option Bool)} (h_p1 : ∀ z, ole (p1 z) (q1 z)) : ole (f_slices_IndexFunc_Side F x1 p1) (m_slices_IndexFunc_Side x1 q1) := by
  unfold f_slices_IndexFunc_Side m_slices_IndexFunc_Side
  with_reducible repeat' first | exact ole_refl _ | assumption | intro _ | refine ole_ifb ?_ ?_ | refine ole_bind ?_ ?_ | refine ole_map ?_ | refine ole_loop ?_ | apply le_slices_IndexFunc_Side_j1 | apply le_slices_IndexFunc_Side_l1 | apply h_p1
end NX
end Go.Proofs.Ytadebhbiglmodaa
/-
  The function narthex/graph.Check$1: its code compiled, a model, and that the code answers as the model. Written by a program of ours (lb.py). No statement of the seat is proved here.
-/
namespace Go.Proofs.Ytadebhbiglmodaa
namespace NX
open Go
set_option maxRecDepth 100000
set_option maxHeartbeats 4000000
def e79 : EC := .seq (.reg [⟨(some 2), none, .box 58 2 (.t 0)⟩, ⟨(some 3), none, .mv (.c .ff)⟩]) (.seq (.reg [⟨(some 4), none, .fld 0 (.t 2)⟩, ⟨(some 5), none, .load (.t 4)⟩, ⟨(some 6), none, .bin .lss (.t 5) (.c (.iv 0))⟩, ⟨(some 7), none, .mv (.t 6)⟩, ⟨(some 8), (some (7, false)), .fld 0 (.t 2)⟩, ⟨(some 9), (some (7, false)), .load (.t 8)⟩, ⟨(some 10), (some (7, false)), .fld 1 (.t 2)⟩, ⟨(some 11), (some (7, false)), .load (.t 10)⟩, ⟨(some 12), (some (7, false)), .bin .geq (.t 9) (.t 11)⟩, ⟨(some 13), none, .pick (.t 7) (.c .tt) (.t 12)⟩, ⟨(some 14), none, .mv (.t 13)⟩, ⟨(some 15), (some (14, false)), .fld 1 (.t 2)⟩, ⟨(some 16), (some (14, false)), .load (.t 15)⟩, ⟨(some 17), (some (14, false)), .fld 0 (.t 1)⟩, ⟨(some 18), (some (14, false)), .load (.t 17)⟩, ⟨(some 19), (some (14, false)), .bin .geq (.t 16) (.t 18)⟩, ⟨(some 20), none, .pick (.t 14) (.c .tt) (.t 19)⟩, ⟨(some 3), none, .mv (.t 20)⟩]) (.ret))
theorem ok79 : FnOK Try.prog 79 Try.f79 e79 [.t 3] 2 19 := ⟨by kernel_rfl, ⟨_, rfl, by kernel_rfl⟩, by kernel_rfl, by kernel_rfl⟩
/- narthex/graph.Check$1 -/
noncomputable def m_graph_Check_1_j1  : Bool → Option Bool
| x3 =>
 some x3
noncomputable def m_graph_Check_1 (x1 : Edge) (x2 : Graph) : Option Bool :=
 ifb (decide (x1.A < 0)) (
 m_graph_Check_1_j1 true) (
 ifb (decide (x1.B ≤ x1.A)) (
 m_graph_Check_1_j1 true) (
 m_graph_Check_1_j1 (decide (x2.N ≤ x1.B))))
theorem k_graph_Check_1 (x1 : Edge) (x2 : Graph) (r : Bool) (h : m_graph_Check_1 x1 x2 = some r) : FunP Try.prog 79 [.agg (Edge.row x1), .elt (Graph.row x2) 0] (.bv r) := by
  refine FunP_intro ok79 rfl rfl fun w0 H0 => ?_
  rw [m_graph_Check_1] at h
  refine V_go 11 ?_; dsimp only [e79, go_sem, Nat.reduceBEq, Nat.reduceAdd]; refine ⟨by simp, ?_⟩; refine V_join (fun (x3 : Bool) => (⟨(an 3 (.bv x3 :: an 17 [])), [], []⟩ : St)) m_graph_Check_1_j1 r ?_ fun J1 => ?_
  ·intro x3 h; rw [m_graph_Check_1_j1] at h; (try dsimp only); exact M_done (res := fun (r : Bool) => .bv r) ok79 h
  ·refine M_case 7 h rfl (fun _ h => ?_) fun _ h => ?_
   ·dsimp only [go_sem, Nat.reduceBEq, Nat.reduceAdd]; refine V_go 15 ?_; dsimp only [e79, go_sem, Nat.reduceBEq, Nat.reduceAdd]; refine ⟨by simp, ?_⟩; exact M_to J1 (s := true) h
   ·dsimp only [go_sem, Nat.reduceBEq, Nat.reduceAdd]; refine V_go 7 ?_; dsimp only [e79, go_sem, Nat.reduceBEq, Nat.reduceAdd]; refine ⟨by simp, ?_⟩; refine M_case 14 h rfl (fun _ h => ?_) fun _ h => ?_
    ·dsimp only [go_sem, Nat.reduceBEq, Nat.reduceAdd]; refine V_go 8 ?_; dsimp only [e79, go_sem, Nat.reduceBEq, Nat.reduceAdd]; refine ⟨by simp, ?_⟩; exact M_to J1 (s := true) h
    ·dsimp only [go_sem, Nat.reduceBEq, Nat.reduceAdd]; refine V_go 8 ?_; dsimp only [e79, go_sem, Nat.reduceBEq, Nat.reduceAdd]; refine ⟨by simp, ?_⟩; exact M_to J1 (s := decide (x2.N ≤ x1.B)) h
def f_graph_Check_1_j1 (_F : Nat)  : Bool → Option Bool
| x3 =>
 some x3
theorem le_graph_Check_1_j1 {F : Nat} : ∀ s, ole (f_graph_Check_1_j1 F s) (m_graph_Check_1_j1 s) := by
  intro x3
  unfold f_graph_Check_1_j1 m_graph_Check_1_j1
  try dsimp only
  with_reducible repeat' first | exact ole_refl _ | assumption | intro _ | refine ole_ifb ?_ ?_ | refine ole_bind ?_ ?_ | refine ole_map ?_ | refine ole_loop ?_
def f_graph_Check_1 (F : Nat) (x1 : Edge) (x2 : Graph) : Option Bool :=
 ifb (decide (x1.A < 0)) (
 f_graph_Check_1_j1 F true) (
 ifb (decide (x1.B ≤ x1.A)) (
 f_graph_Check_1_j1 F true) (
 f_graph_Check_1_j1 F (decide (x2.N ≤ x1.B))))
theorem le_graph_Check_1 {F : Nat} {x1 : Edge} {x2 : Graph} : ole (f_graph_Check_1 F x1 x2) (m_graph_Check_1 x1 x2) := by
  unfold f_graph_Check_1 m_graph_Check_1
  with_reducible repeat' first | exact ole_refl _ | assumption | intro _ | refine ole_ifb ?_ ?_ | refine ole_bind ?_ ?_ | refine ole_map ?_ | refine ole_loop ?_ | apply le_graph_Check_1_j1
end NX
end Go.Proofs.Ytadebhbiglmodaa
/-
  The function cmp.isNaN[int]: its code compiled, a model, and that the code answers as the model. Written by a program of ours (lb.py). No statement of the seat is proved here.
-/
namespace Go.Proofs.Ytadebhbiglmodaa
namespace NX
open Go
set_option maxRecDepth 100000
set_option maxHeartbeats 4000000
def e126 : EC := .seq (.reg [⟨(some 2), none, .mv (.c .ff)⟩]) (.seq (.reg [⟨(some 3), none, .mv (.t 0)⟩, ⟨(some 4), none, .mv (.t 0)⟩, ⟨(some 5), none, .bin .neq (.t 3) (.t 4)⟩, ⟨(some 2), none, .mv (.t 5)⟩]) (.ret))
theorem ok126 : FnOK Try.prog 126 Try.f126 e126 [.t 2] 1 5 := ⟨by kernel_rfl, ⟨_, rfl, by kernel_rfl⟩, by kernel_rfl, by kernel_rfl⟩
/- cmp.isNaN[int] -/
noncomputable def m_cmp_isNaN_int (x1 : Int) : Option Bool :=
 some (!decide (x1 = x1))
theorem k_cmp_isNaN_int (x1 : Int) (r : Bool) (h : m_cmp_isNaN_int x1 = some r) : FunP Try.prog 126 [.iv x1] (.bv r) := by
  refine FunP_intro ok126 rfl rfl fun w0 H0 => ?_
  rw [m_cmp_isNaN_int] at h
  refine V_go 11 ?_; dsimp only [e126, go_sem, Nat.reduceBEq, Nat.reduceAdd]; refine ⟨by simp, ?_⟩; exact M_done (res := fun (r : Bool) => .bv r) ok126 h
def f_cmp_isNaN_int (_F : Nat) (x1 : Int) : Option Bool :=
 some (!decide (x1 = x1))
theorem le_cmp_isNaN_int {F : Nat} {x1 : Int} : ole (f_cmp_isNaN_int F x1) (m_cmp_isNaN_int x1) := by
  unfold f_cmp_isNaN_int m_cmp_isNaN_int
  with_reducible repeat' first | exact ole_refl _ | assumption | intro _ | refine ole_ifb ?_ ?_ | refine ole_bind ?_ ?_ | refine ole_map ?_ | refine ole_loop ?_
end NX
end Go.Proofs.Ytadebhbiglmodaa
/-
  The function cmp.Compare[int]: its code compiled, a model, and that the code answers as the model. Written by a program of ours (lb.py). No statement of the seat is proved here.
-/
namespace Go.Proofs.Ytadebhbiglmodaa
namespace NX
open Go
set_option maxRecDepth 100000
set_option maxHeartbeats 4000000
def e110 : EC := .seq (.reg [⟨(some 4), none, .mv (.c (.iv 0))⟩]) (.seq (.reg [⟨(some 7), none, .mv (.t 0)⟩, ⟨(some 8), none, .call 126 [(.t 7)]⟩, ⟨(some 5), none, .mv (.t 8)⟩]) (.seq (.reg [⟨(some 9), none, .mv (.t 1)⟩, ⟨(some 10), none, .call 126 [(.t 9)]⟩, ⟨(some 6), none, .mv (.t 10)⟩]) (.seq (.seq (.reg [⟨(some 11), none, .mv (.t 5)⟩]) (.ite (.t 11) (.seq (.seq (.reg [⟨(some 12), none, .mv (.t 6)⟩]) (.ite (.t 12) (.seq (.reg [⟨(some 4), none, .mv (.c (.iv 0))⟩]) (.ret)) (.skip))) (.seq (.reg [⟨(some 4), none, .mv (.c (.iv (-1)))⟩]) (.ret))) (.skip))) (.seq (.seq (.reg [⟨(some 13), none, .mv (.t 6)⟩]) (.ite (.t 13) (.seq (.reg [⟨(some 4), none, .mv (.c (.iv 1))⟩]) (.ret)) (.skip))) (.seq (.seq (.reg [⟨(some 14), none, .mv (.t 0)⟩, ⟨(some 15), none, .mv (.t 1)⟩, ⟨(some 16), none, .bin .lss (.t 14) (.t 15)⟩]) (.ite (.t 16) (.seq (.reg [⟨(some 4), none, .mv (.c (.iv (-1)))⟩]) (.ret)) (.skip))) (.seq (.seq (.reg [⟨(some 17), none, .mv (.t 0)⟩, ⟨(some 18), none, .mv (.t 1)⟩, ⟨(some 19), none, .bin .gtr (.t 17) (.t 18)⟩]) (.ite (.t 19) (.seq (.reg [⟨(some 4), none, .mv (.c (.iv 1))⟩]) (.ret)) (.skip))) (.seq (.reg [⟨(some 4), none, .mv (.c (.iv 0))⟩]) (.ret))))))))
theorem ok110 : FnOK Try.prog 110 Try.f110 e110 [.t 4] 2 18 := ⟨by kernel_rfl, ⟨_, rfl, by kernel_rfl⟩, by kernel_rfl, by kernel_rfl⟩
/- cmp.Compare[int] -/
noncomputable def m_cmp_Compare_int (x1 : Int) (x2 : Int) : Option Int :=
 (m_cmp_isNaN_int x1).bind fun x3 =>
 (m_cmp_isNaN_int x2).bind fun x4 =>
 ifb x3 (
 ifb x4 (
 some 0) (
 some (-1))) (
 ifb x4 (
 some 1) (
 ifb (decide (x1 < x2)) (
 some (-1)) (
 ifb (decide (x2 < x1)) (
 some 1) (
 some 0))))
theorem k_cmp_Compare_int (x1 : Int) (x2 : Int) (r : Int) (h : m_cmp_Compare_int x1 x2 = some r) : FunP Try.prog 110 [.iv x1, .iv x2] (.iv r) := by
  refine FunP_intro ok110 rfl rfl fun w0 H0 => ?_
  rw [m_cmp_Compare_int] at h
  refine V_go 7 ?_; dsimp only [e110, go_sem, Nat.reduceBEq, Nat.reduceAdd]; refine ⟨by simp, ?_⟩; obtain ⟨x3, ex3, h⟩ := Option.bind_eq_some_iff.1 h; refine V_call trivial (k_cmp_isNaN_int x1 _ ex3) (h := ?_); refine V_go 5 ?_; dsimp only [e110, go_sem, Nat.reduceBEq, Nat.reduceAdd]; refine ⟨by simp, ?_⟩; obtain ⟨x4, ex4, h⟩ := Option.bind_eq_some_iff.1 h; refine V_call trivial (k_cmp_isNaN_int x2 _ ex4) (h := ?_); refine V_go 7 ?_; dsimp only [e110, go_sem, Nat.reduceBEq, Nat.reduceAdd]; refine ⟨by simp, ?_⟩; refine M_ite h rfl (fun _ h => ?_) fun _ h => ?_
  ·refine V_go 5 ?_; dsimp only [e110, go_sem, Nat.reduceBEq, Nat.reduceAdd]; refine ⟨by simp, ?_⟩; refine M_ite h rfl (fun _ h => ?_) fun _ h => ?_
   ·refine V_go 4 ?_; dsimp only [e110, go_sem, Nat.reduceBEq, Nat.reduceAdd]; refine ⟨by simp, ?_⟩; exact M_done (res := fun (r : Int) => .iv r) ok110 h
   ·refine V_go 5 ?_; dsimp only [e110, go_sem, Nat.reduceBEq, Nat.reduceAdd]; refine ⟨by simp, ?_⟩; exact M_done (res := fun (r : Int) => .iv r) ok110 h
  ·refine V_go 6 ?_; dsimp only [e110, go_sem, Nat.reduceBEq, Nat.reduceAdd]; refine ⟨by simp, ?_⟩; refine M_ite h rfl (fun _ h => ?_) fun _ h => ?_
   ·refine V_go 4 ?_; dsimp only [e110, go_sem, Nat.reduceBEq, Nat.reduceAdd]; refine ⟨by simp, ?_⟩; exact M_done (res := fun (r : Int) => .iv r) ok110 h
   ·refine V_go 8 ?_; dsimp only [e110, go_sem, Nat.reduceBEq, Nat.reduceAdd]; refine ⟨by simp, ?_⟩; refine M_ite h rfl (fun _ h => ?_) fun _ h => ?_
    ·refine V_go 4 ?_; dsimp only [e110, go_sem, Nat.reduceBEq, Nat.reduceAdd]; refine ⟨by simp, ?_⟩; exact M_done (res := fun (r : Int) => .iv r) ok110 h
    ·refine V_go 8 ?_; dsimp only [e110, go_sem, Nat.reduceBEq, Nat.reduceAdd]; refine ⟨by simp, ?_⟩; refine M_ite h rfl (fun _ h => ?_) fun _ h => ?_
     ·refine V_go 4 ?_; dsimp only [e110, go_sem, Nat.reduceBEq, Nat.reduceAdd]; refine ⟨by simp, ?_⟩; exact M_done (res := fun (r : Int) => .iv r) ok110 h
     ·refine V_go 5 ?_; dsimp only [e110, go_sem, Nat.reduceBEq, Nat.reduceAdd]; refine ⟨by simp, ?_⟩; exact M_done (res := fun (r : Int) => .iv r) ok110 h
def f_cmp_Compare_int (F : Nat) (x1 : Int) (x2 : Int) : Option Int :=
 (f_cmp_isNaN_int F x1).bind fun x3 =>
 (f_cmp_isNaN_int F x2).bind fun x4 =>
 ifb x3 (
 ifb x4 (
 some 0) (
 some (-1))) (
 ifb x4 (
 some 1) (
 ifb (decide (x1 < x2)) (
 some (-1)) (
 ifb (decide (x2 < x1)) (
 some 1) (
 some 0))))
theorem le_cmp_Compare_int {F : Nat} {x1 : Int} {x2 : Int} : ole (f_cmp_Compare_int F x1 x2) (m_cmp_Compare_int x1 x2) := by
  unfold f_cmp_Compare_int m_cmp_Compare_int
  with_reducible repeat' first | exact ole_refl _ | assumption | intro _ | refine ole_ifb ?_ ?_ | refine ole_bind ?_ ?_ | refine ole_map ?_ | refine ole_loop ?_ | apply le_cmp_isNaN_int
end NX
end Go.Proofs.Ytadebhbiglmodaa
/-
  The function cmp.Or[int]: its code compiled, a model, and that the code answers as the model. Written by a program of ours (lb.py). No statement of the seat is proved here.
-/
namespace Go.Proofs.Ytadebhbiglmodaa
namespace NX
open Go
set_option maxRecDepth 100000
set_option maxHeartbeats 4000000
def e109_L0 : EC := .seq (.reg [⟨(some 9), none, .bin .lss (.t 8) (.t 7)⟩]) (.seq (.ite (.t 9) (.skip) (.exit 0)) (.seq (.blk 1 (.seq (.reg [⟨(some 10), none, .idx 1 (.t 6) (.t 8)⟩, ⟨(some 11), none, .load (.t 10)⟩, ⟨(some 5), none, .mv (.t 11)⟩]) (.seq (.reg [⟨(some 12), none, .mv (.t 5)⟩, ⟨(some 13), none, .mv (.t 3)⟩, ⟨(some 14), none, .bin .neq (.t 12) (.t 13)⟩]) (.ite (.t 14) (.seq (.reg [⟨(some 15), none, .mv (.t 5)⟩, ⟨(some 2), none, .mv (.t 15)⟩]) (.ret)) (.skip))))) (.reg [⟨(some 16), none, .bin .add (.t 8) (.c (.iv 1))⟩, ⟨(some 8), none, .mv (.t 16)⟩])))
def e109 : EC := .seq (.reg [⟨(some 2), none, .mv (.c (.iv 0))⟩]) (.seq (.reg [⟨(some 3), none, .mv (.c (.iv 0))⟩]) (.seq (.seq (.reg [⟨(some 6), none, .mv (.t 0)⟩, ⟨(some 7), none, .len (.t 6)⟩, ⟨(some 8), none, .mv (.c (.iv 0))⟩]) (.blk 0 (.loop e109_L0))) (.seq (.reg [⟨(some 17), none, .mv (.t 3)⟩, ⟨(some 2), none, .mv (.t 17)⟩]) (.ret))))
theorem ok109 : FnOK Try.prog 109 Try.f109 e109 [.t 2] 1 17 := ⟨by kernel_rfl, ⟨_, rfl, by kernel_rfl⟩, by kernel_rfl, by kernel_rfl⟩
/- cmp.Or[int] -/
noncomputable def m_cmp_Or_int_j1  : Unit → Option Int
| () =>
 some 0
noncomputable def m_cmp_Or_int_l1 (x1 : (List Int)) : Int → Option (Int ⊕ Int)
| x4 =>
 ifb (decide (x4 < (ln intRow x1))) (
 (at_ x1 x4).bind fun x5 =>
 ifb (!decide (x5 = 0)) (
 Option.map Sum.inr (some x5)) (
 some (.inl (wr (x4 + 1))))) (
 Option.map Sum.inr (m_cmp_Or_int_j1 ()))
noncomputable def m_cmp_Or_int (x1 : (List Int)) : Option Int :=
 loop (m_cmp_Or_int_l1 x1) 0
theorem k_cmp_Or_int (x1 : (List Int)) (r : Int) (h : m_cmp_Or_int x1 = some r) : FunP Try.prog 109 [.sl 1 (List.map intRow x1)] (.iv r) := by
  refine FunP_intro ok109 rfl rfl fun w0 H0 => ?_
  rw [m_cmp_Or_int] at h
  refine V_go 15 ?_; dsimp only [e109, e109_L0, go_sem, Nat.reduceBEq, Nat.reduceAdd]; refine ⟨by simp, ?_⟩; refine V_join (fun (_ : Unit) => (⟨(an 3 (.iv 0 :: an 14 [])), [], []⟩ : St)) m_cmp_Or_int_j1 r ?_ fun J1 => ?_
  ·rintro ⟨⟩ h; rw [m_cmp_Or_int_j1] at h; (try dsimp only); refine V_go 5 ?_; dsimp only [e109, e109_L0, go_sem, Nat.reduceBEq, Nat.reduceAdd]; refine ⟨by simp, ?_⟩; exact M_done (res := fun (r : Int) => .iv r) ok109 h
  ·refine V_go 1 ?_; dsimp only [e109, e109_L0, go_sem, Nat.reduceBEq, Nat.reduceAdd]; refine ⟨by simp, ?_⟩; refine M_loop h (fun (x4 : Int) => (⟨(an 3 (.iv 0 :: .any :: .any :: .sl 1 (List.map intRow x1) :: .iv (ln intRow x1) :: .iv x4 :: an 9 [])), [], []⟩ : St)) (by simp [go_sem]) (by intro x4; first | rfl | simp [go_sem]) ?_; rintro n1 x4 y1 h hin1 hout1; rw [m_cmp_Or_int_l1] at h; (try dsimp only); refine V_go 5 ?_; dsimp only [e109, e109_L0, go_sem, Nat.reduceBEq, Nat.reduceAdd]; refine ⟨by simp, ?_⟩; refine M_ite h rfl (fun _ h => ?_) fun _ h => ?_
   ·refine V_go 5 ?_; dsimp only [e109, e109_L0, go_sem, Nat.reduceBEq, Nat.reduceAdd]; refine ⟨by simp, ?_⟩; obtain ⟨x5, ex5, h⟩ := Option.bind_eq_some_iff.1 h; refine V_idxM intRow ex5 trivial rfl rfl rfl ?_; refine V_go 9 ?_; dsimp only [e109, e109_L0, go_sem, Nat.reduceBEq, Nat.reduceAdd]; refine ⟨by simp, ?_⟩; refine M_ite h rfl (fun _ h => ?_) fun _ h => ?_
    ·refine V_go 5 ?_; dsimp only [e109, e109_L0, go_sem, Nat.reduceBEq, Nat.reduceAdd]; refine ⟨by simp, ?_⟩; exact M_done (res := fun (r : Int) => .iv r) ok109 (M_out h hout1)
    ·refine V_go 6 ?_; dsimp only [e109, e109_L0, go_sem, Nat.reduceBEq, Nat.reduceAdd]; refine ⟨by simp, ?_⟩; exact M_back h hin1
   ·refine V_go 1 ?_; dsimp only [e109, e109_L0, go_sem, Nat.reduceBEq, Nat.reduceAdd]; refine ⟨by simp, ?_⟩; exact M_to J1 (s := ()) (M_out h hout1)
def f_cmp_Or_int_j1 (_F : Nat)  : Unit → Option Int
| () =>
 some 0
theorem le_cmp_Or_int_j1 {F : Nat} : ∀ s, ole (f_cmp_Or_int_j1 F s) (m_cmp_Or_int_j1 s) := by
  rintro ⟨⟩
  unfold f_cmp_Or_int_j1 m_cmp_Or_int_j1
  try dsimp only
  with_reducible repeat' first | exact ole_refl _ | assumption | intro _ | refine ole_ifb ?_ ?_ | refine ole_bind ?_ ?_ | refine ole_map ?_ | refine ole_loop ?_
def f_cmp_Or_int_l1 (F : Nat) (x1 : (List Int)) : Int → Option (Int ⊕ Int)
| x4 =>
 ifb (decide (x4 < (ln intRow x1))) (
 (at_ x1 x4).bind fun x5 =>
 ifb (!decide (x5 = 0)) (
 Option.map Sum.inr (some x5)) (
 some (.inl (wr (x4 + 1))))) (
 Option.map Sum.inr (f_cmp_Or_int_j1 F ()))
theorem le_cmp_Or_int_l1 {F : Nat} {x1 : (List Int)} : ∀ s, ole (f_cmp_Or_int_l1 F x1 s) (m_cmp_Or_int_l1 x1 s) := by
  intro x4
  unfold f_cmp_Or_int_l1 m_cmp_Or_int_l1
  try dsimp only
  with_reducible repeat' first | exact ole_refl _ | assumption | intro _ | refine ole_ifb ?_ ?_ | refine ole_bind ?_ ?_ | refine ole_map ?_ | refine ole_loop ?_ | apply le_cmp_Or_int_j1
def f_cmp_Or_int (F : Nat) (x1 : (List Int)) : Option Int :=
 loopF F (f_cmp_Or_int_l1 F x1) 0
theorem le_cmp_Or_int {F : Nat} {x1 : (List Int)} : ole (f_cmp_Or_int F x1) (m_cmp_Or_int x1) := by
  unfold f_cmp_Or_int m_cmp_Or_int
  with_reducible repeat' first | exact ole_refl _ | assumption | intro _ | refine ole_ifb ?_ ?_ | refine ole_bind ?_ ?_ | refine ole_map ?_ | refine ole_loop ?_ | apply le_cmp_Or_int_j1 | apply le_cmp_Or_int_l1
end NX
end Go.Proofs.Ytadebhbiglmodaa
/-
  The function narthex/graph.rank: its code compiled, a model, and that the code answers as the model. Written by a program of ours (lb.py). No statement of the seat is proved here.
-/
namespace Go.Proofs.Ytadebhbiglmodaa
namespace NX
open Go
set_option maxRecDepth 100000
set_option maxHeartbeats 4000000
def e81 : EC := .seq (.reg [⟨(some 2), none, .box 58 2 (.t 0)⟩, ⟨(some 3), none, .box 58 2 (.t 1)⟩, ⟨(some 4), none, .mv (.c (.iv 0))⟩]) (.seq (.drw [⟨(some 5), none, .fld 0 (.t 2)⟩, ⟨(some 6), none, .load (.t 5)⟩, ⟨(some 7), none, .fld 0 (.t 3)⟩, ⟨(some 8), none, .load (.t 7)⟩, ⟨(some 9), none, .call 110 [(.t 6), (.t 8)]⟩, ⟨(some 10), none, .fld 1 (.t 2)⟩, ⟨(some 11), none, .load (.t 10)⟩, ⟨(some 12), none, .fld 1 (.t 3)⟩, ⟨(some 13), none, .load (.t 12)⟩, ⟨(some 14), none, .call 110 [(.t 11), (.t 13)]⟩, ⟨(some 15), none, .bsl 3 1 2 [.iv 0] [(0, (.t 9)), (1, (.t 14))]⟩, ⟨(some 16), none, .call 109 [(.t 15)]⟩, ⟨(some 4), none, .mv (.t 16)⟩] [[], [0], [], [2], [1, 3], [], [5], [], [7], [6, 8, 4], [4, 9], [10, 9], [11, 11, 0, 1, 2, 3, 4, 5, 6, 7, 8, 9, 10, 11]] [[1], [0, 4], [3], [2, 4], [1, 3, 10], [6], [5, 9], [8], [7, 9], [6, 8, 10], [4, 9, 11], [10, 12], [11]]) (.ret))
theorem ok81 : FnOK Try.prog 81 Try.f81 e81 [.t 4] 2 15 := ⟨by kernel_rfl, ⟨_, rfl, by kernel_rfl⟩, by kernel_rfl, by kernel_rfl⟩
/- narthex/graph.rank -/
noncomputable def m_graph_rank (x1 : Edge) (x2 : Edge) : Option Int :=
 (m_cmp_Compare_int x1.A x2.A).bind fun x3 =>
 (m_cmp_Compare_int x1.B x2.B).bind fun x4 =>
 (m_cmp_Or_int ([x3, x4])).bind fun x5 =>
 some x5
theorem k_graph_rank (x1 : Edge) (x2 : Edge) (r : Int) (h : m_graph_rank x1 x2 = some r) : FunP Try.prog 81 [.agg (Edge.row x1), .agg (Edge.row x2)] (.iv r) := by
  refine FunP_intro ok81 rfl rfl fun w0 H0 => ?_
  rw [m_graph_rank] at h
  refine V_go 7 ?_; dsimp only [e81, go_sem, Nat.reduceBEq, Nat.reduceAdd]; refine ⟨by simp, ?_⟩; refine V_drw (by kernel_rfl) fun all hall hs hnap haf => ?_; dsimp only [go_sem, Nat.reduceBEq, Nat.reduceAdd]
  refine G_goE hall hs haf hnap 8 5 [true, true, true, true, false, true, true, true, true, false, false, false, false] (⟨[.agg [.iv x1.A, .iv x1.B], .agg [.iv x2.A, .iv x2.B], .ptr 0 0, .ptr 1 0, .iv 0, .ptr 0 0, .iv x1.A, .ptr 1 0, .iv x2.A, .un, .ptr 0 1, .iv x1.B, .ptr 1 1, .iv x2.B, .un, .un, .un], [some ⟨58, [.iv x1.A, .iv x1.B]⟩, some ⟨58, [.iv x2.A, .iv x2.B]⟩], []⟩ : St) (by kernel_rfl) ?_; refine G_one 4 rfl ?_; obtain ⟨x3, ex3, h⟩ := Option.bind_eq_some_iff.1 h; refine GO_call hall rfl trivial (k_cmp_Compare_int x1.A x2.A _ ex3) (h := ?_)
  dsimp only [go_sem, Nat.reduceBEq, Nat.reduceAdd]; refine G_one 9 rfl ?_; obtain ⟨x4, ex4, h⟩ := Option.bind_eq_some_iff.1 h; refine GO_call hall rfl trivial (k_cmp_Compare_int x1.B x2.B _ ex4) (h := ?_); dsimp only [go_sem, Nat.reduceBEq, Nat.reduceAdd]; refine G_one 10 rfl ?_; refine GO_ev hall rfl trivial ?_; dsimp only [go_sem, Nat.reduceBEq, Nat.reduceAdd]; refine G_one 11 rfl ?_; obtain ⟨x5, ex5, h⟩ := Option.bind_eq_some_iff.1 h; refine GO_callL hall rfl trivial ((Lend.refl _).slice 0 rfl) (k_cmp_Or_int ([x3, x4]) _ ex5) (h := ?_); dsimp only [go_sem, Nat.reduceBEq, Nat.reduceAdd]
  refine G_goN hall hs haf hnap 1 0 ?_; dsimp only [go_sem, Nat.reduceBEq, Nat.reduceAdd]; refine ⟨by simp, ?_⟩; refine G_done rfl ?_ _; exact M_done (res := fun (r : Int) => .iv r) ok81 h
def f_graph_rank (F : Nat) (x1 : Edge) (x2 : Edge) : Option Int :=
 (f_cmp_Compare_int F x1.A x2.A).bind fun x3 =>
 (f_cmp_Compare_int F x1.B x2.B).bind fun x4 =>
 (f_cmp_Or_int F ([x3, x4])).bind fun x5 =>
 some x5
theorem le_graph_rank {F : Nat} {x1 : Edge} {x2 : Edge} : ole (f_graph_rank F x1 x2) (m_graph_rank x1 x2) := by
  unfold f_graph_rank m_graph_rank
  with_reducible repeat' first | exact ole_refl _ | assumption | intro _ | refine ole_ifb ?_ ?_ | refine ole_bind ?_ ?_ | refine ole_map ?_ | refine ole_loop ?_ | apply le_cmp_Compare_int | apply le_cmp_Or_int
end NX
end Go.Proofs.Ytadebhbiglmodaa
/-
  The function narthex/graph.Check: its code compiled, a model, and that the code answers as the model. Written by a program of ours (lb.py). No statement of the seat is proved here.
-/
namespace Go.Proofs.Ytadebhbiglmodaa
namespace NX
open Go
set_option maxRecDepth 100000
set_option maxHeartbeats 4000000
def e49_L0 : EC := .seq (.reg [⟨(some 30), none, .bin .lss (.t 29) (.t 28)⟩]) (.seq (.ite (.t 30) (.skip) (.exit 0)) (.seq (.blk 1 (.seq (.reg [⟨(some 31), none, .mv (.t 29)⟩, ⟨(some 4), none, .mv (.t 31)⟩]) (.seq (.drw [⟨(some 32), none, .mv (.t 4)⟩, ⟨(some 33), none, .bin .gtr (.t 32) (.c (.iv 0))⟩, ⟨(some 34), none, .mv (.t 33)⟩, ⟨(some 35), (some (34, true)), .fld 1 (.t 1)⟩, ⟨(some 36), (some (34, true)), .load (.t 35)⟩, ⟨(some 37), (some (34, true)), .mv (.t 4)⟩, ⟨(some 38), (some (34, true)), .bin .sub (.t 37) (.c (.iv 1))⟩, ⟨(some 39), (some (34, true)), .idx 2 (.t 36) (.t 38)⟩, ⟨(some 40), (some (34, true)), .loadA 2 (.t 39)⟩, ⟨(some 41), (some (34, true)), .fld 1 (.t 1)⟩, ⟨(some 42), (some (34, true)), .load (.t 41)⟩, ⟨(some 43), (some (34, true)), .mv (.t 4)⟩, ⟨(some 44), (some (34, true)), .idx 2 (.t 42) (.t 43)⟩, ⟨(some 45), (some (34, true)), .loadA 2 (.t 44)⟩, ⟨(some 46), (some (34, true)), .call 81 [(.t 40), (.t 45)]⟩, ⟨(some 47), (some (34, true)), .bin .geq (.t 46) (.c (.iv 0))⟩, ⟨(some 48), none, .pick (.t 34) (.t 47) (.c .ff)⟩] [[], [0], [1], [2], [3, 2], [2], [5, 2], [4, 6, 2], [7, 2], [2], [9, 2], [2], [10, 11, 2], [12, 2], [8, 13, 2, 2], [14, 2], [2, 15]] [[1], [0, 2], [1, 3, 4, 5, 6, 7, 8, 9, 10, 11, 12, 13, 14, 15, 16], [2, 4], [2, 3, 7], [2, 6], [2, 5, 7], [2, 4, 6, 8], [2, 7, 14], [2, 10], [2, 9, 12], [2, 12], [2, 10, 11, 13], [2, 12, 14], [2, 8, 13, 15], [2, 14, 16], [2, 15]]) (.ite (.t 48) (.seq (.reg [⟨(some 2), none, .mv (.c (.iv 30))⟩]) (.ret)) (.skip))))) (.reg [⟨(some 49), none, .bin .add (.t 29) (.c (.iv 1))⟩, ⟨(some 29), none, .mv (.t 49)⟩])))
def e49 : EC := .seq (.reg [⟨(some 1), none, .box 24 2 (.t 0)⟩, ⟨(some 2), none, .mv (.c (.iv 0))⟩]) (.seq (.reg [⟨(some 5), none, .mkf 79 [(.t 1)]⟩, ⟨(some 3), none, .mv (.t 5)⟩]) (.seq (.seq (.reg [⟨(some 6), none, .fld 0 (.t 1)⟩, ⟨(some 7), none, .load (.t 6)⟩, ⟨(some 8), none, .bin .lss (.t 7) (.c (.iv 0))⟩, ⟨(some 9), none, .mv (.t 8)⟩, ⟨(some 10), (some (9, false)), .fld 0 (.t 1)⟩, ⟨(some 11), (some (9, false)), .load (.t 10)⟩, ⟨(some 12), (some (9, false)), .bin .gtr (.t 11) (.c (.iv 64))⟩, ⟨(some 13), none, .pick (.t 9) (.c .tt) (.t 12)⟩, ⟨(some 14), none, .mv (.t 13)⟩, ⟨(some 15), (some (14, false)), .fld 1 (.t 1)⟩, ⟨(some 16), (some (14, false)), .load (.t 15)⟩, ⟨(some 17), (some (14, false)), .len (.t 16)⟩, ⟨(some 18), (some (14, false)), .bin .gtr (.t 17) (.c (.iv 400))⟩, ⟨(some 19), none, .pick (.t 14) (.c .tt) (.t 18)⟩, ⟨(some 20), none, .mv (.t 19)⟩, ⟨(some 21), (some (20, false)), .fld 1 (.t 1)⟩, ⟨(some 22), (some (20, false)), .load (.t 21)⟩, ⟨(some 23), (some (20, false)), .mv (.t 3)⟩, ⟨(some 24), (some (20, false)), .call 80 [(.t 22), (.t 23)]⟩, ⟨(some 25), none, .pick (.t 20) (.c .tt) (.t 24)⟩]) (.ite (.t 25) (.seq (.reg [⟨(some 2), none, .mv (.c (.iv 30))⟩]) (.ret)) (.skip))) (.seq (.seq (.reg [⟨(some 26), none, .fld 1 (.t 1)⟩, ⟨(some 27), none, .load (.t 26)⟩, ⟨(some 28), none, .len (.t 27)⟩, ⟨(some 29), none, .mv (.c (.iv 0))⟩]) (.blk 0 (.loop e49_L0))) (.seq (.reg [⟨(some 2), none, .mv (.c (.iv 0))⟩]) (.ret)))))
theorem ok49 : FnOK Try.prog 49 Try.f49 e49 [.t 2] 1 49 := ⟨by kernel_rfl, ⟨_, rfl, by kernel_rfl⟩, by kernel_rfl, by kernel_rfl⟩
/- narthex/graph.Check -/
noncomputable def m_graph_Check_j2  : Unit → Option Int
| () =>
 some 0
noncomputable def m_graph_Check_j3 (x9 : Int) : Bool → Option (Int ⊕ Int)
| x13 =>
 ifb x13 (
 Option.map Sum.inr (some 30)) (
 some (.inl (wr (x9 + 1))))
noncomputable def m_graph_Check_l1 (x1 : Graph) : Int → Option (Int ⊕ Int)
| x9 =>
 ifb (decide (x9 < (ln Edge.row x1.Edges))) (
 ifb (decide (0 < x9)) (
 (at_ x1.Edges (wr (x9 - 1))).bind fun x10 =>
 (at_ x1.Edges x9).bind fun x11 =>
 (m_graph_rank x10 x11).bind fun x12 =>
 (m_graph_Check_j3 x9) (decide (0 ≤ x12))) (
 (m_graph_Check_j3 x9) false)) (
 Option.map Sum.inr (m_graph_Check_j2 ()))
noncomputable def m_graph_Check_j1 (x1 : Graph) : Bool → Option Int
| x3 =>
 ifb x3 (
 some 30) (
 loop (m_graph_Check_l1 x1) 0)
noncomputable def m_graph_Check (x1 : Graph) : Option Int :=
 ifb (decide (x1.N < 0)) (
 (m_graph_Check_j1 x1) true) (
 ifb (decide (64 < x1.N)) (
 (m_graph_Check_j1 x1) true) (
 ifb (decide (400 < (ln Edge.row x1.Edges))) (
 (m_graph_Check_j1 x1) true) (
 (m_slices_ContainsFunc_Edge x1.Edges ((fun z => m_graph_Check_1 z x1))).bind fun x2 =>
 (m_graph_Check_j1 x1) x2)))
theorem k_graph_Check (x1 : Graph) (r : Int) (h : m_graph_Check x1 = some r) : FunP Try.prog 49 [.agg (Graph.row x1)] (.iv r) := by
  refine FunP_intro ok49 rfl rfl fun w0 H0 => ?_
  rw [m_graph_Check] at h
  refine V_go 17 ?_; dsimp only [e49, e49_L0, go_sem, Nat.reduceBEq, Nat.reduceAdd]; refine ⟨by simp, ?_⟩; refine V_join (fun (x3 : Bool) => (⟨(.any :: .ptr 0 0 :: an 23 (.bv x3 :: an 24 [])), [some ⟨24, [.iv x1.N, .sl 2 (List.map Edge.row x1.Edges)]⟩], []⟩ : St)) (m_graph_Check_j1 x1) r ?_ fun J1 => ?_
  ·intro x3 h; rw [m_graph_Check_j1] at h; (try dsimp only); refine M_ite h rfl (fun _ h => ?_) fun _ h => ?_
   ·refine V_go 4 ?_; dsimp only [e49, e49_L0, go_sem, Nat.reduceBEq, Nat.reduceAdd]; refine ⟨by simp, ?_⟩; exact M_done (res := fun (r : Int) => .iv r) ok49 h
   ·refine V_go 9 ?_; dsimp only [e49, e49_L0, go_sem, Nat.reduceBEq, Nat.reduceAdd]; refine ⟨by simp, ?_⟩; refine V_join (fun (_ : Unit) => (⟨(an 50 []), [], []⟩ : St)) m_graph_Check_j2 r ?_ fun J2 => ?_
    ·rintro ⟨⟩ h; rw [m_graph_Check_j2] at h; (try dsimp only); refine V_go 4 ?_; dsimp only [e49, e49_L0, go_sem, Nat.reduceBEq, Nat.reduceAdd]; refine ⟨by simp, ?_⟩; exact M_done (res := fun (r : Int) => .iv r) ok49 h
    ·refine V_go 1 ?_; dsimp only [e49, e49_L0, go_sem, Nat.reduceBEq, Nat.reduceAdd]; refine ⟨by simp, ?_⟩; refine M_loop h (fun (x9 : Int) => (⟨(.any :: .ptr 0 0 :: an 26 (.iv (ln Edge.row x1.Edges) :: .iv x9 :: an 20 [])), [some ⟨24, [.iv x1.N, .sl 2 (List.map Edge.row x1.Edges)]⟩], []⟩ : St)) (by simp [go_sem]) (by intro x9; first | rfl | simp [go_sem]) ?_; rintro n1 x9 y1 h hin1 hout1; rw [m_graph_Check_l1] at h; (try dsimp only); refine V_go 5 ?_; dsimp only [e49, e49_L0, go_sem, Nat.reduceBEq, Nat.reduceAdd]; refine ⟨by simp, ?_⟩; refine M_ite h rfl (fun _ h => ?_) fun _ h => ?_
     ·refine V_go 9 ?_; dsimp only [e49, e49_L0, go_sem, Nat.reduceBEq, Nat.reduceAdd]; refine ⟨by simp, ?_⟩; refine V_join (fun (x13 : Bool) => (⟨(.any :: .ptr 0 0 :: an 26 (.iv (ln Edge.row x1.Edges) :: .iv x9 :: an 18 [.bv x13, .any])), [some ⟨24, [.iv x1.N, .sl 2 (List.map Edge.row x1.Edges)]⟩], []⟩ : St)) (m_graph_Check_j3 x9) y1 ?_ fun J3 => ?_
      ·intro x13 h; rw [m_graph_Check_j3] at h; (try dsimp only); refine M_ite h rfl (fun _ h => ?_) fun _ h => ?_
       ·refine V_go 4 ?_; dsimp only [e49, e49_L0, go_sem, Nat.reduceBEq, Nat.reduceAdd]; refine ⟨by simp, ?_⟩; exact M_done (res := fun (r : Int) => .iv r) ok49 (M_out h hout1)
       ·refine V_go 6 ?_; dsimp only [e49, e49_L0, go_sem, Nat.reduceBEq, Nat.reduceAdd]; refine ⟨by simp, ?_⟩; exact M_back h hin1
      ·refine V_drw (by kernel_rfl) fun all hall hs hnap haf => ?_; dsimp only [go_sem, Nat.reduceBEq, Nat.reduceAdd]; refine G_goN hall hs haf hnap 3 14 ?_; dsimp only [go_sem, Nat.reduceBEq, Nat.reduceAdd]; refine ⟨by simp, ?_⟩; refine GM_case 34 h rfl (fun _ h => ?_) fun _ h => ?_
       ·dsimp only [go_sem, Nat.reduceBEq, Nat.reduceAdd]
        refine G_goE hall hs haf hnap 7 7 [true, true, true, true, true, true, true, false, false, true, true, true, false, false, false, false, false] (⟨(.any :: .ptr 0 0 :: .any :: .any :: .iv x9 :: an 23 (.iv (ln Edge.row x1.Edges) :: .iv x9 :: .bv (decide (x9 < (ln Edge.row x1.Edges))) :: .iv x9 :: .iv x9 :: .bv (decide (0 < x9)) :: .tt :: .ptr 0 1 :: .sl 2 (List.map Edge.row x1.Edges) :: .iv x9 :: .iv (wr (x9 - 1)) :: .any :: .any :: .ptr 0 1 :: .sl 2 (List.map Edge.row x1.Edges) :: .iv x9 :: an 6 [])), [some ⟨24, [.iv x1.N, .sl 2 (List.map Edge.row x1.Edges)]⟩], []⟩ : St) (by kernel_rfl) ?_
        obtain ⟨x10, ex10, h⟩ := Option.bind_eq_some_iff.1 h; refine G_idxM hall hs haf hnap 7 Edge.row ex10 rfl rfl trivial rfl rfl rfl rfl ?_; refine G_goN hall hs haf hnap 1 5 ?_; dsimp only [go_sem, Nat.reduceBEq, Nat.reduceAdd]; refine ⟨by simp, ?_⟩; obtain ⟨x11, ex11, h⟩ := Option.bind_eq_some_iff.1 h; refine G_idxM hall hs haf hnap 12 Edge.row ex11 rfl rfl trivial rfl rfl rfl rfl ?_; refine G_goN hall hs haf hnap 1 3 ?_; dsimp only [go_sem, Nat.reduceBEq, Nat.reduceAdd]; refine ⟨by simp, ?_⟩; refine G_one 14 rfl ?_; obtain ⟨x12, ex12, h⟩ := Option.bind_eq_some_iff.1 h
        refine GO_call hall rfl trivial (k_graph_rank x10 x11 _ ex12) (h := ?_); dsimp only [go_sem, Nat.reduceBEq, Nat.reduceAdd]; refine G_goN hall hs haf hnap 2 0 ?_; dsimp only [go_sem, Nat.reduceBEq, Nat.reduceAdd]; refine ⟨by simp, ?_⟩; refine G_done rfl ?_ _; exact M_to J3 (s := decide (0 ≤ x12)) h
       ·dsimp only [go_sem, Nat.reduceBEq, Nat.reduceAdd]; refine G_goE hall hs haf hnap 14 0 [true, true, true, true, true, true, true, true, true, true, true, true, true, true, true, true, true] (⟨(.any :: .ptr 0 0 :: .any :: .any :: .iv x9 :: an 23 [.iv (ln Edge.row x1.Edges), .iv x9, .bv (decide (x9 < (ln Edge.row x1.Edges))), .iv x9, .iv x9, .bv (decide (0 < x9)), .ff, .un, .un, .un, .un, .un, .un, .un, .un, .un, .un, .un, .un, .un, .ff, .any]), [some ⟨24, [.iv x1.N, .sl 2 (List.map Edge.row x1.Edges)]⟩], []⟩ : St) (by kernel_rfl) ?_; refine G_done rfl ?_ _
        exact M_to J3 (s := false) h
     ·refine V_go 1 ?_; dsimp only [e49, e49_L0, go_sem, Nat.reduceBEq, Nat.reduceAdd]; refine ⟨by simp, ?_⟩; exact M_to J2 (s := ()) (M_out h hout1)
  ·refine M_case 9 h rfl (fun _ h => ?_) fun _ h => ?_
   ·dsimp only [go_sem, Nat.reduceBEq, Nat.reduceAdd]; refine V_go 17 ?_; dsimp only [e49, e49_L0, go_sem, Nat.reduceBEq, Nat.reduceAdd]; refine ⟨by simp, ?_⟩; exact M_to J1 (s := true) h
   ·dsimp only [go_sem, Nat.reduceBEq, Nat.reduceAdd]; refine V_go 5 ?_; dsimp only [e49, e49_L0, go_sem, Nat.reduceBEq, Nat.reduceAdd]; refine ⟨by simp, ?_⟩; refine M_case 14 h rfl (fun _ h => ?_) fun _ h => ?_
    ·dsimp only [go_sem, Nat.reduceBEq, Nat.reduceAdd]; refine V_go 12 ?_; dsimp only [e49, e49_L0, go_sem, Nat.reduceBEq, Nat.reduceAdd]; refine ⟨by simp, ?_⟩; exact M_to J1 (s := true) h
    ·dsimp only [go_sem, Nat.reduceBEq, Nat.reduceAdd]; refine V_go 6 ?_; dsimp only [e49, e49_L0, go_sem, Nat.reduceBEq, Nat.reduceAdd]; refine ⟨by simp, ?_⟩; refine M_case 20 h rfl (fun _ h => ?_) fun _ h => ?_
     ·dsimp only [go_sem, Nat.reduceBEq, Nat.reduceAdd]; refine V_go 6 ?_; dsimp only [e49, e49_L0, go_sem, Nat.reduceBEq, Nat.reduceAdd]; refine ⟨by simp, ?_⟩; exact M_to J1 (s := true) h
     ·dsimp only [go_sem, Nat.reduceBEq, Nat.reduceAdd]; refine V_go 3 ?_; dsimp only [e49, e49_L0, go_sem, Nat.reduceBEq, Nat.reduceAdd]; refine ⟨by simp, ?_⟩; obtain ⟨x2, ex2, h⟩ := Option.bind_eq_some_iff.1 h; refine V_callL trivial ((Lend.refl _).block 0 rfl rfl) (k_slices_ContainsFunc_Edge x1.Edges _ _ ((fun z => m_graph_Check_1 z x1)) ⟨by kernel_rfl, rfl, fun z r hz => k_graph_Check_1 z x1 r hz⟩ _ ex2) (h := ?_); refine V_go 2 ?_; dsimp only [e49, e49_L0, go_sem, Nat.reduceBEq, Nat.reduceAdd]; refine ⟨by simp, ?_⟩; exact M_to J1 (s := x2) h
def f_graph_Check_j2 (_F : Nat)  : Unit → Option Int
| () =>
 some 0
theorem le_graph_Check_j2 {F : Nat} : ∀ s, ole (f_graph_Check_j2 F s) (m_graph_Check_j2 s) := by
  rintro ⟨⟩
  unfold f_graph_Check_j2 m_graph_Check_j2
  try dsimp only
  with_reducible repeat' first | exact ole_refl _ | assumption | intro _ | refine ole_ifb ?_ ?_ | refine ole_bind ?_ ?_ | refine ole_map ?_ | refine ole_loop ?_
def f_graph_Check_j3 (_F : Nat) (x9 : Int) : Bool → Option (Int ⊕ Int)
| x13 =>
 ifb x13 (
 Option.map Sum.inr (some 30)) (
 some (.inl (wr (x9 + 1))))
theorem le_graph_Check_j3 {F : Nat} {x9 : Int} : ∀ s, ole (f_graph_Check_j3 F x9 s) (m_graph_Check_j3 x9 s) := by
  intro x13
  unfold f_graph_Check_j3 m_graph_Check_j3
  try dsimp only
  with_reducible repeat' first | exact ole_refl _ | assumption | intro _ | refine ole_ifb ?_ ?_ | refine ole_bind ?_ ?_ | refine ole_map ?_ | refine ole_loop ?_ | apply le_graph_Check_j2
def f_graph_Check_l1 (F : Nat) (x1 : Graph) : Int → Option (Int ⊕ Int)
| x9 =>
 ifb (decide (x9 < (ln Edge.row x1.Edges))) (
 ifb (decide (0 < x9)) (
 (at_ x1.Edges (wr (x9 - 1))).bind fun x10 =>
 (at_ x1.Edges x9).bind fun x11 =>
 (f_graph_rank F x10 x11).bind fun x12 =>
 (f_graph_Check_j3 F x9) (decide (0 ≤ x12))) (
 (f_graph_Check_j3 F x9) false)) (
 Option.map Sum.inr (f_graph_Check_j2 F ()))
theorem le_graph_Check_l1 {F : Nat} {x1 : Graph} : ∀ s, ole (f_graph_Check_l1 F x1 s) (m_graph_Check_l1 x1 s) := by
  intro x9
  unfold f_graph_Check_l1 m_graph_Check_l1
  try dsimp only
  with_reducible repeat' first | exact ole_refl _ | assumption | intro _ | refine ole_ifb ?_ ?_ | refine ole_bind ?_ ?_ | refine ole_map ?_ | refine ole_loop ?_ | apply le_graph_Check_j2 | apply le_graph_Check_j3 | apply le_graph_rank
def f_graph_Check_j1 (F : Nat) (x1 : Graph) : Bool → Option Int
| x3 =>
 ifb x3 (
 some 30) (
 loopF F (f_graph_Check_l1 F x1) 0)
theorem le_graph_Check_j1 {F : Nat} {x1 : Graph} : ∀ s, ole (f_graph_Check_j1 F x1 s) (m_graph_Check_j1 x1 s) := by
  intro x3
  unfold f_graph_Check_j1 m_graph_Check_j1
  try dsimp only
  with_reducible repeat' first | exact ole_refl _ | assumption | intro _ | refine ole_ifb ?_ ?_ | refine ole_bind ?_ ?_ | refine ole_map ?_ | refine ole_loop ?_ | apply le_graph_Check_j2 | apply le_graph_Check_j3 | apply le_graph_rank | apply le_graph_Check_l1
def f_graph_Check (F : Nat) (x1 : Graph) : Option Int :=
 ifb (decide (x1.N < 0)) (
 (f_graph_Check_j1 F x1) true) (
 ifb (decide (64 < x1.N)) (
 (f_graph_Check_j1 F x1) true) (
 ifb (decide (400 < (ln Edge.row x1.Edges))) (
 (f_graph_Check_j1 F x1) true) (
 (f_slices_ContainsFunc_Edge F x1.Edges ((fun z => f_graph_Check_1 F z x1))).bind fun x2 =>
 (f_graph_Check_j1 F x1) x2)))
theorem le_graph_Check {F : Nat} {x1 : Graph} : ole (f_graph_Check F x1) (m_graph_Check x1) := by
  unfold f_graph_Check m_graph_Check
  with_reducible repeat' first | exact ole_refl _ | assumption | intro _ | refine ole_ifb ?_ ?_ | refine ole_bind ?_ ?_ | refine ole_map ?_ | refine ole_loop ?_ | apply le_graph_Check_j2 | apply le_graph_Check_j3 | apply le_graph_rank | apply le_graph_Check_l1 | apply le_graph_Check_j1 | apply le_slices_ContainsFunc_Edge | apply le_graph_Check_1
end NX
end Go.Proofs.Ytadebhbiglmodaa
/-
  The function narthex/colour.Right$1: its code compiled, a model, and that the code answers as the model. Written by a program of ours (lb.py). No statement of the seat is proved here.
-/
namespace Go.Proofs.Ytadebhbiglmodaa
namespace NX
open Go
set_option maxRecDepth 100000
set_option maxHeartbeats 4000000
def e83 : EC := .seq (.reg [⟨(some 2), none, .mv (.c .ff)⟩]) (.seq (.reg [⟨(some 3), none, .mv (.t 0)⟩, ⟨(some 4), none, .bin .lss (.t 3) (.c (.iv 1))⟩, ⟨(some 2), none, .mv (.t 4)⟩]) (.ret))
theorem ok83 : FnOK Try.prog 83 Try.f83 e83 [.t 2] 1 4 := ⟨by kernel_rfl, ⟨_, rfl, by kernel_rfl⟩, by kernel_rfl, by kernel_rfl⟩
/- narthex/colour.Right$1 -/
noncomputable def m_colour_Right_1 (x1 : Int) : Option Bool :=
 some (decide (x1 < 1))
theorem k_colour_Right_1 (x1 : Int) (r : Bool) (h : m_colour_Right_1 x1 = some r) : FunP Try.prog 83 [.iv x1] (.bv r) := by
  refine FunP_intro ok83 rfl rfl fun w0 H0 => ?_
  rw [m_colour_Right_1] at h
  refine V_go 10 ?_; dsimp only [e83, go_sem, Nat.reduceBEq, Nat.reduceAdd]; refine ⟨by simp, ?_⟩; exact M_done (res := fun (r : Bool) => .bv r) ok83 h
def f_colour_Right_1 (_F : Nat) (x1 : Int) : Option Bool :=
 some (decide (x1 < 1))
theorem le_colour_Right_1 {F : Nat} {x1 : Int} : ole (f_colour_Right_1 F x1) (m_colour_Right_1 x1) := by
  unfold f_colour_Right_1 m_colour_Right_1
  with_reducible repeat' first | exact ole_refl _ | assumption | intro _ | refine ole_ifb ?_ ?_ | refine ole_bind ?_ ?_ | refine ole_map ?_ | refine ole_loop ?_
end NX
end Go.Proofs.Ytadebhbiglmodaa
/-
  The function narthex/colour.Right$2: its code compiled, a model, and that the code answers as the model. Written by a program of ours (lb.py). No statement of the seat is proved here.
-/
namespace Go.Proofs.Ytadebhbiglmodaa
namespace NX
open Go
set_option maxRecDepth 100000
set_option maxHeartbeats 4000000
def e84 : EC := .seq (.reg [⟨(some 2), none, .box 58 2 (.t 0)⟩, ⟨(some 3), none, .mv (.c .ff)⟩]) (.seq (.drw [⟨(some 4), none, .load (.t 1)⟩, ⟨(some 5), none, .fld 0 (.t 2)⟩, ⟨(some 6), none, .load (.t 5)⟩, ⟨(some 7), none, .idx 1 (.t 4) (.t 6)⟩, ⟨(some 8), none, .load (.t 7)⟩, ⟨(some 9), none, .load (.t 1)⟩, ⟨(some 10), none, .fld 1 (.t 2)⟩, ⟨(some 11), none, .load (.t 10)⟩, ⟨(some 12), none, .idx 1 (.t 9) (.t 11)⟩, ⟨(some 13), none, .load (.t 12)⟩, ⟨(some 14), none, .bin .eql (.t 8) (.t 13)⟩, ⟨(some 3), none, .mv (.t 14)⟩] [[], [], [1], [0, 2], [3], [], [], [6], [5, 7], [8], [4, 9], [10, 0, 1, 2, 3, 4, 5, 6, 7, 8, 9, 10]] [[3], [2], [1, 3], [0, 2, 4], [3, 10], [8], [7], [6, 8], [5, 7, 9], [8, 10], [4, 9, 11], [10]]) (.ret))
theorem ok84 : FnOK Try.prog 84 Try.f84 e84 [.t 3] 2 13 := ⟨by kernel_rfl, ⟨_, rfl, by kernel_rfl⟩, by kernel_rfl, by kernel_rfl⟩
/- narthex/colour.Right$2 -/
noncomputable def m_colour_Right_2 (x1 : Edge) (x2 : (List Int)) : Option Bool :=
 (at_ x2 x1.A).bind fun x3 =>
 (at_ x2 x1.B).bind fun x4 =>
 some (decide (x3 = x4))
theorem k_colour_Right_2 (x1 : Edge) (x2 : (List Int)) (r : Bool) (h : m_colour_Right_2 x1 x2 = some r) : FunP Try.prog 84 [.agg (Edge.row x1), .elt ((slRow 1 intRow) x2) 0] (.bv r) := by
  refine FunP_intro ok84 rfl rfl fun w0 H0 => ?_
  rw [m_colour_Right_2] at h
  refine V_go 6 ?_; dsimp only [e84, go_sem, Nat.reduceBEq, Nat.reduceAdd]; refine ⟨by simp, ?_⟩; refine V_drw (by kernel_rfl) fun all hall hs hnap haf => ?_; dsimp only [go_sem, Nat.reduceBEq, Nat.reduceAdd]; refine G_goE hall hs haf hnap 6 6 [true, true, true, false, false, true, true, true, false, false, false, false] (⟨[.agg [.iv x1.A, .iv x1.B], .elt [.sl 1 (List.map intRow x2)] 0, .ptr 0 0, .ff, .sl 1 (List.map intRow x2), .ptr 0 0, .iv x1.A, .un, .un, .sl 1 (List.map intRow x2), .ptr 0 1, .iv x1.B, .un, .un, .un], [some ⟨58, [.iv x1.A, .iv x1.B]⟩], []⟩ : St) (by kernel_rfl) ?_
  obtain ⟨x3, ex3, h⟩ := Option.bind_eq_some_iff.1 h; refine G_idxM hall hs haf hnap 3 intRow ex3 rfl rfl trivial rfl rfl rfl rfl ?_; refine G_goN hall hs haf hnap 1 4 ?_; dsimp only [go_sem, Nat.reduceBEq, Nat.reduceAdd]; refine ⟨by simp, ?_⟩; obtain ⟨x4, ex4, h⟩ := Option.bind_eq_some_iff.1 h; refine G_idxM hall hs haf hnap 8 intRow ex4 rfl rfl trivial rfl rfl rfl rfl ?_; refine G_goN hall hs haf hnap 3 0 ?_; dsimp only [go_sem, Nat.reduceBEq, Nat.reduceAdd]; refine ⟨by simp, ?_⟩; refine G_done rfl ?_ _; exact M_done (res := fun (r : Bool) => .bv r) ok84 h
def f_colour_Right_2 (_F : Nat) (x1 : Edge) (x2 : (List Int)) : Option Bool :=
 (at_ x2 x1.A).bind fun x3 =>
 (at_ x2 x1.B).bind fun x4 =>
 some (decide (x3 = x4))
theorem le_colour_Right_2 {F : Nat} {x1 : Edge} {x2 : (List Int)} : ole (f_colour_Right_2 F x1 x2) (m_colour_Right_2 x1 x2) := by
  unfold f_colour_Right_2 m_colour_Right_2
  with_reducible repeat' first | exact ole_refl _ | assumption | intro _ | refine ole_ifb ?_ ?_ | refine ole_bind ?_ ?_ | refine ole_map ?_ | refine ole_loop ?_
end NX
end Go.Proofs.Ytadebhbiglmodaa
/-
  The function narthex/colour.Right: its code compiled, a model, and that the code answers as the model. Written by a program of ours (lb.py). No statement of the seat is proved here.
-/
namespace Go.Proofs.Ytadebhbiglmodaa
namespace NX
open Go
set_option maxRecDepth 100000
set_option maxHeartbeats 4000000
def e50 : EC := .seq (.reg [⟨(some 2), none, .box 24 2 (.t 0)⟩, ⟨(some 3), none, .box 25 1 (.t 1)⟩, ⟨(some 4), none, .mv (.c .ff)⟩]) (.seq (.seq (.reg [⟨(some 5), none, .loadA 2 (.t 2)⟩, ⟨(some 6), none, .call 49 [(.t 5)]⟩, ⟨(some 7), none, .bin .neq (.t 6) (.c (.iv 0))⟩, ⟨(some 8), none, .mv (.t 7)⟩, ⟨(some 9), (some (8, false)), .load (.t 3)⟩, ⟨(some 10), (some (8, false)), .len (.t 9)⟩, ⟨(some 11), (some (8, false)), .fld 0 (.t 2)⟩, ⟨(some 12), (some (8, false)), .load (.t 11)⟩, ⟨(some 13), (some (8, false)), .bin .neq (.t 10) (.t 12)⟩, ⟨(some 14), none, .pick (.t 8) (.c .tt) (.t 13)⟩, ⟨(some 15), none, .mv (.t 14)⟩, ⟨(some 16), (some (15, false)), .load (.t 3)⟩, ⟨(some 17), (some (15, false)), .call 82 [(.t 16), (.c (.clo 83 []))]⟩, ⟨(some 18), none, .pick (.t 15) (.c .tt) (.t 17)⟩]) (.ite (.t 18) (.seq (.reg [⟨(some 4), none, .mv (.c .ff)⟩]) (.ret)) (.skip))) (.seq (.reg [⟨(some 19), none, .fld 1 (.t 2)⟩, ⟨(some 20), none, .load (.t 19)⟩, ⟨(some 21), none, .mkf 84 [(.t 3)]⟩, ⟨(some 22), none, .call 80 [(.t 20), (.t 21)]⟩, ⟨(some 23), none, .not (.t 22)⟩, ⟨(some 4), none, .mv (.t 23)⟩]) (.ret)))
theorem ok50 : FnOK Try.prog 50 Try.f50 e50 [.t 4] 2 22 := ⟨by kernel_rfl, ⟨_, rfl, by kernel_rfl⟩, by kernel_rfl, by kernel_rfl⟩
/- narthex/colour.Right -/
noncomputable def m_colour_Right_j1 (x1 : Graph) (x2 : (List Int)) : Bool → Option Bool
| x5 =>
 ifb x5 (
 some false) (
 (m_slices_ContainsFunc_Edge x1.Edges ((fun z => m_colour_Right_2 z x2))).bind fun x6 =>
 some (!x6))
noncomputable def m_colour_Right (x1 : Graph) (x2 : (List Int)) : Option Bool :=
 (m_graph_Check x1).bind fun x3 =>
 ifb (!decide (x3 = 0)) (
 (m_colour_Right_j1 x1 x2) true) (
 ifb (!decide ((ln intRow x2) = x1.N)) (
 (m_colour_Right_j1 x1 x2) true) (
 (m_slices_ContainsFunc_int x2 ((fun z => m_colour_Right_1 z))).bind fun x4 =>
 (m_colour_Right_j1 x1 x2) x4))
theorem k_colour_Right (x1 : Graph) (x2 : (List Int)) (r : Bool) (h : m_colour_Right x1 x2 = some r) : FunP Try.prog 50 [.agg (Graph.row x1), .sl 1 (List.map intRow x2)] (.bv r) := by
  refine FunP_intro ok50 rfl rfl fun w0 H0 => ?_
  rw [m_colour_Right] at h
  refine V_go 10 ?_; dsimp only [e50, go_sem, Nat.reduceBEq, Nat.reduceAdd]; refine ⟨by simp, ?_⟩; obtain ⟨x3, ex3, h⟩ := Option.bind_eq_some_iff.1 h; refine V_call trivial (k_graph_Check x1 _ ex3) (h := ?_); refine V_go 2 ?_; dsimp only [e50, go_sem, Nat.reduceBEq, Nat.reduceAdd]; refine ⟨by simp, ?_⟩; refine V_join (fun (x5 : Bool) => (⟨(.any :: .any :: .ptr 0 0 :: .ptr 1 0 :: an 14 (.bv x5 :: an 5 [])), [some ⟨24, [.iv x1.N, .sl 2 (List.map Edge.row x1.Edges)]⟩, some ⟨25, [.sl 1 (List.map intRow x2)]⟩], []⟩ : St)) (m_colour_Right_j1 x1 x2) r ?_ fun J1 => ?_
  ·intro x5 h; rw [m_colour_Right_j1] at h; (try dsimp only); refine M_ite h rfl (fun _ h => ?_) fun _ h => ?_
   ·refine V_go 4 ?_; dsimp only [e50, go_sem, Nat.reduceBEq, Nat.reduceAdd]; refine ⟨by simp, ?_⟩; exact M_done (res := fun (r : Bool) => .bv r) ok50 h
   ·refine V_go 6 ?_; dsimp only [e50, go_sem, Nat.reduceBEq, Nat.reduceAdd]; refine ⟨by simp, ?_⟩; obtain ⟨x6, ex6, h⟩ := Option.bind_eq_some_iff.1 h; refine V_callL trivial ((Lend.refl _).block 1 rfl rfl) (k_slices_ContainsFunc_Edge x1.Edges _ _ ((fun z => m_colour_Right_2 z x2)) ⟨by kernel_rfl, rfl, fun z r hz => k_colour_Right_2 z x2 r hz⟩ _ ex6) (h := ?_); refine V_go 3 ?_; dsimp only [e50, go_sem, Nat.reduceBEq, Nat.reduceAdd]; refine ⟨by simp, ?_⟩; exact M_done (res := fun (r : Bool) => .bv r) ok50 h
  ·refine M_case 8 h rfl (fun _ h => ?_) fun _ h => ?_
   ·dsimp only [go_sem, Nat.reduceBEq, Nat.reduceAdd]; refine V_go 11 ?_; dsimp only [e50, go_sem, Nat.reduceBEq, Nat.reduceAdd]; refine ⟨by simp, ?_⟩; exact M_to J1 (s := true) h
   ·dsimp only [go_sem, Nat.reduceBEq, Nat.reduceAdd]; refine V_go 7 ?_; dsimp only [e50, go_sem, Nat.reduceBEq, Nat.reduceAdd]; refine ⟨by simp, ?_⟩; refine M_case 15 h rfl (fun _ h => ?_) fun _ h => ?_
    ·dsimp only [go_sem, Nat.reduceBEq, Nat.reduceAdd]; refine V_go 4 ?_; dsimp only [e50, go_sem, Nat.reduceBEq, Nat.reduceAdd]; refine ⟨by simp, ?_⟩; exact M_to J1 (s := true) h
    ·dsimp only [go_sem, Nat.reduceBEq, Nat.reduceAdd]; refine V_go 1 ?_; dsimp only [e50, go_sem, Nat.reduceBEq, Nat.reduceAdd]; refine ⟨by simp, ?_⟩; obtain ⟨x4, ex4, h⟩ := Option.bind_eq_some_iff.1 h; refine V_call trivial (k_slices_ContainsFunc_int x2 _ _ ((fun z => m_colour_Right_1 z)) ⟨by kernel_rfl, rfl, fun z r hz => k_colour_Right_1 z r hz⟩ _ ex4) (h := ?_); refine V_go 2 ?_; dsimp only [e50, go_sem, Nat.reduceBEq, Nat.reduceAdd]; refine ⟨by simp, ?_⟩; exact M_to J1 (s := x4) h
def f_colour_Right_j1 (F : Nat) (x1 : Graph) (x2 : (List Int)) : Bool → Option Bool
| x5 =>
 ifb x5 (
 some false) (
 (f_slices_ContainsFunc_Edge F x1.Edges ((fun z => f_colour_Right_2 F z x2))).bind fun x6 =>
 some (!x6))
theorem le_colour_Right_j1 {F : Nat} {x1 : Graph} {x2 : (List Int)} : ∀ s, ole (f_colour_Right_j1 F x1 x2 s) (m_colour_Right_j1 x1 x2 s) := by
  intro x5
  unfold f_colour_Right_j1 m_colour_Right_j1
  try dsimp only
  with_reducible repeat' first | exact ole_refl _ | assumption | intro _ | refine ole_ifb ?_ ?_ | refine ole_bind ?_ ?_ | refine ole_map ?_ | refine ole_loop ?_ | apply le_slices_ContainsFunc_Edge | apply le_colour_Right_2
def f_colour_Right (F : Nat) (x1 : Graph) (x2 : (List Int)) : Option Bool :=
 (f_graph_Check F x1).bind fun x3 =>
 ifb (!decide (x3 = 0)) (
 (f_colour_Right_j1 F x1 x2) true) (
 ifb (!decide ((ln intRow x2) = x1.N)) (
 (f_colour_Right_j1 F x1 x2) true) (
 (f_slices_ContainsFunc_int F x2 ((fun z => f_colour_Right_1 F z))).bind fun x4 =>
 (f_colour_Right_j1 F x1 x2) x4))
theorem le_colour_Right {F : Nat} {x1 : Graph} {x2 : (List Int)} : ole (f_colour_Right F x1 x2) (m_colour_Right x1 x2) := by
  unfold f_colour_Right m_colour_Right
  with_reducible repeat' first | exact ole_refl _ | assumption | intro _ | refine ole_ifb ?_ ?_ | refine ole_bind ?_ ?_ | refine ole_map ?_ | refine ole_loop ?_ | apply le_slices_ContainsFunc_Edge | apply le_colour_Right_2 | apply le_colour_Right_j1 | apply le_graph_Check | apply le_slices_ContainsFunc_int | apply le_colour_Right_1
end NX
end Go.Proofs.Ytadebhbiglmodaa
/-
  The function slices.Index[[]narthex/api.Mail,narthex/api.Mail]: its code compiled, a model, and that the code answers as the model. Written by a program of ours (lb.py). No statement of the seat is proved here.
-/
namespace Go.Proofs.Ytadebhbiglmodaa
namespace NX
open Go
set_option maxRecDepth 100000
set_option maxHeartbeats 4000000
def e86_L0 : EC := .seq (.reg [⟨(some 9), none, .bin .lss (.t 8) (.t 7)⟩]) (.seq (.ite (.t 9) (.skip) (.exit 0)) (.seq (.blk 1 (.seq (.reg [⟨(some 10), none, .mv (.t 8)⟩, ⟨(some 5), none, .mv (.t 10)⟩]) (.seq (.drw [⟨(some 11), none, .loadA 5 (.t 3)⟩, ⟨(some 12), none, .mv (.t 0)⟩, ⟨(some 13), none, .mv (.t 5)⟩, ⟨(some 14), none, .idx 5 (.t 12) (.t 13)⟩, ⟨(some 15), none, .loadA 5 (.t 14)⟩, ⟨(some 16), none, .eqs false [true, true, true, true, true] (.t 11) (.t 15)⟩] [[], [], [], [1, 2], [3], [0, 4]] [[5], [3], [3], [1, 2, 4], [3, 5], [0, 4]]) (.ite (.t 16) (.seq (.reg [⟨(some 17), none, .mv (.t 5)⟩, ⟨(some 4), none, .mv (.t 17)⟩]) (.ret)) (.skip))))) (.reg [⟨(some 18), none, .bin .add (.t 8) (.c (.iv 1))⟩, ⟨(some 8), none, .mv (.t 18)⟩])))
def e86 : EC := .seq (.reg [⟨(some 3), none, .box 97 5 (.t 1)⟩, ⟨(some 4), none, .mv (.c (.iv 0))⟩]) (.seq (.seq (.reg [⟨(some 6), none, .mv (.t 0)⟩, ⟨(some 7), none, .len (.t 6)⟩, ⟨(some 8), none, .mv (.c (.iv 0))⟩]) (.blk 0 (.loop e86_L0))) (.seq (.reg [⟨(some 4), none, .mv (.c (.iv (-1)))⟩]) (.ret)))
theorem ok86 : FnOK Try.prog 86 Try.f86 e86 [.t 4] 2 17 := ⟨by kernel_rfl, ⟨_, rfl, by kernel_rfl⟩, by kernel_rfl, by kernel_rfl⟩
/- slices.Index[[]narthex/api.Mail,narthex/api.Mail] -/
noncomputable def m_slices_Index_Mail_j1  : Unit → Option Int
| () =>
 some (-1)
noncomputable def m_slices_Index_Mail_l1 (x1 : (List Mail)) (x2 : Mail) : Int → Option (Int ⊕ Int)
| x5 =>
 ifb (decide (x5 < (ln Mail.row x1))) (
 (at_ x1 x5).bind fun x6 =>
 ifb (decide (x2.From = x6.From) && (decide (x2.To = x6.To) && (decide (x2.Msg.Kind = x6.Msg.Kind) && (decide (x2.Msg.Epoch = x6.Msg.Epoch) && (decide (x2.Msg.Num = x6.Msg.Num) && true))))) (
 Option.map Sum.inr (some x5)) (
 some (.inl (wr (x5 + 1))))) (
 Option.map Sum.inr (m_slices_Index_Mail_j1 ()))
noncomputable def m_slices_Index_Mail (x1 : (List Mail)) (x2 : Mail) : Option Int :=
 loop (m_slices_Index_Mail_l1 x1 x2) 0
theorem k_slices_Index_Mail (x1 : (List Mail)) (x2 : Mail) (r : Int) (h : m_slices_Index_Mail x1 x2 = some r) : FunP Try.prog 86 [.sl 5 (List.map Mail.row x1), .agg (Mail.row x2)] (.iv r) := by
  refine FunP_intro ok86 rfl rfl fun w0 H0 => ?_
  rw [m_slices_Index_Mail] at h
  refine V_go 12 ?_; dsimp only [e86, e86_L0, go_sem, Nat.reduceBEq, Nat.reduceAdd]; refine ⟨by simp, ?_⟩; refine V_join (fun (_ : Unit) => (⟨(an 19 []), [], []⟩ : St)) m_slices_Index_Mail_j1 r ?_ fun J1 => ?_
  ·rintro ⟨⟩ h; rw [m_slices_Index_Mail_j1] at h; (try dsimp only); refine V_go 4 ?_; dsimp only [e86, e86_L0, go_sem, Nat.reduceBEq, Nat.reduceAdd]; refine ⟨by simp, ?_⟩; exact M_done (res := fun (r : Int) => .iv r) ok86 h
  ·refine V_go 1 ?_; dsimp only [e86, e86_L0, go_sem, Nat.reduceBEq, Nat.reduceAdd]; refine ⟨by simp, ?_⟩; refine M_loop h (fun (x5 : Int) => (⟨(.sl 5 (List.map Mail.row x1) :: .any :: .any :: .ptr 0 0 :: an 3 (.iv (ln Mail.row x1) :: .iv x5 :: an 10 [])), [some ⟨97, [.iv x2.From, .iv x2.To, .iv x2.Msg.Kind, .iv x2.Msg.Epoch, .iv x2.Msg.Num]⟩], []⟩ : St)) (by simp [go_sem]) (by intro x5; first | rfl | simp [go_sem]) ?_; rintro n1 x5 y1 h hin1 hout1; rw [m_slices_Index_Mail_l1] at h; (try dsimp only); refine V_go 5 ?_; dsimp only [e86, e86_L0, go_sem, Nat.reduceBEq, Nat.reduceAdd]
   refine ⟨by simp, ?_⟩; refine M_ite h rfl (fun _ h => ?_) fun _ h => ?_
   ·refine V_go 9 ?_; dsimp only [e86, e86_L0, go_sem, Nat.reduceBEq, Nat.reduceAdd]; refine ⟨by simp, ?_⟩; refine V_drw (by kernel_rfl) fun all hall hs hnap haf => ?_; dsimp only [go_sem, Nat.reduceBEq, Nat.reduceAdd]; refine G_goN hall hs haf hnap 3 3 ?_; dsimp only [go_sem, Nat.reduceBEq, Nat.reduceAdd]; refine ⟨by simp, ?_⟩; obtain ⟨x6, ex6, h⟩ := Option.bind_eq_some_iff.1 h; refine G_idxM hall hs haf hnap 3 Mail.row ex6 rfl rfl trivial rfl rfl rfl rfl ?_; refine G_goN hall hs haf hnap 2 0 ?_; dsimp only [go_sem, Nat.reduceBEq, Nat.reduceAdd]; refine ⟨by simp, ?_⟩; refine G_done rfl ?_ _
    refine M_ite h rfl (fun _ h => ?_) fun _ h => ?_
    ·refine V_go 5 ?_; dsimp only [e86, e86_L0, go_sem, Nat.reduceBEq, Nat.reduceAdd]; refine ⟨by simp, ?_⟩; exact M_done (res := fun (r : Int) => .iv r) ok86 (M_out h hout1)
    ·refine V_go 6 ?_; dsimp only [e86, e86_L0, go_sem, Nat.reduceBEq, Nat.reduceAdd]; refine ⟨by simp, ?_⟩; exact M_back h hin1
   ·refine V_go 1 ?_; dsimp only [e86, e86_L0, go_sem, Nat.reduceBEq, Nat.reduceAdd]; refine ⟨by simp, ?_⟩; exact M_to J1 (s := ()) (M_out h hout1)
def f_slices_Index_Mail_j1 (_F : Nat)  : Unit → Option Int
| () =>
 some (-1)
theorem le_slices_Index_Mail_j1 {F : Nat} : ∀ s, ole (f_slices_Index_Mail_j1 F s) (m_slices_Index_Mail_j1 s) := by
  rintro ⟨⟩
  unfold f_slices_Index_Mail_j1 m_slices_Index_Mail_j1
  try dsimp only
  with_reducible repeat' first | exact ole_refl _ | assumption | intro _ | refine ole_ifb ?_ ?_ | refine ole_bind ?_ ?_ | refine ole_map ?_ | refine ole_loop ?_
def f_slices_Index_Mail_l1 (F : Nat) (x1 : (List Mail)) (x2 : Mail) : Int → Option (Int ⊕ Int)
| x5 =>
 ifb (decide (x5 < (ln Mail.row x1))) (
 (at_ x1 x5).bind fun x6 =>
 ifb (decide (x2.From = x6.From) && (decide (x2.To = x6.To) && (decide (x2.Msg.Kind = x6.Msg.Kind) && (decide (x2.Msg.Epoch = x6.Msg.Epoch) && (decide (x2.Msg.Num = x6.Msg.Num) && true))))) (
 Option.map Sum.inr (some x5)) (
 some (.inl (wr (x5 + 1))))) (
 Option.map Sum.inr (f_slices_Index_Mail_j1 F ()))
theorem le_slices_Index_Mail_l1 {F : Nat} {x1 : (List Mail)} {x2 : Mail} : ∀ s, ole (f_slices_Index_Mail_l1 F x1 x2 s) (m_slices_Index_Mail_l1 x1 x2 s) := by
  intro x5
  unfold f_slices_Index_Mail_l1 m_slices_Index_Mail_l1
  try dsimp only
  with_reducible repeat' first | exact ole_refl _ | assumption | intro _ | refine ole_ifb ?_ ?_ | refine ole_bind ?_ ?_ | refine ole_map ?_ | refine ole_loop ?_ | apply le_slices_Index_Mail_j1
def f_slices_Index_Mail (F : Nat) (x1 : (List Mail)) (x2 : Mail) : Option Int :=
 loopF F (f_slices_Index_Mail_l1 F x1 x2) 0
theorem le_slices_Index_Mail {F : Nat} {x1 : (List Mail)} {x2 : Mail} : ole (f_slices_Index_Mail F x1 x2) (m_slices_Index_Mail x1 x2) := by
  unfold f_slices_Index_Mail m_slices_Index_Mail
  with_reducible repeat' first | exact ole_refl _ | assumption | intro _ | refine ole_ifb ?_ ?_ | refine ole_bind ?_ ?_ | refine ole_map ?_ | refine ole_loop ?_ | apply le_slices_Index_Mail_j1 | apply le_slices_Index_Mail_l1
end NX
end Go.Proofs.Ytadebhbiglmodaa
/-
  The function slices.Contains[[]narthex/api.Mail,narthex/api.Mail]: its code compiled, a model, and that the code answers as the model. Written by a program of ours (lb.py). No statement of the seat is proved here.
-/
namespace Go.Proofs.Ytadebhbiglmodaa
namespace NX
open Go
set_option maxRecDepth 100000
set_option maxHeartbeats 4000000
def e61 : EC := .seq (.reg [⟨(some 3), none, .box 97 5 (.t 1)⟩, ⟨(some 4), none, .mv (.c .ff)⟩]) (.seq (.reg [⟨(some 5), none, .mv (.t 0)⟩, ⟨(some 6), none, .loadA 5 (.t 3)⟩, ⟨(some 7), none, .call 86 [(.t 5), (.t 6)]⟩, ⟨(some 8), none, .bin .geq (.t 7) (.c (.iv 0))⟩, ⟨(some 4), none, .mv (.t 8)⟩]) (.ret))
theorem ok61 : FnOK Try.prog 61 Try.f61 e61 [.t 4] 2 7 := ⟨by kernel_rfl, ⟨_, rfl, by kernel_rfl⟩, by kernel_rfl, by kernel_rfl⟩
/- slices.Contains[[]narthex/api.Mail,narthex/api.Mail] -/
noncomputable def m_slices_Contains_Mail (x1 : (List Mail)) (x2 : Mail) : Option Bool :=
 (m_slices_Index_Mail x1 x2).bind fun x3 =>
 some (decide (0 ≤ x3))
theorem k_slices_Contains_Mail (x1 : (List Mail)) (x2 : Mail) (r : Bool) (h : m_slices_Contains_Mail x1 x2 = some r) : FunP Try.prog 61 [.sl 5 (List.map Mail.row x1), .agg (Mail.row x2)] (.bv r) := by
  refine FunP_intro ok61 rfl rfl fun w0 H0 => ?_
  rw [m_slices_Contains_Mail] at h
  refine V_go 9 ?_; dsimp only [e61, go_sem, Nat.reduceBEq, Nat.reduceAdd]; refine ⟨by simp, ?_⟩; obtain ⟨x3, ex3, h⟩ := Option.bind_eq_some_iff.1 h; refine V_call trivial (k_slices_Index_Mail x1 x2 _ ex3) (h := ?_); refine V_go 3 ?_; dsimp only [e61, go_sem, Nat.reduceBEq, Nat.reduceAdd]; refine ⟨by simp, ?_⟩; exact M_done (res := fun (r : Bool) => .bv r) ok61 h
def f_slices_Contains_Mail (F : Nat) (x1 : (List Mail)) (x2 : Mail) : Option Bool :=
 (f_slices_Index_Mail F x1 x2).bind fun x3 =>
 some (decide (0 ≤ x3))
theorem le_slices_Contains_Mail {F : Nat} {x1 : (List Mail)} {x2 : Mail} : ole (f_slices_Contains_Mail F x1 x2) (m_slices_Contains_Mail x1 x2) := by
  unfold f_slices_Contains_Mail m_slices_Contains_Mail
  with_reducible repeat' first | exact ole_refl _ | assumption | intro _ | refine ole_ifb ?_ ?_ | refine ole_bind ?_ ?_ | refine ole_map ?_ | refine ole_loop ?_ | apply le_slices_Index_Mail
end NX
end Go.Proofs.Ytadebhbiglmodaa
/-
  The function slices.EqualFunc[[]narthex/api.Diner,[]narthex/api.Diner,narthex/api.Diner,narthex/api.Diner]: its code compiled, a model, and that the code answers as the model. Written by a program of ours (lb.py). No statement of the seat is proved here.
-/
namespace Go.Proofs.Ytadebhbiglmodaa
namespace NX
open Go
set_option maxRecDepth 100000
set_option maxHeartbeats 4000000
def e57_L0 : EC := .seq (.reg [⟨(some 18), none, .bin .lss (.t 17) (.t 16)⟩]) (.seq (.ite (.t 18) (.skip) (.exit 0)) (.seq (.blk 1 (.seq (.reg [⟨(some 19), none, .mv (.t 17)⟩, ⟨(some 20), none, .idx 3 (.t 15) (.t 17)⟩, ⟨(some 21), none, .loadA 3 (.t 20)⟩, ⟨(some 8), none, .alloc 39 [.iv 0, .iv 0, .nl]⟩, ⟨(some 7), none, .mv (.t 19)⟩, ⟨none, none, .store 3 (.t 8) (.t 21)⟩]) (.seq (.reg [⟨(some 22), none, .mv (.t 1)⟩, ⟨(some 23), none, .mv (.t 7)⟩, ⟨(some 24), none, .idx 3 (.t 22) (.t 23)⟩, ⟨(some 25), none, .loadA 3 (.t 24)⟩, ⟨(some 9), none, .alloc 39 [.iv 0, .iv 0, .nl]⟩, ⟨none, none, .store 3 (.t 9) (.t 25)⟩]) (.seq (.reg [⟨(some 26), none, .mv (.t 2)⟩, ⟨(some 27), none, .loadA 3 (.t 8)⟩, ⟨(some 28), none, .loadA 3 (.t 9)⟩, ⟨(some 29), none, .callv (.t 26) [(.t 27), (.t 28)]⟩, ⟨(some 30), none, .not (.t 29)⟩]) (.ite (.t 30) (.seq (.reg [⟨(some 6), none, .mv (.c .ff)⟩]) (.ret)) (.skip)))))) (.reg [⟨(some 31), none, .bin .add (.t 17) (.c (.iv 1))⟩, ⟨(some 17), none, .mv (.t 31)⟩])))
def e57 : EC := .seq (.reg [⟨(some 6), none, .mv (.c .ff)⟩]) (.seq (.seq (.reg [⟨(some 10), none, .mv (.t 0)⟩, ⟨(some 11), none, .len (.t 10)⟩, ⟨(some 12), none, .mv (.t 1)⟩, ⟨(some 13), none, .len (.t 12)⟩, ⟨(some 14), none, .bin .neq (.t 11) (.t 13)⟩]) (.ite (.t 14) (.seq (.reg [⟨(some 6), none, .mv (.c .ff)⟩]) (.ret)) (.skip))) (.seq (.seq (.reg [⟨(some 15), none, .mv (.t 0)⟩, ⟨(some 16), none, .len (.t 15)⟩, ⟨(some 17), none, .mv (.c (.iv 0))⟩]) (.blk 0 (.loop e57_L0))) (.seq (.reg [⟨(some 6), none, .mv (.c .tt)⟩]) (.ret))))
theorem ok57 : FnOK Try.prog 57 Try.f57 e57 [.t 6] 3 29 := ⟨by kernel_rfl, ⟨_, rfl, by kernel_rfl⟩, by kernel_rfl, by kernel_rfl⟩
/- slices.EqualFunc[[]narthex/api.Diner,[]narthex/api.Diner,narthex/api.Diner,narthex/api.Diner] -/
noncomputable def m_slices_EqualFunc_Diner_j1  : Unit → Option Bool
| () =>
 some true
noncomputable def m_slices_EqualFunc_Diner_l1 (x1 : (List Diner)) (x2 : (List Diner)) (p2 : ((Diner × Diner) → Option Bool)) : Int → Option (Int ⊕ Bool)
| x7 =>
 ifb (decide (x7 < (ln Diner.row x1))) (
 (at_ x1 x7).bind fun x8 =>
 (at_ x2 x7).bind fun x9 =>
 (p2 (x8, x9)).bind fun x10 =>
 ifb (!x10) (
 Option.map Sum.inr (some false)) (
 some (.inl (wr (x7 + 1))))) (
 Option.map Sum.inr (m_slices_EqualFunc_Diner_j1 ()))
noncomputable def m_slices_EqualFunc_Diner (x1 : (List Diner)) (x2 : (List Diner)) (p2 : ((Diner × Diner) → Option Bool)) : Option Bool :=
 ifb (!decide ((ln Diner.row x1) = (ln Diner.row x2))) (
 some false) (
 loop (m_slices_EqualFunc_Diner_l1 x1 x2 p2) 0)
theorem k_slices_EqualFunc_Diner (x1 : (List Diner)) (x2 : (List Diner)) (g2 : Nat) (caps2 : List AV) (p2 : ((Diner × Diner) → Option Bool)) (hc2 : CloOK Try.prog g2 caps2 (fun z => [.agg (Diner.row z.1), .agg (Diner.row z.2)]) p2 (fun z => .bv z)) (r : Bool) (h : m_slices_EqualFunc_Diner x1 x2 p2 = some r) : FunP Try.prog 57 [.sl 3 (List.map Diner.row x1), .sl 3 (List.map Diner.row x2), .clo g2 caps2] (.bv r) := by
  refine FunP_intro ok57 rfl rfl fun w0 H0 => ?_
  rw [m_slices_EqualFunc_Diner] at h
  refine V_go 13 ?_; dsimp only [e57, e57_L0, go_sem, Nat.reduceBEq, Nat.reduceAdd]; refine ⟨by simp, ?_⟩; refine M_ite h rfl (fun _ h => ?_) fun _ h => ?_
  ·refine V_go 4 ?_; dsimp only [e57, e57_L0, go_sem, Nat.reduceBEq, Nat.reduceAdd]; refine ⟨by simp, ?_⟩; exact M_done (res := fun (r : Bool) => .bv r) ok57 h
  ·refine V_go 8 ?_; dsimp only [e57, e57_L0, go_sem, Nat.reduceBEq, Nat.reduceAdd]; refine ⟨by simp, ?_⟩; refine V_join (fun (_ : Unit) => (⟨(an 32 []), [], []⟩ : St)) m_slices_EqualFunc_Diner_j1 r ?_ fun J1 => ?_
   ·rintro ⟨⟩ h; rw [m_slices_EqualFunc_Diner_j1] at h; (try dsimp only); refine V_go 4 ?_; dsimp only [e57, e57_L0, go_sem, Nat.reduceBEq, Nat.reduceAdd]; refine ⟨by simp, ?_⟩; exact M_done (res := fun (r : Bool) => .bv r) ok57 h
   ·refine V_go 1 ?_; dsimp only [e57, e57_L0, go_sem, Nat.reduceBEq, Nat.reduceAdd]; refine ⟨by simp, ?_⟩; refine M_loop h (fun (x7 : Int) => (⟨(.any :: .sl 3 (List.map Diner.row x2) :: .clo g2 caps2 :: an 12 (.sl 3 (List.map Diner.row x1) :: .iv (ln Diner.row x1) :: .iv x7 :: an 14 [])), [], []⟩ : St)) (by simp [go_sem]) (by intro x7; first | rfl | simp [go_sem, puL_ok _ hc2.pu]) ?_; rintro n1 x7 y1 h hin1 hout1; rw [m_slices_EqualFunc_Diner_l1] at h; (try dsimp only); refine V_go 5 ?_; dsimp only [e57, e57_L0, go_sem, Nat.reduceBEq, Nat.reduceAdd]; refine ⟨by simp, ?_⟩
    refine M_ite h rfl (fun _ h => ?_) fun _ h => ?_
    ·refine V_go 6 ?_; dsimp only [e57, e57_L0, go_sem, Nat.reduceBEq, Nat.reduceAdd]; refine ⟨by simp, ?_⟩; obtain ⟨x8, ex8, h⟩ := Option.bind_eq_some_iff.1 h; refine V_idxM Diner.row ex8 trivial rfl rfl rfl ?_; refine V_go 9 ?_; dsimp only [e57, e57_L0, go_sem, Nat.reduceBEq, Nat.reduceAdd]; refine ⟨by simp, ?_⟩; obtain ⟨x9, ex9, h⟩ := Option.bind_eq_some_iff.1 h; refine V_idxM Diner.row ex9 trivial rfl rfl rfl ?_; refine V_go 9 ?_; dsimp only [e57, e57_L0, go_sem, Nat.reduceBEq, Nat.reduceAdd]; refine ⟨by simp, ?_⟩; obtain ⟨x10, ex10, h⟩ := Option.bind_eq_some_iff.1 h
     refine V_callp trivial rfl hc2 (x := (x8, x9)) ex10 (by first | exact leL_refl _ | simp [go_sem]) (by first | rfl | simp [go_sem, hc2.pu]) ?_; refine V_go 2 ?_; dsimp only [e57, e57_L0, go_sem, Nat.reduceBEq, Nat.reduceAdd]; refine ⟨by simp, ?_⟩; refine M_ite h rfl (fun _ h => ?_) fun _ h => ?_
     ·refine V_go 4 ?_; dsimp only [e57, e57_L0, go_sem, Nat.reduceBEq, Nat.reduceAdd]; refine ⟨by simp, ?_⟩; exact M_done (res := fun (r : Bool) => .bv r) ok57 (M_out h hout1)
     ·refine V_go 6 ?_; dsimp only [e57, e57_L0, go_sem, Nat.reduceBEq, Nat.reduceAdd]; refine ⟨by simp, ?_⟩; exact M_back h hin1 (hok := by first | rfl | simp [go_sem, puL_ok _ hc2.pu])
    ·refine V_go 1 ?_; dsimp only [e57, e57_L0, go_sem, Nat.reduceBEq, Nat.reduceAdd]; refine ⟨by simp, ?_⟩; exact M_to J1 (s := ()) (M_out h hout1) (hok := by first | rfl | simp [go_sem, puL_ok _ hc2.pu])
def f_slices_EqualFunc_Diner_j1 (_F : Nat)  : Unit → Option Bool
| () =>
 some true
theorem le_slices_EqualFunc_Diner_j1 {F : Nat} : ∀ s, ole (f_slices_EqualFunc_Diner_j1 F s) (m_slices_EqualFunc_Diner_j1 s) := by
  rintro ⟨⟩
  unfold f_slices_EqualFunc_Diner_j1 m_slices_EqualFunc_Diner_j1
  try dsimp only
  with_reducible repeat' first | exact ole_refl _ | assumption | intro _ | refine ole_ifb ?_ ?_ | refine ole_bind ?_ ?_ | refine ole_map ?_ | refine ole_loop ?_ | apply h_p2
def f_slices_EqualFunc_Diner_l1 (F : Nat) (x1 : (List Diner)) (x2 : (List Diner)) (p2 : ((Diner × Diner) → Option Bool)) : Int → Option (Int ⊕ Bool)
| x7 =>
 ifb (decide (x7 < (ln Diner.row x1))) (
 (at_ x1 x7).bind fun x8 =>
 (at_ x2 x7).bind fun x9 =>
 (p2 (x8, x9)).bind fun x10 =>
 ifb (!x10) (
 Option.map Sum.inr (some false)) (
 some (.inl (wr (x7 + 1))))) (
 Option.map Sum.inr (f_slices_EqualFunc_Diner_j1 F ()))
theorem le_slices_EqualFunc_Diner_l1 {F : Nat} {x1 : (List Diner)} {x2 : (List Diner)} {p2 q2 : ((Diner × Diner) → Option Bool)} (h_p2 : ∀ z, ole (p2 z) (q2 z)) : ∀ s, ole (f_slices_EqualFunc_Diner_l1 F x1 x2 p2 s) (m_slices_EqualFunc_Diner_l1 x1 x2 q2 s) := by
  intro x7
  unfold f_slices_EqualFunc_Diner_l1 m_slices_EqualFunc_Diner_l1
  try dsimp only
  with_reducible repeat' first | exact ole_refl _ | assumption | intro _ | refine ole_ifb ?_ ?_ | refine ole_bind ?_ ?_ | refine ole_map ?_ | refine ole_loop ?_ | apply le_slices_EqualFunc_Diner_j1 | apply h_p2
def f_slices_EqualFunc_Diner (F : Nat) (x1 : (List Diner)) (x2 : (List Diner)) (p2 : ((Diner × Diner) → Option Bool)) : Option Bool :=
 ifb (!decide ((ln Diner.row x1) = (ln Diner.row x2))) (
 some false) (
 loopF F (f_slices_EqualFunc_Diner_l1 F x1 x2 p2) 0)
theorem le_slices_EqualFunc_Diner {F : Nat} {x1 : (List Diner)} {x2 : (List Diner)} {p2 q2 : ((Diner × Diner) → Option Bool)} (h_p2 : ∀ z, ole (p2 z) (q2 z)) : ole (f_slices_EqualFunc_Diner F x1 x2 p2) (m_slices_EqualFunc_Diner x1 x2 q2) := by
  unfold f_slices_EqualFunc_Diner m_slices_EqualFunc_Diner
  with_reducible repeat' first | exact ole_refl _ | assumption | intro _ | refine ole_ifb ?_ ?_ | refine ole_bind ?_ ?_ | refine ole_map ?_ | refine ole_loop ?_ | apply le_slices_EqualFunc_Diner_j1 | apply le_slices_EqualFunc_Diner_l1 | apply h_p2
end NX
end Go.Proofs.Ytadebhbiglmodaa
/-
  The function slices.Equal[[]narthex/api.Side,narthex/api.Side]: its code compiled, a model, and that the code answers as the model. Written by a program of ours (lb.py). No statement of the seat is proved here.
-/
namespace Go.Proofs.Ytadebhbiglmodaa
namespace NX
open Go
set_option maxRecDepth 100000
set_option maxHeartbeats 4000000
def e59_L0 : EC := .seq (.reg [⟨(some 14), none, .bin .lss (.t 13) (.t 12)⟩]) (.seq (.ite (.t 14) (.skip) (.exit 0)) (.seq (.blk 1 (.seq (.reg [⟨(some 15), none, .mv (.t 13)⟩, ⟨(some 5), none, .mv (.t 15)⟩]) (.seq (.drw [⟨(some 16), none, .mv (.t 0)⟩, ⟨(some 17), none, .mv (.t 5)⟩, ⟨(some 18), none, .idx 8 (.t 16) (.t 17)⟩, ⟨(some 19), none, .loadA 8 (.t 18)⟩, ⟨(some 20), none, .mv (.t 1)⟩, ⟨(some 21), none, .mv (.t 5)⟩, ⟨(some 22), none, .idx 8 (.t 20) (.t 21)⟩, ⟨(some 23), none, .loadA 8 (.t 22)⟩, ⟨(some 24), none, .eqs true [true, true, true, false, false, false, false, false] (.t 19) (.t 23)⟩] [[], [], [0, 1], [2], [], [], [4, 5], [6], [3, 7]] [[2], [2], [0, 1, 3], [2, 8], [6], [6], [4, 5, 7], [6, 8], [3, 7]]) (.ite (.t 24) (.seq (.reg [⟨(some 4), none, .mv (.c .ff)⟩]) (.ret)) (.skip))))) (.reg [⟨(some 25), none, .bin .add (.t 13) (.c (.iv 1))⟩, ⟨(some 13), none, .mv (.t 25)⟩])))
def e59 : EC := .seq (.reg [⟨(some 4), none, .mv (.c .ff)⟩]) (.seq (.seq (.reg [⟨(some 6), none, .mv (.t 0)⟩, ⟨(some 7), none, .len (.t 6)⟩, ⟨(some 8), none, .mv (.t 1)⟩, ⟨(some 9), none, .len (.t 8)⟩, ⟨(some 10), none, .bin .neq (.t 7) (.t 9)⟩]) (.ite (.t 10) (.seq (.reg [⟨(some 4), none, .mv (.c .ff)⟩]) (.ret)) (.skip))) (.seq (.seq (.reg [⟨(some 11), none, .mv (.t 0)⟩, ⟨(some 12), none, .len (.t 11)⟩, ⟨(some 13), none, .mv (.c (.iv 0))⟩]) (.blk 0 (.loop e59_L0))) (.seq (.reg [⟨(some 4), none, .mv (.c .tt)⟩]) (.ret))))
theorem ok59 : FnOK Try.prog 59 Try.f59 e59 [.t 4] 2 24 := ⟨by kernel_rfl, ⟨_, rfl, by kernel_rfl⟩, by kernel_rfl, by kernel_rfl⟩
/- slices.Equal[[]narthex/api.Side,narthex/api.Side] -/
noncomputable def m_slices_Equal_Side_j1  : Unit → Option Bool
| () =>
 some true
noncomputable def m_slices_Equal_Side_l1 (x1 : (List Side)) (x2 : (List Side)) : Int → Option (Int ⊕ Bool)
| x6 =>
 ifb (decide (x6 < (ln Side.row x1))) (
 (at_ x1 x6).bind fun x7 =>
 (at_ x2 x6).bind fun x8 =>
 ifb (!(decide (x7.Peer = x8.Peer) && (decide (x7.Epoch = x8.Epoch) && (decide (x7.State = x8.State) && ((x7.Fork == x8.Fork) && ((x7.Dirty == x8.Dirty) && ((x7.Token == x8.Token) && ((x7.Bottle == x8.Bottle) && ((x7.Ask == x8.Ask) && true))))))))) (
 Option.map Sum.inr (some false)) (
 some (.inl (wr (x6 + 1))))) (
 Option.map Sum.inr (m_slices_Equal_Side_j1 ()))
noncomputable def m_slices_Equal_Side (x1 : (List Side)) (x2 : (List Side)) : Option Bool :=
 ifb (!decide ((ln Side.row x1) = (ln Side.row x2))) (
 some false) (
 loop (m_slices_Equal_Side_l1 x1 x2) 0)
theorem k_slices_Equal_Side (x1 : (List Side)) (x2 : (List Side)) (r : Bool) (h : m_slices_Equal_Side x1 x2 = some r) : FunP Try.prog 59 [.sl 8 (List.map Side.row x1), .sl 8 (List.map Side.row x2)] (.bv r) := by
  refine FunP_intro ok59 rfl rfl fun w0 H0 => ?_
  rw [m_slices_Equal_Side] at h
  refine V_go 13 ?_; dsimp only [e59, e59_L0, go_sem, Nat.reduceBEq, Nat.reduceAdd]; refine ⟨by simp, ?_⟩; refine M_ite h rfl (fun _ h => ?_) fun _ h => ?_
  ·refine V_go 4 ?_; dsimp only [e59, e59_L0, go_sem, Nat.reduceBEq, Nat.reduceAdd]; refine ⟨by simp, ?_⟩; exact M_done (res := fun (r : Bool) => .bv r) ok59 h
  ·refine V_go 8 ?_; dsimp only [e59, e59_L0, go_sem, Nat.reduceBEq, Nat.reduceAdd]; refine ⟨by simp, ?_⟩; refine V_join (fun (_ : Unit) => (⟨(an 26 []), [], []⟩ : St)) m_slices_Equal_Side_j1 r ?_ fun J1 => ?_
   ·rintro ⟨⟩ h; rw [m_slices_Equal_Side_j1] at h; (try dsimp only); refine V_go 4 ?_; dsimp only [e59, e59_L0, go_sem, Nat.reduceBEq, Nat.reduceAdd]; refine ⟨by simp, ?_⟩; exact M_done (res := fun (r : Bool) => .bv r) ok59 h
   ·refine V_go 1 ?_; dsimp only [e59, e59_L0, go_sem, Nat.reduceBEq, Nat.reduceAdd]; refine ⟨by simp, ?_⟩; refine M_loop h (fun (x6 : Int) => (⟨(.sl 8 (List.map Side.row x1) :: .sl 8 (List.map Side.row x2) :: an 10 (.iv (ln Side.row x1) :: .iv x6 :: an 12 [])), [], []⟩ : St)) (by simp [go_sem]) (by intro x6; first | rfl | simp [go_sem]) ?_; rintro n1 x6 y1 h hin1 hout1; rw [m_slices_Equal_Side_l1] at h; (try dsimp only); refine V_go 5 ?_; dsimp only [e59, e59_L0, go_sem, Nat.reduceBEq, Nat.reduceAdd]; refine ⟨by simp, ?_⟩; refine M_ite h rfl (fun _ h => ?_) fun _ h => ?_
    ·refine V_go 9 ?_; dsimp only [e59, e59_L0, go_sem, Nat.reduceBEq, Nat.reduceAdd]; refine ⟨by simp, ?_⟩; refine V_drw (by kernel_rfl) fun all hall hs hnap haf => ?_; dsimp only [go_sem, Nat.reduceBEq, Nat.reduceAdd]; refine G_goN hall hs haf hnap 4 5 ?_; dsimp only [go_sem, Nat.reduceBEq, Nat.reduceAdd]; refine ⟨by simp, ?_⟩; obtain ⟨x7, ex7, h⟩ := Option.bind_eq_some_iff.1 h; refine G_idxM hall hs haf hnap 2 Side.row ex7 rfl rfl trivial rfl rfl rfl rfl ?_; refine G_goN hall hs haf hnap 1 3 ?_; dsimp only [go_sem, Nat.reduceBEq, Nat.reduceAdd]; refine ⟨by simp, ?_⟩
     obtain ⟨x8, ex8, h⟩ := Option.bind_eq_some_iff.1 h; refine G_idxM hall hs haf hnap 6 Side.row ex8 rfl rfl trivial rfl rfl rfl rfl ?_; refine G_goN hall hs haf hnap 2 0 ?_; dsimp only [go_sem, Nat.reduceBEq, Nat.reduceAdd]; refine ⟨by simp, ?_⟩; refine G_done rfl ?_ _; refine M_ite h rfl (fun _ h => ?_) fun _ h => ?_
     ·refine V_go 4 ?_; dsimp only [e59, e59_L0, go_sem, Nat.reduceBEq, Nat.reduceAdd]; refine ⟨by simp, ?_⟩; exact M_done (res := fun (r : Bool) => .bv r) ok59 (M_out h hout1)
     ·refine V_go 6 ?_; dsimp only [e59, e59_L0, go_sem, Nat.reduceBEq, Nat.reduceAdd]; refine ⟨by simp, ?_⟩; exact M_back h hin1
    ·refine V_go 1 ?_; dsimp only [e59, e59_L0, go_sem, Nat.reduceBEq, Nat.reduceAdd]; refine ⟨by simp, ?_⟩; exact M_to J1 (s := ()) (M_out h hout1)
def f_slices_Equal_Side_j1 (_F : Nat)  : Unit → Option Bool
| () =>
 some true
theorem le_slices_Equal_Side_j1 {F : Nat} : ∀ s, ole (f_slices_Equal_Side_j1 F s) (m_slices_Equal_Side_j1 s) := by
  rintro ⟨⟩
  unfold f_slices_Equal_Side_j1 m_slices_Equal_Side_j1
  try dsimp only
  with_reducible repeat' first | exact ole_refl _ | assumption | intro _ | refine ole_ifb ?_ ?_ | refine ole_bind ?_ ?_ | refine ole_map ?_ | refine ole_loop ?_
def f_slices_Equal_Side_l1 (F : Nat) (x1 : (List Side)) (x2 : (List Side)) : Int → Option (Int ⊕ Bool)
| x6 =>
 ifb (decide (x6 < (ln Side.row x1))) (
 (at_ x1 x6).bind fun x7 =>
 (at_ x2 x6).bind fun x8 =>
 ifb (!(decide (x7.Peer = x8.Peer) && (decide (x7.Epoch = x8.Epoch) && (decide (x7.State = x8.State) && ((x7.Fork == x8.Fork) && ((x7.Dirty == x8.Dirty) && ((x7.Token == x8.Token) && ((x7.Bottle == x8.Bottle) && ((x7.Ask == x8.Ask) && true))))))))) (
 Option.map Sum.inr (some false)) (
 some (.inl (wr (x6 + 1))))) (
 Option.map Sum.inr (f_slices_Equal_Side_j1 F ()))
theorem le_slices_Equal_Side_l1 {F : Nat} {x1 : (List Side)} {x2 : (List Side)} : ∀ s, ole (f_slices_Equal_Side_l1 F x1 x2 s) (m_slices_Equal_Side_l1 x1 x2 s) := by
  intro x6
  unfold f_slices_Equal_Side_l1 m_slices_Equal_Side_l1
  try dsimp only
  with_reducible repeat' first | exact ole_refl _ | assumption | intro _ | refine ole_ifb ?_ ?_ | refine ole_bind ?_ ?_ | refine ole_map ?_ | refine ole_loop ?_ | apply le_slices_Equal_Side_j1
def f_slices_Equal_Side (F : Nat) (x1 : (List Side)) (x2 : (List Side)) : Option Bool :=
 ifb (!decide ((ln Side.row x1) = (ln Side.row x2))) (
 some false) (
 loopF F (f_slices_Equal_Side_l1 F x1 x2) 0)
theorem le_slices_Equal_Side {F : Nat} {x1 : (List Side)} {x2 : (List Side)} : ole (f_slices_Equal_Side F x1 x2) (m_slices_Equal_Side x1 x2) := by
  unfold f_slices_Equal_Side m_slices_Equal_Side
  with_reducible repeat' first | exact ole_refl _ | assumption | intro _ | refine ole_ifb ?_ ?_ | refine ole_bind ?_ ?_ | refine ole_map ?_ | refine ole_loop ?_ | apply le_slices_Equal_Side_j1 | apply le_slices_Equal_Side_l1
end NX
end Go.Proofs.Ytadebhbiglmodaa
/-
  The function narthex/place.Same$1: its code compiled, a model, and that the code answers as the model. Written by a program of ours (lb.py). No statement of the seat is proved here.
-/
namespace Go.Proofs.Ytadebhbiglmodaa
namespace NX
open Go
set_option maxRecDepth 100000
set_option maxHeartbeats 4000000
def e58 : EC := .seq (.reg [⟨(some 2), none, .box 39 3 (.t 0)⟩, ⟨(some 3), none, .box 39 3 (.t 1)⟩, ⟨(some 4), none, .mv (.c .ff)⟩]) (.seq (.reg [⟨(some 5), none, .fld 0 (.t 2)⟩, ⟨(some 6), none, .load (.t 5)⟩, ⟨(some 7), none, .fld 0 (.t 3)⟩, ⟨(some 8), none, .load (.t 7)⟩, ⟨(some 9), none, .bin .eql (.t 6) (.t 8)⟩, ⟨(some 10), none, .mv (.t 9)⟩, ⟨(some 11), (some (10, true)), .fld 1 (.t 2)⟩, ⟨(some 12), (some (10, true)), .load (.t 11)⟩, ⟨(some 13), (some (10, true)), .fld 1 (.t 3)⟩, ⟨(some 14), (some (10, true)), .load (.t 13)⟩, ⟨(some 15), (some (10, true)), .bin .eql (.t 12) (.t 14)⟩, ⟨(some 16), none, .pick (.t 10) (.t 15) (.c .ff)⟩, ⟨(some 17), none, .mv (.t 16)⟩, ⟨(some 18), (some (17, true)), .fld 2 (.t 2)⟩, ⟨(some 19), (some (17, true)), .load (.t 18)⟩, ⟨(some 20), (some (17, true)), .fld 2 (.t 3)⟩, ⟨(some 21), (some (17, true)), .load (.t 20)⟩, ⟨(some 22), (some (17, true)), .call 59 [(.t 19), (.t 21)]⟩, ⟨(some 23), none, .pick (.t 17) (.t 22) (.c .ff)⟩, ⟨(some 4), none, .mv (.t 23)⟩]) (.ret))
theorem ok58 : FnOK Try.prog 58 Try.f58 e58 [.t 4] 2 22 := ⟨by kernel_rfl, ⟨_, rfl, by kernel_rfl⟩, by kernel_rfl, by kernel_rfl⟩
/- narthex/place.Same$1 -/
noncomputable def m_place_Same_1_j1  : Bool → Option Bool
| x4 =>
 some x4
noncomputable def m_place_Same_1 (x1 : Diner) (x2 : Diner) : Option Bool :=
 ifb (decide (x1.ID = x2.ID)) (
 ifb (decide (x1.Phase = x2.Phase)) (
 (m_slices_Equal_Side x1.Sides x2.Sides).bind fun x3 =>
 m_place_Same_1_j1 x3) (
 m_place_Same_1_j1 false)) (
 m_place_Same_1_j1 false)
theorem k_place_Same_1 (x1 : Diner) (x2 : Diner) (r : Bool) (h : m_place_Same_1 x1 x2 = some r) : FunP Try.prog 58 [.agg (Diner.row x1), .agg (Diner.row x2)] (.bv r) := by
  refine FunP_intro ok58 rfl rfl fun w0 H0 => ?_
  rw [m_place_Same_1] at h
  refine V_go 14 ?_; dsimp only [e58, go_sem, Nat.reduceBEq, Nat.reduceAdd]; refine ⟨by simp, ?_⟩; refine V_join (fun (x4 : Bool) => (⟨(an 4 (.bv x4 :: an 19 [])), [], []⟩ : St)) m_place_Same_1_j1 r ?_ fun J1 => ?_
  ·intro x4 h; rw [m_place_Same_1_j1] at h; (try dsimp only); exact M_done (res := fun (r : Bool) => .bv r) ok58 h
  ·refine M_case 10 h rfl (fun _ h => ?_) fun _ h => ?_
   ·dsimp only [go_sem, Nat.reduceBEq, Nat.reduceAdd]; refine V_go 7 ?_; dsimp only [e58, go_sem, Nat.reduceBEq, Nat.reduceAdd]; refine ⟨by simp, ?_⟩; refine M_case 17 h rfl (fun _ h => ?_) fun _ h => ?_
    ·dsimp only [go_sem, Nat.reduceBEq, Nat.reduceAdd]; refine V_go 4 ?_; dsimp only [e58, go_sem, Nat.reduceBEq, Nat.reduceAdd]; refine ⟨by simp, ?_⟩; obtain ⟨x3, ex3, h⟩ := Option.bind_eq_some_iff.1 h; refine V_call trivial (k_slices_Equal_Side x1.Sides x2.Sides _ ex3) (h := ?_); refine V_go 3 ?_; dsimp only [e58, go_sem, Nat.reduceBEq, Nat.reduceAdd]; refine ⟨by simp, ?_⟩; exact M_to J1 (s := x3) h
    ·dsimp only [go_sem, Nat.reduceBEq, Nat.reduceAdd]; refine V_go 8 ?_; dsimp only [e58, go_sem, Nat.reduceBEq, Nat.reduceAdd]; refine ⟨by simp, ?_⟩; exact M_to J1 (s := false) h
   ·dsimp only [go_sem, Nat.reduceBEq, Nat.reduceAdd]; refine V_go 15 ?_; dsimp only [e58, go_sem, Nat.reduceBEq, Nat.reduceAdd]; refine ⟨by simp, ?_⟩; exact M_to J1 (s := false) h
def f_place_Same_1_j1 (_F : Nat)  : Bool → Option Bool
| x4 =>
 some x4
theorem le_place_Same_1_j1 {F : Nat} : ∀ s, ole (f_place_Same_1_j1 F s) (m_place_Same_1_j1 s) := by
  intro x4
  unfold f_place_Same_1_j1 m_place_Same_1_j1
  try dsimp only
  with_reducible repeat' first | exact ole_refl _ | assumption | intro _ | refine ole_ifb ?_ ?_ | refine ole_bind ?_ ?_ | refine ole_map ?_ | refine ole_loop ?_
def f_place_Same_1 (F : Nat) (x1 : Diner) (x2 : Diner) : Option Bool :=
 ifb (decide (x1.ID = x2.ID)) (
 ifb (decide (x1.Phase = x2.Phase)) (
 (f_slices_Equal_Side F x1.Sides x2.Sides).bind fun x3 =>
 f_place_Same_1_j1 F x3) (
 f_place_Same_1_j1 F false)) (
 f_place_Same_1_j1 F false)
theorem le_place_Same_1 {F : Nat} {x1 : Diner} {x2 : Diner} : ole (f_place_Same_1 F x1 x2) (m_place_Same_1 x1 x2) := by
  unfold f_place_Same_1 m_place_Same_1
  with_reducible repeat' first | exact ole_refl _ | assumption | intro _ | refine ole_ifb ?_ ?_ | refine ole_bind ?_ ?_ | refine ole_map ?_ | refine ole_loop ?_ | apply le_place_Same_1_j1 | apply le_slices_Equal_Side
end NX
end Go.Proofs.Ytadebhbiglmodaa
/-
  The function narthex/place.Same: its code compiled, a model, and that the code answers as the model. Written by a program of ours (lb.py). No statement of the seat is proved here.
-/
namespace Go.Proofs.Ytadebhbiglmodaa
namespace NX
open Go
set_option maxRecDepth 100000
set_option maxHeartbeats 4000000
def e27 : EC := .seq (.reg [⟨(some 4), none, .mv (.c .ff)⟩]) (.seq (.reg [⟨(some 5), none, .mv (.t 0)⟩, ⟨(some 6), none, .mv (.t 1)⟩, ⟨(some 7), none, .call 57 [(.t 5), (.t 6), (.c (.clo 58 []))]⟩, ⟨(some 4), none, .mv (.t 7)⟩]) (.ret))
theorem ok27 : FnOK Try.prog 27 Try.f27 e27 [.t 4] 2 6 := ⟨by kernel_rfl, ⟨_, rfl, by kernel_rfl⟩, by kernel_rfl, by kernel_rfl⟩
/- narthex/place.Same -/
noncomputable def m_place_Same (x1 : (List Diner)) (x2 : (List Diner)) : Option Bool :=
 (m_slices_EqualFunc_Diner x1 x2 ((fun z => m_place_Same_1 z.1 z.2))).bind fun x3 =>
 some x3
theorem k_place_Same (x1 : (List Diner)) (x2 : (List Diner)) (r : Bool) (h : m_place_Same x1 x2 = some r) : FunP Try.prog 27 [.sl 3 (List.map Diner.row x1), .sl 3 (List.map Diner.row x2)] (.bv r) := by
  refine FunP_intro ok27 rfl rfl fun w0 H0 => ?_
  rw [m_place_Same] at h
  refine V_go 8 ?_; dsimp only [e27, go_sem, Nat.reduceBEq, Nat.reduceAdd]; refine ⟨by simp, ?_⟩; obtain ⟨x3, ex3, h⟩ := Option.bind_eq_some_iff.1 h; refine V_call trivial (k_slices_EqualFunc_Diner x1 x2 _ _ ((fun z => m_place_Same_1 z.1 z.2)) ⟨by kernel_rfl, rfl, fun z r hz => k_place_Same_1 z.1 z.2 r hz⟩ _ ex3) (h := ?_); refine V_go 2 ?_; dsimp only [e27, go_sem, Nat.reduceBEq, Nat.reduceAdd]; refine ⟨by simp, ?_⟩; exact M_done (res := fun (r : Bool) => .bv r) ok27 h
def f_place_Same (F : Nat) (x1 : (List Diner)) (x2 : (List Diner)) : Option Bool :=
 (f_slices_EqualFunc_Diner F x1 x2 ((fun z => f_place_Same_1 F z.1 z.2))).bind fun x3 =>
 some x3
theorem le_place_Same {F : Nat} {x1 : (List Diner)} {x2 : (List Diner)} : ole (f_place_Same F x1 x2) (m_place_Same x1 x2) := by
  unfold f_place_Same m_place_Same
  with_reducible repeat' first | exact ole_refl _ | assumption | intro _ | refine ole_ifb ?_ ?_ | refine ole_bind ?_ ?_ | refine ole_map ?_ | refine ole_loop ?_ | apply le_slices_EqualFunc_Diner | apply le_place_Same_1
end NX
end Go.Proofs.Ytadebhbiglmodaa
/-
  The function narthex/narthexref03.ahead: its code compiled, a model, and that the code answers as the model. Written by a program of ours (lb.py). No statement of the seat is proved here.
-/
namespace Go.Proofs.Ytadebhbiglmodaa
namespace NX
open Go
set_option maxRecDepth 100000
set_option maxHeartbeats 4000000
def e52 : EC := .seq (.reg [⟨(some 2), none, .box 58 2 (.t 0)⟩, ⟨(some 3), none, .box 58 2 (.t 1)⟩, ⟨(some 4), none, .mv (.c .ff)⟩]) (.seq (.reg [⟨(some 5), none, .fld 0 (.t 2)⟩, ⟨(some 6), none, .load (.t 5)⟩, ⟨(some 7), none, .fld 0 (.t 3)⟩, ⟨(some 8), none, .load (.t 7)⟩, ⟨(some 9), none, .bin .lss (.t 6) (.t 8)⟩, ⟨(some 10), none, .mv (.t 9)⟩, ⟨(some 11), (some (10, false)), .fld 0 (.t 2)⟩, ⟨(some 12), (some (10, false)), .load (.t 11)⟩, ⟨(some 13), (some (10, false)), .fld 0 (.t 3)⟩, ⟨(some 14), (some (10, false)), .load (.t 13)⟩, ⟨(some 15), (some (10, false)), .bin .eql (.t 12) (.t 14)⟩, ⟨(some 16), (some (10, false)), .mv (.t 15)⟩, ⟨(some 17), (some (16, true)), .fld 1 (.t 2)⟩, ⟨(some 18), (some (16, true)), .load (.t 17)⟩, ⟨(some 19), (some (16, true)), .fld 1 (.t 3)⟩, ⟨(some 20), (some (16, true)), .load (.t 19)⟩, ⟨(some 21), (some (16, true)), .bin .lss (.t 18) (.t 20)⟩, ⟨(some 22), (some (10, false)), .pick (.t 16) (.t 21) (.c .ff)⟩, ⟨(some 23), none, .pick (.t 10) (.c .tt) (.t 22)⟩, ⟨(some 4), none, .mv (.t 23)⟩]) (.ret))
theorem ok52 : FnOK Try.prog 52 Try.f52 e52 [.t 4] 2 22 := ⟨by kernel_rfl, ⟨_, rfl, by kernel_rfl⟩, by kernel_rfl, by kernel_rfl⟩
/- narthex/narthexref03.ahead -/
noncomputable def m_narthexref03_ahead_j1  : Bool → Option Bool
| x3 =>
 some x3
noncomputable def m_narthexref03_ahead (x1 : Edge) (x2 : Edge) : Option Bool :=
 ifb (decide (x1.A < x2.A)) (
 m_narthexref03_ahead_j1 true) (
 ifb (decide (x1.A = x2.A)) (
 m_narthexref03_ahead_j1 (decide (x1.B < x2.B))) (
 m_narthexref03_ahead_j1 false))
theorem k_narthexref03_ahead (x1 : Edge) (x2 : Edge) (r : Bool) (h : m_narthexref03_ahead x1 x2 = some r) : FunP Try.prog 52 [.agg (Edge.row x1), .agg (Edge.row x2)] (.bv r) := by
  refine FunP_intro ok52 rfl rfl fun w0 H0 => ?_
  rw [m_narthexref03_ahead] at h
  refine V_go 14 ?_; dsimp only [e52, go_sem, Nat.reduceBEq, Nat.reduceAdd]; refine ⟨by simp, ?_⟩; refine V_join (fun (x3 : Bool) => (⟨(an 4 (.bv x3 :: an 19 [])), [], []⟩ : St)) m_narthexref03_ahead_j1 r ?_ fun J1 => ?_
  ·intro x3 h; rw [m_narthexref03_ahead_j1] at h; (try dsimp only); exact M_done (res := fun (r : Bool) => .bv r) ok52 h
  ·refine M_case 10 h rfl (fun _ h => ?_) fun _ h => ?_
   ·dsimp only [go_sem, Nat.reduceBEq, Nat.reduceAdd]; refine V_go 15 ?_; dsimp only [e52, go_sem, Nat.reduceBEq, Nat.reduceAdd]; refine ⟨by simp, ?_⟩; exact M_to J1 (s := true) h
   ·dsimp only [go_sem, Nat.reduceBEq, Nat.reduceAdd]; refine V_go 6 ?_; dsimp only [e52, go_sem, Nat.reduceBEq, Nat.reduceAdd]; refine ⟨by simp, ?_⟩; refine M_case 16 h rfl (fun _ h => ?_) fun _ h => ?_
    ·dsimp only [go_sem, Nat.reduceBEq, Nat.reduceAdd]; refine V_go 9 ?_; dsimp only [e52, go_sem, Nat.reduceBEq, Nat.reduceAdd]; refine ⟨by simp, ?_⟩; exact M_to J1 (s := decide (x1.B < x2.B)) h
    ·dsimp only [go_sem, Nat.reduceBEq, Nat.reduceAdd]; refine V_go 9 ?_; dsimp only [e52, go_sem, Nat.reduceBEq, Nat.reduceAdd]; refine ⟨by simp, ?_⟩; exact M_to J1 (s := false) h
end NX
end Go.Proofs.Ytadebhbiglmodaa
/-
  The function narthex/narthexref03.Check: its code compiled, a model, and that the code answers as the model. Written by a program of ours (lb.py). No statement of the seat is proved here.
-/
namespace Go.Proofs.Ytadebhbiglmodaa
namespace NX
open Go
set_option maxRecDepth 100000
set_option maxHeartbeats 4000000
def e16_L0 : EC := .seq (.seq (.reg [⟨(some 19), none, .mv (.t 3)⟩, ⟨(some 20), none, .fld 1 (.t 1)⟩, ⟨(some 21), none, .load (.t 20)⟩, ⟨(some 22), none, .len (.t 21)⟩, ⟨(some 23), none, .bin .lss (.t 19) (.t 22)⟩]) (.ite (.t 23) (.skip) (.exit 0))) (.seq (.blk 1 (.seq (.reg [⟨(some 26), none, .fld 1 (.t 1)⟩, ⟨(some 27), none, .load (.t 26)⟩, ⟨(some 28), none, .mv (.t 3)⟩, ⟨(some 29), none, .idx 2 (.t 27) (.t 28)⟩, ⟨(some 30), none, .loadA 2 (.t 29)⟩, ⟨(some 4), none, .alloc 58 [.iv 0, .iv 0]⟩, ⟨none, none, .store 2 (.t 4) (.t 30)⟩]) (.seq (.drw [⟨(some 31), none, .fld 0 (.t 4)⟩, ⟨(some 32), none, .load (.t 31)⟩, ⟨(some 33), none, .bin .lss (.t 32) (.c (.iv 0))⟩, ⟨(some 34), none, .mv (.t 33)⟩, ⟨(some 35), (some (34, false)), .fld 0 (.t 4)⟩, ⟨(some 36), (some (34, false)), .load (.t 35)⟩, ⟨(some 37), (some (34, false)), .fld 1 (.t 4)⟩, ⟨(some 38), (some (34, false)), .load (.t 37)⟩, ⟨(some 39), (some (34, false)), .bin .geq (.t 36) (.t 38)⟩, ⟨(some 40), none, .pick (.t 34) (.c .tt) (.t 39)⟩, ⟨(some 41), none, .mv (.t 40)⟩, ⟨(some 42), (some (41, false)), .fld 1 (.t 4)⟩, ⟨(some 43), (some (41, false)), .load (.t 42)⟩, ⟨(some 44), (some (41, false)), .fld 0 (.t 1)⟩, ⟨(some 45), (some (41, false)), .load (.t 44)⟩, ⟨(some 46), (some (41, false)), .bin .geq (.t 43) (.t 45)⟩, ⟨(some 47), none, .pick (.t 41) (.c .tt) (.t 46)⟩, ⟨(some 48), none, .mv (.t 47)⟩, ⟨(some 49), (some (48, false)), .mv (.t 3)⟩, ⟨(some 50), (some (48, false)), .bin .gtr (.t 49) (.c (.iv 0))⟩, ⟨(some 51), (some (48, false)), .mv (.t 50)⟩, ⟨(some 52), (some (51, true)), .fld 1 (.t 1)⟩, ⟨(some 53), (some (51, true)), .load (.t 52)⟩, ⟨(some 54), (some (51, true)), .mv (.t 3)⟩, ⟨(some 55), (some (51, true)), .bin .sub (.t 54) (.c (.iv 1))⟩, ⟨(some 56), (some (51, true)), .idx 2 (.t 53) (.t 55)⟩, ⟨(some 57), (some (51, true)), .loadA 2 (.t 56)⟩, ⟨(some 58), (some (51, true)), .loadA 2 (.t 4)⟩, ⟨(some 59), (some (51, true)), .call 52 [(.t 57), (.t 58)]⟩, ⟨(some 60), (some (51, true)), .not (.t 59)⟩, ⟨(some 61), (some (48, false)), .pick (.t 51) (.t 60) (.c .ff)⟩, ⟨(some 62), none, .pick (.t 48) (.c .tt) (.t 61)⟩] [[], [0], [1], [2], [3], [4, 3], [3], [6, 3], [5, 7, 3], [3, 8], [9, 3], [10], [11, 10], [10], [13, 10], [12, 14, 10], [10, 15], [16, 10], [17], [18, 17], [19, 17, 17], [20], [21, 20], [20], [23, 20], [22, 24, 20], [25, 20], [20], [26, 27, 20, 20], [28, 20], [20, 29, 17], [17, 30]] [[1], [0, 2], [1, 3], [2, 4, 5, 6, 7, 8, 9], [3, 5], [3, 4, 8], [3, 7], [3, 6, 8], [3, 5, 7, 9], [3, 8, 10], [9, 11, 12, 13, 14, 15, 16], [10, 12], [10, 11, 15], [10, 14], [10, 13, 15], [10, 12, 14, 16], [10, 15, 17], [16, 18, 19, 20, 30, 31], [17, 19], [17, 18, 20], [17, 19, 21, 22, 23, 24, 25, 26, 27, 28, 29, 30], [20, 22], [20, 21, 25], [20, 24], [20, 23, 25], [20, 22, 24, 26], [20, 25, 28], [20, 28], [20, 26, 27, 29], [20, 28, 30], [17, 20, 29, 31], [17, 30]]) (.ite (.t 62) (.seq (.reg [⟨(some 2), none, .mv (.c .ff)⟩]) (.ret)) (.skip))))) (.reg [⟨(some 24), none, .mv (.t 3)⟩, ⟨(some 25), none, .bin .add (.t 24) (.c (.iv 1))⟩, ⟨(some 3), none, .mv (.t 25)⟩]))
def e16 : EC := .seq (.reg [⟨(some 1), none, .box 24 2 (.t 0)⟩, ⟨(some 2), none, .mv (.c .ff)⟩]) (.seq (.seq (.reg [⟨(some 5), none, .fld 0 (.t 1)⟩, ⟨(some 6), none, .load (.t 5)⟩, ⟨(some 7), none, .bin .lss (.t 6) (.c (.iv 0))⟩, ⟨(some 8), none, .mv (.t 7)⟩, ⟨(some 9), (some (8, false)), .fld 0 (.t 1)⟩, ⟨(some 10), (some (8, false)), .load (.t 9)⟩, ⟨(some 11), (some (8, false)), .bin .gtr (.t 10) (.c (.iv 64))⟩, ⟨(some 12), none, .pick (.t 8) (.c .tt) (.t 11)⟩, ⟨(some 13), none, .mv (.t 12)⟩, ⟨(some 14), (some (13, false)), .fld 1 (.t 1)⟩, ⟨(some 15), (some (13, false)), .load (.t 14)⟩, ⟨(some 16), (some (13, false)), .len (.t 15)⟩, ⟨(some 17), (some (13, false)), .bin .gtr (.t 16) (.c (.iv 400))⟩, ⟨(some 18), none, .pick (.t 13) (.c .tt) (.t 17)⟩]) (.ite (.t 18) (.seq (.reg [⟨(some 2), none, .mv (.c .ff)⟩]) (.ret)) (.skip))) (.seq (.seq (.reg [⟨(some 3), none, .mv (.c (.iv 0))⟩]) (.blk 0 (.loop e16_L0))) (.seq (.reg [⟨(some 2), none, .mv (.c .tt)⟩]) (.ret))))
theorem ok16 : FnOK Try.prog 16 Try.f16 e16 [.t 2] 1 62 := ⟨by kernel_rfl, ⟨_, rfl, by kernel_rfl⟩, by kernel_rfl, by kernel_rfl⟩
/- narthex/narthexref03.Check -/
noncomputable def m_narthexref03_Check_j2  : Unit → Option Bool
| () =>
 some true
noncomputable def m_narthexref03_Check_j3 (x8 : Int) : Bool → Option (Int ⊕ Bool)
| x12 =>
 ifb x12 (
 Option.map Sum.inr (some false)) (
 some (.inl (wr (x8 + 1))))
noncomputable def m_narthexref03_Check_l1 (x1 : Graph) : Int → Option (Int ⊕ Bool)
| x8 =>
 ifb (decide (x8 < (ln Edge.row x1.Edges))) (
 (at_ x1.Edges x8).bind fun x9 =>
 ifb (decide (x9.A < 0)) (
 (m_narthexref03_Check_j3 x8) true) (
 ifb (decide (x9.B ≤ x9.A)) (
 (m_narthexref03_Check_j3 x8) true) (
 ifb (decide (x1.N ≤ x9.B)) (
 (m_narthexref03_Check_j3 x8) true) (
 ifb (decide (0 < x8)) (
 (at_ x1.Edges (wr (x8 - 1))).bind fun x10 =>
 (m_narthexref03_ahead x10 x9).bind fun x11 =>
 (m_narthexref03_Check_j3 x8) (!x11)) (
 (m_narthexref03_Check_j3 x8) false))))) (
 Option.map Sum.inr (m_narthexref03_Check_j2 ()))
noncomputable def m_narthexref03_Check_j1 (x1 : Graph) : Bool → Option Bool
| x2 =>
 ifb x2 (
 some false) (
 loop (m_narthexref03_Check_l1 x1) 0)
noncomputable def m_narthexref03_Check (x1 : Graph) : Option Bool :=
 ifb (decide (x1.N < 0)) (
 (m_narthexref03_Check_j1 x1) true) (
 ifb (decide (64 < x1.N)) (
 (m_narthexref03_Check_j1 x1) true) (
 (m_narthexref03_Check_j1 x1) (decide (400 < (ln Edge.row x1.Edges)))))
theorem k_narthexref03_Check (x1 : Graph) (r : Bool) (h : m_narthexref03_Check x1 = some r) : FunP Try.prog 16 [.agg (Graph.row x1)] (.bv r) := by
  refine FunP_intro ok16 rfl rfl fun w0 H0 => ?_
  rw [m_narthexref03_Check] at h
  refine V_go 12 ?_; dsimp only [e16, e16_L0, go_sem, Nat.reduceBEq, Nat.reduceAdd]; refine ⟨by simp, ?_⟩; refine V_join (fun (x2 : Bool) => (⟨(.any :: .ptr 0 0 :: an 16 (.bv x2 :: an 44 [])), [some ⟨24, [.iv x1.N, .sl 2 (List.map Edge.row x1.Edges)]⟩], []⟩ : St)) (m_narthexref03_Check_j1 x1) r ?_ fun J1 => ?_
  ·intro x2 h; rw [m_narthexref03_Check_j1] at h; (try dsimp only); refine M_ite h rfl (fun _ h => ?_) fun _ h => ?_
   ·refine V_go 4 ?_; dsimp only [e16, e16_L0, go_sem, Nat.reduceBEq, Nat.reduceAdd]; refine ⟨by simp, ?_⟩; exact M_done (res := fun (r : Bool) => .bv r) ok16 h
   ·refine V_go 6 ?_; dsimp only [e16, e16_L0, go_sem, Nat.reduceBEq, Nat.reduceAdd]; refine ⟨by simp, ?_⟩; refine V_join (fun (_ : Unit) => (⟨(an 63 []), [], []⟩ : St)) m_narthexref03_Check_j2 r ?_ fun J2 => ?_
    ·rintro ⟨⟩ h; rw [m_narthexref03_Check_j2] at h; (try dsimp only); refine V_go 4 ?_; dsimp only [e16, e16_L0, go_sem, Nat.reduceBEq, Nat.reduceAdd]; refine ⟨by simp, ?_⟩; exact M_done (res := fun (r : Bool) => .bv r) ok16 h
    ·refine V_go 1 ?_; dsimp only [e16, e16_L0, go_sem, Nat.reduceBEq, Nat.reduceAdd]; refine ⟨by simp, ?_⟩; refine M_loop h (fun (x8 : Int) => (⟨(.any :: .ptr 0 0 :: .any :: .iv x8 :: an 59 []), [some ⟨24, [.iv x1.N, .sl 2 (List.map Edge.row x1.Edges)]⟩], []⟩ : St)) (by simp [go_sem]) (by intro x8; first | rfl | simp [go_sem]) ?_; rintro n1 x8 y1 h hin1 hout1; rw [m_narthexref03_Check_l1] at h; (try dsimp only); refine V_go 9 ?_; dsimp only [e16, e16_L0, go_sem, Nat.reduceBEq, Nat.reduceAdd]; refine ⟨by simp, ?_⟩; refine M_ite h rfl (fun _ h => ?_) fun _ h => ?_
     ·refine V_go 8 ?_; dsimp only [e16, e16_L0, go_sem, Nat.reduceBEq, Nat.reduceAdd]; refine ⟨by simp, ?_⟩; obtain ⟨x9, ex9, h⟩ := Option.bind_eq_some_iff.1 h; refine V_idxM Edge.row ex9 trivial rfl rfl rfl ?_; refine V_go 5 ?_; dsimp only [e16, e16_L0, go_sem, Nat.reduceBEq, Nat.reduceAdd]; refine ⟨by simp, ?_⟩; refine V_join (fun (x12 : Bool) => (⟨(.any :: .ptr 0 0 :: .any :: .iv x8 :: an 58 [.bv x12]), [some ⟨24, [.iv x1.N, .sl 2 (List.map Edge.row x1.Edges)]⟩], []⟩ : St)) (m_narthexref03_Check_j3 x8) y1 ?_ fun J3 => ?_
      ·intro x12 h; rw [m_narthexref03_Check_j3] at h; (try dsimp only); refine M_ite h rfl (fun _ h => ?_) fun _ h => ?_
       ·refine V_go 4 ?_; dsimp only [e16, e16_L0, go_sem, Nat.reduceBEq, Nat.reduceAdd]; refine ⟨by simp, ?_⟩; exact M_done (res := fun (r : Bool) => .bv r) ok16 (M_out h hout1)
       ·refine V_go 7 ?_; dsimp only [e16, e16_L0, go_sem, Nat.reduceBEq, Nat.reduceAdd]; refine ⟨by simp, ?_⟩; exact M_back h hin1
      ·refine V_drw (by kernel_rfl) fun all hall hs hnap haf => ?_; dsimp only [go_sem, Nat.reduceBEq, Nat.reduceAdd]
       refine G_goE hall hs haf hnap 4 28 [true, true, true, true, false, false, false, false, false, false, false, false, false, false, false, false, false, false, false, false, false, false, false, false, false, false, false, false, false, false, false, false] (⟨(.any :: .ptr 0 0 :: .any :: .iv x8 :: .ptr 1 0 :: an 14 (.iv x8 :: .ptr 0 1 :: .sl 2 (List.map Edge.row x1.Edges) :: .iv (ln Edge.row x1.Edges) :: .bv (decide (x8 < (ln Edge.row x1.Edges))) :: .any :: .any :: .ptr 0 1 :: .sl 2 (List.map Edge.row x1.Edges) :: .iv x8 :: .elt [.iv x9.A, .iv x9.B] 0 :: .agg [.iv x9.A, .iv x9.B] :: .ptr 1 0 :: .iv x9.A :: .bv (decide (x9.A < 0)) :: .bv (decide (x9.A < 0)) :: an 28 [])), [some ⟨24, [.iv x1.N, .sl 2 (List.map Edge.row x1.Edges)]⟩, some ⟨58, [.iv x9.A, .iv x9.B]⟩], []⟩ : St) (by kernel_rfl) ?_
       refine GM_case 34 h rfl (fun _ h => ?_) fun _ h => ?_
       ·dsimp only [go_sem, Nat.reduceBEq, Nat.reduceAdd]
        refine G_goE hall hs haf hnap 28 0 [true, true, true, true, true, true, true, true, true, true, true, true, true, true, true, true, true, true, true, true, true, true, true, true, true, true, true, true, true, true, true, true] (⟨(.any :: .ptr 0 0 :: .any :: .iv x8 :: .ptr 1 0 :: an 14 (.iv x8 :: .ptr 0 1 :: .sl 2 (List.map Edge.row x1.Edges) :: .iv (ln Edge.row x1.Edges) :: .bv (decide (x8 < (ln Edge.row x1.Edges))) :: .any :: .any :: .ptr 0 1 :: .sl 2 (List.map Edge.row x1.Edges) :: .iv x8 :: .elt [.iv x9.A, .iv x9.B] 0 :: .agg [.iv x9.A, .iv x9.B] :: .ptr 1 0 :: .iv x9.A :: .bv (decide (x9.A < 0)) :: .tt :: .un :: .un :: .un :: .un :: .un :: .tt :: .tt :: .un :: .un :: .un :: .un :: .un :: .tt :: .tt :: .un :: .un :: .un :: .un :: .un :: .un :: .un :: .un :: .un :: .un :: .un :: .un :: .un :: .tt :: [])), [some ⟨24, [.iv x1.N, .sl 2 (List.map Edge.row x1.Edges)]⟩, some ⟨58, [.iv x9.A, .iv x9.B]⟩], []⟩ : St) (by kernel_rfl) ?_
        refine G_done rfl ?_ _; exact M_to J3 (s := true) h
       ·dsimp only [go_sem, Nat.reduceBEq, Nat.reduceAdd]
        refine G_goE hall hs haf hnap 7 21 [true, true, true, true, true, true, true, true, true, true, true, false, false, false, false, false, false, false, false, false, false, false, false, false, false, false, false, false, false, false, false, false] (⟨(.any :: .ptr 0 0 :: .any :: .iv x8 :: .ptr 1 0 :: an 14 (.iv x8 :: .ptr 0 1 :: .sl 2 (List.map Edge.row x1.Edges) :: .iv (ln Edge.row x1.Edges) :: .bv (decide (x8 < (ln Edge.row x1.Edges))) :: .any :: .any :: .ptr 0 1 :: .sl 2 (List.map Edge.row x1.Edges) :: .iv x8 :: .elt [.iv x9.A, .iv x9.B] 0 :: .agg [.iv x9.A, .iv x9.B] :: .ptr 1 0 :: .iv x9.A :: .bv (decide (x9.A < 0)) :: .ff :: .ptr 1 0 :: .iv x9.A :: .ptr 1 1 :: .iv x9.B :: .bv (decide (x9.B ≤ x9.A)) :: .bv (decide (x9.B ≤ x9.A)) :: .bv (decide (x9.B ≤ x9.A)) :: an 21 [])), [some ⟨24, [.iv x1.N, .sl 2 (List.map Edge.row x1.Edges)]⟩, some ⟨58, [.iv x9.A, .iv x9.B]⟩], []⟩ : St) (by kernel_rfl) ?_
        refine GM_case 41 h rfl (fun _ h => ?_) fun _ h => ?_
        ·dsimp only [go_sem, Nat.reduceBEq, Nat.reduceAdd]
         refine G_goE hall hs haf hnap 21 0 [true, true, true, true, true, true, true, true, true, true, true, true, true, true, true, true, true, true, true, true, true, true, true, true, true, true, true, true, true, true, true, true] (⟨(.any :: .ptr 0 0 :: .any :: .iv x8 :: .ptr 1 0 :: an 14 (.iv x8 :: .ptr 0 1 :: .sl 2 (List.map Edge.row x1.Edges) :: .iv (ln Edge.row x1.Edges) :: .bv (decide (x8 < (ln Edge.row x1.Edges))) :: .any :: .any :: .ptr 0 1 :: .sl 2 (List.map Edge.row x1.Edges) :: .iv x8 :: .elt [.iv x9.A, .iv x9.B] 0 :: .agg [.iv x9.A, .iv x9.B] :: .ptr 1 0 :: .iv x9.A :: .bv (decide (x9.A < 0)) :: .ff :: .ptr 1 0 :: .iv x9.A :: .ptr 1 1 :: .iv x9.B :: .bv (decide (x9.B ≤ x9.A)) :: .bv (decide (x9.B ≤ x9.A)) :: .tt :: .un :: .un :: .un :: .un :: .un :: .tt :: .tt :: .un :: .un :: .un :: .un :: .un :: .un :: .un :: .un :: .un :: .un :: .un :: .un :: .un :: .tt :: [])), [some ⟨24, [.iv x1.N, .sl 2 (List.map Edge.row x1.Edges)]⟩, some ⟨58, [.iv x9.A, .iv x9.B]⟩], []⟩ : St) (by kernel_rfl) ?_
         refine G_done rfl ?_ _; exact M_to J3 (s := true) h
        ·dsimp only [go_sem, Nat.reduceBEq, Nat.reduceAdd]
         refine G_goE hall hs haf hnap 7 14 [true, true, true, true, true, true, true, true, true, true, true, true, true, true, true, true, true, true, false, false, false, false, false, false, false, false, false, false, false, false, false, false] (⟨(.any :: .ptr 0 0 :: .any :: .iv x8 :: .ptr 1 0 :: an 14 (.iv x8 :: .ptr 0 1 :: .sl 2 (List.map Edge.row x1.Edges) :: .iv (ln Edge.row x1.Edges) :: .bv (decide (x8 < (ln Edge.row x1.Edges))) :: .any :: .any :: .ptr 0 1 :: .sl 2 (List.map Edge.row x1.Edges) :: .iv x8 :: .elt [.iv x9.A, .iv x9.B] 0 :: .agg [.iv x9.A, .iv x9.B] :: .ptr 1 0 :: .iv x9.A :: .bv (decide (x9.A < 0)) :: .ff :: .ptr 1 0 :: .iv x9.A :: .ptr 1 1 :: .iv x9.B :: .bv (decide (x9.B ≤ x9.A)) :: .bv (decide (x9.B ≤ x9.A)) :: .ff :: .ptr 1 1 :: .iv x9.B :: .ptr 0 0 :: .iv x1.N :: .bv (decide (x1.N ≤ x9.B)) :: .bv (decide (x1.N ≤ x9.B)) :: .bv (decide (x1.N ≤ x9.B)) :: an 14 [])), [some ⟨24, [.iv x1.N, .sl 2 (List.map Edge.row x1.Edges)]⟩, some ⟨58, [.iv x9.A, .iv x9.B]⟩], []⟩ : St) (by kernel_rfl) ?_
         refine GM_case 48 h rfl (fun _ h => ?_) fun _ h => ?_
         ·dsimp only [go_sem, Nat.reduceBEq, Nat.reduceAdd]
          refine G_goE hall hs haf hnap 14 0 [true, true, true, true, true, true, true, true, true, true, true, true, true, true, true, true, true, true, true, true, true, true, true, true, true, true, true, true, true, true, true, true] (⟨(.any :: .ptr 0 0 :: .any :: .iv x8 :: .ptr 1 0 :: an 14 (.iv x8 :: .ptr 0 1 :: .sl 2 (List.map Edge.row x1.Edges) :: .iv (ln Edge.row x1.Edges) :: .bv (decide (x8 < (ln Edge.row x1.Edges))) :: .any :: .any :: .ptr 0 1 :: .sl 2 (List.map Edge.row x1.Edges) :: .iv x8 :: .elt [.iv x9.A, .iv x9.B] 0 :: .agg [.iv x9.A, .iv x9.B] :: .ptr 1 0 :: .iv x9.A :: .bv (decide (x9.A < 0)) :: .ff :: .ptr 1 0 :: .iv x9.A :: .ptr 1 1 :: .iv x9.B :: .bv (decide (x9.B ≤ x9.A)) :: .bv (decide (x9.B ≤ x9.A)) :: .ff :: .ptr 1 1 :: .iv x9.B :: .ptr 0 0 :: .iv x1.N :: .bv (decide (x1.N ≤ x9.B)) :: .bv (decide (x1.N ≤ x9.B)) :: .tt :: .un :: .un :: .un :: .un :: .un :: .un :: .un :: .un :: .un :: .un :: .un :: .un :: .un :: .tt :: [])), [some ⟨24, [.iv x1.N, .sl 2 (List.map Edge.row x1.Edges)]⟩, some ⟨58, [.iv x9.A, .iv x9.B]⟩], []⟩ : St) (by kernel_rfl) ?_
          refine G_done rfl ?_ _; exact M_to J3 (s := true) h
         ·dsimp only [go_sem, Nat.reduceBEq, Nat.reduceAdd]
          refine G_goE hall hs haf hnap 3 11 [true, true, true, true, true, true, true, true, true, true, true, true, true, true, true, true, true, true, true, true, true, false, false, false, false, false, false, false, false, false, false, false] (⟨(.any :: .ptr 0 0 :: .any :: .iv x8 :: .ptr 1 0 :: an 14 (.iv x8 :: .ptr 0 1 :: .sl 2 (List.map Edge.row x1.Edges) :: .iv (ln Edge.row x1.Edges) :: .bv (decide (x8 < (ln Edge.row x1.Edges))) :: .any :: .any :: .ptr 0 1 :: .sl 2 (List.map Edge.row x1.Edges) :: .iv x8 :: .elt [.iv x9.A, .iv x9.B] 0 :: .agg [.iv x9.A, .iv x9.B] :: .ptr 1 0 :: .iv x9.A :: .bv (decide (x9.A < 0)) :: .ff :: .ptr 1 0 :: .iv x9.A :: .ptr 1 1 :: .iv x9.B :: .bv (decide (x9.B ≤ x9.A)) :: .bv (decide (x9.B ≤ x9.A)) :: .ff :: .ptr 1 1 :: .iv x9.B :: .ptr 0 0 :: .iv x1.N :: .bv (decide (x1.N ≤ x9.B)) :: .bv (decide (x1.N ≤ x9.B)) :: .ff :: .iv x8 :: .bv (decide (0 < x8)) :: .bv (decide (0 < x8)) :: an 11 [])), [some ⟨24, [.iv x1.N, .sl 2 (List.map Edge.row x1.Edges)]⟩, some ⟨58, [.iv x9.A, .iv x9.B]⟩], []⟩ : St) (by kernel_rfl) ?_
          refine GM_case 51 h rfl (fun _ h => ?_) fun _ h => ?_
          ·dsimp only [go_sem, Nat.reduceBEq, Nat.reduceAdd]
           refine G_goE hall hs haf hnap 5 6 [true, true, true, true, true, true, true, true, true, true, true, true, true, true, true, true, true, true, true, true, true, true, true, true, true, false, false, true, false, false, false, false] (⟨(.any :: .ptr 0 0 :: .any :: .iv x8 :: .ptr 1 0 :: an 14 (.iv x8 :: .ptr 0 1 :: .sl 2 (List.map Edge.row x1.Edges) :: .iv (ln Edge.row x1.Edges) :: .bv (decide (x8 < (ln Edge.row x1.Edges))) :: .any :: .any :: .ptr 0 1 :: .sl 2 (List.map Edge.row x1.Edges) :: .iv x8 :: .elt [.iv x9.A, .iv x9.B] 0 :: .agg [.iv x9.A, .iv x9.B] :: .ptr 1 0 :: .iv x9.A :: .bv (decide (x9.A < 0)) :: .ff :: .ptr 1 0 :: .iv x9.A :: .ptr 1 1 :: .iv x9.B :: .bv (decide (x9.B ≤ x9.A)) :: .bv (decide (x9.B ≤ x9.A)) :: .ff :: .ptr 1 1 :: .iv x9.B :: .ptr 0 0 :: .iv x1.N :: .bv (decide (x1.N ≤ x9.B)) :: .bv (decide (x1.N ≤ x9.B)) :: .ff :: .iv x8 :: .bv (decide (0 < x8)) :: .tt :: .ptr 0 1 :: .sl 2 (List.map Edge.row x1.Edges) :: .iv x8 :: .iv (wr (x8 - 1)) :: .any :: .any :: .agg [.iv x9.A, .iv x9.B] :: an 4 [])), [some ⟨24, [.iv x1.N, .sl 2 (List.map Edge.row x1.Edges)]⟩, some ⟨58, [.iv x9.A, .iv x9.B]⟩], []⟩ : St) (by kernel_rfl) ?_
           obtain ⟨x10, ex10, h⟩ := Option.bind_eq_some_iff.1 h; refine G_idxM hall hs haf hnap 25 Edge.row ex10 rfl rfl trivial rfl rfl rfl rfl ?_; refine G_goN hall hs haf hnap 1 4 ?_; dsimp only [go_sem, Nat.reduceBEq, Nat.reduceAdd]; refine ⟨by simp, ?_⟩; refine G_one 28 rfl ?_; obtain ⟨x11, ex11, h⟩ := Option.bind_eq_some_iff.1 h; refine GO_call hall rfl trivial (k_narthexref03_ahead x10 x9 _ ex11) (h := ?_); dsimp only [go_sem, Nat.reduceBEq, Nat.reduceAdd]
           refine G_goE hall hs haf hnap 3 0 [true, true, true, true, true, true, true, true, true, true, true, true, true, true, true, true, true, true, true, true, true, true, true, true, true, true, true, true, true, true, true, true] (⟨(.any :: .ptr 0 0 :: .any :: .iv x8 :: .ptr 1 0 :: an 14 (.iv x8 :: .ptr 0 1 :: .sl 2 (List.map Edge.row x1.Edges) :: .iv (ln Edge.row x1.Edges) :: .bv (decide (x8 < (ln Edge.row x1.Edges))) :: .any :: .any :: .ptr 0 1 :: .sl 2 (List.map Edge.row x1.Edges) :: .iv x8 :: .elt [.iv x9.A, .iv x9.B] 0 :: .agg [.iv x9.A, .iv x9.B] :: .ptr 1 0 :: .iv x9.A :: .bv (decide (x9.A < 0)) :: .ff :: .ptr 1 0 :: .iv x9.A :: .ptr 1 1 :: .iv x9.B :: .bv (decide (x9.B ≤ x9.A)) :: .bv (decide (x9.B ≤ x9.A)) :: .ff :: .ptr 1 1 :: .iv x9.B :: .ptr 0 0 :: .iv x1.N :: .bv (decide (x1.N ≤ x9.B)) :: .bv (decide (x1.N ≤ x9.B)) :: .ff :: .iv x8 :: .bv (decide (0 < x8)) :: .tt :: .ptr 0 1 :: .sl 2 (List.map Edge.row x1.Edges) :: .iv x8 :: .iv (wr (x8 - 1)) :: .elt [.iv x10.A, .iv x10.B] 0 :: .agg [.iv x10.A, .iv x10.B] :: .agg [.iv x9.A, .iv x9.B] :: .bv x11 :: .bv (!x11) :: .bv (!x11) :: .bv (!x11) :: [])), [some ⟨24, [.iv x1.N, .sl 2 (List.map Edge.row x1.Edges)]⟩, some ⟨58, [.iv x9.A, .iv x9.B]⟩], []⟩ : St) (by kernel_rfl) ?_
           refine G_done rfl ?_ _; exact M_to J3 (s := !x11) h
          ·dsimp only [go_sem, Nat.reduceBEq, Nat.reduceAdd]
           refine G_goE hall hs haf hnap 11 0 [true, true, true, true, true, true, true, true, true, true, true, true, true, true, true, true, true, true, true, true, true, true, true, true, true, true, true, true, true, true, true, true] (⟨(.any :: .ptr 0 0 :: .any :: .iv x8 :: .ptr 1 0 :: an 14 (.iv x8 :: .ptr 0 1 :: .sl 2 (List.map Edge.row x1.Edges) :: .iv (ln Edge.row x1.Edges) :: .bv (decide (x8 < (ln Edge.row x1.Edges))) :: .any :: .any :: .ptr 0 1 :: .sl 2 (List.map Edge.row x1.Edges) :: .iv x8 :: .elt [.iv x9.A, .iv x9.B] 0 :: .agg [.iv x9.A, .iv x9.B] :: .ptr 1 0 :: .iv x9.A :: .bv (decide (x9.A < 0)) :: .ff :: .ptr 1 0 :: .iv x9.A :: .ptr 1 1 :: .iv x9.B :: .bv (decide (x9.B ≤ x9.A)) :: .bv (decide (x9.B ≤ x9.A)) :: .ff :: .ptr 1 1 :: .iv x9.B :: .ptr 0 0 :: .iv x1.N :: .bv (decide (x1.N ≤ x9.B)) :: .bv (decide (x1.N ≤ x9.B)) :: .ff :: .iv x8 :: .bv (decide (0 < x8)) :: .ff :: .un :: .un :: .un :: .un :: .un :: .un :: .un :: .un :: .un :: .ff :: .ff :: [])), [some ⟨24, [.iv x1.N, .sl 2 (List.map Edge.row x1.Edges)]⟩, some ⟨58, [.iv x9.A, .iv x9.B]⟩], []⟩ : St) (by kernel_rfl) ?_
           refine G_done rfl ?_ _; exact M_to J3 (s := false) h
     ·refine V_go 1 ?_; dsimp only [e16, e16_L0, go_sem, Nat.reduceBEq, Nat.reduceAdd]; refine ⟨by simp, ?_⟩; exact M_to J2 (s := ()) (M_out h hout1)
  ·refine M_case 8 h rfl (fun _ h => ?_) fun _ h => ?_
   ·dsimp only [go_sem, Nat.reduceBEq, Nat.reduceAdd]; refine V_go 11 ?_; dsimp only [e16, e16_L0, go_sem, Nat.reduceBEq, Nat.reduceAdd]; refine ⟨by simp, ?_⟩; exact M_to J1 (s := true) h
   ·dsimp only [go_sem, Nat.reduceBEq, Nat.reduceAdd]; refine V_go 5 ?_; dsimp only [e16, e16_L0, go_sem, Nat.reduceBEq, Nat.reduceAdd]; refine ⟨by simp, ?_⟩; refine M_case 13 h rfl (fun _ h => ?_) fun _ h => ?_
    ·dsimp only [go_sem, Nat.reduceBEq, Nat.reduceAdd]; refine V_go 6 ?_; dsimp only [e16, e16_L0, go_sem, Nat.reduceBEq, Nat.reduceAdd]; refine ⟨by simp, ?_⟩; exact M_to J1 (s := true) h
    ·dsimp only [go_sem, Nat.reduceBEq, Nat.reduceAdd]; refine V_go 6 ?_; dsimp only [e16, e16_L0, go_sem, Nat.reduceBEq, Nat.reduceAdd]; refine ⟨by simp, ?_⟩; exact M_to J1 (s := decide (400 < (ln Edge.row x1.Edges))) h
end NX
end Go.Proofs.Ytadebhbiglmodaa
/-
  The function narthex/narthexref03.Has: its code compiled, a model, and that the code answers as the model. Written by a program of ours (lb.py). No statement of the seat is proved here.
-/
namespace Go.Proofs.Ytadebhbiglmodaa
namespace NX
open Go
set_option maxRecDepth 100000
set_option maxHeartbeats 4000000
def e32_L0 : EC := .seq (.seq (.reg [⟨(some 9), none, .mv (.t 7)⟩, ⟨(some 10), none, .fld 1 (.t 3)⟩, ⟨(some 11), none, .load (.t 10)⟩, ⟨(some 12), none, .len (.t 11)⟩, ⟨(some 13), none, .bin .lss (.t 9) (.t 12)⟩]) (.ite (.t 13) (.skip) (.exit 0))) (.seq (.blk 1 (.seq (.reg [⟨(some 16), none, .fld 1 (.t 3)⟩, ⟨(some 17), none, .load (.t 16)⟩, ⟨(some 18), none, .mv (.t 7)⟩, ⟨(some 19), none, .idx 2 (.t 17) (.t 18)⟩, ⟨(some 20), none, .loadA 2 (.t 19)⟩, ⟨(some 8), none, .alloc 58 [.iv 0, .iv 0]⟩, ⟨none, none, .store 2 (.t 8) (.t 20)⟩]) (.seq (.reg [⟨(some 21), none, .fld 0 (.t 8)⟩, ⟨(some 22), none, .load (.t 21)⟩, ⟨(some 23), none, .mv (.t 1)⟩, ⟨(some 24), none, .bin .eql (.t 22) (.t 23)⟩, ⟨(some 25), none, .mv (.t 24)⟩, ⟨(some 26), (some (25, true)), .fld 1 (.t 8)⟩, ⟨(some 27), (some (25, true)), .load (.t 26)⟩, ⟨(some 28), (some (25, true)), .mv (.t 2)⟩, ⟨(some 29), (some (25, true)), .bin .eql (.t 27) (.t 28)⟩, ⟨(some 30), none, .pick (.t 25) (.t 29) (.c .ff)⟩, ⟨(some 31), none, .mv (.t 30)⟩, ⟨(some 32), (some (31, true)), .mv (.t 1)⟩, ⟨(some 33), (some (31, true)), .mv (.t 2)⟩, ⟨(some 34), (some (31, true)), .bin .leq (.t 32) (.t 33)⟩, ⟨(some 35), none, .pick (.t 31) (.t 34) (.c .ff)⟩, ⟨(some 36), none, .mv (.t 35)⟩, ⟨(some 37), (some (36, false)), .fld 0 (.t 8)⟩, ⟨(some 38), (some (36, false)), .load (.t 37)⟩, ⟨(some 39), (some (36, false)), .mv (.t 2)⟩, ⟨(some 40), (some (36, false)), .bin .eql (.t 38) (.t 39)⟩, ⟨(some 41), (some (36, false)), .mv (.t 40)⟩, ⟨(some 42), (some (41, true)), .fld 1 (.t 8)⟩, ⟨(some 43), (some (41, true)), .load (.t 42)⟩, ⟨(some 44), (some (41, true)), .mv (.t 1)⟩, ⟨(some 45), (some (41, true)), .bin .eql (.t 43) (.t 44)⟩, ⟨(some 46), (some (36, false)), .pick (.t 41) (.t 45) (.c .ff)⟩, ⟨(some 47), (some (36, false)), .mv (.t 46)⟩, ⟨(some 48), (some (47, true)), .mv (.t 2)⟩, ⟨(some 49), (some (47, true)), .mv (.t 1)⟩, ⟨(some 50), (some (47, true)), .bin .lss (.t 48) (.t 49)⟩, ⟨(some 51), (some (36, false)), .pick (.t 47) (.t 50) (.c .ff)⟩, ⟨(some 52), none, .pick (.t 36) (.c .tt) (.t 51)⟩]) (.ite (.t 52) (.seq (.reg [⟨(some 6), none, .mv (.c .tt)⟩]) (.ret)) (.skip))))) (.reg [⟨(some 14), none, .mv (.t 7)⟩, ⟨(some 15), none, .bin .add (.t 14) (.c (.iv 1))⟩, ⟨(some 7), none, .mv (.t 15)⟩]))
def e32 : EC := .seq (.reg [⟨(some 3), none, .box 24 2 (.t 0)⟩, ⟨(some 6), none, .mv (.c .ff)⟩]) (.seq (.seq (.reg [⟨(some 7), none, .mv (.c (.iv 0))⟩]) (.blk 0 (.loop e32_L0))) (.seq (.reg [⟨(some 6), none, .mv (.c .ff)⟩]) (.ret)))
theorem ok32 : FnOK Try.prog 32 Try.f32 e32 [.t 6] 3 50 := ⟨by kernel_rfl, ⟨_, rfl, by kernel_rfl⟩, by kernel_rfl, by kernel_rfl⟩
/- narthex/narthexref03.Has -/
noncomputable def m_narthexref03_Has_j1  : Unit → Option Bool
| () =>
 some false
noncomputable def m_narthexref03_Has_j2 (x7 : Int) : Bool → Option (Int ⊕ Bool)
| x9 =>
 ifb x9 (
 Option.map Sum.inr (some true)) (
 some (.inl (wr (x7 + 1))))
noncomputable def m_narthexref03_Has_l1 (x1 : Graph) (x2 : Int) (x3 : Int) : Int → Option (Int ⊕ Bool)
| x7 =>
 ifb (decide (x7 < (ln Edge.row x1.Edges))) (
 (at_ x1.Edges x7).bind fun x8 =>
 ifb (decide (x8.A = x2)) (
 ifb (decide (x8.B = x3)) (
 ifb (decide (x2 ≤ x3)) (
 (m_narthexref03_Has_j2 x7) true) (
 ifb (decide (x8.A = x3)) (
 ifb (decide (x8.B = x2)) (
 (m_narthexref03_Has_j2 x7) (decide (x3 < x2))) (
 (m_narthexref03_Has_j2 x7) false)) (
 (m_narthexref03_Has_j2 x7) false))) (
 ifb (decide (x8.A = x3)) (
 ifb (decide (x8.B = x2)) (
 (m_narthexref03_Has_j2 x7) (decide (x3 < x2))) (
 (m_narthexref03_Has_j2 x7) false)) (
 (m_narthexref03_Has_j2 x7) false))) (
 ifb (decide (x8.A = x3)) (
 ifb (decide (x8.B = x2)) (
 (m_narthexref03_Has_j2 x7) (decide (x3 < x2))) (
 (m_narthexref03_Has_j2 x7) false)) (
 (m_narthexref03_Has_j2 x7) false))) (
 Option.map Sum.inr (m_narthexref03_Has_j1 ()))
noncomputable def m_narthexref03_Has (x1 : Graph) (x2 : Int) (x3 : Int) : Option Bool :=
 loop (m_narthexref03_Has_l1 x1 x2 x3) 0
theorem k_narthexref03_Has (x1 : Graph) (x2 : Int) (x3 : Int) (r : Bool) (h : m_narthexref03_Has x1 x2 x3 = some r) : FunP Try.prog 32 [.agg (Graph.row x1), .iv x2, .iv x3] (.bv r) := by
  refine FunP_intro ok32 rfl rfl fun w0 H0 => ?_
  rw [m_narthexref03_Has] at h
  refine V_go 10 ?_; dsimp only [e32, e32_L0, go_sem, Nat.reduceBEq, Nat.reduceAdd]; refine ⟨by simp, ?_⟩; refine V_join (fun (_ : Unit) => (⟨(an 53 []), [], []⟩ : St)) m_narthexref03_Has_j1 r ?_ fun J1 => ?_
  ·rintro ⟨⟩ h; rw [m_narthexref03_Has_j1] at h; (try dsimp only); refine V_go 4 ?_; dsimp only [e32, e32_L0, go_sem, Nat.reduceBEq, Nat.reduceAdd]; refine ⟨by simp, ?_⟩; exact M_done (res := fun (r : Bool) => .bv r) ok32 h
  ·refine V_go 1 ?_; dsimp only [e32, e32_L0, go_sem, Nat.reduceBEq, Nat.reduceAdd]; refine ⟨by simp, ?_⟩; refine M_loop h (fun (x7 : Int) => (⟨(.any :: .iv x2 :: .iv x3 :: .ptr 0 0 :: an 3 (.iv x7 :: an 45 [])), [some ⟨24, [.iv x1.N, .sl 2 (List.map Edge.row x1.Edges)]⟩], []⟩ : St)) (by simp [go_sem]) (by intro x7; first | rfl | simp [go_sem]) ?_; rintro n1 x7 y1 h hin1 hout1; rw [m_narthexref03_Has_l1] at h; (try dsimp only); refine V_go 9 ?_; dsimp only [e32, e32_L0, go_sem, Nat.reduceBEq, Nat.reduceAdd]; refine ⟨by simp, ?_⟩; refine M_ite h rfl (fun _ h => ?_) fun _ h => ?_
   ·refine V_go 8 ?_; dsimp only [e32, e32_L0, go_sem, Nat.reduceBEq, Nat.reduceAdd]; refine ⟨by simp, ?_⟩; obtain ⟨x8, ex8, h⟩ := Option.bind_eq_some_iff.1 h; refine V_idxM Edge.row ex8 trivial rfl rfl rfl ?_; refine V_go 11 ?_; dsimp only [e32, e32_L0, go_sem, Nat.reduceBEq, Nat.reduceAdd]; refine ⟨by simp, ?_⟩; refine V_join (fun (x9 : Bool) => (⟨(.any :: .iv x2 :: .iv x3 :: .ptr 0 0 :: an 3 (.iv x7 :: an 44 [.bv x9])), [some ⟨24, [.iv x1.N, .sl 2 (List.map Edge.row x1.Edges)]⟩], []⟩ : St)) (m_narthexref03_Has_j2 x7) y1 ?_ fun J2 => ?_
    ·intro x9 h; rw [m_narthexref03_Has_j2] at h; (try dsimp only); refine M_ite h rfl (fun _ h => ?_) fun _ h => ?_
     ·refine V_go 4 ?_; dsimp only [e32, e32_L0, go_sem, Nat.reduceBEq, Nat.reduceAdd]; refine ⟨by simp, ?_⟩; exact M_done (res := fun (r : Bool) => .bv r) ok32 (M_out h hout1)
     ·refine V_go 7 ?_; dsimp only [e32, e32_L0, go_sem, Nat.reduceBEq, Nat.reduceAdd]; refine ⟨by simp, ?_⟩; exact M_back h hin1
    ·refine M_case 25 h rfl (fun _ h => ?_) fun _ h => ?_
     ·dsimp only [go_sem, Nat.reduceBEq, Nat.reduceAdd]; refine V_go 6 ?_; dsimp only [e32, e32_L0, go_sem, Nat.reduceBEq, Nat.reduceAdd]; refine ⟨by simp, ?_⟩; refine M_case 31 h rfl (fun _ h => ?_) fun _ h => ?_
      ·dsimp only [go_sem, Nat.reduceBEq, Nat.reduceAdd]; refine V_go 5 ?_; dsimp only [e32, e32_L0, go_sem, Nat.reduceBEq, Nat.reduceAdd]; refine ⟨by simp, ?_⟩; refine M_case 36 h rfl (fun _ h => ?_) fun _ h => ?_
       ·dsimp only [go_sem, Nat.reduceBEq, Nat.reduceAdd]; refine V_go 17 ?_; dsimp only [e32, e32_L0, go_sem, Nat.reduceBEq, Nat.reduceAdd]; refine ⟨by simp, ?_⟩; exact M_to J2 (s := true) h
       ·dsimp only [go_sem, Nat.reduceBEq, Nat.reduceAdd]; refine V_go 5 ?_; dsimp only [e32, e32_L0, go_sem, Nat.reduceBEq, Nat.reduceAdd]; refine ⟨by simp, ?_⟩; refine M_case 41 h rfl (fun _ h => ?_) fun _ h => ?_
        ·dsimp only [go_sem, Nat.reduceBEq, Nat.reduceAdd]; refine V_go 6 ?_; dsimp only [e32, e32_L0, go_sem, Nat.reduceBEq, Nat.reduceAdd]; refine ⟨by simp, ?_⟩; refine M_case 47 h rfl (fun _ h => ?_) fun _ h => ?_
         ·dsimp only [go_sem, Nat.reduceBEq, Nat.reduceAdd]; refine V_go 6 ?_; dsimp only [e32, e32_L0, go_sem, Nat.reduceBEq, Nat.reduceAdd]; refine ⟨by simp, ?_⟩; exact M_to J2 (s := decide (x3 < x2)) h
         ·dsimp only [go_sem, Nat.reduceBEq, Nat.reduceAdd]; refine V_go 6 ?_; dsimp only [e32, e32_L0, go_sem, Nat.reduceBEq, Nat.reduceAdd]; refine ⟨by simp, ?_⟩; exact M_to J2 (s := false) h
        ·dsimp only [go_sem, Nat.reduceBEq, Nat.reduceAdd]; refine V_go 12 ?_; dsimp only [e32, e32_L0, go_sem, Nat.reduceBEq, Nat.reduceAdd]; refine ⟨by simp, ?_⟩; exact M_to J2 (s := false) h
      ·dsimp only [go_sem, Nat.reduceBEq, Nat.reduceAdd]; refine V_go 10 ?_; dsimp only [e32, e32_L0, go_sem, Nat.reduceBEq, Nat.reduceAdd]; refine ⟨by simp, ?_⟩; refine M_case 41 h rfl (fun _ h => ?_) fun _ h => ?_
       ·dsimp only [go_sem, Nat.reduceBEq, Nat.reduceAdd]; refine V_go 6 ?_; dsimp only [e32, e32_L0, go_sem, Nat.reduceBEq, Nat.reduceAdd]; refine ⟨by simp, ?_⟩; refine M_case 47 h rfl (fun _ h => ?_) fun _ h => ?_
        ·dsimp only [go_sem, Nat.reduceBEq, Nat.reduceAdd]; refine V_go 6 ?_; dsimp only [e32, e32_L0, go_sem, Nat.reduceBEq, Nat.reduceAdd]; refine ⟨by simp, ?_⟩; exact M_to J2 (s := decide (x3 < x2)) h
        ·dsimp only [go_sem, Nat.reduceBEq, Nat.reduceAdd]; refine V_go 6 ?_; dsimp only [e32, e32_L0, go_sem, Nat.reduceBEq, Nat.reduceAdd]; refine ⟨by simp, ?_⟩; exact M_to J2 (s := false) h
       ·dsimp only [go_sem, Nat.reduceBEq, Nat.reduceAdd]; refine V_go 12 ?_; dsimp only [e32, e32_L0, go_sem, Nat.reduceBEq, Nat.reduceAdd]; refine ⟨by simp, ?_⟩; exact M_to J2 (s := false) h
     ·dsimp only [go_sem, Nat.reduceBEq, Nat.reduceAdd]; refine V_go 16 ?_; dsimp only [e32, e32_L0, go_sem, Nat.reduceBEq, Nat.reduceAdd]; refine ⟨by simp, ?_⟩; refine M_case 41 h rfl (fun _ h => ?_) fun _ h => ?_
      ·dsimp only [go_sem, Nat.reduceBEq, Nat.reduceAdd]; refine V_go 6 ?_; dsimp only [e32, e32_L0, go_sem, Nat.reduceBEq, Nat.reduceAdd]; refine ⟨by simp, ?_⟩; refine M_case 47 h rfl (fun _ h => ?_) fun _ h => ?_
       ·dsimp only [go_sem, Nat.reduceBEq, Nat.reduceAdd]; refine V_go 6 ?_; dsimp only [e32, e32_L0, go_sem, Nat.reduceBEq, Nat.reduceAdd]; refine ⟨by simp, ?_⟩; exact M_to J2 (s := decide (x3 < x2)) h
       ·dsimp only [go_sem, Nat.reduceBEq, Nat.reduceAdd]; refine V_go 6 ?_; dsimp only [e32, e32_L0, go_sem, Nat.reduceBEq, Nat.reduceAdd]; refine ⟨by simp, ?_⟩; exact M_to J2 (s := false) h
      ·dsimp only [go_sem, Nat.reduceBEq, Nat.reduceAdd]; refine V_go 12 ?_; dsimp only [e32, e32_L0, go_sem, Nat.reduceBEq, Nat.reduceAdd]; refine ⟨by simp, ?_⟩; exact M_to J2 (s := false) h
   ·refine V_go 1 ?_; dsimp only [e32, e32_L0, go_sem, Nat.reduceBEq, Nat.reduceAdd]; refine ⟨by simp, ?_⟩; exact M_to J1 (s := ()) (M_out h hout1)
end NX
end Go.Proofs.Ytadebhbiglmodaa
/-
  The function narthex/narthexref03.Same: its code compiled, a model, and that the code answers as the model. Written by a program of ours (lb.py). No statement of the seat is proved here.
-/
namespace Go.Proofs.Ytadebhbiglmodaa
namespace NX
open Go
set_option maxRecDepth 100000
set_option maxHeartbeats 4000000
def e26_L0 : EC := .seq (.seq (.reg [⟨(some 20), none, .mv (.t 5)⟩, ⟨(some 21), none, .fld 1 (.t 2)⟩, ⟨(some 22), none, .load (.t 21)⟩, ⟨(some 23), none, .len (.t 22)⟩, ⟨(some 24), none, .bin .lss (.t 20) (.t 23)⟩]) (.ite (.t 24) (.skip) (.exit 0))) (.seq (.blk 1 (.seq (.drw [⟨(some 27), none, .fld 1 (.t 2)⟩, ⟨(some 28), none, .load (.t 27)⟩, ⟨(some 29), none, .mv (.t 5)⟩, ⟨(some 30), none, .idx 2 (.t 28) (.t 29)⟩, ⟨(some 31), none, .loadA 2 (.t 30)⟩, ⟨(some 32), none, .fld 1 (.t 3)⟩, ⟨(some 33), none, .load (.t 32)⟩, ⟨(some 34), none, .mv (.t 5)⟩, ⟨(some 35), none, .idx 2 (.t 33) (.t 34)⟩, ⟨(some 36), none, .loadA 2 (.t 35)⟩, ⟨(some 37), none, .eqs true [true, true] (.t 31) (.t 36)⟩] [[], [0], [], [1, 2], [3], [], [5], [], [6, 7], [8], [4, 9]] [[1], [0, 3], [3], [1, 2, 4], [3, 10], [6], [5, 8], [8], [6, 7, 9], [8, 10], [4, 9]]) (.ite (.t 37) (.seq (.reg [⟨(some 4), none, .mv (.c .ff)⟩]) (.ret)) (.skip)))) (.reg [⟨(some 25), none, .mv (.t 5)⟩, ⟨(some 26), none, .bin .add (.t 25) (.c (.iv 1))⟩, ⟨(some 5), none, .mv (.t 26)⟩]))
def e26 : EC := .seq (.reg [⟨(some 2), none, .box 24 2 (.t 0)⟩, ⟨(some 3), none, .box 24 2 (.t 1)⟩, ⟨(some 4), none, .mv (.c .ff)⟩]) (.seq (.seq (.reg [⟨(some 6), none, .fld 0 (.t 2)⟩, ⟨(some 7), none, .load (.t 6)⟩, ⟨(some 8), none, .fld 0 (.t 3)⟩, ⟨(some 9), none, .load (.t 8)⟩, ⟨(some 10), none, .bin .neq (.t 7) (.t 9)⟩, ⟨(some 11), none, .mv (.t 10)⟩, ⟨(some 12), (some (11, false)), .fld 1 (.t 2)⟩, ⟨(some 13), (some (11, false)), .load (.t 12)⟩, ⟨(some 14), (some (11, false)), .len (.t 13)⟩, ⟨(some 15), (some (11, false)), .fld 1 (.t 3)⟩, ⟨(some 16), (some (11, false)), .load (.t 15)⟩, ⟨(some 17), (some (11, false)), .len (.t 16)⟩, ⟨(some 18), (some (11, false)), .bin .neq (.t 14) (.t 17)⟩, ⟨(some 19), none, .pick (.t 11) (.c .tt) (.t 18)⟩]) (.ite (.t 19) (.seq (.reg [⟨(some 4), none, .mv (.c .ff)⟩]) (.ret)) (.skip))) (.seq (.seq (.reg [⟨(some 5), none, .mv (.c (.iv 0))⟩]) (.blk 0 (.loop e26_L0))) (.seq (.reg [⟨(some 4), none, .mv (.c .tt)⟩]) (.ret))))
theorem ok26 : FnOK Try.prog 26 Try.f26 e26 [.t 4] 2 36 := ⟨by kernel_rfl, ⟨_, rfl, by kernel_rfl⟩, by kernel_rfl, by kernel_rfl⟩
/- narthex/narthexref03.Same -/
noncomputable def m_narthexref03_Same_j2  : Unit → Option Bool
| () =>
 some true
noncomputable def m_narthexref03_Same_l1 (x1 : Graph) (x2 : Graph) : Int → Option (Int ⊕ Bool)
| x7 =>
 ifb (decide (x7 < (ln Edge.row x1.Edges))) (
 (at_ x1.Edges x7).bind fun x8 =>
 (at_ x2.Edges x7).bind fun x9 =>
 ifb (!(decide (x8.A = x9.A) && (decide (x8.B = x9.B) && true))) (
 Option.map Sum.inr (some false)) (
 some (.inl (wr (x7 + 1))))) (
 Option.map Sum.inr (m_narthexref03_Same_j2 ()))
noncomputable def m_narthexref03_Same_j1 (x1 : Graph) (x2 : Graph) : Bool → Option Bool
| x3 =>
 ifb x3 (
 some false) (
 loop (m_narthexref03_Same_l1 x1 x2) 0)
noncomputable def m_narthexref03_Same (x1 : Graph) (x2 : Graph) : Option Bool :=
 ifb (!decide (x1.N = x2.N)) (
 (m_narthexref03_Same_j1 x1 x2) true) (
 (m_narthexref03_Same_j1 x1 x2) (!decide ((ln Edge.row x1.Edges) = (ln Edge.row x2.Edges))))
theorem k_narthexref03_Same (x1 : Graph) (x2 : Graph) (r : Bool) (h : m_narthexref03_Same x1 x2 = some r) : FunP Try.prog 26 [.agg (Graph.row x1), .agg (Graph.row x2)] (.bv r) := by
  refine FunP_intro ok26 rfl rfl fun w0 H0 => ?_
  rw [m_narthexref03_Same] at h
  refine V_go 15 ?_; dsimp only [e26, e26_L0, go_sem, Nat.reduceBEq, Nat.reduceAdd]; refine ⟨by simp, ?_⟩; refine V_join (fun (x3 : Bool) => (⟨(.any :: .any :: .ptr 0 0 :: .ptr 1 0 :: an 15 (.bv x3 :: an 18 [])), [some ⟨24, [.iv x1.N, .sl 2 (List.map Edge.row x1.Edges)]⟩, some ⟨24, [.iv x2.N, .sl 2 (List.map Edge.row x2.Edges)]⟩], []⟩ : St)) (m_narthexref03_Same_j1 x1 x2) r ?_ fun J1 => ?_
  ·intro x3 h; rw [m_narthexref03_Same_j1] at h; (try dsimp only); refine M_ite h rfl (fun _ h => ?_) fun _ h => ?_
   ·refine V_go 4 ?_; dsimp only [e26, e26_L0, go_sem, Nat.reduceBEq, Nat.reduceAdd]; refine ⟨by simp, ?_⟩; exact M_done (res := fun (r : Bool) => .bv r) ok26 h
   ·refine V_go 6 ?_; dsimp only [e26, e26_L0, go_sem, Nat.reduceBEq, Nat.reduceAdd]; refine ⟨by simp, ?_⟩; refine V_join (fun (_ : Unit) => (⟨(an 38 []), [], []⟩ : St)) m_narthexref03_Same_j2 r ?_ fun J2 => ?_
    ·rintro ⟨⟩ h; rw [m_narthexref03_Same_j2] at h; (try dsimp only); refine V_go 4 ?_; dsimp only [e26, e26_L0, go_sem, Nat.reduceBEq, Nat.reduceAdd]; refine ⟨by simp, ?_⟩; exact M_done (res := fun (r : Bool) => .bv r) ok26 h
    ·refine V_go 1 ?_; dsimp only [e26, e26_L0, go_sem, Nat.reduceBEq, Nat.reduceAdd]; refine ⟨by simp, ?_⟩; refine M_loop h (fun (x7 : Int) => (⟨(.any :: .any :: .ptr 0 0 :: .ptr 1 0 :: .any :: .iv x7 :: an 32 []), [some ⟨24, [.iv x1.N, .sl 2 (List.map Edge.row x1.Edges)]⟩, some ⟨24, [.iv x2.N, .sl 2 (List.map Edge.row x2.Edges)]⟩], []⟩ : St)) (by simp [go_sem]) (by intro x7; first | rfl | simp [go_sem]) ?_; rintro n1 x7 y1 h hin1 hout1; rw [m_narthexref03_Same_l1] at h; (try dsimp only); refine V_go 9 ?_; dsimp only [e26, e26_L0, go_sem, Nat.reduceBEq, Nat.reduceAdd]; refine ⟨by simp, ?_⟩
     refine M_ite h rfl (fun _ h => ?_) fun _ h => ?_
     ·refine V_go 4 ?_; dsimp only [e26, e26_L0, go_sem, Nat.reduceBEq, Nat.reduceAdd]; refine ⟨by simp, ?_⟩; refine V_drw (by kernel_rfl) fun all hall hs hnap haf => ?_; dsimp only [go_sem, Nat.reduceBEq, Nat.reduceAdd]
      refine G_goE hall hs haf hnap 6 5 [true, true, true, false, false, true, true, true, false, false, false] (⟨(.any :: .any :: .ptr 0 0 :: .ptr 1 0 :: .any :: .iv x7 :: an 14 (.iv x7 :: .ptr 0 1 :: .sl 2 (List.map Edge.row x1.Edges) :: .iv (ln Edge.row x1.Edges) :: .bv (decide (x7 < (ln Edge.row x1.Edges))) :: .any :: .any :: .ptr 0 1 :: .sl 2 (List.map Edge.row x1.Edges) :: .iv x7 :: .any :: .any :: .ptr 1 1 :: .sl 2 (List.map Edge.row x2.Edges) :: .iv x7 :: an 3 [])), [some ⟨24, [.iv x1.N, .sl 2 (List.map Edge.row x1.Edges)]⟩, some ⟨24, [.iv x2.N, .sl 2 (List.map Edge.row x2.Edges)]⟩], []⟩ : St) (by kernel_rfl) ?_
      obtain ⟨x8, ex8, h⟩ := Option.bind_eq_some_iff.1 h; refine G_idxM hall hs haf hnap 3 Edge.row ex8 rfl rfl trivial rfl rfl rfl rfl ?_; refine G_goN hall hs haf hnap 1 3 ?_; dsimp only [go_sem, Nat.reduceBEq, Nat.reduceAdd]; refine ⟨by simp, ?_⟩; obtain ⟨x9, ex9, h⟩ := Option.bind_eq_some_iff.1 h; refine G_idxM hall hs haf hnap 8 Edge.row ex9 rfl rfl trivial rfl rfl rfl rfl ?_; refine G_goN hall hs haf hnap 2 0 ?_; dsimp only [go_sem, Nat.reduceBEq, Nat.reduceAdd]; refine ⟨by simp, ?_⟩; refine G_done rfl ?_ _; refine M_ite h rfl (fun _ h => ?_) fun _ h => ?_
      ·refine V_go 4 ?_; dsimp only [e26, e26_L0, go_sem, Nat.reduceBEq, Nat.reduceAdd]; refine ⟨by simp, ?_⟩; exact M_done (res := fun (r : Bool) => .bv r) ok26 (M_out h hout1)
      ·refine V_go 7 ?_; dsimp only [e26, e26_L0, go_sem, Nat.reduceBEq, Nat.reduceAdd]; refine ⟨by simp, ?_⟩; exact M_back h hin1
     ·refine V_go 1 ?_; dsimp only [e26, e26_L0, go_sem, Nat.reduceBEq, Nat.reduceAdd]; refine ⟨by simp, ?_⟩; exact M_to J2 (s := ()) (M_out h hout1)
  ·refine M_case 11 h rfl (fun _ h => ?_) fun _ h => ?_
   ·dsimp only [go_sem, Nat.reduceBEq, Nat.reduceAdd]; refine V_go 9 ?_; dsimp only [e26, e26_L0, go_sem, Nat.reduceBEq, Nat.reduceAdd]; refine ⟨by simp, ?_⟩; exact M_to J1 (s := true) h
   ·dsimp only [go_sem, Nat.reduceBEq, Nat.reduceAdd]; refine V_go 9 ?_; dsimp only [e26, e26_L0, go_sem, Nat.reduceBEq, Nat.reduceAdd]; refine ⟨by simp, ?_⟩; exact M_to J1 (s := !decide ((ln Edge.row x1.Edges) = (ln Edge.row x2.Edges))) h
def f_narthexref03_Same_j2 (_F : Nat)  : Unit → Option Bool
| () =>
 some true
theorem le_narthexref03_Same_j2 {F : Nat} : ∀ s, ole (f_narthexref03_Same_j2 F s) (m_narthexref03_Same_j2 s) := by
  rintro ⟨⟩
  unfold f_narthexref03_Same_j2 m_narthexref03_Same_j2
  try dsimp only
  with_reducible repeat' first | exact ole_refl _ | assumption | intro _ | refine ole_ifb ?_ ?_ | refine ole_bind ?_ ?_ | refine ole_map ?_ | refine ole_loop ?_
def f_narthexref03_Same_l1 (F : Nat) (x1 : Graph) (x2 : Graph) : Int → Option (Int ⊕ Bool)
| x7 =>
 ifb (decide (x7 < (ln Edge.row x1.Edges))) (
 (at_ x1.Edges x7).bind fun x8 =>
 (at_ x2.Edges x7).bind fun x9 =>
 ifb (!(decide (x8.A = x9.A) && (decide (x8.B = x9.B) && true))) (
 Option.map Sum.inr (some false)) (
 some (.inl (wr (x7 + 1))))) (
 Option.map Sum.inr (f_narthexref03_Same_j2 F ()))
theorem le_narthexref03_Same_l1 {F : Nat} {x1 : Graph} {x2 : Graph} : ∀ s, ole (f_narthexref03_Same_l1 F x1 x2 s) (m_narthexref03_Same_l1 x1 x2 s) := by
  intro x7
  unfold f_narthexref03_Same_l1 m_narthexref03_Same_l1
  try dsimp only
  with_reducible repeat' first | exact ole_refl _ | assumption | intro _ | refine ole_ifb ?_ ?_ | refine ole_bind ?_ ?_ | refine ole_map ?_ | refine ole_loop ?_ | apply le_narthexref03_Same_j2
def f_narthexref03_Same_j1 (F : Nat) (x1 : Graph) (x2 : Graph) : Bool → Option Bool
| x3 =>
 ifb x3 (
 some false) (
 loopF F (f_narthexref03_Same_l1 F x1 x2) 0)
theorem le_narthexref03_Same_j1 {F : Nat} {x1 : Graph} {x2 : Graph} : ∀ s, ole (f_narthexref03_Same_j1 F x1 x2 s) (m_narthexref03_Same_j1 x1 x2 s) := by
  intro x3
  unfold f_narthexref03_Same_j1 m_narthexref03_Same_j1
  try dsimp only
  with_reducible repeat' first | exact ole_refl _ | assumption | intro _ | refine ole_ifb ?_ ?_ | refine ole_bind ?_ ?_ | refine ole_map ?_ | refine ole_loop ?_ | apply le_narthexref03_Same_j2 | apply le_narthexref03_Same_l1
def f_narthexref03_Same (F : Nat) (x1 : Graph) (x2 : Graph) : Option Bool :=
 ifb (!decide (x1.N = x2.N)) (
 (f_narthexref03_Same_j1 F x1 x2) true) (
 (f_narthexref03_Same_j1 F x1 x2) (!decide ((ln Edge.row x1.Edges) = (ln Edge.row x2.Edges))))
theorem le_narthexref03_Same {F : Nat} {x1 : Graph} {x2 : Graph} : ole (f_narthexref03_Same F x1 x2) (m_narthexref03_Same x1 x2) := by
  unfold f_narthexref03_Same m_narthexref03_Same
  with_reducible repeat' first | exact ole_refl _ | assumption | intro _ | refine ole_ifb ?_ ?_ | refine ole_bind ?_ ?_ | refine ole_map ?_ | refine ole_loop ?_ | apply le_narthexref03_Same_j2 | apply le_narthexref03_Same_l1 | apply le_narthexref03_Same_j1
end NX
end Go.Proofs.Ytadebhbiglmodaa
/-
  The function narthex/narthexref11.Check: its code compiled, a model, and that the code answers as the model. Written by a program of ours (lb.py). No statement of the seat is proved here.
-/
namespace Go.Proofs.Ytadebhbiglmodaa
namespace NX
open Go
set_option maxRecDepth 100000
set_option maxHeartbeats 4000000
def e53_L0 : EC := .seq (.seq (.reg [⟨(some 6), none, .mv (.t 5)⟩, ⟨(some 7), none, .mv (.t 1)⟩, ⟨(some 8), none, .len (.t 7)⟩, ⟨(some 9), none, .bin .lss (.t 6) (.t 8)⟩]) (.ite (.t 9) (.skip) (.exit 0))) (.seq (.blk 1 (.seq (.reg [⟨(some 12), none, .mv (.t 1)⟩, ⟨(some 13), none, .mv (.t 5)⟩, ⟨(some 14), none, .idx 1 (.t 12) (.t 13)⟩, ⟨(some 15), none, .load (.t 14)⟩, ⟨(some 16), none, .bin .lss (.t 15) (.c (.iv 0))⟩]) (.ite (.t 16) (.seq (.reg [⟨(some 4), none, .mv (.c .ff)⟩]) (.ret)) (.skip)))) (.reg [⟨(some 10), none, .mv (.t 5)⟩, ⟨(some 11), none, .bin .add (.t 10) (.c (.iv 1))⟩, ⟨(some 5), none, .mv (.t 11)⟩]))
def e53 : EC := .seq (.reg [⟨(some 2), none, .box 24 2 (.t 0)⟩, ⟨(some 4), none, .mv (.c .ff)⟩]) (.seq (.seq (.reg [⟨(some 5), none, .mv (.c (.iv 0))⟩]) (.blk 0 (.loop e53_L0))) (.seq (.reg [⟨(some 17), none, .mv (.t 1)⟩, ⟨(some 18), none, .len (.t 17)⟩, ⟨(some 19), none, .fld 0 (.t 2)⟩, ⟨(some 20), none, .load (.t 19)⟩, ⟨(some 21), none, .bin .eql (.t 18) (.t 20)⟩, ⟨(some 4), none, .mv (.t 21)⟩]) (.ret)))
theorem ok53 : FnOK Try.prog 53 Try.f53 e53 [.t 4] 2 20 := ⟨by kernel_rfl, ⟨_, rfl, by kernel_rfl⟩, by kernel_rfl, by kernel_rfl⟩
/- narthex/narthexref11.Check -/
noncomputable def m_narthexref11_Check_j1 (x1 : Graph) (x2 : (List Int)) : Unit → Option Bool
| () =>
 some (decide ((ln intRow x2) = x1.N))
noncomputable def m_narthexref11_Check_l1 (x1 : Graph) (x2 : (List Int)) : Int → Option (Int ⊕ Bool)
| x5 =>
 ifb (decide (x5 < (ln intRow x2))) (
 (at_ x2 x5).bind fun x6 =>
 ifb (decide (x6 < 0)) (
 Option.map Sum.inr (some false)) (
 some (.inl (wr (x5 + 1))))) (
 Option.map Sum.inr ((m_narthexref11_Check_j1 x1 x2) ()))
noncomputable def m_narthexref11_Check (x1 : Graph) (x2 : (List Int)) : Option Bool :=
 loop (m_narthexref11_Check_l1 x1 x2) 0
theorem k_narthexref11_Check (x1 : Graph) (x2 : (List Int)) (r : Bool) (h : m_narthexref11_Check x1 x2 = some r) : FunP Try.prog 53 [.agg (Graph.row x1), .sl 1 (List.map intRow x2)] (.bv r) := by
  refine FunP_intro ok53 rfl rfl fun w0 H0 => ?_
  rw [m_narthexref11_Check] at h
  refine V_go 10 ?_; dsimp only [e53, e53_L0, go_sem, Nat.reduceBEq, Nat.reduceAdd]; refine ⟨by simp, ?_⟩; refine V_join (fun (_ : Unit) => (⟨(.any :: .sl 1 (List.map intRow x2) :: .ptr 0 0 :: an 19 []), [some ⟨24, [.iv x1.N, .sl 2 (List.map Edge.row x1.Edges)]⟩], []⟩ : St)) (m_narthexref11_Check_j1 x1 x2) r ?_ fun J1 => ?_
  ·rintro ⟨⟩ h; rw [m_narthexref11_Check_j1] at h; (try dsimp only); refine V_go 9 ?_; dsimp only [e53, e53_L0, go_sem, Nat.reduceBEq, Nat.reduceAdd]; refine ⟨by simp, ?_⟩; exact M_done (res := fun (r : Bool) => .bv r) ok53 h
  ·refine V_go 1 ?_; dsimp only [e53, e53_L0, go_sem, Nat.reduceBEq, Nat.reduceAdd]; refine ⟨by simp, ?_⟩; refine M_loop h (fun (x5 : Int) => (⟨(.any :: .sl 1 (List.map intRow x2) :: .ptr 0 0 :: .any :: .any :: .iv x5 :: an 16 []), [some ⟨24, [.iv x1.N, .sl 2 (List.map Edge.row x1.Edges)]⟩], []⟩ : St)) (by simp [go_sem]) (by intro x5; first | rfl | simp [go_sem]) ?_; rintro n1 x5 y1 h hin1 hout1; rw [m_narthexref11_Check_l1] at h; (try dsimp only); refine V_go 8 ?_; dsimp only [e53, e53_L0, go_sem, Nat.reduceBEq, Nat.reduceAdd]; refine ⟨by simp, ?_⟩
   refine M_ite h rfl (fun _ h => ?_) fun _ h => ?_
   ·refine V_go 7 ?_; dsimp only [e53, e53_L0, go_sem, Nat.reduceBEq, Nat.reduceAdd]; refine ⟨by simp, ?_⟩; obtain ⟨x6, ex6, h⟩ := Option.bind_eq_some_iff.1 h; refine V_idxM intRow ex6 trivial rfl rfl rfl ?_; refine V_go 3 ?_; dsimp only [e53, e53_L0, go_sem, Nat.reduceBEq, Nat.reduceAdd]; refine ⟨by simp, ?_⟩; refine M_ite h rfl (fun _ h => ?_) fun _ h => ?_
    ·refine V_go 4 ?_; dsimp only [e53, e53_L0, go_sem, Nat.reduceBEq, Nat.reduceAdd]; refine ⟨by simp, ?_⟩; exact M_done (res := fun (r : Bool) => .bv r) ok53 (M_out h hout1)
    ·refine V_go 7 ?_; dsimp only [e53, e53_L0, go_sem, Nat.reduceBEq, Nat.reduceAdd]; refine ⟨by simp, ?_⟩; exact M_back h hin1
   ·refine V_go 1 ?_; dsimp only [e53, e53_L0, go_sem, Nat.reduceBEq, Nat.reduceAdd]; refine ⟨by simp, ?_⟩; exact M_to J1 (s := ()) (M_out h hout1)
end NX
end Go.Proofs.Ytadebhbiglmodaa
/-
  The function narthex/narthexref01.Has: its code compiled, a model, and that the code answers as the model. Written by a program of ours (lb.py). No statement of the seat is proved here.
-/
namespace Go.Proofs.Ytadebhbiglmodaa
namespace NX
open Go
set_option maxRecDepth 100000
set_option maxHeartbeats 4000000
def e54_L0 : EC := .seq (.seq (.reg [⟨(some 6), none, .mv (.t 5)⟩, ⟨(some 7), none, .mv (.t 0)⟩, ⟨(some 8), none, .len (.t 7)⟩, ⟨(some 9), none, .bin .lss (.t 6) (.t 8)⟩]) (.ite (.t 9) (.skip) (.exit 0))) (.seq (.blk 1 (.seq (.reg [⟨(some 12), none, .mv (.t 0)⟩, ⟨(some 13), none, .mv (.t 5)⟩, ⟨(some 14), none, .idx 1 (.t 12) (.t 13)⟩, ⟨(some 15), none, .load (.t 14)⟩, ⟨(some 16), none, .mv (.t 1)⟩, ⟨(some 17), none, .bin .eql (.t 15) (.t 16)⟩]) (.ite (.t 17) (.seq (.reg [⟨(some 4), none, .mv (.c .tt)⟩]) (.ret)) (.skip)))) (.reg [⟨(some 10), none, .mv (.t 5)⟩, ⟨(some 11), none, .bin .add (.t 10) (.c (.iv 1))⟩, ⟨(some 5), none, .mv (.t 11)⟩]))
def e54 : EC := .seq (.reg [⟨(some 4), none, .mv (.c .ff)⟩]) (.seq (.seq (.reg [⟨(some 5), none, .mv (.c (.iv 0))⟩]) (.blk 0 (.loop e54_L0))) (.seq (.reg [⟨(some 4), none, .mv (.c .ff)⟩]) (.ret)))
theorem ok54 : FnOK Try.prog 54 Try.f54 e54 [.t 4] 2 16 := ⟨by kernel_rfl, ⟨_, rfl, by kernel_rfl⟩, by kernel_rfl, by kernel_rfl⟩
/- narthex/narthexref01.Has -/
noncomputable def m_narthexref01_Has_j1  : Unit → Option Bool
| () =>
 some false
noncomputable def m_narthexref01_Has_l1 (x1 : (List Int)) (x2 : Int) : Int → Option (Int ⊕ Bool)
| x5 =>
 ifb (decide (x5 < (ln intRow x1))) (
 (at_ x1 x5).bind fun x6 =>
 ifb (decide (x6 = x2)) (
 Option.map Sum.inr (some true)) (
 some (.inl (wr (x5 + 1))))) (
 Option.map Sum.inr (m_narthexref01_Has_j1 ()))
noncomputable def m_narthexref01_Has (x1 : (List Int)) (x2 : Int) : Option Bool :=
 loop (m_narthexref01_Has_l1 x1 x2) 0
theorem k_narthexref01_Has (x1 : (List Int)) (x2 : Int) (r : Bool) (h : m_narthexref01_Has x1 x2 = some r) : FunP Try.prog 54 [.sl 1 (List.map intRow x1), .iv x2] (.bv r) := by
  refine FunP_intro ok54 rfl rfl fun w0 H0 => ?_
  rw [m_narthexref01_Has] at h
  refine V_go 9 ?_; dsimp only [e54, e54_L0, go_sem, Nat.reduceBEq, Nat.reduceAdd]; refine ⟨by simp, ?_⟩; refine V_join (fun (_ : Unit) => (⟨(an 18 []), [], []⟩ : St)) m_narthexref01_Has_j1 r ?_ fun J1 => ?_
  ·rintro ⟨⟩ h; rw [m_narthexref01_Has_j1] at h; (try dsimp only); refine V_go 4 ?_; dsimp only [e54, e54_L0, go_sem, Nat.reduceBEq, Nat.reduceAdd]; refine ⟨by simp, ?_⟩; exact M_done (res := fun (r : Bool) => .bv r) ok54 h
  ·refine V_go 1 ?_; dsimp only [e54, e54_L0, go_sem, Nat.reduceBEq, Nat.reduceAdd]; refine ⟨by simp, ?_⟩; refine M_loop h (fun (x5 : Int) => (⟨(.sl 1 (List.map intRow x1) :: .iv x2 :: an 3 (.iv x5 :: an 12 [])), [], []⟩ : St)) (by simp [go_sem]) (by intro x5; first | rfl | simp [go_sem]) ?_; rintro n1 x5 y1 h hin1 hout1; rw [m_narthexref01_Has_l1] at h; (try dsimp only); refine V_go 8 ?_; dsimp only [e54, e54_L0, go_sem, Nat.reduceBEq, Nat.reduceAdd]; refine ⟨by simp, ?_⟩; refine M_ite h rfl (fun _ h => ?_) fun _ h => ?_
   ·refine V_go 7 ?_; dsimp only [e54, e54_L0, go_sem, Nat.reduceBEq, Nat.reduceAdd]; refine ⟨by simp, ?_⟩; obtain ⟨x6, ex6, h⟩ := Option.bind_eq_some_iff.1 h; refine V_idxM intRow ex6 trivial rfl rfl rfl ?_; refine V_go 4 ?_; dsimp only [e54, e54_L0, go_sem, Nat.reduceBEq, Nat.reduceAdd]; refine ⟨by simp, ?_⟩; refine M_ite h rfl (fun _ h => ?_) fun _ h => ?_
    ·refine V_go 4 ?_; dsimp only [e54, e54_L0, go_sem, Nat.reduceBEq, Nat.reduceAdd]; refine ⟨by simp, ?_⟩; exact M_done (res := fun (r : Bool) => .bv r) ok54 (M_out h hout1)
    ·refine V_go 7 ?_; dsimp only [e54, e54_L0, go_sem, Nat.reduceBEq, Nat.reduceAdd]; refine ⟨by simp, ?_⟩; exact M_back h hin1
   ·refine V_go 1 ?_; dsimp only [e54, e54_L0, go_sem, Nat.reduceBEq, Nat.reduceAdd]; refine ⟨by simp, ?_⟩; exact M_to J1 (s := ()) (M_out h hout1)
end NX
end Go.Proofs.Ytadebhbiglmodaa
/-
  The function narthex/narthexref11.Right: its code compiled, a model, and that the code answers as the model. Written by a program of ours (lb.py). No statement of the seat is proved here.
-/
namespace Go.Proofs.Ytadebhbiglmodaa
namespace NX
open Go
set_option maxRecDepth 100000
set_option maxHeartbeats 4000000
def e17_L0 : EC := .seq (.seq (.reg [⟨(some 19), none, .mv (.t 5)⟩, ⟨(some 20), none, .fld 1 (.t 2)⟩, ⟨(some 21), none, .load (.t 20)⟩, ⟨(some 22), none, .len (.t 21)⟩, ⟨(some 23), none, .bin .lss (.t 19) (.t 22)⟩]) (.ite (.t 23) (.skip) (.exit 0))) (.seq (.blk 1 (.seq (.drw [⟨(some 26), none, .mv (.t 1)⟩, ⟨(some 27), none, .fld 1 (.t 2)⟩, ⟨(some 28), none, .load (.t 27)⟩, ⟨(some 29), none, .mv (.t 5)⟩, ⟨(some 30), none, .idx 2 (.t 28) (.t 29)⟩, ⟨(some 31), none, .fld 0 (.t 30)⟩, ⟨(some 32), none, .load (.t 31)⟩, ⟨(some 33), none, .idx 1 (.t 26) (.t 32)⟩, ⟨(some 34), none, .load (.t 33)⟩, ⟨(some 35), none, .mv (.t 1)⟩, ⟨(some 36), none, .fld 1 (.t 2)⟩, ⟨(some 37), none, .load (.t 36)⟩, ⟨(some 38), none, .mv (.t 5)⟩, ⟨(some 39), none, .idx 2 (.t 37) (.t 38)⟩, ⟨(some 40), none, .fld 1 (.t 39)⟩, ⟨(some 41), none, .load (.t 40)⟩, ⟨(some 42), none, .idx 1 (.t 35) (.t 41)⟩, ⟨(some 43), none, .load (.t 42)⟩, ⟨(some 44), none, .bin .eql (.t 34) (.t 43)⟩] [[], [], [1], [], [2, 3], [4], [5], [0, 6], [7], [], [], [10], [], [11, 12], [13], [14], [9, 15], [16], [8, 17]] [[7], [2], [1, 4], [4], [2, 3, 5], [4, 6], [5, 7], [0, 6, 8], [7, 18], [16], [11], [10, 13], [13], [11, 12, 14], [13, 15], [14, 16], [9, 15, 17], [16, 18], [8, 17]]) (.ite (.t 44) (.seq (.reg [⟨(some 4), none, .mv (.c .ff)⟩]) (.ret)) (.skip)))) (.reg [⟨(some 24), none, .mv (.t 5)⟩, ⟨(some 25), none, .bin .add (.t 24) (.c (.iv 1))⟩, ⟨(some 5), none, .mv (.t 25)⟩]))
def e17 : EC := .seq (.reg [⟨(some 2), none, .box 24 2 (.t 0)⟩, ⟨(some 4), none, .mv (.c .ff)⟩]) (.seq (.seq (.reg [⟨(some 6), none, .loadA 2 (.t 2)⟩, ⟨(some 7), none, .call 16 [(.t 6)]⟩, ⟨(some 8), none, .not (.t 7)⟩, ⟨(some 9), none, .mv (.t 8)⟩, ⟨(some 10), (some (9, false)), .loadA 2 (.t 2)⟩, ⟨(some 11), (some (9, false)), .mv (.t 1)⟩, ⟨(some 12), (some (9, false)), .call 53 [(.t 10), (.t 11)]⟩, ⟨(some 13), (some (9, false)), .not (.t 12)⟩, ⟨(some 14), none, .pick (.t 9) (.c .tt) (.t 13)⟩, ⟨(some 15), none, .mv (.t 14)⟩, ⟨(some 16), (some (15, false)), .mv (.t 1)⟩, ⟨(some 17), (some (15, false)), .call 54 [(.t 16), (.c (.iv 0))]⟩, ⟨(some 18), none, .pick (.t 15) (.c .tt) (.t 17)⟩]) (.ite (.t 18) (.seq (.reg [⟨(some 4), none, .mv (.c .ff)⟩]) (.ret)) (.skip))) (.seq (.seq (.reg [⟨(some 5), none, .mv (.c (.iv 0))⟩]) (.blk 0 (.loop e17_L0))) (.seq (.reg [⟨(some 4), none, .mv (.c .tt)⟩]) (.ret))))
theorem ok17 : FnOK Try.prog 17 Try.f17 e17 [.t 4] 2 43 := ⟨by kernel_rfl, ⟨_, rfl, by kernel_rfl⟩, by kernel_rfl, by kernel_rfl⟩
/- narthex/narthexref11.Right -/
noncomputable def m_narthexref11_Right_j2  : Unit → Option Bool
| () =>
 some true
noncomputable def m_narthexref11_Right_l1 (x1 : Graph) (x2 : (List Int)) : Int → Option (Int ⊕ Bool)
| x12 =>
 ifb (decide (x12 < (ln Edge.row x1.Edges))) (
 (at_ x1.Edges x12).bind fun x13 =>
 (at_ x2 x13.A).bind fun x14 =>
 (at_ x1.Edges x12).bind fun x15 =>
 (at_ x2 x15.B).bind fun x16 =>
 ifb (decide (x14 = x16)) (
 Option.map Sum.inr (some false)) (
 some (.inl (wr (x12 + 1))))) (
 Option.map Sum.inr (m_narthexref11_Right_j2 ()))
noncomputable def m_narthexref11_Right_j1 (x1 : Graph) (x2 : (List Int)) : Bool → Option Bool
| x6 =>
 ifb x6 (
 some false) (
 loop (m_narthexref11_Right_l1 x1 x2) 0)
noncomputable def m_narthexref11_Right (x1 : Graph) (x2 : (List Int)) : Option Bool :=
 (m_narthexref03_Check x1).bind fun x3 =>
 ifb (!x3) (
 (m_narthexref11_Right_j1 x1 x2) true) (
 (m_narthexref11_Check x1 x2).bind fun x4 =>
 ifb (!x4) (
 (m_narthexref11_Right_j1 x1 x2) true) (
 (m_narthexref01_Has x2 0).bind fun x5 =>
 (m_narthexref11_Right_j1 x1 x2) x5))
theorem k_narthexref11_Right (x1 : Graph) (x2 : (List Int)) (r : Bool) (h : m_narthexref11_Right x1 x2 = some r) : FunP Try.prog 17 [.agg (Graph.row x1), .sl 1 (List.map intRow x2)] (.bv r) := by
  refine FunP_intro ok17 rfl rfl fun w0 H0 => ?_
  rw [m_narthexref11_Right] at h
  refine V_go 9 ?_; dsimp only [e17, e17_L0, go_sem, Nat.reduceBEq, Nat.reduceAdd]; refine ⟨by simp, ?_⟩; obtain ⟨x3, ex3, h⟩ := Option.bind_eq_some_iff.1 h; refine V_call trivial (k_narthexref03_Check x1 _ ex3) (h := ?_); refine V_go 2 ?_; dsimp only [e17, e17_L0, go_sem, Nat.reduceBEq, Nat.reduceAdd]; refine ⟨by simp, ?_⟩; refine V_join (fun (x6 : Bool) => (⟨(.any :: .sl 1 (List.map intRow x2) :: .ptr 0 0 :: an 15 (.bv x6 :: an 26 [])), [some ⟨24, [.iv x1.N, .sl 2 (List.map Edge.row x1.Edges)]⟩], []⟩ : St)) (m_narthexref11_Right_j1 x1 x2) r ?_ fun J1 => ?_
  ·intro x6 h; rw [m_narthexref11_Right_j1] at h; (try dsimp only); refine M_ite h rfl (fun _ h => ?_) fun _ h => ?_
   ·refine V_go 4 ?_; dsimp only [e17, e17_L0, go_sem, Nat.reduceBEq, Nat.reduceAdd]; refine ⟨by simp, ?_⟩; exact M_done (res := fun (r : Bool) => .bv r) ok17 h
   ·refine V_go 6 ?_; dsimp only [e17, e17_L0, go_sem, Nat.reduceBEq, Nat.reduceAdd]; refine ⟨by simp, ?_⟩; refine V_join (fun (_ : Unit) => (⟨(an 45 []), [], []⟩ : St)) m_narthexref11_Right_j2 r ?_ fun J2 => ?_
    ·rintro ⟨⟩ h; rw [m_narthexref11_Right_j2] at h; (try dsimp only); refine V_go 4 ?_; dsimp only [e17, e17_L0, go_sem, Nat.reduceBEq, Nat.reduceAdd]; refine ⟨by simp, ?_⟩; exact M_done (res := fun (r : Bool) => .bv r) ok17 h
    ·refine V_go 1 ?_; dsimp only [e17, e17_L0, go_sem, Nat.reduceBEq, Nat.reduceAdd]; refine ⟨by simp, ?_⟩; refine M_loop h (fun (x12 : Int) => (⟨(.any :: .sl 1 (List.map intRow x2) :: .ptr 0 0 :: .any :: .any :: .iv x12 :: an 39 []), [some ⟨24, [.iv x1.N, .sl 2 (List.map Edge.row x1.Edges)]⟩], []⟩ : St)) (by simp [go_sem]) (by intro x12; first | rfl | simp [go_sem]) ?_; rintro n1 x12 y1 h hin1 hout1; rw [m_narthexref11_Right_l1] at h; (try dsimp only); refine V_go 9 ?_; dsimp only [e17, e17_L0, go_sem, Nat.reduceBEq, Nat.reduceAdd]; refine ⟨by simp, ?_⟩
     refine M_ite h rfl (fun _ h => ?_) fun _ h => ?_
     ·refine V_go 4 ?_; dsimp only [e17, e17_L0, go_sem, Nat.reduceBEq, Nat.reduceAdd]; refine ⟨by simp, ?_⟩; refine V_drw (by kernel_rfl) fun all hall hs hnap haf => ?_; dsimp only [go_sem, Nat.reduceBEq, Nat.reduceAdd]
      refine G_goE hall hs haf hnap 8 11 [true, true, true, true, false, false, false, false, false, true, true, true, true, false, false, false, false, false, false] (⟨(.any :: .sl 1 (List.map intRow x2) :: .ptr 0 0 :: .any :: .any :: .iv x12 :: an 13 (.iv x12 :: .ptr 0 1 :: .sl 2 (List.map Edge.row x1.Edges) :: .iv (ln Edge.row x1.Edges) :: .bv (decide (x12 < (ln Edge.row x1.Edges))) :: .any :: .any :: .sl 1 (List.map intRow x2) :: .ptr 0 1 :: .sl 2 (List.map Edge.row x1.Edges) :: .iv x12 :: an 5 (.sl 1 (List.map intRow x2) :: .ptr 0 1 :: .sl 2 (List.map Edge.row x1.Edges) :: .iv x12 :: an 6 []))), [some ⟨24, [.iv x1.N, .sl 2 (List.map Edge.row x1.Edges)]⟩], []⟩ : St) (by kernel_rfl) ?_
      obtain ⟨x13, ex13, h⟩ := Option.bind_eq_some_iff.1 h; refine G_idxM hall hs haf hnap 4 Edge.row ex13 rfl rfl trivial rfl rfl rfl rfl ?_; refine G_goN hall hs haf hnap 2 8 ?_; dsimp only [go_sem, Nat.reduceBEq, Nat.reduceAdd]; refine ⟨by simp, ?_⟩; obtain ⟨x14, ex14, h⟩ := Option.bind_eq_some_iff.1 h; refine G_idxM hall hs haf hnap 7 intRow ex14 rfl rfl trivial rfl rfl rfl rfl ?_; refine G_goN hall hs haf hnap 1 6 ?_; dsimp only [go_sem, Nat.reduceBEq, Nat.reduceAdd]; refine ⟨by simp, ?_⟩; obtain ⟨x15, ex15, h⟩ := Option.bind_eq_some_iff.1 h
      refine G_idxM hall hs haf hnap 13 Edge.row ex15 rfl rfl trivial rfl rfl rfl rfl ?_; refine G_goN hall hs haf hnap 2 3 ?_; dsimp only [go_sem, Nat.reduceBEq, Nat.reduceAdd]; refine ⟨by simp, ?_⟩; obtain ⟨x16, ex16, h⟩ := Option.bind_eq_some_iff.1 h; refine G_idxM hall hs haf hnap 16 intRow ex16 rfl rfl trivial rfl rfl rfl rfl ?_; refine G_goN hall hs haf hnap 2 0 ?_; dsimp only [go_sem, Nat.reduceBEq, Nat.reduceAdd]; refine ⟨by simp, ?_⟩; refine G_done rfl ?_ _; refine M_ite h rfl (fun _ h => ?_) fun _ h => ?_
      ·refine V_go 4 ?_; dsimp only [e17, e17_L0, go_sem, Nat.reduceBEq, Nat.reduceAdd]; refine ⟨by simp, ?_⟩; exact M_done (res := fun (r : Bool) => .bv r) ok17 (M_out h hout1)
      ·refine V_go 7 ?_; dsimp only [e17, e17_L0, go_sem, Nat.reduceBEq, Nat.reduceAdd]; refine ⟨by simp, ?_⟩; exact M_back h hin1
     ·refine V_go 1 ?_; dsimp only [e17, e17_L0, go_sem, Nat.reduceBEq, Nat.reduceAdd]; refine ⟨by simp, ?_⟩; exact M_to J2 (s := ()) (M_out h hout1)
  ·refine M_case 9 h rfl (fun _ h => ?_) fun _ h => ?_
   ·dsimp only [go_sem, Nat.reduceBEq, Nat.reduceAdd]; refine V_go 10 ?_; dsimp only [e17, e17_L0, go_sem, Nat.reduceBEq, Nat.reduceAdd]; refine ⟨by simp, ?_⟩; exact M_to J1 (s := true) h
   ·dsimp only [go_sem, Nat.reduceBEq, Nat.reduceAdd]; refine V_go 2 ?_; dsimp only [e17, e17_L0, go_sem, Nat.reduceBEq, Nat.reduceAdd]; refine ⟨by simp, ?_⟩; obtain ⟨x4, ex4, h⟩ := Option.bind_eq_some_iff.1 h; refine V_call trivial (k_narthexref11_Check x1 x2 _ ex4) (h := ?_); refine V_go 3 ?_; dsimp only [e17, e17_L0, go_sem, Nat.reduceBEq, Nat.reduceAdd]; refine ⟨by simp, ?_⟩; refine M_case 15 h rfl (fun _ h => ?_) fun _ h => ?_
    ·dsimp only [go_sem, Nat.reduceBEq, Nat.reduceAdd]; refine V_go 4 ?_; dsimp only [e17, e17_L0, go_sem, Nat.reduceBEq, Nat.reduceAdd]; refine ⟨by simp, ?_⟩; exact M_to J1 (s := true) h
    ·dsimp only [go_sem, Nat.reduceBEq, Nat.reduceAdd]; refine V_go 1 ?_; dsimp only [e17, e17_L0, go_sem, Nat.reduceBEq, Nat.reduceAdd]; refine ⟨by simp, ?_⟩; obtain ⟨x5, ex5, h⟩ := Option.bind_eq_some_iff.1 h; refine V_call trivial (k_narthexref01_Has x2 0 _ ex5) (h := ?_); refine V_go 2 ?_; dsimp only [e17, e17_L0, go_sem, Nat.reduceBEq, Nat.reduceAdd]; refine ⟨by simp, ?_⟩; exact M_to J1 (s := x5) h
end NX
end Go.Proofs.Ytadebhbiglmodaa
/-
  The function narthex/narthexref12.SameOne: its code compiled, a model, and that the code answers as the model. Written by a program of ours (lb.py). No statement of the seat is proved here.
-/
namespace Go.Proofs.Ytadebhbiglmodaa
namespace NX
open Go
set_option maxRecDepth 100000
set_option maxHeartbeats 4000000
def e48_L0 : EC := .seq (.seq (.reg [⟨(some 27), none, .mv (.t 5)⟩, ⟨(some 28), none, .fld 2 (.t 2)⟩, ⟨(some 29), none, .load (.t 28)⟩, ⟨(some 30), none, .len (.t 29)⟩, ⟨(some 31), none, .bin .lss (.t 27) (.t 30)⟩]) (.ite (.t 31) (.skip) (.exit 0))) (.seq (.blk 1 (.seq (.drw [⟨(some 34), none, .fld 2 (.t 2)⟩, ⟨(some 35), none, .load (.t 34)⟩, ⟨(some 36), none, .mv (.t 5)⟩, ⟨(some 37), none, .idx 8 (.t 35) (.t 36)⟩, ⟨(some 38), none, .loadA 8 (.t 37)⟩, ⟨(some 39), none, .fld 2 (.t 3)⟩, ⟨(some 40), none, .load (.t 39)⟩, ⟨(some 41), none, .mv (.t 5)⟩, ⟨(some 42), none, .idx 8 (.t 40) (.t 41)⟩, ⟨(some 43), none, .loadA 8 (.t 42)⟩, ⟨(some 44), none, .eqs true [true, true, true, false, false, false, false, false] (.t 38) (.t 43)⟩] [[], [0], [], [1, 2], [3], [], [5], [], [6, 7], [8], [4, 9]] [[1], [0, 3], [3], [1, 2, 4], [3, 10], [6], [5, 8], [8], [6, 7, 9], [8, 10], [4, 9]]) (.ite (.t 44) (.seq (.reg [⟨(some 4), none, .mv (.c .ff)⟩]) (.ret)) (.skip)))) (.reg [⟨(some 32), none, .mv (.t 5)⟩, ⟨(some 33), none, .bin .add (.t 32) (.c (.iv 1))⟩, ⟨(some 5), none, .mv (.t 33)⟩]))
def e48 : EC := .seq (.reg [⟨(some 2), none, .box 39 3 (.t 0)⟩, ⟨(some 3), none, .box 39 3 (.t 1)⟩, ⟨(some 4), none, .mv (.c .ff)⟩]) (.seq (.seq (.reg [⟨(some 6), none, .fld 0 (.t 2)⟩, ⟨(some 7), none, .load (.t 6)⟩, ⟨(some 8), none, .fld 0 (.t 3)⟩, ⟨(some 9), none, .load (.t 8)⟩, ⟨(some 10), none, .bin .neq (.t 7) (.t 9)⟩, ⟨(some 11), none, .mv (.t 10)⟩, ⟨(some 12), (some (11, false)), .fld 1 (.t 2)⟩, ⟨(some 13), (some (11, false)), .load (.t 12)⟩, ⟨(some 14), (some (11, false)), .fld 1 (.t 3)⟩, ⟨(some 15), (some (11, false)), .load (.t 14)⟩, ⟨(some 16), (some (11, false)), .bin .neq (.t 13) (.t 15)⟩, ⟨(some 17), none, .pick (.t 11) (.c .tt) (.t 16)⟩, ⟨(some 18), none, .mv (.t 17)⟩, ⟨(some 19), (some (18, false)), .fld 2 (.t 2)⟩, ⟨(some 20), (some (18, false)), .load (.t 19)⟩, ⟨(some 21), (some (18, false)), .len (.t 20)⟩, ⟨(some 22), (some (18, false)), .fld 2 (.t 3)⟩, ⟨(some 23), (some (18, false)), .load (.t 22)⟩, ⟨(some 24), (some (18, false)), .len (.t 23)⟩, ⟨(some 25), (some (18, false)), .bin .neq (.t 21) (.t 24)⟩, ⟨(some 26), none, .pick (.t 18) (.c .tt) (.t 25)⟩]) (.ite (.t 26) (.seq (.reg [⟨(some 4), none, .mv (.c .ff)⟩]) (.ret)) (.skip))) (.seq (.seq (.reg [⟨(some 5), none, .mv (.c (.iv 0))⟩]) (.blk 0 (.loop e48_L0))) (.seq (.reg [⟨(some 4), none, .mv (.c .tt)⟩]) (.ret))))
theorem ok48 : FnOK Try.prog 48 Try.f48 e48 [.t 4] 2 43 := ⟨by kernel_rfl, ⟨_, rfl, by kernel_rfl⟩, by kernel_rfl, by kernel_rfl⟩
/- narthex/narthexref12.SameOne -/
noncomputable def m_narthexref12_SameOne_j2  : Unit → Option Bool
| () =>
 some true
noncomputable def m_narthexref12_SameOne_l1 (x1 : Diner) (x2 : Diner) : Int → Option (Int ⊕ Bool)
| x7 =>
 ifb (decide (x7 < (ln Side.row x1.Sides))) (
 (at_ x1.Sides x7).bind fun x8 =>
 (at_ x2.Sides x7).bind fun x9 =>
 ifb (!(decide (x8.Peer = x9.Peer) && (decide (x8.Epoch = x9.Epoch) && (decide (x8.State = x9.State) && ((x8.Fork == x9.Fork) && ((x8.Dirty == x9.Dirty) && ((x8.Token == x9.Token) && ((x8.Bottle == x9.Bottle) && ((x8.Ask == x9.Ask) && true))))))))) (
 Option.map Sum.inr (some false)) (
 some (.inl (wr (x7 + 1))))) (
 Option.map Sum.inr (m_narthexref12_SameOne_j2 ()))
noncomputable def m_narthexref12_SameOne_j1 (x1 : Diner) (x2 : Diner) : Bool → Option Bool
| x3 =>
 ifb x3 (
 some false) (
 loop (m_narthexref12_SameOne_l1 x1 x2) 0)
noncomputable def m_narthexref12_SameOne (x1 : Diner) (x2 : Diner) : Option Bool :=
 ifb (!decide (x1.ID = x2.ID)) (
 (m_narthexref12_SameOne_j1 x1 x2) true) (
 ifb (!decide (x1.Phase = x2.Phase)) (
 (m_narthexref12_SameOne_j1 x1 x2) true) (
 (m_narthexref12_SameOne_j1 x1 x2) (!decide ((ln Side.row x1.Sides) = (ln Side.row x2.Sides)))))
theorem k_narthexref12_SameOne (x1 : Diner) (x2 : Diner) (r : Bool) (h : m_narthexref12_SameOne x1 x2 = some r) : FunP Try.prog 48 [.agg (Diner.row x1), .agg (Diner.row x2)] (.bv r) := by
  refine FunP_intro ok48 rfl rfl fun w0 H0 => ?_
  rw [m_narthexref12_SameOne] at h
  refine V_go 15 ?_; dsimp only [e48, e48_L0, go_sem, Nat.reduceBEq, Nat.reduceAdd]; refine ⟨by simp, ?_⟩; refine V_join (fun (x3 : Bool) => (⟨(.any :: .any :: .ptr 0 0 :: .ptr 1 0 :: an 22 (.bv x3 :: an 18 [])), [some ⟨39, [.iv x1.ID, .iv x1.Phase, .sl 8 (List.map Side.row x1.Sides)]⟩, some ⟨39, [.iv x2.ID, .iv x2.Phase, .sl 8 (List.map Side.row x2.Sides)]⟩], []⟩ : St)) (m_narthexref12_SameOne_j1 x1 x2) r ?_ fun J1 => ?_
  ·intro x3 h; rw [m_narthexref12_SameOne_j1] at h; (try dsimp only); refine M_ite h rfl (fun _ h => ?_) fun _ h => ?_
   ·refine V_go 4 ?_; dsimp only [e48, e48_L0, go_sem, Nat.reduceBEq, Nat.reduceAdd]; refine ⟨by simp, ?_⟩; exact M_done (res := fun (r : Bool) => .bv r) ok48 h
   ·refine V_go 6 ?_; dsimp only [e48, e48_L0, go_sem, Nat.reduceBEq, Nat.reduceAdd]; refine ⟨by simp, ?_⟩; refine V_join (fun (_ : Unit) => (⟨(an 45 []), [], []⟩ : St)) m_narthexref12_SameOne_j2 r ?_ fun J2 => ?_
    ·rintro ⟨⟩ h; rw [m_narthexref12_SameOne_j2] at h; (try dsimp only); refine V_go 4 ?_; dsimp only [e48, e48_L0, go_sem, Nat.reduceBEq, Nat.reduceAdd]; refine ⟨by simp, ?_⟩; exact M_done (res := fun (r : Bool) => .bv r) ok48 h
    ·refine V_go 1 ?_; dsimp only [e48, e48_L0, go_sem, Nat.reduceBEq, Nat.reduceAdd]; refine ⟨by simp, ?_⟩; refine M_loop h (fun (x7 : Int) => (⟨(.any :: .any :: .ptr 0 0 :: .ptr 1 0 :: .any :: .iv x7 :: an 39 []), [some ⟨39, [.iv x1.ID, .iv x1.Phase, .sl 8 (List.map Side.row x1.Sides)]⟩, some ⟨39, [.iv x2.ID, .iv x2.Phase, .sl 8 (List.map Side.row x2.Sides)]⟩], []⟩ : St)) (by simp [go_sem]) (by intro x7; first | rfl | simp [go_sem]) ?_; rintro n1 x7 y1 h hin1 hout1; rw [m_narthexref12_SameOne_l1] at h; (try dsimp only); refine V_go 9 ?_
     dsimp only [e48, e48_L0, go_sem, Nat.reduceBEq, Nat.reduceAdd]; refine ⟨by simp, ?_⟩; refine M_ite h rfl (fun _ h => ?_) fun _ h => ?_
     ·refine V_go 4 ?_; dsimp only [e48, e48_L0, go_sem, Nat.reduceBEq, Nat.reduceAdd]; refine ⟨by simp, ?_⟩; refine V_drw (by kernel_rfl) fun all hall hs hnap haf => ?_; dsimp only [go_sem, Nat.reduceBEq, Nat.reduceAdd]
      refine G_goE hall hs haf hnap 6 5 [true, true, true, false, false, true, true, true, false, false, false] (⟨(.any :: .any :: .ptr 0 0 :: .ptr 1 0 :: .any :: .iv x7 :: an 21 (.iv x7 :: .ptr 0 2 :: .sl 8 (List.map Side.row x1.Sides) :: .iv (ln Side.row x1.Sides) :: .bv (decide (x7 < (ln Side.row x1.Sides))) :: .any :: .any :: .ptr 0 2 :: .sl 8 (List.map Side.row x1.Sides) :: .iv x7 :: .any :: .any :: .ptr 1 2 :: .sl 8 (List.map Side.row x2.Sides) :: .iv x7 :: an 3 [])), [some ⟨39, [.iv x1.ID, .iv x1.Phase, .sl 8 (List.map Side.row x1.Sides)]⟩, some ⟨39, [.iv x2.ID, .iv x2.Phase, .sl 8 (List.map Side.row x2.Sides)]⟩], []⟩ : St) (by kernel_rfl) ?_
      obtain ⟨x8, ex8, h⟩ := Option.bind_eq_some_iff.1 h; refine G_idxM hall hs haf hnap 3 Side.row ex8 rfl rfl trivial rfl rfl rfl rfl ?_; refine G_goN hall hs haf hnap 1 3 ?_; dsimp only [go_sem, Nat.reduceBEq, Nat.reduceAdd]; refine ⟨by simp, ?_⟩; obtain ⟨x9, ex9, h⟩ := Option.bind_eq_some_iff.1 h; refine G_idxM hall hs haf hnap 8 Side.row ex9 rfl rfl trivial rfl rfl rfl rfl ?_; refine G_goN hall hs haf hnap 2 0 ?_; dsimp only [go_sem, Nat.reduceBEq, Nat.reduceAdd]; refine ⟨by simp, ?_⟩; refine G_done rfl ?_ _; refine M_ite h rfl (fun _ h => ?_) fun _ h => ?_
      ·refine V_go 4 ?_; dsimp only [e48, e48_L0, go_sem, Nat.reduceBEq, Nat.reduceAdd]; refine ⟨by simp, ?_⟩; exact M_done (res := fun (r : Bool) => .bv r) ok48 (M_out h hout1)
      ·refine V_go 7 ?_; dsimp only [e48, e48_L0, go_sem, Nat.reduceBEq, Nat.reduceAdd]; refine ⟨by simp, ?_⟩; exact M_back h hin1
     ·refine V_go 1 ?_; dsimp only [e48, e48_L0, go_sem, Nat.reduceBEq, Nat.reduceAdd]; refine ⟨by simp, ?_⟩; exact M_to J2 (s := ()) (M_out h hout1)
  ·refine M_case 11 h rfl (fun _ h => ?_) fun _ h => ?_
   ·dsimp only [go_sem, Nat.reduceBEq, Nat.reduceAdd]; refine V_go 16 ?_; dsimp only [e48, e48_L0, go_sem, Nat.reduceBEq, Nat.reduceAdd]; refine ⟨by simp, ?_⟩; exact M_to J1 (s := true) h
   ·dsimp only [go_sem, Nat.reduceBEq, Nat.reduceAdd]; refine V_go 7 ?_; dsimp only [e48, e48_L0, go_sem, Nat.reduceBEq, Nat.reduceAdd]; refine ⟨by simp, ?_⟩; refine M_case 18 h rfl (fun _ h => ?_) fun _ h => ?_
    ·dsimp only [go_sem, Nat.reduceBEq, Nat.reduceAdd]; refine V_go 9 ?_; dsimp only [e48, e48_L0, go_sem, Nat.reduceBEq, Nat.reduceAdd]; refine ⟨by simp, ?_⟩; exact M_to J1 (s := true) h
    ·dsimp only [go_sem, Nat.reduceBEq, Nat.reduceAdd]; refine V_go 9 ?_; dsimp only [e48, e48_L0, go_sem, Nat.reduceBEq, Nat.reduceAdd]; refine ⟨by simp, ?_⟩; exact M_to J1 (s := !decide ((ln Side.row x1.Sides) = (ln Side.row x2.Sides))) h
end NX
end Go.Proofs.Ytadebhbiglmodaa
/-
  The function narthex/narthexref12.Same: its code compiled, a model, and that the code answers as the model. Written by a program of ours (lb.py). No statement of the seat is proved here.
-/
namespace Go.Proofs.Ytadebhbiglmodaa
namespace NX
open Go
set_option maxRecDepth 100000
set_option maxHeartbeats 4000000
def e18_L0 : EC := .seq (.seq (.reg [⟨(some 11), none, .mv (.t 5)⟩, ⟨(some 12), none, .mv (.t 0)⟩, ⟨(some 13), none, .len (.t 12)⟩, ⟨(some 14), none, .bin .lss (.t 11) (.t 13)⟩]) (.ite (.t 14) (.skip) (.exit 0))) (.seq (.blk 1 (.seq (.drw [⟨(some 17), none, .mv (.t 0)⟩, ⟨(some 18), none, .mv (.t 5)⟩, ⟨(some 19), none, .idx 3 (.t 17) (.t 18)⟩, ⟨(some 20), none, .loadA 3 (.t 19)⟩, ⟨(some 21), none, .mv (.t 1)⟩, ⟨(some 22), none, .mv (.t 5)⟩, ⟨(some 23), none, .idx 3 (.t 21) (.t 22)⟩, ⟨(some 24), none, .loadA 3 (.t 23)⟩, ⟨(some 25), none, .call 48 [(.t 20), (.t 24)]⟩, ⟨(some 26), none, .not (.t 25)⟩] [[], [], [0, 1], [2], [], [], [4, 5], [6], [3, 7], [8]] [[2], [2], [0, 1, 3], [2, 8], [6], [6], [4, 5, 7], [6, 8], [3, 7, 9], [8]]) (.ite (.t 26) (.seq (.reg [⟨(some 4), none, .mv (.c .ff)⟩]) (.ret)) (.skip)))) (.reg [⟨(some 15), none, .mv (.t 5)⟩, ⟨(some 16), none, .bin .add (.t 15) (.c (.iv 1))⟩, ⟨(some 5), none, .mv (.t 16)⟩]))
def e18 : EC := .seq (.reg [⟨(some 4), none, .mv (.c .ff)⟩]) (.seq (.seq (.reg [⟨(some 6), none, .mv (.t 0)⟩, ⟨(some 7), none, .len (.t 6)⟩, ⟨(some 8), none, .mv (.t 1)⟩, ⟨(some 9), none, .len (.t 8)⟩, ⟨(some 10), none, .bin .neq (.t 7) (.t 9)⟩]) (.ite (.t 10) (.seq (.reg [⟨(some 4), none, .mv (.c .ff)⟩]) (.ret)) (.skip))) (.seq (.seq (.reg [⟨(some 5), none, .mv (.c (.iv 0))⟩]) (.blk 0 (.loop e18_L0))) (.seq (.reg [⟨(some 4), none, .mv (.c .tt)⟩]) (.ret))))
theorem ok18 : FnOK Try.prog 18 Try.f18 e18 [.t 4] 2 25 := ⟨by kernel_rfl, ⟨_, rfl, by kernel_rfl⟩, by kernel_rfl, by kernel_rfl⟩
/- narthex/narthexref12.Same -/
noncomputable def m_narthexref12_Same_j1  : Unit → Option Bool
| () =>
 some true
noncomputable def m_narthexref12_Same_l1 (x1 : (List Diner)) (x2 : (List Diner)) : Int → Option (Int ⊕ Bool)
| x7 =>
 ifb (decide (x7 < (ln Diner.row x1))) (
 (at_ x1 x7).bind fun x8 =>
 (at_ x2 x7).bind fun x9 =>
 (m_narthexref12_SameOne x8 x9).bind fun x10 =>
 ifb (!x10) (
 Option.map Sum.inr (some false)) (
 some (.inl (wr (x7 + 1))))) (
 Option.map Sum.inr (m_narthexref12_Same_j1 ()))
noncomputable def m_narthexref12_Same (x1 : (List Diner)) (x2 : (List Diner)) : Option Bool :=
 ifb (!decide ((ln Diner.row x1) = (ln Diner.row x2))) (
 some false) (
 loop (m_narthexref12_Same_l1 x1 x2) 0)
theorem k_narthexref12_Same (x1 : (List Diner)) (x2 : (List Diner)) (r : Bool) (h : m_narthexref12_Same x1 x2 = some r) : FunP Try.prog 18 [.sl 3 (List.map Diner.row x1), .sl 3 (List.map Diner.row x2)] (.bv r) := by
  refine FunP_intro ok18 rfl rfl fun w0 H0 => ?_
  rw [m_narthexref12_Same] at h
  refine V_go 13 ?_; dsimp only [e18, e18_L0, go_sem, Nat.reduceBEq, Nat.reduceAdd]; refine ⟨by simp, ?_⟩; refine M_ite h rfl (fun _ h => ?_) fun _ h => ?_
  ·refine V_go 4 ?_; dsimp only [e18, e18_L0, go_sem, Nat.reduceBEq, Nat.reduceAdd]; refine ⟨by simp, ?_⟩; exact M_done (res := fun (r : Bool) => .bv r) ok18 h
  ·refine V_go 6 ?_; dsimp only [e18, e18_L0, go_sem, Nat.reduceBEq, Nat.reduceAdd]; refine ⟨by simp, ?_⟩; refine V_join (fun (_ : Unit) => (⟨(an 27 []), [], []⟩ : St)) m_narthexref12_Same_j1 r ?_ fun J1 => ?_
   ·rintro ⟨⟩ h; rw [m_narthexref12_Same_j1] at h; (try dsimp only); refine V_go 4 ?_; dsimp only [e18, e18_L0, go_sem, Nat.reduceBEq, Nat.reduceAdd]; refine ⟨by simp, ?_⟩; exact M_done (res := fun (r : Bool) => .bv r) ok18 h
   ·refine V_go 1 ?_; dsimp only [e18, e18_L0, go_sem, Nat.reduceBEq, Nat.reduceAdd]; refine ⟨by simp, ?_⟩; refine M_loop h (fun (x7 : Int) => (⟨(.sl 3 (List.map Diner.row x1) :: .sl 3 (List.map Diner.row x2) :: an 3 (.iv x7 :: an 21 [])), [], []⟩ : St)) (by simp [go_sem]) (by intro x7; first | rfl | simp [go_sem]) ?_; rintro n1 x7 y1 h hin1 hout1; rw [m_narthexref12_Same_l1] at h; (try dsimp only); refine V_go 8 ?_; dsimp only [e18, e18_L0, go_sem, Nat.reduceBEq, Nat.reduceAdd]; refine ⟨by simp, ?_⟩; refine M_ite h rfl (fun _ h => ?_) fun _ h => ?_
    ·refine V_go 4 ?_; dsimp only [e18, e18_L0, go_sem, Nat.reduceBEq, Nat.reduceAdd]; refine ⟨by simp, ?_⟩; refine V_drw (by kernel_rfl) fun all hall hs hnap haf => ?_; dsimp only [go_sem, Nat.reduceBEq, Nat.reduceAdd]; refine G_goN hall hs haf hnap 4 6 ?_; dsimp only [go_sem, Nat.reduceBEq, Nat.reduceAdd]; refine ⟨by simp, ?_⟩; obtain ⟨x8, ex8, h⟩ := Option.bind_eq_some_iff.1 h; refine G_idxM hall hs haf hnap 2 Diner.row ex8 rfl rfl trivial rfl rfl rfl rfl ?_; refine G_goN hall hs haf hnap 1 4 ?_; dsimp only [go_sem, Nat.reduceBEq, Nat.reduceAdd]; refine ⟨by simp, ?_⟩
     obtain ⟨x9, ex9, h⟩ := Option.bind_eq_some_iff.1 h; refine G_idxM hall hs haf hnap 6 Diner.row ex9 rfl rfl trivial rfl rfl rfl rfl ?_; refine G_goN hall hs haf hnap 1 2 ?_; dsimp only [go_sem, Nat.reduceBEq, Nat.reduceAdd]; refine ⟨by simp, ?_⟩; refine G_one 8 rfl ?_; obtain ⟨x10, ex10, h⟩ := Option.bind_eq_some_iff.1 h; refine GO_call hall rfl trivial (k_narthexref12_SameOne x8 x9 _ ex10) (h := ?_); dsimp only [go_sem, Nat.reduceBEq, Nat.reduceAdd]; refine G_goN hall hs haf hnap 1 0 ?_; dsimp only [go_sem, Nat.reduceBEq, Nat.reduceAdd]; refine ⟨by simp, ?_⟩; refine G_done rfl ?_ _
     refine M_ite h rfl (fun _ h => ?_) fun _ h => ?_
     ·refine V_go 4 ?_; dsimp only [e18, e18_L0, go_sem, Nat.reduceBEq, Nat.reduceAdd]; refine ⟨by simp, ?_⟩; exact M_done (res := fun (r : Bool) => .bv r) ok18 (M_out h hout1)
     ·refine V_go 7 ?_; dsimp only [e18, e18_L0, go_sem, Nat.reduceBEq, Nat.reduceAdd]; refine ⟨by simp, ?_⟩; exact M_back h hin1
    ·refine V_go 1 ?_; dsimp only [e18, e18_L0, go_sem, Nat.reduceBEq, Nat.reduceAdd]; refine ⟨by simp, ?_⟩; exact M_to J1 (s := ()) (M_out h hout1)
end NX
end Go.Proofs.Ytadebhbiglmodaa
/-
  Plain laws: Go's library over the program's data, and packages graph and colour. No statement of the seat is proved here.
-/
namespace Go.Proofs.Ytadebhbiglmodaa
namespace NX
open Go
theorem s_IndexFunc_Edge (l : List Edge) (p : Edge → Option Bool) (q : Edge → Bool) (hl : l.length ≤ 4000000000000000000) (hp : ∀ x ∈ l, p x = some (q x)) : m_slices_IndexFunc_Edge l p = some (plc (l.findIdx? q)) := by
  unfold m_slices_IndexFunc_Edge
  refine loop_place l _ q hl (fun k x hx => ?_) ?_
  · simp only [m_slices_IndexFunc_Edge_l1, lt_len hx, ifb_true, at_get hx, Option.bind_some, hp x (List.mem_iff_getElem?.2 ⟨k, hx⟩), wr_succ' hx hl]
    cases q x <;> rfl
  · simp only [m_slices_IndexFunc_Edge_l1, nlt_len, ifb_false, m_slices_IndexFunc_Edge_j1, Option.map_some]
theorem s_IndexFunc_int (l : List Int) (p : Int → Option Bool) (q : Int → Bool) (hl : l.length ≤ 4000000000000000000) (hp : ∀ x ∈ l, p x = some (q x)) : m_slices_IndexFunc_int l p = some (plc (l.findIdx? q)) := by
  unfold m_slices_IndexFunc_int
  refine loop_place l _ q hl (fun k x hx => ?_) ?_
  · simp only [m_slices_IndexFunc_int_l1, lt_len hx, ifb_true, at_get hx, Option.bind_some, hp x (List.mem_iff_getElem?.2 ⟨k, hx⟩), wr_succ' hx hl]
    cases q x <;> rfl
  · simp only [m_slices_IndexFunc_int_l1, nlt_len, ifb_false, m_slices_IndexFunc_int_j1, Option.map_some]
theorem s_IndexFunc_Side (l : List Side) (p : Side → Option Bool) (q : Side → Bool) (hl : l.length ≤ 4000000000000000000) (hp : ∀ x ∈ l, p x = some (q x)) : m_slices_IndexFunc_Side l p = some (plc (l.findIdx? q)) := by
  unfold m_slices_IndexFunc_Side
  refine loop_place l _ q hl (fun k x hx => ?_) ?_
  · simp only [m_slices_IndexFunc_Side_l1, lt_len hx, ifb_true, at_get hx, Option.bind_some, hp x (List.mem_iff_getElem?.2 ⟨k, hx⟩), wr_succ' hx hl]
    cases q x <;> rfl
  · simp only [m_slices_IndexFunc_Side_l1, nlt_len, ifb_false, m_slices_IndexFunc_Side_j1, Option.map_some]
theorem s_ContainsFunc_Edge (l : List Edge) (p : Edge → Option Bool) (q : Edge → Bool) (hl : l.length ≤ 4000000000000000000) (hp : ∀ x ∈ l, p x = some (q x)) : m_slices_ContainsFunc_Edge l p = some (l.any q) := by
  unfold m_slices_ContainsFunc_Edge
  rw [s_IndexFunc_Edge l p q hl hp, Option.bind_some, plc_nonneg, findIdx_any]
theorem s_ContainsFunc_int (l : List Int) (p : Int → Option Bool) (q : Int → Bool) (hl : l.length ≤ 4000000000000000000) (hp : ∀ x ∈ l, p x = some (q x)) : m_slices_ContainsFunc_int l p = some (l.any q) := by
  unfold m_slices_ContainsFunc_int
  rw [s_IndexFunc_int l p q hl hp, Option.bind_some, plc_nonneg, findIdx_any]
def cmpI (a b : Int) : Int := if a < b then -1 else if b < a then 1 else 0
theorem s_Compare (a b : Int) : m_cmp_Compare_int a b = some (cmpI a b) := by
  simp only [m_cmp_Compare_int, m_cmp_isNaN_int, Option.bind_some, cmpI]
  by_cases h1 : a < b <;> by_cases h2 : b < a <;> simp [h1, h2, ifb]
theorem s_Or (a b : Int) : m_cmp_Or_int [a, b] = some (if a ≠ 0 then a else b) := by
  unfold m_cmp_Or_int
  rw [loop_eq]
  simp only [m_cmp_Or_int_l1, ln_eq, List.length_cons, List.length_nil]
  by_cases ha : a = 0
  · subst ha
    simp [at_]
    rw [show wr 1 = 1 from wr_id (by omega) (by omega), loop_eq]
    simp only [m_cmp_Or_int_l1, ln_eq, List.length_cons, List.length_nil]
    by_cases hb : b = 0
    · subst hb
      simp [at_]
      rw [show wr 2 = 2 from wr_id (by omega) (by omega), loop_eq]
      simp [m_cmp_Or_int_l1, ln_eq, m_cmp_Or_int_j1]
    · simp [at_, hb]
  · simp [at_, ha]
/-- The order of edges. -/
def Edge.lt (x y : Edge) : Bool := decide (x.A < y.A) || (decide (x.A = y.A) && decide (x.B < y.B))
theorem s_rank (x y : Edge) : ∃ n, m_graph_rank x y = some n ∧ decide (0 ≤ n) = !x.lt y := by
  refine ⟨if cmpI x.A y.A ≠ 0 then cmpI x.A y.A else cmpI x.B y.B, by simp only [m_graph_rank, s_Compare, Option.bind_some, s_Or], ?_⟩
  unfold cmpI Edge.lt
  by_cases h1 : x.A < y.A
  · simp [h1]
  · by_cases h2 : y.A < x.A
    · have : x.A ≠ y.A := by omega
      simp [h1, h2, this]
    · have : x.A = y.A := by omega
      simp [this]
      by_cases h3 : x.B < y.B
      · simp [h3]
      · by_cases h4 : y.B < x.B <;> simp [h3, h4] <;> omega
def Edge.ok (n : Int) (e : Edge) : Bool := decide (0 ≤ e.A) && (decide (e.A < e.B) && decide (e.B < n))
/-- Each one lies ahead of the next one. -/
def risB : List Edge → Bool
  | x :: y :: l => x.lt y && risB (y :: l)
  | _ => true
theorem risB_iff (l : List Edge) : risB l = true ↔ ∀ k x y, l[k]? = some x → l[k + 1]? = some y → x.lt y = true := by
  induction l with
  | nil => simp [risB]
  | cons a l ih =>
    cases l with
    | nil => simp [risB]
    | cons b l =>
      simp only [risB, Bool.and_eq_true, ih]
      constructor
      · rintro ⟨h1, h2⟩ k x y hx hy
        cases k with
        | zero => simp at hx hy; subst hx; subst hy; exact h1
        | succ k => exact h2 k x y (by simpa using hx) (by simpa using hy)
      · intro h
        exact ⟨h 0 a b (by simp) (by simp), fun k x y hx hy => h (k + 1) x y (by simpa using hx) (by simpa using hy)⟩
/-- A graph that may be. -/
def okG (g : Graph) : Bool := decide (0 ≤ g.N) && (decide (g.N ≤ 64) && (decide (g.Edges.length ≤ 400) && (g.Edges.all (Edge.ok g.N) && risB g.Edges)))
theorem s_Check1 (e : Edge) (g : Graph) : m_graph_Check_1 e g = some (!e.ok g.N) := by
  simp only [m_graph_Check_1, m_graph_Check_1_j1, Edge.ok]
  by_cases h1 : e.A < 0
  · have : ¬ 0 ≤ e.A := by omega
    simp [h1, this]
  · have h1' : 0 ≤ e.A := by omega
    by_cases h2 : e.B ≤ e.A
    · have : ¬ e.A < e.B := by omega
      simp [h1, h2, this]
    · have h2' : e.A < e.B := by omega
      by_cases h3 : g.N ≤ e.B
      · have : ¬ e.B < g.N := by omega
        simp [h1, h2, h3, this]
      · have : e.B < g.N := by omega
        simp [h1, h2, h3, this, h1', h2']
/-- A loop that asks each one and the one ahead of it. -/
theorem loop_pairs {β : Type} (l : List Edge) (body : Int → Option (Int ⊕ β)) (yes no : β) (q : Edge → Bool) (_ : l.length ≤ 4000000000000000000)
    (hb : ∀ (k : Nat) x, l[k]? = some x → body k = some (if q x || (match k with | 0 => false | k + 1 => match l[k]? with | some y => !y.lt x | none => false) then .inr yes else .inl ((k + 1 : Nat) : Int))) (he : body l.length = some (.inr no)) :
    loop body 0 = some (if l.all (fun x => !q x) && risB l then no else yes) := by
  have key : ∀ m k, m + k = l.length → (∀ j x, j < k → l[j]? = some x → q x = false) → (∀ j x y, j + 1 < k → l[j]? = some x → l[j + 1]? = some y → x.lt y = true) → loop body (k : Int) = some (if l.all (fun x => !q x) && risB l then no else yes) := by
    intro m
    induction m with
    | zero =>
      intro k hk h1 h2
      have : k = l.length := by omega
      subst this
      rw [loop_eq, he]
      have a1 : l.all (fun x => !q x) = true := by
        rw [List.all_eq_true]
        intro x hx
        obtain ⟨j, hj⟩ := List.mem_iff_getElem?.1 hx
        simp [h1 j x (List.getElem?_eq_some_iff.1 hj).1 hj]
      have a2 : risB l = true := by
        rw [risB_iff]
        intro j x y hx hy
        exact h2 j x y (List.getElem?_eq_some_iff.1 hy).1 hx hy
      simp [a1, a2]
    | succ m ih =>
      intro k hk h1 h2
      have hlt : k < l.length := by omega
      have hx : l[k]? = some l[k] := List.getElem?_eq_getElem hlt
      rw [loop_eq, hb k _ hx]
      by_cases hq : q l[k] = true
      · have : l.all (fun x => !q x) = false := by
          rw [List.all_eq_false]
          exact ⟨l[k], List.getElem_mem hlt, by simp [hq]⟩
        simp [hq, this]
      · have hq : q l[k] = false := by simpa using hq
        cases k with
        | zero =>
          simp only [hq, Bool.or_false, Bool.false_eq_true, if_false]
          refine ih 1 (by omega) (fun j x hj hjx => ?_) (fun j x y hj => by omega)
          have : j = 0 := by omega
          subst this
          rw [hx] at hjx; simp at hjx; rw [← hjx]; exact hq
        | succ k =>
          have hy : l[k]? = some l[k] := List.getElem?_eq_getElem (by omega)
          simp only [hq, hy, Bool.false_or]
          by_cases hr : l[k].lt l[k + 1] = true
          · simp only [hr, Bool.not_true, Bool.false_eq_true, if_false]
            refine ih (k + 1 + 1) (by omega) (fun j x hj hjx => ?_) (fun j x y hj hjx hjy => ?_)
            · rcases Nat.lt_succ_iff_lt_or_eq.1 hj with h | rfl
              · exact h1 j x h hjx
              · rw [hx] at hjx; simp at hjx; rw [← hjx]; exact hq
            · rcases Nat.lt_succ_iff_lt_or_eq.1 (Nat.succ_lt_succ_iff.1 hj) with h | rfl
              · exact h2 j x y (by omega) hjx hjy
              · rw [hy] at hjx; rw [hx] at hjy; simp at hjx hjy; rw [← hjx, ← hjy]; exact hr
          · have hr : l[k].lt l[k + 1] = false := by simpa using hr
            have : risB l = false := by
              cases h : risB l with
              | false => rfl
              | true => rw [risB_iff] at h; have := h k _ _ hy hx; rw [hr] at this; exact absurd this (by simp)
            simp [hr, this]
  exact key l.length 0 (by omega) (fun j x hj => by omega) (fun j x y hj => by omega)
theorem wr_pred {k : Nat} (h : k ≤ 4000000000000000000) : wr (((k + 1 : Nat) : Int) - 1) = (k : Int) := by
  rw [wr_id (by omega) (by omega)]; omega
theorem s_Check (g : Graph) : m_graph_Check g = some (if okG g then 0 else 30) := by
  simp only [m_graph_Check, m_graph_Check_j1]
  by_cases h1 : g.N < 0
  · have : ¬ 0 ≤ g.N := by omega
    simp [h1, okG, this]
  by_cases h2 : 64 < g.N
  · have : ¬ g.N ≤ 64 := by omega
    simp [h1, h2, okG, this]
  by_cases h3 : 400 < g.Edges.length
  · have : ¬ g.Edges.length ≤ 400 := by omega
    have h3' : (400 : Int) < ln Edge.row g.Edges := by rw [ln_eq]; omega
    simp [h1, h2, h3', okG, this]
  have h3' : ¬ (400 : Int) < ln Edge.row g.Edges := by rw [ln_eq]; omega
  rw [s_ContainsFunc_Edge g.Edges _ (fun e => !e.ok g.N) (by omega) (fun x _ => s_Check1 x g)]
  have e1 : 0 ≤ g.N := by omega
  have e2 : g.N ≤ 64 := by omega
  have e3 : g.Edges.length ≤ 400 := by omega
  simp only [h1, h2, h3', decide_false, ifb_false, Option.bind_some, okG, e1, e2, e3, decide_true, Bool.true_and]
  by_cases h4 : g.Edges.any (fun e => !e.ok g.N) = true
  · have h5 : g.Edges.all (Edge.ok g.N) = false := by
      rw [List.any_eq_true] at h4
      obtain ⟨x, hx, hq⟩ := h4
      rw [List.all_eq_false]; exact ⟨x, hx, by simpa using hq⟩
    simp [h4, h5]
  · have h4 : g.Edges.any (fun e => !e.ok g.N) = false := by simpa using h4
    have h5 : g.Edges.all (Edge.ok g.N) = true := by
      rw [List.any_eq_false] at h4
      rw [List.all_eq_true]; intro x hx; simpa using h4 x hx
    simp only [h4, h5, ifb_false, Bool.true_and]
    have key := loop_pairs g.Edges (m_graph_Check_l1 g) 30 0 (fun _ => false) (by omega) (fun k x hx => by
      cases k with
      | zero =>
        have := lt_len (f := Edge.row) hx
        simp only [m_graph_Check_l1, this, ifb_true, m_graph_Check_j3]
        simp
        exact wr_succ' hx (by omega)
      | succ k =>
        have hk := (List.getElem?_eq_some_iff.1 hx).1
        have hy : g.Edges[k]? = some g.Edges[k] := List.getElem?_eq_getElem (by omega)
        obtain ⟨n, hn1, hn2⟩ := s_rank g.Edges[k] x
        have h0 : decide ((0 : Int) < ((k + 1 : Nat) : Int)) = true := decide_eq_true (by omega)
        simp only [m_graph_Check_l1, lt_len hx, ifb_true, h0, wr_pred (show k ≤ 4000000000000000000 by omega), at_get hy, at_get hx, Option.bind_some, hn1, hn2, m_graph_Check_j3, hy, Bool.false_or]
        cases g.Edges[k].lt x
        · simp
        · simp only [Bool.not_true, Bool.false_eq_true, if_false, ifb_false]; rw [wr_succ' hx (show g.Edges.length ≤ 4000000000000000000 by omega)])
      (by simp only [m_graph_Check_l1, nlt_len, ifb_false, m_graph_Check_j2, Option.map_some])
    rw [key]
    simp
end NX
end Go.Proofs.Ytadebhbiglmodaa
/-
  Plain laws: colours, and what the references say of graphs and nodes. No statement of the seat is proved here.
-/
namespace Go.Proofs.Ytadebhbiglmodaa
namespace NX
open Go
theorem okG_parts {g : Graph} (h : okG g = true) : 0 ≤ g.N ∧ g.N ≤ 64 ∧ g.Edges.length ≤ 400 ∧ (∀ e ∈ g.Edges, 0 ≤ e.A ∧ e.A < e.B ∧ e.B < g.N) ∧ risB g.Edges = true := by
  simp only [okG, Bool.and_eq_true, decide_eq_true_eq, List.all_eq_true, Edge.ok] at h
  exact ⟨h.1, h.2.1, h.2.2.1, fun e he => h.2.2.2.1 e he, h.2.2.2.2⟩
/-- A colour. -/
def cg (c : List Int) (i : Int) : Int := (c[i.toNat]?).getD 0
theorem at_cg {c : List Int} {i : Int} (h0 : 0 ≤ i) (h : i < c.length) : at_ c i = some (cg c i) := by
  obtain ⟨x, h1, h2⟩ := at_lt h0 h
  rw [h1, cg, h2]; rfl
/-- Colours of a graph. -/
def rightB (g : Graph) (c : List Int) : Bool := decide ((c.length : Int) = g.N) && (c.all (fun x => decide (1 ≤ x)) && g.Edges.all (fun e => !decide (cg c e.A = cg c e.B)))
theorem all_not_any {α : Type} (l : List α) (p : α → Bool) : l.all (fun x => !p x) = !l.any p := by
  induction l with
  | nil => rfl
  | cons x l ih => simp [ih]
theorem any_not_all {α : Type} (l : List α) (p q : α → Bool) (h : ∀ x, p x = !q x) : l.any p = !l.all q := by
  induction l with
  | nil => rfl
  | cons x l ih => simp [ih, h]
theorem s_Right (g : Graph) (c : List Int) (_ : c.length ≤ 1000000) : m_colour_Right g c = some (okG g && rightB g c) := by
  simp only [m_colour_Right, s_Check, Option.bind_some, ifb_not]
  cases hg : okG g with
  | false => simp [m_colour_Right_j1]
  | true =>
    obtain ⟨g1, g2, g3, g4, g5⟩ := okG_parts hg
    simp only [if_true, decide_true, ifb_true, Bool.true_and, ln_eq]
    by_cases hl : (c.length : Int) = g.N
    · rw [s_ContainsFunc_int c (fun z => m_colour_Right_1 z) (fun x => decide (x < 1)) (by omega) (fun x _ => rfl)]
      simp only [hl, decide_true, ifb_true, Option.bind_some, rightB, Bool.true_and]
      have e1 : c.any (fun x => decide (x < 1)) = !c.all (fun x => decide (1 ≤ x)) := any_not_all _ _ _ (fun x => by
        by_cases h : x < 1
        · have : ¬ 1 ≤ x := by omega
          simp [h, this]
        · have : 1 ≤ x := by omega
          simp [h, this])
      rw [e1]
      cases hp : c.all (fun x => decide (1 ≤ x)) with
      | false => simp [m_colour_Right_j1]
      | true =>
        simp only [Bool.not_true, m_colour_Right_j1, ifb_false]
        rw [s_ContainsFunc_Edge g.Edges _ (fun e => decide (cg c e.A = cg c e.B)) (by omega) (fun e he => by
          obtain ⟨k1, k2, k3⟩ := g4 e he
          simp only [m_colour_Right_2, at_cg (c := c) k1 (by omega), at_cg (c := c) (show 0 ≤ e.B by omega) (by omega), Option.bind_some])]
        simp [all_not_any]
    · simp [hl, rightB, m_colour_Right_j1]
/-! The references -/
theorem s_ahead (x y : Edge) : m_narthexref03_ahead x y = some (x.lt y) := by
  simp only [m_narthexref03_ahead, m_narthexref03_ahead_j1, Edge.lt]
  by_cases h1 : x.A < y.A
  · simp [h1]
  · by_cases h2 : x.A = y.A <;> simp [h1, h2]
theorem s_r03Check (g : Graph) : m_narthexref03_Check g = some (okG g) := by
  simp only [m_narthexref03_Check, m_narthexref03_Check_j1]
  by_cases h1 : g.N < 0
  · have : ¬ 0 ≤ g.N := by omega
    simp [h1, okG, this]
  by_cases h2 : 64 < g.N
  · have : ¬ g.N ≤ 64 := by omega
    simp [h1, h2, okG, this]
  by_cases h3 : 400 < g.Edges.length
  · have : ¬ g.Edges.length ≤ 400 := by omega
    have h3' : (400 : Int) < ln Edge.row g.Edges := by rw [ln_eq]; omega
    simp [h1, h2, h3', okG, this]
  have h3' : ¬ (400 : Int) < ln Edge.row g.Edges := by rw [ln_eq]; omega
  have e1 : 0 ≤ g.N := by omega
  have e2 : g.N ≤ 64 := by omega
  have e3 : g.Edges.length ≤ 400 := by omega
  simp only [h1, h2, h3', decide_false, ifb_false, okG, e1, e2, e3, decide_true, Bool.true_and]
  have key := loop_pairs g.Edges (m_narthexref03_Check_l1 g) false true (fun e => !e.ok g.N) (by omega) (fun k x hx => by
    have hw : wr ((k : Int) + 1) = ((k + 1 : Nat) : Int) := wr_succ' hx (by omega)
    simp only [m_narthexref03_Check_l1, lt_len hx, ifb_true, at_get hx, Option.bind_some, m_narthexref03_Check_j3, hw, Edge.ok]
    by_cases k1 : x.A < 0
    · have : ¬ 0 ≤ x.A := by omega
      simp [k1, this]
    · have k1' : 0 ≤ x.A := by omega
      by_cases k2 : x.B ≤ x.A
      · have : ¬ x.A < x.B := by omega
        simp [k1, k2, this]
      · have k2' : x.A < x.B := by omega
        by_cases k3 : g.N ≤ x.B
        · have : ¬ x.B < g.N := by omega
          simp [k1, k2, k3, this]
        · have k3' : x.B < g.N := by omega
          simp only [k1, k2, k3, k1', k2', k3', decide_false, decide_true, ifb_false, Bool.and_self, Bool.not_true, Bool.false_or]
          cases k with
          | zero => simp
          | succ k =>
            have hk := (List.getElem?_eq_some_iff.1 hx).1
            have hy : g.Edges[k]? = some g.Edges[k] := List.getElem?_eq_getElem (by omega)
            have h0 : decide ((0 : Int) < ((k + 1 : Nat) : Int)) = true := decide_eq_true (by omega)
            simp only [h0, ifb_true, wr_pred (show k ≤ 4000000000000000000 by omega), at_get hy, hy, Option.bind_some, s_ahead]
            cases g.Edges[k].lt x <;> simp)
    (by simp only [m_narthexref03_Check_l1, nlt_len, ifb_false, m_narthexref03_Check_j2, Option.map_some])
  rw [key]
  have : g.Edges.all (fun x => !!Edge.ok g.N x) = g.Edges.all (Edge.ok g.N) := by simp
  rw [this]
  cases g.Edges.all (Edge.ok g.N) && risB g.Edges <;> rfl
theorem s_r11Check (g : Graph) (c : List Int) (hc : c.length ≤ 1000000) : m_narthexref11_Check g c = some (decide ((c.length : Int) = g.N) && c.all (fun x => decide (0 ≤ x))) := by
  unfold m_narthexref11_Check
  rw [loop_any c (m_narthexref11_Check_l1 g c) (fun x => decide (x < 0)) false (decide ((c.length : Int) = g.N)) (by omega) (fun k x hx => by
    have hw : wr ((k : Int) + 1) = ((k + 1 : Nat) : Int) := wr_succ' hx (by omega)
    simp only [m_narthexref11_Check_l1, lt_len hx, ifb_true, at_get hx, Option.bind_some, hw]
    by_cases h : x < 0 <;> simp [h])
    (by simp only [m_narthexref11_Check_l1, nlt_len, ifb_false, m_narthexref11_Check_j1, Option.map_some]; rw [ln_eq])]
  have e1 : c.any (fun x => decide (x < 0)) = !c.all (fun x => decide (0 ≤ x)) := any_not_all _ _ _ (fun x => by
    by_cases h : x < 0
    · have : ¬ 0 ≤ x := by omega
      simp [h, this]
    · have : 0 ≤ x := by omega
      simp [h, this])
  rw [e1]
  cases c.all (fun x => decide (0 ≤ x)) <;> simp
theorem s_r01Has (l : List Int) (x : Int) (hl : l.length ≤ 1000000) : m_narthexref01_Has l x = some (decide (x ∈ l)) := by
  unfold m_narthexref01_Has
  rw [loop_any l (m_narthexref01_Has_l1 l x) (fun y => decide (y = x)) true false (by omega) (fun k y hy => by
    have hw : wr ((k : Int) + 1) = ((k + 1 : Nat) : Int) := wr_succ' hy (by omega)
    simp only [m_narthexref01_Has_l1, lt_len hy, ifb_true, at_get hy, Option.bind_some, hw]
    by_cases h : y = x <;> simp [h])
    (by simp only [m_narthexref01_Has_l1, nlt_len, ifb_false, m_narthexref01_Has_j1, Option.map_some])]
  by_cases h : x ∈ l
  · have : l.any (fun y => decide (y = x)) = true := by rw [List.any_eq_true]; exact ⟨x, h, by simp⟩
    simp [this, h]
  · have : l.any (fun y => decide (y = x)) = false := by
      rw [List.any_eq_false]; intro y hy; simp; rintro rfl; exact h hy
    simp [this, h]
theorem s_r11Right (g : Graph) (c : List Int) (hc : c.length ≤ 1000000) : m_narthexref11_Right g c = some (okG g && rightB g c) := by
  simp only [m_narthexref11_Right, s_r03Check, Option.bind_some, ifb_not]
  cases hg : okG g with
  | false => simp [m_narthexref11_Right_j1]
  | true =>
    obtain ⟨g1, g2, g3, g4, g5⟩ := okG_parts hg
    rw [s_r11Check g c hc, s_r01Has c 0 hc]
    simp only [ifb_true, Option.bind_some, Bool.true_and, rightB]
    by_cases hl : (c.length : Int) = g.N
    · simp only [hl, decide_true, Bool.true_and]
      cases h0 : c.all (fun x => decide (0 ≤ x)) with
      | false =>
        have : c.all (fun x => decide (1 ≤ x)) = false := by
          rw [List.all_eq_false] at h0 ⊢
          obtain ⟨x, hx, h⟩ := h0
          exact ⟨x, hx, by simp at h ⊢; omega⟩
        simp [m_narthexref11_Right_j1, this]
      | true =>
        simp only [ifb_true, m_narthexref11_Right_j1]
        have h0' : ∀ x ∈ c, 0 ≤ x := by rw [List.all_eq_true] at h0; intro x hx; simpa using h0 x hx
        by_cases hz : (0 : Int) ∈ c
        · have : c.all (fun x => decide (1 ≤ x)) = false := by
            rw [List.all_eq_false]; exact ⟨0, hz, by simp⟩
          simp [hz, this]
        · have : c.all (fun x => decide (1 ≤ x)) = true := by
            rw [List.all_eq_true]; intro x hx
            have := h0' x hx
            have : x ≠ 0 := by rintro rfl; exact hz hx
            simp; omega
          simp only [hz, decide_false, ifb_false, this, Bool.true_and]
          rw [loop_any g.Edges (m_narthexref11_Right_l1 g c) (fun e => decide (cg c e.A = cg c e.B)) false true (by omega) (fun k e he => by
            have hw : wr ((k : Int) + 1) = ((k + 1 : Nat) : Int) := wr_succ' he (by omega)
            obtain ⟨k1, k2, k3⟩ := g4 e (List.mem_iff_getElem?.2 ⟨k, he⟩)
            simp only [m_narthexref11_Right_l1, lt_len he, ifb_true, at_get he, Option.bind_some, at_cg (c := c) k1 (by omega), at_cg (c := c) (show 0 ≤ e.B by omega) (by omega), hw]
            by_cases h : cg c e.A = cg c e.B <;> simp [h])
            (by simp only [m_narthexref11_Right_l1, nlt_len, ifb_false, m_narthexref11_Right_j2, Option.map_some])]
          rw [all_not_any]
          cases g.Edges.any (fun e => decide (cg c e.A = cg c e.B)) <;> rfl
    · simp [hl, m_narthexref11_Right_j1]
/-- Is there an edge between two nodes? -/
def hasB (g : Graph) (a b : Int) : Bool := g.Edges.any fun e => (decide (e.A = a) && (decide (e.B = b) && decide (a ≤ b))) || (decide (e.A = b) && (decide (e.B = a) && decide (b < a)))
theorem s_r03Has (g : Graph) (a b : Int) (hl : g.Edges.length ≤ 1000000) : m_narthexref03_Has g a b = some (hasB g a b) := by
  unfold m_narthexref03_Has hasB
  rw [loop_any g.Edges (m_narthexref03_Has_l1 g a b) (fun e => (decide (e.A = a) && (decide (e.B = b) && decide (a ≤ b))) || (decide (e.A = b) && (decide (e.B = a) && decide (b < a)))) true false (by omega) (fun k e he => by
    have hw : wr ((k : Int) + 1) = ((k + 1 : Nat) : Int) := wr_succ' he (by omega)
    simp only [m_narthexref03_Has_l1, lt_len he, ifb_true, at_get he, Option.bind_some, m_narthexref03_Has_j2, hw]
    generalize decide (e.A = a) = p1; generalize decide (e.B = b) = p2; generalize decide (a ≤ b) = p3; generalize decide (e.A = b) = p4; generalize decide (e.B = a) = p5; generalize decide (b < a) = p6
    cases p1 <;> cases p2 <;> cases p3 <;> cases p4 <;> cases p5 <;> cases p6 <;> rfl)
    (by simp only [m_narthexref03_Has_l1, nlt_len, ifb_false, m_narthexref03_Has_j1, Option.map_some])]
  generalize List.any _ _ = p
  cases p <;> rfl
end NX
end Go.Proofs.Ytadebhbiglmodaa
/-
  The symbolic machine: own slices of integers, sorted by the library. No statement of the seat is proved here.
-/
namespace Go.Proofs.Ytadebhbiglmodaa
namespace NX
open Go Go.RowKit

section
variable {c : Ctx} {M : Mem} {S S' : St} {a : Act} {w : World} {fn : Func} {K : AV → List (Option Blk) → List (Option Sl) → Prop} {k : List It} {bs : List (Option Blk)} {ss : List (Option Sl)}
theorem isLL_ints {M : Mem} {zs : List Int} {vss : List (List Value)} (h : AV.isLL M 1 (zs.map intRow) vss) : vss.flatten = zs.map (Value.int .i64) := by
  induction zs generalizing vss with
  | nil => simp [AV.isLL] at h; subst h; rfl
  | cons z zs ih =>
    obtain ⟨v, r, rfl, h1, h2, h3⟩ := h
    obtain ⟨u, q, rfl, h4, h5⟩ := h2
    simp only [AV.isL] at h5
    simp only [AV.is] at h4
    subst h5; subst h4
    simp [ih h3]
theorem ints_isLL {M : Mem} : ∀ (zs : List Int), ∃ vss, AV.isLL M 1 (zs.map intRow) vss ∧ vss.flatten = zs.map (Value.int .i64)
  | [] => ⟨[], rfl, rfl⟩
  | z :: zs => by
    obtain ⟨vss, h1, h2⟩ := ints_isLL (M := M) zs
    exact ⟨[.int .i64 z] :: vss, ⟨_, _, rfl, rfl, ⟨_, _, rfl, rfl, rfl⟩, h1⟩, by simp [h2]⟩
/-- An own slice of integers is sorted by the library. -/
theorem sem_sort {ρ : Shelf.Ren} (Ly : Lays.n189 c.P ρ) {j T : Nat} {x : X} {zs : List Int} (hx : S.x x = .osl j) (hj : oget S.ss j = some ⟨T, 1, zs.map intRow⟩) (hlen : zs.length < 4611686018427387904) :
    Sem1 c S (.call (ρ.f 189) [x]) (.tup []) ⟨S.tm, S.bs, oput S.ss j (some ⟨T, 1, (zs.mergeSort fun x y => decide (x ≤ y)).map intRow⟩)⟩ := by
  intro ro ho M a w hT next Q hn
  obtain ⟨dst, op, ty, pos, af, gd⟩ := ro
  dsimp only at ho
  obtain ⟨cargs, argTypes, rfl, hfn, hxs⟩ := cO_call ho
  obtain ⟨q, rfl⟩ : ∃ q, cargs = #[q] := by
    have : cargs.toList.length = 1 := by have := congrArg List.length hxs; simpa using this
    obtain ⟨l⟩ := cargs
    match l, this with
    | [q], _ => exact ⟨q, rfl⟩
  have hqx : cX q = x := by simpa using hxs
  have hq := X_is hT q
  rw [hqx, hx] at hq
  obtain ⟨hjn, hq⟩ := hq
  obtain ⟨g0, vss, h1, h2, h3, h4⟩ := hT.st.slc j _ hj
  dsimp only at h1 h3 g0
  have hfl := isLL_ints h1
  have hrun : (execOp a.eval ⟨dst, .call ⟨.value (.func (ρ.f 189)), #[q], argTypes⟩, ty, pos, af, gd⟩).run c.P w = .ok (.enter (ρ.f 189) (#[q].map a.eval)) w := by
    have he : a.eval (.func (ρ.f 189)) = .func (.func (ρ.f 189)) #[] #[] := rfl
    generalize a.eval = ρ' at *
    simp [execOp, resolve, Deferred.ofValue, invoke, he, callFunc_run hfn]
  have e1 : (#[q].map a.eval) = #[M.σ j] := by
    apply Array.ext'; simp; exact hq
  rw [e1] at hrun
  unfold Oper.wp
  rw [hrun]
  show Calls c.P (ρ.f 189) #[M.σ j] w _
  obtain ⟨rs, hr1, hr2⟩ := ints_isLL (M := M.pure) (zs.mergeSort fun x y => decide (x ≤ y))
  have hone : ∀ v ∈ rs.flatten, v.oneCell' = true := by
    rw [hr2]; intro v hv
    obtain ⟨z, _, rfl⟩ := List.mem_map.1 hv; rfl
  have hl2 : (zs.mergeSort fun x y => decide (x ≤ y)).length = zs.length := by simp
  rcases h3.2 with ⟨e2, e3⟩ | ⟨g, cap, cur, e2, hb, e3, e4, e5, e6, e7⟩
  · have hz : zs = [] := by simpa using e3
    subst hz
    rw [e2]
    refine (Any.slices_Sort_int_none Ly none 0 w).mono ?_
    rintro e w' ⟨rfl, rfl⟩
    refine hn M _ _ (.refl M) ?_ ⟨[], rfl, rfl⟩
    have : oput S.ss j (some (⟨T, 1, ([].mergeSort fun (x y : Int) => decide (x ≤ y)).map intRow⟩ : Sl)) = S.ss := by
      have hj' := hj
      simp only [List.map_nil] at hj'
      have : ∀ (l : List (Option Sl)) (j : Nat) (L : Sl), oget l j = some L → oput l j (some L) = l := by
        intro l
        induction l with
        | nil => intro j L h; simp [oget] at h
        | cons x l ih => intro j L h; cases j with
          | zero => simp [oget] at h; subst h; rfl
          | succ j => simp only [oput]; rw [ih j L (by simpa [oget] using h)]
      simpa using this _ _ _ hj'
    rw [this]; exact hT.st
  · have e4' : zs.length ≤ cap := by simpa using e4
    rw [e2]
    simp only [List.length_map]
    rw [Nat.mul_one, List.length_map] at e7
    rw [hfl] at e7
    refine (Any.slices_Sort_int Ly g 0 cap zs w (holds_of_blockI e3 e7) (Array.getElem?_eq_some_iff.1 e3).1 hlen).mono ?_
    rintro e w' ⟨rfl, n, os, rfl⟩
    refine hn M _ _ (.refl M) ?_ ⟨[], rfl, rfl⟩
    refine hT.st.rewrite hj (g := g) (by rw [e2]; rfl) (grownBy_sortedI _) (vss' := rs) hr1 hone ?_
    rw [hr2, List.length_map, hl2, e2, List.length_map]
    exact ownsRow_sortedI (ss := zs) hl2 hb e3 e4' e5 e6
theorem V_sort {ρ : Shelf.Ren} (Ly : Lays.n189 c.P ρ) {d : Option Nat} {g : Option (Nat × Bool)} {l : List EOp} {j T f : Nat} {x : X} (zs : List Int) (hg : gm S g) (hf : f = ρ.f 189) (hx : S.x x = .osl j) (hj : oget S.ss j = some ⟨T, 1, zs.map intRow⟩) (hlen : zs.length < 4611686018427387904)
    (h : V c fn K (.ops l :: k) ((⟨S.tm, S.bs, oput S.ss j (some ⟨T, 1, (zs.mergeSort fun x y => decide (x ≤ y)).map intRow⟩)⟩ : St).put d (.tup []))) : V c fn K (.ops (⟨d, g, .call f [x]⟩ :: l) :: k) S := by
  subst hf
  exact V_sem hg (sem_sort Ly hx hj hlen) rfl h

end
end NX
end Go.Proofs.Ytadebhbiglmodaa
/-
  The function slices.Clone[[]int,int]: its code compiled, a model, and that the code answers as the model. Written by a program of ours (lb.py). No statement of the seat is proved here.
-/
namespace Go.Proofs.Ytadebhbiglmodaa
namespace NX
open Go
set_option maxRecDepth 100000
set_option maxHeartbeats 4000000
def e89 : EC := .seq (.reg [⟨(some 2), none, .mv (.c .nl)⟩]) (.seq (.seq (.reg [⟨(some 3), none, .mv (.t 0)⟩, ⟨(some 4), none, .isnil false (.t 3)⟩]) (.ite (.t 4) (.seq (.reg [⟨(some 2), none, .mv (.c .nl)⟩]) (.ret)) (.skip))) (.seq (.reg [⟨(some 5), none, .bsl 3 1 0 [.iv 0] []⟩, ⟨(some 6), none, .mv (.t 0)⟩, ⟨(some 7), none, .app 3 1 8 (.t 5) (.t 6)⟩, ⟨(some 2), none, .mv (.t 7)⟩]) (.ret)))
theorem ok89 : FnOK Try.prog 89 Try.f89 e89 [.t 2] 1 7 := ⟨by kernel_rfl, ⟨_, rfl, by kernel_rfl⟩, by kernel_rfl, by kernel_rfl⟩
/- slices.Clone[[]int,int] -/
noncomputable def m_slices_Clone_int (x1 : (List Int)) : Option (List Int) := app_ 8 [] x1
theorem o_slices_Clone_int (x1 : (List Int)) (r : (List Int)) (h : m_slices_Clone_int x1 = some r) : FunO Try.prog 89 [.sl 1 (List.map intRow x1)] 3 1 (List.map intRow r) := by
  refine FunO_intro ok89 rfl fun w0 H0 => ?_
  rw [m_slices_Clone_int] at h
  refine V_go 100 ?_
  dsimp only [e89, go_sem, Nat.reduceBEq, Nat.reduceAdd]
  refine ⟨by simp, ?_⟩
  refine V_isnil trivial rfl (fun hn => ?_) ?_
  · refine V_go 100 ?_
    dsimp only [go_sem, Nat.reduceBEq, Nat.reduceAdd]
    refine ⟨by simp, ?_⟩
    refine V_own 2 3 1 rfl rfl ?_
    dsimp only [go_sem, Nat.reduceBEq, Nat.reduceAdd]
    have hn : x1 = [] := by simpa using hn
    subst hn
    exact O_doneM intRow (e := []) ok89 (by simpa [app_] using h) rfl rfl
  · refine V_go 100 ?_
    dsimp only [go_sem, Nat.reduceBEq, Nat.reduceAdd]
    refine ⟨by simp, ?_⟩
    refine V_appM intRow h trivial rfl rfl rfl ?_
    refine V_go 100 ?_
    dsimp only [go_sem, Nat.reduceBEq, Nat.reduceAdd]
    refine ⟨by simp, ?_⟩
    exact O_doneM intRow ok89 (rfl : some r = some r) rfl rfl
theorem k_slices_Clone_int (x1 : (List Int)) (r : (List Int)) (h : m_slices_Clone_int x1 = some r) : FunP Try.prog 89 [.sl 1 (List.map intRow x1)] (.sl 1 (List.map intRow r)) := (o_slices_Clone_int x1 r h).sealed
def f_slices_Clone_int (_F : Nat) (x1 : (List Int)) : Option (List Int) := app_ 8 [] x1
theorem le_slices_Clone_int {F : Nat} {x1 : (List Int)} : ole (f_slices_Clone_int F x1) (m_slices_Clone_int x1) := ole_refl _
end NX
end Go.Proofs.Ytadebhbiglmodaa
