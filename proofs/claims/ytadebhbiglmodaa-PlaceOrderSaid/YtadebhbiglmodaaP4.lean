/-
  The function narthex/narthexref12.First: its code compiled, a model, and that the code answers as the model. Written by a program of ours (lb.py). No statement of the seat is proved here.
-/
import Derived.KernelRfl
import Derived.Test.YtadebhbiglmodaaP2
import Derived.Test.YtadebhbiglmodaaP3
namespace Go.Proofs.Ytadebhbiglmodaa
namespace NX
open Go
set_option maxRecDepth 100000
set_option maxHeartbeats 4000000
def e62 : EC := .seq (.reg [⟨(some 4), none, .box 49 8 (.t 0)⟩, ⟨(some 5), none, .box 49 8 (.t 1)⟩, ⟨(some 8), none, .mv (.c (.iv 0))⟩]) (.seq (.seq (.reg [⟨(some 9), none, .fld 3 (.t 4)⟩, ⟨(some 10), none, .load (.t 9)⟩, ⟨(some 11), none, .mv (.t 10)⟩, ⟨(some 12), (some (11, true)), .fld 4 (.t 4)⟩, ⟨(some 13), (some (11, true)), .load (.t 12)⟩, ⟨(some 14), (some (11, true)), .not (.t 13)⟩, ⟨(some 15), none, .pick (.t 11) (.t 14) (.c .ff)⟩]) (.ite (.t 15) (.seq (.reg [⟨(some 8), none, .mv (.c (.iv 1))⟩]) (.ret)) (.skip))) (.seq (.seq (.reg [⟨(some 16), none, .fld 3 (.t 5)⟩, ⟨(some 17), none, .load (.t 16)⟩, ⟨(some 18), none, .mv (.t 17)⟩, ⟨(some 19), (some (18, true)), .fld 4 (.t 5)⟩, ⟨(some 20), (some (18, true)), .load (.t 19)⟩, ⟨(some 21), none, .pick (.t 18) (.t 20) (.c .ff)⟩, ⟨(some 22), none, .mv (.t 21)⟩, ⟨(some 23), (some (22, true)), .fld 3 (.t 4)⟩, ⟨(some 24), (some (22, true)), .load (.t 23)⟩, ⟨(some 25), (some (22, true)), .not (.t 24)⟩, ⟨(some 26), none, .pick (.t 22) (.t 25) (.c .ff)⟩]) (.ite (.t 26) (.seq (.reg [⟨(some 8), none, .mv (.c (.iv 1))⟩]) (.ret)) (.skip))) (.seq (.seq (.reg [⟨(some 27), none, .fld 3 (.t 4)⟩, ⟨(some 28), none, .load (.t 27)⟩, ⟨(some 29), none, .not (.t 28)⟩, ⟨(some 30), none, .mv (.t 29)⟩, ⟨(some 31), (some (30, true)), .fld 3 (.t 5)⟩, ⟨(some 32), (some (30, true)), .load (.t 31)⟩, ⟨(some 33), (some (30, true)), .not (.t 32)⟩, ⟨(some 34), none, .pick (.t 30) (.t 33) (.c .ff)⟩, ⟨(some 35), none, .mv (.t 34)⟩, ⟨(some 36), (some (35, true)), .mv (.t 2)⟩, ⟨(some 37), none, .pick (.t 35) (.t 36) (.c .ff)⟩]) (.ite (.t 37) (.seq (.reg [⟨(some 8), none, .mv (.c (.iv 1))⟩]) (.ret)) (.skip))) (.seq (.seq (.reg [⟨(some 38), none, .fld 3 (.t 5)⟩, ⟨(some 39), none, .load (.t 38)⟩, ⟨(some 40), none, .mv (.t 39)⟩, ⟨(some 41), (some (40, true)), .fld 4 (.t 5)⟩, ⟨(some 42), (some (40, true)), .load (.t 41)⟩, ⟨(some 43), (some (40, true)), .not (.t 42)⟩, ⟨(some 44), none, .pick (.t 40) (.t 43) (.c .ff)⟩, ⟨(some 45), none, .mv (.t 44)⟩, ⟨(some 46), (some (45, false)), .fld 3 (.t 4)⟩, ⟨(some 47), (some (45, false)), .load (.t 46)⟩, ⟨(some 48), (some (45, false)), .mv (.t 47)⟩, ⟨(some 49), (some (48, true)), .fld 4 (.t 4)⟩, ⟨(some 50), (some (48, true)), .load (.t 49)⟩, ⟨(some 51), (some (45, false)), .pick (.t 48) (.t 50) (.c .ff)⟩, ⟨(some 52), (some (45, false)), .mv (.t 51)⟩, ⟨(some 53), (some (52, true)), .fld 3 (.t 5)⟩, ⟨(some 54), (some (52, true)), .load (.t 53)⟩, ⟨(some 55), (some (52, true)), .not (.t 54)⟩, ⟨(some 56), (some (45, false)), .pick (.t 52) (.t 55) (.c .ff)⟩, ⟨(some 57), none, .pick (.t 45) (.c .tt) (.t 56)⟩, ⟨(some 58), none, .mv (.t 57)⟩, ⟨(some 59), (some (58, false)), .fld 3 (.t 4)⟩, ⟨(some 60), (some (58, false)), .load (.t 59)⟩, ⟨(some 61), (some (58, false)), .not (.t 60)⟩, ⟨(some 62), (some (58, false)), .mv (.t 61)⟩, ⟨(some 63), (some (62, true)), .fld 3 (.t 5)⟩, ⟨(some 64), (some (62, true)), .load (.t 63)⟩, ⟨(some 65), (some (62, true)), .not (.t 64)⟩, ⟨(some 66), (some (58, false)), .pick (.t 62) (.t 65) (.c .ff)⟩, ⟨(some 67), (some (58, false)), .mv (.t 66)⟩, ⟨(some 68), (some (67, true)), .mv (.t 3)⟩, ⟨(some 69), (some (58, false)), .pick (.t 67) (.t 68) (.c .ff)⟩, ⟨(some 70), none, .pick (.t 58) (.c .tt) (.t 69)⟩]) (.ite (.t 70) (.seq (.reg [⟨(some 8), none, .mv (.c (.iv 2))⟩]) (.ret)) (.skip))) (.seq (.reg [⟨(some 8), none, .mv (.c (.iv 0))⟩]) (.ret))))))
theorem ok62 : FnOK Try.prog 62 Try.f62 e62 [.t 8] 4 67 := ⟨by kernel_rfl, ⟨_, rfl, by kernel_rfl⟩, by kernel_rfl, by kernel_rfl⟩
/- narthex/narthexref12.First -/
noncomputable def m_narthexref12_First_j4  : Bool → Option Int
| x8 =>
 ifb x8 (
 some 2) (
 some 0)
noncomputable def m_narthexref12_First_j3 (x1 : Side) (x2 : Side) (x4 : Bool) : Bool → Option Int
| x7 =>
 ifb x7 (
 some 1) (
 ifb x2.Fork (
 ifb (!x2.Dirty) (
 m_narthexref12_First_j4 true) (
 ifb x1.Fork (
 ifb x1.Dirty (
 ifb (!x2.Fork) (
 m_narthexref12_First_j4 true) (
 ifb (!x1.Fork) (
 ifb (!x2.Fork) (
 m_narthexref12_First_j4 x4) (
 m_narthexref12_First_j4 false)) (
 m_narthexref12_First_j4 false))) (
 ifb (!x1.Fork) (
 ifb (!x2.Fork) (
 m_narthexref12_First_j4 x4) (
 m_narthexref12_First_j4 false)) (
 m_narthexref12_First_j4 false))) (
 ifb (!x1.Fork) (
 ifb (!x2.Fork) (
 m_narthexref12_First_j4 x4) (
 m_narthexref12_First_j4 false)) (
 m_narthexref12_First_j4 false)))) (
 ifb x1.Fork (
 ifb x1.Dirty (
 ifb (!x2.Fork) (
 m_narthexref12_First_j4 true) (
 ifb (!x1.Fork) (
 ifb (!x2.Fork) (
 m_narthexref12_First_j4 x4) (
 m_narthexref12_First_j4 false)) (
 m_narthexref12_First_j4 false))) (
 ifb (!x1.Fork) (
 ifb (!x2.Fork) (
 m_narthexref12_First_j4 x4) (
 m_narthexref12_First_j4 false)) (
 m_narthexref12_First_j4 false))) (
 ifb (!x1.Fork) (
 ifb (!x2.Fork) (
 m_narthexref12_First_j4 x4) (
 m_narthexref12_First_j4 false)) (
 m_narthexref12_First_j4 false))))
noncomputable def m_narthexref12_First_j2 (x1 : Side) (x2 : Side) (x3 : Bool) (x4 : Bool) : Bool → Option Int
| x6 =>
 ifb x6 (
 some 1) (
 ifb (!x1.Fork) (
 ifb (!x2.Fork) (
 (m_narthexref12_First_j3 x1 x2 x4) x3) (
 (m_narthexref12_First_j3 x1 x2 x4) false)) (
 (m_narthexref12_First_j3 x1 x2 x4) false))
noncomputable def m_narthexref12_First_j1 (x1 : Side) (x2 : Side) (x3 : Bool) (x4 : Bool) : Bool → Option Int
| x5 =>
 ifb x5 (
 some 1) (
 ifb x2.Fork (
 ifb x2.Dirty (
 (m_narthexref12_First_j2 x1 x2 x3 x4) (!x1.Fork)) (
 (m_narthexref12_First_j2 x1 x2 x3 x4) false)) (
 (m_narthexref12_First_j2 x1 x2 x3 x4) false))
noncomputable def m_narthexref12_First (x1 : Side) (x2 : Side) (x3 : Bool) (x4 : Bool) : Option Int :=
 ifb x1.Fork (
 (m_narthexref12_First_j1 x1 x2 x3 x4) (!x1.Dirty)) (
 (m_narthexref12_First_j1 x1 x2 x3 x4) false)
theorem k_narthexref12_First (x1 : Side) (x2 : Side) (x3 : Bool) (x4 : Bool) (r : Int) (h : m_narthexref12_First x1 x2 x3 x4 = some r) : FunP Try.prog 62 [.agg (Side.row x1), .agg (Side.row x2), .bv x3, .bv x4] (.iv r) := by
  refine FunP_intro ok62 rfl rfl fun w0 H0 => ?_
  rw [m_narthexref12_First] at h
  refine V_go 12 ?_; dsimp only [e62, go_sem, Nat.reduceBEq, Nat.reduceAdd]; refine ⟨by simp, ?_⟩; refine V_join (fun (x5 : Bool) => (⟨(.any :: .any :: .bv x3 :: .bv x4 :: .ptr 0 0 :: .ptr 1 0 :: an 9 (.bv x5 :: an 55 [])), [some ⟨49, [.iv x1.Peer, .iv x1.Epoch, .iv x1.State, .bv x1.Fork, .bv x1.Dirty, .bv x1.Token, .bv x1.Bottle, .bv x1.Ask]⟩, some ⟨49, [.iv x2.Peer, .iv x2.Epoch, .iv x2.State, .bv x2.Fork, .bv x2.Dirty, .bv x2.Token, .bv x2.Bottle, .bv x2.Ask]⟩], []⟩ : St)) (m_narthexref12_First_j1 x1 x2 x3 x4) r ?_ fun J1 => ?_
  ·intro x5 h; rw [m_narthexref12_First_j1] at h; (try dsimp only); refine M_ite h rfl (fun _ h => ?_) fun _ h => ?_
   ·refine V_go 4 ?_; dsimp only [e62, go_sem, Nat.reduceBEq, Nat.reduceAdd]; refine ⟨by simp, ?_⟩; exact M_done (res := fun (r : Int) => .iv r) ok62 h
   ·refine V_go 7 ?_; dsimp only [e62, go_sem, Nat.reduceBEq, Nat.reduceAdd]; refine ⟨by simp, ?_⟩; refine V_join (fun (x6 : Bool) => (⟨(.any :: .any :: .bv x3 :: .bv x4 :: .ptr 0 0 :: .ptr 1 0 :: an 20 (.bv x6 :: an 44 [])), [some ⟨49, [.iv x1.Peer, .iv x1.Epoch, .iv x1.State, .bv x1.Fork, .bv x1.Dirty, .bv x1.Token, .bv x1.Bottle, .bv x1.Ask]⟩, some ⟨49, [.iv x2.Peer, .iv x2.Epoch, .iv x2.State, .bv x2.Fork, .bv x2.Dirty, .bv x2.Token, .bv x2.Bottle, .bv x2.Ask]⟩], []⟩ : St)) (m_narthexref12_First_j2 x1 x2 x3 x4) r ?_ fun J2 => ?_
    ·intro x6 h; rw [m_narthexref12_First_j2] at h; (try dsimp only); refine M_ite h rfl (fun _ h => ?_) fun _ h => ?_
     ·refine V_go 4 ?_; dsimp only [e62, go_sem, Nat.reduceBEq, Nat.reduceAdd]; refine ⟨by simp, ?_⟩; exact M_done (res := fun (r : Int) => .iv r) ok62 h
     ·refine V_go 8 ?_; dsimp only [e62, go_sem, Nat.reduceBEq, Nat.reduceAdd]; refine ⟨by simp, ?_⟩; refine V_join (fun (x7 : Bool) => (⟨(an 3 (.bv x4 :: .ptr 0 0 :: .ptr 1 0 :: an 31 (.bv x7 :: an 33 []))), [some ⟨49, [.iv x1.Peer, .iv x1.Epoch, .iv x1.State, .bv x1.Fork, .bv x1.Dirty, .bv x1.Token, .bv x1.Bottle, .bv x1.Ask]⟩, some ⟨49, [.iv x2.Peer, .iv x2.Epoch, .iv x2.State, .bv x2.Fork, .bv x2.Dirty, .bv x2.Token, .bv x2.Bottle, .bv x2.Ask]⟩], []⟩ : St)) (m_narthexref12_First_j3 x1 x2 x4) r ?_ fun J3 => ?_
      ·intro x7 h; rw [m_narthexref12_First_j3] at h; (try dsimp only); refine M_ite h rfl (fun _ h => ?_) fun _ h => ?_
       ·refine V_go 4 ?_; dsimp only [e62, go_sem, Nat.reduceBEq, Nat.reduceAdd]; refine ⟨by simp, ?_⟩; exact M_done (res := fun (r : Int) => .iv r) ok62 h
       ·refine V_go 7 ?_; dsimp only [e62, go_sem, Nat.reduceBEq, Nat.reduceAdd]; refine ⟨by simp, ?_⟩; refine V_join (fun (x8 : Bool) => (⟨(an 70 [.bv x8]), [], []⟩ : St)) m_narthexref12_First_j4 r ?_ fun J4 => ?_
        ·intro x8 h; rw [m_narthexref12_First_j4] at h; (try dsimp only); refine M_ite h rfl (fun _ h => ?_) fun _ h => ?_
         ·refine V_go 4 ?_; dsimp only [e62, go_sem, Nat.reduceBEq, Nat.reduceAdd]; refine ⟨by simp, ?_⟩; exact M_done (res := fun (r : Int) => .iv r) ok62 h
         ·refine V_go 5 ?_; dsimp only [e62, go_sem, Nat.reduceBEq, Nat.reduceAdd]; refine ⟨by simp, ?_⟩; exact M_done (res := fun (r : Int) => .iv r) ok62 h
        ·refine M_case 40 h rfl (fun _ h => ?_) fun _ h => ?_
         ·dsimp only [go_sem, Nat.reduceBEq, Nat.reduceAdd]; refine V_go 5 ?_; dsimp only [e62, go_sem, Nat.reduceBEq, Nat.reduceAdd]; refine ⟨by simp, ?_⟩; refine M_case 45 h rfl (fun _ h => ?_) fun _ h => ?_
          ·dsimp only [go_sem, Nat.reduceBEq, Nat.reduceAdd]; refine V_go 26 ?_; dsimp only [e62, go_sem, Nat.reduceBEq, Nat.reduceAdd]; refine ⟨by simp, ?_⟩; exact M_to J4 (s := true) h
          ·dsimp only [go_sem, Nat.reduceBEq, Nat.reduceAdd]; refine V_go 3 ?_; dsimp only [e62, go_sem, Nat.reduceBEq, Nat.reduceAdd]; refine ⟨by simp, ?_⟩; refine M_case 48 h rfl (fun _ h => ?_) fun _ h => ?_
           ·dsimp only [go_sem, Nat.reduceBEq, Nat.reduceAdd]; refine V_go 4 ?_; dsimp only [e62, go_sem, Nat.reduceBEq, Nat.reduceAdd]; refine ⟨by simp, ?_⟩; refine M_case 52 h rfl (fun _ h => ?_) fun _ h => ?_
            ·dsimp only [go_sem, Nat.reduceBEq, Nat.reduceAdd]; refine V_go 6 ?_; dsimp only [e62, go_sem, Nat.reduceBEq, Nat.reduceAdd]; refine ⟨by simp, ?_⟩; refine M_case 58 h rfl (fun _ h => ?_) fun _ h => ?_
             ·dsimp only [go_sem, Nat.reduceBEq, Nat.reduceAdd]; refine V_go 13 ?_; dsimp only [e62, go_sem, Nat.reduceBEq, Nat.reduceAdd]; refine ⟨by simp, ?_⟩; exact M_to J4 (s := true) h
             ·dsimp only [go_sem, Nat.reduceBEq, Nat.reduceAdd]; refine V_go 4 ?_; dsimp only [e62, go_sem, Nat.reduceBEq, Nat.reduceAdd]; refine ⟨by simp, ?_⟩; refine M_case 62 h rfl (fun _ h => ?_) fun _ h => ?_
              ·dsimp only [go_sem, Nat.reduceBEq, Nat.reduceAdd]; refine V_go 5 ?_; dsimp only [e62, go_sem, Nat.reduceBEq, Nat.reduceAdd]; refine ⟨by simp, ?_⟩; refine M_case 67 h rfl (fun _ h => ?_) fun _ h => ?_
               ·dsimp only [go_sem, Nat.reduceBEq, Nat.reduceAdd]; refine V_go 4 ?_; dsimp only [e62, go_sem, Nat.reduceBEq, Nat.reduceAdd]; refine ⟨by simp, ?_⟩; exact M_to J4 (s := x4) h
               ·dsimp only [go_sem, Nat.reduceBEq, Nat.reduceAdd]; refine V_go 4 ?_; dsimp only [e62, go_sem, Nat.reduceBEq, Nat.reduceAdd]; refine ⟨by simp, ?_⟩; exact M_to J4 (s := false) h
              ·dsimp only [go_sem, Nat.reduceBEq, Nat.reduceAdd]; refine V_go 9 ?_; dsimp only [e62, go_sem, Nat.reduceBEq, Nat.reduceAdd]; refine ⟨by simp, ?_⟩; exact M_to J4 (s := false) h
            ·dsimp only [go_sem, Nat.reduceBEq, Nat.reduceAdd]; refine V_go 10 ?_; dsimp only [e62, go_sem, Nat.reduceBEq, Nat.reduceAdd]; refine ⟨by simp, ?_⟩; refine M_case 62 h rfl (fun _ h => ?_) fun _ h => ?_
             ·dsimp only [go_sem, Nat.reduceBEq, Nat.reduceAdd]; refine V_go 5 ?_; dsimp only [e62, go_sem, Nat.reduceBEq, Nat.reduceAdd]; refine ⟨by simp, ?_⟩; refine M_case 67 h rfl (fun _ h => ?_) fun _ h => ?_
              ·dsimp only [go_sem, Nat.reduceBEq, Nat.reduceAdd]; refine V_go 4 ?_; dsimp only [e62, go_sem, Nat.reduceBEq, Nat.reduceAdd]; refine ⟨by simp, ?_⟩; exact M_to J4 (s := x4) h
              ·dsimp only [go_sem, Nat.reduceBEq, Nat.reduceAdd]; refine V_go 4 ?_; dsimp only [e62, go_sem, Nat.reduceBEq, Nat.reduceAdd]; refine ⟨by simp, ?_⟩; exact M_to J4 (s := false) h
             ·dsimp only [go_sem, Nat.reduceBEq, Nat.reduceAdd]; refine V_go 9 ?_; dsimp only [e62, go_sem, Nat.reduceBEq, Nat.reduceAdd]; refine ⟨by simp, ?_⟩; exact M_to J4 (s := false) h
           ·dsimp only [go_sem, Nat.reduceBEq, Nat.reduceAdd]; refine V_go 14 ?_; dsimp only [e62, go_sem, Nat.reduceBEq, Nat.reduceAdd]; refine ⟨by simp, ?_⟩; refine M_case 62 h rfl (fun _ h => ?_) fun _ h => ?_
            ·dsimp only [go_sem, Nat.reduceBEq, Nat.reduceAdd]; refine V_go 5 ?_; dsimp only [e62, go_sem, Nat.reduceBEq, Nat.reduceAdd]; refine ⟨by simp, ?_⟩; refine M_case 67 h rfl (fun _ h => ?_) fun _ h => ?_
             ·dsimp only [go_sem, Nat.reduceBEq, Nat.reduceAdd]; refine V_go 4 ?_; dsimp only [e62, go_sem, Nat.reduceBEq, Nat.reduceAdd]; refine ⟨by simp, ?_⟩; exact M_to J4 (s := x4) h
             ·dsimp only [go_sem, Nat.reduceBEq, Nat.reduceAdd]; refine V_go 4 ?_; dsimp only [e62, go_sem, Nat.reduceBEq, Nat.reduceAdd]; refine ⟨by simp, ?_⟩; exact M_to J4 (s := false) h
            ·dsimp only [go_sem, Nat.reduceBEq, Nat.reduceAdd]; refine V_go 9 ?_; dsimp only [e62, go_sem, Nat.reduceBEq, Nat.reduceAdd]; refine ⟨by simp, ?_⟩; exact M_to J4 (s := false) h
         ·dsimp only [go_sem, Nat.reduceBEq, Nat.reduceAdd]; refine V_go 8 ?_; dsimp only [e62, go_sem, Nat.reduceBEq, Nat.reduceAdd]; refine ⟨by simp, ?_⟩; refine M_case 48 h rfl (fun _ h => ?_) fun _ h => ?_
          ·dsimp only [go_sem, Nat.reduceBEq, Nat.reduceAdd]; refine V_go 4 ?_; dsimp only [e62, go_sem, Nat.reduceBEq, Nat.reduceAdd]; refine ⟨by simp, ?_⟩; refine M_case 52 h rfl (fun _ h => ?_) fun _ h => ?_
           ·dsimp only [go_sem, Nat.reduceBEq, Nat.reduceAdd]; refine V_go 6 ?_; dsimp only [e62, go_sem, Nat.reduceBEq, Nat.reduceAdd]; refine ⟨by simp, ?_⟩; refine M_case 58 h rfl (fun _ h => ?_) fun _ h => ?_
            ·dsimp only [go_sem, Nat.reduceBEq, Nat.reduceAdd]; refine V_go 13 ?_; dsimp only [e62, go_sem, Nat.reduceBEq, Nat.reduceAdd]; refine ⟨by simp, ?_⟩; exact M_to J4 (s := true) h
            ·dsimp only [go_sem, Nat.reduceBEq, Nat.reduceAdd]; refine V_go 4 ?_; dsimp only [e62, go_sem, Nat.reduceBEq, Nat.reduceAdd]; refine ⟨by simp, ?_⟩; refine M_case 62 h rfl (fun _ h => ?_) fun _ h => ?_
             ·dsimp only [go_sem, Nat.reduceBEq, Nat.reduceAdd]; refine V_go 5 ?_; dsimp only [e62, go_sem, Nat.reduceBEq, Nat.reduceAdd]; refine ⟨by simp, ?_⟩; refine M_case 67 h rfl (fun _ h => ?_) fun _ h => ?_
              ·dsimp only [go_sem, Nat.reduceBEq, Nat.reduceAdd]; refine V_go 4 ?_; dsimp only [e62, go_sem, Nat.reduceBEq, Nat.reduceAdd]; refine ⟨by simp, ?_⟩; exact M_to J4 (s := x4) h
              ·dsimp only [go_sem, Nat.reduceBEq, Nat.reduceAdd]; refine V_go 4 ?_; dsimp only [e62, go_sem, Nat.reduceBEq, Nat.reduceAdd]; refine ⟨by simp, ?_⟩; exact M_to J4 (s := false) h
             ·dsimp only [go_sem, Nat.reduceBEq, Nat.reduceAdd]; refine V_go 9 ?_; dsimp only [e62, go_sem, Nat.reduceBEq, Nat.reduceAdd]; refine ⟨by simp, ?_⟩; exact M_to J4 (s := false) h
           ·dsimp only [go_sem, Nat.reduceBEq, Nat.reduceAdd]; refine V_go 10 ?_; dsimp only [e62, go_sem, Nat.reduceBEq, Nat.reduceAdd]; refine ⟨by simp, ?_⟩; refine M_case 62 h rfl (fun _ h => ?_) fun _ h => ?_
            ·dsimp only [go_sem, Nat.reduceBEq, Nat.reduceAdd]; refine V_go 5 ?_; dsimp only [e62, go_sem, Nat.reduceBEq, Nat.reduceAdd]; refine ⟨by simp, ?_⟩; refine M_case 67 h rfl (fun _ h => ?_) fun _ h => ?_
             ·dsimp only [go_sem, Nat.reduceBEq, Nat.reduceAdd]; refine V_go 4 ?_; dsimp only [e62, go_sem, Nat.reduceBEq, Nat.reduceAdd]; refine ⟨by simp, ?_⟩; exact M_to J4 (s := x4) h
             ·dsimp only [go_sem, Nat.reduceBEq, Nat.reduceAdd]; refine V_go 4 ?_; dsimp only [e62, go_sem, Nat.reduceBEq, Nat.reduceAdd]; refine ⟨by simp, ?_⟩; exact M_to J4 (s := false) h
            ·dsimp only [go_sem, Nat.reduceBEq, Nat.reduceAdd]; refine V_go 9 ?_; dsimp only [e62, go_sem, Nat.reduceBEq, Nat.reduceAdd]; refine ⟨by simp, ?_⟩; exact M_to J4 (s := false) h
          ·dsimp only [go_sem, Nat.reduceBEq, Nat.reduceAdd]; refine V_go 14 ?_; dsimp only [e62, go_sem, Nat.reduceBEq, Nat.reduceAdd]; refine ⟨by simp, ?_⟩; refine M_case 62 h rfl (fun _ h => ?_) fun _ h => ?_
           ·dsimp only [go_sem, Nat.reduceBEq, Nat.reduceAdd]; refine V_go 5 ?_; dsimp only [e62, go_sem, Nat.reduceBEq, Nat.reduceAdd]; refine ⟨by simp, ?_⟩; refine M_case 67 h rfl (fun _ h => ?_) fun _ h => ?_
            ·dsimp only [go_sem, Nat.reduceBEq, Nat.reduceAdd]; refine V_go 4 ?_; dsimp only [e62, go_sem, Nat.reduceBEq, Nat.reduceAdd]; refine ⟨by simp, ?_⟩; exact M_to J4 (s := x4) h
            ·dsimp only [go_sem, Nat.reduceBEq, Nat.reduceAdd]; refine V_go 4 ?_; dsimp only [e62, go_sem, Nat.reduceBEq, Nat.reduceAdd]; refine ⟨by simp, ?_⟩; exact M_to J4 (s := false) h
           ·dsimp only [go_sem, Nat.reduceBEq, Nat.reduceAdd]; refine V_go 9 ?_; dsimp only [e62, go_sem, Nat.reduceBEq, Nat.reduceAdd]; refine ⟨by simp, ?_⟩; exact M_to J4 (s := false) h
      ·refine M_case 30 h rfl (fun _ h => ?_) fun _ h => ?_
       ·dsimp only [go_sem, Nat.reduceBEq, Nat.reduceAdd]; refine V_go 5 ?_; dsimp only [e62, go_sem, Nat.reduceBEq, Nat.reduceAdd]; refine ⟨by simp, ?_⟩; refine M_case 35 h rfl (fun _ h => ?_) fun _ h => ?_
        ·dsimp only [go_sem, Nat.reduceBEq, Nat.reduceAdd]; refine V_go 3 ?_; dsimp only [e62, go_sem, Nat.reduceBEq, Nat.reduceAdd]; refine ⟨by simp, ?_⟩; exact M_to J3 (s := x3) h
        ·dsimp only [go_sem, Nat.reduceBEq, Nat.reduceAdd]; refine V_go 3 ?_; dsimp only [e62, go_sem, Nat.reduceBEq, Nat.reduceAdd]; refine ⟨by simp, ?_⟩; exact M_to J3 (s := false) h
       ·dsimp only [go_sem, Nat.reduceBEq, Nat.reduceAdd]; refine V_go 8 ?_; dsimp only [e62, go_sem, Nat.reduceBEq, Nat.reduceAdd]; refine ⟨by simp, ?_⟩; exact M_to J3 (s := false) h
    ·refine M_case 18 h rfl (fun _ h => ?_) fun _ h => ?_
     ·dsimp only [go_sem, Nat.reduceBEq, Nat.reduceAdd]; refine V_go 4 ?_; dsimp only [e62, go_sem, Nat.reduceBEq, Nat.reduceAdd]; refine ⟨by simp, ?_⟩; refine M_case 22 h rfl (fun _ h => ?_) fun _ h => ?_
      ·dsimp only [go_sem, Nat.reduceBEq, Nat.reduceAdd]; refine V_go 5 ?_; dsimp only [e62, go_sem, Nat.reduceBEq, Nat.reduceAdd]; refine ⟨by simp, ?_⟩; exact M_to J2 (s := !x1.Fork) h
      ·dsimp only [go_sem, Nat.reduceBEq, Nat.reduceAdd]; refine V_go 5 ?_; dsimp only [e62, go_sem, Nat.reduceBEq, Nat.reduceAdd]; refine ⟨by simp, ?_⟩; exact M_to J2 (s := false) h
     ·dsimp only [go_sem, Nat.reduceBEq, Nat.reduceAdd]; refine V_go 9 ?_; dsimp only [e62, go_sem, Nat.reduceBEq, Nat.reduceAdd]; refine ⟨by simp, ?_⟩; exact M_to J2 (s := false) h
  ·refine M_case 11 h rfl (fun _ h => ?_) fun _ h => ?_
   ·dsimp only [go_sem, Nat.reduceBEq, Nat.reduceAdd]; refine V_go 5 ?_; dsimp only [e62, go_sem, Nat.reduceBEq, Nat.reduceAdd]; refine ⟨by simp, ?_⟩; exact M_to J1 (s := !x1.Dirty) h
   ·dsimp only [go_sem, Nat.reduceBEq, Nat.reduceAdd]; refine V_go 5 ?_; dsimp only [e62, go_sem, Nat.reduceBEq, Nat.reduceAdd]; refine ⟨by simp, ?_⟩; exact M_to J1 (s := false) h
end NX
end Go.Proofs.Ytadebhbiglmodaa
/-
  The function narthex/narthexref12.Arcs: its code compiled, a model, and that the code answers as the model. Written by a program of ours (lb.py). No statement of the seat is proved here.
-/
namespace Go.Proofs.Ytadebhbiglmodaa
namespace NX
open Go
set_option maxRecDepth 100000
set_option maxHeartbeats 4000000
def e30_L1 : EC := .seq (.seq (.reg [⟨(some 23), none, .mv (.t 5)⟩, ⟨(some 24), none, .fld 0 (.t 1)⟩, ⟨(some 25), none, .load (.t 24)⟩, ⟨(some 26), none, .len (.t 25)⟩, ⟨(some 27), none, .bin .lss (.t 23) (.t 26)⟩]) (.ite (.t 27) (.skip) (.exit 2))) (.seq (.blk 3 (.seq (.drw [⟨(some 30), none, .fld 0 (.t 1)⟩, ⟨(some 31), none, .load (.t 30)⟩, ⟨(some 32), none, .mv (.t 4)⟩, ⟨(some 33), none, .idx 3 (.t 31) (.t 32)⟩, ⟨(some 34), none, .loadA 3 (.t 33)⟩, ⟨(some 35), none, .fld 0 (.t 1)⟩, ⟨(some 36), none, .load (.t 35)⟩, ⟨(some 37), none, .mv (.t 5)⟩, ⟨(some 38), none, .idx 3 (.t 36) (.t 37)⟩, ⟨(some 39), none, .loadA 3 (.t 38)⟩, ⟨(some 6), none, .alloc 39 [.iv 0, .iv 0, .nl]⟩, ⟨(some 7), none, .alloc 39 [.iv 0, .iv 0, .nl]⟩, ⟨none, none, .store 3 (.t 6) (.t 34)⟩, ⟨none, none, .store 3 (.t 7) (.t 39)⟩] [[], [0], [], [1, 2], [3], [], [5], [], [6, 7], [8], [], [], [10, 4, 0, 1, 2, 3, 4, 10, 11], [11, 9, 12, 0, 1, 2, 3, 4, 5, 6, 7, 8, 9, 10, 11, 12]] [[1], [0, 3], [3], [1, 2, 4], [3, 12], [6], [5, 8], [8], [6, 7, 9], [8, 13], [12], [13], [4, 10], [9, 11]]) (.seq (.reg [⟨(some 41), none, .loadA 3 (.t 6)⟩, ⟨(some 42), none, .fld 0 (.t 7)⟩, ⟨(some 43), none, .load (.t 42)⟩, ⟨(some 44), none, .call 25 [(.t 41), (.t 43)]⟩, ⟨(some 40), none, .mv (.t 44)⟩, ⟨(some 45), none, .ext (.t 40) 0⟩, ⟨(some 46), none, .ext (.t 40) 1⟩, ⟨(some 8), none, .alloc 49 [.iv 0, .iv 0, .iv 0, .ff, .ff, .ff, .ff, .ff]⟩, ⟨none, none, .store 8 (.t 8) (.t 45)⟩, ⟨(some 9), none, .mv (.t 46)⟩]) (.seq (.reg [⟨(some 48), none, .loadA 3 (.t 7)⟩, ⟨(some 49), none, .fld 0 (.t 6)⟩, ⟨(some 50), none, .load (.t 49)⟩, ⟨(some 51), none, .call 25 [(.t 48), (.t 50)]⟩, ⟨(some 47), none, .mv (.t 51)⟩, ⟨(some 52), none, .ext (.t 47) 0⟩, ⟨(some 53), none, .ext (.t 47) 1⟩, ⟨(some 10), none, .alloc 49 [.iv 0, .iv 0, .iv 0, .ff, .ff, .ff, .ff, .ff]⟩, ⟨none, none, .store 8 (.t 10) (.t 52)⟩, ⟨(some 11), none, .mv (.t 53)⟩]) (.seq (.seq (.reg [⟨(some 54), none, .mv (.t 9)⟩, ⟨(some 55), none, .not (.t 54)⟩, ⟨(some 56), none, .mv (.t 55)⟩, ⟨(some 57), (some (56, false)), .mv (.t 11)⟩, ⟨(some 58), (some (56, false)), .not (.t 57)⟩, ⟨(some 59), none, .pick (.t 56) (.c .tt) (.t 58)⟩, ⟨(some 60), none, .mv (.t 59)⟩, ⟨(some 61), (some (60, false)), .fld 1 (.t 8)⟩, ⟨(some 62), (some (60, false)), .load (.t 61)⟩, ⟨(some 63), (some (60, false)), .fld 1 (.t 10)⟩, ⟨(some 64), (some (60, false)), .load (.t 63)⟩, ⟨(some 65), (some (60, false)), .bin .neq (.t 62) (.t 64)⟩, ⟨(some 66), none, .pick (.t 60) (.c .tt) (.t 65)⟩]) (.ite (.t 66) (.exit 3) (.skip))) (.seq (.drw [⟨(some 67), none, .loadA 8 (.t 8)⟩, ⟨(some 68), none, .loadA 8 (.t 10)⟩, ⟨(some 69), none, .fld 1 (.t 1)⟩, ⟨(some 70), none, .load (.t 69)⟩, ⟨(some 71), none, .fld 0 (.t 7)⟩, ⟨(some 72), none, .load (.t 71)⟩, ⟨(some 73), none, .fld 0 (.t 6)⟩, ⟨(some 74), none, .load (.t 73)⟩, ⟨(some 75), none, .fld 1 (.t 8)⟩, ⟨(some 76), none, .load (.t 75)⟩, ⟨(some 77), none, .call 63 [(.t 70), (.t 72), (.t 74), (.t 76)]⟩, ⟨(some 78), none, .fld 1 (.t 1)⟩, ⟨(some 79), none, .load (.t 78)⟩, ⟨(some 80), none, .fld 0 (.t 6)⟩, ⟨(some 81), none, .load (.t 80)⟩, ⟨(some 82), none, .fld 0 (.t 7)⟩, ⟨(some 83), none, .load (.t 82)⟩, ⟨(some 84), none, .fld 1 (.t 8)⟩, ⟨(some 85), none, .load (.t 84)⟩, ⟨(some 86), none, .call 63 [(.t 79), (.t 81), (.t 83), (.t 85)]⟩, ⟨(some 87), none, .call 62 [(.t 67), (.t 68), (.t 77), (.t 86)]⟩, ⟨(some 12), none, .mv (.t 87)⟩] [[], [], [], [2], [], [4], [], [6], [], [8], [3, 5, 7, 9], [], [11], [], [13], [], [15], [], [17], [12, 14, 16, 18, 10], [0, 1, 10, 19, 19], [20, 20, 0, 1, 2, 3, 4, 5, 6, 7, 8, 9, 10, 11, 12, 13, 14, 15, 16, 17, 18, 19, 20]] [[20], [20], [3], [2, 10], [5], [4, 10], [7], [6, 10], [9], [8, 10], [3, 5, 7, 9, 20], [12], [11, 19], [14], [13, 19], [16], [15, 19], [18], [17, 19], [12, 14, 16, 18, 20], [0, 1, 10, 19, 21], [20]]) (.seq (.seq (.reg [⟨(some 88), none, .mv (.t 12)⟩, ⟨(some 89), none, .bin .eql (.t 88) (.c (.iv 1))⟩]) (.ite (.t 89) (.reg [⟨(some 90), none, .mv (.t 3)⟩, ⟨(some 91), none, .fld 0 (.t 6)⟩, ⟨(some 92), none, .load (.t 91)⟩, ⟨(some 93), none, .fld 0 (.t 7)⟩, ⟨(some 94), none, .load (.t 93)⟩, ⟨(some 95), none, .build [.iv 0, .iv 0] [(0, 1, (.t 92)), (1, 1, (.t 94))]⟩, ⟨(some 96), none, .bsl 62 2 1 [.iv 0, .iv 0] [(0, (.t 95))]⟩, ⟨(some 97), none, .app 62 2 16 (.t 90) (.t 96)⟩, ⟨(some 3), none, .mv (.t 97)⟩]) (.skip))) (.seq (.reg [⟨(some 98), none, .mv (.t 12)⟩, ⟨(some 99), none, .bin .eql (.t 98) (.c (.iv 2))⟩]) (.ite (.t 99) (.reg [⟨(some 100), none, .mv (.t 3)⟩, ⟨(some 101), none, .fld 0 (.t 7)⟩, ⟨(some 102), none, .load (.t 101)⟩, ⟨(some 103), none, .fld 0 (.t 6)⟩, ⟨(some 104), none, .load (.t 103)⟩, ⟨(some 105), none, .build [.iv 0, .iv 0] [(0, 1, (.t 102)), (1, 1, (.t 104))]⟩, ⟨(some 106), none, .bsl 62 2 1 [.iv 0, .iv 0] [(0, (.t 105))]⟩, ⟨(some 107), none, .app 62 2 16 (.t 100) (.t 106)⟩, ⟨(some 3), none, .mv (.t 107)⟩]) (.skip)))))))))) (.reg [⟨(some 28), none, .mv (.t 5)⟩, ⟨(some 29), none, .bin .add (.t 28) (.c (.iv 1))⟩, ⟨(some 5), none, .mv (.t 29)⟩]))
def e30_L0 : EC := .seq (.seq (.reg [⟨(some 14), none, .mv (.t 4)⟩, ⟨(some 15), none, .fld 0 (.t 1)⟩, ⟨(some 16), none, .load (.t 15)⟩, ⟨(some 17), none, .len (.t 16)⟩, ⟨(some 18), none, .bin .lss (.t 14) (.t 17)⟩]) (.ite (.t 18) (.skip) (.exit 0))) (.seq (.blk 1 (.seq (.reg [⟨(some 21), none, .mv (.t 4)⟩, ⟨(some 22), none, .bin .add (.t 21) (.c (.iv 1))⟩, ⟨(some 5), none, .mv (.t 22)⟩]) (.blk 2 (.loop e30_L1)))) (.reg [⟨(some 19), none, .mv (.t 4)⟩, ⟨(some 20), none, .bin .add (.t 19) (.c (.iv 1))⟩, ⟨(some 4), none, .mv (.t 20)⟩]))
def e30 : EC := .seq (.reg [⟨(some 1), none, .box 43 2 (.t 0)⟩, ⟨(some 2), none, .mv (.c .nl)⟩]) (.seq (.reg [⟨(some 13), none, .bsl 62 2 0 [.iv 0, .iv 0] []⟩, ⟨(some 3), none, .mv (.t 13)⟩]) (.seq (.seq (.reg [⟨(some 4), none, .mv (.c (.iv 0))⟩]) (.blk 0 (.loop e30_L0))) (.seq (.reg [⟨(some 108), none, .mv (.t 3)⟩, ⟨(some 2), none, .mv (.t 108)⟩]) (.ret))))
theorem ok30 : FnOK Try.prog 30 Try.f30 e30 [.t 2] 1 108 := ⟨by kernel_rfl, ⟨_, rfl, by kernel_rfl⟩, by kernel_rfl, by kernel_rfl⟩
/- narthex/narthexref12.Arcs -/
noncomputable def m_narthexref12_Arcs_j1  : (List Arc) → Option (List Arc)
| x88 =>
 some x88
noncomputable def m_narthexref12_Arcs_j2 (x42 : Int) : (List Arc) → Option ((Int × (List Arc)) ⊕ (List Arc))
| x82 =>
 some (.inl (wr (x42 + 1), x82))
noncomputable def m_narthexref12_Arcs_j3 (x60 : Int) : (List Arc) → Option ((Int × (List Arc)) ⊕ ((Int × (List Arc)) ⊕ (List Arc)))
| x75 =>
 some (.inl (wr (x60 + 1), x75))
noncomputable def m_narthexref12_Arcs_j6 (x60 : Int) (x64 : Diner) (x65 : Diner) (x71 : Int) : (List Arc) → Option ((Int × (List Arc)) ⊕ ((Int × (List Arc)) ⊕ (List Arc)))
| x73 =>
 ifb (decide (x71 = 2)) (
 (app_ 16 x73 ([(Arc.mk x65.ID x64.ID)])).bind fun x74 =>
 (m_narthexref12_Arcs_j3 x60) x74) (
 (m_narthexref12_Arcs_j3 x60) x73)
noncomputable def m_narthexref12_Arcs_j5 (x1 : Scene) (x60 : Int) (x61 : (List Arc)) (x64 : Diner) (x65 : Diner) (x66 : (Side × Bool)) (x67 : (Side × Bool)) : Bool → Option ((Int × (List Arc)) ⊕ ((Int × (List Arc)) ⊕ (List Arc)))
| x68 =>
 ifb x68 (
 (m_narthexref12_Arcs_j3 x60) x61) (
 (m_narthexref12_goes x1.Mail x65.ID x64.ID x66.1.Epoch).bind fun x69 =>
 (m_narthexref12_goes x1.Mail x64.ID x65.ID x66.1.Epoch).bind fun x70 =>
 (m_narthexref12_First x66.1 x67.1 x69 x70).bind fun x71 =>
 ifb (decide (x71 = 1)) (
 (app_ 16 x61 ([(Arc.mk x64.ID x65.ID)])).bind fun x72 =>
 (m_narthexref12_Arcs_j6 x60 x64 x65 x71) x72) (
 (m_narthexref12_Arcs_j6 x60 x64 x65 x71) x61))
noncomputable def m_narthexref12_Arcs_j4 (x1 : Scene) (x60 : Int) (x61 : (List Arc)) : (Diner × Diner) → Option ((Int × (List Arc)) ⊕ ((Int × (List Arc)) ⊕ (List Arc)))
| (x64, x65) =>
 (m_narthexref12_Side x64 x65.ID).bind fun x66 =>
 (m_narthexref12_Side x65 x64.ID).bind fun x67 =>
 ifb (!x66.2) (
 (m_narthexref12_Arcs_j5 x1 x60 x61 x64 x65 x66 x67) true) (
 ifb (!x67.2) (
 (m_narthexref12_Arcs_j5 x1 x60 x61 x64 x65 x66 x67) true) (
 (m_narthexref12_Arcs_j5 x1 x60 x61 x64 x65 x66 x67) (!decide (x66.1.Epoch = x67.1.Epoch))))
noncomputable def m_narthexref12_Arcs_l2 (x1 : Scene) (x42 : Int) : (Int × (List Arc)) → Option ((Int × (List Arc)) ⊕ ((Int × (List Arc)) ⊕ (List Arc)))
| (x60, x61) =>
 ifb (decide (x60 < (ln Diner.row x1.Diners))) (
 (at_ x1.Diners x42).bind fun x62 =>
 (at_ x1.Diners x60).bind fun x63 =>
 (m_narthexref12_Arcs_j4 x1 x60 x61) (x62, x63)) (
 Option.map Sum.inr ((m_narthexref12_Arcs_j2 x42) x61))
noncomputable def m_narthexref12_Arcs_l1 (x1 : Scene) : (Int × (List Arc)) → Option ((Int × (List Arc)) ⊕ (List Arc))
| (x42, x43) =>
 ifb (decide (x42 < (ln Diner.row x1.Diners))) (
 loop (m_narthexref12_Arcs_l2 x1 x42) (wr (x42 + 1), x43)) (
 Option.map Sum.inr (m_narthexref12_Arcs_j1 x43))
noncomputable def m_narthexref12_Arcs (x1 : Scene) : Option (List Arc) :=
 loop (m_narthexref12_Arcs_l1 x1) (0, ([] : List Arc))
theorem o_narthexref12_Arcs (x1 : Scene) (r : (List Arc)) (h : m_narthexref12_Arcs x1 = some r) : FunO Try.prog 30 [.agg (Scene.row x1)] 62 2 (List.map Arc.row r) := by
  refine FunO_intro ok30 rfl fun w0 H0 => ?_
  rw [m_narthexref12_Arcs] at h
  refine V_go 15 ?_; dsimp only [e30, e30_L0, e30_L1, go_sem, Nat.reduceBEq, Nat.reduceAdd]; refine ⟨by simp, ?_⟩; refine V_join (fun (x88 : (List Arc)) => (⟨(an 3 (.osl 0 :: an 105 [])), [], [some ⟨62, 2, List.map Arc.row x88⟩]⟩ : St)) m_narthexref12_Arcs_j1 r ?_ fun J1 => ?_
  ·intro x88 h; rw [m_narthexref12_Arcs_j1] at h; (try dsimp only); refine V_go 5 ?_; dsimp only [e30, e30_L0, e30_L1, go_sem, Nat.reduceBEq, Nat.reduceAdd]; refine ⟨by simp, ?_⟩; exact O_doneM Arc.row ok30 h rfl rfl
  ·refine V_go 1 ?_; dsimp only [e30, e30_L0, e30_L1, go_sem, Nat.reduceBEq, Nat.reduceAdd]; refine ⟨by simp, ?_⟩; refine M_loop h (fun ((x42, x43) : (Int × (List Arc))) => (⟨(.any :: .ptr 0 0 :: .any :: .osl 0 :: .iv x42 :: an 104 []), [some ⟨43, [.sl 3 (List.map Diner.row x1.Diners), .sl 5 (List.map Mail.row x1.Mail)]⟩], [some ⟨62, 2, List.map Arc.row x43⟩]⟩ : St)) (by simp [go_sem]) (by rintro ⟨x42, x43⟩; first | rfl | simp [go_sem]) ?_; rintro n1 ⟨x42, x43⟩ y1 h hin1 hout1; rw [m_narthexref12_Arcs_l1] at h; (try dsimp only); refine V_go 9 ?_
   dsimp only [e30, e30_L0, e30_L1, go_sem, Nat.reduceBEq, Nat.reduceAdd]; refine ⟨by simp, ?_⟩; refine M_ite h rfl (fun _ h => ?_) fun _ h => ?_
   ·refine V_go 9 ?_; dsimp only [e30, e30_L0, e30_L1, go_sem, Nat.reduceBEq, Nat.reduceAdd]; refine ⟨by simp, ?_⟩; refine V_join (fun (x82 : (List Arc)) => (⟨(.any :: .ptr 0 0 :: .any :: .osl 0 :: .iv x42 :: an 104 []), [some ⟨43, [.sl 3 (List.map Diner.row x1.Diners), .sl 5 (List.map Mail.row x1.Mail)]⟩], [some ⟨62, 2, List.map Arc.row x82⟩]⟩ : St)) (m_narthexref12_Arcs_j2 x42) y1 ?_ fun J2 => ?_
    ·intro x82 h; rw [m_narthexref12_Arcs_j2] at h; (try dsimp only); refine V_go 6 ?_; dsimp only [e30, e30_L0, e30_L1, go_sem, Nat.reduceBEq, Nat.reduceAdd]; refine ⟨by simp, ?_⟩; exact M_back h hin1
    ·refine V_go 1 ?_; dsimp only [e30, e30_L0, e30_L1, go_sem, Nat.reduceBEq, Nat.reduceAdd]; refine ⟨by simp, ?_⟩; refine M_loop h (fun ((x60, x61) : (Int × (List Arc))) => (⟨(.any :: .ptr 0 0 :: .any :: .osl 0 :: .iv x42 :: .iv x60 :: an 103 []), [some ⟨43, [.sl 3 (List.map Diner.row x1.Diners), .sl 5 (List.map Mail.row x1.Mail)]⟩], [some ⟨62, 2, List.map Arc.row x61⟩]⟩ : St)) (by simp [go_sem]) (by rintro ⟨x60, x61⟩; first | rfl | simp [go_sem]) ?_; rintro n2 ⟨x60, x61⟩ y2 h hin2 hout2; rw [m_narthexref12_Arcs_l2] at h; (try dsimp only); refine V_go 9 ?_
     dsimp only [e30, e30_L0, e30_L1, go_sem, Nat.reduceBEq, Nat.reduceAdd]; refine ⟨by simp, ?_⟩; refine M_ite h rfl (fun _ h => ?_) fun _ h => ?_
     ·refine V_go 2 ?_; dsimp only [e30, e30_L0, e30_L1, go_sem, Nat.reduceBEq, Nat.reduceAdd]; refine ⟨by simp, ?_⟩; refine V_join (fun (x75 : (List Arc)) => (⟨(.any :: .ptr 0 0 :: .any :: .osl 0 :: .iv x42 :: .iv x60 :: an 103 []), [some ⟨43, [.sl 3 (List.map Diner.row x1.Diners), .sl 5 (List.map Mail.row x1.Mail)]⟩], [some ⟨62, 2, List.map Arc.row x75⟩]⟩ : St)) (m_narthexref12_Arcs_j3 x60) y2 ?_ fun J3 => ?_
      ·intro x75 h; rw [m_narthexref12_Arcs_j3] at h; (try dsimp only); refine V_go 5 ?_; dsimp only [e30, e30_L0, e30_L1, go_sem, Nat.reduceBEq, Nat.reduceAdd]; refine ⟨by simp, ?_⟩; exact M_back h hin2
      ·refine V_go 2 ?_; dsimp only [e30, e30_L0, e30_L1, go_sem, Nat.reduceBEq, Nat.reduceAdd]; refine ⟨by simp, ?_⟩
       refine V_join (fun ((x64, x65) : (Diner × Diner)) => (⟨(.any :: .ptr 0 0 :: .any :: .osl 0 :: .iv x42 :: .iv x60 :: .ptr 1 0 :: .ptr 2 0 :: an 101 []), [some ⟨43, [.sl 3 (List.map Diner.row x1.Diners), .sl 5 (List.map Mail.row x1.Mail)]⟩, some ⟨39, [.iv x64.ID, .iv x64.Phase, .sl 8 (List.map Side.row x64.Sides)]⟩, some ⟨39, [.iv x65.ID, .iv x65.Phase, .sl 8 (List.map Side.row x65.Sides)]⟩], [some ⟨62, 2, List.map Arc.row x61⟩]⟩ : St)) (m_narthexref12_Arcs_j4 x1 x60 x61) y2 ?_ fun J4 => ?_
       ·rintro ⟨x64, x65⟩ h; rw [m_narthexref12_Arcs_j4] at h; (try dsimp only); refine V_go 5 ?_; dsimp only [e30, e30_L0, e30_L1, go_sem, Nat.reduceBEq, Nat.reduceAdd]; refine ⟨by simp, ?_⟩; obtain ⟨x66, ex66, h⟩ := Option.bind_eq_some_iff.1 h; refine V_call trivial (k_narthexref12_Side x64 x65.ID _ ex66) (h := ?_); refine V_go 12 ?_; dsimp only [e30, e30_L0, e30_L1, go_sem, Nat.reduceBEq, Nat.reduceAdd]; refine ⟨by simp, ?_⟩; obtain ⟨x67, ex67, h⟩ := Option.bind_eq_some_iff.1 h; refine V_call trivial (k_narthexref12_Side x65 x64.ID _ ex67) (h := ?_); refine V_go 13 ?_
        dsimp only [e30, e30_L0, e30_L1, go_sem, Nat.reduceBEq, Nat.reduceAdd]; refine ⟨by simp, ?_⟩
        refine V_join (fun (x68 : Bool) => (⟨(.any :: .ptr 0 0 :: .any :: .osl 0 :: .iv x42 :: .iv x60 :: .ptr 1 0 :: .ptr 2 0 :: .ptr 3 0 :: .any :: .ptr 4 0 :: an 55 (.bv x68 :: an 42 [])), [some ⟨43, [.sl 3 (List.map Diner.row x1.Diners), .sl 5 (List.map Mail.row x1.Mail)]⟩, some ⟨39, [.iv x64.ID, .iv x64.Phase, .sl 8 (List.map Side.row x64.Sides)]⟩, some ⟨39, [.iv x65.ID, .iv x65.Phase, .sl 8 (List.map Side.row x65.Sides)]⟩, some ⟨49, [.iv x66.1.Peer, .iv x66.1.Epoch, .iv x66.1.State, .bv x66.1.Fork, .bv x66.1.Dirty, .bv x66.1.Token, .bv x66.1.Bottle, .bv x66.1.Ask]⟩, some ⟨49, [.iv x67.1.Peer, .iv x67.1.Epoch, .iv x67.1.State, .bv x67.1.Fork, .bv x67.1.Dirty, .bv x67.1.Token, .bv x67.1.Bottle, .bv x67.1.Ask]⟩], [some ⟨62, 2, List.map Arc.row x61⟩]⟩ : St)) (m_narthexref12_Arcs_j5 x1 x60 x61 x64 x65 x66 x67) y2 ?_ fun J5 => ?_
        ·intro x68 h; rw [m_narthexref12_Arcs_j5] at h; (try dsimp only); refine M_ite h rfl (fun _ h => ?_) fun _ h => ?_
         ·refine V_go 1 ?_; dsimp only [e30, e30_L0, e30_L1, go_sem, Nat.reduceBEq, Nat.reduceAdd]; refine ⟨by simp, ?_⟩; exact M_to J3 (s := x61) h
         ·refine V_go 2 ?_; dsimp only [e30, e30_L0, e30_L1, go_sem, Nat.reduceBEq, Nat.reduceAdd]; refine ⟨by simp, ?_⟩; refine V_drw (by kernel_rfl) fun all hall hs hnap haf => ?_; dsimp only [go_sem, Nat.reduceBEq, Nat.reduceAdd]
          refine G_goE hall hs haf hnap 18 4 [true, true, true, true, true, true, true, true, true, true, false, true, true, true, true, true, true, true, true, false, false, false] (⟨(.any :: .ptr 0 0 :: .any :: .osl 0 :: .iv x42 :: .iv x60 :: .ptr 1 0 :: .ptr 2 0 :: .ptr 3 0 :: .any :: .ptr 4 0 :: an 55 (.bv x68 :: .agg [.iv x66.1.Peer, .iv x66.1.Epoch, .iv x66.1.State, .bv x66.1.Fork, .bv x66.1.Dirty, .bv x66.1.Token, .bv x66.1.Bottle, .bv x66.1.Ask] :: .agg [.iv x67.1.Peer, .iv x67.1.Epoch, .iv x67.1.State, .bv x67.1.Fork, .bv x67.1.Dirty, .bv x67.1.Token, .bv x67.1.Bottle, .bv x67.1.Ask] :: .ptr 0 1 :: .sl 5 (List.map Mail.row x1.Mail) :: .ptr 2 0 :: .iv x65.ID :: .ptr 1 0 :: .iv x64.ID :: .ptr 3 1 :: .iv x66.1.Epoch :: .any :: .ptr 0 1 :: .sl 5 (List.map Mail.row x1.Mail) :: .ptr 1 0 :: .iv x64.ID :: .ptr 2 0 :: .iv x65.ID :: .ptr 3 1 :: .iv x66.1.Epoch :: an 23 [])), [some ⟨43, [.sl 3 (List.map Diner.row x1.Diners), .sl 5 (List.map Mail.row x1.Mail)]⟩, some ⟨39, [.iv x64.ID, .iv x64.Phase, .sl 8 (List.map Side.row x64.Sides)]⟩, some ⟨39, [.iv x65.ID, .iv x65.Phase, .sl 8 (List.map Side.row x65.Sides)]⟩, some ⟨49, [.iv x66.1.Peer, .iv x66.1.Epoch, .iv x66.1.State, .bv x66.1.Fork, .bv x66.1.Dirty, .bv x66.1.Token, .bv x66.1.Bottle, .bv x66.1.Ask]⟩, some ⟨49, [.iv x67.1.Peer, .iv x67.1.Epoch, .iv x67.1.State, .bv x67.1.Fork, .bv x67.1.Dirty, .bv x67.1.Token, .bv x67.1.Bottle, .bv x67.1.Ask]⟩], [some ⟨62, 2, List.map Arc.row x61⟩]⟩ : St) (by kernel_rfl) ?_
          refine G_one 10 rfl ?_; obtain ⟨x69, ex69, h⟩ := Option.bind_eq_some_iff.1 h; refine GO_call hall rfl trivial (k_narthexref12_goes x1.Mail x65.ID x64.ID x66.1.Epoch _ ex69) (h := ?_); dsimp only [go_sem, Nat.reduceBEq, Nat.reduceAdd]; refine G_one 19 rfl ?_; obtain ⟨x70, ex70, h⟩ := Option.bind_eq_some_iff.1 h; refine GO_call hall rfl trivial (k_narthexref12_goes x1.Mail x64.ID x65.ID x66.1.Epoch _ ex70) (h := ?_); dsimp only [go_sem, Nat.reduceBEq, Nat.reduceAdd]; refine G_one 20 rfl ?_; obtain ⟨x71, ex71, h⟩ := Option.bind_eq_some_iff.1 h
          refine GO_call hall rfl trivial (k_narthexref12_First x66.1 x67.1 x69 x70 _ ex71) (h := ?_); dsimp only [go_sem, Nat.reduceBEq, Nat.reduceAdd]; refine G_goN hall hs haf hnap 1 0 ?_; dsimp only [go_sem, Nat.reduceBEq, Nat.reduceAdd]; refine ⟨by simp, ?_⟩; refine G_done rfl ?_ _; refine V_go 6 ?_; dsimp only [e30, e30_L0, e30_L1, go_sem, Nat.reduceBEq, Nat.reduceAdd]; refine ⟨by simp, ?_⟩
          refine V_join (fun (x73 : (List Arc)) => (⟨(.any :: .ptr 0 0 :: .any :: .osl 0 :: .iv x42 :: .iv x60 :: .ptr 1 0 :: .ptr 2 0 :: an 4 (.iv x71 :: an 96 [])), [some ⟨43, [.sl 3 (List.map Diner.row x1.Diners), .sl 5 (List.map Mail.row x1.Mail)]⟩, some ⟨39, [.iv x64.ID, .iv x64.Phase, .sl 8 (List.map Side.row x64.Sides)]⟩, some ⟨39, [.iv x65.ID, .iv x65.Phase, .sl 8 (List.map Side.row x65.Sides)]⟩], [some ⟨62, 2, List.map Arc.row x73⟩]⟩ : St)) (m_narthexref12_Arcs_j6 x60 x64 x65 x71) y2 ?_ fun J6 => ?_
          ·intro x73 h; rw [m_narthexref12_Arcs_j6] at h; (try dsimp only); refine V_go 5 ?_; dsimp only [e30, e30_L0, e30_L1, go_sem, Nat.reduceBEq, Nat.reduceAdd]; refine ⟨by simp, ?_⟩; refine M_ite h rfl (fun _ h => ?_) fun _ h => ?_
           ·refine V_go 8 ?_; dsimp only [e30, e30_L0, e30_L1, go_sem, Nat.reduceBEq, Nat.reduceAdd]; refine ⟨by simp, ?_⟩; obtain ⟨x74, ex74, h⟩ := Option.bind_eq_some_iff.1 h; refine V_appM Arc.row ex74 trivial rfl rfl rfl ?_; refine V_go 3 ?_; dsimp only [e30, e30_L0, e30_L1, go_sem, Nat.reduceBEq, Nat.reduceAdd]; refine ⟨by simp, ?_⟩; refine V_ren 2 0 rfl rfl rfl ?_; dsimp only [go_sem, Nat.reduceBEq, Nat.reduceAdd]; exact M_to J3 (s := x74) h
           ·refine V_go 2 ?_; dsimp only [e30, e30_L0, e30_L1, go_sem, Nat.reduceBEq, Nat.reduceAdd]; refine ⟨by simp, ?_⟩; exact M_to J3 (s := x73) h
          ·refine M_ite h rfl (fun _ h => ?_) fun _ h => ?_
           ·refine V_go 8 ?_; dsimp only [e30, e30_L0, e30_L1, go_sem, Nat.reduceBEq, Nat.reduceAdd]; refine ⟨by simp, ?_⟩; obtain ⟨x72, ex72, h⟩ := Option.bind_eq_some_iff.1 h; refine V_appM Arc.row ex72 trivial rfl rfl rfl ?_; refine V_go 2 ?_; dsimp only [e30, e30_L0, e30_L1, go_sem, Nat.reduceBEq, Nat.reduceAdd]; refine ⟨by simp, ?_⟩; refine V_ren 2 0 rfl rfl rfl ?_; dsimp only [go_sem, Nat.reduceBEq, Nat.reduceAdd]; exact M_to J6 (s := x72) h
           ·refine V_go 1 ?_; dsimp only [e30, e30_L0, e30_L1, go_sem, Nat.reduceBEq, Nat.reduceAdd]; refine ⟨by simp, ?_⟩; exact M_to J6 (s := x61) h
        ·refine M_case 56 h rfl (fun _ h => ?_) fun _ h => ?_
         ·dsimp only [go_sem, Nat.reduceBEq, Nat.reduceAdd]; refine V_go 11 ?_; dsimp only [e30, e30_L0, e30_L1, go_sem, Nat.reduceBEq, Nat.reduceAdd]; refine ⟨by simp, ?_⟩; exact M_to J5 (s := true) h
         ·dsimp only [go_sem, Nat.reduceBEq, Nat.reduceAdd]; refine V_go 4 ?_; dsimp only [e30, e30_L0, e30_L1, go_sem, Nat.reduceBEq, Nat.reduceAdd]; refine ⟨by simp, ?_⟩; refine M_case 60 h rfl (fun _ h => ?_) fun _ h => ?_
          ·dsimp only [go_sem, Nat.reduceBEq, Nat.reduceAdd]; refine V_go 7 ?_; dsimp only [e30, e30_L0, e30_L1, go_sem, Nat.reduceBEq, Nat.reduceAdd]; refine ⟨by simp, ?_⟩; exact M_to J5 (s := true) h
          ·dsimp only [go_sem, Nat.reduceBEq, Nat.reduceAdd]; refine V_go 7 ?_; dsimp only [e30, e30_L0, e30_L1, go_sem, Nat.reduceBEq, Nat.reduceAdd]; refine ⟨by simp, ?_⟩; exact M_to J5 (s := !decide (x66.1.Epoch = x67.1.Epoch)) h
       ·refine V_drw (by kernel_rfl) fun all hall hs hnap haf => ?_; dsimp only [go_sem, Nat.reduceBEq, Nat.reduceAdd]
        refine G_goE hall hs haf hnap 5 9 [true, true, true, false, false, true, false, true, false, false, false, false, false, false] (⟨(.any :: .ptr 0 0 :: .any :: .osl 0 :: .iv x42 :: .iv x60 :: an 17 (.iv x60 :: .ptr 0 0 :: .sl 3 (List.map Diner.row x1.Diners) :: .iv (ln Diner.row x1.Diners) :: .bv (decide (x60 < (ln Diner.row x1.Diners))) :: .any :: .any :: .ptr 0 0 :: .sl 3 (List.map Diner.row x1.Diners) :: .iv x42 :: .any :: .any :: .ptr 0 0 :: .any :: .iv x60 :: an 71 [])), [some ⟨43, [.sl 3 (List.map Diner.row x1.Diners), .sl 5 (List.map Mail.row x1.Mail)]⟩], [some ⟨62, 2, List.map Arc.row x61⟩]⟩ : St) (by kernel_rfl) ?_
        obtain ⟨x62, ex62, h⟩ := Option.bind_eq_some_iff.1 h; refine G_idxM hall hs haf hnap 3 Diner.row ex62 rfl rfl trivial rfl rfl rfl rfl ?_; refine G_goN hall hs haf hnap 1 7 ?_; dsimp only [go_sem, Nat.reduceBEq, Nat.reduceAdd]; refine ⟨by simp, ?_⟩; refine G_three 6 10 11 rfl ?_ ?_ ?_
        ·refine GO_ev hall rfl trivial ?_; dsimp only [go_sem, Nat.reduceBEq, Nat.reduceAdd]; obtain ⟨x63, ex63, h⟩ := Option.bind_eq_some_iff.1 h; refine G_idxM hall hs haf hnap 8 Diner.row ex63 rfl rfl trivial rfl rfl rfl rfl ?_; refine G_three 9 10 11 rfl ?_ ?_ ?_
         ·refine GO_ev hall rfl trivial ?_; dsimp only [go_sem, Nat.reduceBEq, Nat.reduceAdd]; refine G_two 10 11 rfl ?_ ?_
          ·refine GO_ev hall rfl trivial ?_; dsimp only [go_sem, Nat.reduceBEq, Nat.reduceAdd]; refine G_one 11 rfl ?_; refine GO_ev hall rfl trivial ?_; dsimp only [go_sem, Nat.reduceBEq, Nat.reduceAdd]; refine G_one 12 rfl ?_; refine GO_ev hall rfl trivial ?_; dsimp only [go_sem, Nat.reduceBEq, Nat.reduceAdd]; refine G_one 13 rfl ?_; refine GO_ev hall rfl trivial ?_; dsimp only [go_sem, Nat.reduceBEq, Nat.reduceAdd]; refine G_done rfl ?_ _; exact M_to J4 (s := (x62, x63)) h
          ·refine GO_ev hall rfl trivial ?_; dsimp only [go_sem, Nat.reduceBEq, Nat.reduceAdd]; refine G_one 10 rfl ?_; refine GO_ev hall rfl trivial ?_; dsimp only [go_sem, Nat.reduceBEq, Nat.reduceAdd]; refine G_one 12 rfl ?_; refine GO_ev hall rfl trivial ?_; dsimp only [go_sem, Nat.reduceBEq, Nat.reduceAdd]; refine G_one 13 rfl ?_; refine GO_ev hall rfl trivial ?_; dsimp only [go_sem, Nat.reduceBEq, Nat.reduceAdd]; refine G_done rfl ?_ _; refine V_swB 1 2 rfl rfl ?_; dsimp only [go_sem, Nat.reduceBEq, Nat.reduceAdd]; exact M_to J4 (s := (x62, x63)) h
         ·refine GO_ev hall rfl trivial ?_; dsimp only [go_sem, Nat.reduceBEq, Nat.reduceAdd]; refine G_two 9 11 rfl ?_ ?_
          ·refine GO_ev hall rfl trivial ?_; dsimp only [go_sem, Nat.reduceBEq, Nat.reduceAdd]; refine G_one 11 rfl ?_; refine GO_ev hall rfl trivial ?_; dsimp only [go_sem, Nat.reduceBEq, Nat.reduceAdd]; refine G_one 12 rfl ?_; refine GO_ev hall rfl trivial ?_; dsimp only [go_sem, Nat.reduceBEq, Nat.reduceAdd]; refine G_one 13 rfl ?_; refine GO_ev hall rfl trivial ?_; dsimp only [go_sem, Nat.reduceBEq, Nat.reduceAdd]; refine G_done rfl ?_ _; exact M_to J4 (s := (x62, x63)) h
          ·refine GO_ev hall rfl trivial ?_; dsimp only [go_sem, Nat.reduceBEq, Nat.reduceAdd]; refine G_two 9 12 rfl ?_ ?_
           ·refine GO_ev hall rfl trivial ?_; dsimp only [go_sem, Nat.reduceBEq, Nat.reduceAdd]; refine G_one 12 rfl ?_; refine GO_ev hall rfl trivial ?_; dsimp only [go_sem, Nat.reduceBEq, Nat.reduceAdd]; refine G_one 13 rfl ?_; refine GO_ev hall rfl trivial ?_; dsimp only [go_sem, Nat.reduceBEq, Nat.reduceAdd]; refine G_done rfl ?_ _; exact M_to J4 (s := (x62, x63)) h
           ·refine GO_ev hall rfl trivial ?_; dsimp only [go_sem, Nat.reduceBEq, Nat.reduceAdd]; refine G_goN hall hs haf hnap 1 1 ?_; dsimp only [go_sem, Nat.reduceBEq, Nat.reduceAdd]; refine ⟨by simp, ?_⟩; refine G_one 13 rfl ?_; refine GO_ev hall rfl trivial ?_; dsimp only [go_sem, Nat.reduceBEq, Nat.reduceAdd]; refine G_done rfl ?_ _; exact M_to J4 (s := (x62, x63)) h
         ·refine GO_ev hall rfl trivial ?_; dsimp only [go_sem, Nat.reduceBEq, Nat.reduceAdd]; refine G_two 9 10 rfl ?_ ?_
          ·refine GO_ev hall rfl trivial ?_; dsimp only [go_sem, Nat.reduceBEq, Nat.reduceAdd]; refine G_one 10 rfl ?_; refine GO_ev hall rfl trivial ?_; dsimp only [go_sem, Nat.reduceBEq, Nat.reduceAdd]; refine G_one 12 rfl ?_; refine GO_ev hall rfl trivial ?_; dsimp only [go_sem, Nat.reduceBEq, Nat.reduceAdd]; refine G_one 13 rfl ?_; refine GO_ev hall rfl trivial ?_; dsimp only [go_sem, Nat.reduceBEq, Nat.reduceAdd]; refine G_done rfl ?_ _; refine V_swB 1 2 rfl rfl ?_; dsimp only [go_sem, Nat.reduceBEq, Nat.reduceAdd]; exact M_to J4 (s := (x62, x63)) h
          ·refine GO_ev hall rfl trivial ?_; dsimp only [go_sem, Nat.reduceBEq, Nat.reduceAdd]; refine G_two 9 12 rfl ?_ ?_
           ·refine GO_ev hall rfl trivial ?_; dsimp only [go_sem, Nat.reduceBEq, Nat.reduceAdd]; refine G_one 12 rfl ?_; refine GO_ev hall rfl trivial ?_; dsimp only [go_sem, Nat.reduceBEq, Nat.reduceAdd]; refine G_one 13 rfl ?_; refine GO_ev hall rfl trivial ?_; dsimp only [go_sem, Nat.reduceBEq, Nat.reduceAdd]; refine G_done rfl ?_ _; refine V_swB 1 2 rfl rfl ?_; dsimp only [go_sem, Nat.reduceBEq, Nat.reduceAdd]; exact M_to J4 (s := (x62, x63)) h
           ·refine GO_ev hall rfl trivial ?_; dsimp only [go_sem, Nat.reduceBEq, Nat.reduceAdd]; refine G_goN hall hs haf hnap 1 1 ?_; dsimp only [go_sem, Nat.reduceBEq, Nat.reduceAdd]; refine ⟨by simp, ?_⟩; refine G_one 13 rfl ?_; refine GO_ev hall rfl trivial ?_; dsimp only [go_sem, Nat.reduceBEq, Nat.reduceAdd]; refine G_done rfl ?_ _; refine V_swB 1 2 rfl rfl ?_; dsimp only [go_sem, Nat.reduceBEq, Nat.reduceAdd]; exact M_to J4 (s := (x62, x63)) h
        ·refine GO_ev hall rfl trivial ?_; dsimp only [go_sem, Nat.reduceBEq, Nat.reduceAdd]; refine G_two 6 11 rfl ?_ ?_
         ·refine GO_ev hall rfl trivial ?_; dsimp only [go_sem, Nat.reduceBEq, Nat.reduceAdd]; obtain ⟨x63, ex63, h⟩ := Option.bind_eq_some_iff.1 h; refine G_idxM hall hs haf hnap 8 Diner.row ex63 rfl rfl trivial rfl rfl rfl rfl ?_; refine G_two 9 11 rfl ?_ ?_
          ·refine GO_ev hall rfl trivial ?_; dsimp only [go_sem, Nat.reduceBEq, Nat.reduceAdd]; refine G_one 11 rfl ?_; refine GO_ev hall rfl trivial ?_; dsimp only [go_sem, Nat.reduceBEq, Nat.reduceAdd]; refine G_one 12 rfl ?_; refine GO_ev hall rfl trivial ?_; dsimp only [go_sem, Nat.reduceBEq, Nat.reduceAdd]; refine G_one 13 rfl ?_; refine GO_ev hall rfl trivial ?_; dsimp only [go_sem, Nat.reduceBEq, Nat.reduceAdd]; refine G_done rfl ?_ _; exact M_to J4 (s := (x62, x63)) h
          ·refine GO_ev hall rfl trivial ?_; dsimp only [go_sem, Nat.reduceBEq, Nat.reduceAdd]; refine G_two 9 12 rfl ?_ ?_
           ·refine GO_ev hall rfl trivial ?_; dsimp only [go_sem, Nat.reduceBEq, Nat.reduceAdd]; refine G_one 12 rfl ?_; refine GO_ev hall rfl trivial ?_; dsimp only [go_sem, Nat.reduceBEq, Nat.reduceAdd]; refine G_one 13 rfl ?_; refine GO_ev hall rfl trivial ?_; dsimp only [go_sem, Nat.reduceBEq, Nat.reduceAdd]; refine G_done rfl ?_ _; exact M_to J4 (s := (x62, x63)) h
           ·refine GO_ev hall rfl trivial ?_; dsimp only [go_sem, Nat.reduceBEq, Nat.reduceAdd]; refine G_goN hall hs haf hnap 1 1 ?_; dsimp only [go_sem, Nat.reduceBEq, Nat.reduceAdd]; refine ⟨by simp, ?_⟩; refine G_one 13 rfl ?_; refine GO_ev hall rfl trivial ?_; dsimp only [go_sem, Nat.reduceBEq, Nat.reduceAdd]; refine G_done rfl ?_ _; exact M_to J4 (s := (x62, x63)) h
         ·refine GO_ev hall rfl trivial ?_; dsimp only [go_sem, Nat.reduceBEq, Nat.reduceAdd]; refine G_two 6 12 rfl ?_ ?_
          ·refine GO_ev hall rfl trivial ?_; dsimp only [go_sem, Nat.reduceBEq, Nat.reduceAdd]; obtain ⟨x63, ex63, h⟩ := Option.bind_eq_some_iff.1 h; refine G_idxM hall hs haf hnap 8 Diner.row ex63 rfl rfl trivial rfl rfl rfl rfl ?_; refine G_two 9 12 rfl ?_ ?_
           ·refine GO_ev hall rfl trivial ?_; dsimp only [go_sem, Nat.reduceBEq, Nat.reduceAdd]; refine G_one 12 rfl ?_; refine GO_ev hall rfl trivial ?_; dsimp only [go_sem, Nat.reduceBEq, Nat.reduceAdd]; refine G_one 13 rfl ?_; refine GO_ev hall rfl trivial ?_; dsimp only [go_sem, Nat.reduceBEq, Nat.reduceAdd]; refine G_done rfl ?_ _; exact M_to J4 (s := (x62, x63)) h
           ·refine GO_ev hall rfl trivial ?_; dsimp only [go_sem, Nat.reduceBEq, Nat.reduceAdd]; refine G_goN hall hs haf hnap 1 1 ?_; dsimp only [go_sem, Nat.reduceBEq, Nat.reduceAdd]; refine ⟨by simp, ?_⟩; refine G_one 13 rfl ?_; refine GO_ev hall rfl trivial ?_; dsimp only [go_sem, Nat.reduceBEq, Nat.reduceAdd]; refine G_done rfl ?_ _; exact M_to J4 (s := (x62, x63)) h
          ·refine GO_ev hall rfl trivial ?_; dsimp only [go_sem, Nat.reduceBEq, Nat.reduceAdd]; refine G_goN hall hs haf hnap 1 3 ?_; dsimp only [go_sem, Nat.reduceBEq, Nat.reduceAdd]; refine ⟨by simp, ?_⟩; obtain ⟨x63, ex63, h⟩ := Option.bind_eq_some_iff.1 h; refine G_idxM hall hs haf hnap 8 Diner.row ex63 rfl rfl trivial rfl rfl rfl rfl ?_; refine G_goN hall hs haf hnap 1 1 ?_; dsimp only [go_sem, Nat.reduceBEq, Nat.reduceAdd]; refine ⟨by simp, ?_⟩; refine G_one 13 rfl ?_; refine GO_ev hall rfl trivial ?_; dsimp only [go_sem, Nat.reduceBEq, Nat.reduceAdd]; refine G_done rfl ?_ _
           exact M_to J4 (s := (x62, x63)) h
        ·refine GO_ev hall rfl trivial ?_; dsimp only [go_sem, Nat.reduceBEq, Nat.reduceAdd]; refine G_two 6 10 rfl ?_ ?_
         ·refine GO_ev hall rfl trivial ?_; dsimp only [go_sem, Nat.reduceBEq, Nat.reduceAdd]; obtain ⟨x63, ex63, h⟩ := Option.bind_eq_some_iff.1 h; refine G_idxM hall hs haf hnap 8 Diner.row ex63 rfl rfl trivial rfl rfl rfl rfl ?_; refine G_two 9 10 rfl ?_ ?_
          ·refine GO_ev hall rfl trivial ?_; dsimp only [go_sem, Nat.reduceBEq, Nat.reduceAdd]; refine G_one 10 rfl ?_; refine GO_ev hall rfl trivial ?_; dsimp only [go_sem, Nat.reduceBEq, Nat.reduceAdd]; refine G_one 12 rfl ?_; refine GO_ev hall rfl trivial ?_; dsimp only [go_sem, Nat.reduceBEq, Nat.reduceAdd]; refine G_one 13 rfl ?_; refine GO_ev hall rfl trivial ?_; dsimp only [go_sem, Nat.reduceBEq, Nat.reduceAdd]; refine G_done rfl ?_ _; refine V_swB 1 2 rfl rfl ?_; dsimp only [go_sem, Nat.reduceBEq, Nat.reduceAdd]; exact M_to J4 (s := (x62, x63)) h
          ·refine GO_ev hall rfl trivial ?_; dsimp only [go_sem, Nat.reduceBEq, Nat.reduceAdd]; refine G_two 9 12 rfl ?_ ?_
           ·refine GO_ev hall rfl trivial ?_; dsimp only [go_sem, Nat.reduceBEq, Nat.reduceAdd]; refine G_one 12 rfl ?_; refine GO_ev hall rfl trivial ?_; dsimp only [go_sem, Nat.reduceBEq, Nat.reduceAdd]; refine G_one 13 rfl ?_; refine GO_ev hall rfl trivial ?_; dsimp only [go_sem, Nat.reduceBEq, Nat.reduceAdd]; refine G_done rfl ?_ _; refine V_swB 1 2 rfl rfl ?_; dsimp only [go_sem, Nat.reduceBEq, Nat.reduceAdd]; exact M_to J4 (s := (x62, x63)) h
           ·refine GO_ev hall rfl trivial ?_; dsimp only [go_sem, Nat.reduceBEq, Nat.reduceAdd]; refine G_goN hall hs haf hnap 1 1 ?_; dsimp only [go_sem, Nat.reduceBEq, Nat.reduceAdd]; refine ⟨by simp, ?_⟩; refine G_one 13 rfl ?_; refine GO_ev hall rfl trivial ?_; dsimp only [go_sem, Nat.reduceBEq, Nat.reduceAdd]; refine G_done rfl ?_ _; refine V_swB 1 2 rfl rfl ?_; dsimp only [go_sem, Nat.reduceBEq, Nat.reduceAdd]; exact M_to J4 (s := (x62, x63)) h
         ·refine GO_ev hall rfl trivial ?_; dsimp only [go_sem, Nat.reduceBEq, Nat.reduceAdd]; refine G_two 6 12 rfl ?_ ?_
          ·refine GO_ev hall rfl trivial ?_; dsimp only [go_sem, Nat.reduceBEq, Nat.reduceAdd]; obtain ⟨x63, ex63, h⟩ := Option.bind_eq_some_iff.1 h; refine G_idxM hall hs haf hnap 8 Diner.row ex63 rfl rfl trivial rfl rfl rfl rfl ?_; refine G_two 9 12 rfl ?_ ?_
           ·refine GO_ev hall rfl trivial ?_; dsimp only [go_sem, Nat.reduceBEq, Nat.reduceAdd]; refine G_one 12 rfl ?_; refine GO_ev hall rfl trivial ?_; dsimp only [go_sem, Nat.reduceBEq, Nat.reduceAdd]; refine G_one 13 rfl ?_; refine GO_ev hall rfl trivial ?_; dsimp only [go_sem, Nat.reduceBEq, Nat.reduceAdd]; refine G_done rfl ?_ _; refine V_swB 1 2 rfl rfl ?_; dsimp only [go_sem, Nat.reduceBEq, Nat.reduceAdd]; exact M_to J4 (s := (x62, x63)) h
           ·refine GO_ev hall rfl trivial ?_; dsimp only [go_sem, Nat.reduceBEq, Nat.reduceAdd]; refine G_goN hall hs haf hnap 1 1 ?_; dsimp only [go_sem, Nat.reduceBEq, Nat.reduceAdd]; refine ⟨by simp, ?_⟩; refine G_one 13 rfl ?_; refine GO_ev hall rfl trivial ?_; dsimp only [go_sem, Nat.reduceBEq, Nat.reduceAdd]; refine G_done rfl ?_ _; refine V_swB 1 2 rfl rfl ?_; dsimp only [go_sem, Nat.reduceBEq, Nat.reduceAdd]; exact M_to J4 (s := (x62, x63)) h
          ·refine GO_ev hall rfl trivial ?_; dsimp only [go_sem, Nat.reduceBEq, Nat.reduceAdd]; refine G_goN hall hs haf hnap 1 3 ?_; dsimp only [go_sem, Nat.reduceBEq, Nat.reduceAdd]; refine ⟨by simp, ?_⟩; obtain ⟨x63, ex63, h⟩ := Option.bind_eq_some_iff.1 h; refine G_idxM hall hs haf hnap 8 Diner.row ex63 rfl rfl trivial rfl rfl rfl rfl ?_; refine G_goN hall hs haf hnap 1 1 ?_; dsimp only [go_sem, Nat.reduceBEq, Nat.reduceAdd]; refine ⟨by simp, ?_⟩; refine G_one 13 rfl ?_; refine GO_ev hall rfl trivial ?_; dsimp only [go_sem, Nat.reduceBEq, Nat.reduceAdd]; refine G_done rfl ?_ _
           refine V_swB 1 2 rfl rfl ?_; dsimp only [go_sem, Nat.reduceBEq, Nat.reduceAdd]; exact M_to J4 (s := (x62, x63)) h
     ·refine V_go 1 ?_; dsimp only [e30, e30_L0, e30_L1, go_sem, Nat.reduceBEq, Nat.reduceAdd]; refine ⟨by simp, ?_⟩; exact M_to J2 (s := x61) (M_out h hout2)
   ·refine V_go 1 ?_; dsimp only [e30, e30_L0, e30_L1, go_sem, Nat.reduceBEq, Nat.reduceAdd]; refine ⟨by simp, ?_⟩; exact M_to J1 (s := x43) (M_out h hout1)
theorem k_narthexref12_Arcs (x1 : Scene) (r : (List Arc)) (h : m_narthexref12_Arcs x1 = some r) : FunP Try.prog 30 [.agg (Scene.row x1)] (.sl 2 (List.map Arc.row r)) := (o_narthexref12_Arcs x1 r h).sealed
end NX
end Go.Proofs.Ytadebhbiglmodaa
/-
  The function narthex/narthexref04.Same: its code compiled, a model, and that the code answers as the model. Written by a program of ours (lb.py). No statement of the seat is proved here.
-/
namespace Go.Proofs.Ytadebhbiglmodaa
namespace NX
open Go
set_option maxRecDepth 100000
set_option maxHeartbeats 4000000
def e28_L0 : EC := .seq (.seq (.reg [⟨(some 11), none, .mv (.t 5)⟩, ⟨(some 12), none, .mv (.t 0)⟩, ⟨(some 13), none, .len (.t 12)⟩, ⟨(some 14), none, .bin .lss (.t 11) (.t 13)⟩]) (.ite (.t 14) (.skip) (.exit 0))) (.seq (.blk 1 (.seq (.drw [⟨(some 17), none, .mv (.t 0)⟩, ⟨(some 18), none, .mv (.t 5)⟩, ⟨(some 19), none, .idx 2 (.t 17) (.t 18)⟩, ⟨(some 20), none, .loadA 2 (.t 19)⟩, ⟨(some 21), none, .mv (.t 1)⟩, ⟨(some 22), none, .mv (.t 5)⟩, ⟨(some 23), none, .idx 2 (.t 21) (.t 22)⟩, ⟨(some 24), none, .loadA 2 (.t 23)⟩, ⟨(some 25), none, .eqs true [true, true] (.t 20) (.t 24)⟩] [[], [], [0, 1], [2], [], [], [4, 5], [6], [3, 7]] [[2], [2], [0, 1, 3], [2, 8], [6], [6], [4, 5, 7], [6, 8], [3, 7]]) (.ite (.t 25) (.seq (.reg [⟨(some 4), none, .mv (.c .ff)⟩]) (.ret)) (.skip)))) (.reg [⟨(some 15), none, .mv (.t 5)⟩, ⟨(some 16), none, .bin .add (.t 15) (.c (.iv 1))⟩, ⟨(some 5), none, .mv (.t 16)⟩]))
def e28 : EC := .seq (.reg [⟨(some 4), none, .mv (.c .ff)⟩]) (.seq (.seq (.reg [⟨(some 6), none, .mv (.t 0)⟩, ⟨(some 7), none, .len (.t 6)⟩, ⟨(some 8), none, .mv (.t 1)⟩, ⟨(some 9), none, .len (.t 8)⟩, ⟨(some 10), none, .bin .neq (.t 7) (.t 9)⟩]) (.ite (.t 10) (.seq (.reg [⟨(some 4), none, .mv (.c .ff)⟩]) (.ret)) (.skip))) (.seq (.seq (.reg [⟨(some 5), none, .mv (.c (.iv 0))⟩]) (.blk 0 (.loop e28_L0))) (.seq (.reg [⟨(some 4), none, .mv (.c .tt)⟩]) (.ret))))
theorem ok28 : FnOK Try.prog 28 Try.f28 e28 [.t 4] 2 24 := ⟨by kernel_rfl, ⟨_, rfl, by kernel_rfl⟩, by kernel_rfl, by kernel_rfl⟩
/- narthex/narthexref04.Same -/
noncomputable def m_narthexref04_Same_j1  : Unit → Option Bool
| () =>
 some true
noncomputable def m_narthexref04_Same_l1 (x1 : (List Arc)) (x2 : (List Arc)) : Int → Option (Int ⊕ Bool)
| x6 =>
 ifb (decide (x6 < (ln Arc.row x1))) (
 (at_ x1 x6).bind fun x7 =>
 (at_ x2 x6).bind fun x8 =>
 ifb (!(decide (x7.From = x8.From) && (decide (x7.To = x8.To) && true))) (
 Option.map Sum.inr (some false)) (
 some (.inl (wr (x6 + 1))))) (
 Option.map Sum.inr (m_narthexref04_Same_j1 ()))
noncomputable def m_narthexref04_Same (x1 : (List Arc)) (x2 : (List Arc)) : Option Bool :=
 ifb (!decide ((ln Arc.row x1) = (ln Arc.row x2))) (
 some false) (
 loop (m_narthexref04_Same_l1 x1 x2) 0)
theorem k_narthexref04_Same (x1 : (List Arc)) (x2 : (List Arc)) (r : Bool) (h : m_narthexref04_Same x1 x2 = some r) : FunP Try.prog 28 [.sl 2 (List.map Arc.row x1), .sl 2 (List.map Arc.row x2)] (.bv r) := by
  refine FunP_intro ok28 rfl rfl fun w0 H0 => ?_
  rw [m_narthexref04_Same] at h
  refine V_go 13 ?_; dsimp only [e28, e28_L0, go_sem, Nat.reduceBEq, Nat.reduceAdd]; refine ⟨by simp, ?_⟩; refine M_ite h rfl (fun _ h => ?_) fun _ h => ?_
  ·refine V_go 4 ?_; dsimp only [e28, e28_L0, go_sem, Nat.reduceBEq, Nat.reduceAdd]; refine ⟨by simp, ?_⟩; exact M_done (res := fun (r : Bool) => .bv r) ok28 h
  ·refine V_go 6 ?_; dsimp only [e28, e28_L0, go_sem, Nat.reduceBEq, Nat.reduceAdd]; refine ⟨by simp, ?_⟩; refine V_join (fun (_ : Unit) => (⟨(an 26 []), [], []⟩ : St)) m_narthexref04_Same_j1 r ?_ fun J1 => ?_
   ·rintro ⟨⟩ h; rw [m_narthexref04_Same_j1] at h; (try dsimp only); refine V_go 4 ?_; dsimp only [e28, e28_L0, go_sem, Nat.reduceBEq, Nat.reduceAdd]; refine ⟨by simp, ?_⟩; exact M_done (res := fun (r : Bool) => .bv r) ok28 h
   ·refine V_go 1 ?_; dsimp only [e28, e28_L0, go_sem, Nat.reduceBEq, Nat.reduceAdd]; refine ⟨by simp, ?_⟩; refine M_loop h (fun (x6 : Int) => (⟨(.sl 2 (List.map Arc.row x1) :: .sl 2 (List.map Arc.row x2) :: an 3 (.iv x6 :: an 20 [])), [], []⟩ : St)) (by simp [go_sem]) (by intro x6; first | rfl | simp [go_sem]) ?_; rintro n1 x6 y1 h hin1 hout1; rw [m_narthexref04_Same_l1] at h; (try dsimp only); refine V_go 8 ?_; dsimp only [e28, e28_L0, go_sem, Nat.reduceBEq, Nat.reduceAdd]; refine ⟨by simp, ?_⟩; refine M_ite h rfl (fun _ h => ?_) fun _ h => ?_
    ·refine V_go 4 ?_; dsimp only [e28, e28_L0, go_sem, Nat.reduceBEq, Nat.reduceAdd]; refine ⟨by simp, ?_⟩; refine V_drw (by kernel_rfl) fun all hall hs hnap haf => ?_; dsimp only [go_sem, Nat.reduceBEq, Nat.reduceAdd]; refine G_goN hall hs haf hnap 4 5 ?_; dsimp only [go_sem, Nat.reduceBEq, Nat.reduceAdd]; refine ⟨by simp, ?_⟩; obtain ⟨x7, ex7, h⟩ := Option.bind_eq_some_iff.1 h; refine G_idxM hall hs haf hnap 2 Arc.row ex7 rfl rfl trivial rfl rfl rfl rfl ?_; refine G_goN hall hs haf hnap 1 3 ?_; dsimp only [go_sem, Nat.reduceBEq, Nat.reduceAdd]; refine ⟨by simp, ?_⟩
     obtain ⟨x8, ex8, h⟩ := Option.bind_eq_some_iff.1 h; refine G_idxM hall hs haf hnap 6 Arc.row ex8 rfl rfl trivial rfl rfl rfl rfl ?_; refine G_goN hall hs haf hnap 2 0 ?_; dsimp only [go_sem, Nat.reduceBEq, Nat.reduceAdd]; refine ⟨by simp, ?_⟩; refine G_done rfl ?_ _; refine M_ite h rfl (fun _ h => ?_) fun _ h => ?_
     ·refine V_go 4 ?_; dsimp only [e28, e28_L0, go_sem, Nat.reduceBEq, Nat.reduceAdd]; refine ⟨by simp, ?_⟩; exact M_done (res := fun (r : Bool) => .bv r) ok28 (M_out h hout1)
     ·refine V_go 7 ?_; dsimp only [e28, e28_L0, go_sem, Nat.reduceBEq, Nat.reduceAdd]; refine ⟨by simp, ?_⟩; exact M_back h hin1
    ·refine V_go 1 ?_; dsimp only [e28, e28_L0, go_sem, Nat.reduceBEq, Nat.reduceAdd]; refine ⟨by simp, ?_⟩; exact M_to J1 (s := ()) (M_out h hout1)
end NX
end Go.Proofs.Ytadebhbiglmodaa
/-
  The function narthex/narthexlaw12.PlaceArcs: its code compiled, a model, and that the code answers as the model. Written by a program of ours (lb.py). No statement of the seat is proved here.
-/
namespace Go.Proofs.Ytadebhbiglmodaa
namespace NX
open Go
set_option maxRecDepth 100000
set_option maxHeartbeats 4000000
def e5 : EC := .seq (.reg [⟨(some 1), none, .box 43 2 (.t 0)⟩, ⟨(some 2), none, .mv (.c .ff)⟩]) (.seq (.seq (.reg [⟨(some 3), none, .call 13 []⟩, ⟨(some 4), none, .not (.t 3)⟩, ⟨(some 5), none, .mv (.t 4)⟩, ⟨(some 6), (some (5, false)), .loadA 2 (.t 1)⟩, ⟨(some 7), (some (5, false)), .call 20 [(.t 6)]⟩, ⟨(some 8), (some (5, false)), .not (.t 7)⟩, ⟨(some 9), none, .pick (.t 5) (.c .tt) (.t 8)⟩]) (.ite (.t 9) (.seq (.reg [⟨(some 10), none, .call 13 []⟩, ⟨(some 2), none, .mv (.t 10)⟩]) (.ret)) (.skip))) (.seq (.drw [⟨(some 11), none, .fld 0 (.t 1)⟩, ⟨(some 12), none, .load (.t 11)⟩, ⟨(some 13), none, .call 22 [(.t 12)]⟩, ⟨(some 14), none, .bsl 97 5 0 [.iv 0, .iv 0, .iv 0, .iv 0, .iv 0] []⟩, ⟨(some 15), none, .fld 1 (.t 1)⟩, ⟨(some 16), none, .load (.t 15)⟩, ⟨(some 17), none, .app 97 5 40 (.t 14) (.t 16)⟩, ⟨(some 18), none, .build [.nl, .nl] [(0, 1, (.t 13)), (1, 1, (.t 17))]⟩, ⟨(some 19), none, .call 29 [(.t 18)]⟩, ⟨(some 20), none, .loadA 2 (.t 1)⟩, ⟨(some 21), none, .call 30 [(.t 20)]⟩, ⟨(some 22), none, .call 28 [(.t 19), (.t 21)]⟩, ⟨(some 2), none, .mv (.t 22)⟩] [[], [0], [1], [], [], [4], [3, 5, 2], [2, 6], [7, 6], [], [9, 8], [8, 10, 10], [11, 11, 0, 1, 2, 3, 4, 5, 6, 7, 8, 9, 10, 11]] [[1], [0, 2], [1, 7], [6], [5], [4, 6], [3, 5, 7], [2, 6, 8], [7, 11], [10], [9, 11], [8, 10, 12], [11]]) (.ret)))
theorem ok5 : FnOK Try.prog 5 Try.f5 e5 [.t 2] 1 22 := ⟨by kernel_rfl, ⟨_, rfl, by kernel_rfl⟩, by kernel_rfl, by kernel_rfl⟩
/- narthex/narthexlaw12.PlaceArcs -/
noncomputable def m_narthexlaw12_PlaceArcs_j2  : Bool → Option Bool
| x11 =>
 some x11
noncomputable def m_narthexlaw12_PlaceArcs_j1 (x1 : Scene) : Bool → Option Bool
| x4 =>
 ifb x4 (
 (m_narthexlaw12_awake).bind fun x5 =>
 some x5) (
 (m_narthexlaw12_Own x1.Diners).bind fun x6 =>
 (app_ 40 (([] : List Mail)) x1.Mail).bind fun x7 =>
 (m_place_Arcs ((Scene.mk x6 x7))).bind fun x8 =>
 (m_narthexref12_Arcs x1).bind fun x9 =>
 (m_narthexref04_Same x8 x9).bind fun x10 =>
 m_narthexlaw12_PlaceArcs_j2 x10)
noncomputable def m_narthexlaw12_PlaceArcs (x1 : Scene) : Option Bool :=
 (m_narthexlaw12_awake).bind fun x2 =>
 ifb (!x2) (
 (m_narthexlaw12_PlaceArcs_j1 x1) true) (
 (m_narthexref12_Few x1).bind fun x3 =>
 (m_narthexlaw12_PlaceArcs_j1 x1) (!x3))
theorem k_narthexlaw12_PlaceArcs (x1 : Scene) (r : Bool) (h : m_narthexlaw12_PlaceArcs x1 = some r) : FunP Try.prog 5 [.agg (Scene.row x1)] (.bv r) := by
  refine FunP_intro ok5 rfl rfl fun w0 H0 => ?_
  rw [m_narthexlaw12_PlaceArcs] at h
  refine V_go 8 ?_; dsimp only [e5, go_sem, Nat.reduceBEq, Nat.reduceAdd]; refine ⟨by simp, ?_⟩; obtain ⟨x2, ex2, h⟩ := Option.bind_eq_some_iff.1 h; refine V_call trivial (k_narthexlaw12_awake _ ex2) (h := ?_); refine V_go 2 ?_; dsimp only [e5, go_sem, Nat.reduceBEq, Nat.reduceAdd]; refine ⟨by simp, ?_⟩; refine V_join (fun (x4 : Bool) => (⟨(.any :: .ptr 0 0 :: an 7 (.bv x4 :: an 13 [])), [some ⟨43, [.sl 3 (List.map Diner.row x1.Diners), .sl 5 (List.map Mail.row x1.Mail)]⟩], []⟩ : St)) (m_narthexlaw12_PlaceArcs_j1 x1) r ?_ fun J1 => ?_
  ·intro x4 h; rw [m_narthexlaw12_PlaceArcs_j1] at h; (try dsimp only); refine M_ite h rfl (fun _ h => ?_) fun _ h => ?_
   ·refine V_go 2 ?_; dsimp only [e5, go_sem, Nat.reduceBEq, Nat.reduceAdd]; refine ⟨by simp, ?_⟩; obtain ⟨x5, ex5, h⟩ := Option.bind_eq_some_iff.1 h; refine V_call trivial (k_narthexlaw12_awake _ ex5) (h := ?_); refine V_go 2 ?_; dsimp only [e5, go_sem, Nat.reduceBEq, Nat.reduceAdd]; refine ⟨by simp, ?_⟩; exact M_done (res := fun (r : Bool) => .bv r) ok5 h
   ·refine V_go 2 ?_; dsimp only [e5, go_sem, Nat.reduceBEq, Nat.reduceAdd]; refine ⟨by simp, ?_⟩; refine V_join (fun (x11 : Bool) => (⟨(.any :: .any :: .bv x11 :: an 20 []), [], []⟩ : St)) m_narthexlaw12_PlaceArcs_j2 r ?_ fun J2 => ?_
    ·intro x11 h; rw [m_narthexlaw12_PlaceArcs_j2] at h; (try dsimp only); exact M_done (res := fun (r : Bool) => .bv r) ok5 h
    ·refine V_drw (by kernel_rfl) fun all hall hs hnap haf => ?_; dsimp only [go_sem, Nat.reduceBEq, Nat.reduceAdd]
     refine G_goE hall hs haf hnap 5 8 [true, true, false, false, true, true, false, false, false, true, false, false, false] (⟨(.any :: .ptr 0 0 :: an 7 (.bv x4 :: .any :: .ptr 0 0 :: .sl 3 (List.map Diner.row x1.Diners) :: .any :: .any :: .ptr 0 1 :: .sl 5 (List.map Mail.row x1.Mail) :: an 3 [.agg [.sl 3 (List.map Diner.row x1.Diners), .sl 5 (List.map Mail.row x1.Mail)], .any, .any])), [some ⟨43, [.sl 3 (List.map Diner.row x1.Diners), .sl 5 (List.map Mail.row x1.Mail)]⟩], []⟩ : St) (by kernel_rfl) ?_; refine G_two 2 3 rfl ?_ ?_
     ·obtain ⟨x6, ex6, h⟩ := Option.bind_eq_some_iff.1 h; refine GO_call hall rfl trivial (k_narthexlaw12_Own x1.Diners _ ex6) (h := ?_); dsimp only [go_sem, Nat.reduceBEq, Nat.reduceAdd]; refine G_one 3 rfl ?_; refine GO_ev hall rfl trivial ?_; dsimp only [go_sem, Nat.reduceBEq, Nat.reduceAdd]; refine G_one 6 rfl ?_; obtain ⟨x7, ex7, h⟩ := Option.bind_eq_some_iff.1 h; refine GO_appSM Mail.row ex7 hall rfl trivial rfl rfl rfl ?_; dsimp only [go_sem, Nat.reduceBEq, Nat.reduceAdd]; refine G_goN hall hs haf hnap 1 4 ?_; dsimp only [go_sem, Nat.reduceBEq, Nat.reduceAdd]; refine ⟨by simp, ?_⟩
      refine G_one 8 rfl ?_; obtain ⟨x8, ex8, h⟩ := Option.bind_eq_some_iff.1 h; refine GO_call hall rfl trivial (k_place_Arcs ((Scene.mk x6 x7)) _ ex8) (h := ?_); dsimp only [go_sem, Nat.reduceBEq, Nat.reduceAdd]; refine G_one 10 rfl ?_; obtain ⟨x9, ex9, h⟩ := Option.bind_eq_some_iff.1 h; refine GO_call hall rfl trivial (k_narthexref12_Arcs x1 _ ex9) (h := ?_); dsimp only [go_sem, Nat.reduceBEq, Nat.reduceAdd]; refine G_one 11 rfl ?_; obtain ⟨x10, ex10, h⟩ := Option.bind_eq_some_iff.1 h; refine GO_call hall rfl trivial (k_narthexref04_Same x8 x9 _ ex10) (h := ?_)
      dsimp only [go_sem, Nat.reduceBEq, Nat.reduceAdd]; refine G_goN hall hs haf hnap 1 0 ?_; dsimp only [go_sem, Nat.reduceBEq, Nat.reduceAdd]; refine ⟨by simp, ?_⟩; refine G_done rfl ?_ _; exact M_to J2 (s := x10) h
     ·refine GO_ev hall rfl trivial ?_; dsimp only [go_sem, Nat.reduceBEq, Nat.reduceAdd]; refine G_one 2 rfl ?_; obtain ⟨x6, ex6, h⟩ := Option.bind_eq_some_iff.1 h; refine GO_call hall rfl trivial (k_narthexlaw12_Own x1.Diners _ ex6) (h := ?_); dsimp only [go_sem, Nat.reduceBEq, Nat.reduceAdd]; refine G_one 6 rfl ?_; obtain ⟨x7, ex7, h⟩ := Option.bind_eq_some_iff.1 h; refine GO_appSM Mail.row ex7 hall rfl trivial rfl rfl rfl ?_; dsimp only [go_sem, Nat.reduceBEq, Nat.reduceAdd]; refine G_goN hall hs haf hnap 1 4 ?_; dsimp only [go_sem, Nat.reduceBEq, Nat.reduceAdd]; refine ⟨by simp, ?_⟩
      refine G_one 8 rfl ?_; obtain ⟨x8, ex8, h⟩ := Option.bind_eq_some_iff.1 h; refine GO_call hall rfl trivial (k_place_Arcs ((Scene.mk x6 x7)) _ ex8) (h := ?_); dsimp only [go_sem, Nat.reduceBEq, Nat.reduceAdd]; refine G_one 10 rfl ?_; obtain ⟨x9, ex9, h⟩ := Option.bind_eq_some_iff.1 h; refine GO_call hall rfl trivial (k_narthexref12_Arcs x1 _ ex9) (h := ?_); dsimp only [go_sem, Nat.reduceBEq, Nat.reduceAdd]; refine G_one 11 rfl ?_; obtain ⟨x10, ex10, h⟩ := Option.bind_eq_some_iff.1 h; refine GO_call hall rfl trivial (k_narthexref04_Same x8 x9 _ ex10) (h := ?_)
      dsimp only [go_sem, Nat.reduceBEq, Nat.reduceAdd]; refine G_goN hall hs haf hnap 1 0 ?_; dsimp only [go_sem, Nat.reduceBEq, Nat.reduceAdd]; refine ⟨by simp, ?_⟩; refine G_done rfl ?_ _; exact M_to J2 (s := x10) h
  ·refine M_case 5 h rfl (fun _ h => ?_) fun _ h => ?_
   ·dsimp only [go_sem, Nat.reduceBEq, Nat.reduceAdd]; refine V_go 5 ?_; dsimp only [e5, go_sem, Nat.reduceBEq, Nat.reduceAdd]; refine ⟨by simp, ?_⟩; exact M_to J1 (s := true) h
   ·dsimp only [go_sem, Nat.reduceBEq, Nat.reduceAdd]; refine V_go 1 ?_; dsimp only [e5, go_sem, Nat.reduceBEq, Nat.reduceAdd]; refine ⟨by simp, ?_⟩; obtain ⟨x3, ex3, h⟩ := Option.bind_eq_some_iff.1 h; refine V_call trivial (k_narthexref12_Few x1 _ ex3) (h := ?_); refine V_go 3 ?_; dsimp only [e5, go_sem, Nat.reduceBEq, Nat.reduceAdd]; refine ⟨by simp, ?_⟩; exact M_to J1 (s := !x3) h
end NX
end Go.Proofs.Ytadebhbiglmodaa
/-
  The function narthex/narthexlaw03.Own: its code compiled, a model, and that the code answers as the model. Written by a program of ours (lb.py). No statement of the seat is proved here.
-/
namespace Go.Proofs.Ytadebhbiglmodaa
namespace NX
open Go
set_option maxRecDepth 100000
set_option maxHeartbeats 4000000
def e15 : EC := .seq (.reg [⟨(some 1), none, .box 24 2 (.t 0)⟩, ⟨(some 2), none, .alloc 24 [.iv 0, .nl]⟩]) (.seq (.drw [⟨(some 3), none, .fld 0 (.t 1)⟩, ⟨(some 4), none, .load (.t 3)⟩, ⟨(some 5), none, .bsl 58 2 0 [.iv 0, .iv 0] []⟩, ⟨(some 6), none, .fld 1 (.t 1)⟩, ⟨(some 7), none, .load (.t 6)⟩, ⟨(some 8), none, .app 58 2 16 (.t 5) (.t 7)⟩, ⟨(some 9), none, .build [.iv 0, .nl] [(0, 1, (.t 4)), (1, 1, (.t 8))]⟩, ⟨none, none, .store 2 (.t 2) (.t 9)⟩] [[], [0], [], [], [3], [2, 4], [1, 5], [6, 5, 0, 1, 2, 3, 4, 5, 6]] [[1], [0, 6], [5], [4], [3, 5], [2, 4, 6], [1, 5, 7], [6]]) (.ret))
theorem ok15 : FnOK Try.prog 15 Try.f15 e15 [.c 2 (some 2)] 1 9 := ⟨by kernel_rfl, ⟨_, rfl, by kernel_rfl⟩, by kernel_rfl, by kernel_rfl⟩
/- narthex/narthexlaw03.Own -/
noncomputable def m_narthexlaw03_Own (x1 : Graph) : Option Graph :=
 (app_ 16 (([] : List Edge)) x1.Edges).bind fun x2 =>
 some (Graph.mk x1.N x2)
theorem k_narthexlaw03_Own (x1 : Graph) (r : Graph) (h : m_narthexlaw03_Own x1 = some r) : FunP Try.prog 15 [.agg (Graph.row x1)] (.agg (Graph.row r)) := by
  refine FunP_intro ok15 rfl rfl fun w0 H0 => ?_
  rw [m_narthexlaw03_Own] at h
  refine V_go 6 ?_; dsimp only [e15, go_sem, Nat.reduceBEq, Nat.reduceAdd]; refine ⟨by simp, ?_⟩; refine V_drw (by kernel_rfl) fun all hall hs hnap haf => ?_; dsimp only [go_sem, Nat.reduceBEq, Nat.reduceAdd]; refine G_goN hall hs haf hnap 4 4 ?_; dsimp only [go_sem, Nat.reduceBEq, Nat.reduceAdd]; refine ⟨by simp, ?_⟩; refine G_one 2 rfl ?_; refine GO_ev hall rfl trivial ?_; dsimp only [go_sem, Nat.reduceBEq, Nat.reduceAdd]; refine G_one 5 rfl ?_; obtain ⟨x2, ex2, h⟩ := Option.bind_eq_some_iff.1 h; refine GO_appM Edge.row ex2 hall rfl trivial rfl rfl rfl ?_
  dsimp only [go_sem, Nat.reduceBEq, Nat.reduceAdd]; refine G_goN hall hs haf hnap 1 1 ?_; dsimp only [go_sem, Nat.reduceBEq, Nat.reduceAdd]; refine ⟨by simp, ?_⟩; refine G_one 7 rfl ?_; refine GO_ev hall rfl trivial ?_; dsimp only [go_sem, Nat.reduceBEq, Nat.reduceAdd]; refine G_done rfl ?_ _; refine V_seal 1 rfl ?_; dsimp only [go_sem, Nat.reduceBEq, Nat.reduceAdd]; exact M_done (res := fun (r : Graph) => .agg (Graph.row r)) ok15 h
end NX
end Go.Proofs.Ytadebhbiglmodaa
/-
  The function narthex/narthexref12.Table: its code compiled, a model, and that the code answers as the model. Written by a program of ours (lb.py). No statement of the seat is proved here.
-/
namespace Go.Proofs.Ytadebhbiglmodaa
namespace NX
open Go
set_option maxRecDepth 100000
set_option maxHeartbeats 4000000
def e19_L1 : EC := .seq (.seq (.reg [⟨(some 19), none, .mv (.t 8)⟩, ⟨(some 20), none, .fld 0 (.t 2)⟩, ⟨(some 21), none, .load (.t 20)⟩, ⟨(some 22), none, .bin .lss (.t 19) (.t 21)⟩]) (.ite (.t 22) (.skip) (.exit 2))) (.seq (.blk 3 (.seq (.seq (.reg [⟨(some 25), none, .loadA 2 (.t 2)⟩, ⟨(some 26), none, .mv (.t 6)⟩, ⟨(some 27), none, .mv (.t 8)⟩, ⟨(some 28), none, .call 32 [(.t 25), (.t 26), (.t 27)]⟩, ⟨(some 29), none, .not (.t 28)⟩]) (.ite (.t 29) (.exit 3) (.skip))) (.seq (.reg [⟨(some 30), none, .mv (.t 8)⟩, ⟨(some 31), none, .build [.iv 0, .iv 0, .iv 0, .ff, .ff, .ff, .ff, .ff] [(0, 1, (.t 30)), (1, 1, (.c (.iv 1)))]⟩, ⟨(some 9), none, .alloc 49 [.iv 0, .iv 0, .iv 0, .ff, .ff, .ff, .ff, .ff]⟩, ⟨none, none, .store 8 (.t 9) (.t 31)⟩]) (.seq (.seq (.drw [⟨(some 32), none, .mv (.t 1)⟩, ⟨(some 33), none, .mv (.t 6)⟩, ⟨(some 34), none, .idx 1 (.t 32) (.t 33)⟩, ⟨(some 35), none, .load (.t 34)⟩, ⟨(some 36), none, .mv (.t 1)⟩, ⟨(some 37), none, .mv (.t 8)⟩, ⟨(some 38), none, .idx 1 (.t 36) (.t 37)⟩, ⟨(some 39), none, .load (.t 38)⟩, ⟨(some 40), none, .bin .lss (.t 35) (.t 39)⟩] [[], [], [0, 1], [2], [], [], [4, 5], [6], [3, 7]] [[2], [2], [0, 1, 3], [2, 8], [6], [6], [4, 5, 7], [6, 8], [3, 7]]) (.ite (.t 40) (.reg [⟨(some 41), none, .fld 5 (.t 9)⟩, ⟨none, none, .store 1 (.t 41) (.c .tt)⟩, ⟨(some 42), none, .fld 7 (.t 9)⟩, ⟨none, none, .store 1 (.t 42) (.c .tt)⟩]) (.reg [⟨(some 43), none, .fld 3 (.t 9)⟩, ⟨none, none, .store 1 (.t 43) (.c .tt)⟩, ⟨(some 44), none, .fld 4 (.t 9)⟩, ⟨none, none, .store 1 (.t 44) (.c .tt)⟩, ⟨(some 45), none, .fld 6 (.t 9)⟩, ⟨none, none, .store 1 (.t 45) (.c .tt)⟩]))) (.reg [⟨(some 46), none, .fld 2 (.t 7)⟩, ⟨(some 47), none, .load (.t 46)⟩, ⟨(some 48), none, .loadA 8 (.t 9)⟩, ⟨(some 49), none, .bsl 49 8 1 [.iv 0, .iv 0, .iv 0, .ff, .ff, .ff, .ff, .ff] [(0, (.t 48))]⟩, ⟨(some 50), none, .app 49 8 32 (.t 47) (.t 49)⟩, ⟨(some 51), none, .fld 2 (.t 7)⟩, ⟨none, none, .store 1 (.t 51) (.t 50)⟩]))))) (.reg [⟨(some 23), none, .mv (.t 8)⟩, ⟨(some 24), none, .bin .add (.t 23) (.c (.iv 1))⟩, ⟨(some 8), none, .mv (.t 24)⟩]))
def e19_L0 : EC := .seq (.seq (.reg [⟨(some 11), none, .mv (.t 6)⟩, ⟨(some 12), none, .fld 0 (.t 2)⟩, ⟨(some 13), none, .load (.t 12)⟩, ⟨(some 14), none, .bin .lss (.t 11) (.t 13)⟩]) (.ite (.t 14) (.skip) (.exit 0))) (.seq (.blk 1 (.seq (.reg [⟨(some 17), none, .mv (.t 6)⟩, ⟨(some 18), none, .build [.iv 0, .iv 0, .nl] [(0, 1, (.t 17))]⟩, ⟨(some 7), none, .alloc 39 [.iv 0, .iv 0, .nl]⟩, ⟨none, none, .store 3 (.t 7) (.t 18)⟩]) (.seq (.seq (.reg [⟨(some 8), none, .mv (.c (.iv 0))⟩]) (.blk 2 (.loop e19_L1))) (.reg [⟨(some 52), none, .mv (.t 5)⟩, ⟨(some 53), none, .loadA 3 (.t 7)⟩, ⟨(some 54), none, .bsl 39 3 1 [.iv 0, .iv 0, .nl] [(0, (.t 53))]⟩, ⟨(some 55), none, .app 39 3 40 (.t 52) (.t 54)⟩, ⟨(some 5), none, .mv (.t 55)⟩])))) (.reg [⟨(some 15), none, .mv (.t 6)⟩, ⟨(some 16), none, .bin .add (.t 15) (.c (.iv 1))⟩, ⟨(some 6), none, .mv (.t 16)⟩]))
def e19 : EC := .seq (.reg [⟨(some 2), none, .box 24 2 (.t 0)⟩, ⟨(some 4), none, .mv (.c .nl)⟩]) (.seq (.reg [⟨(some 10), none, .bsl 39 3 0 [.iv 0, .iv 0, .nl] []⟩, ⟨(some 5), none, .mv (.t 10)⟩]) (.seq (.seq (.reg [⟨(some 6), none, .mv (.c (.iv 0))⟩]) (.blk 0 (.loop e19_L0))) (.seq (.reg [⟨(some 56), none, .mv (.t 5)⟩, ⟨(some 4), none, .mv (.t 56)⟩]) (.ret))))
theorem ok19 : FnOK Try.prog 19 Try.f19 e19 [.t 4] 2 55 := ⟨by kernel_rfl, ⟨_, rfl, by kernel_rfl⟩, by kernel_rfl, by kernel_rfl⟩
/- narthex/narthexref12.Table -/
noncomputable def m_narthexref12_Table_j1  : (List Diner) → Option (List Diner)
| x64 =>
 some x64
noncomputable def m_narthexref12_Table_j2 (x29 : Int) (x30 : (List Diner)) : (List Side) → Option ((Int × (List Diner)) ⊕ (List Diner))
| x56 =>
 (app_ 40 x30 ([(Diner.mk x29 0 x56)])).bind fun x57 =>
 some (.inl (wr (x29 + 1), x57))
noncomputable def m_narthexref12_Table_j3 (x39 : Int) : (List Side) → Option ((Int × (List Side)) ⊕ ((Int × (List Diner)) ⊕ (List Diner)))
| x46 =>
 some (.inl (wr (x39 + 1), x46))
noncomputable def m_narthexref12_Table_j4 (x39 : Int) (x40 : (List Side)) : Side → Option ((Int × (List Side)) ⊕ ((Int × (List Diner)) ⊕ (List Diner)))
| x44 =>
 (app_ 32 x40 ([x44])).bind fun x45 =>
 (m_narthexref12_Table_j3 x39) x45
noncomputable def m_narthexref12_Table_l2 (x1 : Graph) (x2 : (List Int)) (x29 : Int) (x30 : (List Diner)) : (Int × (List Side)) → Option ((Int × (List Side)) ⊕ ((Int × (List Diner)) ⊕ (List Diner)))
| (x39, x40) =>
 ifb (decide (x39 < x1.N)) (
 (m_narthexref03_Has x1 x29 x39).bind fun x41 =>
 ifb (!x41) (
 (m_narthexref12_Table_j3 x39) x40) (
 (at_ x2 x29).bind fun x42 =>
 (at_ x2 x39).bind fun x43 =>
 ifb (decide (x42 < x43)) (
 (m_narthexref12_Table_j4 x39 x40) ((Side.mk x39 1 0 false false true false true))) (
 (m_narthexref12_Table_j4 x39 x40) ((Side.mk x39 1 0 true true false true false))))) (
 Option.map Sum.inr ((m_narthexref12_Table_j2 x29 x30) x40))
noncomputable def m_narthexref12_Table_l1 (x1 : Graph) (x2 : (List Int)) : (Int × (List Diner)) → Option ((Int × (List Diner)) ⊕ (List Diner))
| (x29, x30) =>
 ifb (decide (x29 < x1.N)) (
 loop (m_narthexref12_Table_l2 x1 x2 x29 x30) (0, ([] : List Side))) (
 Option.map Sum.inr (m_narthexref12_Table_j1 x30))
noncomputable def m_narthexref12_Table (x1 : Graph) (x2 : (List Int)) : Option (List Diner) :=
 loop (m_narthexref12_Table_l1 x1 x2) (0, ([] : List Diner))
theorem o_narthexref12_Table (x1 : Graph) (x2 : (List Int)) (r : (List Diner)) (h : m_narthexref12_Table x1 x2 = some r) : FunO Try.prog 19 [.agg (Graph.row x1), .sl 1 (List.map intRow x2)] 39 3 (List.map Diner.row r) := by
  refine FunO_intro ok19 rfl fun w0 H0 => ?_
  rw [m_narthexref12_Table] at h
  refine V_go 15 ?_; dsimp only [e19, e19_L0, e19_L1, go_sem, Nat.reduceBEq, Nat.reduceAdd]; refine ⟨by simp, ?_⟩; refine V_join (fun (x64 : (List Diner)) => (⟨(an 5 (.osl 0 :: an 51 [])), [], [some ⟨39, 3, List.map Diner.row x64⟩]⟩ : St)) m_narthexref12_Table_j1 r ?_ fun J1 => ?_
  ·intro x64 h; rw [m_narthexref12_Table_j1] at h; (try dsimp only); refine V_go 5 ?_; dsimp only [e19, e19_L0, e19_L1, go_sem, Nat.reduceBEq, Nat.reduceAdd]; refine ⟨by simp, ?_⟩; exact O_doneM Diner.row ok19 h rfl rfl
  ·refine V_go 1 ?_; dsimp only [e19, e19_L0, e19_L1, go_sem, Nat.reduceBEq, Nat.reduceAdd]; refine ⟨by simp, ?_⟩; refine M_loop h (fun ((x29, x30) : (Int × (List Diner))) => (⟨(.any :: .sl 1 (List.map intRow x2) :: .ptr 0 0 :: .any :: .any :: .osl 0 :: .iv x29 :: an 50 []), [some ⟨24, [.iv x1.N, .sl 2 (List.map Edge.row x1.Edges)]⟩], [some ⟨39, 3, List.map Diner.row x30⟩]⟩ : St)) (by simp [go_sem]) (by rintro ⟨x29, x30⟩; first | rfl | simp [go_sem]) ?_; rintro n1 ⟨x29, x30⟩ y1 h hin1 hout1; rw [m_narthexref12_Table_l1] at h; (try dsimp only); refine V_go 8 ?_
   dsimp only [e19, e19_L0, e19_L1, go_sem, Nat.reduceBEq, Nat.reduceAdd]; refine ⟨by simp, ?_⟩; refine M_ite h rfl (fun _ h => ?_) fun _ h => ?_
   ·refine V_go 15 ?_; dsimp only [e19, e19_L0, e19_L1, go_sem, Nat.reduceBEq, Nat.reduceAdd]; refine ⟨by simp, ?_⟩; refine V_join (fun (x56 : (List Side)) => (⟨(.any :: .sl 1 (List.map intRow x2) :: .ptr 0 0 :: .any :: .any :: .osl 0 :: .iv x29 :: .ptr 1 0 :: an 49 []), [some ⟨24, [.iv x1.N, .sl 2 (List.map Edge.row x1.Edges)]⟩, some ⟨39, [.iv x29, .iv 0, .osl 1]⟩], [some ⟨39, 3, List.map Diner.row x30⟩, some ⟨49, 8, List.map Side.row x56⟩]⟩ : St)) (m_narthexref12_Table_j2 x29 x30) y1 ?_ fun J2 => ?_
    ·intro x56 h; rw [m_narthexref12_Table_j2] at h; (try dsimp only); refine V_go 3 ?_; dsimp only [e19, e19_L0, e19_L1, go_sem, Nat.reduceBEq, Nat.reduceAdd]; refine ⟨by simp, ?_⟩; refine V_seal 1 rfl ?_; dsimp only [go_sem, Nat.reduceBEq, Nat.reduceAdd]; refine V_go 1 ?_; dsimp only [e19, e19_L0, e19_L1, go_sem, Nat.reduceBEq, Nat.reduceAdd]; refine ⟨by simp, ?_⟩; obtain ⟨x57, ex57, h⟩ := Option.bind_eq_some_iff.1 h; refine V_appM Diner.row ex57 trivial rfl rfl rfl ?_; refine V_go 8 ?_; dsimp only [e19, e19_L0, e19_L1, go_sem, Nat.reduceBEq, Nat.reduceAdd]; refine ⟨by simp, ?_⟩
     refine V_ren 3 0 rfl rfl rfl ?_; dsimp only [go_sem, Nat.reduceBEq, Nat.reduceAdd]; exact M_back h hin1
    ·refine V_go 1 ?_; dsimp only [e19, e19_L0, e19_L1, go_sem, Nat.reduceBEq, Nat.reduceAdd]; refine ⟨by simp, ?_⟩; refine V_ownB 1 2 49 8 rfl rfl rfl ?_; dsimp only [go_sem, Nat.reduceBEq, Nat.reduceAdd]
     refine M_loop h (fun ((x39, x40) : (Int × (List Side))) => (⟨(.any :: .sl 1 (List.map intRow x2) :: .ptr 0 0 :: .any :: .any :: .osl 0 :: .iv x29 :: .ptr 1 0 :: .iv x39 :: an 48 []), [some ⟨24, [.iv x1.N, .sl 2 (List.map Edge.row x1.Edges)]⟩, some ⟨39, [.iv x29, .iv 0, .osl 1]⟩], [some ⟨39, 3, List.map Diner.row x30⟩, some ⟨49, 8, List.map Side.row x40⟩]⟩ : St)) (by simp [go_sem]) (by rintro ⟨x39, x40⟩; first | rfl | simp [go_sem]) ?_; rintro n2 ⟨x39, x40⟩ y2 h hin2 hout2; rw [m_narthexref12_Table_l2] at h; (try dsimp only); refine V_go 8 ?_
     dsimp only [e19, e19_L0, e19_L1, go_sem, Nat.reduceBEq, Nat.reduceAdd]; refine ⟨by simp, ?_⟩; refine M_ite h rfl (fun _ h => ?_) fun _ h => ?_
     ·refine V_go 2 ?_; dsimp only [e19, e19_L0, e19_L1, go_sem, Nat.reduceBEq, Nat.reduceAdd]; refine ⟨by simp, ?_⟩; refine V_join (fun (x46 : (List Side)) => (⟨(.any :: .sl 1 (List.map intRow x2) :: .ptr 0 0 :: .any :: .any :: .osl 0 :: .iv x29 :: .ptr 1 0 :: .iv x39 :: an 48 []), [some ⟨24, [.iv x1.N, .sl 2 (List.map Edge.row x1.Edges)]⟩, some ⟨39, [.iv x29, .iv 0, .osl 1]⟩], [some ⟨39, 3, List.map Diner.row x30⟩, some ⟨49, 8, List.map Side.row x46⟩]⟩ : St)) (m_narthexref12_Table_j3 x39) y2 ?_ fun J3 => ?_
      ·intro x46 h; rw [m_narthexref12_Table_j3] at h; (try dsimp only); refine V_go 5 ?_; dsimp only [e19, e19_L0, e19_L1, go_sem, Nat.reduceBEq, Nat.reduceAdd]; refine ⟨by simp, ?_⟩; exact M_back h hin2
      ·refine V_go 7 ?_; dsimp only [e19, e19_L0, e19_L1, go_sem, Nat.reduceBEq, Nat.reduceAdd]; refine ⟨by simp, ?_⟩; obtain ⟨x41, ex41, h⟩ := Option.bind_eq_some_iff.1 h; refine V_call trivial (k_narthexref03_Has x1 x29 x39 _ ex41) (h := ?_); refine V_go 2 ?_; dsimp only [e19, e19_L0, e19_L1, go_sem, Nat.reduceBEq, Nat.reduceAdd]; refine ⟨by simp, ?_⟩; refine M_ite h rfl (fun _ h => ?_) fun _ h => ?_
       ·refine V_go 1 ?_; dsimp only [e19, e19_L0, e19_L1, go_sem, Nat.reduceBEq, Nat.reduceAdd]; refine ⟨by simp, ?_⟩; exact M_to J3 (s := x40) h
       ·refine V_go 10 ?_; dsimp only [e19, e19_L0, e19_L1, go_sem, Nat.reduceBEq, Nat.reduceAdd]; refine ⟨by simp, ?_⟩; refine V_drw (by kernel_rfl) fun all hall hs hnap haf => ?_; dsimp only [go_sem, Nat.reduceBEq, Nat.reduceAdd]; refine G_goN hall hs haf hnap 4 5 ?_; dsimp only [go_sem, Nat.reduceBEq, Nat.reduceAdd]; refine ⟨by simp, ?_⟩; obtain ⟨x42, ex42, h⟩ := Option.bind_eq_some_iff.1 h; refine G_idxM hall hs haf hnap 2 intRow ex42 rfl rfl trivial rfl rfl rfl rfl ?_; refine G_goN hall hs haf hnap 1 3 ?_; dsimp only [go_sem, Nat.reduceBEq, Nat.reduceAdd]; refine ⟨by simp, ?_⟩
        obtain ⟨x43, ex43, h⟩ := Option.bind_eq_some_iff.1 h; refine G_idxM hall hs haf hnap 6 intRow ex43 rfl rfl trivial rfl rfl rfl rfl ?_; refine G_goN hall hs haf hnap 2 0 ?_; dsimp only [go_sem, Nat.reduceBEq, Nat.reduceAdd]; refine ⟨by simp, ?_⟩; refine G_done rfl ?_ _
        refine V_join (fun (x44 : Side) => (⟨(.any :: .sl 1 (List.map intRow x2) :: .ptr 0 0 :: .any :: .any :: .osl 0 :: .iv x29 :: .ptr 1 0 :: .iv x39 :: .ptr 2 0 :: an 47 []), [some ⟨24, [.iv x1.N, .sl 2 (List.map Edge.row x1.Edges)]⟩, some ⟨39, [.iv x29, .iv 0, .osl 1]⟩, some ⟨49, [.iv x44.Peer, .iv x44.Epoch, .iv x44.State, .bv x44.Fork, .bv x44.Dirty, .bv x44.Token, .bv x44.Bottle, .bv x44.Ask]⟩], [some ⟨39, 3, List.map Diner.row x30⟩, some ⟨49, 8, List.map Side.row x40⟩]⟩ : St)) (m_narthexref12_Table_j4 x39 x40) y2 ?_ fun J4 => ?_
        ·intro x44 h; rw [m_narthexref12_Table_j4] at h; (try dsimp only); refine V_go 5 ?_; dsimp only [e19, e19_L0, e19_L1, go_sem, Nat.reduceBEq, Nat.reduceAdd]; refine ⟨by simp, ?_⟩; obtain ⟨x45, ex45, h⟩ := Option.bind_eq_some_iff.1 h; refine V_appM Side.row ex45 trivial rfl rfl rfl ?_; refine V_go 4 ?_; dsimp only [e19, e19_L0, e19_L1, go_sem, Nat.reduceBEq, Nat.reduceAdd]; refine ⟨by simp, ?_⟩; refine V_ren 3 1 rfl rfl rfl ?_; dsimp only [go_sem, Nat.reduceBEq, Nat.reduceAdd]; exact M_to J3 (s := x45) h
        ·refine M_ite h rfl (fun _ h => ?_) fun _ h => ?_
         ·refine V_go 6 ?_; dsimp only [e19, e19_L0, e19_L1, go_sem, Nat.reduceBEq, Nat.reduceAdd]; refine ⟨by simp, ?_⟩; exact M_to J4 (s := (Side.mk x39 1 0 false false true false true)) h
         ·refine V_go 8 ?_; dsimp only [e19, e19_L0, e19_L1, go_sem, Nat.reduceBEq, Nat.reduceAdd]; refine ⟨by simp, ?_⟩; exact M_to J4 (s := (Side.mk x39 1 0 true true false true false)) h
     ·refine V_go 1 ?_; dsimp only [e19, e19_L0, e19_L1, go_sem, Nat.reduceBEq, Nat.reduceAdd]; refine ⟨by simp, ?_⟩; exact M_to J2 (s := x40) (M_out h hout2)
   ·refine V_go 1 ?_; dsimp only [e19, e19_L0, e19_L1, go_sem, Nat.reduceBEq, Nat.reduceAdd]; refine ⟨by simp, ?_⟩; exact M_to J1 (s := x30) (M_out h hout1)
theorem k_narthexref12_Table (x1 : Graph) (x2 : (List Int)) (r : (List Diner)) (h : m_narthexref12_Table x1 x2 = some r) : FunP Try.prog 19 [.agg (Graph.row x1), .sl 1 (List.map intRow x2)] (.sl 3 (List.map Diner.row r)) := (o_narthexref12_Table x1 x2 r h).sealed
end NX
end Go.Proofs.Ytadebhbiglmodaa
/-
  The function narthex/narthexlaw12.PlaceTables: its code compiled, a model, and that the code answers as the model. Written by a program of ours (lb.py). No statement of the seat is proved here.
-/
namespace Go.Proofs.Ytadebhbiglmodaa
namespace NX
open Go
set_option maxRecDepth 100000
set_option maxHeartbeats 4000000
def e3 : EC := .seq (.reg [⟨(some 2), none, .box 24 2 (.t 0)⟩, ⟨(some 4), none, .mv (.c .ff)⟩]) (.seq (.seq (.reg [⟨(some 7), none, .call 13 []⟩, ⟨(some 8), none, .not (.t 7)⟩, ⟨(some 9), none, .mv (.t 8)⟩, ⟨(some 10), (some (9, false)), .fld 1 (.t 2)⟩, ⟨(some 11), (some (9, false)), .load (.t 10)⟩, ⟨(some 12), (some (9, false)), .len (.t 11)⟩, ⟨(some 13), (some (9, false)), .bin .gtr (.t 12) (.c (.iv 60))⟩, ⟨(some 14), none, .pick (.t 9) (.c .tt) (.t 13)⟩, ⟨(some 15), none, .mv (.t 14)⟩, ⟨(some 16), (some (15, false)), .mv (.t 1)⟩, ⟨(some 17), (some (15, false)), .len (.t 16)⟩, ⟨(some 18), (some (15, false)), .bin .gtr (.t 17) (.c (.iv 70))⟩, ⟨(some 19), none, .pick (.t 15) (.c .tt) (.t 18)⟩]) (.ite (.t 19) (.seq (.reg [⟨(some 20), none, .call 13 []⟩, ⟨(some 4), none, .mv (.t 20)⟩]) (.ret)) (.skip))) (.seq (.reg [⟨(some 22), none, .loadA 2 (.t 2)⟩, ⟨(some 23), none, .call 15 [(.t 22)]⟩, ⟨(some 24), none, .bsl 3 1 0 [.iv 0] []⟩, ⟨(some 25), none, .mv (.t 1)⟩, ⟨(some 26), none, .app 3 1 8 (.t 24) (.t 25)⟩, ⟨(some 27), none, .call 14 [(.t 23), (.t 26)]⟩, ⟨(some 21), none, .mv (.t 27)⟩, ⟨(some 28), none, .ext (.t 21) 0⟩, ⟨(some 29), none, .ext (.t 21) 1⟩, ⟨(some 5), none, .mv (.t 28)⟩, ⟨(some 6), none, .mv (.t 29)⟩]) (.seq (.seq (.reg [⟨(some 30), none, .loadA 2 (.t 2)⟩, ⟨(some 31), none, .call 16 [(.t 30)]⟩, ⟨(some 32), none, .not (.t 31)⟩]) (.ite (.t 32) (.seq (.reg [⟨(some 33), none, .mv (.t 5)⟩, ⟨(some 34), none, .len (.t 33)⟩, ⟨(some 35), none, .bin .eql (.t 34) (.c (.iv 0))⟩, ⟨(some 36), none, .mv (.t 35)⟩, ⟨(some 37), (some (36, true)), .mv (.t 6)⟩, ⟨(some 38), (some (36, true)), .bin .eql (.t 37) (.c (.iv 30))⟩, ⟨(some 39), none, .pick (.t 36) (.t 38) (.c .ff)⟩, ⟨(some 4), none, .mv (.t 39)⟩]) (.ret)) (.skip))) (.seq (.seq (.reg [⟨(some 40), none, .loadA 2 (.t 2)⟩, ⟨(some 41), none, .mv (.t 1)⟩, ⟨(some 42), none, .call 17 [(.t 40), (.t 41)]⟩, ⟨(some 43), none, .not (.t 42)⟩]) (.ite (.t 43) (.seq (.reg [⟨(some 44), none, .mv (.t 5)⟩, ⟨(some 45), none, .len (.t 44)⟩, ⟨(some 46), none, .bin .eql (.t 45) (.c (.iv 0))⟩, ⟨(some 47), none, .mv (.t 46)⟩, ⟨(some 48), (some (47, true)), .mv (.t 6)⟩, ⟨(some 49), (some (47, true)), .bin .eql (.t 48) (.c (.iv 120))⟩, ⟨(some 50), none, .pick (.t 47) (.t 49) (.c .ff)⟩, ⟨(some 4), none, .mv (.t 50)⟩]) (.ret)) (.skip))) (.seq (.reg [⟨(some 51), none, .mv (.t 5)⟩, ⟨(some 52), none, .loadA 2 (.t 2)⟩, ⟨(some 53), none, .mv (.t 1)⟩, ⟨(some 54), none, .call 19 [(.t 52), (.t 53)]⟩, ⟨(some 55), none, .call 18 [(.t 51), (.t 54)]⟩, ⟨(some 56), none, .mv (.t 55)⟩, ⟨(some 57), (some (56, true)), .mv (.t 6)⟩, ⟨(some 58), (some (56, true)), .bin .eql (.t 57) (.c (.iv 0))⟩, ⟨(some 59), none, .pick (.t 56) (.t 58) (.c .ff)⟩, ⟨(some 4), none, .mv (.t 59)⟩]) (.ret))))))
theorem ok3 : FnOK Try.prog 3 Try.f3 e3 [.t 4] 2 58 := ⟨by kernel_rfl, ⟨_, rfl, by kernel_rfl⟩, by kernel_rfl, by kernel_rfl⟩
/- narthex/narthexlaw12.PlaceTables -/
noncomputable def m_narthexlaw12_PlaceTables_j2  : Bool → Option Bool
| x10 =>
 some x10
noncomputable def m_narthexlaw12_PlaceTables_j3  : Bool → Option Bool
| x12 =>
 some x12
noncomputable def m_narthexlaw12_PlaceTables_j4  : Bool → Option Bool
| x15 =>
 some x15
noncomputable def m_narthexlaw12_PlaceTables_j1 (x1 : Graph) (x2 : (List Int)) : Bool → Option Bool
| x4 =>
 ifb x4 (
 (m_narthexlaw12_awake).bind fun x5 =>
 some x5) (
 (m_narthexlaw03_Own x1).bind fun x6 =>
 (app_ 8 (([] : List Int)) x2).bind fun x7 =>
 (m_place_Table x6 x7).bind fun x8 =>
 (m_narthexref03_Check x1).bind fun x9 =>
 ifb (!x9) (
 ifb (decide ((ln Diner.row x8.1) = 0)) (
 m_narthexlaw12_PlaceTables_j2 (decide (x8.2 = 30))) (
 m_narthexlaw12_PlaceTables_j2 false)) (
 (m_narthexref11_Right x1 x2).bind fun x11 =>
 ifb (!x11) (
 ifb (decide ((ln Diner.row x8.1) = 0)) (
 m_narthexlaw12_PlaceTables_j3 (decide (x8.2 = 120))) (
 m_narthexlaw12_PlaceTables_j3 false)) (
 (m_narthexref12_Table x1 x2).bind fun x13 =>
 (m_narthexref12_Same x8.1 x13).bind fun x14 =>
 ifb x14 (
 m_narthexlaw12_PlaceTables_j4 (decide (x8.2 = 0))) (
 m_narthexlaw12_PlaceTables_j4 false))))
noncomputable def m_narthexlaw12_PlaceTables (x1 : Graph) (x2 : (List Int)) : Option Bool :=
 (m_narthexlaw12_awake).bind fun x3 =>
 ifb (!x3) (
 (m_narthexlaw12_PlaceTables_j1 x1 x2) true) (
 ifb (decide (60 < (ln Edge.row x1.Edges))) (
 (m_narthexlaw12_PlaceTables_j1 x1 x2) true) (
 (m_narthexlaw12_PlaceTables_j1 x1 x2) (decide (70 < (ln intRow x2)))))
theorem k_narthexlaw12_PlaceTables (x1 : Graph) (x2 : (List Int)) (r : Bool) (h : m_narthexlaw12_PlaceTables x1 x2 = some r) : FunP Try.prog 3 [.agg (Graph.row x1), .sl 1 (List.map intRow x2)] (.bv r) := by
  refine FunP_intro ok3 rfl rfl fun w0 H0 => ?_
  rw [m_narthexlaw12_PlaceTables] at h
  refine V_go 8 ?_; dsimp only [e3, go_sem, Nat.reduceBEq, Nat.reduceAdd]; refine ⟨by simp, ?_⟩; obtain ⟨x3, ex3, h⟩ := Option.bind_eq_some_iff.1 h; refine V_call trivial (k_narthexlaw12_awake _ ex3) (h := ?_); refine V_go 2 ?_; dsimp only [e3, go_sem, Nat.reduceBEq, Nat.reduceAdd]; refine ⟨by simp, ?_⟩; refine V_join (fun (x4 : Bool) => (⟨(.any :: .sl 1 (List.map intRow x2) :: .ptr 0 0 :: an 16 (.bv x4 :: an 40 [])), [some ⟨24, [.iv x1.N, .sl 2 (List.map Edge.row x1.Edges)]⟩], []⟩ : St)) (m_narthexlaw12_PlaceTables_j1 x1 x2) r ?_ fun J1 => ?_
  ·intro x4 h; rw [m_narthexlaw12_PlaceTables_j1] at h; (try dsimp only); refine M_ite h rfl (fun _ h => ?_) fun _ h => ?_
   ·refine V_go 2 ?_; dsimp only [e3, go_sem, Nat.reduceBEq, Nat.reduceAdd]; refine ⟨by simp, ?_⟩; obtain ⟨x5, ex5, h⟩ := Option.bind_eq_some_iff.1 h; refine V_call trivial (k_narthexlaw12_awake _ ex5) (h := ?_); refine V_go 2 ?_; dsimp only [e3, go_sem, Nat.reduceBEq, Nat.reduceAdd]; refine ⟨by simp, ?_⟩; exact M_done (res := fun (r : Bool) => .bv r) ok3 h
   ·refine V_go 4 ?_; dsimp only [e3, go_sem, Nat.reduceBEq, Nat.reduceAdd]; refine ⟨by simp, ?_⟩; obtain ⟨x6, ex6, h⟩ := Option.bind_eq_some_iff.1 h; refine V_call trivial (k_narthexlaw03_Own x1 _ ex6) (h := ?_); refine V_go 2 ?_; dsimp only [e3, go_sem, Nat.reduceBEq, Nat.reduceAdd]; refine ⟨by simp, ?_⟩; obtain ⟨x7, ex7, h⟩ := Option.bind_eq_some_iff.1 h; refine V_appM intRow ex7 trivial rfl rfl rfl ?_; refine V_seal 1 rfl ?_; dsimp only [go_sem, Nat.reduceBEq, Nat.reduceAdd]; obtain ⟨x8, ex8, h⟩ := Option.bind_eq_some_iff.1 h; refine V_call trivial (k_place_Table x6 x7 _ ex8) (h := ?_)
    refine V_go 10 ?_; dsimp only [e3, go_sem, Nat.reduceBEq, Nat.reduceAdd]; refine ⟨by simp, ?_⟩; obtain ⟨x9, ex9, h⟩ := Option.bind_eq_some_iff.1 h; refine V_call trivial (k_narthexref03_Check x1 _ ex9) (h := ?_); refine V_go 2 ?_; dsimp only [e3, go_sem, Nat.reduceBEq, Nat.reduceAdd]; refine ⟨by simp, ?_⟩; refine M_ite h rfl (fun _ h => ?_) fun _ h => ?_
    ·refine V_go 6 ?_; dsimp only [e3, go_sem, Nat.reduceBEq, Nat.reduceAdd]; refine ⟨by simp, ?_⟩; refine V_join (fun (x10 : Bool) => (⟨(an 4 (.bv x10 :: an 55 [])), [], []⟩ : St)) m_narthexlaw12_PlaceTables_j2 r ?_ fun J2 => ?_
     ·intro x10 h; rw [m_narthexlaw12_PlaceTables_j2] at h; (try dsimp only); exact M_done (res := fun (r : Bool) => .bv r) ok3 h
     ·refine M_case 36 h rfl (fun _ h => ?_) fun _ h => ?_
      ·dsimp only [go_sem, Nat.reduceBEq, Nat.reduceAdd]; refine V_go 5 ?_; dsimp only [e3, go_sem, Nat.reduceBEq, Nat.reduceAdd]; refine ⟨by simp, ?_⟩; exact M_to J2 (s := decide (x8.2 = 30)) h
      ·dsimp only [go_sem, Nat.reduceBEq, Nat.reduceAdd]; refine V_go 5 ?_; dsimp only [e3, go_sem, Nat.reduceBEq, Nat.reduceAdd]; refine ⟨by simp, ?_⟩; exact M_to J2 (s := false) h
    ·refine V_go 6 ?_; dsimp only [e3, go_sem, Nat.reduceBEq, Nat.reduceAdd]; refine ⟨by simp, ?_⟩; obtain ⟨x11, ex11, h⟩ := Option.bind_eq_some_iff.1 h; refine V_call trivial (k_narthexref11_Right x1 x2 _ ex11) (h := ?_); refine V_go 2 ?_; dsimp only [e3, go_sem, Nat.reduceBEq, Nat.reduceAdd]; refine ⟨by simp, ?_⟩; refine M_ite h rfl (fun _ h => ?_) fun _ h => ?_
     ·refine V_go 6 ?_; dsimp only [e3, go_sem, Nat.reduceBEq, Nat.reduceAdd]; refine ⟨by simp, ?_⟩; refine V_join (fun (x12 : Bool) => (⟨(an 4 (.bv x12 :: an 55 [])), [], []⟩ : St)) m_narthexlaw12_PlaceTables_j3 r ?_ fun J3 => ?_
      ·intro x12 h; rw [m_narthexlaw12_PlaceTables_j3] at h; (try dsimp only); exact M_done (res := fun (r : Bool) => .bv r) ok3 h
      ·refine M_case 47 h rfl (fun _ h => ?_) fun _ h => ?_
       ·dsimp only [go_sem, Nat.reduceBEq, Nat.reduceAdd]; refine V_go 5 ?_; dsimp only [e3, go_sem, Nat.reduceBEq, Nat.reduceAdd]; refine ⟨by simp, ?_⟩; exact M_to J3 (s := decide (x8.2 = 120)) h
       ·dsimp only [go_sem, Nat.reduceBEq, Nat.reduceAdd]; refine V_go 5 ?_; dsimp only [e3, go_sem, Nat.reduceBEq, Nat.reduceAdd]; refine ⟨by simp, ?_⟩; exact M_to J3 (s := false) h
     ·refine V_go 6 ?_; dsimp only [e3, go_sem, Nat.reduceBEq, Nat.reduceAdd]; refine ⟨by simp, ?_⟩; obtain ⟨x13, ex13, h⟩ := Option.bind_eq_some_iff.1 h; refine V_call trivial (k_narthexref12_Table x1 x2 _ ex13) (h := ?_); obtain ⟨x14, ex14, h⟩ := Option.bind_eq_some_iff.1 h; refine V_call trivial (k_narthexref12_Same x8.1 x13 _ ex14) (h := ?_); refine V_go 1 ?_; dsimp only [e3, go_sem, Nat.reduceBEq, Nat.reduceAdd]; refine ⟨by simp, ?_⟩; refine V_join (fun (x15 : Bool) => (⟨(an 4 (.bv x15 :: an 55 [])), [], []⟩ : St)) m_narthexlaw12_PlaceTables_j4 r ?_ fun J4 => ?_
      ·intro x15 h; rw [m_narthexlaw12_PlaceTables_j4] at h; (try dsimp only); exact M_done (res := fun (r : Bool) => .bv r) ok3 h
      ·refine M_case 56 h rfl (fun _ h => ?_) fun _ h => ?_
       ·dsimp only [go_sem, Nat.reduceBEq, Nat.reduceAdd]; refine V_go 5 ?_; dsimp only [e3, go_sem, Nat.reduceBEq, Nat.reduceAdd]; refine ⟨by simp, ?_⟩; exact M_to J4 (s := decide (x8.2 = 0)) h
       ·dsimp only [go_sem, Nat.reduceBEq, Nat.reduceAdd]; refine V_go 5 ?_; dsimp only [e3, go_sem, Nat.reduceBEq, Nat.reduceAdd]; refine ⟨by simp, ?_⟩; exact M_to J4 (s := false) h
  ·refine M_case 9 h rfl (fun _ h => ?_) fun _ h => ?_
   ·dsimp only [go_sem, Nat.reduceBEq, Nat.reduceAdd]; refine V_go 11 ?_; dsimp only [e3, go_sem, Nat.reduceBEq, Nat.reduceAdd]; refine ⟨by simp, ?_⟩; exact M_to J1 (s := true) h
   ·dsimp only [go_sem, Nat.reduceBEq, Nat.reduceAdd]; refine V_go 6 ?_; dsimp only [e3, go_sem, Nat.reduceBEq, Nat.reduceAdd]; refine ⟨by simp, ?_⟩; refine M_case 15 h rfl (fun _ h => ?_) fun _ h => ?_
    ·dsimp only [go_sem, Nat.reduceBEq, Nat.reduceAdd]; refine V_go 5 ?_; dsimp only [e3, go_sem, Nat.reduceBEq, Nat.reduceAdd]; refine ⟨by simp, ?_⟩; exact M_to J1 (s := true) h
    ·dsimp only [go_sem, Nat.reduceBEq, Nat.reduceAdd]; refine V_go 5 ?_; dsimp only [e3, go_sem, Nat.reduceBEq, Nat.reduceAdd]; refine ⟨by simp, ?_⟩; exact M_to J1 (s := decide (70 < (ln intRow x2))) h
end NX
end Go.Proofs.Ytadebhbiglmodaa
/-
  The function narthex/narthexlaw12.PlaceOne: its code compiled, a model, and that the code answers as the model. Written by a program of ours (lb.py). No statement of the seat is proved here.
-/
namespace Go.Proofs.Ytadebhbiglmodaa
namespace NX
open Go
set_option maxRecDepth 100000
set_option maxHeartbeats 4000000
def e6_L0 : EC := .seq (.seq (.reg [⟨(some 48), none, .mv (.t 9)⟩, ⟨(some 49), none, .fld 1 (.t 2)⟩, ⟨(some 50), none, .load (.t 49)⟩, ⟨(some 51), none, .len (.t 50)⟩, ⟨(some 52), none, .bin .lss (.t 48) (.t 51)⟩]) (.ite (.t 52) (.skip) (.exit 0))) (.seq (.blk 1 (.seq (.drw [⟨(some 56), none, .mv (.t 5)⟩, ⟨(some 57), none, .fld 1 (.t 2)⟩, ⟨(some 58), none, .load (.t 57)⟩, ⟨(some 59), none, .mv (.t 9)⟩, ⟨(some 60), none, .idx 2 (.t 58) (.t 59)⟩, ⟨(some 61), none, .fld 0 (.t 60)⟩, ⟨(some 62), none, .load (.t 61)⟩, ⟨(some 63), none, .idx 3 (.t 56) (.t 62)⟩, ⟨(some 64), none, .loadA 3 (.t 63)⟩, ⟨(some 65), none, .fld 1 (.t 2)⟩, ⟨(some 66), none, .load (.t 65)⟩, ⟨(some 67), none, .mv (.t 9)⟩, ⟨(some 68), none, .idx 2 (.t 66) (.t 67)⟩, ⟨(some 69), none, .fld 1 (.t 68)⟩, ⟨(some 70), none, .load (.t 69)⟩, ⟨(some 71), none, .call 24 [(.t 64), (.t 70)]⟩, ⟨(some 55), none, .mv (.t 71)⟩, ⟨(some 72), none, .ext (.t 55) 0⟩, ⟨(some 73), none, .ext (.t 55) 1⟩, ⟨(some 10), none, .alloc 49 [.iv 0, .iv 0, .iv 0, .ff, .ff, .ff, .ff, .ff]⟩, ⟨none, none, .store 8 (.t 10) (.t 72)⟩, ⟨(some 11), none, .mv (.t 73)⟩] [[], [], [1], [], [2, 3], [4], [5], [0, 6], [7], [], [9], [], [10, 11], [12], [13], [8, 14], [15], [16], [16], [], [19, 17, 15, 0, 1, 2, 3, 4, 5, 6, 7, 8, 9, 10, 11, 12, 13, 14, 15, 16, 17, 19], [18, 20, 0, 1, 2, 3, 4, 5, 6, 7, 8, 9, 10, 11, 12, 13, 14, 15, 16, 17, 18, 19, 20]] [[7], [2], [1, 4], [4], [2, 3, 5], [4, 6], [5, 7], [0, 6, 8], [7, 15], [10], [9, 12], [12], [10, 11, 13], [12, 14], [13, 15], [8, 14, 16], [15, 17, 18], [16, 20], [16, 21], [20], [17, 19], [18]]) (.seq (.drw [⟨(some 75), none, .mv (.t 5)⟩, ⟨(some 76), none, .fld 1 (.t 2)⟩, ⟨(some 77), none, .load (.t 76)⟩, ⟨(some 78), none, .mv (.t 9)⟩, ⟨(some 79), none, .idx 2 (.t 77) (.t 78)⟩, ⟨(some 80), none, .fld 1 (.t 79)⟩, ⟨(some 81), none, .load (.t 80)⟩, ⟨(some 82), none, .idx 3 (.t 75) (.t 81)⟩, ⟨(some 83), none, .loadA 3 (.t 82)⟩, ⟨(some 84), none, .fld 1 (.t 2)⟩, ⟨(some 85), none, .load (.t 84)⟩, ⟨(some 86), none, .mv (.t 9)⟩, ⟨(some 87), none, .idx 2 (.t 85) (.t 86)⟩, ⟨(some 88), none, .fld 0 (.t 87)⟩, ⟨(some 89), none, .load (.t 88)⟩, ⟨(some 90), none, .call 24 [(.t 83), (.t 89)]⟩, ⟨(some 74), none, .mv (.t 90)⟩, ⟨(some 91), none, .ext (.t 74) 0⟩, ⟨(some 92), none, .ext (.t 74) 1⟩, ⟨(some 12), none, .alloc 49 [.iv 0, .iv 0, .iv 0, .ff, .ff, .ff, .ff, .ff]⟩, ⟨none, none, .store 8 (.t 12) (.t 91)⟩, ⟨(some 13), none, .mv (.t 92)⟩] [[], [], [1], [], [2, 3], [4], [5], [0, 6], [7], [], [9], [], [10, 11], [12], [13], [8, 14], [15], [16], [16], [], [19, 17, 15, 0, 1, 2, 3, 4, 5, 6, 7, 8, 9, 10, 11, 12, 13, 14, 15, 16, 17, 19], [18, 20, 0, 1, 2, 3, 4, 5, 6, 7, 8, 9, 10, 11, 12, 13, 14, 15, 16, 17, 18, 19, 20]] [[7], [2], [1, 4], [4], [2, 3, 5], [4, 6], [5, 7], [0, 6, 8], [7, 15], [10], [9, 12], [12], [10, 11, 13], [12, 14], [13, 15], [8, 14, 16], [15, 17, 18], [16, 20], [16, 21], [20], [17, 19], [18]]) (.seq (.reg [⟨(some 93), none, .mv (.t 11)⟩, ⟨(some 94), none, .not (.t 93)⟩, ⟨(some 95), none, .mv (.t 94)⟩, ⟨(some 96), (some (95, false)), .mv (.t 13)⟩, ⟨(some 97), (some (95, false)), .not (.t 96)⟩, ⟨(some 98), none, .pick (.t 95) (.c .tt) (.t 97)⟩, ⟨(some 99), none, .mv (.t 98)⟩, ⟨(some 100), (some (99, false)), .fld 3 (.t 10)⟩, ⟨(some 101), (some (99, false)), .load (.t 100)⟩, ⟨(some 102), (some (99, false)), .fld 3 (.t 12)⟩, ⟨(some 103), (some (99, false)), .load (.t 102)⟩, ⟨(some 104), (some (99, false)), .bq false (.t 101) (.t 103)⟩, ⟨(some 105), none, .pick (.t 99) (.c .tt) (.t 104)⟩, ⟨(some 106), none, .mv (.t 105)⟩, ⟨(some 107), (some (106, false)), .fld 5 (.t 10)⟩, ⟨(some 108), (some (106, false)), .load (.t 107)⟩, ⟨(some 109), (some (106, false)), .fld 5 (.t 12)⟩, ⟨(some 110), (some (106, false)), .load (.t 109)⟩, ⟨(some 111), (some (106, false)), .bq false (.t 108) (.t 110)⟩, ⟨(some 112), none, .pick (.t 106) (.c .tt) (.t 111)⟩, ⟨(some 113), none, .mv (.t 112)⟩, ⟨(some 114), (some (113, false)), .fld 6 (.t 10)⟩, ⟨(some 115), (some (113, false)), .load (.t 114)⟩, ⟨(some 116), (some (113, false)), .fld 6 (.t 12)⟩, ⟨(some 117), (some (113, false)), .load (.t 116)⟩, ⟨(some 118), (some (113, false)), .bq false (.t 115) (.t 117)⟩, ⟨(some 119), none, .pick (.t 113) (.c .tt) (.t 118)⟩, ⟨(some 120), none, .mv (.t 119)⟩, ⟨(some 121), (some (120, false)), .fld 7 (.t 10)⟩, ⟨(some 122), (some (120, false)), .load (.t 121)⟩, ⟨(some 123), (some (120, false)), .fld 7 (.t 12)⟩, ⟨(some 124), (some (120, false)), .load (.t 123)⟩, ⟨(some 125), (some (120, false)), .bq false (.t 122) (.t 124)⟩, ⟨(some 126), none, .pick (.t 120) (.c .tt) (.t 125)⟩, ⟨(some 127), none, .mv (.t 126)⟩, ⟨(some 128), (some (127, false)), .fld 3 (.t 10)⟩, ⟨(some 129), (some (127, false)), .load (.t 128)⟩, ⟨(some 130), (some (127, false)), .fld 5 (.t 10)⟩, ⟨(some 131), (some (127, false)), .load (.t 130)⟩, ⟨(some 132), (some (127, false)), .bq false (.t 129) (.t 131)⟩, ⟨(some 133), none, .pick (.t 127) (.c .tt) (.t 132)⟩, ⟨(some 134), none, .mv (.t 133)⟩, ⟨(some 135), (some (134, false)), .fld 6 (.t 10)⟩, ⟨(some 136), (some (134, false)), .load (.t 135)⟩, ⟨(some 137), (some (134, false)), .fld 7 (.t 10)⟩, ⟨(some 138), (some (134, false)), .load (.t 137)⟩, ⟨(some 139), (some (134, false)), .bq false (.t 136) (.t 138)⟩, ⟨(some 140), none, .pick (.t 134) (.c .tt) (.t 139)⟩, ⟨(some 141), none, .mv (.t 140)⟩, ⟨(some 142), (some (141, false)), .fld 3 (.t 10)⟩, ⟨(some 143), (some (141, false)), .load (.t 142)⟩, ⟨(some 144), (some (141, false)), .fld 4 (.t 10)⟩, ⟨(some 145), (some (141, false)), .load (.t 144)⟩, ⟨(some 146), (some (141, false)), .bq true (.t 143) (.t 145)⟩, ⟨(some 147), none, .pick (.t 141) (.c .tt) (.t 146)⟩, ⟨(some 148), none, .mv (.t 147)⟩, ⟨(some 149), (some (148, false)), .fld 3 (.t 12)⟩, ⟨(some 150), (some (148, false)), .load (.t 149)⟩, ⟨(some 151), (some (148, false)), .fld 4 (.t 12)⟩, ⟨(some 152), (some (148, false)), .load (.t 151)⟩, ⟨(some 153), (some (148, false)), .bq true (.t 150) (.t 152)⟩, ⟨(some 154), none, .pick (.t 148) (.c .tt) (.t 153)⟩, ⟨(some 155), none, .mv (.t 154)⟩, ⟨(some 156), (some (155, false)), .fld 1 (.t 10)⟩, ⟨(some 157), (some (155, false)), .load (.t 156)⟩, ⟨(some 158), (some (155, false)), .bin .neq (.t 157) (.c (.iv 1))⟩, ⟨(some 159), none, .pick (.t 155) (.c .tt) (.t 158)⟩, ⟨(some 160), none, .mv (.t 159)⟩, ⟨(some 161), (some (160, false)), .fld 1 (.t 12)⟩, ⟨(some 162), (some (160, false)), .load (.t 161)⟩, ⟨(some 163), (some (160, false)), .bin .neq (.t 162) (.c (.iv 1))⟩, ⟨(some 164), none, .pick (.t 160) (.c .tt) (.t 163)⟩]) (.ite (.t 164) (.seq (.reg [⟨(some 4), none, .mv (.c .ff)⟩]) (.ret)) (.skip)))))) (.reg [⟨(some 53), none, .mv (.t 9)⟩, ⟨(some 54), none, .bin .add (.t 53) (.c (.iv 1))⟩, ⟨(some 9), none, .mv (.t 54)⟩]))
def e6 : EC := .seq (.reg [⟨(some 2), none, .box 24 2 (.t 0)⟩, ⟨(some 4), none, .mv (.c .ff)⟩]) (.seq (.seq (.reg [⟨(some 14), none, .call 13 []⟩, ⟨(some 15), none, .not (.t 14)⟩, ⟨(some 16), none, .mv (.t 15)⟩, ⟨(some 17), (some (16, false)), .fld 1 (.t 2)⟩, ⟨(some 18), (some (16, false)), .load (.t 17)⟩, ⟨(some 19), (some (16, false)), .len (.t 18)⟩, ⟨(some 20), (some (16, false)), .bin .gtr (.t 19) (.c (.iv 60))⟩, ⟨(some 21), none, .pick (.t 16) (.c .tt) (.t 20)⟩, ⟨(some 22), none, .mv (.t 21)⟩, ⟨(some 23), (some (22, false)), .mv (.t 1)⟩, ⟨(some 24), (some (22, false)), .len (.t 23)⟩, ⟨(some 25), (some (22, false)), .bin .gtr (.t 24) (.c (.iv 70))⟩, ⟨(some 26), none, .pick (.t 22) (.c .tt) (.t 25)⟩]) (.ite (.t 26) (.seq (.reg [⟨(some 27), none, .call 13 []⟩, ⟨(some 4), none, .mv (.t 27)⟩]) (.ret)) (.skip))) (.seq (.reg [⟨(some 29), none, .loadA 2 (.t 2)⟩, ⟨(some 30), none, .call 15 [(.t 29)]⟩, ⟨(some 31), none, .bsl 3 1 0 [.iv 0] []⟩, ⟨(some 32), none, .mv (.t 1)⟩, ⟨(some 33), none, .app 3 1 8 (.t 31) (.t 32)⟩, ⟨(some 34), none, .call 14 [(.t 30), (.t 33)]⟩, ⟨(some 28), none, .mv (.t 34)⟩, ⟨(some 35), none, .ext (.t 28) 0⟩, ⟨(some 36), none, .ext (.t 28) 1⟩, ⟨(some 5), none, .mv (.t 35)⟩, ⟨(some 6), none, .mv (.t 36)⟩]) (.seq (.seq (.reg [⟨(some 37), none, .mv (.t 6)⟩, ⟨(some 38), none, .bin .neq (.t 37) (.c (.iv 0))⟩]) (.ite (.t 38) (.seq (.reg [⟨(some 39), none, .mv (.t 5)⟩, ⟨(some 40), none, .len (.t 39)⟩, ⟨(some 41), none, .bin .eql (.t 40) (.c (.iv 0))⟩, ⟨(some 4), none, .mv (.t 41)⟩]) (.ret)) (.skip))) (.seq (.reg [⟨(some 43), none, .mv (.t 5)⟩, ⟨(some 44), none, .call 22 [(.t 43)]⟩, ⟨(some 45), none, .call 21 [(.t 44)]⟩, ⟨(some 42), none, .mv (.t 45)⟩, ⟨(some 46), none, .ext (.t 42) 0⟩, ⟨(some 47), none, .ext (.t 42) 1⟩, ⟨(some 7), none, .alloc 24 [.iv 0, .nl]⟩, ⟨none, none, .store 2 (.t 7) (.t 46)⟩, ⟨(some 8), none, .mv (.t 47)⟩]) (.seq (.seq (.reg [⟨(some 9), none, .mv (.c (.iv 0))⟩]) (.blk 0 (.loop e6_L0))) (.seq (.reg [⟨(some 165), none, .mv (.t 8)⟩, ⟨(some 166), none, .mv (.t 165)⟩, ⟨(some 167), (some (166, true)), .loadA 2 (.t 2)⟩, ⟨(some 168), (some (166, true)), .loadA 2 (.t 7)⟩, ⟨(some 169), (some (166, true)), .call 26 [(.t 167), (.t 168)]⟩, ⟨(some 170), none, .pick (.t 166) (.t 169) (.c .ff)⟩, ⟨(some 4), none, .mv (.t 170)⟩]) (.ret)))))))
theorem ok6 : FnOK Try.prog 6 Try.f6 e6 [.t 4] 2 169 := ⟨by kernel_rfl, ⟨_, rfl, by kernel_rfl⟩, by kernel_rfl, by kernel_rfl⟩
/- narthex/narthexlaw12.PlaceOne -/
noncomputable def m_narthexlaw12_PlaceOne_j6  : Bool → Option Bool
| x46 =>
 some x46
noncomputable def m_narthexlaw12_PlaceOne_j2 (x1 : Graph) (x10 : (Graph × Bool)) : Unit → Option Bool
| () =>
 ifb x10.2 (
 (m_narthexref03_Same x1 x10.1).bind fun x45 =>
 m_narthexlaw12_PlaceOne_j6 x45) (
 m_narthexlaw12_PlaceOne_j6 false)
noncomputable def m_narthexlaw12_PlaceOne_j5 (x25 : Int) : Bool → Option (Int ⊕ Bool)
| x38 =>
 ifb x38 (
 Option.map Sum.inr (some false)) (
 some (.inl (wr (x25 + 1))))
noncomputable def m_narthexlaw12_PlaceOne_j4 (x25 : Int) (x30 : Bool) (x31 : Side) : (Bool × Side) → Option (Int ⊕ Bool)
| (x36, x37) =>
 ifb (!x30) (
 (m_narthexlaw12_PlaceOne_j5 x25) true) (
 ifb (!x36) (
 (m_narthexlaw12_PlaceOne_j5 x25) true) (
 ifb (x31.Fork == x37.Fork) (
 (m_narthexlaw12_PlaceOne_j5 x25) true) (
 ifb (x31.Token == x37.Token) (
 (m_narthexlaw12_PlaceOne_j5 x25) true) (
 ifb (x31.Bottle == x37.Bottle) (
 (m_narthexlaw12_PlaceOne_j5 x25) true) (
 ifb (x31.Ask == x37.Ask) (
 (m_narthexlaw12_PlaceOne_j5 x25) true) (
 ifb (x31.Fork == x31.Token) (
 (m_narthexlaw12_PlaceOne_j5 x25) true) (
 ifb (x31.Bottle == x31.Ask) (
 (m_narthexlaw12_PlaceOne_j5 x25) true) (
 ifb (!(x31.Fork == x31.Dirty)) (
 (m_narthexlaw12_PlaceOne_j5 x25) true) (
 ifb (!(x37.Fork == x37.Dirty)) (
 (m_narthexlaw12_PlaceOne_j5 x25) true) (
 ifb (!decide (x31.Epoch = 1)) (
 (m_narthexlaw12_PlaceOne_j5 x25) true) (
 (m_narthexlaw12_PlaceOne_j5 x25) (!decide (x37.Epoch = 1)))))))))))))
noncomputable def m_narthexlaw12_PlaceOne_j3 (x1 : Graph) (x8 : ((List Diner) × Int)) (x25 : Int) : (Bool × Side) → Option (Int ⊕ Bool)
| (x30, x31) =>
 (at_ x1.Edges x25).bind fun x32 =>
 (at_ x8.1 x32.B).bind fun x33 =>
 (at_ x1.Edges x25).bind fun x34 =>
 (m_place_Side x33 x34.A).bind fun x35 =>
 (m_narthexlaw12_PlaceOne_j4 x25 x30 x31) (x35.2, x35.1)
noncomputable def m_narthexlaw12_PlaceOne_l1 (x1 : Graph) (x8 : ((List Diner) × Int)) (x10 : (Graph × Bool)) : Int → Option (Int ⊕ Bool)
| x25 =>
 ifb (decide (x25 < (ln Edge.row x1.Edges))) (
 (at_ x1.Edges x25).bind fun x26 =>
 (at_ x8.1 x26.A).bind fun x27 =>
 (at_ x1.Edges x25).bind fun x28 =>
 (m_place_Side x27 x28.B).bind fun x29 =>
 (m_narthexlaw12_PlaceOne_j3 x1 x8 x25) (x29.2, x29.1)) (
 Option.map Sum.inr ((m_narthexlaw12_PlaceOne_j2 x1 x10) ()))
noncomputable def m_narthexlaw12_PlaceOne_j1 (x1 : Graph) (x2 : (List Int)) : Bool → Option Bool
| x4 =>
 ifb x4 (
 (m_narthexlaw12_awake).bind fun x5 =>
 some x5) (
 (m_narthexlaw03_Own x1).bind fun x6 =>
 (app_ 8 (([] : List Int)) x2).bind fun x7 =>
 (m_place_Table x6 x7).bind fun x8 =>
 ifb (!decide (x8.2 = 0)) (
 some (decide ((ln Diner.row x8.1) = 0))) (
 (m_narthexlaw12_Own x8.1).bind fun x9 =>
 (m_place_Graph x9).bind fun x10 =>
 loop (m_narthexlaw12_PlaceOne_l1 x1 x8 x10) 0))
noncomputable def m_narthexlaw12_PlaceOne (x1 : Graph) (x2 : (List Int)) : Option Bool :=
 (m_narthexlaw12_awake).bind fun x3 =>
 ifb (!x3) (
 (m_narthexlaw12_PlaceOne_j1 x1 x2) true) (
 ifb (decide (60 < (ln Edge.row x1.Edges))) (
 (m_narthexlaw12_PlaceOne_j1 x1 x2) true) (
 (m_narthexlaw12_PlaceOne_j1 x1 x2) (decide (70 < (ln intRow x2)))))
theorem k_narthexlaw12_PlaceOne (x1 : Graph) (x2 : (List Int)) (r : Bool) (h : m_narthexlaw12_PlaceOne x1 x2 = some r) : FunP Try.prog 6 [.agg (Graph.row x1), .sl 1 (List.map intRow x2)] (.bv r) := by
  refine FunP_intro ok6 rfl rfl fun w0 H0 => ?_
  rw [m_narthexlaw12_PlaceOne] at h
  refine V_go 8 ?_; dsimp only [e6, e6_L0, go_sem, Nat.reduceBEq, Nat.reduceAdd]; refine ⟨by simp, ?_⟩; obtain ⟨x3, ex3, h⟩ := Option.bind_eq_some_iff.1 h; refine V_call trivial (k_narthexlaw12_awake _ ex3) (h := ?_); refine V_go 2 ?_; dsimp only [e6, e6_L0, go_sem, Nat.reduceBEq, Nat.reduceAdd]; refine ⟨by simp, ?_⟩; refine V_join (fun (x4 : Bool) => (⟨(.any :: .sl 1 (List.map intRow x2) :: .ptr 0 0 :: an 23 (.bv x4 :: an 144 [])), [some ⟨24, [.iv x1.N, .sl 2 (List.map Edge.row x1.Edges)]⟩], []⟩ : St)) (m_narthexlaw12_PlaceOne_j1 x1 x2) r ?_ fun J1 => ?_
  ·intro x4 h; rw [m_narthexlaw12_PlaceOne_j1] at h; (try dsimp only); refine M_ite h rfl (fun _ h => ?_) fun _ h => ?_
   ·refine V_go 2 ?_; dsimp only [e6, e6_L0, go_sem, Nat.reduceBEq, Nat.reduceAdd]; refine ⟨by simp, ?_⟩; obtain ⟨x5, ex5, h⟩ := Option.bind_eq_some_iff.1 h; refine V_call trivial (k_narthexlaw12_awake _ ex5) (h := ?_); refine V_go 2 ?_; dsimp only [e6, e6_L0, go_sem, Nat.reduceBEq, Nat.reduceAdd]; refine ⟨by simp, ?_⟩; exact M_done (res := fun (r : Bool) => .bv r) ok6 h
   ·refine V_go 4 ?_; dsimp only [e6, e6_L0, go_sem, Nat.reduceBEq, Nat.reduceAdd]; refine ⟨by simp, ?_⟩; obtain ⟨x6, ex6, h⟩ := Option.bind_eq_some_iff.1 h; refine V_call trivial (k_narthexlaw03_Own x1 _ ex6) (h := ?_); refine V_go 2 ?_; dsimp only [e6, e6_L0, go_sem, Nat.reduceBEq, Nat.reduceAdd]; refine ⟨by simp, ?_⟩; obtain ⟨x7, ex7, h⟩ := Option.bind_eq_some_iff.1 h; refine V_appM intRow ex7 trivial rfl rfl rfl ?_; refine V_seal 1 rfl ?_; dsimp only [go_sem, Nat.reduceBEq, Nat.reduceAdd]; obtain ⟨x8, ex8, h⟩ := Option.bind_eq_some_iff.1 h
    refine V_call trivial (k_place_Table x6 x7 _ ex8) (h := ?_); refine V_go 12 ?_; dsimp only [e6, e6_L0, go_sem, Nat.reduceBEq, Nat.reduceAdd]; refine ⟨by simp, ?_⟩; refine M_ite h rfl (fun _ h => ?_) fun _ h => ?_
    ·refine V_go 7 ?_; dsimp only [e6, e6_L0, go_sem, Nat.reduceBEq, Nat.reduceAdd]; refine ⟨by simp, ?_⟩; exact M_done (res := fun (r : Bool) => .bv r) ok6 h
    ·refine V_go 4 ?_; dsimp only [e6, e6_L0, go_sem, Nat.reduceBEq, Nat.reduceAdd]; refine ⟨by simp, ?_⟩; obtain ⟨x9, ex9, h⟩ := Option.bind_eq_some_iff.1 h; refine V_call trivial (k_narthexlaw12_Own x8.1 _ ex9) (h := ?_); obtain ⟨x10, ex10, h⟩ := Option.bind_eq_some_iff.1 h; refine V_call trivial (k_place_Graph x9 _ ex10) (h := ?_); refine V_go 12 ?_; dsimp only [e6, e6_L0, go_sem, Nat.reduceBEq, Nat.reduceAdd]; refine ⟨by simp, ?_⟩
     refine V_join (fun (_ : Unit) => (⟨(.any :: .any :: .ptr 0 0 :: an 4 (.ptr 1 0 :: .bv x10.2 :: an 162 [])), [some ⟨24, [.iv x1.N, .sl 2 (List.map Edge.row x1.Edges)]⟩, some ⟨24, [.iv x10.1.N, .sl 2 (List.map Edge.row x10.1.Edges)]⟩], []⟩ : St)) (m_narthexlaw12_PlaceOne_j2 x1 x10) r ?_ fun J2 => ?_
     ·rintro ⟨⟩ h; rw [m_narthexlaw12_PlaceOne_j2] at h; (try dsimp only); refine V_go 4 ?_; dsimp only [e6, e6_L0, go_sem, Nat.reduceBEq, Nat.reduceAdd]; refine ⟨by simp, ?_⟩; refine V_join (fun (x46 : Bool) => (⟨(an 4 (.bv x46 :: an 166 [])), [], []⟩ : St)) m_narthexlaw12_PlaceOne_j6 r ?_ fun J6 => ?_
      ·intro x46 h; rw [m_narthexlaw12_PlaceOne_j6] at h; (try dsimp only); exact M_done (res := fun (r : Bool) => .bv r) ok6 h
      ·refine M_case 166 h rfl (fun _ h => ?_) fun _ h => ?_
       ·dsimp only [go_sem, Nat.reduceBEq, Nat.reduceAdd]; refine V_go 2 ?_; dsimp only [e6, e6_L0, go_sem, Nat.reduceBEq, Nat.reduceAdd]; refine ⟨by simp, ?_⟩; obtain ⟨x45, ex45, h⟩ := Option.bind_eq_some_iff.1 h; refine V_call trivial (k_narthexref03_Same x1 x10.1 _ ex45) (h := ?_); refine V_go 3 ?_; dsimp only [e6, e6_L0, go_sem, Nat.reduceBEq, Nat.reduceAdd]; refine ⟨by simp, ?_⟩; exact M_to J6 (s := x45) h
       ·dsimp only [go_sem, Nat.reduceBEq, Nat.reduceAdd]; refine V_go 6 ?_; dsimp only [e6, e6_L0, go_sem, Nat.reduceBEq, Nat.reduceAdd]; refine ⟨by simp, ?_⟩; exact M_to J6 (s := false) h
     ·refine V_go 1 ?_; dsimp only [e6, e6_L0, go_sem, Nat.reduceBEq, Nat.reduceAdd]; refine ⟨by simp, ?_⟩; refine M_loop h (fun (x25 : Int) => (⟨(.any :: .any :: .ptr 0 0 :: .any :: .any :: .sl 3 (List.map Diner.row x8.1) :: .any :: .ptr 1 0 :: .bv x10.2 :: .iv x25 :: an 161 []), [some ⟨24, [.iv x1.N, .sl 2 (List.map Edge.row x1.Edges)]⟩, some ⟨24, [.iv x10.1.N, .sl 2 (List.map Edge.row x10.1.Edges)]⟩], []⟩ : St)) (by simp [go_sem]) (by intro x25; first | rfl | simp [go_sem]) ?_; rintro n1 x25 y1 h hin1 hout1; rw [m_narthexlaw12_PlaceOne_l1] at h; (try dsimp only); refine V_go 9 ?_
      dsimp only [e6, e6_L0, go_sem, Nat.reduceBEq, Nat.reduceAdd]; refine ⟨by simp, ?_⟩; refine M_ite h rfl (fun _ h => ?_) fun _ h => ?_
      ·refine V_go 4 ?_; dsimp only [e6, e6_L0, go_sem, Nat.reduceBEq, Nat.reduceAdd]; refine ⟨by simp, ?_⟩
       refine V_join (fun ((x30, x31) : (Bool × Side)) => (⟨(.any :: .any :: .ptr 0 0 :: .any :: .any :: .sl 3 (List.map Diner.row x8.1) :: .any :: .ptr 1 0 :: .bv x10.2 :: .iv x25 :: .ptr 2 0 :: .bv x30 :: an 159 []), [some ⟨24, [.iv x1.N, .sl 2 (List.map Edge.row x1.Edges)]⟩, some ⟨24, [.iv x10.1.N, .sl 2 (List.map Edge.row x10.1.Edges)]⟩, some ⟨49, [.iv x31.Peer, .iv x31.Epoch, .iv x31.State, .bv x31.Fork, .bv x31.Dirty, .bv x31.Token, .bv x31.Bottle, .bv x31.Ask]⟩], []⟩ : St)) (m_narthexlaw12_PlaceOne_j3 x1 x8 x25) y1 ?_ fun J3 => ?_
       ·rintro ⟨x30, x31⟩ h; rw [m_narthexlaw12_PlaceOne_j3] at h; (try dsimp only); refine V_go 1 ?_; dsimp only [e6, e6_L0, go_sem, Nat.reduceBEq, Nat.reduceAdd]; refine ⟨by simp, ?_⟩
        refine V_join (fun ((x36, x37) : (Bool × Side)) => (⟨(.any :: .any :: .ptr 0 0 :: .any :: .any :: .sl 3 (List.map Diner.row x8.1) :: .any :: .ptr 1 0 :: .bv x10.2 :: .iv x25 :: .ptr 2 0 :: .bv x30 :: .ptr 3 0 :: .bv x36 :: an 157 []), [some ⟨24, [.iv x1.N, .sl 2 (List.map Edge.row x1.Edges)]⟩, some ⟨24, [.iv x10.1.N, .sl 2 (List.map Edge.row x10.1.Edges)]⟩, some ⟨49, [.iv x31.Peer, .iv x31.Epoch, .iv x31.State, .bv x31.Fork, .bv x31.Dirty, .bv x31.Token, .bv x31.Bottle, .bv x31.Ask]⟩, some ⟨49, [.iv x37.Peer, .iv x37.Epoch, .iv x37.State, .bv x37.Fork, .bv x37.Dirty, .bv x37.Token, .bv x37.Bottle, .bv x37.Ask]⟩], []⟩ : St)) (m_narthexlaw12_PlaceOne_j4 x25 x30 x31) y1 ?_ fun J4 => ?_
        ·rintro ⟨x36, x37⟩ h; rw [m_narthexlaw12_PlaceOne_j4] at h; (try dsimp only); refine V_go 5 ?_; dsimp only [e6, e6_L0, go_sem, Nat.reduceBEq, Nat.reduceAdd]; refine ⟨by simp, ?_⟩; refine V_join (fun (x38 : Bool) => (⟨(.any :: .any :: .ptr 0 0 :: .any :: .any :: .sl 3 (List.map Diner.row x8.1) :: .any :: .ptr 1 0 :: .bv x10.2 :: .iv x25 :: an 154 (.bv x38 :: an 6 [])), [some ⟨24, [.iv x1.N, .sl 2 (List.map Edge.row x1.Edges)]⟩, some ⟨24, [.iv x10.1.N, .sl 2 (List.map Edge.row x10.1.Edges)]⟩], []⟩ : St)) (m_narthexlaw12_PlaceOne_j5 x25) y1 ?_ fun J5 => ?_
         ·intro x38 h; rw [m_narthexlaw12_PlaceOne_j5] at h; (try dsimp only); refine M_ite h rfl (fun _ h => ?_) fun _ h => ?_
          ·refine V_go 4 ?_; dsimp only [e6, e6_L0, go_sem, Nat.reduceBEq, Nat.reduceAdd]; refine ⟨by simp, ?_⟩; exact M_done (res := fun (r : Bool) => .bv r) ok6 (M_out h hout1)
          ·refine V_go 7 ?_; dsimp only [e6, e6_L0, go_sem, Nat.reduceBEq, Nat.reduceAdd]; refine ⟨by simp, ?_⟩; exact M_back h hin1
         ·refine M_case 95 h rfl (fun _ h => ?_) fun _ h => ?_
          ·dsimp only [go_sem, Nat.reduceBEq, Nat.reduceAdd]; refine V_go 70 ?_; dsimp only [e6, e6_L0, go_sem, Nat.reduceBEq, Nat.reduceAdd]; refine ⟨by simp, ?_⟩; exact M_to J5 (s := true) h
          ·dsimp only [go_sem, Nat.reduceBEq, Nat.reduceAdd]; refine V_go 4 ?_; dsimp only [e6, e6_L0, go_sem, Nat.reduceBEq, Nat.reduceAdd]; refine ⟨by simp, ?_⟩; refine M_case 99 h rfl (fun _ h => ?_) fun _ h => ?_
           ·dsimp only [go_sem, Nat.reduceBEq, Nat.reduceAdd]; refine V_go 66 ?_; dsimp only [e6, e6_L0, go_sem, Nat.reduceBEq, Nat.reduceAdd]; refine ⟨by simp, ?_⟩; exact M_to J5 (s := true) h
           ·dsimp only [go_sem, Nat.reduceBEq, Nat.reduceAdd]; refine V_go 7 ?_; dsimp only [e6, e6_L0, go_sem, Nat.reduceBEq, Nat.reduceAdd]; refine ⟨by simp, ?_⟩; refine M_case 106 h rfl (fun _ h => ?_) fun _ h => ?_
            ·dsimp only [go_sem, Nat.reduceBEq, Nat.reduceAdd]; refine V_go 59 ?_; dsimp only [e6, e6_L0, go_sem, Nat.reduceBEq, Nat.reduceAdd]; refine ⟨by simp, ?_⟩; exact M_to J5 (s := true) h
            ·dsimp only [go_sem, Nat.reduceBEq, Nat.reduceAdd]; refine V_go 7 ?_; dsimp only [e6, e6_L0, go_sem, Nat.reduceBEq, Nat.reduceAdd]; refine ⟨by simp, ?_⟩; refine M_case 113 h rfl (fun _ h => ?_) fun _ h => ?_
             ·dsimp only [go_sem, Nat.reduceBEq, Nat.reduceAdd]; refine V_go 52 ?_; dsimp only [e6, e6_L0, go_sem, Nat.reduceBEq, Nat.reduceAdd]; refine ⟨by simp, ?_⟩; exact M_to J5 (s := true) h
             ·dsimp only [go_sem, Nat.reduceBEq, Nat.reduceAdd]; refine V_go 7 ?_; dsimp only [e6, e6_L0, go_sem, Nat.reduceBEq, Nat.reduceAdd]; refine ⟨by simp, ?_⟩; refine M_case 120 h rfl (fun _ h => ?_) fun _ h => ?_
              ·dsimp only [go_sem, Nat.reduceBEq, Nat.reduceAdd]; refine V_go 45 ?_; dsimp only [e6, e6_L0, go_sem, Nat.reduceBEq, Nat.reduceAdd]; refine ⟨by simp, ?_⟩; exact M_to J5 (s := true) h
              ·dsimp only [go_sem, Nat.reduceBEq, Nat.reduceAdd]; refine V_go 7 ?_; dsimp only [e6, e6_L0, go_sem, Nat.reduceBEq, Nat.reduceAdd]; refine ⟨by simp, ?_⟩; refine M_case 127 h rfl (fun _ h => ?_) fun _ h => ?_
               ·dsimp only [go_sem, Nat.reduceBEq, Nat.reduceAdd]; refine V_go 38 ?_; dsimp only [e6, e6_L0, go_sem, Nat.reduceBEq, Nat.reduceAdd]; refine ⟨by simp, ?_⟩; exact M_to J5 (s := true) h
               ·dsimp only [go_sem, Nat.reduceBEq, Nat.reduceAdd]; refine V_go 7 ?_; dsimp only [e6, e6_L0, go_sem, Nat.reduceBEq, Nat.reduceAdd]; refine ⟨by simp, ?_⟩; refine M_case 134 h rfl (fun _ h => ?_) fun _ h => ?_
                ·dsimp only [go_sem, Nat.reduceBEq, Nat.reduceAdd]; refine V_go 31 ?_; dsimp only [e6, e6_L0, go_sem, Nat.reduceBEq, Nat.reduceAdd]; refine ⟨by simp, ?_⟩; exact M_to J5 (s := true) h
                ·dsimp only [go_sem, Nat.reduceBEq, Nat.reduceAdd]; refine V_go 7 ?_; dsimp only [e6, e6_L0, go_sem, Nat.reduceBEq, Nat.reduceAdd]; refine ⟨by simp, ?_⟩; refine M_case 141 h rfl (fun _ h => ?_) fun _ h => ?_
                 ·dsimp only [go_sem, Nat.reduceBEq, Nat.reduceAdd]; refine V_go 24 ?_; dsimp only [e6, e6_L0, go_sem, Nat.reduceBEq, Nat.reduceAdd]; refine ⟨by simp, ?_⟩; exact M_to J5 (s := true) h
                 ·dsimp only [go_sem, Nat.reduceBEq, Nat.reduceAdd]; refine V_go 7 ?_; dsimp only [e6, e6_L0, go_sem, Nat.reduceBEq, Nat.reduceAdd]; refine ⟨by simp, ?_⟩; refine M_case 148 h rfl (fun _ h => ?_) fun _ h => ?_
                  ·dsimp only [go_sem, Nat.reduceBEq, Nat.reduceAdd]; refine V_go 17 ?_; dsimp only [e6, e6_L0, go_sem, Nat.reduceBEq, Nat.reduceAdd]; refine ⟨by simp, ?_⟩; exact M_to J5 (s := true) h
                  ·dsimp only [go_sem, Nat.reduceBEq, Nat.reduceAdd]; refine V_go 7 ?_; dsimp only [e6, e6_L0, go_sem, Nat.reduceBEq, Nat.reduceAdd]; refine ⟨by simp, ?_⟩; refine M_case 155 h rfl (fun _ h => ?_) fun _ h => ?_
                   ·dsimp only [go_sem, Nat.reduceBEq, Nat.reduceAdd]; refine V_go 10 ?_; dsimp only [e6, e6_L0, go_sem, Nat.reduceBEq, Nat.reduceAdd]; refine ⟨by simp, ?_⟩; exact M_to J5 (s := true) h
                   ·dsimp only [go_sem, Nat.reduceBEq, Nat.reduceAdd]; refine V_go 5 ?_; dsimp only [e6, e6_L0, go_sem, Nat.reduceBEq, Nat.reduceAdd]; refine ⟨by simp, ?_⟩; refine M_case 160 h rfl (fun _ h => ?_) fun _ h => ?_
                    ·dsimp only [go_sem, Nat.reduceBEq, Nat.reduceAdd]; refine V_go 5 ?_; dsimp only [e6, e6_L0, go_sem, Nat.reduceBEq, Nat.reduceAdd]; refine ⟨by simp, ?_⟩; exact M_to J5 (s := true) h
                    ·dsimp only [go_sem, Nat.reduceBEq, Nat.reduceAdd]; refine V_go 5 ?_; dsimp only [e6, e6_L0, go_sem, Nat.reduceBEq, Nat.reduceAdd]; refine ⟨by simp, ?_⟩; exact M_to J5 (s := !decide (x37.Epoch = 1)) h
        ·refine V_drw (by kernel_rfl) fun all hall hs hnap haf => ?_; dsimp only [go_sem, Nat.reduceBEq, Nat.reduceAdd]
         refine G_goE hall hs haf hnap 7 15 [true, true, true, true, false, false, false, false, false, true, true, true, false, false, false, false, false, false, false, false, false, false] (⟨(.any :: .any :: .ptr 0 0 :: .any :: .any :: .sl 3 (List.map Diner.row x8.1) :: .any :: .ptr 1 0 :: .bv x10.2 :: .iv x25 :: .ptr 2 0 :: .bv x30 :: an 63 (.sl 3 (List.map Diner.row x8.1) :: .ptr 0 1 :: .sl 2 (List.map Edge.row x1.Edges) :: .iv x25 :: an 5 (.ptr 0 1 :: .sl 2 (List.map Edge.row x1.Edges) :: .iv x25 :: an 84 []))), [some ⟨24, [.iv x1.N, .sl 2 (List.map Edge.row x1.Edges)]⟩, some ⟨24, [.iv x10.1.N, .sl 2 (List.map Edge.row x10.1.Edges)]⟩, some ⟨49, [.iv x31.Peer, .iv x31.Epoch, .iv x31.State, .bv x31.Fork, .bv x31.Dirty, .bv x31.Token, .bv x31.Bottle, .bv x31.Ask]⟩], []⟩ : St) (by kernel_rfl) ?_
         obtain ⟨x32, ex32, h⟩ := Option.bind_eq_some_iff.1 h; refine G_idxM hall hs haf hnap 4 Edge.row ex32 rfl rfl trivial rfl rfl rfl rfl ?_; refine G_goN hall hs haf hnap 2 12 ?_; dsimp only [go_sem, Nat.reduceBEq, Nat.reduceAdd]; refine ⟨by simp, ?_⟩; obtain ⟨x33, ex33, h⟩ := Option.bind_eq_some_iff.1 h; refine G_idxM hall hs haf hnap 7 Diner.row ex33 rfl rfl trivial rfl rfl rfl rfl ?_; refine G_goN hall hs haf hnap 1 10 ?_; dsimp only [go_sem, Nat.reduceBEq, Nat.reduceAdd]; refine ⟨by simp, ?_⟩; obtain ⟨x34, ex34, h⟩ := Option.bind_eq_some_iff.1 h
         refine G_idxM hall hs haf hnap 12 Edge.row ex34 rfl rfl trivial rfl rfl rfl rfl ?_; refine G_goN hall hs haf hnap 2 7 ?_; dsimp only [go_sem, Nat.reduceBEq, Nat.reduceAdd]; refine ⟨by simp, ?_⟩; refine G_two 15 19 rfl ?_ ?_
         ·obtain ⟨x35, ex35, h⟩ := Option.bind_eq_some_iff.1 h; refine GO_call hall rfl trivial (k_place_Side x33 x34.A _ ex35) (h := ?_); dsimp only [go_sem, Nat.reduceBEq, Nat.reduceAdd]
          refine G_goE hall hs haf hnap 3 3 [true, true, true, true, true, true, true, true, true, true, true, true, true, true, true, true, true, true, true, false, false, false] (⟨(.any :: .any :: .ptr 0 0 :: .any :: .any :: .sl 3 (List.map Diner.row x8.1) :: .any :: .ptr 1 0 :: .bv x10.2 :: .iv x25 :: .ptr 2 0 :: .bv x30 :: an 62 (.tup [.agg [.iv x35.1.Peer, .iv x35.1.Epoch, .iv x35.1.State, .bv x35.1.Fork, .bv x35.1.Dirty, .bv x35.1.Token, .bv x35.1.Bottle, .bv x35.1.Ask], .bv x35.2] :: .sl 3 (List.map Diner.row x8.1) :: .ptr 0 1 :: .sl 2 (List.map Edge.row x1.Edges) :: .iv x25 :: .elt [.iv x32.A, .iv x32.B] 0 :: .elt [.iv x32.A, .iv x32.B] 1 :: .iv x32.B :: .elt [.iv x33.ID, .iv x33.Phase, .sl 8 (List.map Side.row x33.Sides)] 0 :: .agg [.iv x33.ID, .iv x33.Phase, .sl 8 (List.map Side.row x33.Sides)] :: .ptr 0 1 :: .sl 2 (List.map Edge.row x1.Edges) :: .iv x25 :: .elt [.iv x34.A, .iv x34.B] 0 :: .elt [.iv x34.A, .iv x34.B] 0 :: .iv x34.A :: .tup [.agg [.iv x35.1.Peer, .iv x35.1.Epoch, .iv x35.1.State, .bv x35.1.Fork, .bv x35.1.Dirty, .bv x35.1.Token, .bv x35.1.Bottle, .bv x35.1.Ask], .bv x35.2] :: .agg [.iv x35.1.Peer, .iv x35.1.Epoch, .iv x35.1.State, .bv x35.1.Fork, .bv x35.1.Dirty, .bv x35.1.Token, .bv x35.1.Bottle, .bv x35.1.Ask] :: .bv x35.2 :: an 78 [])), [some ⟨24, [.iv x1.N, .sl 2 (List.map Edge.row x1.Edges)]⟩, some ⟨24, [.iv x10.1.N, .sl 2 (List.map Edge.row x10.1.Edges)]⟩, some ⟨49, [.iv x31.Peer, .iv x31.Epoch, .iv x31.State, .bv x31.Fork, .bv x31.Dirty, .bv x31.Token, .bv x31.Bottle, .bv x31.Ask]⟩], []⟩ : St) (by kernel_rfl) ?_
          refine G_one 19 rfl ?_; refine GO_ev hall rfl trivial ?_; dsimp only [go_sem, Nat.reduceBEq, Nat.reduceAdd]; refine G_one 20 rfl ?_; refine GO_ev hall rfl trivial ?_; dsimp only [go_sem, Nat.reduceBEq, Nat.reduceAdd]; refine G_goN hall hs haf hnap 1 0 ?_; dsimp only [go_sem, Nat.reduceBEq, Nat.reduceAdd]; refine ⟨by simp, ?_⟩; refine G_done rfl ?_ _; exact M_to J4 (s := (x35.2, x35.1)) h
         ·refine GO_ev hall rfl trivial ?_; dsimp only [go_sem, Nat.reduceBEq, Nat.reduceAdd]; refine G_one 15 rfl ?_; obtain ⟨x35, ex35, h⟩ := Option.bind_eq_some_iff.1 h; refine GO_call hall rfl trivial (k_place_Side x33 x34.A _ ex35) (h := ?_); dsimp only [go_sem, Nat.reduceBEq, Nat.reduceAdd]
          refine G_goE hall hs haf hnap 3 2 [true, true, true, true, true, true, true, true, true, true, true, true, true, true, true, true, true, true, true, true, false, false] (⟨(.any :: .any :: .ptr 0 0 :: .any :: .any :: .sl 3 (List.map Diner.row x8.1) :: .any :: .ptr 1 0 :: .bv x10.2 :: .iv x25 :: .ptr 2 0 :: .bv x30 :: .ptr 3 0 :: an 61 (.tup [.agg [.iv x35.1.Peer, .iv x35.1.Epoch, .iv x35.1.State, .bv x35.1.Fork, .bv x35.1.Dirty, .bv x35.1.Token, .bv x35.1.Bottle, .bv x35.1.Ask], .bv x35.2] :: .sl 3 (List.map Diner.row x8.1) :: .ptr 0 1 :: .sl 2 (List.map Edge.row x1.Edges) :: .iv x25 :: .elt [.iv x32.A, .iv x32.B] 0 :: .elt [.iv x32.A, .iv x32.B] 1 :: .iv x32.B :: .elt [.iv x33.ID, .iv x33.Phase, .sl 8 (List.map Side.row x33.Sides)] 0 :: .agg [.iv x33.ID, .iv x33.Phase, .sl 8 (List.map Side.row x33.Sides)] :: .ptr 0 1 :: .sl 2 (List.map Edge.row x1.Edges) :: .iv x25 :: .elt [.iv x34.A, .iv x34.B] 0 :: .elt [.iv x34.A, .iv x34.B] 0 :: .iv x34.A :: .tup [.agg [.iv x35.1.Peer, .iv x35.1.Epoch, .iv x35.1.State, .bv x35.1.Fork, .bv x35.1.Dirty, .bv x35.1.Token, .bv x35.1.Bottle, .bv x35.1.Ask], .bv x35.2] :: .agg [.iv x35.1.Peer, .iv x35.1.Epoch, .iv x35.1.State, .bv x35.1.Fork, .bv x35.1.Dirty, .bv x35.1.Token, .bv x35.1.Bottle, .bv x35.1.Ask] :: .bv x35.2 :: an 78 [])), [some ⟨24, [.iv x1.N, .sl 2 (List.map Edge.row x1.Edges)]⟩, some ⟨24, [.iv x10.1.N, .sl 2 (List.map Edge.row x10.1.Edges)]⟩, some ⟨49, [.iv x31.Peer, .iv x31.Epoch, .iv x31.State, .bv x31.Fork, .bv x31.Dirty, .bv x31.Token, .bv x31.Bottle, .bv x31.Ask]⟩, some ⟨49, [.iv 0, .iv 0, .iv 0, .ff, .ff, .ff, .ff, .ff]⟩], []⟩ : St) (by kernel_rfl) ?_
          refine G_one 20 rfl ?_; refine GO_ev hall rfl trivial ?_; dsimp only [go_sem, Nat.reduceBEq, Nat.reduceAdd]; refine G_goN hall hs haf hnap 1 0 ?_; dsimp only [go_sem, Nat.reduceBEq, Nat.reduceAdd]; refine ⟨by simp, ?_⟩; refine G_done rfl ?_ _; exact M_to J4 (s := (x35.2, x35.1)) h
       ·refine V_drw (by kernel_rfl) fun all hall hs hnap haf => ?_; dsimp only [go_sem, Nat.reduceBEq, Nat.reduceAdd]
        refine G_goE hall hs haf hnap 7 15 [true, true, true, true, false, false, false, false, false, true, true, true, false, false, false, false, false, false, false, false, false, false] (⟨(.any :: .any :: .ptr 0 0 :: .any :: .any :: .sl 3 (List.map Diner.row x8.1) :: .any :: .ptr 1 0 :: .bv x10.2 :: .iv x25 :: an 38 (.iv x25 :: .ptr 0 1 :: .sl 2 (List.map Edge.row x1.Edges) :: .iv (ln Edge.row x1.Edges) :: .bv (decide (x25 < (ln Edge.row x1.Edges))) :: an 3 (.sl 3 (List.map Diner.row x8.1) :: .ptr 0 1 :: .sl 2 (List.map Edge.row x1.Edges) :: .iv x25 :: an 5 (.ptr 0 1 :: .sl 2 (List.map Edge.row x1.Edges) :: .iv x25 :: an 103 [])))), [some ⟨24, [.iv x1.N, .sl 2 (List.map Edge.row x1.Edges)]⟩, some ⟨24, [.iv x10.1.N, .sl 2 (List.map Edge.row x10.1.Edges)]⟩], []⟩ : St) (by kernel_rfl) ?_
        obtain ⟨x26, ex26, h⟩ := Option.bind_eq_some_iff.1 h; refine G_idxM hall hs haf hnap 4 Edge.row ex26 rfl rfl trivial rfl rfl rfl rfl ?_; refine G_goN hall hs haf hnap 2 12 ?_; dsimp only [go_sem, Nat.reduceBEq, Nat.reduceAdd]; refine ⟨by simp, ?_⟩; obtain ⟨x27, ex27, h⟩ := Option.bind_eq_some_iff.1 h; refine G_idxM hall hs haf hnap 7 Diner.row ex27 rfl rfl trivial rfl rfl rfl rfl ?_; refine G_goN hall hs haf hnap 1 10 ?_; dsimp only [go_sem, Nat.reduceBEq, Nat.reduceAdd]; refine ⟨by simp, ?_⟩; obtain ⟨x28, ex28, h⟩ := Option.bind_eq_some_iff.1 h
        refine G_idxM hall hs haf hnap 12 Edge.row ex28 rfl rfl trivial rfl rfl rfl rfl ?_; refine G_goN hall hs haf hnap 2 7 ?_; dsimp only [go_sem, Nat.reduceBEq, Nat.reduceAdd]; refine ⟨by simp, ?_⟩; refine G_two 15 19 rfl ?_ ?_
        ·obtain ⟨x29, ex29, h⟩ := Option.bind_eq_some_iff.1 h; refine GO_call hall rfl trivial (k_place_Side x27 x28.B _ ex29) (h := ?_); dsimp only [go_sem, Nat.reduceBEq, Nat.reduceAdd]
         refine G_goE hall hs haf hnap 3 3 [true, true, true, true, true, true, true, true, true, true, true, true, true, true, true, true, true, true, true, false, false, false] (⟨(.any :: .any :: .ptr 0 0 :: .any :: .any :: .sl 3 (List.map Diner.row x8.1) :: .any :: .ptr 1 0 :: .bv x10.2 :: .iv x25 :: an 38 (.iv x25 :: .ptr 0 1 :: .sl 2 (List.map Edge.row x1.Edges) :: .iv (ln Edge.row x1.Edges) :: .bv (decide (x25 < (ln Edge.row x1.Edges))) :: .any :: .any :: .tup [.agg [.iv x29.1.Peer, .iv x29.1.Epoch, .iv x29.1.State, .bv x29.1.Fork, .bv x29.1.Dirty, .bv x29.1.Token, .bv x29.1.Bottle, .bv x29.1.Ask], .bv x29.2] :: .sl 3 (List.map Diner.row x8.1) :: .ptr 0 1 :: .sl 2 (List.map Edge.row x1.Edges) :: .iv x25 :: .elt [.iv x26.A, .iv x26.B] 0 :: .elt [.iv x26.A, .iv x26.B] 0 :: .iv x26.A :: .elt [.iv x27.ID, .iv x27.Phase, .sl 8 (List.map Side.row x27.Sides)] 0 :: .agg [.iv x27.ID, .iv x27.Phase, .sl 8 (List.map Side.row x27.Sides)] :: .ptr 0 1 :: .sl 2 (List.map Edge.row x1.Edges) :: .iv x25 :: .elt [.iv x28.A, .iv x28.B] 0 :: .elt [.iv x28.A, .iv x28.B] 1 :: .iv x28.B :: .tup [.agg [.iv x29.1.Peer, .iv x29.1.Epoch, .iv x29.1.State, .bv x29.1.Fork, .bv x29.1.Dirty, .bv x29.1.Token, .bv x29.1.Bottle, .bv x29.1.Ask], .bv x29.2] :: .agg [.iv x29.1.Peer, .iv x29.1.Epoch, .iv x29.1.State, .bv x29.1.Fork, .bv x29.1.Dirty, .bv x29.1.Token, .bv x29.1.Bottle, .bv x29.1.Ask] :: .bv x29.2 :: an 97 [])), [some ⟨24, [.iv x1.N, .sl 2 (List.map Edge.row x1.Edges)]⟩, some ⟨24, [.iv x10.1.N, .sl 2 (List.map Edge.row x10.1.Edges)]⟩], []⟩ : St) (by kernel_rfl) ?_
         refine G_one 19 rfl ?_; refine GO_ev hall rfl trivial ?_; dsimp only [go_sem, Nat.reduceBEq, Nat.reduceAdd]; refine G_one 20 rfl ?_; refine GO_ev hall rfl trivial ?_; dsimp only [go_sem, Nat.reduceBEq, Nat.reduceAdd]; refine G_goN hall hs haf hnap 1 0 ?_; dsimp only [go_sem, Nat.reduceBEq, Nat.reduceAdd]; refine ⟨by simp, ?_⟩; refine G_done rfl ?_ _; exact M_to J3 (s := (x29.2, x29.1)) h
        ·refine GO_ev hall rfl trivial ?_; dsimp only [go_sem, Nat.reduceBEq, Nat.reduceAdd]; refine G_one 15 rfl ?_; obtain ⟨x29, ex29, h⟩ := Option.bind_eq_some_iff.1 h; refine GO_call hall rfl trivial (k_place_Side x27 x28.B _ ex29) (h := ?_); dsimp only [go_sem, Nat.reduceBEq, Nat.reduceAdd]
         refine G_goE hall hs haf hnap 3 2 [true, true, true, true, true, true, true, true, true, true, true, true, true, true, true, true, true, true, true, true, false, false] (⟨(.any :: .any :: .ptr 0 0 :: .any :: .any :: .sl 3 (List.map Diner.row x8.1) :: .any :: .ptr 1 0 :: .bv x10.2 :: .iv x25 :: .ptr 2 0 :: an 37 (.iv x25 :: .ptr 0 1 :: .sl 2 (List.map Edge.row x1.Edges) :: .iv (ln Edge.row x1.Edges) :: .bv (decide (x25 < (ln Edge.row x1.Edges))) :: .any :: .any :: .tup [.agg [.iv x29.1.Peer, .iv x29.1.Epoch, .iv x29.1.State, .bv x29.1.Fork, .bv x29.1.Dirty, .bv x29.1.Token, .bv x29.1.Bottle, .bv x29.1.Ask], .bv x29.2] :: .sl 3 (List.map Diner.row x8.1) :: .ptr 0 1 :: .sl 2 (List.map Edge.row x1.Edges) :: .iv x25 :: .elt [.iv x26.A, .iv x26.B] 0 :: .elt [.iv x26.A, .iv x26.B] 0 :: .iv x26.A :: .elt [.iv x27.ID, .iv x27.Phase, .sl 8 (List.map Side.row x27.Sides)] 0 :: .agg [.iv x27.ID, .iv x27.Phase, .sl 8 (List.map Side.row x27.Sides)] :: .ptr 0 1 :: .sl 2 (List.map Edge.row x1.Edges) :: .iv x25 :: .elt [.iv x28.A, .iv x28.B] 0 :: .elt [.iv x28.A, .iv x28.B] 1 :: .iv x28.B :: .tup [.agg [.iv x29.1.Peer, .iv x29.1.Epoch, .iv x29.1.State, .bv x29.1.Fork, .bv x29.1.Dirty, .bv x29.1.Token, .bv x29.1.Bottle, .bv x29.1.Ask], .bv x29.2] :: .agg [.iv x29.1.Peer, .iv x29.1.Epoch, .iv x29.1.State, .bv x29.1.Fork, .bv x29.1.Dirty, .bv x29.1.Token, .bv x29.1.Bottle, .bv x29.1.Ask] :: .bv x29.2 :: an 97 [])), [some ⟨24, [.iv x1.N, .sl 2 (List.map Edge.row x1.Edges)]⟩, some ⟨24, [.iv x10.1.N, .sl 2 (List.map Edge.row x10.1.Edges)]⟩, some ⟨49, [.iv 0, .iv 0, .iv 0, .ff, .ff, .ff, .ff, .ff]⟩], []⟩ : St) (by kernel_rfl) ?_
         refine G_one 20 rfl ?_; refine GO_ev hall rfl trivial ?_; dsimp only [go_sem, Nat.reduceBEq, Nat.reduceAdd]; refine G_goN hall hs haf hnap 1 0 ?_; dsimp only [go_sem, Nat.reduceBEq, Nat.reduceAdd]; refine ⟨by simp, ?_⟩; refine G_done rfl ?_ _; exact M_to J3 (s := (x29.2, x29.1)) h
      ·refine V_go 1 ?_; dsimp only [e6, e6_L0, go_sem, Nat.reduceBEq, Nat.reduceAdd]; refine ⟨by simp, ?_⟩; exact M_to J2 (s := ()) (M_out h hout1)
  ·refine M_case 16 h rfl (fun _ h => ?_) fun _ h => ?_
   ·dsimp only [go_sem, Nat.reduceBEq, Nat.reduceAdd]; refine V_go 11 ?_; dsimp only [e6, e6_L0, go_sem, Nat.reduceBEq, Nat.reduceAdd]; refine ⟨by simp, ?_⟩; exact M_to J1 (s := true) h
   ·dsimp only [go_sem, Nat.reduceBEq, Nat.reduceAdd]; refine V_go 6 ?_; dsimp only [e6, e6_L0, go_sem, Nat.reduceBEq, Nat.reduceAdd]; refine ⟨by simp, ?_⟩; refine M_case 22 h rfl (fun _ h => ?_) fun _ h => ?_
    ·dsimp only [go_sem, Nat.reduceBEq, Nat.reduceAdd]; refine V_go 5 ?_; dsimp only [e6, e6_L0, go_sem, Nat.reduceBEq, Nat.reduceAdd]; refine ⟨by simp, ?_⟩; exact M_to J1 (s := true) h
    ·dsimp only [go_sem, Nat.reduceBEq, Nat.reduceAdd]; refine V_go 5 ?_; dsimp only [e6, e6_L0, go_sem, Nat.reduceBEq, Nat.reduceAdd]; refine ⟨by simp, ?_⟩; exact M_to J1 (s := decide (70 < (ln intRow x2))) h
end NX
end Go.Proofs.Ytadebhbiglmodaa
/-
  The function narthex/narthexlaw12.PlaceOrder: its code compiled, a model, and that the code answers as the model. Written by a program of ours (lb.py). No statement of the seat is proved here.
-/
namespace Go.Proofs.Ytadebhbiglmodaa
namespace NX
open Go
set_option maxRecDepth 100000
set_option maxHeartbeats 4000000
def e7_L0 : EC := .seq (.seq (.reg [⟨(some 26), none, .mv (.t 6)⟩, ⟨(some 27), none, .mv (.t 1)⟩, ⟨(some 28), none, .len (.t 27)⟩, ⟨(some 29), none, .bin .lss (.t 26) (.t 28)⟩]) (.ite (.t 29) (.skip) (.exit 0))) (.seq (.blk 1 (.seq (.seq (.reg [⟨(some 32), none, .mv (.t 1)⟩, ⟨(some 33), none, .mv (.t 6)⟩, ⟨(some 34), none, .idx 1 (.t 32) (.t 33)⟩, ⟨(some 35), none, .load (.t 34)⟩, ⟨(some 36), none, .bin .lss (.t 35) (.c (.iv 0))⟩, ⟨(some 37), none, .mv (.t 36)⟩, ⟨(some 38), (some (37, false)), .mv (.t 1)⟩, ⟨(some 39), (some (37, false)), .mv (.t 6)⟩, ⟨(some 40), (some (37, false)), .idx 1 (.t 38) (.t 39)⟩, ⟨(some 41), (some (37, false)), .load (.t 40)⟩, ⟨(some 42), (some (37, false)), .bin .gtr (.t 41) (.c (.iv 1000))⟩, ⟨(some 43), none, .pick (.t 37) (.c .tt) (.t 42)⟩]) (.ite (.t 43) (.seq (.reg [⟨(some 4), none, .mv (.c .tt)⟩]) (.ret)) (.skip))) (.reg [⟨(some 44), none, .mv (.t 5)⟩, ⟨(some 45), none, .mv (.t 1)⟩, ⟨(some 46), none, .mv (.t 6)⟩, ⟨(some 47), none, .idx 1 (.t 45) (.t 46)⟩, ⟨(some 48), none, .load (.t 47)⟩, ⟨(some 49), none, .bin .mul (.c (.iv 3)) (.t 48)⟩, ⟨(some 50), none, .bsl 3 1 1 [.iv 0] [(0, (.t 49))]⟩, ⟨(some 51), none, .app 3 1 8 (.t 44) (.t 50)⟩, ⟨(some 5), none, .mv (.t 51)⟩]))) (.reg [⟨(some 30), none, .mv (.t 6)⟩, ⟨(some 31), none, .bin .add (.t 30) (.c (.iv 1))⟩, ⟨(some 6), none, .mv (.t 31)⟩]))
def e7 : EC := .seq (.reg [⟨(some 2), none, .box 24 2 (.t 0)⟩, ⟨(some 4), none, .mv (.c .ff)⟩]) (.seq (.seq (.reg [⟨(some 11), none, .call 13 []⟩, ⟨(some 12), none, .not (.t 11)⟩, ⟨(some 13), none, .mv (.t 12)⟩, ⟨(some 14), (some (13, false)), .fld 1 (.t 2)⟩, ⟨(some 15), (some (13, false)), .load (.t 14)⟩, ⟨(some 16), (some (13, false)), .len (.t 15)⟩, ⟨(some 17), (some (13, false)), .bin .gtr (.t 16) (.c (.iv 60))⟩, ⟨(some 18), none, .pick (.t 13) (.c .tt) (.t 17)⟩, ⟨(some 19), none, .mv (.t 18)⟩, ⟨(some 20), (some (19, false)), .mv (.t 1)⟩, ⟨(some 21), (some (19, false)), .len (.t 20)⟩, ⟨(some 22), (some (19, false)), .bin .gtr (.t 21) (.c (.iv 70))⟩, ⟨(some 23), none, .pick (.t 19) (.c .tt) (.t 22)⟩]) (.ite (.t 23) (.seq (.reg [⟨(some 24), none, .call 13 []⟩, ⟨(some 4), none, .mv (.t 24)⟩]) (.ret)) (.skip))) (.seq (.reg [⟨(some 25), none, .bsl 3 1 0 [.iv 0] []⟩, ⟨(some 5), none, .mv (.t 25)⟩]) (.seq (.seq (.reg [⟨(some 6), none, .mv (.c (.iv 0))⟩]) (.blk 0 (.loop e7_L0))) (.seq (.reg [⟨(some 53), none, .loadA 2 (.t 2)⟩, ⟨(some 54), none, .call 15 [(.t 53)]⟩, ⟨(some 55), none, .bsl 3 1 0 [.iv 0] []⟩, ⟨(some 56), none, .mv (.t 1)⟩, ⟨(some 57), none, .app 3 1 8 (.t 55) (.t 56)⟩, ⟨(some 58), none, .call 14 [(.t 54), (.t 57)]⟩, ⟨(some 52), none, .mv (.t 58)⟩, ⟨(some 59), none, .ext (.t 52) 0⟩, ⟨(some 60), none, .ext (.t 52) 1⟩, ⟨(some 7), none, .mv (.t 59)⟩, ⟨(some 8), none, .mv (.t 60)⟩]) (.seq (.reg [⟨(some 62), none, .loadA 2 (.t 2)⟩, ⟨(some 63), none, .call 15 [(.t 62)]⟩, ⟨(some 64), none, .mv (.t 5)⟩, ⟨(some 65), none, .call 14 [(.t 63), (.t 64)]⟩, ⟨(some 61), none, .mv (.t 65)⟩, ⟨(some 66), none, .ext (.t 61) 0⟩, ⟨(some 67), none, .ext (.t 61) 1⟩, ⟨(some 9), none, .mv (.t 66)⟩, ⟨(some 10), none, .mv (.t 67)⟩]) (.seq (.reg [⟨(some 68), none, .mv (.t 8)⟩, ⟨(some 69), none, .mv (.t 10)⟩, ⟨(some 70), none, .bin .eql (.t 68) (.t 69)⟩, ⟨(some 71), none, .mv (.t 70)⟩, ⟨(some 72), (some (71, true)), .mv (.t 7)⟩, ⟨(some 73), (some (71, true)), .mv (.t 9)⟩, ⟨(some 74), (some (71, true)), .call 27 [(.t 72), (.t 73)]⟩, ⟨(some 75), none, .pick (.t 71) (.t 74) (.c .ff)⟩, ⟨(some 4), none, .mv (.t 75)⟩]) (.ret)))))))
theorem ok7 : FnOK Try.prog 7 Try.f7 e7 [.t 4] 2 74 := ⟨by kernel_rfl, ⟨_, rfl, by kernel_rfl⟩, by kernel_rfl, by kernel_rfl⟩
/- narthex/narthexlaw12.PlaceOrder -/
noncomputable def m_narthexlaw12_PlaceOrder_j4  : Bool → Option Bool
| x33 =>
 some x33
noncomputable def m_narthexlaw12_PlaceOrder_j2 (x1 : Graph) (x2 : (List Int)) : (List Int) → Option Bool
| x26 =>
 (m_narthexlaw03_Own x1).bind fun x27 =>
 (app_ 8 (([] : List Int)) x2).bind fun x28 =>
 (m_place_Table x27 x28).bind fun x29 =>
 (m_narthexlaw03_Own x1).bind fun x30 =>
 (m_place_Table x30 x26).bind fun x31 =>
 ifb (decide (x29.2 = x31.2)) (
 (m_place_Same x29.1 x31.1).bind fun x32 =>
 m_narthexlaw12_PlaceOrder_j4 x32) (
 m_narthexlaw12_PlaceOrder_j4 false)
noncomputable def m_narthexlaw12_PlaceOrder_j3 (x2 : (List Int)) (x13 : Int) (x14 : (List Int)) : Bool → Option ((Int × (List Int)) ⊕ Bool)
| x17 =>
 ifb x17 (
 Option.map Sum.inr (some true)) (
 (at_ x2 x13).bind fun x18 =>
 (app_ 8 x14 ([wr (3 * x18)])).bind fun x19 =>
 some (.inl (wr (x13 + 1), x19)))
noncomputable def m_narthexlaw12_PlaceOrder_l1 (x1 : Graph) (x2 : (List Int)) : (Int × (List Int)) → Option ((Int × (List Int)) ⊕ Bool)
| (x13, x14) =>
 ifb (decide (x13 < (ln intRow x2))) (
 (at_ x2 x13).bind fun x15 =>
 ifb (decide (x15 < 0)) (
 (m_narthexlaw12_PlaceOrder_j3 x2 x13 x14) true) (
 (at_ x2 x13).bind fun x16 =>
 (m_narthexlaw12_PlaceOrder_j3 x2 x13 x14) (decide (1000 < x16)))) (
 Option.map Sum.inr ((m_narthexlaw12_PlaceOrder_j2 x1 x2) x14))
noncomputable def m_narthexlaw12_PlaceOrder_j1 (x1 : Graph) (x2 : (List Int)) : Bool → Option Bool
| x4 =>
 ifb x4 (
 (m_narthexlaw12_awake).bind fun x5 =>
 some x5) (
 loop (m_narthexlaw12_PlaceOrder_l1 x1 x2) (0, ([] : List Int)))
noncomputable def m_narthexlaw12_PlaceOrder (x1 : Graph) (x2 : (List Int)) : Option Bool :=
 (m_narthexlaw12_awake).bind fun x3 =>
 ifb (!x3) (
 (m_narthexlaw12_PlaceOrder_j1 x1 x2) true) (
 ifb (decide (60 < (ln Edge.row x1.Edges))) (
 (m_narthexlaw12_PlaceOrder_j1 x1 x2) true) (
 (m_narthexlaw12_PlaceOrder_j1 x1 x2) (decide (70 < (ln intRow x2)))))
theorem k_narthexlaw12_PlaceOrder (x1 : Graph) (x2 : (List Int)) (r : Bool) (h : m_narthexlaw12_PlaceOrder x1 x2 = some r) : FunP Try.prog 7 [.agg (Graph.row x1), .sl 1 (List.map intRow x2)] (.bv r) := by
  refine FunP_intro ok7 rfl rfl fun w0 H0 => ?_
  rw [m_narthexlaw12_PlaceOrder] at h
  refine V_go 8 ?_; dsimp only [e7, e7_L0, go_sem, Nat.reduceBEq, Nat.reduceAdd]; refine ⟨by simp, ?_⟩; obtain ⟨x3, ex3, h⟩ := Option.bind_eq_some_iff.1 h; refine V_call trivial (k_narthexlaw12_awake _ ex3) (h := ?_); refine V_go 2 ?_; dsimp only [e7, e7_L0, go_sem, Nat.reduceBEq, Nat.reduceAdd]; refine ⟨by simp, ?_⟩; refine V_join (fun (x4 : Bool) => (⟨(.any :: .sl 1 (List.map intRow x2) :: .ptr 0 0 :: an 20 (.bv x4 :: an 52 [])), [some ⟨24, [.iv x1.N, .sl 2 (List.map Edge.row x1.Edges)]⟩], []⟩ : St)) (m_narthexlaw12_PlaceOrder_j1 x1 x2) r ?_ fun J1 => ?_
  ·intro x4 h; rw [m_narthexlaw12_PlaceOrder_j1] at h; (try dsimp only); refine M_ite h rfl (fun _ h => ?_) fun _ h => ?_
   ·refine V_go 2 ?_; dsimp only [e7, e7_L0, go_sem, Nat.reduceBEq, Nat.reduceAdd]; refine ⟨by simp, ?_⟩; obtain ⟨x5, ex5, h⟩ := Option.bind_eq_some_iff.1 h; refine V_call trivial (k_narthexlaw12_awake _ ex5) (h := ?_); refine V_go 2 ?_; dsimp only [e7, e7_L0, go_sem, Nat.reduceBEq, Nat.reduceAdd]; refine ⟨by simp, ?_⟩; exact M_done (res := fun (r : Bool) => .bv r) ok7 h
   ·refine V_go 11 ?_; dsimp only [e7, e7_L0, go_sem, Nat.reduceBEq, Nat.reduceAdd]; refine ⟨by simp, ?_⟩; refine V_join (fun (x26 : (List Int)) => (⟨(.any :: .sl 1 (List.map intRow x2) :: .ptr 0 0 :: .any :: .any :: .osl 0 :: an 70 []), [some ⟨24, [.iv x1.N, .sl 2 (List.map Edge.row x1.Edges)]⟩], [some ⟨3, 1, List.map intRow x26⟩]⟩ : St)) (m_narthexlaw12_PlaceOrder_j2 x1 x2) r ?_ fun J2 => ?_
    ·intro x26 h; rw [m_narthexlaw12_PlaceOrder_j2] at h; (try dsimp only); refine V_go 3 ?_; dsimp only [e7, e7_L0, go_sem, Nat.reduceBEq, Nat.reduceAdd]; refine ⟨by simp, ?_⟩; obtain ⟨x27, ex27, h⟩ := Option.bind_eq_some_iff.1 h; refine V_call trivial (k_narthexlaw03_Own x1 _ ex27) (h := ?_); refine V_go 2 ?_; dsimp only [e7, e7_L0, go_sem, Nat.reduceBEq, Nat.reduceAdd]; refine ⟨by simp, ?_⟩; obtain ⟨x28, ex28, h⟩ := Option.bind_eq_some_iff.1 h; refine V_appM intRow ex28 trivial rfl rfl rfl ?_; refine V_seal 2 rfl ?_; dsimp only [go_sem, Nat.reduceBEq, Nat.reduceAdd]
     obtain ⟨x29, ex29, h⟩ := Option.bind_eq_some_iff.1 h; refine V_call trivial (k_place_Table x27 x28 _ ex29) (h := ?_); refine V_go 9 ?_; dsimp only [e7, e7_L0, go_sem, Nat.reduceBEq, Nat.reduceAdd]; refine ⟨by simp, ?_⟩; obtain ⟨x30, ex30, h⟩ := Option.bind_eq_some_iff.1 h; refine V_call trivial (k_narthexlaw03_Own x1 _ ex30) (h := ?_); refine V_go 1 ?_; dsimp only [e7, e7_L0, go_sem, Nat.reduceBEq, Nat.reduceAdd]; refine ⟨by simp, ?_⟩; refine V_seal 0 rfl ?_; dsimp only [go_sem, Nat.reduceBEq, Nat.reduceAdd]; obtain ⟨x31, ex31, h⟩ := Option.bind_eq_some_iff.1 h
     refine V_call trivial (k_place_Table x30 x26 _ ex31) (h := ?_); refine V_go 12 ?_; dsimp only [e7, e7_L0, go_sem, Nat.reduceBEq, Nat.reduceAdd]; refine ⟨by simp, ?_⟩; refine V_join (fun (x33 : Bool) => (⟨(an 4 (.bv x33 :: an 71 [])), [], []⟩ : St)) m_narthexlaw12_PlaceOrder_j4 r ?_ fun J4 => ?_
     ·intro x33 h; rw [m_narthexlaw12_PlaceOrder_j4] at h; (try dsimp only); exact M_done (res := fun (r : Bool) => .bv r) ok7 h
     ·refine M_case 71 h rfl (fun _ h => ?_) fun _ h => ?_
      ·dsimp only [go_sem, Nat.reduceBEq, Nat.reduceAdd]; refine V_go 2 ?_; dsimp only [e7, e7_L0, go_sem, Nat.reduceBEq, Nat.reduceAdd]; refine ⟨by simp, ?_⟩; obtain ⟨x32, ex32, h⟩ := Option.bind_eq_some_iff.1 h; refine V_call trivial (k_place_Same x29.1 x31.1 _ ex32) (h := ?_); refine V_go 3 ?_; dsimp only [e7, e7_L0, go_sem, Nat.reduceBEq, Nat.reduceAdd]; refine ⟨by simp, ?_⟩; exact M_to J4 (s := x32) h
      ·dsimp only [go_sem, Nat.reduceBEq, Nat.reduceAdd]; refine V_go 6 ?_; dsimp only [e7, e7_L0, go_sem, Nat.reduceBEq, Nat.reduceAdd]; refine ⟨by simp, ?_⟩; exact M_to J4 (s := false) h
    ·refine V_go 1 ?_; dsimp only [e7, e7_L0, go_sem, Nat.reduceBEq, Nat.reduceAdd]; refine ⟨by simp, ?_⟩; refine M_loop h (fun ((x13, x14) : (Int × (List Int))) => (⟨(.any :: .sl 1 (List.map intRow x2) :: .ptr 0 0 :: .any :: .any :: .osl 0 :: .iv x13 :: an 69 []), [some ⟨24, [.iv x1.N, .sl 2 (List.map Edge.row x1.Edges)]⟩], [some ⟨3, 1, List.map intRow x14⟩]⟩ : St)) (by simp [go_sem]) (by rintro ⟨x13, x14⟩; first | rfl | simp [go_sem]) ?_; rintro n1 ⟨x13, x14⟩ y1 h hin1 hout1; rw [m_narthexlaw12_PlaceOrder_l1] at h; (try dsimp only); refine V_go 8 ?_
     dsimp only [e7, e7_L0, go_sem, Nat.reduceBEq, Nat.reduceAdd]; refine ⟨by simp, ?_⟩; refine M_ite h rfl (fun _ h => ?_) fun _ h => ?_
     ·refine V_go 8 ?_; dsimp only [e7, e7_L0, go_sem, Nat.reduceBEq, Nat.reduceAdd]; refine ⟨by simp, ?_⟩; obtain ⟨x15, ex15, h⟩ := Option.bind_eq_some_iff.1 h; refine V_idxM intRow ex15 trivial rfl rfl rfl ?_; refine V_go 3 ?_; dsimp only [e7, e7_L0, go_sem, Nat.reduceBEq, Nat.reduceAdd]; refine ⟨by simp, ?_⟩
      refine V_join (fun (x17 : Bool) => (⟨(.any :: .sl 1 (List.map intRow x2) :: .ptr 0 0 :: .any :: .any :: .osl 0 :: .iv x13 :: an 36 (.bv x17 :: an 32 [])), [some ⟨24, [.iv x1.N, .sl 2 (List.map Edge.row x1.Edges)]⟩], [some ⟨3, 1, List.map intRow x14⟩]⟩ : St)) (m_narthexlaw12_PlaceOrder_j3 x2 x13 x14) y1 ?_ fun J3 => ?_
      ·intro x17 h; rw [m_narthexlaw12_PlaceOrder_j3] at h; (try dsimp only); refine M_ite h rfl (fun _ h => ?_) fun _ h => ?_
       ·refine V_go 4 ?_; dsimp only [e7, e7_L0, go_sem, Nat.reduceBEq, Nat.reduceAdd]; refine ⟨by simp, ?_⟩; exact M_done (res := fun (r : Bool) => .bv r) ok7 (M_out h hout1)
       ·refine V_go 5 ?_; dsimp only [e7, e7_L0, go_sem, Nat.reduceBEq, Nat.reduceAdd]; refine ⟨by simp, ?_⟩; obtain ⟨x18, ex18, h⟩ := Option.bind_eq_some_iff.1 h; refine V_idxM intRow ex18 trivial rfl rfl rfl ?_; refine V_go 3 ?_; dsimp only [e7, e7_L0, go_sem, Nat.reduceBEq, Nat.reduceAdd]; refine ⟨by simp, ?_⟩; obtain ⟨x19, ex19, h⟩ := Option.bind_eq_some_iff.1 h; refine V_appM intRow ex19 trivial rfl rfl rfl ?_; refine V_go 8 ?_; dsimp only [e7, e7_L0, go_sem, Nat.reduceBEq, Nat.reduceAdd]; refine ⟨by simp, ?_⟩; refine V_ren 2 0 rfl rfl rfl ?_
        dsimp only [go_sem, Nat.reduceBEq, Nat.reduceAdd]; exact M_back h hin1
      ·refine M_case 37 h rfl (fun _ h => ?_) fun _ h => ?_
       ·dsimp only [go_sem, Nat.reduceBEq, Nat.reduceAdd]; refine V_go 7 ?_; dsimp only [e7, e7_L0, go_sem, Nat.reduceBEq, Nat.reduceAdd]; refine ⟨by simp, ?_⟩; exact M_to J3 (s := true) h
       ·dsimp only [go_sem, Nat.reduceBEq, Nat.reduceAdd]; refine V_go 2 ?_; dsimp only [e7, e7_L0, go_sem, Nat.reduceBEq, Nat.reduceAdd]; refine ⟨by simp, ?_⟩; obtain ⟨x16, ex16, h⟩ := Option.bind_eq_some_iff.1 h; refine V_idxM intRow ex16 trivial rfl rfl rfl ?_; refine V_go 4 ?_; dsimp only [e7, e7_L0, go_sem, Nat.reduceBEq, Nat.reduceAdd]; refine ⟨by simp, ?_⟩; exact M_to J3 (s := decide (1000 < x16)) h
     ·refine V_go 1 ?_; dsimp only [e7, e7_L0, go_sem, Nat.reduceBEq, Nat.reduceAdd]; refine ⟨by simp, ?_⟩; exact M_to J2 (s := x14) (M_out h hout1)
  ·refine M_case 13 h rfl (fun _ h => ?_) fun _ h => ?_
   ·dsimp only [go_sem, Nat.reduceBEq, Nat.reduceAdd]; refine V_go 11 ?_; dsimp only [e7, e7_L0, go_sem, Nat.reduceBEq, Nat.reduceAdd]; refine ⟨by simp, ?_⟩; exact M_to J1 (s := true) h
   ·dsimp only [go_sem, Nat.reduceBEq, Nat.reduceAdd]; refine V_go 6 ?_; dsimp only [e7, e7_L0, go_sem, Nat.reduceBEq, Nat.reduceAdd]; refine ⟨by simp, ?_⟩; refine M_case 19 h rfl (fun _ h => ?_) fun _ h => ?_
    ·dsimp only [go_sem, Nat.reduceBEq, Nat.reduceAdd]; refine V_go 5 ?_; dsimp only [e7, e7_L0, go_sem, Nat.reduceBEq, Nat.reduceAdd]; refine ⟨by simp, ?_⟩; exact M_to J1 (s := true) h
    ·dsimp only [go_sem, Nat.reduceBEq, Nat.reduceAdd]; refine V_go 5 ?_; dsimp only [e7, e7_L0, go_sem, Nat.reduceBEq, Nat.reduceAdd]; refine ⟨by simp, ?_⟩; exact M_to J1 (s := decide (70 < (ln intRow x2))) h
end NX
end Go.Proofs.Ytadebhbiglmodaa
/-
  The anchor of layer 12: its model answers true. No statement of the seat is proved here.
-/
namespace Go.Proofs.Ytadebhbiglmodaa
namespace NX
open Go
theorem s_awake12 : m_narthexlaw12_awake = some true := le_narthexlaw12_awake.h _ (by kernel_rfl : f_narthexlaw12_awake 50 = some true)
end NX
end Go.Proofs.Ytadebhbiglmodaa
/-
  Plain laws: nodes: their sides, whether they are the same, few, copied. No statement of the seat is proved here.
-/
namespace Go.Proofs.Ytadebhbiglmodaa
namespace NX
open Go
/-- A loop over a list, its state told by what lies behind. -/
theorem loop_pp {α τ β : Type} (l : List α) (body : τ → Option (τ ⊕ β)) (st : List α → τ) (R : List α → List α → Option β)
    (hb : ∀ pre x post, l = pre ++ x :: post → (body (st pre) = some (.inl (st (pre ++ [x]))) ∧ R pre (x :: post) = R (pre ++ [x]) post) ∨ ∃ r, body (st pre) = some (.inr r) ∧ R pre (x :: post) = some r)
    (he : body (st l) = (R l []).map .inr) : ∀ post pre, l = pre ++ post → loop body (st pre) = R pre post
  | [], pre, h => by
    have : pre = l := by simpa using h.symm
    subst this
    rw [loop_eq, he]
    cases R pre [] <;> rfl
  | x :: post, pre, h => by
    rw [loop_eq]
    rcases hb pre x post h with ⟨h1, h2⟩ | ⟨r, h1, h2⟩
    · rw [h1, h2]
      exact loop_pp l body st R hb he post (pre ++ [x]) (by simpa using h)
    · rw [h1, h2]
theorem loop_pp0 {α τ β : Type} (l : List α) (body : τ → Option (τ ⊕ β)) (st : List α → τ) (R : List α → List α → Option β)
    (hb : ∀ pre x post, l = pre ++ x :: post → (body (st pre) = some (.inl (st (pre ++ [x]))) ∧ R pre (x :: post) = R (pre ++ [x]) post) ∨ ∃ r, body (st pre) = some (.inr r) ∧ R pre (x :: post) = some r)
    (he : body (st l) = (R l []).map .inr) : loop body (st []) = R [] l := loop_pp l body st R hb he l [] rfl
/-- .. behind which something always holds. -/
theorem loop_ppI {α τ β : Type} (l : List α) (body : τ → Option (τ ⊕ β)) (st : List α → τ) (R : List α → List α → Option β) (I : List α → Prop)
    (hb : ∀ pre x post, l = pre ++ x :: post → I pre → (body (st pre) = some (.inl (st (pre ++ [x]))) ∧ I (pre ++ [x]) ∧ R pre (x :: post) = R (pre ++ [x]) post) ∨ ∃ r, body (st pre) = some (.inr r) ∧ R pre (x :: post) = some r)
    (he : I l → body (st l) = (R l []).map .inr) : ∀ post pre, l = pre ++ post → I pre → loop body (st pre) = R pre post
  | [], pre, h, hI => by
    have : pre = l := by simpa using h.symm
    subst this
    rw [loop_eq, he hI]
    cases R pre [] <;> rfl
  | x :: post, pre, h, hI => by
    rw [loop_eq]
    rcases hb pre x post h hI with ⟨h1, h3, h2⟩ | ⟨r, h1, h2⟩
    · rw [h1, h2]
      exact loop_ppI l body st R I hb he post (pre ++ [x]) (by simpa using h) h3
    · rw [h1, h2]
/-- .. that goes to its end. -/
theorem loop_pre {α τ β : Type} (l : List α) (body : τ → Option (τ ⊕ β)) (st : List α → τ) (r : β)
    (hb : ∀ pre x post, l = pre ++ x :: post → body (st pre) = some (.inl (st (pre ++ [x])))) (he : body (st l) = some (.inr r)) : loop body (st []) = some r :=
  loop_pp0 l body st (fun _ _ => some r) (fun pre x post h => .inl ⟨hb pre x post h, rfl⟩) he
theorem mid_get {α : Type} {l pre post : List α} {x : α} (h : l = pre ++ x :: post) : l[pre.length]? = some x := by subst h; simp
theorem mid_len {α : Type} {l pre post : List α} {x : α} (h : l = pre ++ x :: post) : pre.length < l.length := by subst h; simp
theorem mid_mem {α : Type} {l pre post : List α} {x : α} (h : l = pre ++ x :: post) : x ∈ l := by subst h; simp
theorem len_snoc {α : Type} (pre : List α) (x : α) : (pre ++ [x]).length = pre.length + 1 := by simp
/-- Two lists, one beside the other. -/
theorem loop_all2 {α : Type} (l m : List α) (body : Int → Option (Int ⊕ Bool)) (eqv : α → α → Bool) (hlm : l.length = m.length) (hl : l.length ≤ 4000000000000000000)
    (hb : ∀ (k : Nat) x y, l[k]? = some x → m[k]? = some y → body k = some (if eqv x y then .inl ((k + 1 : Nat) : Int) else .inr false)) (he : body l.length = some (.inr true)) : loop body 0 = some ((l.zip m).all fun p => eqv p.1 p.2) := by
  rw [loop_any (l.zip m) body (fun p => !eqv p.1 p.2) false true (by simp; omega) (fun k x hx => by
    obtain ⟨x1, x2⟩ := x
    rw [List.getElem?_zip_eq_some] at hx
    rw [hb k x1 x2 hx.1 hx.2]
    cases eqv x1 x2 <;> rfl) (by rw [show (l.zip m).length = l.length by simp [hlm]]; exact he)]
  have : ∀ (q : List (α × α)), (if q.any (fun p => !eqv p.1 p.2) then some false else some true) = some (q.all fun p => eqv p.1 p.2) := by
    intro q
    induction q with
    | nil => rfl
    | cons p q ih =>
      rw [List.any_cons, List.all_cons]
      cases h : eqv p.1 p.2 with
      | true => exact ih
      | false => rfl
  have h2 := this (l.zip m)
  rw [← h2]
  cases (l.zip m).any (fun p => !eqv p.1 p.2) <;> rfl
theorem zip_all_eq {α : Type} [DecidableEq α] : ∀ (l m : List α), l.length = m.length → (l.zip m).all (fun p => decide (p.1 = p.2)) = decide (l = m)
  | [], [], _ => rfl
  | [], _ :: _, h => by simp at h
  | _ :: _, [], h => by simp at h
  | x :: l, y :: m, h => by
    have ih := zip_all_eq l m (by simpa using h)
    simp only [List.zip_cons_cons, List.all_cons, ih]
    by_cases h1 : x = y <;> simp [h1]
theorem len_ne {α : Type} [DecidableEq α] {l m : List α} (h : l.length ≠ m.length) : decide (l = m) = false := decide_eq_false (by rintro rfl; exact h rfl)
theorem Side_eqB (x y : Side) : (decide (x.Peer = y.Peer) && (decide (x.Epoch = y.Epoch) && (decide (x.State = y.State) && ((x.Fork == y.Fork) && ((x.Dirty == y.Dirty) && ((x.Token == y.Token) && ((x.Bottle == y.Bottle) && ((x.Ask == y.Ask) && true)))))))) = decide (x = y) := by
  rw [Bool.eq_iff_iff]; cases x; cases y; simp [Side.mk.injEq]
theorem Mail_eqB (x y : Mail) : (decide (x.From = y.From) && (decide (x.To = y.To) && (decide (x.Msg.Kind = y.Msg.Kind) && (decide (x.Msg.Epoch = y.Msg.Epoch) && (decide (x.Msg.Num = y.Msg.Num) && true))))) = decide (x = y) := by
  rw [Bool.eq_iff_iff]
  obtain ⟨x1, x2, x3, x4, x5⟩ := x
  obtain ⟨y1, y2, y3, y4, y5⟩ := y
  simp [Mail.mk.injEq, Msg.mk.injEq]
theorem Edge_eqB (x y : Edge) : (decide (x.A = y.A) && (decide (x.B = y.B) && true)) = decide (x = y) := by
  rw [Bool.eq_iff_iff]; cases x; cases y; simp [Edge.mk.injEq]
theorem Arc_eqB (x y : Arc) : (decide (x.From = y.From) && (decide (x.To = y.To) && true)) = decide (x = y) := by
  rw [Bool.eq_iff_iff]; cases x; cases y; simp [Arc.mk.injEq]
theorem ln_dec {α β : Type} (f : α → List AV) (g : β → List AV) (l : List α) (m : List β) : decide (ln f l = ln g m) = decide (l.length = m.length) := by
  rw [ln_eq, ln_eq, decide_eq_decide]; omega
theorem s_EqualSide (l m : List Side) (hl : l.length ≤ 1000000) : m_slices_Equal_Side l m = some (decide (l = m)) := by
  simp only [m_slices_Equal_Side, ln_dec]
  by_cases h : l.length = m.length
  · simp only [h, decide_true, Bool.not_true, ifb_false]
    rw [loop_all2 l m _ (fun x y => decide (x = y)) h (by omega) (fun k x y hx hy => by
      simp only [m_slices_Equal_Side_l1, lt_len hx, ifb_true, at_get hx, at_get hy, Option.bind_some, Side_eqB, wr_succ' hx (show l.length ≤ 4000000000000000000 by omega), ifb_not]
      cases decide (x = y) <;> rfl) (by simp only [m_slices_Equal_Side_l1, nlt_len, ifb_false, m_slices_Equal_Side_j1, Option.map_some]), zip_all_eq l m h]
  · simp [h, len_ne h]
theorem s_r12SameOne (a b : Diner) (hl : a.Sides.length ≤ 1000000) : m_narthexref12_SameOne a b = some (decide (a = b)) := by
  obtain ⟨a1, a2, l⟩ := a
  obtain ⟨b1, b2, m⟩ := b
  dsimp only at hl
  simp only [m_narthexref12_SameOne, m_narthexref12_SameOne_j1, ln_dec, Diner.mk.injEq]
  by_cases h1 : a1 = b1
  · by_cases h2 : a2 = b2
    · by_cases h : l.length = m.length
      · simp only [h1, h2, h, decide_true, Bool.not_true, ifb_false, true_and]
        rw [loop_all2 l m _ (fun x y => decide (x = y)) h (by omega) (fun k x y hx hy => by
          simp only [m_narthexref12_SameOne_l1, lt_len hx, ifb_true, at_get hx, at_get hy, Option.bind_some, Side_eqB, wr_succ' hx (show l.length ≤ 4000000000000000000 by omega), ifb_not, Option.map_some]
          cases decide (x = y) <;> rfl) (by simp only [m_narthexref12_SameOne_l1, nlt_len, ifb_false, m_narthexref12_SameOne_j2, Option.map_some]), zip_all_eq l m h]
      · have := len_ne h
        simp [h1, h2, h]; rintro rfl; exact h rfl
    · simp [h1, h2]
  · simp [h1]
theorem s_placeSame1 (a b : Diner) (hl : a.Sides.length ≤ 1000000) : m_place_Same_1 a b = some (decide (a = b)) := by
  obtain ⟨a1, a2, l⟩ := a
  obtain ⟨b1, b2, m⟩ := b
  dsimp only at hl
  simp only [m_place_Same_1, m_place_Same_1_j1, s_EqualSide l m hl, Diner.mk.injEq]
  by_cases h1 : a1 = b1 <;> by_cases h2 : a2 = b2 <;> simp [h1, h2]
/-- Nodes that aren't too many. -/
def fewD (l : List Diner) : Prop := l.length ≤ 5000 ∧ ∀ d ∈ l, d.Sides.length ≤ 5000
theorem s_placeSame (l m : List Diner) (hl : fewD l) : m_place_Same l m = some (decide (l = m)) := by
  simp only [m_place_Same, m_slices_EqualFunc_Diner, ln_dec]
  by_cases h : l.length = m.length
  · simp only [h, decide_true, Bool.not_true, ifb_false]
    rw [loop_all2 l m _ (fun x y => decide (x = y)) h (by have := hl.1; omega) (fun k x y hx hy => by
      simp only [m_slices_EqualFunc_Diner_l1, lt_len hx, ifb_true, at_get hx, at_get hy, Option.bind_some, s_placeSame1 x y (by have := hl.2 x (List.mem_iff_getElem?.2 ⟨k, hx⟩); omega), wr_succ' hx (show l.length ≤ 4000000000000000000 by have := hl.1; omega), ifb_not, Option.map_some]
      cases decide (x = y) <;> rfl) (by simp only [m_slices_EqualFunc_Diner_l1, nlt_len, ifb_false, m_slices_EqualFunc_Diner_j1, Option.map_some]), zip_all_eq l m h]
    rfl
  · simp [h, len_ne h]
theorem s_r12Same (l m : List Diner) (hl : fewD l) : m_narthexref12_Same l m = some (decide (l = m)) := by
  simp only [m_narthexref12_Same, ln_dec]
  by_cases h : l.length = m.length
  · simp only [h, decide_true, Bool.not_true, ifb_false]
    rw [loop_all2 l m _ (fun x y => decide (x = y)) h (by have := hl.1; omega) (fun k x y hx hy => by
      simp only [m_narthexref12_Same_l1, lt_len hx, ifb_true, at_get hx, at_get hy, Option.bind_some, s_r12SameOne x y (by have := hl.2 x (List.mem_iff_getElem?.2 ⟨k, hx⟩); omega), wr_succ' hx (show l.length ≤ 4000000000000000000 by have := hl.1; omega), ifb_not, Option.map_some]
      cases decide (x = y) <;> rfl) (by simp only [m_narthexref12_Same_l1, nlt_len, ifb_false, m_narthexref12_Same_j1, Option.map_some]), zip_all_eq l m h]
  · simp [h, len_ne h]
theorem s_r03Same (g h : Graph) (hl : g.Edges.length ≤ 1000000) : m_narthexref03_Same g h = some (decide (g = h)) := by
  obtain ⟨n, l⟩ := g
  obtain ⟨n', m⟩ := h
  dsimp only at hl
  simp only [m_narthexref03_Same, m_narthexref03_Same_j1, ln_dec, Graph.mk.injEq]
  by_cases h1 : n = n'
  · by_cases h : l.length = m.length
    · simp only [h1, h, decide_true, Bool.not_true, ifb_false, true_and]
      rw [loop_all2 l m _ (fun x y => decide (x = y)) h (by omega) (fun k x y hx hy => by
        simp only [m_narthexref03_Same_l1, lt_len hx, ifb_true, at_get hx, at_get hy, Option.bind_some, Edge_eqB, wr_succ' hx (show l.length ≤ 4000000000000000000 by omega), ifb_not, Option.map_some]
        cases decide (x = y) <;> rfl) (by simp only [m_narthexref03_Same_l1, nlt_len, ifb_false, m_narthexref03_Same_j2, Option.map_some]), zip_all_eq l m h]
    · simp [h1, h]; rintro rfl; exact h rfl
  · simp [h1]
theorem s_r04Same (l m : List Arc) (hl : l.length ≤ 1000000) : m_narthexref04_Same l m = some (decide (l = m)) := by
  simp only [m_narthexref04_Same, ln_dec]
  by_cases h : l.length = m.length
  · simp only [h, decide_true, Bool.not_true, ifb_false]
    rw [loop_all2 l m _ (fun x y => decide (x = y)) h (by omega) (fun k x y hx hy => by
      simp only [m_narthexref04_Same_l1, lt_len hx, ifb_true, at_get hx, at_get hy, Option.bind_some, Arc_eqB, wr_succ' hx (show l.length ≤ 4000000000000000000 by omega), ifb_not, Option.map_some]
      cases decide (x = y) <;> rfl) (by simp only [m_narthexref04_Same_l1, nlt_len, ifb_false, m_narthexref04_Same_j1, Option.map_some]), zip_all_eq l m h]
  · simp [h, len_ne h]
/-- The side to a peer. -/
def side0 : Side := ⟨0, 0, 0, false, false, false, false, false⟩
def sideO (d : Diner) (p : Int) : Option Side := d.Sides.find? fun x => decide (x.Peer = p)
def sideP (o : Option Side) : Side × Bool := match o with | some x => (x, true) | none => (side0, false)
theorem find_idx {α : Type} (q : α → Bool) : ∀ l : List α, match l.findIdx? q with
    | some i => ∃ x, l[i]? = some x ∧ l.find? q = some x
    | none => l.find? q = none
  | [] => rfl
  | x :: l => by
    have ih := find_idx q l
    rw [List.findIdx?_cons, List.find?_cons]
    cases h : q x with
    | true => exact ⟨x, rfl, by simp⟩
    | false =>
      simp only [Bool.false_eq_true, if_false]
      cases hf : l.findIdx? q with
      | none => rw [hf] at ih; simpa using ih
      | some i => rw [hf] at ih; obtain ⟨y, h1, h2⟩ := ih; exact ⟨y, by simpa using h1, by simpa using h2⟩
theorem s_Side (d : Diner) (p : Int) (hl : d.Sides.length ≤ 1000000) : m_place_Side d p = some (sideP (sideO d p)) := by
  simp only [m_place_Side]
  rw [s_IndexFunc_Side d.Sides (fun z => m_place_Side_1 z p) (fun x => decide (x.Peer = p)) (by omega) (fun x _ => rfl), Option.bind_some, plc_neg]
  have := find_idx (fun x : Side => decide (x.Peer = p)) d.Sides
  unfold sideO
  cases h : d.Sides.findIdx? (fun x => decide (x.Peer = p)) with
  | none => rw [h] at this; simp only at this; rw [this]; rfl
  | some i =>
    rw [h] at this
    obtain ⟨x, h1, h2⟩ := this
    rw [h2]
    simp only [Option.isNone_some, ifb_false, plc, at_get h1, Option.bind_some, sideP]
theorem s_r12Side (d : Diner) (p : Int) (hl : d.Sides.length ≤ 1000000) : m_narthexref12_Side d p = some (sideP (sideO d p)) := by
  unfold m_narthexref12_Side
  have := loop_forL d.Sides (m_narthexref12_Side_l1 d p) (fun k (_ : Unit) => k) (fun x _ => if decide (x.Peer = p) then some (.inr (x, true)) else some (.inl ())) (fun _ => some (side0, false)) (by omega) (fun k x s hx => by
    simp only [m_narthexref12_Side_l1, lt_len hx, ifb_true, at_get hx, Option.bind_some, wr_succ' hx (show d.Sides.length ≤ 4000000000000000000 by omega), Option.map_some]
    cases decide (x.Peer = p) <;> rfl) (fun _ => by simp only [m_narthexref12_Side_l1, nlt_len, ifb_false, m_narthexref12_Side_j1, Option.map_some]; rfl) ()
  rw [this, forL_find (fun x => if decide (x.Peer = p) then some (.inr (x, true)) else some (.inl ())) (fun x => decide (x.Peer = p)) (fun x => (x, true)) (some (side0, false)) d.Sides (fun x _ => rfl)]
  unfold sideO
  cases d.Sides.find? (fun x => decide (x.Peer = p)) <;> rfl
/-- Few: nodes, sides, mail. -/
def fewB (s : Scene) : Bool := decide (s.Diners.length ≤ 24) && (decide (s.Mail.length ≤ 40) && s.Diners.all fun d => decide (d.Sides.length ≤ 24))
theorem s_Few (s : Scene) : m_narthexref12_Few s = some (fewB s) := by
  unfold m_narthexref12_Few
  by_cases h24 : s.Diners.length ≤ 24
  · rw [loop_any s.Diners (m_narthexref12_Few_l1 s) (fun d => !decide (d.Sides.length ≤ 24)) false (decide (s.Mail.length ≤ 40)) (by omega) (fun k x hx => by
      have hk := (List.getElem?_eq_some_iff.1 hx).1
      have h25 : decide ((k : Int) < 25) = true := decide_eq_true (by omega)
      have e : decide (24 < ln Side.row x.Sides) = !decide (x.Sides.length ≤ 24) := by
        rw [ln_eq, ← decide_not, decide_eq_decide]; omega
      simp only [m_narthexref12_Few_l1, lt_len hx, ifb_true, m_narthexref12_Few_j2, h25, at_get hx, Option.bind_some, e, wr_succ' hx (show s.Diners.length ≤ 4000000000000000000 by omega), Option.map_some]
      cases decide (x.Sides.length ≤ 24) <;> rfl) (by
      have e1 : decide (ln Diner.row s.Diners ≤ 24) = true := by rw [ln_eq]; exact decide_eq_true (by omega)
      have e2 : decide (ln Mail.row s.Mail ≤ 40) = decide (s.Mail.length ≤ 40) := by rw [ln_eq, decide_eq_decide]; omega
      simp only [m_narthexref12_Few_l1, nlt_len, ifb_false, m_narthexref12_Few_j2, m_narthexref12_Few_j1, m_narthexref12_Few_j3, e1, e2, ifb_true, Option.map_some])]
    unfold fewB
    have : s.Diners.any (fun d => !decide (d.Sides.length ≤ 24)) = !s.Diners.all (fun d => decide (d.Sides.length ≤ 24)) := any_not_all _ _ _ fun _ => rfl
    rw [this]
    cases s.Diners.all (fun d => decide (d.Sides.length ≤ 24)) <;> simp [h24]
  · -- too many: whatever the first ones have
    have hf : fewB s = false := by simp [fewB, h24]
    rw [hf]
    have key : ∀ m k : Nat, m + k = 25 → loop (m_narthexref12_Few_l1 s) (k : Int) = some false := by
      intro m
      induction m with
      | zero =>
        intro k hk
        have : k = 25 := by omega
        subst this
        rw [loop_eq]
        have e1 : decide (ln Diner.row s.Diners ≤ 24) = false := by rw [ln_eq]; exact decide_eq_false (by omega)
        simp only [m_narthexref12_Few_l1, m_narthexref12_Few_j2, m_narthexref12_Few_j1, m_narthexref12_Few_j3, e1, ifb_false, Option.map_some]
        cases decide (((25 : Nat) : Int) < ln Diner.row s.Diners) <;> rfl
      | succ m ih =>
        intro k hk
        have hx : s.Diners[k]? = some s.Diners[k] := List.getElem?_eq_getElem (by omega)
        have h25 : decide ((k : Int) < 25) = true := decide_eq_true (by omega)
        rw [loop_eq]
        simp only [m_narthexref12_Few_l1, lt_len hx, ifb_true, m_narthexref12_Few_j2, h25, at_get hx, Option.bind_some, wr_succ (show k ≤ 4000000000000000000 by omega), Option.map_some]
        cases decide (24 < ln Side.row s.Diners[k].Sides) with
        | true => rfl
        | false => exact ih (k + 1) (by omega)
    exact key 25 0 rfl
theorem fewB_iff {s : Scene} (h : fewB s = true) : s.Diners.length ≤ 24 ∧ s.Mail.length ≤ 40 ∧ ∀ d ∈ s.Diners, d.Sides.length ≤ 24 := by
  simp only [fewB, Bool.and_eq_true, decide_eq_true_eq, List.all_eq_true] at h
  exact h
theorem fewB_D {s : Scene} (h : fewB s = true) : fewD s.Diners := by
  obtain ⟨h1, _, h3⟩ := fewB_iff h
  exact ⟨by omega, fun d hd => by have := h3 d hd; omega⟩
theorem s_Own (l : List Diner) (hl : fewD l) : m_narthexlaw12_Own l = some l := by
  unfold m_narthexlaw12_Own
  refine loop_pre l _ (fun pre => ((pre.length : Int), pre)) l (fun pre x post h => ?_) ?_
  · have hx := mid_get h
    have hm := mid_len h
    have h1 := hl.1
    have h2 := hl.2 x (mid_mem h)
    dsimp only [m_narthexlaw12_Own_l1]
    rw [lt_len hx, ifb_true, at_get hx, Option.bind_some, app_ok _ _ (by omega) (by simp; omega), Option.bind_some, app_ok _ _ (by omega) (by simp; omega), Option.bind_some, wr_succ (by omega), len_snoc]
    rfl
  · dsimp only [m_narthexlaw12_Own_l1]
    rw [nlt_len, ifb_false]; rfl
theorem s_Own03 (g : Graph) (hl : g.Edges.length ≤ 1000000) : m_narthexlaw03_Own g = some g := by
  simp only [m_narthexlaw03_Own]
  rw [app_ok _ _ (by omega) (by simp; omega)]
  rfl
end NX
end Go.Proofs.Ytadebhbiglmodaa
/-
  Plain laws: the graph that nodes are of. No statement of the seat is proved here.
-/
namespace Go.Proofs.Ytadebhbiglmodaa
namespace NX
open Go
/-- May this be a side of node 'i'? -/
def sideB (l : List Diner) (i : Nat) (x : Side) : Bool :=
  decide (0 ≤ x.Peer) && (decide (x.Peer < l.length) && (!decide (x.Peer = i) && (match l[x.Peer.toNat]? with | some e => (sideO e i).isSome | none => false)))
def lastP (pre : List Side) : Option Int := pre.getLast?.map (·.Peer)
def riseB (p : Option Int) (x : Side) : Bool := match p with | none => true | some q => decide (q < x.Peer)
def okFrom (l : List Diner) (i : Nat) : Option Int → List Side → Bool
  | _, [] => true
  | p, x :: r => riseB p x && (sideB l i x && okFrom l i (some x.Peer) r)
def edgesD (i : Nat) (xs : List Side) : List Edge := (xs.filter fun x => decide ((i : Int) < x.Peer)).map fun x => ⟨i, x.Peer⟩
def okAll (l : List Diner) : Nat → List Diner → Bool
  | _, [] => true
  | i, d :: r => decide (d.ID = i) && (okFrom l i none d.Sides && okAll l (i + 1) r)
def edgesL : Nat → List Diner → List Edge
  | _, [] => []
  | i, d :: r => edgesD i d.Sides ++ edgesL (i + 1) r
def graph0 : Graph := ⟨0, []⟩
def graphP (l : List Diner) : Graph × Bool := if okAll l 0 l && okG ⟨l.length, edgesL 0 l⟩ then (⟨l.length, edgesL 0 l⟩, true) else (graph0, false)
theorem lastP_snoc (pre : List Side) (x : Side) : lastP (pre ++ [x]) = some x.Peer := by simp [lastP]
theorem edgesD_snoc (i : Nat) (pre : List Side) (x : Side) : edgesD i (pre ++ [x]) = if decide ((i : Int) < x.Peer) then edgesD i pre ++ [⟨i, x.Peer⟩] else edgesD i pre := by
  unfold edgesD
  by_cases h : (i : Int) < x.Peer <;> simp [h]
theorem edgesD_len (i : Nat) (xs : List Side) : (edgesD i xs).length ≤ xs.length := by simp [edgesD, List.length_filter_le]
theorem edgesL_append : ∀ (a b : List Diner) (i : Nat), edgesL i (a ++ b) = edgesL i a ++ edgesL (i + a.length) b
  | [], b, i => by simp [edgesL]
  | d :: a, b, i => by simp [edgesL, edgesL_append a b (i + 1), Nat.add_comm, Nat.add_left_comm]
theorem edgesL_len : ∀ (l : List Diner) (i : Nat), (∀ d ∈ l, d.Sides.length ≤ 5000) → (edgesL i l).length ≤ l.length * 5000
  | [], _, _ => by simp [edgesL]
  | d :: l, i, h => by
    have h1 := edgesL_len l (i + 1) fun e he => h e (by simp [he])
    have h2 := h d (by simp)
    have h3 := edgesD_len i d.Sides
    simp only [edgesL, List.length_append, List.length_cons]
    omega
theorem prev_step {γ : Type} {l pre post : List Side} {x : Side} (h : l = pre ++ x :: post) (hl : l.length ≤ 5000) (A : Bool → Option γ) :
    ifb (decide (0 < (pre.length : Int))) ((at_ l (wr ((pre.length : Int) - 1))).bind fun y => A (decide (x.Peer ≤ y.Peer))) (A false) = A (!riseB (lastP pre) x) := by
  rcases List.eq_nil_or_concat pre with rfl | ⟨q, y, rfl⟩
  · simp [lastP, riseB]
  · rw [List.concat_eq_append] at h ⊢
    have hy : l[q.length]? = some y := by subst h; simp
    have hm := mid_len h
    have e : decide (0 < (((q ++ [y]).length : Nat) : Int)) = true := decide_eq_true (by simp only [len_snoc]; omega)
    rw [e, ifb_true, len_snoc, wr_pred (by simp at hm; omega), at_get hy, Option.bind_some, lastP_snoc, riseB, ← decide_not]
    congr 2
    simp
theorem inner_len {l : List Diner} {pre post : List Diner} {d : Diner} (hl : fewD l) (h : l = pre ++ d :: post) : (edgesL 0 pre).length ≤ 25000000 := by
  have h1 := edgesL_len pre 0 fun e he => hl.2 e (by subst h; simp [he])
  have h2 := mid_len h
  have := hl.1
  omega
theorem s_Graph2 (l : List Diner) (hl : fewD l) (i : Nat) (d : Diner) (hd : d ∈ l) (hi : i ≤ 5000) (E : List Edge) (hE : E.length ≤ 25000000) :
    loop (m_place_Graph_l2 l i d) (0, E) = some (if okFrom l i none d.Sides then .inl (((i + 1 : Nat) : Int), E ++ edgesD i d.Sides) else .inr (graph0, false)) := by
  have hdl := hl.2 d hd
  have key := (loop_pp0 d.Sides (m_place_Graph_l2 l i d) (fun pre => ((pre.length : Int), E ++ edgesD i pre)) (fun pre post => some (if okFrom l i (lastP pre) post then .inl (((i + 1 : Nat) : Int), E ++ edgesD i (pre ++ post)) else .inr (graph0, false))) ?_ ?_)
  · rw [show edgesD i [] = [] from rfl, List.append_nil] at key; exact key
  · intro pre x post h
    have hx := mid_get h
    have hm := mid_len h
    dsimp only [m_place_Graph_l2]
    rw [lt_len hx, ifb_true, at_get hx, Option.bind_some, prev_step h hdl (m_place_Graph_j3 l i pre.length (E ++ edgesD i pre) x)]
    have bad : m_place_Graph_j3 l (i : Int) pre.length (E ++ edgesD i pre) x true = some (.inr (.inr (graph0, false))) := rfl
    by_cases h1 : x.Peer < 0
    · right
      refine ⟨_, by rw [decide_eq_true h1, ifb_true, bad], ?_⟩
      have : sideB l i x = false := by simp [sideB]; omega
      simp [okFrom, this]
    by_cases h2 : (l.length : Int) ≤ x.Peer
    · right
      refine ⟨_, by rw [decide_eq_false h1, ifb_false, ln_eq, decide_eq_true h2, ifb_true, bad], ?_⟩
      have : sideB l i x = false := by simp [sideB]; omega
      simp [okFrom, this]
    by_cases h3 : x.Peer = i
    · right
      refine ⟨_, by rw [decide_eq_false h1, ifb_false, ln_eq, decide_eq_false h2, ifb_false, decide_eq_true h3, ifb_true, bad], ?_⟩
      have : sideB l i x = false := by simp [sideB, h3]
      simp [okFrom, this]
    rw [decide_eq_false h1, ifb_false, ln_eq, decide_eq_false h2, ifb_false, decide_eq_false h3, ifb_false]
    cases h4 : riseB (lastP pre) x with
    | false =>
      right
      exact ⟨_, by rw [Bool.not_false, bad], by simp [okFrom, h4]⟩
    | true =>
      obtain ⟨e, he1, he2⟩ := at_lt (l := l) (i := x.Peer) (by omega) (by omega)
      have hes := hl.2 e (List.mem_iff_getElem?.2 ⟨_, he2⟩)
      have hsb : sideB l i x = (sideO e i).isSome := by
        rw [sideB, decide_eq_true (show 0 ≤ x.Peer by omega), decide_eq_true (show x.Peer < l.length by omega), decide_eq_false h3, he2]; simp
      rw [Bool.not_true]
      dsimp only [m_place_Graph_j3]
      rw [ifb_false, he1, Option.bind_some, s_Side e i (by omega), Option.bind_some]
      cases ho : sideO e i with
      | none =>
        right
        exact ⟨(.inr (graph0, false)), rfl, by rw [ho] at hsb; simp [okFrom, hsb]⟩
      | some y =>
        left
        rw [ho] at hsb
        refine ⟨?_, by simp [okFrom, hsb, h4, lastP_snoc]⟩
        simp only [sideP, Bool.not_true, ifb_false, m_place_Graph_j4]
        rw [edgesD_snoc, len_snoc, wr_succ (by omega)]
        have := edgesD_len i pre
        by_cases h5 : (i : Int) < x.Peer
        · rw [decide_eq_true h5, ifb_true, app_ok _ _ (by omega) (by simp; omega), Option.bind_some]
          simp
        · rw [decide_eq_false h5, ifb_false]; simp
  · dsimp only [m_place_Graph_l2]
    rw [nlt_len, ifb_false, m_place_Graph_j2, wr_succ (by omega)]
    simp [okFrom]
theorem s_Graph (l : List Diner) (hl : fewD l) : m_place_Graph l = some (graphP l) := by
  unfold m_place_Graph
  by_cases h64 : 64 < l.length
  · have : okG ⟨l.length, edgesL 0 l⟩ = false := by simp [okG]; omega
    rw [ln_eq, decide_eq_true (by omega), ifb_true]
    simp [graphP, this, graph0]
  rw [ln_eq, decide_eq_false (by omega), ifb_false]
  refine (loop_pp0 l (m_place_Graph_l1 l) (fun pre => ((pre.length : Int), edgesL 0 pre)) (fun pre post => some (if okAll l pre.length post && okG ⟨l.length, edgesL 0 (pre ++ post)⟩ then (⟨l.length, edgesL 0 (pre ++ post)⟩, true) else (graph0, false))) ?_ ?_).trans rfl
  · intro pre d post h
    have hx := mid_get h
    have hm := mid_len h
    have hd := mid_mem h
    dsimp only [m_place_Graph_l1]
    rw [lt_len hx, ifb_true, at_get hx, Option.bind_some, ifb_not]
    by_cases h1 : d.ID = pre.length
    · rw [decide_eq_true h1, ifb_true, s_Graph2 l hl pre.length d hd (by omega) _ (inner_len hl h)]
      cases h2 : okFrom l pre.length none d.Sides with
      | true => left; exact ⟨by rw [if_pos rfl, len_snoc, edgesL_append]; simp [edgesL], by simp [okAll, h1, h2]⟩
      | false => right; exact ⟨_, rfl, by simp [okAll, h2]⟩
    · right
      exact ⟨_, by rw [decide_eq_false h1, ifb_false]; rfl, by simp [okAll, h1, graph0]⟩
  · dsimp only [m_place_Graph_l1]
    rw [nlt_len, ifb_false, m_place_Graph_j1, ln_eq, s_Check, Option.bind_some]
    simp only [okAll, List.append_nil, Bool.true_and]
    cases okG ⟨l.length, edgesL 0 l⟩ <;> rfl
theorem s_r12Graph2 (l : List Diner) (hl : fewD l) (i : Nat) (d : Diner) (hd : l[i]? = some d) (hi : i ≤ 5000) (E : List Edge) (hE : E.length ≤ 25000000) :
    loop (m_narthexref12_Graph_l2 l i) (-1, 0, E) = some (if okFrom l i none d.Sides then .inl (((i + 1 : Nat) : Int), E ++ edgesD i d.Sides) else .inr (graph0, false)) := by
  have hdm := List.mem_iff_getElem?.2 ⟨_, hd⟩
  have hdl := hl.2 d hdm
  have key := (loop_ppI d.Sides (m_narthexref12_Graph_l2 l i) (fun pre => ((lastP pre).getD (-1), (pre.length : Int), E ++ edgesD i pre)) (fun pre post => some (if okFrom l i (lastP pre) post then .inl (((i + 1 : Nat) : Int), E ++ edgesD i (pre ++ post)) else .inr (graph0, false))) (fun pre => ∀ q, lastP pre = some q → 0 ≤ q) ?_ ?_ d.Sides [] rfl (by simp [lastP]))
  · rw [show edgesD i [] = [] from rfl, List.append_nil] at key; exact key
  · intro pre x post h hI
    have hx := mid_get h
    have hm := mid_len h
    dsimp only [m_narthexref12_Graph_l2]
    rw [at_get hd, Option.bind_some, lt_len hx, ifb_true, Option.bind_some, at_get hx, Option.bind_some]
    have bad : m_narthexref12_Graph_j3 l (i : Int) pre.length (E ++ edgesD i pre) x true = some (.inr (.inr (graph0, false))) := rfl
    by_cases h1 : x.Peer ≤ (lastP pre).getD (-1)
    · right
      refine ⟨_, by rw [decide_eq_true h1, ifb_true, bad], ?_⟩
      cases hp : lastP pre with
      | none =>
        rw [hp] at h1
        have : sideB l i x = false := by simp [sideB]; simp at h1; omega
        simp [okFrom, this]
      | some q =>
        rw [hp] at h1
        have : riseB (some q) x = false := by simp [riseB]; simpa using h1
        simp [okFrom, this]
    have hr : riseB (lastP pre) x = true := by
      cases hp : lastP pre with
      | none => rfl
      | some q => rw [hp] at h1; simp [riseB]; simpa using h1
    have h0 : 0 ≤ x.Peer := by
      cases hp : lastP pre with
      | none => rw [hp] at h1; simp at h1; omega
      | some q => have := hI q hp; rw [hp] at h1; simp at h1; omega
    by_cases h2 : (l.length : Int) ≤ x.Peer
    · right
      refine ⟨_, by rw [decide_eq_false h1, ifb_false, ln_eq, decide_eq_true h2, ifb_true, bad], ?_⟩
      have : sideB l i x = false := by simp [sideB]; omega
      simp [okFrom, this]
    rw [decide_eq_false h1, ifb_false, ln_eq, decide_eq_false h2, ifb_false]
    by_cases h3 : x.Peer = i
    · right
      refine ⟨_, by rw [decide_eq_true h3, bad], ?_⟩
      have : sideB l i x = false := by simp [sideB, h3]
      simp [okFrom, this]
    rw [decide_eq_false h3]
    obtain ⟨e, he1, he2⟩ := at_lt (l := l) (i := x.Peer) (by omega) (by omega)
    have hes := hl.2 e (List.mem_iff_getElem?.2 ⟨_, he2⟩)
    have hsb : sideB l i x = (sideO e i).isSome := by
      rw [sideB, decide_eq_true (show 0 ≤ x.Peer by omega), decide_eq_true (show x.Peer < l.length by omega), decide_eq_false h3, he2]; simp
    dsimp only [m_narthexref12_Graph_j3]
    rw [ifb_false, he1, Option.bind_some, s_r12Side e i (by omega), Option.bind_some]
    cases ho : sideO e i with
    | none =>
      right
      exact ⟨(.inr (graph0, false)), rfl, by rw [ho] at hsb; simp [okFrom, hsb]⟩
    | some y =>
      left
      rw [ho] at hsb
      refine ⟨?_, fun q hq => by rw [lastP_snoc] at hq; simp at hq; omega, by simp [okFrom, hsb, hr, lastP_snoc]⟩
      simp only [sideP, Bool.not_true, ifb_false, m_narthexref12_Graph_j4]
      rw [edgesD_snoc, len_snoc, wr_succ (by omega), lastP_snoc]
      have := edgesD_len i pre
      by_cases h5 : (i : Int) < x.Peer
      · rw [decide_eq_true h5, ifb_true, app_ok _ _ (by omega) (by simp; omega), Option.bind_some]
        simp
      · rw [decide_eq_false h5, ifb_false]; simp
  · intro _
    dsimp only [m_narthexref12_Graph_l2]
    rw [at_get hd, Option.bind_some, nlt_len, ifb_false, m_narthexref12_Graph_j2, wr_succ (by omega)]
    simp [okFrom]
theorem s_r12Graph (l : List Diner) (hl : fewD l) : m_narthexref12_Graph l = some (graphP l) := by
  unfold m_narthexref12_Graph
  have hll := hl.1
  refine (loop_pp0 l (m_narthexref12_Graph_l1 l) (fun pre => ((pre.length : Int), edgesL 0 pre)) (fun pre post => some (if okAll l pre.length post && okG ⟨l.length, edgesL 0 (pre ++ post)⟩ then (⟨l.length, edgesL 0 (pre ++ post)⟩, true) else (graph0, false))) ?_ ?_).trans rfl
  · intro pre d post h
    have hx := mid_get h
    have hm := mid_len h
    have hd := mid_mem h
    dsimp only [m_narthexref12_Graph_l1]
    rw [lt_len hx, ifb_true, at_get hx, Option.bind_some, ifb_not]
    by_cases h1 : d.ID = pre.length
    · rw [decide_eq_true h1, ifb_true, s_r12Graph2 l hl pre.length d hx (by omega) _ (inner_len hl h)]
      cases h2 : okFrom l pre.length none d.Sides with
      | true => left; exact ⟨by rw [if_pos rfl, len_snoc, edgesL_append]; simp [edgesL], by simp [okAll, h1, h2]⟩
      | false => right; exact ⟨_, rfl, by simp [okAll, h2]⟩
    · right
      exact ⟨_, by rw [decide_eq_false h1, ifb_false]; rfl, by simp [okAll, h1, graph0]⟩
  · dsimp only [m_narthexref12_Graph_l1]
    rw [nlt_len, ifb_false, m_narthexref12_Graph_j1, ln_eq, s_r03Check, Option.bind_some]
    simp only [okAll, List.append_nil, Bool.true_and]
    cases okG ⟨l.length, edgesL 0 l⟩ <;> rfl
end NX
end Go.Proofs.Ytadebhbiglmodaa
/-
  Plain laws: who goes ahead of whom. No statement of the seat is proved here.
-/
namespace Go.Proofs.Ytadebhbiglmodaa
namespace NX
open Go
/-- A loop with a counter, its state told by it. -/
theorem loop_nat {τ β : Type} (n : Nat) (body : τ → Option (τ ⊕ β)) (st : Nat → τ) (r : β) (hb : ∀ k, k < n → body (st k) = some (.inl (st (k + 1)))) (he : body (st n) = some (.inr r)) : loop body (st 0) = some r := by
  have key : ∀ m k, m + k = n → loop body (st k) = some r := by
    intro m
    induction m with
    | zero => intro k hk; have : k = n := by omega
              subst this; rw [loop_eq, he]
    | succ m ih => intro k hk; rw [loop_eq, hb k (by omega)]; exact ih (k + 1) (by omega)
  exact key n 0 rfl
theorem loop_natI {τ β : Type} (n : Nat) (body : τ → Option (τ ⊕ β)) (st : Nat → τ) (R : Nat → Option β) (hb : ∀ k, k < n → (body (st k) = some (.inl (st (k + 1))) ∧ R k = R (k + 1)) ∨ ∃ r, body (st k) = some (.inr r) ∧ R k = some r) (he : body (st n) = (R n).map .inr) : loop body (st 0) = R 0 := by
  have key : ∀ m k, m + k = n → loop body (st k) = R k := by
    intro m
    induction m with
    | zero =>
      intro k hk
      have : k = n := by omega
      subst this
      rw [loop_eq, he]
      cases R k <;> rfl
    | succ m ih =>
      intro k hk
      rw [loop_eq]
      rcases hb k (by omega) with ⟨h1, h2⟩ | ⟨r, h1, h2⟩
      · rw [h1, h2]; exact ih (k + 1) (by omega)
      · rw [h1, h2]
  exact key n 0 rfl
theorem s_ContainsMail (l : List Mail) (x : Mail) (hl : l.length ≤ 1000000) : m_slices_Contains_Mail l x = some (decide (x ∈ l)) := by
  have h1 : m_slices_Index_Mail l x = some (plc (l.findIdx? fun y => decide (x = y))) := by
    unfold m_slices_Index_Mail
    refine loop_place l _ (fun y => decide (x = y)) (by omega) (fun k y hy => ?_) ?_
    · simp only [m_slices_Index_Mail_l1, lt_len hy, ifb_true, at_get hy, Option.bind_some, Mail_eqB, wr_succ' hy (show l.length ≤ 4000000000000000000 by omega)]
      cases decide (x = y) <;> rfl
    · simp only [m_slices_Index_Mail_l1, nlt_len, ifb_false, m_slices_Index_Mail_j1, Option.map_some]
  simp only [m_slices_Contains_Mail, h1, Option.bind_some, plc_nonneg, findIdx_any]
  congr 1
  rw [Bool.eq_iff_iff, List.any_eq_true, decide_eq_true_iff]
  constructor
  · rintro ⟨y, hy, h⟩
    have : x = y := by simpa using h
    exact this ▸ hy
  · intro h; exact ⟨x, h, by simp⟩
theorem s_goes (l : List Mail) (a b e : Int) (hl : l.length ≤ 1000000) : m_narthexref12_goes l a b e = some (decide ((⟨a, b, ⟨1, e, 0⟩⟩ : Mail) ∈ l)) := by
  unfold m_narthexref12_goes
  rw [loop_any l (m_narthexref12_goes_l1 l a b e) (fun y => decide (y = ⟨a, b, ⟨1, e, 0⟩⟩)) true false (by omega) (fun k y hy => by
    obtain ⟨y1, y2, y3, y4, y5⟩ := y
    simp only [m_narthexref12_goes_l1, lt_len hy, ifb_true, at_get hy, Option.bind_some, wr_succ' hy (show l.length ≤ 4000000000000000000 by omega), m_narthexref12_goes_j2, Mail.mk.injEq, Msg.mk.injEq]
    by_cases h1 : y1 = a <;> by_cases h2 : y2 = b <;> by_cases h3 : y3 = 1 <;> by_cases h4 : y4 = e <;> by_cases h5 : y5 = 0 <;> simp [h1, h2, h3, h4, h5])
    (by simp only [m_narthexref12_goes_l1, nlt_len, ifb_false, m_narthexref12_goes_j1, Option.map_some])]
  by_cases h : (⟨a, b, ⟨1, e, 0⟩⟩ : Mail) ∈ l
  · have : l.any (fun y => decide (y = (⟨a, b, ⟨1, e, 0⟩⟩ : Mail))) = true := by rw [List.any_eq_true]; exact ⟨_, h, by simp⟩
    simp [this, h]
  · have : l.any (fun y => decide (y = (⟨a, b, ⟨1, e, 0⟩⟩ : Mail))) = false := by
      rw [List.any_eq_false]; intro y hy; simp; rintro rfl; exact h hy
    simp [this, h]
def aheadB (x y : Side) : Bool := (x.Fork && !x.Dirty) || (!x.Fork && (y.Fork && y.Dirty))
theorem s_placeahead (x y : Side) : m_place_ahead x y = some (aheadB x y) := by
  unfold m_place_ahead m_place_ahead_j1 aheadB
  cases x.Fork <;> cases x.Dirty <;> cases y.Fork <;> cases y.Dirty <;> rfl
def dirI (x y : Side) (p q : Bool) : Int := if aheadB x y || (!x.Fork && (!y.Fork && p)) then 1 else if aheadB y x || (!x.Fork && (!y.Fork && q)) then 2 else 0
theorem s_First (x y : Side) (p q : Bool) : m_narthexref12_First x y p q = some (dirI x y p q) := by
  unfold m_narthexref12_First m_narthexref12_First_j1 m_narthexref12_First_j2 m_narthexref12_First_j3 m_narthexref12_First_j4 dirI aheadB
  cases x.Fork <;> cases x.Dirty <;> cases y.Fork <;> cases y.Dirty <;> cases p <;> cases q <;> rfl
def forkMail (a b : Diner) (e : Int) : Mail := ⟨a.ID, b.ID, ⟨1, e, 0⟩⟩
/-- The arc of two nodes, if there is one. -/
def arcPair (mail : List Mail) (a b : Diner) : List Arc :=
  match sideO a b.ID, sideO b a.ID with
  | some x, some y => if decide (x.Epoch = y.Epoch) then
      (if aheadB x y || (!x.Fork && (!y.Fork && decide (forkMail b a x.Epoch ∈ mail))) then [⟨a.ID, b.ID⟩] else
       if aheadB y x || (!x.Fork && (!y.Fork && decide (forkMail a b x.Epoch ∈ mail))) then [⟨b.ID, a.ID⟩] else []) else []
  | _, _ => []
theorem arcPair_len (mail : List Mail) (a b : Diner) : (arcPair mail a b).length ≤ 1 := by
  unfold arcPair
  split
  · split
    · split
      · simp
      · split <;> simp
    · simp
  · simp
theorem flat_len (mail : List Mail) (a : Diner) (l : List Diner) : (l.flatMap (arcPair mail a)).length ≤ l.length := by
  induction l with
  | nil => simp
  | cons b l ih => have := arcPair_len mail a b; rw [List.flatMap_cons, List.length_append, List.length_cons]; omega
def arcsTo (mail : List Mail) (l : List Diner) : Nat → List Arc
  | 0 => []
  | k + 1 => arcsTo mail l k ++ (match l[k]? with | some a => (l.drop (k + 1)).flatMap (arcPair mail a) | none => [])
def arcsP (s : Scene) : List Arc := arcsTo s.Mail s.Diners s.Diners.length
theorem arcsTo_len (mail : List Mail) (l : List Diner) (k : Nat) : (arcsTo mail l k).length ≤ k * l.length := by
  induction k with
  | zero => simp [arcsTo]
  | succ k ih =>
    simp only [arcsTo, List.length_append, Nat.add_mul, Nat.one_mul]
    have : (match l[k]? with | some a => (l.drop (k + 1)).flatMap (arcPair mail a) | none => []).length ≤ l.length := by
      split
      · rename_i a _
        have := flat_len mail a (l.drop (k + 1))
        simp only [List.length_drop] at this
        omega
      · simp
    omega
theorem arcs_small {s : Scene} (hl : fewD s.Diners) {k : Nat} (hk : k ≤ s.Diners.length) : (arcsTo s.Mail s.Diners k).length ≤ 25000000 := by
  have h1 := arcsTo_len s.Mail s.Diners k
  have h2 : k * s.Diners.length ≤ 5000 * 5000 := Nat.mul_le_mul (by have := hl.1; omega) hl.1
  omega
theorem s_Arcs2 (s : Scene) (_ : fewD s.Diners) (hm : s.Mail.length ≤ 5000) (i : Nat) (a : Diner) (ha : a.Sides.length ≤ 5000) (r : List Diner) (hr : ∀ d ∈ r, d.Sides.length ≤ 5000) (hrl : r.length ≤ 5000) (hi : i ≤ 5000) (E : List Arc) (hE : E.length ≤ 25000000) :
    loop (m_place_Arcs_l2 s i a r) (0, E) = some (.inl (((i + 1 : Nat) : Int), E ++ r.flatMap (arcPair s.Mail a))) := by
  have key := loop_pre r (m_place_Arcs_l2 s i a r) (fun pre => ((pre.length : Int), E ++ pre.flatMap (arcPair s.Mail a))) (.inl (((i + 1 : Nat) : Int), E ++ r.flatMap (arcPair s.Mail a))) ?_ ?_
  · simpa using key
  · intro pre b post h
    have hx := mid_get h
    have hml := mid_len h
    have hb := hr b (mid_mem h)
    have hfl := flat_len s.Mail a pre
    dsimp only [m_place_Arcs_l2]
    rw [lt_len hx, ifb_true, at_get hx, Option.bind_some, s_Side a b.ID (by omega), Option.bind_some, s_Side b a.ID (by omega), Option.bind_some, len_snoc, List.flatMap_append, List.flatMap_singleton, ← List.append_assoc]
    have hacc : (E ++ pre.flatMap (arcPair s.Mail a)).length ≤ 25005000 := by rw [List.length_append]; omega
    generalize E ++ pre.flatMap (arcPair s.Mail a) = acc at hacc ⊢
    have next : ∀ (q : List Arc), m_place_Arcs_j3 (pre.length : Int) q = some (.inl (((pre.length + 1 : Nat) : Int), q)) := fun q => by
      dsimp only [m_place_Arcs_j3]; rw [wr_succ (by omega)]
    unfold arcPair
    cases h1 : sideO a b.ID with
    | none => simp only [sideP, Bool.not_false, ifb_true, m_place_Arcs_j4, next, List.append_nil]
    | some x =>
      cases h2 : sideO b a.ID with
      | none => simp only [sideP, Bool.not_false, Bool.not_true, ifb_false, ifb_true, m_place_Arcs_j4, next, List.append_nil]
      | some y =>
        have p1 := s_ContainsMail s.Mail (forkMail b a x.Epoch) (by omega)
        have p2 := s_ContainsMail s.Mail (forkMail a b x.Epoch) (by omega)
        unfold forkMail at p1 p2
        have ap : ∀ (z : Arc), app_ 16 acc [z] = some (acc ++ [z]) := fun z => app_ok _ _ (by omega) (by simp only [List.length_singleton]; omega)
        unfold forkMail
        by_cases h3 : x.Epoch = y.Epoch
        · simp only [sideP, Bool.not_true, ifb_false, m_place_Arcs_j4, h3, decide_true, s_placeahead, Option.bind_some]
          rw [h3] at p1 p2
          have e6 : ∀ z, m_place_Arcs_j6 a (pre.length : Int) acc b z = some (.inl (((pre.length + 1 : Nat) : Int), acc ++ (if z then [⟨b.ID, a.ID⟩] else []))) := by
            intro z
            cases z
            · simp only [m_place_Arcs_j6, ifb_false, next]; simp
            · simp only [m_place_Arcs_j6, ifb_true, ap, Option.bind_some, next]; simp
          have e5 : ∀ z, m_place_Arcs_j5 s a (pre.length : Int) acc b (x, true) (y, true) z = some (.inl (((pre.length + 1 : Nat) : Int), acc ++ (if z then [⟨a.ID, b.ID⟩] else if aheadB y x || (!x.Fork && (!y.Fork && decide ((⟨a.ID, b.ID, ⟨1, y.Epoch, 0⟩⟩ : Mail) ∈ s.Mail))) then [⟨b.ID, a.ID⟩] else []))) := by
            intro z
            cases z
            · simp only [m_place_Arcs_j5, ifb_false, s_placeahead, Option.bind_some, h3, p2, e6]
              cases aheadB y x <;> cases x.Fork <;> cases y.Fork <;> rfl
            · simp only [m_place_Arcs_j5, ifb_true, ap, Option.bind_some, next]; simp
          simp only [p1, Option.bind_some, e5, if_true]
          cases aheadB x y <;> cases x.Fork <;> cases y.Fork <;> rfl
        · simp only [sideP, Bool.not_true, ifb_false, m_place_Arcs_j4, h3, decide_false, Bool.not_false, ifb_true, next]
          simp
  · dsimp only [m_place_Arcs_l2]
    rw [nlt_len, ifb_false, m_place_Arcs_j2, wr_succ (by omega)]; rfl
theorem sub_rest {α : Type} {f : α → List AV} {l : List α} {i : Nat} (h : i < l.length) (hl : l.length ≤ 5000) : sub_ l (wr ((i : Int) + 1)) (ln f l) = some (l.drop (i + 1)) := by
  rw [wr_succ (by omega), ln_eq]
  unfold sub_
  rw [if_pos ⟨by omega, by omega, by omega⟩]
  simp
theorem s_Arcs (s : Scene) (hl : fewD s.Diners) (hm : s.Mail.length ≤ 5000) : m_place_Arcs s = some (arcsP s) := by
  unfold m_place_Arcs
  have hll := hl.1
  refine loop_nat s.Diners.length (m_place_Arcs_l1 s) (fun k => ((k : Int), arcsTo s.Mail s.Diners k)) (arcsP s) (fun k hk => ?_) ?_
  · have hx : s.Diners[k]? = some s.Diners[k] := List.getElem?_eq_getElem hk
    dsimp only [m_place_Arcs_l1]
    rw [lt_len hx, ifb_true, at_get hx, Option.bind_some, sub_rest hk hll, Option.bind_some,
      s_Arcs2 s hl hm k _ (hl.2 _ (List.getElem_mem hk)) _ (fun d hd => hl.2 d (List.mem_of_mem_drop hd)) (by simp; omega) (by omega) _ (arcs_small hl (by omega))]
    simp only [arcsTo, hx]
  · dsimp only [m_place_Arcs_l1]
    rw [nlt_len, ifb_false]; rfl
theorem s_r12Arcs2 (s : Scene) (hl : fewD s.Diners) (hm : s.Mail.length ≤ 5000) (i : Nat) (a : Diner) (hai : s.Diners[i]? = some a) (E : List Arc) (hE : E.length ≤ 25000000) :
    loop (m_narthexref12_Arcs_l2 s i) (((i + 1 : Nat) : Int), E) = some (.inl (((i + 1 : Nat) : Int), E ++ (s.Diners.drop (i + 1)).flatMap (arcPair s.Mail a))) := by
  have hil := (List.getElem?_eq_some_iff.1 hai).1
  have hll := hl.1
  have ha := hl.2 a (List.mem_iff_getElem?.2 ⟨_, hai⟩)
  generalize hrr : s.Diners.drop (i + 1) = r
  have key := loop_pre r (m_narthexref12_Arcs_l2 s i) (fun pre => (((i + 1 + pre.length : Nat) : Int), E ++ pre.flatMap (arcPair s.Mail a))) (.inl (((i + 1 : Nat) : Int), E ++ r.flatMap (arcPair s.Mail a))) ?_ ?_
  · simpa using key
  · intro pre b post h
    have hx : s.Diners[i + 1 + pre.length]? = some b := by
      have := mid_get h
      rw [← hrr, List.getElem?_drop] at this
      exact this
    have hml := (List.getElem?_eq_some_iff.1 hx).1
    have hb := hl.2 b (List.mem_iff_getElem?.2 ⟨_, hx⟩)
    have hfl := flat_len s.Mail a pre
    dsimp only [m_narthexref12_Arcs_l2]
    rw [lt_len hx, ifb_true, at_get hai, Option.bind_some, at_get hx, Option.bind_some]
    dsimp only [m_narthexref12_Arcs_j4]
    rw [s_r12Side a b.ID (by omega), Option.bind_some, s_r12Side b a.ID (by omega), Option.bind_some, len_snoc, List.flatMap_append, List.flatMap_singleton, ← List.append_assoc]
    have hacc : (E ++ pre.flatMap (arcPair s.Mail a)).length ≤ 25005000 := by rw [List.length_append]; omega
    generalize E ++ pre.flatMap (arcPair s.Mail a) = acc at hacc ⊢
    have next : ∀ (q : List Arc), m_narthexref12_Arcs_j3 ((i + 1 + pre.length : Nat) : Int) q = some (.inl (((i + 1 + (pre.length + 1) : Nat) : Int), q)) := fun q => by
      dsimp only [m_narthexref12_Arcs_j3]; rw [wr_succ (by omega)]; rfl
    unfold arcPair
    cases h1 : sideO a b.ID with
    | none => simp only [sideP, Bool.not_false, ifb_true, m_narthexref12_Arcs_j5, next, List.append_nil]
    | some x =>
      cases h2 : sideO b a.ID with
      | none => simp only [sideP, Bool.not_false, Bool.not_true, ifb_false, ifb_true, m_narthexref12_Arcs_j5, next, List.append_nil]
      | some y =>
        have p1 := s_goes s.Mail b.ID a.ID x.Epoch (by omega)
        have p2 := s_goes s.Mail a.ID b.ID x.Epoch (by omega)
        have ap : ∀ (z : Arc), app_ 16 acc [z] = some (acc ++ [z]) := fun z => app_ok _ _ (by omega) (by simp only [List.length_singleton]; omega)
        unfold forkMail
        by_cases h3 : x.Epoch = y.Epoch
        · simp only [sideP, Bool.not_true, ifb_false, m_narthexref12_Arcs_j5, h3, decide_true]
          rw [h3] at p1 p2
          simp only [p1, p2, Option.bind_some, s_First, dirI]
          by_cases c1 : (aheadB x y || (!x.Fork && (!y.Fork && decide ((⟨b.ID, a.ID, ⟨1, y.Epoch, 0⟩⟩ : Mail) ∈ s.Mail)))) = true
          · simp only [c1, if_true, decide_true, ifb_true, ap, Option.bind_some, m_narthexref12_Arcs_j6]
            rw [show decide ((1 : Int) = 2) = false from rfl, ifb_false, next]
          · by_cases c2 : (aheadB y x || (!x.Fork && (!y.Fork && decide ((⟨a.ID, b.ID, ⟨1, y.Epoch, 0⟩⟩ : Mail) ∈ s.Mail)))) = true
            · simp only [c1, c2, if_true, if_false, Bool.false_eq_true, show decide ((2 : Int) = 1) = false from rfl, decide_true, ifb_false, ifb_true, m_narthexref12_Arcs_j6, ap, Option.bind_some, next]
            · simp only [c1, c2, if_false, Bool.false_eq_true, show decide ((0 : Int) = 1) = false from rfl, show decide ((0 : Int) = 2) = false from rfl, ifb_false, m_narthexref12_Arcs_j6, next]
              simp
        · simp only [sideP, Bool.not_true, ifb_false, m_narthexref12_Arcs_j5, h3, decide_false, Bool.not_false, ifb_true, next]
          simp
  · dsimp only [m_narthexref12_Arcs_l2]
    have : i + 1 + r.length = s.Diners.length := by rw [← hrr]; simp; omega
    rw [this, nlt_len, ifb_false, m_narthexref12_Arcs_j2, wr_succ (by omega)]; rfl
theorem s_r12Arcs (s : Scene) (hl : fewD s.Diners) (hm : s.Mail.length ≤ 5000) : m_narthexref12_Arcs s = some (arcsP s) := by
  unfold m_narthexref12_Arcs
  have hll := hl.1
  refine loop_nat s.Diners.length (m_narthexref12_Arcs_l1 s) (fun k => ((k : Int), arcsTo s.Mail s.Diners k)) (arcsP s) (fun k hk => ?_) ?_
  · have hx : s.Diners[k]? = some s.Diners[k] := List.getElem?_eq_getElem hk
    dsimp only [m_narthexref12_Arcs_l1]
    rw [lt_len hx, ifb_true, wr_succ (by omega), s_r12Arcs2 s hl hm k _ hx _ (arcs_small hl (by omega))]
    simp only [arcsTo, hx]
  · dsimp only [m_narthexref12_Arcs_l1]
    rw [nlt_len, ifb_false]; rfl
/-! Two laws -/
theorem p_narthexlaw12_PlaceArcs (x1 : Scene) : m_narthexlaw12_PlaceArcs x1 = some true := by
  simp only [m_narthexlaw12_PlaceArcs, s_awake12, Option.bind_some, Bool.not_true, ifb_false, s_Few]
  cases h : fewB x1 with
  | false => simp only [Bool.not_false, m_narthexlaw12_PlaceArcs_j1, ifb_true, s_awake12, Option.bind_some]
  | true =>
    have hD := fewB_D h
    obtain ⟨h1, h2, _⟩ := fewB_iff h
    simp only [Bool.not_true, m_narthexlaw12_PlaceArcs_j1, ifb_false, s_Own _ hD, Option.bind_some]
    rw [app_ok _ _ (by omega) (by simp; omega), Option.bind_some]
    simp only [List.nil_append]
    rw [s_Arcs _ hD (by show x1.Mail.length ≤ 5000; omega), Option.bind_some, s_r12Arcs x1 hD (by omega), Option.bind_some, s_r04Same _ _ (by
      have e : (arcsP x1).length ≤ x1.Diners.length * x1.Diners.length := arcsTo_len _ _ _
      have : x1.Diners.length * x1.Diners.length ≤ 24 * 24 := Nat.mul_le_mul h1 h1
      show (arcsP x1).length ≤ 1000000
      omega), Option.bind_some, m_narthexlaw12_PlaceArcs_j2]
    simp
theorem edges_small {l : List Diner} (h : ∀ d ∈ l, d.Sides.length ≤ 24) (hl : l.length ≤ 24) : (edgesL 0 l).length ≤ 120000 := by
  have := edgesL_len l 0 fun d hd => by have := h d hd; omega
  omega
theorem graphP_small {l : List Diner} (h : ∀ d ∈ l, d.Sides.length ≤ 24) (hl : l.length ≤ 24) : (graphP l).1.Edges.length ≤ 1000000 := by
  have := edges_small h hl
  unfold graphP
  split
  · dsimp only; omega
  · simp [graph0]
theorem p_narthexlaw12_PlaceTells (x1 x2 : List Diner) (x3 : Diner) (x4 : Int) : m_narthexlaw12_PlaceTells x1 x2 x3 x4 = some true := by
  have yes : m_narthexlaw12_PlaceTells_j1 x1 x2 x3 x4 true = some true := by
    simp only [m_narthexlaw12_PlaceTells_j1, ifb_true, s_awake12, Option.bind_some]
  simp only [m_narthexlaw12_PlaceTells, s_awake12, Option.bind_some, Bool.not_true, ifb_false, s_Few, yes]
  cases h : fewB ⟨x1, []⟩ with
  | false => simp only [Bool.not_false, ifb_true]
  | true =>
    cases h' : fewB ⟨x2, []⟩ with
    | false => simp only [Bool.not_false, Bool.not_true, ifb_false, ifb_true]
    | true =>
      simp only [Bool.not_true, ifb_false, ln_eq]
      by_cases h24 : (24 : Int) < x3.Sides.length
      · rw [decide_eq_true h24, yes]
      · have hD := fewB_D h
        have hD' := fewB_D h'
        dsimp only at hD hD'
        obtain ⟨g1, _, g3⟩ := fewB_iff h
        rw [decide_eq_false h24]
        simp only [m_narthexlaw12_PlaceTells_j1, ifb_false, s_Own _ hD, s_Own _ hD', Option.bind_some, s_Graph _ hD, s_r12Graph _ hD, s_Side x3 x4 (by omega), s_r12Side x3 x4 (by omega), s_r03Same _ _ (graphP_small g3 g1), decide_true, ifb_true, beq_self_eq_true, Bool.and_self,
          s_placeSame x1 x2 hD, s_r12Same x1 x2 hD, m_narthexlaw12_PlaceTells_j2]
end NX
end Go.Proofs.Ytadebhbiglmodaa
/-
  Plain laws: neighbours; the nodes of a graph. No statement of the seat is proved here.
-/
namespace Go.Proofs.Ytadebhbiglmodaa
namespace NX
open Go
/-- Two rows in one order, of the same things, are one. -/
theorem pw_ext {α : Type} {R : α → α → Prop} (irr : ∀ x, ¬ R x x) (asy : ∀ x y, R x y → ¬ R y x) : ∀ {l m : List α}, l.Pairwise R → m.Pairwise R → (∀ x, x ∈ l ↔ x ∈ m) → l = m
  | [], [], _, _, _ => rfl
  | [], y :: m, _, _, h => absurd ((h y).2 (by simp)) (by simp)
  | x :: l, [], _, _, h => absurd ((h x).1 (by simp)) (by simp)
  | x :: l, y :: m, hl, hm, h => by
    rw [List.pairwise_cons] at hl hm
    have hxy : x = y := by
      rcases List.mem_cons.1 ((h x).1 (by simp)) with e | e
      · exact e
      · rcases List.mem_cons.1 ((h y).2 (by simp)) with e2 | e2
        · exact e2.symm
        · exact absurd (hl.1 y e2) (asy _ _ (hm.1 x e))
    subst hxy
    rw [pw_ext irr asy hl.2 hm.2 fun z => ?_]
    constructor
    · intro hz
      rcases List.mem_cons.1 ((h z).1 (List.mem_cons_of_mem _ hz)) with e | e
      · subst e; exact absurd (hl.1 z hz) (irr z)
      · exact e
    · intro hz
      rcases List.mem_cons.1 ((h z).2 (List.mem_cons_of_mem _ hz)) with e | e
      · subst e; exact absurd (hm.1 z hz) (irr z)
      · exact e
theorem Edge.lt_trans {x y z : Edge} (h : x.lt y = true) (k : y.lt z = true) : x.lt z = true := by
  simp only [Edge.lt, Bool.or_eq_true, Bool.and_eq_true, decide_eq_true_eq] at *
  omega
theorem Edge.lt_irr (x : Edge) : ¬ x.lt x = true := by
  simp only [Edge.lt, Bool.or_eq_true, Bool.and_eq_true, decide_eq_true_eq]
  omega
theorem risB_pairwise : ∀ {l : List Edge}, risB l = true → l.Pairwise fun x y => x.lt y = true
  | [], _ => List.Pairwise.nil
  | [x], _ => by simp
  | x :: y :: l, h => by
    simp only [risB, Bool.and_eq_true] at h
    have ih := risB_pairwise h.2
    refine List.pairwise_cons.2 ⟨?_, ih⟩
    intro z hz
    rcases List.mem_cons.1 hz with rfl | hz
    · exact h.1
    · exact Edge.lt_trans h.1 ((List.pairwise_cons.1 ih).1 z hz)
theorem okG_pw {g : Graph} (h : okG g = true) : g.Edges.Pairwise fun x y => x.lt y = true := risB_pairwise (okG_parts h).2.2.2.2
def nearE (a : Int) (e : Edge) : Option Int := if a = e.A then some e.B else if a = e.B then some e.A else none
def nearL (g : Graph) (a : Int) : List Int := g.Edges.filterMap (nearE a)
theorem nearL_pw {g : Graph} (h : okG g = true) (a : Int) : (nearL g a).Pairwise (· < ·) := by
  unfold nearL
  rw [List.pairwise_filterMap]
  obtain ⟨_, _, _, h4, _⟩ := okG_parts h
  refine List.Pairwise.imp_of_mem ?_ (okG_pw h)
  intro x y hx hy hxy b hb b' hb'
  have k1 := h4 x hx
  have k2 := h4 y hy
  simp only [Edge.lt, Bool.or_eq_true, Bool.and_eq_true, decide_eq_true_eq] at hxy
  unfold nearE at hb hb'
  split at hb <;> split at hb'
  · simp at hb hb'; omega
  · split at hb'
    · simp at hb hb'; omega
    · simp at hb'
  · split at hb
    · simp at hb hb'; omega
    · simp at hb
  · split at hb <;> split at hb'
    · simp at hb hb'; omega
    · simp at hb'
    · simp at hb
    · simp at hb
theorem pw_chain {l : List Int} (h : l.Pairwise (· < ·)) {k : Nat} {x y : Int} (hx : l[k]? = some x) (hy : l[k + 1]? = some y) : x < y := by
  rw [List.pairwise_iff_getElem] at h
  obtain ⟨h1, rfl⟩ := List.getElem?_eq_some_iff.1 hx
  obtain ⟨h2, rfl⟩ := List.getElem?_eq_some_iff.1 hy
  exact h k (k + 1) h1 h2 (by omega)
theorem s_Compact (l : List Int) (hl : l.length ≤ 1000000) (h : l.Pairwise (· < ·)) : m_slices_Compact_int l = some l := by
  unfold m_slices_Compact_int
  by_cases h2 : l.length < 2
  · rw [ln_eq, decide_eq_true (by omega), ifb_true]
  · rw [ln_eq, decide_eq_false (by omega), ifb_false]
    refine loop_nat (l.length - 1) (m_slices_Compact_int_l1 l) (fun k => ((k + 1 : Nat) : Int)) l (fun k hk => ?_) ?_
    · have hx : l[k + 1]? = some l[k + 1] := List.getElem?_eq_getElem (by omega)
      have hy : l[k]? = some l[k] := List.getElem?_eq_getElem (by omega)
      have := pw_chain h hy hx
      dsimp only [m_slices_Compact_int_l1]
      rw [lt_len hx, ifb_true, at_get hx, Option.bind_some, wr_pred (by omega), at_get hy, Option.bind_some, decide_eq_false (by omega), ifb_false, wr_succ (by omega)]
    · dsimp only [m_slices_Compact_int_l1]
      rw [show l.length - 1 + 1 = l.length by omega, nlt_len, ifb_false]; rfl
theorem s_setOf (l : List Int) (hl : l.length ≤ 1000000) (h : l.Pairwise (· < ·)) : m_set_Of l = some l := by
  simp only [m_set_Of, m_slices_Clone_int]
  rw [app_ok _ _ (by omega) (by simp; omega), Option.bind_some, List.nil_append, decide_eq_true (by omega), ifb_true, List.mergeSort_of_pairwise (h.imp fun hxy => decide_eq_true (by omega)), s_Compact l hl h]
theorem nearL_len (g : Graph) (a : Int) : (nearL g a).length ≤ g.Edges.length := List.length_filterMap_le _ _
theorem s_Near (g : Graph) (a : Int) : m_graph_Near g a = some (if okG g then nearL g a else []) := by
  simp only [m_graph_Near, s_Check, Option.bind_some]
  cases hg : okG g with
  | false => rfl
  | true =>
    have h400 := (okG_parts hg).2.2.1
    simp only [if_true, decide_true, Bool.not_true, ifb_false]
    refine loop_pre g.Edges _ (fun pre => ((pre.length : Int), pre.filterMap (nearE a))) (nearL g a) (fun pre e post h => ?_) ?_
    · have hx := mid_get h
      have hm := mid_len h
      have hl : (pre.filterMap (nearE a)).length ≤ pre.length := List.length_filterMap_le _ _
      dsimp only [m_graph_Near_l1]
      rw [lt_len hx, ifb_true, at_get hx, Option.bind_some, len_snoc, List.filterMap_append]
      by_cases h1 : a = e.A
      · rw [decide_eq_true h1, ifb_true, app_ok _ _ (by omega) (by simp only [List.length_singleton]; omega), Option.bind_some, m_graph_Near_j2, wr_succ (by omega)]
        simp [nearE, h1]
      · by_cases h2 : a = e.B
        · rw [decide_eq_false h1, ifb_false, decide_eq_true h2, ifb_true, app_ok _ _ (by omega) (by simp only [List.length_singleton]; omega), Option.bind_some, m_graph_Near_j2, wr_succ (by omega)]
          have : ¬ e.B = e.A := fun e' => h1 (h2.trans e')
          simp [nearE, h2, this]
        · rw [decide_eq_false h1, ifb_false, decide_eq_false h2, ifb_false, m_graph_Near_j2, wr_succ (by omega)]
          simp [nearE, h1, h2]
    · dsimp only [m_graph_Near_l1]
      rw [nlt_len, ifb_false, m_graph_Near_j1]
      have : (g.Edges.filterMap (nearE a)) = nearL g a := rfl
      rw [this, s_setOf _ (by have := nearL_len g a; omega) (nearL_pw hg a)]
      rfl
theorem mem_nearL {g : Graph} (h : okG g = true) {a b : Int} : b ∈ nearL g a ↔ (⟨a, b⟩ : Edge) ∈ g.Edges ∨ (⟨b, a⟩ : Edge) ∈ g.Edges := by
  obtain ⟨_, _, _, h4, _⟩ := okG_parts h
  unfold nearL
  rw [List.mem_filterMap]
  constructor
  · rintro ⟨e, he, hb⟩
    unfold nearE at hb
    split at hb
    · rename_i h1
      simp at hb; subst hb; subst h1; exact .inl he
    · split at hb
      · rename_i h2
        simp at hb; subst hb; subst h2; exact .inr he
      · simp at hb
  · rintro (he | he)
    · exact ⟨_, he, by simp [nearE]⟩
    · have := h4 _ he
      dsimp only at this
      exact ⟨_, he, by unfold nearE; rw [if_neg (by dsimp only; omega), if_pos rfl]⟩
theorem hasB_iff {g : Graph} (h : okG g = true) {a b : Int} : hasB g a b = true ↔ b ∈ nearL g a := by
  rw [mem_nearL h]
  obtain ⟨_, _, _, h4, _⟩ := okG_parts h
  simp only [hasB, List.any_eq_true, Bool.or_eq_true, Bool.and_eq_true, decide_eq_true_eq]
  constructor
  · rintro ⟨e, he, (⟨rfl, rfl, _⟩ | ⟨rfl, rfl, _⟩)⟩
    · exact .inl he
    · exact .inr he
  · rintro (he | he)
    · have := h4 _ he; dsimp only at this
      exact ⟨_, he, .inl ⟨rfl, rfl, by omega⟩⟩
    · have := h4 _ he; dsimp only at this
      exact ⟨_, he, .inr ⟨rfl, rfl, by omega⟩⟩
theorem near_range {g : Graph} (h : okG g = true) {a b : Int} (hb : b ∈ nearL g a) : 0 ≤ b ∧ b < g.N ∧ b ≠ a ∧ 0 ≤ a ∧ a < g.N := by
  obtain ⟨_, _, _, h4, _⟩ := okG_parts h
  rcases (mem_nearL h).1 hb with he | he
  · have := h4 _ he; dsimp only at this; omega
  · have := h4 _ he; dsimp only at this; omega
/-! The nodes of a graph -/
def sideT (c : List Int) (a b : Int) : Side := ⟨b, 1, 0, decide (cg c b < cg c a), decide (cg c b < cg c a), !decide (cg c b < cg c a), decide (cg c b < cg c a), !decide (cg c b < cg c a)⟩
def dinerT (g : Graph) (c : List Int) (a : Nat) : Diner := ⟨a, 0, (nearL g a).map (sideT c a)⟩
def tableT (g : Graph) (c : List Int) : List Diner := (List.range g.N.toNat).map (dinerT g c)
theorem map_range_succ {α : Type} (f : Nat → α) (k : Nat) : (List.range (k + 1)).map f = (List.range k).map f ++ [f k] := by simp [List.range_succ]
theorem s_Table2 (g : Graph) (hg : okG g = true) (c : List Int) (hc : (c.length : Int) = g.N) (a : Nat) (ha : (a : Int) < g.N) (L : List Diner) (hL : L.length ≤ 1000) :
    loop (m_place_Table_l2 c a L (nearL g a)) (0, []) = some (.inl (((a + 1 : Nat) : Int), L ++ [dinerT g c a])) := by
  obtain ⟨g1, g2, g3, _, _⟩ := okG_parts hg
  have hnl := nearL_len g a
  refine loop_pre (nearL g a) _ (fun pre => ((pre.length : Int), pre.map (sideT c a))) _ (fun pre b post h => ?_) ?_
  · have hx := mid_get h
    have hm := mid_len h
    obtain ⟨b1, b2, _, _, _⟩ := near_range hg (mid_mem h)
    dsimp only [m_place_Table_l2]
    rw [lt_len hx, ifb_true, at_get hx, Option.bind_some, at_cg (c := c) (Int.natCast_nonneg a) (by omega), Option.bind_some, at_cg (c := c) b1 (by omega), Option.bind_some, app_ok _ _ (by omega) (by simp; omega), Option.bind_some, len_snoc, wr_succ (by omega), List.map_append]
    rfl
  · dsimp only [m_place_Table_l2]
    rw [nlt_len, ifb_false, m_place_Table_j2, app_ok _ _ (by omega) (by simp; omega), Option.bind_some, wr_succ (by omega)]
    rfl
theorem rightB_len {g : Graph} {c : List Int} (h : rightB g c = true) : (c.length : Int) = g.N := by
  simp only [rightB, Bool.and_eq_true, decide_eq_true_eq] at h; exact h.1
theorem s_Table (g : Graph) (c : List Int) (hc : c.length ≤ 1000000) : m_place_Table g c = some (if okG g then (if rightB g c then (tableT g c, 0) else ([], 120)) else ([], 30)) := by
  simp only [m_place_Table, s_Check, Option.bind_some]
  cases hg : okG g with
  | false => rfl
  | true =>
    obtain ⟨g1, g2, _, _, _⟩ := okG_parts hg
    simp only [if_true, decide_true, Bool.not_true, ifb_false, s_Right g c hc, hg, Bool.true_and, Option.bind_some]
    cases hr : rightB g c with
    | false => rfl
    | true =>
      simp only [Bool.not_true, ifb_false, if_true]
      refine loop_nat g.N.toNat (m_place_Table_l1 g c) (fun k => ((k : Int), (List.range k).map (dinerT g c))) _ (fun k hk => ?_) ?_
      · dsimp only [m_place_Table_l1]
        rw [decide_eq_true (by omega), ifb_true, s_Near, hg, if_pos rfl, Option.bind_some, s_Table2 g hg c (rightB_len hr) k (by omega) _ (by simp; omega), map_range_succ]
      · dsimp only [m_place_Table_l1]
        rw [decide_eq_false (by omega), ifb_false]
        rfl
theorem rightB_ne {g : Graph} (hg : okG g = true) {c : List Int} (h : rightB g c = true) {a b : Int} (hb : b ∈ nearL g a) : cg c a ≠ cg c b := by
  simp only [rightB, Bool.and_eq_true, List.all_eq_true, Bool.not_eq_true', decide_eq_false_iff_not] at h
  rcases (mem_nearL hg).1 hb with he | he
  · exact h.2.2 _ he
  · exact fun e => h.2.2 _ he e.symm
/-- All neighbours are found one by one. -/
theorem near_filter {g : Graph} (hg : okG g = true) (a : Int) : nearL g a = ((List.range g.N.toNat).map (fun k : Nat => (k : Int))).filter (fun b => hasB g a b) := by
  refine pw_ext (fun x => by omega) (fun x y h => by omega) (nearL_pw hg a) ?_ fun x => ?_
  · refine List.Pairwise.filter _ ?_
    rw [List.pairwise_map]
    exact List.pairwise_lt_range.imp fun h => by omega
  · rw [List.mem_filter, List.mem_map, hasB_iff hg]
    constructor
    · intro h
      obtain ⟨h1, h2, _⟩ := near_range hg h
      exact ⟨⟨x.toNat, by simp; omega, by omega⟩, h⟩
    · exact fun h => h.2
theorem filter_range_succ (p : Int → Bool) (k : Nat) : (((List.range (k + 1)).map (fun k : Nat => (k : Int))).filter p) = ((List.range k).map (fun k : Nat => (k : Int))).filter p ++ (if p k then [(k : Int)] else []) := by
  rw [map_range_succ, List.filter_append]
  cases h : p k <;> simp [h]
theorem s_r12Table2 (g : Graph) (hg : okG g = true) (c : List Int) (hr : rightB g c = true) (a : Nat) (ha : (a : Int) < g.N) (L : List Diner) (hL : L.length ≤ 1000) :
    loop (m_narthexref12_Table_l2 g c a L) (0, []) = some (.inl (((a + 1 : Nat) : Int), L ++ [dinerT g c a])) := by
  obtain ⟨g1, g2, g3, _, _⟩ := okG_parts hg
  have hc := rightB_len hr
  refine loop_nat g.N.toNat (m_narthexref12_Table_l2 g c a L) (fun k => ((k : Int), (((List.range k).map (fun k : Nat => (k : Int))).filter (fun b => hasB g a b)).map (sideT c a))) _ (fun k hk => ?_) ?_
  · have hlen : (((List.range k).map (fun k : Nat => (k : Int))).filter (fun b => hasB g a b)).length ≤ 64 := by
      have := List.length_filter_le (fun b => hasB g a b) ((List.range k).map (fun k : Nat => (k : Int)))
      simp only [List.length_map, List.length_range] at this
      omega
    dsimp only [m_narthexref12_Table_l2]
    rw [decide_eq_true (by omega), ifb_true, s_r03Has g a k (by omega), Option.bind_some, filter_range_succ, List.map_append]
    cases hh : hasB g a k with
    | false =>
      rw [Bool.not_false, ifb_true, m_narthexref12_Table_j3, wr_succ (by omega)]
      simp
    | true =>
      have hne := rightB_ne hg hr ((hasB_iff hg).1 hh)
      rw [Bool.not_true, ifb_false, at_cg (c := c) (Int.natCast_nonneg a) (by omega), Option.bind_some, at_cg (c := c) (Int.natCast_nonneg k) (by omega), Option.bind_some]
      by_cases h1 : cg c a < cg c k
      · rw [decide_eq_true h1, ifb_true, m_narthexref12_Table_j4, app_ok _ _ (by omega) (by simp only [List.length_map, List.length_singleton]; omega), Option.bind_some, m_narthexref12_Table_j3, wr_succ (by omega)]
        have : ¬ cg c k < cg c a := by omega
        simp [sideT, this]
      · rw [decide_eq_false h1, ifb_false, m_narthexref12_Table_j4, app_ok _ _ (by omega) (by simp only [List.length_map, List.length_singleton]; omega), Option.bind_some, m_narthexref12_Table_j3, wr_succ (by omega)]
        have : cg c k < cg c a := by omega
        simp [sideT, this]
  · dsimp only [m_narthexref12_Table_l2]
    rw [decide_eq_false (by omega), ifb_false, ← near_filter hg, m_narthexref12_Table_j2, app_ok _ _ (by omega) (by simp; omega), Option.bind_some, wr_succ (by omega)]
    rfl
theorem s_r12Table (g : Graph) (hg : okG g = true) (c : List Int) (hr : rightB g c = true) : m_narthexref12_Table g c = some (tableT g c) := by
  obtain ⟨g1, g2, _, _, _⟩ := okG_parts hg
  unfold m_narthexref12_Table
  refine loop_nat g.N.toNat (m_narthexref12_Table_l1 g c) (fun k => ((k : Int), (List.range k).map (dinerT g c))) _ (fun k hk => ?_) ?_
  · dsimp only [m_narthexref12_Table_l1]
    rw [decide_eq_true (by omega), ifb_true, s_r12Table2 g hg c hr k (by omega) _ (by simp; omega), map_range_succ]
  · dsimp only [m_narthexref12_Table_l1]
    rw [decide_eq_false (by omega), ifb_false]
    rfl
theorem tableT_few {g : Graph} (hg : okG g = true) (c : List Int) : fewD (tableT g c) := by
  obtain ⟨g1, g2, g3, _, _⟩ := okG_parts hg
  refine ⟨by simp [tableT]; omega, fun d hd => ?_⟩
  obtain ⟨a, _, rfl⟩ := List.mem_map.1 hd
  have := nearL_len g a
  simp only [dinerT, List.length_map]; omega
theorem p_narthexlaw12_PlaceTables (g : Graph) (c : List Int) : m_narthexlaw12_PlaceTables g c = some true := by
  have yes : m_narthexlaw12_PlaceTables_j1 g c true = some true := by
    simp only [m_narthexlaw12_PlaceTables_j1, ifb_true, s_awake12, Option.bind_some]
  simp only [m_narthexlaw12_PlaceTables, s_awake12, Option.bind_some, Bool.not_true, ifb_false, yes, ln_eq]
  by_cases h60 : (60 : Int) < g.Edges.length
  · rw [decide_eq_true h60, ifb_true]
  rw [decide_eq_false h60, ifb_false]
  by_cases h70 : (70 : Int) < c.length
  · rw [decide_eq_true h70, yes]
  rw [decide_eq_false h70]
  simp only [m_narthexlaw12_PlaceTables_j1, ifb_false, s_Own03 g (by omega), Option.bind_some]
  rw [app_ok _ _ (by omega) (by simp; omega), Option.bind_some, List.nil_append, s_Table g c (by omega), Option.bind_some, s_r03Check, Option.bind_some]
  cases hg : okG g with
  | false => rfl
  | true =>
    simp only [Bool.not_true, ifb_false, if_true, s_r11Right g c (by omega), hg, Bool.true_and, Option.bind_some]
    cases hr : rightB g c with
    | false => rfl
    | true =>
      simp only [Bool.not_true, ifb_false, if_true, s_r12Table g hg c hr, Option.bind_some, s_r12Same _ _ (tableT_few hg c), decide_true, ifb_true, m_narthexlaw12_PlaceTables_j4]
end NX
end Go.Proofs.Ytadebhbiglmodaa
