/-
  The function narthex/narthexlaw12.PlaceTells: its code compiled, a model, and that the code answers as the model. Written by a program of ours (lb.py). No statement of the seat is proved here.
-/
import Derived.KernelRfl
import Derived.Test.YtadebhbiglmodaaKPlaceArcs4
import Derived.Test.YtadebhbiglmodaaKPlaceArcs3
import Derived.Test.YtadebhbiglmodaaKPlaceArcs2
namespace Go.Proofs.Ytadebhbiglmodaa
namespace NX
open Go
set_option maxRecDepth 100000
set_option maxHeartbeats 4000000
def e_narthexlaw12_PlaceTells : EC := .seq (.reg [⟨(some 6), none, .box 39 3 (.t 2)⟩, ⟨(some 8), none, .mv (.c .ff)⟩]) (.seq (.seq (.reg [⟨(some 17), none, .call 13 []⟩, ⟨(some 18), none, .not (.t 17)⟩, ⟨(some 19), none, .mv (.t 18)⟩, ⟨(some 20), (some (19, false)), .mv (.t 0)⟩, ⟨(some 21), (some (19, false)), .build [.nl, .nl] [(0, 1, (.t 20))]⟩, ⟨(some 22), (some (19, false)), .call 20 [(.t 21)]⟩, ⟨(some 23), (some (19, false)), .not (.t 22)⟩, ⟨(some 24), none, .pick (.t 19) (.c .tt) (.t 23)⟩, ⟨(some 25), none, .mv (.t 24)⟩, ⟨(some 26), (some (25, false)), .mv (.t 1)⟩, ⟨(some 27), (some (25, false)), .build [.nl, .nl] [(0, 1, (.t 26))]⟩, ⟨(some 28), (some (25, false)), .call 20 [(.t 27)]⟩, ⟨(some 29), (some (25, false)), .not (.t 28)⟩, ⟨(some 30), none, .pick (.t 25) (.c .tt) (.t 29)⟩, ⟨(some 31), none, .mv (.t 30)⟩, ⟨(some 32), (some (31, false)), .fld 2 (.t 6)⟩, ⟨(some 33), (some (31, false)), .load (.t 32)⟩, ⟨(some 34), (some (31, false)), .len (.t 33)⟩, ⟨(some 35), (some (31, false)), .bin .gtr (.t 34) (.c (.iv 24))⟩, ⟨(some 36), none, .pick (.t 31) (.c .tt) (.t 35)⟩]) (.ite (.t 36) (.seq (.reg [⟨(some 37), none, .call 13 []⟩, ⟨(some 8), none, .mv (.t 37)⟩]) (.ret)) (.skip))) (.seq (.reg [⟨(some 39), none, .mv (.t 0)⟩, ⟨(some 40), none, .call 22 [(.t 39)]⟩, ⟨(some 41), none, .call 21 [(.t 40)]⟩, ⟨(some 38), none, .mv (.t 41)⟩, ⟨(some 42), none, .ext (.t 38) 0⟩, ⟨(some 43), none, .ext (.t 38) 1⟩, ⟨(some 9), none, .alloc 24 [.iv 0, .nl]⟩, ⟨none, none, .store 2 (.t 9) (.t 42)⟩, ⟨(some 10), none, .mv (.t 43)⟩]) (.seq (.reg [⟨(some 45), none, .mv (.t 0)⟩, ⟨(some 46), none, .call 23 [(.t 45)]⟩, ⟨(some 44), none, .mv (.t 46)⟩, ⟨(some 47), none, .ext (.t 44) 0⟩, ⟨(some 48), none, .ext (.t 44) 1⟩, ⟨(some 11), none, .alloc 24 [.iv 0, .nl]⟩, ⟨none, none, .store 2 (.t 11) (.t 47)⟩, ⟨(some 12), none, .mv (.t 48)⟩]) (.seq (.reg [⟨(some 50), none, .loadA 3 (.t 6)⟩, ⟨(some 51), none, .mv (.t 3)⟩, ⟨(some 52), none, .call 24 [(.t 50), (.t 51)]⟩, ⟨(some 49), none, .mv (.t 52)⟩, ⟨(some 53), none, .ext (.t 49) 0⟩, ⟨(some 54), none, .ext (.t 49) 1⟩, ⟨(some 13), none, .alloc 49 [.iv 0, .iv 0, .iv 0, .ff, .ff, .ff, .ff, .ff]⟩, ⟨none, none, .store 8 (.t 13) (.t 53)⟩, ⟨(some 14), none, .mv (.t 54)⟩]) (.seq (.reg [⟨(some 56), none, .loadA 3 (.t 6)⟩, ⟨(some 57), none, .mv (.t 3)⟩, ⟨(some 58), none, .call 25 [(.t 56), (.t 57)]⟩, ⟨(some 55), none, .mv (.t 58)⟩, ⟨(some 59), none, .ext (.t 55) 0⟩, ⟨(some 60), none, .ext (.t 55) 1⟩, ⟨(some 15), none, .alloc 49 [.iv 0, .iv 0, .iv 0, .ff, .ff, .ff, .ff, .ff]⟩, ⟨none, none, .store 8 (.t 15) (.t 59)⟩, ⟨(some 16), none, .mv (.t 60)⟩]) (.seq (.reg [⟨(some 61), none, .loadA 2 (.t 9)⟩, ⟨(some 62), none, .loadA 2 (.t 11)⟩, ⟨(some 63), none, .call 26 [(.t 61), (.t 62)]⟩, ⟨(some 64), none, .mv (.t 63)⟩, ⟨(some 65), (some (64, true)), .mv (.t 10)⟩, ⟨(some 66), (some (64, true)), .mv (.t 12)⟩, ⟨(some 67), (some (64, true)), .bq false (.t 65) (.t 66)⟩, ⟨(some 68), none, .pick (.t 64) (.t 67) (.c .ff)⟩, ⟨(some 69), none, .mv (.t 68)⟩, ⟨(some 70), (some (69, true)), .loadA 8 (.t 13)⟩, ⟨(some 71), (some (69, true)), .loadA 8 (.t 15)⟩, ⟨(some 72), (some (69, true)), .eqs false [true, true, true, false, false, false, false, false] (.t 70) (.t 71)⟩, ⟨(some 73), none, .pick (.t 69) (.t 72) (.c .ff)⟩, ⟨(some 74), none, .mv (.t 73)⟩, ⟨(some 75), (some (74, true)), .mv (.t 14)⟩, ⟨(some 76), (some (74, true)), .mv (.t 16)⟩, ⟨(some 77), (some (74, true)), .bq false (.t 75) (.t 76)⟩, ⟨(some 78), none, .pick (.t 74) (.t 77) (.c .ff)⟩, ⟨(some 79), none, .mv (.t 78)⟩, ⟨(some 80), (some (79, true)), .mv (.t 0)⟩, ⟨(some 81), (some (79, true)), .call 22 [(.t 80)]⟩, ⟨(some 82), (some (79, true)), .mv (.t 1)⟩, ⟨(some 83), (some (79, true)), .call 22 [(.t 82)]⟩, ⟨(some 84), (some (79, true)), .call 27 [(.t 81), (.t 83)]⟩, ⟨(some 85), (some (79, true)), .mv (.t 0)⟩, ⟨(some 86), (some (79, true)), .mv (.t 1)⟩, ⟨(some 87), (some (79, true)), .call 18 [(.t 85), (.t 86)]⟩, ⟨(some 88), (some (79, true)), .bq false (.t 84) (.t 87)⟩, ⟨(some 89), none, .pick (.t 79) (.t 88) (.c .ff)⟩, ⟨(some 8), none, .mv (.t 89)⟩]) (.ret)))))))
theorem ok_narthexlaw12_PlaceTells : FnOK Try.prog 4 Try.f4 e_narthexlaw12_PlaceTells [.t 8] 4 86 := ⟨by kernel_rfl, ⟨_, rfl, by kernel_rfl⟩, by kernel_rfl, by kernel_rfl⟩
/- narthex/narthexlaw12.PlaceTells -/
noncomputable def m_narthexlaw12_PlaceTells_j2  : Bool → Option Bool
| x20 =>
 some x20
noncomputable def m_narthexlaw12_PlaceTells_j1 (x1 : (List Diner)) (x2 : (List Diner)) (x3 : Diner) (x4 : Int) : Bool → Option Bool
| x8 =>
 ifb x8 (
 (m_narthexlaw12_awake).bind fun x9 =>
 some x9) (
 (m_narthexlaw12_Own x1).bind fun x10 =>
 (m_place_Graph x10).bind fun x11 =>
 (m_narthexref12_Graph x1).bind fun x12 =>
 (m_place_Side x3 x4).bind fun x13 =>
 (m_narthexref12_Side x3 x4).bind fun x14 =>
 (m_narthexref03_Same x11.1 x12.1).bind fun x15 =>
 ifb x15 (
 ifb (x11.2 == x12.2) (
 ifb (decide (x13.1.Peer = x14.1.Peer) && (decide (x13.1.Epoch = x14.1.Epoch) && (decide (x13.1.State = x14.1.State) && ((x13.1.Fork == x14.1.Fork) && ((x13.1.Dirty == x14.1.Dirty) && ((x13.1.Token == x14.1.Token) && ((x13.1.Bottle == x14.1.Bottle) && ((x13.1.Ask == x14.1.Ask) && true)))))))) (
 ifb (x13.2 == x14.2) (
 (m_narthexlaw12_Own x1).bind fun x16 =>
 (m_narthexlaw12_Own x2).bind fun x17 =>
 (m_place_Same x16 x17).bind fun x18 =>
 (m_narthexref12_Same x1 x2).bind fun x19 =>
 m_narthexlaw12_PlaceTells_j2 (x18 == x19)) (
 m_narthexlaw12_PlaceTells_j2 false)) (
 m_narthexlaw12_PlaceTells_j2 false)) (
 m_narthexlaw12_PlaceTells_j2 false)) (
 m_narthexlaw12_PlaceTells_j2 false))
noncomputable def m_narthexlaw12_PlaceTells (x1 : (List Diner)) (x2 : (List Diner)) (x3 : Diner) (x4 : Int) : Option Bool :=
 (m_narthexlaw12_awake).bind fun x5 =>
 ifb (!x5) (
 (m_narthexlaw12_PlaceTells_j1 x1 x2 x3 x4) true) (
 (m_narthexref12_Few ((Scene.mk x1 (([] : (List Mail)))))).bind fun x6 =>
 ifb (!x6) (
 (m_narthexlaw12_PlaceTells_j1 x1 x2 x3 x4) true) (
 (m_narthexref12_Few ((Scene.mk x2 (([] : (List Mail)))))).bind fun x7 =>
 ifb (!x7) (
 (m_narthexlaw12_PlaceTells_j1 x1 x2 x3 x4) true) (
 (m_narthexlaw12_PlaceTells_j1 x1 x2 x3 x4) (decide (24 < (ln Side.row x3.Sides))))))
theorem k_narthexlaw12_PlaceTells (x1 : (List Diner)) (x2 : (List Diner)) (x3 : Diner) (x4 : Int) (r : Bool) (h : m_narthexlaw12_PlaceTells x1 x2 x3 x4 = some r) : FunP Try.prog 4 [.sl 3 (List.map Diner.row x1), .sl 3 (List.map Diner.row x2), .agg (Diner.row x3), .iv x4] (.bv r) := by
  refine FunP_intro ok_narthexlaw12_PlaceTells rfl rfl fun w0 H0 => ?_
  rw [m_narthexlaw12_PlaceTells] at h
  refine V_go 8 ?_
  dsimp only [e_narthexlaw12_PlaceTells, go_sem, Nat.reduceBEq, Nat.reduceAdd]
  refine ⟨by simp, ?_⟩
  obtain ⟨x5, ex5, h⟩ := Option.bind_eq_some_iff.1 h
  refine V_call trivial (k_narthexlaw12_awake _ ex5) (by first | exact leL_refl _ | simp [go_sem]) (by first | rfl | simp [go_sem]) ?_
  refine V_go 2 ?_
  dsimp only [e_narthexlaw12_PlaceTells, go_sem, Nat.reduceBEq, Nat.reduceAdd]
  refine ⟨by simp, ?_⟩
  refine V_join (fun (x8 : Bool) => (⟨(.sl 3 (List.map Diner.row x1) :: .sl 3 (List.map Diner.row x2) :: .any :: .iv x4 :: .any :: .any :: .ptr 0 0 :: an 29 (.bv x8 :: an 53 [])), [some ⟨39, [.iv x3.ID, .iv x3.Phase, .sl 8 (List.map Side.row x3.Sides)]⟩], []⟩ : St)) (m_narthexlaw12_PlaceTells_j1 x1 x2 x3 x4) r ?_ fun J1 => ?_
  · intro x8 h
    rw [m_narthexlaw12_PlaceTells_j1] at h
    try dsimp only
    refine M_ite h rfl (fun hb h => ?_) (fun hb h => ?_)
    · refine V_go 2 ?_
      dsimp only [e_narthexlaw12_PlaceTells, go_sem, Nat.reduceBEq, Nat.reduceAdd]
      refine ⟨by simp, ?_⟩
      obtain ⟨x9, ex9, h⟩ := Option.bind_eq_some_iff.1 h
      refine V_call trivial (k_narthexlaw12_awake _ ex9) (by first | exact leL_refl _ | simp [go_sem]) (by first | rfl | simp [go_sem]) ?_
      refine V_go 2 ?_
      dsimp only [e_narthexlaw12_PlaceTells, go_sem, Nat.reduceBEq, Nat.reduceAdd]
      refine ⟨by simp, ?_⟩
      exact M_done (res := fun (r : Bool) => .bv r) ok_narthexlaw12_PlaceTells h (by first | exact le_refl _ | simp [go_sem])
    · refine V_go 4 ?_
      dsimp only [e_narthexlaw12_PlaceTells, go_sem, Nat.reduceBEq, Nat.reduceAdd]
      refine ⟨by simp, ?_⟩
      obtain ⟨x10, ex10, h⟩ := Option.bind_eq_some_iff.1 h
      refine V_call trivial (k_narthexlaw12_Own x1 _ ex10) (by first | exact leL_refl _ | simp [go_sem]) (by first | rfl | simp [go_sem]) ?_
      obtain ⟨x11, ex11, h⟩ := Option.bind_eq_some_iff.1 h
      refine V_call trivial (k_place_Graph x10 _ ex11) (by first | exact leL_refl _ | simp [go_sem]) (by first | rfl | simp [go_sem]) ?_
      refine V_go 10 ?_
      dsimp only [e_narthexlaw12_PlaceTells, go_sem, Nat.reduceBEq, Nat.reduceAdd]
      refine ⟨by simp, ?_⟩
      obtain ⟨x12, ex12, h⟩ := Option.bind_eq_some_iff.1 h
      refine V_call trivial (k_narthexref12_Graph x1 _ ex12) (by first | exact leL_refl _ | simp [go_sem]) (by first | rfl | simp [go_sem]) ?_
      refine V_go 11 ?_
      dsimp only [e_narthexlaw12_PlaceTells, go_sem, Nat.reduceBEq, Nat.reduceAdd]
      refine ⟨by simp, ?_⟩
      obtain ⟨x13, ex13, h⟩ := Option.bind_eq_some_iff.1 h
      refine V_call trivial (k_place_Side x3 x4 _ ex13) (by first | exact leL_refl _ | simp [go_sem]) (by first | rfl | simp [go_sem]) ?_
      refine V_go 11 ?_
      dsimp only [e_narthexlaw12_PlaceTells, go_sem, Nat.reduceBEq, Nat.reduceAdd]
      refine ⟨by simp, ?_⟩
      obtain ⟨x14, ex14, h⟩ := Option.bind_eq_some_iff.1 h
      refine V_call trivial (k_narthexref12_Side x3 x4 _ ex14) (by first | exact leL_refl _ | simp [go_sem]) (by first | rfl | simp [go_sem]) ?_
      refine V_go 11 ?_
      dsimp only [e_narthexlaw12_PlaceTells, go_sem, Nat.reduceBEq, Nat.reduceAdd]
      refine ⟨by simp, ?_⟩
      obtain ⟨x15, ex15, h⟩ := Option.bind_eq_some_iff.1 h
      refine V_call trivial (k_narthexref03_Same x11.1 x12.1 _ ex15) (by first | exact leL_refl _ | simp [go_sem]) (by first | rfl | simp [go_sem]) ?_
      refine V_go 1 ?_
      dsimp only [e_narthexlaw12_PlaceTells, go_sem, Nat.reduceBEq, Nat.reduceAdd]
      refine ⟨by simp, ?_⟩
      refine V_join (fun (x20 : Bool) => (⟨(an 8 (.bv x20 :: an 81 [])), [], []⟩ : St)) m_narthexlaw12_PlaceTells_j2 r ?_ fun J2 => ?_
      · intro x20 h
        rw [m_narthexlaw12_PlaceTells_j2] at h
        try dsimp only
        exact M_done (res := fun (r : Bool) => .bv r) ok_narthexlaw12_PlaceTells h (by first | exact le_refl _ | simp [go_sem])
      · refine M_case 64 h rfl (fun hb h => ?_) (fun hb h => ?_)
        · dsimp only [go_sem, Nat.reduceBEq, Nat.reduceAdd]
          refine V_go 5 ?_
          dsimp only [e_narthexlaw12_PlaceTells, go_sem, Nat.reduceBEq, Nat.reduceAdd]
          refine ⟨by simp, ?_⟩
          refine M_case 69 h rfl (fun hb h => ?_) (fun hb h => ?_)
          · dsimp only [go_sem, Nat.reduceBEq, Nat.reduceAdd]
            refine V_go 5 ?_
            dsimp only [e_narthexlaw12_PlaceTells, go_sem, Nat.reduceBEq, Nat.reduceAdd]
            refine ⟨by simp, ?_⟩
            refine M_case 74 h rfl (fun hb h => ?_) (fun hb h => ?_)
            · dsimp only [go_sem, Nat.reduceBEq, Nat.reduceAdd]
              refine V_go 5 ?_
              dsimp only [e_narthexlaw12_PlaceTells, go_sem, Nat.reduceBEq, Nat.reduceAdd]
              refine ⟨by simp, ?_⟩
              refine M_case 79 h rfl (fun hb h => ?_) (fun hb h => ?_)
              · dsimp only [go_sem, Nat.reduceBEq, Nat.reduceAdd]
                refine V_go 1 ?_
                dsimp only [e_narthexlaw12_PlaceTells, go_sem, Nat.reduceBEq, Nat.reduceAdd]
                refine ⟨by simp, ?_⟩
                obtain ⟨x16, ex16, h⟩ := Option.bind_eq_some_iff.1 h
                refine V_call trivial (k_narthexlaw12_Own x1 _ ex16) (by first | exact leL_refl _ | simp [go_sem]) (by first | rfl | simp [go_sem]) ?_
                refine V_go 1 ?_
                dsimp only [e_narthexlaw12_PlaceTells, go_sem, Nat.reduceBEq, Nat.reduceAdd]
                refine ⟨by simp, ?_⟩
                obtain ⟨x17, ex17, h⟩ := Option.bind_eq_some_iff.1 h
                refine V_call trivial (k_narthexlaw12_Own x2 _ ex17) (by first | exact leL_refl _ | simp [go_sem]) (by first | rfl | simp [go_sem]) ?_
                obtain ⟨x18, ex18, h⟩ := Option.bind_eq_some_iff.1 h
                refine V_call trivial (k_place_Same x16 x17 _ ex18) (by first | exact leL_refl _ | simp [go_sem]) (by first | rfl | simp [go_sem]) ?_
                refine V_go 2 ?_
                dsimp only [e_narthexlaw12_PlaceTells, go_sem, Nat.reduceBEq, Nat.reduceAdd]
                refine ⟨by simp, ?_⟩
                obtain ⟨x19, ex19, h⟩ := Option.bind_eq_some_iff.1 h
                refine V_call trivial (k_narthexref12_Same x1 x2 _ ex19) (by first | exact leL_refl _ | simp [go_sem]) (by first | rfl | simp [go_sem]) ?_
                refine V_go 4 ?_
                dsimp only [e_narthexlaw12_PlaceTells, go_sem, Nat.reduceBEq, Nat.reduceAdd]
                refine ⟨by simp, ?_⟩
                exact M_to J2 (s := x18 == x19) h (by simp [go_sem]) (by first | rfl | simp [go_sem])
              · dsimp only [go_sem, Nat.reduceBEq, Nat.reduceAdd]
                refine V_go 12 ?_
                dsimp only [e_narthexlaw12_PlaceTells, go_sem, Nat.reduceBEq, Nat.reduceAdd]
                refine ⟨by simp, ?_⟩
                exact M_to J2 (s := false) h (by simp [go_sem]) (by first | rfl | simp [go_sem])
            · dsimp only [go_sem, Nat.reduceBEq, Nat.reduceAdd]
              refine V_go 17 ?_
              dsimp only [e_narthexlaw12_PlaceTells, go_sem, Nat.reduceBEq, Nat.reduceAdd]
              refine ⟨by simp, ?_⟩
              exact M_to J2 (s := false) h (by simp [go_sem]) (by first | rfl | simp [go_sem])
          · dsimp only [go_sem, Nat.reduceBEq, Nat.reduceAdd]
            refine V_go 22 ?_
            dsimp only [e_narthexlaw12_PlaceTells, go_sem, Nat.reduceBEq, Nat.reduceAdd]
            refine ⟨by simp, ?_⟩
            exact M_to J2 (s := false) h (by simp [go_sem]) (by first | rfl | simp [go_sem])
        · dsimp only [go_sem, Nat.reduceBEq, Nat.reduceAdd]
          refine V_go 27 ?_
          dsimp only [e_narthexlaw12_PlaceTells, go_sem, Nat.reduceBEq, Nat.reduceAdd]
          refine ⟨by simp, ?_⟩
          exact M_to J2 (s := false) h (by simp [go_sem]) (by first | rfl | simp [go_sem])
  · refine M_case 19 h rfl (fun hb h => ?_) (fun hb h => ?_)
    · dsimp only [go_sem, Nat.reduceBEq, Nat.reduceAdd]
      refine V_go 18 ?_
      dsimp only [e_narthexlaw12_PlaceTells, go_sem, Nat.reduceBEq, Nat.reduceAdd]
      refine ⟨by simp, ?_⟩
      exact M_to J1 (s := true) h (by simp [go_sem]) (by first | rfl | simp [go_sem])
    · dsimp only [go_sem, Nat.reduceBEq, Nat.reduceAdd]
      refine V_go 2 ?_
      dsimp only [e_narthexlaw12_PlaceTells, go_sem, Nat.reduceBEq, Nat.reduceAdd]
      refine ⟨by simp, ?_⟩
      obtain ⟨x6, ex6, h⟩ := Option.bind_eq_some_iff.1 h
      refine V_call trivial (k_narthexref12_Few ((Scene.mk x1 (([] : (List Mail))))) _ ex6) (by first | exact leL_refl _ | simp [go_sem]) (by first | rfl | simp [go_sem]) ?_
      refine V_go 3 ?_
      dsimp only [e_narthexlaw12_PlaceTells, go_sem, Nat.reduceBEq, Nat.reduceAdd]
      refine ⟨by simp, ?_⟩
      refine M_case 25 h rfl (fun hb h => ?_) (fun hb h => ?_)
      · dsimp only [go_sem, Nat.reduceBEq, Nat.reduceAdd]
        refine V_go 12 ?_
        dsimp only [e_narthexlaw12_PlaceTells, go_sem, Nat.reduceBEq, Nat.reduceAdd]
        refine ⟨by simp, ?_⟩
        exact M_to J1 (s := true) h (by simp [go_sem]) (by first | rfl | simp [go_sem])
      · dsimp only [go_sem, Nat.reduceBEq, Nat.reduceAdd]
        refine V_go 2 ?_
        dsimp only [e_narthexlaw12_PlaceTells, go_sem, Nat.reduceBEq, Nat.reduceAdd]
        refine ⟨by simp, ?_⟩
        obtain ⟨x7, ex7, h⟩ := Option.bind_eq_some_iff.1 h
        refine V_call trivial (k_narthexref12_Few ((Scene.mk x2 (([] : (List Mail))))) _ ex7) (by first | exact leL_refl _ | simp [go_sem]) (by first | rfl | simp [go_sem]) ?_
        refine V_go 3 ?_
        dsimp only [e_narthexlaw12_PlaceTells, go_sem, Nat.reduceBEq, Nat.reduceAdd]
        refine ⟨by simp, ?_⟩
        refine M_case 31 h rfl (fun hb h => ?_) (fun hb h => ?_)
        · dsimp only [go_sem, Nat.reduceBEq, Nat.reduceAdd]
          refine V_go 6 ?_
          dsimp only [e_narthexlaw12_PlaceTells, go_sem, Nat.reduceBEq, Nat.reduceAdd]
          refine ⟨by simp, ?_⟩
          exact M_to J1 (s := true) h (by simp [go_sem]) (by first | rfl | simp [go_sem])
        · dsimp only [go_sem, Nat.reduceBEq, Nat.reduceAdd]
          refine V_go 6 ?_
          dsimp only [e_narthexlaw12_PlaceTells, go_sem, Nat.reduceBEq, Nat.reduceAdd]
          refine ⟨by simp, ?_⟩
          exact M_to J1 (s := decide (24 < (ln Side.row x3.Sides))) h (by simp [go_sem]) (by first | rfl | simp [go_sem])
def f_narthexlaw12_PlaceTells_j2 (F : Nat)  : Bool → Option Bool
| x20 =>
 some x20
theorem le_narthexlaw12_PlaceTells_j2 {F : Nat} : ∀ s, ole (f_narthexlaw12_PlaceTells_j2 F s) (m_narthexlaw12_PlaceTells_j2 s) := by
  intro x20
  unfold f_narthexlaw12_PlaceTells_j2 m_narthexlaw12_PlaceTells_j2
  try dsimp only
  repeat' first | with_reducible exact ole_refl _ | assumption | intro _ | with_reducible refine ole_ifb ?_ ?_ | with_reducible refine ole_bind ?_ ?_ | with_reducible refine ole_map ?_ | with_reducible refine ole_loop ?_
def f_narthexlaw12_PlaceTells_j1 (F : Nat) (x1 : (List Diner)) (x2 : (List Diner)) (x3 : Diner) (x4 : Int) : Bool → Option Bool
| x8 =>
 ifb x8 (
 (f_narthexlaw12_awake F).bind fun x9 =>
 some x9) (
 (f_narthexlaw12_Own F x1).bind fun x10 =>
 (f_place_Graph F x10).bind fun x11 =>
 (f_narthexref12_Graph F x1).bind fun x12 =>
 (f_place_Side F x3 x4).bind fun x13 =>
 (f_narthexref12_Side F x3 x4).bind fun x14 =>
 (f_narthexref03_Same F x11.1 x12.1).bind fun x15 =>
 ifb x15 (
 ifb (x11.2 == x12.2) (
 ifb (decide (x13.1.Peer = x14.1.Peer) && (decide (x13.1.Epoch = x14.1.Epoch) && (decide (x13.1.State = x14.1.State) && ((x13.1.Fork == x14.1.Fork) && ((x13.1.Dirty == x14.1.Dirty) && ((x13.1.Token == x14.1.Token) && ((x13.1.Bottle == x14.1.Bottle) && ((x13.1.Ask == x14.1.Ask) && true)))))))) (
 ifb (x13.2 == x14.2) (
 (f_narthexlaw12_Own F x1).bind fun x16 =>
 (f_narthexlaw12_Own F x2).bind fun x17 =>
 (f_place_Same F x16 x17).bind fun x18 =>
 (f_narthexref12_Same F x1 x2).bind fun x19 =>
 f_narthexlaw12_PlaceTells_j2 F (x18 == x19)) (
 f_narthexlaw12_PlaceTells_j2 F false)) (
 f_narthexlaw12_PlaceTells_j2 F false)) (
 f_narthexlaw12_PlaceTells_j2 F false)) (
 f_narthexlaw12_PlaceTells_j2 F false))
theorem le_narthexlaw12_PlaceTells_j1 {F : Nat} {x1 : (List Diner)} {x2 : (List Diner)} {x3 : Diner} {x4 : Int} : ∀ s, ole (f_narthexlaw12_PlaceTells_j1 F x1 x2 x3 x4 s) (m_narthexlaw12_PlaceTells_j1 x1 x2 x3 x4 s) := by
  intro x8
  unfold f_narthexlaw12_PlaceTells_j1 m_narthexlaw12_PlaceTells_j1
  try dsimp only
  repeat' first | with_reducible exact ole_refl _ | assumption | intro _ | with_reducible refine ole_ifb ?_ ?_ | with_reducible refine ole_bind ?_ ?_ | with_reducible refine ole_map ?_ | with_reducible refine ole_loop ?_ | with_reducible apply le_narthexlaw12_PlaceTells_j2 | with_reducible apply le_narthexlaw12_awake | with_reducible apply le_narthexlaw12_Own | with_reducible apply le_place_Graph | with_reducible apply le_narthexref12_Graph | with_reducible apply le_place_Side | with_reducible apply le_narthexref12_Side | with_reducible apply le_narthexref03_Same | with_reducible apply le_place_Same | with_reducible apply le_narthexref12_Same
def f_narthexlaw12_PlaceTells (F : Nat) (x1 : (List Diner)) (x2 : (List Diner)) (x3 : Diner) (x4 : Int) : Option Bool :=
 (f_narthexlaw12_awake F).bind fun x5 =>
 ifb (!x5) (
 (f_narthexlaw12_PlaceTells_j1 F x1 x2 x3 x4) true) (
 (f_narthexref12_Few F ((Scene.mk x1 (([] : (List Mail)))))).bind fun x6 =>
 ifb (!x6) (
 (f_narthexlaw12_PlaceTells_j1 F x1 x2 x3 x4) true) (
 (f_narthexref12_Few F ((Scene.mk x2 (([] : (List Mail)))))).bind fun x7 =>
 ifb (!x7) (
 (f_narthexlaw12_PlaceTells_j1 F x1 x2 x3 x4) true) (
 (f_narthexlaw12_PlaceTells_j1 F x1 x2 x3 x4) (decide (24 < (ln Side.row x3.Sides))))))
theorem le_narthexlaw12_PlaceTells {F : Nat} {x1 : (List Diner)} {x2 : (List Diner)} {x3 : Diner} {x4 : Int} : ole (f_narthexlaw12_PlaceTells F x1 x2 x3 x4) (m_narthexlaw12_PlaceTells x1 x2 x3 x4) := by
  unfold f_narthexlaw12_PlaceTells m_narthexlaw12_PlaceTells
  repeat' first | with_reducible exact ole_refl _ | assumption | intro _ | with_reducible refine ole_ifb ?_ ?_ | with_reducible refine ole_bind ?_ ?_ | with_reducible refine ole_map ?_ | with_reducible refine ole_loop ?_ | with_reducible apply le_narthexlaw12_PlaceTells_j2 | with_reducible apply le_narthexlaw12_awake | with_reducible apply le_narthexlaw12_Own | with_reducible apply le_place_Graph | with_reducible apply le_narthexref12_Graph | with_reducible apply le_place_Side | with_reducible apply le_narthexref12_Side | with_reducible apply le_narthexref03_Same | with_reducible apply le_place_Same | with_reducible apply le_narthexref12_Same | with_reducible apply le_narthexlaw12_PlaceTells_j1 | with_reducible apply le_narthexref12_Few
end NX
end Go.Proofs.Ytadebhbiglmodaa
/-
  The function narthex/narthexref12.goes: its code compiled, a model, and that the code answers as the model. Written by a program of ours (lb.py). No statement of the seat is proved here.
-/
namespace Go.Proofs.Ytadebhbiglmodaa
namespace NX
open Go
set_option maxRecDepth 100000
set_option maxHeartbeats 4000000
def e_narthexref12_goes_L0 : EC := .seq (.seq (.reg [⟨(some 11), none, .mv (.t 9)⟩, ⟨(some 12), none, .mv (.t 0)⟩, ⟨(some 13), none, .len (.t 12)⟩, ⟨(some 14), none, .bin .lss (.t 11) (.t 13)⟩]) (.ite (.t 14) (.skip) (.exit 0))) (.seq (.blk 1 (.seq (.reg [⟨(some 17), none, .mv (.t 0)⟩, ⟨(some 18), none, .mv (.t 9)⟩, ⟨(some 19), none, .idx 5 (.t 17) (.t 18)⟩, ⟨(some 20), none, .loadA 5 (.t 19)⟩, ⟨(some 10), none, .alloc 97 [.iv 0, .iv 0, .iv 0, .iv 0, .iv 0]⟩, ⟨none, none, .store 5 (.t 10) (.t 20)⟩]) (.seq (.reg [⟨(some 21), none, .fld 0 (.t 10)⟩, ⟨(some 22), none, .load (.t 21)⟩, ⟨(some 23), none, .mv (.t 1)⟩, ⟨(some 24), none, .bin .eql (.t 22) (.t 23)⟩, ⟨(some 25), none, .mv (.t 24)⟩, ⟨(some 26), (some (25, true)), .fld 1 (.t 10)⟩, ⟨(some 27), (some (25, true)), .load (.t 26)⟩, ⟨(some 28), (some (25, true)), .mv (.t 2)⟩, ⟨(some 29), (some (25, true)), .bin .eql (.t 27) (.t 28)⟩, ⟨(some 30), none, .pick (.t 25) (.t 29) (.c .ff)⟩, ⟨(some 31), none, .mv (.t 30)⟩, ⟨(some 32), (some (31, true)), .fld 2 (.t 10)⟩, ⟨(some 33), (some (31, true)), .fld 0 (.t 32)⟩, ⟨(some 34), (some (31, true)), .load (.t 33)⟩, ⟨(some 35), (some (31, true)), .bin .eql (.t 34) (.c (.iv 1))⟩, ⟨(some 36), none, .pick (.t 31) (.t 35) (.c .ff)⟩, ⟨(some 37), none, .mv (.t 36)⟩, ⟨(some 38), (some (37, true)), .fld 2 (.t 10)⟩, ⟨(some 39), (some (37, true)), .fld 1 (.t 38)⟩, ⟨(some 40), (some (37, true)), .load (.t 39)⟩, ⟨(some 41), (some (37, true)), .mv (.t 3)⟩, ⟨(some 42), (some (37, true)), .bin .eql (.t 40) (.t 41)⟩, ⟨(some 43), none, .pick (.t 37) (.t 42) (.c .ff)⟩, ⟨(some 44), none, .mv (.t 43)⟩, ⟨(some 45), (some (44, true)), .fld 2 (.t 10)⟩, ⟨(some 46), (some (44, true)), .fld 2 (.t 45)⟩, ⟨(some 47), (some (44, true)), .load (.t 46)⟩, ⟨(some 48), (some (44, true)), .bin .eql (.t 47) (.c (.iv 0))⟩, ⟨(some 49), none, .pick (.t 44) (.t 48) (.c .ff)⟩]) (.ite (.t 49) (.seq (.reg [⟨(some 8), none, .mv (.c .tt)⟩]) (.ret)) (.skip))))) (.reg [⟨(some 15), none, .mv (.t 9)⟩, ⟨(some 16), none, .bin .add (.t 15) (.c (.iv 1))⟩, ⟨(some 9), none, .mv (.t 16)⟩]))
def e_narthexref12_goes : EC := .seq (.reg [⟨(some 8), none, .mv (.c .ff)⟩]) (.seq (.seq (.reg [⟨(some 9), none, .mv (.c (.iv 0))⟩]) (.blk 0 (.loop e_narthexref12_goes_L0))) (.seq (.reg [⟨(some 8), none, .mv (.c .ff)⟩]) (.ret)))
theorem ok_narthexref12_goes : FnOK Try.prog 63 Try.f63 e_narthexref12_goes [.t 8] 4 46 := ⟨by kernel_rfl, ⟨_, rfl, by kernel_rfl⟩, by kernel_rfl, by kernel_rfl⟩
/- narthex/narthexref12.goes -/
noncomputable def m_narthexref12_goes_j1  : Unit → Option Bool
| () =>
 some false
noncomputable def m_narthexref12_goes_j2 (x8 : Int) : Bool → Option (Int ⊕ Bool)
| x10 =>
 ifb x10 (
 Option.map Sum.inr (some true)) (
 some (.inl (wr (x8 + 1))))
noncomputable def m_narthexref12_goes_l1 (x1 : (List Mail)) (x2 : Int) (x3 : Int) (x4 : Int) : Int → Option (Int ⊕ Bool)
| x8 =>
 ifb (decide (x8 < (ln Mail.row x1))) (
 (at_ x1 x8).bind fun x9 =>
 ifb (decide (x9.From = x2)) (
 ifb (decide (x9.To = x3)) (
 ifb (decide (x9.Msg.Kind = 1)) (
 ifb (decide (x9.Msg.Epoch = x4)) (
 (m_narthexref12_goes_j2 x8) (decide (x9.Msg.Num = 0))) (
 (m_narthexref12_goes_j2 x8) false)) (
 (m_narthexref12_goes_j2 x8) false)) (
 (m_narthexref12_goes_j2 x8) false)) (
 (m_narthexref12_goes_j2 x8) false)) (
 Option.map Sum.inr (m_narthexref12_goes_j1 ()))
noncomputable def m_narthexref12_goes (x1 : (List Mail)) (x2 : Int) (x3 : Int) (x4 : Int) : Option Bool :=
 loop (m_narthexref12_goes_l1 x1 x2 x3 x4) 0
theorem k_narthexref12_goes (x1 : (List Mail)) (x2 : Int) (x3 : Int) (x4 : Int) (r : Bool) (h : m_narthexref12_goes x1 x2 x3 x4 = some r) : FunP Try.prog 63 [.sl 5 (List.map Mail.row x1), .iv x2, .iv x3, .iv x4] (.bv r) := by
  refine FunP_intro ok_narthexref12_goes rfl rfl fun w0 H0 => ?_
  rw [m_narthexref12_goes] at h
  refine V_go 9 ?_
  dsimp only [e_narthexref12_goes, e_narthexref12_goes_L0, go_sem, Nat.reduceBEq, Nat.reduceAdd]
  refine ⟨by simp, ?_⟩
  refine V_join (fun (_ : Unit) => (⟨(an 50 []), [], []⟩ : St)) m_narthexref12_goes_j1 r ?_ fun J1 => ?_
  · rintro ⟨⟩ h
    rw [m_narthexref12_goes_j1] at h
    try dsimp only
    refine V_go 4 ?_
    dsimp only [e_narthexref12_goes, e_narthexref12_goes_L0, go_sem, Nat.reduceBEq, Nat.reduceAdd]
    refine ⟨by simp, ?_⟩
    exact M_done (res := fun (r : Bool) => .bv r) ok_narthexref12_goes h (by first | exact le_refl _ | simp [go_sem])
  · refine V_go 1 ?_
    dsimp only [e_narthexref12_goes, e_narthexref12_goes_L0, go_sem, Nat.reduceBEq, Nat.reduceAdd]
    refine ⟨by simp, ?_⟩
    refine M_loop h (fun (x8 : Int) => (⟨(.sl 5 (List.map Mail.row x1) :: .iv x2 :: .iv x3 :: .iv x4 :: an 5 (.iv x8 :: an 40 [])), [], []⟩ : St)) (by simp [go_sem]) (by intro x8; first | rfl | simp [go_sem]) ?_
    rintro n1 x8 y1 h hin1 hout1
    rw [m_narthexref12_goes_l1] at h
    try dsimp only
    refine V_go 8 ?_
    dsimp only [e_narthexref12_goes, e_narthexref12_goes_L0, go_sem, Nat.reduceBEq, Nat.reduceAdd]
    refine ⟨by simp, ?_⟩
    refine M_ite h rfl (fun hb h => ?_) (fun hb h => ?_)
    · refine V_go 7 ?_
      dsimp only [e_narthexref12_goes, e_narthexref12_goes_L0, go_sem, Nat.reduceBEq, Nat.reduceAdd]
      refine ⟨by simp, ?_⟩
      obtain ⟨x9, ex9, h⟩ := Option.bind_eq_some_iff.1 h
      refine V_idxM Mail.row ex9 trivial rfl rfl rfl ?_
      refine V_go 11 ?_
      dsimp only [e_narthexref12_goes, e_narthexref12_goes_L0, go_sem, Nat.reduceBEq, Nat.reduceAdd]
      refine ⟨by simp, ?_⟩
      refine V_join (fun (x10 : Bool) => (⟨(.sl 5 (List.map Mail.row x1) :: .iv x2 :: .iv x3 :: .iv x4 :: an 5 (.iv x8 :: an 39 [.bv x10])), [], []⟩ : St)) (m_narthexref12_goes_j2 x8) y1 ?_ fun J2 => ?_
      · intro x10 h
        rw [m_narthexref12_goes_j2] at h
        try dsimp only
        refine M_ite h rfl (fun hb h => ?_) (fun hb h => ?_)
        · refine V_go 4 ?_
          dsimp only [e_narthexref12_goes, e_narthexref12_goes_L0, go_sem, Nat.reduceBEq, Nat.reduceAdd]
          refine ⟨by simp, ?_⟩
          exact M_done (res := fun (r : Bool) => .bv r) ok_narthexref12_goes (M_out h hout1) (by first | exact le_refl _ | simp [go_sem])
        · refine V_go 7 ?_
          dsimp only [e_narthexref12_goes, e_narthexref12_goes_L0, go_sem, Nat.reduceBEq, Nat.reduceAdd]
          refine ⟨by simp, ?_⟩
          exact M_back h hin1 (by simp [go_sem]) (by first | rfl | simp [go_sem])
      · refine M_case 25 h rfl (fun hb h => ?_) (fun hb h => ?_)
        · dsimp only [go_sem, Nat.reduceBEq, Nat.reduceAdd]
          refine V_go 6 ?_
          dsimp only [e_narthexref12_goes, e_narthexref12_goes_L0, go_sem, Nat.reduceBEq, Nat.reduceAdd]
          refine ⟨by simp, ?_⟩
          refine M_case 31 h rfl (fun hb h => ?_) (fun hb h => ?_)
          · dsimp only [go_sem, Nat.reduceBEq, Nat.reduceAdd]
            refine V_go 6 ?_
            dsimp only [e_narthexref12_goes, e_narthexref12_goes_L0, go_sem, Nat.reduceBEq, Nat.reduceAdd]
            refine ⟨by simp, ?_⟩
            refine M_case 37 h rfl (fun hb h => ?_) (fun hb h => ?_)
            · dsimp only [go_sem, Nat.reduceBEq, Nat.reduceAdd]
              refine V_go 7 ?_
              dsimp only [e_narthexref12_goes, e_narthexref12_goes_L0, go_sem, Nat.reduceBEq, Nat.reduceAdd]
              refine ⟨by simp, ?_⟩
              refine M_case 44 h rfl (fun hb h => ?_) (fun hb h => ?_)
              · dsimp only [go_sem, Nat.reduceBEq, Nat.reduceAdd]
                refine V_go 6 ?_
                dsimp only [e_narthexref12_goes, e_narthexref12_goes_L0, go_sem, Nat.reduceBEq, Nat.reduceAdd]
                refine ⟨by simp, ?_⟩
                exact M_to J2 (s := decide (x9.Msg.Num = 0)) h (by simp [go_sem]) (by first | rfl | simp [go_sem])
              · dsimp only [go_sem, Nat.reduceBEq, Nat.reduceAdd]
                refine V_go 6 ?_
                dsimp only [e_narthexref12_goes, e_narthexref12_goes_L0, go_sem, Nat.reduceBEq, Nat.reduceAdd]
                refine ⟨by simp, ?_⟩
                exact M_to J2 (s := false) h (by simp [go_sem]) (by first | rfl | simp [go_sem])
            · dsimp only [go_sem, Nat.reduceBEq, Nat.reduceAdd]
              refine V_go 13 ?_
              dsimp only [e_narthexref12_goes, e_narthexref12_goes_L0, go_sem, Nat.reduceBEq, Nat.reduceAdd]
              refine ⟨by simp, ?_⟩
              exact M_to J2 (s := false) h (by simp [go_sem]) (by first | rfl | simp [go_sem])
          · dsimp only [go_sem, Nat.reduceBEq, Nat.reduceAdd]
            refine V_go 19 ?_
            dsimp only [e_narthexref12_goes, e_narthexref12_goes_L0, go_sem, Nat.reduceBEq, Nat.reduceAdd]
            refine ⟨by simp, ?_⟩
            exact M_to J2 (s := false) h (by simp [go_sem]) (by first | rfl | simp [go_sem])
        · dsimp only [go_sem, Nat.reduceBEq, Nat.reduceAdd]
          refine V_go 25 ?_
          dsimp only [e_narthexref12_goes, e_narthexref12_goes_L0, go_sem, Nat.reduceBEq, Nat.reduceAdd]
          refine ⟨by simp, ?_⟩
          exact M_to J2 (s := false) h (by simp [go_sem]) (by first | rfl | simp [go_sem])
    · refine V_go 1 ?_
      dsimp only [e_narthexref12_goes, e_narthexref12_goes_L0, go_sem, Nat.reduceBEq, Nat.reduceAdd]
      refine ⟨by simp, ?_⟩
      exact M_to J1 (s := ()) (M_out h hout1) (by simp [go_sem]) (by first | rfl | simp [go_sem])
def f_narthexref12_goes_j1 (F : Nat)  : Unit → Option Bool
| () =>
 some false
theorem le_narthexref12_goes_j1 {F : Nat} : ∀ s, ole (f_narthexref12_goes_j1 F s) (m_narthexref12_goes_j1 s) := by
  rintro ⟨⟩
  unfold f_narthexref12_goes_j1 m_narthexref12_goes_j1
  try dsimp only
  repeat' first | with_reducible exact ole_refl _ | assumption | intro _ | with_reducible refine ole_ifb ?_ ?_ | with_reducible refine ole_bind ?_ ?_ | with_reducible refine ole_map ?_ | with_reducible refine ole_loop ?_
def f_narthexref12_goes_j2 (F : Nat) (x8 : Int) : Bool → Option (Int ⊕ Bool)
| x10 =>
 ifb x10 (
 Option.map Sum.inr (some true)) (
 some (.inl (wr (x8 + 1))))
theorem le_narthexref12_goes_j2 {F : Nat} {x8 : Int} : ∀ s, ole (f_narthexref12_goes_j2 F x8 s) (m_narthexref12_goes_j2 x8 s) := by
  intro x10
  unfold f_narthexref12_goes_j2 m_narthexref12_goes_j2
  try dsimp only
  repeat' first | with_reducible exact ole_refl _ | assumption | intro _ | with_reducible refine ole_ifb ?_ ?_ | with_reducible refine ole_bind ?_ ?_ | with_reducible refine ole_map ?_ | with_reducible refine ole_loop ?_ | with_reducible apply le_narthexref12_goes_j1
def f_narthexref12_goes_l1 (F : Nat) (x1 : (List Mail)) (x2 : Int) (x3 : Int) (x4 : Int) : Int → Option (Int ⊕ Bool)
| x8 =>
 ifb (decide (x8 < (ln Mail.row x1))) (
 (at_ x1 x8).bind fun x9 =>
 ifb (decide (x9.From = x2)) (
 ifb (decide (x9.To = x3)) (
 ifb (decide (x9.Msg.Kind = 1)) (
 ifb (decide (x9.Msg.Epoch = x4)) (
 (f_narthexref12_goes_j2 F x8) (decide (x9.Msg.Num = 0))) (
 (f_narthexref12_goes_j2 F x8) false)) (
 (f_narthexref12_goes_j2 F x8) false)) (
 (f_narthexref12_goes_j2 F x8) false)) (
 (f_narthexref12_goes_j2 F x8) false)) (
 Option.map Sum.inr (f_narthexref12_goes_j1 F ()))
theorem le_narthexref12_goes_l1 {F : Nat} {x1 : (List Mail)} {x2 : Int} {x3 : Int} {x4 : Int} : ∀ s, ole (f_narthexref12_goes_l1 F x1 x2 x3 x4 s) (m_narthexref12_goes_l1 x1 x2 x3 x4 s) := by
  intro x8
  unfold f_narthexref12_goes_l1 m_narthexref12_goes_l1
  try dsimp only
  repeat' first | with_reducible exact ole_refl _ | assumption | intro _ | with_reducible refine ole_ifb ?_ ?_ | with_reducible refine ole_bind ?_ ?_ | with_reducible refine ole_map ?_ | with_reducible refine ole_loop ?_ | with_reducible apply le_narthexref12_goes_j1 | with_reducible apply le_narthexref12_goes_j2
def f_narthexref12_goes (F : Nat) (x1 : (List Mail)) (x2 : Int) (x3 : Int) (x4 : Int) : Option Bool :=
 loopF F (f_narthexref12_goes_l1 F x1 x2 x3 x4) 0
theorem le_narthexref12_goes {F : Nat} {x1 : (List Mail)} {x2 : Int} {x3 : Int} {x4 : Int} : ole (f_narthexref12_goes F x1 x2 x3 x4) (m_narthexref12_goes x1 x2 x3 x4) := by
  unfold f_narthexref12_goes m_narthexref12_goes
  repeat' first | with_reducible exact ole_refl _ | assumption | intro _ | with_reducible refine ole_ifb ?_ ?_ | with_reducible refine ole_bind ?_ ?_ | with_reducible refine ole_map ?_ | with_reducible refine ole_loop ?_ | with_reducible apply le_narthexref12_goes_j1 | with_reducible apply le_narthexref12_goes_j2 | with_reducible apply le_narthexref12_goes_l1
end NX
end Go.Proofs.Ytadebhbiglmodaa
/-
  The function narthex/narthexref12.First: its code compiled, a model, and that the code answers as the model. Written by a program of ours (lb.py). No statement of the seat is proved here.
-/
namespace Go.Proofs.Ytadebhbiglmodaa
namespace NX
open Go
set_option maxRecDepth 100000
set_option maxHeartbeats 4000000
def e_narthexref12_First : EC := .seq (.reg [⟨(some 4), none, .box 49 8 (.t 0)⟩, ⟨(some 5), none, .box 49 8 (.t 1)⟩, ⟨(some 8), none, .mv (.c (.iv 0))⟩]) (.seq (.seq (.reg [⟨(some 9), none, .fld 3 (.t 4)⟩, ⟨(some 10), none, .load (.t 9)⟩, ⟨(some 11), none, .mv (.t 10)⟩, ⟨(some 12), (some (11, true)), .fld 4 (.t 4)⟩, ⟨(some 13), (some (11, true)), .load (.t 12)⟩, ⟨(some 14), (some (11, true)), .not (.t 13)⟩, ⟨(some 15), none, .pick (.t 11) (.t 14) (.c .ff)⟩]) (.ite (.t 15) (.seq (.reg [⟨(some 8), none, .mv (.c (.iv 1))⟩]) (.ret)) (.skip))) (.seq (.seq (.reg [⟨(some 16), none, .fld 3 (.t 5)⟩, ⟨(some 17), none, .load (.t 16)⟩, ⟨(some 18), none, .mv (.t 17)⟩, ⟨(some 19), (some (18, true)), .fld 4 (.t 5)⟩, ⟨(some 20), (some (18, true)), .load (.t 19)⟩, ⟨(some 21), none, .pick (.t 18) (.t 20) (.c .ff)⟩, ⟨(some 22), none, .mv (.t 21)⟩, ⟨(some 23), (some (22, true)), .fld 3 (.t 4)⟩, ⟨(some 24), (some (22, true)), .load (.t 23)⟩, ⟨(some 25), (some (22, true)), .not (.t 24)⟩, ⟨(some 26), none, .pick (.t 22) (.t 25) (.c .ff)⟩]) (.ite (.t 26) (.seq (.reg [⟨(some 8), none, .mv (.c (.iv 1))⟩]) (.ret)) (.skip))) (.seq (.seq (.reg [⟨(some 27), none, .fld 3 (.t 4)⟩, ⟨(some 28), none, .load (.t 27)⟩, ⟨(some 29), none, .not (.t 28)⟩, ⟨(some 30), none, .mv (.t 29)⟩, ⟨(some 31), (some (30, true)), .fld 3 (.t 5)⟩, ⟨(some 32), (some (30, true)), .load (.t 31)⟩, ⟨(some 33), (some (30, true)), .not (.t 32)⟩, ⟨(some 34), none, .pick (.t 30) (.t 33) (.c .ff)⟩, ⟨(some 35), none, .mv (.t 34)⟩, ⟨(some 36), (some (35, true)), .mv (.t 2)⟩, ⟨(some 37), none, .pick (.t 35) (.t 36) (.c .ff)⟩]) (.ite (.t 37) (.seq (.reg [⟨(some 8), none, .mv (.c (.iv 1))⟩]) (.ret)) (.skip))) (.seq (.seq (.reg [⟨(some 38), none, .fld 3 (.t 5)⟩, ⟨(some 39), none, .load (.t 38)⟩, ⟨(some 40), none, .mv (.t 39)⟩, ⟨(some 41), (some (40, true)), .fld 4 (.t 5)⟩, ⟨(some 42), (some (40, true)), .load (.t 41)⟩, ⟨(some 43), (some (40, true)), .not (.t 42)⟩, ⟨(some 44), none, .pick (.t 40) (.t 43) (.c .ff)⟩, ⟨(some 45), none, .mv (.t 44)⟩, ⟨(some 46), (some (45, false)), .fld 3 (.t 4)⟩, ⟨(some 47), (some (45, false)), .load (.t 46)⟩, ⟨(some 48), (some (45, false)), .mv (.t 47)⟩, ⟨(some 49), (some (48, true)), .fld 4 (.t 4)⟩, ⟨(some 50), (some (48, true)), .load (.t 49)⟩, ⟨(some 51), (some (45, false)), .pick (.t 48) (.t 50) (.c .ff)⟩, ⟨(some 52), (some (45, false)), .mv (.t 51)⟩, ⟨(some 53), (some (52, true)), .fld 3 (.t 5)⟩, ⟨(some 54), (some (52, true)), .load (.t 53)⟩, ⟨(some 55), (some (52, true)), .not (.t 54)⟩, ⟨(some 56), (some (45, false)), .pick (.t 52) (.t 55) (.c .ff)⟩, ⟨(some 57), none, .pick (.t 45) (.c .tt) (.t 56)⟩, ⟨(some 58), none, .mv (.t 57)⟩, ⟨(some 59), (some (58, false)), .fld 3 (.t 4)⟩, ⟨(some 60), (some (58, false)), .load (.t 59)⟩, ⟨(some 61), (some (58, false)), .not (.t 60)⟩, ⟨(some 62), (some (58, false)), .mv (.t 61)⟩, ⟨(some 63), (some (62, true)), .fld 3 (.t 5)⟩, ⟨(some 64), (some (62, true)), .load (.t 63)⟩, ⟨(some 65), (some (62, true)), .not (.t 64)⟩, ⟨(some 66), (some (58, false)), .pick (.t 62) (.t 65) (.c .ff)⟩, ⟨(some 67), (some (58, false)), .mv (.t 66)⟩, ⟨(some 68), (some (67, true)), .mv (.t 3)⟩, ⟨(some 69), (some (58, false)), .pick (.t 67) (.t 68) (.c .ff)⟩, ⟨(some 70), none, .pick (.t 58) (.c .tt) (.t 69)⟩]) (.ite (.t 70) (.seq (.reg [⟨(some 8), none, .mv (.c (.iv 2))⟩]) (.ret)) (.skip))) (.seq (.reg [⟨(some 8), none, .mv (.c (.iv 0))⟩]) (.ret))))))
theorem ok_narthexref12_First : FnOK Try.prog 62 Try.f62 e_narthexref12_First [.t 8] 4 67 := ⟨by kernel_rfl, ⟨_, rfl, by kernel_rfl⟩, by kernel_rfl, by kernel_rfl⟩
/- narthex/narthexref12.First -/
noncomputable def m_narthexref12_First_j4  : Bool → Option Int
| x8 =>
 ifb x8 (
 some 2) (
 some 0)
noncomputable def m_narthexref12_First_j3 (x1 : Side) (x2 : Side) (x4 : Bool) : Bool → Option Int
| x7 =>
 ifb x7 (
 some 1) (
 ifb x2.Fork (
 ifb (!x2.Dirty) (
 m_narthexref12_First_j4 true) (
 ifb x1.Fork (
 ifb x1.Dirty (
 ifb (!x2.Fork) (
 m_narthexref12_First_j4 true) (
 ifb (!x1.Fork) (
 ifb (!x2.Fork) (
 m_narthexref12_First_j4 x4) (
 m_narthexref12_First_j4 false)) (
 m_narthexref12_First_j4 false))) (
 ifb (!x1.Fork) (
 ifb (!x2.Fork) (
 m_narthexref12_First_j4 x4) (
 m_narthexref12_First_j4 false)) (
 m_narthexref12_First_j4 false))) (
 ifb (!x1.Fork) (
 ifb (!x2.Fork) (
 m_narthexref12_First_j4 x4) (
 m_narthexref12_First_j4 false)) (
 m_narthexref12_First_j4 false)))) (
 ifb x1.Fork (
 ifb x1.Dirty (
 ifb (!x2.Fork) (
 m_narthexref12_First_j4 true) (
 ifb (!x1.Fork) (
 ifb (!x2.Fork) (
 m_narthexref12_First_j4 x4) (
 m_narthexref12_First_j4 false)) (
 m_narthexref12_First_j4 false))) (
 ifb (!x1.Fork) (
 ifb (!x2.Fork) (
 m_narthexref12_First_j4 x4) (
 m_narthexref12_First_j4 false)) (
 m_narthexref12_First_j4 false))) (
 ifb (!x1.Fork) (
 ifb (!x2.Fork) (
 m_narthexref12_First_j4 x4) (
 m_narthexref12_First_j4 false)) (
 m_narthexref12_First_j4 false))))
noncomputable def m_narthexref12_First_j2 (x1 : Side) (x2 : Side) (x3 : Bool) (x4 : Bool) : Bool → Option Int
| x6 =>
 ifb x6 (
 some 1) (
 ifb (!x1.Fork) (
 ifb (!x2.Fork) (
 (m_narthexref12_First_j3 x1 x2 x4) x3) (
 (m_narthexref12_First_j3 x1 x2 x4) false)) (
 (m_narthexref12_First_j3 x1 x2 x4) false))
noncomputable def m_narthexref12_First_j1 (x1 : Side) (x2 : Side) (x3 : Bool) (x4 : Bool) : Bool → Option Int
| x5 =>
 ifb x5 (
 some 1) (
 ifb x2.Fork (
 ifb x2.Dirty (
 (m_narthexref12_First_j2 x1 x2 x3 x4) (!x1.Fork)) (
 (m_narthexref12_First_j2 x1 x2 x3 x4) false)) (
 (m_narthexref12_First_j2 x1 x2 x3 x4) false))
noncomputable def m_narthexref12_First (x1 : Side) (x2 : Side) (x3 : Bool) (x4 : Bool) : Option Int :=
 ifb x1.Fork (
 (m_narthexref12_First_j1 x1 x2 x3 x4) (!x1.Dirty)) (
 (m_narthexref12_First_j1 x1 x2 x3 x4) false)
theorem k_narthexref12_First (x1 : Side) (x2 : Side) (x3 : Bool) (x4 : Bool) (r : Int) (h : m_narthexref12_First x1 x2 x3 x4 = some r) : FunP Try.prog 62 [.agg (Side.row x1), .agg (Side.row x2), .bv x3, .bv x4] (.iv r) := by
  refine FunP_intro ok_narthexref12_First rfl rfl fun w0 H0 => ?_
  rw [m_narthexref12_First] at h
  refine V_go 12 ?_
  dsimp only [e_narthexref12_First, go_sem, Nat.reduceBEq, Nat.reduceAdd]
  refine ⟨by simp, ?_⟩
  refine V_join (fun (x5 : Bool) => (⟨(.any :: .any :: .bv x3 :: .bv x4 :: .ptr 0 0 :: .ptr 1 0 :: an 9 (.bv x5 :: an 55 [])), [some ⟨49, [.iv x1.Peer, .iv x1.Epoch, .iv x1.State, .bv x1.Fork, .bv x1.Dirty, .bv x1.Token, .bv x1.Bottle, .bv x1.Ask]⟩, some ⟨49, [.iv x2.Peer, .iv x2.Epoch, .iv x2.State, .bv x2.Fork, .bv x2.Dirty, .bv x2.Token, .bv x2.Bottle, .bv x2.Ask]⟩], []⟩ : St)) (m_narthexref12_First_j1 x1 x2 x3 x4) r ?_ fun J1 => ?_
  · intro x5 h
    rw [m_narthexref12_First_j1] at h
    try dsimp only
    refine M_ite h rfl (fun hb h => ?_) (fun hb h => ?_)
    · refine V_go 4 ?_
      dsimp only [e_narthexref12_First, go_sem, Nat.reduceBEq, Nat.reduceAdd]
      refine ⟨by simp, ?_⟩
      exact M_done (res := fun (r : Int) => .iv r) ok_narthexref12_First h (by first | exact le_refl _ | simp [go_sem])
    · refine V_go 7 ?_
      dsimp only [e_narthexref12_First, go_sem, Nat.reduceBEq, Nat.reduceAdd]
      refine ⟨by simp, ?_⟩
      refine V_join (fun (x6 : Bool) => (⟨(.any :: .any :: .bv x3 :: .bv x4 :: .ptr 0 0 :: .ptr 1 0 :: an 20 (.bv x6 :: an 44 [])), [some ⟨49, [.iv x1.Peer, .iv x1.Epoch, .iv x1.State, .bv x1.Fork, .bv x1.Dirty, .bv x1.Token, .bv x1.Bottle, .bv x1.Ask]⟩, some ⟨49, [.iv x2.Peer, .iv x2.Epoch, .iv x2.State, .bv x2.Fork, .bv x2.Dirty, .bv x2.Token, .bv x2.Bottle, .bv x2.Ask]⟩], []⟩ : St)) (m_narthexref12_First_j2 x1 x2 x3 x4) r ?_ fun J2 => ?_
      · intro x6 h
        rw [m_narthexref12_First_j2] at h
        try dsimp only
        refine M_ite h rfl (fun hb h => ?_) (fun hb h => ?_)
        · refine V_go 4 ?_
          dsimp only [e_narthexref12_First, go_sem, Nat.reduceBEq, Nat.reduceAdd]
          refine ⟨by simp, ?_⟩
          exact M_done (res := fun (r : Int) => .iv r) ok_narthexref12_First h (by first | exact le_refl _ | simp [go_sem])
        · refine V_go 8 ?_
          dsimp only [e_narthexref12_First, go_sem, Nat.reduceBEq, Nat.reduceAdd]
          refine ⟨by simp, ?_⟩
          refine V_join (fun (x7 : Bool) => (⟨(an 3 (.bv x4 :: .ptr 0 0 :: .ptr 1 0 :: an 31 (.bv x7 :: an 33 []))), [some ⟨49, [.iv x1.Peer, .iv x1.Epoch, .iv x1.State, .bv x1.Fork, .bv x1.Dirty, .bv x1.Token, .bv x1.Bottle, .bv x1.Ask]⟩, some ⟨49, [.iv x2.Peer, .iv x2.Epoch, .iv x2.State, .bv x2.Fork, .bv x2.Dirty, .bv x2.Token, .bv x2.Bottle, .bv x2.Ask]⟩], []⟩ : St)) (m_narthexref12_First_j3 x1 x2 x4) r ?_ fun J3 => ?_
          · intro x7 h
            rw [m_narthexref12_First_j3] at h
            try dsimp only
            refine M_ite h rfl (fun hb h => ?_) (fun hb h => ?_)
            · refine V_go 4 ?_
              dsimp only [e_narthexref12_First, go_sem, Nat.reduceBEq, Nat.reduceAdd]
              refine ⟨by simp, ?_⟩
              exact M_done (res := fun (r : Int) => .iv r) ok_narthexref12_First h (by first | exact le_refl _ | simp [go_sem])
            · refine V_go 7 ?_
              dsimp only [e_narthexref12_First, go_sem, Nat.reduceBEq, Nat.reduceAdd]
              refine ⟨by simp, ?_⟩
              refine V_join (fun (x8 : Bool) => (⟨(an 70 [.bv x8]), [], []⟩ : St)) m_narthexref12_First_j4 r ?_ fun J4 => ?_
              · intro x8 h
                rw [m_narthexref12_First_j4] at h
                try dsimp only
                refine M_ite h rfl (fun hb h => ?_) (fun hb h => ?_)
                · refine V_go 4 ?_
                  dsimp only [e_narthexref12_First, go_sem, Nat.reduceBEq, Nat.reduceAdd]
                  refine ⟨by simp, ?_⟩
                  exact M_done (res := fun (r : Int) => .iv r) ok_narthexref12_First h (by first | exact le_refl _ | simp [go_sem])
                · refine V_go 5 ?_
                  dsimp only [e_narthexref12_First, go_sem, Nat.reduceBEq, Nat.reduceAdd]
                  refine ⟨by simp, ?_⟩
                  exact M_done (res := fun (r : Int) => .iv r) ok_narthexref12_First h (by first | exact le_refl _ | simp [go_sem])
              · refine M_case 40 h rfl (fun hb h => ?_) (fun hb h => ?_)
                · dsimp only [go_sem, Nat.reduceBEq, Nat.reduceAdd]
                  refine V_go 5 ?_
                  dsimp only [e_narthexref12_First, go_sem, Nat.reduceBEq, Nat.reduceAdd]
                  refine ⟨by simp, ?_⟩
                  refine M_case 45 h rfl (fun hb h => ?_) (fun hb h => ?_)
                  · dsimp only [go_sem, Nat.reduceBEq, Nat.reduceAdd]
                    refine V_go 26 ?_
                    dsimp only [e_narthexref12_First, go_sem, Nat.reduceBEq, Nat.reduceAdd]
                    refine ⟨by simp, ?_⟩
                    exact M_to J4 (s := true) h (by simp [go_sem]) (by first | rfl | simp [go_sem])
                  · dsimp only [go_sem, Nat.reduceBEq, Nat.reduceAdd]
                    refine V_go 3 ?_
                    dsimp only [e_narthexref12_First, go_sem, Nat.reduceBEq, Nat.reduceAdd]
                    refine ⟨by simp, ?_⟩
                    refine M_case 48 h rfl (fun hb h => ?_) (fun hb h => ?_)
                    · dsimp only [go_sem, Nat.reduceBEq, Nat.reduceAdd]
                      refine V_go 4 ?_
                      dsimp only [e_narthexref12_First, go_sem, Nat.reduceBEq, Nat.reduceAdd]
                      refine ⟨by simp, ?_⟩
                      refine M_case 52 h rfl (fun hb h => ?_) (fun hb h => ?_)
                      · dsimp only [go_sem, Nat.reduceBEq, Nat.reduceAdd]
                        refine V_go 6 ?_
                        dsimp only [e_narthexref12_First, go_sem, Nat.reduceBEq, Nat.reduceAdd]
                        refine ⟨by simp, ?_⟩
                        refine M_case 58 h rfl (fun hb h => ?_) (fun hb h => ?_)
                        · dsimp only [go_sem, Nat.reduceBEq, Nat.reduceAdd]
                          refine V_go 13 ?_
                          dsimp only [e_narthexref12_First, go_sem, Nat.reduceBEq, Nat.reduceAdd]
                          refine ⟨by simp, ?_⟩
                          exact M_to J4 (s := true) h (by simp [go_sem]) (by first | rfl | simp [go_sem])
                        · dsimp only [go_sem, Nat.reduceBEq, Nat.reduceAdd]
                          refine V_go 4 ?_
                          dsimp only [e_narthexref12_First, go_sem, Nat.reduceBEq, Nat.reduceAdd]
                          refine ⟨by simp, ?_⟩
                          refine M_case 62 h rfl (fun hb h => ?_) (fun hb h => ?_)
                          · dsimp only [go_sem, Nat.reduceBEq, Nat.reduceAdd]
                            refine V_go 5 ?_
                            dsimp only [e_narthexref12_First, go_sem, Nat.reduceBEq, Nat.reduceAdd]
                            refine ⟨by simp, ?_⟩
                            refine M_case 67 h rfl (fun hb h => ?_) (fun hb h => ?_)
                            · dsimp only [go_sem, Nat.reduceBEq, Nat.reduceAdd]
                              refine V_go 4 ?_
                              dsimp only [e_narthexref12_First, go_sem, Nat.reduceBEq, Nat.reduceAdd]
                              refine ⟨by simp, ?_⟩
                              exact M_to J4 (s := x4) h (by simp [go_sem]) (by first | rfl | simp [go_sem])
                            · dsimp only [go_sem, Nat.reduceBEq, Nat.reduceAdd]
                              refine V_go 4 ?_
                              dsimp only [e_narthexref12_First, go_sem, Nat.reduceBEq, Nat.reduceAdd]
                              refine ⟨by simp, ?_⟩
                              exact M_to J4 (s := false) h (by simp [go_sem]) (by first | rfl | simp [go_sem])
                          · dsimp only [go_sem, Nat.reduceBEq, Nat.reduceAdd]
                            refine V_go 9 ?_
                            dsimp only [e_narthexref12_First, go_sem, Nat.reduceBEq, Nat.reduceAdd]
                            refine ⟨by simp, ?_⟩
                            exact M_to J4 (s := false) h (by simp [go_sem]) (by first | rfl | simp [go_sem])
                      · dsimp only [go_sem, Nat.reduceBEq, Nat.reduceAdd]
                        refine V_go 10 ?_
                        dsimp only [e_narthexref12_First, go_sem, Nat.reduceBEq, Nat.reduceAdd]
                        refine ⟨by simp, ?_⟩
                        refine M_case 62 h rfl (fun hb h => ?_) (fun hb h => ?_)
                        · dsimp only [go_sem, Nat.reduceBEq, Nat.reduceAdd]
                          refine V_go 5 ?_
                          dsimp only [e_narthexref12_First, go_sem, Nat.reduceBEq, Nat.reduceAdd]
                          refine ⟨by simp, ?_⟩
                          refine M_case 67 h rfl (fun hb h => ?_) (fun hb h => ?_)
                          · dsimp only [go_sem, Nat.reduceBEq, Nat.reduceAdd]
                            refine V_go 4 ?_
                            dsimp only [e_narthexref12_First, go_sem, Nat.reduceBEq, Nat.reduceAdd]
                            refine ⟨by simp, ?_⟩
                            exact M_to J4 (s := x4) h (by simp [go_sem]) (by first | rfl | simp [go_sem])
                          · dsimp only [go_sem, Nat.reduceBEq, Nat.reduceAdd]
                            refine V_go 4 ?_
                            dsimp only [e_narthexref12_First, go_sem, Nat.reduceBEq, Nat.reduceAdd]
                            refine ⟨by simp, ?_⟩
                            exact M_to J4 (s := false) h (by simp [go_sem]) (by first | rfl | simp [go_sem])
                        · dsimp only [go_sem, Nat.reduceBEq, Nat.reduceAdd]
                          refine V_go 9 ?_
                          dsimp only [e_narthexref12_First, go_sem, Nat.reduceBEq, Nat.reduceAdd]
                          refine ⟨by simp, ?_⟩
                          exact M_to J4 (s := false) h (by simp [go_sem]) (by first | rfl | simp [go_sem])
                    · dsimp only [go_sem, Nat.reduceBEq, Nat.reduceAdd]
                      refine V_go 14 ?_
                      dsimp only [e_narthexref12_First, go_sem, Nat.reduceBEq, Nat.reduceAdd]
                      refine ⟨by simp, ?_⟩
                      refine M_case 62 h rfl (fun hb h => ?_) (fun hb h => ?_)
                      · dsimp only [go_sem, Nat.reduceBEq, Nat.reduceAdd]
                        refine V_go 5 ?_
                        dsimp only [e_narthexref12_First, go_sem, Nat.reduceBEq, Nat.reduceAdd]
                        refine ⟨by simp, ?_⟩
                        refine M_case 67 h rfl (fun hb h => ?_) (fun hb h => ?_)
                        · dsimp only [go_sem, Nat.reduceBEq, Nat.reduceAdd]
                          refine V_go 4 ?_
                          dsimp only [e_narthexref12_First, go_sem, Nat.reduceBEq, Nat.reduceAdd]
                          refine ⟨by simp, ?_⟩
                          exact M_to J4 (s := x4) h (by simp [go_sem]) (by first | rfl | simp [go_sem])
                        · dsimp only [go_sem, Nat.reduceBEq, Nat.reduceAdd]
                          refine V_go 4 ?_
                          dsimp only [e_narthexref12_First, go_sem, Nat.reduceBEq, Nat.reduceAdd]
                          refine ⟨by simp, ?_⟩
                          exact M_to J4 (s := false) h (by simp [go_sem]) (by first | rfl | simp [go_sem])
                      · dsimp only [go_sem, Nat.reduceBEq, Nat.reduceAdd]
                        refine V_go 9 ?_
                        dsimp only [e_narthexref12_First, go_sem, Nat.reduceBEq, Nat.reduceAdd]
                        refine ⟨by simp, ?_⟩
                        exact M_to J4 (s := false) h (by simp [go_sem]) (by first | rfl | simp [go_sem])
                · dsimp only [go_sem, Nat.reduceBEq, Nat.reduceAdd]
                  refine V_go 8 ?_
                  dsimp only [e_narthexref12_First, go_sem, Nat.reduceBEq, Nat.reduceAdd]
                  refine ⟨by simp, ?_⟩
                  refine M_case 48 h rfl (fun hb h => ?_) (fun hb h => ?_)
                  · dsimp only [go_sem, Nat.reduceBEq, Nat.reduceAdd]
                    refine V_go 4 ?_
                    dsimp only [e_narthexref12_First, go_sem, Nat.reduceBEq, Nat.reduceAdd]
                    refine ⟨by simp, ?_⟩
                    refine M_case 52 h rfl (fun hb h => ?_) (fun hb h => ?_)
                    · dsimp only [go_sem, Nat.reduceBEq, Nat.reduceAdd]
                      refine V_go 6 ?_
                      dsimp only [e_narthexref12_First, go_sem, Nat.reduceBEq, Nat.reduceAdd]
                      refine ⟨by simp, ?_⟩
                      refine M_case 58 h rfl (fun hb h => ?_) (fun hb h => ?_)
                      · dsimp only [go_sem, Nat.reduceBEq, Nat.reduceAdd]
                        refine V_go 13 ?_
                        dsimp only [e_narthexref12_First, go_sem, Nat.reduceBEq, Nat.reduceAdd]
                        refine ⟨by simp, ?_⟩
                        exact M_to J4 (s := true) h (by simp [go_sem]) (by first | rfl | simp [go_sem])
                      · dsimp only [go_sem, Nat.reduceBEq, Nat.reduceAdd]
                        refine V_go 4 ?_
                        dsimp only [e_narthexref12_First, go_sem, Nat.reduceBEq, Nat.reduceAdd]
                        refine ⟨by simp, ?_⟩
                        refine M_case 62 h rfl (fun hb h => ?_) (fun hb h => ?_)
                        · dsimp only [go_sem, Nat.reduceBEq, Nat.reduceAdd]
                          refine V_go 5 ?_
                          dsimp only [e_narthexref12_First, go_sem, Nat.reduceBEq, Nat.reduceAdd]
                          refine ⟨by simp, ?_⟩
                          refine M_case 67 h rfl (fun hb h => ?_) (fun hb h => ?_)
                          · dsimp only [go_sem, Nat.reduceBEq, Nat.reduceAdd]
                            refine V_go 4 ?_
                            dsimp only [e_narthexref12_First, go_sem, Nat.reduceBEq, Nat.reduceAdd]
                            refine ⟨by simp, ?_⟩
                            exact M_to J4 (s := x4) h (by simp [go_sem]) (by first | rfl | simp [go_sem])
                          · dsimp only [go_sem, Nat.reduceBEq, Nat.reduceAdd]
                            refine V_go 4 ?_
                            dsimp only [e_narthexref12_First, go_sem, Nat.reduceBEq, Nat.reduceAdd]
                            refine ⟨by simp, ?_⟩
                            exact M_to J4 (s := false) h (by simp [go_sem]) (by first | rfl | simp [go_sem])
                        · dsimp only [go_sem, Nat.reduceBEq, Nat.reduceAdd]
                          refine V_go 9 ?_
                          dsimp only [e_narthexref12_First, go_sem, Nat.reduceBEq, Nat.reduceAdd]
                          refine ⟨by simp, ?_⟩
                          exact M_to J4 (s := false) h (by simp [go_sem]) (by first | rfl | simp [go_sem])
                    · dsimp only [go_sem, Nat.reduceBEq, Nat.reduceAdd]
                      refine V_go 10 ?_
                      dsimp only [e_narthexref12_First, go_sem, Nat.reduceBEq, Nat.reduceAdd]
                      refine ⟨by simp, ?_⟩
                      refine M_case 62 h rfl (fun hb h => ?_) (fun hb h => ?_)
                      · dsimp only [go_sem, Nat.reduceBEq, Nat.reduceAdd]
                        refine V_go 5 ?_
                        dsimp only [e_narthexref12_First, go_sem, Nat.reduceBEq, Nat.reduceAdd]
                        refine ⟨by simp, ?_⟩
                        refine M_case 67 h rfl (fun hb h => ?_) (fun hb h => ?_)
                        · dsimp only [go_sem, Nat.reduceBEq, Nat.reduceAdd]
                          refine V_go 4 ?_
                          dsimp only [e_narthexref12_First, go_sem, Nat.reduceBEq, Nat.reduceAdd]
                          refine ⟨by simp, ?_⟩
                          exact M_to J4 (s := x4) h (by simp [go_sem]) (by first | rfl | simp [go_sem])
                        · dsimp only [go_sem, Nat.reduceBEq, Nat.reduceAdd]
                          refine V_go 4 ?_
                          dsimp only [e_narthexref12_First, go_sem, Nat.reduceBEq, Nat.reduceAdd]
                          refine ⟨by simp, ?_⟩
                          exact M_to J4 (s := false) h (by simp [go_sem]) (by first | rfl | simp [go_sem])
                      · dsimp only [go_sem, Nat.reduceBEq, Nat.reduceAdd]
                        refine V_go 9 ?_
                        dsimp only [e_narthexref12_First, go_sem, Nat.reduceBEq, Nat.reduceAdd]
                        refine ⟨by simp, ?_⟩
                        exact M_to J4 (s := false) h (by simp [go_sem]) (by first | rfl | simp [go_sem])
                  · dsimp only [go_sem, Nat.reduceBEq, Nat.reduceAdd]
                    refine V_go 14 ?_
                    dsimp only [e_narthexref12_First, go_sem, Nat.reduceBEq, Nat.reduceAdd]
                    refine ⟨by simp, ?_⟩
                    refine M_case 62 h rfl (fun hb h => ?_) (fun hb h => ?_)
                    · dsimp only [go_sem, Nat.reduceBEq, Nat.reduceAdd]
                      refine V_go 5 ?_
                      dsimp only [e_narthexref12_First, go_sem, Nat.reduceBEq, Nat.reduceAdd]
                      refine ⟨by simp, ?_⟩
                      refine M_case 67 h rfl (fun hb h => ?_) (fun hb h => ?_)
                      · dsimp only [go_sem, Nat.reduceBEq, Nat.reduceAdd]
                        refine V_go 4 ?_
                        dsimp only [e_narthexref12_First, go_sem, Nat.reduceBEq, Nat.reduceAdd]
                        refine ⟨by simp, ?_⟩
                        exact M_to J4 (s := x4) h (by simp [go_sem]) (by first | rfl | simp [go_sem])
                      · dsimp only [go_sem, Nat.reduceBEq, Nat.reduceAdd]
                        refine V_go 4 ?_
                        dsimp only [e_narthexref12_First, go_sem, Nat.reduceBEq, Nat.reduceAdd]
                        refine ⟨by simp, ?_⟩
                        exact M_to J4 (s := false) h (by simp [go_sem]) (by first | rfl | simp [go_sem])
                    · dsimp only [go_sem, Nat.reduceBEq, Nat.reduceAdd]
                      refine V_go 9 ?_
                      dsimp only [e_narthexref12_First, go_sem, Nat.reduceBEq, Nat.reduceAdd]
                      refine ⟨by simp, ?_⟩
                      exact M_to J4 (s := false) h (by simp [go_sem]) (by first | rfl | simp [go_sem])
          · refine M_case 30 h rfl (fun hb h => ?_) (fun hb h => ?_)
            · dsimp only [go_sem, Nat.reduceBEq, Nat.reduceAdd]
              refine V_go 5 ?_
              dsimp only [e_narthexref12_First, go_sem, Nat.reduceBEq, Nat.reduceAdd]
              refine ⟨by simp, ?_⟩
              refine M_case 35 h rfl (fun hb h => ?_) (fun hb h => ?_)
              · dsimp only [go_sem, Nat.reduceBEq, Nat.reduceAdd]
                refine V_go 3 ?_
                dsimp only [e_narthexref12_First, go_sem, Nat.reduceBEq, Nat.reduceAdd]
                refine ⟨by simp, ?_⟩
                exact M_to J3 (s := x3) h (by simp [go_sem]) (by first | rfl | simp [go_sem])
              · dsimp only [go_sem, Nat.reduceBEq, Nat.reduceAdd]
                refine V_go 3 ?_
                dsimp only [e_narthexref12_First, go_sem, Nat.reduceBEq, Nat.reduceAdd]
                refine ⟨by simp, ?_⟩
                exact M_to J3 (s := false) h (by simp [go_sem]) (by first | rfl | simp [go_sem])
            · dsimp only [go_sem, Nat.reduceBEq, Nat.reduceAdd]
              refine V_go 8 ?_
              dsimp only [e_narthexref12_First, go_sem, Nat.reduceBEq, Nat.reduceAdd]
              refine ⟨by simp, ?_⟩
              exact M_to J3 (s := false) h (by simp [go_sem]) (by first | rfl | simp [go_sem])
      · refine M_case 18 h rfl (fun hb h => ?_) (fun hb h => ?_)
        · dsimp only [go_sem, Nat.reduceBEq, Nat.reduceAdd]
          refine V_go 4 ?_
          dsimp only [e_narthexref12_First, go_sem, Nat.reduceBEq, Nat.reduceAdd]
          refine ⟨by simp, ?_⟩
          refine M_case 22 h rfl (fun hb h => ?_) (fun hb h => ?_)
          · dsimp only [go_sem, Nat.reduceBEq, Nat.reduceAdd]
            refine V_go 5 ?_
            dsimp only [e_narthexref12_First, go_sem, Nat.reduceBEq, Nat.reduceAdd]
            refine ⟨by simp, ?_⟩
            exact M_to J2 (s := !x1.Fork) h (by simp [go_sem]) (by first | rfl | simp [go_sem])
          · dsimp only [go_sem, Nat.reduceBEq, Nat.reduceAdd]
            refine V_go 5 ?_
            dsimp only [e_narthexref12_First, go_sem, Nat.reduceBEq, Nat.reduceAdd]
            refine ⟨by simp, ?_⟩
            exact M_to J2 (s := false) h (by simp [go_sem]) (by first | rfl | simp [go_sem])
        · dsimp only [go_sem, Nat.reduceBEq, Nat.reduceAdd]
          refine V_go 9 ?_
          dsimp only [e_narthexref12_First, go_sem, Nat.reduceBEq, Nat.reduceAdd]
          refine ⟨by simp, ?_⟩
          exact M_to J2 (s := false) h (by simp [go_sem]) (by first | rfl | simp [go_sem])
  · refine M_case 11 h rfl (fun hb h => ?_) (fun hb h => ?_)
    · dsimp only [go_sem, Nat.reduceBEq, Nat.reduceAdd]
      refine V_go 5 ?_
      dsimp only [e_narthexref12_First, go_sem, Nat.reduceBEq, Nat.reduceAdd]
      refine ⟨by simp, ?_⟩
      exact M_to J1 (s := !x1.Dirty) h (by simp [go_sem]) (by first | rfl | simp [go_sem])
    · dsimp only [go_sem, Nat.reduceBEq, Nat.reduceAdd]
      refine V_go 5 ?_
      dsimp only [e_narthexref12_First, go_sem, Nat.reduceBEq, Nat.reduceAdd]
      refine ⟨by simp, ?_⟩
      exact M_to J1 (s := false) h (by simp [go_sem]) (by first | rfl | simp [go_sem])
def f_narthexref12_First_j4 (F : Nat)  : Bool → Option Int
| x8 =>
 ifb x8 (
 some 2) (
 some 0)
theorem le_narthexref12_First_j4 {F : Nat} : ∀ s, ole (f_narthexref12_First_j4 F s) (m_narthexref12_First_j4 s) := by
  intro x8
  unfold f_narthexref12_First_j4 m_narthexref12_First_j4
  try dsimp only
  repeat' first | with_reducible exact ole_refl _ | assumption | intro _ | with_reducible refine ole_ifb ?_ ?_ | with_reducible refine ole_bind ?_ ?_ | with_reducible refine ole_map ?_ | with_reducible refine ole_loop ?_
def f_narthexref12_First_j3 (F : Nat) (x1 : Side) (x2 : Side) (x4 : Bool) : Bool → Option Int
| x7 =>
 ifb x7 (
 some 1) (
 ifb x2.Fork (
 ifb (!x2.Dirty) (
 f_narthexref12_First_j4 F true) (
 ifb x1.Fork (
 ifb x1.Dirty (
 ifb (!x2.Fork) (
 f_narthexref12_First_j4 F true) (
 ifb (!x1.Fork) (
 ifb (!x2.Fork) (
 f_narthexref12_First_j4 F x4) (
 f_narthexref12_First_j4 F false)) (
 f_narthexref12_First_j4 F false))) (
 ifb (!x1.Fork) (
 ifb (!x2.Fork) (
 f_narthexref12_First_j4 F x4) (
 f_narthexref12_First_j4 F false)) (
 f_narthexref12_First_j4 F false))) (
 ifb (!x1.Fork) (
 ifb (!x2.Fork) (
 f_narthexref12_First_j4 F x4) (
 f_narthexref12_First_j4 F false)) (
 f_narthexref12_First_j4 F false)))) (
 ifb x1.Fork (
 ifb x1.Dirty (
 ifb (!x2.Fork) (
 f_narthexref12_First_j4 F true) (
 ifb (!x1.Fork) (
 ifb (!x2.Fork) (
 f_narthexref12_First_j4 F x4) (
 f_narthexref12_First_j4 F false)) (
 f_narthexref12_First_j4 F false))) (
 ifb (!x1.Fork) (
 ifb (!x2.Fork) (
 f_narthexref12_First_j4 F x4) (
 f_narthexref12_First_j4 F false)) (
 f_narthexref12_First_j4 F false))) (
 ifb (!x1.Fork) (
 ifb (!x2.Fork) (
 f_narthexref12_First_j4 F x4) (
 f_narthexref12_First_j4 F false)) (
 f_narthexref12_First_j4 F false))))
theorem le_narthexref12_First_j3 {F : Nat} {x1 : Side} {x2 : Side} {x4 : Bool} : ∀ s, ole (f_narthexref12_First_j3 F x1 x2 x4 s) (m_narthexref12_First_j3 x1 x2 x4 s) := by
  intro x7
  unfold f_narthexref12_First_j3 m_narthexref12_First_j3
  try dsimp only
  repeat' first | with_reducible exact ole_refl _ | assumption | intro _ | with_reducible refine ole_ifb ?_ ?_ | with_reducible refine ole_bind ?_ ?_ | with_reducible refine ole_map ?_ | with_reducible refine ole_loop ?_ | with_reducible apply le_narthexref12_First_j4
def f_narthexref12_First_j2 (F : Nat) (x1 : Side) (x2 : Side) (x3 : Bool) (x4 : Bool) : Bool → Option Int
| x6 =>
 ifb x6 (
 some 1) (
 ifb (!x1.Fork) (
 ifb (!x2.Fork) (
 (f_narthexref12_First_j3 F x1 x2 x4) x3) (
 (f_narthexref12_First_j3 F x1 x2 x4) false)) (
 (f_narthexref12_First_j3 F x1 x2 x4) false))
theorem le_narthexref12_First_j2 {F : Nat} {x1 : Side} {x2 : Side} {x3 : Bool} {x4 : Bool} : ∀ s, ole (f_narthexref12_First_j2 F x1 x2 x3 x4 s) (m_narthexref12_First_j2 x1 x2 x3 x4 s) := by
  intro x6
  unfold f_narthexref12_First_j2 m_narthexref12_First_j2
  try dsimp only
  repeat' first | with_reducible exact ole_refl _ | assumption | intro _ | with_reducible refine ole_ifb ?_ ?_ | with_reducible refine ole_bind ?_ ?_ | with_reducible refine ole_map ?_ | with_reducible refine ole_loop ?_ | with_reducible apply le_narthexref12_First_j4 | with_reducible apply le_narthexref12_First_j3
def f_narthexref12_First_j1 (F : Nat) (x1 : Side) (x2 : Side) (x3 : Bool) (x4 : Bool) : Bool → Option Int
| x5 =>
 ifb x5 (
 some 1) (
 ifb x2.Fork (
 ifb x2.Dirty (
 (f_narthexref12_First_j2 F x1 x2 x3 x4) (!x1.Fork)) (
 (f_narthexref12_First_j2 F x1 x2 x3 x4) false)) (
 (f_narthexref12_First_j2 F x1 x2 x3 x4) false))
theorem le_narthexref12_First_j1 {F : Nat} {x1 : Side} {x2 : Side} {x3 : Bool} {x4 : Bool} : ∀ s, ole (f_narthexref12_First_j1 F x1 x2 x3 x4 s) (m_narthexref12_First_j1 x1 x2 x3 x4 s) := by
  intro x5
  unfold f_narthexref12_First_j1 m_narthexref12_First_j1
  try dsimp only
  repeat' first | with_reducible exact ole_refl _ | assumption | intro _ | with_reducible refine ole_ifb ?_ ?_ | with_reducible refine ole_bind ?_ ?_ | with_reducible refine ole_map ?_ | with_reducible refine ole_loop ?_ | with_reducible apply le_narthexref12_First_j4 | with_reducible apply le_narthexref12_First_j3 | with_reducible apply le_narthexref12_First_j2
def f_narthexref12_First (F : Nat) (x1 : Side) (x2 : Side) (x3 : Bool) (x4 : Bool) : Option Int :=
 ifb x1.Fork (
 (f_narthexref12_First_j1 F x1 x2 x3 x4) (!x1.Dirty)) (
 (f_narthexref12_First_j1 F x1 x2 x3 x4) false)
theorem le_narthexref12_First {F : Nat} {x1 : Side} {x2 : Side} {x3 : Bool} {x4 : Bool} : ole (f_narthexref12_First F x1 x2 x3 x4) (m_narthexref12_First x1 x2 x3 x4) := by
  unfold f_narthexref12_First m_narthexref12_First
  repeat' first | with_reducible exact ole_refl _ | assumption | intro _ | with_reducible refine ole_ifb ?_ ?_ | with_reducible refine ole_bind ?_ ?_ | with_reducible refine ole_map ?_ | with_reducible refine ole_loop ?_ | with_reducible apply le_narthexref12_First_j4 | with_reducible apply le_narthexref12_First_j3 | with_reducible apply le_narthexref12_First_j2 | with_reducible apply le_narthexref12_First_j1
end NX
end Go.Proofs.Ytadebhbiglmodaa
/-
  The function narthex/narthexref12.Arcs: its code compiled, a model, and that the code answers as the model. Written by a program of ours (lb.py). No statement of the seat is proved here.
-/
namespace Go.Proofs.Ytadebhbiglmodaa
namespace NX
open Go
set_option maxRecDepth 100000
set_option maxHeartbeats 4000000
def e_narthexref12_Arcs_L1 : EC := .seq (.seq (.reg [⟨(some 23), none, .mv (.t 5)⟩, ⟨(some 24), none, .fld 0 (.t 1)⟩, ⟨(some 25), none, .load (.t 24)⟩, ⟨(some 26), none, .len (.t 25)⟩, ⟨(some 27), none, .bin .lss (.t 23) (.t 26)⟩]) (.ite (.t 27) (.skip) (.exit 2))) (.seq (.blk 3 (.seq (.drw [⟨(some 30), none, .fld 0 (.t 1)⟩, ⟨(some 31), none, .load (.t 30)⟩, ⟨(some 32), none, .mv (.t 4)⟩, ⟨(some 33), none, .idx 3 (.t 31) (.t 32)⟩, ⟨(some 34), none, .loadA 3 (.t 33)⟩, ⟨(some 35), none, .fld 0 (.t 1)⟩, ⟨(some 36), none, .load (.t 35)⟩, ⟨(some 37), none, .mv (.t 5)⟩, ⟨(some 38), none, .idx 3 (.t 36) (.t 37)⟩, ⟨(some 39), none, .loadA 3 (.t 38)⟩, ⟨(some 6), none, .alloc 39 [.iv 0, .iv 0, .nl]⟩, ⟨(some 7), none, .alloc 39 [.iv 0, .iv 0, .nl]⟩, ⟨none, none, .store 3 (.t 6) (.t 34)⟩, ⟨none, none, .store 3 (.t 7) (.t 39)⟩] [[], [0], [], [1, 2], [3], [], [5], [], [6, 7], [8], [], [], [10, 4, 0, 1, 2, 3, 4, 10, 11], [11, 9, 12, 0, 1, 2, 3, 4, 5, 6, 7, 8, 9, 10, 11, 12]] [[1], [0, 3], [3], [1, 2, 4], [3, 12], [6], [5, 8], [8], [6, 7, 9], [8, 13], [12], [13], [4, 10], [9, 11]]) (.seq (.reg [⟨(some 41), none, .loadA 3 (.t 6)⟩, ⟨(some 42), none, .fld 0 (.t 7)⟩, ⟨(some 43), none, .load (.t 42)⟩, ⟨(some 44), none, .call 25 [(.t 41), (.t 43)]⟩, ⟨(some 40), none, .mv (.t 44)⟩, ⟨(some 45), none, .ext (.t 40) 0⟩, ⟨(some 46), none, .ext (.t 40) 1⟩, ⟨(some 8), none, .alloc 49 [.iv 0, .iv 0, .iv 0, .ff, .ff, .ff, .ff, .ff]⟩, ⟨none, none, .store 8 (.t 8) (.t 45)⟩, ⟨(some 9), none, .mv (.t 46)⟩]) (.seq (.reg [⟨(some 48), none, .loadA 3 (.t 7)⟩, ⟨(some 49), none, .fld 0 (.t 6)⟩, ⟨(some 50), none, .load (.t 49)⟩, ⟨(some 51), none, .call 25 [(.t 48), (.t 50)]⟩, ⟨(some 47), none, .mv (.t 51)⟩, ⟨(some 52), none, .ext (.t 47) 0⟩, ⟨(some 53), none, .ext (.t 47) 1⟩, ⟨(some 10), none, .alloc 49 [.iv 0, .iv 0, .iv 0, .ff, .ff, .ff, .ff, .ff]⟩, ⟨none, none, .store 8 (.t 10) (.t 52)⟩, ⟨(some 11), none, .mv (.t 53)⟩]) (.seq (.seq (.reg [⟨(some 54), none, .mv (.t 9)⟩, ⟨(some 55), none, .not (.t 54)⟩, ⟨(some 56), none, .mv (.t 55)⟩, ⟨(some 57), (some (56, false)), .mv (.t 11)⟩, ⟨(some 58), (some (56, false)), .not (.t 57)⟩, ⟨(some 59), none, .pick (.t 56) (.c .tt) (.t 58)⟩, ⟨(some 60), none, .mv (.t 59)⟩, ⟨(some 61), (some (60, false)), .fld 1 (.t 8)⟩, ⟨(some 62), (some (60, false)), .load (.t 61)⟩, ⟨(some 63), (some (60, false)), .fld 1 (.t 10)⟩, ⟨(some 64), (some (60, false)), .load (.t 63)⟩, ⟨(some 65), (some (60, false)), .bin .neq (.t 62) (.t 64)⟩, ⟨(some 66), none, .pick (.t 60) (.c .tt) (.t 65)⟩]) (.ite (.t 66) (.exit 3) (.skip))) (.seq (.drw [⟨(some 67), none, .loadA 8 (.t 8)⟩, ⟨(some 68), none, .loadA 8 (.t 10)⟩, ⟨(some 69), none, .fld 1 (.t 1)⟩, ⟨(some 70), none, .load (.t 69)⟩, ⟨(some 71), none, .fld 0 (.t 7)⟩, ⟨(some 72), none, .load (.t 71)⟩, ⟨(some 73), none, .fld 0 (.t 6)⟩, ⟨(some 74), none, .load (.t 73)⟩, ⟨(some 75), none, .fld 1 (.t 8)⟩, ⟨(some 76), none, .load (.t 75)⟩, ⟨(some 77), none, .call 63 [(.t 70), (.t 72), (.t 74), (.t 76)]⟩, ⟨(some 78), none, .fld 1 (.t 1)⟩, ⟨(some 79), none, .load (.t 78)⟩, ⟨(some 80), none, .fld 0 (.t 6)⟩, ⟨(some 81), none, .load (.t 80)⟩, ⟨(some 82), none, .fld 0 (.t 7)⟩, ⟨(some 83), none, .load (.t 82)⟩, ⟨(some 84), none, .fld 1 (.t 8)⟩, ⟨(some 85), none, .load (.t 84)⟩, ⟨(some 86), none, .call 63 [(.t 79), (.t 81), (.t 83), (.t 85)]⟩, ⟨(some 87), none, .call 62 [(.t 67), (.t 68), (.t 77), (.t 86)]⟩, ⟨(some 12), none, .mv (.t 87)⟩] [[], [], [], [2], [], [4], [], [6], [], [8], [3, 5, 7, 9], [], [11], [], [13], [], [15], [], [17], [12, 14, 16, 18, 10], [0, 1, 10, 19, 19], [20, 20, 0, 1, 2, 3, 4, 5, 6, 7, 8, 9, 10, 11, 12, 13, 14, 15, 16, 17, 18, 19, 20]] [[20], [20], [3], [2, 10], [5], [4, 10], [7], [6, 10], [9], [8, 10], [3, 5, 7, 9, 20], [12], [11, 19], [14], [13, 19], [16], [15, 19], [18], [17, 19], [12, 14, 16, 18, 20], [0, 1, 10, 19, 21], [20]]) (.seq (.seq (.reg [⟨(some 88), none, .mv (.t 12)⟩, ⟨(some 89), none, .bin .eql (.t 88) (.c (.iv 1))⟩]) (.ite (.t 89) (.reg [⟨(some 90), none, .mv (.t 3)⟩, ⟨(some 91), none, .fld 0 (.t 6)⟩, ⟨(some 92), none, .load (.t 91)⟩, ⟨(some 93), none, .fld 0 (.t 7)⟩, ⟨(some 94), none, .load (.t 93)⟩, ⟨(some 95), none, .build [.iv 0, .iv 0] [(0, 1, (.t 92)), (1, 1, (.t 94))]⟩, ⟨(some 96), none, .bsl 62 2 1 [.iv 0, .iv 0] [(0, (.t 95))]⟩, ⟨(some 97), none, .app 62 2 16 (.t 90) (.t 96)⟩, ⟨(some 3), none, .mv (.t 97)⟩]) (.skip))) (.seq (.reg [⟨(some 98), none, .mv (.t 12)⟩, ⟨(some 99), none, .bin .eql (.t 98) (.c (.iv 2))⟩]) (.ite (.t 99) (.reg [⟨(some 100), none, .mv (.t 3)⟩, ⟨(some 101), none, .fld 0 (.t 7)⟩, ⟨(some 102), none, .load (.t 101)⟩, ⟨(some 103), none, .fld 0 (.t 6)⟩, ⟨(some 104), none, .load (.t 103)⟩, ⟨(some 105), none, .build [.iv 0, .iv 0] [(0, 1, (.t 102)), (1, 1, (.t 104))]⟩, ⟨(some 106), none, .bsl 62 2 1 [.iv 0, .iv 0] [(0, (.t 105))]⟩, ⟨(some 107), none, .app 62 2 16 (.t 100) (.t 106)⟩, ⟨(some 3), none, .mv (.t 107)⟩]) (.skip)))))))))) (.reg [⟨(some 28), none, .mv (.t 5)⟩, ⟨(some 29), none, .bin .add (.t 28) (.c (.iv 1))⟩, ⟨(some 5), none, .mv (.t 29)⟩]))
def e_narthexref12_Arcs_L0 : EC := .seq (.seq (.reg [⟨(some 14), none, .mv (.t 4)⟩, ⟨(some 15), none, .fld 0 (.t 1)⟩, ⟨(some 16), none, .load (.t 15)⟩, ⟨(some 17), none, .len (.t 16)⟩, ⟨(some 18), none, .bin .lss (.t 14) (.t 17)⟩]) (.ite (.t 18) (.skip) (.exit 0))) (.seq (.blk 1 (.seq (.reg [⟨(some 21), none, .mv (.t 4)⟩, ⟨(some 22), none, .bin .add (.t 21) (.c (.iv 1))⟩, ⟨(some 5), none, .mv (.t 22)⟩]) (.blk 2 (.loop e_narthexref12_Arcs_L1)))) (.reg [⟨(some 19), none, .mv (.t 4)⟩, ⟨(some 20), none, .bin .add (.t 19) (.c (.iv 1))⟩, ⟨(some 4), none, .mv (.t 20)⟩]))
def e_narthexref12_Arcs : EC := .seq (.reg [⟨(some 1), none, .box 43 2 (.t 0)⟩, ⟨(some 2), none, .mv (.c .nl)⟩]) (.seq (.reg [⟨(some 13), none, .bsl 62 2 0 [.iv 0, .iv 0] []⟩, ⟨(some 3), none, .mv (.t 13)⟩]) (.seq (.seq (.reg [⟨(some 4), none, .mv (.c (.iv 0))⟩]) (.blk 0 (.loop e_narthexref12_Arcs_L0))) (.seq (.reg [⟨(some 108), none, .mv (.t 3)⟩, ⟨(some 2), none, .mv (.t 108)⟩]) (.ret))))
theorem ok_narthexref12_Arcs : FnOK Try.prog 30 Try.f30 e_narthexref12_Arcs [.t 2] 1 108 := ⟨by kernel_rfl, ⟨_, rfl, by kernel_rfl⟩, by kernel_rfl, by kernel_rfl⟩
/- narthex/narthexref12.Arcs -/
noncomputable def m_narthexref12_Arcs_j1  : (List Arc) → Option (List Arc)
| x88 =>
 some x88
noncomputable def m_narthexref12_Arcs_j2 (x42 : Int) : (List Arc) → Option ((Int × (List Arc)) ⊕ (List Arc))
| x82 =>
 some (.inl (wr (x42 + 1), x82))
noncomputable def m_narthexref12_Arcs_j3 (x60 : Int) : (List Arc) → Option ((Int × (List Arc)) ⊕ ((Int × (List Arc)) ⊕ (List Arc)))
| x75 =>
 some (.inl (wr (x60 + 1), x75))
noncomputable def m_narthexref12_Arcs_j6 (x60 : Int) (x64 : Diner) (x65 : Diner) (x71 : Int) : (List Arc) → Option ((Int × (List Arc)) ⊕ ((Int × (List Arc)) ⊕ (List Arc)))
| x73 =>
 ifb (decide (x71 = 2)) (
 (app_ 16 x73 ([(Arc.mk x65.ID x64.ID)])).bind fun x74 =>
 (m_narthexref12_Arcs_j3 x60) x74) (
 (m_narthexref12_Arcs_j3 x60) x73)
noncomputable def m_narthexref12_Arcs_j5 (x1 : Scene) (x60 : Int) (x61 : (List Arc)) (x64 : Diner) (x65 : Diner) (x66 : (Side × Bool)) (x67 : (Side × Bool)) : Bool → Option ((Int × (List Arc)) ⊕ ((Int × (List Arc)) ⊕ (List Arc)))
| x68 =>
 ifb x68 (
 (m_narthexref12_Arcs_j3 x60) x61) (
 (m_narthexref12_goes x1.Mail x65.ID x64.ID x66.1.Epoch).bind fun x69 =>
 (m_narthexref12_goes x1.Mail x64.ID x65.ID x66.1.Epoch).bind fun x70 =>
 (m_narthexref12_First x66.1 x67.1 x69 x70).bind fun x71 =>
 ifb (decide (x71 = 1)) (
 (app_ 16 x61 ([(Arc.mk x64.ID x65.ID)])).bind fun x72 =>
 (m_narthexref12_Arcs_j6 x60 x64 x65 x71) x72) (
 (m_narthexref12_Arcs_j6 x60 x64 x65 x71) x61))
noncomputable def m_narthexref12_Arcs_j4 (x1 : Scene) (x60 : Int) (x61 : (List Arc)) : (Diner × Diner) → Option ((Int × (List Arc)) ⊕ ((Int × (List Arc)) ⊕ (List Arc)))
| (x64, x65) =>
 (m_narthexref12_Side x64 x65.ID).bind fun x66 =>
 (m_narthexref12_Side x65 x64.ID).bind fun x67 =>
 ifb (!x66.2) (
 (m_narthexref12_Arcs_j5 x1 x60 x61 x64 x65 x66 x67) true) (
 ifb (!x67.2) (
 (m_narthexref12_Arcs_j5 x1 x60 x61 x64 x65 x66 x67) true) (
 (m_narthexref12_Arcs_j5 x1 x60 x61 x64 x65 x66 x67) (!decide (x66.1.Epoch = x67.1.Epoch))))
noncomputable def m_narthexref12_Arcs_l2 (x1 : Scene) (x42 : Int) : (Int × (List Arc)) → Option ((Int × (List Arc)) ⊕ ((Int × (List Arc)) ⊕ (List Arc)))
| (x60, x61) =>
 ifb (decide (x60 < (ln Diner.row x1.Diners))) (
 (at_ x1.Diners x42).bind fun x62 =>
 (at_ x1.Diners x60).bind fun x63 =>
 (m_narthexref12_Arcs_j4 x1 x60 x61) (x62, x63)) (
 Option.map Sum.inr ((m_narthexref12_Arcs_j2 x42) x61))
noncomputable def m_narthexref12_Arcs_l1 (x1 : Scene) : (Int × (List Arc)) → Option ((Int × (List Arc)) ⊕ (List Arc))
| (x42, x43) =>
 ifb (decide (x42 < (ln Diner.row x1.Diners))) (
 loop (m_narthexref12_Arcs_l2 x1 x42) (wr (x42 + 1), x43)) (
 Option.map Sum.inr (m_narthexref12_Arcs_j1 x43))
noncomputable def m_narthexref12_Arcs (x1 : Scene) : Option (List Arc) :=
 loop (m_narthexref12_Arcs_l1 x1) (0, ([] : List Arc))
theorem o_narthexref12_Arcs (x1 : Scene) (r : (List Arc)) (h : m_narthexref12_Arcs x1 = some r) : FunO Try.prog 30 [.agg (Scene.row x1)] 62 2 (List.map Arc.row r) := by
  refine FunO_intro ok_narthexref12_Arcs rfl fun w0 H0 => ?_
  rw [m_narthexref12_Arcs] at h
  refine V_go 15 ?_
  dsimp only [e_narthexref12_Arcs, e_narthexref12_Arcs_L0, e_narthexref12_Arcs_L1, go_sem, Nat.reduceBEq, Nat.reduceAdd]
  refine ⟨by simp, ?_⟩
  refine V_join (fun (x88 : (List Arc)) => (⟨(an 3 (.osl 0 :: an 105 [])), [], [some ⟨62, 2, List.map Arc.row x88⟩]⟩ : St)) m_narthexref12_Arcs_j1 r ?_ fun J1 => ?_
  · intro x88 h
    rw [m_narthexref12_Arcs_j1] at h
    try dsimp only
    refine V_go 5 ?_
    dsimp only [e_narthexref12_Arcs, e_narthexref12_Arcs_L0, e_narthexref12_Arcs_L1, go_sem, Nat.reduceBEq, Nat.reduceAdd]
    refine ⟨by simp, ?_⟩
    exact O_doneM Arc.row ok_narthexref12_Arcs h rfl rfl
  · refine V_go 1 ?_
    dsimp only [e_narthexref12_Arcs, e_narthexref12_Arcs_L0, e_narthexref12_Arcs_L1, go_sem, Nat.reduceBEq, Nat.reduceAdd]
    refine ⟨by simp, ?_⟩
    refine M_loop h (fun ((x42, x43) : (Int × (List Arc))) => (⟨(.any :: .ptr 0 0 :: .any :: .osl 0 :: .iv x42 :: an 104 []), [some ⟨43, [.sl 3 (List.map Diner.row x1.Diners), .sl 5 (List.map Mail.row x1.Mail)]⟩], [some ⟨62, 2, List.map Arc.row x43⟩]⟩ : St)) (by simp [go_sem]) (by rintro ⟨x42, x43⟩; first | rfl | simp [go_sem]) ?_
    rintro n1 ⟨x42, x43⟩ y1 h hin1 hout1
    rw [m_narthexref12_Arcs_l1] at h
    try dsimp only
    refine V_go 9 ?_
    dsimp only [e_narthexref12_Arcs, e_narthexref12_Arcs_L0, e_narthexref12_Arcs_L1, go_sem, Nat.reduceBEq, Nat.reduceAdd]
    refine ⟨by simp, ?_⟩
    refine M_ite h rfl (fun hb h => ?_) (fun hb h => ?_)
    · refine V_go 9 ?_
      dsimp only [e_narthexref12_Arcs, e_narthexref12_Arcs_L0, e_narthexref12_Arcs_L1, go_sem, Nat.reduceBEq, Nat.reduceAdd]
      refine ⟨by simp, ?_⟩
      refine V_join (fun (x82 : (List Arc)) => (⟨(.any :: .ptr 0 0 :: .any :: .osl 0 :: .iv x42 :: an 104 []), [some ⟨43, [.sl 3 (List.map Diner.row x1.Diners), .sl 5 (List.map Mail.row x1.Mail)]⟩], [some ⟨62, 2, List.map Arc.row x82⟩]⟩ : St)) (m_narthexref12_Arcs_j2 x42) y1 ?_ fun J2 => ?_
      · intro x82 h
        rw [m_narthexref12_Arcs_j2] at h
        try dsimp only
        refine V_go 6 ?_
        dsimp only [e_narthexref12_Arcs, e_narthexref12_Arcs_L0, e_narthexref12_Arcs_L1, go_sem, Nat.reduceBEq, Nat.reduceAdd]
        refine ⟨by simp, ?_⟩
        exact M_back h hin1 (by simp [go_sem]) (by first | rfl | simp [go_sem])
      · refine V_go 1 ?_
        dsimp only [e_narthexref12_Arcs, e_narthexref12_Arcs_L0, e_narthexref12_Arcs_L1, go_sem, Nat.reduceBEq, Nat.reduceAdd]
        refine ⟨by simp, ?_⟩
        refine M_loop h (fun ((x60, x61) : (Int × (List Arc))) => (⟨(.any :: .ptr 0 0 :: .any :: .osl 0 :: .iv x42 :: .iv x60 :: an 103 []), [some ⟨43, [.sl 3 (List.map Diner.row x1.Diners), .sl 5 (List.map Mail.row x1.Mail)]⟩], [some ⟨62, 2, List.map Arc.row x61⟩]⟩ : St)) (by simp [go_sem]) (by rintro ⟨x60, x61⟩; first | rfl | simp [go_sem]) ?_
        rintro n2 ⟨x60, x61⟩ y2 h hin2 hout2
        rw [m_narthexref12_Arcs_l2] at h
        try dsimp only
        refine V_go 9 ?_
        dsimp only [e_narthexref12_Arcs, e_narthexref12_Arcs_L0, e_narthexref12_Arcs_L1, go_sem, Nat.reduceBEq, Nat.reduceAdd]
        refine ⟨by simp, ?_⟩
        refine M_ite h rfl (fun hb h => ?_) (fun hb h => ?_)
        · refine V_go 2 ?_
          dsimp only [e_narthexref12_Arcs, e_narthexref12_Arcs_L0, e_narthexref12_Arcs_L1, go_sem, Nat.reduceBEq, Nat.reduceAdd]
          refine ⟨by simp, ?_⟩
          refine V_join (fun (x75 : (List Arc)) => (⟨(.any :: .ptr 0 0 :: .any :: .osl 0 :: .iv x42 :: .iv x60 :: an 103 []), [some ⟨43, [.sl 3 (List.map Diner.row x1.Diners), .sl 5 (List.map Mail.row x1.Mail)]⟩], [some ⟨62, 2, List.map Arc.row x75⟩]⟩ : St)) (m_narthexref12_Arcs_j3 x60) y2 ?_ fun J3 => ?_
          · intro x75 h
            rw [m_narthexref12_Arcs_j3] at h
            try dsimp only
            refine V_go 5 ?_
            dsimp only [e_narthexref12_Arcs, e_narthexref12_Arcs_L0, e_narthexref12_Arcs_L1, go_sem, Nat.reduceBEq, Nat.reduceAdd]
            refine ⟨by simp, ?_⟩
            exact M_back h hin2 (by simp [go_sem]) (by first | rfl | simp [go_sem])
          · refine V_go 2 ?_
            dsimp only [e_narthexref12_Arcs, e_narthexref12_Arcs_L0, e_narthexref12_Arcs_L1, go_sem, Nat.reduceBEq, Nat.reduceAdd]
            refine ⟨by simp, ?_⟩
            refine V_join (fun ((x64, x65) : (Diner × Diner)) => (⟨(.any :: .ptr 0 0 :: .any :: .osl 0 :: .iv x42 :: .iv x60 :: .ptr 1 0 :: .ptr 2 0 :: an 101 []), [some ⟨43, [.sl 3 (List.map Diner.row x1.Diners), .sl 5 (List.map Mail.row x1.Mail)]⟩, some ⟨39, [.iv x64.ID, .iv x64.Phase, .sl 8 (List.map Side.row x64.Sides)]⟩, some ⟨39, [.iv x65.ID, .iv x65.Phase, .sl 8 (List.map Side.row x65.Sides)]⟩], [some ⟨62, 2, List.map Arc.row x61⟩]⟩ : St)) (m_narthexref12_Arcs_j4 x1 x60 x61) y2 ?_ fun J4 => ?_
            · rintro ⟨x64, x65⟩ h
              rw [m_narthexref12_Arcs_j4] at h
              try dsimp only
              refine V_go 5 ?_
              dsimp only [e_narthexref12_Arcs, e_narthexref12_Arcs_L0, e_narthexref12_Arcs_L1, go_sem, Nat.reduceBEq, Nat.reduceAdd]
              refine ⟨by simp, ?_⟩
              obtain ⟨x66, ex66, h⟩ := Option.bind_eq_some_iff.1 h
              refine V_call trivial (k_narthexref12_Side x64 x65.ID _ ex66) (by first | exact leL_refl _ | simp [go_sem]) (by first | rfl | simp [go_sem]) ?_
              refine V_go 12 ?_
              dsimp only [e_narthexref12_Arcs, e_narthexref12_Arcs_L0, e_narthexref12_Arcs_L1, go_sem, Nat.reduceBEq, Nat.reduceAdd]
              refine ⟨by simp, ?_⟩
              obtain ⟨x67, ex67, h⟩ := Option.bind_eq_some_iff.1 h
              refine V_call trivial (k_narthexref12_Side x65 x64.ID _ ex67) (by first | exact leL_refl _ | simp [go_sem]) (by first | rfl | simp [go_sem]) ?_
              refine V_go 13 ?_
              dsimp only [e_narthexref12_Arcs, e_narthexref12_Arcs_L0, e_narthexref12_Arcs_L1, go_sem, Nat.reduceBEq, Nat.reduceAdd]
              refine ⟨by simp, ?_⟩
              refine V_join (fun (x68 : Bool) => (⟨(.any :: .ptr 0 0 :: .any :: .osl 0 :: .iv x42 :: .iv x60 :: .ptr 1 0 :: .ptr 2 0 :: .ptr 3 0 :: .any :: .ptr 4 0 :: an 55 (.bv x68 :: an 42 [])), [some ⟨43, [.sl 3 (List.map Diner.row x1.Diners), .sl 5 (List.map Mail.row x1.Mail)]⟩, some ⟨39, [.iv x64.ID, .iv x64.Phase, .sl 8 (List.map Side.row x64.Sides)]⟩, some ⟨39, [.iv x65.ID, .iv x65.Phase, .sl 8 (List.map Side.row x65.Sides)]⟩, some ⟨49, [.iv x66.1.Peer, .iv x66.1.Epoch, .iv x66.1.State, .bv x66.1.Fork, .bv x66.1.Dirty, .bv x66.1.Token, .bv x66.1.Bottle, .bv x66.1.Ask]⟩, some ⟨49, [.iv x67.1.Peer, .iv x67.1.Epoch, .iv x67.1.State, .bv x67.1.Fork, .bv x67.1.Dirty, .bv x67.1.Token, .bv x67.1.Bottle, .bv x67.1.Ask]⟩], [some ⟨62, 2, List.map Arc.row x61⟩]⟩ : St)) (m_narthexref12_Arcs_j5 x1 x60 x61 x64 x65 x66 x67) y2 ?_ fun J5 => ?_
              · intro x68 h
                rw [m_narthexref12_Arcs_j5] at h
                try dsimp only
                refine M_ite h rfl (fun hb h => ?_) (fun hb h => ?_)
                · refine V_go 1 ?_
                  dsimp only [e_narthexref12_Arcs, e_narthexref12_Arcs_L0, e_narthexref12_Arcs_L1, go_sem, Nat.reduceBEq, Nat.reduceAdd]
                  refine ⟨by simp, ?_⟩
                  exact M_to J3 (s := x61) h (by simp [go_sem]) (by first | rfl | simp [go_sem])
                · refine V_go 2 ?_
                  dsimp only [e_narthexref12_Arcs, e_narthexref12_Arcs_L0, e_narthexref12_Arcs_L1, go_sem, Nat.reduceBEq, Nat.reduceAdd]
                  refine ⟨by simp, ?_⟩
                  refine V_drw (by kernel_rfl) fun all hall hs hnap haf => ?_
                  dsimp only [go_sem, Nat.reduceBEq, Nat.reduceAdd]
                  refine G_goE hall hs haf hnap 18 4 [true, true, true, true, true, true, true, true, true, true, false, true, true, true, true, true, true, true, true, false, false, false] (⟨(.any :: .ptr 0 0 :: .any :: .osl 0 :: .iv x42 :: .iv x60 :: .ptr 1 0 :: .ptr 2 0 :: .ptr 3 0 :: .any :: .ptr 4 0 :: an 55 (.bv x68 :: .agg [.iv x66.1.Peer, .iv x66.1.Epoch, .iv x66.1.State, .bv x66.1.Fork, .bv x66.1.Dirty, .bv x66.1.Token, .bv x66.1.Bottle, .bv x66.1.Ask] :: .agg [.iv x67.1.Peer, .iv x67.1.Epoch, .iv x67.1.State, .bv x67.1.Fork, .bv x67.1.Dirty, .bv x67.1.Token, .bv x67.1.Bottle, .bv x67.1.Ask] :: .ptr 0 1 :: .sl 5 (List.map Mail.row x1.Mail) :: .ptr 2 0 :: .iv x65.ID :: .ptr 1 0 :: .iv x64.ID :: .ptr 3 1 :: .iv x66.1.Epoch :: .any :: .ptr 0 1 :: .sl 5 (List.map Mail.row x1.Mail) :: .ptr 1 0 :: .iv x64.ID :: .ptr 2 0 :: .iv x65.ID :: .ptr 3 1 :: .iv x66.1.Epoch :: an 23 [])), [some ⟨43, [.sl 3 (List.map Diner.row x1.Diners), .sl 5 (List.map Mail.row x1.Mail)]⟩, some ⟨39, [.iv x64.ID, .iv x64.Phase, .sl 8 (List.map Side.row x64.Sides)]⟩, some ⟨39, [.iv x65.ID, .iv x65.Phase, .sl 8 (List.map Side.row x65.Sides)]⟩, some ⟨49, [.iv x66.1.Peer, .iv x66.1.Epoch, .iv x66.1.State, .bv x66.1.Fork, .bv x66.1.Dirty, .bv x66.1.Token, .bv x66.1.Bottle, .bv x66.1.Ask]⟩, some ⟨49, [.iv x67.1.Peer, .iv x67.1.Epoch, .iv x67.1.State, .bv x67.1.Fork, .bv x67.1.Dirty, .bv x67.1.Token, .bv x67.1.Bottle, .bv x67.1.Ask]⟩], [some ⟨62, 2, List.map Arc.row x61⟩]⟩ : St) (by kernel_rfl) ?_
                  refine G_one 10 rfl ?_
                  obtain ⟨x69, ex69, h⟩ := Option.bind_eq_some_iff.1 h
                  refine GO_call hall rfl trivial (k_narthexref12_goes x1.Mail x65.ID x64.ID x66.1.Epoch _ ex69) (by first | exact leL_refl _ | simp [go_sem]) (by first | rfl | simp [go_sem]) ?_
                  dsimp only [go_sem, Nat.reduceBEq, Nat.reduceAdd]
                  refine G_one 19 rfl ?_
                  obtain ⟨x70, ex70, h⟩ := Option.bind_eq_some_iff.1 h
                  refine GO_call hall rfl trivial (k_narthexref12_goes x1.Mail x64.ID x65.ID x66.1.Epoch _ ex70) (by first | exact leL_refl _ | simp [go_sem]) (by first | rfl | simp [go_sem]) ?_
                  dsimp only [go_sem, Nat.reduceBEq, Nat.reduceAdd]
                  refine G_one 20 rfl ?_
                  obtain ⟨x71, ex71, h⟩ := Option.bind_eq_some_iff.1 h
                  refine GO_call hall rfl trivial (k_narthexref12_First x66.1 x67.1 x69 x70 _ ex71) (by first | exact leL_refl _ | simp [go_sem]) (by first | rfl | simp [go_sem]) ?_
                  dsimp only [go_sem, Nat.reduceBEq, Nat.reduceAdd]
                  refine G_goN hall hs haf hnap 1 0 ?_
                  dsimp only [go_sem, Nat.reduceBEq, Nat.reduceAdd]
                  refine ⟨by simp, ?_⟩
                  refine G_done rfl ?_ _
                  refine V_go 6 ?_
                  dsimp only [e_narthexref12_Arcs, e_narthexref12_Arcs_L0, e_narthexref12_Arcs_L1, go_sem, Nat.reduceBEq, Nat.reduceAdd]
                  refine ⟨by simp, ?_⟩
                  refine V_join (fun (x73 : (List Arc)) => (⟨(.any :: .ptr 0 0 :: .any :: .osl 0 :: .iv x42 :: .iv x60 :: .ptr 1 0 :: .ptr 2 0 :: an 4 (.iv x71 :: an 96 [])), [some ⟨43, [.sl 3 (List.map Diner.row x1.Diners), .sl 5 (List.map Mail.row x1.Mail)]⟩, some ⟨39, [.iv x64.ID, .iv x64.Phase, .sl 8 (List.map Side.row x64.Sides)]⟩, some ⟨39, [.iv x65.ID, .iv x65.Phase, .sl 8 (List.map Side.row x65.Sides)]⟩], [some ⟨62, 2, List.map Arc.row x73⟩]⟩ : St)) (m_narthexref12_Arcs_j6 x60 x64 x65 x71) y2 ?_ fun J6 => ?_
                  · intro x73 h
                    rw [m_narthexref12_Arcs_j6] at h
                    try dsimp only
                    refine V_go 5 ?_
                    dsimp only [e_narthexref12_Arcs, e_narthexref12_Arcs_L0, e_narthexref12_Arcs_L1, go_sem, Nat.reduceBEq, Nat.reduceAdd]
                    refine ⟨by simp, ?_⟩
                    refine M_ite h rfl (fun hb h => ?_) (fun hb h => ?_)
                    · refine V_go 8 ?_
                      dsimp only [e_narthexref12_Arcs, e_narthexref12_Arcs_L0, e_narthexref12_Arcs_L1, go_sem, Nat.reduceBEq, Nat.reduceAdd]
                      refine ⟨by simp, ?_⟩
                      obtain ⟨x74, ex74, h⟩ := Option.bind_eq_some_iff.1 h
                      refine V_appM Arc.row ex74 trivial rfl rfl rfl ?_
                      refine V_go 3 ?_
                      dsimp only [e_narthexref12_Arcs, e_narthexref12_Arcs_L0, e_narthexref12_Arcs_L1, go_sem, Nat.reduceBEq, Nat.reduceAdd]
                      refine ⟨by simp, ?_⟩
                      refine V_ren 2 0 rfl rfl rfl ?_
                      dsimp only [go_sem, Nat.reduceBEq, Nat.reduceAdd]
                      exact M_to J3 (s := x74) h (by simp [go_sem]) (by first | rfl | simp [go_sem])
                    · refine V_go 2 ?_
                      dsimp only [e_narthexref12_Arcs, e_narthexref12_Arcs_L0, e_narthexref12_Arcs_L1, go_sem, Nat.reduceBEq, Nat.reduceAdd]
                      refine ⟨by simp, ?_⟩
                      exact M_to J3 (s := x73) h (by simp [go_sem]) (by first | rfl | simp [go_sem])
                  · refine M_ite h rfl (fun hb h => ?_) (fun hb h => ?_)
                    · refine V_go 8 ?_
                      dsimp only [e_narthexref12_Arcs, e_narthexref12_Arcs_L0, e_narthexref12_Arcs_L1, go_sem, Nat.reduceBEq, Nat.reduceAdd]
                      refine ⟨by simp, ?_⟩
                      obtain ⟨x72, ex72, h⟩ := Option.bind_eq_some_iff.1 h
                      refine V_appM Arc.row ex72 trivial rfl rfl rfl ?_
                      refine V_go 2 ?_
                      dsimp only [e_narthexref12_Arcs, e_narthexref12_Arcs_L0, e_narthexref12_Arcs_L1, go_sem, Nat.reduceBEq, Nat.reduceAdd]
                      refine ⟨by simp, ?_⟩
                      refine V_ren 2 0 rfl rfl rfl ?_
                      dsimp only [go_sem, Nat.reduceBEq, Nat.reduceAdd]
                      exact M_to J6 (s := x72) h (by simp [go_sem]) (by first | rfl | simp [go_sem])
                    · refine V_go 1 ?_
                      dsimp only [e_narthexref12_Arcs, e_narthexref12_Arcs_L0, e_narthexref12_Arcs_L1, go_sem, Nat.reduceBEq, Nat.reduceAdd]
                      refine ⟨by simp, ?_⟩
                      exact M_to J6 (s := x61) h (by simp [go_sem]) (by first | rfl | simp [go_sem])
              · refine M_case 56 h rfl (fun hb h => ?_) (fun hb h => ?_)
                · dsimp only [go_sem, Nat.reduceBEq, Nat.reduceAdd]
                  refine V_go 11 ?_
                  dsimp only [e_narthexref12_Arcs, e_narthexref12_Arcs_L0, e_narthexref12_Arcs_L1, go_sem, Nat.reduceBEq, Nat.reduceAdd]
                  refine ⟨by simp, ?_⟩
                  exact M_to J5 (s := true) h (by simp [go_sem]) (by first | rfl | simp [go_sem])
                · dsimp only [go_sem, Nat.reduceBEq, Nat.reduceAdd]
                  refine V_go 4 ?_
                  dsimp only [e_narthexref12_Arcs, e_narthexref12_Arcs_L0, e_narthexref12_Arcs_L1, go_sem, Nat.reduceBEq, Nat.reduceAdd]
                  refine ⟨by simp, ?_⟩
                  refine M_case 60 h rfl (fun hb h => ?_) (fun hb h => ?_)
                  · dsimp only [go_sem, Nat.reduceBEq, Nat.reduceAdd]
                    refine V_go 7 ?_
                    dsimp only [e_narthexref12_Arcs, e_narthexref12_Arcs_L0, e_narthexref12_Arcs_L1, go_sem, Nat.reduceBEq, Nat.reduceAdd]
                    refine ⟨by simp, ?_⟩
                    exact M_to J5 (s := true) h (by simp [go_sem]) (by first | rfl | simp [go_sem])
                  · dsimp only [go_sem, Nat.reduceBEq, Nat.reduceAdd]
                    refine V_go 7 ?_
                    dsimp only [e_narthexref12_Arcs, e_narthexref12_Arcs_L0, e_narthexref12_Arcs_L1, go_sem, Nat.reduceBEq, Nat.reduceAdd]
                    refine ⟨by simp, ?_⟩
                    exact M_to J5 (s := !decide (x66.1.Epoch = x67.1.Epoch)) h (by simp [go_sem]) (by first | rfl | simp [go_sem])
            · refine V_drw (by kernel_rfl) fun all hall hs hnap haf => ?_
              dsimp only [go_sem, Nat.reduceBEq, Nat.reduceAdd]
              refine G_goE hall hs haf hnap 5 9 [true, true, true, false, false, true, false, true, false, false, false, false, false, false] (⟨(.any :: .ptr 0 0 :: .any :: .osl 0 :: .iv x42 :: .iv x60 :: an 17 (.iv x60 :: .ptr 0 0 :: .sl 3 (List.map Diner.row x1.Diners) :: .iv (ln Diner.row x1.Diners) :: .bv (decide (x60 < (ln Diner.row x1.Diners))) :: .any :: .any :: .ptr 0 0 :: .sl 3 (List.map Diner.row x1.Diners) :: .iv x42 :: .any :: .any :: .ptr 0 0 :: .any :: .iv x60 :: an 71 [])), [some ⟨43, [.sl 3 (List.map Diner.row x1.Diners), .sl 5 (List.map Mail.row x1.Mail)]⟩], [some ⟨62, 2, List.map Arc.row x61⟩]⟩ : St) (by kernel_rfl) ?_
              obtain ⟨x62, ex62, h⟩ := Option.bind_eq_some_iff.1 h
              refine G_idxM hall hs haf hnap 3 Diner.row ex62 rfl rfl trivial rfl rfl rfl rfl ?_
              refine G_goN hall hs haf hnap 1 7 ?_
              dsimp only [go_sem, Nat.reduceBEq, Nat.reduceAdd]
              refine ⟨by simp, ?_⟩
              refine G_three 6 10 11 rfl ?_ ?_ ?_
              · refine GO_ev hall rfl trivial ?_
                dsimp only [go_sem, Nat.reduceBEq, Nat.reduceAdd]
                obtain ⟨x63, ex63, h⟩ := Option.bind_eq_some_iff.1 h
                refine G_idxM hall hs haf hnap 8 Diner.row ex63 rfl rfl trivial rfl rfl rfl rfl ?_
                refine G_three 9 10 11 rfl ?_ ?_ ?_
                · refine GO_ev hall rfl trivial ?_
                  dsimp only [go_sem, Nat.reduceBEq, Nat.reduceAdd]
                  refine G_two 10 11 rfl ?_ ?_
                  · refine GO_ev hall rfl trivial ?_
                    dsimp only [go_sem, Nat.reduceBEq, Nat.reduceAdd]
                    refine G_one 11 rfl ?_
                    refine GO_ev hall rfl trivial ?_
                    dsimp only [go_sem, Nat.reduceBEq, Nat.reduceAdd]
                    refine G_one 12 rfl ?_
                    refine GO_ev hall rfl trivial ?_
                    dsimp only [go_sem, Nat.reduceBEq, Nat.reduceAdd]
                    refine G_one 13 rfl ?_
                    refine GO_ev hall rfl trivial ?_
                    dsimp only [go_sem, Nat.reduceBEq, Nat.reduceAdd]
                    refine G_done rfl ?_ _
                    exact M_to J4 (s := (x62, x63)) h (by simp [go_sem]) (by first | rfl | simp [go_sem])
                  · refine GO_ev hall rfl trivial ?_
                    dsimp only [go_sem, Nat.reduceBEq, Nat.reduceAdd]
                    refine G_one 10 rfl ?_
                    refine GO_ev hall rfl trivial ?_
                    dsimp only [go_sem, Nat.reduceBEq, Nat.reduceAdd]
                    refine G_one 12 rfl ?_
                    refine GO_ev hall rfl trivial ?_
                    dsimp only [go_sem, Nat.reduceBEq, Nat.reduceAdd]
                    refine G_one 13 rfl ?_
                    refine GO_ev hall rfl trivial ?_
                    dsimp only [go_sem, Nat.reduceBEq, Nat.reduceAdd]
                    refine G_done rfl ?_ _
                    refine V_swB 1 2 rfl rfl ?_
                    dsimp only [go_sem, Nat.reduceBEq, Nat.reduceAdd]
                    exact M_to J4 (s := (x62, x63)) h (by simp [go_sem]) (by first | rfl | simp [go_sem])
                · refine GO_ev hall rfl trivial ?_
                  dsimp only [go_sem, Nat.reduceBEq, Nat.reduceAdd]
                  refine G_two 9 11 rfl ?_ ?_
                  · refine GO_ev hall rfl trivial ?_
                    dsimp only [go_sem, Nat.reduceBEq, Nat.reduceAdd]
                    refine G_one 11 rfl ?_
                    refine GO_ev hall rfl trivial ?_
                    dsimp only [go_sem, Nat.reduceBEq, Nat.reduceAdd]
                    refine G_one 12 rfl ?_
                    refine GO_ev hall rfl trivial ?_
                    dsimp only [go_sem, Nat.reduceBEq, Nat.reduceAdd]
                    refine G_one 13 rfl ?_
                    refine GO_ev hall rfl trivial ?_
                    dsimp only [go_sem, Nat.reduceBEq, Nat.reduceAdd]
                    refine G_done rfl ?_ _
                    exact M_to J4 (s := (x62, x63)) h (by simp [go_sem]) (by first | rfl | simp [go_sem])
                  · refine GO_ev hall rfl trivial ?_
                    dsimp only [go_sem, Nat.reduceBEq, Nat.reduceAdd]
                    refine G_two 9 12 rfl ?_ ?_
                    · refine GO_ev hall rfl trivial ?_
                      dsimp only [go_sem, Nat.reduceBEq, Nat.reduceAdd]
                      refine G_one 12 rfl ?_
                      refine GO_ev hall rfl trivial ?_
                      dsimp only [go_sem, Nat.reduceBEq, Nat.reduceAdd]
                      refine G_one 13 rfl ?_
                      refine GO_ev hall rfl trivial ?_
                      dsimp only [go_sem, Nat.reduceBEq, Nat.reduceAdd]
                      refine G_done rfl ?_ _
                      exact M_to J4 (s := (x62, x63)) h (by simp [go_sem]) (by first | rfl | simp [go_sem])
                    · refine GO_ev hall rfl trivial ?_
                      dsimp only [go_sem, Nat.reduceBEq, Nat.reduceAdd]
                      refine G_goN hall hs haf hnap 1 1 ?_
                      dsimp only [go_sem, Nat.reduceBEq, Nat.reduceAdd]
                      refine ⟨by simp, ?_⟩
                      refine G_one 13 rfl ?_
                      refine GO_ev hall rfl trivial ?_
                      dsimp only [go_sem, Nat.reduceBEq, Nat.reduceAdd]
                      refine G_done rfl ?_ _
                      exact M_to J4 (s := (x62, x63)) h (by simp [go_sem]) (by first | rfl | simp [go_sem])
                · refine GO_ev hall rfl trivial ?_
                  dsimp only [go_sem, Nat.reduceBEq, Nat.reduceAdd]
                  refine G_two 9 10 rfl ?_ ?_
                  · refine GO_ev hall rfl trivial ?_
                    dsimp only [go_sem, Nat.reduceBEq, Nat.reduceAdd]
                    refine G_one 10 rfl ?_
                    refine GO_ev hall rfl trivial ?_
                    dsimp only [go_sem, Nat.reduceBEq, Nat.reduceAdd]
                    refine G_one 12 rfl ?_
                    refine GO_ev hall rfl trivial ?_
                    dsimp only [go_sem, Nat.reduceBEq, Nat.reduceAdd]
                    refine G_one 13 rfl ?_
                    refine GO_ev hall rfl trivial ?_
                    dsimp only [go_sem, Nat.reduceBEq, Nat.reduceAdd]
                    refine G_done rfl ?_ _
                    refine V_swB 1 2 rfl rfl ?_
                    dsimp only [go_sem, Nat.reduceBEq, Nat.reduceAdd]
                    exact M_to J4 (s := (x62, x63)) h (by simp [go_sem]) (by first | rfl | simp [go_sem])
                  · refine GO_ev hall rfl trivial ?_
                    dsimp only [go_sem, Nat.reduceBEq, Nat.reduceAdd]
                    refine G_two 9 12 rfl ?_ ?_
                    · refine GO_ev hall rfl trivial ?_
                      dsimp only [go_sem, Nat.reduceBEq, Nat.reduceAdd]
                      refine G_one 12 rfl ?_
                      refine GO_ev hall rfl trivial ?_
                      dsimp only [go_sem, Nat.reduceBEq, Nat.reduceAdd]
                      refine G_one 13 rfl ?_
                      refine GO_ev hall rfl trivial ?_
                      dsimp only [go_sem, Nat.reduceBEq, Nat.reduceAdd]
                      refine G_done rfl ?_ _
                      refine V_swB 1 2 rfl rfl ?_
                      dsimp only [go_sem, Nat.reduceBEq, Nat.reduceAdd]
                      exact M_to J4 (s := (x62, x63)) h (by simp [go_sem]) (by first | rfl | simp [go_sem])
                    · refine GO_ev hall rfl trivial ?_
                      dsimp only [go_sem, Nat.reduceBEq, Nat.reduceAdd]
                      refine G_goN hall hs haf hnap 1 1 ?_
                      dsimp only [go_sem, Nat.reduceBEq, Nat.reduceAdd]
                      refine ⟨by simp, ?_⟩
                      refine G_one 13 rfl ?_
                      refine GO_ev hall rfl trivial ?_
                      dsimp only [go_sem, Nat.reduceBEq, Nat.reduceAdd]
                      refine G_done rfl ?_ _
                      refine V_swB 1 2 rfl rfl ?_
                      dsimp only [go_sem, Nat.reduceBEq, Nat.reduceAdd]
                      exact M_to J4 (s := (x62, x63)) h (by simp [go_sem]) (by first | rfl | simp [go_sem])
              · refine GO_ev hall rfl trivial ?_
                dsimp only [go_sem, Nat.reduceBEq, Nat.reduceAdd]
                refine G_two 6 11 rfl ?_ ?_
                · refine GO_ev hall rfl trivial ?_
                  dsimp only [go_sem, Nat.reduceBEq, Nat.reduceAdd]
                  obtain ⟨x63, ex63, h⟩ := Option.bind_eq_some_iff.1 h
                  refine G_idxM hall hs haf hnap 8 Diner.row ex63 rfl rfl trivial rfl rfl rfl rfl ?_
                  refine G_two 9 11 rfl ?_ ?_
                  · refine GO_ev hall rfl trivial ?_
                    dsimp only [go_sem, Nat.reduceBEq, Nat.reduceAdd]
                    refine G_one 11 rfl ?_
                    refine GO_ev hall rfl trivial ?_
                    dsimp only [go_sem, Nat.reduceBEq, Nat.reduceAdd]
                    refine G_one 12 rfl ?_
                    refine GO_ev hall rfl trivial ?_
                    dsimp only [go_sem, Nat.reduceBEq, Nat.reduceAdd]
                    refine G_one 13 rfl ?_
                    refine GO_ev hall rfl trivial ?_
                    dsimp only [go_sem, Nat.reduceBEq, Nat.reduceAdd]
                    refine G_done rfl ?_ _
                    exact M_to J4 (s := (x62, x63)) h (by simp [go_sem]) (by first | rfl | simp [go_sem])
                  · refine GO_ev hall rfl trivial ?_
                    dsimp only [go_sem, Nat.reduceBEq, Nat.reduceAdd]
                    refine G_two 9 12 rfl ?_ ?_
                    · refine GO_ev hall rfl trivial ?_
                      dsimp only [go_sem, Nat.reduceBEq, Nat.reduceAdd]
                      refine G_one 12 rfl ?_
                      refine GO_ev hall rfl trivial ?_
                      dsimp only [go_sem, Nat.reduceBEq, Nat.reduceAdd]
                      refine G_one 13 rfl ?_
                      refine GO_ev hall rfl trivial ?_
                      dsimp only [go_sem, Nat.reduceBEq, Nat.reduceAdd]
                      refine G_done rfl ?_ _
                      exact M_to J4 (s := (x62, x63)) h (by simp [go_sem]) (by first | rfl | simp [go_sem])
                    · refine GO_ev hall rfl trivial ?_
                      dsimp only [go_sem, Nat.reduceBEq, Nat.reduceAdd]
                      refine G_goN hall hs haf hnap 1 1 ?_
                      dsimp only [go_sem, Nat.reduceBEq, Nat.reduceAdd]
                      refine ⟨by simp, ?_⟩
                      refine G_one 13 rfl ?_
                      refine GO_ev hall rfl trivial ?_
                      dsimp only [go_sem, Nat.reduceBEq, Nat.reduceAdd]
                      refine G_done rfl ?_ _
                      exact M_to J4 (s := (x62, x63)) h (by simp [go_sem]) (by first | rfl | simp [go_sem])
                · refine GO_ev hall rfl trivial ?_
                  dsimp only [go_sem, Nat.reduceBEq, Nat.reduceAdd]
                  refine G_two 6 12 rfl ?_ ?_
                  · refine GO_ev hall rfl trivial ?_
                    dsimp only [go_sem, Nat.reduceBEq, Nat.reduceAdd]
                    obtain ⟨x63, ex63, h⟩ := Option.bind_eq_some_iff.1 h
                    refine G_idxM hall hs haf hnap 8 Diner.row ex63 rfl rfl trivial rfl rfl rfl rfl ?_
                    refine G_two 9 12 rfl ?_ ?_
                    · refine GO_ev hall rfl trivial ?_
                      dsimp only [go_sem, Nat.reduceBEq, Nat.reduceAdd]
                      refine G_one 12 rfl ?_
                      refine GO_ev hall rfl trivial ?_
                      dsimp only [go_sem, Nat.reduceBEq, Nat.reduceAdd]
                      refine G_one 13 rfl ?_
                      refine GO_ev hall rfl trivial ?_
                      dsimp only [go_sem, Nat.reduceBEq, Nat.reduceAdd]
                      refine G_done rfl ?_ _
                      exact M_to J4 (s := (x62, x63)) h (by simp [go_sem]) (by first | rfl | simp [go_sem])
                    · refine GO_ev hall rfl trivial ?_
                      dsimp only [go_sem, Nat.reduceBEq, Nat.reduceAdd]
                      refine G_goN hall hs haf hnap 1 1 ?_
                      dsimp only [go_sem, Nat.reduceBEq, Nat.reduceAdd]
                      refine ⟨by simp, ?_⟩
                      refine G_one 13 rfl ?_
                      refine GO_ev hall rfl trivial ?_
                      dsimp only [go_sem, Nat.reduceBEq, Nat.reduceAdd]
                      refine G_done rfl ?_ _
                      exact M_to J4 (s := (x62, x63)) h (by simp [go_sem]) (by first | rfl | simp [go_sem])
                  · refine GO_ev hall rfl trivial ?_
                    dsimp only [go_sem, Nat.reduceBEq, Nat.reduceAdd]
                    refine G_goN hall hs haf hnap 1 3 ?_
                    dsimp only [go_sem, Nat.reduceBEq, Nat.reduceAdd]
                    refine ⟨by simp, ?_⟩
                    obtain ⟨x63, ex63, h⟩ := Option.bind_eq_some_iff.1 h
                    refine G_idxM hall hs haf hnap 8 Diner.row ex63 rfl rfl trivial rfl rfl rfl rfl ?_
                    refine G_goN hall hs haf hnap 1 1 ?_
                    dsimp only [go_sem, Nat.reduceBEq, Nat.reduceAdd]
                    refine ⟨by simp, ?_⟩
                    refine G_one 13 rfl ?_
                    refine GO_ev hall rfl trivial ?_
                    dsimp only [go_sem, Nat.reduceBEq, Nat.reduceAdd]
                    refine G_done rfl ?_ _
                    exact M_to J4 (s := (x62, x63)) h (by simp [go_sem]) (by first | rfl | simp [go_sem])
              · refine GO_ev hall rfl trivial ?_
                dsimp only [go_sem, Nat.reduceBEq, Nat.reduceAdd]
                refine G_two 6 10 rfl ?_ ?_
                · refine GO_ev hall rfl trivial ?_
                  dsimp only [go_sem, Nat.reduceBEq, Nat.reduceAdd]
                  obtain ⟨x63, ex63, h⟩ := Option.bind_eq_some_iff.1 h
                  refine G_idxM hall hs haf hnap 8 Diner.row ex63 rfl rfl trivial rfl rfl rfl rfl ?_
                  refine G_two 9 10 rfl ?_ ?_
                  · refine GO_ev hall rfl trivial ?_
                    dsimp only [go_sem, Nat.reduceBEq, Nat.reduceAdd]
                    refine G_one 10 rfl ?_
                    refine GO_ev hall rfl trivial ?_
                    dsimp only [go_sem, Nat.reduceBEq, Nat.reduceAdd]
                    refine G_one 12 rfl ?_
                    refine GO_ev hall rfl trivial ?_
                    dsimp only [go_sem, Nat.reduceBEq, Nat.reduceAdd]
                    refine G_one 13 rfl ?_
                    refine GO_ev hall rfl trivial ?_
                    dsimp only [go_sem, Nat.reduceBEq, Nat.reduceAdd]
                    refine G_done rfl ?_ _
                    refine V_swB 1 2 rfl rfl ?_
                    dsimp only [go_sem, Nat.reduceBEq, Nat.reduceAdd]
                    exact M_to J4 (s := (x62, x63)) h (by simp [go_sem]) (by first | rfl | simp [go_sem])
                  · refine GO_ev hall rfl trivial ?_
                    dsimp only [go_sem, Nat.reduceBEq, Nat.reduceAdd]
                    refine G_two 9 12 rfl ?_ ?_
                    · refine GO_ev hall rfl trivial ?_
                      dsimp only [go_sem, Nat.reduceBEq, Nat.reduceAdd]
                      refine G_one 12 rfl ?_
                      refine GO_ev hall rfl trivial ?_
                      dsimp only [go_sem, Nat.reduceBEq, Nat.reduceAdd]
                      refine G_one 13 rfl ?_
                      refine GO_ev hall rfl trivial ?_
                      dsimp only [go_sem, Nat.reduceBEq, Nat.reduceAdd]
                      refine G_done rfl ?_ _
                      refine V_swB 1 2 rfl rfl ?_
                      dsimp only [go_sem, Nat.reduceBEq, Nat.reduceAdd]
                      exact M_to J4 (s := (x62, x63)) h (by simp [go_sem]) (by first | rfl | simp [go_sem])
                    · refine GO_ev hall rfl trivial ?_
                      dsimp only [go_sem, Nat.reduceBEq, Nat.reduceAdd]
                      refine G_goN hall hs haf hnap 1 1 ?_
                      dsimp only [go_sem, Nat.reduceBEq, Nat.reduceAdd]
                      refine ⟨by simp, ?_⟩
                      refine G_one 13 rfl ?_
                      refine GO_ev hall rfl trivial ?_
                      dsimp only [go_sem, Nat.reduceBEq, Nat.reduceAdd]
                      refine G_done rfl ?_ _
                      refine V_swB 1 2 rfl rfl ?_
                      dsimp only [go_sem, Nat.reduceBEq, Nat.reduceAdd]
                      exact M_to J4 (s := (x62, x63)) h (by simp [go_sem]) (by first | rfl | simp [go_sem])
                · refine GO_ev hall rfl trivial ?_
                  dsimp only [go_sem, Nat.reduceBEq, Nat.reduceAdd]
                  refine G_two 6 12 rfl ?_ ?_
                  · refine GO_ev hall rfl trivial ?_
                    dsimp only [go_sem, Nat.reduceBEq, Nat.reduceAdd]
                    obtain ⟨x63, ex63, h⟩ := Option.bind_eq_some_iff.1 h
                    refine G_idxM hall hs haf hnap 8 Diner.row ex63 rfl rfl trivial rfl rfl rfl rfl ?_
                    refine G_two 9 12 rfl ?_ ?_
                    · refine GO_ev hall rfl trivial ?_
                      dsimp only [go_sem, Nat.reduceBEq, Nat.reduceAdd]
                      refine G_one 12 rfl ?_
                      refine GO_ev hall rfl trivial ?_
                      dsimp only [go_sem, Nat.reduceBEq, Nat.reduceAdd]
                      refine G_one 13 rfl ?_
                      refine GO_ev hall rfl trivial ?_
                      dsimp only [go_sem, Nat.reduceBEq, Nat.reduceAdd]
                      refine G_done rfl ?_ _
                      refine V_swB 1 2 rfl rfl ?_
                      dsimp only [go_sem, Nat.reduceBEq, Nat.reduceAdd]
                      exact M_to J4 (s := (x62, x63)) h (by simp [go_sem]) (by first | rfl | simp [go_sem])
                    · refine GO_ev hall rfl trivial ?_
                      dsimp only [go_sem, Nat.reduceBEq, Nat.reduceAdd]
                      refine G_goN hall hs haf hnap 1 1 ?_
                      dsimp only [go_sem, Nat.reduceBEq, Nat.reduceAdd]
                      refine ⟨by simp, ?_⟩
                      refine G_one 13 rfl ?_
                      refine GO_ev hall rfl trivial ?_
                      dsimp only [go_sem, Nat.reduceBEq, Nat.reduceAdd]
                      refine G_done rfl ?_ _
                      refine V_swB 1 2 rfl rfl ?_
                      dsimp only [go_sem, Nat.reduceBEq, Nat.reduceAdd]
                      exact M_to J4 (s := (x62, x63)) h (by simp [go_sem]) (by first | rfl | simp [go_sem])
                  · refine GO_ev hall rfl trivial ?_
                    dsimp only [go_sem, Nat.reduceBEq, Nat.reduceAdd]
                    refine G_goN hall hs haf hnap 1 3 ?_
                    dsimp only [go_sem, Nat.reduceBEq, Nat.reduceAdd]
                    refine ⟨by simp, ?_⟩
                    obtain ⟨x63, ex63, h⟩ := Option.bind_eq_some_iff.1 h
                    refine G_idxM hall hs haf hnap 8 Diner.row ex63 rfl rfl trivial rfl rfl rfl rfl ?_
                    refine G_goN hall hs haf hnap 1 1 ?_
                    dsimp only [go_sem, Nat.reduceBEq, Nat.reduceAdd]
                    refine ⟨by simp, ?_⟩
                    refine G_one 13 rfl ?_
                    refine GO_ev hall rfl trivial ?_
                    dsimp only [go_sem, Nat.reduceBEq, Nat.reduceAdd]
                    refine G_done rfl ?_ _
                    refine V_swB 1 2 rfl rfl ?_
                    dsimp only [go_sem, Nat.reduceBEq, Nat.reduceAdd]
                    exact M_to J4 (s := (x62, x63)) h (by simp [go_sem]) (by first | rfl | simp [go_sem])
        · refine V_go 1 ?_
          dsimp only [e_narthexref12_Arcs, e_narthexref12_Arcs_L0, e_narthexref12_Arcs_L1, go_sem, Nat.reduceBEq, Nat.reduceAdd]
          refine ⟨by simp, ?_⟩
          exact M_to J2 (s := x61) (M_out h hout2) (by simp [go_sem]) (by first | rfl | simp [go_sem])
    · refine V_go 1 ?_
      dsimp only [e_narthexref12_Arcs, e_narthexref12_Arcs_L0, e_narthexref12_Arcs_L1, go_sem, Nat.reduceBEq, Nat.reduceAdd]
      refine ⟨by simp, ?_⟩
      exact M_to J1 (s := x43) (M_out h hout1) (by simp [go_sem]) (by first | rfl | simp [go_sem])
theorem k_narthexref12_Arcs (x1 : Scene) (r : (List Arc)) (h : m_narthexref12_Arcs x1 = some r) : FunP Try.prog 30 [.agg (Scene.row x1)] (.sl 2 (List.map Arc.row r)) := (o_narthexref12_Arcs x1 r h).sealed
def f_narthexref12_Arcs_j1 (F : Nat)  : (List Arc) → Option (List Arc)
| x88 =>
 some x88
theorem le_narthexref12_Arcs_j1 {F : Nat} : ∀ s, ole (f_narthexref12_Arcs_j1 F s) (m_narthexref12_Arcs_j1 s) := by
  intro x88
  unfold f_narthexref12_Arcs_j1 m_narthexref12_Arcs_j1
  try dsimp only
  repeat' first | with_reducible exact ole_refl _ | assumption | intro _ | with_reducible refine ole_ifb ?_ ?_ | with_reducible refine ole_bind ?_ ?_ | with_reducible refine ole_map ?_ | with_reducible refine ole_loop ?_
def f_narthexref12_Arcs_j2 (F : Nat) (x42 : Int) : (List Arc) → Option ((Int × (List Arc)) ⊕ (List Arc))
| x82 =>
 some (.inl (wr (x42 + 1), x82))
theorem le_narthexref12_Arcs_j2 {F : Nat} {x42 : Int} : ∀ s, ole (f_narthexref12_Arcs_j2 F x42 s) (m_narthexref12_Arcs_j2 x42 s) := by
  intro x82
  unfold f_narthexref12_Arcs_j2 m_narthexref12_Arcs_j2
  try dsimp only
  repeat' first | with_reducible exact ole_refl _ | assumption | intro _ | with_reducible refine ole_ifb ?_ ?_ | with_reducible refine ole_bind ?_ ?_ | with_reducible refine ole_map ?_ | with_reducible refine ole_loop ?_ | with_reducible apply le_narthexref12_Arcs_j1
def f_narthexref12_Arcs_j3 (F : Nat) (x60 : Int) : (List Arc) → Option ((Int × (List Arc)) ⊕ ((Int × (List Arc)) ⊕ (List Arc)))
| x75 =>
 some (.inl (wr (x60 + 1), x75))
theorem le_narthexref12_Arcs_j3 {F : Nat} {x60 : Int} : ∀ s, ole (f_narthexref12_Arcs_j3 F x60 s) (m_narthexref12_Arcs_j3 x60 s) := by
  intro x75
  unfold f_narthexref12_Arcs_j3 m_narthexref12_Arcs_j3
  try dsimp only
  repeat' first | with_reducible exact ole_refl _ | assumption | intro _ | with_reducible refine ole_ifb ?_ ?_ | with_reducible refine ole_bind ?_ ?_ | with_reducible refine ole_map ?_ | with_reducible refine ole_loop ?_ | with_reducible apply le_narthexref12_Arcs_j1 | with_reducible apply le_narthexref12_Arcs_j2
def f_narthexref12_Arcs_j6 (F : Nat) (x60 : Int) (x64 : Diner) (x65 : Diner) (x71 : Int) : (List Arc) → Option ((Int × (List Arc)) ⊕ ((Int × (List Arc)) ⊕ (List Arc)))
| x73 =>
 ifb (decide (x71 = 2)) (
 (app_ 16 x73 ([(Arc.mk x65.ID x64.ID)])).bind fun x74 =>
 (f_narthexref12_Arcs_j3 F x60) x74) (
 (f_narthexref12_Arcs_j3 F x60) x73)
theorem le_narthexref12_Arcs_j6 {F : Nat} {x60 : Int} {x64 : Diner} {x65 : Diner} {x71 : Int} : ∀ s, ole (f_narthexref12_Arcs_j6 F x60 x64 x65 x71 s) (m_narthexref12_Arcs_j6 x60 x64 x65 x71 s) := by
  intro x73
  unfold f_narthexref12_Arcs_j6 m_narthexref12_Arcs_j6
  try dsimp only
  repeat' first | with_reducible exact ole_refl _ | assumption | intro _ | with_reducible refine ole_ifb ?_ ?_ | with_reducible refine ole_bind ?_ ?_ | with_reducible refine ole_map ?_ | with_reducible refine ole_loop ?_ | with_reducible apply le_narthexref12_Arcs_j1 | with_reducible apply le_narthexref12_Arcs_j2 | with_reducible apply le_narthexref12_Arcs_j3
def f_narthexref12_Arcs_j5 (F : Nat) (x1 : Scene) (x60 : Int) (x61 : (List Arc)) (x64 : Diner) (x65 : Diner) (x66 : (Side × Bool)) (x67 : (Side × Bool)) : Bool → Option ((Int × (List Arc)) ⊕ ((Int × (List Arc)) ⊕ (List Arc)))
| x68 =>
 ifb x68 (
 (f_narthexref12_Arcs_j3 F x60) x61) (
 (f_narthexref12_goes F x1.Mail x65.ID x64.ID x66.1.Epoch).bind fun x69 =>
 (f_narthexref12_goes F x1.Mail x64.ID x65.ID x66.1.Epoch).bind fun x70 =>
 (f_narthexref12_First F x66.1 x67.1 x69 x70).bind fun x71 =>
 ifb (decide (x71 = 1)) (
 (app_ 16 x61 ([(Arc.mk x64.ID x65.ID)])).bind fun x72 =>
 (f_narthexref12_Arcs_j6 F x60 x64 x65 x71) x72) (
 (f_narthexref12_Arcs_j6 F x60 x64 x65 x71) x61))
theorem le_narthexref12_Arcs_j5 {F : Nat} {x1 : Scene} {x60 : Int} {x61 : (List Arc)} {x64 : Diner} {x65 : Diner} {x66 : (Side × Bool)} {x67 : (Side × Bool)} : ∀ s, ole (f_narthexref12_Arcs_j5 F x1 x60 x61 x64 x65 x66 x67 s) (m_narthexref12_Arcs_j5 x1 x60 x61 x64 x65 x66 x67 s) := by
  intro x68
  unfold f_narthexref12_Arcs_j5 m_narthexref12_Arcs_j5
  try dsimp only
  repeat' first | with_reducible exact ole_refl _ | assumption | intro _ | with_reducible refine ole_ifb ?_ ?_ | with_reducible refine ole_bind ?_ ?_ | with_reducible refine ole_map ?_ | with_reducible refine ole_loop ?_ | with_reducible apply le_narthexref12_Arcs_j1 | with_reducible apply le_narthexref12_Arcs_j2 | with_reducible apply le_narthexref12_Arcs_j3 | with_reducible apply le_narthexref12_Arcs_j6 | with_reducible apply le_narthexref12_goes | with_reducible apply le_narthexref12_First
def f_narthexref12_Arcs_j4 (F : Nat) (x1 : Scene) (x60 : Int) (x61 : (List Arc)) : (Diner × Diner) → Option ((Int × (List Arc)) ⊕ ((Int × (List Arc)) ⊕ (List Arc)))
| (x64, x65) =>
 (f_narthexref12_Side F x64 x65.ID).bind fun x66 =>
 (f_narthexref12_Side F x65 x64.ID).bind fun x67 =>
 ifb (!x66.2) (
 (f_narthexref12_Arcs_j5 F x1 x60 x61 x64 x65 x66 x67) true) (
 ifb (!x67.2) (
 (f_narthexref12_Arcs_j5 F x1 x60 x61 x64 x65 x66 x67) true) (
 (f_narthexref12_Arcs_j5 F x1 x60 x61 x64 x65 x66 x67) (!decide (x66.1.Epoch = x67.1.Epoch))))
theorem le_narthexref12_Arcs_j4 {F : Nat} {x1 : Scene} {x60 : Int} {x61 : (List Arc)} : ∀ s, ole (f_narthexref12_Arcs_j4 F x1 x60 x61 s) (m_narthexref12_Arcs_j4 x1 x60 x61 s) := by
  rintro ⟨x64, x65⟩
  unfold f_narthexref12_Arcs_j4 m_narthexref12_Arcs_j4
  try dsimp only
  repeat' first | with_reducible exact ole_refl _ | assumption | intro _ | with_reducible refine ole_ifb ?_ ?_ | with_reducible refine ole_bind ?_ ?_ | with_reducible refine ole_map ?_ | with_reducible refine ole_loop ?_ | with_reducible apply le_narthexref12_Arcs_j1 | with_reducible apply le_narthexref12_Arcs_j2 | with_reducible apply le_narthexref12_Arcs_j3 | with_reducible apply le_narthexref12_Arcs_j6 | with_reducible apply le_narthexref12_goes | with_reducible apply le_narthexref12_First | with_reducible apply le_narthexref12_Arcs_j5 | with_reducible apply le_narthexref12_Side
def f_narthexref12_Arcs_l2 (F : Nat) (x1 : Scene) (x42 : Int) : (Int × (List Arc)) → Option ((Int × (List Arc)) ⊕ ((Int × (List Arc)) ⊕ (List Arc)))
| (x60, x61) =>
 ifb (decide (x60 < (ln Diner.row x1.Diners))) (
 (at_ x1.Diners x42).bind fun x62 =>
 (at_ x1.Diners x60).bind fun x63 =>
 (f_narthexref12_Arcs_j4 F x1 x60 x61) (x62, x63)) (
 Option.map Sum.inr ((f_narthexref12_Arcs_j2 F x42) x61))
theorem le_narthexref12_Arcs_l2 {F : Nat} {x1 : Scene} {x42 : Int} : ∀ s, ole (f_narthexref12_Arcs_l2 F x1 x42 s) (m_narthexref12_Arcs_l2 x1 x42 s) := by
  rintro ⟨x60, x61⟩
  unfold f_narthexref12_Arcs_l2 m_narthexref12_Arcs_l2
  try dsimp only
  repeat' first | with_reducible exact ole_refl _ | assumption | intro _ | with_reducible refine ole_ifb ?_ ?_ | with_reducible refine ole_bind ?_ ?_ | with_reducible refine ole_map ?_ | with_reducible refine ole_loop ?_ | with_reducible apply le_narthexref12_Arcs_j1 | with_reducible apply le_narthexref12_Arcs_j2 | with_reducible apply le_narthexref12_Arcs_j3 | with_reducible apply le_narthexref12_Arcs_j6 | with_reducible apply le_narthexref12_goes | with_reducible apply le_narthexref12_First | with_reducible apply le_narthexref12_Arcs_j5 | with_reducible apply le_narthexref12_Side | with_reducible apply le_narthexref12_Arcs_j4
def f_narthexref12_Arcs_l1 (F : Nat) (x1 : Scene) : (Int × (List Arc)) → Option ((Int × (List Arc)) ⊕ (List Arc))
| (x42, x43) =>
 ifb (decide (x42 < (ln Diner.row x1.Diners))) (
 loopF F (f_narthexref12_Arcs_l2 F x1 x42) (wr (x42 + 1), x43)) (
 Option.map Sum.inr (f_narthexref12_Arcs_j1 F x43))
theorem le_narthexref12_Arcs_l1 {F : Nat} {x1 : Scene} : ∀ s, ole (f_narthexref12_Arcs_l1 F x1 s) (m_narthexref12_Arcs_l1 x1 s) := by
  rintro ⟨x42, x43⟩
  unfold f_narthexref12_Arcs_l1 m_narthexref12_Arcs_l1
  try dsimp only
  repeat' first | with_reducible exact ole_refl _ | assumption | intro _ | with_reducible refine ole_ifb ?_ ?_ | with_reducible refine ole_bind ?_ ?_ | with_reducible refine ole_map ?_ | with_reducible refine ole_loop ?_ | with_reducible apply le_narthexref12_Arcs_j1 | with_reducible apply le_narthexref12_Arcs_j2 | with_reducible apply le_narthexref12_Arcs_j3 | with_reducible apply le_narthexref12_Arcs_j6 | with_reducible apply le_narthexref12_goes | with_reducible apply le_narthexref12_First | with_reducible apply le_narthexref12_Arcs_j5 | with_reducible apply le_narthexref12_Side | with_reducible apply le_narthexref12_Arcs_j4 | with_reducible apply le_narthexref12_Arcs_l2
def f_narthexref12_Arcs (F : Nat) (x1 : Scene) : Option (List Arc) :=
 loopF F (f_narthexref12_Arcs_l1 F x1) (0, ([] : List Arc))
theorem le_narthexref12_Arcs {F : Nat} {x1 : Scene} : ole (f_narthexref12_Arcs F x1) (m_narthexref12_Arcs x1) := by
  unfold f_narthexref12_Arcs m_narthexref12_Arcs
  repeat' first | with_reducible exact ole_refl _ | assumption | intro _ | with_reducible refine ole_ifb ?_ ?_ | with_reducible refine ole_bind ?_ ?_ | with_reducible refine ole_map ?_ | with_reducible refine ole_loop ?_ | with_reducible apply le_narthexref12_Arcs_j1 | with_reducible apply le_narthexref12_Arcs_j2 | with_reducible apply le_narthexref12_Arcs_j3 | with_reducible apply le_narthexref12_Arcs_j6 | with_reducible apply le_narthexref12_goes | with_reducible apply le_narthexref12_First | with_reducible apply le_narthexref12_Arcs_j5 | with_reducible apply le_narthexref12_Side | with_reducible apply le_narthexref12_Arcs_j4 | with_reducible apply le_narthexref12_Arcs_l2 | with_reducible apply le_narthexref12_Arcs_l1
end NX
end Go.Proofs.Ytadebhbiglmodaa
/-
  The function narthex/narthexref04.Same: its code compiled, a model, and that the code answers as the model. Written by a program of ours (lb.py). No statement of the seat is proved here.
-/
namespace Go.Proofs.Ytadebhbiglmodaa
namespace NX
open Go
set_option maxRecDepth 100000
set_option maxHeartbeats 4000000
def e_narthexref04_Same_L0 : EC := .seq (.seq (.reg [⟨(some 11), none, .mv (.t 5)⟩, ⟨(some 12), none, .mv (.t 0)⟩, ⟨(some 13), none, .len (.t 12)⟩, ⟨(some 14), none, .bin .lss (.t 11) (.t 13)⟩]) (.ite (.t 14) (.skip) (.exit 0))) (.seq (.blk 1 (.seq (.drw [⟨(some 17), none, .mv (.t 0)⟩, ⟨(some 18), none, .mv (.t 5)⟩, ⟨(some 19), none, .idx 2 (.t 17) (.t 18)⟩, ⟨(some 20), none, .loadA 2 (.t 19)⟩, ⟨(some 21), none, .mv (.t 1)⟩, ⟨(some 22), none, .mv (.t 5)⟩, ⟨(some 23), none, .idx 2 (.t 21) (.t 22)⟩, ⟨(some 24), none, .loadA 2 (.t 23)⟩, ⟨(some 25), none, .eqs true [true, true] (.t 20) (.t 24)⟩] [[], [], [0, 1], [2], [], [], [4, 5], [6], [3, 7]] [[2], [2], [0, 1, 3], [2, 8], [6], [6], [4, 5, 7], [6, 8], [3, 7]]) (.ite (.t 25) (.seq (.reg [⟨(some 4), none, .mv (.c .ff)⟩]) (.ret)) (.skip)))) (.reg [⟨(some 15), none, .mv (.t 5)⟩, ⟨(some 16), none, .bin .add (.t 15) (.c (.iv 1))⟩, ⟨(some 5), none, .mv (.t 16)⟩]))
def e_narthexref04_Same : EC := .seq (.reg [⟨(some 4), none, .mv (.c .ff)⟩]) (.seq (.seq (.reg [⟨(some 6), none, .mv (.t 0)⟩, ⟨(some 7), none, .len (.t 6)⟩, ⟨(some 8), none, .mv (.t 1)⟩, ⟨(some 9), none, .len (.t 8)⟩, ⟨(some 10), none, .bin .neq (.t 7) (.t 9)⟩]) (.ite (.t 10) (.seq (.reg [⟨(some 4), none, .mv (.c .ff)⟩]) (.ret)) (.skip))) (.seq (.seq (.reg [⟨(some 5), none, .mv (.c (.iv 0))⟩]) (.blk 0 (.loop e_narthexref04_Same_L0))) (.seq (.reg [⟨(some 4), none, .mv (.c .tt)⟩]) (.ret))))
theorem ok_narthexref04_Same : FnOK Try.prog 28 Try.f28 e_narthexref04_Same [.t 4] 2 24 := ⟨by kernel_rfl, ⟨_, rfl, by kernel_rfl⟩, by kernel_rfl, by kernel_rfl⟩
/- narthex/narthexref04.Same -/
noncomputable def m_narthexref04_Same_j1  : Unit → Option Bool
| () =>
 some true
noncomputable def m_narthexref04_Same_l1 (x1 : (List Arc)) (x2 : (List Arc)) : Int → Option (Int ⊕ Bool)
| x6 =>
 ifb (decide (x6 < (ln Arc.row x1))) (
 (at_ x1 x6).bind fun x7 =>
 (at_ x2 x6).bind fun x8 =>
 ifb (!(decide (x7.From = x8.From) && (decide (x7.To = x8.To) && true))) (
 Option.map Sum.inr (some false)) (
 some (.inl (wr (x6 + 1))))) (
 Option.map Sum.inr (m_narthexref04_Same_j1 ()))
noncomputable def m_narthexref04_Same (x1 : (List Arc)) (x2 : (List Arc)) : Option Bool :=
 ifb (!decide ((ln Arc.row x1) = (ln Arc.row x2))) (
 some false) (
 loop (m_narthexref04_Same_l1 x1 x2) 0)
theorem k_narthexref04_Same (x1 : (List Arc)) (x2 : (List Arc)) (r : Bool) (h : m_narthexref04_Same x1 x2 = some r) : FunP Try.prog 28 [.sl 2 (List.map Arc.row x1), .sl 2 (List.map Arc.row x2)] (.bv r) := by
  refine FunP_intro ok_narthexref04_Same rfl rfl fun w0 H0 => ?_
  rw [m_narthexref04_Same] at h
  refine V_go 13 ?_
  dsimp only [e_narthexref04_Same, e_narthexref04_Same_L0, go_sem, Nat.reduceBEq, Nat.reduceAdd]
  refine ⟨by simp, ?_⟩
  refine M_ite h rfl (fun hb h => ?_) (fun hb h => ?_)
  · refine V_go 4 ?_
    dsimp only [e_narthexref04_Same, e_narthexref04_Same_L0, go_sem, Nat.reduceBEq, Nat.reduceAdd]
    refine ⟨by simp, ?_⟩
    exact M_done (res := fun (r : Bool) => .bv r) ok_narthexref04_Same h (by first | exact le_refl _ | simp [go_sem])
  · refine V_go 6 ?_
    dsimp only [e_narthexref04_Same, e_narthexref04_Same_L0, go_sem, Nat.reduceBEq, Nat.reduceAdd]
    refine ⟨by simp, ?_⟩
    refine V_join (fun (_ : Unit) => (⟨(an 26 []), [], []⟩ : St)) m_narthexref04_Same_j1 r ?_ fun J1 => ?_
    · rintro ⟨⟩ h
      rw [m_narthexref04_Same_j1] at h
      try dsimp only
      refine V_go 4 ?_
      dsimp only [e_narthexref04_Same, e_narthexref04_Same_L0, go_sem, Nat.reduceBEq, Nat.reduceAdd]
      refine ⟨by simp, ?_⟩
      exact M_done (res := fun (r : Bool) => .bv r) ok_narthexref04_Same h (by first | exact le_refl _ | simp [go_sem])
    · refine V_go 1 ?_
      dsimp only [e_narthexref04_Same, e_narthexref04_Same_L0, go_sem, Nat.reduceBEq, Nat.reduceAdd]
      refine ⟨by simp, ?_⟩
      refine M_loop h (fun (x6 : Int) => (⟨(.sl 2 (List.map Arc.row x1) :: .sl 2 (List.map Arc.row x2) :: an 3 (.iv x6 :: an 20 [])), [], []⟩ : St)) (by simp [go_sem]) (by intro x6; first | rfl | simp [go_sem]) ?_
      rintro n1 x6 y1 h hin1 hout1
      rw [m_narthexref04_Same_l1] at h
      try dsimp only
      refine V_go 8 ?_
      dsimp only [e_narthexref04_Same, e_narthexref04_Same_L0, go_sem, Nat.reduceBEq, Nat.reduceAdd]
      refine ⟨by simp, ?_⟩
      refine M_ite h rfl (fun hb h => ?_) (fun hb h => ?_)
      · refine V_go 4 ?_
        dsimp only [e_narthexref04_Same, e_narthexref04_Same_L0, go_sem, Nat.reduceBEq, Nat.reduceAdd]
        refine ⟨by simp, ?_⟩
        refine V_drw (by kernel_rfl) fun all hall hs hnap haf => ?_
        dsimp only [go_sem, Nat.reduceBEq, Nat.reduceAdd]
        refine G_goN hall hs haf hnap 4 5 ?_
        dsimp only [go_sem, Nat.reduceBEq, Nat.reduceAdd]
        refine ⟨by simp, ?_⟩
        obtain ⟨x7, ex7, h⟩ := Option.bind_eq_some_iff.1 h
        refine G_idxM hall hs haf hnap 2 Arc.row ex7 rfl rfl trivial rfl rfl rfl rfl ?_
        refine G_goN hall hs haf hnap 1 3 ?_
        dsimp only [go_sem, Nat.reduceBEq, Nat.reduceAdd]
        refine ⟨by simp, ?_⟩
        obtain ⟨x8, ex8, h⟩ := Option.bind_eq_some_iff.1 h
        refine G_idxM hall hs haf hnap 6 Arc.row ex8 rfl rfl trivial rfl rfl rfl rfl ?_
        refine G_goN hall hs haf hnap 2 0 ?_
        dsimp only [go_sem, Nat.reduceBEq, Nat.reduceAdd]
        refine ⟨by simp, ?_⟩
        refine G_done rfl ?_ _
        refine M_ite h rfl (fun hb h => ?_) (fun hb h => ?_)
        · refine V_go 4 ?_
          dsimp only [e_narthexref04_Same, e_narthexref04_Same_L0, go_sem, Nat.reduceBEq, Nat.reduceAdd]
          refine ⟨by simp, ?_⟩
          exact M_done (res := fun (r : Bool) => .bv r) ok_narthexref04_Same (M_out h hout1) (by first | exact le_refl _ | simp [go_sem])
        · refine V_go 7 ?_
          dsimp only [e_narthexref04_Same, e_narthexref04_Same_L0, go_sem, Nat.reduceBEq, Nat.reduceAdd]
          refine ⟨by simp, ?_⟩
          exact M_back h hin1 (by simp [go_sem]) (by first | rfl | simp [go_sem])
      · refine V_go 1 ?_
        dsimp only [e_narthexref04_Same, e_narthexref04_Same_L0, go_sem, Nat.reduceBEq, Nat.reduceAdd]
        refine ⟨by simp, ?_⟩
        exact M_to J1 (s := ()) (M_out h hout1) (by simp [go_sem]) (by first | rfl | simp [go_sem])
def f_narthexref04_Same_j1 (F : Nat)  : Unit → Option Bool
| () =>
 some true
theorem le_narthexref04_Same_j1 {F : Nat} : ∀ s, ole (f_narthexref04_Same_j1 F s) (m_narthexref04_Same_j1 s) := by
  rintro ⟨⟩
  unfold f_narthexref04_Same_j1 m_narthexref04_Same_j1
  try dsimp only
  repeat' first | with_reducible exact ole_refl _ | assumption | intro _ | with_reducible refine ole_ifb ?_ ?_ | with_reducible refine ole_bind ?_ ?_ | with_reducible refine ole_map ?_ | with_reducible refine ole_loop ?_
def f_narthexref04_Same_l1 (F : Nat) (x1 : (List Arc)) (x2 : (List Arc)) : Int → Option (Int ⊕ Bool)
| x6 =>
 ifb (decide (x6 < (ln Arc.row x1))) (
 (at_ x1 x6).bind fun x7 =>
 (at_ x2 x6).bind fun x8 =>
 ifb (!(decide (x7.From = x8.From) && (decide (x7.To = x8.To) && true))) (
 Option.map Sum.inr (some false)) (
 some (.inl (wr (x6 + 1))))) (
 Option.map Sum.inr (f_narthexref04_Same_j1 F ()))
theorem le_narthexref04_Same_l1 {F : Nat} {x1 : (List Arc)} {x2 : (List Arc)} : ∀ s, ole (f_narthexref04_Same_l1 F x1 x2 s) (m_narthexref04_Same_l1 x1 x2 s) := by
  intro x6
  unfold f_narthexref04_Same_l1 m_narthexref04_Same_l1
  try dsimp only
  repeat' first | with_reducible exact ole_refl _ | assumption | intro _ | with_reducible refine ole_ifb ?_ ?_ | with_reducible refine ole_bind ?_ ?_ | with_reducible refine ole_map ?_ | with_reducible refine ole_loop ?_ | with_reducible apply le_narthexref04_Same_j1
def f_narthexref04_Same (F : Nat) (x1 : (List Arc)) (x2 : (List Arc)) : Option Bool :=
 ifb (!decide ((ln Arc.row x1) = (ln Arc.row x2))) (
 some false) (
 loopF F (f_narthexref04_Same_l1 F x1 x2) 0)
theorem le_narthexref04_Same {F : Nat} {x1 : (List Arc)} {x2 : (List Arc)} : ole (f_narthexref04_Same F x1 x2) (m_narthexref04_Same x1 x2) := by
  unfold f_narthexref04_Same m_narthexref04_Same
  repeat' first | with_reducible exact ole_refl _ | assumption | intro _ | with_reducible refine ole_ifb ?_ ?_ | with_reducible refine ole_bind ?_ ?_ | with_reducible refine ole_map ?_ | with_reducible refine ole_loop ?_ | with_reducible apply le_narthexref04_Same_j1 | with_reducible apply le_narthexref04_Same_l1
end NX
end Go.Proofs.Ytadebhbiglmodaa
/-
  The function narthex/narthexlaw12.PlaceArcs: its code compiled, a model, and that the code answers as the model. Written by a program of ours (lb.py). No statement of the seat is proved here.
-/
namespace Go.Proofs.Ytadebhbiglmodaa
namespace NX
open Go
set_option maxRecDepth 100000
set_option maxHeartbeats 4000000
def e_narthexlaw12_PlaceArcs : EC := .seq (.reg [⟨(some 1), none, .box 43 2 (.t 0)⟩, ⟨(some 2), none, .mv (.c .ff)⟩]) (.seq (.seq (.reg [⟨(some 3), none, .call 13 []⟩, ⟨(some 4), none, .not (.t 3)⟩, ⟨(some 5), none, .mv (.t 4)⟩, ⟨(some 6), (some (5, false)), .loadA 2 (.t 1)⟩, ⟨(some 7), (some (5, false)), .call 20 [(.t 6)]⟩, ⟨(some 8), (some (5, false)), .not (.t 7)⟩, ⟨(some 9), none, .pick (.t 5) (.c .tt) (.t 8)⟩]) (.ite (.t 9) (.seq (.reg [⟨(some 10), none, .call 13 []⟩, ⟨(some 2), none, .mv (.t 10)⟩]) (.ret)) (.skip))) (.seq (.drw [⟨(some 11), none, .fld 0 (.t 1)⟩, ⟨(some 12), none, .load (.t 11)⟩, ⟨(some 13), none, .call 22 [(.t 12)]⟩, ⟨(some 14), none, .bsl 97 5 0 [.iv 0, .iv 0, .iv 0, .iv 0, .iv 0] []⟩, ⟨(some 15), none, .fld 1 (.t 1)⟩, ⟨(some 16), none, .load (.t 15)⟩, ⟨(some 17), none, .app 97 5 40 (.t 14) (.t 16)⟩, ⟨(some 18), none, .build [.nl, .nl] [(0, 1, (.t 13)), (1, 1, (.t 17))]⟩, ⟨(some 19), none, .call 29 [(.t 18)]⟩, ⟨(some 20), none, .loadA 2 (.t 1)⟩, ⟨(some 21), none, .call 30 [(.t 20)]⟩, ⟨(some 22), none, .call 28 [(.t 19), (.t 21)]⟩, ⟨(some 2), none, .mv (.t 22)⟩] [[], [0], [1], [], [], [4], [3, 5, 2], [2, 6], [7, 6], [], [9, 8], [8, 10, 10], [11, 11, 0, 1, 2, 3, 4, 5, 6, 7, 8, 9, 10, 11]] [[1], [0, 2], [1, 7], [6], [5], [4, 6], [3, 5, 7], [2, 6, 8], [7, 11], [10], [9, 11], [8, 10, 12], [11]]) (.ret)))
theorem ok_narthexlaw12_PlaceArcs : FnOK Try.prog 5 Try.f5 e_narthexlaw12_PlaceArcs [.t 2] 1 22 := ⟨by kernel_rfl, ⟨_, rfl, by kernel_rfl⟩, by kernel_rfl, by kernel_rfl⟩
/- narthex/narthexlaw12.PlaceArcs -/
noncomputable def m_narthexlaw12_PlaceArcs_j2  : Bool → Option Bool
| x11 =>
 some x11
noncomputable def m_narthexlaw12_PlaceArcs_j1 (x1 : Scene) : Bool → Option Bool
| x4 =>
 ifb x4 (
 (m_narthexlaw12_awake).bind fun x5 =>
 some x5) (
 (m_narthexlaw12_Own x1.Diners).bind fun x6 =>
 (app_ 40 (([] : List Mail)) x1.Mail).bind fun x7 =>
 (m_place_Arcs ((Scene.mk x6 x7))).bind fun x8 =>
 (m_narthexref12_Arcs x1).bind fun x9 =>
 (m_narthexref04_Same x8 x9).bind fun x10 =>
 m_narthexlaw12_PlaceArcs_j2 x10)
noncomputable def m_narthexlaw12_PlaceArcs (x1 : Scene) : Option Bool :=
 (m_narthexlaw12_awake).bind fun x2 =>
 ifb (!x2) (
 (m_narthexlaw12_PlaceArcs_j1 x1) true) (
 (m_narthexref12_Few x1).bind fun x3 =>
 (m_narthexlaw12_PlaceArcs_j1 x1) (!x3))
theorem k_narthexlaw12_PlaceArcs (x1 : Scene) (r : Bool) (h : m_narthexlaw12_PlaceArcs x1 = some r) : FunP Try.prog 5 [.agg (Scene.row x1)] (.bv r) := by
  refine FunP_intro ok_narthexlaw12_PlaceArcs rfl rfl fun w0 H0 => ?_
  rw [m_narthexlaw12_PlaceArcs] at h
  refine V_go 8 ?_
  dsimp only [e_narthexlaw12_PlaceArcs, go_sem, Nat.reduceBEq, Nat.reduceAdd]
  refine ⟨by simp, ?_⟩
  obtain ⟨x2, ex2, h⟩ := Option.bind_eq_some_iff.1 h
  refine V_call trivial (k_narthexlaw12_awake _ ex2) (by first | exact leL_refl _ | simp [go_sem]) (by first | rfl | simp [go_sem]) ?_
  refine V_go 2 ?_
  dsimp only [e_narthexlaw12_PlaceArcs, go_sem, Nat.reduceBEq, Nat.reduceAdd]
  refine ⟨by simp, ?_⟩
  refine V_join (fun (x4 : Bool) => (⟨(.any :: .ptr 0 0 :: an 7 (.bv x4 :: an 13 [])), [some ⟨43, [.sl 3 (List.map Diner.row x1.Diners), .sl 5 (List.map Mail.row x1.Mail)]⟩], []⟩ : St)) (m_narthexlaw12_PlaceArcs_j1 x1) r ?_ fun J1 => ?_
  · intro x4 h
    rw [m_narthexlaw12_PlaceArcs_j1] at h
    try dsimp only
    refine M_ite h rfl (fun hb h => ?_) (fun hb h => ?_)
    · refine V_go 2 ?_
      dsimp only [e_narthexlaw12_PlaceArcs, go_sem, Nat.reduceBEq, Nat.reduceAdd]
      refine ⟨by simp, ?_⟩
      obtain ⟨x5, ex5, h⟩ := Option.bind_eq_some_iff.1 h
      refine V_call trivial (k_narthexlaw12_awake _ ex5) (by first | exact leL_refl _ | simp [go_sem]) (by first | rfl | simp [go_sem]) ?_
      refine V_go 2 ?_
      dsimp only [e_narthexlaw12_PlaceArcs, go_sem, Nat.reduceBEq, Nat.reduceAdd]
      refine ⟨by simp, ?_⟩
      exact M_done (res := fun (r : Bool) => .bv r) ok_narthexlaw12_PlaceArcs h (by first | exact le_refl _ | simp [go_sem])
    · refine V_go 2 ?_
      dsimp only [e_narthexlaw12_PlaceArcs, go_sem, Nat.reduceBEq, Nat.reduceAdd]
      refine ⟨by simp, ?_⟩
      refine V_join (fun (x11 : Bool) => (⟨(.any :: .any :: .bv x11 :: an 20 []), [], []⟩ : St)) m_narthexlaw12_PlaceArcs_j2 r ?_ fun J2 => ?_
      · intro x11 h
        rw [m_narthexlaw12_PlaceArcs_j2] at h
        try dsimp only
        exact M_done (res := fun (r : Bool) => .bv r) ok_narthexlaw12_PlaceArcs h (by first | exact le_refl _ | simp [go_sem])
      · refine V_drw (by kernel_rfl) fun all hall hs hnap haf => ?_
        dsimp only [go_sem, Nat.reduceBEq, Nat.reduceAdd]
        refine G_goE hall hs haf hnap 5 8 [true, true, false, false, true, true, false, false, false, true, false, false, false] (⟨(.any :: .ptr 0 0 :: an 7 (.bv x4 :: .any :: .ptr 0 0 :: .sl 3 (List.map Diner.row x1.Diners) :: .any :: .any :: .ptr 0 1 :: .sl 5 (List.map Mail.row x1.Mail) :: an 3 [.agg [.sl 3 (List.map Diner.row x1.Diners), .sl 5 (List.map Mail.row x1.Mail)], .any, .any])), [some ⟨43, [.sl 3 (List.map Diner.row x1.Diners), .sl 5 (List.map Mail.row x1.Mail)]⟩], []⟩ : St) (by kernel_rfl) ?_
        refine G_two 2 3 rfl ?_ ?_
        · obtain ⟨x6, ex6, h⟩ := Option.bind_eq_some_iff.1 h
          refine GO_call hall rfl trivial (k_narthexlaw12_Own x1.Diners _ ex6) (by first | exact leL_refl _ | simp [go_sem]) (by first | rfl | simp [go_sem]) ?_
          dsimp only [go_sem, Nat.reduceBEq, Nat.reduceAdd]
          refine G_one 3 rfl ?_
          refine GO_ev hall rfl trivial ?_
          dsimp only [go_sem, Nat.reduceBEq, Nat.reduceAdd]
          refine G_one 6 rfl ?_
          obtain ⟨x7, ex7, h⟩ := Option.bind_eq_some_iff.1 h
          refine GO_appSM Mail.row ex7 hall rfl trivial rfl rfl rfl ?_
          dsimp only [go_sem, Nat.reduceBEq, Nat.reduceAdd]
          refine G_goN hall hs haf hnap 1 4 ?_
          dsimp only [go_sem, Nat.reduceBEq, Nat.reduceAdd]
          refine ⟨by simp, ?_⟩
          refine G_one 8 rfl ?_
          obtain ⟨x8, ex8, h⟩ := Option.bind_eq_some_iff.1 h
          refine GO_call hall rfl trivial (k_place_Arcs ((Scene.mk x6 x7)) _ ex8) (by first | exact leL_refl _ | simp [go_sem]) (by first | rfl | simp [go_sem]) ?_
          dsimp only [go_sem, Nat.reduceBEq, Nat.reduceAdd]
          refine G_one 10 rfl ?_
          obtain ⟨x9, ex9, h⟩ := Option.bind_eq_some_iff.1 h
          refine GO_call hall rfl trivial (k_narthexref12_Arcs x1 _ ex9) (by first | exact leL_refl _ | simp [go_sem]) (by first | rfl | simp [go_sem]) ?_
          dsimp only [go_sem, Nat.reduceBEq, Nat.reduceAdd]
          refine G_one 11 rfl ?_
          obtain ⟨x10, ex10, h⟩ := Option.bind_eq_some_iff.1 h
          refine GO_call hall rfl trivial (k_narthexref04_Same x8 x9 _ ex10) (by first | exact leL_refl _ | simp [go_sem]) (by first | rfl | simp [go_sem]) ?_
          dsimp only [go_sem, Nat.reduceBEq, Nat.reduceAdd]
          refine G_goN hall hs haf hnap 1 0 ?_
          dsimp only [go_sem, Nat.reduceBEq, Nat.reduceAdd]
          refine ⟨by simp, ?_⟩
          refine G_done rfl ?_ _
          exact M_to J2 (s := x10) h (by simp [go_sem]) (by first | rfl | simp [go_sem])
        · refine GO_ev hall rfl trivial ?_
          dsimp only [go_sem, Nat.reduceBEq, Nat.reduceAdd]
          refine G_one 2 rfl ?_
          obtain ⟨x6, ex6, h⟩ := Option.bind_eq_some_iff.1 h
          refine GO_call hall rfl trivial (k_narthexlaw12_Own x1.Diners _ ex6) (by first | exact leL_refl _ | simp [go_sem]) (by first | rfl | simp [go_sem]) ?_
          dsimp only [go_sem, Nat.reduceBEq, Nat.reduceAdd]
          refine G_one 6 rfl ?_
          obtain ⟨x7, ex7, h⟩ := Option.bind_eq_some_iff.1 h
          refine GO_appSM Mail.row ex7 hall rfl trivial rfl rfl rfl ?_
          dsimp only [go_sem, Nat.reduceBEq, Nat.reduceAdd]
          refine G_goN hall hs haf hnap 1 4 ?_
          dsimp only [go_sem, Nat.reduceBEq, Nat.reduceAdd]
          refine ⟨by simp, ?_⟩
          refine G_one 8 rfl ?_
          obtain ⟨x8, ex8, h⟩ := Option.bind_eq_some_iff.1 h
          refine GO_call hall rfl trivial (k_place_Arcs ((Scene.mk x6 x7)) _ ex8) (by first | exact leL_refl _ | simp [go_sem]) (by first | rfl | simp [go_sem]) ?_
          dsimp only [go_sem, Nat.reduceBEq, Nat.reduceAdd]
          refine G_one 10 rfl ?_
          obtain ⟨x9, ex9, h⟩ := Option.bind_eq_some_iff.1 h
          refine GO_call hall rfl trivial (k_narthexref12_Arcs x1 _ ex9) (by first | exact leL_refl _ | simp [go_sem]) (by first | rfl | simp [go_sem]) ?_
          dsimp only [go_sem, Nat.reduceBEq, Nat.reduceAdd]
          refine G_one 11 rfl ?_
          obtain ⟨x10, ex10, h⟩ := Option.bind_eq_some_iff.1 h
          refine GO_call hall rfl trivial (k_narthexref04_Same x8 x9 _ ex10) (by first | exact leL_refl _ | simp [go_sem]) (by first | rfl | simp [go_sem]) ?_
          dsimp only [go_sem, Nat.reduceBEq, Nat.reduceAdd]
          refine G_goN hall hs haf hnap 1 0 ?_
          dsimp only [go_sem, Nat.reduceBEq, Nat.reduceAdd]
          refine ⟨by simp, ?_⟩
          refine G_done rfl ?_ _
          exact M_to J2 (s := x10) h (by simp [go_sem]) (by first | rfl | simp [go_sem])
  · refine M_case 5 h rfl (fun hb h => ?_) (fun hb h => ?_)
    · dsimp only [go_sem, Nat.reduceBEq, Nat.reduceAdd]
      refine V_go 5 ?_
      dsimp only [e_narthexlaw12_PlaceArcs, go_sem, Nat.reduceBEq, Nat.reduceAdd]
      refine ⟨by simp, ?_⟩
      exact M_to J1 (s := true) h (by simp [go_sem]) (by first | rfl | simp [go_sem])
    · dsimp only [go_sem, Nat.reduceBEq, Nat.reduceAdd]
      refine V_go 1 ?_
      dsimp only [e_narthexlaw12_PlaceArcs, go_sem, Nat.reduceBEq, Nat.reduceAdd]
      refine ⟨by simp, ?_⟩
      obtain ⟨x3, ex3, h⟩ := Option.bind_eq_some_iff.1 h
      refine V_call trivial (k_narthexref12_Few x1 _ ex3) (by first | exact leL_refl _ | simp [go_sem]) (by first | rfl | simp [go_sem]) ?_
      refine V_go 3 ?_
      dsimp only [e_narthexlaw12_PlaceArcs, go_sem, Nat.reduceBEq, Nat.reduceAdd]
      refine ⟨by simp, ?_⟩
      exact M_to J1 (s := !x3) h (by simp [go_sem]) (by first | rfl | simp [go_sem])
def f_narthexlaw12_PlaceArcs_j2 (F : Nat)  : Bool → Option Bool
| x11 =>
 some x11
theorem le_narthexlaw12_PlaceArcs_j2 {F : Nat} : ∀ s, ole (f_narthexlaw12_PlaceArcs_j2 F s) (m_narthexlaw12_PlaceArcs_j2 s) := by
  intro x11
  unfold f_narthexlaw12_PlaceArcs_j2 m_narthexlaw12_PlaceArcs_j2
  try dsimp only
  repeat' first | with_reducible exact ole_refl _ | assumption | intro _ | with_reducible refine ole_ifb ?_ ?_ | with_reducible refine ole_bind ?_ ?_ | with_reducible refine ole_map ?_ | with_reducible refine ole_loop ?_
def f_narthexlaw12_PlaceArcs_j1 (F : Nat) (x1 : Scene) : Bool → Option Bool
| x4 =>
 ifb x4 (
 (f_narthexlaw12_awake F).bind fun x5 =>
 some x5) (
 (f_narthexlaw12_Own F x1.Diners).bind fun x6 =>
 (app_ 40 (([] : List Mail)) x1.Mail).bind fun x7 =>
 (f_place_Arcs F ((Scene.mk x6 x7))).bind fun x8 =>
 (f_narthexref12_Arcs F x1).bind fun x9 =>
 (f_narthexref04_Same F x8 x9).bind fun x10 =>
 f_narthexlaw12_PlaceArcs_j2 F x10)
theorem le_narthexlaw12_PlaceArcs_j1 {F : Nat} {x1 : Scene} : ∀ s, ole (f_narthexlaw12_PlaceArcs_j1 F x1 s) (m_narthexlaw12_PlaceArcs_j1 x1 s) := by
  intro x4
  unfold f_narthexlaw12_PlaceArcs_j1 m_narthexlaw12_PlaceArcs_j1
  try dsimp only
  repeat' first | with_reducible exact ole_refl _ | assumption | intro _ | with_reducible refine ole_ifb ?_ ?_ | with_reducible refine ole_bind ?_ ?_ | with_reducible refine ole_map ?_ | with_reducible refine ole_loop ?_ | with_reducible apply le_narthexlaw12_PlaceArcs_j2 | with_reducible apply le_narthexlaw12_awake | with_reducible apply le_narthexlaw12_Own | with_reducible apply le_place_Arcs | with_reducible apply le_narthexref12_Arcs | with_reducible apply le_narthexref04_Same
def f_narthexlaw12_PlaceArcs (F : Nat) (x1 : Scene) : Option Bool :=
 (f_narthexlaw12_awake F).bind fun x2 =>
 ifb (!x2) (
 (f_narthexlaw12_PlaceArcs_j1 F x1) true) (
 (f_narthexref12_Few F x1).bind fun x3 =>
 (f_narthexlaw12_PlaceArcs_j1 F x1) (!x3))
theorem le_narthexlaw12_PlaceArcs {F : Nat} {x1 : Scene} : ole (f_narthexlaw12_PlaceArcs F x1) (m_narthexlaw12_PlaceArcs x1) := by
  unfold f_narthexlaw12_PlaceArcs m_narthexlaw12_PlaceArcs
  repeat' first | with_reducible exact ole_refl _ | assumption | intro _ | with_reducible refine ole_ifb ?_ ?_ | with_reducible refine ole_bind ?_ ?_ | with_reducible refine ole_map ?_ | with_reducible refine ole_loop ?_ | with_reducible apply le_narthexlaw12_PlaceArcs_j2 | with_reducible apply le_narthexlaw12_awake | with_reducible apply le_narthexlaw12_Own | with_reducible apply le_place_Arcs | with_reducible apply le_narthexref12_Arcs | with_reducible apply le_narthexref04_Same | with_reducible apply le_narthexlaw12_PlaceArcs_j1 | with_reducible apply le_narthexref12_Few
end NX
end Go.Proofs.Ytadebhbiglmodaa
/-
  The function narthex/narthexlaw03.Own: its code compiled, a model, and that the code answers as the model. Written by a program of ours (lb.py). No statement of the seat is proved here.
-/
namespace Go.Proofs.Ytadebhbiglmodaa
namespace NX
open Go
set_option maxRecDepth 100000
set_option maxHeartbeats 4000000
def e_narthexlaw03_Own : EC := .seq (.reg [⟨(some 1), none, .box 24 2 (.t 0)⟩, ⟨(some 2), none, .alloc 24 [.iv 0, .nl]⟩]) (.seq (.drw [⟨(some 3), none, .fld 0 (.t 1)⟩, ⟨(some 4), none, .load (.t 3)⟩, ⟨(some 5), none, .bsl 58 2 0 [.iv 0, .iv 0] []⟩, ⟨(some 6), none, .fld 1 (.t 1)⟩, ⟨(some 7), none, .load (.t 6)⟩, ⟨(some 8), none, .app 58 2 16 (.t 5) (.t 7)⟩, ⟨(some 9), none, .build [.iv 0, .nl] [(0, 1, (.t 4)), (1, 1, (.t 8))]⟩, ⟨none, none, .store 2 (.t 2) (.t 9)⟩] [[], [0], [], [], [3], [2, 4], [1, 5], [6, 5, 0, 1, 2, 3, 4, 5, 6]] [[1], [0, 6], [5], [4], [3, 5], [2, 4, 6], [1, 5, 7], [6]]) (.ret))
theorem ok_narthexlaw03_Own : FnOK Try.prog 15 Try.f15 e_narthexlaw03_Own [.c 2 (some 2)] 1 9 := ⟨by kernel_rfl, ⟨_, rfl, by kernel_rfl⟩, by kernel_rfl, by kernel_rfl⟩
/- narthex/narthexlaw03.Own -/
noncomputable def m_narthexlaw03_Own (x1 : Graph) : Option Graph :=
 (app_ 16 (([] : List Edge)) x1.Edges).bind fun x2 =>
 some (Graph.mk x1.N x2)
theorem k_narthexlaw03_Own (x1 : Graph) (r : Graph) (h : m_narthexlaw03_Own x1 = some r) : FunP Try.prog 15 [.agg (Graph.row x1)] (.agg (Graph.row r)) := by
  refine FunP_intro ok_narthexlaw03_Own rfl rfl fun w0 H0 => ?_
  rw [m_narthexlaw03_Own] at h
  refine V_go 6 ?_
  dsimp only [e_narthexlaw03_Own, go_sem, Nat.reduceBEq, Nat.reduceAdd]
  refine ⟨by simp, ?_⟩
  refine V_drw (by kernel_rfl) fun all hall hs hnap haf => ?_
  dsimp only [go_sem, Nat.reduceBEq, Nat.reduceAdd]
  refine G_goN hall hs haf hnap 4 4 ?_
  dsimp only [go_sem, Nat.reduceBEq, Nat.reduceAdd]
  refine ⟨by simp, ?_⟩
  refine G_one 2 rfl ?_
  refine GO_ev hall rfl trivial ?_
  dsimp only [go_sem, Nat.reduceBEq, Nat.reduceAdd]
  refine G_one 5 rfl ?_
  obtain ⟨x2, ex2, h⟩ := Option.bind_eq_some_iff.1 h
  refine GO_appM Edge.row ex2 hall rfl trivial rfl rfl rfl ?_
  dsimp only [go_sem, Nat.reduceBEq, Nat.reduceAdd]
  refine G_goN hall hs haf hnap 1 1 ?_
  dsimp only [go_sem, Nat.reduceBEq, Nat.reduceAdd]
  refine ⟨by simp, ?_⟩
  refine G_one 7 rfl ?_
  refine GO_ev hall rfl trivial ?_
  dsimp only [go_sem, Nat.reduceBEq, Nat.reduceAdd]
  refine G_done rfl ?_ _
  refine V_seal 1 rfl ?_
  dsimp only [go_sem, Nat.reduceBEq, Nat.reduceAdd]
  exact M_done (res := fun (r : Graph) => .agg (Graph.row r)) ok_narthexlaw03_Own h (by first | exact le_refl _ | simp [go_sem])
def f_narthexlaw03_Own (F : Nat) (x1 : Graph) : Option Graph :=
 (app_ 16 (([] : List Edge)) x1.Edges).bind fun x2 =>
 some (Graph.mk x1.N x2)
theorem le_narthexlaw03_Own {F : Nat} {x1 : Graph} : ole (f_narthexlaw03_Own F x1) (m_narthexlaw03_Own x1) := by
  unfold f_narthexlaw03_Own m_narthexlaw03_Own
  repeat' first | with_reducible exact ole_refl _ | assumption | intro _ | with_reducible refine ole_ifb ?_ ?_ | with_reducible refine ole_bind ?_ ?_ | with_reducible refine ole_map ?_ | with_reducible refine ole_loop ?_
end NX
end Go.Proofs.Ytadebhbiglmodaa
/-
  The function narthex/narthexref12.Table: its code compiled, a model, and that the code answers as the model. Written by a program of ours (lb.py). No statement of the seat is proved here.
-/
namespace Go.Proofs.Ytadebhbiglmodaa
namespace NX
open Go
set_option maxRecDepth 100000
set_option maxHeartbeats 4000000
def e_narthexref12_Table_L1 : EC := .seq (.seq (.reg [⟨(some 19), none, .mv (.t 8)⟩, ⟨(some 20), none, .fld 0 (.t 2)⟩, ⟨(some 21), none, .load (.t 20)⟩, ⟨(some 22), none, .bin .lss (.t 19) (.t 21)⟩]) (.ite (.t 22) (.skip) (.exit 2))) (.seq (.blk 3 (.seq (.seq (.reg [⟨(some 25), none, .loadA 2 (.t 2)⟩, ⟨(some 26), none, .mv (.t 6)⟩, ⟨(some 27), none, .mv (.t 8)⟩, ⟨(some 28), none, .call 32 [(.t 25), (.t 26), (.t 27)]⟩, ⟨(some 29), none, .not (.t 28)⟩]) (.ite (.t 29) (.exit 3) (.skip))) (.seq (.reg [⟨(some 30), none, .mv (.t 8)⟩, ⟨(some 31), none, .build [.iv 0, .iv 0, .iv 0, .ff, .ff, .ff, .ff, .ff] [(0, 1, (.t 30)), (1, 1, (.c (.iv 1)))]⟩, ⟨(some 9), none, .alloc 49 [.iv 0, .iv 0, .iv 0, .ff, .ff, .ff, .ff, .ff]⟩, ⟨none, none, .store 8 (.t 9) (.t 31)⟩]) (.seq (.seq (.drw [⟨(some 32), none, .mv (.t 1)⟩, ⟨(some 33), none, .mv (.t 6)⟩, ⟨(some 34), none, .idx 1 (.t 32) (.t 33)⟩, ⟨(some 35), none, .load (.t 34)⟩, ⟨(some 36), none, .mv (.t 1)⟩, ⟨(some 37), none, .mv (.t 8)⟩, ⟨(some 38), none, .idx 1 (.t 36) (.t 37)⟩, ⟨(some 39), none, .load (.t 38)⟩, ⟨(some 40), none, .bin .lss (.t 35) (.t 39)⟩] [[], [], [0, 1], [2], [], [], [4, 5], [6], [3, 7]] [[2], [2], [0, 1, 3], [2, 8], [6], [6], [4, 5, 7], [6, 8], [3, 7]]) (.ite (.t 40) (.reg [⟨(some 41), none, .fld 5 (.t 9)⟩, ⟨none, none, .store 1 (.t 41) (.c .tt)⟩, ⟨(some 42), none, .fld 7 (.t 9)⟩, ⟨none, none, .store 1 (.t 42) (.c .tt)⟩]) (.reg [⟨(some 43), none, .fld 3 (.t 9)⟩, ⟨none, none, .store 1 (.t 43) (.c .tt)⟩, ⟨(some 44), none, .fld 4 (.t 9)⟩, ⟨none, none, .store 1 (.t 44) (.c .tt)⟩, ⟨(some 45), none, .fld 6 (.t 9)⟩, ⟨none, none, .store 1 (.t 45) (.c .tt)⟩]))) (.reg [⟨(some 46), none, .fld 2 (.t 7)⟩, ⟨(some 47), none, .load (.t 46)⟩, ⟨(some 48), none, .loadA 8 (.t 9)⟩, ⟨(some 49), none, .bsl 49 8 1 [.iv 0, .iv 0, .iv 0, .ff, .ff, .ff, .ff, .ff] [(0, (.t 48))]⟩, ⟨(some 50), none, .app 49 8 32 (.t 47) (.t 49)⟩, ⟨(some 51), none, .fld 2 (.t 7)⟩, ⟨none, none, .store 1 (.t 51) (.t 50)⟩]))))) (.reg [⟨(some 23), none, .mv (.t 8)⟩, ⟨(some 24), none, .bin .add (.t 23) (.c (.iv 1))⟩, ⟨(some 8), none, .mv (.t 24)⟩]))
def e_narthexref12_Table_L0 : EC := .seq (.seq (.reg [⟨(some 11), none, .mv (.t 6)⟩, ⟨(some 12), none, .fld 0 (.t 2)⟩, ⟨(some 13), none, .load (.t 12)⟩, ⟨(some 14), none, .bin .lss (.t 11) (.t 13)⟩]) (.ite (.t 14) (.skip) (.exit 0))) (.seq (.blk 1 (.seq (.reg [⟨(some 17), none, .mv (.t 6)⟩, ⟨(some 18), none, .build [.iv 0, .iv 0, .nl] [(0, 1, (.t 17))]⟩, ⟨(some 7), none, .alloc 39 [.iv 0, .iv 0, .nl]⟩, ⟨none, none, .store 3 (.t 7) (.t 18)⟩]) (.seq (.seq (.reg [⟨(some 8), none, .mv (.c (.iv 0))⟩]) (.blk 2 (.loop e_narthexref12_Table_L1))) (.reg [⟨(some 52), none, .mv (.t 5)⟩, ⟨(some 53), none, .loadA 3 (.t 7)⟩, ⟨(some 54), none, .bsl 39 3 1 [.iv 0, .iv 0, .nl] [(0, (.t 53))]⟩, ⟨(some 55), none, .app 39 3 40 (.t 52) (.t 54)⟩, ⟨(some 5), none, .mv (.t 55)⟩])))) (.reg [⟨(some 15), none, .mv (.t 6)⟩, ⟨(some 16), none, .bin .add (.t 15) (.c (.iv 1))⟩, ⟨(some 6), none, .mv (.t 16)⟩]))
def e_narthexref12_Table : EC := .seq (.reg [⟨(some 2), none, .box 24 2 (.t 0)⟩, ⟨(some 4), none, .mv (.c .nl)⟩]) (.seq (.reg [⟨(some 10), none, .bsl 39 3 0 [.iv 0, .iv 0, .nl] []⟩, ⟨(some 5), none, .mv (.t 10)⟩]) (.seq (.seq (.reg [⟨(some 6), none, .mv (.c (.iv 0))⟩]) (.blk 0 (.loop e_narthexref12_Table_L0))) (.seq (.reg [⟨(some 56), none, .mv (.t 5)⟩, ⟨(some 4), none, .mv (.t 56)⟩]) (.ret))))
theorem ok_narthexref12_Table : FnOK Try.prog 19 Try.f19 e_narthexref12_Table [.t 4] 2 55 := ⟨by kernel_rfl, ⟨_, rfl, by kernel_rfl⟩, by kernel_rfl, by kernel_rfl⟩
/- narthex/narthexref12.Table -/
noncomputable def m_narthexref12_Table_j1  : (List Diner) → Option (List Diner)
| x64 =>
 some x64
noncomputable def m_narthexref12_Table_j2 (x29 : Int) (x30 : (List Diner)) : (List Side) → Option ((Int × (List Diner)) ⊕ (List Diner))
| x56 =>
 (app_ 40 x30 ([(Diner.mk x29 0 x56)])).bind fun x57 =>
 some (.inl (wr (x29 + 1), x57))
noncomputable def m_narthexref12_Table_j3 (x39 : Int) : (List Side) → Option ((Int × (List Side)) ⊕ ((Int × (List Diner)) ⊕ (List Diner)))
| x46 =>
 some (.inl (wr (x39 + 1), x46))
noncomputable def m_narthexref12_Table_j4 (x39 : Int) (x40 : (List Side)) : Side → Option ((Int × (List Side)) ⊕ ((Int × (List Diner)) ⊕ (List Diner)))
| x44 =>
 (app_ 32 x40 ([x44])).bind fun x45 =>
 (m_narthexref12_Table_j3 x39) x45
noncomputable def m_narthexref12_Table_l2 (x1 : Graph) (x2 : (List Int)) (x29 : Int) (x30 : (List Diner)) : (Int × (List Side)) → Option ((Int × (List Side)) ⊕ ((Int × (List Diner)) ⊕ (List Diner)))
| (x39, x40) =>
 ifb (decide (x39 < x1.N)) (
 (m_narthexref03_Has x1 x29 x39).bind fun x41 =>
 ifb (!x41) (
 (m_narthexref12_Table_j3 x39) x40) (
 (at_ x2 x29).bind fun x42 =>
 (at_ x2 x39).bind fun x43 =>
 ifb (decide (x42 < x43)) (
 (m_narthexref12_Table_j4 x39 x40) ((Side.mk x39 1 0 false false true false true))) (
 (m_narthexref12_Table_j4 x39 x40) ((Side.mk x39 1 0 true true false true false))))) (
 Option.map Sum.inr ((m_narthexref12_Table_j2 x29 x30) x40))
noncomputable def m_narthexref12_Table_l1 (x1 : Graph) (x2 : (List Int)) : (Int × (List Diner)) → Option ((Int × (List Diner)) ⊕ (List Diner))
| (x29, x30) =>
 ifb (decide (x29 < x1.N)) (
 loop (m_narthexref12_Table_l2 x1 x2 x29 x30) (0, ([] : List Side))) (
 Option.map Sum.inr (m_narthexref12_Table_j1 x30))
noncomputable def m_narthexref12_Table (x1 : Graph) (x2 : (List Int)) : Option (List Diner) :=
 loop (m_narthexref12_Table_l1 x1 x2) (0, ([] : List Diner))
theorem o_narthexref12_Table (x1 : Graph) (x2 : (List Int)) (r : (List Diner)) (h : m_narthexref12_Table x1 x2 = some r) : FunO Try.prog 19 [.agg (Graph.row x1), .sl 1 (List.map intRow x2)] 39 3 (List.map Diner.row r) := by
  refine FunO_intro ok_narthexref12_Table rfl fun w0 H0 => ?_
  rw [m_narthexref12_Table] at h
  refine V_go 15 ?_
  dsimp only [e_narthexref12_Table, e_narthexref12_Table_L0, e_narthexref12_Table_L1, go_sem, Nat.reduceBEq, Nat.reduceAdd]
  refine ⟨by simp, ?_⟩
  refine V_join (fun (x64 : (List Diner)) => (⟨(an 5 (.osl 0 :: an 51 [])), [], [some ⟨39, 3, List.map Diner.row x64⟩]⟩ : St)) m_narthexref12_Table_j1 r ?_ fun J1 => ?_
  · intro x64 h
    rw [m_narthexref12_Table_j1] at h
    try dsimp only
    refine V_go 5 ?_
    dsimp only [e_narthexref12_Table, e_narthexref12_Table_L0, e_narthexref12_Table_L1, go_sem, Nat.reduceBEq, Nat.reduceAdd]
    refine ⟨by simp, ?_⟩
    exact O_doneM Diner.row ok_narthexref12_Table h rfl rfl
  · refine V_go 1 ?_
    dsimp only [e_narthexref12_Table, e_narthexref12_Table_L0, e_narthexref12_Table_L1, go_sem, Nat.reduceBEq, Nat.reduceAdd]
    refine ⟨by simp, ?_⟩
    refine M_loop h (fun ((x29, x30) : (Int × (List Diner))) => (⟨(.any :: .sl 1 (List.map intRow x2) :: .ptr 0 0 :: .any :: .any :: .osl 0 :: .iv x29 :: an 50 []), [some ⟨24, [.iv x1.N, .sl 2 (List.map Edge.row x1.Edges)]⟩], [some ⟨39, 3, List.map Diner.row x30⟩]⟩ : St)) (by simp [go_sem]) (by rintro ⟨x29, x30⟩; first | rfl | simp [go_sem]) ?_
    rintro n1 ⟨x29, x30⟩ y1 h hin1 hout1
    rw [m_narthexref12_Table_l1] at h
    try dsimp only
    refine V_go 8 ?_
    dsimp only [e_narthexref12_Table, e_narthexref12_Table_L0, e_narthexref12_Table_L1, go_sem, Nat.reduceBEq, Nat.reduceAdd]
    refine ⟨by simp, ?_⟩
    refine M_ite h rfl (fun hb h => ?_) (fun hb h => ?_)
    · refine V_go 15 ?_
      dsimp only [e_narthexref12_Table, e_narthexref12_Table_L0, e_narthexref12_Table_L1, go_sem, Nat.reduceBEq, Nat.reduceAdd]
      refine ⟨by simp, ?_⟩
      refine V_join (fun (x56 : (List Side)) => (⟨(.any :: .sl 1 (List.map intRow x2) :: .ptr 0 0 :: .any :: .any :: .osl 0 :: .iv x29 :: .ptr 1 0 :: an 49 []), [some ⟨24, [.iv x1.N, .sl 2 (List.map Edge.row x1.Edges)]⟩, some ⟨39, [.iv x29, .iv 0, .osl 1]⟩], [some ⟨39, 3, List.map Diner.row x30⟩, some ⟨49, 8, List.map Side.row x56⟩]⟩ : St)) (m_narthexref12_Table_j2 x29 x30) y1 ?_ fun J2 => ?_
      · intro x56 h
        rw [m_narthexref12_Table_j2] at h
        try dsimp only
        refine V_go 3 ?_
        dsimp only [e_narthexref12_Table, e_narthexref12_Table_L0, e_narthexref12_Table_L1, go_sem, Nat.reduceBEq, Nat.reduceAdd]
        refine ⟨by simp, ?_⟩
        refine V_seal 1 rfl ?_
        dsimp only [go_sem, Nat.reduceBEq, Nat.reduceAdd]
        refine V_go 1 ?_
        dsimp only [e_narthexref12_Table, e_narthexref12_Table_L0, e_narthexref12_Table_L1, go_sem, Nat.reduceBEq, Nat.reduceAdd]
        refine ⟨by simp, ?_⟩
        obtain ⟨x57, ex57, h⟩ := Option.bind_eq_some_iff.1 h
        refine V_appM Diner.row ex57 trivial rfl rfl rfl ?_
        refine V_go 8 ?_
        dsimp only [e_narthexref12_Table, e_narthexref12_Table_L0, e_narthexref12_Table_L1, go_sem, Nat.reduceBEq, Nat.reduceAdd]
        refine ⟨by simp, ?_⟩
        refine V_ren 3 0 rfl rfl rfl ?_
        dsimp only [go_sem, Nat.reduceBEq, Nat.reduceAdd]
        exact M_back h hin1 (by simp [go_sem]) (by first | rfl | simp [go_sem])
      · refine V_go 1 ?_
        dsimp only [e_narthexref12_Table, e_narthexref12_Table_L0, e_narthexref12_Table_L1, go_sem, Nat.reduceBEq, Nat.reduceAdd]
        refine ⟨by simp, ?_⟩
        refine V_ownB 1 2 49 8 rfl rfl rfl ?_
        dsimp only [go_sem, Nat.reduceBEq, Nat.reduceAdd]
        refine M_loop h (fun ((x39, x40) : (Int × (List Side))) => (⟨(.any :: .sl 1 (List.map intRow x2) :: .ptr 0 0 :: .any :: .any :: .osl 0 :: .iv x29 :: .ptr 1 0 :: .iv x39 :: an 48 []), [some ⟨24, [.iv x1.N, .sl 2 (List.map Edge.row x1.Edges)]⟩, some ⟨39, [.iv x29, .iv 0, .osl 1]⟩], [some ⟨39, 3, List.map Diner.row x30⟩, some ⟨49, 8, List.map Side.row x40⟩]⟩ : St)) (by simp [go_sem]) (by rintro ⟨x39, x40⟩; first | rfl | simp [go_sem]) ?_
        rintro n2 ⟨x39, x40⟩ y2 h hin2 hout2
        rw [m_narthexref12_Table_l2] at h
        try dsimp only
        refine V_go 8 ?_
        dsimp only [e_narthexref12_Table, e_narthexref12_Table_L0, e_narthexref12_Table_L1, go_sem, Nat.reduceBEq, Nat.reduceAdd]
        refine ⟨by simp, ?_⟩
        refine M_ite h rfl (fun hb h => ?_) (fun hb h => ?_)
        · refine V_go 2 ?_
          dsimp only [e_narthexref12_Table, e_narthexref12_Table_L0, e_narthexref12_Table_L1, go_sem, Nat.reduceBEq, Nat.reduceAdd]
          refine ⟨by simp, ?_⟩
          refine V_join (fun (x46 : (List Side)) => (⟨(.any :: .sl 1 (List.map intRow x2) :: .ptr 0 0 :: .any :: .any :: .osl 0 :: .iv x29 :: .ptr 1 0 :: .iv x39 :: an 48 []), [some ⟨24, [.iv x1.N, .sl 2 (List.map Edge.row x1.Edges)]⟩, some ⟨39, [.iv x29, .iv 0, .osl 1]⟩], [some ⟨39, 3, List.map Diner.row x30⟩, some ⟨49, 8, List.map Side.row x46⟩]⟩ : St)) (m_narthexref12_Table_j3 x39) y2 ?_ fun J3 => ?_
          · intro x46 h
            rw [m_narthexref12_Table_j3] at h
            try dsimp only
            refine V_go 5 ?_
            dsimp only [e_narthexref12_Table, e_narthexref12_Table_L0, e_narthexref12_Table_L1, go_sem, Nat.reduceBEq, Nat.reduceAdd]
            refine ⟨by simp, ?_⟩
            exact M_back h hin2 (by simp [go_sem]) (by first | rfl | simp [go_sem])
          · refine V_go 7 ?_
            dsimp only [e_narthexref12_Table, e_narthexref12_Table_L0, e_narthexref12_Table_L1, go_sem, Nat.reduceBEq, Nat.reduceAdd]
            refine ⟨by simp, ?_⟩
            obtain ⟨x41, ex41, h⟩ := Option.bind_eq_some_iff.1 h
            refine V_call trivial (k_narthexref03_Has x1 x29 x39 _ ex41) (by first | exact leL_refl _ | simp [go_sem]) (by first | rfl | simp [go_sem]) ?_
            refine V_go 2 ?_
            dsimp only [e_narthexref12_Table, e_narthexref12_Table_L0, e_narthexref12_Table_L1, go_sem, Nat.reduceBEq, Nat.reduceAdd]
            refine ⟨by simp, ?_⟩
            refine M_ite h rfl (fun hb h => ?_) (fun hb h => ?_)
            · refine V_go 1 ?_
              dsimp only [e_narthexref12_Table, e_narthexref12_Table_L0, e_narthexref12_Table_L1, go_sem, Nat.reduceBEq, Nat.reduceAdd]
              refine ⟨by simp, ?_⟩
              exact M_to J3 (s := x40) h (by simp [go_sem]) (by first | rfl | simp [go_sem])
            · refine V_go 10 ?_
              dsimp only [e_narthexref12_Table, e_narthexref12_Table_L0, e_narthexref12_Table_L1, go_sem, Nat.reduceBEq, Nat.reduceAdd]
              refine ⟨by simp, ?_⟩
              refine V_drw (by kernel_rfl) fun all hall hs hnap haf => ?_
              dsimp only [go_sem, Nat.reduceBEq, Nat.reduceAdd]
              refine G_goN hall hs haf hnap 4 5 ?_
              dsimp only [go_sem, Nat.reduceBEq, Nat.reduceAdd]
              refine ⟨by simp, ?_⟩
              obtain ⟨x42, ex42, h⟩ := Option.bind_eq_some_iff.1 h
              refine G_idxM hall hs haf hnap 2 intRow ex42 rfl rfl trivial rfl rfl rfl rfl ?_
              refine G_goN hall hs haf hnap 1 3 ?_
              dsimp only [go_sem, Nat.reduceBEq, Nat.reduceAdd]
              refine ⟨by simp, ?_⟩
              obtain ⟨x43, ex43, h⟩ := Option.bind_eq_some_iff.1 h
              refine G_idxM hall hs haf hnap 6 intRow ex43 rfl rfl trivial rfl rfl rfl rfl ?_
              refine G_goN hall hs haf hnap 2 0 ?_
              dsimp only [go_sem, Nat.reduceBEq, Nat.reduceAdd]
              refine ⟨by simp, ?_⟩
              refine G_done rfl ?_ _
              refine V_join (fun (x44 : Side) => (⟨(.any :: .sl 1 (List.map intRow x2) :: .ptr 0 0 :: .any :: .any :: .osl 0 :: .iv x29 :: .ptr 1 0 :: .iv x39 :: .ptr 2 0 :: an 47 []), [some ⟨24, [.iv x1.N, .sl 2 (List.map Edge.row x1.Edges)]⟩, some ⟨39, [.iv x29, .iv 0, .osl 1]⟩, some ⟨49, [.iv x44.Peer, .iv x44.Epoch, .iv x44.State, .bv x44.Fork, .bv x44.Dirty, .bv x44.Token, .bv x44.Bottle, .bv x44.Ask]⟩], [some ⟨39, 3, List.map Diner.row x30⟩, some ⟨49, 8, List.map Side.row x40⟩]⟩ : St)) (m_narthexref12_Table_j4 x39 x40) y2 ?_ fun J4 => ?_
              · intro x44 h
                rw [m_narthexref12_Table_j4] at h
                try dsimp only
                refine V_go 5 ?_
                dsimp only [e_narthexref12_Table, e_narthexref12_Table_L0, e_narthexref12_Table_L1, go_sem, Nat.reduceBEq, Nat.reduceAdd]
                refine ⟨by simp, ?_⟩
                obtain ⟨x45, ex45, h⟩ := Option.bind_eq_some_iff.1 h
                refine V_appM Side.row ex45 trivial rfl rfl rfl ?_
                refine V_go 4 ?_
                dsimp only [e_narthexref12_Table, e_narthexref12_Table_L0, e_narthexref12_Table_L1, go_sem, Nat.reduceBEq, Nat.reduceAdd]
                refine ⟨by simp, ?_⟩
                refine V_ren 3 1 rfl rfl rfl ?_
                dsimp only [go_sem, Nat.reduceBEq, Nat.reduceAdd]
                exact M_to J3 (s := x45) h (by simp [go_sem]) (by first | rfl | simp [go_sem])
              · refine M_ite h rfl (fun hb h => ?_) (fun hb h => ?_)
                · refine V_go 6 ?_
                  dsimp only [e_narthexref12_Table, e_narthexref12_Table_L0, e_narthexref12_Table_L1, go_sem, Nat.reduceBEq, Nat.reduceAdd]
                  refine ⟨by simp, ?_⟩
                  exact M_to J4 (s := (Side.mk x39 1 0 false false true false true)) h (by simp [go_sem]) (by first | rfl | simp [go_sem])
                · refine V_go 8 ?_
                  dsimp only [e_narthexref12_Table, e_narthexref12_Table_L0, e_narthexref12_Table_L1, go_sem, Nat.reduceBEq, Nat.reduceAdd]
                  refine ⟨by simp, ?_⟩
                  exact M_to J4 (s := (Side.mk x39 1 0 true true false true false)) h (by simp [go_sem]) (by first | rfl | simp [go_sem])
        · refine V_go 1 ?_
          dsimp only [e_narthexref12_Table, e_narthexref12_Table_L0, e_narthexref12_Table_L1, go_sem, Nat.reduceBEq, Nat.reduceAdd]
          refine ⟨by simp, ?_⟩
          exact M_to J2 (s := x40) (M_out h hout2) (by simp [go_sem]) (by first | rfl | simp [go_sem])
    · refine V_go 1 ?_
      dsimp only [e_narthexref12_Table, e_narthexref12_Table_L0, e_narthexref12_Table_L1, go_sem, Nat.reduceBEq, Nat.reduceAdd]
      refine ⟨by simp, ?_⟩
      exact M_to J1 (s := x30) (M_out h hout1) (by simp [go_sem]) (by first | rfl | simp [go_sem])
theorem k_narthexref12_Table (x1 : Graph) (x2 : (List Int)) (r : (List Diner)) (h : m_narthexref12_Table x1 x2 = some r) : FunP Try.prog 19 [.agg (Graph.row x1), .sl 1 (List.map intRow x2)] (.sl 3 (List.map Diner.row r)) := (o_narthexref12_Table x1 x2 r h).sealed
def f_narthexref12_Table_j1 (F : Nat)  : (List Diner) → Option (List Diner)
| x64 =>
 some x64
theorem le_narthexref12_Table_j1 {F : Nat} : ∀ s, ole (f_narthexref12_Table_j1 F s) (m_narthexref12_Table_j1 s) := by
  intro x64
  unfold f_narthexref12_Table_j1 m_narthexref12_Table_j1
  try dsimp only
  repeat' first | with_reducible exact ole_refl _ | assumption | intro _ | with_reducible refine ole_ifb ?_ ?_ | with_reducible refine ole_bind ?_ ?_ | with_reducible refine ole_map ?_ | with_reducible refine ole_loop ?_
def f_narthexref12_Table_j2 (F : Nat) (x29 : Int) (x30 : (List Diner)) : (List Side) → Option ((Int × (List Diner)) ⊕ (List Diner))
| x56 =>
 (app_ 40 x30 ([(Diner.mk x29 0 x56)])).bind fun x57 =>
 some (.inl (wr (x29 + 1), x57))
theorem le_narthexref12_Table_j2 {F : Nat} {x29 : Int} {x30 : (List Diner)} : ∀ s, ole (f_narthexref12_Table_j2 F x29 x30 s) (m_narthexref12_Table_j2 x29 x30 s) := by
  intro x56
  unfold f_narthexref12_Table_j2 m_narthexref12_Table_j2
  try dsimp only
  repeat' first | with_reducible exact ole_refl _ | assumption | intro _ | with_reducible refine ole_ifb ?_ ?_ | with_reducible refine ole_bind ?_ ?_ | with_reducible refine ole_map ?_ | with_reducible refine ole_loop ?_ | with_reducible apply le_narthexref12_Table_j1
def f_narthexref12_Table_j3 (F : Nat) (x39 : Int) : (List Side) → Option ((Int × (List Side)) ⊕ ((Int × (List Diner)) ⊕ (List Diner)))
| x46 =>
 some (.inl (wr (x39 + 1), x46))
theorem le_narthexref12_Table_j3 {F : Nat} {x39 : Int} : ∀ s, ole (f_narthexref12_Table_j3 F x39 s) (m_narthexref12_Table_j3 x39 s) := by
  intro x46
  unfold f_narthexref12_Table_j3 m_narthexref12_Table_j3
  try dsimp only
  repeat' first | with_reducible exact ole_refl _ | assumption | intro _ | with_reducible refine ole_ifb ?_ ?_ | with_reducible refine ole_bind ?_ ?_ | with_reducible refine ole_map ?_ | with_reducible refine ole_loop ?_ | with_reducible apply le_narthexref12_Table_j1 | with_reducible apply le_narthexref12_Table_j2
def f_narthexref12_Table_j4 (F : Nat) (x39 : Int) (x40 : (List Side)) : Side → Option ((Int × (List Side)) ⊕ ((Int × (List Diner)) ⊕ (List Diner)))
| x44 =>
 (app_ 32 x40 ([x44])).bind fun x45 =>
 (f_narthexref12_Table_j3 F x39) x45
theorem le_narthexref12_Table_j4 {F : Nat} {x39 : Int} {x40 : (List Side)} : ∀ s, ole (f_narthexref12_Table_j4 F x39 x40 s) (m_narthexref12_Table_j4 x39 x40 s) := by
  intro x44
  unfold f_narthexref12_Table_j4 m_narthexref12_Table_j4
  try dsimp only
  repeat' first | with_reducible exact ole_refl _ | assumption | intro _ | with_reducible refine ole_ifb ?_ ?_ | with_reducible refine ole_bind ?_ ?_ | with_reducible refine ole_map ?_ | with_reducible refine ole_loop ?_ | with_reducible apply le_narthexref12_Table_j1 | with_reducible apply le_narthexref12_Table_j2 | with_reducible apply le_narthexref12_Table_j3
def f_narthexref12_Table_l2 (F : Nat) (x1 : Graph) (x2 : (List Int)) (x29 : Int) (x30 : (List Diner)) : (Int × (List Side)) → Option ((Int × (List Side)) ⊕ ((Int × (List Diner)) ⊕ (List Diner)))
| (x39, x40) =>
 ifb (decide (x39 < x1.N)) (
 (f_narthexref03_Has F x1 x29 x39).bind fun x41 =>
 ifb (!x41) (
 (f_narthexref12_Table_j3 F x39) x40) (
 (at_ x2 x29).bind fun x42 =>
 (at_ x2 x39).bind fun x43 =>
 ifb (decide (x42 < x43)) (
 (f_narthexref12_Table_j4 F x39 x40) ((Side.mk x39 1 0 false false true false true))) (
 (f_narthexref12_Table_j4 F x39 x40) ((Side.mk x39 1 0 true true false true false))))) (
 Option.map Sum.inr ((f_narthexref12_Table_j2 F x29 x30) x40))
theorem le_narthexref12_Table_l2 {F : Nat} {x1 : Graph} {x2 : (List Int)} {x29 : Int} {x30 : (List Diner)} : ∀ s, ole (f_narthexref12_Table_l2 F x1 x2 x29 x30 s) (m_narthexref12_Table_l2 x1 x2 x29 x30 s) := by
  rintro ⟨x39, x40⟩
  unfold f_narthexref12_Table_l2 m_narthexref12_Table_l2
  try dsimp only
  repeat' first | with_reducible exact ole_refl _ | assumption | intro _ | with_reducible refine ole_ifb ?_ ?_ | with_reducible refine ole_bind ?_ ?_ | with_reducible refine ole_map ?_ | with_reducible refine ole_loop ?_ | with_reducible apply le_narthexref12_Table_j1 | with_reducible apply le_narthexref12_Table_j2 | with_reducible apply le_narthexref12_Table_j3 | with_reducible apply le_narthexref12_Table_j4 | with_reducible apply le_narthexref03_Has
def f_narthexref12_Table_l1 (F : Nat) (x1 : Graph) (x2 : (List Int)) : (Int × (List Diner)) → Option ((Int × (List Diner)) ⊕ (List Diner))
| (x29, x30) =>
 ifb (decide (x29 < x1.N)) (
 loopF F (f_narthexref12_Table_l2 F x1 x2 x29 x30) (0, ([] : List Side))) (
 Option.map Sum.inr (f_narthexref12_Table_j1 F x30))
theorem le_narthexref12_Table_l1 {F : Nat} {x1 : Graph} {x2 : (List Int)} : ∀ s, ole (f_narthexref12_Table_l1 F x1 x2 s) (m_narthexref12_Table_l1 x1 x2 s) := by
  rintro ⟨x29, x30⟩
  unfold f_narthexref12_Table_l1 m_narthexref12_Table_l1
  try dsimp only
  repeat' first | with_reducible exact ole_refl _ | assumption | intro _ | with_reducible refine ole_ifb ?_ ?_ | with_reducible refine ole_bind ?_ ?_ | with_reducible refine ole_map ?_ | with_reducible refine ole_loop ?_ | with_reducible apply le_narthexref12_Table_j1 | with_reducible apply le_narthexref12_Table_j2 | with_reducible apply le_narthexref12_Table_j3 | with_reducible apply le_narthexref12_Table_j4 | with_reducible apply le_narthexref03_Has | with_reducible apply le_narthexref12_Table_l2
def f_narthexref12_Table (F : Nat) (x1 : Graph) (x2 : (List Int)) : Option (List Diner) :=
 loopF F (f_narthexref12_Table_l1 F x1 x2) (0, ([] : List Diner))
theorem le_narthexref12_Table {F : Nat} {x1 : Graph} {x2 : (List Int)} : ole (f_narthexref12_Table F x1 x2) (m_narthexref12_Table x1 x2) := by
  unfold f_narthexref12_Table m_narthexref12_Table
  repeat' first | with_reducible exact ole_refl _ | assumption | intro _ | with_reducible refine ole_ifb ?_ ?_ | with_reducible refine ole_bind ?_ ?_ | with_reducible refine ole_map ?_ | with_reducible refine ole_loop ?_ | with_reducible apply le_narthexref12_Table_j1 | with_reducible apply le_narthexref12_Table_j2 | with_reducible apply le_narthexref12_Table_j3 | with_reducible apply le_narthexref12_Table_j4 | with_reducible apply le_narthexref03_Has | with_reducible apply le_narthexref12_Table_l2 | with_reducible apply le_narthexref12_Table_l1
end NX
end Go.Proofs.Ytadebhbiglmodaa
/-
  The function narthex/narthexlaw12.PlaceTables: its code compiled, a model, and that the code answers as the model. Written by a program of ours (lb.py). No statement of the seat is proved here.
-/
namespace Go.Proofs.Ytadebhbiglmodaa
namespace NX
open Go
set_option maxRecDepth 100000
set_option maxHeartbeats 4000000
def e_narthexlaw12_PlaceTables : EC := .seq (.reg [⟨(some 2), none, .box 24 2 (.t 0)⟩, ⟨(some 4), none, .mv (.c .ff)⟩]) (.seq (.seq (.reg [⟨(some 7), none, .call 13 []⟩, ⟨(some 8), none, .not (.t 7)⟩, ⟨(some 9), none, .mv (.t 8)⟩, ⟨(some 10), (some (9, false)), .fld 1 (.t 2)⟩, ⟨(some 11), (some (9, false)), .load (.t 10)⟩, ⟨(some 12), (some (9, false)), .len (.t 11)⟩, ⟨(some 13), (some (9, false)), .bin .gtr (.t 12) (.c (.iv 60))⟩, ⟨(some 14), none, .pick (.t 9) (.c .tt) (.t 13)⟩, ⟨(some 15), none, .mv (.t 14)⟩, ⟨(some 16), (some (15, false)), .mv (.t 1)⟩, ⟨(some 17), (some (15, false)), .len (.t 16)⟩, ⟨(some 18), (some (15, false)), .bin .gtr (.t 17) (.c (.iv 70))⟩, ⟨(some 19), none, .pick (.t 15) (.c .tt) (.t 18)⟩]) (.ite (.t 19) (.seq (.reg [⟨(some 20), none, .call 13 []⟩, ⟨(some 4), none, .mv (.t 20)⟩]) (.ret)) (.skip))) (.seq (.reg [⟨(some 22), none, .loadA 2 (.t 2)⟩, ⟨(some 23), none, .call 15 [(.t 22)]⟩, ⟨(some 24), none, .bsl 3 1 0 [.iv 0] []⟩, ⟨(some 25), none, .mv (.t 1)⟩, ⟨(some 26), none, .app 3 1 8 (.t 24) (.t 25)⟩, ⟨(some 27), none, .call 14 [(.t 23), (.t 26)]⟩, ⟨(some 21), none, .mv (.t 27)⟩, ⟨(some 28), none, .ext (.t 21) 0⟩, ⟨(some 29), none, .ext (.t 21) 1⟩, ⟨(some 5), none, .mv (.t 28)⟩, ⟨(some 6), none, .mv (.t 29)⟩]) (.seq (.seq (.reg [⟨(some 30), none, .loadA 2 (.t 2)⟩, ⟨(some 31), none, .call 16 [(.t 30)]⟩, ⟨(some 32), none, .not (.t 31)⟩]) (.ite (.t 32) (.seq (.reg [⟨(some 33), none, .mv (.t 5)⟩, ⟨(some 34), none, .len (.t 33)⟩, ⟨(some 35), none, .bin .eql (.t 34) (.c (.iv 0))⟩, ⟨(some 36), none, .mv (.t 35)⟩, ⟨(some 37), (some (36, true)), .mv (.t 6)⟩, ⟨(some 38), (some (36, true)), .bin .eql (.t 37) (.c (.iv 30))⟩, ⟨(some 39), none, .pick (.t 36) (.t 38) (.c .ff)⟩, ⟨(some 4), none, .mv (.t 39)⟩]) (.ret)) (.skip))) (.seq (.seq (.reg [⟨(some 40), none, .loadA 2 (.t 2)⟩, ⟨(some 41), none, .mv (.t 1)⟩, ⟨(some 42), none, .call 17 [(.t 40), (.t 41)]⟩, ⟨(some 43), none, .not (.t 42)⟩]) (.ite (.t 43) (.seq (.reg [⟨(some 44), none, .mv (.t 5)⟩, ⟨(some 45), none, .len (.t 44)⟩, ⟨(some 46), none, .bin .eql (.t 45) (.c (.iv 0))⟩, ⟨(some 47), none, .mv (.t 46)⟩, ⟨(some 48), (some (47, true)), .mv (.t 6)⟩, ⟨(some 49), (some (47, true)), .bin .eql (.t 48) (.c (.iv 120))⟩, ⟨(some 50), none, .pick (.t 47) (.t 49) (.c .ff)⟩, ⟨(some 4), none, .mv (.t 50)⟩]) (.ret)) (.skip))) (.seq (.reg [⟨(some 51), none, .mv (.t 5)⟩, ⟨(some 52), none, .loadA 2 (.t 2)⟩, ⟨(some 53), none, .mv (.t 1)⟩, ⟨(some 54), none, .call 19 [(.t 52), (.t 53)]⟩, ⟨(some 55), none, .call 18 [(.t 51), (.t 54)]⟩, ⟨(some 56), none, .mv (.t 55)⟩, ⟨(some 57), (some (56, true)), .mv (.t 6)⟩, ⟨(some 58), (some (56, true)), .bin .eql (.t 57) (.c (.iv 0))⟩, ⟨(some 59), none, .pick (.t 56) (.t 58) (.c .ff)⟩, ⟨(some 4), none, .mv (.t 59)⟩]) (.ret))))))
theorem ok_narthexlaw12_PlaceTables : FnOK Try.prog 3 Try.f3 e_narthexlaw12_PlaceTables [.t 4] 2 58 := ⟨by kernel_rfl, ⟨_, rfl, by kernel_rfl⟩, by kernel_rfl, by kernel_rfl⟩
/- narthex/narthexlaw12.PlaceTables -/
noncomputable def m_narthexlaw12_PlaceTables_j2  : Bool → Option Bool
| x10 =>
 some x10
noncomputable def m_narthexlaw12_PlaceTables_j3  : Bool → Option Bool
| x12 =>
 some x12
noncomputable def m_narthexlaw12_PlaceTables_j4  : Bool → Option Bool
| x15 =>
 some x15
noncomputable def m_narthexlaw12_PlaceTables_j1 (x1 : Graph) (x2 : (List Int)) : Bool → Option Bool
| x4 =>
 ifb x4 (
 (m_narthexlaw12_awake).bind fun x5 =>
 some x5) (
 (m_narthexlaw03_Own x1).bind fun x6 =>
 (app_ 8 (([] : List Int)) x2).bind fun x7 =>
 (m_place_Table x6 x7).bind fun x8 =>
 (m_narthexref03_Check x1).bind fun x9 =>
 ifb (!x9) (
 ifb (decide ((ln Diner.row x8.1) = 0)) (
 m_narthexlaw12_PlaceTables_j2 (decide (x8.2 = 30))) (
 m_narthexlaw12_PlaceTables_j2 false)) (
 (m_narthexref11_Right x1 x2).bind fun x11 =>
 ifb (!x11) (
 ifb (decide ((ln Diner.row x8.1) = 0)) (
 m_narthexlaw12_PlaceTables_j3 (decide (x8.2 = 120))) (
 m_narthexlaw12_PlaceTables_j3 false)) (
 (m_narthexref12_Table x1 x2).bind fun x13 =>
 (m_narthexref12_Same x8.1 x13).bind fun x14 =>
 ifb x14 (
 m_narthexlaw12_PlaceTables_j4 (decide (x8.2 = 0))) (
 m_narthexlaw12_PlaceTables_j4 false))))
noncomputable def m_narthexlaw12_PlaceTables (x1 : Graph) (x2 : (List Int)) : Option Bool :=
 (m_narthexlaw12_awake).bind fun x3 =>
 ifb (!x3) (
 (m_narthexlaw12_PlaceTables_j1 x1 x2) true) (
 ifb (decide (60 < (ln Edge.row x1.Edges))) (
 (m_narthexlaw12_PlaceTables_j1 x1 x2) true) (
 (m_narthexlaw12_PlaceTables_j1 x1 x2) (decide (70 < (ln intRow x2)))))
theorem k_narthexlaw12_PlaceTables (x1 : Graph) (x2 : (List Int)) (r : Bool) (h : m_narthexlaw12_PlaceTables x1 x2 = some r) : FunP Try.prog 3 [.agg (Graph.row x1), .sl 1 (List.map intRow x2)] (.bv r) := by
  refine FunP_intro ok_narthexlaw12_PlaceTables rfl rfl fun w0 H0 => ?_
  rw [m_narthexlaw12_PlaceTables] at h
  refine V_go 8 ?_
  dsimp only [e_narthexlaw12_PlaceTables, go_sem, Nat.reduceBEq, Nat.reduceAdd]
  refine ⟨by simp, ?_⟩
  obtain ⟨x3, ex3, h⟩ := Option.bind_eq_some_iff.1 h
  refine V_call trivial (k_narthexlaw12_awake _ ex3) (by first | exact leL_refl _ | simp [go_sem]) (by first | rfl | simp [go_sem]) ?_
  refine V_go 2 ?_
  dsimp only [e_narthexlaw12_PlaceTables, go_sem, Nat.reduceBEq, Nat.reduceAdd]
  refine ⟨by simp, ?_⟩
  refine V_join (fun (x4 : Bool) => (⟨(.any :: .sl 1 (List.map intRow x2) :: .ptr 0 0 :: an 16 (.bv x4 :: an 40 [])), [some ⟨24, [.iv x1.N, .sl 2 (List.map Edge.row x1.Edges)]⟩], []⟩ : St)) (m_narthexlaw12_PlaceTables_j1 x1 x2) r ?_ fun J1 => ?_
  · intro x4 h
    rw [m_narthexlaw12_PlaceTables_j1] at h
    try dsimp only
    refine M_ite h rfl (fun hb h => ?_) (fun hb h => ?_)
    · refine V_go 2 ?_
      dsimp only [e_narthexlaw12_PlaceTables, go_sem, Nat.reduceBEq, Nat.reduceAdd]
      refine ⟨by simp, ?_⟩
      obtain ⟨x5, ex5, h⟩ := Option.bind_eq_some_iff.1 h
      refine V_call trivial (k_narthexlaw12_awake _ ex5) (by first | exact leL_refl _ | simp [go_sem]) (by first | rfl | simp [go_sem]) ?_
      refine V_go 2 ?_
      dsimp only [e_narthexlaw12_PlaceTables, go_sem, Nat.reduceBEq, Nat.reduceAdd]
      refine ⟨by simp, ?_⟩
      exact M_done (res := fun (r : Bool) => .bv r) ok_narthexlaw12_PlaceTables h (by first | exact le_refl _ | simp [go_sem])
    · refine V_go 4 ?_
      dsimp only [e_narthexlaw12_PlaceTables, go_sem, Nat.reduceBEq, Nat.reduceAdd]
      refine ⟨by simp, ?_⟩
      obtain ⟨x6, ex6, h⟩ := Option.bind_eq_some_iff.1 h
      refine V_call trivial (k_narthexlaw03_Own x1 _ ex6) (by first | exact leL_refl _ | simp [go_sem]) (by first | rfl | simp [go_sem]) ?_
      refine V_go 2 ?_
      dsimp only [e_narthexlaw12_PlaceTables, go_sem, Nat.reduceBEq, Nat.reduceAdd]
      refine ⟨by simp, ?_⟩
      obtain ⟨x7, ex7, h⟩ := Option.bind_eq_some_iff.1 h
      refine V_appM intRow ex7 trivial rfl rfl rfl ?_
      refine V_seal 1 rfl ?_
      dsimp only [go_sem, Nat.reduceBEq, Nat.reduceAdd]
      obtain ⟨x8, ex8, h⟩ := Option.bind_eq_some_iff.1 h
      refine V_call trivial (k_place_Table x6 x7 _ ex8) (by first | exact leL_refl _ | simp [go_sem]) (by first | rfl | simp [go_sem]) ?_
      refine V_go 10 ?_
      dsimp only [e_narthexlaw12_PlaceTables, go_sem, Nat.reduceBEq, Nat.reduceAdd]
      refine ⟨by simp, ?_⟩
      obtain ⟨x9, ex9, h⟩ := Option.bind_eq_some_iff.1 h
      refine V_call trivial (k_narthexref03_Check x1 _ ex9) (by first | exact leL_refl _ | simp [go_sem]) (by first | rfl | simp [go_sem]) ?_
      refine V_go 2 ?_
      dsimp only [e_narthexlaw12_PlaceTables, go_sem, Nat.reduceBEq, Nat.reduceAdd]
      refine ⟨by simp, ?_⟩
      refine M_ite h rfl (fun hb h => ?_) (fun hb h => ?_)
      · refine V_go 6 ?_
        dsimp only [e_narthexlaw12_PlaceTables, go_sem, Nat.reduceBEq, Nat.reduceAdd]
        refine ⟨by simp, ?_⟩
        refine V_join (fun (x10 : Bool) => (⟨(an 4 (.bv x10 :: an 55 [])), [], []⟩ : St)) m_narthexlaw12_PlaceTables_j2 r ?_ fun J2 => ?_
        · intro x10 h
          rw [m_narthexlaw12_PlaceTables_j2] at h
          try dsimp only
          exact M_done (res := fun (r : Bool) => .bv r) ok_narthexlaw12_PlaceTables h (by first | exact le_refl _ | simp [go_sem])
        · refine M_case 36 h rfl (fun hb h => ?_) (fun hb h => ?_)
          · dsimp only [go_sem, Nat.reduceBEq, Nat.reduceAdd]
            refine V_go 5 ?_
            dsimp only [e_narthexlaw12_PlaceTables, go_sem, Nat.reduceBEq, Nat.reduceAdd]
            refine ⟨by simp, ?_⟩
            exact M_to J2 (s := decide (x8.2 = 30)) h (by simp [go_sem]) (by first | rfl | simp [go_sem])
          · dsimp only [go_sem, Nat.reduceBEq, Nat.reduceAdd]
            refine V_go 5 ?_
            dsimp only [e_narthexlaw12_PlaceTables, go_sem, Nat.reduceBEq, Nat.reduceAdd]
            refine ⟨by simp, ?_⟩
            exact M_to J2 (s := false) h (by simp [go_sem]) (by first | rfl | simp [go_sem])
      · refine V_go 6 ?_
        dsimp only [e_narthexlaw12_PlaceTables, go_sem, Nat.reduceBEq, Nat.reduceAdd]
        refine ⟨by simp, ?_⟩
        obtain ⟨x11, ex11, h⟩ := Option.bind_eq_some_iff.1 h
        refine V_call trivial (k_narthexref11_Right x1 x2 _ ex11) (by first | exact leL_refl _ | simp [go_sem]) (by first | rfl | simp [go_sem]) ?_
        refine V_go 2 ?_
        dsimp only [e_narthexlaw12_PlaceTables, go_sem, Nat.reduceBEq, Nat.reduceAdd]
        refine ⟨by simp, ?_⟩
        refine M_ite h rfl (fun hb h => ?_) (fun hb h => ?_)
        · refine V_go 6 ?_
          dsimp only [e_narthexlaw12_PlaceTables, go_sem, Nat.reduceBEq, Nat.reduceAdd]
          refine ⟨by simp, ?_⟩
          refine V_join (fun (x12 : Bool) => (⟨(an 4 (.bv x12 :: an 55 [])), [], []⟩ : St)) m_narthexlaw12_PlaceTables_j3 r ?_ fun J3 => ?_
          · intro x12 h
            rw [m_narthexlaw12_PlaceTables_j3] at h
            try dsimp only
            exact M_done (res := fun (r : Bool) => .bv r) ok_narthexlaw12_PlaceTables h (by first | exact le_refl _ | simp [go_sem])
          · refine M_case 47 h rfl (fun hb h => ?_) (fun hb h => ?_)
            · dsimp only [go_sem, Nat.reduceBEq, Nat.reduceAdd]
              refine V_go 5 ?_
              dsimp only [e_narthexlaw12_PlaceTables, go_sem, Nat.reduceBEq, Nat.reduceAdd]
              refine ⟨by simp, ?_⟩
              exact M_to J3 (s := decide (x8.2 = 120)) h (by simp [go_sem]) (by first | rfl | simp [go_sem])
            · dsimp only [go_sem, Nat.reduceBEq, Nat.reduceAdd]
              refine V_go 5 ?_
              dsimp only [e_narthexlaw12_PlaceTables, go_sem, Nat.reduceBEq, Nat.reduceAdd]
              refine ⟨by simp, ?_⟩
              exact M_to J3 (s := false) h (by simp [go_sem]) (by first | rfl | simp [go_sem])
        · refine V_go 6 ?_
          dsimp only [e_narthexlaw12_PlaceTables, go_sem, Nat.reduceBEq, Nat.reduceAdd]
          refine ⟨by simp, ?_⟩
          obtain ⟨x13, ex13, h⟩ := Option.bind_eq_some_iff.1 h
          refine V_call trivial (k_narthexref12_Table x1 x2 _ ex13) (by first | exact leL_refl _ | simp [go_sem]) (by first | rfl | simp [go_sem]) ?_
          obtain ⟨x14, ex14, h⟩ := Option.bind_eq_some_iff.1 h
          refine V_call trivial (k_narthexref12_Same x8.1 x13 _ ex14) (by first | exact leL_refl _ | simp [go_sem]) (by first | rfl | simp [go_sem]) ?_
          refine V_go 1 ?_
          dsimp only [e_narthexlaw12_PlaceTables, go_sem, Nat.reduceBEq, Nat.reduceAdd]
          refine ⟨by simp, ?_⟩
          refine V_join (fun (x15 : Bool) => (⟨(an 4 (.bv x15 :: an 55 [])), [], []⟩ : St)) m_narthexlaw12_PlaceTables_j4 r ?_ fun J4 => ?_
          · intro x15 h
            rw [m_narthexlaw12_PlaceTables_j4] at h
            try dsimp only
            exact M_done (res := fun (r : Bool) => .bv r) ok_narthexlaw12_PlaceTables h (by first | exact le_refl _ | simp [go_sem])
          · refine M_case 56 h rfl (fun hb h => ?_) (fun hb h => ?_)
            · dsimp only [go_sem, Nat.reduceBEq, Nat.reduceAdd]
              refine V_go 5 ?_
              dsimp only [e_narthexlaw12_PlaceTables, go_sem, Nat.reduceBEq, Nat.reduceAdd]
              refine ⟨by simp, ?_⟩
              exact M_to J4 (s := decide (x8.2 = 0)) h (by simp [go_sem]) (by first | rfl | simp [go_sem])
            · dsimp only [go_sem, Nat.reduceBEq, Nat.reduceAdd]
              refine V_go 5 ?_
              dsimp only [e_narthexlaw12_PlaceTables, go_sem, Nat.reduceBEq, Nat.reduceAdd]
              refine ⟨by simp, ?_⟩
              exact M_to J4 (s := false) h (by simp [go_sem]) (by first | rfl | simp [go_sem])
  · refine M_case 9 h rfl (fun hb h => ?_) (fun hb h => ?_)
    · dsimp only [go_sem, Nat.reduceBEq, Nat.reduceAdd]
      refine V_go 11 ?_
      dsimp only [e_narthexlaw12_PlaceTables, go_sem, Nat.reduceBEq, Nat.reduceAdd]
      refine ⟨by simp, ?_⟩
      exact M_to J1 (s := true) h (by simp [go_sem]) (by first | rfl | simp [go_sem])
    · dsimp only [go_sem, Nat.reduceBEq, Nat.reduceAdd]
      refine V_go 6 ?_
      dsimp only [e_narthexlaw12_PlaceTables, go_sem, Nat.reduceBEq, Nat.reduceAdd]
      refine ⟨by simp, ?_⟩
      refine M_case 15 h rfl (fun hb h => ?_) (fun hb h => ?_)
      · dsimp only [go_sem, Nat.reduceBEq, Nat.reduceAdd]
        refine V_go 5 ?_
        dsimp only [e_narthexlaw12_PlaceTables, go_sem, Nat.reduceBEq, Nat.reduceAdd]
        refine ⟨by simp, ?_⟩
        exact M_to J1 (s := true) h (by simp [go_sem]) (by first | rfl | simp [go_sem])
      · dsimp only [go_sem, Nat.reduceBEq, Nat.reduceAdd]
        refine V_go 5 ?_
        dsimp only [e_narthexlaw12_PlaceTables, go_sem, Nat.reduceBEq, Nat.reduceAdd]
        refine ⟨by simp, ?_⟩
        exact M_to J1 (s := decide (70 < (ln intRow x2))) h (by simp [go_sem]) (by first | rfl | simp [go_sem])
def f_narthexlaw12_PlaceTables_j2 (F : Nat)  : Bool → Option Bool
| x10 =>
 some x10
theorem le_narthexlaw12_PlaceTables_j2 {F : Nat} : ∀ s, ole (f_narthexlaw12_PlaceTables_j2 F s) (m_narthexlaw12_PlaceTables_j2 s) := by
  intro x10
  unfold f_narthexlaw12_PlaceTables_j2 m_narthexlaw12_PlaceTables_j2
  try dsimp only
  repeat' first | with_reducible exact ole_refl _ | assumption | intro _ | with_reducible refine ole_ifb ?_ ?_ | with_reducible refine ole_bind ?_ ?_ | with_reducible refine ole_map ?_ | with_reducible refine ole_loop ?_
def f_narthexlaw12_PlaceTables_j3 (F : Nat)  : Bool → Option Bool
| x12 =>
 some x12
theorem le_narthexlaw12_PlaceTables_j3 {F : Nat} : ∀ s, ole (f_narthexlaw12_PlaceTables_j3 F s) (m_narthexlaw12_PlaceTables_j3 s) := by
  intro x12
  unfold f_narthexlaw12_PlaceTables_j3 m_narthexlaw12_PlaceTables_j3
  try dsimp only
  repeat' first | with_reducible exact ole_refl _ | assumption | intro _ | with_reducible refine ole_ifb ?_ ?_ | with_reducible refine ole_bind ?_ ?_ | with_reducible refine ole_map ?_ | with_reducible refine ole_loop ?_ | with_reducible apply le_narthexlaw12_PlaceTables_j2
def f_narthexlaw12_PlaceTables_j4 (F : Nat)  : Bool → Option Bool
| x15 =>
 some x15
theorem le_narthexlaw12_PlaceTables_j4 {F : Nat} : ∀ s, ole (f_narthexlaw12_PlaceTables_j4 F s) (m_narthexlaw12_PlaceTables_j4 s) := by
  intro x15
  unfold f_narthexlaw12_PlaceTables_j4 m_narthexlaw12_PlaceTables_j4
  try dsimp only
  repeat' first | with_reducible exact ole_refl _ | assumption | intro _ | with_reducible refine ole_ifb ?_ ?_ | with_reducible refine ole_bind ?_ ?_ | with_reducible refine ole_map ?_ | with_reducible refine ole_loop ?_ | with_reducible apply le_narthexlaw12_PlaceTables_j2 | with_reducible apply le_narthexlaw12_PlaceTables_j3
def f_narthexlaw12_PlaceTables_j1 (F : Nat) (x1 : Graph) (x2 : (List Int)) : Bool → Option Bool
| x4 =>
 ifb x4 (
 (f_narthexlaw12_awake F).bind fun x5 =>
 some x5) (
 (f_narthexlaw03_Own F x1).bind fun x6 =>
 (app_ 8 (([] : List Int)) x2).bind fun x7 =>
 (f_place_Table F x6 x7).bind fun x8 =>
 (f_narthexref03_Check F x1).bind fun x9 =>
 ifb (!x9) (
 ifb (decide ((ln Diner.row x8.1) = 0)) (
 f_narthexlaw12_PlaceTables_j2 F (decide (x8.2 = 30))) (
 f_narthexlaw12_PlaceTables_j2 F false)) (
 (f_narthexref11_Right F x1 x2).bind fun x11 =>
 ifb (!x11) (
 ifb (decide ((ln Diner.row x8.1) = 0)) (
 f_narthexlaw12_PlaceTables_j3 F (decide (x8.2 = 120))) (
 f_narthexlaw12_PlaceTables_j3 F false)) (
 (f_narthexref12_Table F x1 x2).bind fun x13 =>
 (f_narthexref12_Same F x8.1 x13).bind fun x14 =>
 ifb x14 (
 f_narthexlaw12_PlaceTables_j4 F (decide (x8.2 = 0))) (
 f_narthexlaw12_PlaceTables_j4 F false))))
theorem le_narthexlaw12_PlaceTables_j1 {F : Nat} {x1 : Graph} {x2 : (List Int)} : ∀ s, ole (f_narthexlaw12_PlaceTables_j1 F x1 x2 s) (m_narthexlaw12_PlaceTables_j1 x1 x2 s) := by
  intro x4
  unfold f_narthexlaw12_PlaceTables_j1 m_narthexlaw12_PlaceTables_j1
  try dsimp only
  repeat' first | with_reducible exact ole_refl _ | assumption | intro _ | with_reducible refine ole_ifb ?_ ?_ | with_reducible refine ole_bind ?_ ?_ | with_reducible refine ole_map ?_ | with_reducible refine ole_loop ?_ | with_reducible apply le_narthexlaw12_PlaceTables_j2 | with_reducible apply le_narthexlaw12_PlaceTables_j3 | with_reducible apply le_narthexlaw12_PlaceTables_j4 | with_reducible apply le_narthexlaw12_awake | with_reducible apply le_narthexlaw03_Own | with_reducible apply le_place_Table | with_reducible apply le_narthexref03_Check | with_reducible apply le_narthexref11_Right | with_reducible apply le_narthexref12_Table | with_reducible apply le_narthexref12_Same
def f_narthexlaw12_PlaceTables (F : Nat) (x1 : Graph) (x2 : (List Int)) : Option Bool :=
 (f_narthexlaw12_awake F).bind fun x3 =>
 ifb (!x3) (
 (f_narthexlaw12_PlaceTables_j1 F x1 x2) true) (
 ifb (decide (60 < (ln Edge.row x1.Edges))) (
 (f_narthexlaw12_PlaceTables_j1 F x1 x2) true) (
 (f_narthexlaw12_PlaceTables_j1 F x1 x2) (decide (70 < (ln intRow x2)))))
theorem le_narthexlaw12_PlaceTables {F : Nat} {x1 : Graph} {x2 : (List Int)} : ole (f_narthexlaw12_PlaceTables F x1 x2) (m_narthexlaw12_PlaceTables x1 x2) := by
  unfold f_narthexlaw12_PlaceTables m_narthexlaw12_PlaceTables
  repeat' first | with_reducible exact ole_refl _ | assumption | intro _ | with_reducible refine ole_ifb ?_ ?_ | with_reducible refine ole_bind ?_ ?_ | with_reducible refine ole_map ?_ | with_reducible refine ole_loop ?_ | with_reducible apply le_narthexlaw12_PlaceTables_j2 | with_reducible apply le_narthexlaw12_PlaceTables_j3 | with_reducible apply le_narthexlaw12_PlaceTables_j4 | with_reducible apply le_narthexlaw12_awake | with_reducible apply le_narthexlaw03_Own | with_reducible apply le_place_Table | with_reducible apply le_narthexref03_Check | with_reducible apply le_narthexref11_Right | with_reducible apply le_narthexref12_Table | with_reducible apply le_narthexref12_Same | with_reducible apply le_narthexlaw12_PlaceTables_j1
end NX
end Go.Proofs.Ytadebhbiglmodaa
