/-
  The function narthex/place.Graph: its code compiled, a model, and that the code answers as the model. Written by a program of ours (lb.py). No statement of the seat is proved here.
-/
import Derived.KernelRfl
import Derived.Test.YtadebhbiglmodaaQ2
namespace Go.Proofs.Ytadebhbiglmodaa
namespace NX
open Go
set_option maxRecDepth 100000
set_option maxHeartbeats 4000000
def e21_L1 : EC := .seq (.reg [⟨(some 34), none, .bin .lss (.t 33) (.t 32)⟩]) (.seq (.ite (.t 34) (.skip) (.exit 2)) (.seq (.blk 3 (.seq (.reg [⟨(some 35), none, .mv (.t 33)⟩, ⟨(some 36), none, .idx 8 (.t 31) (.t 33)⟩, ⟨(some 37), none, .loadA 8 (.t 36)⟩, ⟨(some 8), none, .alloc 49 [.iv 0, .iv 0, .iv 0, .ff, .ff, .ff, .ff, .ff]⟩, ⟨(some 7), none, .mv (.t 35)⟩, ⟨none, none, .store 8 (.t 8) (.t 37)⟩]) (.seq (.seq (.drw [⟨(some 38), none, .fld 0 (.t 8)⟩, ⟨(some 39), none, .load (.t 38)⟩, ⟨(some 40), none, .bin .lss (.t 39) (.c (.iv 0))⟩, ⟨(some 41), none, .mv (.t 40)⟩, ⟨(some 42), (some (41, false)), .fld 0 (.t 8)⟩, ⟨(some 43), (some (41, false)), .load (.t 42)⟩, ⟨(some 44), (some (41, false)), .mv (.t 0)⟩, ⟨(some 45), (some (41, false)), .len (.t 44)⟩, ⟨(some 46), (some (41, false)), .bin .geq (.t 43) (.t 45)⟩, ⟨(some 47), none, .pick (.t 41) (.c .tt) (.t 46)⟩, ⟨(some 48), none, .mv (.t 47)⟩, ⟨(some 49), (some (48, false)), .fld 0 (.t 8)⟩, ⟨(some 50), (some (48, false)), .load (.t 49)⟩, ⟨(some 51), (some (48, false)), .mv (.t 5)⟩, ⟨(some 52), (some (48, false)), .bin .eql (.t 50) (.t 51)⟩, ⟨(some 53), none, .pick (.t 48) (.c .tt) (.t 52)⟩, ⟨(some 54), none, .mv (.t 53)⟩, ⟨(some 55), (some (54, false)), .mv (.t 7)⟩, ⟨(some 56), (some (54, false)), .bin .gtr (.t 55) (.c (.iv 0))⟩, ⟨(some 57), (some (54, false)), .mv (.t 56)⟩, ⟨(some 58), (some (57, true)), .fld 2 (.t 6)⟩, ⟨(some 59), (some (57, true)), .load (.t 58)⟩, ⟨(some 60), (some (57, true)), .mv (.t 7)⟩, ⟨(some 61), (some (57, true)), .bin .sub (.t 60) (.c (.iv 1))⟩, ⟨(some 62), (some (57, true)), .idx 8 (.t 59) (.t 61)⟩, ⟨(some 63), (some (57, true)), .fld 0 (.t 62)⟩, ⟨(some 64), (some (57, true)), .load (.t 63)⟩, ⟨(some 65), (some (57, true)), .fld 0 (.t 8)⟩, ⟨(some 66), (some (57, true)), .load (.t 65)⟩, ⟨(some 67), (some (57, true)), .bin .geq (.t 64) (.t 66)⟩, ⟨(some 68), (some (54, false)), .pick (.t 57) (.t 67) (.c .ff)⟩, ⟨(some 69), none, .pick (.t 54) (.c .tt) (.t 68)⟩] [[], [0], [1], [2], [3], [4, 3], [3], [6, 3], [5, 7, 3], [3, 8], [9, 3], [10], [11, 10], [10], [12, 13, 10], [10, 14], [15, 10], [16], [17, 16], [18, 16, 16], [19], [20, 19], [19], [22, 19], [21, 23, 19], [24, 19], [25, 19], [19], [27, 19], [26, 28, 19], [19, 29, 16], [16, 30]] [[1], [0, 2], [1, 3], [2, 4, 5, 6, 7, 8, 9], [3, 5], [3, 4, 8], [3, 7], [3, 6, 8], [3, 5, 7, 9], [3, 8, 10], [9, 11, 12, 13, 14, 15], [10, 12], [10, 11, 14], [10, 14], [10, 12, 13, 15], [10, 14, 16], [15, 17, 18, 19, 30, 31], [16, 18], [16, 17, 19], [16, 18, 20, 21, 22, 23, 24, 25, 26, 27, 28, 29, 30], [19, 21], [19, 20, 24], [19, 23], [19, 22, 24], [19, 21, 23, 25], [19, 24, 26], [19, 25, 29], [19, 28], [19, 27, 29], [19, 26, 28, 30], [16, 19, 29, 31], [16, 30]]) (.ite (.t 69) (.seq (.reg [⟨(some 70), none, .build [.iv 0, .nl] []⟩, ⟨none, none, .store 2 (.t 2) (.t 70)⟩, ⟨(some 3), none, .mv (.c .ff)⟩]) (.ret)) (.skip))) (.seq (.seq (.reg [⟨(some 72), none, .mv (.t 0)⟩, ⟨(some 73), none, .fld 0 (.t 8)⟩, ⟨(some 74), none, .load (.t 73)⟩, ⟨(some 75), none, .idx 3 (.t 72) (.t 74)⟩, ⟨(some 76), none, .loadA 3 (.t 75)⟩, ⟨(some 77), none, .mv (.t 5)⟩, ⟨(some 78), none, .call 24 [(.t 76), (.t 77)]⟩, ⟨(some 71), none, .mv (.t 78)⟩, ⟨(some 79), none, .ext (.t 71) 0⟩, ⟨(some 80), none, .ext (.t 71) 1⟩, ⟨(some 9), none, .alloc 49 [.iv 0, .iv 0, .iv 0, .ff, .ff, .ff, .ff, .ff]⟩, ⟨none, none, .store 8 (.t 9) (.t 79)⟩, ⟨(some 10), none, .mv (.t 80)⟩]) (.seq (.reg [⟨(some 81), none, .mv (.t 10)⟩, ⟨(some 82), none, .not (.t 81)⟩]) (.ite (.t 82) (.seq (.reg [⟨(some 83), none, .build [.iv 0, .nl] []⟩, ⟨none, none, .store 2 (.t 2) (.t 83)⟩, ⟨(some 3), none, .mv (.c .ff)⟩]) (.ret)) (.skip)))) (.seq (.reg [⟨(some 84), none, .mv (.t 5)⟩, ⟨(some 85), none, .fld 0 (.t 8)⟩, ⟨(some 86), none, .load (.t 85)⟩, ⟨(some 87), none, .bin .lss (.t 84) (.t 86)⟩]) (.ite (.t 87) (.reg [⟨(some 88), none, .fld 1 (.t 4)⟩, ⟨(some 89), none, .load (.t 88)⟩, ⟨(some 90), none, .mv (.t 5)⟩, ⟨(some 91), none, .fld 0 (.t 8)⟩, ⟨(some 92), none, .load (.t 91)⟩, ⟨(some 93), none, .build [.iv 0, .iv 0] [(0, 1, (.t 90)), (1, 1, (.t 92))]⟩, ⟨(some 94), none, .bsl 58 2 1 [.iv 0, .iv 0] [(0, (.t 93))]⟩, ⟨(some 95), none, .app 58 2 16 (.t 89) (.t 94)⟩, ⟨(some 96), none, .fld 1 (.t 4)⟩, ⟨none, none, .store 1 (.t 96) (.t 95)⟩]) (.skip))))))) (.reg [⟨(some 97), none, .bin .add (.t 33) (.c (.iv 1))⟩, ⟨(some 33), none, .mv (.t 97)⟩])))
def e21_L0 : EC := .seq (.reg [⟨(some 21), none, .bin .lss (.t 20) (.t 19)⟩]) (.seq (.ite (.t 21) (.skip) (.exit 0)) (.seq (.blk 1 (.seq (.reg [⟨(some 22), none, .mv (.t 20)⟩, ⟨(some 23), none, .idx 3 (.t 18) (.t 20)⟩, ⟨(some 24), none, .loadA 3 (.t 23)⟩, ⟨(some 6), none, .alloc 39 [.iv 0, .iv 0, .nl]⟩, ⟨(some 5), none, .mv (.t 22)⟩, ⟨none, none, .store 3 (.t 6) (.t 24)⟩]) (.seq (.seq (.reg [⟨(some 25), none, .fld 0 (.t 6)⟩, ⟨(some 26), none, .load (.t 25)⟩, ⟨(some 27), none, .mv (.t 5)⟩, ⟨(some 28), none, .bin .neq (.t 26) (.t 27)⟩]) (.ite (.t 28) (.seq (.reg [⟨(some 29), none, .build [.iv 0, .nl] []⟩, ⟨none, none, .store 2 (.t 2) (.t 29)⟩, ⟨(some 3), none, .mv (.c .ff)⟩]) (.ret)) (.skip))) (.seq (.reg [⟨(some 30), none, .fld 2 (.t 6)⟩, ⟨(some 31), none, .load (.t 30)⟩, ⟨(some 32), none, .len (.t 31)⟩, ⟨(some 33), none, .mv (.c (.iv 0))⟩]) (.blk 2 (.loop e21_L1)))))) (.reg [⟨(some 98), none, .bin .add (.t 20) (.c (.iv 1))⟩, ⟨(some 20), none, .mv (.t 98)⟩])))
def e21 : EC := .seq (.reg [⟨(some 2), none, .alloc 24 [.iv 0, .nl]⟩, ⟨(some 3), none, .mv (.c .ff)⟩]) (.seq (.seq (.reg [⟨(some 11), none, .mv (.t 0)⟩, ⟨(some 12), none, .len (.t 11)⟩, ⟨(some 13), none, .bin .gtr (.t 12) (.c (.iv 64))⟩]) (.ite (.t 13) (.seq (.reg [⟨(some 14), none, .build [.iv 0, .nl] []⟩, ⟨none, none, .store 2 (.t 2) (.t 14)⟩, ⟨(some 3), none, .mv (.c .ff)⟩]) (.ret)) (.skip))) (.seq (.reg [⟨(some 15), none, .mv (.t 0)⟩, ⟨(some 16), none, .len (.t 15)⟩, ⟨(some 17), none, .build [.iv 0, .nl] [(0, 1, (.t 16))]⟩, ⟨(some 4), none, .alloc 24 [.iv 0, .nl]⟩, ⟨none, none, .store 2 (.t 4) (.t 17)⟩]) (.seq (.seq (.reg [⟨(some 18), none, .mv (.t 0)⟩, ⟨(some 19), none, .len (.t 18)⟩, ⟨(some 20), none, .mv (.c (.iv 0))⟩]) (.blk 0 (.loop e21_L0))) (.seq (.seq (.reg [⟨(some 99), none, .loadA 2 (.t 4)⟩, ⟨(some 100), none, .call 49 [(.t 99)]⟩, ⟨(some 101), none, .bin .neq (.t 100) (.c (.iv 0))⟩]) (.ite (.t 101) (.seq (.reg [⟨(some 102), none, .build [.iv 0, .nl] []⟩, ⟨none, none, .store 2 (.t 2) (.t 102)⟩, ⟨(some 3), none, .mv (.c .ff)⟩]) (.ret)) (.skip))) (.seq (.reg [⟨(some 103), none, .loadA 2 (.t 4)⟩, ⟨none, none, .store 2 (.t 2) (.t 103)⟩, ⟨(some 3), none, .mv (.c .tt)⟩]) (.ret))))))
theorem ok21 : FnOK Try.prog 21 Try.f21 e21 [.c 2 (some 2), .t 3] 1 103 := ⟨by kernel_rfl, ⟨_, rfl, by kernel_rfl⟩, by kernel_rfl, by kernel_rfl⟩
/- narthex/place.Graph -/
noncomputable def m_place_Graph_j1 (x1 : (List Diner)) : (List Edge) → Option (Graph × Bool)
| x78 =>
 (m_graph_Check ((Graph.mk (ln Diner.row x1) x78))).bind fun x79 =>
 ifb (!decide (x79 = 0)) (
 some ((Graph.mk 0 (([] : (List Edge)))), false)) (
 some ((Graph.mk (ln Diner.row x1) x78), true))
noncomputable def m_place_Graph_j2 (x35 : Int) : (List Edge) → Option ((Int × (List Edge)) ⊕ (Graph × Bool))
| x69 =>
 some (.inl (wr (x35 + 1), x69))
noncomputable def m_place_Graph_j4 (x47 : Int) : (List Edge) → Option ((Int × (List Edge)) ⊕ ((Int × (List Edge)) ⊕ (Graph × Bool)))
| x55 =>
 some (.inl (wr (x47 + 1), x55))
noncomputable def m_place_Graph_j3 (x1 : (List Diner)) (x35 : Int) (x47 : Int) (x48 : (List Edge)) (x49 : Side) : Bool → Option ((Int × (List Edge)) ⊕ ((Int × (List Edge)) ⊕ (Graph × Bool)))
| x51 =>
 ifb x51 (
 Option.map Sum.inr (Option.map Sum.inr (some ((Graph.mk 0 (([] : (List Edge)))), false)))) (
 (at_ x1 x49.Peer).bind fun x52 =>
 (m_place_Side x52 x35).bind fun x53 =>
 ifb (!x53.2) (
 Option.map Sum.inr (Option.map Sum.inr (some ((Graph.mk 0 (([] : (List Edge)))), false)))) (
 ifb (decide (x35 < x49.Peer)) (
 (app_ 16 x48 ([(Edge.mk x35 x49.Peer)])).bind fun x54 =>
 (m_place_Graph_j4 x47) x54) (
 (m_place_Graph_j4 x47) x48)))
noncomputable def m_place_Graph_l2 (x1 : (List Diner)) (x35 : Int) (x37 : Diner) : (Int × (List Edge)) → Option ((Int × (List Edge)) ⊕ ((Int × (List Edge)) ⊕ (Graph × Bool)))
| (x47, x48) =>
 ifb (decide (x47 < (ln Side.row x37.Sides))) (
 (at_ x37.Sides x47).bind fun x49 =>
 ifb (decide (x49.Peer < 0)) (
 (m_place_Graph_j3 x1 x35 x47 x48 x49) true) (
 ifb (decide ((ln Diner.row x1) ≤ x49.Peer)) (
 (m_place_Graph_j3 x1 x35 x47 x48 x49) true) (
 ifb (decide (x49.Peer = x35)) (
 (m_place_Graph_j3 x1 x35 x47 x48 x49) true) (
 ifb (decide (0 < x47)) (
 (at_ x37.Sides (wr (x47 - 1))).bind fun x50 =>
 (m_place_Graph_j3 x1 x35 x47 x48 x49) (decide (x49.Peer ≤ x50.Peer))) (
 (m_place_Graph_j3 x1 x35 x47 x48 x49) false))))) (
 Option.map Sum.inr ((m_place_Graph_j2 x35) x48))
noncomputable def m_place_Graph_l1 (x1 : (List Diner)) : (Int × (List Edge)) → Option ((Int × (List Edge)) ⊕ (Graph × Bool))
| (x35, x36) =>
 ifb (decide (x35 < (ln Diner.row x1))) (
 (at_ x1 x35).bind fun x37 =>
 ifb (!decide (x37.ID = x35)) (
 Option.map Sum.inr (some ((Graph.mk 0 (([] : (List Edge)))), false))) (
 loop (m_place_Graph_l2 x1 x35 x37) (0, x36))) (
 Option.map Sum.inr ((m_place_Graph_j1 x1) x36))
noncomputable def m_place_Graph (x1 : (List Diner)) : Option (Graph × Bool) :=
 ifb (decide (64 < (ln Diner.row x1))) (
 some ((Graph.mk 0 (([] : (List Edge)))), false)) (
 loop (m_place_Graph_l1 x1) (0, ([] : List Edge)))
theorem k_place_Graph (x1 : (List Diner)) (r : (Graph × Bool)) (h : m_place_Graph x1 = some r) : FunP Try.prog 21 [.sl 3 (List.map Diner.row x1)] (.tup [.agg (Graph.row r.1), .bv r.2]) := by
  refine FunP_intro ok21 rfl rfl fun w0 H0 => ?_
  rw [m_place_Graph] at h
  refine V_go 12 ?_; dsimp only [e21, e21_L0, e21_L1, go_sem, Nat.reduceBEq, Nat.reduceAdd]; refine ⟨by simp, ?_⟩; refine M_ite h rfl (fun _ h => ?_) fun _ h => ?_
  ·refine V_go 6 ?_; dsimp only [e21, e21_L0, e21_L1, go_sem, Nat.reduceBEq, Nat.reduceAdd]; refine ⟨by simp, ?_⟩; exact M_done (res := fun (r : (Graph × Bool)) => .tup [.agg (Graph.row r.1), .bv r.2]) ok21 h
  ·refine V_go 16 ?_; dsimp only [e21, e21_L0, e21_L1, go_sem, Nat.reduceBEq, Nat.reduceAdd]; refine ⟨by simp, ?_⟩; refine V_join (fun (x78 : (List Edge)) => (⟨(.any :: .any :: .ptr 0 0 :: .any :: .ptr 1 0 :: an 99 []), [some ⟨24, [.iv 0, .nl]⟩, some ⟨24, [.iv (ln Diner.row x1), .osl 0]⟩], [some ⟨58, 2, List.map Edge.row x78⟩]⟩ : St)) (m_place_Graph_j1 x1) r ?_ fun J1 => ?_
   ·intro x78 h; rw [m_place_Graph_j1] at h; (try dsimp only); refine V_go 4 ?_; dsimp only [e21, e21_L0, e21_L1, go_sem, Nat.reduceBEq, Nat.reduceAdd]; refine ⟨by simp, ?_⟩; obtain ⟨x79, ex79, h⟩ := Option.bind_eq_some_iff.1 h; refine V_callL trivial ((Lend.refl _).slice 0 rfl) (k_graph_Check ((Graph.mk (ln Diner.row x1) x78)) _ ex79) (h := ?_); refine V_go 2 ?_; dsimp only [e21, e21_L0, e21_L1, go_sem, Nat.reduceBEq, Nat.reduceAdd]; refine ⟨by simp, ?_⟩; refine M_ite h rfl (fun _ h => ?_) fun _ h => ?_
    ·refine V_go 6 ?_; dsimp only [e21, e21_L0, e21_L1, go_sem, Nat.reduceBEq, Nat.reduceAdd]; refine ⟨by simp, ?_⟩; exact M_done (res := fun (r : (Graph × Bool)) => .tup [.agg (Graph.row r.1), .bv r.2]) ok21 h
    ·refine V_go 7 ?_; dsimp only [e21, e21_L0, e21_L1, go_sem, Nat.reduceBEq, Nat.reduceAdd]; refine ⟨by simp, ?_⟩; refine V_seal 0 rfl ?_; dsimp only [go_sem, Nat.reduceBEq, Nat.reduceAdd]; exact M_done (res := fun (r : (Graph × Bool)) => .tup [.agg (Graph.row r.1), .bv r.2]) ok21 h
   ·refine V_go 1 ?_; dsimp only [e21, e21_L0, e21_L1, go_sem, Nat.reduceBEq, Nat.reduceAdd]; refine ⟨by simp, ?_⟩; refine V_ownB 1 1 58 2 rfl rfl rfl ?_; dsimp only [go_sem, Nat.reduceBEq, Nat.reduceAdd]
    refine M_loop h (fun ((x35, x36) : (Int × (List Edge))) => (⟨(.sl 3 (List.map Diner.row x1) :: .any :: .ptr 0 0 :: .any :: .ptr 1 0 :: an 13 (.sl 3 (List.map Diner.row x1) :: .iv (ln Diner.row x1) :: .iv x35 :: an 83 [])), [some ⟨24, [.iv 0, .nl]⟩, some ⟨24, [.iv (ln Diner.row x1), .osl 0]⟩], [some ⟨58, 2, List.map Edge.row x36⟩]⟩ : St)) (by simp [go_sem]) (by rintro ⟨x35, x36⟩; first | rfl | simp [go_sem]) ?_; rintro n1 ⟨x35, x36⟩ y1 h hin1 hout1; rw [m_place_Graph_l1] at h; (try dsimp only); refine V_go 5 ?_; dsimp only [e21, e21_L0, e21_L1, go_sem, Nat.reduceBEq, Nat.reduceAdd]
    refine ⟨by simp, ?_⟩; refine M_ite h rfl (fun _ h => ?_) fun _ h => ?_
    ·refine V_go 6 ?_; dsimp only [e21, e21_L0, e21_L1, go_sem, Nat.reduceBEq, Nat.reduceAdd]; refine ⟨by simp, ?_⟩; obtain ⟨x37, ex37, h⟩ := Option.bind_eq_some_iff.1 h; refine V_idxM Diner.row ex37 trivial rfl rfl rfl ?_; refine V_go 13 ?_; dsimp only [e21, e21_L0, e21_L1, go_sem, Nat.reduceBEq, Nat.reduceAdd]; refine ⟨by simp, ?_⟩; refine M_ite h rfl (fun _ h => ?_) fun _ h => ?_
     ·refine V_go 6 ?_; dsimp only [e21, e21_L0, e21_L1, go_sem, Nat.reduceBEq, Nat.reduceAdd]; refine ⟨by simp, ?_⟩; exact M_done (res := fun (r : (Graph × Bool)) => .tup [.agg (Graph.row r.1), .bv r.2]) ok21 (M_out h hout1)
     ·refine V_go 8 ?_; dsimp only [e21, e21_L0, e21_L1, go_sem, Nat.reduceBEq, Nat.reduceAdd]; refine ⟨by simp, ?_⟩; refine V_join (fun (x69 : (List Edge)) => (⟨(.sl 3 (List.map Diner.row x1) :: .any :: .ptr 0 0 :: .any :: .ptr 1 0 :: an 13 (.sl 3 (List.map Diner.row x1) :: .iv (ln Diner.row x1) :: .iv x35 :: an 83 [])), [some ⟨24, [.iv 0, .nl]⟩, some ⟨24, [.iv (ln Diner.row x1), .osl 0]⟩], [some ⟨58, 2, List.map Edge.row x69⟩]⟩ : St)) (m_place_Graph_j2 x35) y1 ?_ fun J2 => ?_
      ·intro x69 h; rw [m_place_Graph_j2] at h; (try dsimp only); refine V_go 5 ?_; dsimp only [e21, e21_L0, e21_L1, go_sem, Nat.reduceBEq, Nat.reduceAdd]; refine ⟨by simp, ?_⟩; exact M_back h hin1
      ·refine V_go 1 ?_; dsimp only [e21, e21_L0, e21_L1, go_sem, Nat.reduceBEq, Nat.reduceAdd]; refine ⟨by simp, ?_⟩
       refine M_loop h (fun ((x47, x48) : (Int × (List Edge))) => (⟨(.sl 3 (List.map Diner.row x1) :: .any :: .ptr 0 0 :: .any :: .ptr 1 0 :: .iv x35 :: .ptr 2 0 :: an 11 (.sl 3 (List.map Diner.row x1) :: .iv (ln Diner.row x1) :: .iv x35 :: an 10 (.sl 8 (List.map Side.row x37.Sides) :: .iv (ln Side.row x37.Sides) :: .iv x47 :: an 70 []))), [some ⟨24, [.iv 0, .nl]⟩, some ⟨24, [.iv (ln Diner.row x1), .osl 0]⟩, some ⟨39, [.iv x37.ID, .iv x37.Phase, .sl 8 (List.map Side.row x37.Sides)]⟩], [some ⟨58, 2, List.map Edge.row x48⟩]⟩ : St)) (by simp [go_sem]) (by rintro ⟨x47, x48⟩; first | rfl | simp [go_sem]) ?_
       rintro n2 ⟨x47, x48⟩ y2 h hin2 hout2; rw [m_place_Graph_l2] at h; (try dsimp only); refine V_go 5 ?_; dsimp only [e21, e21_L0, e21_L1, go_sem, Nat.reduceBEq, Nat.reduceAdd]; refine ⟨by simp, ?_⟩; refine M_ite h rfl (fun _ h => ?_) fun _ h => ?_
       ·refine V_go 6 ?_; dsimp only [e21, e21_L0, e21_L1, go_sem, Nat.reduceBEq, Nat.reduceAdd]; refine ⟨by simp, ?_⟩; obtain ⟨x49, ex49, h⟩ := Option.bind_eq_some_iff.1 h; refine V_idxM Side.row ex49 trivial rfl rfl rfl ?_; refine V_go 7 ?_; dsimp only [e21, e21_L0, e21_L1, go_sem, Nat.reduceBEq, Nat.reduceAdd]; refine ⟨by simp, ?_⟩
        refine V_join (fun (x51 : Bool) => (⟨(.sl 3 (List.map Diner.row x1) :: .any :: .ptr 0 0 :: .any :: .ptr 1 0 :: .iv x35 :: .ptr 2 0 :: .any :: .ptr 3 0 :: an 9 (.sl 3 (List.map Diner.row x1) :: .iv (ln Diner.row x1) :: .iv x35 :: an 10 (.sl 8 (List.map Side.row x37.Sides) :: .iv (ln Side.row x37.Sides) :: .iv x47 :: an 35 (.bv x51 :: an 34 [])))), [some ⟨24, [.iv 0, .nl]⟩, some ⟨24, [.iv (ln Diner.row x1), .osl 0]⟩, some ⟨39, [.iv x37.ID, .iv x37.Phase, .sl 8 (List.map Side.row x37.Sides)]⟩, some ⟨49, [.iv x49.Peer, .iv x49.Epoch, .iv x49.State, .bv x49.Fork, .bv x49.Dirty, .bv x49.Token, .bv x49.Bottle, .bv x49.Ask]⟩], [some ⟨58, 2, List.map Edge.row x48⟩]⟩ : St)) (m_place_Graph_j3 x1 x35 x47 x48 x49) y2 ?_ fun J3 => ?_
        ·intro x51 h; rw [m_place_Graph_j3] at h; (try dsimp only); refine M_ite h rfl (fun _ h => ?_) fun _ h => ?_
         ·refine V_go 6 ?_; dsimp only [e21, e21_L0, e21_L1, go_sem, Nat.reduceBEq, Nat.reduceAdd]; refine ⟨by simp, ?_⟩; exact M_done (res := fun (r : (Graph × Bool)) => .tup [.agg (Graph.row r.1), .bv r.2]) ok21 (M_out (M_out h hout2) hout1)
         ·refine V_go 7 ?_; dsimp only [e21, e21_L0, e21_L1, go_sem, Nat.reduceBEq, Nat.reduceAdd]; refine ⟨by simp, ?_⟩; obtain ⟨x52, ex52, h⟩ := Option.bind_eq_some_iff.1 h; refine V_idxM Diner.row ex52 trivial rfl rfl rfl ?_; refine V_go 2 ?_; dsimp only [e21, e21_L0, e21_L1, go_sem, Nat.reduceBEq, Nat.reduceAdd]; refine ⟨by simp, ?_⟩; obtain ⟨x53, ex53, h⟩ := Option.bind_eq_some_iff.1 h; refine V_call trivial (k_place_Side x52 x35 _ ex53) (h := ?_); refine V_go 12 ?_; dsimp only [e21, e21_L0, e21_L1, go_sem, Nat.reduceBEq, Nat.reduceAdd]; refine ⟨by simp, ?_⟩
          refine M_ite h rfl (fun _ h => ?_) fun _ h => ?_
          ·refine V_go 6 ?_; dsimp only [e21, e21_L0, e21_L1, go_sem, Nat.reduceBEq, Nat.reduceAdd]; refine ⟨by simp, ?_⟩; exact M_done (res := fun (r : (Graph × Bool)) => .tup [.agg (Graph.row r.1), .bv r.2]) ok21 (M_out (M_out h hout2) hout1)
          ·refine V_go 8 ?_; dsimp only [e21, e21_L0, e21_L1, go_sem, Nat.reduceBEq, Nat.reduceAdd]; refine ⟨by simp, ?_⟩
           refine V_join (fun (x55 : (List Edge)) => (⟨(.sl 3 (List.map Diner.row x1) :: .any :: .ptr 0 0 :: .any :: .ptr 1 0 :: .iv x35 :: .ptr 2 0 :: an 11 (.sl 3 (List.map Diner.row x1) :: .iv (ln Diner.row x1) :: .iv x35 :: an 10 (.sl 8 (List.map Side.row x37.Sides) :: .iv (ln Side.row x37.Sides) :: .iv x47 :: an 70 []))), [some ⟨24, [.iv 0, .nl]⟩, some ⟨24, [.iv (ln Diner.row x1), .osl 0]⟩, some ⟨39, [.iv x37.ID, .iv x37.Phase, .sl 8 (List.map Side.row x37.Sides)]⟩], [some ⟨58, 2, List.map Edge.row x55⟩]⟩ : St)) (m_place_Graph_j4 x47) y2 ?_ fun J4 => ?_
           ·intro x55 h; rw [m_place_Graph_j4] at h; (try dsimp only); refine V_go 5 ?_; dsimp only [e21, e21_L0, e21_L1, go_sem, Nat.reduceBEq, Nat.reduceAdd]; refine ⟨by simp, ?_⟩; exact M_back h hin2
           ·refine M_ite h rfl (fun _ h => ?_) fun _ h => ?_
            ·refine V_go 8 ?_; dsimp only [e21, e21_L0, e21_L1, go_sem, Nat.reduceBEq, Nat.reduceAdd]; refine ⟨by simp, ?_⟩; obtain ⟨x54, ex54, h⟩ := Option.bind_eq_some_iff.1 h; refine V_appM Edge.row ex54 trivial rfl rfl rfl ?_; refine V_go 3 ?_; dsimp only [e21, e21_L0, e21_L1, go_sem, Nat.reduceBEq, Nat.reduceAdd]; refine ⟨by simp, ?_⟩; refine V_ren 2 0 rfl rfl rfl ?_; dsimp only [go_sem, Nat.reduceBEq, Nat.reduceAdd]; exact M_to J4 (s := x54) h
            ·refine V_go 1 ?_; dsimp only [e21, e21_L0, e21_L1, go_sem, Nat.reduceBEq, Nat.reduceAdd]; refine ⟨by simp, ?_⟩; exact M_to J4 (s := x48) h
        ·refine V_drw (by kernel_rfl) fun all hall hs hnap haf => ?_; dsimp only [go_sem, Nat.reduceBEq, Nat.reduceAdd]
         refine G_goE hall hs haf hnap 4 28 [true, true, true, true, false, false, false, false, false, false, false, false, false, false, false, false, false, false, false, false, false, false, false, false, false, false, false, false, false, false, false, false] (⟨(.sl 3 (List.map Diner.row x1) :: .any :: .ptr 0 0 :: .any :: .ptr 1 0 :: .iv x35 :: .ptr 2 0 :: .iv x47 :: .ptr 3 0 :: an 9 (.sl 3 (List.map Diner.row x1) :: .iv (ln Diner.row x1) :: .iv x35 :: an 10 (.sl 8 (List.map Side.row x37.Sides) :: .iv (ln Side.row x37.Sides) :: .iv x47 :: .bv (decide (x47 < (ln Side.row x37.Sides))) :: .iv x47 :: .elt [.iv x49.Peer, .iv x49.Epoch, .iv x49.State, .bv x49.Fork, .bv x49.Dirty, .bv x49.Token, .bv x49.Bottle, .bv x49.Ask] 0 :: .agg [.iv x49.Peer, .iv x49.Epoch, .iv x49.State, .bv x49.Fork, .bv x49.Dirty, .bv x49.Token, .bv x49.Bottle, .bv x49.Ask] :: .ptr 3 0 :: .iv x49.Peer :: .bv (decide (x49.Peer < 0)) :: .bv (decide (x49.Peer < 0)) :: an 62 []))), [some ⟨24, [.iv 0, .nl]⟩, some ⟨24, [.iv (ln Diner.row x1), .osl 0]⟩, some ⟨39, [.iv x37.ID, .iv x37.Phase, .sl 8 (List.map Side.row x37.Sides)]⟩, some ⟨49, [.iv x49.Peer, .iv x49.Epoch, .iv x49.State, .bv x49.Fork, .bv x49.Dirty, .bv x49.Token, .bv x49.Bottle, .bv x49.Ask]⟩], [some ⟨58, 2, List.map Edge.row x48⟩]⟩ : St) (by kernel_rfl) ?_
         refine GM_case 41 h rfl (fun _ h => ?_) fun _ h => ?_
         ·dsimp only [go_sem, Nat.reduceBEq, Nat.reduceAdd]
          refine G_goE hall hs haf hnap 28 0 [true, true, true, true, true, true, true, true, true, true, true, true, true, true, true, true, true, true, true, true, true, true, true, true, true, true, true, true, true, true, true, true] (⟨(.sl 3 (List.map Diner.row x1) :: .any :: .ptr 0 0 :: .any :: .ptr 1 0 :: .iv x35 :: .ptr 2 0 :: .iv x47 :: .ptr 3 0 :: an 9 (.sl 3 (List.map Diner.row x1) :: .iv (ln Diner.row x1) :: .iv x35 :: an 10 (.sl 8 (List.map Side.row x37.Sides) :: .iv (ln Side.row x37.Sides) :: .iv x47 :: .bv (decide (x47 < (ln Side.row x37.Sides))) :: .iv x47 :: .elt [.iv x49.Peer, .iv x49.Epoch, .iv x49.State, .bv x49.Fork, .bv x49.Dirty, .bv x49.Token, .bv x49.Bottle, .bv x49.Ask] 0 :: .agg [.iv x49.Peer, .iv x49.Epoch, .iv x49.State, .bv x49.Fork, .bv x49.Dirty, .bv x49.Token, .bv x49.Bottle, .bv x49.Ask] :: .ptr 3 0 :: .iv x49.Peer :: .bv (decide (x49.Peer < 0)) :: .tt :: .un :: .un :: .un :: .un :: .un :: .tt :: .tt :: .un :: .un :: .un :: .un :: .tt :: .tt :: .un :: .un :: .un :: .un :: .un :: .un :: .un :: .un :: .un :: .un :: .un :: .un :: .un :: .un :: .tt :: an 34 []))), [some ⟨24, [.iv 0, .nl]⟩, some ⟨24, [.iv (ln Diner.row x1), .osl 0]⟩, some ⟨39, [.iv x37.ID, .iv x37.Phase, .sl 8 (List.map Side.row x37.Sides)]⟩, some ⟨49, [.iv x49.Peer, .iv x49.Epoch, .iv x49.State, .bv x49.Fork, .bv x49.Dirty, .bv x49.Token, .bv x49.Bottle, .bv x49.Ask]⟩], [some ⟨58, 2, List.map Edge.row x48⟩]⟩ : St) (by kernel_rfl) ?_
          refine G_done rfl ?_ _; exact M_to J3 (s := true) h
         ·dsimp only [go_sem, Nat.reduceBEq, Nat.reduceAdd]
          refine G_goE hall hs haf hnap 7 21 [true, true, true, true, true, true, true, true, true, true, true, false, false, false, false, false, false, false, false, false, false, false, false, false, false, false, false, false, false, false, false, false] (⟨(.sl 3 (List.map Diner.row x1) :: .any :: .ptr 0 0 :: .any :: .ptr 1 0 :: .iv x35 :: .ptr 2 0 :: .iv x47 :: .ptr 3 0 :: an 9 (.sl 3 (List.map Diner.row x1) :: .iv (ln Diner.row x1) :: .iv x35 :: an 10 (.sl 8 (List.map Side.row x37.Sides) :: .iv (ln Side.row x37.Sides) :: .iv x47 :: .bv (decide (x47 < (ln Side.row x37.Sides))) :: .iv x47 :: .elt [.iv x49.Peer, .iv x49.Epoch, .iv x49.State, .bv x49.Fork, .bv x49.Dirty, .bv x49.Token, .bv x49.Bottle, .bv x49.Ask] 0 :: .agg [.iv x49.Peer, .iv x49.Epoch, .iv x49.State, .bv x49.Fork, .bv x49.Dirty, .bv x49.Token, .bv x49.Bottle, .bv x49.Ask] :: .ptr 3 0 :: .iv x49.Peer :: .bv (decide (x49.Peer < 0)) :: .ff :: .ptr 3 0 :: .iv x49.Peer :: .sl 3 (List.map Diner.row x1) :: .iv (ln Diner.row x1) :: .bv (decide ((ln Diner.row x1) ≤ x49.Peer)) :: .bv (decide ((ln Diner.row x1) ≤ x49.Peer)) :: .bv (decide ((ln Diner.row x1) ≤ x49.Peer)) :: an 55 []))), [some ⟨24, [.iv 0, .nl]⟩, some ⟨24, [.iv (ln Diner.row x1), .osl 0]⟩, some ⟨39, [.iv x37.ID, .iv x37.Phase, .sl 8 (List.map Side.row x37.Sides)]⟩, some ⟨49, [.iv x49.Peer, .iv x49.Epoch, .iv x49.State, .bv x49.Fork, .bv x49.Dirty, .bv x49.Token, .bv x49.Bottle, .bv x49.Ask]⟩], [some ⟨58, 2, List.map Edge.row x48⟩]⟩ : St) (by kernel_rfl) ?_
          refine GM_case 48 h rfl (fun _ h => ?_) fun _ h => ?_
          ·dsimp only [go_sem, Nat.reduceBEq, Nat.reduceAdd]
           refine G_goE hall hs haf hnap 21 0 [true, true, true, true, true, true, true, true, true, true, true, true, true, true, true, true, true, true, true, true, true, true, true, true, true, true, true, true, true, true, true, true] (⟨(.sl 3 (List.map Diner.row x1) :: .any :: .ptr 0 0 :: .any :: .ptr 1 0 :: .iv x35 :: .ptr 2 0 :: .iv x47 :: .ptr 3 0 :: an 9 (.sl 3 (List.map Diner.row x1) :: .iv (ln Diner.row x1) :: .iv x35 :: an 10 (.sl 8 (List.map Side.row x37.Sides) :: .iv (ln Side.row x37.Sides) :: .iv x47 :: .bv (decide (x47 < (ln Side.row x37.Sides))) :: .iv x47 :: .elt [.iv x49.Peer, .iv x49.Epoch, .iv x49.State, .bv x49.Fork, .bv x49.Dirty, .bv x49.Token, .bv x49.Bottle, .bv x49.Ask] 0 :: .agg [.iv x49.Peer, .iv x49.Epoch, .iv x49.State, .bv x49.Fork, .bv x49.Dirty, .bv x49.Token, .bv x49.Bottle, .bv x49.Ask] :: .ptr 3 0 :: .iv x49.Peer :: .bv (decide (x49.Peer < 0)) :: .ff :: .ptr 3 0 :: .iv x49.Peer :: .sl 3 (List.map Diner.row x1) :: .iv (ln Diner.row x1) :: .bv (decide ((ln Diner.row x1) ≤ x49.Peer)) :: .bv (decide ((ln Diner.row x1) ≤ x49.Peer)) :: .tt :: .un :: .un :: .un :: .un :: .tt :: .tt :: .un :: .un :: .un :: .un :: .un :: .un :: .un :: .un :: .un :: .un :: .un :: .un :: .un :: .un :: .tt :: an 34 []))), [some ⟨24, [.iv 0, .nl]⟩, some ⟨24, [.iv (ln Diner.row x1), .osl 0]⟩, some ⟨39, [.iv x37.ID, .iv x37.Phase, .sl 8 (List.map Side.row x37.Sides)]⟩, some ⟨49, [.iv x49.Peer, .iv x49.Epoch, .iv x49.State, .bv x49.Fork, .bv x49.Dirty, .bv x49.Token, .bv x49.Bottle, .bv x49.Ask]⟩], [some ⟨58, 2, List.map Edge.row x48⟩]⟩ : St) (by kernel_rfl) ?_
           refine G_done rfl ?_ _; exact M_to J3 (s := true) h
          ·dsimp only [go_sem, Nat.reduceBEq, Nat.reduceAdd]
           refine G_goE hall hs haf hnap 6 15 [true, true, true, true, true, true, true, true, true, true, true, true, true, true, true, true, true, false, false, false, false, false, false, false, false, false, false, false, false, false, false, false] (⟨(.sl 3 (List.map Diner.row x1) :: .any :: .ptr 0 0 :: .any :: .ptr 1 0 :: .iv x35 :: .ptr 2 0 :: .iv x47 :: .ptr 3 0 :: an 9 (.sl 3 (List.map Diner.row x1) :: .iv (ln Diner.row x1) :: .iv x35 :: an 10 (.sl 8 (List.map Side.row x37.Sides) :: .iv (ln Side.row x37.Sides) :: .iv x47 :: .bv (decide (x47 < (ln Side.row x37.Sides))) :: .iv x47 :: .elt [.iv x49.Peer, .iv x49.Epoch, .iv x49.State, .bv x49.Fork, .bv x49.Dirty, .bv x49.Token, .bv x49.Bottle, .bv x49.Ask] 0 :: .agg [.iv x49.Peer, .iv x49.Epoch, .iv x49.State, .bv x49.Fork, .bv x49.Dirty, .bv x49.Token, .bv x49.Bottle, .bv x49.Ask] :: .ptr 3 0 :: .iv x49.Peer :: .bv (decide (x49.Peer < 0)) :: .ff :: .ptr 3 0 :: .iv x49.Peer :: .sl 3 (List.map Diner.row x1) :: .iv (ln Diner.row x1) :: .bv (decide ((ln Diner.row x1) ≤ x49.Peer)) :: .bv (decide ((ln Diner.row x1) ≤ x49.Peer)) :: .ff :: .ptr 3 0 :: .iv x49.Peer :: .iv x35 :: .bv (decide (x49.Peer = x35)) :: .bv (decide (x49.Peer = x35)) :: .bv (decide (x49.Peer = x35)) :: an 49 []))), [some ⟨24, [.iv 0, .nl]⟩, some ⟨24, [.iv (ln Diner.row x1), .osl 0]⟩, some ⟨39, [.iv x37.ID, .iv x37.Phase, .sl 8 (List.map Side.row x37.Sides)]⟩, some ⟨49, [.iv x49.Peer, .iv x49.Epoch, .iv x49.State, .bv x49.Fork, .bv x49.Dirty, .bv x49.Token, .bv x49.Bottle, .bv x49.Ask]⟩], [some ⟨58, 2, List.map Edge.row x48⟩]⟩ : St) (by kernel_rfl) ?_
           refine GM_case 54 h rfl (fun _ h => ?_) fun _ h => ?_
           ·dsimp only [go_sem, Nat.reduceBEq, Nat.reduceAdd]
            refine G_goE hall hs haf hnap 15 0 [true, true, true, true, true, true, true, true, true, true, true, true, true, true, true, true, true, true, true, true, true, true, true, true, true, true, true, true, true, true, true, true] (⟨(.sl 3 (List.map Diner.row x1) :: .any :: .ptr 0 0 :: .any :: .ptr 1 0 :: .iv x35 :: .ptr 2 0 :: .iv x47 :: .ptr 3 0 :: an 9 (.sl 3 (List.map Diner.row x1) :: .iv (ln Diner.row x1) :: .iv x35 :: an 10 (.sl 8 (List.map Side.row x37.Sides) :: .iv (ln Side.row x37.Sides) :: .iv x47 :: .bv (decide (x47 < (ln Side.row x37.Sides))) :: .iv x47 :: .elt [.iv x49.Peer, .iv x49.Epoch, .iv x49.State, .bv x49.Fork, .bv x49.Dirty, .bv x49.Token, .bv x49.Bottle, .bv x49.Ask] 0 :: .agg [.iv x49.Peer, .iv x49.Epoch, .iv x49.State, .bv x49.Fork, .bv x49.Dirty, .bv x49.Token, .bv x49.Bottle, .bv x49.Ask] :: .ptr 3 0 :: .iv x49.Peer :: .bv (decide (x49.Peer < 0)) :: .ff :: .ptr 3 0 :: .iv x49.Peer :: .sl 3 (List.map Diner.row x1) :: .iv (ln Diner.row x1) :: .bv (decide ((ln Diner.row x1) ≤ x49.Peer)) :: .bv (decide ((ln Diner.row x1) ≤ x49.Peer)) :: .ff :: .ptr 3 0 :: .iv x49.Peer :: .iv x35 :: .bv (decide (x49.Peer = x35)) :: .bv (decide (x49.Peer = x35)) :: .tt :: .un :: .un :: .un :: .un :: .un :: .un :: .un :: .un :: .un :: .un :: .un :: .un :: .un :: .un :: .tt :: an 34 []))), [some ⟨24, [.iv 0, .nl]⟩, some ⟨24, [.iv (ln Diner.row x1), .osl 0]⟩, some ⟨39, [.iv x37.ID, .iv x37.Phase, .sl 8 (List.map Side.row x37.Sides)]⟩, some ⟨49, [.iv x49.Peer, .iv x49.Epoch, .iv x49.State, .bv x49.Fork, .bv x49.Dirty, .bv x49.Token, .bv x49.Bottle, .bv x49.Ask]⟩], [some ⟨58, 2, List.map Edge.row x48⟩]⟩ : St) (by kernel_rfl) ?_
            refine G_done rfl ?_ _; exact M_to J3 (s := true) h
           ·dsimp only [go_sem, Nat.reduceBEq, Nat.reduceAdd]
            refine G_goE hall hs haf hnap 3 12 [true, true, true, true, true, true, true, true, true, true, true, true, true, true, true, true, true, true, true, true, false, false, false, false, false, false, false, false, false, false, false, false] (⟨(.sl 3 (List.map Diner.row x1) :: .any :: .ptr 0 0 :: .any :: .ptr 1 0 :: .iv x35 :: .ptr 2 0 :: .iv x47 :: .ptr 3 0 :: an 9 (.sl 3 (List.map Diner.row x1) :: .iv (ln Diner.row x1) :: .iv x35 :: an 10 (.sl 8 (List.map Side.row x37.Sides) :: .iv (ln Side.row x37.Sides) :: .iv x47 :: .bv (decide (x47 < (ln Side.row x37.Sides))) :: .iv x47 :: .elt [.iv x49.Peer, .iv x49.Epoch, .iv x49.State, .bv x49.Fork, .bv x49.Dirty, .bv x49.Token, .bv x49.Bottle, .bv x49.Ask] 0 :: .agg [.iv x49.Peer, .iv x49.Epoch, .iv x49.State, .bv x49.Fork, .bv x49.Dirty, .bv x49.Token, .bv x49.Bottle, .bv x49.Ask] :: .ptr 3 0 :: .iv x49.Peer :: .bv (decide (x49.Peer < 0)) :: .ff :: .ptr 3 0 :: .iv x49.Peer :: .sl 3 (List.map Diner.row x1) :: .iv (ln Diner.row x1) :: .bv (decide ((ln Diner.row x1) ≤ x49.Peer)) :: .bv (decide ((ln Diner.row x1) ≤ x49.Peer)) :: .ff :: .ptr 3 0 :: .iv x49.Peer :: .iv x35 :: .bv (decide (x49.Peer = x35)) :: .bv (decide (x49.Peer = x35)) :: .ff :: .iv x47 :: .bv (decide (0 < x47)) :: .bv (decide (0 < x47)) :: an 46 []))), [some ⟨24, [.iv 0, .nl]⟩, some ⟨24, [.iv (ln Diner.row x1), .osl 0]⟩, some ⟨39, [.iv x37.ID, .iv x37.Phase, .sl 8 (List.map Side.row x37.Sides)]⟩, some ⟨49, [.iv x49.Peer, .iv x49.Epoch, .iv x49.State, .bv x49.Fork, .bv x49.Dirty, .bv x49.Token, .bv x49.Bottle, .bv x49.Ask]⟩], [some ⟨58, 2, List.map Edge.row x48⟩]⟩ : St) (by kernel_rfl) ?_
            refine GM_case 57 h rfl (fun _ h => ?_) fun _ h => ?_
            ·dsimp only [go_sem, Nat.reduceBEq, Nat.reduceAdd]
             refine G_goE hall hs haf hnap 6 6 [true, true, true, true, true, true, true, true, true, true, true, true, true, true, true, true, true, true, true, true, true, true, true, true, false, false, false, true, true, false, false, false] (⟨(.sl 3 (List.map Diner.row x1) :: .any :: .ptr 0 0 :: .any :: .ptr 1 0 :: .iv x35 :: .ptr 2 0 :: .iv x47 :: .ptr 3 0 :: an 9 (.sl 3 (List.map Diner.row x1) :: .iv (ln Diner.row x1) :: .iv x35 :: an 10 (.sl 8 (List.map Side.row x37.Sides) :: .iv (ln Side.row x37.Sides) :: .iv x47 :: .bv (decide (x47 < (ln Side.row x37.Sides))) :: .iv x47 :: .elt [.iv x49.Peer, .iv x49.Epoch, .iv x49.State, .bv x49.Fork, .bv x49.Dirty, .bv x49.Token, .bv x49.Bottle, .bv x49.Ask] 0 :: .agg [.iv x49.Peer, .iv x49.Epoch, .iv x49.State, .bv x49.Fork, .bv x49.Dirty, .bv x49.Token, .bv x49.Bottle, .bv x49.Ask] :: .ptr 3 0 :: .iv x49.Peer :: .bv (decide (x49.Peer < 0)) :: .ff :: .ptr 3 0 :: .iv x49.Peer :: .sl 3 (List.map Diner.row x1) :: .iv (ln Diner.row x1) :: .bv (decide ((ln Diner.row x1) ≤ x49.Peer)) :: .bv (decide ((ln Diner.row x1) ≤ x49.Peer)) :: .ff :: .ptr 3 0 :: .iv x49.Peer :: .iv x35 :: .bv (decide (x49.Peer = x35)) :: .bv (decide (x49.Peer = x35)) :: .ff :: .iv x47 :: .bv (decide (0 < x47)) :: .tt :: .ptr 2 2 :: .sl 8 (List.map Side.row x37.Sides) :: .iv x47 :: .iv (wr (x47 - 1)) :: an 3 (.ptr 3 0 :: .iv x49.Peer :: an 37 [])))), [some ⟨24, [.iv 0, .nl]⟩, some ⟨24, [.iv (ln Diner.row x1), .osl 0]⟩, some ⟨39, [.iv x37.ID, .iv x37.Phase, .sl 8 (List.map Side.row x37.Sides)]⟩, some ⟨49, [.iv x49.Peer, .iv x49.Epoch, .iv x49.State, .bv x49.Fork, .bv x49.Dirty, .bv x49.Token, .bv x49.Bottle, .bv x49.Ask]⟩], [some ⟨58, 2, List.map Edge.row x48⟩]⟩ : St) (by kernel_rfl) ?_
             obtain ⟨x50, ex50, h⟩ := Option.bind_eq_some_iff.1 h; refine G_idxM hall hs haf hnap 24 Side.row ex50 rfl rfl trivial rfl rfl rfl rfl ?_
             refine G_goE hall hs haf hnap 5 0 [true, true, true, true, true, true, true, true, true, true, true, true, true, true, true, true, true, true, true, true, true, true, true, true, true, true, true, true, true, true, true, true] (⟨(.sl 3 (List.map Diner.row x1) :: .any :: .ptr 0 0 :: .any :: .ptr 1 0 :: .iv x35 :: .ptr 2 0 :: .iv x47 :: .ptr 3 0 :: an 9 (.sl 3 (List.map Diner.row x1) :: .iv (ln Diner.row x1) :: .iv x35 :: an 10 (.sl 8 (List.map Side.row x37.Sides) :: .iv (ln Side.row x37.Sides) :: .iv x47 :: .bv (decide (x47 < (ln Side.row x37.Sides))) :: .iv x47 :: .elt [.iv x49.Peer, .iv x49.Epoch, .iv x49.State, .bv x49.Fork, .bv x49.Dirty, .bv x49.Token, .bv x49.Bottle, .bv x49.Ask] 0 :: .agg [.iv x49.Peer, .iv x49.Epoch, .iv x49.State, .bv x49.Fork, .bv x49.Dirty, .bv x49.Token, .bv x49.Bottle, .bv x49.Ask] :: .ptr 3 0 :: .iv x49.Peer :: .bv (decide (x49.Peer < 0)) :: .ff :: .ptr 3 0 :: .iv x49.Peer :: .sl 3 (List.map Diner.row x1) :: .iv (ln Diner.row x1) :: .bv (decide ((ln Diner.row x1) ≤ x49.Peer)) :: .bv (decide ((ln Diner.row x1) ≤ x49.Peer)) :: .ff :: .ptr 3 0 :: .iv x49.Peer :: .iv x35 :: .bv (decide (x49.Peer = x35)) :: .bv (decide (x49.Peer = x35)) :: .ff :: .iv x47 :: .bv (decide (0 < x47)) :: .tt :: .ptr 2 2 :: .sl 8 (List.map Side.row x37.Sides) :: .iv x47 :: .iv (wr (x47 - 1)) :: .elt [.iv x50.Peer, .iv x50.Epoch, .iv x50.State, .bv x50.Fork, .bv x50.Dirty, .bv x50.Token, .bv x50.Bottle, .bv x50.Ask] 0 :: .elt [.iv x50.Peer, .iv x50.Epoch, .iv x50.State, .bv x50.Fork, .bv x50.Dirty, .bv x50.Token, .bv x50.Bottle, .bv x50.Ask] 0 :: .iv x50.Peer :: .ptr 3 0 :: .iv x49.Peer :: .bv (decide (x49.Peer ≤ x50.Peer)) :: .bv (decide (x49.Peer ≤ x50.Peer)) :: .bv (decide (x49.Peer ≤ x50.Peer)) :: an 34 []))), [some ⟨24, [.iv 0, .nl]⟩, some ⟨24, [.iv (ln Diner.row x1), .osl 0]⟩, some ⟨39, [.iv x37.ID, .iv x37.Phase, .sl 8 (List.map Side.row x37.Sides)]⟩, some ⟨49, [.iv x49.Peer, .iv x49.Epoch, .iv x49.State, .bv x49.Fork, .bv x49.Dirty, .bv x49.Token, .bv x49.Bottle, .bv x49.Ask]⟩], [some ⟨58, 2, List.map Edge.row x48⟩]⟩ : St) (by kernel_rfl) ?_
             refine G_done rfl ?_ _; exact M_to J3 (s := decide (x49.Peer ≤ x50.Peer)) h
            ·dsimp only [go_sem, Nat.reduceBEq, Nat.reduceAdd]
             refine G_goE hall hs haf hnap 12 0 [true, true, true, true, true, true, true, true, true, true, true, true, true, true, true, true, true, true, true, true, true, true, true, true, true, true, true, true, true, true, true, true] (⟨(.sl 3 (List.map Diner.row x1) :: .any :: .ptr 0 0 :: .any :: .ptr 1 0 :: .iv x35 :: .ptr 2 0 :: .iv x47 :: .ptr 3 0 :: an 9 (.sl 3 (List.map Diner.row x1) :: .iv (ln Diner.row x1) :: .iv x35 :: an 10 (.sl 8 (List.map Side.row x37.Sides) :: .iv (ln Side.row x37.Sides) :: .iv x47 :: .bv (decide (x47 < (ln Side.row x37.Sides))) :: .iv x47 :: .elt [.iv x49.Peer, .iv x49.Epoch, .iv x49.State, .bv x49.Fork, .bv x49.Dirty, .bv x49.Token, .bv x49.Bottle, .bv x49.Ask] 0 :: .agg [.iv x49.Peer, .iv x49.Epoch, .iv x49.State, .bv x49.Fork, .bv x49.Dirty, .bv x49.Token, .bv x49.Bottle, .bv x49.Ask] :: .ptr 3 0 :: .iv x49.Peer :: .bv (decide (x49.Peer < 0)) :: .ff :: .ptr 3 0 :: .iv x49.Peer :: .sl 3 (List.map Diner.row x1) :: .iv (ln Diner.row x1) :: .bv (decide ((ln Diner.row x1) ≤ x49.Peer)) :: .bv (decide ((ln Diner.row x1) ≤ x49.Peer)) :: .ff :: .ptr 3 0 :: .iv x49.Peer :: .iv x35 :: .bv (decide (x49.Peer = x35)) :: .bv (decide (x49.Peer = x35)) :: .ff :: .iv x47 :: .bv (decide (0 < x47)) :: .ff :: .un :: .un :: .un :: .un :: .un :: .un :: .un :: .un :: .un :: .un :: .ff :: .ff :: an 34 []))), [some ⟨24, [.iv 0, .nl]⟩, some ⟨24, [.iv (ln Diner.row x1), .osl 0]⟩, some ⟨39, [.iv x37.ID, .iv x37.Phase, .sl 8 (List.map Side.row x37.Sides)]⟩, some ⟨49, [.iv x49.Peer, .iv x49.Epoch, .iv x49.State, .bv x49.Fork, .bv x49.Dirty, .bv x49.Token, .bv x49.Bottle, .bv x49.Ask]⟩], [some ⟨58, 2, List.map Edge.row x48⟩]⟩ : St) (by kernel_rfl) ?_
             refine G_done rfl ?_ _; exact M_to J3 (s := false) h
       ·refine V_go 1 ?_; dsimp only [e21, e21_L0, e21_L1, go_sem, Nat.reduceBEq, Nat.reduceAdd]; refine ⟨by simp, ?_⟩; exact M_to J2 (s := x48) (M_out h hout2)
    ·refine V_go 1 ?_; dsimp only [e21, e21_L0, e21_L1, go_sem, Nat.reduceBEq, Nat.reduceAdd]; refine ⟨by simp, ?_⟩; exact M_to J1 (s := x36) (M_out h hout1)
def f_place_Graph_j1 (F : Nat) (x1 : (List Diner)) : (List Edge) → Option (Graph × Bool)
| x78 =>
 (f_graph_Check F ((Graph.mk (ln Diner.row x1) x78))).bind fun x79 =>
 ifb (!decide (x79 = 0)) (
 some ((Graph.mk 0 (([] : (List Edge)))), false)) (
 some ((Graph.mk (ln Diner.row x1) x78), true))
theorem le_place_Graph_j1 {F : Nat} {x1 : (List Diner)} : ∀ s, ole (f_place_Graph_j1 F x1 s) (m_place_Graph_j1 x1 s) := by
  intro x78
  unfold f_place_Graph_j1 m_place_Graph_j1
  try dsimp only
  with_reducible repeat' first | exact ole_refl _ | assumption | intro _ | refine ole_ifb ?_ ?_ | refine ole_bind ?_ ?_ | refine ole_map ?_ | refine ole_loop ?_ | apply le_graph_Check
def f_place_Graph_j2 (_F : Nat) (x35 : Int) : (List Edge) → Option ((Int × (List Edge)) ⊕ (Graph × Bool))
| x69 =>
 some (.inl (wr (x35 + 1), x69))
theorem le_place_Graph_j2 {F : Nat} {x35 : Int} : ∀ s, ole (f_place_Graph_j2 F x35 s) (m_place_Graph_j2 x35 s) := by
  intro x69
  unfold f_place_Graph_j2 m_place_Graph_j2
  try dsimp only
  with_reducible repeat' first | exact ole_refl _ | assumption | intro _ | refine ole_ifb ?_ ?_ | refine ole_bind ?_ ?_ | refine ole_map ?_ | refine ole_loop ?_ | apply le_graph_Check | apply le_place_Graph_j1
def f_place_Graph_j4 (_F : Nat) (x47 : Int) : (List Edge) → Option ((Int × (List Edge)) ⊕ ((Int × (List Edge)) ⊕ (Graph × Bool)))
| x55 =>
 some (.inl (wr (x47 + 1), x55))
theorem le_place_Graph_j4 {F : Nat} {x47 : Int} : ∀ s, ole (f_place_Graph_j4 F x47 s) (m_place_Graph_j4 x47 s) := by
  intro x55
  unfold f_place_Graph_j4 m_place_Graph_j4
  try dsimp only
  with_reducible repeat' first | exact ole_refl _ | assumption | intro _ | refine ole_ifb ?_ ?_ | refine ole_bind ?_ ?_ | refine ole_map ?_ | refine ole_loop ?_ | apply le_graph_Check | apply le_place_Graph_j1 | apply le_place_Graph_j2
def f_place_Graph_j3 (F : Nat) (x1 : (List Diner)) (x35 : Int) (x47 : Int) (x48 : (List Edge)) (x49 : Side) : Bool → Option ((Int × (List Edge)) ⊕ ((Int × (List Edge)) ⊕ (Graph × Bool)))
| x51 =>
 ifb x51 (
 Option.map Sum.inr (Option.map Sum.inr (some ((Graph.mk 0 (([] : (List Edge)))), false)))) (
 (at_ x1 x49.Peer).bind fun x52 =>
 (f_place_Side F x52 x35).bind fun x53 =>
 ifb (!x53.2) (
 Option.map Sum.inr (Option.map Sum.inr (some ((Graph.mk 0 (([] : (List Edge)))), false)))) (
 ifb (decide (x35 < x49.Peer)) (
 (app_ 16 x48 ([(Edge.mk x35 x49.Peer)])).bind fun x54 =>
 (f_place_Graph_j4 F x47) x54) (
 (f_place_Graph_j4 F x47) x48)))
theorem le_place_Graph_j3 {F : Nat} {x1 : (List Diner)} {x35 : Int} {x47 : Int} {x48 : (List Edge)} {x49 : Side} : ∀ s, ole (f_place_Graph_j3 F x1 x35 x47 x48 x49 s) (m_place_Graph_j3 x1 x35 x47 x48 x49 s) := by
  intro x51
  unfold f_place_Graph_j3 m_place_Graph_j3
  try dsimp only
  with_reducible repeat' first | exact ole_refl _ | assumption | intro _ | refine ole_ifb ?_ ?_ | refine ole_bind ?_ ?_ | refine ole_map ?_ | refine ole_loop ?_ | apply le_graph_Check | apply le_place_Graph_j1 | apply le_place_Graph_j2 | apply le_place_Graph_j4 | apply le_place_Side
def f_place_Graph_l2 (F : Nat) (x1 : (List Diner)) (x35 : Int) (x37 : Diner) : (Int × (List Edge)) → Option ((Int × (List Edge)) ⊕ ((Int × (List Edge)) ⊕ (Graph × Bool)))
| (x47, x48) =>
 ifb (decide (x47 < (ln Side.row x37.Sides))) (
 (at_ x37.Sides x47).bind fun x49 =>
 ifb (decide (x49.Peer < 0)) (
 (f_place_Graph_j3 F x1 x35 x47 x48 x49) true) (
 ifb (decide ((ln Diner.row x1) ≤ x49.Peer)) (
 (f_place_Graph_j3 F x1 x35 x47 x48 x49) true) (
 ifb (decide (x49.Peer = x35)) (
 (f_place_Graph_j3 F x1 x35 x47 x48 x49) true) (
 ifb (decide (0 < x47)) (
 (at_ x37.Sides (wr (x47 - 1))).bind fun x50 =>
 (f_place_Graph_j3 F x1 x35 x47 x48 x49) (decide (x49.Peer ≤ x50.Peer))) (
 (f_place_Graph_j3 F x1 x35 x47 x48 x49) false))))) (
 Option.map Sum.inr ((f_place_Graph_j2 F x35) x48))
theorem le_place_Graph_l2 {F : Nat} {x1 : (List Diner)} {x35 : Int} {x37 : Diner} : ∀ s, ole (f_place_Graph_l2 F x1 x35 x37 s) (m_place_Graph_l2 x1 x35 x37 s) := by
  rintro ⟨x47, x48⟩
  unfold f_place_Graph_l2 m_place_Graph_l2
  try dsimp only
  with_reducible repeat' first | exact ole_refl _ | assumption | intro _ | refine ole_ifb ?_ ?_ | refine ole_bind ?_ ?_ | refine ole_map ?_ | refine ole_loop ?_ | apply le_graph_Check | apply le_place_Graph_j1 | apply le_place_Graph_j2 | apply le_place_Graph_j4 | apply le_place_Side | apply le_place_Graph_j3
def f_place_Graph_l1 (F : Nat) (x1 : (List Diner)) : (Int × (List Edge)) → Option ((Int × (List Edge)) ⊕ (Graph × Bool))
| (x35, x36) =>
 ifb (decide (x35 < (ln Diner.row x1))) (
 (at_ x1 x35).bind fun x37 =>
 ifb (!decide (x37.ID = x35)) (
 Option.map Sum.inr (some ((Graph.mk 0 (([] : (List Edge)))), false))) (
 loopF F (f_place_Graph_l2 F x1 x35 x37) (0, x36))) (
 Option.map Sum.inr ((f_place_Graph_j1 F x1) x36))
theorem le_place_Graph_l1 {F : Nat} {x1 : (List Diner)} : ∀ s, ole (f_place_Graph_l1 F x1 s) (m_place_Graph_l1 x1 s) := by
  rintro ⟨x35, x36⟩
  unfold f_place_Graph_l1 m_place_Graph_l1
  try dsimp only
  with_reducible repeat' first | exact ole_refl _ | assumption | intro _ | refine ole_ifb ?_ ?_ | refine ole_bind ?_ ?_ | refine ole_map ?_ | refine ole_loop ?_ | apply le_graph_Check | apply le_place_Graph_j1 | apply le_place_Graph_j2 | apply le_place_Graph_j4 | apply le_place_Side | apply le_place_Graph_j3 | apply le_place_Graph_l2
def f_place_Graph (F : Nat) (x1 : (List Diner)) : Option (Graph × Bool) :=
 ifb (decide (64 < (ln Diner.row x1))) (
 some ((Graph.mk 0 (([] : (List Edge)))), false)) (
 loopF F (f_place_Graph_l1 F x1) (0, ([] : List Edge)))
theorem le_place_Graph {F : Nat} {x1 : (List Diner)} : ole (f_place_Graph F x1) (m_place_Graph x1) := by
  unfold f_place_Graph m_place_Graph
  with_reducible repeat' first | exact ole_refl _ | assumption | intro _ | refine ole_ifb ?_ ?_ | refine ole_bind ?_ ?_ | refine ole_map ?_ | refine ole_loop ?_ | apply le_graph_Check | apply le_place_Graph_j1 | apply le_place_Graph_j2 | apply le_place_Graph_j4 | apply le_place_Side | apply le_place_Graph_j3 | apply le_place_Graph_l2 | apply le_place_Graph_l1
end NX
end Go.Proofs.Ytadebhbiglmodaa
/-
  Plain laws: the graph that nodes are of. No statement of the seat is proved here.
-/
namespace Go.Proofs.Ytadebhbiglmodaa
namespace NX
open Go
/-- May this be a side of node 'i'? -/
def sideB (l : List Diner) (i : Nat) (x : Side) : Bool :=
  decide (0 ≤ x.Peer) && (decide (x.Peer < l.length) && (!decide (x.Peer = i) && (match l[x.Peer.toNat]? with | some e => (sideO e i).isSome | none => false)))
def lastP (pre : List Side) : Option Int := pre.getLast?.map (·.Peer)
def riseB (p : Option Int) (x : Side) : Bool := match p with | none => true | some q => decide (q < x.Peer)
def okFrom (l : List Diner) (i : Nat) : Option Int → List Side → Bool
  | _, [] => true
  | p, x :: r => riseB p x && (sideB l i x && okFrom l i (some x.Peer) r)
def edgesD (i : Nat) (xs : List Side) : List Edge := (xs.filter fun x => decide ((i : Int) < x.Peer)).map fun x => ⟨i, x.Peer⟩
def okAll (l : List Diner) : Nat → List Diner → Bool
  | _, [] => true
  | i, d :: r => decide (d.ID = i) && (okFrom l i none d.Sides && okAll l (i + 1) r)
def edgesL : Nat → List Diner → List Edge
  | _, [] => []
  | i, d :: r => edgesD i d.Sides ++ edgesL (i + 1) r
def graph0 : Graph := ⟨0, []⟩
def graphP (l : List Diner) : Graph × Bool := if okAll l 0 l && okG ⟨l.length, edgesL 0 l⟩ then (⟨l.length, edgesL 0 l⟩, true) else (graph0, false)
theorem lastP_snoc (pre : List Side) (x : Side) : lastP (pre ++ [x]) = some x.Peer := by simp [lastP]
theorem edgesD_snoc (i : Nat) (pre : List Side) (x : Side) : edgesD i (pre ++ [x]) = if decide ((i : Int) < x.Peer) then edgesD i pre ++ [⟨i, x.Peer⟩] else edgesD i pre := by
  unfold edgesD
  by_cases h : (i : Int) < x.Peer <;> simp [h]
theorem edgesD_len (i : Nat) (xs : List Side) : (edgesD i xs).length ≤ xs.length := by simp [edgesD, List.length_filter_le]
theorem edgesL_append : ∀ (a b : List Diner) (i : Nat), edgesL i (a ++ b) = edgesL i a ++ edgesL (i + a.length) b
  | [], b, i => by simp [edgesL]
  | d :: a, b, i => by simp [edgesL, edgesL_append a b (i + 1), Nat.add_comm, Nat.add_left_comm]
theorem edgesL_len : ∀ (l : List Diner) (i : Nat), (∀ d ∈ l, d.Sides.length ≤ 5000) → (edgesL i l).length ≤ l.length * 5000
  | [], _, _ => by simp [edgesL]
  | d :: l, i, h => by
    have h1 := edgesL_len l (i + 1) fun e he => h e (by simp [he])
    have h2 := h d (by simp)
    have h3 := edgesD_len i d.Sides
    simp only [edgesL, List.length_append, List.length_cons]
    omega
theorem prev_step {γ : Type} {l pre post : List Side} {x : Side} (h : l = pre ++ x :: post) (hl : l.length ≤ 5000) (A : Bool → Option γ) :
    ifb (decide (0 < (pre.length : Int))) ((at_ l (wr ((pre.length : Int) - 1))).bind fun y => A (decide (x.Peer ≤ y.Peer))) (A false) = A (!riseB (lastP pre) x) := by
  rcases List.eq_nil_or_concat pre with rfl | ⟨q, y, rfl⟩
  · simp [lastP, riseB]
  · rw [List.concat_eq_append] at h ⊢
    have hy : l[q.length]? = some y := by subst h; simp
    have hm := mid_len h
    have e : decide (0 < (((q ++ [y]).length : Nat) : Int)) = true := decide_eq_true (by simp only [len_snoc]; omega)
    rw [e, ifb_true, len_snoc, wr_pred (by simp at hm; omega), at_get hy, Option.bind_some, lastP_snoc, riseB, ← decide_not]
    congr 2
    simp
theorem inner_len {l : List Diner} {pre post : List Diner} {d : Diner} (hl : fewD l) (h : l = pre ++ d :: post) : (edgesL 0 pre).length ≤ 25000000 := by
  have h1 := edgesL_len pre 0 fun e he => hl.2 e (by subst h; simp [he])
  have h2 := mid_len h
  have := hl.1
  omega
theorem s_Graph2 (l : List Diner) (hl : fewD l) (i : Nat) (d : Diner) (hd : d ∈ l) (hi : i ≤ 5000) (E : List Edge) (hE : E.length ≤ 25000000) :
    loop (m_place_Graph_l2 l i d) (0, E) = some (if okFrom l i none d.Sides then .inl (((i + 1 : Nat) : Int), E ++ edgesD i d.Sides) else .inr (graph0, false)) := by
  have hdl := hl.2 d hd
  have key := (loop_pp0 d.Sides (m_place_Graph_l2 l i d) (fun pre => ((pre.length : Int), E ++ edgesD i pre)) (fun pre post => some (if okFrom l i (lastP pre) post then .inl (((i + 1 : Nat) : Int), E ++ edgesD i (pre ++ post)) else .inr (graph0, false))) ?_ ?_)
  · rw [show edgesD i [] = [] from rfl, List.append_nil] at key; exact key
  · intro pre x post h
    have hx := mid_get h
    have hm := mid_len h
    dsimp only [m_place_Graph_l2]
    rw [lt_len hx, ifb_true, at_get hx, Option.bind_some, prev_step h hdl (m_place_Graph_j3 l i pre.length (E ++ edgesD i pre) x)]
    have bad : m_place_Graph_j3 l (i : Int) pre.length (E ++ edgesD i pre) x true = some (.inr (.inr (graph0, false))) := rfl
    by_cases h1 : x.Peer < 0
    · right
      refine ⟨_, by rw [decide_eq_true h1, ifb_true, bad], ?_⟩
      have : sideB l i x = false := by simp [sideB]; omega
      simp [okFrom, this]
    by_cases h2 : (l.length : Int) ≤ x.Peer
    · right
      refine ⟨_, by rw [decide_eq_false h1, ifb_false, ln_eq, decide_eq_true h2, ifb_true, bad], ?_⟩
      have : sideB l i x = false := by simp [sideB]; omega
      simp [okFrom, this]
    by_cases h3 : x.Peer = i
    · right
      refine ⟨_, by rw [decide_eq_false h1, ifb_false, ln_eq, decide_eq_false h2, ifb_false, decide_eq_true h3, ifb_true, bad], ?_⟩
      have : sideB l i x = false := by simp [sideB, h3]
      simp [okFrom, this]
    rw [decide_eq_false h1, ifb_false, ln_eq, decide_eq_false h2, ifb_false, decide_eq_false h3, ifb_false]
    cases h4 : riseB (lastP pre) x with
    | false =>
      right
      exact ⟨_, by rw [Bool.not_false, bad], by simp [okFrom, h4]⟩
    | true =>
      obtain ⟨e, he1, he2⟩ := at_lt (l := l) (i := x.Peer) (by omega) (by omega)
      have hes := hl.2 e (List.mem_iff_getElem?.2 ⟨_, he2⟩)
      have hsb : sideB l i x = (sideO e i).isSome := by
        rw [sideB, decide_eq_true (show 0 ≤ x.Peer by omega), decide_eq_true (show x.Peer < l.length by omega), decide_eq_false h3, he2]; simp
      rw [Bool.not_true]
      dsimp only [m_place_Graph_j3]
      rw [ifb_false, he1, Option.bind_some, s_Side e i (by omega), Option.bind_some]
      cases ho : sideO e i with
      | none =>
        right
        exact ⟨(.inr (graph0, false)), rfl, by rw [ho] at hsb; simp [okFrom, hsb]⟩
      | some y =>
        left
        rw [ho] at hsb
        refine ⟨?_, by simp [okFrom, hsb, h4, lastP_snoc]⟩
        simp only [sideP, Bool.not_true, ifb_false, m_place_Graph_j4]
        rw [edgesD_snoc, len_snoc, wr_succ (by omega)]
        have := edgesD_len i pre
        by_cases h5 : (i : Int) < x.Peer
        · rw [decide_eq_true h5, ifb_true, app_ok _ _ (by omega) (by simp; omega), Option.bind_some]
          simp
        · rw [decide_eq_false h5, ifb_false]; simp
  · dsimp only [m_place_Graph_l2]
    rw [nlt_len, ifb_false, m_place_Graph_j2, wr_succ (by omega)]
    simp [okFrom]
theorem s_Graph (l : List Diner) (hl : fewD l) : m_place_Graph l = some (graphP l) := by
  unfold m_place_Graph
  by_cases h64 : 64 < l.length
  · have : okG ⟨l.length, edgesL 0 l⟩ = false := by simp [okG]; omega
    rw [ln_eq, decide_eq_true (by omega), ifb_true]
    simp [graphP, this, graph0]
  rw [ln_eq, decide_eq_false (by omega), ifb_false]
  refine (loop_pp0 l (m_place_Graph_l1 l) (fun pre => ((pre.length : Int), edgesL 0 pre)) (fun pre post => some (if okAll l pre.length post && okG ⟨l.length, edgesL 0 (pre ++ post)⟩ then (⟨l.length, edgesL 0 (pre ++ post)⟩, true) else (graph0, false))) ?_ ?_).trans rfl
  · intro pre d post h
    have hx := mid_get h
    have hm := mid_len h
    have hd := mid_mem h
    dsimp only [m_place_Graph_l1]
    rw [lt_len hx, ifb_true, at_get hx, Option.bind_some, ifb_not]
    by_cases h1 : d.ID = pre.length
    · rw [decide_eq_true h1, ifb_true, s_Graph2 l hl pre.length d hd (by omega) _ (inner_len hl h)]
      cases h2 : okFrom l pre.length none d.Sides with
      | true => left; exact ⟨by rw [if_pos rfl, len_snoc, edgesL_append]; simp [edgesL], by simp [okAll, h1, h2]⟩
      | false => right; exact ⟨_, rfl, by simp [okAll, h2]⟩
    · right
      exact ⟨_, by rw [decide_eq_false h1, ifb_false]; rfl, by simp [okAll, h1, graph0]⟩
  · dsimp only [m_place_Graph_l1]
    rw [nlt_len, ifb_false, m_place_Graph_j1, ln_eq, s_Check, Option.bind_some]
    simp only [okAll, List.append_nil, Bool.true_and]
    cases okG ⟨l.length, edgesL 0 l⟩ <;> rfl
end NX
end Go.Proofs.Ytadebhbiglmodaa
/-
  The function narthex/dine.Check$1: its code compiled, a model, and that the code answers as the model. Written by a program of ours (lb.py). No statement of the seat is proved here.
-/
namespace Go.Proofs.Ytadebhbiglmodaa
namespace NX
open Go
set_option maxRecDepth 100000
set_option maxHeartbeats 4000000
def e123 : EC := .seq (.reg [⟨(some 3), none, .box 49 8 (.t 0)⟩, ⟨(some 4), none, .mv (.c .ff)⟩]) (.seq (.reg [⟨(some 6), none, .fld 0 (.t 3)⟩, ⟨(some 7), none, .load (.t 6)⟩, ⟨(some 8), none, .load (.t 1)⟩, ⟨(some 9), none, .bin .gtr (.t 7) (.t 8)⟩, ⟨(some 10), none, .mv (.t 9)⟩, ⟨(some 11), (some (10, true)), .fld 0 (.t 3)⟩, ⟨(some 12), (some (10, true)), .load (.t 11)⟩, ⟨(some 13), (some (10, true)), .fld 0 (.t 2)⟩, ⟨(some 14), (some (10, true)), .load (.t 13)⟩, ⟨(some 15), (some (10, true)), .bin .neq (.t 12) (.t 14)⟩, ⟨(some 16), none, .pick (.t 10) (.t 15) (.c .ff)⟩, ⟨(some 5), none, .mv (.t 16)⟩]) (.seq (.reg [⟨(some 17), none, .fld 0 (.t 3)⟩, ⟨(some 18), none, .load (.t 17)⟩, ⟨none, none, .store 1 (.t 1) (.t 18)⟩]) (.seq (.reg [⟨(some 19), none, .mv (.t 5)⟩, ⟨(some 20), none, .not (.t 19)⟩, ⟨(some 21), none, .mv (.t 20)⟩, ⟨(some 22), (some (21, false)), .fld 1 (.t 3)⟩, ⟨(some 23), (some (21, false)), .load (.t 22)⟩, ⟨(some 24), (some (21, false)), .bin .lss (.t 23) (.c (.iv 0))⟩, ⟨(some 25), none, .pick (.t 21) (.c .tt) (.t 24)⟩, ⟨(some 26), none, .mv (.t 25)⟩, ⟨(some 27), (some (26, false)), .fld 1 (.t 3)⟩, ⟨(some 28), (some (26, false)), .load (.t 27)⟩, ⟨(some 29), (some (26, false)), .bin .gtr (.t 28) (.c (.iv 65535))⟩, ⟨(some 30), none, .pick (.t 26) (.c .tt) (.t 29)⟩, ⟨(some 31), none, .mv (.t 30)⟩, ⟨(some 32), (some (31, false)), .fld 2 (.t 3)⟩, ⟨(some 33), (some (31, false)), .load (.t 32)⟩, ⟨(some 34), (some (31, false)), .bin .lss (.t 33) (.c (.iv 0))⟩, ⟨(some 35), none, .pick (.t 31) (.c .tt) (.t 34)⟩, ⟨(some 36), none, .mv (.t 35)⟩, ⟨(some 37), (some (36, false)), .fld 2 (.t 3)⟩, ⟨(some 38), (some (36, false)), .load (.t 37)⟩, ⟨(some 39), (some (36, false)), .bin .gtr (.t 38) (.c (.iv 3))⟩, ⟨(some 40), none, .pick (.t 36) (.c .tt) (.t 39)⟩, ⟨(some 41), none, .mv (.t 40)⟩, ⟨(some 42), (some (41, false)), .fld 4 (.t 3)⟩, ⟨(some 43), (some (41, false)), .load (.t 42)⟩, ⟨(some 44), (some (41, false)), .mv (.t 43)⟩, ⟨(some 45), (some (44, true)), .fld 3 (.t 3)⟩, ⟨(some 46), (some (44, true)), .load (.t 45)⟩, ⟨(some 47), (some (44, true)), .not (.t 46)⟩, ⟨(some 48), (some (41, false)), .pick (.t 44) (.t 47) (.c .ff)⟩, ⟨(some 49), none, .pick (.t 41) (.c .tt) (.t 48)⟩, ⟨(some 4), none, .mv (.t 49)⟩]) (.ret))))
theorem ok123 : FnOK Try.prog 123 Try.f123 e123 [.t 4] 3 47 := ⟨by kernel_rfl, ⟨_, rfl, by kernel_rfl⟩, by kernel_rfl, by kernel_rfl⟩
/- narthex/dine.Check$1 -/
noncomputable def m_dine_Check_1 (_x1 : Side) (_x2 : Int) (_x3 : Diner) : Option Bool :=
 none
theorem k_dine_Check_1 (x1 : Side) (x2 : Int) (x3 : Diner) (r : Bool) (h : m_dine_Check_1 x1 x2 x3 = some r) : FunP Try.prog 123 [.agg (Side.row x1), .elt (intRow x2) 0, .elt (Diner.row x3) 0] (.bv r) := by
  simp [m_dine_Check_1] at h
def f_dine_Check_1 (_F : Nat) (_x1 : Side) (_x2 : Int) (_x3 : Diner) : Option Bool := none
theorem le_dine_Check_1 {F : Nat} {x1 : Side} {x2 : Int} {x3 : Diner} : ole (f_dine_Check_1 F x1 x2 x3) (m_dine_Check_1 x1 x2 x3) := ⟨fun _ h => by simp [f_dine_Check_1] at h⟩
end NX
end Go.Proofs.Ytadebhbiglmodaa
/-
  The function slices.ContainsFunc[[]narthex/api.Side,narthex/api.Side]: its code compiled, a model, and that the code answers as the model. Written by a program of ours (lb.py). No statement of the seat is proved here.
-/
namespace Go.Proofs.Ytadebhbiglmodaa
namespace NX
open Go
set_option maxRecDepth 100000
set_option maxHeartbeats 4000000
def e124 : EC := .seq (.reg [⟨(some 4), none, .mv (.c .ff)⟩]) (.seq (.reg [⟨(some 5), none, .mv (.t 0)⟩, ⟨(some 6), none, .mv (.t 1)⟩, ⟨(some 7), none, .call 55 [(.t 5), (.t 6)]⟩, ⟨(some 8), none, .bin .geq (.t 7) (.c (.iv 0))⟩, ⟨(some 4), none, .mv (.t 8)⟩]) (.ret))
theorem ok124 : FnOK Try.prog 124 Try.f124 e124 [.t 4] 2 7 := ⟨by kernel_rfl, ⟨_, rfl, by kernel_rfl⟩, by kernel_rfl, by kernel_rfl⟩
/- slices.ContainsFunc[[]narthex/api.Side,narthex/api.Side] -/
noncomputable def m_slices_ContainsFunc_Side (x1 : (List Side)) (p1 : (Side → Option Bool)) : Option Bool :=
 (m_slices_IndexFunc_Side x1 p1).bind fun x2 =>
 some (decide (0 ≤ x2))
theorem k_slices_ContainsFunc_Side (x1 : (List Side)) (g1 : Nat) (caps1 : List AV) (p1 : (Side → Option Bool)) (hc1 : CloOK Try.prog g1 caps1 (fun z => [.agg (Side.row z)]) p1 (fun z => .bv z)) (r : Bool) (h : m_slices_ContainsFunc_Side x1 p1 = some r) : FunP Try.prog 124 [.sl 8 (List.map Side.row x1), .clo g1 caps1] (.bv r) := by
  refine FunP_intro ok124 rfl rfl fun w0 H0 => ?_
  rw [m_slices_ContainsFunc_Side] at h
  refine V_go 8 ?_; dsimp only [e124, go_sem, Nat.reduceBEq, Nat.reduceAdd]; refine ⟨by simp, ?_⟩; obtain ⟨x2, ex2, h⟩ := Option.bind_eq_some_iff.1 h; refine V_call trivial (k_slices_IndexFunc_Side x1 _ _ p1 hc1 _ ex2) (hp := (by first | rfl | simp [go_sem, hc1.pu])) (h := ?_); refine V_go 3 ?_; dsimp only [e124, go_sem, Nat.reduceBEq, Nat.reduceAdd]; refine ⟨by simp, ?_⟩; exact M_done (res := fun (r : Bool) => .bv r) ok124 h
def f_slices_ContainsFunc_Side (F : Nat) (x1 : (List Side)) (p1 : (Side → Option Bool)) : Option Bool :=
 (f_slices_IndexFunc_Side F x1 p1).bind fun x2 =>
 some (decide (0 ≤ x2))
theorem le_slices_ContainsFunc_Side {F : Nat} {x1 : (List Side)} {p1 q1 : (Side → Option Bool)} (h_p1 : ∀ z, ole (p1 z) (q1 z)) : ole (f_slices_ContainsFunc_Side F x1 p1) (m_slices_ContainsFunc_Side x1 q1) := by
  unfold f_slices_ContainsFunc_Side m_slices_ContainsFunc_Side
  with_reducible repeat' first | exact ole_refl _ | assumption | intro _ | refine ole_ifb ?_ ?_ | refine ole_bind ?_ ?_ | refine ole_map ?_ | refine ole_loop ?_ | apply le_slices_IndexFunc_Side | apply h_p1
end NX
end Go.Proofs.Ytadebhbiglmodaa
/-
  The function narthex/dine.Check: its code compiled, a model, and that the code answers as the model. Written by a program of ours (lb.py). No statement of the seat is proved here.
-/
namespace Go.Proofs.Ytadebhbiglmodaa
namespace NX
open Go
set_option maxRecDepth 100000
set_option maxHeartbeats 4000000
def e103 : EC := .seq (.reg [⟨(some 1), none, .box 39 3 (.t 0)⟩, ⟨(some 2), none, .mv (.c (.iv 0))⟩]) (.seq (.reg [⟨(some 3), none, .alloc 3 [.iv 0]⟩, ⟨none, none, .store 1 (.t 3) (.c (.iv (-1)))⟩]) (.seq (.reg [⟨(some 5), none, .mkf 123 [(.t 3), (.t 1)]⟩, ⟨(some 4), none, .mv (.t 5)⟩]) (.seq (.seq (.reg [⟨(some 6), none, .fld 0 (.t 1)⟩, ⟨(some 7), none, .load (.t 6)⟩, ⟨(some 8), none, .bin .lss (.t 7) (.c (.iv 0))⟩, ⟨(some 9), none, .mv (.t 8)⟩, ⟨(some 10), (some (9, false)), .fld 1 (.t 1)⟩, ⟨(some 11), (some (9, false)), .load (.t 10)⟩, ⟨(some 12), (some (9, false)), .bin .lss (.t 11) (.c (.iv 0))⟩, ⟨(some 13), none, .pick (.t 9) (.c .tt) (.t 12)⟩, ⟨(some 14), none, .mv (.t 13)⟩, ⟨(some 15), (some (14, false)), .fld 1 (.t 1)⟩, ⟨(some 16), (some (14, false)), .load (.t 15)⟩, ⟨(some 17), (some (14, false)), .bin .gtr (.t 16) (.c (.iv 2))⟩, ⟨(some 18), none, .pick (.t 14) (.c .tt) (.t 17)⟩, ⟨(some 19), none, .mv (.t 18)⟩, ⟨(some 20), (some (19, false)), .fld 2 (.t 1)⟩, ⟨(some 21), (some (19, false)), .load (.t 20)⟩, ⟨(some 22), (some (19, false)), .len (.t 21)⟩, ⟨(some 23), (some (19, false)), .bin .geq (.t 22) (.c (.iv 64))⟩, ⟨(some 24), none, .pick (.t 19) (.c .tt) (.t 23)⟩, ⟨(some 25), none, .mv (.t 24)⟩, ⟨(some 26), (some (25, false)), .fld 2 (.t 1)⟩, ⟨(some 27), (some (25, false)), .load (.t 26)⟩, ⟨(some 28), (some (25, false)), .mv (.t 4)⟩, ⟨(some 29), (some (25, false)), .call 124 [(.t 27), (.t 28)]⟩, ⟨(some 30), none, .pick (.t 25) (.c .tt) (.t 29)⟩]) (.ite (.t 30) (.seq (.reg [⟨(some 2), none, .mv (.c (.iv 130))⟩]) (.ret)) (.skip))) (.seq (.reg [⟨(some 2), none, .mv (.c (.iv 0))⟩]) (.ret)))))
theorem ok103 : FnOK Try.prog 103 Try.f103 e103 [.t 2] 1 30 := ⟨by kernel_rfl, ⟨_, rfl, by kernel_rfl⟩, by kernel_rfl, by kernel_rfl⟩
/- narthex/dine.Check$1, lent own memory -/
noncomputable def m_dine_Check_1_in_dine_Check_3_j2  : Bool → Option Bool
| x5 =>
 some x5
noncomputable def m_dine_Check_1_in_dine_Check_3_j1 (x1 : Side) : Bool → Option Bool
| x4 =>
 ifb (!x4) (
 m_dine_Check_1_in_dine_Check_3_j2 true) (
 ifb (decide (x1.Epoch < 0)) (
 m_dine_Check_1_in_dine_Check_3_j2 true) (
 ifb (decide (65535 < x1.Epoch)) (
 m_dine_Check_1_in_dine_Check_3_j2 true) (
 ifb (decide (x1.State < 0)) (
 m_dine_Check_1_in_dine_Check_3_j2 true) (
 ifb (decide (3 < x1.State)) (
 m_dine_Check_1_in_dine_Check_3_j2 true) (
 ifb x1.Dirty (
 m_dine_Check_1_in_dine_Check_3_j2 (!x1.Fork)) (
 m_dine_Check_1_in_dine_Check_3_j2 false))))))
noncomputable def m_dine_Check_1_in_dine_Check_3 (x1 : Side) (x2 : Diner) (x3 : Int) : Option Bool :=
 ifb (decide (x3 < x1.Peer)) (
 (m_dine_Check_1_in_dine_Check_3_j1 x1) (!decide (x1.Peer = x2.ID))) (
 (m_dine_Check_1_in_dine_Check_3_j1 x1) false)
theorem t_dine_Check_1_in_dine_Check_3 (x1 : Side) (x2 : Diner) (x3 : Int) (r : Bool) (h : m_dine_Check_1_in_dine_Check_3 x1 x2 x3 = some r) : FunT Try.prog 123 [.agg [.iv x1.Peer, .iv x1.Epoch, .iv x1.State, .bv x1.Fork, .bv x1.Dirty, .bv x1.Token, .bv x1.Bottle, .bv x1.Ask], .ptr 1 0, .ptr 0 0] [some ⟨39, [.iv x2.ID, .iv x2.Phase, .sl 8 (List.map Side.row x2.Sides)]⟩, some ⟨3, [.iv x3]⟩] [] (.bv r) [some ⟨39, [.iv x2.ID, .iv x2.Phase, .sl 8 (List.map Side.row x2.Sides)]⟩, some ⟨3, [.iv x1.Peer]⟩] [] := by
  refine FunT_intro ok123 rfl rfl rfl (by first | rfl | simp [go_sem]) fun w0 M0 => ?_
  rw [m_dine_Check_1_in_dine_Check_3] at h
  dsimp only [lun, List.cons_append, List.nil_append]
  refine V_go 12 ?_; dsimp only [e123, go_sem, Nat.reduceBEq, Nat.reduceAdd]; refine ⟨by simp, ?_⟩; refine V_join (fun (x4 : Bool) => (⟨(.any :: .ptr 1 0 :: .any :: .ptr 2 0 :: .any :: .bv x4 :: an 44 []), [some ⟨39, [.iv x2.ID, .iv x2.Phase, .sl 8 (List.map Side.row x2.Sides)]⟩, some ⟨3, [.iv x3]⟩, some ⟨49, [.iv x1.Peer, .iv x1.Epoch, .iv x1.State, .bv x1.Fork, .bv x1.Dirty, .bv x1.Token, .bv x1.Bottle, .bv x1.Ask]⟩], []⟩ : St)) (m_dine_Check_1_in_dine_Check_3_j1 x1) r ?_ fun J1 => ?_
  ·intro x4 h; rw [m_dine_Check_1_in_dine_Check_3_j1] at h; (try dsimp only); refine V_go 11 ?_; dsimp only [e123, go_sem, Nat.reduceBEq, Nat.reduceAdd]; refine ⟨by simp, ?_⟩; refine V_join (fun (x5 : Bool) => (⟨(an 4 (.bv x5 :: an 45 [])), [some ⟨39, [.iv x2.ID, .iv x2.Phase, .sl 8 (List.map Side.row x2.Sides)]⟩, some ⟨3, [.iv x1.Peer]⟩], []⟩ : St)) m_dine_Check_1_in_dine_Check_3_j2 r ?_ fun J2 => ?_
   ·intro x5 h; rw [m_dine_Check_1_in_dine_Check_3_j2] at h; (try dsimp only); obtain rfl := Option.some.inj h; exact T_done ok123 rfl (by simp [go_sem])
   ·refine M_case 21 h rfl (fun _ h => ?_) fun _ h => ?_
    ·dsimp only [go_sem, Nat.reduceBEq, Nat.reduceAdd]; refine V_go 30 ?_; dsimp only [e123, go_sem, Nat.reduceBEq, Nat.reduceAdd]; refine ⟨by simp, ?_⟩; exact M_to J2 (s := true) h
    ·dsimp only [go_sem, Nat.reduceBEq, Nat.reduceAdd]; refine V_go 5 ?_; dsimp only [e123, go_sem, Nat.reduceBEq, Nat.reduceAdd]; refine ⟨by simp, ?_⟩; refine M_case 26 h rfl (fun _ h => ?_) fun _ h => ?_
     ·dsimp only [go_sem, Nat.reduceBEq, Nat.reduceAdd]; refine V_go 25 ?_; dsimp only [e123, go_sem, Nat.reduceBEq, Nat.reduceAdd]; refine ⟨by simp, ?_⟩; exact M_to J2 (s := true) h
     ·dsimp only [go_sem, Nat.reduceBEq, Nat.reduceAdd]; refine V_go 5 ?_; dsimp only [e123, go_sem, Nat.reduceBEq, Nat.reduceAdd]; refine ⟨by simp, ?_⟩; refine M_case 31 h rfl (fun _ h => ?_) fun _ h => ?_
      ·dsimp only [go_sem, Nat.reduceBEq, Nat.reduceAdd]; refine V_go 20 ?_; dsimp only [e123, go_sem, Nat.reduceBEq, Nat.reduceAdd]; refine ⟨by simp, ?_⟩; exact M_to J2 (s := true) h
      ·dsimp only [go_sem, Nat.reduceBEq, Nat.reduceAdd]; refine V_go 5 ?_; dsimp only [e123, go_sem, Nat.reduceBEq, Nat.reduceAdd]; refine ⟨by simp, ?_⟩; refine M_case 36 h rfl (fun _ h => ?_) fun _ h => ?_
       ·dsimp only [go_sem, Nat.reduceBEq, Nat.reduceAdd]; refine V_go 15 ?_; dsimp only [e123, go_sem, Nat.reduceBEq, Nat.reduceAdd]; refine ⟨by simp, ?_⟩; exact M_to J2 (s := true) h
       ·dsimp only [go_sem, Nat.reduceBEq, Nat.reduceAdd]; refine V_go 5 ?_; dsimp only [e123, go_sem, Nat.reduceBEq, Nat.reduceAdd]; refine ⟨by simp, ?_⟩; refine M_case 41 h rfl (fun _ h => ?_) fun _ h => ?_
        ·dsimp only [go_sem, Nat.reduceBEq, Nat.reduceAdd]; refine V_go 10 ?_; dsimp only [e123, go_sem, Nat.reduceBEq, Nat.reduceAdd]; refine ⟨by simp, ?_⟩; exact M_to J2 (s := true) h
        ·dsimp only [go_sem, Nat.reduceBEq, Nat.reduceAdd]; refine V_go 3 ?_; dsimp only [e123, go_sem, Nat.reduceBEq, Nat.reduceAdd]; refine ⟨by simp, ?_⟩; refine M_case 44 h rfl (fun _ h => ?_) fun _ h => ?_
         ·dsimp only [go_sem, Nat.reduceBEq, Nat.reduceAdd]; refine V_go 7 ?_; dsimp only [e123, go_sem, Nat.reduceBEq, Nat.reduceAdd]; refine ⟨by simp, ?_⟩; exact M_to J2 (s := !x1.Fork) h
         ·dsimp only [go_sem, Nat.reduceBEq, Nat.reduceAdd]; refine V_go 7 ?_; dsimp only [e123, go_sem, Nat.reduceBEq, Nat.reduceAdd]; refine ⟨by simp, ?_⟩; exact M_to J2 (s := false) h
  ·refine M_case 10 h rfl (fun _ h => ?_) fun _ h => ?_
   ·dsimp only [go_sem, Nat.reduceBEq, Nat.reduceAdd]; refine V_go 8 ?_; dsimp only [e123, go_sem, Nat.reduceBEq, Nat.reduceAdd]; refine ⟨by simp, ?_⟩; exact M_to J1 (s := !decide (x1.Peer = x2.ID)) h
   ·dsimp only [go_sem, Nat.reduceBEq, Nat.reduceAdd]; refine V_go 8 ?_; dsimp only [e123, go_sem, Nat.reduceBEq, Nat.reduceAdd]; refine ⟨by simp, ?_⟩; exact M_to J1 (s := false) h
def f_dine_Check_1_in_dine_Check_3_j2 (_F : Nat)  : Bool → Option Bool
| x5 =>
 some x5
theorem le_dine_Check_1_in_dine_Check_3_j2 {F : Nat} : ∀ s, ole (f_dine_Check_1_in_dine_Check_3_j2 F s) (m_dine_Check_1_in_dine_Check_3_j2 s) := by
  intro x5
  unfold f_dine_Check_1_in_dine_Check_3_j2 m_dine_Check_1_in_dine_Check_3_j2
  try dsimp only
  with_reducible repeat' first | exact ole_refl _ | assumption | intro _ | refine ole_ifb ?_ ?_ | refine ole_bind ?_ ?_ | refine ole_map ?_ | refine ole_loop ?_
def f_dine_Check_1_in_dine_Check_3_j1 (F : Nat) (x1 : Side) : Bool → Option Bool
| x4 =>
 ifb (!x4) (
 f_dine_Check_1_in_dine_Check_3_j2 F true) (
 ifb (decide (x1.Epoch < 0)) (
 f_dine_Check_1_in_dine_Check_3_j2 F true) (
 ifb (decide (65535 < x1.Epoch)) (
 f_dine_Check_1_in_dine_Check_3_j2 F true) (
 ifb (decide (x1.State < 0)) (
 f_dine_Check_1_in_dine_Check_3_j2 F true) (
 ifb (decide (3 < x1.State)) (
 f_dine_Check_1_in_dine_Check_3_j2 F true) (
 ifb x1.Dirty (
 f_dine_Check_1_in_dine_Check_3_j2 F (!x1.Fork)) (
 f_dine_Check_1_in_dine_Check_3_j2 F false))))))
theorem le_dine_Check_1_in_dine_Check_3_j1 {F : Nat} {x1 : Side} : ∀ s, ole (f_dine_Check_1_in_dine_Check_3_j1 F x1 s) (m_dine_Check_1_in_dine_Check_3_j1 x1 s) := by
  intro x4
  unfold f_dine_Check_1_in_dine_Check_3_j1 m_dine_Check_1_in_dine_Check_3_j1
  try dsimp only
  with_reducible repeat' first | exact ole_refl _ | assumption | intro _ | refine ole_ifb ?_ ?_ | refine ole_bind ?_ ?_ | refine ole_map ?_ | refine ole_loop ?_ | apply le_dine_Check_1_in_dine_Check_3_j2
def f_dine_Check_1_in_dine_Check_3 (F : Nat) (x1 : Side) (x2 : Diner) (x3 : Int) : Option Bool :=
 ifb (decide (x3 < x1.Peer)) (
 (f_dine_Check_1_in_dine_Check_3_j1 F x1) (!decide (x1.Peer = x2.ID))) (
 (f_dine_Check_1_in_dine_Check_3_j1 F x1) false)
theorem le_dine_Check_1_in_dine_Check_3 {F : Nat} {x1 : Side} {x2 : Diner} {x3 : Int} : ole (f_dine_Check_1_in_dine_Check_3 F x1 x2 x3) (m_dine_Check_1_in_dine_Check_3 x1 x2 x3) := by
  unfold f_dine_Check_1_in_dine_Check_3 m_dine_Check_1_in_dine_Check_3
  with_reducible repeat' first | exact ole_refl _ | assumption | intro _ | refine ole_ifb ?_ ?_ | refine ole_bind ?_ ?_ | refine ole_map ?_ | refine ole_loop ?_ | apply le_dine_Check_1_in_dine_Check_3_j2 | apply le_dine_Check_1_in_dine_Check_3_j1
/- slices.IndexFunc[[]narthex/api.Side,narthex/api.Side], lent own memory -/
noncomputable def m_slices_IndexFunc_Side_in_dine_Check_2_j1  : Int → Option (Int × Int)
| x19 =>
 some ((-1), x19)
noncomputable def m_slices_IndexFunc_Side_in_dine_Check_2_l1 (x1 : (List Side)) (x2 : Diner) : (Int × Int) → Option ((Int × Int) ⊕ (Int × Int))
| (x8, x9) =>
 ifb (decide (x8 < (ln Side.row x1))) (
 (at_ x1 x8).bind fun x10 =>
 (m_dine_Check_1_in_dine_Check_3 x10 x2 x9).bind fun x11 =>
 ifb x11 (
 Option.map Sum.inr (some (x8, x10.Peer))) (
 some (.inl (wr (x8 + 1), x10.Peer)))) (
 Option.map Sum.inr (m_slices_IndexFunc_Side_in_dine_Check_2_j1 x9))
noncomputable def m_slices_IndexFunc_Side_in_dine_Check_2 (x1 : (List Side)) (x2 : Diner) (x3 : Int) : Option (Int × Int) :=
 loop (m_slices_IndexFunc_Side_in_dine_Check_2_l1 x1 x2) (0, x3)
theorem t_slices_IndexFunc_Side_in_dine_Check_2 (x1 : (List Side)) (x2 : Diner) (x3 : Int) (r : (Int × Int)) (h : m_slices_IndexFunc_Side_in_dine_Check_2 x1 x2 x3 = some r) : FunT Try.prog 55 [.sl 8 (List.map Side.row x1), .clo 123 [.ptr 1 0, .ptr 0 0]] [some ⟨39, [.iv x2.ID, .iv x2.Phase, .sl 8 (List.map Side.row x2.Sides)]⟩, some ⟨3, [.iv x3]⟩] [] (.iv r.1) [some ⟨39, [.iv x2.ID, .iv x2.Phase, .sl 8 (List.map Side.row x2.Sides)]⟩, some ⟨3, [.iv r.2]⟩] [] := by
  refine FunT_intro ok55 rfl rfl rfl (by first | rfl | simp [go_sem]) fun w0 M0 => ?_
  rw [m_slices_IndexFunc_Side_in_dine_Check_2] at h
  dsimp only [lun, List.cons_append, List.nil_append]
  refine V_go 11 ?_; dsimp only [e55, e55_L0, go_sem, Nat.reduceBEq, Nat.reduceAdd]; refine ⟨by simp, ?_⟩; refine V_join (fun (x19 : Int) => (⟨(an 19 []), [some ⟨39, [.iv x2.ID, .iv x2.Phase, .sl 8 (List.map Side.row x2.Sides)]⟩, some ⟨3, [.iv x19]⟩], []⟩ : St)) m_slices_IndexFunc_Side_in_dine_Check_2_j1 r ?_ fun J1 => ?_
  ·intro x19 h; rw [m_slices_IndexFunc_Side_in_dine_Check_2_j1] at h; (try dsimp only); refine V_go 4 ?_; dsimp only [e55, e55_L0, go_sem, Nat.reduceBEq, Nat.reduceAdd]; refine ⟨by simp, ?_⟩; obtain rfl := Option.some.inj h; exact T_done ok55 rfl (by simp [go_sem])
  ·refine V_go 1 ?_; dsimp only [e55, e55_L0, go_sem, Nat.reduceBEq, Nat.reduceAdd]; refine ⟨by simp, ?_⟩; refine M_loop h (fun ((x8, x9) : (Int × Int)) => (⟨(.sl 8 (List.map Side.row x1) :: .clo 123 [.ptr 1 0, .ptr 0 0] :: an 5 (.iv (ln Side.row x1) :: .iv x8 :: an 10 [])), [some ⟨39, [.iv x2.ID, .iv x2.Phase, .sl 8 (List.map Side.row x2.Sides)]⟩, some ⟨3, [.iv x9]⟩], []⟩ : St)) (by simp [go_sem]) (by rintro ⟨x8, x9⟩; first | rfl | simp [go_sem]) ?_; rintro n1 ⟨x8, x9⟩ y1 h hin1 hout1; rw [m_slices_IndexFunc_Side_in_dine_Check_2_l1] at h; (try dsimp only); refine V_go 5 ?_
   dsimp only [e55, e55_L0, go_sem, Nat.reduceBEq, Nat.reduceAdd]; refine ⟨by simp, ?_⟩; refine M_ite h rfl (fun _ h => ?_) fun _ h => ?_
   ·refine V_go 13 ?_; dsimp only [e55, e55_L0, go_sem, Nat.reduceBEq, Nat.reduceAdd]; refine ⟨by simp, ?_⟩; obtain ⟨x10, ex10, h⟩ := Option.bind_eq_some_iff.1 h; refine V_idxM Side.row ex10 trivial rfl rfl rfl ?_; refine V_go 1 ?_; dsimp only [e55, e55_L0, go_sem, Nat.reduceBEq, Nat.reduceAdd]; refine ⟨by simp, ?_⟩; obtain ⟨x11, ex11, h⟩ := Option.bind_eq_some_iff.1 h; refine V_callvT [true, true] [] trivial rfl (t_dine_Check_1_in_dine_Check_3 x10 x2 x9 _ ex11) (by kernel_rfl) (h := ?_); dsimp only [go_sem, Nat.reduceBEq, Nat.reduceAdd]; refine V_go 1 ?_
    dsimp only [e55, e55_L0, go_sem, Nat.reduceBEq, Nat.reduceAdd]; refine ⟨by simp, ?_⟩; refine M_ite h rfl (fun _ h => ?_) fun _ h => ?_
    ·refine V_go 5 ?_; dsimp only [e55, e55_L0, go_sem, Nat.reduceBEq, Nat.reduceAdd]; refine ⟨by simp, ?_⟩; obtain rfl := Option.some.inj (M_out h hout1); exact T_done ok55 rfl (by simp [go_sem])
    ·refine V_go 6 ?_; dsimp only [e55, e55_L0, go_sem, Nat.reduceBEq, Nat.reduceAdd]; refine ⟨by simp, ?_⟩; exact M_back h hin1
   ·refine V_go 1 ?_; dsimp only [e55, e55_L0, go_sem, Nat.reduceBEq, Nat.reduceAdd]; refine ⟨by simp, ?_⟩; exact M_to J1 (s := x9) (M_out h hout1)
def f_slices_IndexFunc_Side_in_dine_Check_2_j1 (_F : Nat)  : Int → Option (Int × Int)
| x19 =>
 some ((-1), x19)
theorem le_slices_IndexFunc_Side_in_dine_Check_2_j1 {F : Nat} : ∀ s, ole (f_slices_IndexFunc_Side_in_dine_Check_2_j1 F s) (m_slices_IndexFunc_Side_in_dine_Check_2_j1 s) := by
  intro x19
  unfold f_slices_IndexFunc_Side_in_dine_Check_2_j1 m_slices_IndexFunc_Side_in_dine_Check_2_j1
  try dsimp only
  with_reducible repeat' first | exact ole_refl _ | assumption | intro _ | refine ole_ifb ?_ ?_ | refine ole_bind ?_ ?_ | refine ole_map ?_ | refine ole_loop ?_
def f_slices_IndexFunc_Side_in_dine_Check_2_l1 (F : Nat) (x1 : (List Side)) (x2 : Diner) : (Int × Int) → Option ((Int × Int) ⊕ (Int × Int))
| (x8, x9) =>
 ifb (decide (x8 < (ln Side.row x1))) (
 (at_ x1 x8).bind fun x10 =>
 (f_dine_Check_1_in_dine_Check_3 F x10 x2 x9).bind fun x11 =>
 ifb x11 (
 Option.map Sum.inr (some (x8, x10.Peer))) (
 some (.inl (wr (x8 + 1), x10.Peer)))) (
 Option.map Sum.inr (f_slices_IndexFunc_Side_in_dine_Check_2_j1 F x9))
theorem le_slices_IndexFunc_Side_in_dine_Check_2_l1 {F : Nat} {x1 : (List Side)} {x2 : Diner} : ∀ s, ole (f_slices_IndexFunc_Side_in_dine_Check_2_l1 F x1 x2 s) (m_slices_IndexFunc_Side_in_dine_Check_2_l1 x1 x2 s) := by
  rintro ⟨x8, x9⟩
  unfold f_slices_IndexFunc_Side_in_dine_Check_2_l1 m_slices_IndexFunc_Side_in_dine_Check_2_l1
  try dsimp only
  with_reducible repeat' first | exact ole_refl _ | assumption | intro _ | refine ole_ifb ?_ ?_ | refine ole_bind ?_ ?_ | refine ole_map ?_ | refine ole_loop ?_ | apply le_slices_IndexFunc_Side_in_dine_Check_2_j1 | apply le_dine_Check_1_in_dine_Check_3
def f_slices_IndexFunc_Side_in_dine_Check_2 (F : Nat) (x1 : (List Side)) (x2 : Diner) (x3 : Int) : Option (Int × Int) :=
 loopF F (f_slices_IndexFunc_Side_in_dine_Check_2_l1 F x1 x2) (0, x3)
theorem le_slices_IndexFunc_Side_in_dine_Check_2 {F : Nat} {x1 : (List Side)} {x2 : Diner} {x3 : Int} : ole (f_slices_IndexFunc_Side_in_dine_Check_2 F x1 x2 x3) (m_slices_IndexFunc_Side_in_dine_Check_2 x1 x2 x3) := by
  unfold f_slices_IndexFunc_Side_in_dine_Check_2 m_slices_IndexFunc_Side_in_dine_Check_2
  with_reducible repeat' first | exact ole_refl _ | assumption | intro _ | refine ole_ifb ?_ ?_ | refine ole_bind ?_ ?_ | refine ole_map ?_ | refine ole_loop ?_ | apply le_slices_IndexFunc_Side_in_dine_Check_2_j1 | apply le_dine_Check_1_in_dine_Check_3 | apply le_slices_IndexFunc_Side_in_dine_Check_2_l1
/- slices.ContainsFunc[[]narthex/api.Side,narthex/api.Side], lent own memory -/
noncomputable def m_slices_ContainsFunc_Side_in_dine_Check_1 (x1 : (List Side)) (x2 : Diner) (x3 : Int) : Option (Bool × Int) :=
 (m_slices_IndexFunc_Side_in_dine_Check_2 x1 x2 x3).bind fun x4 =>
 some (decide (0 ≤ x4.1), x4.2)
theorem t_slices_ContainsFunc_Side_in_dine_Check_1 (x1 : (List Side)) (x2 : Diner) (x3 : Int) (r : (Bool × Int)) (h : m_slices_ContainsFunc_Side_in_dine_Check_1 x1 x2 x3 = some r) : FunT Try.prog 124 [.sl 8 (List.map Side.row x1), .clo 123 [.ptr 1 0, .ptr 0 0]] [some ⟨39, [.iv x2.ID, .iv x2.Phase, .sl 8 (List.map Side.row x2.Sides)]⟩, some ⟨3, [.iv x3]⟩] [] (.bv r.1) [some ⟨39, [.iv x2.ID, .iv x2.Phase, .sl 8 (List.map Side.row x2.Sides)]⟩, some ⟨3, [.iv r.2]⟩] [] := by
  refine FunT_intro ok124 rfl rfl rfl (by first | rfl | simp [go_sem]) fun w0 M0 => ?_
  rw [m_slices_ContainsFunc_Side_in_dine_Check_1] at h
  dsimp only [lun, List.cons_append, List.nil_append]
  refine V_go 8 ?_; dsimp only [e124, go_sem, Nat.reduceBEq, Nat.reduceAdd]; refine ⟨by simp, ?_⟩; obtain ⟨x4, ex4, h⟩ := Option.bind_eq_some_iff.1 h; refine V_callT [true, true] [] trivial (t_slices_IndexFunc_Side_in_dine_Check_2 x1 x2 x3 _ ex4) (h := ?_); dsimp only [go_sem, Nat.reduceBEq, Nat.reduceAdd]; refine V_go 3 ?_; dsimp only [e124, go_sem, Nat.reduceBEq, Nat.reduceAdd]; refine ⟨by simp, ?_⟩; obtain rfl := Option.some.inj h; exact T_done ok124 rfl (by simp [go_sem])
def f_slices_ContainsFunc_Side_in_dine_Check_1 (F : Nat) (x1 : (List Side)) (x2 : Diner) (x3 : Int) : Option (Bool × Int) :=
 (f_slices_IndexFunc_Side_in_dine_Check_2 F x1 x2 x3).bind fun x4 =>
 some (decide (0 ≤ x4.1), x4.2)
theorem le_slices_ContainsFunc_Side_in_dine_Check_1 {F : Nat} {x1 : (List Side)} {x2 : Diner} {x3 : Int} : ole (f_slices_ContainsFunc_Side_in_dine_Check_1 F x1 x2 x3) (m_slices_ContainsFunc_Side_in_dine_Check_1 x1 x2 x3) := by
  unfold f_slices_ContainsFunc_Side_in_dine_Check_1 m_slices_ContainsFunc_Side_in_dine_Check_1
  with_reducible repeat' first | exact ole_refl _ | assumption | intro _ | refine ole_ifb ?_ ?_ | refine ole_bind ?_ ?_ | refine ole_map ?_ | refine ole_loop ?_ | apply le_slices_IndexFunc_Side_in_dine_Check_2
/- narthex/dine.Check -/
noncomputable def m_dine_Check_j1  : Bool → Option Int
| x3 =>
 ifb x3 (
 some 130) (
 some 0)
noncomputable def m_dine_Check (x1 : Diner) : Option Int :=
 ifb (decide (x1.ID < 0)) (
 m_dine_Check_j1 true) (
 ifb (decide (x1.Phase < 0)) (
 m_dine_Check_j1 true) (
 ifb (decide (2 < x1.Phase)) (
 m_dine_Check_j1 true) (
 ifb (decide (64 ≤ (ln Side.row x1.Sides))) (
 m_dine_Check_j1 true) (
 (m_slices_ContainsFunc_Side_in_dine_Check_1 x1.Sides x1 ((-1))).bind fun x2 =>
 m_dine_Check_j1 x2.1))))
theorem k_dine_Check (x1 : Diner) (r : Int) (h : m_dine_Check x1 = some r) : FunP Try.prog 103 [.agg (Diner.row x1)] (.iv r) := by
  refine FunP_intro ok103 rfl rfl fun w0 H0 => ?_
  rw [m_dine_Check] at h
  refine V_go 22 ?_; dsimp only [e103, go_sem, Nat.reduceBEq, Nat.reduceAdd]; refine ⟨by simp, ?_⟩; refine V_join (fun (x3 : Bool) => (⟨(an 30 [.bv x3]), [], []⟩ : St)) m_dine_Check_j1 r ?_ fun J1 => ?_
  ·intro x3 h; rw [m_dine_Check_j1] at h; (try dsimp only); refine M_ite h rfl (fun _ h => ?_) fun _ h => ?_
   ·refine V_go 4 ?_; dsimp only [e103, go_sem, Nat.reduceBEq, Nat.reduceAdd]; refine ⟨by simp, ?_⟩; exact M_done (res := fun (r : Int) => .iv r) ok103 h
   ·refine V_go 5 ?_; dsimp only [e103, go_sem, Nat.reduceBEq, Nat.reduceAdd]; refine ⟨by simp, ?_⟩; exact M_done (res := fun (r : Int) => .iv r) ok103 h
  ·refine M_case 9 h rfl (fun _ h => ?_) fun _ h => ?_
   ·dsimp only [go_sem, Nat.reduceBEq, Nat.reduceAdd]; refine V_go 22 ?_; dsimp only [e103, go_sem, Nat.reduceBEq, Nat.reduceAdd]; refine ⟨by simp, ?_⟩; exact M_to J1 (s := true) h
   ·dsimp only [go_sem, Nat.reduceBEq, Nat.reduceAdd]; refine V_go 5 ?_; dsimp only [e103, go_sem, Nat.reduceBEq, Nat.reduceAdd]; refine ⟨by simp, ?_⟩; refine M_case 14 h rfl (fun _ h => ?_) fun _ h => ?_
    ·dsimp only [go_sem, Nat.reduceBEq, Nat.reduceAdd]; refine V_go 17 ?_; dsimp only [e103, go_sem, Nat.reduceBEq, Nat.reduceAdd]; refine ⟨by simp, ?_⟩; exact M_to J1 (s := true) h
    ·dsimp only [go_sem, Nat.reduceBEq, Nat.reduceAdd]; refine V_go 5 ?_; dsimp only [e103, go_sem, Nat.reduceBEq, Nat.reduceAdd]; refine ⟨by simp, ?_⟩; refine M_case 19 h rfl (fun _ h => ?_) fun _ h => ?_
     ·dsimp only [go_sem, Nat.reduceBEq, Nat.reduceAdd]; refine V_go 12 ?_; dsimp only [e103, go_sem, Nat.reduceBEq, Nat.reduceAdd]; refine ⟨by simp, ?_⟩; exact M_to J1 (s := true) h
     ·dsimp only [go_sem, Nat.reduceBEq, Nat.reduceAdd]; refine V_go 6 ?_; dsimp only [e103, go_sem, Nat.reduceBEq, Nat.reduceAdd]; refine ⟨by simp, ?_⟩; refine M_case 25 h rfl (fun _ h => ?_) fun _ h => ?_
      ·dsimp only [go_sem, Nat.reduceBEq, Nat.reduceAdd]; refine V_go 6 ?_; dsimp only [e103, go_sem, Nat.reduceBEq, Nat.reduceAdd]; refine ⟨by simp, ?_⟩; exact M_to J1 (s := true) h
      ·dsimp only [go_sem, Nat.reduceBEq, Nat.reduceAdd]; refine V_go 3 ?_; dsimp only [e103, go_sem, Nat.reduceBEq, Nat.reduceAdd]; refine ⟨by simp, ?_⟩; obtain ⟨x2, ex2, h⟩ := Option.bind_eq_some_iff.1 h; refine V_callT [true, true] [] trivial (t_slices_ContainsFunc_Side_in_dine_Check_1 x1.Sides x1 ((-1)) _ ex2) (h := ?_); dsimp only [go_sem, Nat.reduceBEq, Nat.reduceAdd]; refine V_go 2 ?_; dsimp only [e103, go_sem, Nat.reduceBEq, Nat.reduceAdd]; refine ⟨by simp, ?_⟩; exact M_to J1 (s := x2.1) h
def f_dine_Check_j1 (_F : Nat)  : Bool → Option Int
| x3 =>
 ifb x3 (
 some 130) (
 some 0)
theorem le_dine_Check_j1 {F : Nat} : ∀ s, ole (f_dine_Check_j1 F s) (m_dine_Check_j1 s) := by
  intro x3
  unfold f_dine_Check_j1 m_dine_Check_j1
  try dsimp only
  with_reducible repeat' first | exact ole_refl _ | assumption | intro _ | refine ole_ifb ?_ ?_ | refine ole_bind ?_ ?_ | refine ole_map ?_ | refine ole_loop ?_
def f_dine_Check (F : Nat) (x1 : Diner) : Option Int :=
 ifb (decide (x1.ID < 0)) (
 f_dine_Check_j1 F true) (
 ifb (decide (x1.Phase < 0)) (
 f_dine_Check_j1 F true) (
 ifb (decide (2 < x1.Phase)) (
 f_dine_Check_j1 F true) (
 ifb (decide (64 ≤ (ln Side.row x1.Sides))) (
 f_dine_Check_j1 F true) (
 (f_slices_ContainsFunc_Side_in_dine_Check_1 F x1.Sides x1 ((-1))).bind fun x2 =>
 f_dine_Check_j1 F x2.1))))
theorem le_dine_Check {F : Nat} {x1 : Diner} : ole (f_dine_Check F x1) (m_dine_Check x1) := by
  unfold f_dine_Check m_dine_Check
  with_reducible repeat' first | exact ole_refl _ | assumption | intro _ | refine ole_ifb ?_ ?_ | refine ole_bind ?_ ?_ | refine ole_map ?_ | refine ole_loop ?_ | apply le_dine_Check_j1 | apply le_slices_ContainsFunc_Side_in_dine_Check_1
end NX
end Go.Proofs.Ytadebhbiglmodaa
/-
  The function slices.Clone[[]narthex/api.Side,narthex/api.Side]: its code compiled, a model, and that the code answers as the model. Written by a program of ours (lb.py). No statement of the seat is proved here.
-/
namespace Go.Proofs.Ytadebhbiglmodaa
namespace NX
open Go
set_option maxRecDepth 100000
set_option maxHeartbeats 4000000
def e121 : EC := .seq (.reg [⟨(some 2), none, .mv (.c .nl)⟩]) (.seq (.seq (.reg [⟨(some 3), none, .mv (.t 0)⟩, ⟨(some 4), none, .isnil false (.t 3)⟩]) (.ite (.t 4) (.seq (.reg [⟨(some 2), none, .mv (.c .nl)⟩]) (.ret)) (.skip))) (.seq (.reg [⟨(some 5), none, .bsl 49 8 0 [.iv 0, .iv 0, .iv 0, .ff, .ff, .ff, .ff, .ff] []⟩, ⟨(some 6), none, .mv (.t 0)⟩, ⟨(some 7), none, .app 49 8 32 (.t 5) (.t 6)⟩, ⟨(some 2), none, .mv (.t 7)⟩]) (.ret)))
theorem ok121 : FnOK Try.prog 121 Try.f121 e121 [.t 2] 1 7 := ⟨by kernel_rfl, ⟨_, rfl, by kernel_rfl⟩, by kernel_rfl, by kernel_rfl⟩
/- slices.Clone[[]narthex/api.Side,narthex/api.Side] -/
noncomputable def m_slices_Clone_Side (x1 : (List Side)) : Option (List Side) := app_ 32 [] x1
theorem o_slices_Clone_Side (x1 : (List Side)) (r : (List Side)) (h : m_slices_Clone_Side x1 = some r) : FunO Try.prog 121 [.sl 8 (List.map Side.row x1)] 49 8 (List.map Side.row r) := by
  refine FunO_intro ok121 rfl fun w0 H0 => ?_
  rw [m_slices_Clone_Side] at h
  refine V_go 100 ?_
  dsimp only [e121, go_sem, Nat.reduceBEq, Nat.reduceAdd]
  refine ⟨by simp, ?_⟩
  refine V_isnil trivial rfl (fun hn => ?_) ?_
  · refine V_go 100 ?_
    dsimp only [go_sem, Nat.reduceBEq, Nat.reduceAdd]
    refine ⟨by simp, ?_⟩
    refine V_own 2 49 8 rfl rfl ?_
    dsimp only [go_sem, Nat.reduceBEq, Nat.reduceAdd]
    have hn : x1 = [] := by simpa using hn
    subst hn
    exact O_doneM Side.row (e := []) ok121 (by simpa [app_] using h) rfl rfl
  · refine V_go 100 ?_
    dsimp only [go_sem, Nat.reduceBEq, Nat.reduceAdd]
    refine ⟨by simp, ?_⟩
    refine V_appM Side.row h trivial rfl rfl rfl ?_
    refine V_go 100 ?_
    dsimp only [go_sem, Nat.reduceBEq, Nat.reduceAdd]
    refine ⟨by simp, ?_⟩
    exact O_doneM Side.row ok121 (rfl : some r = some r) rfl rfl
theorem k_slices_Clone_Side (x1 : (List Side)) (r : (List Side)) (h : m_slices_Clone_Side x1 = some r) : FunP Try.prog 121 [.sl 8 (List.map Side.row x1)] (.sl 8 (List.map Side.row r)) := (o_slices_Clone_Side x1 r h).sealed
def f_slices_Clone_Side (_F : Nat) (x1 : (List Side)) : Option (List Side) := app_ 32 [] x1
theorem le_slices_Clone_Side {F : Nat} {x1 : (List Side)} : ole (f_slices_Clone_Side F x1) (m_slices_Clone_Side x1) := ole_refl _
end NX
end Go.Proofs.Ytadebhbiglmodaa
/-
  The function narthex/dine.turned: its code compiled, a model, and that the code answers as the model. Written by a program of ours (lb.py). No statement of the seat is proved here.
-/
namespace Go.Proofs.Ytadebhbiglmodaa
namespace NX
open Go
set_option maxRecDepth 100000
set_option maxHeartbeats 4000000
def e107 : EC := .seq (.reg [⟨(some 3), none, .box 39 3 (.t 0)⟩, ⟨(some 6), none, .alloc 39 [.iv 0, .iv 0, .nl]⟩, ⟨(some 7), none, .mv (.c (.iv 0))⟩]) (.seq (.reg [⟨(some 9), none, .loadA 3 (.t 3)⟩, ⟨(some 10), none, .call 103 [(.t 9)]⟩, ⟨(some 8), none, .mv (.t 10)⟩]) (.seq (.seq (.reg [⟨(some 11), none, .mv (.t 8)⟩, ⟨(some 12), none, .bin .eql (.t 11) (.c (.iv 0))⟩, ⟨(some 13), none, .mv (.t 12)⟩, ⟨(some 14), (some (13, true)), .fld 1 (.t 3)⟩, ⟨(some 15), (some (13, true)), .load (.t 14)⟩, ⟨(some 16), (some (13, true)), .mv (.t 1)⟩, ⟨(some 17), (some (13, true)), .bin .neq (.t 15) (.t 16)⟩, ⟨(some 18), none, .pick (.t 13) (.t 17) (.c .ff)⟩]) (.ite (.t 18) (.reg [⟨(some 8), none, .mv (.c (.iv 134))⟩]) (.skip))) (.seq (.seq (.reg [⟨(some 19), none, .mv (.t 8)⟩, ⟨(some 20), none, .bin .neq (.t 19) (.c (.iv 0))⟩]) (.ite (.t 20) (.seq (.reg [⟨(some 21), none, .build [.iv 0, .iv 0, .nl] []⟩, ⟨(some 22), none, .mv (.t 8)⟩, ⟨none, none, .store 3 (.t 6) (.t 21)⟩, ⟨(some 7), none, .mv (.t 22)⟩]) (.ret)) (.skip))) (.seq (.drw [⟨(some 23), none, .fld 0 (.t 3)⟩, ⟨(some 24), none, .load (.t 23)⟩, ⟨(some 25), none, .mv (.t 2)⟩, ⟨(some 26), none, .fld 2 (.t 3)⟩, ⟨(some 27), none, .load (.t 26)⟩, ⟨(some 28), none, .call 121 [(.t 27)]⟩, ⟨(some 29), none, .build [.iv 0, .iv 0, .nl] [(0, 1, (.t 24)), (1, 1, (.t 25)), (2, 1, (.t 28))]⟩, ⟨none, none, .store 3 (.t 6) (.t 29)⟩, ⟨(some 7), none, .mv (.c (.iv 0))⟩] [[], [0], [], [], [3], [4], [1, 2, 5], [6, 5, 0, 1, 2, 3, 4, 5, 6], [7, 0, 1, 2, 3, 4, 5, 6, 7]] [[1], [0, 6], [6], [4], [3, 5], [4, 6], [1, 2, 5, 7], [6], []]) (.ret)))))
theorem ok107 : FnOK Try.prog 107 Try.f107 e107 [.c 6 (some 3), .t 7] 3 27 := ⟨by kernel_rfl, ⟨_, rfl, by kernel_rfl⟩, by kernel_rfl, by kernel_rfl⟩
/- narthex/dine.turned -/
noncomputable def m_dine_turned_j2 (x1 : Diner) (x3 : Int) : Int → Option (Diner × Int)
| x6 =>
 ifb (!decide (x6 = 0)) (
 some ((Diner.mk 0 0 (([] : (List Side)))), x6)) (
 (m_slices_Clone_Side x1.Sides).bind fun x7 =>
 some ((Diner.mk x1.ID x3 x7), 0))
noncomputable def m_dine_turned_j1 (x1 : Diner) (x3 : Int) (x4 : Int) : Bool → Option (Diner × Int)
| x5 =>
 ifb x5 (
 (m_dine_turned_j2 x1 x3) 134) (
 (m_dine_turned_j2 x1 x3) x4)
noncomputable def m_dine_turned (x1 : Diner) (x2 : Int) (x3 : Int) : Option (Diner × Int) :=
 (m_dine_Check x1).bind fun x4 =>
 ifb (decide (x4 = 0)) (
 (m_dine_turned_j1 x1 x3 x4) (!decide (x1.Phase = x2))) (
 (m_dine_turned_j1 x1 x3 x4) false)
theorem k_dine_turned (x1 : Diner) (x2 : Int) (x3 : Int) (r : (Diner × Int)) (h : m_dine_turned x1 x2 x3 = some r) : FunP Try.prog 107 [.agg (Diner.row x1), .iv x2, .iv x3] (.tup [.agg (Diner.row r.1), .iv r.2]) := by
  refine FunP_intro ok107 rfl rfl fun w0 H0 => ?_
  rw [m_dine_turned] at h
  refine V_go 9 ?_; dsimp only [e107, go_sem, Nat.reduceBEq, Nat.reduceAdd]; refine ⟨by simp, ?_⟩; obtain ⟨x4, ex4, h⟩ := Option.bind_eq_some_iff.1 h; refine V_call trivial (k_dine_Check x1 _ ex4) (h := ?_); refine V_go 8 ?_; dsimp only [e107, go_sem, Nat.reduceBEq, Nat.reduceAdd]; refine ⟨by simp, ?_⟩
  refine V_join (fun (x5 : Bool) => (⟨(.any :: .any :: .iv x3 :: .ptr 0 0 :: .any :: .any :: .ptr 1 0 :: .any :: .iv x4 :: an 9 (.bv x5 :: an 11 [])), [some ⟨39, [.iv x1.ID, .iv x1.Phase, .sl 8 (List.map Side.row x1.Sides)]⟩, some ⟨39, [.iv 0, .iv 0, .nl]⟩], []⟩ : St)) (m_dine_turned_j1 x1 x3 x4) r ?_ fun J1 => ?_
  ·intro x5 h; rw [m_dine_turned_j1] at h; (try dsimp only); refine V_join (fun (x6 : Int) => (⟨(.any :: .any :: .iv x3 :: .ptr 0 0 :: .any :: .any :: .ptr 1 0 :: .any :: .iv x6 :: an 21 []), [some ⟨39, [.iv x1.ID, .iv x1.Phase, .sl 8 (List.map Side.row x1.Sides)]⟩, some ⟨39, [.iv 0, .iv 0, .nl]⟩], []⟩ : St)) (m_dine_turned_j2 x1 x3) r ?_ fun J2 => ?_
   ·intro x6 h; rw [m_dine_turned_j2] at h; (try dsimp only); refine V_go 6 ?_; dsimp only [e107, go_sem, Nat.reduceBEq, Nat.reduceAdd]; refine ⟨by simp, ?_⟩; refine M_ite h rfl (fun _ h => ?_) fun _ h => ?_
    ·refine V_go 7 ?_; dsimp only [e107, go_sem, Nat.reduceBEq, Nat.reduceAdd]; refine ⟨by simp, ?_⟩; exact M_done (res := fun (r : (Diner × Int)) => .tup [.agg (Diner.row r.1), .iv r.2]) ok107 h
    ·refine V_go 2 ?_; dsimp only [e107, go_sem, Nat.reduceBEq, Nat.reduceAdd]; refine ⟨by simp, ?_⟩; refine V_drw (by kernel_rfl) fun all hall hs hnap haf => ?_; dsimp only [go_sem, Nat.reduceBEq, Nat.reduceAdd]; refine G_goN hall hs haf hnap 5 4 ?_; dsimp only [go_sem, Nat.reduceBEq, Nat.reduceAdd]; refine ⟨by simp, ?_⟩; refine G_one 5 rfl ?_; obtain ⟨x7, ex7, h⟩ := Option.bind_eq_some_iff.1 h; refine GO_callO hall rfl trivial (o_slices_Clone_Side x1.Sides _ ex7) (h := ?_); dsimp only [go_sem, Nat.reduceBEq, Nat.reduceAdd]; refine G_goN hall hs haf hnap 1 2 ?_
     dsimp only [go_sem, Nat.reduceBEq, Nat.reduceAdd]; refine ⟨by simp, ?_⟩; refine G_one 7 rfl ?_; refine GO_ev hall rfl trivial ?_; dsimp only [go_sem, Nat.reduceBEq, Nat.reduceAdd]; refine G_goN hall hs haf hnap 1 0 ?_; dsimp only [go_sem, Nat.reduceBEq, Nat.reduceAdd]; refine ⟨by simp, ?_⟩; refine G_done rfl ?_ _; refine V_seal 0 rfl ?_; dsimp only [go_sem, Nat.reduceBEq, Nat.reduceAdd]; exact M_done (res := fun (r : (Diner × Int)) => .tup [.agg (Diner.row r.1), .iv r.2]) ok107 h
   ·refine M_ite h rfl (fun _ h => ?_) fun _ h => ?_
    ·refine V_go 3 ?_; dsimp only [e107, go_sem, Nat.reduceBEq, Nat.reduceAdd]; refine ⟨by simp, ?_⟩; exact M_to J2 (s := 134) h
    ·refine V_go 1 ?_; dsimp only [e107, go_sem, Nat.reduceBEq, Nat.reduceAdd]; refine ⟨by simp, ?_⟩; exact M_to J2 (s := x4) h
  ·refine M_case 13 h rfl (fun _ h => ?_) fun _ h => ?_
   ·dsimp only [go_sem, Nat.reduceBEq, Nat.reduceAdd]; refine V_go 6 ?_; dsimp only [e107, go_sem, Nat.reduceBEq, Nat.reduceAdd]; refine ⟨by simp, ?_⟩; exact M_to J1 (s := !decide (x1.Phase = x2)) h
   ·dsimp only [go_sem, Nat.reduceBEq, Nat.reduceAdd]; refine V_go 6 ?_; dsimp only [e107, go_sem, Nat.reduceBEq, Nat.reduceAdd]; refine ⟨by simp, ?_⟩; exact M_to J1 (s := false) h
def f_dine_turned_j2 (F : Nat) (x1 : Diner) (x3 : Int) : Int → Option (Diner × Int)
| x6 =>
 ifb (!decide (x6 = 0)) (
 some ((Diner.mk 0 0 (([] : (List Side)))), x6)) (
 (f_slices_Clone_Side F x1.Sides).bind fun x7 =>
 some ((Diner.mk x1.ID x3 x7), 0))
theorem le_dine_turned_j2 {F : Nat} {x1 : Diner} {x3 : Int} : ∀ s, ole (f_dine_turned_j2 F x1 x3 s) (m_dine_turned_j2 x1 x3 s) := by
  intro x6
  unfold f_dine_turned_j2 m_dine_turned_j2
  try dsimp only
  with_reducible repeat' first | exact ole_refl _ | assumption | intro _ | refine ole_ifb ?_ ?_ | refine ole_bind ?_ ?_ | refine ole_map ?_ | refine ole_loop ?_ | apply le_slices_Clone_Side
def f_dine_turned_j1 (F : Nat) (x1 : Diner) (x3 : Int) (x4 : Int) : Bool → Option (Diner × Int)
| x5 =>
 ifb x5 (
 (f_dine_turned_j2 F x1 x3) 134) (
 (f_dine_turned_j2 F x1 x3) x4)
theorem le_dine_turned_j1 {F : Nat} {x1 : Diner} {x3 : Int} {x4 : Int} : ∀ s, ole (f_dine_turned_j1 F x1 x3 x4 s) (m_dine_turned_j1 x1 x3 x4 s) := by
  intro x5
  unfold f_dine_turned_j1 m_dine_turned_j1
  try dsimp only
  with_reducible repeat' first | exact ole_refl _ | assumption | intro _ | refine ole_ifb ?_ ?_ | refine ole_bind ?_ ?_ | refine ole_map ?_ | refine ole_loop ?_ | apply le_slices_Clone_Side | apply le_dine_turned_j2
def f_dine_turned (F : Nat) (x1 : Diner) (x2 : Int) (x3 : Int) : Option (Diner × Int) :=
 (f_dine_Check F x1).bind fun x4 =>
 ifb (decide (x4 = 0)) (
 (f_dine_turned_j1 F x1 x3 x4) (!decide (x1.Phase = x2))) (
 (f_dine_turned_j1 F x1 x3 x4) false)
theorem le_dine_turned {F : Nat} {x1 : Diner} {x2 : Int} {x3 : Int} : ole (f_dine_turned F x1 x2 x3) (m_dine_turned x1 x2 x3) := by
  unfold f_dine_turned m_dine_turned
  with_reducible repeat' first | exact ole_refl _ | assumption | intro _ | refine ole_ifb ?_ ?_ | refine ole_bind ?_ ?_ | refine ole_map ?_ | refine ole_loop ?_ | apply le_slices_Clone_Side | apply le_dine_turned_j2 | apply le_dine_turned_j1 | apply le_dine_Check
end NX
end Go.Proofs.Ytadebhbiglmodaa
/-
  The function narthex/dine.Stop: its code compiled, a model, and that the code answers as the model. Written by a program of ours (lb.py). No statement of the seat is proved here.
-/
namespace Go.Proofs.Ytadebhbiglmodaa
namespace NX
open Go
set_option maxRecDepth 100000
set_option maxHeartbeats 4000000
def e77 : EC := .seq (.reg [⟨(some 1), none, .box 39 3 (.t 0)⟩, ⟨(some 2), none, .alloc 39 [.iv 0, .iv 0, .nl]⟩, ⟨(some 3), none, .mv (.c (.iv 0))⟩]) (.seq (.reg [⟨(some 4), none, .loadA 3 (.t 1)⟩, ⟨(some 5), none, .call 107 [(.t 4), (.c (.iv 2)), (.c (.iv 0))]⟩, ⟨(some 6), none, .ext (.t 5) 0⟩, ⟨(some 7), none, .ext (.t 5) 1⟩, ⟨none, none, .store 3 (.t 2) (.t 6)⟩, ⟨(some 3), none, .mv (.t 7)⟩]) (.ret))
theorem ok77 : FnOK Try.prog 77 Try.f77 e77 [.c 2 (some 3), .t 3] 1 7 := ⟨by kernel_rfl, ⟨_, rfl, by kernel_rfl⟩, by kernel_rfl, by kernel_rfl⟩
/- narthex/dine.Stop -/
noncomputable def m_dine_Stop (x1 : Diner) : Option (Diner × Int) :=
 (m_dine_turned x1 2 0).bind fun x2 =>
 some (x2.1, x2.2)
theorem k_dine_Stop (x1 : Diner) (r : (Diner × Int)) (h : m_dine_Stop x1 = some r) : FunP Try.prog 77 [.agg (Diner.row x1)] (.tup [.agg (Diner.row r.1), .iv r.2]) := by
  refine FunP_intro ok77 rfl rfl fun w0 H0 => ?_
  rw [m_dine_Stop] at h
  refine V_go 9 ?_; dsimp only [e77, go_sem, Nat.reduceBEq, Nat.reduceAdd]; refine ⟨by simp, ?_⟩; obtain ⟨x2, ex2, h⟩ := Option.bind_eq_some_iff.1 h; refine V_call trivial (k_dine_turned x1 2 0 _ ex2) (h := ?_); refine V_go 5 ?_; dsimp only [e77, go_sem, Nat.reduceBEq, Nat.reduceAdd]; refine ⟨by simp, ?_⟩; exact M_done (res := fun (r : (Diner × Int)) => .tup [.agg (Diner.row r.1), .iv r.2]) ok77 h
def f_dine_Stop (F : Nat) (x1 : Diner) : Option (Diner × Int) :=
 (f_dine_turned F x1 2 0).bind fun x2 =>
 some (x2.1, x2.2)
theorem le_dine_Stop {F : Nat} {x1 : Diner} : ole (f_dine_Stop F x1) (m_dine_Stop x1) := by
  unfold f_dine_Stop m_dine_Stop
  with_reducible repeat' first | exact ole_refl _ | assumption | intro _ | refine ole_ifb ?_ ?_ | refine ole_bind ?_ ?_ | refine ole_map ?_ | refine ole_loop ?_ | apply le_dine_turned
end NX
end Go.Proofs.Ytadebhbiglmodaa
/-
  The function narthex/dine.Start: its code compiled, a model, and that the code answers as the model. Written by a program of ours (lb.py). No statement of the seat is proved here.
-/
namespace Go.Proofs.Ytadebhbiglmodaa
namespace NX
open Go
set_option maxRecDepth 100000
set_option maxHeartbeats 4000000
def e94 : EC := .seq (.reg [⟨(some 1), none, .box 39 3 (.t 0)⟩, ⟨(some 2), none, .alloc 39 [.iv 0, .iv 0, .nl]⟩, ⟨(some 3), none, .mv (.c (.iv 0))⟩]) (.seq (.reg [⟨(some 4), none, .loadA 3 (.t 1)⟩, ⟨(some 5), none, .call 107 [(.t 4), (.c (.iv 0)), (.c (.iv 1))]⟩, ⟨(some 6), none, .ext (.t 5) 0⟩, ⟨(some 7), none, .ext (.t 5) 1⟩, ⟨none, none, .store 3 (.t 2) (.t 6)⟩, ⟨(some 3), none, .mv (.t 7)⟩]) (.ret))
theorem ok94 : FnOK Try.prog 94 Try.f94 e94 [.c 2 (some 3), .t 3] 1 7 := ⟨by kernel_rfl, ⟨_, rfl, by kernel_rfl⟩, by kernel_rfl, by kernel_rfl⟩
/- narthex/dine.Start -/
noncomputable def m_dine_Start (x1 : Diner) : Option (Diner × Int) :=
 (m_dine_turned x1 0 1).bind fun x2 =>
 some (x2.1, x2.2)
theorem k_dine_Start (x1 : Diner) (r : (Diner × Int)) (h : m_dine_Start x1 = some r) : FunP Try.prog 94 [.agg (Diner.row x1)] (.tup [.agg (Diner.row r.1), .iv r.2]) := by
  refine FunP_intro ok94 rfl rfl fun w0 H0 => ?_
  rw [m_dine_Start] at h
  refine V_go 9 ?_; dsimp only [e94, go_sem, Nat.reduceBEq, Nat.reduceAdd]; refine ⟨by simp, ?_⟩; obtain ⟨x2, ex2, h⟩ := Option.bind_eq_some_iff.1 h; refine V_call trivial (k_dine_turned x1 0 1 _ ex2) (h := ?_); refine V_go 5 ?_; dsimp only [e94, go_sem, Nat.reduceBEq, Nat.reduceAdd]; refine ⟨by simp, ?_⟩; exact M_done (res := fun (r : (Diner × Int)) => .tup [.agg (Diner.row r.1), .iv r.2]) ok94 h
def f_dine_Start (F : Nat) (x1 : Diner) : Option (Diner × Int) :=
 (f_dine_turned F x1 0 1).bind fun x2 =>
 some (x2.1, x2.2)
theorem le_dine_Start {F : Nat} {x1 : Diner} : ole (f_dine_Start F x1) (m_dine_Start x1) := by
  unfold f_dine_Start m_dine_Start
  with_reducible repeat' first | exact ole_refl _ | assumption | intro _ | refine ole_ifb ?_ ?_ | refine ole_bind ?_ ?_ | refine ole_map ?_ | refine ole_loop ?_ | apply le_dine_turned
end NX
end Go.Proofs.Ytadebhbiglmodaa
/-
  The function narthex/dine.Get$1: its code compiled, a model, and that the code answers as the model. Written by a program of ours (lb.py). No statement of the seat is proved here.
-/
namespace Go.Proofs.Ytadebhbiglmodaa
namespace NX
open Go
set_option maxRecDepth 100000
set_option maxHeartbeats 4000000
def e122 : EC := .seq (.reg [⟨(some 3), none, .box 49 8 (.t 0)⟩, ⟨(some 4), none, .mv (.c .ff)⟩]) (.seq (.reg [⟨(some 5), none, .fld 0 (.t 3)⟩, ⟨(some 6), none, .load (.t 5)⟩, ⟨(some 7), none, .load (.t 1)⟩, ⟨(some 8), none, .bin .eql (.t 6) (.t 7)⟩, ⟨(some 9), none, .mv (.t 8)⟩, ⟨(some 10), (some (9, true)), .fld 1 (.t 3)⟩, ⟨(some 11), (some (9, true)), .load (.t 10)⟩, ⟨(some 12), (some (9, true)), .fld 1 (.t 2)⟩, ⟨(some 13), (some (9, true)), .load (.t 12)⟩, ⟨(some 14), (some (9, true)), .bin .eql (.t 11) (.t 13)⟩, ⟨(some 15), none, .pick (.t 9) (.t 14) (.c .ff)⟩, ⟨(some 4), none, .mv (.t 15)⟩]) (.ret))
theorem ok122 : FnOK Try.prog 122 Try.f122 e122 [.t 4] 3 13 := ⟨by kernel_rfl, ⟨_, rfl, by kernel_rfl⟩, by kernel_rfl, by kernel_rfl⟩
/- narthex/dine.Get$1 -/
noncomputable def m_dine_Get_1_j1  : Bool → Option Bool
| x4 =>
 some x4
noncomputable def m_dine_Get_1 (x1 : Side) (x2 : Int) (x3 : Msg) : Option Bool :=
 ifb (decide (x1.Peer = x2)) (
 m_dine_Get_1_j1 (decide (x1.Epoch = x3.Epoch))) (
 m_dine_Get_1_j1 false)
theorem k_dine_Get_1 (x1 : Side) (x2 : Int) (x3 : Msg) (r : Bool) (h : m_dine_Get_1 x1 x2 x3 = some r) : FunP Try.prog 122 [.agg (Side.row x1), .elt (intRow x2) 0, .elt (Msg.row x3) 0] (.bv r) := by
  refine FunP_intro ok122 rfl rfl fun w0 H0 => ?_
  rw [m_dine_Get_1] at h
  refine V_go 12 ?_; dsimp only [e122, go_sem, Nat.reduceBEq, Nat.reduceAdd]; refine ⟨by simp, ?_⟩; refine V_join (fun (x4 : Bool) => (⟨(an 4 (.bv x4 :: an 11 [])), [], []⟩ : St)) m_dine_Get_1_j1 r ?_ fun J1 => ?_
  ·intro x4 h; rw [m_dine_Get_1_j1] at h; (try dsimp only); exact M_done (res := fun (r : Bool) => .bv r) ok122 h
  ·refine M_case 9 h rfl (fun _ h => ?_) fun _ h => ?_
   ·dsimp only [go_sem, Nat.reduceBEq, Nat.reduceAdd]; refine V_go 8 ?_; dsimp only [e122, go_sem, Nat.reduceBEq, Nat.reduceAdd]; refine ⟨by simp, ?_⟩; exact M_to J1 (s := decide (x1.Epoch = x3.Epoch)) h
   ·dsimp only [go_sem, Nat.reduceBEq, Nat.reduceAdd]; refine V_go 8 ?_; dsimp only [e122, go_sem, Nat.reduceBEq, Nat.reduceAdd]; refine ⟨by simp, ?_⟩; exact M_to J1 (s := false) h
def f_dine_Get_1_j1 (_F : Nat)  : Bool → Option Bool
| x4 =>
 some x4
theorem le_dine_Get_1_j1 {F : Nat} : ∀ s, ole (f_dine_Get_1_j1 F s) (m_dine_Get_1_j1 s) := by
  intro x4
  unfold f_dine_Get_1_j1 m_dine_Get_1_j1
  try dsimp only
  with_reducible repeat' first | exact ole_refl _ | assumption | intro _ | refine ole_ifb ?_ ?_ | refine ole_bind ?_ ?_ | refine ole_map ?_ | refine ole_loop ?_
def f_dine_Get_1 (F : Nat) (x1 : Side) (x2 : Int) (x3 : Msg) : Option Bool :=
 ifb (decide (x1.Peer = x2)) (
 f_dine_Get_1_j1 F (decide (x1.Epoch = x3.Epoch))) (
 f_dine_Get_1_j1 F false)
theorem le_dine_Get_1 {F : Nat} {x1 : Side} {x2 : Int} {x3 : Msg} : ole (f_dine_Get_1 F x1 x2 x3) (m_dine_Get_1 x1 x2 x3) := by
  unfold f_dine_Get_1 m_dine_Get_1
  with_reducible repeat' first | exact ole_refl _ | assumption | intro _ | refine ole_ifb ?_ ?_ | refine ole_bind ?_ ?_ | refine ole_map ?_ | refine ole_loop ?_ | apply le_dine_Get_1_j1
end NX
end Go.Proofs.Ytadebhbiglmodaa
/-
  The function narthex/dine.Get: its code compiled, a model, and that the code answers as the model. Written by a program of ours (lb.py). No statement of the seat is proved here.
-/
namespace Go.Proofs.Ytadebhbiglmodaa
namespace NX
open Go
set_option maxRecDepth 100000
set_option maxHeartbeats 4000000
def e100 : EC := .seq (.reg [⟨(some 3), none, .box 39 3 (.t 0)⟩, ⟨(some 4), none, .box 3 1 (.t 1)⟩, ⟨(some 5), none, .box 93 3 (.t 2)⟩, ⟨(some 6), none, .alloc 39 [.iv 0, .iv 0, .nl]⟩, ⟨(some 7), none, .mv (.c (.iv 0))⟩]) (.seq (.seq (.reg [⟨(some 12), none, .loadA 3 (.t 3)⟩, ⟨(some 13), none, .call 103 [(.t 12)]⟩, ⟨(some 8), none, .mv (.t 13)⟩]) (.seq (.reg [⟨(some 14), none, .mv (.t 8)⟩, ⟨(some 15), none, .bin .neq (.t 14) (.c (.iv 0))⟩]) (.ite (.t 15) (.seq (.reg [⟨(some 16), none, .build [.iv 0, .iv 0, .nl] []⟩, ⟨(some 17), none, .mv (.t 8)⟩, ⟨none, none, .store 3 (.t 6) (.t 16)⟩, ⟨(some 7), none, .mv (.t 17)⟩]) (.ret)) (.skip)))) (.seq (.reg [⟨(some 18), none, .fld 2 (.t 3)⟩, ⟨(some 19), none, .load (.t 18)⟩, ⟨(some 20), none, .mkf 122 [(.t 4), (.t 5)]⟩, ⟨(some 21), none, .call 55 [(.t 19), (.t 20)]⟩, ⟨(some 9), none, .mv (.t 21)⟩]) (.seq (.seq (.reg [⟨(some 22), none, .mv (.t 9)⟩, ⟨(some 23), none, .bin .lss (.t 22) (.c (.iv 0))⟩]) (.ite (.t 23) (.seq (.reg [⟨(some 24), none, .build [.iv 0, .iv 0, .nl] []⟩, ⟨none, none, .store 3 (.t 6) (.t 24)⟩, ⟨(some 7), none, .mv (.c (.iv 131))⟩]) (.ret)) (.skip))) (.seq (.reg [⟨(some 25), none, .fld 2 (.t 3)⟩, ⟨(some 26), none, .load (.t 25)⟩, ⟨(some 27), none, .call 121 [(.t 26)]⟩, ⟨(some 28), none, .fld 2 (.t 3)⟩, ⟨none, none, .store 1 (.t 28) (.t 27)⟩]) (.seq (.reg [⟨(some 29), none, .fld 2 (.t 3)⟩, ⟨(some 30), none, .load (.t 29)⟩, ⟨(some 31), none, .mv (.t 9)⟩, ⟨(some 32), none, .idx 8 (.t 30) (.t 31)⟩, ⟨(some 10), none, .mv (.t 32)⟩]) (.seq (.reg [⟨(some 11), none, .mv (.c .ff)⟩]) (.seq (.blk 0 (.seq (.reg [⟨(some 35), none, .fld 0 (.t 5)⟩, ⟨(some 36), none, .load (.t 35)⟩, ⟨(some 37), none, .bin .eql (.t 36) (.c (.iv 1))⟩, ⟨(some 38), none, .mv (.t 37)⟩, ⟨(some 39), (some (38, true)), .fld 2 (.t 5)⟩, ⟨(some 40), (some (38, true)), .load (.t 39)⟩, ⟨(some 41), (some (38, true)), .bin .eql (.t 40) (.c (.iv 0))⟩, ⟨(some 42), none, .pick (.t 38) (.t 41) (.c .ff)⟩, ⟨(some 34), none, .mv (.t 42)⟩]) (.ite (.t 34) (.reg [⟨(some 43), none, .mv (.t 10)⟩, ⟨(some 44), none, .mv (.t 10)⟩, ⟨(some 45), none, .nilchk (.t 44)⟩, ⟨(some 46), none, .fld 3 (.t 45)⟩, ⟨(some 47), none, .load (.t 46)⟩, ⟨(some 11), none, .mv (.t 47)⟩, ⟨(some 48), none, .nilchk (.t 43)⟩, ⟨(some 49), none, .fld 3 (.t 48)⟩, ⟨none, none, .store 1 (.t 49) (.c .tt)⟩]) (.seq (.reg [⟨(some 51), none, .fld 0 (.t 5)⟩, ⟨(some 52), none, .load (.t 51)⟩, ⟨(some 53), none, .bin .eql (.t 52) (.c (.iv 2))⟩, ⟨(some 54), none, .mv (.t 53)⟩, ⟨(some 55), (some (54, true)), .fld 2 (.t 5)⟩, ⟨(some 56), (some (54, true)), .load (.t 55)⟩, ⟨(some 57), (some (54, true)), .bin .eql (.t 56) (.c (.iv 0))⟩, ⟨(some 58), none, .pick (.t 54) (.t 57) (.c .ff)⟩, ⟨(some 50), none, .mv (.t 58)⟩]) (.ite (.t 50) (.reg [⟨(some 59), none, .mv (.t 10)⟩, ⟨(some 60), none, .mv (.t 10)⟩, ⟨(some 61), none, .nilchk (.t 60)⟩, ⟨(some 62), none, .fld 5 (.t 61)⟩, ⟨(some 63), none, .load (.t 62)⟩, ⟨(some 11), none, .mv (.t 63)⟩, ⟨(some 64), none, .nilchk (.t 59)⟩, ⟨(some 65), none, .fld 5 (.t 64)⟩, ⟨none, none, .store 1 (.t 65) (.c .tt)⟩]) (.seq (.reg [⟨(some 33), none, .build [.iv 0, .iv 0, .nl] []⟩, ⟨none, none, .store 3 (.t 6) (.t 33)⟩, ⟨(some 7), none, .mv (.c (.iv 133))⟩]) (.ret))))))) (.seq (.seq (.reg [⟨(some 66), none, .mv (.t 11)⟩]) (.ite (.t 66) (.seq (.reg [⟨(some 67), none, .build [.iv 0, .iv 0, .nl] []⟩, ⟨none, none, .store 3 (.t 6) (.t 67)⟩, ⟨(some 7), none, .mv (.c (.iv 132))⟩]) (.ret)) (.skip))) (.seq (.reg [⟨(some 68), none, .loadA 3 (.t 3)⟩, ⟨none, none, .store 3 (.t 6) (.t 68)⟩, ⟨(some 7), none, .mv (.c (.iv 0))⟩]) (.ret))))))))))
theorem ok100 : FnOK Try.prog 100 Try.f100 e100 [.c 6 (some 3), .t 7] 3 66 := ⟨by kernel_rfl, ⟨_, rfl, by kernel_rfl⟩, by kernel_rfl, by kernel_rfl⟩
/- narthex/dine.Get -/
noncomputable def m_dine_Get_j2 (x1 : Diner) : (Bool × (List Side)) → Option (Diner × Int)
| (x10, x11) =>
 ifb x10 (
 some ((Diner.mk 0 0 (([] : (List Side)))), 132)) (
 some ((Diner.mk x1.ID x1.Phase x11), 0))
noncomputable def m_dine_Get_j3 (x1 : Diner) (x5 : Int) (x6 : (List Side)) (x7 : Side) : Bool → Option (Diner × Int)
| x9 =>
 ifb x9 (
 (m_dine_Get_j2 x1) (x7.Token, x6.set (x5).toNat ((Side.mk x7.Peer x7.Epoch x7.State x7.Fork x7.Dirty true x7.Bottle x7.Ask)))) (
 some ((Diner.mk 0 0 (([] : (List Side)))), 133))
noncomputable def m_dine_Get_j1 (x1 : Diner) (x3 : Msg) (x5 : Int) (x6 : (List Side)) (x7 : Side) : Bool → Option (Diner × Int)
| x8 =>
 ifb x8 (
 (m_dine_Get_j2 x1) (x7.Fork, x6.set (x5).toNat ((Side.mk x7.Peer x7.Epoch x7.State true x7.Dirty x7.Token x7.Bottle x7.Ask)))) (
 ifb (decide (x3.Kind = 2)) (
 (m_dine_Get_j3 x1 x5 x6 x7) (decide (x3.Num = 0))) (
 (m_dine_Get_j3 x1 x5 x6 x7) false))
noncomputable def m_dine_Get (x1 : Diner) (x2 : Int) (x3 : Msg) : Option (Diner × Int) :=
 (m_dine_Check x1).bind fun x4 =>
 ifb (!decide (x4 = 0)) (
 some ((Diner.mk 0 0 (([] : (List Side)))), x4)) (
 (m_slices_IndexFunc_Side x1.Sides ((fun z => m_dine_Get_1 z x2 x3))).bind fun x5 =>
 ifb (decide (x5 < 0)) (
 some ((Diner.mk 0 0 (([] : (List Side)))), 131)) (
 (m_slices_Clone_Side x1.Sides).bind fun x6 =>
 (at_ x6 x5).bind fun x7 =>
 ifb (decide (x3.Kind = 1)) (
 (m_dine_Get_j1 x1 x3 x5 x6 x7) (decide (x3.Num = 0))) (
 (m_dine_Get_j1 x1 x3 x5 x6 x7) false)))
theorem k_dine_Get (x1 : Diner) (x2 : Int) (x3 : Msg) (r : (Diner × Int)) (h : m_dine_Get x1 x2 x3 = some r) : FunP Try.prog 100 [.agg (Diner.row x1), .iv x2, .agg (Msg.row x3)] (.tup [.agg (Diner.row r.1), .iv r.2]) := by
  refine FunP_intro ok100 rfl rfl fun w0 H0 => ?_
  rw [m_dine_Get] at h
  refine V_go 12 ?_; dsimp only [e100, go_sem, Nat.reduceBEq, Nat.reduceAdd]; refine ⟨by simp, ?_⟩; obtain ⟨x4, ex4, h⟩ := Option.bind_eq_some_iff.1 h; refine V_call trivial (k_dine_Check x1 _ ex4) (h := ?_); refine V_go 7 ?_; dsimp only [e100, go_sem, Nat.reduceBEq, Nat.reduceAdd]; refine ⟨by simp, ?_⟩; refine M_ite h rfl (fun _ h => ?_) fun _ h => ?_
  ·refine V_go 7 ?_; dsimp only [e100, go_sem, Nat.reduceBEq, Nat.reduceAdd]; refine ⟨by simp, ?_⟩; exact M_done (res := fun (r : (Diner × Int)) => .tup [.agg (Diner.row r.1), .iv r.2]) ok100 h
  ·refine V_go 6 ?_; dsimp only [e100, go_sem, Nat.reduceBEq, Nat.reduceAdd]; refine ⟨by simp, ?_⟩; obtain ⟨x5, ex5, h⟩ := Option.bind_eq_some_iff.1 h; refine V_callL trivial (((Lend.refl _).block 1 rfl rfl).block 2 rfl rfl) (k_slices_IndexFunc_Side x1.Sides _ _ ((fun z => m_dine_Get_1 z x2 x3)) ⟨by kernel_rfl, rfl, fun z r hz => k_dine_Get_1 z x2 x3 r hz⟩ _ ex5) (h := ?_); refine V_go 8 ?_; dsimp only [e100, go_sem, Nat.reduceBEq, Nat.reduceAdd]; refine ⟨by simp, ?_⟩; refine M_ite h rfl (fun _ h => ?_) fun _ h => ?_
   ·refine V_go 6 ?_; dsimp only [e100, go_sem, Nat.reduceBEq, Nat.reduceAdd]; refine ⟨by simp, ?_⟩; exact M_done (res := fun (r : (Diner × Int)) => .tup [.agg (Diner.row r.1), .iv r.2]) ok100 h
   ·refine V_go 5 ?_; dsimp only [e100, go_sem, Nat.reduceBEq, Nat.reduceAdd]; refine ⟨by simp, ?_⟩; obtain ⟨x6, ex6, h⟩ := Option.bind_eq_some_iff.1 h; refine V_callO trivial (o_slices_Clone_Side x1.Sides _ ex6) (h := ?_); refine V_go 8 ?_; dsimp only [e100, go_sem, Nat.reduceBEq, Nat.reduceAdd]; refine ⟨by simp, ?_⟩; obtain ⟨x7, ex7, h⟩ := Option.bind_eq_some_iff.1 h; refine V_idxOM Side.row ex7 trivial rfl rfl rfl ?_; refine V_go 14 ?_; dsimp only [e100, go_sem, Nat.reduceBEq, Nat.reduceAdd]; refine ⟨by simp, ?_⟩
    refine V_join (fun (x8 : Bool) => (⟨(an 3 (.ptr 0 0 :: .any :: .ptr 2 0 :: .ptr 3 0 :: an 3 (.oel 0 ((x5).toNat * 8) 0 :: an 23 (.bv x8 :: an 34 [])))), [some ⟨39, [.iv x1.ID, .iv x1.Phase, .osl 0]⟩, none, some ⟨93, [.iv x3.Kind, .iv x3.Epoch, .iv x3.Num]⟩, some ⟨39, [.iv 0, .iv 0, .nl]⟩], [some ⟨49, 8, List.map Side.row x6⟩]⟩ : St)) (m_dine_Get_j1 x1 x3 x5 x6 x7) r ?_ fun J1 => ?_
    ·intro x8 h; rw [m_dine_Get_j1] at h; (try dsimp only); refine V_join (fun ((x10, x11) : (Bool × (List Side))) => (⟨(an 3 (.ptr 0 0 :: .any :: .any :: .ptr 3 0 :: an 4 (.bv x10 :: an 57 []))), [some ⟨39, [.iv x1.ID, .iv x1.Phase, .osl 0]⟩, none, none, some ⟨39, [.iv 0, .iv 0, .nl]⟩], [some ⟨49, 8, List.map Side.row x11⟩]⟩ : St)) (m_dine_Get_j2 x1) r ?_ fun J2 => ?_
     ·rintro ⟨x10, x11⟩ h; rw [m_dine_Get_j2] at h; (try dsimp only); refine V_go 6 ?_; dsimp only [e100, go_sem, Nat.reduceBEq, Nat.reduceAdd]; refine ⟨by simp, ?_⟩; refine M_ite h rfl (fun _ h => ?_) fun _ h => ?_
      ·refine V_go 6 ?_; dsimp only [e100, go_sem, Nat.reduceBEq, Nat.reduceAdd]; refine ⟨by simp, ?_⟩; exact M_done (res := fun (r : (Diner × Int)) => .tup [.agg (Diner.row r.1), .iv r.2]) ok100 h
      ·refine V_go 7 ?_; dsimp only [e100, go_sem, Nat.reduceBEq, Nat.reduceAdd]; refine ⟨by simp, ?_⟩; refine V_seal 0 rfl ?_; dsimp only [go_sem, Nat.reduceBEq, Nat.reduceAdd]; exact M_done (res := fun (r : (Diner × Int)) => .tup [.agg (Diner.row r.1), .iv r.2]) ok100 h
     ·refine M_ite h rfl (fun _ h => ?_) fun _ h => ?_
      ·refine V_go 5 ?_; dsimp only [e100, go_sem, Nat.reduceBEq, Nat.reduceAdd]; refine ⟨by simp, ?_⟩; refine V_loadO Side.row ex7 trivial rfl rfl rfl ?_; refine V_go 3 ?_; dsimp only [e100, go_sem, Nat.reduceBEq, Nat.reduceAdd]; refine ⟨by simp, ?_⟩; refine V_storeO [.bv true] Side.row (y' := (Side.mk x7.Peer x7.Epoch x7.State true x7.Dirty x7.Token x7.Bottle x7.Ask)) ex7 trivial rfl rfl rfl (by first | exact leL_refl _ | simp [go_sem]) rfl rfl rfl rfl ?_; refine V_go 1 ?_; dsimp only [e100, go_sem, Nat.reduceBEq, Nat.reduceAdd]; refine ⟨by simp, ?_⟩
       exact M_to J2 (s := (x7.Fork, x6.set (x5).toNat ((Side.mk x7.Peer x7.Epoch x7.State true x7.Dirty x7.Token x7.Bottle x7.Ask)))) h
      ·refine V_go 6 ?_; dsimp only [e100, go_sem, Nat.reduceBEq, Nat.reduceAdd]; refine ⟨by simp, ?_⟩; refine V_join (fun (x9 : Bool) => (⟨(an 3 (.ptr 0 0 :: .any :: .any :: .ptr 3 0 :: an 3 (.oel 0 ((x5).toNat * 8) 0 :: an 39 (.bv x9 :: an 18 [])))), [some ⟨39, [.iv x1.ID, .iv x1.Phase, .osl 0]⟩, none, none, some ⟨39, [.iv 0, .iv 0, .nl]⟩], [some ⟨49, 8, List.map Side.row x6⟩]⟩ : St)) (m_dine_Get_j3 x1 x5 x6 x7) r ?_ fun J3 => ?_
       ·intro x9 h; rw [m_dine_Get_j3] at h; (try dsimp only); refine M_ite h rfl (fun _ h => ?_) fun _ h => ?_
        ·refine V_go 5 ?_; dsimp only [e100, go_sem, Nat.reduceBEq, Nat.reduceAdd]; refine ⟨by simp, ?_⟩; refine V_loadO Side.row ex7 trivial rfl rfl rfl ?_; refine V_go 3 ?_; dsimp only [e100, go_sem, Nat.reduceBEq, Nat.reduceAdd]; refine ⟨by simp, ?_⟩; refine V_storeO [.bv true] Side.row (y' := (Side.mk x7.Peer x7.Epoch x7.State x7.Fork x7.Dirty true x7.Bottle x7.Ask)) ex7 trivial rfl rfl rfl (by first | exact leL_refl _ | simp [go_sem]) rfl rfl rfl rfl ?_; refine V_go 1 ?_; dsimp only [e100, go_sem, Nat.reduceBEq, Nat.reduceAdd]; refine ⟨by simp, ?_⟩
         exact M_to J2 (s := (x7.Token, x6.set (x5).toNat ((Side.mk x7.Peer x7.Epoch x7.State x7.Fork x7.Dirty true x7.Bottle x7.Ask)))) h
        ·refine V_go 6 ?_; dsimp only [e100, go_sem, Nat.reduceBEq, Nat.reduceAdd]; refine ⟨by simp, ?_⟩; exact M_done (res := fun (r : (Diner × Int)) => .tup [.agg (Diner.row r.1), .iv r.2]) ok100 h
       ·refine M_case 54 h rfl (fun _ h => ?_) fun _ h => ?_
        ·dsimp only [go_sem, Nat.reduceBEq, Nat.reduceAdd]; refine V_go 6 ?_; dsimp only [e100, go_sem, Nat.reduceBEq, Nat.reduceAdd]; refine ⟨by simp, ?_⟩; exact M_to J3 (s := decide (x3.Num = 0)) h
        ·dsimp only [go_sem, Nat.reduceBEq, Nat.reduceAdd]; refine V_go 6 ?_; dsimp only [e100, go_sem, Nat.reduceBEq, Nat.reduceAdd]; refine ⟨by simp, ?_⟩; exact M_to J3 (s := false) h
    ·refine M_case 38 h rfl (fun _ h => ?_) fun _ h => ?_
     ·dsimp only [go_sem, Nat.reduceBEq, Nat.reduceAdd]; refine V_go 6 ?_; dsimp only [e100, go_sem, Nat.reduceBEq, Nat.reduceAdd]; refine ⟨by simp, ?_⟩; exact M_to J1 (s := decide (x3.Num = 0)) h
     ·dsimp only [go_sem, Nat.reduceBEq, Nat.reduceAdd]; refine V_go 6 ?_; dsimp only [e100, go_sem, Nat.reduceBEq, Nat.reduceAdd]; refine ⟨by simp, ?_⟩; exact M_to J1 (s := false) h
def f_dine_Get_j2 (_F : Nat) (x1 : Diner) : (Bool × (List Side)) → Option (Diner × Int)
| (x10, x11) =>
 ifb x10 (
 some ((Diner.mk 0 0 (([] : (List Side)))), 132)) (
 some ((Diner.mk x1.ID x1.Phase x11), 0))
theorem le_dine_Get_j2 {F : Nat} {x1 : Diner} : ∀ s, ole (f_dine_Get_j2 F x1 s) (m_dine_Get_j2 x1 s) := by
  rintro ⟨x10, x11⟩
  unfold f_dine_Get_j2 m_dine_Get_j2
  try dsimp only
  with_reducible repeat' first | exact ole_refl _ | assumption | intro _ | refine ole_ifb ?_ ?_ | refine ole_bind ?_ ?_ | refine ole_map ?_ | refine ole_loop ?_
def f_dine_Get_j3 (F : Nat) (x1 : Diner) (x5 : Int) (x6 : (List Side)) (x7 : Side) : Bool → Option (Diner × Int)
| x9 =>
 ifb x9 (
 (f_dine_Get_j2 F x1) (x7.Token, x6.set (x5).toNat ((Side.mk x7.Peer x7.Epoch x7.State x7.Fork x7.Dirty true x7.Bottle x7.Ask)))) (
 some ((Diner.mk 0 0 (([] : (List Side)))), 133))
theorem le_dine_Get_j3 {F : Nat} {x1 : Diner} {x5 : Int} {x6 : (List Side)} {x7 : Side} : ∀ s, ole (f_dine_Get_j3 F x1 x5 x6 x7 s) (m_dine_Get_j3 x1 x5 x6 x7 s) := by
  intro x9
  unfold f_dine_Get_j3 m_dine_Get_j3
  try dsimp only
  with_reducible repeat' first | exact ole_refl _ | assumption | intro _ | refine ole_ifb ?_ ?_ | refine ole_bind ?_ ?_ | refine ole_map ?_ | refine ole_loop ?_ | apply le_dine_Get_j2
def f_dine_Get_j1 (F : Nat) (x1 : Diner) (x3 : Msg) (x5 : Int) (x6 : (List Side)) (x7 : Side) : Bool → Option (Diner × Int)
| x8 =>
 ifb x8 (
 (f_dine_Get_j2 F x1) (x7.Fork, x6.set (x5).toNat ((Side.mk x7.Peer x7.Epoch x7.State true x7.Dirty x7.Token x7.Bottle x7.Ask)))) (
 ifb (decide (x3.Kind = 2)) (
 (f_dine_Get_j3 F x1 x5 x6 x7) (decide (x3.Num = 0))) (
 (f_dine_Get_j3 F x1 x5 x6 x7) false))
theorem le_dine_Get_j1 {F : Nat} {x1 : Diner} {x3 : Msg} {x5 : Int} {x6 : (List Side)} {x7 : Side} : ∀ s, ole (f_dine_Get_j1 F x1 x3 x5 x6 x7 s) (m_dine_Get_j1 x1 x3 x5 x6 x7 s) := by
  intro x8
  unfold f_dine_Get_j1 m_dine_Get_j1
  try dsimp only
  with_reducible repeat' first | exact ole_refl _ | assumption | intro _ | refine ole_ifb ?_ ?_ | refine ole_bind ?_ ?_ | refine ole_map ?_ | refine ole_loop ?_ | apply le_dine_Get_j2 | apply le_dine_Get_j3
def f_dine_Get (F : Nat) (x1 : Diner) (x2 : Int) (x3 : Msg) : Option (Diner × Int) :=
 (f_dine_Check F x1).bind fun x4 =>
 ifb (!decide (x4 = 0)) (
 some ((Diner.mk 0 0 (([] : (List Side)))), x4)) (
 (f_slices_IndexFunc_Side F x1.Sides ((fun z => f_dine_Get_1 F z x2 x3))).bind fun x5 =>
 ifb (decide (x5 < 0)) (
 some ((Diner.mk 0 0 (([] : (List Side)))), 131)) (
 (f_slices_Clone_Side F x1.Sides).bind fun x6 =>
 (at_ x6 x5).bind fun x7 =>
 ifb (decide (x3.Kind = 1)) (
 (f_dine_Get_j1 F x1 x3 x5 x6 x7) (decide (x3.Num = 0))) (
 (f_dine_Get_j1 F x1 x3 x5 x6 x7) false)))
theorem le_dine_Get {F : Nat} {x1 : Diner} {x2 : Int} {x3 : Msg} : ole (f_dine_Get F x1 x2 x3) (m_dine_Get x1 x2 x3) := by
  unfold f_dine_Get m_dine_Get
  with_reducible repeat' first | exact ole_refl _ | assumption | intro _ | refine ole_ifb ?_ ?_ | refine ole_bind ?_ ?_ | refine ole_map ?_ | refine ole_loop ?_ | apply le_dine_Get_j2 | apply le_dine_Get_j3 | apply le_dine_Get_j1 | apply le_dine_Check | apply le_slices_IndexFunc_Side | apply le_dine_Get_1 | apply le_slices_Clone_Side
end NX
end Go.Proofs.Ytadebhbiglmodaa
/-
  The function narthex/dine.Fire$1: its code compiled, a model, and that the code answers as the model. Written by a program of ours (lb.py). No statement of the seat is proved here.
-/
namespace Go.Proofs.Ytadebhbiglmodaa
namespace NX
open Go
set_option maxRecDepth 100000
set_option maxHeartbeats 4000000
def e132 : EC := .drw [⟨(some 5), none, .load (.t 1)⟩, ⟨(some 6), none, .fld 0 (.t 2)⟩, ⟨(some 7), none, .load (.t 6)⟩, ⟨(some 8), none, .load (.t 3)⟩, ⟨(some 9), none, .nilchk (.t 8)⟩, ⟨(some 10), none, .fld 0 (.t 9)⟩, ⟨(some 11), none, .load (.t 10)⟩, ⟨(some 12), none, .mv (.t 0)⟩, ⟨(some 13), none, .load (.t 3)⟩, ⟨(some 14), none, .nilchk (.t 13)⟩, ⟨(some 15), none, .fld 1 (.t 14)⟩, ⟨(some 16), none, .load (.t 15)⟩, ⟨(some 17), none, .build [.iv 0, .iv 0, .iv 0] [(0, 1, (.t 12)), (1, 1, (.t 16))]⟩, ⟨(some 18), none, .build [.iv 0, .iv 0, .iv 0, .iv 0, .iv 0] [(0, 1, (.t 7)), (1, 1, (.t 11)), (2, 3, (.t 17))]⟩, ⟨(some 19), none, .bsl 97 5 1 [.iv 0, .iv 0, .iv 0, .iv 0, .iv 0] [(0, (.t 18))]⟩, ⟨(some 20), none, .app 97 5 40 (.t 5) (.t 19)⟩, ⟨none, none, .store 1 (.t 1) (.t 20)⟩] [[], [], [1], [], [3], [4], [5], [], [], [8], [9], [10], [7, 11], [2, 6, 12], [13], [0, 14], [15, 15, 0, 1, 2, 3, 4, 5, 6, 7, 8, 9, 10, 11, 12, 13, 14, 15]] [[15], [2], [1, 13], [4], [3, 5], [4, 6], [5, 13], [12], [9], [8, 10], [9, 11], [10, 12], [7, 11, 13], [2, 6, 12, 14], [13, 15], [0, 14, 16], [15]]
theorem ok132 : FnOK Try.prog 132 Try.f132 e132 [] 4 17 := ⟨by kernel_rfl, ⟨_, rfl, by kernel_rfl⟩, by kernel_rfl, by kernel_rfl⟩
/- no model -/
end NX
end Go.Proofs.Ytadebhbiglmodaa
/-
  The function narthex/dine.Fire: its code compiled, a model, and that the code answers as the model. Written by a program of ours (lb.py). No statement of the seat is proved here.
-/
namespace Go.Proofs.Ytadebhbiglmodaa
namespace NX
open Go
set_option maxRecDepth 100000
set_option maxHeartbeats 4000000
def e120_L1 : EC := .seq (.reg [⟨(some 102), none, .bin .lss (.t 101) (.t 100)⟩]) (.seq (.ite (.t 102) (.skip) (.exit 2)) (.seq (.blk 3 (.seq (.reg [⟨(some 103), none, .mv (.t 101)⟩, ⟨(some 11), none, .mv (.t 103)⟩]) (.reg [⟨(some 104), none, .fld 2 (.t 1)⟩, ⟨(some 105), none, .load (.t 104)⟩, ⟨(some 106), none, .mv (.t 11)⟩, ⟨(some 107), none, .idx 8 (.t 105) (.t 106)⟩, ⟨(some 108), none, .fld 4 (.t 107)⟩, ⟨none, none, .store 1 (.t 108) (.c .tt)⟩]))) (.reg [⟨(some 109), none, .bin .add (.t 101) (.c (.iv 1))⟩, ⟨(some 101), none, .mv (.t 109)⟩])))
def e120_L0 : EC := .seq (.reg [⟨(some 26), none, .bin .lss (.t 25) (.t 24)⟩]) (.seq (.ite (.t 26) (.skip) (.exit 0)) (.seq (.blk 1 (.seq (.reg [⟨(some 27), none, .mv (.t 25)⟩, ⟨(some 8), none, .mv (.t 27)⟩]) (.seq (.reg [⟨(some 28), none, .fld 2 (.t 1)⟩, ⟨(some 29), none, .load (.t 28)⟩, ⟨(some 30), none, .mv (.t 8)⟩, ⟨(some 31), none, .idx 8 (.t 29) (.t 30)⟩, ⟨(some 9), none, .alloc 146 [.nlp]⟩, ⟨none, none, .store 1 (.t 9) (.t 31)⟩]) (.seq (.reg [⟨(some 32), none, .mkf 132 [(.t 6), (.t 1), (.t 9)]⟩, ⟨(some 10), none, .mv (.t 32)⟩]) (.seq (.seq (.reg [⟨(some 33), none, .load (.t 9)⟩, ⟨(some 34), none, .nilchk (.t 33)⟩, ⟨(some 35), none, .fld 3 (.t 34)⟩, ⟨(some 36), none, .load (.t 35)⟩, ⟨(some 37), none, .mv (.t 36)⟩, ⟨(some 38), (some (37, true)), .load (.t 9)⟩, ⟨(some 39), (some (37, true)), .nilchk (.t 38)⟩, ⟨(some 40), (some (37, true)), .fld 4 (.t 39)⟩, ⟨(some 41), (some (37, true)), .load (.t 40)⟩, ⟨(some 42), none, .pick (.t 37) (.t 41) (.c .ff)⟩, ⟨(some 43), none, .mv (.t 42)⟩, ⟨(some 44), (some (43, true)), .load (.t 9)⟩, ⟨(some 45), (some (43, true)), .nilchk (.t 44)⟩, ⟨(some 46), (some (43, true)), .fld 5 (.t 45)⟩, ⟨(some 47), (some (43, true)), .load (.t 46)⟩, ⟨(some 48), none, .pick (.t 43) (.t 47) (.c .ff)⟩, ⟨(some 49), none, .mv (.t 48)⟩, ⟨(some 50), (some (49, true)), .fld 1 (.t 1)⟩, ⟨(some 51), (some (49, true)), .load (.t 50)⟩, ⟨(some 52), (some (49, true)), .bin .neq (.t 51) (.c (.iv 2))⟩, ⟨(some 53), none, .pick (.t 49) (.t 52) (.c .ff)⟩]) (.ite (.t 53) (.seq (.drw [⟨(some 54), none, .load (.t 9)⟩, ⟨(some 55), none, .load (.t 9)⟩, ⟨(some 56), none, .nilchk (.t 54)⟩, ⟨(some 57), none, .fld 3 (.t 56)⟩, ⟨none, none, .store 1 (.t 57) (.c .ff)⟩, ⟨(some 58), none, .nilchk (.t 55)⟩, ⟨(some 59), none, .fld 4 (.t 58)⟩, ⟨none, none, .store 1 (.t 59) (.c .ff)⟩] [[], [], [0, 0], [2, 0], [3, 0], [1, 0, 1, 2, 3, 4], [5, 0, 1, 2, 3, 4], [6, 4, 0, 1, 2, 3, 4]] [[2], [5], [0, 3], [2, 4], [3], [1, 6], [5, 7], [6]]) (.reg [⟨(some 60), none, .mv (.t 10)⟩, ⟨(some 61), none, .callv (.t 60) [(.c (.iv 1))]⟩])) (.skip))) (.seq (.seq (.reg [⟨(some 62), none, .fld 1 (.t 1)⟩, ⟨(some 63), none, .load (.t 62)⟩, ⟨(some 64), none, .bin .eql (.t 63) (.c (.iv 1))⟩, ⟨(some 65), none, .mv (.t 64)⟩, ⟨(some 66), (some (65, true)), .load (.t 9)⟩, ⟨(some 67), (some (65, true)), .nilchk (.t 66)⟩, ⟨(some 68), (some (65, true)), .fld 5 (.t 67)⟩, ⟨(some 69), (some (65, true)), .load (.t 68)⟩, ⟨(some 70), none, .pick (.t 65) (.t 69) (.c .ff)⟩, ⟨(some 71), none, .mv (.t 70)⟩, ⟨(some 72), (some (71, true)), .load (.t 9)⟩, ⟨(some 73), (some (71, true)), .nilchk (.t 72)⟩, ⟨(some 74), (some (71, true)), .fld 3 (.t 73)⟩, ⟨(some 75), (some (71, true)), .load (.t 74)⟩, ⟨(some 76), (some (71, true)), .not (.t 75)⟩, ⟨(some 77), none, .pick (.t 71) (.t 76) (.c .ff)⟩]) (.ite (.t 77) (.seq (.reg [⟨(some 78), none, .load (.t 9)⟩, ⟨(some 79), none, .nilchk (.t 78)⟩, ⟨(some 80), none, .fld 5 (.t 79)⟩, ⟨none, none, .store 1 (.t 80) (.c .ff)⟩]) (.reg [⟨(some 81), none, .mv (.t 10)⟩, ⟨(some 82), none, .callv (.t 81) [(.c (.iv 2))]⟩])) (.skip))) (.reg [⟨(some 83), none, .mv (.t 7)⟩, ⟨(some 84), none, .mv (.t 83)⟩, ⟨(some 85), (some (84, true)), .load (.t 9)⟩, ⟨(some 86), (some (84, true)), .nilchk (.t 85)⟩, ⟨(some 87), (some (84, true)), .fld 3 (.t 86)⟩, ⟨(some 88), (some (84, true)), .load (.t 87)⟩, ⟨(some 89), none, .pick (.t 84) (.t 88) (.c .ff)⟩, ⟨(some 7), none, .mv (.t 89)⟩]))))))) (.reg [⟨(some 90), none, .bin .add (.t 25) (.c (.iv 1))⟩, ⟨(some 25), none, .mv (.t 90)⟩])))
def e120 : EC := .seq (.reg [⟨(some 1), none, .box 39 3 (.t 0)⟩, ⟨(some 2), none, .alloc 39 [.iv 0, .iv 0, .nl]⟩, ⟨(some 3), none, .mv (.c .nl)⟩, ⟨(some 4), none, .mv (.c (.iv 0))⟩]) (.seq (.seq (.reg [⟨(some 12), none, .loadA 3 (.t 1)⟩, ⟨(some 13), none, .call 103 [(.t 12)]⟩, ⟨(some 5), none, .mv (.t 13)⟩]) (.seq (.reg [⟨(some 14), none, .mv (.t 5)⟩, ⟨(some 15), none, .bin .neq (.t 14) (.c (.iv 0))⟩]) (.ite (.t 15) (.seq (.reg [⟨(some 16), none, .build [.iv 0, .iv 0, .nl] []⟩, ⟨(some 17), none, .mv (.t 5)⟩, ⟨none, none, .store 3 (.t 2) (.t 16)⟩, ⟨(some 3), none, .mv (.c .nl)⟩, ⟨(some 4), none, .mv (.t 17)⟩]) (.ret)) (.skip)))) (.seq (.reg [⟨(some 18), none, .fld 2 (.t 1)⟩, ⟨(some 19), none, .load (.t 18)⟩, ⟨(some 20), none, .call 121 [(.t 19)]⟩, ⟨(some 21), none, .fld 2 (.t 1)⟩, ⟨none, none, .store 1 (.t 21) (.t 20)⟩]) (.seq (.reg [⟨(some 6), none, .alloc 41 [.nl]⟩]) (.seq (.reg [⟨(some 7), none, .mv (.c .tt)⟩]) (.seq (.seq (.reg [⟨(some 22), none, .fld 2 (.t 1)⟩, ⟨(some 23), none, .load (.t 22)⟩, ⟨(some 24), none, .len (.t 23)⟩, ⟨(some 25), none, .mv (.c (.iv 0))⟩]) (.blk 0 (.loop e120_L0))) (.seq (.seq (.reg [⟨(some 91), none, .fld 1 (.t 1)⟩, ⟨(some 92), none, .load (.t 91)⟩, ⟨(some 93), none, .bin .eql (.t 92) (.c (.iv 1))⟩, ⟨(some 94), none, .mv (.t 93)⟩, ⟨(some 95), (some (94, true)), .mv (.t 7)⟩, ⟨(some 96), none, .pick (.t 94) (.t 95) (.c .ff)⟩]) (.ite (.t 96) (.seq (.reg [⟨(some 97), none, .fld 1 (.t 1)⟩, ⟨none, none, .store 1 (.t 97) (.c (.iv 2))⟩]) (.seq (.reg [⟨(some 98), none, .fld 2 (.t 1)⟩, ⟨(some 99), none, .load (.t 98)⟩, ⟨(some 100), none, .len (.t 99)⟩, ⟨(some 101), none, .mv (.c (.iv 0))⟩]) (.blk 2 (.loop e120_L1)))) (.skip))) (.seq (.drw [⟨(some 110), none, .loadA 3 (.t 1)⟩, ⟨(some 111), none, .load (.t 6)⟩, ⟨none, none, .store 3 (.t 2) (.t 110)⟩, ⟨(some 3), none, .mv (.t 111)⟩, ⟨(some 4), none, .mv (.c (.iv 0))⟩] [[], [], [0, 0], [1, 2, 0, 1, 2], [3, 0, 1, 2, 3]] [[2], [3], [0], [1], []]) (.ret))))))))
theorem ok120 : FnOK Try.prog 120 Try.f120 e120 [.c 2 (some 3), .t 3, .t 4] 1 111 := ⟨by kernel_rfl, ⟨_, rfl, by kernel_rfl⟩, by kernel_rfl, by kernel_rfl⟩
/- narthex/dine.Fire$1, lent own memory -/
noncomputable def m_dine_Fire_1_in_dine_Fire_1 (x1 : Int) (x2 : Int) (_x3 : Int) (x4 : Int) (x5 : (List Side)) : Option (List Mail) :=
 (at_ x5 x4).bind fun x6 =>
 (app_ 40 [] ([(Mail.mk x2 x6.Peer ((Msg.mk x1 x6.Epoch 0)))])).bind fun x7 =>
 some x7
theorem t_dine_Fire_1_in_dine_Fire_1 (x1 : Int) (x2 : Int) (x3 : Int) (x4 : Int) (x5 : (List Side)) (r : (List Mail)) (h : m_dine_Fire_1_in_dine_Fire_1 x1 x2 x3 x4 x5 = some r) : FunT Try.prog 132 [.iv x1, .ptr 2 0, .ptr 0 0, .ptr 3 0] [some ⟨39, [.iv x2, .iv x3, .osl 0]⟩, none, some ⟨41, [.nl]⟩, some ⟨146, [.oel 0 ((x4).toNat * 8) 0]⟩] [some ⟨49, 8, List.map Side.row x5⟩] (.tup []) [some ⟨39, [.iv x2, .iv x3, .osl 0]⟩, none, some ⟨41, [.osl 2]⟩, some ⟨146, [.oel 0 ((x4).toNat * 8) 0]⟩] [some ⟨49, 8, List.map Side.row x5⟩, none, some ⟨97, 5, List.map Mail.row r⟩] := by
  refine FunT_intro ok132 rfl rfl rfl (by first | rfl | simp [go_sem]) fun w0 M0 => ?_
  rw [m_dine_Fire_1_in_dine_Fire_1] at h
  dsimp only [lun, List.cons_append, List.nil_append]
  refine V_drw (by kernel_rfl) fun all hall hs hnap haf => ?_; dsimp only [go_sem, Nat.reduceBEq, Nat.reduceAdd]; refine G_goE hall hs haf hnap 4 13 [true, true, true, false, false, false, false, true, false, false, false, false, false, false, false, false, false] (⟨[.iv x1, .ptr 2 0, .ptr 0 0, .ptr 3 0, .un, .nl, .ptr 0 0, .iv x2, .un, .un, .un, .un, .iv x1, .un, .un, .un, .un, .un, .un, .un, .un], [some ⟨39, [.iv x2, .iv x3, .osl 0]⟩, none, some ⟨41, [.nl]⟩, some ⟨146, [.oel 0 ((x4).toNat * 8) 0]⟩], [some ⟨49, 8, List.map Side.row x5⟩]⟩ : St) (by kernel_rfl) ?_; refine G_two 3 8 rfl ?_ ?_
  ·refine GO_ev hall rfl trivial ?_; dsimp only [go_sem, Nat.reduceBEq, Nat.reduceAdd]; refine G_goN hall hs haf hnap 2 10 ?_; dsimp only [go_sem, Nat.reduceBEq, Nat.reduceAdd]; refine ⟨by simp, ?_⟩; obtain ⟨x6, ex6, h⟩ := Option.bind_eq_some_iff.1 h; refine G_two 6 8 rfl ?_ ?_
   ·refine GO_loadO hall Side.row ex6 rfl trivial rfl rfl rfl ?_; dsimp only [go_sem, Nat.reduceBEq, Nat.reduceAdd]; refine G_one 8 rfl ?_; refine GO_ev hall rfl trivial ?_; dsimp only [go_sem, Nat.reduceBEq, Nat.reduceAdd]; refine G_goN hall hs haf hnap 2 6 ?_; dsimp only [go_sem, Nat.reduceBEq, Nat.reduceAdd]; refine ⟨by simp, ?_⟩; refine G_one 11 rfl ?_; refine GO_loadO hall Side.row ex6 rfl trivial rfl rfl rfl ?_; dsimp only [go_sem, Nat.reduceBEq, Nat.reduceAdd]; refine G_goN hall hs haf hnap 2 3 ?_; dsimp only [go_sem, Nat.reduceBEq, Nat.reduceAdd]; refine ⟨by simp, ?_⟩
    refine G_one 14 rfl ?_; refine GO_ev hall rfl trivial ?_; dsimp only [go_sem, Nat.reduceBEq, Nat.reduceAdd]; refine G_one 15 rfl ?_; obtain ⟨x7, ex7, h⟩ := Option.bind_eq_some_iff.1 h; refine GO_app0M Mail.row ex7 hall rfl trivial rfl rfl ?_; dsimp only [go_sem, Nat.reduceBEq, Nat.reduceAdd]; refine G_one 16 rfl ?_; refine GO_ev hall rfl trivial ?_; dsimp only [go_sem, Nat.reduceBEq, Nat.reduceAdd]; refine G_done rfl ?_ _; obtain rfl := Option.some.inj h; exact T_stop ok132 rfl (by simp [go_sem])
   ·refine GO_ev hall rfl trivial ?_; dsimp only [go_sem, Nat.reduceBEq, Nat.reduceAdd]; refine G_goN hall hs haf hnap 2 7 ?_; dsimp only [go_sem, Nat.reduceBEq, Nat.reduceAdd]; refine ⟨by simp, ?_⟩; refine G_two 6 11 rfl ?_ ?_
    ·refine GO_loadO hall Side.row ex6 rfl trivial rfl rfl rfl ?_; dsimp only [go_sem, Nat.reduceBEq, Nat.reduceAdd]; refine G_one 11 rfl ?_; refine GO_loadO hall Side.row ex6 rfl trivial rfl rfl rfl ?_; dsimp only [go_sem, Nat.reduceBEq, Nat.reduceAdd]; refine G_goN hall hs haf hnap 2 3 ?_; dsimp only [go_sem, Nat.reduceBEq, Nat.reduceAdd]; refine ⟨by simp, ?_⟩; refine G_one 14 rfl ?_; refine GO_ev hall rfl trivial ?_; dsimp only [go_sem, Nat.reduceBEq, Nat.reduceAdd]; refine G_one 15 rfl ?_; obtain ⟨x7, ex7, h⟩ := Option.bind_eq_some_iff.1 h
     refine GO_app0M Mail.row ex7 hall rfl trivial rfl rfl ?_; dsimp only [go_sem, Nat.reduceBEq, Nat.reduceAdd]; refine G_one 16 rfl ?_; refine GO_ev hall rfl trivial ?_; dsimp only [go_sem, Nat.reduceBEq, Nat.reduceAdd]; refine G_done rfl ?_ _; obtain rfl := Option.some.inj h; exact T_stop ok132 rfl (by simp [go_sem])
    ·refine GO_loadO hall Side.row ex6 rfl trivial rfl rfl rfl ?_; dsimp only [go_sem, Nat.reduceBEq, Nat.reduceAdd]; refine G_goN hall hs haf hnap 1 5 ?_; dsimp only [go_sem, Nat.reduceBEq, Nat.reduceAdd]; refine ⟨by simp, ?_⟩; refine G_one 6 rfl ?_; refine GO_loadO hall Side.row ex6 rfl trivial rfl rfl rfl ?_; dsimp only [go_sem, Nat.reduceBEq, Nat.reduceAdd]; refine G_goN hall hs haf hnap 1 3 ?_; dsimp only [go_sem, Nat.reduceBEq, Nat.reduceAdd]; refine ⟨by simp, ?_⟩; refine G_one 14 rfl ?_; refine GO_ev hall rfl trivial ?_; dsimp only [go_sem, Nat.reduceBEq, Nat.reduceAdd]
     refine G_one 15 rfl ?_; obtain ⟨x7, ex7, h⟩ := Option.bind_eq_some_iff.1 h; refine GO_app0M Mail.row ex7 hall rfl trivial rfl rfl ?_; dsimp only [go_sem, Nat.reduceBEq, Nat.reduceAdd]; refine G_one 16 rfl ?_; refine GO_ev hall rfl trivial ?_; dsimp only [go_sem, Nat.reduceBEq, Nat.reduceAdd]; refine G_done rfl ?_ _; obtain rfl := Option.some.inj h; exact T_stop ok132 rfl (by simp [go_sem])
  ·refine GO_ev hall rfl trivial ?_; dsimp only [go_sem, Nat.reduceBEq, Nat.reduceAdd]; refine G_goN hall hs haf hnap 2 10 ?_; dsimp only [go_sem, Nat.reduceBEq, Nat.reduceAdd]; refine ⟨by simp, ?_⟩; obtain ⟨x6, ex6, h⟩ := Option.bind_eq_some_iff.1 h; refine G_two 3 11 rfl ?_ ?_
   ·refine GO_ev hall rfl trivial ?_; dsimp only [go_sem, Nat.reduceBEq, Nat.reduceAdd]; refine G_goN hall hs haf hnap 2 7 ?_; dsimp only [go_sem, Nat.reduceBEq, Nat.reduceAdd]; refine ⟨by simp, ?_⟩; refine G_two 6 11 rfl ?_ ?_
    ·refine GO_loadO hall Side.row ex6 rfl trivial rfl rfl rfl ?_; dsimp only [go_sem, Nat.reduceBEq, Nat.reduceAdd]; refine G_one 11 rfl ?_; refine GO_loadO hall Side.row ex6 rfl trivial rfl rfl rfl ?_; dsimp only [go_sem, Nat.reduceBEq, Nat.reduceAdd]; refine G_goN hall hs haf hnap 2 3 ?_; dsimp only [go_sem, Nat.reduceBEq, Nat.reduceAdd]; refine ⟨by simp, ?_⟩; refine G_one 14 rfl ?_; refine GO_ev hall rfl trivial ?_; dsimp only [go_sem, Nat.reduceBEq, Nat.reduceAdd]; refine G_one 15 rfl ?_; obtain ⟨x7, ex7, h⟩ := Option.bind_eq_some_iff.1 h
     refine GO_app0M Mail.row ex7 hall rfl trivial rfl rfl ?_; dsimp only [go_sem, Nat.reduceBEq, Nat.reduceAdd]; refine G_one 16 rfl ?_; refine GO_ev hall rfl trivial ?_; dsimp only [go_sem, Nat.reduceBEq, Nat.reduceAdd]; refine G_done rfl ?_ _; obtain rfl := Option.some.inj h; exact T_stop ok132 rfl (by simp [go_sem])
    ·refine GO_loadO hall Side.row ex6 rfl trivial rfl rfl rfl ?_; dsimp only [go_sem, Nat.reduceBEq, Nat.reduceAdd]; refine G_goN hall hs haf hnap 1 5 ?_; dsimp only [go_sem, Nat.reduceBEq, Nat.reduceAdd]; refine ⟨by simp, ?_⟩; refine G_one 6 rfl ?_; refine GO_loadO hall Side.row ex6 rfl trivial rfl rfl rfl ?_; dsimp only [go_sem, Nat.reduceBEq, Nat.reduceAdd]; refine G_goN hall hs haf hnap 1 3 ?_; dsimp only [go_sem, Nat.reduceBEq, Nat.reduceAdd]; refine ⟨by simp, ?_⟩; refine G_one 14 rfl ?_; refine GO_ev hall rfl trivial ?_; dsimp only [go_sem, Nat.reduceBEq, Nat.reduceAdd]
     refine G_one 15 rfl ?_; obtain ⟨x7, ex7, h⟩ := Option.bind_eq_some_iff.1 h; refine GO_app0M Mail.row ex7 hall rfl trivial rfl rfl ?_; dsimp only [go_sem, Nat.reduceBEq, Nat.reduceAdd]; refine G_one 16 rfl ?_; refine GO_ev hall rfl trivial ?_; dsimp only [go_sem, Nat.reduceBEq, Nat.reduceAdd]; refine G_done rfl ?_ _; obtain rfl := Option.some.inj h; exact T_stop ok132 rfl (by simp [go_sem])
   ·refine GO_loadO hall Side.row ex6 rfl trivial rfl rfl rfl ?_; dsimp only [go_sem, Nat.reduceBEq, Nat.reduceAdd]; refine G_goN hall hs haf hnap 1 8 ?_; dsimp only [go_sem, Nat.reduceBEq, Nat.reduceAdd]; refine ⟨by simp, ?_⟩; refine G_one 3 rfl ?_; refine GO_ev hall rfl trivial ?_; dsimp only [go_sem, Nat.reduceBEq, Nat.reduceAdd]; refine G_goN hall hs haf hnap 2 5 ?_; dsimp only [go_sem, Nat.reduceBEq, Nat.reduceAdd]; refine ⟨by simp, ?_⟩; refine G_one 6 rfl ?_; refine GO_loadO hall Side.row ex6 rfl trivial rfl rfl rfl ?_; dsimp only [go_sem, Nat.reduceBEq, Nat.reduceAdd]
    refine G_goN hall hs haf hnap 1 3 ?_; dsimp only [go_sem, Nat.reduceBEq, Nat.reduceAdd]; refine ⟨by simp, ?_⟩; refine G_one 14 rfl ?_; refine GO_ev hall rfl trivial ?_; dsimp only [go_sem, Nat.reduceBEq, Nat.reduceAdd]; refine G_one 15 rfl ?_; obtain ⟨x7, ex7, h⟩ := Option.bind_eq_some_iff.1 h; refine GO_app0M Mail.row ex7 hall rfl trivial rfl rfl ?_; dsimp only [go_sem, Nat.reduceBEq, Nat.reduceAdd]; refine G_one 16 rfl ?_; refine GO_ev hall rfl trivial ?_; dsimp only [go_sem, Nat.reduceBEq, Nat.reduceAdd]; refine G_done rfl ?_ _; obtain rfl := Option.some.inj h
    exact T_stop ok132 rfl (by simp [go_sem])
def f_dine_Fire_1_in_dine_Fire_1 (_F : Nat) (x1 : Int) (x2 : Int) (_x3 : Int) (x4 : Int) (x5 : (List Side)) : Option (List Mail) :=
 (at_ x5 x4).bind fun x6 =>
 (app_ 40 [] ([(Mail.mk x2 x6.Peer ((Msg.mk x1 x6.Epoch 0)))])).bind fun x7 =>
 some x7
theorem le_dine_Fire_1_in_dine_Fire_1 {F : Nat} {x1 : Int} {x2 : Int} {x3 : Int} {x4 : Int} {x5 : (List Side)} : ole (f_dine_Fire_1_in_dine_Fire_1 F x1 x2 x3 x4 x5) (m_dine_Fire_1_in_dine_Fire_1 x1 x2 x3 x4 x5) := by
  unfold f_dine_Fire_1_in_dine_Fire_1 m_dine_Fire_1_in_dine_Fire_1
  with_reducible repeat' first | exact ole_refl _ | assumption | intro _ | refine ole_ifb ?_ ?_ | refine ole_bind ?_ ?_ | refine ole_map ?_ | refine ole_loop ?_
/- narthex/dine.Fire$1, lent own memory -/
noncomputable def m_dine_Fire_1_in_dine_Fire_2 (x1 : Int) (x2 : Int) (_x3 : Int) (x4 : Int) (x5 : (List Side)) (x6 : (List Mail)) : Option (List Mail) :=
 (at_ x5 x4).bind fun x7 =>
 (app_ 40 x6 ([(Mail.mk x2 x7.Peer ((Msg.mk x1 x7.Epoch 0)))])).bind fun x8 =>
 some x8
theorem t_dine_Fire_1_in_dine_Fire_2 (x1 : Int) (x2 : Int) (x3 : Int) (x4 : Int) (x5 : (List Side)) (x6 : (List Mail)) (r : (List Mail)) (h : m_dine_Fire_1_in_dine_Fire_2 x1 x2 x3 x4 x5 x6 = some r) : FunT Try.prog 132 [.iv x1, .ptr 2 0, .ptr 0 0, .ptr 3 0] [some ⟨39, [.iv x2, .iv x3, .osl 0]⟩, none, some ⟨41, [.osl 1]⟩, some ⟨146, [.oel 0 ((x4).toNat * 8) 0]⟩] [some ⟨49, 8, List.map Side.row x5⟩, some ⟨97, 5, List.map Mail.row x6⟩] (.tup []) [some ⟨39, [.iv x2, .iv x3, .osl 0]⟩, none, some ⟨41, [.osl 3]⟩, some ⟨146, [.oel 0 ((x4).toNat * 8) 0]⟩] [some ⟨49, 8, List.map Side.row x5⟩, none, none, some ⟨97, 5, List.map Mail.row r⟩] := by
  refine FunT_intro ok132 rfl rfl rfl (by first | rfl | simp [go_sem]) fun w0 M0 => ?_
  rw [m_dine_Fire_1_in_dine_Fire_2] at h
  dsimp only [lun, List.cons_append, List.nil_append]
  refine V_drw (by kernel_rfl) fun all hall hs hnap haf => ?_; dsimp only [go_sem, Nat.reduceBEq, Nat.reduceAdd]; refine G_goN hall hs haf hnap 3 14 ?_; dsimp only [go_sem, Nat.reduceBEq, Nat.reduceAdd]; refine ⟨by simp, ?_⟩; refine G_three 0 3 8 rfl ?_ ?_ ?_
  ·refine GO_ev hall rfl trivial ?_; dsimp only [go_sem, Nat.reduceBEq, Nat.reduceAdd]; refine G_two 3 8 rfl ?_ ?_
   ·refine GO_ev hall rfl trivial ?_; dsimp only [go_sem, Nat.reduceBEq, Nat.reduceAdd]; refine G_goN hall hs haf hnap 2 10 ?_; dsimp only [go_sem, Nat.reduceBEq, Nat.reduceAdd]; refine ⟨by simp, ?_⟩; obtain ⟨x7, ex7, h⟩ := Option.bind_eq_some_iff.1 h; refine G_two 6 8 rfl ?_ ?_
    ·refine GO_loadO hall Side.row ex7 rfl trivial rfl rfl rfl ?_; dsimp only [go_sem, Nat.reduceBEq, Nat.reduceAdd]; refine G_one 8 rfl ?_; refine GO_ev hall rfl trivial ?_; dsimp only [go_sem, Nat.reduceBEq, Nat.reduceAdd]; refine G_goN hall hs haf hnap 2 6 ?_; dsimp only [go_sem, Nat.reduceBEq, Nat.reduceAdd]; refine ⟨by simp, ?_⟩; refine G_one 11 rfl ?_; refine GO_loadO hall Side.row ex7 rfl trivial rfl rfl rfl ?_; dsimp only [go_sem, Nat.reduceBEq, Nat.reduceAdd]; refine G_goN hall hs haf hnap 2 3 ?_; dsimp only [go_sem, Nat.reduceBEq, Nat.reduceAdd]; refine ⟨by simp, ?_⟩
     refine G_one 14 rfl ?_; refine GO_ev hall rfl trivial ?_; dsimp only [go_sem, Nat.reduceBEq, Nat.reduceAdd]; refine G_one 15 rfl ?_; obtain ⟨x8, ex8, h⟩ := Option.bind_eq_some_iff.1 h; refine GO_appM Mail.row ex8 hall rfl trivial rfl rfl rfl ?_; dsimp only [go_sem, Nat.reduceBEq, Nat.reduceAdd]; refine G_one 16 rfl ?_; refine GO_ev hall rfl trivial ?_; dsimp only [go_sem, Nat.reduceBEq, Nat.reduceAdd]; refine G_done rfl ?_ _; obtain rfl := Option.some.inj h; exact T_stop ok132 rfl (by simp [go_sem])
    ·refine GO_ev hall rfl trivial ?_; dsimp only [go_sem, Nat.reduceBEq, Nat.reduceAdd]; refine G_goN hall hs haf hnap 2 7 ?_; dsimp only [go_sem, Nat.reduceBEq, Nat.reduceAdd]; refine ⟨by simp, ?_⟩; refine G_two 6 11 rfl ?_ ?_
     ·refine GO_loadO hall Side.row ex7 rfl trivial rfl rfl rfl ?_; dsimp only [go_sem, Nat.reduceBEq, Nat.reduceAdd]; refine G_one 11 rfl ?_; refine GO_loadO hall Side.row ex7 rfl trivial rfl rfl rfl ?_; dsimp only [go_sem, Nat.reduceBEq, Nat.reduceAdd]; refine G_goN hall hs haf hnap 2 3 ?_; dsimp only [go_sem, Nat.reduceBEq, Nat.reduceAdd]; refine ⟨by simp, ?_⟩; refine G_one 14 rfl ?_; refine GO_ev hall rfl trivial ?_; dsimp only [go_sem, Nat.reduceBEq, Nat.reduceAdd]; refine G_one 15 rfl ?_; obtain ⟨x8, ex8, h⟩ := Option.bind_eq_some_iff.1 h
      refine GO_appM Mail.row ex8 hall rfl trivial rfl rfl rfl ?_; dsimp only [go_sem, Nat.reduceBEq, Nat.reduceAdd]; refine G_one 16 rfl ?_; refine GO_ev hall rfl trivial ?_; dsimp only [go_sem, Nat.reduceBEq, Nat.reduceAdd]; refine G_done rfl ?_ _; obtain rfl := Option.some.inj h; exact T_stop ok132 rfl (by simp [go_sem])
     ·refine GO_loadO hall Side.row ex7 rfl trivial rfl rfl rfl ?_; dsimp only [go_sem, Nat.reduceBEq, Nat.reduceAdd]; refine G_goN hall hs haf hnap 1 5 ?_; dsimp only [go_sem, Nat.reduceBEq, Nat.reduceAdd]; refine ⟨by simp, ?_⟩; refine G_one 6 rfl ?_; refine GO_loadO hall Side.row ex7 rfl trivial rfl rfl rfl ?_; dsimp only [go_sem, Nat.reduceBEq, Nat.reduceAdd]; refine G_goN hall hs haf hnap 1 3 ?_; dsimp only [go_sem, Nat.reduceBEq, Nat.reduceAdd]; refine ⟨by simp, ?_⟩; refine G_one 14 rfl ?_; refine GO_ev hall rfl trivial ?_; dsimp only [go_sem, Nat.reduceBEq, Nat.reduceAdd]
      refine G_one 15 rfl ?_; obtain ⟨x8, ex8, h⟩ := Option.bind_eq_some_iff.1 h; refine GO_appM Mail.row ex8 hall rfl trivial rfl rfl rfl ?_; dsimp only [go_sem, Nat.reduceBEq, Nat.reduceAdd]; refine G_one 16 rfl ?_; refine GO_ev hall rfl trivial ?_; dsimp only [go_sem, Nat.reduceBEq, Nat.reduceAdd]; refine G_done rfl ?_ _; obtain rfl := Option.some.inj h; exact T_stop ok132 rfl (by simp [go_sem])
   ·refine GO_ev hall rfl trivial ?_; dsimp only [go_sem, Nat.reduceBEq, Nat.reduceAdd]; refine G_goN hall hs haf hnap 2 10 ?_; dsimp only [go_sem, Nat.reduceBEq, Nat.reduceAdd]; refine ⟨by simp, ?_⟩; obtain ⟨x7, ex7, h⟩ := Option.bind_eq_some_iff.1 h; refine G_two 3 11 rfl ?_ ?_
    ·refine GO_ev hall rfl trivial ?_; dsimp only [go_sem, Nat.reduceBEq, Nat.reduceAdd]; refine G_goN hall hs haf hnap 2 7 ?_; dsimp only [go_sem, Nat.reduceBEq, Nat.reduceAdd]; refine ⟨by simp, ?_⟩; refine G_two 6 11 rfl ?_ ?_
     ·refine GO_loadO hall Side.row ex7 rfl trivial rfl rfl rfl ?_; dsimp only [go_sem, Nat.reduceBEq, Nat.reduceAdd]; refine G_one 11 rfl ?_; refine GO_loadO hall Side.row ex7 rfl trivial rfl rfl rfl ?_; dsimp only [go_sem, Nat.reduceBEq, Nat.reduceAdd]; refine G_goN hall hs haf hnap 2 3 ?_; dsimp only [go_sem, Nat.reduceBEq, Nat.reduceAdd]; refine ⟨by simp, ?_⟩; refine G_one 14 rfl ?_; refine GO_ev hall rfl trivial ?_; dsimp only [go_sem, Nat.reduceBEq, Nat.reduceAdd]; refine G_one 15 rfl ?_; obtain ⟨x8, ex8, h⟩ := Option.bind_eq_some_iff.1 h
      refine GO_appM Mail.row ex8 hall rfl trivial rfl rfl rfl ?_; dsimp only [go_sem, Nat.reduceBEq, Nat.reduceAdd]; refine G_one 16 rfl ?_; refine GO_ev hall rfl trivial ?_; dsimp only [go_sem, Nat.reduceBEq, Nat.reduceAdd]; refine G_done rfl ?_ _; obtain rfl := Option.some.inj h; exact T_stop ok132 rfl (by simp [go_sem])
     ·refine GO_loadO hall Side.row ex7 rfl trivial rfl rfl rfl ?_; dsimp only [go_sem, Nat.reduceBEq, Nat.reduceAdd]; refine G_goN hall hs haf hnap 1 5 ?_; dsimp only [go_sem, Nat.reduceBEq, Nat.reduceAdd]; refine ⟨by simp, ?_⟩; refine G_one 6 rfl ?_; refine GO_loadO hall Side.row ex7 rfl trivial rfl rfl rfl ?_; dsimp only [go_sem, Nat.reduceBEq, Nat.reduceAdd]; refine G_goN hall hs haf hnap 1 3 ?_; dsimp only [go_sem, Nat.reduceBEq, Nat.reduceAdd]; refine ⟨by simp, ?_⟩; refine G_one 14 rfl ?_; refine GO_ev hall rfl trivial ?_; dsimp only [go_sem, Nat.reduceBEq, Nat.reduceAdd]
      refine G_one 15 rfl ?_; obtain ⟨x8, ex8, h⟩ := Option.bind_eq_some_iff.1 h; refine GO_appM Mail.row ex8 hall rfl trivial rfl rfl rfl ?_; dsimp only [go_sem, Nat.reduceBEq, Nat.reduceAdd]; refine G_one 16 rfl ?_; refine GO_ev hall rfl trivial ?_; dsimp only [go_sem, Nat.reduceBEq, Nat.reduceAdd]; refine G_done rfl ?_ _; obtain rfl := Option.some.inj h; exact T_stop ok132 rfl (by simp [go_sem])
    ·refine GO_loadO hall Side.row ex7 rfl trivial rfl rfl rfl ?_; dsimp only [go_sem, Nat.reduceBEq, Nat.reduceAdd]; refine G_goN hall hs haf hnap 1 8 ?_; dsimp only [go_sem, Nat.reduceBEq, Nat.reduceAdd]; refine ⟨by simp, ?_⟩; refine G_one 3 rfl ?_; refine GO_ev hall rfl trivial ?_; dsimp only [go_sem, Nat.reduceBEq, Nat.reduceAdd]; refine G_goN hall hs haf hnap 2 5 ?_; dsimp only [go_sem, Nat.reduceBEq, Nat.reduceAdd]; refine ⟨by simp, ?_⟩; refine G_one 6 rfl ?_; refine GO_loadO hall Side.row ex7 rfl trivial rfl rfl rfl ?_; dsimp only [go_sem, Nat.reduceBEq, Nat.reduceAdd]
     refine G_goN hall hs haf hnap 1 3 ?_; dsimp only [go_sem, Nat.reduceBEq, Nat.reduceAdd]; refine ⟨by simp, ?_⟩; refine G_one 14 rfl ?_; refine GO_ev hall rfl trivial ?_; dsimp only [go_sem, Nat.reduceBEq, Nat.reduceAdd]; refine G_one 15 rfl ?_; obtain ⟨x8, ex8, h⟩ := Option.bind_eq_some_iff.1 h; refine GO_appM Mail.row ex8 hall rfl trivial rfl rfl rfl ?_; dsimp only [go_sem, Nat.reduceBEq, Nat.reduceAdd]; refine G_one 16 rfl ?_; refine GO_ev hall rfl trivial ?_; dsimp only [go_sem, Nat.reduceBEq, Nat.reduceAdd]; refine G_done rfl ?_ _; obtain rfl := Option.some.inj h
     exact T_stop ok132 rfl (by simp [go_sem])
  ·refine GO_ev hall rfl trivial ?_; dsimp only [go_sem, Nat.reduceBEq, Nat.reduceAdd]; refine G_goN hall hs haf hnap 2 11 ?_; dsimp only [go_sem, Nat.reduceBEq, Nat.reduceAdd]; refine ⟨by simp, ?_⟩; obtain ⟨x7, ex7, h⟩ := Option.bind_eq_some_iff.1 h; refine G_three 0 6 8 rfl ?_ ?_ ?_
   ·refine GO_ev hall rfl trivial ?_; dsimp only [go_sem, Nat.reduceBEq, Nat.reduceAdd]; refine G_two 6 8 rfl ?_ ?_
    ·refine GO_loadO hall Side.row ex7 rfl trivial rfl rfl rfl ?_; dsimp only [go_sem, Nat.reduceBEq, Nat.reduceAdd]; refine G_one 8 rfl ?_; refine GO_ev hall rfl trivial ?_; dsimp only [go_sem, Nat.reduceBEq, Nat.reduceAdd]; refine G_goN hall hs haf hnap 2 6 ?_; dsimp only [go_sem, Nat.reduceBEq, Nat.reduceAdd]; refine ⟨by simp, ?_⟩; refine G_one 11 rfl ?_; refine GO_loadO hall Side.row ex7 rfl trivial rfl rfl rfl ?_; dsimp only [go_sem, Nat.reduceBEq, Nat.reduceAdd]; refine G_goN hall hs haf hnap 2 3 ?_; dsimp only [go_sem, Nat.reduceBEq, Nat.reduceAdd]; refine ⟨by simp, ?_⟩
     refine G_one 14 rfl ?_; refine GO_ev hall rfl trivial ?_; dsimp only [go_sem, Nat.reduceBEq, Nat.reduceAdd]; refine G_one 15 rfl ?_; obtain ⟨x8, ex8, h⟩ := Option.bind_eq_some_iff.1 h; refine GO_appM Mail.row ex8 hall rfl trivial rfl rfl rfl ?_; dsimp only [go_sem, Nat.reduceBEq, Nat.reduceAdd]; refine G_one 16 rfl ?_; refine GO_ev hall rfl trivial ?_; dsimp only [go_sem, Nat.reduceBEq, Nat.reduceAdd]; refine G_done rfl ?_ _; obtain rfl := Option.some.inj h; exact T_stop ok132 rfl (by simp [go_sem])
    ·refine GO_ev hall rfl trivial ?_; dsimp only [go_sem, Nat.reduceBEq, Nat.reduceAdd]; refine G_goN hall hs haf hnap 2 7 ?_; dsimp only [go_sem, Nat.reduceBEq, Nat.reduceAdd]; refine ⟨by simp, ?_⟩; refine G_two 6 11 rfl ?_ ?_
     ·refine GO_loadO hall Side.row ex7 rfl trivial rfl rfl rfl ?_; dsimp only [go_sem, Nat.reduceBEq, Nat.reduceAdd]; refine G_one 11 rfl ?_; refine GO_loadO hall Side.row ex7 rfl trivial rfl rfl rfl ?_; dsimp only [go_sem, Nat.reduceBEq, Nat.reduceAdd]; refine G_goN hall hs haf hnap 2 3 ?_; dsimp only [go_sem, Nat.reduceBEq, Nat.reduceAdd]; refine ⟨by simp, ?_⟩; refine G_one 14 rfl ?_; refine GO_ev hall rfl trivial ?_; dsimp only [go_sem, Nat.reduceBEq, Nat.reduceAdd]; refine G_one 15 rfl ?_; obtain ⟨x8, ex8, h⟩ := Option.bind_eq_some_iff.1 h
      refine GO_appM Mail.row ex8 hall rfl trivial rfl rfl rfl ?_; dsimp only [go_sem, Nat.reduceBEq, Nat.reduceAdd]; refine G_one 16 rfl ?_; refine GO_ev hall rfl trivial ?_; dsimp only [go_sem, Nat.reduceBEq, Nat.reduceAdd]; refine G_done rfl ?_ _; obtain rfl := Option.some.inj h; exact T_stop ok132 rfl (by simp [go_sem])
     ·refine GO_loadO hall Side.row ex7 rfl trivial rfl rfl rfl ?_; dsimp only [go_sem, Nat.reduceBEq, Nat.reduceAdd]; refine G_goN hall hs haf hnap 1 5 ?_; dsimp only [go_sem, Nat.reduceBEq, Nat.reduceAdd]; refine ⟨by simp, ?_⟩; refine G_one 6 rfl ?_; refine GO_loadO hall Side.row ex7 rfl trivial rfl rfl rfl ?_; dsimp only [go_sem, Nat.reduceBEq, Nat.reduceAdd]; refine G_goN hall hs haf hnap 1 3 ?_; dsimp only [go_sem, Nat.reduceBEq, Nat.reduceAdd]; refine ⟨by simp, ?_⟩; refine G_one 14 rfl ?_; refine GO_ev hall rfl trivial ?_; dsimp only [go_sem, Nat.reduceBEq, Nat.reduceAdd]
      refine G_one 15 rfl ?_; obtain ⟨x8, ex8, h⟩ := Option.bind_eq_some_iff.1 h; refine GO_appM Mail.row ex8 hall rfl trivial rfl rfl rfl ?_; dsimp only [go_sem, Nat.reduceBEq, Nat.reduceAdd]; refine G_one 16 rfl ?_; refine GO_ev hall rfl trivial ?_; dsimp only [go_sem, Nat.reduceBEq, Nat.reduceAdd]; refine G_done rfl ?_ _; obtain rfl := Option.some.inj h; exact T_stop ok132 rfl (by simp [go_sem])
   ·refine GO_loadO hall Side.row ex7 rfl trivial rfl rfl rfl ?_; dsimp only [go_sem, Nat.reduceBEq, Nat.reduceAdd]; refine G_two 0 8 rfl ?_ ?_
    ·refine GO_ev hall rfl trivial ?_; dsimp only [go_sem, Nat.reduceBEq, Nat.reduceAdd]; refine G_one 8 rfl ?_; refine GO_ev hall rfl trivial ?_; dsimp only [go_sem, Nat.reduceBEq, Nat.reduceAdd]; refine G_goN hall hs haf hnap 2 6 ?_; dsimp only [go_sem, Nat.reduceBEq, Nat.reduceAdd]; refine ⟨by simp, ?_⟩; refine G_one 11 rfl ?_; refine GO_loadO hall Side.row ex7 rfl trivial rfl rfl rfl ?_; dsimp only [go_sem, Nat.reduceBEq, Nat.reduceAdd]; refine G_goN hall hs haf hnap 2 3 ?_; dsimp only [go_sem, Nat.reduceBEq, Nat.reduceAdd]; refine ⟨by simp, ?_⟩; refine G_one 14 rfl ?_
     refine GO_ev hall rfl trivial ?_; dsimp only [go_sem, Nat.reduceBEq, Nat.reduceAdd]; refine G_one 15 rfl ?_; obtain ⟨x8, ex8, h⟩ := Option.bind_eq_some_iff.1 h; refine GO_appM Mail.row ex8 hall rfl trivial rfl rfl rfl ?_; dsimp only [go_sem, Nat.reduceBEq, Nat.reduceAdd]; refine G_one 16 rfl ?_; refine GO_ev hall rfl trivial ?_; dsimp only [go_sem, Nat.reduceBEq, Nat.reduceAdd]; refine G_done rfl ?_ _; obtain rfl := Option.some.inj h; exact T_stop ok132 rfl (by simp [go_sem])
    ·refine GO_ev hall rfl trivial ?_; dsimp only [go_sem, Nat.reduceBEq, Nat.reduceAdd]; refine G_goN hall hs haf hnap 2 7 ?_; dsimp only [go_sem, Nat.reduceBEq, Nat.reduceAdd]; refine ⟨by simp, ?_⟩; refine G_two 0 11 rfl ?_ ?_
     ·refine GO_ev hall rfl trivial ?_; dsimp only [go_sem, Nat.reduceBEq, Nat.reduceAdd]; refine G_one 11 rfl ?_; refine GO_loadO hall Side.row ex7 rfl trivial rfl rfl rfl ?_; dsimp only [go_sem, Nat.reduceBEq, Nat.reduceAdd]; refine G_goN hall hs haf hnap 2 3 ?_; dsimp only [go_sem, Nat.reduceBEq, Nat.reduceAdd]; refine ⟨by simp, ?_⟩; refine G_one 14 rfl ?_; refine GO_ev hall rfl trivial ?_; dsimp only [go_sem, Nat.reduceBEq, Nat.reduceAdd]; refine G_one 15 rfl ?_; obtain ⟨x8, ex8, h⟩ := Option.bind_eq_some_iff.1 h; refine GO_appM Mail.row ex8 hall rfl trivial rfl rfl rfl ?_
      dsimp only [go_sem, Nat.reduceBEq, Nat.reduceAdd]; refine G_one 16 rfl ?_; refine GO_ev hall rfl trivial ?_; dsimp only [go_sem, Nat.reduceBEq, Nat.reduceAdd]; refine G_done rfl ?_ _; obtain rfl := Option.some.inj h; exact T_stop ok132 rfl (by simp [go_sem])
     ·refine GO_loadO hall Side.row ex7 rfl trivial rfl rfl rfl ?_; dsimp only [go_sem, Nat.reduceBEq, Nat.reduceAdd]; refine G_goN hall hs haf hnap 2 4 ?_; dsimp only [go_sem, Nat.reduceBEq, Nat.reduceAdd]; refine ⟨by simp, ?_⟩; refine G_two 0 14 rfl ?_ ?_
      ·refine GO_ev hall rfl trivial ?_; dsimp only [go_sem, Nat.reduceBEq, Nat.reduceAdd]; refine G_one 14 rfl ?_; refine GO_ev hall rfl trivial ?_; dsimp only [go_sem, Nat.reduceBEq, Nat.reduceAdd]; refine G_one 15 rfl ?_; obtain ⟨x8, ex8, h⟩ := Option.bind_eq_some_iff.1 h; refine GO_appM Mail.row ex8 hall rfl trivial rfl rfl rfl ?_; dsimp only [go_sem, Nat.reduceBEq, Nat.reduceAdd]; refine G_one 16 rfl ?_; refine GO_ev hall rfl trivial ?_; dsimp only [go_sem, Nat.reduceBEq, Nat.reduceAdd]; refine G_done rfl ?_ _; obtain rfl := Option.some.inj h; exact T_stop ok132 rfl (by simp [go_sem])
      ·refine GO_ev hall rfl trivial ?_; dsimp only [go_sem, Nat.reduceBEq, Nat.reduceAdd]; refine G_one 0 rfl ?_; refine GO_ev hall rfl trivial ?_; dsimp only [go_sem, Nat.reduceBEq, Nat.reduceAdd]; refine G_one 15 rfl ?_; obtain ⟨x8, ex8, h⟩ := Option.bind_eq_some_iff.1 h; refine GO_appM Mail.row ex8 hall rfl trivial rfl rfl rfl ?_; dsimp only [go_sem, Nat.reduceBEq, Nat.reduceAdd]; refine G_one 16 rfl ?_; refine GO_ev hall rfl trivial ?_; dsimp only [go_sem, Nat.reduceBEq, Nat.reduceAdd]; refine G_done rfl ?_ _; obtain rfl := Option.some.inj h; exact T_stop ok132 rfl (by simp [go_sem])
   ·refine GO_ev hall rfl trivial ?_; dsimp only [go_sem, Nat.reduceBEq, Nat.reduceAdd]; refine G_goN hall hs haf hnap 2 8 ?_; dsimp only [go_sem, Nat.reduceBEq, Nat.reduceAdd]; refine ⟨by simp, ?_⟩; refine G_three 0 6 11 rfl ?_ ?_ ?_
    ·refine GO_ev hall rfl trivial ?_; dsimp only [go_sem, Nat.reduceBEq, Nat.reduceAdd]; refine G_two 6 11 rfl ?_ ?_
     ·refine GO_loadO hall Side.row ex7 rfl trivial rfl rfl rfl ?_; dsimp only [go_sem, Nat.reduceBEq, Nat.reduceAdd]; refine G_one 11 rfl ?_; refine GO_loadO hall Side.row ex7 rfl trivial rfl rfl rfl ?_; dsimp only [go_sem, Nat.reduceBEq, Nat.reduceAdd]; refine G_goN hall hs haf hnap 2 3 ?_; dsimp only [go_sem, Nat.reduceBEq, Nat.reduceAdd]; refine ⟨by simp, ?_⟩; refine G_one 14 rfl ?_; refine GO_ev hall rfl trivial ?_; dsimp only [go_sem, Nat.reduceBEq, Nat.reduceAdd]; refine G_one 15 rfl ?_; obtain ⟨x8, ex8, h⟩ := Option.bind_eq_some_iff.1 h
      refine GO_appM Mail.row ex8 hall rfl trivial rfl rfl rfl ?_; dsimp only [go_sem, Nat.reduceBEq, Nat.reduceAdd]; refine G_one 16 rfl ?_; refine GO_ev hall rfl trivial ?_; dsimp only [go_sem, Nat.reduceBEq, Nat.reduceAdd]; refine G_done rfl ?_ _; obtain rfl := Option.some.inj h; exact T_stop ok132 rfl (by simp [go_sem])
     ·refine GO_loadO hall Side.row ex7 rfl trivial rfl rfl rfl ?_; dsimp only [go_sem, Nat.reduceBEq, Nat.reduceAdd]; refine G_goN hall hs haf hnap 1 5 ?_; dsimp only [go_sem, Nat.reduceBEq, Nat.reduceAdd]; refine ⟨by simp, ?_⟩; refine G_one 6 rfl ?_; refine GO_loadO hall Side.row ex7 rfl trivial rfl rfl rfl ?_; dsimp only [go_sem, Nat.reduceBEq, Nat.reduceAdd]; refine G_goN hall hs haf hnap 1 3 ?_; dsimp only [go_sem, Nat.reduceBEq, Nat.reduceAdd]; refine ⟨by simp, ?_⟩; refine G_one 14 rfl ?_; refine GO_ev hall rfl trivial ?_; dsimp only [go_sem, Nat.reduceBEq, Nat.reduceAdd]
      refine G_one 15 rfl ?_; obtain ⟨x8, ex8, h⟩ := Option.bind_eq_some_iff.1 h; refine GO_appM Mail.row ex8 hall rfl trivial rfl rfl rfl ?_; dsimp only [go_sem, Nat.reduceBEq, Nat.reduceAdd]; refine G_one 16 rfl ?_; refine GO_ev hall rfl trivial ?_; dsimp only [go_sem, Nat.reduceBEq, Nat.reduceAdd]; refine G_done rfl ?_ _; obtain rfl := Option.some.inj h; exact T_stop ok132 rfl (by simp [go_sem])
    ·refine GO_loadO hall Side.row ex7 rfl trivial rfl rfl rfl ?_; dsimp only [go_sem, Nat.reduceBEq, Nat.reduceAdd]; refine G_two 0 11 rfl ?_ ?_
     ·refine GO_ev hall rfl trivial ?_; dsimp only [go_sem, Nat.reduceBEq, Nat.reduceAdd]; refine G_one 11 rfl ?_; refine GO_loadO hall Side.row ex7 rfl trivial rfl rfl rfl ?_; dsimp only [go_sem, Nat.reduceBEq, Nat.reduceAdd]; refine G_goN hall hs haf hnap 2 3 ?_; dsimp only [go_sem, Nat.reduceBEq, Nat.reduceAdd]; refine ⟨by simp, ?_⟩; refine G_one 14 rfl ?_; refine GO_ev hall rfl trivial ?_; dsimp only [go_sem, Nat.reduceBEq, Nat.reduceAdd]; refine G_one 15 rfl ?_; obtain ⟨x8, ex8, h⟩ := Option.bind_eq_some_iff.1 h; refine GO_appM Mail.row ex8 hall rfl trivial rfl rfl rfl ?_
      dsimp only [go_sem, Nat.reduceBEq, Nat.reduceAdd]; refine G_one 16 rfl ?_; refine GO_ev hall rfl trivial ?_; dsimp only [go_sem, Nat.reduceBEq, Nat.reduceAdd]; refine G_done rfl ?_ _; obtain rfl := Option.some.inj h; exact T_stop ok132 rfl (by simp [go_sem])
     ·refine GO_loadO hall Side.row ex7 rfl trivial rfl rfl rfl ?_; dsimp only [go_sem, Nat.reduceBEq, Nat.reduceAdd]; refine G_goN hall hs haf hnap 2 4 ?_; dsimp only [go_sem, Nat.reduceBEq, Nat.reduceAdd]; refine ⟨by simp, ?_⟩; refine G_two 0 14 rfl ?_ ?_
      ·refine GO_ev hall rfl trivial ?_; dsimp only [go_sem, Nat.reduceBEq, Nat.reduceAdd]; refine G_one 14 rfl ?_; refine GO_ev hall rfl trivial ?_; dsimp only [go_sem, Nat.reduceBEq, Nat.reduceAdd]; refine G_one 15 rfl ?_; obtain ⟨x8, ex8, h⟩ := Option.bind_eq_some_iff.1 h; refine GO_appM Mail.row ex8 hall rfl trivial rfl rfl rfl ?_; dsimp only [go_sem, Nat.reduceBEq, Nat.reduceAdd]; refine G_one 16 rfl ?_; refine GO_ev hall rfl trivial ?_; dsimp only [go_sem, Nat.reduceBEq, Nat.reduceAdd]; refine G_done rfl ?_ _; obtain rfl := Option.some.inj h; exact T_stop ok132 rfl (by simp [go_sem])
      ·refine GO_ev hall rfl trivial ?_; dsimp only [go_sem, Nat.reduceBEq, Nat.reduceAdd]; refine G_one 0 rfl ?_; refine GO_ev hall rfl trivial ?_; dsimp only [go_sem, Nat.reduceBEq, Nat.reduceAdd]; refine G_one 15 rfl ?_; obtain ⟨x8, ex8, h⟩ := Option.bind_eq_some_iff.1 h; refine GO_appM Mail.row ex8 hall rfl trivial rfl rfl rfl ?_; dsimp only [go_sem, Nat.reduceBEq, Nat.reduceAdd]; refine G_one 16 rfl ?_; refine GO_ev hall rfl trivial ?_; dsimp only [go_sem, Nat.reduceBEq, Nat.reduceAdd]; refine G_done rfl ?_ _; obtain rfl := Option.some.inj h; exact T_stop ok132 rfl (by simp [go_sem])
    ·refine GO_loadO hall Side.row ex7 rfl trivial rfl rfl rfl ?_; dsimp only [go_sem, Nat.reduceBEq, Nat.reduceAdd]; refine G_goN hall hs haf hnap 1 6 ?_; dsimp only [go_sem, Nat.reduceBEq, Nat.reduceAdd]; refine ⟨by simp, ?_⟩; refine G_two 0 6 rfl ?_ ?_
     ·refine GO_ev hall rfl trivial ?_; dsimp only [go_sem, Nat.reduceBEq, Nat.reduceAdd]; refine G_one 6 rfl ?_; refine GO_loadO hall Side.row ex7 rfl trivial rfl rfl rfl ?_; dsimp only [go_sem, Nat.reduceBEq, Nat.reduceAdd]; refine G_goN hall hs haf hnap 1 3 ?_; dsimp only [go_sem, Nat.reduceBEq, Nat.reduceAdd]; refine ⟨by simp, ?_⟩; refine G_one 14 rfl ?_; refine GO_ev hall rfl trivial ?_; dsimp only [go_sem, Nat.reduceBEq, Nat.reduceAdd]; refine G_one 15 rfl ?_; obtain ⟨x8, ex8, h⟩ := Option.bind_eq_some_iff.1 h; refine GO_appM Mail.row ex8 hall rfl trivial rfl rfl rfl ?_
      dsimp only [go_sem, Nat.reduceBEq, Nat.reduceAdd]; refine G_one 16 rfl ?_; refine GO_ev hall rfl trivial ?_; dsimp only [go_sem, Nat.reduceBEq, Nat.reduceAdd]; refine G_done rfl ?_ _; obtain rfl := Option.some.inj h; exact T_stop ok132 rfl (by simp [go_sem])
     ·refine GO_loadO hall Side.row ex7 rfl trivial rfl rfl rfl ?_; dsimp only [go_sem, Nat.reduceBEq, Nat.reduceAdd]; refine G_goN hall hs haf hnap 1 4 ?_; dsimp only [go_sem, Nat.reduceBEq, Nat.reduceAdd]; refine ⟨by simp, ?_⟩; refine G_two 0 14 rfl ?_ ?_
      ·refine GO_ev hall rfl trivial ?_; dsimp only [go_sem, Nat.reduceBEq, Nat.reduceAdd]; refine G_one 14 rfl ?_; refine GO_ev hall rfl trivial ?_; dsimp only [go_sem, Nat.reduceBEq, Nat.reduceAdd]; refine G_one 15 rfl ?_; obtain ⟨x8, ex8, h⟩ := Option.bind_eq_some_iff.1 h; refine GO_appM Mail.row ex8 hall rfl trivial rfl rfl rfl ?_; dsimp only [go_sem, Nat.reduceBEq, Nat.reduceAdd]; refine G_one 16 rfl ?_; refine GO_ev hall rfl trivial ?_; dsimp only [go_sem, Nat.reduceBEq, Nat.reduceAdd]; refine G_done rfl ?_ _; obtain rfl := Option.some.inj h; exact T_stop ok132 rfl (by simp [go_sem])
      ·refine GO_ev hall rfl trivial ?_; dsimp only [go_sem, Nat.reduceBEq, Nat.reduceAdd]; refine G_one 0 rfl ?_; refine GO_ev hall rfl trivial ?_; dsimp only [go_sem, Nat.reduceBEq, Nat.reduceAdd]; refine G_one 15 rfl ?_; obtain ⟨x8, ex8, h⟩ := Option.bind_eq_some_iff.1 h; refine GO_appM Mail.row ex8 hall rfl trivial rfl rfl rfl ?_; dsimp only [go_sem, Nat.reduceBEq, Nat.reduceAdd]; refine G_one 16 rfl ?_; refine GO_ev hall rfl trivial ?_; dsimp only [go_sem, Nat.reduceBEq, Nat.reduceAdd]; refine G_done rfl ?_ _; obtain rfl := Option.some.inj h; exact T_stop ok132 rfl (by simp [go_sem])
  ·refine GO_ev hall rfl trivial ?_; dsimp only [go_sem, Nat.reduceBEq, Nat.reduceAdd]; refine G_goN hall hs haf hnap 2 11 ?_; dsimp only [go_sem, Nat.reduceBEq, Nat.reduceAdd]; refine ⟨by simp, ?_⟩; obtain ⟨x7, ex7, h⟩ := Option.bind_eq_some_iff.1 h; refine G_three 0 3 11 rfl ?_ ?_ ?_
   ·refine GO_ev hall rfl trivial ?_; dsimp only [go_sem, Nat.reduceBEq, Nat.reduceAdd]; refine G_two 3 11 rfl ?_ ?_
    ·refine GO_ev hall rfl trivial ?_; dsimp only [go_sem, Nat.reduceBEq, Nat.reduceAdd]; refine G_goN hall hs haf hnap 2 7 ?_; dsimp only [go_sem, Nat.reduceBEq, Nat.reduceAdd]; refine ⟨by simp, ?_⟩; refine G_two 6 11 rfl ?_ ?_
     ·refine GO_loadO hall Side.row ex7 rfl trivial rfl rfl rfl ?_; dsimp only [go_sem, Nat.reduceBEq, Nat.reduceAdd]; refine G_one 11 rfl ?_; refine GO_loadO hall Side.row ex7 rfl trivial rfl rfl rfl ?_; dsimp only [go_sem, Nat.reduceBEq, Nat.reduceAdd]; refine G_goN hall hs haf hnap 2 3 ?_; dsimp only [go_sem, Nat.reduceBEq, Nat.reduceAdd]; refine ⟨by simp, ?_⟩; refine G_one 14 rfl ?_; refine GO_ev hall rfl trivial ?_; dsimp only [go_sem, Nat.reduceBEq, Nat.reduceAdd]; refine G_one 15 rfl ?_; obtain ⟨x8, ex8, h⟩ := Option.bind_eq_some_iff.1 h
      refine GO_appM Mail.row ex8 hall rfl trivial rfl rfl rfl ?_; dsimp only [go_sem, Nat.reduceBEq, Nat.reduceAdd]; refine G_one 16 rfl ?_; refine GO_ev hall rfl trivial ?_; dsimp only [go_sem, Nat.reduceBEq, Nat.reduceAdd]; refine G_done rfl ?_ _; obtain rfl := Option.some.inj h; exact T_stop ok132 rfl (by simp [go_sem])
     ·refine GO_loadO hall Side.row ex7 rfl trivial rfl rfl rfl ?_; dsimp only [go_sem, Nat.reduceBEq, Nat.reduceAdd]; refine G_goN hall hs haf hnap 1 5 ?_; dsimp only [go_sem, Nat.reduceBEq, Nat.reduceAdd]; refine ⟨by simp, ?_⟩; refine G_one 6 rfl ?_; refine GO_loadO hall Side.row ex7 rfl trivial rfl rfl rfl ?_; dsimp only [go_sem, Nat.reduceBEq, Nat.reduceAdd]; refine G_goN hall hs haf hnap 1 3 ?_; dsimp only [go_sem, Nat.reduceBEq, Nat.reduceAdd]; refine ⟨by simp, ?_⟩; refine G_one 14 rfl ?_; refine GO_ev hall rfl trivial ?_; dsimp only [go_sem, Nat.reduceBEq, Nat.reduceAdd]
      refine G_one 15 rfl ?_; obtain ⟨x8, ex8, h⟩ := Option.bind_eq_some_iff.1 h; refine GO_appM Mail.row ex8 hall rfl trivial rfl rfl rfl ?_; dsimp only [go_sem, Nat.reduceBEq, Nat.reduceAdd]; refine G_one 16 rfl ?_; refine GO_ev hall rfl trivial ?_; dsimp only [go_sem, Nat.reduceBEq, Nat.reduceAdd]; refine G_done rfl ?_ _; obtain rfl := Option.some.inj h; exact T_stop ok132 rfl (by simp [go_sem])
    ·refine GO_loadO hall Side.row ex7 rfl trivial rfl rfl rfl ?_; dsimp only [go_sem, Nat.reduceBEq, Nat.reduceAdd]; refine G_goN hall hs haf hnap 1 8 ?_; dsimp only [go_sem, Nat.reduceBEq, Nat.reduceAdd]; refine ⟨by simp, ?_⟩; refine G_one 3 rfl ?_; refine GO_ev hall rfl trivial ?_; dsimp only [go_sem, Nat.reduceBEq, Nat.reduceAdd]; refine G_goN hall hs haf hnap 2 5 ?_; dsimp only [go_sem, Nat.reduceBEq, Nat.reduceAdd]; refine ⟨by simp, ?_⟩; refine G_one 6 rfl ?_; refine GO_loadO hall Side.row ex7 rfl trivial rfl rfl rfl ?_; dsimp only [go_sem, Nat.reduceBEq, Nat.reduceAdd]
     refine G_goN hall hs haf hnap 1 3 ?_; dsimp only [go_sem, Nat.reduceBEq, Nat.reduceAdd]; refine ⟨by simp, ?_⟩; refine G_one 14 rfl ?_; refine GO_ev hall rfl trivial ?_; dsimp only [go_sem, Nat.reduceBEq, Nat.reduceAdd]; refine G_one 15 rfl ?_; obtain ⟨x8, ex8, h⟩ := Option.bind_eq_some_iff.1 h; refine GO_appM Mail.row ex8 hall rfl trivial rfl rfl rfl ?_; dsimp only [go_sem, Nat.reduceBEq, Nat.reduceAdd]; refine G_one 16 rfl ?_; refine GO_ev hall rfl trivial ?_; dsimp only [go_sem, Nat.reduceBEq, Nat.reduceAdd]; refine G_done rfl ?_ _; obtain rfl := Option.some.inj h
     exact T_stop ok132 rfl (by simp [go_sem])
   ·refine GO_ev hall rfl trivial ?_; dsimp only [go_sem, Nat.reduceBEq, Nat.reduceAdd]; refine G_goN hall hs haf hnap 2 8 ?_; dsimp only [go_sem, Nat.reduceBEq, Nat.reduceAdd]; refine ⟨by simp, ?_⟩; refine G_three 0 6 11 rfl ?_ ?_ ?_
    ·refine GO_ev hall rfl trivial ?_; dsimp only [go_sem, Nat.reduceBEq, Nat.reduceAdd]; refine G_two 6 11 rfl ?_ ?_
     ·refine GO_loadO hall Side.row ex7 rfl trivial rfl rfl rfl ?_; dsimp only [go_sem, Nat.reduceBEq, Nat.reduceAdd]; refine G_one 11 rfl ?_; refine GO_loadO hall Side.row ex7 rfl trivial rfl rfl rfl ?_; dsimp only [go_sem, Nat.reduceBEq, Nat.reduceAdd]; refine G_goN hall hs haf hnap 2 3 ?_; dsimp only [go_sem, Nat.reduceBEq, Nat.reduceAdd]; refine ⟨by simp, ?_⟩; refine G_one 14 rfl ?_; refine GO_ev hall rfl trivial ?_; dsimp only [go_sem, Nat.reduceBEq, Nat.reduceAdd]; refine G_one 15 rfl ?_; obtain ⟨x8, ex8, h⟩ := Option.bind_eq_some_iff.1 h
      refine GO_appM Mail.row ex8 hall rfl trivial rfl rfl rfl ?_; dsimp only [go_sem, Nat.reduceBEq, Nat.reduceAdd]; refine G_one 16 rfl ?_; refine GO_ev hall rfl trivial ?_; dsimp only [go_sem, Nat.reduceBEq, Nat.reduceAdd]; refine G_done rfl ?_ _; obtain rfl := Option.some.inj h; exact T_stop ok132 rfl (by simp [go_sem])
     ·refine GO_loadO hall Side.row ex7 rfl trivial rfl rfl rfl ?_; dsimp only [go_sem, Nat.reduceBEq, Nat.reduceAdd]; refine G_goN hall hs haf hnap 1 5 ?_; dsimp only [go_sem, Nat.reduceBEq, Nat.reduceAdd]; refine ⟨by simp, ?_⟩; refine G_one 6 rfl ?_; refine GO_loadO hall Side.row ex7 rfl trivial rfl rfl rfl ?_; dsimp only [go_sem, Nat.reduceBEq, Nat.reduceAdd]; refine G_goN hall hs haf hnap 1 3 ?_; dsimp only [go_sem, Nat.reduceBEq, Nat.reduceAdd]; refine ⟨by simp, ?_⟩; refine G_one 14 rfl ?_; refine GO_ev hall rfl trivial ?_; dsimp only [go_sem, Nat.reduceBEq, Nat.reduceAdd]
      refine G_one 15 rfl ?_; obtain ⟨x8, ex8, h⟩ := Option.bind_eq_some_iff.1 h; refine GO_appM Mail.row ex8 hall rfl trivial rfl rfl rfl ?_; dsimp only [go_sem, Nat.reduceBEq, Nat.reduceAdd]; refine G_one 16 rfl ?_; refine GO_ev hall rfl trivial ?_; dsimp only [go_sem, Nat.reduceBEq, Nat.reduceAdd]; refine G_done rfl ?_ _; obtain rfl := Option.some.inj h; exact T_stop ok132 rfl (by simp [go_sem])
    ·refine GO_loadO hall Side.row ex7 rfl trivial rfl rfl rfl ?_; dsimp only [go_sem, Nat.reduceBEq, Nat.reduceAdd]; refine G_two 0 11 rfl ?_ ?_
     ·refine GO_ev hall rfl trivial ?_; dsimp only [go_sem, Nat.reduceBEq, Nat.reduceAdd]; refine G_one 11 rfl ?_; refine GO_loadO hall Side.row ex7 rfl trivial rfl rfl rfl ?_; dsimp only [go_sem, Nat.reduceBEq, Nat.reduceAdd]; refine G_goN hall hs haf hnap 2 3 ?_; dsimp only [go_sem, Nat.reduceBEq, Nat.reduceAdd]; refine ⟨by simp, ?_⟩; refine G_one 14 rfl ?_; refine GO_ev hall rfl trivial ?_; dsimp only [go_sem, Nat.reduceBEq, Nat.reduceAdd]; refine G_one 15 rfl ?_; obtain ⟨x8, ex8, h⟩ := Option.bind_eq_some_iff.1 h; refine GO_appM Mail.row ex8 hall rfl trivial rfl rfl rfl ?_
      dsimp only [go_sem, Nat.reduceBEq, Nat.reduceAdd]; refine G_one 16 rfl ?_; refine GO_ev hall rfl trivial ?_; dsimp only [go_sem, Nat.reduceBEq, Nat.reduceAdd]; refine G_done rfl ?_ _; obtain rfl := Option.some.inj h; exact T_stop ok132 rfl (by simp [go_sem])
     ·refine GO_loadO hall Side.row ex7 rfl trivial rfl rfl rfl ?_; dsimp only [go_sem, Nat.reduceBEq, Nat.reduceAdd]; refine G_goN hall hs haf hnap 2 4 ?_; dsimp only [go_sem, Nat.reduceBEq, Nat.reduceAdd]; refine ⟨by simp, ?_⟩; refine G_two 0 14 rfl ?_ ?_
      ·refine GO_ev hall rfl trivial ?_; dsimp only [go_sem, Nat.reduceBEq, Nat.reduceAdd]; refine G_one 14 rfl ?_; refine GO_ev hall rfl trivial ?_; dsimp only [go_sem, Nat.reduceBEq, Nat.reduceAdd]; refine G_one 15 rfl ?_; obtain ⟨x8, ex8, h⟩ := Option.bind_eq_some_iff.1 h; refine GO_appM Mail.row ex8 hall rfl trivial rfl rfl rfl ?_; dsimp only [go_sem, Nat.reduceBEq, Nat.reduceAdd]; refine G_one 16 rfl ?_; refine GO_ev hall rfl trivial ?_; dsimp only [go_sem, Nat.reduceBEq, Nat.reduceAdd]; refine G_done rfl ?_ _; obtain rfl := Option.some.inj h; exact T_stop ok132 rfl (by simp [go_sem])
      ·refine GO_ev hall rfl trivial ?_; dsimp only [go_sem, Nat.reduceBEq, Nat.reduceAdd]; refine G_one 0 rfl ?_; refine GO_ev hall rfl trivial ?_; dsimp only [go_sem, Nat.reduceBEq, Nat.reduceAdd]; refine G_one 15 rfl ?_; obtain ⟨x8, ex8, h⟩ := Option.bind_eq_some_iff.1 h; refine GO_appM Mail.row ex8 hall rfl trivial rfl rfl rfl ?_; dsimp only [go_sem, Nat.reduceBEq, Nat.reduceAdd]; refine G_one 16 rfl ?_; refine GO_ev hall rfl trivial ?_; dsimp only [go_sem, Nat.reduceBEq, Nat.reduceAdd]; refine G_done rfl ?_ _; obtain rfl := Option.some.inj h; exact T_stop ok132 rfl (by simp [go_sem])
    ·refine GO_loadO hall Side.row ex7 rfl trivial rfl rfl rfl ?_; dsimp only [go_sem, Nat.reduceBEq, Nat.reduceAdd]; refine G_goN hall hs haf hnap 1 6 ?_; dsimp only [go_sem, Nat.reduceBEq, Nat.reduceAdd]; refine ⟨by simp, ?_⟩; refine G_two 0 6 rfl ?_ ?_
     ·refine GO_ev hall rfl trivial ?_; dsimp only [go_sem, Nat.reduceBEq, Nat.reduceAdd]; refine G_one 6 rfl ?_; refine GO_loadO hall Side.row ex7 rfl trivial rfl rfl rfl ?_; dsimp only [go_sem, Nat.reduceBEq, Nat.reduceAdd]; refine G_goN hall hs haf hnap 1 3 ?_; dsimp only [go_sem, Nat.reduceBEq, Nat.reduceAdd]; refine ⟨by simp, ?_⟩; refine G_one 14 rfl ?_; refine GO_ev hall rfl trivial ?_; dsimp only [go_sem, Nat.reduceBEq, Nat.reduceAdd]; refine G_one 15 rfl ?_; obtain ⟨x8, ex8, h⟩ := Option.bind_eq_some_iff.1 h; refine GO_appM Mail.row ex8 hall rfl trivial rfl rfl rfl ?_
      dsimp only [go_sem, Nat.reduceBEq, Nat.reduceAdd]; refine G_one 16 rfl ?_; refine GO_ev hall rfl trivial ?_; dsimp only [go_sem, Nat.reduceBEq, Nat.reduceAdd]; refine G_done rfl ?_ _; obtain rfl := Option.some.inj h; exact T_stop ok132 rfl (by simp [go_sem])
     ·refine GO_loadO hall Side.row ex7 rfl trivial rfl rfl rfl ?_; dsimp only [go_sem, Nat.reduceBEq, Nat.reduceAdd]; refine G_goN hall hs haf hnap 1 4 ?_; dsimp only [go_sem, Nat.reduceBEq, Nat.reduceAdd]; refine ⟨by simp, ?_⟩; refine G_two 0 14 rfl ?_ ?_
      ·refine GO_ev hall rfl trivial ?_; dsimp only [go_sem, Nat.reduceBEq, Nat.reduceAdd]; refine G_one 14 rfl ?_; refine GO_ev hall rfl trivial ?_; dsimp only [go_sem, Nat.reduceBEq, Nat.reduceAdd]; refine G_one 15 rfl ?_; obtain ⟨x8, ex8, h⟩ := Option.bind_eq_some_iff.1 h; refine GO_appM Mail.row ex8 hall rfl trivial rfl rfl rfl ?_; dsimp only [go_sem, Nat.reduceBEq, Nat.reduceAdd]; refine G_one 16 rfl ?_; refine GO_ev hall rfl trivial ?_; dsimp only [go_sem, Nat.reduceBEq, Nat.reduceAdd]; refine G_done rfl ?_ _; obtain rfl := Option.some.inj h; exact T_stop ok132 rfl (by simp [go_sem])
      ·refine GO_ev hall rfl trivial ?_; dsimp only [go_sem, Nat.reduceBEq, Nat.reduceAdd]; refine G_one 0 rfl ?_; refine GO_ev hall rfl trivial ?_; dsimp only [go_sem, Nat.reduceBEq, Nat.reduceAdd]; refine G_one 15 rfl ?_; obtain ⟨x8, ex8, h⟩ := Option.bind_eq_some_iff.1 h; refine GO_appM Mail.row ex8 hall rfl trivial rfl rfl rfl ?_; dsimp only [go_sem, Nat.reduceBEq, Nat.reduceAdd]; refine G_one 16 rfl ?_; refine GO_ev hall rfl trivial ?_; dsimp only [go_sem, Nat.reduceBEq, Nat.reduceAdd]; refine G_done rfl ?_ _; obtain rfl := Option.some.inj h; exact T_stop ok132 rfl (by simp [go_sem])
   ·refine GO_loadO hall Side.row ex7 rfl trivial rfl rfl rfl ?_; dsimp only [go_sem, Nat.reduceBEq, Nat.reduceAdd]; refine G_goN hall hs haf hnap 1 9 ?_; dsimp only [go_sem, Nat.reduceBEq, Nat.reduceAdd]; refine ⟨by simp, ?_⟩; refine G_two 0 3 rfl ?_ ?_
    ·refine GO_ev hall rfl trivial ?_; dsimp only [go_sem, Nat.reduceBEq, Nat.reduceAdd]; refine G_one 3 rfl ?_; refine GO_ev hall rfl trivial ?_; dsimp only [go_sem, Nat.reduceBEq, Nat.reduceAdd]; refine G_goN hall hs haf hnap 2 5 ?_; dsimp only [go_sem, Nat.reduceBEq, Nat.reduceAdd]; refine ⟨by simp, ?_⟩; refine G_one 6 rfl ?_; refine GO_loadO hall Side.row ex7 rfl trivial rfl rfl rfl ?_; dsimp only [go_sem, Nat.reduceBEq, Nat.reduceAdd]; refine G_goN hall hs haf hnap 1 3 ?_; dsimp only [go_sem, Nat.reduceBEq, Nat.reduceAdd]; refine ⟨by simp, ?_⟩; refine G_one 14 rfl ?_
     refine GO_ev hall rfl trivial ?_; dsimp only [go_sem, Nat.reduceBEq, Nat.reduceAdd]; refine G_one 15 rfl ?_; obtain ⟨x8, ex8, h⟩ := Option.bind_eq_some_iff.1 h; refine GO_appM Mail.row ex8 hall rfl trivial rfl rfl rfl ?_; dsimp only [go_sem, Nat.reduceBEq, Nat.reduceAdd]; refine G_one 16 rfl ?_; refine GO_ev hall rfl trivial ?_; dsimp only [go_sem, Nat.reduceBEq, Nat.reduceAdd]; refine G_done rfl ?_ _; obtain rfl := Option.some.inj h; exact T_stop ok132 rfl (by simp [go_sem])
    ·refine GO_ev hall rfl trivial ?_; dsimp only [go_sem, Nat.reduceBEq, Nat.reduceAdd]; refine G_goN hall hs haf hnap 2 6 ?_; dsimp only [go_sem, Nat.reduceBEq, Nat.reduceAdd]; refine ⟨by simp, ?_⟩; refine G_two 0 6 rfl ?_ ?_
     ·refine GO_ev hall rfl trivial ?_; dsimp only [go_sem, Nat.reduceBEq, Nat.reduceAdd]; refine G_one 6 rfl ?_; refine GO_loadO hall Side.row ex7 rfl trivial rfl rfl rfl ?_; dsimp only [go_sem, Nat.reduceBEq, Nat.reduceAdd]; refine G_goN hall hs haf hnap 1 3 ?_; dsimp only [go_sem, Nat.reduceBEq, Nat.reduceAdd]; refine ⟨by simp, ?_⟩; refine G_one 14 rfl ?_; refine GO_ev hall rfl trivial ?_; dsimp only [go_sem, Nat.reduceBEq, Nat.reduceAdd]; refine G_one 15 rfl ?_; obtain ⟨x8, ex8, h⟩ := Option.bind_eq_some_iff.1 h; refine GO_appM Mail.row ex8 hall rfl trivial rfl rfl rfl ?_
      dsimp only [go_sem, Nat.reduceBEq, Nat.reduceAdd]; refine G_one 16 rfl ?_; refine GO_ev hall rfl trivial ?_; dsimp only [go_sem, Nat.reduceBEq, Nat.reduceAdd]; refine G_done rfl ?_ _; obtain rfl := Option.some.inj h; exact T_stop ok132 rfl (by simp [go_sem])
     ·refine GO_loadO hall Side.row ex7 rfl trivial rfl rfl rfl ?_; dsimp only [go_sem, Nat.reduceBEq, Nat.reduceAdd]; refine G_goN hall hs haf hnap 1 4 ?_; dsimp only [go_sem, Nat.reduceBEq, Nat.reduceAdd]; refine ⟨by simp, ?_⟩; refine G_two 0 14 rfl ?_ ?_
      ·refine GO_ev hall rfl trivial ?_; dsimp only [go_sem, Nat.reduceBEq, Nat.reduceAdd]; refine G_one 14 rfl ?_; refine GO_ev hall rfl trivial ?_; dsimp only [go_sem, Nat.reduceBEq, Nat.reduceAdd]; refine G_one 15 rfl ?_; obtain ⟨x8, ex8, h⟩ := Option.bind_eq_some_iff.1 h; refine GO_appM Mail.row ex8 hall rfl trivial rfl rfl rfl ?_; dsimp only [go_sem, Nat.reduceBEq, Nat.reduceAdd]; refine G_one 16 rfl ?_; refine GO_ev hall rfl trivial ?_; dsimp only [go_sem, Nat.reduceBEq, Nat.reduceAdd]; refine G_done rfl ?_ _; obtain rfl := Option.some.inj h; exact T_stop ok132 rfl (by simp [go_sem])
      ·refine GO_ev hall rfl trivial ?_; dsimp only [go_sem, Nat.reduceBEq, Nat.reduceAdd]; refine G_one 0 rfl ?_; refine GO_ev hall rfl trivial ?_; dsimp only [go_sem, Nat.reduceBEq, Nat.reduceAdd]; refine G_one 15 rfl ?_; obtain ⟨x8, ex8, h⟩ := Option.bind_eq_some_iff.1 h; refine GO_appM Mail.row ex8 hall rfl trivial rfl rfl rfl ?_; dsimp only [go_sem, Nat.reduceBEq, Nat.reduceAdd]; refine G_one 16 rfl ?_; refine GO_ev hall rfl trivial ?_; dsimp only [go_sem, Nat.reduceBEq, Nat.reduceAdd]; refine G_done rfl ?_ _; obtain rfl := Option.some.inj h; exact T_stop ok132 rfl (by simp [go_sem])
def f_dine_Fire_1_in_dine_Fire_2 (_F : Nat) (x1 : Int) (x2 : Int) (_x3 : Int) (x4 : Int) (x5 : (List Side)) (x6 : (List Mail)) : Option (List Mail) :=
 (at_ x5 x4).bind fun x7 =>
 (app_ 40 x6 ([(Mail.mk x2 x7.Peer ((Msg.mk x1 x7.Epoch 0)))])).bind fun x8 =>
 some x8
theorem le_dine_Fire_1_in_dine_Fire_2 {F : Nat} {x1 : Int} {x2 : Int} {x3 : Int} {x4 : Int} {x5 : (List Side)} {x6 : (List Mail)} : ole (f_dine_Fire_1_in_dine_Fire_2 F x1 x2 x3 x4 x5 x6) (m_dine_Fire_1_in_dine_Fire_2 x1 x2 x3 x4 x5 x6) := by
  unfold f_dine_Fire_1_in_dine_Fire_2 m_dine_Fire_1_in_dine_Fire_2
  with_reducible repeat' first | exact ole_refl _ | assumption | intro _ | refine ole_ifb ?_ ?_ | refine ole_bind ?_ ?_ | refine ole_map ?_ | refine ole_loop ?_
/- narthex/dine.Fire -/
noncomputable def m_dine_Fire_j8 (x1 : Diner) (x50 : (List Mail)) : (Int × (List Side)) → Option (Diner × (List Mail) × Int)
| (x65, x66) =>
 some ((Diner.mk x1.ID x65 x66), x50, 0)
noncomputable def m_dine_Fire_l2 (x1 : Diner) (x49 : (List Side)) (x50 : (List Mail)) : (Int × (List Side)) → Option ((Int × (List Side)) ⊕ (Diner × (List Mail) × Int))
| (x55, x56) =>
 ifb (decide (x55 < (ln Side.row x49))) (
 (at_ x56 x55).bind fun x57 =>
 some (.inl (wr (x55 + 1), x56.set (x55).toNat ((Side.mk x57.Peer x57.Epoch x57.State x57.Fork true x57.Token x57.Bottle x57.Ask))))) (
 Option.map Sum.inr ((m_dine_Fire_j8 x1 x50) (2, x56)))
noncomputable def m_dine_Fire_j7 (x1 : Diner) (x49 : (List Side)) (x50 : (List Mail)) : Bool → Option (Diner × (List Mail) × Int)
| x51 =>
 ifb x51 (
 loop (m_dine_Fire_l2 x1 x49 x50) (0, x49)) (
 (m_dine_Fire_j8 x1 x50) (x1.Phase, x49))
noncomputable def m_dine_Fire_j1 (x1 : Diner) : (Bool × (List Side) × (List Mail)) → Option (Diner × (List Mail) × Int)
| (x48, x49, x50) =>
 ifb (decide (x1.Phase = 1)) (
 (m_dine_Fire_j7 x1 x49 x50) x48) (
 (m_dine_Fire_j7 x1 x49 x50) false)
noncomputable def m_dine_Fire_j6 (x21 : Int) (x33 : (List Side)) (x34 : (List Mail)) : Bool → Option ((Bool × Int × (List Side) × (List Mail)) ⊕ (Diner × (List Mail) × Int))
| x36 =>
 some (.inl (x36, wr (x21 + 1), x33, x34))
noncomputable def m_dine_Fire_j5 (x20 : Bool) (x21 : Int) : ((List Side) × (List Mail)) → Option ((Bool × Int × (List Side) × (List Mail)) ⊕ (Diner × (List Mail) × Int))
| (x33, x34) =>
 ifb x20 (
 (at_ x33 x21).bind fun x35 =>
 (m_dine_Fire_j6 x21 x33 x34) x35.Fork) (
 (m_dine_Fire_j6 x21 x33 x34) false)
noncomputable def m_dine_Fire_j4 (x1 : Diner) (x20 : Bool) (x21 : Int) (x27 : (List Side)) (x28 : (List Mail)) : Bool → Option ((Bool × Int × (List Side) × (List Mail)) ⊕ (Diner × (List Mail) × Int))
| x30 =>
 ifb x30 (
 (at_ x27 x21).bind fun x31 =>
 (m_dine_Fire_1_in_dine_Fire_2 2 x1.ID x1.Phase x21 (x27.set (x21).toNat ((Side.mk x31.Peer x31.Epoch x31.State x31.Fork x31.Dirty false x31.Bottle x31.Ask))) x28).bind fun x32 =>
 (m_dine_Fire_j5 x20 x21) ((x27.set (x21).toNat ((Side.mk x31.Peer x31.Epoch x31.State x31.Fork x31.Dirty false x31.Bottle x31.Ask))), x32)) (
 (m_dine_Fire_j5 x20 x21) (x27, x28))
noncomputable def m_dine_Fire_j3 (x1 : Diner) (x20 : Bool) (x21 : Int) : ((List Side) × (List Mail)) → Option ((Bool × Int × (List Side) × (List Mail)) ⊕ (Diner × (List Mail) × Int))
| (x27, x28) =>
 ifb (decide (x1.Phase = 1)) (
 (at_ x27 x21).bind fun x29 =>
 ifb x29.Token (
 (m_dine_Fire_j4 x1 x20 x21 x27 x28) (!x29.Fork)) (
 (m_dine_Fire_j4 x1 x20 x21 x27 x28) false)) (
 (m_dine_Fire_j4 x1 x20 x21 x27 x28) false)
noncomputable def m_dine_Fire_j2 (x1 : Diner) (x20 : Bool) (x21 : Int) (x22 : (List Side)) (x23 : (List Mail)) (x24 : Side) : Bool → Option ((Bool × Int × (List Side) × (List Mail)) ⊕ (Diner × (List Mail) × Int))
| x25 =>
 ifb x25 (
 (m_dine_Fire_1_in_dine_Fire_2 1 x1.ID x1.Phase x21 (x22.set (x21).toNat ((Side.mk (((Side.mk x24.Peer x24.Epoch x24.State false x24.Dirty x24.Token x24.Bottle x24.Ask)).Peer) (((Side.mk x24.Peer x24.Epoch x24.State false x24.Dirty x24.Token x24.Bottle x24.Ask)).Epoch) (((Side.mk x24.Peer x24.Epoch x24.State false x24.Dirty x24.Token x24.Bottle x24.Ask)).State) (((Side.mk x24.Peer x24.Epoch x24.State false x24.Dirty x24.Token x24.Bottle x24.Ask)).Fork) false (((Side.mk x24.Peer x24.Epoch x24.State false x24.Dirty x24.Token x24.Bottle x24.Ask)).Token) (((Side.mk x24.Peer x24.Epoch x24.State false x24.Dirty x24.Token x24.Bottle x24.Ask)).Bottle) (((Side.mk x24.Peer x24.Epoch x24.State false x24.Dirty x24.Token x24.Bottle x24.Ask)).Ask)))) x23).bind fun x26 =>
 (m_dine_Fire_j3 x1 x20 x21) ((x22.set (x21).toNat ((Side.mk (((Side.mk x24.Peer x24.Epoch x24.State false x24.Dirty x24.Token x24.Bottle x24.Ask)).Peer) (((Side.mk x24.Peer x24.Epoch x24.State false x24.Dirty x24.Token x24.Bottle x24.Ask)).Epoch) (((Side.mk x24.Peer x24.Epoch x24.State false x24.Dirty x24.Token x24.Bottle x24.Ask)).State) (((Side.mk x24.Peer x24.Epoch x24.State false x24.Dirty x24.Token x24.Bottle x24.Ask)).Fork) false (((Side.mk x24.Peer x24.Epoch x24.State false x24.Dirty x24.Token x24.Bottle x24.Ask)).Token) (((Side.mk x24.Peer x24.Epoch x24.State false x24.Dirty x24.Token x24.Bottle x24.Ask)).Bottle) (((Side.mk x24.Peer x24.Epoch x24.State false x24.Dirty x24.Token x24.Bottle x24.Ask)).Ask)))), x26)) (
 (m_dine_Fire_j3 x1 x20 x21) (x22, x23))
noncomputable def m_dine_Fire_l1 (x1 : Diner) (x3 : (List Side)) : (Bool × Int × (List Side) × (List Mail)) → Option ((Bool × Int × (List Side) × (List Mail)) ⊕ (Diner × (List Mail) × Int))
| (x20, x21, x22, x23) =>
 ifb (decide (x21 < (ln Side.row x3))) (
 (at_ x22 x21).bind fun x24 =>
 ifb x24.Fork (
 ifb x24.Dirty (
 ifb x24.Token (
 (m_dine_Fire_j2 x1 x20 x21 x22 x23 x24) (!decide (x1.Phase = 2))) (
 (m_dine_Fire_j2 x1 x20 x21 x22 x23 x24) false)) (
 (m_dine_Fire_j2 x1 x20 x21 x22 x23 x24) false)) (
 (m_dine_Fire_j2 x1 x20 x21 x22 x23 x24) false)) (
 Option.map Sum.inr ((m_dine_Fire_j1 x1) (x20, x22, x23)))
noncomputable def m_dine_Fire (x1 : Diner) : Option (Diner × (List Mail) × Int) :=
 (m_dine_Check x1).bind fun x2 =>
 ifb (!decide (x2 = 0)) (
 some ((Diner.mk 0 0 (([] : (List Side)))), ([] : (List Mail)), x2)) (
 (m_slices_Clone_Side x1.Sides).bind fun x3 =>
 loop (m_dine_Fire_l1 x1 x3) (true, 0, x3, ([] : List Mail)))
theorem k_dine_Fire (x1 : Diner) (r : (Diner × (List Mail) × Int)) (h : m_dine_Fire x1 = some r) : FunP Try.prog 120 [.agg (Diner.row x1)] (.tup [.agg (Diner.row r.1), .sl 5 (List.map Mail.row r.2.1), .iv r.2.2]) := by
  refine FunP_intro ok120 rfl rfl fun w0 H0 => ?_
  rw [m_dine_Fire] at h
  refine V_go 11 ?_; dsimp only [e120, e120_L0, e120_L1, go_sem, Nat.reduceBEq, Nat.reduceAdd]; refine ⟨by simp, ?_⟩; obtain ⟨x2, ex2, h⟩ := Option.bind_eq_some_iff.1 h; refine V_call trivial (k_dine_Check x1 _ ex2) (h := ?_); refine V_go 7 ?_; dsimp only [e120, e120_L0, e120_L1, go_sem, Nat.reduceBEq, Nat.reduceAdd]; refine ⟨by simp, ?_⟩; refine M_ite h rfl (fun _ h => ?_) fun _ h => ?_
  ·refine V_go 8 ?_; dsimp only [e120, e120_L0, e120_L1, go_sem, Nat.reduceBEq, Nat.reduceAdd]; refine ⟨by simp, ?_⟩; exact M_done (res := fun (r : (Diner × (List Mail) × Int)) => .tup [.agg (Diner.row r.1), .sl 5 (List.map Mail.row r.2.1), .iv r.2.2]) ok120 h
  ·refine V_go 5 ?_; dsimp only [e120, e120_L0, e120_L1, go_sem, Nat.reduceBEq, Nat.reduceAdd]; refine ⟨by simp, ?_⟩; obtain ⟨x3, ex3, h⟩ := Option.bind_eq_some_iff.1 h; refine V_callO trivial (o_slices_Clone_Side x1.Sides _ ex3) (h := ?_); refine V_go 19 ?_; dsimp only [e120, e120_L0, e120_L1, go_sem, Nat.reduceBEq, Nat.reduceAdd]; refine ⟨by simp, ?_⟩
   refine V_join (fun ((x48, x49, x50) : (Bool × (List Side) × (List Mail))) => (⟨(.any :: .ptr 0 0 :: .ptr 1 0 :: an 3 (.ptr 2 0 :: .bv x48 :: an 104 [])), [some ⟨39, [.iv x1.ID, .iv x1.Phase, .osl 0]⟩, some ⟨39, [.iv 0, .iv 0, .nl]⟩, some ⟨41, [.osl 1]⟩], [some ⟨49, 8, List.map Side.row x49⟩, some ⟨97, 5, List.map Mail.row x50⟩]⟩ : St)) (m_dine_Fire_j1 x1) r ?_ fun J1 => ?_
   ·rintro ⟨x48, x49, x50⟩ h; rw [m_dine_Fire_j1] at h; (try dsimp only); refine V_go 7 ?_; dsimp only [e120, e120_L0, e120_L1, go_sem, Nat.reduceBEq, Nat.reduceAdd]; refine ⟨by simp, ?_⟩; refine V_join (fun (x51 : Bool) => (⟨(.any :: .ptr 0 0 :: .ptr 1 0 :: an 3 (.ptr 2 0 :: an 89 (.bv x51 :: an 15 []))), [some ⟨39, [.iv x1.ID, .iv x1.Phase, .osl 0]⟩, some ⟨39, [.iv 0, .iv 0, .nl]⟩, some ⟨41, [.osl 1]⟩], [some ⟨49, 8, List.map Side.row x49⟩, some ⟨97, 5, List.map Mail.row x50⟩]⟩ : St)) (m_dine_Fire_j7 x1 x49 x50) r ?_ fun J7 => ?_
    ·intro x51 h; rw [m_dine_Fire_j7] at h; (try dsimp only); refine V_join (fun ((x65, x66) : (Int × (List Side))) => (⟨(.any :: .ptr 0 0 :: .ptr 1 0 :: an 3 (.ptr 2 0 :: an 105 [])), [some ⟨39, [.iv x1.ID, .iv x65, .osl 0]⟩, some ⟨39, [.iv 0, .iv 0, .nl]⟩, some ⟨41, [.osl 1]⟩], [some ⟨49, 8, List.map Side.row x66⟩, some ⟨97, 5, List.map Mail.row x50⟩]⟩ : St)) (m_dine_Fire_j8 x1 x50) r ?_ fun J8 => ?_
     ·rintro ⟨x65, x66⟩ h; rw [m_dine_Fire_j8] at h; (try dsimp only); refine V_go 1 ?_; dsimp only [e120, e120_L0, e120_L1, go_sem, Nat.reduceBEq, Nat.reduceAdd]; refine ⟨by simp, ?_⟩; refine V_drw (by kernel_rfl) fun all hall hs hnap haf => ?_; dsimp only [go_sem, Nat.reduceBEq, Nat.reduceAdd]; refine G_two 0 1 rfl ?_ ?_
      ·refine GO_ev hall rfl trivial ?_; dsimp only [go_sem, Nat.reduceBEq, Nat.reduceAdd]; refine G_two 1 2 rfl ?_ ?_
       ·refine GO_ev hall rfl trivial ?_; dsimp only [go_sem, Nat.reduceBEq, Nat.reduceAdd]; refine G_one 2 rfl ?_; refine GO_ev hall rfl trivial ?_; dsimp only [go_sem, Nat.reduceBEq, Nat.reduceAdd]; refine G_goN hall hs haf hnap 2 0 ?_; dsimp only [go_sem, Nat.reduceBEq, Nat.reduceAdd]; refine ⟨by simp, ?_⟩; refine G_done rfl ?_ _; refine V_seal 0 rfl ?_; dsimp only [go_sem, Nat.reduceBEq, Nat.reduceAdd]; refine V_seal 1 rfl ?_; dsimp only [go_sem, Nat.reduceBEq, Nat.reduceAdd]
        exact M_done (res := fun (r : (Diner × (List Mail) × Int)) => .tup [.agg (Diner.row r.1), .sl 5 (List.map Mail.row r.2.1), .iv r.2.2]) ok120 h
       ·refine GO_ev hall rfl trivial ?_; dsimp only [go_sem, Nat.reduceBEq, Nat.reduceAdd]; refine G_one 1 rfl ?_; refine GO_ev hall rfl trivial ?_; dsimp only [go_sem, Nat.reduceBEq, Nat.reduceAdd]; refine G_goN hall hs haf hnap 2 0 ?_; dsimp only [go_sem, Nat.reduceBEq, Nat.reduceAdd]; refine ⟨by simp, ?_⟩; refine G_done rfl ?_ _; refine V_seal 0 rfl ?_; dsimp only [go_sem, Nat.reduceBEq, Nat.reduceAdd]; refine V_seal 1 rfl ?_; dsimp only [go_sem, Nat.reduceBEq, Nat.reduceAdd]
        exact M_done (res := fun (r : (Diner × (List Mail) × Int)) => .tup [.agg (Diner.row r.1), .sl 5 (List.map Mail.row r.2.1), .iv r.2.2]) ok120 h
      ·refine GO_ev hall rfl trivial ?_; dsimp only [go_sem, Nat.reduceBEq, Nat.reduceAdd]; refine G_one 0 rfl ?_; refine GO_ev hall rfl trivial ?_; dsimp only [go_sem, Nat.reduceBEq, Nat.reduceAdd]; refine G_one 2 rfl ?_; refine GO_ev hall rfl trivial ?_; dsimp only [go_sem, Nat.reduceBEq, Nat.reduceAdd]; refine G_goN hall hs haf hnap 2 0 ?_; dsimp only [go_sem, Nat.reduceBEq, Nat.reduceAdd]; refine ⟨by simp, ?_⟩; refine G_done rfl ?_ _; refine V_seal 0 rfl ?_; dsimp only [go_sem, Nat.reduceBEq, Nat.reduceAdd]; refine V_seal 1 rfl ?_; dsimp only [go_sem, Nat.reduceBEq, Nat.reduceAdd]
       exact M_done (res := fun (r : (Diner × (List Mail) × Int)) => .tup [.agg (Diner.row r.1), .sl 5 (List.map Mail.row r.2.1), .iv r.2.2]) ok120 h
     ·refine M_ite h rfl (fun _ h => ?_) fun _ h => ?_
      ·refine V_go 13 ?_; dsimp only [e120, e120_L0, e120_L1, go_sem, Nat.reduceBEq, Nat.reduceAdd]; refine ⟨by simp, ?_⟩; refine M_loop h (fun ((x55, x56) : (Int × (List Side))) => (⟨(.any :: .ptr 0 0 :: .ptr 1 0 :: an 3 (.ptr 2 0 :: an 93 (.iv (ln Side.row x49) :: .iv x55 :: an 10 []))), [some ⟨39, [.iv x1.ID, .iv 2, .osl 0]⟩, some ⟨39, [.iv 0, .iv 0, .nl]⟩, some ⟨41, [.osl 1]⟩], [some ⟨49, 8, List.map Side.row x56⟩, some ⟨97, 5, List.map Mail.row x50⟩]⟩ : St)) (by simp [go_sem]) (by rintro ⟨x55, x56⟩; first | rfl | simp [go_sem]) ?_; rintro n1 ⟨x55, x56⟩ y1 h hin1 hout1
       rw [m_dine_Fire_l2] at h; (try dsimp only); refine V_go 5 ?_; dsimp only [e120, e120_L0, e120_L1, go_sem, Nat.reduceBEq, Nat.reduceAdd]; refine ⟨by simp, ?_⟩; refine M_ite h rfl (fun _ h => ?_) fun _ h => ?_
       ·refine V_go 12 ?_; dsimp only [e120, e120_L0, e120_L1, go_sem, Nat.reduceBEq, Nat.reduceAdd]; refine ⟨by simp, ?_⟩; obtain ⟨x57, ex57, h⟩ := Option.bind_eq_some_iff.1 h; refine V_idxOM Side.row ex57 trivial rfl rfl rfl ?_; refine V_go 1 ?_; dsimp only [e120, e120_L0, e120_L1, go_sem, Nat.reduceBEq, Nat.reduceAdd]; refine ⟨by simp, ?_⟩; refine V_storeO [.bv true] Side.row (y' := (Side.mk x57.Peer x57.Epoch x57.State x57.Fork true x57.Token x57.Bottle x57.Ask)) ex57 trivial rfl rfl rfl (by first | exact leL_refl _ | simp [go_sem]) rfl rfl rfl rfl ?_; refine V_go 6 ?_
        dsimp only [e120, e120_L0, e120_L1, go_sem, Nat.reduceBEq, Nat.reduceAdd]; refine ⟨by simp, ?_⟩; exact M_back h hin1
       ·refine V_go 1 ?_; dsimp only [e120, e120_L0, e120_L1, go_sem, Nat.reduceBEq, Nat.reduceAdd]; refine ⟨by simp, ?_⟩; exact M_to J8 (s := (2, x56)) (M_out h hout1)
      ·refine V_go 1 ?_; dsimp only [e120, e120_L0, e120_L1, go_sem, Nat.reduceBEq, Nat.reduceAdd]; refine ⟨by simp, ?_⟩; exact M_to J8 (s := (x1.Phase, x49)) h
    ·refine M_case 94 h rfl (fun _ h => ?_) fun _ h => ?_
     ·dsimp only [go_sem, Nat.reduceBEq, Nat.reduceAdd]; refine V_go 3 ?_; dsimp only [e120, e120_L0, e120_L1, go_sem, Nat.reduceBEq, Nat.reduceAdd]; refine ⟨by simp, ?_⟩; exact M_to J7 (s := x48) h
     ·dsimp only [go_sem, Nat.reduceBEq, Nat.reduceAdd]; refine V_go 3 ?_; dsimp only [e120, e120_L0, e120_L1, go_sem, Nat.reduceBEq, Nat.reduceAdd]; refine ⟨by simp, ?_⟩; exact M_to J7 (s := false) h
   ·refine V_go 1 ?_; dsimp only [e120, e120_L0, e120_L1, go_sem, Nat.reduceBEq, Nat.reduceAdd]; refine ⟨by simp, ?_⟩; refine V_ownB 2 0 97 5 rfl rfl rfl ?_; dsimp only [go_sem, Nat.reduceBEq, Nat.reduceAdd]
    refine M_loop h (fun ((x20, x21, x22, x23) : (Bool × Int × (List Side) × (List Mail))) => (⟨(.any :: .ptr 0 0 :: .ptr 1 0 :: an 3 (.ptr 2 0 :: .bv x20 :: an 16 (.iv (ln Side.row x3) :: .iv x21 :: an 86 []))), [some ⟨39, [.iv x1.ID, .iv x1.Phase, .osl 0]⟩, some ⟨39, [.iv 0, .iv 0, .nl]⟩, some ⟨41, [.osl 1]⟩], [some ⟨49, 8, List.map Side.row x22⟩, some ⟨97, 5, List.map Mail.row x23⟩]⟩ : St)) (by simp [go_sem]) (by rintro ⟨x20, x21, x22, x23⟩; first | rfl | simp [go_sem]) ?_; rintro n1 ⟨x20, x21, x22, x23⟩ y1 h hin1 hout1; rw [m_dine_Fire_l1] at h; (try dsimp only); refine V_go 5 ?_
    dsimp only [e120, e120_L0, e120_L1, go_sem, Nat.reduceBEq, Nat.reduceAdd]; refine ⟨by simp, ?_⟩; refine M_ite h rfl (fun _ h => ?_) fun _ h => ?_
    ·refine V_go 13 ?_; dsimp only [e120, e120_L0, e120_L1, go_sem, Nat.reduceBEq, Nat.reduceAdd]; refine ⟨by simp, ?_⟩; obtain ⟨x24, ex24, h⟩ := Option.bind_eq_some_iff.1 h; refine V_idxOM Side.row ex24 trivial rfl rfl rfl ?_; refine V_go 14 ?_; dsimp only [e120, e120_L0, e120_L1, go_sem, Nat.reduceBEq, Nat.reduceAdd]; refine ⟨by simp, ?_⟩; refine V_loadO Side.row ex24 trivial rfl rfl rfl ?_; refine V_go 1 ?_; dsimp only [e120, e120_L0, e120_L1, go_sem, Nat.reduceBEq, Nat.reduceAdd]; refine ⟨by simp, ?_⟩
     refine V_join (fun (x25 : Bool) => (⟨(.any :: .ptr 0 0 :: .ptr 1 0 :: an 3 (.ptr 2 0 :: .bv x20 :: .any :: .ptr 3 0 :: .clo 132 [.ptr 2 0, .ptr 0 0, .ptr 3 0] :: an 13 (.iv (ln Side.row x3) :: .iv x21 :: an 27 (.bv x25 :: an 58 [])))), [some ⟨39, [.iv x1.ID, .iv x1.Phase, .osl 0]⟩, some ⟨39, [.iv 0, .iv 0, .nl]⟩, some ⟨41, [.osl 1]⟩, some ⟨146, [.oel 0 ((x21).toNat * 8) 0]⟩], [some ⟨49, 8, List.map Side.row x22⟩, some ⟨97, 5, List.map Mail.row x23⟩]⟩ : St)) (m_dine_Fire_j2 x1 x20 x21 x22 x23 x24) y1 ?_ fun J2 => ?_
     ·intro x25 h; rw [m_dine_Fire_j2] at h; (try dsimp only); refine V_join (fun ((x27, x28) : ((List Side) × (List Mail))) => (⟨(.any :: .ptr 0 0 :: .ptr 1 0 :: an 3 (.ptr 2 0 :: .bv x20 :: .any :: .ptr 3 0 :: .clo 132 [.ptr 2 0, .ptr 0 0, .ptr 3 0] :: an 13 (.iv (ln Side.row x3) :: .iv x21 :: an 86 []))), [some ⟨39, [.iv x1.ID, .iv x1.Phase, .osl 0]⟩, some ⟨39, [.iv 0, .iv 0, .nl]⟩, some ⟨41, [.osl 1]⟩, some ⟨146, [.oel 0 ((x21).toNat * 8) 0]⟩], [some ⟨49, 8, List.map Side.row x27⟩, some ⟨97, 5, List.map Mail.row x28⟩]⟩ : St)) (m_dine_Fire_j3 x1 x20 x21) y1 ?_ fun J3 => ?_
      ·rintro ⟨x27, x28⟩ h; rw [m_dine_Fire_j3] at h; (try dsimp only); refine V_go 7 ?_; dsimp only [e120, e120_L0, e120_L1, go_sem, Nat.reduceBEq, Nat.reduceAdd]; refine ⟨by simp, ?_⟩
       refine V_join (fun (x30 : Bool) => (⟨(.any :: .ptr 0 0 :: .ptr 1 0 :: an 3 (.ptr 2 0 :: .bv x20 :: .any :: .ptr 3 0 :: .clo 132 [.ptr 2 0, .ptr 0 0, .ptr 3 0] :: an 13 (.iv (ln Side.row x3) :: .iv x21 :: an 51 (.bv x30 :: an 34 [])))), [some ⟨39, [.iv x1.ID, .iv x1.Phase, .osl 0]⟩, some ⟨39, [.iv 0, .iv 0, .nl]⟩, some ⟨41, [.osl 1]⟩, some ⟨146, [.oel 0 ((x21).toNat * 8) 0]⟩], [some ⟨49, 8, List.map Side.row x27⟩, some ⟨97, 5, List.map Mail.row x28⟩]⟩ : St)) (m_dine_Fire_j4 x1 x20 x21 x27 x28) y1 ?_ fun J4 => ?_
       ·intro x30 h; rw [m_dine_Fire_j4] at h; (try dsimp only); refine V_join (fun ((x33, x34) : ((List Side) × (List Mail))) => (⟨(.any :: .ptr 0 0 :: .ptr 1 0 :: an 3 (.ptr 2 0 :: .bv x20 :: .any :: .ptr 3 0 :: an 14 (.iv (ln Side.row x3) :: .iv x21 :: an 86 []))), [some ⟨39, [.iv x1.ID, .iv x1.Phase, .osl 0]⟩, some ⟨39, [.iv 0, .iv 0, .nl]⟩, some ⟨41, [.osl 1]⟩, some ⟨146, [.oel 0 ((x21).toNat * 8) 0]⟩], [some ⟨49, 8, List.map Side.row x33⟩, some ⟨97, 5, List.map Mail.row x34⟩]⟩ : St)) (m_dine_Fire_j5 x20 x21) y1 ?_ fun J5 => ?_
        ·rintro ⟨x33, x34⟩ h; rw [m_dine_Fire_j5] at h; (try dsimp only); refine V_go 3 ?_; dsimp only [e120, e120_L0, e120_L1, go_sem, Nat.reduceBEq, Nat.reduceAdd]; refine ⟨by simp, ?_⟩; refine V_join (fun (x36 : Bool) => (⟨(.any :: .ptr 0 0 :: .ptr 1 0 :: an 3 (.ptr 2 0 :: .bv x36 :: an 16 (.iv (ln Side.row x3) :: .iv x21 :: an 86 []))), [some ⟨39, [.iv x1.ID, .iv x1.Phase, .osl 0]⟩, some ⟨39, [.iv 0, .iv 0, .nl]⟩, some ⟨41, [.osl 1]⟩], [some ⟨49, 8, List.map Side.row x33⟩, some ⟨97, 5, List.map Mail.row x34⟩]⟩ : St)) (m_dine_Fire_j6 x21 x33 x34) y1 ?_ fun J6 => ?_
         ·intro x36 h; rw [m_dine_Fire_j6] at h; (try dsimp only); refine V_go 5 ?_; dsimp only [e120, e120_L0, e120_L1, go_sem, Nat.reduceBEq, Nat.reduceAdd]; refine ⟨by simp, ?_⟩; exact M_back h hin1
         ·refine M_case 84 h rfl (fun _ h => ?_) fun _ h => ?_
          ·dsimp only [go_sem, Nat.reduceBEq, Nat.reduceAdd]; refine V_go 3 ?_; dsimp only [e120, e120_L0, e120_L1, go_sem, Nat.reduceBEq, Nat.reduceAdd]; refine ⟨by simp, ?_⟩; obtain ⟨x35, ex35, h⟩ := Option.bind_eq_some_iff.1 h; refine V_loadO Side.row ex35 trivial rfl rfl rfl ?_; refine V_go 3 ?_; dsimp only [e120, e120_L0, e120_L1, go_sem, Nat.reduceBEq, Nat.reduceAdd]; refine ⟨by simp, ?_⟩; exact M_to J6 (s := x35.Fork) h
          ·dsimp only [go_sem, Nat.reduceBEq, Nat.reduceAdd]; refine V_go 7 ?_; dsimp only [e120, e120_L0, e120_L1, go_sem, Nat.reduceBEq, Nat.reduceAdd]; refine ⟨by simp, ?_⟩; exact M_to J6 (s := false) h
        ·refine M_ite h rfl (fun _ h => ?_) fun _ h => ?_
         ·refine V_go 5 ?_; dsimp only [e120, e120_L0, e120_L1, go_sem, Nat.reduceBEq, Nat.reduceAdd]; refine ⟨by simp, ?_⟩; obtain ⟨x31, ex31, h⟩ := Option.bind_eq_some_iff.1 h; refine V_storeO [.bv false] Side.row (y' := (Side.mk x31.Peer x31.Epoch x31.State x31.Fork x31.Dirty false x31.Bottle x31.Ask)) ex31 trivial rfl rfl rfl (by first | exact leL_refl _ | simp [go_sem]) rfl rfl rfl rfl ?_; refine V_go 3 ?_; dsimp only [e120, e120_L0, e120_L1, go_sem, Nat.reduceBEq, Nat.reduceAdd]; refine ⟨by simp, ?_⟩; obtain ⟨x32, ex32, h⟩ := Option.bind_eq_some_iff.1 h
          refine V_callvT [true, false, true, true] [true, true] trivial rfl (t_dine_Fire_1_in_dine_Fire_2 2 x1.ID x1.Phase x21 (x27.set (x21).toNat ((Side.mk x31.Peer x31.Epoch x31.State x31.Fork x31.Dirty false x31.Bottle x31.Ask))) x28 _ ex32) (by kernel_rfl) (h := ?_); dsimp only [go_sem, Nat.reduceBEq, Nat.reduceAdd]; refine V_go 1 ?_; dsimp only [e120, e120_L0, e120_L1, go_sem, Nat.reduceBEq, Nat.reduceAdd]; refine ⟨by simp, ?_⟩; refine V_ren 3 1 rfl rfl rfl ?_; dsimp only [go_sem, Nat.reduceBEq, Nat.reduceAdd]
          exact M_to J5 (s := ((x27.set (x21).toNat ((Side.mk x31.Peer x31.Epoch x31.State x31.Fork x31.Dirty false x31.Bottle x31.Ask))), x32)) h
         ·refine V_go 1 ?_; dsimp only [e120, e120_L0, e120_L1, go_sem, Nat.reduceBEq, Nat.reduceAdd]; refine ⟨by simp, ?_⟩; exact M_to J5 (s := (x27, x28)) h
       ·refine M_case 65 h rfl (fun _ h => ?_) fun _ h => ?_
        ·dsimp only [go_sem, Nat.reduceBEq, Nat.reduceAdd]; refine V_go 3 ?_; dsimp only [e120, e120_L0, e120_L1, go_sem, Nat.reduceBEq, Nat.reduceAdd]; refine ⟨by simp, ?_⟩; obtain ⟨x29, ex29, h⟩ := Option.bind_eq_some_iff.1 h; refine V_loadO Side.row ex29 trivial rfl rfl rfl ?_; refine V_go 2 ?_; dsimp only [e120, e120_L0, e120_L1, go_sem, Nat.reduceBEq, Nat.reduceAdd]; refine ⟨by simp, ?_⟩; refine M_case 71 h rfl (fun _ h => ?_) fun _ h => ?_
         ·dsimp only [go_sem, Nat.reduceBEq, Nat.reduceAdd]; refine V_go 3 ?_; dsimp only [e120, e120_L0, e120_L1, go_sem, Nat.reduceBEq, Nat.reduceAdd]; refine ⟨by simp, ?_⟩; refine V_loadO Side.row ex29 trivial rfl rfl rfl ?_; refine V_go 3 ?_; dsimp only [e120, e120_L0, e120_L1, go_sem, Nat.reduceBEq, Nat.reduceAdd]; refine ⟨by simp, ?_⟩; exact M_to J4 (s := !x29.Fork) h
         ·dsimp only [go_sem, Nat.reduceBEq, Nat.reduceAdd]; refine V_go 7 ?_; dsimp only [e120, e120_L0, e120_L1, go_sem, Nat.reduceBEq, Nat.reduceAdd]; refine ⟨by simp, ?_⟩; exact M_to J4 (s := false) h
        ·dsimp only [go_sem, Nat.reduceBEq, Nat.reduceAdd]; refine V_go 13 ?_; dsimp only [e120, e120_L0, e120_L1, go_sem, Nat.reduceBEq, Nat.reduceAdd]; refine ⟨by simp, ?_⟩; exact M_to J4 (s := false) h
      ·refine M_ite h rfl (fun _ h => ?_) fun _ h => ?_
       ·refine V_go 1 ?_; dsimp only [e120, e120_L0, e120_L1, go_sem, Nat.reduceBEq, Nat.reduceAdd]; refine ⟨by simp, ?_⟩; refine V_drw (by kernel_rfl) fun all hall hs hnap haf => ?_; dsimp only [go_sem, Nat.reduceBEq, Nat.reduceAdd]; refine G_two 0 1 rfl ?_ ?_
        ·refine GO_ev hall rfl trivial ?_; dsimp only [go_sem, Nat.reduceBEq, Nat.reduceAdd]; refine G_goN hall hs haf hnap 2 5 ?_; dsimp only [go_sem, Nat.reduceBEq, Nat.reduceAdd]; refine ⟨by simp, ?_⟩; refine G_two 1 4 rfl ?_ ?_
         ·refine GO_ev hall rfl trivial ?_; dsimp only [go_sem, Nat.reduceBEq, Nat.reduceAdd]; refine G_one 4 rfl ?_; refine GO_storeO hall [.bv false] Side.row (y' := (Side.mk x24.Peer x24.Epoch x24.State false x24.Dirty x24.Token x24.Bottle x24.Ask)) ex24 rfl trivial rfl rfl rfl (by first | exact leL_refl _ | simp [go_sem]) rfl rfl rfl rfl ?_; dsimp only [go_sem, Nat.reduceBEq, Nat.reduceAdd]; refine G_goN hall hs haf hnap 2 1 ?_; dsimp only [go_sem, Nat.reduceBEq, Nat.reduceAdd]; refine ⟨by simp, ?_⟩; refine G_one 7 rfl ?_
          refine GO_storeOS hall [.bv false] Side.row (y' := (Side.mk (((Side.mk x24.Peer x24.Epoch x24.State false x24.Dirty x24.Token x24.Bottle x24.Ask)).Peer) (((Side.mk x24.Peer x24.Epoch x24.State false x24.Dirty x24.Token x24.Bottle x24.Ask)).Epoch) (((Side.mk x24.Peer x24.Epoch x24.State false x24.Dirty x24.Token x24.Bottle x24.Ask)).State) (((Side.mk x24.Peer x24.Epoch x24.State false x24.Dirty x24.Token x24.Bottle x24.Ask)).Fork) false (((Side.mk x24.Peer x24.Epoch x24.State false x24.Dirty x24.Token x24.Bottle x24.Ask)).Token) (((Side.mk x24.Peer x24.Epoch x24.State false x24.Dirty x24.Token x24.Bottle x24.Ask)).Bottle) (((Side.mk x24.Peer x24.Epoch x24.State false x24.Dirty x24.Token x24.Bottle x24.Ask)).Ask))) (at_set ex24) rfl trivial rfl rfl rfl (by first | exact leL_refl _ | simp [go_sem]) rfl rfl rfl rfl ?_
          dsimp only [go_sem, Nat.reduceBEq, Nat.reduceAdd]; refine G_done rfl ?_ _; refine V_go 2 ?_; dsimp only [e120, e120_L0, e120_L1, go_sem, Nat.reduceBEq, Nat.reduceAdd]; refine ⟨by simp, ?_⟩; obtain ⟨x26, ex26, h⟩ := Option.bind_eq_some_iff.1 h
          refine V_callvT [true, false, true, true] [true, true] trivial rfl (t_dine_Fire_1_in_dine_Fire_2 1 x1.ID x1.Phase x21 (x22.set (x21).toNat ((Side.mk (((Side.mk x24.Peer x24.Epoch x24.State false x24.Dirty x24.Token x24.Bottle x24.Ask)).Peer) (((Side.mk x24.Peer x24.Epoch x24.State false x24.Dirty x24.Token x24.Bottle x24.Ask)).Epoch) (((Side.mk x24.Peer x24.Epoch x24.State false x24.Dirty x24.Token x24.Bottle x24.Ask)).State) (((Side.mk x24.Peer x24.Epoch x24.State false x24.Dirty x24.Token x24.Bottle x24.Ask)).Fork) false (((Side.mk x24.Peer x24.Epoch x24.State false x24.Dirty x24.Token x24.Bottle x24.Ask)).Token) (((Side.mk x24.Peer x24.Epoch x24.State false x24.Dirty x24.Token x24.Bottle x24.Ask)).Bottle) (((Side.mk x24.Peer x24.Epoch x24.State false x24.Dirty x24.Token x24.Bottle x24.Ask)).Ask)))) x23 _ ex26) (by kernel_rfl) (h := ?_)
          dsimp only [go_sem, Nat.reduceBEq, Nat.reduceAdd]; refine V_go 1 ?_; dsimp only [e120, e120_L0, e120_L1, go_sem, Nat.reduceBEq, Nat.reduceAdd]; refine ⟨by simp, ?_⟩; refine V_ren 3 1 rfl rfl rfl ?_; dsimp only [go_sem, Nat.reduceBEq, Nat.reduceAdd]
          exact M_to J3 (s := ((x22.set (x21).toNat ((Side.mk (((Side.mk x24.Peer x24.Epoch x24.State false x24.Dirty x24.Token x24.Bottle x24.Ask)).Peer) (((Side.mk x24.Peer x24.Epoch x24.State false x24.Dirty x24.Token x24.Bottle x24.Ask)).Epoch) (((Side.mk x24.Peer x24.Epoch x24.State false x24.Dirty x24.Token x24.Bottle x24.Ask)).State) (((Side.mk x24.Peer x24.Epoch x24.State false x24.Dirty x24.Token x24.Bottle x24.Ask)).Fork) false (((Side.mk x24.Peer x24.Epoch x24.State false x24.Dirty x24.Token x24.Bottle x24.Ask)).Token) (((Side.mk x24.Peer x24.Epoch x24.State false x24.Dirty x24.Token x24.Bottle x24.Ask)).Bottle) (((Side.mk x24.Peer x24.Epoch x24.State false x24.Dirty x24.Token x24.Bottle x24.Ask)).Ask)))), x26)) h
         ·refine GO_storeO hall [.bv false] Side.row (y' := (Side.mk x24.Peer x24.Epoch x24.State false x24.Dirty x24.Token x24.Bottle x24.Ask)) ex24 rfl trivial rfl rfl rfl (by first | exact leL_refl _ | simp [go_sem]) rfl rfl rfl rfl ?_; dsimp only [go_sem, Nat.reduceBEq, Nat.reduceAdd]; refine G_one 1 rfl ?_; refine GO_ev hall rfl trivial ?_; dsimp only [go_sem, Nat.reduceBEq, Nat.reduceAdd]; refine G_goN hall hs haf hnap 2 1 ?_; dsimp only [go_sem, Nat.reduceBEq, Nat.reduceAdd]; refine ⟨by simp, ?_⟩; refine G_one 7 rfl ?_
          refine GO_storeOS hall [.bv false] Side.row (y' := (Side.mk (((Side.mk x24.Peer x24.Epoch x24.State false x24.Dirty x24.Token x24.Bottle x24.Ask)).Peer) (((Side.mk x24.Peer x24.Epoch x24.State false x24.Dirty x24.Token x24.Bottle x24.Ask)).Epoch) (((Side.mk x24.Peer x24.Epoch x24.State false x24.Dirty x24.Token x24.Bottle x24.Ask)).State) (((Side.mk x24.Peer x24.Epoch x24.State false x24.Dirty x24.Token x24.Bottle x24.Ask)).Fork) false (((Side.mk x24.Peer x24.Epoch x24.State false x24.Dirty x24.Token x24.Bottle x24.Ask)).Token) (((Side.mk x24.Peer x24.Epoch x24.State false x24.Dirty x24.Token x24.Bottle x24.Ask)).Bottle) (((Side.mk x24.Peer x24.Epoch x24.State false x24.Dirty x24.Token x24.Bottle x24.Ask)).Ask))) (at_set ex24) rfl trivial rfl rfl rfl (by first | exact leL_refl _ | simp [go_sem]) rfl rfl rfl rfl ?_
          dsimp only [go_sem, Nat.reduceBEq, Nat.reduceAdd]; refine G_done rfl ?_ _; refine V_go 2 ?_; dsimp only [e120, e120_L0, e120_L1, go_sem, Nat.reduceBEq, Nat.reduceAdd]; refine ⟨by simp, ?_⟩; obtain ⟨x26, ex26, h⟩ := Option.bind_eq_some_iff.1 h
          refine V_callvT [true, false, true, true] [true, true] trivial rfl (t_dine_Fire_1_in_dine_Fire_2 1 x1.ID x1.Phase x21 (x22.set (x21).toNat ((Side.mk (((Side.mk x24.Peer x24.Epoch x24.State false x24.Dirty x24.Token x24.Bottle x24.Ask)).Peer) (((Side.mk x24.Peer x24.Epoch x24.State false x24.Dirty x24.Token x24.Bottle x24.Ask)).Epoch) (((Side.mk x24.Peer x24.Epoch x24.State false x24.Dirty x24.Token x24.Bottle x24.Ask)).State) (((Side.mk x24.Peer x24.Epoch x24.State false x24.Dirty x24.Token x24.Bottle x24.Ask)).Fork) false (((Side.mk x24.Peer x24.Epoch x24.State false x24.Dirty x24.Token x24.Bottle x24.Ask)).Token) (((Side.mk x24.Peer x24.Epoch x24.State false x24.Dirty x24.Token x24.Bottle x24.Ask)).Bottle) (((Side.mk x24.Peer x24.Epoch x24.State false x24.Dirty x24.Token x24.Bottle x24.Ask)).Ask)))) x23 _ ex26) (by kernel_rfl) (h := ?_)
          dsimp only [go_sem, Nat.reduceBEq, Nat.reduceAdd]; refine V_go 1 ?_; dsimp only [e120, e120_L0, e120_L1, go_sem, Nat.reduceBEq, Nat.reduceAdd]; refine ⟨by simp, ?_⟩; refine V_ren 3 1 rfl rfl rfl ?_; dsimp only [go_sem, Nat.reduceBEq, Nat.reduceAdd]
          exact M_to J3 (s := ((x22.set (x21).toNat ((Side.mk (((Side.mk x24.Peer x24.Epoch x24.State false x24.Dirty x24.Token x24.Bottle x24.Ask)).Peer) (((Side.mk x24.Peer x24.Epoch x24.State false x24.Dirty x24.Token x24.Bottle x24.Ask)).Epoch) (((Side.mk x24.Peer x24.Epoch x24.State false x24.Dirty x24.Token x24.Bottle x24.Ask)).State) (((Side.mk x24.Peer x24.Epoch x24.State false x24.Dirty x24.Token x24.Bottle x24.Ask)).Fork) false (((Side.mk x24.Peer x24.Epoch x24.State false x24.Dirty x24.Token x24.Bottle x24.Ask)).Token) (((Side.mk x24.Peer x24.Epoch x24.State false x24.Dirty x24.Token x24.Bottle x24.Ask)).Bottle) (((Side.mk x24.Peer x24.Epoch x24.State false x24.Dirty x24.Token x24.Bottle x24.Ask)).Ask)))), x26)) h
        ·refine GO_ev hall rfl trivial ?_; dsimp only [go_sem, Nat.reduceBEq, Nat.reduceAdd]; refine G_one 0 rfl ?_; refine GO_ev hall rfl trivial ?_; dsimp only [go_sem, Nat.reduceBEq, Nat.reduceAdd]; refine G_goN hall hs haf hnap 2 4 ?_; dsimp only [go_sem, Nat.reduceBEq, Nat.reduceAdd]; refine ⟨by simp, ?_⟩; refine G_one 4 rfl ?_; refine GO_storeO hall [.bv false] Side.row (y' := (Side.mk x24.Peer x24.Epoch x24.State false x24.Dirty x24.Token x24.Bottle x24.Ask)) ex24 rfl trivial rfl rfl rfl (by first | exact leL_refl _ | simp [go_sem]) rfl rfl rfl rfl ?_
         dsimp only [go_sem, Nat.reduceBEq, Nat.reduceAdd]; refine G_goN hall hs haf hnap 2 1 ?_; dsimp only [go_sem, Nat.reduceBEq, Nat.reduceAdd]; refine ⟨by simp, ?_⟩; refine G_one 7 rfl ?_
         refine GO_storeOS hall [.bv false] Side.row (y' := (Side.mk (((Side.mk x24.Peer x24.Epoch x24.State false x24.Dirty x24.Token x24.Bottle x24.Ask)).Peer) (((Side.mk x24.Peer x24.Epoch x24.State false x24.Dirty x24.Token x24.Bottle x24.Ask)).Epoch) (((Side.mk x24.Peer x24.Epoch x24.State false x24.Dirty x24.Token x24.Bottle x24.Ask)).State) (((Side.mk x24.Peer x24.Epoch x24.State false x24.Dirty x24.Token x24.Bottle x24.Ask)).Fork) false (((Side.mk x24.Peer x24.Epoch x24.State false x24.Dirty x24.Token x24.Bottle x24.Ask)).Token) (((Side.mk x24.Peer x24.Epoch x24.State false x24.Dirty x24.Token x24.Bottle x24.Ask)).Bottle) (((Side.mk x24.Peer x24.Epoch x24.State false x24.Dirty x24.Token x24.Bottle x24.Ask)).Ask))) (at_set ex24) rfl trivial rfl rfl rfl (by first | exact leL_refl _ | simp [go_sem]) rfl rfl rfl rfl ?_
         dsimp only [go_sem, Nat.reduceBEq, Nat.reduceAdd]; refine G_done rfl ?_ _; refine V_go 2 ?_; dsimp only [e120, e120_L0, e120_L1, go_sem, Nat.reduceBEq, Nat.reduceAdd]; refine ⟨by simp, ?_⟩; obtain ⟨x26, ex26, h⟩ := Option.bind_eq_some_iff.1 h
         refine V_callvT [true, false, true, true] [true, true] trivial rfl (t_dine_Fire_1_in_dine_Fire_2 1 x1.ID x1.Phase x21 (x22.set (x21).toNat ((Side.mk (((Side.mk x24.Peer x24.Epoch x24.State false x24.Dirty x24.Token x24.Bottle x24.Ask)).Peer) (((Side.mk x24.Peer x24.Epoch x24.State false x24.Dirty x24.Token x24.Bottle x24.Ask)).Epoch) (((Side.mk x24.Peer x24.Epoch x24.State false x24.Dirty x24.Token x24.Bottle x24.Ask)).State) (((Side.mk x24.Peer x24.Epoch x24.State false x24.Dirty x24.Token x24.Bottle x24.Ask)).Fork) false (((Side.mk x24.Peer x24.Epoch x24.State false x24.Dirty x24.Token x24.Bottle x24.Ask)).Token) (((Side.mk x24.Peer x24.Epoch x24.State false x24.Dirty x24.Token x24.Bottle x24.Ask)).Bottle) (((Side.mk x24.Peer x24.Epoch x24.State false x24.Dirty x24.Token x24.Bottle x24.Ask)).Ask)))) x23 _ ex26) (by kernel_rfl) (h := ?_)
         dsimp only [go_sem, Nat.reduceBEq, Nat.reduceAdd]; refine V_go 1 ?_; dsimp only [e120, e120_L0, e120_L1, go_sem, Nat.reduceBEq, Nat.reduceAdd]; refine ⟨by simp, ?_⟩; refine V_ren 3 1 rfl rfl rfl ?_; dsimp only [go_sem, Nat.reduceBEq, Nat.reduceAdd]
         exact M_to J3 (s := ((x22.set (x21).toNat ((Side.mk (((Side.mk x24.Peer x24.Epoch x24.State false x24.Dirty x24.Token x24.Bottle x24.Ask)).Peer) (((Side.mk x24.Peer x24.Epoch x24.State false x24.Dirty x24.Token x24.Bottle x24.Ask)).Epoch) (((Side.mk x24.Peer x24.Epoch x24.State false x24.Dirty x24.Token x24.Bottle x24.Ask)).State) (((Side.mk x24.Peer x24.Epoch x24.State false x24.Dirty x24.Token x24.Bottle x24.Ask)).Fork) false (((Side.mk x24.Peer x24.Epoch x24.State false x24.Dirty x24.Token x24.Bottle x24.Ask)).Token) (((Side.mk x24.Peer x24.Epoch x24.State false x24.Dirty x24.Token x24.Bottle x24.Ask)).Bottle) (((Side.mk x24.Peer x24.Epoch x24.State false x24.Dirty x24.Token x24.Bottle x24.Ask)).Ask)))), x26)) h
       ·refine V_go 1 ?_; dsimp only [e120, e120_L0, e120_L1, go_sem, Nat.reduceBEq, Nat.reduceAdd]; refine ⟨by simp, ?_⟩; exact M_to J3 (s := (x22, x23)) h
     ·refine M_case 37 h rfl (fun _ h => ?_) fun _ h => ?_
      ·dsimp only [go_sem, Nat.reduceBEq, Nat.reduceAdd]; refine V_go 3 ?_; dsimp only [e120, e120_L0, e120_L1, go_sem, Nat.reduceBEq, Nat.reduceAdd]; refine ⟨by simp, ?_⟩; refine V_loadO Side.row ex24 trivial rfl rfl rfl ?_; refine V_go 2 ?_; dsimp only [e120, e120_L0, e120_L1, go_sem, Nat.reduceBEq, Nat.reduceAdd]; refine ⟨by simp, ?_⟩; refine M_case 43 h rfl (fun _ h => ?_) fun _ h => ?_
       ·dsimp only [go_sem, Nat.reduceBEq, Nat.reduceAdd]; refine V_go 3 ?_; dsimp only [e120, e120_L0, e120_L1, go_sem, Nat.reduceBEq, Nat.reduceAdd]; refine ⟨by simp, ?_⟩; refine V_loadO Side.row ex24 trivial rfl rfl rfl ?_; refine V_go 2 ?_; dsimp only [e120, e120_L0, e120_L1, go_sem, Nat.reduceBEq, Nat.reduceAdd]; refine ⟨by simp, ?_⟩; refine M_case 49 h rfl (fun _ h => ?_) fun _ h => ?_
        ·dsimp only [go_sem, Nat.reduceBEq, Nat.reduceAdd]; refine V_go 5 ?_; dsimp only [e120, e120_L0, e120_L1, go_sem, Nat.reduceBEq, Nat.reduceAdd]; refine ⟨by simp, ?_⟩; exact M_to J2 (s := !decide (x1.Phase = 2)) h
        ·dsimp only [go_sem, Nat.reduceBEq, Nat.reduceAdd]; refine V_go 5 ?_; dsimp only [e120, e120_L0, e120_L1, go_sem, Nat.reduceBEq, Nat.reduceAdd]; refine ⟨by simp, ?_⟩; exact M_to J2 (s := false) h
       ·dsimp only [go_sem, Nat.reduceBEq, Nat.reduceAdd]; refine V_go 11 ?_; dsimp only [e120, e120_L0, e120_L1, go_sem, Nat.reduceBEq, Nat.reduceAdd]; refine ⟨by simp, ?_⟩; exact M_to J2 (s := false) h
      ·dsimp only [go_sem, Nat.reduceBEq, Nat.reduceAdd]; refine V_go 17 ?_; dsimp only [e120, e120_L0, e120_L1, go_sem, Nat.reduceBEq, Nat.reduceAdd]; refine ⟨by simp, ?_⟩; exact M_to J2 (s := false) h
    ·refine V_go 1 ?_; dsimp only [e120, e120_L0, e120_L1, go_sem, Nat.reduceBEq, Nat.reduceAdd]; refine ⟨by simp, ?_⟩; exact M_to J1 (s := (x20, x22, x23)) (M_out h hout1)
def f_dine_Fire_j8 (_F : Nat) (x1 : Diner) (x50 : (List Mail)) : (Int × (List Side)) → Option (Diner × (List Mail) × Int)
| (x65, x66) =>
 some ((Diner.mk x1.ID x65 x66), x50, 0)
theorem le_dine_Fire_j8 {F : Nat} {x1 : Diner} {x50 : (List Mail)} : ∀ s, ole (f_dine_Fire_j8 F x1 x50 s) (m_dine_Fire_j8 x1 x50 s) := by
  rintro ⟨x65, x66⟩
  unfold f_dine_Fire_j8 m_dine_Fire_j8
  try dsimp only
  with_reducible repeat' first | exact ole_refl _ | assumption | intro _ | refine ole_ifb ?_ ?_ | refine ole_bind ?_ ?_ | refine ole_map ?_ | refine ole_loop ?_
def f_dine_Fire_l2 (F : Nat) (x1 : Diner) (x49 : (List Side)) (x50 : (List Mail)) : (Int × (List Side)) → Option ((Int × (List Side)) ⊕ (Diner × (List Mail) × Int))
| (x55, x56) =>
 ifb (decide (x55 < (ln Side.row x49))) (
 (at_ x56 x55).bind fun x57 =>
 some (.inl (wr (x55 + 1), x56.set (x55).toNat ((Side.mk x57.Peer x57.Epoch x57.State x57.Fork true x57.Token x57.Bottle x57.Ask))))) (
 Option.map Sum.inr ((f_dine_Fire_j8 F x1 x50) (2, x56)))
theorem le_dine_Fire_l2 {F : Nat} {x1 : Diner} {x49 : (List Side)} {x50 : (List Mail)} : ∀ s, ole (f_dine_Fire_l2 F x1 x49 x50 s) (m_dine_Fire_l2 x1 x49 x50 s) := by
  rintro ⟨x55, x56⟩
  unfold f_dine_Fire_l2 m_dine_Fire_l2
  try dsimp only
  with_reducible repeat' first | exact ole_refl _ | assumption | intro _ | refine ole_ifb ?_ ?_ | refine ole_bind ?_ ?_ | refine ole_map ?_ | refine ole_loop ?_ | apply le_dine_Fire_j8
def f_dine_Fire_j7 (F : Nat) (x1 : Diner) (x49 : (List Side)) (x50 : (List Mail)) : Bool → Option (Diner × (List Mail) × Int)
| x51 =>
 ifb x51 (
 loopF F (f_dine_Fire_l2 F x1 x49 x50) (0, x49)) (
 (f_dine_Fire_j8 F x1 x50) (x1.Phase, x49))
theorem le_dine_Fire_j7 {F : Nat} {x1 : Diner} {x49 : (List Side)} {x50 : (List Mail)} : ∀ s, ole (f_dine_Fire_j7 F x1 x49 x50 s) (m_dine_Fire_j7 x1 x49 x50 s) := by
  intro x51
  unfold f_dine_Fire_j7 m_dine_Fire_j7
  try dsimp only
  with_reducible repeat' first | exact ole_refl _ | assumption | intro _ | refine ole_ifb ?_ ?_ | refine ole_bind ?_ ?_ | refine ole_map ?_ | refine ole_loop ?_ | apply le_dine_Fire_j8 | apply le_dine_Fire_l2
def f_dine_Fire_j1 (F : Nat) (x1 : Diner) : (Bool × (List Side) × (List Mail)) → Option (Diner × (List Mail) × Int)
| (x48, x49, x50) =>
 ifb (decide (x1.Phase = 1)) (
 (f_dine_Fire_j7 F x1 x49 x50) x48) (
 (f_dine_Fire_j7 F x1 x49 x50) false)
theorem le_dine_Fire_j1 {F : Nat} {x1 : Diner} : ∀ s, ole (f_dine_Fire_j1 F x1 s) (m_dine_Fire_j1 x1 s) := by
  rintro ⟨x48, x49, x50⟩
  unfold f_dine_Fire_j1 m_dine_Fire_j1
  try dsimp only
  with_reducible repeat' first | exact ole_refl _ | assumption | intro _ | refine ole_ifb ?_ ?_ | refine ole_bind ?_ ?_ | refine ole_map ?_ | refine ole_loop ?_ | apply le_dine_Fire_j8 | apply le_dine_Fire_l2 | apply le_dine_Fire_j7
def f_dine_Fire_j6 (_F : Nat) (x21 : Int) (x33 : (List Side)) (x34 : (List Mail)) : Bool → Option ((Bool × Int × (List Side) × (List Mail)) ⊕ (Diner × (List Mail) × Int))
| x36 =>
 some (.inl (x36, wr (x21 + 1), x33, x34))
theorem le_dine_Fire_j6 {F : Nat} {x21 : Int} {x33 : (List Side)} {x34 : (List Mail)} : ∀ s, ole (f_dine_Fire_j6 F x21 x33 x34 s) (m_dine_Fire_j6 x21 x33 x34 s) := by
  intro x36
  unfold f_dine_Fire_j6 m_dine_Fire_j6
  try dsimp only
  with_reducible repeat' first | exact ole_refl _ | assumption | intro _ | refine ole_ifb ?_ ?_ | refine ole_bind ?_ ?_ | refine ole_map ?_ | refine ole_loop ?_ | apply le_dine_Fire_j8 | apply le_dine_Fire_l2 | apply le_dine_Fire_j7 | apply le_dine_Fire_j1
def f_dine_Fire_j5 (F : Nat) (x20 : Bool) (x21 : Int) : ((List Side) × (List Mail)) → Option ((Bool × Int × (List Side) × (List Mail)) ⊕ (Diner × (List Mail) × Int))
| (x33, x34) =>
 ifb x20 (
 (at_ x33 x21).bind fun x35 =>
 (f_dine_Fire_j6 F x21 x33 x34) x35.Fork) (
 (f_dine_Fire_j6 F x21 x33 x34) false)
theorem le_dine_Fire_j5 {F : Nat} {x20 : Bool} {x21 : Int} : ∀ s, ole (f_dine_Fire_j5 F x20 x21 s) (m_dine_Fire_j5 x20 x21 s) := by
  rintro ⟨x33, x34⟩
  unfold f_dine_Fire_j5 m_dine_Fire_j5
  try dsimp only
  with_reducible repeat' first | exact ole_refl _ | assumption | intro _ | refine ole_ifb ?_ ?_ | refine ole_bind ?_ ?_ | refine ole_map ?_ | refine ole_loop ?_ | apply le_dine_Fire_j8 | apply le_dine_Fire_l2 | apply le_dine_Fire_j7 | apply le_dine_Fire_j1 | apply le_dine_Fire_j6
def f_dine_Fire_j4 (F : Nat) (x1 : Diner) (x20 : Bool) (x21 : Int) (x27 : (List Side)) (x28 : (List Mail)) : Bool → Option ((Bool × Int × (List Side) × (List Mail)) ⊕ (Diner × (List Mail) × Int))
| x30 =>
 ifb x30 (
 (at_ x27 x21).bind fun x31 =>
 (f_dine_Fire_1_in_dine_Fire_2 F 2 x1.ID x1.Phase x21 (x27.set (x21).toNat ((Side.mk x31.Peer x31.Epoch x31.State x31.Fork x31.Dirty false x31.Bottle x31.Ask))) x28).bind fun x32 =>
 (f_dine_Fire_j5 F x20 x21) ((x27.set (x21).toNat ((Side.mk x31.Peer x31.Epoch x31.State x31.Fork x31.Dirty false x31.Bottle x31.Ask))), x32)) (
 (f_dine_Fire_j5 F x20 x21) (x27, x28))
theorem le_dine_Fire_j4 {F : Nat} {x1 : Diner} {x20 : Bool} {x21 : Int} {x27 : (List Side)} {x28 : (List Mail)} : ∀ s, ole (f_dine_Fire_j4 F x1 x20 x21 x27 x28 s) (m_dine_Fire_j4 x1 x20 x21 x27 x28 s) := by
  intro x30
  unfold f_dine_Fire_j4 m_dine_Fire_j4
  try dsimp only
  with_reducible repeat' first | exact ole_refl _ | assumption | intro _ | refine ole_ifb ?_ ?_ | refine ole_bind ?_ ?_ | refine ole_map ?_ | refine ole_loop ?_ | apply le_dine_Fire_j8 | apply le_dine_Fire_l2 | apply le_dine_Fire_j7 | apply le_dine_Fire_j1 | apply le_dine_Fire_j6 | apply le_dine_Fire_j5 | apply le_dine_Fire_1_in_dine_Fire_2
def f_dine_Fire_j3 (F : Nat) (x1 : Diner) (x20 : Bool) (x21 : Int) : ((List Side) × (List Mail)) → Option ((Bool × Int × (List Side) × (List Mail)) ⊕ (Diner × (List Mail) × Int))
| (x27, x28) =>
 ifb (decide (x1.Phase = 1)) (
 (at_ x27 x21).bind fun x29 =>
 ifb x29.Token (
 (f_dine_Fire_j4 F x1 x20 x21 x27 x28) (!x29.Fork)) (
 (f_dine_Fire_j4 F x1 x20 x21 x27 x28) false)) (
 (f_dine_Fire_j4 F x1 x20 x21 x27 x28) false)
theorem le_dine_Fire_j3 {F : Nat} {x1 : Diner} {x20 : Bool} {x21 : Int} : ∀ s, ole (f_dine_Fire_j3 F x1 x20 x21 s) (m_dine_Fire_j3 x1 x20 x21 s) := by
  rintro ⟨x27, x28⟩
  unfold f_dine_Fire_j3 m_dine_Fire_j3
  try dsimp only
  with_reducible repeat' first | exact ole_refl _ | assumption | intro _ | refine ole_ifb ?_ ?_ | refine ole_bind ?_ ?_ | refine ole_map ?_ | refine ole_loop ?_ | apply le_dine_Fire_j8 | apply le_dine_Fire_l2 | apply le_dine_Fire_j7 | apply le_dine_Fire_j1 | apply le_dine_Fire_j6 | apply le_dine_Fire_j5 | apply le_dine_Fire_1_in_dine_Fire_2 | apply le_dine_Fire_j4
def f_dine_Fire_j2 (F : Nat) (x1 : Diner) (x20 : Bool) (x21 : Int) (x22 : (List Side)) (x23 : (List Mail)) (x24 : Side) : Bool → Option ((Bool × Int × (List Side) × (List Mail)) ⊕ (Diner × (List Mail) × Int))
| x25 =>
 ifb x25 (
 (f_dine_Fire_1_in_dine_Fire_2 F 1 x1.ID x1.Phase x21 (x22.set (x21).toNat ((Side.mk (((Side.mk x24.Peer x24.Epoch x24.State false x24.Dirty x24.Token x24.Bottle x24.Ask)).Peer) (((Side.mk x24.Peer x24.Epoch x24.State false x24.Dirty x24.Token x24.Bottle x24.Ask)).Epoch) (((Side.mk x24.Peer x24.Epoch x24.State false x24.Dirty x24.Token x24.Bottle x24.Ask)).State) (((Side.mk x24.Peer x24.Epoch x24.State false x24.Dirty x24.Token x24.Bottle x24.Ask)).Fork) false (((Side.mk x24.Peer x24.Epoch x24.State false x24.Dirty x24.Token x24.Bottle x24.Ask)).Token) (((Side.mk x24.Peer x24.Epoch x24.State false x24.Dirty x24.Token x24.Bottle x24.Ask)).Bottle) (((Side.mk x24.Peer x24.Epoch x24.State false x24.Dirty x24.Token x24.Bottle x24.Ask)).Ask)))) x23).bind fun x26 =>
 (f_dine_Fire_j3 F x1 x20 x21) ((x22.set (x21).toNat ((Side.mk (((Side.mk x24.Peer x24.Epoch x24.State false x24.Dirty x24.Token x24.Bottle x24.Ask)).Peer) (((Side.mk x24.Peer x24.Epoch x24.State false x24.Dirty x24.Token x24.Bottle x24.Ask)).Epoch) (((Side.mk x24.Peer x24.Epoch x24.State false x24.Dirty x24.Token x24.Bottle x24.Ask)).State) (((Side.mk x24.Peer x24.Epoch x24.State false x24.Dirty x24.Token x24.Bottle x24.Ask)).Fork) false (((Side.mk x24.Peer x24.Epoch x24.State false x24.Dirty x24.Token x24.Bottle x24.Ask)).Token) (((Side.mk x24.Peer x24.Epoch x24.State false x24.Dirty x24.Token x24.Bottle x24.Ask)).Bottle) (((Side.mk x24.Peer x24.Epoch x24.State false x24.Dirty x24.Token x24.Bottle x24.Ask)).Ask)))), x26)) (
 (f_dine_Fire_j3 F x1 x20 x21) (x22, x23))
theorem le_dine_Fire_j2 {F : Nat} {x1 : Diner} {x20 : Bool} {x21 : Int} {x22 : (List Side)} {x23 : (List Mail)} {x24 : Side} : ∀ s, ole (f_dine_Fire_j2 F x1 x20 x21 x22 x23 x24 s) (m_dine_Fire_j2 x1 x20 x21 x22 x23 x24 s) := by
  intro x25
  unfold f_dine_Fire_j2 m_dine_Fire_j2
  try dsimp only
  with_reducible repeat' first | exact ole_refl _ | assumption | intro _ | refine ole_ifb ?_ ?_ | refine ole_bind ?_ ?_ | refine ole_map ?_ | refine ole_loop ?_ | apply le_dine_Fire_j8 | apply le_dine_Fire_l2 | apply le_dine_Fire_j7 | apply le_dine_Fire_j1 | apply le_dine_Fire_j6 | apply le_dine_Fire_j5 | apply le_dine_Fire_1_in_dine_Fire_2 | apply le_dine_Fire_j4 | apply le_dine_Fire_j3
def f_dine_Fire_l1 (F : Nat) (x1 : Diner) (x3 : (List Side)) : (Bool × Int × (List Side) × (List Mail)) → Option ((Bool × Int × (List Side) × (List Mail)) ⊕ (Diner × (List Mail) × Int))
| (x20, x21, x22, x23) =>
 ifb (decide (x21 < (ln Side.row x3))) (
 (at_ x22 x21).bind fun x24 =>
 ifb x24.Fork (
 ifb x24.Dirty (
 ifb x24.Token (
 (f_dine_Fire_j2 F x1 x20 x21 x22 x23 x24) (!decide (x1.Phase = 2))) (
 (f_dine_Fire_j2 F x1 x20 x21 x22 x23 x24) false)) (
 (f_dine_Fire_j2 F x1 x20 x21 x22 x23 x24) false)) (
 (f_dine_Fire_j2 F x1 x20 x21 x22 x23 x24) false)) (
 Option.map Sum.inr ((f_dine_Fire_j1 F x1) (x20, x22, x23)))
theorem le_dine_Fire_l1 {F : Nat} {x1 : Diner} {x3 : (List Side)} : ∀ s, ole (f_dine_Fire_l1 F x1 x3 s) (m_dine_Fire_l1 x1 x3 s) := by
  rintro ⟨x20, x21, x22, x23⟩
  unfold f_dine_Fire_l1 m_dine_Fire_l1
  try dsimp only
  with_reducible repeat' first | exact ole_refl _ | assumption | intro _ | refine ole_ifb ?_ ?_ | refine ole_bind ?_ ?_ | refine ole_map ?_ | refine ole_loop ?_ | apply le_dine_Fire_j8 | apply le_dine_Fire_l2 | apply le_dine_Fire_j7 | apply le_dine_Fire_j1 | apply le_dine_Fire_j6 | apply le_dine_Fire_j5 | apply le_dine_Fire_1_in_dine_Fire_2 | apply le_dine_Fire_j4 | apply le_dine_Fire_j3 | apply le_dine_Fire_j2
def f_dine_Fire (F : Nat) (x1 : Diner) : Option (Diner × (List Mail) × Int) :=
 (f_dine_Check F x1).bind fun x2 =>
 ifb (!decide (x2 = 0)) (
 some ((Diner.mk 0 0 (([] : (List Side)))), ([] : (List Mail)), x2)) (
 (f_slices_Clone_Side F x1.Sides).bind fun x3 =>
 loopF F (f_dine_Fire_l1 F x1 x3) (true, 0, x3, ([] : List Mail)))
theorem le_dine_Fire {F : Nat} {x1 : Diner} : ole (f_dine_Fire F x1) (m_dine_Fire x1) := by
  unfold f_dine_Fire m_dine_Fire
  with_reducible repeat' first | exact ole_refl _ | assumption | intro _ | refine ole_ifb ?_ ?_ | refine ole_bind ?_ ?_ | refine ole_map ?_ | refine ole_loop ?_ | apply le_dine_Fire_j8 | apply le_dine_Fire_l2 | apply le_dine_Fire_j7 | apply le_dine_Fire_j1 | apply le_dine_Fire_j6 | apply le_dine_Fire_j5 | apply le_dine_Fire_1_in_dine_Fire_2 | apply le_dine_Fire_j4 | apply le_dine_Fire_j3 | apply le_dine_Fire_j2 | apply le_dine_Fire_l1 | apply le_dine_Check | apply le_slices_Clone_Side
end NX
end Go.Proofs.Ytadebhbiglmodaa
