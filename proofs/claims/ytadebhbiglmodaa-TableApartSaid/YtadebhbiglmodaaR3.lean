/-
  The function narthex/place.Graph: its code compiled, a model, and that the code answers as the model. Written by a program of ours (lb.py). No statement of the seat is proved here.
-/
import Derived.KernelRfl
import Derived.Shelf.Sort.Plain
import Derived.Shelf.Slices.In.SortNone
import Derived.Sort.OwnSortedInts
import Derived.Test.YtadebhbiglmodaaR2
namespace Go.Proofs.Ytadebhbiglmodaa
namespace NX
open Go
set_option maxRecDepth 100000
set_option maxHeartbeats 4000000
def e21_L1 : EC := .seq (.reg [⟨(some 34), none, .bin .lss (.t 33) (.t 32)⟩]) (.seq (.ite (.t 34) (.skip) (.exit 2)) (.seq (.blk 3 (.seq (.reg [⟨(some 35), none, .mv (.t 33)⟩, ⟨(some 36), none, .idx 8 (.t 31) (.t 33)⟩, ⟨(some 37), none, .loadA 8 (.t 36)⟩, ⟨(some 8), none, .alloc 49 [.iv 0, .iv 0, .iv 0, .ff, .ff, .ff, .ff, .ff]⟩, ⟨(some 7), none, .mv (.t 35)⟩, ⟨none, none, .store 8 (.t 8) (.t 37)⟩]) (.seq (.seq (.drw [⟨(some 38), none, .fld 0 (.t 8)⟩, ⟨(some 39), none, .load (.t 38)⟩, ⟨(some 40), none, .bin .lss (.t 39) (.c (.iv 0))⟩, ⟨(some 41), none, .mv (.t 40)⟩, ⟨(some 42), (some (41, false)), .fld 0 (.t 8)⟩, ⟨(some 43), (some (41, false)), .load (.t 42)⟩, ⟨(some 44), (some (41, false)), .mv (.t 0)⟩, ⟨(some 45), (some (41, false)), .len (.t 44)⟩, ⟨(some 46), (some (41, false)), .bin .geq (.t 43) (.t 45)⟩, ⟨(some 47), none, .pick (.t 41) (.c .tt) (.t 46)⟩, ⟨(some 48), none, .mv (.t 47)⟩, ⟨(some 49), (some (48, false)), .fld 0 (.t 8)⟩, ⟨(some 50), (some (48, false)), .load (.t 49)⟩, ⟨(some 51), (some (48, false)), .mv (.t 5)⟩, ⟨(some 52), (some (48, false)), .bin .eql (.t 50) (.t 51)⟩, ⟨(some 53), none, .pick (.t 48) (.c .tt) (.t 52)⟩, ⟨(some 54), none, .mv (.t 53)⟩, ⟨(some 55), (some (54, false)), .mv (.t 7)⟩, ⟨(some 56), (some (54, false)), .bin .gtr (.t 55) (.c (.iv 0))⟩, ⟨(some 57), (some (54, false)), .mv (.t 56)⟩, ⟨(some 58), (some (57, true)), .fld 2 (.t 6)⟩, ⟨(some 59), (some (57, true)), .load (.t 58)⟩, ⟨(some 60), (some (57, true)), .mv (.t 7)⟩, ⟨(some 61), (some (57, true)), .bin .sub (.t 60) (.c (.iv 1))⟩, ⟨(some 62), (some (57, true)), .idx 8 (.t 59) (.t 61)⟩, ⟨(some 63), (some (57, true)), .fld 0 (.t 62)⟩, ⟨(some 64), (some (57, true)), .load (.t 63)⟩, ⟨(some 65), (some (57, true)), .fld 0 (.t 8)⟩, ⟨(some 66), (some (57, true)), .load (.t 65)⟩, ⟨(some 67), (some (57, true)), .bin .geq (.t 64) (.t 66)⟩, ⟨(some 68), (some (54, false)), .pick (.t 57) (.t 67) (.c .ff)⟩, ⟨(some 69), none, .pick (.t 54) (.c .tt) (.t 68)⟩] [[], [0], [1], [2], [3], [4, 3], [3], [6, 3], [5, 7, 3], [3, 8], [9, 3], [10], [11, 10], [10], [12, 13, 10], [10, 14], [15, 10], [16], [17, 16], [18, 16, 16], [19], [20, 19], [19], [22, 19], [21, 23, 19], [24, 19], [25, 19], [19], [27, 19], [26, 28, 19], [19, 29, 16], [16, 30]] [[1], [0, 2], [1, 3], [2, 4, 5, 6, 7, 8, 9], [3, 5], [3, 4, 8], [3, 7], [3, 6, 8], [3, 5, 7, 9], [3, 8, 10], [9, 11, 12, 13, 14, 15], [10, 12], [10, 11, 14], [10, 14], [10, 12, 13, 15], [10, 14, 16], [15, 17, 18, 19, 30, 31], [16, 18], [16, 17, 19], [16, 18, 20, 21, 22, 23, 24, 25, 26, 27, 28, 29, 30], [19, 21], [19, 20, 24], [19, 23], [19, 22, 24], [19, 21, 23, 25], [19, 24, 26], [19, 25, 29], [19, 28], [19, 27, 29], [19, 26, 28, 30], [16, 19, 29, 31], [16, 30]]) (.ite (.t 69) (.seq (.reg [⟨(some 70), none, .build [.iv 0, .nl] []⟩, ⟨none, none, .store 2 (.t 2) (.t 70)⟩, ⟨(some 3), none, .mv (.c .ff)⟩]) (.ret)) (.skip))) (.seq (.seq (.reg [⟨(some 72), none, .mv (.t 0)⟩, ⟨(some 73), none, .fld 0 (.t 8)⟩, ⟨(some 74), none, .load (.t 73)⟩, ⟨(some 75), none, .idx 3 (.t 72) (.t 74)⟩, ⟨(some 76), none, .loadA 3 (.t 75)⟩, ⟨(some 77), none, .mv (.t 5)⟩, ⟨(some 78), none, .call 24 [(.t 76), (.t 77)]⟩, ⟨(some 71), none, .mv (.t 78)⟩, ⟨(some 79), none, .ext (.t 71) 0⟩, ⟨(some 80), none, .ext (.t 71) 1⟩, ⟨(some 9), none, .alloc 49 [.iv 0, .iv 0, .iv 0, .ff, .ff, .ff, .ff, .ff]⟩, ⟨none, none, .store 8 (.t 9) (.t 79)⟩, ⟨(some 10), none, .mv (.t 80)⟩]) (.seq (.reg [⟨(some 81), none, .mv (.t 10)⟩, ⟨(some 82), none, .not (.t 81)⟩]) (.ite (.t 82) (.seq (.reg [⟨(some 83), none, .build [.iv 0, .nl] []⟩, ⟨none, none, .store 2 (.t 2) (.t 83)⟩, ⟨(some 3), none, .mv (.c .ff)⟩]) (.ret)) (.skip)))) (.seq (.reg [⟨(some 84), none, .mv (.t 5)⟩, ⟨(some 85), none, .fld 0 (.t 8)⟩, ⟨(some 86), none, .load (.t 85)⟩, ⟨(some 87), none, .bin .lss (.t 84) (.t 86)⟩]) (.ite (.t 87) (.reg [⟨(some 88), none, .fld 1 (.t 4)⟩, ⟨(some 89), none, .load (.t 88)⟩, ⟨(some 90), none, .mv (.t 5)⟩, ⟨(some 91), none, .fld 0 (.t 8)⟩, ⟨(some 92), none, .load (.t 91)⟩, ⟨(some 93), none, .build [.iv 0, .iv 0] [(0, 1, (.t 90)), (1, 1, (.t 92))]⟩, ⟨(some 94), none, .bsl 58 2 1 [.iv 0, .iv 0] [(0, (.t 93))]⟩, ⟨(some 95), none, .app 58 2 16 (.t 89) (.t 94)⟩, ⟨(some 96), none, .fld 1 (.t 4)⟩, ⟨none, none, .store 1 (.t 96) (.t 95)⟩]) (.skip))))))) (.reg [⟨(some 97), none, .bin .add (.t 33) (.c (.iv 1))⟩, ⟨(some 33), none, .mv (.t 97)⟩])))
def e21_L0 : EC := .seq (.reg [⟨(some 21), none, .bin .lss (.t 20) (.t 19)⟩]) (.seq (.ite (.t 21) (.skip) (.exit 0)) (.seq (.blk 1 (.seq (.reg [⟨(some 22), none, .mv (.t 20)⟩, ⟨(some 23), none, .idx 3 (.t 18) (.t 20)⟩, ⟨(some 24), none, .loadA 3 (.t 23)⟩, ⟨(some 6), none, .alloc 39 [.iv 0, .iv 0, .nl]⟩, ⟨(some 5), none, .mv (.t 22)⟩, ⟨none, none, .store 3 (.t 6) (.t 24)⟩]) (.seq (.seq (.reg [⟨(some 25), none, .fld 0 (.t 6)⟩, ⟨(some 26), none, .load (.t 25)⟩, ⟨(some 27), none, .mv (.t 5)⟩, ⟨(some 28), none, .bin .neq (.t 26) (.t 27)⟩]) (.ite (.t 28) (.seq (.reg [⟨(some 29), none, .build [.iv 0, .nl] []⟩, ⟨none, none, .store 2 (.t 2) (.t 29)⟩, ⟨(some 3), none, .mv (.c .ff)⟩]) (.ret)) (.skip))) (.seq (.reg [⟨(some 30), none, .fld 2 (.t 6)⟩, ⟨(some 31), none, .load (.t 30)⟩, ⟨(some 32), none, .len (.t 31)⟩, ⟨(some 33), none, .mv (.c (.iv 0))⟩]) (.blk 2 (.loop e21_L1)))))) (.reg [⟨(some 98), none, .bin .add (.t 20) (.c (.iv 1))⟩, ⟨(some 20), none, .mv (.t 98)⟩])))
def e21 : EC := .seq (.reg [⟨(some 2), none, .alloc 24 [.iv 0, .nl]⟩, ⟨(some 3), none, .mv (.c .ff)⟩]) (.seq (.seq (.reg [⟨(some 11), none, .mv (.t 0)⟩, ⟨(some 12), none, .len (.t 11)⟩, ⟨(some 13), none, .bin .gtr (.t 12) (.c (.iv 64))⟩]) (.ite (.t 13) (.seq (.reg [⟨(some 14), none, .build [.iv 0, .nl] []⟩, ⟨none, none, .store 2 (.t 2) (.t 14)⟩, ⟨(some 3), none, .mv (.c .ff)⟩]) (.ret)) (.skip))) (.seq (.reg [⟨(some 15), none, .mv (.t 0)⟩, ⟨(some 16), none, .len (.t 15)⟩, ⟨(some 17), none, .build [.iv 0, .nl] [(0, 1, (.t 16))]⟩, ⟨(some 4), none, .alloc 24 [.iv 0, .nl]⟩, ⟨none, none, .store 2 (.t 4) (.t 17)⟩]) (.seq (.seq (.reg [⟨(some 18), none, .mv (.t 0)⟩, ⟨(some 19), none, .len (.t 18)⟩, ⟨(some 20), none, .mv (.c (.iv 0))⟩]) (.blk 0 (.loop e21_L0))) (.seq (.seq (.reg [⟨(some 99), none, .loadA 2 (.t 4)⟩, ⟨(some 100), none, .call 49 [(.t 99)]⟩, ⟨(some 101), none, .bin .neq (.t 100) (.c (.iv 0))⟩]) (.ite (.t 101) (.seq (.reg [⟨(some 102), none, .build [.iv 0, .nl] []⟩, ⟨none, none, .store 2 (.t 2) (.t 102)⟩, ⟨(some 3), none, .mv (.c .ff)⟩]) (.ret)) (.skip))) (.seq (.reg [⟨(some 103), none, .loadA 2 (.t 4)⟩, ⟨none, none, .store 2 (.t 2) (.t 103)⟩, ⟨(some 3), none, .mv (.c .tt)⟩]) (.ret))))))
theorem ok21 : FnOK Try.prog 21 Try.f21 e21 [.c 2 (some 2), .t 3] 1 103 := ⟨by kernel_rfl, ⟨_, rfl, by kernel_rfl⟩, by kernel_rfl, by kernel_rfl⟩
/- narthex/place.Graph -/
noncomputable def m_place_Graph_j1 (x1 : (List Diner)) : (List Edge) → Option (Graph × Bool)
| x78 =>
 (m_graph_Check ((Graph.mk (ln Diner.row x1) x78))).bind fun x79 =>
 ifb (!decide (x79 = 0)) (
 some ((Graph.mk 0 (([] : (List Edge)))), false)) (
 some ((Graph.mk (ln Diner.row x1) x78), true))
noncomputable def m_place_Graph_j2 (x35 : Int) : (List Edge) → Option ((Int × (List Edge)) ⊕ (Graph × Bool))
| x69 =>
 some (.inl (wr (x35 + 1), x69))
noncomputable def m_place_Graph_j4 (x47 : Int) : (List Edge) → Option ((Int × (List Edge)) ⊕ ((Int × (List Edge)) ⊕ (Graph × Bool)))
| x55 =>
 some (.inl (wr (x47 + 1), x55))
noncomputable def m_place_Graph_j3 (x1 : (List Diner)) (x35 : Int) (x47 : Int) (x48 : (List Edge)) (x49 : Side) : Bool → Option ((Int × (List Edge)) ⊕ ((Int × (List Edge)) ⊕ (Graph × Bool)))
| x51 =>
 ifb x51 (
 Option.map Sum.inr (Option.map Sum.inr (some ((Graph.mk 0 (([] : (List Edge)))), false)))) (
 (at_ x1 x49.Peer).bind fun x52 =>
 (m_place_Side x52 x35).bind fun x53 =>
 ifb (!x53.2) (
 Option.map Sum.inr (Option.map Sum.inr (some ((Graph.mk 0 (([] : (List Edge)))), false)))) (
 ifb (decide (x35 < x49.Peer)) (
 (app_ 16 x48 ([(Edge.mk x35 x49.Peer)])).bind fun x54 =>
 (m_place_Graph_j4 x47) x54) (
 (m_place_Graph_j4 x47) x48)))
noncomputable def m_place_Graph_l2 (x1 : (List Diner)) (x35 : Int) (x37 : Diner) : (Int × (List Edge)) → Option ((Int × (List Edge)) ⊕ ((Int × (List Edge)) ⊕ (Graph × Bool)))
| (x47, x48) =>
 ifb (decide (x47 < (ln Side.row x37.Sides))) (
 (at_ x37.Sides x47).bind fun x49 =>
 ifb (decide (x49.Peer < 0)) (
 (m_place_Graph_j3 x1 x35 x47 x48 x49) true) (
 ifb (decide ((ln Diner.row x1) ≤ x49.Peer)) (
 (m_place_Graph_j3 x1 x35 x47 x48 x49) true) (
 ifb (decide (x49.Peer = x35)) (
 (m_place_Graph_j3 x1 x35 x47 x48 x49) true) (
 ifb (decide (0 < x47)) (
 (at_ x37.Sides (wr (x47 - 1))).bind fun x50 =>
 (m_place_Graph_j3 x1 x35 x47 x48 x49) (decide (x49.Peer ≤ x50.Peer))) (
 (m_place_Graph_j3 x1 x35 x47 x48 x49) false))))) (
 Option.map Sum.inr ((m_place_Graph_j2 x35) x48))
noncomputable def m_place_Graph_l1 (x1 : (List Diner)) : (Int × (List Edge)) → Option ((Int × (List Edge)) ⊕ (Graph × Bool))
| (x35, x36) =>
 ifb (decide (x35 < (ln Diner.row x1))) (
 (at_ x1 x35).bind fun x37 =>
 ifb (!decide (x37.ID = x35)) (
 Option.map Sum.inr (some ((Graph.mk 0 (([] : (List Edge)))), false))) (
 loop (m_place_Graph_l2 x1 x35 x37) (0, x36))) (
 Option.map Sum.inr ((m_place_Graph_j1 x1) x36))
noncomputable def m_place_Graph (x1 : (List Diner)) : Option (Graph × Bool) :=
 ifb (decide (64 < (ln Diner.row x1))) (
 some ((Graph.mk 0 (([] : (List Edge)))), false)) (
 loop (m_place_Graph_l1 x1) (0, ([] : List Edge)))
theorem k_place_Graph (x1 : (List Diner)) (r : (Graph × Bool)) (h : m_place_Graph x1 = some r) : FunP Try.prog 21 [.sl 3 (List.map Diner.row x1)] (.tup [.agg (Graph.row r.1), .bv r.2]) := by
  refine FunP_intro ok21 rfl rfl fun w0 H0 => ?_
  rw [m_place_Graph] at h
  refine V_go 12 ?_; dsimp only [e21, e21_L0, e21_L1, go_sem, Nat.reduceBEq, Nat.reduceAdd]; refine ⟨by simp, ?_⟩; refine M_ite h rfl (fun _ h => ?_) fun _ h => ?_
  ·refine V_go 6 ?_; dsimp only [e21, e21_L0, e21_L1, go_sem, Nat.reduceBEq, Nat.reduceAdd]; refine ⟨by simp, ?_⟩; exact M_done (res := fun (r : (Graph × Bool)) => .tup [.agg (Graph.row r.1), .bv r.2]) ok21 h
  ·refine V_go 16 ?_; dsimp only [e21, e21_L0, e21_L1, go_sem, Nat.reduceBEq, Nat.reduceAdd]; refine ⟨by simp, ?_⟩; refine V_join (fun (x78 : (List Edge)) => (⟨(.any :: .any :: .ptr 0 0 :: .any :: .ptr 1 0 :: an 99 []), [some ⟨24, [.iv 0, .nl]⟩, some ⟨24, [.iv (ln Diner.row x1), .osl 0]⟩], [some ⟨58, 2, List.map Edge.row x78⟩]⟩ : St)) (m_place_Graph_j1 x1) r ?_ fun J1 => ?_
   ·intro x78 h; rw [m_place_Graph_j1] at h; (try dsimp only); refine V_go 4 ?_; dsimp only [e21, e21_L0, e21_L1, go_sem, Nat.reduceBEq, Nat.reduceAdd]; refine ⟨by simp, ?_⟩; obtain ⟨x79, ex79, h⟩ := Option.bind_eq_some_iff.1 h; refine V_callL trivial ((Lend.refl _).slice 0 rfl) (k_graph_Check ((Graph.mk (ln Diner.row x1) x78)) _ ex79) (h := ?_); refine V_go 2 ?_; dsimp only [e21, e21_L0, e21_L1, go_sem, Nat.reduceBEq, Nat.reduceAdd]; refine ⟨by simp, ?_⟩; refine M_ite h rfl (fun _ h => ?_) fun _ h => ?_
    ·refine V_go 6 ?_; dsimp only [e21, e21_L0, e21_L1, go_sem, Nat.reduceBEq, Nat.reduceAdd]; refine ⟨by simp, ?_⟩; exact M_done (res := fun (r : (Graph × Bool)) => .tup [.agg (Graph.row r.1), .bv r.2]) ok21 h
    ·refine V_go 7 ?_; dsimp only [e21, e21_L0, e21_L1, go_sem, Nat.reduceBEq, Nat.reduceAdd]; refine ⟨by simp, ?_⟩; refine V_seal 0 rfl ?_; dsimp only [go_sem, Nat.reduceBEq, Nat.reduceAdd]; exact M_done (res := fun (r : (Graph × Bool)) => .tup [.agg (Graph.row r.1), .bv r.2]) ok21 h
   ·refine V_go 1 ?_; dsimp only [e21, e21_L0, e21_L1, go_sem, Nat.reduceBEq, Nat.reduceAdd]; refine ⟨by simp, ?_⟩; refine V_ownB 1 1 58 2 rfl rfl rfl ?_; dsimp only [go_sem, Nat.reduceBEq, Nat.reduceAdd]
    refine M_loop h (fun ((x35, x36) : (Int × (List Edge))) => (⟨(.sl 3 (List.map Diner.row x1) :: .any :: .ptr 0 0 :: .any :: .ptr 1 0 :: an 13 (.sl 3 (List.map Diner.row x1) :: .iv (ln Diner.row x1) :: .iv x35 :: an 83 [])), [some ⟨24, [.iv 0, .nl]⟩, some ⟨24, [.iv (ln Diner.row x1), .osl 0]⟩], [some ⟨58, 2, List.map Edge.row x36⟩]⟩ : St)) (by simp [go_sem]) (by rintro ⟨x35, x36⟩; first | rfl | simp [go_sem]) ?_; rintro n1 ⟨x35, x36⟩ y1 h hin1 hout1; rw [m_place_Graph_l1] at h; (try dsimp only); refine V_go 5 ?_; dsimp only [e21, e21_L0, e21_L1, go_sem, Nat.reduceBEq, Nat.reduceAdd]
    refine ⟨by simp, ?_⟩; refine M_ite h rfl (fun _ h => ?_) fun _ h => ?_
    ·refine V_go 6 ?_; dsimp only [e21, e21_L0, e21_L1, go_sem, Nat.reduceBEq, Nat.reduceAdd]; refine ⟨by simp, ?_⟩; obtain ⟨x37, ex37, h⟩ := Option.bind_eq_some_iff.1 h; refine V_idxM Diner.row ex37 trivial rfl rfl rfl ?_; refine V_go 13 ?_; dsimp only [e21, e21_L0, e21_L1, go_sem, Nat.reduceBEq, Nat.reduceAdd]; refine ⟨by simp, ?_⟩; refine M_ite h rfl (fun _ h => ?_) fun _ h => ?_
     ·refine V_go 6 ?_; dsimp only [e21, e21_L0, e21_L1, go_sem, Nat.reduceBEq, Nat.reduceAdd]; refine ⟨by simp, ?_⟩; exact M_done (res := fun (r : (Graph × Bool)) => .tup [.agg (Graph.row r.1), .bv r.2]) ok21 (M_out h hout1)
     ·refine V_go 8 ?_; dsimp only [e21, e21_L0, e21_L1, go_sem, Nat.reduceBEq, Nat.reduceAdd]; refine ⟨by simp, ?_⟩; refine V_join (fun (x69 : (List Edge)) => (⟨(.sl 3 (List.map Diner.row x1) :: .any :: .ptr 0 0 :: .any :: .ptr 1 0 :: an 13 (.sl 3 (List.map Diner.row x1) :: .iv (ln Diner.row x1) :: .iv x35 :: an 83 [])), [some ⟨24, [.iv 0, .nl]⟩, some ⟨24, [.iv (ln Diner.row x1), .osl 0]⟩], [some ⟨58, 2, List.map Edge.row x69⟩]⟩ : St)) (m_place_Graph_j2 x35) y1 ?_ fun J2 => ?_
      ·intro x69 h; rw [m_place_Graph_j2] at h; (try dsimp only); refine V_go 5 ?_; dsimp only [e21, e21_L0, e21_L1, go_sem, Nat.reduceBEq, Nat.reduceAdd]; refine ⟨by simp, ?_⟩; exact M_back h hin1
      ·refine V_go 1 ?_; dsimp only [e21, e21_L0, e21_L1, go_sem, Nat.reduceBEq, Nat.reduceAdd]; refine ⟨by simp, ?_⟩
       refine M_loop h (fun ((x47, x48) : (Int × (List Edge))) => (⟨(.sl 3 (List.map Diner.row x1) :: .any :: .ptr 0 0 :: .any :: .ptr 1 0 :: .iv x35 :: .ptr 2 0 :: an 11 (.sl 3 (List.map Diner.row x1) :: .iv (ln Diner.row x1) :: .iv x35 :: an 10 (.sl 8 (List.map Side.row x37.Sides) :: .iv (ln Side.row x37.Sides) :: .iv x47 :: an 70 []))), [some ⟨24, [.iv 0, .nl]⟩, some ⟨24, [.iv (ln Diner.row x1), .osl 0]⟩, some ⟨39, [.iv x37.ID, .iv x37.Phase, .sl 8 (List.map Side.row x37.Sides)]⟩], [some ⟨58, 2, List.map Edge.row x48⟩]⟩ : St)) (by simp [go_sem]) (by rintro ⟨x47, x48⟩; first | rfl | simp [go_sem]) ?_
       rintro n2 ⟨x47, x48⟩ y2 h hin2 hout2; rw [m_place_Graph_l2] at h; (try dsimp only); refine V_go 5 ?_; dsimp only [e21, e21_L0, e21_L1, go_sem, Nat.reduceBEq, Nat.reduceAdd]; refine ⟨by simp, ?_⟩; refine M_ite h rfl (fun _ h => ?_) fun _ h => ?_
       ·refine V_go 6 ?_; dsimp only [e21, e21_L0, e21_L1, go_sem, Nat.reduceBEq, Nat.reduceAdd]; refine ⟨by simp, ?_⟩; obtain ⟨x49, ex49, h⟩ := Option.bind_eq_some_iff.1 h; refine V_idxM Side.row ex49 trivial rfl rfl rfl ?_; refine V_go 7 ?_; dsimp only [e21, e21_L0, e21_L1, go_sem, Nat.reduceBEq, Nat.reduceAdd]; refine ⟨by simp, ?_⟩
        refine V_join (fun (x51 : Bool) => (⟨(.sl 3 (List.map Diner.row x1) :: .any :: .ptr 0 0 :: .any :: .ptr 1 0 :: .iv x35 :: .ptr 2 0 :: .any :: .ptr 3 0 :: an 9 (.sl 3 (List.map Diner.row x1) :: .iv (ln Diner.row x1) :: .iv x35 :: an 10 (.sl 8 (List.map Side.row x37.Sides) :: .iv (ln Side.row x37.Sides) :: .iv x47 :: an 35 (.bv x51 :: an 34 [])))), [some ⟨24, [.iv 0, .nl]⟩, some ⟨24, [.iv (ln Diner.row x1), .osl 0]⟩, some ⟨39, [.iv x37.ID, .iv x37.Phase, .sl 8 (List.map Side.row x37.Sides)]⟩, some ⟨49, [.iv x49.Peer, .iv x49.Epoch, .iv x49.State, .bv x49.Fork, .bv x49.Dirty, .bv x49.Token, .bv x49.Bottle, .bv x49.Ask]⟩], [some ⟨58, 2, List.map Edge.row x48⟩]⟩ : St)) (m_place_Graph_j3 x1 x35 x47 x48 x49) y2 ?_ fun J3 => ?_
        ·intro x51 h; rw [m_place_Graph_j3] at h; (try dsimp only); refine M_ite h rfl (fun _ h => ?_) fun _ h => ?_
         ·refine V_go 6 ?_; dsimp only [e21, e21_L0, e21_L1, go_sem, Nat.reduceBEq, Nat.reduceAdd]; refine ⟨by simp, ?_⟩; exact M_done (res := fun (r : (Graph × Bool)) => .tup [.agg (Graph.row r.1), .bv r.2]) ok21 (M_out (M_out h hout2) hout1)
         ·refine V_go 7 ?_; dsimp only [e21, e21_L0, e21_L1, go_sem, Nat.reduceBEq, Nat.reduceAdd]; refine ⟨by simp, ?_⟩; obtain ⟨x52, ex52, h⟩ := Option.bind_eq_some_iff.1 h; refine V_idxM Diner.row ex52 trivial rfl rfl rfl ?_; refine V_go 2 ?_; dsimp only [e21, e21_L0, e21_L1, go_sem, Nat.reduceBEq, Nat.reduceAdd]; refine ⟨by simp, ?_⟩; obtain ⟨x53, ex53, h⟩ := Option.bind_eq_some_iff.1 h; refine V_call trivial (k_place_Side x52 x35 _ ex53) (h := ?_); refine V_go 12 ?_; dsimp only [e21, e21_L0, e21_L1, go_sem, Nat.reduceBEq, Nat.reduceAdd]; refine ⟨by simp, ?_⟩
          refine M_ite h rfl (fun _ h => ?_) fun _ h => ?_
          ·refine V_go 6 ?_; dsimp only [e21, e21_L0, e21_L1, go_sem, Nat.reduceBEq, Nat.reduceAdd]; refine ⟨by simp, ?_⟩; exact M_done (res := fun (r : (Graph × Bool)) => .tup [.agg (Graph.row r.1), .bv r.2]) ok21 (M_out (M_out h hout2) hout1)
          ·refine V_go 8 ?_; dsimp only [e21, e21_L0, e21_L1, go_sem, Nat.reduceBEq, Nat.reduceAdd]; refine ⟨by simp, ?_⟩
           refine V_join (fun (x55 : (List Edge)) => (⟨(.sl 3 (List.map Diner.row x1) :: .any :: .ptr 0 0 :: .any :: .ptr 1 0 :: .iv x35 :: .ptr 2 0 :: an 11 (.sl 3 (List.map Diner.row x1) :: .iv (ln Diner.row x1) :: .iv x35 :: an 10 (.sl 8 (List.map Side.row x37.Sides) :: .iv (ln Side.row x37.Sides) :: .iv x47 :: an 70 []))), [some ⟨24, [.iv 0, .nl]⟩, some ⟨24, [.iv (ln Diner.row x1), .osl 0]⟩, some ⟨39, [.iv x37.ID, .iv x37.Phase, .sl 8 (List.map Side.row x37.Sides)]⟩], [some ⟨58, 2, List.map Edge.row x55⟩]⟩ : St)) (m_place_Graph_j4 x47) y2 ?_ fun J4 => ?_
           ·intro x55 h; rw [m_place_Graph_j4] at h; (try dsimp only); refine V_go 5 ?_; dsimp only [e21, e21_L0, e21_L1, go_sem, Nat.reduceBEq, Nat.reduceAdd]; refine ⟨by simp, ?_⟩; exact M_back h hin2
           ·refine M_ite h rfl (fun _ h => ?_) fun _ h => ?_
            ·refine V_go 8 ?_; dsimp only [e21, e21_L0, e21_L1, go_sem, Nat.reduceBEq, Nat.reduceAdd]; refine ⟨by simp, ?_⟩; obtain ⟨x54, ex54, h⟩ := Option.bind_eq_some_iff.1 h; refine V_appM Edge.row ex54 trivial rfl rfl rfl ?_; refine V_go 3 ?_; dsimp only [e21, e21_L0, e21_L1, go_sem, Nat.reduceBEq, Nat.reduceAdd]; refine ⟨by simp, ?_⟩; refine V_ren 2 0 rfl rfl rfl ?_; dsimp only [go_sem, Nat.reduceBEq, Nat.reduceAdd]; exact M_to J4 (s := x54) h
            ·refine V_go 1 ?_; dsimp only [e21, e21_L0, e21_L1, go_sem, Nat.reduceBEq, Nat.reduceAdd]; refine ⟨by simp, ?_⟩; exact M_to J4 (s := x48) h
        ·refine V_drw (by kernel_rfl) fun all hall hs hnap haf => ?_; dsimp only [go_sem, Nat.reduceBEq, Nat.reduceAdd]
         refine G_goE hall hs haf hnap 4 28 [true, true, true, true, false, false, false, false, false, false, false, false, false, false, false, false, false, false, false, false, false, false, false, false, false, false, false, false, false, false, false, false] (⟨(.sl 3 (List.map Diner.row x1) :: .any :: .ptr 0 0 :: .any :: .ptr 1 0 :: .iv x35 :: .ptr 2 0 :: .iv x47 :: .ptr 3 0 :: an 9 (.sl 3 (List.map Diner.row x1) :: .iv (ln Diner.row x1) :: .iv x35 :: an 10 (.sl 8 (List.map Side.row x37.Sides) :: .iv (ln Side.row x37.Sides) :: .iv x47 :: .bv (decide (x47 < (ln Side.row x37.Sides))) :: .iv x47 :: .elt [.iv x49.Peer, .iv x49.Epoch, .iv x49.State, .bv x49.Fork, .bv x49.Dirty, .bv x49.Token, .bv x49.Bottle, .bv x49.Ask] 0 :: .agg [.iv x49.Peer, .iv x49.Epoch, .iv x49.State, .bv x49.Fork, .bv x49.Dirty, .bv x49.Token, .bv x49.Bottle, .bv x49.Ask] :: .ptr 3 0 :: .iv x49.Peer :: .bv (decide (x49.Peer < 0)) :: .bv (decide (x49.Peer < 0)) :: an 62 []))), [some ⟨24, [.iv 0, .nl]⟩, some ⟨24, [.iv (ln Diner.row x1), .osl 0]⟩, some ⟨39, [.iv x37.ID, .iv x37.Phase, .sl 8 (List.map Side.row x37.Sides)]⟩, some ⟨49, [.iv x49.Peer, .iv x49.Epoch, .iv x49.State, .bv x49.Fork, .bv x49.Dirty, .bv x49.Token, .bv x49.Bottle, .bv x49.Ask]⟩], [some ⟨58, 2, List.map Edge.row x48⟩]⟩ : St) (by kernel_rfl) ?_
         refine GM_case 41 h rfl (fun _ h => ?_) fun _ h => ?_
         ·dsimp only [go_sem, Nat.reduceBEq, Nat.reduceAdd]
          refine G_goE hall hs haf hnap 28 0 [true, true, true, true, true, true, true, true, true, true, true, true, true, true, true, true, true, true, true, true, true, true, true, true, true, true, true, true, true, true, true, true] (⟨(.sl 3 (List.map Diner.row x1) :: .any :: .ptr 0 0 :: .any :: .ptr 1 0 :: .iv x35 :: .ptr 2 0 :: .iv x47 :: .ptr 3 0 :: an 9 (.sl 3 (List.map Diner.row x1) :: .iv (ln Diner.row x1) :: .iv x35 :: an 10 (.sl 8 (List.map Side.row x37.Sides) :: .iv (ln Side.row x37.Sides) :: .iv x47 :: .bv (decide (x47 < (ln Side.row x37.Sides))) :: .iv x47 :: .elt [.iv x49.Peer, .iv x49.Epoch, .iv x49.State, .bv x49.Fork, .bv x49.Dirty, .bv x49.Token, .bv x49.Bottle, .bv x49.Ask] 0 :: .agg [.iv x49.Peer, .iv x49.Epoch, .iv x49.State, .bv x49.Fork, .bv x49.Dirty, .bv x49.Token, .bv x49.Bottle, .bv x49.Ask] :: .ptr 3 0 :: .iv x49.Peer :: .bv (decide (x49.Peer < 0)) :: .tt :: .un :: .un :: .un :: .un :: .un :: .tt :: .tt :: .un :: .un :: .un :: .un :: .tt :: .tt :: .un :: .un :: .un :: .un :: .un :: .un :: .un :: .un :: .un :: .un :: .un :: .un :: .un :: .un :: .tt :: an 34 []))), [some ⟨24, [.iv 0, .nl]⟩, some ⟨24, [.iv (ln Diner.row x1), .osl 0]⟩, some ⟨39, [.iv x37.ID, .iv x37.Phase, .sl 8 (List.map Side.row x37.Sides)]⟩, some ⟨49, [.iv x49.Peer, .iv x49.Epoch, .iv x49.State, .bv x49.Fork, .bv x49.Dirty, .bv x49.Token, .bv x49.Bottle, .bv x49.Ask]⟩], [some ⟨58, 2, List.map Edge.row x48⟩]⟩ : St) (by kernel_rfl) ?_
          refine G_done rfl ?_ _; exact M_to J3 (s := true) h
         ·dsimp only [go_sem, Nat.reduceBEq, Nat.reduceAdd]
          refine G_goE hall hs haf hnap 7 21 [true, true, true, true, true, true, true, true, true, true, true, false, false, false, false, false, false, false, false, false, false, false, false, false, false, false, false, false, false, false, false, false] (⟨(.sl 3 (List.map Diner.row x1) :: .any :: .ptr 0 0 :: .any :: .ptr 1 0 :: .iv x35 :: .ptr 2 0 :: .iv x47 :: .ptr 3 0 :: an 9 (.sl 3 (List.map Diner.row x1) :: .iv (ln Diner.row x1) :: .iv x35 :: an 10 (.sl 8 (List.map Side.row x37.Sides) :: .iv (ln Side.row x37.Sides) :: .iv x47 :: .bv (decide (x47 < (ln Side.row x37.Sides))) :: .iv x47 :: .elt [.iv x49.Peer, .iv x49.Epoch, .iv x49.State, .bv x49.Fork, .bv x49.Dirty, .bv x49.Token, .bv x49.Bottle, .bv x49.Ask] 0 :: .agg [.iv x49.Peer, .iv x49.Epoch, .iv x49.State, .bv x49.Fork, .bv x49.Dirty, .bv x49.Token, .bv x49.Bottle, .bv x49.Ask] :: .ptr 3 0 :: .iv x49.Peer :: .bv (decide (x49.Peer < 0)) :: .ff :: .ptr 3 0 :: .iv x49.Peer :: .sl 3 (List.map Diner.row x1) :: .iv (ln Diner.row x1) :: .bv (decide ((ln Diner.row x1) ≤ x49.Peer)) :: .bv (decide ((ln Diner.row x1) ≤ x49.Peer)) :: .bv (decide ((ln Diner.row x1) ≤ x49.Peer)) :: an 55 []))), [some ⟨24, [.iv 0, .nl]⟩, some ⟨24, [.iv (ln Diner.row x1), .osl 0]⟩, some ⟨39, [.iv x37.ID, .iv x37.Phase, .sl 8 (List.map Side.row x37.Sides)]⟩, some ⟨49, [.iv x49.Peer, .iv x49.Epoch, .iv x49.State, .bv x49.Fork, .bv x49.Dirty, .bv x49.Token, .bv x49.Bottle, .bv x49.Ask]⟩], [some ⟨58, 2, List.map Edge.row x48⟩]⟩ : St) (by kernel_rfl) ?_
          refine GM_case 48 h rfl (fun _ h => ?_) fun _ h => ?_
          ·dsimp only [go_sem, Nat.reduceBEq, Nat.reduceAdd]
           refine G_goE hall hs haf hnap 21 0 [true, true, true, true, true, true, true, true, true, true, true, true, true, true, true, true, true, true, true, true, true, true, true, true, true, true, true, true, true, true, true, true] (⟨(.sl 3 (List.map Diner.row x1) :: .any :: .ptr 0 0 :: .any :: .ptr 1 0 :: .iv x35 :: .ptr 2 0 :: .iv x47 :: .ptr 3 0 :: an 9 (.sl 3 (List.map Diner.row x1) :: .iv (ln Diner.row x1) :: .iv x35 :: an 10 (.sl 8 (List.map Side.row x37.Sides) :: .iv (ln Side.row x37.Sides) :: .iv x47 :: .bv (decide (x47 < (ln Side.row x37.Sides))) :: .iv x47 :: .elt [.iv x49.Peer, .iv x49.Epoch, .iv x49.State, .bv x49.Fork, .bv x49.Dirty, .bv x49.Token, .bv x49.Bottle, .bv x49.Ask] 0 :: .agg [.iv x49.Peer, .iv x49.Epoch, .iv x49.State, .bv x49.Fork, .bv x49.Dirty, .bv x49.Token, .bv x49.Bottle, .bv x49.Ask] :: .ptr 3 0 :: .iv x49.Peer :: .bv (decide (x49.Peer < 0)) :: .ff :: .ptr 3 0 :: .iv x49.Peer :: .sl 3 (List.map Diner.row x1) :: .iv (ln Diner.row x1) :: .bv (decide ((ln Diner.row x1) ≤ x49.Peer)) :: .bv (decide ((ln Diner.row x1) ≤ x49.Peer)) :: .tt :: .un :: .un :: .un :: .un :: .tt :: .tt :: .un :: .un :: .un :: .un :: .un :: .un :: .un :: .un :: .un :: .un :: .un :: .un :: .un :: .un :: .tt :: an 34 []))), [some ⟨24, [.iv 0, .nl]⟩, some ⟨24, [.iv (ln Diner.row x1), .osl 0]⟩, some ⟨39, [.iv x37.ID, .iv x37.Phase, .sl 8 (List.map Side.row x37.Sides)]⟩, some ⟨49, [.iv x49.Peer, .iv x49.Epoch, .iv x49.State, .bv x49.Fork, .bv x49.Dirty, .bv x49.Token, .bv x49.Bottle, .bv x49.Ask]⟩], [some ⟨58, 2, List.map Edge.row x48⟩]⟩ : St) (by kernel_rfl) ?_
           refine G_done rfl ?_ _; exact M_to J3 (s := true) h
          ·dsimp only [go_sem, Nat.reduceBEq, Nat.reduceAdd]
           refine G_goE hall hs haf hnap 6 15 [true, true, true, true, true, true, true, true, true, true, true, true, true, true, true, true, true, false, false, false, false, false, false, false, false, false, false, false, false, false, false, false] (⟨(.sl 3 (List.map Diner.row x1) :: .any :: .ptr 0 0 :: .any :: .ptr 1 0 :: .iv x35 :: .ptr 2 0 :: .iv x47 :: .ptr 3 0 :: an 9 (.sl 3 (List.map Diner.row x1) :: .iv (ln Diner.row x1) :: .iv x35 :: an 10 (.sl 8 (List.map Side.row x37.Sides) :: .iv (ln Side.row x37.Sides) :: .iv x47 :: .bv (decide (x47 < (ln Side.row x37.Sides))) :: .iv x47 :: .elt [.iv x49.Peer, .iv x49.Epoch, .iv x49.State, .bv x49.Fork, .bv x49.Dirty, .bv x49.Token, .bv x49.Bottle, .bv x49.Ask] 0 :: .agg [.iv x49.Peer, .iv x49.Epoch, .iv x49.State, .bv x49.Fork, .bv x49.Dirty, .bv x49.Token, .bv x49.Bottle, .bv x49.Ask] :: .ptr 3 0 :: .iv x49.Peer :: .bv (decide (x49.Peer < 0)) :: .ff :: .ptr 3 0 :: .iv x49.Peer :: .sl 3 (List.map Diner.row x1) :: .iv (ln Diner.row x1) :: .bv (decide ((ln Diner.row x1) ≤ x49.Peer)) :: .bv (decide ((ln Diner.row x1) ≤ x49.Peer)) :: .ff :: .ptr 3 0 :: .iv x49.Peer :: .iv x35 :: .bv (decide (x49.Peer = x35)) :: .bv (decide (x49.Peer = x35)) :: .bv (decide (x49.Peer = x35)) :: an 49 []))), [some ⟨24, [.iv 0, .nl]⟩, some ⟨24, [.iv (ln Diner.row x1), .osl 0]⟩, some ⟨39, [.iv x37.ID, .iv x37.Phase, .sl 8 (List.map Side.row x37.Sides)]⟩, some ⟨49, [.iv x49.Peer, .iv x49.Epoch, .iv x49.State, .bv x49.Fork, .bv x49.Dirty, .bv x49.Token, .bv x49.Bottle, .bv x49.Ask]⟩], [some ⟨58, 2, List.map Edge.row x48⟩]⟩ : St) (by kernel_rfl) ?_
           refine GM_case 54 h rfl (fun _ h => ?_) fun _ h => ?_
           ·dsimp only [go_sem, Nat.reduceBEq, Nat.reduceAdd]
            refine G_goE hall hs haf hnap 15 0 [true, true, true, true, true, true, true, true, true, true, true, true, true, true, true, true, true, true, true, true, true, true, true, true, true, true, true, true, true, true, true, true] (⟨(.sl 3 (List.map Diner.row x1) :: .any :: .ptr 0 0 :: .any :: .ptr 1 0 :: .iv x35 :: .ptr 2 0 :: .iv x47 :: .ptr 3 0 :: an 9 (.sl 3 (List.map Diner.row x1) :: .iv (ln Diner.row x1) :: .iv x35 :: an 10 (.sl 8 (List.map Side.row x37.Sides) :: .iv (ln Side.row x37.Sides) :: .iv x47 :: .bv (decide (x47 < (ln Side.row x37.Sides))) :: .iv x47 :: .elt [.iv x49.Peer, .iv x49.Epoch, .iv x49.State, .bv x49.Fork, .bv x49.Dirty, .bv x49.Token, .bv x49.Bottle, .bv x49.Ask] 0 :: .agg [.iv x49.Peer, .iv x49.Epoch, .iv x49.State, .bv x49.Fork, .bv x49.Dirty, .bv x49.Token, .bv x49.Bottle, .bv x49.Ask] :: .ptr 3 0 :: .iv x49.Peer :: .bv (decide (x49.Peer < 0)) :: .ff :: .ptr 3 0 :: .iv x49.Peer :: .sl 3 (List.map Diner.row x1) :: .iv (ln Diner.row x1) :: .bv (decide ((ln Diner.row x1) ≤ x49.Peer)) :: .bv (decide ((ln Diner.row x1) ≤ x49.Peer)) :: .ff :: .ptr 3 0 :: .iv x49.Peer :: .iv x35 :: .bv (decide (x49.Peer = x35)) :: .bv (decide (x49.Peer = x35)) :: .tt :: .un :: .un :: .un :: .un :: .un :: .un :: .un :: .un :: .un :: .un :: .un :: .un :: .un :: .un :: .tt :: an 34 []))), [some ⟨24, [.iv 0, .nl]⟩, some ⟨24, [.iv (ln Diner.row x1), .osl 0]⟩, some ⟨39, [.iv x37.ID, .iv x37.Phase, .sl 8 (List.map Side.row x37.Sides)]⟩, some ⟨49, [.iv x49.Peer, .iv x49.Epoch, .iv x49.State, .bv x49.Fork, .bv x49.Dirty, .bv x49.Token, .bv x49.Bottle, .bv x49.Ask]⟩], [some ⟨58, 2, List.map Edge.row x48⟩]⟩ : St) (by kernel_rfl) ?_
            refine G_done rfl ?_ _; exact M_to J3 (s := true) h
           ·dsimp only [go_sem, Nat.reduceBEq, Nat.reduceAdd]
            refine G_goE hall hs haf hnap 3 12 [true, true, true, true, true, true, true, true, true, true, true, true, true, true, true, true, true, true, true, true, false, false, false, false, false, false, false, false, false, false, false, false] (⟨(.sl 3 (List.map Diner.row x1) :: .any :: .ptr 0 0 :: .any :: .ptr 1 0 :: .iv x35 :: .ptr 2 0 :: .iv x47 :: .ptr 3 0 :: an 9 (.sl 3 (List.map Diner.row x1) :: .iv (ln Diner.row x1) :: .iv x35 :: an 10 (.sl 8 (List.map Side.row x37.Sides) :: .iv (ln Side.row x37.Sides) :: .iv x47 :: .bv (decide (x47 < (ln Side.row x37.Sides))) :: .iv x47 :: .elt [.iv x49.Peer, .iv x49.Epoch, .iv x49.State, .bv x49.Fork, .bv x49.Dirty, .bv x49.Token, .bv x49.Bottle, .bv x49.Ask] 0 :: .agg [.iv x49.Peer, .iv x49.Epoch, .iv x49.State, .bv x49.Fork, .bv x49.Dirty, .bv x49.Token, .bv x49.Bottle, .bv x49.Ask] :: .ptr 3 0 :: .iv x49.Peer :: .bv (decide (x49.Peer < 0)) :: .ff :: .ptr 3 0 :: .iv x49.Peer :: .sl 3 (List.map Diner.row x1) :: .iv (ln Diner.row x1) :: .bv (decide ((ln Diner.row x1) ≤ x49.Peer)) :: .bv (decide ((ln Diner.row x1) ≤ x49.Peer)) :: .ff :: .ptr 3 0 :: .iv x49.Peer :: .iv x35 :: .bv (decide (x49.Peer = x35)) :: .bv (decide (x49.Peer = x35)) :: .ff :: .iv x47 :: .bv (decide (0 < x47)) :: .bv (decide (0 < x47)) :: an 46 []))), [some ⟨24, [.iv 0, .nl]⟩, some ⟨24, [.iv (ln Diner.row x1), .osl 0]⟩, some ⟨39, [.iv x37.ID, .iv x37.Phase, .sl 8 (List.map Side.row x37.Sides)]⟩, some ⟨49, [.iv x49.Peer, .iv x49.Epoch, .iv x49.State, .bv x49.Fork, .bv x49.Dirty, .bv x49.Token, .bv x49.Bottle, .bv x49.Ask]⟩], [some ⟨58, 2, List.map Edge.row x48⟩]⟩ : St) (by kernel_rfl) ?_
            refine GM_case 57 h rfl (fun _ h => ?_) fun _ h => ?_
            ·dsimp only [go_sem, Nat.reduceBEq, Nat.reduceAdd]
             refine G_goE hall hs haf hnap 6 6 [true, true, true, true, true, true, true, true, true, true, true, true, true, true, true, true, true, true, true, true, true, true, true, true, false, false, false, true, true, false, false, false] (⟨(.sl 3 (List.map Diner.row x1) :: .any :: .ptr 0 0 :: .any :: .ptr 1 0 :: .iv x35 :: .ptr 2 0 :: .iv x47 :: .ptr 3 0 :: an 9 (.sl 3 (List.map Diner.row x1) :: .iv (ln Diner.row x1) :: .iv x35 :: an 10 (.sl 8 (List.map Side.row x37.Sides) :: .iv (ln Side.row x37.Sides) :: .iv x47 :: .bv (decide (x47 < (ln Side.row x37.Sides))) :: .iv x47 :: .elt [.iv x49.Peer, .iv x49.Epoch, .iv x49.State, .bv x49.Fork, .bv x49.Dirty, .bv x49.Token, .bv x49.Bottle, .bv x49.Ask] 0 :: .agg [.iv x49.Peer, .iv x49.Epoch, .iv x49.State, .bv x49.Fork, .bv x49.Dirty, .bv x49.Token, .bv x49.Bottle, .bv x49.Ask] :: .ptr 3 0 :: .iv x49.Peer :: .bv (decide (x49.Peer < 0)) :: .ff :: .ptr 3 0 :: .iv x49.Peer :: .sl 3 (List.map Diner.row x1) :: .iv (ln Diner.row x1) :: .bv (decide ((ln Diner.row x1) ≤ x49.Peer)) :: .bv (decide ((ln Diner.row x1) ≤ x49.Peer)) :: .ff :: .ptr 3 0 :: .iv x49.Peer :: .iv x35 :: .bv (decide (x49.Peer = x35)) :: .bv (decide (x49.Peer = x35)) :: .ff :: .iv x47 :: .bv (decide (0 < x47)) :: .tt :: .ptr 2 2 :: .sl 8 (List.map Side.row x37.Sides) :: .iv x47 :: .iv (wr (x47 - 1)) :: an 3 (.ptr 3 0 :: .iv x49.Peer :: an 37 [])))), [some ⟨24, [.iv 0, .nl]⟩, some ⟨24, [.iv (ln Diner.row x1), .osl 0]⟩, some ⟨39, [.iv x37.ID, .iv x37.Phase, .sl 8 (List.map Side.row x37.Sides)]⟩, some ⟨49, [.iv x49.Peer, .iv x49.Epoch, .iv x49.State, .bv x49.Fork, .bv x49.Dirty, .bv x49.Token, .bv x49.Bottle, .bv x49.Ask]⟩], [some ⟨58, 2, List.map Edge.row x48⟩]⟩ : St) (by kernel_rfl) ?_
             obtain ⟨x50, ex50, h⟩ := Option.bind_eq_some_iff.1 h; refine G_idxM hall hs haf hnap 24 Side.row ex50 rfl rfl trivial rfl rfl rfl rfl ?_
             refine G_goE hall hs haf hnap 5 0 [true, true, true, true, true, true, true, true, true, true, true, true, true, true, true, true, true, true, true, true, true, true, true, true, true, true, true, true, true, true, true, true] (⟨(.sl 3 (List.map Diner.row x1) :: .any :: .ptr 0 0 :: .any :: .ptr 1 0 :: .iv x35 :: .ptr 2 0 :: .iv x47 :: .ptr 3 0 :: an 9 (.sl 3 (List.map Diner.row x1) :: .iv (ln Diner.row x1) :: .iv x35 :: an 10 (.sl 8 (List.map Side.row x37.Sides) :: .iv (ln Side.row x37.Sides) :: .iv x47 :: .bv (decide (x47 < (ln Side.row x37.Sides))) :: .iv x47 :: .elt [.iv x49.Peer, .iv x49.Epoch, .iv x49.State, .bv x49.Fork, .bv x49.Dirty, .bv x49.Token, .bv x49.Bottle, .bv x49.Ask] 0 :: .agg [.iv x49.Peer, .iv x49.Epoch, .iv x49.State, .bv x49.Fork, .bv x49.Dirty, .bv x49.Token, .bv x49.Bottle, .bv x49.Ask] :: .ptr 3 0 :: .iv x49.Peer :: .bv (decide (x49.Peer < 0)) :: .ff :: .ptr 3 0 :: .iv x49.Peer :: .sl 3 (List.map Diner.row x1) :: .iv (ln Diner.row x1) :: .bv (decide ((ln Diner.row x1) ≤ x49.Peer)) :: .bv (decide ((ln Diner.row x1) ≤ x49.Peer)) :: .ff :: .ptr 3 0 :: .iv x49.Peer :: .iv x35 :: .bv (decide (x49.Peer = x35)) :: .bv (decide (x49.Peer = x35)) :: .ff :: .iv x47 :: .bv (decide (0 < x47)) :: .tt :: .ptr 2 2 :: .sl 8 (List.map Side.row x37.Sides) :: .iv x47 :: .iv (wr (x47 - 1)) :: .elt [.iv x50.Peer, .iv x50.Epoch, .iv x50.State, .bv x50.Fork, .bv x50.Dirty, .bv x50.Token, .bv x50.Bottle, .bv x50.Ask] 0 :: .elt [.iv x50.Peer, .iv x50.Epoch, .iv x50.State, .bv x50.Fork, .bv x50.Dirty, .bv x50.Token, .bv x50.Bottle, .bv x50.Ask] 0 :: .iv x50.Peer :: .ptr 3 0 :: .iv x49.Peer :: .bv (decide (x49.Peer ≤ x50.Peer)) :: .bv (decide (x49.Peer ≤ x50.Peer)) :: .bv (decide (x49.Peer ≤ x50.Peer)) :: an 34 []))), [some ⟨24, [.iv 0, .nl]⟩, some ⟨24, [.iv (ln Diner.row x1), .osl 0]⟩, some ⟨39, [.iv x37.ID, .iv x37.Phase, .sl 8 (List.map Side.row x37.Sides)]⟩, some ⟨49, [.iv x49.Peer, .iv x49.Epoch, .iv x49.State, .bv x49.Fork, .bv x49.Dirty, .bv x49.Token, .bv x49.Bottle, .bv x49.Ask]⟩], [some ⟨58, 2, List.map Edge.row x48⟩]⟩ : St) (by kernel_rfl) ?_
             refine G_done rfl ?_ _; exact M_to J3 (s := decide (x49.Peer ≤ x50.Peer)) h
            ·dsimp only [go_sem, Nat.reduceBEq, Nat.reduceAdd]
             refine G_goE hall hs haf hnap 12 0 [true, true, true, true, true, true, true, true, true, true, true, true, true, true, true, true, true, true, true, true, true, true, true, true, true, true, true, true, true, true, true, true] (⟨(.sl 3 (List.map Diner.row x1) :: .any :: .ptr 0 0 :: .any :: .ptr 1 0 :: .iv x35 :: .ptr 2 0 :: .iv x47 :: .ptr 3 0 :: an 9 (.sl 3 (List.map Diner.row x1) :: .iv (ln Diner.row x1) :: .iv x35 :: an 10 (.sl 8 (List.map Side.row x37.Sides) :: .iv (ln Side.row x37.Sides) :: .iv x47 :: .bv (decide (x47 < (ln Side.row x37.Sides))) :: .iv x47 :: .elt [.iv x49.Peer, .iv x49.Epoch, .iv x49.State, .bv x49.Fork, .bv x49.Dirty, .bv x49.Token, .bv x49.Bottle, .bv x49.Ask] 0 :: .agg [.iv x49.Peer, .iv x49.Epoch, .iv x49.State, .bv x49.Fork, .bv x49.Dirty, .bv x49.Token, .bv x49.Bottle, .bv x49.Ask] :: .ptr 3 0 :: .iv x49.Peer :: .bv (decide (x49.Peer < 0)) :: .ff :: .ptr 3 0 :: .iv x49.Peer :: .sl 3 (List.map Diner.row x1) :: .iv (ln Diner.row x1) :: .bv (decide ((ln Diner.row x1) ≤ x49.Peer)) :: .bv (decide ((ln Diner.row x1) ≤ x49.Peer)) :: .ff :: .ptr 3 0 :: .iv x49.Peer :: .iv x35 :: .bv (decide (x49.Peer = x35)) :: .bv (decide (x49.Peer = x35)) :: .ff :: .iv x47 :: .bv (decide (0 < x47)) :: .ff :: .un :: .un :: .un :: .un :: .un :: .un :: .un :: .un :: .un :: .un :: .ff :: .ff :: an 34 []))), [some ⟨24, [.iv 0, .nl]⟩, some ⟨24, [.iv (ln Diner.row x1), .osl 0]⟩, some ⟨39, [.iv x37.ID, .iv x37.Phase, .sl 8 (List.map Side.row x37.Sides)]⟩, some ⟨49, [.iv x49.Peer, .iv x49.Epoch, .iv x49.State, .bv x49.Fork, .bv x49.Dirty, .bv x49.Token, .bv x49.Bottle, .bv x49.Ask]⟩], [some ⟨58, 2, List.map Edge.row x48⟩]⟩ : St) (by kernel_rfl) ?_
             refine G_done rfl ?_ _; exact M_to J3 (s := false) h
       ·refine V_go 1 ?_; dsimp only [e21, e21_L0, e21_L1, go_sem, Nat.reduceBEq, Nat.reduceAdd]; refine ⟨by simp, ?_⟩; exact M_to J2 (s := x48) (M_out h hout2)
    ·refine V_go 1 ?_; dsimp only [e21, e21_L0, e21_L1, go_sem, Nat.reduceBEq, Nat.reduceAdd]; refine ⟨by simp, ?_⟩; exact M_to J1 (s := x36) (M_out h hout1)
def f_place_Graph_j1 (F : Nat) (x1 : (List Diner)) : (List Edge) → Option (Graph × Bool)
| x78 =>
 (f_graph_Check F ((Graph.mk (ln Diner.row x1) x78))).bind fun x79 =>
 ifb (!decide (x79 = 0)) (
 some ((Graph.mk 0 (([] : (List Edge)))), false)) (
 some ((Graph.mk (ln Diner.row x1) x78), true))
theorem le_place_Graph_j1 {F : Nat} {x1 : (List Diner)} : ∀ s, ole (f_place_Graph_j1 F x1 s) (m_place_Graph_j1 x1 s) := by
  intro x78
  unfold f_place_Graph_j1 m_place_Graph_j1
  try dsimp only
  with_reducible repeat' first | exact ole_refl _ | assumption | intro _ | refine ole_ifb ?_ ?_ | refine ole_bind ?_ ?_ | refine ole_map ?_ | refine ole_loop ?_ | apply le_graph_Check
def f_place_Graph_j2 (_F : Nat) (x35 : Int) : (List Edge) → Option ((Int × (List Edge)) ⊕ (Graph × Bool))
| x69 =>
 some (.inl (wr (x35 + 1), x69))
theorem le_place_Graph_j2 {F : Nat} {x35 : Int} : ∀ s, ole (f_place_Graph_j2 F x35 s) (m_place_Graph_j2 x35 s) := by
  intro x69
  unfold f_place_Graph_j2 m_place_Graph_j2
  try dsimp only
  with_reducible repeat' first | exact ole_refl _ | assumption | intro _ | refine ole_ifb ?_ ?_ | refine ole_bind ?_ ?_ | refine ole_map ?_ | refine ole_loop ?_ | apply le_graph_Check | apply le_place_Graph_j1
def f_place_Graph_j4 (_F : Nat) (x47 : Int) : (List Edge) → Option ((Int × (List Edge)) ⊕ ((Int × (List Edge)) ⊕ (Graph × Bool)))
| x55 =>
 some (.inl (wr (x47 + 1), x55))
theorem le_place_Graph_j4 {F : Nat} {x47 : Int} : ∀ s, ole (f_place_Graph_j4 F x47 s) (m_place_Graph_j4 x47 s) := by
  intro x55
  unfold f_place_Graph_j4 m_place_Graph_j4
  try dsimp only
  with_reducible repeat' first | exact ole_refl _ | assumption | intro _ | refine ole_ifb ?_ ?_ | refine ole_bind ?_ ?_ | refine ole_map ?_ | refine ole_loop ?_ | apply le_graph_Check | apply le_place_Graph_j1 | apply le_place_Graph_j2
def f_place_Graph_j3 (F : Nat) (x1 : (List Diner)) (x35 : Int) (x47 : Int) (x48 : (List Edge)) (x49 : Side) : Bool → Option ((Int × (List Edge)) ⊕ ((Int × (List Edge)) ⊕ (Graph × Bool)))
| x51 =>
 ifb x51 (
 Option.map Sum.inr (Option.map Sum.inr (some ((Graph.mk 0 (([] : (List Edge)))), false)))) (
 (at_ x1 x49.Peer).bind fun x52 =>
 (f_place_Side F x52 x35).bind fun x53 =>
 ifb (!x53.2) (
 Option.map Sum.inr (Option.map Sum.inr (some ((Graph.mk 0 (([] : (List Edge)))), false)))) (
 ifb (decide (x35 < x49.Peer)) (
 (app_ 16 x48 ([(Edge.mk x35 x49.Peer)])).bind fun x54 =>
 (f_place_Graph_j4 F x47) x54) (
 (f_place_Graph_j4 F x47) x48)))
theorem le_place_Graph_j3 {F : Nat} {x1 : (List Diner)} {x35 : Int} {x47 : Int} {x48 : (List Edge)} {x49 : Side} : ∀ s, ole (f_place_Graph_j3 F x1 x35 x47 x48 x49 s) (m_place_Graph_j3 x1 x35 x47 x48 x49 s) := by
  intro x51
  unfold f_place_Graph_j3 m_place_Graph_j3
  try dsimp only
  with_reducible repeat' first | exact ole_refl _ | assumption | intro _ | refine ole_ifb ?_ ?_ | refine ole_bind ?_ ?_ | refine ole_map ?_ | refine ole_loop ?_ | apply le_graph_Check | apply le_place_Graph_j1 | apply le_place_Graph_j2 | apply le_place_Graph_j4 | apply le_place_Side
def f_place_Graph_l2 (F : Nat) (x1 : (List Diner)) (x35 : Int) (x37 : Diner) : (Int × (List Edge)) → Option ((Int × (List Edge)) ⊕ ((Int × (List Edge)) ⊕ (Graph × Bool)))
| (x47, x48) =>
 ifb (decide (x47 < (ln Side.row x37.Sides))) (
 (at_ x37.Sides x47).bind fun x49 =>
 ifb (decide (x49.Peer < 0)) (
 (f_place_Graph_j3 F x1 x35 x47 x48 x49) true) (
 ifb (decide ((ln Diner.row x1) ≤ x49.Peer)) (
 (f_place_Graph_j3 F x1 x35 x47 x48 x49) true) (
 ifb (decide (x49.Peer = x35)) (
 (f_place_Graph_j3 F x1 x35 x47 x48 x49) true) (
 ifb (decide (0 < x47)) (
 (at_ x37.Sides (wr (x47 - 1))).bind fun x50 =>
 (f_place_Graph_j3 F x1 x35 x47 x48 x49) (decide (x49.Peer ≤ x50.Peer))) (
 (f_place_Graph_j3 F x1 x35 x47 x48 x49) false))))) (
 Option.map Sum.inr ((f_place_Graph_j2 F x35) x48))
theorem le_place_Graph_l2 {F : Nat} {x1 : (List Diner)} {x35 : Int} {x37 : Diner} : ∀ s, ole (f_place_Graph_l2 F x1 x35 x37 s) (m_place_Graph_l2 x1 x35 x37 s) := by
  rintro ⟨x47, x48⟩
  unfold f_place_Graph_l2 m_place_Graph_l2
  try dsimp only
  with_reducible repeat' first | exact ole_refl _ | assumption | intro _ | refine ole_ifb ?_ ?_ | refine ole_bind ?_ ?_ | refine ole_map ?_ | refine ole_loop ?_ | apply le_graph_Check | apply le_place_Graph_j1 | apply le_place_Graph_j2 | apply le_place_Graph_j4 | apply le_place_Side | apply le_place_Graph_j3
def f_place_Graph_l1 (F : Nat) (x1 : (List Diner)) : (Int × (List Edge)) → Option ((Int × (List Edge)) ⊕ (Graph × Bool))
| (x35, x36) =>
 ifb (decide (x35 < (ln Diner.row x1))) (
 (at_ x1 x35).bind fun x37 =>
 ifb (!decide (x37.ID = x35)) (
 Option.map Sum.inr (some ((Graph.mk 0 (([] : (List Edge)))), false))) (
 loopF F (f_place_Graph_l2 F x1 x35 x37) (0, x36))) (
 Option.map Sum.inr ((f_place_Graph_j1 F x1) x36))
theorem le_place_Graph_l1 {F : Nat} {x1 : (List Diner)} : ∀ s, ole (f_place_Graph_l1 F x1 s) (m_place_Graph_l1 x1 s) := by
  rintro ⟨x35, x36⟩
  unfold f_place_Graph_l1 m_place_Graph_l1
  try dsimp only
  with_reducible repeat' first | exact ole_refl _ | assumption | intro _ | refine ole_ifb ?_ ?_ | refine ole_bind ?_ ?_ | refine ole_map ?_ | refine ole_loop ?_ | apply le_graph_Check | apply le_place_Graph_j1 | apply le_place_Graph_j2 | apply le_place_Graph_j4 | apply le_place_Side | apply le_place_Graph_j3 | apply le_place_Graph_l2
def f_place_Graph (F : Nat) (x1 : (List Diner)) : Option (Graph × Bool) :=
 ifb (decide (64 < (ln Diner.row x1))) (
 some ((Graph.mk 0 (([] : (List Edge)))), false)) (
 loopF F (f_place_Graph_l1 F x1) (0, ([] : List Edge)))
theorem le_place_Graph {F : Nat} {x1 : (List Diner)} : ole (f_place_Graph F x1) (m_place_Graph x1) := by
  unfold f_place_Graph m_place_Graph
  with_reducible repeat' first | exact ole_refl _ | assumption | intro _ | refine ole_ifb ?_ ?_ | refine ole_bind ?_ ?_ | refine ole_map ?_ | refine ole_loop ?_ | apply le_graph_Check | apply le_place_Graph_j1 | apply le_place_Graph_j2 | apply le_place_Graph_j4 | apply le_place_Side | apply le_place_Graph_j3 | apply le_place_Graph_l2 | apply le_place_Graph_l1
end NX
end Go.Proofs.Ytadebhbiglmodaa
/-
  Plain laws: the graph that nodes are of. No statement of the seat is proved here.
-/
namespace Go.Proofs.Ytadebhbiglmodaa
namespace NX
open Go
/-- May this be a side of node 'i'? -/
def sideB (l : List Diner) (i : Nat) (x : Side) : Bool :=
  decide (0 ≤ x.Peer) && (decide (x.Peer < l.length) && (!decide (x.Peer = i) && (match l[x.Peer.toNat]? with | some e => (sideO e i).isSome | none => false)))
def lastP (pre : List Side) : Option Int := pre.getLast?.map (·.Peer)
def riseB (p : Option Int) (x : Side) : Bool := match p with | none => true | some q => decide (q < x.Peer)
def okFrom (l : List Diner) (i : Nat) : Option Int → List Side → Bool
  | _, [] => true
  | p, x :: r => riseB p x && (sideB l i x && okFrom l i (some x.Peer) r)
def edgesD (i : Nat) (xs : List Side) : List Edge := (xs.filter fun x => decide ((i : Int) < x.Peer)).map fun x => ⟨i, x.Peer⟩
def okAll (l : List Diner) : Nat → List Diner → Bool
  | _, [] => true
  | i, d :: r => decide (d.ID = i) && (okFrom l i none d.Sides && okAll l (i + 1) r)
def edgesL : Nat → List Diner → List Edge
  | _, [] => []
  | i, d :: r => edgesD i d.Sides ++ edgesL (i + 1) r
def graph0 : Graph := ⟨0, []⟩
def graphP (l : List Diner) : Graph × Bool := if okAll l 0 l && okG ⟨l.length, edgesL 0 l⟩ then (⟨l.length, edgesL 0 l⟩, true) else (graph0, false)
theorem lastP_snoc (pre : List Side) (x : Side) : lastP (pre ++ [x]) = some x.Peer := by simp [lastP]
theorem edgesD_snoc (i : Nat) (pre : List Side) (x : Side) : edgesD i (pre ++ [x]) = if decide ((i : Int) < x.Peer) then edgesD i pre ++ [⟨i, x.Peer⟩] else edgesD i pre := by
  unfold edgesD
  by_cases h : (i : Int) < x.Peer <;> simp [h]
theorem edgesD_len (i : Nat) (xs : List Side) : (edgesD i xs).length ≤ xs.length := by simp [edgesD, List.length_filter_le]
theorem edgesL_append : ∀ (a b : List Diner) (i : Nat), edgesL i (a ++ b) = edgesL i a ++ edgesL (i + a.length) b
  | [], b, i => by simp [edgesL]
  | d :: a, b, i => by simp [edgesL, edgesL_append a b (i + 1), Nat.add_comm, Nat.add_left_comm]
theorem edgesL_len : ∀ (l : List Diner) (i : Nat), (∀ d ∈ l, d.Sides.length ≤ 5000) → (edgesL i l).length ≤ l.length * 5000
  | [], _, _ => by simp [edgesL]
  | d :: l, i, h => by
    have h1 := edgesL_len l (i + 1) fun e he => h e (by simp [he])
    have h2 := h d (by simp)
    have h3 := edgesD_len i d.Sides
    simp only [edgesL, List.length_append, List.length_cons]
    omega
theorem prev_step {γ : Type} {l pre post : List Side} {x : Side} (h : l = pre ++ x :: post) (hl : l.length ≤ 5000) (A : Bool → Option γ) :
    ifb (decide (0 < (pre.length : Int))) ((at_ l (wr ((pre.length : Int) - 1))).bind fun y => A (decide (x.Peer ≤ y.Peer))) (A false) = A (!riseB (lastP pre) x) := by
  rcases List.eq_nil_or_concat pre with rfl | ⟨q, y, rfl⟩
  · simp [lastP, riseB]
  · rw [List.concat_eq_append] at h ⊢
    have hy : l[q.length]? = some y := by subst h; simp
    have hm := mid_len h
    have e : decide (0 < (((q ++ [y]).length : Nat) : Int)) = true := decide_eq_true (by simp only [len_snoc]; omega)
    rw [e, ifb_true, len_snoc, wr_pred (by simp at hm; omega), at_get hy, Option.bind_some, lastP_snoc, riseB, ← decide_not]
    congr 2
    simp
theorem inner_len {l : List Diner} {pre post : List Diner} {d : Diner} (hl : fewD l) (h : l = pre ++ d :: post) : (edgesL 0 pre).length ≤ 25000000 := by
  have h1 := edgesL_len pre 0 fun e he => hl.2 e (by subst h; simp [he])
  have h2 := mid_len h
  have := hl.1
  omega
theorem s_Graph2 (l : List Diner) (hl : fewD l) (i : Nat) (d : Diner) (hd : d ∈ l) (hi : i ≤ 5000) (E : List Edge) (hE : E.length ≤ 25000000) :
    loop (m_place_Graph_l2 l i d) (0, E) = some (if okFrom l i none d.Sides then .inl (((i + 1 : Nat) : Int), E ++ edgesD i d.Sides) else .inr (graph0, false)) := by
  have hdl := hl.2 d hd
  have key := (loop_pp0 d.Sides (m_place_Graph_l2 l i d) (fun pre => ((pre.length : Int), E ++ edgesD i pre)) (fun pre post => some (if okFrom l i (lastP pre) post then .inl (((i + 1 : Nat) : Int), E ++ edgesD i (pre ++ post)) else .inr (graph0, false))) ?_ ?_)
  · rw [show edgesD i [] = [] from rfl, List.append_nil] at key; exact key
  · intro pre x post h
    have hx := mid_get h
    have hm := mid_len h
    dsimp only [m_place_Graph_l2]
    rw [lt_len hx, ifb_true, at_get hx, Option.bind_some, prev_step h hdl (m_place_Graph_j3 l i pre.length (E ++ edgesD i pre) x)]
    have bad : m_place_Graph_j3 l (i : Int) pre.length (E ++ edgesD i pre) x true = some (.inr (.inr (graph0, false))) := rfl
    by_cases h1 : x.Peer < 0
    · right
      refine ⟨_, by rw [decide_eq_true h1, ifb_true, bad], ?_⟩
      have : sideB l i x = false := by simp [sideB]; omega
      simp [okFrom, this]
    by_cases h2 : (l.length : Int) ≤ x.Peer
    · right
      refine ⟨_, by rw [decide_eq_false h1, ifb_false, ln_eq, decide_eq_true h2, ifb_true, bad], ?_⟩
      have : sideB l i x = false := by simp [sideB]; omega
      simp [okFrom, this]
    by_cases h3 : x.Peer = i
    · right
      refine ⟨_, by rw [decide_eq_false h1, ifb_false, ln_eq, decide_eq_false h2, ifb_false, decide_eq_true h3, ifb_true, bad], ?_⟩
      have : sideB l i x = false := by simp [sideB, h3]
      simp [okFrom, this]
    rw [decide_eq_false h1, ifb_false, ln_eq, decide_eq_false h2, ifb_false, decide_eq_false h3, ifb_false]
    cases h4 : riseB (lastP pre) x with
    | false =>
      right
      exact ⟨_, by rw [Bool.not_false, bad], by simp [okFrom, h4]⟩
    | true =>
      obtain ⟨e, he1, he2⟩ := at_lt (l := l) (i := x.Peer) (by omega) (by omega)
      have hes := hl.2 e (List.mem_iff_getElem?.2 ⟨_, he2⟩)
      have hsb : sideB l i x = (sideO e i).isSome := by
        rw [sideB, decide_eq_true (show 0 ≤ x.Peer by omega), decide_eq_true (show x.Peer < l.length by omega), decide_eq_false h3, he2]; simp
      rw [Bool.not_true]
      dsimp only [m_place_Graph_j3]
      rw [ifb_false, he1, Option.bind_some, s_Side e i (by omega), Option.bind_some]
      cases ho : sideO e i with
      | none =>
        right
        exact ⟨(.inr (graph0, false)), rfl, by rw [ho] at hsb; simp [okFrom, hsb]⟩
      | some y =>
        left
        rw [ho] at hsb
        refine ⟨?_, by simp [okFrom, hsb, h4, lastP_snoc]⟩
        simp only [sideP, Bool.not_true, ifb_false, m_place_Graph_j4]
        rw [edgesD_snoc, len_snoc, wr_succ (by omega)]
        have := edgesD_len i pre
        by_cases h5 : (i : Int) < x.Peer
        · rw [decide_eq_true h5, ifb_true, app_ok _ _ (by omega) (by simp; omega), Option.bind_some]
          simp
        · rw [decide_eq_false h5, ifb_false]; simp
  · dsimp only [m_place_Graph_l2]
    rw [nlt_len, ifb_false, m_place_Graph_j2, wr_succ (by omega)]
    simp [okFrom]
theorem s_Graph (l : List Diner) (hl : fewD l) : m_place_Graph l = some (graphP l) := by
  unfold m_place_Graph
  by_cases h64 : 64 < l.length
  · have : okG ⟨l.length, edgesL 0 l⟩ = false := by simp [okG]; omega
    rw [ln_eq, decide_eq_true (by omega), ifb_true]
    simp [graphP, this, graph0]
  rw [ln_eq, decide_eq_false (by omega), ifb_false]
  refine (loop_pp0 l (m_place_Graph_l1 l) (fun pre => ((pre.length : Int), edgesL 0 pre)) (fun pre post => some (if okAll l pre.length post && okG ⟨l.length, edgesL 0 (pre ++ post)⟩ then (⟨l.length, edgesL 0 (pre ++ post)⟩, true) else (graph0, false))) ?_ ?_).trans rfl
  · intro pre d post h
    have hx := mid_get h
    have hm := mid_len h
    have hd := mid_mem h
    dsimp only [m_place_Graph_l1]
    rw [lt_len hx, ifb_true, at_get hx, Option.bind_some, ifb_not]
    by_cases h1 : d.ID = pre.length
    · rw [decide_eq_true h1, ifb_true, s_Graph2 l hl pre.length d hd (by omega) _ (inner_len hl h)]
      cases h2 : okFrom l pre.length none d.Sides with
      | true => left; exact ⟨by rw [if_pos rfl, len_snoc, edgesL_append]; simp [edgesL], by simp [okAll, h1, h2]⟩
      | false => right; exact ⟨_, rfl, by simp [okAll, h2]⟩
    · right
      exact ⟨_, by rw [decide_eq_false h1, ifb_false]; rfl, by simp [okAll, h1, graph0]⟩
  · dsimp only [m_place_Graph_l1]
    rw [nlt_len, ifb_false, m_place_Graph_j1, ln_eq, s_Check, Option.bind_some]
    simp only [okAll, List.append_nil, Bool.true_and]
    cases okG ⟨l.length, edgesL 0 l⟩ <;> rfl
end NX
end Go.Proofs.Ytadebhbiglmodaa
/-
  Plain laws: which nodes are of a graph. No statement of the seat is proved here.
-/
namespace Go.Proofs.Ytadebhbiglmodaa
namespace NX
open Go
theorem okFrom_iff (l : List Diner) (i : Nat) : ∀ (xs : List Side) (p : Option Int), okFrom l i p xs = true ↔ (∀ x ∈ xs, sideB l i x = true) ∧ xs.Pairwise (fun x y => x.Peer < y.Peer) ∧ ∀ q, p = some q → ∀ x ∈ xs, q < x.Peer
  | [], p => by simp [okFrom]
  | x :: r, p => by
    simp only [okFrom, Bool.and_eq_true, okFrom_iff l i r (some x.Peer)]
    constructor
    · rintro ⟨h1, h2, h3, h4, h5⟩
      refine ⟨fun y hy => ?_, List.pairwise_cons.2 ⟨fun y hy => h5 _ rfl y hy, h4⟩, ?_⟩
      · rcases List.mem_cons.1 hy with rfl | hy
        · exact h2
        · exact h3 y hy
      · rintro q rfl y hy
        have hq : q < x.Peer := by simpa [riseB] using h1
        rcases List.mem_cons.1 hy with rfl | hy
        · exact hq
        · have := h5 _ rfl y hy; omega
    · rintro ⟨h1, h2, h3⟩
      rw [List.pairwise_cons] at h2
      refine ⟨?_, h1 x (by simp), fun y hy => h1 y (by simp [hy]), h2.2, ?_⟩
      · cases p with
        | none => rfl
        | some q => simpa [riseB] using h3 q rfl x (by simp)
      · rintro q e y hy
        simp at e; subst e; exact h2.1 y hy
theorem okAll_iff (l : List Diner) : ∀ (r : List Diner) (i : Nat), okAll l i r = true ↔ ∀ k d, r[k]? = some d → d.ID = ((i + k : Nat) : Int) ∧ okFrom l (i + k) none d.Sides = true
  | [], i => by simp [okAll]
  | d :: r, i => by
    simp only [okAll, Bool.and_eq_true, decide_eq_true_eq, okAll_iff l r (i + 1)]
    constructor
    · rintro ⟨h1, h2, h3⟩ k e he
      cases k with
      | zero => simp at he; subst he; exact ⟨by simpa using h1, by simpa using h2⟩
      | succ k =>
        have := h3 k e (by simpa using he)
        rw [show i + (k + 1) = i + 1 + k by omega]; exact this
    · intro h
      refine ⟨by simpa using (h 0 d (by simp)).1, by simpa using (h 0 d (by simp)).2, fun k e he => ?_⟩
      have := h (k + 1) e (by simpa using he)
      rw [show i + 1 + k = i + (k + 1) by omega]; exact this
theorem mem_edgesD {i : Nat} {xs : List Side} {e : Edge} : e ∈ edgesD i xs ↔ e.A = i ∧ (i : Int) < e.B ∧ ∃ x ∈ xs, x.Peer = e.B := by
  unfold edgesD
  simp only [List.mem_map, List.mem_filter, decide_eq_true_eq]
  constructor
  · rintro ⟨x, ⟨h1, h2⟩, rfl⟩; exact ⟨rfl, h2, x, h1, rfl⟩
  · rintro ⟨h1, h2, x, h3, h4⟩
    obtain ⟨a, b⟩ := e
    dsimp only at *
    subst h1; subst h4; exact ⟨x, ⟨h3, h2⟩, rfl⟩
theorem mem_edgesL : ∀ {r : List Diner} {i : Nat} {e : Edge}, e ∈ edgesL i r ↔ ∃ k d, r[k]? = some d ∧ e ∈ edgesD (i + k) d.Sides
  | [], i, e => by simp [edgesL]
  | d :: r, i, e => by
    simp only [edgesL, List.mem_append, mem_edgesL (r := r)]
    constructor
    · rintro (h | ⟨k, f, h1, h2⟩)
      · exact ⟨0, d, by simp, by simpa using h⟩
      · exact ⟨k + 1, f, by simpa using h1, by rw [show i + (k + 1) = i + 1 + k by omega]; exact h2⟩
    · rintro ⟨k, f, h1, h2⟩
      cases k with
      | zero => simp at h1; subst h1; exact .inl (by simpa using h2)
      | succ k => exact .inr ⟨k, f, by simpa using h1, by rw [show i + 1 + k = i + (k + 1) by omega]; exact h2⟩
theorem edgesD_pw {i : Nat} {xs : List Side} (h : xs.Pairwise fun x y => x.Peer < y.Peer) : (edgesD i xs).Pairwise fun x y => x.lt y = true := by
  unfold edgesD
  rw [List.pairwise_map]
  refine (List.Pairwise.filter _ h).imp fun hxy => ?_
  simp [Edge.lt, hxy]
theorem edgesL_pw : ∀ {r : List Diner} {i : Nat}, (∀ d ∈ r, d.Sides.Pairwise fun x y => x.Peer < y.Peer) → (edgesL i r).Pairwise fun x y => x.lt y = true
  | [], _, _ => List.Pairwise.nil
  | d :: r, i, h => by
    simp only [edgesL]
    rw [List.pairwise_append]
    refine ⟨edgesD_pw (h d (by simp)), edgesL_pw fun e he => h e (by simp [he]), fun x hx y hy => ?_⟩
    obtain ⟨h1, _, _⟩ := mem_edgesD.1 hx
    obtain ⟨k, e, _, hy⟩ := mem_edgesL.1 hy
    obtain ⟨h2, _, _⟩ := mem_edgesD.1 hy
    have : x.A < y.A := by rw [h1, h2]; omega
    simp [Edge.lt, this]
end NX
end Go.Proofs.Ytadebhbiglmodaa
/-
  The function narthex/colour.Right$1: its code compiled, a model, and that the code answers as the model. Written by a program of ours (lb.py). No statement of the seat is proved here.
-/
namespace Go.Proofs.Ytadebhbiglmodaa
namespace NX
open Go
set_option maxRecDepth 100000
set_option maxHeartbeats 4000000
def e83 : EC := .seq (.reg [⟨(some 2), none, .mv (.c .ff)⟩]) (.seq (.reg [⟨(some 3), none, .mv (.t 0)⟩, ⟨(some 4), none, .bin .lss (.t 3) (.c (.iv 1))⟩, ⟨(some 2), none, .mv (.t 4)⟩]) (.ret))
theorem ok83 : FnOK Try.prog 83 Try.f83 e83 [.t 2] 1 4 := ⟨by kernel_rfl, ⟨_, rfl, by kernel_rfl⟩, by kernel_rfl, by kernel_rfl⟩
/- narthex/colour.Right$1 -/
noncomputable def m_colour_Right_1 (x1 : Int) : Option Bool :=
 some (decide (x1 < 1))
theorem k_colour_Right_1 (x1 : Int) (r : Bool) (h : m_colour_Right_1 x1 = some r) : FunP Try.prog 83 [.iv x1] (.bv r) := by
  refine FunP_intro ok83 rfl rfl fun w0 H0 => ?_
  rw [m_colour_Right_1] at h
  refine V_go 10 ?_; dsimp only [e83, go_sem, Nat.reduceBEq, Nat.reduceAdd]; refine ⟨by simp, ?_⟩; exact M_done (res := fun (r : Bool) => .bv r) ok83 h
def f_colour_Right_1 (_F : Nat) (x1 : Int) : Option Bool :=
 some (decide (x1 < 1))
theorem le_colour_Right_1 {F : Nat} {x1 : Int} : ole (f_colour_Right_1 F x1) (m_colour_Right_1 x1) := by
  unfold f_colour_Right_1 m_colour_Right_1
  with_reducible repeat' first | exact ole_refl _ | assumption | intro _ | refine ole_ifb ?_ ?_ | refine ole_bind ?_ ?_ | refine ole_map ?_ | refine ole_loop ?_
end NX
end Go.Proofs.Ytadebhbiglmodaa
/-
  The function narthex/colour.Right$2: its code compiled, a model, and that the code answers as the model. Written by a program of ours (lb.py). No statement of the seat is proved here.
-/
namespace Go.Proofs.Ytadebhbiglmodaa
namespace NX
open Go
set_option maxRecDepth 100000
set_option maxHeartbeats 4000000
def e84 : EC := .seq (.reg [⟨(some 2), none, .box 58 2 (.t 0)⟩, ⟨(some 3), none, .mv (.c .ff)⟩]) (.seq (.drw [⟨(some 4), none, .load (.t 1)⟩, ⟨(some 5), none, .fld 0 (.t 2)⟩, ⟨(some 6), none, .load (.t 5)⟩, ⟨(some 7), none, .idx 1 (.t 4) (.t 6)⟩, ⟨(some 8), none, .load (.t 7)⟩, ⟨(some 9), none, .load (.t 1)⟩, ⟨(some 10), none, .fld 1 (.t 2)⟩, ⟨(some 11), none, .load (.t 10)⟩, ⟨(some 12), none, .idx 1 (.t 9) (.t 11)⟩, ⟨(some 13), none, .load (.t 12)⟩, ⟨(some 14), none, .bin .eql (.t 8) (.t 13)⟩, ⟨(some 3), none, .mv (.t 14)⟩] [[], [], [1], [0, 2], [3], [], [], [6], [5, 7], [8], [4, 9], [10, 0, 1, 2, 3, 4, 5, 6, 7, 8, 9, 10]] [[3], [2], [1, 3], [0, 2, 4], [3, 10], [8], [7], [6, 8], [5, 7, 9], [8, 10], [4, 9, 11], [10]]) (.ret))
theorem ok84 : FnOK Try.prog 84 Try.f84 e84 [.t 3] 2 13 := ⟨by kernel_rfl, ⟨_, rfl, by kernel_rfl⟩, by kernel_rfl, by kernel_rfl⟩
/- narthex/colour.Right$2 -/
noncomputable def m_colour_Right_2 (x1 : Edge) (x2 : (List Int)) : Option Bool :=
 (at_ x2 x1.A).bind fun x3 =>
 (at_ x2 x1.B).bind fun x4 =>
 some (decide (x3 = x4))
theorem k_colour_Right_2 (x1 : Edge) (x2 : (List Int)) (r : Bool) (h : m_colour_Right_2 x1 x2 = some r) : FunP Try.prog 84 [.agg (Edge.row x1), .elt ((slRow 1 intRow) x2) 0] (.bv r) := by
  refine FunP_intro ok84 rfl rfl fun w0 H0 => ?_
  rw [m_colour_Right_2] at h
  refine V_go 6 ?_; dsimp only [e84, go_sem, Nat.reduceBEq, Nat.reduceAdd]; refine ⟨by simp, ?_⟩; refine V_drw (by kernel_rfl) fun all hall hs hnap haf => ?_; dsimp only [go_sem, Nat.reduceBEq, Nat.reduceAdd]; refine G_goE hall hs haf hnap 6 6 [true, true, true, false, false, true, true, true, false, false, false, false] (⟨[.agg [.iv x1.A, .iv x1.B], .elt [.sl 1 (List.map intRow x2)] 0, .ptr 0 0, .ff, .sl 1 (List.map intRow x2), .ptr 0 0, .iv x1.A, .un, .un, .sl 1 (List.map intRow x2), .ptr 0 1, .iv x1.B, .un, .un, .un], [some ⟨58, [.iv x1.A, .iv x1.B]⟩], []⟩ : St) (by kernel_rfl) ?_
  obtain ⟨x3, ex3, h⟩ := Option.bind_eq_some_iff.1 h; refine G_idxM hall hs haf hnap 3 intRow ex3 rfl rfl trivial rfl rfl rfl rfl ?_; refine G_goN hall hs haf hnap 1 4 ?_; dsimp only [go_sem, Nat.reduceBEq, Nat.reduceAdd]; refine ⟨by simp, ?_⟩; obtain ⟨x4, ex4, h⟩ := Option.bind_eq_some_iff.1 h; refine G_idxM hall hs haf hnap 8 intRow ex4 rfl rfl trivial rfl rfl rfl rfl ?_; refine G_goN hall hs haf hnap 3 0 ?_; dsimp only [go_sem, Nat.reduceBEq, Nat.reduceAdd]; refine ⟨by simp, ?_⟩; refine G_done rfl ?_ _; exact M_done (res := fun (r : Bool) => .bv r) ok84 h
def f_colour_Right_2 (_F : Nat) (x1 : Edge) (x2 : (List Int)) : Option Bool :=
 (at_ x2 x1.A).bind fun x3 =>
 (at_ x2 x1.B).bind fun x4 =>
 some (decide (x3 = x4))
theorem le_colour_Right_2 {F : Nat} {x1 : Edge} {x2 : (List Int)} : ole (f_colour_Right_2 F x1 x2) (m_colour_Right_2 x1 x2) := by
  unfold f_colour_Right_2 m_colour_Right_2
  with_reducible repeat' first | exact ole_refl _ | assumption | intro _ | refine ole_ifb ?_ ?_ | refine ole_bind ?_ ?_ | refine ole_map ?_ | refine ole_loop ?_
end NX
end Go.Proofs.Ytadebhbiglmodaa
/-
  The function narthex/colour.Right: its code compiled, a model, and that the code answers as the model. Written by a program of ours (lb.py). No statement of the seat is proved here.
-/
namespace Go.Proofs.Ytadebhbiglmodaa
namespace NX
open Go
set_option maxRecDepth 100000
set_option maxHeartbeats 4000000
def e50 : EC := .seq (.reg [⟨(some 2), none, .box 24 2 (.t 0)⟩, ⟨(some 3), none, .box 25 1 (.t 1)⟩, ⟨(some 4), none, .mv (.c .ff)⟩]) (.seq (.seq (.reg [⟨(some 5), none, .loadA 2 (.t 2)⟩, ⟨(some 6), none, .call 49 [(.t 5)]⟩, ⟨(some 7), none, .bin .neq (.t 6) (.c (.iv 0))⟩, ⟨(some 8), none, .mv (.t 7)⟩, ⟨(some 9), (some (8, false)), .load (.t 3)⟩, ⟨(some 10), (some (8, false)), .len (.t 9)⟩, ⟨(some 11), (some (8, false)), .fld 0 (.t 2)⟩, ⟨(some 12), (some (8, false)), .load (.t 11)⟩, ⟨(some 13), (some (8, false)), .bin .neq (.t 10) (.t 12)⟩, ⟨(some 14), none, .pick (.t 8) (.c .tt) (.t 13)⟩, ⟨(some 15), none, .mv (.t 14)⟩, ⟨(some 16), (some (15, false)), .load (.t 3)⟩, ⟨(some 17), (some (15, false)), .call 82 [(.t 16), (.c (.clo 83 []))]⟩, ⟨(some 18), none, .pick (.t 15) (.c .tt) (.t 17)⟩]) (.ite (.t 18) (.seq (.reg [⟨(some 4), none, .mv (.c .ff)⟩]) (.ret)) (.skip))) (.seq (.reg [⟨(some 19), none, .fld 1 (.t 2)⟩, ⟨(some 20), none, .load (.t 19)⟩, ⟨(some 21), none, .mkf 84 [(.t 3)]⟩, ⟨(some 22), none, .call 80 [(.t 20), (.t 21)]⟩, ⟨(some 23), none, .not (.t 22)⟩, ⟨(some 4), none, .mv (.t 23)⟩]) (.ret)))
theorem ok50 : FnOK Try.prog 50 Try.f50 e50 [.t 4] 2 22 := ⟨by kernel_rfl, ⟨_, rfl, by kernel_rfl⟩, by kernel_rfl, by kernel_rfl⟩
/- narthex/colour.Right -/
noncomputable def m_colour_Right_j1 (x1 : Graph) (x2 : (List Int)) : Bool → Option Bool
| x5 =>
 ifb x5 (
 some false) (
 (m_slices_ContainsFunc_Edge x1.Edges ((fun z => m_colour_Right_2 z x2))).bind fun x6 =>
 some (!x6))
noncomputable def m_colour_Right (x1 : Graph) (x2 : (List Int)) : Option Bool :=
 (m_graph_Check x1).bind fun x3 =>
 ifb (!decide (x3 = 0)) (
 (m_colour_Right_j1 x1 x2) true) (
 ifb (!decide ((ln intRow x2) = x1.N)) (
 (m_colour_Right_j1 x1 x2) true) (
 (m_slices_ContainsFunc_int x2 ((fun z => m_colour_Right_1 z))).bind fun x4 =>
 (m_colour_Right_j1 x1 x2) x4))
theorem k_colour_Right (x1 : Graph) (x2 : (List Int)) (r : Bool) (h : m_colour_Right x1 x2 = some r) : FunP Try.prog 50 [.agg (Graph.row x1), .sl 1 (List.map intRow x2)] (.bv r) := by
  refine FunP_intro ok50 rfl rfl fun w0 H0 => ?_
  rw [m_colour_Right] at h
  refine V_go 10 ?_; dsimp only [e50, go_sem, Nat.reduceBEq, Nat.reduceAdd]; refine ⟨by simp, ?_⟩; obtain ⟨x3, ex3, h⟩ := Option.bind_eq_some_iff.1 h; refine V_call trivial (k_graph_Check x1 _ ex3) (h := ?_); refine V_go 2 ?_; dsimp only [e50, go_sem, Nat.reduceBEq, Nat.reduceAdd]; refine ⟨by simp, ?_⟩; refine V_join (fun (x5 : Bool) => (⟨(.any :: .any :: .ptr 0 0 :: .ptr 1 0 :: an 14 (.bv x5 :: an 5 [])), [some ⟨24, [.iv x1.N, .sl 2 (List.map Edge.row x1.Edges)]⟩, some ⟨25, [.sl 1 (List.map intRow x2)]⟩], []⟩ : St)) (m_colour_Right_j1 x1 x2) r ?_ fun J1 => ?_
  ·intro x5 h; rw [m_colour_Right_j1] at h; (try dsimp only); refine M_ite h rfl (fun _ h => ?_) fun _ h => ?_
   ·refine V_go 4 ?_; dsimp only [e50, go_sem, Nat.reduceBEq, Nat.reduceAdd]; refine ⟨by simp, ?_⟩; exact M_done (res := fun (r : Bool) => .bv r) ok50 h
   ·refine V_go 6 ?_; dsimp only [e50, go_sem, Nat.reduceBEq, Nat.reduceAdd]; refine ⟨by simp, ?_⟩; obtain ⟨x6, ex6, h⟩ := Option.bind_eq_some_iff.1 h; refine V_callL trivial ((Lend.refl _).block 1 rfl rfl) (k_slices_ContainsFunc_Edge x1.Edges _ _ ((fun z => m_colour_Right_2 z x2)) ⟨by kernel_rfl, rfl, fun z r hz => k_colour_Right_2 z x2 r hz⟩ _ ex6) (h := ?_); refine V_go 3 ?_; dsimp only [e50, go_sem, Nat.reduceBEq, Nat.reduceAdd]; refine ⟨by simp, ?_⟩; exact M_done (res := fun (r : Bool) => .bv r) ok50 h
  ·refine M_case 8 h rfl (fun _ h => ?_) fun _ h => ?_
   ·dsimp only [go_sem, Nat.reduceBEq, Nat.reduceAdd]; refine V_go 11 ?_; dsimp only [e50, go_sem, Nat.reduceBEq, Nat.reduceAdd]; refine ⟨by simp, ?_⟩; exact M_to J1 (s := true) h
   ·dsimp only [go_sem, Nat.reduceBEq, Nat.reduceAdd]; refine V_go 7 ?_; dsimp only [e50, go_sem, Nat.reduceBEq, Nat.reduceAdd]; refine ⟨by simp, ?_⟩; refine M_case 15 h rfl (fun _ h => ?_) fun _ h => ?_
    ·dsimp only [go_sem, Nat.reduceBEq, Nat.reduceAdd]; refine V_go 4 ?_; dsimp only [e50, go_sem, Nat.reduceBEq, Nat.reduceAdd]; refine ⟨by simp, ?_⟩; exact M_to J1 (s := true) h
    ·dsimp only [go_sem, Nat.reduceBEq, Nat.reduceAdd]; refine V_go 1 ?_; dsimp only [e50, go_sem, Nat.reduceBEq, Nat.reduceAdd]; refine ⟨by simp, ?_⟩; obtain ⟨x4, ex4, h⟩ := Option.bind_eq_some_iff.1 h; refine V_call trivial (k_slices_ContainsFunc_int x2 _ _ ((fun z => m_colour_Right_1 z)) ⟨by kernel_rfl, rfl, fun z r hz => k_colour_Right_1 z r hz⟩ _ ex4) (h := ?_); refine V_go 2 ?_; dsimp only [e50, go_sem, Nat.reduceBEq, Nat.reduceAdd]; refine ⟨by simp, ?_⟩; exact M_to J1 (s := x4) h
def f_colour_Right_j1 (F : Nat) (x1 : Graph) (x2 : (List Int)) : Bool → Option Bool
| x5 =>
 ifb x5 (
 some false) (
 (f_slices_ContainsFunc_Edge F x1.Edges ((fun z => f_colour_Right_2 F z x2))).bind fun x6 =>
 some (!x6))
theorem le_colour_Right_j1 {F : Nat} {x1 : Graph} {x2 : (List Int)} : ∀ s, ole (f_colour_Right_j1 F x1 x2 s) (m_colour_Right_j1 x1 x2 s) := by
  intro x5
  unfold f_colour_Right_j1 m_colour_Right_j1
  try dsimp only
  with_reducible repeat' first | exact ole_refl _ | assumption | intro _ | refine ole_ifb ?_ ?_ | refine ole_bind ?_ ?_ | refine ole_map ?_ | refine ole_loop ?_ | apply le_slices_ContainsFunc_Edge | apply le_colour_Right_2
def f_colour_Right (F : Nat) (x1 : Graph) (x2 : (List Int)) : Option Bool :=
 (f_graph_Check F x1).bind fun x3 =>
 ifb (!decide (x3 = 0)) (
 (f_colour_Right_j1 F x1 x2) true) (
 ifb (!decide ((ln intRow x2) = x1.N)) (
 (f_colour_Right_j1 F x1 x2) true) (
 (f_slices_ContainsFunc_int F x2 ((fun z => f_colour_Right_1 F z))).bind fun x4 =>
 (f_colour_Right_j1 F x1 x2) x4))
theorem le_colour_Right {F : Nat} {x1 : Graph} {x2 : (List Int)} : ole (f_colour_Right F x1 x2) (m_colour_Right x1 x2) := by
  unfold f_colour_Right m_colour_Right
  with_reducible repeat' first | exact ole_refl _ | assumption | intro _ | refine ole_ifb ?_ ?_ | refine ole_bind ?_ ?_ | refine ole_map ?_ | refine ole_loop ?_ | apply le_slices_ContainsFunc_Edge | apply le_colour_Right_2 | apply le_colour_Right_j1 | apply le_graph_Check | apply le_slices_ContainsFunc_int | apply le_colour_Right_1
end NX
end Go.Proofs.Ytadebhbiglmodaa
/-
  The function narthex/narthexref03.ahead: its code compiled, a model, and that the code answers as the model. Written by a program of ours (lb.py). No statement of the seat is proved here.
-/
namespace Go.Proofs.Ytadebhbiglmodaa
namespace NX
open Go
set_option maxRecDepth 100000
set_option maxHeartbeats 4000000
def e52 : EC := .seq (.reg [⟨(some 2), none, .box 58 2 (.t 0)⟩, ⟨(some 3), none, .box 58 2 (.t 1)⟩, ⟨(some 4), none, .mv (.c .ff)⟩]) (.seq (.reg [⟨(some 5), none, .fld 0 (.t 2)⟩, ⟨(some 6), none, .load (.t 5)⟩, ⟨(some 7), none, .fld 0 (.t 3)⟩, ⟨(some 8), none, .load (.t 7)⟩, ⟨(some 9), none, .bin .lss (.t 6) (.t 8)⟩, ⟨(some 10), none, .mv (.t 9)⟩, ⟨(some 11), (some (10, false)), .fld 0 (.t 2)⟩, ⟨(some 12), (some (10, false)), .load (.t 11)⟩, ⟨(some 13), (some (10, false)), .fld 0 (.t 3)⟩, ⟨(some 14), (some (10, false)), .load (.t 13)⟩, ⟨(some 15), (some (10, false)), .bin .eql (.t 12) (.t 14)⟩, ⟨(some 16), (some (10, false)), .mv (.t 15)⟩, ⟨(some 17), (some (16, true)), .fld 1 (.t 2)⟩, ⟨(some 18), (some (16, true)), .load (.t 17)⟩, ⟨(some 19), (some (16, true)), .fld 1 (.t 3)⟩, ⟨(some 20), (some (16, true)), .load (.t 19)⟩, ⟨(some 21), (some (16, true)), .bin .lss (.t 18) (.t 20)⟩, ⟨(some 22), (some (10, false)), .pick (.t 16) (.t 21) (.c .ff)⟩, ⟨(some 23), none, .pick (.t 10) (.c .tt) (.t 22)⟩, ⟨(some 4), none, .mv (.t 23)⟩]) (.ret))
theorem ok52 : FnOK Try.prog 52 Try.f52 e52 [.t 4] 2 22 := ⟨by kernel_rfl, ⟨_, rfl, by kernel_rfl⟩, by kernel_rfl, by kernel_rfl⟩
/- narthex/narthexref03.ahead -/
noncomputable def m_narthexref03_ahead_j1  : Bool → Option Bool
| x3 =>
 some x3
noncomputable def m_narthexref03_ahead (x1 : Edge) (x2 : Edge) : Option Bool :=
 ifb (decide (x1.A < x2.A)) (
 m_narthexref03_ahead_j1 true) (
 ifb (decide (x1.A = x2.A)) (
 m_narthexref03_ahead_j1 (decide (x1.B < x2.B))) (
 m_narthexref03_ahead_j1 false))
theorem k_narthexref03_ahead (x1 : Edge) (x2 : Edge) (r : Bool) (h : m_narthexref03_ahead x1 x2 = some r) : FunP Try.prog 52 [.agg (Edge.row x1), .agg (Edge.row x2)] (.bv r) := by
  refine FunP_intro ok52 rfl rfl fun w0 H0 => ?_
  rw [m_narthexref03_ahead] at h
  refine V_go 14 ?_; dsimp only [e52, go_sem, Nat.reduceBEq, Nat.reduceAdd]; refine ⟨by simp, ?_⟩; refine V_join (fun (x3 : Bool) => (⟨(an 4 (.bv x3 :: an 19 [])), [], []⟩ : St)) m_narthexref03_ahead_j1 r ?_ fun J1 => ?_
  ·intro x3 h; rw [m_narthexref03_ahead_j1] at h; (try dsimp only); exact M_done (res := fun (r : Bool) => .bv r) ok52 h
  ·refine M_case 10 h rfl (fun _ h => ?_) fun _ h => ?_
   ·dsimp only [go_sem, Nat.reduceBEq, Nat.reduceAdd]; refine V_go 15 ?_; dsimp only [e52, go_sem, Nat.reduceBEq, Nat.reduceAdd]; refine ⟨by simp, ?_⟩; exact M_to J1 (s := true) h
   ·dsimp only [go_sem, Nat.reduceBEq, Nat.reduceAdd]; refine V_go 6 ?_; dsimp only [e52, go_sem, Nat.reduceBEq, Nat.reduceAdd]; refine ⟨by simp, ?_⟩; refine M_case 16 h rfl (fun _ h => ?_) fun _ h => ?_
    ·dsimp only [go_sem, Nat.reduceBEq, Nat.reduceAdd]; refine V_go 9 ?_; dsimp only [e52, go_sem, Nat.reduceBEq, Nat.reduceAdd]; refine ⟨by simp, ?_⟩; exact M_to J1 (s := decide (x1.B < x2.B)) h
    ·dsimp only [go_sem, Nat.reduceBEq, Nat.reduceAdd]; refine V_go 9 ?_; dsimp only [e52, go_sem, Nat.reduceBEq, Nat.reduceAdd]; refine ⟨by simp, ?_⟩; exact M_to J1 (s := false) h
end NX
end Go.Proofs.Ytadebhbiglmodaa
/-
  The function narthex/narthexref03.Check: its code compiled, a model, and that the code answers as the model. Written by a program of ours (lb.py). No statement of the seat is proved here.
-/
namespace Go.Proofs.Ytadebhbiglmodaa
namespace NX
open Go
set_option maxRecDepth 100000
set_option maxHeartbeats 4000000
def e16_L0 : EC := .seq (.seq (.reg [⟨(some 19), none, .mv (.t 3)⟩, ⟨(some 20), none, .fld 1 (.t 1)⟩, ⟨(some 21), none, .load (.t 20)⟩, ⟨(some 22), none, .len (.t 21)⟩, ⟨(some 23), none, .bin .lss (.t 19) (.t 22)⟩]) (.ite (.t 23) (.skip) (.exit 0))) (.seq (.blk 1 (.seq (.reg [⟨(some 26), none, .fld 1 (.t 1)⟩, ⟨(some 27), none, .load (.t 26)⟩, ⟨(some 28), none, .mv (.t 3)⟩, ⟨(some 29), none, .idx 2 (.t 27) (.t 28)⟩, ⟨(some 30), none, .loadA 2 (.t 29)⟩, ⟨(some 4), none, .alloc 58 [.iv 0, .iv 0]⟩, ⟨none, none, .store 2 (.t 4) (.t 30)⟩]) (.seq (.drw [⟨(some 31), none, .fld 0 (.t 4)⟩, ⟨(some 32), none, .load (.t 31)⟩, ⟨(some 33), none, .bin .lss (.t 32) (.c (.iv 0))⟩, ⟨(some 34), none, .mv (.t 33)⟩, ⟨(some 35), (some (34, false)), .fld 0 (.t 4)⟩, ⟨(some 36), (some (34, false)), .load (.t 35)⟩, ⟨(some 37), (some (34, false)), .fld 1 (.t 4)⟩, ⟨(some 38), (some (34, false)), .load (.t 37)⟩, ⟨(some 39), (some (34, false)), .bin .geq (.t 36) (.t 38)⟩, ⟨(some 40), none, .pick (.t 34) (.c .tt) (.t 39)⟩, ⟨(some 41), none, .mv (.t 40)⟩, ⟨(some 42), (some (41, false)), .fld 1 (.t 4)⟩, ⟨(some 43), (some (41, false)), .load (.t 42)⟩, ⟨(some 44), (some (41, false)), .fld 0 (.t 1)⟩, ⟨(some 45), (some (41, false)), .load (.t 44)⟩, ⟨(some 46), (some (41, false)), .bin .geq (.t 43) (.t 45)⟩, ⟨(some 47), none, .pick (.t 41) (.c .tt) (.t 46)⟩, ⟨(some 48), none, .mv (.t 47)⟩, ⟨(some 49), (some (48, false)), .mv (.t 3)⟩, ⟨(some 50), (some (48, false)), .bin .gtr (.t 49) (.c (.iv 0))⟩, ⟨(some 51), (some (48, false)), .mv (.t 50)⟩, ⟨(some 52), (some (51, true)), .fld 1 (.t 1)⟩, ⟨(some 53), (some (51, true)), .load (.t 52)⟩, ⟨(some 54), (some (51, true)), .mv (.t 3)⟩, ⟨(some 55), (some (51, true)), .bin .sub (.t 54) (.c (.iv 1))⟩, ⟨(some 56), (some (51, true)), .idx 2 (.t 53) (.t 55)⟩, ⟨(some 57), (some (51, true)), .loadA 2 (.t 56)⟩, ⟨(some 58), (some (51, true)), .loadA 2 (.t 4)⟩, ⟨(some 59), (some (51, true)), .call 52 [(.t 57), (.t 58)]⟩, ⟨(some 60), (some (51, true)), .not (.t 59)⟩, ⟨(some 61), (some (48, false)), .pick (.t 51) (.t 60) (.c .ff)⟩, ⟨(some 62), none, .pick (.t 48) (.c .tt) (.t 61)⟩] [[], [0], [1], [2], [3], [4, 3], [3], [6, 3], [5, 7, 3], [3, 8], [9, 3], [10], [11, 10], [10], [13, 10], [12, 14, 10], [10, 15], [16, 10], [17], [18, 17], [19, 17, 17], [20], [21, 20], [20], [23, 20], [22, 24, 20], [25, 20], [20], [26, 27, 20, 20], [28, 20], [20, 29, 17], [17, 30]] [[1], [0, 2], [1, 3], [2, 4, 5, 6, 7, 8, 9], [3, 5], [3, 4, 8], [3, 7], [3, 6, 8], [3, 5, 7, 9], [3, 8, 10], [9, 11, 12, 13, 14, 15, 16], [10, 12], [10, 11, 15], [10, 14], [10, 13, 15], [10, 12, 14, 16], [10, 15, 17], [16, 18, 19, 20, 30, 31], [17, 19], [17, 18, 20], [17, 19, 21, 22, 23, 24, 25, 26, 27, 28, 29, 30], [20, 22], [20, 21, 25], [20, 24], [20, 23, 25], [20, 22, 24, 26], [20, 25, 28], [20, 28], [20, 26, 27, 29], [20, 28, 30], [17, 20, 29, 31], [17, 30]]) (.ite (.t 62) (.seq (.reg [⟨(some 2), none, .mv (.c .ff)⟩]) (.ret)) (.skip))))) (.reg [⟨(some 24), none, .mv (.t 3)⟩, ⟨(some 25), none, .bin .add (.t 24) (.c (.iv 1))⟩, ⟨(some 3), none, .mv (.t 25)⟩]))
def e16 : EC := .seq (.reg [⟨(some 1), none, .box 24 2 (.t 0)⟩, ⟨(some 2), none, .mv (.c .ff)⟩]) (.seq (.seq (.reg [⟨(some 5), none, .fld 0 (.t 1)⟩, ⟨(some 6), none, .load (.t 5)⟩, ⟨(some 7), none, .bin .lss (.t 6) (.c (.iv 0))⟩, ⟨(some 8), none, .mv (.t 7)⟩, ⟨(some 9), (some (8, false)), .fld 0 (.t 1)⟩, ⟨(some 10), (some (8, false)), .load (.t 9)⟩, ⟨(some 11), (some (8, false)), .bin .gtr (.t 10) (.c (.iv 64))⟩, ⟨(some 12), none, .pick (.t 8) (.c .tt) (.t 11)⟩, ⟨(some 13), none, .mv (.t 12)⟩, ⟨(some 14), (some (13, false)), .fld 1 (.t 1)⟩, ⟨(some 15), (some (13, false)), .load (.t 14)⟩, ⟨(some 16), (some (13, false)), .len (.t 15)⟩, ⟨(some 17), (some (13, false)), .bin .gtr (.t 16) (.c (.iv 400))⟩, ⟨(some 18), none, .pick (.t 13) (.c .tt) (.t 17)⟩]) (.ite (.t 18) (.seq (.reg [⟨(some 2), none, .mv (.c .ff)⟩]) (.ret)) (.skip))) (.seq (.seq (.reg [⟨(some 3), none, .mv (.c (.iv 0))⟩]) (.blk 0 (.loop e16_L0))) (.seq (.reg [⟨(some 2), none, .mv (.c .tt)⟩]) (.ret))))
theorem ok16 : FnOK Try.prog 16 Try.f16 e16 [.t 2] 1 62 := ⟨by kernel_rfl, ⟨_, rfl, by kernel_rfl⟩, by kernel_rfl, by kernel_rfl⟩
/- narthex/narthexref03.Check -/
noncomputable def m_narthexref03_Check_j2  : Unit → Option Bool
| () =>
 some true
noncomputable def m_narthexref03_Check_j3 (x8 : Int) : Bool → Option (Int ⊕ Bool)
| x12 =>
 ifb x12 (
 Option.map Sum.inr (some false)) (
 some (.inl (wr (x8 + 1))))
noncomputable def m_narthexref03_Check_l1 (x1 : Graph) : Int → Option (Int ⊕ Bool)
| x8 =>
 ifb (decide (x8 < (ln Edge.row x1.Edges))) (
 (at_ x1.Edges x8).bind fun x9 =>
 ifb (decide (x9.A < 0)) (
 (m_narthexref03_Check_j3 x8) true) (
 ifb (decide (x9.B ≤ x9.A)) (
 (m_narthexref03_Check_j3 x8) true) (
 ifb (decide (x1.N ≤ x9.B)) (
 (m_narthexref03_Check_j3 x8) true) (
 ifb (decide (0 < x8)) (
 (at_ x1.Edges (wr (x8 - 1))).bind fun x10 =>
 (m_narthexref03_ahead x10 x9).bind fun x11 =>
 (m_narthexref03_Check_j3 x8) (!x11)) (
 (m_narthexref03_Check_j3 x8) false))))) (
 Option.map Sum.inr (m_narthexref03_Check_j2 ()))
noncomputable def m_narthexref03_Check_j1 (x1 : Graph) : Bool → Option Bool
| x2 =>
 ifb x2 (
 some false) (
 loop (m_narthexref03_Check_l1 x1) 0)
noncomputable def m_narthexref03_Check (x1 : Graph) : Option Bool :=
 ifb (decide (x1.N < 0)) (
 (m_narthexref03_Check_j1 x1) true) (
 ifb (decide (64 < x1.N)) (
 (m_narthexref03_Check_j1 x1) true) (
 (m_narthexref03_Check_j1 x1) (decide (400 < (ln Edge.row x1.Edges)))))
theorem k_narthexref03_Check (x1 : Graph) (r : Bool) (h : m_narthexref03_Check x1 = some r) : FunP Try.prog 16 [.agg (Graph.row x1)] (.bv r) := by
  refine FunP_intro ok16 rfl rfl fun w0 H0 => ?_
  rw [m_narthexref03_Check] at h
  refine V_go 12 ?_; dsimp only [e16, e16_L0, go_sem, Nat.reduceBEq, Nat.reduceAdd]; refine ⟨by simp, ?_⟩; refine V_join (fun (x2 : Bool) => (⟨(.any :: .ptr 0 0 :: an 16 (.bv x2 :: an 44 [])), [some ⟨24, [.iv x1.N, .sl 2 (List.map Edge.row x1.Edges)]⟩], []⟩ : St)) (m_narthexref03_Check_j1 x1) r ?_ fun J1 => ?_
  ·intro x2 h; rw [m_narthexref03_Check_j1] at h; (try dsimp only); refine M_ite h rfl (fun _ h => ?_) fun _ h => ?_
   ·refine V_go 4 ?_; dsimp only [e16, e16_L0, go_sem, Nat.reduceBEq, Nat.reduceAdd]; refine ⟨by simp, ?_⟩; exact M_done (res := fun (r : Bool) => .bv r) ok16 h
   ·refine V_go 6 ?_; dsimp only [e16, e16_L0, go_sem, Nat.reduceBEq, Nat.reduceAdd]; refine ⟨by simp, ?_⟩; refine V_join (fun (_ : Unit) => (⟨(an 63 []), [], []⟩ : St)) m_narthexref03_Check_j2 r ?_ fun J2 => ?_
    ·rintro ⟨⟩ h; rw [m_narthexref03_Check_j2] at h; (try dsimp only); refine V_go 4 ?_; dsimp only [e16, e16_L0, go_sem, Nat.reduceBEq, Nat.reduceAdd]; refine ⟨by simp, ?_⟩; exact M_done (res := fun (r : Bool) => .bv r) ok16 h
    ·refine V_go 1 ?_; dsimp only [e16, e16_L0, go_sem, Nat.reduceBEq, Nat.reduceAdd]; refine ⟨by simp, ?_⟩; refine M_loop h (fun (x8 : Int) => (⟨(.any :: .ptr 0 0 :: .any :: .iv x8 :: an 59 []), [some ⟨24, [.iv x1.N, .sl 2 (List.map Edge.row x1.Edges)]⟩], []⟩ : St)) (by simp [go_sem]) (by intro x8; first | rfl | simp [go_sem]) ?_; rintro n1 x8 y1 h hin1 hout1; rw [m_narthexref03_Check_l1] at h; (try dsimp only); refine V_go 9 ?_; dsimp only [e16, e16_L0, go_sem, Nat.reduceBEq, Nat.reduceAdd]; refine ⟨by simp, ?_⟩; refine M_ite h rfl (fun _ h => ?_) fun _ h => ?_
     ·refine V_go 8 ?_; dsimp only [e16, e16_L0, go_sem, Nat.reduceBEq, Nat.reduceAdd]; refine ⟨by simp, ?_⟩; obtain ⟨x9, ex9, h⟩ := Option.bind_eq_some_iff.1 h; refine V_idxM Edge.row ex9 trivial rfl rfl rfl ?_; refine V_go 5 ?_; dsimp only [e16, e16_L0, go_sem, Nat.reduceBEq, Nat.reduceAdd]; refine ⟨by simp, ?_⟩; refine V_join (fun (x12 : Bool) => (⟨(.any :: .ptr 0 0 :: .any :: .iv x8 :: an 58 [.bv x12]), [some ⟨24, [.iv x1.N, .sl 2 (List.map Edge.row x1.Edges)]⟩], []⟩ : St)) (m_narthexref03_Check_j3 x8) y1 ?_ fun J3 => ?_
      ·intro x12 h; rw [m_narthexref03_Check_j3] at h; (try dsimp only); refine M_ite h rfl (fun _ h => ?_) fun _ h => ?_
       ·refine V_go 4 ?_; dsimp only [e16, e16_L0, go_sem, Nat.reduceBEq, Nat.reduceAdd]; refine ⟨by simp, ?_⟩; exact M_done (res := fun (r : Bool) => .bv r) ok16 (M_out h hout1)
       ·refine V_go 7 ?_; dsimp only [e16, e16_L0, go_sem, Nat.reduceBEq, Nat.reduceAdd]; refine ⟨by simp, ?_⟩; exact M_back h hin1
      ·refine V_drw (by kernel_rfl) fun all hall hs hnap haf => ?_; dsimp only [go_sem, Nat.reduceBEq, Nat.reduceAdd]
       refine G_goE hall hs haf hnap 4 28 [true, true, true, true, false, false, false, false, false, false, false, false, false, false, false, false, false, false, false, false, false, false, false, false, false, false, false, false, false, false, false, false] (⟨(.any :: .ptr 0 0 :: .any :: .iv x8 :: .ptr 1 0 :: an 14 (.iv x8 :: .ptr 0 1 :: .sl 2 (List.map Edge.row x1.Edges) :: .iv (ln Edge.row x1.Edges) :: .bv (decide (x8 < (ln Edge.row x1.Edges))) :: .any :: .any :: .ptr 0 1 :: .sl 2 (List.map Edge.row x1.Edges) :: .iv x8 :: .elt [.iv x9.A, .iv x9.B] 0 :: .agg [.iv x9.A, .iv x9.B] :: .ptr 1 0 :: .iv x9.A :: .bv (decide (x9.A < 0)) :: .bv (decide (x9.A < 0)) :: an 28 [])), [some ⟨24, [.iv x1.N, .sl 2 (List.map Edge.row x1.Edges)]⟩, some ⟨58, [.iv x9.A, .iv x9.B]⟩], []⟩ : St) (by kernel_rfl) ?_
       refine GM_case 34 h rfl (fun _ h => ?_) fun _ h => ?_
       ·dsimp only [go_sem, Nat.reduceBEq, Nat.reduceAdd]
        refine G_goE hall hs haf hnap 28 0 [true, true, true, true, true, true, true, true, true, true, true, true, true, true, true, true, true, true, true, true, true, true, true, true, true, true, true, true, true, true, true, true] (⟨(.any :: .ptr 0 0 :: .any :: .iv x8 :: .ptr 1 0 :: an 14 (.iv x8 :: .ptr 0 1 :: .sl 2 (List.map Edge.row x1.Edges) :: .iv (ln Edge.row x1.Edges) :: .bv (decide (x8 < (ln Edge.row x1.Edges))) :: .any :: .any :: .ptr 0 1 :: .sl 2 (List.map Edge.row x1.Edges) :: .iv x8 :: .elt [.iv x9.A, .iv x9.B] 0 :: .agg [.iv x9.A, .iv x9.B] :: .ptr 1 0 :: .iv x9.A :: .bv (decide (x9.A < 0)) :: .tt :: .un :: .un :: .un :: .un :: .un :: .tt :: .tt :: .un :: .un :: .un :: .un :: .un :: .tt :: .tt :: .un :: .un :: .un :: .un :: .un :: .un :: .un :: .un :: .un :: .un :: .un :: .un :: .un :: .tt :: [])), [some ⟨24, [.iv x1.N, .sl 2 (List.map Edge.row x1.Edges)]⟩, some ⟨58, [.iv x9.A, .iv x9.B]⟩], []⟩ : St) (by kernel_rfl) ?_
        refine G_done rfl ?_ _; exact M_to J3 (s := true) h
       ·dsimp only [go_sem, Nat.reduceBEq, Nat.reduceAdd]
        refine G_goE hall hs haf hnap 7 21 [true, true, true, true, true, true, true, true, true, true, true, false, false, false, false, false, false, false, false, false, false, false, false, false, false, false, false, false, false, false, false, false] (⟨(.any :: .ptr 0 0 :: .any :: .iv x8 :: .ptr 1 0 :: an 14 (.iv x8 :: .ptr 0 1 :: .sl 2 (List.map Edge.row x1.Edges) :: .iv (ln Edge.row x1.Edges) :: .bv (decide (x8 < (ln Edge.row x1.Edges))) :: .any :: .any :: .ptr 0 1 :: .sl 2 (List.map Edge.row x1.Edges) :: .iv x8 :: .elt [.iv x9.A, .iv x9.B] 0 :: .agg [.iv x9.A, .iv x9.B] :: .ptr 1 0 :: .iv x9.A :: .bv (decide (x9.A < 0)) :: .ff :: .ptr 1 0 :: .iv x9.A :: .ptr 1 1 :: .iv x9.B :: .bv (decide (x9.B ≤ x9.A)) :: .bv (decide (x9.B ≤ x9.A)) :: .bv (decide (x9.B ≤ x9.A)) :: an 21 [])), [some ⟨24, [.iv x1.N, .sl 2 (List.map Edge.row x1.Edges)]⟩, some ⟨58, [.iv x9.A, .iv x9.B]⟩], []⟩ : St) (by kernel_rfl) ?_
        refine GM_case 41 h rfl (fun _ h => ?_) fun _ h => ?_
        ·dsimp only [go_sem, Nat.reduceBEq, Nat.reduceAdd]
         refine G_goE hall hs haf hnap 21 0 [true, true, true, true, true, true, true, true, true, true, true, true, true, true, true, true, true, true, true, true, true, true, true, true, true, true, true, true, true, true, true, true] (⟨(.any :: .ptr 0 0 :: .any :: .iv x8 :: .ptr 1 0 :: an 14 (.iv x8 :: .ptr 0 1 :: .sl 2 (List.map Edge.row x1.Edges) :: .iv (ln Edge.row x1.Edges) :: .bv (decide (x8 < (ln Edge.row x1.Edges))) :: .any :: .any :: .ptr 0 1 :: .sl 2 (List.map Edge.row x1.Edges) :: .iv x8 :: .elt [.iv x9.A, .iv x9.B] 0 :: .agg [.iv x9.A, .iv x9.B] :: .ptr 1 0 :: .iv x9.A :: .bv (decide (x9.A < 0)) :: .ff :: .ptr 1 0 :: .iv x9.A :: .ptr 1 1 :: .iv x9.B :: .bv (decide (x9.B ≤ x9.A)) :: .bv (decide (x9.B ≤ x9.A)) :: .tt :: .un :: .un :: .un :: .un :: .un :: .tt :: .tt :: .un :: .un :: .un :: .un :: .un :: .un :: .un :: .un :: .un :: .un :: .un :: .un :: .un :: .tt :: [])), [some ⟨24, [.iv x1.N, .sl 2 (List.map Edge.row x1.Edges)]⟩, some ⟨58, [.iv x9.A, .iv x9.B]⟩], []⟩ : St) (by kernel_rfl) ?_
         refine G_done rfl ?_ _; exact M_to J3 (s := true) h
        ·dsimp only [go_sem, Nat.reduceBEq, Nat.reduceAdd]
         refine G_goE hall hs haf hnap 7 14 [true, true, true, true, true, true, true, true, true, true, true, true, true, true, true, true, true, true, false, false, false, false, false, false, false, false, false, false, false, false, false, false] (⟨(.any :: .ptr 0 0 :: .any :: .iv x8 :: .ptr 1 0 :: an 14 (.iv x8 :: .ptr 0 1 :: .sl 2 (List.map Edge.row x1.Edges) :: .iv (ln Edge.row x1.Edges) :: .bv (decide (x8 < (ln Edge.row x1.Edges))) :: .any :: .any :: .ptr 0 1 :: .sl 2 (List.map Edge.row x1.Edges) :: .iv x8 :: .elt [.iv x9.A, .iv x9.B] 0 :: .agg [.iv x9.A, .iv x9.B] :: .ptr 1 0 :: .iv x9.A :: .bv (decide (x9.A < 0)) :: .ff :: .ptr 1 0 :: .iv x9.A :: .ptr 1 1 :: .iv x9.B :: .bv (decide (x9.B ≤ x9.A)) :: .bv (decide (x9.B ≤ x9.A)) :: .ff :: .ptr 1 1 :: .iv x9.B :: .ptr 0 0 :: .iv x1.N :: .bv (decide (x1.N ≤ x9.B)) :: .bv (decide (x1.N ≤ x9.B)) :: .bv (decide (x1.N ≤ x9.B)) :: an 14 [])), [some ⟨24, [.iv x1.N, .sl 2 (List.map Edge.row x1.Edges)]⟩, some ⟨58, [.iv x9.A, .iv x9.B]⟩], []⟩ : St) (by kernel_rfl) ?_
         refine GM_case 48 h rfl (fun _ h => ?_) fun _ h => ?_
         ·dsimp only [go_sem, Nat.reduceBEq, Nat.reduceAdd]
          refine G_goE hall hs haf hnap 14 0 [true, true, true, true, true, true, true, true, true, true, true, true, true, true, true, true, true, true, true, true, true, true, true, true, true, true, true, true, true, true, true, true] (⟨(.any :: .ptr 0 0 :: .any :: .iv x8 :: .ptr 1 0 :: an 14 (.iv x8 :: .ptr 0 1 :: .sl 2 (List.map Edge.row x1.Edges) :: .iv (ln Edge.row x1.Edges) :: .bv (decide (x8 < (ln Edge.row x1.Edges))) :: .any :: .any :: .ptr 0 1 :: .sl 2 (List.map Edge.row x1.Edges) :: .iv x8 :: .elt [.iv x9.A, .iv x9.B] 0 :: .agg [.iv x9.A, .iv x9.B] :: .ptr 1 0 :: .iv x9.A :: .bv (decide (x9.A < 0)) :: .ff :: .ptr 1 0 :: .iv x9.A :: .ptr 1 1 :: .iv x9.B :: .bv (decide (x9.B ≤ x9.A)) :: .bv (decide (x9.B ≤ x9.A)) :: .ff :: .ptr 1 1 :: .iv x9.B :: .ptr 0 0 :: .iv x1.N :: .bv (decide (x1.N ≤ x9.B)) :: .bv (decide (x1.N ≤ x9.B)) :: .tt :: .un :: .un :: .un :: .un :: .un :: .un :: .un :: .un :: .un :: .un :: .un :: .un :: .un :: .tt :: [])), [some ⟨24, [.iv x1.N, .sl 2 (List.map Edge.row x1.Edges)]⟩, some ⟨58, [.iv x9.A, .iv x9.B]⟩], []⟩ : St) (by kernel_rfl) ?_
          refine G_done rfl ?_ _; exact M_to J3 (s := true) h
         ·dsimp only [go_sem, Nat.reduceBEq, Nat.reduceAdd]
          refine G_goE hall hs haf hnap 3 11 [true, true, true, true, true, true, true, true, true, true, true, true, true, true, true, true, true, true, true, true, true, false, false, false, false, false, false, false, false, false, false, false] (⟨(.any :: .ptr 0 0 :: .any :: .iv x8 :: .ptr 1 0 :: an 14 (.iv x8 :: .ptr 0 1 :: .sl 2 (List.map Edge.row x1.Edges) :: .iv (ln Edge.row x1.Edges) :: .bv (decide (x8 < (ln Edge.row x1.Edges))) :: .any :: .any :: .ptr 0 1 :: .sl 2 (List.map Edge.row x1.Edges) :: .iv x8 :: .elt [.iv x9.A, .iv x9.B] 0 :: .agg [.iv x9.A, .iv x9.B] :: .ptr 1 0 :: .iv x9.A :: .bv (decide (x9.A < 0)) :: .ff :: .ptr 1 0 :: .iv x9.A :: .ptr 1 1 :: .iv x9.B :: .bv (decide (x9.B ≤ x9.A)) :: .bv (decide (x9.B ≤ x9.A)) :: .ff :: .ptr 1 1 :: .iv x9.B :: .ptr 0 0 :: .iv x1.N :: .bv (decide (x1.N ≤ x9.B)) :: .bv (decide (x1.N ≤ x9.B)) :: .ff :: .iv x8 :: .bv (decide (0 < x8)) :: .bv (decide (0 < x8)) :: an 11 [])), [some ⟨24, [.iv x1.N, .sl 2 (List.map Edge.row x1.Edges)]⟩, some ⟨58, [.iv x9.A, .iv x9.B]⟩], []⟩ : St) (by kernel_rfl) ?_
          refine GM_case 51 h rfl (fun _ h => ?_) fun _ h => ?_
          ·dsimp only [go_sem, Nat.reduceBEq, Nat.reduceAdd]
           refine G_goE hall hs haf hnap 5 6 [true, true, true, true, true, true, true, true, true, true, true, true, true, true, true, true, true, true, true, true, true, true, true, true, true, false, false, true, false, false, false, false] (⟨(.any :: .ptr 0 0 :: .any :: .iv x8 :: .ptr 1 0 :: an 14 (.iv x8 :: .ptr 0 1 :: .sl 2 (List.map Edge.row x1.Edges) :: .iv (ln Edge.row x1.Edges) :: .bv (decide (x8 < (ln Edge.row x1.Edges))) :: .any :: .any :: .ptr 0 1 :: .sl 2 (List.map Edge.row x1.Edges) :: .iv x8 :: .elt [.iv x9.A, .iv x9.B] 0 :: .agg [.iv x9.A, .iv x9.B] :: .ptr 1 0 :: .iv x9.A :: .bv (decide (x9.A < 0)) :: .ff :: .ptr 1 0 :: .iv x9.A :: .ptr 1 1 :: .iv x9.B :: .bv (decide (x9.B ≤ x9.A)) :: .bv (decide (x9.B ≤ x9.A)) :: .ff :: .ptr 1 1 :: .iv x9.B :: .ptr 0 0 :: .iv x1.N :: .bv (decide (x1.N ≤ x9.B)) :: .bv (decide (x1.N ≤ x9.B)) :: .ff :: .iv x8 :: .bv (decide (0 < x8)) :: .tt :: .ptr 0 1 :: .sl 2 (List.map Edge.row x1.Edges) :: .iv x8 :: .iv (wr (x8 - 1)) :: .any :: .any :: .agg [.iv x9.A, .iv x9.B] :: an 4 [])), [some ⟨24, [.iv x1.N, .sl 2 (List.map Edge.row x1.Edges)]⟩, some ⟨58, [.iv x9.A, .iv x9.B]⟩], []⟩ : St) (by kernel_rfl) ?_
           obtain ⟨x10, ex10, h⟩ := Option.bind_eq_some_iff.1 h; refine G_idxM hall hs haf hnap 25 Edge.row ex10 rfl rfl trivial rfl rfl rfl rfl ?_; refine G_goN hall hs haf hnap 1 4 ?_; dsimp only [go_sem, Nat.reduceBEq, Nat.reduceAdd]; refine ⟨by simp, ?_⟩; refine G_one 28 rfl ?_; obtain ⟨x11, ex11, h⟩ := Option.bind_eq_some_iff.1 h; refine GO_call hall rfl trivial (k_narthexref03_ahead x10 x9 _ ex11) (h := ?_); dsimp only [go_sem, Nat.reduceBEq, Nat.reduceAdd]
           refine G_goE hall hs haf hnap 3 0 [true, true, true, true, true, true, true, true, true, true, true, true, true, true, true, true, true, true, true, true, true, true, true, true, true, true, true, true, true, true, true, true] (⟨(.any :: .ptr 0 0 :: .any :: .iv x8 :: .ptr 1 0 :: an 14 (.iv x8 :: .ptr 0 1 :: .sl 2 (List.map Edge.row x1.Edges) :: .iv (ln Edge.row x1.Edges) :: .bv (decide (x8 < (ln Edge.row x1.Edges))) :: .any :: .any :: .ptr 0 1 :: .sl 2 (List.map Edge.row x1.Edges) :: .iv x8 :: .elt [.iv x9.A, .iv x9.B] 0 :: .agg [.iv x9.A, .iv x9.B] :: .ptr 1 0 :: .iv x9.A :: .bv (decide (x9.A < 0)) :: .ff :: .ptr 1 0 :: .iv x9.A :: .ptr 1 1 :: .iv x9.B :: .bv (decide (x9.B ≤ x9.A)) :: .bv (decide (x9.B ≤ x9.A)) :: .ff :: .ptr 1 1 :: .iv x9.B :: .ptr 0 0 :: .iv x1.N :: .bv (decide (x1.N ≤ x9.B)) :: .bv (decide (x1.N ≤ x9.B)) :: .ff :: .iv x8 :: .bv (decide (0 < x8)) :: .tt :: .ptr 0 1 :: .sl 2 (List.map Edge.row x1.Edges) :: .iv x8 :: .iv (wr (x8 - 1)) :: .elt [.iv x10.A, .iv x10.B] 0 :: .agg [.iv x10.A, .iv x10.B] :: .agg [.iv x9.A, .iv x9.B] :: .bv x11 :: .bv (!x11) :: .bv (!x11) :: .bv (!x11) :: [])), [some ⟨24, [.iv x1.N, .sl 2 (List.map Edge.row x1.Edges)]⟩, some ⟨58, [.iv x9.A, .iv x9.B]⟩], []⟩ : St) (by kernel_rfl) ?_
           refine G_done rfl ?_ _; exact M_to J3 (s := !x11) h
          ·dsimp only [go_sem, Nat.reduceBEq, Nat.reduceAdd]
           refine G_goE hall hs haf hnap 11 0 [true, true, true, true, true, true, true, true, true, true, true, true, true, true, true, true, true, true, true, true, true, true, true, true, true, true, true, true, true, true, true, true] (⟨(.any :: .ptr 0 0 :: .any :: .iv x8 :: .ptr 1 0 :: an 14 (.iv x8 :: .ptr 0 1 :: .sl 2 (List.map Edge.row x1.Edges) :: .iv (ln Edge.row x1.Edges) :: .bv (decide (x8 < (ln Edge.row x1.Edges))) :: .any :: .any :: .ptr 0 1 :: .sl 2 (List.map Edge.row x1.Edges) :: .iv x8 :: .elt [.iv x9.A, .iv x9.B] 0 :: .agg [.iv x9.A, .iv x9.B] :: .ptr 1 0 :: .iv x9.A :: .bv (decide (x9.A < 0)) :: .ff :: .ptr 1 0 :: .iv x9.A :: .ptr 1 1 :: .iv x9.B :: .bv (decide (x9.B ≤ x9.A)) :: .bv (decide (x9.B ≤ x9.A)) :: .ff :: .ptr 1 1 :: .iv x9.B :: .ptr 0 0 :: .iv x1.N :: .bv (decide (x1.N ≤ x9.B)) :: .bv (decide (x1.N ≤ x9.B)) :: .ff :: .iv x8 :: .bv (decide (0 < x8)) :: .ff :: .un :: .un :: .un :: .un :: .un :: .un :: .un :: .un :: .un :: .ff :: .ff :: [])), [some ⟨24, [.iv x1.N, .sl 2 (List.map Edge.row x1.Edges)]⟩, some ⟨58, [.iv x9.A, .iv x9.B]⟩], []⟩ : St) (by kernel_rfl) ?_
           refine G_done rfl ?_ _; exact M_to J3 (s := false) h
     ·refine V_go 1 ?_; dsimp only [e16, e16_L0, go_sem, Nat.reduceBEq, Nat.reduceAdd]; refine ⟨by simp, ?_⟩; exact M_to J2 (s := ()) (M_out h hout1)
  ·refine M_case 8 h rfl (fun _ h => ?_) fun _ h => ?_
   ·dsimp only [go_sem, Nat.reduceBEq, Nat.reduceAdd]; refine V_go 11 ?_; dsimp only [e16, e16_L0, go_sem, Nat.reduceBEq, Nat.reduceAdd]; refine ⟨by simp, ?_⟩; exact M_to J1 (s := true) h
   ·dsimp only [go_sem, Nat.reduceBEq, Nat.reduceAdd]; refine V_go 5 ?_; dsimp only [e16, e16_L0, go_sem, Nat.reduceBEq, Nat.reduceAdd]; refine ⟨by simp, ?_⟩; refine M_case 13 h rfl (fun _ h => ?_) fun _ h => ?_
    ·dsimp only [go_sem, Nat.reduceBEq, Nat.reduceAdd]; refine V_go 6 ?_; dsimp only [e16, e16_L0, go_sem, Nat.reduceBEq, Nat.reduceAdd]; refine ⟨by simp, ?_⟩; exact M_to J1 (s := true) h
    ·dsimp only [go_sem, Nat.reduceBEq, Nat.reduceAdd]; refine V_go 6 ?_; dsimp only [e16, e16_L0, go_sem, Nat.reduceBEq, Nat.reduceAdd]; refine ⟨by simp, ?_⟩; exact M_to J1 (s := decide (400 < (ln Edge.row x1.Edges))) h
end NX
end Go.Proofs.Ytadebhbiglmodaa
/-
  The function narthex/narthexref03.Has: its code compiled, a model, and that the code answers as the model. Written by a program of ours (lb.py). No statement of the seat is proved here.
-/
namespace Go.Proofs.Ytadebhbiglmodaa
namespace NX
open Go
set_option maxRecDepth 100000
set_option maxHeartbeats 4000000
def e32_L0 : EC := .seq (.seq (.reg [⟨(some 9), none, .mv (.t 7)⟩, ⟨(some 10), none, .fld 1 (.t 3)⟩, ⟨(some 11), none, .load (.t 10)⟩, ⟨(some 12), none, .len (.t 11)⟩, ⟨(some 13), none, .bin .lss (.t 9) (.t 12)⟩]) (.ite (.t 13) (.skip) (.exit 0))) (.seq (.blk 1 (.seq (.reg [⟨(some 16), none, .fld 1 (.t 3)⟩, ⟨(some 17), none, .load (.t 16)⟩, ⟨(some 18), none, .mv (.t 7)⟩, ⟨(some 19), none, .idx 2 (.t 17) (.t 18)⟩, ⟨(some 20), none, .loadA 2 (.t 19)⟩, ⟨(some 8), none, .alloc 58 [.iv 0, .iv 0]⟩, ⟨none, none, .store 2 (.t 8) (.t 20)⟩]) (.seq (.reg [⟨(some 21), none, .fld 0 (.t 8)⟩, ⟨(some 22), none, .load (.t 21)⟩, ⟨(some 23), none, .mv (.t 1)⟩, ⟨(some 24), none, .bin .eql (.t 22) (.t 23)⟩, ⟨(some 25), none, .mv (.t 24)⟩, ⟨(some 26), (some (25, true)), .fld 1 (.t 8)⟩, ⟨(some 27), (some (25, true)), .load (.t 26)⟩, ⟨(some 28), (some (25, true)), .mv (.t 2)⟩, ⟨(some 29), (some (25, true)), .bin .eql (.t 27) (.t 28)⟩, ⟨(some 30), none, .pick (.t 25) (.t 29) (.c .ff)⟩, ⟨(some 31), none, .mv (.t 30)⟩, ⟨(some 32), (some (31, true)), .mv (.t 1)⟩, ⟨(some 33), (some (31, true)), .mv (.t 2)⟩, ⟨(some 34), (some (31, true)), .bin .leq (.t 32) (.t 33)⟩, ⟨(some 35), none, .pick (.t 31) (.t 34) (.c .ff)⟩, ⟨(some 36), none, .mv (.t 35)⟩, ⟨(some 37), (some (36, false)), .fld 0 (.t 8)⟩, ⟨(some 38), (some (36, false)), .load (.t 37)⟩, ⟨(some 39), (some (36, false)), .mv (.t 2)⟩, ⟨(some 40), (some (36, false)), .bin .eql (.t 38) (.t 39)⟩, ⟨(some 41), (some (36, false)), .mv (.t 40)⟩, ⟨(some 42), (some (41, true)), .fld 1 (.t 8)⟩, ⟨(some 43), (some (41, true)), .load (.t 42)⟩, ⟨(some 44), (some (41, true)), .mv (.t 1)⟩, ⟨(some 45), (some (41, true)), .bin .eql (.t 43) (.t 44)⟩, ⟨(some 46), (some (36, false)), .pick (.t 41) (.t 45) (.c .ff)⟩, ⟨(some 47), (some (36, false)), .mv (.t 46)⟩, ⟨(some 48), (some (47, true)), .mv (.t 2)⟩, ⟨(some 49), (some (47, true)), .mv (.t 1)⟩, ⟨(some 50), (some (47, true)), .bin .lss (.t 48) (.t 49)⟩, ⟨(some 51), (some (36, false)), .pick (.t 47) (.t 50) (.c .ff)⟩, ⟨(some 52), none, .pick (.t 36) (.c .tt) (.t 51)⟩]) (.ite (.t 52) (.seq (.reg [⟨(some 6), none, .mv (.c .tt)⟩]) (.ret)) (.skip))))) (.reg [⟨(some 14), none, .mv (.t 7)⟩, ⟨(some 15), none, .bin .add (.t 14) (.c (.iv 1))⟩, ⟨(some 7), none, .mv (.t 15)⟩]))
def e32 : EC := .seq (.reg [⟨(some 3), none, .box 24 2 (.t 0)⟩, ⟨(some 6), none, .mv (.c .ff)⟩]) (.seq (.seq (.reg [⟨(some 7), none, .mv (.c (.iv 0))⟩]) (.blk 0 (.loop e32_L0))) (.seq (.reg [⟨(some 6), none, .mv (.c .ff)⟩]) (.ret)))
theorem ok32 : FnOK Try.prog 32 Try.f32 e32 [.t 6] 3 50 := ⟨by kernel_rfl, ⟨_, rfl, by kernel_rfl⟩, by kernel_rfl, by kernel_rfl⟩
/- narthex/narthexref03.Has -/
noncomputable def m_narthexref03_Has_j1  : Unit → Option Bool
| () =>
 some false
noncomputable def m_narthexref03_Has_j2 (x7 : Int) : Bool → Option (Int ⊕ Bool)
| x9 =>
 ifb x9 (
 Option.map Sum.inr (some true)) (
 some (.inl (wr (x7 + 1))))
noncomputable def m_narthexref03_Has_l1 (x1 : Graph) (x2 : Int) (x3 : Int) : Int → Option (Int ⊕ Bool)
| x7 =>
 ifb (decide (x7 < (ln Edge.row x1.Edges))) (
 (at_ x1.Edges x7).bind fun x8 =>
 ifb (decide (x8.A = x2)) (
 ifb (decide (x8.B = x3)) (
 ifb (decide (x2 ≤ x3)) (
 (m_narthexref03_Has_j2 x7) true) (
 ifb (decide (x8.A = x3)) (
 ifb (decide (x8.B = x2)) (
 (m_narthexref03_Has_j2 x7) (decide (x3 < x2))) (
 (m_narthexref03_Has_j2 x7) false)) (
 (m_narthexref03_Has_j2 x7) false))) (
 ifb (decide (x8.A = x3)) (
 ifb (decide (x8.B = x2)) (
 (m_narthexref03_Has_j2 x7) (decide (x3 < x2))) (
 (m_narthexref03_Has_j2 x7) false)) (
 (m_narthexref03_Has_j2 x7) false))) (
 ifb (decide (x8.A = x3)) (
 ifb (decide (x8.B = x2)) (
 (m_narthexref03_Has_j2 x7) (decide (x3 < x2))) (
 (m_narthexref03_Has_j2 x7) false)) (
 (m_narthexref03_Has_j2 x7) false))) (
 Option.map Sum.inr (m_narthexref03_Has_j1 ()))
noncomputable def m_narthexref03_Has (x1 : Graph) (x2 : Int) (x3 : Int) : Option Bool :=
 loop (m_narthexref03_Has_l1 x1 x2 x3) 0
theorem k_narthexref03_Has (x1 : Graph) (x2 : Int) (x3 : Int) (r : Bool) (h : m_narthexref03_Has x1 x2 x3 = some r) : FunP Try.prog 32 [.agg (Graph.row x1), .iv x2, .iv x3] (.bv r) := by
  refine FunP_intro ok32 rfl rfl fun w0 H0 => ?_
  rw [m_narthexref03_Has] at h
  refine V_go 10 ?_; dsimp only [e32, e32_L0, go_sem, Nat.reduceBEq, Nat.reduceAdd]; refine ⟨by simp, ?_⟩; refine V_join (fun (_ : Unit) => (⟨(an 53 []), [], []⟩ : St)) m_narthexref03_Has_j1 r ?_ fun J1 => ?_
  ·rintro ⟨⟩ h; rw [m_narthexref03_Has_j1] at h; (try dsimp only); refine V_go 4 ?_; dsimp only [e32, e32_L0, go_sem, Nat.reduceBEq, Nat.reduceAdd]; refine ⟨by simp, ?_⟩; exact M_done (res := fun (r : Bool) => .bv r) ok32 h
  ·refine V_go 1 ?_; dsimp only [e32, e32_L0, go_sem, Nat.reduceBEq, Nat.reduceAdd]; refine ⟨by simp, ?_⟩; refine M_loop h (fun (x7 : Int) => (⟨(.any :: .iv x2 :: .iv x3 :: .ptr 0 0 :: an 3 (.iv x7 :: an 45 [])), [some ⟨24, [.iv x1.N, .sl 2 (List.map Edge.row x1.Edges)]⟩], []⟩ : St)) (by simp [go_sem]) (by intro x7; first | rfl | simp [go_sem]) ?_; rintro n1 x7 y1 h hin1 hout1; rw [m_narthexref03_Has_l1] at h; (try dsimp only); refine V_go 9 ?_; dsimp only [e32, e32_L0, go_sem, Nat.reduceBEq, Nat.reduceAdd]; refine ⟨by simp, ?_⟩; refine M_ite h rfl (fun _ h => ?_) fun _ h => ?_
   ·refine V_go 8 ?_; dsimp only [e32, e32_L0, go_sem, Nat.reduceBEq, Nat.reduceAdd]; refine ⟨by simp, ?_⟩; obtain ⟨x8, ex8, h⟩ := Option.bind_eq_some_iff.1 h; refine V_idxM Edge.row ex8 trivial rfl rfl rfl ?_; refine V_go 11 ?_; dsimp only [e32, e32_L0, go_sem, Nat.reduceBEq, Nat.reduceAdd]; refine ⟨by simp, ?_⟩; refine V_join (fun (x9 : Bool) => (⟨(.any :: .iv x2 :: .iv x3 :: .ptr 0 0 :: an 3 (.iv x7 :: an 44 [.bv x9])), [some ⟨24, [.iv x1.N, .sl 2 (List.map Edge.row x1.Edges)]⟩], []⟩ : St)) (m_narthexref03_Has_j2 x7) y1 ?_ fun J2 => ?_
    ·intro x9 h; rw [m_narthexref03_Has_j2] at h; (try dsimp only); refine M_ite h rfl (fun _ h => ?_) fun _ h => ?_
     ·refine V_go 4 ?_; dsimp only [e32, e32_L0, go_sem, Nat.reduceBEq, Nat.reduceAdd]; refine ⟨by simp, ?_⟩; exact M_done (res := fun (r : Bool) => .bv r) ok32 (M_out h hout1)
     ·refine V_go 7 ?_; dsimp only [e32, e32_L0, go_sem, Nat.reduceBEq, Nat.reduceAdd]; refine ⟨by simp, ?_⟩; exact M_back h hin1
    ·refine M_case 25 h rfl (fun _ h => ?_) fun _ h => ?_
     ·dsimp only [go_sem, Nat.reduceBEq, Nat.reduceAdd]; refine V_go 6 ?_; dsimp only [e32, e32_L0, go_sem, Nat.reduceBEq, Nat.reduceAdd]; refine ⟨by simp, ?_⟩; refine M_case 31 h rfl (fun _ h => ?_) fun _ h => ?_
      ·dsimp only [go_sem, Nat.reduceBEq, Nat.reduceAdd]; refine V_go 5 ?_; dsimp only [e32, e32_L0, go_sem, Nat.reduceBEq, Nat.reduceAdd]; refine ⟨by simp, ?_⟩; refine M_case 36 h rfl (fun _ h => ?_) fun _ h => ?_
       ·dsimp only [go_sem, Nat.reduceBEq, Nat.reduceAdd]; refine V_go 17 ?_; dsimp only [e32, e32_L0, go_sem, Nat.reduceBEq, Nat.reduceAdd]; refine ⟨by simp, ?_⟩; exact M_to J2 (s := true) h
       ·dsimp only [go_sem, Nat.reduceBEq, Nat.reduceAdd]; refine V_go 5 ?_; dsimp only [e32, e32_L0, go_sem, Nat.reduceBEq, Nat.reduceAdd]; refine ⟨by simp, ?_⟩; refine M_case 41 h rfl (fun _ h => ?_) fun _ h => ?_
        ·dsimp only [go_sem, Nat.reduceBEq, Nat.reduceAdd]; refine V_go 6 ?_; dsimp only [e32, e32_L0, go_sem, Nat.reduceBEq, Nat.reduceAdd]; refine ⟨by simp, ?_⟩; refine M_case 47 h rfl (fun _ h => ?_) fun _ h => ?_
         ·dsimp only [go_sem, Nat.reduceBEq, Nat.reduceAdd]; refine V_go 6 ?_; dsimp only [e32, e32_L0, go_sem, Nat.reduceBEq, Nat.reduceAdd]; refine ⟨by simp, ?_⟩; exact M_to J2 (s := decide (x3 < x2)) h
         ·dsimp only [go_sem, Nat.reduceBEq, Nat.reduceAdd]; refine V_go 6 ?_; dsimp only [e32, e32_L0, go_sem, Nat.reduceBEq, Nat.reduceAdd]; refine ⟨by simp, ?_⟩; exact M_to J2 (s := false) h
        ·dsimp only [go_sem, Nat.reduceBEq, Nat.reduceAdd]; refine V_go 12 ?_; dsimp only [e32, e32_L0, go_sem, Nat.reduceBEq, Nat.reduceAdd]; refine ⟨by simp, ?_⟩; exact M_to J2 (s := false) h
      ·dsimp only [go_sem, Nat.reduceBEq, Nat.reduceAdd]; refine V_go 10 ?_; dsimp only [e32, e32_L0, go_sem, Nat.reduceBEq, Nat.reduceAdd]; refine ⟨by simp, ?_⟩; refine M_case 41 h rfl (fun _ h => ?_) fun _ h => ?_
       ·dsimp only [go_sem, Nat.reduceBEq, Nat.reduceAdd]; refine V_go 6 ?_; dsimp only [e32, e32_L0, go_sem, Nat.reduceBEq, Nat.reduceAdd]; refine ⟨by simp, ?_⟩; refine M_case 47 h rfl (fun _ h => ?_) fun _ h => ?_
        ·dsimp only [go_sem, Nat.reduceBEq, Nat.reduceAdd]; refine V_go 6 ?_; dsimp only [e32, e32_L0, go_sem, Nat.reduceBEq, Nat.reduceAdd]; refine ⟨by simp, ?_⟩; exact M_to J2 (s := decide (x3 < x2)) h
        ·dsimp only [go_sem, Nat.reduceBEq, Nat.reduceAdd]; refine V_go 6 ?_; dsimp only [e32, e32_L0, go_sem, Nat.reduceBEq, Nat.reduceAdd]; refine ⟨by simp, ?_⟩; exact M_to J2 (s := false) h
       ·dsimp only [go_sem, Nat.reduceBEq, Nat.reduceAdd]; refine V_go 12 ?_; dsimp only [e32, e32_L0, go_sem, Nat.reduceBEq, Nat.reduceAdd]; refine ⟨by simp, ?_⟩; exact M_to J2 (s := false) h
     ·dsimp only [go_sem, Nat.reduceBEq, Nat.reduceAdd]; refine V_go 16 ?_; dsimp only [e32, e32_L0, go_sem, Nat.reduceBEq, Nat.reduceAdd]; refine ⟨by simp, ?_⟩; refine M_case 41 h rfl (fun _ h => ?_) fun _ h => ?_
      ·dsimp only [go_sem, Nat.reduceBEq, Nat.reduceAdd]; refine V_go 6 ?_; dsimp only [e32, e32_L0, go_sem, Nat.reduceBEq, Nat.reduceAdd]; refine ⟨by simp, ?_⟩; refine M_case 47 h rfl (fun _ h => ?_) fun _ h => ?_
       ·dsimp only [go_sem, Nat.reduceBEq, Nat.reduceAdd]; refine V_go 6 ?_; dsimp only [e32, e32_L0, go_sem, Nat.reduceBEq, Nat.reduceAdd]; refine ⟨by simp, ?_⟩; exact M_to J2 (s := decide (x3 < x2)) h
       ·dsimp only [go_sem, Nat.reduceBEq, Nat.reduceAdd]; refine V_go 6 ?_; dsimp only [e32, e32_L0, go_sem, Nat.reduceBEq, Nat.reduceAdd]; refine ⟨by simp, ?_⟩; exact M_to J2 (s := false) h
      ·dsimp only [go_sem, Nat.reduceBEq, Nat.reduceAdd]; refine V_go 12 ?_; dsimp only [e32, e32_L0, go_sem, Nat.reduceBEq, Nat.reduceAdd]; refine ⟨by simp, ?_⟩; exact M_to J2 (s := false) h
   ·refine V_go 1 ?_; dsimp only [e32, e32_L0, go_sem, Nat.reduceBEq, Nat.reduceAdd]; refine ⟨by simp, ?_⟩; exact M_to J1 (s := ()) (M_out h hout1)
end NX
end Go.Proofs.Ytadebhbiglmodaa
/-
  The function narthex/narthexref11.Check: its code compiled, a model, and that the code answers as the model. Written by a program of ours (lb.py). No statement of the seat is proved here.
-/
namespace Go.Proofs.Ytadebhbiglmodaa
namespace NX
open Go
set_option maxRecDepth 100000
set_option maxHeartbeats 4000000
def e53_L0 : EC := .seq (.seq (.reg [⟨(some 6), none, .mv (.t 5)⟩, ⟨(some 7), none, .mv (.t 1)⟩, ⟨(some 8), none, .len (.t 7)⟩, ⟨(some 9), none, .bin .lss (.t 6) (.t 8)⟩]) (.ite (.t 9) (.skip) (.exit 0))) (.seq (.blk 1 (.seq (.reg [⟨(some 12), none, .mv (.t 1)⟩, ⟨(some 13), none, .mv (.t 5)⟩, ⟨(some 14), none, .idx 1 (.t 12) (.t 13)⟩, ⟨(some 15), none, .load (.t 14)⟩, ⟨(some 16), none, .bin .lss (.t 15) (.c (.iv 0))⟩]) (.ite (.t 16) (.seq (.reg [⟨(some 4), none, .mv (.c .ff)⟩]) (.ret)) (.skip)))) (.reg [⟨(some 10), none, .mv (.t 5)⟩, ⟨(some 11), none, .bin .add (.t 10) (.c (.iv 1))⟩, ⟨(some 5), none, .mv (.t 11)⟩]))
def e53 : EC := .seq (.reg [⟨(some 2), none, .box 24 2 (.t 0)⟩, ⟨(some 4), none, .mv (.c .ff)⟩]) (.seq (.seq (.reg [⟨(some 5), none, .mv (.c (.iv 0))⟩]) (.blk 0 (.loop e53_L0))) (.seq (.reg [⟨(some 17), none, .mv (.t 1)⟩, ⟨(some 18), none, .len (.t 17)⟩, ⟨(some 19), none, .fld 0 (.t 2)⟩, ⟨(some 20), none, .load (.t 19)⟩, ⟨(some 21), none, .bin .eql (.t 18) (.t 20)⟩, ⟨(some 4), none, .mv (.t 21)⟩]) (.ret)))
theorem ok53 : FnOK Try.prog 53 Try.f53 e53 [.t 4] 2 20 := ⟨by kernel_rfl, ⟨_, rfl, by kernel_rfl⟩, by kernel_rfl, by kernel_rfl⟩
/- narthex/narthexref11.Check -/
noncomputable def m_narthexref11_Check_j1 (x1 : Graph) (x2 : (List Int)) : Unit → Option Bool
| () =>
 some (decide ((ln intRow x2) = x1.N))
noncomputable def m_narthexref11_Check_l1 (x1 : Graph) (x2 : (List Int)) : Int → Option (Int ⊕ Bool)
| x5 =>
 ifb (decide (x5 < (ln intRow x2))) (
 (at_ x2 x5).bind fun x6 =>
 ifb (decide (x6 < 0)) (
 Option.map Sum.inr (some false)) (
 some (.inl (wr (x5 + 1))))) (
 Option.map Sum.inr ((m_narthexref11_Check_j1 x1 x2) ()))
noncomputable def m_narthexref11_Check (x1 : Graph) (x2 : (List Int)) : Option Bool :=
 loop (m_narthexref11_Check_l1 x1 x2) 0
theorem k_narthexref11_Check (x1 : Graph) (x2 : (List Int)) (r : Bool) (h : m_narthexref11_Check x1 x2 = some r) : FunP Try.prog 53 [.agg (Graph.row x1), .sl 1 (List.map intRow x2)] (.bv r) := by
  refine FunP_intro ok53 rfl rfl fun w0 H0 => ?_
  rw [m_narthexref11_Check] at h
  refine V_go 10 ?_; dsimp only [e53, e53_L0, go_sem, Nat.reduceBEq, Nat.reduceAdd]; refine ⟨by simp, ?_⟩; refine V_join (fun (_ : Unit) => (⟨(.any :: .sl 1 (List.map intRow x2) :: .ptr 0 0 :: an 19 []), [some ⟨24, [.iv x1.N, .sl 2 (List.map Edge.row x1.Edges)]⟩], []⟩ : St)) (m_narthexref11_Check_j1 x1 x2) r ?_ fun J1 => ?_
  ·rintro ⟨⟩ h; rw [m_narthexref11_Check_j1] at h; (try dsimp only); refine V_go 9 ?_; dsimp only [e53, e53_L0, go_sem, Nat.reduceBEq, Nat.reduceAdd]; refine ⟨by simp, ?_⟩; exact M_done (res := fun (r : Bool) => .bv r) ok53 h
  ·refine V_go 1 ?_; dsimp only [e53, e53_L0, go_sem, Nat.reduceBEq, Nat.reduceAdd]; refine ⟨by simp, ?_⟩; refine M_loop h (fun (x5 : Int) => (⟨(.any :: .sl 1 (List.map intRow x2) :: .ptr 0 0 :: .any :: .any :: .iv x5 :: an 16 []), [some ⟨24, [.iv x1.N, .sl 2 (List.map Edge.row x1.Edges)]⟩], []⟩ : St)) (by simp [go_sem]) (by intro x5; first | rfl | simp [go_sem]) ?_; rintro n1 x5 y1 h hin1 hout1; rw [m_narthexref11_Check_l1] at h; (try dsimp only); refine V_go 8 ?_; dsimp only [e53, e53_L0, go_sem, Nat.reduceBEq, Nat.reduceAdd]; refine ⟨by simp, ?_⟩
   refine M_ite h rfl (fun _ h => ?_) fun _ h => ?_
   ·refine V_go 7 ?_; dsimp only [e53, e53_L0, go_sem, Nat.reduceBEq, Nat.reduceAdd]; refine ⟨by simp, ?_⟩; obtain ⟨x6, ex6, h⟩ := Option.bind_eq_some_iff.1 h; refine V_idxM intRow ex6 trivial rfl rfl rfl ?_; refine V_go 3 ?_; dsimp only [e53, e53_L0, go_sem, Nat.reduceBEq, Nat.reduceAdd]; refine ⟨by simp, ?_⟩; refine M_ite h rfl (fun _ h => ?_) fun _ h => ?_
    ·refine V_go 4 ?_; dsimp only [e53, e53_L0, go_sem, Nat.reduceBEq, Nat.reduceAdd]; refine ⟨by simp, ?_⟩; exact M_done (res := fun (r : Bool) => .bv r) ok53 (M_out h hout1)
    ·refine V_go 7 ?_; dsimp only [e53, e53_L0, go_sem, Nat.reduceBEq, Nat.reduceAdd]; refine ⟨by simp, ?_⟩; exact M_back h hin1
   ·refine V_go 1 ?_; dsimp only [e53, e53_L0, go_sem, Nat.reduceBEq, Nat.reduceAdd]; refine ⟨by simp, ?_⟩; exact M_to J1 (s := ()) (M_out h hout1)
end NX
end Go.Proofs.Ytadebhbiglmodaa
/-
  The function narthex/narthexref01.Has: its code compiled, a model, and that the code answers as the model. Written by a program of ours (lb.py). No statement of the seat is proved here.
-/
namespace Go.Proofs.Ytadebhbiglmodaa
namespace NX
open Go
set_option maxRecDepth 100000
set_option maxHeartbeats 4000000
def e54_L0 : EC := .seq (.seq (.reg [⟨(some 6), none, .mv (.t 5)⟩, ⟨(some 7), none, .mv (.t 0)⟩, ⟨(some 8), none, .len (.t 7)⟩, ⟨(some 9), none, .bin .lss (.t 6) (.t 8)⟩]) (.ite (.t 9) (.skip) (.exit 0))) (.seq (.blk 1 (.seq (.reg [⟨(some 12), none, .mv (.t 0)⟩, ⟨(some 13), none, .mv (.t 5)⟩, ⟨(some 14), none, .idx 1 (.t 12) (.t 13)⟩, ⟨(some 15), none, .load (.t 14)⟩, ⟨(some 16), none, .mv (.t 1)⟩, ⟨(some 17), none, .bin .eql (.t 15) (.t 16)⟩]) (.ite (.t 17) (.seq (.reg [⟨(some 4), none, .mv (.c .tt)⟩]) (.ret)) (.skip)))) (.reg [⟨(some 10), none, .mv (.t 5)⟩, ⟨(some 11), none, .bin .add (.t 10) (.c (.iv 1))⟩, ⟨(some 5), none, .mv (.t 11)⟩]))
def e54 : EC := .seq (.reg [⟨(some 4), none, .mv (.c .ff)⟩]) (.seq (.seq (.reg [⟨(some 5), none, .mv (.c (.iv 0))⟩]) (.blk 0 (.loop e54_L0))) (.seq (.reg [⟨(some 4), none, .mv (.c .ff)⟩]) (.ret)))
theorem ok54 : FnOK Try.prog 54 Try.f54 e54 [.t 4] 2 16 := ⟨by kernel_rfl, ⟨_, rfl, by kernel_rfl⟩, by kernel_rfl, by kernel_rfl⟩
/- narthex/narthexref01.Has -/
noncomputable def m_narthexref01_Has_j1  : Unit → Option Bool
| () =>
 some false
noncomputable def m_narthexref01_Has_l1 (x1 : (List Int)) (x2 : Int) : Int → Option (Int ⊕ Bool)
| x5 =>
 ifb (decide (x5 < (ln intRow x1))) (
 (at_ x1 x5).bind fun x6 =>
 ifb (decide (x6 = x2)) (
 Option.map Sum.inr (some true)) (
 some (.inl (wr (x5 + 1))))) (
 Option.map Sum.inr (m_narthexref01_Has_j1 ()))
noncomputable def m_narthexref01_Has (x1 : (List Int)) (x2 : Int) : Option Bool :=
 loop (m_narthexref01_Has_l1 x1 x2) 0
theorem k_narthexref01_Has (x1 : (List Int)) (x2 : Int) (r : Bool) (h : m_narthexref01_Has x1 x2 = some r) : FunP Try.prog 54 [.sl 1 (List.map intRow x1), .iv x2] (.bv r) := by
  refine FunP_intro ok54 rfl rfl fun w0 H0 => ?_
  rw [m_narthexref01_Has] at h
  refine V_go 9 ?_; dsimp only [e54, e54_L0, go_sem, Nat.reduceBEq, Nat.reduceAdd]; refine ⟨by simp, ?_⟩; refine V_join (fun (_ : Unit) => (⟨(an 18 []), [], []⟩ : St)) m_narthexref01_Has_j1 r ?_ fun J1 => ?_
  ·rintro ⟨⟩ h; rw [m_narthexref01_Has_j1] at h; (try dsimp only); refine V_go 4 ?_; dsimp only [e54, e54_L0, go_sem, Nat.reduceBEq, Nat.reduceAdd]; refine ⟨by simp, ?_⟩; exact M_done (res := fun (r : Bool) => .bv r) ok54 h
  ·refine V_go 1 ?_; dsimp only [e54, e54_L0, go_sem, Nat.reduceBEq, Nat.reduceAdd]; refine ⟨by simp, ?_⟩; refine M_loop h (fun (x5 : Int) => (⟨(.sl 1 (List.map intRow x1) :: .iv x2 :: an 3 (.iv x5 :: an 12 [])), [], []⟩ : St)) (by simp [go_sem]) (by intro x5; first | rfl | simp [go_sem]) ?_; rintro n1 x5 y1 h hin1 hout1; rw [m_narthexref01_Has_l1] at h; (try dsimp only); refine V_go 8 ?_; dsimp only [e54, e54_L0, go_sem, Nat.reduceBEq, Nat.reduceAdd]; refine ⟨by simp, ?_⟩; refine M_ite h rfl (fun _ h => ?_) fun _ h => ?_
   ·refine V_go 7 ?_; dsimp only [e54, e54_L0, go_sem, Nat.reduceBEq, Nat.reduceAdd]; refine ⟨by simp, ?_⟩; obtain ⟨x6, ex6, h⟩ := Option.bind_eq_some_iff.1 h; refine V_idxM intRow ex6 trivial rfl rfl rfl ?_; refine V_go 4 ?_; dsimp only [e54, e54_L0, go_sem, Nat.reduceBEq, Nat.reduceAdd]; refine ⟨by simp, ?_⟩; refine M_ite h rfl (fun _ h => ?_) fun _ h => ?_
    ·refine V_go 4 ?_; dsimp only [e54, e54_L0, go_sem, Nat.reduceBEq, Nat.reduceAdd]; refine ⟨by simp, ?_⟩; exact M_done (res := fun (r : Bool) => .bv r) ok54 (M_out h hout1)
    ·refine V_go 7 ?_; dsimp only [e54, e54_L0, go_sem, Nat.reduceBEq, Nat.reduceAdd]; refine ⟨by simp, ?_⟩; exact M_back h hin1
   ·refine V_go 1 ?_; dsimp only [e54, e54_L0, go_sem, Nat.reduceBEq, Nat.reduceAdd]; refine ⟨by simp, ?_⟩; exact M_to J1 (s := ()) (M_out h hout1)
end NX
end Go.Proofs.Ytadebhbiglmodaa
/-
  The function narthex/narthexref11.Right: its code compiled, a model, and that the code answers as the model. Written by a program of ours (lb.py). No statement of the seat is proved here.
-/
namespace Go.Proofs.Ytadebhbiglmodaa
namespace NX
open Go
set_option maxRecDepth 100000
set_option maxHeartbeats 4000000
def e17_L0 : EC := .seq (.seq (.reg [⟨(some 19), none, .mv (.t 5)⟩, ⟨(some 20), none, .fld 1 (.t 2)⟩, ⟨(some 21), none, .load (.t 20)⟩, ⟨(some 22), none, .len (.t 21)⟩, ⟨(some 23), none, .bin .lss (.t 19) (.t 22)⟩]) (.ite (.t 23) (.skip) (.exit 0))) (.seq (.blk 1 (.seq (.drw [⟨(some 26), none, .mv (.t 1)⟩, ⟨(some 27), none, .fld 1 (.t 2)⟩, ⟨(some 28), none, .load (.t 27)⟩, ⟨(some 29), none, .mv (.t 5)⟩, ⟨(some 30), none, .idx 2 (.t 28) (.t 29)⟩, ⟨(some 31), none, .fld 0 (.t 30)⟩, ⟨(some 32), none, .load (.t 31)⟩, ⟨(some 33), none, .idx 1 (.t 26) (.t 32)⟩, ⟨(some 34), none, .load (.t 33)⟩, ⟨(some 35), none, .mv (.t 1)⟩, ⟨(some 36), none, .fld 1 (.t 2)⟩, ⟨(some 37), none, .load (.t 36)⟩, ⟨(some 38), none, .mv (.t 5)⟩, ⟨(some 39), none, .idx 2 (.t 37) (.t 38)⟩, ⟨(some 40), none, .fld 1 (.t 39)⟩, ⟨(some 41), none, .load (.t 40)⟩, ⟨(some 42), none, .idx 1 (.t 35) (.t 41)⟩, ⟨(some 43), none, .load (.t 42)⟩, ⟨(some 44), none, .bin .eql (.t 34) (.t 43)⟩] [[], [], [1], [], [2, 3], [4], [5], [0, 6], [7], [], [], [10], [], [11, 12], [13], [14], [9, 15], [16], [8, 17]] [[7], [2], [1, 4], [4], [2, 3, 5], [4, 6], [5, 7], [0, 6, 8], [7, 18], [16], [11], [10, 13], [13], [11, 12, 14], [13, 15], [14, 16], [9, 15, 17], [16, 18], [8, 17]]) (.ite (.t 44) (.seq (.reg [⟨(some 4), none, .mv (.c .ff)⟩]) (.ret)) (.skip)))) (.reg [⟨(some 24), none, .mv (.t 5)⟩, ⟨(some 25), none, .bin .add (.t 24) (.c (.iv 1))⟩, ⟨(some 5), none, .mv (.t 25)⟩]))
def e17 : EC := .seq (.reg [⟨(some 2), none, .box 24 2 (.t 0)⟩, ⟨(some 4), none, .mv (.c .ff)⟩]) (.seq (.seq (.reg [⟨(some 6), none, .loadA 2 (.t 2)⟩, ⟨(some 7), none, .call 16 [(.t 6)]⟩, ⟨(some 8), none, .not (.t 7)⟩, ⟨(some 9), none, .mv (.t 8)⟩, ⟨(some 10), (some (9, false)), .loadA 2 (.t 2)⟩, ⟨(some 11), (some (9, false)), .mv (.t 1)⟩, ⟨(some 12), (some (9, false)), .call 53 [(.t 10), (.t 11)]⟩, ⟨(some 13), (some (9, false)), .not (.t 12)⟩, ⟨(some 14), none, .pick (.t 9) (.c .tt) (.t 13)⟩, ⟨(some 15), none, .mv (.t 14)⟩, ⟨(some 16), (some (15, false)), .mv (.t 1)⟩, ⟨(some 17), (some (15, false)), .call 54 [(.t 16), (.c (.iv 0))]⟩, ⟨(some 18), none, .pick (.t 15) (.c .tt) (.t 17)⟩]) (.ite (.t 18) (.seq (.reg [⟨(some 4), none, .mv (.c .ff)⟩]) (.ret)) (.skip))) (.seq (.seq (.reg [⟨(some 5), none, .mv (.c (.iv 0))⟩]) (.blk 0 (.loop e17_L0))) (.seq (.reg [⟨(some 4), none, .mv (.c .tt)⟩]) (.ret))))
theorem ok17 : FnOK Try.prog 17 Try.f17 e17 [.t 4] 2 43 := ⟨by kernel_rfl, ⟨_, rfl, by kernel_rfl⟩, by kernel_rfl, by kernel_rfl⟩
/- narthex/narthexref11.Right -/
noncomputable def m_narthexref11_Right_j2  : Unit → Option Bool
| () =>
 some true
noncomputable def m_narthexref11_Right_l1 (x1 : Graph) (x2 : (List Int)) : Int → Option (Int ⊕ Bool)
| x12 =>
 ifb (decide (x12 < (ln Edge.row x1.Edges))) (
 (at_ x1.Edges x12).bind fun x13 =>
 (at_ x2 x13.A).bind fun x14 =>
 (at_ x1.Edges x12).bind fun x15 =>
 (at_ x2 x15.B).bind fun x16 =>
 ifb (decide (x14 = x16)) (
 Option.map Sum.inr (some false)) (
 some (.inl (wr (x12 + 1))))) (
 Option.map Sum.inr (m_narthexref11_Right_j2 ()))
noncomputable def m_narthexref11_Right_j1 (x1 : Graph) (x2 : (List Int)) : Bool → Option Bool
| x6 =>
 ifb x6 (
 some false) (
 loop (m_narthexref11_Right_l1 x1 x2) 0)
noncomputable def m_narthexref11_Right (x1 : Graph) (x2 : (List Int)) : Option Bool :=
 (m_narthexref03_Check x1).bind fun x3 =>
 ifb (!x3) (
 (m_narthexref11_Right_j1 x1 x2) true) (
 (m_narthexref11_Check x1 x2).bind fun x4 =>
 ifb (!x4) (
 (m_narthexref11_Right_j1 x1 x2) true) (
 (m_narthexref01_Has x2 0).bind fun x5 =>
 (m_narthexref11_Right_j1 x1 x2) x5))
theorem k_narthexref11_Right (x1 : Graph) (x2 : (List Int)) (r : Bool) (h : m_narthexref11_Right x1 x2 = some r) : FunP Try.prog 17 [.agg (Graph.row x1), .sl 1 (List.map intRow x2)] (.bv r) := by
  refine FunP_intro ok17 rfl rfl fun w0 H0 => ?_
  rw [m_narthexref11_Right] at h
  refine V_go 9 ?_; dsimp only [e17, e17_L0, go_sem, Nat.reduceBEq, Nat.reduceAdd]; refine ⟨by simp, ?_⟩; obtain ⟨x3, ex3, h⟩ := Option.bind_eq_some_iff.1 h; refine V_call trivial (k_narthexref03_Check x1 _ ex3) (h := ?_); refine V_go 2 ?_; dsimp only [e17, e17_L0, go_sem, Nat.reduceBEq, Nat.reduceAdd]; refine ⟨by simp, ?_⟩; refine V_join (fun (x6 : Bool) => (⟨(.any :: .sl 1 (List.map intRow x2) :: .ptr 0 0 :: an 15 (.bv x6 :: an 26 [])), [some ⟨24, [.iv x1.N, .sl 2 (List.map Edge.row x1.Edges)]⟩], []⟩ : St)) (m_narthexref11_Right_j1 x1 x2) r ?_ fun J1 => ?_
  ·intro x6 h; rw [m_narthexref11_Right_j1] at h; (try dsimp only); refine M_ite h rfl (fun _ h => ?_) fun _ h => ?_
   ·refine V_go 4 ?_; dsimp only [e17, e17_L0, go_sem, Nat.reduceBEq, Nat.reduceAdd]; refine ⟨by simp, ?_⟩; exact M_done (res := fun (r : Bool) => .bv r) ok17 h
   ·refine V_go 6 ?_; dsimp only [e17, e17_L0, go_sem, Nat.reduceBEq, Nat.reduceAdd]; refine ⟨by simp, ?_⟩; refine V_join (fun (_ : Unit) => (⟨(an 45 []), [], []⟩ : St)) m_narthexref11_Right_j2 r ?_ fun J2 => ?_
    ·rintro ⟨⟩ h; rw [m_narthexref11_Right_j2] at h; (try dsimp only); refine V_go 4 ?_; dsimp only [e17, e17_L0, go_sem, Nat.reduceBEq, Nat.reduceAdd]; refine ⟨by simp, ?_⟩; exact M_done (res := fun (r : Bool) => .bv r) ok17 h
    ·refine V_go 1 ?_; dsimp only [e17, e17_L0, go_sem, Nat.reduceBEq, Nat.reduceAdd]; refine ⟨by simp, ?_⟩; refine M_loop h (fun (x12 : Int) => (⟨(.any :: .sl 1 (List.map intRow x2) :: .ptr 0 0 :: .any :: .any :: .iv x12 :: an 39 []), [some ⟨24, [.iv x1.N, .sl 2 (List.map Edge.row x1.Edges)]⟩], []⟩ : St)) (by simp [go_sem]) (by intro x12; first | rfl | simp [go_sem]) ?_; rintro n1 x12 y1 h hin1 hout1; rw [m_narthexref11_Right_l1] at h; (try dsimp only); refine V_go 9 ?_; dsimp only [e17, e17_L0, go_sem, Nat.reduceBEq, Nat.reduceAdd]; refine ⟨by simp, ?_⟩
     refine M_ite h rfl (fun _ h => ?_) fun _ h => ?_
     ·refine V_go 4 ?_; dsimp only [e17, e17_L0, go_sem, Nat.reduceBEq, Nat.reduceAdd]; refine ⟨by simp, ?_⟩; refine V_drw (by kernel_rfl) fun all hall hs hnap haf => ?_; dsimp only [go_sem, Nat.reduceBEq, Nat.reduceAdd]
      refine G_goE hall hs haf hnap 8 11 [true, true, true, true, false, false, false, false, false, true, true, true, true, false, false, false, false, false, false] (⟨(.any :: .sl 1 (List.map intRow x2) :: .ptr 0 0 :: .any :: .any :: .iv x12 :: an 13 (.iv x12 :: .ptr 0 1 :: .sl 2 (List.map Edge.row x1.Edges) :: .iv (ln Edge.row x1.Edges) :: .bv (decide (x12 < (ln Edge.row x1.Edges))) :: .any :: .any :: .sl 1 (List.map intRow x2) :: .ptr 0 1 :: .sl 2 (List.map Edge.row x1.Edges) :: .iv x12 :: an 5 (.sl 1 (List.map intRow x2) :: .ptr 0 1 :: .sl 2 (List.map Edge.row x1.Edges) :: .iv x12 :: an 6 []))), [some ⟨24, [.iv x1.N, .sl 2 (List.map Edge.row x1.Edges)]⟩], []⟩ : St) (by kernel_rfl) ?_
      obtain ⟨x13, ex13, h⟩ := Option.bind_eq_some_iff.1 h; refine G_idxM hall hs haf hnap 4 Edge.row ex13 rfl rfl trivial rfl rfl rfl rfl ?_; refine G_goN hall hs haf hnap 2 8 ?_; dsimp only [go_sem, Nat.reduceBEq, Nat.reduceAdd]; refine ⟨by simp, ?_⟩; obtain ⟨x14, ex14, h⟩ := Option.bind_eq_some_iff.1 h; refine G_idxM hall hs haf hnap 7 intRow ex14 rfl rfl trivial rfl rfl rfl rfl ?_; refine G_goN hall hs haf hnap 1 6 ?_; dsimp only [go_sem, Nat.reduceBEq, Nat.reduceAdd]; refine ⟨by simp, ?_⟩; obtain ⟨x15, ex15, h⟩ := Option.bind_eq_some_iff.1 h
      refine G_idxM hall hs haf hnap 13 Edge.row ex15 rfl rfl trivial rfl rfl rfl rfl ?_; refine G_goN hall hs haf hnap 2 3 ?_; dsimp only [go_sem, Nat.reduceBEq, Nat.reduceAdd]; refine ⟨by simp, ?_⟩; obtain ⟨x16, ex16, h⟩ := Option.bind_eq_some_iff.1 h; refine G_idxM hall hs haf hnap 16 intRow ex16 rfl rfl trivial rfl rfl rfl rfl ?_; refine G_goN hall hs haf hnap 2 0 ?_; dsimp only [go_sem, Nat.reduceBEq, Nat.reduceAdd]; refine ⟨by simp, ?_⟩; refine G_done rfl ?_ _; refine M_ite h rfl (fun _ h => ?_) fun _ h => ?_
      ·refine V_go 4 ?_; dsimp only [e17, e17_L0, go_sem, Nat.reduceBEq, Nat.reduceAdd]; refine ⟨by simp, ?_⟩; exact M_done (res := fun (r : Bool) => .bv r) ok17 (M_out h hout1)
      ·refine V_go 7 ?_; dsimp only [e17, e17_L0, go_sem, Nat.reduceBEq, Nat.reduceAdd]; refine ⟨by simp, ?_⟩; exact M_back h hin1
     ·refine V_go 1 ?_; dsimp only [e17, e17_L0, go_sem, Nat.reduceBEq, Nat.reduceAdd]; refine ⟨by simp, ?_⟩; exact M_to J2 (s := ()) (M_out h hout1)
  ·refine M_case 9 h rfl (fun _ h => ?_) fun _ h => ?_
   ·dsimp only [go_sem, Nat.reduceBEq, Nat.reduceAdd]; refine V_go 10 ?_; dsimp only [e17, e17_L0, go_sem, Nat.reduceBEq, Nat.reduceAdd]; refine ⟨by simp, ?_⟩; exact M_to J1 (s := true) h
   ·dsimp only [go_sem, Nat.reduceBEq, Nat.reduceAdd]; refine V_go 2 ?_; dsimp only [e17, e17_L0, go_sem, Nat.reduceBEq, Nat.reduceAdd]; refine ⟨by simp, ?_⟩; obtain ⟨x4, ex4, h⟩ := Option.bind_eq_some_iff.1 h; refine V_call trivial (k_narthexref11_Check x1 x2 _ ex4) (h := ?_); refine V_go 3 ?_; dsimp only [e17, e17_L0, go_sem, Nat.reduceBEq, Nat.reduceAdd]; refine ⟨by simp, ?_⟩; refine M_case 15 h rfl (fun _ h => ?_) fun _ h => ?_
    ·dsimp only [go_sem, Nat.reduceBEq, Nat.reduceAdd]; refine V_go 4 ?_; dsimp only [e17, e17_L0, go_sem, Nat.reduceBEq, Nat.reduceAdd]; refine ⟨by simp, ?_⟩; exact M_to J1 (s := true) h
    ·dsimp only [go_sem, Nat.reduceBEq, Nat.reduceAdd]; refine V_go 1 ?_; dsimp only [e17, e17_L0, go_sem, Nat.reduceBEq, Nat.reduceAdd]; refine ⟨by simp, ?_⟩; obtain ⟨x5, ex5, h⟩ := Option.bind_eq_some_iff.1 h; refine V_call trivial (k_narthexref01_Has x2 0 _ ex5) (h := ?_); refine V_go 2 ?_; dsimp only [e17, e17_L0, go_sem, Nat.reduceBEq, Nat.reduceAdd]; refine ⟨by simp, ?_⟩; exact M_to J1 (s := x5) h
end NX
end Go.Proofs.Ytadebhbiglmodaa
/-
  Plain laws: colours, and what the references say of graphs and nodes. No statement of the seat is proved here.
-/
namespace Go.Proofs.Ytadebhbiglmodaa
namespace NX
open Go
/-- A colour. -/
def cg (c : List Int) (i : Int) : Int := (c[i.toNat]?).getD 0
theorem at_cg {c : List Int} {i : Int} (h0 : 0 ≤ i) (h : i < c.length) : at_ c i = some (cg c i) := by
  obtain ⟨x, h1, h2⟩ := at_lt h0 h
  rw [h1, cg, h2]; rfl
/-- Colours of a graph. -/
def rightB (g : Graph) (c : List Int) : Bool := decide ((c.length : Int) = g.N) && (c.all (fun x => decide (1 ≤ x)) && g.Edges.all (fun e => !decide (cg c e.A = cg c e.B)))
theorem s_Right (g : Graph) (c : List Int) (_ : c.length ≤ 1000000) : m_colour_Right g c = some (okG g && rightB g c) := by
  simp only [m_colour_Right, s_Check, Option.bind_some, ifb_not]
  cases hg : okG g with
  | false => simp [m_colour_Right_j1]
  | true =>
    obtain ⟨g1, g2, g3, g4, g5⟩ := okG_parts hg
    simp only [if_true, decide_true, ifb_true, Bool.true_and, ln_eq]
    by_cases hl : (c.length : Int) = g.N
    · rw [s_ContainsFunc_int c (fun z => m_colour_Right_1 z) (fun x => decide (x < 1)) (by omega) (fun x _ => rfl)]
      simp only [hl, decide_true, ifb_true, Option.bind_some, rightB, Bool.true_and]
      have e1 : c.any (fun x => decide (x < 1)) = !c.all (fun x => decide (1 ≤ x)) := any_not_all _ _ _ (fun x => by
        by_cases h : x < 1
        · have : ¬ 1 ≤ x := by omega
          simp [h, this]
        · have : 1 ≤ x := by omega
          simp [h, this])
      rw [e1]
      cases hp : c.all (fun x => decide (1 ≤ x)) with
      | false => simp [m_colour_Right_j1]
      | true =>
        simp only [Bool.not_true, m_colour_Right_j1, ifb_false]
        rw [s_ContainsFunc_Edge g.Edges _ (fun e => decide (cg c e.A = cg c e.B)) (by omega) (fun e he => by
          obtain ⟨k1, k2, k3⟩ := g4 e he
          simp only [m_colour_Right_2, at_cg (c := c) k1 (by omega), at_cg (c := c) (show 0 ≤ e.B by omega) (by omega), Option.bind_some])]
        simp [all_not_any]
    · simp [hl, rightB, m_colour_Right_j1]
/-! The references -/
theorem s_ahead (x y : Edge) : m_narthexref03_ahead x y = some (x.lt y) := by
  simp only [m_narthexref03_ahead, m_narthexref03_ahead_j1, Edge.lt]
  by_cases h1 : x.A < y.A
  · simp [h1]
  · by_cases h2 : x.A = y.A <;> simp [h1, h2]
theorem s_r03Check (g : Graph) : m_narthexref03_Check g = some (okG g) := by
  simp only [m_narthexref03_Check, m_narthexref03_Check_j1]
  by_cases h1 : g.N < 0
  · have : ¬ 0 ≤ g.N := by omega
    simp [h1, okG, this]
  by_cases h2 : 64 < g.N
  · have : ¬ g.N ≤ 64 := by omega
    simp [h1, h2, okG, this]
  by_cases h3 : 400 < g.Edges.length
  · have : ¬ g.Edges.length ≤ 400 := by omega
    have h3' : (400 : Int) < ln Edge.row g.Edges := by rw [ln_eq]; omega
    simp [h1, h2, h3', okG, this]
  have h3' : ¬ (400 : Int) < ln Edge.row g.Edges := by rw [ln_eq]; omega
  have e1 : 0 ≤ g.N := by omega
  have e2 : g.N ≤ 64 := by omega
  have e3 : g.Edges.length ≤ 400 := by omega
  simp only [h1, h2, h3', decide_false, ifb_false, okG, e1, e2, e3, decide_true, Bool.true_and]
  have key := loop_pairs g.Edges (m_narthexref03_Check_l1 g) false true (fun e => !e.ok g.N) (by omega) (fun k x hx => by
    have hw : wr ((k : Int) + 1) = ((k + 1 : Nat) : Int) := wr_succ' hx (by omega)
    simp only [m_narthexref03_Check_l1, lt_len hx, ifb_true, at_get hx, Option.bind_some, m_narthexref03_Check_j3, hw, Edge.ok]
    by_cases k1 : x.A < 0
    · have : ¬ 0 ≤ x.A := by omega
      simp [k1, this]
    · have k1' : 0 ≤ x.A := by omega
      by_cases k2 : x.B ≤ x.A
      · have : ¬ x.A < x.B := by omega
        simp [k1, k2, this]
      · have k2' : x.A < x.B := by omega
        by_cases k3 : g.N ≤ x.B
        · have : ¬ x.B < g.N := by omega
          simp [k1, k2, k3, this]
        · have k3' : x.B < g.N := by omega
          simp only [k1, k2, k3, k1', k2', k3', decide_false, decide_true, ifb_false, Bool.and_self, Bool.not_true, Bool.false_or]
          cases k with
          | zero => simp
          | succ k =>
            have hk := (List.getElem?_eq_some_iff.1 hx).1
            have hy : g.Edges[k]? = some g.Edges[k] := List.getElem?_eq_getElem (by omega)
            have h0 : decide ((0 : Int) < ((k + 1 : Nat) : Int)) = true := decide_eq_true (by omega)
            simp only [h0, ifb_true, wr_pred (show k ≤ 4000000000000000000 by omega), at_get hy, hy, Option.bind_some, s_ahead]
            cases g.Edges[k].lt x <;> simp)
    (by simp only [m_narthexref03_Check_l1, nlt_len, ifb_false, m_narthexref03_Check_j2, Option.map_some])
  rw [key]
  have : g.Edges.all (fun x => !!Edge.ok g.N x) = g.Edges.all (Edge.ok g.N) := by simp
  rw [this]
  cases g.Edges.all (Edge.ok g.N) && risB g.Edges <;> rfl
theorem s_r11Check (g : Graph) (c : List Int) (hc : c.length ≤ 1000000) : m_narthexref11_Check g c = some (decide ((c.length : Int) = g.N) && c.all (fun x => decide (0 ≤ x))) := by
  unfold m_narthexref11_Check
  rw [loop_any c (m_narthexref11_Check_l1 g c) (fun x => decide (x < 0)) false (decide ((c.length : Int) = g.N)) (by omega) (fun k x hx => by
    have hw : wr ((k : Int) + 1) = ((k + 1 : Nat) : Int) := wr_succ' hx (by omega)
    simp only [m_narthexref11_Check_l1, lt_len hx, ifb_true, at_get hx, Option.bind_some, hw]
    by_cases h : x < 0 <;> simp [h])
    (by simp only [m_narthexref11_Check_l1, nlt_len, ifb_false, m_narthexref11_Check_j1, Option.map_some]; rw [ln_eq])]
  have e1 : c.any (fun x => decide (x < 0)) = !c.all (fun x => decide (0 ≤ x)) := any_not_all _ _ _ (fun x => by
    by_cases h : x < 0
    · have : ¬ 0 ≤ x := by omega
      simp [h, this]
    · have : 0 ≤ x := by omega
      simp [h, this])
  rw [e1]
  cases c.all (fun x => decide (0 ≤ x)) <;> simp
theorem s_r01Has (l : List Int) (x : Int) (hl : l.length ≤ 1000000) : m_narthexref01_Has l x = some (decide (x ∈ l)) := by
  unfold m_narthexref01_Has
  rw [loop_any l (m_narthexref01_Has_l1 l x) (fun y => decide (y = x)) true false (by omega) (fun k y hy => by
    have hw : wr ((k : Int) + 1) = ((k + 1 : Nat) : Int) := wr_succ' hy (by omega)
    simp only [m_narthexref01_Has_l1, lt_len hy, ifb_true, at_get hy, Option.bind_some, hw]
    by_cases h : y = x <;> simp [h])
    (by simp only [m_narthexref01_Has_l1, nlt_len, ifb_false, m_narthexref01_Has_j1, Option.map_some])]
  by_cases h : x ∈ l
  · have : l.any (fun y => decide (y = x)) = true := by rw [List.any_eq_true]; exact ⟨x, h, by simp⟩
    simp [this, h]
  · have : l.any (fun y => decide (y = x)) = false := by
      rw [List.any_eq_false]; intro y hy; simp; rintro rfl; exact h hy
    simp [this, h]
theorem s_r11Right (g : Graph) (c : List Int) (hc : c.length ≤ 1000000) : m_narthexref11_Right g c = some (okG g && rightB g c) := by
  simp only [m_narthexref11_Right, s_r03Check, Option.bind_some, ifb_not]
  cases hg : okG g with
  | false => simp [m_narthexref11_Right_j1]
  | true =>
    obtain ⟨g1, g2, g3, g4, g5⟩ := okG_parts hg
    rw [s_r11Check g c hc, s_r01Has c 0 hc]
    simp only [ifb_true, Option.bind_some, Bool.true_and, rightB]
    by_cases hl : (c.length : Int) = g.N
    · simp only [hl, decide_true, Bool.true_and]
      cases h0 : c.all (fun x => decide (0 ≤ x)) with
      | false =>
        have : c.all (fun x => decide (1 ≤ x)) = false := by
          rw [List.all_eq_false] at h0 ⊢
          obtain ⟨x, hx, h⟩ := h0
          exact ⟨x, hx, by simp at h ⊢; omega⟩
        simp [m_narthexref11_Right_j1, this]
      | true =>
        simp only [ifb_true, m_narthexref11_Right_j1]
        have h0' : ∀ x ∈ c, 0 ≤ x := by rw [List.all_eq_true] at h0; intro x hx; simpa using h0 x hx
        by_cases hz : (0 : Int) ∈ c
        · have : c.all (fun x => decide (1 ≤ x)) = false := by
            rw [List.all_eq_false]; exact ⟨0, hz, by simp⟩
          simp [hz, this]
        · have : c.all (fun x => decide (1 ≤ x)) = true := by
            rw [List.all_eq_true]; intro x hx
            have := h0' x hx
            have : x ≠ 0 := by rintro rfl; exact hz hx
            simp; omega
          simp only [hz, decide_false, ifb_false, this, Bool.true_and]
          rw [loop_any g.Edges (m_narthexref11_Right_l1 g c) (fun e => decide (cg c e.A = cg c e.B)) false true (by omega) (fun k e he => by
            have hw : wr ((k : Int) + 1) = ((k + 1 : Nat) : Int) := wr_succ' he (by omega)
            obtain ⟨k1, k2, k3⟩ := g4 e (List.mem_iff_getElem?.2 ⟨k, he⟩)
            simp only [m_narthexref11_Right_l1, lt_len he, ifb_true, at_get he, Option.bind_some, at_cg (c := c) k1 (by omega), at_cg (c := c) (show 0 ≤ e.B by omega) (by omega), hw]
            by_cases h : cg c e.A = cg c e.B <;> simp [h])
            (by simp only [m_narthexref11_Right_l1, nlt_len, ifb_false, m_narthexref11_Right_j2, Option.map_some])]
          rw [all_not_any]
          cases g.Edges.any (fun e => decide (cg c e.A = cg c e.B)) <;> rfl
    · simp [hl, m_narthexref11_Right_j1]
/-- Is there an edge between two nodes? -/
def hasB (g : Graph) (a b : Int) : Bool := g.Edges.any fun e => (decide (e.A = a) && (decide (e.B = b) && decide (a ≤ b))) || (decide (e.A = b) && (decide (e.B = a) && decide (b < a)))
theorem s_r03Has (g : Graph) (a b : Int) (hl : g.Edges.length ≤ 1000000) : m_narthexref03_Has g a b = some (hasB g a b) := by
  unfold m_narthexref03_Has hasB
  rw [loop_any g.Edges (m_narthexref03_Has_l1 g a b) (fun e => (decide (e.A = a) && (decide (e.B = b) && decide (a ≤ b))) || (decide (e.A = b) && (decide (e.B = a) && decide (b < a)))) true false (by omega) (fun k e he => by
    have hw : wr ((k : Int) + 1) = ((k + 1 : Nat) : Int) := wr_succ' he (by omega)
    simp only [m_narthexref03_Has_l1, lt_len he, ifb_true, at_get he, Option.bind_some, m_narthexref03_Has_j2, hw]
    generalize decide (e.A = a) = p1; generalize decide (e.B = b) = p2; generalize decide (a ≤ b) = p3; generalize decide (e.A = b) = p4; generalize decide (e.B = a) = p5; generalize decide (b < a) = p6
    cases p1 <;> cases p2 <;> cases p3 <;> cases p4 <;> cases p5 <;> cases p6 <;> rfl)
    (by simp only [m_narthexref03_Has_l1, nlt_len, ifb_false, m_narthexref03_Has_j1, Option.map_some])]
  generalize List.any _ _ = p
  cases p <;> rfl
end NX
end Go.Proofs.Ytadebhbiglmodaa
/-
  The symbolic machine: own slices of integers, sorted by the library. No statement of the seat is proved here.
-/
namespace Go.Proofs.Ytadebhbiglmodaa
namespace NX
open Go Go.RowKit

section
variable {c : Ctx} {M : Mem} {S S' : St} {a : Act} {w : World} {fn : Func} {K : AV → List (Option Blk) → List (Option Sl) → Prop} {k : List It} {bs : List (Option Blk)} {ss : List (Option Sl)}
theorem isLL_ints {M : Mem} {zs : List Int} {vss : List (List Value)} (h : AV.isLL M 1 (zs.map intRow) vss) : vss.flatten = zs.map (Value.int .i64) := by
  induction zs generalizing vss with
  | nil => simp [AV.isLL] at h; subst h; rfl
  | cons z zs ih =>
    obtain ⟨v, r, rfl, h1, h2, h3⟩ := h
    obtain ⟨u, q, rfl, h4, h5⟩ := h2
    simp only [AV.isL] at h5
    simp only [AV.is] at h4
    subst h5; subst h4
    simp [ih h3]
theorem ints_isLL {M : Mem} : ∀ (zs : List Int), ∃ vss, AV.isLL M 1 (zs.map intRow) vss ∧ vss.flatten = zs.map (Value.int .i64)
  | [] => ⟨[], rfl, rfl⟩
  | z :: zs => by
    obtain ⟨vss, h1, h2⟩ := ints_isLL (M := M) zs
    exact ⟨[.int .i64 z] :: vss, ⟨_, _, rfl, rfl, ⟨_, _, rfl, rfl, rfl⟩, h1⟩, by simp [h2]⟩
/-- An own slice of integers is sorted by the library. -/
theorem sem_sort {ρ : Shelf.Ren} (Ly : Lays.n189 c.P ρ) {j T : Nat} {x : X} {zs : List Int} (hx : S.x x = .osl j) (hj : oget S.ss j = some ⟨T, 1, zs.map intRow⟩) (hlen : zs.length < 4611686018427387904) :
    Sem1 c S (.call (ρ.f 189) [x]) (.tup []) ⟨S.tm, S.bs, oput S.ss j (some ⟨T, 1, (zs.mergeSort fun x y => decide (x ≤ y)).map intRow⟩)⟩ := by
  intro ro ho M a w hT next Q hn
  obtain ⟨dst, op, ty, pos, af, gd⟩ := ro
  dsimp only at ho
  obtain ⟨cargs, argTypes, rfl, hfn, hxs⟩ := cO_call ho
  obtain ⟨q, rfl⟩ : ∃ q, cargs = #[q] := by
    have : cargs.toList.length = 1 := by have := congrArg List.length hxs; simpa using this
    obtain ⟨l⟩ := cargs
    match l, this with
    | [q], _ => exact ⟨q, rfl⟩
  have hqx : cX q = x := by simpa using hxs
  have hq := X_is hT q
  rw [hqx, hx] at hq
  obtain ⟨hjn, hq⟩ := hq
  obtain ⟨g0, vss, h1, h2, h3, h4⟩ := hT.st.slc j _ hj
  dsimp only at h1 h3 g0
  have hfl := isLL_ints h1
  have hrun : (execOp a.eval ⟨dst, .call ⟨.value (.func (ρ.f 189)), #[q], argTypes⟩, ty, pos, af, gd⟩).run c.P w = .ok (.enter (ρ.f 189) (#[q].map a.eval)) w := by
    have he : a.eval (.func (ρ.f 189)) = .func (.func (ρ.f 189)) #[] #[] := rfl
    generalize a.eval = ρ' at *
    simp [execOp, resolve, Deferred.ofValue, invoke, he, callFunc_run hfn]
  have e1 : (#[q].map a.eval) = #[M.σ j] := by
    apply Array.ext'; simp; exact hq
  rw [e1] at hrun
  unfold Oper.wp
  rw [hrun]
  show Calls c.P (ρ.f 189) #[M.σ j] w _
  obtain ⟨rs, hr1, hr2⟩ := ints_isLL (M := M.pure) (zs.mergeSort fun x y => decide (x ≤ y))
  have hone : ∀ v ∈ rs.flatten, v.oneCell' = true := by
    rw [hr2]; intro v hv
    obtain ⟨z, _, rfl⟩ := List.mem_map.1 hv; rfl
  have hl2 : (zs.mergeSort fun x y => decide (x ≤ y)).length = zs.length := by simp
  rcases h3.2 with ⟨e2, e3⟩ | ⟨g, cap, cur, e2, hb, e3, e4, e5, e6, e7⟩
  · have hz : zs = [] := by simpa using e3
    subst hz
    rw [e2]
    refine (Any.slices_Sort_int_none Ly none 0 w).mono ?_
    rintro e w' ⟨rfl, rfl⟩
    refine hn M _ _ (.refl M) ?_ ⟨[], rfl, rfl⟩
    have : oput S.ss j (some (⟨T, 1, ([].mergeSort fun (x y : Int) => decide (x ≤ y)).map intRow⟩ : Sl)) = S.ss := by
      have hj' := hj
      simp only [List.map_nil] at hj'
      have : ∀ (l : List (Option Sl)) (j : Nat) (L : Sl), oget l j = some L → oput l j (some L) = l := by
        intro l
        induction l with
        | nil => intro j L h; simp [oget] at h
        | cons x l ih => intro j L h; cases j with
          | zero => simp [oget] at h; subst h; rfl
          | succ j => simp only [oput]; rw [ih j L (by simpa [oget] using h)]
      simpa using this _ _ _ hj'
    rw [this]; exact hT.st
  · have e4' : zs.length ≤ cap := by simpa using e4
    rw [e2]
    simp only [List.length_map]
    rw [Nat.mul_one, List.length_map] at e7
    rw [hfl] at e7
    refine (Any.slices_Sort_int Ly g 0 cap zs w (holds_of_blockI e3 e7) (Array.getElem?_eq_some_iff.1 e3).1 hlen).mono ?_
    rintro e w' ⟨rfl, n, os, rfl⟩
    refine hn M _ _ (.refl M) ?_ ⟨[], rfl, rfl⟩
    refine hT.st.rewrite hj (g := g) (by rw [e2]; rfl) (grownBy_sortedI _) (vss' := rs) hr1 hone ?_
    rw [hr2, List.length_map, hl2, e2, List.length_map]
    exact ownsRow_sortedI (ss := zs) hl2 hb e3 e4' e5 e6
theorem V_sort {ρ : Shelf.Ren} (Ly : Lays.n189 c.P ρ) {d : Option Nat} {g : Option (Nat × Bool)} {l : List EOp} {j T f : Nat} {x : X} (zs : List Int) (hg : gm S g) (hf : f = ρ.f 189) (hx : S.x x = .osl j) (hj : oget S.ss j = some ⟨T, 1, zs.map intRow⟩) (hlen : zs.length < 4611686018427387904)
    (h : V c fn K (.ops l :: k) ((⟨S.tm, S.bs, oput S.ss j (some ⟨T, 1, (zs.mergeSort fun x y => decide (x ≤ y)).map intRow⟩)⟩ : St).put d (.tup []))) : V c fn K (.ops (⟨d, g, .call f [x]⟩ :: l) :: k) S := by
  subst hf
  exact V_sem hg (sem_sort Ly hx hj hlen) rfl h

end
end NX
end Go.Proofs.Ytadebhbiglmodaa
/-
  The function slices.Clone[[]int,int]: its code compiled, a model, and that the code answers as the model. Written by a program of ours (lb.py). No statement of the seat is proved here.
-/
namespace Go.Proofs.Ytadebhbiglmodaa
namespace NX
open Go
set_option maxRecDepth 100000
set_option maxHeartbeats 4000000
def e89 : EC := .seq (.reg [⟨(some 2), none, .mv (.c .nl)⟩]) (.seq (.seq (.reg [⟨(some 3), none, .mv (.t 0)⟩, ⟨(some 4), none, .isnil false (.t 3)⟩]) (.ite (.t 4) (.seq (.reg [⟨(some 2), none, .mv (.c .nl)⟩]) (.ret)) (.skip))) (.seq (.reg [⟨(some 5), none, .bsl 3 1 0 [.iv 0] []⟩, ⟨(some 6), none, .mv (.t 0)⟩, ⟨(some 7), none, .app 3 1 8 (.t 5) (.t 6)⟩, ⟨(some 2), none, .mv (.t 7)⟩]) (.ret)))
theorem ok89 : FnOK Try.prog 89 Try.f89 e89 [.t 2] 1 7 := ⟨by kernel_rfl, ⟨_, rfl, by kernel_rfl⟩, by kernel_rfl, by kernel_rfl⟩
/- slices.Clone[[]int,int] -/
noncomputable def m_slices_Clone_int (x1 : (List Int)) : Option (List Int) := app_ 8 [] x1
theorem o_slices_Clone_int (x1 : (List Int)) (r : (List Int)) (h : m_slices_Clone_int x1 = some r) : FunO Try.prog 89 [.sl 1 (List.map intRow x1)] 3 1 (List.map intRow r) := by
  refine FunO_intro ok89 rfl fun w0 H0 => ?_
  rw [m_slices_Clone_int] at h
  refine V_go 100 ?_
  dsimp only [e89, go_sem, Nat.reduceBEq, Nat.reduceAdd]
  refine ⟨by simp, ?_⟩
  refine V_isnil trivial rfl (fun hn => ?_) ?_
  · refine V_go 100 ?_
    dsimp only [go_sem, Nat.reduceBEq, Nat.reduceAdd]
    refine ⟨by simp, ?_⟩
    refine V_own 2 3 1 rfl rfl ?_
    dsimp only [go_sem, Nat.reduceBEq, Nat.reduceAdd]
    have hn : x1 = [] := by simpa using hn
    subst hn
    exact O_doneM intRow (e := []) ok89 (by simpa [app_] using h) rfl rfl
  · refine V_go 100 ?_
    dsimp only [go_sem, Nat.reduceBEq, Nat.reduceAdd]
    refine ⟨by simp, ?_⟩
    refine V_appM intRow h trivial rfl rfl rfl ?_
    refine V_go 100 ?_
    dsimp only [go_sem, Nat.reduceBEq, Nat.reduceAdd]
    refine ⟨by simp, ?_⟩
    exact O_doneM intRow ok89 (rfl : some r = some r) rfl rfl
theorem k_slices_Clone_int (x1 : (List Int)) (r : (List Int)) (h : m_slices_Clone_int x1 = some r) : FunP Try.prog 89 [.sl 1 (List.map intRow x1)] (.sl 1 (List.map intRow r)) := (o_slices_Clone_int x1 r h).sealed
def f_slices_Clone_int (_F : Nat) (x1 : (List Int)) : Option (List Int) := app_ 8 [] x1
theorem le_slices_Clone_int {F : Nat} {x1 : (List Int)} : ole (f_slices_Clone_int F x1) (m_slices_Clone_int x1) := ole_refl _
end NX
end Go.Proofs.Ytadebhbiglmodaa
/-
  The function slices.Compact[[]int,int]: its code compiled, a model, and that the code answers as the model. Written by a program of ours (lb.py). No statement of the seat is proved here.
-/
namespace Go.Proofs.Ytadebhbiglmodaa
namespace NX
open Go
set_option maxRecDepth 100000
set_option maxHeartbeats 4000000
def e113_L1 : EC := .seq (.seq (.reg [⟨(some 29), none, .mv (.t 5)⟩, ⟨(some 30), none, .mv (.t 4)⟩, ⟨(some 31), none, .len (.t 30)⟩, ⟨(some 32), none, .bin .lss (.t 29) (.t 31)⟩]) (.ite (.t 32) (.skip) (.exit 2))) (.seq (.blk 3 (.seq (.drw [⟨(some 35), none, .mv (.t 4)⟩, ⟨(some 36), none, .mv (.t 5)⟩, ⟨(some 37), none, .idx 1 (.t 35) (.t 36)⟩, ⟨(some 38), none, .load (.t 37)⟩, ⟨(some 39), none, .mv (.t 4)⟩, ⟨(some 40), none, .mv (.t 5)⟩, ⟨(some 41), none, .bin .sub (.t 40) (.c (.iv 1))⟩, ⟨(some 42), none, .idx 1 (.t 39) (.t 41)⟩, ⟨(some 43), none, .load (.t 42)⟩, ⟨(some 44), none, .bin .neq (.t 38) (.t 43)⟩] [[], [], [0, 1], [2], [], [], [5], [4, 6], [7], [3, 8]] [[2], [2], [0, 1, 3], [2, 9], [7], [6], [5, 7], [4, 6, 8], [7, 9], [3, 8]]) (.ite (.t 44) (.seq (.reg [⟨(some 45), none, .mv (.t 0)⟩, ⟨(some 46), none, .mv (.t 3)⟩, ⟨(some 47), none, .mv (.t 4)⟩, ⟨(some 48), none, .mv (.t 5)⟩, ⟨(some 49), none, .idx 1 (.t 47) (.t 48)⟩, ⟨(some 50), none, .load (.t 49)⟩, ⟨(some 51), none, .idx 1 (.t 45) (.t 46)⟩, ⟨none, none, .store 1 (.t 51) (.t 50)⟩]) (.reg [⟨(some 52), none, .mv (.t 3)⟩, ⟨(some 53), none, .bin .add (.t 52) (.c (.iv 1))⟩, ⟨(some 3), none, .mv (.t 53)⟩])) (.skip)))) (.reg [⟨(some 33), none, .mv (.t 5)⟩, ⟨(some 34), none, .bin .add (.t 33) (.c (.iv 1))⟩, ⟨(some 5), none, .mv (.t 34)⟩]))
def e113_L0 : EC := .seq (.seq (.reg [⟨(some 10), none, .mv (.t 3)⟩, ⟨(some 11), none, .mv (.t 0)⟩, ⟨(some 12), none, .len (.t 11)⟩, ⟨(some 13), none, .bin .lss (.t 10) (.t 12)⟩]) (.ite (.t 13) (.skip) (.exit 0))) (.seq (.blk 1 (.seq (.drw [⟨(some 16), none, .mv (.t 0)⟩, ⟨(some 17), none, .mv (.t 3)⟩, ⟨(some 18), none, .idx 1 (.t 16) (.t 17)⟩, ⟨(some 19), none, .load (.t 18)⟩, ⟨(some 20), none, .mv (.t 0)⟩, ⟨(some 21), none, .mv (.t 3)⟩, ⟨(some 22), none, .bin .sub (.t 21) (.c (.iv 1))⟩, ⟨(some 23), none, .idx 1 (.t 20) (.t 22)⟩, ⟨(some 24), none, .load (.t 23)⟩, ⟨(some 25), none, .bin .eql (.t 19) (.t 24)⟩] [[], [], [0, 1], [2], [], [], [5], [4, 6], [7], [3, 8]] [[2], [2], [0, 1, 3], [2, 9], [7], [6], [5, 7], [4, 6, 8], [7, 9], [3, 8]]) (.ite (.t 25) (.seq (.reg [⟨(some 26), none, .mv (.t 0)⟩, ⟨(some 27), none, .mv (.t 3)⟩, ⟨(some 28), none, .slice 1 (.t 26) (some (.t 27)) none⟩, ⟨(some 4), none, .mv (.t 28)⟩]) (.seq (.seq (.reg [⟨(some 5), none, .mv (.c (.iv 1))⟩]) (.blk 2 (.loop e113_L1))) (.seq (.reg [⟨(some 54), none, .mv (.t 0)⟩, ⟨(some 55), none, .mv (.t 3)⟩, ⟨(some 56), none, .slice 1 (.t 54) (some (.t 55)) none⟩, ⟨none, none, .bad⟩]) (.seq (.reg [⟨(some 57), none, .mv (.t 0)⟩, ⟨(some 58), none, .mv (.t 3)⟩, ⟨(some 59), none, .slice 1 (.t 57) none (some (.t 58))⟩, ⟨(some 2), none, .mv (.t 59)⟩]) (.ret))))) (.skip)))) (.reg [⟨(some 14), none, .mv (.t 3)⟩, ⟨(some 15), none, .bin .add (.t 14) (.c (.iv 1))⟩, ⟨(some 3), none, .mv (.t 15)⟩]))
def e113 : EC := .seq (.reg [⟨(some 2), none, .mv (.c .nl)⟩]) (.seq (.seq (.reg [⟨(some 6), none, .mv (.t 0)⟩, ⟨(some 7), none, .len (.t 6)⟩, ⟨(some 8), none, .bin .lss (.t 7) (.c (.iv 2))⟩]) (.ite (.t 8) (.seq (.reg [⟨(some 9), none, .mv (.t 0)⟩, ⟨(some 2), none, .mv (.t 9)⟩]) (.ret)) (.skip))) (.seq (.seq (.reg [⟨(some 3), none, .mv (.c (.iv 1))⟩]) (.blk 0 (.loop e113_L0))) (.seq (.reg [⟨(some 60), none, .mv (.t 0)⟩, ⟨(some 2), none, .mv (.t 60)⟩]) (.ret))))
theorem ok113 : FnOK Try.prog 113 Try.f113 e113 [.t 2] 1 60 := ⟨by kernel_rfl, ⟨_, rfl, by kernel_rfl⟩, by kernel_rfl, by kernel_rfl⟩
/- slices.Compact[[]int,int] -/
noncomputable def m_slices_Compact_int_j1 (x1 : (List Int)) : Unit → Option (List Int)
| () =>
 some x1
noncomputable def m_slices_Compact_int_l1 (x1 : (List Int)) : Int → Option (Int ⊕ (List Int))
| x21 =>
 ifb (decide (x21 < (ln intRow x1))) (
 (at_ x1 x21).bind fun x22 =>
 (at_ x1 (wr (x21 - 1))).bind fun x23 =>
 ifb (decide (x22 = x23)) (
 none) (
 some (.inl (wr (x21 + 1))))) (
 Option.map Sum.inr ((m_slices_Compact_int_j1 x1) ()))
noncomputable def m_slices_Compact_int (x1 : (List Int)) : Option (List Int) :=
 ifb (decide ((ln intRow x1) < 2)) (
 some x1) (
 loop (m_slices_Compact_int_l1 x1) 1)
theorem k_slices_Compact_int (x1 : (List Int)) (r : (List Int)) (h : m_slices_Compact_int x1 = some r) : FunP Try.prog 113 [.sl 1 (List.map intRow x1)] (.sl 1 (List.map intRow r)) := by
  refine FunP_intro ok113 rfl rfl fun w0 H0 => ?_
  rw [m_slices_Compact_int] at h
  refine V_go 11 ?_; dsimp only [e113, e113_L0, e113_L1, go_sem, Nat.reduceBEq, Nat.reduceAdd]; refine ⟨by simp, ?_⟩; refine M_ite h rfl (fun _ h => ?_) fun _ h => ?_
  ·refine V_go 5 ?_; dsimp only [e113, e113_L0, e113_L1, go_sem, Nat.reduceBEq, Nat.reduceAdd]; refine ⟨by simp, ?_⟩; exact M_done (res := fun (r : (List Int)) => .sl 1 (List.map intRow r)) ok113 h
  ·refine V_go 6 ?_; dsimp only [e113, e113_L0, e113_L1, go_sem, Nat.reduceBEq, Nat.reduceAdd]; refine ⟨by simp, ?_⟩; refine V_join (fun (_ : Unit) => (⟨(.sl 1 (List.map intRow x1) :: an 60 []), [], []⟩ : St)) (m_slices_Compact_int_j1 x1) r ?_ fun J1 => ?_
   ·rintro ⟨⟩ h; rw [m_slices_Compact_int_j1] at h; (try dsimp only); refine V_go 5 ?_; dsimp only [e113, e113_L0, e113_L1, go_sem, Nat.reduceBEq, Nat.reduceAdd]; refine ⟨by simp, ?_⟩; exact M_done (res := fun (r : (List Int)) => .sl 1 (List.map intRow r)) ok113 h
   ·refine V_go 1 ?_; dsimp only [e113, e113_L0, e113_L1, go_sem, Nat.reduceBEq, Nat.reduceAdd]; refine ⟨by simp, ?_⟩; refine M_loop h (fun (x21 : Int) => (⟨(.sl 1 (List.map intRow x1) :: .any :: .any :: .iv x21 :: an 57 []), [], []⟩ : St)) (by simp [go_sem]) (by intro x21; first | rfl | simp [go_sem]) ?_; rintro n1 x21 y1 h hin1 hout1; rw [m_slices_Compact_int_l1] at h; (try dsimp only); refine V_go 8 ?_; dsimp only [e113, e113_L0, e113_L1, go_sem, Nat.reduceBEq, Nat.reduceAdd]; refine ⟨by simp, ?_⟩; refine M_ite h rfl (fun _ h => ?_) fun _ h => ?_
    ·refine V_go 4 ?_; dsimp only [e113, e113_L0, e113_L1, go_sem, Nat.reduceBEq, Nat.reduceAdd]; refine ⟨by simp, ?_⟩; refine V_drw (by kernel_rfl) fun all hall hs hnap haf => ?_; dsimp only [go_sem, Nat.reduceBEq, Nat.reduceAdd]; refine G_goN hall hs haf hnap 5 5 ?_; dsimp only [go_sem, Nat.reduceBEq, Nat.reduceAdd]; refine ⟨by simp, ?_⟩; obtain ⟨x22, ex22, h⟩ := Option.bind_eq_some_iff.1 h; refine G_idxM hall hs haf hnap 2 intRow ex22 rfl rfl trivial rfl rfl rfl rfl ?_; refine G_goN hall hs haf hnap 1 3 ?_; dsimp only [go_sem, Nat.reduceBEq, Nat.reduceAdd]; refine ⟨by simp, ?_⟩
     obtain ⟨x23, ex23, h⟩ := Option.bind_eq_some_iff.1 h; refine G_idxM hall hs haf hnap 7 intRow ex23 rfl rfl trivial rfl rfl rfl rfl ?_; refine G_goN hall hs haf hnap 2 0 ?_; dsimp only [go_sem, Nat.reduceBEq, Nat.reduceAdd]; refine ⟨by simp, ?_⟩; refine G_done rfl ?_ _; refine M_ite h rfl (fun _ h => ?_) fun _ h => ?_
     ·cases h
     ·refine V_go 7 ?_; dsimp only [e113, e113_L0, e113_L1, go_sem, Nat.reduceBEq, Nat.reduceAdd]; refine ⟨by simp, ?_⟩; exact M_back h hin1
    ·refine V_go 1 ?_; dsimp only [e113, e113_L0, e113_L1, go_sem, Nat.reduceBEq, Nat.reduceAdd]; refine ⟨by simp, ?_⟩; exact M_to J1 (s := ()) (M_out h hout1)
def f_slices_Compact_int_j1 (_F : Nat) (x1 : (List Int)) : Unit → Option (List Int)
| () =>
 some x1
theorem le_slices_Compact_int_j1 {F : Nat} {x1 : (List Int)} : ∀ s, ole (f_slices_Compact_int_j1 F x1 s) (m_slices_Compact_int_j1 x1 s) := by
  rintro ⟨⟩
  unfold f_slices_Compact_int_j1 m_slices_Compact_int_j1
  try dsimp only
  with_reducible repeat' first | exact ole_refl _ | assumption | intro _ | refine ole_ifb ?_ ?_ | refine ole_bind ?_ ?_ | refine ole_map ?_ | refine ole_loop ?_
def f_slices_Compact_int_l1 (F : Nat) (x1 : (List Int)) : Int → Option (Int ⊕ (List Int))
| x21 =>
 ifb (decide (x21 < (ln intRow x1))) (
 (at_ x1 x21).bind fun x22 =>
 (at_ x1 (wr (x21 - 1))).bind fun x23 =>
 ifb (decide (x22 = x23)) (
 none) (
 some (.inl (wr (x21 + 1))))) (
 Option.map Sum.inr ((f_slices_Compact_int_j1 F x1) ()))
theorem le_slices_Compact_int_l1 {F : Nat} {x1 : (List Int)} : ∀ s, ole (f_slices_Compact_int_l1 F x1 s) (m_slices_Compact_int_l1 x1 s) := by
  intro x21
  unfold f_slices_Compact_int_l1 m_slices_Compact_int_l1
  try dsimp only
  with_reducible repeat' first | exact ole_refl _ | assumption | intro _ | refine ole_ifb ?_ ?_ | refine ole_bind ?_ ?_ | refine ole_map ?_ | refine ole_loop ?_ | apply le_slices_Compact_int_j1
def f_slices_Compact_int (F : Nat) (x1 : (List Int)) : Option (List Int) :=
 ifb (decide ((ln intRow x1) < 2)) (
 some x1) (
 loopF F (f_slices_Compact_int_l1 F x1) 1)
theorem le_slices_Compact_int {F : Nat} {x1 : (List Int)} : ole (f_slices_Compact_int F x1) (m_slices_Compact_int x1) := by
  unfold f_slices_Compact_int m_slices_Compact_int
  with_reducible repeat' first | exact ole_refl _ | assumption | intro _ | refine ole_ifb ?_ ?_ | refine ole_bind ?_ ?_ | refine ole_map ?_ | refine ole_loop ?_ | apply le_slices_Compact_int_j1 | apply le_slices_Compact_int_l1
end NX
end Go.Proofs.Ytadebhbiglmodaa
/-
  The function narthex/set.Of: its code compiled, a model, and that the code answers as the model. Written by a program of ours (lb.py). No statement of the seat is proved here.
-/
namespace Go.Proofs.Ytadebhbiglmodaa
namespace NX
open Go
set_option maxRecDepth 100000
def laysSort_ren : Go.Shelf.Ren := ⟨(fun | 189 => 112 | 125 => 128 | 257 => 127 | 128 => 142 | 129 => 143 | 294 => 133 | 295 => 134 | 296 => 135 | 297 => 136 | 298 => 137 | 299 => 138 | 216 => 139 | 300 => 140 | 301 => 141 | 328 => 146 | 329 => 147 | 330 => 148 | 331 => 149 | 332 => 150 | 215 => 126 | 343 => 151 | n => n), (fun | 28 => 25 | 3 => 3 | 46 => 151 | 0 => 0 | 51 => 167 | 53 => 169 | 4 => 4 | 183 => 159 | 182 => 158 | 131 => 164 | 5 => 5 | 9 => 9 | 218 => 174 | 222 => 178 | 228 => 180 | 229 => 181 | n => n), (fun  | n => n)⟩
theorem laysSort : Lays.n189 Try.prog laysSort_ren where
  mixed := by kernel_rfl
  f125 := Try.func128.trans (congrArg some (by kernel_rfl))
  f128 := Try.func142.trans (congrArg some (by kernel_rfl))
  f129 := Try.func143.trans (congrArg some (by kernel_rfl))
  f189 := Try.func112.trans (congrArg some (by kernel_rfl))
  f215 := Try.func126.trans (congrArg some (by kernel_rfl))
  f216 := Try.func139.trans (congrArg some (by kernel_rfl))
  f257 := Try.func127.trans (congrArg some (by kernel_rfl))
  f294 := Try.func133.trans (congrArg some (by kernel_rfl))
  f295 := Try.func134.trans (congrArg some (by kernel_rfl))
  f296 := Try.func135.trans (congrArg some (by kernel_rfl))
  f297 := Try.func136.trans (congrArg some (by kernel_rfl))
  f298 := Try.func137.trans (congrArg some (by kernel_rfl))
  f299 := Try.func138.trans (congrArg some (by kernel_rfl))
  f300 := Try.func140.trans (congrArg some (by kernel_rfl))
  f301 := Try.func141.trans (congrArg some (by kernel_rfl))
  f328 := Try.func146.trans (congrArg some (by kernel_rfl))
  f329 := Try.func147.trans (congrArg some (by kernel_rfl))
  f330 := Try.func148.trans (congrArg some (by kernel_rfl))
  f331 := Try.func149.trans (congrArg some (by kernel_rfl))
  f332 := Try.func150.trans (congrArg some (by kernel_rfl))
  f343 := Try.func151.trans (congrArg some (by kernel_rfl))
  t0 := Try.underlying0
  a0 := Try.isAgg0
  z0 := Try.sizeOf0
  v0 := Try.zeroValue0
  t3 := Try.underlying3
  a3 := Try.isAgg3
  z3 := Try.sizeOf3
  v3 := Try.zeroValue3
  t4 := Try.underlying4
  a4 := Try.isAgg4
  z4 := Try.sizeOf4
  v4 := Try.zeroValue4
  t5 := Try.underlying5
  a5 := Try.isAgg5
  z5 := Try.sizeOf5
  v5 := Try.zeroValue5
  t9 := Try.underlying9
  a9 := Try.isAgg9
  z9 := Try.sizeOf9
  v9 := Try.zeroValue9
  t28 := Try.underlying25
  a28 := Try.isAgg25
  z28 := Try.sizeOf25
  v28 := Try.zeroValue25
  t46 := Try.underlying151
  a46 := Try.isAgg151
  z46 := Try.sizeOf151
  v46 := Try.zeroValue151
  t51 := Try.underlying167
  a51 := Try.isAgg167
  z51 := Try.sizeOf167
  v51 := Try.zeroValue167
  t53 := Try.underlying169
  a53 := Try.isAgg169
  z53 := Try.sizeOf169
  v53 := Try.zeroValue169
  t131 := Try.underlying164
  a131 := Try.isAgg164
  z131 := Try.sizeOf164
  v131 := Try.zeroValue164
  t182 := Try.underlying158
  a182 := Try.isAgg158
  z182 := Try.sizeOf158
  v182 := Try.zeroValue158
  t183 := Try.underlying159
  a183 := Try.isAgg159
  z183 := Try.sizeOf159
  v183 := Try.zeroValue159
  t218 := Try.underlying174
  a218 := Try.isAgg174
  z218 := Try.sizeOf174
  v218 := Try.zeroValue174
  t222 := Try.underlying178
  a222 := Try.isAgg178
  z222 := Try.sizeOf178
  v222 := Try.zeroValue178
  t228 := Try.underlying180
  a228 := Try.isAgg180
  z228 := Try.sizeOf180
  v228 := Try.zeroValue180
  t229 := Try.underlying181
  a229 := Try.isAgg181
  z229 := Try.sizeOf181
  v229 := Try.zeroValue181


def e85 : EC := .seq (.reg [⟨(some 2), none, .mv (.c .nl)⟩]) (.seq (.reg [⟨(some 4), none, .mv (.t 0)⟩, ⟨(some 5), none, .call 89 [(.t 4)]⟩, ⟨(some 3), none, .mv (.t 5)⟩]) (.seq (.reg [⟨(some 6), none, .mv (.t 3)⟩, ⟨(some 7), none, .call 112 [(.t 6)]⟩]) (.seq (.reg [⟨(some 8), none, .mv (.t 3)⟩, ⟨(some 9), none, .call 113 [(.t 8)]⟩, ⟨(some 2), none, .mv (.t 9)⟩]) (.ret))))
theorem ok85 : FnOK Try.prog 85 Try.f85 e85 [.t 2] 1 9 := ⟨by kernel_rfl, ⟨_, rfl, by kernel_rfl⟩, by kernel_rfl, by kernel_rfl⟩
noncomputable def m_set_Of (x1 : List Int) : Option (List Int) :=
  (m_slices_Clone_int x1).bind fun x2 =>
  ifb (decide (x2.length < 4611686018427387904)) (
  m_slices_Compact_int (x2.mergeSort fun x y => decide (x ≤ y))) none
theorem k_set_Of (x1 : List Int) (r : List Int) (h : m_set_Of x1 = some r) : FunP Try.prog 85 [.sl 1 (List.map intRow x1)] (.sl 1 (List.map intRow r)) := by
  refine FunP_intro ok85 rfl rfl fun w0 H0 => ?_
  rw [m_set_Of] at h
  refine V_go 100 ?_
  dsimp only [e85, go_sem, Nat.reduceBEq, Nat.reduceAdd]
  refine ⟨by simp, ?_⟩
  obtain ⟨x2, ex2, h⟩ := Option.bind_eq_some_iff.1 h
  refine V_callO trivial (o_slices_Clone_int x1 _ ex2) (by first | exact leL_refl _ | simp [go_sem]) (by first | rfl | simp [go_sem]) ?_
  refine V_go 100 ?_
  dsimp only [e85, go_sem, Nat.reduceBEq, Nat.reduceAdd]
  refine ⟨by simp, ?_⟩
  by_cases hl : x2.length < 4611686018427387904
  · rw [show decide (x2.length < 4611686018427387904) = true from decide_eq_true hl] at h
    have h : m_slices_Compact_int (x2.mergeSort fun x y => decide (x ≤ y)) = some r := h
    refine V_sort laysSort x2 trivial (by kernel_rfl) rfl rfl hl ?_
    refine V_go 100 ?_
    dsimp only [e85, go_sem, Nat.reduceBEq, Nat.reduceAdd]
    refine ⟨by simp, ?_⟩
    refine V_seal 0 rfl ?_
    dsimp only [go_sem, Nat.reduceBEq, Nat.reduceAdd]
    refine V_call trivial (k_slices_Compact_int _ _ h) (by first | exact leL_refl _ | simp [go_sem]) (by first | rfl | simp [go_sem]) ?_
    refine V_go 100 ?_
    dsimp only [e85, go_sem, Nat.reduceBEq, Nat.reduceAdd]
    refine ⟨by simp, ?_⟩
    exact M_done (res := fun (r : List Int) => .sl 1 (List.map intRow r)) ok85 rfl (by first | exact le_refl _ | simp [go_sem])
  · rw [show decide (x2.length < 4611686018427387904) = false from decide_eq_false hl] at h
    cases h
def f_set_Of (F : Nat) (x1 : List Int) : Option (List Int) :=
  (f_slices_Clone_int F x1).bind fun x2 =>
  ifb (decide (x2.length < 4611686018427387904)) (
  f_slices_Compact_int F (x2.mergeSort fun x y => decide (x ≤ y))) none
theorem le_set_Of {F : Nat} {x1 : List Int} : ole (f_set_Of F x1) (m_set_Of x1) := by
  unfold f_set_Of m_set_Of
  repeat' first | with_reducible exact ole_refl _ | intro _ | with_reducible refine ole_ifb ?_ ?_ | with_reducible refine ole_bind ?_ ?_ | with_reducible apply le_slices_Clone_int | with_reducible apply le_slices_Compact_int
end NX
end Go.Proofs.Ytadebhbiglmodaa
/-
  The function narthex/graph.Near: its code compiled, a model, and that the code answers as the model. Written by a program of ours (lb.py). No statement of the seat is proved here.
-/
namespace Go.Proofs.Ytadebhbiglmodaa
namespace NX
open Go
set_option maxRecDepth 100000
set_option maxHeartbeats 4000000
def e51_L0 : EC := .seq (.reg [⟨(some 15), none, .bin .lss (.t 14) (.t 13)⟩]) (.seq (.ite (.t 15) (.skip) (.exit 0)) (.seq (.blk 1 (.seq (.reg [⟨(some 16), none, .idx 2 (.t 12) (.t 14)⟩, ⟨(some 17), none, .loadA 2 (.t 16)⟩, ⟨(some 7), none, .alloc 58 [.iv 0, .iv 0]⟩, ⟨none, none, .store 2 (.t 7) (.t 17)⟩]) (.seq (.reg [⟨(some 18), none, .mv (.t 1)⟩]) (.blk 2 (.seq (.reg [⟨(some 20), none, .fld 0 (.t 7)⟩, ⟨(some 21), none, .load (.t 20)⟩, ⟨(some 22), none, .bin .eql (.t 18) (.t 21)⟩, ⟨(some 19), none, .mv (.t 22)⟩]) (.ite (.t 19) (.reg [⟨(some 23), none, .mv (.t 5)⟩, ⟨(some 24), none, .fld 1 (.t 7)⟩, ⟨(some 25), none, .load (.t 24)⟩, ⟨(some 26), none, .bsl 3 1 1 [.iv 0] [(0, (.t 25))]⟩, ⟨(some 27), none, .app 3 1 8 (.t 23) (.t 26)⟩, ⟨(some 5), none, .mv (.t 27)⟩]) (.seq (.reg [⟨(some 29), none, .fld 1 (.t 7)⟩, ⟨(some 30), none, .load (.t 29)⟩, ⟨(some 31), none, .bin .eql (.t 18) (.t 30)⟩, ⟨(some 28), none, .mv (.t 31)⟩]) (.ite (.t 28) (.reg [⟨(some 32), none, .mv (.t 5)⟩, ⟨(some 33), none, .fld 0 (.t 7)⟩, ⟨(some 34), none, .load (.t 33)⟩, ⟨(some 35), none, .bsl 3 1 1 [.iv 0] [(0, (.t 34))]⟩, ⟨(some 36), none, .app 3 1 8 (.t 32) (.t 35)⟩, ⟨(some 5), none, .mv (.t 36)⟩]) (.skip))))))))) (.reg [⟨(some 37), none, .bin .add (.t 14) (.c (.iv 1))⟩, ⟨(some 14), none, .mv (.t 37)⟩])))
def e51 : EC := .seq (.reg [⟨(some 2), none, .box 24 2 (.t 0)⟩, ⟨(some 4), none, .mv (.c .nl)⟩]) (.seq (.seq (.reg [⟨(some 8), none, .loadA 2 (.t 2)⟩, ⟨(some 9), none, .call 49 [(.t 8)]⟩, ⟨(some 10), none, .bin .neq (.t 9) (.c (.iv 0))⟩]) (.ite (.t 10) (.seq (.reg [⟨(some 4), none, .mv (.c .nl)⟩]) (.ret)) (.skip))) (.seq (.reg [⟨(some 5), none, .mv (.c .nl)⟩]) (.seq (.seq (.reg [⟨(some 11), none, .fld 1 (.t 2)⟩, ⟨(some 12), none, .load (.t 11)⟩, ⟨(some 13), none, .len (.t 12)⟩, ⟨(some 14), none, .mv (.c (.iv 0))⟩]) (.blk 0 (.loop e51_L0))) (.seq (.reg [⟨(some 38), none, .mv (.t 5)⟩, ⟨(some 39), none, .call 85 [(.t 38)]⟩, ⟨(some 4), none, .mv (.t 39)⟩]) (.ret)))))
theorem ok51 : FnOK Try.prog 51 Try.f51 e51 [.t 4] 2 38 := ⟨by kernel_rfl, ⟨_, rfl, by kernel_rfl⟩, by kernel_rfl, by kernel_rfl⟩
/- narthex/graph.Near -/
noncomputable def m_graph_Near_j1  : (List Int) → Option (List Int)
| x23 =>
 (m_set_Of x23).bind fun x24 =>
 some x24
noncomputable def m_graph_Near_j2 (x10 : Int) : (List Int) → Option ((Int × (List Int)) ⊕ (List Int))
| x15 =>
 some (.inl (wr (x10 + 1), x15))
noncomputable def m_graph_Near_l1 (x1 : Graph) (x2 : Int) : (Int × (List Int)) → Option ((Int × (List Int)) ⊕ (List Int))
| (x10, x11) =>
 ifb (decide (x10 < (ln Edge.row x1.Edges))) (
 (at_ x1.Edges x10).bind fun x12 =>
 ifb (decide (x2 = x12.A)) (
 (app_ 8 x11 ([x12.B])).bind fun x13 =>
 (m_graph_Near_j2 x10) x13) (
 ifb (decide (x2 = x12.B)) (
 (app_ 8 x11 ([x12.A])).bind fun x14 =>
 (m_graph_Near_j2 x10) x14) (
 (m_graph_Near_j2 x10) x11))) (
 Option.map Sum.inr (m_graph_Near_j1 x11))
noncomputable def m_graph_Near (x1 : Graph) (x2 : Int) : Option (List Int) :=
 (m_graph_Check x1).bind fun x3 =>
 ifb (!decide (x3 = 0)) (
 some ([] : (List Int))) (
 loop (m_graph_Near_l1 x1 x2) (0, ([] : List Int)))
theorem k_graph_Near (x1 : Graph) (x2 : Int) (r : (List Int)) (h : m_graph_Near x1 x2 = some r) : FunP Try.prog 51 [.agg (Graph.row x1), .iv x2] (.sl 1 (List.map intRow r)) := by
  refine FunP_intro ok51 rfl rfl fun w0 H0 => ?_
  rw [m_graph_Near] at h
  refine V_go 9 ?_; dsimp only [e51, e51_L0, go_sem, Nat.reduceBEq, Nat.reduceAdd]; refine ⟨by simp, ?_⟩; obtain ⟨x3, ex3, h⟩ := Option.bind_eq_some_iff.1 h; refine V_call trivial (k_graph_Check x1 _ ex3) (h := ?_); refine V_go 2 ?_; dsimp only [e51, e51_L0, go_sem, Nat.reduceBEq, Nat.reduceAdd]; refine ⟨by simp, ?_⟩; refine M_ite h rfl (fun _ h => ?_) fun _ h => ?_
  ·refine V_go 4 ?_; dsimp only [e51, e51_L0, go_sem, Nat.reduceBEq, Nat.reduceAdd]; refine ⟨by simp, ?_⟩; exact M_done (res := fun (r : (List Int)) => .sl 1 (List.map intRow r)) ok51 h
  ·refine V_go 13 ?_; dsimp only [e51, e51_L0, go_sem, Nat.reduceBEq, Nat.reduceAdd]; refine ⟨by simp, ?_⟩; refine V_join (fun (x23 : (List Int)) => (⟨(an 5 (.osl 0 :: an 34 [])), [], [some ⟨3, 1, List.map intRow x23⟩]⟩ : St)) m_graph_Near_j1 r ?_ fun J1 => ?_
   ·intro x23 h; rw [m_graph_Near_j1] at h; (try dsimp only); refine V_go 3 ?_; dsimp only [e51, e51_L0, go_sem, Nat.reduceBEq, Nat.reduceAdd]; refine ⟨by simp, ?_⟩; refine V_seal 0 rfl ?_; dsimp only [go_sem, Nat.reduceBEq, Nat.reduceAdd]; obtain ⟨x24, ex24, h⟩ := Option.bind_eq_some_iff.1 h; refine V_call trivial (k_set_Of x23 _ ex24) (h := ?_); refine V_go 2 ?_; dsimp only [e51, e51_L0, go_sem, Nat.reduceBEq, Nat.reduceAdd]; refine ⟨by simp, ?_⟩; exact M_done (res := fun (r : (List Int)) => .sl 1 (List.map intRow r)) ok51 h
   ·refine V_go 1 ?_; dsimp only [e51, e51_L0, go_sem, Nat.reduceBEq, Nat.reduceAdd]; refine ⟨by simp, ?_⟩; refine V_own 5 3 1 rfl rfl ?_; dsimp only [go_sem, Nat.reduceBEq, Nat.reduceAdd]; refine M_loop h (fun ((x10, x11) : (Int × (List Int))) => (⟨(.any :: .iv x2 :: an 3 (.osl 0 :: an 6 (.sl 2 (List.map Edge.row x1.Edges) :: .iv (ln Edge.row x1.Edges) :: .iv x10 :: an 25 []))), [], [some ⟨3, 1, List.map intRow x11⟩]⟩ : St)) (by simp [go_sem]) (by rintro ⟨x10, x11⟩; first | rfl | simp [go_sem]) ?_; rintro n1 ⟨x10, x11⟩ y1 h hin1 hout1; rw [m_graph_Near_l1] at h; (try dsimp only)
    refine V_go 5 ?_; dsimp only [e51, e51_L0, go_sem, Nat.reduceBEq, Nat.reduceAdd]; refine ⟨by simp, ?_⟩; refine M_ite h rfl (fun _ h => ?_) fun _ h => ?_
    ·refine V_go 5 ?_; dsimp only [e51, e51_L0, go_sem, Nat.reduceBEq, Nat.reduceAdd]; refine ⟨by simp, ?_⟩; obtain ⟨x12, ex12, h⟩ := Option.bind_eq_some_iff.1 h; refine V_idxM Edge.row ex12 trivial rfl rfl rfl ?_; refine V_go 16 ?_; dsimp only [e51, e51_L0, go_sem, Nat.reduceBEq, Nat.reduceAdd]; refine ⟨by simp, ?_⟩; refine V_join (fun (x15 : (List Int)) => (⟨(.any :: .iv x2 :: an 3 (.osl 0 :: an 6 (.sl 2 (List.map Edge.row x1.Edges) :: .iv (ln Edge.row x1.Edges) :: .iv x10 :: an 25 []))), [], [some ⟨3, 1, List.map intRow x15⟩]⟩ : St)) (m_graph_Near_j2 x10) y1 ?_ fun J2 => ?_
     ·intro x15 h; rw [m_graph_Near_j2] at h; (try dsimp only); refine V_go 6 ?_; dsimp only [e51, e51_L0, go_sem, Nat.reduceBEq, Nat.reduceAdd]; refine ⟨by simp, ?_⟩; exact M_back h hin1
     ·refine M_ite h rfl (fun _ h => ?_) fun _ h => ?_
      ·refine V_go 5 ?_; dsimp only [e51, e51_L0, go_sem, Nat.reduceBEq, Nat.reduceAdd]; refine ⟨by simp, ?_⟩; obtain ⟨x13, ex13, h⟩ := Option.bind_eq_some_iff.1 h; refine V_appM intRow ex13 trivial rfl rfl rfl ?_; refine V_go 2 ?_; dsimp only [e51, e51_L0, go_sem, Nat.reduceBEq, Nat.reduceAdd]; refine ⟨by simp, ?_⟩; refine V_ren 2 0 rfl rfl rfl ?_; dsimp only [go_sem, Nat.reduceBEq, Nat.reduceAdd]; exact M_to J2 (s := x13) h
      ·refine V_go 7 ?_; dsimp only [e51, e51_L0, go_sem, Nat.reduceBEq, Nat.reduceAdd]; refine ⟨by simp, ?_⟩; refine M_ite h rfl (fun _ h => ?_) fun _ h => ?_
       ·refine V_go 5 ?_; dsimp only [e51, e51_L0, go_sem, Nat.reduceBEq, Nat.reduceAdd]; refine ⟨by simp, ?_⟩; obtain ⟨x14, ex14, h⟩ := Option.bind_eq_some_iff.1 h; refine V_appM intRow ex14 trivial rfl rfl rfl ?_; refine V_go 2 ?_; dsimp only [e51, e51_L0, go_sem, Nat.reduceBEq, Nat.reduceAdd]; refine ⟨by simp, ?_⟩; refine V_ren 2 0 rfl rfl rfl ?_; dsimp only [go_sem, Nat.reduceBEq, Nat.reduceAdd]; exact M_to J2 (s := x14) h
       ·refine V_go 1 ?_; dsimp only [e51, e51_L0, go_sem, Nat.reduceBEq, Nat.reduceAdd]; refine ⟨by simp, ?_⟩; exact M_to J2 (s := x11) h
    ·refine V_go 1 ?_; dsimp only [e51, e51_L0, go_sem, Nat.reduceBEq, Nat.reduceAdd]; refine ⟨by simp, ?_⟩; exact M_to J1 (s := x11) (M_out h hout1)
def f_graph_Near_j1 (F : Nat)  : (List Int) → Option (List Int)
| x23 =>
 (f_set_Of F x23).bind fun x24 =>
 some x24
theorem le_graph_Near_j1 {F : Nat} : ∀ s, ole (f_graph_Near_j1 F s) (m_graph_Near_j1 s) := by
  intro x23
  unfold f_graph_Near_j1 m_graph_Near_j1
  try dsimp only
  with_reducible repeat' first | exact ole_refl _ | assumption | intro _ | refine ole_ifb ?_ ?_ | refine ole_bind ?_ ?_ | refine ole_map ?_ | refine ole_loop ?_ | apply le_set_Of
def f_graph_Near_j2 (_F : Nat) (x10 : Int) : (List Int) → Option ((Int × (List Int)) ⊕ (List Int))
| x15 =>
 some (.inl (wr (x10 + 1), x15))
theorem le_graph_Near_j2 {F : Nat} {x10 : Int} : ∀ s, ole (f_graph_Near_j2 F x10 s) (m_graph_Near_j2 x10 s) := by
  intro x15
  unfold f_graph_Near_j2 m_graph_Near_j2
  try dsimp only
  with_reducible repeat' first | exact ole_refl _ | assumption | intro _ | refine ole_ifb ?_ ?_ | refine ole_bind ?_ ?_ | refine ole_map ?_ | refine ole_loop ?_ | apply le_set_Of | apply le_graph_Near_j1
def f_graph_Near_l1 (F : Nat) (x1 : Graph) (x2 : Int) : (Int × (List Int)) → Option ((Int × (List Int)) ⊕ (List Int))
| (x10, x11) =>
 ifb (decide (x10 < (ln Edge.row x1.Edges))) (
 (at_ x1.Edges x10).bind fun x12 =>
 ifb (decide (x2 = x12.A)) (
 (app_ 8 x11 ([x12.B])).bind fun x13 =>
 (f_graph_Near_j2 F x10) x13) (
 ifb (decide (x2 = x12.B)) (
 (app_ 8 x11 ([x12.A])).bind fun x14 =>
 (f_graph_Near_j2 F x10) x14) (
 (f_graph_Near_j2 F x10) x11))) (
 Option.map Sum.inr (f_graph_Near_j1 F x11))
theorem le_graph_Near_l1 {F : Nat} {x1 : Graph} {x2 : Int} : ∀ s, ole (f_graph_Near_l1 F x1 x2 s) (m_graph_Near_l1 x1 x2 s) := by
  rintro ⟨x10, x11⟩
  unfold f_graph_Near_l1 m_graph_Near_l1
  try dsimp only
  with_reducible repeat' first | exact ole_refl _ | assumption | intro _ | refine ole_ifb ?_ ?_ | refine ole_bind ?_ ?_ | refine ole_map ?_ | refine ole_loop ?_ | apply le_set_Of | apply le_graph_Near_j1 | apply le_graph_Near_j2
def f_graph_Near (F : Nat) (x1 : Graph) (x2 : Int) : Option (List Int) :=
 (f_graph_Check F x1).bind fun x3 =>
 ifb (!decide (x3 = 0)) (
 some ([] : (List Int))) (
 loopF F (f_graph_Near_l1 F x1 x2) (0, ([] : List Int)))
theorem le_graph_Near {F : Nat} {x1 : Graph} {x2 : Int} : ole (f_graph_Near F x1 x2) (m_graph_Near x1 x2) := by
  unfold f_graph_Near m_graph_Near
  with_reducible repeat' first | exact ole_refl _ | assumption | intro _ | refine ole_ifb ?_ ?_ | refine ole_bind ?_ ?_ | refine ole_map ?_ | refine ole_loop ?_ | apply le_set_Of | apply le_graph_Near_j1 | apply le_graph_Near_j2 | apply le_graph_Near_l1 | apply le_graph_Check
end NX
end Go.Proofs.Ytadebhbiglmodaa
/-
  The function narthex/place.Table: its code compiled, a model, and that the code answers as the model. Written by a program of ours (lb.py). No statement of the seat is proved here.
-/
namespace Go.Proofs.Ytadebhbiglmodaa
namespace NX
open Go
set_option maxRecDepth 100000
set_option maxHeartbeats 4000000
def e14_L1 : EC := .seq (.reg [⟨(some 34), none, .bin .lss (.t 33) (.t 32)⟩]) (.seq (.ite (.t 34) (.skip) (.exit 2)) (.seq (.blk 3 (.seq (.reg [⟨(some 35), none, .idx 1 (.t 31) (.t 33)⟩, ⟨(some 36), none, .load (.t 35)⟩, ⟨(some 11), none, .mv (.t 36)⟩]) (.seq (.drw [⟨(some 37), none, .mv (.t 1)⟩, ⟨(some 38), none, .mv (.t 8)⟩, ⟨(some 39), none, .idx 1 (.t 37) (.t 38)⟩, ⟨(some 40), none, .load (.t 39)⟩, ⟨(some 41), none, .mv (.t 1)⟩, ⟨(some 42), none, .mv (.t 11)⟩, ⟨(some 43), none, .idx 1 (.t 41) (.t 42)⟩, ⟨(some 44), none, .load (.t 43)⟩, ⟨(some 45), none, .bin .gtr (.t 40) (.t 44)⟩, ⟨(some 12), none, .mv (.t 45)⟩] [[], [], [0, 1], [2], [], [], [4, 5], [6], [3, 7], [8, 0, 1, 2, 3, 4, 5, 6, 7, 8]] [[2], [2], [0, 1, 3], [2, 8], [6], [6], [4, 5, 7], [6, 8], [3, 7, 9], [8]]) (.reg [⟨(some 46), none, .fld 2 (.t 9)⟩, ⟨(some 47), none, .load (.t 46)⟩, ⟨(some 48), none, .mv (.t 11)⟩, ⟨(some 49), none, .mv (.t 12)⟩, ⟨(some 50), none, .mv (.t 12)⟩, ⟨(some 51), none, .mv (.t 12)⟩, ⟨(some 52), none, .mv (.t 12)⟩, ⟨(some 53), none, .not (.t 52)⟩, ⟨(some 54), none, .mv (.t 12)⟩, ⟨(some 55), none, .not (.t 54)⟩, ⟨(some 56), none, .build [.iv 0, .iv 0, .iv 0, .ff, .ff, .ff, .ff, .ff] [(0, 1, (.t 48)), (1, 1, (.c (.iv 1))), (3, 1, (.t 49)), (4, 1, (.t 50)), (6, 1, (.t 51)), (5, 1, (.t 53)), (7, 1, (.t 55))]⟩, ⟨(some 57), none, .bsl 49 8 1 [.iv 0, .iv 0, .iv 0, .ff, .ff, .ff, .ff, .ff] [(0, (.t 56))]⟩, ⟨(some 58), none, .app 49 8 32 (.t 47) (.t 57)⟩, ⟨(some 59), none, .fld 2 (.t 9)⟩, ⟨none, none, .store 1 (.t 59) (.t 58)⟩])))) (.reg [⟨(some 60), none, .bin .add (.t 33) (.c (.iv 1))⟩, ⟨(some 33), none, .mv (.t 60)⟩])))
def e14_L0 : EC := .seq (.reg [⟨(some 25), none, .bin .lss (.t 24) (.t 23)⟩]) (.seq (.ite (.t 25) (.skip) (.exit 0)) (.seq (.blk 1 (.seq (.reg [⟨(some 26), none, .mv (.t 24)⟩, ⟨(some 8), none, .mv (.t 26)⟩]) (.seq (.reg [⟨(some 27), none, .mv (.t 8)⟩, ⟨(some 28), none, .build [.iv 0, .iv 0, .nl] [(0, 1, (.t 27))]⟩, ⟨(some 9), none, .alloc 39 [.iv 0, .iv 0, .nl]⟩, ⟨none, none, .store 3 (.t 9) (.t 28)⟩]) (.seq (.seq (.reg [⟨(some 29), none, .loadA 2 (.t 2)⟩, ⟨(some 30), none, .mv (.t 8)⟩, ⟨(some 31), none, .call 51 [(.t 29), (.t 30)]⟩, ⟨(some 32), none, .len (.t 31)⟩, ⟨(some 33), none, .mv (.c (.iv 0))⟩]) (.blk 2 (.loop e14_L1))) (.reg [⟨(some 61), none, .mv (.t 7)⟩, ⟨(some 62), none, .loadA 3 (.t 9)⟩, ⟨(some 63), none, .bsl 39 3 1 [.iv 0, .iv 0, .nl] [(0, (.t 62))]⟩, ⟨(some 64), none, .app 39 3 40 (.t 61) (.t 63)⟩, ⟨(some 7), none, .mv (.t 64)⟩]))))) (.reg [⟨(some 65), none, .bin .add (.t 24) (.c (.iv 1))⟩, ⟨(some 24), none, .mv (.t 65)⟩])))
def e14 : EC := .seq (.reg [⟨(some 2), none, .box 24 2 (.t 0)⟩, ⟨(some 4), none, .mv (.c .nl)⟩, ⟨(some 5), none, .mv (.c (.iv 0))⟩]) (.seq (.seq (.reg [⟨(some 13), none, .loadA 2 (.t 2)⟩, ⟨(some 14), none, .call 49 [(.t 13)]⟩, ⟨(some 6), none, .mv (.t 14)⟩]) (.seq (.reg [⟨(some 15), none, .mv (.t 6)⟩, ⟨(some 16), none, .bin .neq (.t 15) (.c (.iv 0))⟩]) (.ite (.t 16) (.seq (.reg [⟨(some 17), none, .mv (.t 6)⟩, ⟨(some 4), none, .mv (.c .nl)⟩, ⟨(some 5), none, .mv (.t 17)⟩]) (.ret)) (.skip)))) (.seq (.seq (.reg [⟨(some 18), none, .loadA 2 (.t 2)⟩, ⟨(some 19), none, .mv (.t 1)⟩, ⟨(some 20), none, .call 50 [(.t 18), (.t 19)]⟩, ⟨(some 21), none, .not (.t 20)⟩]) (.ite (.t 21) (.seq (.reg [⟨(some 4), none, .mv (.c .nl)⟩, ⟨(some 5), none, .mv (.c (.iv 120))⟩]) (.ret)) (.skip))) (.seq (.reg [⟨(some 7), none, .mv (.c .nl)⟩]) (.seq (.seq (.reg [⟨(some 22), none, .fld 0 (.t 2)⟩, ⟨(some 23), none, .load (.t 22)⟩, ⟨(some 24), none, .mv (.c (.iv 0))⟩]) (.blk 0 (.loop e14_L0))) (.seq (.reg [⟨(some 66), none, .mv (.t 7)⟩, ⟨(some 4), none, .mv (.t 66)⟩, ⟨(some 5), none, .mv (.c (.iv 0))⟩]) (.ret))))))
theorem ok14 : FnOK Try.prog 14 Try.f14 e14 [.t 4, .t 5] 2 65 := ⟨by kernel_rfl, ⟨_, rfl, by kernel_rfl⟩, by kernel_rfl, by kernel_rfl⟩
/- narthex/place.Table -/
noncomputable def m_place_Table_j1  : (List Diner) → Option ((List Diner) × Int)
| x68 =>
 some (x68, 0)
noncomputable def m_place_Table_j2 (x31 : Int) (x32 : (List Diner)) : (List Side) → Option ((Int × (List Diner)) ⊕ ((List Diner) × Int))
| x59 =>
 (app_ 40 x32 ([(Diner.mk x31 0 x59)])).bind fun x60 =>
 some (.inl (wr (x31 + 1), x60))
noncomputable def m_place_Table_l2 (x2 : (List Int)) (x31 : Int) (x32 : (List Diner)) (x33 : (List Int)) : (Int × (List Side)) → Option ((Int × (List Side)) ⊕ ((Int × (List Diner)) ⊕ ((List Diner) × Int)))
| (x40, x41) =>
 ifb (decide (x40 < (ln intRow x33))) (
 (at_ x33 x40).bind fun x42 =>
 (at_ x2 x31).bind fun x43 =>
 (at_ x2 x42).bind fun x44 =>
 (app_ 32 x41 ([(Side.mk x42 1 0 (decide (x44 < x43)) (decide (x44 < x43)) (!(decide (x44 < x43))) (decide (x44 < x43)) (!(decide (x44 < x43))))])).bind fun x45 =>
 some (.inl (wr (x40 + 1), x45))) (
 Option.map Sum.inr ((m_place_Table_j2 x31 x32) x41))
noncomputable def m_place_Table_l1 (x1 : Graph) (x2 : (List Int)) : (Int × (List Diner)) → Option ((Int × (List Diner)) ⊕ ((List Diner) × Int))
| (x31, x32) =>
 ifb (decide (x31 < x1.N)) (
 (m_graph_Near x1 x31).bind fun x33 =>
 loop (m_place_Table_l2 x2 x31 x32 x33) (0, ([] : List Side))) (
 Option.map Sum.inr (m_place_Table_j1 x32))
noncomputable def m_place_Table (x1 : Graph) (x2 : (List Int)) : Option ((List Diner) × Int) :=
 (m_graph_Check x1).bind fun x3 =>
 ifb (!decide (x3 = 0)) (
 some (([] : (List Diner)), x3)) (
 (m_colour_Right x1 x2).bind fun x4 =>
 ifb (!x4) (
 some (([] : (List Diner)), 120)) (
 loop (m_place_Table_l1 x1 x2) (0, ([] : List Diner))))
theorem k_place_Table (x1 : Graph) (x2 : (List Int)) (r : ((List Diner) × Int)) (h : m_place_Table x1 x2 = some r) : FunP Try.prog 14 [.agg (Graph.row x1), .sl 1 (List.map intRow x2)] (.tup [.sl 3 (List.map Diner.row r.1), .iv r.2]) := by
  refine FunP_intro ok14 rfl rfl fun w0 H0 => ?_
  rw [m_place_Table] at h
  refine V_go 10 ?_; dsimp only [e14, e14_L0, e14_L1, go_sem, Nat.reduceBEq, Nat.reduceAdd]; refine ⟨by simp, ?_⟩; obtain ⟨x3, ex3, h⟩ := Option.bind_eq_some_iff.1 h; refine V_call trivial (k_graph_Check x1 _ ex3) (h := ?_); refine V_go 7 ?_; dsimp only [e14, e14_L0, e14_L1, go_sem, Nat.reduceBEq, Nat.reduceAdd]; refine ⟨by simp, ?_⟩; refine M_ite h rfl (fun _ h => ?_) fun _ h => ?_
  ·refine V_go 6 ?_; dsimp only [e14, e14_L0, e14_L1, go_sem, Nat.reduceBEq, Nat.reduceAdd]; refine ⟨by simp, ?_⟩; exact M_done (res := fun (r : ((List Diner) × Int)) => .tup [.sl 3 (List.map Diner.row r.1), .iv r.2]) ok14 h
  ·refine V_go 6 ?_; dsimp only [e14, e14_L0, e14_L1, go_sem, Nat.reduceBEq, Nat.reduceAdd]; refine ⟨by simp, ?_⟩; obtain ⟨x4, ex4, h⟩ := Option.bind_eq_some_iff.1 h; refine V_call trivial (k_colour_Right x1 x2 _ ex4) (h := ?_); refine V_go 2 ?_; dsimp only [e14, e14_L0, e14_L1, go_sem, Nat.reduceBEq, Nat.reduceAdd]; refine ⟨by simp, ?_⟩; refine M_ite h rfl (fun _ h => ?_) fun _ h => ?_
   ·refine V_go 5 ?_; dsimp only [e14, e14_L0, e14_L1, go_sem, Nat.reduceBEq, Nat.reduceAdd]; refine ⟨by simp, ?_⟩; exact M_done (res := fun (r : ((List Diner) × Int)) => .tup [.sl 3 (List.map Diner.row r.1), .iv r.2]) ok14 h
   ·refine V_go 12 ?_; dsimp only [e14, e14_L0, e14_L1, go_sem, Nat.reduceBEq, Nat.reduceAdd]; refine ⟨by simp, ?_⟩; refine V_join (fun (x68 : (List Diner)) => (⟨(an 7 (.osl 0 :: an 59 [])), [], [some ⟨39, 3, List.map Diner.row x68⟩]⟩ : St)) m_place_Table_j1 r ?_ fun J1 => ?_
    ·intro x68 h; rw [m_place_Table_j1] at h; (try dsimp only); refine V_go 6 ?_; dsimp only [e14, e14_L0, e14_L1, go_sem, Nat.reduceBEq, Nat.reduceAdd]; refine ⟨by simp, ?_⟩; refine V_seal 0 rfl ?_; dsimp only [go_sem, Nat.reduceBEq, Nat.reduceAdd]; exact M_done (res := fun (r : ((List Diner) × Int)) => .tup [.sl 3 (List.map Diner.row r.1), .iv r.2]) ok14 h
    ·refine V_go 1 ?_; dsimp only [e14, e14_L0, e14_L1, go_sem, Nat.reduceBEq, Nat.reduceAdd]; refine ⟨by simp, ?_⟩; refine V_own 7 39 3 rfl rfl ?_; dsimp only [go_sem, Nat.reduceBEq, Nat.reduceAdd]; refine M_loop h (fun ((x31, x32) : (Int × (List Diner))) => (⟨(.any :: .sl 1 (List.map intRow x2) :: .ptr 0 0 :: an 4 (.osl 0 :: an 15 (.iv x1.N :: .iv x31 :: an 42 []))), [some ⟨24, [.iv x1.N, .sl 2 (List.map Edge.row x1.Edges)]⟩], [some ⟨39, 3, List.map Diner.row x32⟩]⟩ : St)) (by simp [go_sem]) (by rintro ⟨x31, x32⟩; first | rfl | simp [go_sem]) ?_; rintro n1 ⟨x31, x32⟩ y1 h hin1 hout1
     rw [m_place_Table_l1] at h; (try dsimp only); refine V_go 5 ?_; dsimp only [e14, e14_L0, e14_L1, go_sem, Nat.reduceBEq, Nat.reduceAdd]; refine ⟨by simp, ?_⟩; refine M_ite h rfl (fun _ h => ?_) fun _ h => ?_
     ·refine V_go 20 ?_; dsimp only [e14, e14_L0, e14_L1, go_sem, Nat.reduceBEq, Nat.reduceAdd]; refine ⟨by simp, ?_⟩; obtain ⟨x33, ex33, h⟩ := Option.bind_eq_some_iff.1 h; refine V_call trivial (k_graph_Near x1 x31 _ ex33) (h := ?_); refine V_go 3 ?_; dsimp only [e14, e14_L0, e14_L1, go_sem, Nat.reduceBEq, Nat.reduceAdd]; refine ⟨by simp, ?_⟩
      refine V_join (fun (x59 : (List Side)) => (⟨(.any :: .sl 1 (List.map intRow x2) :: .ptr 0 0 :: an 4 (.osl 0 :: .any :: .ptr 1 0 :: an 13 (.iv x1.N :: .iv x31 :: an 42 []))), [some ⟨24, [.iv x1.N, .sl 2 (List.map Edge.row x1.Edges)]⟩, some ⟨39, [.iv x31, .iv 0, .osl 1]⟩], [some ⟨39, 3, List.map Diner.row x32⟩, some ⟨49, 8, List.map Side.row x59⟩]⟩ : St)) (m_place_Table_j2 x31 x32) y1 ?_ fun J2 => ?_
      ·intro x59 h; rw [m_place_Table_j2] at h; (try dsimp only); refine V_go 3 ?_; dsimp only [e14, e14_L0, e14_L1, go_sem, Nat.reduceBEq, Nat.reduceAdd]; refine ⟨by simp, ?_⟩; refine V_seal 1 rfl ?_; dsimp only [go_sem, Nat.reduceBEq, Nat.reduceAdd]; refine V_go 1 ?_; dsimp only [e14, e14_L0, e14_L1, go_sem, Nat.reduceBEq, Nat.reduceAdd]; refine ⟨by simp, ?_⟩; obtain ⟨x60, ex60, h⟩ := Option.bind_eq_some_iff.1 h; refine V_appM Diner.row ex60 trivial rfl rfl rfl ?_; refine V_go 7 ?_; dsimp only [e14, e14_L0, e14_L1, go_sem, Nat.reduceBEq, Nat.reduceAdd]; refine ⟨by simp, ?_⟩
       refine V_ren 3 0 rfl rfl rfl ?_; dsimp only [go_sem, Nat.reduceBEq, Nat.reduceAdd]; exact M_back h hin1
      ·refine V_go 1 ?_; dsimp only [e14, e14_L0, e14_L1, go_sem, Nat.reduceBEq, Nat.reduceAdd]; refine ⟨by simp, ?_⟩; refine V_ownB 1 2 49 8 rfl rfl rfl ?_; dsimp only [go_sem, Nat.reduceBEq, Nat.reduceAdd]
       refine M_loop h (fun ((x40, x41) : (Int × (List Side))) => (⟨(.any :: .sl 1 (List.map intRow x2) :: .ptr 0 0 :: an 4 (.osl 0 :: .iv x31 :: .ptr 1 0 :: an 13 (.iv x1.N :: .iv x31 :: an 6 (.sl 1 (List.map intRow x33) :: .iv (ln intRow x33) :: .iv x40 :: an 33 [])))), [some ⟨24, [.iv x1.N, .sl 2 (List.map Edge.row x1.Edges)]⟩, some ⟨39, [.iv x31, .iv 0, .osl 1]⟩], [some ⟨39, 3, List.map Diner.row x32⟩, some ⟨49, 8, List.map Side.row x41⟩]⟩ : St)) (by simp [go_sem]) (by rintro ⟨x40, x41⟩; first | rfl | simp [go_sem]) ?_; rintro n2 ⟨x40, x41⟩ y2 h hin2 hout2; rw [m_place_Table_l2] at h
       (try dsimp only); refine V_go 5 ?_; dsimp only [e14, e14_L0, e14_L1, go_sem, Nat.reduceBEq, Nat.reduceAdd]; refine ⟨by simp, ?_⟩; refine M_ite h rfl (fun _ h => ?_) fun _ h => ?_
       ·refine V_go 5 ?_; dsimp only [e14, e14_L0, e14_L1, go_sem, Nat.reduceBEq, Nat.reduceAdd]; refine ⟨by simp, ?_⟩; obtain ⟨x42, ex42, h⟩ := Option.bind_eq_some_iff.1 h; refine V_idxM intRow ex42 trivial rfl rfl rfl ?_; refine V_go 4 ?_; dsimp only [e14, e14_L0, e14_L1, go_sem, Nat.reduceBEq, Nat.reduceAdd]; refine ⟨by simp, ?_⟩; refine V_drw (by kernel_rfl) fun all hall hs hnap haf => ?_; dsimp only [go_sem, Nat.reduceBEq, Nat.reduceAdd]; refine G_goN hall hs haf hnap 4 6 ?_; dsimp only [go_sem, Nat.reduceBEq, Nat.reduceAdd]; refine ⟨by simp, ?_⟩
        obtain ⟨x43, ex43, h⟩ := Option.bind_eq_some_iff.1 h; refine G_idxM hall hs haf hnap 2 intRow ex43 rfl rfl trivial rfl rfl rfl rfl ?_; refine G_goN hall hs haf hnap 1 4 ?_; dsimp only [go_sem, Nat.reduceBEq, Nat.reduceAdd]; refine ⟨by simp, ?_⟩; obtain ⟨x44, ex44, h⟩ := Option.bind_eq_some_iff.1 h; refine G_idxM hall hs haf hnap 6 intRow ex44 rfl rfl trivial rfl rfl rfl rfl ?_; refine G_goN hall hs haf hnap 3 0 ?_; dsimp only [go_sem, Nat.reduceBEq, Nat.reduceAdd]; refine ⟨by simp, ?_⟩; refine G_done rfl ?_ _; refine V_go 13 ?_
        dsimp only [e14, e14_L0, e14_L1, go_sem, Nat.reduceBEq, Nat.reduceAdd]; refine ⟨by simp, ?_⟩; obtain ⟨x45, ex45, h⟩ := Option.bind_eq_some_iff.1 h; refine V_appM Side.row ex45 trivial rfl rfl rfl ?_; refine V_go 8 ?_; dsimp only [e14, e14_L0, e14_L1, go_sem, Nat.reduceBEq, Nat.reduceAdd]; refine ⟨by simp, ?_⟩; refine V_ren 3 1 rfl rfl rfl ?_; dsimp only [go_sem, Nat.reduceBEq, Nat.reduceAdd]; exact M_back h hin2
       ·refine V_go 1 ?_; dsimp only [e14, e14_L0, e14_L1, go_sem, Nat.reduceBEq, Nat.reduceAdd]; refine ⟨by simp, ?_⟩; exact M_to J2 (s := x41) (M_out h hout2)
     ·refine V_go 1 ?_; dsimp only [e14, e14_L0, e14_L1, go_sem, Nat.reduceBEq, Nat.reduceAdd]; refine ⟨by simp, ?_⟩; exact M_to J1 (s := x32) (M_out h hout1)
def f_place_Table_j1 (_F : Nat)  : (List Diner) → Option ((List Diner) × Int)
| x68 =>
 some (x68, 0)
theorem le_place_Table_j1 {F : Nat} : ∀ s, ole (f_place_Table_j1 F s) (m_place_Table_j1 s) := by
  intro x68
  unfold f_place_Table_j1 m_place_Table_j1
  try dsimp only
  with_reducible repeat' first | exact ole_refl _ | assumption | intro _ | refine ole_ifb ?_ ?_ | refine ole_bind ?_ ?_ | refine ole_map ?_ | refine ole_loop ?_
def f_place_Table_j2 (_F : Nat) (x31 : Int) (x32 : (List Diner)) : (List Side) → Option ((Int × (List Diner)) ⊕ ((List Diner) × Int))
| x59 =>
 (app_ 40 x32 ([(Diner.mk x31 0 x59)])).bind fun x60 =>
 some (.inl (wr (x31 + 1), x60))
theorem le_place_Table_j2 {F : Nat} {x31 : Int} {x32 : (List Diner)} : ∀ s, ole (f_place_Table_j2 F x31 x32 s) (m_place_Table_j2 x31 x32 s) := by
  intro x59
  unfold f_place_Table_j2 m_place_Table_j2
  try dsimp only
  with_reducible repeat' first | exact ole_refl _ | assumption | intro _ | refine ole_ifb ?_ ?_ | refine ole_bind ?_ ?_ | refine ole_map ?_ | refine ole_loop ?_ | apply le_place_Table_j1
def f_place_Table_l2 (F : Nat) (x2 : (List Int)) (x31 : Int) (x32 : (List Diner)) (x33 : (List Int)) : (Int × (List Side)) → Option ((Int × (List Side)) ⊕ ((Int × (List Diner)) ⊕ ((List Diner) × Int)))
| (x40, x41) =>
 ifb (decide (x40 < (ln intRow x33))) (
 (at_ x33 x40).bind fun x42 =>
 (at_ x2 x31).bind fun x43 =>
 (at_ x2 x42).bind fun x44 =>
 (app_ 32 x41 ([(Side.mk x42 1 0 (decide (x44 < x43)) (decide (x44 < x43)) (!(decide (x44 < x43))) (decide (x44 < x43)) (!(decide (x44 < x43))))])).bind fun x45 =>
 some (.inl (wr (x40 + 1), x45))) (
 Option.map Sum.inr ((f_place_Table_j2 F x31 x32) x41))
theorem le_place_Table_l2 {F : Nat} {x2 : (List Int)} {x31 : Int} {x32 : (List Diner)} {x33 : (List Int)} : ∀ s, ole (f_place_Table_l2 F x2 x31 x32 x33 s) (m_place_Table_l2 x2 x31 x32 x33 s) := by
  rintro ⟨x40, x41⟩
  unfold f_place_Table_l2 m_place_Table_l2
  try dsimp only
  with_reducible repeat' first | exact ole_refl _ | assumption | intro _ | refine ole_ifb ?_ ?_ | refine ole_bind ?_ ?_ | refine ole_map ?_ | refine ole_loop ?_ | apply le_place_Table_j1 | apply le_place_Table_j2
def f_place_Table_l1 (F : Nat) (x1 : Graph) (x2 : (List Int)) : (Int × (List Diner)) → Option ((Int × (List Diner)) ⊕ ((List Diner) × Int))
| (x31, x32) =>
 ifb (decide (x31 < x1.N)) (
 (f_graph_Near F x1 x31).bind fun x33 =>
 loopF F (f_place_Table_l2 F x2 x31 x32 x33) (0, ([] : List Side))) (
 Option.map Sum.inr (f_place_Table_j1 F x32))
theorem le_place_Table_l1 {F : Nat} {x1 : Graph} {x2 : (List Int)} : ∀ s, ole (f_place_Table_l1 F x1 x2 s) (m_place_Table_l1 x1 x2 s) := by
  rintro ⟨x31, x32⟩
  unfold f_place_Table_l1 m_place_Table_l1
  try dsimp only
  with_reducible repeat' first | exact ole_refl _ | assumption | intro _ | refine ole_ifb ?_ ?_ | refine ole_bind ?_ ?_ | refine ole_map ?_ | refine ole_loop ?_ | apply le_place_Table_j1 | apply le_place_Table_j2 | apply le_place_Table_l2 | apply le_graph_Near
def f_place_Table (F : Nat) (x1 : Graph) (x2 : (List Int)) : Option ((List Diner) × Int) :=
 (f_graph_Check F x1).bind fun x3 =>
 ifb (!decide (x3 = 0)) (
 some (([] : (List Diner)), x3)) (
 (f_colour_Right F x1 x2).bind fun x4 =>
 ifb (!x4) (
 some (([] : (List Diner)), 120)) (
 loopF F (f_place_Table_l1 F x1 x2) (0, ([] : List Diner))))
theorem le_place_Table {F : Nat} {x1 : Graph} {x2 : (List Int)} : ole (f_place_Table F x1 x2) (m_place_Table x1 x2) := by
  unfold f_place_Table m_place_Table
  with_reducible repeat' first | exact ole_refl _ | assumption | intro _ | refine ole_ifb ?_ ?_ | refine ole_bind ?_ ?_ | refine ole_map ?_ | refine ole_loop ?_ | apply le_place_Table_j1 | apply le_place_Table_j2 | apply le_place_Table_l2 | apply le_graph_Near | apply le_place_Table_l1 | apply le_graph_Check | apply le_colour_Right
end NX
end Go.Proofs.Ytadebhbiglmodaa
/-
  The function narthex/narthexref12.Table: its code compiled, a model, and that the code answers as the model. Written by a program of ours (lb.py). No statement of the seat is proved here.
-/
namespace Go.Proofs.Ytadebhbiglmodaa
namespace NX
open Go
set_option maxRecDepth 100000
set_option maxHeartbeats 4000000
def e19_L1 : EC := .seq (.seq (.reg [⟨(some 19), none, .mv (.t 8)⟩, ⟨(some 20), none, .fld 0 (.t 2)⟩, ⟨(some 21), none, .load (.t 20)⟩, ⟨(some 22), none, .bin .lss (.t 19) (.t 21)⟩]) (.ite (.t 22) (.skip) (.exit 2))) (.seq (.blk 3 (.seq (.seq (.reg [⟨(some 25), none, .loadA 2 (.t 2)⟩, ⟨(some 26), none, .mv (.t 6)⟩, ⟨(some 27), none, .mv (.t 8)⟩, ⟨(some 28), none, .call 32 [(.t 25), (.t 26), (.t 27)]⟩, ⟨(some 29), none, .not (.t 28)⟩]) (.ite (.t 29) (.exit 3) (.skip))) (.seq (.reg [⟨(some 30), none, .mv (.t 8)⟩, ⟨(some 31), none, .build [.iv 0, .iv 0, .iv 0, .ff, .ff, .ff, .ff, .ff] [(0, 1, (.t 30)), (1, 1, (.c (.iv 1)))]⟩, ⟨(some 9), none, .alloc 49 [.iv 0, .iv 0, .iv 0, .ff, .ff, .ff, .ff, .ff]⟩, ⟨none, none, .store 8 (.t 9) (.t 31)⟩]) (.seq (.seq (.drw [⟨(some 32), none, .mv (.t 1)⟩, ⟨(some 33), none, .mv (.t 6)⟩, ⟨(some 34), none, .idx 1 (.t 32) (.t 33)⟩, ⟨(some 35), none, .load (.t 34)⟩, ⟨(some 36), none, .mv (.t 1)⟩, ⟨(some 37), none, .mv (.t 8)⟩, ⟨(some 38), none, .idx 1 (.t 36) (.t 37)⟩, ⟨(some 39), none, .load (.t 38)⟩, ⟨(some 40), none, .bin .lss (.t 35) (.t 39)⟩] [[], [], [0, 1], [2], [], [], [4, 5], [6], [3, 7]] [[2], [2], [0, 1, 3], [2, 8], [6], [6], [4, 5, 7], [6, 8], [3, 7]]) (.ite (.t 40) (.reg [⟨(some 41), none, .fld 5 (.t 9)⟩, ⟨none, none, .store 1 (.t 41) (.c .tt)⟩, ⟨(some 42), none, .fld 7 (.t 9)⟩, ⟨none, none, .store 1 (.t 42) (.c .tt)⟩]) (.reg [⟨(some 43), none, .fld 3 (.t 9)⟩, ⟨none, none, .store 1 (.t 43) (.c .tt)⟩, ⟨(some 44), none, .fld 4 (.t 9)⟩, ⟨none, none, .store 1 (.t 44) (.c .tt)⟩, ⟨(some 45), none, .fld 6 (.t 9)⟩, ⟨none, none, .store 1 (.t 45) (.c .tt)⟩]))) (.reg [⟨(some 46), none, .fld 2 (.t 7)⟩, ⟨(some 47), none, .load (.t 46)⟩, ⟨(some 48), none, .loadA 8 (.t 9)⟩, ⟨(some 49), none, .bsl 49 8 1 [.iv 0, .iv 0, .iv 0, .ff, .ff, .ff, .ff, .ff] [(0, (.t 48))]⟩, ⟨(some 50), none, .app 49 8 32 (.t 47) (.t 49)⟩, ⟨(some 51), none, .fld 2 (.t 7)⟩, ⟨none, none, .store 1 (.t 51) (.t 50)⟩]))))) (.reg [⟨(some 23), none, .mv (.t 8)⟩, ⟨(some 24), none, .bin .add (.t 23) (.c (.iv 1))⟩, ⟨(some 8), none, .mv (.t 24)⟩]))
def e19_L0 : EC := .seq (.seq (.reg [⟨(some 11), none, .mv (.t 6)⟩, ⟨(some 12), none, .fld 0 (.t 2)⟩, ⟨(some 13), none, .load (.t 12)⟩, ⟨(some 14), none, .bin .lss (.t 11) (.t 13)⟩]) (.ite (.t 14) (.skip) (.exit 0))) (.seq (.blk 1 (.seq (.reg [⟨(some 17), none, .mv (.t 6)⟩, ⟨(some 18), none, .build [.iv 0, .iv 0, .nl] [(0, 1, (.t 17))]⟩, ⟨(some 7), none, .alloc 39 [.iv 0, .iv 0, .nl]⟩, ⟨none, none, .store 3 (.t 7) (.t 18)⟩]) (.seq (.seq (.reg [⟨(some 8), none, .mv (.c (.iv 0))⟩]) (.blk 2 (.loop e19_L1))) (.reg [⟨(some 52), none, .mv (.t 5)⟩, ⟨(some 53), none, .loadA 3 (.t 7)⟩, ⟨(some 54), none, .bsl 39 3 1 [.iv 0, .iv 0, .nl] [(0, (.t 53))]⟩, ⟨(some 55), none, .app 39 3 40 (.t 52) (.t 54)⟩, ⟨(some 5), none, .mv (.t 55)⟩])))) (.reg [⟨(some 15), none, .mv (.t 6)⟩, ⟨(some 16), none, .bin .add (.t 15) (.c (.iv 1))⟩, ⟨(some 6), none, .mv (.t 16)⟩]))
def e19 : EC := .seq (.reg [⟨(some 2), none, .box 24 2 (.t 0)⟩, ⟨(some 4), none, .mv (.c .nl)⟩]) (.seq (.reg [⟨(some 10), none, .bsl 39 3 0 [.iv 0, .iv 0, .nl] []⟩, ⟨(some 5), none, .mv (.t 10)⟩]) (.seq (.seq (.reg [⟨(some 6), none, .mv (.c (.iv 0))⟩]) (.blk 0 (.loop e19_L0))) (.seq (.reg [⟨(some 56), none, .mv (.t 5)⟩, ⟨(some 4), none, .mv (.t 56)⟩]) (.ret))))
theorem ok19 : FnOK Try.prog 19 Try.f19 e19 [.t 4] 2 55 := ⟨by kernel_rfl, ⟨_, rfl, by kernel_rfl⟩, by kernel_rfl, by kernel_rfl⟩
/- narthex/narthexref12.Table -/
noncomputable def m_narthexref12_Table_j1  : (List Diner) → Option (List Diner)
| x64 =>
 some x64
noncomputable def m_narthexref12_Table_j2 (x29 : Int) (x30 : (List Diner)) : (List Side) → Option ((Int × (List Diner)) ⊕ (List Diner))
| x56 =>
 (app_ 40 x30 ([(Diner.mk x29 0 x56)])).bind fun x57 =>
 some (.inl (wr (x29 + 1), x57))
noncomputable def m_narthexref12_Table_j3 (x39 : Int) : (List Side) → Option ((Int × (List Side)) ⊕ ((Int × (List Diner)) ⊕ (List Diner)))
| x46 =>
 some (.inl (wr (x39 + 1), x46))
noncomputable def m_narthexref12_Table_j4 (x39 : Int) (x40 : (List Side)) : Side → Option ((Int × (List Side)) ⊕ ((Int × (List Diner)) ⊕ (List Diner)))
| x44 =>
 (app_ 32 x40 ([x44])).bind fun x45 =>
 (m_narthexref12_Table_j3 x39) x45
noncomputable def m_narthexref12_Table_l2 (x1 : Graph) (x2 : (List Int)) (x29 : Int) (x30 : (List Diner)) : (Int × (List Side)) → Option ((Int × (List Side)) ⊕ ((Int × (List Diner)) ⊕ (List Diner)))
| (x39, x40) =>
 ifb (decide (x39 < x1.N)) (
 (m_narthexref03_Has x1 x29 x39).bind fun x41 =>
 ifb (!x41) (
 (m_narthexref12_Table_j3 x39) x40) (
 (at_ x2 x29).bind fun x42 =>
 (at_ x2 x39).bind fun x43 =>
 ifb (decide (x42 < x43)) (
 (m_narthexref12_Table_j4 x39 x40) ((Side.mk x39 1 0 false false true false true))) (
 (m_narthexref12_Table_j4 x39 x40) ((Side.mk x39 1 0 true true false true false))))) (
 Option.map Sum.inr ((m_narthexref12_Table_j2 x29 x30) x40))
noncomputable def m_narthexref12_Table_l1 (x1 : Graph) (x2 : (List Int)) : (Int × (List Diner)) → Option ((Int × (List Diner)) ⊕ (List Diner))
| (x29, x30) =>
 ifb (decide (x29 < x1.N)) (
 loop (m_narthexref12_Table_l2 x1 x2 x29 x30) (0, ([] : List Side))) (
 Option.map Sum.inr (m_narthexref12_Table_j1 x30))
noncomputable def m_narthexref12_Table (x1 : Graph) (x2 : (List Int)) : Option (List Diner) :=
 loop (m_narthexref12_Table_l1 x1 x2) (0, ([] : List Diner))
theorem o_narthexref12_Table (x1 : Graph) (x2 : (List Int)) (r : (List Diner)) (h : m_narthexref12_Table x1 x2 = some r) : FunO Try.prog 19 [.agg (Graph.row x1), .sl 1 (List.map intRow x2)] 39 3 (List.map Diner.row r) := by
  refine FunO_intro ok19 rfl fun w0 H0 => ?_
  rw [m_narthexref12_Table] at h
  refine V_go 15 ?_; dsimp only [e19, e19_L0, e19_L1, go_sem, Nat.reduceBEq, Nat.reduceAdd]; refine ⟨by simp, ?_⟩; refine V_join (fun (x64 : (List Diner)) => (⟨(an 5 (.osl 0 :: an 51 [])), [], [some ⟨39, 3, List.map Diner.row x64⟩]⟩ : St)) m_narthexref12_Table_j1 r ?_ fun J1 => ?_
  ·intro x64 h; rw [m_narthexref12_Table_j1] at h; (try dsimp only); refine V_go 5 ?_; dsimp only [e19, e19_L0, e19_L1, go_sem, Nat.reduceBEq, Nat.reduceAdd]; refine ⟨by simp, ?_⟩; exact O_doneM Diner.row ok19 h rfl rfl
  ·refine V_go 1 ?_; dsimp only [e19, e19_L0, e19_L1, go_sem, Nat.reduceBEq, Nat.reduceAdd]; refine ⟨by simp, ?_⟩; refine M_loop h (fun ((x29, x30) : (Int × (List Diner))) => (⟨(.any :: .sl 1 (List.map intRow x2) :: .ptr 0 0 :: .any :: .any :: .osl 0 :: .iv x29 :: an 50 []), [some ⟨24, [.iv x1.N, .sl 2 (List.map Edge.row x1.Edges)]⟩], [some ⟨39, 3, List.map Diner.row x30⟩]⟩ : St)) (by simp [go_sem]) (by rintro ⟨x29, x30⟩; first | rfl | simp [go_sem]) ?_; rintro n1 ⟨x29, x30⟩ y1 h hin1 hout1; rw [m_narthexref12_Table_l1] at h; (try dsimp only); refine V_go 8 ?_
   dsimp only [e19, e19_L0, e19_L1, go_sem, Nat.reduceBEq, Nat.reduceAdd]; refine ⟨by simp, ?_⟩; refine M_ite h rfl (fun _ h => ?_) fun _ h => ?_
   ·refine V_go 15 ?_; dsimp only [e19, e19_L0, e19_L1, go_sem, Nat.reduceBEq, Nat.reduceAdd]; refine ⟨by simp, ?_⟩; refine V_join (fun (x56 : (List Side)) => (⟨(.any :: .sl 1 (List.map intRow x2) :: .ptr 0 0 :: .any :: .any :: .osl 0 :: .iv x29 :: .ptr 1 0 :: an 49 []), [some ⟨24, [.iv x1.N, .sl 2 (List.map Edge.row x1.Edges)]⟩, some ⟨39, [.iv x29, .iv 0, .osl 1]⟩], [some ⟨39, 3, List.map Diner.row x30⟩, some ⟨49, 8, List.map Side.row x56⟩]⟩ : St)) (m_narthexref12_Table_j2 x29 x30) y1 ?_ fun J2 => ?_
    ·intro x56 h; rw [m_narthexref12_Table_j2] at h; (try dsimp only); refine V_go 3 ?_; dsimp only [e19, e19_L0, e19_L1, go_sem, Nat.reduceBEq, Nat.reduceAdd]; refine ⟨by simp, ?_⟩; refine V_seal 1 rfl ?_; dsimp only [go_sem, Nat.reduceBEq, Nat.reduceAdd]; refine V_go 1 ?_; dsimp only [e19, e19_L0, e19_L1, go_sem, Nat.reduceBEq, Nat.reduceAdd]; refine ⟨by simp, ?_⟩; obtain ⟨x57, ex57, h⟩ := Option.bind_eq_some_iff.1 h; refine V_appM Diner.row ex57 trivial rfl rfl rfl ?_; refine V_go 8 ?_; dsimp only [e19, e19_L0, e19_L1, go_sem, Nat.reduceBEq, Nat.reduceAdd]; refine ⟨by simp, ?_⟩
     refine V_ren 3 0 rfl rfl rfl ?_; dsimp only [go_sem, Nat.reduceBEq, Nat.reduceAdd]; exact M_back h hin1
    ·refine V_go 1 ?_; dsimp only [e19, e19_L0, e19_L1, go_sem, Nat.reduceBEq, Nat.reduceAdd]; refine ⟨by simp, ?_⟩; refine V_ownB 1 2 49 8 rfl rfl rfl ?_; dsimp only [go_sem, Nat.reduceBEq, Nat.reduceAdd]
     refine M_loop h (fun ((x39, x40) : (Int × (List Side))) => (⟨(.any :: .sl 1 (List.map intRow x2) :: .ptr 0 0 :: .any :: .any :: .osl 0 :: .iv x29 :: .ptr 1 0 :: .iv x39 :: an 48 []), [some ⟨24, [.iv x1.N, .sl 2 (List.map Edge.row x1.Edges)]⟩, some ⟨39, [.iv x29, .iv 0, .osl 1]⟩], [some ⟨39, 3, List.map Diner.row x30⟩, some ⟨49, 8, List.map Side.row x40⟩]⟩ : St)) (by simp [go_sem]) (by rintro ⟨x39, x40⟩; first | rfl | simp [go_sem]) ?_; rintro n2 ⟨x39, x40⟩ y2 h hin2 hout2; rw [m_narthexref12_Table_l2] at h; (try dsimp only); refine V_go 8 ?_
     dsimp only [e19, e19_L0, e19_L1, go_sem, Nat.reduceBEq, Nat.reduceAdd]; refine ⟨by simp, ?_⟩; refine M_ite h rfl (fun _ h => ?_) fun _ h => ?_
     ·refine V_go 2 ?_; dsimp only [e19, e19_L0, e19_L1, go_sem, Nat.reduceBEq, Nat.reduceAdd]; refine ⟨by simp, ?_⟩; refine V_join (fun (x46 : (List Side)) => (⟨(.any :: .sl 1 (List.map intRow x2) :: .ptr 0 0 :: .any :: .any :: .osl 0 :: .iv x29 :: .ptr 1 0 :: .iv x39 :: an 48 []), [some ⟨24, [.iv x1.N, .sl 2 (List.map Edge.row x1.Edges)]⟩, some ⟨39, [.iv x29, .iv 0, .osl 1]⟩], [some ⟨39, 3, List.map Diner.row x30⟩, some ⟨49, 8, List.map Side.row x46⟩]⟩ : St)) (m_narthexref12_Table_j3 x39) y2 ?_ fun J3 => ?_
      ·intro x46 h; rw [m_narthexref12_Table_j3] at h; (try dsimp only); refine V_go 5 ?_; dsimp only [e19, e19_L0, e19_L1, go_sem, Nat.reduceBEq, Nat.reduceAdd]; refine ⟨by simp, ?_⟩; exact M_back h hin2
      ·refine V_go 7 ?_; dsimp only [e19, e19_L0, e19_L1, go_sem, Nat.reduceBEq, Nat.reduceAdd]; refine ⟨by simp, ?_⟩; obtain ⟨x41, ex41, h⟩ := Option.bind_eq_some_iff.1 h; refine V_call trivial (k_narthexref03_Has x1 x29 x39 _ ex41) (h := ?_); refine V_go 2 ?_; dsimp only [e19, e19_L0, e19_L1, go_sem, Nat.reduceBEq, Nat.reduceAdd]; refine ⟨by simp, ?_⟩; refine M_ite h rfl (fun _ h => ?_) fun _ h => ?_
       ·refine V_go 1 ?_; dsimp only [e19, e19_L0, e19_L1, go_sem, Nat.reduceBEq, Nat.reduceAdd]; refine ⟨by simp, ?_⟩; exact M_to J3 (s := x40) h
       ·refine V_go 10 ?_; dsimp only [e19, e19_L0, e19_L1, go_sem, Nat.reduceBEq, Nat.reduceAdd]; refine ⟨by simp, ?_⟩; refine V_drw (by kernel_rfl) fun all hall hs hnap haf => ?_; dsimp only [go_sem, Nat.reduceBEq, Nat.reduceAdd]; refine G_goN hall hs haf hnap 4 5 ?_; dsimp only [go_sem, Nat.reduceBEq, Nat.reduceAdd]; refine ⟨by simp, ?_⟩; obtain ⟨x42, ex42, h⟩ := Option.bind_eq_some_iff.1 h; refine G_idxM hall hs haf hnap 2 intRow ex42 rfl rfl trivial rfl rfl rfl rfl ?_; refine G_goN hall hs haf hnap 1 3 ?_; dsimp only [go_sem, Nat.reduceBEq, Nat.reduceAdd]; refine ⟨by simp, ?_⟩
        obtain ⟨x43, ex43, h⟩ := Option.bind_eq_some_iff.1 h; refine G_idxM hall hs haf hnap 6 intRow ex43 rfl rfl trivial rfl rfl rfl rfl ?_; refine G_goN hall hs haf hnap 2 0 ?_; dsimp only [go_sem, Nat.reduceBEq, Nat.reduceAdd]; refine ⟨by simp, ?_⟩; refine G_done rfl ?_ _
        refine V_join (fun (x44 : Side) => (⟨(.any :: .sl 1 (List.map intRow x2) :: .ptr 0 0 :: .any :: .any :: .osl 0 :: .iv x29 :: .ptr 1 0 :: .iv x39 :: .ptr 2 0 :: an 47 []), [some ⟨24, [.iv x1.N, .sl 2 (List.map Edge.row x1.Edges)]⟩, some ⟨39, [.iv x29, .iv 0, .osl 1]⟩, some ⟨49, [.iv x44.Peer, .iv x44.Epoch, .iv x44.State, .bv x44.Fork, .bv x44.Dirty, .bv x44.Token, .bv x44.Bottle, .bv x44.Ask]⟩], [some ⟨39, 3, List.map Diner.row x30⟩, some ⟨49, 8, List.map Side.row x40⟩]⟩ : St)) (m_narthexref12_Table_j4 x39 x40) y2 ?_ fun J4 => ?_
        ·intro x44 h; rw [m_narthexref12_Table_j4] at h; (try dsimp only); refine V_go 5 ?_; dsimp only [e19, e19_L0, e19_L1, go_sem, Nat.reduceBEq, Nat.reduceAdd]; refine ⟨by simp, ?_⟩; obtain ⟨x45, ex45, h⟩ := Option.bind_eq_some_iff.1 h; refine V_appM Side.row ex45 trivial rfl rfl rfl ?_; refine V_go 4 ?_; dsimp only [e19, e19_L0, e19_L1, go_sem, Nat.reduceBEq, Nat.reduceAdd]; refine ⟨by simp, ?_⟩; refine V_ren 3 1 rfl rfl rfl ?_; dsimp only [go_sem, Nat.reduceBEq, Nat.reduceAdd]; exact M_to J3 (s := x45) h
        ·refine M_ite h rfl (fun _ h => ?_) fun _ h => ?_
         ·refine V_go 6 ?_; dsimp only [e19, e19_L0, e19_L1, go_sem, Nat.reduceBEq, Nat.reduceAdd]; refine ⟨by simp, ?_⟩; exact M_to J4 (s := (Side.mk x39 1 0 false false true false true)) h
         ·refine V_go 8 ?_; dsimp only [e19, e19_L0, e19_L1, go_sem, Nat.reduceBEq, Nat.reduceAdd]; refine ⟨by simp, ?_⟩; exact M_to J4 (s := (Side.mk x39 1 0 true true false true false)) h
     ·refine V_go 1 ?_; dsimp only [e19, e19_L0, e19_L1, go_sem, Nat.reduceBEq, Nat.reduceAdd]; refine ⟨by simp, ?_⟩; exact M_to J2 (s := x40) (M_out h hout2)
   ·refine V_go 1 ?_; dsimp only [e19, e19_L0, e19_L1, go_sem, Nat.reduceBEq, Nat.reduceAdd]; refine ⟨by simp, ?_⟩; exact M_to J1 (s := x30) (M_out h hout1)
theorem k_narthexref12_Table (x1 : Graph) (x2 : (List Int)) (r : (List Diner)) (h : m_narthexref12_Table x1 x2 = some r) : FunP Try.prog 19 [.agg (Graph.row x1), .sl 1 (List.map intRow x2)] (.sl 3 (List.map Diner.row r)) := (o_narthexref12_Table x1 x2 r h).sealed
end NX
end Go.Proofs.Ytadebhbiglmodaa
/-
  Plain laws: neighbours; the nodes of a graph. No statement of the seat is proved here.
-/
namespace Go.Proofs.Ytadebhbiglmodaa
namespace NX
open Go
/-- Two rows in one order, of the same things, are one. -/
theorem pw_ext {α : Type} {R : α → α → Prop} (irr : ∀ x, ¬ R x x) (asy : ∀ x y, R x y → ¬ R y x) : ∀ {l m : List α}, l.Pairwise R → m.Pairwise R → (∀ x, x ∈ l ↔ x ∈ m) → l = m
  | [], [], _, _, _ => rfl
  | [], y :: m, _, _, h => absurd ((h y).2 (by simp)) (by simp)
  | x :: l, [], _, _, h => absurd ((h x).1 (by simp)) (by simp)
  | x :: l, y :: m, hl, hm, h => by
    rw [List.pairwise_cons] at hl hm
    have hxy : x = y := by
      rcases List.mem_cons.1 ((h x).1 (by simp)) with e | e
      · exact e
      · rcases List.mem_cons.1 ((h y).2 (by simp)) with e2 | e2
        · exact e2.symm
        · exact absurd (hl.1 y e2) (asy _ _ (hm.1 x e))
    subst hxy
    rw [pw_ext irr asy hl.2 hm.2 fun z => ?_]
    constructor
    · intro hz
      rcases List.mem_cons.1 ((h z).1 (List.mem_cons_of_mem _ hz)) with e | e
      · subst e; exact absurd (hl.1 z hz) (irr z)
      · exact e
    · intro hz
      rcases List.mem_cons.1 ((h z).2 (List.mem_cons_of_mem _ hz)) with e | e
      · subst e; exact absurd (hm.1 z hz) (irr z)
      · exact e
theorem Edge.lt_trans {x y z : Edge} (h : x.lt y = true) (k : y.lt z = true) : x.lt z = true := by
  simp only [Edge.lt, Bool.or_eq_true, Bool.and_eq_true, decide_eq_true_eq] at *
  omega
theorem Edge.lt_irr (x : Edge) : ¬ x.lt x = true := by
  simp only [Edge.lt, Bool.or_eq_true, Bool.and_eq_true, decide_eq_true_eq]
  omega
theorem risB_pairwise : ∀ {l : List Edge}, risB l = true → l.Pairwise fun x y => x.lt y = true
  | [], _ => List.Pairwise.nil
  | [x], _ => by simp
  | x :: y :: l, h => by
    simp only [risB, Bool.and_eq_true] at h
    have ih := risB_pairwise h.2
    refine List.pairwise_cons.2 ⟨?_, ih⟩
    intro z hz
    rcases List.mem_cons.1 hz with rfl | hz
    · exact h.1
    · exact Edge.lt_trans h.1 ((List.pairwise_cons.1 ih).1 z hz)
theorem okG_pw {g : Graph} (h : okG g = true) : g.Edges.Pairwise fun x y => x.lt y = true := risB_pairwise (okG_parts h).2.2.2.2
def nearE (a : Int) (e : Edge) : Option Int := if a = e.A then some e.B else if a = e.B then some e.A else none
def nearL (g : Graph) (a : Int) : List Int := g.Edges.filterMap (nearE a)
theorem nearL_pw {g : Graph} (h : okG g = true) (a : Int) : (nearL g a).Pairwise (· < ·) := by
  unfold nearL
  rw [List.pairwise_filterMap]
  obtain ⟨_, _, _, h4, _⟩ := okG_parts h
  refine List.Pairwise.imp_of_mem ?_ (okG_pw h)
  intro x y hx hy hxy b hb b' hb'
  have k1 := h4 x hx
  have k2 := h4 y hy
  simp only [Edge.lt, Bool.or_eq_true, Bool.and_eq_true, decide_eq_true_eq] at hxy
  unfold nearE at hb hb'
  split at hb <;> split at hb'
  · simp at hb hb'; omega
  · split at hb'
    · simp at hb hb'; omega
    · simp at hb'
  · split at hb
    · simp at hb hb'; omega
    · simp at hb
  · split at hb <;> split at hb'
    · simp at hb hb'; omega
    · simp at hb'
    · simp at hb
    · simp at hb
theorem pw_chain {l : List Int} (h : l.Pairwise (· < ·)) {k : Nat} {x y : Int} (hx : l[k]? = some x) (hy : l[k + 1]? = some y) : x < y := by
  rw [List.pairwise_iff_getElem] at h
  obtain ⟨h1, rfl⟩ := List.getElem?_eq_some_iff.1 hx
  obtain ⟨h2, rfl⟩ := List.getElem?_eq_some_iff.1 hy
  exact h k (k + 1) h1 h2 (by omega)
theorem s_Compact (l : List Int) (hl : l.length ≤ 1000000) (h : l.Pairwise (· < ·)) : m_slices_Compact_int l = some l := by
  unfold m_slices_Compact_int
  by_cases h2 : l.length < 2
  · rw [ln_eq, decide_eq_true (by omega), ifb_true]
  · rw [ln_eq, decide_eq_false (by omega), ifb_false]
    refine loop_nat (l.length - 1) (m_slices_Compact_int_l1 l) (fun k => ((k + 1 : Nat) : Int)) l (fun k hk => ?_) ?_
    · have hx : l[k + 1]? = some l[k + 1] := List.getElem?_eq_getElem (by omega)
      have hy : l[k]? = some l[k] := List.getElem?_eq_getElem (by omega)
      have := pw_chain h hy hx
      dsimp only [m_slices_Compact_int_l1]
      rw [lt_len hx, ifb_true, at_get hx, Option.bind_some, wr_pred (by omega), at_get hy, Option.bind_some, decide_eq_false (by omega), ifb_false, wr_succ (by omega)]
    · dsimp only [m_slices_Compact_int_l1]
      rw [show l.length - 1 + 1 = l.length by omega, nlt_len, ifb_false]; rfl
theorem s_setOf (l : List Int) (hl : l.length ≤ 1000000) (h : l.Pairwise (· < ·)) : m_set_Of l = some l := by
  simp only [m_set_Of, m_slices_Clone_int]
  rw [app_ok _ _ (by omega) (by simp; omega), Option.bind_some, List.nil_append, decide_eq_true (by omega), ifb_true, List.mergeSort_of_pairwise (h.imp fun hxy => decide_eq_true (by omega)), s_Compact l hl h]
theorem nearL_len (g : Graph) (a : Int) : (nearL g a).length ≤ g.Edges.length := List.length_filterMap_le _ _
theorem s_Near (g : Graph) (a : Int) : m_graph_Near g a = some (if okG g then nearL g a else []) := by
  simp only [m_graph_Near, s_Check, Option.bind_some]
  cases hg : okG g with
  | false => rfl
  | true =>
    have h400 := (okG_parts hg).2.2.1
    simp only [if_true, decide_true, Bool.not_true, ifb_false]
    refine loop_pre g.Edges _ (fun pre => ((pre.length : Int), pre.filterMap (nearE a))) (nearL g a) (fun pre e post h => ?_) ?_
    · have hx := mid_get h
      have hm := mid_len h
      have hl : (pre.filterMap (nearE a)).length ≤ pre.length := List.length_filterMap_le _ _
      dsimp only [m_graph_Near_l1]
      rw [lt_len hx, ifb_true, at_get hx, Option.bind_some, len_snoc, List.filterMap_append]
      by_cases h1 : a = e.A
      · rw [decide_eq_true h1, ifb_true, app_ok _ _ (by omega) (by simp only [List.length_singleton]; omega), Option.bind_some, m_graph_Near_j2, wr_succ (by omega)]
        simp [nearE, h1]
      · by_cases h2 : a = e.B
        · rw [decide_eq_false h1, ifb_false, decide_eq_true h2, ifb_true, app_ok _ _ (by omega) (by simp only [List.length_singleton]; omega), Option.bind_some, m_graph_Near_j2, wr_succ (by omega)]
          have : ¬ e.B = e.A := fun e' => h1 (h2.trans e')
          simp [nearE, h2, this]
        · rw [decide_eq_false h1, ifb_false, decide_eq_false h2, ifb_false, m_graph_Near_j2, wr_succ (by omega)]
          simp [nearE, h1, h2]
    · dsimp only [m_graph_Near_l1]
      rw [nlt_len, ifb_false, m_graph_Near_j1]
      have : (g.Edges.filterMap (nearE a)) = nearL g a := rfl
      rw [this, s_setOf _ (by have := nearL_len g a; omega) (nearL_pw hg a)]
      rfl
theorem mem_nearL {g : Graph} (h : okG g = true) {a b : Int} : b ∈ nearL g a ↔ (⟨a, b⟩ : Edge) ∈ g.Edges ∨ (⟨b, a⟩ : Edge) ∈ g.Edges := by
  obtain ⟨_, _, _, h4, _⟩ := okG_parts h
  unfold nearL
  rw [List.mem_filterMap]
  constructor
  · rintro ⟨e, he, hb⟩
    unfold nearE at hb
    split at hb
    · rename_i h1
      simp at hb; subst hb; subst h1; exact .inl he
    · split at hb
      · rename_i h2
        simp at hb; subst hb; subst h2; exact .inr he
      · simp at hb
  · rintro (he | he)
    · exact ⟨_, he, by simp [nearE]⟩
    · have := h4 _ he
      dsimp only at this
      exact ⟨_, he, by unfold nearE; rw [if_neg (by dsimp only; omega), if_pos rfl]⟩
theorem hasB_iff {g : Graph} (h : okG g = true) {a b : Int} : hasB g a b = true ↔ b ∈ nearL g a := by
  rw [mem_nearL h]
  obtain ⟨_, _, _, h4, _⟩ := okG_parts h
  simp only [hasB, List.any_eq_true, Bool.or_eq_true, Bool.and_eq_true, decide_eq_true_eq]
  constructor
  · rintro ⟨e, he, (⟨rfl, rfl, _⟩ | ⟨rfl, rfl, _⟩)⟩
    · exact .inl he
    · exact .inr he
  · rintro (he | he)
    · have := h4 _ he; dsimp only at this
      exact ⟨_, he, .inl ⟨rfl, rfl, by omega⟩⟩
    · have := h4 _ he; dsimp only at this
      exact ⟨_, he, .inr ⟨rfl, rfl, by omega⟩⟩
theorem near_range {g : Graph} (h : okG g = true) {a b : Int} (hb : b ∈ nearL g a) : 0 ≤ b ∧ b < g.N ∧ b ≠ a ∧ 0 ≤ a ∧ a < g.N := by
  obtain ⟨_, _, _, h4, _⟩ := okG_parts h
  rcases (mem_nearL h).1 hb with he | he
  · have := h4 _ he; dsimp only at this; omega
  · have := h4 _ he; dsimp only at this; omega
/-! The nodes of a graph -/
def sideT (c : List Int) (a b : Int) : Side := ⟨b, 1, 0, decide (cg c b < cg c a), decide (cg c b < cg c a), !decide (cg c b < cg c a), decide (cg c b < cg c a), !decide (cg c b < cg c a)⟩
def dinerT (g : Graph) (c : List Int) (a : Nat) : Diner := ⟨a, 0, (nearL g a).map (sideT c a)⟩
def tableT (g : Graph) (c : List Int) : List Diner := (List.range g.N.toNat).map (dinerT g c)
theorem map_range_succ {α : Type} (f : Nat → α) (k : Nat) : (List.range (k + 1)).map f = (List.range k).map f ++ [f k] := by simp [List.range_succ]
theorem s_Table2 (g : Graph) (hg : okG g = true) (c : List Int) (hc : (c.length : Int) = g.N) (a : Nat) (ha : (a : Int) < g.N) (L : List Diner) (hL : L.length ≤ 1000) :
    loop (m_place_Table_l2 c a L (nearL g a)) (0, []) = some (.inl (((a + 1 : Nat) : Int), L ++ [dinerT g c a])) := by
  obtain ⟨g1, g2, g3, _, _⟩ := okG_parts hg
  have hnl := nearL_len g a
  refine loop_pre (nearL g a) _ (fun pre => ((pre.length : Int), pre.map (sideT c a))) _ (fun pre b post h => ?_) ?_
  · have hx := mid_get h
    have hm := mid_len h
    obtain ⟨b1, b2, _, _, _⟩ := near_range hg (mid_mem h)
    dsimp only [m_place_Table_l2]
    rw [lt_len hx, ifb_true, at_get hx, Option.bind_some, at_cg (c := c) (Int.natCast_nonneg a) (by omega), Option.bind_some, at_cg (c := c) b1 (by omega), Option.bind_some, app_ok _ _ (by omega) (by simp; omega), Option.bind_some, len_snoc, wr_succ (by omega), List.map_append]
    rfl
  · dsimp only [m_place_Table_l2]
    rw [nlt_len, ifb_false, m_place_Table_j2, app_ok _ _ (by omega) (by simp; omega), Option.bind_some, wr_succ (by omega)]
    rfl
theorem rightB_len {g : Graph} {c : List Int} (h : rightB g c = true) : (c.length : Int) = g.N := by
  simp only [rightB, Bool.and_eq_true, decide_eq_true_eq] at h; exact h.1
theorem s_Table (g : Graph) (c : List Int) (hc : c.length ≤ 1000000) : m_place_Table g c = some (if okG g then (if rightB g c then (tableT g c, 0) else ([], 120)) else ([], 30)) := by
  simp only [m_place_Table, s_Check, Option.bind_some]
  cases hg : okG g with
  | false => rfl
  | true =>
    obtain ⟨g1, g2, _, _, _⟩ := okG_parts hg
    simp only [if_true, decide_true, Bool.not_true, ifb_false, s_Right g c hc, hg, Bool.true_and, Option.bind_some]
    cases hr : rightB g c with
    | false => rfl
    | true =>
      simp only [Bool.not_true, ifb_false, if_true]
      refine loop_nat g.N.toNat (m_place_Table_l1 g c) (fun k => ((k : Int), (List.range k).map (dinerT g c))) _ (fun k hk => ?_) ?_
      · dsimp only [m_place_Table_l1]
        rw [decide_eq_true (by omega), ifb_true, s_Near, hg, if_pos rfl, Option.bind_some, s_Table2 g hg c (rightB_len hr) k (by omega) _ (by simp; omega), map_range_succ]
      · dsimp only [m_place_Table_l1]
        rw [decide_eq_false (by omega), ifb_false]
        rfl
theorem rightB_ne {g : Graph} (hg : okG g = true) {c : List Int} (h : rightB g c = true) {a b : Int} (hb : b ∈ nearL g a) : cg c a ≠ cg c b := by
  simp only [rightB, Bool.and_eq_true, List.all_eq_true, Bool.not_eq_true', decide_eq_false_iff_not] at h
  rcases (mem_nearL hg).1 hb with he | he
  · exact h.2.2 _ he
  · exact fun e => h.2.2 _ he e.symm
/-- All neighbours are found one by one. -/
theorem near_filter {g : Graph} (hg : okG g = true) (a : Int) : nearL g a = ((List.range g.N.toNat).map (fun k : Nat => (k : Int))).filter (fun b => hasB g a b) := by
  refine pw_ext (fun x => by omega) (fun x y h => by omega) (nearL_pw hg a) ?_ fun x => ?_
  · refine List.Pairwise.filter _ ?_
    rw [List.pairwise_map]
    exact List.pairwise_lt_range.imp fun h => by omega
  · rw [List.mem_filter, List.mem_map, hasB_iff hg]
    constructor
    · intro h
      obtain ⟨h1, h2, _⟩ := near_range hg h
      exact ⟨⟨x.toNat, by simp; omega, by omega⟩, h⟩
    · exact fun h => h.2
theorem filter_range_succ (p : Int → Bool) (k : Nat) : (((List.range (k + 1)).map (fun k : Nat => (k : Int))).filter p) = ((List.range k).map (fun k : Nat => (k : Int))).filter p ++ (if p k then [(k : Int)] else []) := by
  rw [map_range_succ, List.filter_append]
  cases h : p k <;> simp [h]
theorem s_r12Table2 (g : Graph) (hg : okG g = true) (c : List Int) (hr : rightB g c = true) (a : Nat) (ha : (a : Int) < g.N) (L : List Diner) (hL : L.length ≤ 1000) :
    loop (m_narthexref12_Table_l2 g c a L) (0, []) = some (.inl (((a + 1 : Nat) : Int), L ++ [dinerT g c a])) := by
  obtain ⟨g1, g2, g3, _, _⟩ := okG_parts hg
  have hc := rightB_len hr
  refine loop_nat g.N.toNat (m_narthexref12_Table_l2 g c a L) (fun k => ((k : Int), (((List.range k).map (fun k : Nat => (k : Int))).filter (fun b => hasB g a b)).map (sideT c a))) _ (fun k hk => ?_) ?_
  · have hlen : (((List.range k).map (fun k : Nat => (k : Int))).filter (fun b => hasB g a b)).length ≤ 64 := by
      have := List.length_filter_le (fun b => hasB g a b) ((List.range k).map (fun k : Nat => (k : Int)))
      simp only [List.length_map, List.length_range] at this
      omega
    dsimp only [m_narthexref12_Table_l2]
    rw [decide_eq_true (by omega), ifb_true, s_r03Has g a k (by omega), Option.bind_some, filter_range_succ, List.map_append]
    cases hh : hasB g a k with
    | false =>
      rw [Bool.not_false, ifb_true, m_narthexref12_Table_j3, wr_succ (by omega)]
      simp
    | true =>
      have hne := rightB_ne hg hr ((hasB_iff hg).1 hh)
      rw [Bool.not_true, ifb_false, at_cg (c := c) (Int.natCast_nonneg a) (by omega), Option.bind_some, at_cg (c := c) (Int.natCast_nonneg k) (by omega), Option.bind_some]
      by_cases h1 : cg c a < cg c k
      · rw [decide_eq_true h1, ifb_true, m_narthexref12_Table_j4, app_ok _ _ (by omega) (by simp only [List.length_map, List.length_singleton]; omega), Option.bind_some, m_narthexref12_Table_j3, wr_succ (by omega)]
        have : ¬ cg c k < cg c a := by omega
        simp [sideT, this]
      · rw [decide_eq_false h1, ifb_false, m_narthexref12_Table_j4, app_ok _ _ (by omega) (by simp only [List.length_map, List.length_singleton]; omega), Option.bind_some, m_narthexref12_Table_j3, wr_succ (by omega)]
        have : cg c k < cg c a := by omega
        simp [sideT, this]
  · dsimp only [m_narthexref12_Table_l2]
    rw [decide_eq_false (by omega), ifb_false, ← near_filter hg, m_narthexref12_Table_j2, app_ok _ _ (by omega) (by simp; omega), Option.bind_some, wr_succ (by omega)]
    rfl
theorem s_r12Table (g : Graph) (hg : okG g = true) (c : List Int) (hr : rightB g c = true) : m_narthexref12_Table g c = some (tableT g c) := by
  obtain ⟨g1, g2, _, _, _⟩ := okG_parts hg
  unfold m_narthexref12_Table
  refine loop_nat g.N.toNat (m_narthexref12_Table_l1 g c) (fun k => ((k : Int), (List.range k).map (dinerT g c))) _ (fun k hk => ?_) ?_
  · dsimp only [m_narthexref12_Table_l1]
    rw [decide_eq_true (by omega), ifb_true, s_r12Table2 g hg c hr k (by omega) _ (by simp; omega), map_range_succ]
  · dsimp only [m_narthexref12_Table_l1]
    rw [decide_eq_false (by omega), ifb_false]
    rfl
theorem tableT_few {g : Graph} (hg : okG g = true) (c : List Int) : fewD (tableT g c) := by
  obtain ⟨g1, g2, g3, _, _⟩ := okG_parts hg
  refine ⟨by simp [tableT]; omega, fun d hd => ?_⟩
  obtain ⟨a, _, rfl⟩ := List.mem_map.1 hd
  have := nearL_len g a
  simp only [dinerT, List.length_map]; omega
end NX
end Go.Proofs.Ytadebhbiglmodaa
/-
  Plain laws: the nodes of a graph are of that graph. No statement of the seat is proved here.
-/
namespace Go.Proofs.Ytadebhbiglmodaa
namespace NX
open Go
theorem risB_of : ∀ {l : List Edge}, l.Pairwise (fun x y => x.lt y = true) → risB l = true
  | [], _ => rfl
  | [x], _ => rfl
  | x :: y :: l, h => by
    rw [List.pairwise_cons] at h
    simp only [risB, Bool.and_eq_true]
    exact ⟨h.1 y (by simp), risB_of h.2⟩
theorem tableT_get {g : Graph} {c : List Int} {a : Int} (h0 : 0 ≤ a) (h : a < g.N) : (tableT g c)[a.toNat]? = some (dinerT g c a.toNat) := by
  unfold tableT
  rw [List.getElem?_map, List.getElem?_range (by omega)]; rfl
theorem tableT_len {g : Graph} (hg : okG g = true) (c : List Int) : ((tableT g c).length : Int) = g.N := by
  have := (okG_parts hg).1
  simp [tableT]; omega
theorem tableT_at {g : Graph} {c : List Int} {a : Int} (h0 : 0 ≤ a) (h : a < g.N) : at_ (tableT g c) a = some (dinerT g c a.toNat) := by
  have := at_get (tableT_get (c := c) h0 h)
  rwa [Int.toNat_of_nonneg h0] at this
theorem sideO_T (g : Graph) (c : List Int) (a : Nat) (b : Int) : sideO (dinerT g c a) b = if b ∈ nearL g a then some (sideT c a b) else none := by
  unfold sideO dinerT
  dsimp only
  rw [List.find?_map]
  have e : ((fun x : Side => decide (x.Peer = b)) ∘ sideT c a) = fun z => decide (z = b) := rfl
  rw [e]
  by_cases h : b ∈ nearL g a
  · rw [if_pos h]
    have : (nearL g a).find? (fun z => decide (z = b)) = some b := by
      cases hf : (nearL g a).find? (fun z => decide (z = b)) with
      | none => rw [List.find?_eq_none] at hf; exact absurd (by simp) (hf b h)
      | some z => have := List.find?_some hf; simp at this; rw [this]
    rw [this]; rfl
  · rw [if_neg h]
    have : (nearL g a).find? (fun z => decide (z = b)) = none := by
      rw [List.find?_eq_none]; intro z hz; simp; rintro rfl; exact h hz
    rw [this]; rfl
theorem near_symm {g : Graph} (hg : okG g = true) {a b : Int} (h : b ∈ nearL g a) : a ∈ nearL g b := by
  rw [mem_nearL hg] at *; exact h.symm
theorem tableT_pw {g : Graph} (hg : okG g = true) (c : List Int) (d : Diner) (hd : d ∈ tableT g c) : d.Sides.Pairwise fun x y => x.Peer < y.Peer := by
  obtain ⟨a, _, rfl⟩ := List.mem_map.1 hd
  simp only [dinerT, List.pairwise_map]
  exact nearL_pw hg a
/-- The nodes of a graph are of that graph. -/
theorem graphP_T {g : Graph} (hg : okG g = true) (c : List Int) : graphP (tableT g c) = (g, true) := by
  obtain ⟨g1, g2, g3, g4, g5⟩ := okG_parts hg
  have hlen := tableT_len hg c
  have hall : okAll (tableT g c) 0 (tableT g c) = true := by
    rw [okAll_iff]
    intro k d hd
    have hk := (List.getElem?_eq_some_iff.1 hd).1
    have e := tableT_get (g := g) (c := c) (a := (k : Int)) (by omega) (by omega)
    rw [Int.toNat_natCast, hd] at e
    simp at e; subst e
    refine ⟨by simp [dinerT], ?_⟩
    rw [Nat.zero_add, okFrom_iff]
    refine ⟨fun x hx => ?_, tableT_pw hg c _ (List.mem_iff_getElem?.2 ⟨_, hd⟩), by simp⟩
    obtain ⟨b, hb, rfl⟩ := List.mem_map.1 hx
    obtain ⟨b1, b2, b3, _, _⟩ := near_range hg hb
    have hs : sideO (dinerT g c b.toNat) k = some (sideT c b.toNat k) := by
      rw [sideO_T, if_pos]
      rw [Int.toNat_of_nonneg b1]; exact near_symm hg hb
    have hs' : (sideO (dinerT g c b.toNat) (k : Int)).isSome = true := by rw [hs]; rfl
    show (decide (0 ≤ b) && (decide (b < ((tableT g c).length : Int)) && (!decide (b = (k : Int)) && (match (tableT g c)[b.toNat]? with | some e => (sideO e k).isSome | none => false)))) = true
    rw [decide_eq_true b1, decide_eq_true (by omega), decide_eq_false b3, tableT_get (c := c) b1 b2]
    simpa using hs'
  have hedges : edgesL 0 (tableT g c) = g.Edges := by
    refine pw_ext (R := fun x y => x.lt y = true) Edge.lt_irr (fun x y h1 h2 => Edge.lt_irr x (Edge.lt_trans h1 h2)) (edgesL_pw (tableT_pw hg c)) (okG_pw hg) fun e => ?_
    rw [mem_edgesL]
    constructor
    · rintro ⟨k, d, hd, he⟩
      have hk := (List.getElem?_eq_some_iff.1 hd).1
      have e' := tableT_get (g := g) (c := c) (a := (k : Int)) (by omega) (by omega)
      rw [Int.toNat_natCast, hd] at e'
      simp at e'; subst e'
      obtain ⟨h1, h2, x, hx, h3⟩ := mem_edgesD.1 he
      obtain ⟨b, hb, rfl⟩ := List.mem_map.1 hx
      simp only [sideT] at h3
      subst h3
      rw [Nat.zero_add] at h1 h2
      rcases (mem_nearL hg).1 hb with hb | hb
      · obtain ⟨e1, e2⟩ := e; dsimp only at h1 hb; rw [h1]; exact hb
      · have := g4 _ hb; dsimp only at this; omega
    · intro he
      have h := g4 e he
      refine ⟨e.A.toNat, dinerT g c e.A.toNat, tableT_get h.1 (by omega), mem_edgesD.2 ⟨by omega, by omega, sideT c e.A.toNat e.B, ?_, rfl⟩⟩
      simp only [dinerT]
      refine List.mem_map_of_mem ?_
      rw [mem_nearL hg, Int.toNat_of_nonneg h.1]
      exact .inl he
  have hG : (⟨(tableT g c).length, edgesL 0 (tableT g c)⟩ : Graph) = g := by
    rw [hedges, hlen]
  unfold graphP
  rw [hG, hall, hg]; rfl
end NX
end Go.Proofs.Ytadebhbiglmodaa
/-
  The function narthex/dine.Check$1: its code compiled, a model, and that the code answers as the model. Written by a program of ours (lb.py). No statement of the seat is proved here.
-/
namespace Go.Proofs.Ytadebhbiglmodaa
namespace NX
open Go
set_option maxRecDepth 100000
set_option maxHeartbeats 4000000
def e123 : EC := .seq (.reg [⟨(some 3), none, .box 49 8 (.t 0)⟩, ⟨(some 4), none, .mv (.c .ff)⟩]) (.seq (.reg [⟨(some 6), none, .fld 0 (.t 3)⟩, ⟨(some 7), none, .load (.t 6)⟩, ⟨(some 8), none, .load (.t 1)⟩, ⟨(some 9), none, .bin .gtr (.t 7) (.t 8)⟩, ⟨(some 10), none, .mv (.t 9)⟩, ⟨(some 11), (some (10, true)), .fld 0 (.t 3)⟩, ⟨(some 12), (some (10, true)), .load (.t 11)⟩, ⟨(some 13), (some (10, true)), .fld 0 (.t 2)⟩, ⟨(some 14), (some (10, true)), .load (.t 13)⟩, ⟨(some 15), (some (10, true)), .bin .neq (.t 12) (.t 14)⟩, ⟨(some 16), none, .pick (.t 10) (.t 15) (.c .ff)⟩, ⟨(some 5), none, .mv (.t 16)⟩]) (.seq (.reg [⟨(some 17), none, .fld 0 (.t 3)⟩, ⟨(some 18), none, .load (.t 17)⟩, ⟨none, none, .store 1 (.t 1) (.t 18)⟩]) (.seq (.reg [⟨(some 19), none, .mv (.t 5)⟩, ⟨(some 20), none, .not (.t 19)⟩, ⟨(some 21), none, .mv (.t 20)⟩, ⟨(some 22), (some (21, false)), .fld 1 (.t 3)⟩, ⟨(some 23), (some (21, false)), .load (.t 22)⟩, ⟨(some 24), (some (21, false)), .bin .lss (.t 23) (.c (.iv 0))⟩, ⟨(some 25), none, .pick (.t 21) (.c .tt) (.t 24)⟩, ⟨(some 26), none, .mv (.t 25)⟩, ⟨(some 27), (some (26, false)), .fld 1 (.t 3)⟩, ⟨(some 28), (some (26, false)), .load (.t 27)⟩, ⟨(some 29), (some (26, false)), .bin .gtr (.t 28) (.c (.iv 65535))⟩, ⟨(some 30), none, .pick (.t 26) (.c .tt) (.t 29)⟩, ⟨(some 31), none, .mv (.t 30)⟩, ⟨(some 32), (some (31, false)), .fld 2 (.t 3)⟩, ⟨(some 33), (some (31, false)), .load (.t 32)⟩, ⟨(some 34), (some (31, false)), .bin .lss (.t 33) (.c (.iv 0))⟩, ⟨(some 35), none, .pick (.t 31) (.c .tt) (.t 34)⟩, ⟨(some 36), none, .mv (.t 35)⟩, ⟨(some 37), (some (36, false)), .fld 2 (.t 3)⟩, ⟨(some 38), (some (36, false)), .load (.t 37)⟩, ⟨(some 39), (some (36, false)), .bin .gtr (.t 38) (.c (.iv 3))⟩, ⟨(some 40), none, .pick (.t 36) (.c .tt) (.t 39)⟩, ⟨(some 41), none, .mv (.t 40)⟩, ⟨(some 42), (some (41, false)), .fld 4 (.t 3)⟩, ⟨(some 43), (some (41, false)), .load (.t 42)⟩, ⟨(some 44), (some (41, false)), .mv (.t 43)⟩, ⟨(some 45), (some (44, true)), .fld 3 (.t 3)⟩, ⟨(some 46), (some (44, true)), .load (.t 45)⟩, ⟨(some 47), (some (44, true)), .not (.t 46)⟩, ⟨(some 48), (some (41, false)), .pick (.t 44) (.t 47) (.c .ff)⟩, ⟨(some 49), none, .pick (.t 41) (.c .tt) (.t 48)⟩, ⟨(some 4), none, .mv (.t 49)⟩]) (.ret))))
theorem ok123 : FnOK Try.prog 123 Try.f123 e123 [.t 4] 3 47 := ⟨by kernel_rfl, ⟨_, rfl, by kernel_rfl⟩, by kernel_rfl, by kernel_rfl⟩
/- narthex/dine.Check$1 -/
noncomputable def m_dine_Check_1 (_x1 : Side) (_x2 : Int) (_x3 : Diner) : Option Bool :=
 none
theorem k_dine_Check_1 (x1 : Side) (x2 : Int) (x3 : Diner) (r : Bool) (h : m_dine_Check_1 x1 x2 x3 = some r) : FunP Try.prog 123 [.agg (Side.row x1), .elt (intRow x2) 0, .elt (Diner.row x3) 0] (.bv r) := by
  simp [m_dine_Check_1] at h
def f_dine_Check_1 (_F : Nat) (_x1 : Side) (_x2 : Int) (_x3 : Diner) : Option Bool := none
theorem le_dine_Check_1 {F : Nat} {x1 : Side} {x2 : Int} {x3 : Diner} : ole (f_dine_Check_1 F x1 x2 x3) (m_dine_Check_1 x1 x2 x3) := ⟨fun _ h => by simp [f_dine_Check_1] at h⟩
end NX
end Go.Proofs.Ytadebhbiglmodaa
/-
  The function slices.ContainsFunc[[]narthex/api.Side,narthex/api.Side]: its code compiled, a model, and that the code answers as the model. Written by a program of ours (lb.py). No statement of the seat is proved here.
-/
namespace Go.Proofs.Ytadebhbiglmodaa
namespace NX
open Go
set_option maxRecDepth 100000
set_option maxHeartbeats 4000000
def e124 : EC := .seq (.reg [⟨(some 4), none, .mv (.c .ff)⟩]) (.seq (.reg [⟨(some 5), none, .mv (.t 0)⟩, ⟨(some 6), none, .mv (.t 1)⟩, ⟨(some 7), none, .call 55 [(.t 5), (.t 6)]⟩, ⟨(some 8), none, .bin .geq (.t 7) (.c (.iv 0))⟩, ⟨(some 4), none, .mv (.t 8)⟩]) (.ret))
theorem ok124 : FnOK Try.prog 124 Try.f124 e124 [.t 4] 2 7 := ⟨by kernel_rfl, ⟨_, rfl, by kernel_rfl⟩, by kernel_rfl, by kernel_rfl⟩
/- slices.ContainsFunc[[]narthex/api.Side,narthex/api.Side] -/
noncomputable def m_slices_ContainsFunc_Side (x1 : (List Side)) (p1 : (Side → Option Bool)) : Option Bool :=
 (m_slices_IndexFunc_Side x1 p1).bind fun x2 =>
 some (decide (0 ≤ x2))
theorem k_slices_ContainsFunc_Side (x1 : (List Side)) (g1 : Nat) (caps1 : List AV) (p1 : (Side → Option Bool)) (hc1 : CloOK Try.prog g1 caps1 (fun z => [.agg (Side.row z)]) p1 (fun z => .bv z)) (r : Bool) (h : m_slices_ContainsFunc_Side x1 p1 = some r) : FunP Try.prog 124 [.sl 8 (List.map Side.row x1), .clo g1 caps1] (.bv r) := by
  refine FunP_intro ok124 rfl rfl fun w0 H0 => ?_
  rw [m_slices_ContainsFunc_Side] at h
  refine V_go 8 ?_; dsimp only [e124, go_sem, Nat.reduceBEq, Nat.reduceAdd]; refine ⟨by simp, ?_⟩; obtain ⟨x2, ex2, h⟩ := Option.bind_eq_some_iff.1 h; refine V_call trivial (k_slices_IndexFunc_Side x1 _ _ p1 hc1 _ ex2) (hp := (by first | rfl | simp [go_sem, hc1.pu])) (h := ?_); refine V_go 3 ?_; dsimp only [e124, go_sem, Nat.reduceBEq, Nat.reduceAdd]; refine ⟨by simp, ?_⟩; exact M_done (res := fun (r : Bool) => .bv r) ok124 h
def f_slices_ContainsFunc_Side (F : Nat) (x1 : (List Side)) (p1 : (Side → Option Bool)) : Option Bool :=
 (f_slices_IndexFunc_Side F x1 p1).bind fun x2 =>
 some (decide (0 ≤ x2))
theorem le_slices_ContainsFunc_Side {F : Nat} {x1 : (List Side)} {p1 q1 : (Side → Option Bool)} (h_p1 : ∀ z, ole (p1 z) (q1 z)) : ole (f_slices_ContainsFunc_Side F x1 p1) (m_slices_ContainsFunc_Side x1 q1) := by
  unfold f_slices_ContainsFunc_Side m_slices_ContainsFunc_Side
  with_reducible repeat' first | exact ole_refl _ | assumption | intro _ | refine ole_ifb ?_ ?_ | refine ole_bind ?_ ?_ | refine ole_map ?_ | refine ole_loop ?_ | apply le_slices_IndexFunc_Side | apply h_p1
end NX
end Go.Proofs.Ytadebhbiglmodaa
