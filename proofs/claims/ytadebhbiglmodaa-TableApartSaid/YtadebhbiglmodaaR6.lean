/-
  The function narthex/table.Count: its code compiled, a model, and that the code answers as the model. Written by a program of ours (lb.py). No statement of the seat is proved here.
-/
import Derived.KernelRfl
import Derived.Test.YtadebhbiglmodaaR4
import Derived.Test.YtadebhbiglmodaaR2
import Derived.Test.YtadebhbiglmodaaR5
import Derived.Test.YtadebhbiglmodaaR3
namespace Go.Proofs.Ytadebhbiglmodaa
namespace NX
open Go
set_option maxRecDepth 100000
set_option maxHeartbeats 4000000
def e39_L1 : EC := .seq (.reg [⟨(some 89), none, .bin .lss (.t 88) (.t 87)⟩]) (.seq (.ite (.t 89) (.skip) (.exit 3)) (.seq (.blk 4 (.seq (.reg [⟨(some 90), none, .idx 5 (.t 86) (.t 88)⟩, ⟨(some 91), none, .loadA 5 (.t 90)⟩, ⟨(some 16), none, .alloc 97 [.iv 0, .iv 0, .iv 0, .iv 0, .iv 0]⟩, ⟨none, none, .store 5 (.t 16) (.t 91)⟩]) (.seq (.reg [⟨(some 92), none, .fld 2 (.t 16)⟩, ⟨(some 93), none, .fld 0 (.t 92)⟩, ⟨(some 94), none, .load (.t 93)⟩, ⟨(some 95), none, .mv (.t 2)⟩, ⟨(some 96), none, .bin .eql (.t 94) (.t 95)⟩, ⟨(some 97), none, .mv (.t 96)⟩, ⟨(some 98), (some (97, true)), .fld 2 (.t 16)⟩, ⟨(some 99), (some (97, true)), .fld 1 (.t 98)⟩, ⟨(some 100), (some (97, true)), .load (.t 99)⟩, ⟨(some 101), (some (97, true)), .fld 1 (.t 7)⟩, ⟨(some 102), (some (97, true)), .load (.t 101)⟩, ⟨(some 103), (some (97, true)), .bin .eql (.t 100) (.t 102)⟩, ⟨(some 104), none, .pick (.t 97) (.t 103) (.c .ff)⟩, ⟨(some 105), none, .mv (.t 104)⟩, ⟨(some 106), (some (105, true)), .fld 0 (.t 16)⟩, ⟨(some 107), (some (105, true)), .load (.t 106)⟩, ⟨(some 108), (some (105, true)), .fld 1 (.t 16)⟩, ⟨(some 109), (some (105, true)), .load (.t 108)⟩, ⟨(some 110), (some (105, true)), .mm false [(.t 107), (.t 109)]⟩, ⟨(some 111), (some (105, true)), .fld 0 (.t 4)⟩, ⟨(some 112), (some (105, true)), .load (.t 111)⟩, ⟨(some 113), (some (105, true)), .fld 1 (.t 4)⟩, ⟨(some 114), (some (105, true)), .load (.t 113)⟩, ⟨(some 115), (some (105, true)), .mm false [(.t 112), (.t 114)]⟩, ⟨(some 116), (some (105, true)), .bin .eql (.t 110) (.t 115)⟩, ⟨(some 117), none, .pick (.t 105) (.t 116) (.c .ff)⟩, ⟨(some 118), none, .mv (.t 117)⟩, ⟨(some 119), (some (118, true)), .fld 0 (.t 16)⟩, ⟨(some 120), (some (118, true)), .load (.t 119)⟩, ⟨(some 121), (some (118, true)), .fld 1 (.t 16)⟩, ⟨(some 122), (some (118, true)), .load (.t 121)⟩, ⟨(some 123), (some (118, true)), .mm true [(.t 120), (.t 122)]⟩, ⟨(some 124), (some (118, true)), .fld 0 (.t 4)⟩, ⟨(some 125), (some (118, true)), .load (.t 124)⟩, ⟨(some 126), (some (118, true)), .fld 1 (.t 4)⟩, ⟨(some 127), (some (118, true)), .load (.t 126)⟩, ⟨(some 128), (some (118, true)), .mm true [(.t 125), (.t 127)]⟩, ⟨(some 129), (some (118, true)), .bin .eql (.t 123) (.t 128)⟩, ⟨(some 130), none, .pick (.t 118) (.t 129) (.c .ff)⟩]) (.ite (.t 130) (.reg [⟨(some 131), none, .mv (.t 12)⟩, ⟨(some 132), none, .bin .add (.t 131) (.c (.iv 1))⟩, ⟨(some 12), none, .mv (.t 132)⟩]) (.skip))))) (.reg [⟨(some 133), none, .bin .add (.t 88) (.c (.iv 1))⟩, ⟨(some 88), none, .mv (.t 133)⟩])))
def e39_L0 : EC := .seq (.reg [⟨(some 76), none, .bin .lss (.t 75) (.t 74)⟩]) (.seq (.ite (.t 76) (.skip) (.exit 1)) (.seq (.blk 2 (.seq (.reg [⟨(some 77), none, .idx 8 (.t 73) (.t 75)⟩, ⟨(some 78), none, .loadA 8 (.t 77)⟩, ⟨(some 14), none, .alloc 49 [.iv 0, .iv 0, .iv 0, .ff, .ff, .ff, .ff, .ff]⟩, ⟨none, none, .store 8 (.t 14) (.t 78)⟩]) (.seq (.reg [⟨(some 79), none, .mv (.t 11)⟩, ⟨(some 80), none, .loadA 8 (.t 14)⟩, ⟨(some 81), none, .callv (.t 79) [(.t 80)]⟩]) (.ite (.t 81) (.reg [⟨(some 82), none, .mv (.t 12)⟩, ⟨(some 83), none, .bin .add (.t 82) (.c (.iv 1))⟩, ⟨(some 12), none, .mv (.t 83)⟩]) (.skip))))) (.reg [⟨(some 84), none, .bin .add (.t 75) (.c (.iv 1))⟩, ⟨(some 75), none, .mv (.t 84)⟩])))
def e39 : EC := .seq (.reg [⟨(some 3), none, .box 43 2 (.t 0)⟩, ⟨(some 4), none, .box 58 2 (.t 1)⟩, ⟨(some 6), none, .mv (.c (.iv 0))⟩]) (.seq (.seq (.reg [⟨(some 17), none, .loadA 2 (.t 3)⟩, ⟨(some 18), none, .fld 0 (.t 4)⟩, ⟨(some 19), none, .load (.t 18)⟩, ⟨(some 20), none, .call 73 [(.t 17), (.t 19)]⟩, ⟨(some 21), none, .not (.t 20)⟩, ⟨(some 22), none, .mv (.t 21)⟩, ⟨(some 23), (some (22, false)), .loadA 2 (.t 3)⟩, ⟨(some 24), (some (22, false)), .fld 1 (.t 4)⟩, ⟨(some 25), (some (22, false)), .load (.t 24)⟩, ⟨(some 26), (some (22, false)), .call 73 [(.t 23), (.t 25)]⟩, ⟨(some 27), (some (22, false)), .not (.t 26)⟩, ⟨(some 28), none, .pick (.t 22) (.c .tt) (.t 27)⟩]) (.ite (.t 28) (.seq (.reg [⟨(some 6), none, .mv (.c (.iv 0))⟩]) (.ret)) (.skip))) (.seq (.drw [⟨(some 30), none, .fld 0 (.t 3)⟩, ⟨(some 31), none, .load (.t 30)⟩, ⟨(some 32), none, .fld 0 (.t 4)⟩, ⟨(some 33), none, .load (.t 32)⟩, ⟨(some 34), none, .idx 3 (.t 31) (.t 33)⟩, ⟨(some 35), none, .loadA 3 (.t 34)⟩, ⟨(some 36), none, .fld 1 (.t 4)⟩, ⟨(some 37), none, .load (.t 36)⟩, ⟨(some 38), none, .call 24 [(.t 35), (.t 37)]⟩, ⟨(some 29), none, .mv (.t 38)⟩, ⟨(some 39), none, .ext (.t 29) 0⟩, ⟨(some 40), none, .ext (.t 29) 1⟩, ⟨(some 7), none, .alloc 49 [.iv 0, .iv 0, .iv 0, .ff, .ff, .ff, .ff, .ff]⟩, ⟨none, none, .store 8 (.t 7) (.t 39)⟩, ⟨(some 8), none, .mv (.t 40)⟩] [[], [0], [], [2], [1, 3], [4], [], [6], [5, 7], [8], [9], [9], [], [12, 10, 8, 0, 1, 2, 3, 4, 5, 6, 7, 8, 9, 10, 12], [11, 13, 0, 1, 2, 3, 4, 5, 6, 7, 8, 9, 10, 11, 12, 13]] [[1], [0, 4], [3], [2, 4], [1, 3, 5], [4, 8], [7], [6, 8], [5, 7, 9], [8, 10, 11], [9, 13], [9, 14], [13], [10, 12], [11]]) (.seq (.drw [⟨(some 42), none, .fld 0 (.t 3)⟩, ⟨(some 43), none, .load (.t 42)⟩, ⟨(some 44), none, .fld 1 (.t 4)⟩, ⟨(some 45), none, .load (.t 44)⟩, ⟨(some 46), none, .idx 3 (.t 43) (.t 45)⟩, ⟨(some 47), none, .loadA 3 (.t 46)⟩, ⟨(some 48), none, .fld 0 (.t 4)⟩, ⟨(some 49), none, .load (.t 48)⟩, ⟨(some 50), none, .call 24 [(.t 47), (.t 49)]⟩, ⟨(some 41), none, .mv (.t 50)⟩, ⟨(some 51), none, .ext (.t 41) 0⟩, ⟨(some 52), none, .ext (.t 41) 1⟩, ⟨(some 9), none, .alloc 49 [.iv 0, .iv 0, .iv 0, .ff, .ff, .ff, .ff, .ff]⟩, ⟨none, none, .store 8 (.t 9) (.t 51)⟩, ⟨(some 10), none, .mv (.t 52)⟩] [[], [0], [], [2], [1, 3], [4], [], [6], [5, 7], [8], [9], [9], [], [12, 10, 8, 0, 1, 2, 3, 4, 5, 6, 7, 8, 9, 10, 12], [11, 13, 0, 1, 2, 3, 4, 5, 6, 7, 8, 9, 10, 11, 12, 13]] [[1], [0, 4], [3], [2, 4], [1, 3, 5], [4, 8], [7], [6, 8], [5, 7, 9], [8, 10, 11], [9, 13], [9, 14], [13], [10, 12], [11]]) (.seq (.seq (.reg [⟨(some 53), none, .mv (.t 8)⟩, ⟨(some 54), none, .not (.t 53)⟩, ⟨(some 55), none, .mv (.t 54)⟩, ⟨(some 56), (some (55, false)), .mv (.t 10)⟩, ⟨(some 57), (some (55, false)), .not (.t 56)⟩, ⟨(some 58), none, .pick (.t 55) (.c .tt) (.t 57)⟩, ⟨(some 59), none, .mv (.t 58)⟩, ⟨(some 60), (some (59, false)), .fld 1 (.t 7)⟩, ⟨(some 61), (some (59, false)), .load (.t 60)⟩, ⟨(some 62), (some (59, false)), .fld 1 (.t 9)⟩, ⟨(some 63), (some (59, false)), .load (.t 62)⟩, ⟨(some 64), (some (59, false)), .bin .neq (.t 61) (.t 63)⟩, ⟨(some 65), none, .pick (.t 59) (.c .tt) (.t 64)⟩]) (.ite (.t 65) (.seq (.reg [⟨(some 6), none, .mv (.c (.iv 0))⟩]) (.ret)) (.skip))) (.seq (.reg [⟨(some 11), none, .mv (.c .any)⟩]) (.seq (.seq (.reg [⟨(some 66), none, .mv (.t 2)⟩]) (.blk 0 (.seq (.reg [⟨(some 68), none, .bin .eql (.t 66) (.c (.iv 1))⟩, ⟨(some 67), none, .mv (.t 68)⟩]) (.ite (.t 67) (.reg [⟨(some 11), none, .mv (.c (.clo 74 []))⟩]) (.seq (.reg [⟨(some 70), none, .bin .eql (.t 66) (.c (.iv 2))⟩, ⟨(some 69), none, .mv (.t 70)⟩]) (.ite (.t 69) (.reg [⟨(some 11), none, .mv (.c (.clo 75 []))⟩]) (.seq (.reg [⟨(some 6), none, .mv (.c (.iv 0))⟩]) (.ret)))))))) (.seq (.reg [⟨(some 12), none, .mv (.c (.iv 0))⟩]) (.seq (.seq (.reg [⟨(some 71), none, .loadA 8 (.t 7)⟩, ⟨(some 72), none, .loadA 8 (.t 9)⟩, ⟨(some 73), none, .bsl 49 8 2 [.iv 0, .iv 0, .iv 0, .ff, .ff, .ff, .ff, .ff] [(0, (.t 71)), (1, (.t 72))]⟩, ⟨(some 74), none, .len (.t 73)⟩, ⟨(some 75), none, .mv (.c (.iv 0))⟩]) (.blk 1 (.loop e39_L0))) (.seq (.seq (.reg [⟨(some 85), none, .fld 1 (.t 3)⟩, ⟨(some 86), none, .load (.t 85)⟩, ⟨(some 87), none, .len (.t 86)⟩, ⟨(some 88), none, .mv (.c (.iv 0))⟩]) (.blk 3 (.loop e39_L1))) (.seq (.reg [⟨(some 134), none, .mv (.t 12)⟩, ⟨(some 6), none, .mv (.t 134)⟩]) (.ret)))))))))))
theorem ok39 : FnOK Try.prog 39 Try.f39 e39 [.t 6] 3 132 := ⟨by kernel_rfl, ⟨_, rfl, by kernel_rfl⟩, by kernel_rfl, by kernel_rfl⟩
/- narthex/table.Count -/
noncomputable def m_table_Count_j7  : Int → Option Int
| x58 =>
 some x58
noncomputable def m_table_Count_j9 (x45 : Int) : Int → Option ((Int × Int) ⊕ Int)
| x48 =>
 some (.inl (x48, wr (x45 + 1)))
noncomputable def m_table_Count_j8 (x44 : Int) (x45 : Int) : Bool → Option ((Int × Int) ⊕ Int)
| x47 =>
 ifb x47 (
 (m_table_Count_j9 x45) (wr (x44 + 1))) (
 (m_table_Count_j9 x45) x44)
noncomputable def m_table_Count_l2 (x1 : Scene) (x2 : Edge) (x3 : Int) (x11 : Side) : (Int × Int) → Option ((Int × Int) ⊕ Int)
| (x44, x45) =>
 ifb (decide (x45 < (ln Mail.row x1.Mail))) (
 (at_ x1.Mail x45).bind fun x46 =>
 ifb (decide (x46.Msg.Kind = x3)) (
 ifb (decide (x46.Msg.Epoch = x11.Epoch)) (
 ifb (decide (((min x46.From x46.To)) = ((min x2.A x2.B)))) (
 (m_table_Count_j8 x44 x45) (decide (((max x46.From x46.To)) = ((max x2.A x2.B))))) (
 (m_table_Count_j8 x44 x45) false)) (
 (m_table_Count_j8 x44 x45) false)) (
 (m_table_Count_j8 x44 x45) false)) (
 Option.map Sum.inr (m_table_Count_j7 x44))
noncomputable def m_table_Count_j5 (x1 : Scene) (x2 : Edge) (x3 : Int) (x11 : Side) : Int → Option Int
| x38 =>
 loop (m_table_Count_l2 x1 x2 x3 x11) (x38, 0)
noncomputable def m_table_Count_j6 (x24 : Int) : Int → Option ((Int × Int) ⊕ Int)
| x27 =>
 some (.inl (x27, wr (x24 + 1)))
noncomputable def m_table_Count_l1 (x1 : Scene) (x2 : Edge) (x3 : Int) (x11 : Side) (x16 : Side) : (Int × Int) → Option ((Int × Int) ⊕ Int)
| (x23, x24) =>
 ifb (decide (x24 < (ln Side.row ([x11, x16])))) (
 (at_ ([x11, x16]) x24).bind fun x25 =>
 (m_table_Count_1 x25).bind fun x26 =>
 ifb x26 (
 (m_table_Count_j6 x24) (wr (x23 + 1))) (
 (m_table_Count_j6 x24) x23)) (
 Option.map Sum.inr ((m_table_Count_j5 x1 x2 x3 x11) x23))
noncomputable def m_table_Count_j12  : Int → Option Int
| x99 =>
 some x99
noncomputable def m_table_Count_j14 (x86 : Int) : Int → Option ((Int × Int) ⊕ Int)
| x89 =>
 some (.inl (x89, wr (x86 + 1)))
noncomputable def m_table_Count_j13 (x85 : Int) (x86 : Int) : Bool → Option ((Int × Int) ⊕ Int)
| x88 =>
 ifb x88 (
 (m_table_Count_j14 x86) (wr (x85 + 1))) (
 (m_table_Count_j14 x86) x85)
noncomputable def m_table_Count_l4 (x1 : Scene) (x2 : Edge) (x3 : Int) (x11 : Side) : (Int × Int) → Option ((Int × Int) ⊕ Int)
| (x85, x86) =>
 ifb (decide (x86 < (ln Mail.row x1.Mail))) (
 (at_ x1.Mail x86).bind fun x87 =>
 ifb (decide (x87.Msg.Kind = x3)) (
 ifb (decide (x87.Msg.Epoch = x11.Epoch)) (
 ifb (decide (((min x87.From x87.To)) = ((min x2.A x2.B)))) (
 (m_table_Count_j13 x85 x86) (decide (((max x87.From x87.To)) = ((max x2.A x2.B))))) (
 (m_table_Count_j13 x85 x86) false)) (
 (m_table_Count_j13 x85 x86) false)) (
 (m_table_Count_j13 x85 x86) false)) (
 Option.map Sum.inr (m_table_Count_j12 x85))
noncomputable def m_table_Count_j10 (x1 : Scene) (x2 : Edge) (x3 : Int) (x11 : Side) : Int → Option Int
| x79 =>
 loop (m_table_Count_l4 x1 x2 x3 x11) (x79, 0)
noncomputable def m_table_Count_j11 (x65 : Int) : Int → Option ((Int × Int) ⊕ Int)
| x68 =>
 some (.inl (x68, wr (x65 + 1)))
noncomputable def m_table_Count_l3 (x1 : Scene) (x2 : Edge) (x3 : Int) (x11 : Side) (x16 : Side) : (Int × Int) → Option ((Int × Int) ⊕ Int)
| (x64, x65) =>
 ifb (decide (x65 < (ln Side.row ([x11, x16])))) (
 (at_ ([x11, x16]) x65).bind fun x66 =>
 (m_table_Count_2 x66).bind fun x67 =>
 ifb x67 (
 (m_table_Count_j11 x65) (wr (x64 + 1))) (
 (m_table_Count_j11 x65) x64)) (
 Option.map Sum.inr ((m_table_Count_j10 x1 x2 x3 x11) x64))
noncomputable def m_table_Count_j4 (x1 : Scene) (x2 : Edge) (x3 : Int) (x11 : Side) (x16 : Side) : Bool → Option Int
| x17 =>
 ifb x17 (
 some 0) (
 ifb (decide (x3 = 1)) (
 loop (m_table_Count_l1 x1 x2 x3 x11 x16) (0, 0)) (
 ifb (decide (x3 = 2)) (
 loop (m_table_Count_l3 x1 x2 x3 x11 x16) (0, 0)) (
 some 0)))
noncomputable def m_table_Count_j3 (x1 : Scene) (x2 : Edge) (x3 : Int) (x10 : Bool) (x11 : Side) : (Bool × Side) → Option Int
| (x15, x16) =>
 ifb (!x10) (
 (m_table_Count_j4 x1 x2 x3 x11 x16) true) (
 ifb (!x15) (
 (m_table_Count_j4 x1 x2 x3 x11 x16) true) (
 (m_table_Count_j4 x1 x2 x3 x11 x16) (!decide (x11.Epoch = x16.Epoch))))
noncomputable def m_table_Count_j2 (x1 : Scene) (x2 : Edge) (x3 : Int) : (Bool × Side) → Option Int
| (x10, x11) =>
 (at_ x1.Diners x2.B).bind fun x12 =>
 (m_place_Side x12 x2.A).bind fun x13 =>
 (m_table_Count_j3 x1 x2 x3 x10 x11) (x13.2, x13.1)
noncomputable def m_table_Count_j1 (x1 : Scene) (x2 : Edge) (x3 : Int) : Bool → Option Int
| x6 =>
 ifb x6 (
 some 0) (
 (at_ x1.Diners x2.A).bind fun x7 =>
 (m_place_Side x7 x2.B).bind fun x8 =>
 (m_table_Count_j2 x1 x2 x3) (x8.2, x8.1))
noncomputable def m_table_Count (x1 : Scene) (x2 : Edge) (x3 : Int) : Option Int :=
 (m_table_there x1 x2.A).bind fun x4 =>
 ifb (!x4) (
 (m_table_Count_j1 x1 x2 x3) true) (
 (m_table_there x1 x2.B).bind fun x5 =>
 (m_table_Count_j1 x1 x2 x3) (!x5))
theorem k_table_Count (x1 : Scene) (x2 : Edge) (x3 : Int) (r : Int) (h : m_table_Count x1 x2 x3 = some r) : FunP Try.prog 39 [.agg (Scene.row x1), .agg (Edge.row x2), .iv x3] (.iv r) := by
  refine FunP_intro ok39 rfl rfl fun w0 H0 => ?_
  rw [m_table_Count] at h
  refine V_go 12 ?_; dsimp only [e39, e39_L0, e39_L1, go_sem, Nat.reduceBEq, Nat.reduceAdd]; refine ⟨by simp, ?_⟩; obtain ⟨x4, ex4, h⟩ := Option.bind_eq_some_iff.1 h; refine V_call trivial (k_table_there x1 x2.A _ ex4) (h := ?_); refine V_go 2 ?_; dsimp only [e39, e39_L0, e39_L1, go_sem, Nat.reduceBEq, Nat.reduceAdd]; refine ⟨by simp, ?_⟩
  refine V_join (fun (x6 : Bool) => (⟨(.any :: .any :: .iv x3 :: .ptr 0 0 :: .ptr 1 0 :: an 23 (.bv x6 :: an 106 [])), [some ⟨43, [.sl 3 (List.map Diner.row x1.Diners), .sl 5 (List.map Mail.row x1.Mail)]⟩, some ⟨58, [.iv x2.A, .iv x2.B]⟩], []⟩ : St)) (m_table_Count_j1 x1 x2 x3) r ?_ fun J1 => ?_
  ·intro x6 h; rw [m_table_Count_j1] at h; (try dsimp only); refine M_ite h rfl (fun _ h => ?_) fun _ h => ?_
   ·refine V_go 4 ?_; dsimp only [e39, e39_L0, e39_L1, go_sem, Nat.reduceBEq, Nat.reduceAdd]; refine ⟨by simp, ?_⟩; exact M_done (res := fun (r : Int) => .iv r) ok39 h
   ·refine V_go 2 ?_; dsimp only [e39, e39_L0, e39_L1, go_sem, Nat.reduceBEq, Nat.reduceAdd]; refine ⟨by simp, ?_⟩; refine V_join (fun ((x10, x11) : (Bool × Side)) => (⟨(.any :: .any :: .iv x3 :: .ptr 0 0 :: .ptr 1 0 :: .any :: .any :: .ptr 2 0 :: .bv x10 :: an 126 []), [some ⟨43, [.sl 3 (List.map Diner.row x1.Diners), .sl 5 (List.map Mail.row x1.Mail)]⟩, some ⟨58, [.iv x2.A, .iv x2.B]⟩, some ⟨49, [.iv x11.Peer, .iv x11.Epoch, .iv x11.State, .bv x11.Fork, .bv x11.Dirty, .bv x11.Token, .bv x11.Bottle, .bv x11.Ask]⟩], []⟩ : St)) (m_table_Count_j2 x1 x2 x3) r ?_ fun J2 => ?_
    ·rintro ⟨x10, x11⟩ h; rw [m_table_Count_j2] at h; (try dsimp only); refine V_go 1 ?_; dsimp only [e39, e39_L0, e39_L1, go_sem, Nat.reduceBEq, Nat.reduceAdd]; refine ⟨by simp, ?_⟩
     refine V_join (fun ((x15, x16) : (Bool × Side)) => (⟨(.any :: .any :: .iv x3 :: .ptr 0 0 :: .ptr 1 0 :: .any :: .any :: .ptr 2 0 :: .bv x10 :: .ptr 3 0 :: .bv x15 :: an 124 []), [some ⟨43, [.sl 3 (List.map Diner.row x1.Diners), .sl 5 (List.map Mail.row x1.Mail)]⟩, some ⟨58, [.iv x2.A, .iv x2.B]⟩, some ⟨49, [.iv x11.Peer, .iv x11.Epoch, .iv x11.State, .bv x11.Fork, .bv x11.Dirty, .bv x11.Token, .bv x11.Bottle, .bv x11.Ask]⟩, some ⟨49, [.iv x16.Peer, .iv x16.Epoch, .iv x16.State, .bv x16.Fork, .bv x16.Dirty, .bv x16.Token, .bv x16.Bottle, .bv x16.Ask]⟩], []⟩ : St)) (m_table_Count_j3 x1 x2 x3 x10 x11) r ?_ fun J3 => ?_
     ·rintro ⟨x15, x16⟩ h; rw [m_table_Count_j3] at h; (try dsimp only); refine V_go 6 ?_; dsimp only [e39, e39_L0, e39_L1, go_sem, Nat.reduceBEq, Nat.reduceAdd]; refine ⟨by simp, ?_⟩
      refine V_join (fun (x17 : Bool) => (⟨(.any :: .any :: .iv x3 :: .ptr 0 0 :: .ptr 1 0 :: .any :: .any :: .ptr 2 0 :: .any :: .ptr 3 0 :: an 55 (.bv x17 :: an 69 [])), [some ⟨43, [.sl 3 (List.map Diner.row x1.Diners), .sl 5 (List.map Mail.row x1.Mail)]⟩, some ⟨58, [.iv x2.A, .iv x2.B]⟩, some ⟨49, [.iv x11.Peer, .iv x11.Epoch, .iv x11.State, .bv x11.Fork, .bv x11.Dirty, .bv x11.Token, .bv x11.Bottle, .bv x11.Ask]⟩, some ⟨49, [.iv x16.Peer, .iv x16.Epoch, .iv x16.State, .bv x16.Fork, .bv x16.Dirty, .bv x16.Token, .bv x16.Bottle, .bv x16.Ask]⟩], []⟩ : St)) (m_table_Count_j4 x1 x2 x3 x11 x16) r ?_ fun J4 => ?_
      ·intro x17 h; rw [m_table_Count_j4] at h; (try dsimp only); refine M_ite h rfl (fun _ h => ?_) fun _ h => ?_
       ·refine V_go 4 ?_; dsimp only [e39, e39_L0, e39_L1, go_sem, Nat.reduceBEq, Nat.reduceAdd]; refine ⟨by simp, ?_⟩; exact M_done (res := fun (r : Int) => .iv r) ok39 h
       ·refine V_go 16 ?_; dsimp only [e39, e39_L0, e39_L1, go_sem, Nat.reduceBEq, Nat.reduceAdd]; refine ⟨by simp, ?_⟩; refine M_ite h rfl (fun _ h => ?_) fun _ h => ?_
        ·refine V_go 17 ?_; dsimp only [e39, e39_L0, e39_L1, go_sem, Nat.reduceBEq, Nat.reduceAdd]; refine ⟨by simp, ?_⟩; refine V_join (fun (x38 : Int) => (⟨(.any :: .any :: .iv x3 :: .ptr 0 0 :: .ptr 1 0 :: .any :: .any :: .ptr 2 0 :: an 4 (.iv x38 :: an 122 [])), [some ⟨43, [.sl 3 (List.map Diner.row x1.Diners), .sl 5 (List.map Mail.row x1.Mail)]⟩, some ⟨58, [.iv x2.A, .iv x2.B]⟩, some ⟨49, [.iv x11.Peer, .iv x11.Epoch, .iv x11.State, .bv x11.Fork, .bv x11.Dirty, .bv x11.Token, .bv x11.Bottle, .bv x11.Ask]⟩], []⟩ : St)) (m_table_Count_j5 x1 x2 x3 x11) r ?_ fun J5 => ?_
         ·intro x38 h; rw [m_table_Count_j5] at h; (try dsimp only); refine V_go 8 ?_; dsimp only [e39, e39_L0, e39_L1, go_sem, Nat.reduceBEq, Nat.reduceAdd]; refine ⟨by simp, ?_⟩; refine V_join (fun (x58 : Int) => (⟨(an 12 (.iv x58 :: an 122 [])), [], []⟩ : St)) m_table_Count_j7 r ?_ fun J7 => ?_
          ·intro x58 h; rw [m_table_Count_j7] at h; (try dsimp only); refine V_go 5 ?_; dsimp only [e39, e39_L0, e39_L1, go_sem, Nat.reduceBEq, Nat.reduceAdd]; refine ⟨by simp, ?_⟩; exact M_done (res := fun (r : Int) => .iv r) ok39 h
          ·refine V_go 1 ?_; dsimp only [e39, e39_L0, e39_L1, go_sem, Nat.reduceBEq, Nat.reduceAdd]; refine ⟨by simp, ?_⟩
           refine M_loop h (fun ((x44, x45) : (Int × Int)) => (⟨(.any :: .any :: .iv x3 :: .any :: .ptr 1 0 :: .any :: .any :: .ptr 2 0 :: an 4 (.iv x44 :: an 73 (.sl 5 (List.map Mail.row x1.Mail) :: .iv (ln Mail.row x1.Mail) :: .iv x45 :: an 46 []))), [none, some ⟨58, [.iv x2.A, .iv x2.B]⟩, some ⟨49, [.iv x11.Peer, .iv x11.Epoch, .iv x11.State, .bv x11.Fork, .bv x11.Dirty, .bv x11.Token, .bv x11.Bottle, .bv x11.Ask]⟩], []⟩ : St)) (by simp [go_sem]) (by rintro ⟨x44, x45⟩; first | rfl | simp [go_sem]) ?_; rintro n1 ⟨x44, x45⟩ y1 h hin1 hout1; rw [m_table_Count_l2] at h; (try dsimp only)
           refine V_go 5 ?_; dsimp only [e39, e39_L0, e39_L1, go_sem, Nat.reduceBEq, Nat.reduceAdd]; refine ⟨by simp, ?_⟩; refine M_ite h rfl (fun _ h => ?_) fun _ h => ?_
           ·refine V_go 5 ?_; dsimp only [e39, e39_L0, e39_L1, go_sem, Nat.reduceBEq, Nat.reduceAdd]; refine ⟨by simp, ?_⟩; obtain ⟨x46, ex46, h⟩ := Option.bind_eq_some_iff.1 h; refine V_idxM Mail.row ex46 trivial rfl rfl rfl ?_; refine V_go 12 ?_; dsimp only [e39, e39_L0, e39_L1, go_sem, Nat.reduceBEq, Nat.reduceAdd]; refine ⟨by simp, ?_⟩
            refine V_join (fun (x47 : Bool) => (⟨(.any :: .any :: .iv x3 :: .any :: .ptr 1 0 :: .any :: .any :: .ptr 2 0 :: an 4 (.iv x44 :: an 73 (.sl 5 (List.map Mail.row x1.Mail) :: .iv (ln Mail.row x1.Mail) :: .iv x45 :: an 41 (.bv x47 :: an 4 [])))), [none, some ⟨58, [.iv x2.A, .iv x2.B]⟩, some ⟨49, [.iv x11.Peer, .iv x11.Epoch, .iv x11.State, .bv x11.Fork, .bv x11.Dirty, .bv x11.Token, .bv x11.Bottle, .bv x11.Ask]⟩], []⟩ : St)) (m_table_Count_j8 x44 x45) y1 ?_ fun J8 => ?_
            ·intro x47 h; rw [m_table_Count_j8] at h; (try dsimp only); refine V_join (fun (x48 : Int) => (⟨(.any :: .any :: .iv x3 :: .any :: .ptr 1 0 :: .any :: .any :: .ptr 2 0 :: an 4 (.iv x48 :: an 73 (.sl 5 (List.map Mail.row x1.Mail) :: .iv (ln Mail.row x1.Mail) :: .iv x45 :: an 46 []))), [none, some ⟨58, [.iv x2.A, .iv x2.B]⟩, some ⟨49, [.iv x11.Peer, .iv x11.Epoch, .iv x11.State, .bv x11.Fork, .bv x11.Dirty, .bv x11.Token, .bv x11.Bottle, .bv x11.Ask]⟩], []⟩ : St)) (m_table_Count_j9 x45) y1 ?_ fun J9 => ?_
             ·intro x48 h; rw [m_table_Count_j9] at h; (try dsimp only); refine V_go 5 ?_; dsimp only [e39, e39_L0, e39_L1, go_sem, Nat.reduceBEq, Nat.reduceAdd]; refine ⟨by simp, ?_⟩; exact M_back h hin1
             ·refine M_ite h rfl (fun _ h => ?_) fun _ h => ?_
              ·refine V_go 5 ?_; dsimp only [e39, e39_L0, e39_L1, go_sem, Nat.reduceBEq, Nat.reduceAdd]; refine ⟨by simp, ?_⟩; exact M_to J9 (s := wr (x44 + 1)) h
              ·refine V_go 1 ?_; dsimp only [e39, e39_L0, e39_L1, go_sem, Nat.reduceBEq, Nat.reduceAdd]; refine ⟨by simp, ?_⟩; exact M_to J9 (s := x44) h
            ·refine M_case 97 h rfl (fun _ h => ?_) fun _ h => ?_
             ·dsimp only [go_sem, Nat.reduceBEq, Nat.reduceAdd]; refine V_go 8 ?_; dsimp only [e39, e39_L0, e39_L1, go_sem, Nat.reduceBEq, Nat.reduceAdd]; refine ⟨by simp, ?_⟩; refine M_case 105 h rfl (fun _ h => ?_) fun _ h => ?_
              ·dsimp only [go_sem, Nat.reduceBEq, Nat.reduceAdd]; refine V_go 13 ?_; dsimp only [e39, e39_L0, e39_L1, go_sem, Nat.reduceBEq, Nat.reduceAdd]; refine ⟨by simp, ?_⟩; refine M_case 118 h rfl (fun _ h => ?_) fun _ h => ?_
               ·dsimp only [go_sem, Nat.reduceBEq, Nat.reduceAdd]; refine V_go 13 ?_; dsimp only [e39, e39_L0, e39_L1, go_sem, Nat.reduceBEq, Nat.reduceAdd]; refine ⟨by simp, ?_⟩; exact M_to J8 (s := decide (((max x46.From x46.To)) = ((max x2.A x2.B)))) h
               ·dsimp only [go_sem, Nat.reduceBEq, Nat.reduceAdd]; refine V_go 13 ?_; dsimp only [e39, e39_L0, e39_L1, go_sem, Nat.reduceBEq, Nat.reduceAdd]; refine ⟨by simp, ?_⟩; exact M_to J8 (s := false) h
              ·dsimp only [go_sem, Nat.reduceBEq, Nat.reduceAdd]; refine V_go 26 ?_; dsimp only [e39, e39_L0, e39_L1, go_sem, Nat.reduceBEq, Nat.reduceAdd]; refine ⟨by simp, ?_⟩; exact M_to J8 (s := false) h
             ·dsimp only [go_sem, Nat.reduceBEq, Nat.reduceAdd]; refine V_go 34 ?_; dsimp only [e39, e39_L0, e39_L1, go_sem, Nat.reduceBEq, Nat.reduceAdd]; refine ⟨by simp, ?_⟩; exact M_to J8 (s := false) h
           ·refine V_go 1 ?_; dsimp only [e39, e39_L0, e39_L1, go_sem, Nat.reduceBEq, Nat.reduceAdd]; refine ⟨by simp, ?_⟩; exact M_to J7 (s := x44) (M_out h hout1)
         ·refine V_go 1 ?_; dsimp only [e39, e39_L0, e39_L1, go_sem, Nat.reduceBEq, Nat.reduceAdd]; refine ⟨by simp, ?_⟩
          refine M_loop h (fun ((x23, x24) : (Int × Int)) => (⟨(.any :: .any :: .iv x3 :: .ptr 0 0 :: .ptr 1 0 :: .any :: .any :: .ptr 2 0 :: an 3 (.clo 74 [] :: .iv x23 :: an 60 (.osl 0 :: .iv (ln Side.row ([x11, x16])) :: .iv x24 :: an 59 []))), [some ⟨43, [.sl 3 (List.map Diner.row x1.Diners), .sl 5 (List.map Mail.row x1.Mail)]⟩, some ⟨58, [.iv x2.A, .iv x2.B]⟩, some ⟨49, [.iv x11.Peer, .iv x11.Epoch, .iv x11.State, .bv x11.Fork, .bv x11.Dirty, .bv x11.Token, .bv x11.Bottle, .bv x11.Ask]⟩], [some ⟨49, 8, List.map Side.row ([x11, x16])⟩]⟩ : St)) (by simp [go_sem]) (by rintro ⟨x23, x24⟩; first | rfl | simp [go_sem]) ?_
          rintro n1 ⟨x23, x24⟩ y1 h hin1 hout1; rw [m_table_Count_l1] at h; (try dsimp only); refine V_go 5 ?_; dsimp only [e39, e39_L0, e39_L1, go_sem, Nat.reduceBEq, Nat.reduceAdd]; refine ⟨by simp, ?_⟩; refine M_ite h rfl (fun _ h => ?_) fun _ h => ?_
          ·refine V_go 5 ?_; dsimp only [e39, e39_L0, e39_L1, go_sem, Nat.reduceBEq, Nat.reduceAdd]; refine ⟨by simp, ?_⟩; obtain ⟨x25, ex25, h⟩ := Option.bind_eq_some_iff.1 h; refine V_idxOM Side.row ex25 trivial rfl rfl rfl ?_; refine V_loadAO Side.row ex25 trivial rfl rfl rfl ?_; refine V_go 7 ?_; dsimp only [e39, e39_L0, e39_L1, go_sem, Nat.reduceBEq, Nat.reduceAdd]; refine ⟨by simp, ?_⟩; obtain ⟨x26, ex26, h⟩ := Option.bind_eq_some_iff.1 h; refine V_callv trivial rfl (k_table_Count_1 x25 _ ex26) (by kernel_rfl) (h := ?_); refine V_go 1 ?_
           dsimp only [e39, e39_L0, e39_L1, go_sem, Nat.reduceBEq, Nat.reduceAdd]; refine ⟨by simp, ?_⟩
           refine V_join (fun (x27 : Int) => (⟨(.any :: .any :: .iv x3 :: .ptr 0 0 :: .ptr 1 0 :: .any :: .any :: .ptr 2 0 :: an 3 (.clo 74 [] :: .iv x27 :: an 60 (.osl 0 :: .iv (ln Side.row ([x11, x16])) :: .iv x24 :: an 59 []))), [some ⟨43, [.sl 3 (List.map Diner.row x1.Diners), .sl 5 (List.map Mail.row x1.Mail)]⟩, some ⟨58, [.iv x2.A, .iv x2.B]⟩, some ⟨49, [.iv x11.Peer, .iv x11.Epoch, .iv x11.State, .bv x11.Fork, .bv x11.Dirty, .bv x11.Token, .bv x11.Bottle, .bv x11.Ask]⟩], [some ⟨49, 8, List.map Side.row ([x11, x16])⟩]⟩ : St)) (m_table_Count_j6 x24) y1 ?_ fun J6 => ?_
           ·intro x27 h; rw [m_table_Count_j6] at h; (try dsimp only); refine V_go 5 ?_; dsimp only [e39, e39_L0, e39_L1, go_sem, Nat.reduceBEq, Nat.reduceAdd]; refine ⟨by simp, ?_⟩; exact M_back h hin1
           ·refine M_ite h rfl (fun _ h => ?_) fun _ h => ?_
            ·refine V_go 5 ?_; dsimp only [e39, e39_L0, e39_L1, go_sem, Nat.reduceBEq, Nat.reduceAdd]; refine ⟨by simp, ?_⟩; exact M_to J6 (s := wr (x23 + 1)) h
            ·refine V_go 1 ?_; dsimp only [e39, e39_L0, e39_L1, go_sem, Nat.reduceBEq, Nat.reduceAdd]; refine ⟨by simp, ?_⟩; exact M_to J6 (s := x23) h
          ·refine V_go 1 ?_; dsimp only [e39, e39_L0, e39_L1, go_sem, Nat.reduceBEq, Nat.reduceAdd]; refine ⟨by simp, ?_⟩; exact M_to J5 (s := x23) (M_out h hout1)
        ·refine V_go 5 ?_; dsimp only [e39, e39_L0, e39_L1, go_sem, Nat.reduceBEq, Nat.reduceAdd]; refine ⟨by simp, ?_⟩; refine M_ite h rfl (fun _ h => ?_) fun _ h => ?_
         ·refine V_go 17 ?_; dsimp only [e39, e39_L0, e39_L1, go_sem, Nat.reduceBEq, Nat.reduceAdd]; refine ⟨by simp, ?_⟩; refine V_join (fun (x79 : Int) => (⟨(.any :: .any :: .iv x3 :: .ptr 0 0 :: .ptr 1 0 :: .any :: .any :: .ptr 2 0 :: an 4 (.iv x79 :: an 122 [])), [some ⟨43, [.sl 3 (List.map Diner.row x1.Diners), .sl 5 (List.map Mail.row x1.Mail)]⟩, some ⟨58, [.iv x2.A, .iv x2.B]⟩, some ⟨49, [.iv x11.Peer, .iv x11.Epoch, .iv x11.State, .bv x11.Fork, .bv x11.Dirty, .bv x11.Token, .bv x11.Bottle, .bv x11.Ask]⟩], []⟩ : St)) (m_table_Count_j10 x1 x2 x3 x11) r ?_ fun J10 => ?_
          ·intro x79 h; rw [m_table_Count_j10] at h; (try dsimp only); refine V_go 8 ?_; dsimp only [e39, e39_L0, e39_L1, go_sem, Nat.reduceBEq, Nat.reduceAdd]; refine ⟨by simp, ?_⟩; refine V_join (fun (x99 : Int) => (⟨(an 12 (.iv x99 :: an 122 [])), [], []⟩ : St)) m_table_Count_j12 r ?_ fun J12 => ?_
           ·intro x99 h; rw [m_table_Count_j12] at h; (try dsimp only); refine V_go 5 ?_; dsimp only [e39, e39_L0, e39_L1, go_sem, Nat.reduceBEq, Nat.reduceAdd]; refine ⟨by simp, ?_⟩; exact M_done (res := fun (r : Int) => .iv r) ok39 h
           ·refine V_go 1 ?_; dsimp only [e39, e39_L0, e39_L1, go_sem, Nat.reduceBEq, Nat.reduceAdd]; refine ⟨by simp, ?_⟩
            refine M_loop h (fun ((x85, x86) : (Int × Int)) => (⟨(.any :: .any :: .iv x3 :: .any :: .ptr 1 0 :: .any :: .any :: .ptr 2 0 :: an 4 (.iv x85 :: an 73 (.sl 5 (List.map Mail.row x1.Mail) :: .iv (ln Mail.row x1.Mail) :: .iv x86 :: an 46 []))), [none, some ⟨58, [.iv x2.A, .iv x2.B]⟩, some ⟨49, [.iv x11.Peer, .iv x11.Epoch, .iv x11.State, .bv x11.Fork, .bv x11.Dirty, .bv x11.Token, .bv x11.Bottle, .bv x11.Ask]⟩], []⟩ : St)) (by simp [go_sem]) (by rintro ⟨x85, x86⟩; first | rfl | simp [go_sem]) ?_; rintro n1 ⟨x85, x86⟩ y1 h hin1 hout1; rw [m_table_Count_l4] at h; (try dsimp only)
            refine V_go 5 ?_; dsimp only [e39, e39_L0, e39_L1, go_sem, Nat.reduceBEq, Nat.reduceAdd]; refine ⟨by simp, ?_⟩; refine M_ite h rfl (fun _ h => ?_) fun _ h => ?_
            ·refine V_go 5 ?_; dsimp only [e39, e39_L0, e39_L1, go_sem, Nat.reduceBEq, Nat.reduceAdd]; refine ⟨by simp, ?_⟩; obtain ⟨x87, ex87, h⟩ := Option.bind_eq_some_iff.1 h; refine V_idxM Mail.row ex87 trivial rfl rfl rfl ?_; refine V_go 12 ?_; dsimp only [e39, e39_L0, e39_L1, go_sem, Nat.reduceBEq, Nat.reduceAdd]; refine ⟨by simp, ?_⟩
             refine V_join (fun (x88 : Bool) => (⟨(.any :: .any :: .iv x3 :: .any :: .ptr 1 0 :: .any :: .any :: .ptr 2 0 :: an 4 (.iv x85 :: an 73 (.sl 5 (List.map Mail.row x1.Mail) :: .iv (ln Mail.row x1.Mail) :: .iv x86 :: an 41 (.bv x88 :: an 4 [])))), [none, some ⟨58, [.iv x2.A, .iv x2.B]⟩, some ⟨49, [.iv x11.Peer, .iv x11.Epoch, .iv x11.State, .bv x11.Fork, .bv x11.Dirty, .bv x11.Token, .bv x11.Bottle, .bv x11.Ask]⟩], []⟩ : St)) (m_table_Count_j13 x85 x86) y1 ?_ fun J13 => ?_
             ·intro x88 h; rw [m_table_Count_j13] at h; (try dsimp only); refine V_join (fun (x89 : Int) => (⟨(.any :: .any :: .iv x3 :: .any :: .ptr 1 0 :: .any :: .any :: .ptr 2 0 :: an 4 (.iv x89 :: an 73 (.sl 5 (List.map Mail.row x1.Mail) :: .iv (ln Mail.row x1.Mail) :: .iv x86 :: an 46 []))), [none, some ⟨58, [.iv x2.A, .iv x2.B]⟩, some ⟨49, [.iv x11.Peer, .iv x11.Epoch, .iv x11.State, .bv x11.Fork, .bv x11.Dirty, .bv x11.Token, .bv x11.Bottle, .bv x11.Ask]⟩], []⟩ : St)) (m_table_Count_j14 x86) y1 ?_ fun J14 => ?_
              ·intro x89 h; rw [m_table_Count_j14] at h; (try dsimp only); refine V_go 5 ?_; dsimp only [e39, e39_L0, e39_L1, go_sem, Nat.reduceBEq, Nat.reduceAdd]; refine ⟨by simp, ?_⟩; exact M_back h hin1
              ·refine M_ite h rfl (fun _ h => ?_) fun _ h => ?_
               ·refine V_go 5 ?_; dsimp only [e39, e39_L0, e39_L1, go_sem, Nat.reduceBEq, Nat.reduceAdd]; refine ⟨by simp, ?_⟩; exact M_to J14 (s := wr (x85 + 1)) h
               ·refine V_go 1 ?_; dsimp only [e39, e39_L0, e39_L1, go_sem, Nat.reduceBEq, Nat.reduceAdd]; refine ⟨by simp, ?_⟩; exact M_to J14 (s := x85) h
             ·refine M_case 97 h rfl (fun _ h => ?_) fun _ h => ?_
              ·dsimp only [go_sem, Nat.reduceBEq, Nat.reduceAdd]; refine V_go 8 ?_; dsimp only [e39, e39_L0, e39_L1, go_sem, Nat.reduceBEq, Nat.reduceAdd]; refine ⟨by simp, ?_⟩; refine M_case 105 h rfl (fun _ h => ?_) fun _ h => ?_
               ·dsimp only [go_sem, Nat.reduceBEq, Nat.reduceAdd]; refine V_go 13 ?_; dsimp only [e39, e39_L0, e39_L1, go_sem, Nat.reduceBEq, Nat.reduceAdd]; refine ⟨by simp, ?_⟩; refine M_case 118 h rfl (fun _ h => ?_) fun _ h => ?_
                ·dsimp only [go_sem, Nat.reduceBEq, Nat.reduceAdd]; refine V_go 13 ?_; dsimp only [e39, e39_L0, e39_L1, go_sem, Nat.reduceBEq, Nat.reduceAdd]; refine ⟨by simp, ?_⟩; exact M_to J13 (s := decide (((max x87.From x87.To)) = ((max x2.A x2.B)))) h
                ·dsimp only [go_sem, Nat.reduceBEq, Nat.reduceAdd]; refine V_go 13 ?_; dsimp only [e39, e39_L0, e39_L1, go_sem, Nat.reduceBEq, Nat.reduceAdd]; refine ⟨by simp, ?_⟩; exact M_to J13 (s := false) h
               ·dsimp only [go_sem, Nat.reduceBEq, Nat.reduceAdd]; refine V_go 26 ?_; dsimp only [e39, e39_L0, e39_L1, go_sem, Nat.reduceBEq, Nat.reduceAdd]; refine ⟨by simp, ?_⟩; exact M_to J13 (s := false) h
              ·dsimp only [go_sem, Nat.reduceBEq, Nat.reduceAdd]; refine V_go 34 ?_; dsimp only [e39, e39_L0, e39_L1, go_sem, Nat.reduceBEq, Nat.reduceAdd]; refine ⟨by simp, ?_⟩; exact M_to J13 (s := false) h
            ·refine V_go 1 ?_; dsimp only [e39, e39_L0, e39_L1, go_sem, Nat.reduceBEq, Nat.reduceAdd]; refine ⟨by simp, ?_⟩; exact M_to J12 (s := x85) (M_out h hout1)
          ·refine V_go 1 ?_; dsimp only [e39, e39_L0, e39_L1, go_sem, Nat.reduceBEq, Nat.reduceAdd]; refine ⟨by simp, ?_⟩
           refine M_loop h (fun ((x64, x65) : (Int × Int)) => (⟨(.any :: .any :: .iv x3 :: .ptr 0 0 :: .ptr 1 0 :: .any :: .any :: .ptr 2 0 :: an 3 (.clo 75 [] :: .iv x64 :: an 60 (.osl 0 :: .iv (ln Side.row ([x11, x16])) :: .iv x65 :: an 59 []))), [some ⟨43, [.sl 3 (List.map Diner.row x1.Diners), .sl 5 (List.map Mail.row x1.Mail)]⟩, some ⟨58, [.iv x2.A, .iv x2.B]⟩, some ⟨49, [.iv x11.Peer, .iv x11.Epoch, .iv x11.State, .bv x11.Fork, .bv x11.Dirty, .bv x11.Token, .bv x11.Bottle, .bv x11.Ask]⟩], [some ⟨49, 8, List.map Side.row ([x11, x16])⟩]⟩ : St)) (by simp [go_sem]) (by rintro ⟨x64, x65⟩; first | rfl | simp [go_sem]) ?_
           rintro n1 ⟨x64, x65⟩ y1 h hin1 hout1; rw [m_table_Count_l3] at h; (try dsimp only); refine V_go 5 ?_; dsimp only [e39, e39_L0, e39_L1, go_sem, Nat.reduceBEq, Nat.reduceAdd]; refine ⟨by simp, ?_⟩; refine M_ite h rfl (fun _ h => ?_) fun _ h => ?_
           ·refine V_go 5 ?_; dsimp only [e39, e39_L0, e39_L1, go_sem, Nat.reduceBEq, Nat.reduceAdd]; refine ⟨by simp, ?_⟩; obtain ⟨x66, ex66, h⟩ := Option.bind_eq_some_iff.1 h; refine V_idxOM Side.row ex66 trivial rfl rfl rfl ?_; refine V_loadAO Side.row ex66 trivial rfl rfl rfl ?_; refine V_go 7 ?_; dsimp only [e39, e39_L0, e39_L1, go_sem, Nat.reduceBEq, Nat.reduceAdd]; refine ⟨by simp, ?_⟩; obtain ⟨x67, ex67, h⟩ := Option.bind_eq_some_iff.1 h; refine V_callv trivial rfl (k_table_Count_2 x66 _ ex67) (by kernel_rfl) (h := ?_); refine V_go 1 ?_
            dsimp only [e39, e39_L0, e39_L1, go_sem, Nat.reduceBEq, Nat.reduceAdd]; refine ⟨by simp, ?_⟩
            refine V_join (fun (x68 : Int) => (⟨(.any :: .any :: .iv x3 :: .ptr 0 0 :: .ptr 1 0 :: .any :: .any :: .ptr 2 0 :: an 3 (.clo 75 [] :: .iv x68 :: an 60 (.osl 0 :: .iv (ln Side.row ([x11, x16])) :: .iv x65 :: an 59 []))), [some ⟨43, [.sl 3 (List.map Diner.row x1.Diners), .sl 5 (List.map Mail.row x1.Mail)]⟩, some ⟨58, [.iv x2.A, .iv x2.B]⟩, some ⟨49, [.iv x11.Peer, .iv x11.Epoch, .iv x11.State, .bv x11.Fork, .bv x11.Dirty, .bv x11.Token, .bv x11.Bottle, .bv x11.Ask]⟩], [some ⟨49, 8, List.map Side.row ([x11, x16])⟩]⟩ : St)) (m_table_Count_j11 x65) y1 ?_ fun J11 => ?_
            ·intro x68 h; rw [m_table_Count_j11] at h; (try dsimp only); refine V_go 5 ?_; dsimp only [e39, e39_L0, e39_L1, go_sem, Nat.reduceBEq, Nat.reduceAdd]; refine ⟨by simp, ?_⟩; exact M_back h hin1
            ·refine M_ite h rfl (fun _ h => ?_) fun _ h => ?_
             ·refine V_go 5 ?_; dsimp only [e39, e39_L0, e39_L1, go_sem, Nat.reduceBEq, Nat.reduceAdd]; refine ⟨by simp, ?_⟩; exact M_to J11 (s := wr (x64 + 1)) h
             ·refine V_go 1 ?_; dsimp only [e39, e39_L0, e39_L1, go_sem, Nat.reduceBEq, Nat.reduceAdd]; refine ⟨by simp, ?_⟩; exact M_to J11 (s := x64) h
           ·refine V_go 1 ?_; dsimp only [e39, e39_L0, e39_L1, go_sem, Nat.reduceBEq, Nat.reduceAdd]; refine ⟨by simp, ?_⟩; exact M_to J10 (s := x64) (M_out h hout1)
         ·refine V_go 4 ?_; dsimp only [e39, e39_L0, e39_L1, go_sem, Nat.reduceBEq, Nat.reduceAdd]; refine ⟨by simp, ?_⟩; exact M_done (res := fun (r : Int) => .iv r) ok39 h
      ·refine M_case 55 h rfl (fun _ h => ?_) fun _ h => ?_
       ·dsimp only [go_sem, Nat.reduceBEq, Nat.reduceAdd]; refine V_go 11 ?_; dsimp only [e39, e39_L0, e39_L1, go_sem, Nat.reduceBEq, Nat.reduceAdd]; refine ⟨by simp, ?_⟩; exact M_to J4 (s := true) h
       ·dsimp only [go_sem, Nat.reduceBEq, Nat.reduceAdd]; refine V_go 4 ?_; dsimp only [e39, e39_L0, e39_L1, go_sem, Nat.reduceBEq, Nat.reduceAdd]; refine ⟨by simp, ?_⟩; refine M_case 59 h rfl (fun _ h => ?_) fun _ h => ?_
        ·dsimp only [go_sem, Nat.reduceBEq, Nat.reduceAdd]; refine V_go 7 ?_; dsimp only [e39, e39_L0, e39_L1, go_sem, Nat.reduceBEq, Nat.reduceAdd]; refine ⟨by simp, ?_⟩; exact M_to J4 (s := true) h
        ·dsimp only [go_sem, Nat.reduceBEq, Nat.reduceAdd]; refine V_go 7 ?_; dsimp only [e39, e39_L0, e39_L1, go_sem, Nat.reduceBEq, Nat.reduceAdd]; refine ⟨by simp, ?_⟩; exact M_to J4 (s := !decide (x11.Epoch = x16.Epoch)) h
     ·refine V_drw (by kernel_rfl) fun all hall hs hnap haf => ?_; dsimp only [go_sem, Nat.reduceBEq, Nat.reduceAdd]
      refine G_goE hall hs haf hnap 6 9 [true, true, true, true, false, false, true, true, false, false, false, false, false, false, false] (⟨(.any :: .any :: .iv x3 :: .ptr 0 0 :: .ptr 1 0 :: .any :: .any :: .ptr 2 0 :: .bv x10 :: an 33 (.ptr 0 0 :: .sl 3 (List.map Diner.row x1.Diners) :: .ptr 1 1 :: .iv x2.B :: .any :: .any :: .ptr 1 0 :: .iv x2.A :: an 85 [])), [some ⟨43, [.sl 3 (List.map Diner.row x1.Diners), .sl 5 (List.map Mail.row x1.Mail)]⟩, some ⟨58, [.iv x2.A, .iv x2.B]⟩, some ⟨49, [.iv x11.Peer, .iv x11.Epoch, .iv x11.State, .bv x11.Fork, .bv x11.Dirty, .bv x11.Token, .bv x11.Bottle, .bv x11.Ask]⟩], []⟩ : St) (by kernel_rfl) ?_
      obtain ⟨x12, ex12, h⟩ := Option.bind_eq_some_iff.1 h; refine G_idxM hall hs haf hnap 4 Diner.row ex12 rfl rfl trivial rfl rfl rfl rfl ?_; refine G_goN hall hs haf hnap 1 7 ?_; dsimp only [go_sem, Nat.reduceBEq, Nat.reduceAdd]; refine ⟨by simp, ?_⟩; obtain ⟨x13, ex13, h⟩ := Option.bind_eq_some_iff.1 h; refine G_two 8 12 rfl ?_ ?_
      ·refine GO_call hall rfl trivial (k_place_Side x12 x2.A _ ex13) (h := ?_); dsimp only [go_sem, Nat.reduceBEq, Nat.reduceAdd]; refine G_goN hall hs haf hnap 3 3 ?_; dsimp only [go_sem, Nat.reduceBEq, Nat.reduceAdd]; refine ⟨by simp, ?_⟩; refine G_one 12 rfl ?_; refine GO_ev hall rfl trivial ?_; dsimp only [go_sem, Nat.reduceBEq, Nat.reduceAdd]; refine G_one 13 rfl ?_; refine GO_ev hall rfl trivial ?_; dsimp only [go_sem, Nat.reduceBEq, Nat.reduceAdd]; refine G_goN hall hs haf hnap 1 0 ?_; dsimp only [go_sem, Nat.reduceBEq, Nat.reduceAdd]; refine ⟨by simp, ?_⟩; refine G_done rfl ?_ _
       exact M_to J3 (s := (x13.2, x13.1)) h
      ·refine GO_ev hall rfl trivial ?_; dsimp only [go_sem, Nat.reduceBEq, Nat.reduceAdd]; refine G_one 8 rfl ?_; refine GO_call hall rfl trivial (k_place_Side x12 x2.A _ ex13) (h := ?_); dsimp only [go_sem, Nat.reduceBEq, Nat.reduceAdd]; refine G_goN hall hs haf hnap 3 2 ?_; dsimp only [go_sem, Nat.reduceBEq, Nat.reduceAdd]; refine ⟨by simp, ?_⟩; refine G_one 13 rfl ?_; refine GO_ev hall rfl trivial ?_; dsimp only [go_sem, Nat.reduceBEq, Nat.reduceAdd]; refine G_goN hall hs haf hnap 1 0 ?_; dsimp only [go_sem, Nat.reduceBEq, Nat.reduceAdd]; refine ⟨by simp, ?_⟩; refine G_done rfl ?_ _
       exact M_to J3 (s := (x13.2, x13.1)) h
    ·refine V_drw (by kernel_rfl) fun all hall hs hnap haf => ?_; dsimp only [go_sem, Nat.reduceBEq, Nat.reduceAdd]
     refine G_goE hall hs haf hnap 6 9 [true, true, true, true, false, false, true, true, false, false, false, false, false, false, false] (⟨(.any :: .any :: .iv x3 :: .ptr 0 0 :: .ptr 1 0 :: an 23 (.bv x6 :: .any :: .ptr 0 0 :: .sl 3 (List.map Diner.row x1.Diners) :: .ptr 1 0 :: .iv x2.A :: .any :: .any :: .ptr 1 1 :: .iv x2.B :: an 97 [])), [some ⟨43, [.sl 3 (List.map Diner.row x1.Diners), .sl 5 (List.map Mail.row x1.Mail)]⟩, some ⟨58, [.iv x2.A, .iv x2.B]⟩], []⟩ : St) (by kernel_rfl) ?_; obtain ⟨x7, ex7, h⟩ := Option.bind_eq_some_iff.1 h
     refine G_idxM hall hs haf hnap 4 Diner.row ex7 rfl rfl trivial rfl rfl rfl rfl ?_; refine G_goN hall hs haf hnap 1 7 ?_; dsimp only [go_sem, Nat.reduceBEq, Nat.reduceAdd]; refine ⟨by simp, ?_⟩; obtain ⟨x8, ex8, h⟩ := Option.bind_eq_some_iff.1 h; refine G_two 8 12 rfl ?_ ?_
     ·refine GO_call hall rfl trivial (k_place_Side x7 x2.B _ ex8) (h := ?_); dsimp only [go_sem, Nat.reduceBEq, Nat.reduceAdd]; refine G_goN hall hs haf hnap 3 3 ?_; dsimp only [go_sem, Nat.reduceBEq, Nat.reduceAdd]; refine ⟨by simp, ?_⟩; refine G_one 12 rfl ?_; refine GO_ev hall rfl trivial ?_; dsimp only [go_sem, Nat.reduceBEq, Nat.reduceAdd]; refine G_one 13 rfl ?_; refine GO_ev hall rfl trivial ?_; dsimp only [go_sem, Nat.reduceBEq, Nat.reduceAdd]; refine G_goN hall hs haf hnap 1 0 ?_; dsimp only [go_sem, Nat.reduceBEq, Nat.reduceAdd]; refine ⟨by simp, ?_⟩; refine G_done rfl ?_ _
      exact M_to J2 (s := (x8.2, x8.1)) h
     ·refine GO_ev hall rfl trivial ?_; dsimp only [go_sem, Nat.reduceBEq, Nat.reduceAdd]; refine G_one 8 rfl ?_; refine GO_call hall rfl trivial (k_place_Side x7 x2.B _ ex8) (h := ?_); dsimp only [go_sem, Nat.reduceBEq, Nat.reduceAdd]; refine G_goN hall hs haf hnap 3 2 ?_; dsimp only [go_sem, Nat.reduceBEq, Nat.reduceAdd]; refine ⟨by simp, ?_⟩; refine G_one 13 rfl ?_; refine GO_ev hall rfl trivial ?_; dsimp only [go_sem, Nat.reduceBEq, Nat.reduceAdd]; refine G_goN hall hs haf hnap 1 0 ?_; dsimp only [go_sem, Nat.reduceBEq, Nat.reduceAdd]; refine ⟨by simp, ?_⟩; refine G_done rfl ?_ _
      exact M_to J2 (s := (x8.2, x8.1)) h
  ·refine M_case 22 h rfl (fun _ h => ?_) fun _ h => ?_
   ·dsimp only [go_sem, Nat.reduceBEq, Nat.reduceAdd]; refine V_go 7 ?_; dsimp only [e39, e39_L0, e39_L1, go_sem, Nat.reduceBEq, Nat.reduceAdd]; refine ⟨by simp, ?_⟩; exact M_to J1 (s := true) h
   ·dsimp only [go_sem, Nat.reduceBEq, Nat.reduceAdd]; refine V_go 3 ?_; dsimp only [e39, e39_L0, e39_L1, go_sem, Nat.reduceBEq, Nat.reduceAdd]; refine ⟨by simp, ?_⟩; obtain ⟨x5, ex5, h⟩ := Option.bind_eq_some_iff.1 h; refine V_call trivial (k_table_there x1 x2.B _ ex5) (h := ?_); refine V_go 3 ?_; dsimp only [e39, e39_L0, e39_L1, go_sem, Nat.reduceBEq, Nat.reduceAdd]; refine ⟨by simp, ?_⟩; exact M_to J1 (s := !x5) h
def f_table_Count_j7 (_F : Nat)  : Int → Option Int
| x58 =>
 some x58
theorem le_table_Count_j7 {F : Nat} : ∀ s, ole (f_table_Count_j7 F s) (m_table_Count_j7 s) := by
  intro x58
  unfold f_table_Count_j7 m_table_Count_j7
  try dsimp only
  with_reducible repeat' first | exact ole_refl _ | assumption | intro _ | refine ole_ifb ?_ ?_ | refine ole_bind ?_ ?_ | refine ole_map ?_ | refine ole_loop ?_
def f_table_Count_j9 (_F : Nat) (x45 : Int) : Int → Option ((Int × Int) ⊕ Int)
| x48 =>
 some (.inl (x48, wr (x45 + 1)))
theorem le_table_Count_j9 {F : Nat} {x45 : Int} : ∀ s, ole (f_table_Count_j9 F x45 s) (m_table_Count_j9 x45 s) := by
  intro x48
  unfold f_table_Count_j9 m_table_Count_j9
  try dsimp only
  with_reducible repeat' first | exact ole_refl _ | assumption | intro _ | refine ole_ifb ?_ ?_ | refine ole_bind ?_ ?_ | refine ole_map ?_ | refine ole_loop ?_ | apply le_table_Count_j7
def f_table_Count_j8 (F : Nat) (x44 : Int) (x45 : Int) : Bool → Option ((Int × Int) ⊕ Int)
| x47 =>
 ifb x47 (
 (f_table_Count_j9 F x45) (wr (x44 + 1))) (
 (f_table_Count_j9 F x45) x44)
theorem le_table_Count_j8 {F : Nat} {x44 : Int} {x45 : Int} : ∀ s, ole (f_table_Count_j8 F x44 x45 s) (m_table_Count_j8 x44 x45 s) := by
  intro x47
  unfold f_table_Count_j8 m_table_Count_j8
  try dsimp only
  with_reducible repeat' first | exact ole_refl _ | assumption | intro _ | refine ole_ifb ?_ ?_ | refine ole_bind ?_ ?_ | refine ole_map ?_ | refine ole_loop ?_ | apply le_table_Count_j7 | apply le_table_Count_j9
def f_table_Count_l2 (F : Nat) (x1 : Scene) (x2 : Edge) (x3 : Int) (x11 : Side) : (Int × Int) → Option ((Int × Int) ⊕ Int)
| (x44, x45) =>
 ifb (decide (x45 < (ln Mail.row x1.Mail))) (
 (at_ x1.Mail x45).bind fun x46 =>
 ifb (decide (x46.Msg.Kind = x3)) (
 ifb (decide (x46.Msg.Epoch = x11.Epoch)) (
 ifb (decide (((min x46.From x46.To)) = ((min x2.A x2.B)))) (
 (f_table_Count_j8 F x44 x45) (decide (((max x46.From x46.To)) = ((max x2.A x2.B))))) (
 (f_table_Count_j8 F x44 x45) false)) (
 (f_table_Count_j8 F x44 x45) false)) (
 (f_table_Count_j8 F x44 x45) false)) (
 Option.map Sum.inr (f_table_Count_j7 F x44))
theorem le_table_Count_l2 {F : Nat} {x1 : Scene} {x2 : Edge} {x3 : Int} {x11 : Side} : ∀ s, ole (f_table_Count_l2 F x1 x2 x3 x11 s) (m_table_Count_l2 x1 x2 x3 x11 s) := by
  rintro ⟨x44, x45⟩
  unfold f_table_Count_l2 m_table_Count_l2
  try dsimp only
  with_reducible repeat' first | exact ole_refl _ | assumption | intro _ | refine ole_ifb ?_ ?_ | refine ole_bind ?_ ?_ | refine ole_map ?_ | refine ole_loop ?_ | apply le_table_Count_j7 | apply le_table_Count_j9 | apply le_table_Count_j8
def f_table_Count_j5 (F : Nat) (x1 : Scene) (x2 : Edge) (x3 : Int) (x11 : Side) : Int → Option Int
| x38 =>
 loopF F (f_table_Count_l2 F x1 x2 x3 x11) (x38, 0)
theorem le_table_Count_j5 {F : Nat} {x1 : Scene} {x2 : Edge} {x3 : Int} {x11 : Side} : ∀ s, ole (f_table_Count_j5 F x1 x2 x3 x11 s) (m_table_Count_j5 x1 x2 x3 x11 s) := by
  intro x38
  unfold f_table_Count_j5 m_table_Count_j5
  try dsimp only
  with_reducible repeat' first | exact ole_refl _ | assumption | intro _ | refine ole_ifb ?_ ?_ | refine ole_bind ?_ ?_ | refine ole_map ?_ | refine ole_loop ?_ | apply le_table_Count_j7 | apply le_table_Count_j9 | apply le_table_Count_j8 | apply le_table_Count_l2
def f_table_Count_j6 (_F : Nat) (x24 : Int) : Int → Option ((Int × Int) ⊕ Int)
| x27 =>
 some (.inl (x27, wr (x24 + 1)))
theorem le_table_Count_j6 {F : Nat} {x24 : Int} : ∀ s, ole (f_table_Count_j6 F x24 s) (m_table_Count_j6 x24 s) := by
  intro x27
  unfold f_table_Count_j6 m_table_Count_j6
  try dsimp only
  with_reducible repeat' first | exact ole_refl _ | assumption | intro _ | refine ole_ifb ?_ ?_ | refine ole_bind ?_ ?_ | refine ole_map ?_ | refine ole_loop ?_ | apply le_table_Count_j7 | apply le_table_Count_j9 | apply le_table_Count_j8 | apply le_table_Count_l2 | apply le_table_Count_j5
def f_table_Count_l1 (F : Nat) (x1 : Scene) (x2 : Edge) (x3 : Int) (x11 : Side) (x16 : Side) : (Int × Int) → Option ((Int × Int) ⊕ Int)
| (x23, x24) =>
 ifb (decide (x24 < (ln Side.row ([x11, x16])))) (
 (at_ ([x11, x16]) x24).bind fun x25 =>
 (f_table_Count_1 F x25).bind fun x26 =>
 ifb x26 (
 (f_table_Count_j6 F x24) (wr (x23 + 1))) (
 (f_table_Count_j6 F x24) x23)) (
 Option.map Sum.inr ((f_table_Count_j5 F x1 x2 x3 x11) x23))
theorem le_table_Count_l1 {F : Nat} {x1 : Scene} {x2 : Edge} {x3 : Int} {x11 : Side} {x16 : Side} : ∀ s, ole (f_table_Count_l1 F x1 x2 x3 x11 x16 s) (m_table_Count_l1 x1 x2 x3 x11 x16 s) := by
  rintro ⟨x23, x24⟩
  unfold f_table_Count_l1 m_table_Count_l1
  try dsimp only
  with_reducible repeat' first | exact ole_refl _ | assumption | intro _ | refine ole_ifb ?_ ?_ | refine ole_bind ?_ ?_ | refine ole_map ?_ | refine ole_loop ?_ | apply le_table_Count_j7 | apply le_table_Count_j9 | apply le_table_Count_j8 | apply le_table_Count_l2 | apply le_table_Count_j5 | apply le_table_Count_j6 | apply le_table_Count_1
def f_table_Count_j12 (_F : Nat)  : Int → Option Int
| x99 =>
 some x99
theorem le_table_Count_j12 {F : Nat} : ∀ s, ole (f_table_Count_j12 F s) (m_table_Count_j12 s) := by
  intro x99
  unfold f_table_Count_j12 m_table_Count_j12
  try dsimp only
  with_reducible repeat' first | exact ole_refl _ | assumption | intro _ | refine ole_ifb ?_ ?_ | refine ole_bind ?_ ?_ | refine ole_map ?_ | refine ole_loop ?_ | apply le_table_Count_j7 | apply le_table_Count_j9 | apply le_table_Count_j8 | apply le_table_Count_l2 | apply le_table_Count_j5 | apply le_table_Count_j6 | apply le_table_Count_1 | apply le_table_Count_l1
def f_table_Count_j14 (_F : Nat) (x86 : Int) : Int → Option ((Int × Int) ⊕ Int)
| x89 =>
 some (.inl (x89, wr (x86 + 1)))
theorem le_table_Count_j14 {F : Nat} {x86 : Int} : ∀ s, ole (f_table_Count_j14 F x86 s) (m_table_Count_j14 x86 s) := by
  intro x89
  unfold f_table_Count_j14 m_table_Count_j14
  try dsimp only
  with_reducible repeat' first | exact ole_refl _ | assumption | intro _ | refine ole_ifb ?_ ?_ | refine ole_bind ?_ ?_ | refine ole_map ?_ | refine ole_loop ?_ | apply le_table_Count_j7 | apply le_table_Count_j9 | apply le_table_Count_j8 | apply le_table_Count_l2 | apply le_table_Count_j5 | apply le_table_Count_j6 | apply le_table_Count_1 | apply le_table_Count_l1 | apply le_table_Count_j12
def f_table_Count_j13 (F : Nat) (x85 : Int) (x86 : Int) : Bool → Option ((Int × Int) ⊕ Int)
| x88 =>
 ifb x88 (
 (f_table_Count_j14 F x86) (wr (x85 + 1))) (
 (f_table_Count_j14 F x86) x85)
theorem le_table_Count_j13 {F : Nat} {x85 : Int} {x86 : Int} : ∀ s, ole (f_table_Count_j13 F x85 x86 s) (m_table_Count_j13 x85 x86 s) := by
  intro x88
  unfold f_table_Count_j13 m_table_Count_j13
  try dsimp only
  with_reducible repeat' first | exact ole_refl _ | assumption | intro _ | refine ole_ifb ?_ ?_ | refine ole_bind ?_ ?_ | refine ole_map ?_ | refine ole_loop ?_ | apply le_table_Count_j7 | apply le_table_Count_j9 | apply le_table_Count_j8 | apply le_table_Count_l2 | apply le_table_Count_j5 | apply le_table_Count_j6 | apply le_table_Count_1 | apply le_table_Count_l1 | apply le_table_Count_j12 | apply le_table_Count_j14
def f_table_Count_l4 (F : Nat) (x1 : Scene) (x2 : Edge) (x3 : Int) (x11 : Side) : (Int × Int) → Option ((Int × Int) ⊕ Int)
| (x85, x86) =>
 ifb (decide (x86 < (ln Mail.row x1.Mail))) (
 (at_ x1.Mail x86).bind fun x87 =>
 ifb (decide (x87.Msg.Kind = x3)) (
 ifb (decide (x87.Msg.Epoch = x11.Epoch)) (
 ifb (decide (((min x87.From x87.To)) = ((min x2.A x2.B)))) (
 (f_table_Count_j13 F x85 x86) (decide (((max x87.From x87.To)) = ((max x2.A x2.B))))) (
 (f_table_Count_j13 F x85 x86) false)) (
 (f_table_Count_j13 F x85 x86) false)) (
 (f_table_Count_j13 F x85 x86) false)) (
 Option.map Sum.inr (f_table_Count_j12 F x85))
theorem le_table_Count_l4 {F : Nat} {x1 : Scene} {x2 : Edge} {x3 : Int} {x11 : Side} : ∀ s, ole (f_table_Count_l4 F x1 x2 x3 x11 s) (m_table_Count_l4 x1 x2 x3 x11 s) := by
  rintro ⟨x85, x86⟩
  unfold f_table_Count_l4 m_table_Count_l4
  try dsimp only
  with_reducible repeat' first | exact ole_refl _ | assumption | intro _ | refine ole_ifb ?_ ?_ | refine ole_bind ?_ ?_ | refine ole_map ?_ | refine ole_loop ?_ | apply le_table_Count_j7 | apply le_table_Count_j9 | apply le_table_Count_j8 | apply le_table_Count_l2 | apply le_table_Count_j5 | apply le_table_Count_j6 | apply le_table_Count_1 | apply le_table_Count_l1 | apply le_table_Count_j12 | apply le_table_Count_j14 | apply le_table_Count_j13
def f_table_Count_j10 (F : Nat) (x1 : Scene) (x2 : Edge) (x3 : Int) (x11 : Side) : Int → Option Int
| x79 =>
 loopF F (f_table_Count_l4 F x1 x2 x3 x11) (x79, 0)
theorem le_table_Count_j10 {F : Nat} {x1 : Scene} {x2 : Edge} {x3 : Int} {x11 : Side} : ∀ s, ole (f_table_Count_j10 F x1 x2 x3 x11 s) (m_table_Count_j10 x1 x2 x3 x11 s) := by
  intro x79
  unfold f_table_Count_j10 m_table_Count_j10
  try dsimp only
  with_reducible repeat' first | exact ole_refl _ | assumption | intro _ | refine ole_ifb ?_ ?_ | refine ole_bind ?_ ?_ | refine ole_map ?_ | refine ole_loop ?_ | apply le_table_Count_j7 | apply le_table_Count_j9 | apply le_table_Count_j8 | apply le_table_Count_l2 | apply le_table_Count_j5 | apply le_table_Count_j6 | apply le_table_Count_1 | apply le_table_Count_l1 | apply le_table_Count_j12 | apply le_table_Count_j14 | apply le_table_Count_j13 | apply le_table_Count_l4
def f_table_Count_j11 (_F : Nat) (x65 : Int) : Int → Option ((Int × Int) ⊕ Int)
| x68 =>
 some (.inl (x68, wr (x65 + 1)))
theorem le_table_Count_j11 {F : Nat} {x65 : Int} : ∀ s, ole (f_table_Count_j11 F x65 s) (m_table_Count_j11 x65 s) := by
  intro x68
  unfold f_table_Count_j11 m_table_Count_j11
  try dsimp only
  with_reducible repeat' first | exact ole_refl _ | assumption | intro _ | refine ole_ifb ?_ ?_ | refine ole_bind ?_ ?_ | refine ole_map ?_ | refine ole_loop ?_ | apply le_table_Count_j7 | apply le_table_Count_j9 | apply le_table_Count_j8 | apply le_table_Count_l2 | apply le_table_Count_j5 | apply le_table_Count_j6 | apply le_table_Count_1 | apply le_table_Count_l1 | apply le_table_Count_j12 | apply le_table_Count_j14 | apply le_table_Count_j13 | apply le_table_Count_l4 | apply le_table_Count_j10
def f_table_Count_l3 (F : Nat) (x1 : Scene) (x2 : Edge) (x3 : Int) (x11 : Side) (x16 : Side) : (Int × Int) → Option ((Int × Int) ⊕ Int)
| (x64, x65) =>
 ifb (decide (x65 < (ln Side.row ([x11, x16])))) (
 (at_ ([x11, x16]) x65).bind fun x66 =>
 (f_table_Count_2 F x66).bind fun x67 =>
 ifb x67 (
 (f_table_Count_j11 F x65) (wr (x64 + 1))) (
 (f_table_Count_j11 F x65) x64)) (
 Option.map Sum.inr ((f_table_Count_j10 F x1 x2 x3 x11) x64))
theorem le_table_Count_l3 {F : Nat} {x1 : Scene} {x2 : Edge} {x3 : Int} {x11 : Side} {x16 : Side} : ∀ s, ole (f_table_Count_l3 F x1 x2 x3 x11 x16 s) (m_table_Count_l3 x1 x2 x3 x11 x16 s) := by
  rintro ⟨x64, x65⟩
  unfold f_table_Count_l3 m_table_Count_l3
  try dsimp only
  with_reducible repeat' first | exact ole_refl _ | assumption | intro _ | refine ole_ifb ?_ ?_ | refine ole_bind ?_ ?_ | refine ole_map ?_ | refine ole_loop ?_ | apply le_table_Count_j7 | apply le_table_Count_j9 | apply le_table_Count_j8 | apply le_table_Count_l2 | apply le_table_Count_j5 | apply le_table_Count_j6 | apply le_table_Count_1 | apply le_table_Count_l1 | apply le_table_Count_j12 | apply le_table_Count_j14 | apply le_table_Count_j13 | apply le_table_Count_l4 | apply le_table_Count_j10 | apply le_table_Count_j11 | apply le_table_Count_2
def f_table_Count_j4 (F : Nat) (x1 : Scene) (x2 : Edge) (x3 : Int) (x11 : Side) (x16 : Side) : Bool → Option Int
| x17 =>
 ifb x17 (
 some 0) (
 ifb (decide (x3 = 1)) (
 loopF F (f_table_Count_l1 F x1 x2 x3 x11 x16) (0, 0)) (
 ifb (decide (x3 = 2)) (
 loopF F (f_table_Count_l3 F x1 x2 x3 x11 x16) (0, 0)) (
 some 0)))
theorem le_table_Count_j4 {F : Nat} {x1 : Scene} {x2 : Edge} {x3 : Int} {x11 : Side} {x16 : Side} : ∀ s, ole (f_table_Count_j4 F x1 x2 x3 x11 x16 s) (m_table_Count_j4 x1 x2 x3 x11 x16 s) := by
  intro x17
  unfold f_table_Count_j4 m_table_Count_j4
  try dsimp only
  with_reducible repeat' first | exact ole_refl _ | assumption | intro _ | refine ole_ifb ?_ ?_ | refine ole_bind ?_ ?_ | refine ole_map ?_ | refine ole_loop ?_ | apply le_table_Count_j7 | apply le_table_Count_j9 | apply le_table_Count_j8 | apply le_table_Count_l2 | apply le_table_Count_j5 | apply le_table_Count_j6 | apply le_table_Count_1 | apply le_table_Count_l1 | apply le_table_Count_j12 | apply le_table_Count_j14 | apply le_table_Count_j13 | apply le_table_Count_l4 | apply le_table_Count_j10 | apply le_table_Count_j11 | apply le_table_Count_2 | apply le_table_Count_l3
def f_table_Count_j3 (F : Nat) (x1 : Scene) (x2 : Edge) (x3 : Int) (x10 : Bool) (x11 : Side) : (Bool × Side) → Option Int
| (x15, x16) =>
 ifb (!x10) (
 (f_table_Count_j4 F x1 x2 x3 x11 x16) true) (
 ifb (!x15) (
 (f_table_Count_j4 F x1 x2 x3 x11 x16) true) (
 (f_table_Count_j4 F x1 x2 x3 x11 x16) (!decide (x11.Epoch = x16.Epoch))))
theorem le_table_Count_j3 {F : Nat} {x1 : Scene} {x2 : Edge} {x3 : Int} {x10 : Bool} {x11 : Side} : ∀ s, ole (f_table_Count_j3 F x1 x2 x3 x10 x11 s) (m_table_Count_j3 x1 x2 x3 x10 x11 s) := by
  rintro ⟨x15, x16⟩
  unfold f_table_Count_j3 m_table_Count_j3
  try dsimp only
  with_reducible repeat' first | exact ole_refl _ | assumption | intro _ | refine ole_ifb ?_ ?_ | refine ole_bind ?_ ?_ | refine ole_map ?_ | refine ole_loop ?_ | apply le_table_Count_j7 | apply le_table_Count_j9 | apply le_table_Count_j8 | apply le_table_Count_l2 | apply le_table_Count_j5 | apply le_table_Count_j6 | apply le_table_Count_1 | apply le_table_Count_l1 | apply le_table_Count_j12 | apply le_table_Count_j14 | apply le_table_Count_j13 | apply le_table_Count_l4 | apply le_table_Count_j10 | apply le_table_Count_j11 | apply le_table_Count_2 | apply le_table_Count_l3 | apply le_table_Count_j4
def f_table_Count_j2 (F : Nat) (x1 : Scene) (x2 : Edge) (x3 : Int) : (Bool × Side) → Option Int
| (x10, x11) =>
 (at_ x1.Diners x2.B).bind fun x12 =>
 (f_place_Side F x12 x2.A).bind fun x13 =>
 (f_table_Count_j3 F x1 x2 x3 x10 x11) (x13.2, x13.1)
theorem le_table_Count_j2 {F : Nat} {x1 : Scene} {x2 : Edge} {x3 : Int} : ∀ s, ole (f_table_Count_j2 F x1 x2 x3 s) (m_table_Count_j2 x1 x2 x3 s) := by
  rintro ⟨x10, x11⟩
  unfold f_table_Count_j2 m_table_Count_j2
  try dsimp only
  with_reducible repeat' first | exact ole_refl _ | assumption | intro _ | refine ole_ifb ?_ ?_ | refine ole_bind ?_ ?_ | refine ole_map ?_ | refine ole_loop ?_ | apply le_table_Count_j7 | apply le_table_Count_j9 | apply le_table_Count_j8 | apply le_table_Count_l2 | apply le_table_Count_j5 | apply le_table_Count_j6 | apply le_table_Count_1 | apply le_table_Count_l1 | apply le_table_Count_j12 | apply le_table_Count_j14 | apply le_table_Count_j13 | apply le_table_Count_l4 | apply le_table_Count_j10 | apply le_table_Count_j11 | apply le_table_Count_2 | apply le_table_Count_l3 | apply le_table_Count_j4 | apply le_table_Count_j3 | apply le_place_Side
def f_table_Count_j1 (F : Nat) (x1 : Scene) (x2 : Edge) (x3 : Int) : Bool → Option Int
| x6 =>
 ifb x6 (
 some 0) (
 (at_ x1.Diners x2.A).bind fun x7 =>
 (f_place_Side F x7 x2.B).bind fun x8 =>
 (f_table_Count_j2 F x1 x2 x3) (x8.2, x8.1))
theorem le_table_Count_j1 {F : Nat} {x1 : Scene} {x2 : Edge} {x3 : Int} : ∀ s, ole (f_table_Count_j1 F x1 x2 x3 s) (m_table_Count_j1 x1 x2 x3 s) := by
  intro x6
  unfold f_table_Count_j1 m_table_Count_j1
  try dsimp only
  with_reducible repeat' first | exact ole_refl _ | assumption | intro _ | refine ole_ifb ?_ ?_ | refine ole_bind ?_ ?_ | refine ole_map ?_ | refine ole_loop ?_ | apply le_table_Count_j7 | apply le_table_Count_j9 | apply le_table_Count_j8 | apply le_table_Count_l2 | apply le_table_Count_j5 | apply le_table_Count_j6 | apply le_table_Count_1 | apply le_table_Count_l1 | apply le_table_Count_j12 | apply le_table_Count_j14 | apply le_table_Count_j13 | apply le_table_Count_l4 | apply le_table_Count_j10 | apply le_table_Count_j11 | apply le_table_Count_2 | apply le_table_Count_l3 | apply le_table_Count_j4 | apply le_table_Count_j3 | apply le_place_Side | apply le_table_Count_j2
def f_table_Count (F : Nat) (x1 : Scene) (x2 : Edge) (x3 : Int) : Option Int :=
 (f_table_there F x1 x2.A).bind fun x4 =>
 ifb (!x4) (
 (f_table_Count_j1 F x1 x2 x3) true) (
 (f_table_there F x1 x2.B).bind fun x5 =>
 (f_table_Count_j1 F x1 x2 x3) (!x5))
theorem le_table_Count {F : Nat} {x1 : Scene} {x2 : Edge} {x3 : Int} : ole (f_table_Count F x1 x2 x3) (m_table_Count x1 x2 x3) := by
  unfold f_table_Count m_table_Count
  with_reducible repeat' first | exact ole_refl _ | assumption | intro _ | refine ole_ifb ?_ ?_ | refine ole_bind ?_ ?_ | refine ole_map ?_ | refine ole_loop ?_ | apply le_table_Count_j7 | apply le_table_Count_j9 | apply le_table_Count_j8 | apply le_table_Count_l2 | apply le_table_Count_j5 | apply le_table_Count_j6 | apply le_table_Count_1 | apply le_table_Count_l1 | apply le_table_Count_j12 | apply le_table_Count_j14 | apply le_table_Count_j13 | apply le_table_Count_l4 | apply le_table_Count_j10 | apply le_table_Count_j11 | apply le_table_Count_2 | apply le_table_Count_l3 | apply le_table_Count_j4 | apply le_table_Count_j3 | apply le_place_Side | apply le_table_Count_j2 | apply le_table_Count_j1 | apply le_table_there
end NX
end Go.Proofs.Ytadebhbiglmodaa
/-
  The function narthex/table.Phases: its code compiled, a model, and that the code answers as the model. Written by a program of ours (lb.py). No statement of the seat is proved here.
-/
namespace Go.Proofs.Ytadebhbiglmodaa
namespace NX
open Go
set_option maxRecDepth 100000
set_option maxHeartbeats 4000000
def e41_L0 : EC := .seq (.reg [⟨(some 12), none, .bin .lss (.t 11) (.t 10)⟩]) (.seq (.ite (.t 12) (.skip) (.exit 0)) (.seq (.blk 1 (.seq (.reg [⟨(some 13), none, .idx 3 (.t 9) (.t 11)⟩, ⟨(some 14), none, .loadA 3 (.t 13)⟩, ⟨(some 7), none, .alloc 39 [.iv 0, .iv 0, .nl]⟩, ⟨none, none, .store 3 (.t 7) (.t 14)⟩]) (.seq (.reg [⟨(some 15), none, .fld 1 (.t 7)⟩, ⟨(some 16), none, .load (.t 15)⟩, ⟨(some 17), none, .mv (.t 1)⟩, ⟨(some 18), none, .bin .eql (.t 16) (.t 17)⟩]) (.ite (.t 18) (.reg [⟨(some 19), none, .mv (.t 5)⟩, ⟨(some 20), none, .fld 0 (.t 7)⟩, ⟨(some 21), none, .load (.t 20)⟩, ⟨(some 22), none, .bsl 3 1 1 [.iv 0] [(0, (.t 21))]⟩, ⟨(some 23), none, .app 3 1 8 (.t 19) (.t 22)⟩, ⟨(some 5), none, .mv (.t 23)⟩]) (.skip))))) (.reg [⟨(some 24), none, .bin .add (.t 11) (.c (.iv 1))⟩, ⟨(some 11), none, .mv (.t 24)⟩])))
def e41 : EC := .seq (.reg [⟨(some 2), none, .box 43 2 (.t 0)⟩, ⟨(some 4), none, .mv (.c .nl)⟩]) (.seq (.reg [⟨(some 5), none, .mv (.c .nl)⟩]) (.seq (.seq (.reg [⟨(some 8), none, .fld 0 (.t 2)⟩, ⟨(some 9), none, .load (.t 8)⟩, ⟨(some 10), none, .len (.t 9)⟩, ⟨(some 11), none, .mv (.c (.iv 0))⟩]) (.blk 0 (.loop e41_L0))) (.seq (.reg [⟨(some 25), none, .mv (.t 5)⟩, ⟨(some 4), none, .mv (.t 25)⟩]) (.ret))))
theorem ok41 : FnOK Try.prog 41 Try.f41 e41 [.t 4] 2 24 := ⟨by kernel_rfl, ⟨_, rfl, by kernel_rfl⟩, by kernel_rfl, by kernel_rfl⟩
/- narthex/table.Phases -/
noncomputable def m_table_Phases_j1  : (List Int) → Option (List Int)
| x20 =>
 some x20
noncomputable def m_table_Phases_j2 (x8 : Int) : (List Int) → Option ((Int × (List Int)) ⊕ (List Int))
| x12 =>
 some (.inl (wr (x8 + 1), x12))
noncomputable def m_table_Phases_l1 (x1 : Scene) (x2 : Int) : (Int × (List Int)) → Option ((Int × (List Int)) ⊕ (List Int))
| (x8, x9) =>
 ifb (decide (x8 < (ln Diner.row x1.Diners))) (
 (at_ x1.Diners x8).bind fun x10 =>
 ifb (decide (x10.Phase = x2)) (
 (app_ 8 x9 ([x10.ID])).bind fun x11 =>
 (m_table_Phases_j2 x8) x11) (
 (m_table_Phases_j2 x8) x9)) (
 Option.map Sum.inr (m_table_Phases_j1 x9))
noncomputable def m_table_Phases (x1 : Scene) (x2 : Int) : Option (List Int) :=
 loop (m_table_Phases_l1 x1 x2) (0, ([] : List Int))
theorem o_table_Phases (x1 : Scene) (x2 : Int) (r : (List Int)) (h : m_table_Phases x1 x2 = some r) : FunO Try.prog 41 [.agg (Scene.row x1), .iv x2] 3 1 (List.map intRow r) := by
  refine FunO_intro ok41 rfl fun w0 H0 => ?_
  rw [m_table_Phases] at h
  refine V_go 17 ?_; dsimp only [e41, e41_L0, go_sem, Nat.reduceBEq, Nat.reduceAdd]; refine ⟨by simp, ?_⟩; refine V_join (fun (x20 : (List Int)) => (⟨(an 5 (.osl 0 :: an 20 [])), [], [some ⟨3, 1, List.map intRow x20⟩]⟩ : St)) m_table_Phases_j1 r ?_ fun J1 => ?_
  ·intro x20 h; rw [m_table_Phases_j1] at h; (try dsimp only); refine V_go 5 ?_; dsimp only [e41, e41_L0, go_sem, Nat.reduceBEq, Nat.reduceAdd]; refine ⟨by simp, ?_⟩; exact O_doneM intRow ok41 h rfl rfl
  ·refine V_go 1 ?_; dsimp only [e41, e41_L0, go_sem, Nat.reduceBEq, Nat.reduceAdd]; refine ⟨by simp, ?_⟩; refine V_own 5 3 1 rfl rfl ?_; dsimp only [go_sem, Nat.reduceBEq, Nat.reduceAdd]; refine M_loop h (fun ((x8, x9) : (Int × (List Int))) => (⟨(.any :: .iv x2 :: an 3 (.osl 0 :: an 3 (.sl 3 (List.map Diner.row x1.Diners) :: .iv (ln Diner.row x1.Diners) :: .iv x8 :: an 14 []))), [], [some ⟨3, 1, List.map intRow x9⟩]⟩ : St)) (by simp [go_sem]) (by rintro ⟨x8, x9⟩; first | rfl | simp [go_sem]) ?_; rintro n1 ⟨x8, x9⟩ y1 h hin1 hout1; rw [m_table_Phases_l1] at h; (try dsimp only); refine V_go 5 ?_
   dsimp only [e41, e41_L0, go_sem, Nat.reduceBEq, Nat.reduceAdd]; refine ⟨by simp, ?_⟩; refine M_ite h rfl (fun _ h => ?_) fun _ h => ?_
   ·refine V_go 5 ?_; dsimp only [e41, e41_L0, go_sem, Nat.reduceBEq, Nat.reduceAdd]; refine ⟨by simp, ?_⟩; obtain ⟨x10, ex10, h⟩ := Option.bind_eq_some_iff.1 h; refine V_idxM Diner.row ex10 trivial rfl rfl rfl ?_; refine V_go 11 ?_; dsimp only [e41, e41_L0, go_sem, Nat.reduceBEq, Nat.reduceAdd]; refine ⟨by simp, ?_⟩; refine V_join (fun (x12 : (List Int)) => (⟨(.any :: .iv x2 :: an 3 (.osl 0 :: an 3 (.sl 3 (List.map Diner.row x1.Diners) :: .iv (ln Diner.row x1.Diners) :: .iv x8 :: an 14 []))), [], [some ⟨3, 1, List.map intRow x12⟩]⟩ : St)) (m_table_Phases_j2 x8) y1 ?_ fun J2 => ?_
    ·intro x12 h; rw [m_table_Phases_j2] at h; (try dsimp only); refine V_go 5 ?_; dsimp only [e41, e41_L0, go_sem, Nat.reduceBEq, Nat.reduceAdd]; refine ⟨by simp, ?_⟩; exact M_back h hin1
    ·refine M_ite h rfl (fun _ h => ?_) fun _ h => ?_
     ·refine V_go 5 ?_; dsimp only [e41, e41_L0, go_sem, Nat.reduceBEq, Nat.reduceAdd]; refine ⟨by simp, ?_⟩; obtain ⟨x11, ex11, h⟩ := Option.bind_eq_some_iff.1 h; refine V_appM intRow ex11 trivial rfl rfl rfl ?_; refine V_go 2 ?_; dsimp only [e41, e41_L0, go_sem, Nat.reduceBEq, Nat.reduceAdd]; refine ⟨by simp, ?_⟩; refine V_ren 2 0 rfl rfl rfl ?_; dsimp only [go_sem, Nat.reduceBEq, Nat.reduceAdd]; exact M_to J2 (s := x11) h
     ·refine V_go 1 ?_; dsimp only [e41, e41_L0, go_sem, Nat.reduceBEq, Nat.reduceAdd]; refine ⟨by simp, ?_⟩; exact M_to J2 (s := x9) h
   ·refine V_go 1 ?_; dsimp only [e41, e41_L0, go_sem, Nat.reduceBEq, Nat.reduceAdd]; refine ⟨by simp, ?_⟩; exact M_to J1 (s := x9) (M_out h hout1)
theorem k_table_Phases (x1 : Scene) (x2 : Int) (r : (List Int)) (h : m_table_Phases x1 x2 = some r) : FunP Try.prog 41 [.agg (Scene.row x1), .iv x2] (.sl 1 (List.map intRow r)) := (o_table_Phases x1 x2 r h).sealed
def f_table_Phases_j1 (_F : Nat)  : (List Int) → Option (List Int)
| x20 =>
 some x20
theorem le_table_Phases_j1 {F : Nat} : ∀ s, ole (f_table_Phases_j1 F s) (m_table_Phases_j1 s) := by
  intro x20
  unfold f_table_Phases_j1 m_table_Phases_j1
  try dsimp only
  with_reducible repeat' first | exact ole_refl _ | assumption | intro _ | refine ole_ifb ?_ ?_ | refine ole_bind ?_ ?_ | refine ole_map ?_ | refine ole_loop ?_
def f_table_Phases_j2 (_F : Nat) (x8 : Int) : (List Int) → Option ((Int × (List Int)) ⊕ (List Int))
| x12 =>
 some (.inl (wr (x8 + 1), x12))
theorem le_table_Phases_j2 {F : Nat} {x8 : Int} : ∀ s, ole (f_table_Phases_j2 F x8 s) (m_table_Phases_j2 x8 s) := by
  intro x12
  unfold f_table_Phases_j2 m_table_Phases_j2
  try dsimp only
  with_reducible repeat' first | exact ole_refl _ | assumption | intro _ | refine ole_ifb ?_ ?_ | refine ole_bind ?_ ?_ | refine ole_map ?_ | refine ole_loop ?_ | apply le_table_Phases_j1
def f_table_Phases_l1 (F : Nat) (x1 : Scene) (x2 : Int) : (Int × (List Int)) → Option ((Int × (List Int)) ⊕ (List Int))
| (x8, x9) =>
 ifb (decide (x8 < (ln Diner.row x1.Diners))) (
 (at_ x1.Diners x8).bind fun x10 =>
 ifb (decide (x10.Phase = x2)) (
 (app_ 8 x9 ([x10.ID])).bind fun x11 =>
 (f_table_Phases_j2 F x8) x11) (
 (f_table_Phases_j2 F x8) x9)) (
 Option.map Sum.inr (f_table_Phases_j1 F x9))
theorem le_table_Phases_l1 {F : Nat} {x1 : Scene} {x2 : Int} : ∀ s, ole (f_table_Phases_l1 F x1 x2 s) (m_table_Phases_l1 x1 x2 s) := by
  rintro ⟨x8, x9⟩
  unfold f_table_Phases_l1 m_table_Phases_l1
  try dsimp only
  with_reducible repeat' first | exact ole_refl _ | assumption | intro _ | refine ole_ifb ?_ ?_ | refine ole_bind ?_ ?_ | refine ole_map ?_ | refine ole_loop ?_ | apply le_table_Phases_j1 | apply le_table_Phases_j2
def f_table_Phases (F : Nat) (x1 : Scene) (x2 : Int) : Option (List Int) :=
 loopF F (f_table_Phases_l1 F x1 x2) (0, ([] : List Int))
theorem le_table_Phases {F : Nat} {x1 : Scene} {x2 : Int} : ole (f_table_Phases F x1 x2) (m_table_Phases x1 x2) := by
  unfold f_table_Phases m_table_Phases
  with_reducible repeat' first | exact ole_refl _ | assumption | intro _ | refine ole_ifb ?_ ?_ | refine ole_bind ?_ ?_ | refine ole_map ?_ | refine ole_loop ?_ | apply le_table_Phases_j1 | apply le_table_Phases_j2 | apply le_table_Phases_l1
end NX
end Go.Proofs.Ytadebhbiglmodaa
/-
  The function narthex/narthexlaw14.run: its code compiled, a model, and that the code answers as the model. Written by a program of ours (lb.py). No statement of the seat is proved here.
-/
namespace Go.Proofs.Ytadebhbiglmodaa
namespace NX
open Go
set_option maxRecDepth 100000
set_option maxHeartbeats 4000000
def e37_L0 : EC := .seq (.seq (.reg [⟨(some 28), none, .mv (.t 10)⟩, ⟨(some 29), none, .mv (.t 1)⟩, ⟨(some 30), none, .len (.t 29)⟩, ⟨(some 31), none, .bin .lss (.t 28) (.t 30)⟩]) (.ite (.t 31) (.skip) (.exit 0))) (.seq (.blk 1 (.seq (.drw [⟨(some 35), none, .loadA 2 (.t 8)⟩, ⟨(some 36), none, .call 45 [(.t 35)]⟩, ⟨(some 37), none, .mv (.t 1)⟩, ⟨(some 38), none, .mv (.t 10)⟩, ⟨(some 39), none, .idx 3 (.t 37) (.t 38)⟩, ⟨(some 40), none, .loadA 3 (.t 39)⟩, ⟨(some 41), none, .call 46 [(.t 36), (.t 40)]⟩, ⟨(some 34), none, .mv (.t 41)⟩, ⟨(some 42), none, .ext (.t 34) 0⟩, ⟨(some 43), none, .ext (.t 34) 1⟩, ⟨(some 11), none, .alloc 43 [.nl, .nl]⟩, ⟨none, none, .store 2 (.t 11) (.t 42)⟩, ⟨(some 12), none, .mv (.t 43)⟩] [[], [0], [], [], [2, 3], [4], [1, 5, 1], [6], [7], [7], [], [10, 8, 6, 0, 1, 2, 3, 4, 5, 6, 7, 8, 10], [9, 11, 0, 1, 2, 3, 4, 5, 6, 7, 8, 9, 10, 11]] [[1], [0, 6], [4], [4], [2, 3, 5], [4, 6], [1, 5, 7], [6, 8, 9], [7, 11], [7, 12], [11], [8, 10], [9]]) (.seq (.seq (.reg [⟨(some 44), none, .mv (.t 12)⟩, ⟨(some 45), none, .bin .neq (.t 44) (.c (.iv 0))⟩, ⟨(some 46), none, .mv (.t 45)⟩, ⟨(some 47), (some (46, true)), .mv (.t 12)⟩, ⟨(some 48), (some (46, true)), .bin .neq (.t 47) (.c (.iv 134))⟩, ⟨(some 49), none, .pick (.t 46) (.t 48) (.c .ff)⟩, ⟨(some 50), none, .mv (.t 49)⟩, ⟨(some 51), (some (50, true)), .mv (.t 12)⟩, ⟨(some 52), (some (50, true)), .bin .neq (.t 51) (.c (.iv 141))⟩, ⟨(some 53), none, .pick (.t 50) (.t 52) (.c .ff)⟩, ⟨(some 54), none, .mv (.t 53)⟩, ⟨(some 55), (some (54, true)), .mv (.t 12)⟩, ⟨(some 56), (some (54, true)), .bin .neq (.t 55) (.c (.iv 140))⟩, ⟨(some 57), none, .pick (.t 54) (.t 56) (.c .ff)⟩]) (.ite (.t 57) (.seq (.reg [⟨(some 58), none, .loadA 2 (.t 8)⟩, ⟨none, none, .store 2 (.t 6) (.t 58)⟩, ⟨(some 7), none, .mv (.c .ff)⟩]) (.ret)) (.skip))) (.seq (.seq (.reg [⟨(some 59), none, .mv (.t 12)⟩, ⟨(some 60), none, .bin .eql (.t 59) (.c (.iv 0))⟩]) (.ite (.t 60) (.reg [⟨(some 61), none, .loadA 2 (.t 11)⟩, ⟨none, none, .store 2 (.t 8) (.t 61)⟩]) (.skip))) (.seq (.reg [⟨(some 62), none, .mv (.t 2)⟩, ⟨(some 63), none, .loadA 2 (.t 8)⟩, ⟨(some 64), none, .callv (.t 62) [(.t 63)]⟩, ⟨(some 65), none, .not (.t 64)⟩]) (.ite (.t 65) (.seq (.reg [⟨(some 66), none, .loadA 2 (.t 8)⟩, ⟨none, none, .store 2 (.t 6) (.t 66)⟩, ⟨(some 7), none, .mv (.c .ff)⟩]) (.ret)) (.skip))))))) (.reg [⟨(some 32), none, .mv (.t 10)⟩, ⟨(some 33), none, .bin .add (.t 32) (.c (.iv 1))⟩, ⟨(some 10), none, .mv (.t 33)⟩]))
def e37 : EC := .seq (.reg [⟨(some 3), none, .box 24 2 (.t 0)⟩, ⟨(some 6), none, .alloc 43 [.nl, .nl]⟩, ⟨(some 7), none, .mv (.c .ff)⟩]) (.seq (.reg [⟨(some 14), none, .loadA 2 (.t 3)⟩, ⟨(some 15), none, .call 15 [(.t 14)]⟩, ⟨(some 16), none, .call 68 [(.t 15)]⟩, ⟨(some 13), none, .mv (.t 16)⟩, ⟨(some 17), none, .ext (.t 13) 0⟩, ⟨(some 18), none, .ext (.t 13) 1⟩, ⟨(some 8), none, .alloc 43 [.nl, .nl]⟩, ⟨none, none, .store 2 (.t 8) (.t 17)⟩, ⟨(some 9), none, .mv (.t 18)⟩]) (.seq (.seq (.reg [⟨(some 19), none, .mv (.t 9)⟩, ⟨(some 20), none, .bin .neq (.t 19) (.c (.iv 0))⟩, ⟨(some 21), none, .mv (.t 20)⟩, ⟨(some 22), (some (21, false)), .mv (.t 2)⟩, ⟨(some 23), (some (21, false)), .loadA 2 (.t 8)⟩, ⟨(some 24), (some (21, false)), .callv (.t 22) [(.t 23)]⟩, ⟨(some 25), (some (21, false)), .not (.t 24)⟩, ⟨(some 26), none, .pick (.t 21) (.c .tt) (.t 25)⟩]) (.ite (.t 26) (.seq (.reg [⟨(some 27), none, .loadA 2 (.t 8)⟩, ⟨none, none, .store 2 (.t 6) (.t 27)⟩, ⟨(some 7), none, .mv (.c .ff)⟩]) (.ret)) (.skip))) (.seq (.seq (.reg [⟨(some 10), none, .mv (.c (.iv 0))⟩]) (.blk 0 (.loop e37_L0))) (.seq (.reg [⟨(some 67), none, .loadA 2 (.t 8)⟩, ⟨none, none, .store 2 (.t 6) (.t 67)⟩, ⟨(some 7), none, .mv (.c .tt)⟩]) (.ret)))))
theorem ok37 : FnOK Try.prog 37 Try.f37 e37 [.c 6 (some 2), .t 7] 3 65 := ⟨by kernel_rfl, ⟨_, rfl, by kernel_rfl⟩, by kernel_rfl, by kernel_rfl⟩
/- narthex/narthexlaw14.run -/
noncomputable def m_narthexlaw14_run_j2  : Scene → Option (Scene × Bool)
| x36 =>
 some (x36, true)
noncomputable def m_narthexlaw14_run_j5 (p2 : (Scene → Option Bool)) (x19 : Int) : Scene → Option ((Int × Scene) ⊕ (Scene × Bool))
| x29 =>
 (p2 x29).bind fun x30 =>
 ifb (!x30) (
 Option.map Sum.inr (some (x29, false))) (
 some (.inl (wr (x19 + 1), x29)))
noncomputable def m_narthexlaw14_run_j4 (p2 : (Scene → Option Bool)) (x19 : Int) (x20 : Scene) (x26 : Int) (x27 : Scene) : Bool → Option ((Int × Scene) ⊕ (Scene × Bool))
| x28 =>
 ifb x28 (
 Option.map Sum.inr (some (x20, false))) (
 ifb (decide (x26 = 0)) (
 (m_narthexlaw14_run_j5 p2 x19) x27) (
 (m_narthexlaw14_run_j5 p2 x19) x20))
noncomputable def m_narthexlaw14_run_j3 (p2 : (Scene → Option Bool)) (x19 : Int) (x20 : Scene) : (Int × Scene) → Option ((Int × Scene) ⊕ (Scene × Bool))
| (x26, x27) =>
 ifb (!decide (x26 = 0)) (
 ifb (!decide (x26 = 134)) (
 ifb (!decide (x26 = 141)) (
 (m_narthexlaw14_run_j4 p2 x19 x20 x26 x27) (!decide (x26 = 140))) (
 (m_narthexlaw14_run_j4 p2 x19 x20 x26 x27) false)) (
 (m_narthexlaw14_run_j4 p2 x19 x20 x26 x27) false)) (
 (m_narthexlaw14_run_j4 p2 x19 x20 x26 x27) false)
noncomputable def m_narthexlaw14_run_l1 (x2 : (List narthexlaw14_Act)) (p2 : (Scene → Option Bool)) : (Int × Scene) → Option ((Int × Scene) ⊕ (Scene × Bool))
| (x19, x20) =>
 ifb (decide (x19 < (ln narthexlaw14_Act.row x2))) (
 (at_ x2 x19).bind fun x21 =>
 (m_narthexlaw14_own x20).bind fun x22 =>
 (m_narthexlaw14_act x22 x21).bind fun x24 =>
 (m_narthexlaw14_run_j3 p2 x19 x20) (x24.2, x24.1)) (
 Option.map Sum.inr (m_narthexlaw14_run_j2 x20))
noncomputable def m_narthexlaw14_run_j1 (x2 : (List narthexlaw14_Act)) (p2 : (Scene → Option Bool)) (x4 : (Scene × Int)) : Bool → Option (Scene × Bool)
| x6 =>
 ifb x6 (
 some (x4.1, false)) (
 loop (m_narthexlaw14_run_l1 x2 p2) (0, x4.1))
noncomputable def m_narthexlaw14_run (x1 : Graph) (x2 : (List narthexlaw14_Act)) (p2 : (Scene → Option Bool)) : Option (Scene × Bool) :=
 (m_narthexlaw03_Own x1).bind fun x3 =>
 (m_table_New x3).bind fun x4 =>
 ifb (!decide (x4.2 = 0)) (
 (m_narthexlaw14_run_j1 x2 p2 x4) true) (
 (p2 x4.1).bind fun x5 =>
 (m_narthexlaw14_run_j1 x2 p2 x4) (!x5))
theorem k_narthexlaw14_run (x1 : Graph) (x2 : (List narthexlaw14_Act)) (g2 : Nat) (caps2 : List AV) (p2 : (Scene → Option Bool)) (hc2 : CloOK Try.prog g2 caps2 (fun z => [.agg (Scene.row z)]) p2 (fun z => .bv z)) (r : (Scene × Bool)) (h : m_narthexlaw14_run x1 x2 p2 = some r) : FunP Try.prog 37 [.agg (Graph.row x1), .sl 3 (List.map narthexlaw14_Act.row x2), .clo g2 caps2] (.tup [.agg (Scene.row r.1), .bv r.2]) := by
  refine FunP_intro ok37 rfl rfl fun w0 H0 => ?_
  rw [m_narthexlaw14_run] at h
  refine V_go 9 ?_; dsimp only [e37, e37_L0, go_sem, Nat.reduceBEq, Nat.reduceAdd]; refine ⟨by simp, ?_⟩; obtain ⟨x3, ex3, h⟩ := Option.bind_eq_some_iff.1 h; refine V_call trivial (k_narthexlaw03_Own x1 _ ex3) (hp := (by first | rfl | simp [go_sem, hc2.pu])) (h := ?_); obtain ⟨x4, ex4, h⟩ := Option.bind_eq_some_iff.1 h; refine V_call trivial (k_table_New x3 _ ex4) (hp := (by first | rfl | simp [go_sem, hc2.pu])) (h := ?_); refine V_go 13 ?_; dsimp only [e37, e37_L0, go_sem, Nat.reduceBEq, Nat.reduceAdd]; refine ⟨by simp, ?_⟩
  refine V_join (fun (x6 : Bool) => (⟨(.any :: .sl 3 (List.map narthexlaw14_Act.row x2) :: .clo g2 caps2 :: an 3 (.ptr 1 0 :: .any :: .ptr 2 0 :: an 17 (.bv x6 :: an 41 []))), [none, some ⟨43, [.nl, .nl]⟩, some ⟨43, [.sl 3 (List.map Diner.row x4.1.Diners), .sl 5 (List.map Mail.row x4.1.Mail)]⟩], []⟩ : St)) (m_narthexlaw14_run_j1 x2 p2 x4) r ?_ fun J1 => ?_
  ·intro x6 h; rw [m_narthexlaw14_run_j1] at h; (try dsimp only); refine M_ite h rfl (fun _ h => ?_) fun _ h => ?_
   ·refine V_go 6 ?_; dsimp only [e37, e37_L0, go_sem, Nat.reduceBEq, Nat.reduceAdd]; refine ⟨by simp, ?_⟩; exact M_done (res := fun (r : (Scene × Bool)) => .tup [.agg (Scene.row r.1), .bv r.2]) ok37 h
   ·refine V_go 6 ?_; dsimp only [e37, e37_L0, go_sem, Nat.reduceBEq, Nat.reduceAdd]; refine ⟨by simp, ?_⟩; refine V_join (fun (x36 : Scene) => (⟨(an 6 (.ptr 1 0 :: .any :: .ptr 2 0 :: an 59 [])), [none, some ⟨43, [.nl, .nl]⟩, some ⟨43, [.sl 3 (List.map Diner.row x36.Diners), .sl 5 (List.map Mail.row x36.Mail)]⟩], []⟩ : St)) m_narthexlaw14_run_j2 r ?_ fun J2 => ?_
    ·intro x36 h; rw [m_narthexlaw14_run_j2] at h; (try dsimp only); refine V_go 6 ?_; dsimp only [e37, e37_L0, go_sem, Nat.reduceBEq, Nat.reduceAdd]; refine ⟨by simp, ?_⟩; exact M_done (res := fun (r : (Scene × Bool)) => .tup [.agg (Scene.row r.1), .bv r.2]) ok37 h
    ·refine V_go 1 ?_; dsimp only [e37, e37_L0, go_sem, Nat.reduceBEq, Nat.reduceAdd]; refine ⟨by simp, ?_⟩; refine M_loop h (fun ((x19, x20) : (Int × Scene)) => (⟨(.any :: .sl 3 (List.map narthexlaw14_Act.row x2) :: .clo g2 caps2 :: an 3 (.ptr 1 0 :: .any :: .ptr 2 0 :: .any :: .iv x19 :: an 57 [])), [none, some ⟨43, [.nl, .nl]⟩, some ⟨43, [.sl 3 (List.map Diner.row x20.Diners), .sl 5 (List.map Mail.row x20.Mail)]⟩], []⟩ : St)) (by simp [go_sem]) (by rintro ⟨x19, x20⟩; first | rfl | simp [go_sem, puL_ok _ hc2.pu]) ?_; rintro n1 ⟨x19, x20⟩ y1 h hin1 hout1; rw [m_narthexlaw14_run_l1] at h
     (try dsimp only); refine V_go 8 ?_; dsimp only [e37, e37_L0, go_sem, Nat.reduceBEq, Nat.reduceAdd]; refine ⟨by simp, ?_⟩; refine M_ite h rfl (fun _ h => ?_) fun _ h => ?_
     ·refine V_go 4 ?_; dsimp only [e37, e37_L0, go_sem, Nat.reduceBEq, Nat.reduceAdd]; refine ⟨by simp, ?_⟩; refine V_join (fun ((x26, x27) : (Int × Scene)) => (⟨(.any :: .sl 3 (List.map narthexlaw14_Act.row x2) :: .clo g2 caps2 :: an 3 (.ptr 1 0 :: .any :: .ptr 2 0 :: .any :: .iv x19 :: .ptr 3 0 :: .iv x26 :: an 55 [])), [none, some ⟨43, [.nl, .nl]⟩, some ⟨43, [.sl 3 (List.map Diner.row x20.Diners), .sl 5 (List.map Mail.row x20.Mail)]⟩, some ⟨43, [.sl 3 (List.map Diner.row x27.Diners), .sl 5 (List.map Mail.row x27.Mail)]⟩], []⟩ : St)) (m_narthexlaw14_run_j3 p2 x19 x20) y1 ?_ fun J3 => ?_
      ·rintro ⟨x26, x27⟩ h; rw [m_narthexlaw14_run_j3] at h; (try dsimp only); refine V_go 6 ?_; dsimp only [e37, e37_L0, go_sem, Nat.reduceBEq, Nat.reduceAdd]; refine ⟨by simp, ?_⟩
       refine V_join (fun (x28 : Bool) => (⟨(.any :: .sl 3 (List.map narthexlaw14_Act.row x2) :: .clo g2 caps2 :: an 3 (.ptr 1 0 :: .any :: .ptr 2 0 :: .any :: .iv x19 :: .ptr 3 0 :: .iv x26 :: an 44 (.bv x28 :: an 10 []))), [none, some ⟨43, [.nl, .nl]⟩, some ⟨43, [.sl 3 (List.map Diner.row x20.Diners), .sl 5 (List.map Mail.row x20.Mail)]⟩, some ⟨43, [.sl 3 (List.map Diner.row x27.Diners), .sl 5 (List.map Mail.row x27.Mail)]⟩], []⟩ : St)) (m_narthexlaw14_run_j4 p2 x19 x20 x26 x27) y1 ?_ fun J4 => ?_
       ·intro x28 h; rw [m_narthexlaw14_run_j4] at h; (try dsimp only); refine M_ite h rfl (fun _ h => ?_) fun _ h => ?_
        ·refine V_go 6 ?_; dsimp only [e37, e37_L0, go_sem, Nat.reduceBEq, Nat.reduceAdd]; refine ⟨by simp, ?_⟩; exact M_done (res := fun (r : (Scene × Bool)) => .tup [.agg (Scene.row r.1), .bv r.2]) ok37 (M_out h hout1)
        ·refine V_go 7 ?_; dsimp only [e37, e37_L0, go_sem, Nat.reduceBEq, Nat.reduceAdd]; refine ⟨by simp, ?_⟩; refine V_join (fun (x29 : Scene) => (⟨(.any :: .sl 3 (List.map narthexlaw14_Act.row x2) :: .clo g2 caps2 :: an 3 (.ptr 1 0 :: .any :: .ptr 2 0 :: .any :: .iv x19 :: an 57 [])), [none, some ⟨43, [.nl, .nl]⟩, some ⟨43, [.sl 3 (List.map Diner.row x29.Diners), .sl 5 (List.map Mail.row x29.Mail)]⟩], []⟩ : St)) (m_narthexlaw14_run_j5 p2 x19) y1 ?_ fun J5 => ?_
         ·intro x29 h; rw [m_narthexlaw14_run_j5] at h; (try dsimp only); refine V_go 4 ?_; dsimp only [e37, e37_L0, go_sem, Nat.reduceBEq, Nat.reduceAdd]; refine ⟨by simp, ?_⟩; obtain ⟨x30, ex30, h⟩ := Option.bind_eq_some_iff.1 h; refine V_callp trivial rfl hc2 (x := x29) ex30 (by first | exact leL_refl _ | simp [go_sem]) (by first | rfl | simp [go_sem, hc2.pu]) ?_; refine V_go 2 ?_; dsimp only [e37, e37_L0, go_sem, Nat.reduceBEq, Nat.reduceAdd]; refine ⟨by simp, ?_⟩; refine M_ite h rfl (fun _ h => ?_) fun _ h => ?_
          ·refine V_go 6 ?_; dsimp only [e37, e37_L0, go_sem, Nat.reduceBEq, Nat.reduceAdd]; refine ⟨by simp, ?_⟩; exact M_done (res := fun (r : (Scene × Bool)) => .tup [.agg (Scene.row r.1), .bv r.2]) ok37 (M_out h hout1)
          ·refine V_go 7 ?_; dsimp only [e37, e37_L0, go_sem, Nat.reduceBEq, Nat.reduceAdd]; refine ⟨by simp, ?_⟩; exact M_back h hin1 (hok := by first | rfl | simp [go_sem, puL_ok _ hc2.pu])
         ·refine M_ite h rfl (fun _ h => ?_) fun _ h => ?_
          ·refine V_go 4 ?_; dsimp only [e37, e37_L0, go_sem, Nat.reduceBEq, Nat.reduceAdd]; refine ⟨by simp, ?_⟩; exact M_to J5 (s := x27) h (hok := by first | rfl | simp [go_sem, puL_ok _ hc2.pu])
          ·refine V_go 1 ?_; dsimp only [e37, e37_L0, go_sem, Nat.reduceBEq, Nat.reduceAdd]; refine ⟨by simp, ?_⟩; exact M_to J5 (s := x20) h (hok := by first | rfl | simp [go_sem, puL_ok _ hc2.pu])
       ·refine M_case 46 h rfl (fun _ h => ?_) fun _ h => ?_
        ·dsimp only [go_sem, Nat.reduceBEq, Nat.reduceAdd]; refine V_go 4 ?_; dsimp only [e37, e37_L0, go_sem, Nat.reduceBEq, Nat.reduceAdd]; refine ⟨by simp, ?_⟩; refine M_case 50 h rfl (fun _ h => ?_) fun _ h => ?_
         ·dsimp only [go_sem, Nat.reduceBEq, Nat.reduceAdd]; refine V_go 4 ?_; dsimp only [e37, e37_L0, go_sem, Nat.reduceBEq, Nat.reduceAdd]; refine ⟨by simp, ?_⟩; refine M_case 54 h rfl (fun _ h => ?_) fun _ h => ?_
          ·dsimp only [go_sem, Nat.reduceBEq, Nat.reduceAdd]; refine V_go 4 ?_; dsimp only [e37, e37_L0, go_sem, Nat.reduceBEq, Nat.reduceAdd]; refine ⟨by simp, ?_⟩; exact M_to J4 (s := !decide (x26 = 140)) h (hok := by first | rfl | simp [go_sem, puL_ok _ hc2.pu])
          ·dsimp only [go_sem, Nat.reduceBEq, Nat.reduceAdd]; refine V_go 4 ?_; dsimp only [e37, e37_L0, go_sem, Nat.reduceBEq, Nat.reduceAdd]; refine ⟨by simp, ?_⟩; exact M_to J4 (s := false) h (hok := by first | rfl | simp [go_sem, puL_ok _ hc2.pu])
         ·dsimp only [go_sem, Nat.reduceBEq, Nat.reduceAdd]; refine V_go 8 ?_; dsimp only [e37, e37_L0, go_sem, Nat.reduceBEq, Nat.reduceAdd]; refine ⟨by simp, ?_⟩; exact M_to J4 (s := false) h (hok := by first | rfl | simp [go_sem, puL_ok _ hc2.pu])
        ·dsimp only [go_sem, Nat.reduceBEq, Nat.reduceAdd]; refine V_go 12 ?_; dsimp only [e37, e37_L0, go_sem, Nat.reduceBEq, Nat.reduceAdd]; refine ⟨by simp, ?_⟩; exact M_to J4 (s := false) h (hok := by first | rfl | simp [go_sem, puL_ok _ hc2.pu])
      ·refine V_drw (by kernel_rfl) fun all hall hs hnap haf => ?_; dsimp only [go_sem, Nat.reduceBEq, Nat.reduceAdd]; refine G_goN hall hs haf hnap 3 10 ?_; dsimp only [go_sem, Nat.reduceBEq, Nat.reduceAdd]; refine ⟨by simp, ?_⟩; obtain ⟨x21, ex21, h⟩ := Option.bind_eq_some_iff.1 h; refine G_idxM hall hs haf hnap 4 narthexlaw14_Act.row ex21 rfl rfl trivial rfl rfl rfl rfl ?_; refine G_goN hall hs haf hnap 1 8 ?_; dsimp only [go_sem, Nat.reduceBEq, Nat.reduceAdd]; refine ⟨by simp, ?_⟩; obtain ⟨x22, ex22, h⟩ := Option.bind_eq_some_iff.1 h; refine G_two 1 10 rfl ?_ ?_
       ·refine GO_call hall rfl trivial (k_narthexlaw14_own x20 _ ex22) (hp := (by first | rfl | simp [go_sem, hc2.pu])) (h := ?_); dsimp only [go_sem, Nat.reduceBEq, Nat.reduceAdd]; obtain ⟨x24, ex24, h⟩ := Option.bind_eq_some_iff.1 h; refine G_two 6 10 rfl ?_ ?_
        ·refine GO_call hall rfl trivial (k_narthexlaw14_act x22 x21 _ ex24) (hp := (by first | rfl | simp [go_sem, hc2.pu])) (h := ?_); dsimp only [go_sem, Nat.reduceBEq, Nat.reduceAdd]; refine G_goN hall hs haf hnap 3 3 ?_; dsimp only [go_sem, Nat.reduceBEq, Nat.reduceAdd]; refine ⟨by simp, ?_⟩; refine G_one 10 rfl ?_; refine GO_ev hall rfl trivial ?_; dsimp only [go_sem, Nat.reduceBEq, Nat.reduceAdd]; refine G_one 11 rfl ?_; refine GO_ev hall rfl trivial ?_; dsimp only [go_sem, Nat.reduceBEq, Nat.reduceAdd]; refine G_goN hall hs haf hnap 1 0 ?_
         dsimp only [go_sem, Nat.reduceBEq, Nat.reduceAdd]; refine ⟨by simp, ?_⟩; refine G_done rfl ?_ _; exact M_to J3 (s := (x24.2, x24.1)) h (hok := by first | rfl | simp [go_sem, puL_ok _ hc2.pu])
        ·refine GO_ev hall rfl trivial ?_; dsimp only [go_sem, Nat.reduceBEq, Nat.reduceAdd]; refine G_one 6 rfl ?_; refine GO_call hall rfl trivial (k_narthexlaw14_act x22 x21 _ ex24) (hp := (by first | rfl | simp [go_sem, hc2.pu])) (h := ?_); dsimp only [go_sem, Nat.reduceBEq, Nat.reduceAdd]; refine G_goN hall hs haf hnap 3 2 ?_; dsimp only [go_sem, Nat.reduceBEq, Nat.reduceAdd]; refine ⟨by simp, ?_⟩; refine G_one 11 rfl ?_; refine GO_ev hall rfl trivial ?_; dsimp only [go_sem, Nat.reduceBEq, Nat.reduceAdd]; refine G_goN hall hs haf hnap 1 0 ?_
         dsimp only [go_sem, Nat.reduceBEq, Nat.reduceAdd]; refine ⟨by simp, ?_⟩; refine G_done rfl ?_ _; exact M_to J3 (s := (x24.2, x24.1)) h (hok := by first | rfl | simp [go_sem, puL_ok _ hc2.pu])
       ·refine GO_ev hall rfl trivial ?_; dsimp only [go_sem, Nat.reduceBEq, Nat.reduceAdd]; refine G_one 1 rfl ?_; refine GO_call hall rfl trivial (k_narthexlaw14_own x20 _ ex22) (hp := (by first | rfl | simp [go_sem, hc2.pu])) (h := ?_); dsimp only [go_sem, Nat.reduceBEq, Nat.reduceAdd]; refine G_one 6 rfl ?_; obtain ⟨x24, ex24, h⟩ := Option.bind_eq_some_iff.1 h; refine GO_call hall rfl trivial (k_narthexlaw14_act x22 x21 _ ex24) (hp := (by first | rfl | simp [go_sem, hc2.pu])) (h := ?_); dsimp only [go_sem, Nat.reduceBEq, Nat.reduceAdd]; refine G_goN hall hs haf hnap 3 2 ?_
        dsimp only [go_sem, Nat.reduceBEq, Nat.reduceAdd]; refine ⟨by simp, ?_⟩; refine G_one 11 rfl ?_; refine GO_ev hall rfl trivial ?_; dsimp only [go_sem, Nat.reduceBEq, Nat.reduceAdd]; refine G_goN hall hs haf hnap 1 0 ?_; dsimp only [go_sem, Nat.reduceBEq, Nat.reduceAdd]; refine ⟨by simp, ?_⟩; refine G_done rfl ?_ _; exact M_to J3 (s := (x24.2, x24.1)) h (hok := by first | rfl | simp [go_sem, puL_ok _ hc2.pu])
     ·refine V_go 1 ?_; dsimp only [e37, e37_L0, go_sem, Nat.reduceBEq, Nat.reduceAdd]; refine ⟨by simp, ?_⟩; exact M_to J2 (s := x20) (M_out h hout1) (hok := by first | rfl | simp [go_sem, puL_ok _ hc2.pu])
  ·refine M_case 21 h rfl (fun _ h => ?_) fun _ h => ?_
   ·dsimp only [go_sem, Nat.reduceBEq, Nat.reduceAdd]; refine V_go 6 ?_; dsimp only [e37, e37_L0, go_sem, Nat.reduceBEq, Nat.reduceAdd]; refine ⟨by simp, ?_⟩; exact M_to J1 (s := true) h (hok := by first | rfl | simp [go_sem, puL_ok _ hc2.pu])
   ·dsimp only [go_sem, Nat.reduceBEq, Nat.reduceAdd]; refine V_go 2 ?_; dsimp only [e37, e37_L0, go_sem, Nat.reduceBEq, Nat.reduceAdd]; refine ⟨by simp, ?_⟩; obtain ⟨x5, ex5, h⟩ := Option.bind_eq_some_iff.1 h; refine V_callp trivial rfl hc2 (x := x4.1) ex5 (by first | exact leL_refl _ | simp [go_sem]) (by first | rfl | simp [go_sem, hc2.pu]) ?_; refine V_go 3 ?_; dsimp only [e37, e37_L0, go_sem, Nat.reduceBEq, Nat.reduceAdd]; refine ⟨by simp, ?_⟩; exact M_to J1 (s := !x5) h (hok := by first | rfl | simp [go_sem, puL_ok _ hc2.pu])
end NX
end Go.Proofs.Ytadebhbiglmodaa
/-
  The function narthex/narthexref14.Small: its code compiled, a model, and that the code answers as the model. Written by a program of ours (lb.py). No statement of the seat is proved here.
-/
namespace Go.Proofs.Ytadebhbiglmodaa
namespace NX
open Go
set_option maxRecDepth 100000
set_option maxHeartbeats 4000000
def e36 : EC := .seq (.reg [⟨(some 1), none, .box 24 2 (.t 0)⟩, ⟨(some 2), none, .mv (.c .ff)⟩]) (.seq (.reg [⟨(some 3), none, .fld 0 (.t 1)⟩, ⟨(some 4), none, .load (.t 3)⟩, ⟨(some 5), none, .bin .leq (.t 4) (.c (.iv 10))⟩, ⟨(some 6), none, .mv (.t 5)⟩, ⟨(some 7), (some (6, true)), .loadA 2 (.t 1)⟩, ⟨(some 8), (some (6, true)), .call 16 [(.t 7)]⟩, ⟨(some 9), none, .pick (.t 6) (.t 8) (.c .ff)⟩, ⟨(some 2), none, .mv (.t 9)⟩]) (.ret))
theorem ok36 : FnOK Try.prog 36 Try.f36 e36 [.t 2] 1 9 := ⟨by kernel_rfl, ⟨_, rfl, by kernel_rfl⟩, by kernel_rfl, by kernel_rfl⟩
/- narthex/narthexref14.Small -/
noncomputable def m_narthexref14_Small_j1  : Bool → Option Bool
| x3 =>
 some x3
noncomputable def m_narthexref14_Small (x1 : Graph) : Option Bool :=
 ifb (decide (x1.N ≤ 10)) (
 (m_narthexref03_Check x1).bind fun x2 =>
 m_narthexref14_Small_j1 x2) (
 m_narthexref14_Small_j1 false)
theorem k_narthexref14_Small (x1 : Graph) (r : Bool) (h : m_narthexref14_Small x1 = some r) : FunP Try.prog 36 [.agg (Graph.row x1)] (.bv r) := by
  refine FunP_intro ok36 rfl rfl fun w0 H0 => ?_
  rw [m_narthexref14_Small] at h
  refine V_go 11 ?_; dsimp only [e36, go_sem, Nat.reduceBEq, Nat.reduceAdd]; refine ⟨by simp, ?_⟩; refine V_join (fun (x3 : Bool) => (⟨(.any :: .any :: .bv x3 :: an 7 []), [], []⟩ : St)) m_narthexref14_Small_j1 r ?_ fun J1 => ?_
  ·intro x3 h; rw [m_narthexref14_Small_j1] at h; (try dsimp only); exact M_done (res := fun (r : Bool) => .bv r) ok36 h
  ·refine M_case 6 h rfl (fun _ h => ?_) fun _ h => ?_
   ·dsimp only [go_sem, Nat.reduceBEq, Nat.reduceAdd]; refine V_go 1 ?_; dsimp only [e36, go_sem, Nat.reduceBEq, Nat.reduceAdd]; refine ⟨by simp, ?_⟩; obtain ⟨x2, ex2, h⟩ := Option.bind_eq_some_iff.1 h; refine V_call trivial (k_narthexref03_Check x1 _ ex2) (h := ?_); refine V_go 3 ?_; dsimp only [e36, go_sem, Nat.reduceBEq, Nat.reduceAdd]; refine ⟨by simp, ?_⟩; exact M_to J1 (s := x2) h
   ·dsimp only [go_sem, Nat.reduceBEq, Nat.reduceAdd]; refine V_go 5 ?_; dsimp only [e36, go_sem, Nat.reduceBEq, Nat.reduceAdd]; refine ⟨by simp, ?_⟩; exact M_to J1 (s := false) h
end NX
end Go.Proofs.Ytadebhbiglmodaa
/-
  Plain laws: table.Count, table.Phases, and all that is behind acts. No statement of the seat is proved here.
-/
namespace Go.Proofs.Ytadebhbiglmodaa
namespace NX
open Go
def mailB (e : Edge) (k ep : Int) (m : Mail) : Bool := decide (m.Msg.Kind = k) && (decide (m.Msg.Epoch = ep) && (decide (min m.From m.To = min e.A e.B) && decide (max m.From m.To = max e.A e.B)))
def countM (M : List Mail) (e : Edge) (k ep : Int) : Nat := M.countP (mailB e k ep)
theorem countM_snoc (M : List Mail) (m : Mail) (e : Edge) (k ep : Int) : countM (M ++ [m]) e k ep = countM M e k ep + bn (mailB e k ep m) := by
  unfold countM
  rw [List.countP_append, List.countP_cons]
  cases mailB e k ep m <;> simp [bn]
theorem countM_le (M : List Mail) (e : Edge) (k ep : Int) : countM M e k ep ≤ M.length := List.countP_le_length
theorem s_countL2 (s : Scene) (e : Edge) (k : Int) (x : Side) (n : Nat) (hn : n ≤ 2) (hM : s.Mail.length ≤ 900000) : loop (m_table_Count_l2 s e k x) ((n : Int), 0) = some ((n + countM s.Mail e k x.Epoch : Nat) : Int) := by
  have key := loop_pre s.Mail (m_table_Count_l2 s e k x) (fun pre => (((n + countM pre e k x.Epoch : Nat) : Int), (pre.length : Int))) ((n + countM s.Mail e k x.Epoch : Nat) : Int) (fun pre m post h => ?_) ?_
  · exact key
  · have hx := mid_get h
    have hm := mid_len h
    have hc := countM_le pre e k x.Epoch
    dsimp only [m_table_Count_l2]
    rw [lt_len hx, ifb_true, at_get hx, Option.bind_some, countM_snoc, len_snoc]
    have step : ∀ z, m_table_Count_j8 ((n + countM pre e k x.Epoch : Nat) : Int) (pre.length : Int) z = some (.inl (((n + (countM pre e k x.Epoch + bn z) : Nat) : Int), ((pre.length + 1 : Nat) : Int))) := fun z => by
      cases z with
      | true => dsimp only [m_table_Count_j8, m_table_Count_j9]; rw [ifb_true, wr_succ (by omega), wr_succ (by omega)]; rfl
      | false => dsimp only [m_table_Count_j8, m_table_Count_j9]; rw [ifb_false, wr_succ (by omega)]; rfl
    unfold mailB
    cases h1 : decide (m.Msg.Kind = k) with
    | false => rw [ifb_false, step, Bool.false_and]
    | true =>
      cases h2 : decide (m.Msg.Epoch = x.Epoch) with
      | false => rw [ifb_true, ifb_false, step, Bool.true_and, Bool.false_and]
      | true =>
        cases h3 : decide (min m.From m.To = min e.A e.B) with
        | false => rw [ifb_true, ifb_true, ifb_false, step, Bool.true_and, Bool.true_and, Bool.false_and]
        | true => rw [ifb_true, ifb_true, ifb_true, step, Bool.true_and, Bool.true_and, Bool.true_and]
  · dsimp only [m_table_Count_l2]
    rw [nlt_len, ifb_false]; rfl
theorem s_countL4 (s : Scene) (e : Edge) (k : Int) (x : Side) (n : Nat) (hn : n ≤ 2) (hM : s.Mail.length ≤ 900000) : loop (m_table_Count_l4 s e k x) ((n : Int), 0) = some ((n + countM s.Mail e k x.Epoch : Nat) : Int) := by
  have key := loop_pre s.Mail (m_table_Count_l4 s e k x) (fun pre => (((n + countM pre e k x.Epoch : Nat) : Int), (pre.length : Int))) ((n + countM s.Mail e k x.Epoch : Nat) : Int) (fun pre m post h => ?_) ?_
  · exact key
  · have hx := mid_get h
    have hm := mid_len h
    have hc := countM_le pre e k x.Epoch
    dsimp only [m_table_Count_l4]
    rw [lt_len hx, ifb_true, at_get hx, Option.bind_some, countM_snoc, len_snoc]
    have step : ∀ z, m_table_Count_j13 ((n + countM pre e k x.Epoch : Nat) : Int) (pre.length : Int) z = some (.inl (((n + (countM pre e k x.Epoch + bn z) : Nat) : Int), ((pre.length + 1 : Nat) : Int))) := fun z => by
      cases z with
      | true => dsimp only [m_table_Count_j13, m_table_Count_j14]; rw [ifb_true, wr_succ (by omega), wr_succ (by omega)]; rfl
      | false => dsimp only [m_table_Count_j13, m_table_Count_j14]; rw [ifb_false, wr_succ (by omega)]; rfl
    unfold mailB
    cases h1 : decide (m.Msg.Kind = k) with
    | false => rw [ifb_false, step, Bool.false_and]
    | true =>
      cases h2 : decide (m.Msg.Epoch = x.Epoch) with
      | false => rw [ifb_true, ifb_false, step, Bool.true_and, Bool.false_and]
      | true =>
        cases h3 : decide (min m.From m.To = min e.A e.B) with
        | false => rw [ifb_true, ifb_true, ifb_false, step, Bool.true_and, Bool.true_and, Bool.false_and]
        | true => rw [ifb_true, ifb_true, ifb_true, step, Bool.true_and, Bool.true_and, Bool.true_and]
  · dsimp only [m_table_Count_l4]
    rw [nlt_len, ifb_false]; rfl
theorem s_countS1 (s : Scene) (e : Edge) (k : Int) (x y : Side) : loop (m_table_Count_l1 s e k x y) (0, 0) = m_table_Count_j5 s e k x ((bn x.Fork + bn y.Fork : Nat) : Int) := by
  have ef : (([x, y].countP (·.Fork) : Nat) : Int) = ((bn x.Fork + bn y.Fork : Nat) : Int) := by
    rw [List.countP_cons, List.countP_cons, List.countP_nil]
    cases x.Fork <;> cases y.Fork <;> rfl
  rw [← ef]
  refine loop_pp0 [x, y] (m_table_Count_l1 s e k x y) (fun pre => (((pre.countP (·.Fork) : Nat) : Int), (pre.length : Int))) (fun _ _ => m_table_Count_j5 s e k x (([x, y].countP (·.Fork) : Nat) : Int)) (fun pre z post h => .inl ⟨?_, rfl⟩) ?_
  · have hx := mid_get h
    have hm := mid_len h
    have h2 : pre.length < 2 := hm
    have hc : pre.countP (·.Fork) ≤ pre.length := List.countP_le_length
    dsimp only [m_table_Count_l1, m_table_Count_1, m_table_Count_j6]
    rw [lt_len hx, ifb_true, at_get hx, Option.bind_some, Option.bind_some, len_snoc, List.countP_append, List.countP_cons, List.countP_nil, wr_succ (by omega), wr_succ (by omega)]
    cases z.Fork <;> rfl
  · dsimp only [m_table_Count_l1]
    rw [nlt_len, ifb_false]
theorem s_countS3 (s : Scene) (e : Edge) (k : Int) (x y : Side) : loop (m_table_Count_l3 s e k x y) (0, 0) = m_table_Count_j10 s e k x ((bn x.Token + bn y.Token : Nat) : Int) := by
  have ef : (([x, y].countP (·.Token) : Nat) : Int) = ((bn x.Token + bn y.Token : Nat) : Int) := by
    rw [List.countP_cons, List.countP_cons, List.countP_nil]
    cases x.Token <;> cases y.Token <;> rfl
  rw [← ef]
  refine loop_pp0 [x, y] (m_table_Count_l3 s e k x y) (fun pre => (((pre.countP (·.Token) : Nat) : Int), (pre.length : Int))) (fun _ _ => m_table_Count_j10 s e k x (([x, y].countP (·.Token) : Nat) : Int)) (fun pre z post h => .inl ⟨?_, rfl⟩) ?_
  · have hx := mid_get h
    have hm := mid_len h
    have h2 : pre.length < 2 := hm
    have hc : pre.countP (·.Token) ≤ pre.length := List.countP_le_length
    dsimp only [m_table_Count_l3, m_table_Count_2, m_table_Count_j11]
    rw [lt_len hx, ifb_true, at_get hx, Option.bind_some, Option.bind_some, len_snoc, List.countP_append, List.countP_cons, List.countP_nil, wr_succ (by omega), wr_succ (by omega)]
    cases z.Token <;> rfl
  · dsimp only [m_table_Count_l3]
    rw [nlt_len, ifb_false]
/-- How many of a kind of thing an edge has. -/
def countS (s : Scene) (e : Edge) (k : Int) : Nat :=
  if thereB s e.A && thereB s e.B then
    match s.Diners[e.A.toNat]?, s.Diners[e.B.toNat]? with
    | some da, some db => match sideO da e.B, sideO db e.A with
      | some x, some y => if decide (x.Epoch = y.Epoch) && (decide (k = 1) || decide (k = 2)) then bn (has x k) + bn (has y k) + countM s.Mail e k x.Epoch else 0
      | _, _ => 0
    | _, _ => 0
  else 0
theorem s_Count (s : Scene) (e : Edge) (k : Int) (hD : fewD s.Diners) (hM : s.Mail.length ≤ 900000) : m_table_Count s e k = some (countS s e k : Int) := by
  simp only [m_table_Count, s_there, Option.bind_some]
  unfold countS
  cases ha : thereB s e.A with
  | false => rfl
  | true =>
    cases hb : thereB s e.B with
    | false => rfl
    | true =>
      obtain ⟨da, a1, a2⟩ := there_at ha
      obtain ⟨db, b1, b2⟩ := there_at hb
      have la := hD.2 da (List.mem_iff_getElem?.2 ⟨_, a2⟩)
      have lb := hD.2 db (List.mem_iff_getElem?.2 ⟨_, b2⟩)
      simp only [Bool.not_true, ifb_false, m_table_Count_j1, a1, a2, b1, b2, Option.bind_some, m_table_Count_j2, s_Side da e.B (by omega), s_Side db e.A (by omega), Bool.and_self, if_true, m_table_Count_j3]
      cases hx : sideO da e.B with
      | none => rfl
      | some x =>
        cases hy : sideO db e.A with
        | none => rfl
        | some y =>
          simp only [sideP, Bool.not_true, ifb_false, m_table_Count_j4]
          by_cases he : x.Epoch = y.Epoch
          · by_cases h1 : k = 1
            · subst h1
              have n2 : bn x.Fork + bn y.Fork ≤ 2 := by cases x.Fork <;> cases y.Fork <;> decide
              simp only [decide_true, ifb_true, s_countS1, m_table_Count_j5, s_countL2 s e 1 x _ n2 hM]
              simp [he, has]
            · by_cases h2 : k = 2
              · subst h2
                have n2 : bn x.Token + bn y.Token ≤ 2 := by cases x.Token <;> cases y.Token <;> decide
                simp only [ifb_false, show decide ((2 : Int) = 1) = false from rfl, decide_true, ifb_true, s_countS3, m_table_Count_j10, s_countL4 s e 2 x _ n2 hM]
                simp [he, has]
              · simp [he, h1, h2]
          · simp [he]
def phasesL (l : List Diner) (p : Int) : List Int := (l.filter fun d => decide (d.Phase = p)).map (·.ID)
theorem s_Phases (s : Scene) (p : Int) (hD : fewD s.Diners) : m_table_Phases s p = some (phasesL s.Diners p) := by
  unfold m_table_Phases
  refine loop_pre s.Diners (m_table_Phases_l1 s p) (fun pre => ((pre.length : Int), phasesL pre p)) _ (fun pre d post h => ?_) ?_
  · have hx := mid_get h
    have hm := mid_len h
    have := hD.1
    have hl : (phasesL pre p).length ≤ pre.length := by unfold phasesL; rw [List.length_map]; exact List.length_filter_le _ _
    have e : phasesL (pre ++ [d]) p = if d.Phase = p then phasesL pre p ++ [d.ID] else phasesL pre p := by
      unfold phasesL
      by_cases hp : d.Phase = p <;> simp [hp]
    dsimp only [m_table_Phases_l1]
    rw [lt_len hx, ifb_true, at_get hx, Option.bind_some, e, len_snoc]
    by_cases hp : d.Phase = p
    · rw [decide_eq_true hp, ifb_true, app_ok _ _ (by omega) (by simp only [List.length_singleton]; omega), Option.bind_some, if_pos hp]
      dsimp only [m_table_Phases_j2]; rw [wr_succ (by omega)]
    · rw [decide_eq_false hp, ifb_false, if_neg hp]
      dsimp only [m_table_Phases_j2]; rw [wr_succ (by omega)]
  · dsimp only [m_table_Phases_l1]
    rw [nlt_len, ifb_false]; rfl
/-! Behind acts -/
theorem fireMs_small {d : Diner} (h : okD d = true) : (fireMs d).length ≤ 128 := by
  have h1 := okD_len h
  have h2 := fireMs_len d.Sides d.ID d.Phase
  unfold fireMs
  omega
theorem actP_mail {s : Scene} {a : Int} {r : Diner × Int} (h : (actP s a r).2 = 0) : (actP s a r).1.Mail.length ≤ s.Mail.length + 128 := by
  unfold actP at h ⊢
  split at h
  · rename_i h1
    split at h
    · rename_i h2
      rw [if_pos h1, if_pos h2]
      have := fireMs_small h2
      simp only [actS, List.length_append]; omega
    · simp at h
  · exact absurd h (by assumption)
theorem turnS_mail {s : Scene} {a : Int} {q : Diner → Diner × Int} (h : (turnS s a q).2 = 0) : (turnS s a q).1.Mail.length ≤ s.Mail.length + 128 := by
  unfold turnS at h ⊢
  cases hk : okS s with
  | false => rw [hk] at h; simp at h
  | true =>
    rw [hk] at h
    simp only [if_true] at h ⊢
    cases ht : thereB s a with
    | false => rw [ht] at h; simp at h
    | true =>
      rw [ht] at h
      simp only [if_true] at h ⊢
      obtain ⟨d, hd, _⟩ := there_at ht
      rw [hd] at h ⊢
      exact actP_mail h
theorem delivS_mail {s : Scene} {a b : Int} (h : (delivS s a b).2 = 0) : (delivS s a b).1.Mail.length ≤ s.Mail.length + 128 := by
  unfold delivS at h ⊢
  cases hk : okS s with
  | false => rw [hk] at h; simp at h
  | true =>
    rw [hk] at h
    simp only [if_true] at h ⊢
    cases ht : (thereB s a && thereB s b) with
    | false => rw [ht] at h; simp at h
    | true =>
      rw [ht] at h
      simp only [if_true] at h ⊢
      cases hi : delivI s a b with
      | none => rw [hi] at h; simp at h
      | some i =>
        rw [hi] at h
        simp only at h ⊢
        split at h
        · rename_i m d hm hd
          have := actP_mail h
          simp only [List.length_append, List.length_take, List.length_drop] at this
          refine Nat.le_trans this ?_
          omega
        · simp at h
theorem actA_mail {s : Scene} {k a b : Int} (h : (actA s k a b).2 = 0) : (actA s k a b).1.Mail.length ≤ s.Mail.length + 128 := by
  unfold actA at h ⊢
  split at h
  · rename_i h1; rw [if_pos h1]; exact turnS_mail h
  · rename_i h1
    rw [if_neg h1]
    split at h
    · rename_i h2; rw [if_pos h2]; exact turnS_mail h
    · rename_i h2; rw [if_neg h2]; exact delivS_mail h
def actT (s : Scene) (a : narthexlaw14_Act) : Scene := if (actA s a.K a.A a.B).2 = 0 then (actA s a.K a.A a.B).1 else s
def runS (g : Graph) (l : List narthexlaw14_Act) : Scene := l.foldl actT (sceneT g)
theorem Inv.first {g : Graph} (hg : okG g = true) : Inv g (sceneT g) := Inv.init hg (colours_right hg).1
theorem s_run14 {g : Graph} (hg : okG g = true) (hN : g.N ≤ 60) {J : Scene → Prop} (hJ : ∀ s, J s → Inv g s) (h0 : J (sceneT g)) (hs : ∀ s k a b, J s → (actA s k a b).2 = 0 → J (actA s k a b).1)
    (l : List narthexlaw14_Act) (hl : l.length ≤ 80) (p : Scene → Option Bool) (hp : ∀ s, J s → s.Mail.length ≤ 20000 → p s = some true) :
    m_narthexlaw14_run g l p = some (runS g l, true) ∧ J (runS g l) ∧ (runS g l).Mail.length ≤ 128 * l.length := by
  have inv : ∀ (l : List narthexlaw14_Act) s, J s → J (l.foldl actT s) ∧ (l.foldl actT s).Mail.length ≤ s.Mail.length + 128 * l.length := fun l => by
    induction l with
    | nil => exact fun s h => ⟨h, by simp⟩
    | cons a l ih =>
      intro s h
      have h1 : J (actT s a) ∧ (actT s a).Mail.length ≤ s.Mail.length + 128 := by
        unfold actT
        split
        · rename_i h2; exact ⟨hs _ _ _ _ h h2, actA_mail h2⟩
        · exact ⟨h, by omega⟩
      have h3 := ih _ h1.1
      rw [List.foldl_cons, List.length_cons]
      exact ⟨h3.1, by omega⟩
  have e0 : (sceneT g).Mail.length = 0 := rfl
  have hrun := inv l (sceneT g) h0
  refine ⟨?_, hrun.1, by have := hrun.2; rw [e0] at this; unfold runS; omega⟩
  obtain ⟨g1, g2, g3, _, _⟩ := okG_parts hg
  simp only [m_narthexlaw14_run, s_Own03 g (by omega), Option.bind_some, s_New, hg, if_true, decide_true, Bool.not_true, ifb_false, hp _ h0 (by rw [e0]; omega), m_narthexlaw14_run_j1]
  refine loop_pp0 l (m_narthexlaw14_run_l1 l p) (fun pre => ((pre.length : Int), runS g pre)) (fun _ _ => some (runS g l, true)) (fun pre a post h => .inl ⟨?_, rfl⟩) ?_
  · have hx := mid_get h
    have hm := mid_len h
    obtain ⟨k1, k2⟩ := inv pre (sceneT g) h0
    rw [e0] at k2
    have k1' : J (runS g pre) := k1
    have k2' : (runS g pre).Mail.length ≤ 128 * pre.length := by unfold runS; omega
    have hI := hJ _ k1'
    have er : runS g (pre ++ [a]) = actT (runS g pre) a := by unfold runS; rw [List.foldl_append]; rfl
    obtain ⟨ak, aa, ab⟩ := a
    obtain ⟨f1, f2⟩ := actA_inv hg hN hI ak aa ab
    have hT := inv [⟨ak, aa, ab⟩] (runS g pre) k1'
    simp only [List.foldl_cons, List.foldl_nil, List.length_singleton] at hT
    have pT : p (actT (runS g pre) ⟨ak, aa, ab⟩) = some true := hp _ hT.1 (by omega)
    dsimp only [m_narthexlaw14_run_l1]
    rw [lt_len hx, ifb_true, at_get hx, Option.bind_some, s_own14 _ (hI.few hg) (by omega), Option.bind_some, s_act14 _ ak aa ab (hI.few hg) (by omega), Option.bind_some, er, len_snoc]
    have ej : ∀ z : Scene, p z = some true → m_narthexlaw14_run_j5 p (pre.length : Int) z = some (.inl (((pre.length + 1 : Nat) : Int), z)) := fun z hz => by
      dsimp only [m_narthexlaw14_run_j5]
      rw [hz, Option.bind_some, wr_succ (by omega)]; rfl
    have e3 : m_narthexlaw14_run_j3 p (pre.length : Int) (runS g pre) ((actA (runS g pre) ak aa ab).2, (actA (runS g pre) ak aa ab).1) = m_narthexlaw14_run_j4 p (pre.length : Int) (runS g pre) (actA (runS g pre) ak aa ab).2 (actA (runS g pre) ak aa ab).1 false := by
      unfold fineE at f1
      dsimp only [m_narthexlaw14_run_j3]
      cases c1 : decide ((actA (runS g pre) ak aa ab).2 = 0) with
      | true => rfl
      | false =>
        cases c2 : decide ((actA (runS g pre) ak aa ab).2 = 134) with
        | true => rfl
        | false =>
          cases c3 : decide ((actA (runS g pre) ak aa ab).2 = 141) with
          | true => rfl
          | false =>
            rw [c1, c2, c3, Bool.false_or, Bool.false_or, Bool.false_or] at f1
            rw [f1]; rfl
    rw [e3]
    dsimp only [m_narthexlaw14_run_j4]
    rw [ifb_false]
    unfold actT at pT ⊢
    dsimp only at pT ⊢
    by_cases hz : (actA (runS g pre) ak aa ab).2 = 0
    · rw [if_pos hz] at pT ⊢
      rw [decide_eq_true hz, ifb_true, ej _ pT]
    · rw [if_neg hz] at pT ⊢
      rw [decide_eq_false hz, ifb_false, ej _ pT]
  · dsimp only [m_narthexlaw14_run_l1]
    rw [nlt_len, ifb_false]; rfl
theorem s_Small (g : Graph) : m_narthexref14_Small g = some (decide (g.N ≤ 10) && okG g) := by
  simp only [m_narthexref14_Small, s_r03Check, Option.bind_some, m_narthexref14_Small_j1]
  cases decide (g.N ≤ 10) <;> rfl
end NX
end Go.Proofs.Ytadebhbiglmodaa
/-
  The function slices.Equal[[]narthex/api.Mail,narthex/api.Mail]: its code compiled, a model, and that the code answers as the model. Written by a program of ours (lb.py). No statement of the seat is proved here.
-/
namespace Go.Proofs.Ytadebhbiglmodaa
namespace NX
open Go
set_option maxRecDepth 100000
set_option maxHeartbeats 4000000
def e106_L0 : EC := .seq (.reg [⟨(some 14), none, .bin .lss (.t 13) (.t 12)⟩]) (.seq (.ite (.t 14) (.skip) (.exit 0)) (.seq (.blk 1 (.seq (.reg [⟨(some 15), none, .mv (.t 13)⟩, ⟨(some 5), none, .mv (.t 15)⟩]) (.seq (.drw [⟨(some 16), none, .mv (.t 0)⟩, ⟨(some 17), none, .mv (.t 5)⟩, ⟨(some 18), none, .idx 5 (.t 16) (.t 17)⟩, ⟨(some 19), none, .loadA 5 (.t 18)⟩, ⟨(some 20), none, .mv (.t 1)⟩, ⟨(some 21), none, .mv (.t 5)⟩, ⟨(some 22), none, .idx 5 (.t 20) (.t 21)⟩, ⟨(some 23), none, .loadA 5 (.t 22)⟩, ⟨(some 24), none, .eqs true [true, true, true, true, true] (.t 19) (.t 23)⟩] [[], [], [0, 1], [2], [], [], [4, 5], [6], [3, 7]] [[2], [2], [0, 1, 3], [2, 8], [6], [6], [4, 5, 7], [6, 8], [3, 7]]) (.ite (.t 24) (.seq (.reg [⟨(some 4), none, .mv (.c .ff)⟩]) (.ret)) (.skip))))) (.reg [⟨(some 25), none, .bin .add (.t 13) (.c (.iv 1))⟩, ⟨(some 13), none, .mv (.t 25)⟩])))
def e106 : EC := .seq (.reg [⟨(some 4), none, .mv (.c .ff)⟩]) (.seq (.seq (.reg [⟨(some 6), none, .mv (.t 0)⟩, ⟨(some 7), none, .len (.t 6)⟩, ⟨(some 8), none, .mv (.t 1)⟩, ⟨(some 9), none, .len (.t 8)⟩, ⟨(some 10), none, .bin .neq (.t 7) (.t 9)⟩]) (.ite (.t 10) (.seq (.reg [⟨(some 4), none, .mv (.c .ff)⟩]) (.ret)) (.skip))) (.seq (.seq (.reg [⟨(some 11), none, .mv (.t 0)⟩, ⟨(some 12), none, .len (.t 11)⟩, ⟨(some 13), none, .mv (.c (.iv 0))⟩]) (.blk 0 (.loop e106_L0))) (.seq (.reg [⟨(some 4), none, .mv (.c .tt)⟩]) (.ret))))
theorem ok106 : FnOK Try.prog 106 Try.f106 e106 [.t 4] 2 24 := ⟨by kernel_rfl, ⟨_, rfl, by kernel_rfl⟩, by kernel_rfl, by kernel_rfl⟩
/- slices.Equal[[]narthex/api.Mail,narthex/api.Mail] -/
noncomputable def m_slices_Equal_Mail_j1  : Unit → Option Bool
| () =>
 some true
noncomputable def m_slices_Equal_Mail_l1 (x1 : (List Mail)) (x2 : (List Mail)) : Int → Option (Int ⊕ Bool)
| x6 =>
 ifb (decide (x6 < (ln Mail.row x1))) (
 (at_ x1 x6).bind fun x7 =>
 (at_ x2 x6).bind fun x8 =>
 ifb (!(decide (x7.From = x8.From) && (decide (x7.To = x8.To) && (decide (x7.Msg.Kind = x8.Msg.Kind) && (decide (x7.Msg.Epoch = x8.Msg.Epoch) && (decide (x7.Msg.Num = x8.Msg.Num) && true)))))) (
 Option.map Sum.inr (some false)) (
 some (.inl (wr (x6 + 1))))) (
 Option.map Sum.inr (m_slices_Equal_Mail_j1 ()))
noncomputable def m_slices_Equal_Mail (x1 : (List Mail)) (x2 : (List Mail)) : Option Bool :=
 ifb (!decide ((ln Mail.row x1) = (ln Mail.row x2))) (
 some false) (
 loop (m_slices_Equal_Mail_l1 x1 x2) 0)
theorem k_slices_Equal_Mail (x1 : (List Mail)) (x2 : (List Mail)) (r : Bool) (h : m_slices_Equal_Mail x1 x2 = some r) : FunP Try.prog 106 [.sl 5 (List.map Mail.row x1), .sl 5 (List.map Mail.row x2)] (.bv r) := by
  refine FunP_intro ok106 rfl rfl fun w0 H0 => ?_
  rw [m_slices_Equal_Mail] at h
  refine V_go 13 ?_; dsimp only [e106, e106_L0, go_sem, Nat.reduceBEq, Nat.reduceAdd]; refine ⟨by simp, ?_⟩; refine M_ite h rfl (fun _ h => ?_) fun _ h => ?_
  ·refine V_go 4 ?_; dsimp only [e106, e106_L0, go_sem, Nat.reduceBEq, Nat.reduceAdd]; refine ⟨by simp, ?_⟩; exact M_done (res := fun (r : Bool) => .bv r) ok106 h
  ·refine V_go 8 ?_; dsimp only [e106, e106_L0, go_sem, Nat.reduceBEq, Nat.reduceAdd]; refine ⟨by simp, ?_⟩; refine V_join (fun (_ : Unit) => (⟨(an 26 []), [], []⟩ : St)) m_slices_Equal_Mail_j1 r ?_ fun J1 => ?_
   ·rintro ⟨⟩ h; rw [m_slices_Equal_Mail_j1] at h; (try dsimp only); refine V_go 4 ?_; dsimp only [e106, e106_L0, go_sem, Nat.reduceBEq, Nat.reduceAdd]; refine ⟨by simp, ?_⟩; exact M_done (res := fun (r : Bool) => .bv r) ok106 h
   ·refine V_go 1 ?_; dsimp only [e106, e106_L0, go_sem, Nat.reduceBEq, Nat.reduceAdd]; refine ⟨by simp, ?_⟩; refine M_loop h (fun (x6 : Int) => (⟨(.sl 5 (List.map Mail.row x1) :: .sl 5 (List.map Mail.row x2) :: an 10 (.iv (ln Mail.row x1) :: .iv x6 :: an 12 [])), [], []⟩ : St)) (by simp [go_sem]) (by intro x6; first | rfl | simp [go_sem]) ?_; rintro n1 x6 y1 h hin1 hout1; rw [m_slices_Equal_Mail_l1] at h; (try dsimp only); refine V_go 5 ?_; dsimp only [e106, e106_L0, go_sem, Nat.reduceBEq, Nat.reduceAdd]; refine ⟨by simp, ?_⟩; refine M_ite h rfl (fun _ h => ?_) fun _ h => ?_
    ·refine V_go 9 ?_; dsimp only [e106, e106_L0, go_sem, Nat.reduceBEq, Nat.reduceAdd]; refine ⟨by simp, ?_⟩; refine V_drw (by kernel_rfl) fun all hall hs hnap haf => ?_; dsimp only [go_sem, Nat.reduceBEq, Nat.reduceAdd]; refine G_goN hall hs haf hnap 4 5 ?_; dsimp only [go_sem, Nat.reduceBEq, Nat.reduceAdd]; refine ⟨by simp, ?_⟩; obtain ⟨x7, ex7, h⟩ := Option.bind_eq_some_iff.1 h; refine G_idxM hall hs haf hnap 2 Mail.row ex7 rfl rfl trivial rfl rfl rfl rfl ?_; refine G_goN hall hs haf hnap 1 3 ?_; dsimp only [go_sem, Nat.reduceBEq, Nat.reduceAdd]; refine ⟨by simp, ?_⟩
     obtain ⟨x8, ex8, h⟩ := Option.bind_eq_some_iff.1 h; refine G_idxM hall hs haf hnap 6 Mail.row ex8 rfl rfl trivial rfl rfl rfl rfl ?_; refine G_goN hall hs haf hnap 2 0 ?_; dsimp only [go_sem, Nat.reduceBEq, Nat.reduceAdd]; refine ⟨by simp, ?_⟩; refine G_done rfl ?_ _; refine M_ite h rfl (fun _ h => ?_) fun _ h => ?_
     ·refine V_go 4 ?_; dsimp only [e106, e106_L0, go_sem, Nat.reduceBEq, Nat.reduceAdd]; refine ⟨by simp, ?_⟩; exact M_done (res := fun (r : Bool) => .bv r) ok106 (M_out h hout1)
     ·refine V_go 6 ?_; dsimp only [e106, e106_L0, go_sem, Nat.reduceBEq, Nat.reduceAdd]; refine ⟨by simp, ?_⟩; exact M_back h hin1
    ·refine V_go 1 ?_; dsimp only [e106, e106_L0, go_sem, Nat.reduceBEq, Nat.reduceAdd]; refine ⟨by simp, ?_⟩; exact M_to J1 (s := ()) (M_out h hout1)
def f_slices_Equal_Mail_j1 (_F : Nat)  : Unit → Option Bool
| () =>
 some true
theorem le_slices_Equal_Mail_j1 {F : Nat} : ∀ s, ole (f_slices_Equal_Mail_j1 F s) (m_slices_Equal_Mail_j1 s) := by
  rintro ⟨⟩
  unfold f_slices_Equal_Mail_j1 m_slices_Equal_Mail_j1
  try dsimp only
  with_reducible repeat' first | exact ole_refl _ | assumption | intro _ | refine ole_ifb ?_ ?_ | refine ole_bind ?_ ?_ | refine ole_map ?_ | refine ole_loop ?_
def f_slices_Equal_Mail_l1 (F : Nat) (x1 : (List Mail)) (x2 : (List Mail)) : Int → Option (Int ⊕ Bool)
| x6 =>
 ifb (decide (x6 < (ln Mail.row x1))) (
 (at_ x1 x6).bind fun x7 =>
 (at_ x2 x6).bind fun x8 =>
 ifb (!(decide (x7.From = x8.From) && (decide (x7.To = x8.To) && (decide (x7.Msg.Kind = x8.Msg.Kind) && (decide (x7.Msg.Epoch = x8.Msg.Epoch) && (decide (x7.Msg.Num = x8.Msg.Num) && true)))))) (
 Option.map Sum.inr (some false)) (
 some (.inl (wr (x6 + 1))))) (
 Option.map Sum.inr (f_slices_Equal_Mail_j1 F ()))
theorem le_slices_Equal_Mail_l1 {F : Nat} {x1 : (List Mail)} {x2 : (List Mail)} : ∀ s, ole (f_slices_Equal_Mail_l1 F x1 x2 s) (m_slices_Equal_Mail_l1 x1 x2 s) := by
  intro x6
  unfold f_slices_Equal_Mail_l1 m_slices_Equal_Mail_l1
  try dsimp only
  with_reducible repeat' first | exact ole_refl _ | assumption | intro _ | refine ole_ifb ?_ ?_ | refine ole_bind ?_ ?_ | refine ole_map ?_ | refine ole_loop ?_ | apply le_slices_Equal_Mail_j1
def f_slices_Equal_Mail (F : Nat) (x1 : (List Mail)) (x2 : (List Mail)) : Option Bool :=
 ifb (!decide ((ln Mail.row x1) = (ln Mail.row x2))) (
 some false) (
 loopF F (f_slices_Equal_Mail_l1 F x1 x2) 0)
theorem le_slices_Equal_Mail {F : Nat} {x1 : (List Mail)} {x2 : (List Mail)} : ole (f_slices_Equal_Mail F x1 x2) (m_slices_Equal_Mail x1 x2) := by
  unfold f_slices_Equal_Mail m_slices_Equal_Mail
  with_reducible repeat' first | exact ole_refl _ | assumption | intro _ | refine ole_ifb ?_ ?_ | refine ole_bind ?_ ?_ | refine ole_map ?_ | refine ole_loop ?_ | apply le_slices_Equal_Mail_j1 | apply le_slices_Equal_Mail_l1
end NX
end Go.Proofs.Ytadebhbiglmodaa
/-
  The function narthex/table.Same: its code compiled, a model, and that the code answers as the model. Written by a program of ours (lb.py). No statement of the seat is proved here.
-/
namespace Go.Proofs.Ytadebhbiglmodaa
namespace NX
open Go
set_option maxRecDepth 100000
set_option maxHeartbeats 4000000
def e72 : EC := .seq (.reg [⟨(some 2), none, .box 43 2 (.t 0)⟩, ⟨(some 3), none, .box 43 2 (.t 1)⟩, ⟨(some 4), none, .mv (.c .ff)⟩]) (.seq (.reg [⟨(some 5), none, .fld 0 (.t 2)⟩, ⟨(some 6), none, .load (.t 5)⟩, ⟨(some 7), none, .fld 0 (.t 3)⟩, ⟨(some 8), none, .load (.t 7)⟩, ⟨(some 9), none, .call 27 [(.t 6), (.t 8)]⟩, ⟨(some 10), none, .mv (.t 9)⟩, ⟨(some 11), (some (10, true)), .fld 1 (.t 2)⟩, ⟨(some 12), (some (10, true)), .load (.t 11)⟩, ⟨(some 13), (some (10, true)), .fld 1 (.t 3)⟩, ⟨(some 14), (some (10, true)), .load (.t 13)⟩, ⟨(some 15), (some (10, true)), .call 106 [(.t 12), (.t 14)]⟩, ⟨(some 16), none, .pick (.t 10) (.t 15) (.c .ff)⟩, ⟨(some 4), none, .mv (.t 16)⟩]) (.ret))
theorem ok72 : FnOK Try.prog 72 Try.f72 e72 [.t 4] 2 15 := ⟨by kernel_rfl, ⟨_, rfl, by kernel_rfl⟩, by kernel_rfl, by kernel_rfl⟩
/- narthex/table.Same -/
noncomputable def m_table_Same_j1  : Bool → Option Bool
| x5 =>
 some x5
noncomputable def m_table_Same (x1 : Scene) (x2 : Scene) : Option Bool :=
 (m_place_Same x1.Diners x2.Diners).bind fun x3 =>
 ifb x3 (
 (m_slices_Equal_Mail x1.Mail x2.Mail).bind fun x4 =>
 m_table_Same_j1 x4) (
 m_table_Same_j1 false)
theorem k_table_Same (x1 : Scene) (x2 : Scene) (r : Bool) (h : m_table_Same x1 x2 = some r) : FunP Try.prog 72 [.agg (Scene.row x1), .agg (Scene.row x2)] (.bv r) := by
  refine FunP_intro ok72 rfl rfl fun w0 H0 => ?_
  rw [m_table_Same] at h
  refine V_go 12 ?_; dsimp only [e72, go_sem, Nat.reduceBEq, Nat.reduceAdd]; refine ⟨by simp, ?_⟩; obtain ⟨x3, ex3, h⟩ := Option.bind_eq_some_iff.1 h; refine V_call trivial (k_place_Same x1.Diners x2.Diners _ ex3) (h := ?_); refine V_go 1 ?_; dsimp only [e72, go_sem, Nat.reduceBEq, Nat.reduceAdd]; refine ⟨by simp, ?_⟩; refine V_join (fun (x5 : Bool) => (⟨(an 4 (.bv x5 :: an 12 [])), [], []⟩ : St)) m_table_Same_j1 r ?_ fun J1 => ?_
  ·intro x5 h; rw [m_table_Same_j1] at h; (try dsimp only); exact M_done (res := fun (r : Bool) => .bv r) ok72 h
  ·refine M_case 10 h rfl (fun _ h => ?_) fun _ h => ?_
   ·dsimp only [go_sem, Nat.reduceBEq, Nat.reduceAdd]; refine V_go 4 ?_; dsimp only [e72, go_sem, Nat.reduceBEq, Nat.reduceAdd]; refine ⟨by simp, ?_⟩; obtain ⟨x4, ex4, h⟩ := Option.bind_eq_some_iff.1 h; refine V_call trivial (k_slices_Equal_Mail x1.Mail x2.Mail _ ex4) (h := ?_); refine V_go 3 ?_; dsimp only [e72, go_sem, Nat.reduceBEq, Nat.reduceAdd]; refine ⟨by simp, ?_⟩; exact M_to J1 (s := x4) h
   ·dsimp only [go_sem, Nat.reduceBEq, Nat.reduceAdd]; refine V_go 8 ?_; dsimp only [e72, go_sem, Nat.reduceBEq, Nat.reduceAdd]; refine ⟨by simp, ?_⟩; exact M_to J1 (s := false) h
def f_table_Same_j1 (_F : Nat)  : Bool → Option Bool
| x5 =>
 some x5
theorem le_table_Same_j1 {F : Nat} : ∀ s, ole (f_table_Same_j1 F s) (m_table_Same_j1 s) := by
  intro x5
  unfold f_table_Same_j1 m_table_Same_j1
  try dsimp only
  with_reducible repeat' first | exact ole_refl _ | assumption | intro _ | refine ole_ifb ?_ ?_ | refine ole_bind ?_ ?_ | refine ole_map ?_ | refine ole_loop ?_
def f_table_Same (F : Nat) (x1 : Scene) (x2 : Scene) : Option Bool :=
 (f_place_Same F x1.Diners x2.Diners).bind fun x3 =>
 ifb x3 (
 (f_slices_Equal_Mail F x1.Mail x2.Mail).bind fun x4 =>
 f_table_Same_j1 F x4) (
 f_table_Same_j1 F false)
theorem le_table_Same {F : Nat} {x1 : Scene} {x2 : Scene} : ole (f_table_Same F x1 x2) (m_table_Same x1 x2) := by
  unfold f_table_Same m_table_Same
  with_reducible repeat' first | exact ole_refl _ | assumption | intro _ | refine ole_ifb ?_ ?_ | refine ole_bind ?_ ?_ | refine ole_map ?_ | refine ole_loop ?_ | apply le_table_Same_j1 | apply le_place_Same | apply le_slices_Equal_Mail
end NX
end Go.Proofs.Ytadebhbiglmodaa
/-
  The function narthex/narthexlaw14.awake: its code compiled, a model, and that the code answers as the model. Written by a program of ours (lb.py). No statement of the seat is proved here.
-/
namespace Go.Proofs.Ytadebhbiglmodaa
namespace NX
open Go
set_option maxRecDepth 100000
set_option maxHeartbeats 4000000
def e35 : EC := .seq (.reg [⟨(some 0), none, .mv (.c .ff)⟩]) (.seq (.reg [⟨(some 16), none, .build [.iv 0, .iv 0] [(0, 1, (.c (.iv 0))), (1, 1, (.c (.iv 1)))]⟩, ⟨(some 17), none, .bsl 58 2 1 [.iv 0, .iv 0] [(0, (.t 16))]⟩, ⟨(some 18), none, .build [.iv 0, .nl] [(0, 1, (.c (.iv 2))), (1, 1, (.t 17))]⟩, ⟨(some 19), none, .call 68 [(.t 18)]⟩, ⟨(some 15), none, .mv (.t 19)⟩, ⟨(some 20), none, .ext (.t 15) 0⟩, ⟨(some 21), none, .ext (.t 15) 1⟩, ⟨(some 1), none, .alloc 43 [.nl, .nl]⟩, ⟨none, none, .store 2 (.t 1) (.t 20)⟩, ⟨(some 2), none, .mv (.t 21)⟩]) (.seq (.seq (.reg [⟨(some 22), none, .mv (.t 2)⟩, ⟨(some 23), none, .bin .neq (.t 22) (.c (.iv 0))⟩, ⟨(some 24), none, .mv (.t 23)⟩, ⟨(some 25), (some (24, false)), .fld 0 (.t 1)⟩, ⟨(some 26), (some (24, false)), .load (.t 25)⟩, ⟨(some 27), (some (24, false)), .len (.t 26)⟩, ⟨(some 28), (some (24, false)), .bin .neq (.t 27) (.c (.iv 2))⟩, ⟨(some 29), none, .pick (.t 24) (.c .tt) (.t 28)⟩]) (.ite (.t 29) (.seq (.reg [⟨(some 0), none, .mv (.c .ff)⟩]) (.ret)) (.skip))) (.seq (.reg [⟨(some 31), none, .fld 0 (.t 1)⟩, ⟨(some 32), none, .load (.t 31)⟩, ⟨(some 33), none, .idx 3 (.t 32) (.c (.iv 0))⟩, ⟨(some 34), none, .loadA 3 (.t 33)⟩, ⟨(some 35), none, .call 24 [(.t 34), (.c (.iv 1))]⟩, ⟨(some 30), none, .mv (.t 35)⟩, ⟨(some 36), none, .ext (.t 30) 0⟩, ⟨(some 37), none, .ext (.t 30) 1⟩, ⟨(some 3), none, .alloc 49 [.iv 0, .iv 0, .iv 0, .ff, .ff, .ff, .ff, .ff]⟩, ⟨none, none, .store 8 (.t 3) (.t 36)⟩, ⟨(some 4), none, .mv (.t 37)⟩]) (.seq (.reg [⟨(some 5), none, .mv (.c (.iv 0))⟩]) (.seq (.seq (.reg [⟨(some 38), none, .fld 3 (.t 3)⟩, ⟨(some 39), none, .load (.t 38)⟩]) (.ite (.t 39) (.reg [⟨(some 5), none, .mv (.c (.iv 1))⟩]) (.skip))) (.seq (.reg [⟨(some 41), none, .loadA 2 (.t 1)⟩, ⟨(some 42), none, .mv (.t 5)⟩, ⟨(some 43), none, .call 69 [(.t 41), (.t 42)]⟩, ⟨(some 40), none, .mv (.t 43)⟩, ⟨(some 44), none, .ext (.t 40) 0⟩, ⟨(some 45), none, .ext (.t 40) 1⟩, ⟨none, none, .store 2 (.t 1) (.t 44)⟩, ⟨(some 6), none, .mv (.t 45)⟩]) (.seq (.reg [⟨(some 47), none, .loadA 2 (.t 1)⟩, ⟨(some 48), none, .mv (.t 5)⟩, ⟨(some 49), none, .mv (.t 5)⟩, ⟨(some 50), none, .bin .sub (.c (.iv 1)) (.t 49)⟩, ⟨(some 51), none, .call 70 [(.t 47), (.t 48), (.t 50)]⟩, ⟨(some 46), none, .mv (.t 51)⟩, ⟨(some 52), none, .ext (.t 46) 0⟩, ⟨(some 53), none, .ext (.t 46) 1⟩, ⟨none, none, .store 2 (.t 1) (.t 52)⟩, ⟨(some 7), none, .mv (.t 53)⟩]) (.seq (.reg [⟨(some 54), none, .loadA 2 (.t 1)⟩, ⟨(some 55), none, .build [.iv 0, .iv 0] [(0, 1, (.c (.iv 0))), (1, 1, (.c (.iv 1)))]⟩, ⟨(some 56), none, .call 39 [(.t 54), (.t 55), (.c (.iv 1))]⟩, ⟨(some 8), none, .mv (.t 56)⟩]) (.seq (.reg [⟨(some 58), none, .loadA 2 (.t 1)⟩, ⟨(some 59), none, .mv (.t 5)⟩, ⟨(some 60), none, .bin .sub (.c (.iv 1)) (.t 59)⟩, ⟨(some 61), none, .mv (.t 5)⟩, ⟨(some 62), none, .call 70 [(.t 58), (.t 60), (.t 61)]⟩, ⟨(some 57), none, .mv (.t 62)⟩, ⟨(some 63), none, .ext (.t 57) 0⟩, ⟨(some 64), none, .ext (.t 57) 1⟩, ⟨none, none, .store 2 (.t 1) (.t 63)⟩, ⟨(some 9), none, .mv (.t 64)⟩]) (.seq (.reg [⟨(some 65), none, .loadA 2 (.t 1)⟩, ⟨(some 66), none, .call 41 [(.t 65), (.c (.iv 2))]⟩, ⟨(some 10), none, .mv (.t 66)⟩]) (.seq (.reg [⟨(some 68), none, .loadA 2 (.t 1)⟩, ⟨(some 69), none, .mv (.t 5)⟩, ⟨(some 70), none, .call 44 [(.t 68), (.t 69)]⟩, ⟨(some 67), none, .mv (.t 70)⟩, ⟨(some 71), none, .ext (.t 67) 0⟩, ⟨(some 72), none, .ext (.t 67) 1⟩, ⟨(some 11), none, .alloc 43 [.nl, .nl]⟩, ⟨none, none, .store 2 (.t 11) (.t 71)⟩, ⟨(some 12), none, .mv (.t 72)⟩]) (.seq (.reg [⟨(some 74), none, .loadA 2 (.t 1)⟩, ⟨(some 75), none, .call 70 [(.t 74), (.c (.iv 0)), (.c (.iv 1))]⟩, ⟨(some 73), none, .mv (.t 75)⟩, ⟨(some 76), none, .ext (.t 73) 0⟩, ⟨(some 77), none, .ext (.t 73) 1⟩, ⟨(some 13), none, .alloc 43 [.nl, .nl]⟩, ⟨none, none, .store 2 (.t 13) (.t 76)⟩, ⟨(some 14), none, .mv (.t 77)⟩]) (.seq (.reg [⟨(some 78), none, .mv (.t 6)⟩, ⟨(some 79), none, .bin .eql (.t 78) (.c (.iv 0))⟩, ⟨(some 80), none, .mv (.t 79)⟩, ⟨(some 81), (some (80, true)), .mv (.t 7)⟩, ⟨(some 82), (some (80, true)), .bin .eql (.t 81) (.c (.iv 0))⟩, ⟨(some 83), none, .pick (.t 80) (.t 82) (.c .ff)⟩, ⟨(some 84), none, .mv (.t 83)⟩, ⟨(some 85), (some (84, true)), .mv (.t 8)⟩, ⟨(some 86), (some (84, true)), .bin .eql (.t 85) (.c (.iv 1))⟩, ⟨(some 87), none, .pick (.t 84) (.t 86) (.c .ff)⟩, ⟨(some 88), none, .mv (.t 87)⟩, ⟨(some 89), (some (88, true)), .mv (.t 9)⟩, ⟨(some 90), (some (88, true)), .bin .eql (.t 89) (.c (.iv 0))⟩, ⟨(some 91), none, .pick (.t 88) (.t 90) (.c .ff)⟩, ⟨(some 92), none, .mv (.t 91)⟩, ⟨(some 93), (some (92, true)), .mv (.t 10)⟩, ⟨(some 94), (some (92, true)), .len (.t 93)⟩, ⟨(some 95), (some (92, true)), .bin .eql (.t 94) (.c (.iv 1))⟩, ⟨(some 96), none, .pick (.t 92) (.t 95) (.c .ff)⟩, ⟨(some 97), none, .mv (.t 96)⟩, ⟨(some 98), (some (97, true)), .mv (.t 10)⟩, ⟨(some 99), (some (97, true)), .idx 1 (.t 98) (.c (.iv 0))⟩, ⟨(some 100), (some (97, true)), .load (.t 99)⟩, ⟨(some 101), (some (97, true)), .mv (.t 5)⟩, ⟨(some 102), (some (97, true)), .bin .eql (.t 100) (.t 101)⟩, ⟨(some 103), none, .pick (.t 97) (.t 102) (.c .ff)⟩, ⟨(some 104), none, .mv (.t 103)⟩, ⟨(some 105), (some (104, true)), .mv (.t 12)⟩, ⟨(some 106), (some (104, true)), .bin .eql (.t 105) (.c (.iv 0))⟩, ⟨(some 107), none, .pick (.t 104) (.t 106) (.c .ff)⟩, ⟨(some 108), none, .mv (.t 107)⟩, ⟨(some 109), (some (108, true)), .mv (.t 14)⟩, ⟨(some 110), (some (108, true)), .bin .eql (.t 109) (.c (.iv 141))⟩, ⟨(some 111), none, .pick (.t 108) (.t 110) (.c .ff)⟩, ⟨(some 112), none, .mv (.t 111)⟩, ⟨(some 113), (some (112, true)), .loadA 2 (.t 1)⟩, ⟨(some 114), (some (112, true)), .call 71 [(.t 113)]⟩, ⟨(some 115), (some (112, true)), .bin .eql (.t 114) (.c (.iv 0))⟩, ⟨(some 116), none, .pick (.t 112) (.t 115) (.c .ff)⟩, ⟨(some 117), none, .mv (.t 116)⟩, ⟨(some 118), (some (117, true)), .loadA 2 (.t 1)⟩, ⟨(some 119), (some (117, true)), .loadA 2 (.t 1)⟩, ⟨(some 120), (some (117, true)), .call 72 [(.t 118), (.t 119)]⟩, ⟨(some 121), none, .pick (.t 117) (.t 120) (.c .ff)⟩, ⟨(some 122), none, .mv (.t 121)⟩, ⟨(some 123), (some (122, true)), .loadA 2 (.t 1)⟩, ⟨(some 124), (some (122, true)), .loadA 2 (.t 11)⟩, ⟨(some 125), (some (122, true)), .call 72 [(.t 123), (.t 124)]⟩, ⟨(some 126), (some (122, true)), .not (.t 125)⟩, ⟨(some 127), none, .pick (.t 122) (.t 126) (.c .ff)⟩, ⟨(some 0), none, .mv (.t 127)⟩]) (.ret))))))))))))))
theorem ok35 : FnOK Try.prog 35 Try.f35 e35 [.t 0] 0 128 := ⟨by kernel_rfl, ⟨_, rfl, by kernel_rfl⟩, by kernel_rfl, by kernel_rfl⟩
/- narthex/narthexlaw14.awake -/
noncomputable def m_narthexlaw14_awake_j3  : Bool → Option Bool
| x17 =>
 some x17
noncomputable def m_narthexlaw14_awake_j2 (x1 : (Scene × Int)) : Int → Option Bool
| x5 =>
 (m_table_Start x1.1 x5).bind fun x6 =>
 (m_table_Deliver x6.1 x5 (wr (1 - x5))).bind fun x7 =>
 (m_table_Count x7.1 ((Edge.mk 0 1)) 1).bind fun x8 =>
 (m_table_Deliver x7.1 (wr (1 - x5)) x5).bind fun x9 =>
 (m_table_Phases x9.1 2).bind fun x10 =>
 (m_table_Stop x9.1 x5).bind fun x11 =>
 (m_table_Deliver x9.1 0 1).bind fun x12 =>
 ifb (decide (x6.2 = 0)) (
 ifb (decide (x7.2 = 0)) (
 ifb (decide (x8 = 1)) (
 ifb (decide (x9.2 = 0)) (
 ifb (decide ((ln intRow x10) = 1)) (
 (at_ x10 0).bind fun x13 =>
 ifb (decide (x13 = x5)) (
 ifb (decide (x11.2 = 0)) (
 ifb (decide (x12.2 = 141)) (
 (m_table_Check x9.1).bind fun x14 =>
 ifb (decide (x14 = 0)) (
 (m_table_Same x9.1 x9.1).bind fun x15 =>
 ifb x15 (
 (m_table_Same x9.1 x11.1).bind fun x16 =>
 m_narthexlaw14_awake_j3 (!x16)) (
 m_narthexlaw14_awake_j3 false)) (
 m_narthexlaw14_awake_j3 false)) (
 m_narthexlaw14_awake_j3 false)) (
 m_narthexlaw14_awake_j3 false)) (
 m_narthexlaw14_awake_j3 false)) (
 m_narthexlaw14_awake_j3 false)) (
 m_narthexlaw14_awake_j3 false)) (
 m_narthexlaw14_awake_j3 false)) (
 m_narthexlaw14_awake_j3 false)) (
 m_narthexlaw14_awake_j3 false)
noncomputable def m_narthexlaw14_awake_j1 (x1 : (Scene × Int)) : Bool → Option Bool
| x2 =>
 ifb x2 (
 some false) (
 (at_ x1.1.Diners 0).bind fun x3 =>
 (m_place_Side x3 1).bind fun x4 =>
 ifb x4.1.Fork (
 (m_narthexlaw14_awake_j2 x1) 1) (
 (m_narthexlaw14_awake_j2 x1) 0))
noncomputable def m_narthexlaw14_awake  : Option Bool :=
 (m_table_New ((Graph.mk 2 ([(Edge.mk 0 1)])))).bind fun x1 =>
 ifb (!decide (x1.2 = 0)) (
 (m_narthexlaw14_awake_j1 x1) true) (
 (m_narthexlaw14_awake_j1 x1) (!decide ((ln Diner.row x1.1.Diners) = 2)))
theorem k_narthexlaw14_awake  (r : Bool) (h : m_narthexlaw14_awake = some r) : FunP Try.prog 35 [] (.bv r) := by
  refine FunP_intro ok35 rfl rfl fun w0 H0 => ?_
  rw [m_narthexlaw14_awake] at h
  refine V_go 9 ?_; dsimp only [e35, go_sem, Nat.reduceBEq, Nat.reduceAdd]; refine ⟨by simp, ?_⟩; refine V_seal 0 rfl ?_; dsimp only [go_sem, Nat.reduceBEq, Nat.reduceAdd]; obtain ⟨x1, ex1, h⟩ := Option.bind_eq_some_iff.1 h; refine V_call trivial (k_table_New ((Graph.mk 2 ([(Edge.mk 0 1)]))) _ ex1) (h := ?_); refine V_go 13 ?_; dsimp only [e35, go_sem, Nat.reduceBEq, Nat.reduceAdd]; refine ⟨by simp, ?_⟩
  refine V_join (fun (x2 : Bool) => (⟨(.any :: .ptr 0 0 :: an 27 (.bv x2 :: an 98 [])), [some ⟨43, [.sl 3 (List.map Diner.row x1.1.Diners), .sl 5 (List.map Mail.row x1.1.Mail)]⟩], []⟩ : St)) (m_narthexlaw14_awake_j1 x1) r ?_ fun J1 => ?_
  ·intro x2 h; rw [m_narthexlaw14_awake_j1] at h; (try dsimp only); refine M_ite h rfl (fun _ h => ?_) fun _ h => ?_
   ·refine V_go 4 ?_; dsimp only [e35, go_sem, Nat.reduceBEq, Nat.reduceAdd]; refine ⟨by simp, ?_⟩; exact M_done (res := fun (r : Bool) => .bv r) ok35 h
   ·refine V_go 5 ?_; dsimp only [e35, go_sem, Nat.reduceBEq, Nat.reduceAdd]; refine ⟨by simp, ?_⟩; obtain ⟨x3, ex3, h⟩ := Option.bind_eq_some_iff.1 h; refine V_idxM Diner.row ex3 trivial rfl rfl rfl ?_; refine V_go 1 ?_; dsimp only [e35, go_sem, Nat.reduceBEq, Nat.reduceAdd]; refine ⟨by simp, ?_⟩; obtain ⟨x4, ex4, h⟩ := Option.bind_eq_some_iff.1 h; refine V_call trivial (k_place_Side x3 1 _ ex4) (h := ?_); refine V_go 17 ?_; dsimp only [e35, go_sem, Nat.reduceBEq, Nat.reduceAdd]; refine ⟨by simp, ?_⟩
    refine V_join (fun (x5 : Int) => (⟨(.any :: .ptr 0 0 :: an 3 (.iv x5 :: an 122 [])), [some ⟨43, [.sl 3 (List.map Diner.row x1.1.Diners), .sl 5 (List.map Mail.row x1.1.Mail)]⟩], []⟩ : St)) (m_narthexlaw14_awake_j2 x1) r ?_ fun J2 => ?_
    ·intro x5 h; rw [m_narthexlaw14_awake_j2] at h; (try dsimp only); refine V_go 4 ?_; dsimp only [e35, go_sem, Nat.reduceBEq, Nat.reduceAdd]; refine ⟨by simp, ?_⟩; obtain ⟨x6, ex6, h⟩ := Option.bind_eq_some_iff.1 h; refine V_call trivial (k_table_Start x1.1 x5 _ ex6) (h := ?_); refine V_go 12 ?_; dsimp only [e35, go_sem, Nat.reduceBEq, Nat.reduceAdd]; refine ⟨by simp, ?_⟩; obtain ⟨x7, ex7, h⟩ := Option.bind_eq_some_iff.1 h; refine V_call trivial (k_table_Deliver x6.1 x5 (wr (1 - x5)) _ ex7) (h := ?_); refine V_go 10 ?_; dsimp only [e35, go_sem, Nat.reduceBEq, Nat.reduceAdd]
     refine ⟨by simp, ?_⟩; obtain ⟨x8, ex8, h⟩ := Option.bind_eq_some_iff.1 h; refine V_call trivial (k_table_Count x7.1 ((Edge.mk 0 1)) 1 _ ex8) (h := ?_); refine V_go 8 ?_; dsimp only [e35, go_sem, Nat.reduceBEq, Nat.reduceAdd]; refine ⟨by simp, ?_⟩; obtain ⟨x9, ex9, h⟩ := Option.bind_eq_some_iff.1 h; refine V_call trivial (k_table_Deliver x7.1 (wr (1 - x5)) x5 _ ex9) (h := ?_); refine V_go 9 ?_; dsimp only [e35, go_sem, Nat.reduceBEq, Nat.reduceAdd]; refine ⟨by simp, ?_⟩; obtain ⟨x10, ex10, h⟩ := Option.bind_eq_some_iff.1 h; refine V_call trivial (k_table_Phases x9.1 2 _ ex10) (h := ?_)
     refine V_go 6 ?_; dsimp only [e35, go_sem, Nat.reduceBEq, Nat.reduceAdd]; refine ⟨by simp, ?_⟩; obtain ⟨x11, ex11, h⟩ := Option.bind_eq_some_iff.1 h; refine V_call trivial (k_table_Stop x9.1 x5 _ ex11) (h := ?_); refine V_go 10 ?_; dsimp only [e35, go_sem, Nat.reduceBEq, Nat.reduceAdd]; refine ⟨by simp, ?_⟩; obtain ⟨x12, ex12, h⟩ := Option.bind_eq_some_iff.1 h; refine V_call trivial (k_table_Deliver x9.1 0 1 _ ex12) (h := ?_); refine V_go 12 ?_; dsimp only [e35, go_sem, Nat.reduceBEq, Nat.reduceAdd]; refine ⟨by simp, ?_⟩
     refine V_join (fun (x17 : Bool) => (⟨(.bv x17 :: an 127 []), [], []⟩ : St)) m_narthexlaw14_awake_j3 r ?_ fun J3 => ?_
     ·intro x17 h; rw [m_narthexlaw14_awake_j3] at h; (try dsimp only); exact M_done (res := fun (r : Bool) => .bv r) ok35 h
     ·refine M_case 80 h rfl (fun _ h => ?_) fun _ h => ?_
      ·dsimp only [go_sem, Nat.reduceBEq, Nat.reduceAdd]; refine V_go 4 ?_; dsimp only [e35, go_sem, Nat.reduceBEq, Nat.reduceAdd]; refine ⟨by simp, ?_⟩; refine M_case 84 h rfl (fun _ h => ?_) fun _ h => ?_
       ·dsimp only [go_sem, Nat.reduceBEq, Nat.reduceAdd]; refine V_go 4 ?_; dsimp only [e35, go_sem, Nat.reduceBEq, Nat.reduceAdd]; refine ⟨by simp, ?_⟩; refine M_case 88 h rfl (fun _ h => ?_) fun _ h => ?_
        ·dsimp only [go_sem, Nat.reduceBEq, Nat.reduceAdd]; refine V_go 4 ?_; dsimp only [e35, go_sem, Nat.reduceBEq, Nat.reduceAdd]; refine ⟨by simp, ?_⟩; refine M_case 92 h rfl (fun _ h => ?_) fun _ h => ?_
         ·dsimp only [go_sem, Nat.reduceBEq, Nat.reduceAdd]; refine V_go 5 ?_; dsimp only [e35, go_sem, Nat.reduceBEq, Nat.reduceAdd]; refine ⟨by simp, ?_⟩; refine M_case 97 h rfl (fun _ h => ?_) fun _ h => ?_
          ·dsimp only [go_sem, Nat.reduceBEq, Nat.reduceAdd]; refine V_go 1 ?_; dsimp only [e35, go_sem, Nat.reduceBEq, Nat.reduceAdd]; refine ⟨by simp, ?_⟩; obtain ⟨x13, ex13, h⟩ := Option.bind_eq_some_iff.1 h; refine V_idxM intRow ex13 trivial rfl rfl rfl ?_; refine V_go 5 ?_; dsimp only [e35, go_sem, Nat.reduceBEq, Nat.reduceAdd]; refine ⟨by simp, ?_⟩; refine M_case 104 h rfl (fun _ h => ?_) fun _ h => ?_
           ·dsimp only [go_sem, Nat.reduceBEq, Nat.reduceAdd]; refine V_go 4 ?_; dsimp only [e35, go_sem, Nat.reduceBEq, Nat.reduceAdd]; refine ⟨by simp, ?_⟩; refine M_case 108 h rfl (fun _ h => ?_) fun _ h => ?_
            ·dsimp only [go_sem, Nat.reduceBEq, Nat.reduceAdd]; refine V_go 4 ?_; dsimp only [e35, go_sem, Nat.reduceBEq, Nat.reduceAdd]; refine ⟨by simp, ?_⟩; refine M_case 112 h rfl (fun _ h => ?_) fun _ h => ?_
             ·dsimp only [go_sem, Nat.reduceBEq, Nat.reduceAdd]; refine V_go 1 ?_; dsimp only [e35, go_sem, Nat.reduceBEq, Nat.reduceAdd]; refine ⟨by simp, ?_⟩; obtain ⟨x14, ex14, h⟩ := Option.bind_eq_some_iff.1 h; refine V_call trivial (k_table_Check x9.1 _ ex14) (h := ?_); refine V_go 3 ?_; dsimp only [e35, go_sem, Nat.reduceBEq, Nat.reduceAdd]; refine ⟨by simp, ?_⟩; refine M_case 117 h rfl (fun _ h => ?_) fun _ h => ?_
              ·dsimp only [go_sem, Nat.reduceBEq, Nat.reduceAdd]; refine V_go 2 ?_; dsimp only [e35, go_sem, Nat.reduceBEq, Nat.reduceAdd]; refine ⟨by simp, ?_⟩; obtain ⟨x15, ex15, h⟩ := Option.bind_eq_some_iff.1 h; refine V_call trivial (k_table_Same x9.1 x9.1 _ ex15) (h := ?_); refine V_go 2 ?_; dsimp only [e35, go_sem, Nat.reduceBEq, Nat.reduceAdd]; refine ⟨by simp, ?_⟩; refine M_case 122 h rfl (fun _ h => ?_) fun _ h => ?_
               ·dsimp only [go_sem, Nat.reduceBEq, Nat.reduceAdd]; refine V_go 2 ?_; dsimp only [e35, go_sem, Nat.reduceBEq, Nat.reduceAdd]; refine ⟨by simp, ?_⟩; obtain ⟨x16, ex16, h⟩ := Option.bind_eq_some_iff.1 h; refine V_call trivial (k_table_Same x9.1 x11.1 _ ex16) (h := ?_); refine V_go 4 ?_; dsimp only [e35, go_sem, Nat.reduceBEq, Nat.reduceAdd]; refine ⟨by simp, ?_⟩; exact M_to J3 (s := !x16) h
               ·dsimp only [go_sem, Nat.reduceBEq, Nat.reduceAdd]; refine V_go 7 ?_; dsimp only [e35, go_sem, Nat.reduceBEq, Nat.reduceAdd]; refine ⟨by simp, ?_⟩; exact M_to J3 (s := false) h
              ·dsimp only [go_sem, Nat.reduceBEq, Nat.reduceAdd]; refine V_go 12 ?_; dsimp only [e35, go_sem, Nat.reduceBEq, Nat.reduceAdd]; refine ⟨by simp, ?_⟩; exact M_to J3 (s := false) h
             ·dsimp only [go_sem, Nat.reduceBEq, Nat.reduceAdd]; refine V_go 17 ?_; dsimp only [e35, go_sem, Nat.reduceBEq, Nat.reduceAdd]; refine ⟨by simp, ?_⟩; exact M_to J3 (s := false) h
            ·dsimp only [go_sem, Nat.reduceBEq, Nat.reduceAdd]; refine V_go 21 ?_; dsimp only [e35, go_sem, Nat.reduceBEq, Nat.reduceAdd]; refine ⟨by simp, ?_⟩; exact M_to J3 (s := false) h
           ·dsimp only [go_sem, Nat.reduceBEq, Nat.reduceAdd]; refine V_go 25 ?_; dsimp only [e35, go_sem, Nat.reduceBEq, Nat.reduceAdd]; refine ⟨by simp, ?_⟩; exact M_to J3 (s := false) h
          ·dsimp only [go_sem, Nat.reduceBEq, Nat.reduceAdd]; refine V_go 32 ?_; dsimp only [e35, go_sem, Nat.reduceBEq, Nat.reduceAdd]; refine ⟨by simp, ?_⟩; exact M_to J3 (s := false) h
         ·dsimp only [go_sem, Nat.reduceBEq, Nat.reduceAdd]; refine V_go 37 ?_; dsimp only [e35, go_sem, Nat.reduceBEq, Nat.reduceAdd]; refine ⟨by simp, ?_⟩; exact M_to J3 (s := false) h
        ·dsimp only [go_sem, Nat.reduceBEq, Nat.reduceAdd]; refine V_go 41 ?_; dsimp only [e35, go_sem, Nat.reduceBEq, Nat.reduceAdd]; refine ⟨by simp, ?_⟩; exact M_to J3 (s := false) h
       ·dsimp only [go_sem, Nat.reduceBEq, Nat.reduceAdd]; refine V_go 45 ?_; dsimp only [e35, go_sem, Nat.reduceBEq, Nat.reduceAdd]; refine ⟨by simp, ?_⟩; exact M_to J3 (s := false) h
      ·dsimp only [go_sem, Nat.reduceBEq, Nat.reduceAdd]; refine V_go 49 ?_; dsimp only [e35, go_sem, Nat.reduceBEq, Nat.reduceAdd]; refine ⟨by simp, ?_⟩; exact M_to J3 (s := false) h
    ·refine M_ite h rfl (fun _ h => ?_) fun _ h => ?_
     ·refine V_go 3 ?_; dsimp only [e35, go_sem, Nat.reduceBEq, Nat.reduceAdd]; refine ⟨by simp, ?_⟩; exact M_to J2 (s := 1) h
     ·refine V_go 1 ?_; dsimp only [e35, go_sem, Nat.reduceBEq, Nat.reduceAdd]; refine ⟨by simp, ?_⟩; exact M_to J2 (s := 0) h
  ·refine M_case 24 h rfl (fun _ h => ?_) fun _ h => ?_
   ·dsimp only [go_sem, Nat.reduceBEq, Nat.reduceAdd]; refine V_go 6 ?_; dsimp only [e35, go_sem, Nat.reduceBEq, Nat.reduceAdd]; refine ⟨by simp, ?_⟩; exact M_to J1 (s := true) h
   ·dsimp only [go_sem, Nat.reduceBEq, Nat.reduceAdd]; refine V_go 6 ?_; dsimp only [e35, go_sem, Nat.reduceBEq, Nat.reduceAdd]; refine ⟨by simp, ?_⟩; exact M_to J1 (s := !decide ((ln Diner.row x1.1.Diners) = 2)) h
def f_narthexlaw14_awake_j3 (_F : Nat)  : Bool → Option Bool
| x17 =>
 some x17
theorem le_narthexlaw14_awake_j3 {F : Nat} : ∀ s, ole (f_narthexlaw14_awake_j3 F s) (m_narthexlaw14_awake_j3 s) := by
  intro x17
  unfold f_narthexlaw14_awake_j3 m_narthexlaw14_awake_j3
  try dsimp only
  with_reducible repeat' first | exact ole_refl _ | assumption | intro _ | refine ole_ifb ?_ ?_ | refine ole_bind ?_ ?_ | refine ole_map ?_ | refine ole_loop ?_
def f_narthexlaw14_awake_j2 (F : Nat) (x1 : (Scene × Int)) : Int → Option Bool
| x5 =>
 (f_table_Start F x1.1 x5).bind fun x6 =>
 (f_table_Deliver F x6.1 x5 (wr (1 - x5))).bind fun x7 =>
 (f_table_Count F x7.1 ((Edge.mk 0 1)) 1).bind fun x8 =>
 (f_table_Deliver F x7.1 (wr (1 - x5)) x5).bind fun x9 =>
 (f_table_Phases F x9.1 2).bind fun x10 =>
 (f_table_Stop F x9.1 x5).bind fun x11 =>
 (f_table_Deliver F x9.1 0 1).bind fun x12 =>
 ifb (decide (x6.2 = 0)) (
 ifb (decide (x7.2 = 0)) (
 ifb (decide (x8 = 1)) (
 ifb (decide (x9.2 = 0)) (
 ifb (decide ((ln intRow x10) = 1)) (
 (at_ x10 0).bind fun x13 =>
 ifb (decide (x13 = x5)) (
 ifb (decide (x11.2 = 0)) (
 ifb (decide (x12.2 = 141)) (
 (f_table_Check F x9.1).bind fun x14 =>
 ifb (decide (x14 = 0)) (
 (f_table_Same F x9.1 x9.1).bind fun x15 =>
 ifb x15 (
 (f_table_Same F x9.1 x11.1).bind fun x16 =>
 f_narthexlaw14_awake_j3 F (!x16)) (
 f_narthexlaw14_awake_j3 F false)) (
 f_narthexlaw14_awake_j3 F false)) (
 f_narthexlaw14_awake_j3 F false)) (
 f_narthexlaw14_awake_j3 F false)) (
 f_narthexlaw14_awake_j3 F false)) (
 f_narthexlaw14_awake_j3 F false)) (
 f_narthexlaw14_awake_j3 F false)) (
 f_narthexlaw14_awake_j3 F false)) (
 f_narthexlaw14_awake_j3 F false)) (
 f_narthexlaw14_awake_j3 F false)
theorem le_narthexlaw14_awake_j2 {F : Nat} {x1 : (Scene × Int)} : ∀ s, ole (f_narthexlaw14_awake_j2 F x1 s) (m_narthexlaw14_awake_j2 x1 s) := by
  intro x5
  unfold f_narthexlaw14_awake_j2 m_narthexlaw14_awake_j2
  try dsimp only
  with_reducible repeat' first | exact ole_refl _ | assumption | intro _ | refine ole_ifb ?_ ?_ | refine ole_bind ?_ ?_ | refine ole_map ?_ | refine ole_loop ?_ | apply le_narthexlaw14_awake_j3 | apply le_table_Start | apply le_table_Deliver | apply le_table_Count | apply le_table_Phases | apply le_table_Stop | apply le_table_Check | apply le_table_Same
def f_narthexlaw14_awake_j1 (F : Nat) (x1 : (Scene × Int)) : Bool → Option Bool
| x2 =>
 ifb x2 (
 some false) (
 (at_ x1.1.Diners 0).bind fun x3 =>
 (f_place_Side F x3 1).bind fun x4 =>
 ifb x4.1.Fork (
 (f_narthexlaw14_awake_j2 F x1) 1) (
 (f_narthexlaw14_awake_j2 F x1) 0))
theorem le_narthexlaw14_awake_j1 {F : Nat} {x1 : (Scene × Int)} : ∀ s, ole (f_narthexlaw14_awake_j1 F x1 s) (m_narthexlaw14_awake_j1 x1 s) := by
  intro x2
  unfold f_narthexlaw14_awake_j1 m_narthexlaw14_awake_j1
  try dsimp only
  with_reducible repeat' first | exact ole_refl _ | assumption | intro _ | refine ole_ifb ?_ ?_ | refine ole_bind ?_ ?_ | refine ole_map ?_ | refine ole_loop ?_ | apply le_narthexlaw14_awake_j3 | apply le_table_Start | apply le_table_Deliver | apply le_table_Count | apply le_table_Phases | apply le_table_Stop | apply le_table_Check | apply le_table_Same | apply le_narthexlaw14_awake_j2 | apply le_place_Side
def f_narthexlaw14_awake (F : Nat)  : Option Bool :=
 (f_table_New F ((Graph.mk 2 ([(Edge.mk 0 1)])))).bind fun x1 =>
 ifb (!decide (x1.2 = 0)) (
 (f_narthexlaw14_awake_j1 F x1) true) (
 (f_narthexlaw14_awake_j1 F x1) (!decide ((ln Diner.row x1.1.Diners) = 2)))
theorem le_narthexlaw14_awake {F : Nat} : ole (f_narthexlaw14_awake F) (m_narthexlaw14_awake) := by
  unfold f_narthexlaw14_awake m_narthexlaw14_awake
  with_reducible repeat' first | exact ole_refl _ | assumption | intro _ | refine ole_ifb ?_ ?_ | refine ole_bind ?_ ?_ | refine ole_map ?_ | refine ole_loop ?_ | apply le_narthexlaw14_awake_j3 | apply le_table_Start | apply le_table_Deliver | apply le_table_Count | apply le_table_Phases | apply le_table_Stop | apply le_table_Check | apply le_table_Same | apply le_narthexlaw14_awake_j2 | apply le_place_Side | apply le_narthexlaw14_awake_j1 | apply le_table_New
end NX
end Go.Proofs.Ytadebhbiglmodaa
/-
  The anchor of layer 14: its model answers true. No statement of the seat is proved here.
-/
namespace Go.Proofs.Ytadebhbiglmodaa
namespace NX
open Go
theorem s_awake14 : m_narthexlaw14_awake = some true := le_narthexlaw14_awake.h _ (by kernel_rfl : f_narthexlaw14_awake 50 = some true)
end NX
end Go.Proofs.Ytadebhbiglmodaa
/-
  The function narthex/narthexlaw14.TableOne$1: its code compiled, a model, and that the code answers as the model. Written by a program of ours (lb.py). No statement of the seat is proved here.
-/
namespace Go.Proofs.Ytadebhbiglmodaa
namespace NX
open Go
set_option maxRecDepth 100000
set_option maxHeartbeats 4000000
def e38_L0 : EC := .seq (.seq (.reg [⟨(some 7), none, .mv (.t 4)⟩, ⟨(some 8), none, .fld 1 (.t 1)⟩, ⟨(some 9), none, .load (.t 8)⟩, ⟨(some 10), none, .len (.t 9)⟩, ⟨(some 11), none, .bin .lss (.t 7) (.t 10)⟩]) (.ite (.t 11) (.skip) (.exit 0))) (.seq (.blk 1 (.seq (.drw [⟨(some 14), none, .loadA 2 (.t 2)⟩, ⟨(some 15), none, .fld 1 (.t 1)⟩, ⟨(some 16), none, .load (.t 15)⟩, ⟨(some 17), none, .mv (.t 4)⟩, ⟨(some 18), none, .idx 2 (.t 16) (.t 17)⟩, ⟨(some 19), none, .loadA 2 (.t 18)⟩, ⟨(some 20), none, .call 39 [(.t 14), (.t 19), (.c (.iv 1))]⟩, ⟨(some 21), none, .bin .neq (.t 20) (.c (.iv 1))⟩, ⟨(some 22), none, .mv (.t 21)⟩, ⟨(some 23), (some (22, false)), .loadA 2 (.t 2)⟩, ⟨(some 24), (some (22, false)), .fld 1 (.t 1)⟩, ⟨(some 25), (some (22, false)), .load (.t 24)⟩, ⟨(some 26), (some (22, false)), .mv (.t 4)⟩, ⟨(some 27), (some (22, false)), .idx 2 (.t 25) (.t 26)⟩, ⟨(some 28), (some (22, false)), .loadA 2 (.t 27)⟩, ⟨(some 29), (some (22, false)), .call 39 [(.t 23), (.t 28), (.c (.iv 2))]⟩, ⟨(some 30), (some (22, false)), .bin .neq (.t 29) (.c (.iv 1))⟩, ⟨(some 31), none, .pick (.t 22) (.c .tt) (.t 30)⟩] [[], [], [1], [], [2, 3], [4], [0, 5], [6], [7, 6], [8], [8], [10, 8], [8], [11, 12, 8], [13, 8], [9, 14, 8, 8], [15, 8], [8, 16]] [[6], [2], [1, 4], [4], [2, 3, 5], [4, 6], [0, 5, 7], [6, 8], [7, 9, 10, 11, 12, 13, 14, 15, 16, 17], [8, 15], [8, 11], [8, 10, 13], [8, 13], [8, 11, 12, 14], [8, 13, 15], [8, 9, 14, 16], [8, 15, 17], [8, 16]]) (.ite (.t 31) (.seq (.reg [⟨(some 3), none, .mv (.c .ff)⟩]) (.ret)) (.skip)))) (.reg [⟨(some 12), none, .mv (.t 4)⟩, ⟨(some 13), none, .bin .add (.t 12) (.c (.iv 1))⟩, ⟨(some 4), none, .mv (.t 13)⟩]))
def e38 : EC := .seq (.reg [⟨(some 2), none, .box 43 2 (.t 0)⟩, ⟨(some 3), none, .mv (.c .ff)⟩]) (.seq (.seq (.reg [⟨(some 4), none, .mv (.c (.iv 0))⟩]) (.blk 0 (.loop e38_L0))) (.seq (.reg [⟨(some 33), none, .fld 0 (.t 2)⟩, ⟨(some 34), none, .load (.t 33)⟩, ⟨(some 35), none, .call 21 [(.t 34)]⟩, ⟨(some 32), none, .mv (.t 35)⟩, ⟨(some 36), none, .ext (.t 32) 0⟩, ⟨(some 37), none, .ext (.t 32) 1⟩, ⟨(some 5), none, .alloc 24 [.iv 0, .nl]⟩, ⟨none, none, .store 2 (.t 5) (.t 36)⟩, ⟨(some 6), none, .mv (.t 37)⟩]) (.seq (.reg [⟨(some 38), none, .mv (.t 6)⟩, ⟨(some 39), none, .mv (.t 38)⟩, ⟨(some 40), (some (39, true)), .loadA 2 (.t 1)⟩, ⟨(some 41), (some (39, true)), .loadA 2 (.t 5)⟩, ⟨(some 42), (some (39, true)), .call 26 [(.t 40), (.t 41)]⟩, ⟨(some 43), none, .pick (.t 39) (.t 42) (.c .ff)⟩, ⟨(some 3), none, .mv (.t 43)⟩]) (.ret))))
theorem ok38 : FnOK Try.prog 38 Try.f38 e38 [.t 3] 2 42 := ⟨by kernel_rfl, ⟨_, rfl, by kernel_rfl⟩, by kernel_rfl, by kernel_rfl⟩
/- narthex/narthexlaw14.TableOne$1 -/
noncomputable def m_narthexlaw14_TableOne_1_j3  : Bool → Option Bool
| x21 =>
 some x21
noncomputable def m_narthexlaw14_TableOne_1_j1 (x1 : Scene) (x2 : Graph) : Unit → Option Bool
| () =>
 (m_place_Graph x1.Diners).bind fun x19 =>
 ifb x19.2 (
 (m_narthexref03_Same x2 x19.1).bind fun x20 =>
 m_narthexlaw14_TableOne_1_j3 x20) (
 m_narthexlaw14_TableOne_1_j3 false)
noncomputable def m_narthexlaw14_TableOne_1_j2 (x9 : Int) : Bool → Option (Int ⊕ Bool)
| x14 =>
 ifb x14 (
 Option.map Sum.inr (some false)) (
 some (.inl (wr (x9 + 1))))
noncomputable def m_narthexlaw14_TableOne_1_l1 (x1 : Scene) (x2 : Graph) : Int → Option (Int ⊕ Bool)
| x9 =>
 ifb (decide (x9 < (ln Edge.row x2.Edges))) (
 (at_ x2.Edges x9).bind fun x10 =>
 (m_table_Count x1 x10 1).bind fun x11 =>
 ifb (!decide (x11 = 1)) (
 (m_narthexlaw14_TableOne_1_j2 x9) true) (
 (at_ x2.Edges x9).bind fun x12 =>
 (m_table_Count x1 x12 2).bind fun x13 =>
 (m_narthexlaw14_TableOne_1_j2 x9) (!decide (x13 = 1)))) (
 Option.map Sum.inr ((m_narthexlaw14_TableOne_1_j1 x1 x2) ()))
noncomputable def m_narthexlaw14_TableOne_1 (x1 : Scene) (x2 : Graph) : Option Bool :=
 loop (m_narthexlaw14_TableOne_1_l1 x1 x2) 0
theorem k_narthexlaw14_TableOne_1 (x1 : Scene) (x2 : Graph) (r : Bool) (h : m_narthexlaw14_TableOne_1 x1 x2 = some r) : FunP Try.prog 38 [.agg (Scene.row x1), .elt (Graph.row x2) 0] (.bv r) := by
  refine FunP_intro ok38 rfl rfl fun w0 H0 => ?_
  rw [m_narthexlaw14_TableOne_1] at h
  refine V_go 10 ?_; dsimp only [e38, e38_L0, go_sem, Nat.reduceBEq, Nat.reduceAdd]; refine ⟨by simp, ?_⟩; refine V_join (fun (_ : Unit) => (⟨(.any :: .elt [.iv x2.N, .sl 2 (List.map Edge.row x2.Edges)] 0 :: .ptr 0 0 :: an 41 []), [some ⟨43, [.sl 3 (List.map Diner.row x1.Diners), .sl 5 (List.map Mail.row x1.Mail)]⟩], []⟩ : St)) (m_narthexlaw14_TableOne_1_j1 x1 x2) r ?_ fun J1 => ?_
  ·rintro ⟨⟩ h; rw [m_narthexlaw14_TableOne_1_j1] at h; (try dsimp only); refine V_go 4 ?_; dsimp only [e38, e38_L0, go_sem, Nat.reduceBEq, Nat.reduceAdd]; refine ⟨by simp, ?_⟩; obtain ⟨x19, ex19, h⟩ := Option.bind_eq_some_iff.1 h; refine V_call trivial (k_place_Graph x1.Diners _ ex19) (h := ?_); refine V_go 11 ?_; dsimp only [e38, e38_L0, go_sem, Nat.reduceBEq, Nat.reduceAdd]; refine ⟨by simp, ?_⟩; refine V_join (fun (x21 : Bool) => (⟨(an 3 (.bv x21 :: an 40 [])), [], []⟩ : St)) m_narthexlaw14_TableOne_1_j3 r ?_ fun J3 => ?_
   ·intro x21 h; rw [m_narthexlaw14_TableOne_1_j3] at h; (try dsimp only); exact M_done (res := fun (r : Bool) => .bv r) ok38 h
   ·refine M_case 39 h rfl (fun _ h => ?_) fun _ h => ?_
    ·dsimp only [go_sem, Nat.reduceBEq, Nat.reduceAdd]; refine V_go 2 ?_; dsimp only [e38, e38_L0, go_sem, Nat.reduceBEq, Nat.reduceAdd]; refine ⟨by simp, ?_⟩; obtain ⟨x20, ex20, h⟩ := Option.bind_eq_some_iff.1 h; refine V_call trivial (k_narthexref03_Same x2 x19.1 _ ex20) (h := ?_); refine V_go 3 ?_; dsimp only [e38, e38_L0, go_sem, Nat.reduceBEq, Nat.reduceAdd]; refine ⟨by simp, ?_⟩; exact M_to J3 (s := x20) h
    ·dsimp only [go_sem, Nat.reduceBEq, Nat.reduceAdd]; refine V_go 6 ?_; dsimp only [e38, e38_L0, go_sem, Nat.reduceBEq, Nat.reduceAdd]; refine ⟨by simp, ?_⟩; exact M_to J3 (s := false) h
  ·refine V_go 1 ?_; dsimp only [e38, e38_L0, go_sem, Nat.reduceBEq, Nat.reduceAdd]; refine ⟨by simp, ?_⟩; refine M_loop h (fun (x9 : Int) => (⟨(.any :: .elt [.iv x2.N, .sl 2 (List.map Edge.row x2.Edges)] 0 :: .ptr 0 0 :: .any :: .iv x9 :: an 39 []), [some ⟨43, [.sl 3 (List.map Diner.row x1.Diners), .sl 5 (List.map Mail.row x1.Mail)]⟩], []⟩ : St)) (by simp [go_sem]) (by intro x9; first | rfl | simp [go_sem]) ?_; rintro n1 x9 y1 h hin1 hout1; rw [m_narthexlaw14_TableOne_1_l1] at h; (try dsimp only); refine V_go 9 ?_; dsimp only [e38, e38_L0, go_sem, Nat.reduceBEq, Nat.reduceAdd]
   refine ⟨by simp, ?_⟩; refine M_ite h rfl (fun _ h => ?_) fun _ h => ?_
   ·refine V_go 4 ?_; dsimp only [e38, e38_L0, go_sem, Nat.reduceBEq, Nat.reduceAdd]; refine ⟨by simp, ?_⟩; refine V_join (fun (x14 : Bool) => (⟨(.any :: .elt [.iv x2.N, .sl 2 (List.map Edge.row x2.Edges)] 0 :: .ptr 0 0 :: .any :: .iv x9 :: an 26 (.bv x14 :: an 12 [])), [some ⟨43, [.sl 3 (List.map Diner.row x1.Diners), .sl 5 (List.map Mail.row x1.Mail)]⟩], []⟩ : St)) (m_narthexlaw14_TableOne_1_j2 x9) y1 ?_ fun J2 => ?_
    ·intro x14 h; rw [m_narthexlaw14_TableOne_1_j2] at h; (try dsimp only); refine M_ite h rfl (fun _ h => ?_) fun _ h => ?_
     ·refine V_go 4 ?_; dsimp only [e38, e38_L0, go_sem, Nat.reduceBEq, Nat.reduceAdd]; refine ⟨by simp, ?_⟩; exact M_done (res := fun (r : Bool) => .bv r) ok38 (M_out h hout1)
     ·refine V_go 7 ?_; dsimp only [e38, e38_L0, go_sem, Nat.reduceBEq, Nat.reduceAdd]; refine ⟨by simp, ?_⟩; exact M_back h hin1
    ·refine V_drw (by kernel_rfl) fun all hall hs hnap haf => ?_; dsimp only [go_sem, Nat.reduceBEq, Nat.reduceAdd]
     refine G_goE hall hs haf hnap 4 14 [true, true, true, true, false, false, false, false, false, false, false, false, false, false, false, false, false, false] (⟨(.any :: .elt [.iv x2.N, .sl 2 (List.map Edge.row x2.Edges)] 0 :: .ptr 0 0 :: .any :: .iv x9 :: .any :: .any :: .iv x9 :: .elt [.iv x2.N, .sl 2 (List.map Edge.row x2.Edges)] 1 :: .sl 2 (List.map Edge.row x2.Edges) :: .iv (ln Edge.row x2.Edges) :: .bv (decide (x9 < (ln Edge.row x2.Edges))) :: .any :: .any :: .agg [.sl 3 (List.map Diner.row x1.Diners), .sl 5 (List.map Mail.row x1.Mail)] :: .elt [.iv x2.N, .sl 2 (List.map Edge.row x2.Edges)] 1 :: .sl 2 (List.map Edge.row x2.Edges) :: .iv x9 :: an 26 []), [some ⟨43, [.sl 3 (List.map Diner.row x1.Diners), .sl 5 (List.map Mail.row x1.Mail)]⟩], []⟩ : St) (by kernel_rfl) ?_
     obtain ⟨x10, ex10, h⟩ := Option.bind_eq_some_iff.1 h; refine G_idxM hall hs haf hnap 4 Edge.row ex10 rfl rfl trivial rfl rfl rfl rfl ?_; refine G_goN hall hs haf hnap 1 12 ?_; dsimp only [go_sem, Nat.reduceBEq, Nat.reduceAdd]; refine ⟨by simp, ?_⟩; refine G_one 6 rfl ?_; obtain ⟨x11, ex11, h⟩ := Option.bind_eq_some_iff.1 h; refine GO_call hall rfl trivial (k_table_Count x1 x10 1 _ ex11) (h := ?_); dsimp only [go_sem, Nat.reduceBEq, Nat.reduceAdd]; refine G_goN hall hs haf hnap 2 9 ?_; dsimp only [go_sem, Nat.reduceBEq, Nat.reduceAdd]; refine ⟨by simp, ?_⟩
     refine GM_case 22 h rfl (fun _ h => ?_) fun _ h => ?_
     ·dsimp only [go_sem, Nat.reduceBEq, Nat.reduceAdd]
      refine G_goE hall hs haf hnap 9 0 [true, true, true, true, true, true, true, true, true, true, true, true, true, true, true, true, true, true] (⟨(.any :: .elt [.iv x2.N, .sl 2 (List.map Edge.row x2.Edges)] 0 :: .ptr 0 0 :: .any :: .iv x9 :: .any :: .any :: .iv x9 :: .elt [.iv x2.N, .sl 2 (List.map Edge.row x2.Edges)] 1 :: .sl 2 (List.map Edge.row x2.Edges) :: .iv (ln Edge.row x2.Edges) :: .bv (decide (x9 < (ln Edge.row x2.Edges))) :: .any :: .any :: .agg [.sl 3 (List.map Diner.row x1.Diners), .sl 5 (List.map Mail.row x1.Mail)] :: .elt [.iv x2.N, .sl 2 (List.map Edge.row x2.Edges)] 1 :: .sl 2 (List.map Edge.row x2.Edges) :: .iv x9 :: .elt [.iv x10.A, .iv x10.B] 0 :: .agg [.iv x10.A, .iv x10.B] :: .iv x11 :: .bv (!decide (x11 = 1)) :: .tt :: .un :: .un :: .un :: .un :: .un :: .un :: .un :: .un :: .tt :: an 12 []), [some ⟨43, [.sl 3 (List.map Diner.row x1.Diners), .sl 5 (List.map Mail.row x1.Mail)]⟩], []⟩ : St) (by kernel_rfl) ?_
      refine G_done rfl ?_ _; exact M_to J2 (s := true) h
     ·dsimp only [go_sem, Nat.reduceBEq, Nat.reduceAdd]
      refine G_goE hall hs haf hnap 4 5 [true, true, true, true, true, true, true, true, true, true, true, true, true, false, false, false, false, false] (⟨(.any :: .elt [.iv x2.N, .sl 2 (List.map Edge.row x2.Edges)] 0 :: .ptr 0 0 :: .any :: .iv x9 :: .any :: .any :: .iv x9 :: .elt [.iv x2.N, .sl 2 (List.map Edge.row x2.Edges)] 1 :: .sl 2 (List.map Edge.row x2.Edges) :: .iv (ln Edge.row x2.Edges) :: .bv (decide (x9 < (ln Edge.row x2.Edges))) :: .any :: .any :: .agg [.sl 3 (List.map Diner.row x1.Diners), .sl 5 (List.map Mail.row x1.Mail)] :: .elt [.iv x2.N, .sl 2 (List.map Edge.row x2.Edges)] 1 :: .sl 2 (List.map Edge.row x2.Edges) :: .iv x9 :: .elt [.iv x10.A, .iv x10.B] 0 :: .agg [.iv x10.A, .iv x10.B] :: .iv x11 :: .bv (!decide (x11 = 1)) :: .ff :: .agg [.sl 3 (List.map Diner.row x1.Diners), .sl 5 (List.map Mail.row x1.Mail)] :: .elt [.iv x2.N, .sl 2 (List.map Edge.row x2.Edges)] 1 :: .sl 2 (List.map Edge.row x2.Edges) :: .iv x9 :: an 17 []), [some ⟨43, [.sl 3 (List.map Diner.row x1.Diners), .sl 5 (List.map Mail.row x1.Mail)]⟩], []⟩ : St) (by kernel_rfl) ?_
      obtain ⟨x12, ex12, h⟩ := Option.bind_eq_some_iff.1 h; refine G_idxM hall hs haf hnap 13 Edge.row ex12 rfl rfl trivial rfl rfl rfl rfl ?_; refine G_goN hall hs haf hnap 1 3 ?_; dsimp only [go_sem, Nat.reduceBEq, Nat.reduceAdd]; refine ⟨by simp, ?_⟩; refine G_one 15 rfl ?_; obtain ⟨x13, ex13, h⟩ := Option.bind_eq_some_iff.1 h; refine GO_call hall rfl trivial (k_table_Count x1 x12 2 _ ex13) (h := ?_); dsimp only [go_sem, Nat.reduceBEq, Nat.reduceAdd]; refine G_goN hall hs haf hnap 2 0 ?_; dsimp only [go_sem, Nat.reduceBEq, Nat.reduceAdd]; refine ⟨by simp, ?_⟩; refine G_done rfl ?_ _
      exact M_to J2 (s := !decide (x13 = 1)) h
   ·refine V_go 1 ?_; dsimp only [e38, e38_L0, go_sem, Nat.reduceBEq, Nat.reduceAdd]; refine ⟨by simp, ?_⟩; exact M_to J1 (s := ()) (M_out h hout1)
end NX
end Go.Proofs.Ytadebhbiglmodaa
/-
  The function narthex/narthexlaw14.TableOne: its code compiled, a model, and that the code answers as the model. Written by a program of ours (lb.py). No statement of the seat is proved here.
-/
namespace Go.Proofs.Ytadebhbiglmodaa
namespace NX
open Go
set_option maxRecDepth 100000
set_option maxHeartbeats 4000000
def e9 : EC := .seq (.reg [⟨(some 2), none, .box 24 2 (.t 0)⟩, ⟨(some 4), none, .mv (.c .ff)⟩]) (.seq (.seq (.reg [⟨(some 7), none, .call 35 []⟩, ⟨(some 8), none, .not (.t 7)⟩, ⟨(some 9), none, .mv (.t 8)⟩, ⟨(some 10), (some (9, false)), .loadA 2 (.t 2)⟩, ⟨(some 11), (some (9, false)), .call 36 [(.t 10)]⟩, ⟨(some 12), (some (9, false)), .not (.t 11)⟩, ⟨(some 13), none, .pick (.t 9) (.c .tt) (.t 12)⟩, ⟨(some 14), none, .mv (.t 13)⟩, ⟨(some 15), (some (14, false)), .mv (.t 1)⟩, ⟨(some 16), (some (14, false)), .len (.t 15)⟩, ⟨(some 17), (some (14, false)), .bin .gtr (.t 16) (.c (.iv 80))⟩, ⟨(some 18), none, .pick (.t 14) (.c .tt) (.t 17)⟩]) (.ite (.t 18) (.seq (.reg [⟨(some 19), none, .call 35 []⟩, ⟨(some 4), none, .mv (.t 19)⟩]) (.ret)) (.skip))) (.seq (.reg [⟨(some 21), none, .loadA 2 (.t 2)⟩, ⟨(some 22), none, .mv (.t 1)⟩, ⟨(some 23), none, .mkf 38 [(.t 2)]⟩, ⟨(some 24), none, .call 37 [(.t 21), (.t 22), (.t 23)]⟩, ⟨(some 20), none, .mv (.t 24)⟩, ⟨(some 25), none, .ext (.t 20) 0⟩, ⟨(some 26), none, .ext (.t 20) 1⟩, ⟨(some 5), none, .alloc 43 [.nl, .nl]⟩, ⟨none, none, .store 2 (.t 5) (.t 25)⟩, ⟨(some 6), none, .mv (.t 26)⟩]) (.seq (.reg [⟨(some 27), none, .mv (.t 6)⟩, ⟨(some 4), none, .mv (.t 27)⟩]) (.ret))))
theorem ok9 : FnOK Try.prog 9 Try.f9 e9 [.t 4] 2 26 := ⟨by kernel_rfl, ⟨_, rfl, by kernel_rfl⟩, by kernel_rfl, by kernel_rfl⟩
/- narthex/narthexlaw14.TableOne -/
noncomputable def m_narthexlaw14_TableOne_j1 (x1 : Graph) (x2 : (List narthexlaw14_Act)) : Bool → Option Bool
| x5 =>
 ifb x5 (
 (m_narthexlaw14_awake).bind fun x6 =>
 some x6) (
 (m_narthexlaw14_run x1 x2 ((fun z => m_narthexlaw14_TableOne_1 z x1))).bind fun x7 =>
 some x7.2)
noncomputable def m_narthexlaw14_TableOne (x1 : Graph) (x2 : (List narthexlaw14_Act)) : Option Bool :=
 (m_narthexlaw14_awake).bind fun x3 =>
 ifb (!x3) (
 (m_narthexlaw14_TableOne_j1 x1 x2) true) (
 (m_narthexref14_Small x1).bind fun x4 =>
 ifb (!x4) (
 (m_narthexlaw14_TableOne_j1 x1 x2) true) (
 (m_narthexlaw14_TableOne_j1 x1 x2) (decide (80 < (ln narthexlaw14_Act.row x2)))))
theorem k_narthexlaw14_TableOne (x1 : Graph) (x2 : (List narthexlaw14_Act)) (r : Bool) (h : m_narthexlaw14_TableOne x1 x2 = some r) : FunP Try.prog 9 [.agg (Graph.row x1), .sl 3 (List.map narthexlaw14_Act.row x2)] (.bv r) := by
  refine FunP_intro ok9 rfl rfl fun w0 H0 => ?_
  rw [m_narthexlaw14_TableOne] at h
  refine V_go 8 ?_; dsimp only [e9, go_sem, Nat.reduceBEq, Nat.reduceAdd]; refine ⟨by simp, ?_⟩; obtain ⟨x3, ex3, h⟩ := Option.bind_eq_some_iff.1 h; refine V_call trivial (k_narthexlaw14_awake _ ex3) (h := ?_); refine V_go 2 ?_; dsimp only [e9, go_sem, Nat.reduceBEq, Nat.reduceAdd]; refine ⟨by simp, ?_⟩; refine V_join (fun (x5 : Bool) => (⟨(.any :: .sl 3 (List.map narthexlaw14_Act.row x2) :: .ptr 0 0 :: an 15 (.bv x5 :: an 9 [])), [some ⟨24, [.iv x1.N, .sl 2 (List.map Edge.row x1.Edges)]⟩], []⟩ : St)) (m_narthexlaw14_TableOne_j1 x1 x2) r ?_ fun J1 => ?_
  ·intro x5 h; rw [m_narthexlaw14_TableOne_j1] at h; (try dsimp only); refine M_ite h rfl (fun _ h => ?_) fun _ h => ?_
   ·refine V_go 2 ?_; dsimp only [e9, go_sem, Nat.reduceBEq, Nat.reduceAdd]; refine ⟨by simp, ?_⟩; obtain ⟨x6, ex6, h⟩ := Option.bind_eq_some_iff.1 h; refine V_call trivial (k_narthexlaw14_awake _ ex6) (h := ?_); refine V_go 2 ?_; dsimp only [e9, go_sem, Nat.reduceBEq, Nat.reduceAdd]; refine ⟨by simp, ?_⟩; exact M_done (res := fun (r : Bool) => .bv r) ok9 h
   ·refine V_go 6 ?_; dsimp only [e9, go_sem, Nat.reduceBEq, Nat.reduceAdd]; refine ⟨by simp, ?_⟩; refine V_sealB 0 rfl rfl ?_; dsimp only [go_sem, Nat.reduceBEq, Nat.reduceAdd]; obtain ⟨x7, ex7, h⟩ := Option.bind_eq_some_iff.1 h; refine V_call trivial (k_narthexlaw14_run x1 x2 _ _ ((fun z => m_narthexlaw14_TableOne_1 z x1)) ⟨by kernel_rfl, rfl, fun z r hz => k_narthexlaw14_TableOne_1 z x1 r hz⟩ _ ex7) (h := ?_); refine V_go 12 ?_; dsimp only [e9, go_sem, Nat.reduceBEq, Nat.reduceAdd]; refine ⟨by simp, ?_⟩; exact M_done (res := fun (r : Bool) => .bv r) ok9 h
  ·refine M_case 9 h rfl (fun _ h => ?_) fun _ h => ?_
   ·dsimp only [go_sem, Nat.reduceBEq, Nat.reduceAdd]; refine V_go 10 ?_; dsimp only [e9, go_sem, Nat.reduceBEq, Nat.reduceAdd]; refine ⟨by simp, ?_⟩; exact M_to J1 (s := true) h
   ·dsimp only [go_sem, Nat.reduceBEq, Nat.reduceAdd]; refine V_go 1 ?_; dsimp only [e9, go_sem, Nat.reduceBEq, Nat.reduceAdd]; refine ⟨by simp, ?_⟩; obtain ⟨x4, ex4, h⟩ := Option.bind_eq_some_iff.1 h; refine V_call trivial (k_narthexref14_Small x1 _ ex4) (h := ?_); refine V_go 3 ?_; dsimp only [e9, go_sem, Nat.reduceBEq, Nat.reduceAdd]; refine ⟨by simp, ?_⟩; refine M_case 14 h rfl (fun _ h => ?_) fun _ h => ?_
    ·dsimp only [go_sem, Nat.reduceBEq, Nat.reduceAdd]; refine V_go 5 ?_; dsimp only [e9, go_sem, Nat.reduceBEq, Nat.reduceAdd]; refine ⟨by simp, ?_⟩; exact M_to J1 (s := true) h
    ·dsimp only [go_sem, Nat.reduceBEq, Nat.reduceAdd]; refine V_go 5 ?_; dsimp only [e9, go_sem, Nat.reduceBEq, Nat.reduceAdd]; refine ⟨by simp, ?_⟩; exact M_to J1 (s := decide (80 < (ln narthexlaw14_Act.row x2))) h
end NX
end Go.Proofs.Ytadebhbiglmodaa
/-
  The function narthex/narthexlaw14.TableApart$1: its code compiled, a model, and that the code answers as the model. Written by a program of ours (lb.py). No statement of the seat is proved here.
-/
namespace Go.Proofs.Ytadebhbiglmodaa
namespace NX
open Go
set_option maxRecDepth 100000
set_option maxHeartbeats 4000000
def e40_L2 : EC := .seq (.seq (.reg [⟨(some 40), none, .mv (.t 8)⟩, ⟨(some 41), none, .fld 2 (.t 7)⟩, ⟨(some 42), none, .load (.t 41)⟩, ⟨(some 43), none, .len (.t 42)⟩, ⟨(some 44), none, .bin .lss (.t 40) (.t 43)⟩]) (.ite (.t 44) (.skip) (.exit 4))) (.seq (.blk 5 (.seq (.reg [⟨(some 47), none, .fld 2 (.t 7)⟩, ⟨(some 48), none, .load (.t 47)⟩, ⟨(some 49), none, .mv (.t 8)⟩, ⟨(some 50), none, .idx 8 (.t 48) (.t 49)⟩, ⟨(some 51), none, .fld 3 (.t 50)⟩, ⟨(some 52), none, .load (.t 51)⟩, ⟨(some 53), none, .not (.t 52)⟩, ⟨(some 54), none, .mv (.t 53)⟩, ⟨(some 55), (some (54, false)), .fld 2 (.t 7)⟩, ⟨(some 56), (some (54, false)), .load (.t 55)⟩, ⟨(some 57), (some (54, false)), .mv (.t 8)⟩, ⟨(some 58), (some (54, false)), .idx 8 (.t 56) (.t 57)⟩, ⟨(some 59), (some (54, false)), .fld 4 (.t 58)⟩, ⟨(some 60), (some (54, false)), .load (.t 59)⟩, ⟨(some 61), (some (54, false)), .not (.t 60)⟩, ⟨(some 62), none, .pick (.t 54) (.c .tt) (.t 61)⟩]) (.ite (.t 62) (.seq (.reg [⟨(some 3), none, .mv (.c .ff)⟩]) (.ret)) (.skip)))) (.reg [⟨(some 45), none, .mv (.t 8)⟩, ⟨(some 46), none, .bin .add (.t 45) (.c (.iv 1))⟩, ⟨(some 8), none, .mv (.t 46)⟩]))
def e40_L1 : EC := .seq (.seq (.reg [⟨(some 17), none, .mv (.t 6)⟩, ⟨(some 18), none, .mv (.t 5)⟩, ⟨(some 19), none, .bin .lss (.t 17) (.t 18)⟩]) (.ite (.t 19) (.skip) (.exit 2))) (.seq (.blk 3 (.seq (.drw [⟨(some 22), none, .loadA 2 (.t 1)⟩, ⟨(some 23), none, .mv (.t 4)⟩, ⟨(some 24), none, .mv (.t 5)⟩, ⟨(some 25), none, .idx 1 (.t 23) (.t 24)⟩, ⟨(some 26), none, .load (.t 25)⟩, ⟨(some 27), none, .mv (.t 4)⟩, ⟨(some 28), none, .mv (.t 6)⟩, ⟨(some 29), none, .idx 1 (.t 27) (.t 28)⟩, ⟨(some 30), none, .load (.t 29)⟩, ⟨(some 31), none, .call 32 [(.t 22), (.t 26), (.t 30)]⟩] [[], [], [], [1, 2], [3], [], [], [5, 6], [7], [0, 4, 8]] [[9], [3], [3], [1, 2, 4], [3, 9], [7], [7], [5, 6, 8], [7, 9], [0, 4, 8]]) (.ite (.t 31) (.seq (.reg [⟨(some 3), none, .mv (.c .ff)⟩]) (.ret)) (.skip)))) (.reg [⟨(some 20), none, .mv (.t 6)⟩, ⟨(some 21), none, .bin .add (.t 20) (.c (.iv 1))⟩, ⟨(some 6), none, .mv (.t 21)⟩]))
def e40_L0 : EC := .seq (.seq (.reg [⟨(some 11), none, .mv (.t 5)⟩, ⟨(some 12), none, .mv (.t 4)⟩, ⟨(some 13), none, .len (.t 12)⟩, ⟨(some 14), none, .bin .lss (.t 11) (.t 13)⟩]) (.ite (.t 14) (.skip) (.exit 0))) (.seq (.blk 1 (.seq (.seq (.reg [⟨(some 6), none, .mv (.c (.iv 0))⟩]) (.blk 2 (.loop e40_L1))) (.seq (.drw [⟨(some 32), none, .fld 0 (.t 2)⟩, ⟨(some 33), none, .load (.t 32)⟩, ⟨(some 34), none, .mv (.t 4)⟩, ⟨(some 35), none, .mv (.t 5)⟩, ⟨(some 36), none, .idx 1 (.t 34) (.t 35)⟩, ⟨(some 37), none, .load (.t 36)⟩, ⟨(some 38), none, .idx 3 (.t 33) (.t 37)⟩, ⟨(some 39), none, .loadA 3 (.t 38)⟩, ⟨(some 7), none, .alloc 39 [.iv 0, .iv 0, .nl]⟩, ⟨none, none, .store 3 (.t 7) (.t 39)⟩] [[], [0], [], [], [2, 3], [4], [1, 5], [6], [], [8, 7, 0, 1, 2, 3, 4, 5, 6, 7, 8]] [[1], [0, 6], [4], [4], [2, 3, 5], [4, 6], [1, 5, 7], [6, 9], [9], [7, 8]]) (.seq (.reg [⟨(some 8), none, .mv (.c (.iv 0))⟩]) (.blk 4 (.loop e40_L2)))))) (.reg [⟨(some 15), none, .mv (.t 5)⟩, ⟨(some 16), none, .bin .add (.t 15) (.c (.iv 1))⟩, ⟨(some 5), none, .mv (.t 16)⟩]))
def e40 : EC := .seq (.reg [⟨(some 2), none, .box 43 2 (.t 0)⟩, ⟨(some 3), none, .mv (.c .ff)⟩]) (.seq (.reg [⟨(some 9), none, .loadA 2 (.t 2)⟩, ⟨(some 10), none, .call 41 [(.t 9), (.c (.iv 2))]⟩, ⟨(some 4), none, .mv (.t 10)⟩]) (.seq (.seq (.reg [⟨(some 5), none, .mv (.c (.iv 0))⟩]) (.blk 0 (.loop e40_L0))) (.seq (.reg [⟨(some 3), none, .mv (.c .tt)⟩]) (.ret))))
theorem ok40 : FnOK Try.prog 40 Try.f40 e40 [.t 3] 2 61 := ⟨by kernel_rfl, ⟨_, rfl, by kernel_rfl⟩, by kernel_rfl, by kernel_rfl⟩
/- narthex/narthexlaw14.TableApart$1 -/
noncomputable def m_narthexlaw14_TableApart_1_j1  : Unit → Option Bool
| () =>
 some true
noncomputable def m_narthexlaw14_TableApart_1_j3 (x34 : Int) : Unit → Option (Int ⊕ Bool)
| () =>
 some (.inl (wr (x34 + 1)))
noncomputable def m_narthexlaw14_TableApart_1_j4 (x55 : Int) : Bool → Option (Int ⊕ (Int ⊕ Bool))
| x58 =>
 ifb x58 (
 Option.map Sum.inr (Option.map Sum.inr (some false))) (
 some (.inl (wr (x55 + 1))))
noncomputable def m_narthexlaw14_TableApart_1_l3 (x34 : Int) (x50 : Diner) : Int → Option (Int ⊕ (Int ⊕ Bool))
| x55 =>
 ifb (decide (x55 < (ln Side.row x50.Sides))) (
 (at_ x50.Sides x55).bind fun x56 =>
 ifb (!x56.Fork) (
 (m_narthexlaw14_TableApart_1_j4 x55) true) (
 (at_ x50.Sides x55).bind fun x57 =>
 (m_narthexlaw14_TableApart_1_j4 x55) (!x57.Dirty))) (
 Option.map Sum.inr ((m_narthexlaw14_TableApart_1_j3 x34) ()))
noncomputable def m_narthexlaw14_TableApart_1_j2 (x1 : Scene) (x3 : (List Int)) (x34 : Int) : Unit → Option (Int ⊕ Bool)
| () =>
 (at_ x3 x34).bind fun x49 =>
 (at_ x1.Diners x49).bind fun x50 =>
 loop (m_narthexlaw14_TableApart_1_l3 x34 x50) 0
noncomputable def m_narthexlaw14_TableApart_1_l2 (x1 : Scene) (x2 : Graph) (x3 : (List Int)) (x34 : Int) : Int → Option (Int ⊕ (Int ⊕ Bool))
| x39 =>
 ifb (decide (x39 < x34)) (
 (at_ x3 x34).bind fun x40 =>
 (at_ x3 x39).bind fun x41 =>
 (m_narthexref03_Has x2 x40 x41).bind fun x42 =>
 ifb x42 (
 Option.map Sum.inr (Option.map Sum.inr (some false))) (
 some (.inl (wr (x39 + 1))))) (
 Option.map Sum.inr ((m_narthexlaw14_TableApart_1_j2 x1 x3 x34) ()))
noncomputable def m_narthexlaw14_TableApart_1_l1 (x1 : Scene) (x2 : Graph) (x3 : (List Int)) : Int → Option (Int ⊕ Bool)
| x34 =>
 ifb (decide (x34 < (ln intRow x3))) (
 loop (m_narthexlaw14_TableApart_1_l2 x1 x2 x3 x34) 0) (
 Option.map Sum.inr (m_narthexlaw14_TableApart_1_j1 ()))
noncomputable def m_narthexlaw14_TableApart_1 (x1 : Scene) (x2 : Graph) : Option Bool :=
 (m_table_Phases x1 2).bind fun x3 =>
 loop (m_narthexlaw14_TableApart_1_l1 x1 x2 x3) 0
theorem k_narthexlaw14_TableApart_1 (x1 : Scene) (x2 : Graph) (r : Bool) (h : m_narthexlaw14_TableApart_1 x1 x2 = some r) : FunP Try.prog 40 [.agg (Scene.row x1), .elt (Graph.row x2) 0] (.bv r) := by
  refine FunP_intro ok40 rfl rfl fun w0 H0 => ?_
  rw [m_narthexlaw14_TableApart_1] at h
  refine V_go 8 ?_; dsimp only [e40, e40_L0, e40_L1, e40_L2, go_sem, Nat.reduceBEq, Nat.reduceAdd]; refine ⟨by simp, ?_⟩; obtain ⟨x3, ex3, h⟩ := Option.bind_eq_some_iff.1 h; refine V_call trivial (k_table_Phases x1 2 _ ex3) (h := ?_); refine V_go 7 ?_; dsimp only [e40, e40_L0, e40_L1, e40_L2, go_sem, Nat.reduceBEq, Nat.reduceAdd]; refine ⟨by simp, ?_⟩; refine V_join (fun (_ : Unit) => (⟨(an 63 []), [], []⟩ : St)) m_narthexlaw14_TableApart_1_j1 r ?_ fun J1 => ?_
  ·rintro ⟨⟩ h; rw [m_narthexlaw14_TableApart_1_j1] at h; (try dsimp only); refine V_go 4 ?_; dsimp only [e40, e40_L0, e40_L1, e40_L2, go_sem, Nat.reduceBEq, Nat.reduceAdd]; refine ⟨by simp, ?_⟩; exact M_done (res := fun (r : Bool) => .bv r) ok40 h
  ·refine V_go 1 ?_; dsimp only [e40, e40_L0, e40_L1, e40_L2, go_sem, Nat.reduceBEq, Nat.reduceAdd]; refine ⟨by simp, ?_⟩; refine M_loop h (fun (x34 : Int) => (⟨(.any :: .elt [.iv x2.N, .sl 2 (List.map Edge.row x2.Edges)] 0 :: .ptr 0 0 :: .any :: .sl 1 (List.map intRow x3) :: .iv x34 :: an 57 []), [some ⟨43, [.sl 3 (List.map Diner.row x1.Diners), .sl 5 (List.map Mail.row x1.Mail)]⟩], []⟩ : St)) (by simp [go_sem]) (by intro x34; first | rfl | simp [go_sem]) ?_; rintro n1 x34 y1 h hin1 hout1; rw [m_narthexlaw14_TableApart_1_l1] at h; (try dsimp only); refine V_go 8 ?_
   dsimp only [e40, e40_L0, e40_L1, e40_L2, go_sem, Nat.reduceBEq, Nat.reduceAdd]; refine ⟨by simp, ?_⟩; refine M_ite h rfl (fun _ h => ?_) fun _ h => ?_
   ·refine V_go 8 ?_; dsimp only [e40, e40_L0, e40_L1, e40_L2, go_sem, Nat.reduceBEq, Nat.reduceAdd]; refine ⟨by simp, ?_⟩; refine V_join (fun (_ : Unit) => (⟨(.any :: .elt [.iv x2.N, .sl 2 (List.map Edge.row x2.Edges)] 0 :: .ptr 0 0 :: .any :: .sl 1 (List.map intRow x3) :: .iv x34 :: an 57 []), [some ⟨43, [.sl 3 (List.map Diner.row x1.Diners), .sl 5 (List.map Mail.row x1.Mail)]⟩], []⟩ : St)) (m_narthexlaw14_TableApart_1_j2 x1 x3 x34) y1 ?_ fun J2 => ?_
    ·rintro ⟨⟩ h; rw [m_narthexlaw14_TableApart_1_j2] at h; (try dsimp only); refine V_go 1 ?_; dsimp only [e40, e40_L0, e40_L1, e40_L2, go_sem, Nat.reduceBEq, Nat.reduceAdd]; refine ⟨by simp, ?_⟩; refine V_drw (by kernel_rfl) fun all hall hs hnap haf => ?_; dsimp only [go_sem, Nat.reduceBEq, Nat.reduceAdd]; refine G_goN hall hs haf hnap 4 6 ?_; dsimp only [go_sem, Nat.reduceBEq, Nat.reduceAdd]; refine ⟨by simp, ?_⟩; obtain ⟨x49, ex49, h⟩ := Option.bind_eq_some_iff.1 h; refine G_idxM hall hs haf hnap 4 intRow ex49 rfl rfl trivial rfl rfl rfl rfl ?_; refine G_goN hall hs haf hnap 1 4 ?_
     dsimp only [go_sem, Nat.reduceBEq, Nat.reduceAdd]; refine ⟨by simp, ?_⟩; obtain ⟨x50, ex50, h⟩ := Option.bind_eq_some_iff.1 h; refine G_idxM hall hs haf hnap 6 Diner.row ex50 rfl rfl trivial rfl rfl rfl rfl ?_; refine G_goN hall hs haf hnap 1 2 ?_; dsimp only [go_sem, Nat.reduceBEq, Nat.reduceAdd]; refine ⟨by simp, ?_⟩; refine G_one 8 rfl ?_; refine GO_ev hall rfl trivial ?_; dsimp only [go_sem, Nat.reduceBEq, Nat.reduceAdd]; refine G_one 9 rfl ?_; refine GO_ev hall rfl trivial ?_; dsimp only [go_sem, Nat.reduceBEq, Nat.reduceAdd]; refine G_done rfl ?_ _; refine V_go 4 ?_
     dsimp only [e40, e40_L0, e40_L1, e40_L2, go_sem, Nat.reduceBEq, Nat.reduceAdd]; refine ⟨by simp, ?_⟩; refine V_join (fun (_ : Unit) => (⟨(.any :: .elt [.iv x2.N, .sl 2 (List.map Edge.row x2.Edges)] 0 :: .ptr 0 0 :: .any :: .sl 1 (List.map intRow x3) :: .iv x34 :: an 57 []), [some ⟨43, [.sl 3 (List.map Diner.row x1.Diners), .sl 5 (List.map Mail.row x1.Mail)]⟩], []⟩ : St)) (m_narthexlaw14_TableApart_1_j3 x34) y1 ?_ fun J3 => ?_
     ·rintro ⟨⟩ h; rw [m_narthexlaw14_TableApart_1_j3] at h; (try dsimp only); refine V_go 6 ?_; dsimp only [e40, e40_L0, e40_L1, e40_L2, go_sem, Nat.reduceBEq, Nat.reduceAdd]; refine ⟨by simp, ?_⟩; exact M_back h hin1
     ·refine V_go 1 ?_; dsimp only [e40, e40_L0, e40_L1, e40_L2, go_sem, Nat.reduceBEq, Nat.reduceAdd]; refine ⟨by simp, ?_⟩; refine M_loop h (fun (x55 : Int) => (⟨(.any :: .elt [.iv x2.N, .sl 2 (List.map Edge.row x2.Edges)] 0 :: .ptr 0 0 :: .any :: .sl 1 (List.map intRow x3) :: .iv x34 :: .any :: .ptr 1 0 :: .iv x55 :: an 54 []), [some ⟨43, [.sl 3 (List.map Diner.row x1.Diners), .sl 5 (List.map Mail.row x1.Mail)]⟩, some ⟨39, [.iv x50.ID, .iv x50.Phase, .sl 8 (List.map Side.row x50.Sides)]⟩], []⟩ : St)) (by simp [go_sem]) (by intro x55; first | rfl | simp [go_sem]) ?_
      rintro n2 x55 y2 h hin2 hout2; rw [m_narthexlaw14_TableApart_1_l3] at h; (try dsimp only); refine V_go 9 ?_; dsimp only [e40, e40_L0, e40_L1, e40_L2, go_sem, Nat.reduceBEq, Nat.reduceAdd]; refine ⟨by simp, ?_⟩; refine M_ite h rfl (fun _ h => ?_) fun _ h => ?_
      ·refine V_go 8 ?_; dsimp only [e40, e40_L0, e40_L1, e40_L2, go_sem, Nat.reduceBEq, Nat.reduceAdd]; refine ⟨by simp, ?_⟩; obtain ⟨x56, ex56, h⟩ := Option.bind_eq_some_iff.1 h; refine V_idxM Side.row ex56 trivial rfl rfl rfl ?_; refine V_go 4 ?_; dsimp only [e40, e40_L0, e40_L1, e40_L2, go_sem, Nat.reduceBEq, Nat.reduceAdd]; refine ⟨by simp, ?_⟩
       refine V_join (fun (x58 : Bool) => (⟨(.any :: .elt [.iv x2.N, .sl 2 (List.map Edge.row x2.Edges)] 0 :: .ptr 0 0 :: .any :: .sl 1 (List.map intRow x3) :: .iv x34 :: .any :: .ptr 1 0 :: .iv x55 :: an 53 [.bv x58]), [some ⟨43, [.sl 3 (List.map Diner.row x1.Diners), .sl 5 (List.map Mail.row x1.Mail)]⟩, some ⟨39, [.iv x50.ID, .iv x50.Phase, .sl 8 (List.map Side.row x50.Sides)]⟩], []⟩ : St)) (m_narthexlaw14_TableApart_1_j4 x55) y2 ?_ fun J4 => ?_
       ·intro x58 h; rw [m_narthexlaw14_TableApart_1_j4] at h; (try dsimp only); refine M_ite h rfl (fun _ h => ?_) fun _ h => ?_
        ·refine V_go 4 ?_; dsimp only [e40, e40_L0, e40_L1, e40_L2, go_sem, Nat.reduceBEq, Nat.reduceAdd]; refine ⟨by simp, ?_⟩; exact M_done (res := fun (r : Bool) => .bv r) ok40 (M_out (M_out h hout2) hout1)
        ·refine V_go 7 ?_; dsimp only [e40, e40_L0, e40_L1, e40_L2, go_sem, Nat.reduceBEq, Nat.reduceAdd]; refine ⟨by simp, ?_⟩; exact M_back h hin2
       ·refine M_case 54 h rfl (fun _ h => ?_) fun _ h => ?_
        ·dsimp only [go_sem, Nat.reduceBEq, Nat.reduceAdd]; refine V_go 9 ?_; dsimp only [e40, e40_L0, e40_L1, e40_L2, go_sem, Nat.reduceBEq, Nat.reduceAdd]; refine ⟨by simp, ?_⟩; exact M_to J4 (s := true) h
        ·dsimp only [go_sem, Nat.reduceBEq, Nat.reduceAdd]; refine V_go 3 ?_; dsimp only [e40, e40_L0, e40_L1, e40_L2, go_sem, Nat.reduceBEq, Nat.reduceAdd]; refine ⟨by simp, ?_⟩; obtain ⟨x57, ex57, h⟩ := Option.bind_eq_some_iff.1 h; refine V_idxM Side.row ex57 trivial rfl rfl rfl ?_; refine V_go 5 ?_; dsimp only [e40, e40_L0, e40_L1, e40_L2, go_sem, Nat.reduceBEq, Nat.reduceAdd]; refine ⟨by simp, ?_⟩; exact M_to J4 (s := !x57.Dirty) h
      ·refine V_go 1 ?_; dsimp only [e40, e40_L0, e40_L1, e40_L2, go_sem, Nat.reduceBEq, Nat.reduceAdd]; refine ⟨by simp, ?_⟩; exact M_to J3 (s := ()) (M_out h hout2)
    ·refine V_go 1 ?_; dsimp only [e40, e40_L0, e40_L1, e40_L2, go_sem, Nat.reduceBEq, Nat.reduceAdd]; refine ⟨by simp, ?_⟩; refine M_loop h (fun (x39 : Int) => (⟨(.any :: .elt [.iv x2.N, .sl 2 (List.map Edge.row x2.Edges)] 0 :: .ptr 0 0 :: .any :: .sl 1 (List.map intRow x3) :: .iv x34 :: .iv x39 :: an 56 []), [some ⟨43, [.sl 3 (List.map Diner.row x1.Diners), .sl 5 (List.map Mail.row x1.Mail)]⟩], []⟩ : St)) (by simp [go_sem]) (by intro x39; first | rfl | simp [go_sem]) ?_; rintro n2 x39 y2 h hin2 hout2; rw [m_narthexlaw14_TableApart_1_l2] at h; (try dsimp only); refine V_go 7 ?_
     dsimp only [e40, e40_L0, e40_L1, e40_L2, go_sem, Nat.reduceBEq, Nat.reduceAdd]; refine ⟨by simp, ?_⟩; refine M_ite h rfl (fun _ h => ?_) fun _ h => ?_
     ·refine V_go 4 ?_; dsimp only [e40, e40_L0, e40_L1, e40_L2, go_sem, Nat.reduceBEq, Nat.reduceAdd]; refine ⟨by simp, ?_⟩; refine V_drw (by kernel_rfl) fun all hall hs hnap haf => ?_; dsimp only [go_sem, Nat.reduceBEq, Nat.reduceAdd]; refine G_goN hall hs haf hnap 5 5 ?_; dsimp only [go_sem, Nat.reduceBEq, Nat.reduceAdd]; refine ⟨by simp, ?_⟩; obtain ⟨x40, ex40, h⟩ := Option.bind_eq_some_iff.1 h; refine G_idxM hall hs haf hnap 3 intRow ex40 rfl rfl trivial rfl rfl rfl rfl ?_; refine G_goN hall hs haf hnap 1 3 ?_; dsimp only [go_sem, Nat.reduceBEq, Nat.reduceAdd]; refine ⟨by simp, ?_⟩
      obtain ⟨x41, ex41, h⟩ := Option.bind_eq_some_iff.1 h; refine G_idxM hall hs haf hnap 7 intRow ex41 rfl rfl trivial rfl rfl rfl rfl ?_; refine G_goN hall hs haf hnap 1 1 ?_; dsimp only [go_sem, Nat.reduceBEq, Nat.reduceAdd]; refine ⟨by simp, ?_⟩; refine G_one 9 rfl ?_; obtain ⟨x42, ex42, h⟩ := Option.bind_eq_some_iff.1 h; refine GO_call hall rfl trivial (k_narthexref03_Has x2 x40 x41 _ ex42) (h := ?_); dsimp only [go_sem, Nat.reduceBEq, Nat.reduceAdd]; refine G_done rfl ?_ _; refine M_ite h rfl (fun _ h => ?_) fun _ h => ?_
      ·refine V_go 4 ?_; dsimp only [e40, e40_L0, e40_L1, e40_L2, go_sem, Nat.reduceBEq, Nat.reduceAdd]; refine ⟨by simp, ?_⟩; exact M_done (res := fun (r : Bool) => .bv r) ok40 (M_out (M_out h hout2) hout1)
      ·refine V_go 7 ?_; dsimp only [e40, e40_L0, e40_L1, e40_L2, go_sem, Nat.reduceBEq, Nat.reduceAdd]; refine ⟨by simp, ?_⟩; exact M_back h hin2
     ·refine V_go 1 ?_; dsimp only [e40, e40_L0, e40_L1, e40_L2, go_sem, Nat.reduceBEq, Nat.reduceAdd]; refine ⟨by simp, ?_⟩; exact M_to J2 (s := ()) (M_out h hout2)
   ·refine V_go 1 ?_; dsimp only [e40, e40_L0, e40_L1, e40_L2, go_sem, Nat.reduceBEq, Nat.reduceAdd]; refine ⟨by simp, ?_⟩; exact M_to J1 (s := ()) (M_out h hout1)
end NX
end Go.Proofs.Ytadebhbiglmodaa
/-
  The function narthex/narthexlaw14.TableApart: its code compiled, a model, and that the code answers as the model. Written by a program of ours (lb.py). No statement of the seat is proved here.
-/
namespace Go.Proofs.Ytadebhbiglmodaa
namespace NX
open Go
set_option maxRecDepth 100000
set_option maxHeartbeats 4000000
def e10 : EC := .seq (.reg [⟨(some 2), none, .box 24 2 (.t 0)⟩, ⟨(some 4), none, .mv (.c .ff)⟩]) (.seq (.seq (.reg [⟨(some 7), none, .call 35 []⟩, ⟨(some 8), none, .not (.t 7)⟩, ⟨(some 9), none, .mv (.t 8)⟩, ⟨(some 10), (some (9, false)), .loadA 2 (.t 2)⟩, ⟨(some 11), (some (9, false)), .call 36 [(.t 10)]⟩, ⟨(some 12), (some (9, false)), .not (.t 11)⟩, ⟨(some 13), none, .pick (.t 9) (.c .tt) (.t 12)⟩, ⟨(some 14), none, .mv (.t 13)⟩, ⟨(some 15), (some (14, false)), .mv (.t 1)⟩, ⟨(some 16), (some (14, false)), .len (.t 15)⟩, ⟨(some 17), (some (14, false)), .bin .gtr (.t 16) (.c (.iv 80))⟩, ⟨(some 18), none, .pick (.t 14) (.c .tt) (.t 17)⟩]) (.ite (.t 18) (.seq (.reg [⟨(some 19), none, .call 35 []⟩, ⟨(some 4), none, .mv (.t 19)⟩]) (.ret)) (.skip))) (.seq (.reg [⟨(some 21), none, .loadA 2 (.t 2)⟩, ⟨(some 22), none, .mv (.t 1)⟩, ⟨(some 23), none, .mkf 40 [(.t 2)]⟩, ⟨(some 24), none, .call 37 [(.t 21), (.t 22), (.t 23)]⟩, ⟨(some 20), none, .mv (.t 24)⟩, ⟨(some 25), none, .ext (.t 20) 0⟩, ⟨(some 26), none, .ext (.t 20) 1⟩, ⟨(some 5), none, .alloc 43 [.nl, .nl]⟩, ⟨none, none, .store 2 (.t 5) (.t 25)⟩, ⟨(some 6), none, .mv (.t 26)⟩]) (.seq (.reg [⟨(some 27), none, .mv (.t 6)⟩, ⟨(some 4), none, .mv (.t 27)⟩]) (.ret))))
theorem ok10 : FnOK Try.prog 10 Try.f10 e10 [.t 4] 2 26 := ⟨by kernel_rfl, ⟨_, rfl, by kernel_rfl⟩, by kernel_rfl, by kernel_rfl⟩
/- narthex/narthexlaw14.TableApart -/
noncomputable def m_narthexlaw14_TableApart_j1 (x1 : Graph) (x2 : (List narthexlaw14_Act)) : Bool → Option Bool
| x5 =>
 ifb x5 (
 (m_narthexlaw14_awake).bind fun x6 =>
 some x6) (
 (m_narthexlaw14_run x1 x2 ((fun z => m_narthexlaw14_TableApart_1 z x1))).bind fun x7 =>
 some x7.2)
noncomputable def m_narthexlaw14_TableApart (x1 : Graph) (x2 : (List narthexlaw14_Act)) : Option Bool :=
 (m_narthexlaw14_awake).bind fun x3 =>
 ifb (!x3) (
 (m_narthexlaw14_TableApart_j1 x1 x2) true) (
 (m_narthexref14_Small x1).bind fun x4 =>
 ifb (!x4) (
 (m_narthexlaw14_TableApart_j1 x1 x2) true) (
 (m_narthexlaw14_TableApart_j1 x1 x2) (decide (80 < (ln narthexlaw14_Act.row x2)))))
theorem k_narthexlaw14_TableApart (x1 : Graph) (x2 : (List narthexlaw14_Act)) (r : Bool) (h : m_narthexlaw14_TableApart x1 x2 = some r) : FunP Try.prog 10 [.agg (Graph.row x1), .sl 3 (List.map narthexlaw14_Act.row x2)] (.bv r) := by
  refine FunP_intro ok10 rfl rfl fun w0 H0 => ?_
  rw [m_narthexlaw14_TableApart] at h
  refine V_go 8 ?_; dsimp only [e10, go_sem, Nat.reduceBEq, Nat.reduceAdd]; refine ⟨by simp, ?_⟩; obtain ⟨x3, ex3, h⟩ := Option.bind_eq_some_iff.1 h; refine V_call trivial (k_narthexlaw14_awake _ ex3) (h := ?_); refine V_go 2 ?_; dsimp only [e10, go_sem, Nat.reduceBEq, Nat.reduceAdd]; refine ⟨by simp, ?_⟩; refine V_join (fun (x5 : Bool) => (⟨(.any :: .sl 3 (List.map narthexlaw14_Act.row x2) :: .ptr 0 0 :: an 15 (.bv x5 :: an 9 [])), [some ⟨24, [.iv x1.N, .sl 2 (List.map Edge.row x1.Edges)]⟩], []⟩ : St)) (m_narthexlaw14_TableApart_j1 x1 x2) r ?_ fun J1 => ?_
  ·intro x5 h; rw [m_narthexlaw14_TableApart_j1] at h; (try dsimp only); refine M_ite h rfl (fun _ h => ?_) fun _ h => ?_
   ·refine V_go 2 ?_; dsimp only [e10, go_sem, Nat.reduceBEq, Nat.reduceAdd]; refine ⟨by simp, ?_⟩; obtain ⟨x6, ex6, h⟩ := Option.bind_eq_some_iff.1 h; refine V_call trivial (k_narthexlaw14_awake _ ex6) (h := ?_); refine V_go 2 ?_; dsimp only [e10, go_sem, Nat.reduceBEq, Nat.reduceAdd]; refine ⟨by simp, ?_⟩; exact M_done (res := fun (r : Bool) => .bv r) ok10 h
   ·refine V_go 6 ?_; dsimp only [e10, go_sem, Nat.reduceBEq, Nat.reduceAdd]; refine ⟨by simp, ?_⟩; refine V_sealB 0 rfl rfl ?_; dsimp only [go_sem, Nat.reduceBEq, Nat.reduceAdd]; obtain ⟨x7, ex7, h⟩ := Option.bind_eq_some_iff.1 h; refine V_call trivial (k_narthexlaw14_run x1 x2 _ _ ((fun z => m_narthexlaw14_TableApart_1 z x1)) ⟨by kernel_rfl, rfl, fun z r hz => k_narthexlaw14_TableApart_1 z x1 r hz⟩ _ ex7) (h := ?_); refine V_go 12 ?_; dsimp only [e10, go_sem, Nat.reduceBEq, Nat.reduceAdd]; refine ⟨by simp, ?_⟩; exact M_done (res := fun (r : Bool) => .bv r) ok10 h
  ·refine M_case 9 h rfl (fun _ h => ?_) fun _ h => ?_
   ·dsimp only [go_sem, Nat.reduceBEq, Nat.reduceAdd]; refine V_go 10 ?_; dsimp only [e10, go_sem, Nat.reduceBEq, Nat.reduceAdd]; refine ⟨by simp, ?_⟩; exact M_to J1 (s := true) h
   ·dsimp only [go_sem, Nat.reduceBEq, Nat.reduceAdd]; refine V_go 1 ?_; dsimp only [e10, go_sem, Nat.reduceBEq, Nat.reduceAdd]; refine ⟨by simp, ?_⟩; obtain ⟨x4, ex4, h⟩ := Option.bind_eq_some_iff.1 h; refine V_call trivial (k_narthexref14_Small x1 _ ex4) (h := ?_); refine V_go 3 ?_; dsimp only [e10, go_sem, Nat.reduceBEq, Nat.reduceAdd]; refine ⟨by simp, ?_⟩; refine M_case 14 h rfl (fun _ h => ?_) fun _ h => ?_
    ·dsimp only [go_sem, Nat.reduceBEq, Nat.reduceAdd]; refine V_go 5 ?_; dsimp only [e10, go_sem, Nat.reduceBEq, Nat.reduceAdd]; refine ⟨by simp, ?_⟩; exact M_to J1 (s := true) h
    ·dsimp only [go_sem, Nat.reduceBEq, Nat.reduceAdd]; refine V_go 5 ?_; dsimp only [e10, go_sem, Nat.reduceBEq, Nat.reduceAdd]; refine ⟨by simp, ?_⟩; exact M_to J1 (s := decide (80 < (ln narthexlaw14_Act.row x2))) h
end NX
end Go.Proofs.Ytadebhbiglmodaa
/-
  Plain laws: the laws TableOne, TableApart. No statement of the seat is proved here.
-/
namespace Go.Proofs.Ytadebhbiglmodaa
namespace NX
open Go
theorem countM_cnt {g : Graph} {e : Edge} (hlt : e.A < e.B) (k : Int) : ∀ M : List Mail, (∀ m ∈ M, mailG g m) → countM M e k 1 = cnt M k e.A e.B + cnt M k e.B e.A
  | [], _ => rfl
  | m :: M, h => by
    have ih := countM_cnt hlt k M fun x hx => h x (by simp [hx])
    obtain ⟨h1, h2, h3, h4⟩ := h m (by simp)
    have hm : bn (mailB e k 1 m) = bn (decide (m = ⟨e.A, e.B, ⟨k, 1, 0⟩⟩)) + bn (decide (m = ⟨e.B, e.A, ⟨k, 1, 0⟩⟩)) := by
      obtain ⟨f, t, ⟨kk, ep, n⟩⟩ := m
      dsimp only at h2 h3
      subst h2; subst h3
      unfold mailB
      dsimp only
      simp only [Mail.mk.injEq, Msg.mk.injEq]
      by_cases hk : kk = k
      · by_cases c1 : f = e.A ∧ t = e.B
        · have : ¬ (f = e.B ∧ t = e.A) := by omega
          have m1 : min f t = min e.A e.B := by omega
          have m2 : max f t = max e.A e.B := by omega
          obtain ⟨c1, c2⟩ := c1
          have d2 : ¬ e.A = e.B := by omega
          rw [m1, m2, hk]
          simp [c1, c2, bn, d2]
        · by_cases c2 : f = e.B ∧ t = e.A
          · have m1 : min f t = min e.A e.B := by omega
            have m2 : max f t = max e.A e.B := by omega
            obtain ⟨c3, c4⟩ := c2
            have d2 : ¬ e.B = e.A := by omega
            rw [m1, m2, hk]
            simp [c3, c4, bn, d2]
          · have : ¬ (min f t = min e.A e.B ∧ max f t = max e.A e.B) := by omega
            have e1 : (decide (min f t = min e.A e.B) && decide (max f t = max e.A e.B)) = false := by
              rw [← Bool.decide_and, decide_eq_false_iff_not]; exact this
            rw [e1]
            simp [bn]
            rw [if_neg (by omega), if_neg (by omega)]
      · simp [hk, bn]
    unfold countM cnt at ih ⊢
    rw [List.countP_cons, List.count_cons, List.count_cons, ih]
    unfold bn at hm
    simp only [decide_eq_true_eq, beq_iff_eq] at hm ⊢
    omega
theorem Inv.get {g : Graph} {s : Scene} (h : Inv g s) {a : Int} (h0 : 0 ≤ a) (h1 : a < g.N) : ∃ d, s.Diners[a.toNat]? = some d := by
  have := h.len
  exact ⟨_, List.getElem?_eq_getElem (by omega)⟩
theorem Inv.sideO {g : Graph} {s : Scene} (h : Inv g s) {a : Int} (h0 : 0 ≤ a) {d : Diner} (hd : s.Diners[a.toNat]? = some d) {b : Int} (hb : b ∈ nearL g a) : ∃ x, NX.sideO d b = some x ∧ x ∈ d.Sides := by
  have h1 := (h.shp _ _ hd).2
  rw [Int.toNat_of_nonneg h0] at h1
  have : (NX.sideO d b).isSome = true := by rw [sideO_mem, h1]; exact decide_eq_true hb
  obtain ⟨x, hx⟩ := Option.isSome_iff_exists.1 this
  exact ⟨x, hx, (sideO_some hx).1⟩
theorem Inv.count {g : Graph} {s : Scene} (hg : okG g = true) (h : Inv g s) {e : Edge} (he : e ∈ g.Edges) {k : Int} (hk : k = 1 ∨ k = 2) : countS s e k = 1 := by
  obtain ⟨g1, g2, g3, g4, g5⟩ := okG_parts hg
  obtain ⟨e1, e2, e3⟩ := g4 e he
  have hl := h.len
  have nB : e.B ∈ nearL g e.A := (mem_nearL hg).2 (.inl he)
  have nA := near_symm hg nB
  obtain ⟨da, ha⟩ := h.get e1 (by omega)
  obtain ⟨db, hb⟩ := h.get (a := e.B) (by omega) (by omega)
  obtain ⟨x, hx, xm⟩ := h.sideO e1 ha nB
  obtain ⟨y, hy, ym⟩ := h.sideO (by omega) hb nA
  have hxe := ((h.loc da (List.mem_iff_getElem?.2 ⟨_, ha⟩)).side x xm).1
  have hye := ((h.loc db (List.mem_iff_getElem?.2 ⟨_, hb⟩)).side y ym).1
  have tA : thereB s e.A = true := thereB_iff.2 ⟨e1, by omega⟩
  have tB : thereB s e.B = true := thereB_iff.2 ⟨by omega, by omega⟩
  have hone := h.one e.A.toNat e.B.toNat da db ha hb (by rw [Int.toNat_of_nonneg e1, Int.toNat_of_nonneg (by omega)]; exact nB) k hk
  rw [Int.toNat_of_nonneg e1, Int.toNat_of_nonneg (show 0 ≤ e.B by omega)] at hone
  unfold hasD at hone
  rw [hx, hy] at hone
  dsimp only at hone
  unfold countS
  rw [tA, tB, ha, hb]
  dsimp only
  rw [hx, hy]
  dsimp only
  have hcond : (decide (x.Epoch = y.Epoch) && (decide (k = 1) || decide (k = 2))) = true := by
    rw [hxe, hye]
    rcases hk with rfl | rfl <;> rfl
  rw [hcond, if_pos rfl, if_pos (show (true && true) = true from rfl), hxe, countM_cnt e2 k s.Mail h.mail]
  omega
theorem s_One1 {g : Graph} (hg : okG g = true) (s : Scene) (h : Inv g s) (hM : s.Mail.length ≤ 20000) : m_narthexlaw14_TableOne_1 s g = some true := by
  obtain ⟨g1, g2, g3, g4, g5⟩ := okG_parts hg
  have hD := h.few hg
  refine loop_pre g.Edges (m_narthexlaw14_TableOne_1_l1 s g) (fun pre => (pre.length : Int)) true (fun pre e post hp => ?_) ?_
  · have hx := mid_get hp
    have hm := mid_len hp
    have he := mid_mem hp
    dsimp only [m_narthexlaw14_TableOne_1_l1]
    rw [lt_len hx, ifb_true, at_get hx, Option.bind_some, s_Count s e 1 hD (by omega), Option.bind_some, h.count hg he (.inl rfl), Option.bind_some, s_Count s e 2 hD (by omega), Option.bind_some, h.count hg he (.inr rfl), len_snoc]
    dsimp only [m_narthexlaw14_TableOne_1_j2]
    rw [wr_succ (by omega)]
    rfl
  · dsimp only [m_narthexlaw14_TableOne_1_l1]
    rw [nlt_len, ifb_false]
    dsimp only [m_narthexlaw14_TableOne_1_j1]
    rw [s_Graph _ hD, Option.bind_some, h.graph hg]
    dsimp only
    rw [ifb_true, s_r03Same g g (by omega), Option.bind_some]
    dsimp only [m_narthexlaw14_TableOne_1_j3]
    rw [decide_eq_true rfl]; rfl
theorem p_narthexlaw14_TableOne (g : Graph) (l : List narthexlaw14_Act) : m_narthexlaw14_TableOne g l = some true := by
  have yes : m_narthexlaw14_TableOne_j1 g l true = some true := by
    simp only [m_narthexlaw14_TableOne_j1, ifb_true, s_awake14, Option.bind_some]
  simp only [m_narthexlaw14_TableOne, s_awake14, Option.bind_some, Bool.not_true, ifb_false, s_Small, yes]
  by_cases hN : g.N ≤ 10
  · cases hg : okG g with
    | false => simp
    | true =>
      rw [decide_eq_true hN, ln_eq]
      by_cases hl : (80 : Int) < l.length
      · rw [decide_eq_true hl]; exact yes
      · rw [decide_eq_false hl]
        simp only [Bool.and_self, Bool.not_true, ifb_false, m_narthexlaw14_TableOne_j1]
        have := (s_run14 hg (by omega) (J := Inv g) (fun _ h => h) (Inv.first hg) (fun s k a b h he => (actA_inv hg (by omega) h k a b).2 he) l (by omega) (fun z => m_narthexlaw14_TableOne_1 z g) (fun s h hM => s_One1 hg s h hM)).1
        rw [this]; rfl
  · rw [decide_eq_false hN]; simp
/-! No two neighbours eat -/
theorem mem_phases {g : Graph} {s : Scene} (h : Inv g s) {p a : Int} (ha : a ∈ phasesL s.Diners p) : ∃ d, s.Diners[a.toNat]? = some d ∧ 0 ≤ a ∧ d.ID = a ∧ d.Phase = p := by
  unfold phasesL at ha
  obtain ⟨d, hd, rfl⟩ := List.mem_map.1 ha
  rw [List.mem_filter, decide_eq_true_eq] at hd
  obtain ⟨k, hk⟩ := List.mem_iff_getElem?.1 hd.1
  have := h.ids k d hk
  refine ⟨d, ?_, by omega, rfl, hd.2⟩
  rw [this, Int.toNat_natCast]; exact hk
theorem Inv.apart {g : Graph} {s : Scene} (hg : okG g = true) (h : Inv g s) {a b : Int} (ha : a ∈ phasesL s.Diners 2) (hb : b ∈ phasesL s.Diners 2) : hasB g a b = false := by
  cases hh : hasB g a b with
  | false => rfl
  | true =>
    have nb := (hasB_iff hg).1 hh
    have na := near_symm hg nb
    obtain ⟨da, a1, a2, a3, a4⟩ := mem_phases h ha
    obtain ⟨db, b1, b2, b3, b4⟩ := mem_phases h hb
    obtain ⟨x, hx, xm⟩ := h.sideO a2 a1 nb
    obtain ⟨y, hy, ym⟩ := h.sideO b2 b1 na
    have hone := h.one a.toNat b.toNat da db a1 b1 (by rw [Int.toNat_of_nonneg a2, Int.toNat_of_nonneg b2]; exact nb) 1 (.inl rfl)
    rw [Int.toNat_of_nonneg a2, Int.toNat_of_nonneg b2] at hone
    have fx := ((h.loc da (List.mem_iff_getElem?.2 ⟨_, a1⟩)).eat a4 x xm).1
    have fy := ((h.loc db (List.mem_iff_getElem?.2 ⟨_, b1⟩)).eat b4 y ym).1
    unfold hasD has at hone
    rw [hx, hy] at hone
    dsimp only at hone
    rw [if_pos rfl, if_pos rfl, fx, fy] at hone
    rw [show bn true = 1 from rfl] at hone
    omega
theorem phasesL_len (l : List Diner) (p : Int) : (phasesL l p).length ≤ l.length := by
  unfold phasesL; rw [List.length_map]; exact List.length_filter_le _ _
theorem s_Apart1 {g : Graph} (hg : okG g = true) (s : Scene) (h : Inv g s) : m_narthexlaw14_TableApart_1 s g = some true := by
  obtain ⟨g1, g2, g3, g4, g5⟩ := okG_parts hg
  have hD := h.few hg
  have hD1 := hD.1
  have hlen := phasesL_len s.Diners 2
  have hget : ∀ i : Nat, i < (phasesL s.Diners 2).length → ∃ a, (phasesL s.Diners 2)[i]? = some a ∧ a ∈ phasesL s.Diners 2 := fun i hi => ⟨_, List.getElem?_eq_getElem hi, List.getElem_mem hi⟩
  simp only [m_narthexlaw14_TableApart_1, s_Phases s 2 hD, Option.bind_some]
  refine loop_nat (phasesL s.Diners 2).length (m_narthexlaw14_TableApart_1_l1 s g (phasesL s.Diners 2)) (fun i => (i : Int)) true (fun i hi => ?_) ?_
  · obtain ⟨a, ha, ham⟩ := hget i hi
    dsimp only [m_narthexlaw14_TableApart_1_l1]
    rw [lt_len ha, ifb_true]
    refine loop_nat i (m_narthexlaw14_TableApart_1_l2 s g (phasesL s.Diners 2) i) (fun k => (k : Int)) (.inl ((i + 1 : Nat) : Int)) (fun k hk => ?_) ?_
    · obtain ⟨b, hb, hbm⟩ := hget k (by omega)
      dsimp only [m_narthexlaw14_TableApart_1_l2]
      rw [decide_eq_true (by omega), ifb_true, at_get ha, Option.bind_some, at_get hb, Option.bind_some, s_r03Has g a b (by omega), Option.bind_some, h.apart hg ham hbm, ifb_false, wr_succ (by omega)]
    · obtain ⟨d, d1, d2, d3, d4⟩ := mem_phases h ham
      have hdm := List.mem_iff_getElem?.2 ⟨_, d1⟩
      have heat := (h.loc d hdm).eat d4
      have hs := hD.2 d hdm
      have da : at_ s.Diners a = some d := by
        have := at_get d1
        rwa [Int.toNat_of_nonneg d2] at this
      dsimp only [m_narthexlaw14_TableApart_1_l2]
      rw [decide_eq_false (by omega), ifb_false]
      dsimp only [m_narthexlaw14_TableApart_1_j2]
      rw [at_get ha, Option.bind_some, da, Option.bind_some]
      have key := loop_pre d.Sides (m_narthexlaw14_TableApart_1_l3 i d) (fun pre => (pre.length : Int)) (.inl ((i + 1 : Nat) : Int)) (fun pre x post hp => ?_) ?_
      · rw [show ((List.length ([] : List Side) : Nat) : Int) = 0 from rfl] at key
        rw [key]; rfl
      · have hx := mid_get hp
        have hm := mid_len hp
        obtain ⟨x1, x2⟩ := heat x (mid_mem hp)
        dsimp only [m_narthexlaw14_TableApart_1_l3]
        rw [lt_len hx, ifb_true, at_get hx, Option.bind_some, x1, Option.bind_some, x2, len_snoc]
        dsimp only [m_narthexlaw14_TableApart_1_j4]
        rw [wr_succ (by omega)]; rfl
      · dsimp only [m_narthexlaw14_TableApart_1_l3]
        rw [nlt_len, ifb_false]
        dsimp only [m_narthexlaw14_TableApart_1_j3]
        rw [wr_succ (by omega)]; rfl
  · dsimp only [m_narthexlaw14_TableApart_1_l1]
    rw [nlt_len, ifb_false]; rfl
theorem p_narthexlaw14_TableApart (g : Graph) (l : List narthexlaw14_Act) : m_narthexlaw14_TableApart g l = some true := by
  have yes : m_narthexlaw14_TableApart_j1 g l true = some true := by
    simp only [m_narthexlaw14_TableApart_j1, ifb_true, s_awake14, Option.bind_some]
  simp only [m_narthexlaw14_TableApart, s_awake14, Option.bind_some, Bool.not_true, ifb_false, s_Small, yes]
  by_cases hN : g.N ≤ 10
  · cases hg : okG g with
    | false => simp
    | true =>
      rw [decide_eq_true hN, ln_eq]
      by_cases hl : (80 : Int) < l.length
      · rw [decide_eq_true hl]; exact yes
      · rw [decide_eq_false hl]
        simp only [Bool.and_self, Bool.not_true, ifb_false, m_narthexlaw14_TableApart_j1]
        have := (s_run14 hg (by omega) (J := Inv g) (fun _ h => h) (Inv.first hg) (fun s k a b h he => (actA_inv hg (by omega) h k a b).2 he) l (by omega) (fun z => m_narthexlaw14_TableApart_1 z g) (fun s h _ => s_Apart1 hg s h)).1
        rw [this]; rfl
  · rw [decide_eq_false hN]; simp
end NX
end Go.Proofs.Ytadebhbiglmodaa
