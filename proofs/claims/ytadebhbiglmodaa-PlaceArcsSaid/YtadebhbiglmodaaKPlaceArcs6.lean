/-
  The function narthex/narthexlaw12.PlaceOne: its code compiled, a model, and that the code answers as the model. Written by a program of ours (lb.py). No statement of the seat is proved here.
-/
import Derived.KernelRfl
import Derived.Test.YtadebhbiglmodaaKPlaceArcs4
import Derived.Test.YtadebhbiglmodaaKPlaceArcs5
import Derived.Test.YtadebhbiglmodaaKPlaceArcs3
import Derived.Test.YtadebhbiglmodaaKPlaceArcs2
namespace Go.Proofs.Ytadebhbiglmodaa
namespace NX
open Go
set_option maxRecDepth 100000
set_option maxHeartbeats 4000000
def e_narthexlaw12_PlaceOne_L0 : EC := .seq (.seq (.reg [⟨(some 48), none, .mv (.t 9)⟩, ⟨(some 49), none, .fld 1 (.t 2)⟩, ⟨(some 50), none, .load (.t 49)⟩, ⟨(some 51), none, .len (.t 50)⟩, ⟨(some 52), none, .bin .lss (.t 48) (.t 51)⟩]) (.ite (.t 52) (.skip) (.exit 0))) (.seq (.blk 1 (.seq (.drw [⟨(some 56), none, .mv (.t 5)⟩, ⟨(some 57), none, .fld 1 (.t 2)⟩, ⟨(some 58), none, .load (.t 57)⟩, ⟨(some 59), none, .mv (.t 9)⟩, ⟨(some 60), none, .idx 2 (.t 58) (.t 59)⟩, ⟨(some 61), none, .fld 0 (.t 60)⟩, ⟨(some 62), none, .load (.t 61)⟩, ⟨(some 63), none, .idx 3 (.t 56) (.t 62)⟩, ⟨(some 64), none, .loadA 3 (.t 63)⟩, ⟨(some 65), none, .fld 1 (.t 2)⟩, ⟨(some 66), none, .load (.t 65)⟩, ⟨(some 67), none, .mv (.t 9)⟩, ⟨(some 68), none, .idx 2 (.t 66) (.t 67)⟩, ⟨(some 69), none, .fld 1 (.t 68)⟩, ⟨(some 70), none, .load (.t 69)⟩, ⟨(some 71), none, .call 24 [(.t 64), (.t 70)]⟩, ⟨(some 55), none, .mv (.t 71)⟩, ⟨(some 72), none, .ext (.t 55) 0⟩, ⟨(some 73), none, .ext (.t 55) 1⟩, ⟨(some 10), none, .alloc 49 [.iv 0, .iv 0, .iv 0, .ff, .ff, .ff, .ff, .ff]⟩, ⟨none, none, .store 8 (.t 10) (.t 72)⟩, ⟨(some 11), none, .mv (.t 73)⟩] [[], [], [1], [], [2, 3], [4], [5], [0, 6], [7], [], [9], [], [10, 11], [12], [13], [8, 14], [15], [16], [16], [], [19, 17, 15, 0, 1, 2, 3, 4, 5, 6, 7, 8, 9, 10, 11, 12, 13, 14, 15, 16, 17, 19], [18, 20, 0, 1, 2, 3, 4, 5, 6, 7, 8, 9, 10, 11, 12, 13, 14, 15, 16, 17, 18, 19, 20]] [[7], [2], [1, 4], [4], [2, 3, 5], [4, 6], [5, 7], [0, 6, 8], [7, 15], [10], [9, 12], [12], [10, 11, 13], [12, 14], [13, 15], [8, 14, 16], [15, 17, 18], [16, 20], [16, 21], [20], [17, 19], [18]]) (.seq (.drw [⟨(some 75), none, .mv (.t 5)⟩, ⟨(some 76), none, .fld 1 (.t 2)⟩, ⟨(some 77), none, .load (.t 76)⟩, ⟨(some 78), none, .mv (.t 9)⟩, ⟨(some 79), none, .idx 2 (.t 77) (.t 78)⟩, ⟨(some 80), none, .fld 1 (.t 79)⟩, ⟨(some 81), none, .load (.t 80)⟩, ⟨(some 82), none, .idx 3 (.t 75) (.t 81)⟩, ⟨(some 83), none, .loadA 3 (.t 82)⟩, ⟨(some 84), none, .fld 1 (.t 2)⟩, ⟨(some 85), none, .load (.t 84)⟩, ⟨(some 86), none, .mv (.t 9)⟩, ⟨(some 87), none, .idx 2 (.t 85) (.t 86)⟩, ⟨(some 88), none, .fld 0 (.t 87)⟩, ⟨(some 89), none, .load (.t 88)⟩, ⟨(some 90), none, .call 24 [(.t 83), (.t 89)]⟩, ⟨(some 74), none, .mv (.t 90)⟩, ⟨(some 91), none, .ext (.t 74) 0⟩, ⟨(some 92), none, .ext (.t 74) 1⟩, ⟨(some 12), none, .alloc 49 [.iv 0, .iv 0, .iv 0, .ff, .ff, .ff, .ff, .ff]⟩, ⟨none, none, .store 8 (.t 12) (.t 91)⟩, ⟨(some 13), none, .mv (.t 92)⟩] [[], [], [1], [], [2, 3], [4], [5], [0, 6], [7], [], [9], [], [10, 11], [12], [13], [8, 14], [15], [16], [16], [], [19, 17, 15, 0, 1, 2, 3, 4, 5, 6, 7, 8, 9, 10, 11, 12, 13, 14, 15, 16, 17, 19], [18, 20, 0, 1, 2, 3, 4, 5, 6, 7, 8, 9, 10, 11, 12, 13, 14, 15, 16, 17, 18, 19, 20]] [[7], [2], [1, 4], [4], [2, 3, 5], [4, 6], [5, 7], [0, 6, 8], [7, 15], [10], [9, 12], [12], [10, 11, 13], [12, 14], [13, 15], [8, 14, 16], [15, 17, 18], [16, 20], [16, 21], [20], [17, 19], [18]]) (.seq (.reg [⟨(some 93), none, .mv (.t 11)⟩, ⟨(some 94), none, .not (.t 93)⟩, ⟨(some 95), none, .mv (.t 94)⟩, ⟨(some 96), (some (95, false)), .mv (.t 13)⟩, ⟨(some 97), (some (95, false)), .not (.t 96)⟩, ⟨(some 98), none, .pick (.t 95) (.c .tt) (.t 97)⟩, ⟨(some 99), none, .mv (.t 98)⟩, ⟨(some 100), (some (99, false)), .fld 3 (.t 10)⟩, ⟨(some 101), (some (99, false)), .load (.t 100)⟩, ⟨(some 102), (some (99, false)), .fld 3 (.t 12)⟩, ⟨(some 103), (some (99, false)), .load (.t 102)⟩, ⟨(some 104), (some (99, false)), .bq false (.t 101) (.t 103)⟩, ⟨(some 105), none, .pick (.t 99) (.c .tt) (.t 104)⟩, ⟨(some 106), none, .mv (.t 105)⟩, ⟨(some 107), (some (106, false)), .fld 5 (.t 10)⟩, ⟨(some 108), (some (106, false)), .load (.t 107)⟩, ⟨(some 109), (some (106, false)), .fld 5 (.t 12)⟩, ⟨(some 110), (some (106, false)), .load (.t 109)⟩, ⟨(some 111), (some (106, false)), .bq false (.t 108) (.t 110)⟩, ⟨(some 112), none, .pick (.t 106) (.c .tt) (.t 111)⟩, ⟨(some 113), none, .mv (.t 112)⟩, ⟨(some 114), (some (113, false)), .fld 6 (.t 10)⟩, ⟨(some 115), (some (113, false)), .load (.t 114)⟩, ⟨(some 116), (some (113, false)), .fld 6 (.t 12)⟩, ⟨(some 117), (some (113, false)), .load (.t 116)⟩, ⟨(some 118), (some (113, false)), .bq false (.t 115) (.t 117)⟩, ⟨(some 119), none, .pick (.t 113) (.c .tt) (.t 118)⟩, ⟨(some 120), none, .mv (.t 119)⟩, ⟨(some 121), (some (120, false)), .fld 7 (.t 10)⟩, ⟨(some 122), (some (120, false)), .load (.t 121)⟩, ⟨(some 123), (some (120, false)), .fld 7 (.t 12)⟩, ⟨(some 124), (some (120, false)), .load (.t 123)⟩, ⟨(some 125), (some (120, false)), .bq false (.t 122) (.t 124)⟩, ⟨(some 126), none, .pick (.t 120) (.c .tt) (.t 125)⟩, ⟨(some 127), none, .mv (.t 126)⟩, ⟨(some 128), (some (127, false)), .fld 3 (.t 10)⟩, ⟨(some 129), (some (127, false)), .load (.t 128)⟩, ⟨(some 130), (some (127, false)), .fld 5 (.t 10)⟩, ⟨(some 131), (some (127, false)), .load (.t 130)⟩, ⟨(some 132), (some (127, false)), .bq false (.t 129) (.t 131)⟩, ⟨(some 133), none, .pick (.t 127) (.c .tt) (.t 132)⟩, ⟨(some 134), none, .mv (.t 133)⟩, ⟨(some 135), (some (134, false)), .fld 6 (.t 10)⟩, ⟨(some 136), (some (134, false)), .load (.t 135)⟩, ⟨(some 137), (some (134, false)), .fld 7 (.t 10)⟩, ⟨(some 138), (some (134, false)), .load (.t 137)⟩, ⟨(some 139), (some (134, false)), .bq false (.t 136) (.t 138)⟩, ⟨(some 140), none, .pick (.t 134) (.c .tt) (.t 139)⟩, ⟨(some 141), none, .mv (.t 140)⟩, ⟨(some 142), (some (141, false)), .fld 3 (.t 10)⟩, ⟨(some 143), (some (141, false)), .load (.t 142)⟩, ⟨(some 144), (some (141, false)), .fld 4 (.t 10)⟩, ⟨(some 145), (some (141, false)), .load (.t 144)⟩, ⟨(some 146), (some (141, false)), .bq true (.t 143) (.t 145)⟩, ⟨(some 147), none, .pick (.t 141) (.c .tt) (.t 146)⟩, ⟨(some 148), none, .mv (.t 147)⟩, ⟨(some 149), (some (148, false)), .fld 3 (.t 12)⟩, ⟨(some 150), (some (148, false)), .load (.t 149)⟩, ⟨(some 151), (some (148, false)), .fld 4 (.t 12)⟩, ⟨(some 152), (some (148, false)), .load (.t 151)⟩, ⟨(some 153), (some (148, false)), .bq true (.t 150) (.t 152)⟩, ⟨(some 154), none, .pick (.t 148) (.c .tt) (.t 153)⟩, ⟨(some 155), none, .mv (.t 154)⟩, ⟨(some 156), (some (155, false)), .fld 1 (.t 10)⟩, ⟨(some 157), (some (155, false)), .load (.t 156)⟩, ⟨(some 158), (some (155, false)), .bin .neq (.t 157) (.c (.iv 1))⟩, ⟨(some 159), none, .pick (.t 155) (.c .tt) (.t 158)⟩, ⟨(some 160), none, .mv (.t 159)⟩, ⟨(some 161), (some (160, false)), .fld 1 (.t 12)⟩, ⟨(some 162), (some (160, false)), .load (.t 161)⟩, ⟨(some 163), (some (160, false)), .bin .neq (.t 162) (.c (.iv 1))⟩, ⟨(some 164), none, .pick (.t 160) (.c .tt) (.t 163)⟩]) (.ite (.t 164) (.seq (.reg [⟨(some 4), none, .mv (.c .ff)⟩]) (.ret)) (.skip)))))) (.reg [⟨(some 53), none, .mv (.t 9)⟩, ⟨(some 54), none, .bin .add (.t 53) (.c (.iv 1))⟩, ⟨(some 9), none, .mv (.t 54)⟩]))
def e_narthexlaw12_PlaceOne : EC := .seq (.reg [⟨(some 2), none, .box 24 2 (.t 0)⟩, ⟨(some 4), none, .mv (.c .ff)⟩]) (.seq (.seq (.reg [⟨(some 14), none, .call 13 []⟩, ⟨(some 15), none, .not (.t 14)⟩, ⟨(some 16), none, .mv (.t 15)⟩, ⟨(some 17), (some (16, false)), .fld 1 (.t 2)⟩, ⟨(some 18), (some (16, false)), .load (.t 17)⟩, ⟨(some 19), (some (16, false)), .len (.t 18)⟩, ⟨(some 20), (some (16, false)), .bin .gtr (.t 19) (.c (.iv 60))⟩, ⟨(some 21), none, .pick (.t 16) (.c .tt) (.t 20)⟩, ⟨(some 22), none, .mv (.t 21)⟩, ⟨(some 23), (some (22, false)), .mv (.t 1)⟩, ⟨(some 24), (some (22, false)), .len (.t 23)⟩, ⟨(some 25), (some (22, false)), .bin .gtr (.t 24) (.c (.iv 70))⟩, ⟨(some 26), none, .pick (.t 22) (.c .tt) (.t 25)⟩]) (.ite (.t 26) (.seq (.reg [⟨(some 27), none, .call 13 []⟩, ⟨(some 4), none, .mv (.t 27)⟩]) (.ret)) (.skip))) (.seq (.reg [⟨(some 29), none, .loadA 2 (.t 2)⟩, ⟨(some 30), none, .call 15 [(.t 29)]⟩, ⟨(some 31), none, .bsl 3 1 0 [.iv 0] []⟩, ⟨(some 32), none, .mv (.t 1)⟩, ⟨(some 33), none, .app 3 1 8 (.t 31) (.t 32)⟩, ⟨(some 34), none, .call 14 [(.t 30), (.t 33)]⟩, ⟨(some 28), none, .mv (.t 34)⟩, ⟨(some 35), none, .ext (.t 28) 0⟩, ⟨(some 36), none, .ext (.t 28) 1⟩, ⟨(some 5), none, .mv (.t 35)⟩, ⟨(some 6), none, .mv (.t 36)⟩]) (.seq (.seq (.reg [⟨(some 37), none, .mv (.t 6)⟩, ⟨(some 38), none, .bin .neq (.t 37) (.c (.iv 0))⟩]) (.ite (.t 38) (.seq (.reg [⟨(some 39), none, .mv (.t 5)⟩, ⟨(some 40), none, .len (.t 39)⟩, ⟨(some 41), none, .bin .eql (.t 40) (.c (.iv 0))⟩, ⟨(some 4), none, .mv (.t 41)⟩]) (.ret)) (.skip))) (.seq (.reg [⟨(some 43), none, .mv (.t 5)⟩, ⟨(some 44), none, .call 22 [(.t 43)]⟩, ⟨(some 45), none, .call 21 [(.t 44)]⟩, ⟨(some 42), none, .mv (.t 45)⟩, ⟨(some 46), none, .ext (.t 42) 0⟩, ⟨(some 47), none, .ext (.t 42) 1⟩, ⟨(some 7), none, .alloc 24 [.iv 0, .nl]⟩, ⟨none, none, .store 2 (.t 7) (.t 46)⟩, ⟨(some 8), none, .mv (.t 47)⟩]) (.seq (.seq (.reg [⟨(some 9), none, .mv (.c (.iv 0))⟩]) (.blk 0 (.loop e_narthexlaw12_PlaceOne_L0))) (.seq (.reg [⟨(some 165), none, .mv (.t 8)⟩, ⟨(some 166), none, .mv (.t 165)⟩, ⟨(some 167), (some (166, true)), .loadA 2 (.t 2)⟩, ⟨(some 168), (some (166, true)), .loadA 2 (.t 7)⟩, ⟨(some 169), (some (166, true)), .call 26 [(.t 167), (.t 168)]⟩, ⟨(some 170), none, .pick (.t 166) (.t 169) (.c .ff)⟩, ⟨(some 4), none, .mv (.t 170)⟩]) (.ret)))))))
theorem ok_narthexlaw12_PlaceOne : FnOK Try.prog 6 Try.f6 e_narthexlaw12_PlaceOne [.t 4] 2 169 := ⟨by kernel_rfl, ⟨_, rfl, by kernel_rfl⟩, by kernel_rfl, by kernel_rfl⟩
/- narthex/narthexlaw12.PlaceOne -/
noncomputable def m_narthexlaw12_PlaceOne_j6  : Bool → Option Bool
| x46 =>
 some x46
noncomputable def m_narthexlaw12_PlaceOne_j2 (x1 : Graph) (x10 : (Graph × Bool)) : Unit → Option Bool
| () =>
 ifb x10.2 (
 (m_narthexref03_Same x1 x10.1).bind fun x45 =>
 m_narthexlaw12_PlaceOne_j6 x45) (
 m_narthexlaw12_PlaceOne_j6 false)
noncomputable def m_narthexlaw12_PlaceOne_j5 (x25 : Int) : Bool → Option (Int ⊕ Bool)
| x38 =>
 ifb x38 (
 Option.map Sum.inr (some false)) (
 some (.inl (wr (x25 + 1))))
noncomputable def m_narthexlaw12_PlaceOne_j4 (x25 : Int) (x30 : Bool) (x31 : Side) : (Bool × Side) → Option (Int ⊕ Bool)
| (x36, x37) =>
 ifb (!x30) (
 (m_narthexlaw12_PlaceOne_j5 x25) true) (
 ifb (!x36) (
 (m_narthexlaw12_PlaceOne_j5 x25) true) (
 ifb (x31.Fork == x37.Fork) (
 (m_narthexlaw12_PlaceOne_j5 x25) true) (
 ifb (x31.Token == x37.Token) (
 (m_narthexlaw12_PlaceOne_j5 x25) true) (
 ifb (x31.Bottle == x37.Bottle) (
 (m_narthexlaw12_PlaceOne_j5 x25) true) (
 ifb (x31.Ask == x37.Ask) (
 (m_narthexlaw12_PlaceOne_j5 x25) true) (
 ifb (x31.Fork == x31.Token) (
 (m_narthexlaw12_PlaceOne_j5 x25) true) (
 ifb (x31.Bottle == x31.Ask) (
 (m_narthexlaw12_PlaceOne_j5 x25) true) (
 ifb (!(x31.Fork == x31.Dirty)) (
 (m_narthexlaw12_PlaceOne_j5 x25) true) (
 ifb (!(x37.Fork == x37.Dirty)) (
 (m_narthexlaw12_PlaceOne_j5 x25) true) (
 ifb (!decide (x31.Epoch = 1)) (
 (m_narthexlaw12_PlaceOne_j5 x25) true) (
 (m_narthexlaw12_PlaceOne_j5 x25) (!decide (x37.Epoch = 1)))))))))))))
noncomputable def m_narthexlaw12_PlaceOne_j3 (x1 : Graph) (x8 : ((List Diner) × Int)) (x25 : Int) : (Bool × Side) → Option (Int ⊕ Bool)
| (x30, x31) =>
 (at_ x1.Edges x25).bind fun x32 =>
 (at_ x8.1 x32.B).bind fun x33 =>
 (at_ x1.Edges x25).bind fun x34 =>
 (m_place_Side x33 x34.A).bind fun x35 =>
 (m_narthexlaw12_PlaceOne_j4 x25 x30 x31) (x35.2, x35.1)
noncomputable def m_narthexlaw12_PlaceOne_l1 (x1 : Graph) (x8 : ((List Diner) × Int)) (x10 : (Graph × Bool)) : Int → Option (Int ⊕ Bool)
| x25 =>
 ifb (decide (x25 < (ln Edge.row x1.Edges))) (
 (at_ x1.Edges x25).bind fun x26 =>
 (at_ x8.1 x26.A).bind fun x27 =>
 (at_ x1.Edges x25).bind fun x28 =>
 (m_place_Side x27 x28.B).bind fun x29 =>
 (m_narthexlaw12_PlaceOne_j3 x1 x8 x25) (x29.2, x29.1)) (
 Option.map Sum.inr ((m_narthexlaw12_PlaceOne_j2 x1 x10) ()))
noncomputable def m_narthexlaw12_PlaceOne_j1 (x1 : Graph) (x2 : (List Int)) : Bool → Option Bool
| x4 =>
 ifb x4 (
 (m_narthexlaw12_awake).bind fun x5 =>
 some x5) (
 (m_narthexlaw03_Own x1).bind fun x6 =>
 (app_ 8 (([] : List Int)) x2).bind fun x7 =>
 (m_place_Table x6 x7).bind fun x8 =>
 ifb (!decide (x8.2 = 0)) (
 some (decide ((ln Diner.row x8.1) = 0))) (
 (m_narthexlaw12_Own x8.1).bind fun x9 =>
 (m_place_Graph x9).bind fun x10 =>
 loop (m_narthexlaw12_PlaceOne_l1 x1 x8 x10) 0))
noncomputable def m_narthexlaw12_PlaceOne (x1 : Graph) (x2 : (List Int)) : Option Bool :=
 (m_narthexlaw12_awake).bind fun x3 =>
 ifb (!x3) (
 (m_narthexlaw12_PlaceOne_j1 x1 x2) true) (
 ifb (decide (60 < (ln Edge.row x1.Edges))) (
 (m_narthexlaw12_PlaceOne_j1 x1 x2) true) (
 (m_narthexlaw12_PlaceOne_j1 x1 x2) (decide (70 < (ln intRow x2)))))
theorem k_narthexlaw12_PlaceOne (x1 : Graph) (x2 : (List Int)) (r : Bool) (h : m_narthexlaw12_PlaceOne x1 x2 = some r) : FunP Try.prog 6 [.agg (Graph.row x1), .sl 1 (List.map intRow x2)] (.bv r) := by
  refine FunP_intro ok_narthexlaw12_PlaceOne rfl rfl fun w0 H0 => ?_
  rw [m_narthexlaw12_PlaceOne] at h
  refine V_go 8 ?_
  dsimp only [e_narthexlaw12_PlaceOne, e_narthexlaw12_PlaceOne_L0, go_sem, Nat.reduceBEq, Nat.reduceAdd]
  refine ⟨by simp, ?_⟩
  obtain ⟨x3, ex3, h⟩ := Option.bind_eq_some_iff.1 h
  refine V_call trivial (k_narthexlaw12_awake _ ex3) (by first | exact leL_refl _ | simp [go_sem]) (by first | rfl | simp [go_sem]) ?_
  refine V_go 2 ?_
  dsimp only [e_narthexlaw12_PlaceOne, e_narthexlaw12_PlaceOne_L0, go_sem, Nat.reduceBEq, Nat.reduceAdd]
  refine ⟨by simp, ?_⟩
  refine V_join (fun (x4 : Bool) => (⟨(.any :: .sl 1 (List.map intRow x2) :: .ptr 0 0 :: an 23 (.bv x4 :: an 144 [])), [some ⟨24, [.iv x1.N, .sl 2 (List.map Edge.row x1.Edges)]⟩], []⟩ : St)) (m_narthexlaw12_PlaceOne_j1 x1 x2) r ?_ fun J1 => ?_
  · intro x4 h
    rw [m_narthexlaw12_PlaceOne_j1] at h
    try dsimp only
    refine M_ite h rfl (fun hb h => ?_) (fun hb h => ?_)
    · refine V_go 2 ?_
      dsimp only [e_narthexlaw12_PlaceOne, e_narthexlaw12_PlaceOne_L0, go_sem, Nat.reduceBEq, Nat.reduceAdd]
      refine ⟨by simp, ?_⟩
      obtain ⟨x5, ex5, h⟩ := Option.bind_eq_some_iff.1 h
      refine V_call trivial (k_narthexlaw12_awake _ ex5) (by first | exact leL_refl _ | simp [go_sem]) (by first | rfl | simp [go_sem]) ?_
      refine V_go 2 ?_
      dsimp only [e_narthexlaw12_PlaceOne, e_narthexlaw12_PlaceOne_L0, go_sem, Nat.reduceBEq, Nat.reduceAdd]
      refine ⟨by simp, ?_⟩
      exact M_done (res := fun (r : Bool) => .bv r) ok_narthexlaw12_PlaceOne h (by first | exact le_refl _ | simp [go_sem])
    · refine V_go 4 ?_
      dsimp only [e_narthexlaw12_PlaceOne, e_narthexlaw12_PlaceOne_L0, go_sem, Nat.reduceBEq, Nat.reduceAdd]
      refine ⟨by simp, ?_⟩
      obtain ⟨x6, ex6, h⟩ := Option.bind_eq_some_iff.1 h
      refine V_call trivial (k_narthexlaw03_Own x1 _ ex6) (by first | exact leL_refl _ | simp [go_sem]) (by first | rfl | simp [go_sem]) ?_
      refine V_go 2 ?_
      dsimp only [e_narthexlaw12_PlaceOne, e_narthexlaw12_PlaceOne_L0, go_sem, Nat.reduceBEq, Nat.reduceAdd]
      refine ⟨by simp, ?_⟩
      obtain ⟨x7, ex7, h⟩ := Option.bind_eq_some_iff.1 h
      refine V_appM intRow ex7 trivial rfl rfl rfl ?_
      refine V_seal 1 rfl ?_
      dsimp only [go_sem, Nat.reduceBEq, Nat.reduceAdd]
      obtain ⟨x8, ex8, h⟩ := Option.bind_eq_some_iff.1 h
      refine V_call trivial (k_place_Table x6 x7 _ ex8) (by first | exact leL_refl _ | simp [go_sem]) (by first | rfl | simp [go_sem]) ?_
      refine V_go 12 ?_
      dsimp only [e_narthexlaw12_PlaceOne, e_narthexlaw12_PlaceOne_L0, go_sem, Nat.reduceBEq, Nat.reduceAdd]
      refine ⟨by simp, ?_⟩
      refine M_ite h rfl (fun hb h => ?_) (fun hb h => ?_)
      · refine V_go 7 ?_
        dsimp only [e_narthexlaw12_PlaceOne, e_narthexlaw12_PlaceOne_L0, go_sem, Nat.reduceBEq, Nat.reduceAdd]
        refine ⟨by simp, ?_⟩
        exact M_done (res := fun (r : Bool) => .bv r) ok_narthexlaw12_PlaceOne h (by first | exact le_refl _ | simp [go_sem])
      · refine V_go 4 ?_
        dsimp only [e_narthexlaw12_PlaceOne, e_narthexlaw12_PlaceOne_L0, go_sem, Nat.reduceBEq, Nat.reduceAdd]
        refine ⟨by simp, ?_⟩
        obtain ⟨x9, ex9, h⟩ := Option.bind_eq_some_iff.1 h
        refine V_call trivial (k_narthexlaw12_Own x8.1 _ ex9) (by first | exact leL_refl _ | simp [go_sem]) (by first | rfl | simp [go_sem]) ?_
        obtain ⟨x10, ex10, h⟩ := Option.bind_eq_some_iff.1 h
        refine V_call trivial (k_place_Graph x9 _ ex10) (by first | exact leL_refl _ | simp [go_sem]) (by first | rfl | simp [go_sem]) ?_
        refine V_go 12 ?_
        dsimp only [e_narthexlaw12_PlaceOne, e_narthexlaw12_PlaceOne_L0, go_sem, Nat.reduceBEq, Nat.reduceAdd]
        refine ⟨by simp, ?_⟩
        refine V_join (fun (_ : Unit) => (⟨(.any :: .any :: .ptr 0 0 :: an 4 (.ptr 1 0 :: .bv x10.2 :: an 162 [])), [some ⟨24, [.iv x1.N, .sl 2 (List.map Edge.row x1.Edges)]⟩, some ⟨24, [.iv x10.1.N, .sl 2 (List.map Edge.row x10.1.Edges)]⟩], []⟩ : St)) (m_narthexlaw12_PlaceOne_j2 x1 x10) r ?_ fun J2 => ?_
        · rintro ⟨⟩ h
          rw [m_narthexlaw12_PlaceOne_j2] at h
          try dsimp only
          refine V_go 4 ?_
          dsimp only [e_narthexlaw12_PlaceOne, e_narthexlaw12_PlaceOne_L0, go_sem, Nat.reduceBEq, Nat.reduceAdd]
          refine ⟨by simp, ?_⟩
          refine V_join (fun (x46 : Bool) => (⟨(an 4 (.bv x46 :: an 166 [])), [], []⟩ : St)) m_narthexlaw12_PlaceOne_j6 r ?_ fun J6 => ?_
          · intro x46 h
            rw [m_narthexlaw12_PlaceOne_j6] at h
            try dsimp only
            exact M_done (res := fun (r : Bool) => .bv r) ok_narthexlaw12_PlaceOne h (by first | exact le_refl _ | simp [go_sem])
          · refine M_case 166 h rfl (fun hb h => ?_) (fun hb h => ?_)
            · dsimp only [go_sem, Nat.reduceBEq, Nat.reduceAdd]
              refine V_go 2 ?_
              dsimp only [e_narthexlaw12_PlaceOne, e_narthexlaw12_PlaceOne_L0, go_sem, Nat.reduceBEq, Nat.reduceAdd]
              refine ⟨by simp, ?_⟩
              obtain ⟨x45, ex45, h⟩ := Option.bind_eq_some_iff.1 h
              refine V_call trivial (k_narthexref03_Same x1 x10.1 _ ex45) (by first | exact leL_refl _ | simp [go_sem]) (by first | rfl | simp [go_sem]) ?_
              refine V_go 3 ?_
              dsimp only [e_narthexlaw12_PlaceOne, e_narthexlaw12_PlaceOne_L0, go_sem, Nat.reduceBEq, Nat.reduceAdd]
              refine ⟨by simp, ?_⟩
              exact M_to J6 (s := x45) h (by simp [go_sem]) (by first | rfl | simp [go_sem])
            · dsimp only [go_sem, Nat.reduceBEq, Nat.reduceAdd]
              refine V_go 6 ?_
              dsimp only [e_narthexlaw12_PlaceOne, e_narthexlaw12_PlaceOne_L0, go_sem, Nat.reduceBEq, Nat.reduceAdd]
              refine ⟨by simp, ?_⟩
              exact M_to J6 (s := false) h (by simp [go_sem]) (by first | rfl | simp [go_sem])
        · refine V_go 1 ?_
          dsimp only [e_narthexlaw12_PlaceOne, e_narthexlaw12_PlaceOne_L0, go_sem, Nat.reduceBEq, Nat.reduceAdd]
          refine ⟨by simp, ?_⟩
          refine M_loop h (fun (x25 : Int) => (⟨(.any :: .any :: .ptr 0 0 :: .any :: .any :: .sl 3 (List.map Diner.row x8.1) :: .any :: .ptr 1 0 :: .bv x10.2 :: .iv x25 :: an 161 []), [some ⟨24, [.iv x1.N, .sl 2 (List.map Edge.row x1.Edges)]⟩, some ⟨24, [.iv x10.1.N, .sl 2 (List.map Edge.row x10.1.Edges)]⟩], []⟩ : St)) (by simp [go_sem]) (by intro x25; first | rfl | simp [go_sem]) ?_
          rintro n1 x25 y1 h hin1 hout1
          rw [m_narthexlaw12_PlaceOne_l1] at h
          try dsimp only
          refine V_go 9 ?_
          dsimp only [e_narthexlaw12_PlaceOne, e_narthexlaw12_PlaceOne_L0, go_sem, Nat.reduceBEq, Nat.reduceAdd]
          refine ⟨by simp, ?_⟩
          refine M_ite h rfl (fun hb h => ?_) (fun hb h => ?_)
          · refine V_go 4 ?_
            dsimp only [e_narthexlaw12_PlaceOne, e_narthexlaw12_PlaceOne_L0, go_sem, Nat.reduceBEq, Nat.reduceAdd]
            refine ⟨by simp, ?_⟩
            refine V_join (fun ((x30, x31) : (Bool × Side)) => (⟨(.any :: .any :: .ptr 0 0 :: .any :: .any :: .sl 3 (List.map Diner.row x8.1) :: .any :: .ptr 1 0 :: .bv x10.2 :: .iv x25 :: .ptr 2 0 :: .bv x30 :: an 159 []), [some ⟨24, [.iv x1.N, .sl 2 (List.map Edge.row x1.Edges)]⟩, some ⟨24, [.iv x10.1.N, .sl 2 (List.map Edge.row x10.1.Edges)]⟩, some ⟨49, [.iv x31.Peer, .iv x31.Epoch, .iv x31.State, .bv x31.Fork, .bv x31.Dirty, .bv x31.Token, .bv x31.Bottle, .bv x31.Ask]⟩], []⟩ : St)) (m_narthexlaw12_PlaceOne_j3 x1 x8 x25) y1 ?_ fun J3 => ?_
            · rintro ⟨x30, x31⟩ h
              rw [m_narthexlaw12_PlaceOne_j3] at h
              try dsimp only
              refine V_go 1 ?_
              dsimp only [e_narthexlaw12_PlaceOne, e_narthexlaw12_PlaceOne_L0, go_sem, Nat.reduceBEq, Nat.reduceAdd]
              refine ⟨by simp, ?_⟩
              refine V_join (fun ((x36, x37) : (Bool × Side)) => (⟨(.any :: .any :: .ptr 0 0 :: .any :: .any :: .sl 3 (List.map Diner.row x8.1) :: .any :: .ptr 1 0 :: .bv x10.2 :: .iv x25 :: .ptr 2 0 :: .bv x30 :: .ptr 3 0 :: .bv x36 :: an 157 []), [some ⟨24, [.iv x1.N, .sl 2 (List.map Edge.row x1.Edges)]⟩, some ⟨24, [.iv x10.1.N, .sl 2 (List.map Edge.row x10.1.Edges)]⟩, some ⟨49, [.iv x31.Peer, .iv x31.Epoch, .iv x31.State, .bv x31.Fork, .bv x31.Dirty, .bv x31.Token, .bv x31.Bottle, .bv x31.Ask]⟩, some ⟨49, [.iv x37.Peer, .iv x37.Epoch, .iv x37.State, .bv x37.Fork, .bv x37.Dirty, .bv x37.Token, .bv x37.Bottle, .bv x37.Ask]⟩], []⟩ : St)) (m_narthexlaw12_PlaceOne_j4 x25 x30 x31) y1 ?_ fun J4 => ?_
              · rintro ⟨x36, x37⟩ h
                rw [m_narthexlaw12_PlaceOne_j4] at h
                try dsimp only
                refine V_go 5 ?_
                dsimp only [e_narthexlaw12_PlaceOne, e_narthexlaw12_PlaceOne_L0, go_sem, Nat.reduceBEq, Nat.reduceAdd]
                refine ⟨by simp, ?_⟩
                refine V_join (fun (x38 : Bool) => (⟨(.any :: .any :: .ptr 0 0 :: .any :: .any :: .sl 3 (List.map Diner.row x8.1) :: .any :: .ptr 1 0 :: .bv x10.2 :: .iv x25 :: an 154 (.bv x38 :: an 6 [])), [some ⟨24, [.iv x1.N, .sl 2 (List.map Edge.row x1.Edges)]⟩, some ⟨24, [.iv x10.1.N, .sl 2 (List.map Edge.row x10.1.Edges)]⟩], []⟩ : St)) (m_narthexlaw12_PlaceOne_j5 x25) y1 ?_ fun J5 => ?_
                · intro x38 h
                  rw [m_narthexlaw12_PlaceOne_j5] at h
                  try dsimp only
                  refine M_ite h rfl (fun hb h => ?_) (fun hb h => ?_)
                  · refine V_go 4 ?_
                    dsimp only [e_narthexlaw12_PlaceOne, e_narthexlaw12_PlaceOne_L0, go_sem, Nat.reduceBEq, Nat.reduceAdd]
                    refine ⟨by simp, ?_⟩
                    exact M_done (res := fun (r : Bool) => .bv r) ok_narthexlaw12_PlaceOne (M_out h hout1) (by first | exact le_refl _ | simp [go_sem])
                  · refine V_go 7 ?_
                    dsimp only [e_narthexlaw12_PlaceOne, e_narthexlaw12_PlaceOne_L0, go_sem, Nat.reduceBEq, Nat.reduceAdd]
                    refine ⟨by simp, ?_⟩
                    exact M_back h hin1 (by simp [go_sem]) (by first | rfl | simp [go_sem])
                · refine M_case 95 h rfl (fun hb h => ?_) (fun hb h => ?_)
                  · dsimp only [go_sem, Nat.reduceBEq, Nat.reduceAdd]
                    refine V_go 70 ?_
                    dsimp only [e_narthexlaw12_PlaceOne, e_narthexlaw12_PlaceOne_L0, go_sem, Nat.reduceBEq, Nat.reduceAdd]
                    refine ⟨by simp, ?_⟩
                    exact M_to J5 (s := true) h (by simp [go_sem]) (by first | rfl | simp [go_sem])
                  · dsimp only [go_sem, Nat.reduceBEq, Nat.reduceAdd]
                    refine V_go 4 ?_
                    dsimp only [e_narthexlaw12_PlaceOne, e_narthexlaw12_PlaceOne_L0, go_sem, Nat.reduceBEq, Nat.reduceAdd]
                    refine ⟨by simp, ?_⟩
                    refine M_case 99 h rfl (fun hb h => ?_) (fun hb h => ?_)
                    · dsimp only [go_sem, Nat.reduceBEq, Nat.reduceAdd]
                      refine V_go 66 ?_
                      dsimp only [e_narthexlaw12_PlaceOne, e_narthexlaw12_PlaceOne_L0, go_sem, Nat.reduceBEq, Nat.reduceAdd]
                      refine ⟨by simp, ?_⟩
                      exact M_to J5 (s := true) h (by simp [go_sem]) (by first | rfl | simp [go_sem])
                    · dsimp only [go_sem, Nat.reduceBEq, Nat.reduceAdd]
                      refine V_go 7 ?_
                      dsimp only [e_narthexlaw12_PlaceOne, e_narthexlaw12_PlaceOne_L0, go_sem, Nat.reduceBEq, Nat.reduceAdd]
                      refine ⟨by simp, ?_⟩
                      refine M_case 106 h rfl (fun hb h => ?_) (fun hb h => ?_)
                      · dsimp only [go_sem, Nat.reduceBEq, Nat.reduceAdd]
                        refine V_go 59 ?_
                        dsimp only [e_narthexlaw12_PlaceOne, e_narthexlaw12_PlaceOne_L0, go_sem, Nat.reduceBEq, Nat.reduceAdd]
                        refine ⟨by simp, ?_⟩
                        exact M_to J5 (s := true) h (by simp [go_sem]) (by first | rfl | simp [go_sem])
                      · dsimp only [go_sem, Nat.reduceBEq, Nat.reduceAdd]
                        refine V_go 7 ?_
                        dsimp only [e_narthexlaw12_PlaceOne, e_narthexlaw12_PlaceOne_L0, go_sem, Nat.reduceBEq, Nat.reduceAdd]
                        refine ⟨by simp, ?_⟩
                        refine M_case 113 h rfl (fun hb h => ?_) (fun hb h => ?_)
                        · dsimp only [go_sem, Nat.reduceBEq, Nat.reduceAdd]
                          refine V_go 52 ?_
                          dsimp only [e_narthexlaw12_PlaceOne, e_narthexlaw12_PlaceOne_L0, go_sem, Nat.reduceBEq, Nat.reduceAdd]
                          refine ⟨by simp, ?_⟩
                          exact M_to J5 (s := true) h (by simp [go_sem]) (by first | rfl | simp [go_sem])
                        · dsimp only [go_sem, Nat.reduceBEq, Nat.reduceAdd]
                          refine V_go 7 ?_
                          dsimp only [e_narthexlaw12_PlaceOne, e_narthexlaw12_PlaceOne_L0, go_sem, Nat.reduceBEq, Nat.reduceAdd]
                          refine ⟨by simp, ?_⟩
                          refine M_case 120 h rfl (fun hb h => ?_) (fun hb h => ?_)
                          · dsimp only [go_sem, Nat.reduceBEq, Nat.reduceAdd]
                            refine V_go 45 ?_
                            dsimp only [e_narthexlaw12_PlaceOne, e_narthexlaw12_PlaceOne_L0, go_sem, Nat.reduceBEq, Nat.reduceAdd]
                            refine ⟨by simp, ?_⟩
                            exact M_to J5 (s := true) h (by simp [go_sem]) (by first | rfl | simp [go_sem])
                          · dsimp only [go_sem, Nat.reduceBEq, Nat.reduceAdd]
                            refine V_go 7 ?_
                            dsimp only [e_narthexlaw12_PlaceOne, e_narthexlaw12_PlaceOne_L0, go_sem, Nat.reduceBEq, Nat.reduceAdd]
                            refine ⟨by simp, ?_⟩
                            refine M_case 127 h rfl (fun hb h => ?_) (fun hb h => ?_)
                            · dsimp only [go_sem, Nat.reduceBEq, Nat.reduceAdd]
                              refine V_go 38 ?_
                              dsimp only [e_narthexlaw12_PlaceOne, e_narthexlaw12_PlaceOne_L0, go_sem, Nat.reduceBEq, Nat.reduceAdd]
                              refine ⟨by simp, ?_⟩
                              exact M_to J5 (s := true) h (by simp [go_sem]) (by first | rfl | simp [go_sem])
                            · dsimp only [go_sem, Nat.reduceBEq, Nat.reduceAdd]
                              refine V_go 7 ?_
                              dsimp only [e_narthexlaw12_PlaceOne, e_narthexlaw12_PlaceOne_L0, go_sem, Nat.reduceBEq, Nat.reduceAdd]
                              refine ⟨by simp, ?_⟩
                              refine M_case 134 h rfl (fun hb h => ?_) (fun hb h => ?_)
                              · dsimp only [go_sem, Nat.reduceBEq, Nat.reduceAdd]
                                refine V_go 31 ?_
                                dsimp only [e_narthexlaw12_PlaceOne, e_narthexlaw12_PlaceOne_L0, go_sem, Nat.reduceBEq, Nat.reduceAdd]
                                refine ⟨by simp, ?_⟩
                                exact M_to J5 (s := true) h (by simp [go_sem]) (by first | rfl | simp [go_sem])
                              · dsimp only [go_sem, Nat.reduceBEq, Nat.reduceAdd]
                                refine V_go 7 ?_
                                dsimp only [e_narthexlaw12_PlaceOne, e_narthexlaw12_PlaceOne_L0, go_sem, Nat.reduceBEq, Nat.reduceAdd]
                                refine ⟨by simp, ?_⟩
                                refine M_case 141 h rfl (fun hb h => ?_) (fun hb h => ?_)
                                · dsimp only [go_sem, Nat.reduceBEq, Nat.reduceAdd]
                                  refine V_go 24 ?_
                                  dsimp only [e_narthexlaw12_PlaceOne, e_narthexlaw12_PlaceOne_L0, go_sem, Nat.reduceBEq, Nat.reduceAdd]
                                  refine ⟨by simp, ?_⟩
                                  exact M_to J5 (s := true) h (by simp [go_sem]) (by first | rfl | simp [go_sem])
                                · dsimp only [go_sem, Nat.reduceBEq, Nat.reduceAdd]
                                  refine V_go 7 ?_
                                  dsimp only [e_narthexlaw12_PlaceOne, e_narthexlaw12_PlaceOne_L0, go_sem, Nat.reduceBEq, Nat.reduceAdd]
                                  refine ⟨by simp, ?_⟩
                                  refine M_case 148 h rfl (fun hb h => ?_) (fun hb h => ?_)
                                  · dsimp only [go_sem, Nat.reduceBEq, Nat.reduceAdd]
                                    refine V_go 17 ?_
                                    dsimp only [e_narthexlaw12_PlaceOne, e_narthexlaw12_PlaceOne_L0, go_sem, Nat.reduceBEq, Nat.reduceAdd]
                                    refine ⟨by simp, ?_⟩
                                    exact M_to J5 (s := true) h (by simp [go_sem]) (by first | rfl | simp [go_sem])
                                  · dsimp only [go_sem, Nat.reduceBEq, Nat.reduceAdd]
                                    refine V_go 7 ?_
                                    dsimp only [e_narthexlaw12_PlaceOne, e_narthexlaw12_PlaceOne_L0, go_sem, Nat.reduceBEq, Nat.reduceAdd]
                                    refine ⟨by simp, ?_⟩
                                    refine M_case 155 h rfl (fun hb h => ?_) (fun hb h => ?_)
                                    · dsimp only [go_sem, Nat.reduceBEq, Nat.reduceAdd]
                                      refine V_go 10 ?_
                                      dsimp only [e_narthexlaw12_PlaceOne, e_narthexlaw12_PlaceOne_L0, go_sem, Nat.reduceBEq, Nat.reduceAdd]
                                      refine ⟨by simp, ?_⟩
                                      exact M_to J5 (s := true) h (by simp [go_sem]) (by first | rfl | simp [go_sem])
                                    · dsimp only [go_sem, Nat.reduceBEq, Nat.reduceAdd]
                                      refine V_go 5 ?_
                                      dsimp only [e_narthexlaw12_PlaceOne, e_narthexlaw12_PlaceOne_L0, go_sem, Nat.reduceBEq, Nat.reduceAdd]
                                      refine ⟨by simp, ?_⟩
                                      refine M_case 160 h rfl (fun hb h => ?_) (fun hb h => ?_)
                                      · dsimp only [go_sem, Nat.reduceBEq, Nat.reduceAdd]
                                        refine V_go 5 ?_
                                        dsimp only [e_narthexlaw12_PlaceOne, e_narthexlaw12_PlaceOne_L0, go_sem, Nat.reduceBEq, Nat.reduceAdd]
                                        refine ⟨by simp, ?_⟩
                                        exact M_to J5 (s := true) h (by simp [go_sem]) (by first | rfl | simp [go_sem])
                                      · dsimp only [go_sem, Nat.reduceBEq, Nat.reduceAdd]
                                        refine V_go 5 ?_
                                        dsimp only [e_narthexlaw12_PlaceOne, e_narthexlaw12_PlaceOne_L0, go_sem, Nat.reduceBEq, Nat.reduceAdd]
                                        refine ⟨by simp, ?_⟩
                                        exact M_to J5 (s := !decide (x37.Epoch = 1)) h (by simp [go_sem]) (by first | rfl | simp [go_sem])
              · refine V_drw (by kernel_rfl) fun all hall hs hnap haf => ?_
                dsimp only [go_sem, Nat.reduceBEq, Nat.reduceAdd]
                refine G_goE hall hs haf hnap 7 15 [true, true, true, true, false, false, false, false, false, true, true, true, false, false, false, false, false, false, false, false, false, false] (⟨(.any :: .any :: .ptr 0 0 :: .any :: .any :: .sl 3 (List.map Diner.row x8.1) :: .any :: .ptr 1 0 :: .bv x10.2 :: .iv x25 :: .ptr 2 0 :: .bv x30 :: an 63 (.sl 3 (List.map Diner.row x8.1) :: .ptr 0 1 :: .sl 2 (List.map Edge.row x1.Edges) :: .iv x25 :: an 5 (.ptr 0 1 :: .sl 2 (List.map Edge.row x1.Edges) :: .iv x25 :: an 84 []))), [some ⟨24, [.iv x1.N, .sl 2 (List.map Edge.row x1.Edges)]⟩, some ⟨24, [.iv x10.1.N, .sl 2 (List.map Edge.row x10.1.Edges)]⟩, some ⟨49, [.iv x31.Peer, .iv x31.Epoch, .iv x31.State, .bv x31.Fork, .bv x31.Dirty, .bv x31.Token, .bv x31.Bottle, .bv x31.Ask]⟩], []⟩ : St) (by kernel_rfl) ?_
                obtain ⟨x32, ex32, h⟩ := Option.bind_eq_some_iff.1 h
                refine G_idxM hall hs haf hnap 4 Edge.row ex32 rfl rfl trivial rfl rfl rfl rfl ?_
                refine G_goN hall hs haf hnap 2 12 ?_
                dsimp only [go_sem, Nat.reduceBEq, Nat.reduceAdd]
                refine ⟨by simp, ?_⟩
                obtain ⟨x33, ex33, h⟩ := Option.bind_eq_some_iff.1 h
                refine G_idxM hall hs haf hnap 7 Diner.row ex33 rfl rfl trivial rfl rfl rfl rfl ?_
                refine G_goN hall hs haf hnap 1 10 ?_
                dsimp only [go_sem, Nat.reduceBEq, Nat.reduceAdd]
                refine ⟨by simp, ?_⟩
                obtain ⟨x34, ex34, h⟩ := Option.bind_eq_some_iff.1 h
                refine G_idxM hall hs haf hnap 12 Edge.row ex34 rfl rfl trivial rfl rfl rfl rfl ?_
                refine G_goN hall hs haf hnap 2 7 ?_
                dsimp only [go_sem, Nat.reduceBEq, Nat.reduceAdd]
                refine ⟨by simp, ?_⟩
                refine G_two 15 19 rfl ?_ ?_
                · obtain ⟨x35, ex35, h⟩ := Option.bind_eq_some_iff.1 h
                  refine GO_call hall rfl trivial (k_place_Side x33 x34.A _ ex35) (by first | exact leL_refl _ | simp [go_sem]) (by first | rfl | simp [go_sem]) ?_
                  dsimp only [go_sem, Nat.reduceBEq, Nat.reduceAdd]
                  refine G_goE hall hs haf hnap 3 3 [true, true, true, true, true, true, true, true, true, true, true, true, true, true, true, true, true, true, true, false, false, false] (⟨(.any :: .any :: .ptr 0 0 :: .any :: .any :: .sl 3 (List.map Diner.row x8.1) :: .any :: .ptr 1 0 :: .bv x10.2 :: .iv x25 :: .ptr 2 0 :: .bv x30 :: an 62 (.tup [.agg [.iv x35.1.Peer, .iv x35.1.Epoch, .iv x35.1.State, .bv x35.1.Fork, .bv x35.1.Dirty, .bv x35.1.Token, .bv x35.1.Bottle, .bv x35.1.Ask], .bv x35.2] :: .sl 3 (List.map Diner.row x8.1) :: .ptr 0 1 :: .sl 2 (List.map Edge.row x1.Edges) :: .iv x25 :: .elt [.iv x32.A, .iv x32.B] 0 :: .elt [.iv x32.A, .iv x32.B] 1 :: .iv x32.B :: .elt [.iv x33.ID, .iv x33.Phase, .sl 8 (List.map Side.row x33.Sides)] 0 :: .agg [.iv x33.ID, .iv x33.Phase, .sl 8 (List.map Side.row x33.Sides)] :: .ptr 0 1 :: .sl 2 (List.map Edge.row x1.Edges) :: .iv x25 :: .elt [.iv x34.A, .iv x34.B] 0 :: .elt [.iv x34.A, .iv x34.B] 0 :: .iv x34.A :: .tup [.agg [.iv x35.1.Peer, .iv x35.1.Epoch, .iv x35.1.State, .bv x35.1.Fork, .bv x35.1.Dirty, .bv x35.1.Token, .bv x35.1.Bottle, .bv x35.1.Ask], .bv x35.2] :: .agg [.iv x35.1.Peer, .iv x35.1.Epoch, .iv x35.1.State, .bv x35.1.Fork, .bv x35.1.Dirty, .bv x35.1.Token, .bv x35.1.Bottle, .bv x35.1.Ask] :: .bv x35.2 :: an 78 [])), [some ⟨24, [.iv x1.N, .sl 2 (List.map Edge.row x1.Edges)]⟩, some ⟨24, [.iv x10.1.N, .sl 2 (List.map Edge.row x10.1.Edges)]⟩, some ⟨49, [.iv x31.Peer, .iv x31.Epoch, .iv x31.State, .bv x31.Fork, .bv x31.Dirty, .bv x31.Token, .bv x31.Bottle, .bv x31.Ask]⟩], []⟩ : St) (by kernel_rfl) ?_
                  refine G_one 19 rfl ?_
                  refine GO_ev hall rfl trivial ?_
                  dsimp only [go_sem, Nat.reduceBEq, Nat.reduceAdd]
                  refine G_one 20 rfl ?_
                  refine GO_ev hall rfl trivial ?_
                  dsimp only [go_sem, Nat.reduceBEq, Nat.reduceAdd]
                  refine G_goN hall hs haf hnap 1 0 ?_
                  dsimp only [go_sem, Nat.reduceBEq, Nat.reduceAdd]
                  refine ⟨by simp, ?_⟩
                  refine G_done rfl ?_ _
                  exact M_to J4 (s := (x35.2, x35.1)) h (by simp [go_sem]) (by first | rfl | simp [go_sem])
                · refine GO_ev hall rfl trivial ?_
                  dsimp only [go_sem, Nat.reduceBEq, Nat.reduceAdd]
                  refine G_one 15 rfl ?_
                  obtain ⟨x35, ex35, h⟩ := Option.bind_eq_some_iff.1 h
                  refine GO_call hall rfl trivial (k_place_Side x33 x34.A _ ex35) (by first | exact leL_refl _ | simp [go_sem]) (by first | rfl | simp [go_sem]) ?_
                  dsimp only [go_sem, Nat.reduceBEq, Nat.reduceAdd]
                  refine G_goE hall hs haf hnap 3 2 [true, true, true, true, true, true, true, true, true, true, true, true, true, true, true, true, true, true, true, true, false, false] (⟨(.any :: .any :: .ptr 0 0 :: .any :: .any :: .sl 3 (List.map Diner.row x8.1) :: .any :: .ptr 1 0 :: .bv x10.2 :: .iv x25 :: .ptr 2 0 :: .bv x30 :: .ptr 3 0 :: an 61 (.tup [.agg [.iv x35.1.Peer, .iv x35.1.Epoch, .iv x35.1.State, .bv x35.1.Fork, .bv x35.1.Dirty, .bv x35.1.Token, .bv x35.1.Bottle, .bv x35.1.Ask], .bv x35.2] :: .sl 3 (List.map Diner.row x8.1) :: .ptr 0 1 :: .sl 2 (List.map Edge.row x1.Edges) :: .iv x25 :: .elt [.iv x32.A, .iv x32.B] 0 :: .elt [.iv x32.A, .iv x32.B] 1 :: .iv x32.B :: .elt [.iv x33.ID, .iv x33.Phase, .sl 8 (List.map Side.row x33.Sides)] 0 :: .agg [.iv x33.ID, .iv x33.Phase, .sl 8 (List.map Side.row x33.Sides)] :: .ptr 0 1 :: .sl 2 (List.map Edge.row x1.Edges) :: .iv x25 :: .elt [.iv x34.A, .iv x34.B] 0 :: .elt [.iv x34.A, .iv x34.B] 0 :: .iv x34.A :: .tup [.agg [.iv x35.1.Peer, .iv x35.1.Epoch, .iv x35.1.State, .bv x35.1.Fork, .bv x35.1.Dirty, .bv x35.1.Token, .bv x35.1.Bottle, .bv x35.1.Ask], .bv x35.2] :: .agg [.iv x35.1.Peer, .iv x35.1.Epoch, .iv x35.1.State, .bv x35.1.Fork, .bv x35.1.Dirty, .bv x35.1.Token, .bv x35.1.Bottle, .bv x35.1.Ask] :: .bv x35.2 :: an 78 [])), [some ⟨24, [.iv x1.N, .sl 2 (List.map Edge.row x1.Edges)]⟩, some ⟨24, [.iv x10.1.N, .sl 2 (List.map Edge.row x10.1.Edges)]⟩, some ⟨49, [.iv x31.Peer, .iv x31.Epoch, .iv x31.State, .bv x31.Fork, .bv x31.Dirty, .bv x31.Token, .bv x31.Bottle, .bv x31.Ask]⟩, some ⟨49, [.iv 0, .iv 0, .iv 0, .ff, .ff, .ff, .ff, .ff]⟩], []⟩ : St) (by kernel_rfl) ?_
                  refine G_one 20 rfl ?_
                  refine GO_ev hall rfl trivial ?_
                  dsimp only [go_sem, Nat.reduceBEq, Nat.reduceAdd]
                  refine G_goN hall hs haf hnap 1 0 ?_
                  dsimp only [go_sem, Nat.reduceBEq, Nat.reduceAdd]
                  refine ⟨by simp, ?_⟩
                  refine G_done rfl ?_ _
                  exact M_to J4 (s := (x35.2, x35.1)) h (by simp [go_sem]) (by first | rfl | simp [go_sem])
            · refine V_drw (by kernel_rfl) fun all hall hs hnap haf => ?_
              dsimp only [go_sem, Nat.reduceBEq, Nat.reduceAdd]
              refine G_goE hall hs haf hnap 7 15 [true, true, true, true, false, false, false, false, false, true, true, true, false, false, false, false, false, false, false, false, false, false] (⟨(.any :: .any :: .ptr 0 0 :: .any :: .any :: .sl 3 (List.map Diner.row x8.1) :: .any :: .ptr 1 0 :: .bv x10.2 :: .iv x25 :: an 38 (.iv x25 :: .ptr 0 1 :: .sl 2 (List.map Edge.row x1.Edges) :: .iv (ln Edge.row x1.Edges) :: .bv (decide (x25 < (ln Edge.row x1.Edges))) :: an 3 (.sl 3 (List.map Diner.row x8.1) :: .ptr 0 1 :: .sl 2 (List.map Edge.row x1.Edges) :: .iv x25 :: an 5 (.ptr 0 1 :: .sl 2 (List.map Edge.row x1.Edges) :: .iv x25 :: an 103 [])))), [some ⟨24, [.iv x1.N, .sl 2 (List.map Edge.row x1.Edges)]⟩, some ⟨24, [.iv x10.1.N, .sl 2 (List.map Edge.row x10.1.Edges)]⟩], []⟩ : St) (by kernel_rfl) ?_
              obtain ⟨x26, ex26, h⟩ := Option.bind_eq_some_iff.1 h
              refine G_idxM hall hs haf hnap 4 Edge.row ex26 rfl rfl trivial rfl rfl rfl rfl ?_
              refine G_goN hall hs haf hnap 2 12 ?_
              dsimp only [go_sem, Nat.reduceBEq, Nat.reduceAdd]
              refine ⟨by simp, ?_⟩
              obtain ⟨x27, ex27, h⟩ := Option.bind_eq_some_iff.1 h
              refine G_idxM hall hs haf hnap 7 Diner.row ex27 rfl rfl trivial rfl rfl rfl rfl ?_
              refine G_goN hall hs haf hnap 1 10 ?_
              dsimp only [go_sem, Nat.reduceBEq, Nat.reduceAdd]
              refine ⟨by simp, ?_⟩
              obtain ⟨x28, ex28, h⟩ := Option.bind_eq_some_iff.1 h
              refine G_idxM hall hs haf hnap 12 Edge.row ex28 rfl rfl trivial rfl rfl rfl rfl ?_
              refine G_goN hall hs haf hnap 2 7 ?_
              dsimp only [go_sem, Nat.reduceBEq, Nat.reduceAdd]
              refine ⟨by simp, ?_⟩
              refine G_two 15 19 rfl ?_ ?_
              · obtain ⟨x29, ex29, h⟩ := Option.bind_eq_some_iff.1 h
                refine GO_call hall rfl trivial (k_place_Side x27 x28.B _ ex29) (by first | exact leL_refl _ | simp [go_sem]) (by first | rfl | simp [go_sem]) ?_
                dsimp only [go_sem, Nat.reduceBEq, Nat.reduceAdd]
                refine G_goE hall hs haf hnap 3 3 [true, true, true, true, true, true, true, true, true, true, true, true, true, true, true, true, true, true, true, false, false, false] (⟨(.any :: .any :: .ptr 0 0 :: .any :: .any :: .sl 3 (List.map Diner.row x8.1) :: .any :: .ptr 1 0 :: .bv x10.2 :: .iv x25 :: an 38 (.iv x25 :: .ptr 0 1 :: .sl 2 (List.map Edge.row x1.Edges) :: .iv (ln Edge.row x1.Edges) :: .bv (decide (x25 < (ln Edge.row x1.Edges))) :: .any :: .any :: .tup [.agg [.iv x29.1.Peer, .iv x29.1.Epoch, .iv x29.1.State, .bv x29.1.Fork, .bv x29.1.Dirty, .bv x29.1.Token, .bv x29.1.Bottle, .bv x29.1.Ask], .bv x29.2] :: .sl 3 (List.map Diner.row x8.1) :: .ptr 0 1 :: .sl 2 (List.map Edge.row x1.Edges) :: .iv x25 :: .elt [.iv x26.A, .iv x26.B] 0 :: .elt [.iv x26.A, .iv x26.B] 0 :: .iv x26.A :: .elt [.iv x27.ID, .iv x27.Phase, .sl 8 (List.map Side.row x27.Sides)] 0 :: .agg [.iv x27.ID, .iv x27.Phase, .sl 8 (List.map Side.row x27.Sides)] :: .ptr 0 1 :: .sl 2 (List.map Edge.row x1.Edges) :: .iv x25 :: .elt [.iv x28.A, .iv x28.B] 0 :: .elt [.iv x28.A, .iv x28.B] 1 :: .iv x28.B :: .tup [.agg [.iv x29.1.Peer, .iv x29.1.Epoch, .iv x29.1.State, .bv x29.1.Fork, .bv x29.1.Dirty, .bv x29.1.Token, .bv x29.1.Bottle, .bv x29.1.Ask], .bv x29.2] :: .agg [.iv x29.1.Peer, .iv x29.1.Epoch, .iv x29.1.State, .bv x29.1.Fork, .bv x29.1.Dirty, .bv x29.1.Token, .bv x29.1.Bottle, .bv x29.1.Ask] :: .bv x29.2 :: an 97 [])), [some ⟨24, [.iv x1.N, .sl 2 (List.map Edge.row x1.Edges)]⟩, some ⟨24, [.iv x10.1.N, .sl 2 (List.map Edge.row x10.1.Edges)]⟩], []⟩ : St) (by kernel_rfl) ?_
                refine G_one 19 rfl ?_
                refine GO_ev hall rfl trivial ?_
                dsimp only [go_sem, Nat.reduceBEq, Nat.reduceAdd]
                refine G_one 20 rfl ?_
                refine GO_ev hall rfl trivial ?_
                dsimp only [go_sem, Nat.reduceBEq, Nat.reduceAdd]
                refine G_goN hall hs haf hnap 1 0 ?_
                dsimp only [go_sem, Nat.reduceBEq, Nat.reduceAdd]
                refine ⟨by simp, ?_⟩
                refine G_done rfl ?_ _
                exact M_to J3 (s := (x29.2, x29.1)) h (by simp [go_sem]) (by first | rfl | simp [go_sem])
              · refine GO_ev hall rfl trivial ?_
                dsimp only [go_sem, Nat.reduceBEq, Nat.reduceAdd]
                refine G_one 15 rfl ?_
                obtain ⟨x29, ex29, h⟩ := Option.bind_eq_some_iff.1 h
                refine GO_call hall rfl trivial (k_place_Side x27 x28.B _ ex29) (by first | exact leL_refl _ | simp [go_sem]) (by first | rfl | simp [go_sem]) ?_
                dsimp only [go_sem, Nat.reduceBEq, Nat.reduceAdd]
                refine G_goE hall hs haf hnap 3 2 [true, true, true, true, true, true, true, true, true, true, true, true, true, true, true, true, true, true, true, true, false, false] (⟨(.any :: .any :: .ptr 0 0 :: .any :: .any :: .sl 3 (List.map Diner.row x8.1) :: .any :: .ptr 1 0 :: .bv x10.2 :: .iv x25 :: .ptr 2 0 :: an 37 (.iv x25 :: .ptr 0 1 :: .sl 2 (List.map Edge.row x1.Edges) :: .iv (ln Edge.row x1.Edges) :: .bv (decide (x25 < (ln Edge.row x1.Edges))) :: .any :: .any :: .tup [.agg [.iv x29.1.Peer, .iv x29.1.Epoch, .iv x29.1.State, .bv x29.1.Fork, .bv x29.1.Dirty, .bv x29.1.Token, .bv x29.1.Bottle, .bv x29.1.Ask], .bv x29.2] :: .sl 3 (List.map Diner.row x8.1) :: .ptr 0 1 :: .sl 2 (List.map Edge.row x1.Edges) :: .iv x25 :: .elt [.iv x26.A, .iv x26.B] 0 :: .elt [.iv x26.A, .iv x26.B] 0 :: .iv x26.A :: .elt [.iv x27.ID, .iv x27.Phase, .sl 8 (List.map Side.row x27.Sides)] 0 :: .agg [.iv x27.ID, .iv x27.Phase, .sl 8 (List.map Side.row x27.Sides)] :: .ptr 0 1 :: .sl 2 (List.map Edge.row x1.Edges) :: .iv x25 :: .elt [.iv x28.A, .iv x28.B] 0 :: .elt [.iv x28.A, .iv x28.B] 1 :: .iv x28.B :: .tup [.agg [.iv x29.1.Peer, .iv x29.1.Epoch, .iv x29.1.State, .bv x29.1.Fork, .bv x29.1.Dirty, .bv x29.1.Token, .bv x29.1.Bottle, .bv x29.1.Ask], .bv x29.2] :: .agg [.iv x29.1.Peer, .iv x29.1.Epoch, .iv x29.1.State, .bv x29.1.Fork, .bv x29.1.Dirty, .bv x29.1.Token, .bv x29.1.Bottle, .bv x29.1.Ask] :: .bv x29.2 :: an 97 [])), [some ⟨24, [.iv x1.N, .sl 2 (List.map Edge.row x1.Edges)]⟩, some ⟨24, [.iv x10.1.N, .sl 2 (List.map Edge.row x10.1.Edges)]⟩, some ⟨49, [.iv 0, .iv 0, .iv 0, .ff, .ff, .ff, .ff, .ff]⟩], []⟩ : St) (by kernel_rfl) ?_
                refine G_one 20 rfl ?_
                refine GO_ev hall rfl trivial ?_
                dsimp only [go_sem, Nat.reduceBEq, Nat.reduceAdd]
                refine G_goN hall hs haf hnap 1 0 ?_
                dsimp only [go_sem, Nat.reduceBEq, Nat.reduceAdd]
                refine ⟨by simp, ?_⟩
                refine G_done rfl ?_ _
                exact M_to J3 (s := (x29.2, x29.1)) h (by simp [go_sem]) (by first | rfl | simp [go_sem])
          · refine V_go 1 ?_
            dsimp only [e_narthexlaw12_PlaceOne, e_narthexlaw12_PlaceOne_L0, go_sem, Nat.reduceBEq, Nat.reduceAdd]
            refine ⟨by simp, ?_⟩
            exact M_to J2 (s := ()) (M_out h hout1) (by simp [go_sem]) (by first | rfl | simp [go_sem])
  · refine M_case 16 h rfl (fun hb h => ?_) (fun hb h => ?_)
    · dsimp only [go_sem, Nat.reduceBEq, Nat.reduceAdd]
      refine V_go 11 ?_
      dsimp only [e_narthexlaw12_PlaceOne, e_narthexlaw12_PlaceOne_L0, go_sem, Nat.reduceBEq, Nat.reduceAdd]
      refine ⟨by simp, ?_⟩
      exact M_to J1 (s := true) h (by simp [go_sem]) (by first | rfl | simp [go_sem])
    · dsimp only [go_sem, Nat.reduceBEq, Nat.reduceAdd]
      refine V_go 6 ?_
      dsimp only [e_narthexlaw12_PlaceOne, e_narthexlaw12_PlaceOne_L0, go_sem, Nat.reduceBEq, Nat.reduceAdd]
      refine ⟨by simp, ?_⟩
      refine M_case 22 h rfl (fun hb h => ?_) (fun hb h => ?_)
      · dsimp only [go_sem, Nat.reduceBEq, Nat.reduceAdd]
        refine V_go 5 ?_
        dsimp only [e_narthexlaw12_PlaceOne, e_narthexlaw12_PlaceOne_L0, go_sem, Nat.reduceBEq, Nat.reduceAdd]
        refine ⟨by simp, ?_⟩
        exact M_to J1 (s := true) h (by simp [go_sem]) (by first | rfl | simp [go_sem])
      · dsimp only [go_sem, Nat.reduceBEq, Nat.reduceAdd]
        refine V_go 5 ?_
        dsimp only [e_narthexlaw12_PlaceOne, e_narthexlaw12_PlaceOne_L0, go_sem, Nat.reduceBEq, Nat.reduceAdd]
        refine ⟨by simp, ?_⟩
        exact M_to J1 (s := decide (70 < (ln intRow x2))) h (by simp [go_sem]) (by first | rfl | simp [go_sem])
def f_narthexlaw12_PlaceOne_j6 (F : Nat)  : Bool → Option Bool
| x46 =>
 some x46
theorem le_narthexlaw12_PlaceOne_j6 {F : Nat} : ∀ s, ole (f_narthexlaw12_PlaceOne_j6 F s) (m_narthexlaw12_PlaceOne_j6 s) := by
  intro x46
  unfold f_narthexlaw12_PlaceOne_j6 m_narthexlaw12_PlaceOne_j6
  try dsimp only
  repeat' first | with_reducible exact ole_refl _ | assumption | intro _ | with_reducible refine ole_ifb ?_ ?_ | with_reducible refine ole_bind ?_ ?_ | with_reducible refine ole_map ?_ | with_reducible refine ole_loop ?_
def f_narthexlaw12_PlaceOne_j2 (F : Nat) (x1 : Graph) (x10 : (Graph × Bool)) : Unit → Option Bool
| () =>
 ifb x10.2 (
 (f_narthexref03_Same F x1 x10.1).bind fun x45 =>
 f_narthexlaw12_PlaceOne_j6 F x45) (
 f_narthexlaw12_PlaceOne_j6 F false)
theorem le_narthexlaw12_PlaceOne_j2 {F : Nat} {x1 : Graph} {x10 : (Graph × Bool)} : ∀ s, ole (f_narthexlaw12_PlaceOne_j2 F x1 x10 s) (m_narthexlaw12_PlaceOne_j2 x1 x10 s) := by
  rintro ⟨⟩
  unfold f_narthexlaw12_PlaceOne_j2 m_narthexlaw12_PlaceOne_j2
  try dsimp only
  repeat' first | with_reducible exact ole_refl _ | assumption | intro _ | with_reducible refine ole_ifb ?_ ?_ | with_reducible refine ole_bind ?_ ?_ | with_reducible refine ole_map ?_ | with_reducible refine ole_loop ?_ | with_reducible apply le_narthexlaw12_PlaceOne_j6 | with_reducible apply le_narthexref03_Same
def f_narthexlaw12_PlaceOne_j5 (F : Nat) (x25 : Int) : Bool → Option (Int ⊕ Bool)
| x38 =>
 ifb x38 (
 Option.map Sum.inr (some false)) (
 some (.inl (wr (x25 + 1))))
theorem le_narthexlaw12_PlaceOne_j5 {F : Nat} {x25 : Int} : ∀ s, ole (f_narthexlaw12_PlaceOne_j5 F x25 s) (m_narthexlaw12_PlaceOne_j5 x25 s) := by
  intro x38
  unfold f_narthexlaw12_PlaceOne_j5 m_narthexlaw12_PlaceOne_j5
  try dsimp only
  repeat' first | with_reducible exact ole_refl _ | assumption | intro _ | with_reducible refine ole_ifb ?_ ?_ | with_reducible refine ole_bind ?_ ?_ | with_reducible refine ole_map ?_ | with_reducible refine ole_loop ?_ | with_reducible apply le_narthexlaw12_PlaceOne_j6 | with_reducible apply le_narthexref03_Same | with_reducible apply le_narthexlaw12_PlaceOne_j2
def f_narthexlaw12_PlaceOne_j4 (F : Nat) (x25 : Int) (x30 : Bool) (x31 : Side) : (Bool × Side) → Option (Int ⊕ Bool)
| (x36, x37) =>
 ifb (!x30) (
 (f_narthexlaw12_PlaceOne_j5 F x25) true) (
 ifb (!x36) (
 (f_narthexlaw12_PlaceOne_j5 F x25) true) (
 ifb (x31.Fork == x37.Fork) (
 (f_narthexlaw12_PlaceOne_j5 F x25) true) (
 ifb (x31.Token == x37.Token) (
 (f_narthexlaw12_PlaceOne_j5 F x25) true) (
 ifb (x31.Bottle == x37.Bottle) (
 (f_narthexlaw12_PlaceOne_j5 F x25) true) (
 ifb (x31.Ask == x37.Ask) (
 (f_narthexlaw12_PlaceOne_j5 F x25) true) (
 ifb (x31.Fork == x31.Token) (
 (f_narthexlaw12_PlaceOne_j5 F x25) true) (
 ifb (x31.Bottle == x31.Ask) (
 (f_narthexlaw12_PlaceOne_j5 F x25) true) (
 ifb (!(x31.Fork == x31.Dirty)) (
 (f_narthexlaw12_PlaceOne_j5 F x25) true) (
 ifb (!(x37.Fork == x37.Dirty)) (
 (f_narthexlaw12_PlaceOne_j5 F x25) true) (
 ifb (!decide (x31.Epoch = 1)) (
 (f_narthexlaw12_PlaceOne_j5 F x25) true) (
 (f_narthexlaw12_PlaceOne_j5 F x25) (!decide (x37.Epoch = 1)))))))))))))
theorem le_narthexlaw12_PlaceOne_j4 {F : Nat} {x25 : Int} {x30 : Bool} {x31 : Side} : ∀ s, ole (f_narthexlaw12_PlaceOne_j4 F x25 x30 x31 s) (m_narthexlaw12_PlaceOne_j4 x25 x30 x31 s) := by
  rintro ⟨x36, x37⟩
  unfold f_narthexlaw12_PlaceOne_j4 m_narthexlaw12_PlaceOne_j4
  try dsimp only
  repeat' first | with_reducible exact ole_refl _ | assumption | intro _ | with_reducible refine ole_ifb ?_ ?_ | with_reducible refine ole_bind ?_ ?_ | with_reducible refine ole_map ?_ | with_reducible refine ole_loop ?_ | with_reducible apply le_narthexlaw12_PlaceOne_j6 | with_reducible apply le_narthexref03_Same | with_reducible apply le_narthexlaw12_PlaceOne_j2 | with_reducible apply le_narthexlaw12_PlaceOne_j5
def f_narthexlaw12_PlaceOne_j3 (F : Nat) (x1 : Graph) (x8 : ((List Diner) × Int)) (x25 : Int) : (Bool × Side) → Option (Int ⊕ Bool)
| (x30, x31) =>
 (at_ x1.Edges x25).bind fun x32 =>
 (at_ x8.1 x32.B).bind fun x33 =>
 (at_ x1.Edges x25).bind fun x34 =>
 (f_place_Side F x33 x34.A).bind fun x35 =>
 (f_narthexlaw12_PlaceOne_j4 F x25 x30 x31) (x35.2, x35.1)
theorem le_narthexlaw12_PlaceOne_j3 {F : Nat} {x1 : Graph} {x8 : ((List Diner) × Int)} {x25 : Int} : ∀ s, ole (f_narthexlaw12_PlaceOne_j3 F x1 x8 x25 s) (m_narthexlaw12_PlaceOne_j3 x1 x8 x25 s) := by
  rintro ⟨x30, x31⟩
  unfold f_narthexlaw12_PlaceOne_j3 m_narthexlaw12_PlaceOne_j3
  try dsimp only
  repeat' first | with_reducible exact ole_refl _ | assumption | intro _ | with_reducible refine ole_ifb ?_ ?_ | with_reducible refine ole_bind ?_ ?_ | with_reducible refine ole_map ?_ | with_reducible refine ole_loop ?_ | with_reducible apply le_narthexlaw12_PlaceOne_j6 | with_reducible apply le_narthexref03_Same | with_reducible apply le_narthexlaw12_PlaceOne_j2 | with_reducible apply le_narthexlaw12_PlaceOne_j5 | with_reducible apply le_narthexlaw12_PlaceOne_j4 | with_reducible apply le_place_Side
def f_narthexlaw12_PlaceOne_l1 (F : Nat) (x1 : Graph) (x8 : ((List Diner) × Int)) (x10 : (Graph × Bool)) : Int → Option (Int ⊕ Bool)
| x25 =>
 ifb (decide (x25 < (ln Edge.row x1.Edges))) (
 (at_ x1.Edges x25).bind fun x26 =>
 (at_ x8.1 x26.A).bind fun x27 =>
 (at_ x1.Edges x25).bind fun x28 =>
 (f_place_Side F x27 x28.B).bind fun x29 =>
 (f_narthexlaw12_PlaceOne_j3 F x1 x8 x25) (x29.2, x29.1)) (
 Option.map Sum.inr ((f_narthexlaw12_PlaceOne_j2 F x1 x10) ()))
theorem le_narthexlaw12_PlaceOne_l1 {F : Nat} {x1 : Graph} {x8 : ((List Diner) × Int)} {x10 : (Graph × Bool)} : ∀ s, ole (f_narthexlaw12_PlaceOne_l1 F x1 x8 x10 s) (m_narthexlaw12_PlaceOne_l1 x1 x8 x10 s) := by
  intro x25
  unfold f_narthexlaw12_PlaceOne_l1 m_narthexlaw12_PlaceOne_l1
  try dsimp only
  repeat' first | with_reducible exact ole_refl _ | assumption | intro _ | with_reducible refine ole_ifb ?_ ?_ | with_reducible refine ole_bind ?_ ?_ | with_reducible refine ole_map ?_ | with_reducible refine ole_loop ?_ | with_reducible apply le_narthexlaw12_PlaceOne_j6 | with_reducible apply le_narthexref03_Same | with_reducible apply le_narthexlaw12_PlaceOne_j2 | with_reducible apply le_narthexlaw12_PlaceOne_j5 | with_reducible apply le_narthexlaw12_PlaceOne_j4 | with_reducible apply le_place_Side | with_reducible apply le_narthexlaw12_PlaceOne_j3
def f_narthexlaw12_PlaceOne_j1 (F : Nat) (x1 : Graph) (x2 : (List Int)) : Bool → Option Bool
| x4 =>
 ifb x4 (
 (f_narthexlaw12_awake F).bind fun x5 =>
 some x5) (
 (f_narthexlaw03_Own F x1).bind fun x6 =>
 (app_ 8 (([] : List Int)) x2).bind fun x7 =>
 (f_place_Table F x6 x7).bind fun x8 =>
 ifb (!decide (x8.2 = 0)) (
 some (decide ((ln Diner.row x8.1) = 0))) (
 (f_narthexlaw12_Own F x8.1).bind fun x9 =>
 (f_place_Graph F x9).bind fun x10 =>
 loopF F (f_narthexlaw12_PlaceOne_l1 F x1 x8 x10) 0))
theorem le_narthexlaw12_PlaceOne_j1 {F : Nat} {x1 : Graph} {x2 : (List Int)} : ∀ s, ole (f_narthexlaw12_PlaceOne_j1 F x1 x2 s) (m_narthexlaw12_PlaceOne_j1 x1 x2 s) := by
  intro x4
  unfold f_narthexlaw12_PlaceOne_j1 m_narthexlaw12_PlaceOne_j1
  try dsimp only
  repeat' first | with_reducible exact ole_refl _ | assumption | intro _ | with_reducible refine ole_ifb ?_ ?_ | with_reducible refine ole_bind ?_ ?_ | with_reducible refine ole_map ?_ | with_reducible refine ole_loop ?_ | with_reducible apply le_narthexlaw12_PlaceOne_j6 | with_reducible apply le_narthexref03_Same | with_reducible apply le_narthexlaw12_PlaceOne_j2 | with_reducible apply le_narthexlaw12_PlaceOne_j5 | with_reducible apply le_narthexlaw12_PlaceOne_j4 | with_reducible apply le_place_Side | with_reducible apply le_narthexlaw12_PlaceOne_j3 | with_reducible apply le_narthexlaw12_PlaceOne_l1 | with_reducible apply le_narthexlaw12_awake | with_reducible apply le_narthexlaw03_Own | with_reducible apply le_place_Table | with_reducible apply le_narthexlaw12_Own | with_reducible apply le_place_Graph
def f_narthexlaw12_PlaceOne (F : Nat) (x1 : Graph) (x2 : (List Int)) : Option Bool :=
 (f_narthexlaw12_awake F).bind fun x3 =>
 ifb (!x3) (
 (f_narthexlaw12_PlaceOne_j1 F x1 x2) true) (
 ifb (decide (60 < (ln Edge.row x1.Edges))) (
 (f_narthexlaw12_PlaceOne_j1 F x1 x2) true) (
 (f_narthexlaw12_PlaceOne_j1 F x1 x2) (decide (70 < (ln intRow x2)))))
theorem le_narthexlaw12_PlaceOne {F : Nat} {x1 : Graph} {x2 : (List Int)} : ole (f_narthexlaw12_PlaceOne F x1 x2) (m_narthexlaw12_PlaceOne x1 x2) := by
  unfold f_narthexlaw12_PlaceOne m_narthexlaw12_PlaceOne
  repeat' first | with_reducible exact ole_refl _ | assumption | intro _ | with_reducible refine ole_ifb ?_ ?_ | with_reducible refine ole_bind ?_ ?_ | with_reducible refine ole_map ?_ | with_reducible refine ole_loop ?_ | with_reducible apply le_narthexlaw12_PlaceOne_j6 | with_reducible apply le_narthexref03_Same | with_reducible apply le_narthexlaw12_PlaceOne_j2 | with_reducible apply le_narthexlaw12_PlaceOne_j5 | with_reducible apply le_narthexlaw12_PlaceOne_j4 | with_reducible apply le_place_Side | with_reducible apply le_narthexlaw12_PlaceOne_j3 | with_reducible apply le_narthexlaw12_PlaceOne_l1 | with_reducible apply le_narthexlaw12_awake | with_reducible apply le_narthexlaw03_Own | with_reducible apply le_place_Table | with_reducible apply le_narthexlaw12_Own | with_reducible apply le_place_Graph | with_reducible apply le_narthexlaw12_PlaceOne_j1
end NX
end Go.Proofs.Ytadebhbiglmodaa
/-
  The function narthex/narthexlaw12.PlaceOrder: its code compiled, a model, and that the code answers as the model. Written by a program of ours (lb.py). No statement of the seat is proved here.
-/
namespace Go.Proofs.Ytadebhbiglmodaa
namespace NX
open Go
set_option maxRecDepth 100000
set_option maxHeartbeats 4000000
def e_narthexlaw12_PlaceOrder_L0 : EC := .seq (.seq (.reg [⟨(some 26), none, .mv (.t 6)⟩, ⟨(some 27), none, .mv (.t 1)⟩, ⟨(some 28), none, .len (.t 27)⟩, ⟨(some 29), none, .bin .lss (.t 26) (.t 28)⟩]) (.ite (.t 29) (.skip) (.exit 0))) (.seq (.blk 1 (.seq (.seq (.reg [⟨(some 32), none, .mv (.t 1)⟩, ⟨(some 33), none, .mv (.t 6)⟩, ⟨(some 34), none, .idx 1 (.t 32) (.t 33)⟩, ⟨(some 35), none, .load (.t 34)⟩, ⟨(some 36), none, .bin .lss (.t 35) (.c (.iv 0))⟩, ⟨(some 37), none, .mv (.t 36)⟩, ⟨(some 38), (some (37, false)), .mv (.t 1)⟩, ⟨(some 39), (some (37, false)), .mv (.t 6)⟩, ⟨(some 40), (some (37, false)), .idx 1 (.t 38) (.t 39)⟩, ⟨(some 41), (some (37, false)), .load (.t 40)⟩, ⟨(some 42), (some (37, false)), .bin .gtr (.t 41) (.c (.iv 1000))⟩, ⟨(some 43), none, .pick (.t 37) (.c .tt) (.t 42)⟩]) (.ite (.t 43) (.seq (.reg [⟨(some 4), none, .mv (.c .tt)⟩]) (.ret)) (.skip))) (.reg [⟨(some 44), none, .mv (.t 5)⟩, ⟨(some 45), none, .mv (.t 1)⟩, ⟨(some 46), none, .mv (.t 6)⟩, ⟨(some 47), none, .idx 1 (.t 45) (.t 46)⟩, ⟨(some 48), none, .load (.t 47)⟩, ⟨(some 49), none, .bin .mul (.c (.iv 3)) (.t 48)⟩, ⟨(some 50), none, .bsl 3 1 1 [.iv 0] [(0, (.t 49))]⟩, ⟨(some 51), none, .app 3 1 8 (.t 44) (.t 50)⟩, ⟨(some 5), none, .mv (.t 51)⟩]))) (.reg [⟨(some 30), none, .mv (.t 6)⟩, ⟨(some 31), none, .bin .add (.t 30) (.c (.iv 1))⟩, ⟨(some 6), none, .mv (.t 31)⟩]))
def e_narthexlaw12_PlaceOrder : EC := .seq (.reg [⟨(some 2), none, .box 24 2 (.t 0)⟩, ⟨(some 4), none, .mv (.c .ff)⟩]) (.seq (.seq (.reg [⟨(some 11), none, .call 13 []⟩, ⟨(some 12), none, .not (.t 11)⟩, ⟨(some 13), none, .mv (.t 12)⟩, ⟨(some 14), (some (13, false)), .fld 1 (.t 2)⟩, ⟨(some 15), (some (13, false)), .load (.t 14)⟩, ⟨(some 16), (some (13, false)), .len (.t 15)⟩, ⟨(some 17), (some (13, false)), .bin .gtr (.t 16) (.c (.iv 60))⟩, ⟨(some 18), none, .pick (.t 13) (.c .tt) (.t 17)⟩, ⟨(some 19), none, .mv (.t 18)⟩, ⟨(some 20), (some (19, false)), .mv (.t 1)⟩, ⟨(some 21), (some (19, false)), .len (.t 20)⟩, ⟨(some 22), (some (19, false)), .bin .gtr (.t 21) (.c (.iv 70))⟩, ⟨(some 23), none, .pick (.t 19) (.c .tt) (.t 22)⟩]) (.ite (.t 23) (.seq (.reg [⟨(some 24), none, .call 13 []⟩, ⟨(some 4), none, .mv (.t 24)⟩]) (.ret)) (.skip))) (.seq (.reg [⟨(some 25), none, .bsl 3 1 0 [.iv 0] []⟩, ⟨(some 5), none, .mv (.t 25)⟩]) (.seq (.seq (.reg [⟨(some 6), none, .mv (.c (.iv 0))⟩]) (.blk 0 (.loop e_narthexlaw12_PlaceOrder_L0))) (.seq (.reg [⟨(some 53), none, .loadA 2 (.t 2)⟩, ⟨(some 54), none, .call 15 [(.t 53)]⟩, ⟨(some 55), none, .bsl 3 1 0 [.iv 0] []⟩, ⟨(some 56), none, .mv (.t 1)⟩, ⟨(some 57), none, .app 3 1 8 (.t 55) (.t 56)⟩, ⟨(some 58), none, .call 14 [(.t 54), (.t 57)]⟩, ⟨(some 52), none, .mv (.t 58)⟩, ⟨(some 59), none, .ext (.t 52) 0⟩, ⟨(some 60), none, .ext (.t 52) 1⟩, ⟨(some 7), none, .mv (.t 59)⟩, ⟨(some 8), none, .mv (.t 60)⟩]) (.seq (.reg [⟨(some 62), none, .loadA 2 (.t 2)⟩, ⟨(some 63), none, .call 15 [(.t 62)]⟩, ⟨(some 64), none, .mv (.t 5)⟩, ⟨(some 65), none, .call 14 [(.t 63), (.t 64)]⟩, ⟨(some 61), none, .mv (.t 65)⟩, ⟨(some 66), none, .ext (.t 61) 0⟩, ⟨(some 67), none, .ext (.t 61) 1⟩, ⟨(some 9), none, .mv (.t 66)⟩, ⟨(some 10), none, .mv (.t 67)⟩]) (.seq (.reg [⟨(some 68), none, .mv (.t 8)⟩, ⟨(some 69), none, .mv (.t 10)⟩, ⟨(some 70), none, .bin .eql (.t 68) (.t 69)⟩, ⟨(some 71), none, .mv (.t 70)⟩, ⟨(some 72), (some (71, true)), .mv (.t 7)⟩, ⟨(some 73), (some (71, true)), .mv (.t 9)⟩, ⟨(some 74), (some (71, true)), .call 27 [(.t 72), (.t 73)]⟩, ⟨(some 75), none, .pick (.t 71) (.t 74) (.c .ff)⟩, ⟨(some 4), none, .mv (.t 75)⟩]) (.ret)))))))
theorem ok_narthexlaw12_PlaceOrder : FnOK Try.prog 7 Try.f7 e_narthexlaw12_PlaceOrder [.t 4] 2 74 := ⟨by kernel_rfl, ⟨_, rfl, by kernel_rfl⟩, by kernel_rfl, by kernel_rfl⟩
/- narthex/narthexlaw12.PlaceOrder -/
noncomputable def m_narthexlaw12_PlaceOrder_j4  : Bool → Option Bool
| x33 =>
 some x33
noncomputable def m_narthexlaw12_PlaceOrder_j2 (x1 : Graph) (x2 : (List Int)) : (List Int) → Option Bool
| x26 =>
 (m_narthexlaw03_Own x1).bind fun x27 =>
 (app_ 8 (([] : List Int)) x2).bind fun x28 =>
 (m_place_Table x27 x28).bind fun x29 =>
 (m_narthexlaw03_Own x1).bind fun x30 =>
 (m_place_Table x30 x26).bind fun x31 =>
 ifb (decide (x29.2 = x31.2)) (
 (m_place_Same x29.1 x31.1).bind fun x32 =>
 m_narthexlaw12_PlaceOrder_j4 x32) (
 m_narthexlaw12_PlaceOrder_j4 false)
noncomputable def m_narthexlaw12_PlaceOrder_j3 (x2 : (List Int)) (x13 : Int) (x14 : (List Int)) : Bool → Option ((Int × (List Int)) ⊕ Bool)
| x17 =>
 ifb x17 (
 Option.map Sum.inr (some true)) (
 (at_ x2 x13).bind fun x18 =>
 (app_ 8 x14 ([wr (3 * x18)])).bind fun x19 =>
 some (.inl (wr (x13 + 1), x19)))
noncomputable def m_narthexlaw12_PlaceOrder_l1 (x1 : Graph) (x2 : (List Int)) : (Int × (List Int)) → Option ((Int × (List Int)) ⊕ Bool)
| (x13, x14) =>
 ifb (decide (x13 < (ln intRow x2))) (
 (at_ x2 x13).bind fun x15 =>
 ifb (decide (x15 < 0)) (
 (m_narthexlaw12_PlaceOrder_j3 x2 x13 x14) true) (
 (at_ x2 x13).bind fun x16 =>
 (m_narthexlaw12_PlaceOrder_j3 x2 x13 x14) (decide (1000 < x16)))) (
 Option.map Sum.inr ((m_narthexlaw12_PlaceOrder_j2 x1 x2) x14))
noncomputable def m_narthexlaw12_PlaceOrder_j1 (x1 : Graph) (x2 : (List Int)) : Bool → Option Bool
| x4 =>
 ifb x4 (
 (m_narthexlaw12_awake).bind fun x5 =>
 some x5) (
 loop (m_narthexlaw12_PlaceOrder_l1 x1 x2) (0, ([] : List Int)))
noncomputable def m_narthexlaw12_PlaceOrder (x1 : Graph) (x2 : (List Int)) : Option Bool :=
 (m_narthexlaw12_awake).bind fun x3 =>
 ifb (!x3) (
 (m_narthexlaw12_PlaceOrder_j1 x1 x2) true) (
 ifb (decide (60 < (ln Edge.row x1.Edges))) (
 (m_narthexlaw12_PlaceOrder_j1 x1 x2) true) (
 (m_narthexlaw12_PlaceOrder_j1 x1 x2) (decide (70 < (ln intRow x2)))))
theorem k_narthexlaw12_PlaceOrder (x1 : Graph) (x2 : (List Int)) (r : Bool) (h : m_narthexlaw12_PlaceOrder x1 x2 = some r) : FunP Try.prog 7 [.agg (Graph.row x1), .sl 1 (List.map intRow x2)] (.bv r) := by
  refine FunP_intro ok_narthexlaw12_PlaceOrder rfl rfl fun w0 H0 => ?_
  rw [m_narthexlaw12_PlaceOrder] at h
  refine V_go 8 ?_
  dsimp only [e_narthexlaw12_PlaceOrder, e_narthexlaw12_PlaceOrder_L0, go_sem, Nat.reduceBEq, Nat.reduceAdd]
  refine ⟨by simp, ?_⟩
  obtain ⟨x3, ex3, h⟩ := Option.bind_eq_some_iff.1 h
  refine V_call trivial (k_narthexlaw12_awake _ ex3) (by first | exact leL_refl _ | simp [go_sem]) (by first | rfl | simp [go_sem]) ?_
  refine V_go 2 ?_
  dsimp only [e_narthexlaw12_PlaceOrder, e_narthexlaw12_PlaceOrder_L0, go_sem, Nat.reduceBEq, Nat.reduceAdd]
  refine ⟨by simp, ?_⟩
  refine V_join (fun (x4 : Bool) => (⟨(.any :: .sl 1 (List.map intRow x2) :: .ptr 0 0 :: an 20 (.bv x4 :: an 52 [])), [some ⟨24, [.iv x1.N, .sl 2 (List.map Edge.row x1.Edges)]⟩], []⟩ : St)) (m_narthexlaw12_PlaceOrder_j1 x1 x2) r ?_ fun J1 => ?_
  · intro x4 h
    rw [m_narthexlaw12_PlaceOrder_j1] at h
    try dsimp only
    refine M_ite h rfl (fun hb h => ?_) (fun hb h => ?_)
    · refine V_go 2 ?_
      dsimp only [e_narthexlaw12_PlaceOrder, e_narthexlaw12_PlaceOrder_L0, go_sem, Nat.reduceBEq, Nat.reduceAdd]
      refine ⟨by simp, ?_⟩
      obtain ⟨x5, ex5, h⟩ := Option.bind_eq_some_iff.1 h
      refine V_call trivial (k_narthexlaw12_awake _ ex5) (by first | exact leL_refl _ | simp [go_sem]) (by first | rfl | simp [go_sem]) ?_
      refine V_go 2 ?_
      dsimp only [e_narthexlaw12_PlaceOrder, e_narthexlaw12_PlaceOrder_L0, go_sem, Nat.reduceBEq, Nat.reduceAdd]
      refine ⟨by simp, ?_⟩
      exact M_done (res := fun (r : Bool) => .bv r) ok_narthexlaw12_PlaceOrder h (by first | exact le_refl _ | simp [go_sem])
    · refine V_go 11 ?_
      dsimp only [e_narthexlaw12_PlaceOrder, e_narthexlaw12_PlaceOrder_L0, go_sem, Nat.reduceBEq, Nat.reduceAdd]
      refine ⟨by simp, ?_⟩
      refine V_join (fun (x26 : (List Int)) => (⟨(.any :: .sl 1 (List.map intRow x2) :: .ptr 0 0 :: .any :: .any :: .osl 0 :: an 70 []), [some ⟨24, [.iv x1.N, .sl 2 (List.map Edge.row x1.Edges)]⟩], [some ⟨3, 1, List.map intRow x26⟩]⟩ : St)) (m_narthexlaw12_PlaceOrder_j2 x1 x2) r ?_ fun J2 => ?_
      · intro x26 h
        rw [m_narthexlaw12_PlaceOrder_j2] at h
        try dsimp only
        refine V_go 3 ?_
        dsimp only [e_narthexlaw12_PlaceOrder, e_narthexlaw12_PlaceOrder_L0, go_sem, Nat.reduceBEq, Nat.reduceAdd]
        refine ⟨by simp, ?_⟩
        obtain ⟨x27, ex27, h⟩ := Option.bind_eq_some_iff.1 h
        refine V_call trivial (k_narthexlaw03_Own x1 _ ex27) (by first | exact leL_refl _ | simp [go_sem]) (by first | rfl | simp [go_sem]) ?_
        refine V_go 2 ?_
        dsimp only [e_narthexlaw12_PlaceOrder, e_narthexlaw12_PlaceOrder_L0, go_sem, Nat.reduceBEq, Nat.reduceAdd]
        refine ⟨by simp, ?_⟩
        obtain ⟨x28, ex28, h⟩ := Option.bind_eq_some_iff.1 h
        refine V_appM intRow ex28 trivial rfl rfl rfl ?_
        refine V_seal 2 rfl ?_
        dsimp only [go_sem, Nat.reduceBEq, Nat.reduceAdd]
        obtain ⟨x29, ex29, h⟩ := Option.bind_eq_some_iff.1 h
        refine V_call trivial (k_place_Table x27 x28 _ ex29) (by first | exact leL_refl _ | simp [go_sem]) (by first | rfl | simp [go_sem]) ?_
        refine V_go 9 ?_
        dsimp only [e_narthexlaw12_PlaceOrder, e_narthexlaw12_PlaceOrder_L0, go_sem, Nat.reduceBEq, Nat.reduceAdd]
        refine ⟨by simp, ?_⟩
        obtain ⟨x30, ex30, h⟩ := Option.bind_eq_some_iff.1 h
        refine V_call trivial (k_narthexlaw03_Own x1 _ ex30) (by first | exact leL_refl _ | simp [go_sem]) (by first | rfl | simp [go_sem]) ?_
        refine V_go 1 ?_
        dsimp only [e_narthexlaw12_PlaceOrder, e_narthexlaw12_PlaceOrder_L0, go_sem, Nat.reduceBEq, Nat.reduceAdd]
        refine ⟨by simp, ?_⟩
        refine V_seal 0 rfl ?_
        dsimp only [go_sem, Nat.reduceBEq, Nat.reduceAdd]
        obtain ⟨x31, ex31, h⟩ := Option.bind_eq_some_iff.1 h
        refine V_call trivial (k_place_Table x30 x26 _ ex31) (by first | exact leL_refl _ | simp [go_sem]) (by first | rfl | simp [go_sem]) ?_
        refine V_go 12 ?_
        dsimp only [e_narthexlaw12_PlaceOrder, e_narthexlaw12_PlaceOrder_L0, go_sem, Nat.reduceBEq, Nat.reduceAdd]
        refine ⟨by simp, ?_⟩
        refine V_join (fun (x33 : Bool) => (⟨(an 4 (.bv x33 :: an 71 [])), [], []⟩ : St)) m_narthexlaw12_PlaceOrder_j4 r ?_ fun J4 => ?_
        · intro x33 h
          rw [m_narthexlaw12_PlaceOrder_j4] at h
          try dsimp only
          exact M_done (res := fun (r : Bool) => .bv r) ok_narthexlaw12_PlaceOrder h (by first | exact le_refl _ | simp [go_sem])
        · refine M_case 71 h rfl (fun hb h => ?_) (fun hb h => ?_)
          · dsimp only [go_sem, Nat.reduceBEq, Nat.reduceAdd]
            refine V_go 2 ?_
            dsimp only [e_narthexlaw12_PlaceOrder, e_narthexlaw12_PlaceOrder_L0, go_sem, Nat.reduceBEq, Nat.reduceAdd]
            refine ⟨by simp, ?_⟩
            obtain ⟨x32, ex32, h⟩ := Option.bind_eq_some_iff.1 h
            refine V_call trivial (k_place_Same x29.1 x31.1 _ ex32) (by first | exact leL_refl _ | simp [go_sem]) (by first | rfl | simp [go_sem]) ?_
            refine V_go 3 ?_
            dsimp only [e_narthexlaw12_PlaceOrder, e_narthexlaw12_PlaceOrder_L0, go_sem, Nat.reduceBEq, Nat.reduceAdd]
            refine ⟨by simp, ?_⟩
            exact M_to J4 (s := x32) h (by simp [go_sem]) (by first | rfl | simp [go_sem])
          · dsimp only [go_sem, Nat.reduceBEq, Nat.reduceAdd]
            refine V_go 6 ?_
            dsimp only [e_narthexlaw12_PlaceOrder, e_narthexlaw12_PlaceOrder_L0, go_sem, Nat.reduceBEq, Nat.reduceAdd]
            refine ⟨by simp, ?_⟩
            exact M_to J4 (s := false) h (by simp [go_sem]) (by first | rfl | simp [go_sem])
      · refine V_go 1 ?_
        dsimp only [e_narthexlaw12_PlaceOrder, e_narthexlaw12_PlaceOrder_L0, go_sem, Nat.reduceBEq, Nat.reduceAdd]
        refine ⟨by simp, ?_⟩
        refine M_loop h (fun ((x13, x14) : (Int × (List Int))) => (⟨(.any :: .sl 1 (List.map intRow x2) :: .ptr 0 0 :: .any :: .any :: .osl 0 :: .iv x13 :: an 69 []), [some ⟨24, [.iv x1.N, .sl 2 (List.map Edge.row x1.Edges)]⟩], [some ⟨3, 1, List.map intRow x14⟩]⟩ : St)) (by simp [go_sem]) (by rintro ⟨x13, x14⟩; first | rfl | simp [go_sem]) ?_
        rintro n1 ⟨x13, x14⟩ y1 h hin1 hout1
        rw [m_narthexlaw12_PlaceOrder_l1] at h
        try dsimp only
        refine V_go 8 ?_
        dsimp only [e_narthexlaw12_PlaceOrder, e_narthexlaw12_PlaceOrder_L0, go_sem, Nat.reduceBEq, Nat.reduceAdd]
        refine ⟨by simp, ?_⟩
        refine M_ite h rfl (fun hb h => ?_) (fun hb h => ?_)
        · refine V_go 8 ?_
          dsimp only [e_narthexlaw12_PlaceOrder, e_narthexlaw12_PlaceOrder_L0, go_sem, Nat.reduceBEq, Nat.reduceAdd]
          refine ⟨by simp, ?_⟩
          obtain ⟨x15, ex15, h⟩ := Option.bind_eq_some_iff.1 h
          refine V_idxM intRow ex15 trivial rfl rfl rfl ?_
          refine V_go 3 ?_
          dsimp only [e_narthexlaw12_PlaceOrder, e_narthexlaw12_PlaceOrder_L0, go_sem, Nat.reduceBEq, Nat.reduceAdd]
          refine ⟨by simp, ?_⟩
          refine V_join (fun (x17 : Bool) => (⟨(.any :: .sl 1 (List.map intRow x2) :: .ptr 0 0 :: .any :: .any :: .osl 0 :: .iv x13 :: an 36 (.bv x17 :: an 32 [])), [some ⟨24, [.iv x1.N, .sl 2 (List.map Edge.row x1.Edges)]⟩], [some ⟨3, 1, List.map intRow x14⟩]⟩ : St)) (m_narthexlaw12_PlaceOrder_j3 x2 x13 x14) y1 ?_ fun J3 => ?_
          · intro x17 h
            rw [m_narthexlaw12_PlaceOrder_j3] at h
            try dsimp only
            refine M_ite h rfl (fun hb h => ?_) (fun hb h => ?_)
            · refine V_go 4 ?_
              dsimp only [e_narthexlaw12_PlaceOrder, e_narthexlaw12_PlaceOrder_L0, go_sem, Nat.reduceBEq, Nat.reduceAdd]
              refine ⟨by simp, ?_⟩
              exact M_done (res := fun (r : Bool) => .bv r) ok_narthexlaw12_PlaceOrder (M_out h hout1) (by first | exact le_refl _ | simp [go_sem])
            · refine V_go 5 ?_
              dsimp only [e_narthexlaw12_PlaceOrder, e_narthexlaw12_PlaceOrder_L0, go_sem, Nat.reduceBEq, Nat.reduceAdd]
              refine ⟨by simp, ?_⟩
              obtain ⟨x18, ex18, h⟩ := Option.bind_eq_some_iff.1 h
              refine V_idxM intRow ex18 trivial rfl rfl rfl ?_
              refine V_go 3 ?_
              dsimp only [e_narthexlaw12_PlaceOrder, e_narthexlaw12_PlaceOrder_L0, go_sem, Nat.reduceBEq, Nat.reduceAdd]
              refine ⟨by simp, ?_⟩
              obtain ⟨x19, ex19, h⟩ := Option.bind_eq_some_iff.1 h
              refine V_appM intRow ex19 trivial rfl rfl rfl ?_
              refine V_go 8 ?_
              dsimp only [e_narthexlaw12_PlaceOrder, e_narthexlaw12_PlaceOrder_L0, go_sem, Nat.reduceBEq, Nat.reduceAdd]
              refine ⟨by simp, ?_⟩
              refine V_ren 2 0 rfl rfl rfl ?_
              dsimp only [go_sem, Nat.reduceBEq, Nat.reduceAdd]
              exact M_back h hin1 (by simp [go_sem]) (by first | rfl | simp [go_sem])
          · refine M_case 37 h rfl (fun hb h => ?_) (fun hb h => ?_)
            · dsimp only [go_sem, Nat.reduceBEq, Nat.reduceAdd]
              refine V_go 7 ?_
              dsimp only [e_narthexlaw12_PlaceOrder, e_narthexlaw12_PlaceOrder_L0, go_sem, Nat.reduceBEq, Nat.reduceAdd]
              refine ⟨by simp, ?_⟩
              exact M_to J3 (s := true) h (by simp [go_sem]) (by first | rfl | simp [go_sem])
            · dsimp only [go_sem, Nat.reduceBEq, Nat.reduceAdd]
              refine V_go 2 ?_
              dsimp only [e_narthexlaw12_PlaceOrder, e_narthexlaw12_PlaceOrder_L0, go_sem, Nat.reduceBEq, Nat.reduceAdd]
              refine ⟨by simp, ?_⟩
              obtain ⟨x16, ex16, h⟩ := Option.bind_eq_some_iff.1 h
              refine V_idxM intRow ex16 trivial rfl rfl rfl ?_
              refine V_go 4 ?_
              dsimp only [e_narthexlaw12_PlaceOrder, e_narthexlaw12_PlaceOrder_L0, go_sem, Nat.reduceBEq, Nat.reduceAdd]
              refine ⟨by simp, ?_⟩
              exact M_to J3 (s := decide (1000 < x16)) h (by simp [go_sem]) (by first | rfl | simp [go_sem])
        · refine V_go 1 ?_
          dsimp only [e_narthexlaw12_PlaceOrder, e_narthexlaw12_PlaceOrder_L0, go_sem, Nat.reduceBEq, Nat.reduceAdd]
          refine ⟨by simp, ?_⟩
          exact M_to J2 (s := x14) (M_out h hout1) (by simp [go_sem]) (by first | rfl | simp [go_sem])
  · refine M_case 13 h rfl (fun hb h => ?_) (fun hb h => ?_)
    · dsimp only [go_sem, Nat.reduceBEq, Nat.reduceAdd]
      refine V_go 11 ?_
      dsimp only [e_narthexlaw12_PlaceOrder, e_narthexlaw12_PlaceOrder_L0, go_sem, Nat.reduceBEq, Nat.reduceAdd]
      refine ⟨by simp, ?_⟩
      exact M_to J1 (s := true) h (by simp [go_sem]) (by first | rfl | simp [go_sem])
    · dsimp only [go_sem, Nat.reduceBEq, Nat.reduceAdd]
      refine V_go 6 ?_
      dsimp only [e_narthexlaw12_PlaceOrder, e_narthexlaw12_PlaceOrder_L0, go_sem, Nat.reduceBEq, Nat.reduceAdd]
      refine ⟨by simp, ?_⟩
      refine M_case 19 h rfl (fun hb h => ?_) (fun hb h => ?_)
      · dsimp only [go_sem, Nat.reduceBEq, Nat.reduceAdd]
        refine V_go 5 ?_
        dsimp only [e_narthexlaw12_PlaceOrder, e_narthexlaw12_PlaceOrder_L0, go_sem, Nat.reduceBEq, Nat.reduceAdd]
        refine ⟨by simp, ?_⟩
        exact M_to J1 (s := true) h (by simp [go_sem]) (by first | rfl | simp [go_sem])
      · dsimp only [go_sem, Nat.reduceBEq, Nat.reduceAdd]
        refine V_go 5 ?_
        dsimp only [e_narthexlaw12_PlaceOrder, e_narthexlaw12_PlaceOrder_L0, go_sem, Nat.reduceBEq, Nat.reduceAdd]
        refine ⟨by simp, ?_⟩
        exact M_to J1 (s := decide (70 < (ln intRow x2))) h (by simp [go_sem]) (by first | rfl | simp [go_sem])
def f_narthexlaw12_PlaceOrder_j4 (F : Nat)  : Bool → Option Bool
| x33 =>
 some x33
theorem le_narthexlaw12_PlaceOrder_j4 {F : Nat} : ∀ s, ole (f_narthexlaw12_PlaceOrder_j4 F s) (m_narthexlaw12_PlaceOrder_j4 s) := by
  intro x33
  unfold f_narthexlaw12_PlaceOrder_j4 m_narthexlaw12_PlaceOrder_j4
  try dsimp only
  repeat' first | with_reducible exact ole_refl _ | assumption | intro _ | with_reducible refine ole_ifb ?_ ?_ | with_reducible refine ole_bind ?_ ?_ | with_reducible refine ole_map ?_ | with_reducible refine ole_loop ?_
def f_narthexlaw12_PlaceOrder_j2 (F : Nat) (x1 : Graph) (x2 : (List Int)) : (List Int) → Option Bool
| x26 =>
 (f_narthexlaw03_Own F x1).bind fun x27 =>
 (app_ 8 (([] : List Int)) x2).bind fun x28 =>
 (f_place_Table F x27 x28).bind fun x29 =>
 (f_narthexlaw03_Own F x1).bind fun x30 =>
 (f_place_Table F x30 x26).bind fun x31 =>
 ifb (decide (x29.2 = x31.2)) (
 (f_place_Same F x29.1 x31.1).bind fun x32 =>
 f_narthexlaw12_PlaceOrder_j4 F x32) (
 f_narthexlaw12_PlaceOrder_j4 F false)
theorem le_narthexlaw12_PlaceOrder_j2 {F : Nat} {x1 : Graph} {x2 : (List Int)} : ∀ s, ole (f_narthexlaw12_PlaceOrder_j2 F x1 x2 s) (m_narthexlaw12_PlaceOrder_j2 x1 x2 s) := by
  intro x26
  unfold f_narthexlaw12_PlaceOrder_j2 m_narthexlaw12_PlaceOrder_j2
  try dsimp only
  repeat' first | with_reducible exact ole_refl _ | assumption | intro _ | with_reducible refine ole_ifb ?_ ?_ | with_reducible refine ole_bind ?_ ?_ | with_reducible refine ole_map ?_ | with_reducible refine ole_loop ?_ | with_reducible apply le_narthexlaw12_PlaceOrder_j4 | with_reducible apply le_narthexlaw03_Own | with_reducible apply le_place_Table | with_reducible apply le_place_Same
def f_narthexlaw12_PlaceOrder_j3 (F : Nat) (x2 : (List Int)) (x13 : Int) (x14 : (List Int)) : Bool → Option ((Int × (List Int)) ⊕ Bool)
| x17 =>
 ifb x17 (
 Option.map Sum.inr (some true)) (
 (at_ x2 x13).bind fun x18 =>
 (app_ 8 x14 ([wr (3 * x18)])).bind fun x19 =>
 some (.inl (wr (x13 + 1), x19)))
theorem le_narthexlaw12_PlaceOrder_j3 {F : Nat} {x2 : (List Int)} {x13 : Int} {x14 : (List Int)} : ∀ s, ole (f_narthexlaw12_PlaceOrder_j3 F x2 x13 x14 s) (m_narthexlaw12_PlaceOrder_j3 x2 x13 x14 s) := by
  intro x17
  unfold f_narthexlaw12_PlaceOrder_j3 m_narthexlaw12_PlaceOrder_j3
  try dsimp only
  repeat' first | with_reducible exact ole_refl _ | assumption | intro _ | with_reducible refine ole_ifb ?_ ?_ | with_reducible refine ole_bind ?_ ?_ | with_reducible refine ole_map ?_ | with_reducible refine ole_loop ?_ | with_reducible apply le_narthexlaw12_PlaceOrder_j4 | with_reducible apply le_narthexlaw03_Own | with_reducible apply le_place_Table | with_reducible apply le_place_Same | with_reducible apply le_narthexlaw12_PlaceOrder_j2
def f_narthexlaw12_PlaceOrder_l1 (F : Nat) (x1 : Graph) (x2 : (List Int)) : (Int × (List Int)) → Option ((Int × (List Int)) ⊕ Bool)
| (x13, x14) =>
 ifb (decide (x13 < (ln intRow x2))) (
 (at_ x2 x13).bind fun x15 =>
 ifb (decide (x15 < 0)) (
 (f_narthexlaw12_PlaceOrder_j3 F x2 x13 x14) true) (
 (at_ x2 x13).bind fun x16 =>
 (f_narthexlaw12_PlaceOrder_j3 F x2 x13 x14) (decide (1000 < x16)))) (
 Option.map Sum.inr ((f_narthexlaw12_PlaceOrder_j2 F x1 x2) x14))
theorem le_narthexlaw12_PlaceOrder_l1 {F : Nat} {x1 : Graph} {x2 : (List Int)} : ∀ s, ole (f_narthexlaw12_PlaceOrder_l1 F x1 x2 s) (m_narthexlaw12_PlaceOrder_l1 x1 x2 s) := by
  rintro ⟨x13, x14⟩
  unfold f_narthexlaw12_PlaceOrder_l1 m_narthexlaw12_PlaceOrder_l1
  try dsimp only
  repeat' first | with_reducible exact ole_refl _ | assumption | intro _ | with_reducible refine ole_ifb ?_ ?_ | with_reducible refine ole_bind ?_ ?_ | with_reducible refine ole_map ?_ | with_reducible refine ole_loop ?_ | with_reducible apply le_narthexlaw12_PlaceOrder_j4 | with_reducible apply le_narthexlaw03_Own | with_reducible apply le_place_Table | with_reducible apply le_place_Same | with_reducible apply le_narthexlaw12_PlaceOrder_j2 | with_reducible apply le_narthexlaw12_PlaceOrder_j3
def f_narthexlaw12_PlaceOrder_j1 (F : Nat) (x1 : Graph) (x2 : (List Int)) : Bool → Option Bool
| x4 =>
 ifb x4 (
 (f_narthexlaw12_awake F).bind fun x5 =>
 some x5) (
 loopF F (f_narthexlaw12_PlaceOrder_l1 F x1 x2) (0, ([] : List Int)))
theorem le_narthexlaw12_PlaceOrder_j1 {F : Nat} {x1 : Graph} {x2 : (List Int)} : ∀ s, ole (f_narthexlaw12_PlaceOrder_j1 F x1 x2 s) (m_narthexlaw12_PlaceOrder_j1 x1 x2 s) := by
  intro x4
  unfold f_narthexlaw12_PlaceOrder_j1 m_narthexlaw12_PlaceOrder_j1
  try dsimp only
  repeat' first | with_reducible exact ole_refl _ | assumption | intro _ | with_reducible refine ole_ifb ?_ ?_ | with_reducible refine ole_bind ?_ ?_ | with_reducible refine ole_map ?_ | with_reducible refine ole_loop ?_ | with_reducible apply le_narthexlaw12_PlaceOrder_j4 | with_reducible apply le_narthexlaw03_Own | with_reducible apply le_place_Table | with_reducible apply le_place_Same | with_reducible apply le_narthexlaw12_PlaceOrder_j2 | with_reducible apply le_narthexlaw12_PlaceOrder_j3 | with_reducible apply le_narthexlaw12_PlaceOrder_l1 | with_reducible apply le_narthexlaw12_awake
def f_narthexlaw12_PlaceOrder (F : Nat) (x1 : Graph) (x2 : (List Int)) : Option Bool :=
 (f_narthexlaw12_awake F).bind fun x3 =>
 ifb (!x3) (
 (f_narthexlaw12_PlaceOrder_j1 F x1 x2) true) (
 ifb (decide (60 < (ln Edge.row x1.Edges))) (
 (f_narthexlaw12_PlaceOrder_j1 F x1 x2) true) (
 (f_narthexlaw12_PlaceOrder_j1 F x1 x2) (decide (70 < (ln intRow x2)))))
theorem le_narthexlaw12_PlaceOrder {F : Nat} {x1 : Graph} {x2 : (List Int)} : ole (f_narthexlaw12_PlaceOrder F x1 x2) (m_narthexlaw12_PlaceOrder x1 x2) := by
  unfold f_narthexlaw12_PlaceOrder m_narthexlaw12_PlaceOrder
  repeat' first | with_reducible exact ole_refl _ | assumption | intro _ | with_reducible refine ole_ifb ?_ ?_ | with_reducible refine ole_bind ?_ ?_ | with_reducible refine ole_map ?_ | with_reducible refine ole_loop ?_ | with_reducible apply le_narthexlaw12_PlaceOrder_j4 | with_reducible apply le_narthexlaw03_Own | with_reducible apply le_place_Table | with_reducible apply le_place_Same | with_reducible apply le_narthexlaw12_PlaceOrder_j2 | with_reducible apply le_narthexlaw12_PlaceOrder_j3 | with_reducible apply le_narthexlaw12_PlaceOrder_l1 | with_reducible apply le_narthexlaw12_awake | with_reducible apply le_narthexlaw12_PlaceOrder_j1
end NX
end Go.Proofs.Ytadebhbiglmodaa
/-
  The anchor of layer 12: its model answers true. No statement of the seat is proved here.
-/
namespace Go.Proofs.Ytadebhbiglmodaa
namespace NX
open Go
theorem s_awake12 : m_narthexlaw12_awake = some true := le_narthexlaw12_awake.h _ (by kernel_rfl : f_narthexlaw12_awake 50 = some true)
end NX
end Go.Proofs.Ytadebhbiglmodaa
/-
  Plain laws: nodes: their sides, whether they are the same, few, copied. No statement of the seat is proved here.
-/
namespace Go.Proofs.Ytadebhbiglmodaa
namespace NX
open Go
/-- A loop over a list, its state told by what lies behind. -/
theorem loop_pp {α τ β : Type} (l : List α) (body : τ → Option (τ ⊕ β)) (st : List α → τ) (R : List α → List α → Option β)
    (hb : ∀ pre x post, l = pre ++ x :: post → (body (st pre) = some (.inl (st (pre ++ [x]))) ∧ R pre (x :: post) = R (pre ++ [x]) post) ∨ ∃ r, body (st pre) = some (.inr r) ∧ R pre (x :: post) = some r)
    (he : body (st l) = (R l []).map .inr) : ∀ post pre, l = pre ++ post → loop body (st pre) = R pre post
  | [], pre, h => by
    have : pre = l := by simpa using h.symm
    subst this
    rw [loop_eq, he]
    cases R pre [] <;> rfl
  | x :: post, pre, h => by
    rw [loop_eq]
    rcases hb pre x post h with ⟨h1, h2⟩ | ⟨r, h1, h2⟩
    · rw [h1, h2]
      exact loop_pp l body st R hb he post (pre ++ [x]) (by simpa using h)
    · rw [h1, h2]
theorem loop_pp0 {α τ β : Type} (l : List α) (body : τ → Option (τ ⊕ β)) (st : List α → τ) (R : List α → List α → Option β)
    (hb : ∀ pre x post, l = pre ++ x :: post → (body (st pre) = some (.inl (st (pre ++ [x]))) ∧ R pre (x :: post) = R (pre ++ [x]) post) ∨ ∃ r, body (st pre) = some (.inr r) ∧ R pre (x :: post) = some r)
    (he : body (st l) = (R l []).map .inr) : loop body (st []) = R [] l := loop_pp l body st R hb he l [] rfl
/-- .. behind which something always holds. -/
theorem loop_ppI {α τ β : Type} (l : List α) (body : τ → Option (τ ⊕ β)) (st : List α → τ) (R : List α → List α → Option β) (I : List α → Prop)
    (hb : ∀ pre x post, l = pre ++ x :: post → I pre → (body (st pre) = some (.inl (st (pre ++ [x]))) ∧ I (pre ++ [x]) ∧ R pre (x :: post) = R (pre ++ [x]) post) ∨ ∃ r, body (st pre) = some (.inr r) ∧ R pre (x :: post) = some r)
    (he : I l → body (st l) = (R l []).map .inr) : ∀ post pre, l = pre ++ post → I pre → loop body (st pre) = R pre post
  | [], pre, h, hI => by
    have : pre = l := by simpa using h.symm
    subst this
    rw [loop_eq, he hI]
    cases R pre [] <;> rfl
  | x :: post, pre, h, hI => by
    rw [loop_eq]
    rcases hb pre x post h hI with ⟨h1, h3, h2⟩ | ⟨r, h1, h2⟩
    · rw [h1, h2]
      exact loop_ppI l body st R I hb he post (pre ++ [x]) (by simpa using h) h3
    · rw [h1, h2]
/-- .. that goes to its end. -/
theorem loop_pre {α τ β : Type} (l : List α) (body : τ → Option (τ ⊕ β)) (st : List α → τ) (r : β)
    (hb : ∀ pre x post, l = pre ++ x :: post → body (st pre) = some (.inl (st (pre ++ [x])))) (he : body (st l) = some (.inr r)) : loop body (st []) = some r :=
  loop_pp0 l body st (fun _ _ => some r) (fun pre x post h => .inl ⟨hb pre x post h, rfl⟩) he
theorem mid_get {α : Type} {l pre post : List α} {x : α} (h : l = pre ++ x :: post) : l[pre.length]? = some x := by subst h; simp
theorem mid_len {α : Type} {l pre post : List α} {x : α} (h : l = pre ++ x :: post) : pre.length < l.length := by subst h; simp
theorem mid_mem {α : Type} {l pre post : List α} {x : α} (h : l = pre ++ x :: post) : x ∈ l := by subst h; simp
theorem len_snoc {α : Type} (pre : List α) (x : α) : (pre ++ [x]).length = pre.length + 1 := by simp
/-- Two lists, one beside the other. -/
theorem loop_all2 {α : Type} (l m : List α) (body : Int → Option (Int ⊕ Bool)) (eqv : α → α → Bool) (hlm : l.length = m.length) (hl : l.length ≤ 4000000000000000000)
    (hb : ∀ (k : Nat) x y, l[k]? = some x → m[k]? = some y → body k = some (if eqv x y then .inl ((k + 1 : Nat) : Int) else .inr false)) (he : body l.length = some (.inr true)) : loop body 0 = some ((l.zip m).all fun p => eqv p.1 p.2) := by
  rw [loop_any (l.zip m) body (fun p => !eqv p.1 p.2) false true (by simp; omega) (fun k x hx => by
    obtain ⟨x1, x2⟩ := x
    rw [List.getElem?_zip_eq_some] at hx
    rw [hb k x1 x2 hx.1 hx.2]
    cases eqv x1 x2 <;> rfl) (by rw [show (l.zip m).length = l.length by simp [hlm]]; exact he)]
  have : ∀ (q : List (α × α)), (if q.any (fun p => !eqv p.1 p.2) then some false else some true) = some (q.all fun p => eqv p.1 p.2) := by
    intro q
    induction q with
    | nil => rfl
    | cons p q ih =>
      rw [List.any_cons, List.all_cons]
      cases h : eqv p.1 p.2 with
      | true => exact ih
      | false => rfl
  have h2 := this (l.zip m)
  rw [← h2]
  cases (l.zip m).any (fun p => !eqv p.1 p.2) <;> rfl
theorem zip_all_eq {α : Type} [DecidableEq α] : ∀ (l m : List α), l.length = m.length → (l.zip m).all (fun p => decide (p.1 = p.2)) = decide (l = m)
  | [], [], _ => rfl
  | [], _ :: _, h => by simp at h
  | _ :: _, [], h => by simp at h
  | x :: l, y :: m, h => by
    have ih := zip_all_eq l m (by simpa using h)
    simp only [List.zip_cons_cons, List.all_cons, ih]
    by_cases h1 : x = y <;> simp [h1]
theorem len_ne {α : Type} [DecidableEq α] {l m : List α} (h : l.length ≠ m.length) : decide (l = m) = false := decide_eq_false (by rintro rfl; exact h rfl)
theorem Side_eqB (x y : Side) : (decide (x.Peer = y.Peer) && (decide (x.Epoch = y.Epoch) && (decide (x.State = y.State) && ((x.Fork == y.Fork) && ((x.Dirty == y.Dirty) && ((x.Token == y.Token) && ((x.Bottle == y.Bottle) && ((x.Ask == y.Ask) && true)))))))) = decide (x = y) := by
  rw [Bool.eq_iff_iff]; cases x; cases y; simp [Side.mk.injEq]
theorem Mail_eqB (x y : Mail) : (decide (x.From = y.From) && (decide (x.To = y.To) && (decide (x.Msg.Kind = y.Msg.Kind) && (decide (x.Msg.Epoch = y.Msg.Epoch) && (decide (x.Msg.Num = y.Msg.Num) && true))))) = decide (x = y) := by
  rw [Bool.eq_iff_iff]
  obtain ⟨x1, x2, x3, x4, x5⟩ := x
  obtain ⟨y1, y2, y3, y4, y5⟩ := y
  simp [Mail.mk.injEq, Msg.mk.injEq]
theorem Edge_eqB (x y : Edge) : (decide (x.A = y.A) && (decide (x.B = y.B) && true)) = decide (x = y) := by
  rw [Bool.eq_iff_iff]; cases x; cases y; simp [Edge.mk.injEq]
theorem Arc_eqB (x y : Arc) : (decide (x.From = y.From) && (decide (x.To = y.To) && true)) = decide (x = y) := by
  rw [Bool.eq_iff_iff]; cases x; cases y; simp [Arc.mk.injEq]
theorem ln_dec {α β : Type} (f : α → List AV) (g : β → List AV) (l : List α) (m : List β) : decide (ln f l = ln g m) = decide (l.length = m.length) := by
  rw [ln_eq, ln_eq, decide_eq_decide]; omega
theorem s_EqualSide (l m : List Side) (hl : l.length ≤ 1000000) : m_slices_Equal_Side l m = some (decide (l = m)) := by
  simp only [m_slices_Equal_Side, ln_dec]
  by_cases h : l.length = m.length
  · simp only [h, decide_true, Bool.not_true, ifb_false]
    rw [loop_all2 l m _ (fun x y => decide (x = y)) h (by omega) (fun k x y hx hy => by
      simp only [m_slices_Equal_Side_l1, lt_len hx, ifb_true, at_get hx, at_get hy, Option.bind_some, Side_eqB, wr_succ' hx (show l.length ≤ 4000000000000000000 by omega), ifb_not]
      cases decide (x = y) <;> rfl) (by simp only [m_slices_Equal_Side_l1, nlt_len, ifb_false, m_slices_Equal_Side_j1, Option.map_some]), zip_all_eq l m h]
  · simp [h, len_ne h]
theorem s_r12SameOne (a b : Diner) (hl : a.Sides.length ≤ 1000000) : m_narthexref12_SameOne a b = some (decide (a = b)) := by
  obtain ⟨a1, a2, l⟩ := a
  obtain ⟨b1, b2, m⟩ := b
  dsimp only at hl
  simp only [m_narthexref12_SameOne, m_narthexref12_SameOne_j1, ln_dec, Diner.mk.injEq]
  by_cases h1 : a1 = b1
  · by_cases h2 : a2 = b2
    · by_cases h : l.length = m.length
      · simp only [h1, h2, h, decide_true, Bool.not_true, ifb_false, true_and]
        rw [loop_all2 l m _ (fun x y => decide (x = y)) h (by omega) (fun k x y hx hy => by
          simp only [m_narthexref12_SameOne_l1, lt_len hx, ifb_true, at_get hx, at_get hy, Option.bind_some, Side_eqB, wr_succ' hx (show l.length ≤ 4000000000000000000 by omega), ifb_not, Option.map_some]
          cases decide (x = y) <;> rfl) (by simp only [m_narthexref12_SameOne_l1, nlt_len, ifb_false, m_narthexref12_SameOne_j2, Option.map_some]), zip_all_eq l m h]
      · have := len_ne h
        simp [h1, h2, h]; rintro rfl; exact h rfl
    · simp [h1, h2]
  · simp [h1]
theorem s_placeSame1 (a b : Diner) (hl : a.Sides.length ≤ 1000000) : m_place_Same_1 a b = some (decide (a = b)) := by
  obtain ⟨a1, a2, l⟩ := a
  obtain ⟨b1, b2, m⟩ := b
  dsimp only at hl
  simp only [m_place_Same_1, m_place_Same_1_j1, s_EqualSide l m hl, Diner.mk.injEq]
  by_cases h1 : a1 = b1 <;> by_cases h2 : a2 = b2 <;> simp [h1, h2]
/-- Nodes that aren't too many. -/
def fewD (l : List Diner) : Prop := l.length ≤ 5000 ∧ ∀ d ∈ l, d.Sides.length ≤ 5000
theorem s_placeSame (l m : List Diner) (hl : fewD l) : m_place_Same l m = some (decide (l = m)) := by
  simp only [m_place_Same, m_slices_EqualFunc_Diner, ln_dec]
  by_cases h : l.length = m.length
  · simp only [h, decide_true, Bool.not_true, ifb_false]
    rw [loop_all2 l m _ (fun x y => decide (x = y)) h (by have := hl.1; omega) (fun k x y hx hy => by
      simp only [m_slices_EqualFunc_Diner_l1, lt_len hx, ifb_true, at_get hx, at_get hy, Option.bind_some, s_placeSame1 x y (by have := hl.2 x (List.mem_iff_getElem?.2 ⟨k, hx⟩); omega), wr_succ' hx (show l.length ≤ 4000000000000000000 by have := hl.1; omega), ifb_not, Option.map_some]
      cases decide (x = y) <;> rfl) (by simp only [m_slices_EqualFunc_Diner_l1, nlt_len, ifb_false, m_slices_EqualFunc_Diner_j1, Option.map_some]), zip_all_eq l m h]
    rfl
  · simp [h, len_ne h]
theorem s_r12Same (l m : List Diner) (hl : fewD l) : m_narthexref12_Same l m = some (decide (l = m)) := by
  simp only [m_narthexref12_Same, ln_dec]
  by_cases h : l.length = m.length
  · simp only [h, decide_true, Bool.not_true, ifb_false]
    rw [loop_all2 l m _ (fun x y => decide (x = y)) h (by have := hl.1; omega) (fun k x y hx hy => by
      simp only [m_narthexref12_Same_l1, lt_len hx, ifb_true, at_get hx, at_get hy, Option.bind_some, s_r12SameOne x y (by have := hl.2 x (List.mem_iff_getElem?.2 ⟨k, hx⟩); omega), wr_succ' hx (show l.length ≤ 4000000000000000000 by have := hl.1; omega), ifb_not, Option.map_some]
      cases decide (x = y) <;> rfl) (by simp only [m_narthexref12_Same_l1, nlt_len, ifb_false, m_narthexref12_Same_j1, Option.map_some]), zip_all_eq l m h]
  · simp [h, len_ne h]
theorem s_r03Same (g h : Graph) (hl : g.Edges.length ≤ 1000000) : m_narthexref03_Same g h = some (decide (g = h)) := by
  obtain ⟨n, l⟩ := g
  obtain ⟨n', m⟩ := h
  dsimp only at hl
  simp only [m_narthexref03_Same, m_narthexref03_Same_j1, ln_dec, Graph.mk.injEq]
  by_cases h1 : n = n'
  · by_cases h : l.length = m.length
    · simp only [h1, h, decide_true, Bool.not_true, ifb_false, true_and]
      rw [loop_all2 l m _ (fun x y => decide (x = y)) h (by omega) (fun k x y hx hy => by
        simp only [m_narthexref03_Same_l1, lt_len hx, ifb_true, at_get hx, at_get hy, Option.bind_some, Edge_eqB, wr_succ' hx (show l.length ≤ 4000000000000000000 by omega), ifb_not, Option.map_some]
        cases decide (x = y) <;> rfl) (by simp only [m_narthexref03_Same_l1, nlt_len, ifb_false, m_narthexref03_Same_j2, Option.map_some]), zip_all_eq l m h]
    · simp [h1, h]; rintro rfl; exact h rfl
  · simp [h1]
theorem s_r04Same (l m : List Arc) (hl : l.length ≤ 1000000) : m_narthexref04_Same l m = some (decide (l = m)) := by
  simp only [m_narthexref04_Same, ln_dec]
  by_cases h : l.length = m.length
  · simp only [h, decide_true, Bool.not_true, ifb_false]
    rw [loop_all2 l m _ (fun x y => decide (x = y)) h (by omega) (fun k x y hx hy => by
      simp only [m_narthexref04_Same_l1, lt_len hx, ifb_true, at_get hx, at_get hy, Option.bind_some, Arc_eqB, wr_succ' hx (show l.length ≤ 4000000000000000000 by omega), ifb_not, Option.map_some]
      cases decide (x = y) <;> rfl) (by simp only [m_narthexref04_Same_l1, nlt_len, ifb_false, m_narthexref04_Same_j1, Option.map_some]), zip_all_eq l m h]
  · simp [h, len_ne h]
/-- The side to a peer. -/
def side0 : Side := ⟨0, 0, 0, false, false, false, false, false⟩
def sideO (d : Diner) (p : Int) : Option Side := d.Sides.find? fun x => decide (x.Peer = p)
def sideP (o : Option Side) : Side × Bool := match o with | some x => (x, true) | none => (side0, false)
theorem find_idx {α : Type} (q : α → Bool) : ∀ l : List α, match l.findIdx? q with
    | some i => ∃ x, l[i]? = some x ∧ l.find? q = some x
    | none => l.find? q = none
  | [] => rfl
  | x :: l => by
    have ih := find_idx q l
    rw [List.findIdx?_cons, List.find?_cons]
    cases h : q x with
    | true => exact ⟨x, rfl, by simp⟩
    | false =>
      simp only [Bool.false_eq_true, if_false]
      cases hf : l.findIdx? q with
      | none => rw [hf] at ih; simpa using ih
      | some i => rw [hf] at ih; obtain ⟨y, h1, h2⟩ := ih; exact ⟨y, by simpa using h1, by simpa using h2⟩
theorem s_Side (d : Diner) (p : Int) (hl : d.Sides.length ≤ 1000000) : m_place_Side d p = some (sideP (sideO d p)) := by
  simp only [m_place_Side]
  rw [s_IndexFunc_Side d.Sides (fun z => m_place_Side_1 z p) (fun x => decide (x.Peer = p)) (by omega) (fun x _ => rfl), Option.bind_some, plc_neg]
  have := find_idx (fun x : Side => decide (x.Peer = p)) d.Sides
  unfold sideO
  cases h : d.Sides.findIdx? (fun x => decide (x.Peer = p)) with
  | none => rw [h] at this; simp only at this; rw [this]; rfl
  | some i =>
    rw [h] at this
    obtain ⟨x, h1, h2⟩ := this
    rw [h2]
    simp only [Option.isNone_some, ifb_false, plc, at_get h1, Option.bind_some, sideP]
theorem s_r12Side (d : Diner) (p : Int) (hl : d.Sides.length ≤ 1000000) : m_narthexref12_Side d p = some (sideP (sideO d p)) := by
  unfold m_narthexref12_Side
  have := loop_forL d.Sides (m_narthexref12_Side_l1 d p) (fun k (_ : Unit) => k) (fun x _ => if decide (x.Peer = p) then some (.inr (x, true)) else some (.inl ())) (fun _ => some (side0, false)) (by omega) (fun k x s hx => by
    simp only [m_narthexref12_Side_l1, lt_len hx, ifb_true, at_get hx, Option.bind_some, wr_succ' hx (show d.Sides.length ≤ 4000000000000000000 by omega), Option.map_some]
    cases decide (x.Peer = p) <;> rfl) (fun _ => by simp only [m_narthexref12_Side_l1, nlt_len, ifb_false, m_narthexref12_Side_j1, Option.map_some]; rfl) ()
  rw [this, forL_find (fun x => if decide (x.Peer = p) then some (.inr (x, true)) else some (.inl ())) (fun x => decide (x.Peer = p)) (fun x => (x, true)) (some (side0, false)) d.Sides (fun x _ => rfl)]
  unfold sideO
  cases d.Sides.find? (fun x => decide (x.Peer = p)) <;> rfl
/-- Few: nodes, sides, mail. -/
def fewB (s : Scene) : Bool := decide (s.Diners.length ≤ 24) && (decide (s.Mail.length ≤ 40) && s.Diners.all fun d => decide (d.Sides.length ≤ 24))
theorem s_Few (s : Scene) : m_narthexref12_Few s = some (fewB s) := by
  unfold m_narthexref12_Few
  by_cases h24 : s.Diners.length ≤ 24
  · rw [loop_any s.Diners (m_narthexref12_Few_l1 s) (fun d => !decide (d.Sides.length ≤ 24)) false (decide (s.Mail.length ≤ 40)) (by omega) (fun k x hx => by
      have hk := (List.getElem?_eq_some_iff.1 hx).1
      have h25 : decide ((k : Int) < 25) = true := decide_eq_true (by omega)
      have e : decide (24 < ln Side.row x.Sides) = !decide (x.Sides.length ≤ 24) := by
        rw [ln_eq, ← decide_not, decide_eq_decide]; omega
      simp only [m_narthexref12_Few_l1, lt_len hx, ifb_true, m_narthexref12_Few_j2, h25, at_get hx, Option.bind_some, e, wr_succ' hx (show s.Diners.length ≤ 4000000000000000000 by omega), Option.map_some]
      cases decide (x.Sides.length ≤ 24) <;> rfl) (by
      have e1 : decide (ln Diner.row s.Diners ≤ 24) = true := by rw [ln_eq]; exact decide_eq_true (by omega)
      have e2 : decide (ln Mail.row s.Mail ≤ 40) = decide (s.Mail.length ≤ 40) := by rw [ln_eq, decide_eq_decide]; omega
      simp only [m_narthexref12_Few_l1, nlt_len, ifb_false, m_narthexref12_Few_j2, m_narthexref12_Few_j1, m_narthexref12_Few_j3, e1, e2, ifb_true, Option.map_some])]
    unfold fewB
    have : s.Diners.any (fun d => !decide (d.Sides.length ≤ 24)) = !s.Diners.all (fun d => decide (d.Sides.length ≤ 24)) := any_not_all _ _ _ fun _ => rfl
    rw [this]
    cases s.Diners.all (fun d => decide (d.Sides.length ≤ 24)) <;> simp [h24]
  · -- too many: whatever the first ones have
    have hf : fewB s = false := by simp [fewB, h24]
    rw [hf]
    have key : ∀ m k : Nat, m + k = 25 → loop (m_narthexref12_Few_l1 s) (k : Int) = some false := by
      intro m
      induction m with
      | zero =>
        intro k hk
        have : k = 25 := by omega
        subst this
        rw [loop_eq]
        have e1 : decide (ln Diner.row s.Diners ≤ 24) = false := by rw [ln_eq]; exact decide_eq_false (by omega)
        simp only [m_narthexref12_Few_l1, m_narthexref12_Few_j2, m_narthexref12_Few_j1, m_narthexref12_Few_j3, e1, ifb_false, Option.map_some]
        cases decide (((25 : Nat) : Int) < ln Diner.row s.Diners) <;> rfl
      | succ m ih =>
        intro k hk
        have hx : s.Diners[k]? = some s.Diners[k] := List.getElem?_eq_getElem (by omega)
        have h25 : decide ((k : Int) < 25) = true := decide_eq_true (by omega)
        rw [loop_eq]
        simp only [m_narthexref12_Few_l1, lt_len hx, ifb_true, m_narthexref12_Few_j2, h25, at_get hx, Option.bind_some, wr_succ (show k ≤ 4000000000000000000 by omega), Option.map_some]
        cases decide (24 < ln Side.row s.Diners[k].Sides) with
        | true => rfl
        | false => exact ih (k + 1) (by omega)
    exact key 25 0 rfl
theorem fewB_iff {s : Scene} (h : fewB s = true) : s.Diners.length ≤ 24 ∧ s.Mail.length ≤ 40 ∧ ∀ d ∈ s.Diners, d.Sides.length ≤ 24 := by
  simp only [fewB, Bool.and_eq_true, decide_eq_true_eq, List.all_eq_true] at h
  exact h
theorem fewB_D {s : Scene} (h : fewB s = true) : fewD s.Diners := by
  obtain ⟨h1, _, h3⟩ := fewB_iff h
  exact ⟨by omega, fun d hd => by have := h3 d hd; omega⟩
theorem s_Own (l : List Diner) (hl : fewD l) : m_narthexlaw12_Own l = some l := by
  unfold m_narthexlaw12_Own
  refine loop_pre l _ (fun pre => ((pre.length : Int), pre)) l (fun pre x post h => ?_) ?_
  · have hx := mid_get h
    have hm := mid_len h
    have h1 := hl.1
    have h2 := hl.2 x (mid_mem h)
    dsimp only [m_narthexlaw12_Own_l1]
    rw [lt_len hx, ifb_true, at_get hx, Option.bind_some, app_ok _ _ (by omega) (by simp; omega), Option.bind_some, app_ok _ _ (by omega) (by simp; omega), Option.bind_some, wr_succ (by omega), len_snoc]
    rfl
  · dsimp only [m_narthexlaw12_Own_l1]
    rw [nlt_len, ifb_false]; rfl
theorem s_Own03 (g : Graph) (hl : g.Edges.length ≤ 1000000) : m_narthexlaw03_Own g = some g := by
  simp only [m_narthexlaw03_Own]
  rw [app_ok _ _ (by omega) (by simp; omega)]
  rfl
end NX
end Go.Proofs.Ytadebhbiglmodaa
/-
  Plain laws: the graph that nodes are of. No statement of the seat is proved here.
-/
namespace Go.Proofs.Ytadebhbiglmodaa
namespace NX
open Go
/-- May this be a side of node 'i'? -/
def sideB (l : List Diner) (i : Nat) (x : Side) : Bool :=
  decide (0 ≤ x.Peer) && (decide (x.Peer < l.length) && (!decide (x.Peer = i) && (match l[x.Peer.toNat]? with | some e => (sideO e i).isSome | none => false)))
def lastP (pre : List Side) : Option Int := pre.getLast?.map (·.Peer)
def riseB (p : Option Int) (x : Side) : Bool := match p with | none => true | some q => decide (q < x.Peer)
def okFrom (l : List Diner) (i : Nat) : Option Int → List Side → Bool
  | _, [] => true
  | p, x :: r => riseB p x && (sideB l i x && okFrom l i (some x.Peer) r)
def edgesD (i : Nat) (xs : List Side) : List Edge := (xs.filter fun x => decide ((i : Int) < x.Peer)).map fun x => ⟨i, x.Peer⟩
def okAll (l : List Diner) : Nat → List Diner → Bool
  | _, [] => true
  | i, d :: r => decide (d.ID = i) && (okFrom l i none d.Sides && okAll l (i + 1) r)
def edgesL : Nat → List Diner → List Edge
  | _, [] => []
  | i, d :: r => edgesD i d.Sides ++ edgesL (i + 1) r
def graph0 : Graph := ⟨0, []⟩
def graphP (l : List Diner) : Graph × Bool := if okAll l 0 l && okG ⟨l.length, edgesL 0 l⟩ then (⟨l.length, edgesL 0 l⟩, true) else (graph0, false)
theorem lastP_snoc (pre : List Side) (x : Side) : lastP (pre ++ [x]) = some x.Peer := by simp [lastP]
theorem edgesD_snoc (i : Nat) (pre : List Side) (x : Side) : edgesD i (pre ++ [x]) = if decide ((i : Int) < x.Peer) then edgesD i pre ++ [⟨i, x.Peer⟩] else edgesD i pre := by
  unfold edgesD
  by_cases h : (i : Int) < x.Peer <;> simp [h]
theorem edgesD_len (i : Nat) (xs : List Side) : (edgesD i xs).length ≤ xs.length := by simp [edgesD, List.length_filter_le]
theorem edgesL_append : ∀ (a b : List Diner) (i : Nat), edgesL i (a ++ b) = edgesL i a ++ edgesL (i + a.length) b
  | [], b, i => by simp [edgesL]
  | d :: a, b, i => by simp [edgesL, edgesL_append a b (i + 1), Nat.add_comm, Nat.add_left_comm]
theorem edgesL_len : ∀ (l : List Diner) (i : Nat), (∀ d ∈ l, d.Sides.length ≤ 5000) → (edgesL i l).length ≤ l.length * 5000
  | [], _, _ => by simp [edgesL]
  | d :: l, i, h => by
    have h1 := edgesL_len l (i + 1) fun e he => h e (by simp [he])
    have h2 := h d (by simp)
    have h3 := edgesD_len i d.Sides
    simp only [edgesL, List.length_append, List.length_cons]
    omega
theorem prev_step {γ : Type} {l pre post : List Side} {x : Side} (h : l = pre ++ x :: post) (hl : l.length ≤ 5000) (A : Bool → Option γ) :
    ifb (decide (0 < (pre.length : Int))) ((at_ l (wr ((pre.length : Int) - 1))).bind fun y => A (decide (x.Peer ≤ y.Peer))) (A false) = A (!riseB (lastP pre) x) := by
  rcases List.eq_nil_or_concat pre with rfl | ⟨q, y, rfl⟩
  · simp [lastP, riseB]
  · rw [List.concat_eq_append] at h ⊢
    have hy : l[q.length]? = some y := by subst h; simp
    have hm := mid_len h
    have e : decide (0 < (((q ++ [y]).length : Nat) : Int)) = true := decide_eq_true (by simp only [len_snoc]; omega)
    rw [e, ifb_true, len_snoc, wr_pred (by simp at hm; omega), at_get hy, Option.bind_some, lastP_snoc, riseB, ← decide_not]
    congr 2
    simp
theorem inner_len {l : List Diner} {pre post : List Diner} {d : Diner} (hl : fewD l) (h : l = pre ++ d :: post) : (edgesL 0 pre).length ≤ 25000000 := by
  have h1 := edgesL_len pre 0 fun e he => hl.2 e (by subst h; simp [he])
  have h2 := mid_len h
  have := hl.1
  omega
theorem s_Graph2 (l : List Diner) (hl : fewD l) (i : Nat) (d : Diner) (hd : d ∈ l) (hi : i ≤ 5000) (E : List Edge) (hE : E.length ≤ 25000000) :
    loop (m_place_Graph_l2 l i d) (0, E) = some (if okFrom l i none d.Sides then .inl (((i + 1 : Nat) : Int), E ++ edgesD i d.Sides) else .inr (graph0, false)) := by
  have hdl := hl.2 d hd
  have key := (loop_pp0 d.Sides (m_place_Graph_l2 l i d) (fun pre => ((pre.length : Int), E ++ edgesD i pre)) (fun pre post => some (if okFrom l i (lastP pre) post then .inl (((i + 1 : Nat) : Int), E ++ edgesD i (pre ++ post)) else .inr (graph0, false))) ?_ ?_)
  · rw [show edgesD i [] = [] from rfl, List.append_nil] at key; exact key
  · intro pre x post h
    have hx := mid_get h
    have hm := mid_len h
    dsimp only [m_place_Graph_l2]
    rw [lt_len hx, ifb_true, at_get hx, Option.bind_some, prev_step h hdl (m_place_Graph_j3 l i pre.length (E ++ edgesD i pre) x)]
    have bad : m_place_Graph_j3 l (i : Int) pre.length (E ++ edgesD i pre) x true = some (.inr (.inr (graph0, false))) := rfl
    by_cases h1 : x.Peer < 0
    · right
      refine ⟨_, by rw [decide_eq_true h1, ifb_true, bad], ?_⟩
      have : sideB l i x = false := by simp [sideB]; omega
      simp [okFrom, this]
    by_cases h2 : (l.length : Int) ≤ x.Peer
    · right
      refine ⟨_, by rw [decide_eq_false h1, ifb_false, ln_eq, decide_eq_true h2, ifb_true, bad], ?_⟩
      have : sideB l i x = false := by simp [sideB]; omega
      simp [okFrom, this]
    by_cases h3 : x.Peer = i
    · right
      refine ⟨_, by rw [decide_eq_false h1, ifb_false, ln_eq, decide_eq_false h2, ifb_false, decide_eq_true h3, ifb_true, bad], ?_⟩
      have : sideB l i x = false := by simp [sideB, h3]
      simp [okFrom, this]
    rw [decide_eq_false h1, ifb_false, ln_eq, decide_eq_false h2, ifb_false, decide_eq_false h3, ifb_false]
    cases h4 : riseB (lastP pre) x with
    | false =>
      right
      exact ⟨_, by rw [Bool.not_false, bad], by simp [okFrom, h4]⟩
    | true =>
      obtain ⟨e, he1, he2⟩ := at_lt (l := l) (i := x.Peer) (by omega) (by omega)
      have hes := hl.2 e (List.mem_iff_getElem?.2 ⟨_, he2⟩)
      have hsb : sideB l i x = (sideO e i).isSome := by
        rw [sideB, decide_eq_true (show 0 ≤ x.Peer by omega), decide_eq_true (show x.Peer < l.length by omega), decide_eq_false h3, he2]; simp
      rw [Bool.not_true]
      dsimp only [m_place_Graph_j3]
      rw [ifb_false, he1, Option.bind_some, s_Side e i (by omega), Option.bind_some]
      cases ho : sideO e i with
      | none =>
        right
        exact ⟨(.inr (graph0, false)), rfl, by rw [ho] at hsb; simp [okFrom, hsb]⟩
      | some y =>
        left
        rw [ho] at hsb
        refine ⟨?_, by simp [okFrom, hsb, h4, lastP_snoc]⟩
        simp only [sideP, Bool.not_true, ifb_false, m_place_Graph_j4]
        rw [edgesD_snoc, len_snoc, wr_succ (by omega)]
        have := edgesD_len i pre
        by_cases h5 : (i : Int) < x.Peer
        · rw [decide_eq_true h5, ifb_true, app_ok _ _ (by omega) (by simp; omega), Option.bind_some]
          simp
        · rw [decide_eq_false h5, ifb_false]; simp
  · dsimp only [m_place_Graph_l2]
    rw [nlt_len, ifb_false, m_place_Graph_j2, wr_succ (by omega)]
    simp [okFrom]
theorem s_Graph (l : List Diner) (hl : fewD l) : m_place_Graph l = some (graphP l) := by
  unfold m_place_Graph
  by_cases h64 : 64 < l.length
  · have : okG ⟨l.length, edgesL 0 l⟩ = false := by simp [okG]; omega
    rw [ln_eq, decide_eq_true (by omega), ifb_true]
    simp [graphP, this, graph0]
  rw [ln_eq, decide_eq_false (by omega), ifb_false]
  refine (loop_pp0 l (m_place_Graph_l1 l) (fun pre => ((pre.length : Int), edgesL 0 pre)) (fun pre post => some (if okAll l pre.length post && okG ⟨l.length, edgesL 0 (pre ++ post)⟩ then (⟨l.length, edgesL 0 (pre ++ post)⟩, true) else (graph0, false))) ?_ ?_).trans rfl
  · intro pre d post h
    have hx := mid_get h
    have hm := mid_len h
    have hd := mid_mem h
    dsimp only [m_place_Graph_l1]
    rw [lt_len hx, ifb_true, at_get hx, Option.bind_some, ifb_not]
    by_cases h1 : d.ID = pre.length
    · rw [decide_eq_true h1, ifb_true, s_Graph2 l hl pre.length d hd (by omega) _ (inner_len hl h)]
      cases h2 : okFrom l pre.length none d.Sides with
      | true => left; exact ⟨by rw [if_pos rfl, len_snoc, edgesL_append]; simp [edgesL], by simp [okAll, h1, h2]⟩
      | false => right; exact ⟨_, rfl, by simp [okAll, h2]⟩
    · right
      exact ⟨_, by rw [decide_eq_false h1, ifb_false]; rfl, by simp [okAll, h1, graph0]⟩
  · dsimp only [m_place_Graph_l1]
    rw [nlt_len, ifb_false, m_place_Graph_j1, ln_eq, s_Check, Option.bind_some]
    simp only [okAll, List.append_nil, Bool.true_and]
    cases okG ⟨l.length, edgesL 0 l⟩ <;> rfl
theorem s_r12Graph2 (l : List Diner) (hl : fewD l) (i : Nat) (d : Diner) (hd : l[i]? = some d) (hi : i ≤ 5000) (E : List Edge) (hE : E.length ≤ 25000000) :
    loop (m_narthexref12_Graph_l2 l i) (-1, 0, E) = some (if okFrom l i none d.Sides then .inl (((i + 1 : Nat) : Int), E ++ edgesD i d.Sides) else .inr (graph0, false)) := by
  have hdm := List.mem_iff_getElem?.2 ⟨_, hd⟩
  have hdl := hl.2 d hdm
  have key := (loop_ppI d.Sides (m_narthexref12_Graph_l2 l i) (fun pre => ((lastP pre).getD (-1), (pre.length : Int), E ++ edgesD i pre)) (fun pre post => some (if okFrom l i (lastP pre) post then .inl (((i + 1 : Nat) : Int), E ++ edgesD i (pre ++ post)) else .inr (graph0, false))) (fun pre => ∀ q, lastP pre = some q → 0 ≤ q) ?_ ?_ d.Sides [] rfl (by simp [lastP]))
  · rw [show edgesD i [] = [] from rfl, List.append_nil] at key; exact key
  · intro pre x post h hI
    have hx := mid_get h
    have hm := mid_len h
    dsimp only [m_narthexref12_Graph_l2]
    rw [at_get hd, Option.bind_some, lt_len hx, ifb_true, Option.bind_some, at_get hx, Option.bind_some]
    have bad : m_narthexref12_Graph_j3 l (i : Int) pre.length (E ++ edgesD i pre) x true = some (.inr (.inr (graph0, false))) := rfl
    by_cases h1 : x.Peer ≤ (lastP pre).getD (-1)
    · right
      refine ⟨_, by rw [decide_eq_true h1, ifb_true, bad], ?_⟩
      cases hp : lastP pre with
      | none =>
        rw [hp] at h1
        have : sideB l i x = false := by simp [sideB]; simp at h1; omega
        simp [okFrom, this]
      | some q =>
        rw [hp] at h1
        have : riseB (some q) x = false := by simp [riseB]; simpa using h1
        simp [okFrom, this]
    have hr : riseB (lastP pre) x = true := by
      cases hp : lastP pre with
      | none => rfl
      | some q => rw [hp] at h1; simp [riseB]; simpa using h1
    have h0 : 0 ≤ x.Peer := by
      cases hp : lastP pre with
      | none => rw [hp] at h1; simp at h1; omega
      | some q => have := hI q hp; rw [hp] at h1; simp at h1; omega
    by_cases h2 : (l.length : Int) ≤ x.Peer
    · right
      refine ⟨_, by rw [decide_eq_false h1, ifb_false, ln_eq, decide_eq_true h2, ifb_true, bad], ?_⟩
      have : sideB l i x = false := by simp [sideB]; omega
      simp [okFrom, this]
    rw [decide_eq_false h1, ifb_false, ln_eq, decide_eq_false h2, ifb_false]
    by_cases h3 : x.Peer = i
    · right
      refine ⟨_, by rw [decide_eq_true h3, bad], ?_⟩
      have : sideB l i x = false := by simp [sideB, h3]
      simp [okFrom, this]
    rw [decide_eq_false h3]
    obtain ⟨e, he1, he2⟩ := at_lt (l := l) (i := x.Peer) (by omega) (by omega)
    have hes := hl.2 e (List.mem_iff_getElem?.2 ⟨_, he2⟩)
    have hsb : sideB l i x = (sideO e i).isSome := by
      rw [sideB, decide_eq_true (show 0 ≤ x.Peer by omega), decide_eq_true (show x.Peer < l.length by omega), decide_eq_false h3, he2]; simp
    dsimp only [m_narthexref12_Graph_j3]
    rw [ifb_false, he1, Option.bind_some, s_r12Side e i (by omega), Option.bind_some]
    cases ho : sideO e i with
    | none =>
      right
      exact ⟨(.inr (graph0, false)), rfl, by rw [ho] at hsb; simp [okFrom, hsb]⟩
    | some y =>
      left
      rw [ho] at hsb
      refine ⟨?_, fun q hq => by rw [lastP_snoc] at hq; simp at hq; omega, by simp [okFrom, hsb, hr, lastP_snoc]⟩
      simp only [sideP, Bool.not_true, ifb_false, m_narthexref12_Graph_j4]
      rw [edgesD_snoc, len_snoc, wr_succ (by omega), lastP_snoc]
      have := edgesD_len i pre
      by_cases h5 : (i : Int) < x.Peer
      · rw [decide_eq_true h5, ifb_true, app_ok _ _ (by omega) (by simp; omega), Option.bind_some]
        simp
      · rw [decide_eq_false h5, ifb_false]; simp
  · intro _
    dsimp only [m_narthexref12_Graph_l2]
    rw [at_get hd, Option.bind_some, nlt_len, ifb_false, m_narthexref12_Graph_j2, wr_succ (by omega)]
    simp [okFrom]
theorem s_r12Graph (l : List Diner) (hl : fewD l) : m_narthexref12_Graph l = some (graphP l) := by
  unfold m_narthexref12_Graph
  have hll := hl.1
  refine (loop_pp0 l (m_narthexref12_Graph_l1 l) (fun pre => ((pre.length : Int), edgesL 0 pre)) (fun pre post => some (if okAll l pre.length post && okG ⟨l.length, edgesL 0 (pre ++ post)⟩ then (⟨l.length, edgesL 0 (pre ++ post)⟩, true) else (graph0, false))) ?_ ?_).trans rfl
  · intro pre d post h
    have hx := mid_get h
    have hm := mid_len h
    have hd := mid_mem h
    dsimp only [m_narthexref12_Graph_l1]
    rw [lt_len hx, ifb_true, at_get hx, Option.bind_some, ifb_not]
    by_cases h1 : d.ID = pre.length
    · rw [decide_eq_true h1, ifb_true, s_r12Graph2 l hl pre.length d hx (by omega) _ (inner_len hl h)]
      cases h2 : okFrom l pre.length none d.Sides with
      | true => left; exact ⟨by rw [if_pos rfl, len_snoc, edgesL_append]; simp [edgesL], by simp [okAll, h1, h2]⟩
      | false => right; exact ⟨_, rfl, by simp [okAll, h2]⟩
    · right
      exact ⟨_, by rw [decide_eq_false h1, ifb_false]; rfl, by simp [okAll, h1, graph0]⟩
  · dsimp only [m_narthexref12_Graph_l1]
    rw [nlt_len, ifb_false, m_narthexref12_Graph_j1, ln_eq, s_r03Check, Option.bind_some]
    simp only [okAll, List.append_nil, Bool.true_and]
    cases okG ⟨l.length, edgesL 0 l⟩ <;> rfl
end NX
end Go.Proofs.Ytadebhbiglmodaa
/-
  Plain laws: who goes ahead of whom. No statement of the seat is proved here.
-/
namespace Go.Proofs.Ytadebhbiglmodaa
namespace NX
open Go
/-- A loop with a counter, its state told by it. -/
theorem loop_nat {τ β : Type} (n : Nat) (body : τ → Option (τ ⊕ β)) (st : Nat → τ) (r : β) (hb : ∀ k, k < n → body (st k) = some (.inl (st (k + 1)))) (he : body (st n) = some (.inr r)) : loop body (st 0) = some r := by
  have key : ∀ m k, m + k = n → loop body (st k) = some r := by
    intro m
    induction m with
    | zero => intro k hk; have : k = n := by omega
              subst this; rw [loop_eq, he]
    | succ m ih => intro k hk; rw [loop_eq, hb k (by omega)]; exact ih (k + 1) (by omega)
  exact key n 0 rfl
theorem loop_natI {τ β : Type} (n : Nat) (body : τ → Option (τ ⊕ β)) (st : Nat → τ) (R : Nat → Option β) (hb : ∀ k, k < n → (body (st k) = some (.inl (st (k + 1))) ∧ R k = R (k + 1)) ∨ ∃ r, body (st k) = some (.inr r) ∧ R k = some r) (he : body (st n) = (R n).map .inr) : loop body (st 0) = R 0 := by
  have key : ∀ m k, m + k = n → loop body (st k) = R k := by
    intro m
    induction m with
    | zero =>
      intro k hk
      have : k = n := by omega
      subst this
      rw [loop_eq, he]
      cases R k <;> rfl
    | succ m ih =>
      intro k hk
      rw [loop_eq]
      rcases hb k (by omega) with ⟨h1, h2⟩ | ⟨r, h1, h2⟩
      · rw [h1, h2]; exact ih (k + 1) (by omega)
      · rw [h1, h2]
  exact key n 0 rfl
theorem s_ContainsMail (l : List Mail) (x : Mail) (hl : l.length ≤ 1000000) : m_slices_Contains_Mail l x = some (decide (x ∈ l)) := by
  have h1 : m_slices_Index_Mail l x = some (plc (l.findIdx? fun y => decide (x = y))) := by
    unfold m_slices_Index_Mail
    refine loop_place l _ (fun y => decide (x = y)) (by omega) (fun k y hy => ?_) ?_
    · simp only [m_slices_Index_Mail_l1, lt_len hy, ifb_true, at_get hy, Option.bind_some, Mail_eqB, wr_succ' hy (show l.length ≤ 4000000000000000000 by omega)]
      cases decide (x = y) <;> rfl
    · simp only [m_slices_Index_Mail_l1, nlt_len, ifb_false, m_slices_Index_Mail_j1, Option.map_some]
  simp only [m_slices_Contains_Mail, h1, Option.bind_some, plc_nonneg, findIdx_any]
  congr 1
  rw [Bool.eq_iff_iff, List.any_eq_true, decide_eq_true_iff]
  constructor
  · rintro ⟨y, hy, h⟩
    have : x = y := by simpa using h
    exact this ▸ hy
  · intro h; exact ⟨x, h, by simp⟩
theorem s_goes (l : List Mail) (a b e : Int) (hl : l.length ≤ 1000000) : m_narthexref12_goes l a b e = some (decide ((⟨a, b, ⟨1, e, 0⟩⟩ : Mail) ∈ l)) := by
  unfold m_narthexref12_goes
  rw [loop_any l (m_narthexref12_goes_l1 l a b e) (fun y => decide (y = ⟨a, b, ⟨1, e, 0⟩⟩)) true false (by omega) (fun k y hy => by
    obtain ⟨y1, y2, y3, y4, y5⟩ := y
    simp only [m_narthexref12_goes_l1, lt_len hy, ifb_true, at_get hy, Option.bind_some, wr_succ' hy (show l.length ≤ 4000000000000000000 by omega), m_narthexref12_goes_j2, Mail.mk.injEq, Msg.mk.injEq]
    by_cases h1 : y1 = a <;> by_cases h2 : y2 = b <;> by_cases h3 : y3 = 1 <;> by_cases h4 : y4 = e <;> by_cases h5 : y5 = 0 <;> simp [h1, h2, h3, h4, h5])
    (by simp only [m_narthexref12_goes_l1, nlt_len, ifb_false, m_narthexref12_goes_j1, Option.map_some])]
  by_cases h : (⟨a, b, ⟨1, e, 0⟩⟩ : Mail) ∈ l
  · have : l.any (fun y => decide (y = (⟨a, b, ⟨1, e, 0⟩⟩ : Mail))) = true := by rw [List.any_eq_true]; exact ⟨_, h, by simp⟩
    simp [this, h]
  · have : l.any (fun y => decide (y = (⟨a, b, ⟨1, e, 0⟩⟩ : Mail))) = false := by
      rw [List.any_eq_false]; intro y hy; simp; rintro rfl; exact h hy
    simp [this, h]
def aheadB (x y : Side) : Bool := (x.Fork && !x.Dirty) || (!x.Fork && (y.Fork && y.Dirty))
theorem s_placeahead (x y : Side) : m_place_ahead x y = some (aheadB x y) := by
  unfold m_place_ahead m_place_ahead_j1 aheadB
  cases x.Fork <;> cases x.Dirty <;> cases y.Fork <;> cases y.Dirty <;> rfl
def dirI (x y : Side) (p q : Bool) : Int := if aheadB x y || (!x.Fork && (!y.Fork && p)) then 1 else if aheadB y x || (!x.Fork && (!y.Fork && q)) then 2 else 0
theorem s_First (x y : Side) (p q : Bool) : m_narthexref12_First x y p q = some (dirI x y p q) := by
  unfold m_narthexref12_First m_narthexref12_First_j1 m_narthexref12_First_j2 m_narthexref12_First_j3 m_narthexref12_First_j4 dirI aheadB
  cases x.Fork <;> cases x.Dirty <;> cases y.Fork <;> cases y.Dirty <;> cases p <;> cases q <;> rfl
def forkMail (a b : Diner) (e : Int) : Mail := ⟨a.ID, b.ID, ⟨1, e, 0⟩⟩
/-- The arc of two nodes, if there is one. -/
def arcPair (mail : List Mail) (a b : Diner) : List Arc :=
  match sideO a b.ID, sideO b a.ID with
  | some x, some y => if decide (x.Epoch = y.Epoch) then
      (if aheadB x y || (!x.Fork && (!y.Fork && decide (forkMail b a x.Epoch ∈ mail))) then [⟨a.ID, b.ID⟩] else
       if aheadB y x || (!x.Fork && (!y.Fork && decide (forkMail a b x.Epoch ∈ mail))) then [⟨b.ID, a.ID⟩] else []) else []
  | _, _ => []
theorem arcPair_len (mail : List Mail) (a b : Diner) : (arcPair mail a b).length ≤ 1 := by
  unfold arcPair
  split
  · split
    · split
      · simp
      · split <;> simp
    · simp
  · simp
theorem flat_len (mail : List Mail) (a : Diner) (l : List Diner) : (l.flatMap (arcPair mail a)).length ≤ l.length := by
  induction l with
  | nil => simp
  | cons b l ih => have := arcPair_len mail a b; rw [List.flatMap_cons, List.length_append, List.length_cons]; omega
def arcsTo (mail : List Mail) (l : List Diner) : Nat → List Arc
  | 0 => []
  | k + 1 => arcsTo mail l k ++ (match l[k]? with | some a => (l.drop (k + 1)).flatMap (arcPair mail a) | none => [])
def arcsP (s : Scene) : List Arc := arcsTo s.Mail s.Diners s.Diners.length
theorem arcsTo_len (mail : List Mail) (l : List Diner) (k : Nat) : (arcsTo mail l k).length ≤ k * l.length := by
  induction k with
  | zero => simp [arcsTo]
  | succ k ih =>
    simp only [arcsTo, List.length_append, Nat.add_mul, Nat.one_mul]
    have : (match l[k]? with | some a => (l.drop (k + 1)).flatMap (arcPair mail a) | none => []).length ≤ l.length := by
      split
      · rename_i a _
        have := flat_len mail a (l.drop (k + 1))
        simp only [List.length_drop] at this
        omega
      · simp
    omega
theorem arcs_small {s : Scene} (hl : fewD s.Diners) {k : Nat} (hk : k ≤ s.Diners.length) : (arcsTo s.Mail s.Diners k).length ≤ 25000000 := by
  have h1 := arcsTo_len s.Mail s.Diners k
  have h2 : k * s.Diners.length ≤ 5000 * 5000 := Nat.mul_le_mul (by have := hl.1; omega) hl.1
  omega
theorem s_Arcs2 (s : Scene) (hl : fewD s.Diners) (hm : s.Mail.length ≤ 5000) (i : Nat) (a : Diner) (ha : a.Sides.length ≤ 5000) (r : List Diner) (hr : ∀ d ∈ r, d.Sides.length ≤ 5000) (hrl : r.length ≤ 5000) (hi : i ≤ 5000) (E : List Arc) (hE : E.length ≤ 25000000) :
    loop (m_place_Arcs_l2 s i a r) (0, E) = some (.inl (((i + 1 : Nat) : Int), E ++ r.flatMap (arcPair s.Mail a))) := by
  have key := loop_pre r (m_place_Arcs_l2 s i a r) (fun pre => ((pre.length : Int), E ++ pre.flatMap (arcPair s.Mail a))) (.inl (((i + 1 : Nat) : Int), E ++ r.flatMap (arcPair s.Mail a))) ?_ ?_
  · simpa using key
  · intro pre b post h
    have hx := mid_get h
    have hml := mid_len h
    have hb := hr b (mid_mem h)
    have hfl := flat_len s.Mail a pre
    dsimp only [m_place_Arcs_l2]
    rw [lt_len hx, ifb_true, at_get hx, Option.bind_some, s_Side a b.ID (by omega), Option.bind_some, s_Side b a.ID (by omega), Option.bind_some, len_snoc, List.flatMap_append, List.flatMap_singleton, ← List.append_assoc]
    have hacc : (E ++ pre.flatMap (arcPair s.Mail a)).length ≤ 25005000 := by rw [List.length_append]; omega
    generalize E ++ pre.flatMap (arcPair s.Mail a) = acc at hacc ⊢
    have next : ∀ (q : List Arc), m_place_Arcs_j3 (pre.length : Int) q = some (.inl (((pre.length + 1 : Nat) : Int), q)) := fun q => by
      dsimp only [m_place_Arcs_j3]; rw [wr_succ (by omega)]
    unfold arcPair
    cases h1 : sideO a b.ID with
    | none => simp only [sideP, Bool.not_false, ifb_true, m_place_Arcs_j4, next, List.append_nil]
    | some x =>
      cases h2 : sideO b a.ID with
      | none => simp only [sideP, Bool.not_false, Bool.not_true, ifb_false, ifb_true, m_place_Arcs_j4, next, List.append_nil]
      | some y =>
        have p1 := s_ContainsMail s.Mail (forkMail b a x.Epoch) (by omega)
        have p2 := s_ContainsMail s.Mail (forkMail a b x.Epoch) (by omega)
        unfold forkMail at p1 p2
        have ap : ∀ (z : Arc), app_ 16 acc [z] = some (acc ++ [z]) := fun z => app_ok _ _ (by omega) (by simp only [List.length_singleton]; omega)
        unfold forkMail
        by_cases h3 : x.Epoch = y.Epoch
        · simp only [sideP, Bool.not_true, ifb_false, m_place_Arcs_j4, h3, decide_true, s_placeahead, Option.bind_some]
          rw [h3] at p1 p2
          have e6 : ∀ z, m_place_Arcs_j6 a (pre.length : Int) acc b z = some (.inl (((pre.length + 1 : Nat) : Int), acc ++ (if z then [⟨b.ID, a.ID⟩] else []))) := by
            intro z
            cases z
            · simp only [m_place_Arcs_j6, ifb_false, next]; simp
            · simp only [m_place_Arcs_j6, ifb_true, ap, Option.bind_some, next]; simp
          have e5 : ∀ z, m_place_Arcs_j5 s a (pre.length : Int) acc b (x, true) (y, true) z = some (.inl (((pre.length + 1 : Nat) : Int), acc ++ (if z then [⟨a.ID, b.ID⟩] else if aheadB y x || (!x.Fork && (!y.Fork && decide ((⟨a.ID, b.ID, ⟨1, y.Epoch, 0⟩⟩ : Mail) ∈ s.Mail))) then [⟨b.ID, a.ID⟩] else []))) := by
            intro z
            cases z
            · simp only [m_place_Arcs_j5, ifb_false, s_placeahead, Option.bind_some, h3, p2, e6]
              cases aheadB y x <;> cases x.Fork <;> cases y.Fork <;> rfl
            · simp only [m_place_Arcs_j5, ifb_true, ap, Option.bind_some, next]; simp
          simp only [p1, Option.bind_some, e5, if_true]
          cases aheadB x y <;> cases x.Fork <;> cases y.Fork <;> rfl
        · simp only [sideP, Bool.not_true, ifb_false, m_place_Arcs_j4, h3, decide_false, Bool.not_false, ifb_true, next]
          simp
  · dsimp only [m_place_Arcs_l2]
    rw [nlt_len, ifb_false, m_place_Arcs_j2, wr_succ (by omega)]; rfl
theorem sub_rest {α : Type} {f : α → List AV} {l : List α} {i : Nat} (h : i < l.length) (hl : l.length ≤ 5000) : sub_ l (wr ((i : Int) + 1)) (ln f l) = some (l.drop (i + 1)) := by
  rw [wr_succ (by omega), ln_eq]
  unfold sub_
  rw [if_pos ⟨by omega, by omega, by omega⟩]
  simp
theorem s_Arcs (s : Scene) (hl : fewD s.Diners) (hm : s.Mail.length ≤ 5000) : m_place_Arcs s = some (arcsP s) := by
  unfold m_place_Arcs
  have hll := hl.1
  refine loop_nat s.Diners.length (m_place_Arcs_l1 s) (fun k => ((k : Int), arcsTo s.Mail s.Diners k)) (arcsP s) (fun k hk => ?_) ?_
  · have hx : s.Diners[k]? = some s.Diners[k] := List.getElem?_eq_getElem hk
    dsimp only [m_place_Arcs_l1]
    rw [lt_len hx, ifb_true, at_get hx, Option.bind_some, sub_rest hk hll, Option.bind_some,
      s_Arcs2 s hl hm k _ (hl.2 _ (List.getElem_mem hk)) _ (fun d hd => hl.2 d (List.mem_of_mem_drop hd)) (by simp; omega) (by omega) _ (arcs_small hl (by omega))]
    simp only [arcsTo, hx]
  · dsimp only [m_place_Arcs_l1]
    rw [nlt_len, ifb_false]; rfl
theorem s_r12Arcs2 (s : Scene) (hl : fewD s.Diners) (hm : s.Mail.length ≤ 5000) (i : Nat) (a : Diner) (hai : s.Diners[i]? = some a) (E : List Arc) (hE : E.length ≤ 25000000) :
    loop (m_narthexref12_Arcs_l2 s i) (((i + 1 : Nat) : Int), E) = some (.inl (((i + 1 : Nat) : Int), E ++ (s.Diners.drop (i + 1)).flatMap (arcPair s.Mail a))) := by
  have hil := (List.getElem?_eq_some_iff.1 hai).1
  have hll := hl.1
  have ha := hl.2 a (List.mem_iff_getElem?.2 ⟨_, hai⟩)
  generalize hrr : s.Diners.drop (i + 1) = r
  have key := loop_pre r (m_narthexref12_Arcs_l2 s i) (fun pre => (((i + 1 + pre.length : Nat) : Int), E ++ pre.flatMap (arcPair s.Mail a))) (.inl (((i + 1 : Nat) : Int), E ++ r.flatMap (arcPair s.Mail a))) ?_ ?_
  · simpa using key
  · intro pre b post h
    have hx : s.Diners[i + 1 + pre.length]? = some b := by
      have := mid_get h
      rw [← hrr, List.getElem?_drop] at this
      exact this
    have hml := (List.getElem?_eq_some_iff.1 hx).1
    have hb := hl.2 b (List.mem_iff_getElem?.2 ⟨_, hx⟩)
    have hfl := flat_len s.Mail a pre
    dsimp only [m_narthexref12_Arcs_l2]
    rw [lt_len hx, ifb_true, at_get hai, Option.bind_some, at_get hx, Option.bind_some]
    dsimp only [m_narthexref12_Arcs_j4]
    rw [s_r12Side a b.ID (by omega), Option.bind_some, s_r12Side b a.ID (by omega), Option.bind_some, len_snoc, List.flatMap_append, List.flatMap_singleton, ← List.append_assoc]
    have hacc : (E ++ pre.flatMap (arcPair s.Mail a)).length ≤ 25005000 := by rw [List.length_append]; omega
    generalize E ++ pre.flatMap (arcPair s.Mail a) = acc at hacc ⊢
    have next : ∀ (q : List Arc), m_narthexref12_Arcs_j3 ((i + 1 + pre.length : Nat) : Int) q = some (.inl (((i + 1 + (pre.length + 1) : Nat) : Int), q)) := fun q => by
      dsimp only [m_narthexref12_Arcs_j3]; rw [wr_succ (by omega)]; rfl
    unfold arcPair
    cases h1 : sideO a b.ID with
    | none => simp only [sideP, Bool.not_false, ifb_true, m_narthexref12_Arcs_j5, next, List.append_nil]
    | some x =>
      cases h2 : sideO b a.ID with
      | none => simp only [sideP, Bool.not_false, Bool.not_true, ifb_false, ifb_true, m_narthexref12_Arcs_j5, next, List.append_nil]
      | some y =>
        have p1 := s_goes s.Mail b.ID a.ID x.Epoch (by omega)
        have p2 := s_goes s.Mail a.ID b.ID x.Epoch (by omega)
        have ap : ∀ (z : Arc), app_ 16 acc [z] = some (acc ++ [z]) := fun z => app_ok _ _ (by omega) (by simp only [List.length_singleton]; omega)
        unfold forkMail
        by_cases h3 : x.Epoch = y.Epoch
        · simp only [sideP, Bool.not_true, ifb_false, m_narthexref12_Arcs_j5, h3, decide_true]
          rw [h3] at p1 p2
          simp only [p1, p2, Option.bind_some, s_First, dirI]
          by_cases c1 : (aheadB x y || (!x.Fork && (!y.Fork && decide ((⟨b.ID, a.ID, ⟨1, y.Epoch, 0⟩⟩ : Mail) ∈ s.Mail)))) = true
          · simp only [c1, if_true, decide_true, ifb_true, ap, Option.bind_some, m_narthexref12_Arcs_j6]
            rw [show decide ((1 : Int) = 2) = false from rfl, ifb_false, next]
          · by_cases c2 : (aheadB y x || (!x.Fork && (!y.Fork && decide ((⟨a.ID, b.ID, ⟨1, y.Epoch, 0⟩⟩ : Mail) ∈ s.Mail)))) = true
            · simp only [c1, c2, if_true, if_false, Bool.false_eq_true, show decide ((2 : Int) = 1) = false from rfl, decide_true, ifb_false, ifb_true, m_narthexref12_Arcs_j6, ap, Option.bind_some, next]
            · simp only [c1, c2, if_false, Bool.false_eq_true, show decide ((0 : Int) = 1) = false from rfl, show decide ((0 : Int) = 2) = false from rfl, ifb_false, m_narthexref12_Arcs_j6, next]
              simp
        · simp only [sideP, Bool.not_true, ifb_false, m_narthexref12_Arcs_j5, h3, decide_false, Bool.not_false, ifb_true, next]
          simp
  · dsimp only [m_narthexref12_Arcs_l2]
    have : i + 1 + r.length = s.Diners.length := by rw [← hrr]; simp; omega
    rw [this, nlt_len, ifb_false, m_narthexref12_Arcs_j2, wr_succ (by omega)]; rfl
theorem s_r12Arcs (s : Scene) (hl : fewD s.Diners) (hm : s.Mail.length ≤ 5000) : m_narthexref12_Arcs s = some (arcsP s) := by
  unfold m_narthexref12_Arcs
  have hll := hl.1
  refine loop_nat s.Diners.length (m_narthexref12_Arcs_l1 s) (fun k => ((k : Int), arcsTo s.Mail s.Diners k)) (arcsP s) (fun k hk => ?_) ?_
  · have hx : s.Diners[k]? = some s.Diners[k] := List.getElem?_eq_getElem hk
    dsimp only [m_narthexref12_Arcs_l1]
    rw [lt_len hx, ifb_true, wr_succ (by omega), s_r12Arcs2 s hl hm k _ hx _ (arcs_small hl (by omega))]
    simp only [arcsTo, hx]
  · dsimp only [m_narthexref12_Arcs_l1]
    rw [nlt_len, ifb_false]; rfl
/-! Two laws -/
theorem p_narthexlaw12_PlaceArcs (x1 : Scene) : m_narthexlaw12_PlaceArcs x1 = some true := by
  simp only [m_narthexlaw12_PlaceArcs, s_awake12, Option.bind_some, Bool.not_true, ifb_false, s_Few]
  cases h : fewB x1 with
  | false => simp only [Bool.not_false, m_narthexlaw12_PlaceArcs_j1, ifb_true, s_awake12, Option.bind_some]
  | true =>
    have hD := fewB_D h
    obtain ⟨h1, h2, _⟩ := fewB_iff h
    simp only [Bool.not_true, m_narthexlaw12_PlaceArcs_j1, ifb_false, s_Own _ hD, Option.bind_some]
    rw [app_ok _ _ (by omega) (by simp; omega), Option.bind_some]
    simp only [List.nil_append]
    rw [s_Arcs _ hD (by show x1.Mail.length ≤ 5000; omega), Option.bind_some, s_r12Arcs x1 hD (by omega), Option.bind_some, s_r04Same _ _ (by
      have e : (arcsP x1).length ≤ x1.Diners.length * x1.Diners.length := arcsTo_len _ _ _
      have : x1.Diners.length * x1.Diners.length ≤ 24 * 24 := Nat.mul_le_mul h1 h1
      show (arcsP x1).length ≤ 1000000
      omega), Option.bind_some, m_narthexlaw12_PlaceArcs_j2]
    simp
theorem edges_small {l : List Diner} (h : ∀ d ∈ l, d.Sides.length ≤ 24) (hl : l.length ≤ 24) : (edgesL 0 l).length ≤ 120000 := by
  have := edgesL_len l 0 fun d hd => by have := h d hd; omega
  omega
theorem graphP_small {l : List Diner} (h : ∀ d ∈ l, d.Sides.length ≤ 24) (hl : l.length ≤ 24) : (graphP l).1.Edges.length ≤ 1000000 := by
  have := edges_small h hl
  unfold graphP
  split
  · dsimp only; omega
  · simp [graph0]
theorem p_narthexlaw12_PlaceTells (x1 x2 : List Diner) (x3 : Diner) (x4 : Int) : m_narthexlaw12_PlaceTells x1 x2 x3 x4 = some true := by
  have yes : m_narthexlaw12_PlaceTells_j1 x1 x2 x3 x4 true = some true := by
    simp only [m_narthexlaw12_PlaceTells_j1, ifb_true, s_awake12, Option.bind_some]
  simp only [m_narthexlaw12_PlaceTells, s_awake12, Option.bind_some, Bool.not_true, ifb_false, s_Few, yes]
  cases h : fewB ⟨x1, []⟩ with
  | false => simp only [Bool.not_false, ifb_true]
  | true =>
    cases h' : fewB ⟨x2, []⟩ with
    | false => simp only [Bool.not_false, Bool.not_true, ifb_false, ifb_true]
    | true =>
      simp only [Bool.not_true, ifb_false, ln_eq]
      by_cases h24 : (24 : Int) < x3.Sides.length
      · rw [decide_eq_true h24, yes]
      · have hD := fewB_D h
        have hD' := fewB_D h'
        dsimp only at hD hD'
        obtain ⟨g1, _, g3⟩ := fewB_iff h
        rw [decide_eq_false h24]
        simp only [m_narthexlaw12_PlaceTells_j1, ifb_false, s_Own _ hD, s_Own _ hD', Option.bind_some, s_Graph _ hD, s_r12Graph _ hD, s_Side x3 x4 (by omega), s_r12Side x3 x4 (by omega), s_r03Same _ _ (graphP_small g3 g1), decide_true, ifb_true, beq_self_eq_true, Bool.and_self,
          s_placeSame x1 x2 hD, s_r12Same x1 x2 hD, m_narthexlaw12_PlaceTells_j2]
end NX
end Go.Proofs.Ytadebhbiglmodaa
