/-
  The law TableOthers: its row holds, for its model answers true at every input. Written by a program of ours (frame.py).
-/
import Derived.Test.YtadebhbiglmodaaRows
import Derived.WalkKit
import Derived.ProofKit
import Derived.OpenShut
import Derived.Test.YtadebhbiglmodaaQ2
import Derived.Test.YtadebhbiglmodaaQ5
namespace Go.Proofs.Ytadebhbiglmodaa
namespace NX
open Go Go.ChangeShapes Go.WideShapes Go.ChangeAt Go.RowKit
set_option maxRecDepth 100000
set_option maxHeartbeats 4000000
theorem opn_tableOthers_t49 : Opn Try.prog 49 Side.row := by
  intro H enc w base sp held fuel cs x h
  obtain ⟨xs, n, _, _, hl, hxl, hf⟩ := DataW.trod_struct Try.underlying49 h
  rw [show Try.prog.cellsOf 49 = 8 from by kernel_rfl] at hl
  have c0 : DataW.trod enc Try.prog w base sp held n 3 ((cs.drop 0).take (Try.prog.cellsOf 3)) = xs[0]? := hf 0 _ rfl
  rw [show Try.prog.cellsOf 3 = 1 from by kernel_rfl] at c0
  have hlt0 : 0 < xs.length := by rw [hxl]; decide
  obtain ⟨y0, hy0⟩ : ∃ y, xs[0]? = some y := ⟨_, List.getElem?_eq_getElem hlt0⟩
  obtain ⟨v0, k0⟩ := (opn_int Try.underlying3) enc w _ _ _ _ _ _ (c0.trans hy0)
  have c1 : DataW.trod enc Try.prog w base sp held n 3 ((cs.drop 1).take (Try.prog.cellsOf 3)) = xs[1]? := hf 1 _ rfl
  rw [show Try.prog.cellsOf 3 = 1 from by kernel_rfl] at c1
  have hlt1 : 1 < xs.length := by rw [hxl]; decide
  obtain ⟨y1, hy1⟩ : ∃ y, xs[1]? = some y := ⟨_, List.getElem?_eq_getElem hlt1⟩
  obtain ⟨v1, k1⟩ := (opn_int Try.underlying3) enc w _ _ _ _ _ _ (c1.trans hy1)
  have c2 : DataW.trod enc Try.prog w base sp held n 47 ((cs.drop 2).take (Try.prog.cellsOf 47)) = xs[2]? := hf 2 _ rfl
  rw [show Try.prog.cellsOf 47 = 1 from by kernel_rfl] at c2
  have hlt2 : 2 < xs.length := by rw [hxl]; decide
  obtain ⟨y2, hy2⟩ : ∃ y, xs[2]? = some y := ⟨_, List.getElem?_eq_getElem hlt2⟩
  obtain ⟨v2, k2⟩ := (opn_int Try.underlying47) enc w _ _ _ _ _ _ (c2.trans hy2)
  have c3 : DataW.trod enc Try.prog w base sp held n 4 ((cs.drop 3).take (Try.prog.cellsOf 4)) = xs[3]? := hf 3 _ rfl
  rw [show Try.prog.cellsOf 4 = 1 from by kernel_rfl] at c3
  have hlt3 : 3 < xs.length := by rw [hxl]; decide
  obtain ⟨y3, hy3⟩ : ∃ y, xs[3]? = some y := ⟨_, List.getElem?_eq_getElem hlt3⟩
  obtain ⟨v3, k3⟩ := (opn_bool Try.underlying4) enc w _ _ _ _ _ _ (c3.trans hy3)
  have c4 : DataW.trod enc Try.prog w base sp held n 4 ((cs.drop 4).take (Try.prog.cellsOf 4)) = xs[4]? := hf 4 _ rfl
  rw [show Try.prog.cellsOf 4 = 1 from by kernel_rfl] at c4
  have hlt4 : 4 < xs.length := by rw [hxl]; decide
  obtain ⟨y4, hy4⟩ : ∃ y, xs[4]? = some y := ⟨_, List.getElem?_eq_getElem hlt4⟩
  obtain ⟨v4, k4⟩ := (opn_bool Try.underlying4) enc w _ _ _ _ _ _ (c4.trans hy4)
  have c5 : DataW.trod enc Try.prog w base sp held n 4 ((cs.drop 5).take (Try.prog.cellsOf 4)) = xs[5]? := hf 5 _ rfl
  rw [show Try.prog.cellsOf 4 = 1 from by kernel_rfl] at c5
  have hlt5 : 5 < xs.length := by rw [hxl]; decide
  obtain ⟨y5, hy5⟩ : ∃ y, xs[5]? = some y := ⟨_, List.getElem?_eq_getElem hlt5⟩
  obtain ⟨v5, k5⟩ := (opn_bool Try.underlying4) enc w _ _ _ _ _ _ (c5.trans hy5)
  have c6 : DataW.trod enc Try.prog w base sp held n 4 ((cs.drop 6).take (Try.prog.cellsOf 4)) = xs[6]? := hf 6 _ rfl
  rw [show Try.prog.cellsOf 4 = 1 from by kernel_rfl] at c6
  have hlt6 : 6 < xs.length := by rw [hxl]; decide
  obtain ⟨y6, hy6⟩ : ∃ y, xs[6]? = some y := ⟨_, List.getElem?_eq_getElem hlt6⟩
  obtain ⟨v6, k6⟩ := (opn_bool Try.underlying4) enc w _ _ _ _ _ _ (c6.trans hy6)
  have c7 : DataW.trod enc Try.prog w base sp held n 4 ((cs.drop 7).take (Try.prog.cellsOf 4)) = xs[7]? := hf 7 _ rfl
  rw [show Try.prog.cellsOf 4 = 1 from by kernel_rfl] at c7
  have hlt7 : 7 < xs.length := by rw [hxl]; decide
  obtain ⟨y7, hy7⟩ : ∃ y, xs[7]? = some y := ⟨_, List.getElem?_eq_getElem hlt7⟩
  obtain ⟨v7, k7⟩ := (opn_bool Try.underlying4) enc w _ _ _ _ _ _ (c7.trans hy7)
  have e : cs = (cs.drop 0).take 1 ++ (cs.drop 1).take 1 ++ (cs.drop 2).take 1 ++ (cs.drop 3).take 1 ++ (cs.drop 4).take 1 ++ (cs.drop 5).take 1 ++ (cs.drop 6).take 1 ++ (cs.drop 7).take 1 := by
    match cs, hl with
    | [a0, a1, a2, a3, a4, a5, a6, a7], _ => rfl
  rw [e]
  exact ⟨⟨v0, v1, v2, v3, v4, v5, v6, v7⟩, (isL_append (isL_append (isL_append (isL_append (isL_append (isL_append (isL_append k0 k1) k2) k3) k4) k5) k6) k7)⟩
theorem opn_tableOthers_s37 : Opn Try.prog 37 (slRow 8 Side.row) := opn_slice (n := 8) (row := Side.row) Try.underlying37 (by kernel_rfl) (by decide) (fun _ => ⟨rfl, rfl, rfl⟩) opn_tableOthers_t49
theorem opn_tableOthers_t39 : Opn Try.prog 39 Diner.row := by
  intro H enc w base sp held fuel cs x h
  obtain ⟨xs, n, _, _, hl, hxl, hf⟩ := DataW.trod_struct Try.underlying39 h
  rw [show Try.prog.cellsOf 39 = 3 from by kernel_rfl] at hl
  have c0 : DataW.trod enc Try.prog w base sp held n 3 ((cs.drop 0).take (Try.prog.cellsOf 3)) = xs[0]? := hf 0 _ rfl
  rw [show Try.prog.cellsOf 3 = 1 from by kernel_rfl] at c0
  have hlt0 : 0 < xs.length := by rw [hxl]; decide
  obtain ⟨y0, hy0⟩ : ∃ y, xs[0]? = some y := ⟨_, List.getElem?_eq_getElem hlt0⟩
  obtain ⟨v0, k0⟩ := (opn_int Try.underlying3) enc w _ _ _ _ _ _ (c0.trans hy0)
  have c1 : DataW.trod enc Try.prog w base sp held n 36 ((cs.drop 1).take (Try.prog.cellsOf 36)) = xs[1]? := hf 1 _ rfl
  rw [show Try.prog.cellsOf 36 = 1 from by kernel_rfl] at c1
  have hlt1 : 1 < xs.length := by rw [hxl]; decide
  obtain ⟨y1, hy1⟩ : ∃ y, xs[1]? = some y := ⟨_, List.getElem?_eq_getElem hlt1⟩
  obtain ⟨v1, k1⟩ := (opn_int Try.underlying36) enc w _ _ _ _ _ _ (c1.trans hy1)
  have c2 : DataW.trod enc Try.prog w base sp held n 37 ((cs.drop 2).take (Try.prog.cellsOf 37)) = xs[2]? := hf 2 _ rfl
  rw [show Try.prog.cellsOf 37 = 1 from by kernel_rfl] at c2
  have hlt2 : 2 < xs.length := by rw [hxl]; decide
  obtain ⟨y2, hy2⟩ : ∃ y, xs[2]? = some y := ⟨_, List.getElem?_eq_getElem hlt2⟩
  obtain ⟨v2, k2⟩ := opn_tableOthers_s37 enc w _ _ _ _ _ _ (c2.trans hy2)
  have e : cs = (cs.drop 0).take 1 ++ (cs.drop 1).take 1 ++ (cs.drop 2).take 1 := by
    match cs, hl with
    | [a0, a1, a2], _ => rfl
  rw [e]
  exact ⟨⟨v0, v1, v2⟩, (isL_append (isL_append k0 k1) k2)⟩
theorem opn_tableOthers_s27 : Opn Try.prog 27 (slRow 3 Diner.row) := opn_slice (n := 3) (row := Diner.row) Try.underlying27 (by kernel_rfl) (by decide) (fun _ => ⟨rfl, rfl, rfl⟩) opn_tableOthers_t39
theorem opn_tableOthers_t93 : Opn Try.prog 93 Msg.row := by
  intro H enc w base sp held fuel cs x h
  obtain ⟨xs, n, _, _, hl, hxl, hf⟩ := DataW.trod_struct Try.underlying93 h
  rw [show Try.prog.cellsOf 93 = 3 from by kernel_rfl] at hl
  have c0 : DataW.trod enc Try.prog w base sp held n 71 ((cs.drop 0).take (Try.prog.cellsOf 71)) = xs[0]? := hf 0 _ rfl
  rw [show Try.prog.cellsOf 71 = 1 from by kernel_rfl] at c0
  have hlt0 : 0 < xs.length := by rw [hxl]; decide
  obtain ⟨y0, hy0⟩ : ∃ y, xs[0]? = some y := ⟨_, List.getElem?_eq_getElem hlt0⟩
  obtain ⟨v0, k0⟩ := (opn_int Try.underlying71) enc w _ _ _ _ _ _ (c0.trans hy0)
  have c1 : DataW.trod enc Try.prog w base sp held n 3 ((cs.drop 1).take (Try.prog.cellsOf 3)) = xs[1]? := hf 1 _ rfl
  rw [show Try.prog.cellsOf 3 = 1 from by kernel_rfl] at c1
  have hlt1 : 1 < xs.length := by rw [hxl]; decide
  obtain ⟨y1, hy1⟩ : ∃ y, xs[1]? = some y := ⟨_, List.getElem?_eq_getElem hlt1⟩
  obtain ⟨v1, k1⟩ := (opn_int Try.underlying3) enc w _ _ _ _ _ _ (c1.trans hy1)
  have c2 : DataW.trod enc Try.prog w base sp held n 3 ((cs.drop 2).take (Try.prog.cellsOf 3)) = xs[2]? := hf 2 _ rfl
  rw [show Try.prog.cellsOf 3 = 1 from by kernel_rfl] at c2
  have hlt2 : 2 < xs.length := by rw [hxl]; decide
  obtain ⟨y2, hy2⟩ : ∃ y, xs[2]? = some y := ⟨_, List.getElem?_eq_getElem hlt2⟩
  obtain ⟨v2, k2⟩ := (opn_int Try.underlying3) enc w _ _ _ _ _ _ (c2.trans hy2)
  have e : cs = (cs.drop 0).take 1 ++ (cs.drop 1).take 1 ++ (cs.drop 2).take 1 := by
    match cs, hl with
    | [a0, a1, a2], _ => rfl
  rw [e]
  exact ⟨⟨v0, v1, v2⟩, (isL_append (isL_append k0 k1) k2)⟩
theorem opn_tableOthers_t97 : Opn Try.prog 97 Mail.row := by
  intro H enc w base sp held fuel cs x h
  obtain ⟨xs, n, _, _, hl, hxl, hf⟩ := DataW.trod_struct Try.underlying97 h
  rw [show Try.prog.cellsOf 97 = 5 from by kernel_rfl] at hl
  have c0 : DataW.trod enc Try.prog w base sp held n 3 ((cs.drop 0).take (Try.prog.cellsOf 3)) = xs[0]? := hf 0 _ rfl
  rw [show Try.prog.cellsOf 3 = 1 from by kernel_rfl] at c0
  have hlt0 : 0 < xs.length := by rw [hxl]; decide
  obtain ⟨y0, hy0⟩ : ∃ y, xs[0]? = some y := ⟨_, List.getElem?_eq_getElem hlt0⟩
  obtain ⟨v0, k0⟩ := (opn_int Try.underlying3) enc w _ _ _ _ _ _ (c0.trans hy0)
  have c1 : DataW.trod enc Try.prog w base sp held n 3 ((cs.drop 1).take (Try.prog.cellsOf 3)) = xs[1]? := hf 1 _ rfl
  rw [show Try.prog.cellsOf 3 = 1 from by kernel_rfl] at c1
  have hlt1 : 1 < xs.length := by rw [hxl]; decide
  obtain ⟨y1, hy1⟩ : ∃ y, xs[1]? = some y := ⟨_, List.getElem?_eq_getElem hlt1⟩
  obtain ⟨v1, k1⟩ := (opn_int Try.underlying3) enc w _ _ _ _ _ _ (c1.trans hy1)
  have c2 : DataW.trod enc Try.prog w base sp held n 93 ((cs.drop 2).take (Try.prog.cellsOf 93)) = xs[2]? := hf 2 _ rfl
  rw [show Try.prog.cellsOf 93 = 3 from by kernel_rfl] at c2
  have hlt2 : 2 < xs.length := by rw [hxl]; decide
  obtain ⟨y2, hy2⟩ : ∃ y, xs[2]? = some y := ⟨_, List.getElem?_eq_getElem hlt2⟩
  obtain ⟨v2, k2⟩ := opn_tableOthers_t93 enc w _ _ _ _ _ _ (c2.trans hy2)
  have e : cs = (cs.drop 0).take 1 ++ (cs.drop 1).take 1 ++ (cs.drop 2).take 3 := by
    match cs, hl with
    | [a0, a1, a2, a3, a4], _ => rfl
  rw [e]
  exact ⟨⟨v0, v1, v2⟩, (isL_append (isL_append k0 k1) k2)⟩
theorem opn_tableOthers_s41 : Opn Try.prog 41 (slRow 5 Mail.row) := opn_slice (n := 5) (row := Mail.row) Try.underlying41 (by kernel_rfl) (by decide) (fun _ => ⟨rfl, rfl, rfl⟩) opn_tableOthers_t97
theorem opn_tableOthers_t43 : Opn Try.prog 43 Scene.row := by
  intro H enc w base sp held fuel cs x h
  obtain ⟨xs, n, _, _, hl, hxl, hf⟩ := DataW.trod_struct Try.underlying43 h
  rw [show Try.prog.cellsOf 43 = 2 from by kernel_rfl] at hl
  have c0 : DataW.trod enc Try.prog w base sp held n 27 ((cs.drop 0).take (Try.prog.cellsOf 27)) = xs[0]? := hf 0 _ rfl
  rw [show Try.prog.cellsOf 27 = 1 from by kernel_rfl] at c0
  have hlt0 : 0 < xs.length := by rw [hxl]; decide
  obtain ⟨y0, hy0⟩ : ∃ y, xs[0]? = some y := ⟨_, List.getElem?_eq_getElem hlt0⟩
  obtain ⟨v0, k0⟩ := opn_tableOthers_s27 enc w _ _ _ _ _ _ (c0.trans hy0)
  have c1 : DataW.trod enc Try.prog w base sp held n 41 ((cs.drop 1).take (Try.prog.cellsOf 41)) = xs[1]? := hf 1 _ rfl
  rw [show Try.prog.cellsOf 41 = 1 from by kernel_rfl] at c1
  have hlt1 : 1 < xs.length := by rw [hxl]; decide
  obtain ⟨y1, hy1⟩ : ∃ y, xs[1]? = some y := ⟨_, List.getElem?_eq_getElem hlt1⟩
  obtain ⟨v1, k1⟩ := opn_tableOthers_s41 enc w _ _ _ _ _ _ (c1.trans hy1)
  have e : cs = (cs.drop 0).take 1 ++ (cs.drop 1).take 1 := by
    match cs, hl with
    | [a0, a1], _ => rfl
  rw [e]
  exact ⟨⟨v0, v1⟩, (isL_append k0 k1)⟩
theorem opn_tableOthers_t79 : Opn Try.prog 79 narthexlaw14_Act.row := by
  intro H enc w base sp held fuel cs x h
  obtain ⟨xs, n, _, _, hl, hxl, hf⟩ := DataW.trod_struct Try.underlying79 h
  rw [show Try.prog.cellsOf 79 = 3 from by kernel_rfl] at hl
  have c0 : DataW.trod enc Try.prog w base sp held n 3 ((cs.drop 0).take (Try.prog.cellsOf 3)) = xs[0]? := hf 0 _ rfl
  rw [show Try.prog.cellsOf 3 = 1 from by kernel_rfl] at c0
  have hlt0 : 0 < xs.length := by rw [hxl]; decide
  obtain ⟨y0, hy0⟩ : ∃ y, xs[0]? = some y := ⟨_, List.getElem?_eq_getElem hlt0⟩
  obtain ⟨v0, k0⟩ := (opn_int Try.underlying3) enc w _ _ _ _ _ _ (c0.trans hy0)
  have c1 : DataW.trod enc Try.prog w base sp held n 3 ((cs.drop 1).take (Try.prog.cellsOf 3)) = xs[1]? := hf 1 _ rfl
  rw [show Try.prog.cellsOf 3 = 1 from by kernel_rfl] at c1
  have hlt1 : 1 < xs.length := by rw [hxl]; decide
  obtain ⟨y1, hy1⟩ : ∃ y, xs[1]? = some y := ⟨_, List.getElem?_eq_getElem hlt1⟩
  obtain ⟨v1, k1⟩ := (opn_int Try.underlying3) enc w _ _ _ _ _ _ (c1.trans hy1)
  have c2 : DataW.trod enc Try.prog w base sp held n 3 ((cs.drop 2).take (Try.prog.cellsOf 3)) = xs[2]? := hf 2 _ rfl
  rw [show Try.prog.cellsOf 3 = 1 from by kernel_rfl] at c2
  have hlt2 : 2 < xs.length := by rw [hxl]; decide
  obtain ⟨y2, hy2⟩ : ∃ y, xs[2]? = some y := ⟨_, List.getElem?_eq_getElem hlt2⟩
  obtain ⟨v2, k2⟩ := (opn_int Try.underlying3) enc w _ _ _ _ _ _ (c2.trans hy2)
  have e : cs = (cs.drop 0).take 1 ++ (cs.drop 1).take 1 ++ (cs.drop 2).take 1 := by
    match cs, hl with
    | [a0, a1, a2], _ => rfl
  rw [e]
  exact ⟨⟨v0, v1, v2⟩, (isL_append (isL_append k0 k1) k2)⟩
theorem laidOut_tableOthers : laidOutB Try.prog = true := by kernel_rfl
theorem own_tableOthers : ownKnob Try.prog.godebug = none := by kernel_rfl
theorem contract_tableOthers (H : Type) (enc : TypeId × Value → H) (W : World) (base : Nat) (args : Array Value) (ds gs : List (DataW H)) (before : List MemPlace)
    (hval : ∀ (j : Nat) t v, Try.f12.params[j]? = some t → args[j]? = some v → Value.okWide Try.prog W .any base t v)
    (hW : DataW.Whole enc Try.prog Try.f12.params.toList Rows.tableOthersSpec.vars false W args.toList ds gs before) :
    Calls Try.prog 12 args W fun e W' => ∃ v, e = .returned v ∧ Rows.tableOthersSpec.post enc Try.prog Try.f12 false true false false W args v W' := by
  have hW2 := hW
  obtain ⟨p, q, hA0, hV, rfl, hfz, hnd⟩ := hW
  have hA : DataW.TrodAll enc Try.prog W 0 (fun _ => true) true Try.f12.params.toList args.toList ds p := hA0
  rw [Try.params12] at hA hval
  obtain ⟨v0, vs0, d0, ds0, p0, q0, hargs0, rfl, rfl, h0, r0⟩ := trodAll_cons hA
  obtain ⟨v1, vs1, d1, ds1, p1, q1, hargs1, rfl, rfl, h1, r1⟩ := trodAll_cons r0
  obtain ⟨hz, rfl, rfl⟩ := trodAll_nil r1
  obtain rfl : args = #[v0, v1] := by cases args; simp_all
  obtain ⟨x1, k0⟩ := arg_agg opn_tableOthers_t43 Try.underlying43 (hval 0 43 v0 rfl rfl) h0
  obtain ⟨x2, k1⟩ := arg_agg opn_tableOthers_t79 Try.underlying79 (hval 1 79 v1 rfl rfl) h1
  refine (k_narthexlaw14_TableOthers x1 x2 true (p_narthexlaw14_TableOthers x1 x2) (fun k => W.heap[k]?) W [v0, v1] (fun _ _ h => h) ⟨v0, _, rfl, k0, ⟨v1, _, rfl, k1, rfl⟩⟩).mono ?_
  rintro e W' ⟨v, H', rfl, hB, _, _, hv⟩
  have hv : v = .bool true := hv
  subst hv
  exact ⟨_, rfl, law_post laidOut_tableOthers (by kernel_rfl) rfl (rfl : Try.f12.resultTypes = #[4]) Try.underlying4 (fun _ => rfl) hW2 hB⟩
theorem lifted_tableOthers (os : Os) (started : os.Started) (H : Type) (enc : TypeId × Value → H) :
    ReturnsInHanded {} Try.checked os 12 .any (Rows.tableOthersSpec.pre6 enc Try.prog Try.f12 Rows.tableOthersRow.domain false) (Rows.tableOthersSpec.post enc Try.prog Try.f12 false true false false) := by
  refine returnsInHanded_of_change (C := Try.checked) own_tableOthers started (by kernel_rfl) Try.func12
    (ChangeSpec.witness6 (enc := enc) (C := Try.checked) false ⟨#[], #[.agg #[.slice none 0 0, .slice none 0 0], .agg #[.int .i64 0, .int .i64 0, .int .i64 0]], []⟩ 8 (by kernel_rfl) (by kernel_rfl) (by kernel_rfl) (by kernel_rfl)) ?_
  intro W base args ds gs before hval hW _ _
  exact contract_tableOthers H enc W base args ds gs before hval hW
theorem tableOthers_holds : Rows.TableOthersSaid :=
  OpenClaim.holds_of_wide 12 Try.f12 rfl rfl rfl rfl rfl rfl rfl ⟨rfl, rfl, rfl, rfl, rfl⟩ rfl rfl rfl rfl rfl (by kernel_rfl) Try.func12 (by kernel_rfl)
    (of_decide_eq_true (by kernel_rfl)) (by unfold Func.isWrapper; first | (rw [if_pos (by decide +kernel)]; kernel_rfl) | (rw [if_neg (by decide +kernel)]; exact ⟨rfl, rfl⟩))
    (fun os started H enc _ => lifted_tableOthers os started H enc)
#print axioms tableOthers_holds
end NX
end Go.Proofs.Ytadebhbiglmodaa
