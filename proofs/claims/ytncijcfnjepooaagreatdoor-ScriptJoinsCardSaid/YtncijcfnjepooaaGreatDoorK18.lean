/-
  A part of the proof of ScriptJoins: no statement of the seat is proved here.
-/
import Derived.Test.YtncijcfnjepooaaGreatDoorK12
import Derived.Test.YtncijcfnjepooaaGreatDoorK14
set_option linter.unusedVariables false
set_option linter.unusedSimpArgs false
set_option linter.unnecessarySimpa false
set_option linter.unusedSectionVars false
set_option linter.constructorNameAsVariable false
set_option linter.deprecated false
section
set_option maxRecDepth 100000
set_option maxHeartbeats 0
open Go.X Go.Proofs Go Go.RowKit
namespace T
noncomputable def sv0 (c : List Value) (n : Nat) : Value := slv 0 c 0 n
noncomputable def lines3 : Value := sv0 [iv 0, iv 0, iv 0, iv 3, iv 0, sv0 [iv 1] 1, iv 5, iv 0, iv 0, iv 0, iv 0, sv0 [] 0, iv 7, iv 0, iv 1, iv 0, iv 0, sv0 [] 0] 3
noncomputable def gr2 : Value := .agg ⟨[iv 2, sv0 [iv 0, iv 1] 1]⟩
noncomputable def cf1 : Value := .agg ⟨[iv 1, iv 9, iv 1, iv 9, iv 9]⟩
theorem run12 : (match run Tryz.prog 100000 (.call 12 [gr2, cf1, lines3]) [] 100 (hp 100 []) with | .ret v s => some (v, look [] s 389, look [] s 586, look [] s 750) | _ => none) = some (.tuple ⟨[.slice (some ⟨586, 0, none⟩) 2 2, .slice (some ⟨750, 0, none⟩) 3 3, iv 0]⟩, some (.cells [iv 1] 1 3 true), some (.cells [iv 0, iv 0, iv 3, iv 0, .slice (some ⟨389, 0, none⟩) 1 1, iv 1, iv 0, iv 3, iv 0, .slice none 0 0] 10 54 true), some (.cells [iv 0, iv 0, iv 211] 3 24 true)) := by kernel_rfl
noncomputable def evs : List Value := [iv 0, iv 0, iv 3, iv 0, slv 0 [iv 1] 0 1, iv 1, iv 0, iv 3, iv 0, .slice none 0 0]
theorem of_evs : ∀ v ∈ evs, of1 v = true := by intro v hv; simp only [evs, List.mem_cons, List.not_mem_nil, or_false] at hv; rcases hv with rfl | rfl | rfl | rfl | rfl | rfl | rfl | rfl | rfl | rfl <;> rfl
/-- script.Run, at the chapter's example. -/
theorem k12 : ZC Tryz.prog 12 [gr2, cf1, lines3] (hp 100 []) (.tuple ⟨[slv 0 evs 0 2, slv 0 [iv 0, iv 0, iv 211] 0 3, iv 0]⟩) (hp 100 []) := by
  have h := run12
  split at h
  · rename_i v s hr
    simp only [Option.some.injEq, Prod.mk.injEq] at h
    obtain ⟨rfl, h1, h2, h3⟩ := h
    refine ZC.ofRun (n := 100000) (l1 := [some (.cells evs 10 54 true), some (.cells [iv 0, iv 0, iv 211] 3 24 true)]) (ns1 := [586, 750]) (ns2 := []) (sl1 := [(389, [iv 1])]) (sl2 := [(100, evs), (101, [iv 0, iv 0, iv 211])]) (v2 := .tuple ⟨[.slice (some ⟨100, 0, none⟩) 2 2, .slice (some ⟨101, 0, none⟩) 3 3, iv 0]⟩) (by kernel_rfl) (by kernel_rfl) (by kernel_rfl) hr (by kernel_rfl) ?_ ?_ ?_ (by kernel_rfl) trivial ?_ ?_
    · exact AllO.som rfl h2 (RObj.cells ⟨RV.of rfl, RV.of rfl, RV.of rfl, RV.of rfl, RV.rsl (List.mem_singleton.2 rfl) (Nat.le_refl _), RV.of rfl, RV.of rfl, RV.of rfl, RV.of rfl, RV.of rfl, trivial⟩ (fun v hv => of1_one (of_evs v hv))) (AllO.som rfl h3 (RObj.same (by intro v hv; simp at hv; rcases hv with rfl | rfl <;> rfl)) AllO.nil)
    · exact ⟨⟨⟨_, _, _, h1⟩, by intro v hv; simp at hv; subst hv; rfl, rfl, .inl (by decide)⟩, trivial⟩
    · exact RV.tup ⟨RV.sn rfl, RV.sn rfl, RV.of rfl, trivial⟩
    · exact ⟨⟨⟨_, _, _, by with_unfolding_all rfl⟩, of_evs, rfl, .inl (by decide)⟩, ⟨⟨_, _, _, by with_unfolding_all rfl⟩, by intro v hv; simp at hv; rcases hv with rfl | rfl <;> rfl, rfl, .inl (by decide)⟩, trivial⟩
    · exact RV.tup ⟨RV.rsl (by simp) (Nat.le_refl _), RV.rsl (by simp) (Nat.le_refl _), RV.of rfl, trivial⟩
  · simp at h
end T
end
