/-
  The law ScriptJoins: its row holds under what is laid, for its code, walked whole, answers true at every two texts; and so its tied card.
-/
import Derived.Test.YtncijcfnjepooaaGreatDoorK21
import Derived.Test.YtncijcfnjepooaaGreatDoorK22
import Derived.Test.YtncijcfnjepooaaGreatDoorK23
import Derived.SevenTiedAt
set_option linter.unusedVariables false
set_option linter.unusedSimpArgs false
set_option linter.unnecessarySimpa false
set_option linter.unusedSectionVars false
set_option linter.constructorNameAsVariable false
set_option linter.deprecated false
section
set_option maxRecDepth 100000
set_option maxHeartbeats 4000000
namespace Go.Proofs.YtncijcfnjepooaaGreatDoor
namespace NX
open Go Go.X Go.RowKit Go.ChangeShapes Go.WideShapes Go.ChangeAt
theorem row_holds : Rows.ScriptJoinsSaid :=
  OpenClaim.holds_of_wide 4 Tryz.f4 rfl rfl rfl rfl rfl rfl rfl ⟨rfl, rfl, rfl, rfl, rfl⟩ rfl rfl rfl rfl rfl fnm Tryz.func4 closed ii iw
    (fun os started H enc _ => lifted os started H enc)
theorem scriptJoins_holds : Rows.ScriptJoinsCardSaid :=
  Claim7.holds_tied_plain_at .later [] [.data, .data, .data, .data, .data, .handle, .sentinel, .sentinel, .pinned] true (true, "c1ae0719bd2abefe63eae2d9a24bbbd9109c56e1a815135cc8d6814c113991d9") true row_holds (fun _ h => by cases h) cw (fun _ h => by cases h) scriptJoins_row_tie rfl ⟨rfl, rfl⟩ mi rfl
    (fun f fn hf hfn => by
      obtain rfl : f = 4 := Option.some.inj (fnm.symm.trans hf) |>.symm
      obtain rfl : fn = Tryz.f4 := (Option.some.inj (Tryz.func4.symm.trans hfn)).symm
      exact ⟨lk, fun j t ht => by
        rw [Tryz.params4] at ht
        have hm : t ∈ [9] := by simpa using Array.mem_of_getElem? ht
        exact (show Tryz.prog.wantsStandIn t = false by simpa using List.all_eq_true.1 wsi t hm)⟩)
    gb
end NX
end Go.Proofs.YtncijcfnjepooaaGreatDoor
end
#print axioms Go.Proofs.YtncijcfnjepooaaGreatDoor.NX.scriptJoins_holds
