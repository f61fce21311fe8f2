/-
  A part of the proof of ScriptJoins: no statement of the seat is proved here.
-/
import Derived.Test.YtncijcfnjepooaaGreatDoorRows
import Derived.JoinedOf
import Derived.SevenTiedAt
import Derived.WalkKit
set_option linter.unusedVariables false
set_option linter.unusedSimpArgs false
set_option linter.unnecessarySimpa false
set_option linter.unusedSectionVars false
set_option linter.constructorNameAsVariable false
set_option linter.deprecated false
section
set_option maxRecDepth 100000
namespace Go.Proofs.YtncijcfnjepooaaGreatDoor
namespace NX
open Go
theorem cw : Rows.scriptJoinsRow.wfByText (OpenSpec.ofChange Rows.scriptJoinsSpec) = true := by kernel_rfl
theorem mi : Tryz.pinned.checked.prog.mainIs = some (true, "c1ae0719bd2abefe63eae2d9a24bbbd9109c56e1a815135cc8d6814c113991d9".toList) := by kernel_rfl
theorem gb : false = Rows.scriptJoinsRow.goesBy Tryz.pinned.checked.prog := by kernel_rfl
theorem lk : true = Tryz.pinned.checked.prog.looks [] := by kernel_rfl
theorem fnm : Tryz.prog.funcNamed "narthex/narthexlaw22.ScriptJoins" = some 4 := by kernel_rfl
theorem wsi : ([9].all fun u => !Tryz.prog.wantsStandIn u) = true := by kernel_rfl
theorem ii : Tryz.f4.isInstance Tryz.pinned.checked.prog Rows.scriptJoinsRow.origin Rows.scriptJoinsRow.targs := of_decide_eq_true (by kernel_rfl)
theorem iw : Tryz.f4.isWrapper Tryz.pinned.checked.prog Rows.scriptJoinsRow.wrapper Rows.scriptJoinsRow.mainSum := by unfold Func.isWrapper; first | (rw [if_pos (by decide +kernel)]; kernel_rfl) | (rw [if_neg (by decide +kernel)]; exact ⟨rfl, rfl⟩)
end NX
end Go.Proofs.YtncijcfnjepooaaGreatDoor
end
