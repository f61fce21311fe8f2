/-
  No cell of these rows narrows 'for every input' (looked for: loops, veiled, ifaces, maps, wideKeys, modest, calm, conditions, laid).
  DERIVED. THE GIVEN ROWS OF THIS SEAT. 8 by the template 'for every input the law returns true; each argument reads behind the call as it read before'; 0 by the template 'total and deterministic' (their statements: YtacfbmldajmjiaaGreatTotals.lean).
  GIVEN WITH THE SEED: the statements are not yours to turn. If you find one false, say at which input.
  Laid BY PROGRAM, IN A SANDBOX (cutbox-rows.mjs): the forced cells as the released guide's own fill.sh prints them over the translation cf1fd0ffd13b4f6b… (all of the seat's roots in one cut). By AI agents, Wed Nov 11 2026. No macro, syntax, notation, axiom, sorry.
-/
import Derived.Test.YtacfbmldajmjiaaGreatChecked
import GoSem.Claim
import GoSem.ClaimJoined
import GoSem.ClaimMapViews
import Derived.JoinedTies
import Derived.KernelRfl
namespace Go.Proofs.YtacfbmldajmjiaaGreat
/- THE CELL 'sum', in the pinned program and in every row, IS THE sha256 OF THE DUMP (.gsa) THAT YtacfbmldajmjiaaGreatProg.lean LOADS. Nothing in Lean hashes anything: it is a label: what it is worth is what the hold of that sum in a sandbox is worth. -/
noncomputable def Tryz.pinned : Pinned := { name := "ytacfbmldajmjiaagreat", sum := "cf1fd0ffd13b4f6b7571ed5ff47ee7722c4c664cb7fc4f97a0ba5d983b252876", checked := Tryz.checked }
namespace Rows
def none {H : Type} : Left H := { results := [], args := [] }

/-- 'narthexlaw16.BarSteps': WHATEVER THE INPUT: true; the input reads as it did. -/
def barStepsSpec : ChangeSpec := { name := "barSteps", fn := fun _ => fun
  | [d1, d2, d3, d4, d5] => { results := [.lit (.bool true)], args := [d1, d2, d3, d4, d5] }
  | _ => none }
def barStepsRow : OpenClaim := { program := "ytacfbmldajmjiaagreat", sum := "cf1fd0ffd13b4f6b7571ed5ff47ee7722c4c664cb7fc4f97a0ba5d983b252876", func := "narthex/narthexlaw16.BarSteps", spec := "barSteps", unfollowed := true, recurses := true, apart := false }
def BarStepsSaid : Prop := barStepsRow.holds Tryz.pinned (OpenSpec.ofChange barStepsSpec)

/-- ITS FALSE NEIGHBOUR: 'it returns false'. Refute it at one input. -/
def barStepsWrong : ChangeSpec := { name := "barSteps", fn := fun _ => fun
  | [d1, d2, d3, d4, d5] => { results := [.lit (.bool false)], args := [d1, d2, d3, d4, d5] }
  | _ => none }
def BarStepsWrongFalsely : Prop := barStepsRow.holds Tryz.pinned (OpenSpec.ofChange barStepsWrong)

/-- 'narthexlaw16.BarOne': WHATEVER THE INPUT: true; the input reads as it did. -/
def barOneSpec : ChangeSpec := { name := "barOne", fn := fun _ => fun
  | [d1, d2] => { results := [.lit (.bool true)], args := [d1, d2] }
  | _ => none }
def barOneRow : OpenClaim := { program := "ytacfbmldajmjiaagreat", sum := "cf1fd0ffd13b4f6b7571ed5ff47ee7722c4c664cb7fc4f97a0ba5d983b252876", func := "narthex/narthexlaw16.BarOne", spec := "barOne", unfollowed := true, recurses := true, apart := false }
def BarOneSaid : Prop := barOneRow.holds Tryz.pinned (OpenSpec.ofChange barOneSpec)

/-- ITS FALSE NEIGHBOUR: 'it returns false'. Refute it at one input. -/
def barOneWrong : ChangeSpec := { name := "barOne", fn := fun _ => fun
  | [d1, d2] => { results := [.lit (.bool false)], args := [d1, d2] }
  | _ => none }
def BarOneWrongFalsely : Prop := barOneRow.holds Tryz.pinned (OpenSpec.ofChange barOneWrong)

/-- 'narthexlaw16.BarApart': WHATEVER THE INPUT: true; the input reads as it did. -/
def barApartSpec : ChangeSpec := { name := "barApart", fn := fun _ => fun
  | [d1, d2] => { results := [.lit (.bool true)], args := [d1, d2] }
  | _ => none }
def barApartRow : OpenClaim := { program := "ytacfbmldajmjiaagreat", sum := "cf1fd0ffd13b4f6b7571ed5ff47ee7722c4c664cb7fc4f97a0ba5d983b252876", func := "narthex/narthexlaw16.BarApart", spec := "barApart", unfollowed := true, recurses := true, apart := false }
def BarApartSaid : Prop := barApartRow.holds Tryz.pinned (OpenSpec.ofChange barApartSpec)

/-- ITS FALSE NEIGHBOUR: 'it returns false'. Refute it at one input. -/
def barApartWrong : ChangeSpec := { name := "barApart", fn := fun _ => fun
  | [d1, d2] => { results := [.lit (.bool false)], args := [d1, d2] }
  | _ => none }
def BarApartWrongFalsely : Prop := barApartRow.holds Tryz.pinned (OpenSpec.ofChange barApartWrong)

/-- 'narthexlaw16.BarFair': WHATEVER THE INPUT: true; the input reads as it did. -/
def barFairSpec : ChangeSpec := { name := "barFair", fn := fun _ => fun
  | [d1, d2] => { results := [.lit (.bool true)], args := [d1, d2] }
  | _ => none }
def barFairRow : OpenClaim := { program := "ytacfbmldajmjiaagreat", sum := "cf1fd0ffd13b4f6b7571ed5ff47ee7722c4c664cb7fc4f97a0ba5d983b252876", func := "narthex/narthexlaw16.BarFair", spec := "barFair", unfollowed := true, recurses := true, apart := false }
def BarFairSaid : Prop := barFairRow.holds Tryz.pinned (OpenSpec.ofChange barFairSpec)

/-- ITS FALSE NEIGHBOUR: 'it returns false'. Refute it at one input. -/
def barFairWrong : ChangeSpec := { name := "barFair", fn := fun _ => fun
  | [d1, d2] => { results := [.lit (.bool false)], args := [d1, d2] }
  | _ => none }
def BarFairWrongFalsely : Prop := barFairRow.holds Tryz.pinned (OpenSpec.ofChange barFairWrong)

/-- 'narthexlaw16.BarFree': WHATEVER THE INPUT: true; the input reads as it did. -/
def barFreeSpec : ChangeSpec := { name := "barFree", fn := fun _ => fun
  | [d1, d2, d3, d4] => { results := [.lit (.bool true)], args := [d1, d2, d3, d4] }
  | _ => none }
def barFreeRow : OpenClaim := { program := "ytacfbmldajmjiaagreat", sum := "cf1fd0ffd13b4f6b7571ed5ff47ee7722c4c664cb7fc4f97a0ba5d983b252876", func := "narthex/narthexlaw16.BarFree", spec := "barFree", unfollowed := true, recurses := true, apart := false }
def BarFreeSaid : Prop := barFreeRow.holds Tryz.pinned (OpenSpec.ofChange barFreeSpec)

/-- ITS FALSE NEIGHBOUR: 'it returns false'. Refute it at one input. -/
def barFreeWrong : ChangeSpec := { name := "barFree", fn := fun _ => fun
  | [d1, d2, d3, d4] => { results := [.lit (.bool false)], args := [d1, d2, d3, d4] }
  | _ => none }
def BarFreeWrongFalsely : Prop := barFreeRow.holds Tryz.pinned (OpenSpec.ofChange barFreeWrong)

/-- 'narthexlaw16.BarNew': WHATEVER THE INPUT: true; the input reads as it did. -/
def barNewSpec : ChangeSpec := { name := "barNew", fn := fun _ => fun
  | [d] => { results := [.lit (.bool true)], args := [d] }
  | _ => none }
def barNewRow : OpenClaim := { program := "ytacfbmldajmjiaagreat", sum := "cf1fd0ffd13b4f6b7571ed5ff47ee7722c4c664cb7fc4f97a0ba5d983b252876", func := "narthex/narthexlaw16.BarNew", spec := "barNew", unfollowed := true, recurses := true, apart := false }
def BarNewSaid : Prop := barNewRow.holds Tryz.pinned (OpenSpec.ofChange barNewSpec)

/-- ITS FALSE NEIGHBOUR: 'it returns false'. Refute it at one input. -/
def barNewWrong : ChangeSpec := { name := "barNew", fn := fun _ => fun
  | [d] => { results := [.lit (.bool false)], args := [d] }
  | _ => none }
def BarNewWrongFalsely : Prop := barNewRow.holds Tryz.pinned (OpenSpec.ofChange barNewWrong)

/-- 'narthexlaw16.BarOthers': WHATEVER THE INPUT: true; the input reads as it did. -/
def barOthersSpec : ChangeSpec := { name := "barOthers", fn := fun _ => fun
  | [d1, d2] => { results := [.lit (.bool true)], args := [d1, d2] }
  | _ => none }
def barOthersRow : OpenClaim := { program := "ytacfbmldajmjiaagreat", sum := "cf1fd0ffd13b4f6b7571ed5ff47ee7722c4c664cb7fc4f97a0ba5d983b252876", func := "narthex/narthexlaw16.BarOthers", spec := "barOthers", unfollowed := true, recurses := true, apart := false }
def BarOthersSaid : Prop := barOthersRow.holds Tryz.pinned (OpenSpec.ofChange barOthersSpec)

/-- ITS FALSE NEIGHBOUR: 'it returns false'. Refute it at one input. -/
def barOthersWrong : ChangeSpec := { name := "barOthers", fn := fun _ => fun
  | [d1, d2] => { results := [.lit (.bool false)], args := [d1, d2] }
  | _ => none }
def BarOthersWrongFalsely : Prop := barOthersRow.holds Tryz.pinned (OpenSpec.ofChange barOthersWrong)

/-- 'narthexlaw16.BarRound': WHATEVER THE INPUT: true; the input reads as it did. -/
def barRoundSpec : ChangeSpec := { name := "barRound", fn := fun _ => fun
  | [d1, d2] => { results := [.lit (.bool true)], args := [d1, d2] }
  | _ => none }
def barRoundRow : OpenClaim := { program := "ytacfbmldajmjiaagreat", sum := "cf1fd0ffd13b4f6b7571ed5ff47ee7722c4c664cb7fc4f97a0ba5d983b252876", func := "narthex/narthexlaw16.BarRound", spec := "barRound", unfollowed := true, recurses := true, apart := false }
def BarRoundSaid : Prop := barRoundRow.holds Tryz.pinned (OpenSpec.ofChange barRoundSpec)

/-- ITS FALSE NEIGHBOUR: 'it returns false'. Refute it at one input. -/
def barRoundWrong : ChangeSpec := { name := "barRound", fn := fun _ => fun
  | [d1, d2] => { results := [.lit (.bool false)], args := [d1, d2] }
  | _ => none }
def BarRoundWrongFalsely : Prop := barRoundRow.holds Tryz.pinned (OpenSpec.ofChange barRoundWrong)

/- THE SECOND FORM. 'bulk': how many values and letters a reading holds, each counted each time it is reached (what is shared counts as often as it is met; a slice's spare places count too). A statement '..UptoSaid' is the law's where the arguments, and the package variables that the reading takes, are together of bulk at most 1048576: NARROWER than '..Said'. Prove '..Said' where nothing that the law and all that it calls make is longer than what came in: it says more and counts as full. Else prove '..UptoSaid'. A law counts once. -/
mutual
def uptoBulk {H : Type} : DataW H → Nat
  | .lit (.string bytes) => bytes.length + 1
  | .lit _ => 1
  | .nil => 1
  | .ptr d => uptoBulk d + 1
  | .slice elems spare => uptoBulkAll elems + uptoBulkAll spare + 1
  | .agg parts => uptoBulkAll parts + 1
  | .iface _ d => uptoBulk d + 1
  | .map entries => uptoBulkEntries entries + 1
  | .held _ => 1
def uptoBulkAll {H : Type} : List (DataW H) → Nat
  | [] => 0
  | d :: r => uptoBulk d + uptoBulkAll r
def uptoBulkEntries {H : Type} : List (Lit × DataW H) → Nat
  | [] => 0
  | x :: r => uptoBulkEntry x + uptoBulkEntries r
def uptoBulkEntry {H : Type} : Lit × DataW H → Nat
  | (.string bytes, d) => bytes.length + uptoBulk d + 1
  | (_, d) => uptoBulk d + 1
 end
def uptoSmall : (H : Type) → List (DataW H) → Bool := fun _ ds => decide (uptoBulkAll ds ≤ 1048576)
def OpenSpec.upto (s : _root_.Go.ChangeSpec) : _root_.Go.OpenSpec := { _root_.Go.OpenSpec.ofChange s with cond := some uptoSmall }

/-- 'narthexlaw16.BarSteps', WHERE WHAT IT READS IS OF BULK AT MOST 1048576: true; the input reads as it did. -/
def barStepsUptoRow : OpenClaim := { program := "ytacfbmldajmjiaagreat", sum := "cf1fd0ffd13b4f6b7571ed5ff47ee7722c4c664cb7fc4f97a0ba5d983b252876", func := "narthex/narthexlaw16.BarSteps", spec := "barSteps", unfollowed := true, recurses := true, apart := false, narrowed := true }
def BarStepsUptoSaid : Prop := barStepsUptoRow.holds Tryz.pinned (OpenSpec.upto barStepsSpec)

/-- 'narthexlaw16.BarOne', WHERE WHAT IT READS IS OF BULK AT MOST 1048576: true; the input reads as it did. -/
def barOneUptoRow : OpenClaim := { program := "ytacfbmldajmjiaagreat", sum := "cf1fd0ffd13b4f6b7571ed5ff47ee7722c4c664cb7fc4f97a0ba5d983b252876", func := "narthex/narthexlaw16.BarOne", spec := "barOne", unfollowed := true, recurses := true, apart := false, narrowed := true }
def BarOneUptoSaid : Prop := barOneUptoRow.holds Tryz.pinned (OpenSpec.upto barOneSpec)

/-- 'narthexlaw16.BarApart', WHERE WHAT IT READS IS OF BULK AT MOST 1048576: true; the input reads as it did. -/
def barApartUptoRow : OpenClaim := { program := "ytacfbmldajmjiaagreat", sum := "cf1fd0ffd13b4f6b7571ed5ff47ee7722c4c664cb7fc4f97a0ba5d983b252876", func := "narthex/narthexlaw16.BarApart", spec := "barApart", unfollowed := true, recurses := true, apart := false, narrowed := true }
def BarApartUptoSaid : Prop := barApartUptoRow.holds Tryz.pinned (OpenSpec.upto barApartSpec)

/-- 'narthexlaw16.BarFair', WHERE WHAT IT READS IS OF BULK AT MOST 1048576: true; the input reads as it did. -/
def barFairUptoRow : OpenClaim := { program := "ytacfbmldajmjiaagreat", sum := "cf1fd0ffd13b4f6b7571ed5ff47ee7722c4c664cb7fc4f97a0ba5d983b252876", func := "narthex/narthexlaw16.BarFair", spec := "barFair", unfollowed := true, recurses := true, apart := false, narrowed := true }
def BarFairUptoSaid : Prop := barFairUptoRow.holds Tryz.pinned (OpenSpec.upto barFairSpec)

/-- 'narthexlaw16.BarFree', WHERE WHAT IT READS IS OF BULK AT MOST 1048576: true; the input reads as it did. -/
def barFreeUptoRow : OpenClaim := { program := "ytacfbmldajmjiaagreat", sum := "cf1fd0ffd13b4f6b7571ed5ff47ee7722c4c664cb7fc4f97a0ba5d983b252876", func := "narthex/narthexlaw16.BarFree", spec := "barFree", unfollowed := true, recurses := true, apart := false, narrowed := true }
def BarFreeUptoSaid : Prop := barFreeUptoRow.holds Tryz.pinned (OpenSpec.upto barFreeSpec)

/-- 'narthexlaw16.BarNew', WHERE WHAT IT READS IS OF BULK AT MOST 1048576: true; the input reads as it did. -/
def barNewUptoRow : OpenClaim := { program := "ytacfbmldajmjiaagreat", sum := "cf1fd0ffd13b4f6b7571ed5ff47ee7722c4c664cb7fc4f97a0ba5d983b252876", func := "narthex/narthexlaw16.BarNew", spec := "barNew", unfollowed := true, recurses := true, apart := false, narrowed := true }
def BarNewUptoSaid : Prop := barNewUptoRow.holds Tryz.pinned (OpenSpec.upto barNewSpec)

/-- 'narthexlaw16.BarOthers', WHERE WHAT IT READS IS OF BULK AT MOST 1048576: true; the input reads as it did. -/
def barOthersUptoRow : OpenClaim := { program := "ytacfbmldajmjiaagreat", sum := "cf1fd0ffd13b4f6b7571ed5ff47ee7722c4c664cb7fc4f97a0ba5d983b252876", func := "narthex/narthexlaw16.BarOthers", spec := "barOthers", unfollowed := true, recurses := true, apart := false, narrowed := true }
def BarOthersUptoSaid : Prop := barOthersUptoRow.holds Tryz.pinned (OpenSpec.upto barOthersSpec)

/-- 'narthexlaw16.BarRound', WHERE WHAT IT READS IS OF BULK AT MOST 1048576: true; the input reads as it did. -/
def barRoundUptoRow : OpenClaim := { program := "ytacfbmldajmjiaagreat", sum := "cf1fd0ffd13b4f6b7571ed5ff47ee7722c4c664cb7fc4f97a0ba5d983b252876", func := "narthex/narthexlaw16.BarRound", spec := "barRound", unfollowed := true, recurses := true, apart := false, narrowed := true }
def BarRoundUptoSaid : Prop := barRoundUptoRow.holds Tryz.pinned (OpenSpec.upto barRoundSpec)

end Rows
end Go.Proofs.YtacfbmldajmjiaaGreat
