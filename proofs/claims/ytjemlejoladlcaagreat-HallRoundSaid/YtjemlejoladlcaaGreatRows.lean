/-
  No cell of these rows narrows 'for every input' (looked for: loops, veiled, ifaces, maps, wideKeys, modest, calm, conditions, laid).
  DERIVED. THE GIVEN ROWS OF THIS SEAT. 5 by the template 'for every input the law returns true; each argument reads behind the call as it read before'; 0 by the template 'total and deterministic' (their statements: YtjemlejoladlcaaGreatTotals.lean).
  GIVEN WITH THE SEED: the statements are not yours to turn. If you find one false, say at which input.
  Laid BY PROGRAM, IN A SANDBOX (cutbox-rows.mjs): the forced cells as the released guide's own fill.sh prints them over the translation b05365306c16a66e… (all of the seat's roots in one cut). By AI agents, Wed Nov 11 2026. No macro, syntax, notation, axiom, sorry.
-/
import Derived.Test.YtjemlejoladlcaaGreatChecked
import GoSem.Claim
import GoSem.ClaimJoined
import GoSem.ClaimMapViews
import Derived.JoinedTies
import Derived.KernelRfl
namespace Go.Proofs.YtjemlejoladlcaaGreat
/- THE CELL 'sum', in the pinned program and in every row, IS THE sha256 OF THE DUMP (.gsa) THAT YtjemlejoladlcaaGreatProg.lean LOADS. Nothing in Lean hashes anything: it is a label: what it is worth is what the hold of that sum in a sandbox is worth. -/
noncomputable def Tryz.pinned : Pinned := { name := "ytjemlejoladlcaagreat", sum := "b05365306c16a66e8db6174fad4292c1848823a38dbd9e8fa43e2d9120d3b968", checked := Tryz.checked }
namespace Rows
def none {H : Type} : Left H := { results := [], args := [] }

/-- 'narthexlaw19.HallApart': WHATEVER THE INPUT: true; the input reads as it did. -/
def hallApartSpec : ChangeSpec := { name := "hallApart", fn := fun _ => fun
  | [d1, d2] => { results := [.lit (.bool true)], args := [d1, d2] }
  | _ => none }
def hallApartRow : OpenClaim := { program := "ytjemlejoladlcaagreat", sum := "b05365306c16a66e8db6174fad4292c1848823a38dbd9e8fa43e2d9120d3b968", func := "narthex/narthexlaw19.HallApart", spec := "hallApart", inPlace := ["slices.overlaps[narthex/api.Side]", "slices.overlaps[narthex/api.Known]"], unfollowed := true, recurses := true, apart := false }
def HallApartSaid : Prop := hallApartRow.holds Tryz.pinned (OpenSpec.ofChange hallApartSpec)

/-- ITS FALSE NEIGHBOUR: 'it returns false'. Refute it at one input. -/
def hallApartWrong : ChangeSpec := { name := "hallApart", fn := fun _ => fun
  | [d1, d2] => { results := [.lit (.bool false)], args := [d1, d2] }
  | _ => none }
def HallApartWrongFalsely : Prop := hallApartRow.holds Tryz.pinned (OpenSpec.ofChange hallApartWrong)

/-- 'narthexlaw19.HallFair': WHATEVER THE INPUT: true; the input reads as it did. -/
def hallFairSpec : ChangeSpec := { name := "hallFair", fn := fun _ => fun
  | [d1, d2] => { results := [.lit (.bool true)], args := [d1, d2] }
  | _ => none }
def hallFairRow : OpenClaim := { program := "ytjemlejoladlcaagreat", sum := "b05365306c16a66e8db6174fad4292c1848823a38dbd9e8fa43e2d9120d3b968", func := "narthex/narthexlaw19.HallFair", spec := "hallFair", inPlace := ["slices.overlaps[narthex/api.Side]", "slices.overlaps[narthex/api.Known]"], unfollowed := true, recurses := true, apart := false }
def HallFairSaid : Prop := hallFairRow.holds Tryz.pinned (OpenSpec.ofChange hallFairSpec)

/-- ITS FALSE NEIGHBOUR: 'it returns false'. Refute it at one input. -/
def hallFairWrong : ChangeSpec := { name := "hallFair", fn := fun _ => fun
  | [d1, d2] => { results := [.lit (.bool false)], args := [d1, d2] }
  | _ => none }
def HallFairWrongFalsely : Prop := hallFairRow.holds Tryz.pinned (OpenSpec.ofChange hallFairWrong)

/-- 'narthexlaw19.HallOne': WHATEVER THE INPUT: true; the input reads as it did. -/
def hallOneSpec : ChangeSpec := { name := "hallOne", fn := fun _ => fun
  | [d1, d2] => { results := [.lit (.bool true)], args := [d1, d2] }
  | _ => none }
def hallOneRow : OpenClaim := { program := "ytjemlejoladlcaagreat", sum := "b05365306c16a66e8db6174fad4292c1848823a38dbd9e8fa43e2d9120d3b968", func := "narthex/narthexlaw19.HallOne", spec := "hallOne", inPlace := ["slices.overlaps[narthex/api.Side]", "slices.overlaps[narthex/api.Known]"], unfollowed := true, recurses := true, apart := false }
def HallOneSaid : Prop := hallOneRow.holds Tryz.pinned (OpenSpec.ofChange hallOneSpec)

/-- ITS FALSE NEIGHBOUR: 'it returns false'. Refute it at one input. -/
def hallOneWrong : ChangeSpec := { name := "hallOne", fn := fun _ => fun
  | [d1, d2] => { results := [.lit (.bool false)], args := [d1, d2] }
  | _ => none }
def HallOneWrongFalsely : Prop := hallOneRow.holds Tryz.pinned (OpenSpec.ofChange hallOneWrong)

/-- 'narthexlaw19.HallRound': WHATEVER THE INPUT: true; the input reads as it did. -/
def hallRoundSpec : ChangeSpec := { name := "hallRound", fn := fun _ => fun
  | [d1, d2] => { results := [.lit (.bool true)], args := [d1, d2] }
  | _ => none }
def hallRoundRow : OpenClaim := { program := "ytjemlejoladlcaagreat", sum := "b05365306c16a66e8db6174fad4292c1848823a38dbd9e8fa43e2d9120d3b968", func := "narthex/narthexlaw19.HallRound", spec := "hallRound", inPlace := ["slices.overlaps[narthex/api.Side]", "slices.overlaps[narthex/api.Known]"], unfollowed := true, recurses := true, apart := false }
def HallRoundSaid : Prop := hallRoundRow.holds Tryz.pinned (OpenSpec.ofChange hallRoundSpec)

/-- ITS FALSE NEIGHBOUR: 'it returns false'. Refute it at one input. -/
def hallRoundWrong : ChangeSpec := { name := "hallRound", fn := fun _ => fun
  | [d1, d2] => { results := [.lit (.bool false)], args := [d1, d2] }
  | _ => none }
def HallRoundWrongFalsely : Prop := hallRoundRow.holds Tryz.pinned (OpenSpec.ofChange hallRoundWrong)

/-- 'narthexlaw20.ModelHall': WHATEVER THE INPUT: true; the input reads as it did. -/
def modelHallSpec : ChangeSpec := { name := "modelHall", fn := fun _ => fun
  | [d1, d2] => { results := [.lit (.bool true)], args := [d1, d2] }
  | _ => none }
def modelHallRow : OpenClaim := { program := "ytjemlejoladlcaagreat", sum := "b05365306c16a66e8db6174fad4292c1848823a38dbd9e8fa43e2d9120d3b968", func := "narthex/narthexlaw20.ModelHall", spec := "modelHall", inPlace := ["slices.overlaps[narthex/api.Side]", "slices.overlaps[narthex/api.Known]"], unfollowed := true, recurses := true, apart := false }
def ModelHallSaid : Prop := modelHallRow.holds Tryz.pinned (OpenSpec.ofChange modelHallSpec)

/-- ITS FALSE NEIGHBOUR: 'it returns false'. Refute it at one input. -/
def modelHallWrong : ChangeSpec := { name := "modelHall", fn := fun _ => fun
  | [d1, d2] => { results := [.lit (.bool false)], args := [d1, d2] }
  | _ => none }
def ModelHallWrongFalsely : Prop := modelHallRow.holds Tryz.pinned (OpenSpec.ofChange modelHallWrong)

/- THE SECOND FORM. 'bulk': how many values and letters a reading holds, each counted each time it is reached (what is shared counts as often as it is met; a slice's spare places count too). A statement '..UptoSaid' is the law's where the arguments, and the package variables that the reading takes, are together of bulk at most 1048576: NARROWER than '..Said'. Prove '..Said' where nothing that the law and all that it calls make is longer than what came in: it says more and counts as full. Else prove '..UptoSaid'. A law counts once. -/
mutual
def uptoBulk {H : Type} : DataW H → Nat
  | .lit (.string bytes) => bytes.length + 1
  | .lit _ => 1
  | .nil => 1
  | .ptr d => uptoBulk d + 1
  | .slice elems spare => uptoBulkAll elems + uptoBulkAll spare + 1
  | .agg parts => uptoBulkAll parts + 1
  | .iface _ d => uptoBulk d + 1
  | .map entries => uptoBulkEntries entries + 1
  | .held _ => 1
def uptoBulkAll {H : Type} : List (DataW H) → Nat
  | [] => 0
  | d :: r => uptoBulk d + uptoBulkAll r
def uptoBulkEntries {H : Type} : List (Lit × DataW H) → Nat
  | [] => 0
  | x :: r => uptoBulkEntry x + uptoBulkEntries r
def uptoBulkEntry {H : Type} : Lit × DataW H → Nat
  | (.string bytes, d) => bytes.length + uptoBulk d + 1
  | (_, d) => uptoBulk d + 1
 end
def uptoSmall : (H : Type) → List (DataW H) → Bool := fun _ ds => decide (uptoBulkAll ds ≤ 1048576)
def OpenSpec.upto (s : _root_.Go.ChangeSpec) : _root_.Go.OpenSpec := { _root_.Go.OpenSpec.ofChange s with cond := some uptoSmall }

/-- 'narthexlaw19.HallApart', WHERE WHAT IT READS IS OF BULK AT MOST 1048576: true; the input reads as it did. -/
def hallApartUptoRow : OpenClaim := { program := "ytjemlejoladlcaagreat", sum := "b05365306c16a66e8db6174fad4292c1848823a38dbd9e8fa43e2d9120d3b968", func := "narthex/narthexlaw19.HallApart", spec := "hallApart", inPlace := ["slices.overlaps[narthex/api.Side]", "slices.overlaps[narthex/api.Known]"], unfollowed := true, recurses := true, apart := false, narrowed := true }
def HallApartUptoSaid : Prop := hallApartUptoRow.holds Tryz.pinned (OpenSpec.upto hallApartSpec)

/-- 'narthexlaw19.HallFair', WHERE WHAT IT READS IS OF BULK AT MOST 1048576: true; the input reads as it did. -/
def hallFairUptoRow : OpenClaim := { program := "ytjemlejoladlcaagreat", sum := "b05365306c16a66e8db6174fad4292c1848823a38dbd9e8fa43e2d9120d3b968", func := "narthex/narthexlaw19.HallFair", spec := "hallFair", inPlace := ["slices.overlaps[narthex/api.Side]", "slices.overlaps[narthex/api.Known]"], unfollowed := true, recurses := true, apart := false, narrowed := true }
def HallFairUptoSaid : Prop := hallFairUptoRow.holds Tryz.pinned (OpenSpec.upto hallFairSpec)

/-- 'narthexlaw19.HallOne', WHERE WHAT IT READS IS OF BULK AT MOST 1048576: true; the input reads as it did. -/
def hallOneUptoRow : OpenClaim := { program := "ytjemlejoladlcaagreat", sum := "b05365306c16a66e8db6174fad4292c1848823a38dbd9e8fa43e2d9120d3b968", func := "narthex/narthexlaw19.HallOne", spec := "hallOne", inPlace := ["slices.overlaps[narthex/api.Side]", "slices.overlaps[narthex/api.Known]"], unfollowed := true, recurses := true, apart := false, narrowed := true }
def HallOneUptoSaid : Prop := hallOneUptoRow.holds Tryz.pinned (OpenSpec.upto hallOneSpec)

/-- 'narthexlaw19.HallRound', WHERE WHAT IT READS IS OF BULK AT MOST 1048576: true; the input reads as it did. -/
def hallRoundUptoRow : OpenClaim := { program := "ytjemlejoladlcaagreat", sum := "b05365306c16a66e8db6174fad4292c1848823a38dbd9e8fa43e2d9120d3b968", func := "narthex/narthexlaw19.HallRound", spec := "hallRound", inPlace := ["slices.overlaps[narthex/api.Side]", "slices.overlaps[narthex/api.Known]"], unfollowed := true, recurses := true, apart := false, narrowed := true }
def HallRoundUptoSaid : Prop := hallRoundUptoRow.holds Tryz.pinned (OpenSpec.upto hallRoundSpec)

/-- 'narthexlaw20.ModelHall', WHERE WHAT IT READS IS OF BULK AT MOST 1048576: true; the input reads as it did. -/
def modelHallUptoRow : OpenClaim := { program := "ytjemlejoladlcaagreat", sum := "b05365306c16a66e8db6174fad4292c1848823a38dbd9e8fa43e2d9120d3b968", func := "narthex/narthexlaw20.ModelHall", spec := "modelHall", inPlace := ["slices.overlaps[narthex/api.Side]", "slices.overlaps[narthex/api.Known]"], unfollowed := true, recurses := true, apart := false, narrowed := true }
def ModelHallUptoSaid : Prop := modelHallUptoRow.holds Tryz.pinned (OpenSpec.upto modelHallSpec)

end Rows
end Go.Proofs.YtjemlejoladlcaaGreat
