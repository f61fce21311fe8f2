/-
  No cell of these rows narrows 'for every input' (looked for: loops, veiled, ifaces, maps, wideKeys, modest, calm, conditions, laid).
  DERIVED. THE GIVEN ROWS OF THIS SEAT. 3 by the template 'for every input the law returns true; each argument reads behind the call as it read before'; 0 by the template 'total and deterministic' (their statements: YtadebhbiglmodaaGreatTotals.lean).
  GIVEN WITH THE SEED: the statements are not yours to turn. If you find one false, say at which input.
  Laid BY PROGRAM, IN A SANDBOX (cutbox-rows.mjs): the forced cells as the released guide's own fill.sh prints them over the translation 04aa1f3432f21ad0… (all of the seat's roots in one cut). By AI agents, Wed Nov 11 2026. No macro, syntax, notation, axiom, sorry.
-/
import Derived.Test.YtadebhbiglmodaaGreatChecked
import GoSem.Claim
import GoSem.ClaimJoined
import GoSem.ClaimMapViews
import Derived.JoinedTies
import Derived.KernelRfl
namespace Go.Proofs.YtadebhbiglmodaaGreat
/- THE CELL 'sum', in the pinned program and in every row, IS THE sha256 OF THE DUMP (.gsa) THAT YtadebhbiglmodaaGreatProg.lean LOADS. Nothing in Lean hashes anything: it is a label: what it is worth is what the hold of that sum in a sandbox is worth. -/
noncomputable def Tryz.pinned : Pinned := { name := "ytadebhbiglmodaagreat", sum := "04aa1f3432f21ad0fd377b67522b0c812819e1a1cd722b012b8f532bbce985a5", checked := Tryz.checked }
namespace Rows
def none {H : Type} : Left H := { results := [], args := [] }

/-- 'narthexlaw14.TableSteps': WHATEVER THE INPUT: true; the input reads as it did. -/
def tableStepsSpec : ChangeSpec := { name := "tableSteps", fn := fun _ => fun
  | [d1, d2, d3, d4, d5] => { results := [.lit (.bool true)], args := [d1, d2, d3, d4, d5] }
  | _ => none }
def tableStepsRow : OpenClaim := { program := "ytadebhbiglmodaagreat", sum := "04aa1f3432f21ad0fd377b67522b0c812819e1a1cd722b012b8f532bbce985a5", func := "narthex/narthexlaw14.TableSteps", spec := "tableSteps", unfollowed := true, recurses := true, apart := false }
def TableStepsSaid : Prop := tableStepsRow.holds Tryz.pinned (OpenSpec.ofChange tableStepsSpec)

/-- ITS FALSE NEIGHBOUR: 'it returns false'. Refute it at one input. -/
def tableStepsWrong : ChangeSpec := { name := "tableSteps", fn := fun _ => fun
  | [d1, d2, d3, d4, d5] => { results := [.lit (.bool false)], args := [d1, d2, d3, d4, d5] }
  | _ => none }
def TableStepsWrongFalsely : Prop := tableStepsRow.holds Tryz.pinned (OpenSpec.ofChange tableStepsWrong)

/-- 'narthexlaw14.TableNew': WHATEVER THE INPUT: true; the input reads as it did. -/
def tableNewSpec : ChangeSpec := { name := "tableNew", fn := fun _ => fun
  | [d] => { results := [.lit (.bool true)], args := [d] }
  | _ => none }
def tableNewRow : OpenClaim := { program := "ytadebhbiglmodaagreat", sum := "04aa1f3432f21ad0fd377b67522b0c812819e1a1cd722b012b8f532bbce985a5", func := "narthex/narthexlaw14.TableNew", spec := "tableNew", unfollowed := true, recurses := true, apart := false }
def TableNewSaid : Prop := tableNewRow.holds Tryz.pinned (OpenSpec.ofChange tableNewSpec)

/-- ITS FALSE NEIGHBOUR: 'it returns false'. Refute it at one input. -/
def tableNewWrong : ChangeSpec := { name := "tableNew", fn := fun _ => fun
  | [d] => { results := [.lit (.bool false)], args := [d] }
  | _ => none }
def TableNewWrongFalsely : Prop := tableNewRow.holds Tryz.pinned (OpenSpec.ofChange tableNewWrong)

/-- 'narthexlaw14.TableRound': WHATEVER THE INPUT: true; the input reads as it did. -/
def tableRoundSpec : ChangeSpec := { name := "tableRound", fn := fun _ => fun
  | [d1, d2] => { results := [.lit (.bool true)], args := [d1, d2] }
  | _ => none }
def tableRoundRow : OpenClaim := { program := "ytadebhbiglmodaagreat", sum := "04aa1f3432f21ad0fd377b67522b0c812819e1a1cd722b012b8f532bbce985a5", func := "narthex/narthexlaw14.TableRound", spec := "tableRound", unfollowed := true, recurses := true, apart := false }
def TableRoundSaid : Prop := tableRoundRow.holds Tryz.pinned (OpenSpec.ofChange tableRoundSpec)

/-- ITS FALSE NEIGHBOUR: 'it returns false'. Refute it at one input. -/
def tableRoundWrong : ChangeSpec := { name := "tableRound", fn := fun _ => fun
  | [d1, d2] => { results := [.lit (.bool false)], args := [d1, d2] }
  | _ => none }
def TableRoundWrongFalsely : Prop := tableRoundRow.holds Tryz.pinned (OpenSpec.ofChange tableRoundWrong)

/- THE SECOND FORM. 'bulk': how many values and letters a reading holds, each counted each time it is reached (what is shared counts as often as it is met; a slice's spare places count too). A statement '..UptoSaid' is the law's where the arguments, and the package variables that the reading takes, are together of bulk at most 1048576: NARROWER than '..Said'. Prove '..Said' where nothing that the law and all that it calls make is longer than what came in: it says more and counts as full. Else prove '..UptoSaid'. A law counts once. -/
mutual
def uptoBulk {H : Type} : DataW H → Nat
  | .lit (.string bytes) => bytes.length + 1
  | .lit _ => 1
  | .nil => 1
  | .ptr d => uptoBulk d + 1
  | .slice elems spare => uptoBulkAll elems + uptoBulkAll spare + 1
  | .agg parts => uptoBulkAll parts + 1
  | .iface _ d => uptoBulk d + 1
  | .map entries => uptoBulkEntries entries + 1
  | .held _ => 1
def uptoBulkAll {H : Type} : List (DataW H) → Nat
  | [] => 0
  | d :: r => uptoBulk d + uptoBulkAll r
def uptoBulkEntries {H : Type} : List (Lit × DataW H) → Nat
  | [] => 0
  | x :: r => uptoBulkEntry x + uptoBulkEntries r
def uptoBulkEntry {H : Type} : Lit × DataW H → Nat
  | (.string bytes, d) => bytes.length + uptoBulk d + 1
  | (_, d) => uptoBulk d + 1
 end
def uptoSmall : (H : Type) → List (DataW H) → Bool := fun _ ds => decide (uptoBulkAll ds ≤ 1048576)
def OpenSpec.upto (s : _root_.Go.ChangeSpec) : _root_.Go.OpenSpec := { _root_.Go.OpenSpec.ofChange s with cond := some uptoSmall }

/-- 'narthexlaw14.TableSteps', WHERE WHAT IT READS IS OF BULK AT MOST 1048576: true; the input reads as it did. -/
def tableStepsUptoRow : OpenClaim := { program := "ytadebhbiglmodaagreat", sum := "04aa1f3432f21ad0fd377b67522b0c812819e1a1cd722b012b8f532bbce985a5", func := "narthex/narthexlaw14.TableSteps", spec := "tableSteps", unfollowed := true, recurses := true, apart := false, narrowed := true }
def TableStepsUptoSaid : Prop := tableStepsUptoRow.holds Tryz.pinned (OpenSpec.upto tableStepsSpec)

/-- 'narthexlaw14.TableNew', WHERE WHAT IT READS IS OF BULK AT MOST 1048576: true; the input reads as it did. -/
def tableNewUptoRow : OpenClaim := { program := "ytadebhbiglmodaagreat", sum := "04aa1f3432f21ad0fd377b67522b0c812819e1a1cd722b012b8f532bbce985a5", func := "narthex/narthexlaw14.TableNew", spec := "tableNew", unfollowed := true, recurses := true, apart := false, narrowed := true }
def TableNewUptoSaid : Prop := tableNewUptoRow.holds Tryz.pinned (OpenSpec.upto tableNewSpec)

/-- 'narthexlaw14.TableRound', WHERE WHAT IT READS IS OF BULK AT MOST 1048576: true; the input reads as it did. -/
def tableRoundUptoRow : OpenClaim := { program := "ytadebhbiglmodaagreat", sum := "04aa1f3432f21ad0fd377b67522b0c812819e1a1cd722b012b8f532bbce985a5", func := "narthex/narthexlaw14.TableRound", spec := "tableRound", unfollowed := true, recurses := true, apart := false, narrowed := true }
def TableRoundUptoSaid : Prop := tableRoundUptoRow.holds Tryz.pinned (OpenSpec.upto tableRoundSpec)

end Rows
end Go.Proofs.YtadebhbiglmodaaGreat
