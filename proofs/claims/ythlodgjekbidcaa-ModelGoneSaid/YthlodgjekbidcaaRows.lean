/-
  No cell of these rows narrows 'for every input' (looked for: loops, veiled, ifaces, maps, wideKeys, modest, calm, conditions, laid).
  DERIVED. THE GIVEN ROWS OF THIS SEAT. 3 by the template 'for every input the law returns true; each argument reads behind the call as it read before'; 0 by the template 'total and deterministic' (their statements: YthlodgjekbidcaaTotals.lean).
  GIVEN WITH THE SEED: the statements are not yours to turn. If you find one false, say at which input.
  Laid BY PROGRAM, IN A SANDBOX (cutbox-rows.mjs): the forced cells as the released guide's own fill.sh prints them over the translation 64ffa333767c0b5a… (all of the seat's roots in one cut). By AI agents, Wed Nov 11 2026. No macro, syntax, notation, axiom, sorry.
-/
import Derived.Test.YthlodgjekbidcaaChecked
import GoSem.Claim
import GoSem.ClaimJoined
import GoSem.ClaimMapViews
import Derived.JoinedTies
import Derived.KernelRfl
namespace Go.Proofs.Ythlodgjekbidcaa
/- THE CELL 'sum', in the pinned program and in every row, IS THE sha256 OF THE DUMP (.gsa) THAT YthlodgjekbidcaaProg.lean LOADS. Nothing in Lean hashes anything: it is a label: what it is worth is what the hold of that sum in a sandbox is worth. -/
noncomputable def Try.pinned : Pinned := { name := "ythlodgjekbidcaa", sum := "64ffa333767c0b5a4a798116f43e086115981c94fc61f977a8aaca8c24868640", checked := Try.checked }
namespace Rows
def none {H : Type} : Left H := { results := [], args := [] }

/-- 'narthexlaw20.ModelApart': WHATEVER THE INPUT: true; the input reads as it did. -/
def modelApartSpec : ChangeSpec := { name := "modelApart", fn := fun _ => fun
  | [d1, d2] => { results := [.lit (.bool true)], args := [d1, d2] }
  | _ => none }
def modelApartRow : OpenClaim := { program := "ythlodgjekbidcaa", sum := "64ffa333767c0b5a4a798116f43e086115981c94fc61f977a8aaca8c24868640", func := "narthex/narthexlaw20.ModelApart", spec := "modelApart", unfollowed := true, recurses := true, apart := false }
def ModelApartSaid : Prop := modelApartRow.holds Try.pinned (OpenSpec.ofChange modelApartSpec)

/-- ITS FALSE NEIGHBOUR: 'it returns false'. Refute it at one input. -/
def modelApartWrong : ChangeSpec := { name := "modelApart", fn := fun _ => fun
  | [d1, d2] => { results := [.lit (.bool false)], args := [d1, d2] }
  | _ => none }
def ModelApartWrongFalsely : Prop := modelApartRow.holds Try.pinned (OpenSpec.ofChange modelApartWrong)

/-- 'narthexlaw20.ModelGone': WHATEVER THE INPUT: true; the input reads as it did. -/
def modelGoneSpec : ChangeSpec := { name := "modelGone", fn := fun _ => fun
  | [d1, d2, d3] => { results := [.lit (.bool true)], args := [d1, d2, d3] }
  | _ => none }
def modelGoneRow : OpenClaim := { program := "ythlodgjekbidcaa", sum := "64ffa333767c0b5a4a798116f43e086115981c94fc61f977a8aaca8c24868640", func := "narthex/narthexlaw20.ModelGone", spec := "modelGone", unfollowed := true, recurses := true, apart := false }
def ModelGoneSaid : Prop := modelGoneRow.holds Try.pinned (OpenSpec.ofChange modelGoneSpec)

/-- ITS FALSE NEIGHBOUR: 'it returns false'. Refute it at one input. -/
def modelGoneWrong : ChangeSpec := { name := "modelGone", fn := fun _ => fun
  | [d1, d2, d3] => { results := [.lit (.bool false)], args := [d1, d2, d3] }
  | _ => none }
def ModelGoneWrongFalsely : Prop := modelGoneRow.holds Try.pinned (OpenSpec.ofChange modelGoneWrong)

/-- 'narthexlaw20.ModelOthers': WHATEVER THE INPUT: true; the input reads as it did. -/
def modelOthersSpec : ChangeSpec := { name := "modelOthers", fn := fun _ => fun
  | [d1, d2] => { results := [.lit (.bool true)], args := [d1, d2] }
  | _ => none }
def modelOthersRow : OpenClaim := { program := "ythlodgjekbidcaa", sum := "64ffa333767c0b5a4a798116f43e086115981c94fc61f977a8aaca8c24868640", func := "narthex/narthexlaw20.ModelOthers", spec := "modelOthers", unfollowed := true, recurses := true, apart := false }
def ModelOthersSaid : Prop := modelOthersRow.holds Try.pinned (OpenSpec.ofChange modelOthersSpec)

/-- ITS FALSE NEIGHBOUR: 'it returns false'. Refute it at one input. -/
def modelOthersWrong : ChangeSpec := { name := "modelOthers", fn := fun _ => fun
  | [d1, d2] => { results := [.lit (.bool false)], args := [d1, d2] }
  | _ => none }
def ModelOthersWrongFalsely : Prop := modelOthersRow.holds Try.pinned (OpenSpec.ofChange modelOthersWrong)

/- THE SECOND FORM. 'bulk': how many values and letters a reading holds, each counted each time it is reached (what is shared counts as often as it is met; a slice's spare places count too). A statement '..UptoSaid' is the law's where the arguments, and the package variables that the reading takes, are together of bulk at most 1048576: NARROWER than '..Said'. Prove '..Said' where nothing that the law and all that it calls make is longer than what came in: it says more and counts as full. Else prove '..UptoSaid'. A law counts once. -/
mutual
def uptoBulk {H : Type} : DataW H → Nat
  | .lit (.string bytes) => bytes.length + 1
  | .lit _ => 1
  | .nil => 1
  | .ptr d => uptoBulk d + 1
  | .slice elems spare => uptoBulkAll elems + uptoBulkAll spare + 1
  | .agg parts => uptoBulkAll parts + 1
  | .iface _ d => uptoBulk d + 1
  | .map entries => uptoBulkEntries entries + 1
  | .held _ => 1
def uptoBulkAll {H : Type} : List (DataW H) → Nat
  | [] => 0
  | d :: r => uptoBulk d + uptoBulkAll r
def uptoBulkEntries {H : Type} : List (Lit × DataW H) → Nat
  | [] => 0
  | x :: r => uptoBulkEntry x + uptoBulkEntries r
def uptoBulkEntry {H : Type} : Lit × DataW H → Nat
  | (.string bytes, d) => bytes.length + uptoBulk d + 1
  | (_, d) => uptoBulk d + 1
 end
def uptoSmall : (H : Type) → List (DataW H) → Bool := fun _ ds => decide (uptoBulkAll ds ≤ 1048576)
def OpenSpec.upto (s : _root_.Go.ChangeSpec) : _root_.Go.OpenSpec := { _root_.Go.OpenSpec.ofChange s with cond := some uptoSmall }

/-- 'narthexlaw20.ModelApart', WHERE WHAT IT READS IS OF BULK AT MOST 1048576: true; the input reads as it did. -/
def modelApartUptoRow : OpenClaim := { program := "ythlodgjekbidcaa", sum := "64ffa333767c0b5a4a798116f43e086115981c94fc61f977a8aaca8c24868640", func := "narthex/narthexlaw20.ModelApart", spec := "modelApart", unfollowed := true, recurses := true, apart := false, narrowed := true }
def ModelApartUptoSaid : Prop := modelApartUptoRow.holds Try.pinned (OpenSpec.upto modelApartSpec)

/-- 'narthexlaw20.ModelGone', WHERE WHAT IT READS IS OF BULK AT MOST 1048576: true; the input reads as it did. -/
def modelGoneUptoRow : OpenClaim := { program := "ythlodgjekbidcaa", sum := "64ffa333767c0b5a4a798116f43e086115981c94fc61f977a8aaca8c24868640", func := "narthex/narthexlaw20.ModelGone", spec := "modelGone", unfollowed := true, recurses := true, apart := false, narrowed := true }
def ModelGoneUptoSaid : Prop := modelGoneUptoRow.holds Try.pinned (OpenSpec.upto modelGoneSpec)

/-- 'narthexlaw20.ModelOthers', WHERE WHAT IT READS IS OF BULK AT MOST 1048576: true; the input reads as it did. -/
def modelOthersUptoRow : OpenClaim := { program := "ythlodgjekbidcaa", sum := "64ffa333767c0b5a4a798116f43e086115981c94fc61f977a8aaca8c24868640", func := "narthex/narthexlaw20.ModelOthers", spec := "modelOthers", unfollowed := true, recurses := true, apart := false, narrowed := true }
def ModelOthersUptoSaid : Prop := modelOthersUptoRow.holds Try.pinned (OpenSpec.upto modelOthersSpec)

end Rows
end Go.Proofs.Ythlodgjekbidcaa
