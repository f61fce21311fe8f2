/-
  No cell of these rows narrows 'for every input' (looked for: loops, veiled, ifaces, maps, wideKeys, modest, calm, conditions, laid).
  DERIVED. THE GIVEN ROWS OF THIS SEAT. 6 by the template 'for every input the law returns true; each argument reads behind the call as it read before'; 0 by the template 'total and deterministic' (their statements: YtdjkbodnjhgbcaaGreatTotals.lean).
  GIVEN WITH THE SEED: the statements are not yours to turn. If you find one false, say at which input.
  Laid BY PROGRAM, IN A SANDBOX (cutbox-rows.mjs): the forced cells as the released guide's own fill.sh prints them over the translation a2cfa4c7b812e4e5… (all of the seat's roots in one cut). By AI agents, Wed Nov 11 2026. No macro, syntax, notation, axiom, sorry.
-/
import Derived.Test.YtdjkbodnjhgbcaaGreatChecked
import GoSem.Claim
import GoSem.ClaimJoined
import GoSem.ClaimMapViews
import Derived.JoinedTies
import Derived.KernelRfl
namespace Go.Proofs.YtdjkbodnjhgbcaaGreat
/- THE CELL 'sum', in the pinned program and in every row, IS THE sha256 OF THE DUMP (.gsa) THAT YtdjkbodnjhgbcaaGreatProg.lean LOADS. Nothing in Lean hashes anything: it is a label: what it is worth is what the hold of that sum in a sandbox is worth. -/
noncomputable def Tryz.pinned : Pinned := { name := "ytdjkbodnjhgbcaagreat", sum := "a2cfa4c7b812e4e542d3b633a72a8a482025b9bb326fb55e841f8d6c04034b7c", checked := Tryz.checked }
namespace Rows
def none {H : Type} : Left H := { results := [], args := [] }

/-- 'narthexlaw18.NodeStill': WHATEVER THE INPUT: true; the input reads as it did. -/
def nodeStillSpec : ChangeSpec := { name := "nodeStill", fn := fun _ => fun
  | [d1, d2, d3, d4] => { results := [.lit (.bool true)], args := [d1, d2, d3, d4] }
  | _ => none }
def nodeStillRow : OpenClaim := { program := "ytdjkbodnjhgbcaagreat", sum := "a2cfa4c7b812e4e542d3b633a72a8a482025b9bb326fb55e841f8d6c04034b7c", func := "narthex/narthexlaw18.NodeStill", spec := "nodeStill", inPlace := ["slices.overlaps[narthex/api.Side]", "slices.overlaps[narthex/api.Known]"], unfollowed := true, recurses := true, apart := false }
def NodeStillSaid : Prop := nodeStillRow.holds Tryz.pinned (OpenSpec.ofChange nodeStillSpec)

/-- ITS FALSE NEIGHBOUR: 'it returns false'. Refute it at one input. -/
def nodeStillWrong : ChangeSpec := { name := "nodeStill", fn := fun _ => fun
  | [d1, d2, d3, d4] => { results := [.lit (.bool false)], args := [d1, d2, d3, d4] }
  | _ => none }
def NodeStillWrongFalsely : Prop := nodeStillRow.holds Tryz.pinned (OpenSpec.ofChange nodeStillWrong)

/-- 'narthexlaw18.NodeGrants': WHATEVER THE INPUT: true; the input reads as it did. -/
def nodeGrantsSpec : ChangeSpec := { name := "nodeGrants", fn := fun _ => fun
  | [d1, d2, d3, d4] => { results := [.lit (.bool true)], args := [d1, d2, d3, d4] }
  | _ => none }
def nodeGrantsRow : OpenClaim := { program := "ytdjkbodnjhgbcaagreat", sum := "a2cfa4c7b812e4e542d3b633a72a8a482025b9bb326fb55e841f8d6c04034b7c", func := "narthex/narthexlaw18.NodeGrants", spec := "nodeGrants", inPlace := ["slices.overlaps[narthex/api.Side]", "slices.overlaps[narthex/api.Known]"], unfollowed := true, recurses := true, apart := false }
def NodeGrantsSaid : Prop := nodeGrantsRow.holds Tryz.pinned (OpenSpec.ofChange nodeGrantsSpec)

/-- ITS FALSE NEIGHBOUR: 'it returns false'. Refute it at one input. -/
def nodeGrantsWrong : ChangeSpec := { name := "nodeGrants", fn := fun _ => fun
  | [d1, d2, d3, d4] => { results := [.lit (.bool false)], args := [d1, d2, d3, d4] }
  | _ => none }
def NodeGrantsWrongFalsely : Prop := nodeGrantsRow.holds Tryz.pinned (OpenSpec.ofChange nodeGrantsWrong)

/-- 'narthexlaw18.NodeShuts': WHATEVER THE INPUT: true; the input reads as it did. -/
def nodeShutsSpec : ChangeSpec := { name := "nodeShuts", fn := fun _ => fun
  | [d1, d2] => { results := [.lit (.bool true)], args := [d1, d2] }
  | _ => none }
def nodeShutsRow : OpenClaim := { program := "ytdjkbodnjhgbcaagreat", sum := "a2cfa4c7b812e4e542d3b633a72a8a482025b9bb326fb55e841f8d6c04034b7c", func := "narthex/narthexlaw18.NodeShuts", spec := "nodeShuts", inPlace := ["slices.overlaps[narthex/api.Side]", "slices.overlaps[narthex/api.Known]"], unfollowed := true, recurses := true, apart := false }
def NodeShutsSaid : Prop := nodeShutsRow.holds Tryz.pinned (OpenSpec.ofChange nodeShutsSpec)

/-- ITS FALSE NEIGHBOUR: 'it returns false'. Refute it at one input. -/
def nodeShutsWrong : ChangeSpec := { name := "nodeShuts", fn := fun _ => fun
  | [d1, d2] => { results := [.lit (.bool false)], args := [d1, d2] }
  | _ => none }
def NodeShutsWrongFalsely : Prop := nodeShutsRow.holds Tryz.pinned (OpenSpec.ofChange nodeShutsWrong)

/-- 'narthexlaw18.NodeOld': WHATEVER THE INPUT: true; the input reads as it did. -/
def nodeOldSpec : ChangeSpec := { name := "nodeOld", fn := fun _ => fun
  | [d1, d2, d3] => { results := [.lit (.bool true)], args := [d1, d2, d3] }
  | _ => none }
def nodeOldRow : OpenClaim := { program := "ytdjkbodnjhgbcaagreat", sum := "a2cfa4c7b812e4e542d3b633a72a8a482025b9bb326fb55e841f8d6c04034b7c", func := "narthex/narthexlaw18.NodeOld", spec := "nodeOld", inPlace := ["slices.overlaps[narthex/api.Side]", "slices.overlaps[narthex/api.Known]"], unfollowed := true, recurses := true, apart := false }
def NodeOldSaid : Prop := nodeOldRow.holds Tryz.pinned (OpenSpec.ofChange nodeOldSpec)

/-- ITS FALSE NEIGHBOUR: 'it returns false'. Refute it at one input. -/
def nodeOldWrong : ChangeSpec := { name := "nodeOld", fn := fun _ => fun
  | [d1, d2, d3] => { results := [.lit (.bool false)], args := [d1, d2, d3] }
  | _ => none }
def NodeOldWrongFalsely : Prop := nodeOldRow.holds Tryz.pinned (OpenSpec.ofChange nodeOldWrong)

/-- 'narthexlaw18.NodeSays': WHATEVER THE INPUT: true; the input reads as it did. -/
def nodeSaysSpec : ChangeSpec := { name := "nodeSays", fn := fun _ => fun
  | [d1, d2, d3, d4] => { results := [.lit (.bool true)], args := [d1, d2, d3, d4] }
  | _ => none }
def nodeSaysRow : OpenClaim := { program := "ytdjkbodnjhgbcaagreat", sum := "a2cfa4c7b812e4e542d3b633a72a8a482025b9bb326fb55e841f8d6c04034b7c", func := "narthex/narthexlaw18.NodeSays", spec := "nodeSays", inPlace := ["slices.overlaps[narthex/api.Side]", "slices.overlaps[narthex/api.Known]"], unfollowed := true, recurses := true, apart := false }
def NodeSaysSaid : Prop := nodeSaysRow.holds Tryz.pinned (OpenSpec.ofChange nodeSaysSpec)

/-- ITS FALSE NEIGHBOUR: 'it returns false'. Refute it at one input. -/
def nodeSaysWrong : ChangeSpec := { name := "nodeSays", fn := fun _ => fun
  | [d1, d2, d3, d4] => { results := [.lit (.bool false)], args := [d1, d2, d3, d4] }
  | _ => none }
def NodeSaysWrongFalsely : Prop := nodeSaysRow.holds Tryz.pinned (OpenSpec.ofChange nodeSaysWrong)

/-- 'narthexlaw18.NodeAdds': WHATEVER THE INPUT: true; the input reads as it did. -/
def nodeAddsSpec : ChangeSpec := { name := "nodeAdds", fn := fun _ => fun
  | [d1, d2] => { results := [.lit (.bool true)], args := [d1, d2] }
  | _ => none }
def nodeAddsRow : OpenClaim := { program := "ytdjkbodnjhgbcaagreat", sum := "a2cfa4c7b812e4e542d3b633a72a8a482025b9bb326fb55e841f8d6c04034b7c", func := "narthex/narthexlaw18.NodeAdds", spec := "nodeAdds", inPlace := ["slices.overlaps[narthex/api.Side]", "slices.overlaps[narthex/api.Known]"], unfollowed := true, recurses := true, apart := false }
def NodeAddsSaid : Prop := nodeAddsRow.holds Tryz.pinned (OpenSpec.ofChange nodeAddsSpec)

/-- ITS FALSE NEIGHBOUR: 'it returns false'. Refute it at one input. -/
def nodeAddsWrong : ChangeSpec := { name := "nodeAdds", fn := fun _ => fun
  | [d1, d2] => { results := [.lit (.bool false)], args := [d1, d2] }
  | _ => none }
def NodeAddsWrongFalsely : Prop := nodeAddsRow.holds Tryz.pinned (OpenSpec.ofChange nodeAddsWrong)

/- THE SECOND FORM. 'bulk': how many values and letters a reading holds, each counted each time it is reached (what is shared counts as often as it is met; a slice's spare places count too). A statement '..UptoSaid' is the law's where the arguments, and the package variables that the reading takes, are together of bulk at most 1048576: NARROWER than '..Said'. Prove '..Said' where nothing that the law and all that it calls make is longer than what came in: it says more and counts as full. Else prove '..UptoSaid'. A law counts once. -/
mutual
def uptoBulk {H : Type} : DataW H → Nat
  | .lit (.string bytes) => bytes.length + 1
  | .lit _ => 1
  | .nil => 1
  | .ptr d => uptoBulk d + 1
  | .slice elems spare => uptoBulkAll elems + uptoBulkAll spare + 1
  | .agg parts => uptoBulkAll parts + 1
  | .iface _ d => uptoBulk d + 1
  | .map entries => uptoBulkEntries entries + 1
  | .held _ => 1
def uptoBulkAll {H : Type} : List (DataW H) → Nat
  | [] => 0
  | d :: r => uptoBulk d + uptoBulkAll r
def uptoBulkEntries {H : Type} : List (Lit × DataW H) → Nat
  | [] => 0
  | x :: r => uptoBulkEntry x + uptoBulkEntries r
def uptoBulkEntry {H : Type} : Lit × DataW H → Nat
  | (.string bytes, d) => bytes.length + uptoBulk d + 1
  | (_, d) => uptoBulk d + 1
 end
def uptoSmall : (H : Type) → List (DataW H) → Bool := fun _ ds => decide (uptoBulkAll ds ≤ 1048576)
def OpenSpec.upto (s : _root_.Go.ChangeSpec) : _root_.Go.OpenSpec := { _root_.Go.OpenSpec.ofChange s with cond := some uptoSmall }

/-- 'narthexlaw18.NodeStill', WHERE WHAT IT READS IS OF BULK AT MOST 1048576: true; the input reads as it did. -/
def nodeStillUptoRow : OpenClaim := { program := "ytdjkbodnjhgbcaagreat", sum := "a2cfa4c7b812e4e542d3b633a72a8a482025b9bb326fb55e841f8d6c04034b7c", func := "narthex/narthexlaw18.NodeStill", spec := "nodeStill", inPlace := ["slices.overlaps[narthex/api.Side]", "slices.overlaps[narthex/api.Known]"], unfollowed := true, recurses := true, apart := false, narrowed := true }
def NodeStillUptoSaid : Prop := nodeStillUptoRow.holds Tryz.pinned (OpenSpec.upto nodeStillSpec)

/-- 'narthexlaw18.NodeGrants', WHERE WHAT IT READS IS OF BULK AT MOST 1048576: true; the input reads as it did. -/
def nodeGrantsUptoRow : OpenClaim := { program := "ytdjkbodnjhgbcaagreat", sum := "a2cfa4c7b812e4e542d3b633a72a8a482025b9bb326fb55e841f8d6c04034b7c", func := "narthex/narthexlaw18.NodeGrants", spec := "nodeGrants", inPlace := ["slices.overlaps[narthex/api.Side]", "slices.overlaps[narthex/api.Known]"], unfollowed := true, recurses := true, apart := false, narrowed := true }
def NodeGrantsUptoSaid : Prop := nodeGrantsUptoRow.holds Tryz.pinned (OpenSpec.upto nodeGrantsSpec)

/-- 'narthexlaw18.NodeShuts', WHERE WHAT IT READS IS OF BULK AT MOST 1048576: true; the input reads as it did. -/
def nodeShutsUptoRow : OpenClaim := { program := "ytdjkbodnjhgbcaagreat", sum := "a2cfa4c7b812e4e542d3b633a72a8a482025b9bb326fb55e841f8d6c04034b7c", func := "narthex/narthexlaw18.NodeShuts", spec := "nodeShuts", inPlace := ["slices.overlaps[narthex/api.Side]", "slices.overlaps[narthex/api.Known]"], unfollowed := true, recurses := true, apart := false, narrowed := true }
def NodeShutsUptoSaid : Prop := nodeShutsUptoRow.holds Tryz.pinned (OpenSpec.upto nodeShutsSpec)

/-- 'narthexlaw18.NodeOld', WHERE WHAT IT READS IS OF BULK AT MOST 1048576: true; the input reads as it did. -/
def nodeOldUptoRow : OpenClaim := { program := "ytdjkbodnjhgbcaagreat", sum := "a2cfa4c7b812e4e542d3b633a72a8a482025b9bb326fb55e841f8d6c04034b7c", func := "narthex/narthexlaw18.NodeOld", spec := "nodeOld", inPlace := ["slices.overlaps[narthex/api.Side]", "slices.overlaps[narthex/api.Known]"], unfollowed := true, recurses := true, apart := false, narrowed := true }
def NodeOldUptoSaid : Prop := nodeOldUptoRow.holds Tryz.pinned (OpenSpec.upto nodeOldSpec)

/-- 'narthexlaw18.NodeSays', WHERE WHAT IT READS IS OF BULK AT MOST 1048576: true; the input reads as it did. -/
def nodeSaysUptoRow : OpenClaim := { program := "ytdjkbodnjhgbcaagreat", sum := "a2cfa4c7b812e4e542d3b633a72a8a482025b9bb326fb55e841f8d6c04034b7c", func := "narthex/narthexlaw18.NodeSays", spec := "nodeSays", inPlace := ["slices.overlaps[narthex/api.Side]", "slices.overlaps[narthex/api.Known]"], unfollowed := true, recurses := true, apart := false, narrowed := true }
def NodeSaysUptoSaid : Prop := nodeSaysUptoRow.holds Tryz.pinned (OpenSpec.upto nodeSaysSpec)

/-- 'narthexlaw18.NodeAdds', WHERE WHAT IT READS IS OF BULK AT MOST 1048576: true; the input reads as it did. -/
def nodeAddsUptoRow : OpenClaim := { program := "ytdjkbodnjhgbcaagreat", sum := "a2cfa4c7b812e4e542d3b633a72a8a482025b9bb326fb55e841f8d6c04034b7c", func := "narthex/narthexlaw18.NodeAdds", spec := "nodeAdds", inPlace := ["slices.overlaps[narthex/api.Side]", "slices.overlaps[narthex/api.Known]"], unfollowed := true, recurses := true, apart := false, narrowed := true }
def NodeAddsUptoSaid : Prop := nodeAddsUptoRow.holds Tryz.pinned (OpenSpec.upto nodeAddsSpec)

end Rows
end Go.Proofs.YtdjkbodnjhgbcaaGreat
