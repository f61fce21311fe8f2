/-
  No cell of these rows narrows 'for every input' (looked for: loops, veiled, ifaces, maps, wideKeys, modest, calm, conditions, laid).
  DERIVED. THE GIVEN ROWS OF THIS SEAT. 10 by the template 'for every input the law returns true; each argument reads behind the call as it read before'; 0 by the template 'total and deterministic' (their statements: YtadebhbiglmodaaTotals.lean).
  GIVEN WITH THE SEED: the statements are not yours to turn. If you find one false, say at which input.
  Laid BY PROGRAM, IN A SANDBOX (cutbox-rows.mjs): the forced cells as the released guide's own fill.sh prints them over the translation 16a68cb2319c02f8… (all of the seat's roots in one cut). By AI agents, Wed Nov 11 2026. No macro, syntax, notation, axiom, sorry.
-/
import Derived.Test.YtadebhbiglmodaaChecked
import GoSem.Claim
import GoSem.ClaimJoined
import GoSem.ClaimMapViews
import Derived.JoinedTies
import Derived.KernelRfl
namespace Go.Proofs.Ytadebhbiglmodaa
/- THE CELL 'sum', in the pinned program and in every row, IS THE sha256 OF THE DUMP (.gsa) THAT YtadebhbiglmodaaProg.lean LOADS. Nothing in Lean hashes anything: it is a label: what it is worth is what the hold of that sum in a sandbox is worth. -/
noncomputable def Try.pinned : Pinned := { name := "ytadebhbiglmodaa", sum := "16a68cb2319c02f8b9482051bda2f7a786b7325e9eb1857dbea5e7ffd186b78d", checked := Try.checked }
namespace Rows
def none {H : Type} : Left H := { results := [], args := [] }

/-- 'narthexlaw12.PlaceTables': WHATEVER THE INPUT: true; the input reads as it did. -/
def placeTablesSpec : ChangeSpec := { name := "placeTables", fn := fun _ => fun
  | [d1, d2] => { results := [.lit (.bool true)], args := [d1, d2] }
  | _ => none }
def placeTablesRow : OpenClaim := { program := "ytadebhbiglmodaa", sum := "16a68cb2319c02f8b9482051bda2f7a786b7325e9eb1857dbea5e7ffd186b78d", func := "narthex/narthexlaw12.PlaceTables", spec := "placeTables", unfollowed := true, recurses := true, apart := false }
def PlaceTablesSaid : Prop := placeTablesRow.holds Try.pinned (OpenSpec.ofChange placeTablesSpec)

/-- ITS FALSE NEIGHBOUR: 'it returns false'. Refute it at one input. -/
def placeTablesWrong : ChangeSpec := { name := "placeTables", fn := fun _ => fun
  | [d1, d2] => { results := [.lit (.bool false)], args := [d1, d2] }
  | _ => none }
def PlaceTablesWrongFalsely : Prop := placeTablesRow.holds Try.pinned (OpenSpec.ofChange placeTablesWrong)

/-- 'narthexlaw12.PlaceTells': WHATEVER THE INPUT: true; the input reads as it did. -/
def placeTellsSpec : ChangeSpec := { name := "placeTells", fn := fun _ => fun
  | [d1, d2, d3, d4] => { results := [.lit (.bool true)], args := [d1, d2, d3, d4] }
  | _ => none }
def placeTellsRow : OpenClaim := { program := "ytadebhbiglmodaa", sum := "16a68cb2319c02f8b9482051bda2f7a786b7325e9eb1857dbea5e7ffd186b78d", func := "narthex/narthexlaw12.PlaceTells", spec := "placeTells", unfollowed := true, recurses := true, apart := false }
def PlaceTellsSaid : Prop := placeTellsRow.holds Try.pinned (OpenSpec.ofChange placeTellsSpec)

/-- ITS FALSE NEIGHBOUR: 'it returns false'. Refute it at one input. -/
def placeTellsWrong : ChangeSpec := { name := "placeTells", fn := fun _ => fun
  | [d1, d2, d3, d4] => { results := [.lit (.bool false)], args := [d1, d2, d3, d4] }
  | _ => none }
def PlaceTellsWrongFalsely : Prop := placeTellsRow.holds Try.pinned (OpenSpec.ofChange placeTellsWrong)

/-- 'narthexlaw12.PlaceArcs': WHATEVER THE INPUT: true; the input reads as it did. -/
def placeArcsSpec : ChangeSpec := { name := "placeArcs", fn := fun _ => fun
  | [d] => { results := [.lit (.bool true)], args := [d] }
  | _ => none }
def placeArcsRow : OpenClaim := { program := "ytadebhbiglmodaa", sum := "16a68cb2319c02f8b9482051bda2f7a786b7325e9eb1857dbea5e7ffd186b78d", func := "narthex/narthexlaw12.PlaceArcs", spec := "placeArcs", unfollowed := true, recurses := true, apart := false }
def PlaceArcsSaid : Prop := placeArcsRow.holds Try.pinned (OpenSpec.ofChange placeArcsSpec)

/-- ITS FALSE NEIGHBOUR: 'it returns false'. Refute it at one input. -/
def placeArcsWrong : ChangeSpec := { name := "placeArcs", fn := fun _ => fun
  | [d] => { results := [.lit (.bool false)], args := [d] }
  | _ => none }
def PlaceArcsWrongFalsely : Prop := placeArcsRow.holds Try.pinned (OpenSpec.ofChange placeArcsWrong)

/-- 'narthexlaw12.PlaceOne': WHATEVER THE INPUT: true; the input reads as it did. -/
def placeOneSpec : ChangeSpec := { name := "placeOne", fn := fun _ => fun
  | [d1, d2] => { results := [.lit (.bool true)], args := [d1, d2] }
  | _ => none }
def placeOneRow : OpenClaim := { program := "ytadebhbiglmodaa", sum := "16a68cb2319c02f8b9482051bda2f7a786b7325e9eb1857dbea5e7ffd186b78d", func := "narthex/narthexlaw12.PlaceOne", spec := "placeOne", unfollowed := true, recurses := true, apart := false }
def PlaceOneSaid : Prop := placeOneRow.holds Try.pinned (OpenSpec.ofChange placeOneSpec)

/-- ITS FALSE NEIGHBOUR: 'it returns false'. Refute it at one input. -/
def placeOneWrong : ChangeSpec := { name := "placeOne", fn := fun _ => fun
  | [d1, d2] => { results := [.lit (.bool false)], args := [d1, d2] }
  | _ => none }
def PlaceOneWrongFalsely : Prop := placeOneRow.holds Try.pinned (OpenSpec.ofChange placeOneWrong)

/-- 'narthexlaw12.PlaceOrder': WHATEVER THE INPUT: true; the input reads as it did. -/
def placeOrderSpec : ChangeSpec := { name := "placeOrder", fn := fun _ => fun
  | [d1, d2] => { results := [.lit (.bool true)], args := [d1, d2] }
  | _ => none }
def placeOrderRow : OpenClaim := { program := "ytadebhbiglmodaa", sum := "16a68cb2319c02f8b9482051bda2f7a786b7325e9eb1857dbea5e7ffd186b78d", func := "narthex/narthexlaw12.PlaceOrder", spec := "placeOrder", unfollowed := true, recurses := true, apart := false }
def PlaceOrderSaid : Prop := placeOrderRow.holds Try.pinned (OpenSpec.ofChange placeOrderSpec)

/-- ITS FALSE NEIGHBOUR: 'it returns false'. Refute it at one input. -/
def placeOrderWrong : ChangeSpec := { name := "placeOrder", fn := fun _ => fun
  | [d1, d2] => { results := [.lit (.bool false)], args := [d1, d2] }
  | _ => none }
def PlaceOrderWrongFalsely : Prop := placeOrderRow.holds Try.pinned (OpenSpec.ofChange placeOrderWrong)

/-- 'narthexlaw12.PlaceRound': WHATEVER THE INPUT: true; the input reads as it did. -/
def placeRoundSpec : ChangeSpec := { name := "placeRound", fn := fun _ => fun
  | [d] => { results := [.lit (.bool true)], args := [d] }
  | _ => none }
def placeRoundRow : OpenClaim := { program := "ytadebhbiglmodaa", sum := "16a68cb2319c02f8b9482051bda2f7a786b7325e9eb1857dbea5e7ffd186b78d", func := "narthex/narthexlaw12.PlaceRound", spec := "placeRound", unfollowed := true, recurses := true, apart := false }
def PlaceRoundSaid : Prop := placeRoundRow.holds Try.pinned (OpenSpec.ofChange placeRoundSpec)

/-- ITS FALSE NEIGHBOUR: 'it returns false'. Refute it at one input. -/
def placeRoundWrong : ChangeSpec := { name := "placeRound", fn := fun _ => fun
  | [d] => { results := [.lit (.bool false)], args := [d] }
  | _ => none }
def PlaceRoundWrongFalsely : Prop := placeRoundRow.holds Try.pinned (OpenSpec.ofChange placeRoundWrong)

/-- 'narthexlaw14.TableOne': WHATEVER THE INPUT: true; the input reads as it did. -/
def tableOneSpec : ChangeSpec := { name := "tableOne", fn := fun _ => fun
  | [d1, d2] => { results := [.lit (.bool true)], args := [d1, d2] }
  | _ => none }
def tableOneRow : OpenClaim := { program := "ytadebhbiglmodaa", sum := "16a68cb2319c02f8b9482051bda2f7a786b7325e9eb1857dbea5e7ffd186b78d", func := "narthex/narthexlaw14.TableOne", spec := "tableOne", unfollowed := true, recurses := true, apart := false }
def TableOneSaid : Prop := tableOneRow.holds Try.pinned (OpenSpec.ofChange tableOneSpec)

/-- ITS FALSE NEIGHBOUR: 'it returns false'. Refute it at one input. -/
def tableOneWrong : ChangeSpec := { name := "tableOne", fn := fun _ => fun
  | [d1, d2] => { results := [.lit (.bool false)], args := [d1, d2] }
  | _ => none }
def TableOneWrongFalsely : Prop := tableOneRow.holds Try.pinned (OpenSpec.ofChange tableOneWrong)

/-- 'narthexlaw14.TableApart': WHATEVER THE INPUT: true; the input reads as it did. -/
def tableApartSpec : ChangeSpec := { name := "tableApart", fn := fun _ => fun
  | [d1, d2] => { results := [.lit (.bool true)], args := [d1, d2] }
  | _ => none }
def tableApartRow : OpenClaim := { program := "ytadebhbiglmodaa", sum := "16a68cb2319c02f8b9482051bda2f7a786b7325e9eb1857dbea5e7ffd186b78d", func := "narthex/narthexlaw14.TableApart", spec := "tableApart", unfollowed := true, recurses := true, apart := false }
def TableApartSaid : Prop := tableApartRow.holds Try.pinned (OpenSpec.ofChange tableApartSpec)

/-- ITS FALSE NEIGHBOUR: 'it returns false'. Refute it at one input. -/
def tableApartWrong : ChangeSpec := { name := "tableApart", fn := fun _ => fun
  | [d1, d2] => { results := [.lit (.bool false)], args := [d1, d2] }
  | _ => none }
def TableApartWrongFalsely : Prop := tableApartRow.holds Try.pinned (OpenSpec.ofChange tableApartWrong)

/-- 'narthexlaw14.TableFair': WHATEVER THE INPUT: true; the input reads as it did. -/
def tableFairSpec : ChangeSpec := { name := "tableFair", fn := fun _ => fun
  | [d1, d2] => { results := [.lit (.bool true)], args := [d1, d2] }
  | _ => none }
def tableFairRow : OpenClaim := { program := "ytadebhbiglmodaa", sum := "16a68cb2319c02f8b9482051bda2f7a786b7325e9eb1857dbea5e7ffd186b78d", func := "narthex/narthexlaw14.TableFair", spec := "tableFair", unfollowed := true, recurses := true, apart := false }
def TableFairSaid : Prop := tableFairRow.holds Try.pinned (OpenSpec.ofChange tableFairSpec)

/-- ITS FALSE NEIGHBOUR: 'it returns false'. Refute it at one input. -/
def tableFairWrong : ChangeSpec := { name := "tableFair", fn := fun _ => fun
  | [d1, d2] => { results := [.lit (.bool false)], args := [d1, d2] }
  | _ => none }
def TableFairWrongFalsely : Prop := tableFairRow.holds Try.pinned (OpenSpec.ofChange tableFairWrong)

/-- 'narthexlaw14.TableOthers': WHATEVER THE INPUT: true; the input reads as it did. -/
def tableOthersSpec : ChangeSpec := { name := "tableOthers", fn := fun _ => fun
  | [d1, d2] => { results := [.lit (.bool true)], args := [d1, d2] }
  | _ => none }
def tableOthersRow : OpenClaim := { program := "ytadebhbiglmodaa", sum := "16a68cb2319c02f8b9482051bda2f7a786b7325e9eb1857dbea5e7ffd186b78d", func := "narthex/narthexlaw14.TableOthers", spec := "tableOthers", unfollowed := true, recurses := true, apart := false }
def TableOthersSaid : Prop := tableOthersRow.holds Try.pinned (OpenSpec.ofChange tableOthersSpec)

/-- ITS FALSE NEIGHBOUR: 'it returns false'. Refute it at one input. -/
def tableOthersWrong : ChangeSpec := { name := "tableOthers", fn := fun _ => fun
  | [d1, d2] => { results := [.lit (.bool false)], args := [d1, d2] }
  | _ => none }
def TableOthersWrongFalsely : Prop := tableOthersRow.holds Try.pinned (OpenSpec.ofChange tableOthersWrong)

/- THE SECOND FORM. 'bulk': how many values and letters a reading holds, each counted each time it is reached (what is shared counts as often as it is met; a slice's spare places count too). A statement '..UptoSaid' is the law's where the arguments, and the package variables that the reading takes, are together of bulk at most 1048576: NARROWER than '..Said'. Prove '..Said' where nothing that the law and all that it calls make is longer than what came in: it says more and counts as full. Else prove '..UptoSaid'. A law counts once. -/
mutual
def uptoBulk {H : Type} : DataW H → Nat
  | .lit (.string bytes) => bytes.length + 1
  | .lit _ => 1
  | .nil => 1
  | .ptr d => uptoBulk d + 1
  | .slice elems spare => uptoBulkAll elems + uptoBulkAll spare + 1
  | .agg parts => uptoBulkAll parts + 1
  | .iface _ d => uptoBulk d + 1
  | .map entries => uptoBulkEntries entries + 1
  | .held _ => 1
def uptoBulkAll {H : Type} : List (DataW H) → Nat
  | [] => 0
  | d :: r => uptoBulk d + uptoBulkAll r
def uptoBulkEntries {H : Type} : List (Lit × DataW H) → Nat
  | [] => 0
  | x :: r => uptoBulkEntry x + uptoBulkEntries r
def uptoBulkEntry {H : Type} : Lit × DataW H → Nat
  | (.string bytes, d) => bytes.length + uptoBulk d + 1
  | (_, d) => uptoBulk d + 1
 end
def uptoSmall : (H : Type) → List (DataW H) → Bool := fun _ ds => decide (uptoBulkAll ds ≤ 1048576)
def OpenSpec.upto (s : _root_.Go.ChangeSpec) : _root_.Go.OpenSpec := { _root_.Go.OpenSpec.ofChange s with cond := some uptoSmall }

/-- 'narthexlaw12.PlaceTables', WHERE WHAT IT READS IS OF BULK AT MOST 1048576: true; the input reads as it did. -/
def placeTablesUptoRow : OpenClaim := { program := "ytadebhbiglmodaa", sum := "16a68cb2319c02f8b9482051bda2f7a786b7325e9eb1857dbea5e7ffd186b78d", func := "narthex/narthexlaw12.PlaceTables", spec := "placeTables", unfollowed := true, recurses := true, apart := false, narrowed := true }
def PlaceTablesUptoSaid : Prop := placeTablesUptoRow.holds Try.pinned (OpenSpec.upto placeTablesSpec)

/-- 'narthexlaw12.PlaceTells', WHERE WHAT IT READS IS OF BULK AT MOST 1048576: true; the input reads as it did. -/
def placeTellsUptoRow : OpenClaim := { program := "ytadebhbiglmodaa", sum := "16a68cb2319c02f8b9482051bda2f7a786b7325e9eb1857dbea5e7ffd186b78d", func := "narthex/narthexlaw12.PlaceTells", spec := "placeTells", unfollowed := true, recurses := true, apart := false, narrowed := true }
def PlaceTellsUptoSaid : Prop := placeTellsUptoRow.holds Try.pinned (OpenSpec.upto placeTellsSpec)

/-- 'narthexlaw12.PlaceArcs', WHERE WHAT IT READS IS OF BULK AT MOST 1048576: true; the input reads as it did. -/
def placeArcsUptoRow : OpenClaim := { program := "ytadebhbiglmodaa", sum := "16a68cb2319c02f8b9482051bda2f7a786b7325e9eb1857dbea5e7ffd186b78d", func := "narthex/narthexlaw12.PlaceArcs", spec := "placeArcs", unfollowed := true, recurses := true, apart := false, narrowed := true }
def PlaceArcsUptoSaid : Prop := placeArcsUptoRow.holds Try.pinned (OpenSpec.upto placeArcsSpec)

/-- 'narthexlaw12.PlaceOne', WHERE WHAT IT READS IS OF BULK AT MOST 1048576: true; the input reads as it did. -/
def placeOneUptoRow : OpenClaim := { program := "ytadebhbiglmodaa", sum := "16a68cb2319c02f8b9482051bda2f7a786b7325e9eb1857dbea5e7ffd186b78d", func := "narthex/narthexlaw12.PlaceOne", spec := "placeOne", unfollowed := true, recurses := true, apart := false, narrowed := true }
def PlaceOneUptoSaid : Prop := placeOneUptoRow.holds Try.pinned (OpenSpec.upto placeOneSpec)

/-- 'narthexlaw12.PlaceOrder', WHERE WHAT IT READS IS OF BULK AT MOST 1048576: true; the input reads as it did. -/
def placeOrderUptoRow : OpenClaim := { program := "ytadebhbiglmodaa", sum := "16a68cb2319c02f8b9482051bda2f7a786b7325e9eb1857dbea5e7ffd186b78d", func := "narthex/narthexlaw12.PlaceOrder", spec := "placeOrder", unfollowed := true, recurses := true, apart := false, narrowed := true }
def PlaceOrderUptoSaid : Prop := placeOrderUptoRow.holds Try.pinned (OpenSpec.upto placeOrderSpec)

/-- 'narthexlaw12.PlaceRound', WHERE WHAT IT READS IS OF BULK AT MOST 1048576: true; the input reads as it did. -/
def placeRoundUptoRow : OpenClaim := { program := "ytadebhbiglmodaa", sum := "16a68cb2319c02f8b9482051bda2f7a786b7325e9eb1857dbea5e7ffd186b78d", func := "narthex/narthexlaw12.PlaceRound", spec := "placeRound", unfollowed := true, recurses := true, apart := false, narrowed := true }
def PlaceRoundUptoSaid : Prop := placeRoundUptoRow.holds Try.pinned (OpenSpec.upto placeRoundSpec)

/-- 'narthexlaw14.TableOne', WHERE WHAT IT READS IS OF BULK AT MOST 1048576: true; the input reads as it did. -/
def tableOneUptoRow : OpenClaim := { program := "ytadebhbiglmodaa", sum := "16a68cb2319c02f8b9482051bda2f7a786b7325e9eb1857dbea5e7ffd186b78d", func := "narthex/narthexlaw14.TableOne", spec := "tableOne", unfollowed := true, recurses := true, apart := false, narrowed := true }
def TableOneUptoSaid : Prop := tableOneUptoRow.holds Try.pinned (OpenSpec.upto tableOneSpec)

/-- 'narthexlaw14.TableApart', WHERE WHAT IT READS IS OF BULK AT MOST 1048576: true; the input reads as it did. -/
def tableApartUptoRow : OpenClaim := { program := "ytadebhbiglmodaa", sum := "16a68cb2319c02f8b9482051bda2f7a786b7325e9eb1857dbea5e7ffd186b78d", func := "narthex/narthexlaw14.TableApart", spec := "tableApart", unfollowed := true, recurses := true, apart := false, narrowed := true }
def TableApartUptoSaid : Prop := tableApartUptoRow.holds Try.pinned (OpenSpec.upto tableApartSpec)

/-- 'narthexlaw14.TableFair', WHERE WHAT IT READS IS OF BULK AT MOST 1048576: true; the input reads as it did. -/
def tableFairUptoRow : OpenClaim := { program := "ytadebhbiglmodaa", sum := "16a68cb2319c02f8b9482051bda2f7a786b7325e9eb1857dbea5e7ffd186b78d", func := "narthex/narthexlaw14.TableFair", spec := "tableFair", unfollowed := true, recurses := true, apart := false, narrowed := true }
def TableFairUptoSaid : Prop := tableFairUptoRow.holds Try.pinned (OpenSpec.upto tableFairSpec)

/-- 'narthexlaw14.TableOthers', WHERE WHAT IT READS IS OF BULK AT MOST 1048576: true; the input reads as it did. -/
def tableOthersUptoRow : OpenClaim := { program := "ytadebhbiglmodaa", sum := "16a68cb2319c02f8b9482051bda2f7a786b7325e9eb1857dbea5e7ffd186b78d", func := "narthex/narthexlaw14.TableOthers", spec := "tableOthers", unfollowed := true, recurses := true, apart := false, narrowed := true }
def TableOthersUptoSaid : Prop := tableOthersUptoRow.holds Try.pinned (OpenSpec.upto tableOthersSpec)

end Rows
end Go.Proofs.Ytadebhbiglmodaa
