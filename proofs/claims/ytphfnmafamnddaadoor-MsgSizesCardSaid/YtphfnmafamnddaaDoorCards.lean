/-
  DERIVED. GIVEN WITH THE SEED: THE CARDS: each row of YtphfnmafamnddaaDoorRows.lean that lists a variable, with what it lists TIED to the program's text (the seventh form; the later family's looks); each row that meets fmt, with fmt's text TOLD by the authors' own Lean function (tested against real Go, not proved from fmt's source: count such statements apart). THE CARD IS WHAT COUNTS. Prove the row's statement (the work); the ties are given (YtphfnmafamnddaaDoorTie.lean); close each card by the builder's one call (the guide's Derived/Test/ToyasCard.lean, 'card_holds'). Laid BY PROGRAM, IN A SANDBOX (cutbox-door.mjs). By AI agents, Wed Nov 11 2026. No macro, syntax, notation, axiom, sorry.
-/
import Derived.Test.YtphfnmafamnddaaDoorRows
import GoSem.ClaimSeven
namespace Go.Proofs.YtphfnmafamnddaaDoor
namespace Rows

/-- THE TIED CARD OF 'narthexlaw07.MsgPuts'. -/
def msgPutsCard : Claim7 := { stood := { row := msgPutsRow, standIns := [], harness := (true, "38b116a90192e51bff839d4e09652aeb7f628dda23f40db5194c3d7edf6caccc"), looks := false }, kinds := [], alts := [], laidByText := true, laidKinds := [.data, .data, .data], laidTests := true, laidLooks := .later }
def MsgPutsCardSaid : Prop := Claim7.holds Tryd.pinned (.plain (OpenSpec.ofChange msgPutsSpec)) msgPutsCard

/-- THE TIED CARD OF 'narthexlaw07.MsgGets'. -/
def msgGetsCard : Claim7 := { stood := { row := msgGetsRow, standIns := [], harness := (true, "38b116a90192e51bff839d4e09652aeb7f628dda23f40db5194c3d7edf6caccc"), looks := false }, kinds := [], alts := [], laidByText := true, laidKinds := [.data, .data, .data], laidTests := true, laidLooks := .later }
def MsgGetsCardSaid : Prop := Claim7.holds Tryd.pinned (.plain (OpenSpec.ofChange msgGetsSpec)) msgGetsCard

/-- THE TIED CARD OF 'narthexlaw07.MsgBack'. -/
def msgBackCard : Claim7 := { stood := { row := msgBackRow, standIns := [], harness := (true, "38b116a90192e51bff839d4e09652aeb7f628dda23f40db5194c3d7edf6caccc"), looks := false }, kinds := [], alts := [], laidByText := true, laidKinds := [.data, .data, .data], laidTests := true, laidLooks := .later }
def MsgBackCardSaid : Prop := Claim7.holds Tryd.pinned (.plain (OpenSpec.ofChange msgBackSpec)) msgBackCard

/-- THE TIED CARD OF 'narthexlaw07.MsgApart'. -/
def msgApartCard : Claim7 := { stood := { row := msgApartRow, standIns := [], harness := (true, "38b116a90192e51bff839d4e09652aeb7f628dda23f40db5194c3d7edf6caccc"), looks := false }, kinds := [], alts := [], laidByText := true, laidKinds := [.data, .data, .data], laidTests := true, laidLooks := .later }
def MsgApartCardSaid : Prop := Claim7.holds Tryd.pinned (.plain (OpenSpec.ofChange msgApartSpec)) msgApartCard

/-- THE TIED CARD OF 'narthexlaw07.MsgSizes'. -/
def msgSizesCard : Claim7 := { stood := { row := msgSizesRow, standIns := [], harness := (true, "38b116a90192e51bff839d4e09652aeb7f628dda23f40db5194c3d7edf6caccc"), looks := false }, kinds := [], alts := [], laidByText := true, laidKinds := [.data, .data, .data], laidTests := true, laidLooks := .later }
def MsgSizesCardSaid : Prop := Claim7.holds Tryd.pinned (.plain (OpenSpec.ofChange msgSizesSpec)) msgSizesCard

/-- THE SECOND FORM's CARD OF 'narthexlaw07.MsgPuts'. -/
def msgPutsUptoCard : Claim7 := { stood := { row := msgPutsUptoRow, standIns := [], harness := (true, "38b116a90192e51bff839d4e09652aeb7f628dda23f40db5194c3d7edf6caccc"), looks := false }, kinds := [], alts := [], laidByText := true, laidKinds := [.data, .data, .data], laidTests := true, laidLooks := .later }
def MsgPutsUptoCardSaid : Prop := Claim7.holds Tryd.pinned (.plain (OpenSpec.upto msgPutsSpec)) msgPutsUptoCard

/-- THE SECOND FORM's CARD OF 'narthexlaw07.MsgGets'. -/
def msgGetsUptoCard : Claim7 := { stood := { row := msgGetsUptoRow, standIns := [], harness := (true, "38b116a90192e51bff839d4e09652aeb7f628dda23f40db5194c3d7edf6caccc"), looks := false }, kinds := [], alts := [], laidByText := true, laidKinds := [.data, .data, .data], laidTests := true, laidLooks := .later }
def MsgGetsUptoCardSaid : Prop := Claim7.holds Tryd.pinned (.plain (OpenSpec.upto msgGetsSpec)) msgGetsUptoCard

/-- THE SECOND FORM's CARD OF 'narthexlaw07.MsgBack'. -/
def msgBackUptoCard : Claim7 := { stood := { row := msgBackUptoRow, standIns := [], harness := (true, "38b116a90192e51bff839d4e09652aeb7f628dda23f40db5194c3d7edf6caccc"), looks := false }, kinds := [], alts := [], laidByText := true, laidKinds := [.data, .data, .data], laidTests := true, laidLooks := .later }
def MsgBackUptoCardSaid : Prop := Claim7.holds Tryd.pinned (.plain (OpenSpec.upto msgBackSpec)) msgBackUptoCard

/-- THE SECOND FORM's CARD OF 'narthexlaw07.MsgApart'. -/
def msgApartUptoCard : Claim7 := { stood := { row := msgApartUptoRow, standIns := [], harness := (true, "38b116a90192e51bff839d4e09652aeb7f628dda23f40db5194c3d7edf6caccc"), looks := false }, kinds := [], alts := [], laidByText := true, laidKinds := [.data, .data, .data], laidTests := true, laidLooks := .later }
def MsgApartUptoCardSaid : Prop := Claim7.holds Tryd.pinned (.plain (OpenSpec.upto msgApartSpec)) msgApartUptoCard

/-- THE SECOND FORM's CARD OF 'narthexlaw07.MsgSizes'. -/
def msgSizesUptoCard : Claim7 := { stood := { row := msgSizesUptoRow, standIns := [], harness := (true, "38b116a90192e51bff839d4e09652aeb7f628dda23f40db5194c3d7edf6caccc"), looks := false }, kinds := [], alts := [], laidByText := true, laidKinds := [.data, .data, .data], laidTests := true, laidLooks := .later }
def MsgSizesUptoCardSaid : Prop := Claim7.holds Tryd.pinned (.plain (OpenSpec.upto msgSizesSpec)) msgSizesUptoCard
end Rows
end Go.Proofs.YtphfnmafamnddaaDoor
