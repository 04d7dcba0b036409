/-
  DERIVED. GIVEN WITH THE SEED: THE CARDS: each row of YtpfbdepoammjmaaGreatDoorRows.lean that lists a variable, with what it lists TIED to the program's text (the seventh form; the later family's looks); each row that meets fmt, with fmt's text TOLD by the authors' own Lean function (tested against real Go, not proved from fmt's source: count such statements apart). THE CARD IS WHAT COUNTS. Prove the row's statement (the work); the ties are given (YtpfbdepoammjmaaGreatDoorTie.lean); close each card by the builder's one call (the guide's Derived/Test/ToyasCard.lean, 'card_holds'). Laid BY PROGRAM, IN A SANDBOX (cutbox-door.mjs). By AI agents, Wed Nov 11 2026. No macro, syntax, notation, axiom, sorry.
-/
import Derived.Test.YtpfbdepoammjmaaGreatDoorRows
import GoSem.ClaimSeven
namespace Go.Proofs.YtpfbdepoammjmaaGreatDoor
namespace Rows

/-- THE TIED CARD OF 'turncocklaw12.DocParse'. -/
def docParseCard : Claim7 := { stood := { row := docParseRow, standIns := [], harness := (true, "769cc43a1affd437349ea352aae06e57c62e38067e280b9159d9dc03099caf49"), looks := true }, kinds := [], alts := [], laidByText := true, laidKinds := [.data, .pinned], laidTests := true, laidLooks := .later }
def DocParseCardSaid : Prop := Claim7.holds Tryz.pinned (.plain (OpenSpec.ofChange docParseSpec)) docParseCard

/-- THE TIED CARD OF 'turncocklaw12.DocShown'. -/
def docShownCard : Claim7 := { stood := { row := docShownRow, standIns := [], harness := (true, "769cc43a1affd437349ea352aae06e57c62e38067e280b9159d9dc03099caf49"), looks := true }, kinds := [], alts := [], laidByText := true, laidKinds := [.data, .pinned], laidTests := true, laidLooks := .later }
def DocShownCardSaid : Prop := Claim7.holds Tryz.pinned (.plain (OpenSpec.ofChange docShownSpec)) docShownCard

/-- THE TIED CARD OF 'turncocklaw12.DocShift'. -/
def docShiftCard : Claim7 := { stood := { row := docShiftRow, standIns := [], harness := (true, "769cc43a1affd437349ea352aae06e57c62e38067e280b9159d9dc03099caf49"), looks := true }, kinds := [], alts := [], laidByText := true, laidKinds := [.data, .pinned], laidTests := true, laidLooks := .later }
def DocShiftCardSaid : Prop := Claim7.holds Tryz.pinned (.plain (OpenSpec.ofChange docShiftSpec)) docShiftCard

/-- THE SECOND FORM's CARD OF 'turncocklaw12.DocParse'. -/
def docParseUptoCard : Claim7 := { stood := { row := docParseUptoRow, standIns := [], harness := (true, "769cc43a1affd437349ea352aae06e57c62e38067e280b9159d9dc03099caf49"), looks := true }, kinds := [], alts := [], laidByText := true, laidKinds := [.data, .pinned], laidTests := true, laidLooks := .later }
def DocParseUptoCardSaid : Prop := Claim7.holds Tryz.pinned (.plain (OpenSpec.upto docParseSpec)) docParseUptoCard

/-- THE SECOND FORM's CARD OF 'turncocklaw12.DocShown'. -/
def docShownUptoCard : Claim7 := { stood := { row := docShownUptoRow, standIns := [], harness := (true, "769cc43a1affd437349ea352aae06e57c62e38067e280b9159d9dc03099caf49"), looks := true }, kinds := [], alts := [], laidByText := true, laidKinds := [.data, .pinned], laidTests := true, laidLooks := .later }
def DocShownUptoCardSaid : Prop := Claim7.holds Tryz.pinned (.plain (OpenSpec.upto docShownSpec)) docShownUptoCard

/-- THE SECOND FORM's CARD OF 'turncocklaw12.DocShift'. -/
def docShiftUptoCard : Claim7 := { stood := { row := docShiftUptoRow, standIns := [], harness := (true, "769cc43a1affd437349ea352aae06e57c62e38067e280b9159d9dc03099caf49"), looks := true }, kinds := [], alts := [], laidByText := true, laidKinds := [.data, .pinned], laidTests := true, laidLooks := .later }
def DocShiftUptoCardSaid : Prop := Claim7.holds Tryz.pinned (.plain (OpenSpec.upto docShiftSpec)) docShiftUptoCard
end Rows
end Go.Proofs.YtpfbdepoammjmaaGreatDoor
