/-
  DERIVED. GIVEN WITH THE SEED: THE CARDS: each row of YtmdmpogommehpaaGreatDoorRows.lean that lists a variable, with what it lists TIED to the program's text (the seventh form; the later family's looks); each row that meets fmt, with fmt's text TOLD by the authors' own Lean function (tested against real Go, not proved from fmt's source: count such statements apart). THE CARD IS WHAT COUNTS. Prove the row's statement (the work); the ties are given (YtmdmpogommehpaaGreatDoorTie.lean); close each card by the builder's one call (the guide's Derived/Test/ToyasCard.lean, 'card_holds'). Laid BY PROGRAM, IN A SANDBOX (cutbox-door.mjs). By AI agents, Wed Nov 11 2026. No macro, syntax, notation, axiom, sorry.
-/
import Derived.Test.YtmdmpogommehpaaGreatDoorRows
import GoSem.ClaimSeven
namespace Go.Proofs.YtmdmpogommehpaaGreatDoor
namespace Rows

/-- THE TIED CARD OF 'turncocklaw14.FieldMaps'. -/
def fieldMapsCard : Claim7 := { stood := { row := fieldMapsRow, standIns := [], harness := (true, "c079a65d31594d2b65db7df3f6cbeed1290f8fe4eeec48e4d6fae6ffca829938"), looks := true }, kinds := [], alts := [], laidByText := true, laidKinds := [.data, .pinned], laidTests := true, laidLooks := .later }
def FieldMapsCardSaid : Prop := Claim7.holds Tryz.pinned (.plain (OpenSpec.ofChange fieldMapsSpec)) fieldMapsCard

/-- THE TIED CARD OF 'turncocklaw14.FieldReads'. -/
def fieldReadsCard : Claim7 := { stood := { row := fieldReadsRow, standIns := [], harness := (true, "c079a65d31594d2b65db7df3f6cbeed1290f8fe4eeec48e4d6fae6ffca829938"), looks := true }, kinds := [], alts := [], laidByText := true, laidKinds := [.data, .pinned], laidTests := true, laidLooks := .later }
def FieldReadsCardSaid : Prop := Claim7.holds Tryz.pinned (.plain (OpenSpec.ofChange fieldReadsSpec)) fieldReadsCard

/-- THE TIED CARD OF 'turncocklaw14.FieldTexts'. -/
def fieldTextsCard : Claim7 := { stood := { row := fieldTextsRow, standIns := [], harness := (true, "c079a65d31594d2b65db7df3f6cbeed1290f8fe4eeec48e4d6fae6ffca829938"), looks := true }, kinds := [], alts := [], laidByText := true, laidKinds := [.data, .pinned], laidTests := true, laidLooks := .later }
def FieldTextsCardSaid : Prop := Claim7.holds Tryz.pinned (.plain (OpenSpec.ofChange fieldTextsSpec)) fieldTextsCard

/-- THE SECOND FORM's CARD OF 'turncocklaw14.FieldMaps'. -/
def fieldMapsUptoCard : Claim7 := { stood := { row := fieldMapsUptoRow, standIns := [], harness := (true, "c079a65d31594d2b65db7df3f6cbeed1290f8fe4eeec48e4d6fae6ffca829938"), looks := true }, kinds := [], alts := [], laidByText := true, laidKinds := [.data, .pinned], laidTests := true, laidLooks := .later }
def FieldMapsUptoCardSaid : Prop := Claim7.holds Tryz.pinned (.plain (OpenSpec.upto fieldMapsSpec)) fieldMapsUptoCard

/-- THE SECOND FORM's CARD OF 'turncocklaw14.FieldReads'. -/
def fieldReadsUptoCard : Claim7 := { stood := { row := fieldReadsUptoRow, standIns := [], harness := (true, "c079a65d31594d2b65db7df3f6cbeed1290f8fe4eeec48e4d6fae6ffca829938"), looks := true }, kinds := [], alts := [], laidByText := true, laidKinds := [.data, .pinned], laidTests := true, laidLooks := .later }
def FieldReadsUptoCardSaid : Prop := Claim7.holds Tryz.pinned (.plain (OpenSpec.upto fieldReadsSpec)) fieldReadsUptoCard

/-- THE SECOND FORM's CARD OF 'turncocklaw14.FieldTexts'. -/
def fieldTextsUptoCard : Claim7 := { stood := { row := fieldTextsUptoRow, standIns := [], harness := (true, "c079a65d31594d2b65db7df3f6cbeed1290f8fe4eeec48e4d6fae6ffca829938"), looks := true }, kinds := [], alts := [], laidByText := true, laidKinds := [.data, .pinned], laidTests := true, laidLooks := .later }
def FieldTextsUptoCardSaid : Prop := Claim7.holds Tryz.pinned (.plain (OpenSpec.upto fieldTextsSpec)) fieldTextsUptoCard
end Rows
end Go.Proofs.YtmdmpogommehpaaGreatDoor
