/-
  DERIVED. GIVEN WITH THE SEED: THE CARDS: each row of YtbjkpddloieekaaGreatDoorRows.lean that lists a variable, with what it lists TIED to the program's text (the seventh form; the later family's looks); each row that meets fmt, with fmt's text TOLD by the authors' own Lean function (tested against real Go, not proved from fmt's source: count such statements apart). THE CARD IS WHAT COUNTS. Prove the row's statement (the work); the ties are given (YtbjkpddloieekaaGreatDoorTie.lean); close each card by the builder's one call (the guide's Derived/Test/ToyasCard.lean, 'card_holds'). Laid BY PROGRAM, IN A SANDBOX (cutbox-door.mjs). By AI agents, Wed Nov 11 2026. No macro, syntax, notation, axiom, sorry.
-/
import Derived.Test.YtbjkpddloieekaaGreatDoorRows
import GoSem.ClaimSeven
namespace Go.Proofs.YtbjkpddloieekaaGreatDoor
namespace Rows

/-- THE TIED CARD OF 'turncocklaw14.FieldTexts'. -/
def fieldTextsCard : Claim7 := { stood := { row := fieldTextsRow, standIns := [], harness := (true, "57e1b310a9993359337233ef9f02a799619dcd07e943fbb5f52db27e705a0fa9"), looks := true }, kinds := [], alts := [], laidByText := true, laidKinds := [.data, .pinned], laidTests := true, laidLooks := .later }
def FieldTextsCardSaid : Prop := Claim7.holds Tryz.pinned (.plain (OpenSpec.ofChange fieldTextsSpec)) fieldTextsCard

/-- THE TIED CARD OF 'turncocklaw13.ShowMade'. -/
def showMadeCard : Claim7 := { stood := { row := showMadeRow, standIns := [], harness := (true, "57e1b310a9993359337233ef9f02a799619dcd07e943fbb5f52db27e705a0fa9"), looks := true }, kinds := [], alts := [], laidByText := true, laidKinds := [.data, .pinned], laidTests := true, laidLooks := .later }
def ShowMadeCardSaid : Prop := Claim7.holds Tryz.pinned (.plain (OpenSpec.ofChange showMadeSpec)) showMadeCard

/-- THE TIED CARD OF 'turncocklaw12.DocShown'. -/
def docShownCard : Claim7 := { stood := { row := docShownRow, standIns := [], harness := (true, "57e1b310a9993359337233ef9f02a799619dcd07e943fbb5f52db27e705a0fa9"), looks := true }, kinds := [], alts := [], laidByText := true, laidKinds := [.data, .pinned], laidTests := true, laidLooks := .later }
def DocShownCardSaid : Prop := Claim7.holds Tryz.pinned (.plain (OpenSpec.ofChange docShownSpec)) docShownCard

/-- THE TIED CARD OF 'turncocklaw19.DumpTells'. -/
def dumpTellsCard : Claim7 := { stood := { row := dumpTellsRow, standIns := [], harness := (true, "57e1b310a9993359337233ef9f02a799619dcd07e943fbb5f52db27e705a0fa9"), looks := true }, kinds := [], alts := [], laidByText := true, laidKinds := [.data, .pinned], laidTests := true, laidLooks := .later }
def DumpTellsCardSaid : Prop := Claim7.holds Tryz.pinned (.plain (OpenSpec.ofChange dumpTellsSpec)) dumpTellsCard

/-- THE SECOND FORM's CARD OF 'turncocklaw14.FieldTexts'. -/
def fieldTextsUptoCard : Claim7 := { stood := { row := fieldTextsUptoRow, standIns := [], harness := (true, "57e1b310a9993359337233ef9f02a799619dcd07e943fbb5f52db27e705a0fa9"), looks := true }, kinds := [], alts := [], laidByText := true, laidKinds := [.data, .pinned], laidTests := true, laidLooks := .later }
def FieldTextsUptoCardSaid : Prop := Claim7.holds Tryz.pinned (.plain (OpenSpec.upto fieldTextsSpec)) fieldTextsUptoCard

/-- THE SECOND FORM's CARD OF 'turncocklaw13.ShowMade'. -/
def showMadeUptoCard : Claim7 := { stood := { row := showMadeUptoRow, standIns := [], harness := (true, "57e1b310a9993359337233ef9f02a799619dcd07e943fbb5f52db27e705a0fa9"), looks := true }, kinds := [], alts := [], laidByText := true, laidKinds := [.data, .pinned], laidTests := true, laidLooks := .later }
def ShowMadeUptoCardSaid : Prop := Claim7.holds Tryz.pinned (.plain (OpenSpec.upto showMadeSpec)) showMadeUptoCard

/-- THE SECOND FORM's CARD OF 'turncocklaw12.DocShown'. -/
def docShownUptoCard : Claim7 := { stood := { row := docShownUptoRow, standIns := [], harness := (true, "57e1b310a9993359337233ef9f02a799619dcd07e943fbb5f52db27e705a0fa9"), looks := true }, kinds := [], alts := [], laidByText := true, laidKinds := [.data, .pinned], laidTests := true, laidLooks := .later }
def DocShownUptoCardSaid : Prop := Claim7.holds Tryz.pinned (.plain (OpenSpec.upto docShownSpec)) docShownUptoCard

/-- THE SECOND FORM's CARD OF 'turncocklaw19.DumpTells'. -/
def dumpTellsUptoCard : Claim7 := { stood := { row := dumpTellsUptoRow, standIns := [], harness := (true, "57e1b310a9993359337233ef9f02a799619dcd07e943fbb5f52db27e705a0fa9"), looks := true }, kinds := [], alts := [], laidByText := true, laidKinds := [.data, .pinned], laidTests := true, laidLooks := .later }
def DumpTellsUptoCardSaid : Prop := Claim7.holds Tryz.pinned (.plain (OpenSpec.upto dumpTellsSpec)) dumpTellsUptoCard
end Rows
end Go.Proofs.YtbjkpddloieekaaGreatDoor
