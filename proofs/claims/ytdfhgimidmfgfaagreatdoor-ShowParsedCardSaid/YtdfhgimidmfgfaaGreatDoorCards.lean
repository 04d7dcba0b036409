/-
  DERIVED. GIVEN WITH THE SEED: THE CARDS: each row of YtdfhgimidmfgfaaGreatDoorRows.lean that lists a variable, with what it lists TIED to the program's text (the seventh form; the later family's looks); each row that meets fmt, with fmt's text TOLD by the authors' own Lean function (tested against real Go, not proved from fmt's source: count such statements apart). THE CARD IS WHAT COUNTS. Prove the row's statement (the work); the ties are given (YtdfhgimidmfgfaaGreatDoorTie.lean); close each card by the builder's one call (the guide's Derived/Test/ToyasCard.lean, 'card_holds'). Laid BY PROGRAM, IN A SANDBOX (cutbox-door.mjs). By AI agents, Wed Nov 11 2026. No macro, syntax, notation, axiom, sorry.
-/
import Derived.Test.YtdfhgimidmfgfaaGreatDoorRows
import GoSem.ClaimSeven
namespace Go.Proofs.YtdfhgimidmfgfaaGreatDoor
namespace Rows

/-- THE TIED CARD OF 'turncocklaw13.ShowMade'. -/
def showMadeCard : Claim7 := { stood := { row := showMadeRow, standIns := [], harness := (true, "8ff0b22b0140463e1ef15f244f75513c33ffd89a2d0735e6014609e75edaf140"), looks := true }, kinds := [], alts := [], laidByText := true, laidKinds := [.data, .pinned], laidTests := true, laidLooks := .later }
def ShowMadeCardSaid : Prop := Claim7.holds Tryz.pinned (.plain (OpenSpec.ofChange showMadeSpec)) showMadeCard

/-- THE TIED CARD OF 'turncocklaw13.ShowRead'. -/
def showReadCard : Claim7 := { stood := { row := showReadRow, standIns := [], harness := (true, "8ff0b22b0140463e1ef15f244f75513c33ffd89a2d0735e6014609e75edaf140"), looks := true }, kinds := [], alts := [], laidByText := true, laidKinds := [.data, .pinned], laidTests := true, laidLooks := .later }
def ShowReadCardSaid : Prop := Claim7.holds Tryz.pinned (.plain (OpenSpec.ofChange showReadSpec)) showReadCard

/-- THE TIED CARD OF 'turncocklaw13.ShowParsed'. -/
def showParsedCard : Claim7 := { stood := { row := showParsedRow, standIns := [], harness := (true, "8ff0b22b0140463e1ef15f244f75513c33ffd89a2d0735e6014609e75edaf140"), looks := true }, kinds := [], alts := [], laidByText := true, laidKinds := [.data, .pinned], laidTests := true, laidLooks := .later }
def ShowParsedCardSaid : Prop := Claim7.holds Tryz.pinned (.plain (OpenSpec.ofChange showParsedSpec)) showParsedCard

/-- THE SECOND FORM's CARD OF 'turncocklaw13.ShowMade'. -/
def showMadeUptoCard : Claim7 := { stood := { row := showMadeUptoRow, standIns := [], harness := (true, "8ff0b22b0140463e1ef15f244f75513c33ffd89a2d0735e6014609e75edaf140"), looks := true }, kinds := [], alts := [], laidByText := true, laidKinds := [.data, .pinned], laidTests := true, laidLooks := .later }
def ShowMadeUptoCardSaid : Prop := Claim7.holds Tryz.pinned (.plain (OpenSpec.upto showMadeSpec)) showMadeUptoCard

/-- THE SECOND FORM's CARD OF 'turncocklaw13.ShowRead'. -/
def showReadUptoCard : Claim7 := { stood := { row := showReadUptoRow, standIns := [], harness := (true, "8ff0b22b0140463e1ef15f244f75513c33ffd89a2d0735e6014609e75edaf140"), looks := true }, kinds := [], alts := [], laidByText := true, laidKinds := [.data, .pinned], laidTests := true, laidLooks := .later }
def ShowReadUptoCardSaid : Prop := Claim7.holds Tryz.pinned (.plain (OpenSpec.upto showReadSpec)) showReadUptoCard

/-- THE SECOND FORM's CARD OF 'turncocklaw13.ShowParsed'. -/
def showParsedUptoCard : Claim7 := { stood := { row := showParsedUptoRow, standIns := [], harness := (true, "8ff0b22b0140463e1ef15f244f75513c33ffd89a2d0735e6014609e75edaf140"), looks := true }, kinds := [], alts := [], laidByText := true, laidKinds := [.data, .pinned], laidTests := true, laidLooks := .later }
def ShowParsedUptoCardSaid : Prop := Claim7.holds Tryz.pinned (.plain (OpenSpec.upto showParsedSpec)) showParsedUptoCard
end Rows
end Go.Proofs.YtdfhgimidmfgfaaGreatDoor
