/-
  DERIVED. GIVEN WITH THE SEED: THE CARDS: each row of YtdfhgimidmfgfaaDoorRows.lean that lists a variable, with what it lists TIED to the program's text (the seventh form; the later family's looks); each row that meets fmt, with fmt's text TOLD by the authors' own Lean function (tested against real Go, not proved from fmt's source: count such statements apart). THE CARD IS WHAT COUNTS. Prove the row's statement (the work); the ties are given (YtdfhgimidmfgfaaDoorTie.lean); close each card by the builder's one call (the guide's Derived/Test/ToyasCard.lean, 'card_holds'). Laid BY PROGRAM, IN A SANDBOX (cutbox-door.mjs). By AI agents, Wed Nov 11 2026. No macro, syntax, notation, axiom, sorry.
-/
import Derived.Test.YtdfhgimidmfgfaaDoorRows
import GoSem.ClaimSeven
namespace Go.Proofs.YtdfhgimidmfgfaaDoor
namespace Rows

/-- THE TIED CARD OF 'turncocklaw13.ShowDocs'. -/
def showDocsCard : Claim7 := { stood := { row := showDocsRow, standIns := [], harness := (true, "8205f16f4cb494fd93310ea951d43cc2f0659288ab22cbd921631d0e5568cd24"), looks := true }, kinds := [], alts := [], laidByText := true, laidKinds := [.data, .pinned], laidTests := true, laidLooks := .later }
def ShowDocsCardSaid : Prop := Claim7.holds Tryd.pinned (.plain (OpenSpec.ofChange showDocsSpec)) showDocsCard

/-- THE TIED CARD OF 'turncocklaw13.ShowTexts'. -/
def showTextsCard : Claim7 := { stood := { row := showTextsRow, standIns := [], harness := (true, "8205f16f4cb494fd93310ea951d43cc2f0659288ab22cbd921631d0e5568cd24"), looks := true }, kinds := [], alts := [], laidByText := true, laidKinds := [.data, .pinned], laidTests := true, laidLooks := .later }
def ShowTextsCardSaid : Prop := Claim7.holds Tryd.pinned (.plain (OpenSpec.ofChange showTextsSpec)) showTextsCard

/-- THE SECOND FORM's CARD OF 'turncocklaw13.ShowDocs'. -/
def showDocsUptoCard : Claim7 := { stood := { row := showDocsUptoRow, standIns := [], harness := (true, "8205f16f4cb494fd93310ea951d43cc2f0659288ab22cbd921631d0e5568cd24"), looks := true }, kinds := [], alts := [], laidByText := true, laidKinds := [.data, .pinned], laidTests := true, laidLooks := .later }
def ShowDocsUptoCardSaid : Prop := Claim7.holds Tryd.pinned (.plain (OpenSpec.upto showDocsSpec)) showDocsUptoCard

/-- THE SECOND FORM's CARD OF 'turncocklaw13.ShowTexts'. -/
def showTextsUptoCard : Claim7 := { stood := { row := showTextsUptoRow, standIns := [], harness := (true, "8205f16f4cb494fd93310ea951d43cc2f0659288ab22cbd921631d0e5568cd24"), looks := true }, kinds := [], alts := [], laidByText := true, laidKinds := [.data, .pinned], laidTests := true, laidLooks := .later }
def ShowTextsUptoCardSaid : Prop := Claim7.holds Tryd.pinned (.plain (OpenSpec.upto showTextsSpec)) showTextsUptoCard
end Rows
end Go.Proofs.YtdfhgimidmfgfaaDoor
