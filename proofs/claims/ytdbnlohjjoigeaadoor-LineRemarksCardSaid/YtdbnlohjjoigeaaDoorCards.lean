/-
  DERIVED. GIVEN WITH THE SEED: THE CARDS: each row of YtdbnlohjjoigeaaDoorRows.lean that lists a variable, with what it lists TIED to the program's text (the seventh form; the later family's looks); each row that meets fmt, with fmt's text TOLD by the authors' own Lean function (tested against real Go, not proved from fmt's source: count such statements apart). THE CARD IS WHAT COUNTS. Prove the row's statement (the work); the ties are given (YtdbnlohjjoigeaaDoorTie.lean); close each card by the builder's one call (the guide's Derived/Test/ToyasCard.lean, 'card_holds'). Laid BY PROGRAM, IN A SANDBOX (cutbox-door.mjs). By AI agents, Wed Nov 11 2026. No macro, syntax, notation, axiom, sorry.
-/
import Derived.Test.YtdbnlohjjoigeaaDoorRows
import GoSem.ClaimSeven
namespace Go.Proofs.YtdbnlohjjoigeaaDoor
namespace Rows

/-- THE TIED CARD OF 'turncocklaw10.LineStrip'. -/
def lineStripCard : Claim7 := { stood := { row := lineStripRow, standIns := [], harness := (true, "0932244c124e6fc7e814d405ee82d3b53ff1dcee37c1454ede2257adf2efed17"), looks := false }, kinds := [], alts := [], laidByText := true, laidKinds := [.data, .pinned], laidTests := true, laidLooks := .later }
def LineStripCardSaid : Prop := Claim7.holds Tryd.pinned (.plain (OpenSpec.ofChange lineStripSpec)) lineStripCard

/-- THE TIED CARD OF 'turncocklaw10.LineAgain'. -/
def lineAgainCard : Claim7 := { stood := { row := lineAgainRow, standIns := [], harness := (true, "0932244c124e6fc7e814d405ee82d3b53ff1dcee37c1454ede2257adf2efed17"), looks := false }, kinds := [], alts := [], laidByText := true, laidKinds := [.data, .pinned], laidTests := true, laidLooks := .later }
def LineAgainCardSaid : Prop := Claim7.holds Tryd.pinned (.plain (OpenSpec.ofChange lineAgainSpec)) lineAgainCard

/-- THE TIED CARD OF 'turncocklaw10.LineLines'. -/
def lineLinesCard : Claim7 := { stood := { row := lineLinesRow, standIns := [], harness := (true, "0932244c124e6fc7e814d405ee82d3b53ff1dcee37c1454ede2257adf2efed17"), looks := false }, kinds := [], alts := [], laidByText := true, laidKinds := [.data, .pinned], laidTests := true, laidLooks := .later }
def LineLinesCardSaid : Prop := Claim7.holds Tryd.pinned (.plain (OpenSpec.ofChange lineLinesSpec)) lineLinesCard

/-- THE TIED CARD OF 'turncocklaw10.LineRemarks'. -/
def lineRemarksCard : Claim7 := { stood := { row := lineRemarksRow, standIns := [], harness := (true, "0932244c124e6fc7e814d405ee82d3b53ff1dcee37c1454ede2257adf2efed17"), looks := false }, kinds := [], alts := [], laidByText := true, laidKinds := [.data, .pinned], laidTests := true, laidLooks := .later }
def LineRemarksCardSaid : Prop := Claim7.holds Tryd.pinned (.plain (OpenSpec.ofChange lineRemarksSpec)) lineRemarksCard

/-- THE SECOND FORM's CARD OF 'turncocklaw10.LineStrip'. -/
def lineStripUptoCard : Claim7 := { stood := { row := lineStripUptoRow, standIns := [], harness := (true, "0932244c124e6fc7e814d405ee82d3b53ff1dcee37c1454ede2257adf2efed17"), looks := false }, kinds := [], alts := [], laidByText := true, laidKinds := [.data, .pinned], laidTests := true, laidLooks := .later }
def LineStripUptoCardSaid : Prop := Claim7.holds Tryd.pinned (.plain (OpenSpec.upto lineStripSpec)) lineStripUptoCard

/-- THE SECOND FORM's CARD OF 'turncocklaw10.LineAgain'. -/
def lineAgainUptoCard : Claim7 := { stood := { row := lineAgainUptoRow, standIns := [], harness := (true, "0932244c124e6fc7e814d405ee82d3b53ff1dcee37c1454ede2257adf2efed17"), looks := false }, kinds := [], alts := [], laidByText := true, laidKinds := [.data, .pinned], laidTests := true, laidLooks := .later }
def LineAgainUptoCardSaid : Prop := Claim7.holds Tryd.pinned (.plain (OpenSpec.upto lineAgainSpec)) lineAgainUptoCard

/-- THE SECOND FORM's CARD OF 'turncocklaw10.LineLines'. -/
def lineLinesUptoCard : Claim7 := { stood := { row := lineLinesUptoRow, standIns := [], harness := (true, "0932244c124e6fc7e814d405ee82d3b53ff1dcee37c1454ede2257adf2efed17"), looks := false }, kinds := [], alts := [], laidByText := true, laidKinds := [.data, .pinned], laidTests := true, laidLooks := .later }
def LineLinesUptoCardSaid : Prop := Claim7.holds Tryd.pinned (.plain (OpenSpec.upto lineLinesSpec)) lineLinesUptoCard

/-- THE SECOND FORM's CARD OF 'turncocklaw10.LineRemarks'. -/
def lineRemarksUptoCard : Claim7 := { stood := { row := lineRemarksUptoRow, standIns := [], harness := (true, "0932244c124e6fc7e814d405ee82d3b53ff1dcee37c1454ede2257adf2efed17"), looks := false }, kinds := [], alts := [], laidByText := true, laidKinds := [.data, .pinned], laidTests := true, laidLooks := .later }
def LineRemarksUptoCardSaid : Prop := Claim7.holds Tryd.pinned (.plain (OpenSpec.upto lineRemarksSpec)) lineRemarksUptoCard
end Rows
end Go.Proofs.YtdbnlohjjoigeaaDoor
