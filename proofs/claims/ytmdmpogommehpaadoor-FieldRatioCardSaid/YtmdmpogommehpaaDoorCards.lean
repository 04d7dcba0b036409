/-
  DERIVED. GIVEN WITH THE SEED: THE CARDS: each row of YtmdmpogommehpaaDoorRows.lean that lists a variable, with what it lists TIED to the program's text (the seventh form; the later family's looks); each row that meets fmt, with fmt's text TOLD by the authors' own Lean function (tested against real Go, not proved from fmt's source: count such statements apart). THE CARD IS WHAT COUNTS. Prove the row's statement (the work); the ties are given (YtmdmpogommehpaaDoorTie.lean); close each card by the builder's one call (the guide's Derived/Test/ToyasCard.lean, 'card_holds'). Laid BY PROGRAM, IN A SANDBOX (cutbox-door.mjs). By AI agents, Wed Nov 11 2026. No macro, syntax, notation, axiom, sorry.
-/
import Derived.Test.YtmdmpogommehpaaDoorRows
import GoSem.ClaimSeven
namespace Go.Proofs.YtmdmpogommehpaaDoor
namespace Rows

/-- THE TIED CARD OF 'turncocklaw14.FieldRatio'. -/
def fieldRatioCard : Claim7 := { stood := { row := fieldRatioRow, standIns := [], harness := (true, "8292c24afa34f5b45e1c02ee2f838fec1bc0ef0e3262a561666a2866ecc9893d"), looks := true }, kinds := [], alts := [], laidByText := true, laidKinds := [.data, .pinned], laidTests := true, laidLooks := .later }
def FieldRatioCardSaid : Prop := Claim7.holds Tryd.pinned (.plain (OpenSpec.ofChange fieldRatioSpec)) fieldRatioCard

/-- THE SECOND FORM's CARD OF 'turncocklaw14.FieldRatio'. -/
def fieldRatioUptoCard : Claim7 := { stood := { row := fieldRatioUptoRow, standIns := [], harness := (true, "8292c24afa34f5b45e1c02ee2f838fec1bc0ef0e3262a561666a2866ecc9893d"), looks := true }, kinds := [], alts := [], laidByText := true, laidKinds := [.data, .pinned], laidTests := true, laidLooks := .later }
def FieldRatioUptoCardSaid : Prop := Claim7.holds Tryd.pinned (.plain (OpenSpec.upto fieldRatioSpec)) fieldRatioUptoCard
end Rows
end Go.Proofs.YtmdmpogommehpaaDoor
