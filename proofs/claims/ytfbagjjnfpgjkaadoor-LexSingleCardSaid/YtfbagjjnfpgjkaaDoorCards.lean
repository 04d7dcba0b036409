/-
  DERIVED. GIVEN WITH THE SEED: THE CARDS: each row of YtfbagjjnfpgjkaaDoorRows.lean that lists a variable, with what it lists TIED to the program's text (the seventh form; the later family's looks); each row that meets fmt, with fmt's text TOLD by the authors' own Lean function (tested against real Go, not proved from fmt's source: count such statements apart). THE CARD IS WHAT COUNTS. Prove the row's statement (the work); the ties are given (YtfbagjjnfpgjkaaDoorTie.lean); close each card by the builder's one call (the guide's Derived/Test/ToyasCard.lean, 'card_holds'). Laid BY PROGRAM, IN A SANDBOX (cutbox-door.mjs). By AI agents, Wed Nov 11 2026. No macro, syntax, notation, axiom, sorry.
-/
import Derived.Test.YtfbagjjnfpgjkaaDoorRows
import GoSem.ClaimSeven
namespace Go.Proofs.YtfbagjjnfpgjkaaDoor
namespace Rows

/-- THE TIED CARD OF 'turncocklaw11.LexSingle'. -/
def lexSingleCard : Claim7 := { stood := { row := lexSingleRow, standIns := [], harness := (true, "a779d09bd1e2428867c64ce57b11db8586c5c19e5eecb438dea32ab665134e04"), looks := true }, kinds := [], alts := [], laidByText := true, laidKinds := [.data, .pinned], laidTests := true, laidLooks := .later }
def LexSingleCardSaid : Prop := Claim7.holds Tryd.pinned (.plain (OpenSpec.ofChange lexSingleSpec)) lexSingleCard

/-- THE SECOND FORM's CARD OF 'turncocklaw11.LexSingle'. -/
def lexSingleUptoCard : Claim7 := { stood := { row := lexSingleUptoRow, standIns := [], harness := (true, "a779d09bd1e2428867c64ce57b11db8586c5c19e5eecb438dea32ab665134e04"), looks := true }, kinds := [], alts := [], laidByText := true, laidKinds := [.data, .pinned], laidTests := true, laidLooks := .later }
def LexSingleUptoCardSaid : Prop := Claim7.holds Tryd.pinned (.plain (OpenSpec.upto lexSingleSpec)) lexSingleUptoCard
end Rows
end Go.Proofs.YtfbagjjnfpgjkaaDoor
