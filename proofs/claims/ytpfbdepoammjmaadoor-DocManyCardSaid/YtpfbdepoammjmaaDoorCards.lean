/-
  DERIVED. GIVEN WITH THE SEED: THE CARDS: each row of YtpfbdepoammjmaaDoorRows.lean that lists a variable, with what it lists TIED to the program's text (the seventh form; the later family's looks); each row that meets fmt, with fmt's text TOLD by the authors' own Lean function (tested against real Go, not proved from fmt's source: count such statements apart). THE CARD IS WHAT COUNTS. Prove the row's statement (the work); the ties are given (YtpfbdepoammjmaaDoorTie.lean); close each card by the builder's one call (the guide's Derived/Test/ToyasCard.lean, 'card_holds'). Laid BY PROGRAM, IN A SANDBOX (cutbox-door.mjs). By AI agents, Wed Nov 11 2026. No macro, syntax, notation, axiom, sorry.
-/
import Derived.Test.YtpfbdepoammjmaaDoorRows
import GoSem.ClaimSeven
namespace Go.Proofs.YtpfbdepoammjmaaDoor
namespace Rows

/-- THE TIED CARD OF 'turncocklaw12.DocOf'. -/
def docOfCard : Claim7 := { stood := { row := docOfRow, standIns := [], harness := (true, "e01bf8616d847be485c73ece21dbb6dd4f3cbee608a59a135cfcb8ddf55e8325"), looks := true }, kinds := [], alts := [], laidByText := true, laidKinds := [.data, .pinned], laidTests := true, laidLooks := .later }
def DocOfCardSaid : Prop := Claim7.holds Tryd.pinned (.plain (OpenSpec.ofChange docOfSpec)) docOfCard

/-- THE TIED CARD OF 'turncocklaw12.DocForms'. -/
def docFormsCard : Claim7 := { stood := { row := docFormsRow, standIns := [], harness := (true, "e01bf8616d847be485c73ece21dbb6dd4f3cbee608a59a135cfcb8ddf55e8325"), looks := true }, kinds := [], alts := [], laidByText := true, laidKinds := [.data, .pinned], laidTests := true, laidLooks := .later }
def DocFormsCardSaid : Prop := Claim7.holds Tryd.pinned (.plain (OpenSpec.ofChange docFormsSpec)) docFormsCard

/-- THE TIED CARD OF 'turncocklaw12.DocDeep'. -/
def docDeepCard : Claim7 := { stood := { row := docDeepRow, standIns := [], harness := (true, "e01bf8616d847be485c73ece21dbb6dd4f3cbee608a59a135cfcb8ddf55e8325"), looks := true }, kinds := [], alts := [], laidByText := true, laidKinds := [.data, .pinned], laidTests := true, laidLooks := .later }
def DocDeepCardSaid : Prop := Claim7.holds Tryd.pinned (.plain (OpenSpec.ofChange docDeepSpec)) docDeepCard

/-- THE TIED CARD OF 'turncocklaw12.DocMany'. -/
def docManyCard : Claim7 := { stood := { row := docManyRow, standIns := [], harness := (true, "e01bf8616d847be485c73ece21dbb6dd4f3cbee608a59a135cfcb8ddf55e8325"), looks := true }, kinds := [], alts := [], laidByText := true, laidKinds := [.data, .pinned], laidTests := true, laidLooks := .later }
def DocManyCardSaid : Prop := Claim7.holds Tryd.pinned (.plain (OpenSpec.ofChange docManySpec)) docManyCard

/-- THE SECOND FORM's CARD OF 'turncocklaw12.DocOf'. -/
def docOfUptoCard : Claim7 := { stood := { row := docOfUptoRow, standIns := [], harness := (true, "e01bf8616d847be485c73ece21dbb6dd4f3cbee608a59a135cfcb8ddf55e8325"), looks := true }, kinds := [], alts := [], laidByText := true, laidKinds := [.data, .pinned], laidTests := true, laidLooks := .later }
def DocOfUptoCardSaid : Prop := Claim7.holds Tryd.pinned (.plain (OpenSpec.upto docOfSpec)) docOfUptoCard

/-- THE SECOND FORM's CARD OF 'turncocklaw12.DocForms'. -/
def docFormsUptoCard : Claim7 := { stood := { row := docFormsUptoRow, standIns := [], harness := (true, "e01bf8616d847be485c73ece21dbb6dd4f3cbee608a59a135cfcb8ddf55e8325"), looks := true }, kinds := [], alts := [], laidByText := true, laidKinds := [.data, .pinned], laidTests := true, laidLooks := .later }
def DocFormsUptoCardSaid : Prop := Claim7.holds Tryd.pinned (.plain (OpenSpec.upto docFormsSpec)) docFormsUptoCard

/-- THE SECOND FORM's CARD OF 'turncocklaw12.DocDeep'. -/
def docDeepUptoCard : Claim7 := { stood := { row := docDeepUptoRow, standIns := [], harness := (true, "e01bf8616d847be485c73ece21dbb6dd4f3cbee608a59a135cfcb8ddf55e8325"), looks := true }, kinds := [], alts := [], laidByText := true, laidKinds := [.data, .pinned], laidTests := true, laidLooks := .later }
def DocDeepUptoCardSaid : Prop := Claim7.holds Tryd.pinned (.plain (OpenSpec.upto docDeepSpec)) docDeepUptoCard

/-- THE SECOND FORM's CARD OF 'turncocklaw12.DocMany'. -/
def docManyUptoCard : Claim7 := { stood := { row := docManyUptoRow, standIns := [], harness := (true, "e01bf8616d847be485c73ece21dbb6dd4f3cbee608a59a135cfcb8ddf55e8325"), looks := true }, kinds := [], alts := [], laidByText := true, laidKinds := [.data, .pinned], laidTests := true, laidLooks := .later }
def DocManyUptoCardSaid : Prop := Claim7.holds Tryd.pinned (.plain (OpenSpec.upto docManySpec)) docManyUptoCard
end Rows
end Go.Proofs.YtpfbdepoammjmaaDoor
