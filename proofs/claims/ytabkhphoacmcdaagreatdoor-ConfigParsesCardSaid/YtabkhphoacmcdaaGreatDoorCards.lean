/-
  DERIVED. GIVEN WITH THE SEED: THE CARDS: each row of YtabkhphoacmcdaaGreatDoorRows.lean that lists a variable, with what it lists TIED to the program's text (the seventh form; the later family's looks); each row that meets fmt, with fmt's text TOLD by the authors' own Lean function (tested against real Go, not proved from fmt's source: count such statements apart). THE CARD IS WHAT COUNTS. Prove the row's statement (the work); the ties are given (YtabkhphoacmcdaaGreatDoorTie.lean); close each card by the builder's one call (the guide's Derived/Test/ToyasCard.lean, 'card_holds'). Laid BY PROGRAM, IN A SANDBOX (cutbox-door.mjs). By AI agents, Wed Nov 11 2026. No macro, syntax, notation, axiom, sorry.
-/
import Derived.Test.YtabkhphoacmcdaaGreatDoorRows
import GoSem.ClaimSeven
namespace Go.Proofs.YtabkhphoacmcdaaGreatDoor
namespace Rows

/-- THE TIED CARD OF 'turncocklaw17.ConfigParses'. -/
def configParsesCard : Claim7 := { stood := { row := configParsesRow, standIns := [], harness := (true, "c61b158f2341520057692774128471b7c7a277b548e973e80533808263959f4a"), looks := true }, kinds := [], alts := [], laidByText := true, laidKinds := [.data, .pinned], laidTests := true, laidLooks := .later }
def ConfigParsesCardSaid : Prop := Claim7.holds Tryz.pinned (.plain (OpenSpec.ofChange configParsesSpec)) configParsesCard

/-- THE TIED CARD OF 'turncocklaw17.ConfigDocs'. -/
def configDocsCard : Claim7 := { stood := { row := configDocsRow, standIns := [], harness := (true, "c61b158f2341520057692774128471b7c7a277b548e973e80533808263959f4a"), looks := true }, kinds := [], alts := [], laidByText := true, laidKinds := [.data, .pinned], laidTests := true, laidLooks := .later }
def ConfigDocsCardSaid : Prop := Claim7.holds Tryz.pinned (.plain (OpenSpec.ofChange configDocsSpec)) configDocsCard

/-- THE TIED CARD OF 'turncocklaw17.ConfigForms'. -/
def configFormsCard : Claim7 := { stood := { row := configFormsRow, standIns := [], harness := (true, "c61b158f2341520057692774128471b7c7a277b548e973e80533808263959f4a"), looks := true }, kinds := [], alts := [], laidByText := true, laidKinds := [.data, .pinned], laidTests := true, laidLooks := .later }
def ConfigFormsCardSaid : Prop := Claim7.holds Tryz.pinned (.plain (OpenSpec.ofChange configFormsSpec)) configFormsCard

/-- THE TIED CARD OF 'turncocklaw17.ConfigDeep'. -/
def configDeepCard : Claim7 := { stood := { row := configDeepRow, standIns := [], harness := (true, "c61b158f2341520057692774128471b7c7a277b548e973e80533808263959f4a"), looks := true }, kinds := [], alts := [], laidByText := true, laidKinds := [.data, .pinned], laidTests := true, laidLooks := .later }
def ConfigDeepCardSaid : Prop := Claim7.holds Tryz.pinned (.plain (OpenSpec.ofChange configDeepSpec)) configDeepCard

/-- THE TIED CARD OF 'turncocklaw17.ConfigMany'. -/
def configManyCard : Claim7 := { stood := { row := configManyRow, standIns := [], harness := (true, "c61b158f2341520057692774128471b7c7a277b548e973e80533808263959f4a"), looks := true }, kinds := [], alts := [], laidByText := true, laidKinds := [.data, .pinned], laidTests := true, laidLooks := .later }
def ConfigManyCardSaid : Prop := Claim7.holds Tryz.pinned (.plain (OpenSpec.ofChange configManySpec)) configManyCard

/-- THE TIED CARD OF 'turncocklaw17.ConfigChecks'. -/
def configChecksCard : Claim7 := { stood := { row := configChecksRow, standIns := [], harness := (true, "c61b158f2341520057692774128471b7c7a277b548e973e80533808263959f4a"), looks := true }, kinds := [], alts := [], laidByText := true, laidKinds := [.data, .pinned], laidTests := true, laidLooks := .later }
def ConfigChecksCardSaid : Prop := Claim7.holds Tryz.pinned (.plain (OpenSpec.ofChange configChecksSpec)) configChecksCard

/-- THE TIED CARD OF 'turncocklaw17.ConfigMade'. -/
def configMadeCard : Claim7 := { stood := { row := configMadeRow, standIns := [], harness := (true, "c61b158f2341520057692774128471b7c7a277b548e973e80533808263959f4a"), looks := true }, kinds := [], alts := [], laidByText := true, laidKinds := [.data, .pinned], laidTests := true, laidLooks := .later }
def ConfigMadeCardSaid : Prop := Claim7.holds Tryz.pinned (.plain (OpenSpec.ofChange configMadeSpec)) configMadeCard

/-- THE SECOND FORM's CARD OF 'turncocklaw17.ConfigParses'. -/
def configParsesUptoCard : Claim7 := { stood := { row := configParsesUptoRow, standIns := [], harness := (true, "c61b158f2341520057692774128471b7c7a277b548e973e80533808263959f4a"), looks := true }, kinds := [], alts := [], laidByText := true, laidKinds := [.data, .pinned], laidTests := true, laidLooks := .later }
def ConfigParsesUptoCardSaid : Prop := Claim7.holds Tryz.pinned (.plain (OpenSpec.upto configParsesSpec)) configParsesUptoCard

/-- THE SECOND FORM's CARD OF 'turncocklaw17.ConfigDocs'. -/
def configDocsUptoCard : Claim7 := { stood := { row := configDocsUptoRow, standIns := [], harness := (true, "c61b158f2341520057692774128471b7c7a277b548e973e80533808263959f4a"), looks := true }, kinds := [], alts := [], laidByText := true, laidKinds := [.data, .pinned], laidTests := true, laidLooks := .later }
def ConfigDocsUptoCardSaid : Prop := Claim7.holds Tryz.pinned (.plain (OpenSpec.upto configDocsSpec)) configDocsUptoCard

/-- THE SECOND FORM's CARD OF 'turncocklaw17.ConfigForms'. -/
def configFormsUptoCard : Claim7 := { stood := { row := configFormsUptoRow, standIns := [], harness := (true, "c61b158f2341520057692774128471b7c7a277b548e973e80533808263959f4a"), looks := true }, kinds := [], alts := [], laidByText := true, laidKinds := [.data, .pinned], laidTests := true, laidLooks := .later }
def ConfigFormsUptoCardSaid : Prop := Claim7.holds Tryz.pinned (.plain (OpenSpec.upto configFormsSpec)) configFormsUptoCard

/-- THE SECOND FORM's CARD OF 'turncocklaw17.ConfigDeep'. -/
def configDeepUptoCard : Claim7 := { stood := { row := configDeepUptoRow, standIns := [], harness := (true, "c61b158f2341520057692774128471b7c7a277b548e973e80533808263959f4a"), looks := true }, kinds := [], alts := [], laidByText := true, laidKinds := [.data, .pinned], laidTests := true, laidLooks := .later }
def ConfigDeepUptoCardSaid : Prop := Claim7.holds Tryz.pinned (.plain (OpenSpec.upto configDeepSpec)) configDeepUptoCard

/-- THE SECOND FORM's CARD OF 'turncocklaw17.ConfigMany'. -/
def configManyUptoCard : Claim7 := { stood := { row := configManyUptoRow, standIns := [], harness := (true, "c61b158f2341520057692774128471b7c7a277b548e973e80533808263959f4a"), looks := true }, kinds := [], alts := [], laidByText := true, laidKinds := [.data, .pinned], laidTests := true, laidLooks := .later }
def ConfigManyUptoCardSaid : Prop := Claim7.holds Tryz.pinned (.plain (OpenSpec.upto configManySpec)) configManyUptoCard

/-- THE SECOND FORM's CARD OF 'turncocklaw17.ConfigChecks'. -/
def configChecksUptoCard : Claim7 := { stood := { row := configChecksUptoRow, standIns := [], harness := (true, "c61b158f2341520057692774128471b7c7a277b548e973e80533808263959f4a"), looks := true }, kinds := [], alts := [], laidByText := true, laidKinds := [.data, .pinned], laidTests := true, laidLooks := .later }
def ConfigChecksUptoCardSaid : Prop := Claim7.holds Tryz.pinned (.plain (OpenSpec.upto configChecksSpec)) configChecksUptoCard

/-- THE SECOND FORM's CARD OF 'turncocklaw17.ConfigMade'. -/
def configMadeUptoCard : Claim7 := { stood := { row := configMadeUptoRow, standIns := [], harness := (true, "c61b158f2341520057692774128471b7c7a277b548e973e80533808263959f4a"), looks := true }, kinds := [], alts := [], laidByText := true, laidKinds := [.data, .pinned], laidTests := true, laidLooks := .later }
def ConfigMadeUptoCardSaid : Prop := Claim7.holds Tryz.pinned (.plain (OpenSpec.upto configMadeSpec)) configMadeUptoCard
end Rows
end Go.Proofs.YtabkhphoacmcdaaGreatDoor
