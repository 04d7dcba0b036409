/-
  NARROWER THAN 'FOR EVERY INPUT', by the rows' own cells (each row's printed sentence says how): ConfigParses: laid · ConfigDocs: laid · ConfigForms: laid · ConfigDeep: laid · ConfigMany: laid · ConfigChecks: laid · ConfigMade: laid.
  DERIVED. THE GIVEN ROWS OF THIS SEAT. 7 by the template 'for every input the law returns true; each argument reads behind the call as it read before'; 0 by the template 'total and deterministic' (their statements: YtabkhphoacmcdaaGreatDoorTotals.lean).
  GIVEN WITH THE SEED: the statements are not yours to turn. If you find one false, say at which input.
  Laid BY PROGRAM, IN A SANDBOX (cutbox-rows.mjs): the forced cells as the released guide's own fill.sh prints them over the translation 667c148afb4e82a1… (all of the seat's roots in one cut). By AI agents, Wed Nov 11 2026. No macro, syntax, notation, axiom, sorry.
-/
import Derived.Test.YtabkhphoacmcdaaGreatDoorChecked
import GoSem.PinnedTables
import GoSem.Claim
import GoSem.ClaimJoined
import GoSem.ClaimMapViews
import Derived.JoinedTies
import Derived.KernelRfl
namespace Go.Proofs.YtabkhphoacmcdaaGreatDoor
/- THE CELL 'sum', in the pinned program and in every row, IS THE sha256 OF THE DUMP (.gsa) THAT YtabkhphoacmcdaaGreatDoorProg.lean LOADS. Nothing in Lean hashes anything: it is a label: what it is worth is what the hold of that sum in a sandbox is worth. -/
noncomputable def Tryz.pinned : Pinned := { name := "ytabkhphoacmcdaagreatdoor", sum := "667c148afb4e82a179501b1b7900a77d9ca4306a86092f5d3b4cd1322153e625", checked := Tryz.checked }
namespace Rows
def none {H : Type} : Left H := { results := [], args := [] }

/- WHAT THE LISTED PACKAGE-LEVEL VARIABLES READ AS WHEN THE CALL BEGINS. Each datum BY PROGRAM (the guide's laid-datum.mjs) off the statement by which the dump's own 'gosem.cut.vars' lays the variable. In a bare row this is a premise. The card (YtabkhphoacmcdaaGreatDoorCards.lean) ties it to the program's text. -/
def laid_unicode_utf8_acceptRanges {H : Type} : DataW H := .agg [.agg [.lit (.int .u8 128), .lit (.int .u8 191)], .agg [.lit (.int .u8 160), .lit (.int .u8 191)], .agg [.lit (.int .u8 128), .lit (.int .u8 159)], .agg [.lit (.int .u8 144), .lit (.int .u8 191)], .agg [.lit (.int .u8 128), .lit (.int .u8 143)], .agg [.lit (.int .u8 0), .lit (.int .u8 0)], .agg [.lit (.int .u8 0), .lit (.int .u8 0)], .agg [.lit (.int .u8 0), .lit (.int .u8 0)], .agg [.lit (.int .u8 0), .lit (.int .u8 0)], .agg [.lit (.int .u8 0), .lit (.int .u8 0)], .agg [.lit (.int .u8 0), .lit (.int .u8 0)], .agg [.lit (.int .u8 0), .lit (.int .u8 0)], .agg [.lit (.int .u8 0), .lit (.int .u8 0)], .agg [.lit (.int .u8 0), .lit (.int .u8 0)], .agg [.lit (.int .u8 0), .lit (.int .u8 0)], .agg [.lit (.int .u8 0), .lit (.int .u8 0)]]
/-- One of Go's own tables, pinned by name: the form's constant. -/
def laid_unicode_utf8_first : DataW Unit := Go.Pinned.utf8First

/-- 'turncocklaw17.ConfigParses': WHATEVER THE INPUT: true; the input reads as it did. -/
def configParsesSpec : ChangeSpec := { name := "configParses", fn := fun _ => fun
  | [d] => { results := [.lit (.bool true)], args := [d] }
  | _ => none }
def configParsesRow : OpenClaim := { program := "ytabkhphoacmcdaagreatdoor", sum := "667c148afb4e82a179501b1b7900a77d9ca4306a86092f5d3b4cd1322153e625", func := "turncock/turncocklaw17.ConfigParses", spec := "configParses", inPlace := ["internal/bytealg.Count", "internal/bytealg.IndexByte", "internal/bytealg.Index", "internal/bytealg.IndexByteString", "internal/bytealg.IndexString", "internal/abi.NoEscape", "math.Float64frombits", "math.Float64bits", "internal/bytealg.MakeNoZero"], unfollowed := true, recurses := true, named := ["unicode/utf8.first", "unicode/utf8.acceptRanges", "internal/bytealg.MaxLen"], apart := false, laid := [("unicode/utf8.acceptRanges", laid_unicode_utf8_acceptRanges), ("unicode/utf8.first", laid_unicode_utf8_first)] }
def ConfigParsesSaid : Prop := configParsesRow.holds Tryz.pinned (OpenSpec.ofChange configParsesSpec)

/-- ITS FALSE NEIGHBOUR: 'it returns false'. Refute it at one input. -/
def configParsesWrong : ChangeSpec := { name := "configParses", fn := fun _ => fun
  | [d] => { results := [.lit (.bool false)], args := [d] }
  | _ => none }
def ConfigParsesWrongFalsely : Prop := configParsesRow.holds Tryz.pinned (OpenSpec.ofChange configParsesWrong)

/-- 'turncocklaw17.ConfigDocs': WHATEVER THE INPUT: true; the input reads as it did. -/
def configDocsSpec : ChangeSpec := { name := "configDocs", fn := fun _ => fun
  | [d] => { results := [.lit (.bool true)], args := [d] }
  | _ => none }
def configDocsRow : OpenClaim := { program := "ytabkhphoacmcdaagreatdoor", sum := "667c148afb4e82a179501b1b7900a77d9ca4306a86092f5d3b4cd1322153e625", func := "turncock/turncocklaw17.ConfigDocs", spec := "configDocs", inPlace := ["internal/bytealg.Count", "internal/bytealg.IndexByte", "internal/bytealg.Index", "internal/bytealg.IndexByteString", "internal/bytealg.IndexString", "internal/abi.NoEscape", "math.Float64frombits", "math.Float64bits", "internal/bytealg.MakeNoZero"], unfollowed := true, recurses := true, named := ["unicode/utf8.first", "unicode/utf8.acceptRanges", "internal/bytealg.MaxLen"], apart := false, laid := [("unicode/utf8.acceptRanges", laid_unicode_utf8_acceptRanges), ("unicode/utf8.first", laid_unicode_utf8_first)] }
def ConfigDocsSaid : Prop := configDocsRow.holds Tryz.pinned (OpenSpec.ofChange configDocsSpec)

/-- ITS FALSE NEIGHBOUR: 'it returns false'. Refute it at one input. -/
def configDocsWrong : ChangeSpec := { name := "configDocs", fn := fun _ => fun
  | [d] => { results := [.lit (.bool false)], args := [d] }
  | _ => none }
def ConfigDocsWrongFalsely : Prop := configDocsRow.holds Tryz.pinned (OpenSpec.ofChange configDocsWrong)

/-- 'turncocklaw17.ConfigForms': WHATEVER THE INPUT: true; the input reads as it did. -/
def configFormsSpec : ChangeSpec := { name := "configForms", fn := fun _ => fun
  | [d] => { results := [.lit (.bool true)], args := [d] }
  | _ => none }
def configFormsRow : OpenClaim := { program := "ytabkhphoacmcdaagreatdoor", sum := "667c148afb4e82a179501b1b7900a77d9ca4306a86092f5d3b4cd1322153e625", func := "turncock/turncocklaw17.ConfigForms", spec := "configForms", inPlace := ["internal/bytealg.Count", "internal/bytealg.IndexByte", "internal/bytealg.Index", "internal/bytealg.IndexByteString", "internal/bytealg.IndexString", "internal/abi.NoEscape", "math.Float64frombits", "math.Float64bits", "internal/bytealg.MakeNoZero"], unfollowed := true, recurses := true, named := ["unicode/utf8.first", "unicode/utf8.acceptRanges", "internal/bytealg.MaxLen"], apart := false, laid := [("unicode/utf8.acceptRanges", laid_unicode_utf8_acceptRanges), ("unicode/utf8.first", laid_unicode_utf8_first)] }
def ConfigFormsSaid : Prop := configFormsRow.holds Tryz.pinned (OpenSpec.ofChange configFormsSpec)

/-- ITS FALSE NEIGHBOUR: 'it returns false'. Refute it at one input. -/
def configFormsWrong : ChangeSpec := { name := "configForms", fn := fun _ => fun
  | [d] => { results := [.lit (.bool false)], args := [d] }
  | _ => none }
def ConfigFormsWrongFalsely : Prop := configFormsRow.holds Tryz.pinned (OpenSpec.ofChange configFormsWrong)

/-- 'turncocklaw17.ConfigDeep': WHATEVER THE INPUT: true; the input reads as it did. -/
def configDeepSpec : ChangeSpec := { name := "configDeep", fn := fun _ => fun
  | [d] => { results := [.lit (.bool true)], args := [d] }
  | _ => none }
def configDeepRow : OpenClaim := { program := "ytabkhphoacmcdaagreatdoor", sum := "667c148afb4e82a179501b1b7900a77d9ca4306a86092f5d3b4cd1322153e625", func := "turncock/turncocklaw17.ConfigDeep", spec := "configDeep", inPlace := ["internal/bytealg.Count", "internal/bytealg.IndexByte", "internal/bytealg.Index", "internal/bytealg.IndexByteString", "internal/bytealg.IndexString", "internal/abi.NoEscape", "math.Float64frombits", "math.Float64bits", "internal/bytealg.MakeNoZero"], unfollowed := true, recurses := true, named := ["unicode/utf8.first", "unicode/utf8.acceptRanges", "internal/bytealg.MaxLen"], apart := false, laid := [("unicode/utf8.acceptRanges", laid_unicode_utf8_acceptRanges), ("unicode/utf8.first", laid_unicode_utf8_first)] }
def ConfigDeepSaid : Prop := configDeepRow.holds Tryz.pinned (OpenSpec.ofChange configDeepSpec)

/-- ITS FALSE NEIGHBOUR: 'it returns false'. Refute it at one input. -/
def configDeepWrong : ChangeSpec := { name := "configDeep", fn := fun _ => fun
  | [d] => { results := [.lit (.bool false)], args := [d] }
  | _ => none }
def ConfigDeepWrongFalsely : Prop := configDeepRow.holds Tryz.pinned (OpenSpec.ofChange configDeepWrong)

/-- 'turncocklaw17.ConfigMany': WHATEVER THE INPUT: true; the input reads as it did. -/
def configManySpec : ChangeSpec := { name := "configMany", fn := fun _ => fun
  | [d1, d2] => { results := [.lit (.bool true)], args := [d1, d2] }
  | _ => none }
def configManyRow : OpenClaim := { program := "ytabkhphoacmcdaagreatdoor", sum := "667c148afb4e82a179501b1b7900a77d9ca4306a86092f5d3b4cd1322153e625", func := "turncock/turncocklaw17.ConfigMany", spec := "configMany", inPlace := ["internal/bytealg.Count", "internal/bytealg.IndexByte", "internal/bytealg.Index", "internal/bytealg.IndexByteString", "internal/bytealg.IndexString", "internal/abi.NoEscape", "math.Float64frombits", "math.Float64bits", "internal/bytealg.MakeNoZero"], unfollowed := true, recurses := true, named := ["unicode/utf8.first", "unicode/utf8.acceptRanges", "internal/bytealg.MaxLen"], apart := false, laid := [("unicode/utf8.acceptRanges", laid_unicode_utf8_acceptRanges), ("unicode/utf8.first", laid_unicode_utf8_first)] }
def ConfigManySaid : Prop := configManyRow.holds Tryz.pinned (OpenSpec.ofChange configManySpec)

/-- ITS FALSE NEIGHBOUR: 'it returns false'. Refute it at one input. -/
def configManyWrong : ChangeSpec := { name := "configMany", fn := fun _ => fun
  | [d1, d2] => { results := [.lit (.bool false)], args := [d1, d2] }
  | _ => none }
def ConfigManyWrongFalsely : Prop := configManyRow.holds Tryz.pinned (OpenSpec.ofChange configManyWrong)

/-- 'turncocklaw17.ConfigChecks': WHATEVER THE INPUT: true; the input reads as it did. -/
def configChecksSpec : ChangeSpec := { name := "configChecks", fn := fun _ => fun
  | [d1, d2] => { results := [.lit (.bool true)], args := [d1, d2] }
  | _ => none }
def configChecksRow : OpenClaim := { program := "ytabkhphoacmcdaagreatdoor", sum := "667c148afb4e82a179501b1b7900a77d9ca4306a86092f5d3b4cd1322153e625", func := "turncock/turncocklaw17.ConfigChecks", spec := "configChecks", inPlace := ["internal/bytealg.Count", "internal/bytealg.IndexByte", "internal/bytealg.Index", "internal/bytealg.IndexByteString", "internal/bytealg.IndexString", "internal/abi.NoEscape", "math.Float64frombits", "math.Float64bits", "internal/bytealg.MakeNoZero", "math.archFloor", "math.archTrunc"], unfollowed := true, recurses := true, named := ["unicode/utf8.first", "unicode/utf8.acceptRanges", "internal/bytealg.MaxLen"], apart := false, laid := [("unicode/utf8.acceptRanges", laid_unicode_utf8_acceptRanges), ("unicode/utf8.first", laid_unicode_utf8_first)] }
def ConfigChecksSaid : Prop := configChecksRow.holds Tryz.pinned (OpenSpec.ofChange configChecksSpec)

/-- ITS FALSE NEIGHBOUR: 'it returns false'. Refute it at one input. -/
def configChecksWrong : ChangeSpec := { name := "configChecks", fn := fun _ => fun
  | [d1, d2] => { results := [.lit (.bool false)], args := [d1, d2] }
  | _ => none }
def ConfigChecksWrongFalsely : Prop := configChecksRow.holds Tryz.pinned (OpenSpec.ofChange configChecksWrong)

/-- 'turncocklaw17.ConfigMade': WHATEVER THE INPUT: true; the input reads as it did. -/
def configMadeSpec : ChangeSpec := { name := "configMade", fn := fun _ => fun
  | [d1, d2, d3, d4] => { results := [.lit (.bool true)], args := [d1, d2, d3, d4] }
  | _ => none }
def configMadeRow : OpenClaim := { program := "ytabkhphoacmcdaagreatdoor", sum := "667c148afb4e82a179501b1b7900a77d9ca4306a86092f5d3b4cd1322153e625", func := "turncock/turncocklaw17.ConfigMade", spec := "configMade", inPlace := ["internal/bytealg.Count", "internal/bytealg.IndexByte", "internal/bytealg.Index", "internal/bytealg.IndexByteString", "internal/bytealg.IndexString", "internal/abi.NoEscape", "math.Float64frombits", "math.Float64bits", "internal/bytealg.MakeNoZero", "math.archFloor", "math.archTrunc"], unfollowed := true, recurses := true, named := ["unicode/utf8.first", "unicode/utf8.acceptRanges", "internal/bytealg.MaxLen"], apart := false, laid := [("unicode/utf8.acceptRanges", laid_unicode_utf8_acceptRanges), ("unicode/utf8.first", laid_unicode_utf8_first)] }
def ConfigMadeSaid : Prop := configMadeRow.holds Tryz.pinned (OpenSpec.ofChange configMadeSpec)

/-- ITS FALSE NEIGHBOUR: 'it returns false'. Refute it at one input. -/
def configMadeWrong : ChangeSpec := { name := "configMade", fn := fun _ => fun
  | [d1, d2, d3, d4] => { results := [.lit (.bool false)], args := [d1, d2, d3, d4] }
  | _ => none }
def ConfigMadeWrongFalsely : Prop := configMadeRow.holds Tryz.pinned (OpenSpec.ofChange configMadeWrong)

/- THE SECOND FORM. 'bulk': how many values and letters a reading holds, each counted each time it is reached (what is shared counts as often as it is met; a slice's spare places count too). A statement '..UptoSaid' is the law's where the arguments, and the package variables that the reading takes, are together of bulk at most 1048576: NARROWER than '..Said'. Prove '..Said' where nothing that the law and all that it calls make is longer than what came in: it says more and counts as full. Else prove '..UptoSaid'. A law counts once. -/
mutual
def uptoBulk {H : Type} : DataW H → Nat
  | .lit (.string bytes) => bytes.length + 1
  | .lit _ => 1
  | .nil => 1
  | .ptr d => uptoBulk d + 1
  | .slice elems spare => uptoBulkAll elems + uptoBulkAll spare + 1
  | .agg parts => uptoBulkAll parts + 1
  | .iface _ d => uptoBulk d + 1
  | .map entries => uptoBulkEntries entries + 1
  | .held _ => 1
def uptoBulkAll {H : Type} : List (DataW H) → Nat
  | [] => 0
  | d :: r => uptoBulk d + uptoBulkAll r
def uptoBulkEntries {H : Type} : List (Lit × DataW H) → Nat
  | [] => 0
  | x :: r => uptoBulkEntry x + uptoBulkEntries r
def uptoBulkEntry {H : Type} : Lit × DataW H → Nat
  | (.string bytes, d) => bytes.length + uptoBulk d + 1
  | (_, d) => uptoBulk d + 1
 end
def uptoSmall : (H : Type) → List (DataW H) → Bool := fun _ ds => decide (uptoBulkAll ds ≤ 1048576)
def OpenSpec.upto (s : _root_.Go.ChangeSpec) : _root_.Go.OpenSpec := { _root_.Go.OpenSpec.ofChange s with cond := some uptoSmall }

/-- 'turncocklaw17.ConfigParses', WHERE WHAT IT READS IS OF BULK AT MOST 1048576: true; the input reads as it did. -/
def configParsesUptoRow : OpenClaim := { program := "ytabkhphoacmcdaagreatdoor", sum := "667c148afb4e82a179501b1b7900a77d9ca4306a86092f5d3b4cd1322153e625", func := "turncock/turncocklaw17.ConfigParses", spec := "configParses", inPlace := ["internal/bytealg.Count", "internal/bytealg.IndexByte", "internal/bytealg.Index", "internal/bytealg.IndexByteString", "internal/bytealg.IndexString", "internal/abi.NoEscape", "math.Float64frombits", "math.Float64bits", "internal/bytealg.MakeNoZero"], unfollowed := true, recurses := true, named := ["unicode/utf8.first", "unicode/utf8.acceptRanges", "internal/bytealg.MaxLen"], apart := false, laid := [("unicode/utf8.acceptRanges", laid_unicode_utf8_acceptRanges), ("unicode/utf8.first", laid_unicode_utf8_first)], narrowed := true }
def ConfigParsesUptoSaid : Prop := configParsesUptoRow.holds Tryz.pinned (OpenSpec.upto configParsesSpec)

/-- 'turncocklaw17.ConfigDocs', WHERE WHAT IT READS IS OF BULK AT MOST 1048576: true; the input reads as it did. -/
def configDocsUptoRow : OpenClaim := { program := "ytabkhphoacmcdaagreatdoor", sum := "667c148afb4e82a179501b1b7900a77d9ca4306a86092f5d3b4cd1322153e625", func := "turncock/turncocklaw17.ConfigDocs", spec := "configDocs", inPlace := ["internal/bytealg.Count", "internal/bytealg.IndexByte", "internal/bytealg.Index", "internal/bytealg.IndexByteString", "internal/bytealg.IndexString", "internal/abi.NoEscape", "math.Float64frombits", "math.Float64bits", "internal/bytealg.MakeNoZero"], unfollowed := true, recurses := true, named := ["unicode/utf8.first", "unicode/utf8.acceptRanges", "internal/bytealg.MaxLen"], apart := false, laid := [("unicode/utf8.acceptRanges", laid_unicode_utf8_acceptRanges), ("unicode/utf8.first", laid_unicode_utf8_first)], narrowed := true }
def ConfigDocsUptoSaid : Prop := configDocsUptoRow.holds Tryz.pinned (OpenSpec.upto configDocsSpec)

/-- 'turncocklaw17.ConfigForms', WHERE WHAT IT READS IS OF BULK AT MOST 1048576: true; the input reads as it did. -/
def configFormsUptoRow : OpenClaim := { program := "ytabkhphoacmcdaagreatdoor", sum := "667c148afb4e82a179501b1b7900a77d9ca4306a86092f5d3b4cd1322153e625", func := "turncock/turncocklaw17.ConfigForms", spec := "configForms", inPlace := ["internal/bytealg.Count", "internal/bytealg.IndexByte", "internal/bytealg.Index", "internal/bytealg.IndexByteString", "internal/bytealg.IndexString", "internal/abi.NoEscape", "math.Float64frombits", "math.Float64bits", "internal/bytealg.MakeNoZero"], unfollowed := true, recurses := true, named := ["unicode/utf8.first", "unicode/utf8.acceptRanges", "internal/bytealg.MaxLen"], apart := false, laid := [("unicode/utf8.acceptRanges", laid_unicode_utf8_acceptRanges), ("unicode/utf8.first", laid_unicode_utf8_first)], narrowed := true }
def ConfigFormsUptoSaid : Prop := configFormsUptoRow.holds Tryz.pinned (OpenSpec.upto configFormsSpec)

/-- 'turncocklaw17.ConfigDeep', WHERE WHAT IT READS IS OF BULK AT MOST 1048576: true; the input reads as it did. -/
def configDeepUptoRow : OpenClaim := { program := "ytabkhphoacmcdaagreatdoor", sum := "667c148afb4e82a179501b1b7900a77d9ca4306a86092f5d3b4cd1322153e625", func := "turncock/turncocklaw17.ConfigDeep", spec := "configDeep", inPlace := ["internal/bytealg.Count", "internal/bytealg.IndexByte", "internal/bytealg.Index", "internal/bytealg.IndexByteString", "internal/bytealg.IndexString", "internal/abi.NoEscape", "math.Float64frombits", "math.Float64bits", "internal/bytealg.MakeNoZero"], unfollowed := true, recurses := true, named := ["unicode/utf8.first", "unicode/utf8.acceptRanges", "internal/bytealg.MaxLen"], apart := false, laid := [("unicode/utf8.acceptRanges", laid_unicode_utf8_acceptRanges), ("unicode/utf8.first", laid_unicode_utf8_first)], narrowed := true }
def ConfigDeepUptoSaid : Prop := configDeepUptoRow.holds Tryz.pinned (OpenSpec.upto configDeepSpec)

/-- 'turncocklaw17.ConfigMany', WHERE WHAT IT READS IS OF BULK AT MOST 1048576: true; the input reads as it did. -/
def configManyUptoRow : OpenClaim := { program := "ytabkhphoacmcdaagreatdoor", sum := "667c148afb4e82a179501b1b7900a77d9ca4306a86092f5d3b4cd1322153e625", func := "turncock/turncocklaw17.ConfigMany", spec := "configMany", inPlace := ["internal/bytealg.Count", "internal/bytealg.IndexByte", "internal/bytealg.Index", "internal/bytealg.IndexByteString", "internal/bytealg.IndexString", "internal/abi.NoEscape", "math.Float64frombits", "math.Float64bits", "internal/bytealg.MakeNoZero"], unfollowed := true, recurses := true, named := ["unicode/utf8.first", "unicode/utf8.acceptRanges", "internal/bytealg.MaxLen"], apart := false, laid := [("unicode/utf8.acceptRanges", laid_unicode_utf8_acceptRanges), ("unicode/utf8.first", laid_unicode_utf8_first)], narrowed := true }
def ConfigManyUptoSaid : Prop := configManyUptoRow.holds Tryz.pinned (OpenSpec.upto configManySpec)

/-- 'turncocklaw17.ConfigChecks', WHERE WHAT IT READS IS OF BULK AT MOST 1048576: true; the input reads as it did. -/
def configChecksUptoRow : OpenClaim := { program := "ytabkhphoacmcdaagreatdoor", sum := "667c148afb4e82a179501b1b7900a77d9ca4306a86092f5d3b4cd1322153e625", func := "turncock/turncocklaw17.ConfigChecks", spec := "configChecks", inPlace := ["internal/bytealg.Count", "internal/bytealg.IndexByte", "internal/bytealg.Index", "internal/bytealg.IndexByteString", "internal/bytealg.IndexString", "internal/abi.NoEscape", "math.Float64frombits", "math.Float64bits", "internal/bytealg.MakeNoZero", "math.archFloor", "math.archTrunc"], unfollowed := true, recurses := true, named := ["unicode/utf8.first", "unicode/utf8.acceptRanges", "internal/bytealg.MaxLen"], apart := false, laid := [("unicode/utf8.acceptRanges", laid_unicode_utf8_acceptRanges), ("unicode/utf8.first", laid_unicode_utf8_first)], narrowed := true }
def ConfigChecksUptoSaid : Prop := configChecksUptoRow.holds Tryz.pinned (OpenSpec.upto configChecksSpec)

/-- 'turncocklaw17.ConfigMade', WHERE WHAT IT READS IS OF BULK AT MOST 1048576: true; the input reads as it did. -/
def configMadeUptoRow : OpenClaim := { program := "ytabkhphoacmcdaagreatdoor", sum := "667c148afb4e82a179501b1b7900a77d9ca4306a86092f5d3b4cd1322153e625", func := "turncock/turncocklaw17.ConfigMade", spec := "configMade", inPlace := ["internal/bytealg.Count", "internal/bytealg.IndexByte", "internal/bytealg.Index", "internal/bytealg.IndexByteString", "internal/bytealg.IndexString", "internal/abi.NoEscape", "math.Float64frombits", "math.Float64bits", "internal/bytealg.MakeNoZero", "math.archFloor", "math.archTrunc"], unfollowed := true, recurses := true, named := ["unicode/utf8.first", "unicode/utf8.acceptRanges", "internal/bytealg.MaxLen"], apart := false, laid := [("unicode/utf8.acceptRanges", laid_unicode_utf8_acceptRanges), ("unicode/utf8.first", laid_unicode_utf8_first)], narrowed := true }
def ConfigMadeUptoSaid : Prop := configMadeUptoRow.holds Tryz.pinned (OpenSpec.upto configMadeSpec)

end Rows
end Go.Proofs.YtabkhphoacmcdaaGreatDoor
