/-
  NARROWER THAN 'FOR EVERY INPUT', by the rows' own cells (each row's printed sentence says how): FieldTexts: laid · ShowMade: laid · DocShown: laid · DumpTells: laid.
  DERIVED. THE GIVEN ROWS OF THIS SEAT. 4 by the template 'for every input the law returns true; each argument reads behind the call as it read before'; 0 by the template 'total and deterministic' (their statements: YtbjkpddloieekaaGreatDoorTotals.lean).
  GIVEN WITH THE SEED: the statements are not yours to turn. If you find one false, say at which input.
  Laid BY PROGRAM, IN A SANDBOX (cutbox-rows.mjs): the forced cells as the released guide's own fill.sh prints them over the translation 39dcf2d8e6480df6… (all of the seat's roots in one cut). By AI agents, Wed Nov 11 2026. No macro, syntax, notation, axiom, sorry.
-/
import Derived.Test.YtbjkpddloieekaaGreatDoorChecked
import GoSem.PinnedTables
import GoSem.Claim
import GoSem.ClaimJoined
import GoSem.ClaimMapViews
import Derived.JoinedTies
import Derived.KernelRfl
namespace Go.Proofs.YtbjkpddloieekaaGreatDoor
/- THE CELL 'sum', in the pinned program and in every row, IS THE sha256 OF THE DUMP (.gsa) THAT YtbjkpddloieekaaGreatDoorProg.lean LOADS. Nothing in Lean hashes anything: it is a label: what it is worth is what the hold of that sum in a sandbox is worth. -/
noncomputable def Tryz.pinned : Pinned := { name := "ytbjkpddloieekaagreatdoor", sum := "39dcf2d8e6480df61458a5dde280bcbb70ca3e5717307e133d78c1a72ce0c5cb", checked := Tryz.checked }
namespace Rows
def none {H : Type} : Left H := { results := [], args := [] }

/- WHAT THE LISTED PACKAGE-LEVEL VARIABLES READ AS WHEN THE CALL BEGINS. Each datum BY PROGRAM (the guide's laid-datum.mjs) off the statement by which the dump's own 'gosem.cut.vars' lays the variable. In a bare row this is a premise. The card (YtbjkpddloieekaaGreatDoorCards.lean) ties it to the program's text. -/
def laid_unicode_utf8_acceptRanges {H : Type} : DataW H := .agg [.agg [.lit (.int .u8 128), .lit (.int .u8 191)], .agg [.lit (.int .u8 160), .lit (.int .u8 191)], .agg [.lit (.int .u8 128), .lit (.int .u8 159)], .agg [.lit (.int .u8 144), .lit (.int .u8 191)], .agg [.lit (.int .u8 128), .lit (.int .u8 143)], .agg [.lit (.int .u8 0), .lit (.int .u8 0)], .agg [.lit (.int .u8 0), .lit (.int .u8 0)], .agg [.lit (.int .u8 0), .lit (.int .u8 0)], .agg [.lit (.int .u8 0), .lit (.int .u8 0)], .agg [.lit (.int .u8 0), .lit (.int .u8 0)], .agg [.lit (.int .u8 0), .lit (.int .u8 0)], .agg [.lit (.int .u8 0), .lit (.int .u8 0)], .agg [.lit (.int .u8 0), .lit (.int .u8 0)], .agg [.lit (.int .u8 0), .lit (.int .u8 0)], .agg [.lit (.int .u8 0), .lit (.int .u8 0)], .agg [.lit (.int .u8 0), .lit (.int .u8 0)]]
/-- One of Go's own tables, pinned by name: the form's constant. -/
def laid_unicode_utf8_first : DataW Unit := Go.Pinned.utf8First

/-- 'turncocklaw14.FieldTexts': WHATEVER THE INPUT: true; the input reads as it did. -/
def fieldTextsSpec : ChangeSpec := { name := "fieldTexts", fn := fun _ => fun
  | [d1, d2, d3, d4] => { results := [.lit (.bool true)], args := [d1, d2, d3, d4] }
  | _ => none }
def fieldTextsRow : OpenClaim := { program := "ytbjkpddloieekaagreatdoor", sum := "39dcf2d8e6480df61458a5dde280bcbb70ca3e5717307e133d78c1a72ce0c5cb", func := "turncock/turncocklaw14.FieldTexts", spec := "fieldTexts", inPlace := ["internal/bytealg.IndexByteString", "internal/bytealg.IndexString", "internal/abi.NoEscape", "math.Float64frombits", "math.Float64bits"], unfollowed := true, recurses := true, named := ["unicode/utf8.first", "unicode/utf8.acceptRanges", "internal/bytealg.MaxLen"], apart := false, laid := [("unicode/utf8.acceptRanges", laid_unicode_utf8_acceptRanges), ("unicode/utf8.first", laid_unicode_utf8_first)] }
def FieldTextsSaid : Prop := fieldTextsRow.holds Tryz.pinned (OpenSpec.ofChange fieldTextsSpec)

/-- ITS FALSE NEIGHBOUR: 'it returns false'. Refute it at one input. -/
def fieldTextsWrong : ChangeSpec := { name := "fieldTexts", fn := fun _ => fun
  | [d1, d2, d3, d4] => { results := [.lit (.bool false)], args := [d1, d2, d3, d4] }
  | _ => none }
def FieldTextsWrongFalsely : Prop := fieldTextsRow.holds Tryz.pinned (OpenSpec.ofChange fieldTextsWrong)

/-- 'turncocklaw13.ShowMade': WHATEVER THE INPUT: true; the input reads as it did. -/
def showMadeSpec : ChangeSpec := { name := "showMade", fn := fun _ => fun
  | [d] => { results := [.lit (.bool true)], args := [d] }
  | _ => none }
def showMadeRow : OpenClaim := { program := "ytbjkpddloieekaagreatdoor", sum := "39dcf2d8e6480df61458a5dde280bcbb70ca3e5717307e133d78c1a72ce0c5cb", func := "turncock/turncocklaw13.ShowMade", spec := "showMade", inPlace := ["internal/bytealg.IndexByteString", "internal/bytealg.IndexString", "internal/abi.NoEscape", "internal/bytealg.MakeNoZero", "math.Float64frombits", "math.Float64bits", "math.archFloor", "math.archTrunc"], unfollowed := true, recurses := true, named := ["unicode/utf8.first", "unicode/utf8.acceptRanges", "internal/bytealg.MaxLen"], apart := false, laid := [("unicode/utf8.acceptRanges", laid_unicode_utf8_acceptRanges), ("unicode/utf8.first", laid_unicode_utf8_first)] }
def ShowMadeSaid : Prop := showMadeRow.holds Tryz.pinned (OpenSpec.ofChange showMadeSpec)

/-- ITS FALSE NEIGHBOUR: 'it returns false'. Refute it at one input. -/
def showMadeWrong : ChangeSpec := { name := "showMade", fn := fun _ => fun
  | [d] => { results := [.lit (.bool false)], args := [d] }
  | _ => none }
def ShowMadeWrongFalsely : Prop := showMadeRow.holds Tryz.pinned (OpenSpec.ofChange showMadeWrong)

/-- 'turncocklaw12.DocShown': WHATEVER THE INPUT: true; the input reads as it did. -/
def docShownSpec : ChangeSpec := { name := "docShown", fn := fun _ => fun
  | [d] => { results := [.lit (.bool true)], args := [d] }
  | _ => none }
def docShownRow : OpenClaim := { program := "ytbjkpddloieekaagreatdoor", sum := "39dcf2d8e6480df61458a5dde280bcbb70ca3e5717307e133d78c1a72ce0c5cb", func := "turncock/turncocklaw12.DocShown", spec := "docShown", inPlace := ["internal/bytealg.Count", "internal/bytealg.IndexByte", "internal/bytealg.Index", "internal/bytealg.IndexByteString", "internal/bytealg.IndexString", "internal/abi.NoEscape", "math.Float64frombits", "math.Float64bits", "math.archFloor", "math.archTrunc"], unfollowed := true, recurses := true, named := ["unicode/utf8.first", "unicode/utf8.acceptRanges", "internal/bytealg.MaxLen"], apart := false, laid := [("unicode/utf8.acceptRanges", laid_unicode_utf8_acceptRanges), ("unicode/utf8.first", laid_unicode_utf8_first)] }
def DocShownSaid : Prop := docShownRow.holds Tryz.pinned (OpenSpec.ofChange docShownSpec)

/-- ITS FALSE NEIGHBOUR: 'it returns false'. Refute it at one input. -/
def docShownWrong : ChangeSpec := { name := "docShown", fn := fun _ => fun
  | [d] => { results := [.lit (.bool false)], args := [d] }
  | _ => none }
def DocShownWrongFalsely : Prop := docShownRow.holds Tryz.pinned (OpenSpec.ofChange docShownWrong)

/-- 'turncocklaw19.DumpTells': WHATEVER THE INPUT: true; the input reads as it did. -/
def dumpTellsSpec : ChangeSpec := { name := "dumpTells", fn := fun _ => fun
  | [d] => { results := [.lit (.bool true)], args := [d] }
  | _ => none }
def dumpTellsRow : OpenClaim := { program := "ytbjkpddloieekaagreatdoor", sum := "39dcf2d8e6480df61458a5dde280bcbb70ca3e5717307e133d78c1a72ce0c5cb", func := "turncock/turncocklaw19.DumpTells", spec := "dumpTells", inPlace := ["math.Float64bits", "math.Float64frombits", "internal/abi.NoEscape", "internal/bytealg.MakeNoZero", "internal/bytealg.IndexByteString", "internal/bytealg.IndexString", "math.archFloor", "math.archTrunc"], unfollowed := true, recurses := true, named := ["internal/bytealg.MaxLen", "unicode/utf8.first", "unicode/utf8.acceptRanges"], apart := false, laid := [("unicode/utf8.acceptRanges", laid_unicode_utf8_acceptRanges), ("unicode/utf8.first", laid_unicode_utf8_first)] }
def DumpTellsSaid : Prop := dumpTellsRow.holds Tryz.pinned (OpenSpec.ofChange dumpTellsSpec)

/-- ITS FALSE NEIGHBOUR: 'it returns false'. Refute it at one input. -/
def dumpTellsWrong : ChangeSpec := { name := "dumpTells", fn := fun _ => fun
  | [d] => { results := [.lit (.bool false)], args := [d] }
  | _ => none }
def DumpTellsWrongFalsely : Prop := dumpTellsRow.holds Tryz.pinned (OpenSpec.ofChange dumpTellsWrong)

/- THE SECOND FORM. 'bulk': how many values and letters a reading holds, each counted each time it is reached (what is shared counts as often as it is met; a slice's spare places count too). A statement '..UptoSaid' is the law's where the arguments, and the package variables that the reading takes, are together of bulk at most 1048576: NARROWER than '..Said'. Prove '..Said' where nothing that the law and all that it calls make is longer than what came in: it says more and counts as full. Else prove '..UptoSaid'. A law counts once. -/
mutual
def uptoBulk {H : Type} : DataW H → Nat
  | .lit (.string bytes) => bytes.length + 1
  | .lit _ => 1
  | .nil => 1
  | .ptr d => uptoBulk d + 1
  | .slice elems spare => uptoBulkAll elems + uptoBulkAll spare + 1
  | .agg parts => uptoBulkAll parts + 1
  | .iface _ d => uptoBulk d + 1
  | .map entries => uptoBulkEntries entries + 1
  | .held _ => 1
def uptoBulkAll {H : Type} : List (DataW H) → Nat
  | [] => 0
  | d :: r => uptoBulk d + uptoBulkAll r
def uptoBulkEntries {H : Type} : List (Lit × DataW H) → Nat
  | [] => 0
  | x :: r => uptoBulkEntry x + uptoBulkEntries r
def uptoBulkEntry {H : Type} : Lit × DataW H → Nat
  | (.string bytes, d) => bytes.length + uptoBulk d + 1
  | (_, d) => uptoBulk d + 1
 end
def uptoSmall : (H : Type) → List (DataW H) → Bool := fun _ ds => decide (uptoBulkAll ds ≤ 1048576)
def OpenSpec.upto (s : _root_.Go.ChangeSpec) : _root_.Go.OpenSpec := { _root_.Go.OpenSpec.ofChange s with cond := some uptoSmall }

/-- 'turncocklaw14.FieldTexts', WHERE WHAT IT READS IS OF BULK AT MOST 1048576: true; the input reads as it did. -/
def fieldTextsUptoRow : OpenClaim := { program := "ytbjkpddloieekaagreatdoor", sum := "39dcf2d8e6480df61458a5dde280bcbb70ca3e5717307e133d78c1a72ce0c5cb", func := "turncock/turncocklaw14.FieldTexts", spec := "fieldTexts", inPlace := ["internal/bytealg.IndexByteString", "internal/bytealg.IndexString", "internal/abi.NoEscape", "math.Float64frombits", "math.Float64bits"], unfollowed := true, recurses := true, named := ["unicode/utf8.first", "unicode/utf8.acceptRanges", "internal/bytealg.MaxLen"], apart := false, laid := [("unicode/utf8.acceptRanges", laid_unicode_utf8_acceptRanges), ("unicode/utf8.first", laid_unicode_utf8_first)], narrowed := true }
def FieldTextsUptoSaid : Prop := fieldTextsUptoRow.holds Tryz.pinned (OpenSpec.upto fieldTextsSpec)

/-- 'turncocklaw13.ShowMade', WHERE WHAT IT READS IS OF BULK AT MOST 1048576: true; the input reads as it did. -/
def showMadeUptoRow : OpenClaim := { program := "ytbjkpddloieekaagreatdoor", sum := "39dcf2d8e6480df61458a5dde280bcbb70ca3e5717307e133d78c1a72ce0c5cb", func := "turncock/turncocklaw13.ShowMade", spec := "showMade", inPlace := ["internal/bytealg.IndexByteString", "internal/bytealg.IndexString", "internal/abi.NoEscape", "internal/bytealg.MakeNoZero", "math.Float64frombits", "math.Float64bits", "math.archFloor", "math.archTrunc"], unfollowed := true, recurses := true, named := ["unicode/utf8.first", "unicode/utf8.acceptRanges", "internal/bytealg.MaxLen"], apart := false, laid := [("unicode/utf8.acceptRanges", laid_unicode_utf8_acceptRanges), ("unicode/utf8.first", laid_unicode_utf8_first)], narrowed := true }
def ShowMadeUptoSaid : Prop := showMadeUptoRow.holds Tryz.pinned (OpenSpec.upto showMadeSpec)

/-- 'turncocklaw12.DocShown', WHERE WHAT IT READS IS OF BULK AT MOST 1048576: true; the input reads as it did. -/
def docShownUptoRow : OpenClaim := { program := "ytbjkpddloieekaagreatdoor", sum := "39dcf2d8e6480df61458a5dde280bcbb70ca3e5717307e133d78c1a72ce0c5cb", func := "turncock/turncocklaw12.DocShown", spec := "docShown", inPlace := ["internal/bytealg.Count", "internal/bytealg.IndexByte", "internal/bytealg.Index", "internal/bytealg.IndexByteString", "internal/bytealg.IndexString", "internal/abi.NoEscape", "math.Float64frombits", "math.Float64bits", "math.archFloor", "math.archTrunc"], unfollowed := true, recurses := true, named := ["unicode/utf8.first", "unicode/utf8.acceptRanges", "internal/bytealg.MaxLen"], apart := false, laid := [("unicode/utf8.acceptRanges", laid_unicode_utf8_acceptRanges), ("unicode/utf8.first", laid_unicode_utf8_first)], narrowed := true }
def DocShownUptoSaid : Prop := docShownUptoRow.holds Tryz.pinned (OpenSpec.upto docShownSpec)

/-- 'turncocklaw19.DumpTells', WHERE WHAT IT READS IS OF BULK AT MOST 1048576: true; the input reads as it did. -/
def dumpTellsUptoRow : OpenClaim := { program := "ytbjkpddloieekaagreatdoor", sum := "39dcf2d8e6480df61458a5dde280bcbb70ca3e5717307e133d78c1a72ce0c5cb", func := "turncock/turncocklaw19.DumpTells", spec := "dumpTells", inPlace := ["math.Float64bits", "math.Float64frombits", "internal/abi.NoEscape", "internal/bytealg.MakeNoZero", "internal/bytealg.IndexByteString", "internal/bytealg.IndexString", "math.archFloor", "math.archTrunc"], unfollowed := true, recurses := true, named := ["internal/bytealg.MaxLen", "unicode/utf8.first", "unicode/utf8.acceptRanges"], apart := false, laid := [("unicode/utf8.acceptRanges", laid_unicode_utf8_acceptRanges), ("unicode/utf8.first", laid_unicode_utf8_first)], narrowed := true }
def DumpTellsUptoSaid : Prop := dumpTellsUptoRow.holds Tryz.pinned (OpenSpec.upto dumpTellsSpec)

end Rows
end Go.Proofs.YtbjkpddloieekaaGreatDoor
