/-
  NARROWER THAN 'FOR EVERY INPUT', by the rows' own cells (each row's printed sentence says how): LineStrip: laid · LineAgain: laid · LineLines: laid · LineRemarks: laid.
  DERIVED. THE GIVEN ROWS OF THIS SEAT. 4 by the template 'for every input the law returns true; each argument reads behind the call as it read before'; 0 by the template 'total and deterministic' (their statements: YtdbnlohjjoigeaaDoorTotals.lean).
  GIVEN WITH THE SEED: the statements are not yours to turn. If you find one false, say at which input.
  Laid BY PROGRAM, IN A SANDBOX (cutbox-rows.mjs): the forced cells as the released guide's own fill.sh prints them over the translation 59da2dbf5066b734… (all of the seat's roots in one cut). By AI agents, Wed Nov 11 2026. No macro, syntax, notation, axiom, sorry.
-/
import Derived.Test.YtdbnlohjjoigeaaDoorChecked
import GoSem.PinnedTables
import GoSem.Claim
import GoSem.ClaimJoined
import GoSem.ClaimMapViews
import Derived.JoinedTies
import Derived.KernelRfl
namespace Go.Proofs.YtdbnlohjjoigeaaDoor
/- THE CELL 'sum', in the pinned program and in every row, IS THE sha256 OF THE DUMP (.gsa) THAT YtdbnlohjjoigeaaDoorProg.lean LOADS. Nothing in Lean hashes anything: it is a label: what it is worth is what the hold of that sum in a sandbox is worth. -/
noncomputable def Tryd.pinned : Pinned := { name := "ytdbnlohjjoigeaadoor", sum := "59da2dbf5066b734781cd4092d622932b9ebb4a0f432c0747446c89a2b096a17", checked := Tryd.checked }
namespace Rows
def none {H : Type} : Left H := { results := [], args := [] }

/- WHAT THE LISTED PACKAGE-LEVEL VARIABLES READ AS WHEN THE CALL BEGINS. Each datum BY PROGRAM (the guide's laid-datum.mjs) off the statement by which the dump's own 'gosem.cut.vars' lays the variable. In a bare row this is a premise. The card (YtdbnlohjjoigeaaDoorCards.lean) ties it to the program's text. -/
def laid_unicode_utf8_acceptRanges {H : Type} : DataW H := .agg [.agg [.lit (.int .u8 128), .lit (.int .u8 191)], .agg [.lit (.int .u8 160), .lit (.int .u8 191)], .agg [.lit (.int .u8 128), .lit (.int .u8 159)], .agg [.lit (.int .u8 144), .lit (.int .u8 191)], .agg [.lit (.int .u8 128), .lit (.int .u8 143)], .agg [.lit (.int .u8 0), .lit (.int .u8 0)], .agg [.lit (.int .u8 0), .lit (.int .u8 0)], .agg [.lit (.int .u8 0), .lit (.int .u8 0)], .agg [.lit (.int .u8 0), .lit (.int .u8 0)], .agg [.lit (.int .u8 0), .lit (.int .u8 0)], .agg [.lit (.int .u8 0), .lit (.int .u8 0)], .agg [.lit (.int .u8 0), .lit (.int .u8 0)], .agg [.lit (.int .u8 0), .lit (.int .u8 0)], .agg [.lit (.int .u8 0), .lit (.int .u8 0)], .agg [.lit (.int .u8 0), .lit (.int .u8 0)], .agg [.lit (.int .u8 0), .lit (.int .u8 0)]]
/-- One of Go's own tables, pinned by name: the form's constant. -/
def laid_unicode_utf8_first : DataW Unit := Go.Pinned.utf8First

/-- 'turncocklaw10.LineStrip': WHATEVER THE INPUT: true; the input reads as it did. -/
def lineStripSpec : ChangeSpec := { name := "lineStrip", fn := fun _ => fun
  | [d] => { results := [.lit (.bool true)], args := [d] }
  | _ => none }
def lineStripRow : OpenClaim := { program := "ytdbnlohjjoigeaadoor", sum := "59da2dbf5066b734781cd4092d622932b9ebb4a0f432c0747446c89a2b096a17", func := "turncock/turncocklaw10.LineStrip", spec := "lineStrip", inPlace := ["internal/bytealg.IndexByteString", "internal/bytealg.IndexString", "internal/bytealg.Count", "internal/bytealg.IndexByte", "internal/bytealg.Index"], unfollowed := true, recurses := true, named := ["unicode/utf8.first", "unicode/utf8.acceptRanges", "internal/bytealg.MaxLen"], apart := false, laid := [("unicode/utf8.acceptRanges", laid_unicode_utf8_acceptRanges), ("unicode/utf8.first", laid_unicode_utf8_first)] }
def LineStripSaid : Prop := lineStripRow.holds Tryd.pinned (OpenSpec.ofChange lineStripSpec)

/-- ITS FALSE NEIGHBOUR: 'it returns false'. Refute it at one input. -/
def lineStripWrong : ChangeSpec := { name := "lineStrip", fn := fun _ => fun
  | [d] => { results := [.lit (.bool false)], args := [d] }
  | _ => none }
def LineStripWrongFalsely : Prop := lineStripRow.holds Tryd.pinned (OpenSpec.ofChange lineStripWrong)

/-- 'turncocklaw10.LineAgain': WHATEVER THE INPUT: true; the input reads as it did. -/
def lineAgainSpec : ChangeSpec := { name := "lineAgain", fn := fun _ => fun
  | [d] => { results := [.lit (.bool true)], args := [d] }
  | _ => none }
def lineAgainRow : OpenClaim := { program := "ytdbnlohjjoigeaadoor", sum := "59da2dbf5066b734781cd4092d622932b9ebb4a0f432c0747446c89a2b096a17", func := "turncock/turncocklaw10.LineAgain", spec := "lineAgain", inPlace := ["internal/bytealg.IndexByteString", "internal/bytealg.IndexString", "internal/bytealg.Count", "internal/bytealg.IndexByte", "internal/bytealg.Index"], unfollowed := true, recurses := true, named := ["unicode/utf8.first", "unicode/utf8.acceptRanges", "internal/bytealg.MaxLen"], apart := false, laid := [("unicode/utf8.acceptRanges", laid_unicode_utf8_acceptRanges), ("unicode/utf8.first", laid_unicode_utf8_first)] }
def LineAgainSaid : Prop := lineAgainRow.holds Tryd.pinned (OpenSpec.ofChange lineAgainSpec)

/-- ITS FALSE NEIGHBOUR: 'it returns false'. Refute it at one input. -/
def lineAgainWrong : ChangeSpec := { name := "lineAgain", fn := fun _ => fun
  | [d] => { results := [.lit (.bool false)], args := [d] }
  | _ => none }
def LineAgainWrongFalsely : Prop := lineAgainRow.holds Tryd.pinned (OpenSpec.ofChange lineAgainWrong)

/-- 'turncocklaw10.LineLines': WHATEVER THE INPUT: true; the input reads as it did. -/
def lineLinesSpec : ChangeSpec := { name := "lineLines", fn := fun _ => fun
  | [d] => { results := [.lit (.bool true)], args := [d] }
  | _ => none }
def lineLinesRow : OpenClaim := { program := "ytdbnlohjjoigeaadoor", sum := "59da2dbf5066b734781cd4092d622932b9ebb4a0f432c0747446c89a2b096a17", func := "turncock/turncocklaw10.LineLines", spec := "lineLines", inPlace := ["internal/bytealg.Count", "internal/bytealg.IndexByte", "internal/bytealg.Index", "internal/bytealg.IndexByteString", "internal/bytealg.IndexString"], unfollowed := true, recurses := true, named := ["unicode/utf8.first", "unicode/utf8.acceptRanges", "internal/bytealg.MaxLen"], apart := false, laid := [("unicode/utf8.acceptRanges", laid_unicode_utf8_acceptRanges), ("unicode/utf8.first", laid_unicode_utf8_first)] }
def LineLinesSaid : Prop := lineLinesRow.holds Tryd.pinned (OpenSpec.ofChange lineLinesSpec)

/-- ITS FALSE NEIGHBOUR: 'it returns false'. Refute it at one input. -/
def lineLinesWrong : ChangeSpec := { name := "lineLines", fn := fun _ => fun
  | [d] => { results := [.lit (.bool false)], args := [d] }
  | _ => none }
def LineLinesWrongFalsely : Prop := lineLinesRow.holds Tryd.pinned (OpenSpec.ofChange lineLinesWrong)

/-- 'turncocklaw10.LineRemarks': WHATEVER THE INPUT: true; the input reads as it did. -/
def lineRemarksSpec : ChangeSpec := { name := "lineRemarks", fn := fun _ => fun
  | [d1, d2, d3, d4] => { results := [.lit (.bool true)], args := [d1, d2, d3, d4] }
  | _ => none }
def lineRemarksRow : OpenClaim := { program := "ytdbnlohjjoigeaadoor", sum := "59da2dbf5066b734781cd4092d622932b9ebb4a0f432c0747446c89a2b096a17", func := "turncock/turncocklaw10.LineRemarks", spec := "lineRemarks", inPlace := ["internal/bytealg.IndexByteString", "internal/bytealg.IndexString", "internal/bytealg.Count", "internal/bytealg.IndexByte", "internal/bytealg.Index"], unfollowed := true, recurses := true, named := ["unicode/utf8.first", "unicode/utf8.acceptRanges", "internal/bytealg.MaxLen"], apart := false, laid := [("unicode/utf8.acceptRanges", laid_unicode_utf8_acceptRanges), ("unicode/utf8.first", laid_unicode_utf8_first)] }
def LineRemarksSaid : Prop := lineRemarksRow.holds Tryd.pinned (OpenSpec.ofChange lineRemarksSpec)

/-- ITS FALSE NEIGHBOUR: 'it returns false'. Refute it at one input. -/
def lineRemarksWrong : ChangeSpec := { name := "lineRemarks", fn := fun _ => fun
  | [d1, d2, d3, d4] => { results := [.lit (.bool false)], args := [d1, d2, d3, d4] }
  | _ => none }
def LineRemarksWrongFalsely : Prop := lineRemarksRow.holds Tryd.pinned (OpenSpec.ofChange lineRemarksWrong)

/- THE SECOND FORM. 'bulk': how many values and letters a reading holds, each counted each time it is reached (what is shared counts as often as it is met; a slice's spare places count too). A statement '..UptoSaid' is the law's where the arguments, and the package variables that the reading takes, are together of bulk at most 1048576: NARROWER than '..Said'. Prove '..Said' where nothing that the law and all that it calls make is longer than what came in: it says more and counts as full. Else prove '..UptoSaid'. A law counts once. -/
mutual
def uptoBulk {H : Type} : DataW H → Nat
  | .lit (.string bytes) => bytes.length + 1
  | .lit _ => 1
  | .nil => 1
  | .ptr d => uptoBulk d + 1
  | .slice elems spare => uptoBulkAll elems + uptoBulkAll spare + 1
  | .agg parts => uptoBulkAll parts + 1
  | .iface _ d => uptoBulk d + 1
  | .map entries => uptoBulkEntries entries + 1
  | .held _ => 1
def uptoBulkAll {H : Type} : List (DataW H) → Nat
  | [] => 0
  | d :: r => uptoBulk d + uptoBulkAll r
def uptoBulkEntries {H : Type} : List (Lit × DataW H) → Nat
  | [] => 0
  | x :: r => uptoBulkEntry x + uptoBulkEntries r
def uptoBulkEntry {H : Type} : Lit × DataW H → Nat
  | (.string bytes, d) => bytes.length + uptoBulk d + 1
  | (_, d) => uptoBulk d + 1
 end
def uptoSmall : (H : Type) → List (DataW H) → Bool := fun _ ds => decide (uptoBulkAll ds ≤ 1048576)
def OpenSpec.upto (s : _root_.Go.ChangeSpec) : _root_.Go.OpenSpec := { _root_.Go.OpenSpec.ofChange s with cond := some uptoSmall }

/-- 'turncocklaw10.LineStrip', WHERE WHAT IT READS IS OF BULK AT MOST 1048576: true; the input reads as it did. -/
def lineStripUptoRow : OpenClaim := { program := "ytdbnlohjjoigeaadoor", sum := "59da2dbf5066b734781cd4092d622932b9ebb4a0f432c0747446c89a2b096a17", func := "turncock/turncocklaw10.LineStrip", spec := "lineStrip", inPlace := ["internal/bytealg.IndexByteString", "internal/bytealg.IndexString", "internal/bytealg.Count", "internal/bytealg.IndexByte", "internal/bytealg.Index"], unfollowed := true, recurses := true, named := ["unicode/utf8.first", "unicode/utf8.acceptRanges", "internal/bytealg.MaxLen"], apart := false, laid := [("unicode/utf8.acceptRanges", laid_unicode_utf8_acceptRanges), ("unicode/utf8.first", laid_unicode_utf8_first)], narrowed := true }
def LineStripUptoSaid : Prop := lineStripUptoRow.holds Tryd.pinned (OpenSpec.upto lineStripSpec)

/-- 'turncocklaw10.LineAgain', WHERE WHAT IT READS IS OF BULK AT MOST 1048576: true; the input reads as it did. -/
def lineAgainUptoRow : OpenClaim := { program := "ytdbnlohjjoigeaadoor", sum := "59da2dbf5066b734781cd4092d622932b9ebb4a0f432c0747446c89a2b096a17", func := "turncock/turncocklaw10.LineAgain", spec := "lineAgain", inPlace := ["internal/bytealg.IndexByteString", "internal/bytealg.IndexString", "internal/bytealg.Count", "internal/bytealg.IndexByte", "internal/bytealg.Index"], unfollowed := true, recurses := true, named := ["unicode/utf8.first", "unicode/utf8.acceptRanges", "internal/bytealg.MaxLen"], apart := false, laid := [("unicode/utf8.acceptRanges", laid_unicode_utf8_acceptRanges), ("unicode/utf8.first", laid_unicode_utf8_first)], narrowed := true }
def LineAgainUptoSaid : Prop := lineAgainUptoRow.holds Tryd.pinned (OpenSpec.upto lineAgainSpec)

/-- 'turncocklaw10.LineLines', WHERE WHAT IT READS IS OF BULK AT MOST 1048576: true; the input reads as it did. -/
def lineLinesUptoRow : OpenClaim := { program := "ytdbnlohjjoigeaadoor", sum := "59da2dbf5066b734781cd4092d622932b9ebb4a0f432c0747446c89a2b096a17", func := "turncock/turncocklaw10.LineLines", spec := "lineLines", inPlace := ["internal/bytealg.Count", "internal/bytealg.IndexByte", "internal/bytealg.Index", "internal/bytealg.IndexByteString", "internal/bytealg.IndexString"], unfollowed := true, recurses := true, named := ["unicode/utf8.first", "unicode/utf8.acceptRanges", "internal/bytealg.MaxLen"], apart := false, laid := [("unicode/utf8.acceptRanges", laid_unicode_utf8_acceptRanges), ("unicode/utf8.first", laid_unicode_utf8_first)], narrowed := true }
def LineLinesUptoSaid : Prop := lineLinesUptoRow.holds Tryd.pinned (OpenSpec.upto lineLinesSpec)

/-- 'turncocklaw10.LineRemarks', WHERE WHAT IT READS IS OF BULK AT MOST 1048576: true; the input reads as it did. -/
def lineRemarksUptoRow : OpenClaim := { program := "ytdbnlohjjoigeaadoor", sum := "59da2dbf5066b734781cd4092d622932b9ebb4a0f432c0747446c89a2b096a17", func := "turncock/turncocklaw10.LineRemarks", spec := "lineRemarks", inPlace := ["internal/bytealg.IndexByteString", "internal/bytealg.IndexString", "internal/bytealg.Count", "internal/bytealg.IndexByte", "internal/bytealg.Index"], unfollowed := true, recurses := true, named := ["unicode/utf8.first", "unicode/utf8.acceptRanges", "internal/bytealg.MaxLen"], apart := false, laid := [("unicode/utf8.acceptRanges", laid_unicode_utf8_acceptRanges), ("unicode/utf8.first", laid_unicode_utf8_first)], narrowed := true }
def LineRemarksUptoSaid : Prop := lineRemarksUptoRow.holds Tryd.pinned (OpenSpec.upto lineRemarksSpec)

end Rows
end Go.Proofs.YtdbnlohjjoigeaaDoor
