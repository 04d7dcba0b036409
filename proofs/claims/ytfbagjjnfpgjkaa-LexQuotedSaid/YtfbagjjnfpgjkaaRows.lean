/-
  No cell of these rows narrows 'for every input' (looked for: loops, veiled, ifaces, maps, wideKeys, modest, calm, conditions, laid).
  DERIVED. THE GIVEN ROWS OF THIS SEAT. 4 by the template 'for every input the law returns true; each argument reads behind the call as it read before'; 0 by the template 'total and deterministic' (their statements: YtfbagjjnfpgjkaaTotals.lean).
  GIVEN WITH THE SEED: the statements are not yours to turn. If you find one false, say at which input.
  Laid BY PROGRAM, IN A SANDBOX (cutbox-rows.mjs): the forced cells as the released guide's own fill.sh prints them over the translation ea3c76fd325e5c3b… (all of the seat's roots in one cut). By AI agents, Wed Nov 11 2026. No macro, syntax, notation, axiom, sorry.
-/
import Derived.Test.YtfbagjjnfpgjkaaChecked
import GoSem.Claim
import GoSem.ClaimJoined
import GoSem.ClaimMapViews
import Derived.JoinedTies
import Derived.KernelRfl
namespace Go.Proofs.Ytfbagjjnfpgjkaa
/- THE CELL 'sum', in the pinned program and in every row, IS THE sha256 OF THE DUMP (.gsa) THAT YtfbagjjnfpgjkaaProg.lean LOADS. Nothing in Lean hashes anything: it is a label: what it is worth is what the hold of that sum in a sandbox is worth. -/
noncomputable def Try.pinned : Pinned := { name := "ytfbagjjnfpgjkaa", sum := "ea3c76fd325e5c3bef67d0312cfd0db6e7b8dba3e357d9d9221992ecf7eb8828", checked := Try.checked }
namespace Rows
def none {H : Type} : Left H := { results := [], args := [] }

/-- 'turncocklaw11.LexRow': WHATEVER THE INPUT: true; the input reads as it did. -/
def lexRowSpec : ChangeSpec := { name := "lexRow", fn := fun _ => fun
  | [d] => { results := [.lit (.bool true)], args := [d] }
  | _ => none }
def lexRowRow : OpenClaim := { program := "ytfbagjjnfpgjkaa", sum := "ea3c76fd325e5c3bef67d0312cfd0db6e7b8dba3e357d9d9221992ecf7eb8828", func := "turncock/turncocklaw11.LexRow", spec := "lexRow", inPlace := ["internal/bytealg.IndexByteString", "internal/bytealg.IndexString", "internal/abi.NoEscape"], unfollowed := true, recurses := true, named := ["internal/bytealg.MaxLen"], apart := false }
def LexRowSaid : Prop := lexRowRow.holds Try.pinned (OpenSpec.ofChange lexRowSpec)

/-- ITS FALSE NEIGHBOUR: 'it returns false'. Refute it at one input. -/
def lexRowWrong : ChangeSpec := { name := "lexRow", fn := fun _ => fun
  | [d] => { results := [.lit (.bool false)], args := [d] }
  | _ => none }
def LexRowWrongFalsely : Prop := lexRowRow.holds Try.pinned (OpenSpec.ofChange lexRowWrong)

/-- 'turncocklaw11.LexAll': WHATEVER THE INPUT: true; the input reads as it did. -/
def lexAllSpec : ChangeSpec := { name := "lexAll", fn := fun _ => fun
  | [d] => { results := [.lit (.bool true)], args := [d] }
  | _ => none }
def lexAllRow : OpenClaim := { program := "ytfbagjjnfpgjkaa", sum := "ea3c76fd325e5c3bef67d0312cfd0db6e7b8dba3e357d9d9221992ecf7eb8828", func := "turncock/turncocklaw11.LexAll", spec := "lexAll", inPlace := ["internal/bytealg.IndexByteString", "internal/bytealg.IndexString", "internal/abi.NoEscape"], unfollowed := true, recurses := true, named := ["internal/bytealg.MaxLen"], apart := false }
def LexAllSaid : Prop := lexAllRow.holds Try.pinned (OpenSpec.ofChange lexAllSpec)

/-- ITS FALSE NEIGHBOUR: 'it returns false'. Refute it at one input. -/
def lexAllWrong : ChangeSpec := { name := "lexAll", fn := fun _ => fun
  | [d] => { results := [.lit (.bool false)], args := [d] }
  | _ => none }
def LexAllWrongFalsely : Prop := lexAllRow.holds Try.pinned (OpenSpec.ofChange lexAllWrong)

/-- 'turncocklaw11.LexRises': WHATEVER THE INPUT: true; the input reads as it did. -/
def lexRisesSpec : ChangeSpec := { name := "lexRises", fn := fun _ => fun
  | [d] => { results := [.lit (.bool true)], args := [d] }
  | _ => none }
def lexRisesRow : OpenClaim := { program := "ytfbagjjnfpgjkaa", sum := "ea3c76fd325e5c3bef67d0312cfd0db6e7b8dba3e357d9d9221992ecf7eb8828", func := "turncock/turncocklaw11.LexRises", spec := "lexRises", inPlace := ["internal/bytealg.IndexByteString", "internal/bytealg.IndexString", "internal/abi.NoEscape"], unfollowed := true, recurses := true, named := ["internal/bytealg.MaxLen"], apart := false }
def LexRisesSaid : Prop := lexRisesRow.holds Try.pinned (OpenSpec.ofChange lexRisesSpec)

/-- ITS FALSE NEIGHBOUR: 'it returns false'. Refute it at one input. -/
def lexRisesWrong : ChangeSpec := { name := "lexRises", fn := fun _ => fun
  | [d] => { results := [.lit (.bool false)], args := [d] }
  | _ => none }
def LexRisesWrongFalsely : Prop := lexRisesRow.holds Try.pinned (OpenSpec.ofChange lexRisesWrong)

/-- 'turncocklaw11.LexQuoted': WHATEVER THE INPUT: true; the input reads as it did. -/
def lexQuotedSpec : ChangeSpec := { name := "lexQuoted", fn := fun _ => fun
  | [d1, d2] => { results := [.lit (.bool true)], args := [d1, d2] }
  | _ => none }
def lexQuotedRow : OpenClaim := { program := "ytfbagjjnfpgjkaa", sum := "ea3c76fd325e5c3bef67d0312cfd0db6e7b8dba3e357d9d9221992ecf7eb8828", func := "turncock/turncocklaw11.LexQuoted", spec := "lexQuoted", inPlace := ["internal/bytealg.IndexByteString", "internal/bytealg.IndexString", "internal/abi.NoEscape"], unfollowed := true, recurses := true, named := ["internal/bytealg.MaxLen"], apart := false }
def LexQuotedSaid : Prop := lexQuotedRow.holds Try.pinned (OpenSpec.ofChange lexQuotedSpec)

/-- ITS FALSE NEIGHBOUR: 'it returns false'. Refute it at one input. -/
def lexQuotedWrong : ChangeSpec := { name := "lexQuoted", fn := fun _ => fun
  | [d1, d2] => { results := [.lit (.bool false)], args := [d1, d2] }
  | _ => none }
def LexQuotedWrongFalsely : Prop := lexQuotedRow.holds Try.pinned (OpenSpec.ofChange lexQuotedWrong)

/- THE SECOND FORM. 'bulk': how many values and letters a reading holds, each counted each time it is reached (what is shared counts as often as it is met; a slice's spare places count too). A statement '..UptoSaid' is the law's where the arguments, and the package variables that the reading takes, are together of bulk at most 1048576: NARROWER than '..Said'. Prove '..Said' where nothing that the law and all that it calls make is longer than what came in: it says more and counts as full. Else prove '..UptoSaid'. A law counts once. -/
mutual
def uptoBulk {H : Type} : DataW H → Nat
  | .lit (.string bytes) => bytes.length + 1
  | .lit _ => 1
  | .nil => 1
  | .ptr d => uptoBulk d + 1
  | .slice elems spare => uptoBulkAll elems + uptoBulkAll spare + 1
  | .agg parts => uptoBulkAll parts + 1
  | .iface _ d => uptoBulk d + 1
  | .map entries => uptoBulkEntries entries + 1
  | .held _ => 1
def uptoBulkAll {H : Type} : List (DataW H) → Nat
  | [] => 0
  | d :: r => uptoBulk d + uptoBulkAll r
def uptoBulkEntries {H : Type} : List (Lit × DataW H) → Nat
  | [] => 0
  | x :: r => uptoBulkEntry x + uptoBulkEntries r
def uptoBulkEntry {H : Type} : Lit × DataW H → Nat
  | (.string bytes, d) => bytes.length + uptoBulk d + 1
  | (_, d) => uptoBulk d + 1
 end
def uptoSmall : (H : Type) → List (DataW H) → Bool := fun _ ds => decide (uptoBulkAll ds ≤ 1048576)
def OpenSpec.upto (s : _root_.Go.ChangeSpec) : _root_.Go.OpenSpec := { _root_.Go.OpenSpec.ofChange s with cond := some uptoSmall }

/-- 'turncocklaw11.LexRow', WHERE WHAT IT READS IS OF BULK AT MOST 1048576: true; the input reads as it did. -/
def lexRowUptoRow : OpenClaim := { program := "ytfbagjjnfpgjkaa", sum := "ea3c76fd325e5c3bef67d0312cfd0db6e7b8dba3e357d9d9221992ecf7eb8828", func := "turncock/turncocklaw11.LexRow", spec := "lexRow", inPlace := ["internal/bytealg.IndexByteString", "internal/bytealg.IndexString", "internal/abi.NoEscape"], unfollowed := true, recurses := true, named := ["internal/bytealg.MaxLen"], apart := false, narrowed := true }
def LexRowUptoSaid : Prop := lexRowUptoRow.holds Try.pinned (OpenSpec.upto lexRowSpec)

/-- 'turncocklaw11.LexAll', WHERE WHAT IT READS IS OF BULK AT MOST 1048576: true; the input reads as it did. -/
def lexAllUptoRow : OpenClaim := { program := "ytfbagjjnfpgjkaa", sum := "ea3c76fd325e5c3bef67d0312cfd0db6e7b8dba3e357d9d9221992ecf7eb8828", func := "turncock/turncocklaw11.LexAll", spec := "lexAll", inPlace := ["internal/bytealg.IndexByteString", "internal/bytealg.IndexString", "internal/abi.NoEscape"], unfollowed := true, recurses := true, named := ["internal/bytealg.MaxLen"], apart := false, narrowed := true }
def LexAllUptoSaid : Prop := lexAllUptoRow.holds Try.pinned (OpenSpec.upto lexAllSpec)

/-- 'turncocklaw11.LexRises', WHERE WHAT IT READS IS OF BULK AT MOST 1048576: true; the input reads as it did. -/
def lexRisesUptoRow : OpenClaim := { program := "ytfbagjjnfpgjkaa", sum := "ea3c76fd325e5c3bef67d0312cfd0db6e7b8dba3e357d9d9221992ecf7eb8828", func := "turncock/turncocklaw11.LexRises", spec := "lexRises", inPlace := ["internal/bytealg.IndexByteString", "internal/bytealg.IndexString", "internal/abi.NoEscape"], unfollowed := true, recurses := true, named := ["internal/bytealg.MaxLen"], apart := false, narrowed := true }
def LexRisesUptoSaid : Prop := lexRisesUptoRow.holds Try.pinned (OpenSpec.upto lexRisesSpec)

/-- 'turncocklaw11.LexQuoted', WHERE WHAT IT READS IS OF BULK AT MOST 1048576: true; the input reads as it did. -/
def lexQuotedUptoRow : OpenClaim := { program := "ytfbagjjnfpgjkaa", sum := "ea3c76fd325e5c3bef67d0312cfd0db6e7b8dba3e357d9d9221992ecf7eb8828", func := "turncock/turncocklaw11.LexQuoted", spec := "lexQuoted", inPlace := ["internal/bytealg.IndexByteString", "internal/bytealg.IndexString", "internal/abi.NoEscape"], unfollowed := true, recurses := true, named := ["internal/bytealg.MaxLen"], apart := false, narrowed := true }
def LexQuotedUptoSaid : Prop := lexQuotedUptoRow.holds Try.pinned (OpenSpec.upto lexQuotedSpec)

end Rows
end Go.Proofs.Ytfbagjjnfpgjkaa
