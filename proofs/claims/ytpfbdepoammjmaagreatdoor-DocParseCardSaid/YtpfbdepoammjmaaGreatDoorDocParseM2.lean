/- The Go function DocParse answers true for every text, on any machine and under any order of evaluation that Go allows; with no condition besides the statement's own, the card's own ties to the pruned copy of the project included. -/
import Derived.WalkKit
import Derived.ProofKit
import Derived.OpenShut
import Derived.ShutString
import Derived.ChangeOld
import Derived.Below
import Derived.SizedLaws
import Derived.ChangeArms
import Derived.Test.YtpfbdepoammjmaaGreatDoorProg
import Derived.KernelRfl
import Derived.Test.YtpfbdepoammjmaaGreatDoorChecked
import Derived.WalkSpells
import Derived.WalkLawsBesides
import Derived.Lib.Builder
import Derived.Lib.AppendStr
import Derived.Lib.UnsafeStr
import Derived.Laws.Externs
import Derived.Shelf.RegionOpenPlain
import Derived.Deep.Heap
import Derived.Lib.BytesEntry
import Derived.Lib.Bytealg
import Derived.Shelf.GgClosure.StringsIndexFuncTop
import Derived.Shelf.Strings.FuncGrows
import Derived.Test.YtpfbdepoammjmaaGreatDoorDocParseM0
import Derived.Test.YtpfbdepoammjmaaGreatDoorDocParseM1
set_option linter.unusedVariables false
set_option linter.unusedSimpArgs false
set_option linter.unusedSectionVars false
set_option maxRecDepth 100000
namespace Go.Proofs.YtpfbdepoammjmaaGreatDoor.Pvm
open Go Go.Proofs
abbrev kI : Kd := .int .i64
abbrev kdT7 : Kd := (.pr (.int .i64) (.pr (.int .i64) (.pr .bool (.int .u8))))
abbrev kdT25 : Kd := (.sl (.pr (.int .i64) (.pr (.int .i64) (.pr .str (.pr .bool (.pr (.sl .str) (.sl (.int .i64))))))))
abbrev kdT39 : Kd := (.pr (.sl (.pr .str (.sl (.int .i64)))) (.sl (.pr .str (.pr .str (.pr .bool (.pr (.int .i64) (.pr (.int .i64) (.pr .bool (.pr (.pr .str (.pr (.int .i64) (.pr (.int .i64) (.pr .flt (.pr .bool .bool))))) (.sl (.int .i64)))))))))))
abbrev kdT51 : Kd := (.pr (.int .i64) (.pr (.int .i64) (.pr .str (.pr .bool (.pr (.sl .str) (.sl (.int .i64)))))))
abbrev kdT94 : Kd := (.pr (.sl (.pr (.int .i64) (.pr (.int .i64) (.pr (.int .i64) (.pr .str .bool))))) (.sl (.pr (.int .i64) (.pr (.int .i64) (.pr .str (.pr .bool (.pr (.sl .str) (.sl (.int .i64)))))))))
abbrev kdT96 : Kd := (.pr (.int .i64) (.pr (.int .i64) (.pr (.int .i64) (.pr .str .bool))))
abbrev kdT105 : Kd := (.pr (.int .i64) (.pr (.int .i64) .str))
abbrev kdT109 : Kd := (.pr (.sl (.pr (.int .i64) (.pr (.int .i64) (.pr (.int .i64) (.pr .str .bool))))) (.pr (.int .i64) (.pr (.sl (.pr (.int .i64) (.pr (.int .i64) (.pr .str (.pr .bool (.pr (.sl .str) (.sl (.int .i64)))))))) (.pr (.int .i64) (.int .i64)))))
abbrev kdT115 : Kd := (.pr .str (.pr (.int .i64) (.pr (.int .i64) (.pr .flt (.pr .bool .bool)))))
abbrev kdT117 : Kd := (.pr .str (.pr .str (.pr .bool (.pr (.int .i64) (.pr (.int .i64) (.pr .bool (.pr (.pr .str (.pr (.int .i64) (.pr (.int .i64) (.pr .flt (.pr .bool .bool))))) (.sl (.int .i64)))))))))
abbrev kdT150 : Kd := (.pr (.pr (.int .i64) (.pr (.int .i64) .str)) (.pr (.int .i64) (.sl (.pr (.int .i64) (.pr (.int .i64) (.pr (.int .i64) (.pr .str .bool)))))))
def ti1 : TI := ⟨.other, 1, 8, none, [.un], [], 0, false⟩
theorem ti1_ok : TiOk Tryz.prog 1 ti1 := TiOk.of (z := Go.Value.nilFunc) (d := (@Go.TypeDesc.func (@Array.mk Nat (@List.nil Nat)) (@Array.mk Nat (@List.nil Nat)) Bool.false)) (by kernel_rfl) (by kernel_rfl) (by kernel_rfl) trivial rfl trivial (by kernel_rfl) (fun h => nomatch h)
def ti2 : TI := ⟨.int .i64, 1, 8, some (.int .i64), [.v (.int .i64) 0], [], 0, false⟩
theorem ti2_ok : TiOk Tryz.prog 2 ti2 := TiOk.of (z := (@Go.Value.int Go.IntKind.i64 (@Int.ofNat 0))) (d := (@Go.TypeDesc.int Go.IntKind.i64)) (by kernel_rfl) (by kernel_rfl) (by kernel_rfl) ⟨by kernel_rfl, by kernel_rfl⟩ rfl rfl (by kernel_rfl) (fun h => nomatch h)
def ti3 : TI := ⟨.int .i64, 1, 8, some (.int .i64), [.v (.int .i64) 0], [], 0, false⟩
theorem ti3_ok : TiOk Tryz.prog 3 ti3 := TiOk.of (z := (@Go.Value.int Go.IntKind.i64 (@Int.ofNat 0))) (d := (@Go.TypeDesc.int Go.IntKind.i64)) (by kernel_rfl) (by kernel_rfl) (by kernel_rfl) ⟨by kernel_rfl, by kernel_rfl⟩ rfl rfl (by kernel_rfl) (fun h => nomatch h)
def ti4 : TI := ⟨.bool, 1, 1, some .bool, [.v .bool false], [], 0, false⟩
theorem ti4_ok : TiOk Tryz.prog 4 ti4 := TiOk.of (z := (@Go.Value.bool Bool.false)) (d := Go.TypeDesc.bool) (by kernel_rfl) (by kernel_rfl) (by kernel_rfl) ⟨by kernel_rfl, by kernel_rfl⟩ rfl rfl (by kernel_rfl) (fun h => nomatch h)
def ti5 : TI := ⟨.int .u8, 1, 1, some (.int .u8), [.v (.int .u8) 0], [], 0, false⟩
theorem ti5_ok : TiOk Tryz.prog 5 ti5 := TiOk.of (z := (@Go.Value.int Go.IntKind.u8 (@Int.ofNat 0))) (d := (@Go.TypeDesc.int Go.IntKind.u8)) (by kernel_rfl) (by kernel_rfl) (by kernel_rfl) ⟨by kernel_rfl, by kernel_rfl⟩ rfl rfl (by kernel_rfl) (fun h => nomatch h)
def ti9 : TI := ⟨.str, 1, 16, some .str, [.v .str []], [], 0, false⟩
theorem ti9_ok : TiOk Tryz.prog 9 ti9 := TiOk.of (z := (@Go.Value.string (@ByteArray.mk (@Array.mk UInt8 (@List.nil UInt8))))) (d := Go.TypeDesc.string) (by kernel_rfl) (by kernel_rfl) (by kernel_rfl) ⟨by kernel_rfl, by kernel_rfl⟩ rfl rfl (by kernel_rfl) (fun h => nomatch h)
def ti20 : TI := ⟨.iface, 1, 16, none, [.nilif], [], 0, false⟩
theorem ti20_ok : TiOk Tryz.prog 20 ti20 := TiOk.of (z := Go.Value.nilIface) (d := (@Go.TypeDesc.interface (@Array.mk (@Prod String Nat) (@List.nil (@Prod String Nat))))) (by kernel_rfl) (by kernel_rfl) (by kernel_rfl) trivial rfl ⟨_, rfl⟩ (by kernel_rfl) (fun h => nomatch h)
def ti21 : TI := ⟨.int .i32, 1, 4, some (.int .i32), [.v (.int .i32) 0], [], 0, false⟩
theorem ti21_ok : TiOk Tryz.prog 21 ti21 := TiOk.of (z := (@Go.Value.int Go.IntKind.i32 (@Int.ofNat 0))) (d := (@Go.TypeDesc.int Go.IntKind.i32)) (by kernel_rfl) (by kernel_rfl) (by kernel_rfl) ⟨by kernel_rfl, by kernel_rfl⟩ rfl rfl (by kernel_rfl) (fun h => nomatch h)
def ti22 : TI := ⟨.slice, 1, 24, some (.sl (.int .u8)), [.nilsl], [], 5, false⟩
theorem ti22_ok : TiOk Tryz.prog 22 ti22 := TiOk.of (z := (@Go.Value.slice (@Option.none Go.Addr) 0 0)) (d := (@Go.TypeDesc.slice 5)) (by kernel_rfl) (by kernel_rfl) (by kernel_rfl) ⟨by kernel_rfl, by kernel_rfl⟩ rfl rfl (by kernel_rfl) (fun h => nomatch h)
def ti24 : TI := ⟨.slice, 1, 24, some (.sl (.pr (.int .i64) (.pr (.int .i64) (.pr .str (.pr .bool (.pr (.sl .str) (.sl (.int .i64)))))))), [.nilsl], [], 52, false⟩
theorem ti24_ok : TiOk Tryz.prog 24 ti24 := TiOk.of (z := (@Go.Value.slice (@Option.none Go.Addr) 0 0)) (d := (@Go.TypeDesc.slice 52)) (by kernel_rfl) (by kernel_rfl) (by kernel_rfl) ⟨by kernel_rfl, by kernel_rfl⟩ rfl rfl (by kernel_rfl) (fun h => nomatch h)
def ti26 : TI := ⟨.struct, 1, 24, some (.sl (.pr (.int .i64) (.pr (.int .i64) (.pr .str (.pr .bool (.pr (.sl .str) (.sl (.int .i64)))))))), [.nilsl], [(0, 24)], 0, false⟩
theorem ti26_ok : TiOk Tryz.prog 26 ti26 := TiOk.of (z := (@Go.Value.agg (@Array.mk Go.Value (@List.cons Go.Value (@Go.Value.slice (@Option.none Go.Addr) 0 0) (@List.nil Go.Value))))) (d := (@Go.TypeDesc.struct (@Array.mk Go.Field (@List.cons Go.Field (@Go.Field.mk "Nodes" 24 0 Bool.false "" "" 0) (@List.nil Go.Field))))) (by kernel_rfl) (by kernel_rfl) (by kernel_rfl) ⟨by kernel_rfl, by kernel_rfl⟩ ⟨_, rfl⟩ ⟨_, rfl, by kernel_rfl, by kernel_rfl⟩ (by kernel_rfl) (fun h => nomatch h)
def ti28 : TI := ⟨.struct, 2, 16, some (.pr (.int .i64) (.int .i64)), [.v (.int .i64) 0, .v (.int .i64) 0], [(0, 3), (1, 3)], 0, true⟩
theorem ti28_ok : TiOk Tryz.prog 28 ti28 := TiOk.of (z := (@Go.Value.agg (@Array.mk Go.Value (@List.cons Go.Value (@Go.Value.int Go.IntKind.i64 (@Int.ofNat 0)) (@List.cons Go.Value (@Go.Value.int Go.IntKind.i64 (@Int.ofNat 0)) (@List.nil Go.Value)))))) (d := (@Go.TypeDesc.struct (@Array.mk Go.Field (@List.cons Go.Field (@Go.Field.mk "Kind" 3 0 Bool.false "" "" 0) (@List.cons Go.Field (@Go.Field.mk "Line" 3 1 Bool.false "" "" 8) (@List.nil Go.Field)))))) (by kernel_rfl) (by kernel_rfl) (by kernel_rfl) ⟨by kernel_rfl, by kernel_rfl⟩ ⟨_, rfl⟩ ⟨_, rfl, by kernel_rfl, by kernel_rfl⟩ (by kernel_rfl) (fun _ _ => by kernel_rfl)
def ti33 : TI := ⟨.slice, 1, 24, some (.sl (.int .i64)), [.nilsl], [], 3, false⟩
theorem ti33_ok : TiOk Tryz.prog 33 ti33 := TiOk.of (z := (@Go.Value.slice (@Option.none Go.Addr) 0 0)) (d := (@Go.TypeDesc.slice 3)) (by kernel_rfl) (by kernel_rfl) (by kernel_rfl) ⟨by kernel_rfl, by kernel_rfl⟩ rfl rfl (by kernel_rfl) (fun h => nomatch h)
def ti41 : TI := ⟨.other, 1, 8, none, [.un], [], 0, false⟩
theorem ti41_ok : TiOk Tryz.prog 41 ti41 := TiOk.of (z := Go.Value.nilFunc) (d := (@Go.TypeDesc.func (@Array.mk Nat (@List.cons Nat 33 (@List.nil Nat))) (@Array.mk Nat (@List.cons Nat 40 (@List.nil Nat))) Bool.false)) (by kernel_rfl) (by kernel_rfl) (by kernel_rfl) trivial rfl trivial (by kernel_rfl) (fun h => nomatch h)
def ti45 : TI := ⟨.slice, 1, 24, some (.sl .str), [.nilsl], [], 9, false⟩
theorem ti45_ok : TiOk Tryz.prog 45 ti45 := TiOk.of (z := (@Go.Value.slice (@Option.none Go.Addr) 0 0)) (d := (@Go.TypeDesc.slice 9)) (by kernel_rfl) (by kernel_rfl) (by kernel_rfl) ⟨by kernel_rfl, by kernel_rfl⟩ rfl rfl (by kernel_rfl) (fun h => nomatch h)
def ti52 : TI := ⟨.struct, 6, 88, some (.pr (.int .i64) (.pr (.int .i64) (.pr .str (.pr .bool (.pr (.sl .str) (.sl (.int .i64))))))), [.v (.int .i64) 0, .v (.int .i64) 0, .v .str [], .v .bool false, .nilsl, .nilsl], [(0, 3), (1, 3), (2, 9), (3, 4), (4, 45), (5, 33)], 0, false⟩
theorem ti52_ok : TiOk Tryz.prog 52 ti52 := TiOk.of (z := (@Go.Value.agg (@Array.mk Go.Value (@List.cons Go.Value (@Go.Value.int Go.IntKind.i64 (@Int.ofNat 0)) (@List.cons Go.Value (@Go.Value.int Go.IntKind.i64 (@Int.ofNat 0)) (@List.cons Go.Value (@Go.Value.string (@ByteArray.mk (@Array.mk UInt8 (@List.nil UInt8)))) (@List.cons Go.Value (@Go.Value.bool Bool.false) (@List.cons Go.Value (@Go.Value.slice (@Option.none Go.Addr) 0 0) (@List.cons Go.Value (@Go.Value.slice (@Option.none Go.Addr) 0 0) (@List.nil Go.Value)))))))))) (d := (@Go.TypeDesc.struct (@Array.mk Go.Field (@List.cons Go.Field (@Go.Field.mk "Kind" 3 0 Bool.false "" "" 0) (@List.cons Go.Field (@Go.Field.mk "Line" 3 1 Bool.false "" "" 8) (@List.cons Go.Field (@Go.Field.mk "Text" 9 2 Bool.false "" "" 16) (@List.cons Go.Field (@Go.Field.mk "Quoted" 4 3 Bool.false "" "" 32) (@List.cons Go.Field (@Go.Field.mk "Keys" 45 4 Bool.false "" "" 40) (@List.cons Go.Field (@Go.Field.mk "Kids" 33 5 Bool.false "" "" 64) (@List.nil Go.Field)))))))))) (by kernel_rfl) (by kernel_rfl) (by kernel_rfl) ⟨by kernel_rfl, by kernel_rfl⟩ ⟨_, rfl⟩ ⟨_, rfl, by kernel_rfl, by kernel_rfl⟩ (by kernel_rfl) (fun h => nomatch h)
def ti53 : TI := ⟨.slice, 1, 24, some (.sl (.pr (.int .i64) (.pr (.int .i64) .str))), [.nilsl], [], 106, false⟩
theorem ti53_ok : TiOk Tryz.prog 53 ti53 := TiOk.of (z := (@Go.Value.slice (@Option.none Go.Addr) 0 0)) (d := (@Go.TypeDesc.slice 106)) (by kernel_rfl) (by kernel_rfl) (by kernel_rfl) ⟨by kernel_rfl, by kernel_rfl⟩ rfl rfl (by kernel_rfl) (fun h => nomatch h)
def ti56 : TI := ⟨.slice, 1, 24, some (.sl (.pr (.int .i64) (.pr (.int .i64) (.pr (.int .i64) (.pr .str .bool))))), [.nilsl], [], 97, false⟩
theorem ti56_ok : TiOk Tryz.prog 56 ti56 := TiOk.of (z := (@Go.Value.slice (@Option.none Go.Addr) 0 0)) (d := (@Go.TypeDesc.slice 97)) (by kernel_rfl) (by kernel_rfl) (by kernel_rfl) ⟨by kernel_rfl, by kernel_rfl⟩ rfl rfl (by kernel_rfl) (fun h => nomatch h)
def ti79 : TI := ⟨.int .u64, 1, 8, some (.int .u64), [.v (.int .u64) 0], [], 0, false⟩
theorem ti79_ok : TiOk Tryz.prog 79 ti79 := TiOk.of (z := (@Go.Value.int Go.IntKind.u64 (@Int.ofNat 0))) (d := (@Go.TypeDesc.int Go.IntKind.u64)) (by kernel_rfl) (by kernel_rfl) (by kernel_rfl) ⟨by kernel_rfl, by kernel_rfl⟩ rfl rfl (by kernel_rfl) (fun h => nomatch h)
def ti83 : TI := ⟨.ptr, 1, 8, none, [.nilptr], [], 85, false⟩
theorem ti83_ok : TiOk Tryz.prog 83 ti83 := TiOk.of (z := (@Go.Value.pointer (@Option.none Go.Addr))) (d := (@Go.TypeDesc.pointer 85)) (by kernel_rfl) (by kernel_rfl) (by kernel_rfl) trivial rfl rfl (by kernel_rfl) (fun h => nomatch h)
def ti85 : TI := ⟨.struct, 2, 32, none, [.nilptr, .nilsl], [(0, 83), (1, 22)], 0, false⟩
theorem ti85_ok : TiOk Tryz.prog 85 ti85 := TiOk.of (z := (@Go.Value.agg (@Array.mk Go.Value (@List.cons Go.Value (@Go.Value.pointer (@Option.none Go.Addr)) (@List.cons Go.Value (@Go.Value.slice (@Option.none Go.Addr) 0 0) (@List.nil Go.Value)))))) (d := (@Go.TypeDesc.struct (@Array.mk Go.Field (@List.cons Go.Field (@Go.Field.mk "addr" 83 0 Bool.false "" "strings" 0) (@List.cons Go.Field (@Go.Field.mk "buf" 22 1 Bool.false "" "strings" 8) (@List.nil Go.Field)))))) (by kernel_rfl) (by kernel_rfl) (by kernel_rfl) trivial ⟨_, rfl⟩ ⟨_, rfl, by kernel_rfl, by kernel_rfl⟩ (by kernel_rfl) (fun h => nomatch h)
def ti87 : TI := ⟨.iface, 1, 16, none, [.nilif], [], 0, false⟩
theorem ti87_ok : TiOk Tryz.prog 87 ti87 := TiOk.of (z := Go.Value.nilIface) (d := (@Go.TypeDesc.interface (@Array.mk (@Prod String Nat) (@List.cons (@Prod String Nat) (@Prod.mk String Nat "Error" 92) (@List.nil (@Prod String Nat)))))) (by kernel_rfl) (by kernel_rfl) (by kernel_rfl) trivial rfl ⟨_, rfl⟩ (by kernel_rfl) (fun h => nomatch h)
def ti88 : TI := ⟨.iface, 1, 16, none, [.nilif], [], 0, false⟩
theorem ti88_ok : TiOk Tryz.prog 88 ti88 := TiOk.of (z := Go.Value.nilIface) (d := (@Go.TypeDesc.interface (@Array.mk (@Prod String Nat) (@List.cons (@Prod String Nat) (@Prod.mk String Nat "Error" 92) (@List.nil (@Prod String Nat)))))) (by kernel_rfl) (by kernel_rfl) (by kernel_rfl) trivial rfl ⟨_, rfl⟩ (by kernel_rfl) (fun h => nomatch h)
def ti93 : TI := ⟨.ptr, 1, 8, none, [.nilptr], [], 95, false⟩
theorem ti93_ok : TiOk Tryz.prog 93 ti93 := TiOk.of (z := (@Go.Value.pointer (@Option.none Go.Addr))) (d := (@Go.TypeDesc.pointer 95)) (by kernel_rfl) (by kernel_rfl) (by kernel_rfl) trivial rfl rfl (by kernel_rfl) (fun h => nomatch h)
def ti95 : TI := ⟨.struct, 2, 48, some (.pr (.sl (.pr (.int .i64) (.pr (.int .i64) (.pr (.int .i64) (.pr .str .bool))))) (.sl (.pr (.int .i64) (.pr (.int .i64) (.pr .str (.pr .bool (.pr (.sl .str) (.sl (.int .i64))))))))), [.nilsl, .nilsl], [(0, 56), (1, 26)], 0, false⟩
theorem ti95_ok : TiOk Tryz.prog 95 ti95 := TiOk.of (z := (@Go.Value.agg (@Array.mk Go.Value (@List.cons Go.Value (@Go.Value.slice (@Option.none Go.Addr) 0 0) (@List.cons Go.Value (@Go.Value.slice (@Option.none Go.Addr) 0 0) (@List.nil Go.Value)))))) (d := (@Go.TypeDesc.struct (@Array.mk Go.Field (@List.cons Go.Field (@Go.Field.mk "l" 56 0 Bool.false "" "turncock/doc" 0) (@List.cons Go.Field (@Go.Field.mk "d" 26 1 Bool.false "" "turncock/doc" 24) (@List.nil Go.Field)))))) (by kernel_rfl) (by kernel_rfl) (by kernel_rfl) ⟨by kernel_rfl, by kernel_rfl⟩ ⟨_, rfl⟩ ⟨_, rfl, by kernel_rfl, by kernel_rfl⟩ (by kernel_rfl) (fun h => nomatch h)
def ti97 : TI := ⟨.struct, 5, 48, some (.pr (.int .i64) (.pr (.int .i64) (.pr (.int .i64) (.pr .str .bool)))), [.v (.int .i64) 0, .v (.int .i64) 0, .v (.int .i64) 0, .v .str [], .v .bool false], [(0, 3), (1, 3), (2, 3), (3, 9), (4, 4)], 0, true⟩
theorem ti97_ok : TiOk Tryz.prog 97 ti97 := TiOk.of (z := (@Go.Value.agg (@Array.mk Go.Value (@List.cons Go.Value (@Go.Value.int Go.IntKind.i64 (@Int.ofNat 0)) (@List.cons Go.Value (@Go.Value.int Go.IntKind.i64 (@Int.ofNat 0)) (@List.cons Go.Value (@Go.Value.int Go.IntKind.i64 (@Int.ofNat 0)) (@List.cons Go.Value (@Go.Value.string (@ByteArray.mk (@Array.mk UInt8 (@List.nil UInt8)))) (@List.cons Go.Value (@Go.Value.bool Bool.false) (@List.nil Go.Value))))))))) (d := (@Go.TypeDesc.struct (@Array.mk Go.Field (@List.cons Go.Field (@Go.Field.mk "Kind" 3 0 Bool.false "" "" 0) (@List.cons Go.Field (@Go.Field.mk "Line" 3 1 Bool.false "" "" 8) (@List.cons Go.Field (@Go.Field.mk "Col" 3 2 Bool.false "" "" 16) (@List.cons Go.Field (@Go.Field.mk "Text" 9 3 Bool.false "" "" 24) (@List.cons Go.Field (@Go.Field.mk "Quoted" 4 4 Bool.false "" "" 40) (@List.nil Go.Field))))))))) (by kernel_rfl) (by kernel_rfl) (by kernel_rfl) ⟨by kernel_rfl, by kernel_rfl⟩ ⟨_, rfl⟩ ⟨_, rfl, by kernel_rfl, by kernel_rfl⟩ (by kernel_rfl) (fun _ _ => by kernel_rfl)
def ti98 : TI := ⟨.slice, 1, 24, some (.sl (.sl (.int .u8))), [.nilsl], [], 22, false⟩
theorem ti98_ok : TiOk Tryz.prog 98 ti98 := TiOk.of (z := (@Go.Value.slice (@Option.none Go.Addr) 0 0)) (d := (@Go.TypeDesc.slice 22)) (by kernel_rfl) (by kernel_rfl) (by kernel_rfl) ⟨by kernel_rfl, by kernel_rfl⟩ rfl rfl (by kernel_rfl) (fun h => nomatch h)
def ti101 : TI := ⟨.other, 1, 8, none, [.un], [], 0, false⟩
theorem ti101_ok : TiOk Tryz.prog 101 ti101 := TiOk.of (z := Go.Value.nilFunc) (d := (@Go.TypeDesc.func (@Array.mk Nat (@List.cons Nat 21 (@List.nil Nat))) (@Array.mk Nat (@List.cons Nat 4 (@List.nil Nat))) Bool.false)) (by kernel_rfl) (by kernel_rfl) (by kernel_rfl) trivial rfl trivial (by kernel_rfl) (fun h => nomatch h)
def ti106 : TI := ⟨.struct, 3, 32, some (.pr (.int .i64) (.pr (.int .i64) .str)), [.v (.int .i64) 0, .v (.int .i64) 0, .v .str []], [(0, 3), (1, 3), (2, 9)], 0, true⟩
theorem ti106_ok : TiOk Tryz.prog 106 ti106 := TiOk.of (z := (@Go.Value.agg (@Array.mk Go.Value (@List.cons Go.Value (@Go.Value.int Go.IntKind.i64 (@Int.ofNat 0)) (@List.cons Go.Value (@Go.Value.int Go.IntKind.i64 (@Int.ofNat 0)) (@List.cons Go.Value (@Go.Value.string (@ByteArray.mk (@Array.mk UInt8 (@List.nil UInt8)))) (@List.nil Go.Value))))))) (d := (@Go.TypeDesc.struct (@Array.mk Go.Field (@List.cons Go.Field (@Go.Field.mk "No" 3 0 Bool.false "" "" 0) (@List.cons Go.Field (@Go.Field.mk "Indent" 3 1 Bool.false "" "" 8) (@List.cons Go.Field (@Go.Field.mk "Text" 9 2 Bool.false "" "" 16) (@List.nil Go.Field))))))) (by kernel_rfl) (by kernel_rfl) (by kernel_rfl) ⟨by kernel_rfl, by kernel_rfl⟩ ⟨_, rfl⟩ ⟨_, rfl, by kernel_rfl, by kernel_rfl⟩ (by kernel_rfl) (fun _ _ => by kernel_rfl)
def ti108 : TI := ⟨.ptr, 1, 8, none, [.nilptr], [], 110, false⟩
theorem ti108_ok : TiOk Tryz.prog 108 ti108 := TiOk.of (z := (@Go.Value.pointer (@Option.none Go.Addr))) (d := (@Go.TypeDesc.pointer 110)) (by kernel_rfl) (by kernel_rfl) (by kernel_rfl) trivial rfl rfl (by kernel_rfl) (fun h => nomatch h)
def ti110 : TI := ⟨.struct, 5, 72, some (.pr (.sl (.pr (.int .i64) (.pr (.int .i64) (.pr (.int .i64) (.pr .str .bool))))) (.pr (.int .i64) (.pr (.sl (.pr (.int .i64) (.pr (.int .i64) (.pr .str (.pr .bool (.pr (.sl .str) (.sl (.int .i64)))))))) (.pr (.int .i64) (.int .i64))))), [.nilsl, .v (.int .i64) 0, .nilsl, .v (.int .i64) 0, .v (.int .i64) 0], [(0, 56), (1, 3), (2, 24), (3, 28)], 0, false⟩
theorem ti110_ok : TiOk Tryz.prog 110 ti110 := TiOk.of (z := (@Go.Value.agg (@Array.mk Go.Value (@List.cons Go.Value (@Go.Value.slice (@Option.none Go.Addr) 0 0) (@List.cons Go.Value (@Go.Value.int Go.IntKind.i64 (@Int.ofNat 0)) (@List.cons Go.Value (@Go.Value.slice (@Option.none Go.Addr) 0 0) (@List.cons Go.Value (@Go.Value.int Go.IntKind.i64 (@Int.ofNat 0)) (@List.cons Go.Value (@Go.Value.int Go.IntKind.i64 (@Int.ofNat 0)) (@List.nil Go.Value))))))))) (d := (@Go.TypeDesc.struct (@Array.mk Go.Field (@List.cons Go.Field (@Go.Field.mk "l" 56 0 Bool.false "" "turncock/turncockref10" 0) (@List.cons Go.Field (@Go.Field.mk "at" 3 1 Bool.false "" "turncock/turncockref10" 24) (@List.cons Go.Field (@Go.Field.mk "nodes" 24 2 Bool.false "" "turncock/turncockref10" 32) (@List.cons Go.Field (@Go.Field.mk "fault" 28 3 Bool.false "" "turncock/turncockref10" 56) (@List.nil Go.Field)))))))) (by kernel_rfl) (by kernel_rfl) (by kernel_rfl) ⟨by kernel_rfl, by kernel_rfl⟩ ⟨_, rfl⟩ ⟨_, rfl, by kernel_rfl, by kernel_rfl⟩ (by kernel_rfl) (fun h => nomatch h)
def ti135 : TI := ⟨.ptr, 1, 8, none, [.nilptr], [], 5, false⟩
theorem ti135_ok : TiOk Tryz.prog 135 ti135 := TiOk.of (z := (@Go.Value.pointer (@Option.none Go.Addr))) (d := (@Go.TypeDesc.pointer 5)) (by kernel_rfl) (by kernel_rfl) (by kernel_rfl) trivial rfl rfl (by kernel_rfl) (fun h => nomatch h)
def ti146 : TI := ⟨.ptr, 1, 8, none, [.nilptr], [], 142, false⟩
theorem ti146_ok : TiOk Tryz.prog 146 ti146 := TiOk.of (z := (@Go.Value.pointer (@Option.none Go.Addr))) (d := (@Go.TypeDesc.pointer 142)) (by kernel_rfl) (by kernel_rfl) (by kernel_rfl) trivial rfl rfl (by kernel_rfl) (fun h => nomatch h)
def ti149 : TI := ⟨.ptr, 1, 8, none, [.nilptr], [], 151, false⟩
theorem ti149_ok : TiOk Tryz.prog 149 ti149 := TiOk.of (z := (@Go.Value.pointer (@Option.none Go.Addr))) (d := (@Go.TypeDesc.pointer 151)) (by kernel_rfl) (by kernel_rfl) (by kernel_rfl) trivial rfl rfl (by kernel_rfl) (fun h => nomatch h)
def ti151 : TI := ⟨.struct, 5, 64, some (.pr (.pr (.int .i64) (.pr (.int .i64) .str)) (.pr (.int .i64) (.sl (.pr (.int .i64) (.pr (.int .i64) (.pr (.int .i64) (.pr .str .bool))))))), [.v (.int .i64) 0, .v (.int .i64) 0, .v .str [], .v (.int .i64) 0, .nilsl], [(0, 106), (3, 3), (4, 56)], 0, false⟩
theorem ti151_ok : TiOk Tryz.prog 151 ti151 := TiOk.of (z := (@Go.Value.agg (@Array.mk Go.Value (@List.cons Go.Value (@Go.Value.int Go.IntKind.i64 (@Int.ofNat 0)) (@List.cons Go.Value (@Go.Value.int Go.IntKind.i64 (@Int.ofNat 0)) (@List.cons Go.Value (@Go.Value.string (@ByteArray.mk (@Array.mk UInt8 (@List.nil UInt8)))) (@List.cons Go.Value (@Go.Value.int Go.IntKind.i64 (@Int.ofNat 0)) (@List.cons Go.Value (@Go.Value.slice (@Option.none Go.Addr) 0 0) (@List.nil Go.Value))))))))) (d := (@Go.TypeDesc.struct (@Array.mk Go.Field (@List.cons Go.Field (@Go.Field.mk "l" 106 0 Bool.false "" "turncock/lex" 0) (@List.cons Go.Field (@Go.Field.mk "at" 3 3 Bool.false "" "turncock/lex" 32) (@List.cons Go.Field (@Go.Field.mk "out" 56 4 Bool.false "" "turncock/lex" 40) (@List.nil Go.Field))))))) (by kernel_rfl) (by kernel_rfl) (by kernel_rfl) ⟨by kernel_rfl, by kernel_rfl⟩ ⟨_, rfl⟩ ⟨_, rfl, by kernel_rfl, by kernel_rfl⟩ (by kernel_rfl) (fun h => nomatch h)
def ti172 : TI := ⟨.ptr, 1, 8, none, [.nilptr], [], 52, false⟩
theorem ti172_ok : TiOk Tryz.prog 172 ti172 := TiOk.of (z := (@Go.Value.pointer (@Option.none Go.Addr))) (d := (@Go.TypeDesc.pointer 52)) (by kernel_rfl) (by kernel_rfl) (by kernel_rfl) trivial rfl rfl (by kernel_rfl) (fun h => nomatch h)
def tyL : List (Nat × TI) := [(1, ti1), (2, ti2), (3, ti3), (4, ti4), (5, ti5), (9, ti9), (20, ti20), (21, ti21), (22, ti22), (24, ti24), (26, ti26), (28, ti28), (33, ti33), (41, ti41), (45, ti45), (52, ti52), (53, ti53), (56, ti56), (79, ti79), (83, ti83), (85, ti85), (87, ti87), (88, ti88), (93, ti93), (95, ti95), (97, ti97), (98, ti98), (101, ti101), (106, ti106), (108, ti108), (110, ti110), (135, ti135), (146, ti146), (149, ti149), (151, ti151), (172, ti172)]
def tyT : TypeId → Option TI := look tyL
theorem tyT_ok : TyOk Tryz.prog tyT := tyOk_of (all_cons ti1_ok (all_cons ti2_ok (all_cons ti3_ok (all_cons ti4_ok (all_cons ti5_ok (all_cons ti9_ok (all_cons ti20_ok (all_cons ti21_ok (all_cons ti22_ok (all_cons ti24_ok (all_cons ti26_ok (all_cons ti28_ok (all_cons ti33_ok (all_cons ti41_ok (all_cons ti45_ok (all_cons ti52_ok (all_cons ti53_ok (all_cons ti56_ok (all_cons ti79_ok (all_cons ti83_ok (all_cons ti85_ok (all_cons ti87_ok (all_cons ti88_ok (all_cons ti93_ok (all_cons ti95_ok (all_cons ti97_ok (all_cons ti98_ok (all_cons ti101_ok (all_cons ti106_ok (all_cons ti108_ok (all_cons ti110_ok (all_cons ti135_ok (all_cons ti146_ok (all_cons ti149_ok (all_cons ti151_ok (all_cons ti172_ok (all_nil)))))))))))))))))))))))))))))))))))))
end Go.Proofs.YtpfbdepoammjmaaGreatDoor.Pvm

set_option maxRecDepth 1000000
set_option maxHeartbeats 0
namespace Go.Proofs.YtpfbdepoammjmaaGreatDoor.Pvm
open Go Go.Proofs
def wqvc : List LS := [.obj 1 [.sl (.pr (.int .i64) (.pr (.int .i64) (.pr .str (.pr .bool (.pr (.sl .str) (.sl (.int .i64)))))))], .obj 2 [.any, .any]]
noncomputable def wqvd (k : Nat) : CTab := CTab.nil
def wqgc {R : Type} (K : ((List (Int × (Int × ((List UInt8) × (Bool × ((List (List UInt8)) × (List Int))))))) → Int → Int → Option R)) : Out → Option R
  | .ret [] [(1, .var 26 [.v (.sl (.pr (.int .i64) (.pr (.int .i64) (.pr .str (.pr .bool (.pr (.sl .str) (.sl (.int .i64)))))))) y0]), (2, .var 28 [.v (.int .i64) y1, .v (.int .i64) y2])] => K y0 y1 y2
  | _ => none
def wqsr : RetSpec := ⟨[], [(1, .obj 1 [.sl (.pr (.int .i64) (.pr (.int .i64) (.pr .str (.pr .bool (.pr (.sl .str) (.sl (.int .i64)))))))]), (2, .obj 2 [.any, .any])], []⟩
def wqyg : List (Nat × CutSpec) := []
def wqve : List (Nat × Plan) := [(7, (.of [(0, 1), (1, 2), (2, 0), (3, 0)] .done))]
noncomputable def wqk7 (k : Nat) : Ctx := ⟨tyT, wqyg, wqvd k, [], [1, 2], wqve, @SH⟩
noncomputable def wqcu : Code := Tryz.f41.body.getD .skip
noncomputable def wqvf (k : Nat) {R : Type}  (x0 : (List (Int × (Int × ((List UInt8) × (Bool × ((List (List UInt8)) × (List Int)))))))) (x1 x2 : Int) (K : ((List (Int × (Int × ((List UInt8) × (Bool × ((List (List UInt8)) × (List Int))))))) → Int → Int → Option R)) : Option R := (K x0 x1 x2)
theorem wqyh (k : Nat) {R : Type} (I : Nat → St → Option R) (x0 : (List (Int × (Int × ((List UInt8) × (Bool × ((List (List UInt8)) × (List Int)))))))) (x1 x2 : Int) (K : ((List (Int × (Int × ((List UInt8) × (Bool × ((List (List UInt8)) × (List Int))))))) → Int → Int → Option R)) : fnCK (wqk7 k) k (at_ [1] wqcu) 13 [] wqsr [.ptr 1 0, .ptr 2 0] 5 (.nilif) [(1, .var 26 [.v (.sl (.pr (.int .i64) (.pr (.int .i64) (.pr .str (.pr .bool (.pr (.sl .str) (.sl (.int .i64)))))))) x0]), (2, .var 28 [.v (.int .i64) x1, .v (.int .i64) x2])] (wqgc K) = wqvf k  x0 x1 x2 K := by kernel_rfl
noncomputable def wqei (k : Nat) {R : Type} (x0 : (List (Int × (Int × ((List UInt8) × (Bool × ((List (List UInt8)) × (List Int)))))))) (x1 x2 : Int) (K : ((List (Int × (Int × ((List UInt8) × (Bool × ((List (List UInt8)) × (List Int))))))) → Int → Int → Option R)) : Option R := wqvf k  x0 x1 x2 K
theorem wqyi (k : Nat) {R : Type} (x0 : (List (Int × (Int × ((List UInt8) × (Bool × ((List (List UInt8)) × (List Int)))))))) (x1 x2 : Int) (K : ((List (Int × (Int × ((List UInt8) × (Bool × ((List (List UInt8)) × (List Int))))))) → Int → Int → Option R)) : fnCK (wqk7 k) k (at_ [1] wqcu) 13 [] wqsr [.ptr 1 0, .ptr 2 0] 5 (.nilif) [(1, .var 26 [.v (.sl (.pr (.int .i64) (.pr (.int .i64) (.pr .str (.pr .bool (.pr (.sl .str) (.sl (.int .i64)))))))) x0]), (2, .var 28 [.v (.int .i64) x1, .v (.int .i64) x2])] (wqgc K) = wqei k x0 x1 x2 K := by
  exact wqyh k (fun _ _ => none) x0 x1 x2 K
noncomputable def wqq5 (k : Nat) {R : Type} : PV → List PV → List (Nm × HObj) → (Out → Option R) → Option R
  | .nilif, [.ptr 1 0, .ptr 2 0], [(1, .var 26 [.v (.sl (.pr (.int .i64) (.pr (.int .i64) (.pr .str (.pr .bool (.pr (.sl .str) (.sl (.int .i64)))))))) x0]), (2, .var 28 [.v (.int .i64) x1, .v (.int .i64) x2])], K => wqei k x0 x1 x2 (fun y0 y1 y2 => K (.ret [] [(1, .var 26 [.v (.sl (.pr (.int .i64) (.pr (.int .i64) (.pr .str (.pr .bool (.pr (.sl .str) (.sl (.int .i64)))))))) y0]), (2, .var 28 [.v (.int .i64) y1, .v (.int .i64) y2])]))
  | _, _, _, _ => none
theorem wqyj (k : Nat) : (wqvd k).Ok Tryz.prog := CTab.nil_ok
theorem wq12t (k : Nat) {rec : PV} {ps : List PV} {hp : List (Nm × HObj)} {R : Type} {K : Out → Option R} {r : R} (h : wqq5 k rec ps hp K = some r) : DoesToD Tryz.prog 41 rec ps hp fun out => K out = some r := by
  unfold wqq5 at h
  split at h
  · rw [← wqyi] at h
    have := fnCK_ok (P := Tryz.prog) (cx := wqk7 k) (f := 41) ⟨tyT_ok, wqyj k, fun _ _ => rfl⟩ (by kernel_rfl) (fn := Tryz.f41) (id := 0) (ops := opsAt (at_ [0] wqcu)) (c := at_ [1] wqcu) (by kernel_rfl) (by kernel_rfl) (by kernel_rfl) (rs := []) (by kernel_rfl) (by kernel_rfl) h
    exact this.mono fun out ho => by
      unfold wqgc at ho
      split at ho <;> first | exact ho | cases ho
  · cases h
end Go.Proofs.YtpfbdepoammjmaaGreatDoor.Pvm

set_option maxRecDepth 1000000
set_option maxHeartbeats 0
namespace Go.Proofs.YtpfbdepoammjmaaGreatDoor.Pvm
open Go Go.Proofs
noncomputable def wqvg (k : Nat) : CTab := CTab.nil
def wqgd {R : Type} (K : ((List (Int × (Int × ((List UInt8) × (Bool × ((List (List UInt8)) × (List Int))))))) → Int → Int → Option R)) : Out → Option R
  | .ret [] [(1, .var 26 [.v (.sl (.pr (.int .i64) (.pr (.int .i64) (.pr .str (.pr .bool (.pr (.sl .str) (.sl (.int .i64)))))))) y0]), (2, .var 28 [.v (.int .i64) y1, .v (.int .i64) y2])] => K y0 y1 y2
  | _ => none
def wqss : RetSpec := ⟨[], [(1, .obj 1 [.sl (.pr (.int .i64) (.pr (.int .i64) (.pr .str (.pr .bool (.pr (.sl .str) (.sl (.int .i64)))))))]), (2, .obj 2 [.any, .any])], []⟩
def wqyk : List (Nat × CutSpec) := []
def wqvh : List (Nat × Plan) := [(7, (.of [(0, 1), (1, 2), (2, 0), (3, 0)] .done))]
noncomputable def wqk8 (k : Nat) : Ctx := ⟨tyT, wqyk, wqvg k, [], [1, 2], wqvh, @SH⟩
noncomputable def wqcv : Code := Tryz.f41.body.getD .skip
noncomputable def wqvi (k : Nat) {R : Type}  (x0 : (List (Int × (Int × ((List UInt8) × (Bool × ((List (List UInt8)) × (List Int)))))))) (x1 x2 x3 x4 : Int) (K : ((List (Int × (Int × ((List UInt8) × (Bool × ((List (List UInt8)) × (List Int))))))) → Int → Int → Option R)) : Option R := (K [] x3 x4)
theorem wqyl (k : Nat) {R : Type} (I : Nat → St → Option R) (x0 : (List (Int × (Int × ((List UInt8) × (Bool × ((List (List UInt8)) × (List Int)))))))) (x1 x2 x3 x4 : Int) (K : ((List (Int × (Int × ((List UInt8) × (Bool × ((List (List UInt8)) × (List Int))))))) → Int → Int → Option R)) : fnCK (wqk8 k) k (at_ [1] wqcv) 13 [] wqss [.ptr 1 0, .ptr 2 0] 5 (.ifc 28 (.agg [.v (.int .i64) x3, .v (.int .i64) x4])) [(1, .var 26 [.v (.sl (.pr (.int .i64) (.pr (.int .i64) (.pr .str (.pr .bool (.pr (.sl .str) (.sl (.int .i64)))))))) x0]), (2, .var 28 [.v (.int .i64) x1, .v (.int .i64) x2])] (wqgd K) = wqvi k  x0 x1 x2 x3 x4 K := by kernel_rfl
noncomputable def wqa0 (k : Nat) {R : Type} (x0 : (List (Int × (Int × ((List UInt8) × (Bool × ((List (List UInt8)) × (List Int)))))))) (x1 x2 x3 x4 : Int) (K : ((List (Int × (Int × ((List UInt8) × (Bool × ((List (List UInt8)) × (List Int))))))) → Int → Int → Option R)) : Option R := wqvi k  x0 x1 x2 x3 x4 K
theorem wqym (k : Nat) {R : Type} (x0 : (List (Int × (Int × ((List UInt8) × (Bool × ((List (List UInt8)) × (List Int)))))))) (x1 x2 x3 x4 : Int) (K : ((List (Int × (Int × ((List UInt8) × (Bool × ((List (List UInt8)) × (List Int))))))) → Int → Int → Option R)) : fnCK (wqk8 k) k (at_ [1] wqcv) 13 [] wqss [.ptr 1 0, .ptr 2 0] 5 (.ifc 28 (.agg [.v (.int .i64) x3, .v (.int .i64) x4])) [(1, .var 26 [.v (.sl (.pr (.int .i64) (.pr (.int .i64) (.pr .str (.pr .bool (.pr (.sl .str) (.sl (.int .i64)))))))) x0]), (2, .var 28 [.v (.int .i64) x1, .v (.int .i64) x2])] (wqgd K) = wqa0 k x0 x1 x2 x3 x4 K := by
  exact wqyl k (fun _ _ => none) x0 x1 x2 x3 x4 K
noncomputable def wqq6 (k : Nat) {R : Type} : PV → List PV → List (Nm × HObj) → (Out → Option R) → Option R
  | .ifc 28 (.agg [.v (.int .i64) x3, .v (.int .i64) x4]), [.ptr 1 0, .ptr 2 0], [(1, .var 26 [.v (.sl (.pr (.int .i64) (.pr (.int .i64) (.pr .str (.pr .bool (.pr (.sl .str) (.sl (.int .i64)))))))) x0]), (2, .var 28 [.v (.int .i64) x1, .v (.int .i64) x2])], K => wqa0 k x0 x1 x2 x3 x4 (fun y0 y1 y2 => K (.ret [] [(1, .var 26 [.v (.sl (.pr (.int .i64) (.pr (.int .i64) (.pr .str (.pr .bool (.pr (.sl .str) (.sl (.int .i64)))))))) y0]), (2, .var 28 [.v (.int .i64) y1, .v (.int .i64) y2])]))
  | _, _, _, _ => none
theorem wqyn (k : Nat) : (wqvg k).Ok Tryz.prog := CTab.nil_ok
theorem wq12u (k : Nat) {rec : PV} {ps : List PV} {hp : List (Nm × HObj)} {R : Type} {K : Out → Option R} {r : R} (h : wqq6 k rec ps hp K = some r) : DoesToD Tryz.prog 41 rec ps hp fun out => K out = some r := by
  unfold wqq6 at h
  split at h
  · rw [← wqym] at h
    have := fnCK_ok (P := Tryz.prog) (cx := wqk8 k) (f := 41) ⟨tyT_ok, wqyn k, fun _ _ => rfl⟩ (by kernel_rfl) (fn := Tryz.f41) (id := 0) (ops := opsAt (at_ [0] wqcv)) (c := at_ [1] wqcv) (by kernel_rfl) (by kernel_rfl) (by kernel_rfl) (rs := []) (by kernel_rfl) (by kernel_rfl) h
    exact this.mono fun out ho => by
      unfold wqgd at ho
      split at ho <;> first | exact ho | cases ho
  · cases h
end Go.Proofs.YtpfbdepoammjmaaGreatDoor.Pvm

set_option maxRecDepth 1000000
set_option maxHeartbeats 0
namespace Go.Proofs.YtpfbdepoammjmaaGreatDoor.Pvm
open Go Go.Proofs
def wqfq : List LS := [.any, .any]
noncomputable def wq103 (k : Nat) : CTab := CTab.nil
def wqi3 {R : Type} (E : (Int → Int → Option R)) : Out → Option R
  | .pan (.ifc 28 (.agg [.v (.int .i64) z0, .v (.int .i64) z1])) [] => E z0 z1
  | _ => none
def wqvj : RetSpec := ⟨[], [], []⟩
def wq10x : List (Nat × CutSpec) := []
def wqyo : List (Nat × Plan) := []
noncomputable def wqo6 (k : Nat) : Ctx := ⟨tyT, wq10x, wq103 k, [], [], wqyo, @SH⟩
noncomputable def wqi4 : Code := Tryz.f42.body.getD .skip
noncomputable def wq104 (k : Nat) {R : Type}  (x0 x1 : Int) (E : (Int → Int → Option R)) : Option R := (E x0 x1)
theorem wq10y (k : Nat) {R : Type} (I : Nat → St → Option R) (x0 x1 : Int) (E : (Int → Int → Option R)) : fnK (wqo6 k) k wqi4 8 [] wqvj [.v (.int .i64) x0, .v (.int .i64) x1] [] (wqi3 E) = wq104 k  x0 x1 E := by kernel_rfl
noncomputable def wq79 (k : Nat) {R : Type} (x0 x1 : Int) (E : (Int → Int → Option R)) : Option R := wq104 k  x0 x1 E
theorem wq10z (k : Nat) {R : Type} (x0 x1 : Int) (E : (Int → Int → Option R)) : fnK (wqo6 k) k wqi4 8 [] wqvj [.v (.int .i64) x0, .v (.int .i64) x1] [] (wqi3 E) = wq79 k x0 x1 E := by
  exact wq10y k (fun _ _ => none) x0 x1 E
noncomputable def wqaz (k : Nat) {R : Type} : List PV → List (Nm × HObj) → (Out → Option R) → Option R
  | [.v (.int .i64) x0, .v (.int .i64) x1], [], K => wq79 k x0 x1  (fun z0 z1 => K (.pan (.ifc 28 (.agg [.v (.int .i64) z0, .v (.int .i64) z1])) []))
  | _, _, _ => none
theorem wq110 (k : Nat) : (wq103 k).Ok Tryz.prog := CTab.nil_ok
theorem wqm6 (k : Nat) {ps : List PV} {hp : List (Nm × HObj)} {R : Type} {K : Out → Option R} {r : R} (h : wqaz k ps hp K = some r) : DoesTo Tryz.prog 42 ps hp fun out => K out = some r := by
  unfold wqaz at h
  split at h
  · rw [← wq10z] at h
    have := fn_ok (P := Tryz.prog) (cx := wqo6 k) (f := 42) ⟨tyT_ok, wq110 k, fun _ _ => rfl⟩ (by kernel_rfl) (fn := Tryz.f42) (c := wqi4) (by kernel_rfl) (by kernel_rfl) (by kernel_rfl) (rs := []) (by kernel_rfl) (by kernel_rfl) h
    exact this.mono fun out ho => by
      unfold wqi3 at ho
      split at ho <;> first | exact ho | cases ho
  · cases h
end Go.Proofs.YtpfbdepoammjmaaGreatDoor.Pvm

set_option maxRecDepth 1000000
set_option maxHeartbeats 0
namespace Go.Proofs.YtpfbdepoammjmaaGreatDoor.Pvm
open Go Go.Proofs
abbrev wq7a (R : Type) : Type := ((List (Int × (Int × (Int × ((List UInt8) × Bool))))) → (List (Int × (Int × ((List UInt8) × (Bool × ((List (List UInt8)) × (List Int))))))) → Bool → Option R)
def wqfr : List LS := [.obj 1 [.sl (.pr (.int .i64) (.pr (.int .i64) (.pr (.int .i64) (.pr .str .bool)))), .own 21 52 (.pr (.int .i64) (.pr (.int .i64) (.pr .str (.pr .bool (.pr (.sl .str) (.sl (.int .i64)))))))], .any, .any]
noncomputable def wqj5 (k : Nat) : CTab := CTab.nil
def wqa1 {R : Type} (K : wq7a R) : Out → Option R
  | .ret [.v .bool y2] [(21, .row 52 (.pr (.int .i64) (.pr (.int .i64) (.pr .str (.pr .bool (.pr (.sl .str) (.sl (.int .i64))))))) y1), (1, .var 95 [.v (.sl (.pr (.int .i64) (.pr (.int .i64) (.pr (.int .i64) (.pr .str .bool))))) y0, .row 21])] => K y0 y1 y2
  | _ => none
def wqha : RetSpec := ⟨[.any], [(1, .obj 1 [.sl (.pr (.int .i64) (.pr (.int .i64) (.pr (.int .i64) (.pr .str .bool)))), .own 21 52 (.pr (.int .i64) (.pr (.int .i64) (.pr .str (.pr .bool (.pr (.sl .str) (.sl (.int .i64)))))))])], []⟩
def wqo7 : List (Nat × CutSpec) := []
def wqmd : List (Nat × Plan) := []
noncomputable def wqc6 (k : Nat) : Ctx := ⟨tyT, wqo7, wqj5 k, [], [1], wqmd, @SH⟩
noncomputable def wqa2 : Code := Tryz.f113.body.getD .skip
noncomputable def wqdf (k : Nat) {R : Type}  (x0 : (List (Int × (Int × (Int × ((List UInt8) × Bool)))))) (x1 : (List (Int × (Int × ((List UInt8) × (Bool × ((List (List UInt8)) × (List Int)))))))) (x2 x3 : Int) (K : wq7a R) : Option R := (@cond (@Option R) (@Bool.or (@Bool.not (@BEq.beq (@Kd.T Kd.bool) (@instBEqOfDecidableEq (@Kd.T Kd.bool) @instDecidableEqBool) (@Decidable.decide (@GT.gt Int Int.instLTInt (@Nat.cast Int instNatCastInt (@List.length (@Kd.T (@Kd.pr kI (@Kd.pr kI (@Kd.pr kI (@Kd.pr Kd.str Kd.bool))))) x0)) (0 : Int)) (@Int.decLt (0 : Int) (@Nat.cast Int instNatCastInt (@List.length (@Kd.T (@Kd.pr kI (@Kd.pr kI (@Kd.pr kI (@Kd.pr Kd.str Kd.bool))))) x0)))) Bool.true)) (@inb (0 : Int) (@Nat.cast Int instNatCastInt (@List.length (@Kd.T (@Kd.pr kI (@Kd.pr kI (@Kd.pr kI (@Kd.pr Kd.str Kd.bool))))) x0)))) (@cond (@Option R) (@Bool.or (@Bool.not (@BEq.beq (@Kd.T Kd.bool) (@instBEqOfDecidableEq (@Kd.T Kd.bool) @instDecidableEqBool) (@cond (@Kd.T Kd.bool) (@Decidable.decide (@GT.gt Int Int.instLTInt (@Nat.cast Int instNatCastInt (@List.length (@Kd.T (@Kd.pr kI (@Kd.pr kI (@Kd.pr kI (@Kd.pr Kd.str Kd.bool))))) x0)) (0 : Int)) (@Int.decLt (0 : Int) (@Nat.cast Int instNatCastInt (@List.length (@Kd.T (@Kd.pr kI (@Kd.pr kI (@Kd.pr kI (@Kd.pr Kd.str Kd.bool))))) x0)))) (@BEq.beq Int (@instBEqOfDecidableEq Int @Int.instDecidableEq) (@List.getD (@Kd.T (@Kd.pr kI (@Kd.pr kI (@Kd.pr kI (@Kd.pr Kd.str Kd.bool))))) x0 (@Int.toNat (0 : Int)) (@Kd.zero (@Kd.pr kI (@Kd.pr kI (@Kd.pr kI (@Kd.pr Kd.str Kd.bool)))))).1 x2) Bool.false) Bool.true)) (@inb (0 : Int) (@Nat.cast Int instNatCastInt (@List.length (@Kd.T (@Kd.pr kI (@Kd.pr kI (@Kd.pr kI (@Kd.pr Kd.str Kd.bool))))) x0)))) (K x0 x1 (@cond (@Kd.T Kd.bool) (@cond (@Kd.T Kd.bool) (@Decidable.decide (@GT.gt Int Int.instLTInt (@Nat.cast Int instNatCastInt (@List.length (@Kd.T (@Kd.pr kI (@Kd.pr kI (@Kd.pr kI (@Kd.pr Kd.str Kd.bool))))) x0)) (0 : Int)) (@Int.decLt (0 : Int) (@Nat.cast Int instNatCastInt (@List.length (@Kd.T (@Kd.pr kI (@Kd.pr kI (@Kd.pr kI (@Kd.pr Kd.str Kd.bool))))) x0)))) (@BEq.beq Int (@instBEqOfDecidableEq Int @Int.instDecidableEq) (@List.getD (@Kd.T (@Kd.pr kI (@Kd.pr kI (@Kd.pr kI (@Kd.pr Kd.str Kd.bool))))) x0 (@Int.toNat (0 : Int)) (@Kd.zero (@Kd.pr kI (@Kd.pr kI (@Kd.pr kI (@Kd.pr Kd.str Kd.bool)))))).1 x2) Bool.false) (@BEq.beq Int (@instBEqOfDecidableEq Int @Int.instDecidableEq) (@List.getD (@Kd.T (@Kd.pr kI (@Kd.pr kI (@Kd.pr kI (@Kd.pr Kd.str Kd.bool))))) x0 (@Int.toNat (0 : Int)) (@Kd.zero (@Kd.pr kI (@Kd.pr kI (@Kd.pr kI (@Kd.pr Kd.str Kd.bool)))))).2.2.1 x3) Bool.false)) (@Option.none R)) (@Option.none R))
theorem wqo8 (k : Nat) {R : Type} (I : Nat → St → Option R) (x0 : (List (Int × (Int × (Int × ((List UInt8) × Bool)))))) (x1 : (List (Int × (Int × ((List UInt8) × (Bool × ((List (List UInt8)) × (List Int)))))))) (x2 x3 : Int) (K : wq7a R) : fnK (wqc6 k) k wqa2 35 [.tmp 6] wqha [.ptr 1 0, .v (.int .i64) x2, .v (.int .i64) x3] [(21, .row 52 (.pr (.int .i64) (.pr (.int .i64) (.pr .str (.pr .bool (.pr (.sl .str) (.sl (.int .i64))))))) x1), (1, .var 95 [.v (.sl (.pr (.int .i64) (.pr (.int .i64) (.pr (.int .i64) (.pr .str .bool))))) x0, .row 21])] (wqa1 K) = wqdf k  x0 x1 x2 x3 K := by kernel_rfl
noncomputable def wq6l (k : Nat) {R : Type} (x0 : (List (Int × (Int × (Int × ((List UInt8) × Bool)))))) (x1 : (List (Int × (Int × ((List UInt8) × (Bool × ((List (List UInt8)) × (List Int)))))))) (x2 x3 : Int) (K : wq7a R) : Option R := wqdf k  x0 x1 x2 x3 K
theorem wqo9 (k : Nat) {R : Type} (x0 : (List (Int × (Int × (Int × ((List UInt8) × Bool)))))) (x1 : (List (Int × (Int × ((List UInt8) × (Bool × ((List (List UInt8)) × (List Int)))))))) (x2 x3 : Int) (K : wq7a R) : fnK (wqc6 k) k wqa2 35 [.tmp 6] wqha [.ptr 1 0, .v (.int .i64) x2, .v (.int .i64) x3] [(21, .row 52 (.pr (.int .i64) (.pr (.int .i64) (.pr .str (.pr .bool (.pr (.sl .str) (.sl (.int .i64))))))) x1), (1, .var 95 [.v (.sl (.pr (.int .i64) (.pr (.int .i64) (.pr (.int .i64) (.pr .str .bool))))) x0, .row 21])] (wqa1 K) = wq6l k x0 x1 x2 x3 K := by
  exact wqo8 k (fun _ _ => none) x0 x1 x2 x3 K
noncomputable def wq89 (k : Nat) {R : Type} : List PV → List (Nm × HObj) → (Out → Option R) → Option R
  | [.ptr 1 0, .v (.int .i64) x2, .v (.int .i64) x3], [(21, .row 52 (.pr (.int .i64) (.pr (.int .i64) (.pr .str (.pr .bool (.pr (.sl .str) (.sl (.int .i64))))))) x1), (1, .var 95 [.v (.sl (.pr (.int .i64) (.pr (.int .i64) (.pr (.int .i64) (.pr .str .bool))))) x0, .row 21])], K => wq6l k x0 x1 x2 x3 (fun y0 y1 y2 => K (.ret [.v .bool y2] [(21, .row 52 (.pr (.int .i64) (.pr (.int .i64) (.pr .str (.pr .bool (.pr (.sl .str) (.sl (.int .i64))))))) y1), (1, .var 95 [.v (.sl (.pr (.int .i64) (.pr (.int .i64) (.pr (.int .i64) (.pr .str .bool))))) y0, .row 21])]))
  | _, _, _ => none
theorem wqoa (k : Nat) : (wqj5 k).Ok Tryz.prog := CTab.nil_ok
theorem wqj6 (k : Nat) {ps : List PV} {hp : List (Nm × HObj)} {R : Type} {K : Out → Option R} {r : R} (h : wq89 k ps hp K = some r) : DoesTo Tryz.prog 113 ps hp fun out => K out = some r := by
  unfold wq89 at h
  split at h
  · rw [← wqo9] at h
    have := fn_ok (P := Tryz.prog) (cx := wqc6 k) (f := 113) ⟨tyT_ok, wqoa k, fun _ _ => rfl⟩ (by kernel_rfl) (fn := Tryz.f113) (c := wqa2) (by kernel_rfl) (by kernel_rfl) (by kernel_rfl) (rs := [.tmp 6]) (by kernel_rfl) (by kernel_rfl) h
    exact this.mono fun out ho => by
      unfold wqa1 at ho
      split at ho <;> first | exact ho | cases ho
  · cases h
end Go.Proofs.YtpfbdepoammjmaaGreatDoor.Pvm

set_option maxRecDepth 1000000
set_option maxHeartbeats 0
namespace Go.Proofs.YtpfbdepoammjmaaGreatDoor.Pvm
open Go Go.Proofs
abbrev wq7b (R : Type) : Type := ((List (Int × (Int × (Int × ((List UInt8) × Bool))))) → (List (Int × (Int × ((List UInt8) × (Bool × ((List (List UInt8)) × (List Int))))))) → Int → Int → Int → (List UInt8) → Bool → Option R)
def wqb8 : List LS := [.obj 1 [.sl (.pr (.int .i64) (.pr (.int .i64) (.pr (.int .i64) (.pr .str .bool)))), .own 21 52 (.pr (.int .i64) (.pr (.int .i64) (.pr .str (.pr .bool (.pr (.sl .str) (.sl (.int .i64)))))))]]
noncomputable def wqj7 (k : Nat) : CTab := CTab.nil
def wqa3 {R : Type} (K : wq7b R) : Out → Option R
  | .ret [.agg [.v (.int .i64) y2, .v (.int .i64) y3, .v (.int .i64) y4, .v .str y5, .v .bool y6]] [(21, .row 52 (.pr (.int .i64) (.pr (.int .i64) (.pr .str (.pr .bool (.pr (.sl .str) (.sl (.int .i64))))))) y1), (1, .var 95 [.v (.sl (.pr (.int .i64) (.pr (.int .i64) (.pr (.int .i64) (.pr .str .bool))))) y0, .row 21])] => K y0 y1 y2 y3 y4 y5 y6
  | _ => none
def wqhb : RetSpec := ⟨[.ag [.any, .any, .any, .any, .any]], [(1, .obj 1 [.sl (.pr (.int .i64) (.pr (.int .i64) (.pr (.int .i64) (.pr .str .bool)))), .own 21 52 (.pr (.int .i64) (.pr (.int .i64) (.pr .str (.pr .bool (.pr (.sl .str) (.sl (.int .i64)))))))])], []⟩
def wqob : List (Nat × CutSpec) := []
def wqme : List (Nat × Plan) := []
noncomputable def wqc7 (k : Nat) : Ctx := ⟨tyT, wqob, wqj7 k, [], [1], wqme, @SH⟩
noncomputable def wqa4 : Code := Tryz.f76.body.getD .skip
noncomputable def wqdg (k : Nat) {R : Type}  (x0 : (List (Int × (Int × (Int × ((List UInt8) × Bool)))))) (x1 : (List (Int × (Int × ((List UInt8) × (Bool × ((List (List UInt8)) × (List Int)))))))) (K : wq7b R) : Option R := (@cond (@Option R) (@inb (0 : Int) (@Nat.cast Int instNatCastInt (@List.length (@Kd.T (@Kd.pr kI (@Kd.pr kI (@Kd.pr kI (@Kd.pr Kd.str Kd.bool))))) x0))) (@cond (@Option R) (@bnd (1 : Int) (@Nat.cast Int instNatCastInt (@List.length (@Kd.T (@Kd.pr kI (@Kd.pr kI (@Kd.pr kI (@Kd.pr Kd.str Kd.bool))))) x0)) (@Nat.cast Int instNatCastInt (@List.length (@Kd.T (@Kd.pr kI (@Kd.pr kI (@Kd.pr kI (@Kd.pr Kd.str Kd.bool))))) x0))) (K (@cut (@Kd.T (@Kd.pr kI (@Kd.pr kI (@Kd.pr kI (@Kd.pr Kd.str Kd.bool))))) x0 (1 : Int) (@Nat.cast Int instNatCastInt (@List.length (@Kd.T (@Kd.pr kI (@Kd.pr kI (@Kd.pr kI (@Kd.pr Kd.str Kd.bool))))) x0))) x1 (@List.getD (@Kd.T (@Kd.pr kI (@Kd.pr kI (@Kd.pr kI (@Kd.pr Kd.str Kd.bool))))) x0 (@Int.toNat (0 : Int)) (@Kd.zero (@Kd.pr kI (@Kd.pr kI (@Kd.pr kI (@Kd.pr Kd.str Kd.bool)))))).1 (@List.getD (@Kd.T (@Kd.pr kI (@Kd.pr kI (@Kd.pr kI (@Kd.pr Kd.str Kd.bool))))) x0 (@Int.toNat (0 : Int)) (@Kd.zero (@Kd.pr kI (@Kd.pr kI (@Kd.pr kI (@Kd.pr Kd.str Kd.bool)))))).2.1 (@List.getD (@Kd.T (@Kd.pr kI (@Kd.pr kI (@Kd.pr kI (@Kd.pr Kd.str Kd.bool))))) x0 (@Int.toNat (0 : Int)) (@Kd.zero (@Kd.pr kI (@Kd.pr kI (@Kd.pr kI (@Kd.pr Kd.str Kd.bool)))))).2.2.1 (@List.getD (@Kd.T (@Kd.pr kI (@Kd.pr kI (@Kd.pr kI (@Kd.pr Kd.str Kd.bool))))) x0 (@Int.toNat (0 : Int)) (@Kd.zero (@Kd.pr kI (@Kd.pr kI (@Kd.pr kI (@Kd.pr Kd.str Kd.bool)))))).2.2.2.1 (@List.getD (@Kd.T (@Kd.pr kI (@Kd.pr kI (@Kd.pr kI (@Kd.pr Kd.str Kd.bool))))) x0 (@Int.toNat (0 : Int)) (@Kd.zero (@Kd.pr kI (@Kd.pr kI (@Kd.pr kI (@Kd.pr Kd.str Kd.bool)))))).2.2.2.2) (@Option.none R)) (@Option.none R))
theorem wqoc (k : Nat) {R : Type} (I : Nat → St → Option R) (x0 : (List (Int × (Int × (Int × ((List UInt8) × Bool)))))) (x1 : (List (Int × (Int × ((List UInt8) × (Bool × ((List (List UInt8)) × (List Int)))))))) (K : wq7b R) : fnK (wqc7 k) k wqa4 19 [.cell 2 97] wqhb [.ptr 1 0] [(21, .row 52 (.pr (.int .i64) (.pr (.int .i64) (.pr .str (.pr .bool (.pr (.sl .str) (.sl (.int .i64))))))) x1), (1, .var 95 [.v (.sl (.pr (.int .i64) (.pr (.int .i64) (.pr (.int .i64) (.pr .str .bool))))) x0, .row 21])] (wqa3 K) = wqdg k  x0 x1 K := by kernel_rfl
noncomputable def wq5s (k : Nat) {R : Type} (x0 : (List (Int × (Int × (Int × ((List UInt8) × Bool)))))) (x1 : (List (Int × (Int × ((List UInt8) × (Bool × ((List (List UInt8)) × (List Int)))))))) (K : wq7b R) : Option R := wqdg k  x0 x1 K
theorem wqod (k : Nat) {R : Type} (x0 : (List (Int × (Int × (Int × ((List UInt8) × Bool)))))) (x1 : (List (Int × (Int × ((List UInt8) × (Bool × ((List (List UInt8)) × (List Int)))))))) (K : wq7b R) : fnK (wqc7 k) k wqa4 19 [.cell 2 97] wqhb [.ptr 1 0] [(21, .row 52 (.pr (.int .i64) (.pr (.int .i64) (.pr .str (.pr .bool (.pr (.sl .str) (.sl (.int .i64))))))) x1), (1, .var 95 [.v (.sl (.pr (.int .i64) (.pr (.int .i64) (.pr (.int .i64) (.pr .str .bool))))) x0, .row 21])] (wqa3 K) = wq5s k x0 x1 K := by
  exact wqoc k (fun _ _ => none) x0 x1 K
noncomputable def wq6p (k : Nat) {R : Type} : List PV → List (Nm × HObj) → (Out → Option R) → Option R
  | [.ptr 1 0], [(21, .row 52 (.pr (.int .i64) (.pr (.int .i64) (.pr .str (.pr .bool (.pr (.sl .str) (.sl (.int .i64))))))) x1), (1, .var 95 [.v (.sl (.pr (.int .i64) (.pr (.int .i64) (.pr (.int .i64) (.pr .str .bool))))) x0, .row 21])], K => wq5s k x0 x1 (fun y0 y1 y2 y3 y4 y5 y6 => K (.ret [.agg [.v (.int .i64) y2, .v (.int .i64) y3, .v (.int .i64) y4, .v .str y5, .v .bool y6]] [(21, .row 52 (.pr (.int .i64) (.pr (.int .i64) (.pr .str (.pr .bool (.pr (.sl .str) (.sl (.int .i64))))))) y1), (1, .var 95 [.v (.sl (.pr (.int .i64) (.pr (.int .i64) (.pr (.int .i64) (.pr .str .bool))))) y0, .row 21])]))
  | _, _, _ => none
theorem wqoe (k : Nat) : (wqj7 k).Ok Tryz.prog := CTab.nil_ok
theorem wqdh (k : Nat) {ps : List PV} {hp : List (Nm × HObj)} {R : Type} {K : Out → Option R} {r : R} (h : wq6p k ps hp K = some r) : DoesTo Tryz.prog 76 ps hp fun out => K out = some r := by
  unfold wq6p at h
  split at h
  · rw [← wqod] at h
    have := fn_ok (P := Tryz.prog) (cx := wqc7 k) (f := 76) ⟨tyT_ok, wqoe k, fun _ _ => rfl⟩ (by kernel_rfl) (fn := Tryz.f76) (c := wqa4) (by kernel_rfl) (by kernel_rfl) (by kernel_rfl) (rs := [.cell 2 97]) (by kernel_rfl) (by kernel_rfl) h
    exact this.mono fun out ho => by
      unfold wqa3 at ho
      split at ho <;> first | exact ho | cases ho
  · cases h
end Go.Proofs.YtpfbdepoammjmaaGreatDoor.Pvm

set_option maxRecDepth 1000000
set_option maxHeartbeats 0
namespace Go.Proofs.YtpfbdepoammjmaaGreatDoor.Pvm
open Go Go.Proofs
def wqc8 : List LS := [.sl .str, .any]
noncomputable def wq7z (k : Nat) : CTab := CTab.nil
def wq1a {R : Type} (K : (Int → Option R)) : Out → Option R
  | .ret [.v (.int .i64) y0] [] => K y0
  | _ => none
def wq1p : RetSpec := ⟨[.any], [], []⟩
def wqc0 : List (Nat × CutSpec) := [(1002, ⟨[(0, .sl .str), (1, .any), (7, .any), (8, .any)], []⟩)]
def wqb9 : List (Nat × Plan) := []
noncomputable def wq5 (k : Nat) : Ctx := ⟨tyT, wqc0, wq7z k, [], [], wqb9, @SH⟩
noncomputable def wqk : Code := Tryz.f148.body.getD .skip
def wq1k (s0 : (List (List UInt8))) (s1 : (List UInt8)) (s2 s3 : Int) : St := ⟨mkT [(0, .v (.sl .str) s0), (1, .v .str s1), (7, .v (.int .i64) s2), (8, .v (.int .i64) s3)], mkH []⟩
noncomputable def wq2x (k : Nat) {R : Type} (E1002 : ((List (List UInt8)) → (List UInt8) → Int → Int → Option R)) (s0 : (List (List UInt8))) (s1 : (List UInt8)) (s2 s3 : Int) (K : (Int → Option R)) : Option R := (@cond (@Option R) (@Decidable.decide (@LT.lt Int Int.instLTInt s3 s2) (@Int.decLt s3 s2)) (@cond (@Option R) (@inb s3 (@Nat.cast Int instNatCastInt (@List.length (@Kd.T Kd.str) s0))) (@cond (@Option R) (@BEq.beq (@List UInt8) (@List.instBEq UInt8 (@instBEqOfDecidableEq UInt8 @instDecidableEqUInt8)) s1 (@List.getD (@Kd.T Kd.str) s0 (@Int.toNat s3) (@Kd.zero Kd.str))) (K s3) (E1002 s0 s1 s2 (@Go.IntKind.wrap Go.IntKind.i64 (@HAdd.hAdd Int Int Int (@instHAdd Int @Int.instAdd) s3 (1 : Int))))) (@Option.none R)) (K (@Neg.neg Int @Int.instNegInt (1 : Int))))
theorem wq9b (k : Nat) {R : Type} (I : Nat → St → Option R) (s0 : (List (List UInt8))) (s1 : (List UInt8)) (s2 s3 : Int) (K : (Int → Option R)) : execK (wq5 k) k (at_ [1, 0, 1, 0, 0] wqk) (wq1k s0 s1 s2 s3) (konts (wq5 k) k I [1, 0, 1, 0, 0] wqk (outK (wq5 k) wq1p [.tmp 4] (wq1a K))) = wq2x k (fun s0 s1 s2 s3 => I 1002 (wq1k s0 s1 s2 s3)) s0 s1 s2 s3 K := by kernel_rfl
noncomputable def wq3w (k : Nat) {R : Type} (E1002 : ((List (List UInt8)) → (List UInt8) → Int → Int → Option R)) (x0 : (List (List UInt8))) (x1 : (List UInt8)) (K : (Int → Option R)) : Option R := (E1002 x0 x1 (@Nat.cast Int instNatCastInt (@List.length (@Kd.T Kd.str) x0)) (0 : Int))
theorem wqc1 (k : Nat) {R : Type} (I : Nat → St → Option R) (x0 : (List (List UInt8))) (x1 : (List UInt8)) (K : (Int → Option R)) : fnK (wq5 k) k wqk 19 [.tmp 4] wq1p [.v (.sl .str) x0, .v .str x1] [] (wq1a K) = wq3w k (fun s0 s1 s2 s3 => iter (wq5 k).pv (look (wq5 k).cuts 1002) (execK (wq5 k) k (at_ [1, 0, 1, 0, 0] wqk)) k (wq1k s0 s1 s2 s3) (konts (wq5 k) k I [1, 0, 1, 0] wqk (outK (wq5 k) wq1p [.tmp 4] (wq1a K)))) x0 x1 K := by kernel_rfl
noncomputable def wq14 (k : Nat) {R : Type}  : Nat → (List (List UInt8)) → (List UInt8) → Int → Int → (Int → Option R) → Option R
  | 0, _, _, _, _, _ => none
  | n + 1, s0, s1, s2, s3, K => wq2x k (fun s0 s1 s2 s3 => wq14 k  n s0 s1 s2 s3 K) s0 s1 s2 s3 K
theorem wq9c (k : Nat) {R : Type} (I : Nat → St → Option R) (K : (Int → Option R)) : ∀ (n : Nat) (s0 : (List (List UInt8))) (s1 : (List UInt8)) (s2 s3 : Int), iter (wq5 k).pv (look (wq5 k).cuts 1002) (execK (wq5 k) k (at_ [1, 0, 1, 0, 0] wqk)) n (wq1k s0 s1 s2 s3) (konts (wq5 k) k I [1, 0, 1, 0] wqk (outK (wq5 k) wq1p [.tmp 4] (wq1a K))) = wq14 k  n s0 s1 s2 s3 K := by
  intro n
  induction n with
  | zero => intros; rfl
  | succ n ih =>
    intro s0 s1 s2 s3
    let I' : Nat → St → Option R := fun id s => bif Nat.beq id 1002 then iter (wq5 k).pv (look (wq5 k).cuts 1002) (execK (wq5 k) k (at_ [1, 0, 1, 0, 0] wqk)) n s (konts (wq5 k) k I [1, 0, 1, 0] wqk (outK (wq5 k) wq1p [.tmp 4] (wq1a K))) else I id s
    have e := wq9b k I' s0 s1 s2 s3 K
    have h1002 : (fun s0 s1 s2 s3 => I' 1002 (wq1k s0 s1 s2 s3)) = (fun s0 s1 s2 s3 => wq14 k  n s0 s1 s2 s3 K) := by funext s0 s1 s2 s3; exact ih s0 s1 s2 s3
    refine Eq.trans (?_ : _ = _) (e.trans (Eq.trans ((congrArg ((fun E1002 => wq2x k E1002 s0 s1 s2 s3 K)) h1002)) (by rw [wq14])))
    rfl
noncomputable def wq3x (k : Nat) {R : Type} (x0 : (List (List UInt8))) (x1 : (List UInt8)) (K : (Int → Option R)) : Option R := wq3w k (fun s0 s1 s2 s3 => wq14 k k s0 s1 s2 s3 K) x0 x1 K
theorem wqc2 (k : Nat) {R : Type} (x0 : (List (List UInt8))) (x1 : (List UInt8)) (K : (Int → Option R)) : fnK (wq5 k) k wqk 19 [.tmp 4] wq1p [.v (.sl .str) x0, .v .str x1] [] (wq1a K) = wq3x k x0 x1 K := by
  let I : Nat → St → Option R := fun _ _ => none
  have h1002 : (fun s0 s1 s2 s3 => iter (wq5 k).pv (look (wq5 k).cuts 1002) (execK (wq5 k) k (at_ [1, 0, 1, 0, 0] wqk)) k (wq1k s0 s1 s2 s3) (konts (wq5 k) k I [1, 0, 1, 0] wqk (outK (wq5 k) wq1p [.tmp 4] (wq1a K)))) = (fun s0 s1 s2 s3 => wq14 k k s0 s1 s2 s3 K) := by funext s0 s1 s2 s3; exact wq9c k I K k s0 s1 s2 s3
  exact (wqc1 k I x0 x1 K).trans (congrArg ((fun E1002 => wq3w k E1002 x0 x1 K)) h1002)
noncomputable def wq4x (k : Nat) {R : Type} : List PV → List (Nm × HObj) → (Out → Option R) → Option R
  | [.v (.sl .str) x0, .v .str x1], [], K => wq3x k x0 x1 (fun y0 => K (.ret [.v (.int .i64) y0] []))
  | _, _, _ => none
theorem wqc3 (k : Nat) : (wq7z k).Ok Tryz.prog := CTab.nil_ok
theorem wqdi (k : Nat) {ps : List PV} {hp : List (Nm × HObj)} {R : Type} {K : Out → Option R} {r : R} (h : wq4x k ps hp K = some r) : DoesTo Tryz.prog 148 ps hp fun out => K out = some r := by
  unfold wq4x at h
  split at h
  · rw [← wqc2] at h
    have := fn_ok (P := Tryz.prog) (cx := wq5 k) (f := 148) ⟨tyT_ok, wqc3 k, fun _ _ => rfl⟩ (by kernel_rfl) (fn := Tryz.f148) (c := wqk) (by kernel_rfl) (by kernel_rfl) (by kernel_rfl) (rs := [.tmp 4]) (by kernel_rfl) (by kernel_rfl) h
    exact this.mono fun out ho => by
      unfold wq1a at ho
      split at ho <;> first | exact ho | cases ho
  · cases h
end Go.Proofs.YtpfbdepoammjmaaGreatDoor.Pvm

set_option maxRecDepth 1000000
set_option maxHeartbeats 0
namespace Go.Proofs.YtpfbdepoammjmaaGreatDoor.Pvm
open Go Go.Proofs
def wqb6 : List LS := [.sl .str, .any]
noncomputable def wq76 (k : Nat) : CTab := (CTab.add 148 wqc8 (wq4x k) CTab.nil)
def wq40 {R : Type} (K : (Bool → Option R)) : Out → Option R
  | .ret [.v .bool y0] [] => K y0
  | _ => none
def wq6q : RetSpec := ⟨[.any], [], []⟩
def wqa5 : List (Nat × CutSpec) := []
def wq9q : List (Nat × Plan) := []
noncomputable def wq4c (k : Nat) : Ctx := ⟨tyT, wqa5, wq76 k, [], [], wq9q, @SH⟩
noncomputable def wq41 : Code := Tryz.f115.body.getD .skip
noncomputable def wq4s (k : Nat) {R : Type}  (x0 : (List (List UInt8))) (x1 : (List UInt8)) (K : (Bool → Option R)) : Option R := (@wq3x k R x0 x1 (fun y5 => (K (@Decidable.decide (@GE.ge Int Int.instLEInt y5 (0 : Int)) (@Int.decLe (0 : Int) y5)))))
theorem wqa6 (k : Nat) {R : Type} (I : Nat → St → Option R) (x0 : (List (List UInt8))) (x1 : (List UInt8)) (K : (Bool → Option R)) : fnK (wq4c k) k wq41 9 [.tmp 4] wq6q [.v (.sl .str) x0, .v .str x1] [] (wq40 K) = wq4s k  x0 x1 K := by kernel_rfl
noncomputable def wq2f (k : Nat) {R : Type} (x0 : (List (List UInt8))) (x1 : (List UInt8)) (K : (Bool → Option R)) : Option R := wq4s k  x0 x1 K
theorem wqa7 (k : Nat) {R : Type} (x0 : (List (List UInt8))) (x1 : (List UInt8)) (K : (Bool → Option R)) : fnK (wq4c k) k wq41 9 [.tmp 4] wq6q [.v (.sl .str) x0, .v .str x1] [] (wq40 K) = wq2f k x0 x1 K := by
  exact wqa6 k (fun _ _ => none) x0 x1 K
noncomputable def wq4b (k : Nat) {R : Type} : List PV → List (Nm × HObj) → (Out → Option R) → Option R
  | [.v (.sl .str) x0, .v .str x1], [], K => wq2f k x0 x1 (fun y0 => K (.ret [.v .bool y0] []))
  | _, _, _ => none
theorem wqa8 (k : Nat) : (wq76 k).Ok Tryz.prog := (CTab.add_ok (fun h => wqdi k h) CTab.nil_ok)
theorem wqc4 (k : Nat) {ps : List PV} {hp : List (Nm × HObj)} {R : Type} {K : Out → Option R} {r : R} (h : wq4b k ps hp K = some r) : DoesTo Tryz.prog 115 ps hp fun out => K out = some r := by
  unfold wq4b at h
  split at h
  · rw [← wqa7] at h
    have := fn_ok (P := Tryz.prog) (cx := wq4c k) (f := 115) ⟨tyT_ok, wqa8 k, fun _ _ => rfl⟩ (by kernel_rfl) (fn := Tryz.f115) (c := wq41) (by kernel_rfl) (by kernel_rfl) (by kernel_rfl) (rs := [.tmp 4]) (by kernel_rfl) (by kernel_rfl) h
    exact this.mono fun out ho => by
      unfold wq40 at ho
      split at ho <;> first | exact ho | cases ho
  · cases h
end Go.Proofs.YtpfbdepoammjmaaGreatDoor.Pvm

set_option maxRecDepth 1000000
set_option maxHeartbeats 0
namespace Go.Proofs.YtpfbdepoammjmaaGreatDoor.Pvm
open Go Go.Proofs
abbrev wqe : Type 1 := (R : Type) → (List (Int × (Int × (Int × ((List UInt8) × Bool))))) → (List (Int × (Int × ((List UInt8) × (Bool × ((List (List UInt8)) × (List Int))))))) → Int → ((List (Int × (Int × (Int × ((List UInt8) × Bool))))) → (List (Int × (Int × ((List UInt8) × (Bool × ((List (List UInt8)) × (List Int))))))) → Int → Option R) → ((List (Int × (Int × (Int × ((List UInt8) × Bool))))) → (List (Int × (Int × ((List UInt8) × (Bool × ((List (List UInt8)) × (List Int))))))) → Int → Int → Option R) → Option R
abbrev wqi : Type 1 := (R : Type) → (List (Int × (Int × (Int × ((List UInt8) × Bool))))) → (List (Int × (Int × ((List UInt8) × (Bool × ((List (List UInt8)) × (List Int))))))) → Int → Int → Int → ((List (Int × (Int × (Int × ((List UInt8) × Bool))))) → (List (Int × (Int × ((List UInt8) × (Bool × ((List (List UInt8)) × (List Int))))))) → Option R) → ((List (Int × (Int × (Int × ((List UInt8) × Bool))))) → (List (Int × (Int × ((List UInt8) × (Bool × ((List (List UInt8)) × (List Int))))))) → Int → Int → Option R) → Option R
abbrev wqf : Type 1 := (R : Type) → (List (Int × (Int × (Int × ((List UInt8) × Bool))))) → (List (Int × (Int × ((List UInt8) × (Bool × ((List (List UInt8)) × (List Int))))))) → Int → Int → Int → ((List (Int × (Int × (Int × ((List UInt8) × Bool))))) → (List (Int × (Int × ((List UInt8) × (Bool × ((List (List UInt8)) × (List Int))))))) → Option R) → ((List (Int × (Int × (Int × ((List UInt8) × Bool))))) → (List (Int × (Int × ((List UInt8) × (Bool × ((List (List UInt8)) × (List Int))))))) → Int → Int → Option R) → Option R
abbrev wqg : Type 1 := (R : Type) → (List (Int × (Int × (Int × ((List UInt8) × Bool))))) → (List (Int × (Int × ((List UInt8) × (Bool × ((List (List UInt8)) × (List Int))))))) → Int → Int → Int → (List UInt8) → Bool → Int → ((List (Int × (Int × (Int × ((List UInt8) × Bool))))) → (List (Int × (Int × ((List UInt8) × (Bool × ((List (List UInt8)) × (List Int))))))) → Int → Option R) → ((List (Int × (Int × (Int × ((List UInt8) × Bool))))) → (List (Int × (Int × ((List UInt8) × (Bool × ((List (List UInt8)) × (List Int))))))) → Int → Int → Option R) → Option R
abbrev wq2p (R : Type) : Type := ((List (Int × (Int × (Int × ((List UInt8) × Bool))))) → (List (Int × (Int × ((List UInt8) × (Bool × ((List (List UInt8)) × (List Int))))))) → Int → Option R)
abbrev wql (R : Type) : Type := ((List (Int × (Int × (Int × ((List UInt8) × Bool))))) → (List (Int × (Int × ((List UInt8) × (Bool × ((List (List UInt8)) × (List Int))))))) → Int → Int → Option R)
abbrev wq1e (R : Type) : Type := ((List (Int × (Int × (Int × ((List UInt8) × Bool))))) → (List (Int × (Int × ((List UInt8) × (Bool × ((List (List UInt8)) × (List Int))))))) → Option R)
def wqej : List LS := [.obj 1 [.sl (.pr (.int .i64) (.pr (.int .i64) (.pr (.int .i64) (.pr .str .bool)))), .own 21 52 (.pr (.int .i64) (.pr (.int .i64) (.pr .str (.pr .bool (.pr (.sl .str) (.sl (.int .i64)))))))], .any]
noncomputable def wq9d (X_doc_parser_block : wqe) {R : Type} : List PV → List (Nm × HObj) → (Out → Option R) → Option R
  | [.ptr 1 0, .v (.int .i64) x2], [(21, .row 52 (.pr (.int .i64) (.pr (.int .i64) (.pr .str (.pr .bool (.pr (.sl .str) (.sl (.int .i64))))))) x1), (1, .var 95 [.v (.sl (.pr (.int .i64) (.pr (.int .i64) (.pr (.int .i64) (.pr .str .bool))))) x0, .row 21])], K => X_doc_parser_block R x0 x1 x2 (fun y0 y1 y2 => K (.ret [.v (.int .i64) y2] [(21, .row 52 (.pr (.int .i64) (.pr (.int .i64) (.pr .str (.pr .bool (.pr (.sl .str) (.sl (.int .i64))))))) y1), (1, .var 95 [.v (.sl (.pr (.int .i64) (.pr (.int .i64) (.pr (.int .i64) (.pr .str .bool))))) y0, .row 21])])) (fun z0 z1 z2 z3 => K (.pan (.ifc 28 (.agg [.v (.int .i64) z2, .v (.int .i64) z3])) [(21, .row 52 (.pr (.int .i64) (.pr (.int .i64) (.pr .str (.pr .bool (.pr (.sl .str) (.sl (.int .i64))))))) z1), (1, .var 95 [.v (.sl (.pr (.int .i64) (.pr (.int .i64) (.pr (.int .i64) (.pr .str .bool))))) z0, .row 21])]))
  | _, _, _ => none
def wqq7 : List LS := [.obj 1 [.sl (.pr (.int .i64) (.pr (.int .i64) (.pr (.int .i64) (.pr .str .bool)))), .own 21 52 (.pr (.int .i64) (.pr (.int .i64) (.pr .str (.pr .bool (.pr (.sl .str) (.sl (.int .i64)))))))], .any, .any, .any]
noncomputable def wqa9 (X_doc_parser_list : wqi) {R : Type} : List PV → List (Nm × HObj) → (Out → Option R) → Option R
  | [.ptr 1 0, .v (.int .i64) x2, .v (.int .i64) x3, .v (.int .i64) x4], [(21, .row 52 (.pr (.int .i64) (.pr (.int .i64) (.pr .str (.pr .bool (.pr (.sl .str) (.sl (.int .i64))))))) x1), (1, .var 95 [.v (.sl (.pr (.int .i64) (.pr (.int .i64) (.pr (.int .i64) (.pr .str .bool))))) x0, .row 21])], K => X_doc_parser_list R x0 x1 x2 x3 x4 (fun y0 y1 => K (.ret [] [(21, .row 52 (.pr (.int .i64) (.pr (.int .i64) (.pr .str (.pr .bool (.pr (.sl .str) (.sl (.int .i64))))))) y1), (1, .var 95 [.v (.sl (.pr (.int .i64) (.pr (.int .i64) (.pr (.int .i64) (.pr .str .bool))))) y0, .row 21])])) (fun z0 z1 z2 z3 => K (.pan (.ifc 28 (.agg [.v (.int .i64) z2, .v (.int .i64) z3])) [(21, .row 52 (.pr (.int .i64) (.pr (.int .i64) (.pr .str (.pr .bool (.pr (.sl .str) (.sl (.int .i64))))))) z1), (1, .var 95 [.v (.sl (.pr (.int .i64) (.pr (.int .i64) (.pr (.int .i64) (.pr .str .bool))))) z0, .row 21])]))
  | _, _, _ => none
def wqof : List LS := [.obj 1 [.sl (.pr (.int .i64) (.pr (.int .i64) (.pr (.int .i64) (.pr .str .bool)))), .own 21 52 (.pr (.int .i64) (.pr (.int .i64) (.pr .str (.pr .bool (.pr (.sl .str) (.sl (.int .i64)))))))], .any, .any, .any]
noncomputable def wq9e (X_doc_parser_pairs : wqf) {R : Type} : List PV → List (Nm × HObj) → (Out → Option R) → Option R
  | [.ptr 1 0, .v (.int .i64) x2, .v (.int .i64) x3, .v (.int .i64) x4], [(21, .row 52 (.pr (.int .i64) (.pr (.int .i64) (.pr .str (.pr .bool (.pr (.sl .str) (.sl (.int .i64))))))) x1), (1, .var 95 [.v (.sl (.pr (.int .i64) (.pr (.int .i64) (.pr (.int .i64) (.pr .str .bool))))) x0, .row 21])], K => X_doc_parser_pairs R x0 x1 x2 x3 x4 (fun y0 y1 => K (.ret [] [(21, .row 52 (.pr (.int .i64) (.pr (.int .i64) (.pr .str (.pr .bool (.pr (.sl .str) (.sl (.int .i64))))))) y1), (1, .var 95 [.v (.sl (.pr (.int .i64) (.pr (.int .i64) (.pr (.int .i64) (.pr .str .bool))))) y0, .row 21])])) (fun z0 z1 z2 z3 => K (.pan (.ifc 28 (.agg [.v (.int .i64) z2, .v (.int .i64) z3])) [(21, .row 52 (.pr (.int .i64) (.pr (.int .i64) (.pr .str (.pr .bool (.pr (.sl .str) (.sl (.int .i64))))))) z1), (1, .var 95 [.v (.sl (.pr (.int .i64) (.pr (.int .i64) (.pr (.int .i64) (.pr .str .bool))))) z0, .row 21])]))
  | _, _, _ => none
def wqek : List LS := [.obj 1 [.sl (.pr (.int .i64) (.pr (.int .i64) (.pr (.int .i64) (.pr .str .bool)))), .own 21 52 (.pr (.int .i64) (.pr (.int .i64) (.pr .str (.pr .bool (.pr (.sl .str) (.sl (.int .i64)))))))], .ag [.any, .any, .any, .any, .any], .any]
noncomputable def wq4l (X_doc_parser_under : wqg) {R : Type} : List PV → List (Nm × HObj) → (Out → Option R) → Option R
  | [.ptr 1 0, .agg [.v (.int .i64) x2, .v (.int .i64) x3, .v (.int .i64) x4, .v .str x5, .v .bool x6], .v (.int .i64) x7], [(21, .row 52 (.pr (.int .i64) (.pr (.int .i64) (.pr .str (.pr .bool (.pr (.sl .str) (.sl (.int .i64))))))) x1), (1, .var 95 [.v (.sl (.pr (.int .i64) (.pr (.int .i64) (.pr (.int .i64) (.pr .str .bool))))) x0, .row 21])], K => X_doc_parser_under R x0 x1 x2 x3 x4 x5 x6 x7 (fun y0 y1 y2 => K (.ret [.v (.int .i64) y2] [(21, .row 52 (.pr (.int .i64) (.pr (.int .i64) (.pr .str (.pr .bool (.pr (.sl .str) (.sl (.int .i64))))))) y1), (1, .var 95 [.v (.sl (.pr (.int .i64) (.pr (.int .i64) (.pr (.int .i64) (.pr .str .bool))))) y0, .row 21])])) (fun z0 z1 z2 z3 => K (.pan (.ifc 28 (.agg [.v (.int .i64) z2, .v (.int .i64) z3])) [(21, .row 52 (.pr (.int .i64) (.pr (.int .i64) (.pr .str (.pr .bool (.pr (.sl .str) (.sl (.int .i64))))))) z1), (1, .var 95 [.v (.sl (.pr (.int .i64) (.pr (.int .i64) (.pr (.int .i64) (.pr .str .bool))))) z0, .row 21])]))
  | _, _, _ => none
noncomputable def wqhc (k : Nat) (X_doc_parser_block : wqe) (X_doc_parser_list : wqi) (X_doc_parser_pairs : wqf) (X_doc_parser_under : wqg) : CTab := (CTab.add 42 wqfq (wqaz k) (CTab.add 76 wqb8 (wq6p k) (CTab.add 77 wqq7 (wqa9 X_doc_parser_list) (CTab.add 78 wqof (wq9e X_doc_parser_pairs) CTab.nil))))
def wq9f {R : Type} (K : wq2p R) (E : wql R) : Out → Option R
  | .ret [.v (.int .i64) y2] [(21, .row 52 (.pr (.int .i64) (.pr (.int .i64) (.pr .str (.pr .bool (.pr (.sl .str) (.sl (.int .i64))))))) y1), (1, .var 95 [.v (.sl (.pr (.int .i64) (.pr (.int .i64) (.pr (.int .i64) (.pr .str .bool))))) y0, .row 21])] => K y0 y1 y2
  | .pan (.ifc 28 (.agg [.v (.int .i64) z2, .v (.int .i64) z3])) [(21, .row 52 (.pr (.int .i64) (.pr (.int .i64) (.pr .str (.pr .bool (.pr (.sl .str) (.sl (.int .i64))))))) z1), (1, .var 95 [.v (.sl (.pr (.int .i64) (.pr (.int .i64) (.pr (.int .i64) (.pr .str .bool))))) z0, .row 21])] => E z0 z1 z2 z3
  | _ => none
def wqfs : RetSpec := ⟨[.any], [(1, .obj 1 [.sl (.pr (.int .i64) (.pr (.int .i64) (.pr (.int .i64) (.pr .str .bool)))), .own 21 52 (.pr (.int .i64) (.pr (.int .i64) (.pr .str (.pr .bool (.pr (.sl .str) (.sl (.int .i64)))))))])], [(1, .obj 1 [.sl (.pr (.int .i64) (.pr (.int .i64) (.pr (.int .i64) (.pr .str .bool)))), .own 21 52 (.pr (.int .i64) (.pr (.int .i64) (.pr .str (.pr .bool (.pr (.sl .str) (.sl (.int .i64)))))))])]⟩
def wqmf : List (Nat × CutSpec) := []
def wqk9 : List (Nat × Plan) := [(9, (.of [(0, 1), (1, 1), (2, 1), (3, 1), (4, 1), (6, 1), (5, 1), (7, 1), (8, 1), (9, 0), (10, 0), (11, 1), (12, 1), (13, 1), (14, 0)] .done)), (14, (.of [(0, 1), (1, 1), (2, 1), (3, 1), (5, 1), (6, 1), (8, 1), (10, 1), (4, 1), (7, 1), (9, 1), (11, 1), (12, 1), (13, 1), (14, 0)] .done))]
noncomputable def wqba (k : Nat) (X_doc_parser_block : wqe) (X_doc_parser_list : wqi) (X_doc_parser_pairs : wqf) (X_doc_parser_under : wqg) : Ctx := ⟨tyT, wqmf, wqhc k X_doc_parser_block X_doc_parser_list X_doc_parser_pairs X_doc_parser_under, [], [1], wqk9, @SH⟩
noncomputable def wq9g : Code := Tryz.f43.body.getD .skip
noncomputable def wqc9 (k : Nat) (X_doc_parser_block : wqe) (X_doc_parser_list : wqi) (X_doc_parser_pairs : wqf) (X_doc_parser_under : wqg) {R : Type}  (x0 : (List (Int × (Int × (Int × ((List UInt8) × Bool)))))) (x1 : (List (Int × (Int × ((List UInt8) × (Bool × ((List (List UInt8)) × (List Int)))))))) (x2 : Int) (K : wq2p R) (E : wql R) : Option R := (@cond (@Option R) (@inb (0 : Int) (@Nat.cast Int instNatCastInt (@List.length (@Kd.T (@Kd.pr kI (@Kd.pr kI (@Kd.pr kI (@Kd.pr Kd.str Kd.bool))))) x0))) (@cond (@Option R) (@cond (@Kd.T Kd.bool) (@Decidable.decide (@LT.lt Int Int.instLTInt (@List.getD (@Kd.T (@Kd.pr kI (@Kd.pr kI (@Kd.pr kI (@Kd.pr Kd.str Kd.bool))))) x0 (@Int.toNat (0 : Int)) (@Kd.zero (@Kd.pr kI (@Kd.pr kI (@Kd.pr kI (@Kd.pr Kd.str Kd.bool)))))).1 (1 : Int)) (@Int.decLt (@List.getD (@Kd.T (@Kd.pr kI (@Kd.pr kI (@Kd.pr kI (@Kd.pr Kd.str Kd.bool))))) x0 (@Int.toNat (0 : Int)) (@Kd.zero (@Kd.pr kI (@Kd.pr kI (@Kd.pr kI (@Kd.pr Kd.str Kd.bool)))))).1 (1 : Int))) Bool.true (@Decidable.decide (@GT.gt Int Int.instLTInt (@List.getD (@Kd.T (@Kd.pr kI (@Kd.pr kI (@Kd.pr kI (@Kd.pr Kd.str Kd.bool))))) x0 (@Int.toNat (0 : Int)) (@Kd.zero (@Kd.pr kI (@Kd.pr kI (@Kd.pr kI (@Kd.pr Kd.str Kd.bool)))))).1 (3 : Int)) (@Int.decLt (3 : Int) (@List.getD (@Kd.T (@Kd.pr kI (@Kd.pr kI (@Kd.pr kI (@Kd.pr Kd.str Kd.bool))))) x0 (@Int.toNat (0 : Int)) (@Kd.zero (@Kd.pr kI (@Kd.pr kI (@Kd.pr kI (@Kd.pr Kd.str Kd.bool)))))).1))) (@wq79 k R (6 : Int) (@List.getD (@Kd.T (@Kd.pr kI (@Kd.pr kI (@Kd.pr kI (@Kd.pr Kd.str Kd.bool))))) x0 (@Int.toNat (0 : Int)) (@Kd.zero (@Kd.pr kI (@Kd.pr kI (@Kd.pr kI (@Kd.pr Kd.str Kd.bool)))))).2.1 (fun y7 y8 => (E x0 x1 y7 y8))) (@cond (@Option R) (@Decidable.decide (@GT.gt Int Int.instLTInt x2 (24 : Int)) (@Int.decLt (24 : Int) x2)) (@wq79 k R (8 : Int) (@List.getD (@Kd.T (@Kd.pr kI (@Kd.pr kI (@Kd.pr kI (@Kd.pr Kd.str Kd.bool))))) x0 (@Int.toNat (0 : Int)) (@Kd.zero (@Kd.pr kI (@Kd.pr kI (@Kd.pr kI (@Kd.pr Kd.str Kd.bool)))))).2.1 (fun y7 y8 => (E x0 x1 y7 y8))) (@cond (@Option R) (@Decidable.decide (@GE.ge Int Int.instLEInt (@Nat.cast Int instNatCastInt (@List.length (@Kd.T (@Kd.pr kI (@Kd.pr kI (@Kd.pr Kd.str (@Kd.pr Kd.bool (@Kd.pr (@Kd.sl Kd.str) (@Kd.sl kI))))))) x1)) (2000 : Int)) (@Int.decLe (2000 : Int) (@Nat.cast Int instNatCastInt (@List.length (@Kd.T (@Kd.pr kI (@Kd.pr kI (@Kd.pr Kd.str (@Kd.pr Kd.bool (@Kd.pr (@Kd.sl Kd.str) (@Kd.sl kI))))))) x1)))) (@wq79 k R (9 : Int) (@List.getD (@Kd.T (@Kd.pr kI (@Kd.pr kI (@Kd.pr kI (@Kd.pr Kd.str Kd.bool))))) x0 (@Int.toNat (0 : Int)) (@Kd.zero (@Kd.pr kI (@Kd.pr kI (@Kd.pr kI (@Kd.pr Kd.str Kd.bool)))))).2.1 (fun y7 y8 => (E x0 x1 y7 y8))) (@cond (@Option R) (@fits (@List.length (@Kd.T (@Kd.pr kI (@Kd.pr kI (@Kd.pr Kd.str (@Kd.pr Kd.bool (@Kd.pr (@Kd.sl Kd.str) (@Kd.sl kI))))))) x1) (@List.length (@Kd.T (@Kd.pr kI (@Kd.pr kI (@Kd.pr Kd.str (@Kd.pr Kd.bool (@Kd.pr (@Kd.sl Kd.str) (@Kd.sl kI))))))) (((0 : (@Kd.T kI)), ((@List.getD (@Kd.T (@Kd.pr kI (@Kd.pr kI (@Kd.pr kI (@Kd.pr Kd.str Kd.bool))))) x0 (@Int.toNat (0 : Int)) (@Kd.zero (@Kd.pr kI (@Kd.pr kI (@Kd.pr kI (@Kd.pr Kd.str Kd.bool)))))).2.1, ([], (Bool.false, ([], []))))) :: [])) (88 : Nat)) (@cond (@Option R) (@BEq.beq Int (@instBEqOfDecidableEq Int @Int.instDecidableEq) (@List.getD (@Kd.T (@Kd.pr kI (@Kd.pr kI (@Kd.pr kI (@Kd.pr Kd.str Kd.bool))))) x0 (@Int.toNat (0 : Int)) (@Kd.zero (@Kd.pr kI (@Kd.pr kI (@Kd.pr kI (@Kd.pr Kd.str Kd.bool)))))).1 (3 : Int)) (@wq5s k R x0 (@HAppend.hAppend (@Kd.T (@Kd.sl (@Kd.pr kI (@Kd.pr kI (@Kd.pr Kd.str (@Kd.pr Kd.bool (@Kd.pr (@Kd.sl Kd.str) (@Kd.sl kI)))))))) (@List (@Kd.T (@Kd.pr kI (@Kd.pr kI (@Kd.pr Kd.str (@Kd.pr Kd.bool (@Kd.pr (@Kd.sl Kd.str) (@Kd.sl kI)))))))) (@Kd.T (@Kd.sl (@Kd.pr kI (@Kd.pr kI (@Kd.pr Kd.str (@Kd.pr Kd.bool (@Kd.pr (@Kd.sl Kd.str) (@Kd.sl kI)))))))) (@instHAppendOfAppend (@Kd.T (@Kd.sl (@Kd.pr kI (@Kd.pr kI (@Kd.pr Kd.str (@Kd.pr Kd.bool (@Kd.pr (@Kd.sl Kd.str) (@Kd.sl kI)))))))) (@List.instAppend (@Kd.T (@Kd.pr kI (@Kd.pr kI (@Kd.pr Kd.str (@Kd.pr Kd.bool (@Kd.pr (@Kd.sl Kd.str) (@Kd.sl kI))))))))) x1 (((0 : (@Kd.T kI)), ((@List.getD (@Kd.T (@Kd.pr kI (@Kd.pr kI (@Kd.pr kI (@Kd.pr Kd.str Kd.bool))))) x0 (@Int.toNat (0 : Int)) (@Kd.zero (@Kd.pr kI (@Kd.pr kI (@Kd.pr kI (@Kd.pr Kd.str Kd.bool)))))).2.1, ([], (Bool.false, ([], []))))) :: [])) (fun y7 y8 y9 y10 y11 y12 y13 => (@cond (@Option R) (@inb (@Nat.cast Int instNatCastInt (@List.length (@Kd.T (@Kd.pr kI (@Kd.pr kI (@Kd.pr Kd.str (@Kd.pr Kd.bool (@Kd.pr (@Kd.sl Kd.str) (@Kd.sl kI))))))) x1)) (@Nat.cast Int instNatCastInt (@List.length (@Kd.T (@Kd.pr kI (@Kd.pr kI (@Kd.pr Kd.str (@Kd.pr Kd.bool (@Kd.pr (@Kd.sl Kd.str) (@Kd.sl kI))))))) y8))) (@SH (@List (@Kd.T (@Kd.pr kI (@Kd.pr kI (@Kd.pr Kd.str (@Kd.pr Kd.bool (@Kd.pr (@Kd.sl Kd.str) (@Kd.sl kI)))))))) R (@List.set (@Kd.T (@Kd.pr kI (@Kd.pr kI (@Kd.pr Kd.str (@Kd.pr Kd.bool (@Kd.pr (@Kd.sl Kd.str) (@Kd.sl kI))))))) y8 (@Int.toNat (@Nat.cast Int instNatCastInt (@List.length (@Kd.T (@Kd.pr kI (@Kd.pr kI (@Kd.pr Kd.str (@Kd.pr Kd.bool (@Kd.pr (@Kd.sl Kd.str) (@Kd.sl kI))))))) x1))) ((1 : Int), ((@List.getD (@Kd.T (@Kd.pr kI (@Kd.pr kI (@Kd.pr kI (@Kd.pr Kd.str Kd.bool))))) x0 (@Int.toNat (0 : Int)) (@Kd.zero (@Kd.pr kI (@Kd.pr kI (@Kd.pr kI (@Kd.pr Kd.str Kd.bool)))))).2.1, ((@List.getD (@Kd.T (@Kd.pr kI (@Kd.pr kI (@Kd.pr kI (@Kd.pr Kd.str Kd.bool))))) x0 (@Int.toNat (0 : Int)) (@Kd.zero (@Kd.pr kI (@Kd.pr kI (@Kd.pr kI (@Kd.pr Kd.str Kd.bool)))))).2.2.2.1, ((@List.getD (@Kd.T (@Kd.pr kI (@Kd.pr kI (@Kd.pr kI (@Kd.pr Kd.str Kd.bool))))) x0 (@Int.toNat (0 : Int)) (@Kd.zero (@Kd.pr kI (@Kd.pr kI (@Kd.pr kI (@Kd.pr Kd.str Kd.bool)))))).2.2.2.2, ([], [])))))) (fun y14 => (K y7 y14 (@Nat.cast Int instNatCastInt (@List.length (@Kd.T (@Kd.pr kI (@Kd.pr kI (@Kd.pr Kd.str (@Kd.pr Kd.bool (@Kd.pr (@Kd.sl Kd.str) (@Kd.sl kI))))))) x1))))) (@Option.none R)))) (@cond (@Option R) (@BEq.beq Int (@instBEqOfDecidableEq Int @Int.instDecidableEq) (@List.getD (@Kd.T (@Kd.pr kI (@Kd.pr kI (@Kd.pr kI (@Kd.pr Kd.str Kd.bool))))) x0 (@Int.toNat (0 : Int)) (@Kd.zero (@Kd.pr kI (@Kd.pr kI (@Kd.pr kI (@Kd.pr Kd.str Kd.bool)))))).1 (1 : Int)) (X_doc_parser_list R x0 (@HAppend.hAppend (@Kd.T (@Kd.sl (@Kd.pr kI (@Kd.pr kI (@Kd.pr Kd.str (@Kd.pr Kd.bool (@Kd.pr (@Kd.sl Kd.str) (@Kd.sl kI)))))))) (@List (@Kd.T (@Kd.pr kI (@Kd.pr kI (@Kd.pr Kd.str (@Kd.pr Kd.bool (@Kd.pr (@Kd.sl Kd.str) (@Kd.sl kI)))))))) (@Kd.T (@Kd.sl (@Kd.pr kI (@Kd.pr kI (@Kd.pr Kd.str (@Kd.pr Kd.bool (@Kd.pr (@Kd.sl Kd.str) (@Kd.sl kI)))))))) (@instHAppendOfAppend (@Kd.T (@Kd.sl (@Kd.pr kI (@Kd.pr kI (@Kd.pr Kd.str (@Kd.pr Kd.bool (@Kd.pr (@Kd.sl Kd.str) (@Kd.sl kI)))))))) (@List.instAppend (@Kd.T (@Kd.pr kI (@Kd.pr kI (@Kd.pr Kd.str (@Kd.pr Kd.bool (@Kd.pr (@Kd.sl Kd.str) (@Kd.sl kI))))))))) x1 (((0 : (@Kd.T kI)), ((@List.getD (@Kd.T (@Kd.pr kI (@Kd.pr kI (@Kd.pr kI (@Kd.pr Kd.str Kd.bool))))) x0 (@Int.toNat (0 : Int)) (@Kd.zero (@Kd.pr kI (@Kd.pr kI (@Kd.pr kI (@Kd.pr Kd.str Kd.bool)))))).2.1, ([], (Bool.false, ([], []))))) :: [])) (@Nat.cast Int instNatCastInt (@List.length (@Kd.T (@Kd.pr kI (@Kd.pr kI (@Kd.pr Kd.str (@Kd.pr Kd.bool (@Kd.pr (@Kd.sl Kd.str) (@Kd.sl kI))))))) x1)) (@List.getD (@Kd.T (@Kd.pr kI (@Kd.pr kI (@Kd.pr kI (@Kd.pr Kd.str Kd.bool))))) x0 (@Int.toNat (0 : Int)) (@Kd.zero (@Kd.pr kI (@Kd.pr kI (@Kd.pr kI (@Kd.pr Kd.str Kd.bool)))))).2.2.1 x2 (fun y7 y8 => (K y7 y8 (@Nat.cast Int instNatCastInt (@List.length (@Kd.T (@Kd.pr kI (@Kd.pr kI (@Kd.pr Kd.str (@Kd.pr Kd.bool (@Kd.pr (@Kd.sl Kd.str) (@Kd.sl kI))))))) x1)))) (fun y7 y8 y9 y10 => (E y7 y8 y9 y10))) (X_doc_parser_pairs R x0 (@HAppend.hAppend (@Kd.T (@Kd.sl (@Kd.pr kI (@Kd.pr kI (@Kd.pr Kd.str (@Kd.pr Kd.bool (@Kd.pr (@Kd.sl Kd.str) (@Kd.sl kI)))))))) (@List (@Kd.T (@Kd.pr kI (@Kd.pr kI (@Kd.pr Kd.str (@Kd.pr Kd.bool (@Kd.pr (@Kd.sl Kd.str) (@Kd.sl kI)))))))) (@Kd.T (@Kd.sl (@Kd.pr kI (@Kd.pr kI (@Kd.pr Kd.str (@Kd.pr Kd.bool (@Kd.pr (@Kd.sl Kd.str) (@Kd.sl kI)))))))) (@instHAppendOfAppend (@Kd.T (@Kd.sl (@Kd.pr kI (@Kd.pr kI (@Kd.pr Kd.str (@Kd.pr Kd.bool (@Kd.pr (@Kd.sl Kd.str) (@Kd.sl kI)))))))) (@List.instAppend (@Kd.T (@Kd.pr kI (@Kd.pr kI (@Kd.pr Kd.str (@Kd.pr Kd.bool (@Kd.pr (@Kd.sl Kd.str) (@Kd.sl kI))))))))) x1 (((0 : (@Kd.T kI)), ((@List.getD (@Kd.T (@Kd.pr kI (@Kd.pr kI (@Kd.pr kI (@Kd.pr Kd.str Kd.bool))))) x0 (@Int.toNat (0 : Int)) (@Kd.zero (@Kd.pr kI (@Kd.pr kI (@Kd.pr kI (@Kd.pr Kd.str Kd.bool)))))).2.1, ([], (Bool.false, ([], []))))) :: [])) (@Nat.cast Int instNatCastInt (@List.length (@Kd.T (@Kd.pr kI (@Kd.pr kI (@Kd.pr Kd.str (@Kd.pr Kd.bool (@Kd.pr (@Kd.sl Kd.str) (@Kd.sl kI))))))) x1)) (@List.getD (@Kd.T (@Kd.pr kI (@Kd.pr kI (@Kd.pr kI (@Kd.pr Kd.str Kd.bool))))) x0 (@Int.toNat (0 : Int)) (@Kd.zero (@Kd.pr kI (@Kd.pr kI (@Kd.pr kI (@Kd.pr Kd.str Kd.bool)))))).2.2.1 x2 (fun y7 y8 => (K y7 y8 (@Nat.cast Int instNatCastInt (@List.length (@Kd.T (@Kd.pr kI (@Kd.pr kI (@Kd.pr Kd.str (@Kd.pr Kd.bool (@Kd.pr (@Kd.sl Kd.str) (@Kd.sl kI))))))) x1)))) (fun y7 y8 y9 y10 => (E y7 y8 y9 y10))))) (@Option.none R))))) (@Option.none R))
theorem wqmg (k : Nat) (X_doc_parser_block : wqe) (X_doc_parser_list : wqi) (X_doc_parser_pairs : wqf) (X_doc_parser_under : wqg) {R : Type} (I : Nat → St → Option R) (x0 : (List (Int × (Int × (Int × ((List UInt8) × Bool)))))) (x1 : (List (Int × (Int × ((List UInt8) × (Bool × ((List (List UInt8)) × (List Int)))))))) (x2 : Int) (K : wq2p R) (E : wql R) : fnK (wqba k X_doc_parser_block X_doc_parser_list X_doc_parser_pairs X_doc_parser_under) k wq9g 97 [.tmp 4] wqfs [.ptr 1 0, .v (.int .i64) x2] [(21, .row 52 (.pr (.int .i64) (.pr (.int .i64) (.pr .str (.pr .bool (.pr (.sl .str) (.sl (.int .i64))))))) x1), (1, .var 95 [.v (.sl (.pr (.int .i64) (.pr (.int .i64) (.pr (.int .i64) (.pr .str .bool))))) x0, .row 21])] (wq9f K E) = wqc9 k X_doc_parser_block X_doc_parser_list X_doc_parser_pairs X_doc_parser_under  x0 x1 x2 K E := by kernel_rfl
noncomputable def wqj8 (k : Nat) (X_doc_parser_block : wqe) (X_doc_parser_list : wqi) (X_doc_parser_pairs : wqf) (X_doc_parser_under : wqg) : CTab := (CTab.add 76 wqb8 (wq6p k) (CTab.add 113 wqfr (wq89 k) (CTab.add 114 wqek (wq4l X_doc_parser_under) CTab.nil)))
def wq3c {R : Type} (K : wq1e R) (E : wql R) : Out → Option R
  | .ret [] [(21, .row 52 (.pr (.int .i64) (.pr (.int .i64) (.pr .str (.pr .bool (.pr (.sl .str) (.sl (.int .i64))))))) y1), (1, .var 95 [.v (.sl (.pr (.int .i64) (.pr (.int .i64) (.pr (.int .i64) (.pr .str .bool))))) y0, .row 21])] => K y0 y1
  | .pan (.ifc 28 (.agg [.v (.int .i64) z2, .v (.int .i64) z3])) [(21, .row 52 (.pr (.int .i64) (.pr (.int .i64) (.pr .str (.pr .bool (.pr (.sl .str) (.sl (.int .i64))))))) z1), (1, .var 95 [.v (.sl (.pr (.int .i64) (.pr (.int .i64) (.pr (.int .i64) (.pr .str .bool))))) z0, .row 21])] => E z0 z1 z2 z3
  | _ => none
def wq4y : RetSpec := ⟨[], [(1, .obj 1 [.sl (.pr (.int .i64) (.pr (.int .i64) (.pr (.int .i64) (.pr .str .bool)))), .own 21 52 (.pr (.int .i64) (.pr (.int .i64) (.pr .str (.pr .bool (.pr (.sl .str) (.sl (.int .i64)))))))])], [(1, .obj 1 [.sl (.pr (.int .i64) (.pr (.int .i64) (.pr (.int .i64) (.pr .str .bool)))), .own 21 52 (.pr (.int .i64) (.pr (.int .i64) (.pr .str (.pr .bool (.pr (.sl .str) (.sl (.int .i64)))))))])]⟩
def wqog : List (Nat × CutSpec) := [(1001, ⟨[(0, .obj 1 [.sl (.pr (.int .i64) (.pr (.int .i64) (.pr (.int .i64) (.pr .str .bool)))), .own 21 52 (.pr (.int .i64) (.pr (.int .i64) (.pr .str (.pr .bool (.pr (.sl .str) (.sl (.int .i64)))))))]), (1, .any), (2, .any), (3, .any), (8, .own 100008 3 (.int .i64))], [(1, .obj 1 [.sl (.pr (.int .i64) (.pr (.int .i64) (.pr (.int .i64) (.pr .str .bool)))), .own 21 52 (.pr (.int .i64) (.pr (.int .i64) (.pr .str (.pr .bool (.pr (.sl .str) (.sl (.int .i64)))))))])]⟩)]
def wqmh : List (Nat × Plan) := [(3, (.of [(0, 1), (1, 1), (2, 1), (3, 1), (5, 1), (6, 1), (7, 1), (8, 1), (9, 1), (11, 1), (12, 1), (4, 1), (10, 1), (13, 1), (14, 1), (15, 0), (16, 1), (17, 1), (18, 0)] .done))]
noncomputable def wqp (k : Nat) (X_doc_parser_block : wqe) (X_doc_parser_list : wqi) (X_doc_parser_pairs : wqf) (X_doc_parser_under : wqg) : Ctx := ⟨tyT, wqog, wqj8 k X_doc_parser_block X_doc_parser_list X_doc_parser_pairs X_doc_parser_under, [], [1], wqmh, @SH⟩
noncomputable def wq1l : Code := Tryz.f77.body.getD .skip
def wq3u (s0 : (List (Int × (Int × (Int × ((List UInt8) × Bool)))))) (s1 : (List (Int × (Int × ((List UInt8) × (Bool × ((List (List UInt8)) × (List Int)))))))) (s2 s3 s4 : Int) (s5 : (List Int)) : St := ⟨mkT [(0, .ptr 1 0), (1, .v (.int .i64) s2), (2, .v (.int .i64) s3), (3, .v (.int .i64) s4), (8, .row 100008)], mkH [(21, .row 52 (.pr (.int .i64) (.pr (.int .i64) (.pr .str (.pr .bool (.pr (.sl .str) (.sl (.int .i64))))))) s1), (1, .var 95 [.v (.sl (.pr (.int .i64) (.pr (.int .i64) (.pr (.int .i64) (.pr .str .bool))))) s0, .row 21]), (100008, .row 3 (.int .i64) s5)]⟩
noncomputable def wq6r (k : Nat) (X_doc_parser_block : wqe) (X_doc_parser_list : wqi) (X_doc_parser_pairs : wqf) (X_doc_parser_under : wqg) {R : Type} (E1001 : ((List (Int × (Int × (Int × ((List UInt8) × Bool))))) → (List (Int × (Int × ((List UInt8) × (Bool × ((List (List UInt8)) × (List Int))))))) → Int → Int → Int → (List Int) → Option R)) (s0 : (List (Int × (Int × (Int × ((List UInt8) × Bool)))))) (s1 : (List (Int × (Int × ((List UInt8) × (Bool × ((List (List UInt8)) × (List Int)))))))) (s2 s3 s4 : Int) (s5 : (List Int)) (K : wq1e R) (E : wql R) : Option R := (@wq6l k R s0 s1 (1 : Int) s3 (fun y11 y12 y13 => (@cond (@Option R) y13 (@wq5s k R y11 y12 (fun y14 y15 y16 y17 y18 y19 y20 => (X_doc_parser_under R y14 y15 y16 y17 y18 y19 y20 s4 (fun y21 y22 y23 => (@cond (@Option R) (@fits (@List.length (@Kd.T kI) s5) (@List.length (@Kd.T kI) (y23 :: [])) (8 : Nat)) (E1001 y21 y22 s2 s3 s4 (@HAppend.hAppend (@Kd.T (@Kd.sl kI)) (@List (@Kd.T kI)) (@Kd.T (@Kd.sl kI)) (@instHAppendOfAppend (@Kd.T (@Kd.sl kI)) (@List.instAppend (@Kd.T kI))) s5 (y23 :: []))) (@Option.none R))) (fun y21 y22 y23 y24 => (E y21 y22 y23 y24))))) (@cond (@Option R) (@inb s2 (@Nat.cast Int instNatCastInt (@List.length (@Kd.T (@Kd.pr kI (@Kd.pr kI (@Kd.pr Kd.str (@Kd.pr Kd.bool (@Kd.pr (@Kd.sl Kd.str) (@Kd.sl kI))))))) y12))) (@SH (@List (@Kd.T (@Kd.pr kI (@Kd.pr kI (@Kd.pr Kd.str (@Kd.pr Kd.bool (@Kd.pr (@Kd.sl Kd.str) (@Kd.sl kI)))))))) R (@List.set (@Kd.T (@Kd.pr kI (@Kd.pr kI (@Kd.pr Kd.str (@Kd.pr Kd.bool (@Kd.pr (@Kd.sl Kd.str) (@Kd.sl kI))))))) y12 (@Int.toNat s2) ((2 : Int), ((@List.getD (@Kd.T (@Kd.pr kI (@Kd.pr kI (@Kd.pr Kd.str (@Kd.pr Kd.bool (@Kd.pr (@Kd.sl Kd.str) (@Kd.sl kI))))))) y12 (@Int.toNat s2) (@Kd.zero (@Kd.pr kI (@Kd.pr kI (@Kd.pr Kd.str (@Kd.pr Kd.bool (@Kd.pr (@Kd.sl Kd.str) (@Kd.sl kI)))))))).2.1, ((@List.getD (@Kd.T (@Kd.pr kI (@Kd.pr kI (@Kd.pr Kd.str (@Kd.pr Kd.bool (@Kd.pr (@Kd.sl Kd.str) (@Kd.sl kI))))))) y12 (@Int.toNat s2) (@Kd.zero (@Kd.pr kI (@Kd.pr kI (@Kd.pr Kd.str (@Kd.pr Kd.bool (@Kd.pr (@Kd.sl Kd.str) (@Kd.sl kI)))))))).2.2.1, ((@List.getD (@Kd.T (@Kd.pr kI (@Kd.pr kI (@Kd.pr Kd.str (@Kd.pr Kd.bool (@Kd.pr (@Kd.sl Kd.str) (@Kd.sl kI))))))) y12 (@Int.toNat s2) (@Kd.zero (@Kd.pr kI (@Kd.pr kI (@Kd.pr Kd.str (@Kd.pr Kd.bool (@Kd.pr (@Kd.sl Kd.str) (@Kd.sl kI)))))))).2.2.2.1, ((@List.getD (@Kd.T (@Kd.pr kI (@Kd.pr kI (@Kd.pr Kd.str (@Kd.pr Kd.bool (@Kd.pr (@Kd.sl Kd.str) (@Kd.sl kI))))))) y12 (@Int.toNat s2) (@Kd.zero (@Kd.pr kI (@Kd.pr kI (@Kd.pr Kd.str (@Kd.pr Kd.bool (@Kd.pr (@Kd.sl Kd.str) (@Kd.sl kI)))))))).2.2.2.2.1, (@List.getD (@Kd.T (@Kd.pr kI (@Kd.pr kI (@Kd.pr Kd.str (@Kd.pr Kd.bool (@Kd.pr (@Kd.sl Kd.str) (@Kd.sl kI))))))) y12 (@Int.toNat s2) (@Kd.zero (@Kd.pr kI (@Kd.pr kI (@Kd.pr Kd.str (@Kd.pr Kd.bool (@Kd.pr (@Kd.sl Kd.str) (@Kd.sl kI)))))))).2.2.2.2.2)))))) (fun y14 => (@cond (@Option R) (@inb s2 (@Nat.cast Int instNatCastInt (@List.length (@Kd.T (@Kd.pr kI (@Kd.pr kI (@Kd.pr Kd.str (@Kd.pr Kd.bool (@Kd.pr (@Kd.sl Kd.str) (@Kd.sl kI))))))) y14))) (@SH (@List (@Kd.T (@Kd.pr kI (@Kd.pr kI (@Kd.pr Kd.str (@Kd.pr Kd.bool (@Kd.pr (@Kd.sl Kd.str) (@Kd.sl kI)))))))) R (@List.set (@Kd.T (@Kd.pr kI (@Kd.pr kI (@Kd.pr Kd.str (@Kd.pr Kd.bool (@Kd.pr (@Kd.sl Kd.str) (@Kd.sl kI))))))) y14 (@Int.toNat s2) ((@List.getD (@Kd.T (@Kd.pr kI (@Kd.pr kI (@Kd.pr Kd.str (@Kd.pr Kd.bool (@Kd.pr (@Kd.sl Kd.str) (@Kd.sl kI))))))) y14 (@Int.toNat s2) (@Kd.zero (@Kd.pr kI (@Kd.pr kI (@Kd.pr Kd.str (@Kd.pr Kd.bool (@Kd.pr (@Kd.sl Kd.str) (@Kd.sl kI)))))))).1, ((@List.getD (@Kd.T (@Kd.pr kI (@Kd.pr kI (@Kd.pr Kd.str (@Kd.pr Kd.bool (@Kd.pr (@Kd.sl Kd.str) (@Kd.sl kI))))))) y14 (@Int.toNat s2) (@Kd.zero (@Kd.pr kI (@Kd.pr kI (@Kd.pr Kd.str (@Kd.pr Kd.bool (@Kd.pr (@Kd.sl Kd.str) (@Kd.sl kI)))))))).2.1, ((@List.getD (@Kd.T (@Kd.pr kI (@Kd.pr kI (@Kd.pr Kd.str (@Kd.pr Kd.bool (@Kd.pr (@Kd.sl Kd.str) (@Kd.sl kI))))))) y14 (@Int.toNat s2) (@Kd.zero (@Kd.pr kI (@Kd.pr kI (@Kd.pr Kd.str (@Kd.pr Kd.bool (@Kd.pr (@Kd.sl Kd.str) (@Kd.sl kI)))))))).2.2.1, ((@List.getD (@Kd.T (@Kd.pr kI (@Kd.pr kI (@Kd.pr Kd.str (@Kd.pr Kd.bool (@Kd.pr (@Kd.sl Kd.str) (@Kd.sl kI))))))) y14 (@Int.toNat s2) (@Kd.zero (@Kd.pr kI (@Kd.pr kI (@Kd.pr Kd.str (@Kd.pr Kd.bool (@Kd.pr (@Kd.sl Kd.str) (@Kd.sl kI)))))))).2.2.2.1, ((@List.getD (@Kd.T (@Kd.pr kI (@Kd.pr kI (@Kd.pr Kd.str (@Kd.pr Kd.bool (@Kd.pr (@Kd.sl Kd.str) (@Kd.sl kI))))))) y14 (@Int.toNat s2) (@Kd.zero (@Kd.pr kI (@Kd.pr kI (@Kd.pr Kd.str (@Kd.pr Kd.bool (@Kd.pr (@Kd.sl Kd.str) (@Kd.sl kI)))))))).2.2.2.2.1, s5)))))) (fun y15 => (K y11 y15))) (@Option.none R)))) (@Option.none R)))))
theorem wqhd (k : Nat) (X_doc_parser_block : wqe) (X_doc_parser_list : wqi) (X_doc_parser_pairs : wqf) (X_doc_parser_under : wqg) {R : Type} (I : Nat → St → Option R) (s0 : (List (Int × (Int × (Int × ((List UInt8) × Bool)))))) (s1 : (List (Int × (Int × ((List UInt8) × (Bool × ((List (List UInt8)) × (List Int)))))))) (s2 s3 s4 : Int) (s5 : (List Int)) (K : wq1e R) (E : wql R) : execK (wqp k X_doc_parser_block X_doc_parser_list X_doc_parser_pairs X_doc_parser_under) k (at_ [1, 0, 0, 0] wq1l) (wq3u s0 s1 s2 s3 s4 s5) (konts (wqp k X_doc_parser_block X_doc_parser_list X_doc_parser_pairs X_doc_parser_under) k I [1, 0, 0, 0] wq1l (outK (wqp k X_doc_parser_block X_doc_parser_list X_doc_parser_pairs X_doc_parser_under) wq4y [] (wq3c K E))) = wq6r k X_doc_parser_block X_doc_parser_list X_doc_parser_pairs X_doc_parser_under (fun s0 s1 s2 s3 s4 s5 => I 1001 (wq3u s0 s1 s2 s3 s4 s5)) s0 s1 s2 s3 s4 s5 K E := by kernel_rfl
noncomputable def wq9t (k : Nat) (X_doc_parser_block : wqe) (X_doc_parser_list : wqi) (X_doc_parser_pairs : wqf) (X_doc_parser_under : wqg) {R : Type} (E1001 : ((List (Int × (Int × (Int × ((List UInt8) × Bool))))) → (List (Int × (Int × ((List UInt8) × (Bool × ((List (List UInt8)) × (List Int))))))) → Int → Int → Int → (List Int) → Option R)) (x0 : (List (Int × (Int × (Int × ((List UInt8) × Bool)))))) (x1 : (List (Int × (Int × ((List UInt8) × (Bool × ((List (List UInt8)) × (List Int)))))))) (x2 x3 x4 : Int) (K : wq1e R) (E : wql R) : Option R := (E1001 x0 x1 x2 x3 x4 [])
theorem wqoh (k : Nat) (X_doc_parser_block : wqe) (X_doc_parser_list : wqi) (X_doc_parser_pairs : wqf) (X_doc_parser_under : wqg) {R : Type} (I : Nat → St → Option R) (x0 : (List (Int × (Int × (Int × ((List UInt8) × Bool)))))) (x1 : (List (Int × (Int × ((List UInt8) × (Bool × ((List (List UInt8)) × (List Int)))))))) (x2 x3 x4 : Int) (K : wq1e R) (E : wql R) : fnK (wqp k X_doc_parser_block X_doc_parser_list X_doc_parser_pairs X_doc_parser_under) k wq1l 37 [] wq4y [.ptr 1 0, .v (.int .i64) x2, .v (.int .i64) x3, .v (.int .i64) x4] [(21, .row 52 (.pr (.int .i64) (.pr (.int .i64) (.pr .str (.pr .bool (.pr (.sl .str) (.sl (.int .i64))))))) x1), (1, .var 95 [.v (.sl (.pr (.int .i64) (.pr (.int .i64) (.pr (.int .i64) (.pr .str .bool))))) x0, .row 21])] (wq3c K E) = wq9t k X_doc_parser_block X_doc_parser_list X_doc_parser_pairs X_doc_parser_under (fun s0 s1 s2 s3 s4 s5 => iter (wqp k X_doc_parser_block X_doc_parser_list X_doc_parser_pairs X_doc_parser_under).pv (look (wqp k X_doc_parser_block X_doc_parser_list X_doc_parser_pairs X_doc_parser_under).cuts 1001) (execK (wqp k X_doc_parser_block X_doc_parser_list X_doc_parser_pairs X_doc_parser_under) k (at_ [1, 0, 0, 0] wq1l)) k (wq3u s0 s1 s2 s3 s4 s5) (konts (wqp k X_doc_parser_block X_doc_parser_list X_doc_parser_pairs X_doc_parser_under) k I [1, 0, 0] wq1l (outK (wqp k X_doc_parser_block X_doc_parser_list X_doc_parser_pairs X_doc_parser_under) wq4y [] (wq3c K E)))) x0 x1 x2 x3 x4 K E := by kernel_rfl
noncomputable def wq2r (k : Nat) (X_doc_parser_block : wqe) (X_doc_parser_list : wqi) (X_doc_parser_pairs : wqf) (X_doc_parser_under : wqg) {R : Type}  : Nat → (List (Int × (Int × (Int × ((List UInt8) × Bool))))) → (List (Int × (Int × ((List UInt8) × (Bool × ((List (List UInt8)) × (List Int))))))) → Int → Int → Int → (List Int) → ((List (Int × (Int × (Int × ((List UInt8) × Bool))))) → (List (Int × (Int × ((List UInt8) × (Bool × ((List (List UInt8)) × (List Int))))))) → Option R) → ((List (Int × (Int × (Int × ((List UInt8) × Bool))))) → (List (Int × (Int × ((List UInt8) × (Bool × ((List (List UInt8)) × (List Int))))))) → Int → Int → Option R) → Option R
  | 0, _, _, _, _, _, _, _, _ => none
  | n + 1, s0, s1, s2, s3, s4, s5, K, E => wq6r k X_doc_parser_block X_doc_parser_list X_doc_parser_pairs X_doc_parser_under (fun s0 s1 s2 s3 s4 s5 => wq2r k X_doc_parser_block X_doc_parser_list X_doc_parser_pairs X_doc_parser_under  n s0 s1 s2 s3 s4 s5 K E) s0 s1 s2 s3 s4 s5 K E
theorem wqhe (k : Nat) (X_doc_parser_block : wqe) (X_doc_parser_list : wqi) (X_doc_parser_pairs : wqf) (X_doc_parser_under : wqg) {R : Type} (I : Nat → St → Option R) (K : wq1e R) (E : wql R) : ∀ (n : Nat) (s0 : (List (Int × (Int × (Int × ((List UInt8) × Bool)))))) (s1 : (List (Int × (Int × ((List UInt8) × (Bool × ((List (List UInt8)) × (List Int)))))))) (s2 s3 s4 : Int) (s5 : (List Int)), iter (wqp k X_doc_parser_block X_doc_parser_list X_doc_parser_pairs X_doc_parser_under).pv (look (wqp k X_doc_parser_block X_doc_parser_list X_doc_parser_pairs X_doc_parser_under).cuts 1001) (execK (wqp k X_doc_parser_block X_doc_parser_list X_doc_parser_pairs X_doc_parser_under) k (at_ [1, 0, 0, 0] wq1l)) n (wq3u s0 s1 s2 s3 s4 s5) (konts (wqp k X_doc_parser_block X_doc_parser_list X_doc_parser_pairs X_doc_parser_under) k I [1, 0, 0] wq1l (outK (wqp k X_doc_parser_block X_doc_parser_list X_doc_parser_pairs X_doc_parser_under) wq4y [] (wq3c K E))) = wq2r k X_doc_parser_block X_doc_parser_list X_doc_parser_pairs X_doc_parser_under  n s0 s1 s2 s3 s4 s5 K E := by
  intro n
  induction n with
  | zero => intros; rfl
  | succ n ih =>
    intro s0 s1 s2 s3 s4 s5
    let I' : Nat → St → Option R := fun id s => bif Nat.beq id 1001 then iter (wqp k X_doc_parser_block X_doc_parser_list X_doc_parser_pairs X_doc_parser_under).pv (look (wqp k X_doc_parser_block X_doc_parser_list X_doc_parser_pairs X_doc_parser_under).cuts 1001) (execK (wqp k X_doc_parser_block X_doc_parser_list X_doc_parser_pairs X_doc_parser_under) k (at_ [1, 0, 0, 0] wq1l)) n s (konts (wqp k X_doc_parser_block X_doc_parser_list X_doc_parser_pairs X_doc_parser_under) k I [1, 0, 0] wq1l (outK (wqp k X_doc_parser_block X_doc_parser_list X_doc_parser_pairs X_doc_parser_under) wq4y [] (wq3c K E))) else I id s
    have e := wqhd k X_doc_parser_block X_doc_parser_list X_doc_parser_pairs X_doc_parser_under I' s0 s1 s2 s3 s4 s5 K E
    have h1001 : (fun s0 s1 s2 s3 s4 s5 => I' 1001 (wq3u s0 s1 s2 s3 s4 s5)) = (fun s0 s1 s2 s3 s4 s5 => wq2r k X_doc_parser_block X_doc_parser_list X_doc_parser_pairs X_doc_parser_under  n s0 s1 s2 s3 s4 s5 K E) := by funext s0 s1 s2 s3 s4 s5; exact ih s0 s1 s2 s3 s4 s5
    refine Eq.trans (?_ : _ = _) (e.trans (Eq.trans ((congrArg ((fun E1001 => wq6r k X_doc_parser_block X_doc_parser_list X_doc_parser_pairs X_doc_parser_under E1001 s0 s1 s2 s3 s4 s5 K E)) h1001)) (by rw [wq2r])))
    rfl
noncomputable def wqhf (k : Nat) (X_doc_parser_block : wqe) (X_doc_parser_list : wqi) (X_doc_parser_pairs : wqf) (X_doc_parser_under : wqg) : CTab := (CTab.add 42 wqfq (wqaz k) (CTab.add 76 wqb8 (wq6p k) (CTab.add 113 wqfr (wq89 k) (CTab.add 114 wqek (wq4l X_doc_parser_under) (CTab.add 115 wqb6 (wq4b k) CTab.nil)))))
def wq33 {R : Type} (K : wq1e R) (E : wql R) : Out → Option R
  | .ret [] [(21, .row 52 (.pr (.int .i64) (.pr (.int .i64) (.pr .str (.pr .bool (.pr (.sl .str) (.sl (.int .i64))))))) y1), (1, .var 95 [.v (.sl (.pr (.int .i64) (.pr (.int .i64) (.pr (.int .i64) (.pr .str .bool))))) y0, .row 21])] => K y0 y1
  | .pan (.ifc 28 (.agg [.v (.int .i64) z2, .v (.int .i64) z3])) [(21, .row 52 (.pr (.int .i64) (.pr (.int .i64) (.pr .str (.pr .bool (.pr (.sl .str) (.sl (.int .i64))))))) z1), (1, .var 95 [.v (.sl (.pr (.int .i64) (.pr (.int .i64) (.pr (.int .i64) (.pr .str .bool))))) z0, .row 21])] => E z0 z1 z2 z3
  | _ => none
def wq4d : RetSpec := ⟨[], [(1, .obj 1 [.sl (.pr (.int .i64) (.pr (.int .i64) (.pr (.int .i64) (.pr .str .bool)))), .own 21 52 (.pr (.int .i64) (.pr (.int .i64) (.pr .str (.pr .bool (.pr (.sl .str) (.sl (.int .i64)))))))])], [(1, .obj 1 [.sl (.pr (.int .i64) (.pr (.int .i64) (.pr (.int .i64) (.pr .str .bool)))), .own 21 52 (.pr (.int .i64) (.pr (.int .i64) (.pr .str (.pr .bool (.pr (.sl .str) (.sl (.int .i64)))))))])]⟩
def wqmi : List (Nat × CutSpec) := [(1002, ⟨[(0, .obj 1 [.sl (.pr (.int .i64) (.pr (.int .i64) (.pr (.int .i64) (.pr .str .bool)))), .own 21 52 (.pr (.int .i64) (.pr (.int .i64) (.pr .str (.pr .bool (.pr (.sl .str) (.sl (.int .i64)))))))]), (1, .any), (2, .any), (3, .any), (8, .own 100008 9 .str), (9, .own 100009 3 (.int .i64))], [(1, .obj 1 [.sl (.pr (.int .i64) (.pr (.int .i64) (.pr (.int .i64) (.pr .str .bool)))), .own 21 52 (.pr (.int .i64) (.pr (.int .i64) (.pr .str (.pr .bool (.pr (.sl .str) (.sl (.int .i64)))))))])]⟩)]
def wqka : List (Nat × Plan) := []
noncomputable def wqm (k : Nat) (X_doc_parser_block : wqe) (X_doc_parser_list : wqi) (X_doc_parser_pairs : wqf) (X_doc_parser_under : wqg) : Ctx := ⟨tyT, wqmi, wqhf k X_doc_parser_block X_doc_parser_list X_doc_parser_pairs X_doc_parser_under, [], [1], wqka, @SH⟩
noncomputable def wq1f : Code := Tryz.f78.body.getD .skip
def wq3e (s0 : (List (Int × (Int × (Int × ((List UInt8) × Bool)))))) (s1 : (List (Int × (Int × ((List UInt8) × (Bool × ((List (List UInt8)) × (List Int)))))))) (s2 s3 s4 : Int) (s5 : (List (List UInt8))) (s6 : (List Int)) : St := ⟨mkT [(0, .ptr 1 0), (1, .v (.int .i64) s2), (2, .v (.int .i64) s3), (3, .v (.int .i64) s4), (8, .row 100008), (9, .row 100009)], mkH [(21, .row 52 (.pr (.int .i64) (.pr (.int .i64) (.pr .str (.pr .bool (.pr (.sl .str) (.sl (.int .i64))))))) s1), (1, .var 95 [.v (.sl (.pr (.int .i64) (.pr (.int .i64) (.pr (.int .i64) (.pr .str .bool))))) s0, .row 21]), (100008, .row 9 .str s5), (100009, .row 3 (.int .i64) s6)]⟩
noncomputable def wq6f (k : Nat) (X_doc_parser_block : wqe) (X_doc_parser_list : wqi) (X_doc_parser_pairs : wqf) (X_doc_parser_under : wqg) {R : Type} (E1002 : ((List (Int × (Int × (Int × ((List UInt8) × Bool))))) → (List (Int × (Int × ((List UInt8) × (Bool × ((List (List UInt8)) × (List Int))))))) → Int → Int → Int → (List (List UInt8)) → (List Int) → Option R)) (s0 : (List (Int × (Int × (Int × ((List UInt8) × Bool)))))) (s1 : (List (Int × (Int × ((List UInt8) × (Bool × ((List (List UInt8)) × (List Int)))))))) (s2 s3 s4 : Int) (s5 : (List (List UInt8))) (s6 : (List Int)) (K : wq1e R) (E : wql R) : Option R := (@wq6l k R s0 s1 (2 : Int) s3 (fun y12 y13 y14 => (@cond (@Option R) y14 (@wq5s k R y12 y13 (fun y15 y16 y17 y18 y19 y20 y21 => (@wq2f k R s5 y20 (fun y22 => (@cond (@Option R) y22 (@wq79 k R (7 : Int) y18 (fun y23 y24 => (E y15 y16 y23 y24))) (@cond (@Option R) (@fits (@List.length (@Kd.T Kd.str) s5) (@List.length (@Kd.T Kd.str) (y20 :: [])) (16 : Nat)) (X_doc_parser_under R y15 y16 y17 y18 y19 y20 y21 s4 (fun y23 y24 y25 => (@cond (@Option R) (@fits (@List.length (@Kd.T kI) s6) (@List.length (@Kd.T kI) (y25 :: [])) (8 : Nat)) (E1002 y23 y24 s2 s3 s4 (@HAppend.hAppend (@Kd.T (@Kd.sl Kd.str)) (@List (@Kd.T Kd.str)) (@Kd.T (@Kd.sl Kd.str)) (@instHAppendOfAppend (@Kd.T (@Kd.sl Kd.str)) (@List.instAppend (@Kd.T Kd.str))) s5 (y20 :: [])) (@HAppend.hAppend (@Kd.T (@Kd.sl kI)) (@List (@Kd.T kI)) (@Kd.T (@Kd.sl kI)) (@instHAppendOfAppend (@Kd.T (@Kd.sl kI)) (@List.instAppend (@Kd.T kI))) s6 (y25 :: []))) (@Option.none R))) (fun y23 y24 y25 y26 => (E y23 y24 y25 y26))) (@Option.none R))))))) (@cond (@Option R) (@inb s2 (@Nat.cast Int instNatCastInt (@List.length (@Kd.T (@Kd.pr kI (@Kd.pr kI (@Kd.pr Kd.str (@Kd.pr Kd.bool (@Kd.pr (@Kd.sl Kd.str) (@Kd.sl kI))))))) y13))) (@SH (@List (@Kd.T (@Kd.pr kI (@Kd.pr kI (@Kd.pr Kd.str (@Kd.pr Kd.bool (@Kd.pr (@Kd.sl Kd.str) (@Kd.sl kI)))))))) R (@List.set (@Kd.T (@Kd.pr kI (@Kd.pr kI (@Kd.pr Kd.str (@Kd.pr Kd.bool (@Kd.pr (@Kd.sl Kd.str) (@Kd.sl kI))))))) y13 (@Int.toNat s2) ((3 : Int), ((@List.getD (@Kd.T (@Kd.pr kI (@Kd.pr kI (@Kd.pr Kd.str (@Kd.pr Kd.bool (@Kd.pr (@Kd.sl Kd.str) (@Kd.sl kI))))))) y13 (@Int.toNat s2) (@Kd.zero (@Kd.pr kI (@Kd.pr kI (@Kd.pr Kd.str (@Kd.pr Kd.bool (@Kd.pr (@Kd.sl Kd.str) (@Kd.sl kI)))))))).2.1, ((@List.getD (@Kd.T (@Kd.pr kI (@Kd.pr kI (@Kd.pr Kd.str (@Kd.pr Kd.bool (@Kd.pr (@Kd.sl Kd.str) (@Kd.sl kI))))))) y13 (@Int.toNat s2) (@Kd.zero (@Kd.pr kI (@Kd.pr kI (@Kd.pr Kd.str (@Kd.pr Kd.bool (@Kd.pr (@Kd.sl Kd.str) (@Kd.sl kI)))))))).2.2.1, ((@List.getD (@Kd.T (@Kd.pr kI (@Kd.pr kI (@Kd.pr Kd.str (@Kd.pr Kd.bool (@Kd.pr (@Kd.sl Kd.str) (@Kd.sl kI))))))) y13 (@Int.toNat s2) (@Kd.zero (@Kd.pr kI (@Kd.pr kI (@Kd.pr Kd.str (@Kd.pr Kd.bool (@Kd.pr (@Kd.sl Kd.str) (@Kd.sl kI)))))))).2.2.2.1, ((@List.getD (@Kd.T (@Kd.pr kI (@Kd.pr kI (@Kd.pr Kd.str (@Kd.pr Kd.bool (@Kd.pr (@Kd.sl Kd.str) (@Kd.sl kI))))))) y13 (@Int.toNat s2) (@Kd.zero (@Kd.pr kI (@Kd.pr kI (@Kd.pr Kd.str (@Kd.pr Kd.bool (@Kd.pr (@Kd.sl Kd.str) (@Kd.sl kI)))))))).2.2.2.2.1, (@List.getD (@Kd.T (@Kd.pr kI (@Kd.pr kI (@Kd.pr Kd.str (@Kd.pr Kd.bool (@Kd.pr (@Kd.sl Kd.str) (@Kd.sl kI))))))) y13 (@Int.toNat s2) (@Kd.zero (@Kd.pr kI (@Kd.pr kI (@Kd.pr Kd.str (@Kd.pr Kd.bool (@Kd.pr (@Kd.sl Kd.str) (@Kd.sl kI)))))))).2.2.2.2.2)))))) (fun y15 => (@SH (@List (@Kd.T (@Kd.pr kI (@Kd.pr kI (@Kd.pr Kd.str (@Kd.pr Kd.bool (@Kd.pr (@Kd.sl Kd.str) (@Kd.sl kI)))))))) R (@List.set (@Kd.T (@Kd.pr kI (@Kd.pr kI (@Kd.pr Kd.str (@Kd.pr Kd.bool (@Kd.pr (@Kd.sl Kd.str) (@Kd.sl kI))))))) y15 (@Int.toNat s2) ((@List.getD (@Kd.T (@Kd.pr kI (@Kd.pr kI (@Kd.pr Kd.str (@Kd.pr Kd.bool (@Kd.pr (@Kd.sl Kd.str) (@Kd.sl kI))))))) y15 (@Int.toNat s2) (@Kd.zero (@Kd.pr kI (@Kd.pr kI (@Kd.pr Kd.str (@Kd.pr Kd.bool (@Kd.pr (@Kd.sl Kd.str) (@Kd.sl kI)))))))).1, ((@List.getD (@Kd.T (@Kd.pr kI (@Kd.pr kI (@Kd.pr Kd.str (@Kd.pr Kd.bool (@Kd.pr (@Kd.sl Kd.str) (@Kd.sl kI))))))) y15 (@Int.toNat s2) (@Kd.zero (@Kd.pr kI (@Kd.pr kI (@Kd.pr Kd.str (@Kd.pr Kd.bool (@Kd.pr (@Kd.sl Kd.str) (@Kd.sl kI)))))))).2.1, ((@List.getD (@Kd.T (@Kd.pr kI (@Kd.pr kI (@Kd.pr Kd.str (@Kd.pr Kd.bool (@Kd.pr (@Kd.sl Kd.str) (@Kd.sl kI))))))) y15 (@Int.toNat s2) (@Kd.zero (@Kd.pr kI (@Kd.pr kI (@Kd.pr Kd.str (@Kd.pr Kd.bool (@Kd.pr (@Kd.sl Kd.str) (@Kd.sl kI)))))))).2.2.1, ((@List.getD (@Kd.T (@Kd.pr kI (@Kd.pr kI (@Kd.pr Kd.str (@Kd.pr Kd.bool (@Kd.pr (@Kd.sl Kd.str) (@Kd.sl kI))))))) y15 (@Int.toNat s2) (@Kd.zero (@Kd.pr kI (@Kd.pr kI (@Kd.pr Kd.str (@Kd.pr Kd.bool (@Kd.pr (@Kd.sl Kd.str) (@Kd.sl kI)))))))).2.2.2.1, (s5, (@List.getD (@Kd.T (@Kd.pr kI (@Kd.pr kI (@Kd.pr Kd.str (@Kd.pr Kd.bool (@Kd.pr (@Kd.sl Kd.str) (@Kd.sl kI))))))) y15 (@Int.toNat s2) (@Kd.zero (@Kd.pr kI (@Kd.pr kI (@Kd.pr Kd.str (@Kd.pr Kd.bool (@Kd.pr (@Kd.sl Kd.str) (@Kd.sl kI)))))))).2.2.2.2.2)))))) (fun y16 => (@SH (@List (@Kd.T (@Kd.pr kI (@Kd.pr kI (@Kd.pr Kd.str (@Kd.pr Kd.bool (@Kd.pr (@Kd.sl Kd.str) (@Kd.sl kI)))))))) R (@List.set (@Kd.T (@Kd.pr kI (@Kd.pr kI (@Kd.pr Kd.str (@Kd.pr Kd.bool (@Kd.pr (@Kd.sl Kd.str) (@Kd.sl kI))))))) y16 (@Int.toNat s2) ((@List.getD (@Kd.T (@Kd.pr kI (@Kd.pr kI (@Kd.pr Kd.str (@Kd.pr Kd.bool (@Kd.pr (@Kd.sl Kd.str) (@Kd.sl kI))))))) y16 (@Int.toNat s2) (@Kd.zero (@Kd.pr kI (@Kd.pr kI (@Kd.pr Kd.str (@Kd.pr Kd.bool (@Kd.pr (@Kd.sl Kd.str) (@Kd.sl kI)))))))).1, ((@List.getD (@Kd.T (@Kd.pr kI (@Kd.pr kI (@Kd.pr Kd.str (@Kd.pr Kd.bool (@Kd.pr (@Kd.sl Kd.str) (@Kd.sl kI))))))) y16 (@Int.toNat s2) (@Kd.zero (@Kd.pr kI (@Kd.pr kI (@Kd.pr Kd.str (@Kd.pr Kd.bool (@Kd.pr (@Kd.sl Kd.str) (@Kd.sl kI)))))))).2.1, ((@List.getD (@Kd.T (@Kd.pr kI (@Kd.pr kI (@Kd.pr Kd.str (@Kd.pr Kd.bool (@Kd.pr (@Kd.sl Kd.str) (@Kd.sl kI))))))) y16 (@Int.toNat s2) (@Kd.zero (@Kd.pr kI (@Kd.pr kI (@Kd.pr Kd.str (@Kd.pr Kd.bool (@Kd.pr (@Kd.sl Kd.str) (@Kd.sl kI)))))))).2.2.1, ((@List.getD (@Kd.T (@Kd.pr kI (@Kd.pr kI (@Kd.pr Kd.str (@Kd.pr Kd.bool (@Kd.pr (@Kd.sl Kd.str) (@Kd.sl kI))))))) y16 (@Int.toNat s2) (@Kd.zero (@Kd.pr kI (@Kd.pr kI (@Kd.pr Kd.str (@Kd.pr Kd.bool (@Kd.pr (@Kd.sl Kd.str) (@Kd.sl kI)))))))).2.2.2.1, ((@List.getD (@Kd.T (@Kd.pr kI (@Kd.pr kI (@Kd.pr Kd.str (@Kd.pr Kd.bool (@Kd.pr (@Kd.sl Kd.str) (@Kd.sl kI))))))) y16 (@Int.toNat s2) (@Kd.zero (@Kd.pr kI (@Kd.pr kI (@Kd.pr Kd.str (@Kd.pr Kd.bool (@Kd.pr (@Kd.sl Kd.str) (@Kd.sl kI)))))))).2.2.2.2.1, s6)))))) (fun y17 => (K y12 y17))))))) (@Option.none R)))))
theorem wqge (k : Nat) (X_doc_parser_block : wqe) (X_doc_parser_list : wqi) (X_doc_parser_pairs : wqf) (X_doc_parser_under : wqg) {R : Type} (I : Nat → St → Option R) (s0 : (List (Int × (Int × (Int × ((List UInt8) × Bool)))))) (s1 : (List (Int × (Int × ((List UInt8) × (Bool × ((List (List UInt8)) × (List Int)))))))) (s2 s3 s4 : Int) (s5 : (List (List UInt8))) (s6 : (List Int)) (K : wq1e R) (E : wql R) : execK (wqm k X_doc_parser_block X_doc_parser_list X_doc_parser_pairs X_doc_parser_under) k (at_ [1, 1, 0, 0, 0] wq1f) (wq3e s0 s1 s2 s3 s4 s5 s6) (konts (wqm k X_doc_parser_block X_doc_parser_list X_doc_parser_pairs X_doc_parser_under) k I [1, 1, 0, 0, 0] wq1f (outK (wqm k X_doc_parser_block X_doc_parser_list X_doc_parser_pairs X_doc_parser_under) wq4d [] (wq33 K E))) = wq6f k X_doc_parser_block X_doc_parser_list X_doc_parser_pairs X_doc_parser_under (fun s0 s1 s2 s3 s4 s5 s6 => I 1002 (wq3e s0 s1 s2 s3 s4 s5 s6)) s0 s1 s2 s3 s4 s5 s6 K E := by kernel_rfl
noncomputable def wq8z (k : Nat) (X_doc_parser_block : wqe) (X_doc_parser_list : wqi) (X_doc_parser_pairs : wqf) (X_doc_parser_under : wqg) {R : Type} (E1002 : ((List (Int × (Int × (Int × ((List UInt8) × Bool))))) → (List (Int × (Int × ((List UInt8) × (Bool × ((List (List UInt8)) × (List Int))))))) → Int → Int → Int → (List (List UInt8)) → (List Int) → Option R)) (x0 : (List (Int × (Int × (Int × ((List UInt8) × Bool)))))) (x1 : (List (Int × (Int × ((List UInt8) × (Bool × ((List (List UInt8)) × (List Int)))))))) (x2 x3 x4 : Int) (K : wq1e R) (E : wql R) : Option R := (E1002 x0 x1 x2 x3 x4 [] [])
theorem wqmj (k : Nat) (X_doc_parser_block : wqe) (X_doc_parser_list : wqi) (X_doc_parser_pairs : wqf) (X_doc_parser_under : wqg) {R : Type} (I : Nat → St → Option R) (x0 : (List (Int × (Int × (Int × ((List UInt8) × Bool)))))) (x1 : (List (Int × (Int × ((List UInt8) × (Bool × ((List (List UInt8)) × (List Int)))))))) (x2 x3 x4 : Int) (K : wq1e R) (E : wql R) : fnK (wqm k X_doc_parser_block X_doc_parser_list X_doc_parser_pairs X_doc_parser_under) k wq1f 54 [] wq4d [.ptr 1 0, .v (.int .i64) x2, .v (.int .i64) x3, .v (.int .i64) x4] [(21, .row 52 (.pr (.int .i64) (.pr (.int .i64) (.pr .str (.pr .bool (.pr (.sl .str) (.sl (.int .i64))))))) x1), (1, .var 95 [.v (.sl (.pr (.int .i64) (.pr (.int .i64) (.pr (.int .i64) (.pr .str .bool))))) x0, .row 21])] (wq33 K E) = wq8z k X_doc_parser_block X_doc_parser_list X_doc_parser_pairs X_doc_parser_under (fun s0 s1 s2 s3 s4 s5 s6 => iter (wqm k X_doc_parser_block X_doc_parser_list X_doc_parser_pairs X_doc_parser_under).pv (look (wqm k X_doc_parser_block X_doc_parser_list X_doc_parser_pairs X_doc_parser_under).cuts 1002) (execK (wqm k X_doc_parser_block X_doc_parser_list X_doc_parser_pairs X_doc_parser_under) k (at_ [1, 1, 0, 0, 0] wq1f)) k (wq3e s0 s1 s2 s3 s4 s5 s6) (konts (wqm k X_doc_parser_block X_doc_parser_list X_doc_parser_pairs X_doc_parser_under) k I [1, 1, 0, 0] wq1f (outK (wqm k X_doc_parser_block X_doc_parser_list X_doc_parser_pairs X_doc_parser_under) wq4d [] (wq33 K E)))) x0 x1 x2 x3 x4 K E := by kernel_rfl
noncomputable def wq2g (k : Nat) (X_doc_parser_block : wqe) (X_doc_parser_list : wqi) (X_doc_parser_pairs : wqf) (X_doc_parser_under : wqg) {R : Type}  : Nat → (List (Int × (Int × (Int × ((List UInt8) × Bool))))) → (List (Int × (Int × ((List UInt8) × (Bool × ((List (List UInt8)) × (List Int))))))) → Int → Int → Int → (List (List UInt8)) → (List Int) → ((List (Int × (Int × (Int × ((List UInt8) × Bool))))) → (List (Int × (Int × ((List UInt8) × (Bool × ((List (List UInt8)) × (List Int))))))) → Option R) → ((List (Int × (Int × (Int × ((List UInt8) × Bool))))) → (List (Int × (Int × ((List UInt8) × (Bool × ((List (List UInt8)) × (List Int))))))) → Int → Int → Option R) → Option R
  | 0, _, _, _, _, _, _, _, _, _ => none
  | n + 1, s0, s1, s2, s3, s4, s5, s6, K, E => wq6f k X_doc_parser_block X_doc_parser_list X_doc_parser_pairs X_doc_parser_under (fun s0 s1 s2 s3 s4 s5 s6 => wq2g k X_doc_parser_block X_doc_parser_list X_doc_parser_pairs X_doc_parser_under  n s0 s1 s2 s3 s4 s5 s6 K E) s0 s1 s2 s3 s4 s5 s6 K E
theorem wqgf (k : Nat) (X_doc_parser_block : wqe) (X_doc_parser_list : wqi) (X_doc_parser_pairs : wqf) (X_doc_parser_under : wqg) {R : Type} (I : Nat → St → Option R) (K : wq1e R) (E : wql R) : ∀ (n : Nat) (s0 : (List (Int × (Int × (Int × ((List UInt8) × Bool)))))) (s1 : (List (Int × (Int × ((List UInt8) × (Bool × ((List (List UInt8)) × (List Int)))))))) (s2 s3 s4 : Int) (s5 : (List (List UInt8))) (s6 : (List Int)), iter (wqm k X_doc_parser_block X_doc_parser_list X_doc_parser_pairs X_doc_parser_under).pv (look (wqm k X_doc_parser_block X_doc_parser_list X_doc_parser_pairs X_doc_parser_under).cuts 1002) (execK (wqm k X_doc_parser_block X_doc_parser_list X_doc_parser_pairs X_doc_parser_under) k (at_ [1, 1, 0, 0, 0] wq1f)) n (wq3e s0 s1 s2 s3 s4 s5 s6) (konts (wqm k X_doc_parser_block X_doc_parser_list X_doc_parser_pairs X_doc_parser_under) k I [1, 1, 0, 0] wq1f (outK (wqm k X_doc_parser_block X_doc_parser_list X_doc_parser_pairs X_doc_parser_under) wq4d [] (wq33 K E))) = wq2g k X_doc_parser_block X_doc_parser_list X_doc_parser_pairs X_doc_parser_under  n s0 s1 s2 s3 s4 s5 s6 K E := by
  intro n
  induction n with
  | zero => intros; rfl
  | succ n ih =>
    intro s0 s1 s2 s3 s4 s5 s6
    let I' : Nat → St → Option R := fun id s => bif Nat.beq id 1002 then iter (wqm k X_doc_parser_block X_doc_parser_list X_doc_parser_pairs X_doc_parser_under).pv (look (wqm k X_doc_parser_block X_doc_parser_list X_doc_parser_pairs X_doc_parser_under).cuts 1002) (execK (wqm k X_doc_parser_block X_doc_parser_list X_doc_parser_pairs X_doc_parser_under) k (at_ [1, 1, 0, 0, 0] wq1f)) n s (konts (wqm k X_doc_parser_block X_doc_parser_list X_doc_parser_pairs X_doc_parser_under) k I [1, 1, 0, 0] wq1f (outK (wqm k X_doc_parser_block X_doc_parser_list X_doc_parser_pairs X_doc_parser_under) wq4d [] (wq33 K E))) else I id s
    have e := wqge k X_doc_parser_block X_doc_parser_list X_doc_parser_pairs X_doc_parser_under I' s0 s1 s2 s3 s4 s5 s6 K E
    have h1002 : (fun s0 s1 s2 s3 s4 s5 s6 => I' 1002 (wq3e s0 s1 s2 s3 s4 s5 s6)) = (fun s0 s1 s2 s3 s4 s5 s6 => wq2g k X_doc_parser_block X_doc_parser_list X_doc_parser_pairs X_doc_parser_under  n s0 s1 s2 s3 s4 s5 s6 K E) := by funext s0 s1 s2 s3 s4 s5 s6; exact ih s0 s1 s2 s3 s4 s5 s6
    refine Eq.trans (?_ : _ = _) (e.trans (Eq.trans ((congrArg ((fun E1002 => wq6f k X_doc_parser_block X_doc_parser_list X_doc_parser_pairs X_doc_parser_under E1002 s0 s1 s2 s3 s4 s5 s6 K E)) h1002)) (by rw [wq2g])))
    rfl
noncomputable def wqhg (k : Nat) (X_doc_parser_block : wqe) (X_doc_parser_list : wqi) (X_doc_parser_pairs : wqf) (X_doc_parser_under : wqg) : CTab := (CTab.add 42 wqfq (wqaz k) (CTab.add 43 wqej (wq9d X_doc_parser_block) CTab.nil))
def wq9h {R : Type} (K : wq2p R) (E : wql R) : Out → Option R
  | .ret [.v (.int .i64) y2] [(21, .row 52 (.pr (.int .i64) (.pr (.int .i64) (.pr .str (.pr .bool (.pr (.sl .str) (.sl (.int .i64))))))) y1), (1, .var 95 [.v (.sl (.pr (.int .i64) (.pr (.int .i64) (.pr (.int .i64) (.pr .str .bool))))) y0, .row 21])] => K y0 y1 y2
  | .pan (.ifc 28 (.agg [.v (.int .i64) z2, .v (.int .i64) z3])) [(21, .row 52 (.pr (.int .i64) (.pr (.int .i64) (.pr .str (.pr .bool (.pr (.sl .str) (.sl (.int .i64))))))) z1), (1, .var 95 [.v (.sl (.pr (.int .i64) (.pr (.int .i64) (.pr (.int .i64) (.pr .str .bool))))) z0, .row 21])] => E z0 z1 z2 z3
  | _ => none
def wqft : RetSpec := ⟨[.any], [(1, .obj 1 [.sl (.pr (.int .i64) (.pr (.int .i64) (.pr (.int .i64) (.pr .str .bool)))), .own 21 52 (.pr (.int .i64) (.pr (.int .i64) (.pr .str (.pr .bool (.pr (.sl .str) (.sl (.int .i64)))))))])], [(1, .obj 1 [.sl (.pr (.int .i64) (.pr (.int .i64) (.pr (.int .i64) (.pr .str .bool)))), .own 21 52 (.pr (.int .i64) (.pr (.int .i64) (.pr .str (.pr .bool (.pr (.sl .str) (.sl (.int .i64)))))))])]⟩
def wqmk : List (Nat × CutSpec) := []
def wqkb : List (Nat × Plan) := [(1, (.of [(0, 1), (1, 1), (2, 1), (3, 1), (4, 1), (5, 1), (6, 1), (7, 1), (8, 1), (9, 1), (14, 1), (10, 1), (11, 1), (12, 1), (13, 1), (15, 1), (16, 1), (17, 1)] .done))]
noncomputable def wqbb (k : Nat) (X_doc_parser_block : wqe) (X_doc_parser_list : wqi) (X_doc_parser_pairs : wqf) (X_doc_parser_under : wqg) : Ctx := ⟨tyT, wqmk, wqhg k X_doc_parser_block X_doc_parser_list X_doc_parser_pairs X_doc_parser_under, [], [1], wqkb, @SH⟩
noncomputable def wq9i : Code := Tryz.f114.body.getD .skip
noncomputable def wqca (k : Nat) (X_doc_parser_block : wqe) (X_doc_parser_list : wqi) (X_doc_parser_pairs : wqf) (X_doc_parser_under : wqg) {R : Type}  (x0 : (List (Int × (Int × (Int × ((List UInt8) × Bool)))))) (x1 : (List (Int × (Int × ((List UInt8) × (Bool × ((List (List UInt8)) × (List Int)))))))) (x2 x3 x4 : Int) (x5 : (List UInt8)) (x6 : Bool) (x7 : Int) (K : wq2p R) (E : wql R) : Option R := (@cond (@Option R) (@Bool.or (@Bool.not (@BEq.beq (@Kd.T Kd.bool) (@instBEqOfDecidableEq (@Kd.T Kd.bool) @instDecidableEqBool) (@BEq.beq Int (@instBEqOfDecidableEq Int @Int.instDecidableEq) (@Nat.cast Int instNatCastInt (@List.length (@Kd.T (@Kd.pr kI (@Kd.pr kI (@Kd.pr kI (@Kd.pr Kd.str Kd.bool))))) x0)) (0 : Int)) Bool.false)) (@inb (0 : Int) (@Nat.cast Int instNatCastInt (@List.length (@Kd.T (@Kd.pr kI (@Kd.pr kI (@Kd.pr kI (@Kd.pr Kd.str Kd.bool))))) x0)))) (@cond (@Option R) (@cond (@Kd.T Kd.bool) (@BEq.beq Int (@instBEqOfDecidableEq Int @Int.instDecidableEq) (@Nat.cast Int instNatCastInt (@List.length (@Kd.T (@Kd.pr kI (@Kd.pr kI (@Kd.pr kI (@Kd.pr Kd.str Kd.bool))))) x0)) (0 : Int)) Bool.true (@Decidable.decide (@LE.le Int Int.instLEInt (@List.getD (@Kd.T (@Kd.pr kI (@Kd.pr kI (@Kd.pr kI (@Kd.pr Kd.str Kd.bool))))) x0 (@Int.toNat (0 : Int)) (@Kd.zero (@Kd.pr kI (@Kd.pr kI (@Kd.pr kI (@Kd.pr Kd.str Kd.bool)))))).2.2.1 x4) (@Int.decLe (@List.getD (@Kd.T (@Kd.pr kI (@Kd.pr kI (@Kd.pr kI (@Kd.pr Kd.str Kd.bool))))) x0 (@Int.toNat (0 : Int)) (@Kd.zero (@Kd.pr kI (@Kd.pr kI (@Kd.pr kI (@Kd.pr Kd.str Kd.bool)))))).2.2.1 x4))) (@wq79 k R (10 : Int) x3 (fun y12 y13 => (E x0 x1 y12 y13))) (X_doc_parser_block R x0 x1 (@Go.IntKind.wrap Go.IntKind.i64 (@HAdd.hAdd Int Int Int (@instHAdd Int @Int.instAdd) x7 (1 : Int))) (fun y12 y13 y14 => (K y12 y13 y14)) (fun y12 y13 y14 y15 => (E y12 y13 y14 y15)))) (@Option.none R))
theorem wqml (k : Nat) (X_doc_parser_block : wqe) (X_doc_parser_list : wqi) (X_doc_parser_pairs : wqf) (X_doc_parser_under : wqg) {R : Type} (I : Nat → St → Option R) (x0 : (List (Int × (Int × (Int × ((List UInt8) × Bool)))))) (x1 : (List (Int × (Int × ((List UInt8) × (Bool × ((List (List UInt8)) × (List Int)))))))) (x2 x3 x4 : Int) (x5 : (List UInt8)) (x6 : Bool) (x7 : Int) (K : wq2p R) (E : wql R) : fnK (wqbb k X_doc_parser_block X_doc_parser_list X_doc_parser_pairs X_doc_parser_under) k wq9i 32 [.tmp 6] wqft [.ptr 1 0, .agg [.v (.int .i64) x2, .v (.int .i64) x3, .v (.int .i64) x4, .v .str x5, .v .bool x6], .v (.int .i64) x7] [(21, .row 52 (.pr (.int .i64) (.pr (.int .i64) (.pr .str (.pr .bool (.pr (.sl .str) (.sl (.int .i64))))))) x1), (1, .var 95 [.v (.sl (.pr (.int .i64) (.pr (.int .i64) (.pr (.int .i64) (.pr .str .bool))))) x0, .row 21])] (wq9h K E) = wqca k X_doc_parser_block X_doc_parser_list X_doc_parser_pairs X_doc_parser_under  x0 x1 x2 x3 x4 x5 x6 x7 K E := by kernel_rfl
mutual
noncomputable def wq6 : Nat → (R : Type) → (List (Int × (Int × (Int × ((List UInt8) × Bool))))) → (List (Int × (Int × ((List UInt8) × (Bool × ((List (List UInt8)) × (List Int))))))) → Int → ((List (Int × (Int × (Int × ((List UInt8) × Bool))))) → (List (Int × (Int × ((List UInt8) × (Bool × ((List (List UInt8)) × (List Int))))))) → Int → Option R) → ((List (Int × (Int × (Int × ((List UInt8) × Bool))))) → (List (Int × (Int × ((List UInt8) × (Bool × ((List (List UInt8)) × (List Int))))))) → Int → Int → Option R) → Option R
  | 0, _, _, _, _, _, _ => none
  | k + 1, R, x0, x1, x2, K, E => wqc9 k (wq6 k) (FR_doc_parser_list k) (FR_doc_parser_pairs k) (FR_doc_parser_under k)  x0 x1 x2 K E
noncomputable def FR_doc_parser_list : Nat → (R : Type) → (List (Int × (Int × (Int × ((List UInt8) × Bool))))) → (List (Int × (Int × ((List UInt8) × (Bool × ((List (List UInt8)) × (List Int))))))) → Int → Int → Int → ((List (Int × (Int × (Int × ((List UInt8) × Bool))))) → (List (Int × (Int × ((List UInt8) × (Bool × ((List (List UInt8)) × (List Int))))))) → Option R) → ((List (Int × (Int × (Int × ((List UInt8) × Bool))))) → (List (Int × (Int × ((List UInt8) × (Bool × ((List (List UInt8)) × (List Int))))))) → Int → Int → Option R) → Option R
  | 0, _, _, _, _, _, _, _, _ => none
  | k + 1, R, x0, x1, x2, x3, x4, K, E => wq9t k (wq6 k) (FR_doc_parser_list k) (FR_doc_parser_pairs k) (FR_doc_parser_under k) (fun s0 s1 s2 s3 s4 s5 => wq2r k (wq6 k) (FR_doc_parser_list k) (FR_doc_parser_pairs k) (FR_doc_parser_under k) k s0 s1 s2 s3 s4 s5 K E) x0 x1 x2 x3 x4 K E
noncomputable def FR_doc_parser_pairs : Nat → (R : Type) → (List (Int × (Int × (Int × ((List UInt8) × Bool))))) → (List (Int × (Int × ((List UInt8) × (Bool × ((List (List UInt8)) × (List Int))))))) → Int → Int → Int → ((List (Int × (Int × (Int × ((List UInt8) × Bool))))) → (List (Int × (Int × ((List UInt8) × (Bool × ((List (List UInt8)) × (List Int))))))) → Option R) → ((List (Int × (Int × (Int × ((List UInt8) × Bool))))) → (List (Int × (Int × ((List UInt8) × (Bool × ((List (List UInt8)) × (List Int))))))) → Int → Int → Option R) → Option R
  | 0, _, _, _, _, _, _, _, _ => none
  | k + 1, R, x0, x1, x2, x3, x4, K, E => wq8z k (wq6 k) (FR_doc_parser_list k) (FR_doc_parser_pairs k) (FR_doc_parser_under k) (fun s0 s1 s2 s3 s4 s5 s6 => wq2g k (wq6 k) (FR_doc_parser_list k) (FR_doc_parser_pairs k) (FR_doc_parser_under k) k s0 s1 s2 s3 s4 s5 s6 K E) x0 x1 x2 x3 x4 K E
noncomputable def FR_doc_parser_under : Nat → (R : Type) → (List (Int × (Int × (Int × ((List UInt8) × Bool))))) → (List (Int × (Int × ((List UInt8) × (Bool × ((List (List UInt8)) × (List Int))))))) → Int → Int → Int → (List UInt8) → Bool → Int → ((List (Int × (Int × (Int × ((List UInt8) × Bool))))) → (List (Int × (Int × ((List UInt8) × (Bool × ((List (List UInt8)) × (List Int))))))) → Int → Option R) → ((List (Int × (Int × (Int × ((List UInt8) × Bool))))) → (List (Int × (Int × ((List UInt8) × (Bool × ((List (List UInt8)) × (List Int))))))) → Int → Int → Option R) → Option R
  | 0, _, _, _, _, _, _, _, _, _, _, _ => none
  | k + 1, R, x0, x1, x2, x3, x4, x5, x6, x7, K, E => wqca k (wq6 k) (FR_doc_parser_list k) (FR_doc_parser_pairs k) (FR_doc_parser_under k)  x0 x1 x2 x3 x4 x5 x6 x7 K E
end
noncomputable def wq90 (k : Nat) {R : Type} (x0 : (List (Int × (Int × (Int × ((List UInt8) × Bool)))))) (x1 : (List (Int × (Int × ((List UInt8) × (Bool × ((List (List UInt8)) × (List Int)))))))) (x2 : Int) (K : wq2p R) (E : wql R) : Option R := wq6 k R x0 x1 x2 K E
noncomputable def wqdj (k : Nat) {R : Type} (x0 : (List (Int × (Int × (Int × ((List UInt8) × Bool)))))) (x1 : (List (Int × (Int × ((List UInt8) × (Bool × ((List (List UInt8)) × (List Int)))))))) (x2 x3 x4 : Int) (K : wq1e R) (E : wql R) : Option R := FR_doc_parser_list k R x0 x1 x2 x3 x4 K E
noncomputable def wqcb (k : Nat) {R : Type} (x0 : (List (Int × (Int × (Int × ((List UInt8) × Bool)))))) (x1 : (List (Int × (Int × ((List UInt8) × (Bool × ((List (List UInt8)) × (List Int)))))))) (x2 x3 x4 : Int) (K : wq1e R) (E : wql R) : Option R := FR_doc_parser_pairs k R x0 x1 x2 x3 x4 K E
noncomputable def wqcc (k : Nat) {R : Type} (x0 : (List (Int × (Int × (Int × ((List UInt8) × Bool)))))) (x1 : (List (Int × (Int × ((List UInt8) × (Bool × ((List (List UInt8)) × (List Int)))))))) (x2 x3 x4 : Int) (x5 : (List UInt8)) (x6 : Bool) (x7 : Int) (K : wq2p R) (E : wql R) : Option R := FR_doc_parser_under k R x0 x1 x2 x3 x4 x5 x6 x7 K E
theorem wqmm (k : Nat) {R : Type} (x0 : (List (Int × (Int × (Int × ((List UInt8) × Bool)))))) (x1 : (List (Int × (Int × ((List UInt8) × (Bool × ((List (List UInt8)) × (List Int)))))))) (x2 : Int) (K : wq2p R) (E : wql R) : fnK (wqba k (wq6 k) (FR_doc_parser_list k) (FR_doc_parser_pairs k) (FR_doc_parser_under k)) k wq9g 97 [.tmp 4] wqfs [.ptr 1 0, .v (.int .i64) x2] [(21, .row 52 (.pr (.int .i64) (.pr (.int .i64) (.pr .str (.pr .bool (.pr (.sl .str) (.sl (.int .i64))))))) x1), (1, .var 95 [.v (.sl (.pr (.int .i64) (.pr (.int .i64) (.pr (.int .i64) (.pr .str .bool))))) x0, .row 21])] (wq9f K E) = wq6 (k + 1) R x0 x1 x2 K E := by
  rw [wq6]
  exact wqmg k (wq6 k) (FR_doc_parser_list k) (FR_doc_parser_pairs k) (FR_doc_parser_under k) (fun _ _ => none) x0 x1 x2 K E
noncomputable def wq4z (k : Nat) {R : Type} : List PV → List (Nm × HObj) → (Out → Option R) → Option R
  | [.ptr 1 0, .v (.int .i64) x2], [(21, .row 52 (.pr (.int .i64) (.pr (.int .i64) (.pr .str (.pr .bool (.pr (.sl .str) (.sl (.int .i64))))))) x1), (1, .var 95 [.v (.sl (.pr (.int .i64) (.pr (.int .i64) (.pr (.int .i64) (.pr .str .bool))))) x0, .row 21])], K => wq90 k x0 x1 x2 (fun y0 y1 y2 => K (.ret [.v (.int .i64) y2] [(21, .row 52 (.pr (.int .i64) (.pr (.int .i64) (.pr .str (.pr .bool (.pr (.sl .str) (.sl (.int .i64))))))) y1), (1, .var 95 [.v (.sl (.pr (.int .i64) (.pr (.int .i64) (.pr (.int .i64) (.pr .str .bool))))) y0, .row 21])])) (fun z0 z1 z2 z3 => K (.pan (.ifc 28 (.agg [.v (.int .i64) z2, .v (.int .i64) z3])) [(21, .row 52 (.pr (.int .i64) (.pr (.int .i64) (.pr .str (.pr .bool (.pr (.sl .str) (.sl (.int .i64))))))) z1), (1, .var 95 [.v (.sl (.pr (.int .i64) (.pr (.int .i64) (.pr (.int .i64) (.pr .str .bool))))) z0, .row 21])]))
  | _, _, _ => none
theorem wqoi (k : Nat) {R : Type} (x0 : (List (Int × (Int × (Int × ((List UInt8) × Bool)))))) (x1 : (List (Int × (Int × ((List UInt8) × (Bool × ((List (List UInt8)) × (List Int)))))))) (x2 x3 x4 : Int) (K : wq1e R) (E : wql R) : fnK (wqp k (wq6 k) (FR_doc_parser_list k) (FR_doc_parser_pairs k) (FR_doc_parser_under k)) k wq1l 37 [] wq4y [.ptr 1 0, .v (.int .i64) x2, .v (.int .i64) x3, .v (.int .i64) x4] [(21, .row 52 (.pr (.int .i64) (.pr (.int .i64) (.pr .str (.pr .bool (.pr (.sl .str) (.sl (.int .i64))))))) x1), (1, .var 95 [.v (.sl (.pr (.int .i64) (.pr (.int .i64) (.pr (.int .i64) (.pr .str .bool))))) x0, .row 21])] (wq3c K E) = FR_doc_parser_list (k + 1) R x0 x1 x2 x3 x4 K E := by
  rw [FR_doc_parser_list]
  let I : Nat → St → Option R := fun _ _ => none
  have h1001 : (fun s0 s1 s2 s3 s4 s5 => iter (wqp k (wq6 k) (FR_doc_parser_list k) (FR_doc_parser_pairs k) (FR_doc_parser_under k)).pv (look (wqp k (wq6 k) (FR_doc_parser_list k) (FR_doc_parser_pairs k) (FR_doc_parser_under k)).cuts 1001) (execK (wqp k (wq6 k) (FR_doc_parser_list k) (FR_doc_parser_pairs k) (FR_doc_parser_under k)) k (at_ [1, 0, 0, 0] wq1l)) k (wq3u s0 s1 s2 s3 s4 s5) (konts (wqp k (wq6 k) (FR_doc_parser_list k) (FR_doc_parser_pairs k) (FR_doc_parser_under k)) k I [1, 0, 0] wq1l (outK (wqp k (wq6 k) (FR_doc_parser_list k) (FR_doc_parser_pairs k) (FR_doc_parser_under k)) wq4y [] (wq3c K E)))) = (fun s0 s1 s2 s3 s4 s5 => wq2r k (wq6 k) (FR_doc_parser_list k) (FR_doc_parser_pairs k) (FR_doc_parser_under k) k s0 s1 s2 s3 s4 s5 K E) := by funext s0 s1 s2 s3 s4 s5; exact wqhe k (wq6 k) (FR_doc_parser_list k) (FR_doc_parser_pairs k) (FR_doc_parser_under k) I K E k s0 s1 s2 s3 s4 s5
  exact (wqoh k (wq6 k) (FR_doc_parser_list k) (FR_doc_parser_pairs k) (FR_doc_parser_under k) I x0 x1 x2 x3 x4 K E).trans (congrArg ((fun E1001 => wq9t k (wq6 k) (FR_doc_parser_list k) (FR_doc_parser_pairs k) (FR_doc_parser_under k) E1001 x0 x1 x2 x3 x4 K E)) h1001)
noncomputable def wq6s (k : Nat) {R : Type} : List PV → List (Nm × HObj) → (Out → Option R) → Option R
  | [.ptr 1 0, .v (.int .i64) x2, .v (.int .i64) x3, .v (.int .i64) x4], [(21, .row 52 (.pr (.int .i64) (.pr (.int .i64) (.pr .str (.pr .bool (.pr (.sl .str) (.sl (.int .i64))))))) x1), (1, .var 95 [.v (.sl (.pr (.int .i64) (.pr (.int .i64) (.pr (.int .i64) (.pr .str .bool))))) x0, .row 21])], K => wqdj k x0 x1 x2 x3 x4 (fun y0 y1 => K (.ret [] [(21, .row 52 (.pr (.int .i64) (.pr (.int .i64) (.pr .str (.pr .bool (.pr (.sl .str) (.sl (.int .i64))))))) y1), (1, .var 95 [.v (.sl (.pr (.int .i64) (.pr (.int .i64) (.pr (.int .i64) (.pr .str .bool))))) y0, .row 21])])) (fun z0 z1 z2 z3 => K (.pan (.ifc 28 (.agg [.v (.int .i64) z2, .v (.int .i64) z3])) [(21, .row 52 (.pr (.int .i64) (.pr (.int .i64) (.pr .str (.pr .bool (.pr (.sl .str) (.sl (.int .i64))))))) z1), (1, .var 95 [.v (.sl (.pr (.int .i64) (.pr (.int .i64) (.pr (.int .i64) (.pr .str .bool))))) z0, .row 21])]))
  | _, _, _ => none
theorem wqmn (k : Nat) {R : Type} (x0 : (List (Int × (Int × (Int × ((List UInt8) × Bool)))))) (x1 : (List (Int × (Int × ((List UInt8) × (Bool × ((List (List UInt8)) × (List Int)))))))) (x2 x3 x4 : Int) (K : wq1e R) (E : wql R) : fnK (wqm k (wq6 k) (FR_doc_parser_list k) (FR_doc_parser_pairs k) (FR_doc_parser_under k)) k wq1f 54 [] wq4d [.ptr 1 0, .v (.int .i64) x2, .v (.int .i64) x3, .v (.int .i64) x4] [(21, .row 52 (.pr (.int .i64) (.pr (.int .i64) (.pr .str (.pr .bool (.pr (.sl .str) (.sl (.int .i64))))))) x1), (1, .var 95 [.v (.sl (.pr (.int .i64) (.pr (.int .i64) (.pr (.int .i64) (.pr .str .bool))))) x0, .row 21])] (wq33 K E) = FR_doc_parser_pairs (k + 1) R x0 x1 x2 x3 x4 K E := by
  rw [FR_doc_parser_pairs]
  let I : Nat → St → Option R := fun _ _ => none
  have h1002 : (fun s0 s1 s2 s3 s4 s5 s6 => iter (wqm k (wq6 k) (FR_doc_parser_list k) (FR_doc_parser_pairs k) (FR_doc_parser_under k)).pv (look (wqm k (wq6 k) (FR_doc_parser_list k) (FR_doc_parser_pairs k) (FR_doc_parser_under k)).cuts 1002) (execK (wqm k (wq6 k) (FR_doc_parser_list k) (FR_doc_parser_pairs k) (FR_doc_parser_under k)) k (at_ [1, 1, 0, 0, 0] wq1f)) k (wq3e s0 s1 s2 s3 s4 s5 s6) (konts (wqm k (wq6 k) (FR_doc_parser_list k) (FR_doc_parser_pairs k) (FR_doc_parser_under k)) k I [1, 1, 0, 0] wq1f (outK (wqm k (wq6 k) (FR_doc_parser_list k) (FR_doc_parser_pairs k) (FR_doc_parser_under k)) wq4d [] (wq33 K E)))) = (fun s0 s1 s2 s3 s4 s5 s6 => wq2g k (wq6 k) (FR_doc_parser_list k) (FR_doc_parser_pairs k) (FR_doc_parser_under k) k s0 s1 s2 s3 s4 s5 s6 K E) := by funext s0 s1 s2 s3 s4 s5 s6; exact wqgf k (wq6 k) (FR_doc_parser_list k) (FR_doc_parser_pairs k) (FR_doc_parser_under k) I K E k s0 s1 s2 s3 s4 s5 s6
  exact (wqmj k (wq6 k) (FR_doc_parser_list k) (FR_doc_parser_pairs k) (FR_doc_parser_under k) I x0 x1 x2 x3 x4 K E).trans (congrArg ((fun E1002 => wq8z k (wq6 k) (FR_doc_parser_list k) (FR_doc_parser_pairs k) (FR_doc_parser_under k) E1002 x0 x1 x2 x3 x4 K E)) h1002)
noncomputable def wq6b (k : Nat) {R : Type} : List PV → List (Nm × HObj) → (Out → Option R) → Option R
  | [.ptr 1 0, .v (.int .i64) x2, .v (.int .i64) x3, .v (.int .i64) x4], [(21, .row 52 (.pr (.int .i64) (.pr (.int .i64) (.pr .str (.pr .bool (.pr (.sl .str) (.sl (.int .i64))))))) x1), (1, .var 95 [.v (.sl (.pr (.int .i64) (.pr (.int .i64) (.pr (.int .i64) (.pr .str .bool))))) x0, .row 21])], K => wqcb k x0 x1 x2 x3 x4 (fun y0 y1 => K (.ret [] [(21, .row 52 (.pr (.int .i64) (.pr (.int .i64) (.pr .str (.pr .bool (.pr (.sl .str) (.sl (.int .i64))))))) y1), (1, .var 95 [.v (.sl (.pr (.int .i64) (.pr (.int .i64) (.pr (.int .i64) (.pr .str .bool))))) y0, .row 21])])) (fun z0 z1 z2 z3 => K (.pan (.ifc 28 (.agg [.v (.int .i64) z2, .v (.int .i64) z3])) [(21, .row 52 (.pr (.int .i64) (.pr (.int .i64) (.pr .str (.pr .bool (.pr (.sl .str) (.sl (.int .i64))))))) z1), (1, .var 95 [.v (.sl (.pr (.int .i64) (.pr (.int .i64) (.pr (.int .i64) (.pr .str .bool))))) z0, .row 21])]))
  | _, _, _ => none
theorem wqmo (k : Nat) {R : Type} (x0 : (List (Int × (Int × (Int × ((List UInt8) × Bool)))))) (x1 : (List (Int × (Int × ((List UInt8) × (Bool × ((List (List UInt8)) × (List Int)))))))) (x2 x3 x4 : Int) (x5 : (List UInt8)) (x6 : Bool) (x7 : Int) (K : wq2p R) (E : wql R) : fnK (wqbb k (wq6 k) (FR_doc_parser_list k) (FR_doc_parser_pairs k) (FR_doc_parser_under k)) k wq9i 32 [.tmp 6] wqft [.ptr 1 0, .agg [.v (.int .i64) x2, .v (.int .i64) x3, .v (.int .i64) x4, .v .str x5, .v .bool x6], .v (.int .i64) x7] [(21, .row 52 (.pr (.int .i64) (.pr (.int .i64) (.pr .str (.pr .bool (.pr (.sl .str) (.sl (.int .i64))))))) x1), (1, .var 95 [.v (.sl (.pr (.int .i64) (.pr (.int .i64) (.pr (.int .i64) (.pr .str .bool))))) x0, .row 21])] (wq9h K E) = FR_doc_parser_under (k + 1) R x0 x1 x2 x3 x4 x5 x6 x7 K E := by
  rw [FR_doc_parser_under]
  exact wqml k (wq6 k) (FR_doc_parser_list k) (FR_doc_parser_pairs k) (FR_doc_parser_under k) (fun _ _ => none) x0 x1 x2 x3 x4 x5 x6 x7 K E
noncomputable def wq50 (k : Nat) {R : Type} : List PV → List (Nm × HObj) → (Out → Option R) → Option R
  | [.ptr 1 0, .agg [.v (.int .i64) x2, .v (.int .i64) x3, .v (.int .i64) x4, .v .str x5, .v .bool x6], .v (.int .i64) x7], [(21, .row 52 (.pr (.int .i64) (.pr (.int .i64) (.pr .str (.pr .bool (.pr (.sl .str) (.sl (.int .i64))))))) x1), (1, .var 95 [.v (.sl (.pr (.int .i64) (.pr (.int .i64) (.pr (.int .i64) (.pr .str .bool))))) x0, .row 21])], K => wqcc k x0 x1 x2 x3 x4 x5 x6 x7 (fun y0 y1 y2 => K (.ret [.v (.int .i64) y2] [(21, .row 52 (.pr (.int .i64) (.pr (.int .i64) (.pr .str (.pr .bool (.pr (.sl .str) (.sl (.int .i64))))))) y1), (1, .var 95 [.v (.sl (.pr (.int .i64) (.pr (.int .i64) (.pr (.int .i64) (.pr .str .bool))))) y0, .row 21])])) (fun z0 z1 z2 z3 => K (.pan (.ifc 28 (.agg [.v (.int .i64) z2, .v (.int .i64) z3])) [(21, .row 52 (.pr (.int .i64) (.pr (.int .i64) (.pr .str (.pr .bool (.pr (.sl .str) (.sl (.int .i64))))))) z1), (1, .var 95 [.v (.sl (.pr (.int .i64) (.pr (.int .i64) (.pr (.int .i64) (.pr .str .bool))))) z0, .row 21])]))
  | _, _, _ => none
theorem wqmp (k : Nat) (X_doc_parser_block : wqe) (X_doc_parser_list : wqi) (X_doc_parser_pairs : wqf) (X_doc_parser_under : wqg) (hX_doc_parser_list : ∀ {ps : List PV} {hp : List (Nm × HObj)} {R : Type} {K : Out → Option R} {r : R}, wqa9 X_doc_parser_list ps hp K = some r → DoesTo Tryz.prog 77 ps hp fun out => K out = some r) (hX_doc_parser_pairs : ∀ {ps : List PV} {hp : List (Nm × HObj)} {R : Type} {K : Out → Option R} {r : R}, wq9e X_doc_parser_pairs ps hp K = some r → DoesTo Tryz.prog 78 ps hp fun out => K out = some r) : (wqhc k X_doc_parser_block X_doc_parser_list X_doc_parser_pairs X_doc_parser_under).Ok Tryz.prog := (CTab.add_ok (fun h => wqm6 k h) (CTab.add_ok (fun h => wqdh k h) (CTab.add_ok (fun h => hX_doc_parser_list h) (CTab.add_ok (fun h => hX_doc_parser_pairs h) CTab.nil_ok))))
theorem wqoj (k : Nat) (X_doc_parser_block : wqe) (X_doc_parser_list : wqi) (X_doc_parser_pairs : wqf) (X_doc_parser_under : wqg) (hX_doc_parser_under : ∀ {ps : List PV} {hp : List (Nm × HObj)} {R : Type} {K : Out → Option R} {r : R}, wq4l X_doc_parser_under ps hp K = some r → DoesTo Tryz.prog 114 ps hp fun out => K out = some r) : (wqj8 k X_doc_parser_block X_doc_parser_list X_doc_parser_pairs X_doc_parser_under).Ok Tryz.prog := (CTab.add_ok (fun h => wqdh k h) (CTab.add_ok (fun h => wqj6 k h) (CTab.add_ok (fun h => hX_doc_parser_under h) CTab.nil_ok)))
theorem wqmq (k : Nat) (X_doc_parser_block : wqe) (X_doc_parser_list : wqi) (X_doc_parser_pairs : wqf) (X_doc_parser_under : wqg) (hX_doc_parser_under : ∀ {ps : List PV} {hp : List (Nm × HObj)} {R : Type} {K : Out → Option R} {r : R}, wq4l X_doc_parser_under ps hp K = some r → DoesTo Tryz.prog 114 ps hp fun out => K out = some r) : (wqhf k X_doc_parser_block X_doc_parser_list X_doc_parser_pairs X_doc_parser_under).Ok Tryz.prog := (CTab.add_ok (fun h => wqm6 k h) (CTab.add_ok (fun h => wqdh k h) (CTab.add_ok (fun h => wqj6 k h) (CTab.add_ok (fun h => hX_doc_parser_under h) (CTab.add_ok (fun h => wqc4 k h) CTab.nil_ok)))))
theorem wqmr (k : Nat) (X_doc_parser_block : wqe) (X_doc_parser_list : wqi) (X_doc_parser_pairs : wqf) (X_doc_parser_under : wqg) (hX_doc_parser_block : ∀ {ps : List PV} {hp : List (Nm × HObj)} {R : Type} {K : Out → Option R} {r : R}, wq9d X_doc_parser_block ps hp K = some r → DoesTo Tryz.prog 43 ps hp fun out => K out = some r) : (wqhg k X_doc_parser_block X_doc_parser_list X_doc_parser_pairs X_doc_parser_under).Ok Tryz.prog := (CTab.add_ok (fun h => wqm6 k h) (CTab.add_ok (fun h => hX_doc_parser_block h) CTab.nil_ok))
theorem wq8a : ∀ k : Nat, (∀ {ps : List PV} {hp : List (Nm × HObj)} {R : Type} {K : Out → Option R} {r : R}, wq4z k ps hp K = some r → DoesTo Tryz.prog 43 ps hp fun out => K out = some r) ∧ (∀ {ps : List PV} {hp : List (Nm × HObj)} {R : Type} {K : Out → Option R} {r : R}, wq6s k ps hp K = some r → DoesTo Tryz.prog 77 ps hp fun out => K out = some r) ∧ (∀ {ps : List PV} {hp : List (Nm × HObj)} {R : Type} {K : Out → Option R} {r : R}, wq6b k ps hp K = some r → DoesTo Tryz.prog 78 ps hp fun out => K out = some r) ∧ (∀ {ps : List PV} {hp : List (Nm × HObj)} {R : Type} {K : Out → Option R} {r : R}, wq50 k ps hp K = some r → DoesTo Tryz.prog 114 ps hp fun out => K out = some r) := by
  intro k
  induction k with
  | zero =>
    refine ⟨?_, ?_, ?_, ?_⟩
    · intro ps hp R K r h
      unfold wq4z at h
      split at h
      · unfold wq90 at h; rw [wq6] at h; cases h
      · cases h
    · intro ps hp R K r h
      unfold wq6s at h
      split at h
      · unfold wqdj at h; rw [FR_doc_parser_list] at h; cases h
      · cases h
    · intro ps hp R K r h
      unfold wq6b at h
      split at h
      · unfold wqcb at h; rw [FR_doc_parser_pairs] at h; cases h
      · cases h
    · intro ps hp R K r h
      unfold wq50 at h
      split at h
      · unfold wqcc at h; rw [FR_doc_parser_under] at h; cases h
      · cases h
  | succ k ih =>
    obtain ⟨ih_doc_parser_block, ih_doc_parser_list, ih_doc_parser_pairs, ih_doc_parser_under⟩ := ih
    refine ⟨?_, ?_, ?_, ?_⟩
    · intro ps hp R K r h
      unfold wq4z at h
      split at h
      · unfold wq90 at h; rw [← wqmm] at h
        have := fn_ok (P := Tryz.prog) (cx := wqba k (wq6 k) (FR_doc_parser_list k) (FR_doc_parser_pairs k) (FR_doc_parser_under k)) (f := 43) ⟨tyT_ok, wqmp k (wq6 k) (FR_doc_parser_list k) (FR_doc_parser_pairs k) (FR_doc_parser_under k) (fun h => ih_doc_parser_list (by unfold wqa9 at h; unfold wq6s; exact h)) (fun h => ih_doc_parser_pairs (by unfold wq9e at h; unfold wq6b; exact h)), fun _ _ => rfl⟩ (by kernel_rfl) (fn := Tryz.f43) (c := wq9g) (by kernel_rfl) (by kernel_rfl) (by kernel_rfl) (rs := [.tmp 4]) (by kernel_rfl) (by kernel_rfl) h
        exact this.mono fun out ho => by
          unfold wq9f at ho
          split at ho <;> first | exact ho | cases ho
      · cases h
    · intro ps hp R K r h
      unfold wq6s at h
      split at h
      · unfold wqdj at h; rw [← wqoi] at h
        have := fn_ok (P := Tryz.prog) (cx := wqp k (wq6 k) (FR_doc_parser_list k) (FR_doc_parser_pairs k) (FR_doc_parser_under k)) (f := 77) ⟨tyT_ok, wqoj k (wq6 k) (FR_doc_parser_list k) (FR_doc_parser_pairs k) (FR_doc_parser_under k) (fun h => ih_doc_parser_under (by unfold wq4l at h; unfold wq50; exact h)), fun _ _ => rfl⟩ (by kernel_rfl) (fn := Tryz.f77) (c := wq1l) (by kernel_rfl) (by kernel_rfl) (by kernel_rfl) (rs := []) (by kernel_rfl) (by kernel_rfl) h
        exact this.mono fun out ho => by
          unfold wq3c at ho
          split at ho <;> first | exact ho | cases ho
      · cases h
    · intro ps hp R K r h
      unfold wq6b at h
      split at h
      · unfold wqcb at h; rw [← wqmn] at h
        have := fn_ok (P := Tryz.prog) (cx := wqm k (wq6 k) (FR_doc_parser_list k) (FR_doc_parser_pairs k) (FR_doc_parser_under k)) (f := 78) ⟨tyT_ok, wqmq k (wq6 k) (FR_doc_parser_list k) (FR_doc_parser_pairs k) (FR_doc_parser_under k) (fun h => ih_doc_parser_under (by unfold wq4l at h; unfold wq50; exact h)), fun _ _ => rfl⟩ (by kernel_rfl) (fn := Tryz.f78) (c := wq1f) (by kernel_rfl) (by kernel_rfl) (by kernel_rfl) (rs := []) (by kernel_rfl) (by kernel_rfl) h
        exact this.mono fun out ho => by
          unfold wq33 at ho
          split at ho <;> first | exact ho | cases ho
      · cases h
    · intro ps hp R K r h
      unfold wq50 at h
      split at h
      · unfold wqcc at h; rw [← wqmo] at h
        have := fn_ok (P := Tryz.prog) (cx := wqbb k (wq6 k) (FR_doc_parser_list k) (FR_doc_parser_pairs k) (FR_doc_parser_under k)) (f := 114) ⟨tyT_ok, wqmr k (wq6 k) (FR_doc_parser_list k) (FR_doc_parser_pairs k) (FR_doc_parser_under k) (fun h => ih_doc_parser_block (by unfold wq9d at h; unfold wq4z; exact h)), fun _ _ => rfl⟩ (by kernel_rfl) (fn := Tryz.f114) (c := wq9i) (by kernel_rfl) (by kernel_rfl) (by kernel_rfl) (rs := [.tmp 6]) (by kernel_rfl) (by kernel_rfl) h
        exact this.mono fun out ho => by
          unfold wq9h at ho
          split at ho <;> first | exact ho | cases ho
      · cases h
theorem wqrw (k : Nat) {ps : List PV} {hp : List (Nm × HObj)} {R : Type} {K : Out → Option R} {r : R} (h : wq4z k ps hp K = some r) : DoesTo Tryz.prog 43 ps hp fun out => K out = some r := (wq8a k).1 h
theorem wq177 (k : Nat) {ps : List PV} {hp : List (Nm × HObj)} {R : Type} {K : Out → Option R} {r : R} (h : wq6s k ps hp K = some r) : DoesTo Tryz.prog 77 ps hp fun out => K out = some r := (wq8a k).2.1 h
theorem wq16o (k : Nat) {ps : List PV} {hp : List (Nm × HObj)} {R : Type} {K : Out → Option R} {r : R} (h : wq6b k ps hp K = some r) : DoesTo Tryz.prog 78 ps hp fun out => K out = some r := (wq8a k).2.2.1 h
theorem wq16p (k : Nat) {ps : List PV} {hp : List (Nm × HObj)} {R : Type} {K : Out → Option R} {r : R} (h : wq50 k ps hp K = some r) : DoesTo Tryz.prog 114 ps hp fun out => K out = some r := (wq8a k).2.2.2 h
end Go.Proofs.YtpfbdepoammjmaaGreatDoor.Pvm

set_option maxRecDepth 1000000
set_option maxHeartbeats 0
namespace Go.Proofs.YtpfbdepoammjmaaGreatDoor.Pvm
open Go Go.Proofs
def wq12v : List LS := [.sl (.pr (.int .i64) (.pr (.int .i64) (.pr (.int .i64) (.pr .str .bool))))]
noncomputable def C_doc_Of (k : Nat) : CTab := (CTab.add 42 wqfq (wqaz k) (CTab.add 43 wqej (wq4z k) CTab.nil))
def wqrx {R : Type} (K : ((List (Int × (Int × ((List UInt8) × (Bool × ((List (List UInt8)) × (List Int))))))) → Int → Int → Option R)) : Out → Option R
  | .ret [.agg [.v (.sl (.pr (.int .i64) (.pr (.int .i64) (.pr .str (.pr .bool (.pr (.sl .str) (.sl (.int .i64)))))))) y0], .agg [.v (.int .i64) y1, .v (.int .i64) y2]] [] => K y0 y1 y2
  | _ => none
def wq161 : RetSpec := ⟨[.ag [.sl (.pr (.int .i64) (.pr (.int .i64) (.pr .str (.pr .bool (.pr (.sl .str) (.sl (.int .i64)))))))], .ag [.any, .any]], [], []⟩
def wq16q : List (Nat × CutSpec) := []
def wq14n : List (Nat × Plan) := []
noncomputable def wq111 (k : Nat) : Ctx := ⟨tyT, wq16q, C_doc_Of k, [2, 3], [], wq14n, @SH⟩
noncomputable def wq91 : Code := Tryz.f17.body.getD .skip
noncomputable def wqm7 (k : Nat) {R : Type} : PV → List PV → List (Nm × HObj) → (Out → Option R) → Option R
  | .nilif, [.ptr 1 0, .ptr 2 0], [(1, .var 26 [.v (.sl (.pr (.int .i64) (.pr (.int .i64) (.pr .str (.pr .bool (.pr (.sl .str) (.sl (.int .i64)))))))) x0]), (2, .var 28 [.v (.int .i64) x1, .v (.int .i64) x2])], K => wqei k x0 x1 x2 (fun y0 y1 y2 => K (.ret [] [(1, .var 26 [.v (.sl (.pr (.int .i64) (.pr (.int .i64) (.pr .str (.pr .bool (.pr (.sl .str) (.sl (.int .i64)))))))) y0]), (2, .var 28 [.v (.int .i64) y1, .v (.int .i64) y2])]))
  | .ifc 28 (.agg [.v (.int .i64) x3, .v (.int .i64) x4]), [.ptr 1 0, .ptr 2 0], [(1, .var 26 [.v (.sl (.pr (.int .i64) (.pr (.int .i64) (.pr .str (.pr .bool (.pr (.sl .str) (.sl (.int .i64)))))))) x0]), (2, .var 28 [.v (.int .i64) x1, .v (.int .i64) x2])], K => wqa0 k x0 x1 x2 x3 x4 (fun y0 y1 y2 => K (.ret [] [(1, .var 26 [.v (.sl (.pr (.int .i64) (.pr (.int .i64) (.pr .str (.pr .bool (.pr (.sl .str) (.sl (.int .i64)))))))) y0]), (2, .var 28 [.v (.int .i64) y1, .v (.int .i64) y2])]))
  | _, _, _, _ => none
noncomputable def A_doc_Of (k : Nat) {R : Type}  (x0 : (List (Int × (Int × (Int × ((List UInt8) × Bool)))))) (K : ((List (Int × (Int × ((List UInt8) × (Bool × ((List (List UInt8)) × (List Int))))))) → Int → Int → Option R)) : Option R := (@cond (@Option R) (@BEq.beq Int (@instBEqOfDecidableEq Int @Int.instDecidableEq) (@Nat.cast Int instNatCastInt (@List.length (@Kd.T (@Kd.pr kI (@Kd.pr kI (@Kd.pr kI (@Kd.pr Kd.str Kd.bool))))) x0)) (0 : Int)) (@wq79 k R (10 : Int) (1 : Int) (fun y4 y5 => (@wqa0 k R [] (0 : (@Kd.T kI)) (0 : (@Kd.T kI)) y4 y5 (fun y6 y7 y8 => (K y6 y7 y8))))) (@wq90 k R x0 [] (1 : Int) (fun y4 y5 y6 => (@cond (@Option R) (@Decidable.decide (@GT.gt Int Int.instLTInt (@Nat.cast Int instNatCastInt (@List.length (@Kd.T (@Kd.pr kI (@Kd.pr kI (@Kd.pr kI (@Kd.pr Kd.str Kd.bool))))) y4)) (0 : Int)) (@Int.decLt (0 : Int) (@Nat.cast Int instNatCastInt (@List.length (@Kd.T (@Kd.pr kI (@Kd.pr kI (@Kd.pr kI (@Kd.pr Kd.str Kd.bool))))) y4)))) (@cond (@Option R) (@inb (0 : Int) (@Nat.cast Int instNatCastInt (@List.length (@Kd.T (@Kd.pr kI (@Kd.pr kI (@Kd.pr kI (@Kd.pr Kd.str Kd.bool))))) y4))) (@wq79 k R (6 : Int) (@List.getD (@Kd.T (@Kd.pr kI (@Kd.pr kI (@Kd.pr kI (@Kd.pr Kd.str Kd.bool))))) y4 (@Int.toNat (0 : Int)) (@Kd.zero (@Kd.pr kI (@Kd.pr kI (@Kd.pr kI (@Kd.pr Kd.str Kd.bool)))))).2.1 (fun y7 y8 => (@wqa0 k R [] (0 : (@Kd.T kI)) (0 : (@Kd.T kI)) y7 y8 (fun y9 y10 y11 => (K y9 y10 y11))))) (@Option.none R)) (@wqei k R y5 (0 : (@Kd.T kI)) (0 : (@Kd.T kI)) (fun y7 y8 y9 => (K y7 y8 y9))))) (fun y4 y5 y6 y7 => (@wqa0 k R [] (0 : (@Kd.T kI)) (0 : (@Kd.T kI)) y6 y7 (fun y8 y9 y10 => (K y8 y9 y10))))))
theorem wq16r (k : Nat) {R : Type} (I : Nat → St → Option R) (x0 : (List (Int × (Int × (Int × ((List UInt8) × Bool)))))) (K : ((List (Int × (Int × ((List UInt8) × (Bool × ((List (List UInt8)) × (List Int))))))) → Int → Int → Option R)) : fnDK (wq111 k) k [300, 400] (at_ [0] wq91) (opsAt (at_ [1, 0] wq91)) (at_ [1, 1] wq91) 34 [.cell 2 26, .cell 3 28] wq161 (wqm7 k) wqvc [(300, 0), (400, 0)] [.v (.sl (.pr (.int .i64) (.pr (.int .i64) (.pr (.int .i64) (.pr .str .bool))))) x0] [] (wqrx K) = A_doc_Of k  x0 K := by kernel_rfl
noncomputable def F_doc_Of (k : Nat) {R : Type} (x0 : (List (Int × (Int × (Int × ((List UInt8) × Bool)))))) (K : ((List (Int × (Int × ((List UInt8) × (Bool × ((List (List UInt8)) × (List Int))))))) → Int → Int → Option R)) : Option R := A_doc_Of k  x0 K
theorem wq16s (k : Nat) {R : Type} (x0 : (List (Int × (Int × (Int × ((List UInt8) × Bool)))))) (K : ((List (Int × (Int × ((List UInt8) × (Bool × ((List (List UInt8)) × (List Int))))))) → Int → Int → Option R)) : fnDK (wq111 k) k [300, 400] (at_ [0] wq91) (opsAt (at_ [1, 0] wq91)) (at_ [1, 1] wq91) 34 [.cell 2 26, .cell 3 28] wq161 (wqm7 k) wqvc [(300, 0), (400, 0)] [.v (.sl (.pr (.int .i64) (.pr (.int .i64) (.pr (.int .i64) (.pr .str .bool))))) x0] [] (wqrx K) = F_doc_Of k x0 K := by
  exact wq16r k (fun _ _ => none) x0 K
noncomputable def wqq8 (k : Nat) {R : Type} : List PV → List (Nm × HObj) → (Out → Option R) → Option R
  | [.v (.sl (.pr (.int .i64) (.pr (.int .i64) (.pr (.int .i64) (.pr .str .bool))))) x0], [], K => F_doc_Of k x0 (fun y0 y1 y2 => K (.ret [.agg [.v (.sl (.pr (.int .i64) (.pr (.int .i64) (.pr .str (.pr .bool (.pr (.sl .str) (.sl (.int .i64)))))))) y0], .agg [.v (.int .i64) y1, .v (.int .i64) y2]] []))
  | _, _, _ => none
theorem wq16t (k : Nat) : (C_doc_Of k).Ok Tryz.prog := (CTab.add_ok (fun h => wqm6 k h) (CTab.add_ok (fun h => wqrw k h) CTab.nil_ok))
theorem wq112 (k : Nat) {R : Type} (rec : PV) (ps : List PV) (hp : List (Nm × HObj)) (K : Out → Option R) (r : R) (h : wqm7 k rec ps hp K = some r) : DoesToD Tryz.prog 41 rec ps hp fun out => K out = some r := by
  unfold wqm7 at h
  split at h
  · exact wq12t k h
  · exact wq12u k h
  · cases h
theorem D_doc_Of (k : Nat) {ps : List PV} {hp : List (Nm × HObj)} {R : Type} {K : Out → Option R} {r : R} (h : wqq8 k ps hp K = some r) : DoesTo Tryz.prog 17 ps hp fun out => K out = some r := by
  unfold wqq8 at h
  split at h
  · rw [← wq16s] at h
    have := fnDK_ok (P := Tryz.prog) (cx := wq111 k) (f := 17) ⟨tyT_ok, wq16t k, fun _ _ => rfl⟩ (by kernel_rfl) (fn := Tryz.f17) (id := 1) (pre := at_ [0] wq91) (rest := at_ [1, 1] wq91) (ops := opsAt (at_ [1, 0] wq91)) (by kernel_rfl) (by kernel_rfl) (by kernel_rfl) (rs := [.cell 2 26, .cell 3 28]) (by kernel_rfl) (by kernel_rfl) (by kernel_rfl) (g := 41) (s := 5) (xs := [.tmp 2, .tmp 3]) (by kernel_rfl) (Invokes.of (fn := Tryz.f41) (by kernel_rfl) (c := Tryz.f41.body.getD .skip) (by kernel_rfl) (by kernel_rfl)) (wq112 k) h
    exact this.mono fun out ho => by
      unfold wqrx at ho
      split at ho <;> first | exact ho | cases ho
  · cases h
end Go.Proofs.YtpfbdepoammjmaaGreatDoor.Pvm

set_option maxRecDepth 1000000
set_option maxHeartbeats 0
namespace Go.Proofs.YtpfbdepoammjmaaGreatDoor.Pvm
open Go Go.Proofs
def wqst : List LS := [.obj 1 [.sl (.pr (.int .i64) (.pr (.int .i64) (.pr (.int .i64) (.pr .str .bool))))], .obj 2 [.any, .any]]
noncomputable def wqsu (k : Nat) : CTab := CTab.nil
def wqel {R : Type} (K : ((List (Int × (Int × (Int × ((List UInt8) × Bool))))) → Int → Int → Option R)) : Out → Option R
  | .ret [] [(1, .var 56 [.v (.sl (.pr (.int .i64) (.pr (.int .i64) (.pr (.int .i64) (.pr .str .bool))))) y0]), (2, .var 28 [.v (.int .i64) y1, .v (.int .i64) y2])] => K y0 y1 y2
  | _ => none
def wqq9 : RetSpec := ⟨[], [(1, .obj 1 [.sl (.pr (.int .i64) (.pr (.int .i64) (.pr (.int .i64) (.pr .str .bool))))]), (2, .obj 2 [.any, .any])], []⟩
def wqvk : List (Nat × CutSpec) := []
def wqti : List (Nat × Plan) := [(7, (.of [(0, 2), (1, 0), (2, 0)] .done))]
noncomputable def wqi5 (k : Nat) : Ctx := ⟨tyT, wqvk, wqsu k, [], [1, 2], wqti, @SH⟩
noncomputable def wqbc : Code := Tryz.f87.body.getD .skip
noncomputable def wqkc (k : Nat) {R : Type}  (x0 : (List (Int × (Int × (Int × ((List UInt8) × Bool)))))) (x1 x2 : Int) (K : ((List (Int × (Int × (Int × ((List UInt8) × Bool))))) → Int → Int → Option R)) : Option R := (K x0 x1 x2)
theorem wqvl (k : Nat) {R : Type} (I : Nat → St → Option R) (x0 : (List (Int × (Int × (Int × ((List UInt8) × Bool)))))) (x1 x2 : Int) (K : ((List (Int × (Int × (Int × ((List UInt8) × Bool))))) → Int → Int → Option R)) : fnCK (wqi5 k) k (at_ [1] wqbc) 12 [] wqq9 [.ptr 1 0, .ptr 2 0] 5 (.nilif) [(1, .var 56 [.v (.sl (.pr (.int .i64) (.pr (.int .i64) (.pr (.int .i64) (.pr .str .bool))))) x0]), (2, .var 28 [.v (.int .i64) x1, .v (.int .i64) x2])] (wqel K) = wqkc k  x0 x1 x2 K := by kernel_rfl
noncomputable def wqcz (k : Nat) {R : Type} (x0 : (List (Int × (Int × (Int × ((List UInt8) × Bool)))))) (x1 x2 : Int) (K : ((List (Int × (Int × (Int × ((List UInt8) × Bool))))) → Int → Int → Option R)) : Option R := wqkc k  x0 x1 x2 K
theorem wqvm (k : Nat) {R : Type} (x0 : (List (Int × (Int × (Int × ((List UInt8) × Bool)))))) (x1 x2 : Int) (K : ((List (Int × (Int × (Int × ((List UInt8) × Bool))))) → Int → Int → Option R)) : fnCK (wqi5 k) k (at_ [1] wqbc) 12 [] wqq9 [.ptr 1 0, .ptr 2 0] 5 (.nilif) [(1, .var 56 [.v (.sl (.pr (.int .i64) (.pr (.int .i64) (.pr (.int .i64) (.pr .str .bool))))) x0]), (2, .var 28 [.v (.int .i64) x1, .v (.int .i64) x2])] (wqel K) = wqcz k x0 x1 x2 K := by
  exact wqvl k (fun _ _ => none) x0 x1 x2 K
noncomputable def wqnw (k : Nat) {R : Type} : PV → List PV → List (Nm × HObj) → (Out → Option R) → Option R
  | .nilif, [.ptr 1 0, .ptr 2 0], [(1, .var 56 [.v (.sl (.pr (.int .i64) (.pr (.int .i64) (.pr (.int .i64) (.pr .str .bool))))) x0]), (2, .var 28 [.v (.int .i64) x1, .v (.int .i64) x2])], K => wqcz k x0 x1 x2 (fun y0 y1 y2 => K (.ret [] [(1, .var 56 [.v (.sl (.pr (.int .i64) (.pr (.int .i64) (.pr (.int .i64) (.pr .str .bool))))) y0]), (2, .var 28 [.v (.int .i64) y1, .v (.int .i64) y2])]))
  | _, _, _, _ => none
theorem wqvn (k : Nat) : (wqsu k).Ok Tryz.prog := CTab.nil_ok
theorem wq113 (k : Nat) {rec : PV} {ps : List PV} {hp : List (Nm × HObj)} {R : Type} {K : Out → Option R} {r : R} (h : wqnw k rec ps hp K = some r) : DoesToD Tryz.prog 87 rec ps hp fun out => K out = some r := by
  unfold wqnw at h
  split at h
  · rw [← wqvm] at h
    have := fnCK_ok (P := Tryz.prog) (cx := wqi5 k) (f := 87) ⟨tyT_ok, wqvn k, fun _ _ => rfl⟩ (by kernel_rfl) (fn := Tryz.f87) (id := 0) (ops := opsAt (at_ [0] wqbc)) (c := at_ [1] wqbc) (by kernel_rfl) (by kernel_rfl) (by kernel_rfl) (rs := []) (by kernel_rfl) (by kernel_rfl) h
    exact this.mono fun out ho => by
      unfold wqel at ho
      split at ho <;> first | exact ho | cases ho
  · cases h
end Go.Proofs.YtpfbdepoammjmaaGreatDoor.Pvm

set_option maxRecDepth 1000000
set_option maxHeartbeats 0
namespace Go.Proofs.YtpfbdepoammjmaaGreatDoor.Pvm
open Go Go.Proofs
noncomputable def wqsv (k : Nat) : CTab := CTab.nil
def wqem {R : Type} (K : ((List (Int × (Int × (Int × ((List UInt8) × Bool))))) → Int → Int → Option R)) : Out → Option R
  | .ret [] [(1, .var 56 [.v (.sl (.pr (.int .i64) (.pr (.int .i64) (.pr (.int .i64) (.pr .str .bool))))) y0]), (2, .var 28 [.v (.int .i64) y1, .v (.int .i64) y2])] => K y0 y1 y2
  | _ => none
def wqqa : RetSpec := ⟨[], [(1, .obj 1 [.sl (.pr (.int .i64) (.pr (.int .i64) (.pr (.int .i64) (.pr .str .bool))))]), (2, .obj 2 [.any, .any])], []⟩
def wqvo : List (Nat × CutSpec) := []
def wqtj : List (Nat × Plan) := [(7, (.of [(0, 2), (1, 0), (2, 0)] .done))]
noncomputable def wqi6 (k : Nat) : Ctx := ⟨tyT, wqvo, wqsv k, [], [1, 2], wqtj, @SH⟩
noncomputable def wqbd : Code := Tryz.f87.body.getD .skip
noncomputable def wqkd (k : Nat) {R : Type}  (x0 : (List (Int × (Int × (Int × ((List UInt8) × Bool)))))) (x1 x2 x3 x4 : Int) (K : ((List (Int × (Int × (Int × ((List UInt8) × Bool))))) → Int → Int → Option R)) : Option R := (K [] x3 x4)
theorem wqvp (k : Nat) {R : Type} (I : Nat → St → Option R) (x0 : (List (Int × (Int × (Int × ((List UInt8) × Bool)))))) (x1 x2 x3 x4 : Int) (K : ((List (Int × (Int × (Int × ((List UInt8) × Bool))))) → Int → Int → Option R)) : fnCK (wqi6 k) k (at_ [1] wqbd) 12 [] wqqa [.ptr 1 0, .ptr 2 0] 5 (.ifc 28 (.agg [.v (.int .i64) x3, .v (.int .i64) x4])) [(1, .var 56 [.v (.sl (.pr (.int .i64) (.pr (.int .i64) (.pr (.int .i64) (.pr .str .bool))))) x0]), (2, .var 28 [.v (.int .i64) x1, .v (.int .i64) x2])] (wqem K) = wqkd k  x0 x1 x2 x3 x4 K := by kernel_rfl
noncomputable def wqd0 (k : Nat) {R : Type} (x0 : (List (Int × (Int × (Int × ((List UInt8) × Bool)))))) (x1 x2 x3 x4 : Int) (K : ((List (Int × (Int × (Int × ((List UInt8) × Bool))))) → Int → Int → Option R)) : Option R := wqkd k  x0 x1 x2 x3 x4 K
theorem wqvq (k : Nat) {R : Type} (x0 : (List (Int × (Int × (Int × ((List UInt8) × Bool)))))) (x1 x2 x3 x4 : Int) (K : ((List (Int × (Int × (Int × ((List UInt8) × Bool))))) → Int → Int → Option R)) : fnCK (wqi6 k) k (at_ [1] wqbd) 12 [] wqqa [.ptr 1 0, .ptr 2 0] 5 (.ifc 28 (.agg [.v (.int .i64) x3, .v (.int .i64) x4])) [(1, .var 56 [.v (.sl (.pr (.int .i64) (.pr (.int .i64) (.pr (.int .i64) (.pr .str .bool))))) x0]), (2, .var 28 [.v (.int .i64) x1, .v (.int .i64) x2])] (wqem K) = wqd0 k x0 x1 x2 x3 x4 K := by
  exact wqvp k (fun _ _ => none) x0 x1 x2 x3 x4 K
noncomputable def wqnx (k : Nat) {R : Type} : PV → List PV → List (Nm × HObj) → (Out → Option R) → Option R
  | .ifc 28 (.agg [.v (.int .i64) x3, .v (.int .i64) x4]), [.ptr 1 0, .ptr 2 0], [(1, .var 56 [.v (.sl (.pr (.int .i64) (.pr (.int .i64) (.pr (.int .i64) (.pr .str .bool))))) x0]), (2, .var 28 [.v (.int .i64) x1, .v (.int .i64) x2])], K => wqd0 k x0 x1 x2 x3 x4 (fun y0 y1 y2 => K (.ret [] [(1, .var 56 [.v (.sl (.pr (.int .i64) (.pr (.int .i64) (.pr (.int .i64) (.pr .str .bool))))) y0]), (2, .var 28 [.v (.int .i64) y1, .v (.int .i64) y2])]))
  | _, _, _, _ => none
theorem wqvr (k : Nat) : (wqsv k).Ok Tryz.prog := CTab.nil_ok
theorem wq114 (k : Nat) {rec : PV} {ps : List PV} {hp : List (Nm × HObj)} {R : Type} {K : Out → Option R} {r : R} (h : wqnx k rec ps hp K = some r) : DoesToD Tryz.prog 87 rec ps hp fun out => K out = some r := by
  unfold wqnx at h
  split at h
  · rw [← wqvq] at h
    have := fnCK_ok (P := Tryz.prog) (cx := wqi6 k) (f := 87) ⟨tyT_ok, wqvr k, fun _ _ => rfl⟩ (by kernel_rfl) (fn := Tryz.f87) (id := 0) (ops := opsAt (at_ [0] wqbd)) (c := at_ [1] wqbd) (by kernel_rfl) (by kernel_rfl) (by kernel_rfl) (rs := []) (by kernel_rfl) (by kernel_rfl) h
    exact this.mono fun out ho => by
      unfold wqem at ho
      split at ho <;> first | exact ho | cases ho
  · cases h
end Go.Proofs.YtpfbdepoammjmaaGreatDoor.Pvm

set_option maxRecDepth 1000000
set_option maxHeartbeats 0
namespace Go.Proofs.YtpfbdepoammjmaaGreatDoor.Pvm
open Go Go.Proofs
def wqqb : List LS := [.any, .any]
noncomputable def wqj9 (k : Nat) : CTab := CTab.nil
def wqaa {R : Type} (K : (Bool → Option R)) : Out → Option R
  | .ret [.v .bool y0] [] => K y0
  | _ => none
def wqhh : RetSpec := ⟨[.any], [], []⟩
def wqok : List (Nat × CutSpec) := []
def wqms : List (Nat × Plan) := []
noncomputable def wqcd (k : Nat) : Ctx := ⟨tyT, wqok, wqj9 k, [], [], wqms, @SH⟩
noncomputable def wqab : Code := Tryz.f73.body.getD .skip
noncomputable def wqdk (k : Nat) {R : Type}  (x0 x1 : (List UInt8)) (K : (Bool → Option R)) : Option R := (@cond (@Option R) (@Bool.or (@Bool.not (@BEq.beq (@Kd.T Kd.bool) (@instBEqOfDecidableEq (@Kd.T Kd.bool) @instDecidableEqBool) (@Decidable.decide (@GE.ge Int Int.instLEInt (@Nat.cast Int instNatCastInt (@List.length UInt8 x0)) (@Nat.cast Int instNatCastInt (@List.length UInt8 x1))) (@Int.decLe (@Nat.cast Int instNatCastInt (@List.length UInt8 x1)) (@Nat.cast Int instNatCastInt (@List.length UInt8 x0)))) Bool.true)) (@bnd (0 : Int) (@Nat.cast Int instNatCastInt (@List.length UInt8 x1)) (@Nat.cast Int instNatCastInt (@List.length UInt8 x0)))) (K (@cond (@Kd.T Kd.bool) (@Decidable.decide (@GE.ge Int Int.instLEInt (@Nat.cast Int instNatCastInt (@List.length UInt8 x0)) (@Nat.cast Int instNatCastInt (@List.length UInt8 x1))) (@Int.decLe (@Nat.cast Int instNatCastInt (@List.length UInt8 x1)) (@Nat.cast Int instNatCastInt (@List.length UInt8 x0)))) (@BEq.beq (@List UInt8) (@List.instBEq UInt8 (@instBEqOfDecidableEq UInt8 @instDecidableEqUInt8)) (@cut UInt8 x0 (0 : Int) (@Nat.cast Int instNatCastInt (@List.length UInt8 x1))) x1) Bool.false)) (@Option.none R))
theorem wqol (k : Nat) {R : Type} (I : Nat → St → Option R) (x0 x1 : (List UInt8)) (K : (Bool → Option R)) : fnK (wqcd k) k wqab 18 [.tmp 4] wqhh [.v .str x0, .v .str x1] [] (wqaa K) = wqdk k  x0 x1 K := by kernel_rfl
noncomputable def wq9u (k : Nat) {R : Type} (x0 x1 : (List UInt8)) (K : (Bool → Option R)) : Option R := wqdk k  x0 x1 K
theorem wqom (k : Nat) {R : Type} (x0 x1 : (List UInt8)) (K : (Bool → Option R)) : fnK (wqcd k) k wqab 18 [.tmp 4] wqhh [.v .str x0, .v .str x1] [] (wqaa K) = wq9u k x0 x1 K := by
  exact wqol k (fun _ _ => none) x0 x1 K
noncomputable def wqbe (k : Nat) {R : Type} : List PV → List (Nm × HObj) → (Out → Option R) → Option R
  | [.v .str x0, .v .str x1], [], K => wq9u k x0 x1 (fun y0 => K (.ret [.v .bool y0] []))
  | _, _, _ => none
theorem wqon (k : Nat) : (wqj9 k).Ok Tryz.prog := CTab.nil_ok
theorem wqtk (k : Nat) {ps : List PV} {hp : List (Nm × HObj)} {R : Type} {K : Out → Option R} {r : R} (h : wqbe k ps hp K = some r) : DoesTo Tryz.prog 73 ps hp fun out => K out = some r := by
  unfold wqbe at h
  split at h
  · rw [← wqom] at h
    have := fn_ok (P := Tryz.prog) (cx := wqcd k) (f := 73) ⟨tyT_ok, wqon k, fun _ _ => rfl⟩ (by kernel_rfl) (fn := Tryz.f73) (c := wqab) (by kernel_rfl) (by kernel_rfl) (by kernel_rfl) (rs := [.tmp 4]) (by kernel_rfl) (by kernel_rfl) h
    exact this.mono fun out ho => by
      unfold wqaa at ho
      split at ho <;> first | exact ho | cases ho
  · cases h
end Go.Proofs.YtpfbdepoammjmaaGreatDoor.Pvm

set_option maxRecDepth 1000000
set_option maxHeartbeats 0
namespace Go.Proofs.YtpfbdepoammjmaaGreatDoor.Pvm
open Go Go.Proofs
def wqmt : List LS := [.any, .any]
noncomputable def wqfu (k : Nat) : CTab := (CTab.add 73 wqqb (wqbe k) CTab.nil)
def wq8h {R : Type} (K : (Bool → Option R)) : Out → Option R
  | .ret [.v .bool y0] [] => K y0
  | _ => none
def wqen : RetSpec := ⟨[.any], [], []⟩
def wqke : List (Nat × CutSpec) := []
def wqjn : List (Nat × Plan) := []
noncomputable def wqac (k : Nat) : Ctx := ⟨tyT, wqke, wqfu k, [], [], wqjn, @SH⟩
noncomputable def wq8i : Code := Tryz.f36.body.getD .skip
noncomputable def wqbf (k : Nat) {R : Type}  (x0 x1 : (List UInt8)) (K : (Bool → Option R)) : Option R := (@wq9u k R x0 x1 (fun y5 => (K y5)))
theorem wqkf (k : Nat) {R : Type} (I : Nat → St → Option R) (x0 x1 : (List UInt8)) (K : (Bool → Option R)) : fnK (wqac k) k wq8i 8 [.tmp 4] wqen [.v .str x0, .v .str x1] [] (wq8h K) = wqbf k  x0 x1 K := by kernel_rfl
noncomputable def wq8b (k : Nat) {R : Type} (x0 x1 : (List UInt8)) (K : (Bool → Option R)) : Option R := wqbf k  x0 x1 K
theorem wqkg (k : Nat) {R : Type} (x0 x1 : (List UInt8)) (K : (Bool → Option R)) : fnK (wqac k) k wq8i 8 [.tmp 4] wqen [.v .str x0, .v .str x1] [] (wq8h K) = wq8b k x0 x1 K := by
  exact wqkf k (fun _ _ => none) x0 x1 K
noncomputable def wq9j (k : Nat) {R : Type} : List PV → List (Nm × HObj) → (Out → Option R) → Option R
  | [.v .str x0, .v .str x1], [], K => wq8b k x0 x1 (fun y0 => K (.ret [.v .bool y0] []))
  | _, _, _ => none
theorem wqkh (k : Nat) : (wqfu k).Ok Tryz.prog := (CTab.add_ok (fun h => wqtk k h) CTab.nil_ok)
theorem wqqc (k : Nat) {ps : List PV} {hp : List (Nm × HObj)} {R : Type} {K : Out → Option R} {r : R} (h : wq9j k ps hp K = some r) : DoesTo Tryz.prog 36 ps hp fun out => K out = some r := by
  unfold wq9j at h
  split at h
  · rw [← wqkg] at h
    have := fn_ok (P := Tryz.prog) (cx := wqac k) (f := 36) ⟨tyT_ok, wqkh k, fun _ _ => rfl⟩ (by kernel_rfl) (fn := Tryz.f36) (c := wq8i) (by kernel_rfl) (by kernel_rfl) (by kernel_rfl) (rs := [.tmp 4]) (by kernel_rfl) (by kernel_rfl) h
    exact this.mono fun out ho => by
      unfold wq8h at ho
      split at ho <;> first | exact ho | cases ho
  · cases h
end Go.Proofs.YtpfbdepoammjmaaGreatDoor.Pvm

set_option maxRecDepth 1000000
set_option maxHeartbeats 0
namespace Go.Proofs.YtpfbdepoammjmaaGreatDoor.Pvm
open Go Go.Proofs
def wqvs : List LS := [.any]
noncomputable def wq12w (k : Nat) : CTab := (CTab.add 36 wqmt (wq9j k) CTab.nil)
def wqki {R : Type} (K : (Bool → Option R)) : Out → Option R
  | .ret [.v .bool y0] [] => K y0
  | _ => none
def wq105 : RetSpec := ⟨[.any], [], []⟩
def wq12x : List (Nat × CutSpec) := []
def wq115 : List (Nat × Plan) := []
noncomputable def wqry (k : Nat) : Ctx := ⟨tyT, wq12x, wq12w k, [], [], wq115, @SH⟩
noncomputable def wqkj : Code := Tryz.f126.body.getD .skip
noncomputable def wqvt (k : Nat) {R : Type}  (x0 : (List UInt8)) (K : (Bool → Option R)) : Option R := (@cond (@Option R) (@BEq.beq (@Kd.T Kd.bool) (@instBEqOfDecidableEq (@Kd.T Kd.bool) @instDecidableEqBool) (@BEq.beq (@List UInt8) (@List.instBEq UInt8 (@instBEqOfDecidableEq UInt8 @instDecidableEqUInt8)) x0 (@Array.toList UInt8 (@ByteArray.data (@ByteArray.mk (@List.toArray UInt8 ((45 : UInt8) :: [])))))) Bool.false) (@wq8b k R x0 (@Array.toList UInt8 (@ByteArray.data (@ByteArray.mk (@List.toArray UInt8 ((45 : UInt8) :: ((32 : UInt8) :: [])))))) (fun y4 => (K y4))) (K Bool.true))
theorem wq12y (k : Nat) {R : Type} (I : Nat → St → Option R) (x0 : (List UInt8)) (K : (Bool → Option R)) : fnK (wqry k) k wqkj 9 [.tmp 2] wq105 [.v .str x0] [] (wqki K) = wqvt k  x0 K := by kernel_rfl
noncomputable def wqhi (k : Nat) {R : Type} (x0 : (List UInt8)) (K : (Bool → Option R)) : Option R := wqvt k  x0 K
theorem wq12z (k : Nat) {R : Type} (x0 : (List UInt8)) (K : (Bool → Option R)) : fnK (wqry k) k wqkj 9 [.tmp 2] wq105 [.v .str x0] [] (wqki K) = wqhi k x0 K := by
  exact wq12y k (fun _ _ => none) x0 K
noncomputable def wqi7 (k : Nat) {R : Type} : List PV → List (Nm × HObj) → (Out → Option R) → Option R
  | [.v .str x0], [], K => wqhi k x0 (fun y0 => K (.ret [.v .bool y0] []))
  | _, _, _ => none
theorem wq130 (k : Nat) : (wq12w k).Ok Tryz.prog := (CTab.add_ok (fun h => wqqc k h) CTab.nil_ok)
theorem wq131 (k : Nat) {ps : List PV} {hp : List (Nm × HObj)} {R : Type} {K : Out → Option R} {r : R} (h : wqi7 k ps hp K = some r) : DoesTo Tryz.prog 126 ps hp fun out => K out = some r := by
  unfold wqi7 at h
  split at h
  · rw [← wq12z] at h
    have := fn_ok (P := Tryz.prog) (cx := wqry k) (f := 126) ⟨tyT_ok, wq130 k, fun _ _ => rfl⟩ (by kernel_rfl) (fn := Tryz.f126) (c := wqkj) (by kernel_rfl) (by kernel_rfl) (by kernel_rfl) (rs := [.tmp 2]) (by kernel_rfl) (by kernel_rfl) h
    exact this.mono fun out ho => by
      unfold wqki at ho
      split at ho <;> first | exact ho | cases ho
  · cases h
end Go.Proofs.YtpfbdepoammjmaaGreatDoor.Pvm

set_option maxRecDepth 1000000
set_option maxHeartbeats 0
namespace Go.Proofs.YtpfbdepoammjmaaGreatDoor.Pvm
open Go Go.Proofs
def wq14o : List LS := [.any]
noncomputable def wq132 (k : Nat) : CTab := CTab.nil
def wqkk {R : Type} (K : (Bool → Option R)) : Out → Option R
  | .ret [.v .bool y0] [] => K y0
  | _ => none
def wq106 : RetSpec := ⟨[.any], [], []⟩
def wq133 : List (Nat × CutSpec) := []
def wq116 : List (Nat × Plan) := []
noncomputable def wqrz (k : Nat) : Ctx := ⟨tyT, wq133, wq132 k, [], [], wq116, @SH⟩
noncomputable def wqkl : Code := Tryz.f176.body.getD .skip
noncomputable def wqvu (k : Nat) {R : Type}  (x0 : Int) (K : (Bool → Option R)) : Option R := (K (@cond (@Kd.T Kd.bool) (@cond (@Kd.T Kd.bool) (@cond (@Kd.T Kd.bool) (@cond (@Kd.T Kd.bool) (@cond (@Kd.T Kd.bool) (@cond (@Kd.T Kd.bool) (@Decidable.decide (@GE.ge Int Int.instLEInt x0 (97 : Int)) (@Int.decLe (97 : Int) x0)) (@Decidable.decide (@LE.le Int Int.instLEInt x0 (122 : Int)) (@Int.decLe x0 (122 : Int))) Bool.false) Bool.true (@cond (@Kd.T Kd.bool) (@Decidable.decide (@GE.ge Int Int.instLEInt x0 (65 : Int)) (@Int.decLe (65 : Int) x0)) (@Decidable.decide (@LE.le Int Int.instLEInt x0 (90 : Int)) (@Int.decLe x0 (90 : Int))) Bool.false)) Bool.true (@cond (@Kd.T Kd.bool) (@Decidable.decide (@GE.ge Int Int.instLEInt x0 (48 : Int)) (@Int.decLe (48 : Int) x0)) (@Decidable.decide (@LE.le Int Int.instLEInt x0 (57 : Int)) (@Int.decLe x0 (57 : Int))) Bool.false)) Bool.true (@BEq.beq Int (@instBEqOfDecidableEq Int @Int.instDecidableEq) x0 (95 : Int))) Bool.true (@BEq.beq Int (@instBEqOfDecidableEq Int @Int.instDecidableEq) x0 (45 : Int))) Bool.true (@BEq.beq Int (@instBEqOfDecidableEq Int @Int.instDecidableEq) x0 (46 : Int))))
theorem wq134 (k : Nat) {R : Type} (I : Nat → St → Option R) (x0 : Int) (K : (Bool → Option R)) : fnK (wqrz k) k wqkl 37 [.tmp 2] wq106 [.v (.int .u8) x0] [] (wqkk K) = wqvu k  x0 K := by kernel_rfl
noncomputable def wqkm (k : Nat) {R : Type} (x0 : Int) (K : (Bool → Option R)) : Option R := wqvu k  x0 K
theorem wq135 (k : Nat) {R : Type} (x0 : Int) (K : (Bool → Option R)) : fnK (wqrz k) k wqkl 37 [.tmp 2] wq106 [.v (.int .u8) x0] [] (wqkk K) = wqkm k x0 K := by
  exact wq134 k (fun _ _ => none) x0 K
noncomputable def wqoo (k : Nat) {R : Type} : List PV → List (Nm × HObj) → (Out → Option R) → Option R
  | [.v (.int .u8) x0], [], K => wqkm k x0 (fun y0 => K (.ret [.v .bool y0] []))
  | _, _, _ => none
theorem wq136 (k : Nat) : (wq132 k).Ok Tryz.prog := CTab.nil_ok
theorem wq17p (k : Nat) {ps : List PV} {hp : List (Nm × HObj)} {R : Type} {K : Out → Option R} {r : R} (h : wqoo k ps hp K = some r) : DoesTo Tryz.prog 176 ps hp fun out => K out = some r := by
  unfold wqoo at h
  split at h
  · rw [← wq135] at h
    have := fn_ok (P := Tryz.prog) (cx := wqrz k) (f := 176) ⟨tyT_ok, wq136 k, fun _ _ => rfl⟩ (by kernel_rfl) (fn := Tryz.f176) (c := wqkl) (by kernel_rfl) (by kernel_rfl) (by kernel_rfl) (rs := [.tmp 2]) (by kernel_rfl) (by kernel_rfl) h
    exact this.mono fun out ho => by
      unfold wqkk at ho
      split at ho <;> first | exact ho | cases ho
  · cases h
end Go.Proofs.YtpfbdepoammjmaaGreatDoor.Pvm

set_option maxRecDepth 1000000
set_option maxHeartbeats 0
namespace Go.Proofs.YtpfbdepoammjmaaGreatDoor.Pvm
open Go Go.Proofs
def wq137 : List LS := [.any]
noncomputable def wq107 (k : Nat) : CTab := (CTab.add 176 wq14o (wqoo k) CTab.nil)
def wq6t {R : Type} (K : (Bool → Option R)) : Out → Option R
  | .ret [.v .bool y0] [] => K y0
  | _ => none
def wqad : RetSpec := ⟨[.any], [], []⟩
def wq117 : List (Nat × CutSpec) := [(1002, ⟨[(0, .any), (5, .any), (6, .any)], []⟩)]
def wqyp : List (Nat × Plan) := []
noncomputable def wq1q (k : Nat) : Ctx := ⟨tyT, wq117, wq107 k, [], [], wqyp, @SH⟩
noncomputable def wq3f : Code := Tryz.f159.body.getD .skip
def wq6m (s0 : (List UInt8)) (s1 s2 : Int) : St := ⟨mkT [(0, .v .str s0), (5, .v (.int .i64) s1), (6, .v (.int .i64) s2)], mkH []⟩
noncomputable def wq8j (k : Nat) {R : Type} (E1002 : ((List UInt8) → Int → Int → Option R)) (s0 : (List UInt8)) (s1 s2 : Int) (K : (Bool → Option R)) : Option R := (@cond (@Option R) (@Decidable.decide (@LT.lt Int Int.instLTInt s2 s1) (@Int.decLt s2 s1)) (@cond (@Option R) (@inb s2 (@Nat.cast Int instNatCastInt (@List.length UInt8 s0))) (@wqkm k R (@Nat.cast Int instNatCastInt (@UInt8.toNat (@List.getD UInt8 s0 (@Int.toNat s2) (0 : UInt8)))) (fun y7 => (@cond (@Option R) (@Bool.not y7) (K Bool.false) (E1002 s0 s1 (@Go.IntKind.wrap Go.IntKind.i64 (@HAdd.hAdd Int Int Int (@instHAdd Int @Int.instAdd) s2 (1 : Int))))))) (@Option.none R)) (K (@Bool.not (@BEq.beq (@List UInt8) (@List.instBEq UInt8 (@instBEqOfDecidableEq UInt8 @instDecidableEqUInt8)) s0 (@Array.toList UInt8 (@ByteArray.data (@ByteArray.mk (@List.toArray UInt8 []))))))))
theorem wqqd (k : Nat) {R : Type} (I : Nat → St → Option R) (s0 : (List UInt8)) (s1 s2 : Int) (K : (Bool → Option R)) : execK (wq1q k) k (at_ [1, 0, 1, 0, 0] wq3f) (wq6m s0 s1 s2) (konts (wq1q k) k I [1, 0, 1, 0, 0] wq3f (outK (wq1q k) wqad [.tmp 2] (wq6t K))) = wq8j k (fun s0 s1 s2 => I 1002 (wq6m s0 s1 s2)) s0 s1 s2 K := by kernel_rfl
noncomputable def wqm8 (k : Nat) {R : Type} (E1002 : ((List UInt8) → Int → Int → Option R)) (x0 : (List UInt8)) (K : (Bool → Option R)) : Option R := (E1002 x0 (@Nat.cast Int instNatCastInt (@List.length UInt8 x0)) (0 : Int))
theorem wq118 (k : Nat) {R : Type} (I : Nat → St → Option R) (x0 : (List UInt8)) (K : (Bool → Option R)) : fnK (wq1q k) k wq3f 17 [.tmp 2] wqad [.v .str x0] [] (wq6t K) = wqm8 k (fun s0 s1 s2 => iter (wq1q k).pv (look (wq1q k).cuts 1002) (execK (wq1q k) k (at_ [1, 0, 1, 0, 0] wq3f)) k (wq6m s0 s1 s2) (konts (wq1q k) k I [1, 0, 1, 0] wq3f (outK (wq1q k) wqad [.tmp 2] (wq6t K)))) x0 K := by kernel_rfl
noncomputable def wq4e (k : Nat) {R : Type}  : Nat → (List UInt8) → Int → Int → (Bool → Option R) → Option R
  | 0, _, _, _, _ => none
  | n + 1, s0, s1, s2, K => wq8j k (fun s0 s1 s2 => wq4e k  n s0 s1 s2 K) s0 s1 s2 K
theorem wqqe (k : Nat) {R : Type} (I : Nat → St → Option R) (K : (Bool → Option R)) : ∀ (n : Nat) (s0 : (List UInt8)) (s1 s2 : Int), iter (wq1q k).pv (look (wq1q k).cuts 1002) (execK (wq1q k) k (at_ [1, 0, 1, 0, 0] wq3f)) n (wq6m s0 s1 s2) (konts (wq1q k) k I [1, 0, 1, 0] wq3f (outK (wq1q k) wqad [.tmp 2] (wq6t K))) = wq4e k  n s0 s1 s2 K := by
  intro n
  induction n with
  | zero => intros; rfl
  | succ n ih =>
    intro s0 s1 s2
    let I' : Nat → St → Option R := fun id s => bif Nat.beq id 1002 then iter (wq1q k).pv (look (wq1q k).cuts 1002) (execK (wq1q k) k (at_ [1, 0, 1, 0, 0] wq3f)) n s (konts (wq1q k) k I [1, 0, 1, 0] wq3f (outK (wq1q k) wqad [.tmp 2] (wq6t K))) else I id s
    have e := wqqd k I' s0 s1 s2 K
    have h1002 : (fun s0 s1 s2 => I' 1002 (wq6m s0 s1 s2)) = (fun s0 s1 s2 => wq4e k  n s0 s1 s2 K) := by funext s0 s1 s2; exact ih s0 s1 s2
    refine Eq.trans (?_ : _ = _) (e.trans (Eq.trans ((congrArg ((fun E1002 => wq8j k E1002 s0 s1 s2 K)) h1002)) (by rw [wq4e])))
    rfl
noncomputable def wqhj (k : Nat) {R : Type} (x0 : (List UInt8)) (K : (Bool → Option R)) : Option R := wqm8 k (fun s0 s1 s2 => wq4e k k s0 s1 s2 K) x0 K
theorem wq119 (k : Nat) {R : Type} (x0 : (List UInt8)) (K : (Bool → Option R)) : fnK (wq1q k) k wq3f 17 [.tmp 2] wqad [.v .str x0] [] (wq6t K) = wqhj k x0 K := by
  let I : Nat → St → Option R := fun _ _ => none
  have h1002 : (fun s0 s1 s2 => iter (wq1q k).pv (look (wq1q k).cuts 1002) (execK (wq1q k) k (at_ [1, 0, 1, 0, 0] wq3f)) k (wq6m s0 s1 s2) (konts (wq1q k) k I [1, 0, 1, 0] wq3f (outK (wq1q k) wqad [.tmp 2] (wq6t K)))) = (fun s0 s1 s2 => wq4e k k s0 s1 s2 K) := by funext s0 s1 s2; exact wqqe k I K k s0 s1 s2
  exact (wq118 k I x0 K).trans (congrArg ((fun E1002 => wqm8 k E1002 x0 K)) h1002)
noncomputable def wqkn (k : Nat) {R : Type} : List PV → List (Nm × HObj) → (Out → Option R) → Option R
  | [.v .str x0], [], K => wqhj k x0 (fun y0 => K (.ret [.v .bool y0] []))
  | _, _, _ => none
theorem wq11a (k : Nat) : (wq107 k).Ok Tryz.prog := (CTab.add_ok (fun h => wq17p k h) CTab.nil_ok)
theorem wq16u (k : Nat) {ps : List PV} {hp : List (Nm × HObj)} {R : Type} {K : Out → Option R} {r : R} (h : wqkn k ps hp K = some r) : DoesTo Tryz.prog 159 ps hp fun out => K out = some r := by
  unfold wqkn at h
  split at h
  · rw [← wq119] at h
    have := fn_ok (P := Tryz.prog) (cx := wq1q k) (f := 159) ⟨tyT_ok, wq11a k, fun _ _ => rfl⟩ (by kernel_rfl) (fn := Tryz.f159) (c := wq3f) (by kernel_rfl) (by kernel_rfl) (by kernel_rfl) (rs := [.tmp 2]) (by kernel_rfl) (by kernel_rfl) h
    exact this.mono fun out ho => by
      unfold wq6t at ho
      split at ho <;> first | exact ho | cases ho
  · cases h
end Go.Proofs.YtpfbdepoammjmaaGreatDoor.Pvm

set_option maxRecDepth 1000000
namespace Go.Proofs.YtpfbdepoammjmaaGreatDoor.Pvm
open Go Go.Proofs
def idxByte (s : List UInt8) (c : Int) : Int :=
  match (List.range s.length).find? fun i => s.getD i 0 == UInt8.ofNat c.toNat with
  | some i => (i : Int)
  | none => -1
theorem wq108 {P : Program} (x0 : List UInt8) (x1 : Int) (w : World) : (Go.Extern.BytealgIndexByte.indexByte #[.string ⟨x0.toArray⟩, .int .u8 x1]).run P w = .ok (.int .i64 (idxByte x0 x1)) w := by
  have e5 : (Go.Extern.BytealgIndexByte.indexByte #[.string ⟨x0.toArray⟩, .int .u8 x1]).run P w = (match (List.range (ByteArray.mk x0.toArray).size).find? fun i => (ByteArray.mk x0.toArray)[i]! == x1.toNat.toUInt8 with
    | some i => (pure (goInt i) : Sem Value)
    | none => pure (goInt (-1))).run P w := rfl
  rw [e5]
  unfold idxByte
  have e6 : (ByteArray.mk x0.toArray).size = x0.length := by simp [ByteArray.size]
  have e7 : ∀ i, (ByteArray.mk x0.toArray)[i]! = x0.getD i 0 := by
    intro i
    by_cases hi : i < x0.length
    · rw [getElem!_pos (ByteArray.mk x0.toArray) i (by rw [e6]; exact hi)]
      have : x0.getD i 0 = x0[i] := by simp [List.getD, hi]
      rw [this]; rfl
    · rw [getElem!_neg (ByteArray.mk x0.toArray) i (by rw [e6]; exact hi)]
      have : x0.getD i 0 = 0 := by simp [List.getD, Nat.le_of_not_lt hi]
      rw [this]; rfl
  simp only [e6, e7]
  have e8 : ∀ i, (x0.getD i 0 == x1.toNat.toUInt8) = (x0.getD i 0 == UInt8.ofNat x1.toNat) := fun i => rfl
  simp only [e8]
  cases (List.range x0.length).find? fun i => x0.getD i 0 == UInt8.ofNat x1.toNat with
  | none => rfl
  | some i => rfl
def wqi8 : List LS := [.any, .any]
def wq8k (k : Nat) {R : Type} (x0 : List UInt8) (x1 : Int) (K : Int → Option R) : Option R := K (idxByte x0 x1)
def wq7m (k : Nat) {R : Type} : List PV → List (Nm × HObj) → (Out → Option R) → Option R
  | [.v .str x0, .v (.int .u8) x1], [], K => wq8k k x0 x1 (fun y0 => K (.ret [.v (.int .i64) y0] []))
  | _, _, _ => none
theorem fin_pure {G : Gh} {w : World} : Fin [] [] G w G w :=
  ⟨fun n o h => (by cases h), fun n m b h => (by simp [blkOf, mkH, look] at h), fun n t cs h => (by cases h), fun _ _ _ => rfl, rfl, fun n b h => (by simp [blkOf, mkH, look] at h), Nat.le_refl _, rfl, rfl, rfl⟩
theorem wqhk : Extern.find Tryz.f168 = some Go.Extern.BytealgIndexByte.indexByte := by kernel_rfl
theorem wqe7 : (Extern.findNext Tryz.f168).isNone = true := by kernel_rfl
theorem wqjo : Tryz.prog.funcs[168]? = some Tryz.f168 := by kernel_rfl
theorem wqb0 : (Tryz.f168.name == "runtime.NumGoroutine") = false := by kernel_rfl
theorem wqhl : Tryz.f168.body.isNone = true := by kernel_rfl
theorem wqko (k : Nat) {ps : List PV} {hp : List (Nm × HObj)} {R : Type} {K : Out → Option R} {r : R} (h : wq7m k ps hp K = some r) : DoesTo Tryz.prog 168 ps hp fun out => K out = some r := by
  unfold wq7m at h
  split at h
  · next x0 x1 =>
    intro G w vals hr obj dis
    obtain ⟨v0, l0, rfl, h0, v1, l1, rfl, h1, rfl⟩ := hr
    have e0 : v0 = .string ⟨x0.toArray⟩ := by simpa [RV, RD] using h0
    have e1 : v1 = .int .u8 x1 := by simpa [RV, RD] using h1
    subst e0 e1
    have hrun : (callFunc 168 #[.string ⟨x0.toArray⟩, .int .u8 x1]).run Tryz.prog w = .ok (.value (.int .i64 (idxByte x0 x1))) w := by
      have hn2 : ¬ Tryz.f168.name = "runtime.NumGoroutine" := by simpa using wqb0
      have hn3 : Extern.findNext Tryz.f168 = none := by
        cases hq : Extern.findNext Tryz.f168 with
        | none => rfl
        | some e => have := wqe7; rw [hq] at this; cases this
      have e1 : (callFunc 168 #[.string ⟨x0.toArray⟩, .int .u8 x1]).run Tryz.prog w = (Go.Extern.BytealgIndexByte.indexByte #[.string ⟨x0.toArray⟩, .int .u8 x1] >>= fun v => pure (Next.value v)).run Tryz.prog w := by
        unfold callFunc
        rw [Sem.run_bind]
        have e2 : (program).run Tryz.prog w = .ok Tryz.prog w := rfl
        rw [e2, Result.andThen_ok, wqjo]
        simp only [wqb0, wqhl, if_true, Bool.false_eq_true, if_false]
        rw [Sem.run_bind]
        have e3 : (mark (.extern 168)).run Tryz.prog w = .ok () w := rfl
        rw [e3, Result.andThen_ok, hn3, wqhk]
      rw [e1]
      have e4 := wq108 (P := Tryz.prog) x0 x1 w
      rw [Sem.run_bind, e4]; rfl
    show Does _ _ #[_, _] _ _
    unfold Does
    rw [hrun]
    exact ⟨.ret [.v (.int .i64) (idxByte x0 x1)] [], h, G, ⟨_, rfl, rfl⟩, fin_pure⟩
  · cases h
end Go.Proofs.YtpfbdepoammjmaaGreatDoor.Pvm

set_option maxRecDepth 1000000
set_option maxHeartbeats 0
namespace Go.Proofs.YtpfbdepoammjmaaGreatDoor.Pvm
open Go Go.Proofs
def wqfv : List LS := [.any, .any]
noncomputable def wqja (k : Nat) : CTab := (CTab.add 168 wqi8 (wq7m k) CTab.nil)
def wqae {R : Type} (K : (Int → Option R)) : Out → Option R
  | .ret [.v (.int .i64) y0] [] => K y0
  | _ => none
def wqhm : RetSpec := ⟨[.any], [], []⟩
def wqop : List (Nat × CutSpec) := []
def wqmu : List (Nat × Plan) := []
noncomputable def wqce (k : Nat) : Ctx := ⟨tyT, wqop, wqja k, [], [], wqmu, @SH⟩
noncomputable def wqaf : Code := Tryz.f144.body.getD .skip
noncomputable def wqdl (k : Nat) {R : Type}  (x0 : (List UInt8)) (x1 : Int) (K : (Int → Option R)) : Option R := (@wq8k k R x0 x1 (fun y5 => (K y5)))
theorem wqoq (k : Nat) {R : Type} (I : Nat → St → Option R) (x0 : (List UInt8)) (x1 : Int) (K : (Int → Option R)) : fnK (wqce k) k wqaf 8 [.tmp 4] wqhm [.v .str x0, .v (.int .u8) x1] [] (wqae K) = wqdl k  x0 x1 K := by kernel_rfl
noncomputable def wq80 (k : Nat) {R : Type} (x0 : (List UInt8)) (x1 : Int) (K : (Int → Option R)) : Option R := wqdl k  x0 x1 K
theorem wqor (k : Nat) {R : Type} (x0 : (List UInt8)) (x1 : Int) (K : (Int → Option R)) : fnK (wqce k) k wqaf 8 [.tmp 4] wqhm [.v .str x0, .v (.int .u8) x1] [] (wqae K) = wq80 k x0 x1 K := by
  exact wqoq k (fun _ _ => none) x0 x1 K
noncomputable def wq8c (k : Nat) {R : Type} : List PV → List (Nm × HObj) → (Out → Option R) → Option R
  | [.v .str x0, .v (.int .u8) x1], [], K => wq80 k x0 x1 (fun y0 => K (.ret [.v (.int .i64) y0] []))
  | _, _, _ => none
theorem wqos (k : Nat) : (wqja k).Ok Tryz.prog := (CTab.add_ok (fun h => wqko k h) CTab.nil_ok)
theorem wqjb (k : Nat) {ps : List PV} {hp : List (Nm × HObj)} {R : Type} {K : Out → Option R} {r : R} (h : wq8c k ps hp K = some r) : DoesTo Tryz.prog 144 ps hp fun out => K out = some r := by
  unfold wq8c at h
  split at h
  · rw [← wqor] at h
    have := fn_ok (P := Tryz.prog) (cx := wqce k) (f := 144) ⟨tyT_ok, wqos k, fun _ _ => rfl⟩ (by kernel_rfl) (fn := Tryz.f144) (c := wqaf) (by kernel_rfl) (by kernel_rfl) (by kernel_rfl) (rs := [.tmp 4]) (by kernel_rfl) (by kernel_rfl) h
    exact this.mono fun out ho => by
      unfold wqae at ho
      split at ho <;> first | exact ho | cases ho
  · cases h
end Go.Proofs.YtpfbdepoammjmaaGreatDoor.Pvm

set_option maxRecDepth 1000000
set_option maxHeartbeats 0
namespace Go.Proofs.YtpfbdepoammjmaaGreatDoor.Pvm
open Go Go.Proofs
def wqyq : List LS := [.any, .any]
noncomputable def wqsw (k : Nat) : CTab := (CTab.add 144 wqfv (wq8c k) CTab.nil)
def wqeo {R : Type} (K : (Int → Option R)) : Out → Option R
  | .ret [.v (.int .i64) y0] [] => K y0
  | _ => none
def wqqf : RetSpec := ⟨[.any], [], []⟩
def wqvv : List (Nat × CutSpec) := []
def wqtl : List (Nat × Plan) := []
noncomputable def wqi9 (k : Nat) : Ctx := ⟨tyT, wqvv, wqsw k, [], [], wqtl, @SH⟩
noncomputable def wqep : Code := Tryz.f110.body.getD .skip
noncomputable def wqkp (k : Nat) {R : Type}  (x0 : (List UInt8)) (x1 : UInt8) (K : (Int → Option R)) : Option R := (@cond (@Option R) (@cond (@Kd.T Kd.bool) (@BEq.beq Int (@instBEqOfDecidableEq Int @Int.instDecidableEq) (@Nat.cast Int instNatCastInt (@List.length UInt8 (x1 :: []))) (0 : Int)) Bool.true (@BEq.beq (@List UInt8) (@List.instBEq UInt8 (@instBEqOfDecidableEq UInt8 @instDecidableEqUInt8)) (x1 :: []) x0)) (K (0 : Int)) (@wq80 k R x0 (@Nat.cast Int instNatCastInt (@UInt8.toNat (@List.getD UInt8 (x1 :: []) (@Int.toNat (0 : Int)) (0 : UInt8)))) (fun y5 => (K y5))))
theorem wqvw (k : Nat) {R : Type} (I : Nat → St → Option R) (x0 : (List UInt8)) (x1 : UInt8) (K : (Int → Option R)) : fnK (wqi9 k) k wqep 143 [.tmp 4] wqqf [.v .str x0, .v .str [x1]] [] (wqeo K) = wqkp k  x0 x1 K := by kernel_rfl
noncomputable def wqfw (k : Nat) {R : Type} (x0 : (List UInt8)) (x1 : UInt8) (K : (Int → Option R)) : Option R := wqkp k  x0 x1 K
theorem wqvx (k : Nat) {R : Type} (x0 : (List UInt8)) (x1 : UInt8) (K : (Int → Option R)) : fnK (wqi9 k) k wqep 143 [.tmp 4] wqqf [.v .str x0, .v .str [x1]] [] (wqeo K) = wqfw k x0 x1 K := by
  exact wqvw k (fun _ _ => none) x0 x1 K
noncomputable def wqgg (k : Nat) {R : Type} : List PV → List (Nm × HObj) → (Out → Option R) → Option R
  | [.v .str x0, .v .str [x1]], [], K => wqfw k x0 x1 (fun y0 => K (.ret [.v (.int .i64) y0] []))
  | _, _, _ => none
theorem wqvy (k : Nat) : (wqsw k).Ok Tryz.prog := (CTab.add_ok (fun h => wqjb k h) CTab.nil_ok)
theorem wq138 (k : Nat) {ps : List PV} {hp : List (Nm × HObj)} {R : Type} {K : Out → Option R} {r : R} (h : wqgg k ps hp K = some r) : DoesTo Tryz.prog 110 ps hp fun out => K out = some r := by
  unfold wqgg at h
  split at h
  · rw [← wqvx] at h
    have := fn_ok (P := Tryz.prog) (cx := wqi9 k) (f := 110) ⟨tyT_ok, wqvy k, fun _ _ => rfl⟩ (by kernel_rfl) (fn := Tryz.f110) (c := wqep) (by kernel_rfl) (by kernel_rfl) (by kernel_rfl) (rs := [.tmp 4]) (by kernel_rfl) (by kernel_rfl) h
    exact this.mono fun out ho => by
      unfold wqeo at ho
      split at ho <;> first | exact ho | cases ho
  · cases h
end Go.Proofs.YtpfbdepoammjmaaGreatDoor.Pvm

set_option maxRecDepth 1000000
set_option maxHeartbeats 0
namespace Go.Proofs.YtpfbdepoammjmaaGreatDoor.Pvm
open Go Go.Proofs
def wq139 : List LS := [.any, .any]
noncomputable def wq109 (k : Nat) : CTab := (CTab.add 110 wqyq (wqgg k) CTab.nil)
def wqia {R : Type} (K : ((List UInt8) → (List UInt8) → Bool → Option R)) : Out → Option R
  | .ret [.v .str y0, .v .str y1, .v .bool y2] [] => K y0 y1 y2
  | _ => none
def wqvz : RetSpec := ⟨[.any, .any, .any], [], []⟩
def wq11b : List (Nat × CutSpec) := []
def wqyr : List (Nat × Plan) := [(3, (.of [(0, 1), (1, 1), (2, 1), (3, 1), (4, 1), (5, 1), (6, 1), (7, 1), (8, 1), (9, 1), (10, 1), (11, 1)] .done))]
noncomputable def wqot (k : Nat) : Ctx := ⟨tyT, wq11b, wq109 k, [], [], wqyr, @SH⟩
noncomputable def wqib : Code := Tryz.f175.body.getD .skip
noncomputable def wqs0 (k : Nat) {R : Type}  (x0 : (List UInt8)) (x1 : UInt8) (K : ((List UInt8) → (List UInt8) → Bool → Option R)) : Option R := (@wqfw k R x0 x1 (fun y5 => (@cond (@Option R) (@Decidable.decide (@GE.ge Int Int.instLEInt y5 (0 : Int)) (@Int.decLe (0 : Int) y5)) (@cond (@Option R) (@bnd (0 : Int) y5 (@Nat.cast Int instNatCastInt (@List.length UInt8 x0))) (@cond (@Option R) (@bnd (@Go.IntKind.wrap Go.IntKind.i64 (@HAdd.hAdd Int Int Int (@instHAdd Int @Int.instAdd) y5 (@Nat.cast Int instNatCastInt (@List.length UInt8 (x1 :: []))))) (@Nat.cast Int instNatCastInt (@List.length UInt8 x0)) (@Nat.cast Int instNatCastInt (@List.length UInt8 x0))) (K (@cut UInt8 x0 (0 : Int) y5) (@cut UInt8 x0 (@Go.IntKind.wrap Go.IntKind.i64 (@HAdd.hAdd Int Int Int (@instHAdd Int @Int.instAdd) y5 (@Nat.cast Int instNatCastInt (@List.length UInt8 (x1 :: []))))) (@Nat.cast Int instNatCastInt (@List.length UInt8 x0))) Bool.true) (@Option.none R)) (@Option.none R)) (K x0 (@Array.toList UInt8 (@ByteArray.data (@ByteArray.mk (@List.toArray UInt8 [])))) Bool.false))))
theorem wq11c (k : Nat) {R : Type} (I : Nat → St → Option R) (x0 : (List UInt8)) (x1 : UInt8) (K : ((List UInt8) → (List UInt8) → Bool → Option R)) : fnK (wqot k) k wqib 23 [.tmp 4, .tmp 5, .tmp 6] wqvz [.v .str x0, .v .str [x1]] [] (wqia K) = wqs0 k  x0 x1 K := by kernel_rfl
noncomputable def wqm9 (k : Nat) {R : Type} (x0 : (List UInt8)) (x1 : UInt8) (K : ((List UInt8) → (List UInt8) → Bool → Option R)) : Option R := wqs0 k  x0 x1 K
theorem wq11d (k : Nat) {R : Type} (x0 : (List UInt8)) (x1 : UInt8) (K : ((List UInt8) → (List UInt8) → Bool → Option R)) : fnK (wqot k) k wqib 23 [.tmp 4, .tmp 5, .tmp 6] wqvz [.v .str x0, .v .str [x1]] [] (wqia K) = wqm9 k x0 x1 K := by
  exact wq11c k (fun _ _ => none) x0 x1 K
noncomputable def wqkq (k : Nat) {R : Type} : List PV → List (Nm × HObj) → (Out → Option R) → Option R
  | [.v .str x0, .v .str [x1]], [], K => wqm9 k x0 x1 (fun y0 y1 y2 => K (.ret [.v .str y0, .v .str y1, .v .bool y2] []))
  | _, _, _ => none
theorem wq11e (k : Nat) : (wq109 k).Ok Tryz.prog := (CTab.add_ok (fun h => wq138 k h) CTab.nil_ok)
theorem wq16v (k : Nat) {ps : List PV} {hp : List (Nm × HObj)} {R : Type} {K : Out → Option R} {r : R} (h : wqkq k ps hp K = some r) : DoesTo Tryz.prog 175 ps hp fun out => K out = some r := by
  unfold wqkq at h
  split at h
  · rw [← wq11d] at h
    have := fn_ok (P := Tryz.prog) (cx := wqot k) (f := 175) ⟨tyT_ok, wq11e k, fun _ _ => rfl⟩ (by kernel_rfl) (fn := Tryz.f175) (c := wqib) (by kernel_rfl) (by kernel_rfl) (by kernel_rfl) (rs := [.tmp 4, .tmp 5, .tmp 6]) (by kernel_rfl) (by kernel_rfl) h
    exact this.mono fun out ho => by
      unfold wqia at ho
      split at ho <;> first | exact ho | cases ho
  · cases h
end Go.Proofs.YtpfbdepoammjmaaGreatDoor.Pvm

set_option maxRecDepth 1000000
set_option maxHeartbeats 0
namespace Go.Proofs.YtpfbdepoammjmaaGreatDoor.Pvm
open Go Go.Proofs
def wqys : List LS := [.any, .any]
noncomputable def wqsx (k : Nat) : CTab := (CTab.add 175 wq139 (wqkq k) CTab.nil)
def wqeq {R : Type} (K : ((List UInt8) → (List UInt8) → Bool → Option R)) : Out → Option R
  | .ret [.v .str y0, .v .str y1, .v .bool y2] [] => K y0 y1 y2
  | _ => none
def wqqg : RetSpec := ⟨[.any, .any, .any], [], []⟩
def wqw0 : List (Nat × CutSpec) := []
def wqtm : List (Nat × Plan) := []
noncomputable def wqic (k : Nat) : Ctx := ⟨tyT, wqw0, wqsx k, [], [], wqtm, @SH⟩
noncomputable def wqer : Code := Tryz.f158.body.getD .skip
noncomputable def wqkr (k : Nat) {R : Type}  (x0 : (List UInt8)) (x1 : UInt8) (K : ((List UInt8) → (List UInt8) → Bool → Option R)) : Option R := (@wqm9 k R x0 x1 (fun y5 y6 y7 => (K y5 y6 y7)))
theorem wqw1 (k : Nat) {R : Type} (I : Nat → St → Option R) (x0 : (List UInt8)) (x1 : UInt8) (K : ((List UInt8) → (List UInt8) → Bool → Option R)) : fnK (wqic k) k wqer 13 [.tmp 4, .tmp 5, .tmp 6] wqqg [.v .str x0, .v .str [x1]] [] (wqeq K) = wqkr k  x0 x1 K := by kernel_rfl
noncomputable def wqd1 (k : Nat) {R : Type} (x0 : (List UInt8)) (x1 : UInt8) (K : ((List UInt8) → (List UInt8) → Bool → Option R)) : Option R := wqkr k  x0 x1 K
theorem wqw2 (k : Nat) {R : Type} (x0 : (List UInt8)) (x1 : UInt8) (K : ((List UInt8) → (List UInt8) → Bool → Option R)) : fnK (wqic k) k wqer 13 [.tmp 4, .tmp 5, .tmp 6] wqqg [.v .str x0, .v .str [x1]] [] (wqeq K) = wqd1 k x0 x1 K := by
  exact wqw1 k (fun _ _ => none) x0 x1 K
noncomputable def wqgh (k : Nat) {R : Type} : List PV → List (Nm × HObj) → (Out → Option R) → Option R
  | [.v .str x0, .v .str [x1]], [], K => wqd1 k x0 x1 (fun y0 y1 y2 => K (.ret [.v .str y0, .v .str y1, .v .bool y2] []))
  | _, _, _ => none
theorem wqw3 (k : Nat) : (wqsx k).Ok Tryz.prog := (CTab.add_ok (fun h => wq16v k h) CTab.nil_ok)
theorem wq13a (k : Nat) {ps : List PV} {hp : List (Nm × HObj)} {R : Type} {K : Out → Option R} {r : R} (h : wqgh k ps hp K = some r) : DoesTo Tryz.prog 158 ps hp fun out => K out = some r := by
  unfold wqgh at h
  split at h
  · rw [← wqw2] at h
    have := fn_ok (P := Tryz.prog) (cx := wqic k) (f := 158) ⟨tyT_ok, wqw3 k, fun _ _ => rfl⟩ (by kernel_rfl) (fn := Tryz.f158) (c := wqer) (by kernel_rfl) (by kernel_rfl) (by kernel_rfl) (rs := [.tmp 4, .tmp 5, .tmp 6]) (by kernel_rfl) (by kernel_rfl) h
    exact this.mono fun out ho => by
      unfold wqeq at ho
      split at ho <;> first | exact ho | cases ho
  · cases h
end Go.Proofs.YtpfbdepoammjmaaGreatDoor.Pvm

set_option maxRecDepth 1000000
set_option maxHeartbeats 0
namespace Go.Proofs.YtpfbdepoammjmaaGreatDoor.Pvm
open Go Go.Proofs
def wq10a : List LS := [.any]
noncomputable def wq162 (k : Nat) : CTab := (CTab.add 158 wqys (wqgh k) (CTab.add 159 wq137 (wqkn k) CTab.nil))
def wqou {R : Type} (K : ((List UInt8) → Option R)) : Out → Option R
  | .ret [.v .str y0] [] => K y0
  | _ => none
def wq13b : RetSpec := ⟨[.any], [], []⟩
def wq14p : List (Nat × CutSpec) := []
def wq13c : List (Nat × Plan) := []
noncomputable def wqw4 (k : Nat) : Ctx := ⟨tyT, wq14p, wq162 k, [], [], wq13c, @SH⟩
noncomputable def wqov : Code := Tryz.f128.body.getD .skip
noncomputable def wq11f (k : Nat) {R : Type}  (x0 : (List UInt8)) (K : ((List UInt8) → Option R)) : Option R := (@wqd1 k R x0 (58 : UInt8) (fun y4 y5 y6 => (@cond (@Option R) (@BEq.beq (@Kd.T Kd.bool) (@instBEqOfDecidableEq (@Kd.T Kd.bool) @instDecidableEqBool) (@Bool.not y6) Bool.false) (@wqhj k R y4 (fun y7 => (@cond (@Option R) (@Bool.or (@Bool.not (@Bool.and (@BEq.beq (@Kd.T Kd.bool) (@instBEqOfDecidableEq (@Kd.T Kd.bool) @instDecidableEqBool) (@Bool.not y7) Bool.false) (@BEq.beq (@Kd.T Kd.bool) (@instBEqOfDecidableEq (@Kd.T Kd.bool) @instDecidableEqBool) (@Bool.not (@BEq.beq (@List UInt8) (@List.instBEq UInt8 (@instBEqOfDecidableEq UInt8 @instDecidableEqUInt8)) y5 (@Array.toList UInt8 (@ByteArray.data (@ByteArray.mk (@List.toArray UInt8 [])))))) Bool.true))) (@inb (0 : Int) (@Nat.cast Int instNatCastInt (@List.length UInt8 y5)))) (@cond (@Option R) (@cond (@Kd.T Kd.bool) (@Bool.not y7) Bool.true (@cond (@Kd.T Kd.bool) (@Bool.not (@BEq.beq (@List UInt8) (@List.instBEq UInt8 (@instBEqOfDecidableEq UInt8 @instDecidableEqUInt8)) y5 (@Array.toList UInt8 (@ByteArray.data (@ByteArray.mk (@List.toArray UInt8 [])))))) (@bne Int (@instBEqOfDecidableEq Int @Int.instDecidableEq) (@Nat.cast Int instNatCastInt (@UInt8.toNat (@List.getD UInt8 y5 (@Int.toNat (0 : Int)) (0 : UInt8)))) (32 : Int)) Bool.false)) (K (@Array.toList UInt8 (@ByteArray.data (@ByteArray.mk (@List.toArray UInt8 []))))) (K y4)) (@Option.none R)))) (K (@Array.toList UInt8 (@ByteArray.data (@ByteArray.mk (@List.toArray UInt8 []))))))))
theorem wq14q (k : Nat) {R : Type} (I : Nat → St → Option R) (x0 : (List UInt8)) (K : ((List UInt8) → Option R)) : fnK (wqw4 k) k wqov 29 [.tmp 2] wq13b [.v .str x0] [] (wqou K) = wq11f k  x0 K := by kernel_rfl
noncomputable def wqid (k : Nat) {R : Type} (x0 : (List UInt8)) (K : ((List UInt8) → Option R)) : Option R := wq11f k  x0 K
theorem wq14r (k : Nat) {R : Type} (x0 : (List UInt8)) (K : ((List UInt8) → Option R)) : fnK (wqw4 k) k wqov 29 [.tmp 2] wq13b [.v .str x0] [] (wqou K) = wqid k x0 K := by
  exact wq14q k (fun _ _ => none) x0 K
noncomputable def wqma (k : Nat) {R : Type} : List PV → List (Nm × HObj) → (Out → Option R) → Option R
  | [.v .str x0], [], K => wqid k x0 (fun y0 => K (.ret [.v .str y0] []))
  | _, _, _ => none
theorem wq14s (k : Nat) : (wq162 k).Ok Tryz.prog := (CTab.add_ok (fun h => wq13a k h) (CTab.add_ok (fun h => wq16u k h) CTab.nil_ok))
theorem wq163 (k : Nat) {ps : List PV} {hp : List (Nm × HObj)} {R : Type} {K : Out → Option R} {r : R} (h : wqma k ps hp K = some r) : DoesTo Tryz.prog 128 ps hp fun out => K out = some r := by
  unfold wqma at h
  split at h
  · rw [← wq14r] at h
    have := fn_ok (P := Tryz.prog) (cx := wqw4 k) (f := 128) ⟨tyT_ok, wq14s k, fun _ _ => rfl⟩ (by kernel_rfl) (fn := Tryz.f128) (c := wqov) (by kernel_rfl) (by kernel_rfl) (by kernel_rfl) (rs := [.tmp 2]) (by kernel_rfl) (by kernel_rfl) h
    exact this.mono fun out ho => by
      unfold wqou at ho
      split at ho <;> first | exact ho | cases ho
  · cases h
end Go.Proofs.YtpfbdepoammjmaaGreatDoor.Pvm

set_option maxRecDepth 1000000
set_option maxHeartbeats 0
namespace Go.Proofs.YtpfbdepoammjmaaGreatDoor.Pvm
open Go Go.Proofs
def wq6u : List LS := [.obj 1 [.any, .any, .any, .any, .own 21 97 (.pr (.int .i64) (.pr (.int .i64) (.pr (.int .i64) (.pr .str .bool))))], .any]
noncomputable def wqjc (k : Nat) : CTab := CTab.nil
def wqag {R : Type} (K : (Int → Int → (List UInt8) → Int → (List (Int × (Int × (Int × ((List UInt8) × Bool))))) → Option R)) (E : (Int → Int → (List UInt8) → Int → (List (Int × (Int × (Int × ((List UInt8) × Bool))))) → Int → Int → Option R)) : Out → Option R
  | .ret [] [(21, .row 97 (.pr (.int .i64) (.pr (.int .i64) (.pr (.int .i64) (.pr .str .bool)))) y4), (1, .var 151 [.v (.int .i64) y0, .v (.int .i64) y1, .v .str y2, .v (.int .i64) y3, .row 21])] => K y0 y1 y2 y3 y4
  | .pan (.ifc 28 (.agg [.v (.int .i64) z5, .v (.int .i64) z6])) [(21, .row 97 (.pr (.int .i64) (.pr (.int .i64) (.pr (.int .i64) (.pr .str .bool)))) z4), (1, .var 151 [.v (.int .i64) z0, .v (.int .i64) z1, .v .str z2, .v (.int .i64) z3, .row 21])] => E z0 z1 z2 z3 z4 z5 z6
  | _ => none
def wqhn : RetSpec := ⟨[], [(1, .obj 1 [.any, .any, .any, .any, .own 21 97 (.pr (.int .i64) (.pr (.int .i64) (.pr (.int .i64) (.pr .str .bool))))])], [(1, .obj 1 [.any, .any, .any, .any, .own 21 97 (.pr (.int .i64) (.pr (.int .i64) (.pr (.int .i64) (.pr .str .bool))))])]⟩
def wqow : List (Nat × CutSpec) := []
def wqmv : List (Nat × Plan) := []
noncomputable def wqcf (k : Nat) : Ctx := ⟨tyT, wqow, wqjc k, [], [1], wqmv, @SH⟩
noncomputable def wqah : Code := Tryz.f124.body.getD .skip
noncomputable def wqjd (k : Nat) {R : Type}  (x0 x1 : Int) (x2 : (List UInt8)) (x3 : Int) (x4 : (List (Int × (Int × (Int × ((List UInt8) × Bool)))))) (x5 : Int) (K : (Int → Int → (List UInt8) → Int → (List (Int × (Int × (Int × ((List UInt8) × Bool))))) → Option R)) (E : (Int → Int → (List UInt8) → Int → (List (Int × (Int × (Int × ((List UInt8) × Bool))))) → Int → Int → Option R)) : Option R := (E x0 x1 x2 x3 x4 x5 x0)
theorem wqox (k : Nat) {R : Type} (I : Nat → St → Option R) (x0 x1 : Int) (x2 : (List UInt8)) (x3 : Int) (x4 : (List (Int × (Int × (Int × ((List UInt8) × Bool)))))) (x5 : Int) (K : (Int → Int → (List UInt8) → Int → (List (Int × (Int × (Int × ((List UInt8) × Bool))))) → Option R)) (E : (Int → Int → (List UInt8) → Int → (List (Int × (Int × (Int × ((List UInt8) × Bool))))) → Int → Int → Option R)) : fnK (wqcf k) k wqah 12 [] wqhn [.ptr 1 0, .v (.int .i64) x5] [(21, .row 97 (.pr (.int .i64) (.pr (.int .i64) (.pr (.int .i64) (.pr .str .bool)))) x4), (1, .var 151 [.v (.int .i64) x0, .v (.int .i64) x1, .v .str x2, .v (.int .i64) x3, .row 21])] (wqag K E) = wqjd k  x0 x1 x2 x3 x4 x5 K E := by kernel_rfl
noncomputable def wqc (k : Nat) {R : Type} (x0 x1 : Int) (x2 : (List UInt8)) (x3 : Int) (x4 : (List (Int × (Int × (Int × ((List UInt8) × Bool)))))) (x5 : Int) (K : (Int → Int → (List UInt8) → Int → (List (Int × (Int × (Int × ((List UInt8) × Bool))))) → Option R)) (E : (Int → Int → (List UInt8) → Int → (List (Int × (Int × (Int × ((List UInt8) × Bool))))) → Int → Int → Option R)) : Option R := wqjd k  x0 x1 x2 x3 x4 x5 K E
theorem wqoy (k : Nat) {R : Type} (x0 x1 : Int) (x2 : (List UInt8)) (x3 : Int) (x4 : (List (Int × (Int × (Int × ((List UInt8) × Bool)))))) (x5 : Int) (K : (Int → Int → (List UInt8) → Int → (List (Int × (Int × (Int × ((List UInt8) × Bool))))) → Option R)) (E : (Int → Int → (List UInt8) → Int → (List (Int × (Int × (Int × ((List UInt8) × Bool))))) → Int → Int → Option R)) : fnK (wqcf k) k wqah 12 [] wqhn [.ptr 1 0, .v (.int .i64) x5] [(21, .row 97 (.pr (.int .i64) (.pr (.int .i64) (.pr (.int .i64) (.pr .str .bool)))) x4), (1, .var 151 [.v (.int .i64) x0, .v (.int .i64) x1, .v .str x2, .v (.int .i64) x3, .row 21])] (wqag K E) = wqc k x0 x1 x2 x3 x4 x5 K E := by
  exact wqox k (fun _ _ => none) x0 x1 x2 x3 x4 x5 K E
noncomputable def wq4f (k : Nat) {R : Type} : List PV → List (Nm × HObj) → (Out → Option R) → Option R
  | [.ptr 1 0, .v (.int .i64) x5], [(21, .row 97 (.pr (.int .i64) (.pr (.int .i64) (.pr (.int .i64) (.pr .str .bool)))) x4), (1, .var 151 [.v (.int .i64) x0, .v (.int .i64) x1, .v .str x2, .v (.int .i64) x3, .row 21])], K => wqc k x0 x1 x2 x3 x4 x5 (fun y0 y1 y2 y3 y4 => K (.ret [] [(21, .row 97 (.pr (.int .i64) (.pr (.int .i64) (.pr (.int .i64) (.pr .str .bool)))) y4), (1, .var 151 [.v (.int .i64) y0, .v (.int .i64) y1, .v .str y2, .v (.int .i64) y3, .row 21])])) (fun z0 z1 z2 z3 z4 z5 z6 => K (.pan (.ifc 28 (.agg [.v (.int .i64) z5, .v (.int .i64) z6])) [(21, .row 97 (.pr (.int .i64) (.pr (.int .i64) (.pr (.int .i64) (.pr .str .bool)))) z4), (1, .var 151 [.v (.int .i64) z0, .v (.int .i64) z1, .v .str z2, .v (.int .i64) z3, .row 21])]))
  | _, _, _ => none
theorem wqoz (k : Nat) : (wqjc k).Ok Tryz.prog := CTab.nil_ok
theorem wq81 (k : Nat) {ps : List PV} {hp : List (Nm × HObj)} {R : Type} {K : Out → Option R} {r : R} (h : wq4f k ps hp K = some r) : DoesTo Tryz.prog 124 ps hp fun out => K out = some r := by
  unfold wq4f at h
  split at h
  · rw [← wqoy] at h
    have := fn_ok (P := Tryz.prog) (cx := wqcf k) (f := 124) ⟨tyT_ok, wqoz k, fun _ _ => rfl⟩ (by kernel_rfl) (fn := Tryz.f124) (c := wqah) (by kernel_rfl) (by kernel_rfl) (by kernel_rfl) (rs := []) (by kernel_rfl) (by kernel_rfl) h
    exact this.mono fun out ho => by
      unfold wqag at ho
      split at ho <;> first | exact ho | cases ho
  · cases h
end Go.Proofs.YtpfbdepoammjmaaGreatDoor.Pvm

set_option maxRecDepth 1000000
set_option maxHeartbeats 0
namespace Go.Proofs.YtpfbdepoammjmaaGreatDoor.Pvm
open Go Go.Proofs
def wqfx : List LS := [.obj 1 [.any, .any, .any, .any, .own 21 97 (.pr (.int .i64) (.pr (.int .i64) (.pr (.int .i64) (.pr .str .bool))))], .any, .any, .any, .any]
noncomputable def wqje (k : Nat) : CTab := CTab.nil
def wqai {R : Type} (K : (Int → Int → (List UInt8) → Int → (List (Int × (Int × (Int × ((List UInt8) × Bool))))) → Option R)) : Out → Option R
  | .ret [] [(21, .row 97 (.pr (.int .i64) (.pr (.int .i64) (.pr (.int .i64) (.pr .str .bool)))) y4), (1, .var 151 [.v (.int .i64) y0, .v (.int .i64) y1, .v .str y2, .v (.int .i64) y3, .row 21])] => K y0 y1 y2 y3 y4
  | _ => none
def wqho : RetSpec := ⟨[], [(1, .obj 1 [.any, .any, .any, .any, .own 21 97 (.pr (.int .i64) (.pr (.int .i64) (.pr (.int .i64) (.pr .str .bool))))])], []⟩
def wqp0 : List (Nat × CutSpec) := []
def wqmw : List (Nat × Plan) := [(0, (.of [(0, 1), (1, 1), (2, 1), (3, 1), (5, 1), (6, 1), (7, 1), (8, 1), (9, 1), (11, 1), (12, 1), (13, 1), (14, 1), (16, 1), (17, 1), (18, 1), (21, 1), (22, 1), (4, 1), (10, 1), (15, 1), (19, 1), (20, 1), (23, 1), (24, 0), (25, 0), (26, 1), (27, 1), (28, 0)] .done))]
noncomputable def wqcg (k : Nat) : Ctx := ⟨tyT, wqp0, wqje k, [], [1], wqmw, @SH⟩
noncomputable def wqaj : Code := Tryz.f127.body.getD .skip
noncomputable def wqdm (k : Nat) {R : Type}  (x0 x1 : Int) (x2 : (List UInt8)) (x3 : Int) (x4 : (List (Int × (Int × (Int × ((List UInt8) × Bool)))))) (x5 : Int) (x6 : (List UInt8)) (x7 : Bool) (x8 : Int) (K : (Int → Int → (List UInt8) → Int → (List (Int × (Int × (Int × ((List UInt8) × Bool))))) → Option R)) : Option R := (@cond (@Option R) (@fits (@List.length (@Kd.T (@Kd.pr kI (@Kd.pr kI (@Kd.pr kI (@Kd.pr Kd.str Kd.bool))))) x4) (@List.length (@Kd.T (@Kd.pr kI (@Kd.pr kI (@Kd.pr kI (@Kd.pr Kd.str Kd.bool))))) ((x5, (x0, ((@Go.IntKind.wrap Go.IntKind.i64 (@HAdd.hAdd Int Int Int (@instHAdd Int @Int.instAdd) x1 x3)), (x6, x7)))) :: [])) (48 : Nat)) (K x0 x1 x2 (@Go.IntKind.wrap Go.IntKind.i64 (@HAdd.hAdd Int Int Int (@instHAdd Int @Int.instAdd) x3 x8)) (@HAppend.hAppend (@Kd.T (@Kd.sl (@Kd.pr kI (@Kd.pr kI (@Kd.pr kI (@Kd.pr Kd.str Kd.bool)))))) (@List (@Kd.T (@Kd.pr kI (@Kd.pr kI (@Kd.pr kI (@Kd.pr Kd.str Kd.bool)))))) (@Kd.T (@Kd.sl (@Kd.pr kI (@Kd.pr kI (@Kd.pr kI (@Kd.pr Kd.str Kd.bool)))))) (@instHAppendOfAppend (@Kd.T (@Kd.sl (@Kd.pr kI (@Kd.pr kI (@Kd.pr kI (@Kd.pr Kd.str Kd.bool)))))) (@List.instAppend (@Kd.T (@Kd.pr kI (@Kd.pr kI (@Kd.pr kI (@Kd.pr Kd.str Kd.bool))))))) x4 ((x5, (x0, ((@Go.IntKind.wrap Go.IntKind.i64 (@HAdd.hAdd Int Int Int (@instHAdd Int @Int.instAdd) x1 x3)), (x6, x7)))) :: []))) (@Option.none R))
theorem wqp1 (k : Nat) {R : Type} (I : Nat → St → Option R) (x0 x1 : Int) (x2 : (List UInt8)) (x3 : Int) (x4 : (List (Int × (Int × (Int × ((List UInt8) × Bool)))))) (x5 : Int) (x6 : (List UInt8)) (x7 : Bool) (x8 : Int) (K : (Int → Int → (List UInt8) → Int → (List (Int × (Int × (Int × ((List UInt8) × Bool))))) → Option R)) : fnK (wqcg k) k wqaj 46 [] wqho [.ptr 1 0, .v (.int .i64) x5, .v .str x6, .v .bool x7, .v (.int .i64) x8] [(21, .row 97 (.pr (.int .i64) (.pr (.int .i64) (.pr (.int .i64) (.pr .str .bool)))) x4), (1, .var 151 [.v (.int .i64) x0, .v (.int .i64) x1, .v .str x2, .v (.int .i64) x3, .row 21])] (wqai K) = wqdm k  x0 x1 x2 x3 x4 x5 x6 x7 x8 K := by kernel_rfl
noncomputable def wqh (k : Nat) {R : Type} (x0 x1 : Int) (x2 : (List UInt8)) (x3 : Int) (x4 : (List (Int × (Int × (Int × ((List UInt8) × Bool)))))) (x5 : Int) (x6 : (List UInt8)) (x7 : Bool) (x8 : Int) (K : (Int → Int → (List UInt8) → Int → (List (Int × (Int × (Int × ((List UInt8) × Bool))))) → Option R)) : Option R := wqdm k  x0 x1 x2 x3 x4 x5 x6 x7 x8 K
theorem wqp2 (k : Nat) {R : Type} (x0 x1 : Int) (x2 : (List UInt8)) (x3 : Int) (x4 : (List (Int × (Int × (Int × ((List UInt8) × Bool)))))) (x5 : Int) (x6 : (List UInt8)) (x7 : Bool) (x8 : Int) (K : (Int → Int → (List UInt8) → Int → (List (Int × (Int × (Int × ((List UInt8) × Bool))))) → Option R)) : fnK (wqcg k) k wqaj 46 [] wqho [.ptr 1 0, .v (.int .i64) x5, .v .str x6, .v .bool x7, .v (.int .i64) x8] [(21, .row 97 (.pr (.int .i64) (.pr (.int .i64) (.pr (.int .i64) (.pr .str .bool)))) x4), (1, .var 151 [.v (.int .i64) x0, .v (.int .i64) x1, .v .str x2, .v (.int .i64) x3, .row 21])] (wqai K) = wqh k x0 x1 x2 x3 x4 x5 x6 x7 x8 K := by
  exact wqp1 k (fun _ _ => none) x0 x1 x2 x3 x4 x5 x6 x7 x8 K
noncomputable def wq8d (k : Nat) {R : Type} : List PV → List (Nm × HObj) → (Out → Option R) → Option R
  | [.ptr 1 0, .v (.int .i64) x5, .v .str x6, .v .bool x7, .v (.int .i64) x8], [(21, .row 97 (.pr (.int .i64) (.pr (.int .i64) (.pr (.int .i64) (.pr .str .bool)))) x4), (1, .var 151 [.v (.int .i64) x0, .v (.int .i64) x1, .v .str x2, .v (.int .i64) x3, .row 21])], K => wqh k x0 x1 x2 x3 x4 x5 x6 x7 x8 (fun y0 y1 y2 y3 y4 => K (.ret [] [(21, .row 97 (.pr (.int .i64) (.pr (.int .i64) (.pr (.int .i64) (.pr .str .bool)))) y4), (1, .var 151 [.v (.int .i64) y0, .v (.int .i64) y1, .v .str y2, .v (.int .i64) y3, .row 21])]))
  | _, _, _ => none
theorem wqp3 (k : Nat) : (wqje k).Ok Tryz.prog := CTab.nil_ok
theorem wqjf (k : Nat) {ps : List PV} {hp : List (Nm × HObj)} {R : Type} {K : Out → Option R} {r : R} (h : wq8d k ps hp K = some r) : DoesTo Tryz.prog 127 ps hp fun out => K out = some r := by
  unfold wq8d at h
  split at h
  · rw [← wqp2] at h
    have := fn_ok (P := Tryz.prog) (cx := wqcg k) (f := 127) ⟨tyT_ok, wqp3 k, fun _ _ => rfl⟩ (by kernel_rfl) (fn := Tryz.f127) (c := wqaj) (by kernel_rfl) (by kernel_rfl) (by kernel_rfl) (rs := []) (by kernel_rfl) (by kernel_rfl) h
    exact this.mono fun out ho => by
      unfold wqai at ho
      split at ho <;> first | exact ho | cases ho
  · cases h
end Go.Proofs.YtpfbdepoammjmaaGreatDoor.Pvm

set_option maxRecDepth 1000000
set_option maxHeartbeats 0
namespace Go.Proofs.YtpfbdepoammjmaaGreatDoor.Pvm
open Go Go.Proofs
abbrev wq4n (R : Type) : Type := (Int → Int → (List UInt8) → Int → (List (Int × (Int × (Int × ((List UInt8) × Bool))))) → (List UInt8) → Option R)
def wqs1 : List LS := [.obj 1 [.any, .any, .any, .any, .own 21 97 (.pr (.int .i64) (.pr (.int .i64) (.pr (.int .i64) (.pr .str .bool))))]]
noncomputable def wqks (k : Nat) : CTab := CTab.nil
def wq3n {R : Type} (K : wq4n R) : Out → Option R
  | .ret [.v .str y5] [(21, .row 97 (.pr (.int .i64) (.pr (.int .i64) (.pr (.int .i64) (.pr .str .bool)))) y4), (1, .var 151 [.v (.int .i64) y0, .v (.int .i64) y1, .v .str y2, .v (.int .i64) y3, .row 21])] => K y0 y1 y2 y3 y4 y5
  | _ => none
def wq5t : RetSpec := ⟨[.any], [(1, .obj 1 [.any, .any, .any, .any, .own 21 97 (.pr (.int .i64) (.pr (.int .i64) (.pr (.int .i64) (.pr .str .bool))))])], []⟩
def wqqh : List (Nat × CutSpec) := [(1001, ⟨[(0, .obj 1 [.any, .any, .any, .any, .own 21 97 (.pr (.int .i64) (.pr (.int .i64) (.pr (.int .i64) (.pr .str .bool))))])], [(1, .obj 1 [.any, .any, .any, .any, .own 21 97 (.pr (.int .i64) (.pr (.int .i64) (.pr (.int .i64) (.pr .str .bool))))])]⟩)]
def wqp4 : List (Nat × Plan) := [(1, (.of [(0, 1), (1, 1), (2, 1), (4, 1), (5, 1), (6, 1), (7, 1), (3, 1), (8, 1), (9, 1), (10, 1), (11, 1), (12, 1), (13, 1), (14, 1), (15, 1), (17, 1), (18, 1), (19, 1), (16, 1), (20, 1), (21, 1), (22, 1), (23, 1)] .done)), (3, (.of [(0, 1), (1, 1), (2, 1), (3, 1), (5, 1), (6, 1), (7, 1), (4, 1), (8, 1), (9, 1), (10, 1)] .done))]
noncomputable def wqs (k : Nat) : Ctx := ⟨tyT, wqqh, wqks k, [], [1], wqp4, @SH⟩
noncomputable def wq1u : Code := Tryz.f125.body.getD .skip
def wq42 (s0 s1 : Int) (s2 : (List UInt8)) (s3 : Int) (s4 : (List (Int × (Int × (Int × ((List UInt8) × Bool)))))) : St := ⟨mkT [(0, .ptr 1 0)], mkH [(21, .row 97 (.pr (.int .i64) (.pr (.int .i64) (.pr (.int .i64) (.pr .str .bool)))) s4), (1, .var 151 [.v (.int .i64) s0, .v (.int .i64) s1, .v .str s2, .v (.int .i64) s3, .row 21])]⟩
noncomputable def wq5x (k : Nat) {R : Type} (E1001 : (Int → Int → (List UInt8) → Int → (List (Int × (Int × (Int × ((List UInt8) × Bool))))) → Option R)) (s0 s1 : Int) (s2 : (List UInt8)) (s3 : Int) (s4 : (List (Int × (Int × (Int × ((List UInt8) × Bool)))))) (K : wq4n R) : Option R := (@cond (@Option R) (@Bool.or (@Bool.not (@BEq.beq (@Kd.T Kd.bool) (@instBEqOfDecidableEq (@Kd.T Kd.bool) @instDecidableEqBool) (@Decidable.decide (@LT.lt Int Int.instLTInt s3 (@Nat.cast Int instNatCastInt (@List.length UInt8 s2))) (@Int.decLt s3 (@Nat.cast Int instNatCastInt (@List.length UInt8 s2)))) Bool.true)) (@inb s3 (@Nat.cast Int instNatCastInt (@List.length UInt8 s2)))) (@cond (@Option R) (@cond (@Kd.T Kd.bool) (@Decidable.decide (@LT.lt Int Int.instLTInt s3 (@Nat.cast Int instNatCastInt (@List.length UInt8 s2))) (@Int.decLt s3 (@Nat.cast Int instNatCastInt (@List.length UInt8 s2)))) (@BEq.beq Int (@instBEqOfDecidableEq Int @Int.instDecidableEq) (@Nat.cast Int instNatCastInt (@UInt8.toNat (@List.getD UInt8 s2 (@Int.toNat s3) (0 : UInt8)))) (32 : Int)) Bool.false) (E1001 s0 s1 s2 (@Go.IntKind.wrap Go.IntKind.i64 (@HAdd.hAdd Int Int Int (@instHAdd Int @Int.instAdd) s3 (1 : Int))) s4) (@cond (@Option R) (@bnd s3 (@Nat.cast Int instNatCastInt (@List.length UInt8 s2)) (@Nat.cast Int instNatCastInt (@List.length UInt8 s2))) (K s0 s1 s2 s3 s4 (@cut UInt8 s2 s3 (@Nat.cast Int instNatCastInt (@List.length UInt8 s2)))) (@Option.none R))) (@Option.none R))
theorem wqie (k : Nat) {R : Type} (I : Nat → St → Option R) (s0 s1 : Int) (s2 : (List UInt8)) (s3 : Int) (s4 : (List (Int × (Int × (Int × ((List UInt8) × Bool)))))) (K : wq4n R) : execK (wqs k) k (at_ [1, 0, 0, 0] wq1u) (wq42 s0 s1 s2 s3 s4) (konts (wqs k) k I [1, 0, 0, 0] wq1u (outK (wqs k) wq5t [.tmp 2] (wq3n K))) = wq5x k (fun s0 s1 s2 s3 s4 => I 1001 (wq42 s0 s1 s2 s3 s4)) s0 s1 s2 s3 s4 K := by kernel_rfl
noncomputable def wqbg (k : Nat) {R : Type} (E1001 : (Int → Int → (List UInt8) → Int → (List (Int × (Int × (Int × ((List UInt8) × Bool))))) → Option R)) (x0 x1 : Int) (x2 : (List UInt8)) (x3 : Int) (x4 : (List (Int × (Int × (Int × ((List UInt8) × Bool)))))) (K : wq4n R) : Option R := (E1001 x0 x1 x2 x3 x4)
theorem wqqi (k : Nat) {R : Type} (I : Nat → St → Option R) (x0 x1 : Int) (x2 : (List UInt8)) (x3 : Int) (x4 : (List (Int × (Int × (Int × ((List UInt8) × Bool)))))) (K : wq4n R) : fnK (wqs k) k wq1u 44 [.tmp 2] wq5t [.ptr 1 0] [(21, .row 97 (.pr (.int .i64) (.pr (.int .i64) (.pr (.int .i64) (.pr .str .bool)))) x4), (1, .var 151 [.v (.int .i64) x0, .v (.int .i64) x1, .v .str x2, .v (.int .i64) x3, .row 21])] (wq3n K) = wqbg k (fun s0 s1 s2 s3 s4 => iter (wqs k).pv (look (wqs k).cuts 1001) (execK (wqs k) k (at_ [1, 0, 0, 0] wq1u)) k (wq42 s0 s1 s2 s3 s4) (konts (wqs k) k I [1, 0, 0] wq1u (outK (wqs k) wq5t [.tmp 2] (wq3n K)))) x0 x1 x2 x3 x4 K := by kernel_rfl
noncomputable def wq2h (k : Nat) {R : Type}  : Nat → Int → Int → (List UInt8) → Int → (List (Int × (Int × (Int × ((List UInt8) × Bool))))) → (Int → Int → (List UInt8) → Int → (List (Int × (Int × (Int × ((List UInt8) × Bool))))) → (List UInt8) → Option R) → Option R
  | 0, _, _, _, _, _, _ => none
  | n + 1, s0, s1, s2, s3, s4, K => wq5x k (fun s0 s1 s2 s3 s4 => wq2h k  n s0 s1 s2 s3 s4 K) s0 s1 s2 s3 s4 K
theorem wqif (k : Nat) {R : Type} (I : Nat → St → Option R) (K : wq4n R) : ∀ (n : Nat) (s0 s1 : Int) (s2 : (List UInt8)) (s3 : Int) (s4 : (List (Int × (Int × (Int × ((List UInt8) × Bool)))))), iter (wqs k).pv (look (wqs k).cuts 1001) (execK (wqs k) k (at_ [1, 0, 0, 0] wq1u)) n (wq42 s0 s1 s2 s3 s4) (konts (wqs k) k I [1, 0, 0] wq1u (outK (wqs k) wq5t [.tmp 2] (wq3n K))) = wq2h k  n s0 s1 s2 s3 s4 K := by
  intro n
  induction n with
  | zero => intros; rfl
  | succ n ih =>
    intro s0 s1 s2 s3 s4
    let I' : Nat → St → Option R := fun id s => bif Nat.beq id 1001 then iter (wqs k).pv (look (wqs k).cuts 1001) (execK (wqs k) k (at_ [1, 0, 0, 0] wq1u)) n s (konts (wqs k) k I [1, 0, 0] wq1u (outK (wqs k) wq5t [.tmp 2] (wq3n K))) else I id s
    have e := wqie k I' s0 s1 s2 s3 s4 K
    have h1001 : (fun s0 s1 s2 s3 s4 => I' 1001 (wq42 s0 s1 s2 s3 s4)) = (fun s0 s1 s2 s3 s4 => wq2h k  n s0 s1 s2 s3 s4 K) := by funext s0 s1 s2 s3 s4; exact ih s0 s1 s2 s3 s4
    refine Eq.trans (?_ : _ = _) (e.trans (Eq.trans ((congrArg ((fun E1001 => wq5x k E1001 s0 s1 s2 s3 s4 K)) h1001)) (by rw [wq2h])))
    rfl
noncomputable def wq4g (k : Nat) {R : Type} (x0 x1 : Int) (x2 : (List UInt8)) (x3 : Int) (x4 : (List (Int × (Int × (Int × ((List UInt8) × Bool)))))) (K : wq4n R) : Option R := wqbg k (fun s0 s1 s2 s3 s4 => wq2h k k s0 s1 s2 s3 s4 K) x0 x1 x2 x3 x4 K
theorem wqqj (k : Nat) {R : Type} (x0 x1 : Int) (x2 : (List UInt8)) (x3 : Int) (x4 : (List (Int × (Int × (Int × ((List UInt8) × Bool)))))) (K : wq4n R) : fnK (wqs k) k wq1u 44 [.tmp 2] wq5t [.ptr 1 0] [(21, .row 97 (.pr (.int .i64) (.pr (.int .i64) (.pr (.int .i64) (.pr .str .bool)))) x4), (1, .var 151 [.v (.int .i64) x0, .v (.int .i64) x1, .v .str x2, .v (.int .i64) x3, .row 21])] (wq3n K) = wq4g k x0 x1 x2 x3 x4 K := by
  let I : Nat → St → Option R := fun _ _ => none
  have h1001 : (fun s0 s1 s2 s3 s4 => iter (wqs k).pv (look (wqs k).cuts 1001) (execK (wqs k) k (at_ [1, 0, 0, 0] wq1u)) k (wq42 s0 s1 s2 s3 s4) (konts (wqs k) k I [1, 0, 0] wq1u (outK (wqs k) wq5t [.tmp 2] (wq3n K)))) = (fun s0 s1 s2 s3 s4 => wq2h k k s0 s1 s2 s3 s4 K) := by funext s0 s1 s2 s3 s4; exact wqif k I K k s0 s1 s2 s3 s4
  exact (wqqi k I x0 x1 x2 x3 x4 K).trans (congrArg ((fun E1001 => wqbg k E1001 x0 x1 x2 x3 x4 K)) h1001)
noncomputable def wqch (k : Nat) {R : Type} : List PV → List (Nm × HObj) → (Out → Option R) → Option R
  | [.ptr 1 0], [(21, .row 97 (.pr (.int .i64) (.pr (.int .i64) (.pr (.int .i64) (.pr .str .bool)))) x4), (1, .var 151 [.v (.int .i64) x0, .v (.int .i64) x1, .v .str x2, .v (.int .i64) x3, .row 21])], K => wq4g k x0 x1 x2 x3 x4 (fun y0 y1 y2 y3 y4 y5 => K (.ret [.v .str y5] [(21, .row 97 (.pr (.int .i64) (.pr (.int .i64) (.pr (.int .i64) (.pr .str .bool)))) y4), (1, .var 151 [.v (.int .i64) y0, .v (.int .i64) y1, .v .str y2, .v (.int .i64) y3, .row 21])]))
  | _, _, _ => none
theorem wqqk (k : Nat) : (wqks k).Ok Tryz.prog := CTab.nil_ok
theorem wqw5 (k : Nat) {ps : List PV} {hp : List (Nm × HObj)} {R : Type} {K : Out → Option R} {r : R} (h : wqch k ps hp K = some r) : DoesTo Tryz.prog 125 ps hp fun out => K out = some r := by
  unfold wqch at h
  split at h
  · rw [← wqqj] at h
    have := fn_ok (P := Tryz.prog) (cx := wqs k) (f := 125) ⟨tyT_ok, wqqk k, fun _ _ => rfl⟩ (by kernel_rfl) (fn := Tryz.f125) (c := wq1u) (by kernel_rfl) (by kernel_rfl) (by kernel_rfl) (rs := [.tmp 2]) (by kernel_rfl) (by kernel_rfl) h
    exact this.mono fun out ho => by
      unfold wq3n at ho
      split at ho <;> first | exact ho | cases ho
  · cases h
end Go.Proofs.YtpfbdepoammjmaaGreatDoor.Pvm

set_option maxRecDepth 1000000
set_option maxHeartbeats 0
namespace Go.Proofs.YtpfbdepoammjmaaGreatDoor.Pvm
open Go Go.Proofs
def wqe0 : List LS := [.any, .any]
noncomputable def wqfy (k : Nat) : CTab := (CTab.add 144 wqfv (wq8c k) CTab.nil)
def wq8l {R : Type} (K : (Int → Option R)) : Out → Option R
  | .ret [.v (.int .i64) y0] [] => K y0
  | _ => none
def wqes : RetSpec := ⟨[.any], [], []⟩
def wqkt : List (Nat × CutSpec) := []
def wqjp : List (Nat × Plan) := []
noncomputable def wqak (k : Nat) : Ctx := ⟨tyT, wqkt, wqfy k, [], [], wqjp, @SH⟩
noncomputable def wq8m : Code := Tryz.f162.body.getD .skip
noncomputable def wqfz (k : Nat) {R : Type}  (x0 : (List UInt8)) (x1 : Int) (K : (Int → Option R)) : Option R := (@wq80 k R x0 x1 (fun y5 => (K y5)))
theorem wqku (k : Nat) {R : Type} (I : Nat → St → Option R) (x0 : (List UInt8)) (x1 : Int) (K : (Int → Option R)) : fnK (wqak k) k wq8m 8 [.tmp 4] wqes [.v .str x0, .v (.int .u8) x1] [] (wq8l K) = wqfz k  x0 x1 K := by kernel_rfl
noncomputable def wq24 (k : Nat) {R : Type} (x0 : (List UInt8)) (x1 : Int) (K : (Int → Option R)) : Option R := wqfz k  x0 x1 K
theorem wqkv (k : Nat) {R : Type} (x0 : (List UInt8)) (x1 : Int) (K : (Int → Option R)) : fnK (wqak k) k wq8m 8 [.tmp 4] wqes [.v .str x0, .v (.int .u8) x1] [] (wq8l K) = wq24 k x0 x1 K := by
  exact wqku k (fun _ _ => none) x0 x1 K
noncomputable def wq77 (k : Nat) {R : Type} : List PV → List (Nm × HObj) → (Out → Option R) → Option R
  | [.v .str x0, .v (.int .u8) x1], [], K => wq24 k x0 x1 (fun y0 => K (.ret [.v (.int .i64) y0] []))
  | _, _, _ => none
theorem wqkw (k : Nat) : (wqfy k).Ok Tryz.prog := (CTab.add_ok (fun h => wqjb k h) CTab.nil_ok)
theorem wqg0 (k : Nat) {ps : List PV} {hp : List (Nm × HObj)} {R : Type} {K : Out → Option R} {r : R} (h : wq77 k ps hp K = some r) : DoesTo Tryz.prog 162 ps hp fun out => K out = some r := by
  unfold wq77 at h
  split at h
  · rw [← wqkv] at h
    have := fn_ok (P := Tryz.prog) (cx := wqak k) (f := 162) ⟨tyT_ok, wqkw k, fun _ _ => rfl⟩ (by kernel_rfl) (fn := Tryz.f162) (c := wq8m) (by kernel_rfl) (by kernel_rfl) (by kernel_rfl) (rs := [.tmp 4]) (by kernel_rfl) (by kernel_rfl) h
    exact this.mono fun out ho => by
      unfold wq8l at ho
      split at ho <;> first | exact ho | cases ho
  · cases h
end Go.Proofs.YtpfbdepoammjmaaGreatDoor.Pvm

set_option maxRecDepth 1000000
set_option maxHeartbeats 0
namespace Go.Proofs.YtpfbdepoammjmaaGreatDoor.Pvm
open Go Go.Proofs
def wqql : List LS := [.obj 1 [.any, .any, .any, .any, .own 21 97 (.pr (.int .i64) (.pr (.int .i64) (.pr (.int .i64) (.pr .str .bool))))], .any]
noncomputable def wqjg (k : Nat) : CTab := (CTab.add 124 wq6u (wq4f k) (CTab.add 162 wqe0 (wq77 k) CTab.nil))
def wqal {R : Type} (K : (Int → Int → (List UInt8) → Int → (List (Int × (Int × (Int × ((List UInt8) × Bool))))) → Int → Int → Option R)) (E : (Int → Int → (List UInt8) → Int → (List (Int × (Int × (Int × ((List UInt8) × Bool))))) → Int → Int → Option R)) : Out → Option R
  | .ret [.v (.int .u8) y5, .v (.int .i64) y6] [(21, .row 97 (.pr (.int .i64) (.pr (.int .i64) (.pr (.int .i64) (.pr .str .bool)))) y4), (1, .var 151 [.v (.int .i64) y0, .v (.int .i64) y1, .v .str y2, .v (.int .i64) y3, .row 21])] => K y0 y1 y2 y3 y4 y5 y6
  | .pan (.ifc 28 (.agg [.v (.int .i64) z5, .v (.int .i64) z6])) [(21, .row 97 (.pr (.int .i64) (.pr (.int .i64) (.pr (.int .i64) (.pr .str .bool)))) z4), (1, .var 151 [.v (.int .i64) z0, .v (.int .i64) z1, .v .str z2, .v (.int .i64) z3, .row 21])] => E z0 z1 z2 z3 z4 z5 z6
  | _ => none
def wqhp : RetSpec := ⟨[.any, .any], [(1, .obj 1 [.any, .any, .any, .any, .own 21 97 (.pr (.int .i64) (.pr (.int .i64) (.pr (.int .i64) (.pr .str .bool))))])], [(1, .obj 1 [.any, .any, .any, .any, .own 21 97 (.pr (.int .i64) (.pr (.int .i64) (.pr (.int .i64) (.pr .str .bool))))])]⟩
def wqp5 : List (Nat × CutSpec) := []
def wqmx : List (Nat × Plan) := [(14, (.of [(0, 1), (1, 1), (3, 1), (4, 1), (2, 0), (5, 0), (6, 1), (7, 1)] .done))]
noncomputable def wqci (k : Nat) : Ctx := ⟨tyT, wqp5, wqjg k, [], [1], wqmx, @SH⟩
noncomputable def wqam : Code := Tryz.f178.body.getD .skip
noncomputable def wqdn (k : Nat) {R : Type}  (x0 x1 : Int) (x2 : (List UInt8)) (x3 : Int) (x4 : (List (Int × (Int × (Int × ((List UInt8) × Bool)))))) (x5 : (List UInt8)) (K : (Int → Int → (List UInt8) → Int → (List (Int × (Int × (Int × ((List UInt8) × Bool))))) → Int → Int → Option R)) (E : (Int → Int → (List UInt8) → Int → (List (Int × (Int × (Int × ((List UInt8) × Bool))))) → Int → Int → Option R)) : Option R := (@cond (@Option R) (@BEq.beq (@List UInt8) (@List.instBEq UInt8 (@instBEqOfDecidableEq UInt8 @instDecidableEqUInt8)) x5 (@Array.toList UInt8 (@ByteArray.data (@ByteArray.mk (@List.toArray UInt8 []))))) (@wqc k R x0 x1 x2 x3 x4 (3 : Int) (fun y10 y11 y12 y13 y14 => (@cond (@Option R) (@inb (0 : Int) (@Nat.cast Int instNatCastInt (@List.length UInt8 x5))) (@cond (@Option R) (@BEq.beq Int (@instBEqOfDecidableEq Int @Int.instDecidableEq) (@Nat.cast Int instNatCastInt (@UInt8.toNat (@List.getD UInt8 x5 (@Int.toNat (0 : Int)) (0 : UInt8)))) (92 : Int)) (@cond (@Option R) (@inb (0 : Int) (@Nat.cast Int instNatCastInt (@List.length UInt8 x5))) (K y10 y11 y12 y13 y14 (@Nat.cast Int instNatCastInt (@UInt8.toNat (@List.getD UInt8 x5 (@Int.toNat (0 : Int)) (0 : UInt8)))) (1 : Int)) (@Option.none R)) (@cond (@Option R) (@BEq.beq Int (@instBEqOfDecidableEq Int @Int.instDecidableEq) (@Nat.cast Int instNatCastInt (@UInt8.toNat (@List.getD UInt8 x5 (@Int.toNat (0 : Int)) (0 : UInt8)))) (34 : Int)) (@cond (@Option R) (@inb (0 : Int) (@Nat.cast Int instNatCastInt (@List.length UInt8 x5))) (K y10 y11 y12 y13 y14 (@Nat.cast Int instNatCastInt (@UInt8.toNat (@List.getD UInt8 x5 (@Int.toNat (0 : Int)) (0 : UInt8)))) (1 : Int)) (@Option.none R)) (@cond (@Option R) (@BEq.beq Int (@instBEqOfDecidableEq Int @Int.instDecidableEq) (@Nat.cast Int instNatCastInt (@UInt8.toNat (@List.getD UInt8 x5 (@Int.toNat (0 : Int)) (0 : UInt8)))) (110 : Int)) (K y10 y11 y12 y13 y14 (10 : Int) (1 : Int)) (@cond (@Option R) (@BEq.beq Int (@instBEqOfDecidableEq Int @Int.instDecidableEq) (@Nat.cast Int instNatCastInt (@UInt8.toNat (@List.getD UInt8 x5 (@Int.toNat (0 : Int)) (0 : UInt8)))) (116 : Int)) (K y10 y11 y12 y13 y14 (9 : Int) (1 : Int)) (@cond (@Option R) (@BEq.beq Int (@instBEqOfDecidableEq Int @Int.instDecidableEq) (@Nat.cast Int instNatCastInt (@UInt8.toNat (@List.getD UInt8 x5 (@Int.toNat (0 : Int)) (0 : UInt8)))) (120 : Int)) (@cond (@Option R) (@Decidable.decide (@LT.lt Int Int.instLTInt (@Nat.cast Int instNatCastInt (@List.length UInt8 x5)) (3 : Int)) (@Int.decLt (@Nat.cast Int instNatCastInt (@List.length UInt8 x5)) (3 : Int))) (@wqc k R y10 y11 y12 y13 y14 (3 : Int) (fun y15 y16 y17 y18 y19 => (@cond (@Option R) (@inb (1 : Int) (@Nat.cast Int instNatCastInt (@List.length UInt8 x5))) (@cond (@Option R) (@inb (2 : Int) (@Nat.cast Int instNatCastInt (@List.length UInt8 x5))) (@wq24 k R (@Array.toList UInt8 (@ByteArray.data (@ByteArray.mk (@List.toArray UInt8 ((48 : UInt8) :: ((49 : UInt8) :: ((50 : UInt8) :: ((51 : UInt8) :: ((52 : UInt8) :: ((53 : UInt8) :: ((54 : UInt8) :: ((55 : UInt8) :: ((56 : UInt8) :: ((57 : UInt8) :: ((97 : UInt8) :: ((98 : UInt8) :: ((99 : UInt8) :: ((100 : UInt8) :: ((101 : UInt8) :: ((102 : UInt8) :: [])))))))))))))))))))) (@Nat.cast Int instNatCastInt (@UInt8.toNat (@List.getD UInt8 x5 (@Int.toNat (1 : Int)) (0 : UInt8)))) (fun y20 => (@wq24 k R (@Array.toList UInt8 (@ByteArray.data (@ByteArray.mk (@List.toArray UInt8 ((48 : UInt8) :: ((49 : UInt8) :: ((50 : UInt8) :: ((51 : UInt8) :: ((52 : UInt8) :: ((53 : UInt8) :: ((54 : UInt8) :: ((55 : UInt8) :: ((56 : UInt8) :: ((57 : UInt8) :: ((97 : UInt8) :: ((98 : UInt8) :: ((99 : UInt8) :: ((100 : UInt8) :: ((101 : UInt8) :: ((102 : UInt8) :: [])))))))))))))))))))) (@Nat.cast Int instNatCastInt (@UInt8.toNat (@List.getD UInt8 x5 (@Int.toNat (2 : Int)) (0 : UInt8)))) (fun y21 => (@cond (@Option R) (@cond (@Kd.T Kd.bool) (@Decidable.decide (@LT.lt Int Int.instLTInt y20 (0 : Int)) (@Int.decLt y20 (0 : Int))) Bool.true (@Decidable.decide (@LT.lt Int Int.instLTInt y21 (0 : Int)) (@Int.decLt y21 (0 : Int)))) (@wqc k R y15 y16 y17 y18 y19 (3 : Int) (fun y22 y23 y24 y25 y26 => (K y22 y23 y24 y25 y26 (@Go.IntKind.wrap Go.IntKind.u8 (@Go.IntKind.wrap Go.IntKind.i64 (@HAdd.hAdd Int Int Int (@instHAdd Int @Int.instAdd) (@Go.IntKind.wrap Go.IntKind.i64 (@HMul.hMul Int Int Int (@instHMul Int @Int.instMul) (16 : Int) y20)) y21))) (3 : Int))) (fun y22 y23 y24 y25 y26 y27 y28 => (E y22 y23 y24 y25 y26 y27 y28))) (K y15 y16 y17 y18 y19 (@Go.IntKind.wrap Go.IntKind.u8 (@Go.IntKind.wrap Go.IntKind.i64 (@HAdd.hAdd Int Int Int (@instHAdd Int @Int.instAdd) (@Go.IntKind.wrap Go.IntKind.i64 (@HMul.hMul Int Int Int (@instHMul Int @Int.instMul) (16 : Int) y20)) y21))) (3 : Int))))))) (@Option.none R)) (@Option.none R))) (fun y15 y16 y17 y18 y19 y20 y21 => (E y15 y16 y17 y18 y19 y20 y21))) (@cond (@Option R) (@inb (1 : Int) (@Nat.cast Int instNatCastInt (@List.length UInt8 x5))) (@cond (@Option R) (@inb (2 : Int) (@Nat.cast Int instNatCastInt (@List.length UInt8 x5))) (@wq24 k R (@Array.toList UInt8 (@ByteArray.data (@ByteArray.mk (@List.toArray UInt8 ((48 : UInt8) :: ((49 : UInt8) :: ((50 : UInt8) :: ((51 : UInt8) :: ((52 : UInt8) :: ((53 : UInt8) :: ((54 : UInt8) :: ((55 : UInt8) :: ((56 : UInt8) :: ((57 : UInt8) :: ((97 : UInt8) :: ((98 : UInt8) :: ((99 : UInt8) :: ((100 : UInt8) :: ((101 : UInt8) :: ((102 : UInt8) :: [])))))))))))))))))))) (@Nat.cast Int instNatCastInt (@UInt8.toNat (@List.getD UInt8 x5 (@Int.toNat (1 : Int)) (0 : UInt8)))) (fun y15 => (@wq24 k R (@Array.toList UInt8 (@ByteArray.data (@ByteArray.mk (@List.toArray UInt8 ((48 : UInt8) :: ((49 : UInt8) :: ((50 : UInt8) :: ((51 : UInt8) :: ((52 : UInt8) :: ((53 : UInt8) :: ((54 : UInt8) :: ((55 : UInt8) :: ((56 : UInt8) :: ((57 : UInt8) :: ((97 : UInt8) :: ((98 : UInt8) :: ((99 : UInt8) :: ((100 : UInt8) :: ((101 : UInt8) :: ((102 : UInt8) :: [])))))))))))))))))))) (@Nat.cast Int instNatCastInt (@UInt8.toNat (@List.getD UInt8 x5 (@Int.toNat (2 : Int)) (0 : UInt8)))) (fun y16 => (@cond (@Option R) (@cond (@Kd.T Kd.bool) (@Decidable.decide (@LT.lt Int Int.instLTInt y15 (0 : Int)) (@Int.decLt y15 (0 : Int))) Bool.true (@Decidable.decide (@LT.lt Int Int.instLTInt y16 (0 : Int)) (@Int.decLt y16 (0 : Int)))) (@wqc k R y10 y11 y12 y13 y14 (3 : Int) (fun y17 y18 y19 y20 y21 => (K y17 y18 y19 y20 y21 (@Go.IntKind.wrap Go.IntKind.u8 (@Go.IntKind.wrap Go.IntKind.i64 (@HAdd.hAdd Int Int Int (@instHAdd Int @Int.instAdd) (@Go.IntKind.wrap Go.IntKind.i64 (@HMul.hMul Int Int Int (@instHMul Int @Int.instMul) (16 : Int) y15)) y16))) (3 : Int))) (fun y17 y18 y19 y20 y21 y22 y23 => (E y17 y18 y19 y20 y21 y22 y23))) (K y10 y11 y12 y13 y14 (@Go.IntKind.wrap Go.IntKind.u8 (@Go.IntKind.wrap Go.IntKind.i64 (@HAdd.hAdd Int Int Int (@instHAdd Int @Int.instAdd) (@Go.IntKind.wrap Go.IntKind.i64 (@HMul.hMul Int Int Int (@instHMul Int @Int.instMul) (16 : Int) y15)) y16))) (3 : Int))))))) (@Option.none R)) (@Option.none R))) (@wqc k R y10 y11 y12 y13 y14 (3 : Int) (fun y15 y16 y17 y18 y19 => (K y15 y16 y17 y18 y19 (0 : Int) (0 : Int))) (fun y15 y16 y17 y18 y19 y20 y21 => (E y15 y16 y17 y18 y19 y20 y21)))))))) (@Option.none R))) (fun y10 y11 y12 y13 y14 y15 y16 => (E y10 y11 y12 y13 y14 y15 y16))) (@cond (@Option R) (@inb (0 : Int) (@Nat.cast Int instNatCastInt (@List.length UInt8 x5))) (@cond (@Option R) (@BEq.beq Int (@instBEqOfDecidableEq Int @Int.instDecidableEq) (@Nat.cast Int instNatCastInt (@UInt8.toNat (@List.getD UInt8 x5 (@Int.toNat (0 : Int)) (0 : UInt8)))) (92 : Int)) (@cond (@Option R) (@inb (0 : Int) (@Nat.cast Int instNatCastInt (@List.length UInt8 x5))) (K x0 x1 x2 x3 x4 (@Nat.cast Int instNatCastInt (@UInt8.toNat (@List.getD UInt8 x5 (@Int.toNat (0 : Int)) (0 : UInt8)))) (1 : Int)) (@Option.none R)) (@cond (@Option R) (@BEq.beq Int (@instBEqOfDecidableEq Int @Int.instDecidableEq) (@Nat.cast Int instNatCastInt (@UInt8.toNat (@List.getD UInt8 x5 (@Int.toNat (0 : Int)) (0 : UInt8)))) (34 : Int)) (@cond (@Option R) (@inb (0 : Int) (@Nat.cast Int instNatCastInt (@List.length UInt8 x5))) (K x0 x1 x2 x3 x4 (@Nat.cast Int instNatCastInt (@UInt8.toNat (@List.getD UInt8 x5 (@Int.toNat (0 : Int)) (0 : UInt8)))) (1 : Int)) (@Option.none R)) (@cond (@Option R) (@BEq.beq Int (@instBEqOfDecidableEq Int @Int.instDecidableEq) (@Nat.cast Int instNatCastInt (@UInt8.toNat (@List.getD UInt8 x5 (@Int.toNat (0 : Int)) (0 : UInt8)))) (110 : Int)) (K x0 x1 x2 x3 x4 (10 : Int) (1 : Int)) (@cond (@Option R) (@BEq.beq Int (@instBEqOfDecidableEq Int @Int.instDecidableEq) (@Nat.cast Int instNatCastInt (@UInt8.toNat (@List.getD UInt8 x5 (@Int.toNat (0 : Int)) (0 : UInt8)))) (116 : Int)) (K x0 x1 x2 x3 x4 (9 : Int) (1 : Int)) (@cond (@Option R) (@BEq.beq Int (@instBEqOfDecidableEq Int @Int.instDecidableEq) (@Nat.cast Int instNatCastInt (@UInt8.toNat (@List.getD UInt8 x5 (@Int.toNat (0 : Int)) (0 : UInt8)))) (120 : Int)) (@cond (@Option R) (@Decidable.decide (@LT.lt Int Int.instLTInt (@Nat.cast Int instNatCastInt (@List.length UInt8 x5)) (3 : Int)) (@Int.decLt (@Nat.cast Int instNatCastInt (@List.length UInt8 x5)) (3 : Int))) (@wqc k R x0 x1 x2 x3 x4 (3 : Int) (fun y10 y11 y12 y13 y14 => (@cond (@Option R) (@inb (1 : Int) (@Nat.cast Int instNatCastInt (@List.length UInt8 x5))) (@cond (@Option R) (@inb (2 : Int) (@Nat.cast Int instNatCastInt (@List.length UInt8 x5))) (@wq24 k R (@Array.toList UInt8 (@ByteArray.data (@ByteArray.mk (@List.toArray UInt8 ((48 : UInt8) :: ((49 : UInt8) :: ((50 : UInt8) :: ((51 : UInt8) :: ((52 : UInt8) :: ((53 : UInt8) :: ((54 : UInt8) :: ((55 : UInt8) :: ((56 : UInt8) :: ((57 : UInt8) :: ((97 : UInt8) :: ((98 : UInt8) :: ((99 : UInt8) :: ((100 : UInt8) :: ((101 : UInt8) :: ((102 : UInt8) :: [])))))))))))))))))))) (@Nat.cast Int instNatCastInt (@UInt8.toNat (@List.getD UInt8 x5 (@Int.toNat (1 : Int)) (0 : UInt8)))) (fun y15 => (@wq24 k R (@Array.toList UInt8 (@ByteArray.data (@ByteArray.mk (@List.toArray UInt8 ((48 : UInt8) :: ((49 : UInt8) :: ((50 : UInt8) :: ((51 : UInt8) :: ((52 : UInt8) :: ((53 : UInt8) :: ((54 : UInt8) :: ((55 : UInt8) :: ((56 : UInt8) :: ((57 : UInt8) :: ((97 : UInt8) :: ((98 : UInt8) :: ((99 : UInt8) :: ((100 : UInt8) :: ((101 : UInt8) :: ((102 : UInt8) :: [])))))))))))))))))))) (@Nat.cast Int instNatCastInt (@UInt8.toNat (@List.getD UInt8 x5 (@Int.toNat (2 : Int)) (0 : UInt8)))) (fun y16 => (@cond (@Option R) (@cond (@Kd.T Kd.bool) (@Decidable.decide (@LT.lt Int Int.instLTInt y15 (0 : Int)) (@Int.decLt y15 (0 : Int))) Bool.true (@Decidable.decide (@LT.lt Int Int.instLTInt y16 (0 : Int)) (@Int.decLt y16 (0 : Int)))) (@wqc k R y10 y11 y12 y13 y14 (3 : Int) (fun y17 y18 y19 y20 y21 => (K y17 y18 y19 y20 y21 (@Go.IntKind.wrap Go.IntKind.u8 (@Go.IntKind.wrap Go.IntKind.i64 (@HAdd.hAdd Int Int Int (@instHAdd Int @Int.instAdd) (@Go.IntKind.wrap Go.IntKind.i64 (@HMul.hMul Int Int Int (@instHMul Int @Int.instMul) (16 : Int) y15)) y16))) (3 : Int))) (fun y17 y18 y19 y20 y21 y22 y23 => (E y17 y18 y19 y20 y21 y22 y23))) (K y10 y11 y12 y13 y14 (@Go.IntKind.wrap Go.IntKind.u8 (@Go.IntKind.wrap Go.IntKind.i64 (@HAdd.hAdd Int Int Int (@instHAdd Int @Int.instAdd) (@Go.IntKind.wrap Go.IntKind.i64 (@HMul.hMul Int Int Int (@instHMul Int @Int.instMul) (16 : Int) y15)) y16))) (3 : Int))))))) (@Option.none R)) (@Option.none R))) (fun y10 y11 y12 y13 y14 y15 y16 => (E y10 y11 y12 y13 y14 y15 y16))) (@cond (@Option R) (@inb (1 : Int) (@Nat.cast Int instNatCastInt (@List.length UInt8 x5))) (@cond (@Option R) (@inb (2 : Int) (@Nat.cast Int instNatCastInt (@List.length UInt8 x5))) (@wq24 k R (@Array.toList UInt8 (@ByteArray.data (@ByteArray.mk (@List.toArray UInt8 ((48 : UInt8) :: ((49 : UInt8) :: ((50 : UInt8) :: ((51 : UInt8) :: ((52 : UInt8) :: ((53 : UInt8) :: ((54 : UInt8) :: ((55 : UInt8) :: ((56 : UInt8) :: ((57 : UInt8) :: ((97 : UInt8) :: ((98 : UInt8) :: ((99 : UInt8) :: ((100 : UInt8) :: ((101 : UInt8) :: ((102 : UInt8) :: [])))))))))))))))))))) (@Nat.cast Int instNatCastInt (@UInt8.toNat (@List.getD UInt8 x5 (@Int.toNat (1 : Int)) (0 : UInt8)))) (fun y10 => (@wq24 k R (@Array.toList UInt8 (@ByteArray.data (@ByteArray.mk (@List.toArray UInt8 ((48 : UInt8) :: ((49 : UInt8) :: ((50 : UInt8) :: ((51 : UInt8) :: ((52 : UInt8) :: ((53 : UInt8) :: ((54 : UInt8) :: ((55 : UInt8) :: ((56 : UInt8) :: ((57 : UInt8) :: ((97 : UInt8) :: ((98 : UInt8) :: ((99 : UInt8) :: ((100 : UInt8) :: ((101 : UInt8) :: ((102 : UInt8) :: [])))))))))))))))))))) (@Nat.cast Int instNatCastInt (@UInt8.toNat (@List.getD UInt8 x5 (@Int.toNat (2 : Int)) (0 : UInt8)))) (fun y11 => (@cond (@Option R) (@cond (@Kd.T Kd.bool) (@Decidable.decide (@LT.lt Int Int.instLTInt y10 (0 : Int)) (@Int.decLt y10 (0 : Int))) Bool.true (@Decidable.decide (@LT.lt Int Int.instLTInt y11 (0 : Int)) (@Int.decLt y11 (0 : Int)))) (@wqc k R x0 x1 x2 x3 x4 (3 : Int) (fun y12 y13 y14 y15 y16 => (K y12 y13 y14 y15 y16 (@Go.IntKind.wrap Go.IntKind.u8 (@Go.IntKind.wrap Go.IntKind.i64 (@HAdd.hAdd Int Int Int (@instHAdd Int @Int.instAdd) (@Go.IntKind.wrap Go.IntKind.i64 (@HMul.hMul Int Int Int (@instHMul Int @Int.instMul) (16 : Int) y10)) y11))) (3 : Int))) (fun y12 y13 y14 y15 y16 y17 y18 => (E y12 y13 y14 y15 y16 y17 y18))) (K x0 x1 x2 x3 x4 (@Go.IntKind.wrap Go.IntKind.u8 (@Go.IntKind.wrap Go.IntKind.i64 (@HAdd.hAdd Int Int Int (@instHAdd Int @Int.instAdd) (@Go.IntKind.wrap Go.IntKind.i64 (@HMul.hMul Int Int Int (@instHMul Int @Int.instMul) (16 : Int) y10)) y11))) (3 : Int))))))) (@Option.none R)) (@Option.none R))) (@wqc k R x0 x1 x2 x3 x4 (3 : Int) (fun y10 y11 y12 y13 y14 => (K y10 y11 y12 y13 y14 (0 : Int) (0 : Int))) (fun y10 y11 y12 y13 y14 y15 y16 => (E y10 y11 y12 y13 y14 y15 y16)))))))) (@Option.none R)))
theorem wqp6 (k : Nat) {R : Type} (I : Nat → St → Option R) (x0 x1 : Int) (x2 : (List UInt8)) (x3 : Int) (x4 : (List (Int × (Int × (Int × ((List UInt8) × Bool)))))) (x5 : (List UInt8)) (K : (Int → Int → (List UInt8) → Int → (List (Int × (Int × (Int × ((List UInt8) × Bool))))) → Int → Int → Option R)) (E : (Int → Int → (List UInt8) → Int → (List (Int × (Int × (Int × ((List UInt8) × Bool))))) → Int → Int → Option R)) : fnK (wqci k) k wqam 51 [.tmp 4, .tmp 5] wqhp [.ptr 1 0, .v .str x5] [(21, .row 97 (.pr (.int .i64) (.pr (.int .i64) (.pr (.int .i64) (.pr .str .bool)))) x4), (1, .var 151 [.v (.int .i64) x0, .v (.int .i64) x1, .v .str x2, .v (.int .i64) x3, .row 21])] (wqal K E) = wqdn k  x0 x1 x2 x3 x4 x5 K E := by kernel_rfl
noncomputable def wq82 (k : Nat) {R : Type} (x0 x1 : Int) (x2 : (List UInt8)) (x3 : Int) (x4 : (List (Int × (Int × (Int × ((List UInt8) × Bool)))))) (x5 : (List UInt8)) (K : (Int → Int → (List UInt8) → Int → (List (Int × (Int × (Int × ((List UInt8) × Bool))))) → Int → Int → Option R)) (E : (Int → Int → (List UInt8) → Int → (List (Int × (Int × (Int × ((List UInt8) × Bool))))) → Int → Int → Option R)) : Option R := wqdn k  x0 x1 x2 x3 x4 x5 K E
theorem wqp7 (k : Nat) {R : Type} (x0 x1 : Int) (x2 : (List UInt8)) (x3 : Int) (x4 : (List (Int × (Int × (Int × ((List UInt8) × Bool)))))) (x5 : (List UInt8)) (K : (Int → Int → (List UInt8) → Int → (List (Int × (Int × (Int × ((List UInt8) × Bool))))) → Int → Int → Option R)) (E : (Int → Int → (List UInt8) → Int → (List (Int × (Int × (Int × ((List UInt8) × Bool))))) → Int → Int → Option R)) : fnK (wqci k) k wqam 51 [.tmp 4, .tmp 5] wqhp [.ptr 1 0, .v .str x5] [(21, .row 97 (.pr (.int .i64) (.pr (.int .i64) (.pr (.int .i64) (.pr .str .bool)))) x4), (1, .var 151 [.v (.int .i64) x0, .v (.int .i64) x1, .v .str x2, .v (.int .i64) x3, .row 21])] (wqal K E) = wq82 k x0 x1 x2 x3 x4 x5 K E := by
  exact wqp6 k (fun _ _ => none) x0 x1 x2 x3 x4 x5 K E
noncomputable def wqbh (k : Nat) {R : Type} : List PV → List (Nm × HObj) → (Out → Option R) → Option R
  | [.ptr 1 0, .v .str x5], [(21, .row 97 (.pr (.int .i64) (.pr (.int .i64) (.pr (.int .i64) (.pr .str .bool)))) x4), (1, .var 151 [.v (.int .i64) x0, .v (.int .i64) x1, .v .str x2, .v (.int .i64) x3, .row 21])], K => wq82 k x0 x1 x2 x3 x4 x5 (fun y0 y1 y2 y3 y4 y5 y6 => K (.ret [.v (.int .u8) y5, .v (.int .i64) y6] [(21, .row 97 (.pr (.int .i64) (.pr (.int .i64) (.pr (.int .i64) (.pr .str .bool)))) y4), (1, .var 151 [.v (.int .i64) y0, .v (.int .i64) y1, .v .str y2, .v (.int .i64) y3, .row 21])])) (fun z0 z1 z2 z3 z4 z5 z6 => K (.pan (.ifc 28 (.agg [.v (.int .i64) z5, .v (.int .i64) z6])) [(21, .row 97 (.pr (.int .i64) (.pr (.int .i64) (.pr (.int .i64) (.pr .str .bool)))) z4), (1, .var 151 [.v (.int .i64) z0, .v (.int .i64) z1, .v .str z2, .v (.int .i64) z3, .row 21])]))
  | _, _, _ => none
theorem wqp8 (k : Nat) : (wqjg k).Ok Tryz.prog := (CTab.add_ok (fun h => wq81 k h) (CTab.add_ok (fun h => wqg0 k h) CTab.nil_ok))
theorem wqtn (k : Nat) {ps : List PV} {hp : List (Nm × HObj)} {R : Type} {K : Out → Option R} {r : R} (h : wqbh k ps hp K = some r) : DoesTo Tryz.prog 178 ps hp fun out => K out = some r := by
  unfold wqbh at h
  split at h
  · rw [← wqp7] at h
    have := fn_ok (P := Tryz.prog) (cx := wqci k) (f := 178) ⟨tyT_ok, wqp8 k, fun _ _ => rfl⟩ (by kernel_rfl) (fn := Tryz.f178) (c := wqam) (by kernel_rfl) (by kernel_rfl) (by kernel_rfl) (rs := [.tmp 4, .tmp 5]) (by kernel_rfl) (by kernel_rfl) h
    exact this.mono fun out ho => by
      unfold wqal at ho
      split at ho <;> first | exact ho | cases ho
  · cases h
end Go.Proofs.YtpfbdepoammjmaaGreatDoor.Pvm

set_option maxHeartbeats 2000000
set_option maxRecDepth 100000
namespace Go.Proofs.YtpfbdepoammjmaaGreatDoor.Pvm
open Go Go.Proofs Go.RowKit
theorem wq14t (b g cap : Nat) (p : Value) (l : List UInt8) (cur : Array Value) (w : World) (hbk : w.heap[b]? = some (.cells #[p, .slice (some ⟨g, 0, none⟩) l.length cap] 85 (0, 0))) (h0 : l ≠ [])
    (hg : w.heap[g]? = some (.cells cur 5 (0, 0))) (hnc : l.length ≤ cap) (hcm : cap ≤ maxLen) (hcs : cur.size = cap) (htake : ∀ (j : Nat) (x : UInt8), l[j]? = some x → w.cell? ⟨g, j, none⟩ = some (.int .u8 x.toNat)) :
    Calls Tryz.prog 40 #[.pointer (some ⟨b, 0, none⟩)] w fun e w' => e = .returned (.string ⟨l.toArray⟩) ∧ w' = w.drew.freeze ⟨g, 0, none⟩ l.length := by
  have hl0 : l.length ≠ 0 := by simpa using h0
  have mixed : Tryz.prog.follows .mixedOrders = true := by kernel_rfl
  have t86 : Tryz.prog.underlying 135 = some (.pointer 5) := by kernel_rfl
  have c1 : w.drew.cell? ⟨b, 1, none⟩ = some (.slice (some ⟨g, 0, none⟩) l.length cap) := by
    have : w.drew.heap[b]? = some (.cells #[p, .slice (some ⟨g, 0, none⟩) l.length cap] 85 (0, 0)) := hbk
    rw [Lib.cell_of_heap this]; rfl
  have hSD : (Builtin.unsafeSliceData_ #[22] 135 #[.slice (some ⟨g, 0, none⟩) l.length cap]).run Tryz.prog w.drew = .ok (.pointer (some ⟨g, 0, none⟩)) w.drew :=
    Lib.run_unsafeSliceData_row _ _ _ _ _ _ (by omega)
  have hUS : (Builtin.unsafeString_ #[135, 3] 9 #[.pointer (some ⟨g, 0, none⟩), .int .i64 l.length]).run Tryz.prog w.drew = .ok (.string ⟨l.toArray⟩) (w.drew.freeze ⟨g, 0, none⟩ l.length) := by
    refine Lib.run_unsafeString_row w.drew 135 3 9 5 t86 (by kernel_rfl) g cur.size (by have hg' : w.drew.heap[g]? = some (.cells cur 5 (0, 0)) := hg; simp [World.shape?, hg']) l h0 (by omega) (by unfold maxLen at hcm; omega) ?_
    intro j x hx
    have := htake j x hx
    rw [show (⟨g, 0, none⟩ : Addr).add j = ⟨g, j, none⟩ by simp [Addr.add]; omega]
    exact this
  go_enter Tryz.func40, Tryz.ntmps40
  go_wp2
  go_region_o
  all_goals (go_wp2; go_ret; exact ⟨rfl, rfl⟩)
end Go.Proofs.YtpfbdepoammjmaaGreatDoor.Pvm

set_option maxHeartbeats 2000000
set_option maxRecDepth 100000
namespace Go.Proofs.YtpfbdepoammjmaaGreatDoor.Pvm
open Go Go.Proofs Go.RowKit
theorem uS_none (W : World) (q : Option Addr) : (Builtin.unsafeString_ #[135, 3] 9 #[.pointer q, .int .i64 0]).run Tryz.prog W = .ok (.string .empty) W :=
  Lib.run_unsafeString_none W _ _ _ q
theorem wq17q (b : Nat) (p : Value) (w : World) (hbk : w.heap[b]? = some (.cells #[p, .slice none 0 0] 85 (0, 0))) :
    Calls Tryz.prog 40 #[.pointer (some ⟨b, 0, none⟩)] w fun e w' => e = .returned (.string ⟨#[]⟩) ∧ w' = w.drew := by
  have hUS := uS_none
  have mixed : Tryz.prog.follows .mixedOrders = true := by kernel_rfl
  have c1 : w.drew.cell? ⟨b, 1, none⟩ = some (.slice none 0 0) := by
    have : w.drew.heap[b]? = some (.cells #[p, .slice none 0 0] 85 (0, 0)) := hbk
    rw [Lib.cell_of_heap this]; rfl
  have hSD : (Builtin.unsafeSliceData_ #[22] 135 #[.slice none 0 0]).run Tryz.prog w.drew = .ok (.pointer none) w.drew := rfl
  go_enter Tryz.func40, Tryz.ntmps40
  go_wp2
  go_region_o
  all_goals (go_wp2; go_ret; exact ⟨rfl, rfl⟩)
theorem wq16w (b g cap : Nat) (p : Value) (w : World) (hc0 : cap ≠ 0) (hbk : w.heap[b]? = some (.cells #[p, .slice (some ⟨g, 0, none⟩) 0 cap] 85 (0, 0))) :
    Calls Tryz.prog 40 #[.pointer (some ⟨b, 0, none⟩)] w fun e w' => e = .returned (.string ⟨#[]⟩) ∧ w' = w.drew := by
  have hUS := uS_none
  have mixed : Tryz.prog.follows .mixedOrders = true := by kernel_rfl
  have c1 : w.drew.cell? ⟨b, 1, none⟩ = some (.slice (some ⟨g, 0, none⟩) 0 cap) := by
    have : w.drew.heap[b]? = some (.cells #[p, .slice (some ⟨g, 0, none⟩) 0 cap] 85 (0, 0)) := hbk
    rw [Lib.cell_of_heap this]; rfl
  have hSD : (Builtin.unsafeSliceData_ #[22] 135 #[.slice (some ⟨g, 0, none⟩) 0 cap]).run Tryz.prog w.drew = .ok (.pointer (some ⟨g, 0, none⟩)) w.drew :=
    Lib.run_unsafeSliceData_row _ _ _ _ _ _ hc0
  clear hc0
  go_enter Tryz.func40, Tryz.ntmps40
  go_wp2
  go_region_o
  all_goals (go_wp2; go_ret; exact ⟨rfl, rfl⟩)
end Go.Proofs.YtpfbdepoammjmaaGreatDoor.Pvm

set_option maxHeartbeats 2000000
set_option maxRecDepth 100000
namespace Go.Proofs.YtpfbdepoammjmaaGreatDoor.Pvm
open Go Go.Proofs Go.RowKit
theorem wq13d (b g : Nat) (p : Value) (cur : Array Value) (w : World) (hbk : w.heap[b]? = some (.cells #[p, .slice (some ⟨g, 0, none⟩) 0 0] 85 (0, 0))) (hg : w.heap[g]? = some (.cells cur 5 (0, 0))) :
    Calls Tryz.prog 40 #[.pointer (some ⟨b, 0, none⟩)] w fun e w' => e = .returned (.string ⟨#[]⟩) ∧ ∃ o, w' = (w.alloc o).drew := by
  have hUS := uS_none
  have hlt : b < w.heap.size := (Array.getElem?_eq_some_iff.1 hbk).1
  have mixed : Tryz.prog.follows .mixedOrders = true := by kernel_rfl
  have c1 : w.drew.cell? ⟨b, 1, none⟩ = some (.slice (some ⟨g, 0, none⟩) 0 0) := by
    have : w.drew.heap[b]? = some (.cells #[p, .slice (some ⟨g, 0, none⟩) 0 0] 85 (0, 0)) := hbk
    rw [Lib.cell_of_heap this]; rfl
  have hSD : (Builtin.unsafeSliceData_ #[22] 135 #[.slice (some ⟨g, 0, none⟩) 0 0]).run Tryz.prog w.drew = .ok (.pointer (some ⟨w.drew.heap.size, 0, none⟩)) (w.drew.alloc (.view ⟨g, 0, none⟩ 5)) :=
    Lib.run_unsafeSliceData_zero w.drew _ _ 5 (by kernel_rfl) ⟨g, 0, none⟩ 0 (5, cur.size) (by have hg' : w.drew.heap[g]? = some (.cells cur 5 (0, 0)) := hg; simp [World.shape?, hg'])
  have c2 : (w.drew.alloc (.view ⟨g, 0, none⟩ 5)).cell? ⟨b, 1, none⟩ = some (.slice (some ⟨g, 0, none⟩) 0 0) := by
    have : (w.drew.alloc (.view ⟨g, 0, none⟩ 5)).heap[b]? = _ := (Lib.alloc_old w.drew _ b hlt).trans hbk
    rw [Lib.cell_of_heap this]; rfl
  have c3 : (w.alloc (.view ⟨g, 0, none⟩ 5)).drew.cell? ⟨b, 1, none⟩ = some (.slice (some ⟨g, 0, none⟩) 0 0) := c2
  have c0 : w.cell? ⟨b, 1, none⟩ = some (.slice (some ⟨g, 0, none⟩) 0 0) := c1
  go_enter Tryz.func40, Tryz.ntmps40
  go_wp2
  go_region_o
  all_goals (go_wp2; go_ret; exact ⟨rfl, _, rfl⟩)
def allB : List Int → Bool
  | [] => true
  | x :: r => decide (0 ≤ x) && decide (x < 256) && allB r
def wq9r : List LS := [.obj 1 [.nps 1, .own 21 5 (.int .u8)]]
def wq3g (k : Nat) {R : Type} (x0 : List Int) (K : List Int → List UInt8 → Option R) : Option R := bif allB x0 then K x0 (ofBytes x0) else none
def wq58 (k : Nat) {R : Type} : List PV → List (Nm × HObj) → (Out → Option R) → Option R
  | [.ptr 1 0], [(21, .row 5 (.int .u8) x0), (1, .var 85 [.nps 1, .row 21])], K => wq3g k x0 (fun y0 y1 => K (.ret [.v .str y1] [(1, .var 85 [.nps 1, .v (.sl (.int .u8)) y0])]))
  | _, _, _ => none
theorem wqd2 (vs : Array Value) (w : World) : (callFunc 40 vs).run Tryz.prog w = .ok (.enter 40 vs) w := by
  have h1 : Tryz.prog.funcs[40]? = some Tryz.f40 := by kernel_rfl
  have h2 : (Tryz.f40.name == "runtime.NumGoroutine") = false := by kernel_rfl
  have h3 : Tryz.f40.body.isNone = false := by kernel_rfl
  unfold callFunc
  rw [Sem.run_bind]
  have e2 : (program).run Tryz.prog w = .ok Tryz.prog w := rfl
  rw [e2, Result.andThen_ok, h1]
  simp only [h2, h3, Bool.false_eq_true, if_false]
  rfl
theorem allB_at : ∀ {l : List Int}, allB l = true → ∀ (i : Nat) (y : Int), l[i]? = some y → 0 ≤ y ∧ y < 256
  | [], _, i, y, h => by simp at h
  | x :: r, hb, 0, y, h => by
    simp only [allB, Bool.and_eq_true, decide_eq_true_eq] at hb
    simp at h; subst h; exact hb.1
  | x :: r, hb, i + 1, y, h => by
    simp only [allB, Bool.and_eq_true] at hb
    exact allB_at hb.2 i y (by simpa using h)
theorem wq14u {G : Gh} {w w' : World} {x0 : List Int} {HP : List (Nm × HObj)} (hHP : HP = [(21, .row 5 (.int .u8) x0), (1, .var 85 [.nps 1, .row 21])])
    (obj : ∀ n o, mkH HP n = some o → RO (mkH HP) G w n o) (dis : Dis (mkH HP) G w) (hblk : ∀ b, b < w.heap.size → (∀ g, (G.rv 21).ownBlock = some g → b ≠ g) → w'.heap[b]? = w.heap[b]?)
    (hcell : ∀ g o, (G.rv 21).ownBlock = some g → w'.cell? ⟨g, o, none⟩ = w.cell? ⟨g, o, none⟩) (grow : w.heap.size ≤ w'.heap.size) (os : w'.os = w.os) (tape : w'.tape = w.tape) (out : w'.output = w.output) :
    Fin HP [(1, .var 85 [.nps 1, .v (.sl (.int .u8)) x0])] G w G w' := by
  have l1 : mkH HP 1 = some (.var 85 [.nps 1, .row 21]) := by subst hHP; rfl
  have l2 : mkH HP 21 = some (.row 5 (.int .u8) x0) := by subst hHP; rfl
  generalize hHS : [((1 : Nm), HObj.var 85 [.nps 1, .v (.sl (.int .u8)) x0])] = HS
  have m1 : mkH HS 1 = some (.var 85 [.nps 1, .v (.sl (.int .u8)) x0]) := by subst hHS; rfl
  have mo : ∀ n o, mkH HS n = some o → n = 1 := by
    intro n o h
    subst hHS
    simp only [mkH, look] at h
    cases hb : Nat.beq 1 n with
    | true => exact (Nat.eq_of_beq_eq_true hb).symm
    | false => rw [hb] at h; cases h
  have bk1 : blkOf (mkH HP) G 1 = some (G.bk 1) := by simp [blkOf, l1]
  have bk2 : blkOf (mkH HP) G 21 = (G.rv 21).ownBlock := by simp [blkOf, l2]
  have ck1 : blkOf (mkH HS) G 1 = some (G.bk 1) := by simp [blkOf, m1]
  have ck : ∀ n b, blkOf (mkH HS) G n = some b → n = 1 ∧ b = G.bk 1 := by
    intro n b h
    cases hn : mkH HS n with
    | none => simp [blkOf, hn] at h
    | some o => have := mo n o hn; subst this; rw [ck1] at h; cases h; exact ⟨rfl, rfl⟩
  have hne : ∀ g, (G.rv 21).ownBlock = some g → G.bk 1 ≠ g := fun g hg e => by
    have := dis.inj 1 21 g (by rw [bk1, e]) (by rw [bk2, hg])
    cases this
  obtain ⟨vs, hw, q1, t1, rfl, hq1, q2, t2, rfl, hq2, rfl⟩ := obj 1 _ l1
  obtain ⟨rfl, _⟩ := hq2
  have hlt : G.bk 1 < w.heap.size := (Array.getElem?_eq_some_iff.1 hw).1
  have hw' : w'.heap[G.bk 1]? = some (.cells [q1, G.rv 21].toArray 85 (0, 0)) := by rw [hblk _ hlt hne]; exact hw
  have hdat : RD w' (okB (mkH HS) G) (.sl (.int .u8)) x0 [G.rv 21] := by
    have hro := obj 21 _ l2
    obtain ⟨us, hown, hr, _⟩ := hro
    rcases hown.2 with ⟨hv, hn⟩ | ⟨g, cap, cur, hv, _, hgb, hnc, hcm, hcs, _⟩
    · exact ⟨none, 0, by rw [hv, hn], by omega, .inl (List.eq_nil_of_length_eq_zero hn)⟩
    · have hgo : (G.rv 21).ownBlock = some g := by rw [hv]; rfl
      refine ⟨_, cap, by rw [hv], hnc, .inr ⟨_, rfl, ?_, ?_, ?_⟩⟩
      · refine ⟨fun n hn => ?_, fun hx => dis.xo 21 g (by rw [bk2, hgo]) hx⟩
        obtain ⟨_, e⟩ := ck n g hn
        exact hne g hgo e.symm
      · have : g < w.heap.size := (Array.getElem?_eq_some_iff.1 hgb).1
        exact Nat.lt_of_lt_of_le this grow
      · intro i y hy
        obtain ⟨c, hc, hu⟩ := hr.get i y hy
        refine ⟨c, hc, fun j u hj => ?_⟩
        have := hown.cells hgo _ _ (hu j u hj)
        rw [Addr.add_lit] at this ⊢
        rw [hcell g _ hgo]
        exact this
  refine ⟨fun n o hn => ?_, fun n m b h1 h2 => (ck n b h1).1.trans (ck m b h2).1.symm, fun n t cs hn o ho => ?_, fun b hb hf => hblk b hb fun g hg e => hf 21 (by rw [bk2, hg, e]), rfl, fun n b hn => .inl ⟨1, by rw [(ck n b hn).2]; exact bk1⟩, grow, os, tape, out⟩
  · have := mo n o hn; subst this
    rw [m1] at hn; cases hn
    refine ⟨_, hw', _, _, rfl, ?_, _, _, rfl, hdat, rfl⟩
    rcases hq1 with h | ⟨h, _⟩
    · exact .inl h
    · exact .inr ⟨h, _, _, m1⟩
  · have e1 := mo n o ho
    subst e1
    have e2 : mkH HS 1 = some o := ho
    have e3 : mkH HP 1 = some (.var t cs) := hn
    rw [m1] at e2; rw [l1] at e3; cases e2; cases e3
    exact ⟨⟨_, rfl⟩, rfl⟩
theorem wqbi (k : Nat) {ps : List PV} {hp : List (Nm × HObj)} {R : Type} {K : Out → Option R} {r : R} (h : wq58 k ps hp K = some r) : DoesTo Tryz.prog 40 ps hp fun out => K out = some r := by
  unfold wq58 at h
  split at h
  · next x0 =>
    intro G w vals hr obj dis
    unfold wq3g at h
    cases hb : allB x0 with
    | false => rw [hb] at h; cases h
    | true =>
      rw [hb, cond_true] at h
      obtain ⟨v0, l0, rfl, h0, rfl⟩ := hr
      obtain ⟨rfl, _⟩ := h0
      generalize hHP : [(21, HObj.row 5 (.int .u8) x0), (1, .var 85 [.nps 1, .row 21])] = HP at *
      have l1 : mkH HP 1 = some (.var 85 [.nps 1, .row 21]) := by subst hHP; rfl
      have l2 : mkH HP 21 = some (.row 5 (.int .u8) x0) := by subst hHP; rfl
      show Does _ _ #[_] _ _
      unfold Does
      rw [wqd2]
      obtain ⟨vs, hw, q1, t1, rfl, hq1, q2, t2, rfl, hq2, rfl⟩ := obj 1 _ l1
      obtain ⟨rfl, _⟩ := hq2
      have hro := obj 21 _ l2
      obtain ⟨us, hown, hrd, _⟩ := hro
      have fin : ∀ {e : Ending} {w' : World}, e = .returned (.string ⟨(ofBytes x0).toArray⟩) → (∀ b, b < w.heap.size → (∀ g, (G.rv 21).ownBlock = some g → b ≠ g) → w'.heap[b]? = w.heap[b]?) → (∀ g o, (G.rv 21).ownBlock = some g → w'.cell? ⟨g, o, none⟩ = w.cell? ⟨g, o, none⟩) → w.heap.size ≤ w'.heap.size → w'.os = w.os → w'.tape = w.tape → w'.output = w.output →
          ∃ out, K out = some r ∧ ∃ G', OutIs G' w' e out ∧ Fin HP out.hs G w G' w' := by
        intro e w' he h1 h2 h3 h4 h5 h6
        exact ⟨_, h, G, ⟨_, he, rfl⟩, wq14u hHP.symm obj dis h1 h2 h3 h4 h5 h6⟩
      rcases hown.2 with ⟨hv, hn⟩ | ⟨g, cap, cur, hv, _, hgb, hnc, hcm, hcs, htk⟩
      · have hx : x0 = [] := List.eq_nil_of_length_eq_zero hn
        subst hx
        rw [hv] at hw
        refine Calls.mono (wq17q (G.bk 1) q1 w hw) fun e w' hh => ?_
        obtain ⟨rfl, rfl⟩ := hh
        exact fin rfl (fun _ _ _ => rfl) (fun _ _ _ => rfl) (Nat.le_refl _) rfl rfl rfl
      · have hgo : (G.rv 21).ownBlock = some g := by rw [hv]; rfl
        rw [hv] at hw
        by_cases hx : x0 = []
        · subst hx
          by_cases hc0 : cap = 0
          · subst hc0
            refine Calls.mono (wq13d (G.bk 1) g q1 cur w hw hgb) fun e w' hh => ?_
            obtain ⟨rfl, o, rfl⟩ := hh
            have hold : ∀ b, b < w.heap.size → (w.alloc o).drew.heap[b]? = w.heap[b]? := fun b hb => Lib.alloc_old w _ b hb
            refine fin rfl (fun b hb _ => hold b hb) (fun g' o' hg' => ?_) (by have := World.size_alloc w o; show _ ≤ (w.alloc o).heap.size; omega) rfl rfl rfl
            rw [hgo] at hg'; cases hg'
            exact World.cell?_of_block (hold g (Array.getElem?_eq_some_iff.1 hgb).1)
          · refine Calls.mono (wq16w (G.bk 1) g cap q1 w hc0 hw) fun e w' hh => ?_
            obtain ⟨rfl, rfl⟩ := hh
            exact fin rfl (fun _ _ _ => rfl) (fun _ _ _ => rfl) (Nat.le_refl _) rfl rfl rfl
        · have hlen : (ofBytes x0).length = x0.length := by simp [ofBytes]
          have hbytes : ∀ (j : Nat) (x : UInt8), (ofBytes x0)[j]? = some x → w.cell? ⟨g, j, none⟩ = some (.int .u8 x.toNat) := by
            intro j x hj
            have hjl : j < x0.length := by rw [← hlen]; exact (List.getElem?_eq_some_iff.1 hj).1
            have hy : x0[j]? = some x0[j] := by simp [hjl]
            obtain ⟨c, hc, hu⟩ := hrd.get j _ hy
            have hc : c = [.int .u8 x0[j]] := hc
            have h9 := hown.cells hgo _ _ (hu 0 (.int .u8 x0[j]) (by rw [hc]; rfl))
            rw [Addr.add_lit] at h9
            have hj2 : x = UInt8.ofNat (x0[j]).toNat := by
              simp only [ofBytes, List.getElem?_map, hy, Option.map_some, Option.some.injEq] at hj
              exact hj.symm
            obtain ⟨h10, h11⟩ := allB_at hb j _ hy
            have : ((x.toNat : Nat) : Int) = x0[j] := by
              rw [hj2, UInt8.toNat_ofNat']
              omega
            rw [this]
            have e0 : 0 + (j * Kd.sz (.int .u8) + 0) = j := by simp [Kd.sz]
            rw [e0] at h9
            exact h9
          rw [← hlen] at hw
          have hne : ofBytes x0 ≠ [] := by intro e; rw [e] at hlen; exact hx (List.eq_nil_of_length_eq_zero hlen.symm)
          refine Calls.mono (wq14t (G.bk 1) g cap q1 (ofBytes x0) cur w hw hne hgb (by omega) hcm (by simpa [Kd.sz] using hcs) hbytes) fun e w' hh => ?_
          obtain ⟨rfl, rfl⟩ := hh
          have hfz : ∀ b, b ≠ g → (w.drew.freeze ⟨g, 0, none⟩ (ofBytes x0).length).heap[b]? = w.heap[b]? := by
            intro b hb
            unfold World.freeze
            split
            · rfl
            · show (w.heap.modify g _)[b]? = _
              rw [Array.getElem?_modify, if_neg (Ne.symm hb)]
          refine fin rfl (fun b _ hb => hfz b (hb g hgo)) (fun g' o' hg' => ?_) ?_ ?_ ?_ ?_
          · rw [hgo] at hg'; cases hg'
            unfold World.freeze
            split
            · rfl
            · simp only [World.cell?, World.drew, Array.getElem?_modify, if_true, hgb, Option.map_some]
          all_goals
            unfold World.freeze
            split
            · first | rfl | exact Nat.le_refl _
            · first | rfl | (show w.heap.size ≤ (w.heap.modify g _).size; rw [Array.size_modify]; exact Nat.le_refl _)
  · cases h
end Go.Proofs.YtpfbdepoammjmaaGreatDoor.Pvm

set_option maxHeartbeats 1000000
set_option maxRecDepth 100000
namespace Go.Proofs.YtpfbdepoammjmaaGreatDoor.Pvm
open Go Go.Proofs Go.RowKit
theorem wq11g (b : Nat) (w : World) (h0 : w.cell? ⟨b, 0, none⟩ = some (.pointer (some ⟨b, 0, none⟩))) :
    Calls Tryz.prog 74 #[.pointer (some ⟨b, 0, none⟩)] w fun e w' => e = .returned (.tuple #[]) ∧ w' = w := by
  have t76 : Tryz.prog.underlying 83 = some (.pointer 85) := by kernel_rfl
  have hs : (Tryz.prog.info? 85).isSome = true := by kernel_rfl
  obtain ⟨j, hj⟩ := Option.isSome_iff_exists.1 hs
  go_enter Tryz.func74, Tryz.ntmps74
  go_wp2
  rw [Lib.run_neq_ptr_same w _ t76 hj]
  go_wp2
  go_end0
  exact ⟨rfl, rfl⟩
theorem wqyt (b : Nat) (w : World) (h0 : w.cell? ⟨b, 0, none⟩ = some (.pointer none)) (hsh : w.shape? b = some (85, 2)) (hfz : w.frozen? ⟨b, 0, none⟩ = false) :
    Calls Tryz.prog 74 #[.pointer (some ⟨b, 0, none⟩)] w fun e w' => e = .returned (.tuple #[]) ∧ w' = w.setCell ⟨b, 0, none⟩ (.pointer (some ⟨b, 0, none⟩)) := by
  have t76 : Tryz.prog.underlying 83 = some (.pointer 85) := by kernel_rfl
  have t89 : Tryz.prog.underlying 167 = some .unsafePointer := by kernel_rfl
  have hs : (Tryz.prog.info? 85).map (·.size) = some 2 := by kernel_rfl
  obtain ⟨j, hj, hjs⟩ := Option.map_eq_some_iff.1 hs
  have hlies : liesAt Tryz.prog Tryz.prog.depth 85 (2 / Tryz.prog.cellsOf 85) 0 85 1 = true := by kernel_rfl
  go_enter Tryz.func74, Tryz.ntmps74
  go_wp2
  rw [Lib.run_to_unsafe w ⟨b, 0, none⟩ t76 t89 hj (by rw [hjs]; decide) hsh (Nat.zero_lt_succ 1)]
  simp only [Result.andThen]
  rw [Oper.upon_value]
  go_wp2
  rw [run_callFunc_extern Tryz.func111 (by kernel_rfl) (by kernel_rfl) (by kernel_rfl) (e := Extern.AbiNoEscape.same) (by kernel_rfl)]
  rw [Lib.run_noEscape]
  simp only [Result.andThen]
  rw [Oper.upon_value]
  go_wp2
  rw [Lib.run_from_unsafe w ⟨b, 0, none⟩ t89 t76 hj hsh hlies]
  simp only [Result.andThen]
  rw [Oper.upon_value]
  go_wp2
  go_end0
  exact ⟨rfl, rfl⟩
end Go.Proofs.YtpfbdepoammjmaaGreatDoor.Pvm

set_option maxRecDepth 1000000
namespace Go.Proofs.YtpfbdepoammjmaaGreatDoor.Pvm
open Go Go.Proofs
def wqe8 : List LS := [.obj 1 [.nps 1, .own 21 5 (.int .u8)]]
def wq6i (k : Nat) {R : Type} (x0 : List Int) (K : List Int → Option R) : Option R := K x0
def wq5z (k : Nat) {R : Type} : List PV → List (Nm × HObj) → (Out → Option R) → Option R
  | [.ptr 1 0], [(21, .row 5 (.int .u8) x0), (1, .var 85 [.nps 1, .row 21])], K => wq6i k x0 (fun y0 => K (.ret [] [(21, .row 5 (.int .u8) y0), (1, .var 85 [.nps 1, .row 21])]))
  | _, _, _ => none
theorem wqbj (vs : Array Value) (w : World) : (callFunc 74 vs).run Tryz.prog w = .ok (.enter 74 vs) w := by
  have h1 : Tryz.prog.funcs[74]? = some Tryz.f74 := by kernel_rfl
  have h2 : (Tryz.f74.name == "runtime.NumGoroutine") = false := by kernel_rfl
  have h3 : Tryz.f74.body.isNone = false := by kernel_rfl
  unfold callFunc
  rw [Sem.run_bind]
  have e2 : (program).run Tryz.prog w = .ok Tryz.prog w := rfl
  rw [e2, Result.andThen_ok, h1]
  simp only [h2, h3, Bool.false_eq_true, if_false]
  rfl
theorem wqfm (k : Nat) {ps : List PV} {hp : List (Nm × HObj)} {R : Type} {K : Out → Option R} {r : R} (h : wq5z k ps hp K = some r) : DoesTo Tryz.prog 74 ps hp fun out => K out = some r := by
  unfold wq5z at h
  split at h
  · next x0 =>
    intro G w vals hr obj dis
    obtain ⟨v0, l0, rfl, h0, rfl⟩ := hr
    obtain ⟨rfl, _⟩ := h0
    generalize hHP : [(21, HObj.row 5 (.int .u8) x0), (1, .var 85 [.nps 1, .row 21])] = HP at *
    have hK : K (.ret [] HP) = some r := by subst hHP; exact h
    have l1 : mkH HP 1 = some (.var 85 [.nps 1, .row 21]) := by subst hHP; rfl
    have hob := obj 1 _ l1
    obtain ⟨vs, hw, q1, t1, rfl, hq1, q2, t2, rfl, hq2, rfl⟩ := hob
    show Does _ _ #[_] _ _
    unfold Does
    rw [wqbj]
    have hcell : w.cell? ⟨G.bk 1, 0, none⟩ = some q1 := by simp [World.cell?, hw]
    have hlt : G.bk 1 < w.heap.size := (Array.getElem?_eq_some_iff.1 hw).1
    rcases hq1 with rfl | ⟨rfl, _⟩
    · refine Calls.mono (wqyt (G.bk 1) w hcell (by simp [World.shape?, hw]) (by simp [World.frozen?, hw])) fun e w' hh => ?_
      obtain ⟨rfl, rfl⟩ := hh
      have oth : ∀ b, b ≠ G.bk 1 → (w.setCell ⟨G.bk 1, 0, none⟩ (.pointer (some ⟨G.bk 1, 0, none⟩))).heap[b]? = w.heap[b]? := fun b hb => Go.Deep.blk_setCell_other w _ _ b hb
      have bk1 : blkOf (mkH HP) G 1 = some (G.bk 1) := by simp [blkOf, l1]
      have C : Carry (mkH HP) G w (mkH HP) G (w.setCell ⟨G.bk 1, 0, none⟩ (.pointer (some ⟨G.bk 1, 0, none⟩))) .row :=
        ⟨fun b ho _ => ⟨ho, oth b fun e => ho.1 1 (by rw [bk1, e])⟩, fun n t cs hn => ⟨⟨cs, hn⟩, rfl⟩, fun n e K xs hn => ⟨⟨rfl, e, K, xs, hn⟩, fun m hm => by cases hm; exact ⟨e, xs, hn, Nat.le_refl _⟩⟩⟩
      have hq2' := RV.carry C _ _ hq2
      refine ⟨.ret [] HP, hK, G, ⟨_, rfl, ⟨[], rfl, rfl⟩⟩, ⟨fun n o hn => ?_, dis.inj, fun n t cs hn o ho => ?_, fun b hb hf => oth b fun e => hf 1 (by rw [bk1, e]), rfl, fun n b hb => .inl ⟨n, hb⟩, by simp [World.setCell], rfl, rfl, rfl⟩⟩
      · by_cases hn1 : n = 1
        · subst hn1
          rw [show mkH (Out.hs (.ret [] HP)) 1 = some (.var 85 [.nps 1, .row 21]) from l1] at hn
          cases hn
          refine ⟨[.pointer (some ⟨G.bk 1, 0, none⟩), q2], ?_, _, _, rfl, .inr ⟨rfl, 85, _, l1⟩, _, _, rfl, hq2', rfl⟩
          have hw2 := (Array.getElem?_eq_some_iff.1 hw).2
          simp only [World.setCell, Array.getElem?_modify, if_pos, hw]
          simp
        · have hne : ∀ b, blkOf (mkH HP) G n = some b → b ≠ G.bk 1 := fun b hb e => hn1 (dis.inj n 1 b hb (by rw [bk1, e]))
          have := RO.carry C hn (obj n o hn) (fun b hb => oth b (hne b hb)) rfl rfl
          rwa [mapO_row] at this
      · have e1 : look HP n = some o := ho
        rw [hn] at e1; cases e1
        exact ⟨⟨cs, rfl⟩, rfl⟩
    · refine Calls.mono (wq11g (G.bk 1) w hcell) fun e w' hh => ?_
      obtain ⟨rfl, rfl⟩ := hh
      refine ⟨.ret [] HP, hK, G, ⟨_, rfl, ⟨[], rfl, rfl⟩⟩, ⟨obj, dis.inj, fun n t cs hn o ho => ?_, fun _ _ _ => rfl, rfl, fun n b hb => .inl ⟨n, hb⟩, Nat.le_refl _, rfl, rfl, rfl⟩⟩
      have e1 : look HP n = some o := ho
      rw [hn] at e1; cases e1
      exact ⟨⟨cs, rfl⟩, rfl⟩
  · cases h
end Go.Proofs.YtpfbdepoammjmaaGreatDoor.Pvm

set_option maxRecDepth 1000000
set_option maxHeartbeats 0
namespace Go.Proofs.YtpfbdepoammjmaaGreatDoor.Pvm
open Go Go.Proofs
def wq8e : List LS := [.obj 1 [.nps 1, .own 21 5 (.int .u8)], .any]
noncomputable def wq99 (k : Nat) : CTab := (CTab.add 74 wqe8 (wq5z k) CTab.nil)
def wq5u {R : Type} (K : ((List Int) → Option R)) : Out → Option R
  | .ret [.nilif] [(21, .row 5 (.int .u8) y0), (1, .var 85 [.nps 1, .row 21])] => K y0
  | _ => none
def wq8n : RetSpec := ⟨[.any], [(1, .obj 1 [.nps 1, .own 21 5 (.int .u8)])], []⟩
def wqdo : List (Nat × CutSpec) := []
def wqd3 : List (Nat × Plan) := []
noncomputable def wq6c (k : Nat) : Ctx := ⟨tyT, wqdo, wq99 k, [], [1], wqd3, @SH⟩
noncomputable def wq5v : Code := Tryz.f177.body.getD .skip
noncomputable def wq6j (k : Nat) {R : Type}  (x0 : (List Int)) (x1 : Int) (K : ((List Int) → Option R)) : Option R := (@wq6i k R x0 (fun y5 => (@cond (@Option R) (@fits (@List.length (@Kd.T (@Kd.int Go.IntKind.u8)) y5) (@List.length (@Kd.T (@Kd.int Go.IntKind.u8)) (x1 :: [])) (1 : Nat)) (K (@HAppend.hAppend (@Kd.T (@Kd.sl (@Kd.int Go.IntKind.u8))) (@List (@Kd.T (@Kd.int Go.IntKind.u8))) (@Kd.T (@Kd.sl (@Kd.int Go.IntKind.u8))) (@instHAppendOfAppend (@Kd.T (@Kd.sl (@Kd.int Go.IntKind.u8))) (@List.instAppend (@Kd.T (@Kd.int Go.IntKind.u8)))) y5 (x1 :: []))) (@Option.none R))))
theorem wqdp (k : Nat) {R : Type} (I : Nat → St → Option R) (x0 : (List Int)) (x1 : Int) (K : ((List Int) → Option R)) : fnK (wq6c k) k wq5v 17 [.tmp 4] wq8n [.ptr 1 0, .v (.int .u8) x1] [(21, .row 5 (.int .u8) x0), (1, .var 85 [.nps 1, .row 21])] (wq5u K) = wq6j k  x0 x1 K := by kernel_rfl
noncomputable def wq1z (k : Nat) {R : Type} (x0 : (List Int)) (x1 : Int) (K : ((List Int) → Option R)) : Option R := wq6j k  x0 x1 K
theorem wqdq (k : Nat) {R : Type} (x0 : (List Int)) (x1 : Int) (K : ((List Int) → Option R)) : fnK (wq6c k) k wq5v 17 [.tmp 4] wq8n [.ptr 1 0, .v (.int .u8) x1] [(21, .row 5 (.int .u8) x0), (1, .var 85 [.nps 1, .row 21])] (wq5u K) = wq1z k x0 x1 K := by
  exact wqdp k (fun _ _ => none) x0 x1 K
noncomputable def wq49 (k : Nat) {R : Type} : List PV → List (Nm × HObj) → (Out → Option R) → Option R
  | [.ptr 1 0, .v (.int .u8) x1], [(21, .row 5 (.int .u8) x0), (1, .var 85 [.nps 1, .row 21])], K => wq1z k x0 x1 (fun y0 => K (.ret [.nilif] [(21, .row 5 (.int .u8) y0), (1, .var 85 [.nps 1, .row 21])]))
  | _, _, _ => none
theorem wqdr (k : Nat) : (wq99 k).Ok Tryz.prog := (CTab.add_ok (fun h => wqfm k h) CTab.nil_ok)
theorem wq9a (k : Nat) {ps : List PV} {hp : List (Nm × HObj)} {R : Type} {K : Out → Option R} {r : R} (h : wq49 k ps hp K = some r) : DoesTo Tryz.prog 177 ps hp fun out => K out = some r := by
  unfold wq49 at h
  split at h
  · rw [← wqdq] at h
    have := fn_ok (P := Tryz.prog) (cx := wq6c k) (f := 177) ⟨tyT_ok, wqdr k, fun _ _ => rfl⟩ (by kernel_rfl) (fn := Tryz.f177) (c := wq5v) (by kernel_rfl) (by kernel_rfl) (by kernel_rfl) (rs := [.tmp 4]) (by kernel_rfl) (by kernel_rfl) h
    exact this.mono fun out ho => by
      unfold wq5u at ho
      split at ho <;> first | exact ho | cases ho
  · cases h
end Go.Proofs.YtpfbdepoammjmaaGreatDoor.Pvm

set_option maxRecDepth 1000000
set_option maxHeartbeats 0
namespace Go.Proofs.YtpfbdepoammjmaaGreatDoor.Pvm
open Go Go.Proofs
abbrev wq3o (R : Type) : Type := (Int → Int → (List UInt8) → Int → (List (Int × (Int × (Int × ((List UInt8) × Bool))))) → (List UInt8) → Int → Option R)
abbrev wq3p (R : Type) : Type := (Int → Int → (List UInt8) → Int → (List (Int × (Int × (Int × ((List UInt8) × Bool))))) → Int → Int → Option R)
def wqp9 : List LS := [.obj 1 [.any, .any, .any, .any, .own 21 97 (.pr (.int .i64) (.pr (.int .i64) (.pr (.int .i64) (.pr .str .bool))))], .any]
noncomputable def wqhq (k : Nat) : CTab := (CTab.add 40 wq9r (wq58 k) (CTab.add 124 wq6u (wq4f k) (CTab.add 177 wq8e (wq49 k) (CTab.add 178 wqql (wqbh k) CTab.nil))))
def wq34 {R : Type} (K : wq3o R) (E : wq3p R) : Out → Option R
  | .ret [.v .str y5, .v (.int .i64) y6] [(21, .row 97 (.pr (.int .i64) (.pr (.int .i64) (.pr (.int .i64) (.pr .str .bool)))) y4), (1, .var 151 [.v (.int .i64) y0, .v (.int .i64) y1, .v .str y2, .v (.int .i64) y3, .row 21])] => K y0 y1 y2 y3 y4 y5 y6
  | .pan (.ifc 28 (.agg [.v (.int .i64) z5, .v (.int .i64) z6])) [(21, .row 97 (.pr (.int .i64) (.pr (.int .i64) (.pr (.int .i64) (.pr .str .bool)))) z4), (1, .var 151 [.v (.int .i64) z0, .v (.int .i64) z1, .v .str z2, .v (.int .i64) z3, .row 21])] => E z0 z1 z2 z3 z4 z5 z6
  | _ => none
def wq4h : RetSpec := ⟨[.any, .any], [(1, .obj 1 [.any, .any, .any, .any, .own 21 97 (.pr (.int .i64) (.pr (.int .i64) (.pr (.int .i64) (.pr .str .bool))))])], [(1, .obj 1 [.any, .any, .any, .any, .own 21 97 (.pr (.int .i64) (.pr (.int .i64) (.pr (.int .i64) (.pr .str .bool))))])]⟩
def wqmy : List (Nat × CutSpec) := [(1003, ⟨[(0, .obj 1 [.any, .any, .any, .any, .own 21 97 (.pr (.int .i64) (.pr (.int .i64) (.pr (.int .i64) (.pr .str .bool))))]), (1, .any), (6, .obj 16 [.nps 16, .own 36 5 (.int .u8)]), (7, .any)], [(1, .obj 1 [.any, .any, .any, .any, .own 21 97 (.pr (.int .i64) (.pr (.int .i64) (.pr (.int .i64) (.pr .str .bool))))])]⟩)]
def wqkx : List (Nat × Plan) := []
noncomputable def wqn (k : Nat) : Ctx := ⟨tyT, wqmy, wqhq k, [], [1], wqkx, @SH⟩
noncomputable def wq1g : Code := Tryz.f161.body.getD .skip
def wq3h (s0 s1 : Int) (s2 : (List UInt8)) (s3 : Int) (s4 : (List (Int × (Int × (Int × ((List UInt8) × Bool)))))) (s5 : (List UInt8)) (s6 : (List Int)) (s7 : Int) : St := ⟨mkT [(0, .ptr 1 0), (1, .v .str s5), (6, .ptr 16 0), (7, .v (.int .i64) s7)], mkH [(21, .row 97 (.pr (.int .i64) (.pr (.int .i64) (.pr (.int .i64) (.pr .str .bool)))) s4), (1, .var 151 [.v (.int .i64) s0, .v (.int .i64) s1, .v .str s2, .v (.int .i64) s3, .row 21]), (36, .row 5 (.int .u8) s6), (16, .var 85 [.nps 16, .row 36])]⟩
noncomputable def wq4u (k : Nat) {R : Type} (E1003 : (Int → Int → (List UInt8) → Int → (List (Int × (Int × (Int × ((List UInt8) × Bool))))) → (List UInt8) → (List Int) → Int → Option R)) (s0 s1 : Int) (s2 : (List UInt8)) (s3 : Int) (s4 : (List (Int × (Int × (Int × ((List UInt8) × Bool)))))) (s5 : (List UInt8)) (s6 : (List Int)) (s7 : Int) (K : wq3o R) (E : wq3p R) : Option R := (@cond (@Option R) (@Decidable.decide (@LT.lt Int Int.instLTInt s7 (@Nat.cast Int instNatCastInt (@List.length UInt8 s5))) (@Int.decLt s7 (@Nat.cast Int instNatCastInt (@List.length UInt8 s5)))) (@cond (@Option R) (@inb s7 (@Nat.cast Int instNatCastInt (@List.length UInt8 s5))) (@cond (@Option R) (@BEq.beq Int (@instBEqOfDecidableEq Int @Int.instDecidableEq) (@Nat.cast Int instNatCastInt (@UInt8.toNat (@List.getD UInt8 s5 (@Int.toNat s7) (0 : UInt8)))) (34 : Int)) (@wq3g k R s6 (fun y13 y14 => (K s0 s1 s2 s3 s4 y14 (@Go.IntKind.wrap Go.IntKind.i64 (@HAdd.hAdd Int Int Int (@instHAdd Int @Int.instAdd) s7 (1 : Int)))))) (@cond (@Option R) (@BEq.beq Int (@instBEqOfDecidableEq Int @Int.instDecidableEq) (@Nat.cast Int instNatCastInt (@UInt8.toNat (@List.getD UInt8 s5 (@Int.toNat s7) (0 : UInt8)))) (92 : Int)) (@cond (@Option R) (@bnd (@Go.IntKind.wrap Go.IntKind.i64 (@HAdd.hAdd Int Int Int (@instHAdd Int @Int.instAdd) s7 (1 : Int))) (@Nat.cast Int instNatCastInt (@List.length UInt8 s5)) (@Nat.cast Int instNatCastInt (@List.length UInt8 s5))) (@wq82 k R s0 s1 s2 s3 s4 (@cut UInt8 s5 (@Go.IntKind.wrap Go.IntKind.i64 (@HAdd.hAdd Int Int Int (@instHAdd Int @Int.instAdd) s7 (1 : Int))) (@Nat.cast Int instNatCastInt (@List.length UInt8 s5))) (fun y13 y14 y15 y16 y17 y18 y19 => (@wq1z k R s6 y18 (fun y20 => (E1003 y13 y14 y15 y16 y17 s5 y20 (@Go.IntKind.wrap Go.IntKind.i64 (@HAdd.hAdd Int Int Int (@instHAdd Int @Int.instAdd) (@Go.IntKind.wrap Go.IntKind.i64 (@HAdd.hAdd Int Int Int (@instHAdd Int @Int.instAdd) s7 y19)) (1 : Int))))))) (fun y13 y14 y15 y16 y17 y18 y19 => (E y13 y14 y15 y16 y17 y18 y19))) (@Option.none R)) (@cond (@Option R) (@inb s7 (@Nat.cast Int instNatCastInt (@List.length UInt8 s5))) (@wq1z k R s6 (@Nat.cast Int instNatCastInt (@UInt8.toNat (@List.getD UInt8 s5 (@Int.toNat s7) (0 : UInt8)))) (fun y13 => (E1003 s0 s1 s2 s3 s4 s5 y13 (@Go.IntKind.wrap Go.IntKind.i64 (@HAdd.hAdd Int Int Int (@instHAdd Int @Int.instAdd) s7 (1 : Int)))))) (@Option.none R)))) (@Option.none R)) (@wqc k R s0 s1 s2 s3 s4 (3 : Int) (fun y13 y14 y15 y16 y17 => (K y13 y14 y15 y16 y17 (@Array.toList UInt8 (@ByteArray.data (@ByteArray.mk (@List.toArray UInt8 [])))) (0 : Int))) (fun y13 y14 y15 y16 y17 y18 y19 => (E y13 y14 y15 y16 y17 y18 y19))))
theorem wqgi (k : Nat) {R : Type} (I : Nat → St → Option R) (s0 s1 : Int) (s2 : (List UInt8)) (s3 : Int) (s4 : (List (Int × (Int × (Int × ((List UInt8) × Bool)))))) (s5 : (List UInt8)) (s6 : (List Int)) (s7 : Int) (K : wq3o R) (E : wq3p R) : execK (wqn k) k (at_ [1, 1, 0, 1, 0, 0] wq1g) (wq3h s0 s1 s2 s3 s4 s5 s6 s7) (konts (wqn k) k I [1, 1, 0, 1, 0, 0] wq1g (outK (wqn k) wq4h [.tmp 4, .tmp 5] (wq34 K E))) = wq4u k (fun s0 s1 s2 s3 s4 s5 s6 s7 => I 1003 (wq3h s0 s1 s2 s3 s4 s5 s6 s7)) s0 s1 s2 s3 s4 s5 s6 s7 K E := by kernel_rfl
noncomputable def wq92 (k : Nat) {R : Type} (E1003 : (Int → Int → (List UInt8) → Int → (List (Int × (Int × (Int × ((List UInt8) × Bool))))) → (List UInt8) → (List Int) → Int → Option R)) (x0 x1 : Int) (x2 : (List UInt8)) (x3 : Int) (x4 : (List (Int × (Int × (Int × ((List UInt8) × Bool)))))) (x5 : (List UInt8)) (K : wq3o R) (E : wq3p R) : Option R := (E1003 x0 x1 x2 x3 x4 x5 [] (1 : Int))
theorem wqmz (k : Nat) {R : Type} (I : Nat → St → Option R) (x0 x1 : Int) (x2 : (List UInt8)) (x3 : Int) (x4 : (List (Int × (Int × (Int × ((List UInt8) × Bool)))))) (x5 : (List UInt8)) (K : wq3o R) (E : wq3p R) : fnK (wqn k) k wq1g 46 [.tmp 4, .tmp 5] wq4h [.ptr 1 0, .v .str x5] [(21, .row 97 (.pr (.int .i64) (.pr (.int .i64) (.pr (.int .i64) (.pr .str .bool)))) x4), (1, .var 151 [.v (.int .i64) x0, .v (.int .i64) x1, .v .str x2, .v (.int .i64) x3, .row 21])] (wq34 K E) = wq92 k (fun s0 s1 s2 s3 s4 s5 s6 s7 => iter (wqn k).pv (look (wqn k).cuts 1003) (execK (wqn k) k (at_ [1, 1, 0, 1, 0, 0] wq1g)) k (wq3h s0 s1 s2 s3 s4 s5 s6 s7) (konts (wqn k) k I [1, 1, 0, 1, 0] wq1g (outK (wqn k) wq4h [.tmp 4, .tmp 5] (wq34 K E)))) x0 x1 x2 x3 x4 x5 K E := by kernel_rfl
noncomputable def wq25 (k : Nat) {R : Type}  : Nat → Int → Int → (List UInt8) → Int → (List (Int × (Int × (Int × ((List UInt8) × Bool))))) → (List UInt8) → (List Int) → Int → (Int → Int → (List UInt8) → Int → (List (Int × (Int × (Int × ((List UInt8) × Bool))))) → (List UInt8) → Int → Option R) → (Int → Int → (List UInt8) → Int → (List (Int × (Int × (Int × ((List UInt8) × Bool))))) → Int → Int → Option R) → Option R
  | 0, _, _, _, _, _, _, _, _, _, _ => none
  | n + 1, s0, s1, s2, s3, s4, s5, s6, s7, K, E => wq4u k (fun s0 s1 s2 s3 s4 s5 s6 s7 => wq25 k  n s0 s1 s2 s3 s4 s5 s6 s7 K E) s0 s1 s2 s3 s4 s5 s6 s7 K E
theorem wqgj (k : Nat) {R : Type} (I : Nat → St → Option R) (K : wq3o R) (E : wq3p R) : ∀ (n : Nat) (s0 s1 : Int) (s2 : (List UInt8)) (s3 : Int) (s4 : (List (Int × (Int × (Int × ((List UInt8) × Bool)))))) (s5 : (List UInt8)) (s6 : (List Int)) (s7 : Int), iter (wqn k).pv (look (wqn k).cuts 1003) (execK (wqn k) k (at_ [1, 1, 0, 1, 0, 0] wq1g)) n (wq3h s0 s1 s2 s3 s4 s5 s6 s7) (konts (wqn k) k I [1, 1, 0, 1, 0] wq1g (outK (wqn k) wq4h [.tmp 4, .tmp 5] (wq34 K E))) = wq25 k  n s0 s1 s2 s3 s4 s5 s6 s7 K E := by
  intro n
  induction n with
  | zero => intros; rfl
  | succ n ih =>
    intro s0 s1 s2 s3 s4 s5 s6 s7
    let I' : Nat → St → Option R := fun id s => bif Nat.beq id 1003 then iter (wqn k).pv (look (wqn k).cuts 1003) (execK (wqn k) k (at_ [1, 1, 0, 1, 0, 0] wq1g)) n s (konts (wqn k) k I [1, 1, 0, 1, 0] wq1g (outK (wqn k) wq4h [.tmp 4, .tmp 5] (wq34 K E))) else I id s
    have e := wqgi k I' s0 s1 s2 s3 s4 s5 s6 s7 K E
    have h1003 : (fun s0 s1 s2 s3 s4 s5 s6 s7 => I' 1003 (wq3h s0 s1 s2 s3 s4 s5 s6 s7)) = (fun s0 s1 s2 s3 s4 s5 s6 s7 => wq25 k  n s0 s1 s2 s3 s4 s5 s6 s7 K E) := by funext s0 s1 s2 s3 s4 s5 s6 s7; exact ih s0 s1 s2 s3 s4 s5 s6 s7
    refine Eq.trans (?_ : _ = _) (e.trans (Eq.trans ((congrArg ((fun E1003 => wq4u k E1003 s0 s1 s2 s3 s4 s5 s6 s7 K E)) h1003)) (by rw [wq25])))
    rfl
noncomputable def wq7c (k : Nat) {R : Type} (x0 x1 : Int) (x2 : (List UInt8)) (x3 : Int) (x4 : (List (Int × (Int × (Int × ((List UInt8) × Bool)))))) (x5 : (List UInt8)) (K : wq3o R) (E : wq3p R) : Option R := wq92 k (fun s0 s1 s2 s3 s4 s5 s6 s7 => wq25 k k s0 s1 s2 s3 s4 s5 s6 s7 K E) x0 x1 x2 x3 x4 x5 K E
theorem wqn0 (k : Nat) {R : Type} (x0 x1 : Int) (x2 : (List UInt8)) (x3 : Int) (x4 : (List (Int × (Int × (Int × ((List UInt8) × Bool)))))) (x5 : (List UInt8)) (K : wq3o R) (E : wq3p R) : fnK (wqn k) k wq1g 46 [.tmp 4, .tmp 5] wq4h [.ptr 1 0, .v .str x5] [(21, .row 97 (.pr (.int .i64) (.pr (.int .i64) (.pr (.int .i64) (.pr .str .bool)))) x4), (1, .var 151 [.v (.int .i64) x0, .v (.int .i64) x1, .v .str x2, .v (.int .i64) x3, .row 21])] (wq34 K E) = wq7c k x0 x1 x2 x3 x4 x5 K E := by
  let I : Nat → St → Option R := fun _ _ => none
  have h1003 : (fun s0 s1 s2 s3 s4 s5 s6 s7 => iter (wqn k).pv (look (wqn k).cuts 1003) (execK (wqn k) k (at_ [1, 1, 0, 1, 0, 0] wq1g)) k (wq3h s0 s1 s2 s3 s4 s5 s6 s7) (konts (wqn k) k I [1, 1, 0, 1, 0] wq1g (outK (wqn k) wq4h [.tmp 4, .tmp 5] (wq34 K E)))) = (fun s0 s1 s2 s3 s4 s5 s6 s7 => wq25 k k s0 s1 s2 s3 s4 s5 s6 s7 K E) := by funext s0 s1 s2 s3 s4 s5 s6 s7; exact wqgj k I K E k s0 s1 s2 s3 s4 s5 s6 s7
  exact (wqmz k I x0 x1 x2 x3 x4 x5 K E).trans (congrArg ((fun E1003 => wq92 k E1003 x0 x1 x2 x3 x4 x5 K E)) h1003)
noncomputable def wqan (k : Nat) {R : Type} : List PV → List (Nm × HObj) → (Out → Option R) → Option R
  | [.ptr 1 0, .v .str x5], [(21, .row 97 (.pr (.int .i64) (.pr (.int .i64) (.pr (.int .i64) (.pr .str .bool)))) x4), (1, .var 151 [.v (.int .i64) x0, .v (.int .i64) x1, .v .str x2, .v (.int .i64) x3, .row 21])], K => wq7c k x0 x1 x2 x3 x4 x5 (fun y0 y1 y2 y3 y4 y5 y6 => K (.ret [.v .str y5, .v (.int .i64) y6] [(21, .row 97 (.pr (.int .i64) (.pr (.int .i64) (.pr (.int .i64) (.pr .str .bool)))) y4), (1, .var 151 [.v (.int .i64) y0, .v (.int .i64) y1, .v .str y2, .v (.int .i64) y3, .row 21])])) (fun z0 z1 z2 z3 z4 z5 z6 => K (.pan (.ifc 28 (.agg [.v (.int .i64) z5, .v (.int .i64) z6])) [(21, .row 97 (.pr (.int .i64) (.pr (.int .i64) (.pr (.int .i64) (.pr .str .bool)))) z4), (1, .var 151 [.v (.int .i64) z0, .v (.int .i64) z1, .v .str z2, .v (.int .i64) z3, .row 21])]))
  | _, _, _ => none
theorem wqn1 (k : Nat) : (wqhq k).Ok Tryz.prog := (CTab.add_ok (fun h => wqbi k h) (CTab.add_ok (fun h => wq81 k h) (CTab.add_ok (fun h => wq9a k h) (CTab.add_ok (fun h => wqtn k h) CTab.nil_ok))))
theorem wqs2 (k : Nat) {ps : List PV} {hp : List (Nm × HObj)} {R : Type} {K : Out → Option R} {r : R} (h : wqan k ps hp K = some r) : DoesTo Tryz.prog 161 ps hp fun out => K out = some r := by
  unfold wqan at h
  split at h
  · rw [← wqn0] at h
    have := fn_ok (P := Tryz.prog) (cx := wqn k) (f := 161) ⟨tyT_ok, wqn1 k, fun _ _ => rfl⟩ (by kernel_rfl) (fn := Tryz.f161) (c := wq1g) (by kernel_rfl) (by kernel_rfl) (by kernel_rfl) (rs := [.tmp 4, .tmp 5]) (by kernel_rfl) (by kernel_rfl) h
    exact this.mono fun out ho => by
      unfold wq34 at ho
      split at ho <;> first | exact ho | cases ho
  · cases h
end Go.Proofs.YtpfbdepoammjmaaGreatDoor.Pvm
