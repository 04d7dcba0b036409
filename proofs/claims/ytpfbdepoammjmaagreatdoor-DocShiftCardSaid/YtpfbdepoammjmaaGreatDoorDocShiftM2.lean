/- The Go function DocShift answers true for every text and every number, on any machine and under any order of evaluation that Go allows; with no condition besides the statement's own, the card's own ties to the pruned copy of the project included. -/
import Derived.WalkKit
import Derived.ProofKit
import Derived.OpenShut
import Derived.ShutString
import Derived.ChangeOld
import Derived.Below
import Derived.SizedLaws
import Derived.ChangeArms
import Derived.Test.YtpfbdepoammjmaaGreatDoorProg
import Derived.KernelRfl
import Derived.Test.YtpfbdepoammjmaaGreatDoorChecked
import Derived.WalkSpells
import Derived.WalkLawsBesides
import Derived.Lib.Builder
import Derived.Lib.AppendStr
import Derived.Lib.UnsafeStr
import Derived.Laws.Externs
import Derived.Shelf.RegionOpenPlain
import Derived.Deep.Heap
import Derived.Lib.BytesEntry
import Derived.Lib.Bytealg
import Derived.Shelf.GgClosure.StringsIndexFuncTop
import Derived.Shelf.Strings.FuncGrows
import Derived.Test.YtpfbdepoammjmaaGreatDoorDocShiftM0
import Derived.Test.YtpfbdepoammjmaaGreatDoorDocShiftM1
set_option linter.unusedVariables false
set_option linter.unusedSimpArgs false
set_option linter.unusedSectionVars false
set_option maxRecDepth 100000
namespace Go.Proofs.YtpfbdepoammjmaaGreatDoor.Pvm
open Go Go.Proofs
abbrev kI : Kd := .int .i64
abbrev kdT7 : Kd := (.pr (.int .i64) (.pr (.int .i64) (.pr .bool (.int .u8))))
abbrev kdT25 : Kd := (.sl (.pr (.int .i64) (.pr (.int .i64) (.pr .str (.pr .bool (.pr (.sl .str) (.sl (.int .i64))))))))
abbrev kdT39 : Kd := (.pr (.sl (.pr .str (.sl (.int .i64)))) (.sl (.pr .str (.pr .str (.pr .bool (.pr (.int .i64) (.pr (.int .i64) (.pr .bool (.pr (.pr .str (.pr (.int .i64) (.pr (.int .i64) (.pr .flt (.pr .bool .bool))))) (.sl (.int .i64)))))))))))
abbrev kdT51 : Kd := (.pr (.int .i64) (.pr (.int .i64) (.pr .str (.pr .bool (.pr (.sl .str) (.sl (.int .i64)))))))
abbrev kdT94 : Kd := (.pr (.sl (.pr (.int .i64) (.pr (.int .i64) (.pr (.int .i64) (.pr .str .bool))))) (.sl (.pr (.int .i64) (.pr (.int .i64) (.pr .str (.pr .bool (.pr (.sl .str) (.sl (.int .i64)))))))))
abbrev kdT96 : Kd := (.pr (.int .i64) (.pr (.int .i64) (.pr (.int .i64) (.pr .str .bool))))
abbrev kdT105 : Kd := (.pr (.int .i64) (.pr (.int .i64) .str))
abbrev kdT109 : Kd := (.pr (.sl (.pr (.int .i64) (.pr (.int .i64) (.pr (.int .i64) (.pr .str .bool))))) (.pr (.int .i64) (.pr (.sl (.pr (.int .i64) (.pr (.int .i64) (.pr .str (.pr .bool (.pr (.sl .str) (.sl (.int .i64)))))))) (.pr (.int .i64) (.int .i64)))))
abbrev kdT115 : Kd := (.pr .str (.pr (.int .i64) (.pr (.int .i64) (.pr .flt (.pr .bool .bool)))))
abbrev kdT117 : Kd := (.pr .str (.pr .str (.pr .bool (.pr (.int .i64) (.pr (.int .i64) (.pr .bool (.pr (.pr .str (.pr (.int .i64) (.pr (.int .i64) (.pr .flt (.pr .bool .bool))))) (.sl (.int .i64)))))))))
abbrev kdT150 : Kd := (.pr (.pr (.int .i64) (.pr (.int .i64) .str)) (.pr (.int .i64) (.sl (.pr (.int .i64) (.pr (.int .i64) (.pr (.int .i64) (.pr .str .bool)))))))
def ti1 : TI := ⟨.other, 1, 8, none, [.un], [], 0, false⟩
theorem ti1_ok : TiOk Tryz.prog 1 ti1 := TiOk.of (z := Go.Value.nilFunc) (d := (@Go.TypeDesc.func (@Array.mk Nat (@List.nil Nat)) (@Array.mk Nat (@List.nil Nat)) Bool.false)) (by kernel_rfl) (by kernel_rfl) (by kernel_rfl) trivial rfl trivial (by kernel_rfl) (fun h => nomatch h)
def ti2 : TI := ⟨.int .i64, 1, 8, some (.int .i64), [.v (.int .i64) 0], [], 0, false⟩
theorem ti2_ok : TiOk Tryz.prog 2 ti2 := TiOk.of (z := (@Go.Value.int Go.IntKind.i64 (@Int.ofNat 0))) (d := (@Go.TypeDesc.int Go.IntKind.i64)) (by kernel_rfl) (by kernel_rfl) (by kernel_rfl) ⟨by kernel_rfl, by kernel_rfl⟩ rfl rfl (by kernel_rfl) (fun h => nomatch h)
def ti3 : TI := ⟨.int .i64, 1, 8, some (.int .i64), [.v (.int .i64) 0], [], 0, false⟩
theorem ti3_ok : TiOk Tryz.prog 3 ti3 := TiOk.of (z := (@Go.Value.int Go.IntKind.i64 (@Int.ofNat 0))) (d := (@Go.TypeDesc.int Go.IntKind.i64)) (by kernel_rfl) (by kernel_rfl) (by kernel_rfl) ⟨by kernel_rfl, by kernel_rfl⟩ rfl rfl (by kernel_rfl) (fun h => nomatch h)
def ti4 : TI := ⟨.bool, 1, 1, some .bool, [.v .bool false], [], 0, false⟩
theorem ti4_ok : TiOk Tryz.prog 4 ti4 := TiOk.of (z := (@Go.Value.bool Bool.false)) (d := Go.TypeDesc.bool) (by kernel_rfl) (by kernel_rfl) (by kernel_rfl) ⟨by kernel_rfl, by kernel_rfl⟩ rfl rfl (by kernel_rfl) (fun h => nomatch h)
def ti5 : TI := ⟨.int .u8, 1, 1, some (.int .u8), [.v (.int .u8) 0], [], 0, false⟩
theorem ti5_ok : TiOk Tryz.prog 5 ti5 := TiOk.of (z := (@Go.Value.int Go.IntKind.u8 (@Int.ofNat 0))) (d := (@Go.TypeDesc.int Go.IntKind.u8)) (by kernel_rfl) (by kernel_rfl) (by kernel_rfl) ⟨by kernel_rfl, by kernel_rfl⟩ rfl rfl (by kernel_rfl) (fun h => nomatch h)
def ti9 : TI := ⟨.str, 1, 16, some .str, [.v .str []], [], 0, false⟩
theorem ti9_ok : TiOk Tryz.prog 9 ti9 := TiOk.of (z := (@Go.Value.string (@ByteArray.mk (@Array.mk UInt8 (@List.nil UInt8))))) (d := Go.TypeDesc.string) (by kernel_rfl) (by kernel_rfl) (by kernel_rfl) ⟨by kernel_rfl, by kernel_rfl⟩ rfl rfl (by kernel_rfl) (fun h => nomatch h)
def ti20 : TI := ⟨.iface, 1, 16, none, [.nilif], [], 0, false⟩
theorem ti20_ok : TiOk Tryz.prog 20 ti20 := TiOk.of (z := Go.Value.nilIface) (d := (@Go.TypeDesc.interface (@Array.mk (@Prod String Nat) (@List.nil (@Prod String Nat))))) (by kernel_rfl) (by kernel_rfl) (by kernel_rfl) trivial rfl ⟨_, rfl⟩ (by kernel_rfl) (fun h => nomatch h)
def ti21 : TI := ⟨.int .i32, 1, 4, some (.int .i32), [.v (.int .i32) 0], [], 0, false⟩
theorem ti21_ok : TiOk Tryz.prog 21 ti21 := TiOk.of (z := (@Go.Value.int Go.IntKind.i32 (@Int.ofNat 0))) (d := (@Go.TypeDesc.int Go.IntKind.i32)) (by kernel_rfl) (by kernel_rfl) (by kernel_rfl) ⟨by kernel_rfl, by kernel_rfl⟩ rfl rfl (by kernel_rfl) (fun h => nomatch h)
def ti22 : TI := ⟨.slice, 1, 24, some (.sl (.int .u8)), [.nilsl], [], 5, false⟩
theorem ti22_ok : TiOk Tryz.prog 22 ti22 := TiOk.of (z := (@Go.Value.slice (@Option.none Go.Addr) 0 0)) (d := (@Go.TypeDesc.slice 5)) (by kernel_rfl) (by kernel_rfl) (by kernel_rfl) ⟨by kernel_rfl, by kernel_rfl⟩ rfl rfl (by kernel_rfl) (fun h => nomatch h)
def ti24 : TI := ⟨.slice, 1, 24, some (.sl (.pr (.int .i64) (.pr (.int .i64) (.pr .str (.pr .bool (.pr (.sl .str) (.sl (.int .i64)))))))), [.nilsl], [], 52, false⟩
theorem ti24_ok : TiOk Tryz.prog 24 ti24 := TiOk.of (z := (@Go.Value.slice (@Option.none Go.Addr) 0 0)) (d := (@Go.TypeDesc.slice 52)) (by kernel_rfl) (by kernel_rfl) (by kernel_rfl) ⟨by kernel_rfl, by kernel_rfl⟩ rfl rfl (by kernel_rfl) (fun h => nomatch h)
def ti26 : TI := ⟨.struct, 1, 24, some (.sl (.pr (.int .i64) (.pr (.int .i64) (.pr .str (.pr .bool (.pr (.sl .str) (.sl (.int .i64)))))))), [.nilsl], [(0, 24)], 0, false⟩
theorem ti26_ok : TiOk Tryz.prog 26 ti26 := TiOk.of (z := (@Go.Value.agg (@Array.mk Go.Value (@List.cons Go.Value (@Go.Value.slice (@Option.none Go.Addr) 0 0) (@List.nil Go.Value))))) (d := (@Go.TypeDesc.struct (@Array.mk Go.Field (@List.cons Go.Field (@Go.Field.mk "Nodes" 24 0 Bool.false "" "" 0) (@List.nil Go.Field))))) (by kernel_rfl) (by kernel_rfl) (by kernel_rfl) ⟨by kernel_rfl, by kernel_rfl⟩ ⟨_, rfl⟩ ⟨_, rfl, by kernel_rfl, by kernel_rfl⟩ (by kernel_rfl) (fun h => nomatch h)
def ti28 : TI := ⟨.struct, 2, 16, some (.pr (.int .i64) (.int .i64)), [.v (.int .i64) 0, .v (.int .i64) 0], [(0, 3), (1, 3)], 0, true⟩
theorem ti28_ok : TiOk Tryz.prog 28 ti28 := TiOk.of (z := (@Go.Value.agg (@Array.mk Go.Value (@List.cons Go.Value (@Go.Value.int Go.IntKind.i64 (@Int.ofNat 0)) (@List.cons Go.Value (@Go.Value.int Go.IntKind.i64 (@Int.ofNat 0)) (@List.nil Go.Value)))))) (d := (@Go.TypeDesc.struct (@Array.mk Go.Field (@List.cons Go.Field (@Go.Field.mk "Kind" 3 0 Bool.false "" "" 0) (@List.cons Go.Field (@Go.Field.mk "Line" 3 1 Bool.false "" "" 8) (@List.nil Go.Field)))))) (by kernel_rfl) (by kernel_rfl) (by kernel_rfl) ⟨by kernel_rfl, by kernel_rfl⟩ ⟨_, rfl⟩ ⟨_, rfl, by kernel_rfl, by kernel_rfl⟩ (by kernel_rfl) (fun _ _ => by kernel_rfl)
def ti33 : TI := ⟨.slice, 1, 24, some (.sl (.int .i64)), [.nilsl], [], 3, false⟩
theorem ti33_ok : TiOk Tryz.prog 33 ti33 := TiOk.of (z := (@Go.Value.slice (@Option.none Go.Addr) 0 0)) (d := (@Go.TypeDesc.slice 3)) (by kernel_rfl) (by kernel_rfl) (by kernel_rfl) ⟨by kernel_rfl, by kernel_rfl⟩ rfl rfl (by kernel_rfl) (fun h => nomatch h)
def ti41 : TI := ⟨.other, 1, 8, none, [.un], [], 0, false⟩
theorem ti41_ok : TiOk Tryz.prog 41 ti41 := TiOk.of (z := Go.Value.nilFunc) (d := (@Go.TypeDesc.func (@Array.mk Nat (@List.cons Nat 33 (@List.nil Nat))) (@Array.mk Nat (@List.cons Nat 40 (@List.nil Nat))) Bool.false)) (by kernel_rfl) (by kernel_rfl) (by kernel_rfl) trivial rfl trivial (by kernel_rfl) (fun h => nomatch h)
def ti45 : TI := ⟨.slice, 1, 24, some (.sl .str), [.nilsl], [], 9, false⟩
theorem ti45_ok : TiOk Tryz.prog 45 ti45 := TiOk.of (z := (@Go.Value.slice (@Option.none Go.Addr) 0 0)) (d := (@Go.TypeDesc.slice 9)) (by kernel_rfl) (by kernel_rfl) (by kernel_rfl) ⟨by kernel_rfl, by kernel_rfl⟩ rfl rfl (by kernel_rfl) (fun h => nomatch h)
def ti52 : TI := ⟨.struct, 6, 88, some (.pr (.int .i64) (.pr (.int .i64) (.pr .str (.pr .bool (.pr (.sl .str) (.sl (.int .i64))))))), [.v (.int .i64) 0, .v (.int .i64) 0, .v .str [], .v .bool false, .nilsl, .nilsl], [(0, 3), (1, 3), (2, 9), (3, 4), (4, 45), (5, 33)], 0, false⟩
theorem ti52_ok : TiOk Tryz.prog 52 ti52 := TiOk.of (z := (@Go.Value.agg (@Array.mk Go.Value (@List.cons Go.Value (@Go.Value.int Go.IntKind.i64 (@Int.ofNat 0)) (@List.cons Go.Value (@Go.Value.int Go.IntKind.i64 (@Int.ofNat 0)) (@List.cons Go.Value (@Go.Value.string (@ByteArray.mk (@Array.mk UInt8 (@List.nil UInt8)))) (@List.cons Go.Value (@Go.Value.bool Bool.false) (@List.cons Go.Value (@Go.Value.slice (@Option.none Go.Addr) 0 0) (@List.cons Go.Value (@Go.Value.slice (@Option.none Go.Addr) 0 0) (@List.nil Go.Value)))))))))) (d := (@Go.TypeDesc.struct (@Array.mk Go.Field (@List.cons Go.Field (@Go.Field.mk "Kind" 3 0 Bool.false "" "" 0) (@List.cons Go.Field (@Go.Field.mk "Line" 3 1 Bool.false "" "" 8) (@List.cons Go.Field (@Go.Field.mk "Text" 9 2 Bool.false "" "" 16) (@List.cons Go.Field (@Go.Field.mk "Quoted" 4 3 Bool.false "" "" 32) (@List.cons Go.Field (@Go.Field.mk "Keys" 45 4 Bool.false "" "" 40) (@List.cons Go.Field (@Go.Field.mk "Kids" 33 5 Bool.false "" "" 64) (@List.nil Go.Field)))))))))) (by kernel_rfl) (by kernel_rfl) (by kernel_rfl) ⟨by kernel_rfl, by kernel_rfl⟩ ⟨_, rfl⟩ ⟨_, rfl, by kernel_rfl, by kernel_rfl⟩ (by kernel_rfl) (fun h => nomatch h)
def ti53 : TI := ⟨.slice, 1, 24, some (.sl (.pr (.int .i64) (.pr (.int .i64) .str))), [.nilsl], [], 106, false⟩
theorem ti53_ok : TiOk Tryz.prog 53 ti53 := TiOk.of (z := (@Go.Value.slice (@Option.none Go.Addr) 0 0)) (d := (@Go.TypeDesc.slice 106)) (by kernel_rfl) (by kernel_rfl) (by kernel_rfl) ⟨by kernel_rfl, by kernel_rfl⟩ rfl rfl (by kernel_rfl) (fun h => nomatch h)
def ti56 : TI := ⟨.slice, 1, 24, some (.sl (.pr (.int .i64) (.pr (.int .i64) (.pr (.int .i64) (.pr .str .bool))))), [.nilsl], [], 97, false⟩
theorem ti56_ok : TiOk Tryz.prog 56 ti56 := TiOk.of (z := (@Go.Value.slice (@Option.none Go.Addr) 0 0)) (d := (@Go.TypeDesc.slice 97)) (by kernel_rfl) (by kernel_rfl) (by kernel_rfl) ⟨by kernel_rfl, by kernel_rfl⟩ rfl rfl (by kernel_rfl) (fun h => nomatch h)
def ti79 : TI := ⟨.int .u64, 1, 8, some (.int .u64), [.v (.int .u64) 0], [], 0, false⟩
theorem ti79_ok : TiOk Tryz.prog 79 ti79 := TiOk.of (z := (@Go.Value.int Go.IntKind.u64 (@Int.ofNat 0))) (d := (@Go.TypeDesc.int Go.IntKind.u64)) (by kernel_rfl) (by kernel_rfl) (by kernel_rfl) ⟨by kernel_rfl, by kernel_rfl⟩ rfl rfl (by kernel_rfl) (fun h => nomatch h)
def ti83 : TI := ⟨.ptr, 1, 8, none, [.nilptr], [], 85, false⟩
theorem ti83_ok : TiOk Tryz.prog 83 ti83 := TiOk.of (z := (@Go.Value.pointer (@Option.none Go.Addr))) (d := (@Go.TypeDesc.pointer 85)) (by kernel_rfl) (by kernel_rfl) (by kernel_rfl) trivial rfl rfl (by kernel_rfl) (fun h => nomatch h)
def ti85 : TI := ⟨.struct, 2, 32, none, [.nilptr, .nilsl], [(0, 83), (1, 22)], 0, false⟩
theorem ti85_ok : TiOk Tryz.prog 85 ti85 := TiOk.of (z := (@Go.Value.agg (@Array.mk Go.Value (@List.cons Go.Value (@Go.Value.pointer (@Option.none Go.Addr)) (@List.cons Go.Value (@Go.Value.slice (@Option.none Go.Addr) 0 0) (@List.nil Go.Value)))))) (d := (@Go.TypeDesc.struct (@Array.mk Go.Field (@List.cons Go.Field (@Go.Field.mk "addr" 83 0 Bool.false "" "strings" 0) (@List.cons Go.Field (@Go.Field.mk "buf" 22 1 Bool.false "" "strings" 8) (@List.nil Go.Field)))))) (by kernel_rfl) (by kernel_rfl) (by kernel_rfl) trivial ⟨_, rfl⟩ ⟨_, rfl, by kernel_rfl, by kernel_rfl⟩ (by kernel_rfl) (fun h => nomatch h)
def ti87 : TI := ⟨.iface, 1, 16, none, [.nilif], [], 0, false⟩
theorem ti87_ok : TiOk Tryz.prog 87 ti87 := TiOk.of (z := Go.Value.nilIface) (d := (@Go.TypeDesc.interface (@Array.mk (@Prod String Nat) (@List.cons (@Prod String Nat) (@Prod.mk String Nat "Error" 92) (@List.nil (@Prod String Nat)))))) (by kernel_rfl) (by kernel_rfl) (by kernel_rfl) trivial rfl ⟨_, rfl⟩ (by kernel_rfl) (fun h => nomatch h)
def ti88 : TI := ⟨.iface, 1, 16, none, [.nilif], [], 0, false⟩
theorem ti88_ok : TiOk Tryz.prog 88 ti88 := TiOk.of (z := Go.Value.nilIface) (d := (@Go.TypeDesc.interface (@Array.mk (@Prod String Nat) (@List.cons (@Prod String Nat) (@Prod.mk String Nat "Error" 92) (@List.nil (@Prod String Nat)))))) (by kernel_rfl) (by kernel_rfl) (by kernel_rfl) trivial rfl ⟨_, rfl⟩ (by kernel_rfl) (fun h => nomatch h)
def ti93 : TI := ⟨.ptr, 1, 8, none, [.nilptr], [], 95, false⟩
theorem ti93_ok : TiOk Tryz.prog 93 ti93 := TiOk.of (z := (@Go.Value.pointer (@Option.none Go.Addr))) (d := (@Go.TypeDesc.pointer 95)) (by kernel_rfl) (by kernel_rfl) (by kernel_rfl) trivial rfl rfl (by kernel_rfl) (fun h => nomatch h)
def ti95 : TI := ⟨.struct, 2, 48, some (.pr (.sl (.pr (.int .i64) (.pr (.int .i64) (.pr (.int .i64) (.pr .str .bool))))) (.sl (.pr (.int .i64) (.pr (.int .i64) (.pr .str (.pr .bool (.pr (.sl .str) (.sl (.int .i64))))))))), [.nilsl, .nilsl], [(0, 56), (1, 26)], 0, false⟩
theorem ti95_ok : TiOk Tryz.prog 95 ti95 := TiOk.of (z := (@Go.Value.agg (@Array.mk Go.Value (@List.cons Go.Value (@Go.Value.slice (@Option.none Go.Addr) 0 0) (@List.cons Go.Value (@Go.Value.slice (@Option.none Go.Addr) 0 0) (@List.nil Go.Value)))))) (d := (@Go.TypeDesc.struct (@Array.mk Go.Field (@List.cons Go.Field (@Go.Field.mk "l" 56 0 Bool.false "" "turncock/doc" 0) (@List.cons Go.Field (@Go.Field.mk "d" 26 1 Bool.false "" "turncock/doc" 24) (@List.nil Go.Field)))))) (by kernel_rfl) (by kernel_rfl) (by kernel_rfl) ⟨by kernel_rfl, by kernel_rfl⟩ ⟨_, rfl⟩ ⟨_, rfl, by kernel_rfl, by kernel_rfl⟩ (by kernel_rfl) (fun h => nomatch h)
def ti97 : TI := ⟨.struct, 5, 48, some (.pr (.int .i64) (.pr (.int .i64) (.pr (.int .i64) (.pr .str .bool)))), [.v (.int .i64) 0, .v (.int .i64) 0, .v (.int .i64) 0, .v .str [], .v .bool false], [(0, 3), (1, 3), (2, 3), (3, 9), (4, 4)], 0, true⟩
theorem ti97_ok : TiOk Tryz.prog 97 ti97 := TiOk.of (z := (@Go.Value.agg (@Array.mk Go.Value (@List.cons Go.Value (@Go.Value.int Go.IntKind.i64 (@Int.ofNat 0)) (@List.cons Go.Value (@Go.Value.int Go.IntKind.i64 (@Int.ofNat 0)) (@List.cons Go.Value (@Go.Value.int Go.IntKind.i64 (@Int.ofNat 0)) (@List.cons Go.Value (@Go.Value.string (@ByteArray.mk (@Array.mk UInt8 (@List.nil UInt8)))) (@List.cons Go.Value (@Go.Value.bool Bool.false) (@List.nil Go.Value))))))))) (d := (@Go.TypeDesc.struct (@Array.mk Go.Field (@List.cons Go.Field (@Go.Field.mk "Kind" 3 0 Bool.false "" "" 0) (@List.cons Go.Field (@Go.Field.mk "Line" 3 1 Bool.false "" "" 8) (@List.cons Go.Field (@Go.Field.mk "Col" 3 2 Bool.false "" "" 16) (@List.cons Go.Field (@Go.Field.mk "Text" 9 3 Bool.false "" "" 24) (@List.cons Go.Field (@Go.Field.mk "Quoted" 4 4 Bool.false "" "" 40) (@List.nil Go.Field))))))))) (by kernel_rfl) (by kernel_rfl) (by kernel_rfl) ⟨by kernel_rfl, by kernel_rfl⟩ ⟨_, rfl⟩ ⟨_, rfl, by kernel_rfl, by kernel_rfl⟩ (by kernel_rfl) (fun _ _ => by kernel_rfl)
def ti98 : TI := ⟨.slice, 1, 24, some (.sl (.sl (.int .u8))), [.nilsl], [], 22, false⟩
theorem ti98_ok : TiOk Tryz.prog 98 ti98 := TiOk.of (z := (@Go.Value.slice (@Option.none Go.Addr) 0 0)) (d := (@Go.TypeDesc.slice 22)) (by kernel_rfl) (by kernel_rfl) (by kernel_rfl) ⟨by kernel_rfl, by kernel_rfl⟩ rfl rfl (by kernel_rfl) (fun h => nomatch h)
def ti101 : TI := ⟨.other, 1, 8, none, [.un], [], 0, false⟩
theorem ti101_ok : TiOk Tryz.prog 101 ti101 := TiOk.of (z := Go.Value.nilFunc) (d := (@Go.TypeDesc.func (@Array.mk Nat (@List.cons Nat 21 (@List.nil Nat))) (@Array.mk Nat (@List.cons Nat 4 (@List.nil Nat))) Bool.false)) (by kernel_rfl) (by kernel_rfl) (by kernel_rfl) trivial rfl trivial (by kernel_rfl) (fun h => nomatch h)
def ti106 : TI := ⟨.struct, 3, 32, some (.pr (.int .i64) (.pr (.int .i64) .str)), [.v (.int .i64) 0, .v (.int .i64) 0, .v .str []], [(0, 3), (1, 3), (2, 9)], 0, true⟩
theorem ti106_ok : TiOk Tryz.prog 106 ti106 := TiOk.of (z := (@Go.Value.agg (@Array.mk Go.Value (@List.cons Go.Value (@Go.Value.int Go.IntKind.i64 (@Int.ofNat 0)) (@List.cons Go.Value (@Go.Value.int Go.IntKind.i64 (@Int.ofNat 0)) (@List.cons Go.Value (@Go.Value.string (@ByteArray.mk (@Array.mk UInt8 (@List.nil UInt8)))) (@List.nil Go.Value))))))) (d := (@Go.TypeDesc.struct (@Array.mk Go.Field (@List.cons Go.Field (@Go.Field.mk "No" 3 0 Bool.false "" "" 0) (@List.cons Go.Field (@Go.Field.mk "Indent" 3 1 Bool.false "" "" 8) (@List.cons Go.Field (@Go.Field.mk "Text" 9 2 Bool.false "" "" 16) (@List.nil Go.Field))))))) (by kernel_rfl) (by kernel_rfl) (by kernel_rfl) ⟨by kernel_rfl, by kernel_rfl⟩ ⟨_, rfl⟩ ⟨_, rfl, by kernel_rfl, by kernel_rfl⟩ (by kernel_rfl) (fun _ _ => by kernel_rfl)
def ti108 : TI := ⟨.ptr, 1, 8, none, [.nilptr], [], 110, false⟩
theorem ti108_ok : TiOk Tryz.prog 108 ti108 := TiOk.of (z := (@Go.Value.pointer (@Option.none Go.Addr))) (d := (@Go.TypeDesc.pointer 110)) (by kernel_rfl) (by kernel_rfl) (by kernel_rfl) trivial rfl rfl (by kernel_rfl) (fun h => nomatch h)
def ti110 : TI := ⟨.struct, 5, 72, some (.pr (.sl (.pr (.int .i64) (.pr (.int .i64) (.pr (.int .i64) (.pr .str .bool))))) (.pr (.int .i64) (.pr (.sl (.pr (.int .i64) (.pr (.int .i64) (.pr .str (.pr .bool (.pr (.sl .str) (.sl (.int .i64)))))))) (.pr (.int .i64) (.int .i64))))), [.nilsl, .v (.int .i64) 0, .nilsl, .v (.int .i64) 0, .v (.int .i64) 0], [(0, 56), (1, 3), (2, 24), (3, 28)], 0, false⟩
theorem ti110_ok : TiOk Tryz.prog 110 ti110 := TiOk.of (z := (@Go.Value.agg (@Array.mk Go.Value (@List.cons Go.Value (@Go.Value.slice (@Option.none Go.Addr) 0 0) (@List.cons Go.Value (@Go.Value.int Go.IntKind.i64 (@Int.ofNat 0)) (@List.cons Go.Value (@Go.Value.slice (@Option.none Go.Addr) 0 0) (@List.cons Go.Value (@Go.Value.int Go.IntKind.i64 (@Int.ofNat 0)) (@List.cons Go.Value (@Go.Value.int Go.IntKind.i64 (@Int.ofNat 0)) (@List.nil Go.Value))))))))) (d := (@Go.TypeDesc.struct (@Array.mk Go.Field (@List.cons Go.Field (@Go.Field.mk "l" 56 0 Bool.false "" "turncock/turncockref10" 0) (@List.cons Go.Field (@Go.Field.mk "at" 3 1 Bool.false "" "turncock/turncockref10" 24) (@List.cons Go.Field (@Go.Field.mk "nodes" 24 2 Bool.false "" "turncock/turncockref10" 32) (@List.cons Go.Field (@Go.Field.mk "fault" 28 3 Bool.false "" "turncock/turncockref10" 56) (@List.nil Go.Field)))))))) (by kernel_rfl) (by kernel_rfl) (by kernel_rfl) ⟨by kernel_rfl, by kernel_rfl⟩ ⟨_, rfl⟩ ⟨_, rfl, by kernel_rfl, by kernel_rfl⟩ (by kernel_rfl) (fun h => nomatch h)
def ti129 : TI := ⟨.int .u32, 1, 4, some (.int .u32), [.v (.int .u32) 0], [], 0, false⟩
theorem ti129_ok : TiOk Tryz.prog 129 ti129 := TiOk.of (z := (@Go.Value.int Go.IntKind.u32 (@Int.ofNat 0))) (d := (@Go.TypeDesc.int Go.IntKind.u32)) (by kernel_rfl) (by kernel_rfl) (by kernel_rfl) ⟨by kernel_rfl, by kernel_rfl⟩ rfl rfl (by kernel_rfl) (fun h => nomatch h)
def ti132 : TI := ⟨.int .u64, 1, 8, some (.int .u64), [.v (.int .u64) 0], [], 0, false⟩
theorem ti132_ok : TiOk Tryz.prog 132 ti132 := TiOk.of (z := (@Go.Value.int Go.IntKind.u64 (@Int.ofNat 0))) (d := (@Go.TypeDesc.int Go.IntKind.u64)) (by kernel_rfl) (by kernel_rfl) (by kernel_rfl) ⟨by kernel_rfl, by kernel_rfl⟩ rfl rfl (by kernel_rfl) (fun h => nomatch h)
def ti135 : TI := ⟨.ptr, 1, 8, none, [.nilptr], [], 5, false⟩
theorem ti135_ok : TiOk Tryz.prog 135 ti135 := TiOk.of (z := (@Go.Value.pointer (@Option.none Go.Addr))) (d := (@Go.TypeDesc.pointer 5)) (by kernel_rfl) (by kernel_rfl) (by kernel_rfl) trivial rfl rfl (by kernel_rfl) (fun h => nomatch h)
def ti146 : TI := ⟨.ptr, 1, 8, none, [.nilptr], [], 142, false⟩
theorem ti146_ok : TiOk Tryz.prog 146 ti146 := TiOk.of (z := (@Go.Value.pointer (@Option.none Go.Addr))) (d := (@Go.TypeDesc.pointer 142)) (by kernel_rfl) (by kernel_rfl) (by kernel_rfl) trivial rfl rfl (by kernel_rfl) (fun h => nomatch h)
def ti149 : TI := ⟨.ptr, 1, 8, none, [.nilptr], [], 151, false⟩
theorem ti149_ok : TiOk Tryz.prog 149 ti149 := TiOk.of (z := (@Go.Value.pointer (@Option.none Go.Addr))) (d := (@Go.TypeDesc.pointer 151)) (by kernel_rfl) (by kernel_rfl) (by kernel_rfl) trivial rfl rfl (by kernel_rfl) (fun h => nomatch h)
def ti151 : TI := ⟨.struct, 5, 64, some (.pr (.pr (.int .i64) (.pr (.int .i64) .str)) (.pr (.int .i64) (.sl (.pr (.int .i64) (.pr (.int .i64) (.pr (.int .i64) (.pr .str .bool))))))), [.v (.int .i64) 0, .v (.int .i64) 0, .v .str [], .v (.int .i64) 0, .nilsl], [(0, 106), (3, 3), (4, 56)], 0, false⟩
theorem ti151_ok : TiOk Tryz.prog 151 ti151 := TiOk.of (z := (@Go.Value.agg (@Array.mk Go.Value (@List.cons Go.Value (@Go.Value.int Go.IntKind.i64 (@Int.ofNat 0)) (@List.cons Go.Value (@Go.Value.int Go.IntKind.i64 (@Int.ofNat 0)) (@List.cons Go.Value (@Go.Value.string (@ByteArray.mk (@Array.mk UInt8 (@List.nil UInt8)))) (@List.cons Go.Value (@Go.Value.int Go.IntKind.i64 (@Int.ofNat 0)) (@List.cons Go.Value (@Go.Value.slice (@Option.none Go.Addr) 0 0) (@List.nil Go.Value))))))))) (d := (@Go.TypeDesc.struct (@Array.mk Go.Field (@List.cons Go.Field (@Go.Field.mk "l" 106 0 Bool.false "" "turncock/lex" 0) (@List.cons Go.Field (@Go.Field.mk "at" 3 3 Bool.false "" "turncock/lex" 32) (@List.cons Go.Field (@Go.Field.mk "out" 56 4 Bool.false "" "turncock/lex" 40) (@List.nil Go.Field))))))) (by kernel_rfl) (by kernel_rfl) (by kernel_rfl) ⟨by kernel_rfl, by kernel_rfl⟩ ⟨_, rfl⟩ ⟨_, rfl, by kernel_rfl, by kernel_rfl⟩ (by kernel_rfl) (fun h => nomatch h)
def ti172 : TI := ⟨.ptr, 1, 8, none, [.nilptr], [], 52, false⟩
theorem ti172_ok : TiOk Tryz.prog 172 ti172 := TiOk.of (z := (@Go.Value.pointer (@Option.none Go.Addr))) (d := (@Go.TypeDesc.pointer 52)) (by kernel_rfl) (by kernel_rfl) (by kernel_rfl) trivial rfl rfl (by kernel_rfl) (fun h => nomatch h)
def tyL : List (Nat × TI) := [(1, ti1), (2, ti2), (3, ti3), (4, ti4), (5, ti5), (9, ti9), (20, ti20), (21, ti21), (22, ti22), (24, ti24), (26, ti26), (28, ti28), (33, ti33), (41, ti41), (45, ti45), (52, ti52), (53, ti53), (56, ti56), (79, ti79), (83, ti83), (85, ti85), (87, ti87), (88, ti88), (93, ti93), (95, ti95), (97, ti97), (98, ti98), (101, ti101), (106, ti106), (108, ti108), (110, ti110), (129, ti129), (132, ti132), (135, ti135), (146, ti146), (149, ti149), (151, ti151), (172, ti172)]
def tyT : TypeId → Option TI := look tyL
theorem tyT_ok : TyOk Tryz.prog tyT := tyOk_of (all_cons ti1_ok (all_cons ti2_ok (all_cons ti3_ok (all_cons ti4_ok (all_cons ti5_ok (all_cons ti9_ok (all_cons ti20_ok (all_cons ti21_ok (all_cons ti22_ok (all_cons ti24_ok (all_cons ti26_ok (all_cons ti28_ok (all_cons ti33_ok (all_cons ti41_ok (all_cons ti45_ok (all_cons ti52_ok (all_cons ti53_ok (all_cons ti56_ok (all_cons ti79_ok (all_cons ti83_ok (all_cons ti85_ok (all_cons ti87_ok (all_cons ti88_ok (all_cons ti93_ok (all_cons ti95_ok (all_cons ti97_ok (all_cons ti98_ok (all_cons ti101_ok (all_cons ti106_ok (all_cons ti108_ok (all_cons ti110_ok (all_cons ti129_ok (all_cons ti132_ok (all_cons ti135_ok (all_cons ti146_ok (all_cons ti149_ok (all_cons ti151_ok (all_cons ti172_ok (all_nil)))))))))))))))))))))))))))))))))))))))
end Go.Proofs.YtpfbdepoammjmaaGreatDoor.Pvm

set_option maxRecDepth 1000000
set_option maxHeartbeats 0
namespace Go.Proofs.YtpfbdepoammjmaaGreatDoor.Pvm
open Go Go.Proofs
def wqr8 : List LS := [.obj 1 [.sl (.pr (.int .i64) (.pr (.int .i64) (.pr .str (.pr .bool (.pr (.sl .str) (.sl (.int .i64)))))))], .obj 2 [.any, .any]]
noncomputable def wqr9 (k : Nat) : CTab := CTab.nil
def wqdx {R : Type} (K : ((List (Int × (Int × ((List UInt8) × (Bool × ((List (List UInt8)) × (List Int))))))) → Int → Int → Option R)) : Out → Option R
  | .ret [] [(1, .var 26 [.v (.sl (.pr (.int .i64) (.pr (.int .i64) (.pr .str (.pr .bool (.pr (.sl .str) (.sl (.int .i64)))))))) y0]), (2, .var 28 [.v (.int .i64) y1, .v (.int .i64) y2])] => K y0 y1 y2
  | _ => none
def wqp7 : RetSpec := ⟨[], [(1, .obj 1 [.sl (.pr (.int .i64) (.pr (.int .i64) (.pr .str (.pr .bool (.pr (.sl .str) (.sl (.int .i64)))))))]), (2, .obj 2 [.any, .any])], []⟩
def wqtf : List (Nat × CutSpec) := []
def wqra : List (Nat × Plan) := [(7, (.of [(0, 1), (1, 2), (2, 0), (3, 0)] .done))]
noncomputable def wqh6 (k : Nat) : Ctx := ⟨tyT, wqtf, wqr9 k, [], [1, 2], wqra, @SH⟩
noncomputable def wqb1 : Code := Tryz.f41.body.getD .skip
noncomputable def wqrb (k : Nat) {R : Type}  (x0 : (List (Int × (Int × ((List UInt8) × (Bool × ((List (List UInt8)) × (List Int)))))))) (x1 x2 : Int) (K : ((List (Int × (Int × ((List UInt8) × (Bool × ((List (List UInt8)) × (List Int))))))) → Int → Int → Option R)) : Option R := (K x0 x1 x2)
theorem wqtg (k : Nat) {R : Type} (I : Nat → St → Option R) (x0 : (List (Int × (Int × ((List UInt8) × (Bool × ((List (List UInt8)) × (List Int)))))))) (x1 x2 : Int) (K : ((List (Int × (Int × ((List UInt8) × (Bool × ((List (List UInt8)) × (List Int))))))) → Int → Int → Option R)) : fnCK (wqh6 k) k (at_ [1] wqb1) 13 [] wqp7 [.ptr 1 0, .ptr 2 0] 5 (.nilif) [(1, .var 26 [.v (.sl (.pr (.int .i64) (.pr (.int .i64) (.pr .str (.pr .bool (.pr (.sl .str) (.sl (.int .i64)))))))) x0]), (2, .var 28 [.v (.int .i64) x1, .v (.int .i64) x2])] (wqdx K) = wqrb k  x0 x1 x2 K := by kernel_rfl
noncomputable def wqcl (k : Nat) {R : Type} (x0 : (List (Int × (Int × ((List UInt8) × (Bool × ((List (List UInt8)) × (List Int)))))))) (x1 x2 : Int) (K : ((List (Int × (Int × ((List UInt8) × (Bool × ((List (List UInt8)) × (List Int))))))) → Int → Int → Option R)) : Option R := wqrb k  x0 x1 x2 K
theorem wqth (k : Nat) {R : Type} (x0 : (List (Int × (Int × ((List UInt8) × (Bool × ((List (List UInt8)) × (List Int)))))))) (x1 x2 : Int) (K : ((List (Int × (Int × ((List UInt8) × (Bool × ((List (List UInt8)) × (List Int))))))) → Int → Int → Option R)) : fnCK (wqh6 k) k (at_ [1] wqb1) 13 [] wqp7 [.ptr 1 0, .ptr 2 0] 5 (.nilif) [(1, .var 26 [.v (.sl (.pr (.int .i64) (.pr (.int .i64) (.pr .str (.pr .bool (.pr (.sl .str) (.sl (.int .i64)))))))) x0]), (2, .var 28 [.v (.int .i64) x1, .v (.int .i64) x2])] (wqdx K) = wqcl k x0 x1 x2 K := by
  exact wqtg k (fun _ _ => none) x0 x1 x2 K
noncomputable def wqmi (k : Nat) {R : Type} : PV → List PV → List (Nm × HObj) → (Out → Option R) → Option R
  | .nilif, [.ptr 1 0, .ptr 2 0], [(1, .var 26 [.v (.sl (.pr (.int .i64) (.pr (.int .i64) (.pr .str (.pr .bool (.pr (.sl .str) (.sl (.int .i64)))))))) x0]), (2, .var 28 [.v (.int .i64) x1, .v (.int .i64) x2])], K => wqcl k x0 x1 x2 (fun y0 y1 y2 => K (.ret [] [(1, .var 26 [.v (.sl (.pr (.int .i64) (.pr (.int .i64) (.pr .str (.pr .bool (.pr (.sl .str) (.sl (.int .i64)))))))) y0]), (2, .var 28 [.v (.int .i64) y1, .v (.int .i64) y2])]))
  | _, _, _, _ => none
theorem wqti (k : Nat) : (wqr9 k).Ok Tryz.prog := CTab.nil_ok
theorem wqwx (k : Nat) {rec : PV} {ps : List PV} {hp : List (Nm × HObj)} {R : Type} {K : Out → Option R} {r : R} (h : wqmi k rec ps hp K = some r) : DoesToD Tryz.prog 41 rec ps hp fun out => K out = some r := by
  unfold wqmi at h
  split at h
  · rw [← wqth] at h
    have := fnCK_ok (P := Tryz.prog) (cx := wqh6 k) (f := 41) ⟨tyT_ok, wqti k, fun _ _ => rfl⟩ (by kernel_rfl) (fn := Tryz.f41) (id := 0) (ops := opsAt (at_ [0] wqb1)) (c := at_ [1] wqb1) (by kernel_rfl) (by kernel_rfl) (by kernel_rfl) (rs := []) (by kernel_rfl) (by kernel_rfl) h
    exact this.mono fun out ho => by
      unfold wqdx at ho
      split at ho <;> first | exact ho | cases ho
  · cases h
end Go.Proofs.YtpfbdepoammjmaaGreatDoor.Pvm

set_option maxRecDepth 1000000
set_option maxHeartbeats 0
namespace Go.Proofs.YtpfbdepoammjmaaGreatDoor.Pvm
open Go Go.Proofs
noncomputable def wqrc (k : Nat) : CTab := CTab.nil
def wqdy {R : Type} (K : ((List (Int × (Int × ((List UInt8) × (Bool × ((List (List UInt8)) × (List Int))))))) → Int → Int → Option R)) : Out → Option R
  | .ret [] [(1, .var 26 [.v (.sl (.pr (.int .i64) (.pr (.int .i64) (.pr .str (.pr .bool (.pr (.sl .str) (.sl (.int .i64)))))))) y0]), (2, .var 28 [.v (.int .i64) y1, .v (.int .i64) y2])] => K y0 y1 y2
  | _ => none
def wqp8 : RetSpec := ⟨[], [(1, .obj 1 [.sl (.pr (.int .i64) (.pr (.int .i64) (.pr .str (.pr .bool (.pr (.sl .str) (.sl (.int .i64)))))))]), (2, .obj 2 [.any, .any])], []⟩
def wqtj : List (Nat × CutSpec) := []
def wqrd : List (Nat × Plan) := [(7, (.of [(0, 1), (1, 2), (2, 0), (3, 0)] .done))]
noncomputable def wqh7 (k : Nat) : Ctx := ⟨tyT, wqtj, wqrc k, [], [1, 2], wqrd, @SH⟩
noncomputable def wqb2 : Code := Tryz.f41.body.getD .skip
noncomputable def wqre (k : Nat) {R : Type}  (x0 : (List (Int × (Int × ((List UInt8) × (Bool × ((List (List UInt8)) × (List Int)))))))) (x1 x2 x3 x4 : Int) (K : ((List (Int × (Int × ((List UInt8) × (Bool × ((List (List UInt8)) × (List Int))))))) → Int → Int → Option R)) : Option R := (K [] x3 x4)
theorem wqtk (k : Nat) {R : Type} (I : Nat → St → Option R) (x0 : (List (Int × (Int × ((List UInt8) × (Bool × ((List (List UInt8)) × (List Int)))))))) (x1 x2 x3 x4 : Int) (K : ((List (Int × (Int × ((List UInt8) × (Bool × ((List (List UInt8)) × (List Int))))))) → Int → Int → Option R)) : fnCK (wqh7 k) k (at_ [1] wqb2) 13 [] wqp8 [.ptr 1 0, .ptr 2 0] 5 (.ifc 28 (.agg [.v (.int .i64) x3, .v (.int .i64) x4])) [(1, .var 26 [.v (.sl (.pr (.int .i64) (.pr (.int .i64) (.pr .str (.pr .bool (.pr (.sl .str) (.sl (.int .i64)))))))) x0]), (2, .var 28 [.v (.int .i64) x1, .v (.int .i64) x2])] (wqdy K) = wqre k  x0 x1 x2 x3 x4 K := by kernel_rfl
noncomputable def wq87 (k : Nat) {R : Type} (x0 : (List (Int × (Int × ((List UInt8) × (Bool × ((List (List UInt8)) × (List Int)))))))) (x1 x2 x3 x4 : Int) (K : ((List (Int × (Int × ((List UInt8) × (Bool × ((List (List UInt8)) × (List Int))))))) → Int → Int → Option R)) : Option R := wqre k  x0 x1 x2 x3 x4 K
theorem wqtl (k : Nat) {R : Type} (x0 : (List (Int × (Int × ((List UInt8) × (Bool × ((List (List UInt8)) × (List Int)))))))) (x1 x2 x3 x4 : Int) (K : ((List (Int × (Int × ((List UInt8) × (Bool × ((List (List UInt8)) × (List Int))))))) → Int → Int → Option R)) : fnCK (wqh7 k) k (at_ [1] wqb2) 13 [] wqp8 [.ptr 1 0, .ptr 2 0] 5 (.ifc 28 (.agg [.v (.int .i64) x3, .v (.int .i64) x4])) [(1, .var 26 [.v (.sl (.pr (.int .i64) (.pr (.int .i64) (.pr .str (.pr .bool (.pr (.sl .str) (.sl (.int .i64)))))))) x0]), (2, .var 28 [.v (.int .i64) x1, .v (.int .i64) x2])] (wqdy K) = wq87 k x0 x1 x2 x3 x4 K := by
  exact wqtk k (fun _ _ => none) x0 x1 x2 x3 x4 K
noncomputable def wqmj (k : Nat) {R : Type} : PV → List PV → List (Nm × HObj) → (Out → Option R) → Option R
  | .ifc 28 (.agg [.v (.int .i64) x3, .v (.int .i64) x4]), [.ptr 1 0, .ptr 2 0], [(1, .var 26 [.v (.sl (.pr (.int .i64) (.pr (.int .i64) (.pr .str (.pr .bool (.pr (.sl .str) (.sl (.int .i64)))))))) x0]), (2, .var 28 [.v (.int .i64) x1, .v (.int .i64) x2])], K => wq87 k x0 x1 x2 x3 x4 (fun y0 y1 y2 => K (.ret [] [(1, .var 26 [.v (.sl (.pr (.int .i64) (.pr (.int .i64) (.pr .str (.pr .bool (.pr (.sl .str) (.sl (.int .i64)))))))) y0]), (2, .var 28 [.v (.int .i64) y1, .v (.int .i64) y2])]))
  | _, _, _, _ => none
theorem wqtm (k : Nat) : (wqrc k).Ok Tryz.prog := CTab.nil_ok
theorem wqwy (k : Nat) {rec : PV} {ps : List PV} {hp : List (Nm × HObj)} {R : Type} {K : Out → Option R} {r : R} (h : wqmj k rec ps hp K = some r) : DoesToD Tryz.prog 41 rec ps hp fun out => K out = some r := by
  unfold wqmj at h
  split at h
  · rw [← wqtl] at h
    have := fnCK_ok (P := Tryz.prog) (cx := wqh7 k) (f := 41) ⟨tyT_ok, wqtm k, fun _ _ => rfl⟩ (by kernel_rfl) (fn := Tryz.f41) (id := 0) (ops := opsAt (at_ [0] wqb2)) (c := at_ [1] wqb2) (by kernel_rfl) (by kernel_rfl) (by kernel_rfl) (rs := []) (by kernel_rfl) (by kernel_rfl) h
    exact this.mono fun out ho => by
      unfold wqdy at ho
      split at ho <;> first | exact ho | cases ho
  · cases h
end Go.Proofs.YtpfbdepoammjmaaGreatDoor.Pvm

set_option maxRecDepth 1000000
set_option maxHeartbeats 0
namespace Go.Proofs.YtpfbdepoammjmaaGreatDoor.Pvm
open Go Go.Proofs
def wqdg : List LS := [.any, .any]
noncomputable def wqup (k : Nat) : CTab := CTab.nil
def wqfi {R : Type} (E : (Int → Int → Option R)) : Out → Option R
  | .pan (.ifc 28 (.agg [.v (.int .i64) z0, .v (.int .i64) z1])) [] => E z0 z1
  | _ => none
def wqrf : RetSpec := ⟨[], [], []⟩
def wqvf : List (Nat × CutSpec) := []
def wqtn : List (Nat × Plan) := []
noncomputable def wqkj (k : Nat) : Ctx := ⟨tyT, wqvf, wqup k, [], [], wqtn, @SH⟩
noncomputable def wqfj : Code := Tryz.f42.body.getD .skip
noncomputable def wquq (k : Nat) {R : Type}  (x0 x1 : Int) (E : (Int → Int → Option R)) : Option R := (E x0 x1)
theorem wqvg (k : Nat) {R : Type} (I : Nat → St → Option R) (x0 x1 : Int) (E : (Int → Int → Option R)) : fnK (wqkj k) k wqfj 8 [] wqrf [.v (.int .i64) x0, .v (.int .i64) x1] [] (wqfi E) = wquq k  x0 x1 E := by kernel_rfl
noncomputable def wq5o (k : Nat) {R : Type} (x0 x1 : Int) (E : (Int → Int → Option R)) : Option R := wquq k  x0 x1 E
theorem wqvh (k : Nat) {R : Type} (x0 x1 : Int) (E : (Int → Int → Option R)) : fnK (wqkj k) k wqfj 8 [] wqrf [.v (.int .i64) x0, .v (.int .i64) x1] [] (wqfi E) = wq5o k x0 x1 E := by
  exact wqvg k (fun _ _ => none) x0 x1 E
noncomputable def wq93 (k : Nat) {R : Type} : List PV → List (Nm × HObj) → (Out → Option R) → Option R
  | [.v (.int .i64) x0, .v (.int .i64) x1], [], K => wq5o k x0 x1  (fun z0 z1 => K (.pan (.ifc 28 (.agg [.v (.int .i64) z0, .v (.int .i64) z1])) []))
  | _, _, _ => none
theorem wqvi (k : Nat) : (wqup k).Ok Tryz.prog := CTab.nil_ok
theorem wqir (k : Nat) {ps : List PV} {hp : List (Nm × HObj)} {R : Type} {K : Out → Option R} {r : R} (h : wq93 k ps hp K = some r) : DoesTo Tryz.prog 42 ps hp fun out => K out = some r := by
  unfold wq93 at h
  split at h
  · rw [← wqvh] at h
    have := fn_ok (P := Tryz.prog) (cx := wqkj k) (f := 42) ⟨tyT_ok, wqvi k, fun _ _ => rfl⟩ (by kernel_rfl) (fn := Tryz.f42) (c := wqfj) (by kernel_rfl) (by kernel_rfl) (by kernel_rfl) (rs := []) (by kernel_rfl) (by kernel_rfl) h
    exact this.mono fun out ho => by
      unfold wqfi at ho
      split at ho <;> first | exact ho | cases ho
  · cases h
end Go.Proofs.YtpfbdepoammjmaaGreatDoor.Pvm

set_option maxRecDepth 1000000
set_option maxHeartbeats 0
namespace Go.Proofs.YtpfbdepoammjmaaGreatDoor.Pvm
open Go Go.Proofs
abbrev wq5p (R : Type) : Type := ((List (Int × (Int × (Int × ((List UInt8) × Bool))))) → (List (Int × (Int × ((List UInt8) × (Bool × ((List (List UInt8)) × (List Int))))))) → Bool → Option R)
def wqdh : List LS := [.obj 1 [.sl (.pr (.int .i64) (.pr (.int .i64) (.pr (.int .i64) (.pr .str .bool)))), .own 21 52 (.pr (.int .i64) (.pr (.int .i64) (.pr .str (.pr .bool (.pr (.sl .str) (.sl (.int .i64)))))))], .any, .any]
noncomputable def wqgf (k : Nat) : CTab := CTab.nil
def wq88 {R : Type} (K : wq5p R) : Out → Option R
  | .ret [.v .bool y2] [(21, .row 52 (.pr (.int .i64) (.pr (.int .i64) (.pr .str (.pr .bool (.pr (.sl .str) (.sl (.int .i64))))))) y1), (1, .var 95 [.v (.sl (.pr (.int .i64) (.pr (.int .i64) (.pr (.int .i64) (.pr .str .bool))))) y0, .row 21])] => K y0 y1 y2
  | _ => none
def wqen : RetSpec := ⟨[.any], [(1, .obj 1 [.sl (.pr (.int .i64) (.pr (.int .i64) (.pr (.int .i64) (.pr .str .bool)))), .own 21 52 (.pr (.int .i64) (.pr (.int .i64) (.pr .str (.pr .bool (.pr (.sl .str) (.sl (.int .i64)))))))])], []⟩
def wqkk : List (Nat × CutSpec) := []
def wqiw : List (Nat × Plan) := []
noncomputable def wqa4 (k : Nat) : Ctx := ⟨tyT, wqkk, wqgf k, [], [1], wqiw, @SH⟩
noncomputable def wq89 : Code := Tryz.f113.body.getD .skip
noncomputable def wqbl (k : Nat) {R : Type}  (x0 : (List (Int × (Int × (Int × ((List UInt8) × Bool)))))) (x1 : (List (Int × (Int × ((List UInt8) × (Bool × ((List (List UInt8)) × (List Int)))))))) (x2 x3 : Int) (K : wq5p R) : Option R := (@cond (@Option R) (@Bool.or (@Bool.not (@BEq.beq (@Kd.T Kd.bool) (@instBEqOfDecidableEq (@Kd.T Kd.bool) @instDecidableEqBool) (@Decidable.decide (@GT.gt Int Int.instLTInt (@Nat.cast Int instNatCastInt (@List.length (@Kd.T (@Kd.pr kI (@Kd.pr kI (@Kd.pr kI (@Kd.pr Kd.str Kd.bool))))) x0)) (0 : Int)) (@Int.decLt (0 : Int) (@Nat.cast Int instNatCastInt (@List.length (@Kd.T (@Kd.pr kI (@Kd.pr kI (@Kd.pr kI (@Kd.pr Kd.str Kd.bool))))) x0)))) Bool.true)) (@inb (0 : Int) (@Nat.cast Int instNatCastInt (@List.length (@Kd.T (@Kd.pr kI (@Kd.pr kI (@Kd.pr kI (@Kd.pr Kd.str Kd.bool))))) x0)))) (@cond (@Option R) (@Bool.or (@Bool.not (@BEq.beq (@Kd.T Kd.bool) (@instBEqOfDecidableEq (@Kd.T Kd.bool) @instDecidableEqBool) (@cond (@Kd.T Kd.bool) (@Decidable.decide (@GT.gt Int Int.instLTInt (@Nat.cast Int instNatCastInt (@List.length (@Kd.T (@Kd.pr kI (@Kd.pr kI (@Kd.pr kI (@Kd.pr Kd.str Kd.bool))))) x0)) (0 : Int)) (@Int.decLt (0 : Int) (@Nat.cast Int instNatCastInt (@List.length (@Kd.T (@Kd.pr kI (@Kd.pr kI (@Kd.pr kI (@Kd.pr Kd.str Kd.bool))))) x0)))) (@BEq.beq Int (@instBEqOfDecidableEq Int @Int.instDecidableEq) (@List.getD (@Kd.T (@Kd.pr kI (@Kd.pr kI (@Kd.pr kI (@Kd.pr Kd.str Kd.bool))))) x0 (@Int.toNat (0 : Int)) (@Kd.zero (@Kd.pr kI (@Kd.pr kI (@Kd.pr kI (@Kd.pr Kd.str Kd.bool)))))).1 x2) Bool.false) Bool.true)) (@inb (0 : Int) (@Nat.cast Int instNatCastInt (@List.length (@Kd.T (@Kd.pr kI (@Kd.pr kI (@Kd.pr kI (@Kd.pr Kd.str Kd.bool))))) x0)))) (K x0 x1 (@cond (@Kd.T Kd.bool) (@cond (@Kd.T Kd.bool) (@Decidable.decide (@GT.gt Int Int.instLTInt (@Nat.cast Int instNatCastInt (@List.length (@Kd.T (@Kd.pr kI (@Kd.pr kI (@Kd.pr kI (@Kd.pr Kd.str Kd.bool))))) x0)) (0 : Int)) (@Int.decLt (0 : Int) (@Nat.cast Int instNatCastInt (@List.length (@Kd.T (@Kd.pr kI (@Kd.pr kI (@Kd.pr kI (@Kd.pr Kd.str Kd.bool))))) x0)))) (@BEq.beq Int (@instBEqOfDecidableEq Int @Int.instDecidableEq) (@List.getD (@Kd.T (@Kd.pr kI (@Kd.pr kI (@Kd.pr kI (@Kd.pr Kd.str Kd.bool))))) x0 (@Int.toNat (0 : Int)) (@Kd.zero (@Kd.pr kI (@Kd.pr kI (@Kd.pr kI (@Kd.pr Kd.str Kd.bool)))))).1 x2) Bool.false) (@BEq.beq Int (@instBEqOfDecidableEq Int @Int.instDecidableEq) (@List.getD (@Kd.T (@Kd.pr kI (@Kd.pr kI (@Kd.pr kI (@Kd.pr Kd.str Kd.bool))))) x0 (@Int.toNat (0 : Int)) (@Kd.zero (@Kd.pr kI (@Kd.pr kI (@Kd.pr kI (@Kd.pr Kd.str Kd.bool)))))).2.2.1 x3) Bool.false)) (@Option.none R)) (@Option.none R))
theorem wqkl (k : Nat) {R : Type} (I : Nat → St → Option R) (x0 : (List (Int × (Int × (Int × ((List UInt8) × Bool)))))) (x1 : (List (Int × (Int × ((List UInt8) × (Bool × ((List (List UInt8)) × (List Int)))))))) (x2 x3 : Int) (K : wq5p R) : fnK (wqa4 k) k wq89 35 [.tmp 6] wqen [.ptr 1 0, .v (.int .i64) x2, .v (.int .i64) x3] [(21, .row 52 (.pr (.int .i64) (.pr (.int .i64) (.pr .str (.pr .bool (.pr (.sl .str) (.sl (.int .i64))))))) x1), (1, .var 95 [.v (.sl (.pr (.int .i64) (.pr (.int .i64) (.pr (.int .i64) (.pr .str .bool))))) x0, .row 21])] (wq88 K) = wqbl k  x0 x1 x2 x3 K := by kernel_rfl
noncomputable def wq57 (k : Nat) {R : Type} (x0 : (List (Int × (Int × (Int × ((List UInt8) × Bool)))))) (x1 : (List (Int × (Int × ((List UInt8) × (Bool × ((List (List UInt8)) × (List Int)))))))) (x2 x3 : Int) (K : wq5p R) : Option R := wqbl k  x0 x1 x2 x3 K
theorem wqkm (k : Nat) {R : Type} (x0 : (List (Int × (Int × (Int × ((List UInt8) × Bool)))))) (x1 : (List (Int × (Int × ((List UInt8) × (Bool × ((List (List UInt8)) × (List Int)))))))) (x2 x3 : Int) (K : wq5p R) : fnK (wqa4 k) k wq89 35 [.tmp 6] wqen [.ptr 1 0, .v (.int .i64) x2, .v (.int .i64) x3] [(21, .row 52 (.pr (.int .i64) (.pr (.int .i64) (.pr .str (.pr .bool (.pr (.sl .str) (.sl (.int .i64))))))) x1), (1, .var 95 [.v (.sl (.pr (.int .i64) (.pr (.int .i64) (.pr (.int .i64) (.pr .str .bool))))) x0, .row 21])] (wq88 K) = wq57 k x0 x1 x2 x3 K := by
  exact wqkl k (fun _ _ => none) x0 x1 x2 x3 K
noncomputable def wq6e (k : Nat) {R : Type} : List PV → List (Nm × HObj) → (Out → Option R) → Option R
  | [.ptr 1 0, .v (.int .i64) x2, .v (.int .i64) x3], [(21, .row 52 (.pr (.int .i64) (.pr (.int .i64) (.pr .str (.pr .bool (.pr (.sl .str) (.sl (.int .i64))))))) x1), (1, .var 95 [.v (.sl (.pr (.int .i64) (.pr (.int .i64) (.pr (.int .i64) (.pr .str .bool))))) x0, .row 21])], K => wq57 k x0 x1 x2 x3 (fun y0 y1 y2 => K (.ret [.v .bool y2] [(21, .row 52 (.pr (.int .i64) (.pr (.int .i64) (.pr .str (.pr .bool (.pr (.sl .str) (.sl (.int .i64))))))) y1), (1, .var 95 [.v (.sl (.pr (.int .i64) (.pr (.int .i64) (.pr (.int .i64) (.pr .str .bool))))) y0, .row 21])]))
  | _, _, _ => none
theorem wqkn (k : Nat) : (wqgf k).Ok Tryz.prog := CTab.nil_ok
theorem wqgg (k : Nat) {ps : List PV} {hp : List (Nm × HObj)} {R : Type} {K : Out → Option R} {r : R} (h : wq6e k ps hp K = some r) : DoesTo Tryz.prog 113 ps hp fun out => K out = some r := by
  unfold wq6e at h
  split at h
  · rw [← wqkm] at h
    have := fn_ok (P := Tryz.prog) (cx := wqa4 k) (f := 113) ⟨tyT_ok, wqkn k, fun _ _ => rfl⟩ (by kernel_rfl) (fn := Tryz.f113) (c := wq89) (by kernel_rfl) (by kernel_rfl) (by kernel_rfl) (rs := [.tmp 6]) (by kernel_rfl) (by kernel_rfl) h
    exact this.mono fun out ho => by
      unfold wq88 at ho
      split at ho <;> first | exact ho | cases ho
  · cases h
end Go.Proofs.YtpfbdepoammjmaaGreatDoor.Pvm

set_option maxRecDepth 1000000
set_option maxHeartbeats 0
namespace Go.Proofs.YtpfbdepoammjmaaGreatDoor.Pvm
open Go Go.Proofs
abbrev wq5q (R : Type) : Type := ((List (Int × (Int × (Int × ((List UInt8) × Bool))))) → (List (Int × (Int × ((List UInt8) × (Bool × ((List (List UInt8)) × (List Int))))))) → Int → Int → Int → (List UInt8) → Bool → Option R)
def wq9a : List LS := [.obj 1 [.sl (.pr (.int .i64) (.pr (.int .i64) (.pr (.int .i64) (.pr .str .bool)))), .own 21 52 (.pr (.int .i64) (.pr (.int .i64) (.pr .str (.pr .bool (.pr (.sl .str) (.sl (.int .i64)))))))]]
noncomputable def wqgh (k : Nat) : CTab := CTab.nil
def wq8a {R : Type} (K : wq5q R) : Out → Option R
  | .ret [.agg [.v (.int .i64) y2, .v (.int .i64) y3, .v (.int .i64) y4, .v .str y5, .v .bool y6]] [(21, .row 52 (.pr (.int .i64) (.pr (.int .i64) (.pr .str (.pr .bool (.pr (.sl .str) (.sl (.int .i64))))))) y1), (1, .var 95 [.v (.sl (.pr (.int .i64) (.pr (.int .i64) (.pr (.int .i64) (.pr .str .bool))))) y0, .row 21])] => K y0 y1 y2 y3 y4 y5 y6
  | _ => none
def wqeo : RetSpec := ⟨[.ag [.any, .any, .any, .any, .any]], [(1, .obj 1 [.sl (.pr (.int .i64) (.pr (.int .i64) (.pr (.int .i64) (.pr .str .bool)))), .own 21 52 (.pr (.int .i64) (.pr (.int .i64) (.pr .str (.pr .bool (.pr (.sl .str) (.sl (.int .i64)))))))])], []⟩
def wqko : List (Nat × CutSpec) := []
def wqix : List (Nat × Plan) := []
noncomputable def wqa5 (k : Nat) : Ctx := ⟨tyT, wqko, wqgh k, [], [1], wqix, @SH⟩
noncomputable def wq8b : Code := Tryz.f76.body.getD .skip
noncomputable def wqbm (k : Nat) {R : Type}  (x0 : (List (Int × (Int × (Int × ((List UInt8) × Bool)))))) (x1 : (List (Int × (Int × ((List UInt8) × (Bool × ((List (List UInt8)) × (List Int)))))))) (K : wq5q R) : Option R := (@cond (@Option R) (@inb (0 : Int) (@Nat.cast Int instNatCastInt (@List.length (@Kd.T (@Kd.pr kI (@Kd.pr kI (@Kd.pr kI (@Kd.pr Kd.str Kd.bool))))) x0))) (@cond (@Option R) (@bnd (1 : Int) (@Nat.cast Int instNatCastInt (@List.length (@Kd.T (@Kd.pr kI (@Kd.pr kI (@Kd.pr kI (@Kd.pr Kd.str Kd.bool))))) x0)) (@Nat.cast Int instNatCastInt (@List.length (@Kd.T (@Kd.pr kI (@Kd.pr kI (@Kd.pr kI (@Kd.pr Kd.str Kd.bool))))) x0))) (K (@cut (@Kd.T (@Kd.pr kI (@Kd.pr kI (@Kd.pr kI (@Kd.pr Kd.str Kd.bool))))) x0 (1 : Int) (@Nat.cast Int instNatCastInt (@List.length (@Kd.T (@Kd.pr kI (@Kd.pr kI (@Kd.pr kI (@Kd.pr Kd.str Kd.bool))))) x0))) x1 (@List.getD (@Kd.T (@Kd.pr kI (@Kd.pr kI (@Kd.pr kI (@Kd.pr Kd.str Kd.bool))))) x0 (@Int.toNat (0 : Int)) (@Kd.zero (@Kd.pr kI (@Kd.pr kI (@Kd.pr kI (@Kd.pr Kd.str Kd.bool)))))).1 (@List.getD (@Kd.T (@Kd.pr kI (@Kd.pr kI (@Kd.pr kI (@Kd.pr Kd.str Kd.bool))))) x0 (@Int.toNat (0 : Int)) (@Kd.zero (@Kd.pr kI (@Kd.pr kI (@Kd.pr kI (@Kd.pr Kd.str Kd.bool)))))).2.1 (@List.getD (@Kd.T (@Kd.pr kI (@Kd.pr kI (@Kd.pr kI (@Kd.pr Kd.str Kd.bool))))) x0 (@Int.toNat (0 : Int)) (@Kd.zero (@Kd.pr kI (@Kd.pr kI (@Kd.pr kI (@Kd.pr Kd.str Kd.bool)))))).2.2.1 (@List.getD (@Kd.T (@Kd.pr kI (@Kd.pr kI (@Kd.pr kI (@Kd.pr Kd.str Kd.bool))))) x0 (@Int.toNat (0 : Int)) (@Kd.zero (@Kd.pr kI (@Kd.pr kI (@Kd.pr kI (@Kd.pr Kd.str Kd.bool)))))).2.2.2.1 (@List.getD (@Kd.T (@Kd.pr kI (@Kd.pr kI (@Kd.pr kI (@Kd.pr Kd.str Kd.bool))))) x0 (@Int.toNat (0 : Int)) (@Kd.zero (@Kd.pr kI (@Kd.pr kI (@Kd.pr kI (@Kd.pr Kd.str Kd.bool)))))).2.2.2.2) (@Option.none R)) (@Option.none R))
theorem wqkp (k : Nat) {R : Type} (I : Nat → St → Option R) (x0 : (List (Int × (Int × (Int × ((List UInt8) × Bool)))))) (x1 : (List (Int × (Int × ((List UInt8) × (Bool × ((List (List UInt8)) × (List Int)))))))) (K : wq5q R) : fnK (wqa5 k) k wq8b 19 [.cell 2 97] wqeo [.ptr 1 0] [(21, .row 52 (.pr (.int .i64) (.pr (.int .i64) (.pr .str (.pr .bool (.pr (.sl .str) (.sl (.int .i64))))))) x1), (1, .var 95 [.v (.sl (.pr (.int .i64) (.pr (.int .i64) (.pr (.int .i64) (.pr .str .bool))))) x0, .row 21])] (wq8a K) = wqbm k  x0 x1 K := by kernel_rfl
noncomputable def wq4h (k : Nat) {R : Type} (x0 : (List (Int × (Int × (Int × ((List UInt8) × Bool)))))) (x1 : (List (Int × (Int × ((List UInt8) × (Bool × ((List (List UInt8)) × (List Int)))))))) (K : wq5q R) : Option R := wqbm k  x0 x1 K
theorem wqkq (k : Nat) {R : Type} (x0 : (List (Int × (Int × (Int × ((List UInt8) × Bool)))))) (x1 : (List (Int × (Int × ((List UInt8) × (Bool × ((List (List UInt8)) × (List Int)))))))) (K : wq5q R) : fnK (wqa5 k) k wq8b 19 [.cell 2 97] wqeo [.ptr 1 0] [(21, .row 52 (.pr (.int .i64) (.pr (.int .i64) (.pr .str (.pr .bool (.pr (.sl .str) (.sl (.int .i64))))))) x1), (1, .var 95 [.v (.sl (.pr (.int .i64) (.pr (.int .i64) (.pr (.int .i64) (.pr .str .bool))))) x0, .row 21])] (wq8a K) = wq4h k x0 x1 K := by
  exact wqkp k (fun _ _ => none) x0 x1 K
noncomputable def wq5a (k : Nat) {R : Type} : List PV → List (Nm × HObj) → (Out → Option R) → Option R
  | [.ptr 1 0], [(21, .row 52 (.pr (.int .i64) (.pr (.int .i64) (.pr .str (.pr .bool (.pr (.sl .str) (.sl (.int .i64))))))) x1), (1, .var 95 [.v (.sl (.pr (.int .i64) (.pr (.int .i64) (.pr (.int .i64) (.pr .str .bool))))) x0, .row 21])], K => wq4h k x0 x1 (fun y0 y1 y2 y3 y4 y5 y6 => K (.ret [.agg [.v (.int .i64) y2, .v (.int .i64) y3, .v (.int .i64) y4, .v .str y5, .v .bool y6]] [(21, .row 52 (.pr (.int .i64) (.pr (.int .i64) (.pr .str (.pr .bool (.pr (.sl .str) (.sl (.int .i64))))))) y1), (1, .var 95 [.v (.sl (.pr (.int .i64) (.pr (.int .i64) (.pr (.int .i64) (.pr .str .bool))))) y0, .row 21])]))
  | _, _, _ => none
theorem wqkr (k : Nat) : (wqgh k).Ok Tryz.prog := CTab.nil_ok
theorem wqbn (k : Nat) {ps : List PV} {hp : List (Nm × HObj)} {R : Type} {K : Out → Option R} {r : R} (h : wq5a k ps hp K = some r) : DoesTo Tryz.prog 76 ps hp fun out => K out = some r := by
  unfold wq5a at h
  split at h
  · rw [← wqkq] at h
    have := fn_ok (P := Tryz.prog) (cx := wqa5 k) (f := 76) ⟨tyT_ok, wqkr k, fun _ _ => rfl⟩ (by kernel_rfl) (fn := Tryz.f76) (c := wq8b) (by kernel_rfl) (by kernel_rfl) (by kernel_rfl) (rs := [.cell 2 97]) (by kernel_rfl) (by kernel_rfl) h
    exact this.mono fun out ho => by
      unfold wq8a at ho
      split at ho <;> first | exact ho | cases ho
  · cases h
end Go.Proofs.YtpfbdepoammjmaaGreatDoor.Pvm

set_option maxRecDepth 1000000
set_option maxHeartbeats 0
namespace Go.Proofs.YtpfbdepoammjmaaGreatDoor.Pvm
open Go Go.Proofs
def wqa6 : List LS := [.sl .str, .any]
noncomputable def wq68 (k : Nat) : CTab := CTab.nil
def wq10 {R : Type} (K : (Int → Option R)) : Out → Option R
  | .ret [.v (.int .i64) y0] [] => K y0
  | _ => none
def wq1c : RetSpec := ⟨[.any], [], []⟩
def wq9x : List (Nat × CutSpec) := [(1002, ⟨[(0, .sl .str), (1, .any), (7, .any), (8, .any)], []⟩)]
def wq9b : List (Nat × Plan) := []
noncomputable def wq4 (k : Nat) : Ctx := ⟨tyT, wq9x, wq68 k, [], [], wq9b, @SH⟩
noncomputable def wqj : Code := Tryz.f148.body.getD .skip
def wq18 (s0 : (List (List UInt8))) (s1 : (List UInt8)) (s2 s3 : Int) : St := ⟨mkT [(0, .v (.sl .str) s0), (1, .v .str s1), (7, .v (.int .i64) s2), (8, .v (.int .i64) s3)], mkH []⟩
noncomputable def wq2a (k : Nat) {R : Type} (E1002 : ((List (List UInt8)) → (List UInt8) → Int → Int → Option R)) (s0 : (List (List UInt8))) (s1 : (List UInt8)) (s2 s3 : Int) (K : (Int → Option R)) : Option R := (@cond (@Option R) (@Decidable.decide (@LT.lt Int Int.instLTInt s3 s2) (@Int.decLt s3 s2)) (@cond (@Option R) (@inb s3 (@Nat.cast Int instNatCastInt (@List.length (@Kd.T Kd.str) s0))) (@cond (@Option R) (@BEq.beq (@List UInt8) (@List.instBEq UInt8 (@instBEqOfDecidableEq UInt8 @instDecidableEqUInt8)) s1 (@List.getD (@Kd.T Kd.str) s0 (@Int.toNat s3) (@Kd.zero Kd.str))) (K s3) (E1002 s0 s1 s2 (@Go.IntKind.wrap Go.IntKind.i64 (@HAdd.hAdd Int Int Int (@instHAdd Int @Int.instAdd) s3 (1 : Int))))) (@Option.none R)) (K (@Neg.neg Int @Int.instNegInt (1 : Int))))
theorem wq7g (k : Nat) {R : Type} (I : Nat → St → Option R) (s0 : (List (List UInt8))) (s1 : (List UInt8)) (s2 s3 : Int) (K : (Int → Option R)) : execK (wq4 k) k (at_ [1, 0, 1, 0, 0] wqj) (wq18 s0 s1 s2 s3) (konts (wq4 k) k I [1, 0, 1, 0, 0] wqj (outK (wq4 k) wq1c [.tmp 4] (wq10 K))) = wq2a k (fun s0 s1 s2 s3 => I 1002 (wq18 s0 s1 s2 s3)) s0 s1 s2 s3 K := by kernel_rfl
noncomputable def wq33 (k : Nat) {R : Type} (E1002 : ((List (List UInt8)) → (List UInt8) → Int → Int → Option R)) (x0 : (List (List UInt8))) (x1 : (List UInt8)) (K : (Int → Option R)) : Option R := (E1002 x0 x1 (@Nat.cast Int instNatCastInt (@List.length (@Kd.T Kd.str) x0)) (0 : Int))
theorem wq9y (k : Nat) {R : Type} (I : Nat → St → Option R) (x0 : (List (List UInt8))) (x1 : (List UInt8)) (K : (Int → Option R)) : fnK (wq4 k) k wqj 19 [.tmp 4] wq1c [.v (.sl .str) x0, .v .str x1] [] (wq10 K) = wq33 k (fun s0 s1 s2 s3 => iter (wq4 k).pv (look (wq4 k).cuts 1002) (execK (wq4 k) k (at_ [1, 0, 1, 0, 0] wqj)) k (wq18 s0 s1 s2 s3) (konts (wq4 k) k I [1, 0, 1, 0] wqj (outK (wq4 k) wq1c [.tmp 4] (wq10 K)))) x0 x1 K := by kernel_rfl
noncomputable def wqx (k : Nat) {R : Type}  : Nat → (List (List UInt8)) → (List UInt8) → Int → Int → (Int → Option R) → Option R
  | 0, _, _, _, _, _ => none
  | n + 1, s0, s1, s2, s3, K => wq2a k (fun s0 s1 s2 s3 => wqx k  n s0 s1 s2 s3 K) s0 s1 s2 s3 K
theorem wq7h (k : Nat) {R : Type} (I : Nat → St → Option R) (K : (Int → Option R)) : ∀ (n : Nat) (s0 : (List (List UInt8))) (s1 : (List UInt8)) (s2 s3 : Int), iter (wq4 k).pv (look (wq4 k).cuts 1002) (execK (wq4 k) k (at_ [1, 0, 1, 0, 0] wqj)) n (wq18 s0 s1 s2 s3) (konts (wq4 k) k I [1, 0, 1, 0] wqj (outK (wq4 k) wq1c [.tmp 4] (wq10 K))) = wqx k  n s0 s1 s2 s3 K := by
  intro n
  induction n with
  | zero => intros; rfl
  | succ n ih =>
    intro s0 s1 s2 s3
    let I' : Nat → St → Option R := fun id s => bif Nat.beq id 1002 then iter (wq4 k).pv (look (wq4 k).cuts 1002) (execK (wq4 k) k (at_ [1, 0, 1, 0, 0] wqj)) n s (konts (wq4 k) k I [1, 0, 1, 0] wqj (outK (wq4 k) wq1c [.tmp 4] (wq10 K))) else I id s
    have e := wq7g k I' s0 s1 s2 s3 K
    have h1002 : (fun s0 s1 s2 s3 => I' 1002 (wq18 s0 s1 s2 s3)) = (fun s0 s1 s2 s3 => wqx k  n s0 s1 s2 s3 K) := by funext s0 s1 s2 s3; exact ih s0 s1 s2 s3
    refine Eq.trans (?_ : _ = _) (e.trans (Eq.trans ((congrArg ((fun E1002 => wq2a k E1002 s0 s1 s2 s3 K)) h1002)) (by rw [wqx])))
    rfl
noncomputable def wq34 (k : Nat) {R : Type} (x0 : (List (List UInt8))) (x1 : (List UInt8)) (K : (Int → Option R)) : Option R := wq33 k (fun s0 s1 s2 s3 => wqx k k s0 s1 s2 s3 K) x0 x1 K
theorem wq9z (k : Nat) {R : Type} (x0 : (List (List UInt8))) (x1 : (List UInt8)) (K : (Int → Option R)) : fnK (wq4 k) k wqj 19 [.tmp 4] wq1c [.v (.sl .str) x0, .v .str x1] [] (wq10 K) = wq34 k x0 x1 K := by
  let I : Nat → St → Option R := fun _ _ => none
  have h1002 : (fun s0 s1 s2 s3 => iter (wq4 k).pv (look (wq4 k).cuts 1002) (execK (wq4 k) k (at_ [1, 0, 1, 0, 0] wqj)) k (wq18 s0 s1 s2 s3) (konts (wq4 k) k I [1, 0, 1, 0] wqj (outK (wq4 k) wq1c [.tmp 4] (wq10 K)))) = (fun s0 s1 s2 s3 => wqx k k s0 s1 s2 s3 K) := by funext s0 s1 s2 s3; exact wq7h k I K k s0 s1 s2 s3
  exact (wq9y k I x0 x1 K).trans (congrArg ((fun E1002 => wq33 k E1002 x0 x1 K)) h1002)
noncomputable def wq3y (k : Nat) {R : Type} : List PV → List (Nm × HObj) → (Out → Option R) → Option R
  | [.v (.sl .str) x0, .v .str x1], [], K => wq34 k x0 x1 (fun y0 => K (.ret [.v (.int .i64) y0] []))
  | _, _, _ => none
theorem wqa0 (k : Nat) : (wq68 k).Ok Tryz.prog := CTab.nil_ok
theorem wqbo (k : Nat) {ps : List PV} {hp : List (Nm × HObj)} {R : Type} {K : Out → Option R} {r : R} (h : wq3y k ps hp K = some r) : DoesTo Tryz.prog 148 ps hp fun out => K out = some r := by
  unfold wq3y at h
  split at h
  · rw [← wq9z] at h
    have := fn_ok (P := Tryz.prog) (cx := wq4 k) (f := 148) ⟨tyT_ok, wqa0 k, fun _ _ => rfl⟩ (by kernel_rfl) (fn := Tryz.f148) (c := wqj) (by kernel_rfl) (by kernel_rfl) (by kernel_rfl) (rs := [.tmp 4]) (by kernel_rfl) (by kernel_rfl) h
    exact this.mono fun out ho => by
      unfold wq10 at ho
      split at ho <;> first | exact ho | cases ho
  · cases h
end Go.Proofs.YtpfbdepoammjmaaGreatDoor.Pvm

set_option maxRecDepth 1000000
set_option maxHeartbeats 0
namespace Go.Proofs.YtpfbdepoammjmaaGreatDoor.Pvm
open Go Go.Proofs
def wq98 : List LS := [.sl .str, .any]
noncomputable def wq5l (k : Nat) : CTab := (CTab.add 148 wqa6 (wq3y k) CTab.nil)
def wq36 {R : Type} (K : (Bool → Option R)) : Out → Option R
  | .ret [.v .bool y0] [] => K y0
  | _ => none
def wq5b : RetSpec := ⟨[.any], [], []⟩
def wq8c : List (Nat × CutSpec) := []
def wq7t : List (Nat × Plan) := []
noncomputable def wq3g (k : Nat) : Ctx := ⟨tyT, wq8c, wq5l k, [], [], wq7t, @SH⟩
noncomputable def wq37 : Code := Tryz.f115.body.getD .skip
noncomputable def wq3t (k : Nat) {R : Type}  (x0 : (List (List UInt8))) (x1 : (List UInt8)) (K : (Bool → Option R)) : Option R := (@wq34 k R x0 x1 (fun y5 => (K (@Decidable.decide (@GE.ge Int Int.instLEInt y5 (0 : Int)) (@Int.decLe (0 : Int) y5)))))
theorem wq8d (k : Nat) {R : Type} (I : Nat → St → Option R) (x0 : (List (List UInt8))) (x1 : (List UInt8)) (K : (Bool → Option R)) : fnK (wq3g k) k wq37 9 [.tmp 4] wq5b [.v (.sl .str) x0, .v .str x1] [] (wq36 K) = wq3t k  x0 x1 K := by kernel_rfl
noncomputable def wq1u (k : Nat) {R : Type} (x0 : (List (List UInt8))) (x1 : (List UInt8)) (K : (Bool → Option R)) : Option R := wq3t k  x0 x1 K
theorem wq8e (k : Nat) {R : Type} (x0 : (List (List UInt8))) (x1 : (List UInt8)) (K : (Bool → Option R)) : fnK (wq3g k) k wq37 9 [.tmp 4] wq5b [.v (.sl .str) x0, .v .str x1] [] (wq36 K) = wq1u k x0 x1 K := by
  exact wq8d k (fun _ _ => none) x0 x1 K
noncomputable def wq3f (k : Nat) {R : Type} : List PV → List (Nm × HObj) → (Out → Option R) → Option R
  | [.v (.sl .str) x0, .v .str x1], [], K => wq1u k x0 x1 (fun y0 => K (.ret [.v .bool y0] []))
  | _, _, _ => none
theorem wq8f (k : Nat) : (wq5l k).Ok Tryz.prog := (CTab.add_ok (fun h => wqbo k h) CTab.nil_ok)
theorem wqa1 (k : Nat) {ps : List PV} {hp : List (Nm × HObj)} {R : Type} {K : Out → Option R} {r : R} (h : wq3f k ps hp K = some r) : DoesTo Tryz.prog 115 ps hp fun out => K out = some r := by
  unfold wq3f at h
  split at h
  · rw [← wq8e] at h
    have := fn_ok (P := Tryz.prog) (cx := wq3g k) (f := 115) ⟨tyT_ok, wq8f k, fun _ _ => rfl⟩ (by kernel_rfl) (fn := Tryz.f115) (c := wq37) (by kernel_rfl) (by kernel_rfl) (by kernel_rfl) (rs := [.tmp 4]) (by kernel_rfl) (by kernel_rfl) h
    exact this.mono fun out ho => by
      unfold wq36 at ho
      split at ho <;> first | exact ho | cases ho
  · cases h
end Go.Proofs.YtpfbdepoammjmaaGreatDoor.Pvm

set_option maxRecDepth 1000000
set_option maxHeartbeats 0
namespace Go.Proofs.YtpfbdepoammjmaaGreatDoor.Pvm
open Go Go.Proofs
abbrev wqc : Type 1 := (R : Type) → (List (Int × (Int × (Int × ((List UInt8) × Bool))))) → (List (Int × (Int × ((List UInt8) × (Bool × ((List (List UInt8)) × (List Int))))))) → Int → ((List (Int × (Int × (Int × ((List UInt8) × Bool))))) → (List (Int × (Int × ((List UInt8) × (Bool × ((List (List UInt8)) × (List Int))))))) → Int → Option R) → ((List (Int × (Int × (Int × ((List UInt8) × Bool))))) → (List (Int × (Int × ((List UInt8) × (Bool × ((List (List UInt8)) × (List Int))))))) → Int → Int → Option R) → Option R
abbrev wqi : Type 1 := (R : Type) → (List (Int × (Int × (Int × ((List UInt8) × Bool))))) → (List (Int × (Int × ((List UInt8) × (Bool × ((List (List UInt8)) × (List Int))))))) → Int → Int → Int → ((List (Int × (Int × (Int × ((List UInt8) × Bool))))) → (List (Int × (Int × ((List UInt8) × (Bool × ((List (List UInt8)) × (List Int))))))) → Option R) → ((List (Int × (Int × (Int × ((List UInt8) × Bool))))) → (List (Int × (Int × ((List UInt8) × (Bool × ((List (List UInt8)) × (List Int))))))) → Int → Int → Option R) → Option R
abbrev wqd : Type 1 := (R : Type) → (List (Int × (Int × (Int × ((List UInt8) × Bool))))) → (List (Int × (Int × ((List UInt8) × (Bool × ((List (List UInt8)) × (List Int))))))) → Int → Int → Int → ((List (Int × (Int × (Int × ((List UInt8) × Bool))))) → (List (Int × (Int × ((List UInt8) × (Bool × ((List (List UInt8)) × (List Int))))))) → Option R) → ((List (Int × (Int × (Int × ((List UInt8) × Bool))))) → (List (Int × (Int × ((List UInt8) × (Bool × ((List (List UInt8)) × (List Int))))))) → Int → Int → Option R) → Option R
abbrev wqe : Type 1 := (R : Type) → (List (Int × (Int × (Int × ((List UInt8) × Bool))))) → (List (Int × (Int × ((List UInt8) × (Bool × ((List (List UInt8)) × (List Int))))))) → Int → Int → Int → (List UInt8) → Bool → Int → ((List (Int × (Int × (Int × ((List UInt8) × Bool))))) → (List (Int × (Int × ((List UInt8) × (Bool × ((List (List UInt8)) × (List Int))))))) → Int → Option R) → ((List (Int × (Int × (Int × ((List UInt8) × Bool))))) → (List (Int × (Int × ((List UInt8) × (Bool × ((List (List UInt8)) × (List Int))))))) → Int → Int → Option R) → Option R
abbrev wq22 (R : Type) : Type := ((List (Int × (Int × (Int × ((List UInt8) × Bool))))) → (List (Int × (Int × ((List UInt8) × (Bool × ((List (List UInt8)) × (List Int))))))) → Int → Option R)
abbrev wqk (R : Type) : Type := ((List (Int × (Int × (Int × ((List UInt8) × Bool))))) → (List (Int × (Int × ((List UInt8) × (Bool × ((List (List UInt8)) × (List Int))))))) → Int → Int → Option R)
abbrev wq13 (R : Type) : Type := ((List (Int × (Int × (Int × ((List UInt8) × Bool))))) → (List (Int × (Int × ((List UInt8) × (Bool × ((List (List UInt8)) × (List Int))))))) → Option R)
def wqcm : List LS := [.obj 1 [.sl (.pr (.int .i64) (.pr (.int .i64) (.pr (.int .i64) (.pr .str .bool)))), .own 21 52 (.pr (.int .i64) (.pr (.int .i64) (.pr .str (.pr .bool (.pr (.sl .str) (.sl (.int .i64)))))))], .any]
noncomputable def wq7i (wq1 : wqc) {R : Type} : List PV → List (Nm × HObj) → (Out → Option R) → Option R
  | [.ptr 1 0, .v (.int .i64) x2], [(21, .row 52 (.pr (.int .i64) (.pr (.int .i64) (.pr .str (.pr .bool (.pr (.sl .str) (.sl (.int .i64))))))) x1), (1, .var 95 [.v (.sl (.pr (.int .i64) (.pr (.int .i64) (.pr (.int .i64) (.pr .str .bool))))) x0, .row 21])], K => wq1 R x0 x1 x2 (fun y0 y1 y2 => K (.ret [.v (.int .i64) y2] [(21, .row 52 (.pr (.int .i64) (.pr (.int .i64) (.pr .str (.pr .bool (.pr (.sl .str) (.sl (.int .i64))))))) y1), (1, .var 95 [.v (.sl (.pr (.int .i64) (.pr (.int .i64) (.pr (.int .i64) (.pr .str .bool))))) y0, .row 21])])) (fun z0 z1 z2 z3 => K (.pan (.ifc 28 (.agg [.v (.int .i64) z2, .v (.int .i64) z3])) [(21, .row 52 (.pr (.int .i64) (.pr (.int .i64) (.pr .str (.pr .bool (.pr (.sl .str) (.sl (.int .i64))))))) z1), (1, .var 95 [.v (.sl (.pr (.int .i64) (.pr (.int .i64) (.pr (.int .i64) (.pr .str .bool))))) z0, .row 21])]))
  | _, _, _ => none
def wqmk : List LS := [.obj 1 [.sl (.pr (.int .i64) (.pr (.int .i64) (.pr (.int .i64) (.pr .str .bool)))), .own 21 52 (.pr (.int .i64) (.pr (.int .i64) (.pr .str (.pr .bool (.pr (.sl .str) (.sl (.int .i64)))))))], .any, .any, .any]
noncomputable def wq8g (wq3 : wqi) {R : Type} : List PV → List (Nm × HObj) → (Out → Option R) → Option R
  | [.ptr 1 0, .v (.int .i64) x2, .v (.int .i64) x3, .v (.int .i64) x4], [(21, .row 52 (.pr (.int .i64) (.pr (.int .i64) (.pr .str (.pr .bool (.pr (.sl .str) (.sl (.int .i64))))))) x1), (1, .var 95 [.v (.sl (.pr (.int .i64) (.pr (.int .i64) (.pr (.int .i64) (.pr .str .bool))))) x0, .row 21])], K => wq3 R x0 x1 x2 x3 x4 (fun y0 y1 => K (.ret [] [(21, .row 52 (.pr (.int .i64) (.pr (.int .i64) (.pr .str (.pr .bool (.pr (.sl .str) (.sl (.int .i64))))))) y1), (1, .var 95 [.v (.sl (.pr (.int .i64) (.pr (.int .i64) (.pr (.int .i64) (.pr .str .bool))))) y0, .row 21])])) (fun z0 z1 z2 z3 => K (.pan (.ifc 28 (.agg [.v (.int .i64) z2, .v (.int .i64) z3])) [(21, .row 52 (.pr (.int .i64) (.pr (.int .i64) (.pr .str (.pr .bool (.pr (.sl .str) (.sl (.int .i64))))))) z1), (1, .var 95 [.v (.sl (.pr (.int .i64) (.pr (.int .i64) (.pr (.int .i64) (.pr .str .bool))))) z0, .row 21])]))
  | _, _, _ => none
def wqks : List LS := [.obj 1 [.sl (.pr (.int .i64) (.pr (.int .i64) (.pr (.int .i64) (.pr .str .bool)))), .own 21 52 (.pr (.int .i64) (.pr (.int .i64) (.pr .str (.pr .bool (.pr (.sl .str) (.sl (.int .i64)))))))], .any, .any, .any]
noncomputable def wq7j (wq2 : wqd) {R : Type} : List PV → List (Nm × HObj) → (Out → Option R) → Option R
  | [.ptr 1 0, .v (.int .i64) x2, .v (.int .i64) x3, .v (.int .i64) x4], [(21, .row 52 (.pr (.int .i64) (.pr (.int .i64) (.pr .str (.pr .bool (.pr (.sl .str) (.sl (.int .i64))))))) x1), (1, .var 95 [.v (.sl (.pr (.int .i64) (.pr (.int .i64) (.pr (.int .i64) (.pr .str .bool))))) x0, .row 21])], K => wq2 R x0 x1 x2 x3 x4 (fun y0 y1 => K (.ret [] [(21, .row 52 (.pr (.int .i64) (.pr (.int .i64) (.pr .str (.pr .bool (.pr (.sl .str) (.sl (.int .i64))))))) y1), (1, .var 95 [.v (.sl (.pr (.int .i64) (.pr (.int .i64) (.pr (.int .i64) (.pr .str .bool))))) y0, .row 21])])) (fun z0 z1 z2 z3 => K (.pan (.ifc 28 (.agg [.v (.int .i64) z2, .v (.int .i64) z3])) [(21, .row 52 (.pr (.int .i64) (.pr (.int .i64) (.pr .str (.pr .bool (.pr (.sl .str) (.sl (.int .i64))))))) z1), (1, .var 95 [.v (.sl (.pr (.int .i64) (.pr (.int .i64) (.pr (.int .i64) (.pr .str .bool))))) z0, .row 21])]))
  | _, _, _ => none
def wqcn : List LS := [.obj 1 [.sl (.pr (.int .i64) (.pr (.int .i64) (.pr (.int .i64) (.pr .str .bool)))), .own 21 52 (.pr (.int .i64) (.pr (.int .i64) (.pr .str (.pr .bool (.pr (.sl .str) (.sl (.int .i64)))))))], .ag [.any, .any, .any, .any, .any], .any]
noncomputable def wq3p (wq0 : wqe) {R : Type} : List PV → List (Nm × HObj) → (Out → Option R) → Option R
  | [.ptr 1 0, .agg [.v (.int .i64) x2, .v (.int .i64) x3, .v (.int .i64) x4, .v .str x5, .v .bool x6], .v (.int .i64) x7], [(21, .row 52 (.pr (.int .i64) (.pr (.int .i64) (.pr .str (.pr .bool (.pr (.sl .str) (.sl (.int .i64))))))) x1), (1, .var 95 [.v (.sl (.pr (.int .i64) (.pr (.int .i64) (.pr (.int .i64) (.pr .str .bool))))) x0, .row 21])], K => wq0 R x0 x1 x2 x3 x4 x5 x6 x7 (fun y0 y1 y2 => K (.ret [.v (.int .i64) y2] [(21, .row 52 (.pr (.int .i64) (.pr (.int .i64) (.pr .str (.pr .bool (.pr (.sl .str) (.sl (.int .i64))))))) y1), (1, .var 95 [.v (.sl (.pr (.int .i64) (.pr (.int .i64) (.pr (.int .i64) (.pr .str .bool))))) y0, .row 21])])) (fun z0 z1 z2 z3 => K (.pan (.ifc 28 (.agg [.v (.int .i64) z2, .v (.int .i64) z3])) [(21, .row 52 (.pr (.int .i64) (.pr (.int .i64) (.pr .str (.pr .bool (.pr (.sl .str) (.sl (.int .i64))))))) z1), (1, .var 95 [.v (.sl (.pr (.int .i64) (.pr (.int .i64) (.pr (.int .i64) (.pr .str .bool))))) z0, .row 21])]))
  | _, _, _ => none
noncomputable def wqep (k : Nat) (wq1 : wqc) (wq3 : wqi) (wq2 : wqd) (wq0 : wqe) : CTab := (CTab.add 42 wqdg (wq93 k) (CTab.add 76 wq9a (wq5a k) (CTab.add 77 wqmk (wq8g wq3) (CTab.add 78 wqks (wq7j wq2) CTab.nil))))
def wq7k {R : Type} (K : wq22 R) (E : wqk R) : Out → Option R
  | .ret [.v (.int .i64) y2] [(21, .row 52 (.pr (.int .i64) (.pr (.int .i64) (.pr .str (.pr .bool (.pr (.sl .str) (.sl (.int .i64))))))) y1), (1, .var 95 [.v (.sl (.pr (.int .i64) (.pr (.int .i64) (.pr (.int .i64) (.pr .str .bool))))) y0, .row 21])] => K y0 y1 y2
  | .pan (.ifc 28 (.agg [.v (.int .i64) z2, .v (.int .i64) z3])) [(21, .row 52 (.pr (.int .i64) (.pr (.int .i64) (.pr .str (.pr .bool (.pr (.sl .str) (.sl (.int .i64))))))) z1), (1, .var 95 [.v (.sl (.pr (.int .i64) (.pr (.int .i64) (.pr (.int .i64) (.pr .str .bool))))) z0, .row 21])] => E z0 z1 z2 z3
  | _ => none
def wqdi : RetSpec := ⟨[.any], [(1, .obj 1 [.sl (.pr (.int .i64) (.pr (.int .i64) (.pr (.int .i64) (.pr .str .bool)))), .own 21 52 (.pr (.int .i64) (.pr (.int .i64) (.pr .str (.pr .bool (.pr (.sl .str) (.sl (.int .i64)))))))])], [(1, .obj 1 [.sl (.pr (.int .i64) (.pr (.int .i64) (.pr (.int .i64) (.pr .str .bool)))), .own 21 52 (.pr (.int .i64) (.pr (.int .i64) (.pr .str (.pr .bool (.pr (.sl .str) (.sl (.int .i64)))))))])]⟩
def wqiy : List (Nat × CutSpec) := []
def wqh8 : List (Nat × Plan) := [(9, (.of [(0, 1), (1, 1), (2, 1), (3, 1), (4, 1), (6, 1), (5, 1), (7, 1), (8, 1), (9, 0), (10, 0), (11, 1), (12, 1), (13, 1), (14, 0)] .done)), (14, (.of [(0, 1), (1, 1), (2, 1), (3, 1), (5, 1), (6, 1), (8, 1), (10, 1), (4, 1), (7, 1), (9, 1), (11, 1), (12, 1), (13, 1), (14, 0)] .done))]
noncomputable def wq9c (k : Nat) (wq1 : wqc) (wq3 : wqi) (wq2 : wqd) (wq0 : wqe) : Ctx := ⟨tyT, wqiy, wqep k wq1 wq3 wq2 wq0, [], [1], wqh8, @SH⟩
noncomputable def wq7l : Code := Tryz.f43.body.getD .skip
noncomputable def wqa7 (k : Nat) (wq1 : wqc) (wq3 : wqi) (wq2 : wqd) (wq0 : wqe) {R : Type}  (x0 : (List (Int × (Int × (Int × ((List UInt8) × Bool)))))) (x1 : (List (Int × (Int × ((List UInt8) × (Bool × ((List (List UInt8)) × (List Int)))))))) (x2 : Int) (K : wq22 R) (E : wqk R) : Option R := (@cond (@Option R) (@inb (0 : Int) (@Nat.cast Int instNatCastInt (@List.length (@Kd.T (@Kd.pr kI (@Kd.pr kI (@Kd.pr kI (@Kd.pr Kd.str Kd.bool))))) x0))) (@cond (@Option R) (@cond (@Kd.T Kd.bool) (@Decidable.decide (@LT.lt Int Int.instLTInt (@List.getD (@Kd.T (@Kd.pr kI (@Kd.pr kI (@Kd.pr kI (@Kd.pr Kd.str Kd.bool))))) x0 (@Int.toNat (0 : Int)) (@Kd.zero (@Kd.pr kI (@Kd.pr kI (@Kd.pr kI (@Kd.pr Kd.str Kd.bool)))))).1 (1 : Int)) (@Int.decLt (@List.getD (@Kd.T (@Kd.pr kI (@Kd.pr kI (@Kd.pr kI (@Kd.pr Kd.str Kd.bool))))) x0 (@Int.toNat (0 : Int)) (@Kd.zero (@Kd.pr kI (@Kd.pr kI (@Kd.pr kI (@Kd.pr Kd.str Kd.bool)))))).1 (1 : Int))) Bool.true (@Decidable.decide (@GT.gt Int Int.instLTInt (@List.getD (@Kd.T (@Kd.pr kI (@Kd.pr kI (@Kd.pr kI (@Kd.pr Kd.str Kd.bool))))) x0 (@Int.toNat (0 : Int)) (@Kd.zero (@Kd.pr kI (@Kd.pr kI (@Kd.pr kI (@Kd.pr Kd.str Kd.bool)))))).1 (3 : Int)) (@Int.decLt (3 : Int) (@List.getD (@Kd.T (@Kd.pr kI (@Kd.pr kI (@Kd.pr kI (@Kd.pr Kd.str Kd.bool))))) x0 (@Int.toNat (0 : Int)) (@Kd.zero (@Kd.pr kI (@Kd.pr kI (@Kd.pr kI (@Kd.pr Kd.str Kd.bool)))))).1))) (@wq5o k R (6 : Int) (@List.getD (@Kd.T (@Kd.pr kI (@Kd.pr kI (@Kd.pr kI (@Kd.pr Kd.str Kd.bool))))) x0 (@Int.toNat (0 : Int)) (@Kd.zero (@Kd.pr kI (@Kd.pr kI (@Kd.pr kI (@Kd.pr Kd.str Kd.bool)))))).2.1 (fun y7 y8 => (E x0 x1 y7 y8))) (@cond (@Option R) (@Decidable.decide (@GT.gt Int Int.instLTInt x2 (24 : Int)) (@Int.decLt (24 : Int) x2)) (@wq5o k R (8 : Int) (@List.getD (@Kd.T (@Kd.pr kI (@Kd.pr kI (@Kd.pr kI (@Kd.pr Kd.str Kd.bool))))) x0 (@Int.toNat (0 : Int)) (@Kd.zero (@Kd.pr kI (@Kd.pr kI (@Kd.pr kI (@Kd.pr Kd.str Kd.bool)))))).2.1 (fun y7 y8 => (E x0 x1 y7 y8))) (@cond (@Option R) (@Decidable.decide (@GE.ge Int Int.instLEInt (@Nat.cast Int instNatCastInt (@List.length (@Kd.T (@Kd.pr kI (@Kd.pr kI (@Kd.pr Kd.str (@Kd.pr Kd.bool (@Kd.pr (@Kd.sl Kd.str) (@Kd.sl kI))))))) x1)) (2000 : Int)) (@Int.decLe (2000 : Int) (@Nat.cast Int instNatCastInt (@List.length (@Kd.T (@Kd.pr kI (@Kd.pr kI (@Kd.pr Kd.str (@Kd.pr Kd.bool (@Kd.pr (@Kd.sl Kd.str) (@Kd.sl kI))))))) x1)))) (@wq5o k R (9 : Int) (@List.getD (@Kd.T (@Kd.pr kI (@Kd.pr kI (@Kd.pr kI (@Kd.pr Kd.str Kd.bool))))) x0 (@Int.toNat (0 : Int)) (@Kd.zero (@Kd.pr kI (@Kd.pr kI (@Kd.pr kI (@Kd.pr Kd.str Kd.bool)))))).2.1 (fun y7 y8 => (E x0 x1 y7 y8))) (@cond (@Option R) (@fits (@List.length (@Kd.T (@Kd.pr kI (@Kd.pr kI (@Kd.pr Kd.str (@Kd.pr Kd.bool (@Kd.pr (@Kd.sl Kd.str) (@Kd.sl kI))))))) x1) (@List.length (@Kd.T (@Kd.pr kI (@Kd.pr kI (@Kd.pr Kd.str (@Kd.pr Kd.bool (@Kd.pr (@Kd.sl Kd.str) (@Kd.sl kI))))))) (((0 : (@Kd.T kI)), ((@List.getD (@Kd.T (@Kd.pr kI (@Kd.pr kI (@Kd.pr kI (@Kd.pr Kd.str Kd.bool))))) x0 (@Int.toNat (0 : Int)) (@Kd.zero (@Kd.pr kI (@Kd.pr kI (@Kd.pr kI (@Kd.pr Kd.str Kd.bool)))))).2.1, ([], (Bool.false, ([], []))))) :: [])) (88 : Nat)) (@cond (@Option R) (@BEq.beq Int (@instBEqOfDecidableEq Int @Int.instDecidableEq) (@List.getD (@Kd.T (@Kd.pr kI (@Kd.pr kI (@Kd.pr kI (@Kd.pr Kd.str Kd.bool))))) x0 (@Int.toNat (0 : Int)) (@Kd.zero (@Kd.pr kI (@Kd.pr kI (@Kd.pr kI (@Kd.pr Kd.str Kd.bool)))))).1 (3 : Int)) (@wq4h k R x0 (@HAppend.hAppend (@Kd.T (@Kd.sl (@Kd.pr kI (@Kd.pr kI (@Kd.pr Kd.str (@Kd.pr Kd.bool (@Kd.pr (@Kd.sl Kd.str) (@Kd.sl kI)))))))) (@List (@Kd.T (@Kd.pr kI (@Kd.pr kI (@Kd.pr Kd.str (@Kd.pr Kd.bool (@Kd.pr (@Kd.sl Kd.str) (@Kd.sl kI)))))))) (@Kd.T (@Kd.sl (@Kd.pr kI (@Kd.pr kI (@Kd.pr Kd.str (@Kd.pr Kd.bool (@Kd.pr (@Kd.sl Kd.str) (@Kd.sl kI)))))))) (@instHAppendOfAppend (@Kd.T (@Kd.sl (@Kd.pr kI (@Kd.pr kI (@Kd.pr Kd.str (@Kd.pr Kd.bool (@Kd.pr (@Kd.sl Kd.str) (@Kd.sl kI)))))))) (@List.instAppend (@Kd.T (@Kd.pr kI (@Kd.pr kI (@Kd.pr Kd.str (@Kd.pr Kd.bool (@Kd.pr (@Kd.sl Kd.str) (@Kd.sl kI))))))))) x1 (((0 : (@Kd.T kI)), ((@List.getD (@Kd.T (@Kd.pr kI (@Kd.pr kI (@Kd.pr kI (@Kd.pr Kd.str Kd.bool))))) x0 (@Int.toNat (0 : Int)) (@Kd.zero (@Kd.pr kI (@Kd.pr kI (@Kd.pr kI (@Kd.pr Kd.str Kd.bool)))))).2.1, ([], (Bool.false, ([], []))))) :: [])) (fun y7 y8 y9 y10 y11 y12 y13 => (@cond (@Option R) (@inb (@Nat.cast Int instNatCastInt (@List.length (@Kd.T (@Kd.pr kI (@Kd.pr kI (@Kd.pr Kd.str (@Kd.pr Kd.bool (@Kd.pr (@Kd.sl Kd.str) (@Kd.sl kI))))))) x1)) (@Nat.cast Int instNatCastInt (@List.length (@Kd.T (@Kd.pr kI (@Kd.pr kI (@Kd.pr Kd.str (@Kd.pr Kd.bool (@Kd.pr (@Kd.sl Kd.str) (@Kd.sl kI))))))) y8))) (@SH (@List (@Kd.T (@Kd.pr kI (@Kd.pr kI (@Kd.pr Kd.str (@Kd.pr Kd.bool (@Kd.pr (@Kd.sl Kd.str) (@Kd.sl kI)))))))) R (@List.set (@Kd.T (@Kd.pr kI (@Kd.pr kI (@Kd.pr Kd.str (@Kd.pr Kd.bool (@Kd.pr (@Kd.sl Kd.str) (@Kd.sl kI))))))) y8 (@Int.toNat (@Nat.cast Int instNatCastInt (@List.length (@Kd.T (@Kd.pr kI (@Kd.pr kI (@Kd.pr Kd.str (@Kd.pr Kd.bool (@Kd.pr (@Kd.sl Kd.str) (@Kd.sl kI))))))) x1))) ((1 : Int), ((@List.getD (@Kd.T (@Kd.pr kI (@Kd.pr kI (@Kd.pr kI (@Kd.pr Kd.str Kd.bool))))) x0 (@Int.toNat (0 : Int)) (@Kd.zero (@Kd.pr kI (@Kd.pr kI (@Kd.pr kI (@Kd.pr Kd.str Kd.bool)))))).2.1, ((@List.getD (@Kd.T (@Kd.pr kI (@Kd.pr kI (@Kd.pr kI (@Kd.pr Kd.str Kd.bool))))) x0 (@Int.toNat (0 : Int)) (@Kd.zero (@Kd.pr kI (@Kd.pr kI (@Kd.pr kI (@Kd.pr Kd.str Kd.bool)))))).2.2.2.1, ((@List.getD (@Kd.T (@Kd.pr kI (@Kd.pr kI (@Kd.pr kI (@Kd.pr Kd.str Kd.bool))))) x0 (@Int.toNat (0 : Int)) (@Kd.zero (@Kd.pr kI (@Kd.pr kI (@Kd.pr kI (@Kd.pr Kd.str Kd.bool)))))).2.2.2.2, ([], [])))))) (fun y14 => (K y7 y14 (@Nat.cast Int instNatCastInt (@List.length (@Kd.T (@Kd.pr kI (@Kd.pr kI (@Kd.pr Kd.str (@Kd.pr Kd.bool (@Kd.pr (@Kd.sl Kd.str) (@Kd.sl kI))))))) x1))))) (@Option.none R)))) (@cond (@Option R) (@BEq.beq Int (@instBEqOfDecidableEq Int @Int.instDecidableEq) (@List.getD (@Kd.T (@Kd.pr kI (@Kd.pr kI (@Kd.pr kI (@Kd.pr Kd.str Kd.bool))))) x0 (@Int.toNat (0 : Int)) (@Kd.zero (@Kd.pr kI (@Kd.pr kI (@Kd.pr kI (@Kd.pr Kd.str Kd.bool)))))).1 (1 : Int)) (wq3 R x0 (@HAppend.hAppend (@Kd.T (@Kd.sl (@Kd.pr kI (@Kd.pr kI (@Kd.pr Kd.str (@Kd.pr Kd.bool (@Kd.pr (@Kd.sl Kd.str) (@Kd.sl kI)))))))) (@List (@Kd.T (@Kd.pr kI (@Kd.pr kI (@Kd.pr Kd.str (@Kd.pr Kd.bool (@Kd.pr (@Kd.sl Kd.str) (@Kd.sl kI)))))))) (@Kd.T (@Kd.sl (@Kd.pr kI (@Kd.pr kI (@Kd.pr Kd.str (@Kd.pr Kd.bool (@Kd.pr (@Kd.sl Kd.str) (@Kd.sl kI)))))))) (@instHAppendOfAppend (@Kd.T (@Kd.sl (@Kd.pr kI (@Kd.pr kI (@Kd.pr Kd.str (@Kd.pr Kd.bool (@Kd.pr (@Kd.sl Kd.str) (@Kd.sl kI)))))))) (@List.instAppend (@Kd.T (@Kd.pr kI (@Kd.pr kI (@Kd.pr Kd.str (@Kd.pr Kd.bool (@Kd.pr (@Kd.sl Kd.str) (@Kd.sl kI))))))))) x1 (((0 : (@Kd.T kI)), ((@List.getD (@Kd.T (@Kd.pr kI (@Kd.pr kI (@Kd.pr kI (@Kd.pr Kd.str Kd.bool))))) x0 (@Int.toNat (0 : Int)) (@Kd.zero (@Kd.pr kI (@Kd.pr kI (@Kd.pr kI (@Kd.pr Kd.str Kd.bool)))))).2.1, ([], (Bool.false, ([], []))))) :: [])) (@Nat.cast Int instNatCastInt (@List.length (@Kd.T (@Kd.pr kI (@Kd.pr kI (@Kd.pr Kd.str (@Kd.pr Kd.bool (@Kd.pr (@Kd.sl Kd.str) (@Kd.sl kI))))))) x1)) (@List.getD (@Kd.T (@Kd.pr kI (@Kd.pr kI (@Kd.pr kI (@Kd.pr Kd.str Kd.bool))))) x0 (@Int.toNat (0 : Int)) (@Kd.zero (@Kd.pr kI (@Kd.pr kI (@Kd.pr kI (@Kd.pr Kd.str Kd.bool)))))).2.2.1 x2 (fun y7 y8 => (K y7 y8 (@Nat.cast Int instNatCastInt (@List.length (@Kd.T (@Kd.pr kI (@Kd.pr kI (@Kd.pr Kd.str (@Kd.pr Kd.bool (@Kd.pr (@Kd.sl Kd.str) (@Kd.sl kI))))))) x1)))) (fun y7 y8 y9 y10 => (E y7 y8 y9 y10))) (wq2 R x0 (@HAppend.hAppend (@Kd.T (@Kd.sl (@Kd.pr kI (@Kd.pr kI (@Kd.pr Kd.str (@Kd.pr Kd.bool (@Kd.pr (@Kd.sl Kd.str) (@Kd.sl kI)))))))) (@List (@Kd.T (@Kd.pr kI (@Kd.pr kI (@Kd.pr Kd.str (@Kd.pr Kd.bool (@Kd.pr (@Kd.sl Kd.str) (@Kd.sl kI)))))))) (@Kd.T (@Kd.sl (@Kd.pr kI (@Kd.pr kI (@Kd.pr Kd.str (@Kd.pr Kd.bool (@Kd.pr (@Kd.sl Kd.str) (@Kd.sl kI)))))))) (@instHAppendOfAppend (@Kd.T (@Kd.sl (@Kd.pr kI (@Kd.pr kI (@Kd.pr Kd.str (@Kd.pr Kd.bool (@Kd.pr (@Kd.sl Kd.str) (@Kd.sl kI)))))))) (@List.instAppend (@Kd.T (@Kd.pr kI (@Kd.pr kI (@Kd.pr Kd.str (@Kd.pr Kd.bool (@Kd.pr (@Kd.sl Kd.str) (@Kd.sl kI))))))))) x1 (((0 : (@Kd.T kI)), ((@List.getD (@Kd.T (@Kd.pr kI (@Kd.pr kI (@Kd.pr kI (@Kd.pr Kd.str Kd.bool))))) x0 (@Int.toNat (0 : Int)) (@Kd.zero (@Kd.pr kI (@Kd.pr kI (@Kd.pr kI (@Kd.pr Kd.str Kd.bool)))))).2.1, ([], (Bool.false, ([], []))))) :: [])) (@Nat.cast Int instNatCastInt (@List.length (@Kd.T (@Kd.pr kI (@Kd.pr kI (@Kd.pr Kd.str (@Kd.pr Kd.bool (@Kd.pr (@Kd.sl Kd.str) (@Kd.sl kI))))))) x1)) (@List.getD (@Kd.T (@Kd.pr kI (@Kd.pr kI (@Kd.pr kI (@Kd.pr Kd.str Kd.bool))))) x0 (@Int.toNat (0 : Int)) (@Kd.zero (@Kd.pr kI (@Kd.pr kI (@Kd.pr kI (@Kd.pr Kd.str Kd.bool)))))).2.2.1 x2 (fun y7 y8 => (K y7 y8 (@Nat.cast Int instNatCastInt (@List.length (@Kd.T (@Kd.pr kI (@Kd.pr kI (@Kd.pr Kd.str (@Kd.pr Kd.bool (@Kd.pr (@Kd.sl Kd.str) (@Kd.sl kI))))))) x1)))) (fun y7 y8 y9 y10 => (E y7 y8 y9 y10))))) (@Option.none R))))) (@Option.none R))
theorem wqiz (k : Nat) (wq1 : wqc) (wq3 : wqi) (wq2 : wqd) (wq0 : wqe) {R : Type} (I : Nat → St → Option R) (x0 : (List (Int × (Int × (Int × ((List UInt8) × Bool)))))) (x1 : (List (Int × (Int × ((List UInt8) × (Bool × ((List (List UInt8)) × (List Int)))))))) (x2 : Int) (K : wq22 R) (E : wqk R) : fnK (wq9c k wq1 wq3 wq2 wq0) k wq7l 97 [.tmp 4] wqdi [.ptr 1 0, .v (.int .i64) x2] [(21, .row 52 (.pr (.int .i64) (.pr (.int .i64) (.pr .str (.pr .bool (.pr (.sl .str) (.sl (.int .i64))))))) x1), (1, .var 95 [.v (.sl (.pr (.int .i64) (.pr (.int .i64) (.pr (.int .i64) (.pr .str .bool))))) x0, .row 21])] (wq7k K E) = wqa7 k wq1 wq3 wq2 wq0  x0 x1 x2 K E := by kernel_rfl
noncomputable def wqgi (k : Nat) (wq1 : wqc) (wq3 : wqi) (wq2 : wqd) (wq0 : wqe) : CTab := (CTab.add 76 wq9a (wq5a k) (CTab.add 113 wqdh (wq6e k) (CTab.add 114 wqcn (wq3p wq0) CTab.nil)))
def wq2k {R : Type} (K : wq13 R) (E : wqk R) : Out → Option R
  | .ret [] [(21, .row 52 (.pr (.int .i64) (.pr (.int .i64) (.pr .str (.pr .bool (.pr (.sl .str) (.sl (.int .i64))))))) y1), (1, .var 95 [.v (.sl (.pr (.int .i64) (.pr (.int .i64) (.pr (.int .i64) (.pr .str .bool))))) y0, .row 21])] => K y0 y1
  | .pan (.ifc 28 (.agg [.v (.int .i64) z2, .v (.int .i64) z3])) [(21, .row 52 (.pr (.int .i64) (.pr (.int .i64) (.pr .str (.pr .bool (.pr (.sl .str) (.sl (.int .i64))))))) z1), (1, .var 95 [.v (.sl (.pr (.int .i64) (.pr (.int .i64) (.pr (.int .i64) (.pr .str .bool))))) z0, .row 21])] => E z0 z1 z2 z3
  | _ => none
def wq3z : RetSpec := ⟨[], [(1, .obj 1 [.sl (.pr (.int .i64) (.pr (.int .i64) (.pr (.int .i64) (.pr .str .bool)))), .own 21 52 (.pr (.int .i64) (.pr (.int .i64) (.pr .str (.pr .bool (.pr (.sl .str) (.sl (.int .i64)))))))])], [(1, .obj 1 [.sl (.pr (.int .i64) (.pr (.int .i64) (.pr (.int .i64) (.pr .str .bool)))), .own 21 52 (.pr (.int .i64) (.pr (.int .i64) (.pr .str (.pr .bool (.pr (.sl .str) (.sl (.int .i64)))))))])]⟩
def wqkt : List (Nat × CutSpec) := [(1001, ⟨[(0, .obj 1 [.sl (.pr (.int .i64) (.pr (.int .i64) (.pr (.int .i64) (.pr .str .bool)))), .own 21 52 (.pr (.int .i64) (.pr (.int .i64) (.pr .str (.pr .bool (.pr (.sl .str) (.sl (.int .i64)))))))]), (1, .any), (2, .any), (3, .any), (8, .own 100008 3 (.int .i64))], [(1, .obj 1 [.sl (.pr (.int .i64) (.pr (.int .i64) (.pr (.int .i64) (.pr .str .bool)))), .own 21 52 (.pr (.int .i64) (.pr (.int .i64) (.pr .str (.pr .bool (.pr (.sl .str) (.sl (.int .i64)))))))])]⟩)]
def wqj0 : List (Nat × Plan) := [(3, (.of [(0, 1), (1, 1), (2, 1), (3, 1), (5, 1), (6, 1), (7, 1), (8, 1), (9, 1), (11, 1), (12, 1), (4, 1), (10, 1), (13, 1), (14, 1), (15, 0), (16, 1), (17, 1), (18, 0)] .done))]
noncomputable def wqp (k : Nat) (wq1 : wqc) (wq3 : wqi) (wq2 : wqd) (wq0 : wqe) : Ctx := ⟨tyT, wqkt, wqgi k wq1 wq3 wq2 wq0, [], [1], wqj0, @SH⟩
noncomputable def wq19 : Code := Tryz.f77.body.getD .skip
def wq30 (s0 : (List (Int × (Int × (Int × ((List UInt8) × Bool)))))) (s1 : (List (Int × (Int × ((List UInt8) × (Bool × ((List (List UInt8)) × (List Int)))))))) (s2 s3 s4 : Int) (s5 : (List Int)) : St := ⟨mkT [(0, .ptr 1 0), (1, .v (.int .i64) s2), (2, .v (.int .i64) s3), (3, .v (.int .i64) s4), (8, .row 100008)], mkH [(21, .row 52 (.pr (.int .i64) (.pr (.int .i64) (.pr .str (.pr .bool (.pr (.sl .str) (.sl (.int .i64))))))) s1), (1, .var 95 [.v (.sl (.pr (.int .i64) (.pr (.int .i64) (.pr (.int .i64) (.pr .str .bool))))) s0, .row 21]), (100008, .row 3 (.int .i64) s5)]⟩
noncomputable def wq5c (k : Nat) (wq1 : wqc) (wq3 : wqi) (wq2 : wqd) (wq0 : wqe) {R : Type} (E1001 : ((List (Int × (Int × (Int × ((List UInt8) × Bool))))) → (List (Int × (Int × ((List UInt8) × (Bool × ((List (List UInt8)) × (List Int))))))) → Int → Int → Int → (List Int) → Option R)) (s0 : (List (Int × (Int × (Int × ((List UInt8) × Bool)))))) (s1 : (List (Int × (Int × ((List UInt8) × (Bool × ((List (List UInt8)) × (List Int)))))))) (s2 s3 s4 : Int) (s5 : (List Int)) (K : wq13 R) (E : wqk R) : Option R := (@wq57 k R s0 s1 (1 : Int) s3 (fun y11 y12 y13 => (@cond (@Option R) y13 (@wq4h k R y11 y12 (fun y14 y15 y16 y17 y18 y19 y20 => (wq0 R y14 y15 y16 y17 y18 y19 y20 s4 (fun y21 y22 y23 => (@cond (@Option R) (@fits (@List.length (@Kd.T kI) s5) (@List.length (@Kd.T kI) (y23 :: [])) (8 : Nat)) (E1001 y21 y22 s2 s3 s4 (@HAppend.hAppend (@Kd.T (@Kd.sl kI)) (@List (@Kd.T kI)) (@Kd.T (@Kd.sl kI)) (@instHAppendOfAppend (@Kd.T (@Kd.sl kI)) (@List.instAppend (@Kd.T kI))) s5 (y23 :: []))) (@Option.none R))) (fun y21 y22 y23 y24 => (E y21 y22 y23 y24))))) (@cond (@Option R) (@inb s2 (@Nat.cast Int instNatCastInt (@List.length (@Kd.T (@Kd.pr kI (@Kd.pr kI (@Kd.pr Kd.str (@Kd.pr Kd.bool (@Kd.pr (@Kd.sl Kd.str) (@Kd.sl kI))))))) y12))) (@SH (@List (@Kd.T (@Kd.pr kI (@Kd.pr kI (@Kd.pr Kd.str (@Kd.pr Kd.bool (@Kd.pr (@Kd.sl Kd.str) (@Kd.sl kI)))))))) R (@List.set (@Kd.T (@Kd.pr kI (@Kd.pr kI (@Kd.pr Kd.str (@Kd.pr Kd.bool (@Kd.pr (@Kd.sl Kd.str) (@Kd.sl kI))))))) y12 (@Int.toNat s2) ((2 : Int), ((@List.getD (@Kd.T (@Kd.pr kI (@Kd.pr kI (@Kd.pr Kd.str (@Kd.pr Kd.bool (@Kd.pr (@Kd.sl Kd.str) (@Kd.sl kI))))))) y12 (@Int.toNat s2) (@Kd.zero (@Kd.pr kI (@Kd.pr kI (@Kd.pr Kd.str (@Kd.pr Kd.bool (@Kd.pr (@Kd.sl Kd.str) (@Kd.sl kI)))))))).2.1, ((@List.getD (@Kd.T (@Kd.pr kI (@Kd.pr kI (@Kd.pr Kd.str (@Kd.pr Kd.bool (@Kd.pr (@Kd.sl Kd.str) (@Kd.sl kI))))))) y12 (@Int.toNat s2) (@Kd.zero (@Kd.pr kI (@Kd.pr kI (@Kd.pr Kd.str (@Kd.pr Kd.bool (@Kd.pr (@Kd.sl Kd.str) (@Kd.sl kI)))))))).2.2.1, ((@List.getD (@Kd.T (@Kd.pr kI (@Kd.pr kI (@Kd.pr Kd.str (@Kd.pr Kd.bool (@Kd.pr (@Kd.sl Kd.str) (@Kd.sl kI))))))) y12 (@Int.toNat s2) (@Kd.zero (@Kd.pr kI (@Kd.pr kI (@Kd.pr Kd.str (@Kd.pr Kd.bool (@Kd.pr (@Kd.sl Kd.str) (@Kd.sl kI)))))))).2.2.2.1, ((@List.getD (@Kd.T (@Kd.pr kI (@Kd.pr kI (@Kd.pr Kd.str (@Kd.pr Kd.bool (@Kd.pr (@Kd.sl Kd.str) (@Kd.sl kI))))))) y12 (@Int.toNat s2) (@Kd.zero (@Kd.pr kI (@Kd.pr kI (@Kd.pr Kd.str (@Kd.pr Kd.bool (@Kd.pr (@Kd.sl Kd.str) (@Kd.sl kI)))))))).2.2.2.2.1, (@List.getD (@Kd.T (@Kd.pr kI (@Kd.pr kI (@Kd.pr Kd.str (@Kd.pr Kd.bool (@Kd.pr (@Kd.sl Kd.str) (@Kd.sl kI))))))) y12 (@Int.toNat s2) (@Kd.zero (@Kd.pr kI (@Kd.pr kI (@Kd.pr Kd.str (@Kd.pr Kd.bool (@Kd.pr (@Kd.sl Kd.str) (@Kd.sl kI)))))))).2.2.2.2.2)))))) (fun y14 => (@cond (@Option R) (@inb s2 (@Nat.cast Int instNatCastInt (@List.length (@Kd.T (@Kd.pr kI (@Kd.pr kI (@Kd.pr Kd.str (@Kd.pr Kd.bool (@Kd.pr (@Kd.sl Kd.str) (@Kd.sl kI))))))) y14))) (@SH (@List (@Kd.T (@Kd.pr kI (@Kd.pr kI (@Kd.pr Kd.str (@Kd.pr Kd.bool (@Kd.pr (@Kd.sl Kd.str) (@Kd.sl kI)))))))) R (@List.set (@Kd.T (@Kd.pr kI (@Kd.pr kI (@Kd.pr Kd.str (@Kd.pr Kd.bool (@Kd.pr (@Kd.sl Kd.str) (@Kd.sl kI))))))) y14 (@Int.toNat s2) ((@List.getD (@Kd.T (@Kd.pr kI (@Kd.pr kI (@Kd.pr Kd.str (@Kd.pr Kd.bool (@Kd.pr (@Kd.sl Kd.str) (@Kd.sl kI))))))) y14 (@Int.toNat s2) (@Kd.zero (@Kd.pr kI (@Kd.pr kI (@Kd.pr Kd.str (@Kd.pr Kd.bool (@Kd.pr (@Kd.sl Kd.str) (@Kd.sl kI)))))))).1, ((@List.getD (@Kd.T (@Kd.pr kI (@Kd.pr kI (@Kd.pr Kd.str (@Kd.pr Kd.bool (@Kd.pr (@Kd.sl Kd.str) (@Kd.sl kI))))))) y14 (@Int.toNat s2) (@Kd.zero (@Kd.pr kI (@Kd.pr kI (@Kd.pr Kd.str (@Kd.pr Kd.bool (@Kd.pr (@Kd.sl Kd.str) (@Kd.sl kI)))))))).2.1, ((@List.getD (@Kd.T (@Kd.pr kI (@Kd.pr kI (@Kd.pr Kd.str (@Kd.pr Kd.bool (@Kd.pr (@Kd.sl Kd.str) (@Kd.sl kI))))))) y14 (@Int.toNat s2) (@Kd.zero (@Kd.pr kI (@Kd.pr kI (@Kd.pr Kd.str (@Kd.pr Kd.bool (@Kd.pr (@Kd.sl Kd.str) (@Kd.sl kI)))))))).2.2.1, ((@List.getD (@Kd.T (@Kd.pr kI (@Kd.pr kI (@Kd.pr Kd.str (@Kd.pr Kd.bool (@Kd.pr (@Kd.sl Kd.str) (@Kd.sl kI))))))) y14 (@Int.toNat s2) (@Kd.zero (@Kd.pr kI (@Kd.pr kI (@Kd.pr Kd.str (@Kd.pr Kd.bool (@Kd.pr (@Kd.sl Kd.str) (@Kd.sl kI)))))))).2.2.2.1, ((@List.getD (@Kd.T (@Kd.pr kI (@Kd.pr kI (@Kd.pr Kd.str (@Kd.pr Kd.bool (@Kd.pr (@Kd.sl Kd.str) (@Kd.sl kI))))))) y14 (@Int.toNat s2) (@Kd.zero (@Kd.pr kI (@Kd.pr kI (@Kd.pr Kd.str (@Kd.pr Kd.bool (@Kd.pr (@Kd.sl Kd.str) (@Kd.sl kI)))))))).2.2.2.2.1, s5)))))) (fun y15 => (K y11 y15))) (@Option.none R)))) (@Option.none R)))))
theorem wqeq (k : Nat) (wq1 : wqc) (wq3 : wqi) (wq2 : wqd) (wq0 : wqe) {R : Type} (I : Nat → St → Option R) (s0 : (List (Int × (Int × (Int × ((List UInt8) × Bool)))))) (s1 : (List (Int × (Int × ((List UInt8) × (Bool × ((List (List UInt8)) × (List Int)))))))) (s2 s3 s4 : Int) (s5 : (List Int)) (K : wq13 R) (E : wqk R) : execK (wqp k wq1 wq3 wq2 wq0) k (at_ [1, 0, 0, 0] wq19) (wq30 s0 s1 s2 s3 s4 s5) (konts (wqp k wq1 wq3 wq2 wq0) k I [1, 0, 0, 0] wq19 (outK (wqp k wq1 wq3 wq2 wq0) wq3z [] (wq2k K E))) = wq5c k wq1 wq3 wq2 wq0 (fun s0 s1 s2 s3 s4 s5 => I 1001 (wq30 s0 s1 s2 s3 s4 s5)) s0 s1 s2 s3 s4 s5 K E := by kernel_rfl
noncomputable def wq7y (k : Nat) (wq1 : wqc) (wq3 : wqi) (wq2 : wqd) (wq0 : wqe) {R : Type} (E1001 : ((List (Int × (Int × (Int × ((List UInt8) × Bool))))) → (List (Int × (Int × ((List UInt8) × (Bool × ((List (List UInt8)) × (List Int))))))) → Int → Int → Int → (List Int) → Option R)) (x0 : (List (Int × (Int × (Int × ((List UInt8) × Bool)))))) (x1 : (List (Int × (Int × ((List UInt8) × (Bool × ((List (List UInt8)) × (List Int)))))))) (x2 x3 x4 : Int) (K : wq13 R) (E : wqk R) : Option R := (E1001 x0 x1 x2 x3 x4 [])
theorem wqku (k : Nat) (wq1 : wqc) (wq3 : wqi) (wq2 : wqd) (wq0 : wqe) {R : Type} (I : Nat → St → Option R) (x0 : (List (Int × (Int × (Int × ((List UInt8) × Bool)))))) (x1 : (List (Int × (Int × ((List UInt8) × (Bool × ((List (List UInt8)) × (List Int)))))))) (x2 x3 x4 : Int) (K : wq13 R) (E : wqk R) : fnK (wqp k wq1 wq3 wq2 wq0) k wq19 37 [] wq3z [.ptr 1 0, .v (.int .i64) x2, .v (.int .i64) x3, .v (.int .i64) x4] [(21, .row 52 (.pr (.int .i64) (.pr (.int .i64) (.pr .str (.pr .bool (.pr (.sl .str) (.sl (.int .i64))))))) x1), (1, .var 95 [.v (.sl (.pr (.int .i64) (.pr (.int .i64) (.pr (.int .i64) (.pr .str .bool))))) x0, .row 21])] (wq2k K E) = wq7y k wq1 wq3 wq2 wq0 (fun s0 s1 s2 s3 s4 s5 => iter (wqp k wq1 wq3 wq2 wq0).pv (look (wqp k wq1 wq3 wq2 wq0).cuts 1001) (execK (wqp k wq1 wq3 wq2 wq0) k (at_ [1, 0, 0, 0] wq19)) k (wq30 s0 s1 s2 s3 s4 s5) (konts (wqp k wq1 wq3 wq2 wq0) k I [1, 0, 0] wq19 (outK (wqp k wq1 wq3 wq2 wq0) wq3z [] (wq2k K E)))) x0 x1 x2 x3 x4 K E := by kernel_rfl
noncomputable def wq23 (k : Nat) (wq1 : wqc) (wq3 : wqi) (wq2 : wqd) (wq0 : wqe) {R : Type}  : Nat → (List (Int × (Int × (Int × ((List UInt8) × Bool))))) → (List (Int × (Int × ((List UInt8) × (Bool × ((List (List UInt8)) × (List Int))))))) → Int → Int → Int → (List Int) → ((List (Int × (Int × (Int × ((List UInt8) × Bool))))) → (List (Int × (Int × ((List UInt8) × (Bool × ((List (List UInt8)) × (List Int))))))) → Option R) → ((List (Int × (Int × (Int × ((List UInt8) × Bool))))) → (List (Int × (Int × ((List UInt8) × (Bool × ((List (List UInt8)) × (List Int))))))) → Int → Int → Option R) → Option R
  | 0, _, _, _, _, _, _, _, _ => none
  | n + 1, s0, s1, s2, s3, s4, s5, K, E => wq5c k wq1 wq3 wq2 wq0 (fun s0 s1 s2 s3 s4 s5 => wq23 k wq1 wq3 wq2 wq0  n s0 s1 s2 s3 s4 s5 K E) s0 s1 s2 s3 s4 s5 K E
theorem wqer (k : Nat) (wq1 : wqc) (wq3 : wqi) (wq2 : wqd) (wq0 : wqe) {R : Type} (I : Nat → St → Option R) (K : wq13 R) (E : wqk R) : ∀ (n : Nat) (s0 : (List (Int × (Int × (Int × ((List UInt8) × Bool)))))) (s1 : (List (Int × (Int × ((List UInt8) × (Bool × ((List (List UInt8)) × (List Int)))))))) (s2 s3 s4 : Int) (s5 : (List Int)), iter (wqp k wq1 wq3 wq2 wq0).pv (look (wqp k wq1 wq3 wq2 wq0).cuts 1001) (execK (wqp k wq1 wq3 wq2 wq0) k (at_ [1, 0, 0, 0] wq19)) n (wq30 s0 s1 s2 s3 s4 s5) (konts (wqp k wq1 wq3 wq2 wq0) k I [1, 0, 0] wq19 (outK (wqp k wq1 wq3 wq2 wq0) wq3z [] (wq2k K E))) = wq23 k wq1 wq3 wq2 wq0  n s0 s1 s2 s3 s4 s5 K E := by
  intro n
  induction n with
  | zero => intros; rfl
  | succ n ih =>
    intro s0 s1 s2 s3 s4 s5
    let I' : Nat → St → Option R := fun id s => bif Nat.beq id 1001 then iter (wqp k wq1 wq3 wq2 wq0).pv (look (wqp k wq1 wq3 wq2 wq0).cuts 1001) (execK (wqp k wq1 wq3 wq2 wq0) k (at_ [1, 0, 0, 0] wq19)) n s (konts (wqp k wq1 wq3 wq2 wq0) k I [1, 0, 0] wq19 (outK (wqp k wq1 wq3 wq2 wq0) wq3z [] (wq2k K E))) else I id s
    have e := wqeq k wq1 wq3 wq2 wq0 I' s0 s1 s2 s3 s4 s5 K E
    have h1001 : (fun s0 s1 s2 s3 s4 s5 => I' 1001 (wq30 s0 s1 s2 s3 s4 s5)) = (fun s0 s1 s2 s3 s4 s5 => wq23 k wq1 wq3 wq2 wq0  n s0 s1 s2 s3 s4 s5 K E) := by funext s0 s1 s2 s3 s4 s5; exact ih s0 s1 s2 s3 s4 s5
    refine Eq.trans (?_ : _ = _) (e.trans (Eq.trans ((congrArg ((fun E1001 => wq5c k wq1 wq3 wq2 wq0 E1001 s0 s1 s2 s3 s4 s5 K E)) h1001)) (by rw [wq23])))
    rfl
noncomputable def wqes (k : Nat) (wq1 : wqc) (wq3 : wqi) (wq2 : wqd) (wq0 : wqe) : CTab := (CTab.add 42 wqdg (wq93 k) (CTab.add 76 wq9a (wq5a k) (CTab.add 113 wqdh (wq6e k) (CTab.add 114 wqcn (wq3p wq0) (CTab.add 115 wq98 (wq3f k) CTab.nil)))))
def wq2d {R : Type} (K : wq13 R) (E : wqk R) : Out → Option R
  | .ret [] [(21, .row 52 (.pr (.int .i64) (.pr (.int .i64) (.pr .str (.pr .bool (.pr (.sl .str) (.sl (.int .i64))))))) y1), (1, .var 95 [.v (.sl (.pr (.int .i64) (.pr (.int .i64) (.pr (.int .i64) (.pr .str .bool))))) y0, .row 21])] => K y0 y1
  | .pan (.ifc 28 (.agg [.v (.int .i64) z2, .v (.int .i64) z3])) [(21, .row 52 (.pr (.int .i64) (.pr (.int .i64) (.pr .str (.pr .bool (.pr (.sl .str) (.sl (.int .i64))))))) z1), (1, .var 95 [.v (.sl (.pr (.int .i64) (.pr (.int .i64) (.pr (.int .i64) (.pr .str .bool))))) z0, .row 21])] => E z0 z1 z2 z3
  | _ => none
def wq3h : RetSpec := ⟨[], [(1, .obj 1 [.sl (.pr (.int .i64) (.pr (.int .i64) (.pr (.int .i64) (.pr .str .bool)))), .own 21 52 (.pr (.int .i64) (.pr (.int .i64) (.pr .str (.pr .bool (.pr (.sl .str) (.sl (.int .i64)))))))])], [(1, .obj 1 [.sl (.pr (.int .i64) (.pr (.int .i64) (.pr (.int .i64) (.pr .str .bool)))), .own 21 52 (.pr (.int .i64) (.pr (.int .i64) (.pr .str (.pr .bool (.pr (.sl .str) (.sl (.int .i64)))))))])]⟩
def wqj1 : List (Nat × CutSpec) := [(1002, ⟨[(0, .obj 1 [.sl (.pr (.int .i64) (.pr (.int .i64) (.pr (.int .i64) (.pr .str .bool)))), .own 21 52 (.pr (.int .i64) (.pr (.int .i64) (.pr .str (.pr .bool (.pr (.sl .str) (.sl (.int .i64)))))))]), (1, .any), (2, .any), (3, .any), (8, .own 100008 9 .str), (9, .own 100009 3 (.int .i64))], [(1, .obj 1 [.sl (.pr (.int .i64) (.pr (.int .i64) (.pr (.int .i64) (.pr .str .bool)))), .own 21 52 (.pr (.int .i64) (.pr (.int .i64) (.pr .str (.pr .bool (.pr (.sl .str) (.sl (.int .i64)))))))])]⟩)]
def wqh9 : List (Nat × Plan) := []
noncomputable def wql (k : Nat) (wq1 : wqc) (wq3 : wqi) (wq2 : wqd) (wq0 : wqe) : Ctx := ⟨tyT, wqj1, wqes k wq1 wq3 wq2 wq0, [], [1], wqh9, @SH⟩
noncomputable def wq14 : Code := Tryz.f78.body.getD .skip
def wq2n (s0 : (List (Int × (Int × (Int × ((List UInt8) × Bool)))))) (s1 : (List (Int × (Int × ((List UInt8) × (Bool × ((List (List UInt8)) × (List Int)))))))) (s2 s3 s4 : Int) (s5 : (List (List UInt8))) (s6 : (List Int)) : St := ⟨mkT [(0, .ptr 1 0), (1, .v (.int .i64) s2), (2, .v (.int .i64) s3), (3, .v (.int .i64) s4), (8, .row 100008), (9, .row 100009)], mkH [(21, .row 52 (.pr (.int .i64) (.pr (.int .i64) (.pr .str (.pr .bool (.pr (.sl .str) (.sl (.int .i64))))))) s1), (1, .var 95 [.v (.sl (.pr (.int .i64) (.pr (.int .i64) (.pr (.int .i64) (.pr .str .bool))))) s0, .row 21]), (100008, .row 9 .str s5), (100009, .row 3 (.int .i64) s6)]⟩
noncomputable def wq51 (k : Nat) (wq1 : wqc) (wq3 : wqi) (wq2 : wqd) (wq0 : wqe) {R : Type} (E1002 : ((List (Int × (Int × (Int × ((List UInt8) × Bool))))) → (List (Int × (Int × ((List UInt8) × (Bool × ((List (List UInt8)) × (List Int))))))) → Int → Int → Int → (List (List UInt8)) → (List Int) → Option R)) (s0 : (List (Int × (Int × (Int × ((List UInt8) × Bool)))))) (s1 : (List (Int × (Int × ((List UInt8) × (Bool × ((List (List UInt8)) × (List Int)))))))) (s2 s3 s4 : Int) (s5 : (List (List UInt8))) (s6 : (List Int)) (K : wq13 R) (E : wqk R) : Option R := (@wq57 k R s0 s1 (2 : Int) s3 (fun y12 y13 y14 => (@cond (@Option R) y14 (@wq4h k R y12 y13 (fun y15 y16 y17 y18 y19 y20 y21 => (@wq1u k R s5 y20 (fun y22 => (@cond (@Option R) y22 (@wq5o k R (7 : Int) y18 (fun y23 y24 => (E y15 y16 y23 y24))) (@cond (@Option R) (@fits (@List.length (@Kd.T Kd.str) s5) (@List.length (@Kd.T Kd.str) (y20 :: [])) (16 : Nat)) (wq0 R y15 y16 y17 y18 y19 y20 y21 s4 (fun y23 y24 y25 => (@cond (@Option R) (@fits (@List.length (@Kd.T kI) s6) (@List.length (@Kd.T kI) (y25 :: [])) (8 : Nat)) (E1002 y23 y24 s2 s3 s4 (@HAppend.hAppend (@Kd.T (@Kd.sl Kd.str)) (@List (@Kd.T Kd.str)) (@Kd.T (@Kd.sl Kd.str)) (@instHAppendOfAppend (@Kd.T (@Kd.sl Kd.str)) (@List.instAppend (@Kd.T Kd.str))) s5 (y20 :: [])) (@HAppend.hAppend (@Kd.T (@Kd.sl kI)) (@List (@Kd.T kI)) (@Kd.T (@Kd.sl kI)) (@instHAppendOfAppend (@Kd.T (@Kd.sl kI)) (@List.instAppend (@Kd.T kI))) s6 (y25 :: []))) (@Option.none R))) (fun y23 y24 y25 y26 => (E y23 y24 y25 y26))) (@Option.none R))))))) (@cond (@Option R) (@inb s2 (@Nat.cast Int instNatCastInt (@List.length (@Kd.T (@Kd.pr kI (@Kd.pr kI (@Kd.pr Kd.str (@Kd.pr Kd.bool (@Kd.pr (@Kd.sl Kd.str) (@Kd.sl kI))))))) y13))) (@SH (@List (@Kd.T (@Kd.pr kI (@Kd.pr kI (@Kd.pr Kd.str (@Kd.pr Kd.bool (@Kd.pr (@Kd.sl Kd.str) (@Kd.sl kI)))))))) R (@List.set (@Kd.T (@Kd.pr kI (@Kd.pr kI (@Kd.pr Kd.str (@Kd.pr Kd.bool (@Kd.pr (@Kd.sl Kd.str) (@Kd.sl kI))))))) y13 (@Int.toNat s2) ((3 : Int), ((@List.getD (@Kd.T (@Kd.pr kI (@Kd.pr kI (@Kd.pr Kd.str (@Kd.pr Kd.bool (@Kd.pr (@Kd.sl Kd.str) (@Kd.sl kI))))))) y13 (@Int.toNat s2) (@Kd.zero (@Kd.pr kI (@Kd.pr kI (@Kd.pr Kd.str (@Kd.pr Kd.bool (@Kd.pr (@Kd.sl Kd.str) (@Kd.sl kI)))))))).2.1, ((@List.getD (@Kd.T (@Kd.pr kI (@Kd.pr kI (@Kd.pr Kd.str (@Kd.pr Kd.bool (@Kd.pr (@Kd.sl Kd.str) (@Kd.sl kI))))))) y13 (@Int.toNat s2) (@Kd.zero (@Kd.pr kI (@Kd.pr kI (@Kd.pr Kd.str (@Kd.pr Kd.bool (@Kd.pr (@Kd.sl Kd.str) (@Kd.sl kI)))))))).2.2.1, ((@List.getD (@Kd.T (@Kd.pr kI (@Kd.pr kI (@Kd.pr Kd.str (@Kd.pr Kd.bool (@Kd.pr (@Kd.sl Kd.str) (@Kd.sl kI))))))) y13 (@Int.toNat s2) (@Kd.zero (@Kd.pr kI (@Kd.pr kI (@Kd.pr Kd.str (@Kd.pr Kd.bool (@Kd.pr (@Kd.sl Kd.str) (@Kd.sl kI)))))))).2.2.2.1, ((@List.getD (@Kd.T (@Kd.pr kI (@Kd.pr kI (@Kd.pr Kd.str (@Kd.pr Kd.bool (@Kd.pr (@Kd.sl Kd.str) (@Kd.sl kI))))))) y13 (@Int.toNat s2) (@Kd.zero (@Kd.pr kI (@Kd.pr kI (@Kd.pr Kd.str (@Kd.pr Kd.bool (@Kd.pr (@Kd.sl Kd.str) (@Kd.sl kI)))))))).2.2.2.2.1, (@List.getD (@Kd.T (@Kd.pr kI (@Kd.pr kI (@Kd.pr Kd.str (@Kd.pr Kd.bool (@Kd.pr (@Kd.sl Kd.str) (@Kd.sl kI))))))) y13 (@Int.toNat s2) (@Kd.zero (@Kd.pr kI (@Kd.pr kI (@Kd.pr Kd.str (@Kd.pr Kd.bool (@Kd.pr (@Kd.sl Kd.str) (@Kd.sl kI)))))))).2.2.2.2.2)))))) (fun y15 => (@SH (@List (@Kd.T (@Kd.pr kI (@Kd.pr kI (@Kd.pr Kd.str (@Kd.pr Kd.bool (@Kd.pr (@Kd.sl Kd.str) (@Kd.sl kI)))))))) R (@List.set (@Kd.T (@Kd.pr kI (@Kd.pr kI (@Kd.pr Kd.str (@Kd.pr Kd.bool (@Kd.pr (@Kd.sl Kd.str) (@Kd.sl kI))))))) y15 (@Int.toNat s2) ((@List.getD (@Kd.T (@Kd.pr kI (@Kd.pr kI (@Kd.pr Kd.str (@Kd.pr Kd.bool (@Kd.pr (@Kd.sl Kd.str) (@Kd.sl kI))))))) y15 (@Int.toNat s2) (@Kd.zero (@Kd.pr kI (@Kd.pr kI (@Kd.pr Kd.str (@Kd.pr Kd.bool (@Kd.pr (@Kd.sl Kd.str) (@Kd.sl kI)))))))).1, ((@List.getD (@Kd.T (@Kd.pr kI (@Kd.pr kI (@Kd.pr Kd.str (@Kd.pr Kd.bool (@Kd.pr (@Kd.sl Kd.str) (@Kd.sl kI))))))) y15 (@Int.toNat s2) (@Kd.zero (@Kd.pr kI (@Kd.pr kI (@Kd.pr Kd.str (@Kd.pr Kd.bool (@Kd.pr (@Kd.sl Kd.str) (@Kd.sl kI)))))))).2.1, ((@List.getD (@Kd.T (@Kd.pr kI (@Kd.pr kI (@Kd.pr Kd.str (@Kd.pr Kd.bool (@Kd.pr (@Kd.sl Kd.str) (@Kd.sl kI))))))) y15 (@Int.toNat s2) (@Kd.zero (@Kd.pr kI (@Kd.pr kI (@Kd.pr Kd.str (@Kd.pr Kd.bool (@Kd.pr (@Kd.sl Kd.str) (@Kd.sl kI)))))))).2.2.1, ((@List.getD (@Kd.T (@Kd.pr kI (@Kd.pr kI (@Kd.pr Kd.str (@Kd.pr Kd.bool (@Kd.pr (@Kd.sl Kd.str) (@Kd.sl kI))))))) y15 (@Int.toNat s2) (@Kd.zero (@Kd.pr kI (@Kd.pr kI (@Kd.pr Kd.str (@Kd.pr Kd.bool (@Kd.pr (@Kd.sl Kd.str) (@Kd.sl kI)))))))).2.2.2.1, (s5, (@List.getD (@Kd.T (@Kd.pr kI (@Kd.pr kI (@Kd.pr Kd.str (@Kd.pr Kd.bool (@Kd.pr (@Kd.sl Kd.str) (@Kd.sl kI))))))) y15 (@Int.toNat s2) (@Kd.zero (@Kd.pr kI (@Kd.pr kI (@Kd.pr Kd.str (@Kd.pr Kd.bool (@Kd.pr (@Kd.sl Kd.str) (@Kd.sl kI)))))))).2.2.2.2.2)))))) (fun y16 => (@SH (@List (@Kd.T (@Kd.pr kI (@Kd.pr kI (@Kd.pr Kd.str (@Kd.pr Kd.bool (@Kd.pr (@Kd.sl Kd.str) (@Kd.sl kI)))))))) R (@List.set (@Kd.T (@Kd.pr kI (@Kd.pr kI (@Kd.pr Kd.str (@Kd.pr Kd.bool (@Kd.pr (@Kd.sl Kd.str) (@Kd.sl kI))))))) y16 (@Int.toNat s2) ((@List.getD (@Kd.T (@Kd.pr kI (@Kd.pr kI (@Kd.pr Kd.str (@Kd.pr Kd.bool (@Kd.pr (@Kd.sl Kd.str) (@Kd.sl kI))))))) y16 (@Int.toNat s2) (@Kd.zero (@Kd.pr kI (@Kd.pr kI (@Kd.pr Kd.str (@Kd.pr Kd.bool (@Kd.pr (@Kd.sl Kd.str) (@Kd.sl kI)))))))).1, ((@List.getD (@Kd.T (@Kd.pr kI (@Kd.pr kI (@Kd.pr Kd.str (@Kd.pr Kd.bool (@Kd.pr (@Kd.sl Kd.str) (@Kd.sl kI))))))) y16 (@Int.toNat s2) (@Kd.zero (@Kd.pr kI (@Kd.pr kI (@Kd.pr Kd.str (@Kd.pr Kd.bool (@Kd.pr (@Kd.sl Kd.str) (@Kd.sl kI)))))))).2.1, ((@List.getD (@Kd.T (@Kd.pr kI (@Kd.pr kI (@Kd.pr Kd.str (@Kd.pr Kd.bool (@Kd.pr (@Kd.sl Kd.str) (@Kd.sl kI))))))) y16 (@Int.toNat s2) (@Kd.zero (@Kd.pr kI (@Kd.pr kI (@Kd.pr Kd.str (@Kd.pr Kd.bool (@Kd.pr (@Kd.sl Kd.str) (@Kd.sl kI)))))))).2.2.1, ((@List.getD (@Kd.T (@Kd.pr kI (@Kd.pr kI (@Kd.pr Kd.str (@Kd.pr Kd.bool (@Kd.pr (@Kd.sl Kd.str) (@Kd.sl kI))))))) y16 (@Int.toNat s2) (@Kd.zero (@Kd.pr kI (@Kd.pr kI (@Kd.pr Kd.str (@Kd.pr Kd.bool (@Kd.pr (@Kd.sl Kd.str) (@Kd.sl kI)))))))).2.2.2.1, ((@List.getD (@Kd.T (@Kd.pr kI (@Kd.pr kI (@Kd.pr Kd.str (@Kd.pr Kd.bool (@Kd.pr (@Kd.sl Kd.str) (@Kd.sl kI))))))) y16 (@Int.toNat s2) (@Kd.zero (@Kd.pr kI (@Kd.pr kI (@Kd.pr Kd.str (@Kd.pr Kd.bool (@Kd.pr (@Kd.sl Kd.str) (@Kd.sl kI)))))))).2.2.2.2.1, s6)))))) (fun y17 => (K y12 y17))))))) (@Option.none R)))))
theorem wqdz (k : Nat) (wq1 : wqc) (wq3 : wqi) (wq2 : wqd) (wq0 : wqe) {R : Type} (I : Nat → St → Option R) (s0 : (List (Int × (Int × (Int × ((List UInt8) × Bool)))))) (s1 : (List (Int × (Int × ((List UInt8) × (Bool × ((List (List UInt8)) × (List Int)))))))) (s2 s3 s4 : Int) (s5 : (List (List UInt8))) (s6 : (List Int)) (K : wq13 R) (E : wqk R) : execK (wql k wq1 wq3 wq2 wq0) k (at_ [1, 1, 0, 0, 0] wq14) (wq2n s0 s1 s2 s3 s4 s5 s6) (konts (wql k wq1 wq3 wq2 wq0) k I [1, 1, 0, 0, 0] wq14 (outK (wql k wq1 wq3 wq2 wq0) wq3h [] (wq2d K E))) = wq51 k wq1 wq3 wq2 wq0 (fun s0 s1 s2 s3 s4 s5 s6 => I 1002 (wq2n s0 s1 s2 s3 s4 s5 s6)) s0 s1 s2 s3 s4 s5 s6 K E := by kernel_rfl
noncomputable def wq71 (k : Nat) (wq1 : wqc) (wq3 : wqi) (wq2 : wqd) (wq0 : wqe) {R : Type} (E1002 : ((List (Int × (Int × (Int × ((List UInt8) × Bool))))) → (List (Int × (Int × ((List UInt8) × (Bool × ((List (List UInt8)) × (List Int))))))) → Int → Int → Int → (List (List UInt8)) → (List Int) → Option R)) (x0 : (List (Int × (Int × (Int × ((List UInt8) × Bool)))))) (x1 : (List (Int × (Int × ((List UInt8) × (Bool × ((List (List UInt8)) × (List Int)))))))) (x2 x3 x4 : Int) (K : wq13 R) (E : wqk R) : Option R := (E1002 x0 x1 x2 x3 x4 [] [])
theorem wqj2 (k : Nat) (wq1 : wqc) (wq3 : wqi) (wq2 : wqd) (wq0 : wqe) {R : Type} (I : Nat → St → Option R) (x0 : (List (Int × (Int × (Int × ((List UInt8) × Bool)))))) (x1 : (List (Int × (Int × ((List UInt8) × (Bool × ((List (List UInt8)) × (List Int)))))))) (x2 x3 x4 : Int) (K : wq13 R) (E : wqk R) : fnK (wql k wq1 wq3 wq2 wq0) k wq14 54 [] wq3h [.ptr 1 0, .v (.int .i64) x2, .v (.int .i64) x3, .v (.int .i64) x4] [(21, .row 52 (.pr (.int .i64) (.pr (.int .i64) (.pr .str (.pr .bool (.pr (.sl .str) (.sl (.int .i64))))))) x1), (1, .var 95 [.v (.sl (.pr (.int .i64) (.pr (.int .i64) (.pr (.int .i64) (.pr .str .bool))))) x0, .row 21])] (wq2d K E) = wq71 k wq1 wq3 wq2 wq0 (fun s0 s1 s2 s3 s4 s5 s6 => iter (wql k wq1 wq3 wq2 wq0).pv (look (wql k wq1 wq3 wq2 wq0).cuts 1002) (execK (wql k wq1 wq3 wq2 wq0) k (at_ [1, 1, 0, 0, 0] wq14)) k (wq2n s0 s1 s2 s3 s4 s5 s6) (konts (wql k wq1 wq3 wq2 wq0) k I [1, 1, 0, 0] wq14 (outK (wql k wq1 wq3 wq2 wq0) wq3h [] (wq2d K E)))) x0 x1 x2 x3 x4 K E := by kernel_rfl
noncomputable def wq1v (k : Nat) (wq1 : wqc) (wq3 : wqi) (wq2 : wqd) (wq0 : wqe) {R : Type}  : Nat → (List (Int × (Int × (Int × ((List UInt8) × Bool))))) → (List (Int × (Int × ((List UInt8) × (Bool × ((List (List UInt8)) × (List Int))))))) → Int → Int → Int → (List (List UInt8)) → (List Int) → ((List (Int × (Int × (Int × ((List UInt8) × Bool))))) → (List (Int × (Int × ((List UInt8) × (Bool × ((List (List UInt8)) × (List Int))))))) → Option R) → ((List (Int × (Int × (Int × ((List UInt8) × Bool))))) → (List (Int × (Int × ((List UInt8) × (Bool × ((List (List UInt8)) × (List Int))))))) → Int → Int → Option R) → Option R
  | 0, _, _, _, _, _, _, _, _, _ => none
  | n + 1, s0, s1, s2, s3, s4, s5, s6, K, E => wq51 k wq1 wq3 wq2 wq0 (fun s0 s1 s2 s3 s4 s5 s6 => wq1v k wq1 wq3 wq2 wq0  n s0 s1 s2 s3 s4 s5 s6 K E) s0 s1 s2 s3 s4 s5 s6 K E
theorem wqe0 (k : Nat) (wq1 : wqc) (wq3 : wqi) (wq2 : wqd) (wq0 : wqe) {R : Type} (I : Nat → St → Option R) (K : wq13 R) (E : wqk R) : ∀ (n : Nat) (s0 : (List (Int × (Int × (Int × ((List UInt8) × Bool)))))) (s1 : (List (Int × (Int × ((List UInt8) × (Bool × ((List (List UInt8)) × (List Int)))))))) (s2 s3 s4 : Int) (s5 : (List (List UInt8))) (s6 : (List Int)), iter (wql k wq1 wq3 wq2 wq0).pv (look (wql k wq1 wq3 wq2 wq0).cuts 1002) (execK (wql k wq1 wq3 wq2 wq0) k (at_ [1, 1, 0, 0, 0] wq14)) n (wq2n s0 s1 s2 s3 s4 s5 s6) (konts (wql k wq1 wq3 wq2 wq0) k I [1, 1, 0, 0] wq14 (outK (wql k wq1 wq3 wq2 wq0) wq3h [] (wq2d K E))) = wq1v k wq1 wq3 wq2 wq0  n s0 s1 s2 s3 s4 s5 s6 K E := by
  intro n
  induction n with
  | zero => intros; rfl
  | succ n ih =>
    intro s0 s1 s2 s3 s4 s5 s6
    let I' : Nat → St → Option R := fun id s => bif Nat.beq id 1002 then iter (wql k wq1 wq3 wq2 wq0).pv (look (wql k wq1 wq3 wq2 wq0).cuts 1002) (execK (wql k wq1 wq3 wq2 wq0) k (at_ [1, 1, 0, 0, 0] wq14)) n s (konts (wql k wq1 wq3 wq2 wq0) k I [1, 1, 0, 0] wq14 (outK (wql k wq1 wq3 wq2 wq0) wq3h [] (wq2d K E))) else I id s
    have e := wqdz k wq1 wq3 wq2 wq0 I' s0 s1 s2 s3 s4 s5 s6 K E
    have h1002 : (fun s0 s1 s2 s3 s4 s5 s6 => I' 1002 (wq2n s0 s1 s2 s3 s4 s5 s6)) = (fun s0 s1 s2 s3 s4 s5 s6 => wq1v k wq1 wq3 wq2 wq0  n s0 s1 s2 s3 s4 s5 s6 K E) := by funext s0 s1 s2 s3 s4 s5 s6; exact ih s0 s1 s2 s3 s4 s5 s6
    refine Eq.trans (?_ : _ = _) (e.trans (Eq.trans ((congrArg ((fun E1002 => wq51 k wq1 wq3 wq2 wq0 E1002 s0 s1 s2 s3 s4 s5 s6 K E)) h1002)) (by rw [wq1v])))
    rfl
noncomputable def wqet (k : Nat) (wq1 : wqc) (wq3 : wqi) (wq2 : wqd) (wq0 : wqe) : CTab := (CTab.add 42 wqdg (wq93 k) (CTab.add 43 wqcm (wq7i wq1) CTab.nil))
def wq7m {R : Type} (K : wq22 R) (E : wqk R) : Out → Option R
  | .ret [.v (.int .i64) y2] [(21, .row 52 (.pr (.int .i64) (.pr (.int .i64) (.pr .str (.pr .bool (.pr (.sl .str) (.sl (.int .i64))))))) y1), (1, .var 95 [.v (.sl (.pr (.int .i64) (.pr (.int .i64) (.pr (.int .i64) (.pr .str .bool))))) y0, .row 21])] => K y0 y1 y2
  | .pan (.ifc 28 (.agg [.v (.int .i64) z2, .v (.int .i64) z3])) [(21, .row 52 (.pr (.int .i64) (.pr (.int .i64) (.pr .str (.pr .bool (.pr (.sl .str) (.sl (.int .i64))))))) z1), (1, .var 95 [.v (.sl (.pr (.int .i64) (.pr (.int .i64) (.pr (.int .i64) (.pr .str .bool))))) z0, .row 21])] => E z0 z1 z2 z3
  | _ => none
def wqdj : RetSpec := ⟨[.any], [(1, .obj 1 [.sl (.pr (.int .i64) (.pr (.int .i64) (.pr (.int .i64) (.pr .str .bool)))), .own 21 52 (.pr (.int .i64) (.pr (.int .i64) (.pr .str (.pr .bool (.pr (.sl .str) (.sl (.int .i64)))))))])], [(1, .obj 1 [.sl (.pr (.int .i64) (.pr (.int .i64) (.pr (.int .i64) (.pr .str .bool)))), .own 21 52 (.pr (.int .i64) (.pr (.int .i64) (.pr .str (.pr .bool (.pr (.sl .str) (.sl (.int .i64)))))))])]⟩
def wqj3 : List (Nat × CutSpec) := []
def wqha : List (Nat × Plan) := [(1, (.of [(0, 1), (1, 1), (2, 1), (3, 1), (4, 1), (5, 1), (6, 1), (7, 1), (8, 1), (9, 1), (14, 1), (10, 1), (11, 1), (12, 1), (13, 1), (15, 1), (16, 1), (17, 1)] .done))]
noncomputable def wq9d (k : Nat) (wq1 : wqc) (wq3 : wqi) (wq2 : wqd) (wq0 : wqe) : Ctx := ⟨tyT, wqj3, wqet k wq1 wq3 wq2 wq0, [], [1], wqha, @SH⟩
noncomputable def wq7n : Code := Tryz.f114.body.getD .skip
noncomputable def wqa8 (k : Nat) (wq1 : wqc) (wq3 : wqi) (wq2 : wqd) (wq0 : wqe) {R : Type}  (x0 : (List (Int × (Int × (Int × ((List UInt8) × Bool)))))) (x1 : (List (Int × (Int × ((List UInt8) × (Bool × ((List (List UInt8)) × (List Int)))))))) (x2 x3 x4 : Int) (x5 : (List UInt8)) (x6 : Bool) (x7 : Int) (K : wq22 R) (E : wqk R) : Option R := (@cond (@Option R) (@Bool.or (@Bool.not (@BEq.beq (@Kd.T Kd.bool) (@instBEqOfDecidableEq (@Kd.T Kd.bool) @instDecidableEqBool) (@BEq.beq Int (@instBEqOfDecidableEq Int @Int.instDecidableEq) (@Nat.cast Int instNatCastInt (@List.length (@Kd.T (@Kd.pr kI (@Kd.pr kI (@Kd.pr kI (@Kd.pr Kd.str Kd.bool))))) x0)) (0 : Int)) Bool.false)) (@inb (0 : Int) (@Nat.cast Int instNatCastInt (@List.length (@Kd.T (@Kd.pr kI (@Kd.pr kI (@Kd.pr kI (@Kd.pr Kd.str Kd.bool))))) x0)))) (@cond (@Option R) (@cond (@Kd.T Kd.bool) (@BEq.beq Int (@instBEqOfDecidableEq Int @Int.instDecidableEq) (@Nat.cast Int instNatCastInt (@List.length (@Kd.T (@Kd.pr kI (@Kd.pr kI (@Kd.pr kI (@Kd.pr Kd.str Kd.bool))))) x0)) (0 : Int)) Bool.true (@Decidable.decide (@LE.le Int Int.instLEInt (@List.getD (@Kd.T (@Kd.pr kI (@Kd.pr kI (@Kd.pr kI (@Kd.pr Kd.str Kd.bool))))) x0 (@Int.toNat (0 : Int)) (@Kd.zero (@Kd.pr kI (@Kd.pr kI (@Kd.pr kI (@Kd.pr Kd.str Kd.bool)))))).2.2.1 x4) (@Int.decLe (@List.getD (@Kd.T (@Kd.pr kI (@Kd.pr kI (@Kd.pr kI (@Kd.pr Kd.str Kd.bool))))) x0 (@Int.toNat (0 : Int)) (@Kd.zero (@Kd.pr kI (@Kd.pr kI (@Kd.pr kI (@Kd.pr Kd.str Kd.bool)))))).2.2.1 x4))) (@wq5o k R (10 : Int) x3 (fun y12 y13 => (E x0 x1 y12 y13))) (wq1 R x0 x1 (@Go.IntKind.wrap Go.IntKind.i64 (@HAdd.hAdd Int Int Int (@instHAdd Int @Int.instAdd) x7 (1 : Int))) (fun y12 y13 y14 => (K y12 y13 y14)) (fun y12 y13 y14 y15 => (E y12 y13 y14 y15)))) (@Option.none R))
theorem wqj4 (k : Nat) (wq1 : wqc) (wq3 : wqi) (wq2 : wqd) (wq0 : wqe) {R : Type} (I : Nat → St → Option R) (x0 : (List (Int × (Int × (Int × ((List UInt8) × Bool)))))) (x1 : (List (Int × (Int × ((List UInt8) × (Bool × ((List (List UInt8)) × (List Int)))))))) (x2 x3 x4 : Int) (x5 : (List UInt8)) (x6 : Bool) (x7 : Int) (K : wq22 R) (E : wqk R) : fnK (wq9d k wq1 wq3 wq2 wq0) k wq7n 32 [.tmp 6] wqdj [.ptr 1 0, .agg [.v (.int .i64) x2, .v (.int .i64) x3, .v (.int .i64) x4, .v .str x5, .v .bool x6], .v (.int .i64) x7] [(21, .row 52 (.pr (.int .i64) (.pr (.int .i64) (.pr .str (.pr .bool (.pr (.sl .str) (.sl (.int .i64))))))) x1), (1, .var 95 [.v (.sl (.pr (.int .i64) (.pr (.int .i64) (.pr (.int .i64) (.pr .str .bool))))) x0, .row 21])] (wq7m K E) = wqa8 k wq1 wq3 wq2 wq0  x0 x1 x2 x3 x4 x5 x6 x7 K E := by kernel_rfl
mutual
noncomputable def wq5 : Nat → (R : Type) → (List (Int × (Int × (Int × ((List UInt8) × Bool))))) → (List (Int × (Int × ((List UInt8) × (Bool × ((List (List UInt8)) × (List Int))))))) → Int → ((List (Int × (Int × (Int × ((List UInt8) × Bool))))) → (List (Int × (Int × ((List UInt8) × (Bool × ((List (List UInt8)) × (List Int))))))) → Int → Option R) → ((List (Int × (Int × (Int × ((List UInt8) × Bool))))) → (List (Int × (Int × ((List UInt8) × (Bool × ((List (List UInt8)) × (List Int))))))) → Int → Int → Option R) → Option R
  | 0, _, _, _, _, _, _ => none
  | k + 1, R, x0, x1, x2, K, E => wqa7 k (wq5 k) (FR_doc_parser_list k) (FR_doc_parser_pairs k) (FR_doc_parser_under k)  x0 x1 x2 K E
noncomputable def FR_doc_parser_list : Nat → (R : Type) → (List (Int × (Int × (Int × ((List UInt8) × Bool))))) → (List (Int × (Int × ((List UInt8) × (Bool × ((List (List UInt8)) × (List Int))))))) → Int → Int → Int → ((List (Int × (Int × (Int × ((List UInt8) × Bool))))) → (List (Int × (Int × ((List UInt8) × (Bool × ((List (List UInt8)) × (List Int))))))) → Option R) → ((List (Int × (Int × (Int × ((List UInt8) × Bool))))) → (List (Int × (Int × ((List UInt8) × (Bool × ((List (List UInt8)) × (List Int))))))) → Int → Int → Option R) → Option R
  | 0, _, _, _, _, _, _, _, _ => none
  | k + 1, R, x0, x1, x2, x3, x4, K, E => wq7y k (wq5 k) (FR_doc_parser_list k) (FR_doc_parser_pairs k) (FR_doc_parser_under k) (fun s0 s1 s2 s3 s4 s5 => wq23 k (wq5 k) (FR_doc_parser_list k) (FR_doc_parser_pairs k) (FR_doc_parser_under k) k s0 s1 s2 s3 s4 s5 K E) x0 x1 x2 x3 x4 K E
noncomputable def FR_doc_parser_pairs : Nat → (R : Type) → (List (Int × (Int × (Int × ((List UInt8) × Bool))))) → (List (Int × (Int × ((List UInt8) × (Bool × ((List (List UInt8)) × (List Int))))))) → Int → Int → Int → ((List (Int × (Int × (Int × ((List UInt8) × Bool))))) → (List (Int × (Int × ((List UInt8) × (Bool × ((List (List UInt8)) × (List Int))))))) → Option R) → ((List (Int × (Int × (Int × ((List UInt8) × Bool))))) → (List (Int × (Int × ((List UInt8) × (Bool × ((List (List UInt8)) × (List Int))))))) → Int → Int → Option R) → Option R
  | 0, _, _, _, _, _, _, _, _ => none
  | k + 1, R, x0, x1, x2, x3, x4, K, E => wq71 k (wq5 k) (FR_doc_parser_list k) (FR_doc_parser_pairs k) (FR_doc_parser_under k) (fun s0 s1 s2 s3 s4 s5 s6 => wq1v k (wq5 k) (FR_doc_parser_list k) (FR_doc_parser_pairs k) (FR_doc_parser_under k) k s0 s1 s2 s3 s4 s5 s6 K E) x0 x1 x2 x3 x4 K E
noncomputable def FR_doc_parser_under : Nat → (R : Type) → (List (Int × (Int × (Int × ((List UInt8) × Bool))))) → (List (Int × (Int × ((List UInt8) × (Bool × ((List (List UInt8)) × (List Int))))))) → Int → Int → Int → (List UInt8) → Bool → Int → ((List (Int × (Int × (Int × ((List UInt8) × Bool))))) → (List (Int × (Int × ((List UInt8) × (Bool × ((List (List UInt8)) × (List Int))))))) → Int → Option R) → ((List (Int × (Int × (Int × ((List UInt8) × Bool))))) → (List (Int × (Int × ((List UInt8) × (Bool × ((List (List UInt8)) × (List Int))))))) → Int → Int → Option R) → Option R
  | 0, _, _, _, _, _, _, _, _, _, _, _ => none
  | k + 1, R, x0, x1, x2, x3, x4, x5, x6, x7, K, E => wqa8 k (wq5 k) (FR_doc_parser_list k) (FR_doc_parser_pairs k) (FR_doc_parser_under k)  x0 x1 x2 x3 x4 x5 x6 x7 K E
end
noncomputable def wq72 (k : Nat) {R : Type} (x0 : (List (Int × (Int × (Int × ((List UInt8) × Bool)))))) (x1 : (List (Int × (Int × ((List UInt8) × (Bool × ((List (List UInt8)) × (List Int)))))))) (x2 : Int) (K : wq22 R) (E : wqk R) : Option R := wq5 k R x0 x1 x2 K E
noncomputable def wqbp (k : Nat) {R : Type} (x0 : (List (Int × (Int × (Int × ((List UInt8) × Bool)))))) (x1 : (List (Int × (Int × ((List UInt8) × (Bool × ((List (List UInt8)) × (List Int)))))))) (x2 x3 x4 : Int) (K : wq13 R) (E : wqk R) : Option R := FR_doc_parser_list k R x0 x1 x2 x3 x4 K E
noncomputable def wqa9 (k : Nat) {R : Type} (x0 : (List (Int × (Int × (Int × ((List UInt8) × Bool)))))) (x1 : (List (Int × (Int × ((List UInt8) × (Bool × ((List (List UInt8)) × (List Int)))))))) (x2 x3 x4 : Int) (K : wq13 R) (E : wqk R) : Option R := FR_doc_parser_pairs k R x0 x1 x2 x3 x4 K E
noncomputable def wqaa (k : Nat) {R : Type} (x0 : (List (Int × (Int × (Int × ((List UInt8) × Bool)))))) (x1 : (List (Int × (Int × ((List UInt8) × (Bool × ((List (List UInt8)) × (List Int)))))))) (x2 x3 x4 : Int) (x5 : (List UInt8)) (x6 : Bool) (x7 : Int) (K : wq22 R) (E : wqk R) : Option R := FR_doc_parser_under k R x0 x1 x2 x3 x4 x5 x6 x7 K E
theorem wqj5 (k : Nat) {R : Type} (x0 : (List (Int × (Int × (Int × ((List UInt8) × Bool)))))) (x1 : (List (Int × (Int × ((List UInt8) × (Bool × ((List (List UInt8)) × (List Int)))))))) (x2 : Int) (K : wq22 R) (E : wqk R) : fnK (wq9c k (wq5 k) (FR_doc_parser_list k) (FR_doc_parser_pairs k) (FR_doc_parser_under k)) k wq7l 97 [.tmp 4] wqdi [.ptr 1 0, .v (.int .i64) x2] [(21, .row 52 (.pr (.int .i64) (.pr (.int .i64) (.pr .str (.pr .bool (.pr (.sl .str) (.sl (.int .i64))))))) x1), (1, .var 95 [.v (.sl (.pr (.int .i64) (.pr (.int .i64) (.pr (.int .i64) (.pr .str .bool))))) x0, .row 21])] (wq7k K E) = wq5 (k + 1) R x0 x1 x2 K E := by
  rw [wq5]
  exact wqiz k (wq5 k) (FR_doc_parser_list k) (FR_doc_parser_pairs k) (FR_doc_parser_under k) (fun _ _ => none) x0 x1 x2 K E
noncomputable def wq40 (k : Nat) {R : Type} : List PV → List (Nm × HObj) → (Out → Option R) → Option R
  | [.ptr 1 0, .v (.int .i64) x2], [(21, .row 52 (.pr (.int .i64) (.pr (.int .i64) (.pr .str (.pr .bool (.pr (.sl .str) (.sl (.int .i64))))))) x1), (1, .var 95 [.v (.sl (.pr (.int .i64) (.pr (.int .i64) (.pr (.int .i64) (.pr .str .bool))))) x0, .row 21])], K => wq72 k x0 x1 x2 (fun y0 y1 y2 => K (.ret [.v (.int .i64) y2] [(21, .row 52 (.pr (.int .i64) (.pr (.int .i64) (.pr .str (.pr .bool (.pr (.sl .str) (.sl (.int .i64))))))) y1), (1, .var 95 [.v (.sl (.pr (.int .i64) (.pr (.int .i64) (.pr (.int .i64) (.pr .str .bool))))) y0, .row 21])])) (fun z0 z1 z2 z3 => K (.pan (.ifc 28 (.agg [.v (.int .i64) z2, .v (.int .i64) z3])) [(21, .row 52 (.pr (.int .i64) (.pr (.int .i64) (.pr .str (.pr .bool (.pr (.sl .str) (.sl (.int .i64))))))) z1), (1, .var 95 [.v (.sl (.pr (.int .i64) (.pr (.int .i64) (.pr (.int .i64) (.pr .str .bool))))) z0, .row 21])]))
  | _, _, _ => none
theorem wqkv (k : Nat) {R : Type} (x0 : (List (Int × (Int × (Int × ((List UInt8) × Bool)))))) (x1 : (List (Int × (Int × ((List UInt8) × (Bool × ((List (List UInt8)) × (List Int)))))))) (x2 x3 x4 : Int) (K : wq13 R) (E : wqk R) : fnK (wqp k (wq5 k) (FR_doc_parser_list k) (FR_doc_parser_pairs k) (FR_doc_parser_under k)) k wq19 37 [] wq3z [.ptr 1 0, .v (.int .i64) x2, .v (.int .i64) x3, .v (.int .i64) x4] [(21, .row 52 (.pr (.int .i64) (.pr (.int .i64) (.pr .str (.pr .bool (.pr (.sl .str) (.sl (.int .i64))))))) x1), (1, .var 95 [.v (.sl (.pr (.int .i64) (.pr (.int .i64) (.pr (.int .i64) (.pr .str .bool))))) x0, .row 21])] (wq2k K E) = FR_doc_parser_list (k + 1) R x0 x1 x2 x3 x4 K E := by
  rw [FR_doc_parser_list]
  let I : Nat → St → Option R := fun _ _ => none
  have h1001 : (fun s0 s1 s2 s3 s4 s5 => iter (wqp k (wq5 k) (FR_doc_parser_list k) (FR_doc_parser_pairs k) (FR_doc_parser_under k)).pv (look (wqp k (wq5 k) (FR_doc_parser_list k) (FR_doc_parser_pairs k) (FR_doc_parser_under k)).cuts 1001) (execK (wqp k (wq5 k) (FR_doc_parser_list k) (FR_doc_parser_pairs k) (FR_doc_parser_under k)) k (at_ [1, 0, 0, 0] wq19)) k (wq30 s0 s1 s2 s3 s4 s5) (konts (wqp k (wq5 k) (FR_doc_parser_list k) (FR_doc_parser_pairs k) (FR_doc_parser_under k)) k I [1, 0, 0] wq19 (outK (wqp k (wq5 k) (FR_doc_parser_list k) (FR_doc_parser_pairs k) (FR_doc_parser_under k)) wq3z [] (wq2k K E)))) = (fun s0 s1 s2 s3 s4 s5 => wq23 k (wq5 k) (FR_doc_parser_list k) (FR_doc_parser_pairs k) (FR_doc_parser_under k) k s0 s1 s2 s3 s4 s5 K E) := by funext s0 s1 s2 s3 s4 s5; exact wqer k (wq5 k) (FR_doc_parser_list k) (FR_doc_parser_pairs k) (FR_doc_parser_under k) I K E k s0 s1 s2 s3 s4 s5
  exact (wqku k (wq5 k) (FR_doc_parser_list k) (FR_doc_parser_pairs k) (FR_doc_parser_under k) I x0 x1 x2 x3 x4 K E).trans (congrArg ((fun E1001 => wq7y k (wq5 k) (FR_doc_parser_list k) (FR_doc_parser_pairs k) (FR_doc_parser_under k) E1001 x0 x1 x2 x3 x4 K E)) h1001)
noncomputable def wq5d (k : Nat) {R : Type} : List PV → List (Nm × HObj) → (Out → Option R) → Option R
  | [.ptr 1 0, .v (.int .i64) x2, .v (.int .i64) x3, .v (.int .i64) x4], [(21, .row 52 (.pr (.int .i64) (.pr (.int .i64) (.pr .str (.pr .bool (.pr (.sl .str) (.sl (.int .i64))))))) x1), (1, .var 95 [.v (.sl (.pr (.int .i64) (.pr (.int .i64) (.pr (.int .i64) (.pr .str .bool))))) x0, .row 21])], K => wqbp k x0 x1 x2 x3 x4 (fun y0 y1 => K (.ret [] [(21, .row 52 (.pr (.int .i64) (.pr (.int .i64) (.pr .str (.pr .bool (.pr (.sl .str) (.sl (.int .i64))))))) y1), (1, .var 95 [.v (.sl (.pr (.int .i64) (.pr (.int .i64) (.pr (.int .i64) (.pr .str .bool))))) y0, .row 21])])) (fun z0 z1 z2 z3 => K (.pan (.ifc 28 (.agg [.v (.int .i64) z2, .v (.int .i64) z3])) [(21, .row 52 (.pr (.int .i64) (.pr (.int .i64) (.pr .str (.pr .bool (.pr (.sl .str) (.sl (.int .i64))))))) z1), (1, .var 95 [.v (.sl (.pr (.int .i64) (.pr (.int .i64) (.pr (.int .i64) (.pr .str .bool))))) z0, .row 21])]))
  | _, _, _ => none
theorem wqj6 (k : Nat) {R : Type} (x0 : (List (Int × (Int × (Int × ((List UInt8) × Bool)))))) (x1 : (List (Int × (Int × ((List UInt8) × (Bool × ((List (List UInt8)) × (List Int)))))))) (x2 x3 x4 : Int) (K : wq13 R) (E : wqk R) : fnK (wql k (wq5 k) (FR_doc_parser_list k) (FR_doc_parser_pairs k) (FR_doc_parser_under k)) k wq14 54 [] wq3h [.ptr 1 0, .v (.int .i64) x2, .v (.int .i64) x3, .v (.int .i64) x4] [(21, .row 52 (.pr (.int .i64) (.pr (.int .i64) (.pr .str (.pr .bool (.pr (.sl .str) (.sl (.int .i64))))))) x1), (1, .var 95 [.v (.sl (.pr (.int .i64) (.pr (.int .i64) (.pr (.int .i64) (.pr .str .bool))))) x0, .row 21])] (wq2d K E) = FR_doc_parser_pairs (k + 1) R x0 x1 x2 x3 x4 K E := by
  rw [FR_doc_parser_pairs]
  let I : Nat → St → Option R := fun _ _ => none
  have h1002 : (fun s0 s1 s2 s3 s4 s5 s6 => iter (wql k (wq5 k) (FR_doc_parser_list k) (FR_doc_parser_pairs k) (FR_doc_parser_under k)).pv (look (wql k (wq5 k) (FR_doc_parser_list k) (FR_doc_parser_pairs k) (FR_doc_parser_under k)).cuts 1002) (execK (wql k (wq5 k) (FR_doc_parser_list k) (FR_doc_parser_pairs k) (FR_doc_parser_under k)) k (at_ [1, 1, 0, 0, 0] wq14)) k (wq2n s0 s1 s2 s3 s4 s5 s6) (konts (wql k (wq5 k) (FR_doc_parser_list k) (FR_doc_parser_pairs k) (FR_doc_parser_under k)) k I [1, 1, 0, 0] wq14 (outK (wql k (wq5 k) (FR_doc_parser_list k) (FR_doc_parser_pairs k) (FR_doc_parser_under k)) wq3h [] (wq2d K E)))) = (fun s0 s1 s2 s3 s4 s5 s6 => wq1v k (wq5 k) (FR_doc_parser_list k) (FR_doc_parser_pairs k) (FR_doc_parser_under k) k s0 s1 s2 s3 s4 s5 s6 K E) := by funext s0 s1 s2 s3 s4 s5 s6; exact wqe0 k (wq5 k) (FR_doc_parser_list k) (FR_doc_parser_pairs k) (FR_doc_parser_under k) I K E k s0 s1 s2 s3 s4 s5 s6
  exact (wqj2 k (wq5 k) (FR_doc_parser_list k) (FR_doc_parser_pairs k) (FR_doc_parser_under k) I x0 x1 x2 x3 x4 K E).trans (congrArg ((fun E1002 => wq71 k (wq5 k) (FR_doc_parser_list k) (FR_doc_parser_pairs k) (FR_doc_parser_under k) E1002 x0 x1 x2 x3 x4 K E)) h1002)
noncomputable def wq4y (k : Nat) {R : Type} : List PV → List (Nm × HObj) → (Out → Option R) → Option R
  | [.ptr 1 0, .v (.int .i64) x2, .v (.int .i64) x3, .v (.int .i64) x4], [(21, .row 52 (.pr (.int .i64) (.pr (.int .i64) (.pr .str (.pr .bool (.pr (.sl .str) (.sl (.int .i64))))))) x1), (1, .var 95 [.v (.sl (.pr (.int .i64) (.pr (.int .i64) (.pr (.int .i64) (.pr .str .bool))))) x0, .row 21])], K => wqa9 k x0 x1 x2 x3 x4 (fun y0 y1 => K (.ret [] [(21, .row 52 (.pr (.int .i64) (.pr (.int .i64) (.pr .str (.pr .bool (.pr (.sl .str) (.sl (.int .i64))))))) y1), (1, .var 95 [.v (.sl (.pr (.int .i64) (.pr (.int .i64) (.pr (.int .i64) (.pr .str .bool))))) y0, .row 21])])) (fun z0 z1 z2 z3 => K (.pan (.ifc 28 (.agg [.v (.int .i64) z2, .v (.int .i64) z3])) [(21, .row 52 (.pr (.int .i64) (.pr (.int .i64) (.pr .str (.pr .bool (.pr (.sl .str) (.sl (.int .i64))))))) z1), (1, .var 95 [.v (.sl (.pr (.int .i64) (.pr (.int .i64) (.pr (.int .i64) (.pr .str .bool))))) z0, .row 21])]))
  | _, _, _ => none
theorem wqj7 (k : Nat) {R : Type} (x0 : (List (Int × (Int × (Int × ((List UInt8) × Bool)))))) (x1 : (List (Int × (Int × ((List UInt8) × (Bool × ((List (List UInt8)) × (List Int)))))))) (x2 x3 x4 : Int) (x5 : (List UInt8)) (x6 : Bool) (x7 : Int) (K : wq22 R) (E : wqk R) : fnK (wq9d k (wq5 k) (FR_doc_parser_list k) (FR_doc_parser_pairs k) (FR_doc_parser_under k)) k wq7n 32 [.tmp 6] wqdj [.ptr 1 0, .agg [.v (.int .i64) x2, .v (.int .i64) x3, .v (.int .i64) x4, .v .str x5, .v .bool x6], .v (.int .i64) x7] [(21, .row 52 (.pr (.int .i64) (.pr (.int .i64) (.pr .str (.pr .bool (.pr (.sl .str) (.sl (.int .i64))))))) x1), (1, .var 95 [.v (.sl (.pr (.int .i64) (.pr (.int .i64) (.pr (.int .i64) (.pr .str .bool))))) x0, .row 21])] (wq7m K E) = FR_doc_parser_under (k + 1) R x0 x1 x2 x3 x4 x5 x6 x7 K E := by
  rw [FR_doc_parser_under]
  exact wqj4 k (wq5 k) (FR_doc_parser_list k) (FR_doc_parser_pairs k) (FR_doc_parser_under k) (fun _ _ => none) x0 x1 x2 x3 x4 x5 x6 x7 K E
noncomputable def wq41 (k : Nat) {R : Type} : List PV → List (Nm × HObj) → (Out → Option R) → Option R
  | [.ptr 1 0, .agg [.v (.int .i64) x2, .v (.int .i64) x3, .v (.int .i64) x4, .v .str x5, .v .bool x6], .v (.int .i64) x7], [(21, .row 52 (.pr (.int .i64) (.pr (.int .i64) (.pr .str (.pr .bool (.pr (.sl .str) (.sl (.int .i64))))))) x1), (1, .var 95 [.v (.sl (.pr (.int .i64) (.pr (.int .i64) (.pr (.int .i64) (.pr .str .bool))))) x0, .row 21])], K => wqaa k x0 x1 x2 x3 x4 x5 x6 x7 (fun y0 y1 y2 => K (.ret [.v (.int .i64) y2] [(21, .row 52 (.pr (.int .i64) (.pr (.int .i64) (.pr .str (.pr .bool (.pr (.sl .str) (.sl (.int .i64))))))) y1), (1, .var 95 [.v (.sl (.pr (.int .i64) (.pr (.int .i64) (.pr (.int .i64) (.pr .str .bool))))) y0, .row 21])])) (fun z0 z1 z2 z3 => K (.pan (.ifc 28 (.agg [.v (.int .i64) z2, .v (.int .i64) z3])) [(21, .row 52 (.pr (.int .i64) (.pr (.int .i64) (.pr .str (.pr .bool (.pr (.sl .str) (.sl (.int .i64))))))) z1), (1, .var 95 [.v (.sl (.pr (.int .i64) (.pr (.int .i64) (.pr (.int .i64) (.pr .str .bool))))) z0, .row 21])]))
  | _, _, _ => none
theorem wqj8 (k : Nat) (wq1 : wqc) (wq3 : wqi) (wq2 : wqd) (wq0 : wqe) (wqp3 : ∀ {ps : List PV} {hp : List (Nm × HObj)} {R : Type} {K : Out → Option R} {r : R}, wq8g wq3 ps hp K = some r → DoesTo Tryz.prog 77 ps hp fun out => K out = some r) (wqns : ∀ {ps : List PV} {hp : List (Nm × HObj)} {R : Type} {K : Out → Option R} {r : R}, wq7j wq2 ps hp K = some r → DoesTo Tryz.prog 78 ps hp fun out => K out = some r) : (wqep k wq1 wq3 wq2 wq0).Ok Tryz.prog := (CTab.add_ok (fun h => wqir k h) (CTab.add_ok (fun h => wqbn k h) (CTab.add_ok (fun h => wqp3 h) (CTab.add_ok (fun h => wqns h) CTab.nil_ok))))
theorem wqkw (k : Nat) (wq1 : wqc) (wq3 : wqi) (wq2 : wqd) (wq0 : wqe) (wq9w : ∀ {ps : List PV} {hp : List (Nm × HObj)} {R : Type} {K : Out → Option R} {r : R}, wq3p wq0 ps hp K = some r → DoesTo Tryz.prog 114 ps hp fun out => K out = some r) : (wqgi k wq1 wq3 wq2 wq0).Ok Tryz.prog := (CTab.add_ok (fun h => wqbn k h) (CTab.add_ok (fun h => wqgg k h) (CTab.add_ok (fun h => wq9w h) CTab.nil_ok)))
theorem wqj9 (k : Nat) (wq1 : wqc) (wq3 : wqi) (wq2 : wqd) (wq0 : wqe) (wq9w : ∀ {ps : List PV} {hp : List (Nm × HObj)} {R : Type} {K : Out → Option R} {r : R}, wq3p wq0 ps hp K = some r → DoesTo Tryz.prog 114 ps hp fun out => K out = some r) : (wqes k wq1 wq3 wq2 wq0).Ok Tryz.prog := (CTab.add_ok (fun h => wqir k h) (CTab.add_ok (fun h => wqbn k h) (CTab.add_ok (fun h => wqgg k h) (CTab.add_ok (fun h => wq9w h) (CTab.add_ok (fun h => wqa1 k h) CTab.nil_ok)))))
theorem wqja (k : Nat) (wq1 : wqc) (wq3 : wqi) (wq2 : wqd) (wq0 : wqe) (wqnt : ∀ {ps : List PV} {hp : List (Nm × HObj)} {R : Type} {K : Out → Option R} {r : R}, wq7i wq1 ps hp K = some r → DoesTo Tryz.prog 43 ps hp fun out => K out = some r) : (wqet k wq1 wq3 wq2 wq0).Ok Tryz.prog := (CTab.add_ok (fun h => wqir k h) (CTab.add_ok (fun h => wqnt h) CTab.nil_ok))
theorem wq6f : ∀ k : Nat, (∀ {ps : List PV} {hp : List (Nm × HObj)} {R : Type} {K : Out → Option R} {r : R}, wq40 k ps hp K = some r → DoesTo Tryz.prog 43 ps hp fun out => K out = some r) ∧ (∀ {ps : List PV} {hp : List (Nm × HObj)} {R : Type} {K : Out → Option R} {r : R}, wq5d k ps hp K = some r → DoesTo Tryz.prog 77 ps hp fun out => K out = some r) ∧ (∀ {ps : List PV} {hp : List (Nm × HObj)} {R : Type} {K : Out → Option R} {r : R}, wq4y k ps hp K = some r → DoesTo Tryz.prog 78 ps hp fun out => K out = some r) ∧ (∀ {ps : List PV} {hp : List (Nm × HObj)} {R : Type} {K : Out → Option R} {r : R}, wq41 k ps hp K = some r → DoesTo Tryz.prog 114 ps hp fun out => K out = some r) := by
  intro k
  induction k with
  | zero =>
    refine ⟨?_, ?_, ?_, ?_⟩
    · intro ps hp R K r h
      unfold wq40 at h
      split at h
      · unfold wq72 at h; rw [wq5] at h; cases h
      · cases h
    · intro ps hp R K r h
      unfold wq5d at h
      split at h
      · unfold wqbp at h; rw [FR_doc_parser_list] at h; cases h
      · cases h
    · intro ps hp R K r h
      unfold wq4y at h
      split at h
      · unfold wqa9 at h; rw [FR_doc_parser_pairs] at h; cases h
      · cases h
    · intro ps hp R K r h
      unfold wq41 at h
      split at h
      · unfold wqaa at h; rw [FR_doc_parser_under] at h; cases h
      · cases h
  | succ k ih =>
    obtain ⟨ih_doc_parser_block, ih_doc_parser_list, ih_doc_parser_pairs, ih_doc_parser_under⟩ := ih
    refine ⟨?_, ?_, ?_, ?_⟩
    · intro ps hp R K r h
      unfold wq40 at h
      split at h
      · unfold wq72 at h; rw [← wqj5] at h
        have := fn_ok (P := Tryz.prog) (cx := wq9c k (wq5 k) (FR_doc_parser_list k) (FR_doc_parser_pairs k) (FR_doc_parser_under k)) (f := 43) ⟨tyT_ok, wqj8 k (wq5 k) (FR_doc_parser_list k) (FR_doc_parser_pairs k) (FR_doc_parser_under k) (fun h => ih_doc_parser_list (by unfold wq8g at h; unfold wq5d; exact h)) (fun h => ih_doc_parser_pairs (by unfold wq7j at h; unfold wq4y; exact h)), fun _ _ => rfl⟩ (by kernel_rfl) (fn := Tryz.f43) (c := wq7l) (by kernel_rfl) (by kernel_rfl) (by kernel_rfl) (rs := [.tmp 4]) (by kernel_rfl) (by kernel_rfl) h
        exact this.mono fun out ho => by
          unfold wq7k at ho
          split at ho <;> first | exact ho | cases ho
      · cases h
    · intro ps hp R K r h
      unfold wq5d at h
      split at h
      · unfold wqbp at h; rw [← wqkv] at h
        have := fn_ok (P := Tryz.prog) (cx := wqp k (wq5 k) (FR_doc_parser_list k) (FR_doc_parser_pairs k) (FR_doc_parser_under k)) (f := 77) ⟨tyT_ok, wqkw k (wq5 k) (FR_doc_parser_list k) (FR_doc_parser_pairs k) (FR_doc_parser_under k) (fun h => ih_doc_parser_under (by unfold wq3p at h; unfold wq41; exact h)), fun _ _ => rfl⟩ (by kernel_rfl) (fn := Tryz.f77) (c := wq19) (by kernel_rfl) (by kernel_rfl) (by kernel_rfl) (rs := []) (by kernel_rfl) (by kernel_rfl) h
        exact this.mono fun out ho => by
          unfold wq2k at ho
          split at ho <;> first | exact ho | cases ho
      · cases h
    · intro ps hp R K r h
      unfold wq4y at h
      split at h
      · unfold wqa9 at h; rw [← wqj6] at h
        have := fn_ok (P := Tryz.prog) (cx := wql k (wq5 k) (FR_doc_parser_list k) (FR_doc_parser_pairs k) (FR_doc_parser_under k)) (f := 78) ⟨tyT_ok, wqj9 k (wq5 k) (FR_doc_parser_list k) (FR_doc_parser_pairs k) (FR_doc_parser_under k) (fun h => ih_doc_parser_under (by unfold wq3p at h; unfold wq41; exact h)), fun _ _ => rfl⟩ (by kernel_rfl) (fn := Tryz.f78) (c := wq14) (by kernel_rfl) (by kernel_rfl) (by kernel_rfl) (rs := []) (by kernel_rfl) (by kernel_rfl) h
        exact this.mono fun out ho => by
          unfold wq2d at ho
          split at ho <;> first | exact ho | cases ho
      · cases h
    · intro ps hp R K r h
      unfold wq41 at h
      split at h
      · unfold wqaa at h; rw [← wqj7] at h
        have := fn_ok (P := Tryz.prog) (cx := wq9d k (wq5 k) (FR_doc_parser_list k) (FR_doc_parser_pairs k) (FR_doc_parser_under k)) (f := 114) ⟨tyT_ok, wqja k (wq5 k) (FR_doc_parser_list k) (FR_doc_parser_pairs k) (FR_doc_parser_under k) (fun h => ih_doc_parser_block (by unfold wq7i at h; unfold wq40; exact h)), fun _ _ => rfl⟩ (by kernel_rfl) (fn := Tryz.f114) (c := wq7n) (by kernel_rfl) (by kernel_rfl) (by kernel_rfl) (rs := [.tmp 6]) (by kernel_rfl) (by kernel_rfl) h
        exact this.mono fun out ho => by
          unfold wq7m at ho
          split at ho <;> first | exact ho | cases ho
      · cases h
theorem wqo0 (k : Nat) {ps : List PV} {hp : List (Nm × HObj)} {R : Type} {K : Out → Option R} {r : R} (h : wq40 k ps hp K = some r) : DoesTo Tryz.prog 43 ps hp fun out => K out = some r := (wq6f k).1 h
theorem wq10u (k : Nat) {ps : List PV} {hp : List (Nm × HObj)} {R : Type} {K : Out → Option R} {r : R} (h : wq5d k ps hp K = some r) : DoesTo Tryz.prog 77 ps hp fun out => K out = some r := (wq6f k).2.1 h
theorem wq10d (k : Nat) {ps : List PV} {hp : List (Nm × HObj)} {R : Type} {K : Out → Option R} {r : R} (h : wq4y k ps hp K = some r) : DoesTo Tryz.prog 78 ps hp fun out => K out = some r := (wq6f k).2.2.1 h
theorem wq10e (k : Nat) {ps : List PV} {hp : List (Nm × HObj)} {R : Type} {K : Out → Option R} {r : R} (h : wq41 k ps hp K = some r) : DoesTo Tryz.prog 114 ps hp fun out => K out = some r := (wq6f k).2.2.2 h
end Go.Proofs.YtpfbdepoammjmaaGreatDoor.Pvm

set_option maxRecDepth 1000000
set_option maxHeartbeats 0
namespace Go.Proofs.YtpfbdepoammjmaaGreatDoor.Pvm
open Go Go.Proofs
def wqwz : List LS := [.sl (.pr (.int .i64) (.pr (.int .i64) (.pr (.int .i64) (.pr .str .bool))))]
noncomputable def C_doc_Of (k : Nat) : CTab := (CTab.add 42 wqdg (wq93 k) (CTab.add 43 wqcm (wq40 k) CTab.nil))
def wqo1 {R : Type} (K : ((List (Int × (Int × ((List UInt8) × (Bool × ((List (List UInt8)) × (List Int))))))) → Int → Int → Option R)) : Out → Option R
  | .ret [.agg [.v (.sl (.pr (.int .i64) (.pr (.int .i64) (.pr .str (.pr .bool (.pr (.sl .str) (.sl (.int .i64)))))))) y0], .agg [.v (.int .i64) y1, .v (.int .i64) y2]] [] => K y0 y1 y2
  | _ => none
def wqzm : RetSpec := ⟨[.ag [.sl (.pr (.int .i64) (.pr (.int .i64) (.pr .str (.pr .bool (.pr (.sl .str) (.sl (.int .i64)))))))], .ag [.any, .any]], [], []⟩
def wq10f : List (Nat × CutSpec) := []
def wqyc : List (Nat × Plan) := []
noncomputable def wqvj (k : Nat) : Ctx := ⟨tyT, wq10f, C_doc_Of k, [2, 3], [], wqyc, @SH⟩
noncomputable def wq73 : Code := Tryz.f17.body.getD .skip
noncomputable def wqis (k : Nat) {R : Type} : PV → List PV → List (Nm × HObj) → (Out → Option R) → Option R
  | .nilif, [.ptr 1 0, .ptr 2 0], [(1, .var 26 [.v (.sl (.pr (.int .i64) (.pr (.int .i64) (.pr .str (.pr .bool (.pr (.sl .str) (.sl (.int .i64)))))))) x0]), (2, .var 28 [.v (.int .i64) x1, .v (.int .i64) x2])], K => wqcl k x0 x1 x2 (fun y0 y1 y2 => K (.ret [] [(1, .var 26 [.v (.sl (.pr (.int .i64) (.pr (.int .i64) (.pr .str (.pr .bool (.pr (.sl .str) (.sl (.int .i64)))))))) y0]), (2, .var 28 [.v (.int .i64) y1, .v (.int .i64) y2])]))
  | .ifc 28 (.agg [.v (.int .i64) x3, .v (.int .i64) x4]), [.ptr 1 0, .ptr 2 0], [(1, .var 26 [.v (.sl (.pr (.int .i64) (.pr (.int .i64) (.pr .str (.pr .bool (.pr (.sl .str) (.sl (.int .i64)))))))) x0]), (2, .var 28 [.v (.int .i64) x1, .v (.int .i64) x2])], K => wq87 k x0 x1 x2 x3 x4 (fun y0 y1 y2 => K (.ret [] [(1, .var 26 [.v (.sl (.pr (.int .i64) (.pr (.int .i64) (.pr .str (.pr .bool (.pr (.sl .str) (.sl (.int .i64)))))))) y0]), (2, .var 28 [.v (.int .i64) y1, .v (.int .i64) y2])]))
  | _, _, _, _ => none
noncomputable def A_doc_Of (k : Nat) {R : Type}  (x0 : (List (Int × (Int × (Int × ((List UInt8) × Bool)))))) (K : ((List (Int × (Int × ((List UInt8) × (Bool × ((List (List UInt8)) × (List Int))))))) → Int → Int → Option R)) : Option R := (@cond (@Option R) (@BEq.beq Int (@instBEqOfDecidableEq Int @Int.instDecidableEq) (@Nat.cast Int instNatCastInt (@List.length (@Kd.T (@Kd.pr kI (@Kd.pr kI (@Kd.pr kI (@Kd.pr Kd.str Kd.bool))))) x0)) (0 : Int)) (@wq5o k R (10 : Int) (1 : Int) (fun y4 y5 => (@wq87 k R [] (0 : (@Kd.T kI)) (0 : (@Kd.T kI)) y4 y5 (fun y6 y7 y8 => (K y6 y7 y8))))) (@wq72 k R x0 [] (1 : Int) (fun y4 y5 y6 => (@cond (@Option R) (@Decidable.decide (@GT.gt Int Int.instLTInt (@Nat.cast Int instNatCastInt (@List.length (@Kd.T (@Kd.pr kI (@Kd.pr kI (@Kd.pr kI (@Kd.pr Kd.str Kd.bool))))) y4)) (0 : Int)) (@Int.decLt (0 : Int) (@Nat.cast Int instNatCastInt (@List.length (@Kd.T (@Kd.pr kI (@Kd.pr kI (@Kd.pr kI (@Kd.pr Kd.str Kd.bool))))) y4)))) (@cond (@Option R) (@inb (0 : Int) (@Nat.cast Int instNatCastInt (@List.length (@Kd.T (@Kd.pr kI (@Kd.pr kI (@Kd.pr kI (@Kd.pr Kd.str Kd.bool))))) y4))) (@wq5o k R (6 : Int) (@List.getD (@Kd.T (@Kd.pr kI (@Kd.pr kI (@Kd.pr kI (@Kd.pr Kd.str Kd.bool))))) y4 (@Int.toNat (0 : Int)) (@Kd.zero (@Kd.pr kI (@Kd.pr kI (@Kd.pr kI (@Kd.pr Kd.str Kd.bool)))))).2.1 (fun y7 y8 => (@wq87 k R [] (0 : (@Kd.T kI)) (0 : (@Kd.T kI)) y7 y8 (fun y9 y10 y11 => (K y9 y10 y11))))) (@Option.none R)) (@wqcl k R y5 (0 : (@Kd.T kI)) (0 : (@Kd.T kI)) (fun y7 y8 y9 => (K y7 y8 y9))))) (fun y4 y5 y6 y7 => (@wq87 k R [] (0 : (@Kd.T kI)) (0 : (@Kd.T kI)) y6 y7 (fun y8 y9 y10 => (K y8 y9 y10))))))
theorem wq10g (k : Nat) {R : Type} (I : Nat → St → Option R) (x0 : (List (Int × (Int × (Int × ((List UInt8) × Bool)))))) (K : ((List (Int × (Int × ((List UInt8) × (Bool × ((List (List UInt8)) × (List Int))))))) → Int → Int → Option R)) : fnDK (wqvj k) k [300, 400] (at_ [0] wq73) (opsAt (at_ [1, 0] wq73)) (at_ [1, 1] wq73) 34 [.cell 2 26, .cell 3 28] wqzm (wqis k) wqr8 [(300, 0), (400, 0)] [.v (.sl (.pr (.int .i64) (.pr (.int .i64) (.pr (.int .i64) (.pr .str .bool))))) x0] [] (wqo1 K) = A_doc_Of k  x0 K := by kernel_rfl
noncomputable def F_doc_Of (k : Nat) {R : Type} (x0 : (List (Int × (Int × (Int × ((List UInt8) × Bool)))))) (K : ((List (Int × (Int × ((List UInt8) × (Bool × ((List (List UInt8)) × (List Int))))))) → Int → Int → Option R)) : Option R := A_doc_Of k  x0 K
theorem wq10h (k : Nat) {R : Type} (x0 : (List (Int × (Int × (Int × ((List UInt8) × Bool)))))) (K : ((List (Int × (Int × ((List UInt8) × (Bool × ((List (List UInt8)) × (List Int))))))) → Int → Int → Option R)) : fnDK (wqvj k) k [300, 400] (at_ [0] wq73) (opsAt (at_ [1, 0] wq73)) (at_ [1, 1] wq73) 34 [.cell 2 26, .cell 3 28] wqzm (wqis k) wqr8 [(300, 0), (400, 0)] [.v (.sl (.pr (.int .i64) (.pr (.int .i64) (.pr (.int .i64) (.pr .str .bool))))) x0] [] (wqo1 K) = F_doc_Of k x0 K := by
  exact wq10g k (fun _ _ => none) x0 K
noncomputable def wqml (k : Nat) {R : Type} : List PV → List (Nm × HObj) → (Out → Option R) → Option R
  | [.v (.sl (.pr (.int .i64) (.pr (.int .i64) (.pr (.int .i64) (.pr .str .bool))))) x0], [], K => F_doc_Of k x0 (fun y0 y1 y2 => K (.ret [.agg [.v (.sl (.pr (.int .i64) (.pr (.int .i64) (.pr .str (.pr .bool (.pr (.sl .str) (.sl (.int .i64)))))))) y0], .agg [.v (.int .i64) y1, .v (.int .i64) y2]] []))
  | _, _, _ => none
theorem wq10i (k : Nat) : (C_doc_Of k).Ok Tryz.prog := (CTab.add_ok (fun h => wqir k h) (CTab.add_ok (fun h => wqo0 k h) CTab.nil_ok))
theorem wqvk (k : Nat) {R : Type} (rec : PV) (ps : List PV) (hp : List (Nm × HObj)) (K : Out → Option R) (r : R) (h : wqis k rec ps hp K = some r) : DoesToD Tryz.prog 41 rec ps hp fun out => K out = some r := by
  unfold wqis at h
  split at h
  · exact wqwx k h
  · exact wqwy k h
  · cases h
theorem D_doc_Of (k : Nat) {ps : List PV} {hp : List (Nm × HObj)} {R : Type} {K : Out → Option R} {r : R} (h : wqml k ps hp K = some r) : DoesTo Tryz.prog 17 ps hp fun out => K out = some r := by
  unfold wqml at h
  split at h
  · rw [← wq10h] at h
    have := fnDK_ok (P := Tryz.prog) (cx := wqvj k) (f := 17) ⟨tyT_ok, wq10i k, fun _ _ => rfl⟩ (by kernel_rfl) (fn := Tryz.f17) (id := 1) (pre := at_ [0] wq73) (rest := at_ [1, 1] wq73) (ops := opsAt (at_ [1, 0] wq73)) (by kernel_rfl) (by kernel_rfl) (by kernel_rfl) (rs := [.cell 2 26, .cell 3 28]) (by kernel_rfl) (by kernel_rfl) (by kernel_rfl) (g := 41) (s := 5) (xs := [.tmp 2, .tmp 3]) (by kernel_rfl) (Invokes.of (fn := Tryz.f41) (by kernel_rfl) (c := Tryz.f41.body.getD .skip) (by kernel_rfl) (by kernel_rfl)) (wqvk k) h
    exact this.mono fun out ho => by
      unfold wqo1 at ho
      split at ho <;> first | exact ho | cases ho
  · cases h
end Go.Proofs.YtpfbdepoammjmaaGreatDoor.Pvm

set_option maxRecDepth 1000000
set_option maxHeartbeats 0
namespace Go.Proofs.YtpfbdepoammjmaaGreatDoor.Pvm
open Go Go.Proofs
def wqp9 : List LS := [.obj 1 [.sl (.pr (.int .i64) (.pr (.int .i64) (.pr (.int .i64) (.pr .str .bool))))], .obj 2 [.any, .any]]
noncomputable def wqpa (k : Nat) : CTab := CTab.nil
def wqco {R : Type} (K : ((List (Int × (Int × (Int × ((List UInt8) × Bool))))) → Int → Int → Option R)) : Out → Option R
  | .ret [] [(1, .var 56 [.v (.sl (.pr (.int .i64) (.pr (.int .i64) (.pr (.int .i64) (.pr .str .bool))))) y0]), (2, .var 28 [.v (.int .i64) y1, .v (.int .i64) y2])] => K y0 y1 y2
  | _ => none
def wqmm : RetSpec := ⟨[], [(1, .obj 1 [.sl (.pr (.int .i64) (.pr (.int .i64) (.pr (.int .i64) (.pr .str .bool))))]), (2, .obj 2 [.any, .any])], []⟩
def wqrg : List (Nat × CutSpec) := []
def wqpt : List (Nat × Plan) := [(7, (.of [(0, 2), (1, 0), (2, 0)] .done))]
noncomputable def wqfk (k : Nat) : Ctx := ⟨tyT, wqrg, wqpa k, [], [1, 2], wqpt, @SH⟩
noncomputable def wq9e : Code := Tryz.f87.body.getD .skip
noncomputable def wqhb (k : Nat) {R : Type}  (x0 : (List (Int × (Int × (Int × ((List UInt8) × Bool)))))) (x1 x2 : Int) (K : ((List (Int × (Int × (Int × ((List UInt8) × Bool))))) → Int → Int → Option R)) : Option R := (K x0 x1 x2)
theorem wqrh (k : Nat) {R : Type} (I : Nat → St → Option R) (x0 : (List (Int × (Int × (Int × ((List UInt8) × Bool)))))) (x1 x2 : Int) (K : ((List (Int × (Int × (Int × ((List UInt8) × Bool))))) → Int → Int → Option R)) : fnCK (wqfk k) k (at_ [1] wq9e) 12 [] wqmm [.ptr 1 0, .ptr 2 0] 5 (.nilif) [(1, .var 56 [.v (.sl (.pr (.int .i64) (.pr (.int .i64) (.pr (.int .i64) (.pr .str .bool))))) x0]), (2, .var 28 [.v (.int .i64) x1, .v (.int .i64) x2])] (wqco K) = wqhb k  x0 x1 x2 K := by kernel_rfl
noncomputable def wqb8 (k : Nat) {R : Type} (x0 : (List (Int × (Int × (Int × ((List UInt8) × Bool)))))) (x1 x2 : Int) (K : ((List (Int × (Int × (Int × ((List UInt8) × Bool))))) → Int → Int → Option R)) : Option R := wqhb k  x0 x1 x2 K
theorem wqri (k : Nat) {R : Type} (x0 : (List (Int × (Int × (Int × ((List UInt8) × Bool)))))) (x1 x2 : Int) (K : ((List (Int × (Int × (Int × ((List UInt8) × Bool))))) → Int → Int → Option R)) : fnCK (wqfk k) k (at_ [1] wq9e) 12 [] wqmm [.ptr 1 0, .ptr 2 0] 5 (.nilif) [(1, .var 56 [.v (.sl (.pr (.int .i64) (.pr (.int .i64) (.pr (.int .i64) (.pr .str .bool))))) x0]), (2, .var 28 [.v (.int .i64) x1, .v (.int .i64) x2])] (wqco K) = wqb8 k x0 x1 x2 K := by
  exact wqrh k (fun _ _ => none) x0 x1 x2 K
noncomputable def wqk5 (k : Nat) {R : Type} : PV → List PV → List (Nm × HObj) → (Out → Option R) → Option R
  | .nilif, [.ptr 1 0, .ptr 2 0], [(1, .var 56 [.v (.sl (.pr (.int .i64) (.pr (.int .i64) (.pr (.int .i64) (.pr .str .bool))))) x0]), (2, .var 28 [.v (.int .i64) x1, .v (.int .i64) x2])], K => wqb8 k x0 x1 x2 (fun y0 y1 y2 => K (.ret [] [(1, .var 56 [.v (.sl (.pr (.int .i64) (.pr (.int .i64) (.pr (.int .i64) (.pr .str .bool))))) y0]), (2, .var 28 [.v (.int .i64) y1, .v (.int .i64) y2])]))
  | _, _, _, _ => none
theorem wqrj (k : Nat) : (wqpa k).Ok Tryz.prog := CTab.nil_ok
theorem wqvl (k : Nat) {rec : PV} {ps : List PV} {hp : List (Nm × HObj)} {R : Type} {K : Out → Option R} {r : R} (h : wqk5 k rec ps hp K = some r) : DoesToD Tryz.prog 87 rec ps hp fun out => K out = some r := by
  unfold wqk5 at h
  split at h
  · rw [← wqri] at h
    have := fnCK_ok (P := Tryz.prog) (cx := wqfk k) (f := 87) ⟨tyT_ok, wqrj k, fun _ _ => rfl⟩ (by kernel_rfl) (fn := Tryz.f87) (id := 0) (ops := opsAt (at_ [0] wq9e)) (c := at_ [1] wq9e) (by kernel_rfl) (by kernel_rfl) (by kernel_rfl) (rs := []) (by kernel_rfl) (by kernel_rfl) h
    exact this.mono fun out ho => by
      unfold wqco at ho
      split at ho <;> first | exact ho | cases ho
  · cases h
end Go.Proofs.YtpfbdepoammjmaaGreatDoor.Pvm

set_option maxRecDepth 1000000
set_option maxHeartbeats 0
namespace Go.Proofs.YtpfbdepoammjmaaGreatDoor.Pvm
open Go Go.Proofs
noncomputable def wqpb (k : Nat) : CTab := CTab.nil
def wqcp {R : Type} (K : ((List (Int × (Int × (Int × ((List UInt8) × Bool))))) → Int → Int → Option R)) : Out → Option R
  | .ret [] [(1, .var 56 [.v (.sl (.pr (.int .i64) (.pr (.int .i64) (.pr (.int .i64) (.pr .str .bool))))) y0]), (2, .var 28 [.v (.int .i64) y1, .v (.int .i64) y2])] => K y0 y1 y2
  | _ => none
def wqmn : RetSpec := ⟨[], [(1, .obj 1 [.sl (.pr (.int .i64) (.pr (.int .i64) (.pr (.int .i64) (.pr .str .bool))))]), (2, .obj 2 [.any, .any])], []⟩
def wqrk : List (Nat × CutSpec) := []
def wqpu : List (Nat × Plan) := [(7, (.of [(0, 2), (1, 0), (2, 0)] .done))]
noncomputable def wqfl (k : Nat) : Ctx := ⟨tyT, wqrk, wqpb k, [], [1, 2], wqpu, @SH⟩
noncomputable def wq9f : Code := Tryz.f87.body.getD .skip
noncomputable def wqhc (k : Nat) {R : Type}  (x0 : (List (Int × (Int × (Int × ((List UInt8) × Bool)))))) (x1 x2 x3 x4 : Int) (K : ((List (Int × (Int × (Int × ((List UInt8) × Bool))))) → Int → Int → Option R)) : Option R := (K [] x3 x4)
theorem wqrl (k : Nat) {R : Type} (I : Nat → St → Option R) (x0 : (List (Int × (Int × (Int × ((List UInt8) × Bool)))))) (x1 x2 x3 x4 : Int) (K : ((List (Int × (Int × (Int × ((List UInt8) × Bool))))) → Int → Int → Option R)) : fnCK (wqfl k) k (at_ [1] wq9f) 12 [] wqmn [.ptr 1 0, .ptr 2 0] 5 (.ifc 28 (.agg [.v (.int .i64) x3, .v (.int .i64) x4])) [(1, .var 56 [.v (.sl (.pr (.int .i64) (.pr (.int .i64) (.pr (.int .i64) (.pr .str .bool))))) x0]), (2, .var 28 [.v (.int .i64) x1, .v (.int .i64) x2])] (wqcp K) = wqhc k  x0 x1 x2 x3 x4 K := by kernel_rfl
noncomputable def wqb9 (k : Nat) {R : Type} (x0 : (List (Int × (Int × (Int × ((List UInt8) × Bool)))))) (x1 x2 x3 x4 : Int) (K : ((List (Int × (Int × (Int × ((List UInt8) × Bool))))) → Int → Int → Option R)) : Option R := wqhc k  x0 x1 x2 x3 x4 K
theorem wqrm (k : Nat) {R : Type} (x0 : (List (Int × (Int × (Int × ((List UInt8) × Bool)))))) (x1 x2 x3 x4 : Int) (K : ((List (Int × (Int × (Int × ((List UInt8) × Bool))))) → Int → Int → Option R)) : fnCK (wqfl k) k (at_ [1] wq9f) 12 [] wqmn [.ptr 1 0, .ptr 2 0] 5 (.ifc 28 (.agg [.v (.int .i64) x3, .v (.int .i64) x4])) [(1, .var 56 [.v (.sl (.pr (.int .i64) (.pr (.int .i64) (.pr (.int .i64) (.pr .str .bool))))) x0]), (2, .var 28 [.v (.int .i64) x1, .v (.int .i64) x2])] (wqcp K) = wqb9 k x0 x1 x2 x3 x4 K := by
  exact wqrl k (fun _ _ => none) x0 x1 x2 x3 x4 K
noncomputable def wqk6 (k : Nat) {R : Type} : PV → List PV → List (Nm × HObj) → (Out → Option R) → Option R
  | .ifc 28 (.agg [.v (.int .i64) x3, .v (.int .i64) x4]), [.ptr 1 0, .ptr 2 0], [(1, .var 56 [.v (.sl (.pr (.int .i64) (.pr (.int .i64) (.pr (.int .i64) (.pr .str .bool))))) x0]), (2, .var 28 [.v (.int .i64) x1, .v (.int .i64) x2])], K => wqb9 k x0 x1 x2 x3 x4 (fun y0 y1 y2 => K (.ret [] [(1, .var 56 [.v (.sl (.pr (.int .i64) (.pr (.int .i64) (.pr (.int .i64) (.pr .str .bool))))) y0]), (2, .var 28 [.v (.int .i64) y1, .v (.int .i64) y2])]))
  | _, _, _, _ => none
theorem wqrn (k : Nat) : (wqpb k).Ok Tryz.prog := CTab.nil_ok
theorem wqvm (k : Nat) {rec : PV} {ps : List PV} {hp : List (Nm × HObj)} {R : Type} {K : Out → Option R} {r : R} (h : wqk6 k rec ps hp K = some r) : DoesToD Tryz.prog 87 rec ps hp fun out => K out = some r := by
  unfold wqk6 at h
  split at h
  · rw [← wqrm] at h
    have := fnCK_ok (P := Tryz.prog) (cx := wqfl k) (f := 87) ⟨tyT_ok, wqrn k, fun _ _ => rfl⟩ (by kernel_rfl) (fn := Tryz.f87) (id := 0) (ops := opsAt (at_ [0] wq9f)) (c := at_ [1] wq9f) (by kernel_rfl) (by kernel_rfl) (by kernel_rfl) (rs := []) (by kernel_rfl) (by kernel_rfl) h
    exact this.mono fun out ho => by
      unfold wqcp at ho
      split at ho <;> first | exact ho | cases ho
  · cases h
end Go.Proofs.YtpfbdepoammjmaaGreatDoor.Pvm

set_option maxRecDepth 1000000
set_option maxHeartbeats 0
namespace Go.Proofs.YtpfbdepoammjmaaGreatDoor.Pvm
open Go Go.Proofs
def wqmo : List LS := [.any, .any]
noncomputable def wqgj (k : Nat) : CTab := CTab.nil
def wq8h {R : Type} (K : (Bool → Option R)) : Out → Option R
  | .ret [.v .bool y0] [] => K y0
  | _ => none
def wqeu : RetSpec := ⟨[.any], [], []⟩
def wqkx : List (Nat × CutSpec) := []
def wqjb : List (Nat × Plan) := []
noncomputable def wqab (k : Nat) : Ctx := ⟨tyT, wqkx, wqgj k, [], [], wqjb, @SH⟩
noncomputable def wq8i : Code := Tryz.f73.body.getD .skip
noncomputable def wqbq (k : Nat) {R : Type}  (x0 x1 : (List UInt8)) (K : (Bool → Option R)) : Option R := (@cond (@Option R) (@Bool.or (@Bool.not (@BEq.beq (@Kd.T Kd.bool) (@instBEqOfDecidableEq (@Kd.T Kd.bool) @instDecidableEqBool) (@Decidable.decide (@GE.ge Int Int.instLEInt (@Nat.cast Int instNatCastInt (@List.length UInt8 x0)) (@Nat.cast Int instNatCastInt (@List.length UInt8 x1))) (@Int.decLe (@Nat.cast Int instNatCastInt (@List.length UInt8 x1)) (@Nat.cast Int instNatCastInt (@List.length UInt8 x0)))) Bool.true)) (@bnd (0 : Int) (@Nat.cast Int instNatCastInt (@List.length UInt8 x1)) (@Nat.cast Int instNatCastInt (@List.length UInt8 x0)))) (K (@cond (@Kd.T Kd.bool) (@Decidable.decide (@GE.ge Int Int.instLEInt (@Nat.cast Int instNatCastInt (@List.length UInt8 x0)) (@Nat.cast Int instNatCastInt (@List.length UInt8 x1))) (@Int.decLe (@Nat.cast Int instNatCastInt (@List.length UInt8 x1)) (@Nat.cast Int instNatCastInt (@List.length UInt8 x0)))) (@BEq.beq (@List UInt8) (@List.instBEq UInt8 (@instBEqOfDecidableEq UInt8 @instDecidableEqUInt8)) (@cut UInt8 x0 (0 : Int) (@Nat.cast Int instNatCastInt (@List.length UInt8 x1))) x1) Bool.false)) (@Option.none R))
theorem wqky (k : Nat) {R : Type} (I : Nat → St → Option R) (x0 x1 : (List UInt8)) (K : (Bool → Option R)) : fnK (wqab k) k wq8i 18 [.tmp 4] wqeu [.v .str x0, .v .str x1] [] (wq8h K) = wqbq k  x0 x1 K := by kernel_rfl
noncomputable def wq7z (k : Nat) {R : Type} (x0 x1 : (List UInt8)) (K : (Bool → Option R)) : Option R := wqbq k  x0 x1 K
theorem wqkz (k : Nat) {R : Type} (x0 x1 : (List UInt8)) (K : (Bool → Option R)) : fnK (wqab k) k wq8i 18 [.tmp 4] wqeu [.v .str x0, .v .str x1] [] (wq8h K) = wq7z k x0 x1 K := by
  exact wqky k (fun _ _ => none) x0 x1 K
noncomputable def wq9g (k : Nat) {R : Type} : List PV → List (Nm × HObj) → (Out → Option R) → Option R
  | [.v .str x0, .v .str x1], [], K => wq7z k x0 x1 (fun y0 => K (.ret [.v .bool y0] []))
  | _, _, _ => none
theorem wql0 (k : Nat) : (wqgj k).Ok Tryz.prog := CTab.nil_ok
theorem wqpv (k : Nat) {ps : List PV} {hp : List (Nm × HObj)} {R : Type} {K : Out → Option R} {r : R} (h : wq9g k ps hp K = some r) : DoesTo Tryz.prog 73 ps hp fun out => K out = some r := by
  unfold wq9g at h
  split at h
  · rw [← wqkz] at h
    have := fn_ok (P := Tryz.prog) (cx := wqab k) (f := 73) ⟨tyT_ok, wql0 k, fun _ _ => rfl⟩ (by kernel_rfl) (fn := Tryz.f73) (c := wq8i) (by kernel_rfl) (by kernel_rfl) (by kernel_rfl) (rs := [.tmp 4]) (by kernel_rfl) (by kernel_rfl) h
    exact this.mono fun out ho => by
      unfold wq8h at ho
      split at ho <;> first | exact ho | cases ho
  · cases h
end Go.Proofs.YtpfbdepoammjmaaGreatDoor.Pvm

set_option maxRecDepth 1000000
set_option maxHeartbeats 0
namespace Go.Proofs.YtpfbdepoammjmaaGreatDoor.Pvm
open Go Go.Proofs
def wqjc : List LS := [.any, .any]
noncomputable def wqdk (k : Nat) : CTab := (CTab.add 73 wqmo (wq9g k) CTab.nil)
def wq6o {R : Type} (K : (Bool → Option R)) : Out → Option R
  | .ret [.v .bool y0] [] => K y0
  | _ => none
def wqcq : RetSpec := ⟨[.any], [], []⟩
def wqhd : List (Nat × CutSpec) := []
def wqgv : List (Nat × Plan) := []
noncomputable def wq8j (k : Nat) : Ctx := ⟨tyT, wqhd, wqdk k, [], [], wqgv, @SH⟩
noncomputable def wq6p : Code := Tryz.f36.body.getD .skip
noncomputable def wq9h (k : Nat) {R : Type}  (x0 x1 : (List UInt8)) (K : (Bool → Option R)) : Option R := (@wq7z k R x0 x1 (fun y5 => (K y5)))
theorem wqhe (k : Nat) {R : Type} (I : Nat → St → Option R) (x0 x1 : (List UInt8)) (K : (Bool → Option R)) : fnK (wq8j k) k wq6p 8 [.tmp 4] wqcq [.v .str x0, .v .str x1] [] (wq6o K) = wq9h k  x0 x1 K := by kernel_rfl
noncomputable def wq6g (k : Nat) {R : Type} (x0 x1 : (List UInt8)) (K : (Bool → Option R)) : Option R := wq9h k  x0 x1 K
theorem wqhf (k : Nat) {R : Type} (x0 x1 : (List UInt8)) (K : (Bool → Option R)) : fnK (wq8j k) k wq6p 8 [.tmp 4] wqcq [.v .str x0, .v .str x1] [] (wq6o K) = wq6g k x0 x1 K := by
  exact wqhe k (fun _ _ => none) x0 x1 K
noncomputable def wq7o (k : Nat) {R : Type} : List PV → List (Nm × HObj) → (Out → Option R) → Option R
  | [.v .str x0, .v .str x1], [], K => wq6g k x0 x1 (fun y0 => K (.ret [.v .bool y0] []))
  | _, _, _ => none
theorem wqhg (k : Nat) : (wqdk k).Ok Tryz.prog := (CTab.add_ok (fun h => wqpv k h) CTab.nil_ok)
theorem wqmp (k : Nat) {ps : List PV} {hp : List (Nm × HObj)} {R : Type} {K : Out → Option R} {r : R} (h : wq7o k ps hp K = some r) : DoesTo Tryz.prog 36 ps hp fun out => K out = some r := by
  unfold wq7o at h
  split at h
  · rw [← wqhf] at h
    have := fn_ok (P := Tryz.prog) (cx := wq8j k) (f := 36) ⟨tyT_ok, wqhg k, fun _ _ => rfl⟩ (by kernel_rfl) (fn := Tryz.f36) (c := wq6p) (by kernel_rfl) (by kernel_rfl) (by kernel_rfl) (rs := [.tmp 4]) (by kernel_rfl) (by kernel_rfl) h
    exact this.mono fun out ho => by
      unfold wq6o at ho
      split at ho <;> first | exact ho | cases ho
  · cases h
end Go.Proofs.YtpfbdepoammjmaaGreatDoor.Pvm

set_option maxRecDepth 1000000
set_option maxHeartbeats 0
namespace Go.Proofs.YtpfbdepoammjmaaGreatDoor.Pvm
open Go Go.Proofs
def wqro : List LS := [.any]
noncomputable def wqx0 (k : Nat) : CTab := (CTab.add 36 wqjc (wq7o k) CTab.nil)
def wqhh {R : Type} (K : (Bool → Option R)) : Out → Option R
  | .ret [.v .bool y0] [] => K y0
  | _ => none
def wqur : RetSpec := ⟨[.any], [], []⟩
def wqx1 : List (Nat × CutSpec) := []
def wqvn : List (Nat × Plan) := []
noncomputable def wqo2 (k : Nat) : Ctx := ⟨tyT, wqx1, wqx0 k, [], [], wqvn, @SH⟩
noncomputable def wqhi : Code := Tryz.f126.body.getD .skip
noncomputable def wqrp (k : Nat) {R : Type}  (x0 : (List UInt8)) (K : (Bool → Option R)) : Option R := (@cond (@Option R) (@BEq.beq (@Kd.T Kd.bool) (@instBEqOfDecidableEq (@Kd.T Kd.bool) @instDecidableEqBool) (@BEq.beq (@List UInt8) (@List.instBEq UInt8 (@instBEqOfDecidableEq UInt8 @instDecidableEqUInt8)) x0 ((45 : UInt8) :: [])) Bool.false) (@wq6g k R x0 ((45 : UInt8) :: ((32 : UInt8) :: [])) (fun y4 => (K y4))) (K Bool.true))
theorem wqx2 (k : Nat) {R : Type} (I : Nat → St → Option R) (x0 : (List UInt8)) (K : (Bool → Option R)) : fnK (wqo2 k) k wqhi 9 [.tmp 2] wqur [.v .str x0] [] (wqhh K) = wqrp k  x0 K := by kernel_rfl
noncomputable def wqev (k : Nat) {R : Type} (x0 : (List UInt8)) (K : (Bool → Option R)) : Option R := wqrp k  x0 K
theorem wqx3 (k : Nat) {R : Type} (x0 : (List UInt8)) (K : (Bool → Option R)) : fnK (wqo2 k) k wqhi 9 [.tmp 2] wqur [.v .str x0] [] (wqhh K) = wqev k x0 K := by
  exact wqx2 k (fun _ _ => none) x0 K
noncomputable def wqfm (k : Nat) {R : Type} : List PV → List (Nm × HObj) → (Out → Option R) → Option R
  | [.v .str x0], [], K => wqev k x0 (fun y0 => K (.ret [.v .bool y0] []))
  | _, _, _ => none
theorem wqx4 (k : Nat) : (wqx0 k).Ok Tryz.prog := (CTab.add_ok (fun h => wqmp k h) CTab.nil_ok)
theorem wqx5 (k : Nat) {ps : List PV} {hp : List (Nm × HObj)} {R : Type} {K : Out → Option R} {r : R} (h : wqfm k ps hp K = some r) : DoesTo Tryz.prog 126 ps hp fun out => K out = some r := by
  unfold wqfm at h
  split at h
  · rw [← wqx3] at h
    have := fn_ok (P := Tryz.prog) (cx := wqo2 k) (f := 126) ⟨tyT_ok, wqx4 k, fun _ _ => rfl⟩ (by kernel_rfl) (fn := Tryz.f126) (c := wqhi) (by kernel_rfl) (by kernel_rfl) (by kernel_rfl) (rs := [.tmp 2]) (by kernel_rfl) (by kernel_rfl) h
    exact this.mono fun out ho => by
      unfold wqhh at ho
      split at ho <;> first | exact ho | cases ho
  · cases h
end Go.Proofs.YtpfbdepoammjmaaGreatDoor.Pvm

set_option maxRecDepth 1000000
set_option maxHeartbeats 0
namespace Go.Proofs.YtpfbdepoammjmaaGreatDoor.Pvm
open Go Go.Proofs
def wqyd : List LS := [.any]
noncomputable def wqx6 (k : Nat) : CTab := CTab.nil
def wqhj {R : Type} (K : (Bool → Option R)) : Out → Option R
  | .ret [.v .bool y0] [] => K y0
  | _ => none
def wqus : RetSpec := ⟨[.any], [], []⟩
def wqx7 : List (Nat × CutSpec) := []
def wqvo : List (Nat × Plan) := []
noncomputable def wqo3 (k : Nat) : Ctx := ⟨tyT, wqx7, wqx6 k, [], [], wqvo, @SH⟩
noncomputable def wqhk : Code := Tryz.f176.body.getD .skip
noncomputable def wqrq (k : Nat) {R : Type}  (x0 : Int) (K : (Bool → Option R)) : Option R := (K (@cond (@Kd.T Kd.bool) (@cond (@Kd.T Kd.bool) (@cond (@Kd.T Kd.bool) (@cond (@Kd.T Kd.bool) (@cond (@Kd.T Kd.bool) (@cond (@Kd.T Kd.bool) (@Decidable.decide (@GE.ge Int Int.instLEInt x0 (97 : Int)) (@Int.decLe (97 : Int) x0)) (@Decidable.decide (@LE.le Int Int.instLEInt x0 (122 : Int)) (@Int.decLe x0 (122 : Int))) Bool.false) Bool.true (@cond (@Kd.T Kd.bool) (@Decidable.decide (@GE.ge Int Int.instLEInt x0 (65 : Int)) (@Int.decLe (65 : Int) x0)) (@Decidable.decide (@LE.le Int Int.instLEInt x0 (90 : Int)) (@Int.decLe x0 (90 : Int))) Bool.false)) Bool.true (@cond (@Kd.T Kd.bool) (@Decidable.decide (@GE.ge Int Int.instLEInt x0 (48 : Int)) (@Int.decLe (48 : Int) x0)) (@Decidable.decide (@LE.le Int Int.instLEInt x0 (57 : Int)) (@Int.decLe x0 (57 : Int))) Bool.false)) Bool.true (@BEq.beq Int (@instBEqOfDecidableEq Int @Int.instDecidableEq) x0 (95 : Int))) Bool.true (@BEq.beq Int (@instBEqOfDecidableEq Int @Int.instDecidableEq) x0 (45 : Int))) Bool.true (@BEq.beq Int (@instBEqOfDecidableEq Int @Int.instDecidableEq) x0 (46 : Int))))
theorem wqx8 (k : Nat) {R : Type} (I : Nat → St → Option R) (x0 : Int) (K : (Bool → Option R)) : fnK (wqo3 k) k wqhk 37 [.tmp 2] wqus [.v (.int .u8) x0] [] (wqhj K) = wqrq k  x0 K := by kernel_rfl
noncomputable def wqhl (k : Nat) {R : Type} (x0 : Int) (K : (Bool → Option R)) : Option R := wqrq k  x0 K
theorem wqx9 (k : Nat) {R : Type} (x0 : Int) (K : (Bool → Option R)) : fnK (wqo3 k) k wqhk 37 [.tmp 2] wqus [.v (.int .u8) x0] [] (wqhj K) = wqhl k x0 K := by
  exact wqx8 k (fun _ _ => none) x0 K
noncomputable def wql1 (k : Nat) {R : Type} : List PV → List (Nm × HObj) → (Out → Option R) → Option R
  | [.v (.int .u8) x0], [], K => wqhl k x0 (fun y0 => K (.ret [.v .bool y0] []))
  | _, _, _ => none
theorem wqxa (k : Nat) : (wqx6 k).Ok Tryz.prog := CTab.nil_ok
theorem wq11c (k : Nat) {ps : List PV} {hp : List (Nm × HObj)} {R : Type} {K : Out → Option R} {r : R} (h : wql1 k ps hp K = some r) : DoesTo Tryz.prog 176 ps hp fun out => K out = some r := by
  unfold wql1 at h
  split at h
  · rw [← wqx9] at h
    have := fn_ok (P := Tryz.prog) (cx := wqo3 k) (f := 176) ⟨tyT_ok, wqxa k, fun _ _ => rfl⟩ (by kernel_rfl) (fn := Tryz.f176) (c := wqhk) (by kernel_rfl) (by kernel_rfl) (by kernel_rfl) (rs := [.tmp 2]) (by kernel_rfl) (by kernel_rfl) h
    exact this.mono fun out ho => by
      unfold wqhj at ho
      split at ho <;> first | exact ho | cases ho
  · cases h
end Go.Proofs.YtpfbdepoammjmaaGreatDoor.Pvm

set_option maxRecDepth 1000000
set_option maxHeartbeats 0
namespace Go.Proofs.YtpfbdepoammjmaaGreatDoor.Pvm
open Go Go.Proofs
def wqxb : List LS := [.any]
noncomputable def wqut (k : Nat) : CTab := (CTab.add 176 wqyd (wql1 k) CTab.nil)
def wq5e {R : Type} (K : (Bool → Option R)) : Out → Option R
  | .ret [.v .bool y0] [] => K y0
  | _ => none
def wq8k : RetSpec := ⟨[.any], [], []⟩
def wqvp : List (Nat × CutSpec) := [(1002, ⟨[(0, .any), (5, .any), (6, .any)], []⟩)]
def wqto : List (Nat × Plan) := []
noncomputable def wq1d (k : Nat) : Ctx := ⟨tyT, wqvp, wqut k, [], [], wqto, @SH⟩
noncomputable def wq2o : Code := Tryz.f159.body.getD .skip
def wq58 (s0 : (List UInt8)) (s1 s2 : Int) : St := ⟨mkT [(0, .v .str s0), (5, .v (.int .i64) s1), (6, .v (.int .i64) s2)], mkH []⟩
noncomputable def wq6q (k : Nat) {R : Type} (E1002 : ((List UInt8) → Int → Int → Option R)) (s0 : (List UInt8)) (s1 s2 : Int) (K : (Bool → Option R)) : Option R := (@cond (@Option R) (@Decidable.decide (@LT.lt Int Int.instLTInt s2 s1) (@Int.decLt s2 s1)) (@cond (@Option R) (@inb s2 (@Nat.cast Int instNatCastInt (@List.length UInt8 s0))) (@wqhl k R (@Nat.cast Int instNatCastInt (@UInt8.toNat (@List.getD UInt8 s0 (@Int.toNat s2) (0 : UInt8)))) (fun y7 => (@cond (@Option R) (@Bool.not y7) (K Bool.false) (E1002 s0 s1 (@Go.IntKind.wrap Go.IntKind.i64 (@HAdd.hAdd Int Int Int (@instHAdd Int @Int.instAdd) s2 (1 : Int))))))) (@Option.none R)) (K (@Bool.not (@BEq.beq (@List UInt8) (@List.instBEq UInt8 (@instBEqOfDecidableEq UInt8 @instDecidableEqUInt8)) s0 []))))
theorem wqmq (k : Nat) {R : Type} (I : Nat → St → Option R) (s0 : (List UInt8)) (s1 s2 : Int) (K : (Bool → Option R)) : execK (wq1d k) k (at_ [1, 0, 1, 0, 0] wq2o) (wq58 s0 s1 s2) (konts (wq1d k) k I [1, 0, 1, 0, 0] wq2o (outK (wq1d k) wq8k [.tmp 2] (wq5e K))) = wq6q k (fun s0 s1 s2 => I 1002 (wq58 s0 s1 s2)) s0 s1 s2 K := by kernel_rfl
noncomputable def wqit (k : Nat) {R : Type} (E1002 : ((List UInt8) → Int → Int → Option R)) (x0 : (List UInt8)) (K : (Bool → Option R)) : Option R := (E1002 x0 (@Nat.cast Int instNatCastInt (@List.length UInt8 x0)) (0 : Int))
theorem wqvq (k : Nat) {R : Type} (I : Nat → St → Option R) (x0 : (List UInt8)) (K : (Bool → Option R)) : fnK (wq1d k) k wq2o 17 [.tmp 2] wq8k [.v .str x0] [] (wq5e K) = wqit k (fun s0 s1 s2 => iter (wq1d k).pv (look (wq1d k).cuts 1002) (execK (wq1d k) k (at_ [1, 0, 1, 0, 0] wq2o)) k (wq58 s0 s1 s2) (konts (wq1d k) k I [1, 0, 1, 0] wq2o (outK (wq1d k) wq8k [.tmp 2] (wq5e K)))) x0 K := by kernel_rfl
noncomputable def wq3i (k : Nat) {R : Type}  : Nat → (List UInt8) → Int → Int → (Bool → Option R) → Option R
  | 0, _, _, _, _ => none
  | n + 1, s0, s1, s2, K => wq6q k (fun s0 s1 s2 => wq3i k  n s0 s1 s2 K) s0 s1 s2 K
theorem wqmr (k : Nat) {R : Type} (I : Nat → St → Option R) (K : (Bool → Option R)) : ∀ (n : Nat) (s0 : (List UInt8)) (s1 s2 : Int), iter (wq1d k).pv (look (wq1d k).cuts 1002) (execK (wq1d k) k (at_ [1, 0, 1, 0, 0] wq2o)) n (wq58 s0 s1 s2) (konts (wq1d k) k I [1, 0, 1, 0] wq2o (outK (wq1d k) wq8k [.tmp 2] (wq5e K))) = wq3i k  n s0 s1 s2 K := by
  intro n
  induction n with
  | zero => intros; rfl
  | succ n ih =>
    intro s0 s1 s2
    let I' : Nat → St → Option R := fun id s => bif Nat.beq id 1002 then iter (wq1d k).pv (look (wq1d k).cuts 1002) (execK (wq1d k) k (at_ [1, 0, 1, 0, 0] wq2o)) n s (konts (wq1d k) k I [1, 0, 1, 0] wq2o (outK (wq1d k) wq8k [.tmp 2] (wq5e K))) else I id s
    have e := wqmq k I' s0 s1 s2 K
    have h1002 : (fun s0 s1 s2 => I' 1002 (wq58 s0 s1 s2)) = (fun s0 s1 s2 => wq3i k  n s0 s1 s2 K) := by funext s0 s1 s2; exact ih s0 s1 s2
    refine Eq.trans (?_ : _ = _) (e.trans (Eq.trans ((congrArg ((fun E1002 => wq6q k E1002 s0 s1 s2 K)) h1002)) (by rw [wq3i])))
    rfl
noncomputable def wqew (k : Nat) {R : Type} (x0 : (List UInt8)) (K : (Bool → Option R)) : Option R := wqit k (fun s0 s1 s2 => wq3i k k s0 s1 s2 K) x0 K
theorem wqvr (k : Nat) {R : Type} (x0 : (List UInt8)) (K : (Bool → Option R)) : fnK (wq1d k) k wq2o 17 [.tmp 2] wq8k [.v .str x0] [] (wq5e K) = wqew k x0 K := by
  let I : Nat → St → Option R := fun _ _ => none
  have h1002 : (fun s0 s1 s2 => iter (wq1d k).pv (look (wq1d k).cuts 1002) (execK (wq1d k) k (at_ [1, 0, 1, 0, 0] wq2o)) k (wq58 s0 s1 s2) (konts (wq1d k) k I [1, 0, 1, 0] wq2o (outK (wq1d k) wq8k [.tmp 2] (wq5e K)))) = (fun s0 s1 s2 => wq3i k k s0 s1 s2 K) := by funext s0 s1 s2; exact wqmr k I K k s0 s1 s2
  exact (wqvq k I x0 K).trans (congrArg ((fun E1002 => wqit k E1002 x0 K)) h1002)
noncomputable def wqhm (k : Nat) {R : Type} : List PV → List (Nm × HObj) → (Out → Option R) → Option R
  | [.v .str x0], [], K => wqew k x0 (fun y0 => K (.ret [.v .bool y0] []))
  | _, _, _ => none
theorem wqvs (k : Nat) : (wqut k).Ok Tryz.prog := (CTab.add_ok (fun h => wq11c k h) CTab.nil_ok)
theorem wq10j (k : Nat) {ps : List PV} {hp : List (Nm × HObj)} {R : Type} {K : Out → Option R} {r : R} (h : wqhm k ps hp K = some r) : DoesTo Tryz.prog 159 ps hp fun out => K out = some r := by
  unfold wqhm at h
  split at h
  · rw [← wqvr] at h
    have := fn_ok (P := Tryz.prog) (cx := wq1d k) (f := 159) ⟨tyT_ok, wqvs k, fun _ _ => rfl⟩ (by kernel_rfl) (fn := Tryz.f159) (c := wq2o) (by kernel_rfl) (by kernel_rfl) (by kernel_rfl) (rs := [.tmp 2]) (by kernel_rfl) (by kernel_rfl) h
    exact this.mono fun out ho => by
      unfold wq5e at ho
      split at ho <;> first | exact ho | cases ho
  · cases h
end Go.Proofs.YtpfbdepoammjmaaGreatDoor.Pvm

set_option maxRecDepth 1000000
namespace Go.Proofs.YtpfbdepoammjmaaGreatDoor.Pvm
open Go Go.Proofs
def idxByte (s : List UInt8) (c : Int) : Int :=
  match (List.range s.length).find? fun i => s.getD i 0 == UInt8.ofNat c.toNat with
  | some i => (i : Int)
  | none => -1
theorem wquu {P : Program} (x0 : List UInt8) (x1 : Int) (w : World) : (Go.Extern.BytealgIndexByte.indexByte #[.string ⟨x0.toArray⟩, .int .u8 x1]).run P w = .ok (.int .i64 (idxByte x0 x1)) w := by
  have e5 : (Go.Extern.BytealgIndexByte.indexByte #[.string ⟨x0.toArray⟩, .int .u8 x1]).run P w = (match (List.range (ByteArray.mk x0.toArray).size).find? fun i => (ByteArray.mk x0.toArray)[i]! == x1.toNat.toUInt8 with
    | some i => (pure (goInt i) : Sem Value)
    | none => pure (goInt (-1))).run P w := rfl
  rw [e5]
  unfold idxByte
  have e6 : (ByteArray.mk x0.toArray).size = x0.length := by simp [ByteArray.size]
  have e7 : ∀ i, (ByteArray.mk x0.toArray)[i]! = x0.getD i 0 := by
    intro i
    by_cases hi : i < x0.length
    · rw [getElem!_pos (ByteArray.mk x0.toArray) i (by rw [e6]; exact hi)]
      have : x0.getD i 0 = x0[i] := by simp [List.getD, hi]
      rw [this]; rfl
    · rw [getElem!_neg (ByteArray.mk x0.toArray) i (by rw [e6]; exact hi)]
      have : x0.getD i 0 = 0 := by simp [List.getD, Nat.le_of_not_lt hi]
      rw [this]; rfl
  simp only [e6, e7]
  have e8 : ∀ i, (x0.getD i 0 == x1.toNat.toUInt8) = (x0.getD i 0 == UInt8.ofNat x1.toNat) := fun i => rfl
  simp only [e8]
  cases (List.range x0.length).find? fun i => x0.getD i 0 == UInt8.ofNat x1.toNat with
  | none => rfl
  | some i => rfl
def wqfn : List LS := [.any, .any]
def wq5f (k : Nat) {R : Type} (x0 : List UInt8) (x1 : Int) (K : Int → Option R) : Option R := K (idxByte x0 x1)
def wq5z (k : Nat) {R : Type} : List PV → List (Nm × HObj) → (Out → Option R) → Option R
  | [.v .str x0, .v (.int .u8) x1], [], K => wq5f k x0 x1 (fun y0 => K (.ret [.v (.int .i64) y0] []))
  | _, _, _ => none
theorem fin_pure {G : Gh} {w : World} : Fin [] [] G w G w :=
  ⟨fun n o h => (by cases h), fun n m b h => (by simp [blkOf, mkH, look] at h), fun n t cs h => (by cases h), fun _ _ _ => rfl, rfl, fun n b h => (by simp [blkOf, mkH, look] at h), Nat.le_refl _, rfl, rfl, rfl⟩
theorem wqex : Extern.find Tryz.f168 = some Go.Extern.BytealgIndexByte.indexByte := by kernel_rfl
theorem wqcb : (Extern.findNext Tryz.f168).isNone = true := by kernel_rfl
theorem wqgw : Tryz.prog.funcs[168]? = some Tryz.f168 := by kernel_rfl
theorem wq94 : (Tryz.f168.name == "runtime.NumGoroutine") = false := by kernel_rfl
theorem wqey : Tryz.f168.body.isNone = true := by kernel_rfl
theorem wqhn (k : Nat) {ps : List PV} {hp : List (Nm × HObj)} {R : Type} {K : Out → Option R} {r : R} (h : wq5z k ps hp K = some r) : DoesTo Tryz.prog 168 ps hp fun out => K out = some r := by
  unfold wq5z at h
  split at h
  · next x0 x1 =>
    intro G w vals hr obj dis
    obtain ⟨v0, l0, rfl, h0, v1, l1, rfl, h1, rfl⟩ := hr
    have e0 : v0 = .string ⟨x0.toArray⟩ := by simpa [RV, RD] using h0
    have e1 : v1 = .int .u8 x1 := by simpa [RV, RD] using h1
    subst e0 e1
    have hrun : (callFunc 168 #[.string ⟨x0.toArray⟩, .int .u8 x1]).run Tryz.prog w = .ok (.value (.int .i64 (idxByte x0 x1))) w := by
      have hn2 : ¬ Tryz.f168.name = "runtime.NumGoroutine" := by simpa using wq94
      have hn3 : Extern.findNext Tryz.f168 = none := by
        cases hq : Extern.findNext Tryz.f168 with
        | none => rfl
        | some e => have := wqcb; rw [hq] at this; cases this
      have e1 : (callFunc 168 #[.string ⟨x0.toArray⟩, .int .u8 x1]).run Tryz.prog w = (Go.Extern.BytealgIndexByte.indexByte #[.string ⟨x0.toArray⟩, .int .u8 x1] >>= fun v => pure (Next.value v)).run Tryz.prog w := by
        unfold callFunc
        rw [Sem.run_bind]
        have e2 : (program).run Tryz.prog w = .ok Tryz.prog w := rfl
        rw [e2, Result.andThen_ok, wqgw]
        simp only [wq94, wqey, if_true, Bool.false_eq_true, if_false]
        rw [Sem.run_bind]
        have e3 : (mark (.extern 168)).run Tryz.prog w = .ok () w := rfl
        rw [e3, Result.andThen_ok, hn3, wqex]
      rw [e1]
      have e4 := wquu (P := Tryz.prog) x0 x1 w
      rw [Sem.run_bind, e4]; rfl
    show Does _ _ #[_, _] _ _
    unfold Does
    rw [hrun]
    exact ⟨.ret [.v (.int .i64) (idxByte x0 x1)] [], h, G, ⟨_, rfl, rfl⟩, fin_pure⟩
  · cases h
end Go.Proofs.YtpfbdepoammjmaaGreatDoor.Pvm

set_option maxRecDepth 1000000
set_option maxHeartbeats 0
namespace Go.Proofs.YtpfbdepoammjmaaGreatDoor.Pvm
open Go Go.Proofs
def wqdl : List LS := [.any, .any]
noncomputable def wqgk (k : Nat) : CTab := (CTab.add 168 wqfn (wq5z k) CTab.nil)
def wq8l {R : Type} (K : (Int → Option R)) : Out → Option R
  | .ret [.v (.int .i64) y0] [] => K y0
  | _ => none
def wqez : RetSpec := ⟨[.any], [], []⟩
def wql2 : List (Nat × CutSpec) := []
def wqjd : List (Nat × Plan) := []
noncomputable def wqac (k : Nat) : Ctx := ⟨tyT, wql2, wqgk k, [], [], wqjd, @SH⟩
noncomputable def wq8m : Code := Tryz.f144.body.getD .skip
noncomputable def wq80 (k : Nat) {R : Type}  (x0 : (List UInt8)) (x1 : Int) (K : (Int → Option R)) : Option R := (@wq5f k R x0 x1 (fun y5 => (K y5)))
theorem wql3 (k : Nat) {R : Type} (I : Nat → St → Option R) (x0 : (List UInt8)) (x1 : Int) (K : (Int → Option R)) : fnK (wqac k) k wq8m 8 [.tmp 4] wqez [.v .str x0, .v (.int .u8) x1] [] (wq8l K) = wq80 k  x0 x1 K := by kernel_rfl
noncomputable def wq59 (k : Nat) {R : Type} (x0 : (List UInt8)) (x1 : Int) (K : (Int → Option R)) : Option R := wq80 k  x0 x1 K
theorem wql4 (k : Nat) {R : Type} (x0 : (List UInt8)) (x1 : Int) (K : (Int → Option R)) : fnK (wqac k) k wq8m 8 [.tmp 4] wqez [.v .str x0, .v (.int .u8) x1] [] (wq8l K) = wq59 k x0 x1 K := by
  exact wql3 k (fun _ _ => none) x0 x1 K
noncomputable def wq6h (k : Nat) {R : Type} : List PV → List (Nm × HObj) → (Out → Option R) → Option R
  | [.v .str x0, .v (.int .u8) x1], [], K => wq59 k x0 x1 (fun y0 => K (.ret [.v (.int .i64) y0] []))
  | _, _, _ => none
theorem wql5 (k : Nat) : (wqgk k).Ok Tryz.prog := (CTab.add_ok (fun h => wqhn k h) CTab.nil_ok)
theorem wqgl (k : Nat) {ps : List PV} {hp : List (Nm × HObj)} {R : Type} {K : Out → Option R} {r : R} (h : wq6h k ps hp K = some r) : DoesTo Tryz.prog 144 ps hp fun out => K out = some r := by
  unfold wq6h at h
  split at h
  · rw [← wql4] at h
    have := fn_ok (P := Tryz.prog) (cx := wqac k) (f := 144) ⟨tyT_ok, wql5 k, fun _ _ => rfl⟩ (by kernel_rfl) (fn := Tryz.f144) (c := wq8m) (by kernel_rfl) (by kernel_rfl) (by kernel_rfl) (rs := [.tmp 4]) (by kernel_rfl) (by kernel_rfl) h
    exact this.mono fun out ho => by
      unfold wq8l at ho
      split at ho <;> first | exact ho | cases ho
  · cases h
end Go.Proofs.YtpfbdepoammjmaaGreatDoor.Pvm

set_option maxRecDepth 1000000
set_option maxHeartbeats 0
namespace Go.Proofs.YtpfbdepoammjmaaGreatDoor.Pvm
open Go Go.Proofs
def wqk7 : List LS := [.any, .any]
noncomputable def wqpc (k : Nat) : CTab := (CTab.add 144 wqdl (wq6h k) CTab.nil)
def wqcr {R : Type} (K : (Int → Option R)) : Out → Option R
  | .ret [.v (.int .i64) y0] [] => K y0
  | _ => none
def wqms : RetSpec := ⟨[.any], [], []⟩
def wqrr : List (Nat × CutSpec) := []
def wqpw : List (Nat × Plan) := []
noncomputable def wqfo (k : Nat) : Ctx := ⟨tyT, wqrr, wqpc k, [], [], wqpw, @SH⟩
noncomputable def wqcs : Code := Tryz.f110.body.getD .skip
noncomputable def wqdm (k : Nat) {R : Type}  (x0 : (List UInt8)) (x1 : UInt8) (K : (Int → Option R)) : Option R := (@cond (@Option R) (@cond (@Kd.T Kd.bool) (@BEq.beq Int (@instBEqOfDecidableEq Int @Int.instDecidableEq) (@Nat.cast Int instNatCastInt (@List.length UInt8 (x1 :: []))) (0 : Int)) Bool.true (@BEq.beq (@List UInt8) (@List.instBEq UInt8 (@instBEqOfDecidableEq UInt8 @instDecidableEqUInt8)) (x1 :: []) x0)) (K (0 : Int)) (@wq59 k R x0 (@Nat.cast Int instNatCastInt (@UInt8.toNat (@List.getD UInt8 (x1 :: []) (@Int.toNat (0 : Int)) (0 : UInt8)))) (fun y5 => (K y5))))
theorem wqrs (k : Nat) {R : Type} (I : Nat → St → Option R) (x0 : (List UInt8)) (x1 : UInt8) (K : (Int → Option R)) : fnK (wqfo k) k wqcs 143 [.tmp 4] wqms [.v .str x0, .v .str [x1]] [] (wqcr K) = wqdm k  x0 x1 K := by kernel_rfl
noncomputable def wq95 (k : Nat) {R : Type} (x0 : (List UInt8)) (x1 : UInt8) (K : (Int → Option R)) : Option R := wqdm k  x0 x1 K
theorem wqrt (k : Nat) {R : Type} (x0 : (List UInt8)) (x1 : UInt8) (K : (Int → Option R)) : fnK (wqfo k) k wqcs 143 [.tmp 4] wqms [.v .str x0, .v .str [x1]] [] (wqcr K) = wq95 k x0 x1 K := by
  exact wqrs k (fun _ _ => none) x0 x1 K
noncomputable def wqb3 (k : Nat) {R : Type} : List PV → List (Nm × HObj) → (Out → Option R) → Option R
  | [.v .str x0, .v .str [x1]], [], K => wq95 k x0 x1 (fun y0 => K (.ret [.v (.int .i64) y0] []))
  | _, _, _ => none
theorem wqru (k : Nat) : (wqpc k).Ok Tryz.prog := (CTab.add_ok (fun h => wqgl k h) CTab.nil_ok)
theorem wqpd (k : Nat) {ps : List PV} {hp : List (Nm × HObj)} {R : Type} {K : Out → Option R} {r : R} (h : wqb3 k ps hp K = some r) : DoesTo Tryz.prog 110 ps hp fun out => K out = some r := by
  unfold wqb3 at h
  split at h
  · rw [← wqrt] at h
    have := fn_ok (P := Tryz.prog) (cx := wqfo k) (f := 110) ⟨tyT_ok, wqru k, fun _ _ => rfl⟩ (by kernel_rfl) (fn := Tryz.f110) (c := wqcs) (by kernel_rfl) (by kernel_rfl) (by kernel_rfl) (rs := [.tmp 4]) (by kernel_rfl) (by kernel_rfl) h
    exact this.mono fun out ho => by
      unfold wqcr at ho
      split at ho <;> first | exact ho | cases ho
  · cases h
end Go.Proofs.YtpfbdepoammjmaaGreatDoor.Pvm

set_option maxRecDepth 1000000
set_option maxHeartbeats 0
namespace Go.Proofs.YtpfbdepoammjmaaGreatDoor.Pvm
open Go Go.Proofs
def wqxc : List LS := [.any, .any]
noncomputable def wquv (k : Nat) : CTab := (CTab.add 110 wqk7 (wqb3 k) CTab.nil)
def wqfp {R : Type} (K : ((List UInt8) → (List UInt8) → Bool → Option R)) : Out → Option R
  | .ret [.v .str y0, .v .str y1, .v .bool y2] [] => K y0 y1 y2
  | _ => none
def wqrv : RetSpec := ⟨[.any, .any, .any], [], []⟩
def wqvt : List (Nat × CutSpec) := []
def wqtp : List (Nat × Plan) := [(3, (.of [(0, 1), (1, 1), (2, 1), (3, 1), (4, 1), (5, 1), (6, 1), (7, 1), (8, 1), (9, 1), (10, 1), (11, 1)] .done))]
noncomputable def wql6 (k : Nat) : Ctx := ⟨tyT, wqvt, wquv k, [], [], wqtp, @SH⟩
noncomputable def wqfq : Code := Tryz.f175.body.getD .skip
noncomputable def wqo4 (k : Nat) {R : Type}  (x0 : (List UInt8)) (x1 : UInt8) (K : ((List UInt8) → (List UInt8) → Bool → Option R)) : Option R := (@wq95 k R x0 x1 (fun y5 => (@cond (@Option R) (@Decidable.decide (@GE.ge Int Int.instLEInt y5 (0 : Int)) (@Int.decLe (0 : Int) y5)) (@cond (@Option R) (@bnd (0 : Int) y5 (@Nat.cast Int instNatCastInt (@List.length UInt8 x0))) (@cond (@Option R) (@bnd (@Go.IntKind.wrap Go.IntKind.i64 (@HAdd.hAdd Int Int Int (@instHAdd Int @Int.instAdd) y5 (@Nat.cast Int instNatCastInt (@List.length UInt8 (x1 :: []))))) (@Nat.cast Int instNatCastInt (@List.length UInt8 x0)) (@Nat.cast Int instNatCastInt (@List.length UInt8 x0))) (K (@cut UInt8 x0 (0 : Int) y5) (@cut UInt8 x0 (@Go.IntKind.wrap Go.IntKind.i64 (@HAdd.hAdd Int Int Int (@instHAdd Int @Int.instAdd) y5 (@Nat.cast Int instNatCastInt (@List.length UInt8 (x1 :: []))))) (@Nat.cast Int instNatCastInt (@List.length UInt8 x0))) Bool.true) (@Option.none R)) (@Option.none R)) (K x0 [] Bool.false))))
theorem wqvu (k : Nat) {R : Type} (I : Nat → St → Option R) (x0 : (List UInt8)) (x1 : UInt8) (K : ((List UInt8) → (List UInt8) → Bool → Option R)) : fnK (wql6 k) k wqfq 23 [.tmp 4, .tmp 5, .tmp 6] wqrv [.v .str x0, .v .str [x1]] [] (wqfp K) = wqo4 k  x0 x1 K := by kernel_rfl
noncomputable def wqiu (k : Nat) {R : Type} (x0 : (List UInt8)) (x1 : UInt8) (K : ((List UInt8) → (List UInt8) → Bool → Option R)) : Option R := wqo4 k  x0 x1 K
theorem wqvv (k : Nat) {R : Type} (x0 : (List UInt8)) (x1 : UInt8) (K : ((List UInt8) → (List UInt8) → Bool → Option R)) : fnK (wql6 k) k wqfq 23 [.tmp 4, .tmp 5, .tmp 6] wqrv [.v .str x0, .v .str [x1]] [] (wqfp K) = wqiu k x0 x1 K := by
  exact wqvu k (fun _ _ => none) x0 x1 K
noncomputable def wqho (k : Nat) {R : Type} : List PV → List (Nm × HObj) → (Out → Option R) → Option R
  | [.v .str x0, .v .str [x1]], [], K => wqiu k x0 x1 (fun y0 y1 y2 => K (.ret [.v .str y0, .v .str y1, .v .bool y2] []))
  | _, _, _ => none
theorem wqvw (k : Nat) : (wquv k).Ok Tryz.prog := (CTab.add_ok (fun h => wqpd k h) CTab.nil_ok)
theorem wq10k (k : Nat) {ps : List PV} {hp : List (Nm × HObj)} {R : Type} {K : Out → Option R} {r : R} (h : wqho k ps hp K = some r) : DoesTo Tryz.prog 175 ps hp fun out => K out = some r := by
  unfold wqho at h
  split at h
  · rw [← wqvv] at h
    have := fn_ok (P := Tryz.prog) (cx := wql6 k) (f := 175) ⟨tyT_ok, wqvw k, fun _ _ => rfl⟩ (by kernel_rfl) (fn := Tryz.f175) (c := wqfq) (by kernel_rfl) (by kernel_rfl) (by kernel_rfl) (rs := [.tmp 4, .tmp 5, .tmp 6]) (by kernel_rfl) (by kernel_rfl) h
    exact this.mono fun out ho => by
      unfold wqfp at ho
      split at ho <;> first | exact ho | cases ho
  · cases h
end Go.Proofs.YtpfbdepoammjmaaGreatDoor.Pvm

set_option maxRecDepth 1000000
set_option maxHeartbeats 0
namespace Go.Proofs.YtpfbdepoammjmaaGreatDoor.Pvm
open Go Go.Proofs
def wqtq : List LS := [.any, .any]
noncomputable def wqpe (k : Nat) : CTab := (CTab.add 175 wqxc (wqho k) CTab.nil)
def wqct {R : Type} (K : ((List UInt8) → (List UInt8) → Bool → Option R)) : Out → Option R
  | .ret [.v .str y0, .v .str y1, .v .bool y2] [] => K y0 y1 y2
  | _ => none
def wqmt : RetSpec := ⟨[.any, .any, .any], [], []⟩
def wqrw : List (Nat × CutSpec) := []
def wqpx : List (Nat × Plan) := []
noncomputable def wqfr (k : Nat) : Ctx := ⟨tyT, wqrw, wqpe k, [], [], wqpx, @SH⟩
noncomputable def wqcu : Code := Tryz.f158.body.getD .skip
noncomputable def wqhp (k : Nat) {R : Type}  (x0 : (List UInt8)) (x1 : UInt8) (K : ((List UInt8) → (List UInt8) → Bool → Option R)) : Option R := (@wqiu k R x0 x1 (fun y5 y6 y7 => (K y5 y6 y7)))
theorem wqrx (k : Nat) {R : Type} (I : Nat → St → Option R) (x0 : (List UInt8)) (x1 : UInt8) (K : ((List UInt8) → (List UInt8) → Bool → Option R)) : fnK (wqfr k) k wqcu 13 [.tmp 4, .tmp 5, .tmp 6] wqmt [.v .str x0, .v .str [x1]] [] (wqct K) = wqhp k  x0 x1 K := by kernel_rfl
noncomputable def wqba (k : Nat) {R : Type} (x0 : (List UInt8)) (x1 : UInt8) (K : ((List UInt8) → (List UInt8) → Bool → Option R)) : Option R := wqhp k  x0 x1 K
theorem wqry (k : Nat) {R : Type} (x0 : (List UInt8)) (x1 : UInt8) (K : ((List UInt8) → (List UInt8) → Bool → Option R)) : fnK (wqfr k) k wqcu 13 [.tmp 4, .tmp 5, .tmp 6] wqmt [.v .str x0, .v .str [x1]] [] (wqct K) = wqba k x0 x1 K := by
  exact wqrx k (fun _ _ => none) x0 x1 K
noncomputable def wqe1 (k : Nat) {R : Type} : List PV → List (Nm × HObj) → (Out → Option R) → Option R
  | [.v .str x0, .v .str [x1]], [], K => wqba k x0 x1 (fun y0 y1 y2 => K (.ret [.v .str y0, .v .str y1, .v .bool y2] []))
  | _, _, _ => none
theorem wqrz (k : Nat) : (wqpe k).Ok Tryz.prog := (CTab.add_ok (fun h => wq10k k h) CTab.nil_ok)
theorem wqxd (k : Nat) {ps : List PV} {hp : List (Nm × HObj)} {R : Type} {K : Out → Option R} {r : R} (h : wqe1 k ps hp K = some r) : DoesTo Tryz.prog 158 ps hp fun out => K out = some r := by
  unfold wqe1 at h
  split at h
  · rw [← wqry] at h
    have := fn_ok (P := Tryz.prog) (cx := wqfr k) (f := 158) ⟨tyT_ok, wqrz k, fun _ _ => rfl⟩ (by kernel_rfl) (fn := Tryz.f158) (c := wqcu) (by kernel_rfl) (by kernel_rfl) (by kernel_rfl) (rs := [.tmp 4, .tmp 5, .tmp 6]) (by kernel_rfl) (by kernel_rfl) h
    exact this.mono fun out ho => by
      unfold wqct at ho
      split at ho <;> first | exact ho | cases ho
  · cases h
end Go.Proofs.YtpfbdepoammjmaaGreatDoor.Pvm

set_option maxRecDepth 1000000
set_option maxHeartbeats 0
namespace Go.Proofs.YtpfbdepoammjmaaGreatDoor.Pvm
open Go Go.Proofs
def wquw : List LS := [.any]
noncomputable def wqzn (k : Nat) : CTab := (CTab.add 158 wqtq (wqe1 k) (CTab.add 159 wqxb (wqhm k) CTab.nil))
def wql7 {R : Type} (K : ((List UInt8) → Option R)) : Out → Option R
  | .ret [.v .str y0] [] => K y0
  | _ => none
def wqxe : RetSpec := ⟨[.any], [], []⟩
def wqye : List (Nat × CutSpec) := []
def wqxf : List (Nat × Plan) := []
noncomputable def wqs0 (k : Nat) : Ctx := ⟨tyT, wqye, wqzn k, [], [], wqxf, @SH⟩
noncomputable def wql8 : Code := Tryz.f128.body.getD .skip
noncomputable def wqvx (k : Nat) {R : Type}  (x0 : (List UInt8)) (K : ((List UInt8) → Option R)) : Option R := (@wqba k R x0 (58 : UInt8) (fun y4 y5 y6 => (@cond (@Option R) (@BEq.beq (@Kd.T Kd.bool) (@instBEqOfDecidableEq (@Kd.T Kd.bool) @instDecidableEqBool) (@Bool.not y6) Bool.false) (@wqew k R y4 (fun y7 => (@cond (@Option R) (@Bool.or (@Bool.not (@Bool.and (@BEq.beq (@Kd.T Kd.bool) (@instBEqOfDecidableEq (@Kd.T Kd.bool) @instDecidableEqBool) (@Bool.not y7) Bool.false) (@BEq.beq (@Kd.T Kd.bool) (@instBEqOfDecidableEq (@Kd.T Kd.bool) @instDecidableEqBool) (@Bool.not (@BEq.beq (@List UInt8) (@List.instBEq UInt8 (@instBEqOfDecidableEq UInt8 @instDecidableEqUInt8)) y5 [])) Bool.true))) (@inb (0 : Int) (@Nat.cast Int instNatCastInt (@List.length UInt8 y5)))) (@cond (@Option R) (@cond (@Kd.T Kd.bool) (@Bool.not y7) Bool.true (@cond (@Kd.T Kd.bool) (@Bool.not (@BEq.beq (@List UInt8) (@List.instBEq UInt8 (@instBEqOfDecidableEq UInt8 @instDecidableEqUInt8)) y5 [])) (@bne Int (@instBEqOfDecidableEq Int @Int.instDecidableEq) (@Nat.cast Int instNatCastInt (@UInt8.toNat (@List.getD UInt8 y5 (@Int.toNat (0 : Int)) (0 : UInt8)))) (32 : Int)) Bool.false)) (K []) (K y4)) (@Option.none R)))) (K []))))
theorem wqyf (k : Nat) {R : Type} (I : Nat → St → Option R) (x0 : (List UInt8)) (K : ((List UInt8) → Option R)) : fnK (wqs0 k) k wql8 29 [.tmp 2] wqxe [.v .str x0] [] (wql7 K) = wqvx k  x0 K := by kernel_rfl
noncomputable def wqfs (k : Nat) {R : Type} (x0 : (List UInt8)) (K : ((List UInt8) → Option R)) : Option R := wqvx k  x0 K
theorem wqyg (k : Nat) {R : Type} (x0 : (List UInt8)) (K : ((List UInt8) → Option R)) : fnK (wqs0 k) k wql8 29 [.tmp 2] wqxe [.v .str x0] [] (wql7 K) = wqfs k x0 K := by
  exact wqyf k (fun _ _ => none) x0 K
noncomputable def wqiv (k : Nat) {R : Type} : List PV → List (Nm × HObj) → (Out → Option R) → Option R
  | [.v .str x0], [], K => wqfs k x0 (fun y0 => K (.ret [.v .str y0] []))
  | _, _, _ => none
theorem wqyh (k : Nat) : (wqzn k).Ok Tryz.prog := (CTab.add_ok (fun h => wqxd k h) (CTab.add_ok (fun h => wq10j k h) CTab.nil_ok))
theorem wqzo (k : Nat) {ps : List PV} {hp : List (Nm × HObj)} {R : Type} {K : Out → Option R} {r : R} (h : wqiv k ps hp K = some r) : DoesTo Tryz.prog 128 ps hp fun out => K out = some r := by
  unfold wqiv at h
  split at h
  · rw [← wqyg] at h
    have := fn_ok (P := Tryz.prog) (cx := wqs0 k) (f := 128) ⟨tyT_ok, wqyh k, fun _ _ => rfl⟩ (by kernel_rfl) (fn := Tryz.f128) (c := wql8) (by kernel_rfl) (by kernel_rfl) (by kernel_rfl) (rs := [.tmp 2]) (by kernel_rfl) (by kernel_rfl) h
    exact this.mono fun out ho => by
      unfold wql7 at ho
      split at ho <;> first | exact ho | cases ho
  · cases h
end Go.Proofs.YtpfbdepoammjmaaGreatDoor.Pvm

set_option maxRecDepth 1000000
set_option maxHeartbeats 0
namespace Go.Proofs.YtpfbdepoammjmaaGreatDoor.Pvm
open Go Go.Proofs
def wq5g : List LS := [.obj 1 [.any, .any, .any, .any, .own 21 97 (.pr (.int .i64) (.pr (.int .i64) (.pr (.int .i64) (.pr .str .bool))))], .any]
noncomputable def wqgm (k : Nat) : CTab := CTab.nil
def wq8n {R : Type} (K : (Int → Int → (List UInt8) → Int → (List (Int × (Int × (Int × ((List UInt8) × Bool))))) → Option R)) (E : (Int → Int → (List UInt8) → Int → (List (Int × (Int × (Int × ((List UInt8) × Bool))))) → Int → Int → Option R)) : Out → Option R
  | .ret [] [(21, .row 97 (.pr (.int .i64) (.pr (.int .i64) (.pr (.int .i64) (.pr .str .bool)))) y4), (1, .var 151 [.v (.int .i64) y0, .v (.int .i64) y1, .v .str y2, .v (.int .i64) y3, .row 21])] => K y0 y1 y2 y3 y4
  | .pan (.ifc 28 (.agg [.v (.int .i64) z5, .v (.int .i64) z6])) [(21, .row 97 (.pr (.int .i64) (.pr (.int .i64) (.pr (.int .i64) (.pr .str .bool)))) z4), (1, .var 151 [.v (.int .i64) z0, .v (.int .i64) z1, .v .str z2, .v (.int .i64) z3, .row 21])] => E z0 z1 z2 z3 z4 z5 z6
  | _ => none
def wqf0 : RetSpec := ⟨[], [(1, .obj 1 [.any, .any, .any, .any, .own 21 97 (.pr (.int .i64) (.pr (.int .i64) (.pr (.int .i64) (.pr .str .bool))))])], [(1, .obj 1 [.any, .any, .any, .any, .own 21 97 (.pr (.int .i64) (.pr (.int .i64) (.pr (.int .i64) (.pr .str .bool))))])]⟩
def wql9 : List (Nat × CutSpec) := []
def wqje : List (Nat × Plan) := []
noncomputable def wqad (k : Nat) : Ctx := ⟨tyT, wql9, wqgm k, [], [1], wqje, @SH⟩
noncomputable def wq8o : Code := Tryz.f124.body.getD .skip
noncomputable def wqgn (k : Nat) {R : Type}  (x0 x1 : Int) (x2 : (List UInt8)) (x3 : Int) (x4 : (List (Int × (Int × (Int × ((List UInt8) × Bool)))))) (x5 : Int) (K : (Int → Int → (List UInt8) → Int → (List (Int × (Int × (Int × ((List UInt8) × Bool))))) → Option R)) (E : (Int → Int → (List UInt8) → Int → (List (Int × (Int × (Int × ((List UInt8) × Bool))))) → Int → Int → Option R)) : Option R := (E x0 x1 x2 x3 x4 x5 x0)
theorem wqla (k : Nat) {R : Type} (I : Nat → St → Option R) (x0 x1 : Int) (x2 : (List UInt8)) (x3 : Int) (x4 : (List (Int × (Int × (Int × ((List UInt8) × Bool)))))) (x5 : Int) (K : (Int → Int → (List UInt8) → Int → (List (Int × (Int × (Int × ((List UInt8) × Bool))))) → Option R)) (E : (Int → Int → (List UInt8) → Int → (List (Int × (Int × (Int × ((List UInt8) × Bool))))) → Int → Int → Option R)) : fnK (wqad k) k wq8o 12 [] wqf0 [.ptr 1 0, .v (.int .i64) x5] [(21, .row 97 (.pr (.int .i64) (.pr (.int .i64) (.pr (.int .i64) (.pr .str .bool)))) x4), (1, .var 151 [.v (.int .i64) x0, .v (.int .i64) x1, .v .str x2, .v (.int .i64) x3, .row 21])] (wq8n K E) = wqgn k  x0 x1 x2 x3 x4 x5 K E := by kernel_rfl
noncomputable def wqa (k : Nat) {R : Type} (x0 x1 : Int) (x2 : (List UInt8)) (x3 : Int) (x4 : (List (Int × (Int × (Int × ((List UInt8) × Bool)))))) (x5 : Int) (K : (Int → Int → (List UInt8) → Int → (List (Int × (Int × (Int × ((List UInt8) × Bool))))) → Option R)) (E : (Int → Int → (List UInt8) → Int → (List (Int × (Int × (Int × ((List UInt8) × Bool))))) → Int → Int → Option R)) : Option R := wqgn k  x0 x1 x2 x3 x4 x5 K E
theorem wqlb (k : Nat) {R : Type} (x0 x1 : Int) (x2 : (List UInt8)) (x3 : Int) (x4 : (List (Int × (Int × (Int × ((List UInt8) × Bool)))))) (x5 : Int) (K : (Int → Int → (List UInt8) → Int → (List (Int × (Int × (Int × ((List UInt8) × Bool))))) → Option R)) (E : (Int → Int → (List UInt8) → Int → (List (Int × (Int × (Int × ((List UInt8) × Bool))))) → Int → Int → Option R)) : fnK (wqad k) k wq8o 12 [] wqf0 [.ptr 1 0, .v (.int .i64) x5] [(21, .row 97 (.pr (.int .i64) (.pr (.int .i64) (.pr (.int .i64) (.pr .str .bool)))) x4), (1, .var 151 [.v (.int .i64) x0, .v (.int .i64) x1, .v .str x2, .v (.int .i64) x3, .row 21])] (wq8n K E) = wqa k x0 x1 x2 x3 x4 x5 K E := by
  exact wqla k (fun _ _ => none) x0 x1 x2 x3 x4 x5 K E
noncomputable def wq3j (k : Nat) {R : Type} : List PV → List (Nm × HObj) → (Out → Option R) → Option R
  | [.ptr 1 0, .v (.int .i64) x5], [(21, .row 97 (.pr (.int .i64) (.pr (.int .i64) (.pr (.int .i64) (.pr .str .bool)))) x4), (1, .var 151 [.v (.int .i64) x0, .v (.int .i64) x1, .v .str x2, .v (.int .i64) x3, .row 21])], K => wqa k x0 x1 x2 x3 x4 x5 (fun y0 y1 y2 y3 y4 => K (.ret [] [(21, .row 97 (.pr (.int .i64) (.pr (.int .i64) (.pr (.int .i64) (.pr .str .bool)))) y4), (1, .var 151 [.v (.int .i64) y0, .v (.int .i64) y1, .v .str y2, .v (.int .i64) y3, .row 21])])) (fun z0 z1 z2 z3 z4 z5 z6 => K (.pan (.ifc 28 (.agg [.v (.int .i64) z5, .v (.int .i64) z6])) [(21, .row 97 (.pr (.int .i64) (.pr (.int .i64) (.pr (.int .i64) (.pr .str .bool)))) z4), (1, .var 151 [.v (.int .i64) z0, .v (.int .i64) z1, .v .str z2, .v (.int .i64) z3, .row 21])]))
  | _, _, _ => none
theorem wqlc (k : Nat) : (wqgm k).Ok Tryz.prog := CTab.nil_ok
theorem wq69 (k : Nat) {ps : List PV} {hp : List (Nm × HObj)} {R : Type} {K : Out → Option R} {r : R} (h : wq3j k ps hp K = some r) : DoesTo Tryz.prog 124 ps hp fun out => K out = some r := by
  unfold wq3j at h
  split at h
  · rw [← wqlb] at h
    have := fn_ok (P := Tryz.prog) (cx := wqad k) (f := 124) ⟨tyT_ok, wqlc k, fun _ _ => rfl⟩ (by kernel_rfl) (fn := Tryz.f124) (c := wq8o) (by kernel_rfl) (by kernel_rfl) (by kernel_rfl) (rs := []) (by kernel_rfl) (by kernel_rfl) h
    exact this.mono fun out ho => by
      unfold wq8n at ho
      split at ho <;> first | exact ho | cases ho
  · cases h
end Go.Proofs.YtpfbdepoammjmaaGreatDoor.Pvm

set_option maxRecDepth 1000000
set_option maxHeartbeats 0
namespace Go.Proofs.YtpfbdepoammjmaaGreatDoor.Pvm
open Go Go.Proofs
def wqdn : List LS := [.obj 1 [.any, .any, .any, .any, .own 21 97 (.pr (.int .i64) (.pr (.int .i64) (.pr (.int .i64) (.pr .str .bool))))], .any, .any, .any, .any]
noncomputable def wqgo (k : Nat) : CTab := CTab.nil
def wq8p {R : Type} (K : (Int → Int → (List UInt8) → Int → (List (Int × (Int × (Int × ((List UInt8) × Bool))))) → Option R)) : Out → Option R
  | .ret [] [(21, .row 97 (.pr (.int .i64) (.pr (.int .i64) (.pr (.int .i64) (.pr .str .bool)))) y4), (1, .var 151 [.v (.int .i64) y0, .v (.int .i64) y1, .v .str y2, .v (.int .i64) y3, .row 21])] => K y0 y1 y2 y3 y4
  | _ => none
def wqf1 : RetSpec := ⟨[], [(1, .obj 1 [.any, .any, .any, .any, .own 21 97 (.pr (.int .i64) (.pr (.int .i64) (.pr (.int .i64) (.pr .str .bool))))])], []⟩
def wqld : List (Nat × CutSpec) := []
def wqjf : List (Nat × Plan) := [(0, (.of [(0, 1), (1, 1), (2, 1), (3, 1), (5, 1), (6, 1), (7, 1), (8, 1), (9, 1), (11, 1), (12, 1), (13, 1), (14, 1), (16, 1), (17, 1), (18, 1), (21, 1), (22, 1), (4, 1), (10, 1), (15, 1), (19, 1), (20, 1), (23, 1), (24, 0), (25, 0), (26, 1), (27, 1), (28, 0)] .done))]
noncomputable def wqae (k : Nat) : Ctx := ⟨tyT, wqld, wqgo k, [], [1], wqjf, @SH⟩
noncomputable def wq8q : Code := Tryz.f127.body.getD .skip
noncomputable def wqbr (k : Nat) {R : Type}  (x0 x1 : Int) (x2 : (List UInt8)) (x3 : Int) (x4 : (List (Int × (Int × (Int × ((List UInt8) × Bool)))))) (x5 : Int) (x6 : (List UInt8)) (x7 : Bool) (x8 : Int) (K : (Int → Int → (List UInt8) → Int → (List (Int × (Int × (Int × ((List UInt8) × Bool))))) → Option R)) : Option R := (@cond (@Option R) (@fits (@List.length (@Kd.T (@Kd.pr kI (@Kd.pr kI (@Kd.pr kI (@Kd.pr Kd.str Kd.bool))))) x4) (@List.length (@Kd.T (@Kd.pr kI (@Kd.pr kI (@Kd.pr kI (@Kd.pr Kd.str Kd.bool))))) ((x5, (x0, ((@Go.IntKind.wrap Go.IntKind.i64 (@HAdd.hAdd Int Int Int (@instHAdd Int @Int.instAdd) x1 x3)), (x6, x7)))) :: [])) (48 : Nat)) (K x0 x1 x2 (@Go.IntKind.wrap Go.IntKind.i64 (@HAdd.hAdd Int Int Int (@instHAdd Int @Int.instAdd) x3 x8)) (@HAppend.hAppend (@Kd.T (@Kd.sl (@Kd.pr kI (@Kd.pr kI (@Kd.pr kI (@Kd.pr Kd.str Kd.bool)))))) (@List (@Kd.T (@Kd.pr kI (@Kd.pr kI (@Kd.pr kI (@Kd.pr Kd.str Kd.bool)))))) (@Kd.T (@Kd.sl (@Kd.pr kI (@Kd.pr kI (@Kd.pr kI (@Kd.pr Kd.str Kd.bool)))))) (@instHAppendOfAppend (@Kd.T (@Kd.sl (@Kd.pr kI (@Kd.pr kI (@Kd.pr kI (@Kd.pr Kd.str Kd.bool)))))) (@List.instAppend (@Kd.T (@Kd.pr kI (@Kd.pr kI (@Kd.pr kI (@Kd.pr Kd.str Kd.bool))))))) x4 ((x5, (x0, ((@Go.IntKind.wrap Go.IntKind.i64 (@HAdd.hAdd Int Int Int (@instHAdd Int @Int.instAdd) x1 x3)), (x6, x7)))) :: []))) (@Option.none R))
theorem wqle (k : Nat) {R : Type} (I : Nat → St → Option R) (x0 x1 : Int) (x2 : (List UInt8)) (x3 : Int) (x4 : (List (Int × (Int × (Int × ((List UInt8) × Bool)))))) (x5 : Int) (x6 : (List UInt8)) (x7 : Bool) (x8 : Int) (K : (Int → Int → (List UInt8) → Int → (List (Int × (Int × (Int × ((List UInt8) × Bool))))) → Option R)) : fnK (wqae k) k wq8q 46 [] wqf1 [.ptr 1 0, .v (.int .i64) x5, .v .str x6, .v .bool x7, .v (.int .i64) x8] [(21, .row 97 (.pr (.int .i64) (.pr (.int .i64) (.pr (.int .i64) (.pr .str .bool)))) x4), (1, .var 151 [.v (.int .i64) x0, .v (.int .i64) x1, .v .str x2, .v (.int .i64) x3, .row 21])] (wq8p K) = wqbr k  x0 x1 x2 x3 x4 x5 x6 x7 x8 K := by kernel_rfl
noncomputable def wqg (k : Nat) {R : Type} (x0 x1 : Int) (x2 : (List UInt8)) (x3 : Int) (x4 : (List (Int × (Int × (Int × ((List UInt8) × Bool)))))) (x5 : Int) (x6 : (List UInt8)) (x7 : Bool) (x8 : Int) (K : (Int → Int → (List UInt8) → Int → (List (Int × (Int × (Int × ((List UInt8) × Bool))))) → Option R)) : Option R := wqbr k  x0 x1 x2 x3 x4 x5 x6 x7 x8 K
theorem wqlf (k : Nat) {R : Type} (x0 x1 : Int) (x2 : (List UInt8)) (x3 : Int) (x4 : (List (Int × (Int × (Int × ((List UInt8) × Bool)))))) (x5 : Int) (x6 : (List UInt8)) (x7 : Bool) (x8 : Int) (K : (Int → Int → (List UInt8) → Int → (List (Int × (Int × (Int × ((List UInt8) × Bool))))) → Option R)) : fnK (wqae k) k wq8q 46 [] wqf1 [.ptr 1 0, .v (.int .i64) x5, .v .str x6, .v .bool x7, .v (.int .i64) x8] [(21, .row 97 (.pr (.int .i64) (.pr (.int .i64) (.pr (.int .i64) (.pr .str .bool)))) x4), (1, .var 151 [.v (.int .i64) x0, .v (.int .i64) x1, .v .str x2, .v (.int .i64) x3, .row 21])] (wq8p K) = wqg k x0 x1 x2 x3 x4 x5 x6 x7 x8 K := by
  exact wqle k (fun _ _ => none) x0 x1 x2 x3 x4 x5 x6 x7 x8 K
noncomputable def wq6i (k : Nat) {R : Type} : List PV → List (Nm × HObj) → (Out → Option R) → Option R
  | [.ptr 1 0, .v (.int .i64) x5, .v .str x6, .v .bool x7, .v (.int .i64) x8], [(21, .row 97 (.pr (.int .i64) (.pr (.int .i64) (.pr (.int .i64) (.pr .str .bool)))) x4), (1, .var 151 [.v (.int .i64) x0, .v (.int .i64) x1, .v .str x2, .v (.int .i64) x3, .row 21])], K => wqg k x0 x1 x2 x3 x4 x5 x6 x7 x8 (fun y0 y1 y2 y3 y4 => K (.ret [] [(21, .row 97 (.pr (.int .i64) (.pr (.int .i64) (.pr (.int .i64) (.pr .str .bool)))) y4), (1, .var 151 [.v (.int .i64) y0, .v (.int .i64) y1, .v .str y2, .v (.int .i64) y3, .row 21])]))
  | _, _, _ => none
theorem wqlg (k : Nat) : (wqgo k).Ok Tryz.prog := CTab.nil_ok
theorem wqgp (k : Nat) {ps : List PV} {hp : List (Nm × HObj)} {R : Type} {K : Out → Option R} {r : R} (h : wq6i k ps hp K = some r) : DoesTo Tryz.prog 127 ps hp fun out => K out = some r := by
  unfold wq6i at h
  split at h
  · rw [← wqlf] at h
    have := fn_ok (P := Tryz.prog) (cx := wqae k) (f := 127) ⟨tyT_ok, wqlg k, fun _ _ => rfl⟩ (by kernel_rfl) (fn := Tryz.f127) (c := wq8q) (by kernel_rfl) (by kernel_rfl) (by kernel_rfl) (rs := []) (by kernel_rfl) (by kernel_rfl) h
    exact this.mono fun out ho => by
      unfold wq8p at ho
      split at ho <;> first | exact ho | cases ho
  · cases h
end Go.Proofs.YtpfbdepoammjmaaGreatDoor.Pvm

set_option maxRecDepth 1000000
set_option maxHeartbeats 0
namespace Go.Proofs.YtpfbdepoammjmaaGreatDoor.Pvm
open Go Go.Proofs
abbrev wq3r (R : Type) : Type := (Int → Int → (List UInt8) → Int → (List (Int × (Int × (Int × ((List UInt8) × Bool))))) → (List UInt8) → Option R)
def wqo5 : List LS := [.obj 1 [.any, .any, .any, .any, .own 21 97 (.pr (.int .i64) (.pr (.int .i64) (.pr (.int .i64) (.pr .str .bool))))]]
noncomputable def wqhq (k : Nat) : CTab := CTab.nil
def wq2t {R : Type} (K : wq3r R) : Out → Option R
  | .ret [.v .str y5] [(21, .row 97 (.pr (.int .i64) (.pr (.int .i64) (.pr (.int .i64) (.pr .str .bool)))) y4), (1, .var 151 [.v (.int .i64) y0, .v (.int .i64) y1, .v .str y2, .v (.int .i64) y3, .row 21])] => K y0 y1 y2 y3 y4 y5
  | _ => none
def wq4i : RetSpec := ⟨[.any], [(1, .obj 1 [.any, .any, .any, .any, .own 21 97 (.pr (.int .i64) (.pr (.int .i64) (.pr (.int .i64) (.pr .str .bool))))])], []⟩
def wqmu : List (Nat × CutSpec) := [(1001, ⟨[(0, .obj 1 [.any, .any, .any, .any, .own 21 97 (.pr (.int .i64) (.pr (.int .i64) (.pr (.int .i64) (.pr .str .bool))))])], [(1, .obj 1 [.any, .any, .any, .any, .own 21 97 (.pr (.int .i64) (.pr (.int .i64) (.pr (.int .i64) (.pr .str .bool))))])]⟩)]
def wqlh : List (Nat × Plan) := [(1, (.of [(0, 1), (1, 1), (2, 1), (4, 1), (5, 1), (6, 1), (7, 1), (3, 1), (8, 1), (9, 1), (10, 1), (11, 1), (12, 1), (13, 1), (14, 1), (15, 1), (17, 1), (18, 1), (19, 1), (16, 1), (20, 1), (21, 1), (22, 1), (23, 1)] .done)), (3, (.of [(0, 1), (1, 1), (2, 1), (3, 1), (5, 1), (6, 1), (7, 1), (4, 1), (8, 1), (9, 1), (10, 1)] .done))]
noncomputable def wqr (k : Nat) : Ctx := ⟨tyT, wqmu, wqhq k, [], [1], wqlh, @SH⟩
noncomputable def wq1f : Code := Tryz.f125.body.getD .skip
def wq38 (s0 s1 : Int) (s2 : (List UInt8)) (s3 : Int) (s4 : (List (Int × (Int × (Int × ((List UInt8) × Bool)))))) : St := ⟨mkT [(0, .ptr 1 0)], mkH [(21, .row 97 (.pr (.int .i64) (.pr (.int .i64) (.pr (.int .i64) (.pr .str .bool)))) s4), (1, .var 151 [.v (.int .i64) s0, .v (.int .i64) s1, .v .str s2, .v (.int .i64) s3, .row 21])]⟩
noncomputable def wq4n (k : Nat) {R : Type} (E1001 : (Int → Int → (List UInt8) → Int → (List (Int × (Int × (Int × ((List UInt8) × Bool))))) → Option R)) (s0 s1 : Int) (s2 : (List UInt8)) (s3 : Int) (s4 : (List (Int × (Int × (Int × ((List UInt8) × Bool)))))) (K : wq3r R) : Option R := (@cond (@Option R) (@Bool.or (@Bool.not (@BEq.beq (@Kd.T Kd.bool) (@instBEqOfDecidableEq (@Kd.T Kd.bool) @instDecidableEqBool) (@Decidable.decide (@LT.lt Int Int.instLTInt s3 (@Nat.cast Int instNatCastInt (@List.length UInt8 s2))) (@Int.decLt s3 (@Nat.cast Int instNatCastInt (@List.length UInt8 s2)))) Bool.true)) (@inb s3 (@Nat.cast Int instNatCastInt (@List.length UInt8 s2)))) (@cond (@Option R) (@cond (@Kd.T Kd.bool) (@Decidable.decide (@LT.lt Int Int.instLTInt s3 (@Nat.cast Int instNatCastInt (@List.length UInt8 s2))) (@Int.decLt s3 (@Nat.cast Int instNatCastInt (@List.length UInt8 s2)))) (@BEq.beq Int (@instBEqOfDecidableEq Int @Int.instDecidableEq) (@Nat.cast Int instNatCastInt (@UInt8.toNat (@List.getD UInt8 s2 (@Int.toNat s3) (0 : UInt8)))) (32 : Int)) Bool.false) (E1001 s0 s1 s2 (@Go.IntKind.wrap Go.IntKind.i64 (@HAdd.hAdd Int Int Int (@instHAdd Int @Int.instAdd) s3 (1 : Int))) s4) (@cond (@Option R) (@bnd s3 (@Nat.cast Int instNatCastInt (@List.length UInt8 s2)) (@Nat.cast Int instNatCastInt (@List.length UInt8 s2))) (K s0 s1 s2 s3 s4 (@cut UInt8 s2 s3 (@Nat.cast Int instNatCastInt (@List.length UInt8 s2)))) (@Option.none R))) (@Option.none R))
theorem wqft (k : Nat) {R : Type} (I : Nat → St → Option R) (s0 s1 : Int) (s2 : (List UInt8)) (s3 : Int) (s4 : (List (Int × (Int × (Int × ((List UInt8) × Bool)))))) (K : wq3r R) : execK (wqr k) k (at_ [1, 0, 0, 0] wq1f) (wq38 s0 s1 s2 s3 s4) (konts (wqr k) k I [1, 0, 0, 0] wq1f (outK (wqr k) wq4i [.tmp 2] (wq2t K))) = wq4n k (fun s0 s1 s2 s3 s4 => I 1001 (wq38 s0 s1 s2 s3 s4)) s0 s1 s2 s3 s4 K := by kernel_rfl
noncomputable def wq9i (k : Nat) {R : Type} (E1001 : (Int → Int → (List UInt8) → Int → (List (Int × (Int × (Int × ((List UInt8) × Bool))))) → Option R)) (x0 x1 : Int) (x2 : (List UInt8)) (x3 : Int) (x4 : (List (Int × (Int × (Int × ((List UInt8) × Bool)))))) (K : wq3r R) : Option R := (E1001 x0 x1 x2 x3 x4)
theorem wqmv (k : Nat) {R : Type} (I : Nat → St → Option R) (x0 x1 : Int) (x2 : (List UInt8)) (x3 : Int) (x4 : (List (Int × (Int × (Int × ((List UInt8) × Bool)))))) (K : wq3r R) : fnK (wqr k) k wq1f 44 [.tmp 2] wq4i [.ptr 1 0] [(21, .row 97 (.pr (.int .i64) (.pr (.int .i64) (.pr (.int .i64) (.pr .str .bool)))) x4), (1, .var 151 [.v (.int .i64) x0, .v (.int .i64) x1, .v .str x2, .v (.int .i64) x3, .row 21])] (wq2t K) = wq9i k (fun s0 s1 s2 s3 s4 => iter (wqr k).pv (look (wqr k).cuts 1001) (execK (wqr k) k (at_ [1, 0, 0, 0] wq1f)) k (wq38 s0 s1 s2 s3 s4) (konts (wqr k) k I [1, 0, 0] wq1f (outK (wqr k) wq4i [.tmp 2] (wq2t K)))) x0 x1 x2 x3 x4 K := by kernel_rfl
noncomputable def wq1x (k : Nat) {R : Type}  : Nat → Int → Int → (List UInt8) → Int → (List (Int × (Int × (Int × ((List UInt8) × Bool))))) → (Int → Int → (List UInt8) → Int → (List (Int × (Int × (Int × ((List UInt8) × Bool))))) → (List UInt8) → Option R) → Option R
  | 0, _, _, _, _, _, _ => none
  | n + 1, s0, s1, s2, s3, s4, K => wq4n k (fun s0 s1 s2 s3 s4 => wq1x k  n s0 s1 s2 s3 s4 K) s0 s1 s2 s3 s4 K
theorem wqfu (k : Nat) {R : Type} (I : Nat → St → Option R) (K : wq3r R) : ∀ (n : Nat) (s0 s1 : Int) (s2 : (List UInt8)) (s3 : Int) (s4 : (List (Int × (Int × (Int × ((List UInt8) × Bool)))))), iter (wqr k).pv (look (wqr k).cuts 1001) (execK (wqr k) k (at_ [1, 0, 0, 0] wq1f)) n (wq38 s0 s1 s2 s3 s4) (konts (wqr k) k I [1, 0, 0] wq1f (outK (wqr k) wq4i [.tmp 2] (wq2t K))) = wq1x k  n s0 s1 s2 s3 s4 K := by
  intro n
  induction n with
  | zero => intros; rfl
  | succ n ih =>
    intro s0 s1 s2 s3 s4
    let I' : Nat → St → Option R := fun id s => bif Nat.beq id 1001 then iter (wqr k).pv (look (wqr k).cuts 1001) (execK (wqr k) k (at_ [1, 0, 0, 0] wq1f)) n s (konts (wqr k) k I [1, 0, 0] wq1f (outK (wqr k) wq4i [.tmp 2] (wq2t K))) else I id s
    have e := wqft k I' s0 s1 s2 s3 s4 K
    have h1001 : (fun s0 s1 s2 s3 s4 => I' 1001 (wq38 s0 s1 s2 s3 s4)) = (fun s0 s1 s2 s3 s4 => wq1x k  n s0 s1 s2 s3 s4 K) := by funext s0 s1 s2 s3 s4; exact ih s0 s1 s2 s3 s4
    refine Eq.trans (?_ : _ = _) (e.trans (Eq.trans ((congrArg ((fun E1001 => wq4n k E1001 s0 s1 s2 s3 s4 K)) h1001)) (by rw [wq1x])))
    rfl
noncomputable def wq3k (k : Nat) {R : Type} (x0 x1 : Int) (x2 : (List UInt8)) (x3 : Int) (x4 : (List (Int × (Int × (Int × ((List UInt8) × Bool)))))) (K : wq3r R) : Option R := wq9i k (fun s0 s1 s2 s3 s4 => wq1x k k s0 s1 s2 s3 s4 K) x0 x1 x2 x3 x4 K
theorem wqmw (k : Nat) {R : Type} (x0 x1 : Int) (x2 : (List UInt8)) (x3 : Int) (x4 : (List (Int × (Int × (Int × ((List UInt8) × Bool)))))) (K : wq3r R) : fnK (wqr k) k wq1f 44 [.tmp 2] wq4i [.ptr 1 0] [(21, .row 97 (.pr (.int .i64) (.pr (.int .i64) (.pr (.int .i64) (.pr .str .bool)))) x4), (1, .var 151 [.v (.int .i64) x0, .v (.int .i64) x1, .v .str x2, .v (.int .i64) x3, .row 21])] (wq2t K) = wq3k k x0 x1 x2 x3 x4 K := by
  let I : Nat → St → Option R := fun _ _ => none
  have h1001 : (fun s0 s1 s2 s3 s4 => iter (wqr k).pv (look (wqr k).cuts 1001) (execK (wqr k) k (at_ [1, 0, 0, 0] wq1f)) k (wq38 s0 s1 s2 s3 s4) (konts (wqr k) k I [1, 0, 0] wq1f (outK (wqr k) wq4i [.tmp 2] (wq2t K)))) = (fun s0 s1 s2 s3 s4 => wq1x k k s0 s1 s2 s3 s4 K) := by funext s0 s1 s2 s3 s4; exact wqfu k I K k s0 s1 s2 s3 s4
  exact (wqmv k I x0 x1 x2 x3 x4 K).trans (congrArg ((fun E1001 => wq9i k E1001 x0 x1 x2 x3 x4 K)) h1001)
noncomputable def wqaf (k : Nat) {R : Type} : List PV → List (Nm × HObj) → (Out → Option R) → Option R
  | [.ptr 1 0], [(21, .row 97 (.pr (.int .i64) (.pr (.int .i64) (.pr (.int .i64) (.pr .str .bool)))) x4), (1, .var 151 [.v (.int .i64) x0, .v (.int .i64) x1, .v .str x2, .v (.int .i64) x3, .row 21])], K => wq3k k x0 x1 x2 x3 x4 (fun y0 y1 y2 y3 y4 y5 => K (.ret [.v .str y5] [(21, .row 97 (.pr (.int .i64) (.pr (.int .i64) (.pr (.int .i64) (.pr .str .bool)))) y4), (1, .var 151 [.v (.int .i64) y0, .v (.int .i64) y1, .v .str y2, .v (.int .i64) y3, .row 21])]))
  | _, _, _ => none
theorem wqmx (k : Nat) : (wqhq k).Ok Tryz.prog := CTab.nil_ok
theorem wqs1 (k : Nat) {ps : List PV} {hp : List (Nm × HObj)} {R : Type} {K : Out → Option R} {r : R} (h : wqaf k ps hp K = some r) : DoesTo Tryz.prog 125 ps hp fun out => K out = some r := by
  unfold wqaf at h
  split at h
  · rw [← wqmw] at h
    have := fn_ok (P := Tryz.prog) (cx := wqr k) (f := 125) ⟨tyT_ok, wqmx k, fun _ _ => rfl⟩ (by kernel_rfl) (fn := Tryz.f125) (c := wq1f) (by kernel_rfl) (by kernel_rfl) (by kernel_rfl) (rs := [.tmp 2]) (by kernel_rfl) (by kernel_rfl) h
    exact this.mono fun out ho => by
      unfold wq2t at ho
      split at ho <;> first | exact ho | cases ho
  · cases h
end Go.Proofs.YtpfbdepoammjmaaGreatDoor.Pvm

set_option maxRecDepth 1000000
set_option maxHeartbeats 0
namespace Go.Proofs.YtpfbdepoammjmaaGreatDoor.Pvm
open Go Go.Proofs
def wqc6 : List LS := [.any, .any]
noncomputable def wqdo (k : Nat) : CTab := (CTab.add 144 wqdl (wq6h k) CTab.nil)
def wq6r {R : Type} (K : (Int → Option R)) : Out → Option R
  | .ret [.v (.int .i64) y0] [] => K y0
  | _ => none
def wqcv : RetSpec := ⟨[.any], [], []⟩
def wqhr : List (Nat × CutSpec) := []
def wqgx : List (Nat × Plan) := []
noncomputable def wq8r (k : Nat) : Ctx := ⟨tyT, wqhr, wqdo k, [], [], wqgx, @SH⟩
noncomputable def wq6s : Code := Tryz.f162.body.getD .skip
noncomputable def wqdp (k : Nat) {R : Type}  (x0 : (List UInt8)) (x1 : Int) (K : (Int → Option R)) : Option R := (@wq59 k R x0 x1 (fun y5 => (K y5)))
theorem wqhs (k : Nat) {R : Type} (I : Nat → St → Option R) (x0 : (List UInt8)) (x1 : Int) (K : (Int → Option R)) : fnK (wq8r k) k wq6s 8 [.tmp 4] wqcv [.v .str x0, .v (.int .u8) x1] [] (wq6r K) = wqdp k  x0 x1 K := by kernel_rfl
noncomputable def wq1o (k : Nat) {R : Type} (x0 : (List UInt8)) (x1 : Int) (K : (Int → Option R)) : Option R := wqdp k  x0 x1 K
theorem wqht (k : Nat) {R : Type} (x0 : (List UInt8)) (x1 : Int) (K : (Int → Option R)) : fnK (wq8r k) k wq6s 8 [.tmp 4] wqcv [.v .str x0, .v (.int .u8) x1] [] (wq6r K) = wq1o k x0 x1 K := by
  exact wqhs k (fun _ _ => none) x0 x1 K
noncomputable def wq5m (k : Nat) {R : Type} : List PV → List (Nm × HObj) → (Out → Option R) → Option R
  | [.v .str x0, .v (.int .u8) x1], [], K => wq1o k x0 x1 (fun y0 => K (.ret [.v (.int .i64) y0] []))
  | _, _, _ => none
theorem wqhu (k : Nat) : (wqdo k).Ok Tryz.prog := (CTab.add_ok (fun h => wqgl k h) CTab.nil_ok)
theorem wqdq (k : Nat) {ps : List PV} {hp : List (Nm × HObj)} {R : Type} {K : Out → Option R} {r : R} (h : wq5m k ps hp K = some r) : DoesTo Tryz.prog 162 ps hp fun out => K out = some r := by
  unfold wq5m at h
  split at h
  · rw [← wqht] at h
    have := fn_ok (P := Tryz.prog) (cx := wq8r k) (f := 162) ⟨tyT_ok, wqhu k, fun _ _ => rfl⟩ (by kernel_rfl) (fn := Tryz.f162) (c := wq6s) (by kernel_rfl) (by kernel_rfl) (by kernel_rfl) (rs := [.tmp 4]) (by kernel_rfl) (by kernel_rfl) h
    exact this.mono fun out ho => by
      unfold wq6r at ho
      split at ho <;> first | exact ho | cases ho
  · cases h
end Go.Proofs.YtpfbdepoammjmaaGreatDoor.Pvm

set_option maxRecDepth 1000000
set_option maxHeartbeats 0
namespace Go.Proofs.YtpfbdepoammjmaaGreatDoor.Pvm
open Go Go.Proofs
def wqmy : List LS := [.obj 1 [.any, .any, .any, .any, .own 21 97 (.pr (.int .i64) (.pr (.int .i64) (.pr (.int .i64) (.pr .str .bool))))], .any]
noncomputable def wqgq (k : Nat) : CTab := (CTab.add 124 wq5g (wq3j k) (CTab.add 162 wqc6 (wq5m k) CTab.nil))
def wq8s {R : Type} (K : (Int → Int → (List UInt8) → Int → (List (Int × (Int × (Int × ((List UInt8) × Bool))))) → Int → Int → Option R)) (E : (Int → Int → (List UInt8) → Int → (List (Int × (Int × (Int × ((List UInt8) × Bool))))) → Int → Int → Option R)) : Out → Option R
  | .ret [.v (.int .u8) y5, .v (.int .i64) y6] [(21, .row 97 (.pr (.int .i64) (.pr (.int .i64) (.pr (.int .i64) (.pr .str .bool)))) y4), (1, .var 151 [.v (.int .i64) y0, .v (.int .i64) y1, .v .str y2, .v (.int .i64) y3, .row 21])] => K y0 y1 y2 y3 y4 y5 y6
  | .pan (.ifc 28 (.agg [.v (.int .i64) z5, .v (.int .i64) z6])) [(21, .row 97 (.pr (.int .i64) (.pr (.int .i64) (.pr (.int .i64) (.pr .str .bool)))) z4), (1, .var 151 [.v (.int .i64) z0, .v (.int .i64) z1, .v .str z2, .v (.int .i64) z3, .row 21])] => E z0 z1 z2 z3 z4 z5 z6
  | _ => none
def wqf2 : RetSpec := ⟨[.any, .any], [(1, .obj 1 [.any, .any, .any, .any, .own 21 97 (.pr (.int .i64) (.pr (.int .i64) (.pr (.int .i64) (.pr .str .bool))))])], [(1, .obj 1 [.any, .any, .any, .any, .own 21 97 (.pr (.int .i64) (.pr (.int .i64) (.pr (.int .i64) (.pr .str .bool))))])]⟩
def wqli : List (Nat × CutSpec) := []
def wqjg : List (Nat × Plan) := [(14, (.of [(0, 1), (1, 1), (3, 1), (4, 1), (2, 0), (5, 0), (6, 1), (7, 1)] .done))]
noncomputable def wqag (k : Nat) : Ctx := ⟨tyT, wqli, wqgq k, [], [1], wqjg, @SH⟩
noncomputable def wq8t : Code := Tryz.f178.body.getD .skip
noncomputable def wqbs (k : Nat) {R : Type}  (x0 x1 : Int) (x2 : (List UInt8)) (x3 : Int) (x4 : (List (Int × (Int × (Int × ((List UInt8) × Bool)))))) (x5 : (List UInt8)) (K : (Int → Int → (List UInt8) → Int → (List (Int × (Int × (Int × ((List UInt8) × Bool))))) → Int → Int → Option R)) (E : (Int → Int → (List UInt8) → Int → (List (Int × (Int × (Int × ((List UInt8) × Bool))))) → Int → Int → Option R)) : Option R := (@cond (@Option R) (@BEq.beq (@List UInt8) (@List.instBEq UInt8 (@instBEqOfDecidableEq UInt8 @instDecidableEqUInt8)) x5 []) (@wqa k R x0 x1 x2 x3 x4 (3 : Int) (fun y10 y11 y12 y13 y14 => (@cond (@Option R) (@inb (0 : Int) (@Nat.cast Int instNatCastInt (@List.length UInt8 x5))) (@cond (@Option R) (@BEq.beq Int (@instBEqOfDecidableEq Int @Int.instDecidableEq) (@Nat.cast Int instNatCastInt (@UInt8.toNat (@List.getD UInt8 x5 (@Int.toNat (0 : Int)) (0 : UInt8)))) (92 : Int)) (@cond (@Option R) (@inb (0 : Int) (@Nat.cast Int instNatCastInt (@List.length UInt8 x5))) (K y10 y11 y12 y13 y14 (@Nat.cast Int instNatCastInt (@UInt8.toNat (@List.getD UInt8 x5 (@Int.toNat (0 : Int)) (0 : UInt8)))) (1 : Int)) (@Option.none R)) (@cond (@Option R) (@BEq.beq Int (@instBEqOfDecidableEq Int @Int.instDecidableEq) (@Nat.cast Int instNatCastInt (@UInt8.toNat (@List.getD UInt8 x5 (@Int.toNat (0 : Int)) (0 : UInt8)))) (34 : Int)) (@cond (@Option R) (@inb (0 : Int) (@Nat.cast Int instNatCastInt (@List.length UInt8 x5))) (K y10 y11 y12 y13 y14 (@Nat.cast Int instNatCastInt (@UInt8.toNat (@List.getD UInt8 x5 (@Int.toNat (0 : Int)) (0 : UInt8)))) (1 : Int)) (@Option.none R)) (@cond (@Option R) (@BEq.beq Int (@instBEqOfDecidableEq Int @Int.instDecidableEq) (@Nat.cast Int instNatCastInt (@UInt8.toNat (@List.getD UInt8 x5 (@Int.toNat (0 : Int)) (0 : UInt8)))) (110 : Int)) (K y10 y11 y12 y13 y14 (10 : Int) (1 : Int)) (@cond (@Option R) (@BEq.beq Int (@instBEqOfDecidableEq Int @Int.instDecidableEq) (@Nat.cast Int instNatCastInt (@UInt8.toNat (@List.getD UInt8 x5 (@Int.toNat (0 : Int)) (0 : UInt8)))) (116 : Int)) (K y10 y11 y12 y13 y14 (9 : Int) (1 : Int)) (@cond (@Option R) (@BEq.beq Int (@instBEqOfDecidableEq Int @Int.instDecidableEq) (@Nat.cast Int instNatCastInt (@UInt8.toNat (@List.getD UInt8 x5 (@Int.toNat (0 : Int)) (0 : UInt8)))) (120 : Int)) (@cond (@Option R) (@Decidable.decide (@LT.lt Int Int.instLTInt (@Nat.cast Int instNatCastInt (@List.length UInt8 x5)) (3 : Int)) (@Int.decLt (@Nat.cast Int instNatCastInt (@List.length UInt8 x5)) (3 : Int))) (@wqa k R y10 y11 y12 y13 y14 (3 : Int) (fun y15 y16 y17 y18 y19 => (@cond (@Option R) (@inb (1 : Int) (@Nat.cast Int instNatCastInt (@List.length UInt8 x5))) (@cond (@Option R) (@inb (2 : Int) (@Nat.cast Int instNatCastInt (@List.length UInt8 x5))) (@wq1o k R ((48 : UInt8) :: ((49 : UInt8) :: ((50 : UInt8) :: ((51 : UInt8) :: ((52 : UInt8) :: ((53 : UInt8) :: ((54 : UInt8) :: ((55 : UInt8) :: ((56 : UInt8) :: ((57 : UInt8) :: ((97 : UInt8) :: ((98 : UInt8) :: ((99 : UInt8) :: ((100 : UInt8) :: ((101 : UInt8) :: ((102 : UInt8) :: [])))))))))))))))) (@Nat.cast Int instNatCastInt (@UInt8.toNat (@List.getD UInt8 x5 (@Int.toNat (1 : Int)) (0 : UInt8)))) (fun y20 => (@wq1o k R ((48 : UInt8) :: ((49 : UInt8) :: ((50 : UInt8) :: ((51 : UInt8) :: ((52 : UInt8) :: ((53 : UInt8) :: ((54 : UInt8) :: ((55 : UInt8) :: ((56 : UInt8) :: ((57 : UInt8) :: ((97 : UInt8) :: ((98 : UInt8) :: ((99 : UInt8) :: ((100 : UInt8) :: ((101 : UInt8) :: ((102 : UInt8) :: [])))))))))))))))) (@Nat.cast Int instNatCastInt (@UInt8.toNat (@List.getD UInt8 x5 (@Int.toNat (2 : Int)) (0 : UInt8)))) (fun y21 => (@cond (@Option R) (@cond (@Kd.T Kd.bool) (@Decidable.decide (@LT.lt Int Int.instLTInt y20 (0 : Int)) (@Int.decLt y20 (0 : Int))) Bool.true (@Decidable.decide (@LT.lt Int Int.instLTInt y21 (0 : Int)) (@Int.decLt y21 (0 : Int)))) (@wqa k R y15 y16 y17 y18 y19 (3 : Int) (fun y22 y23 y24 y25 y26 => (K y22 y23 y24 y25 y26 (@Go.IntKind.wrap Go.IntKind.u8 (@Go.IntKind.wrap Go.IntKind.i64 (@HAdd.hAdd Int Int Int (@instHAdd Int @Int.instAdd) (@Go.IntKind.wrap Go.IntKind.i64 (@HMul.hMul Int Int Int (@instHMul Int @Int.instMul) (16 : Int) y20)) y21))) (3 : Int))) (fun y22 y23 y24 y25 y26 y27 y28 => (E y22 y23 y24 y25 y26 y27 y28))) (K y15 y16 y17 y18 y19 (@Go.IntKind.wrap Go.IntKind.u8 (@Go.IntKind.wrap Go.IntKind.i64 (@HAdd.hAdd Int Int Int (@instHAdd Int @Int.instAdd) (@Go.IntKind.wrap Go.IntKind.i64 (@HMul.hMul Int Int Int (@instHMul Int @Int.instMul) (16 : Int) y20)) y21))) (3 : Int))))))) (@Option.none R)) (@Option.none R))) (fun y15 y16 y17 y18 y19 y20 y21 => (E y15 y16 y17 y18 y19 y20 y21))) (@cond (@Option R) (@inb (1 : Int) (@Nat.cast Int instNatCastInt (@List.length UInt8 x5))) (@cond (@Option R) (@inb (2 : Int) (@Nat.cast Int instNatCastInt (@List.length UInt8 x5))) (@wq1o k R ((48 : UInt8) :: ((49 : UInt8) :: ((50 : UInt8) :: ((51 : UInt8) :: ((52 : UInt8) :: ((53 : UInt8) :: ((54 : UInt8) :: ((55 : UInt8) :: ((56 : UInt8) :: ((57 : UInt8) :: ((97 : UInt8) :: ((98 : UInt8) :: ((99 : UInt8) :: ((100 : UInt8) :: ((101 : UInt8) :: ((102 : UInt8) :: [])))))))))))))))) (@Nat.cast Int instNatCastInt (@UInt8.toNat (@List.getD UInt8 x5 (@Int.toNat (1 : Int)) (0 : UInt8)))) (fun y15 => (@wq1o k R ((48 : UInt8) :: ((49 : UInt8) :: ((50 : UInt8) :: ((51 : UInt8) :: ((52 : UInt8) :: ((53 : UInt8) :: ((54 : UInt8) :: ((55 : UInt8) :: ((56 : UInt8) :: ((57 : UInt8) :: ((97 : UInt8) :: ((98 : UInt8) :: ((99 : UInt8) :: ((100 : UInt8) :: ((101 : UInt8) :: ((102 : UInt8) :: [])))))))))))))))) (@Nat.cast Int instNatCastInt (@UInt8.toNat (@List.getD UInt8 x5 (@Int.toNat (2 : Int)) (0 : UInt8)))) (fun y16 => (@cond (@Option R) (@cond (@Kd.T Kd.bool) (@Decidable.decide (@LT.lt Int Int.instLTInt y15 (0 : Int)) (@Int.decLt y15 (0 : Int))) Bool.true (@Decidable.decide (@LT.lt Int Int.instLTInt y16 (0 : Int)) (@Int.decLt y16 (0 : Int)))) (@wqa k R y10 y11 y12 y13 y14 (3 : Int) (fun y17 y18 y19 y20 y21 => (K y17 y18 y19 y20 y21 (@Go.IntKind.wrap Go.IntKind.u8 (@Go.IntKind.wrap Go.IntKind.i64 (@HAdd.hAdd Int Int Int (@instHAdd Int @Int.instAdd) (@Go.IntKind.wrap Go.IntKind.i64 (@HMul.hMul Int Int Int (@instHMul Int @Int.instMul) (16 : Int) y15)) y16))) (3 : Int))) (fun y17 y18 y19 y20 y21 y22 y23 => (E y17 y18 y19 y20 y21 y22 y23))) (K y10 y11 y12 y13 y14 (@Go.IntKind.wrap Go.IntKind.u8 (@Go.IntKind.wrap Go.IntKind.i64 (@HAdd.hAdd Int Int Int (@instHAdd Int @Int.instAdd) (@Go.IntKind.wrap Go.IntKind.i64 (@HMul.hMul Int Int Int (@instHMul Int @Int.instMul) (16 : Int) y15)) y16))) (3 : Int))))))) (@Option.none R)) (@Option.none R))) (@wqa k R y10 y11 y12 y13 y14 (3 : Int) (fun y15 y16 y17 y18 y19 => (K y15 y16 y17 y18 y19 (0 : Int) (0 : Int))) (fun y15 y16 y17 y18 y19 y20 y21 => (E y15 y16 y17 y18 y19 y20 y21)))))))) (@Option.none R))) (fun y10 y11 y12 y13 y14 y15 y16 => (E y10 y11 y12 y13 y14 y15 y16))) (@cond (@Option R) (@inb (0 : Int) (@Nat.cast Int instNatCastInt (@List.length UInt8 x5))) (@cond (@Option R) (@BEq.beq Int (@instBEqOfDecidableEq Int @Int.instDecidableEq) (@Nat.cast Int instNatCastInt (@UInt8.toNat (@List.getD UInt8 x5 (@Int.toNat (0 : Int)) (0 : UInt8)))) (92 : Int)) (@cond (@Option R) (@inb (0 : Int) (@Nat.cast Int instNatCastInt (@List.length UInt8 x5))) (K x0 x1 x2 x3 x4 (@Nat.cast Int instNatCastInt (@UInt8.toNat (@List.getD UInt8 x5 (@Int.toNat (0 : Int)) (0 : UInt8)))) (1 : Int)) (@Option.none R)) (@cond (@Option R) (@BEq.beq Int (@instBEqOfDecidableEq Int @Int.instDecidableEq) (@Nat.cast Int instNatCastInt (@UInt8.toNat (@List.getD UInt8 x5 (@Int.toNat (0 : Int)) (0 : UInt8)))) (34 : Int)) (@cond (@Option R) (@inb (0 : Int) (@Nat.cast Int instNatCastInt (@List.length UInt8 x5))) (K x0 x1 x2 x3 x4 (@Nat.cast Int instNatCastInt (@UInt8.toNat (@List.getD UInt8 x5 (@Int.toNat (0 : Int)) (0 : UInt8)))) (1 : Int)) (@Option.none R)) (@cond (@Option R) (@BEq.beq Int (@instBEqOfDecidableEq Int @Int.instDecidableEq) (@Nat.cast Int instNatCastInt (@UInt8.toNat (@List.getD UInt8 x5 (@Int.toNat (0 : Int)) (0 : UInt8)))) (110 : Int)) (K x0 x1 x2 x3 x4 (10 : Int) (1 : Int)) (@cond (@Option R) (@BEq.beq Int (@instBEqOfDecidableEq Int @Int.instDecidableEq) (@Nat.cast Int instNatCastInt (@UInt8.toNat (@List.getD UInt8 x5 (@Int.toNat (0 : Int)) (0 : UInt8)))) (116 : Int)) (K x0 x1 x2 x3 x4 (9 : Int) (1 : Int)) (@cond (@Option R) (@BEq.beq Int (@instBEqOfDecidableEq Int @Int.instDecidableEq) (@Nat.cast Int instNatCastInt (@UInt8.toNat (@List.getD UInt8 x5 (@Int.toNat (0 : Int)) (0 : UInt8)))) (120 : Int)) (@cond (@Option R) (@Decidable.decide (@LT.lt Int Int.instLTInt (@Nat.cast Int instNatCastInt (@List.length UInt8 x5)) (3 : Int)) (@Int.decLt (@Nat.cast Int instNatCastInt (@List.length UInt8 x5)) (3 : Int))) (@wqa k R x0 x1 x2 x3 x4 (3 : Int) (fun y10 y11 y12 y13 y14 => (@cond (@Option R) (@inb (1 : Int) (@Nat.cast Int instNatCastInt (@List.length UInt8 x5))) (@cond (@Option R) (@inb (2 : Int) (@Nat.cast Int instNatCastInt (@List.length UInt8 x5))) (@wq1o k R ((48 : UInt8) :: ((49 : UInt8) :: ((50 : UInt8) :: ((51 : UInt8) :: ((52 : UInt8) :: ((53 : UInt8) :: ((54 : UInt8) :: ((55 : UInt8) :: ((56 : UInt8) :: ((57 : UInt8) :: ((97 : UInt8) :: ((98 : UInt8) :: ((99 : UInt8) :: ((100 : UInt8) :: ((101 : UInt8) :: ((102 : UInt8) :: [])))))))))))))))) (@Nat.cast Int instNatCastInt (@UInt8.toNat (@List.getD UInt8 x5 (@Int.toNat (1 : Int)) (0 : UInt8)))) (fun y15 => (@wq1o k R ((48 : UInt8) :: ((49 : UInt8) :: ((50 : UInt8) :: ((51 : UInt8) :: ((52 : UInt8) :: ((53 : UInt8) :: ((54 : UInt8) :: ((55 : UInt8) :: ((56 : UInt8) :: ((57 : UInt8) :: ((97 : UInt8) :: ((98 : UInt8) :: ((99 : UInt8) :: ((100 : UInt8) :: ((101 : UInt8) :: ((102 : UInt8) :: [])))))))))))))))) (@Nat.cast Int instNatCastInt (@UInt8.toNat (@List.getD UInt8 x5 (@Int.toNat (2 : Int)) (0 : UInt8)))) (fun y16 => (@cond (@Option R) (@cond (@Kd.T Kd.bool) (@Decidable.decide (@LT.lt Int Int.instLTInt y15 (0 : Int)) (@Int.decLt y15 (0 : Int))) Bool.true (@Decidable.decide (@LT.lt Int Int.instLTInt y16 (0 : Int)) (@Int.decLt y16 (0 : Int)))) (@wqa k R y10 y11 y12 y13 y14 (3 : Int) (fun y17 y18 y19 y20 y21 => (K y17 y18 y19 y20 y21 (@Go.IntKind.wrap Go.IntKind.u8 (@Go.IntKind.wrap Go.IntKind.i64 (@HAdd.hAdd Int Int Int (@instHAdd Int @Int.instAdd) (@Go.IntKind.wrap Go.IntKind.i64 (@HMul.hMul Int Int Int (@instHMul Int @Int.instMul) (16 : Int) y15)) y16))) (3 : Int))) (fun y17 y18 y19 y20 y21 y22 y23 => (E y17 y18 y19 y20 y21 y22 y23))) (K y10 y11 y12 y13 y14 (@Go.IntKind.wrap Go.IntKind.u8 (@Go.IntKind.wrap Go.IntKind.i64 (@HAdd.hAdd Int Int Int (@instHAdd Int @Int.instAdd) (@Go.IntKind.wrap Go.IntKind.i64 (@HMul.hMul Int Int Int (@instHMul Int @Int.instMul) (16 : Int) y15)) y16))) (3 : Int))))))) (@Option.none R)) (@Option.none R))) (fun y10 y11 y12 y13 y14 y15 y16 => (E y10 y11 y12 y13 y14 y15 y16))) (@cond (@Option R) (@inb (1 : Int) (@Nat.cast Int instNatCastInt (@List.length UInt8 x5))) (@cond (@Option R) (@inb (2 : Int) (@Nat.cast Int instNatCastInt (@List.length UInt8 x5))) (@wq1o k R ((48 : UInt8) :: ((49 : UInt8) :: ((50 : UInt8) :: ((51 : UInt8) :: ((52 : UInt8) :: ((53 : UInt8) :: ((54 : UInt8) :: ((55 : UInt8) :: ((56 : UInt8) :: ((57 : UInt8) :: ((97 : UInt8) :: ((98 : UInt8) :: ((99 : UInt8) :: ((100 : UInt8) :: ((101 : UInt8) :: ((102 : UInt8) :: [])))))))))))))))) (@Nat.cast Int instNatCastInt (@UInt8.toNat (@List.getD UInt8 x5 (@Int.toNat (1 : Int)) (0 : UInt8)))) (fun y10 => (@wq1o k R ((48 : UInt8) :: ((49 : UInt8) :: ((50 : UInt8) :: ((51 : UInt8) :: ((52 : UInt8) :: ((53 : UInt8) :: ((54 : UInt8) :: ((55 : UInt8) :: ((56 : UInt8) :: ((57 : UInt8) :: ((97 : UInt8) :: ((98 : UInt8) :: ((99 : UInt8) :: ((100 : UInt8) :: ((101 : UInt8) :: ((102 : UInt8) :: [])))))))))))))))) (@Nat.cast Int instNatCastInt (@UInt8.toNat (@List.getD UInt8 x5 (@Int.toNat (2 : Int)) (0 : UInt8)))) (fun y11 => (@cond (@Option R) (@cond (@Kd.T Kd.bool) (@Decidable.decide (@LT.lt Int Int.instLTInt y10 (0 : Int)) (@Int.decLt y10 (0 : Int))) Bool.true (@Decidable.decide (@LT.lt Int Int.instLTInt y11 (0 : Int)) (@Int.decLt y11 (0 : Int)))) (@wqa k R x0 x1 x2 x3 x4 (3 : Int) (fun y12 y13 y14 y15 y16 => (K y12 y13 y14 y15 y16 (@Go.IntKind.wrap Go.IntKind.u8 (@Go.IntKind.wrap Go.IntKind.i64 (@HAdd.hAdd Int Int Int (@instHAdd Int @Int.instAdd) (@Go.IntKind.wrap Go.IntKind.i64 (@HMul.hMul Int Int Int (@instHMul Int @Int.instMul) (16 : Int) y10)) y11))) (3 : Int))) (fun y12 y13 y14 y15 y16 y17 y18 => (E y12 y13 y14 y15 y16 y17 y18))) (K x0 x1 x2 x3 x4 (@Go.IntKind.wrap Go.IntKind.u8 (@Go.IntKind.wrap Go.IntKind.i64 (@HAdd.hAdd Int Int Int (@instHAdd Int @Int.instAdd) (@Go.IntKind.wrap Go.IntKind.i64 (@HMul.hMul Int Int Int (@instHMul Int @Int.instMul) (16 : Int) y10)) y11))) (3 : Int))))))) (@Option.none R)) (@Option.none R))) (@wqa k R x0 x1 x2 x3 x4 (3 : Int) (fun y10 y11 y12 y13 y14 => (K y10 y11 y12 y13 y14 (0 : Int) (0 : Int))) (fun y10 y11 y12 y13 y14 y15 y16 => (E y10 y11 y12 y13 y14 y15 y16)))))))) (@Option.none R)))
theorem wqlj (k : Nat) {R : Type} (I : Nat → St → Option R) (x0 x1 : Int) (x2 : (List UInt8)) (x3 : Int) (x4 : (List (Int × (Int × (Int × ((List UInt8) × Bool)))))) (x5 : (List UInt8)) (K : (Int → Int → (List UInt8) → Int → (List (Int × (Int × (Int × ((List UInt8) × Bool))))) → Int → Int → Option R)) (E : (Int → Int → (List UInt8) → Int → (List (Int × (Int × (Int × ((List UInt8) × Bool))))) → Int → Int → Option R)) : fnK (wqag k) k wq8t 51 [.tmp 4, .tmp 5] wqf2 [.ptr 1 0, .v .str x5] [(21, .row 97 (.pr (.int .i64) (.pr (.int .i64) (.pr (.int .i64) (.pr .str .bool)))) x4), (1, .var 151 [.v (.int .i64) x0, .v (.int .i64) x1, .v .str x2, .v (.int .i64) x3, .row 21])] (wq8s K E) = wqbs k  x0 x1 x2 x3 x4 x5 K E := by kernel_rfl
noncomputable def wq6a (k : Nat) {R : Type} (x0 x1 : Int) (x2 : (List UInt8)) (x3 : Int) (x4 : (List (Int × (Int × (Int × ((List UInt8) × Bool)))))) (x5 : (List UInt8)) (K : (Int → Int → (List UInt8) → Int → (List (Int × (Int × (Int × ((List UInt8) × Bool))))) → Int → Int → Option R)) (E : (Int → Int → (List UInt8) → Int → (List (Int × (Int × (Int × ((List UInt8) × Bool))))) → Int → Int → Option R)) : Option R := wqbs k  x0 x1 x2 x3 x4 x5 K E
theorem wqlk (k : Nat) {R : Type} (x0 x1 : Int) (x2 : (List UInt8)) (x3 : Int) (x4 : (List (Int × (Int × (Int × ((List UInt8) × Bool)))))) (x5 : (List UInt8)) (K : (Int → Int → (List UInt8) → Int → (List (Int × (Int × (Int × ((List UInt8) × Bool))))) → Int → Int → Option R)) (E : (Int → Int → (List UInt8) → Int → (List (Int × (Int × (Int × ((List UInt8) × Bool))))) → Int → Int → Option R)) : fnK (wqag k) k wq8t 51 [.tmp 4, .tmp 5] wqf2 [.ptr 1 0, .v .str x5] [(21, .row 97 (.pr (.int .i64) (.pr (.int .i64) (.pr (.int .i64) (.pr .str .bool)))) x4), (1, .var 151 [.v (.int .i64) x0, .v (.int .i64) x1, .v .str x2, .v (.int .i64) x3, .row 21])] (wq8s K E) = wq6a k x0 x1 x2 x3 x4 x5 K E := by
  exact wqlj k (fun _ _ => none) x0 x1 x2 x3 x4 x5 K E
noncomputable def wq9j (k : Nat) {R : Type} : List PV → List (Nm × HObj) → (Out → Option R) → Option R
  | [.ptr 1 0, .v .str x5], [(21, .row 97 (.pr (.int .i64) (.pr (.int .i64) (.pr (.int .i64) (.pr .str .bool)))) x4), (1, .var 151 [.v (.int .i64) x0, .v (.int .i64) x1, .v .str x2, .v (.int .i64) x3, .row 21])], K => wq6a k x0 x1 x2 x3 x4 x5 (fun y0 y1 y2 y3 y4 y5 y6 => K (.ret [.v (.int .u8) y5, .v (.int .i64) y6] [(21, .row 97 (.pr (.int .i64) (.pr (.int .i64) (.pr (.int .i64) (.pr .str .bool)))) y4), (1, .var 151 [.v (.int .i64) y0, .v (.int .i64) y1, .v .str y2, .v (.int .i64) y3, .row 21])])) (fun z0 z1 z2 z3 z4 z5 z6 => K (.pan (.ifc 28 (.agg [.v (.int .i64) z5, .v (.int .i64) z6])) [(21, .row 97 (.pr (.int .i64) (.pr (.int .i64) (.pr (.int .i64) (.pr .str .bool)))) z4), (1, .var 151 [.v (.int .i64) z0, .v (.int .i64) z1, .v .str z2, .v (.int .i64) z3, .row 21])]))
  | _, _, _ => none
theorem wqll (k : Nat) : (wqgq k).Ok Tryz.prog := (CTab.add_ok (fun h => wq69 k h) (CTab.add_ok (fun h => wqdq k h) CTab.nil_ok))
theorem wqpy (k : Nat) {ps : List PV} {hp : List (Nm × HObj)} {R : Type} {K : Out → Option R} {r : R} (h : wq9j k ps hp K = some r) : DoesTo Tryz.prog 178 ps hp fun out => K out = some r := by
  unfold wq9j at h
  split at h
  · rw [← wqlk] at h
    have := fn_ok (P := Tryz.prog) (cx := wqag k) (f := 178) ⟨tyT_ok, wqll k, fun _ _ => rfl⟩ (by kernel_rfl) (fn := Tryz.f178) (c := wq8t) (by kernel_rfl) (by kernel_rfl) (by kernel_rfl) (rs := [.tmp 4, .tmp 5]) (by kernel_rfl) (by kernel_rfl) h
    exact this.mono fun out ho => by
      unfold wq8s at ho
      split at ho <;> first | exact ho | cases ho
  · cases h
end Go.Proofs.YtpfbdepoammjmaaGreatDoor.Pvm

set_option maxHeartbeats 2000000
set_option maxRecDepth 100000
namespace Go.Proofs.YtpfbdepoammjmaaGreatDoor.Pvm
open Go Go.Proofs Go.RowKit
theorem wqyi (b g cap : Nat) (p : Value) (l : List UInt8) (cur : Array Value) (w : World) (hbk : w.heap[b]? = some (.cells #[p, .slice (some ⟨g, 0, none⟩) l.length cap] 85 (0, 0))) (h0 : l ≠ [])
    (hg : w.heap[g]? = some (.cells cur 5 (0, 0))) (hnc : l.length ≤ cap) (hcm : cap ≤ maxLen) (hcs : cur.size = cap) (htake : ∀ (j : Nat) (x : UInt8), l[j]? = some x → w.cell? ⟨g, j, none⟩ = some (.int .u8 x.toNat)) :
    Calls Tryz.prog 40 #[.pointer (some ⟨b, 0, none⟩)] w fun e w' => e = .returned (.string ⟨l.toArray⟩) ∧ w' = w.drew.freeze ⟨g, 0, none⟩ l.length := by
  have hl0 : l.length ≠ 0 := by simpa using h0
  have mixed : Tryz.prog.follows .mixedOrders = true := by kernel_rfl
  have t86 : Tryz.prog.underlying 135 = some (.pointer 5) := by kernel_rfl
  have c1 : w.drew.cell? ⟨b, 1, none⟩ = some (.slice (some ⟨g, 0, none⟩) l.length cap) := by
    have : w.drew.heap[b]? = some (.cells #[p, .slice (some ⟨g, 0, none⟩) l.length cap] 85 (0, 0)) := hbk
    rw [Lib.cell_of_heap this]; rfl
  have hSD : (Builtin.unsafeSliceData_ #[22] 135 #[.slice (some ⟨g, 0, none⟩) l.length cap]).run Tryz.prog w.drew = .ok (.pointer (some ⟨g, 0, none⟩)) w.drew :=
    Lib.run_unsafeSliceData_row _ _ _ _ _ _ (by omega)
  have hUS : (Builtin.unsafeString_ #[135, 3] 9 #[.pointer (some ⟨g, 0, none⟩), .int .i64 l.length]).run Tryz.prog w.drew = .ok (.string ⟨l.toArray⟩) (w.drew.freeze ⟨g, 0, none⟩ l.length) := by
    refine Lib.run_unsafeString_row w.drew 135 3 9 5 t86 (by kernel_rfl) g cur.size (by have hg' : w.drew.heap[g]? = some (.cells cur 5 (0, 0)) := hg; simp [World.shape?, hg']) l h0 (by omega) (by unfold maxLen at hcm; omega) ?_
    intro j x hx
    have := htake j x hx
    rw [show (⟨g, 0, none⟩ : Addr).add j = ⟨g, j, none⟩ by simp [Addr.add]; omega]
    exact this
  go_enter Tryz.func40, Tryz.ntmps40
  go_wp2
  go_region_o
  all_goals (go_wp2; go_ret; exact ⟨rfl, rfl⟩)
end Go.Proofs.YtpfbdepoammjmaaGreatDoor.Pvm

set_option maxHeartbeats 2000000
set_option maxRecDepth 100000
namespace Go.Proofs.YtpfbdepoammjmaaGreatDoor.Pvm
open Go Go.Proofs Go.RowKit
theorem uS_none (W : World) (q : Option Addr) : (Builtin.unsafeString_ #[135, 3] 9 #[.pointer q, .int .i64 0]).run Tryz.prog W = .ok (.string .empty) W :=
  Lib.run_unsafeString_none W _ _ _ q
theorem wq11d (b : Nat) (p : Value) (w : World) (hbk : w.heap[b]? = some (.cells #[p, .slice none 0 0] 85 (0, 0))) :
    Calls Tryz.prog 40 #[.pointer (some ⟨b, 0, none⟩)] w fun e w' => e = .returned (.string ⟨#[]⟩) ∧ w' = w.drew := by
  have hUS := uS_none
  have mixed : Tryz.prog.follows .mixedOrders = true := by kernel_rfl
  have c1 : w.drew.cell? ⟨b, 1, none⟩ = some (.slice none 0 0) := by
    have : w.drew.heap[b]? = some (.cells #[p, .slice none 0 0] 85 (0, 0)) := hbk
    rw [Lib.cell_of_heap this]; rfl
  have hSD : (Builtin.unsafeSliceData_ #[22] 135 #[.slice none 0 0]).run Tryz.prog w.drew = .ok (.pointer none) w.drew := rfl
  go_enter Tryz.func40, Tryz.ntmps40
  go_wp2
  go_region_o
  all_goals (go_wp2; go_ret; exact ⟨rfl, rfl⟩)
theorem wq10l (b g cap : Nat) (p : Value) (w : World) (hc0 : cap ≠ 0) (hbk : w.heap[b]? = some (.cells #[p, .slice (some ⟨g, 0, none⟩) 0 cap] 85 (0, 0))) :
    Calls Tryz.prog 40 #[.pointer (some ⟨b, 0, none⟩)] w fun e w' => e = .returned (.string ⟨#[]⟩) ∧ w' = w.drew := by
  have hUS := uS_none
  have mixed : Tryz.prog.follows .mixedOrders = true := by kernel_rfl
  have c1 : w.drew.cell? ⟨b, 1, none⟩ = some (.slice (some ⟨g, 0, none⟩) 0 cap) := by
    have : w.drew.heap[b]? = some (.cells #[p, .slice (some ⟨g, 0, none⟩) 0 cap] 85 (0, 0)) := hbk
    rw [Lib.cell_of_heap this]; rfl
  have hSD : (Builtin.unsafeSliceData_ #[22] 135 #[.slice (some ⟨g, 0, none⟩) 0 cap]).run Tryz.prog w.drew = .ok (.pointer (some ⟨g, 0, none⟩)) w.drew :=
    Lib.run_unsafeSliceData_row _ _ _ _ _ _ hc0
  clear hc0
  go_enter Tryz.func40, Tryz.ntmps40
  go_wp2
  go_region_o
  all_goals (go_wp2; go_ret; exact ⟨rfl, rfl⟩)
end Go.Proofs.YtpfbdepoammjmaaGreatDoor.Pvm

set_option maxHeartbeats 2000000
set_option maxRecDepth 100000
namespace Go.Proofs.YtpfbdepoammjmaaGreatDoor.Pvm
open Go Go.Proofs Go.RowKit
theorem wqxg (b g : Nat) (p : Value) (cur : Array Value) (w : World) (hbk : w.heap[b]? = some (.cells #[p, .slice (some ⟨g, 0, none⟩) 0 0] 85 (0, 0))) (hg : w.heap[g]? = some (.cells cur 5 (0, 0))) :
    Calls Tryz.prog 40 #[.pointer (some ⟨b, 0, none⟩)] w fun e w' => e = .returned (.string ⟨#[]⟩) ∧ ∃ o, w' = (w.alloc o).drew := by
  have hUS := uS_none
  have hlt : b < w.heap.size := (Array.getElem?_eq_some_iff.1 hbk).1
  have mixed : Tryz.prog.follows .mixedOrders = true := by kernel_rfl
  have c1 : w.drew.cell? ⟨b, 1, none⟩ = some (.slice (some ⟨g, 0, none⟩) 0 0) := by
    have : w.drew.heap[b]? = some (.cells #[p, .slice (some ⟨g, 0, none⟩) 0 0] 85 (0, 0)) := hbk
    rw [Lib.cell_of_heap this]; rfl
  have hSD : (Builtin.unsafeSliceData_ #[22] 135 #[.slice (some ⟨g, 0, none⟩) 0 0]).run Tryz.prog w.drew = .ok (.pointer (some ⟨w.drew.heap.size, 0, none⟩)) (w.drew.alloc (.view ⟨g, 0, none⟩ 5)) :=
    Lib.run_unsafeSliceData_zero w.drew _ _ 5 (by kernel_rfl) ⟨g, 0, none⟩ 0 (5, cur.size) (by have hg' : w.drew.heap[g]? = some (.cells cur 5 (0, 0)) := hg; simp [World.shape?, hg'])
  have c2 : (w.drew.alloc (.view ⟨g, 0, none⟩ 5)).cell? ⟨b, 1, none⟩ = some (.slice (some ⟨g, 0, none⟩) 0 0) := by
    have : (w.drew.alloc (.view ⟨g, 0, none⟩ 5)).heap[b]? = _ := (Lib.alloc_old w.drew _ b hlt).trans hbk
    rw [Lib.cell_of_heap this]; rfl
  have c3 : (w.alloc (.view ⟨g, 0, none⟩ 5)).drew.cell? ⟨b, 1, none⟩ = some (.slice (some ⟨g, 0, none⟩) 0 0) := c2
  have c0 : w.cell? ⟨b, 1, none⟩ = some (.slice (some ⟨g, 0, none⟩) 0 0) := c1
  go_enter Tryz.func40, Tryz.ntmps40
  go_wp2
  go_region_o
  all_goals (go_wp2; go_ret; exact ⟨rfl, _, rfl⟩)
def allB : List Int → Bool
  | [] => true
  | x :: r => decide (0 ≤ x) && decide (x < 256) && allB r
def wq5k : List LS := [.obj 1 [.nps 1, .own 21 5 (.int .u8)]]
def wq26 (k : Nat) {R : Type} (x0 : List Int) (K : List Int → List UInt8 → Option R) : Option R := bif allB x0 then K x0 (ofBytes x0) else none
def wq31 (k : Nat) {R : Type} : List PV → List (Nm × HObj) → (Out → Option R) → Option R
  | [.ptr 1 0], [(21, .row 5 (.int .u8) x0), (1, .var 85 [.nps 1, .row 21])], K => wq26 k x0 (fun y0 y1 => K (.ret [.v .str y1] [(1, .var 85 [.nps 1, .v (.sl (.int .u8)) y0])]))
  | _, _, _ => none
theorem wqbb (vs : Array Value) (w : World) : (callFunc 40 vs).run Tryz.prog w = .ok (.enter 40 vs) w := by
  have h1 : Tryz.prog.funcs[40]? = some Tryz.f40 := by kernel_rfl
  have h2 : (Tryz.f40.name == "runtime.NumGoroutine") = false := by kernel_rfl
  have h3 : Tryz.f40.body.isNone = false := by kernel_rfl
  unfold callFunc
  rw [Sem.run_bind]
  have e2 : (program).run Tryz.prog w = .ok Tryz.prog w := rfl
  rw [e2, Result.andThen_ok, h1]
  simp only [h2, h3, Bool.false_eq_true, if_false]
  rfl
theorem allB_at : ∀ {l : List Int}, allB l = true → ∀ (i : Nat) (y : Int), l[i]? = some y → 0 ≤ y ∧ y < 256
  | [], _, i, y, h => by simp at h
  | x :: r, hb, 0, y, h => by
    simp only [allB, Bool.and_eq_true, decide_eq_true_eq] at hb
    simp at h; subst h; exact hb.1
  | x :: r, hb, i + 1, y, h => by
    simp only [allB, Bool.and_eq_true] at hb
    exact allB_at hb.2 i y (by simpa using h)
theorem wqyj {G : Gh} {w w' : World} {x0 : List Int} {HP : List (Nm × HObj)} (hHP : HP = [(21, .row 5 (.int .u8) x0), (1, .var 85 [.nps 1, .row 21])])
    (obj : ∀ n o, mkH HP n = some o → RO (mkH HP) G w n o) (dis : Dis (mkH HP) G w) (hblk : ∀ b, b < w.heap.size → (∀ g, (G.rv 21).ownBlock = some g → b ≠ g) → w'.heap[b]? = w.heap[b]?)
    (hcell : ∀ g o, (G.rv 21).ownBlock = some g → w'.cell? ⟨g, o, none⟩ = w.cell? ⟨g, o, none⟩) (grow : w.heap.size ≤ w'.heap.size) (os : w'.os = w.os) (tape : w'.tape = w.tape) (out : w'.output = w.output) :
    Fin HP [(1, .var 85 [.nps 1, .v (.sl (.int .u8)) x0])] G w G w' := by
  have l1 : mkH HP 1 = some (.var 85 [.nps 1, .row 21]) := by subst hHP; rfl
  have l2 : mkH HP 21 = some (.row 5 (.int .u8) x0) := by subst hHP; rfl
  generalize hHS : [((1 : Nm), HObj.var 85 [.nps 1, .v (.sl (.int .u8)) x0])] = HS
  have m1 : mkH HS 1 = some (.var 85 [.nps 1, .v (.sl (.int .u8)) x0]) := by subst hHS; rfl
  have mo : ∀ n o, mkH HS n = some o → n = 1 := by
    intro n o h
    subst hHS
    simp only [mkH, look] at h
    cases hb : Nat.beq 1 n with
    | true => exact (Nat.eq_of_beq_eq_true hb).symm
    | false => rw [hb] at h; cases h
  have bk1 : blkOf (mkH HP) G 1 = some (G.bk 1) := by simp [blkOf, l1]
  have bk2 : blkOf (mkH HP) G 21 = (G.rv 21).ownBlock := by simp [blkOf, l2]
  have ck1 : blkOf (mkH HS) G 1 = some (G.bk 1) := by simp [blkOf, m1]
  have ck : ∀ n b, blkOf (mkH HS) G n = some b → n = 1 ∧ b = G.bk 1 := by
    intro n b h
    cases hn : mkH HS n with
    | none => simp [blkOf, hn] at h
    | some o => have := mo n o hn; subst this; rw [ck1] at h; cases h; exact ⟨rfl, rfl⟩
  have hne : ∀ g, (G.rv 21).ownBlock = some g → G.bk 1 ≠ g := fun g hg e => by
    have := dis.inj 1 21 g (by rw [bk1, e]) (by rw [bk2, hg])
    cases this
  obtain ⟨vs, hw, q1, t1, rfl, hq1, q2, t2, rfl, hq2, rfl⟩ := obj 1 _ l1
  obtain ⟨rfl, _⟩ := hq2
  have hlt : G.bk 1 < w.heap.size := (Array.getElem?_eq_some_iff.1 hw).1
  have hw' : w'.heap[G.bk 1]? = some (.cells [q1, G.rv 21].toArray 85 (0, 0)) := by rw [hblk _ hlt hne]; exact hw
  have hdat : RD w' (okB (mkH HS) G) (.sl (.int .u8)) x0 [G.rv 21] := by
    have hro := obj 21 _ l2
    obtain ⟨us, hown, hr, _⟩ := hro
    rcases hown.2 with ⟨hv, hn⟩ | ⟨g, cap, cur, hv, _, hgb, hnc, hcm, hcs, _⟩
    · exact ⟨none, 0, by rw [hv, hn], by omega, .inl (List.eq_nil_of_length_eq_zero hn)⟩
    · have hgo : (G.rv 21).ownBlock = some g := by rw [hv]; rfl
      refine ⟨_, cap, by rw [hv], hnc, .inr ⟨_, rfl, ?_, ?_, ?_⟩⟩
      · refine ⟨fun n hn => ?_, fun hx => dis.xo 21 g (by rw [bk2, hgo]) hx⟩
        obtain ⟨_, e⟩ := ck n g hn
        exact hne g hgo e.symm
      · have : g < w.heap.size := (Array.getElem?_eq_some_iff.1 hgb).1
        exact Nat.lt_of_lt_of_le this grow
      · intro i y hy
        obtain ⟨c, hc, hu⟩ := hr.get i y hy
        refine ⟨c, hc, fun j u hj => ?_⟩
        have := hown.cells hgo _ _ (hu j u hj)
        rw [Addr.add_lit] at this ⊢
        rw [hcell g _ hgo]
        exact this
  refine ⟨fun n o hn => ?_, fun n m b h1 h2 => (ck n b h1).1.trans (ck m b h2).1.symm, fun n t cs hn o ho => ?_, fun b hb hf => hblk b hb fun g hg e => hf 21 (by rw [bk2, hg, e]), rfl, fun n b hn => .inl ⟨1, by rw [(ck n b hn).2]; exact bk1⟩, grow, os, tape, out⟩
  · have := mo n o hn; subst this
    rw [m1] at hn; cases hn
    refine ⟨_, hw', _, _, rfl, ?_, _, _, rfl, hdat, rfl⟩
    rcases hq1 with h | ⟨h, _⟩
    · exact .inl h
    · exact .inr ⟨h, _, _, m1⟩
  · have e1 := mo n o ho
    subst e1
    have e2 : mkH HS 1 = some o := ho
    have e3 : mkH HP 1 = some (.var t cs) := hn
    rw [m1] at e2; rw [l1] at e3; cases e2; cases e3
    exact ⟨⟨_, rfl⟩, rfl⟩
theorem wq60 (k : Nat) {ps : List PV} {hp : List (Nm × HObj)} {R : Type} {K : Out → Option R} {r : R} (h : wq31 k ps hp K = some r) : DoesTo Tryz.prog 40 ps hp fun out => K out = some r := by
  unfold wq31 at h
  split at h
  · next x0 =>
    intro G w vals hr obj dis
    unfold wq26 at h
    cases hb : allB x0 with
    | false => rw [hb] at h; cases h
    | true =>
      rw [hb, cond_true] at h
      obtain ⟨v0, l0, rfl, h0, rfl⟩ := hr
      obtain ⟨rfl, _⟩ := h0
      generalize hHP : [(21, HObj.row 5 (.int .u8) x0), (1, .var 85 [.nps 1, .row 21])] = HP at *
      have l1 : mkH HP 1 = some (.var 85 [.nps 1, .row 21]) := by subst hHP; rfl
      have l2 : mkH HP 21 = some (.row 5 (.int .u8) x0) := by subst hHP; rfl
      show Does _ _ #[_] _ _
      unfold Does
      rw [wqbb]
      obtain ⟨vs, hw, q1, t1, rfl, hq1, q2, t2, rfl, hq2, rfl⟩ := obj 1 _ l1
      obtain ⟨rfl, _⟩ := hq2
      have hro := obj 21 _ l2
      obtain ⟨us, hown, hrd, _⟩ := hro
      have fin : ∀ {e : Ending} {w' : World}, e = .returned (.string ⟨(ofBytes x0).toArray⟩) → (∀ b, b < w.heap.size → (∀ g, (G.rv 21).ownBlock = some g → b ≠ g) → w'.heap[b]? = w.heap[b]?) → (∀ g o, (G.rv 21).ownBlock = some g → w'.cell? ⟨g, o, none⟩ = w.cell? ⟨g, o, none⟩) → w.heap.size ≤ w'.heap.size → w'.os = w.os → w'.tape = w.tape → w'.output = w.output →
          ∃ out, K out = some r ∧ ∃ G', OutIs G' w' e out ∧ Fin HP out.hs G w G' w' := by
        intro e w' he h1 h2 h3 h4 h5 h6
        exact ⟨_, h, G, ⟨_, he, rfl⟩, wqyj hHP.symm obj dis h1 h2 h3 h4 h5 h6⟩
      rcases hown.2 with ⟨hv, hn⟩ | ⟨g, cap, cur, hv, _, hgb, hnc, hcm, hcs, htk⟩
      · have hx : x0 = [] := List.eq_nil_of_length_eq_zero hn
        subst hx
        rw [hv] at hw
        refine Calls.mono (wq11d (G.bk 1) q1 w hw) fun e w' hh => ?_
        obtain ⟨rfl, rfl⟩ := hh
        exact fin rfl (fun _ _ _ => rfl) (fun _ _ _ => rfl) (Nat.le_refl _) rfl rfl rfl
      · have hgo : (G.rv 21).ownBlock = some g := by rw [hv]; rfl
        rw [hv] at hw
        by_cases hx : x0 = []
        · subst hx
          by_cases hc0 : cap = 0
          · subst hc0
            refine Calls.mono (wqxg (G.bk 1) g q1 cur w hw hgb) fun e w' hh => ?_
            obtain ⟨rfl, o, rfl⟩ := hh
            have hold : ∀ b, b < w.heap.size → (w.alloc o).drew.heap[b]? = w.heap[b]? := fun b hb => Lib.alloc_old w _ b hb
            refine fin rfl (fun b hb _ => hold b hb) (fun g' o' hg' => ?_) (by have := World.size_alloc w o; show _ ≤ (w.alloc o).heap.size; omega) rfl rfl rfl
            rw [hgo] at hg'; cases hg'
            exact World.cell?_of_block (hold g (Array.getElem?_eq_some_iff.1 hgb).1)
          · refine Calls.mono (wq10l (G.bk 1) g cap q1 w hc0 hw) fun e w' hh => ?_
            obtain ⟨rfl, rfl⟩ := hh
            exact fin rfl (fun _ _ _ => rfl) (fun _ _ _ => rfl) (Nat.le_refl _) rfl rfl rfl
        · have hlen : (ofBytes x0).length = x0.length := by simp [ofBytes]
          have hbytes : ∀ (j : Nat) (x : UInt8), (ofBytes x0)[j]? = some x → w.cell? ⟨g, j, none⟩ = some (.int .u8 x.toNat) := by
            intro j x hj
            have hjl : j < x0.length := by rw [← hlen]; exact (List.getElem?_eq_some_iff.1 hj).1
            have hy : x0[j]? = some x0[j] := by simp [hjl]
            obtain ⟨c, hc, hu⟩ := hrd.get j _ hy
            have hc : c = [.int .u8 x0[j]] := hc
            have h9 := hown.cells hgo _ _ (hu 0 (.int .u8 x0[j]) (by rw [hc]; rfl))
            rw [Addr.add_lit] at h9
            have hj2 : x = UInt8.ofNat (x0[j]).toNat := by
              simp only [ofBytes, List.getElem?_map, hy, Option.map_some, Option.some.injEq] at hj
              exact hj.symm
            obtain ⟨h10, h11⟩ := allB_at hb j _ hy
            have : ((x.toNat : Nat) : Int) = x0[j] := by
              rw [hj2, UInt8.toNat_ofNat']
              omega
            rw [this]
            have e0 : 0 + (j * Kd.sz (.int .u8) + 0) = j := by simp [Kd.sz]
            rw [e0] at h9
            exact h9
          rw [← hlen] at hw
          have hne : ofBytes x0 ≠ [] := by intro e; rw [e] at hlen; exact hx (List.eq_nil_of_length_eq_zero hlen.symm)
          refine Calls.mono (wqyi (G.bk 1) g cap q1 (ofBytes x0) cur w hw hne hgb (by omega) hcm (by simpa [Kd.sz] using hcs) hbytes) fun e w' hh => ?_
          obtain ⟨rfl, rfl⟩ := hh
          have hfz : ∀ b, b ≠ g → (w.drew.freeze ⟨g, 0, none⟩ (ofBytes x0).length).heap[b]? = w.heap[b]? := by
            intro b hb
            unfold World.freeze
            split
            · rfl
            · show (w.heap.modify g _)[b]? = _
              rw [Array.getElem?_modify, if_neg (Ne.symm hb)]
          refine fin rfl (fun b _ hb => hfz b (hb g hgo)) (fun g' o' hg' => ?_) ?_ ?_ ?_ ?_
          · rw [hgo] at hg'; cases hg'
            unfold World.freeze
            split
            · rfl
            · simp only [World.cell?, World.drew, Array.getElem?_modify, if_true, hgb, Option.map_some]
          all_goals
            unfold World.freeze
            split
            · first | rfl | exact Nat.le_refl _
            · first | rfl | (show w.heap.size ≤ (w.heap.modify g _).size; rw [Array.size_modify]; exact Nat.le_refl _)
  · cases h
end Go.Proofs.YtpfbdepoammjmaaGreatDoor.Pvm

set_option maxHeartbeats 1000000
set_option maxRecDepth 100000
namespace Go.Proofs.YtpfbdepoammjmaaGreatDoor.Pvm
open Go Go.Proofs Go.RowKit
theorem wqvy (b : Nat) (w : World) (h0 : w.cell? ⟨b, 0, none⟩ = some (.pointer (some ⟨b, 0, none⟩))) :
    Calls Tryz.prog 74 #[.pointer (some ⟨b, 0, none⟩)] w fun e w' => e = .returned (.tuple #[]) ∧ w' = w := by
  have t76 : Tryz.prog.underlying 83 = some (.pointer 85) := by kernel_rfl
  have hs : (Tryz.prog.info? 85).isSome = true := by kernel_rfl
  obtain ⟨j, hj⟩ := Option.isSome_iff_exists.1 hs
  go_enter Tryz.func74, Tryz.ntmps74
  go_wp2
  rw [Lib.run_neq_ptr_same w _ t76 hj]
  go_wp2
  go_end0
  exact ⟨rfl, rfl⟩
theorem wqk8 (b : Nat) (w : World) (h0 : w.cell? ⟨b, 0, none⟩ = some (.pointer none)) (hsh : w.shape? b = some (85, 2)) (hfz : w.frozen? ⟨b, 0, none⟩ = false) :
    Calls Tryz.prog 74 #[.pointer (some ⟨b, 0, none⟩)] w fun e w' => e = .returned (.tuple #[]) ∧ w' = w.setCell ⟨b, 0, none⟩ (.pointer (some ⟨b, 0, none⟩)) := by
  have t76 : Tryz.prog.underlying 83 = some (.pointer 85) := by kernel_rfl
  have t89 : Tryz.prog.underlying 167 = some .unsafePointer := by kernel_rfl
  have hs : (Tryz.prog.info? 85).map (·.size) = some 2 := by kernel_rfl
  obtain ⟨j, hj, hjs⟩ := Option.map_eq_some_iff.1 hs
  have hlies : liesAt Tryz.prog Tryz.prog.depth 85 (2 / Tryz.prog.cellsOf 85) 0 85 1 = true := by kernel_rfl
  go_enter Tryz.func74, Tryz.ntmps74
  go_wp2
  rw [Lib.run_to_unsafe w ⟨b, 0, none⟩ t76 t89 hj (by rw [hjs]; decide) hsh (Nat.zero_lt_succ 1)]
  simp only [Result.andThen]
  rw [Oper.upon_value]
  go_wp2
  rw [run_callFunc_extern Tryz.func111 (by kernel_rfl) (by kernel_rfl) (by kernel_rfl) (e := Extern.AbiNoEscape.same) (by kernel_rfl)]
  rw [Lib.run_noEscape]
  simp only [Result.andThen]
  rw [Oper.upon_value]
  go_wp2
  rw [Lib.run_from_unsafe w ⟨b, 0, none⟩ t89 t76 hj hsh hlies]
  simp only [Result.andThen]
  rw [Oper.upon_value]
  go_wp2
  go_end0
  exact ⟨rfl, rfl⟩
end Go.Proofs.YtpfbdepoammjmaaGreatDoor.Pvm

set_option maxRecDepth 1000000
namespace Go.Proofs.YtpfbdepoammjmaaGreatDoor.Pvm
open Go Go.Proofs
def wq6j : List LS := [.obj 1 [.nps 1, .own 21 5 (.int .u8)]]
def wq2s (k : Nat) {R : Type} (x0 : List Int) (K : List Int → Option R) : Option R := K x0
def wq3d (k : Nat) {R : Type} : List PV → List (Nm × HObj) → (Out → Option R) → Option R
  | [.ptr 1 0], [(21, .row 5 (.int .u8) x0), (1, .var 85 [.nps 1, .row 21])], K => wq2s k x0 (fun y0 => K (.ret [] [(21, .row 5 (.int .u8) y0), (1, .var 85 [.nps 1, .row 21])]))
  | _, _, _ => none
theorem wq9k (vs : Array Value) (w : World) : (callFunc 74 vs).run Tryz.prog w = .ok (.enter 74 vs) w := by
  have h1 : Tryz.prog.funcs[74]? = some Tryz.f74 := by kernel_rfl
  have h2 : (Tryz.f74.name == "runtime.NumGoroutine") = false := by kernel_rfl
  have h3 : Tryz.f74.body.isNone = false := by kernel_rfl
  unfold callFunc
  rw [Sem.run_bind]
  have e2 : (program).run Tryz.prog w = .ok Tryz.prog w := rfl
  rw [e2, Result.andThen_ok, h1]
  simp only [h2, h3, Bool.false_eq_true, if_false]
  rfl
theorem wq7d (k : Nat) {ps : List PV} {hp : List (Nm × HObj)} {R : Type} {K : Out → Option R} {r : R} (h : wq3d k ps hp K = some r) : DoesTo Tryz.prog 74 ps hp fun out => K out = some r := by
  unfold wq3d at h
  split at h
  · next x0 =>
    intro G w vals hr obj dis
    obtain ⟨v0, l0, rfl, h0, rfl⟩ := hr
    obtain ⟨rfl, _⟩ := h0
    generalize hHP : [(21, HObj.row 5 (.int .u8) x0), (1, .var 85 [.nps 1, .row 21])] = HP at *
    have hK : K (.ret [] HP) = some r := by subst hHP; exact h
    have l1 : mkH HP 1 = some (.var 85 [.nps 1, .row 21]) := by subst hHP; rfl
    have hob := obj 1 _ l1
    obtain ⟨vs, hw, q1, t1, rfl, hq1, q2, t2, rfl, hq2, rfl⟩ := hob
    show Does _ _ #[_] _ _
    unfold Does
    rw [wq9k]
    have hcell : w.cell? ⟨G.bk 1, 0, none⟩ = some q1 := by simp [World.cell?, hw]
    have hlt : G.bk 1 < w.heap.size := (Array.getElem?_eq_some_iff.1 hw).1
    rcases hq1 with rfl | ⟨rfl, _⟩
    · refine Calls.mono (wqk8 (G.bk 1) w hcell (by simp [World.shape?, hw]) (by simp [World.frozen?, hw])) fun e w' hh => ?_
      obtain ⟨rfl, rfl⟩ := hh
      have oth : ∀ b, b ≠ G.bk 1 → (w.setCell ⟨G.bk 1, 0, none⟩ (.pointer (some ⟨G.bk 1, 0, none⟩))).heap[b]? = w.heap[b]? := fun b hb => Go.Deep.blk_setCell_other w _ _ b hb
      have bk1 : blkOf (mkH HP) G 1 = some (G.bk 1) := by simp [blkOf, l1]
      have C : Carry (mkH HP) G w (mkH HP) G (w.setCell ⟨G.bk 1, 0, none⟩ (.pointer (some ⟨G.bk 1, 0, none⟩))) .row :=
        ⟨fun b ho _ => ⟨ho, oth b fun e => ho.1 1 (by rw [bk1, e])⟩, fun n t cs hn => ⟨⟨cs, hn⟩, rfl⟩, fun n e K xs hn => ⟨⟨rfl, e, K, xs, hn⟩, fun m hm => by cases hm; exact ⟨e, xs, hn, Nat.le_refl _⟩⟩⟩
      have hq2' := RV.carry C _ _ hq2
      refine ⟨.ret [] HP, hK, G, ⟨_, rfl, ⟨[], rfl, rfl⟩⟩, ⟨fun n o hn => ?_, dis.inj, fun n t cs hn o ho => ?_, fun b hb hf => oth b fun e => hf 1 (by rw [bk1, e]), rfl, fun n b hb => .inl ⟨n, hb⟩, by simp [World.setCell], rfl, rfl, rfl⟩⟩
      · by_cases hn1 : n = 1
        · subst hn1
          rw [show mkH (Out.hs (.ret [] HP)) 1 = some (.var 85 [.nps 1, .row 21]) from l1] at hn
          cases hn
          refine ⟨[.pointer (some ⟨G.bk 1, 0, none⟩), q2], ?_, _, _, rfl, .inr ⟨rfl, 85, _, l1⟩, _, _, rfl, hq2', rfl⟩
          have hw2 := (Array.getElem?_eq_some_iff.1 hw).2
          simp only [World.setCell, Array.getElem?_modify, if_pos, hw]
          simp
        · have hne : ∀ b, blkOf (mkH HP) G n = some b → b ≠ G.bk 1 := fun b hb e => hn1 (dis.inj n 1 b hb (by rw [bk1, e]))
          have := RO.carry C hn (obj n o hn) (fun b hb => oth b (hne b hb)) rfl rfl
          rwa [mapO_row] at this
      · have e1 : look HP n = some o := ho
        rw [hn] at e1; cases e1
        exact ⟨⟨cs, rfl⟩, rfl⟩
    · refine Calls.mono (wqvy (G.bk 1) w hcell) fun e w' hh => ?_
      obtain ⟨rfl, rfl⟩ := hh
      refine ⟨.ret [] HP, hK, G, ⟨_, rfl, ⟨[], rfl, rfl⟩⟩, ⟨obj, dis.inj, fun n t cs hn o ho => ?_, fun _ _ _ => rfl, rfl, fun n b hb => .inl ⟨n, hb⟩, Nat.le_refl _, rfl, rfl, rfl⟩⟩
      have e1 : look HP n = some o := ho
      rw [hn] at e1; cases e1
      exact ⟨⟨cs, rfl⟩, rfl⟩
  · cases h
end Go.Proofs.YtpfbdepoammjmaaGreatDoor.Pvm

set_option maxRecDepth 1000000
set_option maxHeartbeats 0
namespace Go.Proofs.YtpfbdepoammjmaaGreatDoor.Pvm
open Go Go.Proofs
def wq6k : List LS := [.obj 1 [.nps 1, .own 21 5 (.int .u8)], .any]
noncomputable def wq7e (k : Nat) : CTab := (CTab.add 74 wq6j (wq3d k) CTab.nil)
def wq4j {R : Type} (K : ((List Int) → Option R)) : Out → Option R
  | .ret [.nilif] [(21, .row 5 (.int .u8) y0), (1, .var 85 [.nps 1, .row 21])] => K y0
  | _ => none
def wq6t : RetSpec := ⟨[.any], [(1, .obj 1 [.nps 1, .own 21 5 (.int .u8)])], []⟩
def wqbt : List (Nat × CutSpec) := []
def wqbc : List (Nat × Plan) := []
noncomputable def wq4z (k : Nat) : Ctx := ⟨tyT, wqbt, wq7e k, [], [1], wqbc, @SH⟩
noncomputable def wq4k : Code := Tryz.f177.body.getD .skip
noncomputable def wq55 (k : Nat) {R : Type}  (x0 : (List Int)) (x1 : Int) (K : ((List Int) → Option R)) : Option R := (@wq2s k R x0 (fun y5 => (@cond (@Option R) (@fits (@List.length (@Kd.T (@Kd.int Go.IntKind.u8)) y5) (@List.length (@Kd.T (@Kd.int Go.IntKind.u8)) (x1 :: [])) (1 : Nat)) (K (@HAppend.hAppend (@Kd.T (@Kd.sl (@Kd.int Go.IntKind.u8))) (@List (@Kd.T (@Kd.int Go.IntKind.u8))) (@Kd.T (@Kd.sl (@Kd.int Go.IntKind.u8))) (@instHAppendOfAppend (@Kd.T (@Kd.sl (@Kd.int Go.IntKind.u8))) (@List.instAppend (@Kd.T (@Kd.int Go.IntKind.u8)))) y5 (x1 :: []))) (@Option.none R))))
theorem wqbu (k : Nat) {R : Type} (I : Nat → St → Option R) (x0 : (List Int)) (x1 : Int) (K : ((List Int) → Option R)) : fnK (wq4z k) k wq4k 17 [.tmp 4] wq6t [.ptr 1 0, .v (.int .u8) x1] [(21, .row 5 (.int .u8) x0), (1, .var 85 [.nps 1, .row 21])] (wq4j K) = wq55 k  x0 x1 K := by kernel_rfl
noncomputable def wq1i (k : Nat) {R : Type} (x0 : (List Int)) (x1 : Int) (K : ((List Int) → Option R)) : Option R := wq55 k  x0 x1 K
theorem wqbv (k : Nat) {R : Type} (x0 : (List Int)) (x1 : Int) (K : ((List Int) → Option R)) : fnK (wq4z k) k wq4k 17 [.tmp 4] wq6t [.ptr 1 0, .v (.int .u8) x1] [(21, .row 5 (.int .u8) x0), (1, .var 85 [.nps 1, .row 21])] (wq4j K) = wq1i k x0 x1 K := by
  exact wqbu k (fun _ _ => none) x0 x1 K
noncomputable def wq3e (k : Nat) {R : Type} : List PV → List (Nm × HObj) → (Out → Option R) → Option R
  | [.ptr 1 0, .v (.int .u8) x1], [(21, .row 5 (.int .u8) x0), (1, .var 85 [.nps 1, .row 21])], K => wq1i k x0 x1 (fun y0 => K (.ret [.nilif] [(21, .row 5 (.int .u8) y0), (1, .var 85 [.nps 1, .row 21])]))
  | _, _, _ => none
theorem wqbw (k : Nat) : (wq7e k).Ok Tryz.prog := (CTab.add_ok (fun h => wq7d k h) CTab.nil_ok)
theorem wq7f (k : Nat) {ps : List PV} {hp : List (Nm × HObj)} {R : Type} {K : Out → Option R} {r : R} (h : wq3e k ps hp K = some r) : DoesTo Tryz.prog 177 ps hp fun out => K out = some r := by
  unfold wq3e at h
  split at h
  · rw [← wqbv] at h
    have := fn_ok (P := Tryz.prog) (cx := wq4z k) (f := 177) ⟨tyT_ok, wqbw k, fun _ _ => rfl⟩ (by kernel_rfl) (fn := Tryz.f177) (c := wq4k) (by kernel_rfl) (by kernel_rfl) (by kernel_rfl) (rs := [.tmp 4]) (by kernel_rfl) (by kernel_rfl) h
    exact this.mono fun out ho => by
      unfold wq4j at ho
      split at ho <;> first | exact ho | cases ho
  · cases h
end Go.Proofs.YtpfbdepoammjmaaGreatDoor.Pvm

set_option maxRecDepth 1000000
set_option maxHeartbeats 0
namespace Go.Proofs.YtpfbdepoammjmaaGreatDoor.Pvm
open Go Go.Proofs
abbrev wq2u (R : Type) : Type := (Int → Int → (List UInt8) → Int → (List (Int × (Int × (Int × ((List UInt8) × Bool))))) → (List UInt8) → Int → Option R)
abbrev wq2v (R : Type) : Type := (Int → Int → (List UInt8) → Int → (List (Int × (Int × (Int × ((List UInt8) × Bool))))) → Int → Int → Option R)
def wqlm : List LS := [.obj 1 [.any, .any, .any, .any, .own 21 97 (.pr (.int .i64) (.pr (.int .i64) (.pr (.int .i64) (.pr .str .bool))))], .any]
noncomputable def wqf3 (k : Nat) : CTab := (CTab.add 40 wq5k (wq31 k) (CTab.add 124 wq5g (wq3j k) (CTab.add 177 wq6k (wq3e k) (CTab.add 178 wqmy (wq9j k) CTab.nil))))
def wq2e {R : Type} (K : wq2u R) (E : wq2v R) : Out → Option R
  | .ret [.v .str y5, .v (.int .i64) y6] [(21, .row 97 (.pr (.int .i64) (.pr (.int .i64) (.pr (.int .i64) (.pr .str .bool)))) y4), (1, .var 151 [.v (.int .i64) y0, .v (.int .i64) y1, .v .str y2, .v (.int .i64) y3, .row 21])] => K y0 y1 y2 y3 y4 y5 y6
  | .pan (.ifc 28 (.agg [.v (.int .i64) z5, .v (.int .i64) z6])) [(21, .row 97 (.pr (.int .i64) (.pr (.int .i64) (.pr (.int .i64) (.pr .str .bool)))) z4), (1, .var 151 [.v (.int .i64) z0, .v (.int .i64) z1, .v .str z2, .v (.int .i64) z3, .row 21])] => E z0 z1 z2 z3 z4 z5 z6
  | _ => none
def wq3l : RetSpec := ⟨[.any, .any], [(1, .obj 1 [.any, .any, .any, .any, .own 21 97 (.pr (.int .i64) (.pr (.int .i64) (.pr (.int .i64) (.pr .str .bool))))])], [(1, .obj 1 [.any, .any, .any, .any, .own 21 97 (.pr (.int .i64) (.pr (.int .i64) (.pr (.int .i64) (.pr .str .bool))))])]⟩
def wqjh : List (Nat × CutSpec) := [(1003, ⟨[(0, .obj 1 [.any, .any, .any, .any, .own 21 97 (.pr (.int .i64) (.pr (.int .i64) (.pr (.int .i64) (.pr .str .bool))))]), (1, .any), (6, .obj 16 [.nps 16, .own 36 5 (.int .u8)]), (7, .any)], [(1, .obj 1 [.any, .any, .any, .any, .own 21 97 (.pr (.int .i64) (.pr (.int .i64) (.pr (.int .i64) (.pr .str .bool))))])]⟩)]
def wqhv : List (Nat × Plan) := []
noncomputable def wqm (k : Nat) : Ctx := ⟨tyT, wqjh, wqf3 k, [], [1], wqhv, @SH⟩
noncomputable def wq15 : Code := Tryz.f161.body.getD .skip
def wq2p (s0 s1 : Int) (s2 : (List UInt8)) (s3 : Int) (s4 : (List (Int × (Int × (Int × ((List UInt8) × Bool)))))) (s5 : (List UInt8)) (s6 : (List Int)) (s7 : Int) : St := ⟨mkT [(0, .ptr 1 0), (1, .v .str s5), (6, .ptr 16 0), (7, .v (.int .i64) s7)], mkH [(21, .row 97 (.pr (.int .i64) (.pr (.int .i64) (.pr (.int .i64) (.pr .str .bool)))) s4), (1, .var 151 [.v (.int .i64) s0, .v (.int .i64) s1, .v .str s2, .v (.int .i64) s3, .row 21]), (36, .row 5 (.int .u8) s6), (16, .var 85 [.nps 16, .row 36])]⟩
noncomputable def wq3v (k : Nat) {R : Type} (E1003 : (Int → Int → (List UInt8) → Int → (List (Int × (Int × (Int × ((List UInt8) × Bool))))) → (List UInt8) → (List Int) → Int → Option R)) (s0 s1 : Int) (s2 : (List UInt8)) (s3 : Int) (s4 : (List (Int × (Int × (Int × ((List UInt8) × Bool)))))) (s5 : (List UInt8)) (s6 : (List Int)) (s7 : Int) (K : wq2u R) (E : wq2v R) : Option R := (@cond (@Option R) (@Decidable.decide (@LT.lt Int Int.instLTInt s7 (@Nat.cast Int instNatCastInt (@List.length UInt8 s5))) (@Int.decLt s7 (@Nat.cast Int instNatCastInt (@List.length UInt8 s5)))) (@cond (@Option R) (@inb s7 (@Nat.cast Int instNatCastInt (@List.length UInt8 s5))) (@cond (@Option R) (@BEq.beq Int (@instBEqOfDecidableEq Int @Int.instDecidableEq) (@Nat.cast Int instNatCastInt (@UInt8.toNat (@List.getD UInt8 s5 (@Int.toNat s7) (0 : UInt8)))) (34 : Int)) (@wq26 k R s6 (fun y13 y14 => (K s0 s1 s2 s3 s4 y14 (@Go.IntKind.wrap Go.IntKind.i64 (@HAdd.hAdd Int Int Int (@instHAdd Int @Int.instAdd) s7 (1 : Int)))))) (@cond (@Option R) (@BEq.beq Int (@instBEqOfDecidableEq Int @Int.instDecidableEq) (@Nat.cast Int instNatCastInt (@UInt8.toNat (@List.getD UInt8 s5 (@Int.toNat s7) (0 : UInt8)))) (92 : Int)) (@cond (@Option R) (@bnd (@Go.IntKind.wrap Go.IntKind.i64 (@HAdd.hAdd Int Int Int (@instHAdd Int @Int.instAdd) s7 (1 : Int))) (@Nat.cast Int instNatCastInt (@List.length UInt8 s5)) (@Nat.cast Int instNatCastInt (@List.length UInt8 s5))) (@wq6a k R s0 s1 s2 s3 s4 (@cut UInt8 s5 (@Go.IntKind.wrap Go.IntKind.i64 (@HAdd.hAdd Int Int Int (@instHAdd Int @Int.instAdd) s7 (1 : Int))) (@Nat.cast Int instNatCastInt (@List.length UInt8 s5))) (fun y13 y14 y15 y16 y17 y18 y19 => (@wq1i k R s6 y18 (fun y20 => (E1003 y13 y14 y15 y16 y17 s5 y20 (@Go.IntKind.wrap Go.IntKind.i64 (@HAdd.hAdd Int Int Int (@instHAdd Int @Int.instAdd) (@Go.IntKind.wrap Go.IntKind.i64 (@HAdd.hAdd Int Int Int (@instHAdd Int @Int.instAdd) s7 y19)) (1 : Int))))))) (fun y13 y14 y15 y16 y17 y18 y19 => (E y13 y14 y15 y16 y17 y18 y19))) (@Option.none R)) (@cond (@Option R) (@inb s7 (@Nat.cast Int instNatCastInt (@List.length UInt8 s5))) (@wq1i k R s6 (@Nat.cast Int instNatCastInt (@UInt8.toNat (@List.getD UInt8 s5 (@Int.toNat s7) (0 : UInt8)))) (fun y13 => (E1003 s0 s1 s2 s3 s4 s5 y13 (@Go.IntKind.wrap Go.IntKind.i64 (@HAdd.hAdd Int Int Int (@instHAdd Int @Int.instAdd) s7 (1 : Int)))))) (@Option.none R)))) (@Option.none R)) (@wqa k R s0 s1 s2 s3 s4 (3 : Int) (fun y13 y14 y15 y16 y17 => (K y13 y14 y15 y16 y17 [] (0 : Int))) (fun y13 y14 y15 y16 y17 y18 y19 => (E y13 y14 y15 y16 y17 y18 y19))))
theorem wqe2 (k : Nat) {R : Type} (I : Nat → St → Option R) (s0 s1 : Int) (s2 : (List UInt8)) (s3 : Int) (s4 : (List (Int × (Int × (Int × ((List UInt8) × Bool)))))) (s5 : (List UInt8)) (s6 : (List Int)) (s7 : Int) (K : wq2u R) (E : wq2v R) : execK (wqm k) k (at_ [1, 1, 0, 1, 0, 0] wq15) (wq2p s0 s1 s2 s3 s4 s5 s6 s7) (konts (wqm k) k I [1, 1, 0, 1, 0, 0] wq15 (outK (wqm k) wq3l [.tmp 4, .tmp 5] (wq2e K E))) = wq3v k (fun s0 s1 s2 s3 s4 s5 s6 s7 => I 1003 (wq2p s0 s1 s2 s3 s4 s5 s6 s7)) s0 s1 s2 s3 s4 s5 s6 s7 K E := by kernel_rfl
noncomputable def wq74 (k : Nat) {R : Type} (E1003 : (Int → Int → (List UInt8) → Int → (List (Int × (Int × (Int × ((List UInt8) × Bool))))) → (List UInt8) → (List Int) → Int → Option R)) (x0 x1 : Int) (x2 : (List UInt8)) (x3 : Int) (x4 : (List (Int × (Int × (Int × ((List UInt8) × Bool)))))) (x5 : (List UInt8)) (K : wq2u R) (E : wq2v R) : Option R := (E1003 x0 x1 x2 x3 x4 x5 [] (1 : Int))
theorem wqji (k : Nat) {R : Type} (I : Nat → St → Option R) (x0 x1 : Int) (x2 : (List UInt8)) (x3 : Int) (x4 : (List (Int × (Int × (Int × ((List UInt8) × Bool)))))) (x5 : (List UInt8)) (K : wq2u R) (E : wq2v R) : fnK (wqm k) k wq15 46 [.tmp 4, .tmp 5] wq3l [.ptr 1 0, .v .str x5] [(21, .row 97 (.pr (.int .i64) (.pr (.int .i64) (.pr (.int .i64) (.pr .str .bool)))) x4), (1, .var 151 [.v (.int .i64) x0, .v (.int .i64) x1, .v .str x2, .v (.int .i64) x3, .row 21])] (wq2e K E) = wq74 k (fun s0 s1 s2 s3 s4 s5 s6 s7 => iter (wqm k).pv (look (wqm k).cuts 1003) (execK (wqm k) k (at_ [1, 1, 0, 1, 0, 0] wq15)) k (wq2p s0 s1 s2 s3 s4 s5 s6 s7) (konts (wqm k) k I [1, 1, 0, 1, 0] wq15 (outK (wqm k) wq3l [.tmp 4, .tmp 5] (wq2e K E)))) x0 x1 x2 x3 x4 x5 K E := by kernel_rfl
noncomputable def wq1p (k : Nat) {R : Type}  : Nat → Int → Int → (List UInt8) → Int → (List (Int × (Int × (Int × ((List UInt8) × Bool))))) → (List UInt8) → (List Int) → Int → (Int → Int → (List UInt8) → Int → (List (Int × (Int × (Int × ((List UInt8) × Bool))))) → (List UInt8) → Int → Option R) → (Int → Int → (List UInt8) → Int → (List (Int × (Int × (Int × ((List UInt8) × Bool))))) → Int → Int → Option R) → Option R
  | 0, _, _, _, _, _, _, _, _, _, _ => none
  | n + 1, s0, s1, s2, s3, s4, s5, s6, s7, K, E => wq3v k (fun s0 s1 s2 s3 s4 s5 s6 s7 => wq1p k  n s0 s1 s2 s3 s4 s5 s6 s7 K E) s0 s1 s2 s3 s4 s5 s6 s7 K E
theorem wqe3 (k : Nat) {R : Type} (I : Nat → St → Option R) (K : wq2u R) (E : wq2v R) : ∀ (n : Nat) (s0 s1 : Int) (s2 : (List UInt8)) (s3 : Int) (s4 : (List (Int × (Int × (Int × ((List UInt8) × Bool)))))) (s5 : (List UInt8)) (s6 : (List Int)) (s7 : Int), iter (wqm k).pv (look (wqm k).cuts 1003) (execK (wqm k) k (at_ [1, 1, 0, 1, 0, 0] wq15)) n (wq2p s0 s1 s2 s3 s4 s5 s6 s7) (konts (wqm k) k I [1, 1, 0, 1, 0] wq15 (outK (wqm k) wq3l [.tmp 4, .tmp 5] (wq2e K E))) = wq1p k  n s0 s1 s2 s3 s4 s5 s6 s7 K E := by
  intro n
  induction n with
  | zero => intros; rfl
  | succ n ih =>
    intro s0 s1 s2 s3 s4 s5 s6 s7
    let I' : Nat → St → Option R := fun id s => bif Nat.beq id 1003 then iter (wqm k).pv (look (wqm k).cuts 1003) (execK (wqm k) k (at_ [1, 1, 0, 1, 0, 0] wq15)) n s (konts (wqm k) k I [1, 1, 0, 1, 0] wq15 (outK (wqm k) wq3l [.tmp 4, .tmp 5] (wq2e K E))) else I id s
    have e := wqe2 k I' s0 s1 s2 s3 s4 s5 s6 s7 K E
    have h1003 : (fun s0 s1 s2 s3 s4 s5 s6 s7 => I' 1003 (wq2p s0 s1 s2 s3 s4 s5 s6 s7)) = (fun s0 s1 s2 s3 s4 s5 s6 s7 => wq1p k  n s0 s1 s2 s3 s4 s5 s6 s7 K E) := by funext s0 s1 s2 s3 s4 s5 s6 s7; exact ih s0 s1 s2 s3 s4 s5 s6 s7
    refine Eq.trans (?_ : _ = _) (e.trans (Eq.trans ((congrArg ((fun E1003 => wq3v k E1003 s0 s1 s2 s3 s4 s5 s6 s7 K E)) h1003)) (by rw [wq1p])))
    rfl
noncomputable def wq5r (k : Nat) {R : Type} (x0 x1 : Int) (x2 : (List UInt8)) (x3 : Int) (x4 : (List (Int × (Int × (Int × ((List UInt8) × Bool)))))) (x5 : (List UInt8)) (K : wq2u R) (E : wq2v R) : Option R := wq74 k (fun s0 s1 s2 s3 s4 s5 s6 s7 => wq1p k k s0 s1 s2 s3 s4 s5 s6 s7 K E) x0 x1 x2 x3 x4 x5 K E
theorem wqjj (k : Nat) {R : Type} (x0 x1 : Int) (x2 : (List UInt8)) (x3 : Int) (x4 : (List (Int × (Int × (Int × ((List UInt8) × Bool)))))) (x5 : (List UInt8)) (K : wq2u R) (E : wq2v R) : fnK (wqm k) k wq15 46 [.tmp 4, .tmp 5] wq3l [.ptr 1 0, .v .str x5] [(21, .row 97 (.pr (.int .i64) (.pr (.int .i64) (.pr (.int .i64) (.pr .str .bool)))) x4), (1, .var 151 [.v (.int .i64) x0, .v (.int .i64) x1, .v .str x2, .v (.int .i64) x3, .row 21])] (wq2e K E) = wq5r k x0 x1 x2 x3 x4 x5 K E := by
  let I : Nat → St → Option R := fun _ _ => none
  have h1003 : (fun s0 s1 s2 s3 s4 s5 s6 s7 => iter (wqm k).pv (look (wqm k).cuts 1003) (execK (wqm k) k (at_ [1, 1, 0, 1, 0, 0] wq15)) k (wq2p s0 s1 s2 s3 s4 s5 s6 s7) (konts (wqm k) k I [1, 1, 0, 1, 0] wq15 (outK (wqm k) wq3l [.tmp 4, .tmp 5] (wq2e K E)))) = (fun s0 s1 s2 s3 s4 s5 s6 s7 => wq1p k k s0 s1 s2 s3 s4 s5 s6 s7 K E) := by funext s0 s1 s2 s3 s4 s5 s6 s7; exact wqe3 k I K E k s0 s1 s2 s3 s4 s5 s6 s7
  exact (wqji k I x0 x1 x2 x3 x4 x5 K E).trans (congrArg ((fun E1003 => wq74 k E1003 x0 x1 x2 x3 x4 x5 K E)) h1003)
noncomputable def wq8u (k : Nat) {R : Type} : List PV → List (Nm × HObj) → (Out → Option R) → Option R
  | [.ptr 1 0, .v .str x5], [(21, .row 97 (.pr (.int .i64) (.pr (.int .i64) (.pr (.int .i64) (.pr .str .bool)))) x4), (1, .var 151 [.v (.int .i64) x0, .v (.int .i64) x1, .v .str x2, .v (.int .i64) x3, .row 21])], K => wq5r k x0 x1 x2 x3 x4 x5 (fun y0 y1 y2 y3 y4 y5 y6 => K (.ret [.v .str y5, .v (.int .i64) y6] [(21, .row 97 (.pr (.int .i64) (.pr (.int .i64) (.pr (.int .i64) (.pr .str .bool)))) y4), (1, .var 151 [.v (.int .i64) y0, .v (.int .i64) y1, .v .str y2, .v (.int .i64) y3, .row 21])])) (fun z0 z1 z2 z3 z4 z5 z6 => K (.pan (.ifc 28 (.agg [.v (.int .i64) z5, .v (.int .i64) z6])) [(21, .row 97 (.pr (.int .i64) (.pr (.int .i64) (.pr (.int .i64) (.pr .str .bool)))) z4), (1, .var 151 [.v (.int .i64) z0, .v (.int .i64) z1, .v .str z2, .v (.int .i64) z3, .row 21])]))
  | _, _, _ => none
theorem wqjk (k : Nat) : (wqf3 k).Ok Tryz.prog := (CTab.add_ok (fun h => wq60 k h) (CTab.add_ok (fun h => wq69 k h) (CTab.add_ok (fun h => wq7f k h) (CTab.add_ok (fun h => wqpy k h) CTab.nil_ok))))
theorem wqo6 (k : Nat) {ps : List PV} {hp : List (Nm × HObj)} {R : Type} {K : Out → Option R} {r : R} (h : wq8u k ps hp K = some r) : DoesTo Tryz.prog 161 ps hp fun out => K out = some r := by
  unfold wq8u at h
  split at h
  · rw [← wqjj] at h
    have := fn_ok (P := Tryz.prog) (cx := wqm k) (f := 161) ⟨tyT_ok, wqjk k, fun _ _ => rfl⟩ (by kernel_rfl) (fn := Tryz.f161) (c := wq15) (by kernel_rfl) (by kernel_rfl) (by kernel_rfl) (rs := [.tmp 4, .tmp 5]) (by kernel_rfl) (by kernel_rfl) h
    exact this.mono fun out ho => by
      unfold wq2e at ho
      split at ho <;> first | exact ho | cases ho
  · cases h
end Go.Proofs.YtpfbdepoammjmaaGreatDoor.Pvm
