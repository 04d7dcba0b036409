/- The Go function DocMany answers true for every number, on any machine and under any order of evaluation that Go allows; with no condition besides the statement's own, the card's own ties to the pruned copy of the project included. -/
import Derived.Test.YtpfbdepoammjmaaDoorProg
import Derived.KernelRfl
import Derived.Test.YtpfbdepoammjmaaDoorChecked
import Derived.WalkKit
import Derived.WalkSpells
import Derived.WalkLawsBesides
import Derived.Lib.Builder
import Derived.Lib.AppendStr
import Derived.Lib.UnsafeStr
import Derived.Laws.Externs
import Derived.Shelf.RegionOpenPlain
import Derived.Deep.Heap
import Derived.Lib.BytesEntry
import Derived.Lib.Bytealg
import Derived.Shelf.GgClosure.StringsIndexFuncTop
import Derived.Shelf.Strings.FuncGrows
import Derived.Test.YtpfbdepoammjmaaDoorDocManyM0
import Derived.Test.YtpfbdepoammjmaaDoorDocManyM1
set_option linter.unusedVariables false
set_option linter.unusedSimpArgs false
set_option linter.unusedSectionVars false
set_option maxRecDepth 100000
namespace Go.Proofs.YtpfbdepoammjmaaDoor.Pvm
open Go Go.Proofs
abbrev kI : Kd := .int .i64
abbrev kdT7 : Kd := (.pr (.int .i64) (.pr (.int .i64) (.pr .bool (.int .u8))))
abbrev kdT24 : Kd := (.pr (.int .i64) (.pr (.int .i64) (.pr (.int .i64) (.pr .str .bool))))
abbrev kdT27 : Kd := (.sl (.pr (.int .i64) (.pr (.int .i64) (.pr .str (.pr .bool (.pr (.sl .str) (.sl (.int .i64))))))))
abbrev kdT39 : Kd := (.pr .str (.pr (.int .i64) (.int .i64)))
abbrev kdT46 : Kd := (.pr (.int .i64) (.pr (.int .i64) (.pr .str (.pr .bool (.pr (.sl .str) (.sl (.int .i64)))))))
abbrev kdT50 : Kd := (.pr (.sl (.pr (.int .i64) (.pr (.int .i64) (.pr (.int .i64) (.pr .str .bool))))) (.sl (.pr (.int .i64) (.pr (.int .i64) (.pr .str (.pr .bool (.pr (.sl .str) (.sl (.int .i64)))))))))
abbrev kdT54 : Kd := (.pr (.sl (.pr (.int .i64) (.pr (.int .i64) (.pr (.int .i64) (.pr .str .bool))))) (.pr (.int .i64) (.pr (.sl (.pr (.int .i64) (.pr (.int .i64) (.pr .str (.pr .bool (.pr (.sl .str) (.sl (.int .i64)))))))) (.pr (.int .i64) (.int .i64)))))
abbrev kdT85 : Kd := (.pr (.int .i64) (.pr (.int .i64) .str))
abbrev kdT110 : Kd := (.pr (.pr (.int .i64) (.pr (.int .i64) .str)) (.pr (.int .i64) (.sl (.pr (.int .i64) (.pr (.int .i64) (.pr (.int .i64) (.pr .str .bool)))))))
def ti1 : TI := ⟨.other, 1, 8, none, [.un], [], 0, false⟩
theorem ti1_ok : TiOk Tryd.prog 1 ti1 := TiOk.of (z := Go.Value.nilFunc) (d := (@Go.TypeDesc.func (@Array.mk Nat (@List.nil Nat)) (@Array.mk Nat (@List.nil Nat)) Bool.false)) (by kernel_rfl) (by kernel_rfl) (by kernel_rfl) trivial rfl trivial (by kernel_rfl) (fun h => nomatch h)
def ti2 : TI := ⟨.int .i64, 1, 8, some (.int .i64), [.v (.int .i64) 0], [], 0, false⟩
theorem ti2_ok : TiOk Tryd.prog 2 ti2 := TiOk.of (z := (@Go.Value.int Go.IntKind.i64 (@Int.ofNat 0))) (d := (@Go.TypeDesc.int Go.IntKind.i64)) (by kernel_rfl) (by kernel_rfl) (by kernel_rfl) ⟨by kernel_rfl, by kernel_rfl⟩ rfl rfl (by kernel_rfl) (fun h => nomatch h)
def ti3 : TI := ⟨.int .i64, 1, 8, some (.int .i64), [.v (.int .i64) 0], [], 0, false⟩
theorem ti3_ok : TiOk Tryd.prog 3 ti3 := TiOk.of (z := (@Go.Value.int Go.IntKind.i64 (@Int.ofNat 0))) (d := (@Go.TypeDesc.int Go.IntKind.i64)) (by kernel_rfl) (by kernel_rfl) (by kernel_rfl) ⟨by kernel_rfl, by kernel_rfl⟩ rfl rfl (by kernel_rfl) (fun h => nomatch h)
def ti4 : TI := ⟨.bool, 1, 1, some .bool, [.v .bool false], [], 0, false⟩
theorem ti4_ok : TiOk Tryd.prog 4 ti4 := TiOk.of (z := (@Go.Value.bool Bool.false)) (d := Go.TypeDesc.bool) (by kernel_rfl) (by kernel_rfl) (by kernel_rfl) ⟨by kernel_rfl, by kernel_rfl⟩ rfl rfl (by kernel_rfl) (fun h => nomatch h)
def ti5 : TI := ⟨.int .u8, 1, 1, some (.int .u8), [.v (.int .u8) 0], [], 0, false⟩
theorem ti5_ok : TiOk Tryd.prog 5 ti5 := TiOk.of (z := (@Go.Value.int Go.IntKind.u8 (@Int.ofNat 0))) (d := (@Go.TypeDesc.int Go.IntKind.u8)) (by kernel_rfl) (by kernel_rfl) (by kernel_rfl) ⟨by kernel_rfl, by kernel_rfl⟩ rfl rfl (by kernel_rfl) (fun h => nomatch h)
def ti6 : TI := ⟨.int .u8, 1, 1, some (.int .u8), [.v (.int .u8) 0], [], 0, false⟩
theorem ti6_ok : TiOk Tryd.prog 6 ti6 := TiOk.of (z := (@Go.Value.int Go.IntKind.u8 (@Int.ofNat 0))) (d := (@Go.TypeDesc.int Go.IntKind.u8)) (by kernel_rfl) (by kernel_rfl) (by kernel_rfl) ⟨by kernel_rfl, by kernel_rfl⟩ rfl rfl (by kernel_rfl) (fun h => nomatch h)
def ti7 : TI := ⟨.struct, 4, 24, some (.pr (.int .i64) (.pr (.int .i64) (.pr .bool (.int .u8)))), [.v (.int .i64) 0, .v (.int .i64) 0, .v .bool false, .v (.int .u8) 0], [(0, 2), (1, 3), (2, 4), (3, 6)], 0, true⟩
theorem ti7_ok : TiOk Tryd.prog 7 ti7 := TiOk.of (z := (@Go.Value.agg (@Array.mk Go.Value (@List.cons Go.Value (@Go.Value.int Go.IntKind.i64 (@Int.ofNat 0)) (@List.cons Go.Value (@Go.Value.int Go.IntKind.i64 (@Int.ofNat 0)) (@List.cons Go.Value (@Go.Value.bool Bool.false) (@List.cons Go.Value (@Go.Value.int Go.IntKind.u8 (@Int.ofNat 0)) (@List.nil Go.Value)))))))) (d := (@Go.TypeDesc.struct (@Array.mk Go.Field (@List.cons Go.Field (@Go.Field.mk "x" 2 0 Bool.false "" "runtime" 0) (@List.cons Go.Field (@Go.Field.mk "y" 3 1 Bool.false "" "runtime" 8) (@List.cons Go.Field (@Go.Field.mk "signed" 4 2 Bool.false "" "runtime" 16) (@List.cons Go.Field (@Go.Field.mk "code" 6 3 Bool.false "" "runtime" 17) (@List.nil Go.Field)))))))) (by kernel_rfl) (by kernel_rfl) (by kernel_rfl) ⟨by kernel_rfl, by kernel_rfl⟩ ⟨_, rfl⟩ ⟨_, rfl, by kernel_rfl, by kernel_rfl⟩ (by kernel_rfl) (fun _ _ => by kernel_rfl)
def ti8 : TI := ⟨.struct, 4, 24, some (.pr (.int .i64) (.pr (.int .i64) (.pr .bool (.int .u8)))), [.v (.int .i64) 0, .v (.int .i64) 0, .v .bool false, .v (.int .u8) 0], [(0, 2), (1, 3), (2, 4), (3, 6)], 0, true⟩
theorem ti8_ok : TiOk Tryd.prog 8 ti8 := TiOk.of (z := (@Go.Value.agg (@Array.mk Go.Value (@List.cons Go.Value (@Go.Value.int Go.IntKind.i64 (@Int.ofNat 0)) (@List.cons Go.Value (@Go.Value.int Go.IntKind.i64 (@Int.ofNat 0)) (@List.cons Go.Value (@Go.Value.bool Bool.false) (@List.cons Go.Value (@Go.Value.int Go.IntKind.u8 (@Int.ofNat 0)) (@List.nil Go.Value)))))))) (d := (@Go.TypeDesc.struct (@Array.mk Go.Field (@List.cons Go.Field (@Go.Field.mk "x" 2 0 Bool.false "" "runtime" 0) (@List.cons Go.Field (@Go.Field.mk "y" 3 1 Bool.false "" "runtime" 8) (@List.cons Go.Field (@Go.Field.mk "signed" 4 2 Bool.false "" "runtime" 16) (@List.cons Go.Field (@Go.Field.mk "code" 6 3 Bool.false "" "runtime" 17) (@List.nil Go.Field)))))))) (by kernel_rfl) (by kernel_rfl) (by kernel_rfl) ⟨by kernel_rfl, by kernel_rfl⟩ ⟨_, rfl⟩ ⟨_, rfl, by kernel_rfl, by kernel_rfl⟩ (by kernel_rfl) (fun _ _ => by kernel_rfl)
def ti9 : TI := ⟨.str, 1, 16, some .str, [.v .str []], [], 0, false⟩
theorem ti9_ok : TiOk Tryd.prog 9 ti9 := TiOk.of (z := (@Go.Value.string (@ByteArray.mk (@Array.mk UInt8 (@List.nil UInt8))))) (d := Go.TypeDesc.string) (by kernel_rfl) (by kernel_rfl) (by kernel_rfl) ⟨by kernel_rfl, by kernel_rfl⟩ rfl rfl (by kernel_rfl) (fun h => nomatch h)
def ti10 : TI := ⟨.str, 1, 16, some .str, [.v .str []], [], 0, false⟩
theorem ti10_ok : TiOk Tryd.prog 10 ti10 := TiOk.of (z := (@Go.Value.string (@ByteArray.mk (@Array.mk UInt8 (@List.nil UInt8))))) (d := Go.TypeDesc.string) (by kernel_rfl) (by kernel_rfl) (by kernel_rfl) ⟨by kernel_rfl, by kernel_rfl⟩ rfl rfl (by kernel_rfl) (fun h => nomatch h)
def ti11 : TI := ⟨.str, 1, 16, some .str, [.v .str []], [], 0, false⟩
theorem ti11_ok : TiOk Tryd.prog 11 ti11 := TiOk.of (z := (@Go.Value.string (@ByteArray.mk (@Array.mk UInt8 (@List.nil UInt8))))) (d := Go.TypeDesc.string) (by kernel_rfl) (by kernel_rfl) (by kernel_rfl) ⟨by kernel_rfl, by kernel_rfl⟩ rfl rfl (by kernel_rfl) (fun h => nomatch h)
def ti12 : TI := ⟨.int .u64, 1, 8, some (.int .u64), [.v (.int .u64) 0], [], 0, false⟩
theorem ti12_ok : TiOk Tryd.prog 12 ti12 := TiOk.of (z := (@Go.Value.int Go.IntKind.u64 (@Int.ofNat 0))) (d := (@Go.TypeDesc.int Go.IntKind.u64)) (by kernel_rfl) (by kernel_rfl) (by kernel_rfl) ⟨by kernel_rfl, by kernel_rfl⟩ rfl rfl (by kernel_rfl) (fun h => nomatch h)
def ti13 : TI := ⟨.struct, 2, 24, some (.pr .str (.int .u64)), [.v .str [], .v (.int .u64) 0], [(0, 9), (1, 12)], 0, false⟩
theorem ti13_ok : TiOk Tryd.prog 13 ti13 := TiOk.of (z := (@Go.Value.agg (@Array.mk Go.Value (@List.cons Go.Value (@Go.Value.string (@ByteArray.mk (@Array.mk UInt8 (@List.nil UInt8)))) (@List.cons Go.Value (@Go.Value.int Go.IntKind.u64 (@Int.ofNat 0)) (@List.nil Go.Value)))))) (d := (@Go.TypeDesc.struct (@Array.mk Go.Field (@List.cons Go.Field (@Go.Field.mk "msg" 9 0 Bool.false "" "runtime" 0) (@List.cons Go.Field (@Go.Field.mk "addr" 12 1 Bool.false "" "runtime" 16) (@List.nil Go.Field)))))) (by kernel_rfl) (by kernel_rfl) (by kernel_rfl) ⟨by kernel_rfl, by kernel_rfl⟩ ⟨_, rfl⟩ ⟨_, rfl, by kernel_rfl, by kernel_rfl⟩ (by kernel_rfl) (fun h => nomatch h)
def ti14 : TI := ⟨.struct, 2, 24, some (.pr .str (.int .u64)), [.v .str [], .v (.int .u64) 0], [(0, 9), (1, 12)], 0, false⟩
theorem ti14_ok : TiOk Tryd.prog 14 ti14 := TiOk.of (z := (@Go.Value.agg (@Array.mk Go.Value (@List.cons Go.Value (@Go.Value.string (@ByteArray.mk (@Array.mk UInt8 (@List.nil UInt8)))) (@List.cons Go.Value (@Go.Value.int Go.IntKind.u64 (@Int.ofNat 0)) (@List.nil Go.Value)))))) (d := (@Go.TypeDesc.struct (@Array.mk Go.Field (@List.cons Go.Field (@Go.Field.mk "msg" 9 0 Bool.false "" "runtime" 0) (@List.cons Go.Field (@Go.Field.mk "addr" 12 1 Bool.false "" "runtime" 16) (@List.nil Go.Field)))))) (by kernel_rfl) (by kernel_rfl) (by kernel_rfl) ⟨by kernel_rfl, by kernel_rfl⟩ ⟨_, rfl⟩ ⟨_, rfl, by kernel_rfl, by kernel_rfl⟩ (by kernel_rfl) (fun h => nomatch h)
def ti15 : TI := ⟨.ptr, 1, 8, none, [.nilptr], [], 148, false⟩
theorem ti15_ok : TiOk Tryd.prog 15 ti15 := TiOk.of (z := (@Go.Value.pointer (@Option.none Go.Addr))) (d := (@Go.TypeDesc.pointer 148)) (by kernel_rfl) (by kernel_rfl) (by kernel_rfl) trivial rfl rfl (by kernel_rfl) (fun h => nomatch h)
def ti16 : TI := ⟨.ptr, 1, 8, none, [.nilptr], [], 151, false⟩
theorem ti16_ok : TiOk Tryd.prog 16 ti16 := TiOk.of (z := (@Go.Value.pointer (@Option.none Go.Addr))) (d := (@Go.TypeDesc.pointer 151)) (by kernel_rfl) (by kernel_rfl) (by kernel_rfl) trivial rfl rfl (by kernel_rfl) (fun h => nomatch h)
def ti17 : TI := ⟨.ptr, 1, 8, none, [.nilptr], [], 158, false⟩
theorem ti17_ok : TiOk Tryd.prog 17 ti17 := TiOk.of (z := (@Go.Value.pointer (@Option.none Go.Addr))) (d := (@Go.TypeDesc.pointer 158)) (by kernel_rfl) (by kernel_rfl) (by kernel_rfl) trivial rfl rfl (by kernel_rfl) (fun h => nomatch h)
def ti18 : TI := ⟨.struct, 1, 8, none, [.nilptr], [(0, 17)], 0, false⟩
theorem ti18_ok : TiOk Tryd.prog 18 ti18 := TiOk.of (z := (@Go.Value.agg (@Array.mk Go.Value (@List.cons Go.Value (@Go.Value.pointer (@Option.none Go.Addr)) (@List.nil Go.Value))))) (d := (@Go.TypeDesc.struct (@Array.mk Go.Field (@List.cons Go.Field (@Go.Field.mk "typ" 17 0 Bool.false "" "internal/runtime/maps" 0) (@List.nil Go.Field))))) (by kernel_rfl) (by kernel_rfl) (by kernel_rfl) trivial ⟨_, rfl⟩ ⟨_, rfl, by kernel_rfl, by kernel_rfl⟩ (by kernel_rfl) (fun h => nomatch h)
def ti19 : TI := ⟨.struct, 1, 8, none, [.nilptr], [(0, 17)], 0, false⟩
theorem ti19_ok : TiOk Tryd.prog 19 ti19 := TiOk.of (z := (@Go.Value.agg (@Array.mk Go.Value (@List.cons Go.Value (@Go.Value.pointer (@Option.none Go.Addr)) (@List.nil Go.Value))))) (d := (@Go.TypeDesc.struct (@Array.mk Go.Field (@List.cons Go.Field (@Go.Field.mk "typ" 17 0 Bool.false "" "internal/runtime/maps" 0) (@List.nil Go.Field))))) (by kernel_rfl) (by kernel_rfl) (by kernel_rfl) trivial ⟨_, rfl⟩ ⟨_, rfl, by kernel_rfl, by kernel_rfl⟩ (by kernel_rfl) (fun h => nomatch h)
def ti20 : TI := ⟨.iface, 1, 16, none, [.nilif], [], 0, false⟩
theorem ti20_ok : TiOk Tryd.prog 20 ti20 := TiOk.of (z := Go.Value.nilIface) (d := (@Go.TypeDesc.interface (@Array.mk (@Prod String Nat) (@List.nil (@Prod String Nat))))) (by kernel_rfl) (by kernel_rfl) (by kernel_rfl) trivial rfl ⟨_, rfl⟩ (by kernel_rfl) (fun h => nomatch h)
def ti21 : TI := ⟨.int .i32, 1, 4, some (.int .i32), [.v (.int .i32) 0], [], 0, false⟩
theorem ti21_ok : TiOk Tryd.prog 21 ti21 := TiOk.of (z := (@Go.Value.int Go.IntKind.i32 (@Int.ofNat 0))) (d := (@Go.TypeDesc.int Go.IntKind.i32)) (by kernel_rfl) (by kernel_rfl) (by kernel_rfl) ⟨by kernel_rfl, by kernel_rfl⟩ rfl rfl (by kernel_rfl) (fun h => nomatch h)
def ti22 : TI := ⟨.slice, 1, 24, some (.sl (.pr (.int .i64) (.pr (.int .i64) (.pr (.int .i64) (.pr .str .bool))))), [.nilsl], [], 25, false⟩
theorem ti22_ok : TiOk Tryd.prog 22 ti22 := TiOk.of (z := (@Go.Value.slice (@Option.none Go.Addr) 0 0)) (d := (@Go.TypeDesc.slice 25)) (by kernel_rfl) (by kernel_rfl) (by kernel_rfl) ⟨by kernel_rfl, by kernel_rfl⟩ rfl rfl (by kernel_rfl) (fun h => nomatch h)
def ti23 : TI := ⟨.other, 1, 8, none, [.un], [], 0, false⟩
theorem ti23_ok : TiOk Tryd.prog 23 ti23 := TiOk.of (z := Go.Value.nilFunc) (d := (@Go.TypeDesc.func (@Array.mk Nat (@List.nil Nat)) (@Array.mk Nat (@List.cons Nat 4 (@List.nil Nat))) Bool.false)) (by kernel_rfl) (by kernel_rfl) (by kernel_rfl) trivial rfl trivial (by kernel_rfl) (fun h => nomatch h)
def ti24 : TI := ⟨.struct, 5, 48, some (.pr (.int .i64) (.pr (.int .i64) (.pr (.int .i64) (.pr .str .bool)))), [.v (.int .i64) 0, .v (.int .i64) 0, .v (.int .i64) 0, .v .str [], .v .bool false], [(0, 3), (1, 3), (2, 3), (3, 9), (4, 4)], 0, true⟩
theorem ti24_ok : TiOk Tryd.prog 24 ti24 := TiOk.of (z := (@Go.Value.agg (@Array.mk Go.Value (@List.cons Go.Value (@Go.Value.int Go.IntKind.i64 (@Int.ofNat 0)) (@List.cons Go.Value (@Go.Value.int Go.IntKind.i64 (@Int.ofNat 0)) (@List.cons Go.Value (@Go.Value.int Go.IntKind.i64 (@Int.ofNat 0)) (@List.cons Go.Value (@Go.Value.string (@ByteArray.mk (@Array.mk UInt8 (@List.nil UInt8)))) (@List.cons Go.Value (@Go.Value.bool Bool.false) (@List.nil Go.Value))))))))) (d := (@Go.TypeDesc.struct (@Array.mk Go.Field (@List.cons Go.Field (@Go.Field.mk "Kind" 3 0 Bool.false "" "" 0) (@List.cons Go.Field (@Go.Field.mk "Line" 3 1 Bool.false "" "" 8) (@List.cons Go.Field (@Go.Field.mk "Col" 3 2 Bool.false "" "" 16) (@List.cons Go.Field (@Go.Field.mk "Text" 9 3 Bool.false "" "" 24) (@List.cons Go.Field (@Go.Field.mk "Quoted" 4 4 Bool.false "" "" 40) (@List.nil Go.Field))))))))) (by kernel_rfl) (by kernel_rfl) (by kernel_rfl) ⟨by kernel_rfl, by kernel_rfl⟩ ⟨_, rfl⟩ ⟨_, rfl, by kernel_rfl, by kernel_rfl⟩ (by kernel_rfl) (fun _ _ => by kernel_rfl)
def ti25 : TI := ⟨.struct, 5, 48, some (.pr (.int .i64) (.pr (.int .i64) (.pr (.int .i64) (.pr .str .bool)))), [.v (.int .i64) 0, .v (.int .i64) 0, .v (.int .i64) 0, .v .str [], .v .bool false], [(0, 3), (1, 3), (2, 3), (3, 9), (4, 4)], 0, true⟩
theorem ti25_ok : TiOk Tryd.prog 25 ti25 := TiOk.of (z := (@Go.Value.agg (@Array.mk Go.Value (@List.cons Go.Value (@Go.Value.int Go.IntKind.i64 (@Int.ofNat 0)) (@List.cons Go.Value (@Go.Value.int Go.IntKind.i64 (@Int.ofNat 0)) (@List.cons Go.Value (@Go.Value.int Go.IntKind.i64 (@Int.ofNat 0)) (@List.cons Go.Value (@Go.Value.string (@ByteArray.mk (@Array.mk UInt8 (@List.nil UInt8)))) (@List.cons Go.Value (@Go.Value.bool Bool.false) (@List.nil Go.Value))))))))) (d := (@Go.TypeDesc.struct (@Array.mk Go.Field (@List.cons Go.Field (@Go.Field.mk "Kind" 3 0 Bool.false "" "" 0) (@List.cons Go.Field (@Go.Field.mk "Line" 3 1 Bool.false "" "" 8) (@List.cons Go.Field (@Go.Field.mk "Col" 3 2 Bool.false "" "" 16) (@List.cons Go.Field (@Go.Field.mk "Text" 9 3 Bool.false "" "" 24) (@List.cons Go.Field (@Go.Field.mk "Quoted" 4 4 Bool.false "" "" 40) (@List.nil Go.Field))))))))) (by kernel_rfl) (by kernel_rfl) (by kernel_rfl) ⟨by kernel_rfl, by kernel_rfl⟩ ⟨_, rfl⟩ ⟨_, rfl, by kernel_rfl, by kernel_rfl⟩ (by kernel_rfl) (fun _ _ => by kernel_rfl)
def ti26 : TI := ⟨.slice, 1, 24, some (.sl (.pr (.int .i64) (.pr (.int .i64) (.pr .str (.pr .bool (.pr (.sl .str) (.sl (.int .i64)))))))), [.nilsl], [], 47, false⟩
theorem ti26_ok : TiOk Tryd.prog 26 ti26 := TiOk.of (z := (@Go.Value.slice (@Option.none Go.Addr) 0 0)) (d := (@Go.TypeDesc.slice 47)) (by kernel_rfl) (by kernel_rfl) (by kernel_rfl) ⟨by kernel_rfl, by kernel_rfl⟩ rfl rfl (by kernel_rfl) (fun h => nomatch h)
def ti28 : TI := ⟨.struct, 1, 24, some (.sl (.pr (.int .i64) (.pr (.int .i64) (.pr .str (.pr .bool (.pr (.sl .str) (.sl (.int .i64)))))))), [.nilsl], [(0, 26)], 0, false⟩
theorem ti28_ok : TiOk Tryd.prog 28 ti28 := TiOk.of (z := (@Go.Value.agg (@Array.mk Go.Value (@List.cons Go.Value (@Go.Value.slice (@Option.none Go.Addr) 0 0) (@List.nil Go.Value))))) (d := (@Go.TypeDesc.struct (@Array.mk Go.Field (@List.cons Go.Field (@Go.Field.mk "Nodes" 26 0 Bool.false "" "" 0) (@List.nil Go.Field))))) (by kernel_rfl) (by kernel_rfl) (by kernel_rfl) ⟨by kernel_rfl, by kernel_rfl⟩ ⟨_, rfl⟩ ⟨_, rfl, by kernel_rfl, by kernel_rfl⟩ (by kernel_rfl) (fun h => nomatch h)
def ti30 : TI := ⟨.struct, 2, 16, some (.pr (.int .i64) (.int .i64)), [.v (.int .i64) 0, .v (.int .i64) 0], [(0, 3), (1, 3)], 0, true⟩
theorem ti30_ok : TiOk Tryd.prog 30 ti30 := TiOk.of (z := (@Go.Value.agg (@Array.mk Go.Value (@List.cons Go.Value (@Go.Value.int Go.IntKind.i64 (@Int.ofNat 0)) (@List.cons Go.Value (@Go.Value.int Go.IntKind.i64 (@Int.ofNat 0)) (@List.nil Go.Value)))))) (d := (@Go.TypeDesc.struct (@Array.mk Go.Field (@List.cons Go.Field (@Go.Field.mk "Kind" 3 0 Bool.false "" "" 0) (@List.cons Go.Field (@Go.Field.mk "Line" 3 1 Bool.false "" "" 8) (@List.nil Go.Field)))))) (by kernel_rfl) (by kernel_rfl) (by kernel_rfl) ⟨by kernel_rfl, by kernel_rfl⟩ ⟨_, rfl⟩ ⟨_, rfl, by kernel_rfl, by kernel_rfl⟩ (by kernel_rfl) (fun _ _ => by kernel_rfl)
def ti35 : TI := ⟨.slice, 1, 24, some (.sl (.pr .str (.pr (.int .i64) (.int .i64)))), [.nilsl], [], 40, false⟩
theorem ti35_ok : TiOk Tryd.prog 35 ti35 := TiOk.of (z := (@Go.Value.slice (@Option.none Go.Addr) 0 0)) (d := (@Go.TypeDesc.slice 40)) (by kernel_rfl) (by kernel_rfl) (by kernel_rfl) ⟨by kernel_rfl, by kernel_rfl⟩ rfl rfl (by kernel_rfl) (fun h => nomatch h)
def ti38 : TI := ⟨.slice, 1, 24, some (.sl (.int .u8)), [.nilsl], [], 5, false⟩
theorem ti38_ok : TiOk Tryd.prog 38 ti38 := TiOk.of (z := (@Go.Value.slice (@Option.none Go.Addr) 0 0)) (d := (@Go.TypeDesc.slice 5)) (by kernel_rfl) (by kernel_rfl) (by kernel_rfl) ⟨by kernel_rfl, by kernel_rfl⟩ rfl rfl (by kernel_rfl) (fun h => nomatch h)
def ti40 : TI := ⟨.struct, 3, 32, some (.pr .str (.pr (.int .i64) (.int .i64))), [.v .str [], .v (.int .i64) 0, .v (.int .i64) 0], [(0, 9), (1, 3), (2, 3)], 0, true⟩
theorem ti40_ok : TiOk Tryd.prog 40 ti40 := TiOk.of (z := (@Go.Value.agg (@Array.mk Go.Value (@List.cons Go.Value (@Go.Value.string (@ByteArray.mk (@Array.mk UInt8 (@List.nil UInt8)))) (@List.cons Go.Value (@Go.Value.int Go.IntKind.i64 (@Int.ofNat 0)) (@List.cons Go.Value (@Go.Value.int Go.IntKind.i64 (@Int.ofNat 0)) (@List.nil Go.Value))))))) (d := (@Go.TypeDesc.struct (@Array.mk Go.Field (@List.cons Go.Field (@Go.Field.mk "text" 9 0 Bool.false "" "turncock/turncocklaw12" 0) (@List.cons Go.Field (@Go.Field.mk "kind" 3 1 Bool.false "" "turncock/turncocklaw12" 16) (@List.cons Go.Field (@Go.Field.mk "line" 3 2 Bool.false "" "turncock/turncocklaw12" 24) (@List.nil Go.Field))))))) (by kernel_rfl) (by kernel_rfl) (by kernel_rfl) ⟨by kernel_rfl, by kernel_rfl⟩ ⟨_, rfl⟩ ⟨_, rfl, by kernel_rfl, by kernel_rfl⟩ (by kernel_rfl) (fun _ _ => by kernel_rfl)
def ti44 : TI := ⟨.slice, 1, 24, some (.sl .str), [.nilsl], [], 9, false⟩
theorem ti44_ok : TiOk Tryd.prog 44 ti44 := TiOk.of (z := (@Go.Value.slice (@Option.none Go.Addr) 0 0)) (d := (@Go.TypeDesc.slice 9)) (by kernel_rfl) (by kernel_rfl) (by kernel_rfl) ⟨by kernel_rfl, by kernel_rfl⟩ rfl rfl (by kernel_rfl) (fun h => nomatch h)
def ti45 : TI := ⟨.slice, 1, 24, some (.sl (.int .i64)), [.nilsl], [], 3, false⟩
theorem ti45_ok : TiOk Tryd.prog 45 ti45 := TiOk.of (z := (@Go.Value.slice (@Option.none Go.Addr) 0 0)) (d := (@Go.TypeDesc.slice 3)) (by kernel_rfl) (by kernel_rfl) (by kernel_rfl) ⟨by kernel_rfl, by kernel_rfl⟩ rfl rfl (by kernel_rfl) (fun h => nomatch h)
def ti47 : TI := ⟨.struct, 6, 88, some (.pr (.int .i64) (.pr (.int .i64) (.pr .str (.pr .bool (.pr (.sl .str) (.sl (.int .i64))))))), [.v (.int .i64) 0, .v (.int .i64) 0, .v .str [], .v .bool false, .nilsl, .nilsl], [(0, 3), (1, 3), (2, 9), (3, 4), (4, 44), (5, 45)], 0, false⟩
theorem ti47_ok : TiOk Tryd.prog 47 ti47 := TiOk.of (z := (@Go.Value.agg (@Array.mk Go.Value (@List.cons Go.Value (@Go.Value.int Go.IntKind.i64 (@Int.ofNat 0)) (@List.cons Go.Value (@Go.Value.int Go.IntKind.i64 (@Int.ofNat 0)) (@List.cons Go.Value (@Go.Value.string (@ByteArray.mk (@Array.mk UInt8 (@List.nil UInt8)))) (@List.cons Go.Value (@Go.Value.bool Bool.false) (@List.cons Go.Value (@Go.Value.slice (@Option.none Go.Addr) 0 0) (@List.cons Go.Value (@Go.Value.slice (@Option.none Go.Addr) 0 0) (@List.nil Go.Value)))))))))) (d := (@Go.TypeDesc.struct (@Array.mk Go.Field (@List.cons Go.Field (@Go.Field.mk "Kind" 3 0 Bool.false "" "" 0) (@List.cons Go.Field (@Go.Field.mk "Line" 3 1 Bool.false "" "" 8) (@List.cons Go.Field (@Go.Field.mk "Text" 9 2 Bool.false "" "" 16) (@List.cons Go.Field (@Go.Field.mk "Quoted" 4 3 Bool.false "" "" 32) (@List.cons Go.Field (@Go.Field.mk "Keys" 44 4 Bool.false "" "" 40) (@List.cons Go.Field (@Go.Field.mk "Kids" 45 5 Bool.false "" "" 64) (@List.nil Go.Field)))))))))) (by kernel_rfl) (by kernel_rfl) (by kernel_rfl) ⟨by kernel_rfl, by kernel_rfl⟩ ⟨_, rfl⟩ ⟨_, rfl, by kernel_rfl, by kernel_rfl⟩ (by kernel_rfl) (fun h => nomatch h)
def ti49 : TI := ⟨.ptr, 1, 8, none, [.nilptr], [], 51, false⟩
theorem ti49_ok : TiOk Tryd.prog 49 ti49 := TiOk.of (z := (@Go.Value.pointer (@Option.none Go.Addr))) (d := (@Go.TypeDesc.pointer 51)) (by kernel_rfl) (by kernel_rfl) (by kernel_rfl) trivial rfl rfl (by kernel_rfl) (fun h => nomatch h)
def ti51 : TI := ⟨.struct, 2, 48, some (.pr (.sl (.pr (.int .i64) (.pr (.int .i64) (.pr (.int .i64) (.pr .str .bool))))) (.sl (.pr (.int .i64) (.pr (.int .i64) (.pr .str (.pr .bool (.pr (.sl .str) (.sl (.int .i64))))))))), [.nilsl, .nilsl], [(0, 22), (1, 28)], 0, false⟩
theorem ti51_ok : TiOk Tryd.prog 51 ti51 := TiOk.of (z := (@Go.Value.agg (@Array.mk Go.Value (@List.cons Go.Value (@Go.Value.slice (@Option.none Go.Addr) 0 0) (@List.cons Go.Value (@Go.Value.slice (@Option.none Go.Addr) 0 0) (@List.nil Go.Value)))))) (d := (@Go.TypeDesc.struct (@Array.mk Go.Field (@List.cons Go.Field (@Go.Field.mk "l" 22 0 Bool.false "" "turncock/doc" 0) (@List.cons Go.Field (@Go.Field.mk "d" 28 1 Bool.false "" "turncock/doc" 24) (@List.nil Go.Field)))))) (by kernel_rfl) (by kernel_rfl) (by kernel_rfl) ⟨by kernel_rfl, by kernel_rfl⟩ ⟨_, rfl⟩ ⟨_, rfl, by kernel_rfl, by kernel_rfl⟩ (by kernel_rfl) (fun h => nomatch h)
def ti53 : TI := ⟨.ptr, 1, 8, none, [.nilptr], [], 55, false⟩
theorem ti53_ok : TiOk Tryd.prog 53 ti53 := TiOk.of (z := (@Go.Value.pointer (@Option.none Go.Addr))) (d := (@Go.TypeDesc.pointer 55)) (by kernel_rfl) (by kernel_rfl) (by kernel_rfl) trivial rfl rfl (by kernel_rfl) (fun h => nomatch h)
def ti54 : TI := ⟨.struct, 5, 72, some (.pr (.sl (.pr (.int .i64) (.pr (.int .i64) (.pr (.int .i64) (.pr .str .bool))))) (.pr (.int .i64) (.pr (.sl (.pr (.int .i64) (.pr (.int .i64) (.pr .str (.pr .bool (.pr (.sl .str) (.sl (.int .i64)))))))) (.pr (.int .i64) (.int .i64))))), [.nilsl, .v (.int .i64) 0, .nilsl, .v (.int .i64) 0, .v (.int .i64) 0], [(0, 22), (1, 3), (2, 26), (3, 30)], 0, false⟩
theorem ti54_ok : TiOk Tryd.prog 54 ti54 := TiOk.of (z := (@Go.Value.agg (@Array.mk Go.Value (@List.cons Go.Value (@Go.Value.slice (@Option.none Go.Addr) 0 0) (@List.cons Go.Value (@Go.Value.int Go.IntKind.i64 (@Int.ofNat 0)) (@List.cons Go.Value (@Go.Value.slice (@Option.none Go.Addr) 0 0) (@List.cons Go.Value (@Go.Value.int Go.IntKind.i64 (@Int.ofNat 0)) (@List.cons Go.Value (@Go.Value.int Go.IntKind.i64 (@Int.ofNat 0)) (@List.nil Go.Value))))))))) (d := (@Go.TypeDesc.struct (@Array.mk Go.Field (@List.cons Go.Field (@Go.Field.mk "l" 22 0 Bool.false "" "turncock/turncockref10" 0) (@List.cons Go.Field (@Go.Field.mk "at" 3 1 Bool.false "" "turncock/turncockref10" 24) (@List.cons Go.Field (@Go.Field.mk "nodes" 26 2 Bool.false "" "turncock/turncockref10" 32) (@List.cons Go.Field (@Go.Field.mk "fault" 30 3 Bool.false "" "turncock/turncockref10" 56) (@List.nil Go.Field)))))))) (by kernel_rfl) (by kernel_rfl) (by kernel_rfl) ⟨by kernel_rfl, by kernel_rfl⟩ ⟨_, rfl⟩ ⟨_, rfl, by kernel_rfl, by kernel_rfl⟩ (by kernel_rfl) (fun h => nomatch h)
def ti55 : TI := ⟨.struct, 5, 72, some (.pr (.sl (.pr (.int .i64) (.pr (.int .i64) (.pr (.int .i64) (.pr .str .bool))))) (.pr (.int .i64) (.pr (.sl (.pr (.int .i64) (.pr (.int .i64) (.pr .str (.pr .bool (.pr (.sl .str) (.sl (.int .i64)))))))) (.pr (.int .i64) (.int .i64))))), [.nilsl, .v (.int .i64) 0, .nilsl, .v (.int .i64) 0, .v (.int .i64) 0], [(0, 22), (1, 3), (2, 26), (3, 30)], 0, false⟩
theorem ti55_ok : TiOk Tryd.prog 55 ti55 := TiOk.of (z := (@Go.Value.agg (@Array.mk Go.Value (@List.cons Go.Value (@Go.Value.slice (@Option.none Go.Addr) 0 0) (@List.cons Go.Value (@Go.Value.int Go.IntKind.i64 (@Int.ofNat 0)) (@List.cons Go.Value (@Go.Value.slice (@Option.none Go.Addr) 0 0) (@List.cons Go.Value (@Go.Value.int Go.IntKind.i64 (@Int.ofNat 0)) (@List.cons Go.Value (@Go.Value.int Go.IntKind.i64 (@Int.ofNat 0)) (@List.nil Go.Value))))))))) (d := (@Go.TypeDesc.struct (@Array.mk Go.Field (@List.cons Go.Field (@Go.Field.mk "l" 22 0 Bool.false "" "turncock/turncockref10" 0) (@List.cons Go.Field (@Go.Field.mk "at" 3 1 Bool.false "" "turncock/turncockref10" 24) (@List.cons Go.Field (@Go.Field.mk "nodes" 26 2 Bool.false "" "turncock/turncockref10" 32) (@List.cons Go.Field (@Go.Field.mk "fault" 30 3 Bool.false "" "turncock/turncockref10" 56) (@List.nil Go.Field)))))))) (by kernel_rfl) (by kernel_rfl) (by kernel_rfl) ⟨by kernel_rfl, by kernel_rfl⟩ ⟨_, rfl⟩ ⟨_, rfl, by kernel_rfl, by kernel_rfl⟩ (by kernel_rfl) (fun h => nomatch h)
def ti56 : TI := ⟨.slice, 1, 24, some (.sl (.pr (.int .i64) (.pr (.int .i64) .str))), [.nilsl], [], 86, false⟩
theorem ti56_ok : TiOk Tryd.prog 56 ti56 := TiOk.of (z := (@Go.Value.slice (@Option.none Go.Addr) 0 0)) (d := (@Go.TypeDesc.slice 86)) (by kernel_rfl) (by kernel_rfl) (by kernel_rfl) ⟨by kernel_rfl, by kernel_rfl⟩ rfl rfl (by kernel_rfl) (fun h => nomatch h)
def ti61 : TI := ⟨.int .u64, 1, 8, some (.int .u64), [.v (.int .u64) 0], [], 0, false⟩
theorem ti61_ok : TiOk Tryd.prog 61 ti61 := TiOk.of (z := (@Go.Value.int Go.IntKind.u64 (@Int.ofNat 0))) (d := (@Go.TypeDesc.int Go.IntKind.u64)) (by kernel_rfl) (by kernel_rfl) (by kernel_rfl) ⟨by kernel_rfl, by kernel_rfl⟩ rfl rfl (by kernel_rfl) (fun h => nomatch h)
def ti65 : TI := ⟨.ptr, 1, 8, none, [.nilptr], [], 67, false⟩
theorem ti65_ok : TiOk Tryd.prog 65 ti65 := TiOk.of (z := (@Go.Value.pointer (@Option.none Go.Addr))) (d := (@Go.TypeDesc.pointer 67)) (by kernel_rfl) (by kernel_rfl) (by kernel_rfl) trivial rfl rfl (by kernel_rfl) (fun h => nomatch h)
def ti67 : TI := ⟨.struct, 2, 32, none, [.nilptr, .nilsl], [(0, 65), (1, 38)], 0, false⟩
theorem ti67_ok : TiOk Tryd.prog 67 ti67 := TiOk.of (z := (@Go.Value.agg (@Array.mk Go.Value (@List.cons Go.Value (@Go.Value.pointer (@Option.none Go.Addr)) (@List.cons Go.Value (@Go.Value.slice (@Option.none Go.Addr) 0 0) (@List.nil Go.Value)))))) (d := (@Go.TypeDesc.struct (@Array.mk Go.Field (@List.cons Go.Field (@Go.Field.mk "addr" 65 0 Bool.false "" "strings" 0) (@List.cons Go.Field (@Go.Field.mk "buf" 38 1 Bool.false "" "strings" 8) (@List.nil Go.Field)))))) (by kernel_rfl) (by kernel_rfl) (by kernel_rfl) trivial ⟨_, rfl⟩ ⟨_, rfl, by kernel_rfl, by kernel_rfl⟩ (by kernel_rfl) (fun h => nomatch h)
def ti70 : TI := ⟨.iface, 1, 16, none, [.nilif], [], 0, false⟩
theorem ti70_ok : TiOk Tryd.prog 70 ti70 := TiOk.of (z := Go.Value.nilIface) (d := (@Go.TypeDesc.interface (@Array.mk (@Prod String Nat) (@List.cons (@Prod String Nat) (@Prod.mk String Nat "Error" 74) (@List.nil (@Prod String Nat)))))) (by kernel_rfl) (by kernel_rfl) (by kernel_rfl) trivial rfl ⟨_, rfl⟩ (by kernel_rfl) (fun h => nomatch h)
def ti78 : TI := ⟨.slice, 1, 24, some (.sl (.sl (.int .u8))), [.nilsl], [], 38, false⟩
theorem ti78_ok : TiOk Tryd.prog 78 ti78 := TiOk.of (z := (@Go.Value.slice (@Option.none Go.Addr) 0 0)) (d := (@Go.TypeDesc.slice 38)) (by kernel_rfl) (by kernel_rfl) (by kernel_rfl) ⟨by kernel_rfl, by kernel_rfl⟩ rfl rfl (by kernel_rfl) (fun h => nomatch h)
def ti81 : TI := ⟨.other, 1, 8, none, [.un], [], 0, false⟩
theorem ti81_ok : TiOk Tryd.prog 81 ti81 := TiOk.of (z := Go.Value.nilFunc) (d := (@Go.TypeDesc.func (@Array.mk Nat (@List.cons Nat 21 (@List.nil Nat))) (@Array.mk Nat (@List.cons Nat 4 (@List.nil Nat))) Bool.false)) (by kernel_rfl) (by kernel_rfl) (by kernel_rfl) trivial rfl trivial (by kernel_rfl) (fun h => nomatch h)
def ti86 : TI := ⟨.struct, 3, 32, some (.pr (.int .i64) (.pr (.int .i64) .str)), [.v (.int .i64) 0, .v (.int .i64) 0, .v .str []], [(0, 3), (1, 3), (2, 9)], 0, true⟩
theorem ti86_ok : TiOk Tryd.prog 86 ti86 := TiOk.of (z := (@Go.Value.agg (@Array.mk Go.Value (@List.cons Go.Value (@Go.Value.int Go.IntKind.i64 (@Int.ofNat 0)) (@List.cons Go.Value (@Go.Value.int Go.IntKind.i64 (@Int.ofNat 0)) (@List.cons Go.Value (@Go.Value.string (@ByteArray.mk (@Array.mk UInt8 (@List.nil UInt8)))) (@List.nil Go.Value))))))) (d := (@Go.TypeDesc.struct (@Array.mk Go.Field (@List.cons Go.Field (@Go.Field.mk "No" 3 0 Bool.false "" "" 0) (@List.cons Go.Field (@Go.Field.mk "Indent" 3 1 Bool.false "" "" 8) (@List.cons Go.Field (@Go.Field.mk "Text" 9 2 Bool.false "" "" 16) (@List.nil Go.Field))))))) (by kernel_rfl) (by kernel_rfl) (by kernel_rfl) ⟨by kernel_rfl, by kernel_rfl⟩ ⟨_, rfl⟩ ⟨_, rfl, by kernel_rfl, by kernel_rfl⟩ (by kernel_rfl) (fun _ _ => by kernel_rfl)
def ti88 : TI := ⟨.int .u32, 1, 4, some (.int .u32), [.v (.int .u32) 0], [], 0, false⟩
theorem ti88_ok : TiOk Tryd.prog 88 ti88 := TiOk.of (z := (@Go.Value.int Go.IntKind.u32 (@Int.ofNat 0))) (d := (@Go.TypeDesc.int Go.IntKind.u32)) (by kernel_rfl) (by kernel_rfl) (by kernel_rfl) ⟨by kernel_rfl, by kernel_rfl⟩ rfl rfl (by kernel_rfl) (fun h => nomatch h)
def ti91 : TI := ⟨.int .u64, 1, 8, some (.int .u64), [.v (.int .u64) 0], [], 0, false⟩
theorem ti91_ok : TiOk Tryd.prog 91 ti91 := TiOk.of (z := (@Go.Value.int Go.IntKind.u64 (@Int.ofNat 0))) (d := (@Go.TypeDesc.int Go.IntKind.u64)) (by kernel_rfl) (by kernel_rfl) (by kernel_rfl) ⟨by kernel_rfl, by kernel_rfl⟩ rfl rfl (by kernel_rfl) (fun h => nomatch h)
def ti94 : TI := ⟨.ptr, 1, 8, none, [.nilptr], [], 5, false⟩
theorem ti94_ok : TiOk Tryd.prog 94 ti94 := TiOk.of (z := (@Go.Value.pointer (@Option.none Go.Addr))) (d := (@Go.TypeDesc.pointer 5)) (by kernel_rfl) (by kernel_rfl) (by kernel_rfl) trivial rfl rfl (by kernel_rfl) (fun h => nomatch h)
def ti97 : TI := ⟨.ptr, 1, 8, none, [.nilptr], [], 47, false⟩
theorem ti97_ok : TiOk Tryd.prog 97 ti97 := TiOk.of (z := (@Go.Value.pointer (@Option.none Go.Addr))) (d := (@Go.TypeDesc.pointer 47)) (by kernel_rfl) (by kernel_rfl) (by kernel_rfl) trivial rfl rfl (by kernel_rfl) (fun h => nomatch h)
def ti106 : TI := ⟨.ptr, 1, 8, none, [.nilptr], [], 102, false⟩
theorem ti106_ok : TiOk Tryd.prog 106 ti106 := TiOk.of (z := (@Go.Value.pointer (@Option.none Go.Addr))) (d := (@Go.TypeDesc.pointer 102)) (by kernel_rfl) (by kernel_rfl) (by kernel_rfl) trivial rfl rfl (by kernel_rfl) (fun h => nomatch h)
def ti109 : TI := ⟨.ptr, 1, 8, none, [.nilptr], [], 111, false⟩
theorem ti109_ok : TiOk Tryd.prog 109 ti109 := TiOk.of (z := (@Go.Value.pointer (@Option.none Go.Addr))) (d := (@Go.TypeDesc.pointer 111)) (by kernel_rfl) (by kernel_rfl) (by kernel_rfl) trivial rfl rfl (by kernel_rfl) (fun h => nomatch h)
def ti111 : TI := ⟨.struct, 5, 64, some (.pr (.pr (.int .i64) (.pr (.int .i64) .str)) (.pr (.int .i64) (.sl (.pr (.int .i64) (.pr (.int .i64) (.pr (.int .i64) (.pr .str .bool))))))), [.v (.int .i64) 0, .v (.int .i64) 0, .v .str [], .v (.int .i64) 0, .nilsl], [(0, 86), (3, 3), (4, 22)], 0, false⟩
theorem ti111_ok : TiOk Tryd.prog 111 ti111 := TiOk.of (z := (@Go.Value.agg (@Array.mk Go.Value (@List.cons Go.Value (@Go.Value.int Go.IntKind.i64 (@Int.ofNat 0)) (@List.cons Go.Value (@Go.Value.int Go.IntKind.i64 (@Int.ofNat 0)) (@List.cons Go.Value (@Go.Value.string (@ByteArray.mk (@Array.mk UInt8 (@List.nil UInt8)))) (@List.cons Go.Value (@Go.Value.int Go.IntKind.i64 (@Int.ofNat 0)) (@List.cons Go.Value (@Go.Value.slice (@Option.none Go.Addr) 0 0) (@List.nil Go.Value))))))))) (d := (@Go.TypeDesc.struct (@Array.mk Go.Field (@List.cons Go.Field (@Go.Field.mk "l" 86 0 Bool.false "" "turncock/lex" 0) (@List.cons Go.Field (@Go.Field.mk "at" 3 3 Bool.false "" "turncock/lex" 32) (@List.cons Go.Field (@Go.Field.mk "out" 22 4 Bool.false "" "turncock/lex" 40) (@List.nil Go.Field))))))) (by kernel_rfl) (by kernel_rfl) (by kernel_rfl) ⟨by kernel_rfl, by kernel_rfl⟩ ⟨_, rfl⟩ ⟨_, rfl, by kernel_rfl, by kernel_rfl⟩ (by kernel_rfl) (fun h => nomatch h)
def ti148 : TI := ⟨.struct, 4, 40, none, [.nilptr, .nilptr, .nilptr, .v .str []], [(0, 17), (1, 17), (2, 17), (3, 9)], 0, false⟩
theorem ti148_ok : TiOk Tryd.prog 148 ti148 := TiOk.of (z := (@Go.Value.agg (@Array.mk Go.Value (@List.cons Go.Value (@Go.Value.pointer (@Option.none Go.Addr)) (@List.cons Go.Value (@Go.Value.pointer (@Option.none Go.Addr)) (@List.cons Go.Value (@Go.Value.pointer (@Option.none Go.Addr)) (@List.cons Go.Value (@Go.Value.string (@ByteArray.mk (@Array.mk UInt8 (@List.nil UInt8)))) (@List.nil Go.Value)))))))) (d := (@Go.TypeDesc.struct (@Array.mk Go.Field (@List.cons Go.Field (@Go.Field.mk "_interface" 17 0 Bool.false "" "runtime" 0) (@List.cons Go.Field (@Go.Field.mk "concrete" 17 1 Bool.false "" "runtime" 8) (@List.cons Go.Field (@Go.Field.mk "asserted" 17 2 Bool.false "" "runtime" 16) (@List.cons Go.Field (@Go.Field.mk "missingMethod" 9 3 Bool.false "" "runtime" 24) (@List.nil Go.Field)))))))) (by kernel_rfl) (by kernel_rfl) (by kernel_rfl) trivial ⟨_, rfl⟩ ⟨_, rfl, by kernel_rfl, by kernel_rfl⟩ (by kernel_rfl) (fun h => nomatch h)
def ti151 : TI := ⟨.struct, 0, 0, none, [], [(0, 149)], 0, false⟩
theorem ti151_ok : TiOk Tryd.prog 151 ti151 := TiOk.of (z := (@Go.Value.agg (@Array.mk Go.Value (@List.nil Go.Value)))) (d := (@Go.TypeDesc.struct (@Array.mk Go.Field (@List.cons Go.Field (@Go.Field.mk "_" 149 0 Bool.false "" "runtime" 0) (@List.nil Go.Field))))) (by kernel_rfl) (by kernel_rfl) (by kernel_rfl) trivial ⟨_, rfl⟩ ⟨_, rfl, by kernel_rfl, by kernel_rfl⟩ (by kernel_rfl) (fun h => nomatch h)
def ti152 : TI := ⟨.int .u8, 1, 1, some (.int .u8), [.v (.int .u8) 0], [], 0, false⟩
theorem ti152_ok : TiOk Tryd.prog 152 ti152 := TiOk.of (z := (@Go.Value.int Go.IntKind.u8 (@Int.ofNat 0))) (d := (@Go.TypeDesc.int Go.IntKind.u8)) (by kernel_rfl) (by kernel_rfl) (by kernel_rfl) ⟨by kernel_rfl, by kernel_rfl⟩ rfl rfl (by kernel_rfl) (fun h => nomatch h)
def ti153 : TI := ⟨.int .u8, 1, 1, some (.int .u8), [.v (.int .u8) 0], [], 0, false⟩
theorem ti153_ok : TiOk Tryd.prog 153 ti153 := TiOk.of (z := (@Go.Value.int Go.IntKind.u8 (@Int.ofNat 0))) (d := (@Go.TypeDesc.int Go.IntKind.u8)) (by kernel_rfl) (by kernel_rfl) (by kernel_rfl) ⟨by kernel_rfl, by kernel_rfl⟩ rfl rfl (by kernel_rfl) (fun h => nomatch h)
def ti154 : TI := ⟨.other, 1, 8, none, [.un], [], 0, false⟩
theorem ti154_ok : TiOk Tryd.prog 154 ti154 := TiOk.of (z := Go.Value.nilFunc) (d := (@Go.TypeDesc.func (@Array.mk Nat (@List.cons Nat 112 (@List.cons Nat 112 (@List.nil Nat)))) (@Array.mk Nat (@List.cons Nat 4 (@List.nil Nat))) Bool.false)) (by kernel_rfl) (by kernel_rfl) (by kernel_rfl) trivial rfl trivial (by kernel_rfl) (fun h => nomatch h)
def ti155 : TI := ⟨.int .i32, 1, 4, some (.int .i32), [.v (.int .i32) 0], [], 0, false⟩
theorem ti155_ok : TiOk Tryd.prog 155 ti155 := TiOk.of (z := (@Go.Value.int Go.IntKind.i32 (@Int.ofNat 0))) (d := (@Go.TypeDesc.int Go.IntKind.i32)) (by kernel_rfl) (by kernel_rfl) (by kernel_rfl) ⟨by kernel_rfl, by kernel_rfl⟩ rfl rfl (by kernel_rfl) (fun h => nomatch h)
def ti156 : TI := ⟨.int .i32, 1, 4, some (.int .i32), [.v (.int .i32) 0], [], 0, false⟩
theorem ti156_ok : TiOk Tryd.prog 156 ti156 := TiOk.of (z := (@Go.Value.int Go.IntKind.i32 (@Int.ofNat 0))) (d := (@Go.TypeDesc.int Go.IntKind.i32)) (by kernel_rfl) (by kernel_rfl) (by kernel_rfl) ⟨by kernel_rfl, by kernel_rfl⟩ rfl rfl (by kernel_rfl) (fun h => nomatch h)
def ti158 : TI := ⟨.struct, 11, 48, none, [.v (.int .u64) 0, .v (.int .u64) 0, .v (.int .u32) 0, .v (.int .u8) 0, .v (.int .u8) 0, .v (.int .u8) 0, .v (.int .u8) 0, .un, .nilptr, .v (.int .i32) 0, .v (.int .i32) 0], [(0, 12), (1, 12), (2, 88), (3, 152), (4, 5), (5, 5), (6, 153), (7, 154), (8, 94), (9, 155), (10, 156)], 0, false⟩
theorem ti158_ok : TiOk Tryd.prog 158 ti158 := TiOk.of (z := (@Go.Value.agg (@Array.mk Go.Value (@List.cons Go.Value (@Go.Value.int Go.IntKind.u64 (@Int.ofNat 0)) (@List.cons Go.Value (@Go.Value.int Go.IntKind.u64 (@Int.ofNat 0)) (@List.cons Go.Value (@Go.Value.int Go.IntKind.u32 (@Int.ofNat 0)) (@List.cons Go.Value (@Go.Value.int Go.IntKind.u8 (@Int.ofNat 0)) (@List.cons Go.Value (@Go.Value.int Go.IntKind.u8 (@Int.ofNat 0)) (@List.cons Go.Value (@Go.Value.int Go.IntKind.u8 (@Int.ofNat 0)) (@List.cons Go.Value (@Go.Value.int Go.IntKind.u8 (@Int.ofNat 0)) (@List.cons Go.Value Go.Value.nilFunc (@List.cons Go.Value (@Go.Value.pointer (@Option.none Go.Addr)) (@List.cons Go.Value (@Go.Value.int Go.IntKind.i32 (@Int.ofNat 0)) (@List.cons Go.Value (@Go.Value.int Go.IntKind.i32 (@Int.ofNat 0)) (@List.nil Go.Value))))))))))))))) (d := (@Go.TypeDesc.struct (@Array.mk Go.Field (@List.cons Go.Field (@Go.Field.mk "Size_" 12 0 Bool.false "" "" 0) (@List.cons Go.Field (@Go.Field.mk "PtrBytes" 12 1 Bool.false "" "" 8) (@List.cons Go.Field (@Go.Field.mk "Hash" 88 2 Bool.false "" "" 16) (@List.cons Go.Field (@Go.Field.mk "TFlag" 152 3 Bool.false "" "" 20) (@List.cons Go.Field (@Go.Field.mk "Align_" 5 4 Bool.false "" "" 21) (@List.cons Go.Field (@Go.Field.mk "FieldAlign_" 5 5 Bool.false "" "" 22) (@List.cons Go.Field (@Go.Field.mk "Kind_" 153 6 Bool.false "" "" 23) (@List.cons Go.Field (@Go.Field.mk "Equal" 154 7 Bool.false "" "" 24) (@List.cons Go.Field (@Go.Field.mk "GCData" 94 8 Bool.false "" "" 32) (@List.cons Go.Field (@Go.Field.mk "Str" 155 9 Bool.false "" "" 40) (@List.cons Go.Field (@Go.Field.mk "PtrToThis" 156 10 Bool.false "" "" 44) (@List.nil Go.Field))))))))))))))) (by kernel_rfl) (by kernel_rfl) (by kernel_rfl) trivial ⟨_, rfl⟩ ⟨_, rfl, by kernel_rfl, by kernel_rfl⟩ (by kernel_rfl) (fun h => nomatch h)
def tyL : List (Nat × TI) := [(1, ti1), (2, ti2), (3, ti3), (4, ti4), (5, ti5), (6, ti6), (7, ti7), (8, ti8), (9, ti9), (10, ti10), (11, ti11), (12, ti12), (13, ti13), (14, ti14), (15, ti15), (16, ti16), (17, ti17), (18, ti18), (19, ti19), (20, ti20), (21, ti21), (22, ti22), (23, ti23), (24, ti24), (25, ti25), (26, ti26), (28, ti28), (30, ti30), (35, ti35), (38, ti38), (40, ti40), (44, ti44), (45, ti45), (47, ti47), (49, ti49), (51, ti51), (53, ti53), (54, ti54), (55, ti55), (56, ti56), (61, ti61), (65, ti65), (67, ti67), (70, ti70), (78, ti78), (81, ti81), (86, ti86), (88, ti88), (91, ti91), (94, ti94), (97, ti97), (106, ti106), (109, ti109), (111, ti111), (148, ti148), (151, ti151), (152, ti152), (153, ti153), (154, ti154), (155, ti155), (156, ti156), (158, ti158)]
def tyT : TypeId → Option TI := look tyL
theorem tyT_ok : TyOk Tryd.prog tyT := tyOk_of (all_cons ti1_ok (all_cons ti2_ok (all_cons ti3_ok (all_cons ti4_ok (all_cons ti5_ok (all_cons ti6_ok (all_cons ti7_ok (all_cons ti8_ok (all_cons ti9_ok (all_cons ti10_ok (all_cons ti11_ok (all_cons ti12_ok (all_cons ti13_ok (all_cons ti14_ok (all_cons ti15_ok (all_cons ti16_ok (all_cons ti17_ok (all_cons ti18_ok (all_cons ti19_ok (all_cons ti20_ok (all_cons ti21_ok (all_cons ti22_ok (all_cons ti23_ok (all_cons ti24_ok (all_cons ti25_ok (all_cons ti26_ok (all_cons ti28_ok (all_cons ti30_ok (all_cons ti35_ok (all_cons ti38_ok (all_cons ti40_ok (all_cons ti44_ok (all_cons ti45_ok (all_cons ti47_ok (all_cons ti49_ok (all_cons ti51_ok (all_cons ti53_ok (all_cons ti54_ok (all_cons ti55_ok (all_cons ti56_ok (all_cons ti61_ok (all_cons ti65_ok (all_cons ti67_ok (all_cons ti70_ok (all_cons ti78_ok (all_cons ti81_ok (all_cons ti86_ok (all_cons ti88_ok (all_cons ti91_ok (all_cons ti94_ok (all_cons ti97_ok (all_cons ti106_ok (all_cons ti109_ok (all_cons ti111_ok (all_cons ti148_ok (all_cons ti151_ok (all_cons ti152_ok (all_cons ti153_ok (all_cons ti154_ok (all_cons ti155_ok (all_cons ti156_ok (all_cons ti158_ok (all_nil)))))))))))))))))))))))))))))))))))))))))))))))))))))))))))))))
end Go.Proofs.YtpfbdepoammjmaaDoor.Pvm

set_option maxRecDepth 1000000
set_option maxHeartbeats 0
namespace Go.Proofs.YtpfbdepoammjmaaDoor.Pvm
open Go Go.Proofs
def wqpl : List LS := [.obj 1 [.sl (.pr (.int .i64) (.pr (.int .i64) (.pr .str (.pr .bool (.pr (.sl .str) (.sl (.int .i64)))))))], .obj 2 [.any, .any]]
noncomputable def wqpm (k : Nat) : CTab := CTab.nil
def wqde {R : Type} (K : ((List (Int × (Int × ((List UInt8) × (Bool × ((List (List UInt8)) × (List Int))))))) → Int → Int → Option R)) : Out → Option R
  | .ret [] [(1, .var 28 [.v (.sl (.pr (.int .i64) (.pr (.int .i64) (.pr .str (.pr .bool (.pr (.sl .str) (.sl (.int .i64)))))))) y0]), (2, .var 30 [.v (.int .i64) y1, .v (.int .i64) y2])] => K y0 y1 y2
  | _ => none
def wqnv : RetSpec := ⟨[], [(1, .obj 1 [.sl (.pr (.int .i64) (.pr (.int .i64) (.pr .str (.pr .bool (.pr (.sl .str) (.sl (.int .i64)))))))]), (2, .obj 2 [.any, .any])], []⟩
def wqru : List (Nat × CutSpec) := []
def wqpn : List (Nat × Plan) := [(7, (.of [(0, 1), (1, 2), (2, 0), (3, 0)] .done))]
noncomputable def wqgr (k : Nat) : Ctx := ⟨tyT, wqru, wqpm k, [], [1, 2], wqpn, @SH⟩
noncomputable def wqac : Code := Tryd.f14.body.getD .skip
noncomputable def wqpo (k : Nat) {R : Type}  (x0 : (List (Int × (Int × ((List UInt8) × (Bool × ((List (List UInt8)) × (List Int)))))))) (x1 x2 : Int) (K : ((List (Int × (Int × ((List UInt8) × (Bool × ((List (List UInt8)) × (List Int))))))) → Int → Int → Option R)) : Option R := (K x0 x1 x2)
theorem wqrv (k : Nat) {R : Type} (I : Nat → St → Option R) (x0 : (List (Int × (Int × ((List UInt8) × (Bool × ((List (List UInt8)) × (List Int)))))))) (x1 x2 : Int) (K : ((List (Int × (Int × ((List UInt8) × (Bool × ((List (List UInt8)) × (List Int))))))) → Int → Int → Option R)) : fnCK (wqgr k) k (at_ [1] wqac) 13 [] wqnv [.ptr 1 0, .ptr 2 0] 5 (.nilif) [(1, .var 28 [.v (.sl (.pr (.int .i64) (.pr (.int .i64) (.pr .str (.pr .bool (.pr (.sl .str) (.sl (.int .i64)))))))) x0]), (2, .var 30 [.v (.int .i64) x1, .v (.int .i64) x2])] (wqde K) = wqpo k  x0 x1 x2 K := by kernel_rfl
noncomputable def wqbv (k : Nat) {R : Type} (x0 : (List (Int × (Int × ((List UInt8) × (Bool × ((List (List UInt8)) × (List Int)))))))) (x1 x2 : Int) (K : ((List (Int × (Int × ((List UInt8) × (Bool × ((List (List UInt8)) × (List Int))))))) → Int → Int → Option R)) : Option R := wqpo k  x0 x1 x2 K
theorem wqrw (k : Nat) {R : Type} (x0 : (List (Int × (Int × ((List UInt8) × (Bool × ((List (List UInt8)) × (List Int)))))))) (x1 x2 : Int) (K : ((List (Int × (Int × ((List UInt8) × (Bool × ((List (List UInt8)) × (List Int))))))) → Int → Int → Option R)) : fnCK (wqgr k) k (at_ [1] wqac) 13 [] wqnv [.ptr 1 0, .ptr 2 0] 5 (.nilif) [(1, .var 28 [.v (.sl (.pr (.int .i64) (.pr (.int .i64) (.pr .str (.pr .bool (.pr (.sl .str) (.sl (.int .i64)))))))) x0]), (2, .var 30 [.v (.int .i64) x1, .v (.int .i64) x2])] (wqde K) = wqbv k x0 x1 x2 K := by
  exact wqrv k (fun _ _ => none) x0 x1 x2 K
noncomputable def wqlq (k : Nat) {R : Type} : PV → List PV → List (Nm × HObj) → (Out → Option R) → Option R
  | .nilif, [.ptr 1 0, .ptr 2 0], [(1, .var 28 [.v (.sl (.pr (.int .i64) (.pr (.int .i64) (.pr .str (.pr .bool (.pr (.sl .str) (.sl (.int .i64)))))))) x0]), (2, .var 30 [.v (.int .i64) x1, .v (.int .i64) x2])], K => wqbv k x0 x1 x2 (fun y0 y1 y2 => K (.ret [] [(1, .var 28 [.v (.sl (.pr (.int .i64) (.pr (.int .i64) (.pr .str (.pr .bool (.pr (.sl .str) (.sl (.int .i64)))))))) y0]), (2, .var 30 [.v (.int .i64) y1, .v (.int .i64) y2])]))
  | _, _, _, _ => none
theorem wqrx (k : Nat) : (wqpm k).Ok Tryd.prog := CTab.nil_ok
theorem wqvd (k : Nat) {rec : PV} {ps : List PV} {hp : List (Nm × HObj)} {R : Type} {K : Out → Option R} {r : R} (h : wqlq k rec ps hp K = some r) : DoesToD Tryd.prog 14 rec ps hp fun out => K out = some r := by
  unfold wqlq at h
  split at h
  · rw [← wqrw] at h
    have := fnCK_ok (P := Tryd.prog) (cx := wqgr k) (f := 14) ⟨tyT_ok, wqrx k, fun _ _ => rfl⟩ (by kernel_rfl) (fn := Tryd.f14) (id := 0) (ops := opsAt (at_ [0] wqac)) (c := at_ [1] wqac) (by kernel_rfl) (by kernel_rfl) (by kernel_rfl) (rs := []) (by kernel_rfl) (by kernel_rfl) h
    exact this.mono fun out ho => by
      unfold wqde at ho
      split at ho <;> first | exact ho | cases ho
  · cases h
end Go.Proofs.YtpfbdepoammjmaaDoor.Pvm

set_option maxRecDepth 1000000
set_option maxHeartbeats 0
namespace Go.Proofs.YtpfbdepoammjmaaDoor.Pvm
open Go Go.Proofs
noncomputable def wqpp (k : Nat) : CTab := CTab.nil
def wqdf {R : Type} (K : ((List (Int × (Int × ((List UInt8) × (Bool × ((List (List UInt8)) × (List Int))))))) → Int → Int → Option R)) : Out → Option R
  | .ret [] [(1, .var 28 [.v (.sl (.pr (.int .i64) (.pr (.int .i64) (.pr .str (.pr .bool (.pr (.sl .str) (.sl (.int .i64)))))))) y0]), (2, .var 30 [.v (.int .i64) y1, .v (.int .i64) y2])] => K y0 y1 y2
  | _ => none
def wqnw : RetSpec := ⟨[], [(1, .obj 1 [.sl (.pr (.int .i64) (.pr (.int .i64) (.pr .str (.pr .bool (.pr (.sl .str) (.sl (.int .i64)))))))]), (2, .obj 2 [.any, .any])], []⟩
def wqry : List (Nat × CutSpec) := []
def wqpq : List (Nat × Plan) := [(7, (.of [(0, 1), (1, 2), (2, 0), (3, 0)] .done))]
noncomputable def wqgs (k : Nat) : Ctx := ⟨tyT, wqry, wqpp k, [], [1, 2], wqpq, @SH⟩
noncomputable def wqad : Code := Tryd.f14.body.getD .skip
noncomputable def wqpr (k : Nat) {R : Type}  (x0 : (List (Int × (Int × ((List UInt8) × (Bool × ((List (List UInt8)) × (List Int)))))))) (x1 x2 x3 x4 : Int) (K : ((List (Int × (Int × ((List UInt8) × (Bool × ((List (List UInt8)) × (List Int))))))) → Int → Int → Option R)) : Option R := (K [] x3 x4)
theorem wqrz (k : Nat) {R : Type} (I : Nat → St → Option R) (x0 : (List (Int × (Int × ((List UInt8) × (Bool × ((List (List UInt8)) × (List Int)))))))) (x1 x2 x3 x4 : Int) (K : ((List (Int × (Int × ((List UInt8) × (Bool × ((List (List UInt8)) × (List Int))))))) → Int → Int → Option R)) : fnCK (wqgs k) k (at_ [1] wqad) 13 [] wqnw [.ptr 1 0, .ptr 2 0] 5 (.ifc 30 (.agg [.v (.int .i64) x3, .v (.int .i64) x4])) [(1, .var 28 [.v (.sl (.pr (.int .i64) (.pr (.int .i64) (.pr .str (.pr .bool (.pr (.sl .str) (.sl (.int .i64)))))))) x0]), (2, .var 30 [.v (.int .i64) x1, .v (.int .i64) x2])] (wqdf K) = wqpr k  x0 x1 x2 x3 x4 K := by kernel_rfl
noncomputable def wq7t (k : Nat) {R : Type} (x0 : (List (Int × (Int × ((List UInt8) × (Bool × ((List (List UInt8)) × (List Int)))))))) (x1 x2 x3 x4 : Int) (K : ((List (Int × (Int × ((List UInt8) × (Bool × ((List (List UInt8)) × (List Int))))))) → Int → Int → Option R)) : Option R := wqpr k  x0 x1 x2 x3 x4 K
theorem wqs0 (k : Nat) {R : Type} (x0 : (List (Int × (Int × ((List UInt8) × (Bool × ((List (List UInt8)) × (List Int)))))))) (x1 x2 x3 x4 : Int) (K : ((List (Int × (Int × ((List UInt8) × (Bool × ((List (List UInt8)) × (List Int))))))) → Int → Int → Option R)) : fnCK (wqgs k) k (at_ [1] wqad) 13 [] wqnw [.ptr 1 0, .ptr 2 0] 5 (.ifc 30 (.agg [.v (.int .i64) x3, .v (.int .i64) x4])) [(1, .var 28 [.v (.sl (.pr (.int .i64) (.pr (.int .i64) (.pr .str (.pr .bool (.pr (.sl .str) (.sl (.int .i64)))))))) x0]), (2, .var 30 [.v (.int .i64) x1, .v (.int .i64) x2])] (wqdf K) = wq7t k x0 x1 x2 x3 x4 K := by
  exact wqrz k (fun _ _ => none) x0 x1 x2 x3 x4 K
noncomputable def wqlr (k : Nat) {R : Type} : PV → List PV → List (Nm × HObj) → (Out → Option R) → Option R
  | .ifc 30 (.agg [.v (.int .i64) x3, .v (.int .i64) x4]), [.ptr 1 0, .ptr 2 0], [(1, .var 28 [.v (.sl (.pr (.int .i64) (.pr (.int .i64) (.pr .str (.pr .bool (.pr (.sl .str) (.sl (.int .i64)))))))) x0]), (2, .var 30 [.v (.int .i64) x1, .v (.int .i64) x2])], K => wq7t k x0 x1 x2 x3 x4 (fun y0 y1 y2 => K (.ret [] [(1, .var 28 [.v (.sl (.pr (.int .i64) (.pr (.int .i64) (.pr .str (.pr .bool (.pr (.sl .str) (.sl (.int .i64)))))))) y0]), (2, .var 30 [.v (.int .i64) y1, .v (.int .i64) y2])]))
  | _, _, _, _ => none
theorem wqs1 (k : Nat) : (wqpp k).Ok Tryd.prog := CTab.nil_ok
theorem wqve (k : Nat) {rec : PV} {ps : List PV} {hp : List (Nm × HObj)} {R : Type} {K : Out → Option R} {r : R} (h : wqlr k rec ps hp K = some r) : DoesToD Tryd.prog 14 rec ps hp fun out => K out = some r := by
  unfold wqlr at h
  split at h
  · rw [← wqs0] at h
    have := fnCK_ok (P := Tryd.prog) (cx := wqgs k) (f := 14) ⟨tyT_ok, wqs1 k, fun _ _ => rfl⟩ (by kernel_rfl) (fn := Tryd.f14) (id := 0) (ops := opsAt (at_ [0] wqad)) (c := at_ [1] wqad) (by kernel_rfl) (by kernel_rfl) (by kernel_rfl) (rs := []) (by kernel_rfl) (by kernel_rfl) h
    exact this.mono fun out ho => by
      unfold wqdf at ho
      split at ho <;> first | exact ho | cases ho
  · cases h
end Go.Proofs.YtpfbdepoammjmaaDoor.Pvm

set_option maxRecDepth 1000000
set_option maxHeartbeats 0
namespace Go.Proofs.YtpfbdepoammjmaaDoor.Pvm
open Go Go.Proofs
def wqcv : List LS := [.any, .any]
noncomputable def wqt5 (k : Nat) : CTab := CTab.nil
def wqev {R : Type} (E : (Int → Int → Option R)) : Out → Option R
  | .pan (.ifc 30 (.agg [.v (.int .i64) z0, .v (.int .i64) z1])) [] => E z0 z1
  | _ => none
def wqps : RetSpec := ⟨[], [], []⟩
def wqtx : List (Nat × CutSpec) := []
def wqs2 : List (Nat × Plan) := []
noncomputable def wqju (k : Nat) : Ctx := ⟨tyT, wqtx, wqt5 k, [], [], wqs2, @SH⟩
noncomputable def wqew : Code := Tryd.f15.body.getD .skip
noncomputable def wqt6 (k : Nat) {R : Type}  (x0 x1 : Int) (E : (Int → Int → Option R)) : Option R := (E x0 x1)
theorem wqty (k : Nat) {R : Type} (I : Nat → St → Option R) (x0 x1 : Int) (E : (Int → Int → Option R)) : fnK (wqju k) k wqew 8 [] wqps [.v (.int .i64) x0, .v (.int .i64) x1] [] (wqev E) = wqt6 k  x0 x1 E := by kernel_rfl
noncomputable def wq5e (k : Nat) {R : Type} (x0 x1 : Int) (E : (Int → Int → Option R)) : Option R := wqt6 k  x0 x1 E
theorem wqtz (k : Nat) {R : Type} (x0 x1 : Int) (E : (Int → Int → Option R)) : fnK (wqju k) k wqew 8 [] wqps [.v (.int .i64) x0, .v (.int .i64) x1] [] (wqev E) = wq5e k x0 x1 E := by
  exact wqty k (fun _ _ => none) x0 x1 E
noncomputable def wq8q (k : Nat) {R : Type} : List PV → List (Nm × HObj) → (Out → Option R) → Option R
  | [.v (.int .i64) x0, .v (.int .i64) x1], [], K => wq5e k x0 x1  (fun z0 z1 => K (.pan (.ifc 30 (.agg [.v (.int .i64) z0, .v (.int .i64) z1])) []))
  | _, _, _ => none
theorem wqu0 (k : Nat) : (wqt5 k).Ok Tryd.prog := CTab.nil_ok
theorem wqic (k : Nat) {ps : List PV} {hp : List (Nm × HObj)} {R : Type} {K : Out → Option R} {r : R} (h : wq8q k ps hp K = some r) : DoesTo Tryd.prog 15 ps hp fun out => K out = some r := by
  unfold wq8q at h
  split at h
  · rw [← wqtz] at h
    have := fn_ok (P := Tryd.prog) (cx := wqju k) (f := 15) ⟨tyT_ok, wqu0 k, fun _ _ => rfl⟩ (by kernel_rfl) (fn := Tryd.f15) (c := wqew) (by kernel_rfl) (by kernel_rfl) (by kernel_rfl) (rs := []) (by kernel_rfl) (by kernel_rfl) h
    exact this.mono fun out ho => by
      unfold wqev at ho
      split at ho <;> first | exact ho | cases ho
  · cases h
end Go.Proofs.YtpfbdepoammjmaaDoor.Pvm

set_option maxRecDepth 1000000
set_option maxHeartbeats 0
namespace Go.Proofs.YtpfbdepoammjmaaDoor.Pvm
open Go Go.Proofs
abbrev wq5f (R : Type) : Type := ((List (Int × (Int × (Int × ((List UInt8) × Bool))))) → (List (Int × (Int × ((List UInt8) × (Bool × ((List (List UInt8)) × (List Int))))))) → Bool → Option R)
def wqcw : List LS := [.obj 1 [.sl (.pr (.int .i64) (.pr (.int .i64) (.pr (.int .i64) (.pr .str .bool)))), .own 21 47 (.pr (.int .i64) (.pr (.int .i64) (.pr .str (.pr .bool (.pr (.sl .str) (.sl (.int .i64)))))))], .any, .any]
noncomputable def wqfs (k : Nat) : CTab := CTab.nil
def wq7u {R : Type} (K : wq5f R) : Out → Option R
  | .ret [.v .bool y2] [(21, .row 47 (.pr (.int .i64) (.pr (.int .i64) (.pr .str (.pr .bool (.pr (.sl .str) (.sl (.int .i64))))))) y1), (1, .var 51 [.v (.sl (.pr (.int .i64) (.pr (.int .i64) (.pr (.int .i64) (.pr .str .bool))))) y0, .row 21])] => K y0 y1 y2
  | _ => none
def wqe3 : RetSpec := ⟨[.any], [(1, .obj 1 [.sl (.pr (.int .i64) (.pr (.int .i64) (.pr (.int .i64) (.pr .str .bool)))), .own 21 47 (.pr (.int .i64) (.pr (.int .i64) (.pr .str (.pr .bool (.pr (.sl .str) (.sl (.int .i64)))))))])], []⟩
def wqjv : List (Nat × CutSpec) := []
def wqih : List (Nat × Plan) := []
noncomputable def wq9o (k : Nat) : Ctx := ⟨tyT, wqjv, wqfs k, [], [1], wqih, @SH⟩
noncomputable def wq7v : Code := Tryd.f43.body.getD .skip
noncomputable def wqaw (k : Nat) {R : Type}  (x0 : (List (Int × (Int × (Int × ((List UInt8) × Bool)))))) (x1 : (List (Int × (Int × ((List UInt8) × (Bool × ((List (List UInt8)) × (List Int)))))))) (x2 x3 : Int) (K : wq5f R) : Option R := (@cond (@Option R) (@Bool.or (@Bool.not (@BEq.beq (@Kd.T Kd.bool) (@instBEqOfDecidableEq (@Kd.T Kd.bool) @instDecidableEqBool) (@Decidable.decide (@GT.gt Int Int.instLTInt (@Nat.cast Int instNatCastInt (@List.length (@Kd.T (@Kd.pr kI (@Kd.pr kI (@Kd.pr kI (@Kd.pr Kd.str Kd.bool))))) x0)) (0 : Int)) (@Int.decLt (0 : Int) (@Nat.cast Int instNatCastInt (@List.length (@Kd.T (@Kd.pr kI (@Kd.pr kI (@Kd.pr kI (@Kd.pr Kd.str Kd.bool))))) x0)))) Bool.true)) (@inb (0 : Int) (@Nat.cast Int instNatCastInt (@List.length (@Kd.T (@Kd.pr kI (@Kd.pr kI (@Kd.pr kI (@Kd.pr Kd.str Kd.bool))))) x0)))) (@cond (@Option R) (@Bool.or (@Bool.not (@BEq.beq (@Kd.T Kd.bool) (@instBEqOfDecidableEq (@Kd.T Kd.bool) @instDecidableEqBool) (@cond (@Kd.T Kd.bool) (@Decidable.decide (@GT.gt Int Int.instLTInt (@Nat.cast Int instNatCastInt (@List.length (@Kd.T (@Kd.pr kI (@Kd.pr kI (@Kd.pr kI (@Kd.pr Kd.str Kd.bool))))) x0)) (0 : Int)) (@Int.decLt (0 : Int) (@Nat.cast Int instNatCastInt (@List.length (@Kd.T (@Kd.pr kI (@Kd.pr kI (@Kd.pr kI (@Kd.pr Kd.str Kd.bool))))) x0)))) (@BEq.beq Int (@instBEqOfDecidableEq Int @Int.instDecidableEq) (@List.getD (@Kd.T (@Kd.pr kI (@Kd.pr kI (@Kd.pr kI (@Kd.pr Kd.str Kd.bool))))) x0 (@Int.toNat (0 : Int)) (@Kd.zero (@Kd.pr kI (@Kd.pr kI (@Kd.pr kI (@Kd.pr Kd.str Kd.bool)))))).1 x2) Bool.false) Bool.true)) (@inb (0 : Int) (@Nat.cast Int instNatCastInt (@List.length (@Kd.T (@Kd.pr kI (@Kd.pr kI (@Kd.pr kI (@Kd.pr Kd.str Kd.bool))))) x0)))) (K x0 x1 (@cond (@Kd.T Kd.bool) (@cond (@Kd.T Kd.bool) (@Decidable.decide (@GT.gt Int Int.instLTInt (@Nat.cast Int instNatCastInt (@List.length (@Kd.T (@Kd.pr kI (@Kd.pr kI (@Kd.pr kI (@Kd.pr Kd.str Kd.bool))))) x0)) (0 : Int)) (@Int.decLt (0 : Int) (@Nat.cast Int instNatCastInt (@List.length (@Kd.T (@Kd.pr kI (@Kd.pr kI (@Kd.pr kI (@Kd.pr Kd.str Kd.bool))))) x0)))) (@BEq.beq Int (@instBEqOfDecidableEq Int @Int.instDecidableEq) (@List.getD (@Kd.T (@Kd.pr kI (@Kd.pr kI (@Kd.pr kI (@Kd.pr Kd.str Kd.bool))))) x0 (@Int.toNat (0 : Int)) (@Kd.zero (@Kd.pr kI (@Kd.pr kI (@Kd.pr kI (@Kd.pr Kd.str Kd.bool)))))).1 x2) Bool.false) (@BEq.beq Int (@instBEqOfDecidableEq Int @Int.instDecidableEq) (@List.getD (@Kd.T (@Kd.pr kI (@Kd.pr kI (@Kd.pr kI (@Kd.pr Kd.str Kd.bool))))) x0 (@Int.toNat (0 : Int)) (@Kd.zero (@Kd.pr kI (@Kd.pr kI (@Kd.pr kI (@Kd.pr Kd.str Kd.bool)))))).2.2.1 x3) Bool.false)) (@Option.none R)) (@Option.none R))
theorem wqjw (k : Nat) {R : Type} (I : Nat → St → Option R) (x0 : (List (Int × (Int × (Int × ((List UInt8) × Bool)))))) (x1 : (List (Int × (Int × ((List UInt8) × (Bool × ((List (List UInt8)) × (List Int)))))))) (x2 x3 : Int) (K : wq5f R) : fnK (wq9o k) k wq7v 35 [.tmp 6] wqe3 [.ptr 1 0, .v (.int .i64) x2, .v (.int .i64) x3] [(21, .row 47 (.pr (.int .i64) (.pr (.int .i64) (.pr .str (.pr .bool (.pr (.sl .str) (.sl (.int .i64))))))) x1), (1, .var 51 [.v (.sl (.pr (.int .i64) (.pr (.int .i64) (.pr (.int .i64) (.pr .str .bool))))) x0, .row 21])] (wq7u K) = wqaw k  x0 x1 x2 x3 K := by kernel_rfl
noncomputable def wq51 (k : Nat) {R : Type} (x0 : (List (Int × (Int × (Int × ((List UInt8) × Bool)))))) (x1 : (List (Int × (Int × ((List UInt8) × (Bool × ((List (List UInt8)) × (List Int)))))))) (x2 x3 : Int) (K : wq5f R) : Option R := wqaw k  x0 x1 x2 x3 K
theorem wqjx (k : Nat) {R : Type} (x0 : (List (Int × (Int × (Int × ((List UInt8) × Bool)))))) (x1 : (List (Int × (Int × ((List UInt8) × (Bool × ((List (List UInt8)) × (List Int)))))))) (x2 x3 : Int) (K : wq5f R) : fnK (wq9o k) k wq7v 35 [.tmp 6] wqe3 [.ptr 1 0, .v (.int .i64) x2, .v (.int .i64) x3] [(21, .row 47 (.pr (.int .i64) (.pr (.int .i64) (.pr .str (.pr .bool (.pr (.sl .str) (.sl (.int .i64))))))) x1), (1, .var 51 [.v (.sl (.pr (.int .i64) (.pr (.int .i64) (.pr (.int .i64) (.pr .str .bool))))) x0, .row 21])] (wq7u K) = wq51 k x0 x1 x2 x3 K := by
  exact wqjw k (fun _ _ => none) x0 x1 x2 x3 K
noncomputable def wq66 (k : Nat) {R : Type} : List PV → List (Nm × HObj) → (Out → Option R) → Option R
  | [.ptr 1 0, .v (.int .i64) x2, .v (.int .i64) x3], [(21, .row 47 (.pr (.int .i64) (.pr (.int .i64) (.pr .str (.pr .bool (.pr (.sl .str) (.sl (.int .i64))))))) x1), (1, .var 51 [.v (.sl (.pr (.int .i64) (.pr (.int .i64) (.pr (.int .i64) (.pr .str .bool))))) x0, .row 21])], K => wq51 k x0 x1 x2 x3 (fun y0 y1 y2 => K (.ret [.v .bool y2] [(21, .row 47 (.pr (.int .i64) (.pr (.int .i64) (.pr .str (.pr .bool (.pr (.sl .str) (.sl (.int .i64))))))) y1), (1, .var 51 [.v (.sl (.pr (.int .i64) (.pr (.int .i64) (.pr (.int .i64) (.pr .str .bool))))) y0, .row 21])]))
  | _, _, _ => none
theorem wqjy (k : Nat) : (wqfs k).Ok Tryd.prog := CTab.nil_ok
theorem wqft (k : Nat) {ps : List PV} {hp : List (Nm × HObj)} {R : Type} {K : Out → Option R} {r : R} (h : wq66 k ps hp K = some r) : DoesTo Tryd.prog 43 ps hp fun out => K out = some r := by
  unfold wq66 at h
  split at h
  · rw [← wqjx] at h
    have := fn_ok (P := Tryd.prog) (cx := wq9o k) (f := 43) ⟨tyT_ok, wqjy k, fun _ _ => rfl⟩ (by kernel_rfl) (fn := Tryd.f43) (c := wq7v) (by kernel_rfl) (by kernel_rfl) (by kernel_rfl) (rs := [.tmp 6]) (by kernel_rfl) (by kernel_rfl) h
    exact this.mono fun out ho => by
      unfold wq7u at ho
      split at ho <;> first | exact ho | cases ho
  · cases h
end Go.Proofs.YtpfbdepoammjmaaDoor.Pvm

set_option maxRecDepth 1000000
set_option maxHeartbeats 0
namespace Go.Proofs.YtpfbdepoammjmaaDoor.Pvm
open Go Go.Proofs
abbrev wq5g (R : Type) : Type := ((List (Int × (Int × (Int × ((List UInt8) × Bool))))) → (List (Int × (Int × ((List UInt8) × (Bool × ((List (List UInt8)) × (List Int))))))) → Int → Int → Int → (List UInt8) → Bool → Option R)
def wq8w : List LS := [.obj 1 [.sl (.pr (.int .i64) (.pr (.int .i64) (.pr (.int .i64) (.pr .str .bool)))), .own 21 47 (.pr (.int .i64) (.pr (.int .i64) (.pr .str (.pr .bool (.pr (.sl .str) (.sl (.int .i64)))))))]]
noncomputable def wqfu (k : Nat) : CTab := CTab.nil
def wq7w {R : Type} (K : wq5g R) : Out → Option R
  | .ret [.agg [.v (.int .i64) y2, .v (.int .i64) y3, .v (.int .i64) y4, .v .str y5, .v .bool y6]] [(21, .row 47 (.pr (.int .i64) (.pr (.int .i64) (.pr .str (.pr .bool (.pr (.sl .str) (.sl (.int .i64))))))) y1), (1, .var 51 [.v (.sl (.pr (.int .i64) (.pr (.int .i64) (.pr (.int .i64) (.pr .str .bool))))) y0, .row 21])] => K y0 y1 y2 y3 y4 y5 y6
  | _ => none
def wqe4 : RetSpec := ⟨[.ag [.any, .any, .any, .any, .any]], [(1, .obj 1 [.sl (.pr (.int .i64) (.pr (.int .i64) (.pr (.int .i64) (.pr .str .bool)))), .own 21 47 (.pr (.int .i64) (.pr (.int .i64) (.pr .str (.pr .bool (.pr (.sl .str) (.sl (.int .i64)))))))])], []⟩
def wqjz : List (Nat × CutSpec) := []
def wqii : List (Nat × Plan) := []
noncomputable def wq9p (k : Nat) : Ctx := ⟨tyT, wqjz, wqfu k, [], [1], wqii, @SH⟩
noncomputable def wq7x : Code := Tryd.f28.body.getD .skip
noncomputable def wqax (k : Nat) {R : Type}  (x0 : (List (Int × (Int × (Int × ((List UInt8) × Bool)))))) (x1 : (List (Int × (Int × ((List UInt8) × (Bool × ((List (List UInt8)) × (List Int)))))))) (K : wq5g R) : Option R := (@cond (@Option R) (@inb (0 : Int) (@Nat.cast Int instNatCastInt (@List.length (@Kd.T (@Kd.pr kI (@Kd.pr kI (@Kd.pr kI (@Kd.pr Kd.str Kd.bool))))) x0))) (@cond (@Option R) (@bnd (1 : Int) (@Nat.cast Int instNatCastInt (@List.length (@Kd.T (@Kd.pr kI (@Kd.pr kI (@Kd.pr kI (@Kd.pr Kd.str Kd.bool))))) x0)) (@Nat.cast Int instNatCastInt (@List.length (@Kd.T (@Kd.pr kI (@Kd.pr kI (@Kd.pr kI (@Kd.pr Kd.str Kd.bool))))) x0))) (K (@cut (@Kd.T (@Kd.pr kI (@Kd.pr kI (@Kd.pr kI (@Kd.pr Kd.str Kd.bool))))) x0 (1 : Int) (@Nat.cast Int instNatCastInt (@List.length (@Kd.T (@Kd.pr kI (@Kd.pr kI (@Kd.pr kI (@Kd.pr Kd.str Kd.bool))))) x0))) x1 (@List.getD (@Kd.T (@Kd.pr kI (@Kd.pr kI (@Kd.pr kI (@Kd.pr Kd.str Kd.bool))))) x0 (@Int.toNat (0 : Int)) (@Kd.zero (@Kd.pr kI (@Kd.pr kI (@Kd.pr kI (@Kd.pr Kd.str Kd.bool)))))).1 (@List.getD (@Kd.T (@Kd.pr kI (@Kd.pr kI (@Kd.pr kI (@Kd.pr Kd.str Kd.bool))))) x0 (@Int.toNat (0 : Int)) (@Kd.zero (@Kd.pr kI (@Kd.pr kI (@Kd.pr kI (@Kd.pr Kd.str Kd.bool)))))).2.1 (@List.getD (@Kd.T (@Kd.pr kI (@Kd.pr kI (@Kd.pr kI (@Kd.pr Kd.str Kd.bool))))) x0 (@Int.toNat (0 : Int)) (@Kd.zero (@Kd.pr kI (@Kd.pr kI (@Kd.pr kI (@Kd.pr Kd.str Kd.bool)))))).2.2.1 (@List.getD (@Kd.T (@Kd.pr kI (@Kd.pr kI (@Kd.pr kI (@Kd.pr Kd.str Kd.bool))))) x0 (@Int.toNat (0 : Int)) (@Kd.zero (@Kd.pr kI (@Kd.pr kI (@Kd.pr kI (@Kd.pr Kd.str Kd.bool)))))).2.2.2.1 (@List.getD (@Kd.T (@Kd.pr kI (@Kd.pr kI (@Kd.pr kI (@Kd.pr Kd.str Kd.bool))))) x0 (@Int.toNat (0 : Int)) (@Kd.zero (@Kd.pr kI (@Kd.pr kI (@Kd.pr kI (@Kd.pr Kd.str Kd.bool)))))).2.2.2.2) (@Option.none R)) (@Option.none R))
theorem wqk0 (k : Nat) {R : Type} (I : Nat → St → Option R) (x0 : (List (Int × (Int × (Int × ((List UInt8) × Bool)))))) (x1 : (List (Int × (Int × ((List UInt8) × (Bool × ((List (List UInt8)) × (List Int)))))))) (K : wq5g R) : fnK (wq9p k) k wq7x 19 [.cell 2 25] wqe4 [.ptr 1 0] [(21, .row 47 (.pr (.int .i64) (.pr (.int .i64) (.pr .str (.pr .bool (.pr (.sl .str) (.sl (.int .i64))))))) x1), (1, .var 51 [.v (.sl (.pr (.int .i64) (.pr (.int .i64) (.pr (.int .i64) (.pr .str .bool))))) x0, .row 21])] (wq7w K) = wqax k  x0 x1 K := by kernel_rfl
noncomputable def wq4a (k : Nat) {R : Type} (x0 : (List (Int × (Int × (Int × ((List UInt8) × Bool)))))) (x1 : (List (Int × (Int × ((List UInt8) × (Bool × ((List (List UInt8)) × (List Int)))))))) (K : wq5g R) : Option R := wqax k  x0 x1 K
theorem wqk1 (k : Nat) {R : Type} (x0 : (List (Int × (Int × (Int × ((List UInt8) × Bool)))))) (x1 : (List (Int × (Int × ((List UInt8) × (Bool × ((List (List UInt8)) × (List Int)))))))) (K : wq5g R) : fnK (wq9p k) k wq7x 19 [.cell 2 25] wqe4 [.ptr 1 0] [(21, .row 47 (.pr (.int .i64) (.pr (.int .i64) (.pr .str (.pr .bool (.pr (.sl .str) (.sl (.int .i64))))))) x1), (1, .var 51 [.v (.sl (.pr (.int .i64) (.pr (.int .i64) (.pr (.int .i64) (.pr .str .bool))))) x0, .row 21])] (wq7w K) = wq4a k x0 x1 K := by
  exact wqk0 k (fun _ _ => none) x0 x1 K
noncomputable def wq53 (k : Nat) {R : Type} : List PV → List (Nm × HObj) → (Out → Option R) → Option R
  | [.ptr 1 0], [(21, .row 47 (.pr (.int .i64) (.pr (.int .i64) (.pr .str (.pr .bool (.pr (.sl .str) (.sl (.int .i64))))))) x1), (1, .var 51 [.v (.sl (.pr (.int .i64) (.pr (.int .i64) (.pr (.int .i64) (.pr .str .bool))))) x0, .row 21])], K => wq4a k x0 x1 (fun y0 y1 y2 y3 y4 y5 y6 => K (.ret [.agg [.v (.int .i64) y2, .v (.int .i64) y3, .v (.int .i64) y4, .v .str y5, .v .bool y6]] [(21, .row 47 (.pr (.int .i64) (.pr (.int .i64) (.pr .str (.pr .bool (.pr (.sl .str) (.sl (.int .i64))))))) y1), (1, .var 51 [.v (.sl (.pr (.int .i64) (.pr (.int .i64) (.pr (.int .i64) (.pr .str .bool))))) y0, .row 21])]))
  | _, _, _ => none
theorem wqk2 (k : Nat) : (wqfu k).Ok Tryd.prog := CTab.nil_ok
theorem wqay (k : Nat) {ps : List PV} {hp : List (Nm × HObj)} {R : Type} {K : Out → Option R} {r : R} (h : wq53 k ps hp K = some r) : DoesTo Tryd.prog 28 ps hp fun out => K out = some r := by
  unfold wq53 at h
  split at h
  · rw [← wqk1] at h
    have := fn_ok (P := Tryd.prog) (cx := wq9p k) (f := 28) ⟨tyT_ok, wqk2 k, fun _ _ => rfl⟩ (by kernel_rfl) (fn := Tryd.f28) (c := wq7x) (by kernel_rfl) (by kernel_rfl) (by kernel_rfl) (rs := [.cell 2 25]) (by kernel_rfl) (by kernel_rfl) h
    exact this.mono fun out ho => by
      unfold wq7w at ho
      split at ho <;> first | exact ho | cases ho
  · cases h
end Go.Proofs.YtpfbdepoammjmaaDoor.Pvm

set_option maxRecDepth 1000000
set_option maxHeartbeats 0
namespace Go.Proofs.YtpfbdepoammjmaaDoor.Pvm
open Go Go.Proofs
def wq9q : List LS := [.sl .str, .any]
noncomputable def wq5w (k : Nat) : CTab := CTab.nil
def wq11 {R : Type} (K : (Int → Option R)) : Out → Option R
  | .ret [.v (.int .i64) y0] [] => K y0
  | _ => none
def wq1e : RetSpec := ⟨[.any], [], []⟩
def wq9i : List (Nat × CutSpec) := [(1002, ⟨[(0, .sl .str), (1, .any), (7, .any), (8, .any)], []⟩)]
def wq8x : List (Nat × Plan) := []
noncomputable def wq1 (k : Nat) : Ctx := ⟨tyT, wq9i, wq5w k, [], [], wq8x, @SH⟩
noncomputable def wqh : Code := Tryd.f58.body.getD .skip
def wq19 (s0 : (List (List UInt8))) (s1 : (List UInt8)) (s2 s3 : Int) : St := ⟨mkT [(0, .v (.sl .str) s0), (1, .v .str s1), (7, .v (.int .i64) s2), (8, .v (.int .i64) s3)], mkH []⟩
noncomputable def wq2a (k : Nat) {R : Type} (E1002 : ((List (List UInt8)) → (List UInt8) → Int → Int → Option R)) (s0 : (List (List UInt8))) (s1 : (List UInt8)) (s2 s3 : Int) (K : (Int → Option R)) : Option R := (@cond (@Option R) (@Decidable.decide (@LT.lt Int Int.instLTInt s3 s2) (@Int.decLt s3 s2)) (@cond (@Option R) (@inb s3 (@Nat.cast Int instNatCastInt (@List.length (@Kd.T Kd.str) s0))) (@cond (@Option R) (@BEq.beq (@List UInt8) (@List.instBEq UInt8 (@instBEqOfDecidableEq UInt8 @instDecidableEqUInt8)) s1 (@List.getD (@Kd.T Kd.str) s0 (@Int.toNat s3) (@Kd.zero Kd.str))) (K s3) (E1002 s0 s1 s2 (@Go.IntKind.wrap Go.IntKind.i64 (@HAdd.hAdd Int Int Int (@instHAdd Int @Int.instAdd) s3 (1 : Int))))) (@Option.none R)) (K (@Neg.neg Int @Int.instNegInt (1 : Int))))
theorem wq73 (k : Nat) {R : Type} (I : Nat → St → Option R) (s0 : (List (List UInt8))) (s1 : (List UInt8)) (s2 s3 : Int) (K : (Int → Option R)) : execK (wq1 k) k (at_ [1, 0, 1, 0, 0] wqh) (wq19 s0 s1 s2 s3) (konts (wq1 k) k I [1, 0, 1, 0, 0] wqh (outK (wq1 k) wq1e [.tmp 4] (wq11 K))) = wq2a k (fun s0 s1 s2 s3 => I 1002 (wq19 s0 s1 s2 s3)) s0 s1 s2 s3 K := by kernel_rfl
noncomputable def wq2z (k : Nat) {R : Type} (E1002 : ((List (List UInt8)) → (List UInt8) → Int → Int → Option R)) (x0 : (List (List UInt8))) (x1 : (List UInt8)) (K : (Int → Option R)) : Option R := (E1002 x0 x1 (@Nat.cast Int instNatCastInt (@List.length (@Kd.T Kd.str) x0)) (0 : Int))
theorem wq9j (k : Nat) {R : Type} (I : Nat → St → Option R) (x0 : (List (List UInt8))) (x1 : (List UInt8)) (K : (Int → Option R)) : fnK (wq1 k) k wqh 19 [.tmp 4] wq1e [.v (.sl .str) x0, .v .str x1] [] (wq11 K) = wq2z k (fun s0 s1 s2 s3 => iter (wq1 k).pv (look (wq1 k).cuts 1002) (execK (wq1 k) k (at_ [1, 0, 1, 0, 0] wqh)) k (wq19 s0 s1 s2 s3) (konts (wq1 k) k I [1, 0, 1, 0] wqh (outK (wq1 k) wq1e [.tmp 4] (wq11 K)))) x0 x1 K := by kernel_rfl
noncomputable def wqx (k : Nat) {R : Type}  : Nat → (List (List UInt8)) → (List UInt8) → Int → Int → (Int → Option R) → Option R
  | 0, _, _, _, _, _ => none
  | n + 1, s0, s1, s2, s3, K => wq2a k (fun s0 s1 s2 s3 => wqx k  n s0 s1 s2 s3 K) s0 s1 s2 s3 K
theorem wq74 (k : Nat) {R : Type} (I : Nat → St → Option R) (K : (Int → Option R)) : ∀ (n : Nat) (s0 : (List (List UInt8))) (s1 : (List UInt8)) (s2 s3 : Int), iter (wq1 k).pv (look (wq1 k).cuts 1002) (execK (wq1 k) k (at_ [1, 0, 1, 0, 0] wqh)) n (wq19 s0 s1 s2 s3) (konts (wq1 k) k I [1, 0, 1, 0] wqh (outK (wq1 k) wq1e [.tmp 4] (wq11 K))) = wqx k  n s0 s1 s2 s3 K := by
  intro n
  induction n with
  | zero => intros; rfl
  | succ n ih =>
    intro s0 s1 s2 s3
    let I' : Nat → St → Option R := fun id s => bif Nat.beq id 1002 then iter (wq1 k).pv (look (wq1 k).cuts 1002) (execK (wq1 k) k (at_ [1, 0, 1, 0, 0] wqh)) n s (konts (wq1 k) k I [1, 0, 1, 0] wqh (outK (wq1 k) wq1e [.tmp 4] (wq11 K))) else I id s
    have e := wq73 k I' s0 s1 s2 s3 K
    have h1002 : (fun s0 s1 s2 s3 => I' 1002 (wq19 s0 s1 s2 s3)) = (fun s0 s1 s2 s3 => wqx k  n s0 s1 s2 s3 K) := by funext s0 s1 s2 s3; exact ih s0 s1 s2 s3
    refine Eq.trans (?_ : _ = _) (e.trans (Eq.trans ((congrArg ((fun E1002 => wq2a k E1002 s0 s1 s2 s3 K)) h1002)) (by rw [wqx])))
    rfl
noncomputable def wq30 (k : Nat) {R : Type} (x0 : (List (List UInt8))) (x1 : (List UInt8)) (K : (Int → Option R)) : Option R := wq2z k (fun s0 s1 s2 s3 => wqx k k s0 s1 s2 s3 K) x0 x1 K
theorem wq9k (k : Nat) {R : Type} (x0 : (List (List UInt8))) (x1 : (List UInt8)) (K : (Int → Option R)) : fnK (wq1 k) k wqh 19 [.tmp 4] wq1e [.v (.sl .str) x0, .v .str x1] [] (wq11 K) = wq30 k x0 x1 K := by
  let I : Nat → St → Option R := fun _ _ => none
  have h1002 : (fun s0 s1 s2 s3 => iter (wq1 k).pv (look (wq1 k).cuts 1002) (execK (wq1 k) k (at_ [1, 0, 1, 0, 0] wqh)) k (wq19 s0 s1 s2 s3) (konts (wq1 k) k I [1, 0, 1, 0] wqh (outK (wq1 k) wq1e [.tmp 4] (wq11 K)))) = (fun s0 s1 s2 s3 => wqx k k s0 s1 s2 s3 K) := by funext s0 s1 s2 s3; exact wq74 k I K k s0 s1 s2 s3
  exact (wq9j k I x0 x1 K).trans (congrArg ((fun E1002 => wq2z k E1002 x0 x1 K)) h1002)
noncomputable def wq3u (k : Nat) {R : Type} : List PV → List (Nm × HObj) → (Out → Option R) → Option R
  | [.v (.sl .str) x0, .v .str x1], [], K => wq30 k x0 x1 (fun y0 => K (.ret [.v (.int .i64) y0] []))
  | _, _, _ => none
theorem wq9l (k : Nat) : (wq5w k).Ok Tryd.prog := CTab.nil_ok
theorem wqaz (k : Nat) {ps : List PV} {hp : List (Nm × HObj)} {R : Type} {K : Out → Option R} {r : R} (h : wq3u k ps hp K = some r) : DoesTo Tryd.prog 58 ps hp fun out => K out = some r := by
  unfold wq3u at h
  split at h
  · rw [← wq9k] at h
    have := fn_ok (P := Tryd.prog) (cx := wq1 k) (f := 58) ⟨tyT_ok, wq9l k, fun _ _ => rfl⟩ (by kernel_rfl) (fn := Tryd.f58) (c := wqh) (by kernel_rfl) (by kernel_rfl) (by kernel_rfl) (rs := [.tmp 4]) (by kernel_rfl) (by kernel_rfl) h
    exact this.mono fun out ho => by
      unfold wq11 at ho
      split at ho <;> first | exact ho | cases ho
  · cases h
end Go.Proofs.YtpfbdepoammjmaaDoor.Pvm

set_option maxRecDepth 1000000
set_option maxHeartbeats 0
namespace Go.Proofs.YtpfbdepoammjmaaDoor.Pvm
open Go Go.Proofs
def wq8u : List LS := [.sl .str, .any]
noncomputable def wq5b (k : Nat) : CTab := (CTab.add 58 wq9q (wq3u k) CTab.nil)
def wq32 {R : Type} (K : (Bool → Option R)) : Out → Option R
  | .ret [.v .bool y0] [] => K y0
  | _ => none
def wq54 : RetSpec := ⟨[.any], [], []⟩
def wq7y : List (Nat × CutSpec) := []
def wq7i : List (Nat × Plan) := []
noncomputable def wq3d (k : Nat) : Ctx := ⟨tyT, wq7y, wq5b k, [], [], wq7i, @SH⟩
noncomputable def wq33 : Code := Tryd.f45.body.getD .skip
noncomputable def wq3p (k : Nat) {R : Type}  (x0 : (List (List UInt8))) (x1 : (List UInt8)) (K : (Bool → Option R)) : Option R := (@wq30 k R x0 x1 (fun y5 => (K (@Decidable.decide (@GE.ge Int Int.instLEInt y5 (0 : Int)) (@Int.decLe (0 : Int) y5)))))
theorem wq7z (k : Nat) {R : Type} (I : Nat → St → Option R) (x0 : (List (List UInt8))) (x1 : (List UInt8)) (K : (Bool → Option R)) : fnK (wq3d k) k wq33 9 [.tmp 4] wq54 [.v (.sl .str) x0, .v .str x1] [] (wq32 K) = wq3p k  x0 x1 K := by kernel_rfl
noncomputable def wq1v (k : Nat) {R : Type} (x0 : (List (List UInt8))) (x1 : (List UInt8)) (K : (Bool → Option R)) : Option R := wq3p k  x0 x1 K
theorem wq80 (k : Nat) {R : Type} (x0 : (List (List UInt8))) (x1 : (List UInt8)) (K : (Bool → Option R)) : fnK (wq3d k) k wq33 9 [.tmp 4] wq54 [.v (.sl .str) x0, .v .str x1] [] (wq32 K) = wq1v k x0 x1 K := by
  exact wq7z k (fun _ _ => none) x0 x1 K
noncomputable def wq3c (k : Nat) {R : Type} : List PV → List (Nm × HObj) → (Out → Option R) → Option R
  | [.v (.sl .str) x0, .v .str x1], [], K => wq1v k x0 x1 (fun y0 => K (.ret [.v .bool y0] []))
  | _, _, _ => none
theorem wq81 (k : Nat) : (wq5b k).Ok Tryd.prog := (CTab.add_ok (fun h => wqaz k h) CTab.nil_ok)
theorem wq9m (k : Nat) {ps : List PV} {hp : List (Nm × HObj)} {R : Type} {K : Out → Option R} {r : R} (h : wq3c k ps hp K = some r) : DoesTo Tryd.prog 45 ps hp fun out => K out = some r := by
  unfold wq3c at h
  split at h
  · rw [← wq80] at h
    have := fn_ok (P := Tryd.prog) (cx := wq3d k) (f := 45) ⟨tyT_ok, wq81 k, fun _ _ => rfl⟩ (by kernel_rfl) (fn := Tryd.f45) (c := wq33) (by kernel_rfl) (by kernel_rfl) (by kernel_rfl) (rs := [.tmp 4]) (by kernel_rfl) (by kernel_rfl) h
    exact this.mono fun out ho => by
      unfold wq32 at ho
      split at ho <;> first | exact ho | cases ho
  · cases h
end Go.Proofs.YtpfbdepoammjmaaDoor.Pvm

set_option maxRecDepth 1000000
set_option maxHeartbeats 0
namespace Go.Proofs.YtpfbdepoammjmaaDoor.Pvm
open Go Go.Proofs
abbrev wqb : Type 1 := (R : Type) → (List (Int × (Int × (Int × ((List UInt8) × Bool))))) → (List (Int × (Int × ((List UInt8) × (Bool × ((List (List UInt8)) × (List Int))))))) → Int → ((List (Int × (Int × (Int × ((List UInt8) × Bool))))) → (List (Int × (Int × ((List UInt8) × (Bool × ((List (List UInt8)) × (List Int))))))) → Int → Option R) → ((List (Int × (Int × (Int × ((List UInt8) × Bool))))) → (List (Int × (Int × ((List UInt8) × (Bool × ((List (List UInt8)) × (List Int))))))) → Int → Int → Option R) → Option R
abbrev wqg : Type 1 := (R : Type) → (List (Int × (Int × (Int × ((List UInt8) × Bool))))) → (List (Int × (Int × ((List UInt8) × (Bool × ((List (List UInt8)) × (List Int))))))) → Int → Int → Int → ((List (Int × (Int × (Int × ((List UInt8) × Bool))))) → (List (Int × (Int × ((List UInt8) × (Bool × ((List (List UInt8)) × (List Int))))))) → Option R) → ((List (Int × (Int × (Int × ((List UInt8) × Bool))))) → (List (Int × (Int × ((List UInt8) × (Bool × ((List (List UInt8)) × (List Int))))))) → Int → Int → Option R) → Option R
abbrev wqc : Type 1 := (R : Type) → (List (Int × (Int × (Int × ((List UInt8) × Bool))))) → (List (Int × (Int × ((List UInt8) × (Bool × ((List (List UInt8)) × (List Int))))))) → Int → Int → Int → ((List (Int × (Int × (Int × ((List UInt8) × Bool))))) → (List (Int × (Int × ((List UInt8) × (Bool × ((List (List UInt8)) × (List Int))))))) → Option R) → ((List (Int × (Int × (Int × ((List UInt8) × Bool))))) → (List (Int × (Int × ((List UInt8) × (Bool × ((List (List UInt8)) × (List Int))))))) → Int → Int → Option R) → Option R
abbrev wqd : Type 1 := (R : Type) → (List (Int × (Int × (Int × ((List UInt8) × Bool))))) → (List (Int × (Int × ((List UInt8) × (Bool × ((List (List UInt8)) × (List Int))))))) → Int → Int → Int → (List UInt8) → Bool → Int → ((List (Int × (Int × (Int × ((List UInt8) × Bool))))) → (List (Int × (Int × ((List UInt8) × (Bool × ((List (List UInt8)) × (List Int))))))) → Int → Option R) → ((List (Int × (Int × (Int × ((List UInt8) × Bool))))) → (List (Int × (Int × ((List UInt8) × (Bool × ((List (List UInt8)) × (List Int))))))) → Int → Int → Option R) → Option R
abbrev wq22 (R : Type) : Type := ((List (Int × (Int × (Int × ((List UInt8) × Bool))))) → (List (Int × (Int × ((List UInt8) × (Bool × ((List (List UInt8)) × (List Int))))))) → Int → Option R)
abbrev wqi (R : Type) : Type := ((List (Int × (Int × (Int × ((List UInt8) × Bool))))) → (List (Int × (Int × ((List UInt8) × (Bool × ((List (List UInt8)) × (List Int))))))) → Int → Int → Option R)
abbrev wq15 (R : Type) : Type := ((List (Int × (Int × (Int × ((List UInt8) × Bool))))) → (List (Int × (Int × ((List UInt8) × (Bool × ((List (List UInt8)) × (List Int))))))) → Option R)
def wqbw : List LS := [.obj 1 [.sl (.pr (.int .i64) (.pr (.int .i64) (.pr (.int .i64) (.pr .str .bool)))), .own 21 47 (.pr (.int .i64) (.pr (.int .i64) (.pr .str (.pr .bool (.pr (.sl .str) (.sl (.int .i64)))))))], .any]
noncomputable def wq75 (X_doc_parser_block : wqb) {R : Type} : List PV → List (Nm × HObj) → (Out → Option R) → Option R
  | [.ptr 1 0, .v (.int .i64) x2], [(21, .row 47 (.pr (.int .i64) (.pr (.int .i64) (.pr .str (.pr .bool (.pr (.sl .str) (.sl (.int .i64))))))) x1), (1, .var 51 [.v (.sl (.pr (.int .i64) (.pr (.int .i64) (.pr (.int .i64) (.pr .str .bool))))) x0, .row 21])], K => X_doc_parser_block R x0 x1 x2 (fun y0 y1 y2 => K (.ret [.v (.int .i64) y2] [(21, .row 47 (.pr (.int .i64) (.pr (.int .i64) (.pr .str (.pr .bool (.pr (.sl .str) (.sl (.int .i64))))))) y1), (1, .var 51 [.v (.sl (.pr (.int .i64) (.pr (.int .i64) (.pr (.int .i64) (.pr .str .bool))))) y0, .row 21])])) (fun z0 z1 z2 z3 => K (.pan (.ifc 30 (.agg [.v (.int .i64) z2, .v (.int .i64) z3])) [(21, .row 47 (.pr (.int .i64) (.pr (.int .i64) (.pr .str (.pr .bool (.pr (.sl .str) (.sl (.int .i64))))))) z1), (1, .var 51 [.v (.sl (.pr (.int .i64) (.pr (.int .i64) (.pr (.int .i64) (.pr .str .bool))))) z0, .row 21])]))
  | _, _, _ => none
def wqls : List LS := [.obj 1 [.sl (.pr (.int .i64) (.pr (.int .i64) (.pr (.int .i64) (.pr .str .bool)))), .own 21 47 (.pr (.int .i64) (.pr (.int .i64) (.pr .str (.pr .bool (.pr (.sl .str) (.sl (.int .i64)))))))], .any, .any, .any]
noncomputable def wq82 (X_doc_parser_list : wqg) {R : Type} : List PV → List (Nm × HObj) → (Out → Option R) → Option R
  | [.ptr 1 0, .v (.int .i64) x2, .v (.int .i64) x3, .v (.int .i64) x4], [(21, .row 47 (.pr (.int .i64) (.pr (.int .i64) (.pr .str (.pr .bool (.pr (.sl .str) (.sl (.int .i64))))))) x1), (1, .var 51 [.v (.sl (.pr (.int .i64) (.pr (.int .i64) (.pr (.int .i64) (.pr .str .bool))))) x0, .row 21])], K => X_doc_parser_list R x0 x1 x2 x3 x4 (fun y0 y1 => K (.ret [] [(21, .row 47 (.pr (.int .i64) (.pr (.int .i64) (.pr .str (.pr .bool (.pr (.sl .str) (.sl (.int .i64))))))) y1), (1, .var 51 [.v (.sl (.pr (.int .i64) (.pr (.int .i64) (.pr (.int .i64) (.pr .str .bool))))) y0, .row 21])])) (fun z0 z1 z2 z3 => K (.pan (.ifc 30 (.agg [.v (.int .i64) z2, .v (.int .i64) z3])) [(21, .row 47 (.pr (.int .i64) (.pr (.int .i64) (.pr .str (.pr .bool (.pr (.sl .str) (.sl (.int .i64))))))) z1), (1, .var 51 [.v (.sl (.pr (.int .i64) (.pr (.int .i64) (.pr (.int .i64) (.pr .str .bool))))) z0, .row 21])]))
  | _, _, _ => none
def wqk3 : List LS := [.obj 1 [.sl (.pr (.int .i64) (.pr (.int .i64) (.pr (.int .i64) (.pr .str .bool)))), .own 21 47 (.pr (.int .i64) (.pr (.int .i64) (.pr .str (.pr .bool (.pr (.sl .str) (.sl (.int .i64)))))))], .any, .any, .any]
noncomputable def wq76 (X_doc_parser_pairs : wqc) {R : Type} : List PV → List (Nm × HObj) → (Out → Option R) → Option R
  | [.ptr 1 0, .v (.int .i64) x2, .v (.int .i64) x3, .v (.int .i64) x4], [(21, .row 47 (.pr (.int .i64) (.pr (.int .i64) (.pr .str (.pr .bool (.pr (.sl .str) (.sl (.int .i64))))))) x1), (1, .var 51 [.v (.sl (.pr (.int .i64) (.pr (.int .i64) (.pr (.int .i64) (.pr .str .bool))))) x0, .row 21])], K => X_doc_parser_pairs R x0 x1 x2 x3 x4 (fun y0 y1 => K (.ret [] [(21, .row 47 (.pr (.int .i64) (.pr (.int .i64) (.pr .str (.pr .bool (.pr (.sl .str) (.sl (.int .i64))))))) y1), (1, .var 51 [.v (.sl (.pr (.int .i64) (.pr (.int .i64) (.pr (.int .i64) (.pr .str .bool))))) y0, .row 21])])) (fun z0 z1 z2 z3 => K (.pan (.ifc 30 (.agg [.v (.int .i64) z2, .v (.int .i64) z3])) [(21, .row 47 (.pr (.int .i64) (.pr (.int .i64) (.pr .str (.pr .bool (.pr (.sl .str) (.sl (.int .i64))))))) z1), (1, .var 51 [.v (.sl (.pr (.int .i64) (.pr (.int .i64) (.pr (.int .i64) (.pr .str .bool))))) z0, .row 21])]))
  | _, _, _ => none
def wqbx : List LS := [.obj 1 [.sl (.pr (.int .i64) (.pr (.int .i64) (.pr (.int .i64) (.pr .str .bool)))), .own 21 47 (.pr (.int .i64) (.pr (.int .i64) (.pr .str (.pr .bool (.pr (.sl .str) (.sl (.int .i64)))))))], .ag [.any, .any, .any, .any, .any], .any]
noncomputable def wq3l (X_doc_parser_under : wqd) {R : Type} : List PV → List (Nm × HObj) → (Out → Option R) → Option R
  | [.ptr 1 0, .agg [.v (.int .i64) x2, .v (.int .i64) x3, .v (.int .i64) x4, .v .str x5, .v .bool x6], .v (.int .i64) x7], [(21, .row 47 (.pr (.int .i64) (.pr (.int .i64) (.pr .str (.pr .bool (.pr (.sl .str) (.sl (.int .i64))))))) x1), (1, .var 51 [.v (.sl (.pr (.int .i64) (.pr (.int .i64) (.pr (.int .i64) (.pr .str .bool))))) x0, .row 21])], K => X_doc_parser_under R x0 x1 x2 x3 x4 x5 x6 x7 (fun y0 y1 y2 => K (.ret [.v (.int .i64) y2] [(21, .row 47 (.pr (.int .i64) (.pr (.int .i64) (.pr .str (.pr .bool (.pr (.sl .str) (.sl (.int .i64))))))) y1), (1, .var 51 [.v (.sl (.pr (.int .i64) (.pr (.int .i64) (.pr (.int .i64) (.pr .str .bool))))) y0, .row 21])])) (fun z0 z1 z2 z3 => K (.pan (.ifc 30 (.agg [.v (.int .i64) z2, .v (.int .i64) z3])) [(21, .row 47 (.pr (.int .i64) (.pr (.int .i64) (.pr .str (.pr .bool (.pr (.sl .str) (.sl (.int .i64))))))) z1), (1, .var 51 [.v (.sl (.pr (.int .i64) (.pr (.int .i64) (.pr (.int .i64) (.pr .str .bool))))) z0, .row 21])]))
  | _, _, _ => none
noncomputable def wqe5 (k : Nat) (X_doc_parser_block : wqb) (X_doc_parser_list : wqg) (X_doc_parser_pairs : wqc) (X_doc_parser_under : wqd) : CTab := (CTab.add 15 wqcv (wq8q k) (CTab.add 28 wq8w (wq53 k) (CTab.add 29 wqls (wq82 X_doc_parser_list) (CTab.add 30 wqk3 (wq76 X_doc_parser_pairs) CTab.nil))))
def wq77 {R : Type} (K : wq22 R) (E : wqi R) : Out → Option R
  | .ret [.v (.int .i64) y2] [(21, .row 47 (.pr (.int .i64) (.pr (.int .i64) (.pr .str (.pr .bool (.pr (.sl .str) (.sl (.int .i64))))))) y1), (1, .var 51 [.v (.sl (.pr (.int .i64) (.pr (.int .i64) (.pr (.int .i64) (.pr .str .bool))))) y0, .row 21])] => K y0 y1 y2
  | .pan (.ifc 30 (.agg [.v (.int .i64) z2, .v (.int .i64) z3])) [(21, .row 47 (.pr (.int .i64) (.pr (.int .i64) (.pr .str (.pr .bool (.pr (.sl .str) (.sl (.int .i64))))))) z1), (1, .var 51 [.v (.sl (.pr (.int .i64) (.pr (.int .i64) (.pr (.int .i64) (.pr .str .bool))))) z0, .row 21])] => E z0 z1 z2 z3
  | _ => none
def wqcx : RetSpec := ⟨[.any], [(1, .obj 1 [.sl (.pr (.int .i64) (.pr (.int .i64) (.pr (.int .i64) (.pr .str .bool)))), .own 21 47 (.pr (.int .i64) (.pr (.int .i64) (.pr .str (.pr .bool (.pr (.sl .str) (.sl (.int .i64)))))))])], [(1, .obj 1 [.sl (.pr (.int .i64) (.pr (.int .i64) (.pr (.int .i64) (.pr .str .bool)))), .own 21 47 (.pr (.int .i64) (.pr (.int .i64) (.pr .str (.pr .bool (.pr (.sl .str) (.sl (.int .i64)))))))])]⟩
def wqij : List (Nat × CutSpec) := []
def wqgt : List (Nat × Plan) := [(9, (.of [(0, 1), (1, 1), (2, 1), (3, 1), (4, 1), (6, 1), (5, 1), (7, 1), (8, 1), (9, 0), (10, 0), (11, 1), (12, 1), (13, 1), (14, 0)] .done)), (14, (.of [(0, 1), (1, 1), (2, 1), (3, 1), (5, 1), (6, 1), (8, 1), (10, 1), (4, 1), (7, 1), (9, 1), (11, 1), (12, 1), (13, 1), (14, 0)] .done))]
noncomputable def wq8y (k : Nat) (X_doc_parser_block : wqb) (X_doc_parser_list : wqg) (X_doc_parser_pairs : wqc) (X_doc_parser_under : wqd) : Ctx := ⟨tyT, wqij, wqe5 k X_doc_parser_block X_doc_parser_list X_doc_parser_pairs X_doc_parser_under, [], [1], wqgt, @SH⟩
noncomputable def wq78 : Code := Tryd.f16.body.getD .skip
noncomputable def wq9r (k : Nat) (X_doc_parser_block : wqb) (X_doc_parser_list : wqg) (X_doc_parser_pairs : wqc) (X_doc_parser_under : wqd) {R : Type}  (x0 : (List (Int × (Int × (Int × ((List UInt8) × Bool)))))) (x1 : (List (Int × (Int × ((List UInt8) × (Bool × ((List (List UInt8)) × (List Int)))))))) (x2 : Int) (K : wq22 R) (E : wqi R) : Option R := (@cond (@Option R) (@inb (0 : Int) (@Nat.cast Int instNatCastInt (@List.length (@Kd.T (@Kd.pr kI (@Kd.pr kI (@Kd.pr kI (@Kd.pr Kd.str Kd.bool))))) x0))) (@cond (@Option R) (@cond (@Kd.T Kd.bool) (@Decidable.decide (@LT.lt Int Int.instLTInt (@List.getD (@Kd.T (@Kd.pr kI (@Kd.pr kI (@Kd.pr kI (@Kd.pr Kd.str Kd.bool))))) x0 (@Int.toNat (0 : Int)) (@Kd.zero (@Kd.pr kI (@Kd.pr kI (@Kd.pr kI (@Kd.pr Kd.str Kd.bool)))))).1 (1 : Int)) (@Int.decLt (@List.getD (@Kd.T (@Kd.pr kI (@Kd.pr kI (@Kd.pr kI (@Kd.pr Kd.str Kd.bool))))) x0 (@Int.toNat (0 : Int)) (@Kd.zero (@Kd.pr kI (@Kd.pr kI (@Kd.pr kI (@Kd.pr Kd.str Kd.bool)))))).1 (1 : Int))) Bool.true (@Decidable.decide (@GT.gt Int Int.instLTInt (@List.getD (@Kd.T (@Kd.pr kI (@Kd.pr kI (@Kd.pr kI (@Kd.pr Kd.str Kd.bool))))) x0 (@Int.toNat (0 : Int)) (@Kd.zero (@Kd.pr kI (@Kd.pr kI (@Kd.pr kI (@Kd.pr Kd.str Kd.bool)))))).1 (3 : Int)) (@Int.decLt (3 : Int) (@List.getD (@Kd.T (@Kd.pr kI (@Kd.pr kI (@Kd.pr kI (@Kd.pr Kd.str Kd.bool))))) x0 (@Int.toNat (0 : Int)) (@Kd.zero (@Kd.pr kI (@Kd.pr kI (@Kd.pr kI (@Kd.pr Kd.str Kd.bool)))))).1))) (@wq5e k R (6 : Int) (@List.getD (@Kd.T (@Kd.pr kI (@Kd.pr kI (@Kd.pr kI (@Kd.pr Kd.str Kd.bool))))) x0 (@Int.toNat (0 : Int)) (@Kd.zero (@Kd.pr kI (@Kd.pr kI (@Kd.pr kI (@Kd.pr Kd.str Kd.bool)))))).2.1 (fun y7 y8 => (E x0 x1 y7 y8))) (@cond (@Option R) (@Decidable.decide (@GT.gt Int Int.instLTInt x2 (24 : Int)) (@Int.decLt (24 : Int) x2)) (@wq5e k R (8 : Int) (@List.getD (@Kd.T (@Kd.pr kI (@Kd.pr kI (@Kd.pr kI (@Kd.pr Kd.str Kd.bool))))) x0 (@Int.toNat (0 : Int)) (@Kd.zero (@Kd.pr kI (@Kd.pr kI (@Kd.pr kI (@Kd.pr Kd.str Kd.bool)))))).2.1 (fun y7 y8 => (E x0 x1 y7 y8))) (@cond (@Option R) (@Decidable.decide (@GE.ge Int Int.instLEInt (@Nat.cast Int instNatCastInt (@List.length (@Kd.T (@Kd.pr kI (@Kd.pr kI (@Kd.pr Kd.str (@Kd.pr Kd.bool (@Kd.pr (@Kd.sl Kd.str) (@Kd.sl kI))))))) x1)) (2000 : Int)) (@Int.decLe (2000 : Int) (@Nat.cast Int instNatCastInt (@List.length (@Kd.T (@Kd.pr kI (@Kd.pr kI (@Kd.pr Kd.str (@Kd.pr Kd.bool (@Kd.pr (@Kd.sl Kd.str) (@Kd.sl kI))))))) x1)))) (@wq5e k R (9 : Int) (@List.getD (@Kd.T (@Kd.pr kI (@Kd.pr kI (@Kd.pr kI (@Kd.pr Kd.str Kd.bool))))) x0 (@Int.toNat (0 : Int)) (@Kd.zero (@Kd.pr kI (@Kd.pr kI (@Kd.pr kI (@Kd.pr Kd.str Kd.bool)))))).2.1 (fun y7 y8 => (E x0 x1 y7 y8))) (@cond (@Option R) (@fits (@List.length (@Kd.T (@Kd.pr kI (@Kd.pr kI (@Kd.pr Kd.str (@Kd.pr Kd.bool (@Kd.pr (@Kd.sl Kd.str) (@Kd.sl kI))))))) x1) (@List.length (@Kd.T (@Kd.pr kI (@Kd.pr kI (@Kd.pr Kd.str (@Kd.pr Kd.bool (@Kd.pr (@Kd.sl Kd.str) (@Kd.sl kI))))))) (((0 : (@Kd.T kI)), ((@List.getD (@Kd.T (@Kd.pr kI (@Kd.pr kI (@Kd.pr kI (@Kd.pr Kd.str Kd.bool))))) x0 (@Int.toNat (0 : Int)) (@Kd.zero (@Kd.pr kI (@Kd.pr kI (@Kd.pr kI (@Kd.pr Kd.str Kd.bool)))))).2.1, ([], (Bool.false, ([], []))))) :: [])) (88 : Nat)) (@cond (@Option R) (@BEq.beq Int (@instBEqOfDecidableEq Int @Int.instDecidableEq) (@List.getD (@Kd.T (@Kd.pr kI (@Kd.pr kI (@Kd.pr kI (@Kd.pr Kd.str Kd.bool))))) x0 (@Int.toNat (0 : Int)) (@Kd.zero (@Kd.pr kI (@Kd.pr kI (@Kd.pr kI (@Kd.pr Kd.str Kd.bool)))))).1 (3 : Int)) (@wq4a k R x0 (@HAppend.hAppend (@Kd.T (@Kd.sl (@Kd.pr kI (@Kd.pr kI (@Kd.pr Kd.str (@Kd.pr Kd.bool (@Kd.pr (@Kd.sl Kd.str) (@Kd.sl kI)))))))) (@List (@Kd.T (@Kd.pr kI (@Kd.pr kI (@Kd.pr Kd.str (@Kd.pr Kd.bool (@Kd.pr (@Kd.sl Kd.str) (@Kd.sl kI)))))))) (@Kd.T (@Kd.sl (@Kd.pr kI (@Kd.pr kI (@Kd.pr Kd.str (@Kd.pr Kd.bool (@Kd.pr (@Kd.sl Kd.str) (@Kd.sl kI)))))))) (@instHAppendOfAppend (@Kd.T (@Kd.sl (@Kd.pr kI (@Kd.pr kI (@Kd.pr Kd.str (@Kd.pr Kd.bool (@Kd.pr (@Kd.sl Kd.str) (@Kd.sl kI)))))))) (@List.instAppend (@Kd.T (@Kd.pr kI (@Kd.pr kI (@Kd.pr Kd.str (@Kd.pr Kd.bool (@Kd.pr (@Kd.sl Kd.str) (@Kd.sl kI))))))))) x1 (((0 : (@Kd.T kI)), ((@List.getD (@Kd.T (@Kd.pr kI (@Kd.pr kI (@Kd.pr kI (@Kd.pr Kd.str Kd.bool))))) x0 (@Int.toNat (0 : Int)) (@Kd.zero (@Kd.pr kI (@Kd.pr kI (@Kd.pr kI (@Kd.pr Kd.str Kd.bool)))))).2.1, ([], (Bool.false, ([], []))))) :: [])) (fun y7 y8 y9 y10 y11 y12 y13 => (@cond (@Option R) (@inb (@Nat.cast Int instNatCastInt (@List.length (@Kd.T (@Kd.pr kI (@Kd.pr kI (@Kd.pr Kd.str (@Kd.pr Kd.bool (@Kd.pr (@Kd.sl Kd.str) (@Kd.sl kI))))))) x1)) (@Nat.cast Int instNatCastInt (@List.length (@Kd.T (@Kd.pr kI (@Kd.pr kI (@Kd.pr Kd.str (@Kd.pr Kd.bool (@Kd.pr (@Kd.sl Kd.str) (@Kd.sl kI))))))) y8))) (@SH (@List (@Kd.T (@Kd.pr kI (@Kd.pr kI (@Kd.pr Kd.str (@Kd.pr Kd.bool (@Kd.pr (@Kd.sl Kd.str) (@Kd.sl kI)))))))) R (@List.set (@Kd.T (@Kd.pr kI (@Kd.pr kI (@Kd.pr Kd.str (@Kd.pr Kd.bool (@Kd.pr (@Kd.sl Kd.str) (@Kd.sl kI))))))) y8 (@Int.toNat (@Nat.cast Int instNatCastInt (@List.length (@Kd.T (@Kd.pr kI (@Kd.pr kI (@Kd.pr Kd.str (@Kd.pr Kd.bool (@Kd.pr (@Kd.sl Kd.str) (@Kd.sl kI))))))) x1))) ((1 : Int), ((@List.getD (@Kd.T (@Kd.pr kI (@Kd.pr kI (@Kd.pr kI (@Kd.pr Kd.str Kd.bool))))) x0 (@Int.toNat (0 : Int)) (@Kd.zero (@Kd.pr kI (@Kd.pr kI (@Kd.pr kI (@Kd.pr Kd.str Kd.bool)))))).2.1, ((@List.getD (@Kd.T (@Kd.pr kI (@Kd.pr kI (@Kd.pr kI (@Kd.pr Kd.str Kd.bool))))) x0 (@Int.toNat (0 : Int)) (@Kd.zero (@Kd.pr kI (@Kd.pr kI (@Kd.pr kI (@Kd.pr Kd.str Kd.bool)))))).2.2.2.1, ((@List.getD (@Kd.T (@Kd.pr kI (@Kd.pr kI (@Kd.pr kI (@Kd.pr Kd.str Kd.bool))))) x0 (@Int.toNat (0 : Int)) (@Kd.zero (@Kd.pr kI (@Kd.pr kI (@Kd.pr kI (@Kd.pr Kd.str Kd.bool)))))).2.2.2.2, ([], [])))))) (fun y14 => (K y7 y14 (@Nat.cast Int instNatCastInt (@List.length (@Kd.T (@Kd.pr kI (@Kd.pr kI (@Kd.pr Kd.str (@Kd.pr Kd.bool (@Kd.pr (@Kd.sl Kd.str) (@Kd.sl kI))))))) x1))))) (@Option.none R)))) (@cond (@Option R) (@BEq.beq Int (@instBEqOfDecidableEq Int @Int.instDecidableEq) (@List.getD (@Kd.T (@Kd.pr kI (@Kd.pr kI (@Kd.pr kI (@Kd.pr Kd.str Kd.bool))))) x0 (@Int.toNat (0 : Int)) (@Kd.zero (@Kd.pr kI (@Kd.pr kI (@Kd.pr kI (@Kd.pr Kd.str Kd.bool)))))).1 (1 : Int)) (X_doc_parser_list R x0 (@HAppend.hAppend (@Kd.T (@Kd.sl (@Kd.pr kI (@Kd.pr kI (@Kd.pr Kd.str (@Kd.pr Kd.bool (@Kd.pr (@Kd.sl Kd.str) (@Kd.sl kI)))))))) (@List (@Kd.T (@Kd.pr kI (@Kd.pr kI (@Kd.pr Kd.str (@Kd.pr Kd.bool (@Kd.pr (@Kd.sl Kd.str) (@Kd.sl kI)))))))) (@Kd.T (@Kd.sl (@Kd.pr kI (@Kd.pr kI (@Kd.pr Kd.str (@Kd.pr Kd.bool (@Kd.pr (@Kd.sl Kd.str) (@Kd.sl kI)))))))) (@instHAppendOfAppend (@Kd.T (@Kd.sl (@Kd.pr kI (@Kd.pr kI (@Kd.pr Kd.str (@Kd.pr Kd.bool (@Kd.pr (@Kd.sl Kd.str) (@Kd.sl kI)))))))) (@List.instAppend (@Kd.T (@Kd.pr kI (@Kd.pr kI (@Kd.pr Kd.str (@Kd.pr Kd.bool (@Kd.pr (@Kd.sl Kd.str) (@Kd.sl kI))))))))) x1 (((0 : (@Kd.T kI)), ((@List.getD (@Kd.T (@Kd.pr kI (@Kd.pr kI (@Kd.pr kI (@Kd.pr Kd.str Kd.bool))))) x0 (@Int.toNat (0 : Int)) (@Kd.zero (@Kd.pr kI (@Kd.pr kI (@Kd.pr kI (@Kd.pr Kd.str Kd.bool)))))).2.1, ([], (Bool.false, ([], []))))) :: [])) (@Nat.cast Int instNatCastInt (@List.length (@Kd.T (@Kd.pr kI (@Kd.pr kI (@Kd.pr Kd.str (@Kd.pr Kd.bool (@Kd.pr (@Kd.sl Kd.str) (@Kd.sl kI))))))) x1)) (@List.getD (@Kd.T (@Kd.pr kI (@Kd.pr kI (@Kd.pr kI (@Kd.pr Kd.str Kd.bool))))) x0 (@Int.toNat (0 : Int)) (@Kd.zero (@Kd.pr kI (@Kd.pr kI (@Kd.pr kI (@Kd.pr Kd.str Kd.bool)))))).2.2.1 x2 (fun y7 y8 => (K y7 y8 (@Nat.cast Int instNatCastInt (@List.length (@Kd.T (@Kd.pr kI (@Kd.pr kI (@Kd.pr Kd.str (@Kd.pr Kd.bool (@Kd.pr (@Kd.sl Kd.str) (@Kd.sl kI))))))) x1)))) (fun y7 y8 y9 y10 => (E y7 y8 y9 y10))) (X_doc_parser_pairs R x0 (@HAppend.hAppend (@Kd.T (@Kd.sl (@Kd.pr kI (@Kd.pr kI (@Kd.pr Kd.str (@Kd.pr Kd.bool (@Kd.pr (@Kd.sl Kd.str) (@Kd.sl kI)))))))) (@List (@Kd.T (@Kd.pr kI (@Kd.pr kI (@Kd.pr Kd.str (@Kd.pr Kd.bool (@Kd.pr (@Kd.sl Kd.str) (@Kd.sl kI)))))))) (@Kd.T (@Kd.sl (@Kd.pr kI (@Kd.pr kI (@Kd.pr Kd.str (@Kd.pr Kd.bool (@Kd.pr (@Kd.sl Kd.str) (@Kd.sl kI)))))))) (@instHAppendOfAppend (@Kd.T (@Kd.sl (@Kd.pr kI (@Kd.pr kI (@Kd.pr Kd.str (@Kd.pr Kd.bool (@Kd.pr (@Kd.sl Kd.str) (@Kd.sl kI)))))))) (@List.instAppend (@Kd.T (@Kd.pr kI (@Kd.pr kI (@Kd.pr Kd.str (@Kd.pr Kd.bool (@Kd.pr (@Kd.sl Kd.str) (@Kd.sl kI))))))))) x1 (((0 : (@Kd.T kI)), ((@List.getD (@Kd.T (@Kd.pr kI (@Kd.pr kI (@Kd.pr kI (@Kd.pr Kd.str Kd.bool))))) x0 (@Int.toNat (0 : Int)) (@Kd.zero (@Kd.pr kI (@Kd.pr kI (@Kd.pr kI (@Kd.pr Kd.str Kd.bool)))))).2.1, ([], (Bool.false, ([], []))))) :: [])) (@Nat.cast Int instNatCastInt (@List.length (@Kd.T (@Kd.pr kI (@Kd.pr kI (@Kd.pr Kd.str (@Kd.pr Kd.bool (@Kd.pr (@Kd.sl Kd.str) (@Kd.sl kI))))))) x1)) (@List.getD (@Kd.T (@Kd.pr kI (@Kd.pr kI (@Kd.pr kI (@Kd.pr Kd.str Kd.bool))))) x0 (@Int.toNat (0 : Int)) (@Kd.zero (@Kd.pr kI (@Kd.pr kI (@Kd.pr kI (@Kd.pr Kd.str Kd.bool)))))).2.2.1 x2 (fun y7 y8 => (K y7 y8 (@Nat.cast Int instNatCastInt (@List.length (@Kd.T (@Kd.pr kI (@Kd.pr kI (@Kd.pr Kd.str (@Kd.pr Kd.bool (@Kd.pr (@Kd.sl Kd.str) (@Kd.sl kI))))))) x1)))) (fun y7 y8 y9 y10 => (E y7 y8 y9 y10))))) (@Option.none R))))) (@Option.none R))
theorem wqik (k : Nat) (X_doc_parser_block : wqb) (X_doc_parser_list : wqg) (X_doc_parser_pairs : wqc) (X_doc_parser_under : wqd) {R : Type} (I : Nat → St → Option R) (x0 : (List (Int × (Int × (Int × ((List UInt8) × Bool)))))) (x1 : (List (Int × (Int × ((List UInt8) × (Bool × ((List (List UInt8)) × (List Int)))))))) (x2 : Int) (K : wq22 R) (E : wqi R) : fnK (wq8y k X_doc_parser_block X_doc_parser_list X_doc_parser_pairs X_doc_parser_under) k wq78 97 [.tmp 4] wqcx [.ptr 1 0, .v (.int .i64) x2] [(21, .row 47 (.pr (.int .i64) (.pr (.int .i64) (.pr .str (.pr .bool (.pr (.sl .str) (.sl (.int .i64))))))) x1), (1, .var 51 [.v (.sl (.pr (.int .i64) (.pr (.int .i64) (.pr (.int .i64) (.pr .str .bool))))) x0, .row 21])] (wq77 K E) = wq9r k X_doc_parser_block X_doc_parser_list X_doc_parser_pairs X_doc_parser_under  x0 x1 x2 K E := by kernel_rfl
noncomputable def wqfv (k : Nat) (X_doc_parser_block : wqb) (X_doc_parser_list : wqg) (X_doc_parser_pairs : wqc) (X_doc_parser_under : wqd) : CTab := (CTab.add 28 wq8w (wq53 k) (CTab.add 43 wqcw (wq66 k) (CTab.add 44 wqbx (wq3l X_doc_parser_under) CTab.nil)))
def wq2k {R : Type} (K : wq15 R) (E : wqi R) : Out → Option R
  | .ret [] [(21, .row 47 (.pr (.int .i64) (.pr (.int .i64) (.pr .str (.pr .bool (.pr (.sl .str) (.sl (.int .i64))))))) y1), (1, .var 51 [.v (.sl (.pr (.int .i64) (.pr (.int .i64) (.pr (.int .i64) (.pr .str .bool))))) y0, .row 21])] => K y0 y1
  | .pan (.ifc 30 (.agg [.v (.int .i64) z2, .v (.int .i64) z3])) [(21, .row 47 (.pr (.int .i64) (.pr (.int .i64) (.pr .str (.pr .bool (.pr (.sl .str) (.sl (.int .i64))))))) z1), (1, .var 51 [.v (.sl (.pr (.int .i64) (.pr (.int .i64) (.pr (.int .i64) (.pr .str .bool))))) z0, .row 21])] => E z0 z1 z2 z3
  | _ => none
def wq3v : RetSpec := ⟨[], [(1, .obj 1 [.sl (.pr (.int .i64) (.pr (.int .i64) (.pr (.int .i64) (.pr .str .bool)))), .own 21 47 (.pr (.int .i64) (.pr (.int .i64) (.pr .str (.pr .bool (.pr (.sl .str) (.sl (.int .i64)))))))])], [(1, .obj 1 [.sl (.pr (.int .i64) (.pr (.int .i64) (.pr (.int .i64) (.pr .str .bool)))), .own 21 47 (.pr (.int .i64) (.pr (.int .i64) (.pr .str (.pr .bool (.pr (.sl .str) (.sl (.int .i64)))))))])]⟩
def wqk4 : List (Nat × CutSpec) := [(1001, ⟨[(0, .obj 1 [.sl (.pr (.int .i64) (.pr (.int .i64) (.pr (.int .i64) (.pr .str .bool)))), .own 21 47 (.pr (.int .i64) (.pr (.int .i64) (.pr .str (.pr .bool (.pr (.sl .str) (.sl (.int .i64)))))))]), (1, .any), (2, .any), (3, .any), (8, .own 100008 3 (.int .i64))], [(1, .obj 1 [.sl (.pr (.int .i64) (.pr (.int .i64) (.pr (.int .i64) (.pr .str .bool)))), .own 21 47 (.pr (.int .i64) (.pr (.int .i64) (.pr .str (.pr .bool (.pr (.sl .str) (.sl (.int .i64)))))))])]⟩)]
def wqil : List (Nat × Plan) := [(3, (.of [(0, 1), (1, 1), (2, 1), (3, 1), (5, 1), (6, 1), (7, 1), (8, 1), (9, 1), (11, 1), (12, 1), (4, 1), (10, 1), (13, 1), (14, 1), (15, 0), (16, 1), (17, 1), (18, 0)] .done))]
noncomputable def wqm (k : Nat) (X_doc_parser_block : wqb) (X_doc_parser_list : wqg) (X_doc_parser_pairs : wqc) (X_doc_parser_under : wqd) : Ctx := ⟨tyT, wqk4, wqfv k X_doc_parser_block X_doc_parser_list X_doc_parser_pairs X_doc_parser_under, [], [1], wqil, @SH⟩
noncomputable def wq1a : Code := Tryd.f29.body.getD .skip
def wq2x (s0 : (List (Int × (Int × (Int × ((List UInt8) × Bool)))))) (s1 : (List (Int × (Int × ((List UInt8) × (Bool × ((List (List UInt8)) × (List Int)))))))) (s2 s3 s4 : Int) (s5 : (List Int)) : St := ⟨mkT [(0, .ptr 1 0), (1, .v (.int .i64) s2), (2, .v (.int .i64) s3), (3, .v (.int .i64) s4), (8, .row 100008)], mkH [(21, .row 47 (.pr (.int .i64) (.pr (.int .i64) (.pr .str (.pr .bool (.pr (.sl .str) (.sl (.int .i64))))))) s1), (1, .var 51 [.v (.sl (.pr (.int .i64) (.pr (.int .i64) (.pr (.int .i64) (.pr .str .bool))))) s0, .row 21]), (100008, .row 3 (.int .i64) s5)]⟩
noncomputable def wq55 (k : Nat) (X_doc_parser_block : wqb) (X_doc_parser_list : wqg) (X_doc_parser_pairs : wqc) (X_doc_parser_under : wqd) {R : Type} (E1001 : ((List (Int × (Int × (Int × ((List UInt8) × Bool))))) → (List (Int × (Int × ((List UInt8) × (Bool × ((List (List UInt8)) × (List Int))))))) → Int → Int → Int → (List Int) → Option R)) (s0 : (List (Int × (Int × (Int × ((List UInt8) × Bool)))))) (s1 : (List (Int × (Int × ((List UInt8) × (Bool × ((List (List UInt8)) × (List Int)))))))) (s2 s3 s4 : Int) (s5 : (List Int)) (K : wq15 R) (E : wqi R) : Option R := (@wq51 k R s0 s1 (1 : Int) s3 (fun y11 y12 y13 => (@cond (@Option R) y13 (@wq4a k R y11 y12 (fun y14 y15 y16 y17 y18 y19 y20 => (X_doc_parser_under R y14 y15 y16 y17 y18 y19 y20 s4 (fun y21 y22 y23 => (@cond (@Option R) (@fits (@List.length (@Kd.T kI) s5) (@List.length (@Kd.T kI) (y23 :: [])) (8 : Nat)) (E1001 y21 y22 s2 s3 s4 (@HAppend.hAppend (@Kd.T (@Kd.sl kI)) (@List (@Kd.T kI)) (@Kd.T (@Kd.sl kI)) (@instHAppendOfAppend (@Kd.T (@Kd.sl kI)) (@List.instAppend (@Kd.T kI))) s5 (y23 :: []))) (@Option.none R))) (fun y21 y22 y23 y24 => (E y21 y22 y23 y24))))) (@cond (@Option R) (@inb s2 (@Nat.cast Int instNatCastInt (@List.length (@Kd.T (@Kd.pr kI (@Kd.pr kI (@Kd.pr Kd.str (@Kd.pr Kd.bool (@Kd.pr (@Kd.sl Kd.str) (@Kd.sl kI))))))) y12))) (@SH (@List (@Kd.T (@Kd.pr kI (@Kd.pr kI (@Kd.pr Kd.str (@Kd.pr Kd.bool (@Kd.pr (@Kd.sl Kd.str) (@Kd.sl kI)))))))) R (@List.set (@Kd.T (@Kd.pr kI (@Kd.pr kI (@Kd.pr Kd.str (@Kd.pr Kd.bool (@Kd.pr (@Kd.sl Kd.str) (@Kd.sl kI))))))) y12 (@Int.toNat s2) ((2 : Int), ((@List.getD (@Kd.T (@Kd.pr kI (@Kd.pr kI (@Kd.pr Kd.str (@Kd.pr Kd.bool (@Kd.pr (@Kd.sl Kd.str) (@Kd.sl kI))))))) y12 (@Int.toNat s2) (@Kd.zero (@Kd.pr kI (@Kd.pr kI (@Kd.pr Kd.str (@Kd.pr Kd.bool (@Kd.pr (@Kd.sl Kd.str) (@Kd.sl kI)))))))).2.1, ((@List.getD (@Kd.T (@Kd.pr kI (@Kd.pr kI (@Kd.pr Kd.str (@Kd.pr Kd.bool (@Kd.pr (@Kd.sl Kd.str) (@Kd.sl kI))))))) y12 (@Int.toNat s2) (@Kd.zero (@Kd.pr kI (@Kd.pr kI (@Kd.pr Kd.str (@Kd.pr Kd.bool (@Kd.pr (@Kd.sl Kd.str) (@Kd.sl kI)))))))).2.2.1, ((@List.getD (@Kd.T (@Kd.pr kI (@Kd.pr kI (@Kd.pr Kd.str (@Kd.pr Kd.bool (@Kd.pr (@Kd.sl Kd.str) (@Kd.sl kI))))))) y12 (@Int.toNat s2) (@Kd.zero (@Kd.pr kI (@Kd.pr kI (@Kd.pr Kd.str (@Kd.pr Kd.bool (@Kd.pr (@Kd.sl Kd.str) (@Kd.sl kI)))))))).2.2.2.1, ((@List.getD (@Kd.T (@Kd.pr kI (@Kd.pr kI (@Kd.pr Kd.str (@Kd.pr Kd.bool (@Kd.pr (@Kd.sl Kd.str) (@Kd.sl kI))))))) y12 (@Int.toNat s2) (@Kd.zero (@Kd.pr kI (@Kd.pr kI (@Kd.pr Kd.str (@Kd.pr Kd.bool (@Kd.pr (@Kd.sl Kd.str) (@Kd.sl kI)))))))).2.2.2.2.1, (@List.getD (@Kd.T (@Kd.pr kI (@Kd.pr kI (@Kd.pr Kd.str (@Kd.pr Kd.bool (@Kd.pr (@Kd.sl Kd.str) (@Kd.sl kI))))))) y12 (@Int.toNat s2) (@Kd.zero (@Kd.pr kI (@Kd.pr kI (@Kd.pr Kd.str (@Kd.pr Kd.bool (@Kd.pr (@Kd.sl Kd.str) (@Kd.sl kI)))))))).2.2.2.2.2)))))) (fun y14 => (@cond (@Option R) (@inb s2 (@Nat.cast Int instNatCastInt (@List.length (@Kd.T (@Kd.pr kI (@Kd.pr kI (@Kd.pr Kd.str (@Kd.pr Kd.bool (@Kd.pr (@Kd.sl Kd.str) (@Kd.sl kI))))))) y14))) (@SH (@List (@Kd.T (@Kd.pr kI (@Kd.pr kI (@Kd.pr Kd.str (@Kd.pr Kd.bool (@Kd.pr (@Kd.sl Kd.str) (@Kd.sl kI)))))))) R (@List.set (@Kd.T (@Kd.pr kI (@Kd.pr kI (@Kd.pr Kd.str (@Kd.pr Kd.bool (@Kd.pr (@Kd.sl Kd.str) (@Kd.sl kI))))))) y14 (@Int.toNat s2) ((@List.getD (@Kd.T (@Kd.pr kI (@Kd.pr kI (@Kd.pr Kd.str (@Kd.pr Kd.bool (@Kd.pr (@Kd.sl Kd.str) (@Kd.sl kI))))))) y14 (@Int.toNat s2) (@Kd.zero (@Kd.pr kI (@Kd.pr kI (@Kd.pr Kd.str (@Kd.pr Kd.bool (@Kd.pr (@Kd.sl Kd.str) (@Kd.sl kI)))))))).1, ((@List.getD (@Kd.T (@Kd.pr kI (@Kd.pr kI (@Kd.pr Kd.str (@Kd.pr Kd.bool (@Kd.pr (@Kd.sl Kd.str) (@Kd.sl kI))))))) y14 (@Int.toNat s2) (@Kd.zero (@Kd.pr kI (@Kd.pr kI (@Kd.pr Kd.str (@Kd.pr Kd.bool (@Kd.pr (@Kd.sl Kd.str) (@Kd.sl kI)))))))).2.1, ((@List.getD (@Kd.T (@Kd.pr kI (@Kd.pr kI (@Kd.pr Kd.str (@Kd.pr Kd.bool (@Kd.pr (@Kd.sl Kd.str) (@Kd.sl kI))))))) y14 (@Int.toNat s2) (@Kd.zero (@Kd.pr kI (@Kd.pr kI (@Kd.pr Kd.str (@Kd.pr Kd.bool (@Kd.pr (@Kd.sl Kd.str) (@Kd.sl kI)))))))).2.2.1, ((@List.getD (@Kd.T (@Kd.pr kI (@Kd.pr kI (@Kd.pr Kd.str (@Kd.pr Kd.bool (@Kd.pr (@Kd.sl Kd.str) (@Kd.sl kI))))))) y14 (@Int.toNat s2) (@Kd.zero (@Kd.pr kI (@Kd.pr kI (@Kd.pr Kd.str (@Kd.pr Kd.bool (@Kd.pr (@Kd.sl Kd.str) (@Kd.sl kI)))))))).2.2.2.1, ((@List.getD (@Kd.T (@Kd.pr kI (@Kd.pr kI (@Kd.pr Kd.str (@Kd.pr Kd.bool (@Kd.pr (@Kd.sl Kd.str) (@Kd.sl kI))))))) y14 (@Int.toNat s2) (@Kd.zero (@Kd.pr kI (@Kd.pr kI (@Kd.pr Kd.str (@Kd.pr Kd.bool (@Kd.pr (@Kd.sl Kd.str) (@Kd.sl kI)))))))).2.2.2.2.1, s5)))))) (fun y15 => (K y11 y15))) (@Option.none R)))) (@Option.none R)))))
theorem wqe6 (k : Nat) (X_doc_parser_block : wqb) (X_doc_parser_list : wqg) (X_doc_parser_pairs : wqc) (X_doc_parser_under : wqd) {R : Type} (I : Nat → St → Option R) (s0 : (List (Int × (Int × (Int × ((List UInt8) × Bool)))))) (s1 : (List (Int × (Int × ((List UInt8) × (Bool × ((List (List UInt8)) × (List Int)))))))) (s2 s3 s4 : Int) (s5 : (List Int)) (K : wq15 R) (E : wqi R) : execK (wqm k X_doc_parser_block X_doc_parser_list X_doc_parser_pairs X_doc_parser_under) k (at_ [1, 0, 0, 0] wq1a) (wq2x s0 s1 s2 s3 s4 s5) (konts (wqm k X_doc_parser_block X_doc_parser_list X_doc_parser_pairs X_doc_parser_under) k I [1, 0, 0, 0] wq1a (outK (wqm k X_doc_parser_block X_doc_parser_list X_doc_parser_pairs X_doc_parser_under) wq3v [] (wq2k K E))) = wq55 k X_doc_parser_block X_doc_parser_list X_doc_parser_pairs X_doc_parser_under (fun s0 s1 s2 s3 s4 s5 => I 1001 (wq2x s0 s1 s2 s3 s4 s5)) s0 s1 s2 s3 s4 s5 K E := by kernel_rfl
noncomputable def wq7m (k : Nat) (X_doc_parser_block : wqb) (X_doc_parser_list : wqg) (X_doc_parser_pairs : wqc) (X_doc_parser_under : wqd) {R : Type} (E1001 : ((List (Int × (Int × (Int × ((List UInt8) × Bool))))) → (List (Int × (Int × ((List UInt8) × (Bool × ((List (List UInt8)) × (List Int))))))) → Int → Int → Int → (List Int) → Option R)) (x0 : (List (Int × (Int × (Int × ((List UInt8) × Bool)))))) (x1 : (List (Int × (Int × ((List UInt8) × (Bool × ((List (List UInt8)) × (List Int)))))))) (x2 x3 x4 : Int) (K : wq15 R) (E : wqi R) : Option R := (E1001 x0 x1 x2 x3 x4 [])
theorem wqk5 (k : Nat) (X_doc_parser_block : wqb) (X_doc_parser_list : wqg) (X_doc_parser_pairs : wqc) (X_doc_parser_under : wqd) {R : Type} (I : Nat → St → Option R) (x0 : (List (Int × (Int × (Int × ((List UInt8) × Bool)))))) (x1 : (List (Int × (Int × ((List UInt8) × (Bool × ((List (List UInt8)) × (List Int)))))))) (x2 x3 x4 : Int) (K : wq15 R) (E : wqi R) : fnK (wqm k X_doc_parser_block X_doc_parser_list X_doc_parser_pairs X_doc_parser_under) k wq1a 37 [] wq3v [.ptr 1 0, .v (.int .i64) x2, .v (.int .i64) x3, .v (.int .i64) x4] [(21, .row 47 (.pr (.int .i64) (.pr (.int .i64) (.pr .str (.pr .bool (.pr (.sl .str) (.sl (.int .i64))))))) x1), (1, .var 51 [.v (.sl (.pr (.int .i64) (.pr (.int .i64) (.pr (.int .i64) (.pr .str .bool))))) x0, .row 21])] (wq2k K E) = wq7m k X_doc_parser_block X_doc_parser_list X_doc_parser_pairs X_doc_parser_under (fun s0 s1 s2 s3 s4 s5 => iter (wqm k X_doc_parser_block X_doc_parser_list X_doc_parser_pairs X_doc_parser_under).pv (look (wqm k X_doc_parser_block X_doc_parser_list X_doc_parser_pairs X_doc_parser_under).cuts 1001) (execK (wqm k X_doc_parser_block X_doc_parser_list X_doc_parser_pairs X_doc_parser_under) k (at_ [1, 0, 0, 0] wq1a)) k (wq2x s0 s1 s2 s3 s4 s5) (konts (wqm k X_doc_parser_block X_doc_parser_list X_doc_parser_pairs X_doc_parser_under) k I [1, 0, 0] wq1a (outK (wqm k X_doc_parser_block X_doc_parser_list X_doc_parser_pairs X_doc_parser_under) wq3v [] (wq2k K E)))) x0 x1 x2 x3 x4 K E := by kernel_rfl
noncomputable def wq24 (k : Nat) (X_doc_parser_block : wqb) (X_doc_parser_list : wqg) (X_doc_parser_pairs : wqc) (X_doc_parser_under : wqd) {R : Type}  : Nat → (List (Int × (Int × (Int × ((List UInt8) × Bool))))) → (List (Int × (Int × ((List UInt8) × (Bool × ((List (List UInt8)) × (List Int))))))) → Int → Int → Int → (List Int) → ((List (Int × (Int × (Int × ((List UInt8) × Bool))))) → (List (Int × (Int × ((List UInt8) × (Bool × ((List (List UInt8)) × (List Int))))))) → Option R) → ((List (Int × (Int × (Int × ((List UInt8) × Bool))))) → (List (Int × (Int × ((List UInt8) × (Bool × ((List (List UInt8)) × (List Int))))))) → Int → Int → Option R) → Option R
  | 0, _, _, _, _, _, _, _, _ => none
  | n + 1, s0, s1, s2, s3, s4, s5, K, E => wq55 k X_doc_parser_block X_doc_parser_list X_doc_parser_pairs X_doc_parser_under (fun s0 s1 s2 s3 s4 s5 => wq24 k X_doc_parser_block X_doc_parser_list X_doc_parser_pairs X_doc_parser_under  n s0 s1 s2 s3 s4 s5 K E) s0 s1 s2 s3 s4 s5 K E
theorem wqe7 (k : Nat) (X_doc_parser_block : wqb) (X_doc_parser_list : wqg) (X_doc_parser_pairs : wqc) (X_doc_parser_under : wqd) {R : Type} (I : Nat → St → Option R) (K : wq15 R) (E : wqi R) : ∀ (n : Nat) (s0 : (List (Int × (Int × (Int × ((List UInt8) × Bool)))))) (s1 : (List (Int × (Int × ((List UInt8) × (Bool × ((List (List UInt8)) × (List Int)))))))) (s2 s3 s4 : Int) (s5 : (List Int)), iter (wqm k X_doc_parser_block X_doc_parser_list X_doc_parser_pairs X_doc_parser_under).pv (look (wqm k X_doc_parser_block X_doc_parser_list X_doc_parser_pairs X_doc_parser_under).cuts 1001) (execK (wqm k X_doc_parser_block X_doc_parser_list X_doc_parser_pairs X_doc_parser_under) k (at_ [1, 0, 0, 0] wq1a)) n (wq2x s0 s1 s2 s3 s4 s5) (konts (wqm k X_doc_parser_block X_doc_parser_list X_doc_parser_pairs X_doc_parser_under) k I [1, 0, 0] wq1a (outK (wqm k X_doc_parser_block X_doc_parser_list X_doc_parser_pairs X_doc_parser_under) wq3v [] (wq2k K E))) = wq24 k X_doc_parser_block X_doc_parser_list X_doc_parser_pairs X_doc_parser_under  n s0 s1 s2 s3 s4 s5 K E := by
  intro n
  induction n with
  | zero => intros; rfl
  | succ n ih =>
    intro s0 s1 s2 s3 s4 s5
    let I' : Nat → St → Option R := fun id s => bif Nat.beq id 1001 then iter (wqm k X_doc_parser_block X_doc_parser_list X_doc_parser_pairs X_doc_parser_under).pv (look (wqm k X_doc_parser_block X_doc_parser_list X_doc_parser_pairs X_doc_parser_under).cuts 1001) (execK (wqm k X_doc_parser_block X_doc_parser_list X_doc_parser_pairs X_doc_parser_under) k (at_ [1, 0, 0, 0] wq1a)) n s (konts (wqm k X_doc_parser_block X_doc_parser_list X_doc_parser_pairs X_doc_parser_under) k I [1, 0, 0] wq1a (outK (wqm k X_doc_parser_block X_doc_parser_list X_doc_parser_pairs X_doc_parser_under) wq3v [] (wq2k K E))) else I id s
    have e := wqe6 k X_doc_parser_block X_doc_parser_list X_doc_parser_pairs X_doc_parser_under I' s0 s1 s2 s3 s4 s5 K E
    have h1001 : (fun s0 s1 s2 s3 s4 s5 => I' 1001 (wq2x s0 s1 s2 s3 s4 s5)) = (fun s0 s1 s2 s3 s4 s5 => wq24 k X_doc_parser_block X_doc_parser_list X_doc_parser_pairs X_doc_parser_under  n s0 s1 s2 s3 s4 s5 K E) := by funext s0 s1 s2 s3 s4 s5; exact ih s0 s1 s2 s3 s4 s5
    refine Eq.trans (?_ : _ = _) (e.trans (Eq.trans ((congrArg ((fun E1001 => wq55 k X_doc_parser_block X_doc_parser_list X_doc_parser_pairs X_doc_parser_under E1001 s0 s1 s2 s3 s4 s5 K E)) h1001)) (by rw [wq24])))
    rfl
noncomputable def wqe8 (k : Nat) (X_doc_parser_block : wqb) (X_doc_parser_list : wqg) (X_doc_parser_pairs : wqc) (X_doc_parser_under : wqd) : CTab := (CTab.add 15 wqcv (wq8q k) (CTab.add 28 wq8w (wq53 k) (CTab.add 43 wqcw (wq66 k) (CTab.add 44 wqbx (wq3l X_doc_parser_under) (CTab.add 45 wq8u (wq3c k) CTab.nil)))))
def wq2e {R : Type} (K : wq15 R) (E : wqi R) : Out → Option R
  | .ret [] [(21, .row 47 (.pr (.int .i64) (.pr (.int .i64) (.pr .str (.pr .bool (.pr (.sl .str) (.sl (.int .i64))))))) y1), (1, .var 51 [.v (.sl (.pr (.int .i64) (.pr (.int .i64) (.pr (.int .i64) (.pr .str .bool))))) y0, .row 21])] => K y0 y1
  | .pan (.ifc 30 (.agg [.v (.int .i64) z2, .v (.int .i64) z3])) [(21, .row 47 (.pr (.int .i64) (.pr (.int .i64) (.pr .str (.pr .bool (.pr (.sl .str) (.sl (.int .i64))))))) z1), (1, .var 51 [.v (.sl (.pr (.int .i64) (.pr (.int .i64) (.pr (.int .i64) (.pr .str .bool))))) z0, .row 21])] => E z0 z1 z2 z3
  | _ => none
def wq3e : RetSpec := ⟨[], [(1, .obj 1 [.sl (.pr (.int .i64) (.pr (.int .i64) (.pr (.int .i64) (.pr .str .bool)))), .own 21 47 (.pr (.int .i64) (.pr (.int .i64) (.pr .str (.pr .bool (.pr (.sl .str) (.sl (.int .i64)))))))])], [(1, .obj 1 [.sl (.pr (.int .i64) (.pr (.int .i64) (.pr (.int .i64) (.pr .str .bool)))), .own 21 47 (.pr (.int .i64) (.pr (.int .i64) (.pr .str (.pr .bool (.pr (.sl .str) (.sl (.int .i64)))))))])]⟩
def wqim : List (Nat × CutSpec) := [(1002, ⟨[(0, .obj 1 [.sl (.pr (.int .i64) (.pr (.int .i64) (.pr (.int .i64) (.pr .str .bool)))), .own 21 47 (.pr (.int .i64) (.pr (.int .i64) (.pr .str (.pr .bool (.pr (.sl .str) (.sl (.int .i64)))))))]), (1, .any), (2, .any), (3, .any), (8, .own 100008 9 .str), (9, .own 100009 3 (.int .i64))], [(1, .obj 1 [.sl (.pr (.int .i64) (.pr (.int .i64) (.pr (.int .i64) (.pr .str .bool)))), .own 21 47 (.pr (.int .i64) (.pr (.int .i64) (.pr .str (.pr .bool (.pr (.sl .str) (.sl (.int .i64)))))))])]⟩)]
def wqgu : List (Nat × Plan) := []
noncomputable def wqj (k : Nat) (X_doc_parser_block : wqb) (X_doc_parser_list : wqg) (X_doc_parser_pairs : wqc) (X_doc_parser_under : wqd) : Ctx := ⟨tyT, wqim, wqe8 k X_doc_parser_block X_doc_parser_list X_doc_parser_pairs X_doc_parser_under, [], [1], wqgu, @SH⟩
noncomputable def wq16 : Code := Tryd.f30.body.getD .skip
def wq2m (s0 : (List (Int × (Int × (Int × ((List UInt8) × Bool)))))) (s1 : (List (Int × (Int × ((List UInt8) × (Bool × ((List (List UInt8)) × (List Int)))))))) (s2 s3 s4 : Int) (s5 : (List (List UInt8))) (s6 : (List Int)) : St := ⟨mkT [(0, .ptr 1 0), (1, .v (.int .i64) s2), (2, .v (.int .i64) s3), (3, .v (.int .i64) s4), (8, .row 100008), (9, .row 100009)], mkH [(21, .row 47 (.pr (.int .i64) (.pr (.int .i64) (.pr .str (.pr .bool (.pr (.sl .str) (.sl (.int .i64))))))) s1), (1, .var 51 [.v (.sl (.pr (.int .i64) (.pr (.int .i64) (.pr (.int .i64) (.pr .str .bool))))) s0, .row 21]), (100008, .row 9 .str s5), (100009, .row 3 (.int .i64) s6)]⟩
noncomputable def wq4v (k : Nat) (X_doc_parser_block : wqb) (X_doc_parser_list : wqg) (X_doc_parser_pairs : wqc) (X_doc_parser_under : wqd) {R : Type} (E1002 : ((List (Int × (Int × (Int × ((List UInt8) × Bool))))) → (List (Int × (Int × ((List UInt8) × (Bool × ((List (List UInt8)) × (List Int))))))) → Int → Int → Int → (List (List UInt8)) → (List Int) → Option R)) (s0 : (List (Int × (Int × (Int × ((List UInt8) × Bool)))))) (s1 : (List (Int × (Int × ((List UInt8) × (Bool × ((List (List UInt8)) × (List Int)))))))) (s2 s3 s4 : Int) (s5 : (List (List UInt8))) (s6 : (List Int)) (K : wq15 R) (E : wqi R) : Option R := (@wq51 k R s0 s1 (2 : Int) s3 (fun y12 y13 y14 => (@cond (@Option R) y14 (@wq4a k R y12 y13 (fun y15 y16 y17 y18 y19 y20 y21 => (@wq1v k R s5 y20 (fun y22 => (@cond (@Option R) y22 (@wq5e k R (7 : Int) y18 (fun y23 y24 => (E y15 y16 y23 y24))) (@cond (@Option R) (@fits (@List.length (@Kd.T Kd.str) s5) (@List.length (@Kd.T Kd.str) (y20 :: [])) (16 : Nat)) (X_doc_parser_under R y15 y16 y17 y18 y19 y20 y21 s4 (fun y23 y24 y25 => (@cond (@Option R) (@fits (@List.length (@Kd.T kI) s6) (@List.length (@Kd.T kI) (y25 :: [])) (8 : Nat)) (E1002 y23 y24 s2 s3 s4 (@HAppend.hAppend (@Kd.T (@Kd.sl Kd.str)) (@List (@Kd.T Kd.str)) (@Kd.T (@Kd.sl Kd.str)) (@instHAppendOfAppend (@Kd.T (@Kd.sl Kd.str)) (@List.instAppend (@Kd.T Kd.str))) s5 (y20 :: [])) (@HAppend.hAppend (@Kd.T (@Kd.sl kI)) (@List (@Kd.T kI)) (@Kd.T (@Kd.sl kI)) (@instHAppendOfAppend (@Kd.T (@Kd.sl kI)) (@List.instAppend (@Kd.T kI))) s6 (y25 :: []))) (@Option.none R))) (fun y23 y24 y25 y26 => (E y23 y24 y25 y26))) (@Option.none R))))))) (@cond (@Option R) (@inb s2 (@Nat.cast Int instNatCastInt (@List.length (@Kd.T (@Kd.pr kI (@Kd.pr kI (@Kd.pr Kd.str (@Kd.pr Kd.bool (@Kd.pr (@Kd.sl Kd.str) (@Kd.sl kI))))))) y13))) (@SH (@List (@Kd.T (@Kd.pr kI (@Kd.pr kI (@Kd.pr Kd.str (@Kd.pr Kd.bool (@Kd.pr (@Kd.sl Kd.str) (@Kd.sl kI)))))))) R (@List.set (@Kd.T (@Kd.pr kI (@Kd.pr kI (@Kd.pr Kd.str (@Kd.pr Kd.bool (@Kd.pr (@Kd.sl Kd.str) (@Kd.sl kI))))))) y13 (@Int.toNat s2) ((3 : Int), ((@List.getD (@Kd.T (@Kd.pr kI (@Kd.pr kI (@Kd.pr Kd.str (@Kd.pr Kd.bool (@Kd.pr (@Kd.sl Kd.str) (@Kd.sl kI))))))) y13 (@Int.toNat s2) (@Kd.zero (@Kd.pr kI (@Kd.pr kI (@Kd.pr Kd.str (@Kd.pr Kd.bool (@Kd.pr (@Kd.sl Kd.str) (@Kd.sl kI)))))))).2.1, ((@List.getD (@Kd.T (@Kd.pr kI (@Kd.pr kI (@Kd.pr Kd.str (@Kd.pr Kd.bool (@Kd.pr (@Kd.sl Kd.str) (@Kd.sl kI))))))) y13 (@Int.toNat s2) (@Kd.zero (@Kd.pr kI (@Kd.pr kI (@Kd.pr Kd.str (@Kd.pr Kd.bool (@Kd.pr (@Kd.sl Kd.str) (@Kd.sl kI)))))))).2.2.1, ((@List.getD (@Kd.T (@Kd.pr kI (@Kd.pr kI (@Kd.pr Kd.str (@Kd.pr Kd.bool (@Kd.pr (@Kd.sl Kd.str) (@Kd.sl kI))))))) y13 (@Int.toNat s2) (@Kd.zero (@Kd.pr kI (@Kd.pr kI (@Kd.pr Kd.str (@Kd.pr Kd.bool (@Kd.pr (@Kd.sl Kd.str) (@Kd.sl kI)))))))).2.2.2.1, ((@List.getD (@Kd.T (@Kd.pr kI (@Kd.pr kI (@Kd.pr Kd.str (@Kd.pr Kd.bool (@Kd.pr (@Kd.sl Kd.str) (@Kd.sl kI))))))) y13 (@Int.toNat s2) (@Kd.zero (@Kd.pr kI (@Kd.pr kI (@Kd.pr Kd.str (@Kd.pr Kd.bool (@Kd.pr (@Kd.sl Kd.str) (@Kd.sl kI)))))))).2.2.2.2.1, (@List.getD (@Kd.T (@Kd.pr kI (@Kd.pr kI (@Kd.pr Kd.str (@Kd.pr Kd.bool (@Kd.pr (@Kd.sl Kd.str) (@Kd.sl kI))))))) y13 (@Int.toNat s2) (@Kd.zero (@Kd.pr kI (@Kd.pr kI (@Kd.pr Kd.str (@Kd.pr Kd.bool (@Kd.pr (@Kd.sl Kd.str) (@Kd.sl kI)))))))).2.2.2.2.2)))))) (fun y15 => (@SH (@List (@Kd.T (@Kd.pr kI (@Kd.pr kI (@Kd.pr Kd.str (@Kd.pr Kd.bool (@Kd.pr (@Kd.sl Kd.str) (@Kd.sl kI)))))))) R (@List.set (@Kd.T (@Kd.pr kI (@Kd.pr kI (@Kd.pr Kd.str (@Kd.pr Kd.bool (@Kd.pr (@Kd.sl Kd.str) (@Kd.sl kI))))))) y15 (@Int.toNat s2) ((@List.getD (@Kd.T (@Kd.pr kI (@Kd.pr kI (@Kd.pr Kd.str (@Kd.pr Kd.bool (@Kd.pr (@Kd.sl Kd.str) (@Kd.sl kI))))))) y15 (@Int.toNat s2) (@Kd.zero (@Kd.pr kI (@Kd.pr kI (@Kd.pr Kd.str (@Kd.pr Kd.bool (@Kd.pr (@Kd.sl Kd.str) (@Kd.sl kI)))))))).1, ((@List.getD (@Kd.T (@Kd.pr kI (@Kd.pr kI (@Kd.pr Kd.str (@Kd.pr Kd.bool (@Kd.pr (@Kd.sl Kd.str) (@Kd.sl kI))))))) y15 (@Int.toNat s2) (@Kd.zero (@Kd.pr kI (@Kd.pr kI (@Kd.pr Kd.str (@Kd.pr Kd.bool (@Kd.pr (@Kd.sl Kd.str) (@Kd.sl kI)))))))).2.1, ((@List.getD (@Kd.T (@Kd.pr kI (@Kd.pr kI (@Kd.pr Kd.str (@Kd.pr Kd.bool (@Kd.pr (@Kd.sl Kd.str) (@Kd.sl kI))))))) y15 (@Int.toNat s2) (@Kd.zero (@Kd.pr kI (@Kd.pr kI (@Kd.pr Kd.str (@Kd.pr Kd.bool (@Kd.pr (@Kd.sl Kd.str) (@Kd.sl kI)))))))).2.2.1, ((@List.getD (@Kd.T (@Kd.pr kI (@Kd.pr kI (@Kd.pr Kd.str (@Kd.pr Kd.bool (@Kd.pr (@Kd.sl Kd.str) (@Kd.sl kI))))))) y15 (@Int.toNat s2) (@Kd.zero (@Kd.pr kI (@Kd.pr kI (@Kd.pr Kd.str (@Kd.pr Kd.bool (@Kd.pr (@Kd.sl Kd.str) (@Kd.sl kI)))))))).2.2.2.1, (s5, (@List.getD (@Kd.T (@Kd.pr kI (@Kd.pr kI (@Kd.pr Kd.str (@Kd.pr Kd.bool (@Kd.pr (@Kd.sl Kd.str) (@Kd.sl kI))))))) y15 (@Int.toNat s2) (@Kd.zero (@Kd.pr kI (@Kd.pr kI (@Kd.pr Kd.str (@Kd.pr Kd.bool (@Kd.pr (@Kd.sl Kd.str) (@Kd.sl kI)))))))).2.2.2.2.2)))))) (fun y16 => (@SH (@List (@Kd.T (@Kd.pr kI (@Kd.pr kI (@Kd.pr Kd.str (@Kd.pr Kd.bool (@Kd.pr (@Kd.sl Kd.str) (@Kd.sl kI)))))))) R (@List.set (@Kd.T (@Kd.pr kI (@Kd.pr kI (@Kd.pr Kd.str (@Kd.pr Kd.bool (@Kd.pr (@Kd.sl Kd.str) (@Kd.sl kI))))))) y16 (@Int.toNat s2) ((@List.getD (@Kd.T (@Kd.pr kI (@Kd.pr kI (@Kd.pr Kd.str (@Kd.pr Kd.bool (@Kd.pr (@Kd.sl Kd.str) (@Kd.sl kI))))))) y16 (@Int.toNat s2) (@Kd.zero (@Kd.pr kI (@Kd.pr kI (@Kd.pr Kd.str (@Kd.pr Kd.bool (@Kd.pr (@Kd.sl Kd.str) (@Kd.sl kI)))))))).1, ((@List.getD (@Kd.T (@Kd.pr kI (@Kd.pr kI (@Kd.pr Kd.str (@Kd.pr Kd.bool (@Kd.pr (@Kd.sl Kd.str) (@Kd.sl kI))))))) y16 (@Int.toNat s2) (@Kd.zero (@Kd.pr kI (@Kd.pr kI (@Kd.pr Kd.str (@Kd.pr Kd.bool (@Kd.pr (@Kd.sl Kd.str) (@Kd.sl kI)))))))).2.1, ((@List.getD (@Kd.T (@Kd.pr kI (@Kd.pr kI (@Kd.pr Kd.str (@Kd.pr Kd.bool (@Kd.pr (@Kd.sl Kd.str) (@Kd.sl kI))))))) y16 (@Int.toNat s2) (@Kd.zero (@Kd.pr kI (@Kd.pr kI (@Kd.pr Kd.str (@Kd.pr Kd.bool (@Kd.pr (@Kd.sl Kd.str) (@Kd.sl kI)))))))).2.2.1, ((@List.getD (@Kd.T (@Kd.pr kI (@Kd.pr kI (@Kd.pr Kd.str (@Kd.pr Kd.bool (@Kd.pr (@Kd.sl Kd.str) (@Kd.sl kI))))))) y16 (@Int.toNat s2) (@Kd.zero (@Kd.pr kI (@Kd.pr kI (@Kd.pr Kd.str (@Kd.pr Kd.bool (@Kd.pr (@Kd.sl Kd.str) (@Kd.sl kI)))))))).2.2.2.1, ((@List.getD (@Kd.T (@Kd.pr kI (@Kd.pr kI (@Kd.pr Kd.str (@Kd.pr Kd.bool (@Kd.pr (@Kd.sl Kd.str) (@Kd.sl kI))))))) y16 (@Int.toNat s2) (@Kd.zero (@Kd.pr kI (@Kd.pr kI (@Kd.pr Kd.str (@Kd.pr Kd.bool (@Kd.pr (@Kd.sl Kd.str) (@Kd.sl kI)))))))).2.2.2.2.1, s6)))))) (fun y17 => (K y12 y17))))))) (@Option.none R)))))
theorem wqdg (k : Nat) (X_doc_parser_block : wqb) (X_doc_parser_list : wqg) (X_doc_parser_pairs : wqc) (X_doc_parser_under : wqd) {R : Type} (I : Nat → St → Option R) (s0 : (List (Int × (Int × (Int × ((List UInt8) × Bool)))))) (s1 : (List (Int × (Int × ((List UInt8) × (Bool × ((List (List UInt8)) × (List Int)))))))) (s2 s3 s4 : Int) (s5 : (List (List UInt8))) (s6 : (List Int)) (K : wq15 R) (E : wqi R) : execK (wqj k X_doc_parser_block X_doc_parser_list X_doc_parser_pairs X_doc_parser_under) k (at_ [1, 1, 0, 0, 0] wq16) (wq2m s0 s1 s2 s3 s4 s5 s6) (konts (wqj k X_doc_parser_block X_doc_parser_list X_doc_parser_pairs X_doc_parser_under) k I [1, 1, 0, 0, 0] wq16 (outK (wqj k X_doc_parser_block X_doc_parser_list X_doc_parser_pairs X_doc_parser_under) wq3e [] (wq2e K E))) = wq4v k X_doc_parser_block X_doc_parser_list X_doc_parser_pairs X_doc_parser_under (fun s0 s1 s2 s3 s4 s5 s6 => I 1002 (wq2m s0 s1 s2 s3 s4 s5 s6)) s0 s1 s2 s3 s4 s5 s6 K E := by kernel_rfl
noncomputable def wq6t (k : Nat) (X_doc_parser_block : wqb) (X_doc_parser_list : wqg) (X_doc_parser_pairs : wqc) (X_doc_parser_under : wqd) {R : Type} (E1002 : ((List (Int × (Int × (Int × ((List UInt8) × Bool))))) → (List (Int × (Int × ((List UInt8) × (Bool × ((List (List UInt8)) × (List Int))))))) → Int → Int → Int → (List (List UInt8)) → (List Int) → Option R)) (x0 : (List (Int × (Int × (Int × ((List UInt8) × Bool)))))) (x1 : (List (Int × (Int × ((List UInt8) × (Bool × ((List (List UInt8)) × (List Int)))))))) (x2 x3 x4 : Int) (K : wq15 R) (E : wqi R) : Option R := (E1002 x0 x1 x2 x3 x4 [] [])
theorem wqin (k : Nat) (X_doc_parser_block : wqb) (X_doc_parser_list : wqg) (X_doc_parser_pairs : wqc) (X_doc_parser_under : wqd) {R : Type} (I : Nat → St → Option R) (x0 : (List (Int × (Int × (Int × ((List UInt8) × Bool)))))) (x1 : (List (Int × (Int × ((List UInt8) × (Bool × ((List (List UInt8)) × (List Int)))))))) (x2 x3 x4 : Int) (K : wq15 R) (E : wqi R) : fnK (wqj k X_doc_parser_block X_doc_parser_list X_doc_parser_pairs X_doc_parser_under) k wq16 54 [] wq3e [.ptr 1 0, .v (.int .i64) x2, .v (.int .i64) x3, .v (.int .i64) x4] [(21, .row 47 (.pr (.int .i64) (.pr (.int .i64) (.pr .str (.pr .bool (.pr (.sl .str) (.sl (.int .i64))))))) x1), (1, .var 51 [.v (.sl (.pr (.int .i64) (.pr (.int .i64) (.pr (.int .i64) (.pr .str .bool))))) x0, .row 21])] (wq2e K E) = wq6t k X_doc_parser_block X_doc_parser_list X_doc_parser_pairs X_doc_parser_under (fun s0 s1 s2 s3 s4 s5 s6 => iter (wqj k X_doc_parser_block X_doc_parser_list X_doc_parser_pairs X_doc_parser_under).pv (look (wqj k X_doc_parser_block X_doc_parser_list X_doc_parser_pairs X_doc_parser_under).cuts 1002) (execK (wqj k X_doc_parser_block X_doc_parser_list X_doc_parser_pairs X_doc_parser_under) k (at_ [1, 1, 0, 0, 0] wq16)) k (wq2m s0 s1 s2 s3 s4 s5 s6) (konts (wqj k X_doc_parser_block X_doc_parser_list X_doc_parser_pairs X_doc_parser_under) k I [1, 1, 0, 0] wq16 (outK (wqj k X_doc_parser_block X_doc_parser_list X_doc_parser_pairs X_doc_parser_under) wq3e [] (wq2e K E)))) x0 x1 x2 x3 x4 K E := by kernel_rfl
noncomputable def wq1w (k : Nat) (X_doc_parser_block : wqb) (X_doc_parser_list : wqg) (X_doc_parser_pairs : wqc) (X_doc_parser_under : wqd) {R : Type}  : Nat → (List (Int × (Int × (Int × ((List UInt8) × Bool))))) → (List (Int × (Int × ((List UInt8) × (Bool × ((List (List UInt8)) × (List Int))))))) → Int → Int → Int → (List (List UInt8)) → (List Int) → ((List (Int × (Int × (Int × ((List UInt8) × Bool))))) → (List (Int × (Int × ((List UInt8) × (Bool × ((List (List UInt8)) × (List Int))))))) → Option R) → ((List (Int × (Int × (Int × ((List UInt8) × Bool))))) → (List (Int × (Int × ((List UInt8) × (Bool × ((List (List UInt8)) × (List Int))))))) → Int → Int → Option R) → Option R
  | 0, _, _, _, _, _, _, _, _, _ => none
  | n + 1, s0, s1, s2, s3, s4, s5, s6, K, E => wq4v k X_doc_parser_block X_doc_parser_list X_doc_parser_pairs X_doc_parser_under (fun s0 s1 s2 s3 s4 s5 s6 => wq1w k X_doc_parser_block X_doc_parser_list X_doc_parser_pairs X_doc_parser_under  n s0 s1 s2 s3 s4 s5 s6 K E) s0 s1 s2 s3 s4 s5 s6 K E
theorem wqdh (k : Nat) (X_doc_parser_block : wqb) (X_doc_parser_list : wqg) (X_doc_parser_pairs : wqc) (X_doc_parser_under : wqd) {R : Type} (I : Nat → St → Option R) (K : wq15 R) (E : wqi R) : ∀ (n : Nat) (s0 : (List (Int × (Int × (Int × ((List UInt8) × Bool)))))) (s1 : (List (Int × (Int × ((List UInt8) × (Bool × ((List (List UInt8)) × (List Int)))))))) (s2 s3 s4 : Int) (s5 : (List (List UInt8))) (s6 : (List Int)), iter (wqj k X_doc_parser_block X_doc_parser_list X_doc_parser_pairs X_doc_parser_under).pv (look (wqj k X_doc_parser_block X_doc_parser_list X_doc_parser_pairs X_doc_parser_under).cuts 1002) (execK (wqj k X_doc_parser_block X_doc_parser_list X_doc_parser_pairs X_doc_parser_under) k (at_ [1, 1, 0, 0, 0] wq16)) n (wq2m s0 s1 s2 s3 s4 s5 s6) (konts (wqj k X_doc_parser_block X_doc_parser_list X_doc_parser_pairs X_doc_parser_under) k I [1, 1, 0, 0] wq16 (outK (wqj k X_doc_parser_block X_doc_parser_list X_doc_parser_pairs X_doc_parser_under) wq3e [] (wq2e K E))) = wq1w k X_doc_parser_block X_doc_parser_list X_doc_parser_pairs X_doc_parser_under  n s0 s1 s2 s3 s4 s5 s6 K E := by
  intro n
  induction n with
  | zero => intros; rfl
  | succ n ih =>
    intro s0 s1 s2 s3 s4 s5 s6
    let I' : Nat → St → Option R := fun id s => bif Nat.beq id 1002 then iter (wqj k X_doc_parser_block X_doc_parser_list X_doc_parser_pairs X_doc_parser_under).pv (look (wqj k X_doc_parser_block X_doc_parser_list X_doc_parser_pairs X_doc_parser_under).cuts 1002) (execK (wqj k X_doc_parser_block X_doc_parser_list X_doc_parser_pairs X_doc_parser_under) k (at_ [1, 1, 0, 0, 0] wq16)) n s (konts (wqj k X_doc_parser_block X_doc_parser_list X_doc_parser_pairs X_doc_parser_under) k I [1, 1, 0, 0] wq16 (outK (wqj k X_doc_parser_block X_doc_parser_list X_doc_parser_pairs X_doc_parser_under) wq3e [] (wq2e K E))) else I id s
    have e := wqdg k X_doc_parser_block X_doc_parser_list X_doc_parser_pairs X_doc_parser_under I' s0 s1 s2 s3 s4 s5 s6 K E
    have h1002 : (fun s0 s1 s2 s3 s4 s5 s6 => I' 1002 (wq2m s0 s1 s2 s3 s4 s5 s6)) = (fun s0 s1 s2 s3 s4 s5 s6 => wq1w k X_doc_parser_block X_doc_parser_list X_doc_parser_pairs X_doc_parser_under  n s0 s1 s2 s3 s4 s5 s6 K E) := by funext s0 s1 s2 s3 s4 s5 s6; exact ih s0 s1 s2 s3 s4 s5 s6
    refine Eq.trans (?_ : _ = _) (e.trans (Eq.trans ((congrArg ((fun E1002 => wq4v k X_doc_parser_block X_doc_parser_list X_doc_parser_pairs X_doc_parser_under E1002 s0 s1 s2 s3 s4 s5 s6 K E)) h1002)) (by rw [wq1w])))
    rfl
noncomputable def wqe9 (k : Nat) (X_doc_parser_block : wqb) (X_doc_parser_list : wqg) (X_doc_parser_pairs : wqc) (X_doc_parser_under : wqd) : CTab := (CTab.add 15 wqcv (wq8q k) (CTab.add 16 wqbw (wq75 X_doc_parser_block) CTab.nil))
def wq79 {R : Type} (K : wq22 R) (E : wqi R) : Out → Option R
  | .ret [.v (.int .i64) y2] [(21, .row 47 (.pr (.int .i64) (.pr (.int .i64) (.pr .str (.pr .bool (.pr (.sl .str) (.sl (.int .i64))))))) y1), (1, .var 51 [.v (.sl (.pr (.int .i64) (.pr (.int .i64) (.pr (.int .i64) (.pr .str .bool))))) y0, .row 21])] => K y0 y1 y2
  | .pan (.ifc 30 (.agg [.v (.int .i64) z2, .v (.int .i64) z3])) [(21, .row 47 (.pr (.int .i64) (.pr (.int .i64) (.pr .str (.pr .bool (.pr (.sl .str) (.sl (.int .i64))))))) z1), (1, .var 51 [.v (.sl (.pr (.int .i64) (.pr (.int .i64) (.pr (.int .i64) (.pr .str .bool))))) z0, .row 21])] => E z0 z1 z2 z3
  | _ => none
def wqcy : RetSpec := ⟨[.any], [(1, .obj 1 [.sl (.pr (.int .i64) (.pr (.int .i64) (.pr (.int .i64) (.pr .str .bool)))), .own 21 47 (.pr (.int .i64) (.pr (.int .i64) (.pr .str (.pr .bool (.pr (.sl .str) (.sl (.int .i64)))))))])], [(1, .obj 1 [.sl (.pr (.int .i64) (.pr (.int .i64) (.pr (.int .i64) (.pr .str .bool)))), .own 21 47 (.pr (.int .i64) (.pr (.int .i64) (.pr .str (.pr .bool (.pr (.sl .str) (.sl (.int .i64)))))))])]⟩
def wqio : List (Nat × CutSpec) := []
def wqgv : List (Nat × Plan) := [(1, (.of [(0, 1), (1, 1), (2, 1), (3, 1), (4, 1), (5, 1), (6, 1), (7, 1), (8, 1), (9, 1), (14, 1), (10, 1), (11, 1), (12, 1), (13, 1), (15, 1), (16, 1), (17, 1)] .done))]
noncomputable def wq8z (k : Nat) (X_doc_parser_block : wqb) (X_doc_parser_list : wqg) (X_doc_parser_pairs : wqc) (X_doc_parser_under : wqd) : Ctx := ⟨tyT, wqio, wqe9 k X_doc_parser_block X_doc_parser_list X_doc_parser_pairs X_doc_parser_under, [], [1], wqgv, @SH⟩
noncomputable def wq7a : Code := Tryd.f44.body.getD .skip
noncomputable def wq9s (k : Nat) (X_doc_parser_block : wqb) (X_doc_parser_list : wqg) (X_doc_parser_pairs : wqc) (X_doc_parser_under : wqd) {R : Type}  (x0 : (List (Int × (Int × (Int × ((List UInt8) × Bool)))))) (x1 : (List (Int × (Int × ((List UInt8) × (Bool × ((List (List UInt8)) × (List Int)))))))) (x2 x3 x4 : Int) (x5 : (List UInt8)) (x6 : Bool) (x7 : Int) (K : wq22 R) (E : wqi R) : Option R := (@cond (@Option R) (@Bool.or (@Bool.not (@BEq.beq (@Kd.T Kd.bool) (@instBEqOfDecidableEq (@Kd.T Kd.bool) @instDecidableEqBool) (@BEq.beq Int (@instBEqOfDecidableEq Int @Int.instDecidableEq) (@Nat.cast Int instNatCastInt (@List.length (@Kd.T (@Kd.pr kI (@Kd.pr kI (@Kd.pr kI (@Kd.pr Kd.str Kd.bool))))) x0)) (0 : Int)) Bool.false)) (@inb (0 : Int) (@Nat.cast Int instNatCastInt (@List.length (@Kd.T (@Kd.pr kI (@Kd.pr kI (@Kd.pr kI (@Kd.pr Kd.str Kd.bool))))) x0)))) (@cond (@Option R) (@cond (@Kd.T Kd.bool) (@BEq.beq Int (@instBEqOfDecidableEq Int @Int.instDecidableEq) (@Nat.cast Int instNatCastInt (@List.length (@Kd.T (@Kd.pr kI (@Kd.pr kI (@Kd.pr kI (@Kd.pr Kd.str Kd.bool))))) x0)) (0 : Int)) Bool.true (@Decidable.decide (@LE.le Int Int.instLEInt (@List.getD (@Kd.T (@Kd.pr kI (@Kd.pr kI (@Kd.pr kI (@Kd.pr Kd.str Kd.bool))))) x0 (@Int.toNat (0 : Int)) (@Kd.zero (@Kd.pr kI (@Kd.pr kI (@Kd.pr kI (@Kd.pr Kd.str Kd.bool)))))).2.2.1 x4) (@Int.decLe (@List.getD (@Kd.T (@Kd.pr kI (@Kd.pr kI (@Kd.pr kI (@Kd.pr Kd.str Kd.bool))))) x0 (@Int.toNat (0 : Int)) (@Kd.zero (@Kd.pr kI (@Kd.pr kI (@Kd.pr kI (@Kd.pr Kd.str Kd.bool)))))).2.2.1 x4))) (@wq5e k R (10 : Int) x3 (fun y12 y13 => (E x0 x1 y12 y13))) (X_doc_parser_block R x0 x1 (@Go.IntKind.wrap Go.IntKind.i64 (@HAdd.hAdd Int Int Int (@instHAdd Int @Int.instAdd) x7 (1 : Int))) (fun y12 y13 y14 => (K y12 y13 y14)) (fun y12 y13 y14 y15 => (E y12 y13 y14 y15)))) (@Option.none R))
theorem wqip (k : Nat) (X_doc_parser_block : wqb) (X_doc_parser_list : wqg) (X_doc_parser_pairs : wqc) (X_doc_parser_under : wqd) {R : Type} (I : Nat → St → Option R) (x0 : (List (Int × (Int × (Int × ((List UInt8) × Bool)))))) (x1 : (List (Int × (Int × ((List UInt8) × (Bool × ((List (List UInt8)) × (List Int)))))))) (x2 x3 x4 : Int) (x5 : (List UInt8)) (x6 : Bool) (x7 : Int) (K : wq22 R) (E : wqi R) : fnK (wq8z k X_doc_parser_block X_doc_parser_list X_doc_parser_pairs X_doc_parser_under) k wq7a 32 [.tmp 6] wqcy [.ptr 1 0, .agg [.v (.int .i64) x2, .v (.int .i64) x3, .v (.int .i64) x4, .v .str x5, .v .bool x6], .v (.int .i64) x7] [(21, .row 47 (.pr (.int .i64) (.pr (.int .i64) (.pr .str (.pr .bool (.pr (.sl .str) (.sl (.int .i64))))))) x1), (1, .var 51 [.v (.sl (.pr (.int .i64) (.pr (.int .i64) (.pr (.int .i64) (.pr .str .bool))))) x0, .row 21])] (wq79 K E) = wq9s k X_doc_parser_block X_doc_parser_list X_doc_parser_pairs X_doc_parser_under  x0 x1 x2 x3 x4 x5 x6 x7 K E := by kernel_rfl
mutual
noncomputable def wq2 : Nat → (R : Type) → (List (Int × (Int × (Int × ((List UInt8) × Bool))))) → (List (Int × (Int × ((List UInt8) × (Bool × ((List (List UInt8)) × (List Int))))))) → Int → ((List (Int × (Int × (Int × ((List UInt8) × Bool))))) → (List (Int × (Int × ((List UInt8) × (Bool × ((List (List UInt8)) × (List Int))))))) → Int → Option R) → ((List (Int × (Int × (Int × ((List UInt8) × Bool))))) → (List (Int × (Int × ((List UInt8) × (Bool × ((List (List UInt8)) × (List Int))))))) → Int → Int → Option R) → Option R
  | 0, _, _, _, _, _, _ => none
  | k + 1, R, x0, x1, x2, K, E => wq9r k (wq2 k) (FR_doc_parser_list k) (FR_doc_parser_pairs k) (FR_doc_parser_under k)  x0 x1 x2 K E
noncomputable def FR_doc_parser_list : Nat → (R : Type) → (List (Int × (Int × (Int × ((List UInt8) × Bool))))) → (List (Int × (Int × ((List UInt8) × (Bool × ((List (List UInt8)) × (List Int))))))) → Int → Int → Int → ((List (Int × (Int × (Int × ((List UInt8) × Bool))))) → (List (Int × (Int × ((List UInt8) × (Bool × ((List (List UInt8)) × (List Int))))))) → Option R) → ((List (Int × (Int × (Int × ((List UInt8) × Bool))))) → (List (Int × (Int × ((List UInt8) × (Bool × ((List (List UInt8)) × (List Int))))))) → Int → Int → Option R) → Option R
  | 0, _, _, _, _, _, _, _, _ => none
  | k + 1, R, x0, x1, x2, x3, x4, K, E => wq7m k (wq2 k) (FR_doc_parser_list k) (FR_doc_parser_pairs k) (FR_doc_parser_under k) (fun s0 s1 s2 s3 s4 s5 => wq24 k (wq2 k) (FR_doc_parser_list k) (FR_doc_parser_pairs k) (FR_doc_parser_under k) k s0 s1 s2 s3 s4 s5 K E) x0 x1 x2 x3 x4 K E
noncomputable def FR_doc_parser_pairs : Nat → (R : Type) → (List (Int × (Int × (Int × ((List UInt8) × Bool))))) → (List (Int × (Int × ((List UInt8) × (Bool × ((List (List UInt8)) × (List Int))))))) → Int → Int → Int → ((List (Int × (Int × (Int × ((List UInt8) × Bool))))) → (List (Int × (Int × ((List UInt8) × (Bool × ((List (List UInt8)) × (List Int))))))) → Option R) → ((List (Int × (Int × (Int × ((List UInt8) × Bool))))) → (List (Int × (Int × ((List UInt8) × (Bool × ((List (List UInt8)) × (List Int))))))) → Int → Int → Option R) → Option R
  | 0, _, _, _, _, _, _, _, _ => none
  | k + 1, R, x0, x1, x2, x3, x4, K, E => wq6t k (wq2 k) (FR_doc_parser_list k) (FR_doc_parser_pairs k) (FR_doc_parser_under k) (fun s0 s1 s2 s3 s4 s5 s6 => wq1w k (wq2 k) (FR_doc_parser_list k) (FR_doc_parser_pairs k) (FR_doc_parser_under k) k s0 s1 s2 s3 s4 s5 s6 K E) x0 x1 x2 x3 x4 K E
noncomputable def FR_doc_parser_under : Nat → (R : Type) → (List (Int × (Int × (Int × ((List UInt8) × Bool))))) → (List (Int × (Int × ((List UInt8) × (Bool × ((List (List UInt8)) × (List Int))))))) → Int → Int → Int → (List UInt8) → Bool → Int → ((List (Int × (Int × (Int × ((List UInt8) × Bool))))) → (List (Int × (Int × ((List UInt8) × (Bool × ((List (List UInt8)) × (List Int))))))) → Int → Option R) → ((List (Int × (Int × (Int × ((List UInt8) × Bool))))) → (List (Int × (Int × ((List UInt8) × (Bool × ((List (List UInt8)) × (List Int))))))) → Int → Int → Option R) → Option R
  | 0, _, _, _, _, _, _, _, _, _, _, _ => none
  | k + 1, R, x0, x1, x2, x3, x4, x5, x6, x7, K, E => wq9s k (wq2 k) (FR_doc_parser_list k) (FR_doc_parser_pairs k) (FR_doc_parser_under k)  x0 x1 x2 x3 x4 x5 x6 x7 K E
end
noncomputable def wq6u (k : Nat) {R : Type} (x0 : (List (Int × (Int × (Int × ((List UInt8) × Bool)))))) (x1 : (List (Int × (Int × ((List UInt8) × (Bool × ((List (List UInt8)) × (List Int)))))))) (x2 : Int) (K : wq22 R) (E : wqi R) : Option R := wq2 k R x0 x1 x2 K E
noncomputable def wqb0 (k : Nat) {R : Type} (x0 : (List (Int × (Int × (Int × ((List UInt8) × Bool)))))) (x1 : (List (Int × (Int × ((List UInt8) × (Bool × ((List (List UInt8)) × (List Int)))))))) (x2 x3 x4 : Int) (K : wq15 R) (E : wqi R) : Option R := FR_doc_parser_list k R x0 x1 x2 x3 x4 K E
noncomputable def wq9t (k : Nat) {R : Type} (x0 : (List (Int × (Int × (Int × ((List UInt8) × Bool)))))) (x1 : (List (Int × (Int × ((List UInt8) × (Bool × ((List (List UInt8)) × (List Int)))))))) (x2 x3 x4 : Int) (K : wq15 R) (E : wqi R) : Option R := FR_doc_parser_pairs k R x0 x1 x2 x3 x4 K E
noncomputable def wq9u (k : Nat) {R : Type} (x0 : (List (Int × (Int × (Int × ((List UInt8) × Bool)))))) (x1 : (List (Int × (Int × ((List UInt8) × (Bool × ((List (List UInt8)) × (List Int)))))))) (x2 x3 x4 : Int) (x5 : (List UInt8)) (x6 : Bool) (x7 : Int) (K : wq22 R) (E : wqi R) : Option R := FR_doc_parser_under k R x0 x1 x2 x3 x4 x5 x6 x7 K E
theorem wqiq (k : Nat) {R : Type} (x0 : (List (Int × (Int × (Int × ((List UInt8) × Bool)))))) (x1 : (List (Int × (Int × ((List UInt8) × (Bool × ((List (List UInt8)) × (List Int)))))))) (x2 : Int) (K : wq22 R) (E : wqi R) : fnK (wq8y k (wq2 k) (FR_doc_parser_list k) (FR_doc_parser_pairs k) (FR_doc_parser_under k)) k wq78 97 [.tmp 4] wqcx [.ptr 1 0, .v (.int .i64) x2] [(21, .row 47 (.pr (.int .i64) (.pr (.int .i64) (.pr .str (.pr .bool (.pr (.sl .str) (.sl (.int .i64))))))) x1), (1, .var 51 [.v (.sl (.pr (.int .i64) (.pr (.int .i64) (.pr (.int .i64) (.pr .str .bool))))) x0, .row 21])] (wq77 K E) = wq2 (k + 1) R x0 x1 x2 K E := by
  rw [wq2]
  exact wqik k (wq2 k) (FR_doc_parser_list k) (FR_doc_parser_pairs k) (FR_doc_parser_under k) (fun _ _ => none) x0 x1 x2 K E
noncomputable def wq3w (k : Nat) {R : Type} : List PV → List (Nm × HObj) → (Out → Option R) → Option R
  | [.ptr 1 0, .v (.int .i64) x2], [(21, .row 47 (.pr (.int .i64) (.pr (.int .i64) (.pr .str (.pr .bool (.pr (.sl .str) (.sl (.int .i64))))))) x1), (1, .var 51 [.v (.sl (.pr (.int .i64) (.pr (.int .i64) (.pr (.int .i64) (.pr .str .bool))))) x0, .row 21])], K => wq6u k x0 x1 x2 (fun y0 y1 y2 => K (.ret [.v (.int .i64) y2] [(21, .row 47 (.pr (.int .i64) (.pr (.int .i64) (.pr .str (.pr .bool (.pr (.sl .str) (.sl (.int .i64))))))) y1), (1, .var 51 [.v (.sl (.pr (.int .i64) (.pr (.int .i64) (.pr (.int .i64) (.pr .str .bool))))) y0, .row 21])])) (fun z0 z1 z2 z3 => K (.pan (.ifc 30 (.agg [.v (.int .i64) z2, .v (.int .i64) z3])) [(21, .row 47 (.pr (.int .i64) (.pr (.int .i64) (.pr .str (.pr .bool (.pr (.sl .str) (.sl (.int .i64))))))) z1), (1, .var 51 [.v (.sl (.pr (.int .i64) (.pr (.int .i64) (.pr (.int .i64) (.pr .str .bool))))) z0, .row 21])]))
  | _, _, _ => none
theorem wqk6 (k : Nat) {R : Type} (x0 : (List (Int × (Int × (Int × ((List UInt8) × Bool)))))) (x1 : (List (Int × (Int × ((List UInt8) × (Bool × ((List (List UInt8)) × (List Int)))))))) (x2 x3 x4 : Int) (K : wq15 R) (E : wqi R) : fnK (wqm k (wq2 k) (FR_doc_parser_list k) (FR_doc_parser_pairs k) (FR_doc_parser_under k)) k wq1a 37 [] wq3v [.ptr 1 0, .v (.int .i64) x2, .v (.int .i64) x3, .v (.int .i64) x4] [(21, .row 47 (.pr (.int .i64) (.pr (.int .i64) (.pr .str (.pr .bool (.pr (.sl .str) (.sl (.int .i64))))))) x1), (1, .var 51 [.v (.sl (.pr (.int .i64) (.pr (.int .i64) (.pr (.int .i64) (.pr .str .bool))))) x0, .row 21])] (wq2k K E) = FR_doc_parser_list (k + 1) R x0 x1 x2 x3 x4 K E := by
  rw [FR_doc_parser_list]
  let I : Nat → St → Option R := fun _ _ => none
  have h1001 : (fun s0 s1 s2 s3 s4 s5 => iter (wqm k (wq2 k) (FR_doc_parser_list k) (FR_doc_parser_pairs k) (FR_doc_parser_under k)).pv (look (wqm k (wq2 k) (FR_doc_parser_list k) (FR_doc_parser_pairs k) (FR_doc_parser_under k)).cuts 1001) (execK (wqm k (wq2 k) (FR_doc_parser_list k) (FR_doc_parser_pairs k) (FR_doc_parser_under k)) k (at_ [1, 0, 0, 0] wq1a)) k (wq2x s0 s1 s2 s3 s4 s5) (konts (wqm k (wq2 k) (FR_doc_parser_list k) (FR_doc_parser_pairs k) (FR_doc_parser_under k)) k I [1, 0, 0] wq1a (outK (wqm k (wq2 k) (FR_doc_parser_list k) (FR_doc_parser_pairs k) (FR_doc_parser_under k)) wq3v [] (wq2k K E)))) = (fun s0 s1 s2 s3 s4 s5 => wq24 k (wq2 k) (FR_doc_parser_list k) (FR_doc_parser_pairs k) (FR_doc_parser_under k) k s0 s1 s2 s3 s4 s5 K E) := by funext s0 s1 s2 s3 s4 s5; exact wqe7 k (wq2 k) (FR_doc_parser_list k) (FR_doc_parser_pairs k) (FR_doc_parser_under k) I K E k s0 s1 s2 s3 s4 s5
  exact (wqk5 k (wq2 k) (FR_doc_parser_list k) (FR_doc_parser_pairs k) (FR_doc_parser_under k) I x0 x1 x2 x3 x4 K E).trans (congrArg ((fun E1001 => wq7m k (wq2 k) (FR_doc_parser_list k) (FR_doc_parser_pairs k) (FR_doc_parser_under k) E1001 x0 x1 x2 x3 x4 K E)) h1001)
noncomputable def wq56 (k : Nat) {R : Type} : List PV → List (Nm × HObj) → (Out → Option R) → Option R
  | [.ptr 1 0, .v (.int .i64) x2, .v (.int .i64) x3, .v (.int .i64) x4], [(21, .row 47 (.pr (.int .i64) (.pr (.int .i64) (.pr .str (.pr .bool (.pr (.sl .str) (.sl (.int .i64))))))) x1), (1, .var 51 [.v (.sl (.pr (.int .i64) (.pr (.int .i64) (.pr (.int .i64) (.pr .str .bool))))) x0, .row 21])], K => wqb0 k x0 x1 x2 x3 x4 (fun y0 y1 => K (.ret [] [(21, .row 47 (.pr (.int .i64) (.pr (.int .i64) (.pr .str (.pr .bool (.pr (.sl .str) (.sl (.int .i64))))))) y1), (1, .var 51 [.v (.sl (.pr (.int .i64) (.pr (.int .i64) (.pr (.int .i64) (.pr .str .bool))))) y0, .row 21])])) (fun z0 z1 z2 z3 => K (.pan (.ifc 30 (.agg [.v (.int .i64) z2, .v (.int .i64) z3])) [(21, .row 47 (.pr (.int .i64) (.pr (.int .i64) (.pr .str (.pr .bool (.pr (.sl .str) (.sl (.int .i64))))))) z1), (1, .var 51 [.v (.sl (.pr (.int .i64) (.pr (.int .i64) (.pr (.int .i64) (.pr .str .bool))))) z0, .row 21])]))
  | _, _, _ => none
theorem wqir (k : Nat) {R : Type} (x0 : (List (Int × (Int × (Int × ((List UInt8) × Bool)))))) (x1 : (List (Int × (Int × ((List UInt8) × (Bool × ((List (List UInt8)) × (List Int)))))))) (x2 x3 x4 : Int) (K : wq15 R) (E : wqi R) : fnK (wqj k (wq2 k) (FR_doc_parser_list k) (FR_doc_parser_pairs k) (FR_doc_parser_under k)) k wq16 54 [] wq3e [.ptr 1 0, .v (.int .i64) x2, .v (.int .i64) x3, .v (.int .i64) x4] [(21, .row 47 (.pr (.int .i64) (.pr (.int .i64) (.pr .str (.pr .bool (.pr (.sl .str) (.sl (.int .i64))))))) x1), (1, .var 51 [.v (.sl (.pr (.int .i64) (.pr (.int .i64) (.pr (.int .i64) (.pr .str .bool))))) x0, .row 21])] (wq2e K E) = FR_doc_parser_pairs (k + 1) R x0 x1 x2 x3 x4 K E := by
  rw [FR_doc_parser_pairs]
  let I : Nat → St → Option R := fun _ _ => none
  have h1002 : (fun s0 s1 s2 s3 s4 s5 s6 => iter (wqj k (wq2 k) (FR_doc_parser_list k) (FR_doc_parser_pairs k) (FR_doc_parser_under k)).pv (look (wqj k (wq2 k) (FR_doc_parser_list k) (FR_doc_parser_pairs k) (FR_doc_parser_under k)).cuts 1002) (execK (wqj k (wq2 k) (FR_doc_parser_list k) (FR_doc_parser_pairs k) (FR_doc_parser_under k)) k (at_ [1, 1, 0, 0, 0] wq16)) k (wq2m s0 s1 s2 s3 s4 s5 s6) (konts (wqj k (wq2 k) (FR_doc_parser_list k) (FR_doc_parser_pairs k) (FR_doc_parser_under k)) k I [1, 1, 0, 0] wq16 (outK (wqj k (wq2 k) (FR_doc_parser_list k) (FR_doc_parser_pairs k) (FR_doc_parser_under k)) wq3e [] (wq2e K E)))) = (fun s0 s1 s2 s3 s4 s5 s6 => wq1w k (wq2 k) (FR_doc_parser_list k) (FR_doc_parser_pairs k) (FR_doc_parser_under k) k s0 s1 s2 s3 s4 s5 s6 K E) := by funext s0 s1 s2 s3 s4 s5 s6; exact wqdh k (wq2 k) (FR_doc_parser_list k) (FR_doc_parser_pairs k) (FR_doc_parser_under k) I K E k s0 s1 s2 s3 s4 s5 s6
  exact (wqin k (wq2 k) (FR_doc_parser_list k) (FR_doc_parser_pairs k) (FR_doc_parser_under k) I x0 x1 x2 x3 x4 K E).trans (congrArg ((fun E1002 => wq6t k (wq2 k) (FR_doc_parser_list k) (FR_doc_parser_pairs k) (FR_doc_parser_under k) E1002 x0 x1 x2 x3 x4 K E)) h1002)
noncomputable def wq4r (k : Nat) {R : Type} : List PV → List (Nm × HObj) → (Out → Option R) → Option R
  | [.ptr 1 0, .v (.int .i64) x2, .v (.int .i64) x3, .v (.int .i64) x4], [(21, .row 47 (.pr (.int .i64) (.pr (.int .i64) (.pr .str (.pr .bool (.pr (.sl .str) (.sl (.int .i64))))))) x1), (1, .var 51 [.v (.sl (.pr (.int .i64) (.pr (.int .i64) (.pr (.int .i64) (.pr .str .bool))))) x0, .row 21])], K => wq9t k x0 x1 x2 x3 x4 (fun y0 y1 => K (.ret [] [(21, .row 47 (.pr (.int .i64) (.pr (.int .i64) (.pr .str (.pr .bool (.pr (.sl .str) (.sl (.int .i64))))))) y1), (1, .var 51 [.v (.sl (.pr (.int .i64) (.pr (.int .i64) (.pr (.int .i64) (.pr .str .bool))))) y0, .row 21])])) (fun z0 z1 z2 z3 => K (.pan (.ifc 30 (.agg [.v (.int .i64) z2, .v (.int .i64) z3])) [(21, .row 47 (.pr (.int .i64) (.pr (.int .i64) (.pr .str (.pr .bool (.pr (.sl .str) (.sl (.int .i64))))))) z1), (1, .var 51 [.v (.sl (.pr (.int .i64) (.pr (.int .i64) (.pr (.int .i64) (.pr .str .bool))))) z0, .row 21])]))
  | _, _, _ => none
theorem wqis (k : Nat) {R : Type} (x0 : (List (Int × (Int × (Int × ((List UInt8) × Bool)))))) (x1 : (List (Int × (Int × ((List UInt8) × (Bool × ((List (List UInt8)) × (List Int)))))))) (x2 x3 x4 : Int) (x5 : (List UInt8)) (x6 : Bool) (x7 : Int) (K : wq22 R) (E : wqi R) : fnK (wq8z k (wq2 k) (FR_doc_parser_list k) (FR_doc_parser_pairs k) (FR_doc_parser_under k)) k wq7a 32 [.tmp 6] wqcy [.ptr 1 0, .agg [.v (.int .i64) x2, .v (.int .i64) x3, .v (.int .i64) x4, .v .str x5, .v .bool x6], .v (.int .i64) x7] [(21, .row 47 (.pr (.int .i64) (.pr (.int .i64) (.pr .str (.pr .bool (.pr (.sl .str) (.sl (.int .i64))))))) x1), (1, .var 51 [.v (.sl (.pr (.int .i64) (.pr (.int .i64) (.pr (.int .i64) (.pr .str .bool))))) x0, .row 21])] (wq79 K E) = FR_doc_parser_under (k + 1) R x0 x1 x2 x3 x4 x5 x6 x7 K E := by
  rw [FR_doc_parser_under]
  exact wqip k (wq2 k) (FR_doc_parser_list k) (FR_doc_parser_pairs k) (FR_doc_parser_under k) (fun _ _ => none) x0 x1 x2 x3 x4 x5 x6 x7 K E
noncomputable def wq3x (k : Nat) {R : Type} : List PV → List (Nm × HObj) → (Out → Option R) → Option R
  | [.ptr 1 0, .agg [.v (.int .i64) x2, .v (.int .i64) x3, .v (.int .i64) x4, .v .str x5, .v .bool x6], .v (.int .i64) x7], [(21, .row 47 (.pr (.int .i64) (.pr (.int .i64) (.pr .str (.pr .bool (.pr (.sl .str) (.sl (.int .i64))))))) x1), (1, .var 51 [.v (.sl (.pr (.int .i64) (.pr (.int .i64) (.pr (.int .i64) (.pr .str .bool))))) x0, .row 21])], K => wq9u k x0 x1 x2 x3 x4 x5 x6 x7 (fun y0 y1 y2 => K (.ret [.v (.int .i64) y2] [(21, .row 47 (.pr (.int .i64) (.pr (.int .i64) (.pr .str (.pr .bool (.pr (.sl .str) (.sl (.int .i64))))))) y1), (1, .var 51 [.v (.sl (.pr (.int .i64) (.pr (.int .i64) (.pr (.int .i64) (.pr .str .bool))))) y0, .row 21])])) (fun z0 z1 z2 z3 => K (.pan (.ifc 30 (.agg [.v (.int .i64) z2, .v (.int .i64) z3])) [(21, .row 47 (.pr (.int .i64) (.pr (.int .i64) (.pr .str (.pr .bool (.pr (.sl .str) (.sl (.int .i64))))))) z1), (1, .var 51 [.v (.sl (.pr (.int .i64) (.pr (.int .i64) (.pr (.int .i64) (.pr .str .bool))))) z0, .row 21])]))
  | _, _, _ => none
theorem wqit (k : Nat) (X_doc_parser_block : wqb) (X_doc_parser_list : wqg) (X_doc_parser_pairs : wqc) (X_doc_parser_under : wqd) (hX_doc_parser_list : ∀ {ps : List PV} {hp : List (Nm × HObj)} {R : Type} {K : Out → Option R} {r : R}, wq82 X_doc_parser_list ps hp K = some r → DoesTo Tryd.prog 29 ps hp fun out => K out = some r) (hX_doc_parser_pairs : ∀ {ps : List PV} {hp : List (Nm × HObj)} {R : Type} {K : Out → Option R} {r : R}, wq76 X_doc_parser_pairs ps hp K = some r → DoesTo Tryd.prog 30 ps hp fun out => K out = some r) : (wqe5 k X_doc_parser_block X_doc_parser_list X_doc_parser_pairs X_doc_parser_under).Ok Tryd.prog := (CTab.add_ok (fun h => wqic k h) (CTab.add_ok (fun h => wqay k h) (CTab.add_ok (fun h => hX_doc_parser_list h) (CTab.add_ok (fun h => hX_doc_parser_pairs h) CTab.nil_ok))))
theorem wqk7 (k : Nat) (X_doc_parser_block : wqb) (X_doc_parser_list : wqg) (X_doc_parser_pairs : wqc) (X_doc_parser_under : wqd) (hX_doc_parser_under : ∀ {ps : List PV} {hp : List (Nm × HObj)} {R : Type} {K : Out → Option R} {r : R}, wq3l X_doc_parser_under ps hp K = some r → DoesTo Tryd.prog 44 ps hp fun out => K out = some r) : (wqfv k X_doc_parser_block X_doc_parser_list X_doc_parser_pairs X_doc_parser_under).Ok Tryd.prog := (CTab.add_ok (fun h => wqay k h) (CTab.add_ok (fun h => wqft k h) (CTab.add_ok (fun h => hX_doc_parser_under h) CTab.nil_ok)))
theorem wqiu (k : Nat) (X_doc_parser_block : wqb) (X_doc_parser_list : wqg) (X_doc_parser_pairs : wqc) (X_doc_parser_under : wqd) (hX_doc_parser_under : ∀ {ps : List PV} {hp : List (Nm × HObj)} {R : Type} {K : Out → Option R} {r : R}, wq3l X_doc_parser_under ps hp K = some r → DoesTo Tryd.prog 44 ps hp fun out => K out = some r) : (wqe8 k X_doc_parser_block X_doc_parser_list X_doc_parser_pairs X_doc_parser_under).Ok Tryd.prog := (CTab.add_ok (fun h => wqic k h) (CTab.add_ok (fun h => wqay k h) (CTab.add_ok (fun h => wqft k h) (CTab.add_ok (fun h => hX_doc_parser_under h) (CTab.add_ok (fun h => wq9m k h) CTab.nil_ok)))))
theorem wqiv (k : Nat) (X_doc_parser_block : wqb) (X_doc_parser_list : wqg) (X_doc_parser_pairs : wqc) (X_doc_parser_under : wqd) (hX_doc_parser_block : ∀ {ps : List PV} {hp : List (Nm × HObj)} {R : Type} {K : Out → Option R} {r : R}, wq75 X_doc_parser_block ps hp K = some r → DoesTo Tryd.prog 16 ps hp fun out => K out = some r) : (wqe9 k X_doc_parser_block X_doc_parser_list X_doc_parser_pairs X_doc_parser_under).Ok Tryd.prog := (CTab.add_ok (fun h => wqic k h) (CTab.add_ok (fun h => hX_doc_parser_block h) CTab.nil_ok))
theorem wq67 : ∀ k : Nat, (∀ {ps : List PV} {hp : List (Nm × HObj)} {R : Type} {K : Out → Option R} {r : R}, wq3w k ps hp K = some r → DoesTo Tryd.prog 16 ps hp fun out => K out = some r) ∧ (∀ {ps : List PV} {hp : List (Nm × HObj)} {R : Type} {K : Out → Option R} {r : R}, wq56 k ps hp K = some r → DoesTo Tryd.prog 29 ps hp fun out => K out = some r) ∧ (∀ {ps : List PV} {hp : List (Nm × HObj)} {R : Type} {K : Out → Option R} {r : R}, wq4r k ps hp K = some r → DoesTo Tryd.prog 30 ps hp fun out => K out = some r) ∧ (∀ {ps : List PV} {hp : List (Nm × HObj)} {R : Type} {K : Out → Option R} {r : R}, wq3x k ps hp K = some r → DoesTo Tryd.prog 44 ps hp fun out => K out = some r) := by
  intro k
  induction k with
  | zero =>
    refine ⟨?_, ?_, ?_, ?_⟩
    · intro ps hp R K r h
      unfold wq3w at h
      split at h
      · unfold wq6u at h; rw [wq2] at h; cases h
      · cases h
    · intro ps hp R K r h
      unfold wq56 at h
      split at h
      · unfold wqb0 at h; rw [FR_doc_parser_list] at h; cases h
      · cases h
    · intro ps hp R K r h
      unfold wq4r at h
      split at h
      · unfold wq9t at h; rw [FR_doc_parser_pairs] at h; cases h
      · cases h
    · intro ps hp R K r h
      unfold wq3x at h
      split at h
      · unfold wq9u at h; rw [FR_doc_parser_under] at h; cases h
      · cases h
  | succ k ih =>
    obtain ⟨ih_doc_parser_block, ih_doc_parser_list, ih_doc_parser_pairs, ih_doc_parser_under⟩ := ih
    refine ⟨?_, ?_, ?_, ?_⟩
    · intro ps hp R K r h
      unfold wq3w at h
      split at h
      · unfold wq6u at h; rw [← wqiq] at h
        have := fn_ok (P := Tryd.prog) (cx := wq8y k (wq2 k) (FR_doc_parser_list k) (FR_doc_parser_pairs k) (FR_doc_parser_under k)) (f := 16) ⟨tyT_ok, wqit k (wq2 k) (FR_doc_parser_list k) (FR_doc_parser_pairs k) (FR_doc_parser_under k) (fun h => ih_doc_parser_list (by unfold wq82 at h; unfold wq56; exact h)) (fun h => ih_doc_parser_pairs (by unfold wq76 at h; unfold wq4r; exact h)), fun _ _ => rfl⟩ (by kernel_rfl) (fn := Tryd.f16) (c := wq78) (by kernel_rfl) (by kernel_rfl) (by kernel_rfl) (rs := [.tmp 4]) (by kernel_rfl) (by kernel_rfl) h
        exact this.mono fun out ho => by
          unfold wq77 at ho
          split at ho <;> first | exact ho | cases ho
      · cases h
    · intro ps hp R K r h
      unfold wq56 at h
      split at h
      · unfold wqb0 at h; rw [← wqk6] at h
        have := fn_ok (P := Tryd.prog) (cx := wqm k (wq2 k) (FR_doc_parser_list k) (FR_doc_parser_pairs k) (FR_doc_parser_under k)) (f := 29) ⟨tyT_ok, wqk7 k (wq2 k) (FR_doc_parser_list k) (FR_doc_parser_pairs k) (FR_doc_parser_under k) (fun h => ih_doc_parser_under (by unfold wq3l at h; unfold wq3x; exact h)), fun _ _ => rfl⟩ (by kernel_rfl) (fn := Tryd.f29) (c := wq1a) (by kernel_rfl) (by kernel_rfl) (by kernel_rfl) (rs := []) (by kernel_rfl) (by kernel_rfl) h
        exact this.mono fun out ho => by
          unfold wq2k at ho
          split at ho <;> first | exact ho | cases ho
      · cases h
    · intro ps hp R K r h
      unfold wq4r at h
      split at h
      · unfold wq9t at h; rw [← wqir] at h
        have := fn_ok (P := Tryd.prog) (cx := wqj k (wq2 k) (FR_doc_parser_list k) (FR_doc_parser_pairs k) (FR_doc_parser_under k)) (f := 30) ⟨tyT_ok, wqiu k (wq2 k) (FR_doc_parser_list k) (FR_doc_parser_pairs k) (FR_doc_parser_under k) (fun h => ih_doc_parser_under (by unfold wq3l at h; unfold wq3x; exact h)), fun _ _ => rfl⟩ (by kernel_rfl) (fn := Tryd.f30) (c := wq16) (by kernel_rfl) (by kernel_rfl) (by kernel_rfl) (rs := []) (by kernel_rfl) (by kernel_rfl) h
        exact this.mono fun out ho => by
          unfold wq2e at ho
          split at ho <;> first | exact ho | cases ho
      · cases h
    · intro ps hp R K r h
      unfold wq3x at h
      split at h
      · unfold wq9u at h; rw [← wqis] at h
        have := fn_ok (P := Tryd.prog) (cx := wq8z k (wq2 k) (FR_doc_parser_list k) (FR_doc_parser_pairs k) (FR_doc_parser_under k)) (f := 44) ⟨tyT_ok, wqiv k (wq2 k) (FR_doc_parser_list k) (FR_doc_parser_pairs k) (FR_doc_parser_under k) (fun h => ih_doc_parser_block (by unfold wq75 at h; unfold wq3w; exact h)), fun _ _ => rfl⟩ (by kernel_rfl) (fn := Tryd.f44) (c := wq7a) (by kernel_rfl) (by kernel_rfl) (by kernel_rfl) (rs := [.tmp 6]) (by kernel_rfl) (by kernel_rfl) h
        exact this.mono fun out ho => by
          unfold wq79 at ho
          split at ho <;> first | exact ho | cases ho
      · cases h
theorem wqmz (k : Nat) {ps : List PV} {hp : List (Nm × HObj)} {R : Type} {K : Out → Option R} {r : R} (h : wq3w k ps hp K = some r) : DoesTo Tryd.prog 16 ps hp fun out => K out = some r := (wq67 k).1 h
theorem wqzd (k : Nat) {ps : List PV} {hp : List (Nm × HObj)} {R : Type} {K : Out → Option R} {r : R} (h : wq56 k ps hp K = some r) : DoesTo Tryd.prog 29 ps hp fun out => K out = some r := (wq67 k).2.1 h
theorem wqyx (k : Nat) {ps : List PV} {hp : List (Nm × HObj)} {R : Type} {K : Out → Option R} {r : R} (h : wq4r k ps hp K = some r) : DoesTo Tryd.prog 30 ps hp fun out => K out = some r := (wq67 k).2.2.1 h
theorem wqyy (k : Nat) {ps : List PV} {hp : List (Nm × HObj)} {R : Type} {K : Out → Option R} {r : R} (h : wq3x k ps hp K = some r) : DoesTo Tryd.prog 44 ps hp fun out => K out = some r := (wq67 k).2.2.2 h
end Go.Proofs.YtpfbdepoammjmaaDoor.Pvm

set_option maxRecDepth 1000000
set_option maxHeartbeats 0
namespace Go.Proofs.YtpfbdepoammjmaaDoor.Pvm
open Go Go.Proofs
def wqvf : List LS := [.sl (.pr (.int .i64) (.pr (.int .i64) (.pr (.int .i64) (.pr .str .bool))))]
noncomputable def C_doc_Of (k : Nat) : CTab := (CTab.add 15 wqcv (wq8q k) (CTab.add 16 wqbw (wq3w k) CTab.nil))
def wqn0 {R : Type} (K : ((List (Int × (Int × ((List UInt8) × (Bool × ((List (List UInt8)) × (List Int))))))) → Int → Int → Option R)) : Out → Option R
  | .ret [.agg [.v (.sl (.pr (.int .i64) (.pr (.int .i64) (.pr .str (.pr .bool (.pr (.sl .str) (.sl (.int .i64)))))))) y0], .agg [.v (.int .i64) y1, .v (.int .i64) y2]] [] => K y0 y1 y2
  | _ => none
def wqy9 : RetSpec := ⟨[.ag [.sl (.pr (.int .i64) (.pr (.int .i64) (.pr .str (.pr .bool (.pr (.sl .str) (.sl (.int .i64)))))))], .ag [.any, .any]], [], []⟩
def wqyz : List (Nat × CutSpec) := []
def wqwx : List (Nat × Plan) := []
noncomputable def wqu1 (k : Nat) : Ctx := ⟨tyT, wqyz, C_doc_Of k, [2, 3], [], wqwx, @SH⟩
noncomputable def wq6v : Code := Tryd.f8.body.getD .skip
noncomputable def wqid (k : Nat) {R : Type} : PV → List PV → List (Nm × HObj) → (Out → Option R) → Option R
  | .nilif, [.ptr 1 0, .ptr 2 0], [(1, .var 28 [.v (.sl (.pr (.int .i64) (.pr (.int .i64) (.pr .str (.pr .bool (.pr (.sl .str) (.sl (.int .i64)))))))) x0]), (2, .var 30 [.v (.int .i64) x1, .v (.int .i64) x2])], K => wqbv k x0 x1 x2 (fun y0 y1 y2 => K (.ret [] [(1, .var 28 [.v (.sl (.pr (.int .i64) (.pr (.int .i64) (.pr .str (.pr .bool (.pr (.sl .str) (.sl (.int .i64)))))))) y0]), (2, .var 30 [.v (.int .i64) y1, .v (.int .i64) y2])]))
  | .ifc 30 (.agg [.v (.int .i64) x3, .v (.int .i64) x4]), [.ptr 1 0, .ptr 2 0], [(1, .var 28 [.v (.sl (.pr (.int .i64) (.pr (.int .i64) (.pr .str (.pr .bool (.pr (.sl .str) (.sl (.int .i64)))))))) x0]), (2, .var 30 [.v (.int .i64) x1, .v (.int .i64) x2])], K => wq7t k x0 x1 x2 x3 x4 (fun y0 y1 y2 => K (.ret [] [(1, .var 28 [.v (.sl (.pr (.int .i64) (.pr (.int .i64) (.pr .str (.pr .bool (.pr (.sl .str) (.sl (.int .i64)))))))) y0]), (2, .var 30 [.v (.int .i64) y1, .v (.int .i64) y2])]))
  | _, _, _, _ => none
noncomputable def A_doc_Of (k : Nat) {R : Type}  (x0 : (List (Int × (Int × (Int × ((List UInt8) × Bool)))))) (K : ((List (Int × (Int × ((List UInt8) × (Bool × ((List (List UInt8)) × (List Int))))))) → Int → Int → Option R)) : Option R := (@cond (@Option R) (@BEq.beq Int (@instBEqOfDecidableEq Int @Int.instDecidableEq) (@Nat.cast Int instNatCastInt (@List.length (@Kd.T (@Kd.pr kI (@Kd.pr kI (@Kd.pr kI (@Kd.pr Kd.str Kd.bool))))) x0)) (0 : Int)) (@wq5e k R (10 : Int) (1 : Int) (fun y4 y5 => (@wq7t k R [] (0 : (@Kd.T kI)) (0 : (@Kd.T kI)) y4 y5 (fun y6 y7 y8 => (K y6 y7 y8))))) (@wq6u k R x0 [] (1 : Int) (fun y4 y5 y6 => (@cond (@Option R) (@Decidable.decide (@GT.gt Int Int.instLTInt (@Nat.cast Int instNatCastInt (@List.length (@Kd.T (@Kd.pr kI (@Kd.pr kI (@Kd.pr kI (@Kd.pr Kd.str Kd.bool))))) y4)) (0 : Int)) (@Int.decLt (0 : Int) (@Nat.cast Int instNatCastInt (@List.length (@Kd.T (@Kd.pr kI (@Kd.pr kI (@Kd.pr kI (@Kd.pr Kd.str Kd.bool))))) y4)))) (@cond (@Option R) (@inb (0 : Int) (@Nat.cast Int instNatCastInt (@List.length (@Kd.T (@Kd.pr kI (@Kd.pr kI (@Kd.pr kI (@Kd.pr Kd.str Kd.bool))))) y4))) (@wq5e k R (6 : Int) (@List.getD (@Kd.T (@Kd.pr kI (@Kd.pr kI (@Kd.pr kI (@Kd.pr Kd.str Kd.bool))))) y4 (@Int.toNat (0 : Int)) (@Kd.zero (@Kd.pr kI (@Kd.pr kI (@Kd.pr kI (@Kd.pr Kd.str Kd.bool)))))).2.1 (fun y7 y8 => (@wq7t k R [] (0 : (@Kd.T kI)) (0 : (@Kd.T kI)) y7 y8 (fun y9 y10 y11 => (K y9 y10 y11))))) (@Option.none R)) (@wqbv k R y5 (0 : (@Kd.T kI)) (0 : (@Kd.T kI)) (fun y7 y8 y9 => (K y7 y8 y9))))) (fun y4 y5 y6 y7 => (@wq7t k R [] (0 : (@Kd.T kI)) (0 : (@Kd.T kI)) y6 y7 (fun y8 y9 y10 => (K y8 y9 y10))))))
theorem wqz0 (k : Nat) {R : Type} (I : Nat → St → Option R) (x0 : (List (Int × (Int × (Int × ((List UInt8) × Bool)))))) (K : ((List (Int × (Int × ((List UInt8) × (Bool × ((List (List UInt8)) × (List Int))))))) → Int → Int → Option R)) : fnDK (wqu1 k) k [300, 400] (at_ [0] wq6v) (opsAt (at_ [1, 0] wq6v)) (at_ [1, 1] wq6v) 34 [.cell 2 28, .cell 3 30] wqy9 (wqid k) wqpl [(300, 0), (400, 0)] [.v (.sl (.pr (.int .i64) (.pr (.int .i64) (.pr (.int .i64) (.pr .str .bool))))) x0] [] (wqn0 K) = A_doc_Of k  x0 K := by kernel_rfl
noncomputable def F_doc_Of (k : Nat) {R : Type} (x0 : (List (Int × (Int × (Int × ((List UInt8) × Bool)))))) (K : ((List (Int × (Int × ((List UInt8) × (Bool × ((List (List UInt8)) × (List Int))))))) → Int → Int → Option R)) : Option R := A_doc_Of k  x0 K
theorem wqz1 (k : Nat) {R : Type} (x0 : (List (Int × (Int × (Int × ((List UInt8) × Bool)))))) (K : ((List (Int × (Int × ((List UInt8) × (Bool × ((List (List UInt8)) × (List Int))))))) → Int → Int → Option R)) : fnDK (wqu1 k) k [300, 400] (at_ [0] wq6v) (opsAt (at_ [1, 0] wq6v)) (at_ [1, 1] wq6v) 34 [.cell 2 28, .cell 3 30] wqy9 (wqid k) wqpl [(300, 0), (400, 0)] [.v (.sl (.pr (.int .i64) (.pr (.int .i64) (.pr (.int .i64) (.pr .str .bool))))) x0] [] (wqn0 K) = F_doc_Of k x0 K := by
  exact wqz0 k (fun _ _ => none) x0 K
noncomputable def wqlt (k : Nat) {R : Type} : List PV → List (Nm × HObj) → (Out → Option R) → Option R
  | [.v (.sl (.pr (.int .i64) (.pr (.int .i64) (.pr (.int .i64) (.pr .str .bool))))) x0], [], K => F_doc_Of k x0 (fun y0 y1 y2 => K (.ret [.agg [.v (.sl (.pr (.int .i64) (.pr (.int .i64) (.pr .str (.pr .bool (.pr (.sl .str) (.sl (.int .i64)))))))) y0], .agg [.v (.int .i64) y1, .v (.int .i64) y2]] []))
  | _, _, _ => none
theorem wqz2 (k : Nat) : (C_doc_Of k).Ok Tryd.prog := (CTab.add_ok (fun h => wqic k h) (CTab.add_ok (fun h => wqmz k h) CTab.nil_ok))
theorem wqu2 (k : Nat) {R : Type} (rec : PV) (ps : List PV) (hp : List (Nm × HObj)) (K : Out → Option R) (r : R) (h : wqid k rec ps hp K = some r) : DoesToD Tryd.prog 14 rec ps hp fun out => K out = some r := by
  unfold wqid at h
  split at h
  · exact wqvd k h
  · exact wqve k h
  · cases h
theorem D_doc_Of (k : Nat) {ps : List PV} {hp : List (Nm × HObj)} {R : Type} {K : Out → Option R} {r : R} (h : wqlt k ps hp K = some r) : DoesTo Tryd.prog 8 ps hp fun out => K out = some r := by
  unfold wqlt at h
  split at h
  · rw [← wqz1] at h
    have := fnDK_ok (P := Tryd.prog) (cx := wqu1 k) (f := 8) ⟨tyT_ok, wqz2 k, fun _ _ => rfl⟩ (by kernel_rfl) (fn := Tryd.f8) (id := 1) (pre := at_ [0] wq6v) (rest := at_ [1, 1] wq6v) (ops := opsAt (at_ [1, 0] wq6v)) (by kernel_rfl) (by kernel_rfl) (by kernel_rfl) (rs := [.cell 2 28, .cell 3 30]) (by kernel_rfl) (by kernel_rfl) (by kernel_rfl) (g := 14) (s := 5) (xs := [.tmp 2, .tmp 3]) (by kernel_rfl) (Invokes.of (fn := Tryd.f14) (by kernel_rfl) (c := Tryd.f14.body.getD .skip) (by kernel_rfl) (by kernel_rfl)) (wqu2 k) h
    exact this.mono fun out ho => by
      unfold wqn0 at ho
      split at ho <;> first | exact ho | cases ho
  · cases h
end Go.Proofs.YtpfbdepoammjmaaDoor.Pvm

set_option maxRecDepth 1000000
set_option maxHeartbeats 0
namespace Go.Proofs.YtpfbdepoammjmaaDoor.Pvm
open Go Go.Proofs
def wqnx : List LS := [.obj 1 [.sl (.pr (.int .i64) (.pr (.int .i64) (.pr (.int .i64) (.pr .str .bool))))], .obj 2 [.any, .any]]
noncomputable def wqny (k : Nat) : CTab := CTab.nil
def wqby {R : Type} (K : ((List (Int × (Int × (Int × ((List UInt8) × Bool))))) → Int → Int → Option R)) : Out → Option R
  | .ret [] [(1, .var 22 [.v (.sl (.pr (.int .i64) (.pr (.int .i64) (.pr (.int .i64) (.pr .str .bool))))) y0]), (2, .var 30 [.v (.int .i64) y1, .v (.int .i64) y2])] => K y0 y1 y2
  | _ => none
def wqlu : RetSpec := ⟨[], [(1, .obj 1 [.sl (.pr (.int .i64) (.pr (.int .i64) (.pr (.int .i64) (.pr .str .bool))))]), (2, .obj 2 [.any, .any])], []⟩
def wqpt : List (Nat × CutSpec) := []
def wqoe : List (Nat × Plan) := [(7, (.of [(0, 2), (1, 0), (2, 0)] .done))]
noncomputable def wqex (k : Nat) : Ctx := ⟨tyT, wqpt, wqny k, [], [1, 2], wqoe, @SH⟩
noncomputable def wq90 : Code := Tryd.f54.body.getD .skip
noncomputable def wqgw (k : Nat) {R : Type}  (x0 : (List (Int × (Int × (Int × ((List UInt8) × Bool)))))) (x1 x2 : Int) (K : ((List (Int × (Int × (Int × ((List UInt8) × Bool))))) → Int → Int → Option R)) : Option R := (K x0 x1 x2)
theorem wqpu (k : Nat) {R : Type} (I : Nat → St → Option R) (x0 : (List (Int × (Int × (Int × ((List UInt8) × Bool)))))) (x1 x2 : Int) (K : ((List (Int × (Int × (Int × ((List UInt8) × Bool))))) → Int → Int → Option R)) : fnCK (wqex k) k (at_ [1] wq90) 12 [] wqlu [.ptr 1 0, .ptr 2 0] 5 (.nilif) [(1, .var 22 [.v (.sl (.pr (.int .i64) (.pr (.int .i64) (.pr (.int .i64) (.pr .str .bool))))) x0]), (2, .var 30 [.v (.int .i64) x1, .v (.int .i64) x2])] (wqby K) = wqgw k  x0 x1 x2 K := by kernel_rfl
noncomputable def wqai (k : Nat) {R : Type} (x0 : (List (Int × (Int × (Int × ((List UInt8) × Bool)))))) (x1 x2 : Int) (K : ((List (Int × (Int × (Int × ((List UInt8) × Bool))))) → Int → Int → Option R)) : Option R := wqgw k  x0 x1 x2 K
theorem wqpv (k : Nat) {R : Type} (x0 : (List (Int × (Int × (Int × ((List UInt8) × Bool)))))) (x1 x2 : Int) (K : ((List (Int × (Int × (Int × ((List UInt8) × Bool))))) → Int → Int → Option R)) : fnCK (wqex k) k (at_ [1] wq90) 12 [] wqlu [.ptr 1 0, .ptr 2 0] 5 (.nilif) [(1, .var 22 [.v (.sl (.pr (.int .i64) (.pr (.int .i64) (.pr (.int .i64) (.pr .str .bool))))) x0]), (2, .var 30 [.v (.int .i64) x1, .v (.int .i64) x2])] (wqby K) = wqai k x0 x1 x2 K := by
  exact wqpu k (fun _ _ => none) x0 x1 x2 K
noncomputable def wqjm (k : Nat) {R : Type} : PV → List PV → List (Nm × HObj) → (Out → Option R) → Option R
  | .nilif, [.ptr 1 0, .ptr 2 0], [(1, .var 22 [.v (.sl (.pr (.int .i64) (.pr (.int .i64) (.pr (.int .i64) (.pr .str .bool))))) x0]), (2, .var 30 [.v (.int .i64) x1, .v (.int .i64) x2])], K => wqai k x0 x1 x2 (fun y0 y1 y2 => K (.ret [] [(1, .var 22 [.v (.sl (.pr (.int .i64) (.pr (.int .i64) (.pr (.int .i64) (.pr .str .bool))))) y0]), (2, .var 30 [.v (.int .i64) y1, .v (.int .i64) y2])]))
  | _, _, _, _ => none
theorem wqpw (k : Nat) : (wqny k).Ok Tryd.prog := CTab.nil_ok
theorem wqu3 (k : Nat) {rec : PV} {ps : List PV} {hp : List (Nm × HObj)} {R : Type} {K : Out → Option R} {r : R} (h : wqjm k rec ps hp K = some r) : DoesToD Tryd.prog 54 rec ps hp fun out => K out = some r := by
  unfold wqjm at h
  split at h
  · rw [← wqpv] at h
    have := fnCK_ok (P := Tryd.prog) (cx := wqex k) (f := 54) ⟨tyT_ok, wqpw k, fun _ _ => rfl⟩ (by kernel_rfl) (fn := Tryd.f54) (id := 0) (ops := opsAt (at_ [0] wq90)) (c := at_ [1] wq90) (by kernel_rfl) (by kernel_rfl) (by kernel_rfl) (rs := []) (by kernel_rfl) (by kernel_rfl) h
    exact this.mono fun out ho => by
      unfold wqby at ho
      split at ho <;> first | exact ho | cases ho
  · cases h
end Go.Proofs.YtpfbdepoammjmaaDoor.Pvm

set_option maxRecDepth 1000000
set_option maxHeartbeats 0
namespace Go.Proofs.YtpfbdepoammjmaaDoor.Pvm
open Go Go.Proofs
noncomputable def wqnz (k : Nat) : CTab := CTab.nil
def wqbz {R : Type} (K : ((List (Int × (Int × (Int × ((List UInt8) × Bool))))) → Int → Int → Option R)) : Out → Option R
  | .ret [] [(1, .var 22 [.v (.sl (.pr (.int .i64) (.pr (.int .i64) (.pr (.int .i64) (.pr .str .bool))))) y0]), (2, .var 30 [.v (.int .i64) y1, .v (.int .i64) y2])] => K y0 y1 y2
  | _ => none
def wqlv : RetSpec := ⟨[], [(1, .obj 1 [.sl (.pr (.int .i64) (.pr (.int .i64) (.pr (.int .i64) (.pr .str .bool))))]), (2, .obj 2 [.any, .any])], []⟩
def wqpx : List (Nat × CutSpec) := []
def wqof : List (Nat × Plan) := [(7, (.of [(0, 2), (1, 0), (2, 0)] .done))]
noncomputable def wqey (k : Nat) : Ctx := ⟨tyT, wqpx, wqnz k, [], [1, 2], wqof, @SH⟩
noncomputable def wq91 : Code := Tryd.f54.body.getD .skip
noncomputable def wqgx (k : Nat) {R : Type}  (x0 : (List (Int × (Int × (Int × ((List UInt8) × Bool)))))) (x1 x2 x3 x4 : Int) (K : ((List (Int × (Int × (Int × ((List UInt8) × Bool))))) → Int → Int → Option R)) : Option R := (K [] x3 x4)
theorem wqpy (k : Nat) {R : Type} (I : Nat → St → Option R) (x0 : (List (Int × (Int × (Int × ((List UInt8) × Bool)))))) (x1 x2 x3 x4 : Int) (K : ((List (Int × (Int × (Int × ((List UInt8) × Bool))))) → Int → Int → Option R)) : fnCK (wqey k) k (at_ [1] wq91) 12 [] wqlv [.ptr 1 0, .ptr 2 0] 5 (.ifc 30 (.agg [.v (.int .i64) x3, .v (.int .i64) x4])) [(1, .var 22 [.v (.sl (.pr (.int .i64) (.pr (.int .i64) (.pr (.int .i64) (.pr .str .bool))))) x0]), (2, .var 30 [.v (.int .i64) x1, .v (.int .i64) x2])] (wqbz K) = wqgx k  x0 x1 x2 x3 x4 K := by kernel_rfl
noncomputable def wqaj (k : Nat) {R : Type} (x0 : (List (Int × (Int × (Int × ((List UInt8) × Bool)))))) (x1 x2 x3 x4 : Int) (K : ((List (Int × (Int × (Int × ((List UInt8) × Bool))))) → Int → Int → Option R)) : Option R := wqgx k  x0 x1 x2 x3 x4 K
theorem wqpz (k : Nat) {R : Type} (x0 : (List (Int × (Int × (Int × ((List UInt8) × Bool)))))) (x1 x2 x3 x4 : Int) (K : ((List (Int × (Int × (Int × ((List UInt8) × Bool))))) → Int → Int → Option R)) : fnCK (wqey k) k (at_ [1] wq91) 12 [] wqlv [.ptr 1 0, .ptr 2 0] 5 (.ifc 30 (.agg [.v (.int .i64) x3, .v (.int .i64) x4])) [(1, .var 22 [.v (.sl (.pr (.int .i64) (.pr (.int .i64) (.pr (.int .i64) (.pr .str .bool))))) x0]), (2, .var 30 [.v (.int .i64) x1, .v (.int .i64) x2])] (wqbz K) = wqaj k x0 x1 x2 x3 x4 K := by
  exact wqpy k (fun _ _ => none) x0 x1 x2 x3 x4 K
noncomputable def wqjn (k : Nat) {R : Type} : PV → List PV → List (Nm × HObj) → (Out → Option R) → Option R
  | .ifc 30 (.agg [.v (.int .i64) x3, .v (.int .i64) x4]), [.ptr 1 0, .ptr 2 0], [(1, .var 22 [.v (.sl (.pr (.int .i64) (.pr (.int .i64) (.pr (.int .i64) (.pr .str .bool))))) x0]), (2, .var 30 [.v (.int .i64) x1, .v (.int .i64) x2])], K => wqaj k x0 x1 x2 x3 x4 (fun y0 y1 y2 => K (.ret [] [(1, .var 22 [.v (.sl (.pr (.int .i64) (.pr (.int .i64) (.pr (.int .i64) (.pr .str .bool))))) y0]), (2, .var 30 [.v (.int .i64) y1, .v (.int .i64) y2])]))
  | _, _, _, _ => none
theorem wqq0 (k : Nat) : (wqnz k).Ok Tryd.prog := CTab.nil_ok
theorem wqu4 (k : Nat) {rec : PV} {ps : List PV} {hp : List (Nm × HObj)} {R : Type} {K : Out → Option R} {r : R} (h : wqjn k rec ps hp K = some r) : DoesToD Tryd.prog 54 rec ps hp fun out => K out = some r := by
  unfold wqjn at h
  split at h
  · rw [← wqpz] at h
    have := fnCK_ok (P := Tryd.prog) (cx := wqey k) (f := 54) ⟨tyT_ok, wqq0 k, fun _ _ => rfl⟩ (by kernel_rfl) (fn := Tryd.f54) (id := 0) (ops := opsAt (at_ [0] wq91)) (c := at_ [1] wq91) (by kernel_rfl) (by kernel_rfl) (by kernel_rfl) (rs := []) (by kernel_rfl) (by kernel_rfl) h
    exact this.mono fun out ho => by
      unfold wqbz at ho
      split at ho <;> first | exact ho | cases ho
  · cases h
end Go.Proofs.YtpfbdepoammjmaaDoor.Pvm

set_option maxRecDepth 1000000
set_option maxHeartbeats 0
namespace Go.Proofs.YtpfbdepoammjmaaDoor.Pvm
open Go Go.Proofs
def wqlw : List LS := [.any, .any]
noncomputable def wqfw (k : Nat) : CTab := CTab.nil
def wq83 {R : Type} (K : (Bool → Option R)) : Out → Option R
  | .ret [.v .bool y0] [] => K y0
  | _ => none
def wqea : RetSpec := ⟨[.any], [], []⟩
def wqk8 : List (Nat × CutSpec) := []
def wqiw : List (Nat × Plan) := []
noncomputable def wq9v (k : Nat) : Ctx := ⟨tyT, wqk8, wqfw k, [], [], wqiw, @SH⟩
noncomputable def wq84 : Code := Tryd.f40.body.getD .skip
noncomputable def wqb1 (k : Nat) {R : Type}  (x0 x1 : (List UInt8)) (K : (Bool → Option R)) : Option R := (@cond (@Option R) (@Bool.or (@Bool.not (@BEq.beq (@Kd.T Kd.bool) (@instBEqOfDecidableEq (@Kd.T Kd.bool) @instDecidableEqBool) (@Decidable.decide (@GE.ge Int Int.instLEInt (@Nat.cast Int instNatCastInt (@List.length UInt8 x0)) (@Nat.cast Int instNatCastInt (@List.length UInt8 x1))) (@Int.decLe (@Nat.cast Int instNatCastInt (@List.length UInt8 x1)) (@Nat.cast Int instNatCastInt (@List.length UInt8 x0)))) Bool.true)) (@bnd (0 : Int) (@Nat.cast Int instNatCastInt (@List.length UInt8 x1)) (@Nat.cast Int instNatCastInt (@List.length UInt8 x0)))) (K (@cond (@Kd.T Kd.bool) (@Decidable.decide (@GE.ge Int Int.instLEInt (@Nat.cast Int instNatCastInt (@List.length UInt8 x0)) (@Nat.cast Int instNatCastInt (@List.length UInt8 x1))) (@Int.decLe (@Nat.cast Int instNatCastInt (@List.length UInt8 x1)) (@Nat.cast Int instNatCastInt (@List.length UInt8 x0)))) (@BEq.beq (@List UInt8) (@List.instBEq UInt8 (@instBEqOfDecidableEq UInt8 @instDecidableEqUInt8)) (@cut UInt8 x0 (0 : Int) (@Nat.cast Int instNatCastInt (@List.length UInt8 x1))) x1) Bool.false)) (@Option.none R))
theorem wqk9 (k : Nat) {R : Type} (I : Nat → St → Option R) (x0 x1 : (List UInt8)) (K : (Bool → Option R)) : fnK (wq9v k) k wq84 18 [.tmp 4] wqea [.v .str x0, .v .str x1] [] (wq83 K) = wqb1 k  x0 x1 K := by kernel_rfl
noncomputable def wq7n (k : Nat) {R : Type} (x0 x1 : (List UInt8)) (K : (Bool → Option R)) : Option R := wqb1 k  x0 x1 K
theorem wqka (k : Nat) {R : Type} (x0 x1 : (List UInt8)) (K : (Bool → Option R)) : fnK (wq9v k) k wq84 18 [.tmp 4] wqea [.v .str x0, .v .str x1] [] (wq83 K) = wq7n k x0 x1 K := by
  exact wqk9 k (fun _ _ => none) x0 x1 K
noncomputable def wq92 (k : Nat) {R : Type} : List PV → List (Nm × HObj) → (Out → Option R) → Option R
  | [.v .str x0, .v .str x1], [], K => wq7n k x0 x1 (fun y0 => K (.ret [.v .bool y0] []))
  | _, _, _ => none
theorem wqkb (k : Nat) : (wqfw k).Ok Tryd.prog := CTab.nil_ok
theorem wqog (k : Nat) {ps : List PV} {hp : List (Nm × HObj)} {R : Type} {K : Out → Option R} {r : R} (h : wq92 k ps hp K = some r) : DoesTo Tryd.prog 40 ps hp fun out => K out = some r := by
  unfold wq92 at h
  split at h
  · rw [← wqka] at h
    have := fn_ok (P := Tryd.prog) (cx := wq9v k) (f := 40) ⟨tyT_ok, wqkb k, fun _ _ => rfl⟩ (by kernel_rfl) (fn := Tryd.f40) (c := wq84) (by kernel_rfl) (by kernel_rfl) (by kernel_rfl) (rs := [.tmp 4]) (by kernel_rfl) (by kernel_rfl) h
    exact this.mono fun out ho => by
      unfold wq83 at ho
      split at ho <;> first | exact ho | cases ho
  · cases h
end Go.Proofs.YtpfbdepoammjmaaDoor.Pvm

set_option maxRecDepth 1000000
set_option maxHeartbeats 0
namespace Go.Proofs.YtpfbdepoammjmaaDoor.Pvm
open Go Go.Proofs
def wqix : List LS := [.any, .any]
noncomputable def wqcz (k : Nat) : CTab := (CTab.add 40 wqlw (wq92 k) CTab.nil)
def wq6d {R : Type} (K : (Bool → Option R)) : Out → Option R
  | .ret [.v .bool y0] [] => K y0
  | _ => none
def wqc0 : RetSpec := ⟨[.any], [], []⟩
def wqgy : List (Nat × CutSpec) := []
def wqg7 : List (Nat × Plan) := []
noncomputable def wq85 (k : Nat) : Ctx := ⟨tyT, wqgy, wqcz k, [], [], wqg7, @SH⟩
noncomputable def wq6e : Code := Tryd.f23.body.getD .skip
noncomputable def wq93 (k : Nat) {R : Type}  (x0 x1 : (List UInt8)) (K : (Bool → Option R)) : Option R := (@wq7n k R x0 x1 (fun y5 => (K y5)))
theorem wqgz (k : Nat) {R : Type} (I : Nat → St → Option R) (x0 x1 : (List UInt8)) (K : (Bool → Option R)) : fnK (wq85 k) k wq6e 8 [.tmp 4] wqc0 [.v .str x0, .v .str x1] [] (wq6d K) = wq93 k  x0 x1 K := by kernel_rfl
noncomputable def wq68 (k : Nat) {R : Type} (x0 x1 : (List UInt8)) (K : (Bool → Option R)) : Option R := wq93 k  x0 x1 K
theorem wqh0 (k : Nat) {R : Type} (x0 x1 : (List UInt8)) (K : (Bool → Option R)) : fnK (wq85 k) k wq6e 8 [.tmp 4] wqc0 [.v .str x0, .v .str x1] [] (wq6d K) = wq68 k x0 x1 K := by
  exact wqgz k (fun _ _ => none) x0 x1 K
noncomputable def wq7b (k : Nat) {R : Type} : List PV → List (Nm × HObj) → (Out → Option R) → Option R
  | [.v .str x0, .v .str x1], [], K => wq68 k x0 x1 (fun y0 => K (.ret [.v .bool y0] []))
  | _, _, _ => none
theorem wqh1 (k : Nat) : (wqcz k).Ok Tryd.prog := (CTab.add_ok (fun h => wqog k h) CTab.nil_ok)
theorem wqlx (k : Nat) {ps : List PV} {hp : List (Nm × HObj)} {R : Type} {K : Out → Option R} {r : R} (h : wq7b k ps hp K = some r) : DoesTo Tryd.prog 23 ps hp fun out => K out = some r := by
  unfold wq7b at h
  split at h
  · rw [← wqh0] at h
    have := fn_ok (P := Tryd.prog) (cx := wq85 k) (f := 23) ⟨tyT_ok, wqh1 k, fun _ _ => rfl⟩ (by kernel_rfl) (fn := Tryd.f23) (c := wq6e) (by kernel_rfl) (by kernel_rfl) (by kernel_rfl) (rs := [.tmp 4]) (by kernel_rfl) (by kernel_rfl) h
    exact this.mono fun out ho => by
      unfold wq6d at ho
      split at ho <;> first | exact ho | cases ho
  · cases h
end Go.Proofs.YtpfbdepoammjmaaDoor.Pvm

set_option maxRecDepth 1000000
set_option maxHeartbeats 0
namespace Go.Proofs.YtpfbdepoammjmaaDoor.Pvm
open Go Go.Proofs
def wqq1 : List LS := [.any]
noncomputable def wqvg (k : Nat) : CTab := (CTab.add 23 wqix (wq7b k) CTab.nil)
def wqh2 {R : Type} (K : (Bool → Option R)) : Out → Option R
  | .ret [.v .bool y0] [] => K y0
  | _ => none
def wqt7 : RetSpec := ⟨[.any], [], []⟩
def wqvh : List (Nat × CutSpec) := []
def wqu5 : List (Nat × Plan) := []
noncomputable def wqn1 (k : Nat) : Ctx := ⟨tyT, wqvh, wqvg k, [], [], wqu5, @SH⟩
noncomputable def wqh3 : Code := Tryd.f70.body.getD .skip
noncomputable def wqq2 (k : Nat) {R : Type}  (x0 : (List UInt8)) (K : (Bool → Option R)) : Option R := (@cond (@Option R) (@BEq.beq (@Kd.T Kd.bool) (@instBEqOfDecidableEq (@Kd.T Kd.bool) @instDecidableEqBool) (@BEq.beq (@List UInt8) (@List.instBEq UInt8 (@instBEqOfDecidableEq UInt8 @instDecidableEqUInt8)) x0 ((45 : UInt8) :: [])) Bool.false) (@wq68 k R x0 ((45 : UInt8) :: ((32 : UInt8) :: [])) (fun y4 => (K y4))) (K Bool.true))
theorem wqvi (k : Nat) {R : Type} (I : Nat → St → Option R) (x0 : (List UInt8)) (K : (Bool → Option R)) : fnK (wqn1 k) k wqh3 9 [.tmp 2] wqt7 [.v .str x0] [] (wqh2 K) = wqq2 k  x0 K := by kernel_rfl
noncomputable def wqeb (k : Nat) {R : Type} (x0 : (List UInt8)) (K : (Bool → Option R)) : Option R := wqq2 k  x0 K
theorem wqvj (k : Nat) {R : Type} (x0 : (List UInt8)) (K : (Bool → Option R)) : fnK (wqn1 k) k wqh3 9 [.tmp 2] wqt7 [.v .str x0] [] (wqh2 K) = wqeb k x0 K := by
  exact wqvi k (fun _ _ => none) x0 K
noncomputable def wqez (k : Nat) {R : Type} : List PV → List (Nm × HObj) → (Out → Option R) → Option R
  | [.v .str x0], [], K => wqeb k x0 (fun y0 => K (.ret [.v .bool y0] []))
  | _, _, _ => none
theorem wqvk (k : Nat) : (wqvg k).Ok Tryd.prog := (CTab.add_ok (fun h => wqlx k h) CTab.nil_ok)
theorem wqvl (k : Nat) {ps : List PV} {hp : List (Nm × HObj)} {R : Type} {K : Out → Option R} {r : R} (h : wqez k ps hp K = some r) : DoesTo Tryd.prog 70 ps hp fun out => K out = some r := by
  unfold wqez at h
  split at h
  · rw [← wqvj] at h
    have := fn_ok (P := Tryd.prog) (cx := wqn1 k) (f := 70) ⟨tyT_ok, wqvk k, fun _ _ => rfl⟩ (by kernel_rfl) (fn := Tryd.f70) (c := wqh3) (by kernel_rfl) (by kernel_rfl) (by kernel_rfl) (rs := [.tmp 2]) (by kernel_rfl) (by kernel_rfl) h
    exact this.mono fun out ho => by
      unfold wqh2 at ho
      split at ho <;> first | exact ho | cases ho
  · cases h
end Go.Proofs.YtpfbdepoammjmaaDoor.Pvm

set_option maxRecDepth 1000000
set_option maxHeartbeats 0
namespace Go.Proofs.YtpfbdepoammjmaaDoor.Pvm
open Go Go.Proofs
def wqwy : List LS := [.any]
noncomputable def wqvm (k : Nat) : CTab := CTab.nil
def wqh4 {R : Type} (K : (Bool → Option R)) : Out → Option R
  | .ret [.v .bool y0] [] => K y0
  | _ => none
def wqt8 : RetSpec := ⟨[.any], [], []⟩
def wqvn : List (Nat × CutSpec) := []
def wqu6 : List (Nat × Plan) := []
noncomputable def wqn2 (k : Nat) : Ctx := ⟨tyT, wqvn, wqvm k, [], [], wqu6, @SH⟩
noncomputable def wqh5 : Code := Tryd.f98.body.getD .skip
noncomputable def wqq3 (k : Nat) {R : Type}  (x0 : Int) (K : (Bool → Option R)) : Option R := (K (@cond (@Kd.T Kd.bool) (@cond (@Kd.T Kd.bool) (@cond (@Kd.T Kd.bool) (@cond (@Kd.T Kd.bool) (@cond (@Kd.T Kd.bool) (@cond (@Kd.T Kd.bool) (@Decidable.decide (@GE.ge Int Int.instLEInt x0 (97 : Int)) (@Int.decLe (97 : Int) x0)) (@Decidable.decide (@LE.le Int Int.instLEInt x0 (122 : Int)) (@Int.decLe x0 (122 : Int))) Bool.false) Bool.true (@cond (@Kd.T Kd.bool) (@Decidable.decide (@GE.ge Int Int.instLEInt x0 (65 : Int)) (@Int.decLe (65 : Int) x0)) (@Decidable.decide (@LE.le Int Int.instLEInt x0 (90 : Int)) (@Int.decLe x0 (90 : Int))) Bool.false)) Bool.true (@cond (@Kd.T Kd.bool) (@Decidable.decide (@GE.ge Int Int.instLEInt x0 (48 : Int)) (@Int.decLe (48 : Int) x0)) (@Decidable.decide (@LE.le Int Int.instLEInt x0 (57 : Int)) (@Int.decLe x0 (57 : Int))) Bool.false)) Bool.true (@BEq.beq Int (@instBEqOfDecidableEq Int @Int.instDecidableEq) x0 (95 : Int))) Bool.true (@BEq.beq Int (@instBEqOfDecidableEq Int @Int.instDecidableEq) x0 (45 : Int))) Bool.true (@BEq.beq Int (@instBEqOfDecidableEq Int @Int.instDecidableEq) x0 (46 : Int))))
theorem wqvo (k : Nat) {R : Type} (I : Nat → St → Option R) (x0 : Int) (K : (Bool → Option R)) : fnK (wqn2 k) k wqh5 37 [.tmp 2] wqt8 [.v (.int .u8) x0] [] (wqh4 K) = wqq3 k  x0 K := by kernel_rfl
noncomputable def wqh6 (k : Nat) {R : Type} (x0 : Int) (K : (Bool → Option R)) : Option R := wqq3 k  x0 K
theorem wqvp (k : Nat) {R : Type} (x0 : Int) (K : (Bool → Option R)) : fnK (wqn2 k) k wqh5 37 [.tmp 2] wqt8 [.v (.int .u8) x0] [] (wqh4 K) = wqh6 k x0 K := by
  exact wqvo k (fun _ _ => none) x0 K
noncomputable def wqkc (k : Nat) {R : Type} : List PV → List (Nm × HObj) → (Out → Option R) → Option R
  | [.v (.int .u8) x0], [], K => wqh6 k x0 (fun y0 => K (.ret [.v .bool y0] []))
  | _, _, _ => none
theorem wqvq (k : Nat) : (wqvm k).Ok Tryd.prog := CTab.nil_ok
theorem wqzw (k : Nat) {ps : List PV} {hp : List (Nm × HObj)} {R : Type} {K : Out → Option R} {r : R} (h : wqkc k ps hp K = some r) : DoesTo Tryd.prog 98 ps hp fun out => K out = some r := by
  unfold wqkc at h
  split at h
  · rw [← wqvp] at h
    have := fn_ok (P := Tryd.prog) (cx := wqn2 k) (f := 98) ⟨tyT_ok, wqvq k, fun _ _ => rfl⟩ (by kernel_rfl) (fn := Tryd.f98) (c := wqh5) (by kernel_rfl) (by kernel_rfl) (by kernel_rfl) (rs := [.tmp 2]) (by kernel_rfl) (by kernel_rfl) h
    exact this.mono fun out ho => by
      unfold wqh4 at ho
      split at ho <;> first | exact ho | cases ho
  · cases h
end Go.Proofs.YtpfbdepoammjmaaDoor.Pvm

set_option maxRecDepth 1000000
set_option maxHeartbeats 0
namespace Go.Proofs.YtpfbdepoammjmaaDoor.Pvm
open Go Go.Proofs
def wqvr : List LS := [.any]
noncomputable def wqt9 (k : Nat) : CTab := (CTab.add 98 wqwy (wqkc k) CTab.nil)
def wq57 {R : Type} (K : (Bool → Option R)) : Out → Option R
  | .ret [.v .bool y0] [] => K y0
  | _ => none
def wq86 : RetSpec := ⟨[.any], [], []⟩
def wqu7 : List (Nat × CutSpec) := [(1002, ⟨[(0, .any), (5, .any), (6, .any)], []⟩)]
def wqs3 : List (Nat × Plan) := []
noncomputable def wq1f (k : Nat) : Ctx := ⟨tyT, wqu7, wqt9 k, [], [], wqs3, @SH⟩
noncomputable def wq2n : Code := Tryd.f86.body.getD .skip
def wq52 (s0 : (List UInt8)) (s1 s2 : Int) : St := ⟨mkT [(0, .v .str s0), (5, .v (.int .i64) s1), (6, .v (.int .i64) s2)], mkH []⟩
noncomputable def wq6f (k : Nat) {R : Type} (E1002 : ((List UInt8) → Int → Int → Option R)) (s0 : (List UInt8)) (s1 s2 : Int) (K : (Bool → Option R)) : Option R := (@cond (@Option R) (@Decidable.decide (@LT.lt Int Int.instLTInt s2 s1) (@Int.decLt s2 s1)) (@cond (@Option R) (@inb s2 (@Nat.cast Int instNatCastInt (@List.length UInt8 s0))) (@wqh6 k R (@Nat.cast Int instNatCastInt (@UInt8.toNat (@List.getD UInt8 s0 (@Int.toNat s2) (0 : UInt8)))) (fun y7 => (@cond (@Option R) (@Bool.not y7) (K Bool.false) (E1002 s0 s1 (@Go.IntKind.wrap Go.IntKind.i64 (@HAdd.hAdd Int Int Int (@instHAdd Int @Int.instAdd) s2 (1 : Int))))))) (@Option.none R)) (K (@Bool.not (@BEq.beq (@List UInt8) (@List.instBEq UInt8 (@instBEqOfDecidableEq UInt8 @instDecidableEqUInt8)) s0 []))))
theorem wqly (k : Nat) {R : Type} (I : Nat → St → Option R) (s0 : (List UInt8)) (s1 s2 : Int) (K : (Bool → Option R)) : execK (wq1f k) k (at_ [1, 0, 1, 0, 0] wq2n) (wq52 s0 s1 s2) (konts (wq1f k) k I [1, 0, 1, 0, 0] wq2n (outK (wq1f k) wq86 [.tmp 2] (wq57 K))) = wq6f k (fun s0 s1 s2 => I 1002 (wq52 s0 s1 s2)) s0 s1 s2 K := by kernel_rfl
noncomputable def wqie (k : Nat) {R : Type} (E1002 : ((List UInt8) → Int → Int → Option R)) (x0 : (List UInt8)) (K : (Bool → Option R)) : Option R := (E1002 x0 (@Nat.cast Int instNatCastInt (@List.length UInt8 x0)) (0 : Int))
theorem wqu8 (k : Nat) {R : Type} (I : Nat → St → Option R) (x0 : (List UInt8)) (K : (Bool → Option R)) : fnK (wq1f k) k wq2n 17 [.tmp 2] wq86 [.v .str x0] [] (wq57 K) = wqie k (fun s0 s1 s2 => iter (wq1f k).pv (look (wq1f k).cuts 1002) (execK (wq1f k) k (at_ [1, 0, 1, 0, 0] wq2n)) k (wq52 s0 s1 s2) (konts (wq1f k) k I [1, 0, 1, 0] wq2n (outK (wq1f k) wq86 [.tmp 2] (wq57 K)))) x0 K := by kernel_rfl
noncomputable def wq3f (k : Nat) {R : Type}  : Nat → (List UInt8) → Int → Int → (Bool → Option R) → Option R
  | 0, _, _, _, _ => none
  | n + 1, s0, s1, s2, K => wq6f k (fun s0 s1 s2 => wq3f k  n s0 s1 s2 K) s0 s1 s2 K
theorem wqlz (k : Nat) {R : Type} (I : Nat → St → Option R) (K : (Bool → Option R)) : ∀ (n : Nat) (s0 : (List UInt8)) (s1 s2 : Int), iter (wq1f k).pv (look (wq1f k).cuts 1002) (execK (wq1f k) k (at_ [1, 0, 1, 0, 0] wq2n)) n (wq52 s0 s1 s2) (konts (wq1f k) k I [1, 0, 1, 0] wq2n (outK (wq1f k) wq86 [.tmp 2] (wq57 K))) = wq3f k  n s0 s1 s2 K := by
  intro n
  induction n with
  | zero => intros; rfl
  | succ n ih =>
    intro s0 s1 s2
    let I' : Nat → St → Option R := fun id s => bif Nat.beq id 1002 then iter (wq1f k).pv (look (wq1f k).cuts 1002) (execK (wq1f k) k (at_ [1, 0, 1, 0, 0] wq2n)) n s (konts (wq1f k) k I [1, 0, 1, 0] wq2n (outK (wq1f k) wq86 [.tmp 2] (wq57 K))) else I id s
    have e := wqly k I' s0 s1 s2 K
    have h1002 : (fun s0 s1 s2 => I' 1002 (wq52 s0 s1 s2)) = (fun s0 s1 s2 => wq3f k  n s0 s1 s2 K) := by funext s0 s1 s2; exact ih s0 s1 s2
    refine Eq.trans (?_ : _ = _) (e.trans (Eq.trans ((congrArg ((fun E1002 => wq6f k E1002 s0 s1 s2 K)) h1002)) (by rw [wq3f])))
    rfl
noncomputable def wqec (k : Nat) {R : Type} (x0 : (List UInt8)) (K : (Bool → Option R)) : Option R := wqie k (fun s0 s1 s2 => wq3f k k s0 s1 s2 K) x0 K
theorem wqu9 (k : Nat) {R : Type} (x0 : (List UInt8)) (K : (Bool → Option R)) : fnK (wq1f k) k wq2n 17 [.tmp 2] wq86 [.v .str x0] [] (wq57 K) = wqec k x0 K := by
  let I : Nat → St → Option R := fun _ _ => none
  have h1002 : (fun s0 s1 s2 => iter (wq1f k).pv (look (wq1f k).cuts 1002) (execK (wq1f k) k (at_ [1, 0, 1, 0, 0] wq2n)) k (wq52 s0 s1 s2) (konts (wq1f k) k I [1, 0, 1, 0] wq2n (outK (wq1f k) wq86 [.tmp 2] (wq57 K)))) = (fun s0 s1 s2 => wq3f k k s0 s1 s2 K) := by funext s0 s1 s2; exact wqlz k I K k s0 s1 s2
  exact (wqu8 k I x0 K).trans (congrArg ((fun E1002 => wqie k E1002 x0 K)) h1002)
noncomputable def wqh7 (k : Nat) {R : Type} : List PV → List (Nm × HObj) → (Out → Option R) → Option R
  | [.v .str x0], [], K => wqec k x0 (fun y0 => K (.ret [.v .bool y0] []))
  | _, _, _ => none
theorem wqua (k : Nat) : (wqt9 k).Ok Tryd.prog := (CTab.add_ok (fun h => wqzw k h) CTab.nil_ok)
theorem wqz3 (k : Nat) {ps : List PV} {hp : List (Nm × HObj)} {R : Type} {K : Out → Option R} {r : R} (h : wqh7 k ps hp K = some r) : DoesTo Tryd.prog 86 ps hp fun out => K out = some r := by
  unfold wqh7 at h
  split at h
  · rw [← wqu9] at h
    have := fn_ok (P := Tryd.prog) (cx := wq1f k) (f := 86) ⟨tyT_ok, wqua k, fun _ _ => rfl⟩ (by kernel_rfl) (fn := Tryd.f86) (c := wq2n) (by kernel_rfl) (by kernel_rfl) (by kernel_rfl) (rs := [.tmp 2]) (by kernel_rfl) (by kernel_rfl) h
    exact this.mono fun out ho => by
      unfold wq57 at ho
      split at ho <;> first | exact ho | cases ho
  · cases h
end Go.Proofs.YtpfbdepoammjmaaDoor.Pvm

set_option maxRecDepth 1000000
namespace Go.Proofs.YtpfbdepoammjmaaDoor.Pvm
open Go Go.Proofs
def idxByte (s : List UInt8) (c : Int) : Int :=
  match (List.range s.length).find? fun i => s.getD i 0 == UInt8.ofNat c.toNat with
  | some i => (i : Int)
  | none => -1
theorem wqta {P : Program} (x0 : List UInt8) (x1 : Int) (w : World) : (Go.Extern.BytealgIndexByte.indexByte #[.string ⟨x0.toArray⟩, .int .u8 x1]).run P w = .ok (.int .i64 (idxByte x0 x1)) w := by
  have e5 : (Go.Extern.BytealgIndexByte.indexByte #[.string ⟨x0.toArray⟩, .int .u8 x1]).run P w = (match (List.range (ByteArray.mk x0.toArray).size).find? fun i => (ByteArray.mk x0.toArray)[i]! == x1.toNat.toUInt8 with
    | some i => (pure (goInt i) : Sem Value)
    | none => pure (goInt (-1))).run P w := rfl
  rw [e5]
  unfold idxByte
  have e6 : (ByteArray.mk x0.toArray).size = x0.length := by simp [ByteArray.size]
  have e7 : ∀ i, (ByteArray.mk x0.toArray)[i]! = x0.getD i 0 := by
    intro i
    by_cases hi : i < x0.length
    · rw [getElem!_pos (ByteArray.mk x0.toArray) i (by rw [e6]; exact hi)]
      have : x0.getD i 0 = x0[i] := by simp [List.getD, hi]
      rw [this]; rfl
    · rw [getElem!_neg (ByteArray.mk x0.toArray) i (by rw [e6]; exact hi)]
      have : x0.getD i 0 = 0 := by simp [List.getD, Nat.le_of_not_lt hi]
      rw [this]; rfl
  simp only [e6, e7]
  have e8 : ∀ i, (x0.getD i 0 == x1.toNat.toUInt8) = (x0.getD i 0 == UInt8.ofNat x1.toNat) := fun i => rfl
  simp only [e8]
  cases (List.range x0.length).find? fun i => x0.getD i 0 == UInt8.ofNat x1.toNat with
  | none => rfl
  | some i => rfl
def wqf0 : List LS := [.any, .any]
def wq6g (k : Nat) {R : Type} (x0 : List UInt8) (x1 : Int) (K : Int → Option R) : Option R := K (idxByte x0 x1)
def wq5n (k : Nat) {R : Type} : List PV → List (Nm × HObj) → (Out → Option R) → Option R
  | [.v .str x0, .v (.int .u8) x1], [], K => wq6g k x0 x1 (fun y0 => K (.ret [.v (.int .i64) y0] []))
  | _, _, _ => none
theorem fin_pure {G : Gh} {w : World} : Fin [] [] G w G w :=
  ⟨fun n o h => (by cases h), fun n m b h => (by simp [blkOf, mkH, look] at h), fun n t cs h => (by cases h), fun _ _ _ => rfl, rfl, fun n b h => (by simp [blkOf, mkH, look] at h), Nat.le_refl _, rfl, rfl, rfl⟩
theorem wqed : Extern.find Tryd.f103 = some Go.Extern.BytealgIndexByte.indexByte := by kernel_rfl
theorem wqbm : (Extern.findNext Tryd.f103).isNone = true := by kernel_rfl
theorem wqg8 : Tryd.prog.funcs[103]? = some Tryd.f103 := by kernel_rfl
theorem wq8r : (Tryd.f103.name == "runtime.NumGoroutine") = false := by kernel_rfl
theorem wqee : Tryd.f103.body.isNone = true := by kernel_rfl
theorem wqh8 (k : Nat) {ps : List PV} {hp : List (Nm × HObj)} {R : Type} {K : Out → Option R} {r : R} (h : wq5n k ps hp K = some r) : DoesTo Tryd.prog 103 ps hp fun out => K out = some r := by
  unfold wq5n at h
  split at h
  · next x0 x1 =>
    intro G w vals hr obj dis
    obtain ⟨v0, l0, rfl, h0, v1, l1, rfl, h1, rfl⟩ := hr
    have e0 : v0 = .string ⟨x0.toArray⟩ := by simpa [RV, RD] using h0
    have e1 : v1 = .int .u8 x1 := by simpa [RV, RD] using h1
    subst e0 e1
    have hrun : (callFunc 103 #[.string ⟨x0.toArray⟩, .int .u8 x1]).run Tryd.prog w = .ok (.value (.int .i64 (idxByte x0 x1))) w := by
      have hn2 : ¬ Tryd.f103.name = "runtime.NumGoroutine" := by simpa using wq8r
      have hn3 : Extern.findNext Tryd.f103 = none := by
        cases hq : Extern.findNext Tryd.f103 with
        | none => rfl
        | some e => have := wqbm; rw [hq] at this; cases this
      have e1 : (callFunc 103 #[.string ⟨x0.toArray⟩, .int .u8 x1]).run Tryd.prog w = (Go.Extern.BytealgIndexByte.indexByte #[.string ⟨x0.toArray⟩, .int .u8 x1] >>= fun v => pure (Next.value v)).run Tryd.prog w := by
        unfold callFunc
        rw [Sem.run_bind]
        have e2 : (program).run Tryd.prog w = .ok Tryd.prog w := rfl
        rw [e2, Result.andThen_ok, wqg8]
        simp only [wq8r, wqee, if_true, Bool.false_eq_true, if_false]
        rw [Sem.run_bind]
        have e3 : (mark (.extern 103)).run Tryd.prog w = .ok () w := rfl
        rw [e3, Result.andThen_ok, hn3, wqed]
      rw [e1]
      have e4 := wqta (P := Tryd.prog) x0 x1 w
      rw [Sem.run_bind, e4]; rfl
    show Does _ _ #[_, _] _ _
    unfold Does
    rw [hrun]
    exact ⟨.ret [.v (.int .i64) (idxByte x0 x1)] [], h, G, ⟨_, rfl, rfl⟩, fin_pure⟩
  · cases h
end Go.Proofs.YtpfbdepoammjmaaDoor.Pvm

set_option maxRecDepth 1000000
set_option maxHeartbeats 0
namespace Go.Proofs.YtpfbdepoammjmaaDoor.Pvm
open Go Go.Proofs
def wqd0 : List LS := [.any, .any]
noncomputable def wqfx (k : Nat) : CTab := (CTab.add 103 wqf0 (wq5n k) CTab.nil)
def wq87 {R : Type} (K : (Int → Option R)) : Out → Option R
  | .ret [.v (.int .i64) y0] [] => K y0
  | _ => none
def wqef : RetSpec := ⟨[.any], [], []⟩
def wqkd : List (Nat × CutSpec) := []
def wqiy : List (Nat × Plan) := []
noncomputable def wq9w (k : Nat) : Ctx := ⟨tyT, wqkd, wqfx k, [], [], wqiy, @SH⟩
noncomputable def wq88 : Code := Tryd.f101.body.getD .skip
noncomputable def wqb2 (k : Nat) {R : Type}  (x0 : (List UInt8)) (x1 : Int) (K : (Int → Option R)) : Option R := (@wq6g k R x0 x1 (fun y5 => (K y5)))
theorem wqke (k : Nat) {R : Type} (I : Nat → St → Option R) (x0 : (List UInt8)) (x1 : Int) (K : (Int → Option R)) : fnK (wq9w k) k wq88 8 [.tmp 4] wqef [.v .str x0, .v (.int .u8) x1] [] (wq87 K) = wqb2 k  x0 x1 K := by kernel_rfl
noncomputable def wq5x (k : Nat) {R : Type} (x0 : (List UInt8)) (x1 : Int) (K : (Int → Option R)) : Option R := wqb2 k  x0 x1 K
theorem wqkf (k : Nat) {R : Type} (x0 : (List UInt8)) (x1 : Int) (K : (Int → Option R)) : fnK (wq9w k) k wq88 8 [.tmp 4] wqef [.v .str x0, .v (.int .u8) x1] [] (wq87 K) = wq5x k x0 x1 K := by
  exact wqke k (fun _ _ => none) x0 x1 K
noncomputable def wq69 (k : Nat) {R : Type} : List PV → List (Nm × HObj) → (Out → Option R) → Option R
  | [.v .str x0, .v (.int .u8) x1], [], K => wq5x k x0 x1 (fun y0 => K (.ret [.v (.int .i64) y0] []))
  | _, _, _ => none
theorem wqkg (k : Nat) : (wqfx k).Ok Tryd.prog := (CTab.add_ok (fun h => wqh8 k h) CTab.nil_ok)
theorem wqfy (k : Nat) {ps : List PV} {hp : List (Nm × HObj)} {R : Type} {K : Out → Option R} {r : R} (h : wq69 k ps hp K = some r) : DoesTo Tryd.prog 101 ps hp fun out => K out = some r := by
  unfold wq69 at h
  split at h
  · rw [← wqkf] at h
    have := fn_ok (P := Tryd.prog) (cx := wq9w k) (f := 101) ⟨tyT_ok, wqkg k, fun _ _ => rfl⟩ (by kernel_rfl) (fn := Tryd.f101) (c := wq88) (by kernel_rfl) (by kernel_rfl) (by kernel_rfl) (rs := [.tmp 4]) (by kernel_rfl) (by kernel_rfl) h
    exact this.mono fun out ho => by
      unfold wq87 at ho
      split at ho <;> first | exact ho | cases ho
  · cases h
end Go.Proofs.YtpfbdepoammjmaaDoor.Pvm

set_option maxRecDepth 1000000
set_option maxHeartbeats 0
namespace Go.Proofs.YtpfbdepoammjmaaDoor.Pvm
open Go Go.Proofs
def wqs4 : List LS := [.any, .any]
noncomputable def wqo0 (k : Nat) : CTab := (CTab.add 101 wqd0 (wq69 k) CTab.nil)
def wqc1 {R : Type} (K : (Int → Option R)) : Out → Option R
  | .ret [.v (.int .i64) y0] [] => K y0
  | _ => none
def wqm0 : RetSpec := ⟨[.any], [], []⟩
def wqq4 : List (Nat × CutSpec) := []
def wqoh : List (Nat × Plan) := []
noncomputable def wqf1 (k : Nat) : Ctx := ⟨tyT, wqq4, wqo0 k, [], [], wqoh, @SH⟩
noncomputable def wqc2 : Code := Tryd.f102.body.getD .skip
noncomputable def wqh9 (k : Nat) {R : Type}  (x0 : (List UInt8)) (x1 : UInt8) (K : (Int → Option R)) : Option R := (@cond (@Option R) (@cond (@Kd.T Kd.bool) (@BEq.beq Int (@instBEqOfDecidableEq Int @Int.instDecidableEq) (@Nat.cast Int instNatCastInt (@List.length UInt8 (x1 :: []))) (0 : Int)) Bool.true (@BEq.beq (@List UInt8) (@List.instBEq UInt8 (@instBEqOfDecidableEq UInt8 @instDecidableEqUInt8)) (x1 :: []) x0)) (K (0 : Int)) (@wq5x k R x0 (@Nat.cast Int instNatCastInt (@UInt8.toNat (@List.getD UInt8 (x1 :: []) (@Int.toNat (0 : Int)) (0 : UInt8)))) (fun y5 => (K y5))))
theorem wqq5 (k : Nat) {R : Type} (I : Nat → St → Option R) (x0 : (List UInt8)) (x1 : UInt8) (K : (Int → Option R)) : fnK (wqf1 k) k wqc2 143 [.tmp 4] wqm0 [.v .str x0, .v .str [x1]] [] (wqc1 K) = wqh9 k  x0 x1 K := by kernel_rfl
noncomputable def wqd1 (k : Nat) {R : Type} (x0 : (List UInt8)) (x1 : UInt8) (K : (Int → Option R)) : Option R := wqh9 k  x0 x1 K
theorem wqq6 (k : Nat) {R : Type} (x0 : (List UInt8)) (x1 : UInt8) (K : (Int → Option R)) : fnK (wqf1 k) k wqc2 143 [.tmp 4] wqm0 [.v .str x0, .v .str [x1]] [] (wqc1 K) = wqd1 k x0 x1 K := by
  exact wqq5 k (fun _ _ => none) x0 x1 K
noncomputable def wqdi (k : Nat) {R : Type} : List PV → List (Nm × HObj) → (Out → Option R) → Option R
  | [.v .str x0, .v .str [x1]], [], K => wqd1 k x0 x1 (fun y0 => K (.ret [.v (.int .i64) y0] []))
  | _, _, _ => none
theorem wqq7 (k : Nat) : (wqo0 k).Ok Tryd.prog := (CTab.add_ok (fun h => wqfy k h) CTab.nil_ok)
theorem wqvs (k : Nat) {ps : List PV} {hp : List (Nm × HObj)} {R : Type} {K : Out → Option R} {r : R} (h : wqdi k ps hp K = some r) : DoesTo Tryd.prog 102 ps hp fun out => K out = some r := by
  unfold wqdi at h
  split at h
  · rw [← wqq6] at h
    have := fn_ok (P := Tryd.prog) (cx := wqf1 k) (f := 102) ⟨tyT_ok, wqq7 k, fun _ _ => rfl⟩ (by kernel_rfl) (fn := Tryd.f102) (c := wqc2) (by kernel_rfl) (by kernel_rfl) (by kernel_rfl) (rs := [.tmp 4]) (by kernel_rfl) (by kernel_rfl) h
    exact this.mono fun out ho => by
      unfold wqc1 at ho
      split at ho <;> first | exact ho | cases ho
  · cases h
end Go.Proofs.YtpfbdepoammjmaaDoor.Pvm

set_option maxRecDepth 1000000
set_option maxHeartbeats 0
namespace Go.Proofs.YtpfbdepoammjmaaDoor.Pvm
open Go Go.Proofs
def wqvt : List LS := [.any, .any]
noncomputable def wqtb (k : Nat) : CTab := (CTab.add 102 wqs4 (wqdi k) CTab.nil)
def wqf2 {R : Type} (K : ((List UInt8) → (List UInt8) → Bool → Option R)) : Out → Option R
  | .ret [.v .str y0, .v .str y1, .v .bool y2] [] => K y0 y1 y2
  | _ => none
def wqq8 : RetSpec := ⟨[.any, .any, .any], [], []⟩
def wqub : List (Nat × CutSpec) := []
def wqs5 : List (Nat × Plan) := [(3, (.of [(0, 1), (1, 1), (2, 1), (3, 1), (4, 1), (5, 1), (6, 1), (7, 1), (8, 1), (9, 1), (10, 1), (11, 1)] .done))]
noncomputable def wqkh (k : Nat) : Ctx := ⟨tyT, wqub, wqtb k, [], [], wqs5, @SH⟩
noncomputable def wqf3 : Code := Tryd.f97.body.getD .skip
noncomputable def wqn3 (k : Nat) {R : Type}  (x0 : (List UInt8)) (x1 : UInt8) (K : ((List UInt8) → (List UInt8) → Bool → Option R)) : Option R := (@wqd1 k R x0 x1 (fun y5 => (@cond (@Option R) (@Decidable.decide (@GE.ge Int Int.instLEInt y5 (0 : Int)) (@Int.decLe (0 : Int) y5)) (@cond (@Option R) (@bnd (0 : Int) y5 (@Nat.cast Int instNatCastInt (@List.length UInt8 x0))) (@cond (@Option R) (@bnd (@Go.IntKind.wrap Go.IntKind.i64 (@HAdd.hAdd Int Int Int (@instHAdd Int @Int.instAdd) y5 (@Nat.cast Int instNatCastInt (@List.length UInt8 (x1 :: []))))) (@Nat.cast Int instNatCastInt (@List.length UInt8 x0)) (@Nat.cast Int instNatCastInt (@List.length UInt8 x0))) (K (@cut UInt8 x0 (0 : Int) y5) (@cut UInt8 x0 (@Go.IntKind.wrap Go.IntKind.i64 (@HAdd.hAdd Int Int Int (@instHAdd Int @Int.instAdd) y5 (@Nat.cast Int instNatCastInt (@List.length UInt8 (x1 :: []))))) (@Nat.cast Int instNatCastInt (@List.length UInt8 x0))) Bool.true) (@Option.none R)) (@Option.none R)) (K x0 [] Bool.false))))
theorem wquc (k : Nat) {R : Type} (I : Nat → St → Option R) (x0 : (List UInt8)) (x1 : UInt8) (K : ((List UInt8) → (List UInt8) → Bool → Option R)) : fnK (wqkh k) k wqf3 23 [.tmp 4, .tmp 5, .tmp 6] wqq8 [.v .str x0, .v .str [x1]] [] (wqf2 K) = wqn3 k  x0 x1 K := by kernel_rfl
noncomputable def wqif (k : Nat) {R : Type} (x0 : (List UInt8)) (x1 : UInt8) (K : ((List UInt8) → (List UInt8) → Bool → Option R)) : Option R := wqn3 k  x0 x1 K
theorem wqud (k : Nat) {R : Type} (x0 : (List UInt8)) (x1 : UInt8) (K : ((List UInt8) → (List UInt8) → Bool → Option R)) : fnK (wqkh k) k wqf3 23 [.tmp 4, .tmp 5, .tmp 6] wqq8 [.v .str x0, .v .str [x1]] [] (wqf2 K) = wqif k x0 x1 K := by
  exact wquc k (fun _ _ => none) x0 x1 K
noncomputable def wqha (k : Nat) {R : Type} : List PV → List (Nm × HObj) → (Out → Option R) → Option R
  | [.v .str x0, .v .str [x1]], [], K => wqif k x0 x1 (fun y0 y1 y2 => K (.ret [.v .str y0, .v .str y1, .v .bool y2] []))
  | _, _, _ => none
theorem wque (k : Nat) : (wqtb k).Ok Tryd.prog := (CTab.add_ok (fun h => wqvs k h) CTab.nil_ok)
theorem wqz4 (k : Nat) {ps : List PV} {hp : List (Nm × HObj)} {R : Type} {K : Out → Option R} {r : R} (h : wqha k ps hp K = some r) : DoesTo Tryd.prog 97 ps hp fun out => K out = some r := by
  unfold wqha at h
  split at h
  · rw [← wqud] at h
    have := fn_ok (P := Tryd.prog) (cx := wqkh k) (f := 97) ⟨tyT_ok, wque k, fun _ _ => rfl⟩ (by kernel_rfl) (fn := Tryd.f97) (c := wqf3) (by kernel_rfl) (by kernel_rfl) (by kernel_rfl) (rs := [.tmp 4, .tmp 5, .tmp 6]) (by kernel_rfl) (by kernel_rfl) h
    exact this.mono fun out ho => by
      unfold wqf2 at ho
      split at ho <;> first | exact ho | cases ho
  · cases h
end Go.Proofs.YtpfbdepoammjmaaDoor.Pvm

set_option maxRecDepth 1000000
set_option maxHeartbeats 0
namespace Go.Proofs.YtpfbdepoammjmaaDoor.Pvm
open Go Go.Proofs
def wqs6 : List LS := [.any, .any]
noncomputable def wqo1 (k : Nat) : CTab := (CTab.add 97 wqvt (wqha k) CTab.nil)
def wqc3 {R : Type} (K : ((List UInt8) → (List UInt8) → Bool → Option R)) : Out → Option R
  | .ret [.v .str y0, .v .str y1, .v .bool y2] [] => K y0 y1 y2
  | _ => none
def wqm1 : RetSpec := ⟨[.any, .any, .any], [], []⟩
def wqq9 : List (Nat × CutSpec) := []
def wqoi : List (Nat × Plan) := []
noncomputable def wqf4 (k : Nat) : Ctx := ⟨tyT, wqq9, wqo1 k, [], [], wqoi, @SH⟩
noncomputable def wqc4 : Code := Tryd.f85.body.getD .skip
noncomputable def wqhb (k : Nat) {R : Type}  (x0 : (List UInt8)) (x1 : UInt8) (K : ((List UInt8) → (List UInt8) → Bool → Option R)) : Option R := (@wqif k R x0 x1 (fun y5 y6 y7 => (K y5 y6 y7)))
theorem wqqa (k : Nat) {R : Type} (I : Nat → St → Option R) (x0 : (List UInt8)) (x1 : UInt8) (K : ((List UInt8) → (List UInt8) → Bool → Option R)) : fnK (wqf4 k) k wqc4 13 [.tmp 4, .tmp 5, .tmp 6] wqm1 [.v .str x0, .v .str [x1]] [] (wqc3 K) = wqhb k  x0 x1 K := by kernel_rfl
noncomputable def wqak (k : Nat) {R : Type} (x0 : (List UInt8)) (x1 : UInt8) (K : ((List UInt8) → (List UInt8) → Bool → Option R)) : Option R := wqhb k  x0 x1 K
theorem wqqb (k : Nat) {R : Type} (x0 : (List UInt8)) (x1 : UInt8) (K : ((List UInt8) → (List UInt8) → Bool → Option R)) : fnK (wqf4 k) k wqc4 13 [.tmp 4, .tmp 5, .tmp 6] wqm1 [.v .str x0, .v .str [x1]] [] (wqc3 K) = wqak k x0 x1 K := by
  exact wqqa k (fun _ _ => none) x0 x1 K
noncomputable def wqdj (k : Nat) {R : Type} : List PV → List (Nm × HObj) → (Out → Option R) → Option R
  | [.v .str x0, .v .str [x1]], [], K => wqak k x0 x1 (fun y0 y1 y2 => K (.ret [.v .str y0, .v .str y1, .v .bool y2] []))
  | _, _, _ => none
theorem wqqc (k : Nat) : (wqo1 k).Ok Tryd.prog := (CTab.add_ok (fun h => wqz4 k h) CTab.nil_ok)
theorem wqvu (k : Nat) {ps : List PV} {hp : List (Nm × HObj)} {R : Type} {K : Out → Option R} {r : R} (h : wqdj k ps hp K = some r) : DoesTo Tryd.prog 85 ps hp fun out => K out = some r := by
  unfold wqdj at h
  split at h
  · rw [← wqqb] at h
    have := fn_ok (P := Tryd.prog) (cx := wqf4 k) (f := 85) ⟨tyT_ok, wqqc k, fun _ _ => rfl⟩ (by kernel_rfl) (fn := Tryd.f85) (c := wqc4) (by kernel_rfl) (by kernel_rfl) (by kernel_rfl) (rs := [.tmp 4, .tmp 5, .tmp 6]) (by kernel_rfl) (by kernel_rfl) h
    exact this.mono fun out ho => by
      unfold wqc3 at ho
      split at ho <;> first | exact ho | cases ho
  · cases h
end Go.Proofs.YtpfbdepoammjmaaDoor.Pvm

set_option maxRecDepth 1000000
set_option maxHeartbeats 0
namespace Go.Proofs.YtpfbdepoammjmaaDoor.Pvm
open Go Go.Proofs
def wqtc : List LS := [.any]
noncomputable def wqya (k : Nat) : CTab := (CTab.add 85 wqs6 (wqdj k) (CTab.add 86 wqvr (wqh7 k) CTab.nil))
def wqki {R : Type} (K : ((List UInt8) → Option R)) : Out → Option R
  | .ret [.v .str y0] [] => K y0
  | _ => none
def wqvv : RetSpec := ⟨[.any], [], []⟩
def wqwz : List (Nat × CutSpec) := []
def wqvw : List (Nat × Plan) := []
noncomputable def wqqd (k : Nat) : Ctx := ⟨tyT, wqwz, wqya k, [], [], wqvw, @SH⟩
noncomputable def wqkj : Code := Tryd.f72.body.getD .skip
noncomputable def wquf (k : Nat) {R : Type}  (x0 : (List UInt8)) (K : ((List UInt8) → Option R)) : Option R := (@wqak k R x0 (58 : UInt8) (fun y4 y5 y6 => (@cond (@Option R) (@BEq.beq (@Kd.T Kd.bool) (@instBEqOfDecidableEq (@Kd.T Kd.bool) @instDecidableEqBool) (@Bool.not y6) Bool.false) (@wqec k R y4 (fun y7 => (@cond (@Option R) (@Bool.or (@Bool.not (@Bool.and (@BEq.beq (@Kd.T Kd.bool) (@instBEqOfDecidableEq (@Kd.T Kd.bool) @instDecidableEqBool) (@Bool.not y7) Bool.false) (@BEq.beq (@Kd.T Kd.bool) (@instBEqOfDecidableEq (@Kd.T Kd.bool) @instDecidableEqBool) (@Bool.not (@BEq.beq (@List UInt8) (@List.instBEq UInt8 (@instBEqOfDecidableEq UInt8 @instDecidableEqUInt8)) y5 [])) Bool.true))) (@inb (0 : Int) (@Nat.cast Int instNatCastInt (@List.length UInt8 y5)))) (@cond (@Option R) (@cond (@Kd.T Kd.bool) (@Bool.not y7) Bool.true (@cond (@Kd.T Kd.bool) (@Bool.not (@BEq.beq (@List UInt8) (@List.instBEq UInt8 (@instBEqOfDecidableEq UInt8 @instDecidableEqUInt8)) y5 [])) (@bne Int (@instBEqOfDecidableEq Int @Int.instDecidableEq) (@Nat.cast Int instNatCastInt (@UInt8.toNat (@List.getD UInt8 y5 (@Int.toNat (0 : Int)) (0 : UInt8)))) (32 : Int)) Bool.false)) (K []) (K y4)) (@Option.none R)))) (K []))))
theorem wqx0 (k : Nat) {R : Type} (I : Nat → St → Option R) (x0 : (List UInt8)) (K : ((List UInt8) → Option R)) : fnK (wqqd k) k wqkj 29 [.tmp 2] wqvv [.v .str x0] [] (wqki K) = wquf k  x0 K := by kernel_rfl
noncomputable def wqf5 (k : Nat) {R : Type} (x0 : (List UInt8)) (K : ((List UInt8) → Option R)) : Option R := wquf k  x0 K
theorem wqx1 (k : Nat) {R : Type} (x0 : (List UInt8)) (K : ((List UInt8) → Option R)) : fnK (wqqd k) k wqkj 29 [.tmp 2] wqvv [.v .str x0] [] (wqki K) = wqf5 k x0 K := by
  exact wqx0 k (fun _ _ => none) x0 K
noncomputable def wqig (k : Nat) {R : Type} : List PV → List (Nm × HObj) → (Out → Option R) → Option R
  | [.v .str x0], [], K => wqf5 k x0 (fun y0 => K (.ret [.v .str y0] []))
  | _, _, _ => none
theorem wqx2 (k : Nat) : (wqya k).Ok Tryd.prog := (CTab.add_ok (fun h => wqvu k h) (CTab.add_ok (fun h => wqz3 k h) CTab.nil_ok))
theorem wqyb (k : Nat) {ps : List PV} {hp : List (Nm × HObj)} {R : Type} {K : Out → Option R} {r : R} (h : wqig k ps hp K = some r) : DoesTo Tryd.prog 72 ps hp fun out => K out = some r := by
  unfold wqig at h
  split at h
  · rw [← wqx1] at h
    have := fn_ok (P := Tryd.prog) (cx := wqqd k) (f := 72) ⟨tyT_ok, wqx2 k, fun _ _ => rfl⟩ (by kernel_rfl) (fn := Tryd.f72) (c := wqkj) (by kernel_rfl) (by kernel_rfl) (by kernel_rfl) (rs := [.tmp 2]) (by kernel_rfl) (by kernel_rfl) h
    exact this.mono fun out ho => by
      unfold wqki at ho
      split at ho <;> first | exact ho | cases ho
  · cases h
end Go.Proofs.YtpfbdepoammjmaaDoor.Pvm

set_option maxRecDepth 1000000
set_option maxHeartbeats 0
namespace Go.Proofs.YtpfbdepoammjmaaDoor.Pvm
open Go Go.Proofs
def wq58 : List LS := [.obj 1 [.any, .any, .any, .any, .own 21 25 (.pr (.int .i64) (.pr (.int .i64) (.pr (.int .i64) (.pr .str .bool))))], .any]
noncomputable def wqfz (k : Nat) : CTab := CTab.nil
def wq89 {R : Type} (K : (Int → Int → (List UInt8) → Int → (List (Int × (Int × (Int × ((List UInt8) × Bool))))) → Option R)) (E : (Int → Int → (List UInt8) → Int → (List (Int × (Int × (Int × ((List UInt8) × Bool))))) → Int → Int → Option R)) : Out → Option R
  | .ret [] [(21, .row 25 (.pr (.int .i64) (.pr (.int .i64) (.pr (.int .i64) (.pr .str .bool)))) y4), (1, .var 111 [.v (.int .i64) y0, .v (.int .i64) y1, .v .str y2, .v (.int .i64) y3, .row 21])] => K y0 y1 y2 y3 y4
  | .pan (.ifc 30 (.agg [.v (.int .i64) z5, .v (.int .i64) z6])) [(21, .row 25 (.pr (.int .i64) (.pr (.int .i64) (.pr (.int .i64) (.pr .str .bool)))) z4), (1, .var 111 [.v (.int .i64) z0, .v (.int .i64) z1, .v .str z2, .v (.int .i64) z3, .row 21])] => E z0 z1 z2 z3 z4 z5 z6
  | _ => none
def wqeg : RetSpec := ⟨[], [(1, .obj 1 [.any, .any, .any, .any, .own 21 25 (.pr (.int .i64) (.pr (.int .i64) (.pr (.int .i64) (.pr .str .bool))))])], [(1, .obj 1 [.any, .any, .any, .any, .own 21 25 (.pr (.int .i64) (.pr (.int .i64) (.pr (.int .i64) (.pr .str .bool))))])]⟩
def wqkk : List (Nat × CutSpec) := []
def wqiz : List (Nat × Plan) := []
noncomputable def wq9x (k : Nat) : Ctx := ⟨tyT, wqkk, wqfz k, [], [1], wqiz, @SH⟩
noncomputable def wq8a : Code := Tryd.f68.body.getD .skip
noncomputable def wqg0 (k : Nat) {R : Type}  (x0 x1 : Int) (x2 : (List UInt8)) (x3 : Int) (x4 : (List (Int × (Int × (Int × ((List UInt8) × Bool)))))) (x5 : Int) (K : (Int → Int → (List UInt8) → Int → (List (Int × (Int × (Int × ((List UInt8) × Bool))))) → Option R)) (E : (Int → Int → (List UInt8) → Int → (List (Int × (Int × (Int × ((List UInt8) × Bool))))) → Int → Int → Option R)) : Option R := (E x0 x1 x2 x3 x4 x5 x0)
theorem wqkl (k : Nat) {R : Type} (I : Nat → St → Option R) (x0 x1 : Int) (x2 : (List UInt8)) (x3 : Int) (x4 : (List (Int × (Int × (Int × ((List UInt8) × Bool)))))) (x5 : Int) (K : (Int → Int → (List UInt8) → Int → (List (Int × (Int × (Int × ((List UInt8) × Bool))))) → Option R)) (E : (Int → Int → (List UInt8) → Int → (List (Int × (Int × (Int × ((List UInt8) × Bool))))) → Int → Int → Option R)) : fnK (wq9x k) k wq8a 12 [] wqeg [.ptr 1 0, .v (.int .i64) x5] [(21, .row 25 (.pr (.int .i64) (.pr (.int .i64) (.pr (.int .i64) (.pr .str .bool)))) x4), (1, .var 111 [.v (.int .i64) x0, .v (.int .i64) x1, .v .str x2, .v (.int .i64) x3, .row 21])] (wq89 K E) = wqg0 k  x0 x1 x2 x3 x4 x5 K E := by kernel_rfl
noncomputable def wq7 (k : Nat) {R : Type} (x0 x1 : Int) (x2 : (List UInt8)) (x3 : Int) (x4 : (List (Int × (Int × (Int × ((List UInt8) × Bool)))))) (x5 : Int) (K : (Int → Int → (List UInt8) → Int → (List (Int × (Int × (Int × ((List UInt8) × Bool))))) → Option R)) (E : (Int → Int → (List UInt8) → Int → (List (Int × (Int × (Int × ((List UInt8) × Bool))))) → Int → Int → Option R)) : Option R := wqg0 k  x0 x1 x2 x3 x4 x5 K E
theorem wqkm (k : Nat) {R : Type} (x0 x1 : Int) (x2 : (List UInt8)) (x3 : Int) (x4 : (List (Int × (Int × (Int × ((List UInt8) × Bool)))))) (x5 : Int) (K : (Int → Int → (List UInt8) → Int → (List (Int × (Int × (Int × ((List UInt8) × Bool))))) → Option R)) (E : (Int → Int → (List UInt8) → Int → (List (Int × (Int × (Int × ((List UInt8) × Bool))))) → Int → Int → Option R)) : fnK (wq9x k) k wq8a 12 [] wqeg [.ptr 1 0, .v (.int .i64) x5] [(21, .row 25 (.pr (.int .i64) (.pr (.int .i64) (.pr (.int .i64) (.pr .str .bool)))) x4), (1, .var 111 [.v (.int .i64) x0, .v (.int .i64) x1, .v .str x2, .v (.int .i64) x3, .row 21])] (wq89 K E) = wq7 k x0 x1 x2 x3 x4 x5 K E := by
  exact wqkl k (fun _ _ => none) x0 x1 x2 x3 x4 x5 K E
noncomputable def wq3g (k : Nat) {R : Type} : List PV → List (Nm × HObj) → (Out → Option R) → Option R
  | [.ptr 1 0, .v (.int .i64) x5], [(21, .row 25 (.pr (.int .i64) (.pr (.int .i64) (.pr (.int .i64) (.pr .str .bool)))) x4), (1, .var 111 [.v (.int .i64) x0, .v (.int .i64) x1, .v .str x2, .v (.int .i64) x3, .row 21])], K => wq7 k x0 x1 x2 x3 x4 x5 (fun y0 y1 y2 y3 y4 => K (.ret [] [(21, .row 25 (.pr (.int .i64) (.pr (.int .i64) (.pr (.int .i64) (.pr .str .bool)))) y4), (1, .var 111 [.v (.int .i64) y0, .v (.int .i64) y1, .v .str y2, .v (.int .i64) y3, .row 21])])) (fun z0 z1 z2 z3 z4 z5 z6 => K (.pan (.ifc 30 (.agg [.v (.int .i64) z5, .v (.int .i64) z6])) [(21, .row 25 (.pr (.int .i64) (.pr (.int .i64) (.pr (.int .i64) (.pr .str .bool)))) z4), (1, .var 111 [.v (.int .i64) z0, .v (.int .i64) z1, .v .str z2, .v (.int .i64) z3, .row 21])]))
  | _, _, _ => none
theorem wqkn (k : Nat) : (wqfz k).Ok Tryd.prog := CTab.nil_ok
theorem wq5y (k : Nat) {ps : List PV} {hp : List (Nm × HObj)} {R : Type} {K : Out → Option R} {r : R} (h : wq3g k ps hp K = some r) : DoesTo Tryd.prog 68 ps hp fun out => K out = some r := by
  unfold wq3g at h
  split at h
  · rw [← wqkm] at h
    have := fn_ok (P := Tryd.prog) (cx := wq9x k) (f := 68) ⟨tyT_ok, wqkn k, fun _ _ => rfl⟩ (by kernel_rfl) (fn := Tryd.f68) (c := wq8a) (by kernel_rfl) (by kernel_rfl) (by kernel_rfl) (rs := []) (by kernel_rfl) (by kernel_rfl) h
    exact this.mono fun out ho => by
      unfold wq89 at ho
      split at ho <;> first | exact ho | cases ho
  · cases h
end Go.Proofs.YtpfbdepoammjmaaDoor.Pvm

set_option maxRecDepth 1000000
set_option maxHeartbeats 0
namespace Go.Proofs.YtpfbdepoammjmaaDoor.Pvm
open Go Go.Proofs
def wqd2 : List LS := [.obj 1 [.any, .any, .any, .any, .own 21 25 (.pr (.int .i64) (.pr (.int .i64) (.pr (.int .i64) (.pr .str .bool))))], .any, .any, .any, .any]
noncomputable def wqg1 (k : Nat) : CTab := CTab.nil
def wq8b {R : Type} (K : (Int → Int → (List UInt8) → Int → (List (Int × (Int × (Int × ((List UInt8) × Bool))))) → Option R)) : Out → Option R
  | .ret [] [(21, .row 25 (.pr (.int .i64) (.pr (.int .i64) (.pr (.int .i64) (.pr .str .bool)))) y4), (1, .var 111 [.v (.int .i64) y0, .v (.int .i64) y1, .v .str y2, .v (.int .i64) y3, .row 21])] => K y0 y1 y2 y3 y4
  | _ => none
def wqeh : RetSpec := ⟨[], [(1, .obj 1 [.any, .any, .any, .any, .own 21 25 (.pr (.int .i64) (.pr (.int .i64) (.pr (.int .i64) (.pr .str .bool))))])], []⟩
def wqko : List (Nat × CutSpec) := []
def wqj0 : List (Nat × Plan) := [(0, (.of [(0, 1), (1, 1), (2, 1), (3, 1), (5, 1), (6, 1), (7, 1), (8, 1), (9, 1), (11, 1), (12, 1), (13, 1), (14, 1), (16, 1), (17, 1), (18, 1), (21, 1), (22, 1), (4, 1), (10, 1), (15, 1), (19, 1), (20, 1), (23, 1), (24, 0), (25, 0), (26, 1), (27, 1), (28, 0)] .done))]
noncomputable def wq9y (k : Nat) : Ctx := ⟨tyT, wqko, wqg1 k, [], [1], wqj0, @SH⟩
noncomputable def wq8c : Code := Tryd.f71.body.getD .skip
noncomputable def wqb3 (k : Nat) {R : Type}  (x0 x1 : Int) (x2 : (List UInt8)) (x3 : Int) (x4 : (List (Int × (Int × (Int × ((List UInt8) × Bool)))))) (x5 : Int) (x6 : (List UInt8)) (x7 : Bool) (x8 : Int) (K : (Int → Int → (List UInt8) → Int → (List (Int × (Int × (Int × ((List UInt8) × Bool))))) → Option R)) : Option R := (@cond (@Option R) (@fits (@List.length (@Kd.T (@Kd.pr kI (@Kd.pr kI (@Kd.pr kI (@Kd.pr Kd.str Kd.bool))))) x4) (@List.length (@Kd.T (@Kd.pr kI (@Kd.pr kI (@Kd.pr kI (@Kd.pr Kd.str Kd.bool))))) ((x5, (x0, ((@Go.IntKind.wrap Go.IntKind.i64 (@HAdd.hAdd Int Int Int (@instHAdd Int @Int.instAdd) x1 x3)), (x6, x7)))) :: [])) (48 : Nat)) (K x0 x1 x2 (@Go.IntKind.wrap Go.IntKind.i64 (@HAdd.hAdd Int Int Int (@instHAdd Int @Int.instAdd) x3 x8)) (@HAppend.hAppend (@Kd.T (@Kd.sl (@Kd.pr kI (@Kd.pr kI (@Kd.pr kI (@Kd.pr Kd.str Kd.bool)))))) (@List (@Kd.T (@Kd.pr kI (@Kd.pr kI (@Kd.pr kI (@Kd.pr Kd.str Kd.bool)))))) (@Kd.T (@Kd.sl (@Kd.pr kI (@Kd.pr kI (@Kd.pr kI (@Kd.pr Kd.str Kd.bool)))))) (@instHAppendOfAppend (@Kd.T (@Kd.sl (@Kd.pr kI (@Kd.pr kI (@Kd.pr kI (@Kd.pr Kd.str Kd.bool)))))) (@List.instAppend (@Kd.T (@Kd.pr kI (@Kd.pr kI (@Kd.pr kI (@Kd.pr Kd.str Kd.bool))))))) x4 ((x5, (x0, ((@Go.IntKind.wrap Go.IntKind.i64 (@HAdd.hAdd Int Int Int (@instHAdd Int @Int.instAdd) x1 x3)), (x6, x7)))) :: []))) (@Option.none R))
theorem wqkp (k : Nat) {R : Type} (I : Nat → St → Option R) (x0 x1 : Int) (x2 : (List UInt8)) (x3 : Int) (x4 : (List (Int × (Int × (Int × ((List UInt8) × Bool)))))) (x5 : Int) (x6 : (List UInt8)) (x7 : Bool) (x8 : Int) (K : (Int → Int → (List UInt8) → Int → (List (Int × (Int × (Int × ((List UInt8) × Bool))))) → Option R)) : fnK (wq9y k) k wq8c 46 [] wqeh [.ptr 1 0, .v (.int .i64) x5, .v .str x6, .v .bool x7, .v (.int .i64) x8] [(21, .row 25 (.pr (.int .i64) (.pr (.int .i64) (.pr (.int .i64) (.pr .str .bool)))) x4), (1, .var 111 [.v (.int .i64) x0, .v (.int .i64) x1, .v .str x2, .v (.int .i64) x3, .row 21])] (wq8b K) = wqb3 k  x0 x1 x2 x3 x4 x5 x6 x7 x8 K := by kernel_rfl
noncomputable def wqe (k : Nat) {R : Type} (x0 x1 : Int) (x2 : (List UInt8)) (x3 : Int) (x4 : (List (Int × (Int × (Int × ((List UInt8) × Bool)))))) (x5 : Int) (x6 : (List UInt8)) (x7 : Bool) (x8 : Int) (K : (Int → Int → (List UInt8) → Int → (List (Int × (Int × (Int × ((List UInt8) × Bool))))) → Option R)) : Option R := wqb3 k  x0 x1 x2 x3 x4 x5 x6 x7 x8 K
theorem wqkq (k : Nat) {R : Type} (x0 x1 : Int) (x2 : (List UInt8)) (x3 : Int) (x4 : (List (Int × (Int × (Int × ((List UInt8) × Bool)))))) (x5 : Int) (x6 : (List UInt8)) (x7 : Bool) (x8 : Int) (K : (Int → Int → (List UInt8) → Int → (List (Int × (Int × (Int × ((List UInt8) × Bool))))) → Option R)) : fnK (wq9y k) k wq8c 46 [] wqeh [.ptr 1 0, .v (.int .i64) x5, .v .str x6, .v .bool x7, .v (.int .i64) x8] [(21, .row 25 (.pr (.int .i64) (.pr (.int .i64) (.pr (.int .i64) (.pr .str .bool)))) x4), (1, .var 111 [.v (.int .i64) x0, .v (.int .i64) x1, .v .str x2, .v (.int .i64) x3, .row 21])] (wq8b K) = wqe k x0 x1 x2 x3 x4 x5 x6 x7 x8 K := by
  exact wqkp k (fun _ _ => none) x0 x1 x2 x3 x4 x5 x6 x7 x8 K
noncomputable def wq6a (k : Nat) {R : Type} : List PV → List (Nm × HObj) → (Out → Option R) → Option R
  | [.ptr 1 0, .v (.int .i64) x5, .v .str x6, .v .bool x7, .v (.int .i64) x8], [(21, .row 25 (.pr (.int .i64) (.pr (.int .i64) (.pr (.int .i64) (.pr .str .bool)))) x4), (1, .var 111 [.v (.int .i64) x0, .v (.int .i64) x1, .v .str x2, .v (.int .i64) x3, .row 21])], K => wqe k x0 x1 x2 x3 x4 x5 x6 x7 x8 (fun y0 y1 y2 y3 y4 => K (.ret [] [(21, .row 25 (.pr (.int .i64) (.pr (.int .i64) (.pr (.int .i64) (.pr .str .bool)))) y4), (1, .var 111 [.v (.int .i64) y0, .v (.int .i64) y1, .v .str y2, .v (.int .i64) y3, .row 21])]))
  | _, _, _ => none
theorem wqkr (k : Nat) : (wqg1 k).Ok Tryd.prog := CTab.nil_ok
theorem wqg2 (k : Nat) {ps : List PV} {hp : List (Nm × HObj)} {R : Type} {K : Out → Option R} {r : R} (h : wq6a k ps hp K = some r) : DoesTo Tryd.prog 71 ps hp fun out => K out = some r := by
  unfold wq6a at h
  split at h
  · rw [← wqkq] at h
    have := fn_ok (P := Tryd.prog) (cx := wq9y k) (f := 71) ⟨tyT_ok, wqkr k, fun _ _ => rfl⟩ (by kernel_rfl) (fn := Tryd.f71) (c := wq8c) (by kernel_rfl) (by kernel_rfl) (by kernel_rfl) (rs := []) (by kernel_rfl) (by kernel_rfl) h
    exact this.mono fun out ho => by
      unfold wq8b at ho
      split at ho <;> first | exact ho | cases ho
  · cases h
end Go.Proofs.YtpfbdepoammjmaaDoor.Pvm

set_option maxRecDepth 1000000
set_option maxHeartbeats 0
namespace Go.Proofs.YtpfbdepoammjmaaDoor.Pvm
open Go Go.Proofs
abbrev wq3n (R : Type) : Type := (Int → Int → (List UInt8) → Int → (List (Int × (Int × (Int × ((List UInt8) × Bool))))) → (List UInt8) → Option R)
def wqn4 : List LS := [.obj 1 [.any, .any, .any, .any, .own 21 25 (.pr (.int .i64) (.pr (.int .i64) (.pr (.int .i64) (.pr .str .bool))))]]
noncomputable def wqhc (k : Nat) : CTab := CTab.nil
def wq2r {R : Type} (K : wq3n R) : Out → Option R
  | .ret [.v .str y5] [(21, .row 25 (.pr (.int .i64) (.pr (.int .i64) (.pr (.int .i64) (.pr .str .bool)))) y4), (1, .var 111 [.v (.int .i64) y0, .v (.int .i64) y1, .v .str y2, .v (.int .i64) y3, .row 21])] => K y0 y1 y2 y3 y4 y5
  | _ => none
def wq4b : RetSpec := ⟨[.any], [(1, .obj 1 [.any, .any, .any, .any, .own 21 25 (.pr (.int .i64) (.pr (.int .i64) (.pr (.int .i64) (.pr .str .bool))))])], []⟩
def wqm2 : List (Nat × CutSpec) := [(1001, ⟨[(0, .obj 1 [.any, .any, .any, .any, .own 21 25 (.pr (.int .i64) (.pr (.int .i64) (.pr (.int .i64) (.pr .str .bool))))])], [(1, .obj 1 [.any, .any, .any, .any, .own 21 25 (.pr (.int .i64) (.pr (.int .i64) (.pr (.int .i64) (.pr .str .bool))))])]⟩)]
def wqks : List (Nat × Plan) := [(1, (.of [(0, 1), (1, 1), (2, 1), (4, 1), (5, 1), (6, 1), (7, 1), (3, 1), (8, 1), (9, 1), (10, 1), (11, 1), (12, 1), (13, 1), (14, 1), (15, 1), (17, 1), (18, 1), (19, 1), (16, 1), (20, 1), (21, 1), (22, 1), (23, 1)] .done)), (3, (.of [(0, 1), (1, 1), (2, 1), (3, 1), (5, 1), (6, 1), (7, 1), (4, 1), (8, 1), (9, 1), (10, 1)] .done))]
noncomputable def wqp (k : Nat) : Ctx := ⟨tyT, wqm2, wqhc k, [], [1], wqks, @SH⟩
noncomputable def wq1h : Code := Tryd.f69.body.getD .skip
def wq34 (s0 s1 : Int) (s2 : (List UInt8)) (s3 : Int) (s4 : (List (Int × (Int × (Int × ((List UInt8) × Bool)))))) : St := ⟨mkT [(0, .ptr 1 0)], mkH [(21, .row 25 (.pr (.int .i64) (.pr (.int .i64) (.pr (.int .i64) (.pr .str .bool)))) s4), (1, .var 111 [.v (.int .i64) s0, .v (.int .i64) s1, .v .str s2, .v (.int .i64) s3, .row 21])]⟩
noncomputable def wq4f (k : Nat) {R : Type} (E1001 : (Int → Int → (List UInt8) → Int → (List (Int × (Int × (Int × ((List UInt8) × Bool))))) → Option R)) (s0 s1 : Int) (s2 : (List UInt8)) (s3 : Int) (s4 : (List (Int × (Int × (Int × ((List UInt8) × Bool)))))) (K : wq3n R) : Option R := (@cond (@Option R) (@Bool.or (@Bool.not (@BEq.beq (@Kd.T Kd.bool) (@instBEqOfDecidableEq (@Kd.T Kd.bool) @instDecidableEqBool) (@Decidable.decide (@LT.lt Int Int.instLTInt s3 (@Nat.cast Int instNatCastInt (@List.length UInt8 s2))) (@Int.decLt s3 (@Nat.cast Int instNatCastInt (@List.length UInt8 s2)))) Bool.true)) (@inb s3 (@Nat.cast Int instNatCastInt (@List.length UInt8 s2)))) (@cond (@Option R) (@cond (@Kd.T Kd.bool) (@Decidable.decide (@LT.lt Int Int.instLTInt s3 (@Nat.cast Int instNatCastInt (@List.length UInt8 s2))) (@Int.decLt s3 (@Nat.cast Int instNatCastInt (@List.length UInt8 s2)))) (@BEq.beq Int (@instBEqOfDecidableEq Int @Int.instDecidableEq) (@Nat.cast Int instNatCastInt (@UInt8.toNat (@List.getD UInt8 s2 (@Int.toNat s3) (0 : UInt8)))) (32 : Int)) Bool.false) (E1001 s0 s1 s2 (@Go.IntKind.wrap Go.IntKind.i64 (@HAdd.hAdd Int Int Int (@instHAdd Int @Int.instAdd) s3 (1 : Int))) s4) (@cond (@Option R) (@bnd s3 (@Nat.cast Int instNatCastInt (@List.length UInt8 s2)) (@Nat.cast Int instNatCastInt (@List.length UInt8 s2))) (K s0 s1 s2 s3 s4 (@cut UInt8 s2 s3 (@Nat.cast Int instNatCastInt (@List.length UInt8 s2)))) (@Option.none R))) (@Option.none R))
theorem wqf6 (k : Nat) {R : Type} (I : Nat → St → Option R) (s0 s1 : Int) (s2 : (List UInt8)) (s3 : Int) (s4 : (List (Int × (Int × (Int × ((List UInt8) × Bool)))))) (K : wq3n R) : execK (wqp k) k (at_ [1, 0, 0, 0] wq1h) (wq34 s0 s1 s2 s3 s4) (konts (wqp k) k I [1, 0, 0, 0] wq1h (outK (wqp k) wq4b [.tmp 2] (wq2r K))) = wq4f k (fun s0 s1 s2 s3 s4 => I 1001 (wq34 s0 s1 s2 s3 s4)) s0 s1 s2 s3 s4 K := by kernel_rfl
noncomputable def wq94 (k : Nat) {R : Type} (E1001 : (Int → Int → (List UInt8) → Int → (List (Int × (Int × (Int × ((List UInt8) × Bool))))) → Option R)) (x0 x1 : Int) (x2 : (List UInt8)) (x3 : Int) (x4 : (List (Int × (Int × (Int × ((List UInt8) × Bool)))))) (K : wq3n R) : Option R := (E1001 x0 x1 x2 x3 x4)
theorem wqm3 (k : Nat) {R : Type} (I : Nat → St → Option R) (x0 x1 : Int) (x2 : (List UInt8)) (x3 : Int) (x4 : (List (Int × (Int × (Int × ((List UInt8) × Bool)))))) (K : wq3n R) : fnK (wqp k) k wq1h 44 [.tmp 2] wq4b [.ptr 1 0] [(21, .row 25 (.pr (.int .i64) (.pr (.int .i64) (.pr (.int .i64) (.pr .str .bool)))) x4), (1, .var 111 [.v (.int .i64) x0, .v (.int .i64) x1, .v .str x2, .v (.int .i64) x3, .row 21])] (wq2r K) = wq94 k (fun s0 s1 s2 s3 s4 => iter (wqp k).pv (look (wqp k).cuts 1001) (execK (wqp k) k (at_ [1, 0, 0, 0] wq1h)) k (wq34 s0 s1 s2 s3 s4) (konts (wqp k) k I [1, 0, 0] wq1h (outK (wqp k) wq4b [.tmp 2] (wq2r K)))) x0 x1 x2 x3 x4 K := by kernel_rfl
noncomputable def wq1x (k : Nat) {R : Type}  : Nat → Int → Int → (List UInt8) → Int → (List (Int × (Int × (Int × ((List UInt8) × Bool))))) → (Int → Int → (List UInt8) → Int → (List (Int × (Int × (Int × ((List UInt8) × Bool))))) → (List UInt8) → Option R) → Option R
  | 0, _, _, _, _, _, _ => none
  | n + 1, s0, s1, s2, s3, s4, K => wq4f k (fun s0 s1 s2 s3 s4 => wq1x k  n s0 s1 s2 s3 s4 K) s0 s1 s2 s3 s4 K
theorem wqf7 (k : Nat) {R : Type} (I : Nat → St → Option R) (K : wq3n R) : ∀ (n : Nat) (s0 s1 : Int) (s2 : (List UInt8)) (s3 : Int) (s4 : (List (Int × (Int × (Int × ((List UInt8) × Bool)))))), iter (wqp k).pv (look (wqp k).cuts 1001) (execK (wqp k) k (at_ [1, 0, 0, 0] wq1h)) n (wq34 s0 s1 s2 s3 s4) (konts (wqp k) k I [1, 0, 0] wq1h (outK (wqp k) wq4b [.tmp 2] (wq2r K))) = wq1x k  n s0 s1 s2 s3 s4 K := by
  intro n
  induction n with
  | zero => intros; rfl
  | succ n ih =>
    intro s0 s1 s2 s3 s4
    let I' : Nat → St → Option R := fun id s => bif Nat.beq id 1001 then iter (wqp k).pv (look (wqp k).cuts 1001) (execK (wqp k) k (at_ [1, 0, 0, 0] wq1h)) n s (konts (wqp k) k I [1, 0, 0] wq1h (outK (wqp k) wq4b [.tmp 2] (wq2r K))) else I id s
    have e := wqf6 k I' s0 s1 s2 s3 s4 K
    have h1001 : (fun s0 s1 s2 s3 s4 => I' 1001 (wq34 s0 s1 s2 s3 s4)) = (fun s0 s1 s2 s3 s4 => wq1x k  n s0 s1 s2 s3 s4 K) := by funext s0 s1 s2 s3 s4; exact ih s0 s1 s2 s3 s4
    refine Eq.trans (?_ : _ = _) (e.trans (Eq.trans ((congrArg ((fun E1001 => wq4f k E1001 s0 s1 s2 s3 s4 K)) h1001)) (by rw [wq1x])))
    rfl
noncomputable def wq3h (k : Nat) {R : Type} (x0 x1 : Int) (x2 : (List UInt8)) (x3 : Int) (x4 : (List (Int × (Int × (Int × ((List UInt8) × Bool)))))) (K : wq3n R) : Option R := wq94 k (fun s0 s1 s2 s3 s4 => wq1x k k s0 s1 s2 s3 s4 K) x0 x1 x2 x3 x4 K
theorem wqm4 (k : Nat) {R : Type} (x0 x1 : Int) (x2 : (List UInt8)) (x3 : Int) (x4 : (List (Int × (Int × (Int × ((List UInt8) × Bool)))))) (K : wq3n R) : fnK (wqp k) k wq1h 44 [.tmp 2] wq4b [.ptr 1 0] [(21, .row 25 (.pr (.int .i64) (.pr (.int .i64) (.pr (.int .i64) (.pr .str .bool)))) x4), (1, .var 111 [.v (.int .i64) x0, .v (.int .i64) x1, .v .str x2, .v (.int .i64) x3, .row 21])] (wq2r K) = wq3h k x0 x1 x2 x3 x4 K := by
  let I : Nat → St → Option R := fun _ _ => none
  have h1001 : (fun s0 s1 s2 s3 s4 => iter (wqp k).pv (look (wqp k).cuts 1001) (execK (wqp k) k (at_ [1, 0, 0, 0] wq1h)) k (wq34 s0 s1 s2 s3 s4) (konts (wqp k) k I [1, 0, 0] wq1h (outK (wqp k) wq4b [.tmp 2] (wq2r K)))) = (fun s0 s1 s2 s3 s4 => wq1x k k s0 s1 s2 s3 s4 K) := by funext s0 s1 s2 s3 s4; exact wqf7 k I K k s0 s1 s2 s3 s4
  exact (wqm3 k I x0 x1 x2 x3 x4 K).trans (congrArg ((fun E1001 => wq94 k E1001 x0 x1 x2 x3 x4 K)) h1001)
noncomputable def wq9z (k : Nat) {R : Type} : List PV → List (Nm × HObj) → (Out → Option R) → Option R
  | [.ptr 1 0], [(21, .row 25 (.pr (.int .i64) (.pr (.int .i64) (.pr (.int .i64) (.pr .str .bool)))) x4), (1, .var 111 [.v (.int .i64) x0, .v (.int .i64) x1, .v .str x2, .v (.int .i64) x3, .row 21])], K => wq3h k x0 x1 x2 x3 x4 (fun y0 y1 y2 y3 y4 y5 => K (.ret [.v .str y5] [(21, .row 25 (.pr (.int .i64) (.pr (.int .i64) (.pr (.int .i64) (.pr .str .bool)))) y4), (1, .var 111 [.v (.int .i64) y0, .v (.int .i64) y1, .v .str y2, .v (.int .i64) y3, .row 21])]))
  | _, _, _ => none
theorem wqm5 (k : Nat) : (wqhc k).Ok Tryd.prog := CTab.nil_ok
theorem wqqe (k : Nat) {ps : List PV} {hp : List (Nm × HObj)} {R : Type} {K : Out → Option R} {r : R} (h : wq9z k ps hp K = some r) : DoesTo Tryd.prog 69 ps hp fun out => K out = some r := by
  unfold wq9z at h
  split at h
  · rw [← wqm4] at h
    have := fn_ok (P := Tryd.prog) (cx := wqp k) (f := 69) ⟨tyT_ok, wqm5 k, fun _ _ => rfl⟩ (by kernel_rfl) (fn := Tryd.f69) (c := wq1h) (by kernel_rfl) (by kernel_rfl) (by kernel_rfl) (rs := [.tmp 2]) (by kernel_rfl) (by kernel_rfl) h
    exact this.mono fun out ho => by
      unfold wq2r at ho
      split at ho <;> first | exact ho | cases ho
  · cases h
end Go.Proofs.YtpfbdepoammjmaaDoor.Pvm

set_option maxRecDepth 1000000
set_option maxHeartbeats 0
namespace Go.Proofs.YtpfbdepoammjmaaDoor.Pvm
open Go Go.Proofs
def wqbf : List LS := [.any, .any]
noncomputable def wqd3 (k : Nat) : CTab := (CTab.add 101 wqd0 (wq69 k) CTab.nil)
def wq6h {R : Type} (K : (Int → Option R)) : Out → Option R
  | .ret [.v (.int .i64) y0] [] => K y0
  | _ => none
def wqc5 : RetSpec := ⟨[.any], [], []⟩
def wqhd : List (Nat × CutSpec) := []
def wqg9 : List (Nat × Plan) := []
noncomputable def wq8d (k : Nat) : Ctx := ⟨tyT, wqhd, wqd3 k, [], [], wqg9, @SH⟩
noncomputable def wq6i : Code := Tryd.f89.body.getD .skip
noncomputable def wqd4 (k : Nat) {R : Type}  (x0 : (List UInt8)) (x1 : Int) (K : (Int → Option R)) : Option R := (@wq5x k R x0 x1 (fun y5 => (K y5)))
theorem wqhe (k : Nat) {R : Type} (I : Nat → St → Option R) (x0 : (List UInt8)) (x1 : Int) (K : (Int → Option R)) : fnK (wq8d k) k wq6i 8 [.tmp 4] wqc5 [.v .str x0, .v (.int .u8) x1] [] (wq6h K) = wqd4 k  x0 x1 K := by kernel_rfl
noncomputable def wq1q (k : Nat) {R : Type} (x0 : (List UInt8)) (x1 : Int) (K : (Int → Option R)) : Option R := wqd4 k  x0 x1 K
theorem wqhf (k : Nat) {R : Type} (x0 : (List UInt8)) (x1 : Int) (K : (Int → Option R)) : fnK (wq8d k) k wq6i 8 [.tmp 4] wqc5 [.v .str x0, .v (.int .u8) x1] [] (wq6h K) = wq1q k x0 x1 K := by
  exact wqhe k (fun _ _ => none) x0 x1 K
noncomputable def wq5c (k : Nat) {R : Type} : List PV → List (Nm × HObj) → (Out → Option R) → Option R
  | [.v .str x0, .v (.int .u8) x1], [], K => wq1q k x0 x1 (fun y0 => K (.ret [.v (.int .i64) y0] []))
  | _, _, _ => none
theorem wqhg (k : Nat) : (wqd3 k).Ok Tryd.prog := (CTab.add_ok (fun h => wqfy k h) CTab.nil_ok)
theorem wqd5 (k : Nat) {ps : List PV} {hp : List (Nm × HObj)} {R : Type} {K : Out → Option R} {r : R} (h : wq5c k ps hp K = some r) : DoesTo Tryd.prog 89 ps hp fun out => K out = some r := by
  unfold wq5c at h
  split at h
  · rw [← wqhf] at h
    have := fn_ok (P := Tryd.prog) (cx := wq8d k) (f := 89) ⟨tyT_ok, wqhg k, fun _ _ => rfl⟩ (by kernel_rfl) (fn := Tryd.f89) (c := wq6i) (by kernel_rfl) (by kernel_rfl) (by kernel_rfl) (rs := [.tmp 4]) (by kernel_rfl) (by kernel_rfl) h
    exact this.mono fun out ho => by
      unfold wq6h at ho
      split at ho <;> first | exact ho | cases ho
  · cases h
end Go.Proofs.YtpfbdepoammjmaaDoor.Pvm

set_option maxRecDepth 1000000
set_option maxHeartbeats 0
namespace Go.Proofs.YtpfbdepoammjmaaDoor.Pvm
open Go Go.Proofs
def wqm6 : List LS := [.obj 1 [.any, .any, .any, .any, .own 21 25 (.pr (.int .i64) (.pr (.int .i64) (.pr (.int .i64) (.pr .str .bool))))], .any]
noncomputable def wqg3 (k : Nat) : CTab := (CTab.add 68 wq58 (wq3g k) (CTab.add 89 wqbf (wq5c k) CTab.nil))
def wq8e {R : Type} (K : (Int → Int → (List UInt8) → Int → (List (Int × (Int × (Int × ((List UInt8) × Bool))))) → Int → Int → Option R)) (E : (Int → Int → (List UInt8) → Int → (List (Int × (Int × (Int × ((List UInt8) × Bool))))) → Int → Int → Option R)) : Out → Option R
  | .ret [.v (.int .u8) y5, .v (.int .i64) y6] [(21, .row 25 (.pr (.int .i64) (.pr (.int .i64) (.pr (.int .i64) (.pr .str .bool)))) y4), (1, .var 111 [.v (.int .i64) y0, .v (.int .i64) y1, .v .str y2, .v (.int .i64) y3, .row 21])] => K y0 y1 y2 y3 y4 y5 y6
  | .pan (.ifc 30 (.agg [.v (.int .i64) z5, .v (.int .i64) z6])) [(21, .row 25 (.pr (.int .i64) (.pr (.int .i64) (.pr (.int .i64) (.pr .str .bool)))) z4), (1, .var 111 [.v (.int .i64) z0, .v (.int .i64) z1, .v .str z2, .v (.int .i64) z3, .row 21])] => E z0 z1 z2 z3 z4 z5 z6
  | _ => none
def wqei : RetSpec := ⟨[.any, .any], [(1, .obj 1 [.any, .any, .any, .any, .own 21 25 (.pr (.int .i64) (.pr (.int .i64) (.pr (.int .i64) (.pr .str .bool))))])], [(1, .obj 1 [.any, .any, .any, .any, .own 21 25 (.pr (.int .i64) (.pr (.int .i64) (.pr (.int .i64) (.pr .str .bool))))])]⟩
def wqkt : List (Nat × CutSpec) := []
def wqj1 : List (Nat × Plan) := [(14, (.of [(0, 1), (1, 1), (3, 1), (4, 1), (2, 0), (5, 0), (6, 1), (7, 1)] .done))]
noncomputable def wqa0 (k : Nat) : Ctx := ⟨tyT, wqkt, wqg3 k, [], [1], wqj1, @SH⟩
noncomputable def wq8f : Code := Tryd.f100.body.getD .skip
noncomputable def wqb4 (k : Nat) {R : Type}  (x0 x1 : Int) (x2 : (List UInt8)) (x3 : Int) (x4 : (List (Int × (Int × (Int × ((List UInt8) × Bool)))))) (x5 : (List UInt8)) (K : (Int → Int → (List UInt8) → Int → (List (Int × (Int × (Int × ((List UInt8) × Bool))))) → Int → Int → Option R)) (E : (Int → Int → (List UInt8) → Int → (List (Int × (Int × (Int × ((List UInt8) × Bool))))) → Int → Int → Option R)) : Option R := (@cond (@Option R) (@BEq.beq (@List UInt8) (@List.instBEq UInt8 (@instBEqOfDecidableEq UInt8 @instDecidableEqUInt8)) x5 []) (@wq7 k R x0 x1 x2 x3 x4 (3 : Int) (fun y10 y11 y12 y13 y14 => (@cond (@Option R) (@inb (0 : Int) (@Nat.cast Int instNatCastInt (@List.length UInt8 x5))) (@cond (@Option R) (@BEq.beq Int (@instBEqOfDecidableEq Int @Int.instDecidableEq) (@Nat.cast Int instNatCastInt (@UInt8.toNat (@List.getD UInt8 x5 (@Int.toNat (0 : Int)) (0 : UInt8)))) (92 : Int)) (@cond (@Option R) (@inb (0 : Int) (@Nat.cast Int instNatCastInt (@List.length UInt8 x5))) (K y10 y11 y12 y13 y14 (@Nat.cast Int instNatCastInt (@UInt8.toNat (@List.getD UInt8 x5 (@Int.toNat (0 : Int)) (0 : UInt8)))) (1 : Int)) (@Option.none R)) (@cond (@Option R) (@BEq.beq Int (@instBEqOfDecidableEq Int @Int.instDecidableEq) (@Nat.cast Int instNatCastInt (@UInt8.toNat (@List.getD UInt8 x5 (@Int.toNat (0 : Int)) (0 : UInt8)))) (34 : Int)) (@cond (@Option R) (@inb (0 : Int) (@Nat.cast Int instNatCastInt (@List.length UInt8 x5))) (K y10 y11 y12 y13 y14 (@Nat.cast Int instNatCastInt (@UInt8.toNat (@List.getD UInt8 x5 (@Int.toNat (0 : Int)) (0 : UInt8)))) (1 : Int)) (@Option.none R)) (@cond (@Option R) (@BEq.beq Int (@instBEqOfDecidableEq Int @Int.instDecidableEq) (@Nat.cast Int instNatCastInt (@UInt8.toNat (@List.getD UInt8 x5 (@Int.toNat (0 : Int)) (0 : UInt8)))) (110 : Int)) (K y10 y11 y12 y13 y14 (10 : Int) (1 : Int)) (@cond (@Option R) (@BEq.beq Int (@instBEqOfDecidableEq Int @Int.instDecidableEq) (@Nat.cast Int instNatCastInt (@UInt8.toNat (@List.getD UInt8 x5 (@Int.toNat (0 : Int)) (0 : UInt8)))) (116 : Int)) (K y10 y11 y12 y13 y14 (9 : Int) (1 : Int)) (@cond (@Option R) (@BEq.beq Int (@instBEqOfDecidableEq Int @Int.instDecidableEq) (@Nat.cast Int instNatCastInt (@UInt8.toNat (@List.getD UInt8 x5 (@Int.toNat (0 : Int)) (0 : UInt8)))) (120 : Int)) (@cond (@Option R) (@Decidable.decide (@LT.lt Int Int.instLTInt (@Nat.cast Int instNatCastInt (@List.length UInt8 x5)) (3 : Int)) (@Int.decLt (@Nat.cast Int instNatCastInt (@List.length UInt8 x5)) (3 : Int))) (@wq7 k R y10 y11 y12 y13 y14 (3 : Int) (fun y15 y16 y17 y18 y19 => (@cond (@Option R) (@inb (1 : Int) (@Nat.cast Int instNatCastInt (@List.length UInt8 x5))) (@cond (@Option R) (@inb (2 : Int) (@Nat.cast Int instNatCastInt (@List.length UInt8 x5))) (@wq1q k R ((48 : UInt8) :: ((49 : UInt8) :: ((50 : UInt8) :: ((51 : UInt8) :: ((52 : UInt8) :: ((53 : UInt8) :: ((54 : UInt8) :: ((55 : UInt8) :: ((56 : UInt8) :: ((57 : UInt8) :: ((97 : UInt8) :: ((98 : UInt8) :: ((99 : UInt8) :: ((100 : UInt8) :: ((101 : UInt8) :: ((102 : UInt8) :: [])))))))))))))))) (@Nat.cast Int instNatCastInt (@UInt8.toNat (@List.getD UInt8 x5 (@Int.toNat (1 : Int)) (0 : UInt8)))) (fun y20 => (@wq1q k R ((48 : UInt8) :: ((49 : UInt8) :: ((50 : UInt8) :: ((51 : UInt8) :: ((52 : UInt8) :: ((53 : UInt8) :: ((54 : UInt8) :: ((55 : UInt8) :: ((56 : UInt8) :: ((57 : UInt8) :: ((97 : UInt8) :: ((98 : UInt8) :: ((99 : UInt8) :: ((100 : UInt8) :: ((101 : UInt8) :: ((102 : UInt8) :: [])))))))))))))))) (@Nat.cast Int instNatCastInt (@UInt8.toNat (@List.getD UInt8 x5 (@Int.toNat (2 : Int)) (0 : UInt8)))) (fun y21 => (@cond (@Option R) (@cond (@Kd.T Kd.bool) (@Decidable.decide (@LT.lt Int Int.instLTInt y20 (0 : Int)) (@Int.decLt y20 (0 : Int))) Bool.true (@Decidable.decide (@LT.lt Int Int.instLTInt y21 (0 : Int)) (@Int.decLt y21 (0 : Int)))) (@wq7 k R y15 y16 y17 y18 y19 (3 : Int) (fun y22 y23 y24 y25 y26 => (K y22 y23 y24 y25 y26 (@Go.IntKind.wrap Go.IntKind.u8 (@Go.IntKind.wrap Go.IntKind.i64 (@HAdd.hAdd Int Int Int (@instHAdd Int @Int.instAdd) (@Go.IntKind.wrap Go.IntKind.i64 (@HMul.hMul Int Int Int (@instHMul Int @Int.instMul) (16 : Int) y20)) y21))) (3 : Int))) (fun y22 y23 y24 y25 y26 y27 y28 => (E y22 y23 y24 y25 y26 y27 y28))) (K y15 y16 y17 y18 y19 (@Go.IntKind.wrap Go.IntKind.u8 (@Go.IntKind.wrap Go.IntKind.i64 (@HAdd.hAdd Int Int Int (@instHAdd Int @Int.instAdd) (@Go.IntKind.wrap Go.IntKind.i64 (@HMul.hMul Int Int Int (@instHMul Int @Int.instMul) (16 : Int) y20)) y21))) (3 : Int))))))) (@Option.none R)) (@Option.none R))) (fun y15 y16 y17 y18 y19 y20 y21 => (E y15 y16 y17 y18 y19 y20 y21))) (@cond (@Option R) (@inb (1 : Int) (@Nat.cast Int instNatCastInt (@List.length UInt8 x5))) (@cond (@Option R) (@inb (2 : Int) (@Nat.cast Int instNatCastInt (@List.length UInt8 x5))) (@wq1q k R ((48 : UInt8) :: ((49 : UInt8) :: ((50 : UInt8) :: ((51 : UInt8) :: ((52 : UInt8) :: ((53 : UInt8) :: ((54 : UInt8) :: ((55 : UInt8) :: ((56 : UInt8) :: ((57 : UInt8) :: ((97 : UInt8) :: ((98 : UInt8) :: ((99 : UInt8) :: ((100 : UInt8) :: ((101 : UInt8) :: ((102 : UInt8) :: [])))))))))))))))) (@Nat.cast Int instNatCastInt (@UInt8.toNat (@List.getD UInt8 x5 (@Int.toNat (1 : Int)) (0 : UInt8)))) (fun y15 => (@wq1q k R ((48 : UInt8) :: ((49 : UInt8) :: ((50 : UInt8) :: ((51 : UInt8) :: ((52 : UInt8) :: ((53 : UInt8) :: ((54 : UInt8) :: ((55 : UInt8) :: ((56 : UInt8) :: ((57 : UInt8) :: ((97 : UInt8) :: ((98 : UInt8) :: ((99 : UInt8) :: ((100 : UInt8) :: ((101 : UInt8) :: ((102 : UInt8) :: [])))))))))))))))) (@Nat.cast Int instNatCastInt (@UInt8.toNat (@List.getD UInt8 x5 (@Int.toNat (2 : Int)) (0 : UInt8)))) (fun y16 => (@cond (@Option R) (@cond (@Kd.T Kd.bool) (@Decidable.decide (@LT.lt Int Int.instLTInt y15 (0 : Int)) (@Int.decLt y15 (0 : Int))) Bool.true (@Decidable.decide (@LT.lt Int Int.instLTInt y16 (0 : Int)) (@Int.decLt y16 (0 : Int)))) (@wq7 k R y10 y11 y12 y13 y14 (3 : Int) (fun y17 y18 y19 y20 y21 => (K y17 y18 y19 y20 y21 (@Go.IntKind.wrap Go.IntKind.u8 (@Go.IntKind.wrap Go.IntKind.i64 (@HAdd.hAdd Int Int Int (@instHAdd Int @Int.instAdd) (@Go.IntKind.wrap Go.IntKind.i64 (@HMul.hMul Int Int Int (@instHMul Int @Int.instMul) (16 : Int) y15)) y16))) (3 : Int))) (fun y17 y18 y19 y20 y21 y22 y23 => (E y17 y18 y19 y20 y21 y22 y23))) (K y10 y11 y12 y13 y14 (@Go.IntKind.wrap Go.IntKind.u8 (@Go.IntKind.wrap Go.IntKind.i64 (@HAdd.hAdd Int Int Int (@instHAdd Int @Int.instAdd) (@Go.IntKind.wrap Go.IntKind.i64 (@HMul.hMul Int Int Int (@instHMul Int @Int.instMul) (16 : Int) y15)) y16))) (3 : Int))))))) (@Option.none R)) (@Option.none R))) (@wq7 k R y10 y11 y12 y13 y14 (3 : Int) (fun y15 y16 y17 y18 y19 => (K y15 y16 y17 y18 y19 (0 : Int) (0 : Int))) (fun y15 y16 y17 y18 y19 y20 y21 => (E y15 y16 y17 y18 y19 y20 y21)))))))) (@Option.none R))) (fun y10 y11 y12 y13 y14 y15 y16 => (E y10 y11 y12 y13 y14 y15 y16))) (@cond (@Option R) (@inb (0 : Int) (@Nat.cast Int instNatCastInt (@List.length UInt8 x5))) (@cond (@Option R) (@BEq.beq Int (@instBEqOfDecidableEq Int @Int.instDecidableEq) (@Nat.cast Int instNatCastInt (@UInt8.toNat (@List.getD UInt8 x5 (@Int.toNat (0 : Int)) (0 : UInt8)))) (92 : Int)) (@cond (@Option R) (@inb (0 : Int) (@Nat.cast Int instNatCastInt (@List.length UInt8 x5))) (K x0 x1 x2 x3 x4 (@Nat.cast Int instNatCastInt (@UInt8.toNat (@List.getD UInt8 x5 (@Int.toNat (0 : Int)) (0 : UInt8)))) (1 : Int)) (@Option.none R)) (@cond (@Option R) (@BEq.beq Int (@instBEqOfDecidableEq Int @Int.instDecidableEq) (@Nat.cast Int instNatCastInt (@UInt8.toNat (@List.getD UInt8 x5 (@Int.toNat (0 : Int)) (0 : UInt8)))) (34 : Int)) (@cond (@Option R) (@inb (0 : Int) (@Nat.cast Int instNatCastInt (@List.length UInt8 x5))) (K x0 x1 x2 x3 x4 (@Nat.cast Int instNatCastInt (@UInt8.toNat (@List.getD UInt8 x5 (@Int.toNat (0 : Int)) (0 : UInt8)))) (1 : Int)) (@Option.none R)) (@cond (@Option R) (@BEq.beq Int (@instBEqOfDecidableEq Int @Int.instDecidableEq) (@Nat.cast Int instNatCastInt (@UInt8.toNat (@List.getD UInt8 x5 (@Int.toNat (0 : Int)) (0 : UInt8)))) (110 : Int)) (K x0 x1 x2 x3 x4 (10 : Int) (1 : Int)) (@cond (@Option R) (@BEq.beq Int (@instBEqOfDecidableEq Int @Int.instDecidableEq) (@Nat.cast Int instNatCastInt (@UInt8.toNat (@List.getD UInt8 x5 (@Int.toNat (0 : Int)) (0 : UInt8)))) (116 : Int)) (K x0 x1 x2 x3 x4 (9 : Int) (1 : Int)) (@cond (@Option R) (@BEq.beq Int (@instBEqOfDecidableEq Int @Int.instDecidableEq) (@Nat.cast Int instNatCastInt (@UInt8.toNat (@List.getD UInt8 x5 (@Int.toNat (0 : Int)) (0 : UInt8)))) (120 : Int)) (@cond (@Option R) (@Decidable.decide (@LT.lt Int Int.instLTInt (@Nat.cast Int instNatCastInt (@List.length UInt8 x5)) (3 : Int)) (@Int.decLt (@Nat.cast Int instNatCastInt (@List.length UInt8 x5)) (3 : Int))) (@wq7 k R x0 x1 x2 x3 x4 (3 : Int) (fun y10 y11 y12 y13 y14 => (@cond (@Option R) (@inb (1 : Int) (@Nat.cast Int instNatCastInt (@List.length UInt8 x5))) (@cond (@Option R) (@inb (2 : Int) (@Nat.cast Int instNatCastInt (@List.length UInt8 x5))) (@wq1q k R ((48 : UInt8) :: ((49 : UInt8) :: ((50 : UInt8) :: ((51 : UInt8) :: ((52 : UInt8) :: ((53 : UInt8) :: ((54 : UInt8) :: ((55 : UInt8) :: ((56 : UInt8) :: ((57 : UInt8) :: ((97 : UInt8) :: ((98 : UInt8) :: ((99 : UInt8) :: ((100 : UInt8) :: ((101 : UInt8) :: ((102 : UInt8) :: [])))))))))))))))) (@Nat.cast Int instNatCastInt (@UInt8.toNat (@List.getD UInt8 x5 (@Int.toNat (1 : Int)) (0 : UInt8)))) (fun y15 => (@wq1q k R ((48 : UInt8) :: ((49 : UInt8) :: ((50 : UInt8) :: ((51 : UInt8) :: ((52 : UInt8) :: ((53 : UInt8) :: ((54 : UInt8) :: ((55 : UInt8) :: ((56 : UInt8) :: ((57 : UInt8) :: ((97 : UInt8) :: ((98 : UInt8) :: ((99 : UInt8) :: ((100 : UInt8) :: ((101 : UInt8) :: ((102 : UInt8) :: [])))))))))))))))) (@Nat.cast Int instNatCastInt (@UInt8.toNat (@List.getD UInt8 x5 (@Int.toNat (2 : Int)) (0 : UInt8)))) (fun y16 => (@cond (@Option R) (@cond (@Kd.T Kd.bool) (@Decidable.decide (@LT.lt Int Int.instLTInt y15 (0 : Int)) (@Int.decLt y15 (0 : Int))) Bool.true (@Decidable.decide (@LT.lt Int Int.instLTInt y16 (0 : Int)) (@Int.decLt y16 (0 : Int)))) (@wq7 k R y10 y11 y12 y13 y14 (3 : Int) (fun y17 y18 y19 y20 y21 => (K y17 y18 y19 y20 y21 (@Go.IntKind.wrap Go.IntKind.u8 (@Go.IntKind.wrap Go.IntKind.i64 (@HAdd.hAdd Int Int Int (@instHAdd Int @Int.instAdd) (@Go.IntKind.wrap Go.IntKind.i64 (@HMul.hMul Int Int Int (@instHMul Int @Int.instMul) (16 : Int) y15)) y16))) (3 : Int))) (fun y17 y18 y19 y20 y21 y22 y23 => (E y17 y18 y19 y20 y21 y22 y23))) (K y10 y11 y12 y13 y14 (@Go.IntKind.wrap Go.IntKind.u8 (@Go.IntKind.wrap Go.IntKind.i64 (@HAdd.hAdd Int Int Int (@instHAdd Int @Int.instAdd) (@Go.IntKind.wrap Go.IntKind.i64 (@HMul.hMul Int Int Int (@instHMul Int @Int.instMul) (16 : Int) y15)) y16))) (3 : Int))))))) (@Option.none R)) (@Option.none R))) (fun y10 y11 y12 y13 y14 y15 y16 => (E y10 y11 y12 y13 y14 y15 y16))) (@cond (@Option R) (@inb (1 : Int) (@Nat.cast Int instNatCastInt (@List.length UInt8 x5))) (@cond (@Option R) (@inb (2 : Int) (@Nat.cast Int instNatCastInt (@List.length UInt8 x5))) (@wq1q k R ((48 : UInt8) :: ((49 : UInt8) :: ((50 : UInt8) :: ((51 : UInt8) :: ((52 : UInt8) :: ((53 : UInt8) :: ((54 : UInt8) :: ((55 : UInt8) :: ((56 : UInt8) :: ((57 : UInt8) :: ((97 : UInt8) :: ((98 : UInt8) :: ((99 : UInt8) :: ((100 : UInt8) :: ((101 : UInt8) :: ((102 : UInt8) :: [])))))))))))))))) (@Nat.cast Int instNatCastInt (@UInt8.toNat (@List.getD UInt8 x5 (@Int.toNat (1 : Int)) (0 : UInt8)))) (fun y10 => (@wq1q k R ((48 : UInt8) :: ((49 : UInt8) :: ((50 : UInt8) :: ((51 : UInt8) :: ((52 : UInt8) :: ((53 : UInt8) :: ((54 : UInt8) :: ((55 : UInt8) :: ((56 : UInt8) :: ((57 : UInt8) :: ((97 : UInt8) :: ((98 : UInt8) :: ((99 : UInt8) :: ((100 : UInt8) :: ((101 : UInt8) :: ((102 : UInt8) :: [])))))))))))))))) (@Nat.cast Int instNatCastInt (@UInt8.toNat (@List.getD UInt8 x5 (@Int.toNat (2 : Int)) (0 : UInt8)))) (fun y11 => (@cond (@Option R) (@cond (@Kd.T Kd.bool) (@Decidable.decide (@LT.lt Int Int.instLTInt y10 (0 : Int)) (@Int.decLt y10 (0 : Int))) Bool.true (@Decidable.decide (@LT.lt Int Int.instLTInt y11 (0 : Int)) (@Int.decLt y11 (0 : Int)))) (@wq7 k R x0 x1 x2 x3 x4 (3 : Int) (fun y12 y13 y14 y15 y16 => (K y12 y13 y14 y15 y16 (@Go.IntKind.wrap Go.IntKind.u8 (@Go.IntKind.wrap Go.IntKind.i64 (@HAdd.hAdd Int Int Int (@instHAdd Int @Int.instAdd) (@Go.IntKind.wrap Go.IntKind.i64 (@HMul.hMul Int Int Int (@instHMul Int @Int.instMul) (16 : Int) y10)) y11))) (3 : Int))) (fun y12 y13 y14 y15 y16 y17 y18 => (E y12 y13 y14 y15 y16 y17 y18))) (K x0 x1 x2 x3 x4 (@Go.IntKind.wrap Go.IntKind.u8 (@Go.IntKind.wrap Go.IntKind.i64 (@HAdd.hAdd Int Int Int (@instHAdd Int @Int.instAdd) (@Go.IntKind.wrap Go.IntKind.i64 (@HMul.hMul Int Int Int (@instHMul Int @Int.instMul) (16 : Int) y10)) y11))) (3 : Int))))))) (@Option.none R)) (@Option.none R))) (@wq7 k R x0 x1 x2 x3 x4 (3 : Int) (fun y10 y11 y12 y13 y14 => (K y10 y11 y12 y13 y14 (0 : Int) (0 : Int))) (fun y10 y11 y12 y13 y14 y15 y16 => (E y10 y11 y12 y13 y14 y15 y16)))))))) (@Option.none R)))
theorem wqku (k : Nat) {R : Type} (I : Nat → St → Option R) (x0 x1 : Int) (x2 : (List UInt8)) (x3 : Int) (x4 : (List (Int × (Int × (Int × ((List UInt8) × Bool)))))) (x5 : (List UInt8)) (K : (Int → Int → (List UInt8) → Int → (List (Int × (Int × (Int × ((List UInt8) × Bool))))) → Int → Int → Option R)) (E : (Int → Int → (List UInt8) → Int → (List (Int × (Int × (Int × ((List UInt8) × Bool))))) → Int → Int → Option R)) : fnK (wqa0 k) k wq8f 51 [.tmp 4, .tmp 5] wqei [.ptr 1 0, .v .str x5] [(21, .row 25 (.pr (.int .i64) (.pr (.int .i64) (.pr (.int .i64) (.pr .str .bool)))) x4), (1, .var 111 [.v (.int .i64) x0, .v (.int .i64) x1, .v .str x2, .v (.int .i64) x3, .row 21])] (wq8e K E) = wqb4 k  x0 x1 x2 x3 x4 x5 K E := by kernel_rfl
noncomputable def wq5z (k : Nat) {R : Type} (x0 x1 : Int) (x2 : (List UInt8)) (x3 : Int) (x4 : (List (Int × (Int × (Int × ((List UInt8) × Bool)))))) (x5 : (List UInt8)) (K : (Int → Int → (List UInt8) → Int → (List (Int × (Int × (Int × ((List UInt8) × Bool))))) → Int → Int → Option R)) (E : (Int → Int → (List UInt8) → Int → (List (Int × (Int × (Int × ((List UInt8) × Bool))))) → Int → Int → Option R)) : Option R := wqb4 k  x0 x1 x2 x3 x4 x5 K E
theorem wqkv (k : Nat) {R : Type} (x0 x1 : Int) (x2 : (List UInt8)) (x3 : Int) (x4 : (List (Int × (Int × (Int × ((List UInt8) × Bool)))))) (x5 : (List UInt8)) (K : (Int → Int → (List UInt8) → Int → (List (Int × (Int × (Int × ((List UInt8) × Bool))))) → Int → Int → Option R)) (E : (Int → Int → (List UInt8) → Int → (List (Int × (Int × (Int × ((List UInt8) × Bool))))) → Int → Int → Option R)) : fnK (wqa0 k) k wq8f 51 [.tmp 4, .tmp 5] wqei [.ptr 1 0, .v .str x5] [(21, .row 25 (.pr (.int .i64) (.pr (.int .i64) (.pr (.int .i64) (.pr .str .bool)))) x4), (1, .var 111 [.v (.int .i64) x0, .v (.int .i64) x1, .v .str x2, .v (.int .i64) x3, .row 21])] (wq8e K E) = wq5z k x0 x1 x2 x3 x4 x5 K E := by
  exact wqku k (fun _ _ => none) x0 x1 x2 x3 x4 x5 K E
noncomputable def wq95 (k : Nat) {R : Type} : List PV → List (Nm × HObj) → (Out → Option R) → Option R
  | [.ptr 1 0, .v .str x5], [(21, .row 25 (.pr (.int .i64) (.pr (.int .i64) (.pr (.int .i64) (.pr .str .bool)))) x4), (1, .var 111 [.v (.int .i64) x0, .v (.int .i64) x1, .v .str x2, .v (.int .i64) x3, .row 21])], K => wq5z k x0 x1 x2 x3 x4 x5 (fun y0 y1 y2 y3 y4 y5 y6 => K (.ret [.v (.int .u8) y5, .v (.int .i64) y6] [(21, .row 25 (.pr (.int .i64) (.pr (.int .i64) (.pr (.int .i64) (.pr .str .bool)))) y4), (1, .var 111 [.v (.int .i64) y0, .v (.int .i64) y1, .v .str y2, .v (.int .i64) y3, .row 21])])) (fun z0 z1 z2 z3 z4 z5 z6 => K (.pan (.ifc 30 (.agg [.v (.int .i64) z5, .v (.int .i64) z6])) [(21, .row 25 (.pr (.int .i64) (.pr (.int .i64) (.pr (.int .i64) (.pr .str .bool)))) z4), (1, .var 111 [.v (.int .i64) z0, .v (.int .i64) z1, .v .str z2, .v (.int .i64) z3, .row 21])]))
  | _, _, _ => none
theorem wqkw (k : Nat) : (wqg3 k).Ok Tryd.prog := (CTab.add_ok (fun h => wq5y k h) (CTab.add_ok (fun h => wqd5 k h) CTab.nil_ok))
theorem wqoj (k : Nat) {ps : List PV} {hp : List (Nm × HObj)} {R : Type} {K : Out → Option R} {r : R} (h : wq95 k ps hp K = some r) : DoesTo Tryd.prog 100 ps hp fun out => K out = some r := by
  unfold wq95 at h
  split at h
  · rw [← wqkv] at h
    have := fn_ok (P := Tryd.prog) (cx := wqa0 k) (f := 100) ⟨tyT_ok, wqkw k, fun _ _ => rfl⟩ (by kernel_rfl) (fn := Tryd.f100) (c := wq8f) (by kernel_rfl) (by kernel_rfl) (by kernel_rfl) (rs := [.tmp 4, .tmp 5]) (by kernel_rfl) (by kernel_rfl) h
    exact this.mono fun out ho => by
      unfold wq8e at ho
      split at ho <;> first | exact ho | cases ho
  · cases h
end Go.Proofs.YtpfbdepoammjmaaDoor.Pvm

set_option maxHeartbeats 2000000
set_option maxRecDepth 100000
namespace Go.Proofs.YtpfbdepoammjmaaDoor.Pvm
open Go Go.Proofs Go.RowKit
theorem wqx3 (b g cap : Nat) (p : Value) (l : List UInt8) (cur : Array Value) (w : World) (hbk : w.heap[b]? = some (.cells #[p, .slice (some ⟨g, 0, none⟩) l.length cap] 67 (0, 0))) (h0 : l ≠ [])
    (hg : w.heap[g]? = some (.cells cur 5 (0, 0))) (hnc : l.length ≤ cap) (hcm : cap ≤ maxLen) (hcs : cur.size = cap) (htake : ∀ (j : Nat) (x : UInt8), l[j]? = some x → w.cell? ⟨g, j, none⟩ = some (.int .u8 x.toNat)) :
    Calls Tryd.prog 27 #[.pointer (some ⟨b, 0, none⟩)] w fun e w' => e = .returned (.string ⟨l.toArray⟩) ∧ w' = w.drew.freeze ⟨g, 0, none⟩ l.length := by
  have hl0 : l.length ≠ 0 := by simpa using h0
  have mixed : Tryd.prog.follows .mixedOrders = true := by kernel_rfl
  have t86 : Tryd.prog.underlying 94 = some (.pointer 5) := by kernel_rfl
  have c1 : w.drew.cell? ⟨b, 1, none⟩ = some (.slice (some ⟨g, 0, none⟩) l.length cap) := by
    have : w.drew.heap[b]? = some (.cells #[p, .slice (some ⟨g, 0, none⟩) l.length cap] 67 (0, 0)) := hbk
    rw [Lib.cell_of_heap this]; rfl
  have hSD : (Builtin.unsafeSliceData_ #[38] 94 #[.slice (some ⟨g, 0, none⟩) l.length cap]).run Tryd.prog w.drew = .ok (.pointer (some ⟨g, 0, none⟩)) w.drew :=
    Lib.run_unsafeSliceData_row _ _ _ _ _ _ (by omega)
  have hUS : (Builtin.unsafeString_ #[94, 3] 9 #[.pointer (some ⟨g, 0, none⟩), .int .i64 l.length]).run Tryd.prog w.drew = .ok (.string ⟨l.toArray⟩) (w.drew.freeze ⟨g, 0, none⟩ l.length) := by
    refine Lib.run_unsafeString_row w.drew 94 3 9 5 t86 (by kernel_rfl) g cur.size (by have hg' : w.drew.heap[g]? = some (.cells cur 5 (0, 0)) := hg; simp [World.shape?, hg']) l h0 (by omega) (by unfold maxLen at hcm; omega) ?_
    intro j x hx
    have := htake j x hx
    rw [show (⟨g, 0, none⟩ : Addr).add j = ⟨g, j, none⟩ by simp [Addr.add]; omega]
    exact this
  go_enter Tryd.func27, Tryd.ntmps27
  go_wp2
  go_region_o
  all_goals (go_wp2; go_ret; exact ⟨rfl, rfl⟩)
end Go.Proofs.YtpfbdepoammjmaaDoor.Pvm

set_option maxHeartbeats 2000000
set_option maxRecDepth 100000
namespace Go.Proofs.YtpfbdepoammjmaaDoor.Pvm
open Go Go.Proofs Go.RowKit
theorem uS_none (W : World) (q : Option Addr) : (Builtin.unsafeString_ #[94, 3] 9 #[.pointer q, .int .i64 0]).run Tryd.prog W = .ok (.string .empty) W :=
  Lib.run_unsafeString_none W _ _ _ q
theorem wqzx (b : Nat) (p : Value) (w : World) (hbk : w.heap[b]? = some (.cells #[p, .slice none 0 0] 67 (0, 0))) :
    Calls Tryd.prog 27 #[.pointer (some ⟨b, 0, none⟩)] w fun e w' => e = .returned (.string ⟨#[]⟩) ∧ w' = w.drew := by
  have hUS := uS_none
  have mixed : Tryd.prog.follows .mixedOrders = true := by kernel_rfl
  have c1 : w.drew.cell? ⟨b, 1, none⟩ = some (.slice none 0 0) := by
    have : w.drew.heap[b]? = some (.cells #[p, .slice none 0 0] 67 (0, 0)) := hbk
    rw [Lib.cell_of_heap this]; rfl
  have hSD : (Builtin.unsafeSliceData_ #[38] 94 #[.slice none 0 0]).run Tryd.prog w.drew = .ok (.pointer none) w.drew := rfl
  go_enter Tryd.func27, Tryd.ntmps27
  go_wp2
  go_region_o
  all_goals (go_wp2; go_ret; exact ⟨rfl, rfl⟩)
theorem wqz5 (b g cap : Nat) (p : Value) (w : World) (hc0 : cap ≠ 0) (hbk : w.heap[b]? = some (.cells #[p, .slice (some ⟨g, 0, none⟩) 0 cap] 67 (0, 0))) :
    Calls Tryd.prog 27 #[.pointer (some ⟨b, 0, none⟩)] w fun e w' => e = .returned (.string ⟨#[]⟩) ∧ w' = w.drew := by
  have hUS := uS_none
  have mixed : Tryd.prog.follows .mixedOrders = true := by kernel_rfl
  have c1 : w.drew.cell? ⟨b, 1, none⟩ = some (.slice (some ⟨g, 0, none⟩) 0 cap) := by
    have : w.drew.heap[b]? = some (.cells #[p, .slice (some ⟨g, 0, none⟩) 0 cap] 67 (0, 0)) := hbk
    rw [Lib.cell_of_heap this]; rfl
  have hSD : (Builtin.unsafeSliceData_ #[38] 94 #[.slice (some ⟨g, 0, none⟩) 0 cap]).run Tryd.prog w.drew = .ok (.pointer (some ⟨g, 0, none⟩)) w.drew :=
    Lib.run_unsafeSliceData_row _ _ _ _ _ _ hc0
  clear hc0
  go_enter Tryd.func27, Tryd.ntmps27
  go_wp2
  go_region_o
  all_goals (go_wp2; go_ret; exact ⟨rfl, rfl⟩)
end Go.Proofs.YtpfbdepoammjmaaDoor.Pvm

set_option maxHeartbeats 2000000
set_option maxRecDepth 100000
namespace Go.Proofs.YtpfbdepoammjmaaDoor.Pvm
open Go Go.Proofs Go.RowKit
theorem wqvx (b g : Nat) (p : Value) (cur : Array Value) (w : World) (hbk : w.heap[b]? = some (.cells #[p, .slice (some ⟨g, 0, none⟩) 0 0] 67 (0, 0))) (hg : w.heap[g]? = some (.cells cur 5 (0, 0))) :
    Calls Tryd.prog 27 #[.pointer (some ⟨b, 0, none⟩)] w fun e w' => e = .returned (.string ⟨#[]⟩) ∧ ∃ o, w' = (w.alloc o).drew := by
  have hUS := uS_none
  have hlt : b < w.heap.size := (Array.getElem?_eq_some_iff.1 hbk).1
  have mixed : Tryd.prog.follows .mixedOrders = true := by kernel_rfl
  have c1 : w.drew.cell? ⟨b, 1, none⟩ = some (.slice (some ⟨g, 0, none⟩) 0 0) := by
    have : w.drew.heap[b]? = some (.cells #[p, .slice (some ⟨g, 0, none⟩) 0 0] 67 (0, 0)) := hbk
    rw [Lib.cell_of_heap this]; rfl
  have hSD : (Builtin.unsafeSliceData_ #[38] 94 #[.slice (some ⟨g, 0, none⟩) 0 0]).run Tryd.prog w.drew = .ok (.pointer (some ⟨w.drew.heap.size, 0, none⟩)) (w.drew.alloc (.view ⟨g, 0, none⟩ 5)) :=
    Lib.run_unsafeSliceData_zero w.drew _ _ 5 (by kernel_rfl) ⟨g, 0, none⟩ 0 (5, cur.size) (by have hg' : w.drew.heap[g]? = some (.cells cur 5 (0, 0)) := hg; simp [World.shape?, hg'])
  have c2 : (w.drew.alloc (.view ⟨g, 0, none⟩ 5)).cell? ⟨b, 1, none⟩ = some (.slice (some ⟨g, 0, none⟩) 0 0) := by
    have : (w.drew.alloc (.view ⟨g, 0, none⟩ 5)).heap[b]? = _ := (Lib.alloc_old w.drew _ b hlt).trans hbk
    rw [Lib.cell_of_heap this]; rfl
  have c3 : (w.alloc (.view ⟨g, 0, none⟩ 5)).drew.cell? ⟨b, 1, none⟩ = some (.slice (some ⟨g, 0, none⟩) 0 0) := c2
  have c0 : w.cell? ⟨b, 1, none⟩ = some (.slice (some ⟨g, 0, none⟩) 0 0) := c1
  go_enter Tryd.func27, Tryd.ntmps27
  go_wp2
  go_region_o
  all_goals (go_wp2; go_ret; exact ⟨rfl, _, rfl⟩)
def allB : List Int → Bool
  | [] => true
  | x :: r => decide (0 ≤ x) && decide (x < 256) && allB r
def wq7j : List LS := [.obj 1 [.nps 1, .own 21 5 (.int .u8)]]
def wq2o (k : Nat) {R : Type} (x0 : List Int) (K : List Int → List UInt8 → Option R) : Option R := bif allB x0 then K x0 (ofBytes x0) else none
def wq3z (k : Nat) {R : Type} : List PV → List (Nm × HObj) → (Out → Option R) → Option R
  | [.ptr 1 0], [(21, .row 5 (.int .u8) x0), (1, .var 67 [.nps 1, .row 21])], K => wq2o k x0 (fun y0 y1 => K (.ret [.v .str y1] [(1, .var 67 [.nps 1, .v (.sl (.int .u8)) y0])]))
  | _, _, _ => none
theorem wqal (vs : Array Value) (w : World) : (callFunc 27 vs).run Tryd.prog w = .ok (.enter 27 vs) w := by
  have h1 : Tryd.prog.funcs[27]? = some Tryd.f27 := by kernel_rfl
  have h2 : (Tryd.f27.name == "runtime.NumGoroutine") = false := by kernel_rfl
  have h3 : Tryd.f27.body.isNone = false := by kernel_rfl
  unfold callFunc
  rw [Sem.run_bind]
  have e2 : (program).run Tryd.prog w = .ok Tryd.prog w := rfl
  rw [e2, Result.andThen_ok, h1]
  simp only [h2, h3, Bool.false_eq_true, if_false]
  rfl
theorem allB_at : ∀ {l : List Int}, allB l = true → ∀ (i : Nat) (y : Int), l[i]? = some y → 0 ≤ y ∧ y < 256
  | [], _, i, y, h => by simp at h
  | x :: r, hb, 0, y, h => by
    simp only [allB, Bool.and_eq_true, decide_eq_true_eq] at hb
    simp at h; subst h; exact hb.1
  | x :: r, hb, i + 1, y, h => by
    simp only [allB, Bool.and_eq_true] at hb
    exact allB_at hb.2 i y (by simpa using h)
theorem wqx4 {G : Gh} {w w' : World} {x0 : List Int} {HP : List (Nm × HObj)} (hHP : HP = [(21, .row 5 (.int .u8) x0), (1, .var 67 [.nps 1, .row 21])])
    (obj : ∀ n o, mkH HP n = some o → RO (mkH HP) G w n o) (dis : Dis (mkH HP) G w) (hblk : ∀ b, b < w.heap.size → (∀ g, (G.rv 21).ownBlock = some g → b ≠ g) → w'.heap[b]? = w.heap[b]?)
    (hcell : ∀ g o, (G.rv 21).ownBlock = some g → w'.cell? ⟨g, o, none⟩ = w.cell? ⟨g, o, none⟩) (grow : w.heap.size ≤ w'.heap.size) (os : w'.os = w.os) (tape : w'.tape = w.tape) (out : w'.output = w.output) :
    Fin HP [(1, .var 67 [.nps 1, .v (.sl (.int .u8)) x0])] G w G w' := by
  have l1 : mkH HP 1 = some (.var 67 [.nps 1, .row 21]) := by subst hHP; rfl
  have l2 : mkH HP 21 = some (.row 5 (.int .u8) x0) := by subst hHP; rfl
  generalize hHS : [((1 : Nm), HObj.var 67 [.nps 1, .v (.sl (.int .u8)) x0])] = HS
  have m1 : mkH HS 1 = some (.var 67 [.nps 1, .v (.sl (.int .u8)) x0]) := by subst hHS; rfl
  have mo : ∀ n o, mkH HS n = some o → n = 1 := by
    intro n o h
    subst hHS
    simp only [mkH, look] at h
    cases hb : Nat.beq 1 n with
    | true => exact (Nat.eq_of_beq_eq_true hb).symm
    | false => rw [hb] at h; cases h
  have bk1 : blkOf (mkH HP) G 1 = some (G.bk 1) := by simp [blkOf, l1]
  have bk2 : blkOf (mkH HP) G 21 = (G.rv 21).ownBlock := by simp [blkOf, l2]
  have ck1 : blkOf (mkH HS) G 1 = some (G.bk 1) := by simp [blkOf, m1]
  have ck : ∀ n b, blkOf (mkH HS) G n = some b → n = 1 ∧ b = G.bk 1 := by
    intro n b h
    cases hn : mkH HS n with
    | none => simp [blkOf, hn] at h
    | some o => have := mo n o hn; subst this; rw [ck1] at h; cases h; exact ⟨rfl, rfl⟩
  have hne : ∀ g, (G.rv 21).ownBlock = some g → G.bk 1 ≠ g := fun g hg e => by
    have := dis.inj 1 21 g (by rw [bk1, e]) (by rw [bk2, hg])
    cases this
  obtain ⟨vs, hw, q1, t1, rfl, hq1, q2, t2, rfl, hq2, rfl⟩ := obj 1 _ l1
  obtain ⟨rfl, _⟩ := hq2
  have hlt : G.bk 1 < w.heap.size := (Array.getElem?_eq_some_iff.1 hw).1
  have hw' : w'.heap[G.bk 1]? = some (.cells [q1, G.rv 21].toArray 67 (0, 0)) := by rw [hblk _ hlt hne]; exact hw
  have hdat : RD w' (okB (mkH HS) G) (.sl (.int .u8)) x0 [G.rv 21] := by
    have hro := obj 21 _ l2
    obtain ⟨us, hown, hr, _⟩ := hro
    rcases hown.2 with ⟨hv, hn⟩ | ⟨g, cap, cur, hv, _, hgb, hnc, hcm, hcs, _⟩
    · exact ⟨none, 0, by rw [hv, hn], by omega, .inl (List.eq_nil_of_length_eq_zero hn)⟩
    · have hgo : (G.rv 21).ownBlock = some g := by rw [hv]; rfl
      refine ⟨_, cap, by rw [hv], hnc, .inr ⟨_, rfl, ?_, ?_, ?_⟩⟩
      · refine ⟨fun n hn => ?_, fun hx => dis.xo 21 g (by rw [bk2, hgo]) hx⟩
        obtain ⟨_, e⟩ := ck n g hn
        exact hne g hgo e.symm
      · have : g < w.heap.size := (Array.getElem?_eq_some_iff.1 hgb).1
        exact Nat.lt_of_lt_of_le this grow
      · intro i y hy
        obtain ⟨c, hc, hu⟩ := hr.get i y hy
        refine ⟨c, hc, fun j u hj => ?_⟩
        have := hown.cells hgo _ _ (hu j u hj)
        rw [Addr.add_lit] at this ⊢
        rw [hcell g _ hgo]
        exact this
  refine ⟨fun n o hn => ?_, fun n m b h1 h2 => (ck n b h1).1.trans (ck m b h2).1.symm, fun n t cs hn o ho => ?_, fun b hb hf => hblk b hb fun g hg e => hf 21 (by rw [bk2, hg, e]), rfl, fun n b hn => .inl ⟨1, by rw [(ck n b hn).2]; exact bk1⟩, grow, os, tape, out⟩
  · have := mo n o hn; subst this
    rw [m1] at hn; cases hn
    refine ⟨_, hw', _, _, rfl, ?_, _, _, rfl, hdat, rfl⟩
    rcases hq1 with h | ⟨h, _⟩
    · exact .inl h
    · exact .inr ⟨h, _, _, m1⟩
  · have e1 := mo n o ho
    subst e1
    have e2 : mkH HS 1 = some o := ho
    have e3 : mkH HP 1 = some (.var t cs) := hn
    rw [m1] at e2; rw [l1] at e3; cases e2; cases e3
    exact ⟨⟨_, rfl⟩, rfl⟩
theorem wq96 (k : Nat) {ps : List PV} {hp : List (Nm × HObj)} {R : Type} {K : Out → Option R} {r : R} (h : wq3z k ps hp K = some r) : DoesTo Tryd.prog 27 ps hp fun out => K out = some r := by
  unfold wq3z at h
  split at h
  · next x0 =>
    intro G w vals hr obj dis
    unfold wq2o at h
    cases hb : allB x0 with
    | false => rw [hb] at h; cases h
    | true =>
      rw [hb, cond_true] at h
      obtain ⟨v0, l0, rfl, h0, rfl⟩ := hr
      obtain ⟨rfl, _⟩ := h0
      generalize hHP : [(21, HObj.row 5 (.int .u8) x0), (1, .var 67 [.nps 1, .row 21])] = HP at *
      have l1 : mkH HP 1 = some (.var 67 [.nps 1, .row 21]) := by subst hHP; rfl
      have l2 : mkH HP 21 = some (.row 5 (.int .u8) x0) := by subst hHP; rfl
      show Does _ _ #[_] _ _
      unfold Does
      rw [wqal]
      obtain ⟨vs, hw, q1, t1, rfl, hq1, q2, t2, rfl, hq2, rfl⟩ := obj 1 _ l1
      obtain ⟨rfl, _⟩ := hq2
      have hro := obj 21 _ l2
      obtain ⟨us, hown, hrd, _⟩ := hro
      have fin : ∀ {e : Ending} {w' : World}, e = .returned (.string ⟨(ofBytes x0).toArray⟩) → (∀ b, b < w.heap.size → (∀ g, (G.rv 21).ownBlock = some g → b ≠ g) → w'.heap[b]? = w.heap[b]?) → (∀ g o, (G.rv 21).ownBlock = some g → w'.cell? ⟨g, o, none⟩ = w.cell? ⟨g, o, none⟩) → w.heap.size ≤ w'.heap.size → w'.os = w.os → w'.tape = w.tape → w'.output = w.output →
          ∃ out, K out = some r ∧ ∃ G', OutIs G' w' e out ∧ Fin HP out.hs G w G' w' := by
        intro e w' he h1 h2 h3 h4 h5 h6
        exact ⟨_, h, G, ⟨_, he, rfl⟩, wqx4 hHP.symm obj dis h1 h2 h3 h4 h5 h6⟩
      rcases hown.2 with ⟨hv, hn⟩ | ⟨g, cap, cur, hv, _, hgb, hnc, hcm, hcs, htk⟩
      · have hx : x0 = [] := List.eq_nil_of_length_eq_zero hn
        subst hx
        rw [hv] at hw
        refine Calls.mono (wqzx (G.bk 1) q1 w hw) fun e w' hh => ?_
        obtain ⟨rfl, rfl⟩ := hh
        exact fin rfl (fun _ _ _ => rfl) (fun _ _ _ => rfl) (Nat.le_refl _) rfl rfl rfl
      · have hgo : (G.rv 21).ownBlock = some g := by rw [hv]; rfl
        rw [hv] at hw
        by_cases hx : x0 = []
        · subst hx
          by_cases hc0 : cap = 0
          · subst hc0
            refine Calls.mono (wqvx (G.bk 1) g q1 cur w hw hgb) fun e w' hh => ?_
            obtain ⟨rfl, o, rfl⟩ := hh
            have hold : ∀ b, b < w.heap.size → (w.alloc o).drew.heap[b]? = w.heap[b]? := fun b hb => Lib.alloc_old w _ b hb
            refine fin rfl (fun b hb _ => hold b hb) (fun g' o' hg' => ?_) (by have := World.size_alloc w o; show _ ≤ (w.alloc o).heap.size; omega) rfl rfl rfl
            rw [hgo] at hg'; cases hg'
            exact World.cell?_of_block (hold g (Array.getElem?_eq_some_iff.1 hgb).1)
          · refine Calls.mono (wqz5 (G.bk 1) g cap q1 w hc0 hw) fun e w' hh => ?_
            obtain ⟨rfl, rfl⟩ := hh
            exact fin rfl (fun _ _ _ => rfl) (fun _ _ _ => rfl) (Nat.le_refl _) rfl rfl rfl
        · have hlen : (ofBytes x0).length = x0.length := by simp [ofBytes]
          have hbytes : ∀ (j : Nat) (x : UInt8), (ofBytes x0)[j]? = some x → w.cell? ⟨g, j, none⟩ = some (.int .u8 x.toNat) := by
            intro j x hj
            have hjl : j < x0.length := by rw [← hlen]; exact (List.getElem?_eq_some_iff.1 hj).1
            have hy : x0[j]? = some x0[j] := by simp [hjl]
            obtain ⟨c, hc, hu⟩ := hrd.get j _ hy
            have hc : c = [.int .u8 x0[j]] := hc
            have h9 := hown.cells hgo _ _ (hu 0 (.int .u8 x0[j]) (by rw [hc]; rfl))
            rw [Addr.add_lit] at h9
            have hj2 : x = UInt8.ofNat (x0[j]).toNat := by
              simp only [ofBytes, List.getElem?_map, hy, Option.map_some, Option.some.injEq] at hj
              exact hj.symm
            obtain ⟨h10, h11⟩ := allB_at hb j _ hy
            have : ((x.toNat : Nat) : Int) = x0[j] := by
              rw [hj2, UInt8.toNat_ofNat']
              omega
            rw [this]
            have e0 : 0 + (j * Kd.sz (.int .u8) + 0) = j := by simp [Kd.sz]
            rw [e0] at h9
            exact h9
          rw [← hlen] at hw
          have hne : ofBytes x0 ≠ [] := by intro e; rw [e] at hlen; exact hx (List.eq_nil_of_length_eq_zero hlen.symm)
          refine Calls.mono (wqx3 (G.bk 1) g cap q1 (ofBytes x0) cur w hw hne hgb (by omega) hcm (by simpa [Kd.sz] using hcs) hbytes) fun e w' hh => ?_
          obtain ⟨rfl, rfl⟩ := hh
          have hfz : ∀ b, b ≠ g → (w.drew.freeze ⟨g, 0, none⟩ (ofBytes x0).length).heap[b]? = w.heap[b]? := by
            intro b hb
            unfold World.freeze
            split
            · rfl
            · show (w.heap.modify g _)[b]? = _
              rw [Array.getElem?_modify, if_neg (Ne.symm hb)]
          refine fin rfl (fun b _ hb => hfz b (hb g hgo)) (fun g' o' hg' => ?_) ?_ ?_ ?_ ?_
          · rw [hgo] at hg'; cases hg'
            unfold World.freeze
            split
            · rfl
            · simp only [World.cell?, World.drew, Array.getElem?_modify, if_true, hgb, Option.map_some]
          all_goals
            unfold World.freeze
            split
            · first | rfl | exact Nat.le_refl _
            · first | rfl | (show w.heap.size ≤ (w.heap.modify g _).size; rw [Array.size_modify]; exact Nat.le_refl _)
  · cases h
end Go.Proofs.YtpfbdepoammjmaaDoor.Pvm

set_option maxHeartbeats 1000000
set_option maxRecDepth 100000
namespace Go.Proofs.YtpfbdepoammjmaaDoor.Pvm
open Go Go.Proofs Go.RowKit
theorem wqug (b : Nat) (w : World) (h0 : w.cell? ⟨b, 0, none⟩ = some (.pointer (some ⟨b, 0, none⟩))) :
    Calls Tryd.prog 41 #[.pointer (some ⟨b, 0, none⟩)] w fun e w' => e = .returned (.tuple #[]) ∧ w' = w := by
  have t76 : Tryd.prog.underlying 65 = some (.pointer 67) := by kernel_rfl
  have hs : (Tryd.prog.info? 67).isSome = true := by kernel_rfl
  obtain ⟨j, hj⟩ := Option.isSome_iff_exists.1 hs
  go_enter Tryd.func41, Tryd.ntmps41
  go_wp2
  rw [Lib.run_neq_ptr_same w _ t76 hj]
  go_wp2
  go_end0
  exact ⟨rfl, rfl⟩
theorem wqs7 (b : Nat) (w : World) (h0 : w.cell? ⟨b, 0, none⟩ = some (.pointer none)) (hsh : w.shape? b = some (67, 2)) (hfz : w.frozen? ⟨b, 0, none⟩ = false) :
    Calls Tryd.prog 41 #[.pointer (some ⟨b, 0, none⟩)] w fun e w' => e = .returned (.tuple #[]) ∧ w' = w.setCell ⟨b, 0, none⟩ (.pointer (some ⟨b, 0, none⟩)) := by
  have t76 : Tryd.prog.underlying 65 = some (.pointer 67) := by kernel_rfl
  have t89 : Tryd.prog.underlying 112 = some .unsafePointer := by kernel_rfl
  have hs : (Tryd.prog.info? 67).map (·.size) = some 2 := by kernel_rfl
  obtain ⟨j, hj, hjs⟩ := Option.map_eq_some_iff.1 hs
  have hlies : liesAt Tryd.prog Tryd.prog.depth 67 (2 / Tryd.prog.cellsOf 67) 0 67 1 = true := by kernel_rfl
  go_enter Tryd.func41, Tryd.ntmps41
  go_wp2
  rw [Lib.run_to_unsafe w ⟨b, 0, none⟩ t76 t89 hj (by rw [hjs]; decide) hsh (Nat.zero_lt_succ 1)]
  simp only [Result.andThen]
  rw [Oper.upon_value]
  go_wp2
  rw [run_callFunc_extern Tryd.func56 (by kernel_rfl) (by kernel_rfl) (by kernel_rfl) (e := Extern.AbiNoEscape.same) (by kernel_rfl)]
  rw [Lib.run_noEscape]
  simp only [Result.andThen]
  rw [Oper.upon_value]
  go_wp2
  rw [Lib.run_from_unsafe w ⟨b, 0, none⟩ t89 t76 hj hsh hlies]
  simp only [Result.andThen]
  rw [Oper.upon_value]
  go_wp2
  go_end0
  exact ⟨rfl, rfl⟩
end Go.Proofs.YtpfbdepoammjmaaDoor.Pvm

set_option maxRecDepth 1000000
namespace Go.Proofs.YtpfbdepoammjmaaDoor.Pvm
open Go Go.Proofs
def wqbn : List LS := [.obj 1 [.nps 1, .own 21 5 (.int .u8)]]
def wq4y (k : Nat) {R : Type} (x0 : List Int) (K : List Int → Option R) : Option R := K x0
def wq4h (k : Nat) {R : Type} : List PV → List (Nm × HObj) → (Out → Option R) → Option R
  | [.ptr 1 0], [(21, .row 5 (.int .u8) x0), (1, .var 67 [.nps 1, .row 21])], K => wq4y k x0 (fun y0 => K (.ret [] [(21, .row 5 (.int .u8) y0), (1, .var 67 [.nps 1, .row 21])]))
  | _, _, _ => none
theorem wq97 (vs : Array Value) (w : World) : (callFunc 41 vs).run Tryd.prog w = .ok (.enter 41 vs) w := by
  have h1 : Tryd.prog.funcs[41]? = some Tryd.f41 := by kernel_rfl
  have h2 : (Tryd.f41.name == "runtime.NumGoroutine") = false := by kernel_rfl
  have h3 : Tryd.f41.body.isNone = false := by kernel_rfl
  unfold callFunc
  rw [Sem.run_bind]
  have e2 : (program).run Tryd.prog w = .ok Tryd.prog w := rfl
  rw [e2, Result.andThen_ok, h1]
  simp only [h2, h3, Bool.false_eq_true, if_false]
  rfl
theorem wqcr (k : Nat) {ps : List PV} {hp : List (Nm × HObj)} {R : Type} {K : Out → Option R} {r : R} (h : wq4h k ps hp K = some r) : DoesTo Tryd.prog 41 ps hp fun out => K out = some r := by
  unfold wq4h at h
  split at h
  · next x0 =>
    intro G w vals hr obj dis
    obtain ⟨v0, l0, rfl, h0, rfl⟩ := hr
    obtain ⟨rfl, _⟩ := h0
    generalize hHP : [(21, HObj.row 5 (.int .u8) x0), (1, .var 67 [.nps 1, .row 21])] = HP at *
    have hK : K (.ret [] HP) = some r := by subst hHP; exact h
    have l1 : mkH HP 1 = some (.var 67 [.nps 1, .row 21]) := by subst hHP; rfl
    have hob := obj 1 _ l1
    obtain ⟨vs, hw, q1, t1, rfl, hq1, q2, t2, rfl, hq2, rfl⟩ := hob
    show Does _ _ #[_] _ _
    unfold Does
    rw [wq97]
    have hcell : w.cell? ⟨G.bk 1, 0, none⟩ = some q1 := by simp [World.cell?, hw]
    have hlt : G.bk 1 < w.heap.size := (Array.getElem?_eq_some_iff.1 hw).1
    rcases hq1 with rfl | ⟨rfl, _⟩
    · refine Calls.mono (wqs7 (G.bk 1) w hcell (by simp [World.shape?, hw]) (by simp [World.frozen?, hw])) fun e w' hh => ?_
      obtain ⟨rfl, rfl⟩ := hh
      have oth : ∀ b, b ≠ G.bk 1 → (w.setCell ⟨G.bk 1, 0, none⟩ (.pointer (some ⟨G.bk 1, 0, none⟩))).heap[b]? = w.heap[b]? := fun b hb => Go.Deep.blk_setCell_other w _ _ b hb
      have bk1 : blkOf (mkH HP) G 1 = some (G.bk 1) := by simp [blkOf, l1]
      have C : Carry (mkH HP) G w (mkH HP) G (w.setCell ⟨G.bk 1, 0, none⟩ (.pointer (some ⟨G.bk 1, 0, none⟩))) .row :=
        ⟨fun b ho _ => ⟨ho, oth b fun e => ho.1 1 (by rw [bk1, e])⟩, fun n t cs hn => ⟨⟨cs, hn⟩, rfl⟩, fun n e K xs hn => ⟨⟨rfl, e, K, xs, hn⟩, fun m hm => by cases hm; exact ⟨e, xs, hn, Nat.le_refl _⟩⟩⟩
      have hq2' := RV.carry C _ _ hq2
      refine ⟨.ret [] HP, hK, G, ⟨_, rfl, ⟨[], rfl, rfl⟩⟩, ⟨fun n o hn => ?_, dis.inj, fun n t cs hn o ho => ?_, fun b hb hf => oth b fun e => hf 1 (by rw [bk1, e]), rfl, fun n b hb => .inl ⟨n, hb⟩, by simp [World.setCell], rfl, rfl, rfl⟩⟩
      · by_cases hn1 : n = 1
        · subst hn1
          rw [show mkH (Out.hs (.ret [] HP)) 1 = some (.var 67 [.nps 1, .row 21]) from l1] at hn
          cases hn
          refine ⟨[.pointer (some ⟨G.bk 1, 0, none⟩), q2], ?_, _, _, rfl, .inr ⟨rfl, 67, _, l1⟩, _, _, rfl, hq2', rfl⟩
          have hw2 := (Array.getElem?_eq_some_iff.1 hw).2
          simp only [World.setCell, Array.getElem?_modify, if_pos, hw]
          simp
        · have hne : ∀ b, blkOf (mkH HP) G n = some b → b ≠ G.bk 1 := fun b hb e => hn1 (dis.inj n 1 b hb (by rw [bk1, e]))
          have := RO.carry C hn (obj n o hn) (fun b hb => oth b (hne b hb)) rfl rfl
          rwa [mapO_row] at this
      · have e1 : look HP n = some o := ho
        rw [hn] at e1; cases e1
        exact ⟨⟨cs, rfl⟩, rfl⟩
    · refine Calls.mono (wqug (G.bk 1) w hcell) fun e w' hh => ?_
      obtain ⟨rfl, rfl⟩ := hh
      refine ⟨.ret [] HP, hK, G, ⟨_, rfl, ⟨[], rfl, rfl⟩⟩, ⟨obj, dis.inj, fun n t cs hn o ho => ?_, fun _ _ _ => rfl, rfl, fun n b hb => .inl ⟨n, hb⟩, Nat.le_refl _, rfl, rfl, rfl⟩⟩
      have e1 : look HP n = some o := ho
      rw [hn] at e1; cases e1
      exact ⟨⟨cs, rfl⟩, rfl⟩
  · cases h
end Go.Proofs.YtpfbdepoammjmaaDoor.Pvm

set_option maxRecDepth 1000000
set_option maxHeartbeats 0
namespace Go.Proofs.YtpfbdepoammjmaaDoor.Pvm
open Go Go.Proofs
def wq6b : List LS := [.obj 1 [.nps 1, .own 21 5 (.int .u8)], .any]
noncomputable def wq71 (k : Nat) : CTab := (CTab.add 41 wqbn (wq4h k) CTab.nil)
def wq4c {R : Type} (K : ((List Int) → Option R)) : Out → Option R
  | .ret [.nilif] [(21, .row 5 (.int .u8) y0), (1, .var 67 [.nps 1, .row 21])] => K y0
  | _ => none
def wq6j : RetSpec := ⟨[.any], [(1, .obj 1 [.nps 1, .own 21 5 (.int .u8)])], []⟩
def wqb5 : List (Nat × CutSpec) := []
def wqam : List (Nat × Plan) := []
noncomputable def wq4s (k : Nat) : Ctx := ⟨tyT, wqb5, wq71 k, [], [1], wqam, @SH⟩
noncomputable def wq4d : Code := Tryd.f99.body.getD .skip
noncomputable def wq4z (k : Nat) {R : Type}  (x0 : (List Int)) (x1 : Int) (K : ((List Int) → Option R)) : Option R := (@wq4y k R x0 (fun y5 => (@cond (@Option R) (@fits (@List.length (@Kd.T (@Kd.int Go.IntKind.u8)) y5) (@List.length (@Kd.T (@Kd.int Go.IntKind.u8)) (x1 :: [])) (1 : Nat)) (K (@HAppend.hAppend (@Kd.T (@Kd.sl (@Kd.int Go.IntKind.u8))) (@List (@Kd.T (@Kd.int Go.IntKind.u8))) (@Kd.T (@Kd.sl (@Kd.int Go.IntKind.u8))) (@instHAppendOfAppend (@Kd.T (@Kd.sl (@Kd.int Go.IntKind.u8))) (@List.instAppend (@Kd.T (@Kd.int Go.IntKind.u8)))) y5 (x1 :: []))) (@Option.none R))))
theorem wqb6 (k : Nat) {R : Type} (I : Nat → St → Option R) (x0 : (List Int)) (x1 : Int) (K : ((List Int) → Option R)) : fnK (wq4s k) k wq4d 17 [.tmp 4] wq6j [.ptr 1 0, .v (.int .u8) x1] [(21, .row 5 (.int .u8) x0), (1, .var 67 [.nps 1, .row 21])] (wq4c K) = wq4z k  x0 x1 K := by kernel_rfl
noncomputable def wq1l (k : Nat) {R : Type} (x0 : (List Int)) (x1 : Int) (K : ((List Int) → Option R)) : Option R := wq4z k  x0 x1 K
theorem wqb7 (k : Nat) {R : Type} (x0 : (List Int)) (x1 : Int) (K : ((List Int) → Option R)) : fnK (wq4s k) k wq4d 17 [.tmp 4] wq6j [.ptr 1 0, .v (.int .u8) x1] [(21, .row 5 (.int .u8) x0), (1, .var 67 [.nps 1, .row 21])] (wq4c K) = wq1l k x0 x1 K := by
  exact wqb6 k (fun _ _ => none) x0 x1 K
noncomputable def wq3b (k : Nat) {R : Type} : List PV → List (Nm × HObj) → (Out → Option R) → Option R
  | [.ptr 1 0, .v (.int .u8) x1], [(21, .row 5 (.int .u8) x0), (1, .var 67 [.nps 1, .row 21])], K => wq1l k x0 x1 (fun y0 => K (.ret [.nilif] [(21, .row 5 (.int .u8) y0), (1, .var 67 [.nps 1, .row 21])]))
  | _, _, _ => none
theorem wqb8 (k : Nat) : (wq71 k).Ok Tryd.prog := (CTab.add_ok (fun h => wqcr k h) CTab.nil_ok)
theorem wq72 (k : Nat) {ps : List PV} {hp : List (Nm × HObj)} {R : Type} {K : Out → Option R} {r : R} (h : wq3b k ps hp K = some r) : DoesTo Tryd.prog 99 ps hp fun out => K out = some r := by
  unfold wq3b at h
  split at h
  · rw [← wqb7] at h
    have := fn_ok (P := Tryd.prog) (cx := wq4s k) (f := 99) ⟨tyT_ok, wqb8 k, fun _ _ => rfl⟩ (by kernel_rfl) (fn := Tryd.f99) (c := wq4d) (by kernel_rfl) (by kernel_rfl) (by kernel_rfl) (rs := [.tmp 4]) (by kernel_rfl) (by kernel_rfl) h
    exact this.mono fun out ho => by
      unfold wq4c at ho
      split at ho <;> first | exact ho | cases ho
  · cases h
end Go.Proofs.YtpfbdepoammjmaaDoor.Pvm
