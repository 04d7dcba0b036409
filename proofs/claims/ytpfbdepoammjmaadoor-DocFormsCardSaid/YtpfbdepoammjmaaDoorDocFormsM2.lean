/- The Go function DocForms answers true for every number, on any machine and under any order of evaluation that Go allows; with no condition besides the statement's own, the card's own ties to the pruned copy of the project included. -/
import Derived.Test.YtpfbdepoammjmaaDoorProg
import Derived.KernelRfl
import Derived.Test.YtpfbdepoammjmaaDoorDocFormsM0
import Derived.Test.YtpfbdepoammjmaaDoorDocFormsM1
set_option linter.unusedVariables false
set_option linter.unusedSimpArgs false
set_option linter.unusedSectionVars false
set_option maxRecDepth 100000
namespace Go.Proofs.YtpfbdepoammjmaaDoor.Pvm
open Go Go.Proofs
abbrev kI : Kd := .int .i64
abbrev kdT7 : Kd := (.pr (.int .i64) (.pr (.int .i64) (.pr .bool (.int .u8))))
abbrev kdT24 : Kd := (.pr (.int .i64) (.pr (.int .i64) (.pr (.int .i64) (.pr .str .bool))))
abbrev kdT27 : Kd := (.sl (.pr (.int .i64) (.pr (.int .i64) (.pr .str (.pr .bool (.pr (.sl .str) (.sl (.int .i64))))))))
abbrev kdT39 : Kd := (.pr .str (.pr (.int .i64) (.int .i64)))
abbrev kdT46 : Kd := (.pr (.int .i64) (.pr (.int .i64) (.pr .str (.pr .bool (.pr (.sl .str) (.sl (.int .i64)))))))
abbrev kdT50 : Kd := (.pr (.sl (.pr (.int .i64) (.pr (.int .i64) (.pr (.int .i64) (.pr .str .bool))))) (.sl (.pr (.int .i64) (.pr (.int .i64) (.pr .str (.pr .bool (.pr (.sl .str) (.sl (.int .i64)))))))))
abbrev kdT54 : Kd := (.pr (.sl (.pr (.int .i64) (.pr (.int .i64) (.pr (.int .i64) (.pr .str .bool))))) (.pr (.int .i64) (.pr (.sl (.pr (.int .i64) (.pr (.int .i64) (.pr .str (.pr .bool (.pr (.sl .str) (.sl (.int .i64)))))))) (.pr (.int .i64) (.int .i64)))))
abbrev kdT85 : Kd := (.pr (.int .i64) (.pr (.int .i64) .str))
abbrev kdT110 : Kd := (.pr (.pr (.int .i64) (.pr (.int .i64) .str)) (.pr (.int .i64) (.sl (.pr (.int .i64) (.pr (.int .i64) (.pr (.int .i64) (.pr .str .bool)))))))
def ti1 : TI := ⟨.other, 1, 8, none, [.un], [], 0, false⟩
theorem ti1_ok : TiOk Tryd.prog 1 ti1 := TiOk.of (z := Go.Value.nilFunc) (d := (@Go.TypeDesc.func (@Array.mk Nat (@List.nil Nat)) (@Array.mk Nat (@List.nil Nat)) Bool.false)) (by kernel_rfl) (by kernel_rfl) (by kernel_rfl) trivial rfl trivial (by kernel_rfl) (fun h => nomatch h)
def ti2 : TI := ⟨.int .i64, 1, 8, some (.int .i64), [.v (.int .i64) 0], [], 0, false⟩
theorem ti2_ok : TiOk Tryd.prog 2 ti2 := TiOk.of (z := (@Go.Value.int Go.IntKind.i64 (@Int.ofNat 0))) (d := (@Go.TypeDesc.int Go.IntKind.i64)) (by kernel_rfl) (by kernel_rfl) (by kernel_rfl) ⟨by kernel_rfl, by kernel_rfl⟩ rfl rfl (by kernel_rfl) (fun h => nomatch h)
def ti3 : TI := ⟨.int .i64, 1, 8, some (.int .i64), [.v (.int .i64) 0], [], 0, false⟩
theorem ti3_ok : TiOk Tryd.prog 3 ti3 := TiOk.of (z := (@Go.Value.int Go.IntKind.i64 (@Int.ofNat 0))) (d := (@Go.TypeDesc.int Go.IntKind.i64)) (by kernel_rfl) (by kernel_rfl) (by kernel_rfl) ⟨by kernel_rfl, by kernel_rfl⟩ rfl rfl (by kernel_rfl) (fun h => nomatch h)
def ti4 : TI := ⟨.bool, 1, 1, some .bool, [.v .bool false], [], 0, false⟩
theorem ti4_ok : TiOk Tryd.prog 4 ti4 := TiOk.of (z := (@Go.Value.bool Bool.false)) (d := Go.TypeDesc.bool) (by kernel_rfl) (by kernel_rfl) (by kernel_rfl) ⟨by kernel_rfl, by kernel_rfl⟩ rfl rfl (by kernel_rfl) (fun h => nomatch h)
def ti5 : TI := ⟨.int .u8, 1, 1, some (.int .u8), [.v (.int .u8) 0], [], 0, false⟩
theorem ti5_ok : TiOk Tryd.prog 5 ti5 := TiOk.of (z := (@Go.Value.int Go.IntKind.u8 (@Int.ofNat 0))) (d := (@Go.TypeDesc.int Go.IntKind.u8)) (by kernel_rfl) (by kernel_rfl) (by kernel_rfl) ⟨by kernel_rfl, by kernel_rfl⟩ rfl rfl (by kernel_rfl) (fun h => nomatch h)
def ti6 : TI := ⟨.int .u8, 1, 1, some (.int .u8), [.v (.int .u8) 0], [], 0, false⟩
theorem ti6_ok : TiOk Tryd.prog 6 ti6 := TiOk.of (z := (@Go.Value.int Go.IntKind.u8 (@Int.ofNat 0))) (d := (@Go.TypeDesc.int Go.IntKind.u8)) (by kernel_rfl) (by kernel_rfl) (by kernel_rfl) ⟨by kernel_rfl, by kernel_rfl⟩ rfl rfl (by kernel_rfl) (fun h => nomatch h)
def ti7 : TI := ⟨.struct, 4, 24, some (.pr (.int .i64) (.pr (.int .i64) (.pr .bool (.int .u8)))), [.v (.int .i64) 0, .v (.int .i64) 0, .v .bool false, .v (.int .u8) 0], [(0, 2), (1, 3), (2, 4), (3, 6)], 0, true⟩
theorem ti7_ok : TiOk Tryd.prog 7 ti7 := TiOk.of (z := (@Go.Value.agg (@Array.mk Go.Value (@List.cons Go.Value (@Go.Value.int Go.IntKind.i64 (@Int.ofNat 0)) (@List.cons Go.Value (@Go.Value.int Go.IntKind.i64 (@Int.ofNat 0)) (@List.cons Go.Value (@Go.Value.bool Bool.false) (@List.cons Go.Value (@Go.Value.int Go.IntKind.u8 (@Int.ofNat 0)) (@List.nil Go.Value)))))))) (d := (@Go.TypeDesc.struct (@Array.mk Go.Field (@List.cons Go.Field (@Go.Field.mk "x" 2 0 Bool.false "" "runtime" 0) (@List.cons Go.Field (@Go.Field.mk "y" 3 1 Bool.false "" "runtime" 8) (@List.cons Go.Field (@Go.Field.mk "signed" 4 2 Bool.false "" "runtime" 16) (@List.cons Go.Field (@Go.Field.mk "code" 6 3 Bool.false "" "runtime" 17) (@List.nil Go.Field)))))))) (by kernel_rfl) (by kernel_rfl) (by kernel_rfl) ⟨by kernel_rfl, by kernel_rfl⟩ ⟨_, rfl⟩ ⟨_, rfl, by kernel_rfl, by kernel_rfl⟩ (by kernel_rfl) (fun _ _ => by kernel_rfl)
def ti8 : TI := ⟨.struct, 4, 24, some (.pr (.int .i64) (.pr (.int .i64) (.pr .bool (.int .u8)))), [.v (.int .i64) 0, .v (.int .i64) 0, .v .bool false, .v (.int .u8) 0], [(0, 2), (1, 3), (2, 4), (3, 6)], 0, true⟩
theorem ti8_ok : TiOk Tryd.prog 8 ti8 := TiOk.of (z := (@Go.Value.agg (@Array.mk Go.Value (@List.cons Go.Value (@Go.Value.int Go.IntKind.i64 (@Int.ofNat 0)) (@List.cons Go.Value (@Go.Value.int Go.IntKind.i64 (@Int.ofNat 0)) (@List.cons Go.Value (@Go.Value.bool Bool.false) (@List.cons Go.Value (@Go.Value.int Go.IntKind.u8 (@Int.ofNat 0)) (@List.nil Go.Value)))))))) (d := (@Go.TypeDesc.struct (@Array.mk Go.Field (@List.cons Go.Field (@Go.Field.mk "x" 2 0 Bool.false "" "runtime" 0) (@List.cons Go.Field (@Go.Field.mk "y" 3 1 Bool.false "" "runtime" 8) (@List.cons Go.Field (@Go.Field.mk "signed" 4 2 Bool.false "" "runtime" 16) (@List.cons Go.Field (@Go.Field.mk "code" 6 3 Bool.false "" "runtime" 17) (@List.nil Go.Field)))))))) (by kernel_rfl) (by kernel_rfl) (by kernel_rfl) ⟨by kernel_rfl, by kernel_rfl⟩ ⟨_, rfl⟩ ⟨_, rfl, by kernel_rfl, by kernel_rfl⟩ (by kernel_rfl) (fun _ _ => by kernel_rfl)
def ti9 : TI := ⟨.str, 1, 16, some .str, [.v .str []], [], 0, false⟩
theorem ti9_ok : TiOk Tryd.prog 9 ti9 := TiOk.of (z := (@Go.Value.string (@ByteArray.mk (@Array.mk UInt8 (@List.nil UInt8))))) (d := Go.TypeDesc.string) (by kernel_rfl) (by kernel_rfl) (by kernel_rfl) ⟨by kernel_rfl, by kernel_rfl⟩ rfl rfl (by kernel_rfl) (fun h => nomatch h)
def ti10 : TI := ⟨.str, 1, 16, some .str, [.v .str []], [], 0, false⟩
theorem ti10_ok : TiOk Tryd.prog 10 ti10 := TiOk.of (z := (@Go.Value.string (@ByteArray.mk (@Array.mk UInt8 (@List.nil UInt8))))) (d := Go.TypeDesc.string) (by kernel_rfl) (by kernel_rfl) (by kernel_rfl) ⟨by kernel_rfl, by kernel_rfl⟩ rfl rfl (by kernel_rfl) (fun h => nomatch h)
def ti11 : TI := ⟨.str, 1, 16, some .str, [.v .str []], [], 0, false⟩
theorem ti11_ok : TiOk Tryd.prog 11 ti11 := TiOk.of (z := (@Go.Value.string (@ByteArray.mk (@Array.mk UInt8 (@List.nil UInt8))))) (d := Go.TypeDesc.string) (by kernel_rfl) (by kernel_rfl) (by kernel_rfl) ⟨by kernel_rfl, by kernel_rfl⟩ rfl rfl (by kernel_rfl) (fun h => nomatch h)
def ti12 : TI := ⟨.int .u64, 1, 8, some (.int .u64), [.v (.int .u64) 0], [], 0, false⟩
theorem ti12_ok : TiOk Tryd.prog 12 ti12 := TiOk.of (z := (@Go.Value.int Go.IntKind.u64 (@Int.ofNat 0))) (d := (@Go.TypeDesc.int Go.IntKind.u64)) (by kernel_rfl) (by kernel_rfl) (by kernel_rfl) ⟨by kernel_rfl, by kernel_rfl⟩ rfl rfl (by kernel_rfl) (fun h => nomatch h)
def ti13 : TI := ⟨.struct, 2, 24, some (.pr .str (.int .u64)), [.v .str [], .v (.int .u64) 0], [(0, 9), (1, 12)], 0, false⟩
theorem ti13_ok : TiOk Tryd.prog 13 ti13 := TiOk.of (z := (@Go.Value.agg (@Array.mk Go.Value (@List.cons Go.Value (@Go.Value.string (@ByteArray.mk (@Array.mk UInt8 (@List.nil UInt8)))) (@List.cons Go.Value (@Go.Value.int Go.IntKind.u64 (@Int.ofNat 0)) (@List.nil Go.Value)))))) (d := (@Go.TypeDesc.struct (@Array.mk Go.Field (@List.cons Go.Field (@Go.Field.mk "msg" 9 0 Bool.false "" "runtime" 0) (@List.cons Go.Field (@Go.Field.mk "addr" 12 1 Bool.false "" "runtime" 16) (@List.nil Go.Field)))))) (by kernel_rfl) (by kernel_rfl) (by kernel_rfl) ⟨by kernel_rfl, by kernel_rfl⟩ ⟨_, rfl⟩ ⟨_, rfl, by kernel_rfl, by kernel_rfl⟩ (by kernel_rfl) (fun h => nomatch h)
def ti14 : TI := ⟨.struct, 2, 24, some (.pr .str (.int .u64)), [.v .str [], .v (.int .u64) 0], [(0, 9), (1, 12)], 0, false⟩
theorem ti14_ok : TiOk Tryd.prog 14 ti14 := TiOk.of (z := (@Go.Value.agg (@Array.mk Go.Value (@List.cons Go.Value (@Go.Value.string (@ByteArray.mk (@Array.mk UInt8 (@List.nil UInt8)))) (@List.cons Go.Value (@Go.Value.int Go.IntKind.u64 (@Int.ofNat 0)) (@List.nil Go.Value)))))) (d := (@Go.TypeDesc.struct (@Array.mk Go.Field (@List.cons Go.Field (@Go.Field.mk "msg" 9 0 Bool.false "" "runtime" 0) (@List.cons Go.Field (@Go.Field.mk "addr" 12 1 Bool.false "" "runtime" 16) (@List.nil Go.Field)))))) (by kernel_rfl) (by kernel_rfl) (by kernel_rfl) ⟨by kernel_rfl, by kernel_rfl⟩ ⟨_, rfl⟩ ⟨_, rfl, by kernel_rfl, by kernel_rfl⟩ (by kernel_rfl) (fun h => nomatch h)
def ti15 : TI := ⟨.ptr, 1, 8, none, [.nilptr], [], 148, false⟩
theorem ti15_ok : TiOk Tryd.prog 15 ti15 := TiOk.of (z := (@Go.Value.pointer (@Option.none Go.Addr))) (d := (@Go.TypeDesc.pointer 148)) (by kernel_rfl) (by kernel_rfl) (by kernel_rfl) trivial rfl rfl (by kernel_rfl) (fun h => nomatch h)
def ti16 : TI := ⟨.ptr, 1, 8, none, [.nilptr], [], 151, false⟩
theorem ti16_ok : TiOk Tryd.prog 16 ti16 := TiOk.of (z := (@Go.Value.pointer (@Option.none Go.Addr))) (d := (@Go.TypeDesc.pointer 151)) (by kernel_rfl) (by kernel_rfl) (by kernel_rfl) trivial rfl rfl (by kernel_rfl) (fun h => nomatch h)
def ti17 : TI := ⟨.ptr, 1, 8, none, [.nilptr], [], 158, false⟩
theorem ti17_ok : TiOk Tryd.prog 17 ti17 := TiOk.of (z := (@Go.Value.pointer (@Option.none Go.Addr))) (d := (@Go.TypeDesc.pointer 158)) (by kernel_rfl) (by kernel_rfl) (by kernel_rfl) trivial rfl rfl (by kernel_rfl) (fun h => nomatch h)
def ti18 : TI := ⟨.struct, 1, 8, none, [.nilptr], [(0, 17)], 0, false⟩
theorem ti18_ok : TiOk Tryd.prog 18 ti18 := TiOk.of (z := (@Go.Value.agg (@Array.mk Go.Value (@List.cons Go.Value (@Go.Value.pointer (@Option.none Go.Addr)) (@List.nil Go.Value))))) (d := (@Go.TypeDesc.struct (@Array.mk Go.Field (@List.cons Go.Field (@Go.Field.mk "typ" 17 0 Bool.false "" "internal/runtime/maps" 0) (@List.nil Go.Field))))) (by kernel_rfl) (by kernel_rfl) (by kernel_rfl) trivial ⟨_, rfl⟩ ⟨_, rfl, by kernel_rfl, by kernel_rfl⟩ (by kernel_rfl) (fun h => nomatch h)
def ti19 : TI := ⟨.struct, 1, 8, none, [.nilptr], [(0, 17)], 0, false⟩
theorem ti19_ok : TiOk Tryd.prog 19 ti19 := TiOk.of (z := (@Go.Value.agg (@Array.mk Go.Value (@List.cons Go.Value (@Go.Value.pointer (@Option.none Go.Addr)) (@List.nil Go.Value))))) (d := (@Go.TypeDesc.struct (@Array.mk Go.Field (@List.cons Go.Field (@Go.Field.mk "typ" 17 0 Bool.false "" "internal/runtime/maps" 0) (@List.nil Go.Field))))) (by kernel_rfl) (by kernel_rfl) (by kernel_rfl) trivial ⟨_, rfl⟩ ⟨_, rfl, by kernel_rfl, by kernel_rfl⟩ (by kernel_rfl) (fun h => nomatch h)
def ti20 : TI := ⟨.iface, 1, 16, none, [.nilif], [], 0, false⟩
theorem ti20_ok : TiOk Tryd.prog 20 ti20 := TiOk.of (z := Go.Value.nilIface) (d := (@Go.TypeDesc.interface (@Array.mk (@Prod String Nat) (@List.nil (@Prod String Nat))))) (by kernel_rfl) (by kernel_rfl) (by kernel_rfl) trivial rfl ⟨_, rfl⟩ (by kernel_rfl) (fun h => nomatch h)
def ti21 : TI := ⟨.int .i32, 1, 4, some (.int .i32), [.v (.int .i32) 0], [], 0, false⟩
theorem ti21_ok : TiOk Tryd.prog 21 ti21 := TiOk.of (z := (@Go.Value.int Go.IntKind.i32 (@Int.ofNat 0))) (d := (@Go.TypeDesc.int Go.IntKind.i32)) (by kernel_rfl) (by kernel_rfl) (by kernel_rfl) ⟨by kernel_rfl, by kernel_rfl⟩ rfl rfl (by kernel_rfl) (fun h => nomatch h)
def ti22 : TI := ⟨.slice, 1, 24, some (.sl (.pr (.int .i64) (.pr (.int .i64) (.pr (.int .i64) (.pr .str .bool))))), [.nilsl], [], 25, false⟩
theorem ti22_ok : TiOk Tryd.prog 22 ti22 := TiOk.of (z := (@Go.Value.slice (@Option.none Go.Addr) 0 0)) (d := (@Go.TypeDesc.slice 25)) (by kernel_rfl) (by kernel_rfl) (by kernel_rfl) ⟨by kernel_rfl, by kernel_rfl⟩ rfl rfl (by kernel_rfl) (fun h => nomatch h)
def ti23 : TI := ⟨.other, 1, 8, none, [.un], [], 0, false⟩
theorem ti23_ok : TiOk Tryd.prog 23 ti23 := TiOk.of (z := Go.Value.nilFunc) (d := (@Go.TypeDesc.func (@Array.mk Nat (@List.nil Nat)) (@Array.mk Nat (@List.cons Nat 4 (@List.nil Nat))) Bool.false)) (by kernel_rfl) (by kernel_rfl) (by kernel_rfl) trivial rfl trivial (by kernel_rfl) (fun h => nomatch h)
def ti24 : TI := ⟨.struct, 5, 48, some (.pr (.int .i64) (.pr (.int .i64) (.pr (.int .i64) (.pr .str .bool)))), [.v (.int .i64) 0, .v (.int .i64) 0, .v (.int .i64) 0, .v .str [], .v .bool false], [(0, 3), (1, 3), (2, 3), (3, 9), (4, 4)], 0, true⟩
theorem ti24_ok : TiOk Tryd.prog 24 ti24 := TiOk.of (z := (@Go.Value.agg (@Array.mk Go.Value (@List.cons Go.Value (@Go.Value.int Go.IntKind.i64 (@Int.ofNat 0)) (@List.cons Go.Value (@Go.Value.int Go.IntKind.i64 (@Int.ofNat 0)) (@List.cons Go.Value (@Go.Value.int Go.IntKind.i64 (@Int.ofNat 0)) (@List.cons Go.Value (@Go.Value.string (@ByteArray.mk (@Array.mk UInt8 (@List.nil UInt8)))) (@List.cons Go.Value (@Go.Value.bool Bool.false) (@List.nil Go.Value))))))))) (d := (@Go.TypeDesc.struct (@Array.mk Go.Field (@List.cons Go.Field (@Go.Field.mk "Kind" 3 0 Bool.false "" "" 0) (@List.cons Go.Field (@Go.Field.mk "Line" 3 1 Bool.false "" "" 8) (@List.cons Go.Field (@Go.Field.mk "Col" 3 2 Bool.false "" "" 16) (@List.cons Go.Field (@Go.Field.mk "Text" 9 3 Bool.false "" "" 24) (@List.cons Go.Field (@Go.Field.mk "Quoted" 4 4 Bool.false "" "" 40) (@List.nil Go.Field))))))))) (by kernel_rfl) (by kernel_rfl) (by kernel_rfl) ⟨by kernel_rfl, by kernel_rfl⟩ ⟨_, rfl⟩ ⟨_, rfl, by kernel_rfl, by kernel_rfl⟩ (by kernel_rfl) (fun _ _ => by kernel_rfl)
def ti25 : TI := ⟨.struct, 5, 48, some (.pr (.int .i64) (.pr (.int .i64) (.pr (.int .i64) (.pr .str .bool)))), [.v (.int .i64) 0, .v (.int .i64) 0, .v (.int .i64) 0, .v .str [], .v .bool false], [(0, 3), (1, 3), (2, 3), (3, 9), (4, 4)], 0, true⟩
theorem ti25_ok : TiOk Tryd.prog 25 ti25 := TiOk.of (z := (@Go.Value.agg (@Array.mk Go.Value (@List.cons Go.Value (@Go.Value.int Go.IntKind.i64 (@Int.ofNat 0)) (@List.cons Go.Value (@Go.Value.int Go.IntKind.i64 (@Int.ofNat 0)) (@List.cons Go.Value (@Go.Value.int Go.IntKind.i64 (@Int.ofNat 0)) (@List.cons Go.Value (@Go.Value.string (@ByteArray.mk (@Array.mk UInt8 (@List.nil UInt8)))) (@List.cons Go.Value (@Go.Value.bool Bool.false) (@List.nil Go.Value))))))))) (d := (@Go.TypeDesc.struct (@Array.mk Go.Field (@List.cons Go.Field (@Go.Field.mk "Kind" 3 0 Bool.false "" "" 0) (@List.cons Go.Field (@Go.Field.mk "Line" 3 1 Bool.false "" "" 8) (@List.cons Go.Field (@Go.Field.mk "Col" 3 2 Bool.false "" "" 16) (@List.cons Go.Field (@Go.Field.mk "Text" 9 3 Bool.false "" "" 24) (@List.cons Go.Field (@Go.Field.mk "Quoted" 4 4 Bool.false "" "" 40) (@List.nil Go.Field))))))))) (by kernel_rfl) (by kernel_rfl) (by kernel_rfl) ⟨by kernel_rfl, by kernel_rfl⟩ ⟨_, rfl⟩ ⟨_, rfl, by kernel_rfl, by kernel_rfl⟩ (by kernel_rfl) (fun _ _ => by kernel_rfl)
def ti26 : TI := ⟨.slice, 1, 24, some (.sl (.pr (.int .i64) (.pr (.int .i64) (.pr .str (.pr .bool (.pr (.sl .str) (.sl (.int .i64)))))))), [.nilsl], [], 47, false⟩
theorem ti26_ok : TiOk Tryd.prog 26 ti26 := TiOk.of (z := (@Go.Value.slice (@Option.none Go.Addr) 0 0)) (d := (@Go.TypeDesc.slice 47)) (by kernel_rfl) (by kernel_rfl) (by kernel_rfl) ⟨by kernel_rfl, by kernel_rfl⟩ rfl rfl (by kernel_rfl) (fun h => nomatch h)
def ti28 : TI := ⟨.struct, 1, 24, some (.sl (.pr (.int .i64) (.pr (.int .i64) (.pr .str (.pr .bool (.pr (.sl .str) (.sl (.int .i64)))))))), [.nilsl], [(0, 26)], 0, false⟩
theorem ti28_ok : TiOk Tryd.prog 28 ti28 := TiOk.of (z := (@Go.Value.agg (@Array.mk Go.Value (@List.cons Go.Value (@Go.Value.slice (@Option.none Go.Addr) 0 0) (@List.nil Go.Value))))) (d := (@Go.TypeDesc.struct (@Array.mk Go.Field (@List.cons Go.Field (@Go.Field.mk "Nodes" 26 0 Bool.false "" "" 0) (@List.nil Go.Field))))) (by kernel_rfl) (by kernel_rfl) (by kernel_rfl) ⟨by kernel_rfl, by kernel_rfl⟩ ⟨_, rfl⟩ ⟨_, rfl, by kernel_rfl, by kernel_rfl⟩ (by kernel_rfl) (fun h => nomatch h)
def ti30 : TI := ⟨.struct, 2, 16, some (.pr (.int .i64) (.int .i64)), [.v (.int .i64) 0, .v (.int .i64) 0], [(0, 3), (1, 3)], 0, true⟩
theorem ti30_ok : TiOk Tryd.prog 30 ti30 := TiOk.of (z := (@Go.Value.agg (@Array.mk Go.Value (@List.cons Go.Value (@Go.Value.int Go.IntKind.i64 (@Int.ofNat 0)) (@List.cons Go.Value (@Go.Value.int Go.IntKind.i64 (@Int.ofNat 0)) (@List.nil Go.Value)))))) (d := (@Go.TypeDesc.struct (@Array.mk Go.Field (@List.cons Go.Field (@Go.Field.mk "Kind" 3 0 Bool.false "" "" 0) (@List.cons Go.Field (@Go.Field.mk "Line" 3 1 Bool.false "" "" 8) (@List.nil Go.Field)))))) (by kernel_rfl) (by kernel_rfl) (by kernel_rfl) ⟨by kernel_rfl, by kernel_rfl⟩ ⟨_, rfl⟩ ⟨_, rfl, by kernel_rfl, by kernel_rfl⟩ (by kernel_rfl) (fun _ _ => by kernel_rfl)
def ti35 : TI := ⟨.slice, 1, 24, some (.sl (.pr .str (.pr (.int .i64) (.int .i64)))), [.nilsl], [], 40, false⟩
theorem ti35_ok : TiOk Tryd.prog 35 ti35 := TiOk.of (z := (@Go.Value.slice (@Option.none Go.Addr) 0 0)) (d := (@Go.TypeDesc.slice 40)) (by kernel_rfl) (by kernel_rfl) (by kernel_rfl) ⟨by kernel_rfl, by kernel_rfl⟩ rfl rfl (by kernel_rfl) (fun h => nomatch h)
def ti38 : TI := ⟨.slice, 1, 24, some (.sl (.int .u8)), [.nilsl], [], 5, false⟩
theorem ti38_ok : TiOk Tryd.prog 38 ti38 := TiOk.of (z := (@Go.Value.slice (@Option.none Go.Addr) 0 0)) (d := (@Go.TypeDesc.slice 5)) (by kernel_rfl) (by kernel_rfl) (by kernel_rfl) ⟨by kernel_rfl, by kernel_rfl⟩ rfl rfl (by kernel_rfl) (fun h => nomatch h)
def ti40 : TI := ⟨.struct, 3, 32, some (.pr .str (.pr (.int .i64) (.int .i64))), [.v .str [], .v (.int .i64) 0, .v (.int .i64) 0], [(0, 9), (1, 3), (2, 3)], 0, true⟩
theorem ti40_ok : TiOk Tryd.prog 40 ti40 := TiOk.of (z := (@Go.Value.agg (@Array.mk Go.Value (@List.cons Go.Value (@Go.Value.string (@ByteArray.mk (@Array.mk UInt8 (@List.nil UInt8)))) (@List.cons Go.Value (@Go.Value.int Go.IntKind.i64 (@Int.ofNat 0)) (@List.cons Go.Value (@Go.Value.int Go.IntKind.i64 (@Int.ofNat 0)) (@List.nil Go.Value))))))) (d := (@Go.TypeDesc.struct (@Array.mk Go.Field (@List.cons Go.Field (@Go.Field.mk "text" 9 0 Bool.false "" "turncock/turncocklaw12" 0) (@List.cons Go.Field (@Go.Field.mk "kind" 3 1 Bool.false "" "turncock/turncocklaw12" 16) (@List.cons Go.Field (@Go.Field.mk "line" 3 2 Bool.false "" "turncock/turncocklaw12" 24) (@List.nil Go.Field))))))) (by kernel_rfl) (by kernel_rfl) (by kernel_rfl) ⟨by kernel_rfl, by kernel_rfl⟩ ⟨_, rfl⟩ ⟨_, rfl, by kernel_rfl, by kernel_rfl⟩ (by kernel_rfl) (fun _ _ => by kernel_rfl)
def ti44 : TI := ⟨.slice, 1, 24, some (.sl .str), [.nilsl], [], 9, false⟩
theorem ti44_ok : TiOk Tryd.prog 44 ti44 := TiOk.of (z := (@Go.Value.slice (@Option.none Go.Addr) 0 0)) (d := (@Go.TypeDesc.slice 9)) (by kernel_rfl) (by kernel_rfl) (by kernel_rfl) ⟨by kernel_rfl, by kernel_rfl⟩ rfl rfl (by kernel_rfl) (fun h => nomatch h)
def ti45 : TI := ⟨.slice, 1, 24, some (.sl (.int .i64)), [.nilsl], [], 3, false⟩
theorem ti45_ok : TiOk Tryd.prog 45 ti45 := TiOk.of (z := (@Go.Value.slice (@Option.none Go.Addr) 0 0)) (d := (@Go.TypeDesc.slice 3)) (by kernel_rfl) (by kernel_rfl) (by kernel_rfl) ⟨by kernel_rfl, by kernel_rfl⟩ rfl rfl (by kernel_rfl) (fun h => nomatch h)
def ti47 : TI := ⟨.struct, 6, 88, some (.pr (.int .i64) (.pr (.int .i64) (.pr .str (.pr .bool (.pr (.sl .str) (.sl (.int .i64))))))), [.v (.int .i64) 0, .v (.int .i64) 0, .v .str [], .v .bool false, .nilsl, .nilsl], [(0, 3), (1, 3), (2, 9), (3, 4), (4, 44), (5, 45)], 0, false⟩
theorem ti47_ok : TiOk Tryd.prog 47 ti47 := TiOk.of (z := (@Go.Value.agg (@Array.mk Go.Value (@List.cons Go.Value (@Go.Value.int Go.IntKind.i64 (@Int.ofNat 0)) (@List.cons Go.Value (@Go.Value.int Go.IntKind.i64 (@Int.ofNat 0)) (@List.cons Go.Value (@Go.Value.string (@ByteArray.mk (@Array.mk UInt8 (@List.nil UInt8)))) (@List.cons Go.Value (@Go.Value.bool Bool.false) (@List.cons Go.Value (@Go.Value.slice (@Option.none Go.Addr) 0 0) (@List.cons Go.Value (@Go.Value.slice (@Option.none Go.Addr) 0 0) (@List.nil Go.Value)))))))))) (d := (@Go.TypeDesc.struct (@Array.mk Go.Field (@List.cons Go.Field (@Go.Field.mk "Kind" 3 0 Bool.false "" "" 0) (@List.cons Go.Field (@Go.Field.mk "Line" 3 1 Bool.false "" "" 8) (@List.cons Go.Field (@Go.Field.mk "Text" 9 2 Bool.false "" "" 16) (@List.cons Go.Field (@Go.Field.mk "Quoted" 4 3 Bool.false "" "" 32) (@List.cons Go.Field (@Go.Field.mk "Keys" 44 4 Bool.false "" "" 40) (@List.cons Go.Field (@Go.Field.mk "Kids" 45 5 Bool.false "" "" 64) (@List.nil Go.Field)))))))))) (by kernel_rfl) (by kernel_rfl) (by kernel_rfl) ⟨by kernel_rfl, by kernel_rfl⟩ ⟨_, rfl⟩ ⟨_, rfl, by kernel_rfl, by kernel_rfl⟩ (by kernel_rfl) (fun h => nomatch h)
def ti49 : TI := ⟨.ptr, 1, 8, none, [.nilptr], [], 51, false⟩
theorem ti49_ok : TiOk Tryd.prog 49 ti49 := TiOk.of (z := (@Go.Value.pointer (@Option.none Go.Addr))) (d := (@Go.TypeDesc.pointer 51)) (by kernel_rfl) (by kernel_rfl) (by kernel_rfl) trivial rfl rfl (by kernel_rfl) (fun h => nomatch h)
def ti51 : TI := ⟨.struct, 2, 48, some (.pr (.sl (.pr (.int .i64) (.pr (.int .i64) (.pr (.int .i64) (.pr .str .bool))))) (.sl (.pr (.int .i64) (.pr (.int .i64) (.pr .str (.pr .bool (.pr (.sl .str) (.sl (.int .i64))))))))), [.nilsl, .nilsl], [(0, 22), (1, 28)], 0, false⟩
theorem ti51_ok : TiOk Tryd.prog 51 ti51 := TiOk.of (z := (@Go.Value.agg (@Array.mk Go.Value (@List.cons Go.Value (@Go.Value.slice (@Option.none Go.Addr) 0 0) (@List.cons Go.Value (@Go.Value.slice (@Option.none Go.Addr) 0 0) (@List.nil Go.Value)))))) (d := (@Go.TypeDesc.struct (@Array.mk Go.Field (@List.cons Go.Field (@Go.Field.mk "l" 22 0 Bool.false "" "turncock/doc" 0) (@List.cons Go.Field (@Go.Field.mk "d" 28 1 Bool.false "" "turncock/doc" 24) (@List.nil Go.Field)))))) (by kernel_rfl) (by kernel_rfl) (by kernel_rfl) ⟨by kernel_rfl, by kernel_rfl⟩ ⟨_, rfl⟩ ⟨_, rfl, by kernel_rfl, by kernel_rfl⟩ (by kernel_rfl) (fun h => nomatch h)
def ti53 : TI := ⟨.ptr, 1, 8, none, [.nilptr], [], 55, false⟩
theorem ti53_ok : TiOk Tryd.prog 53 ti53 := TiOk.of (z := (@Go.Value.pointer (@Option.none Go.Addr))) (d := (@Go.TypeDesc.pointer 55)) (by kernel_rfl) (by kernel_rfl) (by kernel_rfl) trivial rfl rfl (by kernel_rfl) (fun h => nomatch h)
def ti54 : TI := ⟨.struct, 5, 72, some (.pr (.sl (.pr (.int .i64) (.pr (.int .i64) (.pr (.int .i64) (.pr .str .bool))))) (.pr (.int .i64) (.pr (.sl (.pr (.int .i64) (.pr (.int .i64) (.pr .str (.pr .bool (.pr (.sl .str) (.sl (.int .i64)))))))) (.pr (.int .i64) (.int .i64))))), [.nilsl, .v (.int .i64) 0, .nilsl, .v (.int .i64) 0, .v (.int .i64) 0], [(0, 22), (1, 3), (2, 26), (3, 30)], 0, false⟩
theorem ti54_ok : TiOk Tryd.prog 54 ti54 := TiOk.of (z := (@Go.Value.agg (@Array.mk Go.Value (@List.cons Go.Value (@Go.Value.slice (@Option.none Go.Addr) 0 0) (@List.cons Go.Value (@Go.Value.int Go.IntKind.i64 (@Int.ofNat 0)) (@List.cons Go.Value (@Go.Value.slice (@Option.none Go.Addr) 0 0) (@List.cons Go.Value (@Go.Value.int Go.IntKind.i64 (@Int.ofNat 0)) (@List.cons Go.Value (@Go.Value.int Go.IntKind.i64 (@Int.ofNat 0)) (@List.nil Go.Value))))))))) (d := (@Go.TypeDesc.struct (@Array.mk Go.Field (@List.cons Go.Field (@Go.Field.mk "l" 22 0 Bool.false "" "turncock/turncockref10" 0) (@List.cons Go.Field (@Go.Field.mk "at" 3 1 Bool.false "" "turncock/turncockref10" 24) (@List.cons Go.Field (@Go.Field.mk "nodes" 26 2 Bool.false "" "turncock/turncockref10" 32) (@List.cons Go.Field (@Go.Field.mk "fault" 30 3 Bool.false "" "turncock/turncockref10" 56) (@List.nil Go.Field)))))))) (by kernel_rfl) (by kernel_rfl) (by kernel_rfl) ⟨by kernel_rfl, by kernel_rfl⟩ ⟨_, rfl⟩ ⟨_, rfl, by kernel_rfl, by kernel_rfl⟩ (by kernel_rfl) (fun h => nomatch h)
def ti55 : TI := ⟨.struct, 5, 72, some (.pr (.sl (.pr (.int .i64) (.pr (.int .i64) (.pr (.int .i64) (.pr .str .bool))))) (.pr (.int .i64) (.pr (.sl (.pr (.int .i64) (.pr (.int .i64) (.pr .str (.pr .bool (.pr (.sl .str) (.sl (.int .i64)))))))) (.pr (.int .i64) (.int .i64))))), [.nilsl, .v (.int .i64) 0, .nilsl, .v (.int .i64) 0, .v (.int .i64) 0], [(0, 22), (1, 3), (2, 26), (3, 30)], 0, false⟩
theorem ti55_ok : TiOk Tryd.prog 55 ti55 := TiOk.of (z := (@Go.Value.agg (@Array.mk Go.Value (@List.cons Go.Value (@Go.Value.slice (@Option.none Go.Addr) 0 0) (@List.cons Go.Value (@Go.Value.int Go.IntKind.i64 (@Int.ofNat 0)) (@List.cons Go.Value (@Go.Value.slice (@Option.none Go.Addr) 0 0) (@List.cons Go.Value (@Go.Value.int Go.IntKind.i64 (@Int.ofNat 0)) (@List.cons Go.Value (@Go.Value.int Go.IntKind.i64 (@Int.ofNat 0)) (@List.nil Go.Value))))))))) (d := (@Go.TypeDesc.struct (@Array.mk Go.Field (@List.cons Go.Field (@Go.Field.mk "l" 22 0 Bool.false "" "turncock/turncockref10" 0) (@List.cons Go.Field (@Go.Field.mk "at" 3 1 Bool.false "" "turncock/turncockref10" 24) (@List.cons Go.Field (@Go.Field.mk "nodes" 26 2 Bool.false "" "turncock/turncockref10" 32) (@List.cons Go.Field (@Go.Field.mk "fault" 30 3 Bool.false "" "turncock/turncockref10" 56) (@List.nil Go.Field)))))))) (by kernel_rfl) (by kernel_rfl) (by kernel_rfl) ⟨by kernel_rfl, by kernel_rfl⟩ ⟨_, rfl⟩ ⟨_, rfl, by kernel_rfl, by kernel_rfl⟩ (by kernel_rfl) (fun h => nomatch h)
def ti56 : TI := ⟨.slice, 1, 24, some (.sl (.pr (.int .i64) (.pr (.int .i64) .str))), [.nilsl], [], 86, false⟩
theorem ti56_ok : TiOk Tryd.prog 56 ti56 := TiOk.of (z := (@Go.Value.slice (@Option.none Go.Addr) 0 0)) (d := (@Go.TypeDesc.slice 86)) (by kernel_rfl) (by kernel_rfl) (by kernel_rfl) ⟨by kernel_rfl, by kernel_rfl⟩ rfl rfl (by kernel_rfl) (fun h => nomatch h)
def ti61 : TI := ⟨.int .u64, 1, 8, some (.int .u64), [.v (.int .u64) 0], [], 0, false⟩
theorem ti61_ok : TiOk Tryd.prog 61 ti61 := TiOk.of (z := (@Go.Value.int Go.IntKind.u64 (@Int.ofNat 0))) (d := (@Go.TypeDesc.int Go.IntKind.u64)) (by kernel_rfl) (by kernel_rfl) (by kernel_rfl) ⟨by kernel_rfl, by kernel_rfl⟩ rfl rfl (by kernel_rfl) (fun h => nomatch h)
def ti65 : TI := ⟨.ptr, 1, 8, none, [.nilptr], [], 67, false⟩
theorem ti65_ok : TiOk Tryd.prog 65 ti65 := TiOk.of (z := (@Go.Value.pointer (@Option.none Go.Addr))) (d := (@Go.TypeDesc.pointer 67)) (by kernel_rfl) (by kernel_rfl) (by kernel_rfl) trivial rfl rfl (by kernel_rfl) (fun h => nomatch h)
def ti67 : TI := ⟨.struct, 2, 32, none, [.nilptr, .nilsl], [(0, 65), (1, 38)], 0, false⟩
theorem ti67_ok : TiOk Tryd.prog 67 ti67 := TiOk.of (z := (@Go.Value.agg (@Array.mk Go.Value (@List.cons Go.Value (@Go.Value.pointer (@Option.none Go.Addr)) (@List.cons Go.Value (@Go.Value.slice (@Option.none Go.Addr) 0 0) (@List.nil Go.Value)))))) (d := (@Go.TypeDesc.struct (@Array.mk Go.Field (@List.cons Go.Field (@Go.Field.mk "addr" 65 0 Bool.false "" "strings" 0) (@List.cons Go.Field (@Go.Field.mk "buf" 38 1 Bool.false "" "strings" 8) (@List.nil Go.Field)))))) (by kernel_rfl) (by kernel_rfl) (by kernel_rfl) trivial ⟨_, rfl⟩ ⟨_, rfl, by kernel_rfl, by kernel_rfl⟩ (by kernel_rfl) (fun h => nomatch h)
def ti70 : TI := ⟨.iface, 1, 16, none, [.nilif], [], 0, false⟩
theorem ti70_ok : TiOk Tryd.prog 70 ti70 := TiOk.of (z := Go.Value.nilIface) (d := (@Go.TypeDesc.interface (@Array.mk (@Prod String Nat) (@List.cons (@Prod String Nat) (@Prod.mk String Nat "Error" 74) (@List.nil (@Prod String Nat)))))) (by kernel_rfl) (by kernel_rfl) (by kernel_rfl) trivial rfl ⟨_, rfl⟩ (by kernel_rfl) (fun h => nomatch h)
def ti78 : TI := ⟨.slice, 1, 24, some (.sl (.sl (.int .u8))), [.nilsl], [], 38, false⟩
theorem ti78_ok : TiOk Tryd.prog 78 ti78 := TiOk.of (z := (@Go.Value.slice (@Option.none Go.Addr) 0 0)) (d := (@Go.TypeDesc.slice 38)) (by kernel_rfl) (by kernel_rfl) (by kernel_rfl) ⟨by kernel_rfl, by kernel_rfl⟩ rfl rfl (by kernel_rfl) (fun h => nomatch h)
def ti81 : TI := ⟨.other, 1, 8, none, [.un], [], 0, false⟩
theorem ti81_ok : TiOk Tryd.prog 81 ti81 := TiOk.of (z := Go.Value.nilFunc) (d := (@Go.TypeDesc.func (@Array.mk Nat (@List.cons Nat 21 (@List.nil Nat))) (@Array.mk Nat (@List.cons Nat 4 (@List.nil Nat))) Bool.false)) (by kernel_rfl) (by kernel_rfl) (by kernel_rfl) trivial rfl trivial (by kernel_rfl) (fun h => nomatch h)
def ti86 : TI := ⟨.struct, 3, 32, some (.pr (.int .i64) (.pr (.int .i64) .str)), [.v (.int .i64) 0, .v (.int .i64) 0, .v .str []], [(0, 3), (1, 3), (2, 9)], 0, true⟩
theorem ti86_ok : TiOk Tryd.prog 86 ti86 := TiOk.of (z := (@Go.Value.agg (@Array.mk Go.Value (@List.cons Go.Value (@Go.Value.int Go.IntKind.i64 (@Int.ofNat 0)) (@List.cons Go.Value (@Go.Value.int Go.IntKind.i64 (@Int.ofNat 0)) (@List.cons Go.Value (@Go.Value.string (@ByteArray.mk (@Array.mk UInt8 (@List.nil UInt8)))) (@List.nil Go.Value))))))) (d := (@Go.TypeDesc.struct (@Array.mk Go.Field (@List.cons Go.Field (@Go.Field.mk "No" 3 0 Bool.false "" "" 0) (@List.cons Go.Field (@Go.Field.mk "Indent" 3 1 Bool.false "" "" 8) (@List.cons Go.Field (@Go.Field.mk "Text" 9 2 Bool.false "" "" 16) (@List.nil Go.Field))))))) (by kernel_rfl) (by kernel_rfl) (by kernel_rfl) ⟨by kernel_rfl, by kernel_rfl⟩ ⟨_, rfl⟩ ⟨_, rfl, by kernel_rfl, by kernel_rfl⟩ (by kernel_rfl) (fun _ _ => by kernel_rfl)
def ti88 : TI := ⟨.int .u32, 1, 4, some (.int .u32), [.v (.int .u32) 0], [], 0, false⟩
theorem ti88_ok : TiOk Tryd.prog 88 ti88 := TiOk.of (z := (@Go.Value.int Go.IntKind.u32 (@Int.ofNat 0))) (d := (@Go.TypeDesc.int Go.IntKind.u32)) (by kernel_rfl) (by kernel_rfl) (by kernel_rfl) ⟨by kernel_rfl, by kernel_rfl⟩ rfl rfl (by kernel_rfl) (fun h => nomatch h)
def ti91 : TI := ⟨.int .u64, 1, 8, some (.int .u64), [.v (.int .u64) 0], [], 0, false⟩
theorem ti91_ok : TiOk Tryd.prog 91 ti91 := TiOk.of (z := (@Go.Value.int Go.IntKind.u64 (@Int.ofNat 0))) (d := (@Go.TypeDesc.int Go.IntKind.u64)) (by kernel_rfl) (by kernel_rfl) (by kernel_rfl) ⟨by kernel_rfl, by kernel_rfl⟩ rfl rfl (by kernel_rfl) (fun h => nomatch h)
def ti94 : TI := ⟨.ptr, 1, 8, none, [.nilptr], [], 5, false⟩
theorem ti94_ok : TiOk Tryd.prog 94 ti94 := TiOk.of (z := (@Go.Value.pointer (@Option.none Go.Addr))) (d := (@Go.TypeDesc.pointer 5)) (by kernel_rfl) (by kernel_rfl) (by kernel_rfl) trivial rfl rfl (by kernel_rfl) (fun h => nomatch h)
def ti97 : TI := ⟨.ptr, 1, 8, none, [.nilptr], [], 47, false⟩
theorem ti97_ok : TiOk Tryd.prog 97 ti97 := TiOk.of (z := (@Go.Value.pointer (@Option.none Go.Addr))) (d := (@Go.TypeDesc.pointer 47)) (by kernel_rfl) (by kernel_rfl) (by kernel_rfl) trivial rfl rfl (by kernel_rfl) (fun h => nomatch h)
def ti106 : TI := ⟨.ptr, 1, 8, none, [.nilptr], [], 102, false⟩
theorem ti106_ok : TiOk Tryd.prog 106 ti106 := TiOk.of (z := (@Go.Value.pointer (@Option.none Go.Addr))) (d := (@Go.TypeDesc.pointer 102)) (by kernel_rfl) (by kernel_rfl) (by kernel_rfl) trivial rfl rfl (by kernel_rfl) (fun h => nomatch h)
def ti109 : TI := ⟨.ptr, 1, 8, none, [.nilptr], [], 111, false⟩
theorem ti109_ok : TiOk Tryd.prog 109 ti109 := TiOk.of (z := (@Go.Value.pointer (@Option.none Go.Addr))) (d := (@Go.TypeDesc.pointer 111)) (by kernel_rfl) (by kernel_rfl) (by kernel_rfl) trivial rfl rfl (by kernel_rfl) (fun h => nomatch h)
def ti111 : TI := ⟨.struct, 5, 64, some (.pr (.pr (.int .i64) (.pr (.int .i64) .str)) (.pr (.int .i64) (.sl (.pr (.int .i64) (.pr (.int .i64) (.pr (.int .i64) (.pr .str .bool))))))), [.v (.int .i64) 0, .v (.int .i64) 0, .v .str [], .v (.int .i64) 0, .nilsl], [(0, 86), (3, 3), (4, 22)], 0, false⟩
theorem ti111_ok : TiOk Tryd.prog 111 ti111 := TiOk.of (z := (@Go.Value.agg (@Array.mk Go.Value (@List.cons Go.Value (@Go.Value.int Go.IntKind.i64 (@Int.ofNat 0)) (@List.cons Go.Value (@Go.Value.int Go.IntKind.i64 (@Int.ofNat 0)) (@List.cons Go.Value (@Go.Value.string (@ByteArray.mk (@Array.mk UInt8 (@List.nil UInt8)))) (@List.cons Go.Value (@Go.Value.int Go.IntKind.i64 (@Int.ofNat 0)) (@List.cons Go.Value (@Go.Value.slice (@Option.none Go.Addr) 0 0) (@List.nil Go.Value))))))))) (d := (@Go.TypeDesc.struct (@Array.mk Go.Field (@List.cons Go.Field (@Go.Field.mk "l" 86 0 Bool.false "" "turncock/lex" 0) (@List.cons Go.Field (@Go.Field.mk "at" 3 3 Bool.false "" "turncock/lex" 32) (@List.cons Go.Field (@Go.Field.mk "out" 22 4 Bool.false "" "turncock/lex" 40) (@List.nil Go.Field))))))) (by kernel_rfl) (by kernel_rfl) (by kernel_rfl) ⟨by kernel_rfl, by kernel_rfl⟩ ⟨_, rfl⟩ ⟨_, rfl, by kernel_rfl, by kernel_rfl⟩ (by kernel_rfl) (fun h => nomatch h)
def ti148 : TI := ⟨.struct, 4, 40, none, [.nilptr, .nilptr, .nilptr, .v .str []], [(0, 17), (1, 17), (2, 17), (3, 9)], 0, false⟩
theorem ti148_ok : TiOk Tryd.prog 148 ti148 := TiOk.of (z := (@Go.Value.agg (@Array.mk Go.Value (@List.cons Go.Value (@Go.Value.pointer (@Option.none Go.Addr)) (@List.cons Go.Value (@Go.Value.pointer (@Option.none Go.Addr)) (@List.cons Go.Value (@Go.Value.pointer (@Option.none Go.Addr)) (@List.cons Go.Value (@Go.Value.string (@ByteArray.mk (@Array.mk UInt8 (@List.nil UInt8)))) (@List.nil Go.Value)))))))) (d := (@Go.TypeDesc.struct (@Array.mk Go.Field (@List.cons Go.Field (@Go.Field.mk "_interface" 17 0 Bool.false "" "runtime" 0) (@List.cons Go.Field (@Go.Field.mk "concrete" 17 1 Bool.false "" "runtime" 8) (@List.cons Go.Field (@Go.Field.mk "asserted" 17 2 Bool.false "" "runtime" 16) (@List.cons Go.Field (@Go.Field.mk "missingMethod" 9 3 Bool.false "" "runtime" 24) (@List.nil Go.Field)))))))) (by kernel_rfl) (by kernel_rfl) (by kernel_rfl) trivial ⟨_, rfl⟩ ⟨_, rfl, by kernel_rfl, by kernel_rfl⟩ (by kernel_rfl) (fun h => nomatch h)
def ti151 : TI := ⟨.struct, 0, 0, none, [], [(0, 149)], 0, false⟩
theorem ti151_ok : TiOk Tryd.prog 151 ti151 := TiOk.of (z := (@Go.Value.agg (@Array.mk Go.Value (@List.nil Go.Value)))) (d := (@Go.TypeDesc.struct (@Array.mk Go.Field (@List.cons Go.Field (@Go.Field.mk "_" 149 0 Bool.false "" "runtime" 0) (@List.nil Go.Field))))) (by kernel_rfl) (by kernel_rfl) (by kernel_rfl) trivial ⟨_, rfl⟩ ⟨_, rfl, by kernel_rfl, by kernel_rfl⟩ (by kernel_rfl) (fun h => nomatch h)
def ti152 : TI := ⟨.int .u8, 1, 1, some (.int .u8), [.v (.int .u8) 0], [], 0, false⟩
theorem ti152_ok : TiOk Tryd.prog 152 ti152 := TiOk.of (z := (@Go.Value.int Go.IntKind.u8 (@Int.ofNat 0))) (d := (@Go.TypeDesc.int Go.IntKind.u8)) (by kernel_rfl) (by kernel_rfl) (by kernel_rfl) ⟨by kernel_rfl, by kernel_rfl⟩ rfl rfl (by kernel_rfl) (fun h => nomatch h)
def ti153 : TI := ⟨.int .u8, 1, 1, some (.int .u8), [.v (.int .u8) 0], [], 0, false⟩
theorem ti153_ok : TiOk Tryd.prog 153 ti153 := TiOk.of (z := (@Go.Value.int Go.IntKind.u8 (@Int.ofNat 0))) (d := (@Go.TypeDesc.int Go.IntKind.u8)) (by kernel_rfl) (by kernel_rfl) (by kernel_rfl) ⟨by kernel_rfl, by kernel_rfl⟩ rfl rfl (by kernel_rfl) (fun h => nomatch h)
def ti154 : TI := ⟨.other, 1, 8, none, [.un], [], 0, false⟩
theorem ti154_ok : TiOk Tryd.prog 154 ti154 := TiOk.of (z := Go.Value.nilFunc) (d := (@Go.TypeDesc.func (@Array.mk Nat (@List.cons Nat 112 (@List.cons Nat 112 (@List.nil Nat)))) (@Array.mk Nat (@List.cons Nat 4 (@List.nil Nat))) Bool.false)) (by kernel_rfl) (by kernel_rfl) (by kernel_rfl) trivial rfl trivial (by kernel_rfl) (fun h => nomatch h)
def ti155 : TI := ⟨.int .i32, 1, 4, some (.int .i32), [.v (.int .i32) 0], [], 0, false⟩
theorem ti155_ok : TiOk Tryd.prog 155 ti155 := TiOk.of (z := (@Go.Value.int Go.IntKind.i32 (@Int.ofNat 0))) (d := (@Go.TypeDesc.int Go.IntKind.i32)) (by kernel_rfl) (by kernel_rfl) (by kernel_rfl) ⟨by kernel_rfl, by kernel_rfl⟩ rfl rfl (by kernel_rfl) (fun h => nomatch h)
def ti156 : TI := ⟨.int .i32, 1, 4, some (.int .i32), [.v (.int .i32) 0], [], 0, false⟩
theorem ti156_ok : TiOk Tryd.prog 156 ti156 := TiOk.of (z := (@Go.Value.int Go.IntKind.i32 (@Int.ofNat 0))) (d := (@Go.TypeDesc.int Go.IntKind.i32)) (by kernel_rfl) (by kernel_rfl) (by kernel_rfl) ⟨by kernel_rfl, by kernel_rfl⟩ rfl rfl (by kernel_rfl) (fun h => nomatch h)
def ti158 : TI := ⟨.struct, 11, 48, none, [.v (.int .u64) 0, .v (.int .u64) 0, .v (.int .u32) 0, .v (.int .u8) 0, .v (.int .u8) 0, .v (.int .u8) 0, .v (.int .u8) 0, .un, .nilptr, .v (.int .i32) 0, .v (.int .i32) 0], [(0, 12), (1, 12), (2, 88), (3, 152), (4, 5), (5, 5), (6, 153), (7, 154), (8, 94), (9, 155), (10, 156)], 0, false⟩
theorem ti158_ok : TiOk Tryd.prog 158 ti158 := TiOk.of (z := (@Go.Value.agg (@Array.mk Go.Value (@List.cons Go.Value (@Go.Value.int Go.IntKind.u64 (@Int.ofNat 0)) (@List.cons Go.Value (@Go.Value.int Go.IntKind.u64 (@Int.ofNat 0)) (@List.cons Go.Value (@Go.Value.int Go.IntKind.u32 (@Int.ofNat 0)) (@List.cons Go.Value (@Go.Value.int Go.IntKind.u8 (@Int.ofNat 0)) (@List.cons Go.Value (@Go.Value.int Go.IntKind.u8 (@Int.ofNat 0)) (@List.cons Go.Value (@Go.Value.int Go.IntKind.u8 (@Int.ofNat 0)) (@List.cons Go.Value (@Go.Value.int Go.IntKind.u8 (@Int.ofNat 0)) (@List.cons Go.Value Go.Value.nilFunc (@List.cons Go.Value (@Go.Value.pointer (@Option.none Go.Addr)) (@List.cons Go.Value (@Go.Value.int Go.IntKind.i32 (@Int.ofNat 0)) (@List.cons Go.Value (@Go.Value.int Go.IntKind.i32 (@Int.ofNat 0)) (@List.nil Go.Value))))))))))))))) (d := (@Go.TypeDesc.struct (@Array.mk Go.Field (@List.cons Go.Field (@Go.Field.mk "Size_" 12 0 Bool.false "" "" 0) (@List.cons Go.Field (@Go.Field.mk "PtrBytes" 12 1 Bool.false "" "" 8) (@List.cons Go.Field (@Go.Field.mk "Hash" 88 2 Bool.false "" "" 16) (@List.cons Go.Field (@Go.Field.mk "TFlag" 152 3 Bool.false "" "" 20) (@List.cons Go.Field (@Go.Field.mk "Align_" 5 4 Bool.false "" "" 21) (@List.cons Go.Field (@Go.Field.mk "FieldAlign_" 5 5 Bool.false "" "" 22) (@List.cons Go.Field (@Go.Field.mk "Kind_" 153 6 Bool.false "" "" 23) (@List.cons Go.Field (@Go.Field.mk "Equal" 154 7 Bool.false "" "" 24) (@List.cons Go.Field (@Go.Field.mk "GCData" 94 8 Bool.false "" "" 32) (@List.cons Go.Field (@Go.Field.mk "Str" 155 9 Bool.false "" "" 40) (@List.cons Go.Field (@Go.Field.mk "PtrToThis" 156 10 Bool.false "" "" 44) (@List.nil Go.Field))))))))))))))) (by kernel_rfl) (by kernel_rfl) (by kernel_rfl) trivial ⟨_, rfl⟩ ⟨_, rfl, by kernel_rfl, by kernel_rfl⟩ (by kernel_rfl) (fun h => nomatch h)
def tyL : List (Nat × TI) := [(1, ti1), (2, ti2), (3, ti3), (4, ti4), (5, ti5), (6, ti6), (7, ti7), (8, ti8), (9, ti9), (10, ti10), (11, ti11), (12, ti12), (13, ti13), (14, ti14), (15, ti15), (16, ti16), (17, ti17), (18, ti18), (19, ti19), (20, ti20), (21, ti21), (22, ti22), (23, ti23), (24, ti24), (25, ti25), (26, ti26), (28, ti28), (30, ti30), (35, ti35), (38, ti38), (40, ti40), (44, ti44), (45, ti45), (47, ti47), (49, ti49), (51, ti51), (53, ti53), (54, ti54), (55, ti55), (56, ti56), (61, ti61), (65, ti65), (67, ti67), (70, ti70), (78, ti78), (81, ti81), (86, ti86), (88, ti88), (91, ti91), (94, ti94), (97, ti97), (106, ti106), (109, ti109), (111, ti111), (148, ti148), (151, ti151), (152, ti152), (153, ti153), (154, ti154), (155, ti155), (156, ti156), (158, ti158)]
def tyT : TypeId → Option TI := look tyL
theorem tyT_ok : TyOk Tryd.prog tyT := tyOk_of (all_cons ti1_ok (all_cons ti2_ok (all_cons ti3_ok (all_cons ti4_ok (all_cons ti5_ok (all_cons ti6_ok (all_cons ti7_ok (all_cons ti8_ok (all_cons ti9_ok (all_cons ti10_ok (all_cons ti11_ok (all_cons ti12_ok (all_cons ti13_ok (all_cons ti14_ok (all_cons ti15_ok (all_cons ti16_ok (all_cons ti17_ok (all_cons ti18_ok (all_cons ti19_ok (all_cons ti20_ok (all_cons ti21_ok (all_cons ti22_ok (all_cons ti23_ok (all_cons ti24_ok (all_cons ti25_ok (all_cons ti26_ok (all_cons ti28_ok (all_cons ti30_ok (all_cons ti35_ok (all_cons ti38_ok (all_cons ti40_ok (all_cons ti44_ok (all_cons ti45_ok (all_cons ti47_ok (all_cons ti49_ok (all_cons ti51_ok (all_cons ti53_ok (all_cons ti54_ok (all_cons ti55_ok (all_cons ti56_ok (all_cons ti61_ok (all_cons ti65_ok (all_cons ti67_ok (all_cons ti70_ok (all_cons ti78_ok (all_cons ti81_ok (all_cons ti86_ok (all_cons ti88_ok (all_cons ti91_ok (all_cons ti94_ok (all_cons ti97_ok (all_cons ti106_ok (all_cons ti109_ok (all_cons ti111_ok (all_cons ti148_ok (all_cons ti151_ok (all_cons ti152_ok (all_cons ti153_ok (all_cons ti154_ok (all_cons ti155_ok (all_cons ti156_ok (all_cons ti158_ok (all_nil)))))))))))))))))))))))))))))))))))))))))))))))))))))))))))))))
end Go.Proofs.YtpfbdepoammjmaaDoor.Pvm

set_option maxRecDepth 1000000
set_option maxHeartbeats 0
namespace Go.Proofs.YtpfbdepoammjmaaDoor.Pvm
open Go Go.Proofs
def sig_doc_Of_1 : List LS := [.obj 1 [.sl (.pr (.int .i64) (.pr (.int .i64) (.pr .str (.pr .bool (.pr (.sl .str) (.sl (.int .i64)))))))], .obj 2 [.any, .any]]
noncomputable def C_doc_Of_1_n (k : Nat) : CTab := ⟨fun f => [], fun f {_} ps hp K => none⟩
def wrap_doc_Of_1_n {R : Type} (K : ((List (Int × (Int × ((List UInt8) × (Bool × ((List (List UInt8)) × (List Int))))))) → Int → Int → Option R)) : Out → Option R
  | .ret [] [(1, .var 28 [.v (.sl (.pr (.int .i64) (.pr (.int .i64) (.pr .str (.pr .bool (.pr (.sl .str) (.sl (.int .i64)))))))) y0]), (2, .var 30 [.v (.int .i64) y1, .v (.int .i64) y2])] => K y0 y1 y2
  | _ => none
def sp_doc_Of_1_n : RetSpec := ⟨[], [(1, .obj 1 [.sl (.pr (.int .i64) (.pr (.int .i64) (.pr .str (.pr .bool (.pr (.sl .str) (.sl (.int .i64)))))))]), (2, .obj 2 [.any, .any])], []⟩
def cuts_doc_Of_1_n : List (Nat × CutSpec) := []
def plans_doc_Of_1_n : List (Nat × Plan) := [(7, (.of [(0, 1), (1, 2), (2, 0), (3, 0)] .done))]
noncomputable def cx_doc_Of_1_n (k : Nat) : Ctx := ⟨tyT, cuts_doc_Of_1_n, C_doc_Of_1_n k, [], [1, 2], plans_doc_Of_1_n, @SH⟩
noncomputable def code_doc_Of_1_n : Code := Tryd.f14.body.getD .skip
noncomputable def A_doc_Of_1_n (k : Nat) {R : Type}  (x0 : (List (Int × (Int × ((List UInt8) × (Bool × ((List (List UInt8)) × (List Int)))))))) (x1 : Int) (x2 : Int) (K : ((List (Int × (Int × ((List UInt8) × (Bool × ((List (List UInt8)) × (List Int))))))) → Int → Int → Option R)) : Option R := (K x0 x1 x2)
theorem A_doc_Of_1_n_eq (k : Nat) {R : Type} (I : Nat → St → Option R) (x0 : (List (Int × (Int × ((List UInt8) × (Bool × ((List (List UInt8)) × (List Int)))))))) (x1 : Int) (x2 : Int) (K : ((List (Int × (Int × ((List UInt8) × (Bool × ((List (List UInt8)) × (List Int))))))) → Int → Int → Option R)) : fnCK (cx_doc_Of_1_n k) k (at_ [1] code_doc_Of_1_n) 13 [] sp_doc_Of_1_n [.ptr 1 0, .ptr 2 0] 5 (.nilif) [(1, .var 28 [.v (.sl (.pr (.int .i64) (.pr (.int .i64) (.pr .str (.pr .bool (.pr (.sl .str) (.sl (.int .i64)))))))) x0]), (2, .var 30 [.v (.int .i64) x1, .v (.int .i64) x2])] (wrap_doc_Of_1_n K) = A_doc_Of_1_n k  x0 x1 x2 K := by kernel_rfl
noncomputable def F_doc_Of_1_n (k : Nat) {R : Type} (x0 : (List (Int × (Int × ((List UInt8) × (Bool × ((List (List UInt8)) × (List Int)))))))) (x1 : Int) (x2 : Int) (K : ((List (Int × (Int × ((List UInt8) × (Bool × ((List (List UInt8)) × (List Int))))))) → Int → Int → Option R)) : Option R := A_doc_Of_1_n k  x0 x1 x2 K
theorem F_doc_Of_1_n_eq (k : Nat) {R : Type} (x0 : (List (Int × (Int × ((List UInt8) × (Bool × ((List (List UInt8)) × (List Int)))))))) (x1 : Int) (x2 : Int) (K : ((List (Int × (Int × ((List UInt8) × (Bool × ((List (List UInt8)) × (List Int))))))) → Int → Int → Option R)) : fnCK (cx_doc_Of_1_n k) k (at_ [1] code_doc_Of_1_n) 13 [] sp_doc_Of_1_n [.ptr 1 0, .ptr 2 0] 5 (.nilif) [(1, .var 28 [.v (.sl (.pr (.int .i64) (.pr (.int .i64) (.pr .str (.pr .bool (.pr (.sl .str) (.sl (.int .i64)))))))) x0]), (2, .var 30 [.v (.int .i64) x1, .v (.int .i64) x2])] (wrap_doc_Of_1_n K) = F_doc_Of_1_n k x0 x1 x2 K := by
  exact A_doc_Of_1_n_eq k (fun _ _ => none) x0 x1 x2 K
noncomputable def run_doc_Of_1_n (k : Nat) {R : Type} : PV → List PV → List (Nm × HObj) → (Out → Option R) → Option R
  | .nilif, [.ptr 1 0, .ptr 2 0], [(1, .var 28 [.v (.sl (.pr (.int .i64) (.pr (.int .i64) (.pr .str (.pr .bool (.pr (.sl .str) (.sl (.int .i64)))))))) x0]), (2, .var 30 [.v (.int .i64) x1, .v (.int .i64) x2])], K => F_doc_Of_1_n k x0 x1 x2 (fun y0 y1 y2 => K (.ret [] [(1, .var 28 [.v (.sl (.pr (.int .i64) (.pr (.int .i64) (.pr .str (.pr .bool (.pr (.sl .str) (.sl (.int .i64)))))))) y0]), (2, .var 30 [.v (.int .i64) y1, .v (.int .i64) y2])]))
  | _, _, _, _ => none
theorem C_doc_Of_1_n_ok (k : Nat) : (C_doc_Of_1_n k).Ok Tryd.prog := by
  intro f ps hp R K r h
  unfold C_doc_Of_1_n at h
  simp only at h
  cases h
theorem DD_doc_Of_1_n (k : Nat) {rec : PV} {ps : List PV} {hp : List (Nm × HObj)} {R : Type} {K : Out → Option R} {r : R} (h : run_doc_Of_1_n k rec ps hp K = some r) : DoesToD Tryd.prog 14 rec ps hp fun out => K out = some r := by
  unfold run_doc_Of_1_n at h
  split at h
  · rw [← F_doc_Of_1_n_eq] at h
    have := fnCK_ok (P := Tryd.prog) (cx := cx_doc_Of_1_n k) (f := 14) ⟨tyT_ok, C_doc_Of_1_n_ok k, fun _ _ => rfl⟩ (by kernel_rfl) (fn := Tryd.f14) (id := 0) (ops := opsAt (at_ [0] code_doc_Of_1_n)) (c := at_ [1] code_doc_Of_1_n) (by kernel_rfl) (by kernel_rfl) (by kernel_rfl) (rs := []) (by kernel_rfl) (by kernel_rfl) h
    exact this.mono fun out ho => by
      unfold wrap_doc_Of_1_n at ho
      split at ho <;> first | exact ho | cases ho
  · cases h
end Go.Proofs.YtpfbdepoammjmaaDoor.Pvm

set_option maxRecDepth 1000000
set_option maxHeartbeats 0
namespace Go.Proofs.YtpfbdepoammjmaaDoor.Pvm
open Go Go.Proofs
noncomputable def C_doc_Of_1_p (k : Nat) : CTab := ⟨fun f => [], fun f {_} ps hp K => none⟩
def wrap_doc_Of_1_p {R : Type} (K : ((List (Int × (Int × ((List UInt8) × (Bool × ((List (List UInt8)) × (List Int))))))) → Int → Int → Option R)) : Out → Option R
  | .ret [] [(1, .var 28 [.v (.sl (.pr (.int .i64) (.pr (.int .i64) (.pr .str (.pr .bool (.pr (.sl .str) (.sl (.int .i64)))))))) y0]), (2, .var 30 [.v (.int .i64) y1, .v (.int .i64) y2])] => K y0 y1 y2
  | _ => none
def sp_doc_Of_1_p : RetSpec := ⟨[], [(1, .obj 1 [.sl (.pr (.int .i64) (.pr (.int .i64) (.pr .str (.pr .bool (.pr (.sl .str) (.sl (.int .i64)))))))]), (2, .obj 2 [.any, .any])], []⟩
def cuts_doc_Of_1_p : List (Nat × CutSpec) := []
def plans_doc_Of_1_p : List (Nat × Plan) := [(7, (.of [(0, 1), (1, 2), (2, 0), (3, 0)] .done))]
noncomputable def cx_doc_Of_1_p (k : Nat) : Ctx := ⟨tyT, cuts_doc_Of_1_p, C_doc_Of_1_p k, [], [1, 2], plans_doc_Of_1_p, @SH⟩
noncomputable def code_doc_Of_1_p : Code := Tryd.f14.body.getD .skip
noncomputable def A_doc_Of_1_p (k : Nat) {R : Type}  (x0 : (List (Int × (Int × ((List UInt8) × (Bool × ((List (List UInt8)) × (List Int)))))))) (x1 : Int) (x2 : Int) (x3 : Int) (x4 : Int) (K : ((List (Int × (Int × ((List UInt8) × (Bool × ((List (List UInt8)) × (List Int))))))) → Int → Int → Option R)) : Option R := (K [] x3 x4)
theorem A_doc_Of_1_p_eq (k : Nat) {R : Type} (I : Nat → St → Option R) (x0 : (List (Int × (Int × ((List UInt8) × (Bool × ((List (List UInt8)) × (List Int)))))))) (x1 : Int) (x2 : Int) (x3 : Int) (x4 : Int) (K : ((List (Int × (Int × ((List UInt8) × (Bool × ((List (List UInt8)) × (List Int))))))) → Int → Int → Option R)) : fnCK (cx_doc_Of_1_p k) k (at_ [1] code_doc_Of_1_p) 13 [] sp_doc_Of_1_p [.ptr 1 0, .ptr 2 0] 5 (.ifc 30 (.agg [.v (.int .i64) x3, .v (.int .i64) x4])) [(1, .var 28 [.v (.sl (.pr (.int .i64) (.pr (.int .i64) (.pr .str (.pr .bool (.pr (.sl .str) (.sl (.int .i64)))))))) x0]), (2, .var 30 [.v (.int .i64) x1, .v (.int .i64) x2])] (wrap_doc_Of_1_p K) = A_doc_Of_1_p k  x0 x1 x2 x3 x4 K := by kernel_rfl
noncomputable def F_doc_Of_1_p (k : Nat) {R : Type} (x0 : (List (Int × (Int × ((List UInt8) × (Bool × ((List (List UInt8)) × (List Int)))))))) (x1 : Int) (x2 : Int) (x3 : Int) (x4 : Int) (K : ((List (Int × (Int × ((List UInt8) × (Bool × ((List (List UInt8)) × (List Int))))))) → Int → Int → Option R)) : Option R := A_doc_Of_1_p k  x0 x1 x2 x3 x4 K
theorem F_doc_Of_1_p_eq (k : Nat) {R : Type} (x0 : (List (Int × (Int × ((List UInt8) × (Bool × ((List (List UInt8)) × (List Int)))))))) (x1 : Int) (x2 : Int) (x3 : Int) (x4 : Int) (K : ((List (Int × (Int × ((List UInt8) × (Bool × ((List (List UInt8)) × (List Int))))))) → Int → Int → Option R)) : fnCK (cx_doc_Of_1_p k) k (at_ [1] code_doc_Of_1_p) 13 [] sp_doc_Of_1_p [.ptr 1 0, .ptr 2 0] 5 (.ifc 30 (.agg [.v (.int .i64) x3, .v (.int .i64) x4])) [(1, .var 28 [.v (.sl (.pr (.int .i64) (.pr (.int .i64) (.pr .str (.pr .bool (.pr (.sl .str) (.sl (.int .i64)))))))) x0]), (2, .var 30 [.v (.int .i64) x1, .v (.int .i64) x2])] (wrap_doc_Of_1_p K) = F_doc_Of_1_p k x0 x1 x2 x3 x4 K := by
  exact A_doc_Of_1_p_eq k (fun _ _ => none) x0 x1 x2 x3 x4 K
noncomputable def run_doc_Of_1_p (k : Nat) {R : Type} : PV → List PV → List (Nm × HObj) → (Out → Option R) → Option R
  | .ifc 30 (.agg [.v (.int .i64) x3, .v (.int .i64) x4]), [.ptr 1 0, .ptr 2 0], [(1, .var 28 [.v (.sl (.pr (.int .i64) (.pr (.int .i64) (.pr .str (.pr .bool (.pr (.sl .str) (.sl (.int .i64)))))))) x0]), (2, .var 30 [.v (.int .i64) x1, .v (.int .i64) x2])], K => F_doc_Of_1_p k x0 x1 x2 x3 x4 (fun y0 y1 y2 => K (.ret [] [(1, .var 28 [.v (.sl (.pr (.int .i64) (.pr (.int .i64) (.pr .str (.pr .bool (.pr (.sl .str) (.sl (.int .i64)))))))) y0]), (2, .var 30 [.v (.int .i64) y1, .v (.int .i64) y2])]))
  | _, _, _, _ => none
theorem C_doc_Of_1_p_ok (k : Nat) : (C_doc_Of_1_p k).Ok Tryd.prog := by
  intro f ps hp R K r h
  unfold C_doc_Of_1_p at h
  simp only at h
  cases h
theorem DD_doc_Of_1_p (k : Nat) {rec : PV} {ps : List PV} {hp : List (Nm × HObj)} {R : Type} {K : Out → Option R} {r : R} (h : run_doc_Of_1_p k rec ps hp K = some r) : DoesToD Tryd.prog 14 rec ps hp fun out => K out = some r := by
  unfold run_doc_Of_1_p at h
  split at h
  · rw [← F_doc_Of_1_p_eq] at h
    have := fnCK_ok (P := Tryd.prog) (cx := cx_doc_Of_1_p k) (f := 14) ⟨tyT_ok, C_doc_Of_1_p_ok k, fun _ _ => rfl⟩ (by kernel_rfl) (fn := Tryd.f14) (id := 0) (ops := opsAt (at_ [0] code_doc_Of_1_p)) (c := at_ [1] code_doc_Of_1_p) (by kernel_rfl) (by kernel_rfl) (by kernel_rfl) (rs := []) (by kernel_rfl) (by kernel_rfl) h
    exact this.mono fun out ho => by
      unfold wrap_doc_Of_1_p at ho
      split at ho <;> first | exact ho | cases ho
  · cases h
end Go.Proofs.YtpfbdepoammjmaaDoor.Pvm

set_option maxRecDepth 1000000
set_option maxHeartbeats 0
namespace Go.Proofs.YtpfbdepoammjmaaDoor.Pvm
open Go Go.Proofs
def sig_doc_gives : List LS := [.any, .any]
noncomputable def C_doc_gives (k : Nat) : CTab := ⟨fun f => [], fun f {_} ps hp K => none⟩
def wrap_doc_gives {R : Type} (E : (Int → Int → Option R)) : Out → Option R
  | .pan (.ifc 30 (.agg [.v (.int .i64) z0, .v (.int .i64) z1])) [] => E z0 z1
  | _ => none
def sp_doc_gives : RetSpec := ⟨[], [], []⟩
def cuts_doc_gives : List (Nat × CutSpec) := []
def plans_doc_gives : List (Nat × Plan) := []
noncomputable def cx_doc_gives (k : Nat) : Ctx := ⟨tyT, cuts_doc_gives, C_doc_gives k, [], [], plans_doc_gives, @SH⟩
noncomputable def code_doc_gives : Code := Tryd.f15.body.getD .skip
noncomputable def A_doc_gives (k : Nat) {R : Type}  (x0 : Int) (x1 : Int) (E : (Int → Int → Option R)) : Option R := (E x0 x1)
theorem A_doc_gives_eq (k : Nat) {R : Type} (I : Nat → St → Option R) (x0 : Int) (x1 : Int) (E : (Int → Int → Option R)) : fnK (cx_doc_gives k) k code_doc_gives 8 [] sp_doc_gives [.v (.int .i64) x0, .v (.int .i64) x1] [] (wrap_doc_gives E) = A_doc_gives k  x0 x1 E := by kernel_rfl
noncomputable def F_doc_gives (k : Nat) {R : Type} (x0 : Int) (x1 : Int) (E : (Int → Int → Option R)) : Option R := A_doc_gives k  x0 x1 E
theorem F_doc_gives_eq (k : Nat) {R : Type} (x0 : Int) (x1 : Int) (E : (Int → Int → Option R)) : fnK (cx_doc_gives k) k code_doc_gives 8 [] sp_doc_gives [.v (.int .i64) x0, .v (.int .i64) x1] [] (wrap_doc_gives E) = F_doc_gives k x0 x1 E := by
  exact A_doc_gives_eq k (fun _ _ => none) x0 x1 E
noncomputable def run_doc_gives (k : Nat) {R : Type} : List PV → List (Nm × HObj) → (Out → Option R) → Option R
  | [.v (.int .i64) x0, .v (.int .i64) x1], [], K => F_doc_gives k x0 x1  (fun z0 z1 => K (.pan (.ifc 30 (.agg [.v (.int .i64) z0, .v (.int .i64) z1])) []))
  | _, _, _ => none
theorem C_doc_gives_ok (k : Nat) : (C_doc_gives k).Ok Tryd.prog := by
  intro f ps hp R K r h
  unfold C_doc_gives at h
  simp only at h
  cases h
theorem D_doc_gives (k : Nat) {ps : List PV} {hp : List (Nm × HObj)} {R : Type} {K : Out → Option R} {r : R} (h : run_doc_gives k ps hp K = some r) : DoesTo Tryd.prog 15 ps hp fun out => K out = some r := by
  unfold run_doc_gives at h
  split at h
  · rw [← F_doc_gives_eq] at h
    have := fn_ok (P := Tryd.prog) (cx := cx_doc_gives k) (f := 15) ⟨tyT_ok, C_doc_gives_ok k, fun _ _ => rfl⟩ (by kernel_rfl) (fn := Tryd.f15) (c := code_doc_gives) (by kernel_rfl) (by kernel_rfl) (by kernel_rfl) (rs := []) (by kernel_rfl) (by kernel_rfl) h
    exact this.mono fun out ho => by
      unfold wrap_doc_gives at ho
      split at ho <;> first | exact ho | cases ho
  · cases h
end Go.Proofs.YtpfbdepoammjmaaDoor.Pvm

set_option maxRecDepth 1000000
set_option maxHeartbeats 0
namespace Go.Proofs.YtpfbdepoammjmaaDoor.Pvm
open Go Go.Proofs
abbrev KT_doc_parser_next (R : Type) : Type := ((List (Int × (Int × (Int × ((List UInt8) × Bool))))) → (List (Int × (Int × ((List UInt8) × (Bool × ((List (List UInt8)) × (List Int))))))) → Bool → Option R)
def sig_doc_parser_next : List LS := [.obj 1 [.sl (.pr (.int .i64) (.pr (.int .i64) (.pr (.int .i64) (.pr .str .bool)))), .own 21 47 (.pr (.int .i64) (.pr (.int .i64) (.pr .str (.pr .bool (.pr (.sl .str) (.sl (.int .i64)))))))], .any, .any]
noncomputable def C_doc_parser_next (k : Nat) : CTab := ⟨fun f => [], fun f {_} ps hp K => none⟩
def wrap_doc_parser_next {R : Type} (K : KT_doc_parser_next R) : Out → Option R
  | .ret [.v .bool y2] [(21, .row 47 (.pr (.int .i64) (.pr (.int .i64) (.pr .str (.pr .bool (.pr (.sl .str) (.sl (.int .i64))))))) y1), (1, .var 51 [.v (.sl (.pr (.int .i64) (.pr (.int .i64) (.pr (.int .i64) (.pr .str .bool))))) y0, .row 21])] => K y0 y1 y2
  | _ => none
def sp_doc_parser_next : RetSpec := ⟨[.any], [(1, .obj 1 [.sl (.pr (.int .i64) (.pr (.int .i64) (.pr (.int .i64) (.pr .str .bool)))), .own 21 47 (.pr (.int .i64) (.pr (.int .i64) (.pr .str (.pr .bool (.pr (.sl .str) (.sl (.int .i64)))))))])], []⟩
def cuts_doc_parser_next : List (Nat × CutSpec) := []
def plans_doc_parser_next : List (Nat × Plan) := []
noncomputable def cx_doc_parser_next (k : Nat) : Ctx := ⟨tyT, cuts_doc_parser_next, C_doc_parser_next k, [], [1], plans_doc_parser_next, @SH⟩
noncomputable def code_doc_parser_next : Code := Tryd.f43.body.getD .skip
noncomputable def A_doc_parser_next (k : Nat) {R : Type}  (x0 : (List (Int × (Int × (Int × ((List UInt8) × Bool)))))) (x1 : (List (Int × (Int × ((List UInt8) × (Bool × ((List (List UInt8)) × (List Int)))))))) (x2 : Int) (x3 : Int) (K : KT_doc_parser_next R) : Option R := (@cond (@Option R) (@Bool.or (@Bool.not (@BEq.beq (@Kd.T Kd.bool) (@instBEqOfDecidableEq (@Kd.T Kd.bool) @instDecidableEqBool) (@Decidable.decide (@GT.gt Int Int.instLTInt (@Nat.cast Int instNatCastInt (@List.length (@Kd.T (@Kd.pr kI (@Kd.pr kI (@Kd.pr kI (@Kd.pr Kd.str Kd.bool))))) x0)) (0 : Int)) (@Int.decLt (0 : Int) (@Nat.cast Int instNatCastInt (@List.length (@Kd.T (@Kd.pr kI (@Kd.pr kI (@Kd.pr kI (@Kd.pr Kd.str Kd.bool))))) x0)))) Bool.true)) (@inb (0 : Int) (@Nat.cast Int instNatCastInt (@List.length (@Kd.T (@Kd.pr kI (@Kd.pr kI (@Kd.pr kI (@Kd.pr Kd.str Kd.bool))))) x0)))) (@cond (@Option R) (@Bool.or (@Bool.not (@BEq.beq (@Kd.T Kd.bool) (@instBEqOfDecidableEq (@Kd.T Kd.bool) @instDecidableEqBool) (@cond (@Kd.T Kd.bool) (@Decidable.decide (@GT.gt Int Int.instLTInt (@Nat.cast Int instNatCastInt (@List.length (@Kd.T (@Kd.pr kI (@Kd.pr kI (@Kd.pr kI (@Kd.pr Kd.str Kd.bool))))) x0)) (0 : Int)) (@Int.decLt (0 : Int) (@Nat.cast Int instNatCastInt (@List.length (@Kd.T (@Kd.pr kI (@Kd.pr kI (@Kd.pr kI (@Kd.pr Kd.str Kd.bool))))) x0)))) (@BEq.beq Int (@instBEqOfDecidableEq Int @Int.instDecidableEq) (@List.getD (@Kd.T (@Kd.pr kI (@Kd.pr kI (@Kd.pr kI (@Kd.pr Kd.str Kd.bool))))) x0 (@Int.toNat (0 : Int)) (@Kd.zero (@Kd.pr kI (@Kd.pr kI (@Kd.pr kI (@Kd.pr Kd.str Kd.bool)))))).1 x2) Bool.false) Bool.true)) (@inb (0 : Int) (@Nat.cast Int instNatCastInt (@List.length (@Kd.T (@Kd.pr kI (@Kd.pr kI (@Kd.pr kI (@Kd.pr Kd.str Kd.bool))))) x0)))) (K x0 x1 (@cond (@Kd.T Kd.bool) (@cond (@Kd.T Kd.bool) (@Decidable.decide (@GT.gt Int Int.instLTInt (@Nat.cast Int instNatCastInt (@List.length (@Kd.T (@Kd.pr kI (@Kd.pr kI (@Kd.pr kI (@Kd.pr Kd.str Kd.bool))))) x0)) (0 : Int)) (@Int.decLt (0 : Int) (@Nat.cast Int instNatCastInt (@List.length (@Kd.T (@Kd.pr kI (@Kd.pr kI (@Kd.pr kI (@Kd.pr Kd.str Kd.bool))))) x0)))) (@BEq.beq Int (@instBEqOfDecidableEq Int @Int.instDecidableEq) (@List.getD (@Kd.T (@Kd.pr kI (@Kd.pr kI (@Kd.pr kI (@Kd.pr Kd.str Kd.bool))))) x0 (@Int.toNat (0 : Int)) (@Kd.zero (@Kd.pr kI (@Kd.pr kI (@Kd.pr kI (@Kd.pr Kd.str Kd.bool)))))).1 x2) Bool.false) (@BEq.beq Int (@instBEqOfDecidableEq Int @Int.instDecidableEq) (@List.getD (@Kd.T (@Kd.pr kI (@Kd.pr kI (@Kd.pr kI (@Kd.pr Kd.str Kd.bool))))) x0 (@Int.toNat (0 : Int)) (@Kd.zero (@Kd.pr kI (@Kd.pr kI (@Kd.pr kI (@Kd.pr Kd.str Kd.bool)))))).2.2.1 x3) Bool.false)) (@Option.none R)) (@Option.none R))
theorem A_doc_parser_next_eq (k : Nat) {R : Type} (I : Nat → St → Option R) (x0 : (List (Int × (Int × (Int × ((List UInt8) × Bool)))))) (x1 : (List (Int × (Int × ((List UInt8) × (Bool × ((List (List UInt8)) × (List Int)))))))) (x2 : Int) (x3 : Int) (K : KT_doc_parser_next R) : fnK (cx_doc_parser_next k) k code_doc_parser_next 35 [.tmp 6] sp_doc_parser_next [.ptr 1 0, .v (.int .i64) x2, .v (.int .i64) x3] [(21, .row 47 (.pr (.int .i64) (.pr (.int .i64) (.pr .str (.pr .bool (.pr (.sl .str) (.sl (.int .i64))))))) x1), (1, .var 51 [.v (.sl (.pr (.int .i64) (.pr (.int .i64) (.pr (.int .i64) (.pr .str .bool))))) x0, .row 21])] (wrap_doc_parser_next K) = A_doc_parser_next k  x0 x1 x2 x3 K := by kernel_rfl
noncomputable def F_doc_parser_next (k : Nat) {R : Type} (x0 : (List (Int × (Int × (Int × ((List UInt8) × Bool)))))) (x1 : (List (Int × (Int × ((List UInt8) × (Bool × ((List (List UInt8)) × (List Int)))))))) (x2 : Int) (x3 : Int) (K : KT_doc_parser_next R) : Option R := A_doc_parser_next k  x0 x1 x2 x3 K
theorem F_doc_parser_next_eq (k : Nat) {R : Type} (x0 : (List (Int × (Int × (Int × ((List UInt8) × Bool)))))) (x1 : (List (Int × (Int × ((List UInt8) × (Bool × ((List (List UInt8)) × (List Int)))))))) (x2 : Int) (x3 : Int) (K : KT_doc_parser_next R) : fnK (cx_doc_parser_next k) k code_doc_parser_next 35 [.tmp 6] sp_doc_parser_next [.ptr 1 0, .v (.int .i64) x2, .v (.int .i64) x3] [(21, .row 47 (.pr (.int .i64) (.pr (.int .i64) (.pr .str (.pr .bool (.pr (.sl .str) (.sl (.int .i64))))))) x1), (1, .var 51 [.v (.sl (.pr (.int .i64) (.pr (.int .i64) (.pr (.int .i64) (.pr .str .bool))))) x0, .row 21])] (wrap_doc_parser_next K) = F_doc_parser_next k x0 x1 x2 x3 K := by
  exact A_doc_parser_next_eq k (fun _ _ => none) x0 x1 x2 x3 K
noncomputable def run_doc_parser_next (k : Nat) {R : Type} : List PV → List (Nm × HObj) → (Out → Option R) → Option R
  | [.ptr 1 0, .v (.int .i64) x2, .v (.int .i64) x3], [(21, .row 47 (.pr (.int .i64) (.pr (.int .i64) (.pr .str (.pr .bool (.pr (.sl .str) (.sl (.int .i64))))))) x1), (1, .var 51 [.v (.sl (.pr (.int .i64) (.pr (.int .i64) (.pr (.int .i64) (.pr .str .bool))))) x0, .row 21])], K => F_doc_parser_next k x0 x1 x2 x3 (fun y0 y1 y2 => K (.ret [.v .bool y2] [(21, .row 47 (.pr (.int .i64) (.pr (.int .i64) (.pr .str (.pr .bool (.pr (.sl .str) (.sl (.int .i64))))))) y1), (1, .var 51 [.v (.sl (.pr (.int .i64) (.pr (.int .i64) (.pr (.int .i64) (.pr .str .bool))))) y0, .row 21])]))
  | _, _, _ => none
theorem C_doc_parser_next_ok (k : Nat) : (C_doc_parser_next k).Ok Tryd.prog := by
  intro f ps hp R K r h
  unfold C_doc_parser_next at h
  simp only at h
  cases h
theorem D_doc_parser_next (k : Nat) {ps : List PV} {hp : List (Nm × HObj)} {R : Type} {K : Out → Option R} {r : R} (h : run_doc_parser_next k ps hp K = some r) : DoesTo Tryd.prog 43 ps hp fun out => K out = some r := by
  unfold run_doc_parser_next at h
  split at h
  · rw [← F_doc_parser_next_eq] at h
    have := fn_ok (P := Tryd.prog) (cx := cx_doc_parser_next k) (f := 43) ⟨tyT_ok, C_doc_parser_next_ok k, fun _ _ => rfl⟩ (by kernel_rfl) (fn := Tryd.f43) (c := code_doc_parser_next) (by kernel_rfl) (by kernel_rfl) (by kernel_rfl) (rs := [.tmp 6]) (by kernel_rfl) (by kernel_rfl) h
    exact this.mono fun out ho => by
      unfold wrap_doc_parser_next at ho
      split at ho <;> first | exact ho | cases ho
  · cases h
end Go.Proofs.YtpfbdepoammjmaaDoor.Pvm

set_option maxRecDepth 1000000
set_option maxHeartbeats 0
namespace Go.Proofs.YtpfbdepoammjmaaDoor.Pvm
open Go Go.Proofs
abbrev KT_doc_parser_take (R : Type) : Type := ((List (Int × (Int × (Int × ((List UInt8) × Bool))))) → (List (Int × (Int × ((List UInt8) × (Bool × ((List (List UInt8)) × (List Int))))))) → Int → Int → Int → (List UInt8) → Bool → Option R)
def sig_doc_parser_take : List LS := [.obj 1 [.sl (.pr (.int .i64) (.pr (.int .i64) (.pr (.int .i64) (.pr .str .bool)))), .own 21 47 (.pr (.int .i64) (.pr (.int .i64) (.pr .str (.pr .bool (.pr (.sl .str) (.sl (.int .i64)))))))]]
noncomputable def C_doc_parser_take (k : Nat) : CTab := ⟨fun f => [], fun f {_} ps hp K => none⟩
def wrap_doc_parser_take {R : Type} (K : KT_doc_parser_take R) : Out → Option R
  | .ret [.agg [.v (.int .i64) y2, .v (.int .i64) y3, .v (.int .i64) y4, .v .str y5, .v .bool y6]] [(21, .row 47 (.pr (.int .i64) (.pr (.int .i64) (.pr .str (.pr .bool (.pr (.sl .str) (.sl (.int .i64))))))) y1), (1, .var 51 [.v (.sl (.pr (.int .i64) (.pr (.int .i64) (.pr (.int .i64) (.pr .str .bool))))) y0, .row 21])] => K y0 y1 y2 y3 y4 y5 y6
  | _ => none
def sp_doc_parser_take : RetSpec := ⟨[.ag [.any, .any, .any, .any, .any]], [(1, .obj 1 [.sl (.pr (.int .i64) (.pr (.int .i64) (.pr (.int .i64) (.pr .str .bool)))), .own 21 47 (.pr (.int .i64) (.pr (.int .i64) (.pr .str (.pr .bool (.pr (.sl .str) (.sl (.int .i64)))))))])], []⟩
def cuts_doc_parser_take : List (Nat × CutSpec) := []
def plans_doc_parser_take : List (Nat × Plan) := []
noncomputable def cx_doc_parser_take (k : Nat) : Ctx := ⟨tyT, cuts_doc_parser_take, C_doc_parser_take k, [], [1], plans_doc_parser_take, @SH⟩
noncomputable def code_doc_parser_take : Code := Tryd.f28.body.getD .skip
noncomputable def A_doc_parser_take (k : Nat) {R : Type}  (x0 : (List (Int × (Int × (Int × ((List UInt8) × Bool)))))) (x1 : (List (Int × (Int × ((List UInt8) × (Bool × ((List (List UInt8)) × (List Int)))))))) (K : KT_doc_parser_take R) : Option R := (@cond (@Option R) (@inb (0 : Int) (@Nat.cast Int instNatCastInt (@List.length (@Kd.T (@Kd.pr kI (@Kd.pr kI (@Kd.pr kI (@Kd.pr Kd.str Kd.bool))))) x0))) (@cond (@Option R) (@bnd (1 : Int) (@Nat.cast Int instNatCastInt (@List.length (@Kd.T (@Kd.pr kI (@Kd.pr kI (@Kd.pr kI (@Kd.pr Kd.str Kd.bool))))) x0)) (@Nat.cast Int instNatCastInt (@List.length (@Kd.T (@Kd.pr kI (@Kd.pr kI (@Kd.pr kI (@Kd.pr Kd.str Kd.bool))))) x0))) (K (@cut (@Kd.T (@Kd.pr kI (@Kd.pr kI (@Kd.pr kI (@Kd.pr Kd.str Kd.bool))))) x0 (1 : Int) (@Nat.cast Int instNatCastInt (@List.length (@Kd.T (@Kd.pr kI (@Kd.pr kI (@Kd.pr kI (@Kd.pr Kd.str Kd.bool))))) x0))) x1 (@List.getD (@Kd.T (@Kd.pr kI (@Kd.pr kI (@Kd.pr kI (@Kd.pr Kd.str Kd.bool))))) x0 (@Int.toNat (0 : Int)) (@Kd.zero (@Kd.pr kI (@Kd.pr kI (@Kd.pr kI (@Kd.pr Kd.str Kd.bool)))))).1 (@List.getD (@Kd.T (@Kd.pr kI (@Kd.pr kI (@Kd.pr kI (@Kd.pr Kd.str Kd.bool))))) x0 (@Int.toNat (0 : Int)) (@Kd.zero (@Kd.pr kI (@Kd.pr kI (@Kd.pr kI (@Kd.pr Kd.str Kd.bool)))))).2.1 (@List.getD (@Kd.T (@Kd.pr kI (@Kd.pr kI (@Kd.pr kI (@Kd.pr Kd.str Kd.bool))))) x0 (@Int.toNat (0 : Int)) (@Kd.zero (@Kd.pr kI (@Kd.pr kI (@Kd.pr kI (@Kd.pr Kd.str Kd.bool)))))).2.2.1 (@List.getD (@Kd.T (@Kd.pr kI (@Kd.pr kI (@Kd.pr kI (@Kd.pr Kd.str Kd.bool))))) x0 (@Int.toNat (0 : Int)) (@Kd.zero (@Kd.pr kI (@Kd.pr kI (@Kd.pr kI (@Kd.pr Kd.str Kd.bool)))))).2.2.2.1 (@List.getD (@Kd.T (@Kd.pr kI (@Kd.pr kI (@Kd.pr kI (@Kd.pr Kd.str Kd.bool))))) x0 (@Int.toNat (0 : Int)) (@Kd.zero (@Kd.pr kI (@Kd.pr kI (@Kd.pr kI (@Kd.pr Kd.str Kd.bool)))))).2.2.2.2) (@Option.none R)) (@Option.none R))
theorem A_doc_parser_take_eq (k : Nat) {R : Type} (I : Nat → St → Option R) (x0 : (List (Int × (Int × (Int × ((List UInt8) × Bool)))))) (x1 : (List (Int × (Int × ((List UInt8) × (Bool × ((List (List UInt8)) × (List Int)))))))) (K : KT_doc_parser_take R) : fnK (cx_doc_parser_take k) k code_doc_parser_take 19 [.cell 2 25] sp_doc_parser_take [.ptr 1 0] [(21, .row 47 (.pr (.int .i64) (.pr (.int .i64) (.pr .str (.pr .bool (.pr (.sl .str) (.sl (.int .i64))))))) x1), (1, .var 51 [.v (.sl (.pr (.int .i64) (.pr (.int .i64) (.pr (.int .i64) (.pr .str .bool))))) x0, .row 21])] (wrap_doc_parser_take K) = A_doc_parser_take k  x0 x1 K := by kernel_rfl
noncomputable def F_doc_parser_take (k : Nat) {R : Type} (x0 : (List (Int × (Int × (Int × ((List UInt8) × Bool)))))) (x1 : (List (Int × (Int × ((List UInt8) × (Bool × ((List (List UInt8)) × (List Int)))))))) (K : KT_doc_parser_take R) : Option R := A_doc_parser_take k  x0 x1 K
theorem F_doc_parser_take_eq (k : Nat) {R : Type} (x0 : (List (Int × (Int × (Int × ((List UInt8) × Bool)))))) (x1 : (List (Int × (Int × ((List UInt8) × (Bool × ((List (List UInt8)) × (List Int)))))))) (K : KT_doc_parser_take R) : fnK (cx_doc_parser_take k) k code_doc_parser_take 19 [.cell 2 25] sp_doc_parser_take [.ptr 1 0] [(21, .row 47 (.pr (.int .i64) (.pr (.int .i64) (.pr .str (.pr .bool (.pr (.sl .str) (.sl (.int .i64))))))) x1), (1, .var 51 [.v (.sl (.pr (.int .i64) (.pr (.int .i64) (.pr (.int .i64) (.pr .str .bool))))) x0, .row 21])] (wrap_doc_parser_take K) = F_doc_parser_take k x0 x1 K := by
  exact A_doc_parser_take_eq k (fun _ _ => none) x0 x1 K
noncomputable def run_doc_parser_take (k : Nat) {R : Type} : List PV → List (Nm × HObj) → (Out → Option R) → Option R
  | [.ptr 1 0], [(21, .row 47 (.pr (.int .i64) (.pr (.int .i64) (.pr .str (.pr .bool (.pr (.sl .str) (.sl (.int .i64))))))) x1), (1, .var 51 [.v (.sl (.pr (.int .i64) (.pr (.int .i64) (.pr (.int .i64) (.pr .str .bool))))) x0, .row 21])], K => F_doc_parser_take k x0 x1 (fun y0 y1 y2 y3 y4 y5 y6 => K (.ret [.agg [.v (.int .i64) y2, .v (.int .i64) y3, .v (.int .i64) y4, .v .str y5, .v .bool y6]] [(21, .row 47 (.pr (.int .i64) (.pr (.int .i64) (.pr .str (.pr .bool (.pr (.sl .str) (.sl (.int .i64))))))) y1), (1, .var 51 [.v (.sl (.pr (.int .i64) (.pr (.int .i64) (.pr (.int .i64) (.pr .str .bool))))) y0, .row 21])]))
  | _, _, _ => none
theorem C_doc_parser_take_ok (k : Nat) : (C_doc_parser_take k).Ok Tryd.prog := by
  intro f ps hp R K r h
  unfold C_doc_parser_take at h
  simp only at h
  cases h
theorem D_doc_parser_take (k : Nat) {ps : List PV} {hp : List (Nm × HObj)} {R : Type} {K : Out → Option R} {r : R} (h : run_doc_parser_take k ps hp K = some r) : DoesTo Tryd.prog 28 ps hp fun out => K out = some r := by
  unfold run_doc_parser_take at h
  split at h
  · rw [← F_doc_parser_take_eq] at h
    have := fn_ok (P := Tryd.prog) (cx := cx_doc_parser_take k) (f := 28) ⟨tyT_ok, C_doc_parser_take_ok k, fun _ _ => rfl⟩ (by kernel_rfl) (fn := Tryd.f28) (c := code_doc_parser_take) (by kernel_rfl) (by kernel_rfl) (by kernel_rfl) (rs := [.cell 2 25]) (by kernel_rfl) (by kernel_rfl) h
    exact this.mono fun out ho => by
      unfold wrap_doc_parser_take at ho
      split at ho <;> first | exact ho | cases ho
  · cases h
end Go.Proofs.YtpfbdepoammjmaaDoor.Pvm

set_option maxRecDepth 1000000
set_option maxHeartbeats 0
namespace Go.Proofs.YtpfbdepoammjmaaDoor.Pvm
open Go Go.Proofs
def sig_slices_Index___string_string : List LS := [.sl .str, .any]
noncomputable def C_slices_Index___string_string (k : Nat) : CTab := ⟨fun f => [], fun f {_} ps hp K => none⟩
def wrap_slices_Index___string_string {R : Type} (K : (Int → Option R)) : Out → Option R
  | .ret [.v (.int .i64) y0] [] => K y0
  | _ => none
def sp_slices_Index___string_string : RetSpec := ⟨[.any], [], []⟩
def cuts_slices_Index___string_string : List (Nat × CutSpec) := [(1002, ⟨[(0, .sl .str), (1, .any), (7, .any), (8, .any)], []⟩)]
def plans_slices_Index___string_string : List (Nat × Plan) := []
noncomputable def cx_slices_Index___string_string (k : Nat) : Ctx := ⟨tyT, cuts_slices_Index___string_string, C_slices_Index___string_string k, [], [], plans_slices_Index___string_string, @SH⟩
noncomputable def code_slices_Index___string_string : Code := Tryd.f58.body.getD .skip
def st_slices_Index___string_string_1002 (s0 : (List (List UInt8))) (s1 : (List UInt8)) (s2 : Int) (s3 : Int) : St := ⟨mkT [(0, .v (.sl .str) s0), (1, .v .str s1), (7, .v (.int .i64) s2), (8, .v (.int .i64) s3)], mkH []⟩
noncomputable def B_slices_Index___string_string_1002 (k : Nat) {R : Type} (E1002 : ((List (List UInt8)) → (List UInt8) → Int → Int → Option R)) (s0 : (List (List UInt8))) (s1 : (List UInt8)) (s2 : Int) (s3 : Int) (K : (Int → Option R)) : Option R := (@cond (@Option R) (@Decidable.decide (@LT.lt Int Int.instLTInt s3 s2) (@Int.decLt s3 s2)) (@cond (@Option R) (@inb s3 (@Nat.cast Int instNatCastInt (@List.length (@Kd.T Kd.str) s0))) (@cond (@Option R) (@BEq.beq (@List UInt8) (@List.instBEq UInt8 (@instBEqOfDecidableEq UInt8 @instDecidableEqUInt8)) s1 (@List.getD (@Kd.T Kd.str) s0 (@Int.toNat s3) (@Kd.zero Kd.str))) (K s3) (E1002 s0 s1 s2 (@Go.IntKind.wrap Go.IntKind.i64 (@HAdd.hAdd Int Int Int (@instHAdd Int @Int.instAdd) s3 (1 : Int))))) (@Option.none R)) (K (@Neg.neg Int @Int.instNegInt (1 : Int))))
theorem B_slices_Index___string_string_1002_eq (k : Nat) {R : Type} (I : Nat → St → Option R) (s0 : (List (List UInt8))) (s1 : (List UInt8)) (s2 : Int) (s3 : Int) (K : (Int → Option R)) : execK (cx_slices_Index___string_string k) k (at_ [1, 0, 1, 0, 0] code_slices_Index___string_string) (st_slices_Index___string_string_1002 s0 s1 s2 s3) (konts (cx_slices_Index___string_string k) k I [1, 0, 1, 0, 0] code_slices_Index___string_string (outK (cx_slices_Index___string_string k) sp_slices_Index___string_string [.tmp 4] (wrap_slices_Index___string_string K))) = B_slices_Index___string_string_1002 k (fun s0 s1 s2 s3 => I 1002 (st_slices_Index___string_string_1002 s0 s1 s2 s3)) s0 s1 s2 s3 K := by kernel_rfl
noncomputable def A_slices_Index___string_string (k : Nat) {R : Type} (E1002 : ((List (List UInt8)) → (List UInt8) → Int → Int → Option R)) (x0 : (List (List UInt8))) (x1 : (List UInt8)) (K : (Int → Option R)) : Option R := (E1002 x0 x1 (@Nat.cast Int instNatCastInt (@List.length (@Kd.T Kd.str) x0)) (0 : Int))
theorem A_slices_Index___string_string_eq (k : Nat) {R : Type} (I : Nat → St → Option R) (x0 : (List (List UInt8))) (x1 : (List UInt8)) (K : (Int → Option R)) : fnK (cx_slices_Index___string_string k) k code_slices_Index___string_string 19 [.tmp 4] sp_slices_Index___string_string [.v (.sl .str) x0, .v .str x1] [] (wrap_slices_Index___string_string K) = A_slices_Index___string_string k (fun s0 s1 s2 s3 => iter (cx_slices_Index___string_string k).pv (look (cx_slices_Index___string_string k).cuts 1002) (execK (cx_slices_Index___string_string k) k (at_ [1, 0, 1, 0, 0] code_slices_Index___string_string)) k (st_slices_Index___string_string_1002 s0 s1 s2 s3) (konts (cx_slices_Index___string_string k) k I [1, 0, 1, 0] code_slices_Index___string_string (outK (cx_slices_Index___string_string k) sp_slices_Index___string_string [.tmp 4] (wrap_slices_Index___string_string K)))) x0 x1 K := by kernel_rfl
noncomputable def L_slices_Index___string_string_1002 (k : Nat) {R : Type}  : Nat → (List (List UInt8)) → (List UInt8) → Int → Int → (Int → Option R) → Option R
  | 0, _, _, _, _, _ => none
  | n + 1, s0, s1, s2, s3, K => B_slices_Index___string_string_1002 k (fun s0 s1 s2 s3 => L_slices_Index___string_string_1002 k  n s0 s1 s2 s3 K) s0 s1 s2 s3 K
theorem L_slices_Index___string_string_1002_eq (k : Nat) {R : Type} (I : Nat → St → Option R) (K : (Int → Option R)) : ∀ (n : Nat) (s0 : (List (List UInt8))) (s1 : (List UInt8)) (s2 : Int) (s3 : Int), iter (cx_slices_Index___string_string k).pv (look (cx_slices_Index___string_string k).cuts 1002) (execK (cx_slices_Index___string_string k) k (at_ [1, 0, 1, 0, 0] code_slices_Index___string_string)) n (st_slices_Index___string_string_1002 s0 s1 s2 s3) (konts (cx_slices_Index___string_string k) k I [1, 0, 1, 0] code_slices_Index___string_string (outK (cx_slices_Index___string_string k) sp_slices_Index___string_string [.tmp 4] (wrap_slices_Index___string_string K))) = L_slices_Index___string_string_1002 k  n s0 s1 s2 s3 K := by
  intro n
  induction n with
  | zero => intros; rfl
  | succ n ih =>
    intro s0 s1 s2 s3
    let I' : Nat → St → Option R := fun id s => bif Nat.beq id 1002 then iter (cx_slices_Index___string_string k).pv (look (cx_slices_Index___string_string k).cuts 1002) (execK (cx_slices_Index___string_string k) k (at_ [1, 0, 1, 0, 0] code_slices_Index___string_string)) n s (konts (cx_slices_Index___string_string k) k I [1, 0, 1, 0] code_slices_Index___string_string (outK (cx_slices_Index___string_string k) sp_slices_Index___string_string [.tmp 4] (wrap_slices_Index___string_string K))) else I id s
    have e := B_slices_Index___string_string_1002_eq k I' s0 s1 s2 s3 K
    have h1002 : (fun s0 s1 s2 s3 => I' 1002 (st_slices_Index___string_string_1002 s0 s1 s2 s3)) = (fun s0 s1 s2 s3 => L_slices_Index___string_string_1002 k  n s0 s1 s2 s3 K) := by funext s0 s1 s2 s3; exact ih s0 s1 s2 s3
    refine Eq.trans (?_ : _ = _) (e.trans (Eq.trans ((congrArg ((fun E1002 => B_slices_Index___string_string_1002 k E1002 s0 s1 s2 s3 K)) h1002)) (by rw [L_slices_Index___string_string_1002])))
    rfl
noncomputable def F_slices_Index___string_string (k : Nat) {R : Type} (x0 : (List (List UInt8))) (x1 : (List UInt8)) (K : (Int → Option R)) : Option R := A_slices_Index___string_string k (fun s0 s1 s2 s3 => L_slices_Index___string_string_1002 k k s0 s1 s2 s3 K) x0 x1 K
theorem F_slices_Index___string_string_eq (k : Nat) {R : Type} (x0 : (List (List UInt8))) (x1 : (List UInt8)) (K : (Int → Option R)) : fnK (cx_slices_Index___string_string k) k code_slices_Index___string_string 19 [.tmp 4] sp_slices_Index___string_string [.v (.sl .str) x0, .v .str x1] [] (wrap_slices_Index___string_string K) = F_slices_Index___string_string k x0 x1 K := by
  let I : Nat → St → Option R := fun _ _ => none
  have h1002 : (fun s0 s1 s2 s3 => iter (cx_slices_Index___string_string k).pv (look (cx_slices_Index___string_string k).cuts 1002) (execK (cx_slices_Index___string_string k) k (at_ [1, 0, 1, 0, 0] code_slices_Index___string_string)) k (st_slices_Index___string_string_1002 s0 s1 s2 s3) (konts (cx_slices_Index___string_string k) k I [1, 0, 1, 0] code_slices_Index___string_string (outK (cx_slices_Index___string_string k) sp_slices_Index___string_string [.tmp 4] (wrap_slices_Index___string_string K)))) = (fun s0 s1 s2 s3 => L_slices_Index___string_string_1002 k k s0 s1 s2 s3 K) := by funext s0 s1 s2 s3; exact L_slices_Index___string_string_1002_eq k I K k s0 s1 s2 s3
  exact (A_slices_Index___string_string_eq k I x0 x1 K).trans (congrArg ((fun E1002 => A_slices_Index___string_string k E1002 x0 x1 K)) h1002)
noncomputable def run_slices_Index___string_string (k : Nat) {R : Type} : List PV → List (Nm × HObj) → (Out → Option R) → Option R
  | [.v (.sl .str) x0, .v .str x1], [], K => F_slices_Index___string_string k x0 x1 (fun y0 => K (.ret [.v (.int .i64) y0] []))
  | _, _, _ => none
theorem C_slices_Index___string_string_ok (k : Nat) : (C_slices_Index___string_string k).Ok Tryd.prog := by
  intro f ps hp R K r h
  unfold C_slices_Index___string_string at h
  simp only at h
  cases h
theorem D_slices_Index___string_string (k : Nat) {ps : List PV} {hp : List (Nm × HObj)} {R : Type} {K : Out → Option R} {r : R} (h : run_slices_Index___string_string k ps hp K = some r) : DoesTo Tryd.prog 58 ps hp fun out => K out = some r := by
  unfold run_slices_Index___string_string at h
  split at h
  · rw [← F_slices_Index___string_string_eq] at h
    have := fn_ok (P := Tryd.prog) (cx := cx_slices_Index___string_string k) (f := 58) ⟨tyT_ok, C_slices_Index___string_string_ok k, fun _ _ => rfl⟩ (by kernel_rfl) (fn := Tryd.f58) (c := code_slices_Index___string_string) (by kernel_rfl) (by kernel_rfl) (by kernel_rfl) (rs := [.tmp 4]) (by kernel_rfl) (by kernel_rfl) h
    exact this.mono fun out ho => by
      unfold wrap_slices_Index___string_string at ho
      split at ho <;> first | exact ho | cases ho
  · cases h
end Go.Proofs.YtpfbdepoammjmaaDoor.Pvm

set_option maxRecDepth 1000000
set_option maxHeartbeats 0
namespace Go.Proofs.YtpfbdepoammjmaaDoor.Pvm
open Go Go.Proofs
def sig_slices_Contains___string_string : List LS := [.sl .str, .any]
noncomputable def C_slices_Contains___string_string (k : Nat) : CTab := ⟨fun f => bif Nat.beq f 58 then sig_slices_Index___string_string else [], fun f {_} ps hp K => bif Nat.beq f 58 then run_slices_Index___string_string k ps hp K else none⟩
def wrap_slices_Contains___string_string {R : Type} (K : (Bool → Option R)) : Out → Option R
  | .ret [.v .bool y0] [] => K y0
  | _ => none
def sp_slices_Contains___string_string : RetSpec := ⟨[.any], [], []⟩
def cuts_slices_Contains___string_string : List (Nat × CutSpec) := []
def plans_slices_Contains___string_string : List (Nat × Plan) := []
noncomputable def cx_slices_Contains___string_string (k : Nat) : Ctx := ⟨tyT, cuts_slices_Contains___string_string, C_slices_Contains___string_string k, [], [], plans_slices_Contains___string_string, @SH⟩
noncomputable def code_slices_Contains___string_string : Code := Tryd.f45.body.getD .skip
noncomputable def A_slices_Contains___string_string (k : Nat) {R : Type}  (x0 : (List (List UInt8))) (x1 : (List UInt8)) (K : (Bool → Option R)) : Option R := (@F_slices_Index___string_string k R x0 x1 (fun (y5 : Int) => (K (@Decidable.decide (@GE.ge Int Int.instLEInt y5 (0 : Int)) (@Int.decLe (0 : Int) y5)))))
theorem A_slices_Contains___string_string_eq (k : Nat) {R : Type} (I : Nat → St → Option R) (x0 : (List (List UInt8))) (x1 : (List UInt8)) (K : (Bool → Option R)) : fnK (cx_slices_Contains___string_string k) k code_slices_Contains___string_string 9 [.tmp 4] sp_slices_Contains___string_string [.v (.sl .str) x0, .v .str x1] [] (wrap_slices_Contains___string_string K) = A_slices_Contains___string_string k  x0 x1 K := by kernel_rfl
noncomputable def F_slices_Contains___string_string (k : Nat) {R : Type} (x0 : (List (List UInt8))) (x1 : (List UInt8)) (K : (Bool → Option R)) : Option R := A_slices_Contains___string_string k  x0 x1 K
theorem F_slices_Contains___string_string_eq (k : Nat) {R : Type} (x0 : (List (List UInt8))) (x1 : (List UInt8)) (K : (Bool → Option R)) : fnK (cx_slices_Contains___string_string k) k code_slices_Contains___string_string 9 [.tmp 4] sp_slices_Contains___string_string [.v (.sl .str) x0, .v .str x1] [] (wrap_slices_Contains___string_string K) = F_slices_Contains___string_string k x0 x1 K := by
  exact A_slices_Contains___string_string_eq k (fun _ _ => none) x0 x1 K
noncomputable def run_slices_Contains___string_string (k : Nat) {R : Type} : List PV → List (Nm × HObj) → (Out → Option R) → Option R
  | [.v (.sl .str) x0, .v .str x1], [], K => F_slices_Contains___string_string k x0 x1 (fun y0 => K (.ret [.v .bool y0] []))
  | _, _, _ => none
theorem C_slices_Contains___string_string_ok (k : Nat) : (C_slices_Contains___string_string k).Ok Tryd.prog := by
  intro f ps hp R K r h
  unfold C_slices_Contains___string_string at h
  simp only at h
  cases hb58 : Nat.beq f 58 with
  | true => rw [hb58, cond_true] at h; rw [Nat.eq_of_beq_eq_true hb58]; exact D_slices_Index___string_string k h
  | false =>
  rw [hb58, cond_false] at h
  cases h
theorem D_slices_Contains___string_string (k : Nat) {ps : List PV} {hp : List (Nm × HObj)} {R : Type} {K : Out → Option R} {r : R} (h : run_slices_Contains___string_string k ps hp K = some r) : DoesTo Tryd.prog 45 ps hp fun out => K out = some r := by
  unfold run_slices_Contains___string_string at h
  split at h
  · rw [← F_slices_Contains___string_string_eq] at h
    have := fn_ok (P := Tryd.prog) (cx := cx_slices_Contains___string_string k) (f := 45) ⟨tyT_ok, C_slices_Contains___string_string_ok k, fun _ _ => rfl⟩ (by kernel_rfl) (fn := Tryd.f45) (c := code_slices_Contains___string_string) (by kernel_rfl) (by kernel_rfl) (by kernel_rfl) (rs := [.tmp 4]) (by kernel_rfl) (by kernel_rfl) h
    exact this.mono fun out ho => by
      unfold wrap_slices_Contains___string_string at ho
      split at ho <;> first | exact ho | cases ho
  · cases h
end Go.Proofs.YtpfbdepoammjmaaDoor.Pvm

set_option maxRecDepth 1000000
set_option maxHeartbeats 0
namespace Go.Proofs.YtpfbdepoammjmaaDoor.Pvm
open Go Go.Proofs
abbrev XT_doc_parser_block : Type 1 := (R : Type) → (List (Int × (Int × (Int × ((List UInt8) × Bool))))) → (List (Int × (Int × ((List UInt8) × (Bool × ((List (List UInt8)) × (List Int))))))) → Int → ((List (Int × (Int × (Int × ((List UInt8) × Bool))))) → (List (Int × (Int × ((List UInt8) × (Bool × ((List (List UInt8)) × (List Int))))))) → Int → Option R) → ((List (Int × (Int × (Int × ((List UInt8) × Bool))))) → (List (Int × (Int × ((List UInt8) × (Bool × ((List (List UInt8)) × (List Int))))))) → Int → Int → Option R) → Option R
abbrev XT_doc_parser_list : Type 1 := (R : Type) → (List (Int × (Int × (Int × ((List UInt8) × Bool))))) → (List (Int × (Int × ((List UInt8) × (Bool × ((List (List UInt8)) × (List Int))))))) → Int → Int → Int → ((List (Int × (Int × (Int × ((List UInt8) × Bool))))) → (List (Int × (Int × ((List UInt8) × (Bool × ((List (List UInt8)) × (List Int))))))) → Option R) → ((List (Int × (Int × (Int × ((List UInt8) × Bool))))) → (List (Int × (Int × ((List UInt8) × (Bool × ((List (List UInt8)) × (List Int))))))) → Int → Int → Option R) → Option R
abbrev XT_doc_parser_pairs : Type 1 := (R : Type) → (List (Int × (Int × (Int × ((List UInt8) × Bool))))) → (List (Int × (Int × ((List UInt8) × (Bool × ((List (List UInt8)) × (List Int))))))) → Int → Int → Int → ((List (Int × (Int × (Int × ((List UInt8) × Bool))))) → (List (Int × (Int × ((List UInt8) × (Bool × ((List (List UInt8)) × (List Int))))))) → Option R) → ((List (Int × (Int × (Int × ((List UInt8) × Bool))))) → (List (Int × (Int × ((List UInt8) × (Bool × ((List (List UInt8)) × (List Int))))))) → Int → Int → Option R) → Option R
abbrev XT_doc_parser_under : Type 1 := (R : Type) → (List (Int × (Int × (Int × ((List UInt8) × Bool))))) → (List (Int × (Int × ((List UInt8) × (Bool × ((List (List UInt8)) × (List Int))))))) → Int → Int → Int → (List UInt8) → Bool → Int → ((List (Int × (Int × (Int × ((List UInt8) × Bool))))) → (List (Int × (Int × ((List UInt8) × (Bool × ((List (List UInt8)) × (List Int))))))) → Int → Option R) → ((List (Int × (Int × (Int × ((List UInt8) × Bool))))) → (List (Int × (Int × ((List UInt8) × (Bool × ((List (List UInt8)) × (List Int))))))) → Int → Int → Option R) → Option R
abbrev KT_doc_parser_block (R : Type) : Type := ((List (Int × (Int × (Int × ((List UInt8) × Bool))))) → (List (Int × (Int × ((List UInt8) × (Bool × ((List (List UInt8)) × (List Int))))))) → Int → Option R)
abbrev ET_doc_parser_block (R : Type) : Type := ((List (Int × (Int × (Int × ((List UInt8) × Bool))))) → (List (Int × (Int × ((List UInt8) × (Bool × ((List (List UInt8)) × (List Int))))))) → Int → Int → Option R)
abbrev KT_doc_parser_list (R : Type) : Type := ((List (Int × (Int × (Int × ((List UInt8) × Bool))))) → (List (Int × (Int × ((List UInt8) × (Bool × ((List (List UInt8)) × (List Int))))))) → Option R)
def sig_doc_parser_block : List LS := [.obj 1 [.sl (.pr (.int .i64) (.pr (.int .i64) (.pr (.int .i64) (.pr .str .bool)))), .own 21 47 (.pr (.int .i64) (.pr (.int .i64) (.pr .str (.pr .bool (.pr (.sl .str) (.sl (.int .i64)))))))], .any]
noncomputable def runX_doc_parser_block (X_doc_parser_block : XT_doc_parser_block) {R : Type} : List PV → List (Nm × HObj) → (Out → Option R) → Option R
  | [.ptr 1 0, .v (.int .i64) x2], [(21, .row 47 (.pr (.int .i64) (.pr (.int .i64) (.pr .str (.pr .bool (.pr (.sl .str) (.sl (.int .i64))))))) x1), (1, .var 51 [.v (.sl (.pr (.int .i64) (.pr (.int .i64) (.pr (.int .i64) (.pr .str .bool))))) x0, .row 21])], K => X_doc_parser_block R x0 x1 x2 (fun y0 y1 y2 => K (.ret [.v (.int .i64) y2] [(21, .row 47 (.pr (.int .i64) (.pr (.int .i64) (.pr .str (.pr .bool (.pr (.sl .str) (.sl (.int .i64))))))) y1), (1, .var 51 [.v (.sl (.pr (.int .i64) (.pr (.int .i64) (.pr (.int .i64) (.pr .str .bool))))) y0, .row 21])])) (fun z0 z1 z2 z3 => K (.pan (.ifc 30 (.agg [.v (.int .i64) z2, .v (.int .i64) z3])) [(21, .row 47 (.pr (.int .i64) (.pr (.int .i64) (.pr .str (.pr .bool (.pr (.sl .str) (.sl (.int .i64))))))) z1), (1, .var 51 [.v (.sl (.pr (.int .i64) (.pr (.int .i64) (.pr (.int .i64) (.pr .str .bool))))) z0, .row 21])]))
  | _, _, _ => none
def sig_doc_parser_list : List LS := [.obj 1 [.sl (.pr (.int .i64) (.pr (.int .i64) (.pr (.int .i64) (.pr .str .bool)))), .own 21 47 (.pr (.int .i64) (.pr (.int .i64) (.pr .str (.pr .bool (.pr (.sl .str) (.sl (.int .i64)))))))], .any, .any, .any]
noncomputable def runX_doc_parser_list (X_doc_parser_list : XT_doc_parser_list) {R : Type} : List PV → List (Nm × HObj) → (Out → Option R) → Option R
  | [.ptr 1 0, .v (.int .i64) x2, .v (.int .i64) x3, .v (.int .i64) x4], [(21, .row 47 (.pr (.int .i64) (.pr (.int .i64) (.pr .str (.pr .bool (.pr (.sl .str) (.sl (.int .i64))))))) x1), (1, .var 51 [.v (.sl (.pr (.int .i64) (.pr (.int .i64) (.pr (.int .i64) (.pr .str .bool))))) x0, .row 21])], K => X_doc_parser_list R x0 x1 x2 x3 x4 (fun y0 y1 => K (.ret [] [(21, .row 47 (.pr (.int .i64) (.pr (.int .i64) (.pr .str (.pr .bool (.pr (.sl .str) (.sl (.int .i64))))))) y1), (1, .var 51 [.v (.sl (.pr (.int .i64) (.pr (.int .i64) (.pr (.int .i64) (.pr .str .bool))))) y0, .row 21])])) (fun z0 z1 z2 z3 => K (.pan (.ifc 30 (.agg [.v (.int .i64) z2, .v (.int .i64) z3])) [(21, .row 47 (.pr (.int .i64) (.pr (.int .i64) (.pr .str (.pr .bool (.pr (.sl .str) (.sl (.int .i64))))))) z1), (1, .var 51 [.v (.sl (.pr (.int .i64) (.pr (.int .i64) (.pr (.int .i64) (.pr .str .bool))))) z0, .row 21])]))
  | _, _, _ => none
def sig_doc_parser_pairs : List LS := [.obj 1 [.sl (.pr (.int .i64) (.pr (.int .i64) (.pr (.int .i64) (.pr .str .bool)))), .own 21 47 (.pr (.int .i64) (.pr (.int .i64) (.pr .str (.pr .bool (.pr (.sl .str) (.sl (.int .i64)))))))], .any, .any, .any]
noncomputable def runX_doc_parser_pairs (X_doc_parser_pairs : XT_doc_parser_pairs) {R : Type} : List PV → List (Nm × HObj) → (Out → Option R) → Option R
  | [.ptr 1 0, .v (.int .i64) x2, .v (.int .i64) x3, .v (.int .i64) x4], [(21, .row 47 (.pr (.int .i64) (.pr (.int .i64) (.pr .str (.pr .bool (.pr (.sl .str) (.sl (.int .i64))))))) x1), (1, .var 51 [.v (.sl (.pr (.int .i64) (.pr (.int .i64) (.pr (.int .i64) (.pr .str .bool))))) x0, .row 21])], K => X_doc_parser_pairs R x0 x1 x2 x3 x4 (fun y0 y1 => K (.ret [] [(21, .row 47 (.pr (.int .i64) (.pr (.int .i64) (.pr .str (.pr .bool (.pr (.sl .str) (.sl (.int .i64))))))) y1), (1, .var 51 [.v (.sl (.pr (.int .i64) (.pr (.int .i64) (.pr (.int .i64) (.pr .str .bool))))) y0, .row 21])])) (fun z0 z1 z2 z3 => K (.pan (.ifc 30 (.agg [.v (.int .i64) z2, .v (.int .i64) z3])) [(21, .row 47 (.pr (.int .i64) (.pr (.int .i64) (.pr .str (.pr .bool (.pr (.sl .str) (.sl (.int .i64))))))) z1), (1, .var 51 [.v (.sl (.pr (.int .i64) (.pr (.int .i64) (.pr (.int .i64) (.pr .str .bool))))) z0, .row 21])]))
  | _, _, _ => none
def sig_doc_parser_under : List LS := [.obj 1 [.sl (.pr (.int .i64) (.pr (.int .i64) (.pr (.int .i64) (.pr .str .bool)))), .own 21 47 (.pr (.int .i64) (.pr (.int .i64) (.pr .str (.pr .bool (.pr (.sl .str) (.sl (.int .i64)))))))], .ag [.any, .any, .any, .any, .any], .any]
noncomputable def runX_doc_parser_under (X_doc_parser_under : XT_doc_parser_under) {R : Type} : List PV → List (Nm × HObj) → (Out → Option R) → Option R
  | [.ptr 1 0, .agg [.v (.int .i64) x2, .v (.int .i64) x3, .v (.int .i64) x4, .v .str x5, .v .bool x6], .v (.int .i64) x7], [(21, .row 47 (.pr (.int .i64) (.pr (.int .i64) (.pr .str (.pr .bool (.pr (.sl .str) (.sl (.int .i64))))))) x1), (1, .var 51 [.v (.sl (.pr (.int .i64) (.pr (.int .i64) (.pr (.int .i64) (.pr .str .bool))))) x0, .row 21])], K => X_doc_parser_under R x0 x1 x2 x3 x4 x5 x6 x7 (fun y0 y1 y2 => K (.ret [.v (.int .i64) y2] [(21, .row 47 (.pr (.int .i64) (.pr (.int .i64) (.pr .str (.pr .bool (.pr (.sl .str) (.sl (.int .i64))))))) y1), (1, .var 51 [.v (.sl (.pr (.int .i64) (.pr (.int .i64) (.pr (.int .i64) (.pr .str .bool))))) y0, .row 21])])) (fun z0 z1 z2 z3 => K (.pan (.ifc 30 (.agg [.v (.int .i64) z2, .v (.int .i64) z3])) [(21, .row 47 (.pr (.int .i64) (.pr (.int .i64) (.pr .str (.pr .bool (.pr (.sl .str) (.sl (.int .i64))))))) z1), (1, .var 51 [.v (.sl (.pr (.int .i64) (.pr (.int .i64) (.pr (.int .i64) (.pr .str .bool))))) z0, .row 21])]))
  | _, _, _ => none
noncomputable def C_doc_parser_block (k : Nat) (X_doc_parser_block : XT_doc_parser_block) (X_doc_parser_list : XT_doc_parser_list) (X_doc_parser_pairs : XT_doc_parser_pairs) (X_doc_parser_under : XT_doc_parser_under) : CTab := ⟨fun f => bif Nat.beq f 15 then sig_doc_gives else bif Nat.beq f 28 then sig_doc_parser_take else bif Nat.beq f 29 then sig_doc_parser_list else bif Nat.beq f 30 then sig_doc_parser_pairs else [], fun f {_} ps hp K => bif Nat.beq f 15 then run_doc_gives k ps hp K else bif Nat.beq f 28 then run_doc_parser_take k ps hp K else bif Nat.beq f 29 then runX_doc_parser_list X_doc_parser_list ps hp K else bif Nat.beq f 30 then runX_doc_parser_pairs X_doc_parser_pairs ps hp K else none⟩
def wrap_doc_parser_block {R : Type} (K : KT_doc_parser_block R) (E : ET_doc_parser_block R) : Out → Option R
  | .ret [.v (.int .i64) y2] [(21, .row 47 (.pr (.int .i64) (.pr (.int .i64) (.pr .str (.pr .bool (.pr (.sl .str) (.sl (.int .i64))))))) y1), (1, .var 51 [.v (.sl (.pr (.int .i64) (.pr (.int .i64) (.pr (.int .i64) (.pr .str .bool))))) y0, .row 21])] => K y0 y1 y2
  | .pan (.ifc 30 (.agg [.v (.int .i64) z2, .v (.int .i64) z3])) [(21, .row 47 (.pr (.int .i64) (.pr (.int .i64) (.pr .str (.pr .bool (.pr (.sl .str) (.sl (.int .i64))))))) z1), (1, .var 51 [.v (.sl (.pr (.int .i64) (.pr (.int .i64) (.pr (.int .i64) (.pr .str .bool))))) z0, .row 21])] => E z0 z1 z2 z3
  | _ => none
def sp_doc_parser_block : RetSpec := ⟨[.any], [(1, .obj 1 [.sl (.pr (.int .i64) (.pr (.int .i64) (.pr (.int .i64) (.pr .str .bool)))), .own 21 47 (.pr (.int .i64) (.pr (.int .i64) (.pr .str (.pr .bool (.pr (.sl .str) (.sl (.int .i64)))))))])], [(1, .obj 1 [.sl (.pr (.int .i64) (.pr (.int .i64) (.pr (.int .i64) (.pr .str .bool)))), .own 21 47 (.pr (.int .i64) (.pr (.int .i64) (.pr .str (.pr .bool (.pr (.sl .str) (.sl (.int .i64)))))))])]⟩
def cuts_doc_parser_block : List (Nat × CutSpec) := []
def plans_doc_parser_block : List (Nat × Plan) := [(9, (.of [(0, 1), (1, 1), (2, 1), (3, 1), (4, 1), (6, 1), (5, 1), (7, 1), (8, 1), (9, 0), (10, 0), (11, 1), (12, 1), (13, 1), (14, 0)] .done)), (14, (.of [(0, 1), (1, 1), (2, 1), (3, 1), (5, 1), (6, 1), (8, 1), (10, 1), (4, 1), (7, 1), (9, 1), (11, 1), (12, 1), (13, 1), (14, 0)] .done))]
noncomputable def cx_doc_parser_block (k : Nat) (X_doc_parser_block : XT_doc_parser_block) (X_doc_parser_list : XT_doc_parser_list) (X_doc_parser_pairs : XT_doc_parser_pairs) (X_doc_parser_under : XT_doc_parser_under) : Ctx := ⟨tyT, cuts_doc_parser_block, C_doc_parser_block k X_doc_parser_block X_doc_parser_list X_doc_parser_pairs X_doc_parser_under, [], [1], plans_doc_parser_block, @SH⟩
noncomputable def code_doc_parser_block : Code := Tryd.f16.body.getD .skip
noncomputable def A_doc_parser_block (k : Nat) (X_doc_parser_block : XT_doc_parser_block) (X_doc_parser_list : XT_doc_parser_list) (X_doc_parser_pairs : XT_doc_parser_pairs) (X_doc_parser_under : XT_doc_parser_under) {R : Type}  (x0 : (List (Int × (Int × (Int × ((List UInt8) × Bool)))))) (x1 : (List (Int × (Int × ((List UInt8) × (Bool × ((List (List UInt8)) × (List Int)))))))) (x2 : Int) (K : KT_doc_parser_block R) (E : ET_doc_parser_block R) : Option R := (@cond (@Option R) (@inb (0 : Int) (@Nat.cast Int instNatCastInt (@List.length (@Kd.T (@Kd.pr kI (@Kd.pr kI (@Kd.pr kI (@Kd.pr Kd.str Kd.bool))))) x0))) (@cond (@Option R) (@cond (@Kd.T Kd.bool) (@Decidable.decide (@LT.lt Int Int.instLTInt (@List.getD (@Kd.T (@Kd.pr kI (@Kd.pr kI (@Kd.pr kI (@Kd.pr Kd.str Kd.bool))))) x0 (@Int.toNat (0 : Int)) (@Kd.zero (@Kd.pr kI (@Kd.pr kI (@Kd.pr kI (@Kd.pr Kd.str Kd.bool)))))).1 (1 : Int)) (@Int.decLt (@List.getD (@Kd.T (@Kd.pr kI (@Kd.pr kI (@Kd.pr kI (@Kd.pr Kd.str Kd.bool))))) x0 (@Int.toNat (0 : Int)) (@Kd.zero (@Kd.pr kI (@Kd.pr kI (@Kd.pr kI (@Kd.pr Kd.str Kd.bool)))))).1 (1 : Int))) Bool.true (@Decidable.decide (@GT.gt Int Int.instLTInt (@List.getD (@Kd.T (@Kd.pr kI (@Kd.pr kI (@Kd.pr kI (@Kd.pr Kd.str Kd.bool))))) x0 (@Int.toNat (0 : Int)) (@Kd.zero (@Kd.pr kI (@Kd.pr kI (@Kd.pr kI (@Kd.pr Kd.str Kd.bool)))))).1 (3 : Int)) (@Int.decLt (3 : Int) (@List.getD (@Kd.T (@Kd.pr kI (@Kd.pr kI (@Kd.pr kI (@Kd.pr Kd.str Kd.bool))))) x0 (@Int.toNat (0 : Int)) (@Kd.zero (@Kd.pr kI (@Kd.pr kI (@Kd.pr kI (@Kd.pr Kd.str Kd.bool)))))).1))) (@F_doc_gives k R (6 : Int) (@List.getD (@Kd.T (@Kd.pr kI (@Kd.pr kI (@Kd.pr kI (@Kd.pr Kd.str Kd.bool))))) x0 (@Int.toNat (0 : Int)) (@Kd.zero (@Kd.pr kI (@Kd.pr kI (@Kd.pr kI (@Kd.pr Kd.str Kd.bool)))))).2.1 (fun (y7 : Int) => (fun (y8 : Int) => (E x0 x1 y7 y8)))) (@cond (@Option R) (@Decidable.decide (@GT.gt Int Int.instLTInt x2 (24 : Int)) (@Int.decLt (24 : Int) x2)) (@F_doc_gives k R (8 : Int) (@List.getD (@Kd.T (@Kd.pr kI (@Kd.pr kI (@Kd.pr kI (@Kd.pr Kd.str Kd.bool))))) x0 (@Int.toNat (0 : Int)) (@Kd.zero (@Kd.pr kI (@Kd.pr kI (@Kd.pr kI (@Kd.pr Kd.str Kd.bool)))))).2.1 (fun (y7 : Int) => (fun (y8 : Int) => (E x0 x1 y7 y8)))) (@cond (@Option R) (@Decidable.decide (@GE.ge Int Int.instLEInt (@Nat.cast Int instNatCastInt (@List.length (@Kd.T (@Kd.pr kI (@Kd.pr kI (@Kd.pr Kd.str (@Kd.pr Kd.bool (@Kd.pr (@Kd.sl Kd.str) (@Kd.sl kI))))))) x1)) (2000 : Int)) (@Int.decLe (2000 : Int) (@Nat.cast Int instNatCastInt (@List.length (@Kd.T (@Kd.pr kI (@Kd.pr kI (@Kd.pr Kd.str (@Kd.pr Kd.bool (@Kd.pr (@Kd.sl Kd.str) (@Kd.sl kI))))))) x1)))) (@F_doc_gives k R (9 : Int) (@List.getD (@Kd.T (@Kd.pr kI (@Kd.pr kI (@Kd.pr kI (@Kd.pr Kd.str Kd.bool))))) x0 (@Int.toNat (0 : Int)) (@Kd.zero (@Kd.pr kI (@Kd.pr kI (@Kd.pr kI (@Kd.pr Kd.str Kd.bool)))))).2.1 (fun (y7 : Int) => (fun (y8 : Int) => (E x0 x1 y7 y8)))) (@cond (@Option R) (@fits (@List.length (@Kd.T (@Kd.pr kI (@Kd.pr kI (@Kd.pr Kd.str (@Kd.pr Kd.bool (@Kd.pr (@Kd.sl Kd.str) (@Kd.sl kI))))))) x1) (@List.length (@Kd.T (@Kd.pr kI (@Kd.pr kI (@Kd.pr Kd.str (@Kd.pr Kd.bool (@Kd.pr (@Kd.sl Kd.str) (@Kd.sl kI))))))) (((0 : (@Kd.T kI)), ((@List.getD (@Kd.T (@Kd.pr kI (@Kd.pr kI (@Kd.pr kI (@Kd.pr Kd.str Kd.bool))))) x0 (@Int.toNat (0 : Int)) (@Kd.zero (@Kd.pr kI (@Kd.pr kI (@Kd.pr kI (@Kd.pr Kd.str Kd.bool)))))).2.1, ([], (Bool.false, ([], []))))) :: [])) (88 : Nat)) (@cond (@Option R) (@BEq.beq Int (@instBEqOfDecidableEq Int @Int.instDecidableEq) (@List.getD (@Kd.T (@Kd.pr kI (@Kd.pr kI (@Kd.pr kI (@Kd.pr Kd.str Kd.bool))))) x0 (@Int.toNat (0 : Int)) (@Kd.zero (@Kd.pr kI (@Kd.pr kI (@Kd.pr kI (@Kd.pr Kd.str Kd.bool)))))).1 (3 : Int)) (@F_doc_parser_take k R x0 (@HAppend.hAppend (@Kd.T (@Kd.sl (@Kd.pr kI (@Kd.pr kI (@Kd.pr Kd.str (@Kd.pr Kd.bool (@Kd.pr (@Kd.sl Kd.str) (@Kd.sl kI)))))))) (@List (@Kd.T (@Kd.pr kI (@Kd.pr kI (@Kd.pr Kd.str (@Kd.pr Kd.bool (@Kd.pr (@Kd.sl Kd.str) (@Kd.sl kI)))))))) (@Kd.T (@Kd.sl (@Kd.pr kI (@Kd.pr kI (@Kd.pr Kd.str (@Kd.pr Kd.bool (@Kd.pr (@Kd.sl Kd.str) (@Kd.sl kI)))))))) (@instHAppendOfAppend (@Kd.T (@Kd.sl (@Kd.pr kI (@Kd.pr kI (@Kd.pr Kd.str (@Kd.pr Kd.bool (@Kd.pr (@Kd.sl Kd.str) (@Kd.sl kI)))))))) (@List.instAppend (@Kd.T (@Kd.pr kI (@Kd.pr kI (@Kd.pr Kd.str (@Kd.pr Kd.bool (@Kd.pr (@Kd.sl Kd.str) (@Kd.sl kI))))))))) x1 (((0 : (@Kd.T kI)), ((@List.getD (@Kd.T (@Kd.pr kI (@Kd.pr kI (@Kd.pr kI (@Kd.pr Kd.str Kd.bool))))) x0 (@Int.toNat (0 : Int)) (@Kd.zero (@Kd.pr kI (@Kd.pr kI (@Kd.pr kI (@Kd.pr Kd.str Kd.bool)))))).2.1, ([], (Bool.false, ([], []))))) :: [])) (fun (y7 : (@List (@Prod Int (@Prod Int (@Prod Int (@Prod (@List UInt8) Bool)))))) => (fun (y8 : (@List (@Prod Int (@Prod Int (@Prod (@List UInt8) (@Prod Bool (@Prod (@List (@List UInt8)) (@List Int)))))))) => (fun (y9 : Int) => (fun (y10 : Int) => (fun (y11 : Int) => (fun (y12 : (@List UInt8)) => (fun (y13 : Bool) => (@cond (@Option R) (@inb (@Nat.cast Int instNatCastInt (@List.length (@Kd.T (@Kd.pr kI (@Kd.pr kI (@Kd.pr Kd.str (@Kd.pr Kd.bool (@Kd.pr (@Kd.sl Kd.str) (@Kd.sl kI))))))) x1)) (@Nat.cast Int instNatCastInt (@List.length (@Kd.T (@Kd.pr kI (@Kd.pr kI (@Kd.pr Kd.str (@Kd.pr Kd.bool (@Kd.pr (@Kd.sl Kd.str) (@Kd.sl kI))))))) y8))) (@SH (@List (@Kd.T (@Kd.pr kI (@Kd.pr kI (@Kd.pr Kd.str (@Kd.pr Kd.bool (@Kd.pr (@Kd.sl Kd.str) (@Kd.sl kI)))))))) R (@List.set (@Kd.T (@Kd.pr kI (@Kd.pr kI (@Kd.pr Kd.str (@Kd.pr Kd.bool (@Kd.pr (@Kd.sl Kd.str) (@Kd.sl kI))))))) y8 (@Int.toNat (@Nat.cast Int instNatCastInt (@List.length (@Kd.T (@Kd.pr kI (@Kd.pr kI (@Kd.pr Kd.str (@Kd.pr Kd.bool (@Kd.pr (@Kd.sl Kd.str) (@Kd.sl kI))))))) x1))) ((1 : Int), ((@List.getD (@Kd.T (@Kd.pr kI (@Kd.pr kI (@Kd.pr kI (@Kd.pr Kd.str Kd.bool))))) x0 (@Int.toNat (0 : Int)) (@Kd.zero (@Kd.pr kI (@Kd.pr kI (@Kd.pr kI (@Kd.pr Kd.str Kd.bool)))))).2.1, ((@List.getD (@Kd.T (@Kd.pr kI (@Kd.pr kI (@Kd.pr kI (@Kd.pr Kd.str Kd.bool))))) x0 (@Int.toNat (0 : Int)) (@Kd.zero (@Kd.pr kI (@Kd.pr kI (@Kd.pr kI (@Kd.pr Kd.str Kd.bool)))))).2.2.2.1, ((@List.getD (@Kd.T (@Kd.pr kI (@Kd.pr kI (@Kd.pr kI (@Kd.pr Kd.str Kd.bool))))) x0 (@Int.toNat (0 : Int)) (@Kd.zero (@Kd.pr kI (@Kd.pr kI (@Kd.pr kI (@Kd.pr Kd.str Kd.bool)))))).2.2.2.2, ([], [])))))) (fun (y14 : (@List (@Kd.T (@Kd.pr kI (@Kd.pr kI (@Kd.pr Kd.str (@Kd.pr Kd.bool (@Kd.pr (@Kd.sl Kd.str) (@Kd.sl kI))))))))) => (K y7 y14 (@Nat.cast Int instNatCastInt (@List.length (@Kd.T (@Kd.pr kI (@Kd.pr kI (@Kd.pr Kd.str (@Kd.pr Kd.bool (@Kd.pr (@Kd.sl Kd.str) (@Kd.sl kI))))))) x1))))) (@Option.none R)))))))))) (@cond (@Option R) (@BEq.beq Int (@instBEqOfDecidableEq Int @Int.instDecidableEq) (@List.getD (@Kd.T (@Kd.pr kI (@Kd.pr kI (@Kd.pr kI (@Kd.pr Kd.str Kd.bool))))) x0 (@Int.toNat (0 : Int)) (@Kd.zero (@Kd.pr kI (@Kd.pr kI (@Kd.pr kI (@Kd.pr Kd.str Kd.bool)))))).1 (1 : Int)) (X_doc_parser_list R x0 (@HAppend.hAppend (@Kd.T (@Kd.sl (@Kd.pr kI (@Kd.pr kI (@Kd.pr Kd.str (@Kd.pr Kd.bool (@Kd.pr (@Kd.sl Kd.str) (@Kd.sl kI)))))))) (@List (@Kd.T (@Kd.pr kI (@Kd.pr kI (@Kd.pr Kd.str (@Kd.pr Kd.bool (@Kd.pr (@Kd.sl Kd.str) (@Kd.sl kI)))))))) (@Kd.T (@Kd.sl (@Kd.pr kI (@Kd.pr kI (@Kd.pr Kd.str (@Kd.pr Kd.bool (@Kd.pr (@Kd.sl Kd.str) (@Kd.sl kI)))))))) (@instHAppendOfAppend (@Kd.T (@Kd.sl (@Kd.pr kI (@Kd.pr kI (@Kd.pr Kd.str (@Kd.pr Kd.bool (@Kd.pr (@Kd.sl Kd.str) (@Kd.sl kI)))))))) (@List.instAppend (@Kd.T (@Kd.pr kI (@Kd.pr kI (@Kd.pr Kd.str (@Kd.pr Kd.bool (@Kd.pr (@Kd.sl Kd.str) (@Kd.sl kI))))))))) x1 (((0 : (@Kd.T kI)), ((@List.getD (@Kd.T (@Kd.pr kI (@Kd.pr kI (@Kd.pr kI (@Kd.pr Kd.str Kd.bool))))) x0 (@Int.toNat (0 : Int)) (@Kd.zero (@Kd.pr kI (@Kd.pr kI (@Kd.pr kI (@Kd.pr Kd.str Kd.bool)))))).2.1, ([], (Bool.false, ([], []))))) :: [])) (@Nat.cast Int instNatCastInt (@List.length (@Kd.T (@Kd.pr kI (@Kd.pr kI (@Kd.pr Kd.str (@Kd.pr Kd.bool (@Kd.pr (@Kd.sl Kd.str) (@Kd.sl kI))))))) x1)) (@List.getD (@Kd.T (@Kd.pr kI (@Kd.pr kI (@Kd.pr kI (@Kd.pr Kd.str Kd.bool))))) x0 (@Int.toNat (0 : Int)) (@Kd.zero (@Kd.pr kI (@Kd.pr kI (@Kd.pr kI (@Kd.pr Kd.str Kd.bool)))))).2.2.1 x2 (fun (y7 : (@List (@Prod Int (@Prod Int (@Prod Int (@Prod (@List UInt8) Bool)))))) => (fun (y8 : (@List (@Prod Int (@Prod Int (@Prod (@List UInt8) (@Prod Bool (@Prod (@List (@List UInt8)) (@List Int)))))))) => (K y7 y8 (@Nat.cast Int instNatCastInt (@List.length (@Kd.T (@Kd.pr kI (@Kd.pr kI (@Kd.pr Kd.str (@Kd.pr Kd.bool (@Kd.pr (@Kd.sl Kd.str) (@Kd.sl kI))))))) x1))))) (fun (y7 : (@List (@Prod Int (@Prod Int (@Prod Int (@Prod (@List UInt8) Bool)))))) => (fun (y8 : (@List (@Prod Int (@Prod Int (@Prod (@List UInt8) (@Prod Bool (@Prod (@List (@List UInt8)) (@List Int)))))))) => (fun (y9 : Int) => (fun (y10 : Int) => (E y7 y8 y9 y10)))))) (X_doc_parser_pairs R x0 (@HAppend.hAppend (@Kd.T (@Kd.sl (@Kd.pr kI (@Kd.pr kI (@Kd.pr Kd.str (@Kd.pr Kd.bool (@Kd.pr (@Kd.sl Kd.str) (@Kd.sl kI)))))))) (@List (@Kd.T (@Kd.pr kI (@Kd.pr kI (@Kd.pr Kd.str (@Kd.pr Kd.bool (@Kd.pr (@Kd.sl Kd.str) (@Kd.sl kI)))))))) (@Kd.T (@Kd.sl (@Kd.pr kI (@Kd.pr kI (@Kd.pr Kd.str (@Kd.pr Kd.bool (@Kd.pr (@Kd.sl Kd.str) (@Kd.sl kI)))))))) (@instHAppendOfAppend (@Kd.T (@Kd.sl (@Kd.pr kI (@Kd.pr kI (@Kd.pr Kd.str (@Kd.pr Kd.bool (@Kd.pr (@Kd.sl Kd.str) (@Kd.sl kI)))))))) (@List.instAppend (@Kd.T (@Kd.pr kI (@Kd.pr kI (@Kd.pr Kd.str (@Kd.pr Kd.bool (@Kd.pr (@Kd.sl Kd.str) (@Kd.sl kI))))))))) x1 (((0 : (@Kd.T kI)), ((@List.getD (@Kd.T (@Kd.pr kI (@Kd.pr kI (@Kd.pr kI (@Kd.pr Kd.str Kd.bool))))) x0 (@Int.toNat (0 : Int)) (@Kd.zero (@Kd.pr kI (@Kd.pr kI (@Kd.pr kI (@Kd.pr Kd.str Kd.bool)))))).2.1, ([], (Bool.false, ([], []))))) :: [])) (@Nat.cast Int instNatCastInt (@List.length (@Kd.T (@Kd.pr kI (@Kd.pr kI (@Kd.pr Kd.str (@Kd.pr Kd.bool (@Kd.pr (@Kd.sl Kd.str) (@Kd.sl kI))))))) x1)) (@List.getD (@Kd.T (@Kd.pr kI (@Kd.pr kI (@Kd.pr kI (@Kd.pr Kd.str Kd.bool))))) x0 (@Int.toNat (0 : Int)) (@Kd.zero (@Kd.pr kI (@Kd.pr kI (@Kd.pr kI (@Kd.pr Kd.str Kd.bool)))))).2.2.1 x2 (fun (y7 : (@List (@Prod Int (@Prod Int (@Prod Int (@Prod (@List UInt8) Bool)))))) => (fun (y8 : (@List (@Prod Int (@Prod Int (@Prod (@List UInt8) (@Prod Bool (@Prod (@List (@List UInt8)) (@List Int)))))))) => (K y7 y8 (@Nat.cast Int instNatCastInt (@List.length (@Kd.T (@Kd.pr kI (@Kd.pr kI (@Kd.pr Kd.str (@Kd.pr Kd.bool (@Kd.pr (@Kd.sl Kd.str) (@Kd.sl kI))))))) x1))))) (fun (y7 : (@List (@Prod Int (@Prod Int (@Prod Int (@Prod (@List UInt8) Bool)))))) => (fun (y8 : (@List (@Prod Int (@Prod Int (@Prod (@List UInt8) (@Prod Bool (@Prod (@List (@List UInt8)) (@List Int)))))))) => (fun (y9 : Int) => (fun (y10 : Int) => (E y7 y8 y9 y10)))))))) (@Option.none R))))) (@Option.none R))
theorem A_doc_parser_block_eq (k : Nat) (X_doc_parser_block : XT_doc_parser_block) (X_doc_parser_list : XT_doc_parser_list) (X_doc_parser_pairs : XT_doc_parser_pairs) (X_doc_parser_under : XT_doc_parser_under) {R : Type} (I : Nat → St → Option R) (x0 : (List (Int × (Int × (Int × ((List UInt8) × Bool)))))) (x1 : (List (Int × (Int × ((List UInt8) × (Bool × ((List (List UInt8)) × (List Int)))))))) (x2 : Int) (K : KT_doc_parser_block R) (E : ET_doc_parser_block R) : fnK (cx_doc_parser_block k X_doc_parser_block X_doc_parser_list X_doc_parser_pairs X_doc_parser_under) k code_doc_parser_block 97 [.tmp 4] sp_doc_parser_block [.ptr 1 0, .v (.int .i64) x2] [(21, .row 47 (.pr (.int .i64) (.pr (.int .i64) (.pr .str (.pr .bool (.pr (.sl .str) (.sl (.int .i64))))))) x1), (1, .var 51 [.v (.sl (.pr (.int .i64) (.pr (.int .i64) (.pr (.int .i64) (.pr .str .bool))))) x0, .row 21])] (wrap_doc_parser_block K E) = A_doc_parser_block k X_doc_parser_block X_doc_parser_list X_doc_parser_pairs X_doc_parser_under  x0 x1 x2 K E := by kernel_rfl
noncomputable def C_doc_parser_list (k : Nat) (X_doc_parser_block : XT_doc_parser_block) (X_doc_parser_list : XT_doc_parser_list) (X_doc_parser_pairs : XT_doc_parser_pairs) (X_doc_parser_under : XT_doc_parser_under) : CTab := ⟨fun f => bif Nat.beq f 28 then sig_doc_parser_take else bif Nat.beq f 43 then sig_doc_parser_next else bif Nat.beq f 44 then sig_doc_parser_under else [], fun f {_} ps hp K => bif Nat.beq f 28 then run_doc_parser_take k ps hp K else bif Nat.beq f 43 then run_doc_parser_next k ps hp K else bif Nat.beq f 44 then runX_doc_parser_under X_doc_parser_under ps hp K else none⟩
def wrap_doc_parser_list {R : Type} (K : KT_doc_parser_list R) (E : ET_doc_parser_block R) : Out → Option R
  | .ret [] [(21, .row 47 (.pr (.int .i64) (.pr (.int .i64) (.pr .str (.pr .bool (.pr (.sl .str) (.sl (.int .i64))))))) y1), (1, .var 51 [.v (.sl (.pr (.int .i64) (.pr (.int .i64) (.pr (.int .i64) (.pr .str .bool))))) y0, .row 21])] => K y0 y1
  | .pan (.ifc 30 (.agg [.v (.int .i64) z2, .v (.int .i64) z3])) [(21, .row 47 (.pr (.int .i64) (.pr (.int .i64) (.pr .str (.pr .bool (.pr (.sl .str) (.sl (.int .i64))))))) z1), (1, .var 51 [.v (.sl (.pr (.int .i64) (.pr (.int .i64) (.pr (.int .i64) (.pr .str .bool))))) z0, .row 21])] => E z0 z1 z2 z3
  | _ => none
def sp_doc_parser_list : RetSpec := ⟨[], [(1, .obj 1 [.sl (.pr (.int .i64) (.pr (.int .i64) (.pr (.int .i64) (.pr .str .bool)))), .own 21 47 (.pr (.int .i64) (.pr (.int .i64) (.pr .str (.pr .bool (.pr (.sl .str) (.sl (.int .i64)))))))])], [(1, .obj 1 [.sl (.pr (.int .i64) (.pr (.int .i64) (.pr (.int .i64) (.pr .str .bool)))), .own 21 47 (.pr (.int .i64) (.pr (.int .i64) (.pr .str (.pr .bool (.pr (.sl .str) (.sl (.int .i64)))))))])]⟩
def cuts_doc_parser_list : List (Nat × CutSpec) := [(1001, ⟨[(0, .obj 1 [.sl (.pr (.int .i64) (.pr (.int .i64) (.pr (.int .i64) (.pr .str .bool)))), .own 21 47 (.pr (.int .i64) (.pr (.int .i64) (.pr .str (.pr .bool (.pr (.sl .str) (.sl (.int .i64)))))))]), (1, .any), (2, .any), (3, .any), (8, .own 100008 3 (.int .i64))], [(1, .obj 1 [.sl (.pr (.int .i64) (.pr (.int .i64) (.pr (.int .i64) (.pr .str .bool)))), .own 21 47 (.pr (.int .i64) (.pr (.int .i64) (.pr .str (.pr .bool (.pr (.sl .str) (.sl (.int .i64)))))))])]⟩)]
def plans_doc_parser_list : List (Nat × Plan) := [(3, (.of [(0, 1), (1, 1), (2, 1), (3, 1), (5, 1), (6, 1), (7, 1), (8, 1), (9, 1), (11, 1), (12, 1), (4, 1), (10, 1), (13, 1), (14, 1), (15, 0), (16, 1), (17, 1), (18, 0)] .done))]
noncomputable def cx_doc_parser_list (k : Nat) (X_doc_parser_block : XT_doc_parser_block) (X_doc_parser_list : XT_doc_parser_list) (X_doc_parser_pairs : XT_doc_parser_pairs) (X_doc_parser_under : XT_doc_parser_under) : Ctx := ⟨tyT, cuts_doc_parser_list, C_doc_parser_list k X_doc_parser_block X_doc_parser_list X_doc_parser_pairs X_doc_parser_under, [], [1], plans_doc_parser_list, @SH⟩
noncomputable def code_doc_parser_list : Code := Tryd.f29.body.getD .skip
def st_doc_parser_list_1001 (s0 : (List (Int × (Int × (Int × ((List UInt8) × Bool)))))) (s1 : (List (Int × (Int × ((List UInt8) × (Bool × ((List (List UInt8)) × (List Int)))))))) (s2 : Int) (s3 : Int) (s4 : Int) (s5 : (List Int)) : St := ⟨mkT [(0, .ptr 1 0), (1, .v (.int .i64) s2), (2, .v (.int .i64) s3), (3, .v (.int .i64) s4), (8, .row 100008)], mkH [(21, .row 47 (.pr (.int .i64) (.pr (.int .i64) (.pr .str (.pr .bool (.pr (.sl .str) (.sl (.int .i64))))))) s1), (1, .var 51 [.v (.sl (.pr (.int .i64) (.pr (.int .i64) (.pr (.int .i64) (.pr .str .bool))))) s0, .row 21]), (100008, .row 3 (.int .i64) s5)]⟩
noncomputable def B_doc_parser_list_1001 (k : Nat) (X_doc_parser_block : XT_doc_parser_block) (X_doc_parser_list : XT_doc_parser_list) (X_doc_parser_pairs : XT_doc_parser_pairs) (X_doc_parser_under : XT_doc_parser_under) {R : Type} (E1001 : ((List (Int × (Int × (Int × ((List UInt8) × Bool))))) → (List (Int × (Int × ((List UInt8) × (Bool × ((List (List UInt8)) × (List Int))))))) → Int → Int → Int → (List Int) → Option R)) (s0 : (List (Int × (Int × (Int × ((List UInt8) × Bool)))))) (s1 : (List (Int × (Int × ((List UInt8) × (Bool × ((List (List UInt8)) × (List Int)))))))) (s2 : Int) (s3 : Int) (s4 : Int) (s5 : (List Int)) (K : KT_doc_parser_list R) (E : ET_doc_parser_block R) : Option R := (@F_doc_parser_next k R s0 s1 (1 : Int) s3 (fun (y11 : (@List (@Prod Int (@Prod Int (@Prod Int (@Prod (@List UInt8) Bool)))))) => (fun (y12 : (@List (@Prod Int (@Prod Int (@Prod (@List UInt8) (@Prod Bool (@Prod (@List (@List UInt8)) (@List Int)))))))) => (fun (y13 : Bool) => (@cond (@Option R) y13 (@F_doc_parser_take k R y11 y12 (fun (y14 : (@List (@Prod Int (@Prod Int (@Prod Int (@Prod (@List UInt8) Bool)))))) => (fun (y15 : (@List (@Prod Int (@Prod Int (@Prod (@List UInt8) (@Prod Bool (@Prod (@List (@List UInt8)) (@List Int)))))))) => (fun (y16 : Int) => (fun (y17 : Int) => (fun (y18 : Int) => (fun (y19 : (@List UInt8)) => (fun (y20 : Bool) => (X_doc_parser_under R y14 y15 y16 y17 y18 y19 y20 s4 (fun (y21 : (@List (@Prod Int (@Prod Int (@Prod Int (@Prod (@List UInt8) Bool)))))) => (fun (y22 : (@List (@Prod Int (@Prod Int (@Prod (@List UInt8) (@Prod Bool (@Prod (@List (@List UInt8)) (@List Int)))))))) => (fun (y23 : Int) => (@cond (@Option R) (@fits (@List.length (@Kd.T kI) s5) (@List.length (@Kd.T kI) (y23 :: [])) (8 : Nat)) (E1001 y21 y22 s2 s3 s4 (@HAppend.hAppend (@Kd.T (@Kd.sl kI)) (@List (@Kd.T kI)) (@Kd.T (@Kd.sl kI)) (@instHAppendOfAppend (@Kd.T (@Kd.sl kI)) (@List.instAppend (@Kd.T kI))) s5 (y23 :: []))) (@Option.none R))))) (fun (y21 : (@List (@Prod Int (@Prod Int (@Prod Int (@Prod (@List UInt8) Bool)))))) => (fun (y22 : (@List (@Prod Int (@Prod Int (@Prod (@List UInt8) (@Prod Bool (@Prod (@List (@List UInt8)) (@List Int)))))))) => (fun (y23 : Int) => (fun (y24 : Int) => (E y21 y22 y23 y24)))))))))))))) (@cond (@Option R) (@inb s2 (@Nat.cast Int instNatCastInt (@List.length (@Kd.T (@Kd.pr kI (@Kd.pr kI (@Kd.pr Kd.str (@Kd.pr Kd.bool (@Kd.pr (@Kd.sl Kd.str) (@Kd.sl kI))))))) y12))) (@SH (@List (@Kd.T (@Kd.pr kI (@Kd.pr kI (@Kd.pr Kd.str (@Kd.pr Kd.bool (@Kd.pr (@Kd.sl Kd.str) (@Kd.sl kI)))))))) R (@List.set (@Kd.T (@Kd.pr kI (@Kd.pr kI (@Kd.pr Kd.str (@Kd.pr Kd.bool (@Kd.pr (@Kd.sl Kd.str) (@Kd.sl kI))))))) y12 (@Int.toNat s2) ((2 : Int), ((@List.getD (@Kd.T (@Kd.pr kI (@Kd.pr kI (@Kd.pr Kd.str (@Kd.pr Kd.bool (@Kd.pr (@Kd.sl Kd.str) (@Kd.sl kI))))))) y12 (@Int.toNat s2) (@Kd.zero (@Kd.pr kI (@Kd.pr kI (@Kd.pr Kd.str (@Kd.pr Kd.bool (@Kd.pr (@Kd.sl Kd.str) (@Kd.sl kI)))))))).2.1, ((@List.getD (@Kd.T (@Kd.pr kI (@Kd.pr kI (@Kd.pr Kd.str (@Kd.pr Kd.bool (@Kd.pr (@Kd.sl Kd.str) (@Kd.sl kI))))))) y12 (@Int.toNat s2) (@Kd.zero (@Kd.pr kI (@Kd.pr kI (@Kd.pr Kd.str (@Kd.pr Kd.bool (@Kd.pr (@Kd.sl Kd.str) (@Kd.sl kI)))))))).2.2.1, ((@List.getD (@Kd.T (@Kd.pr kI (@Kd.pr kI (@Kd.pr Kd.str (@Kd.pr Kd.bool (@Kd.pr (@Kd.sl Kd.str) (@Kd.sl kI))))))) y12 (@Int.toNat s2) (@Kd.zero (@Kd.pr kI (@Kd.pr kI (@Kd.pr Kd.str (@Kd.pr Kd.bool (@Kd.pr (@Kd.sl Kd.str) (@Kd.sl kI)))))))).2.2.2.1, ((@List.getD (@Kd.T (@Kd.pr kI (@Kd.pr kI (@Kd.pr Kd.str (@Kd.pr Kd.bool (@Kd.pr (@Kd.sl Kd.str) (@Kd.sl kI))))))) y12 (@Int.toNat s2) (@Kd.zero (@Kd.pr kI (@Kd.pr kI (@Kd.pr Kd.str (@Kd.pr Kd.bool (@Kd.pr (@Kd.sl Kd.str) (@Kd.sl kI)))))))).2.2.2.2.1, (@List.getD (@Kd.T (@Kd.pr kI (@Kd.pr kI (@Kd.pr Kd.str (@Kd.pr Kd.bool (@Kd.pr (@Kd.sl Kd.str) (@Kd.sl kI))))))) y12 (@Int.toNat s2) (@Kd.zero (@Kd.pr kI (@Kd.pr kI (@Kd.pr Kd.str (@Kd.pr Kd.bool (@Kd.pr (@Kd.sl Kd.str) (@Kd.sl kI)))))))).2.2.2.2.2)))))) (fun (y14 : (@List (@Kd.T (@Kd.pr kI (@Kd.pr kI (@Kd.pr Kd.str (@Kd.pr Kd.bool (@Kd.pr (@Kd.sl Kd.str) (@Kd.sl kI))))))))) => (@cond (@Option R) (@inb s2 (@Nat.cast Int instNatCastInt (@List.length (@Kd.T (@Kd.pr kI (@Kd.pr kI (@Kd.pr Kd.str (@Kd.pr Kd.bool (@Kd.pr (@Kd.sl Kd.str) (@Kd.sl kI))))))) y14))) (@SH (@List (@Kd.T (@Kd.pr kI (@Kd.pr kI (@Kd.pr Kd.str (@Kd.pr Kd.bool (@Kd.pr (@Kd.sl Kd.str) (@Kd.sl kI)))))))) R (@List.set (@Kd.T (@Kd.pr kI (@Kd.pr kI (@Kd.pr Kd.str (@Kd.pr Kd.bool (@Kd.pr (@Kd.sl Kd.str) (@Kd.sl kI))))))) y14 (@Int.toNat s2) ((@List.getD (@Kd.T (@Kd.pr kI (@Kd.pr kI (@Kd.pr Kd.str (@Kd.pr Kd.bool (@Kd.pr (@Kd.sl Kd.str) (@Kd.sl kI))))))) y14 (@Int.toNat s2) (@Kd.zero (@Kd.pr kI (@Kd.pr kI (@Kd.pr Kd.str (@Kd.pr Kd.bool (@Kd.pr (@Kd.sl Kd.str) (@Kd.sl kI)))))))).1, ((@List.getD (@Kd.T (@Kd.pr kI (@Kd.pr kI (@Kd.pr Kd.str (@Kd.pr Kd.bool (@Kd.pr (@Kd.sl Kd.str) (@Kd.sl kI))))))) y14 (@Int.toNat s2) (@Kd.zero (@Kd.pr kI (@Kd.pr kI (@Kd.pr Kd.str (@Kd.pr Kd.bool (@Kd.pr (@Kd.sl Kd.str) (@Kd.sl kI)))))))).2.1, ((@List.getD (@Kd.T (@Kd.pr kI (@Kd.pr kI (@Kd.pr Kd.str (@Kd.pr Kd.bool (@Kd.pr (@Kd.sl Kd.str) (@Kd.sl kI))))))) y14 (@Int.toNat s2) (@Kd.zero (@Kd.pr kI (@Kd.pr kI (@Kd.pr Kd.str (@Kd.pr Kd.bool (@Kd.pr (@Kd.sl Kd.str) (@Kd.sl kI)))))))).2.2.1, ((@List.getD (@Kd.T (@Kd.pr kI (@Kd.pr kI (@Kd.pr Kd.str (@Kd.pr Kd.bool (@Kd.pr (@Kd.sl Kd.str) (@Kd.sl kI))))))) y14 (@Int.toNat s2) (@Kd.zero (@Kd.pr kI (@Kd.pr kI (@Kd.pr Kd.str (@Kd.pr Kd.bool (@Kd.pr (@Kd.sl Kd.str) (@Kd.sl kI)))))))).2.2.2.1, ((@List.getD (@Kd.T (@Kd.pr kI (@Kd.pr kI (@Kd.pr Kd.str (@Kd.pr Kd.bool (@Kd.pr (@Kd.sl Kd.str) (@Kd.sl kI))))))) y14 (@Int.toNat s2) (@Kd.zero (@Kd.pr kI (@Kd.pr kI (@Kd.pr Kd.str (@Kd.pr Kd.bool (@Kd.pr (@Kd.sl Kd.str) (@Kd.sl kI)))))))).2.2.2.2.1, s5)))))) (fun (y15 : (@List (@Kd.T (@Kd.pr kI (@Kd.pr kI (@Kd.pr Kd.str (@Kd.pr Kd.bool (@Kd.pr (@Kd.sl Kd.str) (@Kd.sl kI))))))))) => (K y11 y15))) (@Option.none R)))) (@Option.none R)))))))
theorem B_doc_parser_list_1001_eq (k : Nat) (X_doc_parser_block : XT_doc_parser_block) (X_doc_parser_list : XT_doc_parser_list) (X_doc_parser_pairs : XT_doc_parser_pairs) (X_doc_parser_under : XT_doc_parser_under) {R : Type} (I : Nat → St → Option R) (s0 : (List (Int × (Int × (Int × ((List UInt8) × Bool)))))) (s1 : (List (Int × (Int × ((List UInt8) × (Bool × ((List (List UInt8)) × (List Int)))))))) (s2 : Int) (s3 : Int) (s4 : Int) (s5 : (List Int)) (K : KT_doc_parser_list R) (E : ET_doc_parser_block R) : execK (cx_doc_parser_list k X_doc_parser_block X_doc_parser_list X_doc_parser_pairs X_doc_parser_under) k (at_ [1, 0, 0, 0] code_doc_parser_list) (st_doc_parser_list_1001 s0 s1 s2 s3 s4 s5) (konts (cx_doc_parser_list k X_doc_parser_block X_doc_parser_list X_doc_parser_pairs X_doc_parser_under) k I [1, 0, 0, 0] code_doc_parser_list (outK (cx_doc_parser_list k X_doc_parser_block X_doc_parser_list X_doc_parser_pairs X_doc_parser_under) sp_doc_parser_list [] (wrap_doc_parser_list K E))) = B_doc_parser_list_1001 k X_doc_parser_block X_doc_parser_list X_doc_parser_pairs X_doc_parser_under (fun s0 s1 s2 s3 s4 s5 => I 1001 (st_doc_parser_list_1001 s0 s1 s2 s3 s4 s5)) s0 s1 s2 s3 s4 s5 K E := by kernel_rfl
noncomputable def A_doc_parser_list (k : Nat) (X_doc_parser_block : XT_doc_parser_block) (X_doc_parser_list : XT_doc_parser_list) (X_doc_parser_pairs : XT_doc_parser_pairs) (X_doc_parser_under : XT_doc_parser_under) {R : Type} (E1001 : ((List (Int × (Int × (Int × ((List UInt8) × Bool))))) → (List (Int × (Int × ((List UInt8) × (Bool × ((List (List UInt8)) × (List Int))))))) → Int → Int → Int → (List Int) → Option R)) (x0 : (List (Int × (Int × (Int × ((List UInt8) × Bool)))))) (x1 : (List (Int × (Int × ((List UInt8) × (Bool × ((List (List UInt8)) × (List Int)))))))) (x2 : Int) (x3 : Int) (x4 : Int) (K : KT_doc_parser_list R) (E : ET_doc_parser_block R) : Option R := (E1001 x0 x1 x2 x3 x4 [])
theorem A_doc_parser_list_eq (k : Nat) (X_doc_parser_block : XT_doc_parser_block) (X_doc_parser_list : XT_doc_parser_list) (X_doc_parser_pairs : XT_doc_parser_pairs) (X_doc_parser_under : XT_doc_parser_under) {R : Type} (I : Nat → St → Option R) (x0 : (List (Int × (Int × (Int × ((List UInt8) × Bool)))))) (x1 : (List (Int × (Int × ((List UInt8) × (Bool × ((List (List UInt8)) × (List Int)))))))) (x2 : Int) (x3 : Int) (x4 : Int) (K : KT_doc_parser_list R) (E : ET_doc_parser_block R) : fnK (cx_doc_parser_list k X_doc_parser_block X_doc_parser_list X_doc_parser_pairs X_doc_parser_under) k code_doc_parser_list 37 [] sp_doc_parser_list [.ptr 1 0, .v (.int .i64) x2, .v (.int .i64) x3, .v (.int .i64) x4] [(21, .row 47 (.pr (.int .i64) (.pr (.int .i64) (.pr .str (.pr .bool (.pr (.sl .str) (.sl (.int .i64))))))) x1), (1, .var 51 [.v (.sl (.pr (.int .i64) (.pr (.int .i64) (.pr (.int .i64) (.pr .str .bool))))) x0, .row 21])] (wrap_doc_parser_list K E) = A_doc_parser_list k X_doc_parser_block X_doc_parser_list X_doc_parser_pairs X_doc_parser_under (fun s0 s1 s2 s3 s4 s5 => iter (cx_doc_parser_list k X_doc_parser_block X_doc_parser_list X_doc_parser_pairs X_doc_parser_under).pv (look (cx_doc_parser_list k X_doc_parser_block X_doc_parser_list X_doc_parser_pairs X_doc_parser_under).cuts 1001) (execK (cx_doc_parser_list k X_doc_parser_block X_doc_parser_list X_doc_parser_pairs X_doc_parser_under) k (at_ [1, 0, 0, 0] code_doc_parser_list)) k (st_doc_parser_list_1001 s0 s1 s2 s3 s4 s5) (konts (cx_doc_parser_list k X_doc_parser_block X_doc_parser_list X_doc_parser_pairs X_doc_parser_under) k I [1, 0, 0] code_doc_parser_list (outK (cx_doc_parser_list k X_doc_parser_block X_doc_parser_list X_doc_parser_pairs X_doc_parser_under) sp_doc_parser_list [] (wrap_doc_parser_list K E)))) x0 x1 x2 x3 x4 K E := by kernel_rfl
noncomputable def L_doc_parser_list_1001 (k : Nat) (X_doc_parser_block : XT_doc_parser_block) (X_doc_parser_list : XT_doc_parser_list) (X_doc_parser_pairs : XT_doc_parser_pairs) (X_doc_parser_under : XT_doc_parser_under) {R : Type}  : Nat → (List (Int × (Int × (Int × ((List UInt8) × Bool))))) → (List (Int × (Int × ((List UInt8) × (Bool × ((List (List UInt8)) × (List Int))))))) → Int → Int → Int → (List Int) → ((List (Int × (Int × (Int × ((List UInt8) × Bool))))) → (List (Int × (Int × ((List UInt8) × (Bool × ((List (List UInt8)) × (List Int))))))) → Option R) → ((List (Int × (Int × (Int × ((List UInt8) × Bool))))) → (List (Int × (Int × ((List UInt8) × (Bool × ((List (List UInt8)) × (List Int))))))) → Int → Int → Option R) → Option R
  | 0, _, _, _, _, _, _, _, _ => none
  | n + 1, s0, s1, s2, s3, s4, s5, K, E => B_doc_parser_list_1001 k X_doc_parser_block X_doc_parser_list X_doc_parser_pairs X_doc_parser_under (fun s0 s1 s2 s3 s4 s5 => L_doc_parser_list_1001 k X_doc_parser_block X_doc_parser_list X_doc_parser_pairs X_doc_parser_under  n s0 s1 s2 s3 s4 s5 K E) s0 s1 s2 s3 s4 s5 K E
theorem L_doc_parser_list_1001_eq (k : Nat) (X_doc_parser_block : XT_doc_parser_block) (X_doc_parser_list : XT_doc_parser_list) (X_doc_parser_pairs : XT_doc_parser_pairs) (X_doc_parser_under : XT_doc_parser_under) {R : Type} (I : Nat → St → Option R) (K : KT_doc_parser_list R) (E : ET_doc_parser_block R) : ∀ (n : Nat) (s0 : (List (Int × (Int × (Int × ((List UInt8) × Bool)))))) (s1 : (List (Int × (Int × ((List UInt8) × (Bool × ((List (List UInt8)) × (List Int)))))))) (s2 : Int) (s3 : Int) (s4 : Int) (s5 : (List Int)), iter (cx_doc_parser_list k X_doc_parser_block X_doc_parser_list X_doc_parser_pairs X_doc_parser_under).pv (look (cx_doc_parser_list k X_doc_parser_block X_doc_parser_list X_doc_parser_pairs X_doc_parser_under).cuts 1001) (execK (cx_doc_parser_list k X_doc_parser_block X_doc_parser_list X_doc_parser_pairs X_doc_parser_under) k (at_ [1, 0, 0, 0] code_doc_parser_list)) n (st_doc_parser_list_1001 s0 s1 s2 s3 s4 s5) (konts (cx_doc_parser_list k X_doc_parser_block X_doc_parser_list X_doc_parser_pairs X_doc_parser_under) k I [1, 0, 0] code_doc_parser_list (outK (cx_doc_parser_list k X_doc_parser_block X_doc_parser_list X_doc_parser_pairs X_doc_parser_under) sp_doc_parser_list [] (wrap_doc_parser_list K E))) = L_doc_parser_list_1001 k X_doc_parser_block X_doc_parser_list X_doc_parser_pairs X_doc_parser_under  n s0 s1 s2 s3 s4 s5 K E := by
  intro n
  induction n with
  | zero => intros; rfl
  | succ n ih =>
    intro s0 s1 s2 s3 s4 s5
    let I' : Nat → St → Option R := fun id s => bif Nat.beq id 1001 then iter (cx_doc_parser_list k X_doc_parser_block X_doc_parser_list X_doc_parser_pairs X_doc_parser_under).pv (look (cx_doc_parser_list k X_doc_parser_block X_doc_parser_list X_doc_parser_pairs X_doc_parser_under).cuts 1001) (execK (cx_doc_parser_list k X_doc_parser_block X_doc_parser_list X_doc_parser_pairs X_doc_parser_under) k (at_ [1, 0, 0, 0] code_doc_parser_list)) n s (konts (cx_doc_parser_list k X_doc_parser_block X_doc_parser_list X_doc_parser_pairs X_doc_parser_under) k I [1, 0, 0] code_doc_parser_list (outK (cx_doc_parser_list k X_doc_parser_block X_doc_parser_list X_doc_parser_pairs X_doc_parser_under) sp_doc_parser_list [] (wrap_doc_parser_list K E))) else I id s
    have e := B_doc_parser_list_1001_eq k X_doc_parser_block X_doc_parser_list X_doc_parser_pairs X_doc_parser_under I' s0 s1 s2 s3 s4 s5 K E
    have h1001 : (fun s0 s1 s2 s3 s4 s5 => I' 1001 (st_doc_parser_list_1001 s0 s1 s2 s3 s4 s5)) = (fun s0 s1 s2 s3 s4 s5 => L_doc_parser_list_1001 k X_doc_parser_block X_doc_parser_list X_doc_parser_pairs X_doc_parser_under  n s0 s1 s2 s3 s4 s5 K E) := by funext s0 s1 s2 s3 s4 s5; exact ih s0 s1 s2 s3 s4 s5
    refine Eq.trans (?_ : _ = _) (e.trans (Eq.trans ((congrArg ((fun E1001 => B_doc_parser_list_1001 k X_doc_parser_block X_doc_parser_list X_doc_parser_pairs X_doc_parser_under E1001 s0 s1 s2 s3 s4 s5 K E)) h1001)) (by rw [L_doc_parser_list_1001])))
    rfl
noncomputable def C_doc_parser_pairs (k : Nat) (X_doc_parser_block : XT_doc_parser_block) (X_doc_parser_list : XT_doc_parser_list) (X_doc_parser_pairs : XT_doc_parser_pairs) (X_doc_parser_under : XT_doc_parser_under) : CTab := ⟨fun f => bif Nat.beq f 15 then sig_doc_gives else bif Nat.beq f 28 then sig_doc_parser_take else bif Nat.beq f 43 then sig_doc_parser_next else bif Nat.beq f 44 then sig_doc_parser_under else bif Nat.beq f 45 then sig_slices_Contains___string_string else [], fun f {_} ps hp K => bif Nat.beq f 15 then run_doc_gives k ps hp K else bif Nat.beq f 28 then run_doc_parser_take k ps hp K else bif Nat.beq f 43 then run_doc_parser_next k ps hp K else bif Nat.beq f 44 then runX_doc_parser_under X_doc_parser_under ps hp K else bif Nat.beq f 45 then run_slices_Contains___string_string k ps hp K else none⟩
def wrap_doc_parser_pairs {R : Type} (K : KT_doc_parser_list R) (E : ET_doc_parser_block R) : Out → Option R
  | .ret [] [(21, .row 47 (.pr (.int .i64) (.pr (.int .i64) (.pr .str (.pr .bool (.pr (.sl .str) (.sl (.int .i64))))))) y1), (1, .var 51 [.v (.sl (.pr (.int .i64) (.pr (.int .i64) (.pr (.int .i64) (.pr .str .bool))))) y0, .row 21])] => K y0 y1
  | .pan (.ifc 30 (.agg [.v (.int .i64) z2, .v (.int .i64) z3])) [(21, .row 47 (.pr (.int .i64) (.pr (.int .i64) (.pr .str (.pr .bool (.pr (.sl .str) (.sl (.int .i64))))))) z1), (1, .var 51 [.v (.sl (.pr (.int .i64) (.pr (.int .i64) (.pr (.int .i64) (.pr .str .bool))))) z0, .row 21])] => E z0 z1 z2 z3
  | _ => none
def sp_doc_parser_pairs : RetSpec := ⟨[], [(1, .obj 1 [.sl (.pr (.int .i64) (.pr (.int .i64) (.pr (.int .i64) (.pr .str .bool)))), .own 21 47 (.pr (.int .i64) (.pr (.int .i64) (.pr .str (.pr .bool (.pr (.sl .str) (.sl (.int .i64)))))))])], [(1, .obj 1 [.sl (.pr (.int .i64) (.pr (.int .i64) (.pr (.int .i64) (.pr .str .bool)))), .own 21 47 (.pr (.int .i64) (.pr (.int .i64) (.pr .str (.pr .bool (.pr (.sl .str) (.sl (.int .i64)))))))])]⟩
def cuts_doc_parser_pairs : List (Nat × CutSpec) := [(1002, ⟨[(0, .obj 1 [.sl (.pr (.int .i64) (.pr (.int .i64) (.pr (.int .i64) (.pr .str .bool)))), .own 21 47 (.pr (.int .i64) (.pr (.int .i64) (.pr .str (.pr .bool (.pr (.sl .str) (.sl (.int .i64)))))))]), (1, .any), (2, .any), (3, .any), (8, .own 100008 9 .str), (9, .own 100009 3 (.int .i64))], [(1, .obj 1 [.sl (.pr (.int .i64) (.pr (.int .i64) (.pr (.int .i64) (.pr .str .bool)))), .own 21 47 (.pr (.int .i64) (.pr (.int .i64) (.pr .str (.pr .bool (.pr (.sl .str) (.sl (.int .i64)))))))])]⟩)]
def plans_doc_parser_pairs : List (Nat × Plan) := []
noncomputable def cx_doc_parser_pairs (k : Nat) (X_doc_parser_block : XT_doc_parser_block) (X_doc_parser_list : XT_doc_parser_list) (X_doc_parser_pairs : XT_doc_parser_pairs) (X_doc_parser_under : XT_doc_parser_under) : Ctx := ⟨tyT, cuts_doc_parser_pairs, C_doc_parser_pairs k X_doc_parser_block X_doc_parser_list X_doc_parser_pairs X_doc_parser_under, [], [1], plans_doc_parser_pairs, @SH⟩
noncomputable def code_doc_parser_pairs : Code := Tryd.f30.body.getD .skip
def st_doc_parser_pairs_1002 (s0 : (List (Int × (Int × (Int × ((List UInt8) × Bool)))))) (s1 : (List (Int × (Int × ((List UInt8) × (Bool × ((List (List UInt8)) × (List Int)))))))) (s2 : Int) (s3 : Int) (s4 : Int) (s5 : (List (List UInt8))) (s6 : (List Int)) : St := ⟨mkT [(0, .ptr 1 0), (1, .v (.int .i64) s2), (2, .v (.int .i64) s3), (3, .v (.int .i64) s4), (8, .row 100008), (9, .row 100009)], mkH [(21, .row 47 (.pr (.int .i64) (.pr (.int .i64) (.pr .str (.pr .bool (.pr (.sl .str) (.sl (.int .i64))))))) s1), (1, .var 51 [.v (.sl (.pr (.int .i64) (.pr (.int .i64) (.pr (.int .i64) (.pr .str .bool))))) s0, .row 21]), (100008, .row 9 .str s5), (100009, .row 3 (.int .i64) s6)]⟩
noncomputable def B_doc_parser_pairs_1002 (k : Nat) (X_doc_parser_block : XT_doc_parser_block) (X_doc_parser_list : XT_doc_parser_list) (X_doc_parser_pairs : XT_doc_parser_pairs) (X_doc_parser_under : XT_doc_parser_under) {R : Type} (E1002 : ((List (Int × (Int × (Int × ((List UInt8) × Bool))))) → (List (Int × (Int × ((List UInt8) × (Bool × ((List (List UInt8)) × (List Int))))))) → Int → Int → Int → (List (List UInt8)) → (List Int) → Option R)) (s0 : (List (Int × (Int × (Int × ((List UInt8) × Bool)))))) (s1 : (List (Int × (Int × ((List UInt8) × (Bool × ((List (List UInt8)) × (List Int)))))))) (s2 : Int) (s3 : Int) (s4 : Int) (s5 : (List (List UInt8))) (s6 : (List Int)) (K : KT_doc_parser_list R) (E : ET_doc_parser_block R) : Option R := (@F_doc_parser_next k R s0 s1 (2 : Int) s3 (fun (y12 : (@List (@Prod Int (@Prod Int (@Prod Int (@Prod (@List UInt8) Bool)))))) => (fun (y13 : (@List (@Prod Int (@Prod Int (@Prod (@List UInt8) (@Prod Bool (@Prod (@List (@List UInt8)) (@List Int)))))))) => (fun (y14 : Bool) => (@cond (@Option R) y14 (@F_doc_parser_take k R y12 y13 (fun (y15 : (@List (@Prod Int (@Prod Int (@Prod Int (@Prod (@List UInt8) Bool)))))) => (fun (y16 : (@List (@Prod Int (@Prod Int (@Prod (@List UInt8) (@Prod Bool (@Prod (@List (@List UInt8)) (@List Int)))))))) => (fun (y17 : Int) => (fun (y18 : Int) => (fun (y19 : Int) => (fun (y20 : (@List UInt8)) => (fun (y21 : Bool) => (@F_slices_Contains___string_string k R s5 y20 (fun (y22 : Bool) => (@cond (@Option R) y22 (@F_doc_gives k R (7 : Int) y18 (fun (y23 : Int) => (fun (y24 : Int) => (E y15 y16 y23 y24)))) (@cond (@Option R) (@fits (@List.length (@Kd.T Kd.str) s5) (@List.length (@Kd.T Kd.str) (y20 :: [])) (16 : Nat)) (X_doc_parser_under R y15 y16 y17 y18 y19 y20 y21 s4 (fun (y23 : (@List (@Prod Int (@Prod Int (@Prod Int (@Prod (@List UInt8) Bool)))))) => (fun (y24 : (@List (@Prod Int (@Prod Int (@Prod (@List UInt8) (@Prod Bool (@Prod (@List (@List UInt8)) (@List Int)))))))) => (fun (y25 : Int) => (@cond (@Option R) (@fits (@List.length (@Kd.T kI) s6) (@List.length (@Kd.T kI) (y25 :: [])) (8 : Nat)) (E1002 y23 y24 s2 s3 s4 (@HAppend.hAppend (@Kd.T (@Kd.sl Kd.str)) (@List (@Kd.T Kd.str)) (@Kd.T (@Kd.sl Kd.str)) (@instHAppendOfAppend (@Kd.T (@Kd.sl Kd.str)) (@List.instAppend (@Kd.T Kd.str))) s5 (y20 :: [])) (@HAppend.hAppend (@Kd.T (@Kd.sl kI)) (@List (@Kd.T kI)) (@Kd.T (@Kd.sl kI)) (@instHAppendOfAppend (@Kd.T (@Kd.sl kI)) (@List.instAppend (@Kd.T kI))) s6 (y25 :: []))) (@Option.none R))))) (fun (y23 : (@List (@Prod Int (@Prod Int (@Prod Int (@Prod (@List UInt8) Bool)))))) => (fun (y24 : (@List (@Prod Int (@Prod Int (@Prod (@List UInt8) (@Prod Bool (@Prod (@List (@List UInt8)) (@List Int)))))))) => (fun (y25 : Int) => (fun (y26 : Int) => (E y23 y24 y25 y26)))))) (@Option.none R))))))))))))) (@cond (@Option R) (@inb s2 (@Nat.cast Int instNatCastInt (@List.length (@Kd.T (@Kd.pr kI (@Kd.pr kI (@Kd.pr Kd.str (@Kd.pr Kd.bool (@Kd.pr (@Kd.sl Kd.str) (@Kd.sl kI))))))) y13))) (@SH (@List (@Kd.T (@Kd.pr kI (@Kd.pr kI (@Kd.pr Kd.str (@Kd.pr Kd.bool (@Kd.pr (@Kd.sl Kd.str) (@Kd.sl kI)))))))) R (@List.set (@Kd.T (@Kd.pr kI (@Kd.pr kI (@Kd.pr Kd.str (@Kd.pr Kd.bool (@Kd.pr (@Kd.sl Kd.str) (@Kd.sl kI))))))) y13 (@Int.toNat s2) ((3 : Int), ((@List.getD (@Kd.T (@Kd.pr kI (@Kd.pr kI (@Kd.pr Kd.str (@Kd.pr Kd.bool (@Kd.pr (@Kd.sl Kd.str) (@Kd.sl kI))))))) y13 (@Int.toNat s2) (@Kd.zero (@Kd.pr kI (@Kd.pr kI (@Kd.pr Kd.str (@Kd.pr Kd.bool (@Kd.pr (@Kd.sl Kd.str) (@Kd.sl kI)))))))).2.1, ((@List.getD (@Kd.T (@Kd.pr kI (@Kd.pr kI (@Kd.pr Kd.str (@Kd.pr Kd.bool (@Kd.pr (@Kd.sl Kd.str) (@Kd.sl kI))))))) y13 (@Int.toNat s2) (@Kd.zero (@Kd.pr kI (@Kd.pr kI (@Kd.pr Kd.str (@Kd.pr Kd.bool (@Kd.pr (@Kd.sl Kd.str) (@Kd.sl kI)))))))).2.2.1, ((@List.getD (@Kd.T (@Kd.pr kI (@Kd.pr kI (@Kd.pr Kd.str (@Kd.pr Kd.bool (@Kd.pr (@Kd.sl Kd.str) (@Kd.sl kI))))))) y13 (@Int.toNat s2) (@Kd.zero (@Kd.pr kI (@Kd.pr kI (@Kd.pr Kd.str (@Kd.pr Kd.bool (@Kd.pr (@Kd.sl Kd.str) (@Kd.sl kI)))))))).2.2.2.1, ((@List.getD (@Kd.T (@Kd.pr kI (@Kd.pr kI (@Kd.pr Kd.str (@Kd.pr Kd.bool (@Kd.pr (@Kd.sl Kd.str) (@Kd.sl kI))))))) y13 (@Int.toNat s2) (@Kd.zero (@Kd.pr kI (@Kd.pr kI (@Kd.pr Kd.str (@Kd.pr Kd.bool (@Kd.pr (@Kd.sl Kd.str) (@Kd.sl kI)))))))).2.2.2.2.1, (@List.getD (@Kd.T (@Kd.pr kI (@Kd.pr kI (@Kd.pr Kd.str (@Kd.pr Kd.bool (@Kd.pr (@Kd.sl Kd.str) (@Kd.sl kI))))))) y13 (@Int.toNat s2) (@Kd.zero (@Kd.pr kI (@Kd.pr kI (@Kd.pr Kd.str (@Kd.pr Kd.bool (@Kd.pr (@Kd.sl Kd.str) (@Kd.sl kI)))))))).2.2.2.2.2)))))) (fun (y15 : (@List (@Kd.T (@Kd.pr kI (@Kd.pr kI (@Kd.pr Kd.str (@Kd.pr Kd.bool (@Kd.pr (@Kd.sl Kd.str) (@Kd.sl kI))))))))) => (@SH (@List (@Kd.T (@Kd.pr kI (@Kd.pr kI (@Kd.pr Kd.str (@Kd.pr Kd.bool (@Kd.pr (@Kd.sl Kd.str) (@Kd.sl kI)))))))) R (@List.set (@Kd.T (@Kd.pr kI (@Kd.pr kI (@Kd.pr Kd.str (@Kd.pr Kd.bool (@Kd.pr (@Kd.sl Kd.str) (@Kd.sl kI))))))) y15 (@Int.toNat s2) ((@List.getD (@Kd.T (@Kd.pr kI (@Kd.pr kI (@Kd.pr Kd.str (@Kd.pr Kd.bool (@Kd.pr (@Kd.sl Kd.str) (@Kd.sl kI))))))) y15 (@Int.toNat s2) (@Kd.zero (@Kd.pr kI (@Kd.pr kI (@Kd.pr Kd.str (@Kd.pr Kd.bool (@Kd.pr (@Kd.sl Kd.str) (@Kd.sl kI)))))))).1, ((@List.getD (@Kd.T (@Kd.pr kI (@Kd.pr kI (@Kd.pr Kd.str (@Kd.pr Kd.bool (@Kd.pr (@Kd.sl Kd.str) (@Kd.sl kI))))))) y15 (@Int.toNat s2) (@Kd.zero (@Kd.pr kI (@Kd.pr kI (@Kd.pr Kd.str (@Kd.pr Kd.bool (@Kd.pr (@Kd.sl Kd.str) (@Kd.sl kI)))))))).2.1, ((@List.getD (@Kd.T (@Kd.pr kI (@Kd.pr kI (@Kd.pr Kd.str (@Kd.pr Kd.bool (@Kd.pr (@Kd.sl Kd.str) (@Kd.sl kI))))))) y15 (@Int.toNat s2) (@Kd.zero (@Kd.pr kI (@Kd.pr kI (@Kd.pr Kd.str (@Kd.pr Kd.bool (@Kd.pr (@Kd.sl Kd.str) (@Kd.sl kI)))))))).2.2.1, ((@List.getD (@Kd.T (@Kd.pr kI (@Kd.pr kI (@Kd.pr Kd.str (@Kd.pr Kd.bool (@Kd.pr (@Kd.sl Kd.str) (@Kd.sl kI))))))) y15 (@Int.toNat s2) (@Kd.zero (@Kd.pr kI (@Kd.pr kI (@Kd.pr Kd.str (@Kd.pr Kd.bool (@Kd.pr (@Kd.sl Kd.str) (@Kd.sl kI)))))))).2.2.2.1, (s5, (@List.getD (@Kd.T (@Kd.pr kI (@Kd.pr kI (@Kd.pr Kd.str (@Kd.pr Kd.bool (@Kd.pr (@Kd.sl Kd.str) (@Kd.sl kI))))))) y15 (@Int.toNat s2) (@Kd.zero (@Kd.pr kI (@Kd.pr kI (@Kd.pr Kd.str (@Kd.pr Kd.bool (@Kd.pr (@Kd.sl Kd.str) (@Kd.sl kI)))))))).2.2.2.2.2)))))) (fun (y16 : (@List (@Kd.T (@Kd.pr kI (@Kd.pr kI (@Kd.pr Kd.str (@Kd.pr Kd.bool (@Kd.pr (@Kd.sl Kd.str) (@Kd.sl kI))))))))) => (@SH (@List (@Kd.T (@Kd.pr kI (@Kd.pr kI (@Kd.pr Kd.str (@Kd.pr Kd.bool (@Kd.pr (@Kd.sl Kd.str) (@Kd.sl kI)))))))) R (@List.set (@Kd.T (@Kd.pr kI (@Kd.pr kI (@Kd.pr Kd.str (@Kd.pr Kd.bool (@Kd.pr (@Kd.sl Kd.str) (@Kd.sl kI))))))) y16 (@Int.toNat s2) ((@List.getD (@Kd.T (@Kd.pr kI (@Kd.pr kI (@Kd.pr Kd.str (@Kd.pr Kd.bool (@Kd.pr (@Kd.sl Kd.str) (@Kd.sl kI))))))) y16 (@Int.toNat s2) (@Kd.zero (@Kd.pr kI (@Kd.pr kI (@Kd.pr Kd.str (@Kd.pr Kd.bool (@Kd.pr (@Kd.sl Kd.str) (@Kd.sl kI)))))))).1, ((@List.getD (@Kd.T (@Kd.pr kI (@Kd.pr kI (@Kd.pr Kd.str (@Kd.pr Kd.bool (@Kd.pr (@Kd.sl Kd.str) (@Kd.sl kI))))))) y16 (@Int.toNat s2) (@Kd.zero (@Kd.pr kI (@Kd.pr kI (@Kd.pr Kd.str (@Kd.pr Kd.bool (@Kd.pr (@Kd.sl Kd.str) (@Kd.sl kI)))))))).2.1, ((@List.getD (@Kd.T (@Kd.pr kI (@Kd.pr kI (@Kd.pr Kd.str (@Kd.pr Kd.bool (@Kd.pr (@Kd.sl Kd.str) (@Kd.sl kI))))))) y16 (@Int.toNat s2) (@Kd.zero (@Kd.pr kI (@Kd.pr kI (@Kd.pr Kd.str (@Kd.pr Kd.bool (@Kd.pr (@Kd.sl Kd.str) (@Kd.sl kI)))))))).2.2.1, ((@List.getD (@Kd.T (@Kd.pr kI (@Kd.pr kI (@Kd.pr Kd.str (@Kd.pr Kd.bool (@Kd.pr (@Kd.sl Kd.str) (@Kd.sl kI))))))) y16 (@Int.toNat s2) (@Kd.zero (@Kd.pr kI (@Kd.pr kI (@Kd.pr Kd.str (@Kd.pr Kd.bool (@Kd.pr (@Kd.sl Kd.str) (@Kd.sl kI)))))))).2.2.2.1, ((@List.getD (@Kd.T (@Kd.pr kI (@Kd.pr kI (@Kd.pr Kd.str (@Kd.pr Kd.bool (@Kd.pr (@Kd.sl Kd.str) (@Kd.sl kI))))))) y16 (@Int.toNat s2) (@Kd.zero (@Kd.pr kI (@Kd.pr kI (@Kd.pr Kd.str (@Kd.pr Kd.bool (@Kd.pr (@Kd.sl Kd.str) (@Kd.sl kI)))))))).2.2.2.2.1, s6)))))) (fun (y17 : (@List (@Kd.T (@Kd.pr kI (@Kd.pr kI (@Kd.pr Kd.str (@Kd.pr Kd.bool (@Kd.pr (@Kd.sl Kd.str) (@Kd.sl kI))))))))) => (K y12 y17))))))) (@Option.none R)))))))
theorem B_doc_parser_pairs_1002_eq (k : Nat) (X_doc_parser_block : XT_doc_parser_block) (X_doc_parser_list : XT_doc_parser_list) (X_doc_parser_pairs : XT_doc_parser_pairs) (X_doc_parser_under : XT_doc_parser_under) {R : Type} (I : Nat → St → Option R) (s0 : (List (Int × (Int × (Int × ((List UInt8) × Bool)))))) (s1 : (List (Int × (Int × ((List UInt8) × (Bool × ((List (List UInt8)) × (List Int)))))))) (s2 : Int) (s3 : Int) (s4 : Int) (s5 : (List (List UInt8))) (s6 : (List Int)) (K : KT_doc_parser_list R) (E : ET_doc_parser_block R) : execK (cx_doc_parser_pairs k X_doc_parser_block X_doc_parser_list X_doc_parser_pairs X_doc_parser_under) k (at_ [1, 1, 0, 0, 0] code_doc_parser_pairs) (st_doc_parser_pairs_1002 s0 s1 s2 s3 s4 s5 s6) (konts (cx_doc_parser_pairs k X_doc_parser_block X_doc_parser_list X_doc_parser_pairs X_doc_parser_under) k I [1, 1, 0, 0, 0] code_doc_parser_pairs (outK (cx_doc_parser_pairs k X_doc_parser_block X_doc_parser_list X_doc_parser_pairs X_doc_parser_under) sp_doc_parser_pairs [] (wrap_doc_parser_pairs K E))) = B_doc_parser_pairs_1002 k X_doc_parser_block X_doc_parser_list X_doc_parser_pairs X_doc_parser_under (fun s0 s1 s2 s3 s4 s5 s6 => I 1002 (st_doc_parser_pairs_1002 s0 s1 s2 s3 s4 s5 s6)) s0 s1 s2 s3 s4 s5 s6 K E := by kernel_rfl
noncomputable def A_doc_parser_pairs (k : Nat) (X_doc_parser_block : XT_doc_parser_block) (X_doc_parser_list : XT_doc_parser_list) (X_doc_parser_pairs : XT_doc_parser_pairs) (X_doc_parser_under : XT_doc_parser_under) {R : Type} (E1002 : ((List (Int × (Int × (Int × ((List UInt8) × Bool))))) → (List (Int × (Int × ((List UInt8) × (Bool × ((List (List UInt8)) × (List Int))))))) → Int → Int → Int → (List (List UInt8)) → (List Int) → Option R)) (x0 : (List (Int × (Int × (Int × ((List UInt8) × Bool)))))) (x1 : (List (Int × (Int × ((List UInt8) × (Bool × ((List (List UInt8)) × (List Int)))))))) (x2 : Int) (x3 : Int) (x4 : Int) (K : KT_doc_parser_list R) (E : ET_doc_parser_block R) : Option R := (E1002 x0 x1 x2 x3 x4 [] [])
theorem A_doc_parser_pairs_eq (k : Nat) (X_doc_parser_block : XT_doc_parser_block) (X_doc_parser_list : XT_doc_parser_list) (X_doc_parser_pairs : XT_doc_parser_pairs) (X_doc_parser_under : XT_doc_parser_under) {R : Type} (I : Nat → St → Option R) (x0 : (List (Int × (Int × (Int × ((List UInt8) × Bool)))))) (x1 : (List (Int × (Int × ((List UInt8) × (Bool × ((List (List UInt8)) × (List Int)))))))) (x2 : Int) (x3 : Int) (x4 : Int) (K : KT_doc_parser_list R) (E : ET_doc_parser_block R) : fnK (cx_doc_parser_pairs k X_doc_parser_block X_doc_parser_list X_doc_parser_pairs X_doc_parser_under) k code_doc_parser_pairs 54 [] sp_doc_parser_pairs [.ptr 1 0, .v (.int .i64) x2, .v (.int .i64) x3, .v (.int .i64) x4] [(21, .row 47 (.pr (.int .i64) (.pr (.int .i64) (.pr .str (.pr .bool (.pr (.sl .str) (.sl (.int .i64))))))) x1), (1, .var 51 [.v (.sl (.pr (.int .i64) (.pr (.int .i64) (.pr (.int .i64) (.pr .str .bool))))) x0, .row 21])] (wrap_doc_parser_pairs K E) = A_doc_parser_pairs k X_doc_parser_block X_doc_parser_list X_doc_parser_pairs X_doc_parser_under (fun s0 s1 s2 s3 s4 s5 s6 => iter (cx_doc_parser_pairs k X_doc_parser_block X_doc_parser_list X_doc_parser_pairs X_doc_parser_under).pv (look (cx_doc_parser_pairs k X_doc_parser_block X_doc_parser_list X_doc_parser_pairs X_doc_parser_under).cuts 1002) (execK (cx_doc_parser_pairs k X_doc_parser_block X_doc_parser_list X_doc_parser_pairs X_doc_parser_under) k (at_ [1, 1, 0, 0, 0] code_doc_parser_pairs)) k (st_doc_parser_pairs_1002 s0 s1 s2 s3 s4 s5 s6) (konts (cx_doc_parser_pairs k X_doc_parser_block X_doc_parser_list X_doc_parser_pairs X_doc_parser_under) k I [1, 1, 0, 0] code_doc_parser_pairs (outK (cx_doc_parser_pairs k X_doc_parser_block X_doc_parser_list X_doc_parser_pairs X_doc_parser_under) sp_doc_parser_pairs [] (wrap_doc_parser_pairs K E)))) x0 x1 x2 x3 x4 K E := by kernel_rfl
noncomputable def L_doc_parser_pairs_1002 (k : Nat) (X_doc_parser_block : XT_doc_parser_block) (X_doc_parser_list : XT_doc_parser_list) (X_doc_parser_pairs : XT_doc_parser_pairs) (X_doc_parser_under : XT_doc_parser_under) {R : Type}  : Nat → (List (Int × (Int × (Int × ((List UInt8) × Bool))))) → (List (Int × (Int × ((List UInt8) × (Bool × ((List (List UInt8)) × (List Int))))))) → Int → Int → Int → (List (List UInt8)) → (List Int) → ((List (Int × (Int × (Int × ((List UInt8) × Bool))))) → (List (Int × (Int × ((List UInt8) × (Bool × ((List (List UInt8)) × (List Int))))))) → Option R) → ((List (Int × (Int × (Int × ((List UInt8) × Bool))))) → (List (Int × (Int × ((List UInt8) × (Bool × ((List (List UInt8)) × (List Int))))))) → Int → Int → Option R) → Option R
  | 0, _, _, _, _, _, _, _, _, _ => none
  | n + 1, s0, s1, s2, s3, s4, s5, s6, K, E => B_doc_parser_pairs_1002 k X_doc_parser_block X_doc_parser_list X_doc_parser_pairs X_doc_parser_under (fun s0 s1 s2 s3 s4 s5 s6 => L_doc_parser_pairs_1002 k X_doc_parser_block X_doc_parser_list X_doc_parser_pairs X_doc_parser_under  n s0 s1 s2 s3 s4 s5 s6 K E) s0 s1 s2 s3 s4 s5 s6 K E
theorem L_doc_parser_pairs_1002_eq (k : Nat) (X_doc_parser_block : XT_doc_parser_block) (X_doc_parser_list : XT_doc_parser_list) (X_doc_parser_pairs : XT_doc_parser_pairs) (X_doc_parser_under : XT_doc_parser_under) {R : Type} (I : Nat → St → Option R) (K : KT_doc_parser_list R) (E : ET_doc_parser_block R) : ∀ (n : Nat) (s0 : (List (Int × (Int × (Int × ((List UInt8) × Bool)))))) (s1 : (List (Int × (Int × ((List UInt8) × (Bool × ((List (List UInt8)) × (List Int)))))))) (s2 : Int) (s3 : Int) (s4 : Int) (s5 : (List (List UInt8))) (s6 : (List Int)), iter (cx_doc_parser_pairs k X_doc_parser_block X_doc_parser_list X_doc_parser_pairs X_doc_parser_under).pv (look (cx_doc_parser_pairs k X_doc_parser_block X_doc_parser_list X_doc_parser_pairs X_doc_parser_under).cuts 1002) (execK (cx_doc_parser_pairs k X_doc_parser_block X_doc_parser_list X_doc_parser_pairs X_doc_parser_under) k (at_ [1, 1, 0, 0, 0] code_doc_parser_pairs)) n (st_doc_parser_pairs_1002 s0 s1 s2 s3 s4 s5 s6) (konts (cx_doc_parser_pairs k X_doc_parser_block X_doc_parser_list X_doc_parser_pairs X_doc_parser_under) k I [1, 1, 0, 0] code_doc_parser_pairs (outK (cx_doc_parser_pairs k X_doc_parser_block X_doc_parser_list X_doc_parser_pairs X_doc_parser_under) sp_doc_parser_pairs [] (wrap_doc_parser_pairs K E))) = L_doc_parser_pairs_1002 k X_doc_parser_block X_doc_parser_list X_doc_parser_pairs X_doc_parser_under  n s0 s1 s2 s3 s4 s5 s6 K E := by
  intro n
  induction n with
  | zero => intros; rfl
  | succ n ih =>
    intro s0 s1 s2 s3 s4 s5 s6
    let I' : Nat → St → Option R := fun id s => bif Nat.beq id 1002 then iter (cx_doc_parser_pairs k X_doc_parser_block X_doc_parser_list X_doc_parser_pairs X_doc_parser_under).pv (look (cx_doc_parser_pairs k X_doc_parser_block X_doc_parser_list X_doc_parser_pairs X_doc_parser_under).cuts 1002) (execK (cx_doc_parser_pairs k X_doc_parser_block X_doc_parser_list X_doc_parser_pairs X_doc_parser_under) k (at_ [1, 1, 0, 0, 0] code_doc_parser_pairs)) n s (konts (cx_doc_parser_pairs k X_doc_parser_block X_doc_parser_list X_doc_parser_pairs X_doc_parser_under) k I [1, 1, 0, 0] code_doc_parser_pairs (outK (cx_doc_parser_pairs k X_doc_parser_block X_doc_parser_list X_doc_parser_pairs X_doc_parser_under) sp_doc_parser_pairs [] (wrap_doc_parser_pairs K E))) else I id s
    have e := B_doc_parser_pairs_1002_eq k X_doc_parser_block X_doc_parser_list X_doc_parser_pairs X_doc_parser_under I' s0 s1 s2 s3 s4 s5 s6 K E
    have h1002 : (fun s0 s1 s2 s3 s4 s5 s6 => I' 1002 (st_doc_parser_pairs_1002 s0 s1 s2 s3 s4 s5 s6)) = (fun s0 s1 s2 s3 s4 s5 s6 => L_doc_parser_pairs_1002 k X_doc_parser_block X_doc_parser_list X_doc_parser_pairs X_doc_parser_under  n s0 s1 s2 s3 s4 s5 s6 K E) := by funext s0 s1 s2 s3 s4 s5 s6; exact ih s0 s1 s2 s3 s4 s5 s6
    refine Eq.trans (?_ : _ = _) (e.trans (Eq.trans ((congrArg ((fun E1002 => B_doc_parser_pairs_1002 k X_doc_parser_block X_doc_parser_list X_doc_parser_pairs X_doc_parser_under E1002 s0 s1 s2 s3 s4 s5 s6 K E)) h1002)) (by rw [L_doc_parser_pairs_1002])))
    rfl
noncomputable def C_doc_parser_under (k : Nat) (X_doc_parser_block : XT_doc_parser_block) (X_doc_parser_list : XT_doc_parser_list) (X_doc_parser_pairs : XT_doc_parser_pairs) (X_doc_parser_under : XT_doc_parser_under) : CTab := ⟨fun f => bif Nat.beq f 15 then sig_doc_gives else bif Nat.beq f 16 then sig_doc_parser_block else [], fun f {_} ps hp K => bif Nat.beq f 15 then run_doc_gives k ps hp K else bif Nat.beq f 16 then runX_doc_parser_block X_doc_parser_block ps hp K else none⟩
def wrap_doc_parser_under {R : Type} (K : KT_doc_parser_block R) (E : ET_doc_parser_block R) : Out → Option R
  | .ret [.v (.int .i64) y2] [(21, .row 47 (.pr (.int .i64) (.pr (.int .i64) (.pr .str (.pr .bool (.pr (.sl .str) (.sl (.int .i64))))))) y1), (1, .var 51 [.v (.sl (.pr (.int .i64) (.pr (.int .i64) (.pr (.int .i64) (.pr .str .bool))))) y0, .row 21])] => K y0 y1 y2
  | .pan (.ifc 30 (.agg [.v (.int .i64) z2, .v (.int .i64) z3])) [(21, .row 47 (.pr (.int .i64) (.pr (.int .i64) (.pr .str (.pr .bool (.pr (.sl .str) (.sl (.int .i64))))))) z1), (1, .var 51 [.v (.sl (.pr (.int .i64) (.pr (.int .i64) (.pr (.int .i64) (.pr .str .bool))))) z0, .row 21])] => E z0 z1 z2 z3
  | _ => none
def sp_doc_parser_under : RetSpec := ⟨[.any], [(1, .obj 1 [.sl (.pr (.int .i64) (.pr (.int .i64) (.pr (.int .i64) (.pr .str .bool)))), .own 21 47 (.pr (.int .i64) (.pr (.int .i64) (.pr .str (.pr .bool (.pr (.sl .str) (.sl (.int .i64)))))))])], [(1, .obj 1 [.sl (.pr (.int .i64) (.pr (.int .i64) (.pr (.int .i64) (.pr .str .bool)))), .own 21 47 (.pr (.int .i64) (.pr (.int .i64) (.pr .str (.pr .bool (.pr (.sl .str) (.sl (.int .i64)))))))])]⟩
def cuts_doc_parser_under : List (Nat × CutSpec) := []
def plans_doc_parser_under : List (Nat × Plan) := [(1, (.of [(0, 1), (1, 1), (2, 1), (3, 1), (4, 1), (5, 1), (6, 1), (7, 1), (8, 1), (9, 1), (14, 1), (10, 1), (11, 1), (12, 1), (13, 1), (15, 1), (16, 1), (17, 1)] .done))]
noncomputable def cx_doc_parser_under (k : Nat) (X_doc_parser_block : XT_doc_parser_block) (X_doc_parser_list : XT_doc_parser_list) (X_doc_parser_pairs : XT_doc_parser_pairs) (X_doc_parser_under : XT_doc_parser_under) : Ctx := ⟨tyT, cuts_doc_parser_under, C_doc_parser_under k X_doc_parser_block X_doc_parser_list X_doc_parser_pairs X_doc_parser_under, [], [1], plans_doc_parser_under, @SH⟩
noncomputable def code_doc_parser_under : Code := Tryd.f44.body.getD .skip
noncomputable def A_doc_parser_under (k : Nat) (X_doc_parser_block : XT_doc_parser_block) (X_doc_parser_list : XT_doc_parser_list) (X_doc_parser_pairs : XT_doc_parser_pairs) (X_doc_parser_under : XT_doc_parser_under) {R : Type}  (x0 : (List (Int × (Int × (Int × ((List UInt8) × Bool)))))) (x1 : (List (Int × (Int × ((List UInt8) × (Bool × ((List (List UInt8)) × (List Int)))))))) (x2 : Int) (x3 : Int) (x4 : Int) (x5 : (List UInt8)) (x6 : Bool) (x7 : Int) (K : KT_doc_parser_block R) (E : ET_doc_parser_block R) : Option R := (@cond (@Option R) (@Bool.or (@Bool.not (@BEq.beq (@Kd.T Kd.bool) (@instBEqOfDecidableEq (@Kd.T Kd.bool) @instDecidableEqBool) (@BEq.beq Int (@instBEqOfDecidableEq Int @Int.instDecidableEq) (@Nat.cast Int instNatCastInt (@List.length (@Kd.T (@Kd.pr kI (@Kd.pr kI (@Kd.pr kI (@Kd.pr Kd.str Kd.bool))))) x0)) (0 : Int)) Bool.false)) (@inb (0 : Int) (@Nat.cast Int instNatCastInt (@List.length (@Kd.T (@Kd.pr kI (@Kd.pr kI (@Kd.pr kI (@Kd.pr Kd.str Kd.bool))))) x0)))) (@cond (@Option R) (@cond (@Kd.T Kd.bool) (@BEq.beq Int (@instBEqOfDecidableEq Int @Int.instDecidableEq) (@Nat.cast Int instNatCastInt (@List.length (@Kd.T (@Kd.pr kI (@Kd.pr kI (@Kd.pr kI (@Kd.pr Kd.str Kd.bool))))) x0)) (0 : Int)) Bool.true (@Decidable.decide (@LE.le Int Int.instLEInt (@List.getD (@Kd.T (@Kd.pr kI (@Kd.pr kI (@Kd.pr kI (@Kd.pr Kd.str Kd.bool))))) x0 (@Int.toNat (0 : Int)) (@Kd.zero (@Kd.pr kI (@Kd.pr kI (@Kd.pr kI (@Kd.pr Kd.str Kd.bool)))))).2.2.1 x4) (@Int.decLe (@List.getD (@Kd.T (@Kd.pr kI (@Kd.pr kI (@Kd.pr kI (@Kd.pr Kd.str Kd.bool))))) x0 (@Int.toNat (0 : Int)) (@Kd.zero (@Kd.pr kI (@Kd.pr kI (@Kd.pr kI (@Kd.pr Kd.str Kd.bool)))))).2.2.1 x4))) (@F_doc_gives k R (10 : Int) x3 (fun (y12 : Int) => (fun (y13 : Int) => (E x0 x1 y12 y13)))) (X_doc_parser_block R x0 x1 (@Go.IntKind.wrap Go.IntKind.i64 (@HAdd.hAdd Int Int Int (@instHAdd Int @Int.instAdd) x7 (1 : Int))) (fun (y12 : (@List (@Prod Int (@Prod Int (@Prod Int (@Prod (@List UInt8) Bool)))))) => (fun (y13 : (@List (@Prod Int (@Prod Int (@Prod (@List UInt8) (@Prod Bool (@Prod (@List (@List UInt8)) (@List Int)))))))) => (fun (y14 : Int) => (K y12 y13 y14)))) (fun (y12 : (@List (@Prod Int (@Prod Int (@Prod Int (@Prod (@List UInt8) Bool)))))) => (fun (y13 : (@List (@Prod Int (@Prod Int (@Prod (@List UInt8) (@Prod Bool (@Prod (@List (@List UInt8)) (@List Int)))))))) => (fun (y14 : Int) => (fun (y15 : Int) => (E y12 y13 y14 y15))))))) (@Option.none R))
theorem A_doc_parser_under_eq (k : Nat) (X_doc_parser_block : XT_doc_parser_block) (X_doc_parser_list : XT_doc_parser_list) (X_doc_parser_pairs : XT_doc_parser_pairs) (X_doc_parser_under : XT_doc_parser_under) {R : Type} (I : Nat → St → Option R) (x0 : (List (Int × (Int × (Int × ((List UInt8) × Bool)))))) (x1 : (List (Int × (Int × ((List UInt8) × (Bool × ((List (List UInt8)) × (List Int)))))))) (x2 : Int) (x3 : Int) (x4 : Int) (x5 : (List UInt8)) (x6 : Bool) (x7 : Int) (K : KT_doc_parser_block R) (E : ET_doc_parser_block R) : fnK (cx_doc_parser_under k X_doc_parser_block X_doc_parser_list X_doc_parser_pairs X_doc_parser_under) k code_doc_parser_under 32 [.tmp 6] sp_doc_parser_under [.ptr 1 0, .agg [.v (.int .i64) x2, .v (.int .i64) x3, .v (.int .i64) x4, .v .str x5, .v .bool x6], .v (.int .i64) x7] [(21, .row 47 (.pr (.int .i64) (.pr (.int .i64) (.pr .str (.pr .bool (.pr (.sl .str) (.sl (.int .i64))))))) x1), (1, .var 51 [.v (.sl (.pr (.int .i64) (.pr (.int .i64) (.pr (.int .i64) (.pr .str .bool))))) x0, .row 21])] (wrap_doc_parser_under K E) = A_doc_parser_under k X_doc_parser_block X_doc_parser_list X_doc_parser_pairs X_doc_parser_under  x0 x1 x2 x3 x4 x5 x6 x7 K E := by kernel_rfl
mutual
noncomputable def FR_doc_parser_block : Nat → (R : Type) → (List (Int × (Int × (Int × ((List UInt8) × Bool))))) → (List (Int × (Int × ((List UInt8) × (Bool × ((List (List UInt8)) × (List Int))))))) → Int → ((List (Int × (Int × (Int × ((List UInt8) × Bool))))) → (List (Int × (Int × ((List UInt8) × (Bool × ((List (List UInt8)) × (List Int))))))) → Int → Option R) → ((List (Int × (Int × (Int × ((List UInt8) × Bool))))) → (List (Int × (Int × ((List UInt8) × (Bool × ((List (List UInt8)) × (List Int))))))) → Int → Int → Option R) → Option R
  | 0, _, _, _, _, _, _ => none
  | k + 1, R, x0, x1, x2, K, E => A_doc_parser_block k (FR_doc_parser_block k) (FR_doc_parser_list k) (FR_doc_parser_pairs k) (FR_doc_parser_under k)  x0 x1 x2 K E
noncomputable def FR_doc_parser_list : Nat → (R : Type) → (List (Int × (Int × (Int × ((List UInt8) × Bool))))) → (List (Int × (Int × ((List UInt8) × (Bool × ((List (List UInt8)) × (List Int))))))) → Int → Int → Int → ((List (Int × (Int × (Int × ((List UInt8) × Bool))))) → (List (Int × (Int × ((List UInt8) × (Bool × ((List (List UInt8)) × (List Int))))))) → Option R) → ((List (Int × (Int × (Int × ((List UInt8) × Bool))))) → (List (Int × (Int × ((List UInt8) × (Bool × ((List (List UInt8)) × (List Int))))))) → Int → Int → Option R) → Option R
  | 0, _, _, _, _, _, _, _, _ => none
  | k + 1, R, x0, x1, x2, x3, x4, K, E => A_doc_parser_list k (FR_doc_parser_block k) (FR_doc_parser_list k) (FR_doc_parser_pairs k) (FR_doc_parser_under k) (fun s0 s1 s2 s3 s4 s5 => L_doc_parser_list_1001 k (FR_doc_parser_block k) (FR_doc_parser_list k) (FR_doc_parser_pairs k) (FR_doc_parser_under k) k s0 s1 s2 s3 s4 s5 K E) x0 x1 x2 x3 x4 K E
noncomputable def FR_doc_parser_pairs : Nat → (R : Type) → (List (Int × (Int × (Int × ((List UInt8) × Bool))))) → (List (Int × (Int × ((List UInt8) × (Bool × ((List (List UInt8)) × (List Int))))))) → Int → Int → Int → ((List (Int × (Int × (Int × ((List UInt8) × Bool))))) → (List (Int × (Int × ((List UInt8) × (Bool × ((List (List UInt8)) × (List Int))))))) → Option R) → ((List (Int × (Int × (Int × ((List UInt8) × Bool))))) → (List (Int × (Int × ((List UInt8) × (Bool × ((List (List UInt8)) × (List Int))))))) → Int → Int → Option R) → Option R
  | 0, _, _, _, _, _, _, _, _ => none
  | k + 1, R, x0, x1, x2, x3, x4, K, E => A_doc_parser_pairs k (FR_doc_parser_block k) (FR_doc_parser_list k) (FR_doc_parser_pairs k) (FR_doc_parser_under k) (fun s0 s1 s2 s3 s4 s5 s6 => L_doc_parser_pairs_1002 k (FR_doc_parser_block k) (FR_doc_parser_list k) (FR_doc_parser_pairs k) (FR_doc_parser_under k) k s0 s1 s2 s3 s4 s5 s6 K E) x0 x1 x2 x3 x4 K E
noncomputable def FR_doc_parser_under : Nat → (R : Type) → (List (Int × (Int × (Int × ((List UInt8) × Bool))))) → (List (Int × (Int × ((List UInt8) × (Bool × ((List (List UInt8)) × (List Int))))))) → Int → Int → Int → (List UInt8) → Bool → Int → ((List (Int × (Int × (Int × ((List UInt8) × Bool))))) → (List (Int × (Int × ((List UInt8) × (Bool × ((List (List UInt8)) × (List Int))))))) → Int → Option R) → ((List (Int × (Int × (Int × ((List UInt8) × Bool))))) → (List (Int × (Int × ((List UInt8) × (Bool × ((List (List UInt8)) × (List Int))))))) → Int → Int → Option R) → Option R
  | 0, _, _, _, _, _, _, _, _, _, _, _ => none
  | k + 1, R, x0, x1, x2, x3, x4, x5, x6, x7, K, E => A_doc_parser_under k (FR_doc_parser_block k) (FR_doc_parser_list k) (FR_doc_parser_pairs k) (FR_doc_parser_under k)  x0 x1 x2 x3 x4 x5 x6 x7 K E
end
noncomputable def F_doc_parser_block (k : Nat) {R : Type} (x0 : (List (Int × (Int × (Int × ((List UInt8) × Bool)))))) (x1 : (List (Int × (Int × ((List UInt8) × (Bool × ((List (List UInt8)) × (List Int)))))))) (x2 : Int) (K : KT_doc_parser_block R) (E : ET_doc_parser_block R) : Option R := FR_doc_parser_block k R x0 x1 x2 K E
noncomputable def F_doc_parser_list (k : Nat) {R : Type} (x0 : (List (Int × (Int × (Int × ((List UInt8) × Bool)))))) (x1 : (List (Int × (Int × ((List UInt8) × (Bool × ((List (List UInt8)) × (List Int)))))))) (x2 : Int) (x3 : Int) (x4 : Int) (K : KT_doc_parser_list R) (E : ET_doc_parser_block R) : Option R := FR_doc_parser_list k R x0 x1 x2 x3 x4 K E
noncomputable def F_doc_parser_pairs (k : Nat) {R : Type} (x0 : (List (Int × (Int × (Int × ((List UInt8) × Bool)))))) (x1 : (List (Int × (Int × ((List UInt8) × (Bool × ((List (List UInt8)) × (List Int)))))))) (x2 : Int) (x3 : Int) (x4 : Int) (K : KT_doc_parser_list R) (E : ET_doc_parser_block R) : Option R := FR_doc_parser_pairs k R x0 x1 x2 x3 x4 K E
noncomputable def F_doc_parser_under (k : Nat) {R : Type} (x0 : (List (Int × (Int × (Int × ((List UInt8) × Bool)))))) (x1 : (List (Int × (Int × ((List UInt8) × (Bool × ((List (List UInt8)) × (List Int)))))))) (x2 : Int) (x3 : Int) (x4 : Int) (x5 : (List UInt8)) (x6 : Bool) (x7 : Int) (K : KT_doc_parser_block R) (E : ET_doc_parser_block R) : Option R := FR_doc_parser_under k R x0 x1 x2 x3 x4 x5 x6 x7 K E
theorem F_doc_parser_block_eq (k : Nat) {R : Type} (x0 : (List (Int × (Int × (Int × ((List UInt8) × Bool)))))) (x1 : (List (Int × (Int × ((List UInt8) × (Bool × ((List (List UInt8)) × (List Int)))))))) (x2 : Int) (K : KT_doc_parser_block R) (E : ET_doc_parser_block R) : fnK (cx_doc_parser_block k (FR_doc_parser_block k) (FR_doc_parser_list k) (FR_doc_parser_pairs k) (FR_doc_parser_under k)) k code_doc_parser_block 97 [.tmp 4] sp_doc_parser_block [.ptr 1 0, .v (.int .i64) x2] [(21, .row 47 (.pr (.int .i64) (.pr (.int .i64) (.pr .str (.pr .bool (.pr (.sl .str) (.sl (.int .i64))))))) x1), (1, .var 51 [.v (.sl (.pr (.int .i64) (.pr (.int .i64) (.pr (.int .i64) (.pr .str .bool))))) x0, .row 21])] (wrap_doc_parser_block K E) = FR_doc_parser_block (k + 1) R x0 x1 x2 K E := by
  rw [FR_doc_parser_block]
  exact A_doc_parser_block_eq k (FR_doc_parser_block k) (FR_doc_parser_list k) (FR_doc_parser_pairs k) (FR_doc_parser_under k) (fun _ _ => none) x0 x1 x2 K E
noncomputable def run_doc_parser_block (k : Nat) {R : Type} : List PV → List (Nm × HObj) → (Out → Option R) → Option R
  | [.ptr 1 0, .v (.int .i64) x2], [(21, .row 47 (.pr (.int .i64) (.pr (.int .i64) (.pr .str (.pr .bool (.pr (.sl .str) (.sl (.int .i64))))))) x1), (1, .var 51 [.v (.sl (.pr (.int .i64) (.pr (.int .i64) (.pr (.int .i64) (.pr .str .bool))))) x0, .row 21])], K => F_doc_parser_block k x0 x1 x2 (fun y0 y1 y2 => K (.ret [.v (.int .i64) y2] [(21, .row 47 (.pr (.int .i64) (.pr (.int .i64) (.pr .str (.pr .bool (.pr (.sl .str) (.sl (.int .i64))))))) y1), (1, .var 51 [.v (.sl (.pr (.int .i64) (.pr (.int .i64) (.pr (.int .i64) (.pr .str .bool))))) y0, .row 21])])) (fun z0 z1 z2 z3 => K (.pan (.ifc 30 (.agg [.v (.int .i64) z2, .v (.int .i64) z3])) [(21, .row 47 (.pr (.int .i64) (.pr (.int .i64) (.pr .str (.pr .bool (.pr (.sl .str) (.sl (.int .i64))))))) z1), (1, .var 51 [.v (.sl (.pr (.int .i64) (.pr (.int .i64) (.pr (.int .i64) (.pr .str .bool))))) z0, .row 21])]))
  | _, _, _ => none
theorem F_doc_parser_list_eq (k : Nat) {R : Type} (x0 : (List (Int × (Int × (Int × ((List UInt8) × Bool)))))) (x1 : (List (Int × (Int × ((List UInt8) × (Bool × ((List (List UInt8)) × (List Int)))))))) (x2 : Int) (x3 : Int) (x4 : Int) (K : KT_doc_parser_list R) (E : ET_doc_parser_block R) : fnK (cx_doc_parser_list k (FR_doc_parser_block k) (FR_doc_parser_list k) (FR_doc_parser_pairs k) (FR_doc_parser_under k)) k code_doc_parser_list 37 [] sp_doc_parser_list [.ptr 1 0, .v (.int .i64) x2, .v (.int .i64) x3, .v (.int .i64) x4] [(21, .row 47 (.pr (.int .i64) (.pr (.int .i64) (.pr .str (.pr .bool (.pr (.sl .str) (.sl (.int .i64))))))) x1), (1, .var 51 [.v (.sl (.pr (.int .i64) (.pr (.int .i64) (.pr (.int .i64) (.pr .str .bool))))) x0, .row 21])] (wrap_doc_parser_list K E) = FR_doc_parser_list (k + 1) R x0 x1 x2 x3 x4 K E := by
  rw [FR_doc_parser_list]
  let I : Nat → St → Option R := fun _ _ => none
  have h1001 : (fun s0 s1 s2 s3 s4 s5 => iter (cx_doc_parser_list k (FR_doc_parser_block k) (FR_doc_parser_list k) (FR_doc_parser_pairs k) (FR_doc_parser_under k)).pv (look (cx_doc_parser_list k (FR_doc_parser_block k) (FR_doc_parser_list k) (FR_doc_parser_pairs k) (FR_doc_parser_under k)).cuts 1001) (execK (cx_doc_parser_list k (FR_doc_parser_block k) (FR_doc_parser_list k) (FR_doc_parser_pairs k) (FR_doc_parser_under k)) k (at_ [1, 0, 0, 0] code_doc_parser_list)) k (st_doc_parser_list_1001 s0 s1 s2 s3 s4 s5) (konts (cx_doc_parser_list k (FR_doc_parser_block k) (FR_doc_parser_list k) (FR_doc_parser_pairs k) (FR_doc_parser_under k)) k I [1, 0, 0] code_doc_parser_list (outK (cx_doc_parser_list k (FR_doc_parser_block k) (FR_doc_parser_list k) (FR_doc_parser_pairs k) (FR_doc_parser_under k)) sp_doc_parser_list [] (wrap_doc_parser_list K E)))) = (fun s0 s1 s2 s3 s4 s5 => L_doc_parser_list_1001 k (FR_doc_parser_block k) (FR_doc_parser_list k) (FR_doc_parser_pairs k) (FR_doc_parser_under k) k s0 s1 s2 s3 s4 s5 K E) := by funext s0 s1 s2 s3 s4 s5; exact L_doc_parser_list_1001_eq k (FR_doc_parser_block k) (FR_doc_parser_list k) (FR_doc_parser_pairs k) (FR_doc_parser_under k) I K E k s0 s1 s2 s3 s4 s5
  exact (A_doc_parser_list_eq k (FR_doc_parser_block k) (FR_doc_parser_list k) (FR_doc_parser_pairs k) (FR_doc_parser_under k) I x0 x1 x2 x3 x4 K E).trans (congrArg ((fun E1001 => A_doc_parser_list k (FR_doc_parser_block k) (FR_doc_parser_list k) (FR_doc_parser_pairs k) (FR_doc_parser_under k) E1001 x0 x1 x2 x3 x4 K E)) h1001)
noncomputable def run_doc_parser_list (k : Nat) {R : Type} : List PV → List (Nm × HObj) → (Out → Option R) → Option R
  | [.ptr 1 0, .v (.int .i64) x2, .v (.int .i64) x3, .v (.int .i64) x4], [(21, .row 47 (.pr (.int .i64) (.pr (.int .i64) (.pr .str (.pr .bool (.pr (.sl .str) (.sl (.int .i64))))))) x1), (1, .var 51 [.v (.sl (.pr (.int .i64) (.pr (.int .i64) (.pr (.int .i64) (.pr .str .bool))))) x0, .row 21])], K => F_doc_parser_list k x0 x1 x2 x3 x4 (fun y0 y1 => K (.ret [] [(21, .row 47 (.pr (.int .i64) (.pr (.int .i64) (.pr .str (.pr .bool (.pr (.sl .str) (.sl (.int .i64))))))) y1), (1, .var 51 [.v (.sl (.pr (.int .i64) (.pr (.int .i64) (.pr (.int .i64) (.pr .str .bool))))) y0, .row 21])])) (fun z0 z1 z2 z3 => K (.pan (.ifc 30 (.agg [.v (.int .i64) z2, .v (.int .i64) z3])) [(21, .row 47 (.pr (.int .i64) (.pr (.int .i64) (.pr .str (.pr .bool (.pr (.sl .str) (.sl (.int .i64))))))) z1), (1, .var 51 [.v (.sl (.pr (.int .i64) (.pr (.int .i64) (.pr (.int .i64) (.pr .str .bool))))) z0, .row 21])]))
  | _, _, _ => none
theorem F_doc_parser_pairs_eq (k : Nat) {R : Type} (x0 : (List (Int × (Int × (Int × ((List UInt8) × Bool)))))) (x1 : (List (Int × (Int × ((List UInt8) × (Bool × ((List (List UInt8)) × (List Int)))))))) (x2 : Int) (x3 : Int) (x4 : Int) (K : KT_doc_parser_list R) (E : ET_doc_parser_block R) : fnK (cx_doc_parser_pairs k (FR_doc_parser_block k) (FR_doc_parser_list k) (FR_doc_parser_pairs k) (FR_doc_parser_under k)) k code_doc_parser_pairs 54 [] sp_doc_parser_pairs [.ptr 1 0, .v (.int .i64) x2, .v (.int .i64) x3, .v (.int .i64) x4] [(21, .row 47 (.pr (.int .i64) (.pr (.int .i64) (.pr .str (.pr .bool (.pr (.sl .str) (.sl (.int .i64))))))) x1), (1, .var 51 [.v (.sl (.pr (.int .i64) (.pr (.int .i64) (.pr (.int .i64) (.pr .str .bool))))) x0, .row 21])] (wrap_doc_parser_pairs K E) = FR_doc_parser_pairs (k + 1) R x0 x1 x2 x3 x4 K E := by
  rw [FR_doc_parser_pairs]
  let I : Nat → St → Option R := fun _ _ => none
  have h1002 : (fun s0 s1 s2 s3 s4 s5 s6 => iter (cx_doc_parser_pairs k (FR_doc_parser_block k) (FR_doc_parser_list k) (FR_doc_parser_pairs k) (FR_doc_parser_under k)).pv (look (cx_doc_parser_pairs k (FR_doc_parser_block k) (FR_doc_parser_list k) (FR_doc_parser_pairs k) (FR_doc_parser_under k)).cuts 1002) (execK (cx_doc_parser_pairs k (FR_doc_parser_block k) (FR_doc_parser_list k) (FR_doc_parser_pairs k) (FR_doc_parser_under k)) k (at_ [1, 1, 0, 0, 0] code_doc_parser_pairs)) k (st_doc_parser_pairs_1002 s0 s1 s2 s3 s4 s5 s6) (konts (cx_doc_parser_pairs k (FR_doc_parser_block k) (FR_doc_parser_list k) (FR_doc_parser_pairs k) (FR_doc_parser_under k)) k I [1, 1, 0, 0] code_doc_parser_pairs (outK (cx_doc_parser_pairs k (FR_doc_parser_block k) (FR_doc_parser_list k) (FR_doc_parser_pairs k) (FR_doc_parser_under k)) sp_doc_parser_pairs [] (wrap_doc_parser_pairs K E)))) = (fun s0 s1 s2 s3 s4 s5 s6 => L_doc_parser_pairs_1002 k (FR_doc_parser_block k) (FR_doc_parser_list k) (FR_doc_parser_pairs k) (FR_doc_parser_under k) k s0 s1 s2 s3 s4 s5 s6 K E) := by funext s0 s1 s2 s3 s4 s5 s6; exact L_doc_parser_pairs_1002_eq k (FR_doc_parser_block k) (FR_doc_parser_list k) (FR_doc_parser_pairs k) (FR_doc_parser_under k) I K E k s0 s1 s2 s3 s4 s5 s6
  exact (A_doc_parser_pairs_eq k (FR_doc_parser_block k) (FR_doc_parser_list k) (FR_doc_parser_pairs k) (FR_doc_parser_under k) I x0 x1 x2 x3 x4 K E).trans (congrArg ((fun E1002 => A_doc_parser_pairs k (FR_doc_parser_block k) (FR_doc_parser_list k) (FR_doc_parser_pairs k) (FR_doc_parser_under k) E1002 x0 x1 x2 x3 x4 K E)) h1002)
noncomputable def run_doc_parser_pairs (k : Nat) {R : Type} : List PV → List (Nm × HObj) → (Out → Option R) → Option R
  | [.ptr 1 0, .v (.int .i64) x2, .v (.int .i64) x3, .v (.int .i64) x4], [(21, .row 47 (.pr (.int .i64) (.pr (.int .i64) (.pr .str (.pr .bool (.pr (.sl .str) (.sl (.int .i64))))))) x1), (1, .var 51 [.v (.sl (.pr (.int .i64) (.pr (.int .i64) (.pr (.int .i64) (.pr .str .bool))))) x0, .row 21])], K => F_doc_parser_pairs k x0 x1 x2 x3 x4 (fun y0 y1 => K (.ret [] [(21, .row 47 (.pr (.int .i64) (.pr (.int .i64) (.pr .str (.pr .bool (.pr (.sl .str) (.sl (.int .i64))))))) y1), (1, .var 51 [.v (.sl (.pr (.int .i64) (.pr (.int .i64) (.pr (.int .i64) (.pr .str .bool))))) y0, .row 21])])) (fun z0 z1 z2 z3 => K (.pan (.ifc 30 (.agg [.v (.int .i64) z2, .v (.int .i64) z3])) [(21, .row 47 (.pr (.int .i64) (.pr (.int .i64) (.pr .str (.pr .bool (.pr (.sl .str) (.sl (.int .i64))))))) z1), (1, .var 51 [.v (.sl (.pr (.int .i64) (.pr (.int .i64) (.pr (.int .i64) (.pr .str .bool))))) z0, .row 21])]))
  | _, _, _ => none
theorem F_doc_parser_under_eq (k : Nat) {R : Type} (x0 : (List (Int × (Int × (Int × ((List UInt8) × Bool)))))) (x1 : (List (Int × (Int × ((List UInt8) × (Bool × ((List (List UInt8)) × (List Int)))))))) (x2 : Int) (x3 : Int) (x4 : Int) (x5 : (List UInt8)) (x6 : Bool) (x7 : Int) (K : KT_doc_parser_block R) (E : ET_doc_parser_block R) : fnK (cx_doc_parser_under k (FR_doc_parser_block k) (FR_doc_parser_list k) (FR_doc_parser_pairs k) (FR_doc_parser_under k)) k code_doc_parser_under 32 [.tmp 6] sp_doc_parser_under [.ptr 1 0, .agg [.v (.int .i64) x2, .v (.int .i64) x3, .v (.int .i64) x4, .v .str x5, .v .bool x6], .v (.int .i64) x7] [(21, .row 47 (.pr (.int .i64) (.pr (.int .i64) (.pr .str (.pr .bool (.pr (.sl .str) (.sl (.int .i64))))))) x1), (1, .var 51 [.v (.sl (.pr (.int .i64) (.pr (.int .i64) (.pr (.int .i64) (.pr .str .bool))))) x0, .row 21])] (wrap_doc_parser_under K E) = FR_doc_parser_under (k + 1) R x0 x1 x2 x3 x4 x5 x6 x7 K E := by
  rw [FR_doc_parser_under]
  exact A_doc_parser_under_eq k (FR_doc_parser_block k) (FR_doc_parser_list k) (FR_doc_parser_pairs k) (FR_doc_parser_under k) (fun _ _ => none) x0 x1 x2 x3 x4 x5 x6 x7 K E
noncomputable def run_doc_parser_under (k : Nat) {R : Type} : List PV → List (Nm × HObj) → (Out → Option R) → Option R
  | [.ptr 1 0, .agg [.v (.int .i64) x2, .v (.int .i64) x3, .v (.int .i64) x4, .v .str x5, .v .bool x6], .v (.int .i64) x7], [(21, .row 47 (.pr (.int .i64) (.pr (.int .i64) (.pr .str (.pr .bool (.pr (.sl .str) (.sl (.int .i64))))))) x1), (1, .var 51 [.v (.sl (.pr (.int .i64) (.pr (.int .i64) (.pr (.int .i64) (.pr .str .bool))))) x0, .row 21])], K => F_doc_parser_under k x0 x1 x2 x3 x4 x5 x6 x7 (fun y0 y1 y2 => K (.ret [.v (.int .i64) y2] [(21, .row 47 (.pr (.int .i64) (.pr (.int .i64) (.pr .str (.pr .bool (.pr (.sl .str) (.sl (.int .i64))))))) y1), (1, .var 51 [.v (.sl (.pr (.int .i64) (.pr (.int .i64) (.pr (.int .i64) (.pr .str .bool))))) y0, .row 21])])) (fun z0 z1 z2 z3 => K (.pan (.ifc 30 (.agg [.v (.int .i64) z2, .v (.int .i64) z3])) [(21, .row 47 (.pr (.int .i64) (.pr (.int .i64) (.pr .str (.pr .bool (.pr (.sl .str) (.sl (.int .i64))))))) z1), (1, .var 51 [.v (.sl (.pr (.int .i64) (.pr (.int .i64) (.pr (.int .i64) (.pr .str .bool))))) z0, .row 21])]))
  | _, _, _ => none
theorem C_doc_parser_block_ok (k : Nat) (X_doc_parser_block : XT_doc_parser_block) (X_doc_parser_list : XT_doc_parser_list) (X_doc_parser_pairs : XT_doc_parser_pairs) (X_doc_parser_under : XT_doc_parser_under) (hX_doc_parser_list : ∀ {ps : List PV} {hp : List (Nm × HObj)} {R : Type} {K : Out → Option R} {r : R}, runX_doc_parser_list X_doc_parser_list ps hp K = some r → DoesTo Tryd.prog 29 ps hp fun out => K out = some r) (hX_doc_parser_pairs : ∀ {ps : List PV} {hp : List (Nm × HObj)} {R : Type} {K : Out → Option R} {r : R}, runX_doc_parser_pairs X_doc_parser_pairs ps hp K = some r → DoesTo Tryd.prog 30 ps hp fun out => K out = some r) : (C_doc_parser_block k X_doc_parser_block X_doc_parser_list X_doc_parser_pairs X_doc_parser_under).Ok Tryd.prog := by
  intro f ps hp R K r h
  unfold C_doc_parser_block at h
  simp only at h
  cases hb15 : Nat.beq f 15 with
  | true => rw [hb15, cond_true] at h; rw [Nat.eq_of_beq_eq_true hb15]; exact D_doc_gives k h
  | false =>
  rw [hb15, cond_false] at h
  cases hb28 : Nat.beq f 28 with
  | true => rw [hb28, cond_true] at h; rw [Nat.eq_of_beq_eq_true hb28]; exact D_doc_parser_take k h
  | false =>
  rw [hb28, cond_false] at h
  cases hb29 : Nat.beq f 29 with
  | true => rw [hb29, cond_true] at h; rw [Nat.eq_of_beq_eq_true hb29]; exact hX_doc_parser_list h
  | false =>
  rw [hb29, cond_false] at h
  cases hb30 : Nat.beq f 30 with
  | true => rw [hb30, cond_true] at h; rw [Nat.eq_of_beq_eq_true hb30]; exact hX_doc_parser_pairs h
  | false =>
  rw [hb30, cond_false] at h
  cases h
theorem C_doc_parser_list_ok (k : Nat) (X_doc_parser_block : XT_doc_parser_block) (X_doc_parser_list : XT_doc_parser_list) (X_doc_parser_pairs : XT_doc_parser_pairs) (X_doc_parser_under : XT_doc_parser_under) (hX_doc_parser_under : ∀ {ps : List PV} {hp : List (Nm × HObj)} {R : Type} {K : Out → Option R} {r : R}, runX_doc_parser_under X_doc_parser_under ps hp K = some r → DoesTo Tryd.prog 44 ps hp fun out => K out = some r) : (C_doc_parser_list k X_doc_parser_block X_doc_parser_list X_doc_parser_pairs X_doc_parser_under).Ok Tryd.prog := by
  intro f ps hp R K r h
  unfold C_doc_parser_list at h
  simp only at h
  cases hb28 : Nat.beq f 28 with
  | true => rw [hb28, cond_true] at h; rw [Nat.eq_of_beq_eq_true hb28]; exact D_doc_parser_take k h
  | false =>
  rw [hb28, cond_false] at h
  cases hb43 : Nat.beq f 43 with
  | true => rw [hb43, cond_true] at h; rw [Nat.eq_of_beq_eq_true hb43]; exact D_doc_parser_next k h
  | false =>
  rw [hb43, cond_false] at h
  cases hb44 : Nat.beq f 44 with
  | true => rw [hb44, cond_true] at h; rw [Nat.eq_of_beq_eq_true hb44]; exact hX_doc_parser_under h
  | false =>
  rw [hb44, cond_false] at h
  cases h
theorem C_doc_parser_pairs_ok (k : Nat) (X_doc_parser_block : XT_doc_parser_block) (X_doc_parser_list : XT_doc_parser_list) (X_doc_parser_pairs : XT_doc_parser_pairs) (X_doc_parser_under : XT_doc_parser_under) (hX_doc_parser_under : ∀ {ps : List PV} {hp : List (Nm × HObj)} {R : Type} {K : Out → Option R} {r : R}, runX_doc_parser_under X_doc_parser_under ps hp K = some r → DoesTo Tryd.prog 44 ps hp fun out => K out = some r) : (C_doc_parser_pairs k X_doc_parser_block X_doc_parser_list X_doc_parser_pairs X_doc_parser_under).Ok Tryd.prog := by
  intro f ps hp R K r h
  unfold C_doc_parser_pairs at h
  simp only at h
  cases hb15 : Nat.beq f 15 with
  | true => rw [hb15, cond_true] at h; rw [Nat.eq_of_beq_eq_true hb15]; exact D_doc_gives k h
  | false =>
  rw [hb15, cond_false] at h
  cases hb28 : Nat.beq f 28 with
  | true => rw [hb28, cond_true] at h; rw [Nat.eq_of_beq_eq_true hb28]; exact D_doc_parser_take k h
  | false =>
  rw [hb28, cond_false] at h
  cases hb43 : Nat.beq f 43 with
  | true => rw [hb43, cond_true] at h; rw [Nat.eq_of_beq_eq_true hb43]; exact D_doc_parser_next k h
  | false =>
  rw [hb43, cond_false] at h
  cases hb44 : Nat.beq f 44 with
  | true => rw [hb44, cond_true] at h; rw [Nat.eq_of_beq_eq_true hb44]; exact hX_doc_parser_under h
  | false =>
  rw [hb44, cond_false] at h
  cases hb45 : Nat.beq f 45 with
  | true => rw [hb45, cond_true] at h; rw [Nat.eq_of_beq_eq_true hb45]; exact D_slices_Contains___string_string k h
  | false =>
  rw [hb45, cond_false] at h
  cases h
theorem C_doc_parser_under_ok (k : Nat) (X_doc_parser_block : XT_doc_parser_block) (X_doc_parser_list : XT_doc_parser_list) (X_doc_parser_pairs : XT_doc_parser_pairs) (X_doc_parser_under : XT_doc_parser_under) (hX_doc_parser_block : ∀ {ps : List PV} {hp : List (Nm × HObj)} {R : Type} {K : Out → Option R} {r : R}, runX_doc_parser_block X_doc_parser_block ps hp K = some r → DoesTo Tryd.prog 16 ps hp fun out => K out = some r) : (C_doc_parser_under k X_doc_parser_block X_doc_parser_list X_doc_parser_pairs X_doc_parser_under).Ok Tryd.prog := by
  intro f ps hp R K r h
  unfold C_doc_parser_under at h
  simp only at h
  cases hb15 : Nat.beq f 15 with
  | true => rw [hb15, cond_true] at h; rw [Nat.eq_of_beq_eq_true hb15]; exact D_doc_gives k h
  | false =>
  rw [hb15, cond_false] at h
  cases hb16 : Nat.beq f 16 with
  | true => rw [hb16, cond_true] at h; rw [Nat.eq_of_beq_eq_true hb16]; exact hX_doc_parser_block h
  | false =>
  rw [hb16, cond_false] at h
  cases h
theorem DG_doc_parser_block : ∀ k : Nat, (∀ {ps : List PV} {hp : List (Nm × HObj)} {R : Type} {K : Out → Option R} {r : R}, run_doc_parser_block k ps hp K = some r → DoesTo Tryd.prog 16 ps hp fun out => K out = some r) ∧ (∀ {ps : List PV} {hp : List (Nm × HObj)} {R : Type} {K : Out → Option R} {r : R}, run_doc_parser_list k ps hp K = some r → DoesTo Tryd.prog 29 ps hp fun out => K out = some r) ∧ (∀ {ps : List PV} {hp : List (Nm × HObj)} {R : Type} {K : Out → Option R} {r : R}, run_doc_parser_pairs k ps hp K = some r → DoesTo Tryd.prog 30 ps hp fun out => K out = some r) ∧ (∀ {ps : List PV} {hp : List (Nm × HObj)} {R : Type} {K : Out → Option R} {r : R}, run_doc_parser_under k ps hp K = some r → DoesTo Tryd.prog 44 ps hp fun out => K out = some r) := by
  intro k
  induction k with
  | zero =>
    refine ⟨?_, ?_, ?_, ?_⟩
    · intro ps hp R K r h
      unfold run_doc_parser_block at h
      split at h
      · unfold F_doc_parser_block at h; rw [FR_doc_parser_block] at h; cases h
      · cases h
    · intro ps hp R K r h
      unfold run_doc_parser_list at h
      split at h
      · unfold F_doc_parser_list at h; rw [FR_doc_parser_list] at h; cases h
      · cases h
    · intro ps hp R K r h
      unfold run_doc_parser_pairs at h
      split at h
      · unfold F_doc_parser_pairs at h; rw [FR_doc_parser_pairs] at h; cases h
      · cases h
    · intro ps hp R K r h
      unfold run_doc_parser_under at h
      split at h
      · unfold F_doc_parser_under at h; rw [FR_doc_parser_under] at h; cases h
      · cases h
  | succ k ih =>
    obtain ⟨ih_doc_parser_block, ih_doc_parser_list, ih_doc_parser_pairs, ih_doc_parser_under⟩ := ih
    refine ⟨?_, ?_, ?_, ?_⟩
    · intro ps hp R K r h
      unfold run_doc_parser_block at h
      split at h
      · unfold F_doc_parser_block at h; rw [← F_doc_parser_block_eq] at h
        have := fn_ok (P := Tryd.prog) (cx := cx_doc_parser_block k (FR_doc_parser_block k) (FR_doc_parser_list k) (FR_doc_parser_pairs k) (FR_doc_parser_under k)) (f := 16) ⟨tyT_ok, C_doc_parser_block_ok k (FR_doc_parser_block k) (FR_doc_parser_list k) (FR_doc_parser_pairs k) (FR_doc_parser_under k) (fun h => ih_doc_parser_list (by unfold runX_doc_parser_list at h; unfold run_doc_parser_list; exact h)) (fun h => ih_doc_parser_pairs (by unfold runX_doc_parser_pairs at h; unfold run_doc_parser_pairs; exact h)), fun _ _ => rfl⟩ (by kernel_rfl) (fn := Tryd.f16) (c := code_doc_parser_block) (by kernel_rfl) (by kernel_rfl) (by kernel_rfl) (rs := [.tmp 4]) (by kernel_rfl) (by kernel_rfl) h
        exact this.mono fun out ho => by
          unfold wrap_doc_parser_block at ho
          split at ho <;> first | exact ho | cases ho
      · cases h
    · intro ps hp R K r h
      unfold run_doc_parser_list at h
      split at h
      · unfold F_doc_parser_list at h; rw [← F_doc_parser_list_eq] at h
        have := fn_ok (P := Tryd.prog) (cx := cx_doc_parser_list k (FR_doc_parser_block k) (FR_doc_parser_list k) (FR_doc_parser_pairs k) (FR_doc_parser_under k)) (f := 29) ⟨tyT_ok, C_doc_parser_list_ok k (FR_doc_parser_block k) (FR_doc_parser_list k) (FR_doc_parser_pairs k) (FR_doc_parser_under k) (fun h => ih_doc_parser_under (by unfold runX_doc_parser_under at h; unfold run_doc_parser_under; exact h)), fun _ _ => rfl⟩ (by kernel_rfl) (fn := Tryd.f29) (c := code_doc_parser_list) (by kernel_rfl) (by kernel_rfl) (by kernel_rfl) (rs := []) (by kernel_rfl) (by kernel_rfl) h
        exact this.mono fun out ho => by
          unfold wrap_doc_parser_list at ho
          split at ho <;> first | exact ho | cases ho
      · cases h
    · intro ps hp R K r h
      unfold run_doc_parser_pairs at h
      split at h
      · unfold F_doc_parser_pairs at h; rw [← F_doc_parser_pairs_eq] at h
        have := fn_ok (P := Tryd.prog) (cx := cx_doc_parser_pairs k (FR_doc_parser_block k) (FR_doc_parser_list k) (FR_doc_parser_pairs k) (FR_doc_parser_under k)) (f := 30) ⟨tyT_ok, C_doc_parser_pairs_ok k (FR_doc_parser_block k) (FR_doc_parser_list k) (FR_doc_parser_pairs k) (FR_doc_parser_under k) (fun h => ih_doc_parser_under (by unfold runX_doc_parser_under at h; unfold run_doc_parser_under; exact h)), fun _ _ => rfl⟩ (by kernel_rfl) (fn := Tryd.f30) (c := code_doc_parser_pairs) (by kernel_rfl) (by kernel_rfl) (by kernel_rfl) (rs := []) (by kernel_rfl) (by kernel_rfl) h
        exact this.mono fun out ho => by
          unfold wrap_doc_parser_pairs at ho
          split at ho <;> first | exact ho | cases ho
      · cases h
    · intro ps hp R K r h
      unfold run_doc_parser_under at h
      split at h
      · unfold F_doc_parser_under at h; rw [← F_doc_parser_under_eq] at h
        have := fn_ok (P := Tryd.prog) (cx := cx_doc_parser_under k (FR_doc_parser_block k) (FR_doc_parser_list k) (FR_doc_parser_pairs k) (FR_doc_parser_under k)) (f := 44) ⟨tyT_ok, C_doc_parser_under_ok k (FR_doc_parser_block k) (FR_doc_parser_list k) (FR_doc_parser_pairs k) (FR_doc_parser_under k) (fun h => ih_doc_parser_block (by unfold runX_doc_parser_block at h; unfold run_doc_parser_block; exact h)), fun _ _ => rfl⟩ (by kernel_rfl) (fn := Tryd.f44) (c := code_doc_parser_under) (by kernel_rfl) (by kernel_rfl) (by kernel_rfl) (rs := [.tmp 6]) (by kernel_rfl) (by kernel_rfl) h
        exact this.mono fun out ho => by
          unfold wrap_doc_parser_under at ho
          split at ho <;> first | exact ho | cases ho
      · cases h
theorem D_doc_parser_block (k : Nat) {ps : List PV} {hp : List (Nm × HObj)} {R : Type} {K : Out → Option R} {r : R} (h : run_doc_parser_block k ps hp K = some r) : DoesTo Tryd.prog 16 ps hp fun out => K out = some r := (DG_doc_parser_block k).1 h
theorem D_doc_parser_list (k : Nat) {ps : List PV} {hp : List (Nm × HObj)} {R : Type} {K : Out → Option R} {r : R} (h : run_doc_parser_list k ps hp K = some r) : DoesTo Tryd.prog 29 ps hp fun out => K out = some r := (DG_doc_parser_block k).2.1 h
theorem D_doc_parser_pairs (k : Nat) {ps : List PV} {hp : List (Nm × HObj)} {R : Type} {K : Out → Option R} {r : R} (h : run_doc_parser_pairs k ps hp K = some r) : DoesTo Tryd.prog 30 ps hp fun out => K out = some r := (DG_doc_parser_block k).2.2.1 h
theorem D_doc_parser_under (k : Nat) {ps : List PV} {hp : List (Nm × HObj)} {R : Type} {K : Out → Option R} {r : R} (h : run_doc_parser_under k ps hp K = some r) : DoesTo Tryd.prog 44 ps hp fun out => K out = some r := (DG_doc_parser_block k).2.2.2 h
end Go.Proofs.YtpfbdepoammjmaaDoor.Pvm

set_option maxRecDepth 1000000
set_option maxHeartbeats 0
namespace Go.Proofs.YtpfbdepoammjmaaDoor.Pvm
open Go Go.Proofs
def sig_doc_Of : List LS := [.sl (.pr (.int .i64) (.pr (.int .i64) (.pr (.int .i64) (.pr .str .bool))))]
noncomputable def C_doc_Of (k : Nat) : CTab := ⟨fun f => bif Nat.beq f 15 then sig_doc_gives else bif Nat.beq f 16 then sig_doc_parser_block else [], fun f {_} ps hp K => bif Nat.beq f 15 then run_doc_gives k ps hp K else bif Nat.beq f 16 then run_doc_parser_block k ps hp K else none⟩
def wrap_doc_Of {R : Type} (K : ((List (Int × (Int × ((List UInt8) × (Bool × ((List (List UInt8)) × (List Int))))))) → Int → Int → Option R)) : Out → Option R
  | .ret [.agg [.v (.sl (.pr (.int .i64) (.pr (.int .i64) (.pr .str (.pr .bool (.pr (.sl .str) (.sl (.int .i64)))))))) y0], .agg [.v (.int .i64) y1, .v (.int .i64) y2]] [] => K y0 y1 y2
  | _ => none
def sp_doc_Of : RetSpec := ⟨[.ag [.sl (.pr (.int .i64) (.pr (.int .i64) (.pr .str (.pr .bool (.pr (.sl .str) (.sl (.int .i64)))))))], .ag [.any, .any]], [], []⟩
def cuts_doc_Of : List (Nat × CutSpec) := []
def plans_doc_Of : List (Nat × Plan) := []
noncomputable def cx_doc_Of (k : Nat) : Ctx := ⟨tyT, cuts_doc_Of, C_doc_Of k, [2, 3], [], plans_doc_Of, @SH⟩
noncomputable def code_doc_Of : Code := Tryd.f8.body.getD .skip
noncomputable def runD_doc_Of (k : Nat) {R : Type} : PV → List PV → List (Nm × HObj) → (Out → Option R) → Option R
  | .nilif, [.ptr 1 0, .ptr 2 0], [(1, .var 28 [.v (.sl (.pr (.int .i64) (.pr (.int .i64) (.pr .str (.pr .bool (.pr (.sl .str) (.sl (.int .i64)))))))) x0]), (2, .var 30 [.v (.int .i64) x1, .v (.int .i64) x2])], K => F_doc_Of_1_n k x0 x1 x2 (fun y0 y1 y2 => K (.ret [] [(1, .var 28 [.v (.sl (.pr (.int .i64) (.pr (.int .i64) (.pr .str (.pr .bool (.pr (.sl .str) (.sl (.int .i64)))))))) y0]), (2, .var 30 [.v (.int .i64) y1, .v (.int .i64) y2])]))
  | .ifc 30 (.agg [.v (.int .i64) x3, .v (.int .i64) x4]), [.ptr 1 0, .ptr 2 0], [(1, .var 28 [.v (.sl (.pr (.int .i64) (.pr (.int .i64) (.pr .str (.pr .bool (.pr (.sl .str) (.sl (.int .i64)))))))) x0]), (2, .var 30 [.v (.int .i64) x1, .v (.int .i64) x2])], K => F_doc_Of_1_p k x0 x1 x2 x3 x4 (fun y0 y1 y2 => K (.ret [] [(1, .var 28 [.v (.sl (.pr (.int .i64) (.pr (.int .i64) (.pr .str (.pr .bool (.pr (.sl .str) (.sl (.int .i64)))))))) y0]), (2, .var 30 [.v (.int .i64) y1, .v (.int .i64) y2])]))
  | _, _, _, _ => none
noncomputable def A_doc_Of (k : Nat) {R : Type}  (x0 : (List (Int × (Int × (Int × ((List UInt8) × Bool)))))) (K : ((List (Int × (Int × ((List UInt8) × (Bool × ((List (List UInt8)) × (List Int))))))) → Int → Int → Option R)) : Option R := (@cond (@Option R) (@BEq.beq Int (@instBEqOfDecidableEq Int @Int.instDecidableEq) (@Nat.cast Int instNatCastInt (@List.length (@Kd.T (@Kd.pr kI (@Kd.pr kI (@Kd.pr kI (@Kd.pr Kd.str Kd.bool))))) x0)) (0 : Int)) (@F_doc_gives k R (10 : Int) (1 : Int) (fun (y4 : Int) => (fun (y5 : Int) => (@F_doc_Of_1_p k R [] (0 : (@Kd.T kI)) (0 : (@Kd.T kI)) y4 y5 (fun (y6 : (@List (@Prod Int (@Prod Int (@Prod (@List UInt8) (@Prod Bool (@Prod (@List (@List UInt8)) (@List Int)))))))) => (fun (y7 : Int) => (fun (y8 : Int) => (K y6 y7 y8)))))))) (@F_doc_parser_block k R x0 [] (1 : Int) (fun (y4 : (@List (@Prod Int (@Prod Int (@Prod Int (@Prod (@List UInt8) Bool)))))) => (fun (y5 : (@List (@Prod Int (@Prod Int (@Prod (@List UInt8) (@Prod Bool (@Prod (@List (@List UInt8)) (@List Int)))))))) => (fun (y6 : Int) => (@cond (@Option R) (@Decidable.decide (@GT.gt Int Int.instLTInt (@Nat.cast Int instNatCastInt (@List.length (@Kd.T (@Kd.pr kI (@Kd.pr kI (@Kd.pr kI (@Kd.pr Kd.str Kd.bool))))) y4)) (0 : Int)) (@Int.decLt (0 : Int) (@Nat.cast Int instNatCastInt (@List.length (@Kd.T (@Kd.pr kI (@Kd.pr kI (@Kd.pr kI (@Kd.pr Kd.str Kd.bool))))) y4)))) (@cond (@Option R) (@inb (0 : Int) (@Nat.cast Int instNatCastInt (@List.length (@Kd.T (@Kd.pr kI (@Kd.pr kI (@Kd.pr kI (@Kd.pr Kd.str Kd.bool))))) y4))) (@F_doc_gives k R (6 : Int) (@List.getD (@Kd.T (@Kd.pr kI (@Kd.pr kI (@Kd.pr kI (@Kd.pr Kd.str Kd.bool))))) y4 (@Int.toNat (0 : Int)) (@Kd.zero (@Kd.pr kI (@Kd.pr kI (@Kd.pr kI (@Kd.pr Kd.str Kd.bool)))))).2.1 (fun (y7 : Int) => (fun (y8 : Int) => (@F_doc_Of_1_p k R [] (0 : (@Kd.T kI)) (0 : (@Kd.T kI)) y7 y8 (fun (y9 : (@List (@Prod Int (@Prod Int (@Prod (@List UInt8) (@Prod Bool (@Prod (@List (@List UInt8)) (@List Int)))))))) => (fun (y10 : Int) => (fun (y11 : Int) => (K y9 y10 y11)))))))) (@Option.none R)) (@F_doc_Of_1_n k R y5 (0 : (@Kd.T kI)) (0 : (@Kd.T kI)) (fun (y7 : (@List (@Prod Int (@Prod Int (@Prod (@List UInt8) (@Prod Bool (@Prod (@List (@List UInt8)) (@List Int)))))))) => (fun (y8 : Int) => (fun (y9 : Int) => (K y7 y8 y9))))))))) (fun (y4 : (@List (@Prod Int (@Prod Int (@Prod Int (@Prod (@List UInt8) Bool)))))) => (fun (y5 : (@List (@Prod Int (@Prod Int (@Prod (@List UInt8) (@Prod Bool (@Prod (@List (@List UInt8)) (@List Int)))))))) => (fun (y6 : Int) => (fun (y7 : Int) => (@F_doc_Of_1_p k R [] (0 : (@Kd.T kI)) (0 : (@Kd.T kI)) y6 y7 (fun (y8 : (@List (@Prod Int (@Prod Int (@Prod (@List UInt8) (@Prod Bool (@Prod (@List (@List UInt8)) (@List Int)))))))) => (fun (y9 : Int) => (fun (y10 : Int) => (K y8 y9 y10)))))))))))
theorem A_doc_Of_eq (k : Nat) {R : Type} (I : Nat → St → Option R) (x0 : (List (Int × (Int × (Int × ((List UInt8) × Bool)))))) (K : ((List (Int × (Int × ((List UInt8) × (Bool × ((List (List UInt8)) × (List Int))))))) → Int → Int → Option R)) : fnDK (cx_doc_Of k) k [300, 400] (at_ [0] code_doc_Of) (opsAt (at_ [1, 0] code_doc_Of)) (at_ [1, 1] code_doc_Of) 34 [.cell 2 28, .cell 3 30] sp_doc_Of (runD_doc_Of k) sig_doc_Of_1 [(300, 0), (400, 0)] [.v (.sl (.pr (.int .i64) (.pr (.int .i64) (.pr (.int .i64) (.pr .str .bool))))) x0] [] (wrap_doc_Of K) = A_doc_Of k  x0 K := by kernel_rfl
noncomputable def F_doc_Of (k : Nat) {R : Type} (x0 : (List (Int × (Int × (Int × ((List UInt8) × Bool)))))) (K : ((List (Int × (Int × ((List UInt8) × (Bool × ((List (List UInt8)) × (List Int))))))) → Int → Int → Option R)) : Option R := A_doc_Of k  x0 K
theorem F_doc_Of_eq (k : Nat) {R : Type} (x0 : (List (Int × (Int × (Int × ((List UInt8) × Bool)))))) (K : ((List (Int × (Int × ((List UInt8) × (Bool × ((List (List UInt8)) × (List Int))))))) → Int → Int → Option R)) : fnDK (cx_doc_Of k) k [300, 400] (at_ [0] code_doc_Of) (opsAt (at_ [1, 0] code_doc_Of)) (at_ [1, 1] code_doc_Of) 34 [.cell 2 28, .cell 3 30] sp_doc_Of (runD_doc_Of k) sig_doc_Of_1 [(300, 0), (400, 0)] [.v (.sl (.pr (.int .i64) (.pr (.int .i64) (.pr (.int .i64) (.pr .str .bool))))) x0] [] (wrap_doc_Of K) = F_doc_Of k x0 K := by
  exact A_doc_Of_eq k (fun _ _ => none) x0 K
noncomputable def run_doc_Of (k : Nat) {R : Type} : List PV → List (Nm × HObj) → (Out → Option R) → Option R
  | [.v (.sl (.pr (.int .i64) (.pr (.int .i64) (.pr (.int .i64) (.pr .str .bool))))) x0], [], K => F_doc_Of k x0 (fun y0 y1 y2 => K (.ret [.agg [.v (.sl (.pr (.int .i64) (.pr (.int .i64) (.pr .str (.pr .bool (.pr (.sl .str) (.sl (.int .i64)))))))) y0], .agg [.v (.int .i64) y1, .v (.int .i64) y2]] []))
  | _, _, _ => none
theorem C_doc_Of_ok (k : Nat) : (C_doc_Of k).Ok Tryd.prog := by
  intro f ps hp R K r h
  unfold C_doc_Of at h
  simp only at h
  cases hb15 : Nat.beq f 15 with
  | true => rw [hb15, cond_true] at h; rw [Nat.eq_of_beq_eq_true hb15]; exact D_doc_gives k h
  | false =>
  rw [hb15, cond_false] at h
  cases hb16 : Nat.beq f 16 with
  | true => rw [hb16, cond_true] at h; rw [Nat.eq_of_beq_eq_true hb16]; exact D_doc_parser_block k h
  | false =>
  rw [hb16, cond_false] at h
  cases h
theorem runD_doc_Of_ok (k : Nat) {R : Type} (rec : PV) (ps : List PV) (hp : List (Nm × HObj)) (K : Out → Option R) (r : R) (h : runD_doc_Of k rec ps hp K = some r) : DoesToD Tryd.prog 14 rec ps hp fun out => K out = some r := by
  unfold runD_doc_Of at h
  split at h
  · exact DD_doc_Of_1_n k h
  · exact DD_doc_Of_1_p k h
  · cases h
theorem D_doc_Of (k : Nat) {ps : List PV} {hp : List (Nm × HObj)} {R : Type} {K : Out → Option R} {r : R} (h : run_doc_Of k ps hp K = some r) : DoesTo Tryd.prog 8 ps hp fun out => K out = some r := by
  unfold run_doc_Of at h
  split at h
  · rw [← F_doc_Of_eq] at h
    have := fnDK_ok (P := Tryd.prog) (cx := cx_doc_Of k) (f := 8) ⟨tyT_ok, C_doc_Of_ok k, fun _ _ => rfl⟩ (by kernel_rfl) (fn := Tryd.f8) (id := 1) (pre := at_ [0] code_doc_Of) (rest := at_ [1, 1] code_doc_Of) (ops := opsAt (at_ [1, 0] code_doc_Of)) (by kernel_rfl) (by kernel_rfl) (by kernel_rfl) (rs := [.cell 2 28, .cell 3 30]) (by kernel_rfl) (by kernel_rfl) (by kernel_rfl) (g := 14) (s := 5) (xs := [.tmp 2, .tmp 3]) (by kernel_rfl) (Invokes.of (fn := Tryd.f14) (by kernel_rfl) (c := Tryd.f14.body.getD .skip) (by kernel_rfl) (by kernel_rfl)) (runD_doc_Of_ok k) h
    exact this.mono fun out ho => by
      unfold wrap_doc_Of at ho
      split at ho <;> first | exact ho | cases ho
  · cases h
end Go.Proofs.YtpfbdepoammjmaaDoor.Pvm

set_option maxRecDepth 1000000
set_option maxHeartbeats 0
namespace Go.Proofs.YtpfbdepoammjmaaDoor.Pvm
open Go Go.Proofs
def sig_lex_Row_1 : List LS := [.obj 1 [.sl (.pr (.int .i64) (.pr (.int .i64) (.pr (.int .i64) (.pr .str .bool))))], .obj 2 [.any, .any]]
noncomputable def C_lex_Row_1_n (k : Nat) : CTab := ⟨fun f => [], fun f {_} ps hp K => none⟩
def wrap_lex_Row_1_n {R : Type} (K : ((List (Int × (Int × (Int × ((List UInt8) × Bool))))) → Int → Int → Option R)) : Out → Option R
  | .ret [] [(1, .var 22 [.v (.sl (.pr (.int .i64) (.pr (.int .i64) (.pr (.int .i64) (.pr .str .bool))))) y0]), (2, .var 30 [.v (.int .i64) y1, .v (.int .i64) y2])] => K y0 y1 y2
  | _ => none
def sp_lex_Row_1_n : RetSpec := ⟨[], [(1, .obj 1 [.sl (.pr (.int .i64) (.pr (.int .i64) (.pr (.int .i64) (.pr .str .bool))))]), (2, .obj 2 [.any, .any])], []⟩
def cuts_lex_Row_1_n : List (Nat × CutSpec) := []
def plans_lex_Row_1_n : List (Nat × Plan) := [(7, (.of [(0, 2), (1, 0), (2, 0)] .done))]
noncomputable def cx_lex_Row_1_n (k : Nat) : Ctx := ⟨tyT, cuts_lex_Row_1_n, C_lex_Row_1_n k, [], [1, 2], plans_lex_Row_1_n, @SH⟩
noncomputable def code_lex_Row_1_n : Code := Tryd.f54.body.getD .skip
noncomputable def A_lex_Row_1_n (k : Nat) {R : Type}  (x0 : (List (Int × (Int × (Int × ((List UInt8) × Bool)))))) (x1 : Int) (x2 : Int) (K : ((List (Int × (Int × (Int × ((List UInt8) × Bool))))) → Int → Int → Option R)) : Option R := (K x0 x1 x2)
theorem A_lex_Row_1_n_eq (k : Nat) {R : Type} (I : Nat → St → Option R) (x0 : (List (Int × (Int × (Int × ((List UInt8) × Bool)))))) (x1 : Int) (x2 : Int) (K : ((List (Int × (Int × (Int × ((List UInt8) × Bool))))) → Int → Int → Option R)) : fnCK (cx_lex_Row_1_n k) k (at_ [1] code_lex_Row_1_n) 12 [] sp_lex_Row_1_n [.ptr 1 0, .ptr 2 0] 5 (.nilif) [(1, .var 22 [.v (.sl (.pr (.int .i64) (.pr (.int .i64) (.pr (.int .i64) (.pr .str .bool))))) x0]), (2, .var 30 [.v (.int .i64) x1, .v (.int .i64) x2])] (wrap_lex_Row_1_n K) = A_lex_Row_1_n k  x0 x1 x2 K := by kernel_rfl
noncomputable def F_lex_Row_1_n (k : Nat) {R : Type} (x0 : (List (Int × (Int × (Int × ((List UInt8) × Bool)))))) (x1 : Int) (x2 : Int) (K : ((List (Int × (Int × (Int × ((List UInt8) × Bool))))) → Int → Int → Option R)) : Option R := A_lex_Row_1_n k  x0 x1 x2 K
theorem F_lex_Row_1_n_eq (k : Nat) {R : Type} (x0 : (List (Int × (Int × (Int × ((List UInt8) × Bool)))))) (x1 : Int) (x2 : Int) (K : ((List (Int × (Int × (Int × ((List UInt8) × Bool))))) → Int → Int → Option R)) : fnCK (cx_lex_Row_1_n k) k (at_ [1] code_lex_Row_1_n) 12 [] sp_lex_Row_1_n [.ptr 1 0, .ptr 2 0] 5 (.nilif) [(1, .var 22 [.v (.sl (.pr (.int .i64) (.pr (.int .i64) (.pr (.int .i64) (.pr .str .bool))))) x0]), (2, .var 30 [.v (.int .i64) x1, .v (.int .i64) x2])] (wrap_lex_Row_1_n K) = F_lex_Row_1_n k x0 x1 x2 K := by
  exact A_lex_Row_1_n_eq k (fun _ _ => none) x0 x1 x2 K
noncomputable def run_lex_Row_1_n (k : Nat) {R : Type} : PV → List PV → List (Nm × HObj) → (Out → Option R) → Option R
  | .nilif, [.ptr 1 0, .ptr 2 0], [(1, .var 22 [.v (.sl (.pr (.int .i64) (.pr (.int .i64) (.pr (.int .i64) (.pr .str .bool))))) x0]), (2, .var 30 [.v (.int .i64) x1, .v (.int .i64) x2])], K => F_lex_Row_1_n k x0 x1 x2 (fun y0 y1 y2 => K (.ret [] [(1, .var 22 [.v (.sl (.pr (.int .i64) (.pr (.int .i64) (.pr (.int .i64) (.pr .str .bool))))) y0]), (2, .var 30 [.v (.int .i64) y1, .v (.int .i64) y2])]))
  | _, _, _, _ => none
theorem C_lex_Row_1_n_ok (k : Nat) : (C_lex_Row_1_n k).Ok Tryd.prog := by
  intro f ps hp R K r h
  unfold C_lex_Row_1_n at h
  simp only at h
  cases h
theorem DD_lex_Row_1_n (k : Nat) {rec : PV} {ps : List PV} {hp : List (Nm × HObj)} {R : Type} {K : Out → Option R} {r : R} (h : run_lex_Row_1_n k rec ps hp K = some r) : DoesToD Tryd.prog 54 rec ps hp fun out => K out = some r := by
  unfold run_lex_Row_1_n at h
  split at h
  · rw [← F_lex_Row_1_n_eq] at h
    have := fnCK_ok (P := Tryd.prog) (cx := cx_lex_Row_1_n k) (f := 54) ⟨tyT_ok, C_lex_Row_1_n_ok k, fun _ _ => rfl⟩ (by kernel_rfl) (fn := Tryd.f54) (id := 0) (ops := opsAt (at_ [0] code_lex_Row_1_n)) (c := at_ [1] code_lex_Row_1_n) (by kernel_rfl) (by kernel_rfl) (by kernel_rfl) (rs := []) (by kernel_rfl) (by kernel_rfl) h
    exact this.mono fun out ho => by
      unfold wrap_lex_Row_1_n at ho
      split at ho <;> first | exact ho | cases ho
  · cases h
end Go.Proofs.YtpfbdepoammjmaaDoor.Pvm

set_option maxRecDepth 1000000
set_option maxHeartbeats 0
namespace Go.Proofs.YtpfbdepoammjmaaDoor.Pvm
open Go Go.Proofs
noncomputable def C_lex_Row_1_p (k : Nat) : CTab := ⟨fun f => [], fun f {_} ps hp K => none⟩
def wrap_lex_Row_1_p {R : Type} (K : ((List (Int × (Int × (Int × ((List UInt8) × Bool))))) → Int → Int → Option R)) : Out → Option R
  | .ret [] [(1, .var 22 [.v (.sl (.pr (.int .i64) (.pr (.int .i64) (.pr (.int .i64) (.pr .str .bool))))) y0]), (2, .var 30 [.v (.int .i64) y1, .v (.int .i64) y2])] => K y0 y1 y2
  | _ => none
def sp_lex_Row_1_p : RetSpec := ⟨[], [(1, .obj 1 [.sl (.pr (.int .i64) (.pr (.int .i64) (.pr (.int .i64) (.pr .str .bool))))]), (2, .obj 2 [.any, .any])], []⟩
def cuts_lex_Row_1_p : List (Nat × CutSpec) := []
def plans_lex_Row_1_p : List (Nat × Plan) := [(7, (.of [(0, 2), (1, 0), (2, 0)] .done))]
noncomputable def cx_lex_Row_1_p (k : Nat) : Ctx := ⟨tyT, cuts_lex_Row_1_p, C_lex_Row_1_p k, [], [1, 2], plans_lex_Row_1_p, @SH⟩
noncomputable def code_lex_Row_1_p : Code := Tryd.f54.body.getD .skip
noncomputable def A_lex_Row_1_p (k : Nat) {R : Type}  (x0 : (List (Int × (Int × (Int × ((List UInt8) × Bool)))))) (x1 : Int) (x2 : Int) (x3 : Int) (x4 : Int) (K : ((List (Int × (Int × (Int × ((List UInt8) × Bool))))) → Int → Int → Option R)) : Option R := (K [] x3 x4)
theorem A_lex_Row_1_p_eq (k : Nat) {R : Type} (I : Nat → St → Option R) (x0 : (List (Int × (Int × (Int × ((List UInt8) × Bool)))))) (x1 : Int) (x2 : Int) (x3 : Int) (x4 : Int) (K : ((List (Int × (Int × (Int × ((List UInt8) × Bool))))) → Int → Int → Option R)) : fnCK (cx_lex_Row_1_p k) k (at_ [1] code_lex_Row_1_p) 12 [] sp_lex_Row_1_p [.ptr 1 0, .ptr 2 0] 5 (.ifc 30 (.agg [.v (.int .i64) x3, .v (.int .i64) x4])) [(1, .var 22 [.v (.sl (.pr (.int .i64) (.pr (.int .i64) (.pr (.int .i64) (.pr .str .bool))))) x0]), (2, .var 30 [.v (.int .i64) x1, .v (.int .i64) x2])] (wrap_lex_Row_1_p K) = A_lex_Row_1_p k  x0 x1 x2 x3 x4 K := by kernel_rfl
noncomputable def F_lex_Row_1_p (k : Nat) {R : Type} (x0 : (List (Int × (Int × (Int × ((List UInt8) × Bool)))))) (x1 : Int) (x2 : Int) (x3 : Int) (x4 : Int) (K : ((List (Int × (Int × (Int × ((List UInt8) × Bool))))) → Int → Int → Option R)) : Option R := A_lex_Row_1_p k  x0 x1 x2 x3 x4 K
theorem F_lex_Row_1_p_eq (k : Nat) {R : Type} (x0 : (List (Int × (Int × (Int × ((List UInt8) × Bool)))))) (x1 : Int) (x2 : Int) (x3 : Int) (x4 : Int) (K : ((List (Int × (Int × (Int × ((List UInt8) × Bool))))) → Int → Int → Option R)) : fnCK (cx_lex_Row_1_p k) k (at_ [1] code_lex_Row_1_p) 12 [] sp_lex_Row_1_p [.ptr 1 0, .ptr 2 0] 5 (.ifc 30 (.agg [.v (.int .i64) x3, .v (.int .i64) x4])) [(1, .var 22 [.v (.sl (.pr (.int .i64) (.pr (.int .i64) (.pr (.int .i64) (.pr .str .bool))))) x0]), (2, .var 30 [.v (.int .i64) x1, .v (.int .i64) x2])] (wrap_lex_Row_1_p K) = F_lex_Row_1_p k x0 x1 x2 x3 x4 K := by
  exact A_lex_Row_1_p_eq k (fun _ _ => none) x0 x1 x2 x3 x4 K
noncomputable def run_lex_Row_1_p (k : Nat) {R : Type} : PV → List PV → List (Nm × HObj) → (Out → Option R) → Option R
  | .ifc 30 (.agg [.v (.int .i64) x3, .v (.int .i64) x4]), [.ptr 1 0, .ptr 2 0], [(1, .var 22 [.v (.sl (.pr (.int .i64) (.pr (.int .i64) (.pr (.int .i64) (.pr .str .bool))))) x0]), (2, .var 30 [.v (.int .i64) x1, .v (.int .i64) x2])], K => F_lex_Row_1_p k x0 x1 x2 x3 x4 (fun y0 y1 y2 => K (.ret [] [(1, .var 22 [.v (.sl (.pr (.int .i64) (.pr (.int .i64) (.pr (.int .i64) (.pr .str .bool))))) y0]), (2, .var 30 [.v (.int .i64) y1, .v (.int .i64) y2])]))
  | _, _, _, _ => none
theorem C_lex_Row_1_p_ok (k : Nat) : (C_lex_Row_1_p k).Ok Tryd.prog := by
  intro f ps hp R K r h
  unfold C_lex_Row_1_p at h
  simp only at h
  cases h
theorem DD_lex_Row_1_p (k : Nat) {rec : PV} {ps : List PV} {hp : List (Nm × HObj)} {R : Type} {K : Out → Option R} {r : R} (h : run_lex_Row_1_p k rec ps hp K = some r) : DoesToD Tryd.prog 54 rec ps hp fun out => K out = some r := by
  unfold run_lex_Row_1_p at h
  split at h
  · rw [← F_lex_Row_1_p_eq] at h
    have := fnCK_ok (P := Tryd.prog) (cx := cx_lex_Row_1_p k) (f := 54) ⟨tyT_ok, C_lex_Row_1_p_ok k, fun _ _ => rfl⟩ (by kernel_rfl) (fn := Tryd.f54) (id := 0) (ops := opsAt (at_ [0] code_lex_Row_1_p)) (c := at_ [1] code_lex_Row_1_p) (by kernel_rfl) (by kernel_rfl) (by kernel_rfl) (rs := []) (by kernel_rfl) (by kernel_rfl) h
    exact this.mono fun out ho => by
      unfold wrap_lex_Row_1_p at ho
      split at ho <;> first | exact ho | cases ho
  · cases h
end Go.Proofs.YtpfbdepoammjmaaDoor.Pvm

set_option maxRecDepth 1000000
set_option maxHeartbeats 0
namespace Go.Proofs.YtpfbdepoammjmaaDoor.Pvm
open Go Go.Proofs
def sig_slite_HasPrefix : List LS := [.any, .any]
noncomputable def C_slite_HasPrefix (k : Nat) : CTab := ⟨fun f => [], fun f {_} ps hp K => none⟩
def wrap_slite_HasPrefix {R : Type} (K : (Bool → Option R)) : Out → Option R
  | .ret [.v .bool y0] [] => K y0
  | _ => none
def sp_slite_HasPrefix : RetSpec := ⟨[.any], [], []⟩
def cuts_slite_HasPrefix : List (Nat × CutSpec) := []
def plans_slite_HasPrefix : List (Nat × Plan) := []
noncomputable def cx_slite_HasPrefix (k : Nat) : Ctx := ⟨tyT, cuts_slite_HasPrefix, C_slite_HasPrefix k, [], [], plans_slite_HasPrefix, @SH⟩
noncomputable def code_slite_HasPrefix : Code := Tryd.f40.body.getD .skip
noncomputable def A_slite_HasPrefix (k : Nat) {R : Type}  (x0 : (List UInt8)) (x1 : (List UInt8)) (K : (Bool → Option R)) : Option R := (@cond (@Option R) (@Bool.or (@Bool.not (@BEq.beq (@Kd.T Kd.bool) (@instBEqOfDecidableEq (@Kd.T Kd.bool) @instDecidableEqBool) (@Decidable.decide (@GE.ge Int Int.instLEInt (@Nat.cast Int instNatCastInt (@List.length UInt8 x0)) (@Nat.cast Int instNatCastInt (@List.length UInt8 x1))) (@Int.decLe (@Nat.cast Int instNatCastInt (@List.length UInt8 x1)) (@Nat.cast Int instNatCastInt (@List.length UInt8 x0)))) Bool.true)) (@bnd (0 : Int) (@Nat.cast Int instNatCastInt (@List.length UInt8 x1)) (@Nat.cast Int instNatCastInt (@List.length UInt8 x0)))) (K (@cond (@Kd.T Kd.bool) (@Decidable.decide (@GE.ge Int Int.instLEInt (@Nat.cast Int instNatCastInt (@List.length UInt8 x0)) (@Nat.cast Int instNatCastInt (@List.length UInt8 x1))) (@Int.decLe (@Nat.cast Int instNatCastInt (@List.length UInt8 x1)) (@Nat.cast Int instNatCastInt (@List.length UInt8 x0)))) (@BEq.beq (@List UInt8) (@List.instBEq UInt8 (@instBEqOfDecidableEq UInt8 @instDecidableEqUInt8)) (@cut UInt8 x0 (0 : Int) (@Nat.cast Int instNatCastInt (@List.length UInt8 x1))) x1) Bool.false)) (@Option.none R))
theorem A_slite_HasPrefix_eq (k : Nat) {R : Type} (I : Nat → St → Option R) (x0 : (List UInt8)) (x1 : (List UInt8)) (K : (Bool → Option R)) : fnK (cx_slite_HasPrefix k) k code_slite_HasPrefix 18 [.tmp 4] sp_slite_HasPrefix [.v .str x0, .v .str x1] [] (wrap_slite_HasPrefix K) = A_slite_HasPrefix k  x0 x1 K := by kernel_rfl
noncomputable def F_slite_HasPrefix (k : Nat) {R : Type} (x0 : (List UInt8)) (x1 : (List UInt8)) (K : (Bool → Option R)) : Option R := A_slite_HasPrefix k  x0 x1 K
theorem F_slite_HasPrefix_eq (k : Nat) {R : Type} (x0 : (List UInt8)) (x1 : (List UInt8)) (K : (Bool → Option R)) : fnK (cx_slite_HasPrefix k) k code_slite_HasPrefix 18 [.tmp 4] sp_slite_HasPrefix [.v .str x0, .v .str x1] [] (wrap_slite_HasPrefix K) = F_slite_HasPrefix k x0 x1 K := by
  exact A_slite_HasPrefix_eq k (fun _ _ => none) x0 x1 K
noncomputable def run_slite_HasPrefix (k : Nat) {R : Type} : List PV → List (Nm × HObj) → (Out → Option R) → Option R
  | [.v .str x0, .v .str x1], [], K => F_slite_HasPrefix k x0 x1 (fun y0 => K (.ret [.v .bool y0] []))
  | _, _, _ => none
theorem C_slite_HasPrefix_ok (k : Nat) : (C_slite_HasPrefix k).Ok Tryd.prog := by
  intro f ps hp R K r h
  unfold C_slite_HasPrefix at h
  simp only at h
  cases h
theorem D_slite_HasPrefix (k : Nat) {ps : List PV} {hp : List (Nm × HObj)} {R : Type} {K : Out → Option R} {r : R} (h : run_slite_HasPrefix k ps hp K = some r) : DoesTo Tryd.prog 40 ps hp fun out => K out = some r := by
  unfold run_slite_HasPrefix at h
  split at h
  · rw [← F_slite_HasPrefix_eq] at h
    have := fn_ok (P := Tryd.prog) (cx := cx_slite_HasPrefix k) (f := 40) ⟨tyT_ok, C_slite_HasPrefix_ok k, fun _ _ => rfl⟩ (by kernel_rfl) (fn := Tryd.f40) (c := code_slite_HasPrefix) (by kernel_rfl) (by kernel_rfl) (by kernel_rfl) (rs := [.tmp 4]) (by kernel_rfl) (by kernel_rfl) h
    exact this.mono fun out ho => by
      unfold wrap_slite_HasPrefix at ho
      split at ho <;> first | exact ho | cases ho
  · cases h
end Go.Proofs.YtpfbdepoammjmaaDoor.Pvm

set_option maxRecDepth 1000000
set_option maxHeartbeats 0
namespace Go.Proofs.YtpfbdepoammjmaaDoor.Pvm
open Go Go.Proofs
def sig_strings_HasPrefix : List LS := [.any, .any]
noncomputable def C_strings_HasPrefix (k : Nat) : CTab := ⟨fun f => bif Nat.beq f 40 then sig_slite_HasPrefix else [], fun f {_} ps hp K => bif Nat.beq f 40 then run_slite_HasPrefix k ps hp K else none⟩
def wrap_strings_HasPrefix {R : Type} (K : (Bool → Option R)) : Out → Option R
  | .ret [.v .bool y0] [] => K y0
  | _ => none
def sp_strings_HasPrefix : RetSpec := ⟨[.any], [], []⟩
def cuts_strings_HasPrefix : List (Nat × CutSpec) := []
def plans_strings_HasPrefix : List (Nat × Plan) := []
noncomputable def cx_strings_HasPrefix (k : Nat) : Ctx := ⟨tyT, cuts_strings_HasPrefix, C_strings_HasPrefix k, [], [], plans_strings_HasPrefix, @SH⟩
noncomputable def code_strings_HasPrefix : Code := Tryd.f23.body.getD .skip
noncomputable def A_strings_HasPrefix (k : Nat) {R : Type}  (x0 : (List UInt8)) (x1 : (List UInt8)) (K : (Bool → Option R)) : Option R := (@F_slite_HasPrefix k R x0 x1 (fun (y5 : Bool) => (K y5)))
theorem A_strings_HasPrefix_eq (k : Nat) {R : Type} (I : Nat → St → Option R) (x0 : (List UInt8)) (x1 : (List UInt8)) (K : (Bool → Option R)) : fnK (cx_strings_HasPrefix k) k code_strings_HasPrefix 8 [.tmp 4] sp_strings_HasPrefix [.v .str x0, .v .str x1] [] (wrap_strings_HasPrefix K) = A_strings_HasPrefix k  x0 x1 K := by kernel_rfl
noncomputable def F_strings_HasPrefix (k : Nat) {R : Type} (x0 : (List UInt8)) (x1 : (List UInt8)) (K : (Bool → Option R)) : Option R := A_strings_HasPrefix k  x0 x1 K
theorem F_strings_HasPrefix_eq (k : Nat) {R : Type} (x0 : (List UInt8)) (x1 : (List UInt8)) (K : (Bool → Option R)) : fnK (cx_strings_HasPrefix k) k code_strings_HasPrefix 8 [.tmp 4] sp_strings_HasPrefix [.v .str x0, .v .str x1] [] (wrap_strings_HasPrefix K) = F_strings_HasPrefix k x0 x1 K := by
  exact A_strings_HasPrefix_eq k (fun _ _ => none) x0 x1 K
noncomputable def run_strings_HasPrefix (k : Nat) {R : Type} : List PV → List (Nm × HObj) → (Out → Option R) → Option R
  | [.v .str x0, .v .str x1], [], K => F_strings_HasPrefix k x0 x1 (fun y0 => K (.ret [.v .bool y0] []))
  | _, _, _ => none
theorem C_strings_HasPrefix_ok (k : Nat) : (C_strings_HasPrefix k).Ok Tryd.prog := by
  intro f ps hp R K r h
  unfold C_strings_HasPrefix at h
  simp only at h
  cases hb40 : Nat.beq f 40 with
  | true => rw [hb40, cond_true] at h; rw [Nat.eq_of_beq_eq_true hb40]; exact D_slite_HasPrefix k h
  | false =>
  rw [hb40, cond_false] at h
  cases h
theorem D_strings_HasPrefix (k : Nat) {ps : List PV} {hp : List (Nm × HObj)} {R : Type} {K : Out → Option R} {r : R} (h : run_strings_HasPrefix k ps hp K = some r) : DoesTo Tryd.prog 23 ps hp fun out => K out = some r := by
  unfold run_strings_HasPrefix at h
  split at h
  · rw [← F_strings_HasPrefix_eq] at h
    have := fn_ok (P := Tryd.prog) (cx := cx_strings_HasPrefix k) (f := 23) ⟨tyT_ok, C_strings_HasPrefix_ok k, fun _ _ => rfl⟩ (by kernel_rfl) (fn := Tryd.f23) (c := code_strings_HasPrefix) (by kernel_rfl) (by kernel_rfl) (by kernel_rfl) (rs := [.tmp 4]) (by kernel_rfl) (by kernel_rfl) h
    exact this.mono fun out ho => by
      unfold wrap_strings_HasPrefix at ho
      split at ho <;> first | exact ho | cases ho
  · cases h
end Go.Proofs.YtpfbdepoammjmaaDoor.Pvm

set_option maxRecDepth 1000000
set_option maxHeartbeats 0
namespace Go.Proofs.YtpfbdepoammjmaaDoor.Pvm
open Go Go.Proofs
def sig_lex_dash : List LS := [.any]
noncomputable def C_lex_dash (k : Nat) : CTab := ⟨fun f => bif Nat.beq f 23 then sig_strings_HasPrefix else [], fun f {_} ps hp K => bif Nat.beq f 23 then run_strings_HasPrefix k ps hp K else none⟩
def wrap_lex_dash {R : Type} (K : (Bool → Option R)) : Out → Option R
  | .ret [.v .bool y0] [] => K y0
  | _ => none
def sp_lex_dash : RetSpec := ⟨[.any], [], []⟩
def cuts_lex_dash : List (Nat × CutSpec) := []
def plans_lex_dash : List (Nat × Plan) := []
noncomputable def cx_lex_dash (k : Nat) : Ctx := ⟨tyT, cuts_lex_dash, C_lex_dash k, [], [], plans_lex_dash, @SH⟩
noncomputable def code_lex_dash : Code := Tryd.f70.body.getD .skip
noncomputable def A_lex_dash (k : Nat) {R : Type}  (x0 : (List UInt8)) (K : (Bool → Option R)) : Option R := (@cond (@Option R) (@BEq.beq (@Kd.T Kd.bool) (@instBEqOfDecidableEq (@Kd.T Kd.bool) @instDecidableEqBool) (@BEq.beq (@List UInt8) (@List.instBEq UInt8 (@instBEqOfDecidableEq UInt8 @instDecidableEqUInt8)) x0 (@Array.toList UInt8 (@ByteArray.data (@ByteArray.mk (@List.toArray UInt8 ((45 : UInt8) :: [])))))) Bool.false) (@F_strings_HasPrefix k R x0 (@Array.toList UInt8 (@ByteArray.data (@ByteArray.mk (@List.toArray UInt8 ((45 : UInt8) :: ((32 : UInt8) :: [])))))) (fun (y4 : Bool) => (K y4))) (K Bool.true))
theorem A_lex_dash_eq (k : Nat) {R : Type} (I : Nat → St → Option R) (x0 : (List UInt8)) (K : (Bool → Option R)) : fnK (cx_lex_dash k) k code_lex_dash 9 [.tmp 2] sp_lex_dash [.v .str x0] [] (wrap_lex_dash K) = A_lex_dash k  x0 K := by kernel_rfl
noncomputable def F_lex_dash (k : Nat) {R : Type} (x0 : (List UInt8)) (K : (Bool → Option R)) : Option R := A_lex_dash k  x0 K
theorem F_lex_dash_eq (k : Nat) {R : Type} (x0 : (List UInt8)) (K : (Bool → Option R)) : fnK (cx_lex_dash k) k code_lex_dash 9 [.tmp 2] sp_lex_dash [.v .str x0] [] (wrap_lex_dash K) = F_lex_dash k x0 K := by
  exact A_lex_dash_eq k (fun _ _ => none) x0 K
noncomputable def run_lex_dash (k : Nat) {R : Type} : List PV → List (Nm × HObj) → (Out → Option R) → Option R
  | [.v .str x0], [], K => F_lex_dash k x0 (fun y0 => K (.ret [.v .bool y0] []))
  | _, _, _ => none
theorem C_lex_dash_ok (k : Nat) : (C_lex_dash k).Ok Tryd.prog := by
  intro f ps hp R K r h
  unfold C_lex_dash at h
  simp only at h
  cases hb23 : Nat.beq f 23 with
  | true => rw [hb23, cond_true] at h; rw [Nat.eq_of_beq_eq_true hb23]; exact D_strings_HasPrefix k h
  | false =>
  rw [hb23, cond_false] at h
  cases h
theorem D_lex_dash (k : Nat) {ps : List PV} {hp : List (Nm × HObj)} {R : Type} {K : Out → Option R} {r : R} (h : run_lex_dash k ps hp K = some r) : DoesTo Tryd.prog 70 ps hp fun out => K out = some r := by
  unfold run_lex_dash at h
  split at h
  · rw [← F_lex_dash_eq] at h
    have := fn_ok (P := Tryd.prog) (cx := cx_lex_dash k) (f := 70) ⟨tyT_ok, C_lex_dash_ok k, fun _ _ => rfl⟩ (by kernel_rfl) (fn := Tryd.f70) (c := code_lex_dash) (by kernel_rfl) (by kernel_rfl) (by kernel_rfl) (rs := [.tmp 2]) (by kernel_rfl) (by kernel_rfl) h
    exact this.mono fun out ho => by
      unfold wrap_lex_dash at ho
      split at ho <;> first | exact ho | cases ho
  · cases h
end Go.Proofs.YtpfbdepoammjmaaDoor.Pvm

set_option maxRecDepth 1000000
set_option maxHeartbeats 0
namespace Go.Proofs.YtpfbdepoammjmaaDoor.Pvm
open Go Go.Proofs
def sig_lex_sign : List LS := [.any]
noncomputable def C_lex_sign (k : Nat) : CTab := ⟨fun f => [], fun f {_} ps hp K => none⟩
def wrap_lex_sign {R : Type} (K : (Bool → Option R)) : Out → Option R
  | .ret [.v .bool y0] [] => K y0
  | _ => none
def sp_lex_sign : RetSpec := ⟨[.any], [], []⟩
def cuts_lex_sign : List (Nat × CutSpec) := []
def plans_lex_sign : List (Nat × Plan) := []
noncomputable def cx_lex_sign (k : Nat) : Ctx := ⟨tyT, cuts_lex_sign, C_lex_sign k, [], [], plans_lex_sign, @SH⟩
noncomputable def code_lex_sign : Code := Tryd.f98.body.getD .skip
noncomputable def A_lex_sign (k : Nat) {R : Type}  (x0 : Int) (K : (Bool → Option R)) : Option R := (K (@cond (@Kd.T Kd.bool) (@cond (@Kd.T Kd.bool) (@cond (@Kd.T Kd.bool) (@cond (@Kd.T Kd.bool) (@cond (@Kd.T Kd.bool) (@cond (@Kd.T Kd.bool) (@Decidable.decide (@GE.ge Int Int.instLEInt x0 (97 : Int)) (@Int.decLe (97 : Int) x0)) (@Decidable.decide (@LE.le Int Int.instLEInt x0 (122 : Int)) (@Int.decLe x0 (122 : Int))) Bool.false) Bool.true (@cond (@Kd.T Kd.bool) (@Decidable.decide (@GE.ge Int Int.instLEInt x0 (65 : Int)) (@Int.decLe (65 : Int) x0)) (@Decidable.decide (@LE.le Int Int.instLEInt x0 (90 : Int)) (@Int.decLe x0 (90 : Int))) Bool.false)) Bool.true (@cond (@Kd.T Kd.bool) (@Decidable.decide (@GE.ge Int Int.instLEInt x0 (48 : Int)) (@Int.decLe (48 : Int) x0)) (@Decidable.decide (@LE.le Int Int.instLEInt x0 (57 : Int)) (@Int.decLe x0 (57 : Int))) Bool.false)) Bool.true (@BEq.beq Int (@instBEqOfDecidableEq Int @Int.instDecidableEq) x0 (95 : Int))) Bool.true (@BEq.beq Int (@instBEqOfDecidableEq Int @Int.instDecidableEq) x0 (45 : Int))) Bool.true (@BEq.beq Int (@instBEqOfDecidableEq Int @Int.instDecidableEq) x0 (46 : Int))))
theorem A_lex_sign_eq (k : Nat) {R : Type} (I : Nat → St → Option R) (x0 : Int) (K : (Bool → Option R)) : fnK (cx_lex_sign k) k code_lex_sign 37 [.tmp 2] sp_lex_sign [.v (.int .u8) x0] [] (wrap_lex_sign K) = A_lex_sign k  x0 K := by kernel_rfl
noncomputable def F_lex_sign (k : Nat) {R : Type} (x0 : Int) (K : (Bool → Option R)) : Option R := A_lex_sign k  x0 K
theorem F_lex_sign_eq (k : Nat) {R : Type} (x0 : Int) (K : (Bool → Option R)) : fnK (cx_lex_sign k) k code_lex_sign 37 [.tmp 2] sp_lex_sign [.v (.int .u8) x0] [] (wrap_lex_sign K) = F_lex_sign k x0 K := by
  exact A_lex_sign_eq k (fun _ _ => none) x0 K
noncomputable def run_lex_sign (k : Nat) {R : Type} : List PV → List (Nm × HObj) → (Out → Option R) → Option R
  | [.v (.int .u8) x0], [], K => F_lex_sign k x0 (fun y0 => K (.ret [.v .bool y0] []))
  | _, _, _ => none
theorem C_lex_sign_ok (k : Nat) : (C_lex_sign k).Ok Tryd.prog := by
  intro f ps hp R K r h
  unfold C_lex_sign at h
  simp only at h
  cases h
theorem D_lex_sign (k : Nat) {ps : List PV} {hp : List (Nm × HObj)} {R : Type} {K : Out → Option R} {r : R} (h : run_lex_sign k ps hp K = some r) : DoesTo Tryd.prog 98 ps hp fun out => K out = some r := by
  unfold run_lex_sign at h
  split at h
  · rw [← F_lex_sign_eq] at h
    have := fn_ok (P := Tryd.prog) (cx := cx_lex_sign k) (f := 98) ⟨tyT_ok, C_lex_sign_ok k, fun _ _ => rfl⟩ (by kernel_rfl) (fn := Tryd.f98) (c := code_lex_sign) (by kernel_rfl) (by kernel_rfl) (by kernel_rfl) (rs := [.tmp 2]) (by kernel_rfl) (by kernel_rfl) h
    exact this.mono fun out ho => by
      unfold wrap_lex_sign at ho
      split at ho <;> first | exact ho | cases ho
  · cases h
end Go.Proofs.YtpfbdepoammjmaaDoor.Pvm

set_option maxRecDepth 1000000
set_option maxHeartbeats 0
namespace Go.Proofs.YtpfbdepoammjmaaDoor.Pvm
open Go Go.Proofs
def sig_lex_Signs : List LS := [.any]
noncomputable def C_lex_Signs (k : Nat) : CTab := ⟨fun f => bif Nat.beq f 98 then sig_lex_sign else [], fun f {_} ps hp K => bif Nat.beq f 98 then run_lex_sign k ps hp K else none⟩
def wrap_lex_Signs {R : Type} (K : (Bool → Option R)) : Out → Option R
  | .ret [.v .bool y0] [] => K y0
  | _ => none
def sp_lex_Signs : RetSpec := ⟨[.any], [], []⟩
def cuts_lex_Signs : List (Nat × CutSpec) := [(1002, ⟨[(0, .any), (5, .any), (6, .any)], []⟩)]
def plans_lex_Signs : List (Nat × Plan) := []
noncomputable def cx_lex_Signs (k : Nat) : Ctx := ⟨tyT, cuts_lex_Signs, C_lex_Signs k, [], [], plans_lex_Signs, @SH⟩
noncomputable def code_lex_Signs : Code := Tryd.f86.body.getD .skip
def st_lex_Signs_1002 (s0 : (List UInt8)) (s1 : Int) (s2 : Int) : St := ⟨mkT [(0, .v .str s0), (5, .v (.int .i64) s1), (6, .v (.int .i64) s2)], mkH []⟩
noncomputable def B_lex_Signs_1002 (k : Nat) {R : Type} (E1002 : ((List UInt8) → Int → Int → Option R)) (s0 : (List UInt8)) (s1 : Int) (s2 : Int) (K : (Bool → Option R)) : Option R := (@cond (@Option R) (@Decidable.decide (@LT.lt Int Int.instLTInt s2 s1) (@Int.decLt s2 s1)) (@cond (@Option R) (@inb s2 (@Nat.cast Int instNatCastInt (@List.length UInt8 s0))) (@F_lex_sign k R (@Nat.cast Int instNatCastInt (@UInt8.toNat (@List.getD UInt8 s0 (@Int.toNat s2) (0 : UInt8)))) (fun (y7 : Bool) => (@cond (@Option R) (@Bool.not y7) (K Bool.false) (E1002 s0 s1 (@Go.IntKind.wrap Go.IntKind.i64 (@HAdd.hAdd Int Int Int (@instHAdd Int @Int.instAdd) s2 (1 : Int))))))) (@Option.none R)) (K (@Bool.not (@BEq.beq (@List UInt8) (@List.instBEq UInt8 (@instBEqOfDecidableEq UInt8 @instDecidableEqUInt8)) s0 (@Array.toList UInt8 (@ByteArray.data (@ByteArray.mk (@List.toArray UInt8 []))))))))
theorem B_lex_Signs_1002_eq (k : Nat) {R : Type} (I : Nat → St → Option R) (s0 : (List UInt8)) (s1 : Int) (s2 : Int) (K : (Bool → Option R)) : execK (cx_lex_Signs k) k (at_ [1, 0, 1, 0, 0] code_lex_Signs) (st_lex_Signs_1002 s0 s1 s2) (konts (cx_lex_Signs k) k I [1, 0, 1, 0, 0] code_lex_Signs (outK (cx_lex_Signs k) sp_lex_Signs [.tmp 2] (wrap_lex_Signs K))) = B_lex_Signs_1002 k (fun s0 s1 s2 => I 1002 (st_lex_Signs_1002 s0 s1 s2)) s0 s1 s2 K := by kernel_rfl
noncomputable def A_lex_Signs (k : Nat) {R : Type} (E1002 : ((List UInt8) → Int → Int → Option R)) (x0 : (List UInt8)) (K : (Bool → Option R)) : Option R := (E1002 x0 (@Nat.cast Int instNatCastInt (@List.length UInt8 x0)) (0 : Int))
theorem A_lex_Signs_eq (k : Nat) {R : Type} (I : Nat → St → Option R) (x0 : (List UInt8)) (K : (Bool → Option R)) : fnK (cx_lex_Signs k) k code_lex_Signs 17 [.tmp 2] sp_lex_Signs [.v .str x0] [] (wrap_lex_Signs K) = A_lex_Signs k (fun s0 s1 s2 => iter (cx_lex_Signs k).pv (look (cx_lex_Signs k).cuts 1002) (execK (cx_lex_Signs k) k (at_ [1, 0, 1, 0, 0] code_lex_Signs)) k (st_lex_Signs_1002 s0 s1 s2) (konts (cx_lex_Signs k) k I [1, 0, 1, 0] code_lex_Signs (outK (cx_lex_Signs k) sp_lex_Signs [.tmp 2] (wrap_lex_Signs K)))) x0 K := by kernel_rfl
noncomputable def L_lex_Signs_1002 (k : Nat) {R : Type}  : Nat → (List UInt8) → Int → Int → (Bool → Option R) → Option R
  | 0, _, _, _, _ => none
  | n + 1, s0, s1, s2, K => B_lex_Signs_1002 k (fun s0 s1 s2 => L_lex_Signs_1002 k  n s0 s1 s2 K) s0 s1 s2 K
theorem L_lex_Signs_1002_eq (k : Nat) {R : Type} (I : Nat → St → Option R) (K : (Bool → Option R)) : ∀ (n : Nat) (s0 : (List UInt8)) (s1 : Int) (s2 : Int), iter (cx_lex_Signs k).pv (look (cx_lex_Signs k).cuts 1002) (execK (cx_lex_Signs k) k (at_ [1, 0, 1, 0, 0] code_lex_Signs)) n (st_lex_Signs_1002 s0 s1 s2) (konts (cx_lex_Signs k) k I [1, 0, 1, 0] code_lex_Signs (outK (cx_lex_Signs k) sp_lex_Signs [.tmp 2] (wrap_lex_Signs K))) = L_lex_Signs_1002 k  n s0 s1 s2 K := by
  intro n
  induction n with
  | zero => intros; rfl
  | succ n ih =>
    intro s0 s1 s2
    let I' : Nat → St → Option R := fun id s => bif Nat.beq id 1002 then iter (cx_lex_Signs k).pv (look (cx_lex_Signs k).cuts 1002) (execK (cx_lex_Signs k) k (at_ [1, 0, 1, 0, 0] code_lex_Signs)) n s (konts (cx_lex_Signs k) k I [1, 0, 1, 0] code_lex_Signs (outK (cx_lex_Signs k) sp_lex_Signs [.tmp 2] (wrap_lex_Signs K))) else I id s
    have e := B_lex_Signs_1002_eq k I' s0 s1 s2 K
    have h1002 : (fun s0 s1 s2 => I' 1002 (st_lex_Signs_1002 s0 s1 s2)) = (fun s0 s1 s2 => L_lex_Signs_1002 k  n s0 s1 s2 K) := by funext s0 s1 s2; exact ih s0 s1 s2
    refine Eq.trans (?_ : _ = _) (e.trans (Eq.trans ((congrArg ((fun E1002 => B_lex_Signs_1002 k E1002 s0 s1 s2 K)) h1002)) (by rw [L_lex_Signs_1002])))
    rfl
noncomputable def F_lex_Signs (k : Nat) {R : Type} (x0 : (List UInt8)) (K : (Bool → Option R)) : Option R := A_lex_Signs k (fun s0 s1 s2 => L_lex_Signs_1002 k k s0 s1 s2 K) x0 K
theorem F_lex_Signs_eq (k : Nat) {R : Type} (x0 : (List UInt8)) (K : (Bool → Option R)) : fnK (cx_lex_Signs k) k code_lex_Signs 17 [.tmp 2] sp_lex_Signs [.v .str x0] [] (wrap_lex_Signs K) = F_lex_Signs k x0 K := by
  let I : Nat → St → Option R := fun _ _ => none
  have h1002 : (fun s0 s1 s2 => iter (cx_lex_Signs k).pv (look (cx_lex_Signs k).cuts 1002) (execK (cx_lex_Signs k) k (at_ [1, 0, 1, 0, 0] code_lex_Signs)) k (st_lex_Signs_1002 s0 s1 s2) (konts (cx_lex_Signs k) k I [1, 0, 1, 0] code_lex_Signs (outK (cx_lex_Signs k) sp_lex_Signs [.tmp 2] (wrap_lex_Signs K)))) = (fun s0 s1 s2 => L_lex_Signs_1002 k k s0 s1 s2 K) := by funext s0 s1 s2; exact L_lex_Signs_1002_eq k I K k s0 s1 s2
  exact (A_lex_Signs_eq k I x0 K).trans (congrArg ((fun E1002 => A_lex_Signs k E1002 x0 K)) h1002)
noncomputable def run_lex_Signs (k : Nat) {R : Type} : List PV → List (Nm × HObj) → (Out → Option R) → Option R
  | [.v .str x0], [], K => F_lex_Signs k x0 (fun y0 => K (.ret [.v .bool y0] []))
  | _, _, _ => none
theorem C_lex_Signs_ok (k : Nat) : (C_lex_Signs k).Ok Tryd.prog := by
  intro f ps hp R K r h
  unfold C_lex_Signs at h
  simp only at h
  cases hb98 : Nat.beq f 98 with
  | true => rw [hb98, cond_true] at h; rw [Nat.eq_of_beq_eq_true hb98]; exact D_lex_sign k h
  | false =>
  rw [hb98, cond_false] at h
  cases h
theorem D_lex_Signs (k : Nat) {ps : List PV} {hp : List (Nm × HObj)} {R : Type} {K : Out → Option R} {r : R} (h : run_lex_Signs k ps hp K = some r) : DoesTo Tryd.prog 86 ps hp fun out => K out = some r := by
  unfold run_lex_Signs at h
  split at h
  · rw [← F_lex_Signs_eq] at h
    have := fn_ok (P := Tryd.prog) (cx := cx_lex_Signs k) (f := 86) ⟨tyT_ok, C_lex_Signs_ok k, fun _ _ => rfl⟩ (by kernel_rfl) (fn := Tryd.f86) (c := code_lex_Signs) (by kernel_rfl) (by kernel_rfl) (by kernel_rfl) (rs := [.tmp 2]) (by kernel_rfl) (by kernel_rfl) h
    exact this.mono fun out ho => by
      unfold wrap_lex_Signs at ho
      split at ho <;> first | exact ho | cases ho
  · cases h
end Go.Proofs.YtpfbdepoammjmaaDoor.Pvm

set_option maxRecDepth 1000000
namespace Go.Proofs.YtpfbdepoammjmaaDoor.Pvm
open Go Go.Proofs
def idxByte (s : List UInt8) (c : Int) : Int :=
  match (List.range s.length).find? fun i => s.getD i 0 == UInt8.ofNat c.toNat with
  | some i => (i : Int)
  | none => -1
theorem run_idxByte {P : Program} (x0 : List UInt8) (x1 : Int) (w : World) : (Go.Extern.BytealgIndexByte.indexByte #[.string ⟨x0.toArray⟩, .int .u8 x1]).run P w = .ok (.int .i64 (idxByte x0 x1)) w := by
  have e5 : (Go.Extern.BytealgIndexByte.indexByte #[.string ⟨x0.toArray⟩, .int .u8 x1]).run P w = (match (List.range (ByteArray.mk x0.toArray).size).find? fun i => (ByteArray.mk x0.toArray)[i]! == x1.toNat.toUInt8 with
    | some i => (pure (goInt i) : Sem Value)
    | none => pure (goInt (-1))).run P w := rfl
  rw [e5]
  unfold idxByte
  have e6 : (ByteArray.mk x0.toArray).size = x0.length := by simp [ByteArray.size]
  have e7 : ∀ i, (ByteArray.mk x0.toArray)[i]! = x0.getD i 0 := by
    intro i
    by_cases hi : i < x0.length
    · rw [getElem!_pos (ByteArray.mk x0.toArray) i (by rw [e6]; exact hi)]
      have : x0.getD i 0 = x0[i] := by simp [List.getD, hi]
      rw [this]; rfl
    · rw [getElem!_neg (ByteArray.mk x0.toArray) i (by rw [e6]; exact hi)]
      have : x0.getD i 0 = 0 := by simp [List.getD, Nat.le_of_not_lt hi]
      rw [this]; rfl
  simp only [e6, e7]
  have e8 : ∀ i, (x0.getD i 0 == x1.toNat.toUInt8) = (x0.getD i 0 == UInt8.ofNat x1.toNat) := fun i => rfl
  simp only [e8]
  cases (List.range x0.length).find? fun i => x0.getD i 0 == UInt8.ofNat x1.toNat with
  | none => rfl
  | some i => rfl
def sig_balg_IndexByteString : List LS := [.any, .any]
def F_balg_IndexByteString (k : Nat) {R : Type} (x0 : List UInt8) (x1 : Int) (K : Int → Option R) : Option R := K (idxByte x0 x1)
def run_balg_IndexByteString (k : Nat) {R : Type} : List PV → List (Nm × HObj) → (Out → Option R) → Option R
  | [.v .str x0, .v (.int .u8) x1], [], K => F_balg_IndexByteString k x0 x1 (fun y0 => K (.ret [.v (.int .i64) y0] []))
  | _, _, _ => none
theorem fin_pure {G : Gh} {w : World} : Fin [] [] G w G w :=
  ⟨fun n o h => (by cases h), fun n m b h => (by simp [blkOf, mkH, look] at h), fun n t cs h => (by cases h), fun _ _ _ => rfl, rfl, fun n b h => (by simp [blkOf, mkH, look] at h), Nat.le_refl _, rfl, rfl, rfl⟩
theorem find_balg_IndexByteString : Extern.find Tryd.f103 = some Go.Extern.BytealgIndexByte.indexByte := by kernel_rfl
theorem findNext_balg_IndexByteString : (Extern.findNext Tryd.f103).isNone = true := by kernel_rfl
theorem fn_balg_IndexByteString : Tryd.prog.funcs[103]? = some Tryd.f103 := by kernel_rfl
theorem name_balg_IndexByteString : (Tryd.f103.name == "runtime.NumGoroutine") = false := by kernel_rfl
theorem body_balg_IndexByteString : Tryd.f103.body.isNone = true := by kernel_rfl
theorem D_balg_IndexByteString (k : Nat) {ps : List PV} {hp : List (Nm × HObj)} {R : Type} {K : Out → Option R} {r : R} (h : run_balg_IndexByteString k ps hp K = some r) : DoesTo Tryd.prog 103 ps hp fun out => K out = some r := by
  unfold run_balg_IndexByteString at h
  split at h
  · next x0 x1 =>
    intro G w vals hr obj dis
    obtain ⟨v0, l0, rfl, h0, v1, l1, rfl, h1, rfl⟩ := hr
    have e0 : v0 = .string ⟨x0.toArray⟩ := by simpa [RV, RD] using h0
    have e1 : v1 = .int .u8 x1 := by simpa [RV, RD] using h1
    subst e0 e1
    have hrun : (callFunc 103 #[.string ⟨x0.toArray⟩, .int .u8 x1]).run Tryd.prog w = .ok (.value (.int .i64 (idxByte x0 x1))) w := by
      have hn2 : ¬ Tryd.f103.name = "runtime.NumGoroutine" := by simpa using name_balg_IndexByteString
      have hn3 : Extern.findNext Tryd.f103 = none := by
        cases hq : Extern.findNext Tryd.f103 with
        | none => rfl
        | some e => have := findNext_balg_IndexByteString; rw [hq] at this; cases this
      have e1 : (callFunc 103 #[.string ⟨x0.toArray⟩, .int .u8 x1]).run Tryd.prog w = (Go.Extern.BytealgIndexByte.indexByte #[.string ⟨x0.toArray⟩, .int .u8 x1] >>= fun v => pure (Next.value v)).run Tryd.prog w := by
        unfold callFunc
        rw [Sem.run_bind]
        have e2 : (program).run Tryd.prog w = .ok Tryd.prog w := rfl
        rw [e2, Result.andThen_ok, fn_balg_IndexByteString]
        simp only [name_balg_IndexByteString, body_balg_IndexByteString, if_true, Bool.false_eq_true, if_false]
        rw [Sem.run_bind]
        have e3 : (mark (.extern 103)).run Tryd.prog w = .ok () w := rfl
        rw [e3, Result.andThen_ok, hn3, find_balg_IndexByteString]
      rw [e1]
      have e4 := run_idxByte (P := Tryd.prog) x0 x1 w
      rw [Sem.run_bind, e4]; rfl
    show Does _ _ #[_, _] _ _
    unfold Does
    rw [hrun]
    exact ⟨.ret [.v (.int .i64) (idxByte x0 x1)] [], h, G, ⟨_, rfl, rfl⟩, fin_pure⟩
  · cases h
end Go.Proofs.YtpfbdepoammjmaaDoor.Pvm

set_option maxRecDepth 1000000
set_option maxHeartbeats 0
namespace Go.Proofs.YtpfbdepoammjmaaDoor.Pvm
open Go Go.Proofs
def sig_slite_IndexByte : List LS := [.any, .any]
noncomputable def C_slite_IndexByte (k : Nat) : CTab := ⟨fun f => bif Nat.beq f 103 then sig_balg_IndexByteString else [], fun f {_} ps hp K => bif Nat.beq f 103 then run_balg_IndexByteString k ps hp K else none⟩
def wrap_slite_IndexByte {R : Type} (K : (Int → Option R)) : Out → Option R
  | .ret [.v (.int .i64) y0] [] => K y0
  | _ => none
def sp_slite_IndexByte : RetSpec := ⟨[.any], [], []⟩
def cuts_slite_IndexByte : List (Nat × CutSpec) := []
def plans_slite_IndexByte : List (Nat × Plan) := []
noncomputable def cx_slite_IndexByte (k : Nat) : Ctx := ⟨tyT, cuts_slite_IndexByte, C_slite_IndexByte k, [], [], plans_slite_IndexByte, @SH⟩
noncomputable def code_slite_IndexByte : Code := Tryd.f101.body.getD .skip
noncomputable def A_slite_IndexByte (k : Nat) {R : Type}  (x0 : (List UInt8)) (x1 : Int) (K : (Int → Option R)) : Option R := (@F_balg_IndexByteString k R x0 x1 (fun (y5 : Int) => (K y5)))
theorem A_slite_IndexByte_eq (k : Nat) {R : Type} (I : Nat → St → Option R) (x0 : (List UInt8)) (x1 : Int) (K : (Int → Option R)) : fnK (cx_slite_IndexByte k) k code_slite_IndexByte 8 [.tmp 4] sp_slite_IndexByte [.v .str x0, .v (.int .u8) x1] [] (wrap_slite_IndexByte K) = A_slite_IndexByte k  x0 x1 K := by kernel_rfl
noncomputable def F_slite_IndexByte (k : Nat) {R : Type} (x0 : (List UInt8)) (x1 : Int) (K : (Int → Option R)) : Option R := A_slite_IndexByte k  x0 x1 K
theorem F_slite_IndexByte_eq (k : Nat) {R : Type} (x0 : (List UInt8)) (x1 : Int) (K : (Int → Option R)) : fnK (cx_slite_IndexByte k) k code_slite_IndexByte 8 [.tmp 4] sp_slite_IndexByte [.v .str x0, .v (.int .u8) x1] [] (wrap_slite_IndexByte K) = F_slite_IndexByte k x0 x1 K := by
  exact A_slite_IndexByte_eq k (fun _ _ => none) x0 x1 K
noncomputable def run_slite_IndexByte (k : Nat) {R : Type} : List PV → List (Nm × HObj) → (Out → Option R) → Option R
  | [.v .str x0, .v (.int .u8) x1], [], K => F_slite_IndexByte k x0 x1 (fun y0 => K (.ret [.v (.int .i64) y0] []))
  | _, _, _ => none
theorem C_slite_IndexByte_ok (k : Nat) : (C_slite_IndexByte k).Ok Tryd.prog := by
  intro f ps hp R K r h
  unfold C_slite_IndexByte at h
  simp only at h
  cases hb103 : Nat.beq f 103 with
  | true => rw [hb103, cond_true] at h; rw [Nat.eq_of_beq_eq_true hb103]; exact D_balg_IndexByteString k h
  | false =>
  rw [hb103, cond_false] at h
  cases h
theorem D_slite_IndexByte (k : Nat) {ps : List PV} {hp : List (Nm × HObj)} {R : Type} {K : Out → Option R} {r : R} (h : run_slite_IndexByte k ps hp K = some r) : DoesTo Tryd.prog 101 ps hp fun out => K out = some r := by
  unfold run_slite_IndexByte at h
  split at h
  · rw [← F_slite_IndexByte_eq] at h
    have := fn_ok (P := Tryd.prog) (cx := cx_slite_IndexByte k) (f := 101) ⟨tyT_ok, C_slite_IndexByte_ok k, fun _ _ => rfl⟩ (by kernel_rfl) (fn := Tryd.f101) (c := code_slite_IndexByte) (by kernel_rfl) (by kernel_rfl) (by kernel_rfl) (rs := [.tmp 4]) (by kernel_rfl) (by kernel_rfl) h
    exact this.mono fun out ho => by
      unfold wrap_slite_IndexByte at ho
      split at ho <;> first | exact ho | cases ho
  · cases h
end Go.Proofs.YtpfbdepoammjmaaDoor.Pvm

set_option maxRecDepth 1000000
set_option maxHeartbeats 0
namespace Go.Proofs.YtpfbdepoammjmaaDoor.Pvm
open Go Go.Proofs
def sig_slite_Index : List LS := [.any, .any]
noncomputable def C_slite_Index (k : Nat) : CTab := ⟨fun f => bif Nat.beq f 101 then sig_slite_IndexByte else [], fun f {_} ps hp K => bif Nat.beq f 101 then run_slite_IndexByte k ps hp K else none⟩
def wrap_slite_Index {R : Type} (K : (Int → Option R)) : Out → Option R
  | .ret [.v (.int .i64) y0] [] => K y0
  | _ => none
def sp_slite_Index : RetSpec := ⟨[.any], [], []⟩
def cuts_slite_Index : List (Nat × CutSpec) := []
def plans_slite_Index : List (Nat × Plan) := []
noncomputable def cx_slite_Index (k : Nat) : Ctx := ⟨tyT, cuts_slite_Index, C_slite_Index k, [], [], plans_slite_Index, @SH⟩
noncomputable def code_slite_Index : Code := Tryd.f102.body.getD .skip
noncomputable def A_slite_Index (k : Nat) {R : Type}  (x0 : (List UInt8)) (x1 : UInt8) (K : (Int → Option R)) : Option R := (@cond (@Option R) (@cond (@Kd.T Kd.bool) (@BEq.beq Int (@instBEqOfDecidableEq Int @Int.instDecidableEq) (@Nat.cast Int instNatCastInt (@List.length UInt8 (x1 :: []))) (0 : Int)) Bool.true (@BEq.beq (@List UInt8) (@List.instBEq UInt8 (@instBEqOfDecidableEq UInt8 @instDecidableEqUInt8)) (x1 :: []) x0)) (K (0 : Int)) (@F_slite_IndexByte k R x0 (@Nat.cast Int instNatCastInt (@UInt8.toNat (@List.getD UInt8 (x1 :: []) (@Int.toNat (0 : Int)) (0 : UInt8)))) (fun (y5 : Int) => (K y5))))
theorem A_slite_Index_eq (k : Nat) {R : Type} (I : Nat → St → Option R) (x0 : (List UInt8)) (x1 : UInt8) (K : (Int → Option R)) : fnK (cx_slite_Index k) k code_slite_Index 143 [.tmp 4] sp_slite_Index [.v .str x0, .v .str [x1]] [] (wrap_slite_Index K) = A_slite_Index k  x0 x1 K := by kernel_rfl
noncomputable def F_slite_Index (k : Nat) {R : Type} (x0 : (List UInt8)) (x1 : UInt8) (K : (Int → Option R)) : Option R := A_slite_Index k  x0 x1 K
theorem F_slite_Index_eq (k : Nat) {R : Type} (x0 : (List UInt8)) (x1 : UInt8) (K : (Int → Option R)) : fnK (cx_slite_Index k) k code_slite_Index 143 [.tmp 4] sp_slite_Index [.v .str x0, .v .str [x1]] [] (wrap_slite_Index K) = F_slite_Index k x0 x1 K := by
  exact A_slite_Index_eq k (fun _ _ => none) x0 x1 K
noncomputable def run_slite_Index (k : Nat) {R : Type} : List PV → List (Nm × HObj) → (Out → Option R) → Option R
  | [.v .str x0, .v .str [x1]], [], K => F_slite_Index k x0 x1 (fun y0 => K (.ret [.v (.int .i64) y0] []))
  | _, _, _ => none
theorem C_slite_Index_ok (k : Nat) : (C_slite_Index k).Ok Tryd.prog := by
  intro f ps hp R K r h
  unfold C_slite_Index at h
  simp only at h
  cases hb101 : Nat.beq f 101 with
  | true => rw [hb101, cond_true] at h; rw [Nat.eq_of_beq_eq_true hb101]; exact D_slite_IndexByte k h
  | false =>
  rw [hb101, cond_false] at h
  cases h
theorem D_slite_Index (k : Nat) {ps : List PV} {hp : List (Nm × HObj)} {R : Type} {K : Out → Option R} {r : R} (h : run_slite_Index k ps hp K = some r) : DoesTo Tryd.prog 102 ps hp fun out => K out = some r := by
  unfold run_slite_Index at h
  split at h
  · rw [← F_slite_Index_eq] at h
    have := fn_ok (P := Tryd.prog) (cx := cx_slite_Index k) (f := 102) ⟨tyT_ok, C_slite_Index_ok k, fun _ _ => rfl⟩ (by kernel_rfl) (fn := Tryd.f102) (c := code_slite_Index) (by kernel_rfl) (by kernel_rfl) (by kernel_rfl) (rs := [.tmp 4]) (by kernel_rfl) (by kernel_rfl) h
    exact this.mono fun out ho => by
      unfold wrap_slite_Index at ho
      split at ho <;> first | exact ho | cases ho
  · cases h
end Go.Proofs.YtpfbdepoammjmaaDoor.Pvm

set_option maxRecDepth 1000000
set_option maxHeartbeats 0
namespace Go.Proofs.YtpfbdepoammjmaaDoor.Pvm
open Go Go.Proofs
def sig_slite_Cut : List LS := [.any, .any]
noncomputable def C_slite_Cut (k : Nat) : CTab := ⟨fun f => bif Nat.beq f 102 then sig_slite_Index else [], fun f {_} ps hp K => bif Nat.beq f 102 then run_slite_Index k ps hp K else none⟩
def wrap_slite_Cut {R : Type} (K : ((List UInt8) → (List UInt8) → Bool → Option R)) : Out → Option R
  | .ret [.v .str y0, .v .str y1, .v .bool y2] [] => K y0 y1 y2
  | _ => none
def sp_slite_Cut : RetSpec := ⟨[.any, .any, .any], [], []⟩
def cuts_slite_Cut : List (Nat × CutSpec) := []
def plans_slite_Cut : List (Nat × Plan) := [(3, (.of [(0, 1), (1, 1), (2, 1), (3, 1), (4, 1), (5, 1), (6, 1), (7, 1), (8, 1), (9, 1), (10, 1), (11, 1)] .done))]
noncomputable def cx_slite_Cut (k : Nat) : Ctx := ⟨tyT, cuts_slite_Cut, C_slite_Cut k, [], [], plans_slite_Cut, @SH⟩
noncomputable def code_slite_Cut : Code := Tryd.f97.body.getD .skip
noncomputable def A_slite_Cut (k : Nat) {R : Type}  (x0 : (List UInt8)) (x1 : UInt8) (K : ((List UInt8) → (List UInt8) → Bool → Option R)) : Option R := (@F_slite_Index k R x0 x1 (fun (y5 : Int) => (@cond (@Option R) (@Decidable.decide (@GE.ge Int Int.instLEInt y5 (0 : Int)) (@Int.decLe (0 : Int) y5)) (@cond (@Option R) (@bnd (0 : Int) y5 (@Nat.cast Int instNatCastInt (@List.length UInt8 x0))) (@cond (@Option R) (@bnd (@Go.IntKind.wrap Go.IntKind.i64 (@HAdd.hAdd Int Int Int (@instHAdd Int @Int.instAdd) y5 (@Nat.cast Int instNatCastInt (@List.length UInt8 (x1 :: []))))) (@Nat.cast Int instNatCastInt (@List.length UInt8 x0)) (@Nat.cast Int instNatCastInt (@List.length UInt8 x0))) (K (@cut UInt8 x0 (0 : Int) y5) (@cut UInt8 x0 (@Go.IntKind.wrap Go.IntKind.i64 (@HAdd.hAdd Int Int Int (@instHAdd Int @Int.instAdd) y5 (@Nat.cast Int instNatCastInt (@List.length UInt8 (x1 :: []))))) (@Nat.cast Int instNatCastInt (@List.length UInt8 x0))) Bool.true) (@Option.none R)) (@Option.none R)) (K x0 (@Array.toList UInt8 (@ByteArray.data (@ByteArray.mk (@List.toArray UInt8 [])))) Bool.false))))
theorem A_slite_Cut_eq (k : Nat) {R : Type} (I : Nat → St → Option R) (x0 : (List UInt8)) (x1 : UInt8) (K : ((List UInt8) → (List UInt8) → Bool → Option R)) : fnK (cx_slite_Cut k) k code_slite_Cut 23 [.tmp 4, .tmp 5, .tmp 6] sp_slite_Cut [.v .str x0, .v .str [x1]] [] (wrap_slite_Cut K) = A_slite_Cut k  x0 x1 K := by kernel_rfl
noncomputable def F_slite_Cut (k : Nat) {R : Type} (x0 : (List UInt8)) (x1 : UInt8) (K : ((List UInt8) → (List UInt8) → Bool → Option R)) : Option R := A_slite_Cut k  x0 x1 K
theorem F_slite_Cut_eq (k : Nat) {R : Type} (x0 : (List UInt8)) (x1 : UInt8) (K : ((List UInt8) → (List UInt8) → Bool → Option R)) : fnK (cx_slite_Cut k) k code_slite_Cut 23 [.tmp 4, .tmp 5, .tmp 6] sp_slite_Cut [.v .str x0, .v .str [x1]] [] (wrap_slite_Cut K) = F_slite_Cut k x0 x1 K := by
  exact A_slite_Cut_eq k (fun _ _ => none) x0 x1 K
noncomputable def run_slite_Cut (k : Nat) {R : Type} : List PV → List (Nm × HObj) → (Out → Option R) → Option R
  | [.v .str x0, .v .str [x1]], [], K => F_slite_Cut k x0 x1 (fun y0 y1 y2 => K (.ret [.v .str y0, .v .str y1, .v .bool y2] []))
  | _, _, _ => none
theorem C_slite_Cut_ok (k : Nat) : (C_slite_Cut k).Ok Tryd.prog := by
  intro f ps hp R K r h
  unfold C_slite_Cut at h
  simp only at h
  cases hb102 : Nat.beq f 102 with
  | true => rw [hb102, cond_true] at h; rw [Nat.eq_of_beq_eq_true hb102]; exact D_slite_Index k h
  | false =>
  rw [hb102, cond_false] at h
  cases h
theorem D_slite_Cut (k : Nat) {ps : List PV} {hp : List (Nm × HObj)} {R : Type} {K : Out → Option R} {r : R} (h : run_slite_Cut k ps hp K = some r) : DoesTo Tryd.prog 97 ps hp fun out => K out = some r := by
  unfold run_slite_Cut at h
  split at h
  · rw [← F_slite_Cut_eq] at h
    have := fn_ok (P := Tryd.prog) (cx := cx_slite_Cut k) (f := 97) ⟨tyT_ok, C_slite_Cut_ok k, fun _ _ => rfl⟩ (by kernel_rfl) (fn := Tryd.f97) (c := code_slite_Cut) (by kernel_rfl) (by kernel_rfl) (by kernel_rfl) (rs := [.tmp 4, .tmp 5, .tmp 6]) (by kernel_rfl) (by kernel_rfl) h
    exact this.mono fun out ho => by
      unfold wrap_slite_Cut at ho
      split at ho <;> first | exact ho | cases ho
  · cases h
end Go.Proofs.YtpfbdepoammjmaaDoor.Pvm

set_option maxRecDepth 1000000
set_option maxHeartbeats 0
namespace Go.Proofs.YtpfbdepoammjmaaDoor.Pvm
open Go Go.Proofs
def sig_strings_Cut : List LS := [.any, .any]
noncomputable def C_strings_Cut (k : Nat) : CTab := ⟨fun f => bif Nat.beq f 97 then sig_slite_Cut else [], fun f {_} ps hp K => bif Nat.beq f 97 then run_slite_Cut k ps hp K else none⟩
def wrap_strings_Cut {R : Type} (K : ((List UInt8) → (List UInt8) → Bool → Option R)) : Out → Option R
  | .ret [.v .str y0, .v .str y1, .v .bool y2] [] => K y0 y1 y2
  | _ => none
def sp_strings_Cut : RetSpec := ⟨[.any, .any, .any], [], []⟩
def cuts_strings_Cut : List (Nat × CutSpec) := []
def plans_strings_Cut : List (Nat × Plan) := []
noncomputable def cx_strings_Cut (k : Nat) : Ctx := ⟨tyT, cuts_strings_Cut, C_strings_Cut k, [], [], plans_strings_Cut, @SH⟩
noncomputable def code_strings_Cut : Code := Tryd.f85.body.getD .skip
noncomputable def A_strings_Cut (k : Nat) {R : Type}  (x0 : (List UInt8)) (x1 : UInt8) (K : ((List UInt8) → (List UInt8) → Bool → Option R)) : Option R := (@F_slite_Cut k R x0 x1 (fun (y5 : (@List UInt8)) => (fun (y6 : (@List UInt8)) => (fun (y7 : Bool) => (K y5 y6 y7)))))
theorem A_strings_Cut_eq (k : Nat) {R : Type} (I : Nat → St → Option R) (x0 : (List UInt8)) (x1 : UInt8) (K : ((List UInt8) → (List UInt8) → Bool → Option R)) : fnK (cx_strings_Cut k) k code_strings_Cut 13 [.tmp 4, .tmp 5, .tmp 6] sp_strings_Cut [.v .str x0, .v .str [x1]] [] (wrap_strings_Cut K) = A_strings_Cut k  x0 x1 K := by kernel_rfl
noncomputable def F_strings_Cut (k : Nat) {R : Type} (x0 : (List UInt8)) (x1 : UInt8) (K : ((List UInt8) → (List UInt8) → Bool → Option R)) : Option R := A_strings_Cut k  x0 x1 K
theorem F_strings_Cut_eq (k : Nat) {R : Type} (x0 : (List UInt8)) (x1 : UInt8) (K : ((List UInt8) → (List UInt8) → Bool → Option R)) : fnK (cx_strings_Cut k) k code_strings_Cut 13 [.tmp 4, .tmp 5, .tmp 6] sp_strings_Cut [.v .str x0, .v .str [x1]] [] (wrap_strings_Cut K) = F_strings_Cut k x0 x1 K := by
  exact A_strings_Cut_eq k (fun _ _ => none) x0 x1 K
noncomputable def run_strings_Cut (k : Nat) {R : Type} : List PV → List (Nm × HObj) → (Out → Option R) → Option R
  | [.v .str x0, .v .str [x1]], [], K => F_strings_Cut k x0 x1 (fun y0 y1 y2 => K (.ret [.v .str y0, .v .str y1, .v .bool y2] []))
  | _, _, _ => none
theorem C_strings_Cut_ok (k : Nat) : (C_strings_Cut k).Ok Tryd.prog := by
  intro f ps hp R K r h
  unfold C_strings_Cut at h
  simp only at h
  cases hb97 : Nat.beq f 97 with
  | true => rw [hb97, cond_true] at h; rw [Nat.eq_of_beq_eq_true hb97]; exact D_slite_Cut k h
  | false =>
  rw [hb97, cond_false] at h
  cases h
theorem D_strings_Cut (k : Nat) {ps : List PV} {hp : List (Nm × HObj)} {R : Type} {K : Out → Option R} {r : R} (h : run_strings_Cut k ps hp K = some r) : DoesTo Tryd.prog 85 ps hp fun out => K out = some r := by
  unfold run_strings_Cut at h
  split at h
  · rw [← F_strings_Cut_eq] at h
    have := fn_ok (P := Tryd.prog) (cx := cx_strings_Cut k) (f := 85) ⟨tyT_ok, C_strings_Cut_ok k, fun _ _ => rfl⟩ (by kernel_rfl) (fn := Tryd.f85) (c := code_strings_Cut) (by kernel_rfl) (by kernel_rfl) (by kernel_rfl) (rs := [.tmp 4, .tmp 5, .tmp 6]) (by kernel_rfl) (by kernel_rfl) h
    exact this.mono fun out ho => by
      unfold wrap_strings_Cut at ho
      split at ho <;> first | exact ho | cases ho
  · cases h
end Go.Proofs.YtpfbdepoammjmaaDoor.Pvm

set_option maxRecDepth 1000000
set_option maxHeartbeats 0
namespace Go.Proofs.YtpfbdepoammjmaaDoor.Pvm
open Go Go.Proofs
def sig_lex_key : List LS := [.any]
noncomputable def C_lex_key (k : Nat) : CTab := ⟨fun f => bif Nat.beq f 85 then sig_strings_Cut else bif Nat.beq f 86 then sig_lex_Signs else [], fun f {_} ps hp K => bif Nat.beq f 85 then run_strings_Cut k ps hp K else bif Nat.beq f 86 then run_lex_Signs k ps hp K else none⟩
def wrap_lex_key {R : Type} (K : ((List UInt8) → Option R)) : Out → Option R
  | .ret [.v .str y0] [] => K y0
  | _ => none
def sp_lex_key : RetSpec := ⟨[.any], [], []⟩
def cuts_lex_key : List (Nat × CutSpec) := []
def plans_lex_key : List (Nat × Plan) := []
noncomputable def cx_lex_key (k : Nat) : Ctx := ⟨tyT, cuts_lex_key, C_lex_key k, [], [], plans_lex_key, @SH⟩
noncomputable def code_lex_key : Code := Tryd.f72.body.getD .skip
noncomputable def A_lex_key (k : Nat) {R : Type}  (x0 : (List UInt8)) (K : ((List UInt8) → Option R)) : Option R := (@F_strings_Cut k R x0 (58 : UInt8) (fun (y4 : (@List UInt8)) => (fun (y5 : (@List UInt8)) => (fun (y6 : Bool) => (@cond (@Option R) (@BEq.beq (@Kd.T Kd.bool) (@instBEqOfDecidableEq (@Kd.T Kd.bool) @instDecidableEqBool) (@Bool.not y6) Bool.false) (@F_lex_Signs k R y4 (fun (y7 : Bool) => (@cond (@Option R) (@Bool.or (@Bool.not (@Bool.and (@BEq.beq (@Kd.T Kd.bool) (@instBEqOfDecidableEq (@Kd.T Kd.bool) @instDecidableEqBool) (@Bool.not y7) Bool.false) (@BEq.beq (@Kd.T Kd.bool) (@instBEqOfDecidableEq (@Kd.T Kd.bool) @instDecidableEqBool) (@Bool.not (@BEq.beq (@List UInt8) (@List.instBEq UInt8 (@instBEqOfDecidableEq UInt8 @instDecidableEqUInt8)) y5 (@Array.toList UInt8 (@ByteArray.data (@ByteArray.mk (@List.toArray UInt8 [])))))) Bool.true))) (@inb (0 : Int) (@Nat.cast Int instNatCastInt (@List.length UInt8 y5)))) (@cond (@Option R) (@cond (@Kd.T Kd.bool) (@Bool.not y7) Bool.true (@cond (@Kd.T Kd.bool) (@Bool.not (@BEq.beq (@List UInt8) (@List.instBEq UInt8 (@instBEqOfDecidableEq UInt8 @instDecidableEqUInt8)) y5 (@Array.toList UInt8 (@ByteArray.data (@ByteArray.mk (@List.toArray UInt8 [])))))) (@bne Int (@instBEqOfDecidableEq Int @Int.instDecidableEq) (@Nat.cast Int instNatCastInt (@UInt8.toNat (@List.getD UInt8 y5 (@Int.toNat (0 : Int)) (0 : UInt8)))) (32 : Int)) Bool.false)) (K (@Array.toList UInt8 (@ByteArray.data (@ByteArray.mk (@List.toArray UInt8 []))))) (K y4)) (@Option.none R)))) (K (@Array.toList UInt8 (@ByteArray.data (@ByteArray.mk (@List.toArray UInt8 []))))))))))
theorem A_lex_key_eq (k : Nat) {R : Type} (I : Nat → St → Option R) (x0 : (List UInt8)) (K : ((List UInt8) → Option R)) : fnK (cx_lex_key k) k code_lex_key 29 [.tmp 2] sp_lex_key [.v .str x0] [] (wrap_lex_key K) = A_lex_key k  x0 K := by kernel_rfl
noncomputable def F_lex_key (k : Nat) {R : Type} (x0 : (List UInt8)) (K : ((List UInt8) → Option R)) : Option R := A_lex_key k  x0 K
theorem F_lex_key_eq (k : Nat) {R : Type} (x0 : (List UInt8)) (K : ((List UInt8) → Option R)) : fnK (cx_lex_key k) k code_lex_key 29 [.tmp 2] sp_lex_key [.v .str x0] [] (wrap_lex_key K) = F_lex_key k x0 K := by
  exact A_lex_key_eq k (fun _ _ => none) x0 K
noncomputable def run_lex_key (k : Nat) {R : Type} : List PV → List (Nm × HObj) → (Out → Option R) → Option R
  | [.v .str x0], [], K => F_lex_key k x0 (fun y0 => K (.ret [.v .str y0] []))
  | _, _, _ => none
theorem C_lex_key_ok (k : Nat) : (C_lex_key k).Ok Tryd.prog := by
  intro f ps hp R K r h
  unfold C_lex_key at h
  simp only at h
  cases hb85 : Nat.beq f 85 with
  | true => rw [hb85, cond_true] at h; rw [Nat.eq_of_beq_eq_true hb85]; exact D_strings_Cut k h
  | false =>
  rw [hb85, cond_false] at h
  cases hb86 : Nat.beq f 86 with
  | true => rw [hb86, cond_true] at h; rw [Nat.eq_of_beq_eq_true hb86]; exact D_lex_Signs k h
  | false =>
  rw [hb86, cond_false] at h
  cases h
theorem D_lex_key (k : Nat) {ps : List PV} {hp : List (Nm × HObj)} {R : Type} {K : Out → Option R} {r : R} (h : run_lex_key k ps hp K = some r) : DoesTo Tryd.prog 72 ps hp fun out => K out = some r := by
  unfold run_lex_key at h
  split at h
  · rw [← F_lex_key_eq] at h
    have := fn_ok (P := Tryd.prog) (cx := cx_lex_key k) (f := 72) ⟨tyT_ok, C_lex_key_ok k, fun _ _ => rfl⟩ (by kernel_rfl) (fn := Tryd.f72) (c := code_lex_key) (by kernel_rfl) (by kernel_rfl) (by kernel_rfl) (rs := [.tmp 2]) (by kernel_rfl) (by kernel_rfl) h
    exact this.mono fun out ho => by
      unfold wrap_lex_key at ho
      split at ho <;> first | exact ho | cases ho
  · cases h
end Go.Proofs.YtpfbdepoammjmaaDoor.Pvm

set_option maxRecDepth 1000000
set_option maxHeartbeats 0
namespace Go.Proofs.YtpfbdepoammjmaaDoor.Pvm
open Go Go.Proofs
def sig_lex_lexer_gives : List LS := [.obj 1 [.any, .any, .any, .any, .own 21 25 (.pr (.int .i64) (.pr (.int .i64) (.pr (.int .i64) (.pr .str .bool))))], .any]
noncomputable def C_lex_lexer_gives (k : Nat) : CTab := ⟨fun f => [], fun f {_} ps hp K => none⟩
def wrap_lex_lexer_gives {R : Type} (K : (Int → Int → (List UInt8) → Int → (List (Int × (Int × (Int × ((List UInt8) × Bool))))) → Option R)) (E : (Int → Int → (List UInt8) → Int → (List (Int × (Int × (Int × ((List UInt8) × Bool))))) → Int → Int → Option R)) : Out → Option R
  | .ret [] [(21, .row 25 (.pr (.int .i64) (.pr (.int .i64) (.pr (.int .i64) (.pr .str .bool)))) y4), (1, .var 111 [.v (.int .i64) y0, .v (.int .i64) y1, .v .str y2, .v (.int .i64) y3, .row 21])] => K y0 y1 y2 y3 y4
  | .pan (.ifc 30 (.agg [.v (.int .i64) z5, .v (.int .i64) z6])) [(21, .row 25 (.pr (.int .i64) (.pr (.int .i64) (.pr (.int .i64) (.pr .str .bool)))) z4), (1, .var 111 [.v (.int .i64) z0, .v (.int .i64) z1, .v .str z2, .v (.int .i64) z3, .row 21])] => E z0 z1 z2 z3 z4 z5 z6
  | _ => none
def sp_lex_lexer_gives : RetSpec := ⟨[], [(1, .obj 1 [.any, .any, .any, .any, .own 21 25 (.pr (.int .i64) (.pr (.int .i64) (.pr (.int .i64) (.pr .str .bool))))])], [(1, .obj 1 [.any, .any, .any, .any, .own 21 25 (.pr (.int .i64) (.pr (.int .i64) (.pr (.int .i64) (.pr .str .bool))))])]⟩
def cuts_lex_lexer_gives : List (Nat × CutSpec) := []
def plans_lex_lexer_gives : List (Nat × Plan) := []
noncomputable def cx_lex_lexer_gives (k : Nat) : Ctx := ⟨tyT, cuts_lex_lexer_gives, C_lex_lexer_gives k, [], [1], plans_lex_lexer_gives, @SH⟩
noncomputable def code_lex_lexer_gives : Code := Tryd.f68.body.getD .skip
noncomputable def A_lex_lexer_gives (k : Nat) {R : Type}  (x0 : Int) (x1 : Int) (x2 : (List UInt8)) (x3 : Int) (x4 : (List (Int × (Int × (Int × ((List UInt8) × Bool)))))) (x5 : Int) (K : (Int → Int → (List UInt8) → Int → (List (Int × (Int × (Int × ((List UInt8) × Bool))))) → Option R)) (E : (Int → Int → (List UInt8) → Int → (List (Int × (Int × (Int × ((List UInt8) × Bool))))) → Int → Int → Option R)) : Option R := (E x0 x1 x2 x3 x4 x5 x0)
theorem A_lex_lexer_gives_eq (k : Nat) {R : Type} (I : Nat → St → Option R) (x0 : Int) (x1 : Int) (x2 : (List UInt8)) (x3 : Int) (x4 : (List (Int × (Int × (Int × ((List UInt8) × Bool)))))) (x5 : Int) (K : (Int → Int → (List UInt8) → Int → (List (Int × (Int × (Int × ((List UInt8) × Bool))))) → Option R)) (E : (Int → Int → (List UInt8) → Int → (List (Int × (Int × (Int × ((List UInt8) × Bool))))) → Int → Int → Option R)) : fnK (cx_lex_lexer_gives k) k code_lex_lexer_gives 12 [] sp_lex_lexer_gives [.ptr 1 0, .v (.int .i64) x5] [(21, .row 25 (.pr (.int .i64) (.pr (.int .i64) (.pr (.int .i64) (.pr .str .bool)))) x4), (1, .var 111 [.v (.int .i64) x0, .v (.int .i64) x1, .v .str x2, .v (.int .i64) x3, .row 21])] (wrap_lex_lexer_gives K E) = A_lex_lexer_gives k  x0 x1 x2 x3 x4 x5 K E := by kernel_rfl
noncomputable def F_lex_lexer_gives (k : Nat) {R : Type} (x0 : Int) (x1 : Int) (x2 : (List UInt8)) (x3 : Int) (x4 : (List (Int × (Int × (Int × ((List UInt8) × Bool)))))) (x5 : Int) (K : (Int → Int → (List UInt8) → Int → (List (Int × (Int × (Int × ((List UInt8) × Bool))))) → Option R)) (E : (Int → Int → (List UInt8) → Int → (List (Int × (Int × (Int × ((List UInt8) × Bool))))) → Int → Int → Option R)) : Option R := A_lex_lexer_gives k  x0 x1 x2 x3 x4 x5 K E
theorem F_lex_lexer_gives_eq (k : Nat) {R : Type} (x0 : Int) (x1 : Int) (x2 : (List UInt8)) (x3 : Int) (x4 : (List (Int × (Int × (Int × ((List UInt8) × Bool)))))) (x5 : Int) (K : (Int → Int → (List UInt8) → Int → (List (Int × (Int × (Int × ((List UInt8) × Bool))))) → Option R)) (E : (Int → Int → (List UInt8) → Int → (List (Int × (Int × (Int × ((List UInt8) × Bool))))) → Int → Int → Option R)) : fnK (cx_lex_lexer_gives k) k code_lex_lexer_gives 12 [] sp_lex_lexer_gives [.ptr 1 0, .v (.int .i64) x5] [(21, .row 25 (.pr (.int .i64) (.pr (.int .i64) (.pr (.int .i64) (.pr .str .bool)))) x4), (1, .var 111 [.v (.int .i64) x0, .v (.int .i64) x1, .v .str x2, .v (.int .i64) x3, .row 21])] (wrap_lex_lexer_gives K E) = F_lex_lexer_gives k x0 x1 x2 x3 x4 x5 K E := by
  exact A_lex_lexer_gives_eq k (fun _ _ => none) x0 x1 x2 x3 x4 x5 K E
noncomputable def run_lex_lexer_gives (k : Nat) {R : Type} : List PV → List (Nm × HObj) → (Out → Option R) → Option R
  | [.ptr 1 0, .v (.int .i64) x5], [(21, .row 25 (.pr (.int .i64) (.pr (.int .i64) (.pr (.int .i64) (.pr .str .bool)))) x4), (1, .var 111 [.v (.int .i64) x0, .v (.int .i64) x1, .v .str x2, .v (.int .i64) x3, .row 21])], K => F_lex_lexer_gives k x0 x1 x2 x3 x4 x5 (fun y0 y1 y2 y3 y4 => K (.ret [] [(21, .row 25 (.pr (.int .i64) (.pr (.int .i64) (.pr (.int .i64) (.pr .str .bool)))) y4), (1, .var 111 [.v (.int .i64) y0, .v (.int .i64) y1, .v .str y2, .v (.int .i64) y3, .row 21])])) (fun z0 z1 z2 z3 z4 z5 z6 => K (.pan (.ifc 30 (.agg [.v (.int .i64) z5, .v (.int .i64) z6])) [(21, .row 25 (.pr (.int .i64) (.pr (.int .i64) (.pr (.int .i64) (.pr .str .bool)))) z4), (1, .var 111 [.v (.int .i64) z0, .v (.int .i64) z1, .v .str z2, .v (.int .i64) z3, .row 21])]))
  | _, _, _ => none
theorem C_lex_lexer_gives_ok (k : Nat) : (C_lex_lexer_gives k).Ok Tryd.prog := by
  intro f ps hp R K r h
  unfold C_lex_lexer_gives at h
  simp only at h
  cases h
theorem D_lex_lexer_gives (k : Nat) {ps : List PV} {hp : List (Nm × HObj)} {R : Type} {K : Out → Option R} {r : R} (h : run_lex_lexer_gives k ps hp K = some r) : DoesTo Tryd.prog 68 ps hp fun out => K out = some r := by
  unfold run_lex_lexer_gives at h
  split at h
  · rw [← F_lex_lexer_gives_eq] at h
    have := fn_ok (P := Tryd.prog) (cx := cx_lex_lexer_gives k) (f := 68) ⟨tyT_ok, C_lex_lexer_gives_ok k, fun _ _ => rfl⟩ (by kernel_rfl) (fn := Tryd.f68) (c := code_lex_lexer_gives) (by kernel_rfl) (by kernel_rfl) (by kernel_rfl) (rs := []) (by kernel_rfl) (by kernel_rfl) h
    exact this.mono fun out ho => by
      unfold wrap_lex_lexer_gives at ho
      split at ho <;> first | exact ho | cases ho
  · cases h
end Go.Proofs.YtpfbdepoammjmaaDoor.Pvm

set_option maxRecDepth 1000000
set_option maxHeartbeats 0
namespace Go.Proofs.YtpfbdepoammjmaaDoor.Pvm
open Go Go.Proofs
def sig_lex_lexer_piece : List LS := [.obj 1 [.any, .any, .any, .any, .own 21 25 (.pr (.int .i64) (.pr (.int .i64) (.pr (.int .i64) (.pr .str .bool))))], .any, .any, .any, .any]
noncomputable def C_lex_lexer_piece (k : Nat) : CTab := ⟨fun f => [], fun f {_} ps hp K => none⟩
def wrap_lex_lexer_piece {R : Type} (K : (Int → Int → (List UInt8) → Int → (List (Int × (Int × (Int × ((List UInt8) × Bool))))) → Option R)) : Out → Option R
  | .ret [] [(21, .row 25 (.pr (.int .i64) (.pr (.int .i64) (.pr (.int .i64) (.pr .str .bool)))) y4), (1, .var 111 [.v (.int .i64) y0, .v (.int .i64) y1, .v .str y2, .v (.int .i64) y3, .row 21])] => K y0 y1 y2 y3 y4
  | _ => none
def sp_lex_lexer_piece : RetSpec := ⟨[], [(1, .obj 1 [.any, .any, .any, .any, .own 21 25 (.pr (.int .i64) (.pr (.int .i64) (.pr (.int .i64) (.pr .str .bool))))])], []⟩
def cuts_lex_lexer_piece : List (Nat × CutSpec) := []
def plans_lex_lexer_piece : List (Nat × Plan) := [(0, (.of [(0, 1), (1, 1), (2, 1), (3, 1), (5, 1), (6, 1), (7, 1), (8, 1), (9, 1), (11, 1), (12, 1), (13, 1), (14, 1), (16, 1), (17, 1), (18, 1), (21, 1), (22, 1), (4, 1), (10, 1), (15, 1), (19, 1), (20, 1), (23, 1), (24, 0), (25, 0), (26, 1), (27, 1), (28, 0)] .done))]
noncomputable def cx_lex_lexer_piece (k : Nat) : Ctx := ⟨tyT, cuts_lex_lexer_piece, C_lex_lexer_piece k, [], [1], plans_lex_lexer_piece, @SH⟩
noncomputable def code_lex_lexer_piece : Code := Tryd.f71.body.getD .skip
noncomputable def A_lex_lexer_piece (k : Nat) {R : Type}  (x0 : Int) (x1 : Int) (x2 : (List UInt8)) (x3 : Int) (x4 : (List (Int × (Int × (Int × ((List UInt8) × Bool)))))) (x5 : Int) (x6 : (List UInt8)) (x7 : Bool) (x8 : Int) (K : (Int → Int → (List UInt8) → Int → (List (Int × (Int × (Int × ((List UInt8) × Bool))))) → Option R)) : Option R := (@cond (@Option R) (@fits (@List.length (@Kd.T (@Kd.pr kI (@Kd.pr kI (@Kd.pr kI (@Kd.pr Kd.str Kd.bool))))) x4) (@List.length (@Kd.T (@Kd.pr kI (@Kd.pr kI (@Kd.pr kI (@Kd.pr Kd.str Kd.bool))))) ((x5, (x0, ((@Go.IntKind.wrap Go.IntKind.i64 (@HAdd.hAdd Int Int Int (@instHAdd Int @Int.instAdd) x1 x3)), (x6, x7)))) :: [])) (48 : Nat)) (K x0 x1 x2 (@Go.IntKind.wrap Go.IntKind.i64 (@HAdd.hAdd Int Int Int (@instHAdd Int @Int.instAdd) x3 x8)) (@HAppend.hAppend (@Kd.T (@Kd.sl (@Kd.pr kI (@Kd.pr kI (@Kd.pr kI (@Kd.pr Kd.str Kd.bool)))))) (@List (@Kd.T (@Kd.pr kI (@Kd.pr kI (@Kd.pr kI (@Kd.pr Kd.str Kd.bool)))))) (@Kd.T (@Kd.sl (@Kd.pr kI (@Kd.pr kI (@Kd.pr kI (@Kd.pr Kd.str Kd.bool)))))) (@instHAppendOfAppend (@Kd.T (@Kd.sl (@Kd.pr kI (@Kd.pr kI (@Kd.pr kI (@Kd.pr Kd.str Kd.bool)))))) (@List.instAppend (@Kd.T (@Kd.pr kI (@Kd.pr kI (@Kd.pr kI (@Kd.pr Kd.str Kd.bool))))))) x4 ((x5, (x0, ((@Go.IntKind.wrap Go.IntKind.i64 (@HAdd.hAdd Int Int Int (@instHAdd Int @Int.instAdd) x1 x3)), (x6, x7)))) :: []))) (@Option.none R))
theorem A_lex_lexer_piece_eq (k : Nat) {R : Type} (I : Nat → St → Option R) (x0 : Int) (x1 : Int) (x2 : (List UInt8)) (x3 : Int) (x4 : (List (Int × (Int × (Int × ((List UInt8) × Bool)))))) (x5 : Int) (x6 : (List UInt8)) (x7 : Bool) (x8 : Int) (K : (Int → Int → (List UInt8) → Int → (List (Int × (Int × (Int × ((List UInt8) × Bool))))) → Option R)) : fnK (cx_lex_lexer_piece k) k code_lex_lexer_piece 46 [] sp_lex_lexer_piece [.ptr 1 0, .v (.int .i64) x5, .v .str x6, .v .bool x7, .v (.int .i64) x8] [(21, .row 25 (.pr (.int .i64) (.pr (.int .i64) (.pr (.int .i64) (.pr .str .bool)))) x4), (1, .var 111 [.v (.int .i64) x0, .v (.int .i64) x1, .v .str x2, .v (.int .i64) x3, .row 21])] (wrap_lex_lexer_piece K) = A_lex_lexer_piece k  x0 x1 x2 x3 x4 x5 x6 x7 x8 K := by kernel_rfl
noncomputable def F_lex_lexer_piece (k : Nat) {R : Type} (x0 : Int) (x1 : Int) (x2 : (List UInt8)) (x3 : Int) (x4 : (List (Int × (Int × (Int × ((List UInt8) × Bool)))))) (x5 : Int) (x6 : (List UInt8)) (x7 : Bool) (x8 : Int) (K : (Int → Int → (List UInt8) → Int → (List (Int × (Int × (Int × ((List UInt8) × Bool))))) → Option R)) : Option R := A_lex_lexer_piece k  x0 x1 x2 x3 x4 x5 x6 x7 x8 K
theorem F_lex_lexer_piece_eq (k : Nat) {R : Type} (x0 : Int) (x1 : Int) (x2 : (List UInt8)) (x3 : Int) (x4 : (List (Int × (Int × (Int × ((List UInt8) × Bool)))))) (x5 : Int) (x6 : (List UInt8)) (x7 : Bool) (x8 : Int) (K : (Int → Int → (List UInt8) → Int → (List (Int × (Int × (Int × ((List UInt8) × Bool))))) → Option R)) : fnK (cx_lex_lexer_piece k) k code_lex_lexer_piece 46 [] sp_lex_lexer_piece [.ptr 1 0, .v (.int .i64) x5, .v .str x6, .v .bool x7, .v (.int .i64) x8] [(21, .row 25 (.pr (.int .i64) (.pr (.int .i64) (.pr (.int .i64) (.pr .str .bool)))) x4), (1, .var 111 [.v (.int .i64) x0, .v (.int .i64) x1, .v .str x2, .v (.int .i64) x3, .row 21])] (wrap_lex_lexer_piece K) = F_lex_lexer_piece k x0 x1 x2 x3 x4 x5 x6 x7 x8 K := by
  exact A_lex_lexer_piece_eq k (fun _ _ => none) x0 x1 x2 x3 x4 x5 x6 x7 x8 K
noncomputable def run_lex_lexer_piece (k : Nat) {R : Type} : List PV → List (Nm × HObj) → (Out → Option R) → Option R
  | [.ptr 1 0, .v (.int .i64) x5, .v .str x6, .v .bool x7, .v (.int .i64) x8], [(21, .row 25 (.pr (.int .i64) (.pr (.int .i64) (.pr (.int .i64) (.pr .str .bool)))) x4), (1, .var 111 [.v (.int .i64) x0, .v (.int .i64) x1, .v .str x2, .v (.int .i64) x3, .row 21])], K => F_lex_lexer_piece k x0 x1 x2 x3 x4 x5 x6 x7 x8 (fun y0 y1 y2 y3 y4 => K (.ret [] [(21, .row 25 (.pr (.int .i64) (.pr (.int .i64) (.pr (.int .i64) (.pr .str .bool)))) y4), (1, .var 111 [.v (.int .i64) y0, .v (.int .i64) y1, .v .str y2, .v (.int .i64) y3, .row 21])]))
  | _, _, _ => none
theorem C_lex_lexer_piece_ok (k : Nat) : (C_lex_lexer_piece k).Ok Tryd.prog := by
  intro f ps hp R K r h
  unfold C_lex_lexer_piece at h
  simp only at h
  cases h
theorem D_lex_lexer_piece (k : Nat) {ps : List PV} {hp : List (Nm × HObj)} {R : Type} {K : Out → Option R} {r : R} (h : run_lex_lexer_piece k ps hp K = some r) : DoesTo Tryd.prog 71 ps hp fun out => K out = some r := by
  unfold run_lex_lexer_piece at h
  split at h
  · rw [← F_lex_lexer_piece_eq] at h
    have := fn_ok (P := Tryd.prog) (cx := cx_lex_lexer_piece k) (f := 71) ⟨tyT_ok, C_lex_lexer_piece_ok k, fun _ _ => rfl⟩ (by kernel_rfl) (fn := Tryd.f71) (c := code_lex_lexer_piece) (by kernel_rfl) (by kernel_rfl) (by kernel_rfl) (rs := []) (by kernel_rfl) (by kernel_rfl) h
    exact this.mono fun out ho => by
      unfold wrap_lex_lexer_piece at ho
      split at ho <;> first | exact ho | cases ho
  · cases h
end Go.Proofs.YtpfbdepoammjmaaDoor.Pvm

set_option maxRecDepth 1000000
set_option maxHeartbeats 0
namespace Go.Proofs.YtpfbdepoammjmaaDoor.Pvm
open Go Go.Proofs
abbrev KT_lex_lexer_rest (R : Type) : Type := (Int → Int → (List UInt8) → Int → (List (Int × (Int × (Int × ((List UInt8) × Bool))))) → (List UInt8) → Option R)
def sig_lex_lexer_rest : List LS := [.obj 1 [.any, .any, .any, .any, .own 21 25 (.pr (.int .i64) (.pr (.int .i64) (.pr (.int .i64) (.pr .str .bool))))]]
noncomputable def C_lex_lexer_rest (k : Nat) : CTab := ⟨fun f => [], fun f {_} ps hp K => none⟩
def wrap_lex_lexer_rest {R : Type} (K : KT_lex_lexer_rest R) : Out → Option R
  | .ret [.v .str y5] [(21, .row 25 (.pr (.int .i64) (.pr (.int .i64) (.pr (.int .i64) (.pr .str .bool)))) y4), (1, .var 111 [.v (.int .i64) y0, .v (.int .i64) y1, .v .str y2, .v (.int .i64) y3, .row 21])] => K y0 y1 y2 y3 y4 y5
  | _ => none
def sp_lex_lexer_rest : RetSpec := ⟨[.any], [(1, .obj 1 [.any, .any, .any, .any, .own 21 25 (.pr (.int .i64) (.pr (.int .i64) (.pr (.int .i64) (.pr .str .bool))))])], []⟩
def cuts_lex_lexer_rest : List (Nat × CutSpec) := [(1001, ⟨[(0, .obj 1 [.any, .any, .any, .any, .own 21 25 (.pr (.int .i64) (.pr (.int .i64) (.pr (.int .i64) (.pr .str .bool))))])], [(1, .obj 1 [.any, .any, .any, .any, .own 21 25 (.pr (.int .i64) (.pr (.int .i64) (.pr (.int .i64) (.pr .str .bool))))])]⟩)]
def plans_lex_lexer_rest : List (Nat × Plan) := [(1, (.of [(0, 1), (1, 1), (2, 1), (4, 1), (5, 1), (6, 1), (7, 1), (3, 1), (8, 1), (9, 1), (10, 1), (11, 1), (12, 1), (13, 1), (14, 1), (15, 1), (17, 1), (18, 1), (19, 1), (16, 1), (20, 1), (21, 1), (22, 1), (23, 1)] .done)), (3, (.of [(0, 1), (1, 1), (2, 1), (3, 1), (5, 1), (6, 1), (7, 1), (4, 1), (8, 1), (9, 1), (10, 1)] .done))]
noncomputable def cx_lex_lexer_rest (k : Nat) : Ctx := ⟨tyT, cuts_lex_lexer_rest, C_lex_lexer_rest k, [], [1], plans_lex_lexer_rest, @SH⟩
noncomputable def code_lex_lexer_rest : Code := Tryd.f69.body.getD .skip
def st_lex_lexer_rest_1001 (s0 : Int) (s1 : Int) (s2 : (List UInt8)) (s3 : Int) (s4 : (List (Int × (Int × (Int × ((List UInt8) × Bool)))))) : St := ⟨mkT [(0, .ptr 1 0)], mkH [(21, .row 25 (.pr (.int .i64) (.pr (.int .i64) (.pr (.int .i64) (.pr .str .bool)))) s4), (1, .var 111 [.v (.int .i64) s0, .v (.int .i64) s1, .v .str s2, .v (.int .i64) s3, .row 21])]⟩
noncomputable def B_lex_lexer_rest_1001 (k : Nat) {R : Type} (E1001 : (Int → Int → (List UInt8) → Int → (List (Int × (Int × (Int × ((List UInt8) × Bool))))) → Option R)) (s0 : Int) (s1 : Int) (s2 : (List UInt8)) (s3 : Int) (s4 : (List (Int × (Int × (Int × ((List UInt8) × Bool)))))) (K : KT_lex_lexer_rest R) : Option R := (@cond (@Option R) (@Bool.or (@Bool.not (@BEq.beq (@Kd.T Kd.bool) (@instBEqOfDecidableEq (@Kd.T Kd.bool) @instDecidableEqBool) (@Decidable.decide (@LT.lt Int Int.instLTInt s3 (@Nat.cast Int instNatCastInt (@List.length UInt8 s2))) (@Int.decLt s3 (@Nat.cast Int instNatCastInt (@List.length UInt8 s2)))) Bool.true)) (@inb s3 (@Nat.cast Int instNatCastInt (@List.length UInt8 s2)))) (@cond (@Option R) (@cond (@Kd.T Kd.bool) (@Decidable.decide (@LT.lt Int Int.instLTInt s3 (@Nat.cast Int instNatCastInt (@List.length UInt8 s2))) (@Int.decLt s3 (@Nat.cast Int instNatCastInt (@List.length UInt8 s2)))) (@BEq.beq Int (@instBEqOfDecidableEq Int @Int.instDecidableEq) (@Nat.cast Int instNatCastInt (@UInt8.toNat (@List.getD UInt8 s2 (@Int.toNat s3) (0 : UInt8)))) (32 : Int)) Bool.false) (E1001 s0 s1 s2 (@Go.IntKind.wrap Go.IntKind.i64 (@HAdd.hAdd Int Int Int (@instHAdd Int @Int.instAdd) s3 (1 : Int))) s4) (@cond (@Option R) (@bnd s3 (@Nat.cast Int instNatCastInt (@List.length UInt8 s2)) (@Nat.cast Int instNatCastInt (@List.length UInt8 s2))) (K s0 s1 s2 s3 s4 (@cut UInt8 s2 s3 (@Nat.cast Int instNatCastInt (@List.length UInt8 s2)))) (@Option.none R))) (@Option.none R))
theorem B_lex_lexer_rest_1001_eq (k : Nat) {R : Type} (I : Nat → St → Option R) (s0 : Int) (s1 : Int) (s2 : (List UInt8)) (s3 : Int) (s4 : (List (Int × (Int × (Int × ((List UInt8) × Bool)))))) (K : KT_lex_lexer_rest R) : execK (cx_lex_lexer_rest k) k (at_ [1, 0, 0, 0] code_lex_lexer_rest) (st_lex_lexer_rest_1001 s0 s1 s2 s3 s4) (konts (cx_lex_lexer_rest k) k I [1, 0, 0, 0] code_lex_lexer_rest (outK (cx_lex_lexer_rest k) sp_lex_lexer_rest [.tmp 2] (wrap_lex_lexer_rest K))) = B_lex_lexer_rest_1001 k (fun s0 s1 s2 s3 s4 => I 1001 (st_lex_lexer_rest_1001 s0 s1 s2 s3 s4)) s0 s1 s2 s3 s4 K := by kernel_rfl
noncomputable def A_lex_lexer_rest (k : Nat) {R : Type} (E1001 : (Int → Int → (List UInt8) → Int → (List (Int × (Int × (Int × ((List UInt8) × Bool))))) → Option R)) (x0 : Int) (x1 : Int) (x2 : (List UInt8)) (x3 : Int) (x4 : (List (Int × (Int × (Int × ((List UInt8) × Bool)))))) (K : KT_lex_lexer_rest R) : Option R := (E1001 x0 x1 x2 x3 x4)
theorem A_lex_lexer_rest_eq (k : Nat) {R : Type} (I : Nat → St → Option R) (x0 : Int) (x1 : Int) (x2 : (List UInt8)) (x3 : Int) (x4 : (List (Int × (Int × (Int × ((List UInt8) × Bool)))))) (K : KT_lex_lexer_rest R) : fnK (cx_lex_lexer_rest k) k code_lex_lexer_rest 44 [.tmp 2] sp_lex_lexer_rest [.ptr 1 0] [(21, .row 25 (.pr (.int .i64) (.pr (.int .i64) (.pr (.int .i64) (.pr .str .bool)))) x4), (1, .var 111 [.v (.int .i64) x0, .v (.int .i64) x1, .v .str x2, .v (.int .i64) x3, .row 21])] (wrap_lex_lexer_rest K) = A_lex_lexer_rest k (fun s0 s1 s2 s3 s4 => iter (cx_lex_lexer_rest k).pv (look (cx_lex_lexer_rest k).cuts 1001) (execK (cx_lex_lexer_rest k) k (at_ [1, 0, 0, 0] code_lex_lexer_rest)) k (st_lex_lexer_rest_1001 s0 s1 s2 s3 s4) (konts (cx_lex_lexer_rest k) k I [1, 0, 0] code_lex_lexer_rest (outK (cx_lex_lexer_rest k) sp_lex_lexer_rest [.tmp 2] (wrap_lex_lexer_rest K)))) x0 x1 x2 x3 x4 K := by kernel_rfl
noncomputable def L_lex_lexer_rest_1001 (k : Nat) {R : Type}  : Nat → Int → Int → (List UInt8) → Int → (List (Int × (Int × (Int × ((List UInt8) × Bool))))) → (Int → Int → (List UInt8) → Int → (List (Int × (Int × (Int × ((List UInt8) × Bool))))) → (List UInt8) → Option R) → Option R
  | 0, _, _, _, _, _, _ => none
  | n + 1, s0, s1, s2, s3, s4, K => B_lex_lexer_rest_1001 k (fun s0 s1 s2 s3 s4 => L_lex_lexer_rest_1001 k  n s0 s1 s2 s3 s4 K) s0 s1 s2 s3 s4 K
theorem L_lex_lexer_rest_1001_eq (k : Nat) {R : Type} (I : Nat → St → Option R) (K : KT_lex_lexer_rest R) : ∀ (n : Nat) (s0 : Int) (s1 : Int) (s2 : (List UInt8)) (s3 : Int) (s4 : (List (Int × (Int × (Int × ((List UInt8) × Bool)))))), iter (cx_lex_lexer_rest k).pv (look (cx_lex_lexer_rest k).cuts 1001) (execK (cx_lex_lexer_rest k) k (at_ [1, 0, 0, 0] code_lex_lexer_rest)) n (st_lex_lexer_rest_1001 s0 s1 s2 s3 s4) (konts (cx_lex_lexer_rest k) k I [1, 0, 0] code_lex_lexer_rest (outK (cx_lex_lexer_rest k) sp_lex_lexer_rest [.tmp 2] (wrap_lex_lexer_rest K))) = L_lex_lexer_rest_1001 k  n s0 s1 s2 s3 s4 K := by
  intro n
  induction n with
  | zero => intros; rfl
  | succ n ih =>
    intro s0 s1 s2 s3 s4
    let I' : Nat → St → Option R := fun id s => bif Nat.beq id 1001 then iter (cx_lex_lexer_rest k).pv (look (cx_lex_lexer_rest k).cuts 1001) (execK (cx_lex_lexer_rest k) k (at_ [1, 0, 0, 0] code_lex_lexer_rest)) n s (konts (cx_lex_lexer_rest k) k I [1, 0, 0] code_lex_lexer_rest (outK (cx_lex_lexer_rest k) sp_lex_lexer_rest [.tmp 2] (wrap_lex_lexer_rest K))) else I id s
    have e := B_lex_lexer_rest_1001_eq k I' s0 s1 s2 s3 s4 K
    have h1001 : (fun s0 s1 s2 s3 s4 => I' 1001 (st_lex_lexer_rest_1001 s0 s1 s2 s3 s4)) = (fun s0 s1 s2 s3 s4 => L_lex_lexer_rest_1001 k  n s0 s1 s2 s3 s4 K) := by funext s0 s1 s2 s3 s4; exact ih s0 s1 s2 s3 s4
    refine Eq.trans (?_ : _ = _) (e.trans (Eq.trans ((congrArg ((fun E1001 => B_lex_lexer_rest_1001 k E1001 s0 s1 s2 s3 s4 K)) h1001)) (by rw [L_lex_lexer_rest_1001])))
    rfl
noncomputable def F_lex_lexer_rest (k : Nat) {R : Type} (x0 : Int) (x1 : Int) (x2 : (List UInt8)) (x3 : Int) (x4 : (List (Int × (Int × (Int × ((List UInt8) × Bool)))))) (K : KT_lex_lexer_rest R) : Option R := A_lex_lexer_rest k (fun s0 s1 s2 s3 s4 => L_lex_lexer_rest_1001 k k s0 s1 s2 s3 s4 K) x0 x1 x2 x3 x4 K
theorem F_lex_lexer_rest_eq (k : Nat) {R : Type} (x0 : Int) (x1 : Int) (x2 : (List UInt8)) (x3 : Int) (x4 : (List (Int × (Int × (Int × ((List UInt8) × Bool)))))) (K : KT_lex_lexer_rest R) : fnK (cx_lex_lexer_rest k) k code_lex_lexer_rest 44 [.tmp 2] sp_lex_lexer_rest [.ptr 1 0] [(21, .row 25 (.pr (.int .i64) (.pr (.int .i64) (.pr (.int .i64) (.pr .str .bool)))) x4), (1, .var 111 [.v (.int .i64) x0, .v (.int .i64) x1, .v .str x2, .v (.int .i64) x3, .row 21])] (wrap_lex_lexer_rest K) = F_lex_lexer_rest k x0 x1 x2 x3 x4 K := by
  let I : Nat → St → Option R := fun _ _ => none
  have h1001 : (fun s0 s1 s2 s3 s4 => iter (cx_lex_lexer_rest k).pv (look (cx_lex_lexer_rest k).cuts 1001) (execK (cx_lex_lexer_rest k) k (at_ [1, 0, 0, 0] code_lex_lexer_rest)) k (st_lex_lexer_rest_1001 s0 s1 s2 s3 s4) (konts (cx_lex_lexer_rest k) k I [1, 0, 0] code_lex_lexer_rest (outK (cx_lex_lexer_rest k) sp_lex_lexer_rest [.tmp 2] (wrap_lex_lexer_rest K)))) = (fun s0 s1 s2 s3 s4 => L_lex_lexer_rest_1001 k k s0 s1 s2 s3 s4 K) := by funext s0 s1 s2 s3 s4; exact L_lex_lexer_rest_1001_eq k I K k s0 s1 s2 s3 s4
  exact (A_lex_lexer_rest_eq k I x0 x1 x2 x3 x4 K).trans (congrArg ((fun E1001 => A_lex_lexer_rest k E1001 x0 x1 x2 x3 x4 K)) h1001)
noncomputable def run_lex_lexer_rest (k : Nat) {R : Type} : List PV → List (Nm × HObj) → (Out → Option R) → Option R
  | [.ptr 1 0], [(21, .row 25 (.pr (.int .i64) (.pr (.int .i64) (.pr (.int .i64) (.pr .str .bool)))) x4), (1, .var 111 [.v (.int .i64) x0, .v (.int .i64) x1, .v .str x2, .v (.int .i64) x3, .row 21])], K => F_lex_lexer_rest k x0 x1 x2 x3 x4 (fun y0 y1 y2 y3 y4 y5 => K (.ret [.v .str y5] [(21, .row 25 (.pr (.int .i64) (.pr (.int .i64) (.pr (.int .i64) (.pr .str .bool)))) y4), (1, .var 111 [.v (.int .i64) y0, .v (.int .i64) y1, .v .str y2, .v (.int .i64) y3, .row 21])]))
  | _, _, _ => none
theorem C_lex_lexer_rest_ok (k : Nat) : (C_lex_lexer_rest k).Ok Tryd.prog := by
  intro f ps hp R K r h
  unfold C_lex_lexer_rest at h
  simp only at h
  cases h
theorem D_lex_lexer_rest (k : Nat) {ps : List PV} {hp : List (Nm × HObj)} {R : Type} {K : Out → Option R} {r : R} (h : run_lex_lexer_rest k ps hp K = some r) : DoesTo Tryd.prog 69 ps hp fun out => K out = some r := by
  unfold run_lex_lexer_rest at h
  split at h
  · rw [← F_lex_lexer_rest_eq] at h
    have := fn_ok (P := Tryd.prog) (cx := cx_lex_lexer_rest k) (f := 69) ⟨tyT_ok, C_lex_lexer_rest_ok k, fun _ _ => rfl⟩ (by kernel_rfl) (fn := Tryd.f69) (c := code_lex_lexer_rest) (by kernel_rfl) (by kernel_rfl) (by kernel_rfl) (rs := [.tmp 2]) (by kernel_rfl) (by kernel_rfl) h
    exact this.mono fun out ho => by
      unfold wrap_lex_lexer_rest at ho
      split at ho <;> first | exact ho | cases ho
  · cases h
end Go.Proofs.YtpfbdepoammjmaaDoor.Pvm

set_option maxRecDepth 1000000
set_option maxHeartbeats 0
namespace Go.Proofs.YtpfbdepoammjmaaDoor.Pvm
open Go Go.Proofs
def sig_strings_IndexByte : List LS := [.any, .any]
noncomputable def C_strings_IndexByte (k : Nat) : CTab := ⟨fun f => bif Nat.beq f 101 then sig_slite_IndexByte else [], fun f {_} ps hp K => bif Nat.beq f 101 then run_slite_IndexByte k ps hp K else none⟩
def wrap_strings_IndexByte {R : Type} (K : (Int → Option R)) : Out → Option R
  | .ret [.v (.int .i64) y0] [] => K y0
  | _ => none
def sp_strings_IndexByte : RetSpec := ⟨[.any], [], []⟩
def cuts_strings_IndexByte : List (Nat × CutSpec) := []
def plans_strings_IndexByte : List (Nat × Plan) := []
noncomputable def cx_strings_IndexByte (k : Nat) : Ctx := ⟨tyT, cuts_strings_IndexByte, C_strings_IndexByte k, [], [], plans_strings_IndexByte, @SH⟩
noncomputable def code_strings_IndexByte : Code := Tryd.f89.body.getD .skip
noncomputable def A_strings_IndexByte (k : Nat) {R : Type}  (x0 : (List UInt8)) (x1 : Int) (K : (Int → Option R)) : Option R := (@F_slite_IndexByte k R x0 x1 (fun (y5 : Int) => (K y5)))
theorem A_strings_IndexByte_eq (k : Nat) {R : Type} (I : Nat → St → Option R) (x0 : (List UInt8)) (x1 : Int) (K : (Int → Option R)) : fnK (cx_strings_IndexByte k) k code_strings_IndexByte 8 [.tmp 4] sp_strings_IndexByte [.v .str x0, .v (.int .u8) x1] [] (wrap_strings_IndexByte K) = A_strings_IndexByte k  x0 x1 K := by kernel_rfl
noncomputable def F_strings_IndexByte (k : Nat) {R : Type} (x0 : (List UInt8)) (x1 : Int) (K : (Int → Option R)) : Option R := A_strings_IndexByte k  x0 x1 K
theorem F_strings_IndexByte_eq (k : Nat) {R : Type} (x0 : (List UInt8)) (x1 : Int) (K : (Int → Option R)) : fnK (cx_strings_IndexByte k) k code_strings_IndexByte 8 [.tmp 4] sp_strings_IndexByte [.v .str x0, .v (.int .u8) x1] [] (wrap_strings_IndexByte K) = F_strings_IndexByte k x0 x1 K := by
  exact A_strings_IndexByte_eq k (fun _ _ => none) x0 x1 K
noncomputable def run_strings_IndexByte (k : Nat) {R : Type} : List PV → List (Nm × HObj) → (Out → Option R) → Option R
  | [.v .str x0, .v (.int .u8) x1], [], K => F_strings_IndexByte k x0 x1 (fun y0 => K (.ret [.v (.int .i64) y0] []))
  | _, _, _ => none
theorem C_strings_IndexByte_ok (k : Nat) : (C_strings_IndexByte k).Ok Tryd.prog := by
  intro f ps hp R K r h
  unfold C_strings_IndexByte at h
  simp only at h
  cases hb101 : Nat.beq f 101 with
  | true => rw [hb101, cond_true] at h; rw [Nat.eq_of_beq_eq_true hb101]; exact D_slite_IndexByte k h
  | false =>
  rw [hb101, cond_false] at h
  cases h
theorem D_strings_IndexByte (k : Nat) {ps : List PV} {hp : List (Nm × HObj)} {R : Type} {K : Out → Option R} {r : R} (h : run_strings_IndexByte k ps hp K = some r) : DoesTo Tryd.prog 89 ps hp fun out => K out = some r := by
  unfold run_strings_IndexByte at h
  split at h
  · rw [← F_strings_IndexByte_eq] at h
    have := fn_ok (P := Tryd.prog) (cx := cx_strings_IndexByte k) (f := 89) ⟨tyT_ok, C_strings_IndexByte_ok k, fun _ _ => rfl⟩ (by kernel_rfl) (fn := Tryd.f89) (c := code_strings_IndexByte) (by kernel_rfl) (by kernel_rfl) (by kernel_rfl) (rs := [.tmp 4]) (by kernel_rfl) (by kernel_rfl) h
    exact this.mono fun out ho => by
      unfold wrap_strings_IndexByte at ho
      split at ho <;> first | exact ho | cases ho
  · cases h
end Go.Proofs.YtpfbdepoammjmaaDoor.Pvm
