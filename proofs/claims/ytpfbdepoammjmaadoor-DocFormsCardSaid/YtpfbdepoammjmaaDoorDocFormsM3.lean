/- The Go function DocForms answers true for every number, on any machine and under any order of evaluation that Go allows; with no condition besides the statement's own, the card's own ties to the pruned copy of the project included. -/
import Derived.Test.YtpfbdepoammjmaaDoorChecked
import Derived.WalkKit
import Derived.WalkSpells
import Derived.WalkLawsBesides
import Derived.Lib.Builder
import Derived.Lib.AppendStr
import Derived.Lib.UnsafeStr
import Derived.Laws.Externs
import Derived.Shelf.RegionOpenPlain
import Derived.Deep.Heap
import Derived.Lib.BytesEntry
import Derived.Lib.Bytealg
import Derived.Shelf.GgClosure.StringsIndexFuncTop
import Derived.Shelf.Strings.FuncGrows
import Derived.Test.YtpfbdepoammjmaaDoorDocFormsM0
import Derived.Test.YtpfbdepoammjmaaDoorDocFormsM1
import Derived.Test.YtpfbdepoammjmaaDoorDocFormsM2
set_option linter.unusedVariables false
set_option linter.unusedSimpArgs false
set_option linter.unusedSectionVars false
set_option maxRecDepth 1000000
set_option maxHeartbeats 0
namespace Go.Proofs.YtpfbdepoammjmaaDoor.Pvm
open Go Go.Proofs
def sig_lex_lexer_taken : List LS := [.obj 1 [.any, .any, .any, .any, .own 21 25 (.pr (.int .i64) (.pr (.int .i64) (.pr (.int .i64) (.pr .str .bool))))], .any]
noncomputable def C_lex_lexer_taken (k : Nat) : CTab := ⟨fun f => bif Nat.beq f 68 then sig_lex_lexer_gives else bif Nat.beq f 89 then sig_strings_IndexByte else [], fun f {_} ps hp K => bif Nat.beq f 68 then run_lex_lexer_gives k ps hp K else bif Nat.beq f 89 then run_strings_IndexByte k ps hp K else none⟩
def wrap_lex_lexer_taken {R : Type} (K : (Int → Int → (List UInt8) → Int → (List (Int × (Int × (Int × ((List UInt8) × Bool))))) → Int → Int → Option R)) (E : (Int → Int → (List UInt8) → Int → (List (Int × (Int × (Int × ((List UInt8) × Bool))))) → Int → Int → Option R)) : Out → Option R
  | .ret [.v (.int .u8) y5, .v (.int .i64) y6] [(21, .row 25 (.pr (.int .i64) (.pr (.int .i64) (.pr (.int .i64) (.pr .str .bool)))) y4), (1, .var 111 [.v (.int .i64) y0, .v (.int .i64) y1, .v .str y2, .v (.int .i64) y3, .row 21])] => K y0 y1 y2 y3 y4 y5 y6
  | .pan (.ifc 30 (.agg [.v (.int .i64) z5, .v (.int .i64) z6])) [(21, .row 25 (.pr (.int .i64) (.pr (.int .i64) (.pr (.int .i64) (.pr .str .bool)))) z4), (1, .var 111 [.v (.int .i64) z0, .v (.int .i64) z1, .v .str z2, .v (.int .i64) z3, .row 21])] => E z0 z1 z2 z3 z4 z5 z6
  | _ => none
def sp_lex_lexer_taken : RetSpec := ⟨[.any, .any], [(1, .obj 1 [.any, .any, .any, .any, .own 21 25 (.pr (.int .i64) (.pr (.int .i64) (.pr (.int .i64) (.pr .str .bool))))])], [(1, .obj 1 [.any, .any, .any, .any, .own 21 25 (.pr (.int .i64) (.pr (.int .i64) (.pr (.int .i64) (.pr .str .bool))))])]⟩
def cuts_lex_lexer_taken : List (Nat × CutSpec) := []
def plans_lex_lexer_taken : List (Nat × Plan) := [(14, (.of [(0, 1), (1, 1), (3, 1), (4, 1), (2, 0), (5, 0), (6, 1), (7, 1)] .done))]
noncomputable def cx_lex_lexer_taken (k : Nat) : Ctx := ⟨tyT, cuts_lex_lexer_taken, C_lex_lexer_taken k, [], [1], plans_lex_lexer_taken, @SH⟩
noncomputable def code_lex_lexer_taken : Code := Tryd.f100.body.getD .skip
noncomputable def A_lex_lexer_taken (k : Nat) {R : Type}  (x0 : Int) (x1 : Int) (x2 : (List UInt8)) (x3 : Int) (x4 : (List (Int × (Int × (Int × ((List UInt8) × Bool)))))) (x5 : (List UInt8)) (K : (Int → Int → (List UInt8) → Int → (List (Int × (Int × (Int × ((List UInt8) × Bool))))) → Int → Int → Option R)) (E : (Int → Int → (List UInt8) → Int → (List (Int × (Int × (Int × ((List UInt8) × Bool))))) → Int → Int → Option R)) : Option R := (@cond (@Option R) (@BEq.beq (@List UInt8) (@List.instBEq UInt8 (@instBEqOfDecidableEq UInt8 @instDecidableEqUInt8)) x5 (@Array.toList UInt8 (@ByteArray.data (@ByteArray.mk (@List.toArray UInt8 []))))) (@F_lex_lexer_gives k R x0 x1 x2 x3 x4 (3 : Int) (fun (y10 : Int) => (fun (y11 : Int) => (fun (y12 : (@List UInt8)) => (fun (y13 : Int) => (fun (y14 : (@List (@Prod Int (@Prod Int (@Prod Int (@Prod (@List UInt8) Bool)))))) => (@cond (@Option R) (@inb (0 : Int) (@Nat.cast Int instNatCastInt (@List.length UInt8 x5))) (@cond (@Option R) (@BEq.beq Int (@instBEqOfDecidableEq Int @Int.instDecidableEq) (@Nat.cast Int instNatCastInt (@UInt8.toNat (@List.getD UInt8 x5 (@Int.toNat (0 : Int)) (0 : UInt8)))) (92 : Int)) (@cond (@Option R) (@inb (0 : Int) (@Nat.cast Int instNatCastInt (@List.length UInt8 x5))) (K y10 y11 y12 y13 y14 (@Nat.cast Int instNatCastInt (@UInt8.toNat (@List.getD UInt8 x5 (@Int.toNat (0 : Int)) (0 : UInt8)))) (1 : Int)) (@Option.none R)) (@cond (@Option R) (@BEq.beq Int (@instBEqOfDecidableEq Int @Int.instDecidableEq) (@Nat.cast Int instNatCastInt (@UInt8.toNat (@List.getD UInt8 x5 (@Int.toNat (0 : Int)) (0 : UInt8)))) (34 : Int)) (@cond (@Option R) (@inb (0 : Int) (@Nat.cast Int instNatCastInt (@List.length UInt8 x5))) (K y10 y11 y12 y13 y14 (@Nat.cast Int instNatCastInt (@UInt8.toNat (@List.getD UInt8 x5 (@Int.toNat (0 : Int)) (0 : UInt8)))) (1 : Int)) (@Option.none R)) (@cond (@Option R) (@BEq.beq Int (@instBEqOfDecidableEq Int @Int.instDecidableEq) (@Nat.cast Int instNatCastInt (@UInt8.toNat (@List.getD UInt8 x5 (@Int.toNat (0 : Int)) (0 : UInt8)))) (110 : Int)) (K y10 y11 y12 y13 y14 (10 : Int) (1 : Int)) (@cond (@Option R) (@BEq.beq Int (@instBEqOfDecidableEq Int @Int.instDecidableEq) (@Nat.cast Int instNatCastInt (@UInt8.toNat (@List.getD UInt8 x5 (@Int.toNat (0 : Int)) (0 : UInt8)))) (116 : Int)) (K y10 y11 y12 y13 y14 (9 : Int) (1 : Int)) (@cond (@Option R) (@BEq.beq Int (@instBEqOfDecidableEq Int @Int.instDecidableEq) (@Nat.cast Int instNatCastInt (@UInt8.toNat (@List.getD UInt8 x5 (@Int.toNat (0 : Int)) (0 : UInt8)))) (120 : Int)) (@cond (@Option R) (@Decidable.decide (@LT.lt Int Int.instLTInt (@Nat.cast Int instNatCastInt (@List.length UInt8 x5)) (3 : Int)) (@Int.decLt (@Nat.cast Int instNatCastInt (@List.length UInt8 x5)) (3 : Int))) (@F_lex_lexer_gives k R y10 y11 y12 y13 y14 (3 : Int) (fun (y15 : Int) => (fun (y16 : Int) => (fun (y17 : (@List UInt8)) => (fun (y18 : Int) => (fun (y19 : (@List (@Prod Int (@Prod Int (@Prod Int (@Prod (@List UInt8) Bool)))))) => (@cond (@Option R) (@inb (1 : Int) (@Nat.cast Int instNatCastInt (@List.length UInt8 x5))) (@cond (@Option R) (@inb (2 : Int) (@Nat.cast Int instNatCastInt (@List.length UInt8 x5))) (@F_strings_IndexByte k R (@Array.toList UInt8 (@ByteArray.data (@ByteArray.mk (@List.toArray UInt8 ((48 : UInt8) :: ((49 : UInt8) :: ((50 : UInt8) :: ((51 : UInt8) :: ((52 : UInt8) :: ((53 : UInt8) :: ((54 : UInt8) :: ((55 : UInt8) :: ((56 : UInt8) :: ((57 : UInt8) :: ((97 : UInt8) :: ((98 : UInt8) :: ((99 : UInt8) :: ((100 : UInt8) :: ((101 : UInt8) :: ((102 : UInt8) :: [])))))))))))))))))))) (@Nat.cast Int instNatCastInt (@UInt8.toNat (@List.getD UInt8 x5 (@Int.toNat (1 : Int)) (0 : UInt8)))) (fun (y20 : Int) => (@F_strings_IndexByte k R (@Array.toList UInt8 (@ByteArray.data (@ByteArray.mk (@List.toArray UInt8 ((48 : UInt8) :: ((49 : UInt8) :: ((50 : UInt8) :: ((51 : UInt8) :: ((52 : UInt8) :: ((53 : UInt8) :: ((54 : UInt8) :: ((55 : UInt8) :: ((56 : UInt8) :: ((57 : UInt8) :: ((97 : UInt8) :: ((98 : UInt8) :: ((99 : UInt8) :: ((100 : UInt8) :: ((101 : UInt8) :: ((102 : UInt8) :: [])))))))))))))))))))) (@Nat.cast Int instNatCastInt (@UInt8.toNat (@List.getD UInt8 x5 (@Int.toNat (2 : Int)) (0 : UInt8)))) (fun (y21 : Int) => (@cond (@Option R) (@cond (@Kd.T Kd.bool) (@Decidable.decide (@LT.lt Int Int.instLTInt y20 (0 : Int)) (@Int.decLt y20 (0 : Int))) Bool.true (@Decidable.decide (@LT.lt Int Int.instLTInt y21 (0 : Int)) (@Int.decLt y21 (0 : Int)))) (@F_lex_lexer_gives k R y15 y16 y17 y18 y19 (3 : Int) (fun (y22 : Int) => (fun (y23 : Int) => (fun (y24 : (@List UInt8)) => (fun (y25 : Int) => (fun (y26 : (@List (@Prod Int (@Prod Int (@Prod Int (@Prod (@List UInt8) Bool)))))) => (K y22 y23 y24 y25 y26 (@Go.IntKind.wrap Go.IntKind.u8 (@Go.IntKind.wrap Go.IntKind.i64 (@HAdd.hAdd Int Int Int (@instHAdd Int @Int.instAdd) (@Go.IntKind.wrap Go.IntKind.i64 (@HMul.hMul Int Int Int (@instHMul Int @Int.instMul) (16 : Int) y20)) y21))) (3 : Int))))))) (fun (y22 : Int) => (fun (y23 : Int) => (fun (y24 : (@List UInt8)) => (fun (y25 : Int) => (fun (y26 : (@List (@Prod Int (@Prod Int (@Prod Int (@Prod (@List UInt8) Bool)))))) => (fun (y27 : Int) => (fun (y28 : Int) => (E y22 y23 y24 y25 y26 y27 y28))))))))) (K y15 y16 y17 y18 y19 (@Go.IntKind.wrap Go.IntKind.u8 (@Go.IntKind.wrap Go.IntKind.i64 (@HAdd.hAdd Int Int Int (@instHAdd Int @Int.instAdd) (@Go.IntKind.wrap Go.IntKind.i64 (@HMul.hMul Int Int Int (@instHMul Int @Int.instMul) (16 : Int) y20)) y21))) (3 : Int))))))) (@Option.none R)) (@Option.none R))))))) (fun (y15 : Int) => (fun (y16 : Int) => (fun (y17 : (@List UInt8)) => (fun (y18 : Int) => (fun (y19 : (@List (@Prod Int (@Prod Int (@Prod Int (@Prod (@List UInt8) Bool)))))) => (fun (y20 : Int) => (fun (y21 : Int) => (E y15 y16 y17 y18 y19 y20 y21))))))))) (@cond (@Option R) (@inb (1 : Int) (@Nat.cast Int instNatCastInt (@List.length UInt8 x5))) (@cond (@Option R) (@inb (2 : Int) (@Nat.cast Int instNatCastInt (@List.length UInt8 x5))) (@F_strings_IndexByte k R (@Array.toList UInt8 (@ByteArray.data (@ByteArray.mk (@List.toArray UInt8 ((48 : UInt8) :: ((49 : UInt8) :: ((50 : UInt8) :: ((51 : UInt8) :: ((52 : UInt8) :: ((53 : UInt8) :: ((54 : UInt8) :: ((55 : UInt8) :: ((56 : UInt8) :: ((57 : UInt8) :: ((97 : UInt8) :: ((98 : UInt8) :: ((99 : UInt8) :: ((100 : UInt8) :: ((101 : UInt8) :: ((102 : UInt8) :: [])))))))))))))))))))) (@Nat.cast Int instNatCastInt (@UInt8.toNat (@List.getD UInt8 x5 (@Int.toNat (1 : Int)) (0 : UInt8)))) (fun (y15 : Int) => (@F_strings_IndexByte k R (@Array.toList UInt8 (@ByteArray.data (@ByteArray.mk (@List.toArray UInt8 ((48 : UInt8) :: ((49 : UInt8) :: ((50 : UInt8) :: ((51 : UInt8) :: ((52 : UInt8) :: ((53 : UInt8) :: ((54 : UInt8) :: ((55 : UInt8) :: ((56 : UInt8) :: ((57 : UInt8) :: ((97 : UInt8) :: ((98 : UInt8) :: ((99 : UInt8) :: ((100 : UInt8) :: ((101 : UInt8) :: ((102 : UInt8) :: [])))))))))))))))))))) (@Nat.cast Int instNatCastInt (@UInt8.toNat (@List.getD UInt8 x5 (@Int.toNat (2 : Int)) (0 : UInt8)))) (fun (y16 : Int) => (@cond (@Option R) (@cond (@Kd.T Kd.bool) (@Decidable.decide (@LT.lt Int Int.instLTInt y15 (0 : Int)) (@Int.decLt y15 (0 : Int))) Bool.true (@Decidable.decide (@LT.lt Int Int.instLTInt y16 (0 : Int)) (@Int.decLt y16 (0 : Int)))) (@F_lex_lexer_gives k R y10 y11 y12 y13 y14 (3 : Int) (fun (y17 : Int) => (fun (y18 : Int) => (fun (y19 : (@List UInt8)) => (fun (y20 : Int) => (fun (y21 : (@List (@Prod Int (@Prod Int (@Prod Int (@Prod (@List UInt8) Bool)))))) => (K y17 y18 y19 y20 y21 (@Go.IntKind.wrap Go.IntKind.u8 (@Go.IntKind.wrap Go.IntKind.i64 (@HAdd.hAdd Int Int Int (@instHAdd Int @Int.instAdd) (@Go.IntKind.wrap Go.IntKind.i64 (@HMul.hMul Int Int Int (@instHMul Int @Int.instMul) (16 : Int) y15)) y16))) (3 : Int))))))) (fun (y17 : Int) => (fun (y18 : Int) => (fun (y19 : (@List UInt8)) => (fun (y20 : Int) => (fun (y21 : (@List (@Prod Int (@Prod Int (@Prod Int (@Prod (@List UInt8) Bool)))))) => (fun (y22 : Int) => (fun (y23 : Int) => (E y17 y18 y19 y20 y21 y22 y23))))))))) (K y10 y11 y12 y13 y14 (@Go.IntKind.wrap Go.IntKind.u8 (@Go.IntKind.wrap Go.IntKind.i64 (@HAdd.hAdd Int Int Int (@instHAdd Int @Int.instAdd) (@Go.IntKind.wrap Go.IntKind.i64 (@HMul.hMul Int Int Int (@instHMul Int @Int.instMul) (16 : Int) y15)) y16))) (3 : Int))))))) (@Option.none R)) (@Option.none R))) (@F_lex_lexer_gives k R y10 y11 y12 y13 y14 (3 : Int) (fun (y15 : Int) => (fun (y16 : Int) => (fun (y17 : (@List UInt8)) => (fun (y18 : Int) => (fun (y19 : (@List (@Prod Int (@Prod Int (@Prod Int (@Prod (@List UInt8) Bool)))))) => (K y15 y16 y17 y18 y19 (0 : Int) (0 : Int))))))) (fun (y15 : Int) => (fun (y16 : Int) => (fun (y17 : (@List UInt8)) => (fun (y18 : Int) => (fun (y19 : (@List (@Prod Int (@Prod Int (@Prod Int (@Prod (@List UInt8) Bool)))))) => (fun (y20 : Int) => (fun (y21 : Int) => (E y15 y16 y17 y18 y19 y20 y21)))))))))))))) (@Option.none R))))))) (fun (y10 : Int) => (fun (y11 : Int) => (fun (y12 : (@List UInt8)) => (fun (y13 : Int) => (fun (y14 : (@List (@Prod Int (@Prod Int (@Prod Int (@Prod (@List UInt8) Bool)))))) => (fun (y15 : Int) => (fun (y16 : Int) => (E y10 y11 y12 y13 y14 y15 y16))))))))) (@cond (@Option R) (@inb (0 : Int) (@Nat.cast Int instNatCastInt (@List.length UInt8 x5))) (@cond (@Option R) (@BEq.beq Int (@instBEqOfDecidableEq Int @Int.instDecidableEq) (@Nat.cast Int instNatCastInt (@UInt8.toNat (@List.getD UInt8 x5 (@Int.toNat (0 : Int)) (0 : UInt8)))) (92 : Int)) (@cond (@Option R) (@inb (0 : Int) (@Nat.cast Int instNatCastInt (@List.length UInt8 x5))) (K x0 x1 x2 x3 x4 (@Nat.cast Int instNatCastInt (@UInt8.toNat (@List.getD UInt8 x5 (@Int.toNat (0 : Int)) (0 : UInt8)))) (1 : Int)) (@Option.none R)) (@cond (@Option R) (@BEq.beq Int (@instBEqOfDecidableEq Int @Int.instDecidableEq) (@Nat.cast Int instNatCastInt (@UInt8.toNat (@List.getD UInt8 x5 (@Int.toNat (0 : Int)) (0 : UInt8)))) (34 : Int)) (@cond (@Option R) (@inb (0 : Int) (@Nat.cast Int instNatCastInt (@List.length UInt8 x5))) (K x0 x1 x2 x3 x4 (@Nat.cast Int instNatCastInt (@UInt8.toNat (@List.getD UInt8 x5 (@Int.toNat (0 : Int)) (0 : UInt8)))) (1 : Int)) (@Option.none R)) (@cond (@Option R) (@BEq.beq Int (@instBEqOfDecidableEq Int @Int.instDecidableEq) (@Nat.cast Int instNatCastInt (@UInt8.toNat (@List.getD UInt8 x5 (@Int.toNat (0 : Int)) (0 : UInt8)))) (110 : Int)) (K x0 x1 x2 x3 x4 (10 : Int) (1 : Int)) (@cond (@Option R) (@BEq.beq Int (@instBEqOfDecidableEq Int @Int.instDecidableEq) (@Nat.cast Int instNatCastInt (@UInt8.toNat (@List.getD UInt8 x5 (@Int.toNat (0 : Int)) (0 : UInt8)))) (116 : Int)) (K x0 x1 x2 x3 x4 (9 : Int) (1 : Int)) (@cond (@Option R) (@BEq.beq Int (@instBEqOfDecidableEq Int @Int.instDecidableEq) (@Nat.cast Int instNatCastInt (@UInt8.toNat (@List.getD UInt8 x5 (@Int.toNat (0 : Int)) (0 : UInt8)))) (120 : Int)) (@cond (@Option R) (@Decidable.decide (@LT.lt Int Int.instLTInt (@Nat.cast Int instNatCastInt (@List.length UInt8 x5)) (3 : Int)) (@Int.decLt (@Nat.cast Int instNatCastInt (@List.length UInt8 x5)) (3 : Int))) (@F_lex_lexer_gives k R x0 x1 x2 x3 x4 (3 : Int) (fun (y10 : Int) => (fun (y11 : Int) => (fun (y12 : (@List UInt8)) => (fun (y13 : Int) => (fun (y14 : (@List (@Prod Int (@Prod Int (@Prod Int (@Prod (@List UInt8) Bool)))))) => (@cond (@Option R) (@inb (1 : Int) (@Nat.cast Int instNatCastInt (@List.length UInt8 x5))) (@cond (@Option R) (@inb (2 : Int) (@Nat.cast Int instNatCastInt (@List.length UInt8 x5))) (@F_strings_IndexByte k R (@Array.toList UInt8 (@ByteArray.data (@ByteArray.mk (@List.toArray UInt8 ((48 : UInt8) :: ((49 : UInt8) :: ((50 : UInt8) :: ((51 : UInt8) :: ((52 : UInt8) :: ((53 : UInt8) :: ((54 : UInt8) :: ((55 : UInt8) :: ((56 : UInt8) :: ((57 : UInt8) :: ((97 : UInt8) :: ((98 : UInt8) :: ((99 : UInt8) :: ((100 : UInt8) :: ((101 : UInt8) :: ((102 : UInt8) :: [])))))))))))))))))))) (@Nat.cast Int instNatCastInt (@UInt8.toNat (@List.getD UInt8 x5 (@Int.toNat (1 : Int)) (0 : UInt8)))) (fun (y15 : Int) => (@F_strings_IndexByte k R (@Array.toList UInt8 (@ByteArray.data (@ByteArray.mk (@List.toArray UInt8 ((48 : UInt8) :: ((49 : UInt8) :: ((50 : UInt8) :: ((51 : UInt8) :: ((52 : UInt8) :: ((53 : UInt8) :: ((54 : UInt8) :: ((55 : UInt8) :: ((56 : UInt8) :: ((57 : UInt8) :: ((97 : UInt8) :: ((98 : UInt8) :: ((99 : UInt8) :: ((100 : UInt8) :: ((101 : UInt8) :: ((102 : UInt8) :: [])))))))))))))))))))) (@Nat.cast Int instNatCastInt (@UInt8.toNat (@List.getD UInt8 x5 (@Int.toNat (2 : Int)) (0 : UInt8)))) (fun (y16 : Int) => (@cond (@Option R) (@cond (@Kd.T Kd.bool) (@Decidable.decide (@LT.lt Int Int.instLTInt y15 (0 : Int)) (@Int.decLt y15 (0 : Int))) Bool.true (@Decidable.decide (@LT.lt Int Int.instLTInt y16 (0 : Int)) (@Int.decLt y16 (0 : Int)))) (@F_lex_lexer_gives k R y10 y11 y12 y13 y14 (3 : Int) (fun (y17 : Int) => (fun (y18 : Int) => (fun (y19 : (@List UInt8)) => (fun (y20 : Int) => (fun (y21 : (@List (@Prod Int (@Prod Int (@Prod Int (@Prod (@List UInt8) Bool)))))) => (K y17 y18 y19 y20 y21 (@Go.IntKind.wrap Go.IntKind.u8 (@Go.IntKind.wrap Go.IntKind.i64 (@HAdd.hAdd Int Int Int (@instHAdd Int @Int.instAdd) (@Go.IntKind.wrap Go.IntKind.i64 (@HMul.hMul Int Int Int (@instHMul Int @Int.instMul) (16 : Int) y15)) y16))) (3 : Int))))))) (fun (y17 : Int) => (fun (y18 : Int) => (fun (y19 : (@List UInt8)) => (fun (y20 : Int) => (fun (y21 : (@List (@Prod Int (@Prod Int (@Prod Int (@Prod (@List UInt8) Bool)))))) => (fun (y22 : Int) => (fun (y23 : Int) => (E y17 y18 y19 y20 y21 y22 y23))))))))) (K y10 y11 y12 y13 y14 (@Go.IntKind.wrap Go.IntKind.u8 (@Go.IntKind.wrap Go.IntKind.i64 (@HAdd.hAdd Int Int Int (@instHAdd Int @Int.instAdd) (@Go.IntKind.wrap Go.IntKind.i64 (@HMul.hMul Int Int Int (@instHMul Int @Int.instMul) (16 : Int) y15)) y16))) (3 : Int))))))) (@Option.none R)) (@Option.none R))))))) (fun (y10 : Int) => (fun (y11 : Int) => (fun (y12 : (@List UInt8)) => (fun (y13 : Int) => (fun (y14 : (@List (@Prod Int (@Prod Int (@Prod Int (@Prod (@List UInt8) Bool)))))) => (fun (y15 : Int) => (fun (y16 : Int) => (E y10 y11 y12 y13 y14 y15 y16))))))))) (@cond (@Option R) (@inb (1 : Int) (@Nat.cast Int instNatCastInt (@List.length UInt8 x5))) (@cond (@Option R) (@inb (2 : Int) (@Nat.cast Int instNatCastInt (@List.length UInt8 x5))) (@F_strings_IndexByte k R (@Array.toList UInt8 (@ByteArray.data (@ByteArray.mk (@List.toArray UInt8 ((48 : UInt8) :: ((49 : UInt8) :: ((50 : UInt8) :: ((51 : UInt8) :: ((52 : UInt8) :: ((53 : UInt8) :: ((54 : UInt8) :: ((55 : UInt8) :: ((56 : UInt8) :: ((57 : UInt8) :: ((97 : UInt8) :: ((98 : UInt8) :: ((99 : UInt8) :: ((100 : UInt8) :: ((101 : UInt8) :: ((102 : UInt8) :: [])))))))))))))))))))) (@Nat.cast Int instNatCastInt (@UInt8.toNat (@List.getD UInt8 x5 (@Int.toNat (1 : Int)) (0 : UInt8)))) (fun (y10 : Int) => (@F_strings_IndexByte k R (@Array.toList UInt8 (@ByteArray.data (@ByteArray.mk (@List.toArray UInt8 ((48 : UInt8) :: ((49 : UInt8) :: ((50 : UInt8) :: ((51 : UInt8) :: ((52 : UInt8) :: ((53 : UInt8) :: ((54 : UInt8) :: ((55 : UInt8) :: ((56 : UInt8) :: ((57 : UInt8) :: ((97 : UInt8) :: ((98 : UInt8) :: ((99 : UInt8) :: ((100 : UInt8) :: ((101 : UInt8) :: ((102 : UInt8) :: [])))))))))))))))))))) (@Nat.cast Int instNatCastInt (@UInt8.toNat (@List.getD UInt8 x5 (@Int.toNat (2 : Int)) (0 : UInt8)))) (fun (y11 : Int) => (@cond (@Option R) (@cond (@Kd.T Kd.bool) (@Decidable.decide (@LT.lt Int Int.instLTInt y10 (0 : Int)) (@Int.decLt y10 (0 : Int))) Bool.true (@Decidable.decide (@LT.lt Int Int.instLTInt y11 (0 : Int)) (@Int.decLt y11 (0 : Int)))) (@F_lex_lexer_gives k R x0 x1 x2 x3 x4 (3 : Int) (fun (y12 : Int) => (fun (y13 : Int) => (fun (y14 : (@List UInt8)) => (fun (y15 : Int) => (fun (y16 : (@List (@Prod Int (@Prod Int (@Prod Int (@Prod (@List UInt8) Bool)))))) => (K y12 y13 y14 y15 y16 (@Go.IntKind.wrap Go.IntKind.u8 (@Go.IntKind.wrap Go.IntKind.i64 (@HAdd.hAdd Int Int Int (@instHAdd Int @Int.instAdd) (@Go.IntKind.wrap Go.IntKind.i64 (@HMul.hMul Int Int Int (@instHMul Int @Int.instMul) (16 : Int) y10)) y11))) (3 : Int))))))) (fun (y12 : Int) => (fun (y13 : Int) => (fun (y14 : (@List UInt8)) => (fun (y15 : Int) => (fun (y16 : (@List (@Prod Int (@Prod Int (@Prod Int (@Prod (@List UInt8) Bool)))))) => (fun (y17 : Int) => (fun (y18 : Int) => (E y12 y13 y14 y15 y16 y17 y18))))))))) (K x0 x1 x2 x3 x4 (@Go.IntKind.wrap Go.IntKind.u8 (@Go.IntKind.wrap Go.IntKind.i64 (@HAdd.hAdd Int Int Int (@instHAdd Int @Int.instAdd) (@Go.IntKind.wrap Go.IntKind.i64 (@HMul.hMul Int Int Int (@instHMul Int @Int.instMul) (16 : Int) y10)) y11))) (3 : Int))))))) (@Option.none R)) (@Option.none R))) (@F_lex_lexer_gives k R x0 x1 x2 x3 x4 (3 : Int) (fun (y10 : Int) => (fun (y11 : Int) => (fun (y12 : (@List UInt8)) => (fun (y13 : Int) => (fun (y14 : (@List (@Prod Int (@Prod Int (@Prod Int (@Prod (@List UInt8) Bool)))))) => (K y10 y11 y12 y13 y14 (0 : Int) (0 : Int))))))) (fun (y10 : Int) => (fun (y11 : Int) => (fun (y12 : (@List UInt8)) => (fun (y13 : Int) => (fun (y14 : (@List (@Prod Int (@Prod Int (@Prod Int (@Prod (@List UInt8) Bool)))))) => (fun (y15 : Int) => (fun (y16 : Int) => (E y10 y11 y12 y13 y14 y15 y16)))))))))))))) (@Option.none R)))
theorem A_lex_lexer_taken_eq (k : Nat) {R : Type} (I : Nat → St → Option R) (x0 : Int) (x1 : Int) (x2 : (List UInt8)) (x3 : Int) (x4 : (List (Int × (Int × (Int × ((List UInt8) × Bool)))))) (x5 : (List UInt8)) (K : (Int → Int → (List UInt8) → Int → (List (Int × (Int × (Int × ((List UInt8) × Bool))))) → Int → Int → Option R)) (E : (Int → Int → (List UInt8) → Int → (List (Int × (Int × (Int × ((List UInt8) × Bool))))) → Int → Int → Option R)) : fnK (cx_lex_lexer_taken k) k code_lex_lexer_taken 51 [.tmp 4, .tmp 5] sp_lex_lexer_taken [.ptr 1 0, .v .str x5] [(21, .row 25 (.pr (.int .i64) (.pr (.int .i64) (.pr (.int .i64) (.pr .str .bool)))) x4), (1, .var 111 [.v (.int .i64) x0, .v (.int .i64) x1, .v .str x2, .v (.int .i64) x3, .row 21])] (wrap_lex_lexer_taken K E) = A_lex_lexer_taken k  x0 x1 x2 x3 x4 x5 K E := by kernel_rfl
noncomputable def F_lex_lexer_taken (k : Nat) {R : Type} (x0 : Int) (x1 : Int) (x2 : (List UInt8)) (x3 : Int) (x4 : (List (Int × (Int × (Int × ((List UInt8) × Bool)))))) (x5 : (List UInt8)) (K : (Int → Int → (List UInt8) → Int → (List (Int × (Int × (Int × ((List UInt8) × Bool))))) → Int → Int → Option R)) (E : (Int → Int → (List UInt8) → Int → (List (Int × (Int × (Int × ((List UInt8) × Bool))))) → Int → Int → Option R)) : Option R := A_lex_lexer_taken k  x0 x1 x2 x3 x4 x5 K E
theorem F_lex_lexer_taken_eq (k : Nat) {R : Type} (x0 : Int) (x1 : Int) (x2 : (List UInt8)) (x3 : Int) (x4 : (List (Int × (Int × (Int × ((List UInt8) × Bool)))))) (x5 : (List UInt8)) (K : (Int → Int → (List UInt8) → Int → (List (Int × (Int × (Int × ((List UInt8) × Bool))))) → Int → Int → Option R)) (E : (Int → Int → (List UInt8) → Int → (List (Int × (Int × (Int × ((List UInt8) × Bool))))) → Int → Int → Option R)) : fnK (cx_lex_lexer_taken k) k code_lex_lexer_taken 51 [.tmp 4, .tmp 5] sp_lex_lexer_taken [.ptr 1 0, .v .str x5] [(21, .row 25 (.pr (.int .i64) (.pr (.int .i64) (.pr (.int .i64) (.pr .str .bool)))) x4), (1, .var 111 [.v (.int .i64) x0, .v (.int .i64) x1, .v .str x2, .v (.int .i64) x3, .row 21])] (wrap_lex_lexer_taken K E) = F_lex_lexer_taken k x0 x1 x2 x3 x4 x5 K E := by
  exact A_lex_lexer_taken_eq k (fun _ _ => none) x0 x1 x2 x3 x4 x5 K E
noncomputable def run_lex_lexer_taken (k : Nat) {R : Type} : List PV → List (Nm × HObj) → (Out → Option R) → Option R
  | [.ptr 1 0, .v .str x5], [(21, .row 25 (.pr (.int .i64) (.pr (.int .i64) (.pr (.int .i64) (.pr .str .bool)))) x4), (1, .var 111 [.v (.int .i64) x0, .v (.int .i64) x1, .v .str x2, .v (.int .i64) x3, .row 21])], K => F_lex_lexer_taken k x0 x1 x2 x3 x4 x5 (fun y0 y1 y2 y3 y4 y5 y6 => K (.ret [.v (.int .u8) y5, .v (.int .i64) y6] [(21, .row 25 (.pr (.int .i64) (.pr (.int .i64) (.pr (.int .i64) (.pr .str .bool)))) y4), (1, .var 111 [.v (.int .i64) y0, .v (.int .i64) y1, .v .str y2, .v (.int .i64) y3, .row 21])])) (fun z0 z1 z2 z3 z4 z5 z6 => K (.pan (.ifc 30 (.agg [.v (.int .i64) z5, .v (.int .i64) z6])) [(21, .row 25 (.pr (.int .i64) (.pr (.int .i64) (.pr (.int .i64) (.pr .str .bool)))) z4), (1, .var 111 [.v (.int .i64) z0, .v (.int .i64) z1, .v .str z2, .v (.int .i64) z3, .row 21])]))
  | _, _, _ => none
theorem C_lex_lexer_taken_ok (k : Nat) : (C_lex_lexer_taken k).Ok Tryd.prog := by
  intro f ps hp R K r h
  unfold C_lex_lexer_taken at h
  simp only at h
  cases hb68 : Nat.beq f 68 with
  | true => rw [hb68, cond_true] at h; rw [Nat.eq_of_beq_eq_true hb68]; exact D_lex_lexer_gives k h
  | false =>
  rw [hb68, cond_false] at h
  cases hb89 : Nat.beq f 89 with
  | true => rw [hb89, cond_true] at h; rw [Nat.eq_of_beq_eq_true hb89]; exact D_strings_IndexByte k h
  | false =>
  rw [hb89, cond_false] at h
  cases h
theorem D_lex_lexer_taken (k : Nat) {ps : List PV} {hp : List (Nm × HObj)} {R : Type} {K : Out → Option R} {r : R} (h : run_lex_lexer_taken k ps hp K = some r) : DoesTo Tryd.prog 100 ps hp fun out => K out = some r := by
  unfold run_lex_lexer_taken at h
  split at h
  · rw [← F_lex_lexer_taken_eq] at h
    have := fn_ok (P := Tryd.prog) (cx := cx_lex_lexer_taken k) (f := 100) ⟨tyT_ok, C_lex_lexer_taken_ok k, fun _ _ => rfl⟩ (by kernel_rfl) (fn := Tryd.f100) (c := code_lex_lexer_taken) (by kernel_rfl) (by kernel_rfl) (by kernel_rfl) (rs := [.tmp 4, .tmp 5]) (by kernel_rfl) (by kernel_rfl) h
    exact this.mono fun out ho => by
      unfold wrap_lex_lexer_taken at ho
      split at ho <;> first | exact ho | cases ho
  · cases h
end Go.Proofs.YtpfbdepoammjmaaDoor.Pvm

set_option maxHeartbeats 2000000
set_option maxRecDepth 100000
namespace Go.Proofs.YtpfbdepoammjmaaDoor.Pvm
open Go Go.Proofs Go.RowKit
theorem string_bytes (b g cap : Nat) (p : Value) (l : List UInt8) (cur : Array Value) (w : World) (hbk : w.heap[b]? = some (.cells #[p, .slice (some ⟨g, 0, none⟩) l.length cap] 67 (0, 0))) (h0 : l ≠ [])
    (hg : w.heap[g]? = some (.cells cur 5 (0, 0))) (hnc : l.length ≤ cap) (hcm : cap ≤ maxLen) (hcs : cur.size = cap) (htake : ∀ (j : Nat) (x : UInt8), l[j]? = some x → w.cell? ⟨g, j, none⟩ = some (.int .u8 x.toNat)) :
    Calls Tryd.prog 27 #[.pointer (some ⟨b, 0, none⟩)] w fun e w' => e = .returned (.string ⟨l.toArray⟩) ∧ w' = w.drew.freeze ⟨g, 0, none⟩ l.length := by
  have hl0 : l.length ≠ 0 := by simpa using h0
  have mixed : Tryd.prog.follows .mixedOrders = true := by kernel_rfl
  have t86 : Tryd.prog.underlying 94 = some (.pointer 5) := by kernel_rfl
  have c1 : w.drew.cell? ⟨b, 1, none⟩ = some (.slice (some ⟨g, 0, none⟩) l.length cap) := by
    have : w.drew.heap[b]? = some (.cells #[p, .slice (some ⟨g, 0, none⟩) l.length cap] 67 (0, 0)) := hbk
    rw [Lib.cell_of_heap this]; rfl
  have hSD : (Builtin.unsafeSliceData_ #[38] 94 #[.slice (some ⟨g, 0, none⟩) l.length cap]).run Tryd.prog w.drew = .ok (.pointer (some ⟨g, 0, none⟩)) w.drew :=
    Lib.run_unsafeSliceData_row _ _ _ _ _ _ (by omega)
  have hUS : (Builtin.unsafeString_ #[94, 3] 9 #[.pointer (some ⟨g, 0, none⟩), .int .i64 l.length]).run Tryd.prog w.drew = .ok (.string ⟨l.toArray⟩) (w.drew.freeze ⟨g, 0, none⟩ l.length) := by
    refine Lib.run_unsafeString_row w.drew 94 3 9 5 t86 (by kernel_rfl) g cur.size (by have hg' : w.drew.heap[g]? = some (.cells cur 5 (0, 0)) := hg; simp [World.shape?, hg']) l h0 (by omega) (by unfold maxLen at hcm; omega) ?_
    intro j x hx
    have := htake j x hx
    rw [show (⟨g, 0, none⟩ : Addr).add j = ⟨g, j, none⟩ by simp [Addr.add]; omega]
    exact this
  go_enter Tryd.func27, Tryd.ntmps27
  go_wp2
  go_region_o
  all_goals (go_wp2; go_ret; exact ⟨rfl, rfl⟩)
end Go.Proofs.YtpfbdepoammjmaaDoor.Pvm

set_option maxHeartbeats 2000000
set_option maxRecDepth 100000
namespace Go.Proofs.YtpfbdepoammjmaaDoor.Pvm
open Go Go.Proofs Go.RowKit
theorem uS_none (W : World) (q : Option Addr) : (Builtin.unsafeString_ #[94, 3] 9 #[.pointer q, .int .i64 0]).run Tryd.prog W = .ok (.string .empty) W :=
  Lib.run_unsafeString_none W _ _ _ q
theorem string_nil (b : Nat) (p : Value) (w : World) (hbk : w.heap[b]? = some (.cells #[p, .slice none 0 0] 67 (0, 0))) :
    Calls Tryd.prog 27 #[.pointer (some ⟨b, 0, none⟩)] w fun e w' => e = .returned (.string ⟨#[]⟩) ∧ w' = w.drew := by
  have hUS := uS_none
  have mixed : Tryd.prog.follows .mixedOrders = true := by kernel_rfl
  have c1 : w.drew.cell? ⟨b, 1, none⟩ = some (.slice none 0 0) := by
    have : w.drew.heap[b]? = some (.cells #[p, .slice none 0 0] 67 (0, 0)) := hbk
    rw [Lib.cell_of_heap this]; rfl
  have hSD : (Builtin.unsafeSliceData_ #[38] 94 #[.slice none 0 0]).run Tryd.prog w.drew = .ok (.pointer none) w.drew := rfl
  go_enter Tryd.func27, Tryd.ntmps27
  go_wp2
  go_region_o
  all_goals (go_wp2; go_ret; exact ⟨rfl, rfl⟩)
theorem string_room (b g cap : Nat) (p : Value) (w : World) (hc0 : cap ≠ 0) (hbk : w.heap[b]? = some (.cells #[p, .slice (some ⟨g, 0, none⟩) 0 cap] 67 (0, 0))) :
    Calls Tryd.prog 27 #[.pointer (some ⟨b, 0, none⟩)] w fun e w' => e = .returned (.string ⟨#[]⟩) ∧ w' = w.drew := by
  have hUS := uS_none
  have mixed : Tryd.prog.follows .mixedOrders = true := by kernel_rfl
  have c1 : w.drew.cell? ⟨b, 1, none⟩ = some (.slice (some ⟨g, 0, none⟩) 0 cap) := by
    have : w.drew.heap[b]? = some (.cells #[p, .slice (some ⟨g, 0, none⟩) 0 cap] 67 (0, 0)) := hbk
    rw [Lib.cell_of_heap this]; rfl
  have hSD : (Builtin.unsafeSliceData_ #[38] 94 #[.slice (some ⟨g, 0, none⟩) 0 cap]).run Tryd.prog w.drew = .ok (.pointer (some ⟨g, 0, none⟩)) w.drew :=
    Lib.run_unsafeSliceData_row _ _ _ _ _ _ hc0
  clear hc0
  go_enter Tryd.func27, Tryd.ntmps27
  go_wp2
  go_region_o
  all_goals (go_wp2; go_ret; exact ⟨rfl, rfl⟩)
end Go.Proofs.YtpfbdepoammjmaaDoor.Pvm

set_option maxHeartbeats 2000000
set_option maxRecDepth 100000
namespace Go.Proofs.YtpfbdepoammjmaaDoor.Pvm
open Go Go.Proofs Go.RowKit
theorem string_noroom (b g : Nat) (p : Value) (cur : Array Value) (w : World) (hbk : w.heap[b]? = some (.cells #[p, .slice (some ⟨g, 0, none⟩) 0 0] 67 (0, 0))) (hg : w.heap[g]? = some (.cells cur 5 (0, 0))) :
    Calls Tryd.prog 27 #[.pointer (some ⟨b, 0, none⟩)] w fun e w' => e = .returned (.string ⟨#[]⟩) ∧ ∃ o, w' = (w.alloc o).drew := by
  have hUS := uS_none
  have hlt : b < w.heap.size := (Array.getElem?_eq_some_iff.1 hbk).1
  have mixed : Tryd.prog.follows .mixedOrders = true := by kernel_rfl
  have c1 : w.drew.cell? ⟨b, 1, none⟩ = some (.slice (some ⟨g, 0, none⟩) 0 0) := by
    have : w.drew.heap[b]? = some (.cells #[p, .slice (some ⟨g, 0, none⟩) 0 0] 67 (0, 0)) := hbk
    rw [Lib.cell_of_heap this]; rfl
  have hSD : (Builtin.unsafeSliceData_ #[38] 94 #[.slice (some ⟨g, 0, none⟩) 0 0]).run Tryd.prog w.drew = .ok (.pointer (some ⟨w.drew.heap.size, 0, none⟩)) (w.drew.alloc (.view ⟨g, 0, none⟩ 5)) :=
    Lib.run_unsafeSliceData_zero w.drew _ _ 5 (by kernel_rfl) ⟨g, 0, none⟩ 0 (5, cur.size) (by have hg' : w.drew.heap[g]? = some (.cells cur 5 (0, 0)) := hg; simp [World.shape?, hg'])
  have c2 : (w.drew.alloc (.view ⟨g, 0, none⟩ 5)).cell? ⟨b, 1, none⟩ = some (.slice (some ⟨g, 0, none⟩) 0 0) := by
    have : (w.drew.alloc (.view ⟨g, 0, none⟩ 5)).heap[b]? = _ := (Lib.alloc_old w.drew _ b hlt).trans hbk
    rw [Lib.cell_of_heap this]; rfl
  have c3 : (w.alloc (.view ⟨g, 0, none⟩ 5)).drew.cell? ⟨b, 1, none⟩ = some (.slice (some ⟨g, 0, none⟩) 0 0) := c2
  have c0 : w.cell? ⟨b, 1, none⟩ = some (.slice (some ⟨g, 0, none⟩) 0 0) := c1
  go_enter Tryd.func27, Tryd.ntmps27
  go_wp2
  go_region_o
  all_goals (go_wp2; go_ret; exact ⟨rfl, _, rfl⟩)
def allB : List Int → Bool
  | [] => true
  | x :: r => decide (0 ≤ x) && decide (x < 256) && allB r
def sig_strings_Builder_String : List LS := [.obj 1 [.nps 1, .own 21 5 (.int .u8)]]
def F_strings_Builder_String (k : Nat) {R : Type} (x0 : List Int) (K : List Int → List UInt8 → Option R) : Option R := bif allB x0 then K x0 (ofBytes x0) else none
def run_strings_Builder_String (k : Nat) {R : Type} : List PV → List (Nm × HObj) → (Out → Option R) → Option R
  | [.ptr 1 0], [(21, .row 5 (.int .u8) x0), (1, .var 67 [.nps 1, .row 21])], K => F_strings_Builder_String k x0 (fun y0 y1 => K (.ret [.v .str y1] [(1, .var 67 [.nps 1, .v (.sl (.int .u8)) y0])]))
  | _, _, _ => none
theorem callFunc_strings_Builder_String (vs : Array Value) (w : World) : (callFunc 27 vs).run Tryd.prog w = .ok (.enter 27 vs) w := by
  have h1 : Tryd.prog.funcs[27]? = some Tryd.f27 := by kernel_rfl
  have h2 : (Tryd.f27.name == "runtime.NumGoroutine") = false := by kernel_rfl
  have h3 : Tryd.f27.body.isNone = false := by kernel_rfl
  unfold callFunc
  rw [Sem.run_bind]
  have e2 : (program).run Tryd.prog w = .ok Tryd.prog w := rfl
  rw [e2, Result.andThen_ok, h1]
  simp only [h2, h3, Bool.false_eq_true, if_false]
  rfl
theorem allB_at : ∀ {l : List Int}, allB l = true → ∀ (i : Nat) (y : Int), l[i]? = some y → 0 ≤ y ∧ y < 256
  | [], _, i, y, h => by simp at h
  | x :: r, hb, 0, y, h => by
    simp only [allB, Bool.and_eq_true, decide_eq_true_eq] at hb
    simp at h; subst h; exact hb.1
  | x :: r, hb, i + 1, y, h => by
    simp only [allB, Bool.and_eq_true] at hb
    exact allB_at hb.2 i y (by simpa using h)
theorem builder_left {G : Gh} {w w' : World} {x0 : List Int} {HP : List (Nm × HObj)} (hHP : HP = [(21, .row 5 (.int .u8) x0), (1, .var 67 [.nps 1, .row 21])])
    (obj : ∀ n o, mkH HP n = some o → RO (mkH HP) G w n o) (dis : Dis (mkH HP) G w) (hblk : ∀ b, b < w.heap.size → (∀ g, (G.rv 21).ownBlock = some g → b ≠ g) → w'.heap[b]? = w.heap[b]?)
    (hcell : ∀ g o, (G.rv 21).ownBlock = some g → w'.cell? ⟨g, o, none⟩ = w.cell? ⟨g, o, none⟩) (grow : w.heap.size ≤ w'.heap.size) (os : w'.os = w.os) (tape : w'.tape = w.tape) (out : w'.output = w.output) :
    Fin HP [(1, .var 67 [.nps 1, .v (.sl (.int .u8)) x0])] G w G w' := by
  have l1 : mkH HP 1 = some (.var 67 [.nps 1, .row 21]) := by subst hHP; rfl
  have l2 : mkH HP 21 = some (.row 5 (.int .u8) x0) := by subst hHP; rfl
  generalize hHS : [((1 : Nm), HObj.var 67 [.nps 1, .v (.sl (.int .u8)) x0])] = HS
  have m1 : mkH HS 1 = some (.var 67 [.nps 1, .v (.sl (.int .u8)) x0]) := by subst hHS; rfl
  have mo : ∀ n o, mkH HS n = some o → n = 1 := by
    intro n o h
    subst hHS
    simp only [mkH, look] at h
    cases hb : Nat.beq 1 n with
    | true => exact (Nat.eq_of_beq_eq_true hb).symm
    | false => rw [hb] at h; cases h
  have bk1 : blkOf (mkH HP) G 1 = some (G.bk 1) := by simp [blkOf, l1]
  have bk2 : blkOf (mkH HP) G 21 = (G.rv 21).ownBlock := by simp [blkOf, l2]
  have ck1 : blkOf (mkH HS) G 1 = some (G.bk 1) := by simp [blkOf, m1]
  have ck : ∀ n b, blkOf (mkH HS) G n = some b → n = 1 ∧ b = G.bk 1 := by
    intro n b h
    cases hn : mkH HS n with
    | none => simp [blkOf, hn] at h
    | some o => have := mo n o hn; subst this; rw [ck1] at h; cases h; exact ⟨rfl, rfl⟩
  have hne : ∀ g, (G.rv 21).ownBlock = some g → G.bk 1 ≠ g := fun g hg e => by
    have := dis.inj 1 21 g (by rw [bk1, e]) (by rw [bk2, hg])
    cases this
  obtain ⟨vs, hw, q1, t1, rfl, hq1, q2, t2, rfl, hq2, rfl⟩ := obj 1 _ l1
  obtain ⟨rfl, _⟩ := hq2
  have hlt : G.bk 1 < w.heap.size := (Array.getElem?_eq_some_iff.1 hw).1
  have hw' : w'.heap[G.bk 1]? = some (.cells [q1, G.rv 21].toArray 67 (0, 0)) := by rw [hblk _ hlt hne]; exact hw
  have hdat : RD w' (okB (mkH HS) G) (.sl (.int .u8)) x0 [G.rv 21] := by
    have hro := obj 21 _ l2
    obtain ⟨us, hown, hr, _⟩ := hro
    rcases hown.2 with ⟨hv, hn⟩ | ⟨g, cap, cur, hv, _, hgb, hnc, hcm, hcs, _⟩
    · exact ⟨none, 0, by rw [hv, hn], by omega, .inl (List.eq_nil_of_length_eq_zero hn)⟩
    · have hgo : (G.rv 21).ownBlock = some g := by rw [hv]; rfl
      refine ⟨_, cap, by rw [hv], hnc, .inr ⟨_, rfl, ?_, ?_, ?_⟩⟩
      · refine ⟨fun n hn => ?_, fun hx => dis.xo 21 g (by rw [bk2, hgo]) hx⟩
        obtain ⟨_, e⟩ := ck n g hn
        exact hne g hgo e.symm
      · have : g < w.heap.size := (Array.getElem?_eq_some_iff.1 hgb).1
        exact Nat.lt_of_lt_of_le this grow
      · intro i y hy
        obtain ⟨c, hc, hu⟩ := hr.get i y hy
        refine ⟨c, hc, fun j u hj => ?_⟩
        have := hown.cells hgo _ _ (hu j u hj)
        rw [Addr.add_lit] at this ⊢
        rw [hcell g _ hgo]
        exact this
  refine ⟨fun n o hn => ?_, fun n m b h1 h2 => (ck n b h1).1.trans (ck m b h2).1.symm, fun n t cs hn o ho => ?_, fun b hb hf => hblk b hb fun g hg e => hf 21 (by rw [bk2, hg, e]), rfl, fun n b hn => .inl ⟨1, by rw [(ck n b hn).2]; exact bk1⟩, grow, os, tape, out⟩
  · have := mo n o hn; subst this
    rw [m1] at hn; cases hn
    refine ⟨_, hw', _, _, rfl, ?_, _, _, rfl, hdat, rfl⟩
    rcases hq1 with h | ⟨h, _⟩
    · exact .inl h
    · exact .inr ⟨h, _, _, m1⟩
  · have e1 := mo n o ho
    subst e1
    have e2 : mkH HS 1 = some o := ho
    have e3 : mkH HP 1 = some (.var t cs) := hn
    rw [m1] at e2; rw [l1] at e3; cases e2; cases e3
    exact ⟨⟨_, rfl⟩, rfl⟩
theorem D_strings_Builder_String (k : Nat) {ps : List PV} {hp : List (Nm × HObj)} {R : Type} {K : Out → Option R} {r : R} (h : run_strings_Builder_String k ps hp K = some r) : DoesTo Tryd.prog 27 ps hp fun out => K out = some r := by
  unfold run_strings_Builder_String at h
  split at h
  · next x0 =>
    intro G w vals hr obj dis
    unfold F_strings_Builder_String at h
    cases hb : allB x0 with
    | false => rw [hb] at h; cases h
    | true =>
      rw [hb, cond_true] at h
      obtain ⟨v0, l0, rfl, h0, rfl⟩ := hr
      obtain ⟨rfl, _⟩ := h0
      generalize hHP : [(21, HObj.row 5 (.int .u8) x0), (1, .var 67 [.nps 1, .row 21])] = HP at *
      have l1 : mkH HP 1 = some (.var 67 [.nps 1, .row 21]) := by subst hHP; rfl
      have l2 : mkH HP 21 = some (.row 5 (.int .u8) x0) := by subst hHP; rfl
      show Does _ _ #[_] _ _
      unfold Does
      rw [callFunc_strings_Builder_String]
      obtain ⟨vs, hw, q1, t1, rfl, hq1, q2, t2, rfl, hq2, rfl⟩ := obj 1 _ l1
      obtain ⟨rfl, _⟩ := hq2
      have hro := obj 21 _ l2
      obtain ⟨us, hown, hrd, _⟩ := hro
      have fin : ∀ {e : Ending} {w' : World}, e = .returned (.string ⟨(ofBytes x0).toArray⟩) → (∀ b, b < w.heap.size → (∀ g, (G.rv 21).ownBlock = some g → b ≠ g) → w'.heap[b]? = w.heap[b]?) → (∀ g o, (G.rv 21).ownBlock = some g → w'.cell? ⟨g, o, none⟩ = w.cell? ⟨g, o, none⟩) → w.heap.size ≤ w'.heap.size → w'.os = w.os → w'.tape = w.tape → w'.output = w.output →
          ∃ out, K out = some r ∧ ∃ G', OutIs G' w' e out ∧ Fin HP out.hs G w G' w' := by
        intro e w' he h1 h2 h3 h4 h5 h6
        exact ⟨_, h, G, ⟨_, he, rfl⟩, builder_left hHP.symm obj dis h1 h2 h3 h4 h5 h6⟩
      rcases hown.2 with ⟨hv, hn⟩ | ⟨g, cap, cur, hv, _, hgb, hnc, hcm, hcs, htk⟩
      · have hx : x0 = [] := List.eq_nil_of_length_eq_zero hn
        subst hx
        rw [hv] at hw
        refine Calls.mono (string_nil (G.bk 1) q1 w hw) fun e w' hh => ?_
        obtain ⟨rfl, rfl⟩ := hh
        exact fin rfl (fun _ _ _ => rfl) (fun _ _ _ => rfl) (Nat.le_refl _) rfl rfl rfl
      · have hgo : (G.rv 21).ownBlock = some g := by rw [hv]; rfl
        rw [hv] at hw
        by_cases hx : x0 = []
        · subst hx
          by_cases hc0 : cap = 0
          · subst hc0
            refine Calls.mono (string_noroom (G.bk 1) g q1 cur w hw hgb) fun e w' hh => ?_
            obtain ⟨rfl, o, rfl⟩ := hh
            have hold : ∀ b, b < w.heap.size → (w.alloc o).drew.heap[b]? = w.heap[b]? := fun b hb => Lib.alloc_old w _ b hb
            refine fin rfl (fun b hb _ => hold b hb) (fun g' o' hg' => ?_) (by have := World.size_alloc w o; show _ ≤ (w.alloc o).heap.size; omega) rfl rfl rfl
            rw [hgo] at hg'; cases hg'
            exact World.cell?_of_block (hold g (Array.getElem?_eq_some_iff.1 hgb).1)
          · refine Calls.mono (string_room (G.bk 1) g cap q1 w hc0 hw) fun e w' hh => ?_
            obtain ⟨rfl, rfl⟩ := hh
            exact fin rfl (fun _ _ _ => rfl) (fun _ _ _ => rfl) (Nat.le_refl _) rfl rfl rfl
        · have hlen : (ofBytes x0).length = x0.length := by simp [ofBytes]
          have hbytes : ∀ (j : Nat) (x : UInt8), (ofBytes x0)[j]? = some x → w.cell? ⟨g, j, none⟩ = some (.int .u8 x.toNat) := by
            intro j x hj
            have hjl : j < x0.length := by rw [← hlen]; exact (List.getElem?_eq_some_iff.1 hj).1
            have hy : x0[j]? = some x0[j] := by simp [hjl]
            obtain ⟨c, hc, hu⟩ := hrd.get j _ hy
            have hc : c = [.int .u8 x0[j]] := hc
            have h9 := hown.cells hgo _ _ (hu 0 (.int .u8 x0[j]) (by rw [hc]; rfl))
            rw [Addr.add_lit] at h9
            have hj2 : x = UInt8.ofNat (x0[j]).toNat := by
              simp only [ofBytes, List.getElem?_map, hy, Option.map_some, Option.some.injEq] at hj
              exact hj.symm
            obtain ⟨h10, h11⟩ := allB_at hb j _ hy
            have : ((x.toNat : Nat) : Int) = x0[j] := by
              rw [hj2, UInt8.toNat_ofNat']
              omega
            rw [this]
            have e0 : 0 + (j * Kd.sz (.int .u8) + 0) = j := by simp [Kd.sz]
            rw [e0] at h9
            exact h9
          rw [← hlen] at hw
          have hne : ofBytes x0 ≠ [] := by intro e; rw [e] at hlen; exact hx (List.eq_nil_of_length_eq_zero hlen.symm)
          refine Calls.mono (string_bytes (G.bk 1) g cap q1 (ofBytes x0) cur w hw hne hgb (by omega) hcm (by simpa [Kd.sz] using hcs) hbytes) fun e w' hh => ?_
          obtain ⟨rfl, rfl⟩ := hh
          have hfz : ∀ b, b ≠ g → (w.drew.freeze ⟨g, 0, none⟩ (ofBytes x0).length).heap[b]? = w.heap[b]? := by
            intro b hb
            unfold World.freeze
            split
            · rfl
            · show (w.heap.modify g _)[b]? = _
              rw [Array.getElem?_modify, if_neg (Ne.symm hb)]
          refine fin rfl (fun b _ hb => hfz b (hb g hgo)) (fun g' o' hg' => ?_) ?_ ?_ ?_ ?_
          · rw [hgo] at hg'; cases hg'
            unfold World.freeze
            split
            · rfl
            · simp only [World.cell?, World.drew, Array.getElem?_modify, if_true, hgb, Option.map_some]
          all_goals
            unfold World.freeze
            split
            · first | rfl | exact Nat.le_refl _
            · first | rfl | (show w.heap.size ≤ (w.heap.modify g _).size; rw [Array.size_modify]; exact Nat.le_refl _)
  · cases h
end Go.Proofs.YtpfbdepoammjmaaDoor.Pvm

set_option maxHeartbeats 1000000
set_option maxRecDepth 100000
namespace Go.Proofs.YtpfbdepoammjmaaDoor.Pvm
open Go Go.Proofs Go.RowKit
theorem copyCheck_used (b : Nat) (w : World) (h0 : w.cell? ⟨b, 0, none⟩ = some (.pointer (some ⟨b, 0, none⟩))) :
    Calls Tryd.prog 41 #[.pointer (some ⟨b, 0, none⟩)] w fun e w' => e = .returned (.tuple #[]) ∧ w' = w := by
  have t76 : Tryd.prog.underlying 65 = some (.pointer 67) := by kernel_rfl
  have hs : (Tryd.prog.info? 67).isSome = true := by kernel_rfl
  obtain ⟨j, hj⟩ := Option.isSome_iff_exists.1 hs
  go_enter Tryd.func41, Tryd.ntmps41
  go_wp2
  rw [Lib.run_neq_ptr_same w _ t76 hj]
  go_wp2
  go_end0
  exact ⟨rfl, rfl⟩
theorem copyCheck_fresh (b : Nat) (w : World) (h0 : w.cell? ⟨b, 0, none⟩ = some (.pointer none)) (hsh : w.shape? b = some (67, 2)) (hfz : w.frozen? ⟨b, 0, none⟩ = false) :
    Calls Tryd.prog 41 #[.pointer (some ⟨b, 0, none⟩)] w fun e w' => e = .returned (.tuple #[]) ∧ w' = w.setCell ⟨b, 0, none⟩ (.pointer (some ⟨b, 0, none⟩)) := by
  have t76 : Tryd.prog.underlying 65 = some (.pointer 67) := by kernel_rfl
  have t89 : Tryd.prog.underlying 112 = some .unsafePointer := by kernel_rfl
  have hs : (Tryd.prog.info? 67).map (·.size) = some 2 := by kernel_rfl
  obtain ⟨j, hj, hjs⟩ := Option.map_eq_some_iff.1 hs
  have hlies : liesAt Tryd.prog Tryd.prog.depth 67 (2 / Tryd.prog.cellsOf 67) 0 67 1 = true := by kernel_rfl
  go_enter Tryd.func41, Tryd.ntmps41
  go_wp2
  rw [Lib.run_to_unsafe w ⟨b, 0, none⟩ t76 t89 hj (by rw [hjs]; decide) hsh (Nat.zero_lt_succ 1)]
  simp only [Result.andThen]
  rw [Oper.upon_value]
  go_wp2
  rw [run_callFunc_extern Tryd.func56 (by kernel_rfl) (by kernel_rfl) (by kernel_rfl) (e := Extern.AbiNoEscape.same) (by kernel_rfl)]
  rw [Lib.run_noEscape]
  simp only [Result.andThen]
  rw [Oper.upon_value]
  go_wp2
  rw [Lib.run_from_unsafe w ⟨b, 0, none⟩ t89 t76 hj hsh hlies]
  simp only [Result.andThen]
  rw [Oper.upon_value]
  go_wp2
  go_end0
  exact ⟨rfl, rfl⟩
end Go.Proofs.YtpfbdepoammjmaaDoor.Pvm

set_option maxRecDepth 1000000
namespace Go.Proofs.YtpfbdepoammjmaaDoor.Pvm
open Go Go.Proofs
def sig_strings_Builder_copyCheck : List LS := [.obj 1 [.nps 1, .own 21 5 (.int .u8)]]
def F_strings_Builder_copyCheck (k : Nat) {R : Type} (x0 : List Int) (K : List Int → Option R) : Option R := K x0
def run_strings_Builder_copyCheck (k : Nat) {R : Type} : List PV → List (Nm × HObj) → (Out → Option R) → Option R
  | [.ptr 1 0], [(21, .row 5 (.int .u8) x0), (1, .var 67 [.nps 1, .row 21])], K => F_strings_Builder_copyCheck k x0 (fun y0 => K (.ret [] [(21, .row 5 (.int .u8) y0), (1, .var 67 [.nps 1, .row 21])]))
  | _, _, _ => none
theorem callFunc_strings_Builder_copyCheck (vs : Array Value) (w : World) : (callFunc 41 vs).run Tryd.prog w = .ok (.enter 41 vs) w := by
  have h1 : Tryd.prog.funcs[41]? = some Tryd.f41 := by kernel_rfl
  have h2 : (Tryd.f41.name == "runtime.NumGoroutine") = false := by kernel_rfl
  have h3 : Tryd.f41.body.isNone = false := by kernel_rfl
  unfold callFunc
  rw [Sem.run_bind]
  have e2 : (program).run Tryd.prog w = .ok Tryd.prog w := rfl
  rw [e2, Result.andThen_ok, h1]
  simp only [h2, h3, Bool.false_eq_true, if_false]
  rfl
theorem D_strings_Builder_copyCheck (k : Nat) {ps : List PV} {hp : List (Nm × HObj)} {R : Type} {K : Out → Option R} {r : R} (h : run_strings_Builder_copyCheck k ps hp K = some r) : DoesTo Tryd.prog 41 ps hp fun out => K out = some r := by
  unfold run_strings_Builder_copyCheck at h
  split at h
  · next x0 =>
    intro G w vals hr obj dis
    obtain ⟨v0, l0, rfl, h0, rfl⟩ := hr
    obtain ⟨rfl, _⟩ := h0
    generalize hHP : [(21, HObj.row 5 (.int .u8) x0), (1, .var 67 [.nps 1, .row 21])] = HP at *
    have hK : K (.ret [] HP) = some r := by subst hHP; exact h
    have l1 : mkH HP 1 = some (.var 67 [.nps 1, .row 21]) := by subst hHP; rfl
    have hob := obj 1 _ l1
    obtain ⟨vs, hw, q1, t1, rfl, hq1, q2, t2, rfl, hq2, rfl⟩ := hob
    show Does _ _ #[_] _ _
    unfold Does
    rw [callFunc_strings_Builder_copyCheck]
    have hcell : w.cell? ⟨G.bk 1, 0, none⟩ = some q1 := by simp [World.cell?, hw]
    have hlt : G.bk 1 < w.heap.size := (Array.getElem?_eq_some_iff.1 hw).1
    rcases hq1 with rfl | ⟨rfl, _⟩
    · refine Calls.mono (copyCheck_fresh (G.bk 1) w hcell (by simp [World.shape?, hw]) (by simp [World.frozen?, hw])) fun e w' hh => ?_
      obtain ⟨rfl, rfl⟩ := hh
      have oth : ∀ b, b ≠ G.bk 1 → (w.setCell ⟨G.bk 1, 0, none⟩ (.pointer (some ⟨G.bk 1, 0, none⟩))).heap[b]? = w.heap[b]? := fun b hb => Go.Deep.blk_setCell_other w _ _ b hb
      have bk1 : blkOf (mkH HP) G 1 = some (G.bk 1) := by simp [blkOf, l1]
      have C : Carry (mkH HP) G w (mkH HP) G (w.setCell ⟨G.bk 1, 0, none⟩ (.pointer (some ⟨G.bk 1, 0, none⟩))) .row :=
        ⟨fun b ho _ => ⟨ho, oth b fun e => ho.1 1 (by rw [bk1, e])⟩, fun n t cs hn => ⟨⟨cs, hn⟩, rfl⟩, fun n e K xs hn => ⟨⟨rfl, e, K, xs, hn⟩, fun m hm => by cases hm; exact ⟨e, xs, hn, Nat.le_refl _⟩⟩⟩
      have hq2' := RV.carry C _ _ hq2
      refine ⟨.ret [] HP, hK, G, ⟨_, rfl, ⟨[], rfl, rfl⟩⟩, ⟨fun n o hn => ?_, dis.inj, fun n t cs hn o ho => ?_, fun b hb hf => oth b fun e => hf 1 (by rw [bk1, e]), rfl, fun n b hb => .inl ⟨n, hb⟩, by simp [World.setCell], rfl, rfl, rfl⟩⟩
      · by_cases hn1 : n = 1
        · subst hn1
          rw [show mkH (Out.hs (.ret [] HP)) 1 = some (.var 67 [.nps 1, .row 21]) from l1] at hn
          cases hn
          refine ⟨[.pointer (some ⟨G.bk 1, 0, none⟩), q2], ?_, _, _, rfl, .inr ⟨rfl, 67, _, l1⟩, _, _, rfl, hq2', rfl⟩
          have hw2 := (Array.getElem?_eq_some_iff.1 hw).2
          simp only [World.setCell, Array.getElem?_modify, if_pos, hw]
          simp
        · have hne : ∀ b, blkOf (mkH HP) G n = some b → b ≠ G.bk 1 := fun b hb e => hn1 (dis.inj n 1 b hb (by rw [bk1, e]))
          have := RO.carry C hn (obj n o hn) (fun b hb => oth b (hne b hb)) rfl rfl
          rwa [mapO_row] at this
      · have e1 : look HP n = some o := ho
        rw [hn] at e1; cases e1
        exact ⟨⟨cs, rfl⟩, rfl⟩
    · refine Calls.mono (copyCheck_used (G.bk 1) w hcell) fun e w' hh => ?_
      obtain ⟨rfl, rfl⟩ := hh
      refine ⟨.ret [] HP, hK, G, ⟨_, rfl, ⟨[], rfl, rfl⟩⟩, ⟨obj, dis.inj, fun n t cs hn o ho => ?_, fun _ _ _ => rfl, rfl, fun n b hb => .inl ⟨n, hb⟩, Nat.le_refl _, rfl, rfl, rfl⟩⟩
      have e1 : look HP n = some o := ho
      rw [hn] at e1; cases e1
      exact ⟨⟨cs, rfl⟩, rfl⟩
  · cases h
end Go.Proofs.YtpfbdepoammjmaaDoor.Pvm

set_option maxRecDepth 1000000
set_option maxHeartbeats 0
namespace Go.Proofs.YtpfbdepoammjmaaDoor.Pvm
open Go Go.Proofs
def sig_strings_Builder_WriteByte : List LS := [.obj 1 [.nps 1, .own 21 5 (.int .u8)], .any]
noncomputable def C_strings_Builder_WriteByte (k : Nat) : CTab := ⟨fun f => bif Nat.beq f 41 then sig_strings_Builder_copyCheck else [], fun f {_} ps hp K => bif Nat.beq f 41 then run_strings_Builder_copyCheck k ps hp K else none⟩
def wrap_strings_Builder_WriteByte {R : Type} (K : ((List Int) → Option R)) : Out → Option R
  | .ret [.nilif] [(21, .row 5 (.int .u8) y0), (1, .var 67 [.nps 1, .row 21])] => K y0
  | _ => none
def sp_strings_Builder_WriteByte : RetSpec := ⟨[.any], [(1, .obj 1 [.nps 1, .own 21 5 (.int .u8)])], []⟩
def cuts_strings_Builder_WriteByte : List (Nat × CutSpec) := []
def plans_strings_Builder_WriteByte : List (Nat × Plan) := []
noncomputable def cx_strings_Builder_WriteByte (k : Nat) : Ctx := ⟨tyT, cuts_strings_Builder_WriteByte, C_strings_Builder_WriteByte k, [], [1], plans_strings_Builder_WriteByte, @SH⟩
noncomputable def code_strings_Builder_WriteByte : Code := Tryd.f99.body.getD .skip
noncomputable def A_strings_Builder_WriteByte (k : Nat) {R : Type}  (x0 : (List Int)) (x1 : Int) (K : ((List Int) → Option R)) : Option R := (@F_strings_Builder_copyCheck k R x0 (fun (y5 : (@List Int)) => (@cond (@Option R) (@fits (@List.length (@Kd.T (@Kd.int Go.IntKind.u8)) y5) (@List.length (@Kd.T (@Kd.int Go.IntKind.u8)) (x1 :: [])) (1 : Nat)) (K (@HAppend.hAppend (@Kd.T (@Kd.sl (@Kd.int Go.IntKind.u8))) (@List (@Kd.T (@Kd.int Go.IntKind.u8))) (@Kd.T (@Kd.sl (@Kd.int Go.IntKind.u8))) (@instHAppendOfAppend (@Kd.T (@Kd.sl (@Kd.int Go.IntKind.u8))) (@List.instAppend (@Kd.T (@Kd.int Go.IntKind.u8)))) y5 (x1 :: []))) (@Option.none R))))
theorem A_strings_Builder_WriteByte_eq (k : Nat) {R : Type} (I : Nat → St → Option R) (x0 : (List Int)) (x1 : Int) (K : ((List Int) → Option R)) : fnK (cx_strings_Builder_WriteByte k) k code_strings_Builder_WriteByte 17 [.tmp 4] sp_strings_Builder_WriteByte [.ptr 1 0, .v (.int .u8) x1] [(21, .row 5 (.int .u8) x0), (1, .var 67 [.nps 1, .row 21])] (wrap_strings_Builder_WriteByte K) = A_strings_Builder_WriteByte k  x0 x1 K := by kernel_rfl
noncomputable def F_strings_Builder_WriteByte (k : Nat) {R : Type} (x0 : (List Int)) (x1 : Int) (K : ((List Int) → Option R)) : Option R := A_strings_Builder_WriteByte k  x0 x1 K
theorem F_strings_Builder_WriteByte_eq (k : Nat) {R : Type} (x0 : (List Int)) (x1 : Int) (K : ((List Int) → Option R)) : fnK (cx_strings_Builder_WriteByte k) k code_strings_Builder_WriteByte 17 [.tmp 4] sp_strings_Builder_WriteByte [.ptr 1 0, .v (.int .u8) x1] [(21, .row 5 (.int .u8) x0), (1, .var 67 [.nps 1, .row 21])] (wrap_strings_Builder_WriteByte K) = F_strings_Builder_WriteByte k x0 x1 K := by
  exact A_strings_Builder_WriteByte_eq k (fun _ _ => none) x0 x1 K
noncomputable def run_strings_Builder_WriteByte (k : Nat) {R : Type} : List PV → List (Nm × HObj) → (Out → Option R) → Option R
  | [.ptr 1 0, .v (.int .u8) x1], [(21, .row 5 (.int .u8) x0), (1, .var 67 [.nps 1, .row 21])], K => F_strings_Builder_WriteByte k x0 x1 (fun y0 => K (.ret [.nilif] [(21, .row 5 (.int .u8) y0), (1, .var 67 [.nps 1, .row 21])]))
  | _, _, _ => none
theorem C_strings_Builder_WriteByte_ok (k : Nat) : (C_strings_Builder_WriteByte k).Ok Tryd.prog := by
  intro f ps hp R K r h
  unfold C_strings_Builder_WriteByte at h
  simp only at h
  cases hb41 : Nat.beq f 41 with
  | true => rw [hb41, cond_true] at h; rw [Nat.eq_of_beq_eq_true hb41]; exact D_strings_Builder_copyCheck k h
  | false =>
  rw [hb41, cond_false] at h
  cases h
theorem D_strings_Builder_WriteByte (k : Nat) {ps : List PV} {hp : List (Nm × HObj)} {R : Type} {K : Out → Option R} {r : R} (h : run_strings_Builder_WriteByte k ps hp K = some r) : DoesTo Tryd.prog 99 ps hp fun out => K out = some r := by
  unfold run_strings_Builder_WriteByte at h
  split at h
  · rw [← F_strings_Builder_WriteByte_eq] at h
    have := fn_ok (P := Tryd.prog) (cx := cx_strings_Builder_WriteByte k) (f := 99) ⟨tyT_ok, C_strings_Builder_WriteByte_ok k, fun _ _ => rfl⟩ (by kernel_rfl) (fn := Tryd.f99) (c := code_strings_Builder_WriteByte) (by kernel_rfl) (by kernel_rfl) (by kernel_rfl) (rs := [.tmp 4]) (by kernel_rfl) (by kernel_rfl) h
    exact this.mono fun out ho => by
      unfold wrap_strings_Builder_WriteByte at ho
      split at ho <;> first | exact ho | cases ho
  · cases h
end Go.Proofs.YtpfbdepoammjmaaDoor.Pvm

set_option maxRecDepth 1000000
set_option maxHeartbeats 0
namespace Go.Proofs.YtpfbdepoammjmaaDoor.Pvm
open Go Go.Proofs
abbrev KT_lex_lexer_double (R : Type) : Type := (Int → Int → (List UInt8) → Int → (List (Int × (Int × (Int × ((List UInt8) × Bool))))) → (List UInt8) → Int → Option R)
abbrev ET_lex_lexer_double (R : Type) : Type := (Int → Int → (List UInt8) → Int → (List (Int × (Int × (Int × ((List UInt8) × Bool))))) → Int → Int → Option R)
def sig_lex_lexer_double : List LS := [.obj 1 [.any, .any, .any, .any, .own 21 25 (.pr (.int .i64) (.pr (.int .i64) (.pr (.int .i64) (.pr .str .bool))))], .any]
noncomputable def C_lex_lexer_double (k : Nat) : CTab := ⟨fun f => bif Nat.beq f 27 then sig_strings_Builder_String else bif Nat.beq f 68 then sig_lex_lexer_gives else bif Nat.beq f 99 then sig_strings_Builder_WriteByte else bif Nat.beq f 100 then sig_lex_lexer_taken else [], fun f {_} ps hp K => bif Nat.beq f 27 then run_strings_Builder_String k ps hp K else bif Nat.beq f 68 then run_lex_lexer_gives k ps hp K else bif Nat.beq f 99 then run_strings_Builder_WriteByte k ps hp K else bif Nat.beq f 100 then run_lex_lexer_taken k ps hp K else none⟩
def wrap_lex_lexer_double {R : Type} (K : KT_lex_lexer_double R) (E : ET_lex_lexer_double R) : Out → Option R
  | .ret [.v .str y5, .v (.int .i64) y6] [(21, .row 25 (.pr (.int .i64) (.pr (.int .i64) (.pr (.int .i64) (.pr .str .bool)))) y4), (1, .var 111 [.v (.int .i64) y0, .v (.int .i64) y1, .v .str y2, .v (.int .i64) y3, .row 21])] => K y0 y1 y2 y3 y4 y5 y6
  | .pan (.ifc 30 (.agg [.v (.int .i64) z5, .v (.int .i64) z6])) [(21, .row 25 (.pr (.int .i64) (.pr (.int .i64) (.pr (.int .i64) (.pr .str .bool)))) z4), (1, .var 111 [.v (.int .i64) z0, .v (.int .i64) z1, .v .str z2, .v (.int .i64) z3, .row 21])] => E z0 z1 z2 z3 z4 z5 z6
  | _ => none
def sp_lex_lexer_double : RetSpec := ⟨[.any, .any], [(1, .obj 1 [.any, .any, .any, .any, .own 21 25 (.pr (.int .i64) (.pr (.int .i64) (.pr (.int .i64) (.pr .str .bool))))])], [(1, .obj 1 [.any, .any, .any, .any, .own 21 25 (.pr (.int .i64) (.pr (.int .i64) (.pr (.int .i64) (.pr .str .bool))))])]⟩
def cuts_lex_lexer_double : List (Nat × CutSpec) := [(1003, ⟨[(0, .obj 1 [.any, .any, .any, .any, .own 21 25 (.pr (.int .i64) (.pr (.int .i64) (.pr (.int .i64) (.pr .str .bool))))]), (1, .any), (6, .obj 16 [.nps 16, .own 36 5 (.int .u8)]), (7, .any)], [(1, .obj 1 [.any, .any, .any, .any, .own 21 25 (.pr (.int .i64) (.pr (.int .i64) (.pr (.int .i64) (.pr .str .bool))))])]⟩)]
def plans_lex_lexer_double : List (Nat × Plan) := []
noncomputable def cx_lex_lexer_double (k : Nat) : Ctx := ⟨tyT, cuts_lex_lexer_double, C_lex_lexer_double k, [], [1], plans_lex_lexer_double, @SH⟩
noncomputable def code_lex_lexer_double : Code := Tryd.f88.body.getD .skip
def st_lex_lexer_double_1003 (s0 : Int) (s1 : Int) (s2 : (List UInt8)) (s3 : Int) (s4 : (List (Int × (Int × (Int × ((List UInt8) × Bool)))))) (s5 : (List UInt8)) (s6 : (List Int)) (s7 : Int) : St := ⟨mkT [(0, .ptr 1 0), (1, .v .str s5), (6, .ptr 16 0), (7, .v (.int .i64) s7)], mkH [(21, .row 25 (.pr (.int .i64) (.pr (.int .i64) (.pr (.int .i64) (.pr .str .bool)))) s4), (1, .var 111 [.v (.int .i64) s0, .v (.int .i64) s1, .v .str s2, .v (.int .i64) s3, .row 21]), (36, .row 5 (.int .u8) s6), (16, .var 67 [.nps 16, .row 36])]⟩
noncomputable def B_lex_lexer_double_1003 (k : Nat) {R : Type} (E1003 : (Int → Int → (List UInt8) → Int → (List (Int × (Int × (Int × ((List UInt8) × Bool))))) → (List UInt8) → (List Int) → Int → Option R)) (s0 : Int) (s1 : Int) (s2 : (List UInt8)) (s3 : Int) (s4 : (List (Int × (Int × (Int × ((List UInt8) × Bool)))))) (s5 : (List UInt8)) (s6 : (List Int)) (s7 : Int) (K : KT_lex_lexer_double R) (E : ET_lex_lexer_double R) : Option R := (@cond (@Option R) (@Decidable.decide (@LT.lt Int Int.instLTInt s7 (@Nat.cast Int instNatCastInt (@List.length UInt8 s5))) (@Int.decLt s7 (@Nat.cast Int instNatCastInt (@List.length UInt8 s5)))) (@cond (@Option R) (@inb s7 (@Nat.cast Int instNatCastInt (@List.length UInt8 s5))) (@cond (@Option R) (@BEq.beq Int (@instBEqOfDecidableEq Int @Int.instDecidableEq) (@Nat.cast Int instNatCastInt (@UInt8.toNat (@List.getD UInt8 s5 (@Int.toNat s7) (0 : UInt8)))) (34 : Int)) (@F_strings_Builder_String k R s6 (fun (y13 : (@List Int)) => (fun (y14 : (@List UInt8)) => (K s0 s1 s2 s3 s4 y14 (@Go.IntKind.wrap Go.IntKind.i64 (@HAdd.hAdd Int Int Int (@instHAdd Int @Int.instAdd) s7 (1 : Int))))))) (@cond (@Option R) (@BEq.beq Int (@instBEqOfDecidableEq Int @Int.instDecidableEq) (@Nat.cast Int instNatCastInt (@UInt8.toNat (@List.getD UInt8 s5 (@Int.toNat s7) (0 : UInt8)))) (92 : Int)) (@cond (@Option R) (@bnd (@Go.IntKind.wrap Go.IntKind.i64 (@HAdd.hAdd Int Int Int (@instHAdd Int @Int.instAdd) s7 (1 : Int))) (@Nat.cast Int instNatCastInt (@List.length UInt8 s5)) (@Nat.cast Int instNatCastInt (@List.length UInt8 s5))) (@F_lex_lexer_taken k R s0 s1 s2 s3 s4 (@cut UInt8 s5 (@Go.IntKind.wrap Go.IntKind.i64 (@HAdd.hAdd Int Int Int (@instHAdd Int @Int.instAdd) s7 (1 : Int))) (@Nat.cast Int instNatCastInt (@List.length UInt8 s5))) (fun (y13 : Int) => (fun (y14 : Int) => (fun (y15 : (@List UInt8)) => (fun (y16 : Int) => (fun (y17 : (@List (@Prod Int (@Prod Int (@Prod Int (@Prod (@List UInt8) Bool)))))) => (fun (y18 : Int) => (fun (y19 : Int) => (@F_strings_Builder_WriteByte k R s6 y18 (fun (y20 : (@List Int)) => (E1003 y13 y14 y15 y16 y17 s5 y20 (@Go.IntKind.wrap Go.IntKind.i64 (@HAdd.hAdd Int Int Int (@instHAdd Int @Int.instAdd) (@Go.IntKind.wrap Go.IntKind.i64 (@HAdd.hAdd Int Int Int (@instHAdd Int @Int.instAdd) s7 y19)) (1 : Int))))))))))))) (fun (y13 : Int) => (fun (y14 : Int) => (fun (y15 : (@List UInt8)) => (fun (y16 : Int) => (fun (y17 : (@List (@Prod Int (@Prod Int (@Prod Int (@Prod (@List UInt8) Bool)))))) => (fun (y18 : Int) => (fun (y19 : Int) => (E y13 y14 y15 y16 y17 y18 y19))))))))) (@Option.none R)) (@cond (@Option R) (@inb s7 (@Nat.cast Int instNatCastInt (@List.length UInt8 s5))) (@F_strings_Builder_WriteByte k R s6 (@Nat.cast Int instNatCastInt (@UInt8.toNat (@List.getD UInt8 s5 (@Int.toNat s7) (0 : UInt8)))) (fun (y13 : (@List Int)) => (E1003 s0 s1 s2 s3 s4 s5 y13 (@Go.IntKind.wrap Go.IntKind.i64 (@HAdd.hAdd Int Int Int (@instHAdd Int @Int.instAdd) s7 (1 : Int)))))) (@Option.none R)))) (@Option.none R)) (@F_lex_lexer_gives k R s0 s1 s2 s3 s4 (3 : Int) (fun (y13 : Int) => (fun (y14 : Int) => (fun (y15 : (@List UInt8)) => (fun (y16 : Int) => (fun (y17 : (@List (@Prod Int (@Prod Int (@Prod Int (@Prod (@List UInt8) Bool)))))) => (K y13 y14 y15 y16 y17 (@Array.toList UInt8 (@ByteArray.data (@ByteArray.mk (@List.toArray UInt8 [])))) (0 : Int))))))) (fun (y13 : Int) => (fun (y14 : Int) => (fun (y15 : (@List UInt8)) => (fun (y16 : Int) => (fun (y17 : (@List (@Prod Int (@Prod Int (@Prod Int (@Prod (@List UInt8) Bool)))))) => (fun (y18 : Int) => (fun (y19 : Int) => (E y13 y14 y15 y16 y17 y18 y19))))))))))
theorem B_lex_lexer_double_1003_eq (k : Nat) {R : Type} (I : Nat → St → Option R) (s0 : Int) (s1 : Int) (s2 : (List UInt8)) (s3 : Int) (s4 : (List (Int × (Int × (Int × ((List UInt8) × Bool)))))) (s5 : (List UInt8)) (s6 : (List Int)) (s7 : Int) (K : KT_lex_lexer_double R) (E : ET_lex_lexer_double R) : execK (cx_lex_lexer_double k) k (at_ [1, 1, 0, 1, 0, 0] code_lex_lexer_double) (st_lex_lexer_double_1003 s0 s1 s2 s3 s4 s5 s6 s7) (konts (cx_lex_lexer_double k) k I [1, 1, 0, 1, 0, 0] code_lex_lexer_double (outK (cx_lex_lexer_double k) sp_lex_lexer_double [.tmp 4, .tmp 5] (wrap_lex_lexer_double K E))) = B_lex_lexer_double_1003 k (fun s0 s1 s2 s3 s4 s5 s6 s7 => I 1003 (st_lex_lexer_double_1003 s0 s1 s2 s3 s4 s5 s6 s7)) s0 s1 s2 s3 s4 s5 s6 s7 K E := by kernel_rfl
noncomputable def A_lex_lexer_double (k : Nat) {R : Type} (E1003 : (Int → Int → (List UInt8) → Int → (List (Int × (Int × (Int × ((List UInt8) × Bool))))) → (List UInt8) → (List Int) → Int → Option R)) (x0 : Int) (x1 : Int) (x2 : (List UInt8)) (x3 : Int) (x4 : (List (Int × (Int × (Int × ((List UInt8) × Bool)))))) (x5 : (List UInt8)) (K : KT_lex_lexer_double R) (E : ET_lex_lexer_double R) : Option R := (E1003 x0 x1 x2 x3 x4 x5 [] (1 : Int))
theorem A_lex_lexer_double_eq (k : Nat) {R : Type} (I : Nat → St → Option R) (x0 : Int) (x1 : Int) (x2 : (List UInt8)) (x3 : Int) (x4 : (List (Int × (Int × (Int × ((List UInt8) × Bool)))))) (x5 : (List UInt8)) (K : KT_lex_lexer_double R) (E : ET_lex_lexer_double R) : fnK (cx_lex_lexer_double k) k code_lex_lexer_double 46 [.tmp 4, .tmp 5] sp_lex_lexer_double [.ptr 1 0, .v .str x5] [(21, .row 25 (.pr (.int .i64) (.pr (.int .i64) (.pr (.int .i64) (.pr .str .bool)))) x4), (1, .var 111 [.v (.int .i64) x0, .v (.int .i64) x1, .v .str x2, .v (.int .i64) x3, .row 21])] (wrap_lex_lexer_double K E) = A_lex_lexer_double k (fun s0 s1 s2 s3 s4 s5 s6 s7 => iter (cx_lex_lexer_double k).pv (look (cx_lex_lexer_double k).cuts 1003) (execK (cx_lex_lexer_double k) k (at_ [1, 1, 0, 1, 0, 0] code_lex_lexer_double)) k (st_lex_lexer_double_1003 s0 s1 s2 s3 s4 s5 s6 s7) (konts (cx_lex_lexer_double k) k I [1, 1, 0, 1, 0] code_lex_lexer_double (outK (cx_lex_lexer_double k) sp_lex_lexer_double [.tmp 4, .tmp 5] (wrap_lex_lexer_double K E)))) x0 x1 x2 x3 x4 x5 K E := by kernel_rfl
noncomputable def L_lex_lexer_double_1003 (k : Nat) {R : Type}  : Nat → Int → Int → (List UInt8) → Int → (List (Int × (Int × (Int × ((List UInt8) × Bool))))) → (List UInt8) → (List Int) → Int → (Int → Int → (List UInt8) → Int → (List (Int × (Int × (Int × ((List UInt8) × Bool))))) → (List UInt8) → Int → Option R) → (Int → Int → (List UInt8) → Int → (List (Int × (Int × (Int × ((List UInt8) × Bool))))) → Int → Int → Option R) → Option R
  | 0, _, _, _, _, _, _, _, _, _, _ => none
  | n + 1, s0, s1, s2, s3, s4, s5, s6, s7, K, E => B_lex_lexer_double_1003 k (fun s0 s1 s2 s3 s4 s5 s6 s7 => L_lex_lexer_double_1003 k  n s0 s1 s2 s3 s4 s5 s6 s7 K E) s0 s1 s2 s3 s4 s5 s6 s7 K E
theorem L_lex_lexer_double_1003_eq (k : Nat) {R : Type} (I : Nat → St → Option R) (K : KT_lex_lexer_double R) (E : ET_lex_lexer_double R) : ∀ (n : Nat) (s0 : Int) (s1 : Int) (s2 : (List UInt8)) (s3 : Int) (s4 : (List (Int × (Int × (Int × ((List UInt8) × Bool)))))) (s5 : (List UInt8)) (s6 : (List Int)) (s7 : Int), iter (cx_lex_lexer_double k).pv (look (cx_lex_lexer_double k).cuts 1003) (execK (cx_lex_lexer_double k) k (at_ [1, 1, 0, 1, 0, 0] code_lex_lexer_double)) n (st_lex_lexer_double_1003 s0 s1 s2 s3 s4 s5 s6 s7) (konts (cx_lex_lexer_double k) k I [1, 1, 0, 1, 0] code_lex_lexer_double (outK (cx_lex_lexer_double k) sp_lex_lexer_double [.tmp 4, .tmp 5] (wrap_lex_lexer_double K E))) = L_lex_lexer_double_1003 k  n s0 s1 s2 s3 s4 s5 s6 s7 K E := by
  intro n
  induction n with
  | zero => intros; rfl
  | succ n ih =>
    intro s0 s1 s2 s3 s4 s5 s6 s7
    let I' : Nat → St → Option R := fun id s => bif Nat.beq id 1003 then iter (cx_lex_lexer_double k).pv (look (cx_lex_lexer_double k).cuts 1003) (execK (cx_lex_lexer_double k) k (at_ [1, 1, 0, 1, 0, 0] code_lex_lexer_double)) n s (konts (cx_lex_lexer_double k) k I [1, 1, 0, 1, 0] code_lex_lexer_double (outK (cx_lex_lexer_double k) sp_lex_lexer_double [.tmp 4, .tmp 5] (wrap_lex_lexer_double K E))) else I id s
    have e := B_lex_lexer_double_1003_eq k I' s0 s1 s2 s3 s4 s5 s6 s7 K E
    have h1003 : (fun s0 s1 s2 s3 s4 s5 s6 s7 => I' 1003 (st_lex_lexer_double_1003 s0 s1 s2 s3 s4 s5 s6 s7)) = (fun s0 s1 s2 s3 s4 s5 s6 s7 => L_lex_lexer_double_1003 k  n s0 s1 s2 s3 s4 s5 s6 s7 K E) := by funext s0 s1 s2 s3 s4 s5 s6 s7; exact ih s0 s1 s2 s3 s4 s5 s6 s7
    refine Eq.trans (?_ : _ = _) (e.trans (Eq.trans ((congrArg ((fun E1003 => B_lex_lexer_double_1003 k E1003 s0 s1 s2 s3 s4 s5 s6 s7 K E)) h1003)) (by rw [L_lex_lexer_double_1003])))
    rfl
noncomputable def F_lex_lexer_double (k : Nat) {R : Type} (x0 : Int) (x1 : Int) (x2 : (List UInt8)) (x3 : Int) (x4 : (List (Int × (Int × (Int × ((List UInt8) × Bool)))))) (x5 : (List UInt8)) (K : KT_lex_lexer_double R) (E : ET_lex_lexer_double R) : Option R := A_lex_lexer_double k (fun s0 s1 s2 s3 s4 s5 s6 s7 => L_lex_lexer_double_1003 k k s0 s1 s2 s3 s4 s5 s6 s7 K E) x0 x1 x2 x3 x4 x5 K E
theorem F_lex_lexer_double_eq (k : Nat) {R : Type} (x0 : Int) (x1 : Int) (x2 : (List UInt8)) (x3 : Int) (x4 : (List (Int × (Int × (Int × ((List UInt8) × Bool)))))) (x5 : (List UInt8)) (K : KT_lex_lexer_double R) (E : ET_lex_lexer_double R) : fnK (cx_lex_lexer_double k) k code_lex_lexer_double 46 [.tmp 4, .tmp 5] sp_lex_lexer_double [.ptr 1 0, .v .str x5] [(21, .row 25 (.pr (.int .i64) (.pr (.int .i64) (.pr (.int .i64) (.pr .str .bool)))) x4), (1, .var 111 [.v (.int .i64) x0, .v (.int .i64) x1, .v .str x2, .v (.int .i64) x3, .row 21])] (wrap_lex_lexer_double K E) = F_lex_lexer_double k x0 x1 x2 x3 x4 x5 K E := by
  let I : Nat → St → Option R := fun _ _ => none
  have h1003 : (fun s0 s1 s2 s3 s4 s5 s6 s7 => iter (cx_lex_lexer_double k).pv (look (cx_lex_lexer_double k).cuts 1003) (execK (cx_lex_lexer_double k) k (at_ [1, 1, 0, 1, 0, 0] code_lex_lexer_double)) k (st_lex_lexer_double_1003 s0 s1 s2 s3 s4 s5 s6 s7) (konts (cx_lex_lexer_double k) k I [1, 1, 0, 1, 0] code_lex_lexer_double (outK (cx_lex_lexer_double k) sp_lex_lexer_double [.tmp 4, .tmp 5] (wrap_lex_lexer_double K E)))) = (fun s0 s1 s2 s3 s4 s5 s6 s7 => L_lex_lexer_double_1003 k k s0 s1 s2 s3 s4 s5 s6 s7 K E) := by funext s0 s1 s2 s3 s4 s5 s6 s7; exact L_lex_lexer_double_1003_eq k I K E k s0 s1 s2 s3 s4 s5 s6 s7
  exact (A_lex_lexer_double_eq k I x0 x1 x2 x3 x4 x5 K E).trans (congrArg ((fun E1003 => A_lex_lexer_double k E1003 x0 x1 x2 x3 x4 x5 K E)) h1003)
noncomputable def run_lex_lexer_double (k : Nat) {R : Type} : List PV → List (Nm × HObj) → (Out → Option R) → Option R
  | [.ptr 1 0, .v .str x5], [(21, .row 25 (.pr (.int .i64) (.pr (.int .i64) (.pr (.int .i64) (.pr .str .bool)))) x4), (1, .var 111 [.v (.int .i64) x0, .v (.int .i64) x1, .v .str x2, .v (.int .i64) x3, .row 21])], K => F_lex_lexer_double k x0 x1 x2 x3 x4 x5 (fun y0 y1 y2 y3 y4 y5 y6 => K (.ret [.v .str y5, .v (.int .i64) y6] [(21, .row 25 (.pr (.int .i64) (.pr (.int .i64) (.pr (.int .i64) (.pr .str .bool)))) y4), (1, .var 111 [.v (.int .i64) y0, .v (.int .i64) y1, .v .str y2, .v (.int .i64) y3, .row 21])])) (fun z0 z1 z2 z3 z4 z5 z6 => K (.pan (.ifc 30 (.agg [.v (.int .i64) z5, .v (.int .i64) z6])) [(21, .row 25 (.pr (.int .i64) (.pr (.int .i64) (.pr (.int .i64) (.pr .str .bool)))) z4), (1, .var 111 [.v (.int .i64) z0, .v (.int .i64) z1, .v .str z2, .v (.int .i64) z3, .row 21])]))
  | _, _, _ => none
theorem C_lex_lexer_double_ok (k : Nat) : (C_lex_lexer_double k).Ok Tryd.prog := by
  intro f ps hp R K r h
  unfold C_lex_lexer_double at h
  simp only at h
  cases hb27 : Nat.beq f 27 with
  | true => rw [hb27, cond_true] at h; rw [Nat.eq_of_beq_eq_true hb27]; exact D_strings_Builder_String k h
  | false =>
  rw [hb27, cond_false] at h
  cases hb68 : Nat.beq f 68 with
  | true => rw [hb68, cond_true] at h; rw [Nat.eq_of_beq_eq_true hb68]; exact D_lex_lexer_gives k h
  | false =>
  rw [hb68, cond_false] at h
  cases hb99 : Nat.beq f 99 with
  | true => rw [hb99, cond_true] at h; rw [Nat.eq_of_beq_eq_true hb99]; exact D_strings_Builder_WriteByte k h
  | false =>
  rw [hb99, cond_false] at h
  cases hb100 : Nat.beq f 100 with
  | true => rw [hb100, cond_true] at h; rw [Nat.eq_of_beq_eq_true hb100]; exact D_lex_lexer_taken k h
  | false =>
  rw [hb100, cond_false] at h
  cases h
theorem D_lex_lexer_double (k : Nat) {ps : List PV} {hp : List (Nm × HObj)} {R : Type} {K : Out → Option R} {r : R} (h : run_lex_lexer_double k ps hp K = some r) : DoesTo Tryd.prog 88 ps hp fun out => K out = some r := by
  unfold run_lex_lexer_double at h
  split at h
  · rw [← F_lex_lexer_double_eq] at h
    have := fn_ok (P := Tryd.prog) (cx := cx_lex_lexer_double k) (f := 88) ⟨tyT_ok, C_lex_lexer_double_ok k, fun _ _ => rfl⟩ (by kernel_rfl) (fn := Tryd.f88) (c := code_lex_lexer_double) (by kernel_rfl) (by kernel_rfl) (by kernel_rfl) (rs := [.tmp 4, .tmp 5]) (by kernel_rfl) (by kernel_rfl) h
    exact this.mono fun out ho => by
      unfold wrap_lex_lexer_double at ho
      split at ho <;> first | exact ho | cases ho
  · cases h
end Go.Proofs.YtpfbdepoammjmaaDoor.Pvm

set_option maxRecDepth 1000000
set_option maxHeartbeats 0
namespace Go.Proofs.YtpfbdepoammjmaaDoor.Pvm
open Go Go.Proofs
abbrev KT_lex_lexer_single (R : Type) : Type := (Int → Int → (List UInt8) → Int → (List (Int × (Int × (Int × ((List UInt8) × Bool))))) → (List UInt8) → Int → Option R)
abbrev ET_lex_lexer_single (R : Type) : Type := (Int → Int → (List UInt8) → Int → (List (Int × (Int × (Int × ((List UInt8) × Bool))))) → Int → Int → Option R)
def sig_lex_lexer_single : List LS := [.obj 1 [.any, .any, .any, .any, .own 21 25 (.pr (.int .i64) (.pr (.int .i64) (.pr (.int .i64) (.pr .str .bool))))], .any]
noncomputable def C_lex_lexer_single (k : Nat) : CTab := ⟨fun f => bif Nat.beq f 27 then sig_strings_Builder_String else bif Nat.beq f 68 then sig_lex_lexer_gives else bif Nat.beq f 99 then sig_strings_Builder_WriteByte else [], fun f {_} ps hp K => bif Nat.beq f 27 then run_strings_Builder_String k ps hp K else bif Nat.beq f 68 then run_lex_lexer_gives k ps hp K else bif Nat.beq f 99 then run_strings_Builder_WriteByte k ps hp K else none⟩
def wrap_lex_lexer_single {R : Type} (K : KT_lex_lexer_single R) (E : ET_lex_lexer_single R) : Out → Option R
  | .ret [.v .str y5, .v (.int .i64) y6] [(21, .row 25 (.pr (.int .i64) (.pr (.int .i64) (.pr (.int .i64) (.pr .str .bool)))) y4), (1, .var 111 [.v (.int .i64) y0, .v (.int .i64) y1, .v .str y2, .v (.int .i64) y3, .row 21])] => K y0 y1 y2 y3 y4 y5 y6
  | .pan (.ifc 30 (.agg [.v (.int .i64) z5, .v (.int .i64) z6])) [(21, .row 25 (.pr (.int .i64) (.pr (.int .i64) (.pr (.int .i64) (.pr .str .bool)))) z4), (1, .var 111 [.v (.int .i64) z0, .v (.int .i64) z1, .v .str z2, .v (.int .i64) z3, .row 21])] => E z0 z1 z2 z3 z4 z5 z6
  | _ => none
def sp_lex_lexer_single : RetSpec := ⟨[.any, .any], [(1, .obj 1 [.any, .any, .any, .any, .own 21 25 (.pr (.int .i64) (.pr (.int .i64) (.pr (.int .i64) (.pr .str .bool))))])], [(1, .obj 1 [.any, .any, .any, .any, .own 21 25 (.pr (.int .i64) (.pr (.int .i64) (.pr (.int .i64) (.pr .str .bool))))])]⟩
def cuts_lex_lexer_single : List (Nat × CutSpec) := [(1003, ⟨[(0, .obj 1 [.any, .any, .any, .any, .own 21 25 (.pr (.int .i64) (.pr (.int .i64) (.pr (.int .i64) (.pr .str .bool))))]), (1, .any), (6, .obj 16 [.nps 16, .own 36 5 (.int .u8)]), (7, .any)], [(1, .obj 1 [.any, .any, .any, .any, .own 21 25 (.pr (.int .i64) (.pr (.int .i64) (.pr (.int .i64) (.pr .str .bool))))])]⟩)]
def plans_lex_lexer_single : List (Nat × Plan) := []
noncomputable def cx_lex_lexer_single (k : Nat) : Ctx := ⟨tyT, cuts_lex_lexer_single, C_lex_lexer_single k, [], [1], plans_lex_lexer_single, @SH⟩
noncomputable def code_lex_lexer_single : Code := Tryd.f87.body.getD .skip
def st_lex_lexer_single_1003 (s0 : Int) (s1 : Int) (s2 : (List UInt8)) (s3 : Int) (s4 : (List (Int × (Int × (Int × ((List UInt8) × Bool)))))) (s5 : (List UInt8)) (s6 : (List Int)) (s7 : Int) : St := ⟨mkT [(0, .ptr 1 0), (1, .v .str s5), (6, .ptr 16 0), (7, .v (.int .i64) s7)], mkH [(21, .row 25 (.pr (.int .i64) (.pr (.int .i64) (.pr (.int .i64) (.pr .str .bool)))) s4), (1, .var 111 [.v (.int .i64) s0, .v (.int .i64) s1, .v .str s2, .v (.int .i64) s3, .row 21]), (36, .row 5 (.int .u8) s6), (16, .var 67 [.nps 16, .row 36])]⟩
noncomputable def B_lex_lexer_single_1003 (k : Nat) {R : Type} (E1003 : (Int → Int → (List UInt8) → Int → (List (Int × (Int × (Int × ((List UInt8) × Bool))))) → (List UInt8) → (List Int) → Int → Option R)) (s0 : Int) (s1 : Int) (s2 : (List UInt8)) (s3 : Int) (s4 : (List (Int × (Int × (Int × ((List UInt8) × Bool)))))) (s5 : (List UInt8)) (s6 : (List Int)) (s7 : Int) (K : KT_lex_lexer_single R) (E : ET_lex_lexer_single R) : Option R := (@cond (@Option R) (@Decidable.decide (@LT.lt Int Int.instLTInt s7 (@Nat.cast Int instNatCastInt (@List.length UInt8 s5))) (@Int.decLt s7 (@Nat.cast Int instNatCastInt (@List.length UInt8 s5)))) (@cond (@Option R) (@inb s7 (@Nat.cast Int instNatCastInt (@List.length UInt8 s5))) (@cond (@Option R) (@bne Int (@instBEqOfDecidableEq Int @Int.instDecidableEq) (@Nat.cast Int instNatCastInt (@UInt8.toNat (@List.getD UInt8 s5 (@Int.toNat s7) (0 : UInt8)))) (39 : Int)) (@cond (@Option R) (@inb s7 (@Nat.cast Int instNatCastInt (@List.length UInt8 s5))) (@F_strings_Builder_WriteByte k R s6 (@Nat.cast Int instNatCastInt (@UInt8.toNat (@List.getD UInt8 s5 (@Int.toNat s7) (0 : UInt8)))) (fun (y13 : (@List Int)) => (E1003 s0 s1 s2 s3 s4 s5 y13 (@Go.IntKind.wrap Go.IntKind.i64 (@HAdd.hAdd Int Int Int (@instHAdd Int @Int.instAdd) s7 (1 : Int)))))) (@Option.none R)) (@cond (@Option R) (@Bool.or (@Bool.not (@BEq.beq (@Kd.T Kd.bool) (@instBEqOfDecidableEq (@Kd.T Kd.bool) @instDecidableEqBool) (@Decidable.decide (@GE.ge Int Int.instLEInt (@Go.IntKind.wrap Go.IntKind.i64 (@HAdd.hAdd Int Int Int (@instHAdd Int @Int.instAdd) s7 (1 : Int))) (@Nat.cast Int instNatCastInt (@List.length UInt8 s5))) (@Int.decLe (@Nat.cast Int instNatCastInt (@List.length UInt8 s5)) (@Go.IntKind.wrap Go.IntKind.i64 (@HAdd.hAdd Int Int Int (@instHAdd Int @Int.instAdd) s7 (1 : Int))))) Bool.false)) (@inb (@Go.IntKind.wrap Go.IntKind.i64 (@HAdd.hAdd Int Int Int (@instHAdd Int @Int.instAdd) s7 (1 : Int))) (@Nat.cast Int instNatCastInt (@List.length UInt8 s5)))) (@cond (@Option R) (@cond (@Kd.T Kd.bool) (@Decidable.decide (@GE.ge Int Int.instLEInt (@Go.IntKind.wrap Go.IntKind.i64 (@HAdd.hAdd Int Int Int (@instHAdd Int @Int.instAdd) s7 (1 : Int))) (@Nat.cast Int instNatCastInt (@List.length UInt8 s5))) (@Int.decLe (@Nat.cast Int instNatCastInt (@List.length UInt8 s5)) (@Go.IntKind.wrap Go.IntKind.i64 (@HAdd.hAdd Int Int Int (@instHAdd Int @Int.instAdd) s7 (1 : Int))))) Bool.true (@bne Int (@instBEqOfDecidableEq Int @Int.instDecidableEq) (@Nat.cast Int instNatCastInt (@UInt8.toNat (@List.getD UInt8 s5 (@Int.toNat (@Go.IntKind.wrap Go.IntKind.i64 (@HAdd.hAdd Int Int Int (@instHAdd Int @Int.instAdd) s7 (1 : Int)))) (0 : UInt8)))) (39 : Int))) (@F_strings_Builder_String k R s6 (fun (y13 : (@List Int)) => (fun (y14 : (@List UInt8)) => (K s0 s1 s2 s3 s4 y14 (@Go.IntKind.wrap Go.IntKind.i64 (@HAdd.hAdd Int Int Int (@instHAdd Int @Int.instAdd) s7 (1 : Int))))))) (@F_strings_Builder_WriteByte k R s6 (39 : Int) (fun (y13 : (@List Int)) => (E1003 s0 s1 s2 s3 s4 s5 y13 (@Go.IntKind.wrap Go.IntKind.i64 (@HAdd.hAdd Int Int Int (@instHAdd Int @Int.instAdd) (@Go.IntKind.wrap Go.IntKind.i64 (@HAdd.hAdd Int Int Int (@instHAdd Int @Int.instAdd) s7 (1 : Int))) (1 : Int))))))) (@Option.none R))) (@Option.none R)) (@F_lex_lexer_gives k R s0 s1 s2 s3 s4 (3 : Int) (fun (y13 : Int) => (fun (y14 : Int) => (fun (y15 : (@List UInt8)) => (fun (y16 : Int) => (fun (y17 : (@List (@Prod Int (@Prod Int (@Prod Int (@Prod (@List UInt8) Bool)))))) => (K y13 y14 y15 y16 y17 (@Array.toList UInt8 (@ByteArray.data (@ByteArray.mk (@List.toArray UInt8 [])))) (0 : Int))))))) (fun (y13 : Int) => (fun (y14 : Int) => (fun (y15 : (@List UInt8)) => (fun (y16 : Int) => (fun (y17 : (@List (@Prod Int (@Prod Int (@Prod Int (@Prod (@List UInt8) Bool)))))) => (fun (y18 : Int) => (fun (y19 : Int) => (E y13 y14 y15 y16 y17 y18 y19))))))))))
theorem B_lex_lexer_single_1003_eq (k : Nat) {R : Type} (I : Nat → St → Option R) (s0 : Int) (s1 : Int) (s2 : (List UInt8)) (s3 : Int) (s4 : (List (Int × (Int × (Int × ((List UInt8) × Bool)))))) (s5 : (List UInt8)) (s6 : (List Int)) (s7 : Int) (K : KT_lex_lexer_single R) (E : ET_lex_lexer_single R) : execK (cx_lex_lexer_single k) k (at_ [1, 1, 0, 1, 0, 0] code_lex_lexer_single) (st_lex_lexer_single_1003 s0 s1 s2 s3 s4 s5 s6 s7) (konts (cx_lex_lexer_single k) k I [1, 1, 0, 1, 0, 0] code_lex_lexer_single (outK (cx_lex_lexer_single k) sp_lex_lexer_single [.tmp 4, .tmp 5] (wrap_lex_lexer_single K E))) = B_lex_lexer_single_1003 k (fun s0 s1 s2 s3 s4 s5 s6 s7 => I 1003 (st_lex_lexer_single_1003 s0 s1 s2 s3 s4 s5 s6 s7)) s0 s1 s2 s3 s4 s5 s6 s7 K E := by kernel_rfl
noncomputable def A_lex_lexer_single (k : Nat) {R : Type} (E1003 : (Int → Int → (List UInt8) → Int → (List (Int × (Int × (Int × ((List UInt8) × Bool))))) → (List UInt8) → (List Int) → Int → Option R)) (x0 : Int) (x1 : Int) (x2 : (List UInt8)) (x3 : Int) (x4 : (List (Int × (Int × (Int × ((List UInt8) × Bool)))))) (x5 : (List UInt8)) (K : KT_lex_lexer_single R) (E : ET_lex_lexer_single R) : Option R := (E1003 x0 x1 x2 x3 x4 x5 [] (1 : Int))
theorem A_lex_lexer_single_eq (k : Nat) {R : Type} (I : Nat → St → Option R) (x0 : Int) (x1 : Int) (x2 : (List UInt8)) (x3 : Int) (x4 : (List (Int × (Int × (Int × ((List UInt8) × Bool)))))) (x5 : (List UInt8)) (K : KT_lex_lexer_single R) (E : ET_lex_lexer_single R) : fnK (cx_lex_lexer_single k) k code_lex_lexer_single 42 [.tmp 4, .tmp 5] sp_lex_lexer_single [.ptr 1 0, .v .str x5] [(21, .row 25 (.pr (.int .i64) (.pr (.int .i64) (.pr (.int .i64) (.pr .str .bool)))) x4), (1, .var 111 [.v (.int .i64) x0, .v (.int .i64) x1, .v .str x2, .v (.int .i64) x3, .row 21])] (wrap_lex_lexer_single K E) = A_lex_lexer_single k (fun s0 s1 s2 s3 s4 s5 s6 s7 => iter (cx_lex_lexer_single k).pv (look (cx_lex_lexer_single k).cuts 1003) (execK (cx_lex_lexer_single k) k (at_ [1, 1, 0, 1, 0, 0] code_lex_lexer_single)) k (st_lex_lexer_single_1003 s0 s1 s2 s3 s4 s5 s6 s7) (konts (cx_lex_lexer_single k) k I [1, 1, 0, 1, 0] code_lex_lexer_single (outK (cx_lex_lexer_single k) sp_lex_lexer_single [.tmp 4, .tmp 5] (wrap_lex_lexer_single K E)))) x0 x1 x2 x3 x4 x5 K E := by kernel_rfl
noncomputable def L_lex_lexer_single_1003 (k : Nat) {R : Type}  : Nat → Int → Int → (List UInt8) → Int → (List (Int × (Int × (Int × ((List UInt8) × Bool))))) → (List UInt8) → (List Int) → Int → (Int → Int → (List UInt8) → Int → (List (Int × (Int × (Int × ((List UInt8) × Bool))))) → (List UInt8) → Int → Option R) → (Int → Int → (List UInt8) → Int → (List (Int × (Int × (Int × ((List UInt8) × Bool))))) → Int → Int → Option R) → Option R
  | 0, _, _, _, _, _, _, _, _, _, _ => none
  | n + 1, s0, s1, s2, s3, s4, s5, s6, s7, K, E => B_lex_lexer_single_1003 k (fun s0 s1 s2 s3 s4 s5 s6 s7 => L_lex_lexer_single_1003 k  n s0 s1 s2 s3 s4 s5 s6 s7 K E) s0 s1 s2 s3 s4 s5 s6 s7 K E
theorem L_lex_lexer_single_1003_eq (k : Nat) {R : Type} (I : Nat → St → Option R) (K : KT_lex_lexer_single R) (E : ET_lex_lexer_single R) : ∀ (n : Nat) (s0 : Int) (s1 : Int) (s2 : (List UInt8)) (s3 : Int) (s4 : (List (Int × (Int × (Int × ((List UInt8) × Bool)))))) (s5 : (List UInt8)) (s6 : (List Int)) (s7 : Int), iter (cx_lex_lexer_single k).pv (look (cx_lex_lexer_single k).cuts 1003) (execK (cx_lex_lexer_single k) k (at_ [1, 1, 0, 1, 0, 0] code_lex_lexer_single)) n (st_lex_lexer_single_1003 s0 s1 s2 s3 s4 s5 s6 s7) (konts (cx_lex_lexer_single k) k I [1, 1, 0, 1, 0] code_lex_lexer_single (outK (cx_lex_lexer_single k) sp_lex_lexer_single [.tmp 4, .tmp 5] (wrap_lex_lexer_single K E))) = L_lex_lexer_single_1003 k  n s0 s1 s2 s3 s4 s5 s6 s7 K E := by
  intro n
  induction n with
  | zero => intros; rfl
  | succ n ih =>
    intro s0 s1 s2 s3 s4 s5 s6 s7
    let I' : Nat → St → Option R := fun id s => bif Nat.beq id 1003 then iter (cx_lex_lexer_single k).pv (look (cx_lex_lexer_single k).cuts 1003) (execK (cx_lex_lexer_single k) k (at_ [1, 1, 0, 1, 0, 0] code_lex_lexer_single)) n s (konts (cx_lex_lexer_single k) k I [1, 1, 0, 1, 0] code_lex_lexer_single (outK (cx_lex_lexer_single k) sp_lex_lexer_single [.tmp 4, .tmp 5] (wrap_lex_lexer_single K E))) else I id s
    have e := B_lex_lexer_single_1003_eq k I' s0 s1 s2 s3 s4 s5 s6 s7 K E
    have h1003 : (fun s0 s1 s2 s3 s4 s5 s6 s7 => I' 1003 (st_lex_lexer_single_1003 s0 s1 s2 s3 s4 s5 s6 s7)) = (fun s0 s1 s2 s3 s4 s5 s6 s7 => L_lex_lexer_single_1003 k  n s0 s1 s2 s3 s4 s5 s6 s7 K E) := by funext s0 s1 s2 s3 s4 s5 s6 s7; exact ih s0 s1 s2 s3 s4 s5 s6 s7
    refine Eq.trans (?_ : _ = _) (e.trans (Eq.trans ((congrArg ((fun E1003 => B_lex_lexer_single_1003 k E1003 s0 s1 s2 s3 s4 s5 s6 s7 K E)) h1003)) (by rw [L_lex_lexer_single_1003])))
    rfl
noncomputable def F_lex_lexer_single (k : Nat) {R : Type} (x0 : Int) (x1 : Int) (x2 : (List UInt8)) (x3 : Int) (x4 : (List (Int × (Int × (Int × ((List UInt8) × Bool)))))) (x5 : (List UInt8)) (K : KT_lex_lexer_single R) (E : ET_lex_lexer_single R) : Option R := A_lex_lexer_single k (fun s0 s1 s2 s3 s4 s5 s6 s7 => L_lex_lexer_single_1003 k k s0 s1 s2 s3 s4 s5 s6 s7 K E) x0 x1 x2 x3 x4 x5 K E
theorem F_lex_lexer_single_eq (k : Nat) {R : Type} (x0 : Int) (x1 : Int) (x2 : (List UInt8)) (x3 : Int) (x4 : (List (Int × (Int × (Int × ((List UInt8) × Bool)))))) (x5 : (List UInt8)) (K : KT_lex_lexer_single R) (E : ET_lex_lexer_single R) : fnK (cx_lex_lexer_single k) k code_lex_lexer_single 42 [.tmp 4, .tmp 5] sp_lex_lexer_single [.ptr 1 0, .v .str x5] [(21, .row 25 (.pr (.int .i64) (.pr (.int .i64) (.pr (.int .i64) (.pr .str .bool)))) x4), (1, .var 111 [.v (.int .i64) x0, .v (.int .i64) x1, .v .str x2, .v (.int .i64) x3, .row 21])] (wrap_lex_lexer_single K E) = F_lex_lexer_single k x0 x1 x2 x3 x4 x5 K E := by
  let I : Nat → St → Option R := fun _ _ => none
  have h1003 : (fun s0 s1 s2 s3 s4 s5 s6 s7 => iter (cx_lex_lexer_single k).pv (look (cx_lex_lexer_single k).cuts 1003) (execK (cx_lex_lexer_single k) k (at_ [1, 1, 0, 1, 0, 0] code_lex_lexer_single)) k (st_lex_lexer_single_1003 s0 s1 s2 s3 s4 s5 s6 s7) (konts (cx_lex_lexer_single k) k I [1, 1, 0, 1, 0] code_lex_lexer_single (outK (cx_lex_lexer_single k) sp_lex_lexer_single [.tmp 4, .tmp 5] (wrap_lex_lexer_single K E)))) = (fun s0 s1 s2 s3 s4 s5 s6 s7 => L_lex_lexer_single_1003 k k s0 s1 s2 s3 s4 s5 s6 s7 K E) := by funext s0 s1 s2 s3 s4 s5 s6 s7; exact L_lex_lexer_single_1003_eq k I K E k s0 s1 s2 s3 s4 s5 s6 s7
  exact (A_lex_lexer_single_eq k I x0 x1 x2 x3 x4 x5 K E).trans (congrArg ((fun E1003 => A_lex_lexer_single k E1003 x0 x1 x2 x3 x4 x5 K E)) h1003)
noncomputable def run_lex_lexer_single (k : Nat) {R : Type} : List PV → List (Nm × HObj) → (Out → Option R) → Option R
  | [.ptr 1 0, .v .str x5], [(21, .row 25 (.pr (.int .i64) (.pr (.int .i64) (.pr (.int .i64) (.pr .str .bool)))) x4), (1, .var 111 [.v (.int .i64) x0, .v (.int .i64) x1, .v .str x2, .v (.int .i64) x3, .row 21])], K => F_lex_lexer_single k x0 x1 x2 x3 x4 x5 (fun y0 y1 y2 y3 y4 y5 y6 => K (.ret [.v .str y5, .v (.int .i64) y6] [(21, .row 25 (.pr (.int .i64) (.pr (.int .i64) (.pr (.int .i64) (.pr .str .bool)))) y4), (1, .var 111 [.v (.int .i64) y0, .v (.int .i64) y1, .v .str y2, .v (.int .i64) y3, .row 21])])) (fun z0 z1 z2 z3 z4 z5 z6 => K (.pan (.ifc 30 (.agg [.v (.int .i64) z5, .v (.int .i64) z6])) [(21, .row 25 (.pr (.int .i64) (.pr (.int .i64) (.pr (.int .i64) (.pr .str .bool)))) z4), (1, .var 111 [.v (.int .i64) z0, .v (.int .i64) z1, .v .str z2, .v (.int .i64) z3, .row 21])]))
  | _, _, _ => none
theorem C_lex_lexer_single_ok (k : Nat) : (C_lex_lexer_single k).Ok Tryd.prog := by
  intro f ps hp R K r h
  unfold C_lex_lexer_single at h
  simp only at h
  cases hb27 : Nat.beq f 27 with
  | true => rw [hb27, cond_true] at h; rw [Nat.eq_of_beq_eq_true hb27]; exact D_strings_Builder_String k h
  | false =>
  rw [hb27, cond_false] at h
  cases hb68 : Nat.beq f 68 with
  | true => rw [hb68, cond_true] at h; rw [Nat.eq_of_beq_eq_true hb68]; exact D_lex_lexer_gives k h
  | false =>
  rw [hb68, cond_false] at h
  cases hb99 : Nat.beq f 99 with
  | true => rw [hb99, cond_true] at h; rw [Nat.eq_of_beq_eq_true hb99]; exact D_strings_Builder_WriteByte k h
  | false =>
  rw [hb99, cond_false] at h
  cases h
theorem D_lex_lexer_single (k : Nat) {ps : List PV} {hp : List (Nm × HObj)} {R : Type} {K : Out → Option R} {r : R} (h : run_lex_lexer_single k ps hp K = some r) : DoesTo Tryd.prog 87 ps hp fun out => K out = some r := by
  unfold run_lex_lexer_single at h
  split at h
  · rw [← F_lex_lexer_single_eq] at h
    have := fn_ok (P := Tryd.prog) (cx := cx_lex_lexer_single k) (f := 87) ⟨tyT_ok, C_lex_lexer_single_ok k, fun _ _ => rfl⟩ (by kernel_rfl) (fn := Tryd.f87) (c := code_lex_lexer_single) (by kernel_rfl) (by kernel_rfl) (by kernel_rfl) (rs := [.tmp 4, .tmp 5]) (by kernel_rfl) (by kernel_rfl) h
    exact this.mono fun out ho => by
      unfold wrap_lex_lexer_single at ho
      split at ho <;> first | exact ho | cases ho
  · cases h
end Go.Proofs.YtpfbdepoammjmaaDoor.Pvm

set_option maxRecDepth 1000000
set_option maxHeartbeats 0
namespace Go.Proofs.YtpfbdepoammjmaaDoor.Pvm
open Go Go.Proofs
def sig_lex_lexer_text : List LS := [.obj 1 [.any, .any, .any, .any, .own 21 25 (.pr (.int .i64) (.pr (.int .i64) (.pr (.int .i64) (.pr .str .bool))))], .any]
noncomputable def C_lex_lexer_text (k : Nat) : CTab := ⟨fun f => bif Nat.beq f 68 then sig_lex_lexer_gives else bif Nat.beq f 70 then sig_lex_dash else bif Nat.beq f 71 then sig_lex_lexer_piece else bif Nat.beq f 72 then sig_lex_key else bif Nat.beq f 87 then sig_lex_lexer_single else bif Nat.beq f 88 then sig_lex_lexer_double else bif Nat.beq f 89 then sig_strings_IndexByte else [], fun f {_} ps hp K => bif Nat.beq f 68 then run_lex_lexer_gives k ps hp K else bif Nat.beq f 70 then run_lex_dash k ps hp K else bif Nat.beq f 71 then run_lex_lexer_piece k ps hp K else bif Nat.beq f 72 then run_lex_key k ps hp K else bif Nat.beq f 87 then run_lex_lexer_single k ps hp K else bif Nat.beq f 88 then run_lex_lexer_double k ps hp K else bif Nat.beq f 89 then run_strings_IndexByte k ps hp K else none⟩
def wrap_lex_lexer_text {R : Type} (K : (Int → Int → (List UInt8) → Int → (List (Int × (Int × (Int × ((List UInt8) × Bool))))) → Option R)) (E : (Int → Int → (List UInt8) → Int → (List (Int × (Int × (Int × ((List UInt8) × Bool))))) → Int → Int → Option R)) : Out → Option R
  | .ret [] [(21, .row 25 (.pr (.int .i64) (.pr (.int .i64) (.pr (.int .i64) (.pr .str .bool)))) y4), (1, .var 111 [.v (.int .i64) y0, .v (.int .i64) y1, .v .str y2, .v (.int .i64) y3, .row 21])] => K y0 y1 y2 y3 y4
  | .pan (.ifc 30 (.agg [.v (.int .i64) z5, .v (.int .i64) z6])) [(21, .row 25 (.pr (.int .i64) (.pr (.int .i64) (.pr (.int .i64) (.pr .str .bool)))) z4), (1, .var 111 [.v (.int .i64) z0, .v (.int .i64) z1, .v .str z2, .v (.int .i64) z3, .row 21])] => E z0 z1 z2 z3 z4 z5 z6
  | _ => none
def sp_lex_lexer_text : RetSpec := ⟨[], [(1, .obj 1 [.any, .any, .any, .any, .own 21 25 (.pr (.int .i64) (.pr (.int .i64) (.pr (.int .i64) (.pr .str .bool))))])], [(1, .obj 1 [.any, .any, .any, .any, .own 21 25 (.pr (.int .i64) (.pr (.int .i64) (.pr (.int .i64) (.pr .str .bool))))])]⟩
def cuts_lex_lexer_text : List (Nat × CutSpec) := []
def plans_lex_lexer_text : List (Nat × Plan) := []
noncomputable def cx_lex_lexer_text (k : Nat) : Ctx := ⟨tyT, cuts_lex_lexer_text, C_lex_lexer_text k, [], [1], plans_lex_lexer_text, @SH⟩
noncomputable def code_lex_lexer_text : Code := Tryd.f73.body.getD .skip
noncomputable def A_lex_lexer_text (k : Nat) {R : Type}  (x0 : Int) (x1 : Int) (x2 : (List UInt8)) (x3 : Int) (x4 : (List (Int × (Int × (Int × ((List UInt8) × Bool)))))) (x5 : (List UInt8)) (K : (Int → Int → (List UInt8) → Int → (List (Int × (Int × (Int × ((List UInt8) × Bool))))) → Option R)) (E : (Int → Int → (List UInt8) → Int → (List (Int × (Int × (Int × ((List UInt8) × Bool))))) → Int → Int → Option R)) : Option R := (@cond (@Option R) (@inb (0 : Int) (@Nat.cast Int instNatCastInt (@List.length UInt8 x5))) (@cond (@Option R) (@BEq.beq Int (@instBEqOfDecidableEq Int @Int.instDecidableEq) (@Nat.cast Int instNatCastInt (@UInt8.toNat (@List.getD UInt8 x5 (@Int.toNat (0 : Int)) (0 : UInt8)))) (39 : Int)) (@F_lex_lexer_single k R x0 x1 x2 x3 x4 x5 (fun (y10 : Int) => (fun (y11 : Int) => (fun (y12 : (@List UInt8)) => (fun (y13 : Int) => (fun (y14 : (@List (@Prod Int (@Prod Int (@Prod Int (@Prod (@List UInt8) Bool)))))) => (fun (y15 : (@List UInt8)) => (fun (y16 : Int) => (@cond (@Option R) (@bne Int (@instBEqOfDecidableEq Int @Int.instDecidableEq) y16 (@Nat.cast Int instNatCastInt (@List.length UInt8 x5))) (@F_lex_lexer_gives k R y10 y11 y12 y13 y14 (3 : Int) (fun (y17 : Int) => (fun (y18 : Int) => (fun (y19 : (@List UInt8)) => (fun (y20 : Int) => (fun (y21 : (@List (@Prod Int (@Prod Int (@Prod Int (@Prod (@List UInt8) Bool)))))) => (@cond (@Option R) (@Decidable.decide (@GT.gt Int Int.instLTInt (@Nat.cast Int instNatCastInt (@List.length UInt8 y15)) (200 : Int)) (@Int.decLt (200 : Int) (@Nat.cast Int instNatCastInt (@List.length UInt8 y15)))) (@F_lex_lexer_gives k R y17 y18 y19 y20 y21 (4 : Int) (fun (y22 : Int) => (fun (y23 : Int) => (fun (y24 : (@List UInt8)) => (fun (y25 : Int) => (fun (y26 : (@List (@Prod Int (@Prod Int (@Prod Int (@Prod (@List UInt8) Bool)))))) => (@F_lex_lexer_piece k R y22 y23 y24 y25 y26 (3 : Int) y15 Bool.true y16 (fun (y27 : Int) => (fun (y28 : Int) => (fun (y29 : (@List UInt8)) => (fun (y30 : Int) => (fun (y31 : (@List (@Prod Int (@Prod Int (@Prod Int (@Prod (@List UInt8) Bool)))))) => (K y27 y28 y29 y30 y31)))))))))))) (fun (y22 : Int) => (fun (y23 : Int) => (fun (y24 : (@List UInt8)) => (fun (y25 : Int) => (fun (y26 : (@List (@Prod Int (@Prod Int (@Prod Int (@Prod (@List UInt8) Bool)))))) => (fun (y27 : Int) => (fun (y28 : Int) => (E y22 y23 y24 y25 y26 y27 y28))))))))) (@F_lex_lexer_piece k R y17 y18 y19 y20 y21 (3 : Int) y15 Bool.true y16 (fun (y22 : Int) => (fun (y23 : Int) => (fun (y24 : (@List UInt8)) => (fun (y25 : Int) => (fun (y26 : (@List (@Prod Int (@Prod Int (@Prod Int (@Prod (@List UInt8) Bool)))))) => (K y22 y23 y24 y25 y26))))))))))))) (fun (y17 : Int) => (fun (y18 : Int) => (fun (y19 : (@List UInt8)) => (fun (y20 : Int) => (fun (y21 : (@List (@Prod Int (@Prod Int (@Prod Int (@Prod (@List UInt8) Bool)))))) => (fun (y22 : Int) => (fun (y23 : Int) => (E y17 y18 y19 y20 y21 y22 y23))))))))) (@cond (@Option R) (@Decidable.decide (@GT.gt Int Int.instLTInt (@Nat.cast Int instNatCastInt (@List.length UInt8 y15)) (200 : Int)) (@Int.decLt (200 : Int) (@Nat.cast Int instNatCastInt (@List.length UInt8 y15)))) (@F_lex_lexer_gives k R y10 y11 y12 y13 y14 (4 : Int) (fun (y17 : Int) => (fun (y18 : Int) => (fun (y19 : (@List UInt8)) => (fun (y20 : Int) => (fun (y21 : (@List (@Prod Int (@Prod Int (@Prod Int (@Prod (@List UInt8) Bool)))))) => (@F_lex_lexer_piece k R y17 y18 y19 y20 y21 (3 : Int) y15 Bool.true y16 (fun (y22 : Int) => (fun (y23 : Int) => (fun (y24 : (@List UInt8)) => (fun (y25 : Int) => (fun (y26 : (@List (@Prod Int (@Prod Int (@Prod Int (@Prod (@List UInt8) Bool)))))) => (K y22 y23 y24 y25 y26)))))))))))) (fun (y17 : Int) => (fun (y18 : Int) => (fun (y19 : (@List UInt8)) => (fun (y20 : Int) => (fun (y21 : (@List (@Prod Int (@Prod Int (@Prod Int (@Prod (@List UInt8) Bool)))))) => (fun (y22 : Int) => (fun (y23 : Int) => (E y17 y18 y19 y20 y21 y22 y23))))))))) (@F_lex_lexer_piece k R y10 y11 y12 y13 y14 (3 : Int) y15 Bool.true y16 (fun (y17 : Int) => (fun (y18 : Int) => (fun (y19 : (@List UInt8)) => (fun (y20 : Int) => (fun (y21 : (@List (@Prod Int (@Prod Int (@Prod Int (@Prod (@List UInt8) Bool)))))) => (K y17 y18 y19 y20 y21)))))))))))))))) (fun (y10 : Int) => (fun (y11 : Int) => (fun (y12 : (@List UInt8)) => (fun (y13 : Int) => (fun (y14 : (@List (@Prod Int (@Prod Int (@Prod Int (@Prod (@List UInt8) Bool)))))) => (fun (y15 : Int) => (fun (y16 : Int) => (E y10 y11 y12 y13 y14 y15 y16))))))))) (@cond (@Option R) (@BEq.beq Int (@instBEqOfDecidableEq Int @Int.instDecidableEq) (@Nat.cast Int instNatCastInt (@UInt8.toNat (@List.getD UInt8 x5 (@Int.toNat (0 : Int)) (0 : UInt8)))) (34 : Int)) (@F_lex_lexer_double k R x0 x1 x2 x3 x4 x5 (fun (y10 : Int) => (fun (y11 : Int) => (fun (y12 : (@List UInt8)) => (fun (y13 : Int) => (fun (y14 : (@List (@Prod Int (@Prod Int (@Prod Int (@Prod (@List UInt8) Bool)))))) => (fun (y15 : (@List UInt8)) => (fun (y16 : Int) => (@cond (@Option R) (@bne Int (@instBEqOfDecidableEq Int @Int.instDecidableEq) y16 (@Nat.cast Int instNatCastInt (@List.length UInt8 x5))) (@F_lex_lexer_gives k R y10 y11 y12 y13 y14 (3 : Int) (fun (y17 : Int) => (fun (y18 : Int) => (fun (y19 : (@List UInt8)) => (fun (y20 : Int) => (fun (y21 : (@List (@Prod Int (@Prod Int (@Prod Int (@Prod (@List UInt8) Bool)))))) => (@cond (@Option R) (@Decidable.decide (@GT.gt Int Int.instLTInt (@Nat.cast Int instNatCastInt (@List.length UInt8 y15)) (200 : Int)) (@Int.decLt (200 : Int) (@Nat.cast Int instNatCastInt (@List.length UInt8 y15)))) (@F_lex_lexer_gives k R y17 y18 y19 y20 y21 (4 : Int) (fun (y22 : Int) => (fun (y23 : Int) => (fun (y24 : (@List UInt8)) => (fun (y25 : Int) => (fun (y26 : (@List (@Prod Int (@Prod Int (@Prod Int (@Prod (@List UInt8) Bool)))))) => (@F_lex_lexer_piece k R y22 y23 y24 y25 y26 (3 : Int) y15 Bool.true y16 (fun (y27 : Int) => (fun (y28 : Int) => (fun (y29 : (@List UInt8)) => (fun (y30 : Int) => (fun (y31 : (@List (@Prod Int (@Prod Int (@Prod Int (@Prod (@List UInt8) Bool)))))) => (K y27 y28 y29 y30 y31)))))))))))) (fun (y22 : Int) => (fun (y23 : Int) => (fun (y24 : (@List UInt8)) => (fun (y25 : Int) => (fun (y26 : (@List (@Prod Int (@Prod Int (@Prod Int (@Prod (@List UInt8) Bool)))))) => (fun (y27 : Int) => (fun (y28 : Int) => (E y22 y23 y24 y25 y26 y27 y28))))))))) (@F_lex_lexer_piece k R y17 y18 y19 y20 y21 (3 : Int) y15 Bool.true y16 (fun (y22 : Int) => (fun (y23 : Int) => (fun (y24 : (@List UInt8)) => (fun (y25 : Int) => (fun (y26 : (@List (@Prod Int (@Prod Int (@Prod Int (@Prod (@List UInt8) Bool)))))) => (K y22 y23 y24 y25 y26))))))))))))) (fun (y17 : Int) => (fun (y18 : Int) => (fun (y19 : (@List UInt8)) => (fun (y20 : Int) => (fun (y21 : (@List (@Prod Int (@Prod Int (@Prod Int (@Prod (@List UInt8) Bool)))))) => (fun (y22 : Int) => (fun (y23 : Int) => (E y17 y18 y19 y20 y21 y22 y23))))))))) (@cond (@Option R) (@Decidable.decide (@GT.gt Int Int.instLTInt (@Nat.cast Int instNatCastInt (@List.length UInt8 y15)) (200 : Int)) (@Int.decLt (200 : Int) (@Nat.cast Int instNatCastInt (@List.length UInt8 y15)))) (@F_lex_lexer_gives k R y10 y11 y12 y13 y14 (4 : Int) (fun (y17 : Int) => (fun (y18 : Int) => (fun (y19 : (@List UInt8)) => (fun (y20 : Int) => (fun (y21 : (@List (@Prod Int (@Prod Int (@Prod Int (@Prod (@List UInt8) Bool)))))) => (@F_lex_lexer_piece k R y17 y18 y19 y20 y21 (3 : Int) y15 Bool.true y16 (fun (y22 : Int) => (fun (y23 : Int) => (fun (y24 : (@List UInt8)) => (fun (y25 : Int) => (fun (y26 : (@List (@Prod Int (@Prod Int (@Prod Int (@Prod (@List UInt8) Bool)))))) => (K y22 y23 y24 y25 y26)))))))))))) (fun (y17 : Int) => (fun (y18 : Int) => (fun (y19 : (@List UInt8)) => (fun (y20 : Int) => (fun (y21 : (@List (@Prod Int (@Prod Int (@Prod Int (@Prod (@List UInt8) Bool)))))) => (fun (y22 : Int) => (fun (y23 : Int) => (E y17 y18 y19 y20 y21 y22 y23))))))))) (@F_lex_lexer_piece k R y10 y11 y12 y13 y14 (3 : Int) y15 Bool.true y16 (fun (y17 : Int) => (fun (y18 : Int) => (fun (y19 : (@List UInt8)) => (fun (y20 : Int) => (fun (y21 : (@List (@Prod Int (@Prod Int (@Prod Int (@Prod (@List UInt8) Bool)))))) => (K y17 y18 y19 y20 y21)))))))))))))))) (fun (y10 : Int) => (fun (y11 : Int) => (fun (y12 : (@List UInt8)) => (fun (y13 : Int) => (fun (y14 : (@List (@Prod Int (@Prod Int (@Prod Int (@Prod (@List UInt8) Bool)))))) => (fun (y15 : Int) => (fun (y16 : Int) => (E y10 y11 y12 y13 y14 y15 y16))))))))) (@cond (@Option R) (@inb (0 : Int) (@Nat.cast Int instNatCastInt (@List.length UInt8 x5))) (@F_strings_IndexByte k R (@Array.toList UInt8 (@ByteArray.data (@ByteArray.mk (@List.toArray UInt8 ((91 : UInt8) :: ((93 : UInt8) :: ((123 : UInt8) :: ((125 : UInt8) :: ((38 : UInt8) :: ((42 : UInt8) :: ((33 : UInt8) :: ((124 : UInt8) :: ((62 : UInt8) :: ((37 : UInt8) :: ((64 : UInt8) :: ((44 : UInt8) :: ((63 : UInt8) :: ((96 : UInt8) :: [])))))))))))))))))) (@Nat.cast Int instNatCastInt (@UInt8.toNat (@List.getD UInt8 x5 (@Int.toNat (0 : Int)) (0 : UInt8)))) (fun (y10 : Int) => (@cond (@Option R) (@BEq.beq (@Kd.T Kd.bool) (@instBEqOfDecidableEq (@Kd.T Kd.bool) @instDecidableEqBool) (@Decidable.decide (@GE.ge Int Int.instLEInt y10 (0 : Int)) (@Int.decLe (0 : Int) y10)) Bool.false) (@F_lex_dash k R x5 (fun (y11 : Bool) => (@cond (@Option R) (@BEq.beq (@Kd.T Kd.bool) (@instBEqOfDecidableEq (@Kd.T Kd.bool) @instDecidableEqBool) y11 Bool.false) (@F_lex_key k R x5 (fun (y12 : (@List UInt8)) => (@cond (@Option R) (@Bool.not (@BEq.beq (@List UInt8) (@List.instBEq UInt8 (@instBEqOfDecidableEq UInt8 @instDecidableEqUInt8)) y12 (@Array.toList UInt8 (@ByteArray.data (@ByteArray.mk (@List.toArray UInt8 [])))))) (@F_lex_lexer_gives k R x0 x1 x2 x3 x4 (4 : Int) (fun (y13 : Int) => (fun (y14 : Int) => (fun (y15 : (@List UInt8)) => (fun (y16 : Int) => (fun (y17 : (@List (@Prod Int (@Prod Int (@Prod Int (@Prod (@List UInt8) Bool)))))) => (@cond (@Option R) (@bne Int (@instBEqOfDecidableEq Int @Int.instDecidableEq) (@Nat.cast Int instNatCastInt (@List.length UInt8 x5)) (@Nat.cast Int instNatCastInt (@List.length UInt8 x5))) (@F_lex_lexer_gives k R y13 y14 y15 y16 y17 (3 : Int) (fun (y18 : Int) => (fun (y19 : Int) => (fun (y20 : (@List UInt8)) => (fun (y21 : Int) => (fun (y22 : (@List (@Prod Int (@Prod Int (@Prod Int (@Prod (@List UInt8) Bool)))))) => (@cond (@Option R) (@Decidable.decide (@GT.gt Int Int.instLTInt (@Nat.cast Int instNatCastInt (@List.length UInt8 x5)) (200 : Int)) (@Int.decLt (200 : Int) (@Nat.cast Int instNatCastInt (@List.length UInt8 x5)))) (@F_lex_lexer_gives k R y18 y19 y20 y21 y22 (4 : Int) (fun (y23 : Int) => (fun (y24 : Int) => (fun (y25 : (@List UInt8)) => (fun (y26 : Int) => (fun (y27 : (@List (@Prod Int (@Prod Int (@Prod Int (@Prod (@List UInt8) Bool)))))) => (@F_lex_lexer_piece k R y23 y24 y25 y26 y27 (3 : Int) x5 Bool.false (@Nat.cast Int instNatCastInt (@List.length UInt8 x5)) (fun (y28 : Int) => (fun (y29 : Int) => (fun (y30 : (@List UInt8)) => (fun (y31 : Int) => (fun (y32 : (@List (@Prod Int (@Prod Int (@Prod Int (@Prod (@List UInt8) Bool)))))) => (K y28 y29 y30 y31 y32)))))))))))) (fun (y23 : Int) => (fun (y24 : Int) => (fun (y25 : (@List UInt8)) => (fun (y26 : Int) => (fun (y27 : (@List (@Prod Int (@Prod Int (@Prod Int (@Prod (@List UInt8) Bool)))))) => (fun (y28 : Int) => (fun (y29 : Int) => (E y23 y24 y25 y26 y27 y28 y29))))))))) (@F_lex_lexer_piece k R y18 y19 y20 y21 y22 (3 : Int) x5 Bool.false (@Nat.cast Int instNatCastInt (@List.length UInt8 x5)) (fun (y23 : Int) => (fun (y24 : Int) => (fun (y25 : (@List UInt8)) => (fun (y26 : Int) => (fun (y27 : (@List (@Prod Int (@Prod Int (@Prod Int (@Prod (@List UInt8) Bool)))))) => (K y23 y24 y25 y26 y27))))))))))))) (fun (y18 : Int) => (fun (y19 : Int) => (fun (y20 : (@List UInt8)) => (fun (y21 : Int) => (fun (y22 : (@List (@Prod Int (@Prod Int (@Prod Int (@Prod (@List UInt8) Bool)))))) => (fun (y23 : Int) => (fun (y24 : Int) => (E y18 y19 y20 y21 y22 y23 y24))))))))) (@cond (@Option R) (@Decidable.decide (@GT.gt Int Int.instLTInt (@Nat.cast Int instNatCastInt (@List.length UInt8 x5)) (200 : Int)) (@Int.decLt (200 : Int) (@Nat.cast Int instNatCastInt (@List.length UInt8 x5)))) (@F_lex_lexer_gives k R y13 y14 y15 y16 y17 (4 : Int) (fun (y18 : Int) => (fun (y19 : Int) => (fun (y20 : (@List UInt8)) => (fun (y21 : Int) => (fun (y22 : (@List (@Prod Int (@Prod Int (@Prod Int (@Prod (@List UInt8) Bool)))))) => (@F_lex_lexer_piece k R y18 y19 y20 y21 y22 (3 : Int) x5 Bool.false (@Nat.cast Int instNatCastInt (@List.length UInt8 x5)) (fun (y23 : Int) => (fun (y24 : Int) => (fun (y25 : (@List UInt8)) => (fun (y26 : Int) => (fun (y27 : (@List (@Prod Int (@Prod Int (@Prod Int (@Prod (@List UInt8) Bool)))))) => (K y23 y24 y25 y26 y27)))))))))))) (fun (y18 : Int) => (fun (y19 : Int) => (fun (y20 : (@List UInt8)) => (fun (y21 : Int) => (fun (y22 : (@List (@Prod Int (@Prod Int (@Prod Int (@Prod (@List UInt8) Bool)))))) => (fun (y23 : Int) => (fun (y24 : Int) => (E y18 y19 y20 y21 y22 y23 y24))))))))) (@F_lex_lexer_piece k R y13 y14 y15 y16 y17 (3 : Int) x5 Bool.false (@Nat.cast Int instNatCastInt (@List.length UInt8 x5)) (fun (y18 : Int) => (fun (y19 : Int) => (fun (y20 : (@List UInt8)) => (fun (y21 : Int) => (fun (y22 : (@List (@Prod Int (@Prod Int (@Prod Int (@Prod (@List UInt8) Bool)))))) => (K y18 y19 y20 y21 y22)))))))))))))) (fun (y13 : Int) => (fun (y14 : Int) => (fun (y15 : (@List UInt8)) => (fun (y16 : Int) => (fun (y17 : (@List (@Prod Int (@Prod Int (@Prod Int (@Prod (@List UInt8) Bool)))))) => (fun (y18 : Int) => (fun (y19 : Int) => (E y13 y14 y15 y16 y17 y18 y19))))))))) (@cond (@Option R) (@bne Int (@instBEqOfDecidableEq Int @Int.instDecidableEq) (@Nat.cast Int instNatCastInt (@List.length UInt8 x5)) (@Nat.cast Int instNatCastInt (@List.length UInt8 x5))) (@F_lex_lexer_gives k R x0 x1 x2 x3 x4 (3 : Int) (fun (y13 : Int) => (fun (y14 : Int) => (fun (y15 : (@List UInt8)) => (fun (y16 : Int) => (fun (y17 : (@List (@Prod Int (@Prod Int (@Prod Int (@Prod (@List UInt8) Bool)))))) => (@cond (@Option R) (@Decidable.decide (@GT.gt Int Int.instLTInt (@Nat.cast Int instNatCastInt (@List.length UInt8 x5)) (200 : Int)) (@Int.decLt (200 : Int) (@Nat.cast Int instNatCastInt (@List.length UInt8 x5)))) (@F_lex_lexer_gives k R y13 y14 y15 y16 y17 (4 : Int) (fun (y18 : Int) => (fun (y19 : Int) => (fun (y20 : (@List UInt8)) => (fun (y21 : Int) => (fun (y22 : (@List (@Prod Int (@Prod Int (@Prod Int (@Prod (@List UInt8) Bool)))))) => (@F_lex_lexer_piece k R y18 y19 y20 y21 y22 (3 : Int) x5 Bool.false (@Nat.cast Int instNatCastInt (@List.length UInt8 x5)) (fun (y23 : Int) => (fun (y24 : Int) => (fun (y25 : (@List UInt8)) => (fun (y26 : Int) => (fun (y27 : (@List (@Prod Int (@Prod Int (@Prod Int (@Prod (@List UInt8) Bool)))))) => (K y23 y24 y25 y26 y27)))))))))))) (fun (y18 : Int) => (fun (y19 : Int) => (fun (y20 : (@List UInt8)) => (fun (y21 : Int) => (fun (y22 : (@List (@Prod Int (@Prod Int (@Prod Int (@Prod (@List UInt8) Bool)))))) => (fun (y23 : Int) => (fun (y24 : Int) => (E y18 y19 y20 y21 y22 y23 y24))))))))) (@F_lex_lexer_piece k R y13 y14 y15 y16 y17 (3 : Int) x5 Bool.false (@Nat.cast Int instNatCastInt (@List.length UInt8 x5)) (fun (y18 : Int) => (fun (y19 : Int) => (fun (y20 : (@List UInt8)) => (fun (y21 : Int) => (fun (y22 : (@List (@Prod Int (@Prod Int (@Prod Int (@Prod (@List UInt8) Bool)))))) => (K y18 y19 y20 y21 y22))))))))))))) (fun (y13 : Int) => (fun (y14 : Int) => (fun (y15 : (@List UInt8)) => (fun (y16 : Int) => (fun (y17 : (@List (@Prod Int (@Prod Int (@Prod Int (@Prod (@List UInt8) Bool)))))) => (fun (y18 : Int) => (fun (y19 : Int) => (E y13 y14 y15 y16 y17 y18 y19))))))))) (@cond (@Option R) (@Decidable.decide (@GT.gt Int Int.instLTInt (@Nat.cast Int instNatCastInt (@List.length UInt8 x5)) (200 : Int)) (@Int.decLt (200 : Int) (@Nat.cast Int instNatCastInt (@List.length UInt8 x5)))) (@F_lex_lexer_gives k R x0 x1 x2 x3 x4 (4 : Int) (fun (y13 : Int) => (fun (y14 : Int) => (fun (y15 : (@List UInt8)) => (fun (y16 : Int) => (fun (y17 : (@List (@Prod Int (@Prod Int (@Prod Int (@Prod (@List UInt8) Bool)))))) => (@F_lex_lexer_piece k R y13 y14 y15 y16 y17 (3 : Int) x5 Bool.false (@Nat.cast Int instNatCastInt (@List.length UInt8 x5)) (fun (y18 : Int) => (fun (y19 : Int) => (fun (y20 : (@List UInt8)) => (fun (y21 : Int) => (fun (y22 : (@List (@Prod Int (@Prod Int (@Prod Int (@Prod (@List UInt8) Bool)))))) => (K y18 y19 y20 y21 y22)))))))))))) (fun (y13 : Int) => (fun (y14 : Int) => (fun (y15 : (@List UInt8)) => (fun (y16 : Int) => (fun (y17 : (@List (@Prod Int (@Prod Int (@Prod Int (@Prod (@List UInt8) Bool)))))) => (fun (y18 : Int) => (fun (y19 : Int) => (E y13 y14 y15 y16 y17 y18 y19))))))))) (@F_lex_lexer_piece k R x0 x1 x2 x3 x4 (3 : Int) x5 Bool.false (@Nat.cast Int instNatCastInt (@List.length UInt8 x5)) (fun (y13 : Int) => (fun (y14 : Int) => (fun (y15 : (@List UInt8)) => (fun (y16 : Int) => (fun (y17 : (@List (@Prod Int (@Prod Int (@Prod Int (@Prod (@List UInt8) Bool)))))) => (K y13 y14 y15 y16 y17)))))))))))) (@F_lex_lexer_gives k R x0 x1 x2 x3 x4 (4 : Int) (fun (y12 : Int) => (fun (y13 : Int) => (fun (y14 : (@List UInt8)) => (fun (y15 : Int) => (fun (y16 : (@List (@Prod Int (@Prod Int (@Prod Int (@Prod (@List UInt8) Bool)))))) => (@cond (@Option R) (@bne Int (@instBEqOfDecidableEq Int @Int.instDecidableEq) (@Nat.cast Int instNatCastInt (@List.length UInt8 x5)) (@Nat.cast Int instNatCastInt (@List.length UInt8 x5))) (@F_lex_lexer_gives k R y12 y13 y14 y15 y16 (3 : Int) (fun (y17 : Int) => (fun (y18 : Int) => (fun (y19 : (@List UInt8)) => (fun (y20 : Int) => (fun (y21 : (@List (@Prod Int (@Prod Int (@Prod Int (@Prod (@List UInt8) Bool)))))) => (@cond (@Option R) (@Decidable.decide (@GT.gt Int Int.instLTInt (@Nat.cast Int instNatCastInt (@List.length UInt8 x5)) (200 : Int)) (@Int.decLt (200 : Int) (@Nat.cast Int instNatCastInt (@List.length UInt8 x5)))) (@F_lex_lexer_gives k R y17 y18 y19 y20 y21 (4 : Int) (fun (y22 : Int) => (fun (y23 : Int) => (fun (y24 : (@List UInt8)) => (fun (y25 : Int) => (fun (y26 : (@List (@Prod Int (@Prod Int (@Prod Int (@Prod (@List UInt8) Bool)))))) => (@F_lex_lexer_piece k R y22 y23 y24 y25 y26 (3 : Int) x5 Bool.false (@Nat.cast Int instNatCastInt (@List.length UInt8 x5)) (fun (y27 : Int) => (fun (y28 : Int) => (fun (y29 : (@List UInt8)) => (fun (y30 : Int) => (fun (y31 : (@List (@Prod Int (@Prod Int (@Prod Int (@Prod (@List UInt8) Bool)))))) => (K y27 y28 y29 y30 y31)))))))))))) (fun (y22 : Int) => (fun (y23 : Int) => (fun (y24 : (@List UInt8)) => (fun (y25 : Int) => (fun (y26 : (@List (@Prod Int (@Prod Int (@Prod Int (@Prod (@List UInt8) Bool)))))) => (fun (y27 : Int) => (fun (y28 : Int) => (E y22 y23 y24 y25 y26 y27 y28))))))))) (@F_lex_lexer_piece k R y17 y18 y19 y20 y21 (3 : Int) x5 Bool.false (@Nat.cast Int instNatCastInt (@List.length UInt8 x5)) (fun (y22 : Int) => (fun (y23 : Int) => (fun (y24 : (@List UInt8)) => (fun (y25 : Int) => (fun (y26 : (@List (@Prod Int (@Prod Int (@Prod Int (@Prod (@List UInt8) Bool)))))) => (K y22 y23 y24 y25 y26))))))))))))) (fun (y17 : Int) => (fun (y18 : Int) => (fun (y19 : (@List UInt8)) => (fun (y20 : Int) => (fun (y21 : (@List (@Prod Int (@Prod Int (@Prod Int (@Prod (@List UInt8) Bool)))))) => (fun (y22 : Int) => (fun (y23 : Int) => (E y17 y18 y19 y20 y21 y22 y23))))))))) (@cond (@Option R) (@Decidable.decide (@GT.gt Int Int.instLTInt (@Nat.cast Int instNatCastInt (@List.length UInt8 x5)) (200 : Int)) (@Int.decLt (200 : Int) (@Nat.cast Int instNatCastInt (@List.length UInt8 x5)))) (@F_lex_lexer_gives k R y12 y13 y14 y15 y16 (4 : Int) (fun (y17 : Int) => (fun (y18 : Int) => (fun (y19 : (@List UInt8)) => (fun (y20 : Int) => (fun (y21 : (@List (@Prod Int (@Prod Int (@Prod Int (@Prod (@List UInt8) Bool)))))) => (@F_lex_lexer_piece k R y17 y18 y19 y20 y21 (3 : Int) x5 Bool.false (@Nat.cast Int instNatCastInt (@List.length UInt8 x5)) (fun (y22 : Int) => (fun (y23 : Int) => (fun (y24 : (@List UInt8)) => (fun (y25 : Int) => (fun (y26 : (@List (@Prod Int (@Prod Int (@Prod Int (@Prod (@List UInt8) Bool)))))) => (K y22 y23 y24 y25 y26)))))))))))) (fun (y17 : Int) => (fun (y18 : Int) => (fun (y19 : (@List UInt8)) => (fun (y20 : Int) => (fun (y21 : (@List (@Prod Int (@Prod Int (@Prod Int (@Prod (@List UInt8) Bool)))))) => (fun (y22 : Int) => (fun (y23 : Int) => (E y17 y18 y19 y20 y21 y22 y23))))))))) (@F_lex_lexer_piece k R y12 y13 y14 y15 y16 (3 : Int) x5 Bool.false (@Nat.cast Int instNatCastInt (@List.length UInt8 x5)) (fun (y17 : Int) => (fun (y18 : Int) => (fun (y19 : (@List UInt8)) => (fun (y20 : Int) => (fun (y21 : (@List (@Prod Int (@Prod Int (@Prod Int (@Prod (@List UInt8) Bool)))))) => (K y17 y18 y19 y20 y21)))))))))))))) (fun (y12 : Int) => (fun (y13 : Int) => (fun (y14 : (@List UInt8)) => (fun (y15 : Int) => (fun (y16 : (@List (@Prod Int (@Prod Int (@Prod Int (@Prod (@List UInt8) Bool)))))) => (fun (y17 : Int) => (fun (y18 : Int) => (E y12 y13 y14 y15 y16 y17 y18)))))))))))) (@F_lex_lexer_gives k R x0 x1 x2 x3 x4 (4 : Int) (fun (y11 : Int) => (fun (y12 : Int) => (fun (y13 : (@List UInt8)) => (fun (y14 : Int) => (fun (y15 : (@List (@Prod Int (@Prod Int (@Prod Int (@Prod (@List UInt8) Bool)))))) => (@cond (@Option R) (@bne Int (@instBEqOfDecidableEq Int @Int.instDecidableEq) (@Nat.cast Int instNatCastInt (@List.length UInt8 x5)) (@Nat.cast Int instNatCastInt (@List.length UInt8 x5))) (@F_lex_lexer_gives k R y11 y12 y13 y14 y15 (3 : Int) (fun (y16 : Int) => (fun (y17 : Int) => (fun (y18 : (@List UInt8)) => (fun (y19 : Int) => (fun (y20 : (@List (@Prod Int (@Prod Int (@Prod Int (@Prod (@List UInt8) Bool)))))) => (@cond (@Option R) (@Decidable.decide (@GT.gt Int Int.instLTInt (@Nat.cast Int instNatCastInt (@List.length UInt8 x5)) (200 : Int)) (@Int.decLt (200 : Int) (@Nat.cast Int instNatCastInt (@List.length UInt8 x5)))) (@F_lex_lexer_gives k R y16 y17 y18 y19 y20 (4 : Int) (fun (y21 : Int) => (fun (y22 : Int) => (fun (y23 : (@List UInt8)) => (fun (y24 : Int) => (fun (y25 : (@List (@Prod Int (@Prod Int (@Prod Int (@Prod (@List UInt8) Bool)))))) => (@F_lex_lexer_piece k R y21 y22 y23 y24 y25 (3 : Int) x5 Bool.false (@Nat.cast Int instNatCastInt (@List.length UInt8 x5)) (fun (y26 : Int) => (fun (y27 : Int) => (fun (y28 : (@List UInt8)) => (fun (y29 : Int) => (fun (y30 : (@List (@Prod Int (@Prod Int (@Prod Int (@Prod (@List UInt8) Bool)))))) => (K y26 y27 y28 y29 y30)))))))))))) (fun (y21 : Int) => (fun (y22 : Int) => (fun (y23 : (@List UInt8)) => (fun (y24 : Int) => (fun (y25 : (@List (@Prod Int (@Prod Int (@Prod Int (@Prod (@List UInt8) Bool)))))) => (fun (y26 : Int) => (fun (y27 : Int) => (E y21 y22 y23 y24 y25 y26 y27))))))))) (@F_lex_lexer_piece k R y16 y17 y18 y19 y20 (3 : Int) x5 Bool.false (@Nat.cast Int instNatCastInt (@List.length UInt8 x5)) (fun (y21 : Int) => (fun (y22 : Int) => (fun (y23 : (@List UInt8)) => (fun (y24 : Int) => (fun (y25 : (@List (@Prod Int (@Prod Int (@Prod Int (@Prod (@List UInt8) Bool)))))) => (K y21 y22 y23 y24 y25))))))))))))) (fun (y16 : Int) => (fun (y17 : Int) => (fun (y18 : (@List UInt8)) => (fun (y19 : Int) => (fun (y20 : (@List (@Prod Int (@Prod Int (@Prod Int (@Prod (@List UInt8) Bool)))))) => (fun (y21 : Int) => (fun (y22 : Int) => (E y16 y17 y18 y19 y20 y21 y22))))))))) (@cond (@Option R) (@Decidable.decide (@GT.gt Int Int.instLTInt (@Nat.cast Int instNatCastInt (@List.length UInt8 x5)) (200 : Int)) (@Int.decLt (200 : Int) (@Nat.cast Int instNatCastInt (@List.length UInt8 x5)))) (@F_lex_lexer_gives k R y11 y12 y13 y14 y15 (4 : Int) (fun (y16 : Int) => (fun (y17 : Int) => (fun (y18 : (@List UInt8)) => (fun (y19 : Int) => (fun (y20 : (@List (@Prod Int (@Prod Int (@Prod Int (@Prod (@List UInt8) Bool)))))) => (@F_lex_lexer_piece k R y16 y17 y18 y19 y20 (3 : Int) x5 Bool.false (@Nat.cast Int instNatCastInt (@List.length UInt8 x5)) (fun (y21 : Int) => (fun (y22 : Int) => (fun (y23 : (@List UInt8)) => (fun (y24 : Int) => (fun (y25 : (@List (@Prod Int (@Prod Int (@Prod Int (@Prod (@List UInt8) Bool)))))) => (K y21 y22 y23 y24 y25)))))))))))) (fun (y16 : Int) => (fun (y17 : Int) => (fun (y18 : (@List UInt8)) => (fun (y19 : Int) => (fun (y20 : (@List (@Prod Int (@Prod Int (@Prod Int (@Prod (@List UInt8) Bool)))))) => (fun (y21 : Int) => (fun (y22 : Int) => (E y16 y17 y18 y19 y20 y21 y22))))))))) (@F_lex_lexer_piece k R y11 y12 y13 y14 y15 (3 : Int) x5 Bool.false (@Nat.cast Int instNatCastInt (@List.length UInt8 x5)) (fun (y16 : Int) => (fun (y17 : Int) => (fun (y18 : (@List UInt8)) => (fun (y19 : Int) => (fun (y20 : (@List (@Prod Int (@Prod Int (@Prod Int (@Prod (@List UInt8) Bool)))))) => (K y16 y17 y18 y19 y20)))))))))))))) (fun (y11 : Int) => (fun (y12 : Int) => (fun (y13 : (@List UInt8)) => (fun (y14 : Int) => (fun (y15 : (@List (@Prod Int (@Prod Int (@Prod Int (@Prod (@List UInt8) Bool)))))) => (fun (y16 : Int) => (fun (y17 : Int) => (E y11 y12 y13 y14 y15 y16 y17)))))))))))) (@Option.none R)))) (@Option.none R))
theorem A_lex_lexer_text_eq (k : Nat) {R : Type} (I : Nat → St → Option R) (x0 : Int) (x1 : Int) (x2 : (List UInt8)) (x3 : Int) (x4 : (List (Int × (Int × (Int × ((List UInt8) × Bool)))))) (x5 : (List UInt8)) (K : (Int → Int → (List UInt8) → Int → (List (Int × (Int × (Int × ((List UInt8) × Bool))))) → Option R)) (E : (Int → Int → (List UInt8) → Int → (List (Int × (Int × (Int × ((List UInt8) × Bool))))) → Int → Int → Option R)) : fnK (cx_lex_lexer_text k) k code_lex_lexer_text 59 [] sp_lex_lexer_text [.ptr 1 0, .v .str x5] [(21, .row 25 (.pr (.int .i64) (.pr (.int .i64) (.pr (.int .i64) (.pr .str .bool)))) x4), (1, .var 111 [.v (.int .i64) x0, .v (.int .i64) x1, .v .str x2, .v (.int .i64) x3, .row 21])] (wrap_lex_lexer_text K E) = A_lex_lexer_text k  x0 x1 x2 x3 x4 x5 K E := by kernel_rfl
noncomputable def F_lex_lexer_text (k : Nat) {R : Type} (x0 : Int) (x1 : Int) (x2 : (List UInt8)) (x3 : Int) (x4 : (List (Int × (Int × (Int × ((List UInt8) × Bool)))))) (x5 : (List UInt8)) (K : (Int → Int → (List UInt8) → Int → (List (Int × (Int × (Int × ((List UInt8) × Bool))))) → Option R)) (E : (Int → Int → (List UInt8) → Int → (List (Int × (Int × (Int × ((List UInt8) × Bool))))) → Int → Int → Option R)) : Option R := A_lex_lexer_text k  x0 x1 x2 x3 x4 x5 K E
theorem F_lex_lexer_text_eq (k : Nat) {R : Type} (x0 : Int) (x1 : Int) (x2 : (List UInt8)) (x3 : Int) (x4 : (List (Int × (Int × (Int × ((List UInt8) × Bool)))))) (x5 : (List UInt8)) (K : (Int → Int → (List UInt8) → Int → (List (Int × (Int × (Int × ((List UInt8) × Bool))))) → Option R)) (E : (Int → Int → (List UInt8) → Int → (List (Int × (Int × (Int × ((List UInt8) × Bool))))) → Int → Int → Option R)) : fnK (cx_lex_lexer_text k) k code_lex_lexer_text 59 [] sp_lex_lexer_text [.ptr 1 0, .v .str x5] [(21, .row 25 (.pr (.int .i64) (.pr (.int .i64) (.pr (.int .i64) (.pr .str .bool)))) x4), (1, .var 111 [.v (.int .i64) x0, .v (.int .i64) x1, .v .str x2, .v (.int .i64) x3, .row 21])] (wrap_lex_lexer_text K E) = F_lex_lexer_text k x0 x1 x2 x3 x4 x5 K E := by
  exact A_lex_lexer_text_eq k (fun _ _ => none) x0 x1 x2 x3 x4 x5 K E
noncomputable def run_lex_lexer_text (k : Nat) {R : Type} : List PV → List (Nm × HObj) → (Out → Option R) → Option R
  | [.ptr 1 0, .v .str x5], [(21, .row 25 (.pr (.int .i64) (.pr (.int .i64) (.pr (.int .i64) (.pr .str .bool)))) x4), (1, .var 111 [.v (.int .i64) x0, .v (.int .i64) x1, .v .str x2, .v (.int .i64) x3, .row 21])], K => F_lex_lexer_text k x0 x1 x2 x3 x4 x5 (fun y0 y1 y2 y3 y4 => K (.ret [] [(21, .row 25 (.pr (.int .i64) (.pr (.int .i64) (.pr (.int .i64) (.pr .str .bool)))) y4), (1, .var 111 [.v (.int .i64) y0, .v (.int .i64) y1, .v .str y2, .v (.int .i64) y3, .row 21])])) (fun z0 z1 z2 z3 z4 z5 z6 => K (.pan (.ifc 30 (.agg [.v (.int .i64) z5, .v (.int .i64) z6])) [(21, .row 25 (.pr (.int .i64) (.pr (.int .i64) (.pr (.int .i64) (.pr .str .bool)))) z4), (1, .var 111 [.v (.int .i64) z0, .v (.int .i64) z1, .v .str z2, .v (.int .i64) z3, .row 21])]))
  | _, _, _ => none
theorem C_lex_lexer_text_ok (k : Nat) : (C_lex_lexer_text k).Ok Tryd.prog := by
  intro f ps hp R K r h
  unfold C_lex_lexer_text at h
  simp only at h
  cases hb68 : Nat.beq f 68 with
  | true => rw [hb68, cond_true] at h; rw [Nat.eq_of_beq_eq_true hb68]; exact D_lex_lexer_gives k h
  | false =>
  rw [hb68, cond_false] at h
  cases hb70 : Nat.beq f 70 with
  | true => rw [hb70, cond_true] at h; rw [Nat.eq_of_beq_eq_true hb70]; exact D_lex_dash k h
  | false =>
  rw [hb70, cond_false] at h
  cases hb71 : Nat.beq f 71 with
  | true => rw [hb71, cond_true] at h; rw [Nat.eq_of_beq_eq_true hb71]; exact D_lex_lexer_piece k h
  | false =>
  rw [hb71, cond_false] at h
  cases hb72 : Nat.beq f 72 with
  | true => rw [hb72, cond_true] at h; rw [Nat.eq_of_beq_eq_true hb72]; exact D_lex_key k h
  | false =>
  rw [hb72, cond_false] at h
  cases hb87 : Nat.beq f 87 with
  | true => rw [hb87, cond_true] at h; rw [Nat.eq_of_beq_eq_true hb87]; exact D_lex_lexer_single k h
  | false =>
  rw [hb87, cond_false] at h
  cases hb88 : Nat.beq f 88 with
  | true => rw [hb88, cond_true] at h; rw [Nat.eq_of_beq_eq_true hb88]; exact D_lex_lexer_double k h
  | false =>
  rw [hb88, cond_false] at h
  cases hb89 : Nat.beq f 89 with
  | true => rw [hb89, cond_true] at h; rw [Nat.eq_of_beq_eq_true hb89]; exact D_strings_IndexByte k h
  | false =>
  rw [hb89, cond_false] at h
  cases h
theorem D_lex_lexer_text (k : Nat) {ps : List PV} {hp : List (Nm × HObj)} {R : Type} {K : Out → Option R} {r : R} (h : run_lex_lexer_text k ps hp K = some r) : DoesTo Tryd.prog 73 ps hp fun out => K out = some r := by
  unfold run_lex_lexer_text at h
  split at h
  · rw [← F_lex_lexer_text_eq] at h
    have := fn_ok (P := Tryd.prog) (cx := cx_lex_lexer_text k) (f := 73) ⟨tyT_ok, C_lex_lexer_text_ok k, fun _ _ => rfl⟩ (by kernel_rfl) (fn := Tryd.f73) (c := code_lex_lexer_text) (by kernel_rfl) (by kernel_rfl) (by kernel_rfl) (rs := []) (by kernel_rfl) (by kernel_rfl) h
    exact this.mono fun out ho => by
      unfold wrap_lex_lexer_text at ho
      split at ho <;> first | exact ho | cases ho
  · cases h
end Go.Proofs.YtpfbdepoammjmaaDoor.Pvm

set_option maxRecDepth 1000000
set_option maxHeartbeats 0
namespace Go.Proofs.YtpfbdepoammjmaaDoor.Pvm
open Go Go.Proofs
abbrev KT_lex_lexer_row (R : Type) : Type := (Int → Int → (List UInt8) → Int → (List (Int × (Int × (Int × ((List UInt8) × Bool))))) → Option R)
abbrev ET_lex_lexer_row (R : Type) : Type := (Int → Int → (List UInt8) → Int → (List (Int × (Int × (Int × ((List UInt8) × Bool))))) → Int → Int → Option R)
def sig_lex_lexer_row : List LS := [.obj 1 [.any, .any, .any, .any, .own 21 25 (.pr (.int .i64) (.pr (.int .i64) (.pr (.int .i64) (.pr .str .bool))))]]
noncomputable def C_lex_lexer_row (k : Nat) : CTab := ⟨fun f => bif Nat.beq f 68 then sig_lex_lexer_gives else bif Nat.beq f 69 then sig_lex_lexer_rest else bif Nat.beq f 70 then sig_lex_dash else bif Nat.beq f 71 then sig_lex_lexer_piece else bif Nat.beq f 72 then sig_lex_key else bif Nat.beq f 73 then sig_lex_lexer_text else [], fun f {_} ps hp K => bif Nat.beq f 68 then run_lex_lexer_gives k ps hp K else bif Nat.beq f 69 then run_lex_lexer_rest k ps hp K else bif Nat.beq f 70 then run_lex_dash k ps hp K else bif Nat.beq f 71 then run_lex_lexer_piece k ps hp K else bif Nat.beq f 72 then run_lex_key k ps hp K else bif Nat.beq f 73 then run_lex_lexer_text k ps hp K else none⟩
def wrap_lex_lexer_row {R : Type} (K : KT_lex_lexer_row R) (E : ET_lex_lexer_row R) : Out → Option R
  | .ret [] [(21, .row 25 (.pr (.int .i64) (.pr (.int .i64) (.pr (.int .i64) (.pr .str .bool)))) y4), (1, .var 111 [.v (.int .i64) y0, .v (.int .i64) y1, .v .str y2, .v (.int .i64) y3, .row 21])] => K y0 y1 y2 y3 y4
  | .pan (.ifc 30 (.agg [.v (.int .i64) z5, .v (.int .i64) z6])) [(21, .row 25 (.pr (.int .i64) (.pr (.int .i64) (.pr (.int .i64) (.pr .str .bool)))) z4), (1, .var 111 [.v (.int .i64) z0, .v (.int .i64) z1, .v .str z2, .v (.int .i64) z3, .row 21])] => E z0 z1 z2 z3 z4 z5 z6
  | _ => none
def sp_lex_lexer_row : RetSpec := ⟨[], [(1, .obj 1 [.any, .any, .any, .any, .own 21 25 (.pr (.int .i64) (.pr (.int .i64) (.pr (.int .i64) (.pr .str .bool))))])], [(1, .obj 1 [.any, .any, .any, .any, .own 21 25 (.pr (.int .i64) (.pr (.int .i64) (.pr (.int .i64) (.pr .str .bool))))])]⟩
def cuts_lex_lexer_row : List (Nat × CutSpec) := [(1003, ⟨[(0, .obj 1 [.any, .any, .any, .any, .own 21 25 (.pr (.int .i64) (.pr (.int .i64) (.pr (.int .i64) (.pr .str .bool))))]), (2, .any)], [(1, .obj 1 [.any, .any, .any, .any, .own 21 25 (.pr (.int .i64) (.pr (.int .i64) (.pr (.int .i64) (.pr .str .bool))))])]⟩)]
def plans_lex_lexer_row : List (Nat × Plan) := []
noncomputable def cx_lex_lexer_row (k : Nat) : Ctx := ⟨tyT, cuts_lex_lexer_row, C_lex_lexer_row k, [], [1], plans_lex_lexer_row, @SH⟩
noncomputable def code_lex_lexer_row : Code := Tryd.f55.body.getD .skip
def st_lex_lexer_row_1003 (s0 : Int) (s1 : Int) (s2 : (List UInt8)) (s3 : Int) (s4 : (List (Int × (Int × (Int × ((List UInt8) × Bool)))))) (s5 : (List UInt8)) : St := ⟨mkT [(0, .ptr 1 0), (2, .v .str s5)], mkH [(21, .row 25 (.pr (.int .i64) (.pr (.int .i64) (.pr (.int .i64) (.pr .str .bool)))) s4), (1, .var 111 [.v (.int .i64) s0, .v (.int .i64) s1, .v .str s2, .v (.int .i64) s3, .row 21])]⟩
noncomputable def B_lex_lexer_row_1003 (k : Nat) {R : Type} (E1003 : (Int → Int → (List UInt8) → Int → (List (Int × (Int × (Int × ((List UInt8) × Bool))))) → (List UInt8) → Option R)) (s0 : Int) (s1 : Int) (s2 : (List UInt8)) (s3 : Int) (s4 : (List (Int × (Int × (Int × ((List UInt8) × Bool)))))) (s5 : (List UInt8)) (K : KT_lex_lexer_row R) (E : ET_lex_lexer_row R) : Option R := (@F_lex_dash k R s5 (fun (y11 : Bool) => (@cond (@Option R) y11 (@F_lex_lexer_piece k R s0 s1 s2 s3 s4 (1 : Int) (@Array.toList UInt8 (@ByteArray.data (@ByteArray.mk (@List.toArray UInt8 [])))) Bool.false (1 : Int) (fun (y12 : Int) => (fun (y13 : Int) => (fun (y14 : (@List UInt8)) => (fun (y15 : Int) => (fun (y16 : (@List (@Prod Int (@Prod Int (@Prod Int (@Prod (@List UInt8) Bool)))))) => (@F_lex_lexer_rest k R y12 y13 y14 y15 y16 (fun (y17 : Int) => (fun (y18 : Int) => (fun (y19 : (@List UInt8)) => (fun (y20 : Int) => (fun (y21 : (@List (@Prod Int (@Prod Int (@Prod Int (@Prod (@List UInt8) Bool)))))) => (fun (y22 : (@List UInt8)) => (E1003 y17 y18 y19 y20 y21 y22)))))))))))))) (@F_lex_key k R s5 (fun (y12 : (@List UInt8)) => (@cond (@Option R) (@Bool.not (@BEq.beq (@List UInt8) (@List.instBEq UInt8 (@instBEqOfDecidableEq UInt8 @instDecidableEqUInt8)) y12 (@Array.toList UInt8 (@ByteArray.data (@ByteArray.mk (@List.toArray UInt8 [])))))) (@cond (@Option R) (@Decidable.decide (@GT.gt Int Int.instLTInt (@Nat.cast Int instNatCastInt (@List.length UInt8 y12)) (64 : Int)) (@Int.decLt (64 : Int) (@Nat.cast Int instNatCastInt (@List.length UInt8 y12)))) (@F_lex_lexer_gives k R s0 s1 s2 s3 s4 (5 : Int) (fun (y13 : Int) => (fun (y14 : Int) => (fun (y15 : (@List UInt8)) => (fun (y16 : Int) => (fun (y17 : (@List (@Prod Int (@Prod Int (@Prod Int (@Prod (@List UInt8) Bool)))))) => (@F_lex_lexer_piece k R y13 y14 y15 y16 y17 (2 : Int) y12 Bool.false (@Go.IntKind.wrap Go.IntKind.i64 (@HAdd.hAdd Int Int Int (@instHAdd Int @Int.instAdd) (@Nat.cast Int instNatCastInt (@List.length UInt8 y12)) (1 : Int))) (fun (y18 : Int) => (fun (y19 : Int) => (fun (y20 : (@List UInt8)) => (fun (y21 : Int) => (fun (y22 : (@List (@Prod Int (@Prod Int (@Prod Int (@Prod (@List UInt8) Bool)))))) => (@F_lex_lexer_rest k R y18 y19 y20 y21 y22 (fun (y23 : Int) => (fun (y24 : Int) => (fun (y25 : (@List UInt8)) => (fun (y26 : Int) => (fun (y27 : (@List (@Prod Int (@Prod Int (@Prod Int (@Prod (@List UInt8) Bool)))))) => (fun (y28 : (@List UInt8)) => (@cond (@Option R) (@Bool.not (@BEq.beq (@List UInt8) (@List.instBEq UInt8 (@instBEqOfDecidableEq UInt8 @instDecidableEqUInt8)) y28 (@Array.toList UInt8 (@ByteArray.data (@ByteArray.mk (@List.toArray UInt8 [])))))) (@F_lex_lexer_text k R y23 y24 y25 y26 y27 y28 (fun (y29 : Int) => (fun (y30 : Int) => (fun (y31 : (@List UInt8)) => (fun (y32 : Int) => (fun (y33 : (@List (@Prod Int (@Prod Int (@Prod Int (@Prod (@List UInt8) Bool)))))) => (K y29 y30 y31 y32 y33)))))) (fun (y29 : Int) => (fun (y30 : Int) => (fun (y31 : (@List UInt8)) => (fun (y32 : Int) => (fun (y33 : (@List (@Prod Int (@Prod Int (@Prod Int (@Prod (@List UInt8) Bool)))))) => (fun (y34 : Int) => (fun (y35 : Int) => (E y29 y30 y31 y32 y33 y34 y35))))))))) (K y23 y24 y25 y26 y27)))))))))))))))))))) (fun (y13 : Int) => (fun (y14 : Int) => (fun (y15 : (@List UInt8)) => (fun (y16 : Int) => (fun (y17 : (@List (@Prod Int (@Prod Int (@Prod Int (@Prod (@List UInt8) Bool)))))) => (fun (y18 : Int) => (fun (y19 : Int) => (E y13 y14 y15 y16 y17 y18 y19))))))))) (@F_lex_lexer_piece k R s0 s1 s2 s3 s4 (2 : Int) y12 Bool.false (@Go.IntKind.wrap Go.IntKind.i64 (@HAdd.hAdd Int Int Int (@instHAdd Int @Int.instAdd) (@Nat.cast Int instNatCastInt (@List.length UInt8 y12)) (1 : Int))) (fun (y13 : Int) => (fun (y14 : Int) => (fun (y15 : (@List UInt8)) => (fun (y16 : Int) => (fun (y17 : (@List (@Prod Int (@Prod Int (@Prod Int (@Prod (@List UInt8) Bool)))))) => (@F_lex_lexer_rest k R y13 y14 y15 y16 y17 (fun (y18 : Int) => (fun (y19 : Int) => (fun (y20 : (@List UInt8)) => (fun (y21 : Int) => (fun (y22 : (@List (@Prod Int (@Prod Int (@Prod Int (@Prod (@List UInt8) Bool)))))) => (fun (y23 : (@List UInt8)) => (@cond (@Option R) (@Bool.not (@BEq.beq (@List UInt8) (@List.instBEq UInt8 (@instBEqOfDecidableEq UInt8 @instDecidableEqUInt8)) y23 (@Array.toList UInt8 (@ByteArray.data (@ByteArray.mk (@List.toArray UInt8 [])))))) (@F_lex_lexer_text k R y18 y19 y20 y21 y22 y23 (fun (y24 : Int) => (fun (y25 : Int) => (fun (y26 : (@List UInt8)) => (fun (y27 : Int) => (fun (y28 : (@List (@Prod Int (@Prod Int (@Prod Int (@Prod (@List UInt8) Bool)))))) => (K y24 y25 y26 y27 y28)))))) (fun (y24 : Int) => (fun (y25 : Int) => (fun (y26 : (@List UInt8)) => (fun (y27 : Int) => (fun (y28 : (@List (@Prod Int (@Prod Int (@Prod Int (@Prod (@List UInt8) Bool)))))) => (fun (y29 : Int) => (fun (y30 : Int) => (E y24 y25 y26 y27 y28 y29 y30))))))))) (K y18 y19 y20 y21 y22)))))))))))))))) (@cond (@Option R) (@Bool.not (@BEq.beq (@List UInt8) (@List.instBEq UInt8 (@instBEqOfDecidableEq UInt8 @instDecidableEqUInt8)) s5 (@Array.toList UInt8 (@ByteArray.data (@ByteArray.mk (@List.toArray UInt8 [])))))) (@F_lex_lexer_text k R s0 s1 s2 s3 s4 s5 (fun (y13 : Int) => (fun (y14 : Int) => (fun (y15 : (@List UInt8)) => (fun (y16 : Int) => (fun (y17 : (@List (@Prod Int (@Prod Int (@Prod Int (@Prod (@List UInt8) Bool)))))) => (K y13 y14 y15 y16 y17)))))) (fun (y13 : Int) => (fun (y14 : Int) => (fun (y15 : (@List UInt8)) => (fun (y16 : Int) => (fun (y17 : (@List (@Prod Int (@Prod Int (@Prod Int (@Prod (@List UInt8) Bool)))))) => (fun (y18 : Int) => (fun (y19 : Int) => (E y13 y14 y15 y16 y17 y18 y19))))))))) (K s0 s1 s2 s3 s4))))))))
theorem B_lex_lexer_row_1003_eq (k : Nat) {R : Type} (I : Nat → St → Option R) (s0 : Int) (s1 : Int) (s2 : (List UInt8)) (s3 : Int) (s4 : (List (Int × (Int × (Int × ((List UInt8) × Bool)))))) (s5 : (List UInt8)) (K : KT_lex_lexer_row R) (E : ET_lex_lexer_row R) : execK (cx_lex_lexer_row k) k (at_ [1, 1, 0, 0, 0] code_lex_lexer_row) (st_lex_lexer_row_1003 s0 s1 s2 s3 s4 s5) (konts (cx_lex_lexer_row k) k I [1, 1, 0, 0, 0] code_lex_lexer_row (outK (cx_lex_lexer_row k) sp_lex_lexer_row [] (wrap_lex_lexer_row K E))) = B_lex_lexer_row_1003 k (fun s0 s1 s2 s3 s4 s5 => I 1003 (st_lex_lexer_row_1003 s0 s1 s2 s3 s4 s5)) s0 s1 s2 s3 s4 s5 K E := by kernel_rfl
noncomputable def A_lex_lexer_row (k : Nat) {R : Type} (E1003 : (Int → Int → (List UInt8) → Int → (List (Int × (Int × (Int × ((List UInt8) × Bool))))) → (List UInt8) → Option R)) (x0 : Int) (x1 : Int) (x2 : (List UInt8)) (x3 : Int) (x4 : (List (Int × (Int × (Int × ((List UInt8) × Bool)))))) (K : KT_lex_lexer_row R) (E : ET_lex_lexer_row R) : Option R := (@cond (@Option R) (@cond (@Kd.T Kd.bool) (@Decidable.decide (@LT.lt Int Int.instLTInt x1 (0 : Int)) (@Int.decLt x1 (0 : Int))) Bool.true (@Decidable.decide (@GT.gt Int Int.instLTInt x1 (16384 : Int)) (@Int.decLt (16384 : Int) x1))) (@F_lex_lexer_gives k R x0 x1 x2 x3 x4 (6 : Int) (fun (y10 : Int) => (fun (y11 : Int) => (fun (y12 : (@List UInt8)) => (fun (y13 : Int) => (fun (y14 : (@List (@Prod Int (@Prod Int (@Prod Int (@Prod (@List UInt8) Bool)))))) => (@F_lex_lexer_rest k R y10 y11 y12 y13 y14 (fun (y15 : Int) => (fun (y16 : Int) => (fun (y17 : (@List UInt8)) => (fun (y18 : Int) => (fun (y19 : (@List (@Prod Int (@Prod Int (@Prod Int (@Prod (@List UInt8) Bool)))))) => (fun (y20 : (@List UInt8)) => (E1003 y15 y16 y17 y18 y19 y20))))))))))))) (fun (y10 : Int) => (fun (y11 : Int) => (fun (y12 : (@List UInt8)) => (fun (y13 : Int) => (fun (y14 : (@List (@Prod Int (@Prod Int (@Prod Int (@Prod (@List UInt8) Bool)))))) => (fun (y15 : Int) => (fun (y16 : Int) => (E y10 y11 y12 y13 y14 y15 y16))))))))) (@F_lex_lexer_rest k R x0 x1 x2 x3 x4 (fun (y10 : Int) => (fun (y11 : Int) => (fun (y12 : (@List UInt8)) => (fun (y13 : Int) => (fun (y14 : (@List (@Prod Int (@Prod Int (@Prod Int (@Prod (@List UInt8) Bool)))))) => (fun (y15 : (@List UInt8)) => (E1003 y10 y11 y12 y13 y14 y15)))))))))
theorem A_lex_lexer_row_eq (k : Nat) {R : Type} (I : Nat → St → Option R) (x0 : Int) (x1 : Int) (x2 : (List UInt8)) (x3 : Int) (x4 : (List (Int × (Int × (Int × ((List UInt8) × Bool)))))) (K : KT_lex_lexer_row R) (E : ET_lex_lexer_row R) : fnK (cx_lex_lexer_row k) k code_lex_lexer_row 50 [] sp_lex_lexer_row [.ptr 1 0] [(21, .row 25 (.pr (.int .i64) (.pr (.int .i64) (.pr (.int .i64) (.pr .str .bool)))) x4), (1, .var 111 [.v (.int .i64) x0, .v (.int .i64) x1, .v .str x2, .v (.int .i64) x3, .row 21])] (wrap_lex_lexer_row K E) = A_lex_lexer_row k (fun s0 s1 s2 s3 s4 s5 => iter (cx_lex_lexer_row k).pv (look (cx_lex_lexer_row k).cuts 1003) (execK (cx_lex_lexer_row k) k (at_ [1, 1, 0, 0, 0] code_lex_lexer_row)) k (st_lex_lexer_row_1003 s0 s1 s2 s3 s4 s5) (konts (cx_lex_lexer_row k) k I [1, 1, 0, 0] code_lex_lexer_row (outK (cx_lex_lexer_row k) sp_lex_lexer_row [] (wrap_lex_lexer_row K E)))) x0 x1 x2 x3 x4 K E := by kernel_rfl
noncomputable def L_lex_lexer_row_1003 (k : Nat) {R : Type}  : Nat → Int → Int → (List UInt8) → Int → (List (Int × (Int × (Int × ((List UInt8) × Bool))))) → (List UInt8) → (Int → Int → (List UInt8) → Int → (List (Int × (Int × (Int × ((List UInt8) × Bool))))) → Option R) → (Int → Int → (List UInt8) → Int → (List (Int × (Int × (Int × ((List UInt8) × Bool))))) → Int → Int → Option R) → Option R
  | 0, _, _, _, _, _, _, _, _ => none
  | n + 1, s0, s1, s2, s3, s4, s5, K, E => B_lex_lexer_row_1003 k (fun s0 s1 s2 s3 s4 s5 => L_lex_lexer_row_1003 k  n s0 s1 s2 s3 s4 s5 K E) s0 s1 s2 s3 s4 s5 K E
theorem L_lex_lexer_row_1003_eq (k : Nat) {R : Type} (I : Nat → St → Option R) (K : KT_lex_lexer_row R) (E : ET_lex_lexer_row R) : ∀ (n : Nat) (s0 : Int) (s1 : Int) (s2 : (List UInt8)) (s3 : Int) (s4 : (List (Int × (Int × (Int × ((List UInt8) × Bool)))))) (s5 : (List UInt8)), iter (cx_lex_lexer_row k).pv (look (cx_lex_lexer_row k).cuts 1003) (execK (cx_lex_lexer_row k) k (at_ [1, 1, 0, 0, 0] code_lex_lexer_row)) n (st_lex_lexer_row_1003 s0 s1 s2 s3 s4 s5) (konts (cx_lex_lexer_row k) k I [1, 1, 0, 0] code_lex_lexer_row (outK (cx_lex_lexer_row k) sp_lex_lexer_row [] (wrap_lex_lexer_row K E))) = L_lex_lexer_row_1003 k  n s0 s1 s2 s3 s4 s5 K E := by
  intro n
  induction n with
  | zero => intros; rfl
  | succ n ih =>
    intro s0 s1 s2 s3 s4 s5
    let I' : Nat → St → Option R := fun id s => bif Nat.beq id 1003 then iter (cx_lex_lexer_row k).pv (look (cx_lex_lexer_row k).cuts 1003) (execK (cx_lex_lexer_row k) k (at_ [1, 1, 0, 0, 0] code_lex_lexer_row)) n s (konts (cx_lex_lexer_row k) k I [1, 1, 0, 0] code_lex_lexer_row (outK (cx_lex_lexer_row k) sp_lex_lexer_row [] (wrap_lex_lexer_row K E))) else I id s
    have e := B_lex_lexer_row_1003_eq k I' s0 s1 s2 s3 s4 s5 K E
    have h1003 : (fun s0 s1 s2 s3 s4 s5 => I' 1003 (st_lex_lexer_row_1003 s0 s1 s2 s3 s4 s5)) = (fun s0 s1 s2 s3 s4 s5 => L_lex_lexer_row_1003 k  n s0 s1 s2 s3 s4 s5 K E) := by funext s0 s1 s2 s3 s4 s5; exact ih s0 s1 s2 s3 s4 s5
    refine Eq.trans (?_ : _ = _) (e.trans (Eq.trans ((congrArg ((fun E1003 => B_lex_lexer_row_1003 k E1003 s0 s1 s2 s3 s4 s5 K E)) h1003)) (by rw [L_lex_lexer_row_1003])))
    rfl
noncomputable def F_lex_lexer_row (k : Nat) {R : Type} (x0 : Int) (x1 : Int) (x2 : (List UInt8)) (x3 : Int) (x4 : (List (Int × (Int × (Int × ((List UInt8) × Bool)))))) (K : KT_lex_lexer_row R) (E : ET_lex_lexer_row R) : Option R := A_lex_lexer_row k (fun s0 s1 s2 s3 s4 s5 => L_lex_lexer_row_1003 k k s0 s1 s2 s3 s4 s5 K E) x0 x1 x2 x3 x4 K E
theorem F_lex_lexer_row_eq (k : Nat) {R : Type} (x0 : Int) (x1 : Int) (x2 : (List UInt8)) (x3 : Int) (x4 : (List (Int × (Int × (Int × ((List UInt8) × Bool)))))) (K : KT_lex_lexer_row R) (E : ET_lex_lexer_row R) : fnK (cx_lex_lexer_row k) k code_lex_lexer_row 50 [] sp_lex_lexer_row [.ptr 1 0] [(21, .row 25 (.pr (.int .i64) (.pr (.int .i64) (.pr (.int .i64) (.pr .str .bool)))) x4), (1, .var 111 [.v (.int .i64) x0, .v (.int .i64) x1, .v .str x2, .v (.int .i64) x3, .row 21])] (wrap_lex_lexer_row K E) = F_lex_lexer_row k x0 x1 x2 x3 x4 K E := by
  let I : Nat → St → Option R := fun _ _ => none
  have h1003 : (fun s0 s1 s2 s3 s4 s5 => iter (cx_lex_lexer_row k).pv (look (cx_lex_lexer_row k).cuts 1003) (execK (cx_lex_lexer_row k) k (at_ [1, 1, 0, 0, 0] code_lex_lexer_row)) k (st_lex_lexer_row_1003 s0 s1 s2 s3 s4 s5) (konts (cx_lex_lexer_row k) k I [1, 1, 0, 0] code_lex_lexer_row (outK (cx_lex_lexer_row k) sp_lex_lexer_row [] (wrap_lex_lexer_row K E)))) = (fun s0 s1 s2 s3 s4 s5 => L_lex_lexer_row_1003 k k s0 s1 s2 s3 s4 s5 K E) := by funext s0 s1 s2 s3 s4 s5; exact L_lex_lexer_row_1003_eq k I K E k s0 s1 s2 s3 s4 s5
  exact (A_lex_lexer_row_eq k I x0 x1 x2 x3 x4 K E).trans (congrArg ((fun E1003 => A_lex_lexer_row k E1003 x0 x1 x2 x3 x4 K E)) h1003)
noncomputable def run_lex_lexer_row (k : Nat) {R : Type} : List PV → List (Nm × HObj) → (Out → Option R) → Option R
  | [.ptr 1 0], [(21, .row 25 (.pr (.int .i64) (.pr (.int .i64) (.pr (.int .i64) (.pr .str .bool)))) x4), (1, .var 111 [.v (.int .i64) x0, .v (.int .i64) x1, .v .str x2, .v (.int .i64) x3, .row 21])], K => F_lex_lexer_row k x0 x1 x2 x3 x4 (fun y0 y1 y2 y3 y4 => K (.ret [] [(21, .row 25 (.pr (.int .i64) (.pr (.int .i64) (.pr (.int .i64) (.pr .str .bool)))) y4), (1, .var 111 [.v (.int .i64) y0, .v (.int .i64) y1, .v .str y2, .v (.int .i64) y3, .row 21])])) (fun z0 z1 z2 z3 z4 z5 z6 => K (.pan (.ifc 30 (.agg [.v (.int .i64) z5, .v (.int .i64) z6])) [(21, .row 25 (.pr (.int .i64) (.pr (.int .i64) (.pr (.int .i64) (.pr .str .bool)))) z4), (1, .var 111 [.v (.int .i64) z0, .v (.int .i64) z1, .v .str z2, .v (.int .i64) z3, .row 21])]))
  | _, _, _ => none
theorem C_lex_lexer_row_ok (k : Nat) : (C_lex_lexer_row k).Ok Tryd.prog := by
  intro f ps hp R K r h
  unfold C_lex_lexer_row at h
  simp only at h
  cases hb68 : Nat.beq f 68 with
  | true => rw [hb68, cond_true] at h; rw [Nat.eq_of_beq_eq_true hb68]; exact D_lex_lexer_gives k h
  | false =>
  rw [hb68, cond_false] at h
  cases hb69 : Nat.beq f 69 with
  | true => rw [hb69, cond_true] at h; rw [Nat.eq_of_beq_eq_true hb69]; exact D_lex_lexer_rest k h
  | false =>
  rw [hb69, cond_false] at h
  cases hb70 : Nat.beq f 70 with
  | true => rw [hb70, cond_true] at h; rw [Nat.eq_of_beq_eq_true hb70]; exact D_lex_dash k h
  | false =>
  rw [hb70, cond_false] at h
  cases hb71 : Nat.beq f 71 with
  | true => rw [hb71, cond_true] at h; rw [Nat.eq_of_beq_eq_true hb71]; exact D_lex_lexer_piece k h
  | false =>
  rw [hb71, cond_false] at h
  cases hb72 : Nat.beq f 72 with
  | true => rw [hb72, cond_true] at h; rw [Nat.eq_of_beq_eq_true hb72]; exact D_lex_key k h
  | false =>
  rw [hb72, cond_false] at h
  cases hb73 : Nat.beq f 73 with
  | true => rw [hb73, cond_true] at h; rw [Nat.eq_of_beq_eq_true hb73]; exact D_lex_lexer_text k h
  | false =>
  rw [hb73, cond_false] at h
  cases h
theorem D_lex_lexer_row (k : Nat) {ps : List PV} {hp : List (Nm × HObj)} {R : Type} {K : Out → Option R} {r : R} (h : run_lex_lexer_row k ps hp K = some r) : DoesTo Tryd.prog 55 ps hp fun out => K out = some r := by
  unfold run_lex_lexer_row at h
  split at h
  · rw [← F_lex_lexer_row_eq] at h
    have := fn_ok (P := Tryd.prog) (cx := cx_lex_lexer_row k) (f := 55) ⟨tyT_ok, C_lex_lexer_row_ok k, fun _ _ => rfl⟩ (by kernel_rfl) (fn := Tryd.f55) (c := code_lex_lexer_row) (by kernel_rfl) (by kernel_rfl) (by kernel_rfl) (rs := []) (by kernel_rfl) (by kernel_rfl) h
    exact this.mono fun out ho => by
      unfold wrap_lex_lexer_row at ho
      split at ho <;> first | exact ho | cases ho
  · cases h
end Go.Proofs.YtpfbdepoammjmaaDoor.Pvm

set_option maxRecDepth 1000000
set_option maxHeartbeats 0
namespace Go.Proofs.YtpfbdepoammjmaaDoor.Pvm
open Go Go.Proofs
def sig_lex_Row : List LS := [.ag [.any, .any, .any]]
noncomputable def C_lex_Row (k : Nat) : CTab := ⟨fun f => bif Nat.beq f 55 then sig_lex_lexer_row else [], fun f {_} ps hp K => bif Nat.beq f 55 then run_lex_lexer_row k ps hp K else none⟩
def wrap_lex_Row {R : Type} (K : ((List (Int × (Int × (Int × ((List UInt8) × Bool))))) → Int → Int → Option R)) : Out → Option R
  | .ret [.v (.sl (.pr (.int .i64) (.pr (.int .i64) (.pr (.int .i64) (.pr .str .bool))))) y0, .agg [.v (.int .i64) y1, .v (.int .i64) y2]] [] => K y0 y1 y2
  | _ => none
def sp_lex_Row : RetSpec := ⟨[.sl (.pr (.int .i64) (.pr (.int .i64) (.pr (.int .i64) (.pr .str .bool)))), .ag [.any, .any]], [], []⟩
def cuts_lex_Row : List (Nat × CutSpec) := []
def plans_lex_Row : List (Nat × Plan) := []
noncomputable def cx_lex_Row (k : Nat) : Ctx := ⟨tyT, cuts_lex_Row, C_lex_Row k, [2, 3], [], plans_lex_Row, @SH⟩
noncomputable def code_lex_Row : Code := Tryd.f37.body.getD .skip
noncomputable def runD_lex_Row (k : Nat) {R : Type} : PV → List PV → List (Nm × HObj) → (Out → Option R) → Option R
  | .nilif, [.ptr 1 0, .ptr 2 0], [(1, .var 22 [.v (.sl (.pr (.int .i64) (.pr (.int .i64) (.pr (.int .i64) (.pr .str .bool))))) x0]), (2, .var 30 [.v (.int .i64) x1, .v (.int .i64) x2])], K => F_lex_Row_1_n k x0 x1 x2 (fun y0 y1 y2 => K (.ret [] [(1, .var 22 [.v (.sl (.pr (.int .i64) (.pr (.int .i64) (.pr (.int .i64) (.pr .str .bool))))) y0]), (2, .var 30 [.v (.int .i64) y1, .v (.int .i64) y2])]))
  | .ifc 30 (.agg [.v (.int .i64) x3, .v (.int .i64) x4]), [.ptr 1 0, .ptr 2 0], [(1, .var 22 [.v (.sl (.pr (.int .i64) (.pr (.int .i64) (.pr (.int .i64) (.pr .str .bool))))) x0]), (2, .var 30 [.v (.int .i64) x1, .v (.int .i64) x2])], K => F_lex_Row_1_p k x0 x1 x2 x3 x4 (fun y0 y1 y2 => K (.ret [] [(1, .var 22 [.v (.sl (.pr (.int .i64) (.pr (.int .i64) (.pr (.int .i64) (.pr .str .bool))))) y0]), (2, .var 30 [.v (.int .i64) y1, .v (.int .i64) y2])]))
  | _, _, _, _ => none
noncomputable def A_lex_Row (k : Nat) {R : Type}  (x0 : Int) (x1 : Int) (x2 : (List UInt8)) (K : ((List (Int × (Int × (Int × ((List UInt8) × Bool))))) → Int → Int → Option R)) : Option R := (@F_lex_lexer_row k R x0 x1 x2 (0 : (@Kd.T kI)) [] (fun (y6 : Int) => (fun (y7 : Int) => (fun (y8 : (@List UInt8)) => (fun (y9 : Int) => (fun (y10 : (@List (@Prod Int (@Prod Int (@Prod Int (@Prod (@List UInt8) Bool)))))) => (@F_lex_Row_1_n k R y10 (0 : (@Kd.T kI)) (0 : (@Kd.T kI)) (fun (y11 : (@List (@Prod Int (@Prod Int (@Prod Int (@Prod (@List UInt8) Bool)))))) => (fun (y12 : Int) => (fun (y13 : Int) => (K y11 y12 y13)))))))))) (fun (y6 : Int) => (fun (y7 : Int) => (fun (y8 : (@List UInt8)) => (fun (y9 : Int) => (fun (y10 : (@List (@Prod Int (@Prod Int (@Prod Int (@Prod (@List UInt8) Bool)))))) => (fun (y11 : Int) => (fun (y12 : Int) => (@F_lex_Row_1_p k R [] (0 : (@Kd.T kI)) (0 : (@Kd.T kI)) y11 y12 (fun (y13 : (@List (@Prod Int (@Prod Int (@Prod Int (@Prod (@List UInt8) Bool)))))) => (fun (y14 : Int) => (fun (y15 : Int) => (K y13 y14 y15)))))))))))))
theorem A_lex_Row_eq (k : Nat) {R : Type} (I : Nat → St → Option R) (x0 : Int) (x1 : Int) (x2 : (List UInt8)) (K : ((List (Int × (Int × (Int × ((List UInt8) × Bool))))) → Int → Int → Option R)) : fnDK (cx_lex_Row k) k [300, 400] (at_ [0] code_lex_Row) (opsAt (at_ [1, 0] code_lex_Row)) (at_ [1, 1] code_lex_Row) 16 [.cell 2 22, .cell 3 30] sp_lex_Row (runD_lex_Row k) sig_lex_Row_1 [(300, 0), (400, 0)] [.agg [.v (.int .i64) x0, .v (.int .i64) x1, .v .str x2]] [] (wrap_lex_Row K) = A_lex_Row k  x0 x1 x2 K := by kernel_rfl
noncomputable def F_lex_Row (k : Nat) {R : Type} (x0 : Int) (x1 : Int) (x2 : (List UInt8)) (K : ((List (Int × (Int × (Int × ((List UInt8) × Bool))))) → Int → Int → Option R)) : Option R := A_lex_Row k  x0 x1 x2 K
theorem F_lex_Row_eq (k : Nat) {R : Type} (x0 : Int) (x1 : Int) (x2 : (List UInt8)) (K : ((List (Int × (Int × (Int × ((List UInt8) × Bool))))) → Int → Int → Option R)) : fnDK (cx_lex_Row k) k [300, 400] (at_ [0] code_lex_Row) (opsAt (at_ [1, 0] code_lex_Row)) (at_ [1, 1] code_lex_Row) 16 [.cell 2 22, .cell 3 30] sp_lex_Row (runD_lex_Row k) sig_lex_Row_1 [(300, 0), (400, 0)] [.agg [.v (.int .i64) x0, .v (.int .i64) x1, .v .str x2]] [] (wrap_lex_Row K) = F_lex_Row k x0 x1 x2 K := by
  exact A_lex_Row_eq k (fun _ _ => none) x0 x1 x2 K
noncomputable def run_lex_Row (k : Nat) {R : Type} : List PV → List (Nm × HObj) → (Out → Option R) → Option R
  | [.agg [.v (.int .i64) x0, .v (.int .i64) x1, .v .str x2]], [], K => F_lex_Row k x0 x1 x2 (fun y0 y1 y2 => K (.ret [.v (.sl (.pr (.int .i64) (.pr (.int .i64) (.pr (.int .i64) (.pr .str .bool))))) y0, .agg [.v (.int .i64) y1, .v (.int .i64) y2]] []))
  | _, _, _ => none
theorem C_lex_Row_ok (k : Nat) : (C_lex_Row k).Ok Tryd.prog := by
  intro f ps hp R K r h
  unfold C_lex_Row at h
  simp only at h
  cases hb55 : Nat.beq f 55 with
  | true => rw [hb55, cond_true] at h; rw [Nat.eq_of_beq_eq_true hb55]; exact D_lex_lexer_row k h
  | false =>
  rw [hb55, cond_false] at h
  cases h
theorem runD_lex_Row_ok (k : Nat) {R : Type} (rec : PV) (ps : List PV) (hp : List (Nm × HObj)) (K : Out → Option R) (r : R) (h : runD_lex_Row k rec ps hp K = some r) : DoesToD Tryd.prog 54 rec ps hp fun out => K out = some r := by
  unfold runD_lex_Row at h
  split at h
  · exact DD_lex_Row_1_n k h
  · exact DD_lex_Row_1_p k h
  · cases h
theorem D_lex_Row (k : Nat) {ps : List PV} {hp : List (Nm × HObj)} {R : Type} {K : Out → Option R} {r : R} (h : run_lex_Row k ps hp K = some r) : DoesTo Tryd.prog 37 ps hp fun out => K out = some r := by
  unfold run_lex_Row at h
  split at h
  · rw [← F_lex_Row_eq] at h
    have := fnDK_ok (P := Tryd.prog) (cx := cx_lex_Row k) (f := 37) ⟨tyT_ok, C_lex_Row_ok k, fun _ _ => rfl⟩ (by kernel_rfl) (fn := Tryd.f37) (id := 1) (pre := at_ [0] code_lex_Row) (rest := at_ [1, 1] code_lex_Row) (ops := opsAt (at_ [1, 0] code_lex_Row)) (by kernel_rfl) (by kernel_rfl) (by kernel_rfl) (rs := [.cell 2 22, .cell 3 30]) (by kernel_rfl) (by kernel_rfl) (by kernel_rfl) (g := 54) (s := 5) (xs := [.tmp 2, .tmp 3]) (by kernel_rfl) (Invokes.of (fn := Tryd.f54) (by kernel_rfl) (c := Tryd.f54.body.getD .skip) (by kernel_rfl) (by kernel_rfl)) (runD_lex_Row_ok k) h
    exact this.mono fun out ho => by
      unfold wrap_lex_Row at ho
      split at ho <;> first | exact ho | cases ho
  · cases h
end Go.Proofs.YtpfbdepoammjmaaDoor.Pvm

set_option maxRecDepth 1000000
set_option maxHeartbeats 0
namespace Go.Proofs.YtpfbdepoammjmaaDoor.Pvm
open Go Go.Proofs
abbrev KT_lex_All (R : Type) : Type := ((List (Int × (Int × (Int × ((List UInt8) × Bool))))) → Int → Int → Option R)
def sig_lex_All : List LS := [.sl (.pr (.int .i64) (.pr (.int .i64) .str))]
noncomputable def C_lex_All (k : Nat) : CTab := ⟨fun f => bif Nat.beq f 37 then sig_lex_Row else [], fun f {_} ps hp K => bif Nat.beq f 37 then run_lex_Row k ps hp K else none⟩
def wrap_lex_All {R : Type} (K : KT_lex_All R) : Out → Option R
  | .ret [.v (.sl (.pr (.int .i64) (.pr (.int .i64) (.pr (.int .i64) (.pr .str .bool))))) y0, .agg [.v (.int .i64) y1, .v (.int .i64) y2]] [] => K y0 y1 y2
  | _ => none
def sp_lex_All : RetSpec := ⟨[.sl (.pr (.int .i64) (.pr (.int .i64) (.pr (.int .i64) (.pr .str .bool)))), .ag [.any, .any]], [], []⟩
def cuts_lex_All : List (Nat × CutSpec) := [(1003, ⟨[(3, .obj 13 [.any, .any]), (4, .own 100004 25 (.pr (.int .i64) (.pr (.int .i64) (.pr (.int .i64) (.pr .str .bool))))), (9, .sl (.pr (.int .i64) (.pr (.int .i64) .str))), (10, .any), (11, .any)], []⟩)]
def plans_lex_All : List (Nat × Plan) := [(7, (.of [(1, 1), (0, 1), (2, 0)] .done))]
noncomputable def cx_lex_All (k : Nat) : Ctx := ⟨tyT, cuts_lex_All, C_lex_All k, [], [], plans_lex_All, @SH⟩
noncomputable def code_lex_All : Code := Tryd.f21.body.getD .skip
def st_lex_All_1003 (s0 : Int) (s1 : Int) (s2 : (List (Int × (Int × (Int × ((List UInt8) × Bool)))))) (s3 : (List (Int × (Int × (List UInt8))))) (s4 : Int) (s5 : Int) : St := ⟨mkT [(3, .ptr 13 0), (4, .row 100004), (9, .v (.sl (.pr (.int .i64) (.pr (.int .i64) .str))) s3), (10, .v (.int .i64) s4), (11, .v (.int .i64) s5)], mkH [(13, .var 30 [.v (.int .i64) s0, .v (.int .i64) s1]), (100004, .row 25 (.pr (.int .i64) (.pr (.int .i64) (.pr (.int .i64) (.pr .str .bool)))) s2)]⟩
noncomputable def B_lex_All_1003 (k : Nat) {R : Type} (E1003 : (Int → Int → (List (Int × (Int × (Int × ((List UInt8) × Bool))))) → (List (Int × (Int × (List UInt8)))) → Int → Int → Option R)) (s0 : Int) (s1 : Int) (s2 : (List (Int × (Int × (Int × ((List UInt8) × Bool)))))) (s3 : (List (Int × (Int × (List UInt8))))) (s4 : Int) (s5 : Int) (K : KT_lex_All R) : Option R := (@cond (@Option R) (@Decidable.decide (@LT.lt Int Int.instLTInt s5 s4) (@Int.decLt s5 s4)) (@cond (@Option R) (@inb s5 (@Nat.cast Int instNatCastInt (@List.length (@Kd.T (@Kd.pr kI (@Kd.pr kI Kd.str))) s3))) (@F_lex_Row k R (@List.getD (@Kd.T (@Kd.pr kI (@Kd.pr kI Kd.str))) s3 (@Int.toNat s5) (@Kd.zero (@Kd.pr kI (@Kd.pr kI Kd.str)))).1 (@List.getD (@Kd.T (@Kd.pr kI (@Kd.pr kI Kd.str))) s3 (@Int.toNat s5) (@Kd.zero (@Kd.pr kI (@Kd.pr kI Kd.str)))).2.1 (@List.getD (@Kd.T (@Kd.pr kI (@Kd.pr kI Kd.str))) s3 (@Int.toNat s5) (@Kd.zero (@Kd.pr kI (@Kd.pr kI Kd.str)))).2.2 (fun (y10 : (@List (@Prod Int (@Prod Int (@Prod Int (@Prod (@List UInt8) Bool)))))) => (fun (y11 : Int) => (fun (y12 : Int) => (@cond (@Option R) (@bne Int (@instBEqOfDecidableEq Int @Int.instDecidableEq) y11 (0 : Int)) (K [] y11 y12) (@cond (@Option R) (@fits (@List.length (@Kd.T (@Kd.pr kI (@Kd.pr kI (@Kd.pr kI (@Kd.pr Kd.str Kd.bool))))) s2) (@List.length (@Kd.T (@Kd.pr kI (@Kd.pr kI (@Kd.pr kI (@Kd.pr Kd.str Kd.bool))))) y10) (48 : Nat)) (E1003 s0 s1 (@HAppend.hAppend (@Kd.T (@Kd.sl (@Kd.pr kI (@Kd.pr kI (@Kd.pr kI (@Kd.pr Kd.str Kd.bool)))))) (@List (@Kd.T (@Kd.pr kI (@Kd.pr kI (@Kd.pr kI (@Kd.pr Kd.str Kd.bool)))))) (@Kd.T (@Kd.sl (@Kd.pr kI (@Kd.pr kI (@Kd.pr kI (@Kd.pr Kd.str Kd.bool)))))) (@instHAppendOfAppend (@Kd.T (@Kd.sl (@Kd.pr kI (@Kd.pr kI (@Kd.pr kI (@Kd.pr Kd.str Kd.bool)))))) (@List.instAppend (@Kd.T (@Kd.pr kI (@Kd.pr kI (@Kd.pr kI (@Kd.pr Kd.str Kd.bool))))))) s2 y10) s3 s4 (@Go.IntKind.wrap Go.IntKind.i64 (@HAdd.hAdd Int Int Int (@instHAdd Int @Int.instAdd) s5 (1 : Int)))) (@Option.none R))))))) (@Option.none R)) (K s2 (0 : (@Kd.T kI)) (0 : (@Kd.T kI))))
theorem B_lex_All_1003_eq (k : Nat) {R : Type} (I : Nat → St → Option R) (s0 : Int) (s1 : Int) (s2 : (List (Int × (Int × (Int × ((List UInt8) × Bool)))))) (s3 : (List (Int × (Int × (List UInt8))))) (s4 : Int) (s5 : Int) (K : KT_lex_All R) : execK (cx_lex_All k) k (at_ [1, 1, 0, 1, 0, 0] code_lex_All) (st_lex_All_1003 s0 s1 s2 s3 s4 s5) (konts (cx_lex_All k) k I [1, 1, 0, 1, 0, 0] code_lex_All (outK (cx_lex_All k) sp_lex_All [.tmp 2, .cell 3 30] (wrap_lex_All K))) = B_lex_All_1003 k (fun s0 s1 s2 s3 s4 s5 => I 1003 (st_lex_All_1003 s0 s1 s2 s3 s4 s5)) s0 s1 s2 s3 s4 s5 K := by kernel_rfl
noncomputable def A_lex_All (k : Nat) {R : Type} (E1003 : (Int → Int → (List (Int × (Int × (Int × ((List UInt8) × Bool))))) → (List (Int × (Int × (List UInt8)))) → Int → Int → Option R)) (x0 : (List (Int × (Int × (List UInt8))))) (K : KT_lex_All R) : Option R := (E1003 (0 : (@Kd.T kI)) (0 : (@Kd.T kI)) [] x0 (@Nat.cast Int instNatCastInt (@List.length (@Kd.T (@Kd.pr kI (@Kd.pr kI Kd.str))) x0)) (0 : Int))
theorem A_lex_All_eq (k : Nat) {R : Type} (I : Nat → St → Option R) (x0 : (List (Int × (Int × (List UInt8))))) (K : KT_lex_All R) : fnK (cx_lex_All k) k code_lex_All 30 [.tmp 2, .cell 3 30] sp_lex_All [.v (.sl (.pr (.int .i64) (.pr (.int .i64) .str))) x0] [] (wrap_lex_All K) = A_lex_All k (fun s0 s1 s2 s3 s4 s5 => iter (cx_lex_All k).pv (look (cx_lex_All k).cuts 1003) (execK (cx_lex_All k) k (at_ [1, 1, 0, 1, 0, 0] code_lex_All)) k (st_lex_All_1003 s0 s1 s2 s3 s4 s5) (konts (cx_lex_All k) k I [1, 1, 0, 1, 0] code_lex_All (outK (cx_lex_All k) sp_lex_All [.tmp 2, .cell 3 30] (wrap_lex_All K)))) x0 K := by kernel_rfl
noncomputable def L_lex_All_1003 (k : Nat) {R : Type}  : Nat → Int → Int → (List (Int × (Int × (Int × ((List UInt8) × Bool))))) → (List (Int × (Int × (List UInt8)))) → Int → Int → ((List (Int × (Int × (Int × ((List UInt8) × Bool))))) → Int → Int → Option R) → Option R
  | 0, _, _, _, _, _, _, _ => none
  | n + 1, s0, s1, s2, s3, s4, s5, K => B_lex_All_1003 k (fun s0 s1 s2 s3 s4 s5 => L_lex_All_1003 k  n s0 s1 s2 s3 s4 s5 K) s0 s1 s2 s3 s4 s5 K
theorem L_lex_All_1003_eq (k : Nat) {R : Type} (I : Nat → St → Option R) (K : KT_lex_All R) : ∀ (n : Nat) (s0 : Int) (s1 : Int) (s2 : (List (Int × (Int × (Int × ((List UInt8) × Bool)))))) (s3 : (List (Int × (Int × (List UInt8))))) (s4 : Int) (s5 : Int), iter (cx_lex_All k).pv (look (cx_lex_All k).cuts 1003) (execK (cx_lex_All k) k (at_ [1, 1, 0, 1, 0, 0] code_lex_All)) n (st_lex_All_1003 s0 s1 s2 s3 s4 s5) (konts (cx_lex_All k) k I [1, 1, 0, 1, 0] code_lex_All (outK (cx_lex_All k) sp_lex_All [.tmp 2, .cell 3 30] (wrap_lex_All K))) = L_lex_All_1003 k  n s0 s1 s2 s3 s4 s5 K := by
  intro n
  induction n with
  | zero => intros; rfl
  | succ n ih =>
    intro s0 s1 s2 s3 s4 s5
    let I' : Nat → St → Option R := fun id s => bif Nat.beq id 1003 then iter (cx_lex_All k).pv (look (cx_lex_All k).cuts 1003) (execK (cx_lex_All k) k (at_ [1, 1, 0, 1, 0, 0] code_lex_All)) n s (konts (cx_lex_All k) k I [1, 1, 0, 1, 0] code_lex_All (outK (cx_lex_All k) sp_lex_All [.tmp 2, .cell 3 30] (wrap_lex_All K))) else I id s
    have e := B_lex_All_1003_eq k I' s0 s1 s2 s3 s4 s5 K
    have h1003 : (fun s0 s1 s2 s3 s4 s5 => I' 1003 (st_lex_All_1003 s0 s1 s2 s3 s4 s5)) = (fun s0 s1 s2 s3 s4 s5 => L_lex_All_1003 k  n s0 s1 s2 s3 s4 s5 K) := by funext s0 s1 s2 s3 s4 s5; exact ih s0 s1 s2 s3 s4 s5
    refine Eq.trans (?_ : _ = _) (e.trans (Eq.trans ((congrArg ((fun E1003 => B_lex_All_1003 k E1003 s0 s1 s2 s3 s4 s5 K)) h1003)) (by rw [L_lex_All_1003])))
    rfl
noncomputable def F_lex_All (k : Nat) {R : Type} (x0 : (List (Int × (Int × (List UInt8))))) (K : KT_lex_All R) : Option R := A_lex_All k (fun s0 s1 s2 s3 s4 s5 => L_lex_All_1003 k k s0 s1 s2 s3 s4 s5 K) x0 K
theorem F_lex_All_eq (k : Nat) {R : Type} (x0 : (List (Int × (Int × (List UInt8))))) (K : KT_lex_All R) : fnK (cx_lex_All k) k code_lex_All 30 [.tmp 2, .cell 3 30] sp_lex_All [.v (.sl (.pr (.int .i64) (.pr (.int .i64) .str))) x0] [] (wrap_lex_All K) = F_lex_All k x0 K := by
  let I : Nat → St → Option R := fun _ _ => none
  have h1003 : (fun s0 s1 s2 s3 s4 s5 => iter (cx_lex_All k).pv (look (cx_lex_All k).cuts 1003) (execK (cx_lex_All k) k (at_ [1, 1, 0, 1, 0, 0] code_lex_All)) k (st_lex_All_1003 s0 s1 s2 s3 s4 s5) (konts (cx_lex_All k) k I [1, 1, 0, 1, 0] code_lex_All (outK (cx_lex_All k) sp_lex_All [.tmp 2, .cell 3 30] (wrap_lex_All K)))) = (fun s0 s1 s2 s3 s4 s5 => L_lex_All_1003 k k s0 s1 s2 s3 s4 s5 K) := by funext s0 s1 s2 s3 s4 s5; exact L_lex_All_1003_eq k I K k s0 s1 s2 s3 s4 s5
  exact (A_lex_All_eq k I x0 K).trans (congrArg ((fun E1003 => A_lex_All k E1003 x0 K)) h1003)
noncomputable def run_lex_All (k : Nat) {R : Type} : List PV → List (Nm × HObj) → (Out → Option R) → Option R
  | [.v (.sl (.pr (.int .i64) (.pr (.int .i64) .str))) x0], [], K => F_lex_All k x0 (fun y0 y1 y2 => K (.ret [.v (.sl (.pr (.int .i64) (.pr (.int .i64) (.pr (.int .i64) (.pr .str .bool))))) y0, .agg [.v (.int .i64) y1, .v (.int .i64) y2]] []))
  | _, _, _ => none
theorem C_lex_All_ok (k : Nat) : (C_lex_All k).Ok Tryd.prog := by
  intro f ps hp R K r h
  unfold C_lex_All at h
  simp only at h
  cases hb37 : Nat.beq f 37 with
  | true => rw [hb37, cond_true] at h; rw [Nat.eq_of_beq_eq_true hb37]; exact D_lex_Row k h
  | false =>
  rw [hb37, cond_false] at h
  cases h
theorem D_lex_All (k : Nat) {ps : List PV} {hp : List (Nm × HObj)} {R : Type} {K : Out → Option R} {r : R} (h : run_lex_All k ps hp K = some r) : DoesTo Tryd.prog 21 ps hp fun out => K out = some r := by
  unfold run_lex_All at h
  split at h
  · rw [← F_lex_All_eq] at h
    have := fn_ok (P := Tryd.prog) (cx := cx_lex_All k) (f := 21) ⟨tyT_ok, C_lex_All_ok k, fun _ _ => rfl⟩ (by kernel_rfl) (fn := Tryd.f21) (c := code_lex_All) (by kernel_rfl) (by kernel_rfl) (by kernel_rfl) (rs := [.tmp 2, .cell 3 30]) (by kernel_rfl) (by kernel_rfl) h
    exact this.mono fun out ho => by
      unfold wrap_lex_All at ho
      split at ho <;> first | exact ho | cases ho
  · cases h
end Go.Proofs.YtpfbdepoammjmaaDoor.Pvm

namespace Go.Proofs.YtpfbdepoammjmaaDoor.Pvm
open Go Go.Proofs
theorem bytes_of {h : Heap} {G : Gh} {w : World} {P : Program} {x : List Int} {v : Value} (hv : RV h G w (.v (.sl (.int .u8)) x) v) : (Extern.Bytes.bytesOf v).run P w = .ok ⟨(ofBytes x).toArray⟩ w := by
  obtain ⟨A, cap, e, hcap, hr⟩ := hv
  simp only [List.cons.injEq, and_true] at e
  subst e
  rcases hr with rfl | ⟨ad, rfl, h1, h2, h3⟩
  · cases A with
    | none => rfl
    | some a => rfl
  · have hl := Lib.run_loadBytesX (P := P) w x ad .empty (fun j y hj => by
      obtain ⟨c, hc, hu⟩ := h3 j y hj
      have hc' : c = [.int .u8 y] := hc
      subst hc'
      have := hu 0 _ rfl
      have e1 : j * (Kd.int .u8).sz + 0 = j := by simp [Kd.sz]
      rw [e1] at this
      exact this)
    have e2 : (⟨ByteArray.empty.data ++ (Lib.bytesOf x).toArray⟩ : ByteArray) = ⟨(ofBytes x).toArray⟩ := by
      apply ByteArray.ext
      show (#[] : Array UInt8) ++ (Lib.bytesOf x).toArray = (ofBytes x).toArray
      simp [Lib.bytesOf, ofBytes]
    rw [e2] at hl
    exact hl
theorem fin_same {G : Gh} {w : World} : Fin [] [] G w G w :=
  ⟨fun n o h => (by cases h), fun n m b h => (by simp [blkOf, mkH, look] at h), fun n t cs h => (by cases h), fun _ _ _ => rfl, rfl, fun n b h => (by simp [blkOf, mkH, look] at h), Nat.le_refl _, rfl, rfl, rfl⟩
theorem run_row {P : Program} {f : FuncId} {fn : Func} {g : Array Value → Sem Value} (h1 : P.funcs[f]? = some fn) (h2 : (fn.name == "runtime.NumGoroutine") = false) (h3 : fn.body.isNone = true) (h4 : (Extern.findNext fn).isNone = true)
    (h5 : Extern.find fn = some g) (args : Array Value) (w : World) {v : Value} (h6 : (g args).run P w = .ok v w) : (callFunc f args).run P w = .ok (.value v) w := by
  have h4' : Extern.findNext fn = none := by
    cases hq : Extern.findNext fn with
    | none => rfl
    | some e => rw [hq] at h4; cases h4
  have h2' : ¬ fn.name = "runtime.NumGoroutine" := by simpa using h2
  have e1 : (callFunc f args).run P w = (g args >>= fun v => pure (Next.value v)).run P w := by
    unfold callFunc
    rw [Sem.run_bind]
    have e2 : (program).run P w = .ok P w := rfl
    rw [e2, Result.andThen_ok, h1]
    simp only [h2, h3, if_true, Bool.false_eq_true, if_false]
    rw [Sem.run_bind]
    have e3 : (mark (.extern f)).run P w = .ok () w := rfl
    rw [e3, Result.andThen_ok, h4', h5]
  rw [e1, Sem.run_bind, h6]
  rfl
end Go.Proofs.YtpfbdepoammjmaaDoor.Pvm

set_option maxRecDepth 1000000
namespace Go.Proofs.YtpfbdepoammjmaaDoor.Pvm
open Go Go.Proofs
def cntB (s : List UInt8) (c : UInt8) : Int := Lib.countByte s c
def sig_balg_Count : List LS := [.sl (.int .u8), .any]
def F_balg_Count (k : Nat) {R : Type} (x0 : List Int) (x1 : Int) (K : Int → Option R) : Option R := K (cntB (ofBytes x0) (UInt8.ofNat x1.toNat))
def run_balg_Count (k : Nat) {R : Type} : List PV → List (Nm × HObj) → (Out → Option R) → Option R
  | [.v (.sl (.int .u8)) x0, .v (.int .u8) x1], [], K => F_balg_Count k x0 x1 (fun y0 => K (.ret [.v (.int .i64) y0] []))
  | _, _, _ => none
theorem D_balg_Count (k : Nat) {ps : List PV} {hp : List (Nm × HObj)} {R : Type} {K : Out → Option R} {r : R} (h : run_balg_Count k ps hp K = some r) : DoesTo Tryd.prog 76 ps hp fun out => K out = some r := by
  unfold run_balg_Count at h
  split at h
  · next x0 x1 =>
    intro G w vals hr obj dis
    obtain ⟨v0, l0, rfl, h0, v1, l1, rfl, h1, rfl⟩ := hr
    have e1 : v1 = .int .u8 x1 := by simpa [RV, RD] using h1
    subst e1
    have hb := bytes_of (P := Tryd.prog) h0
    have hrun : (callFunc 76 #[v0, .int .u8 x1]).run Tryd.prog w = .ok (.value (.int .i64 (cntB (ofBytes x0) (UInt8.ofNat x1.toNat)))) w := by
      refine run_row (fn := Tryd.f76) (g := Extern.BytealgCount.count) (by kernel_rfl) (by kernel_rfl) (by kernel_rfl) (by kernel_rfl) (by kernel_rfl) _ w ?_
      have hs := Lib.run_countString (P := Tryd.prog) ⟨(ofBytes x0).toArray⟩ x1 w
      change Sem.run Tryd.prog (do
        let b ← Extern.Bytes.bytesOf v0
        let c' ← Extern.Bytes.asByte (.int .u8 x1)
        pure (goInt (b.foldl (fun n x => if x == c' then n + 1 else n) (0 : Nat)))) w = _
      change Sem.run Tryd.prog (do
        let b ← Extern.Bytes.bytesOf (.string ⟨(ofBytes x0).toArray⟩)
        let c' ← Extern.Bytes.asByte (.int .u8 x1)
        pure (goInt (b.foldl (fun n x => if x == c' then n + 1 else n) (0 : Nat)))) w = _ at hs
      rw [Sem.run_bind] at hs ⊢
      rw [hb]
      exact hs
    show Does _ _ #[_, _] _ _
    unfold Does
    rw [hrun]
    exact ⟨.ret [.v (.int .i64) _] [], h, G, ⟨_, rfl, rfl⟩, fin_same⟩
  · cases h
end Go.Proofs.YtpfbdepoammjmaaDoor.Pvm

set_option maxRecDepth 1000000
set_option maxHeartbeats 0
namespace Go.Proofs.YtpfbdepoammjmaaDoor.Pvm
open Go Go.Proofs
def sig_bytes_Count : List LS := [.sl (.int .u8), .sl (.int .u8)]
noncomputable def C_bytes_Count (k : Nat) : CTab := ⟨fun f => bif Nat.beq f 76 then sig_balg_Count else [], fun f {_} ps hp K => bif Nat.beq f 76 then run_balg_Count k ps hp K else none⟩
def wrap_bytes_Count {R : Type} (K : (Int → Option R)) : Out → Option R
  | .ret [.v (.int .i64) y0] [] => K y0
  | _ => none
def sp_bytes_Count : RetSpec := ⟨[.any], [], []⟩
def cuts_bytes_Count : List (Nat × CutSpec) := []
def plans_bytes_Count : List (Nat × Plan) := []
noncomputable def cx_bytes_Count (k : Nat) : Ctx := ⟨tyT, cuts_bytes_Count, C_bytes_Count k, [], [], plans_bytes_Count, @SH⟩
noncomputable def code_bytes_Count : Code := Tryd.f60.body.getD .skip
noncomputable def A_bytes_Count (k : Nat) {R : Type}  (x0 : (List Int)) (x1 : Int) (K : (Int → Option R)) : Option R := (@F_balg_Count k R x0 (@List.getD (@Kd.T (@Kd.int Go.IntKind.u8)) (x1 :: []) (@Int.toNat (0 : Int)) (@Kd.zero (@Kd.int Go.IntKind.u8))) (fun (y5 : Int) => (K y5)))
theorem A_bytes_Count_eq (k : Nat) {R : Type} (I : Nat → St → Option R) (x0 : (List Int)) (x1 : Int) (K : (Int → Option R)) : fnK (cx_bytes_Count k) k code_bytes_Count 35 [.tmp 4] sp_bytes_Count [.v (.sl (.int .u8)) x0, .v (.sl (.int .u8)) [x1]] [] (wrap_bytes_Count K) = A_bytes_Count k  x0 x1 K := by kernel_rfl
noncomputable def F_bytes_Count (k : Nat) {R : Type} (x0 : (List Int)) (x1 : Int) (K : (Int → Option R)) : Option R := A_bytes_Count k  x0 x1 K
theorem F_bytes_Count_eq (k : Nat) {R : Type} (x0 : (List Int)) (x1 : Int) (K : (Int → Option R)) : fnK (cx_bytes_Count k) k code_bytes_Count 35 [.tmp 4] sp_bytes_Count [.v (.sl (.int .u8)) x0, .v (.sl (.int .u8)) [x1]] [] (wrap_bytes_Count K) = F_bytes_Count k x0 x1 K := by
  exact A_bytes_Count_eq k (fun _ _ => none) x0 x1 K
noncomputable def run_bytes_Count (k : Nat) {R : Type} : List PV → List (Nm × HObj) → (Out → Option R) → Option R
  | [.v (.sl (.int .u8)) x0, .v (.sl (.int .u8)) [x1]], [], K => F_bytes_Count k x0 x1 (fun y0 => K (.ret [.v (.int .i64) y0] []))
  | _, _, _ => none
theorem C_bytes_Count_ok (k : Nat) : (C_bytes_Count k).Ok Tryd.prog := by
  intro f ps hp R K r h
  unfold C_bytes_Count at h
  simp only at h
  cases hb76 : Nat.beq f 76 with
  | true => rw [hb76, cond_true] at h; rw [Nat.eq_of_beq_eq_true hb76]; exact D_balg_Count k h
  | false =>
  rw [hb76, cond_false] at h
  cases h
theorem D_bytes_Count (k : Nat) {ps : List PV} {hp : List (Nm × HObj)} {R : Type} {K : Out → Option R} {r : R} (h : run_bytes_Count k ps hp K = some r) : DoesTo Tryd.prog 60 ps hp fun out => K out = some r := by
  unfold run_bytes_Count at h
  split at h
  · rw [← F_bytes_Count_eq] at h
    have := fn_ok (P := Tryd.prog) (cx := cx_bytes_Count k) (f := 60) ⟨tyT_ok, C_bytes_Count_ok k, fun _ _ => rfl⟩ (by kernel_rfl) (fn := Tryd.f60) (c := code_bytes_Count) (by kernel_rfl) (by kernel_rfl) (by kernel_rfl) (rs := [.tmp 4]) (by kernel_rfl) (by kernel_rfl) h
    exact this.mono fun out ho => by
      unfold wrap_bytes_Count at ho
      split at ho <;> first | exact ho | cases ho
  · cases h
end Go.Proofs.YtpfbdepoammjmaaDoor.Pvm

set_option maxRecDepth 1000000
namespace Go.Proofs.YtpfbdepoammjmaaDoor.Pvm
open Go Go.Proofs
def sig_balg_IndexByte : List LS := [.sl (.int .u8), .any]
def F_balg_IndexByte (k : Nat) {R : Type} (x0 : List Int) (x1 : Int) (K : Int → Option R) : Option R := K (idxByte (ofBytes x0) x1)
def run_balg_IndexByte (k : Nat) {R : Type} : List PV → List (Nm × HObj) → (Out → Option R) → Option R
  | [.v (.sl (.int .u8)) x0, .v (.int .u8) x1], [], K => F_balg_IndexByte k x0 x1 (fun y0 => K (.ret [.v (.int .i64) y0] []))
  | _, _, _ => none
theorem D_balg_IndexByte (k : Nat) {ps : List PV} {hp : List (Nm × HObj)} {R : Type} {K : Out → Option R} {r : R} (h : run_balg_IndexByte k ps hp K = some r) : DoesTo Tryd.prog 92 ps hp fun out => K out = some r := by
  unfold run_balg_IndexByte at h
  split at h
  · next x0 x1 =>
    intro G w vals hr obj dis
    obtain ⟨v0, l0, rfl, h0, v1, l1, rfl, h1, rfl⟩ := hr
    have e1 : v1 = .int .u8 x1 := by simpa [RV, RD] using h1
    subst e1
    have hb := bytes_of (P := Tryd.prog) h0
    have hrun : (callFunc 92 #[v0, .int .u8 x1]).run Tryd.prog w = .ok (.value (.int .i64 (idxByte (ofBytes x0) x1))) w := by
      refine run_row (fn := Tryd.f92) (g := Extern.BytealgIndexByte.indexByte) (by kernel_rfl) (by kernel_rfl) (by kernel_rfl) (by kernel_rfl) (by kernel_rfl) _ w ?_
      have hs := run_idxByte (P := Tryd.prog) (ofBytes x0) x1 w
      change Sem.run Tryd.prog (do
        let b ← Extern.Bytes.bytesOf v0
        let c ← Extern.Bytes.asByte (.int .u8 x1)
        match (List.range b.size).find? fun i => b[i]! == c with
        | some i => pure (goInt i)
        | none => pure (goInt (-1))) w = _
      change Sem.run Tryd.prog (do
        let b ← Extern.Bytes.bytesOf (.string ⟨(ofBytes x0).toArray⟩)
        let c ← Extern.Bytes.asByte (.int .u8 x1)
        match (List.range b.size).find? fun i => b[i]! == c with
        | some i => pure (goInt i)
        | none => pure (goInt (-1))) w = _ at hs
      rw [Sem.run_bind] at hs ⊢
      rw [hb]
      exact hs
    show Does _ _ #[_, _] _ _
    unfold Does
    rw [hrun]
    exact ⟨.ret [.v (.int .i64) _] [], h, G, ⟨_, rfl, rfl⟩, fin_same⟩
  · cases h
end Go.Proofs.YtpfbdepoammjmaaDoor.Pvm

set_option maxRecDepth 1000000
set_option maxHeartbeats 0
namespace Go.Proofs.YtpfbdepoammjmaaDoor.Pvm
open Go Go.Proofs
def sig_bytes_IndexByte : List LS := [.sl (.int .u8), .any]
noncomputable def C_bytes_IndexByte (k : Nat) : CTab := ⟨fun f => bif Nat.beq f 92 then sig_balg_IndexByte else [], fun f {_} ps hp K => bif Nat.beq f 92 then run_balg_IndexByte k ps hp K else none⟩
def wrap_bytes_IndexByte {R : Type} (K : (Int → Option R)) : Out → Option R
  | .ret [.v (.int .i64) y0] [] => K y0
  | _ => none
def sp_bytes_IndexByte : RetSpec := ⟨[.any], [], []⟩
def cuts_bytes_IndexByte : List (Nat × CutSpec) := []
def plans_bytes_IndexByte : List (Nat × Plan) := []
noncomputable def cx_bytes_IndexByte (k : Nat) : Ctx := ⟨tyT, cuts_bytes_IndexByte, C_bytes_IndexByte k, [], [], plans_bytes_IndexByte, @SH⟩
noncomputable def code_bytes_IndexByte : Code := Tryd.f77.body.getD .skip
noncomputable def A_bytes_IndexByte (k : Nat) {R : Type}  (x0 : (List Int)) (x1 : Int) (K : (Int → Option R)) : Option R := (@F_balg_IndexByte k R x0 x1 (fun (y5 : Int) => (K y5)))
theorem A_bytes_IndexByte_eq (k : Nat) {R : Type} (I : Nat → St → Option R) (x0 : (List Int)) (x1 : Int) (K : (Int → Option R)) : fnK (cx_bytes_IndexByte k) k code_bytes_IndexByte 8 [.tmp 4] sp_bytes_IndexByte [.v (.sl (.int .u8)) x0, .v (.int .u8) x1] [] (wrap_bytes_IndexByte K) = A_bytes_IndexByte k  x0 x1 K := by kernel_rfl
noncomputable def F_bytes_IndexByte (k : Nat) {R : Type} (x0 : (List Int)) (x1 : Int) (K : (Int → Option R)) : Option R := A_bytes_IndexByte k  x0 x1 K
theorem F_bytes_IndexByte_eq (k : Nat) {R : Type} (x0 : (List Int)) (x1 : Int) (K : (Int → Option R)) : fnK (cx_bytes_IndexByte k) k code_bytes_IndexByte 8 [.tmp 4] sp_bytes_IndexByte [.v (.sl (.int .u8)) x0, .v (.int .u8) x1] [] (wrap_bytes_IndexByte K) = F_bytes_IndexByte k x0 x1 K := by
  exact A_bytes_IndexByte_eq k (fun _ _ => none) x0 x1 K
noncomputable def run_bytes_IndexByte (k : Nat) {R : Type} : List PV → List (Nm × HObj) → (Out → Option R) → Option R
  | [.v (.sl (.int .u8)) x0, .v (.int .u8) x1], [], K => F_bytes_IndexByte k x0 x1 (fun y0 => K (.ret [.v (.int .i64) y0] []))
  | _, _, _ => none
theorem C_bytes_IndexByte_ok (k : Nat) : (C_bytes_IndexByte k).Ok Tryd.prog := by
  intro f ps hp R K r h
  unfold C_bytes_IndexByte at h
  simp only at h
  cases hb92 : Nat.beq f 92 with
  | true => rw [hb92, cond_true] at h; rw [Nat.eq_of_beq_eq_true hb92]; exact D_balg_IndexByte k h
  | false =>
  rw [hb92, cond_false] at h
  cases h
theorem D_bytes_IndexByte (k : Nat) {ps : List PV} {hp : List (Nm × HObj)} {R : Type} {K : Out → Option R} {r : R} (h : run_bytes_IndexByte k ps hp K = some r) : DoesTo Tryd.prog 77 ps hp fun out => K out = some r := by
  unfold run_bytes_IndexByte at h
  split at h
  · rw [← F_bytes_IndexByte_eq] at h
    have := fn_ok (P := Tryd.prog) (cx := cx_bytes_IndexByte k) (f := 77) ⟨tyT_ok, C_bytes_IndexByte_ok k, fun _ _ => rfl⟩ (by kernel_rfl) (fn := Tryd.f77) (c := code_bytes_IndexByte) (by kernel_rfl) (by kernel_rfl) (by kernel_rfl) (rs := [.tmp 4]) (by kernel_rfl) (by kernel_rfl) h
    exact this.mono fun out ho => by
      unfold wrap_bytes_IndexByte at ho
      split at ho <;> first | exact ho | cases ho
  · cases h
end Go.Proofs.YtpfbdepoammjmaaDoor.Pvm

set_option maxRecDepth 1000000
set_option maxHeartbeats 0
namespace Go.Proofs.YtpfbdepoammjmaaDoor.Pvm
open Go Go.Proofs
def sig_bytes_Index : List LS := [.sl (.int .u8), .sl (.int .u8)]
noncomputable def C_bytes_Index (k : Nat) : CTab := ⟨fun f => bif Nat.beq f 77 then sig_bytes_IndexByte else [], fun f {_} ps hp K => bif Nat.beq f 77 then run_bytes_IndexByte k ps hp K else none⟩
def wrap_bytes_Index {R : Type} (K : (Int → Option R)) : Out → Option R
  | .ret [.v (.int .i64) y0] [] => K y0
  | _ => none
def sp_bytes_Index : RetSpec := ⟨[.any], [], []⟩
def cuts_bytes_Index : List (Nat × CutSpec) := []
def plans_bytes_Index : List (Nat × Plan) := []
noncomputable def cx_bytes_Index (k : Nat) : Ctx := ⟨tyT, cuts_bytes_Index, C_bytes_Index k, [], [], plans_bytes_Index, @SH⟩
noncomputable def code_bytes_Index : Code := Tryd.f61.body.getD .skip
noncomputable def A_bytes_Index (k : Nat) {R : Type}  (x0 : (List Int)) (x1 : Int) (K : (Int → Option R)) : Option R := (@F_bytes_IndexByte k R x0 (@List.getD (@Kd.T (@Kd.int Go.IntKind.u8)) (x1 :: []) (@Int.toNat (0 : Int)) (@Kd.zero (@Kd.int Go.IntKind.u8))) (fun (y5 : Int) => (K y5)))
theorem A_bytes_Index_eq (k : Nat) {R : Type} (I : Nat → St → Option R) (x0 : (List Int)) (x1 : Int) (K : (Int → Option R)) : fnK (cx_bytes_Index k) k code_bytes_Index 200 [.tmp 4] sp_bytes_Index [.v (.sl (.int .u8)) x0, .v (.sl (.int .u8)) [x1]] [] (wrap_bytes_Index K) = A_bytes_Index k  x0 x1 K := by kernel_rfl
noncomputable def F_bytes_Index (k : Nat) {R : Type} (x0 : (List Int)) (x1 : Int) (K : (Int → Option R)) : Option R := A_bytes_Index k  x0 x1 K
theorem F_bytes_Index_eq (k : Nat) {R : Type} (x0 : (List Int)) (x1 : Int) (K : (Int → Option R)) : fnK (cx_bytes_Index k) k code_bytes_Index 200 [.tmp 4] sp_bytes_Index [.v (.sl (.int .u8)) x0, .v (.sl (.int .u8)) [x1]] [] (wrap_bytes_Index K) = F_bytes_Index k x0 x1 K := by
  exact A_bytes_Index_eq k (fun _ _ => none) x0 x1 K
noncomputable def run_bytes_Index (k : Nat) {R : Type} : List PV → List (Nm × HObj) → (Out → Option R) → Option R
  | [.v (.sl (.int .u8)) x0, .v (.sl (.int .u8)) [x1]], [], K => F_bytes_Index k x0 x1 (fun y0 => K (.ret [.v (.int .i64) y0] []))
  | _, _, _ => none
theorem C_bytes_Index_ok (k : Nat) : (C_bytes_Index k).Ok Tryd.prog := by
  intro f ps hp R K r h
  unfold C_bytes_Index at h
  simp only at h
  cases hb77 : Nat.beq f 77 with
  | true => rw [hb77, cond_true] at h; rw [Nat.eq_of_beq_eq_true hb77]; exact D_bytes_IndexByte k h
  | false =>
  rw [hb77, cond_false] at h
  cases h
theorem D_bytes_Index (k : Nat) {ps : List PV} {hp : List (Nm × HObj)} {R : Type} {K : Out → Option R} {r : R} (h : run_bytes_Index k ps hp K = some r) : DoesTo Tryd.prog 61 ps hp fun out => K out = some r := by
  unfold run_bytes_Index at h
  split at h
  · rw [← F_bytes_Index_eq] at h
    have := fn_ok (P := Tryd.prog) (cx := cx_bytes_Index k) (f := 61) ⟨tyT_ok, C_bytes_Index_ok k, fun _ _ => rfl⟩ (by kernel_rfl) (fn := Tryd.f61) (c := code_bytes_Index) (by kernel_rfl) (by kernel_rfl) (by kernel_rfl) (rs := [.tmp 4]) (by kernel_rfl) (by kernel_rfl) h
    exact this.mono fun out ho => by
      unfold wrap_bytes_Index at ho
      split at ho <;> first | exact ho | cases ho
  · cases h
end Go.Proofs.YtpfbdepoammjmaaDoor.Pvm

set_option maxRecDepth 1000000
set_option maxHeartbeats 0
namespace Go.Proofs.YtpfbdepoammjmaaDoor.Pvm
open Go Go.Proofs
def sig_bytes_genSplit : List LS := [.sl (.int .u8), .sl (.int .u8), .any, .any]
noncomputable def C_bytes_genSplit (k : Nat) : CTab := ⟨fun f => bif Nat.beq f 60 then sig_bytes_Count else bif Nat.beq f 61 then sig_bytes_Index else [], fun f {_} ps hp K => bif Nat.beq f 60 then run_bytes_Count k ps hp K else bif Nat.beq f 61 then run_bytes_Index k ps hp K else none⟩
def wrap_bytes_genSplit {R : Type} (K : ((List (List Int)) → Option R)) : Out → Option R
  | .ret [.v (.sl (.sl (.int .u8))) y0] [] => K y0
  | _ => none
def sp_bytes_genSplit : RetSpec := ⟨[.sl (.sl (.int .u8))], [], []⟩
def cuts_bytes_genSplit : List (Nat × CutSpec) := [(1011, ⟨[(0, .sl (.int .u8)), (1, .sl (.int .u8)), (2, .any), (3, .any), (9, .own 100009 38 (.sl (.int .u8))), (10, .any)], []⟩)]
def plans_bytes_genSplit : List (Nat × Plan) := []
noncomputable def cx_bytes_genSplit (k : Nat) : Ctx := ⟨tyT, cuts_bytes_genSplit, C_bytes_genSplit k, [], [], plans_bytes_genSplit, @SH⟩
noncomputable def code_bytes_genSplit : Code := Tryd.f46.body.getD .skip
def st_bytes_genSplit_1011 (s0 : (List Int)) (s1 : Int) (s2 : Int) (s3 : Int) (s4 : (List (List Int))) (s5 : Int) : St := ⟨mkT [(0, .v (.sl (.int .u8)) s0), (1, .v (.sl (.int .u8)) [s1]), (2, .v (.int .i64) s2), (3, .v (.int .i64) s3), (9, .row 100009), (10, .v (.int .i64) s5)], mkH [(100009, .row 38 (.sl (.int .u8)) s4)]⟩
noncomputable def B_bytes_genSplit_1011 (k : Nat) {R : Type} (E1011 : ((List Int) → Int → Int → Int → (List (List Int)) → Int → Option R)) (s0 : (List Int)) (s1 : Int) (s2 : Int) (s3 : Int) (s4 : (List (List Int))) (s5 : Int) (K : ((List (List Int)) → Option R)) : Option R := (@cond (@Option R) (@Decidable.decide (@LT.lt Int Int.instLTInt s5 s3) (@Int.decLt s5 s3)) (@F_bytes_Index k R s0 s1 (fun (y10 : Int) => (@cond (@Option R) (@Decidable.decide (@LT.lt Int Int.instLTInt y10 (0 : Int)) (@Int.decLt y10 (0 : Int))) (@cond (@Option R) (@inb s5 (@Nat.cast Int instNatCastInt (@List.length (@Kd.T (@Kd.sl (@Kd.int Go.IntKind.u8))) s4))) (@cond (@Option R) (@bnd (0 : Int) (@Go.IntKind.wrap Go.IntKind.i64 (@HAdd.hAdd Int Int Int (@instHAdd Int @Int.instAdd) s5 (1 : Int))) (@Nat.cast Int instNatCastInt (@List.length (@Kd.T (@Kd.sl (@Kd.int Go.IntKind.u8))) (@List.set (@Kd.T (@Kd.sl (@Kd.int Go.IntKind.u8))) s4 (@Int.toNat s5) s0)))) (K (@cut (@Kd.T (@Kd.sl (@Kd.int Go.IntKind.u8))) (@List.set (@Kd.T (@Kd.sl (@Kd.int Go.IntKind.u8))) s4 (@Int.toNat s5) s0) (0 : Int) (@Go.IntKind.wrap Go.IntKind.i64 (@HAdd.hAdd Int Int Int (@instHAdd Int @Int.instAdd) s5 (1 : Int))))) (@Option.none R)) (@Option.none R)) (@cond (@Option R) (@Bool.and (@bnd (0 : Int) (@Go.IntKind.wrap Go.IntKind.i64 (@HAdd.hAdd Int Int Int (@instHAdd Int @Int.instAdd) y10 s2)) (@Go.IntKind.wrap Go.IntKind.i64 (@HAdd.hAdd Int Int Int (@instHAdd Int @Int.instAdd) y10 s2))) (@Decidable.decide (@LE.le Int Int.instLEInt (@Go.IntKind.wrap Go.IntKind.i64 (@HAdd.hAdd Int Int Int (@instHAdd Int @Int.instAdd) y10 s2)) (@Nat.cast Int instNatCastInt (@List.length (@Kd.T (@Kd.int Go.IntKind.u8)) s0))) (@Int.decLe (@Go.IntKind.wrap Go.IntKind.i64 (@HAdd.hAdd Int Int Int (@instHAdd Int @Int.instAdd) y10 s2)) (@Nat.cast Int instNatCastInt (@List.length (@Kd.T (@Kd.int Go.IntKind.u8)) s0))))) (@cond (@Option R) (@inb s5 (@Nat.cast Int instNatCastInt (@List.length (@Kd.T (@Kd.sl (@Kd.int Go.IntKind.u8))) s4))) (@cond (@Option R) (@bnd (@Go.IntKind.wrap Go.IntKind.i64 (@HAdd.hAdd Int Int Int (@instHAdd Int @Int.instAdd) y10 (@Nat.cast Int instNatCastInt (@List.length (@Kd.T (@Kd.int Go.IntKind.u8)) (s1 :: []))))) (@Nat.cast Int instNatCastInt (@List.length (@Kd.T (@Kd.int Go.IntKind.u8)) s0)) (@Nat.cast Int instNatCastInt (@List.length (@Kd.T (@Kd.int Go.IntKind.u8)) s0))) (E1011 (@cut (@Kd.T (@Kd.int Go.IntKind.u8)) s0 (@Go.IntKind.wrap Go.IntKind.i64 (@HAdd.hAdd Int Int Int (@instHAdd Int @Int.instAdd) y10 (@Nat.cast Int instNatCastInt (@List.length (@Kd.T (@Kd.int Go.IntKind.u8)) (s1 :: []))))) (@Nat.cast Int instNatCastInt (@List.length (@Kd.T (@Kd.int Go.IntKind.u8)) s0))) s1 s2 s3 (@List.set (@Kd.T (@Kd.sl (@Kd.int Go.IntKind.u8))) s4 (@Int.toNat s5) (@cut (@Kd.T (@Kd.int Go.IntKind.u8)) s0 (0 : Int) (@Go.IntKind.wrap Go.IntKind.i64 (@HAdd.hAdd Int Int Int (@instHAdd Int @Int.instAdd) y10 s2)))) (@Go.IntKind.wrap Go.IntKind.i64 (@HAdd.hAdd Int Int Int (@instHAdd Int @Int.instAdd) s5 (1 : Int)))) (@Option.none R)) (@Option.none R)) (@Option.none R))))) (@cond (@Option R) (@inb s5 (@Nat.cast Int instNatCastInt (@List.length (@Kd.T (@Kd.sl (@Kd.int Go.IntKind.u8))) s4))) (@cond (@Option R) (@bnd (0 : Int) (@Go.IntKind.wrap Go.IntKind.i64 (@HAdd.hAdd Int Int Int (@instHAdd Int @Int.instAdd) s5 (1 : Int))) (@Nat.cast Int instNatCastInt (@List.length (@Kd.T (@Kd.sl (@Kd.int Go.IntKind.u8))) (@List.set (@Kd.T (@Kd.sl (@Kd.int Go.IntKind.u8))) s4 (@Int.toNat s5) s0)))) (K (@cut (@Kd.T (@Kd.sl (@Kd.int Go.IntKind.u8))) (@List.set (@Kd.T (@Kd.sl (@Kd.int Go.IntKind.u8))) s4 (@Int.toNat s5) s0) (0 : Int) (@Go.IntKind.wrap Go.IntKind.i64 (@HAdd.hAdd Int Int Int (@instHAdd Int @Int.instAdd) s5 (1 : Int))))) (@Option.none R)) (@Option.none R)))
theorem B_bytes_genSplit_1011_eq (k : Nat) {R : Type} (I : Nat → St → Option R) (s0 : (List Int)) (s1 : Int) (s2 : Int) (s3 : Int) (s4 : (List (List Int))) (s5 : Int) (K : ((List (List Int)) → Option R)) : execK (cx_bytes_genSplit k) k (at_ [1, 1, 1, 1, 1, 1, 1, 1, 0, 0, 0] code_bytes_genSplit) (st_bytes_genSplit_1011 s0 s1 s2 s3 s4 s5) (konts (cx_bytes_genSplit k) k I [1, 1, 1, 1, 1, 1, 1, 1, 0, 0, 0] code_bytes_genSplit (outK (cx_bytes_genSplit k) sp_bytes_genSplit [.tmp 8] (wrap_bytes_genSplit K))) = B_bytes_genSplit_1011 k (fun s0 s1 s2 s3 s4 s5 => I 1011 (st_bytes_genSplit_1011 s0 s1 s2 s3 s4 s5)) s0 s1 s2 s3 s4 s5 K := by kernel_rfl
noncomputable def A_bytes_genSplit (k : Nat) {R : Type} (E1011 : ((List Int) → Int → Int → Int → (List (List Int)) → Int → Option R)) (x0 : (List Int)) (x1 : Int) (x2 : Int) (x3 : Int) (K : ((List (List Int)) → Option R)) : Option R := (@cond (@Option R) (@BEq.beq Int (@instBEqOfDecidableEq Int @Int.instDecidableEq) x3 (0 : Int)) (K []) (@cond (@Option R) (@Decidable.decide (@LT.lt Int Int.instLTInt x3 (0 : Int)) (@Int.decLt x3 (0 : Int))) (@F_bytes_Count k R x0 x1 (fun (y8 : Int) => (@cond (@Option R) (@mkB (@cond (@Kd.T kI) Bool.false (@ite (@Kd.T kI) (@GT.gt (@Kd.T kI) Int.instLTInt (@Go.IntKind.wrap Go.IntKind.i64 (@HAdd.hAdd Int Int Int (@instHAdd Int @Int.instAdd) (@Nat.cast Int instNatCastInt (@List.length (@Kd.T (@Kd.int Go.IntKind.u8)) x0)) (1 : Int))) (@Go.IntKind.wrap Go.IntKind.i64 (@HAdd.hAdd Int Int Int (@instHAdd Int @Int.instAdd) y8 (1 : Int)))) (@Int.decLt (@Go.IntKind.wrap Go.IntKind.i64 (@HAdd.hAdd Int Int Int (@instHAdd Int @Int.instAdd) y8 (1 : Int))) (@Go.IntKind.wrap Go.IntKind.i64 (@HAdd.hAdd Int Int Int (@instHAdd Int @Int.instAdd) (@Nat.cast Int instNatCastInt (@List.length (@Kd.T (@Kd.int Go.IntKind.u8)) x0)) (1 : Int)))) (@Go.IntKind.wrap Go.IntKind.i64 (@HAdd.hAdd Int Int Int (@instHAdd Int @Int.instAdd) (@Nat.cast Int instNatCastInt (@List.length (@Kd.T (@Kd.int Go.IntKind.u8)) x0)) (1 : Int))) (@Go.IntKind.wrap Go.IntKind.i64 (@HAdd.hAdd Int Int Int (@instHAdd Int @Int.instAdd) y8 (1 : Int)))) (@ite (@Kd.T kI) (@LT.lt (@Kd.T kI) Int.instLTInt (@Go.IntKind.wrap Go.IntKind.i64 (@HAdd.hAdd Int Int Int (@instHAdd Int @Int.instAdd) (@Nat.cast Int instNatCastInt (@List.length (@Kd.T (@Kd.int Go.IntKind.u8)) x0)) (1 : Int))) (@Go.IntKind.wrap Go.IntKind.i64 (@HAdd.hAdd Int Int Int (@instHAdd Int @Int.instAdd) y8 (1 : Int)))) (@Int.decLt (@Go.IntKind.wrap Go.IntKind.i64 (@HAdd.hAdd Int Int Int (@instHAdd Int @Int.instAdd) (@Nat.cast Int instNatCastInt (@List.length (@Kd.T (@Kd.int Go.IntKind.u8)) x0)) (1 : Int))) (@Go.IntKind.wrap Go.IntKind.i64 (@HAdd.hAdd Int Int Int (@instHAdd Int @Int.instAdd) y8 (1 : Int)))) (@Go.IntKind.wrap Go.IntKind.i64 (@HAdd.hAdd Int Int Int (@instHAdd Int @Int.instAdd) (@Nat.cast Int instNatCastInt (@List.length (@Kd.T (@Kd.int Go.IntKind.u8)) x0)) (1 : Int))) (@Go.IntKind.wrap Go.IntKind.i64 (@HAdd.hAdd Int Int Int (@instHAdd Int @Int.instAdd) y8 (1 : Int))))) (@cond (@Kd.T kI) Bool.false (@ite (@Kd.T kI) (@GT.gt (@Kd.T kI) Int.instLTInt (@Go.IntKind.wrap Go.IntKind.i64 (@HAdd.hAdd Int Int Int (@instHAdd Int @Int.instAdd) (@Nat.cast Int instNatCastInt (@List.length (@Kd.T (@Kd.int Go.IntKind.u8)) x0)) (1 : Int))) (@Go.IntKind.wrap Go.IntKind.i64 (@HAdd.hAdd Int Int Int (@instHAdd Int @Int.instAdd) y8 (1 : Int)))) (@Int.decLt (@Go.IntKind.wrap Go.IntKind.i64 (@HAdd.hAdd Int Int Int (@instHAdd Int @Int.instAdd) y8 (1 : Int))) (@Go.IntKind.wrap Go.IntKind.i64 (@HAdd.hAdd Int Int Int (@instHAdd Int @Int.instAdd) (@Nat.cast Int instNatCastInt (@List.length (@Kd.T (@Kd.int Go.IntKind.u8)) x0)) (1 : Int)))) (@Go.IntKind.wrap Go.IntKind.i64 (@HAdd.hAdd Int Int Int (@instHAdd Int @Int.instAdd) (@Nat.cast Int instNatCastInt (@List.length (@Kd.T (@Kd.int Go.IntKind.u8)) x0)) (1 : Int))) (@Go.IntKind.wrap Go.IntKind.i64 (@HAdd.hAdd Int Int Int (@instHAdd Int @Int.instAdd) y8 (1 : Int)))) (@ite (@Kd.T kI) (@LT.lt (@Kd.T kI) Int.instLTInt (@Go.IntKind.wrap Go.IntKind.i64 (@HAdd.hAdd Int Int Int (@instHAdd Int @Int.instAdd) (@Nat.cast Int instNatCastInt (@List.length (@Kd.T (@Kd.int Go.IntKind.u8)) x0)) (1 : Int))) (@Go.IntKind.wrap Go.IntKind.i64 (@HAdd.hAdd Int Int Int (@instHAdd Int @Int.instAdd) y8 (1 : Int)))) (@Int.decLt (@Go.IntKind.wrap Go.IntKind.i64 (@HAdd.hAdd Int Int Int (@instHAdd Int @Int.instAdd) (@Nat.cast Int instNatCastInt (@List.length (@Kd.T (@Kd.int Go.IntKind.u8)) x0)) (1 : Int))) (@Go.IntKind.wrap Go.IntKind.i64 (@HAdd.hAdd Int Int Int (@instHAdd Int @Int.instAdd) y8 (1 : Int)))) (@Go.IntKind.wrap Go.IntKind.i64 (@HAdd.hAdd Int Int Int (@instHAdd Int @Int.instAdd) (@Nat.cast Int instNatCastInt (@List.length (@Kd.T (@Kd.int Go.IntKind.u8)) x0)) (1 : Int))) (@Go.IntKind.wrap Go.IntKind.i64 (@HAdd.hAdd Int Int Int (@instHAdd Int @Int.instAdd) y8 (1 : Int))))) (24 : Nat)) (E1011 x0 x1 x2 (@Go.IntKind.wrap Go.IntKind.i64 (@HSub.hSub Int Int Int (@instHSub Int @Int.instSub) (@cond (@Kd.T kI) Bool.false (@ite (@Kd.T kI) (@GT.gt (@Kd.T kI) Int.instLTInt (@Go.IntKind.wrap Go.IntKind.i64 (@HAdd.hAdd Int Int Int (@instHAdd Int @Int.instAdd) (@Nat.cast Int instNatCastInt (@List.length (@Kd.T (@Kd.int Go.IntKind.u8)) x0)) (1 : Int))) (@Go.IntKind.wrap Go.IntKind.i64 (@HAdd.hAdd Int Int Int (@instHAdd Int @Int.instAdd) y8 (1 : Int)))) (@Int.decLt (@Go.IntKind.wrap Go.IntKind.i64 (@HAdd.hAdd Int Int Int (@instHAdd Int @Int.instAdd) y8 (1 : Int))) (@Go.IntKind.wrap Go.IntKind.i64 (@HAdd.hAdd Int Int Int (@instHAdd Int @Int.instAdd) (@Nat.cast Int instNatCastInt (@List.length (@Kd.T (@Kd.int Go.IntKind.u8)) x0)) (1 : Int)))) (@Go.IntKind.wrap Go.IntKind.i64 (@HAdd.hAdd Int Int Int (@instHAdd Int @Int.instAdd) (@Nat.cast Int instNatCastInt (@List.length (@Kd.T (@Kd.int Go.IntKind.u8)) x0)) (1 : Int))) (@Go.IntKind.wrap Go.IntKind.i64 (@HAdd.hAdd Int Int Int (@instHAdd Int @Int.instAdd) y8 (1 : Int)))) (@ite (@Kd.T kI) (@LT.lt (@Kd.T kI) Int.instLTInt (@Go.IntKind.wrap Go.IntKind.i64 (@HAdd.hAdd Int Int Int (@instHAdd Int @Int.instAdd) (@Nat.cast Int instNatCastInt (@List.length (@Kd.T (@Kd.int Go.IntKind.u8)) x0)) (1 : Int))) (@Go.IntKind.wrap Go.IntKind.i64 (@HAdd.hAdd Int Int Int (@instHAdd Int @Int.instAdd) y8 (1 : Int)))) (@Int.decLt (@Go.IntKind.wrap Go.IntKind.i64 (@HAdd.hAdd Int Int Int (@instHAdd Int @Int.instAdd) (@Nat.cast Int instNatCastInt (@List.length (@Kd.T (@Kd.int Go.IntKind.u8)) x0)) (1 : Int))) (@Go.IntKind.wrap Go.IntKind.i64 (@HAdd.hAdd Int Int Int (@instHAdd Int @Int.instAdd) y8 (1 : Int)))) (@Go.IntKind.wrap Go.IntKind.i64 (@HAdd.hAdd Int Int Int (@instHAdd Int @Int.instAdd) (@Nat.cast Int instNatCastInt (@List.length (@Kd.T (@Kd.int Go.IntKind.u8)) x0)) (1 : Int))) (@Go.IntKind.wrap Go.IntKind.i64 (@HAdd.hAdd Int Int Int (@instHAdd Int @Int.instAdd) y8 (1 : Int))))) (1 : Int))) (@zeros (@Kd.sl (@Kd.int Go.IntKind.u8)) (@cond (@Kd.T kI) Bool.false (@ite (@Kd.T kI) (@GT.gt (@Kd.T kI) Int.instLTInt (@Go.IntKind.wrap Go.IntKind.i64 (@HAdd.hAdd Int Int Int (@instHAdd Int @Int.instAdd) (@Nat.cast Int instNatCastInt (@List.length (@Kd.T (@Kd.int Go.IntKind.u8)) x0)) (1 : Int))) (@Go.IntKind.wrap Go.IntKind.i64 (@HAdd.hAdd Int Int Int (@instHAdd Int @Int.instAdd) y8 (1 : Int)))) (@Int.decLt (@Go.IntKind.wrap Go.IntKind.i64 (@HAdd.hAdd Int Int Int (@instHAdd Int @Int.instAdd) y8 (1 : Int))) (@Go.IntKind.wrap Go.IntKind.i64 (@HAdd.hAdd Int Int Int (@instHAdd Int @Int.instAdd) (@Nat.cast Int instNatCastInt (@List.length (@Kd.T (@Kd.int Go.IntKind.u8)) x0)) (1 : Int)))) (@Go.IntKind.wrap Go.IntKind.i64 (@HAdd.hAdd Int Int Int (@instHAdd Int @Int.instAdd) (@Nat.cast Int instNatCastInt (@List.length (@Kd.T (@Kd.int Go.IntKind.u8)) x0)) (1 : Int))) (@Go.IntKind.wrap Go.IntKind.i64 (@HAdd.hAdd Int Int Int (@instHAdd Int @Int.instAdd) y8 (1 : Int)))) (@ite (@Kd.T kI) (@LT.lt (@Kd.T kI) Int.instLTInt (@Go.IntKind.wrap Go.IntKind.i64 (@HAdd.hAdd Int Int Int (@instHAdd Int @Int.instAdd) (@Nat.cast Int instNatCastInt (@List.length (@Kd.T (@Kd.int Go.IntKind.u8)) x0)) (1 : Int))) (@Go.IntKind.wrap Go.IntKind.i64 (@HAdd.hAdd Int Int Int (@instHAdd Int @Int.instAdd) y8 (1 : Int)))) (@Int.decLt (@Go.IntKind.wrap Go.IntKind.i64 (@HAdd.hAdd Int Int Int (@instHAdd Int @Int.instAdd) (@Nat.cast Int instNatCastInt (@List.length (@Kd.T (@Kd.int Go.IntKind.u8)) x0)) (1 : Int))) (@Go.IntKind.wrap Go.IntKind.i64 (@HAdd.hAdd Int Int Int (@instHAdd Int @Int.instAdd) y8 (1 : Int)))) (@Go.IntKind.wrap Go.IntKind.i64 (@HAdd.hAdd Int Int Int (@instHAdd Int @Int.instAdd) (@Nat.cast Int instNatCastInt (@List.length (@Kd.T (@Kd.int Go.IntKind.u8)) x0)) (1 : Int))) (@Go.IntKind.wrap Go.IntKind.i64 (@HAdd.hAdd Int Int Int (@instHAdd Int @Int.instAdd) y8 (1 : Int)))))) (0 : Int)) (@Option.none R)))) (@cond (@Option R) (@mkB (@cond (@Kd.T kI) Bool.false (@ite (@Kd.T kI) (@GT.gt (@Kd.T kI) Int.instLTInt (@Go.IntKind.wrap Go.IntKind.i64 (@HAdd.hAdd Int Int Int (@instHAdd Int @Int.instAdd) (@Nat.cast Int instNatCastInt (@List.length (@Kd.T (@Kd.int Go.IntKind.u8)) x0)) (1 : Int))) x3) (@Int.decLt x3 (@Go.IntKind.wrap Go.IntKind.i64 (@HAdd.hAdd Int Int Int (@instHAdd Int @Int.instAdd) (@Nat.cast Int instNatCastInt (@List.length (@Kd.T (@Kd.int Go.IntKind.u8)) x0)) (1 : Int)))) (@Go.IntKind.wrap Go.IntKind.i64 (@HAdd.hAdd Int Int Int (@instHAdd Int @Int.instAdd) (@Nat.cast Int instNatCastInt (@List.length (@Kd.T (@Kd.int Go.IntKind.u8)) x0)) (1 : Int))) x3) (@ite (@Kd.T kI) (@LT.lt (@Kd.T kI) Int.instLTInt (@Go.IntKind.wrap Go.IntKind.i64 (@HAdd.hAdd Int Int Int (@instHAdd Int @Int.instAdd) (@Nat.cast Int instNatCastInt (@List.length (@Kd.T (@Kd.int Go.IntKind.u8)) x0)) (1 : Int))) x3) (@Int.decLt (@Go.IntKind.wrap Go.IntKind.i64 (@HAdd.hAdd Int Int Int (@instHAdd Int @Int.instAdd) (@Nat.cast Int instNatCastInt (@List.length (@Kd.T (@Kd.int Go.IntKind.u8)) x0)) (1 : Int))) x3) (@Go.IntKind.wrap Go.IntKind.i64 (@HAdd.hAdd Int Int Int (@instHAdd Int @Int.instAdd) (@Nat.cast Int instNatCastInt (@List.length (@Kd.T (@Kd.int Go.IntKind.u8)) x0)) (1 : Int))) x3)) (@cond (@Kd.T kI) Bool.false (@ite (@Kd.T kI) (@GT.gt (@Kd.T kI) Int.instLTInt (@Go.IntKind.wrap Go.IntKind.i64 (@HAdd.hAdd Int Int Int (@instHAdd Int @Int.instAdd) (@Nat.cast Int instNatCastInt (@List.length (@Kd.T (@Kd.int Go.IntKind.u8)) x0)) (1 : Int))) x3) (@Int.decLt x3 (@Go.IntKind.wrap Go.IntKind.i64 (@HAdd.hAdd Int Int Int (@instHAdd Int @Int.instAdd) (@Nat.cast Int instNatCastInt (@List.length (@Kd.T (@Kd.int Go.IntKind.u8)) x0)) (1 : Int)))) (@Go.IntKind.wrap Go.IntKind.i64 (@HAdd.hAdd Int Int Int (@instHAdd Int @Int.instAdd) (@Nat.cast Int instNatCastInt (@List.length (@Kd.T (@Kd.int Go.IntKind.u8)) x0)) (1 : Int))) x3) (@ite (@Kd.T kI) (@LT.lt (@Kd.T kI) Int.instLTInt (@Go.IntKind.wrap Go.IntKind.i64 (@HAdd.hAdd Int Int Int (@instHAdd Int @Int.instAdd) (@Nat.cast Int instNatCastInt (@List.length (@Kd.T (@Kd.int Go.IntKind.u8)) x0)) (1 : Int))) x3) (@Int.decLt (@Go.IntKind.wrap Go.IntKind.i64 (@HAdd.hAdd Int Int Int (@instHAdd Int @Int.instAdd) (@Nat.cast Int instNatCastInt (@List.length (@Kd.T (@Kd.int Go.IntKind.u8)) x0)) (1 : Int))) x3) (@Go.IntKind.wrap Go.IntKind.i64 (@HAdd.hAdd Int Int Int (@instHAdd Int @Int.instAdd) (@Nat.cast Int instNatCastInt (@List.length (@Kd.T (@Kd.int Go.IntKind.u8)) x0)) (1 : Int))) x3)) (24 : Nat)) (E1011 x0 x1 x2 (@Go.IntKind.wrap Go.IntKind.i64 (@HSub.hSub Int Int Int (@instHSub Int @Int.instSub) (@cond (@Kd.T kI) Bool.false (@ite (@Kd.T kI) (@GT.gt (@Kd.T kI) Int.instLTInt (@Go.IntKind.wrap Go.IntKind.i64 (@HAdd.hAdd Int Int Int (@instHAdd Int @Int.instAdd) (@Nat.cast Int instNatCastInt (@List.length (@Kd.T (@Kd.int Go.IntKind.u8)) x0)) (1 : Int))) x3) (@Int.decLt x3 (@Go.IntKind.wrap Go.IntKind.i64 (@HAdd.hAdd Int Int Int (@instHAdd Int @Int.instAdd) (@Nat.cast Int instNatCastInt (@List.length (@Kd.T (@Kd.int Go.IntKind.u8)) x0)) (1 : Int)))) (@Go.IntKind.wrap Go.IntKind.i64 (@HAdd.hAdd Int Int Int (@instHAdd Int @Int.instAdd) (@Nat.cast Int instNatCastInt (@List.length (@Kd.T (@Kd.int Go.IntKind.u8)) x0)) (1 : Int))) x3) (@ite (@Kd.T kI) (@LT.lt (@Kd.T kI) Int.instLTInt (@Go.IntKind.wrap Go.IntKind.i64 (@HAdd.hAdd Int Int Int (@instHAdd Int @Int.instAdd) (@Nat.cast Int instNatCastInt (@List.length (@Kd.T (@Kd.int Go.IntKind.u8)) x0)) (1 : Int))) x3) (@Int.decLt (@Go.IntKind.wrap Go.IntKind.i64 (@HAdd.hAdd Int Int Int (@instHAdd Int @Int.instAdd) (@Nat.cast Int instNatCastInt (@List.length (@Kd.T (@Kd.int Go.IntKind.u8)) x0)) (1 : Int))) x3) (@Go.IntKind.wrap Go.IntKind.i64 (@HAdd.hAdd Int Int Int (@instHAdd Int @Int.instAdd) (@Nat.cast Int instNatCastInt (@List.length (@Kd.T (@Kd.int Go.IntKind.u8)) x0)) (1 : Int))) x3)) (1 : Int))) (@zeros (@Kd.sl (@Kd.int Go.IntKind.u8)) (@cond (@Kd.T kI) Bool.false (@ite (@Kd.T kI) (@GT.gt (@Kd.T kI) Int.instLTInt (@Go.IntKind.wrap Go.IntKind.i64 (@HAdd.hAdd Int Int Int (@instHAdd Int @Int.instAdd) (@Nat.cast Int instNatCastInt (@List.length (@Kd.T (@Kd.int Go.IntKind.u8)) x0)) (1 : Int))) x3) (@Int.decLt x3 (@Go.IntKind.wrap Go.IntKind.i64 (@HAdd.hAdd Int Int Int (@instHAdd Int @Int.instAdd) (@Nat.cast Int instNatCastInt (@List.length (@Kd.T (@Kd.int Go.IntKind.u8)) x0)) (1 : Int)))) (@Go.IntKind.wrap Go.IntKind.i64 (@HAdd.hAdd Int Int Int (@instHAdd Int @Int.instAdd) (@Nat.cast Int instNatCastInt (@List.length (@Kd.T (@Kd.int Go.IntKind.u8)) x0)) (1 : Int))) x3) (@ite (@Kd.T kI) (@LT.lt (@Kd.T kI) Int.instLTInt (@Go.IntKind.wrap Go.IntKind.i64 (@HAdd.hAdd Int Int Int (@instHAdd Int @Int.instAdd) (@Nat.cast Int instNatCastInt (@List.length (@Kd.T (@Kd.int Go.IntKind.u8)) x0)) (1 : Int))) x3) (@Int.decLt (@Go.IntKind.wrap Go.IntKind.i64 (@HAdd.hAdd Int Int Int (@instHAdd Int @Int.instAdd) (@Nat.cast Int instNatCastInt (@List.length (@Kd.T (@Kd.int Go.IntKind.u8)) x0)) (1 : Int))) x3) (@Go.IntKind.wrap Go.IntKind.i64 (@HAdd.hAdd Int Int Int (@instHAdd Int @Int.instAdd) (@Nat.cast Int instNatCastInt (@List.length (@Kd.T (@Kd.int Go.IntKind.u8)) x0)) (1 : Int))) x3))) (0 : Int)) (@Option.none R))))
theorem A_bytes_genSplit_eq (k : Nat) {R : Type} (I : Nat → St → Option R) (x0 : (List Int)) (x1 : Int) (x2 : Int) (x3 : Int) (K : ((List (List Int)) → Option R)) : fnK (cx_bytes_genSplit k) k code_bytes_genSplit 70 [.tmp 8] sp_bytes_genSplit [.v (.sl (.int .u8)) x0, .v (.sl (.int .u8)) [x1], .v (.int .i64) x2, .v (.int .i64) x3] [] (wrap_bytes_genSplit K) = A_bytes_genSplit k (fun s0 s1 s2 s3 s4 s5 => iter (cx_bytes_genSplit k).pv (look (cx_bytes_genSplit k).cuts 1011) (execK (cx_bytes_genSplit k) k (at_ [1, 1, 1, 1, 1, 1, 1, 1, 0, 0, 0] code_bytes_genSplit)) k (st_bytes_genSplit_1011 s0 s1 s2 s3 s4 s5) (konts (cx_bytes_genSplit k) k I [1, 1, 1, 1, 1, 1, 1, 1, 0, 0] code_bytes_genSplit (outK (cx_bytes_genSplit k) sp_bytes_genSplit [.tmp 8] (wrap_bytes_genSplit K)))) x0 x1 x2 x3 K := by kernel_rfl
noncomputable def L_bytes_genSplit_1011 (k : Nat) {R : Type}  : Nat → (List Int) → Int → Int → Int → (List (List Int)) → Int → ((List (List Int)) → Option R) → Option R
  | 0, _, _, _, _, _, _, _ => none
  | n + 1, s0, s1, s2, s3, s4, s5, K => B_bytes_genSplit_1011 k (fun s0 s1 s2 s3 s4 s5 => L_bytes_genSplit_1011 k  n s0 s1 s2 s3 s4 s5 K) s0 s1 s2 s3 s4 s5 K
theorem L_bytes_genSplit_1011_eq (k : Nat) {R : Type} (I : Nat → St → Option R) (K : ((List (List Int)) → Option R)) : ∀ (n : Nat) (s0 : (List Int)) (s1 : Int) (s2 : Int) (s3 : Int) (s4 : (List (List Int))) (s5 : Int), iter (cx_bytes_genSplit k).pv (look (cx_bytes_genSplit k).cuts 1011) (execK (cx_bytes_genSplit k) k (at_ [1, 1, 1, 1, 1, 1, 1, 1, 0, 0, 0] code_bytes_genSplit)) n (st_bytes_genSplit_1011 s0 s1 s2 s3 s4 s5) (konts (cx_bytes_genSplit k) k I [1, 1, 1, 1, 1, 1, 1, 1, 0, 0] code_bytes_genSplit (outK (cx_bytes_genSplit k) sp_bytes_genSplit [.tmp 8] (wrap_bytes_genSplit K))) = L_bytes_genSplit_1011 k  n s0 s1 s2 s3 s4 s5 K := by
  intro n
  induction n with
  | zero => intros; rfl
  | succ n ih =>
    intro s0 s1 s2 s3 s4 s5
    let I' : Nat → St → Option R := fun id s => bif Nat.beq id 1011 then iter (cx_bytes_genSplit k).pv (look (cx_bytes_genSplit k).cuts 1011) (execK (cx_bytes_genSplit k) k (at_ [1, 1, 1, 1, 1, 1, 1, 1, 0, 0, 0] code_bytes_genSplit)) n s (konts (cx_bytes_genSplit k) k I [1, 1, 1, 1, 1, 1, 1, 1, 0, 0] code_bytes_genSplit (outK (cx_bytes_genSplit k) sp_bytes_genSplit [.tmp 8] (wrap_bytes_genSplit K))) else I id s
    have e := B_bytes_genSplit_1011_eq k I' s0 s1 s2 s3 s4 s5 K
    have h1011 : (fun s0 s1 s2 s3 s4 s5 => I' 1011 (st_bytes_genSplit_1011 s0 s1 s2 s3 s4 s5)) = (fun s0 s1 s2 s3 s4 s5 => L_bytes_genSplit_1011 k  n s0 s1 s2 s3 s4 s5 K) := by funext s0 s1 s2 s3 s4 s5; exact ih s0 s1 s2 s3 s4 s5
    refine Eq.trans (?_ : _ = _) (e.trans (Eq.trans ((congrArg ((fun E1011 => B_bytes_genSplit_1011 k E1011 s0 s1 s2 s3 s4 s5 K)) h1011)) (by rw [L_bytes_genSplit_1011])))
    rfl
noncomputable def F_bytes_genSplit (k : Nat) {R : Type} (x0 : (List Int)) (x1 : Int) (x2 : Int) (x3 : Int) (K : ((List (List Int)) → Option R)) : Option R := A_bytes_genSplit k (fun s0 s1 s2 s3 s4 s5 => L_bytes_genSplit_1011 k k s0 s1 s2 s3 s4 s5 K) x0 x1 x2 x3 K
theorem F_bytes_genSplit_eq (k : Nat) {R : Type} (x0 : (List Int)) (x1 : Int) (x2 : Int) (x3 : Int) (K : ((List (List Int)) → Option R)) : fnK (cx_bytes_genSplit k) k code_bytes_genSplit 70 [.tmp 8] sp_bytes_genSplit [.v (.sl (.int .u8)) x0, .v (.sl (.int .u8)) [x1], .v (.int .i64) x2, .v (.int .i64) x3] [] (wrap_bytes_genSplit K) = F_bytes_genSplit k x0 x1 x2 x3 K := by
  let I : Nat → St → Option R := fun _ _ => none
  have h1011 : (fun s0 s1 s2 s3 s4 s5 => iter (cx_bytes_genSplit k).pv (look (cx_bytes_genSplit k).cuts 1011) (execK (cx_bytes_genSplit k) k (at_ [1, 1, 1, 1, 1, 1, 1, 1, 0, 0, 0] code_bytes_genSplit)) k (st_bytes_genSplit_1011 s0 s1 s2 s3 s4 s5) (konts (cx_bytes_genSplit k) k I [1, 1, 1, 1, 1, 1, 1, 1, 0, 0] code_bytes_genSplit (outK (cx_bytes_genSplit k) sp_bytes_genSplit [.tmp 8] (wrap_bytes_genSplit K)))) = (fun s0 s1 s2 s3 s4 s5 => L_bytes_genSplit_1011 k k s0 s1 s2 s3 s4 s5 K) := by funext s0 s1 s2 s3 s4 s5; exact L_bytes_genSplit_1011_eq k I K k s0 s1 s2 s3 s4 s5
  exact (A_bytes_genSplit_eq k I x0 x1 x2 x3 K).trans (congrArg ((fun E1011 => A_bytes_genSplit k E1011 x0 x1 x2 x3 K)) h1011)
noncomputable def run_bytes_genSplit (k : Nat) {R : Type} : List PV → List (Nm × HObj) → (Out → Option R) → Option R
  | [.v (.sl (.int .u8)) x0, .v (.sl (.int .u8)) [x1], .v (.int .i64) x2, .v (.int .i64) x3], [], K => F_bytes_genSplit k x0 x1 x2 x3 (fun y0 => K (.ret [.v (.sl (.sl (.int .u8))) y0] []))
  | _, _, _ => none
theorem C_bytes_genSplit_ok (k : Nat) : (C_bytes_genSplit k).Ok Tryd.prog := by
  intro f ps hp R K r h
  unfold C_bytes_genSplit at h
  simp only at h
  cases hb60 : Nat.beq f 60 with
  | true => rw [hb60, cond_true] at h; rw [Nat.eq_of_beq_eq_true hb60]; exact D_bytes_Count k h
  | false =>
  rw [hb60, cond_false] at h
  cases hb61 : Nat.beq f 61 with
  | true => rw [hb61, cond_true] at h; rw [Nat.eq_of_beq_eq_true hb61]; exact D_bytes_Index k h
  | false =>
  rw [hb61, cond_false] at h
  cases h
theorem D_bytes_genSplit (k : Nat) {ps : List PV} {hp : List (Nm × HObj)} {R : Type} {K : Out → Option R} {r : R} (h : run_bytes_genSplit k ps hp K = some r) : DoesTo Tryd.prog 46 ps hp fun out => K out = some r := by
  unfold run_bytes_genSplit at h
  split at h
  · rw [← F_bytes_genSplit_eq] at h
    have := fn_ok (P := Tryd.prog) (cx := cx_bytes_genSplit k) (f := 46) ⟨tyT_ok, C_bytes_genSplit_ok k, fun _ _ => rfl⟩ (by kernel_rfl) (fn := Tryd.f46) (c := code_bytes_genSplit) (by kernel_rfl) (by kernel_rfl) (by kernel_rfl) (rs := [.tmp 8]) (by kernel_rfl) (by kernel_rfl) h
    exact this.mono fun out ho => by
      unfold wrap_bytes_genSplit at ho
      split at ho <;> first | exact ho | cases ho
  · cases h
end Go.Proofs.YtpfbdepoammjmaaDoor.Pvm

set_option maxRecDepth 1000000
set_option maxHeartbeats 0
namespace Go.Proofs.YtpfbdepoammjmaaDoor.Pvm
open Go Go.Proofs
def sig_bytes_Split : List LS := [.sl (.int .u8), .sl (.int .u8)]
noncomputable def C_bytes_Split (k : Nat) : CTab := ⟨fun f => bif Nat.beq f 46 then sig_bytes_genSplit else [], fun f {_} ps hp K => bif Nat.beq f 46 then run_bytes_genSplit k ps hp K else none⟩
def wrap_bytes_Split {R : Type} (K : ((List (List Int)) → Option R)) : Out → Option R
  | .ret [.v (.sl (.sl (.int .u8))) y0] [] => K y0
  | _ => none
def sp_bytes_Split : RetSpec := ⟨[.sl (.sl (.int .u8))], [], []⟩
def cuts_bytes_Split : List (Nat × CutSpec) := []
def plans_bytes_Split : List (Nat × Plan) := []
noncomputable def cx_bytes_Split (k : Nat) : Ctx := ⟨tyT, cuts_bytes_Split, C_bytes_Split k, [], [], plans_bytes_Split, @SH⟩
noncomputable def code_bytes_Split : Code := Tryd.f32.body.getD .skip
noncomputable def A_bytes_Split (k : Nat) {R : Type}  (x0 : (List Int)) (x1 : Int) (K : ((List (List Int)) → Option R)) : Option R := (@F_bytes_genSplit k R x0 x1 (0 : Int) (@Neg.neg Int @Int.instNegInt (1 : Int)) (fun (y5 : (@List (@List Int))) => (K y5)))
theorem A_bytes_Split_eq (k : Nat) {R : Type} (I : Nat → St → Option R) (x0 : (List Int)) (x1 : Int) (K : ((List (List Int)) → Option R)) : fnK (cx_bytes_Split k) k code_bytes_Split 8 [.tmp 4] sp_bytes_Split [.v (.sl (.int .u8)) x0, .v (.sl (.int .u8)) [x1]] [] (wrap_bytes_Split K) = A_bytes_Split k  x0 x1 K := by kernel_rfl
noncomputable def F_bytes_Split (k : Nat) {R : Type} (x0 : (List Int)) (x1 : Int) (K : ((List (List Int)) → Option R)) : Option R := A_bytes_Split k  x0 x1 K
theorem F_bytes_Split_eq (k : Nat) {R : Type} (x0 : (List Int)) (x1 : Int) (K : ((List (List Int)) → Option R)) : fnK (cx_bytes_Split k) k code_bytes_Split 8 [.tmp 4] sp_bytes_Split [.v (.sl (.int .u8)) x0, .v (.sl (.int .u8)) [x1]] [] (wrap_bytes_Split K) = F_bytes_Split k x0 x1 K := by
  exact A_bytes_Split_eq k (fun _ _ => none) x0 x1 K
noncomputable def run_bytes_Split (k : Nat) {R : Type} : List PV → List (Nm × HObj) → (Out → Option R) → Option R
  | [.v (.sl (.int .u8)) x0, .v (.sl (.int .u8)) [x1]], [], K => F_bytes_Split k x0 x1 (fun y0 => K (.ret [.v (.sl (.sl (.int .u8))) y0] []))
  | _, _, _ => none
theorem C_bytes_Split_ok (k : Nat) : (C_bytes_Split k).Ok Tryd.prog := by
  intro f ps hp R K r h
  unfold C_bytes_Split at h
  simp only at h
  cases hb46 : Nat.beq f 46 with
  | true => rw [hb46, cond_true] at h; rw [Nat.eq_of_beq_eq_true hb46]; exact D_bytes_genSplit k h
  | false =>
  rw [hb46, cond_false] at h
  cases h
theorem D_bytes_Split (k : Nat) {ps : List PV} {hp : List (Nm × HObj)} {R : Type} {K : Out → Option R} {r : R} (h : run_bytes_Split k ps hp K = some r) : DoesTo Tryd.prog 32 ps hp fun out => K out = some r := by
  unfold run_bytes_Split at h
  split at h
  · rw [← F_bytes_Split_eq] at h
    have := fn_ok (P := Tryd.prog) (cx := cx_bytes_Split k) (f := 32) ⟨tyT_ok, C_bytes_Split_ok k, fun _ _ => rfl⟩ (by kernel_rfl) (fn := Tryd.f32) (c := code_bytes_Split) (by kernel_rfl) (by kernel_rfl) (by kernel_rfl) (rs := [.tmp 4]) (by kernel_rfl) (by kernel_rfl) h
    exact this.mono fun out ho => by
      unfold wrap_bytes_Split at ho
      split at ho <;> first | exact ho | cases ho
  · cases h
end Go.Proofs.YtpfbdepoammjmaaDoor.Pvm

set_option maxRecDepth 1000000
set_option maxHeartbeats 0
namespace Go.Proofs.YtpfbdepoammjmaaDoor.Pvm
open Go Go.Proofs
def sig_line_quoted : List LS := [.any, .any]
noncomputable def C_line_quoted (k : Nat) : CTab := ⟨fun f => [], fun f {_} ps hp K => none⟩
def wrap_line_quoted {R : Type} (K : (Int → Bool → Option R)) : Out → Option R
  | .ret [.v (.int .i64) y0, .v .bool y1] [] => K y0 y1
  | _ => none
def sp_line_quoted : RetSpec := ⟨[.any, .any], [], []⟩
def cuts_line_quoted : List (Nat × CutSpec) := [(1003, ⟨[(0, .any), (6, .any), (7, .any)], []⟩)]
def plans_line_quoted : List (Nat × Plan) := []
noncomputable def cx_line_quoted (k : Nat) : Ctx := ⟨tyT, cuts_line_quoted, C_line_quoted k, [], [], plans_line_quoted, @SH⟩
noncomputable def code_line_quoted : Code := Tryd.f52.body.getD .skip
def st_line_quoted_1003 (s0 : (List UInt8)) (s1 : Int) (s2 : Int) : St := ⟨mkT [(0, .v .str s0), (6, .v (.int .u8) s1), (7, .v (.int .i64) s2)], mkH []⟩
noncomputable def B_line_quoted_1003 (k : Nat) {R : Type} (E1003 : ((List UInt8) → Int → Int → Option R)) (s0 : (List UInt8)) (s1 : Int) (s2 : Int) (K : (Int → Bool → Option R)) : Option R := (@cond (@Option R) (@Decidable.decide (@LT.lt Int Int.instLTInt s2 (@Nat.cast Int instNatCastInt (@List.length UInt8 s0))) (@Int.decLt s2 (@Nat.cast Int instNatCastInt (@List.length UInt8 s0)))) (@cond (@Option R) (@Bool.or (@Bool.not (@BEq.beq (@Kd.T Kd.bool) (@instBEqOfDecidableEq (@Kd.T Kd.bool) @instDecidableEqBool) (@BEq.beq Int (@instBEqOfDecidableEq Int @Int.instDecidableEq) s1 (34 : Int)) Bool.true)) (@inb s2 (@Nat.cast Int instNatCastInt (@List.length UInt8 s0)))) (@cond (@Option R) (@cond (@Kd.T Kd.bool) (@BEq.beq Int (@instBEqOfDecidableEq Int @Int.instDecidableEq) s1 (34 : Int)) (@BEq.beq Int (@instBEqOfDecidableEq Int @Int.instDecidableEq) (@Nat.cast Int instNatCastInt (@UInt8.toNat (@List.getD UInt8 s0 (@Int.toNat s2) (0 : UInt8)))) (92 : Int)) Bool.false) (E1003 s0 s1 (@Go.IntKind.wrap Go.IntKind.i64 (@HAdd.hAdd Int Int Int (@instHAdd Int @Int.instAdd) (@Go.IntKind.wrap Go.IntKind.i64 (@HAdd.hAdd Int Int Int (@instHAdd Int @Int.instAdd) s2 (1 : Int))) (1 : Int)))) (@cond (@Option R) (@inb s2 (@Nat.cast Int instNatCastInt (@List.length UInt8 s0))) (@cond (@Option R) (@bne Int (@instBEqOfDecidableEq Int @Int.instDecidableEq) (@Nat.cast Int instNatCastInt (@UInt8.toNat (@List.getD UInt8 s0 (@Int.toNat s2) (0 : UInt8)))) s1) (E1003 s0 s1 (@Go.IntKind.wrap Go.IntKind.i64 (@HAdd.hAdd Int Int Int (@instHAdd Int @Int.instAdd) s2 (1 : Int)))) (@cond (@Option R) (@Bool.or (@Bool.not (@BEq.beq (@Kd.T Kd.bool) (@instBEqOfDecidableEq (@Kd.T Kd.bool) @instDecidableEqBool) (@cond (@Kd.T Kd.bool) (@BEq.beq Int (@instBEqOfDecidableEq Int @Int.instDecidableEq) s1 (39 : Int)) (@Decidable.decide (@LT.lt Int Int.instLTInt (@Go.IntKind.wrap Go.IntKind.i64 (@HAdd.hAdd Int Int Int (@instHAdd Int @Int.instAdd) s2 (1 : Int))) (@Nat.cast Int instNatCastInt (@List.length UInt8 s0))) (@Int.decLt (@Go.IntKind.wrap Go.IntKind.i64 (@HAdd.hAdd Int Int Int (@instHAdd Int @Int.instAdd) s2 (1 : Int))) (@Nat.cast Int instNatCastInt (@List.length UInt8 s0)))) Bool.false) Bool.true)) (@inb (@Go.IntKind.wrap Go.IntKind.i64 (@HAdd.hAdd Int Int Int (@instHAdd Int @Int.instAdd) s2 (1 : Int))) (@Nat.cast Int instNatCastInt (@List.length UInt8 s0)))) (@cond (@Option R) (@cond (@Kd.T Kd.bool) (@cond (@Kd.T Kd.bool) (@BEq.beq Int (@instBEqOfDecidableEq Int @Int.instDecidableEq) s1 (39 : Int)) (@Decidable.decide (@LT.lt Int Int.instLTInt (@Go.IntKind.wrap Go.IntKind.i64 (@HAdd.hAdd Int Int Int (@instHAdd Int @Int.instAdd) s2 (1 : Int))) (@Nat.cast Int instNatCastInt (@List.length UInt8 s0))) (@Int.decLt (@Go.IntKind.wrap Go.IntKind.i64 (@HAdd.hAdd Int Int Int (@instHAdd Int @Int.instAdd) s2 (1 : Int))) (@Nat.cast Int instNatCastInt (@List.length UInt8 s0)))) Bool.false) (@BEq.beq Int (@instBEqOfDecidableEq Int @Int.instDecidableEq) (@Nat.cast Int instNatCastInt (@UInt8.toNat (@List.getD UInt8 s0 (@Int.toNat (@Go.IntKind.wrap Go.IntKind.i64 (@HAdd.hAdd Int Int Int (@instHAdd Int @Int.instAdd) s2 (1 : Int)))) (0 : UInt8)))) s1) Bool.false) (E1003 s0 s1 (@Go.IntKind.wrap Go.IntKind.i64 (@HAdd.hAdd Int Int Int (@instHAdd Int @Int.instAdd) (@Go.IntKind.wrap Go.IntKind.i64 (@HAdd.hAdd Int Int Int (@instHAdd Int @Int.instAdd) s2 (1 : Int))) (1 : Int)))) (K s2 Bool.true)) (@Option.none R))) (@Option.none R))) (@Option.none R)) (K (0 : Int) Bool.false))
theorem B_line_quoted_1003_eq (k : Nat) {R : Type} (I : Nat → St → Option R) (s0 : (List UInt8)) (s1 : Int) (s2 : Int) (K : (Int → Bool → Option R)) : execK (cx_line_quoted k) k (at_ [1, 1, 0, 1, 0, 0] code_line_quoted) (st_line_quoted_1003 s0 s1 s2) (konts (cx_line_quoted k) k I [1, 1, 0, 1, 0, 0] code_line_quoted (outK (cx_line_quoted k) sp_line_quoted [.tmp 4, .tmp 5] (wrap_line_quoted K))) = B_line_quoted_1003 k (fun s0 s1 s2 => I 1003 (st_line_quoted_1003 s0 s1 s2)) s0 s1 s2 K := by kernel_rfl
noncomputable def A_line_quoted (k : Nat) {R : Type} (E1003 : ((List UInt8) → Int → Int → Option R)) (x0 : (List UInt8)) (x1 : Int) (K : (Int → Bool → Option R)) : Option R := (@cond (@Option R) (@inb x1 (@Nat.cast Int instNatCastInt (@List.length UInt8 x0))) (E1003 x0 (@Nat.cast Int instNatCastInt (@UInt8.toNat (@List.getD UInt8 x0 (@Int.toNat x1) (0 : UInt8)))) (@Go.IntKind.wrap Go.IntKind.i64 (@HAdd.hAdd Int Int Int (@instHAdd Int @Int.instAdd) x1 (1 : Int)))) (@Option.none R))
theorem A_line_quoted_eq (k : Nat) {R : Type} (I : Nat → St → Option R) (x0 : (List UInt8)) (x1 : Int) (K : (Int → Bool → Option R)) : fnK (cx_line_quoted k) k code_line_quoted 57 [.tmp 4, .tmp 5] sp_line_quoted [.v .str x0, .v (.int .i64) x1] [] (wrap_line_quoted K) = A_line_quoted k (fun s0 s1 s2 => iter (cx_line_quoted k).pv (look (cx_line_quoted k).cuts 1003) (execK (cx_line_quoted k) k (at_ [1, 1, 0, 1, 0, 0] code_line_quoted)) k (st_line_quoted_1003 s0 s1 s2) (konts (cx_line_quoted k) k I [1, 1, 0, 1, 0] code_line_quoted (outK (cx_line_quoted k) sp_line_quoted [.tmp 4, .tmp 5] (wrap_line_quoted K)))) x0 x1 K := by kernel_rfl
noncomputable def L_line_quoted_1003 (k : Nat) {R : Type}  : Nat → (List UInt8) → Int → Int → (Int → Bool → Option R) → Option R
  | 0, _, _, _, _ => none
  | n + 1, s0, s1, s2, K => B_line_quoted_1003 k (fun s0 s1 s2 => L_line_quoted_1003 k  n s0 s1 s2 K) s0 s1 s2 K
theorem L_line_quoted_1003_eq (k : Nat) {R : Type} (I : Nat → St → Option R) (K : (Int → Bool → Option R)) : ∀ (n : Nat) (s0 : (List UInt8)) (s1 : Int) (s2 : Int), iter (cx_line_quoted k).pv (look (cx_line_quoted k).cuts 1003) (execK (cx_line_quoted k) k (at_ [1, 1, 0, 1, 0, 0] code_line_quoted)) n (st_line_quoted_1003 s0 s1 s2) (konts (cx_line_quoted k) k I [1, 1, 0, 1, 0] code_line_quoted (outK (cx_line_quoted k) sp_line_quoted [.tmp 4, .tmp 5] (wrap_line_quoted K))) = L_line_quoted_1003 k  n s0 s1 s2 K := by
  intro n
  induction n with
  | zero => intros; rfl
  | succ n ih =>
    intro s0 s1 s2
    let I' : Nat → St → Option R := fun id s => bif Nat.beq id 1003 then iter (cx_line_quoted k).pv (look (cx_line_quoted k).cuts 1003) (execK (cx_line_quoted k) k (at_ [1, 1, 0, 1, 0, 0] code_line_quoted)) n s (konts (cx_line_quoted k) k I [1, 1, 0, 1, 0] code_line_quoted (outK (cx_line_quoted k) sp_line_quoted [.tmp 4, .tmp 5] (wrap_line_quoted K))) else I id s
    have e := B_line_quoted_1003_eq k I' s0 s1 s2 K
    have h1003 : (fun s0 s1 s2 => I' 1003 (st_line_quoted_1003 s0 s1 s2)) = (fun s0 s1 s2 => L_line_quoted_1003 k  n s0 s1 s2 K) := by funext s0 s1 s2; exact ih s0 s1 s2
    refine Eq.trans (?_ : _ = _) (e.trans (Eq.trans ((congrArg ((fun E1003 => B_line_quoted_1003 k E1003 s0 s1 s2 K)) h1003)) (by rw [L_line_quoted_1003])))
    rfl
noncomputable def F_line_quoted (k : Nat) {R : Type} (x0 : (List UInt8)) (x1 : Int) (K : (Int → Bool → Option R)) : Option R := A_line_quoted k (fun s0 s1 s2 => L_line_quoted_1003 k k s0 s1 s2 K) x0 x1 K
theorem F_line_quoted_eq (k : Nat) {R : Type} (x0 : (List UInt8)) (x1 : Int) (K : (Int → Bool → Option R)) : fnK (cx_line_quoted k) k code_line_quoted 57 [.tmp 4, .tmp 5] sp_line_quoted [.v .str x0, .v (.int .i64) x1] [] (wrap_line_quoted K) = F_line_quoted k x0 x1 K := by
  let I : Nat → St → Option R := fun _ _ => none
  have h1003 : (fun s0 s1 s2 => iter (cx_line_quoted k).pv (look (cx_line_quoted k).cuts 1003) (execK (cx_line_quoted k) k (at_ [1, 1, 0, 1, 0, 0] code_line_quoted)) k (st_line_quoted_1003 s0 s1 s2) (konts (cx_line_quoted k) k I [1, 1, 0, 1, 0] code_line_quoted (outK (cx_line_quoted k) sp_line_quoted [.tmp 4, .tmp 5] (wrap_line_quoted K)))) = (fun s0 s1 s2 => L_line_quoted_1003 k k s0 s1 s2 K) := by funext s0 s1 s2; exact L_line_quoted_1003_eq k I K k s0 s1 s2
  exact (A_line_quoted_eq k I x0 x1 K).trans (congrArg ((fun E1003 => A_line_quoted k E1003 x0 x1 K)) h1003)
noncomputable def run_line_quoted (k : Nat) {R : Type} : List PV → List (Nm × HObj) → (Out → Option R) → Option R
  | [.v .str x0, .v (.int .i64) x1], [], K => F_line_quoted k x0 x1 (fun y0 y1 => K (.ret [.v (.int .i64) y0, .v .bool y1] []))
  | _, _, _ => none
theorem C_line_quoted_ok (k : Nat) : (C_line_quoted k).Ok Tryd.prog := by
  intro f ps hp R K r h
  unfold C_line_quoted at h
  simp only at h
  cases h
theorem D_line_quoted (k : Nat) {ps : List PV} {hp : List (Nm × HObj)} {R : Type} {K : Out → Option R} {r : R} (h : run_line_quoted k ps hp K = some r) : DoesTo Tryd.prog 52 ps hp fun out => K out = some r := by
  unfold run_line_quoted at h
  split at h
  · rw [← F_line_quoted_eq] at h
    have := fn_ok (P := Tryd.prog) (cx := cx_line_quoted k) (f := 52) ⟨tyT_ok, C_line_quoted_ok k, fun _ _ => rfl⟩ (by kernel_rfl) (fn := Tryd.f52) (c := code_line_quoted) (by kernel_rfl) (by kernel_rfl) (by kernel_rfl) (rs := [.tmp 4, .tmp 5]) (by kernel_rfl) (by kernel_rfl) h
    exact this.mono fun out ho => by
      unfold wrap_line_quoted at ho
      split at ho <;> first | exact ho | cases ho
  · cases h
end Go.Proofs.YtpfbdepoammjmaaDoor.Pvm

set_option maxRecDepth 1000000
set_option maxHeartbeats 0
namespace Go.Proofs.YtpfbdepoammjmaaDoor.Pvm
open Go Go.Proofs
def sig_strings_trimRightByte : List LS := [.any, .any]
noncomputable def C_strings_trimRightByte (k : Nat) : CTab := ⟨fun f => [], fun f {_} ps hp K => none⟩
def wrap_strings_trimRightByte {R : Type} (K : ((List UInt8) → Option R)) : Out → Option R
  | .ret [.v .str y0] [] => K y0
  | _ => none
def sp_strings_trimRightByte : RetSpec := ⟨[.any], [], []⟩
def cuts_strings_trimRightByte : List (Nat × CutSpec) := [(1001, ⟨[(0, .any), (1, .any)], []⟩)]
def plans_strings_trimRightByte : List (Nat × Plan) := []
noncomputable def cx_strings_trimRightByte (k : Nat) : Ctx := ⟨tyT, cuts_strings_trimRightByte, C_strings_trimRightByte k, [], [], plans_strings_trimRightByte, @SH⟩
noncomputable def code_strings_trimRightByte : Code := Tryd.f65.body.getD .skip
def st_strings_trimRightByte_1001 (s0 : (List UInt8)) (s1 : Int) : St := ⟨mkT [(0, .v .str s0), (1, .v (.int .u8) s1)], mkH []⟩
noncomputable def B_strings_trimRightByte_1001 (k : Nat) {R : Type} (E1001 : ((List UInt8) → Int → Option R)) (s0 : (List UInt8)) (s1 : Int) (K : ((List UInt8) → Option R)) : Option R := (@cond (@Option R) (@Bool.or (@Bool.not (@BEq.beq (@Kd.T Kd.bool) (@instBEqOfDecidableEq (@Kd.T Kd.bool) @instDecidableEqBool) (@Decidable.decide (@GT.gt Int Int.instLTInt (@Nat.cast Int instNatCastInt (@List.length UInt8 s0)) (0 : Int)) (@Int.decLt (0 : Int) (@Nat.cast Int instNatCastInt (@List.length UInt8 s0)))) Bool.true)) (@inb (@Go.IntKind.wrap Go.IntKind.i64 (@HSub.hSub Int Int Int (@instHSub Int @Int.instSub) (@Nat.cast Int instNatCastInt (@List.length UInt8 s0)) (1 : Int))) (@Nat.cast Int instNatCastInt (@List.length UInt8 s0)))) (@cond (@Option R) (@cond (@Kd.T Kd.bool) (@Decidable.decide (@GT.gt Int Int.instLTInt (@Nat.cast Int instNatCastInt (@List.length UInt8 s0)) (0 : Int)) (@Int.decLt (0 : Int) (@Nat.cast Int instNatCastInt (@List.length UInt8 s0)))) (@BEq.beq Int (@instBEqOfDecidableEq Int @Int.instDecidableEq) (@Nat.cast Int instNatCastInt (@UInt8.toNat (@List.getD UInt8 s0 (@Int.toNat (@Go.IntKind.wrap Go.IntKind.i64 (@HSub.hSub Int Int Int (@instHSub Int @Int.instSub) (@Nat.cast Int instNatCastInt (@List.length UInt8 s0)) (1 : Int)))) (0 : UInt8)))) s1) Bool.false) (@cond (@Option R) (@bnd (0 : Int) (@Go.IntKind.wrap Go.IntKind.i64 (@HSub.hSub Int Int Int (@instHSub Int @Int.instSub) (@Nat.cast Int instNatCastInt (@List.length UInt8 s0)) (1 : Int))) (@Nat.cast Int instNatCastInt (@List.length UInt8 s0))) (E1001 (@cut UInt8 s0 (0 : Int) (@Go.IntKind.wrap Go.IntKind.i64 (@HSub.hSub Int Int Int (@instHSub Int @Int.instSub) (@Nat.cast Int instNatCastInt (@List.length UInt8 s0)) (1 : Int)))) s1) (@Option.none R)) (K s0)) (@Option.none R))
theorem B_strings_trimRightByte_1001_eq (k : Nat) {R : Type} (I : Nat → St → Option R) (s0 : (List UInt8)) (s1 : Int) (K : ((List UInt8) → Option R)) : execK (cx_strings_trimRightByte k) k (at_ [1, 0, 0, 0] code_strings_trimRightByte) (st_strings_trimRightByte_1001 s0 s1) (konts (cx_strings_trimRightByte k) k I [1, 0, 0, 0] code_strings_trimRightByte (outK (cx_strings_trimRightByte k) sp_strings_trimRightByte [.tmp 4] (wrap_strings_trimRightByte K))) = B_strings_trimRightByte_1001 k (fun s0 s1 => I 1001 (st_strings_trimRightByte_1001 s0 s1)) s0 s1 K := by kernel_rfl
noncomputable def A_strings_trimRightByte (k : Nat) {R : Type} (E1001 : ((List UInt8) → Int → Option R)) (x0 : (List UInt8)) (x1 : Int) (K : ((List UInt8) → Option R)) : Option R := (E1001 x0 x1)
theorem A_strings_trimRightByte_eq (k : Nat) {R : Type} (I : Nat → St → Option R) (x0 : (List UInt8)) (x1 : Int) (K : ((List UInt8) → Option R)) : fnK (cx_strings_trimRightByte k) k code_strings_trimRightByte 23 [.tmp 4] sp_strings_trimRightByte [.v .str x0, .v (.int .u8) x1] [] (wrap_strings_trimRightByte K) = A_strings_trimRightByte k (fun s0 s1 => iter (cx_strings_trimRightByte k).pv (look (cx_strings_trimRightByte k).cuts 1001) (execK (cx_strings_trimRightByte k) k (at_ [1, 0, 0, 0] code_strings_trimRightByte)) k (st_strings_trimRightByte_1001 s0 s1) (konts (cx_strings_trimRightByte k) k I [1, 0, 0] code_strings_trimRightByte (outK (cx_strings_trimRightByte k) sp_strings_trimRightByte [.tmp 4] (wrap_strings_trimRightByte K)))) x0 x1 K := by kernel_rfl
noncomputable def L_strings_trimRightByte_1001 (k : Nat) {R : Type}  : Nat → (List UInt8) → Int → ((List UInt8) → Option R) → Option R
  | 0, _, _, _ => none
  | n + 1, s0, s1, K => B_strings_trimRightByte_1001 k (fun s0 s1 => L_strings_trimRightByte_1001 k  n s0 s1 K) s0 s1 K
theorem L_strings_trimRightByte_1001_eq (k : Nat) {R : Type} (I : Nat → St → Option R) (K : ((List UInt8) → Option R)) : ∀ (n : Nat) (s0 : (List UInt8)) (s1 : Int), iter (cx_strings_trimRightByte k).pv (look (cx_strings_trimRightByte k).cuts 1001) (execK (cx_strings_trimRightByte k) k (at_ [1, 0, 0, 0] code_strings_trimRightByte)) n (st_strings_trimRightByte_1001 s0 s1) (konts (cx_strings_trimRightByte k) k I [1, 0, 0] code_strings_trimRightByte (outK (cx_strings_trimRightByte k) sp_strings_trimRightByte [.tmp 4] (wrap_strings_trimRightByte K))) = L_strings_trimRightByte_1001 k  n s0 s1 K := by
  intro n
  induction n with
  | zero => intros; rfl
  | succ n ih =>
    intro s0 s1
    let I' : Nat → St → Option R := fun id s => bif Nat.beq id 1001 then iter (cx_strings_trimRightByte k).pv (look (cx_strings_trimRightByte k).cuts 1001) (execK (cx_strings_trimRightByte k) k (at_ [1, 0, 0, 0] code_strings_trimRightByte)) n s (konts (cx_strings_trimRightByte k) k I [1, 0, 0] code_strings_trimRightByte (outK (cx_strings_trimRightByte k) sp_strings_trimRightByte [.tmp 4] (wrap_strings_trimRightByte K))) else I id s
    have e := B_strings_trimRightByte_1001_eq k I' s0 s1 K
    have h1001 : (fun s0 s1 => I' 1001 (st_strings_trimRightByte_1001 s0 s1)) = (fun s0 s1 => L_strings_trimRightByte_1001 k  n s0 s1 K) := by funext s0 s1; exact ih s0 s1
    refine Eq.trans (?_ : _ = _) (e.trans (Eq.trans ((congrArg ((fun E1001 => B_strings_trimRightByte_1001 k E1001 s0 s1 K)) h1001)) (by rw [L_strings_trimRightByte_1001])))
    rfl
noncomputable def F_strings_trimRightByte (k : Nat) {R : Type} (x0 : (List UInt8)) (x1 : Int) (K : ((List UInt8) → Option R)) : Option R := A_strings_trimRightByte k (fun s0 s1 => L_strings_trimRightByte_1001 k k s0 s1 K) x0 x1 K
theorem F_strings_trimRightByte_eq (k : Nat) {R : Type} (x0 : (List UInt8)) (x1 : Int) (K : ((List UInt8) → Option R)) : fnK (cx_strings_trimRightByte k) k code_strings_trimRightByte 23 [.tmp 4] sp_strings_trimRightByte [.v .str x0, .v (.int .u8) x1] [] (wrap_strings_trimRightByte K) = F_strings_trimRightByte k x0 x1 K := by
  let I : Nat → St → Option R := fun _ _ => none
  have h1001 : (fun s0 s1 => iter (cx_strings_trimRightByte k).pv (look (cx_strings_trimRightByte k).cuts 1001) (execK (cx_strings_trimRightByte k) k (at_ [1, 0, 0, 0] code_strings_trimRightByte)) k (st_strings_trimRightByte_1001 s0 s1) (konts (cx_strings_trimRightByte k) k I [1, 0, 0] code_strings_trimRightByte (outK (cx_strings_trimRightByte k) sp_strings_trimRightByte [.tmp 4] (wrap_strings_trimRightByte K)))) = (fun s0 s1 => L_strings_trimRightByte_1001 k k s0 s1 K) := by funext s0 s1; exact L_strings_trimRightByte_1001_eq k I K k s0 s1
  exact (A_strings_trimRightByte_eq k I x0 x1 K).trans (congrArg ((fun E1001 => A_strings_trimRightByte k E1001 x0 x1 K)) h1001)
noncomputable def run_strings_trimRightByte (k : Nat) {R : Type} : List PV → List (Nm × HObj) → (Out → Option R) → Option R
  | [.v .str x0, .v (.int .u8) x1], [], K => F_strings_trimRightByte k x0 x1 (fun y0 => K (.ret [.v .str y0] []))
  | _, _, _ => none
theorem C_strings_trimRightByte_ok (k : Nat) : (C_strings_trimRightByte k).Ok Tryd.prog := by
  intro f ps hp R K r h
  unfold C_strings_trimRightByte at h
  simp only at h
  cases h
theorem D_strings_trimRightByte (k : Nat) {ps : List PV} {hp : List (Nm × HObj)} {R : Type} {K : Out → Option R} {r : R} (h : run_strings_trimRightByte k ps hp K = some r) : DoesTo Tryd.prog 65 ps hp fun out => K out = some r := by
  unfold run_strings_trimRightByte at h
  split at h
  · rw [← F_strings_trimRightByte_eq] at h
    have := fn_ok (P := Tryd.prog) (cx := cx_strings_trimRightByte k) (f := 65) ⟨tyT_ok, C_strings_trimRightByte_ok k, fun _ _ => rfl⟩ (by kernel_rfl) (fn := Tryd.f65) (c := code_strings_trimRightByte) (by kernel_rfl) (by kernel_rfl) (by kernel_rfl) (rs := [.tmp 4]) (by kernel_rfl) (by kernel_rfl) h
    exact this.mono fun out ho => by
      unfold wrap_strings_trimRightByte at ho
      split at ho <;> first | exact ho | cases ho
  · cases h
end Go.Proofs.YtpfbdepoammjmaaDoor.Pvm

set_option maxRecDepth 1000000
set_option maxHeartbeats 0
namespace Go.Proofs.YtpfbdepoammjmaaDoor.Pvm
open Go Go.Proofs
def sig_strings_TrimRight : List LS := [.any, .any]
noncomputable def C_strings_TrimRight (k : Nat) : CTab := ⟨fun f => bif Nat.beq f 65 then sig_strings_trimRightByte else [], fun f {_} ps hp K => bif Nat.beq f 65 then run_strings_trimRightByte k ps hp K else none⟩
def wrap_strings_TrimRight {R : Type} (K : ((List UInt8) → Option R)) : Out → Option R
  | .ret [.v .str y0] [] => K y0
  | _ => none
def sp_strings_TrimRight : RetSpec := ⟨[.any], [], []⟩
def cuts_strings_TrimRight : List (Nat × CutSpec) := []
def plans_strings_TrimRight : List (Nat × Plan) := []
noncomputable def cx_strings_TrimRight (k : Nat) : Ctx := ⟨tyT, cuts_strings_TrimRight, C_strings_TrimRight k, [], [], plans_strings_TrimRight, @SH⟩
noncomputable def code_strings_TrimRight : Code := Tryd.f53.body.getD .skip
noncomputable def A_strings_TrimRight (k : Nat) {R : Type}  (x0 : (List UInt8)) (x1 : UInt8) (K : ((List UInt8) → Option R)) : Option R := (@cond (@Option R) (@cond (@Kd.T Kd.bool) (@BEq.beq (@List UInt8) (@List.instBEq UInt8 (@instBEqOfDecidableEq UInt8 @instDecidableEqUInt8)) x0 (@Array.toList UInt8 (@ByteArray.data (@ByteArray.mk (@List.toArray UInt8 []))))) Bool.true (@BEq.beq (@List UInt8) (@List.instBEq UInt8 (@instBEqOfDecidableEq UInt8 @instDecidableEqUInt8)) (x1 :: []) (@Array.toList UInt8 (@ByteArray.data (@ByteArray.mk (@List.toArray UInt8 [])))))) (K x0) (@cond (@Option R) (@cond (@Kd.T Kd.bool) (@BEq.beq Int (@instBEqOfDecidableEq Int @Int.instDecidableEq) (@Nat.cast Int instNatCastInt (@List.length UInt8 (x1 :: []))) (1 : Int)) (@Decidable.decide (@LT.lt Int Int.instLTInt (@Nat.cast Int instNatCastInt (@UInt8.toNat (@List.getD UInt8 (x1 :: []) (@Int.toNat (0 : Int)) (0 : UInt8)))) (128 : Int)) (@Int.decLt (@Nat.cast Int instNatCastInt (@UInt8.toNat (@List.getD UInt8 (x1 :: []) (@Int.toNat (0 : Int)) (0 : UInt8)))) (128 : Int))) Bool.false) (@F_strings_trimRightByte k R x0 (@Nat.cast Int instNatCastInt (@UInt8.toNat (@List.getD UInt8 (x1 :: []) (@Int.toNat (0 : Int)) (0 : UInt8)))) (fun (y5 : (@List UInt8)) => (K y5))) (@Option.none R)))
theorem A_strings_TrimRight_eq (k : Nat) {R : Type} (I : Nat → St → Option R) (x0 : (List UInt8)) (x1 : UInt8) (K : ((List UInt8) → Option R)) : fnK (cx_strings_TrimRight k) k code_strings_TrimRight 37 [.tmp 4] sp_strings_TrimRight [.v .str x0, .v .str [x1]] [] (wrap_strings_TrimRight K) = A_strings_TrimRight k  x0 x1 K := by kernel_rfl
noncomputable def F_strings_TrimRight (k : Nat) {R : Type} (x0 : (List UInt8)) (x1 : UInt8) (K : ((List UInt8) → Option R)) : Option R := A_strings_TrimRight k  x0 x1 K
theorem F_strings_TrimRight_eq (k : Nat) {R : Type} (x0 : (List UInt8)) (x1 : UInt8) (K : ((List UInt8) → Option R)) : fnK (cx_strings_TrimRight k) k code_strings_TrimRight 37 [.tmp 4] sp_strings_TrimRight [.v .str x0, .v .str [x1]] [] (wrap_strings_TrimRight K) = F_strings_TrimRight k x0 x1 K := by
  exact A_strings_TrimRight_eq k (fun _ _ => none) x0 x1 K
noncomputable def run_strings_TrimRight (k : Nat) {R : Type} : List PV → List (Nm × HObj) → (Out → Option R) → Option R
  | [.v .str x0, .v .str [x1]], [], K => F_strings_TrimRight k x0 x1 (fun y0 => K (.ret [.v .str y0] []))
  | _, _, _ => none
theorem C_strings_TrimRight_ok (k : Nat) : (C_strings_TrimRight k).Ok Tryd.prog := by
  intro f ps hp R K r h
  unfold C_strings_TrimRight at h
  simp only at h
  cases hb65 : Nat.beq f 65 with
  | true => rw [hb65, cond_true] at h; rw [Nat.eq_of_beq_eq_true hb65]; exact D_strings_trimRightByte k h
  | false =>
  rw [hb65, cond_false] at h
  cases h
theorem D_strings_TrimRight (k : Nat) {ps : List PV} {hp : List (Nm × HObj)} {R : Type} {K : Out → Option R} {r : R} (h : run_strings_TrimRight k ps hp K = some r) : DoesTo Tryd.prog 53 ps hp fun out => K out = some r := by
  unfold run_strings_TrimRight at h
  split at h
  · rw [← F_strings_TrimRight_eq] at h
    have := fn_ok (P := Tryd.prog) (cx := cx_strings_TrimRight k) (f := 53) ⟨tyT_ok, C_strings_TrimRight_ok k, fun _ _ => rfl⟩ (by kernel_rfl) (fn := Tryd.f53) (c := code_strings_TrimRight) (by kernel_rfl) (by kernel_rfl) (by kernel_rfl) (rs := [.tmp 4]) (by kernel_rfl) (by kernel_rfl) h
    exact this.mono fun out ho => by
      unfold wrap_strings_TrimRight at ho
      split at ho <;> first | exact ho | cases ho
  · cases h
end Go.Proofs.YtpfbdepoammjmaaDoor.Pvm

set_option maxRecDepth 1000000
set_option maxHeartbeats 0
namespace Go.Proofs.YtpfbdepoammjmaaDoor.Pvm
open Go Go.Proofs
def sig_line_Strip : List LS := [.any]
noncomputable def C_line_Strip (k : Nat) : CTab := ⟨fun f => bif Nat.beq f 52 then sig_line_quoted else bif Nat.beq f 53 then sig_strings_TrimRight else [], fun f {_} ps hp K => bif Nat.beq f 52 then run_line_quoted k ps hp K else bif Nat.beq f 53 then run_strings_TrimRight k ps hp K else none⟩
def wrap_line_Strip {R : Type} (K : ((List UInt8) → Bool → Option R)) : Out → Option R
  | .ret [.v .str y0, .v .bool y1] [] => K y0 y1
  | _ => none
def sp_line_Strip : RetSpec := ⟨[.any, .any], [], []⟩
def cuts_line_Strip : List (Nat × CutSpec) := [(1003, ⟨[(0, .any), (4, .any), (5, .any)], []⟩)]
def plans_line_Strip : List (Nat × Plan) := []
noncomputable def cx_line_Strip (k : Nat) : Ctx := ⟨tyT, cuts_line_Strip, C_line_Strip k, [], [], plans_line_Strip, @SH⟩
noncomputable def code_line_Strip : Code := Tryd.f36.body.getD .skip
def st_line_Strip_1003 (s0 : (List UInt8)) (s1 : Int) (s2 : Int) : St := ⟨mkT [(0, .v .str s0), (4, .v (.int .i64) s1), (5, .v (.int .i64) s2)], mkH []⟩
noncomputable def B_line_Strip_1003 (k : Nat) {R : Type} (E1003 : ((List UInt8) → Int → Int → Option R)) (s0 : (List UInt8)) (s1 : Int) (s2 : Int) (K : ((List UInt8) → Bool → Option R)) : Option R := (@cond (@Option R) (@Decidable.decide (@LT.lt Int Int.instLTInt s2 (@Nat.cast Int instNatCastInt (@List.length UInt8 s0))) (@Int.decLt s2 (@Nat.cast Int instNatCastInt (@List.length UInt8 s0)))) (@cond (@Option R) (@Bool.or (@Bool.not (@BEq.beq (@Kd.T Kd.bool) (@instBEqOfDecidableEq (@Kd.T Kd.bool) @instDecidableEqBool) (@Decidable.decide (@GT.gt Int Int.instLTInt s2 (0 : Int)) (@Int.decLt (0 : Int) s2)) Bool.true)) (@inb (@Go.IntKind.wrap Go.IntKind.i64 (@HSub.hSub Int Int Int (@instHSub Int @Int.instSub) s2 (1 : Int))) (@Nat.cast Int instNatCastInt (@List.length UInt8 s0)))) (@cond (@Option R) (@cond (@Kd.T Kd.bool) (@Decidable.decide (@GT.gt Int Int.instLTInt s2 (0 : Int)) (@Int.decLt (0 : Int) s2)) (@bne Int (@instBEqOfDecidableEq Int @Int.instDecidableEq) (@Nat.cast Int instNatCastInt (@UInt8.toNat (@List.getD UInt8 s0 (@Int.toNat (@Go.IntKind.wrap Go.IntKind.i64 (@HSub.hSub Int Int Int (@instHSub Int @Int.instSub) s2 (1 : Int)))) (0 : UInt8)))) (32 : Int)) Bool.false) (E1003 s0 s1 (@Go.IntKind.wrap Go.IntKind.i64 (@HAdd.hAdd Int Int Int (@instHAdd Int @Int.instAdd) s2 (1 : Int)))) (@cond (@Option R) (@inb s2 (@Nat.cast Int instNatCastInt (@List.length UInt8 s0))) (@cond (@Option R) (@BEq.beq Int (@instBEqOfDecidableEq Int @Int.instDecidableEq) (@Nat.cast Int instNatCastInt (@UInt8.toNat (@List.getD UInt8 s0 (@Int.toNat s2) (0 : UInt8)))) (35 : Int)) (@cond (@Option R) (@bnd (0 : Int) s2 (@Nat.cast Int instNatCastInt (@List.length UInt8 s0))) (@F_strings_TrimRight k R (@cut UInt8 s0 (0 : Int) s2) (32 : UInt8) (fun (y7 : (@List UInt8)) => (K y7 Bool.true))) (@Option.none R)) (@cond (@Option R) (@BEq.beq Int (@instBEqOfDecidableEq Int @Int.instDecidableEq) (@Nat.cast Int instNatCastInt (@UInt8.toNat (@List.getD UInt8 s0 (@Int.toNat s2) (0 : UInt8)))) (39 : Int)) (@F_line_quoted k R s0 s2 (fun (y7 : Int) => (fun (y8 : Bool) => (@cond (@Option R) (@Bool.not y8) (K (@Array.toList UInt8 (@ByteArray.data (@ByteArray.mk (@List.toArray UInt8 [])))) Bool.false) (E1003 s0 s1 (@Go.IntKind.wrap Go.IntKind.i64 (@HAdd.hAdd Int Int Int (@instHAdd Int @Int.instAdd) y7 (1 : Int)))))))) (@cond (@Option R) (@BEq.beq Int (@instBEqOfDecidableEq Int @Int.instDecidableEq) (@Nat.cast Int instNatCastInt (@UInt8.toNat (@List.getD UInt8 s0 (@Int.toNat s2) (0 : UInt8)))) (34 : Int)) (@F_line_quoted k R s0 s2 (fun (y7 : Int) => (fun (y8 : Bool) => (@cond (@Option R) (@Bool.not y8) (K (@Array.toList UInt8 (@ByteArray.data (@ByteArray.mk (@List.toArray UInt8 [])))) Bool.false) (E1003 s0 s1 (@Go.IntKind.wrap Go.IntKind.i64 (@HAdd.hAdd Int Int Int (@instHAdd Int @Int.instAdd) y7 (1 : Int)))))))) (E1003 s0 s1 (@Go.IntKind.wrap Go.IntKind.i64 (@HAdd.hAdd Int Int Int (@instHAdd Int @Int.instAdd) s2 (1 : Int))))))) (@Option.none R))) (@Option.none R)) (@cond (@Option R) (@bnd (0 : Int) s1 (@Nat.cast Int instNatCastInt (@List.length UInt8 s0))) (@F_strings_TrimRight k R (@cut UInt8 s0 (0 : Int) s1) (32 : UInt8) (fun (y7 : (@List UInt8)) => (K y7 Bool.true))) (@Option.none R)))
theorem B_line_Strip_1003_eq (k : Nat) {R : Type} (I : Nat → St → Option R) (s0 : (List UInt8)) (s1 : Int) (s2 : Int) (K : ((List UInt8) → Bool → Option R)) : execK (cx_line_Strip k) k (at_ [1, 0, 1, 1, 0, 1, 0, 0] code_line_Strip) (st_line_Strip_1003 s0 s1 s2) (konts (cx_line_Strip k) k I [1, 0, 1, 1, 0, 1, 0, 0] code_line_Strip (outK (cx_line_Strip k) sp_line_Strip [.tmp 2, .tmp 3] (wrap_line_Strip K))) = B_line_Strip_1003 k (fun s0 s1 s2 => I 1003 (st_line_Strip_1003 s0 s1 s2)) s0 s1 s2 K := by kernel_rfl
noncomputable def A_line_Strip (k : Nat) {R : Type} (E1003 : ((List UInt8) → Int → Int → Option R)) (x0 : (List UInt8)) (K : ((List UInt8) → Bool → Option R)) : Option R := (E1003 x0 (@Nat.cast Int instNatCastInt (@List.length UInt8 x0)) (0 : Int))
theorem A_line_Strip_eq (k : Nat) {R : Type} (I : Nat → St → Option R) (x0 : (List UInt8)) (K : ((List UInt8) → Bool → Option R)) : fnK (cx_line_Strip k) k code_line_Strip 47 [.tmp 2, .tmp 3] sp_line_Strip [.v .str x0] [] (wrap_line_Strip K) = A_line_Strip k (fun s0 s1 s2 => iter (cx_line_Strip k).pv (look (cx_line_Strip k).cuts 1003) (execK (cx_line_Strip k) k (at_ [1, 0, 1, 1, 0, 1, 0, 0] code_line_Strip)) k (st_line_Strip_1003 s0 s1 s2) (konts (cx_line_Strip k) k I [1, 0, 1, 1, 0, 1, 0] code_line_Strip (outK (cx_line_Strip k) sp_line_Strip [.tmp 2, .tmp 3] (wrap_line_Strip K)))) x0 K := by kernel_rfl
noncomputable def L_line_Strip_1003 (k : Nat) {R : Type}  : Nat → (List UInt8) → Int → Int → ((List UInt8) → Bool → Option R) → Option R
  | 0, _, _, _, _ => none
  | n + 1, s0, s1, s2, K => B_line_Strip_1003 k (fun s0 s1 s2 => L_line_Strip_1003 k  n s0 s1 s2 K) s0 s1 s2 K
theorem L_line_Strip_1003_eq (k : Nat) {R : Type} (I : Nat → St → Option R) (K : ((List UInt8) → Bool → Option R)) : ∀ (n : Nat) (s0 : (List UInt8)) (s1 : Int) (s2 : Int), iter (cx_line_Strip k).pv (look (cx_line_Strip k).cuts 1003) (execK (cx_line_Strip k) k (at_ [1, 0, 1, 1, 0, 1, 0, 0] code_line_Strip)) n (st_line_Strip_1003 s0 s1 s2) (konts (cx_line_Strip k) k I [1, 0, 1, 1, 0, 1, 0] code_line_Strip (outK (cx_line_Strip k) sp_line_Strip [.tmp 2, .tmp 3] (wrap_line_Strip K))) = L_line_Strip_1003 k  n s0 s1 s2 K := by
  intro n
  induction n with
  | zero => intros; rfl
  | succ n ih =>
    intro s0 s1 s2
    let I' : Nat → St → Option R := fun id s => bif Nat.beq id 1003 then iter (cx_line_Strip k).pv (look (cx_line_Strip k).cuts 1003) (execK (cx_line_Strip k) k (at_ [1, 0, 1, 1, 0, 1, 0, 0] code_line_Strip)) n s (konts (cx_line_Strip k) k I [1, 0, 1, 1, 0, 1, 0] code_line_Strip (outK (cx_line_Strip k) sp_line_Strip [.tmp 2, .tmp 3] (wrap_line_Strip K))) else I id s
    have e := B_line_Strip_1003_eq k I' s0 s1 s2 K
    have h1003 : (fun s0 s1 s2 => I' 1003 (st_line_Strip_1003 s0 s1 s2)) = (fun s0 s1 s2 => L_line_Strip_1003 k  n s0 s1 s2 K) := by funext s0 s1 s2; exact ih s0 s1 s2
    refine Eq.trans (?_ : _ = _) (e.trans (Eq.trans ((congrArg ((fun E1003 => B_line_Strip_1003 k E1003 s0 s1 s2 K)) h1003)) (by rw [L_line_Strip_1003])))
    rfl
noncomputable def F_line_Strip (k : Nat) {R : Type} (x0 : (List UInt8)) (K : ((List UInt8) → Bool → Option R)) : Option R := A_line_Strip k (fun s0 s1 s2 => L_line_Strip_1003 k k s0 s1 s2 K) x0 K
theorem F_line_Strip_eq (k : Nat) {R : Type} (x0 : (List UInt8)) (K : ((List UInt8) → Bool → Option R)) : fnK (cx_line_Strip k) k code_line_Strip 47 [.tmp 2, .tmp 3] sp_line_Strip [.v .str x0] [] (wrap_line_Strip K) = F_line_Strip k x0 K := by
  let I : Nat → St → Option R := fun _ _ => none
  have h1003 : (fun s0 s1 s2 => iter (cx_line_Strip k).pv (look (cx_line_Strip k).cuts 1003) (execK (cx_line_Strip k) k (at_ [1, 0, 1, 1, 0, 1, 0, 0] code_line_Strip)) k (st_line_Strip_1003 s0 s1 s2) (konts (cx_line_Strip k) k I [1, 0, 1, 1, 0, 1, 0] code_line_Strip (outK (cx_line_Strip k) sp_line_Strip [.tmp 2, .tmp 3] (wrap_line_Strip K)))) = (fun s0 s1 s2 => L_line_Strip_1003 k k s0 s1 s2 K) := by funext s0 s1 s2; exact L_line_Strip_1003_eq k I K k s0 s1 s2
  exact (A_line_Strip_eq k I x0 K).trans (congrArg ((fun E1003 => A_line_Strip k E1003 x0 K)) h1003)
noncomputable def run_line_Strip (k : Nat) {R : Type} : List PV → List (Nm × HObj) → (Out → Option R) → Option R
  | [.v .str x0], [], K => F_line_Strip k x0 (fun y0 y1 => K (.ret [.v .str y0, .v .bool y1] []))
  | _, _, _ => none
theorem C_line_Strip_ok (k : Nat) : (C_line_Strip k).Ok Tryd.prog := by
  intro f ps hp R K r h
  unfold C_line_Strip at h
  simp only at h
  cases hb52 : Nat.beq f 52 with
  | true => rw [hb52, cond_true] at h; rw [Nat.eq_of_beq_eq_true hb52]; exact D_line_quoted k h
  | false =>
  rw [hb52, cond_false] at h
  cases hb53 : Nat.beq f 53 with
  | true => rw [hb53, cond_true] at h; rw [Nat.eq_of_beq_eq_true hb53]; exact D_strings_TrimRight k h
  | false =>
  rw [hb53, cond_false] at h
  cases h
theorem D_line_Strip (k : Nat) {ps : List PV} {hp : List (Nm × HObj)} {R : Type} {K : Out → Option R} {r : R} (h : run_line_Strip k ps hp K = some r) : DoesTo Tryd.prog 36 ps hp fun out => K out = some r := by
  unfold run_line_Strip at h
  split at h
  · rw [← F_line_Strip_eq] at h
    have := fn_ok (P := Tryd.prog) (cx := cx_line_Strip k) (f := 36) ⟨tyT_ok, C_line_Strip_ok k, fun _ _ => rfl⟩ (by kernel_rfl) (fn := Tryd.f36) (c := code_line_Strip) (by kernel_rfl) (by kernel_rfl) (by kernel_rfl) (rs := [.tmp 2, .tmp 3]) (by kernel_rfl) (by kernel_rfl) h
    exact this.mono fun out ho => by
      unfold wrap_line_Strip at ho
      split at ho <;> first | exact ho | cases ho
  · cases h
end Go.Proofs.YtpfbdepoammjmaaDoor.Pvm

set_option maxRecDepth 1000000
set_option maxHeartbeats 0
namespace Go.Proofs.YtpfbdepoammjmaaDoor.Pvm
open Go Go.Proofs
def sig_line_odd : List LS := [.any]
noncomputable def C_line_odd (k : Nat) : CTab := ⟨fun f => [], fun f {_} ps hp K => none⟩
def wrap_line_odd {R : Type} (K : (Bool → Option R)) : Out → Option R
  | .ret [.v .bool y0] [] => K y0
  | _ => none
def sp_line_odd : RetSpec := ⟨[.any], [], []⟩
def cuts_line_odd : List (Nat × CutSpec) := []
def plans_line_odd : List (Nat × Plan) := []
noncomputable def cx_line_odd (k : Nat) : Ctx := ⟨tyT, cuts_line_odd, C_line_odd k, [], [], plans_line_odd, @SH⟩
noncomputable def code_line_odd : Code := Tryd.f34.body.getD .skip
noncomputable def A_line_odd (k : Nat) {R : Type}  (x0 : Int) (K : (Bool → Option R)) : Option R := (K (@cond (@Kd.T Kd.bool) (@cond (@Kd.T Kd.bool) (@Decidable.decide (@GE.ge Int Int.instLEInt x0 (0 : Int)) (@Int.decLe (0 : Int) x0)) (@Decidable.decide (@LT.lt Int Int.instLTInt x0 (32 : Int)) (@Int.decLt x0 (32 : Int))) Bool.false) Bool.true (@BEq.beq Int (@instBEqOfDecidableEq Int @Int.instDecidableEq) x0 (127 : Int))))
theorem A_line_odd_eq (k : Nat) {R : Type} (I : Nat → St → Option R) (x0 : Int) (K : (Bool → Option R)) : fnK (cx_line_odd k) k code_line_odd 13 [.tmp 2] sp_line_odd [.v (.int .i32) x0] [] (wrap_line_odd K) = A_line_odd k  x0 K := by kernel_rfl
noncomputable def F_line_odd (k : Nat) {R : Type} (x0 : Int) (K : (Bool → Option R)) : Option R := A_line_odd k  x0 K
theorem F_line_odd_eq (k : Nat) {R : Type} (x0 : Int) (K : (Bool → Option R)) : fnK (cx_line_odd k) k code_line_odd 13 [.tmp 2] sp_line_odd [.v (.int .i32) x0] [] (wrap_line_odd K) = F_line_odd k x0 K := by
  exact A_line_odd_eq k (fun _ _ => none) x0 K
noncomputable def run_line_odd (k : Nat) {R : Type} : List PV → List (Nm × HObj) → (Out → Option R) → Option R
  | [.v (.int .i32) x0], [], K => F_line_odd k x0 (fun y0 => K (.ret [.v .bool y0] []))
  | _, _, _ => none
theorem C_line_odd_ok (k : Nat) : (C_line_odd k).Ok Tryd.prog := by
  intro f ps hp R K r h
  unfold C_line_odd at h
  simp only at h
  cases h
theorem D_line_odd (k : Nat) {ps : List PV} {hp : List (Nm × HObj)} {R : Type} {K : Out → Option R} {r : R} (h : run_line_odd k ps hp K = some r) : DoesTo Tryd.prog 34 ps hp fun out => K out = some r := by
  unfold run_line_odd at h
  split at h
  · rw [← F_line_odd_eq] at h
    have := fn_ok (P := Tryd.prog) (cx := cx_line_odd k) (f := 34) ⟨tyT_ok, C_line_odd_ok k, fun _ _ => rfl⟩ (by kernel_rfl) (fn := Tryd.f34) (c := code_line_odd) (by kernel_rfl) (by kernel_rfl) (by kernel_rfl) (rs := [.tmp 2]) (by kernel_rfl) (by kernel_rfl) h
    exact this.mono fun out ho => by
      unfold wrap_line_odd at ho
      split at ho <;> first | exact ho | cases ho
  · cases h
end Go.Proofs.YtpfbdepoammjmaaDoor.Pvm

set_option maxRecDepth 1000000
namespace Go.Proofs
open Go.Shelf
def Tryd.laysLaysGwn15_ren : Go.Shelf.Ren := ⟨fun | 15 => 33 | 20 => 47 | n => n, fun | 9 => 9 | 23 => 81 | 3 => 3 | 4 => 4 | 0 => 0 | 21 => 21 | n => n, fun | n => n⟩
theorem Tryd.laysLaysGwn15 : Go.Proofs.LaysGw.n15 Tryd.prog Tryd.laysLaysGwn15_ren := {
  mixed := by kernel_rfl
  f15 := Tryd.func33.trans (congrArg some (by kernel_rfl))
  f20 := Tryd.func47.trans (congrArg some (by kernel_rfl))
  t0 := Tryd.underlying0
  a0 := Tryd.isAgg0
  z0 := Tryd.sizeOf0
  v0 := Tryd.zeroValue0
  i0 := by kernel_rfl
  t3 := Tryd.underlying3
  a3 := Tryd.isAgg3
  z3 := Tryd.sizeOf3
  v3 := Tryd.zeroValue3
  i3 := by kernel_rfl
  t4 := Tryd.underlying4
  a4 := Tryd.isAgg4
  z4 := Tryd.sizeOf4
  v4 := Tryd.zeroValue4
  i4 := by kernel_rfl
  t9 := Tryd.underlying9
  a9 := Tryd.isAgg9
  z9 := Tryd.sizeOf9
  v9 := Tryd.zeroValue9
  i9 := by kernel_rfl
  t21 := Tryd.underlying21
  a21 := Tryd.isAgg21
  z21 := Tryd.sizeOf21
  v21 := Tryd.zeroValue21
  i21 := by kernel_rfl
  t23 := Tryd.underlying81
  a23 := Tryd.isAgg81
  z23 := Tryd.sizeOf81
  v23 := Tryd.zeroValue81
  i23 := by kernel_rfl }
end Go.Proofs
namespace Go.Proofs.YtpfbdepoammjmaaDoor.Pvm
open Go Go.Proofs Go.RowKit Go.Shelf
def oddP (n : Nat) : Bool := cond (cond (decide ((n : Int) ≥ 0)) (decide ((n : Int) < 32)) false) true ((n : Int) == 127)
def idxOdd (s : List UInt8) : Int := Lib.idxFunc oddP true ⟨s.toArray⟩
def sig_strings_IndexFunc : List LS := [.any, .clo []]
def F_strings_IndexFunc (k : Nat) {R : Type} (x0 : List UInt8) (K : Int → Option R) : Option R := K (idxOdd x0)
def run_strings_IndexFunc (k : Nat) {R : Type} : List PV → List (Nm × HObj) → (Out → Option R) → Option R
  | [.v .str x0, .clo 34 []], [], K => F_strings_IndexFunc k x0 (fun y0 => K (.ret [.v (.int .i64) y0] []))
  | _, _, _ => none
theorem odd_grows (w : World) : PredGrows Tryd.prog 34 #[] oddP w := by
  intro W x hx hb
  exact law_calls (P := Tryd.prog) (f := 34) (fn := Tryd.f34) (c := Tryd.f34.body.getD .skip) (by kernel_rfl) (by kernel_rfl) (by kernel_rfl) (ps := [.v (.int .i32) (x : Int)]) (b := oddP x)
    (D_line_odd 0 (K := lawK) (r := oddP x) rfl) (vals := [.int .i32 (x : Int)]) ⟨_, [], rfl, rfl, rfl⟩
theorem D_strings_IndexFunc (k : Nat) {ps : List PV} {hp : List (Nm × HObj)} {R : Type} {K : Out → Option R} {r : R} (h : run_strings_IndexFunc k ps hp K = some r) : DoesTo Tryd.prog 33 ps hp fun out => K out = some r := by
  unfold run_strings_IndexFunc at h
  split at h
  · next x0 =>
    intro G w vals hr obj dis
    obtain ⟨v0, l0, rfl, h0, v1, l1, rfl, h1, rfl⟩ := hr
    have e0 : v0 = .string ⟨x0.toArray⟩ := by simpa [RV, RD] using h0
    obtain ⟨vs, e1, hvs⟩ := h1
    obtain rfl : vs = [] := hvs
    subst e0 e1
    have c := Any.strings_IndexFunc_grows Tryd.laysLaysGwn15 34 #[] (enters (P := Tryd.prog) (fn := Tryd.f34) (c := Tryd.f34.body.getD .skip) (by kernel_rfl) (by kernel_rfl) (by kernel_rfl)) oddP ⟨x0.toArray⟩ w (odd_grows w)
    show Does _ _ #[_, _] _ _
    unfold Does
    rw [enters (P := Tryd.prog) (fn := Tryd.f33) (c := Tryd.f33.body.getD .skip) (by kernel_rfl) (by kernel_rfl) (by kernel_rfl)]
    refine Calls.mono c fun e w' hh => ?_
    obtain ⟨rfl, b⟩ := hh
    exact ⟨.ret [.v (.int .i64) (idxOdd x0)] [], h, G, ⟨_, rfl, rfl⟩, fin_below b⟩
  · cases h
end Go.Proofs.YtpfbdepoammjmaaDoor.Pvm

set_option maxRecDepth 1000000
set_option maxHeartbeats 0
namespace Go.Proofs.YtpfbdepoammjmaaDoor.Pvm
open Go Go.Proofs
def sig_strings_trimLeftByte : List LS := [.any, .any]
noncomputable def C_strings_trimLeftByte (k : Nat) : CTab := ⟨fun f => [], fun f {_} ps hp K => none⟩
def wrap_strings_trimLeftByte {R : Type} (K : ((List UInt8) → Option R)) : Out → Option R
  | .ret [.v .str y0] [] => K y0
  | _ => none
def sp_strings_trimLeftByte : RetSpec := ⟨[.any], [], []⟩
def cuts_strings_trimLeftByte : List (Nat × CutSpec) := [(1001, ⟨[(0, .any), (1, .any)], []⟩)]
def plans_strings_trimLeftByte : List (Nat × Plan) := []
noncomputable def cx_strings_trimLeftByte (k : Nat) : Ctx := ⟨tyT, cuts_strings_trimLeftByte, C_strings_trimLeftByte k, [], [], plans_strings_trimLeftByte, @SH⟩
noncomputable def code_strings_trimLeftByte : Code := Tryd.f48.body.getD .skip
def st_strings_trimLeftByte_1001 (s0 : (List UInt8)) (s1 : Int) : St := ⟨mkT [(0, .v .str s0), (1, .v (.int .u8) s1)], mkH []⟩
noncomputable def B_strings_trimLeftByte_1001 (k : Nat) {R : Type} (E1001 : ((List UInt8) → Int → Option R)) (s0 : (List UInt8)) (s1 : Int) (K : ((List UInt8) → Option R)) : Option R := (@cond (@Option R) (@Bool.or (@Bool.not (@BEq.beq (@Kd.T Kd.bool) (@instBEqOfDecidableEq (@Kd.T Kd.bool) @instDecidableEqBool) (@Decidable.decide (@GT.gt Int Int.instLTInt (@Nat.cast Int instNatCastInt (@List.length UInt8 s0)) (0 : Int)) (@Int.decLt (0 : Int) (@Nat.cast Int instNatCastInt (@List.length UInt8 s0)))) Bool.true)) (@inb (0 : Int) (@Nat.cast Int instNatCastInt (@List.length UInt8 s0)))) (@cond (@Option R) (@cond (@Kd.T Kd.bool) (@Decidable.decide (@GT.gt Int Int.instLTInt (@Nat.cast Int instNatCastInt (@List.length UInt8 s0)) (0 : Int)) (@Int.decLt (0 : Int) (@Nat.cast Int instNatCastInt (@List.length UInt8 s0)))) (@BEq.beq Int (@instBEqOfDecidableEq Int @Int.instDecidableEq) (@Nat.cast Int instNatCastInt (@UInt8.toNat (@List.getD UInt8 s0 (@Int.toNat (0 : Int)) (0 : UInt8)))) s1) Bool.false) (@cond (@Option R) (@bnd (1 : Int) (@Nat.cast Int instNatCastInt (@List.length UInt8 s0)) (@Nat.cast Int instNatCastInt (@List.length UInt8 s0))) (E1001 (@cut UInt8 s0 (1 : Int) (@Nat.cast Int instNatCastInt (@List.length UInt8 s0))) s1) (@Option.none R)) (K s0)) (@Option.none R))
theorem B_strings_trimLeftByte_1001_eq (k : Nat) {R : Type} (I : Nat → St → Option R) (s0 : (List UInt8)) (s1 : Int) (K : ((List UInt8) → Option R)) : execK (cx_strings_trimLeftByte k) k (at_ [1, 0, 0, 0] code_strings_trimLeftByte) (st_strings_trimLeftByte_1001 s0 s1) (konts (cx_strings_trimLeftByte k) k I [1, 0, 0, 0] code_strings_trimLeftByte (outK (cx_strings_trimLeftByte k) sp_strings_trimLeftByte [.tmp 4] (wrap_strings_trimLeftByte K))) = B_strings_trimLeftByte_1001 k (fun s0 s1 => I 1001 (st_strings_trimLeftByte_1001 s0 s1)) s0 s1 K := by kernel_rfl
noncomputable def A_strings_trimLeftByte (k : Nat) {R : Type} (E1001 : ((List UInt8) → Int → Option R)) (x0 : (List UInt8)) (x1 : Int) (K : ((List UInt8) → Option R)) : Option R := (E1001 x0 x1)
theorem A_strings_trimLeftByte_eq (k : Nat) {R : Type} (I : Nat → St → Option R) (x0 : (List UInt8)) (x1 : Int) (K : ((List UInt8) → Option R)) : fnK (cx_strings_trimLeftByte k) k code_strings_trimLeftByte 17 [.tmp 4] sp_strings_trimLeftByte [.v .str x0, .v (.int .u8) x1] [] (wrap_strings_trimLeftByte K) = A_strings_trimLeftByte k (fun s0 s1 => iter (cx_strings_trimLeftByte k).pv (look (cx_strings_trimLeftByte k).cuts 1001) (execK (cx_strings_trimLeftByte k) k (at_ [1, 0, 0, 0] code_strings_trimLeftByte)) k (st_strings_trimLeftByte_1001 s0 s1) (konts (cx_strings_trimLeftByte k) k I [1, 0, 0] code_strings_trimLeftByte (outK (cx_strings_trimLeftByte k) sp_strings_trimLeftByte [.tmp 4] (wrap_strings_trimLeftByte K)))) x0 x1 K := by kernel_rfl
noncomputable def L_strings_trimLeftByte_1001 (k : Nat) {R : Type}  : Nat → (List UInt8) → Int → ((List UInt8) → Option R) → Option R
  | 0, _, _, _ => none
  | n + 1, s0, s1, K => B_strings_trimLeftByte_1001 k (fun s0 s1 => L_strings_trimLeftByte_1001 k  n s0 s1 K) s0 s1 K
theorem L_strings_trimLeftByte_1001_eq (k : Nat) {R : Type} (I : Nat → St → Option R) (K : ((List UInt8) → Option R)) : ∀ (n : Nat) (s0 : (List UInt8)) (s1 : Int), iter (cx_strings_trimLeftByte k).pv (look (cx_strings_trimLeftByte k).cuts 1001) (execK (cx_strings_trimLeftByte k) k (at_ [1, 0, 0, 0] code_strings_trimLeftByte)) n (st_strings_trimLeftByte_1001 s0 s1) (konts (cx_strings_trimLeftByte k) k I [1, 0, 0] code_strings_trimLeftByte (outK (cx_strings_trimLeftByte k) sp_strings_trimLeftByte [.tmp 4] (wrap_strings_trimLeftByte K))) = L_strings_trimLeftByte_1001 k  n s0 s1 K := by
  intro n
  induction n with
  | zero => intros; rfl
  | succ n ih =>
    intro s0 s1
    let I' : Nat → St → Option R := fun id s => bif Nat.beq id 1001 then iter (cx_strings_trimLeftByte k).pv (look (cx_strings_trimLeftByte k).cuts 1001) (execK (cx_strings_trimLeftByte k) k (at_ [1, 0, 0, 0] code_strings_trimLeftByte)) n s (konts (cx_strings_trimLeftByte k) k I [1, 0, 0] code_strings_trimLeftByte (outK (cx_strings_trimLeftByte k) sp_strings_trimLeftByte [.tmp 4] (wrap_strings_trimLeftByte K))) else I id s
    have e := B_strings_trimLeftByte_1001_eq k I' s0 s1 K
    have h1001 : (fun s0 s1 => I' 1001 (st_strings_trimLeftByte_1001 s0 s1)) = (fun s0 s1 => L_strings_trimLeftByte_1001 k  n s0 s1 K) := by funext s0 s1; exact ih s0 s1
    refine Eq.trans (?_ : _ = _) (e.trans (Eq.trans ((congrArg ((fun E1001 => B_strings_trimLeftByte_1001 k E1001 s0 s1 K)) h1001)) (by rw [L_strings_trimLeftByte_1001])))
    rfl
noncomputable def F_strings_trimLeftByte (k : Nat) {R : Type} (x0 : (List UInt8)) (x1 : Int) (K : ((List UInt8) → Option R)) : Option R := A_strings_trimLeftByte k (fun s0 s1 => L_strings_trimLeftByte_1001 k k s0 s1 K) x0 x1 K
theorem F_strings_trimLeftByte_eq (k : Nat) {R : Type} (x0 : (List UInt8)) (x1 : Int) (K : ((List UInt8) → Option R)) : fnK (cx_strings_trimLeftByte k) k code_strings_trimLeftByte 17 [.tmp 4] sp_strings_trimLeftByte [.v .str x0, .v (.int .u8) x1] [] (wrap_strings_trimLeftByte K) = F_strings_trimLeftByte k x0 x1 K := by
  let I : Nat → St → Option R := fun _ _ => none
  have h1001 : (fun s0 s1 => iter (cx_strings_trimLeftByte k).pv (look (cx_strings_trimLeftByte k).cuts 1001) (execK (cx_strings_trimLeftByte k) k (at_ [1, 0, 0, 0] code_strings_trimLeftByte)) k (st_strings_trimLeftByte_1001 s0 s1) (konts (cx_strings_trimLeftByte k) k I [1, 0, 0] code_strings_trimLeftByte (outK (cx_strings_trimLeftByte k) sp_strings_trimLeftByte [.tmp 4] (wrap_strings_trimLeftByte K)))) = (fun s0 s1 => L_strings_trimLeftByte_1001 k k s0 s1 K) := by funext s0 s1; exact L_strings_trimLeftByte_1001_eq k I K k s0 s1
  exact (A_strings_trimLeftByte_eq k I x0 x1 K).trans (congrArg ((fun E1001 => A_strings_trimLeftByte k E1001 x0 x1 K)) h1001)
noncomputable def run_strings_trimLeftByte (k : Nat) {R : Type} : List PV → List (Nm × HObj) → (Out → Option R) → Option R
  | [.v .str x0, .v (.int .u8) x1], [], K => F_strings_trimLeftByte k x0 x1 (fun y0 => K (.ret [.v .str y0] []))
  | _, _, _ => none
theorem C_strings_trimLeftByte_ok (k : Nat) : (C_strings_trimLeftByte k).Ok Tryd.prog := by
  intro f ps hp R K r h
  unfold C_strings_trimLeftByte at h
  simp only at h
  cases h
theorem D_strings_trimLeftByte (k : Nat) {ps : List PV} {hp : List (Nm × HObj)} {R : Type} {K : Out → Option R} {r : R} (h : run_strings_trimLeftByte k ps hp K = some r) : DoesTo Tryd.prog 48 ps hp fun out => K out = some r := by
  unfold run_strings_trimLeftByte at h
  split at h
  · rw [← F_strings_trimLeftByte_eq] at h
    have := fn_ok (P := Tryd.prog) (cx := cx_strings_trimLeftByte k) (f := 48) ⟨tyT_ok, C_strings_trimLeftByte_ok k, fun _ _ => rfl⟩ (by kernel_rfl) (fn := Tryd.f48) (c := code_strings_trimLeftByte) (by kernel_rfl) (by kernel_rfl) (by kernel_rfl) (rs := [.tmp 4]) (by kernel_rfl) (by kernel_rfl) h
    exact this.mono fun out ho => by
      unfold wrap_strings_trimLeftByte at ho
      split at ho <;> first | exact ho | cases ho
  · cases h
end Go.Proofs.YtpfbdepoammjmaaDoor.Pvm

set_option maxRecDepth 1000000
set_option maxHeartbeats 0
namespace Go.Proofs.YtpfbdepoammjmaaDoor.Pvm
open Go Go.Proofs
def sig_strings_TrimLeft : List LS := [.any, .any]
noncomputable def C_strings_TrimLeft (k : Nat) : CTab := ⟨fun f => bif Nat.beq f 48 then sig_strings_trimLeftByte else [], fun f {_} ps hp K => bif Nat.beq f 48 then run_strings_trimLeftByte k ps hp K else none⟩
def wrap_strings_TrimLeft {R : Type} (K : ((List UInt8) → Option R)) : Out → Option R
  | .ret [.v .str y0] [] => K y0
  | _ => none
def sp_strings_TrimLeft : RetSpec := ⟨[.any], [], []⟩
def cuts_strings_TrimLeft : List (Nat × CutSpec) := []
def plans_strings_TrimLeft : List (Nat × Plan) := []
noncomputable def cx_strings_TrimLeft (k : Nat) : Ctx := ⟨tyT, cuts_strings_TrimLeft, C_strings_TrimLeft k, [], [], plans_strings_TrimLeft, @SH⟩
noncomputable def code_strings_TrimLeft : Code := Tryd.f35.body.getD .skip
noncomputable def A_strings_TrimLeft (k : Nat) {R : Type}  (x0 : (List UInt8)) (x1 : UInt8) (K : ((List UInt8) → Option R)) : Option R := (@cond (@Option R) (@cond (@Kd.T Kd.bool) (@BEq.beq (@List UInt8) (@List.instBEq UInt8 (@instBEqOfDecidableEq UInt8 @instDecidableEqUInt8)) x0 (@Array.toList UInt8 (@ByteArray.data (@ByteArray.mk (@List.toArray UInt8 []))))) Bool.true (@BEq.beq (@List UInt8) (@List.instBEq UInt8 (@instBEqOfDecidableEq UInt8 @instDecidableEqUInt8)) (x1 :: []) (@Array.toList UInt8 (@ByteArray.data (@ByteArray.mk (@List.toArray UInt8 [])))))) (K x0) (@cond (@Option R) (@cond (@Kd.T Kd.bool) (@BEq.beq Int (@instBEqOfDecidableEq Int @Int.instDecidableEq) (@Nat.cast Int instNatCastInt (@List.length UInt8 (x1 :: []))) (1 : Int)) (@Decidable.decide (@LT.lt Int Int.instLTInt (@Nat.cast Int instNatCastInt (@UInt8.toNat (@List.getD UInt8 (x1 :: []) (@Int.toNat (0 : Int)) (0 : UInt8)))) (128 : Int)) (@Int.decLt (@Nat.cast Int instNatCastInt (@UInt8.toNat (@List.getD UInt8 (x1 :: []) (@Int.toNat (0 : Int)) (0 : UInt8)))) (128 : Int))) Bool.false) (@F_strings_trimLeftByte k R x0 (@Nat.cast Int instNatCastInt (@UInt8.toNat (@List.getD UInt8 (x1 :: []) (@Int.toNat (0 : Int)) (0 : UInt8)))) (fun (y5 : (@List UInt8)) => (K y5))) (@Option.none R)))
theorem A_strings_TrimLeft_eq (k : Nat) {R : Type} (I : Nat → St → Option R) (x0 : (List UInt8)) (x1 : UInt8) (K : ((List UInt8) → Option R)) : fnK (cx_strings_TrimLeft k) k code_strings_TrimLeft 37 [.tmp 4] sp_strings_TrimLeft [.v .str x0, .v .str [x1]] [] (wrap_strings_TrimLeft K) = A_strings_TrimLeft k  x0 x1 K := by kernel_rfl
noncomputable def F_strings_TrimLeft (k : Nat) {R : Type} (x0 : (List UInt8)) (x1 : UInt8) (K : ((List UInt8) → Option R)) : Option R := A_strings_TrimLeft k  x0 x1 K
theorem F_strings_TrimLeft_eq (k : Nat) {R : Type} (x0 : (List UInt8)) (x1 : UInt8) (K : ((List UInt8) → Option R)) : fnK (cx_strings_TrimLeft k) k code_strings_TrimLeft 37 [.tmp 4] sp_strings_TrimLeft [.v .str x0, .v .str [x1]] [] (wrap_strings_TrimLeft K) = F_strings_TrimLeft k x0 x1 K := by
  exact A_strings_TrimLeft_eq k (fun _ _ => none) x0 x1 K
noncomputable def run_strings_TrimLeft (k : Nat) {R : Type} : List PV → List (Nm × HObj) → (Out → Option R) → Option R
  | [.v .str x0, .v .str [x1]], [], K => F_strings_TrimLeft k x0 x1 (fun y0 => K (.ret [.v .str y0] []))
  | _, _, _ => none
theorem C_strings_TrimLeft_ok (k : Nat) : (C_strings_TrimLeft k).Ok Tryd.prog := by
  intro f ps hp R K r h
  unfold C_strings_TrimLeft at h
  simp only at h
  cases hb48 : Nat.beq f 48 with
  | true => rw [hb48, cond_true] at h; rw [Nat.eq_of_beq_eq_true hb48]; exact D_strings_trimLeftByte k h
  | false =>
  rw [hb48, cond_false] at h
  cases h
theorem D_strings_TrimLeft (k : Nat) {ps : List PV} {hp : List (Nm × HObj)} {R : Type} {K : Out → Option R} {r : R} (h : run_strings_TrimLeft k ps hp K = some r) : DoesTo Tryd.prog 35 ps hp fun out => K out = some r := by
  unfold run_strings_TrimLeft at h
  split at h
  · rw [← F_strings_TrimLeft_eq] at h
    have := fn_ok (P := Tryd.prog) (cx := cx_strings_TrimLeft k) (f := 35) ⟨tyT_ok, C_strings_TrimLeft_ok k, fun _ _ => rfl⟩ (by kernel_rfl) (fn := Tryd.f35) (c := code_strings_TrimLeft) (by kernel_rfl) (by kernel_rfl) (by kernel_rfl) (rs := [.tmp 4]) (by kernel_rfl) (by kernel_rfl) h
    exact this.mono fun out ho => by
      unfold wrap_strings_TrimLeft at ho
      split at ho <;> first | exact ho | cases ho
  · cases h
end Go.Proofs.YtpfbdepoammjmaaDoor.Pvm

set_option maxRecDepth 1000000
set_option maxHeartbeats 0
namespace Go.Proofs.YtpfbdepoammjmaaDoor.Pvm
open Go Go.Proofs
def sig_line_Lines : List LS := [.sl (.int .u8)]
noncomputable def C_line_Lines (k : Nat) : CTab := ⟨fun f => bif Nat.beq f 32 then sig_bytes_Split else bif Nat.beq f 33 then sig_strings_IndexFunc else bif Nat.beq f 34 then sig_line_odd else bif Nat.beq f 35 then sig_strings_TrimLeft else bif Nat.beq f 36 then sig_line_Strip else [], fun f {_} ps hp K => bif Nat.beq f 32 then run_bytes_Split k ps hp K else bif Nat.beq f 33 then run_strings_IndexFunc k ps hp K else bif Nat.beq f 34 then run_line_odd k ps hp K else bif Nat.beq f 35 then run_strings_TrimLeft k ps hp K else bif Nat.beq f 36 then run_line_Strip k ps hp K else none⟩
def wrap_line_Lines {R : Type} (K : ((List (Int × (Int × (List UInt8)))) → Int → Int → Option R)) : Out → Option R
  | .ret [.v (.sl (.pr (.int .i64) (.pr (.int .i64) .str))) y0, .agg [.v (.int .i64) y1, .v (.int .i64) y2]] [] => K y0 y1 y2
  | _ => none
def sp_line_Lines : RetSpec := ⟨[.sl (.pr (.int .i64) (.pr (.int .i64) .str)), .ag [.any, .any]], [], []⟩
def cuts_line_Lines : List (Nat × CutSpec) := [(1005, ⟨[(3, .obj 13 [.any, .any]), (4, .own 100004 86 (.pr (.int .i64) (.pr (.int .i64) .str))), (17, .sl (.sl (.int .u8))), (18, .any), (19, .any)], []⟩)]
def plans_line_Lines : List (Nat × Plan) := []
noncomputable def cx_line_Lines (k : Nat) : Ctx := ⟨tyT, cuts_line_Lines, C_line_Lines k, [], [], plans_line_Lines, @SH⟩
noncomputable def code_line_Lines : Code := Tryd.f20.body.getD .skip
def st_line_Lines_1005 (s0 : Int) (s1 : Int) (s2 : (List (Int × (Int × (List UInt8))))) (s3 : (List (List Int))) (s4 : Int) (s5 : Int) : St := ⟨mkT [(3, .ptr 13 0), (4, .row 100004), (17, .v (.sl (.sl (.int .u8))) s3), (18, .v (.int .i64) s4), (19, .v (.int .i64) s5)], mkH [(13, .var 30 [.v (.int .i64) s0, .v (.int .i64) s1]), (100004, .row 86 (.pr (.int .i64) (.pr (.int .i64) .str)) s2)]⟩
noncomputable def B_line_Lines_1005 (k : Nat) {R : Type} (E1005 : (Int → Int → (List (Int × (Int × (List UInt8)))) → (List (List Int)) → Int → Int → Option R)) (s0 : Int) (s1 : Int) (s2 : (List (Int × (Int × (List UInt8))))) (s3 : (List (List Int))) (s4 : Int) (s5 : Int) (K : ((List (Int × (Int × (List UInt8)))) → Int → Int → Option R)) : Option R := (@cond (@Option R) (@Decidable.decide (@LT.lt Int Int.instLTInt s5 s4) (@Int.decLt s5 s4)) (@cond (@Option R) (@inb s5 (@Nat.cast Int instNatCastInt (@List.length (@Kd.T (@Kd.sl (@Kd.int Go.IntKind.u8))) s3))) (@F_strings_IndexFunc k R (@ofBytes (@List.getD (@Kd.T (@Kd.sl (@Kd.int Go.IntKind.u8))) s3 (@Int.toNat s5) (@Kd.zero (@Kd.sl (@Kd.int Go.IntKind.u8))))) (fun (y10 : Int) => (@cond (@Option R) (@Decidable.decide (@GE.ge Int Int.instLEInt y10 (0 : Int)) (@Int.decLe (0 : Int) y10)) (K [] (2 : Int) (@Go.IntKind.wrap Go.IntKind.i64 (@HAdd.hAdd Int Int Int (@instHAdd Int @Int.instAdd) s5 (1 : Int)))) (@F_strings_TrimLeft k R (@ofBytes (@List.getD (@Kd.T (@Kd.sl (@Kd.int Go.IntKind.u8))) s3 (@Int.toNat s5) (@Kd.zero (@Kd.sl (@Kd.int Go.IntKind.u8))))) (32 : UInt8) (fun (y11 : (@List UInt8)) => (@F_line_Strip k R y11 (fun (y12 : (@List UInt8)) => (fun (y13 : Bool) => (@cond (@Option R) (@Bool.not y13) (K [] (3 : Int) (@Go.IntKind.wrap Go.IntKind.i64 (@HAdd.hAdd Int Int Int (@instHAdd Int @Int.instAdd) s5 (1 : Int)))) (@cond (@Option R) (@Bool.not (@BEq.beq (@List UInt8) (@List.instBEq UInt8 (@instBEqOfDecidableEq UInt8 @instDecidableEqUInt8)) y12 (@Array.toList UInt8 (@ByteArray.data (@ByteArray.mk (@List.toArray UInt8 [])))))) (@cond (@Option R) (@fits (@List.length (@Kd.T (@Kd.pr kI (@Kd.pr kI Kd.str))) s2) (@List.length (@Kd.T (@Kd.pr kI (@Kd.pr kI Kd.str))) (((@Go.IntKind.wrap Go.IntKind.i64 (@HAdd.hAdd Int Int Int (@instHAdd Int @Int.instAdd) s5 (1 : Int))), ((@Go.IntKind.wrap Go.IntKind.i64 (@HSub.hSub Int Int Int (@instHSub Int @Int.instSub) (@Nat.cast Int instNatCastInt (@List.length UInt8 (@ofBytes (@List.getD (@Kd.T (@Kd.sl (@Kd.int Go.IntKind.u8))) s3 (@Int.toNat s5) (@Kd.zero (@Kd.sl (@Kd.int Go.IntKind.u8))))))) (@Nat.cast Int instNatCastInt (@List.length UInt8 y11)))), y12)) :: [])) (32 : Nat)) (E1005 s0 s1 (@HAppend.hAppend (@Kd.T (@Kd.sl (@Kd.pr kI (@Kd.pr kI Kd.str)))) (@List (@Kd.T (@Kd.pr kI (@Kd.pr kI Kd.str)))) (@Kd.T (@Kd.sl (@Kd.pr kI (@Kd.pr kI Kd.str)))) (@instHAppendOfAppend (@Kd.T (@Kd.sl (@Kd.pr kI (@Kd.pr kI Kd.str)))) (@List.instAppend (@Kd.T (@Kd.pr kI (@Kd.pr kI Kd.str))))) s2 (((@Go.IntKind.wrap Go.IntKind.i64 (@HAdd.hAdd Int Int Int (@instHAdd Int @Int.instAdd) s5 (1 : Int))), ((@Go.IntKind.wrap Go.IntKind.i64 (@HSub.hSub Int Int Int (@instHSub Int @Int.instSub) (@Nat.cast Int instNatCastInt (@List.length UInt8 (@ofBytes (@List.getD (@Kd.T (@Kd.sl (@Kd.int Go.IntKind.u8))) s3 (@Int.toNat s5) (@Kd.zero (@Kd.sl (@Kd.int Go.IntKind.u8))))))) (@Nat.cast Int instNatCastInt (@List.length UInt8 y11)))), y12)) :: [])) s3 s4 (@Go.IntKind.wrap Go.IntKind.i64 (@HAdd.hAdd Int Int Int (@instHAdd Int @Int.instAdd) s5 (1 : Int)))) (@Option.none R)) (E1005 s0 s1 s2 s3 s4 (@Go.IntKind.wrap Go.IntKind.i64 (@HAdd.hAdd Int Int Int (@instHAdd Int @Int.instAdd) s5 (1 : Int)))))))))))))) (@Option.none R)) (K s2 (0 : (@Kd.T kI)) (0 : (@Kd.T kI))))
theorem B_line_Lines_1005_eq (k : Nat) {R : Type} (I : Nat → St → Option R) (s0 : Int) (s1 : Int) (s2 : (List (Int × (Int × (List UInt8))))) (s3 : (List (List Int))) (s4 : Int) (s5 : Int) (K : ((List (Int × (Int × (List UInt8)))) → Int → Int → Option R)) : execK (cx_line_Lines k) k (at_ [1, 1, 1, 0, 1, 0, 0] code_line_Lines) (st_line_Lines_1005 s0 s1 s2 s3 s4 s5) (konts (cx_line_Lines k) k I [1, 1, 1, 0, 1, 0, 0] code_line_Lines (outK (cx_line_Lines k) sp_line_Lines [.tmp 2, .cell 3 30] (wrap_line_Lines K))) = B_line_Lines_1005 k (fun s0 s1 s2 s3 s4 s5 => I 1005 (st_line_Lines_1005 s0 s1 s2 s3 s4 s5)) s0 s1 s2 s3 s4 s5 K := by kernel_rfl
noncomputable def A_line_Lines (k : Nat) {R : Type} (E1005 : (Int → Int → (List (Int × (Int × (List UInt8)))) → (List (List Int)) → Int → Int → Option R)) (x0 : (List Int)) (K : ((List (Int × (Int × (List UInt8)))) → Int → Int → Option R)) : Option R := (@cond (@Option R) (@Decidable.decide (@GT.gt Int Int.instLTInt (@Nat.cast Int instNatCastInt (@List.length (@Kd.T (@Kd.int Go.IntKind.u8)) x0)) (16384 : Int)) (@Int.decLt (16384 : Int) (@Nat.cast Int instNatCastInt (@List.length (@Kd.T (@Kd.int Go.IntKind.u8)) x0)))) (K [] (1 : Int) (1 : Int)) (@F_bytes_Split k R x0 (10 : Int) (fun (y5 : (@List (@List Int))) => (E1005 (0 : (@Kd.T kI)) (0 : (@Kd.T kI)) [] y5 (@Nat.cast Int instNatCastInt (@List.length (@Kd.T (@Kd.sl (@Kd.int Go.IntKind.u8))) y5)) (0 : Int)))))
theorem A_line_Lines_eq (k : Nat) {R : Type} (I : Nat → St → Option R) (x0 : (List Int)) (K : ((List (Int × (Int × (List UInt8)))) → Int → Int → Option R)) : fnK (cx_line_Lines k) k code_line_Lines 61 [.tmp 2, .cell 3 30] sp_line_Lines [.v (.sl (.int .u8)) x0] [] (wrap_line_Lines K) = A_line_Lines k (fun s0 s1 s2 s3 s4 s5 => iter (cx_line_Lines k).pv (look (cx_line_Lines k).cuts 1005) (execK (cx_line_Lines k) k (at_ [1, 1, 1, 0, 1, 0, 0] code_line_Lines)) k (st_line_Lines_1005 s0 s1 s2 s3 s4 s5) (konts (cx_line_Lines k) k I [1, 1, 1, 0, 1, 0] code_line_Lines (outK (cx_line_Lines k) sp_line_Lines [.tmp 2, .cell 3 30] (wrap_line_Lines K)))) x0 K := by kernel_rfl
noncomputable def L_line_Lines_1005 (k : Nat) {R : Type}  : Nat → Int → Int → (List (Int × (Int × (List UInt8)))) → (List (List Int)) → Int → Int → ((List (Int × (Int × (List UInt8)))) → Int → Int → Option R) → Option R
  | 0, _, _, _, _, _, _, _ => none
  | n + 1, s0, s1, s2, s3, s4, s5, K => B_line_Lines_1005 k (fun s0 s1 s2 s3 s4 s5 => L_line_Lines_1005 k  n s0 s1 s2 s3 s4 s5 K) s0 s1 s2 s3 s4 s5 K
theorem L_line_Lines_1005_eq (k : Nat) {R : Type} (I : Nat → St → Option R) (K : ((List (Int × (Int × (List UInt8)))) → Int → Int → Option R)) : ∀ (n : Nat) (s0 : Int) (s1 : Int) (s2 : (List (Int × (Int × (List UInt8))))) (s3 : (List (List Int))) (s4 : Int) (s5 : Int), iter (cx_line_Lines k).pv (look (cx_line_Lines k).cuts 1005) (execK (cx_line_Lines k) k (at_ [1, 1, 1, 0, 1, 0, 0] code_line_Lines)) n (st_line_Lines_1005 s0 s1 s2 s3 s4 s5) (konts (cx_line_Lines k) k I [1, 1, 1, 0, 1, 0] code_line_Lines (outK (cx_line_Lines k) sp_line_Lines [.tmp 2, .cell 3 30] (wrap_line_Lines K))) = L_line_Lines_1005 k  n s0 s1 s2 s3 s4 s5 K := by
  intro n
  induction n with
  | zero => intros; rfl
  | succ n ih =>
    intro s0 s1 s2 s3 s4 s5
    let I' : Nat → St → Option R := fun id s => bif Nat.beq id 1005 then iter (cx_line_Lines k).pv (look (cx_line_Lines k).cuts 1005) (execK (cx_line_Lines k) k (at_ [1, 1, 1, 0, 1, 0, 0] code_line_Lines)) n s (konts (cx_line_Lines k) k I [1, 1, 1, 0, 1, 0] code_line_Lines (outK (cx_line_Lines k) sp_line_Lines [.tmp 2, .cell 3 30] (wrap_line_Lines K))) else I id s
    have e := B_line_Lines_1005_eq k I' s0 s1 s2 s3 s4 s5 K
    have h1005 : (fun s0 s1 s2 s3 s4 s5 => I' 1005 (st_line_Lines_1005 s0 s1 s2 s3 s4 s5)) = (fun s0 s1 s2 s3 s4 s5 => L_line_Lines_1005 k  n s0 s1 s2 s3 s4 s5 K) := by funext s0 s1 s2 s3 s4 s5; exact ih s0 s1 s2 s3 s4 s5
    refine Eq.trans (?_ : _ = _) (e.trans (Eq.trans ((congrArg ((fun E1005 => B_line_Lines_1005 k E1005 s0 s1 s2 s3 s4 s5 K)) h1005)) (by rw [L_line_Lines_1005])))
    rfl
noncomputable def F_line_Lines (k : Nat) {R : Type} (x0 : (List Int)) (K : ((List (Int × (Int × (List UInt8)))) → Int → Int → Option R)) : Option R := A_line_Lines k (fun s0 s1 s2 s3 s4 s5 => L_line_Lines_1005 k k s0 s1 s2 s3 s4 s5 K) x0 K
theorem F_line_Lines_eq (k : Nat) {R : Type} (x0 : (List Int)) (K : ((List (Int × (Int × (List UInt8)))) → Int → Int → Option R)) : fnK (cx_line_Lines k) k code_line_Lines 61 [.tmp 2, .cell 3 30] sp_line_Lines [.v (.sl (.int .u8)) x0] [] (wrap_line_Lines K) = F_line_Lines k x0 K := by
  let I : Nat → St → Option R := fun _ _ => none
  have h1005 : (fun s0 s1 s2 s3 s4 s5 => iter (cx_line_Lines k).pv (look (cx_line_Lines k).cuts 1005) (execK (cx_line_Lines k) k (at_ [1, 1, 1, 0, 1, 0, 0] code_line_Lines)) k (st_line_Lines_1005 s0 s1 s2 s3 s4 s5) (konts (cx_line_Lines k) k I [1, 1, 1, 0, 1, 0] code_line_Lines (outK (cx_line_Lines k) sp_line_Lines [.tmp 2, .cell 3 30] (wrap_line_Lines K)))) = (fun s0 s1 s2 s3 s4 s5 => L_line_Lines_1005 k k s0 s1 s2 s3 s4 s5 K) := by funext s0 s1 s2 s3 s4 s5; exact L_line_Lines_1005_eq k I K k s0 s1 s2 s3 s4 s5
  exact (A_line_Lines_eq k I x0 K).trans (congrArg ((fun E1005 => A_line_Lines k E1005 x0 K)) h1005)
noncomputable def run_line_Lines (k : Nat) {R : Type} : List PV → List (Nm × HObj) → (Out → Option R) → Option R
  | [.v (.sl (.int .u8)) x0], [], K => F_line_Lines k x0 (fun y0 y1 y2 => K (.ret [.v (.sl (.pr (.int .i64) (.pr (.int .i64) .str))) y0, .agg [.v (.int .i64) y1, .v (.int .i64) y2]] []))
  | _, _, _ => none
theorem C_line_Lines_ok (k : Nat) : (C_line_Lines k).Ok Tryd.prog := by
  intro f ps hp R K r h
  unfold C_line_Lines at h
  simp only at h
  cases hb32 : Nat.beq f 32 with
  | true => rw [hb32, cond_true] at h; rw [Nat.eq_of_beq_eq_true hb32]; exact D_bytes_Split k h
  | false =>
  rw [hb32, cond_false] at h
  cases hb33 : Nat.beq f 33 with
  | true => rw [hb33, cond_true] at h; rw [Nat.eq_of_beq_eq_true hb33]; exact D_strings_IndexFunc k h
  | false =>
  rw [hb33, cond_false] at h
  cases hb34 : Nat.beq f 34 with
  | true => rw [hb34, cond_true] at h; rw [Nat.eq_of_beq_eq_true hb34]; exact D_line_odd k h
  | false =>
  rw [hb34, cond_false] at h
  cases hb35 : Nat.beq f 35 with
  | true => rw [hb35, cond_true] at h; rw [Nat.eq_of_beq_eq_true hb35]; exact D_strings_TrimLeft k h
  | false =>
  rw [hb35, cond_false] at h
  cases hb36 : Nat.beq f 36 with
  | true => rw [hb36, cond_true] at h; rw [Nat.eq_of_beq_eq_true hb36]; exact D_line_Strip k h
  | false =>
  rw [hb36, cond_false] at h
  cases h
theorem D_line_Lines (k : Nat) {ps : List PV} {hp : List (Nm × HObj)} {R : Type} {K : Out → Option R} {r : R} (h : run_line_Lines k ps hp K = some r) : DoesTo Tryd.prog 20 ps hp fun out => K out = some r := by
  unfold run_line_Lines at h
  split at h
  · rw [← F_line_Lines_eq] at h
    have := fn_ok (P := Tryd.prog) (cx := cx_line_Lines k) (f := 20) ⟨tyT_ok, C_line_Lines_ok k, fun _ _ => rfl⟩ (by kernel_rfl) (fn := Tryd.f20) (c := code_line_Lines) (by kernel_rfl) (by kernel_rfl) (by kernel_rfl) (rs := [.tmp 2, .cell 3 30]) (by kernel_rfl) (by kernel_rfl) h
    exact this.mono fun out ho => by
      unfold wrap_line_Lines at ho
      split at ho <;> first | exact ho | cases ho
  · cases h
end Go.Proofs.YtpfbdepoammjmaaDoor.Pvm

set_option maxRecDepth 1000000
set_option maxHeartbeats 0
namespace Go.Proofs.YtpfbdepoammjmaaDoor.Pvm
open Go Go.Proofs
def sig_doc_Parse : List LS := [.sl (.int .u8)]
noncomputable def C_doc_Parse (k : Nat) : CTab := ⟨fun f => bif Nat.beq f 8 then sig_doc_Of else bif Nat.beq f 20 then sig_line_Lines else bif Nat.beq f 21 then sig_lex_All else [], fun f {_} ps hp K => bif Nat.beq f 8 then run_doc_Of k ps hp K else bif Nat.beq f 20 then run_line_Lines k ps hp K else bif Nat.beq f 21 then run_lex_All k ps hp K else none⟩
def wrap_doc_Parse {R : Type} (K : ((List (Int × (Int × ((List UInt8) × (Bool × ((List (List UInt8)) × (List Int))))))) → Int → Int → Option R)) : Out → Option R
  | .ret [.agg [.v (.sl (.pr (.int .i64) (.pr (.int .i64) (.pr .str (.pr .bool (.pr (.sl .str) (.sl (.int .i64)))))))) y0], .agg [.v (.int .i64) y1, .v (.int .i64) y2]] [] => K y0 y1 y2
  | _ => none
def sp_doc_Parse : RetSpec := ⟨[.ag [.sl (.pr (.int .i64) (.pr (.int .i64) (.pr .str (.pr .bool (.pr (.sl .str) (.sl (.int .i64)))))))], .ag [.any, .any]], [], []⟩
def cuts_doc_Parse : List (Nat × CutSpec) := []
def plans_doc_Parse : List (Nat × Plan) := [(3, (.of [(0, 1), (1, 2), (2, 0), (3, 0)] .done)), (6, (.of [(0, 1), (1, 2), (2, 0), (3, 0)] .done))]
noncomputable def cx_doc_Parse (k : Nat) : Ctx := ⟨tyT, cuts_doc_Parse, C_doc_Parse k, [], [], plans_doc_Parse, @SH⟩
noncomputable def code_doc_Parse : Code := Tryd.f12.body.getD .skip
noncomputable def A_doc_Parse (k : Nat) {R : Type}  (x0 : (List Int)) (K : ((List (Int × (Int × ((List UInt8) × (Bool × ((List (List UInt8)) × (List Int))))))) → Int → Int → Option R)) : Option R := (@F_line_Lines k R x0 (fun (y4 : (@List (@Prod Int (@Prod Int (@List UInt8))))) => (fun (y5 : Int) => (fun (y6 : Int) => (@cond (@Option R) (@bne Int (@instBEqOfDecidableEq Int @Int.instDecidableEq) y5 (0 : Int)) (K [] y5 y6) (@F_lex_All k R y4 (fun (y7 : (@List (@Prod Int (@Prod Int (@Prod Int (@Prod (@List UInt8) Bool)))))) => (fun (y8 : Int) => (fun (y9 : Int) => (@cond (@Option R) (@bne Int (@instBEqOfDecidableEq Int @Int.instDecidableEq) y8 (0 : Int)) (K [] y8 y9) (@F_doc_Of k R y7 (fun (y10 : (@List (@Prod Int (@Prod Int (@Prod (@List UInt8) (@Prod Bool (@Prod (@List (@List UInt8)) (@List Int)))))))) => (fun (y11 : Int) => (fun (y12 : Int) => (K y10 y11 y12)))))))))))))))
theorem A_doc_Parse_eq (k : Nat) {R : Type} (I : Nat → St → Option R) (x0 : (List Int)) (K : ((List (Int × (Int × ((List UInt8) × (Bool × ((List (List UInt8)) × (List Int))))))) → Int → Int → Option R)) : fnK (cx_doc_Parse k) k code_doc_Parse 31 [.cell 2 28, .cell 3 30] sp_doc_Parse [.v (.sl (.int .u8)) x0] [] (wrap_doc_Parse K) = A_doc_Parse k  x0 K := by kernel_rfl
noncomputable def F_doc_Parse (k : Nat) {R : Type} (x0 : (List Int)) (K : ((List (Int × (Int × ((List UInt8) × (Bool × ((List (List UInt8)) × (List Int))))))) → Int → Int → Option R)) : Option R := A_doc_Parse k  x0 K
theorem F_doc_Parse_eq (k : Nat) {R : Type} (x0 : (List Int)) (K : ((List (Int × (Int × ((List UInt8) × (Bool × ((List (List UInt8)) × (List Int))))))) → Int → Int → Option R)) : fnK (cx_doc_Parse k) k code_doc_Parse 31 [.cell 2 28, .cell 3 30] sp_doc_Parse [.v (.sl (.int .u8)) x0] [] (wrap_doc_Parse K) = F_doc_Parse k x0 K := by
  exact A_doc_Parse_eq k (fun _ _ => none) x0 K
noncomputable def run_doc_Parse (k : Nat) {R : Type} : List PV → List (Nm × HObj) → (Out → Option R) → Option R
  | [.v (.sl (.int .u8)) x0], [], K => F_doc_Parse k x0 (fun y0 y1 y2 => K (.ret [.agg [.v (.sl (.pr (.int .i64) (.pr (.int .i64) (.pr .str (.pr .bool (.pr (.sl .str) (.sl (.int .i64)))))))) y0], .agg [.v (.int .i64) y1, .v (.int .i64) y2]] []))
  | _, _, _ => none
theorem C_doc_Parse_ok (k : Nat) : (C_doc_Parse k).Ok Tryd.prog := by
  intro f ps hp R K r h
  unfold C_doc_Parse at h
  simp only at h
  cases hb8 : Nat.beq f 8 with
  | true => rw [hb8, cond_true] at h; rw [Nat.eq_of_beq_eq_true hb8]; exact D_doc_Of k h
  | false =>
  rw [hb8, cond_false] at h
  cases hb20 : Nat.beq f 20 with
  | true => rw [hb20, cond_true] at h; rw [Nat.eq_of_beq_eq_true hb20]; exact D_line_Lines k h
  | false =>
  rw [hb20, cond_false] at h
  cases hb21 : Nat.beq f 21 with
  | true => rw [hb21, cond_true] at h; rw [Nat.eq_of_beq_eq_true hb21]; exact D_lex_All k h
  | false =>
  rw [hb21, cond_false] at h
  cases h
theorem D_doc_Parse (k : Nat) {ps : List PV} {hp : List (Nm × HObj)} {R : Type} {K : Out → Option R} {r : R} (h : run_doc_Parse k ps hp K = some r) : DoesTo Tryd.prog 12 ps hp fun out => K out = some r := by
  unfold run_doc_Parse at h
  split at h
  · rw [← F_doc_Parse_eq] at h
    have := fn_ok (P := Tryd.prog) (cx := cx_doc_Parse k) (f := 12) ⟨tyT_ok, C_doc_Parse_ok k, fun _ _ => rfl⟩ (by kernel_rfl) (fn := Tryd.f12) (c := code_doc_Parse) (by kernel_rfl) (by kernel_rfl) (by kernel_rfl) (rs := [.cell 2 28, .cell 3 30]) (by kernel_rfl) (by kernel_rfl) h
    exact this.mono fun out ho => by
      unfold wrap_doc_Parse at ho
      split at ho <;> first | exact ho | cases ho
  · cases h
end Go.Proofs.YtpfbdepoammjmaaDoor.Pvm
