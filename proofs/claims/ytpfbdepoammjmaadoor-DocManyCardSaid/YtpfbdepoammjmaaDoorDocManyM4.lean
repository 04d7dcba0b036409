/- The Go function DocMany answers true for every number, on any machine and under any order of evaluation that Go allows; with no condition besides the statement's own, the card's own ties to the pruned copy of the project included. -/
import Derived.Shelf.Strings.Repeat
import Derived.Lib.TrimU
import Derived.Test.YtpfbdepoammjmaaDoorCards
import Derived.Test.YtpfbdepoammjmaaDoorTie
import Derived.LaidMore
import Derived.Lay
import Derived.SevenTiedAt
import Derived.Stop.Joined
import Derived.Test.YtpfbdepoammjmaaDoorRows
import Derived.Test.YtpfbdepoammjmaaDoorDocManyM0
import Derived.Test.YtpfbdepoammjmaaDoorDocManyM1
import Derived.Test.YtpfbdepoammjmaaDoorDocManyM2
import Derived.Test.YtpfbdepoammjmaaDoorDocManyM3
set_option linter.unusedVariables false
set_option linter.unusedSimpArgs false
set_option linter.unusedSectionVars false
set_option maxRecDepth 1000000
set_option maxHeartbeats 0
namespace Go.Proofs.YtpfbdepoammjmaaDoor.Pvm
open Go Go.Proofs
abbrev wqr : Type 1 := (R : Type) → (List (Int × (Int × (Int × ((List UInt8) × Bool))))) → Int → (List (Int × (Int × ((List UInt8) × (Bool × ((List (List UInt8)) × (List Int))))))) → Int → Int → Int → ((List (Int × (Int × (Int × ((List UInt8) × Bool))))) → Int → (List (Int × (Int × ((List UInt8) × (Bool × ((List (List UInt8)) × (List Int))))))) → Int → Int → Int → Option R) → Option R
abbrev wqs : Type 1 := (R : Type) → (List (Int × (Int × (Int × ((List UInt8) × Bool))))) → Int → (List (Int × (Int × ((List UInt8) × (Bool × ((List (List UInt8)) × (List Int))))))) → Int → Int → Int → Int → Int → (List UInt8) → Bool → Int → ((List (Int × (Int × (Int × ((List UInt8) × Bool))))) → Int → (List (Int × (Int × ((List UInt8) × (Bool × ((List (List UInt8)) × (List Int))))))) → Int → Int → Int → Option R) → Option R
abbrev wq2y (R : Type) : Type := ((List (Int × (Int × (Int × ((List UInt8) × Bool))))) → Int → (List (Int × (Int × ((List UInt8) × (Bool × ((List (List UInt8)) × (List Int))))))) → Int → Int → Int → Int → Int → Int → (List UInt8) → Bool → Int → (List (List UInt8)) → (List Int) → Option R)
abbrev wqw (R : Type) : Type := ((List (Int × (Int × (Int × ((List UInt8) × Bool))))) → Int → (List (Int × (Int × ((List UInt8) × (Bool × ((List (List UInt8)) × (List Int))))))) → Int → Int → Int → Option R)
def wqav : List LS := [.obj 1 [.sl (.pr (.int .i64) (.pr (.int .i64) (.pr (.int .i64) (.pr .str .bool)))), .any, .own 21 47 (.pr (.int .i64) (.pr (.int .i64) (.pr .str (.pr .bool (.pr (.sl .str) (.sl (.int .i64))))))), .any, .any], .any]
noncomputable def wq62 (X_ref10_reader_block : wqr) {R : Type} : List PV → List (Nm × HObj) → (Out → Option R) → Option R
  | [.ptr 1 0, .v (.int .i64) x5], [(21, .row 47 (.pr (.int .i64) (.pr (.int .i64) (.pr .str (.pr .bool (.pr (.sl .str) (.sl (.int .i64))))))) x2), (1, .var 55 [.v (.sl (.pr (.int .i64) (.pr (.int .i64) (.pr (.int .i64) (.pr .str .bool))))) x0, .v (.int .i64) x1, .row 21, .v (.int .i64) x3, .v (.int .i64) x4])], K => X_ref10_reader_block R x0 x1 x2 x3 x4 x5 (fun y0 y1 y2 y3 y4 y5 => K (.ret [.v (.int .i64) y5] [(21, .row 47 (.pr (.int .i64) (.pr (.int .i64) (.pr .str (.pr .bool (.pr (.sl .str) (.sl (.int .i64))))))) y2), (1, .var 55 [.v (.sl (.pr (.int .i64) (.pr (.int .i64) (.pr (.int .i64) (.pr .str .bool))))) y0, .v (.int .i64) y1, .row 21, .v (.int .i64) y3, .v (.int .i64) y4])]))
  | _, _, _ => none
def wqi3 : List LS := [.obj 1 [.sl (.pr (.int .i64) (.pr (.int .i64) (.pr (.int .i64) (.pr .str .bool)))), .any, .own 21 47 (.pr (.int .i64) (.pr (.int .i64) (.pr .str (.pr .bool (.pr (.sl .str) (.sl (.int .i64))))))), .any, .any], .ag [.any, .any, .any, .any, .any], .any]
noncomputable def wq63 (X_ref10_reader_under : wqs) {R : Type} : List PV → List (Nm × HObj) → (Out → Option R) → Option R
  | [.ptr 1 0, .agg [.v (.int .i64) x5, .v (.int .i64) x6, .v (.int .i64) x7, .v .str x8, .v .bool x9], .v (.int .i64) x10], [(21, .row 47 (.pr (.int .i64) (.pr (.int .i64) (.pr .str (.pr .bool (.pr (.sl .str) (.sl (.int .i64))))))) x2), (1, .var 55 [.v (.sl (.pr (.int .i64) (.pr (.int .i64) (.pr (.int .i64) (.pr .str .bool))))) x0, .v (.int .i64) x1, .row 21, .v (.int .i64) x3, .v (.int .i64) x4])], K => X_ref10_reader_under R x0 x1 x2 x3 x4 x5 x6 x7 x8 x9 x10 (fun y0 y1 y2 y3 y4 y5 => K (.ret [.v (.int .i64) y5] [(21, .row 47 (.pr (.int .i64) (.pr (.int .i64) (.pr .str (.pr .bool (.pr (.sl .str) (.sl (.int .i64))))))) y2), (1, .var 55 [.v (.sl (.pr (.int .i64) (.pr (.int .i64) (.pr (.int .i64) (.pr .str .bool))))) y0, .v (.int .i64) y1, .row 21, .v (.int .i64) y3, .v (.int .i64) y4])]))
  | _, _, _ => none
noncomputable def wqcl (k : Nat) (X_ref10_reader_block : wqr) (X_ref10_reader_under : wqs) : CTab := (CTab.add 18 wq7g (wq4g k) (CTab.add 31 wqi3 (wq63 X_ref10_reader_under) CTab.nil))
def wq10 {R : Type} (K : wqw R) : Out → Option R
  | .ret [.v (.int .i64) y5] [(21, .row 47 (.pr (.int .i64) (.pr (.int .i64) (.pr .str (.pr .bool (.pr (.sl .str) (.sl (.int .i64))))))) y2), (1, .var 55 [.v (.sl (.pr (.int .i64) (.pr (.int .i64) (.pr (.int .i64) (.pr .str .bool))))) y0, .v (.int .i64) y1, .row 21, .v (.int .i64) y3, .v (.int .i64) y4])] => K y0 y1 y2 y3 y4 y5
  | _ => none
def wq1b : RetSpec := ⟨[.any], [(1, .obj 1 [.sl (.pr (.int .i64) (.pr (.int .i64) (.pr (.int .i64) (.pr .str .bool)))), .any, .own 21 47 (.pr (.int .i64) (.pr (.int .i64) (.pr .str (.pr .bool (.pr (.sl .str) (.sl (.int .i64))))))), .any, .any])], []⟩
def wqgf : List (Nat × CutSpec) := [(1019, ⟨[(0, .obj 1 [.sl (.pr (.int .i64) (.pr (.int .i64) (.pr (.int .i64) (.pr .str .bool)))), .any, .own 21 47 (.pr (.int .i64) (.pr (.int .i64) (.pr .str (.pr .bool (.pr (.sl .str) (.sl (.int .i64))))))), .any, .any]), (1, .any), (5, .obj 15 [.any, .any, .any, .any, .any]), (6, .any), (7, .own 100007 9 .str), (8, .own 100008 3 (.int .i64))], [(1, .obj 1 [.sl (.pr (.int .i64) (.pr (.int .i64) (.pr (.int .i64) (.pr .str .bool)))), .any, .own 21 47 (.pr (.int .i64) (.pr (.int .i64) (.pr .str (.pr .bool (.pr (.sl .str) (.sl (.int .i64))))))), .any, .any])]⟩), (1024, ⟨[(0, .obj 1 [.sl (.pr (.int .i64) (.pr (.int .i64) (.pr (.int .i64) (.pr .str .bool)))), .any, .own 21 47 (.pr (.int .i64) (.pr (.int .i64) (.pr .str (.pr .bool (.pr (.sl .str) (.sl (.int .i64))))))), .any, .any]), (1, .any), (5, .obj 15 [.any, .any, .any, .any, .any]), (6, .any), (7, .own 100007 9 .str), (8, .own 100008 3 (.int .i64)), (9, .obj 19 [.any, .any, .any, .any, .any]), (10, .any)], [(1, .obj 1 [.sl (.pr (.int .i64) (.pr (.int .i64) (.pr (.int .i64) (.pr .str .bool)))), .any, .own 21 47 (.pr (.int .i64) (.pr (.int .i64) (.pr .str (.pr .bool (.pr (.sl .str) (.sl (.int .i64))))))), .any, .any])]⟩)]
def wqfp : List (Nat × Plan) := [(1, (.of [(0, 1), (1, 1), (2, 1), (4, 1), (5, 1), (6, 1), (3, 1), (7, 1), (8, 1), (9, 1), (10, 0), (11, 0)] .done)), (12, (.of [(0, 1), (1, 1), (2, 1), (3, 1), (5, 1), (4, 1), (6, 1), (7, 1), (8, 0), (9, 0), (10, 1), (11, 1), (12, 0)] .done)), (15, (.of [(0, 1), (1, 1), (2, 1), (4, 1), (5, 1), (6, 1), (7, 1), (9, 1), (10, 1), (11, 1), (12, 1), (14, 1), (15, 1), (17, 1), (3, 1), (8, 1), (13, 1), (19, 1), (20, 1), (16, 2), (18, 2), (21, 0), (22, 1), (23, 1), (24, 0), (25, 1), (26, 1), (27, 0)] .done)), (19, (.of [(0, 1), (1, 1), (2, 1), (4, 1), (5, 1), (6, 1), (3, 1), (7, 1), (8, 1), (9, 1), (10, 1), (11, 1), (12, 1), (13, 1), (15, 1), (16, 1), (17, 1), (22, 1), (14, 1), (18, 1), (19, 1), (20, 1), (21, 1), (23, 1), (24, 1), (25, 1), (26, 1), (27, 1), (28, 1), (29, 1), (31, 1), (32, 1), (33, 1), (38, 1), (30, 1), (34, 1), (35, 1), (36, 1), (37, 1), (39, 1), (40, 1), (41, 1), (42, 1), (43, 1), (44, 1), (45, 1), (46, 1), (47, 1), (48, 1), (49, 1)] .done)), (20, (.of [(0, 1), (1, 1), (2, 1), (4, 1), (5, 1), (6, 1), (3, 1), (7, 1), (8, 1), (9, 1), (10, 0), (11, 0)] .done)), (26, (.of [(0, 1), (1, 1), (2, 1), (4, 1), (3, 1), (5, 1), (6, 1)] .done)), (35, (.of [(0, 1), (1, 1), (2, 1), (4, 1), (5, 1), (6, 1), (7, 1), (9, 1), (10, 1), (11, 1), (3, 1), (8, 1), (12, 1), (13, 1), (14, 0), (15, 1), (16, 1), (17, 0)] .done))]
noncomputable def wq0 (k : Nat) (X_ref10_reader_block : wqr) (X_ref10_reader_under : wqs) : Ctx := ⟨tyT, wqgf, wqcl k X_ref10_reader_block X_ref10_reader_under, [], [1], wqfp, @SH⟩
noncomputable def wqa : Code := Tryd.f17.body.getD .skip
def wq14 (s0 : (List (Int × (Int × (Int × ((List UInt8) × Bool)))))) (s1 : Int) (s2 : (List (Int × (Int × ((List UInt8) × (Bool × ((List (List UInt8)) × (List Int)))))))) (s3 s4 s5 s6 s7 s8 : Int) (s9 : (List UInt8)) (s10 : Bool) (s11 : Int) (s12 : (List (List UInt8))) (s13 : (List Int)) : St := ⟨mkT [(0, .ptr 1 0), (1, .v (.int .i64) s5), (5, .ptr 15 0), (6, .v (.int .i64) s11), (7, .row 100007), (8, .row 100008)], mkH [(21, .row 47 (.pr (.int .i64) (.pr (.int .i64) (.pr .str (.pr .bool (.pr (.sl .str) (.sl (.int .i64))))))) s2), (1, .var 55 [.v (.sl (.pr (.int .i64) (.pr (.int .i64) (.pr (.int .i64) (.pr .str .bool))))) s0, .v (.int .i64) s1, .row 21, .v (.int .i64) s3, .v (.int .i64) s4]), (15, .var 25 [.v (.int .i64) s6, .v (.int .i64) s7, .v (.int .i64) s8, .v .str s9, .v .bool s10]), (100007, .row 9 .str s12), (100008, .row 3 (.int .i64) s13)]⟩
def wq2d (s0 : (List (Int × (Int × (Int × ((List UInt8) × Bool)))))) (s1 : Int) (s2 : (List (Int × (Int × ((List UInt8) × (Bool × ((List (List UInt8)) × (List Int)))))))) (s3 s4 s5 s6 s7 s8 : Int) (s9 : (List UInt8)) (s10 : Bool) (s11 : Int) (s12 : (List (List UInt8))) (s13 : (List Int)) (s14 s15 s16 : Int) (s17 : (List UInt8)) (s18 : Bool) (s19 : Int) : St := ⟨mkT [(0, .ptr 1 0), (1, .v (.int .i64) s5), (5, .ptr 15 0), (6, .v (.int .i64) s11), (7, .row 100007), (8, .row 100008), (9, .ptr 19 0), (10, .v (.int .i64) s19)], mkH [(21, .row 47 (.pr (.int .i64) (.pr (.int .i64) (.pr .str (.pr .bool (.pr (.sl .str) (.sl (.int .i64))))))) s2), (1, .var 55 [.v (.sl (.pr (.int .i64) (.pr (.int .i64) (.pr (.int .i64) (.pr .str .bool))))) s0, .v (.int .i64) s1, .row 21, .v (.int .i64) s3, .v (.int .i64) s4]), (15, .var 25 [.v (.int .i64) s6, .v (.int .i64) s7, .v (.int .i64) s8, .v .str s9, .v .bool s10]), (100007, .row 9 .str s12), (100008, .row 3 (.int .i64) s13), (19, .var 25 [.v (.int .i64) s14, .v (.int .i64) s15, .v (.int .i64) s16, .v .str s17, .v .bool s18])]⟩
noncomputable def wq2j (k : Nat) (X_ref10_reader_block : wqr) (X_ref10_reader_under : wqs) {R : Type} (E1019 : wq2y R) (E1024 : ((List (Int × (Int × (Int × ((List UInt8) × Bool))))) → Int → (List (Int × (Int × ((List UInt8) × (Bool × ((List (List UInt8)) × (List Int))))))) → Int → Int → Int → Int → Int → Int → (List UInt8) → Bool → Int → (List (List UInt8)) → (List Int) → Int → Int → Int → (List UInt8) → Bool → Int → Option R)) (s0 : (List (Int × (Int × (Int × ((List UInt8) × Bool)))))) (s1 : Int) (s2 : (List (Int × (Int × ((List UInt8) × (Bool × ((List (List UInt8)) × (List Int)))))))) (s3 s4 s5 s6 s7 s8 : Int) (s9 : (List UInt8)) (s10 : Bool) (s11 : Int) (s12 : (List (List UInt8))) (s13 : (List Int)) (K : wqw R) : Option R := (@cond (@Option R) (@Bool.or (@Bool.not (@BEq.beq (@Kd.T Kd.bool) (@instBEqOfDecidableEq (@Kd.T Kd.bool) @instDecidableEqBool) (@Decidable.decide (@LT.lt Int Int.instLTInt s1 (@Nat.cast Int instNatCastInt (@List.length (@Kd.T (@Kd.pr kI (@Kd.pr kI (@Kd.pr kI (@Kd.pr Kd.str Kd.bool))))) s0))) (@Int.decLt s1 (@Nat.cast Int instNatCastInt (@List.length (@Kd.T (@Kd.pr kI (@Kd.pr kI (@Kd.pr kI (@Kd.pr Kd.str Kd.bool))))) s0)))) Bool.true)) (@inb s1 (@Nat.cast Int instNatCastInt (@List.length (@Kd.T (@Kd.pr kI (@Kd.pr kI (@Kd.pr kI (@Kd.pr Kd.str Kd.bool))))) s0)))) (@cond (@Option R) (@Bool.or (@Bool.not (@BEq.beq (@Kd.T Kd.bool) (@instBEqOfDecidableEq (@Kd.T Kd.bool) @instDecidableEqBool) (@cond (@Kd.T Kd.bool) (@Decidable.decide (@LT.lt Int Int.instLTInt s1 (@Nat.cast Int instNatCastInt (@List.length (@Kd.T (@Kd.pr kI (@Kd.pr kI (@Kd.pr kI (@Kd.pr Kd.str Kd.bool))))) s0))) (@Int.decLt s1 (@Nat.cast Int instNatCastInt (@List.length (@Kd.T (@Kd.pr kI (@Kd.pr kI (@Kd.pr kI (@Kd.pr Kd.str Kd.bool))))) s0)))) (@BEq.beq Int (@instBEqOfDecidableEq Int @Int.instDecidableEq) (@List.getD (@Kd.T (@Kd.pr kI (@Kd.pr kI (@Kd.pr kI (@Kd.pr Kd.str Kd.bool))))) s0 (@Int.toNat s1) (@Kd.zero (@Kd.pr kI (@Kd.pr kI (@Kd.pr kI (@Kd.pr Kd.str Kd.bool)))))).1 s6) Bool.false) Bool.true)) (@inb s1 (@Nat.cast Int instNatCastInt (@List.length (@Kd.T (@Kd.pr kI (@Kd.pr kI (@Kd.pr kI (@Kd.pr Kd.str Kd.bool))))) s0)))) (@cond (@Option R) (@cond (@Kd.T Kd.bool) (@cond (@Kd.T Kd.bool) (@cond (@Kd.T Kd.bool) (@Decidable.decide (@LT.lt Int Int.instLTInt s1 (@Nat.cast Int instNatCastInt (@List.length (@Kd.T (@Kd.pr kI (@Kd.pr kI (@Kd.pr kI (@Kd.pr Kd.str Kd.bool))))) s0))) (@Int.decLt s1 (@Nat.cast Int instNatCastInt (@List.length (@Kd.T (@Kd.pr kI (@Kd.pr kI (@Kd.pr kI (@Kd.pr Kd.str Kd.bool))))) s0)))) (@BEq.beq Int (@instBEqOfDecidableEq Int @Int.instDecidableEq) (@List.getD (@Kd.T (@Kd.pr kI (@Kd.pr kI (@Kd.pr kI (@Kd.pr Kd.str Kd.bool))))) s0 (@Int.toNat s1) (@Kd.zero (@Kd.pr kI (@Kd.pr kI (@Kd.pr kI (@Kd.pr Kd.str Kd.bool)))))).1 s6) Bool.false) (@BEq.beq Int (@instBEqOfDecidableEq Int @Int.instDecidableEq) (@List.getD (@Kd.T (@Kd.pr kI (@Kd.pr kI (@Kd.pr kI (@Kd.pr Kd.str Kd.bool))))) s0 (@Int.toNat s1) (@Kd.zero (@Kd.pr kI (@Kd.pr kI (@Kd.pr kI (@Kd.pr Kd.str Kd.bool)))))).2.2.1 s8) Bool.false) (@BEq.beq Int (@instBEqOfDecidableEq Int @Int.instDecidableEq) s3 (0 : Int)) Bool.false) (@cond (@Option R) (@inb s1 (@Nat.cast Int instNatCastInt (@List.length (@Kd.T (@Kd.pr kI (@Kd.pr kI (@Kd.pr kI (@Kd.pr Kd.str Kd.bool))))) s0))) (@cond (@Option R) (@BEq.beq Int (@instBEqOfDecidableEq Int @Int.instDecidableEq) s6 (2 : Int)) (E1024 s0 (@Go.IntKind.wrap Go.IntKind.i64 (@HAdd.hAdd Int Int Int (@instHAdd Int @Int.instAdd) s1 (1 : Int))) s2 s3 s4 s5 s6 s7 s8 s9 s10 s11 s12 s13 (@List.getD (@Kd.T (@Kd.pr kI (@Kd.pr kI (@Kd.pr kI (@Kd.pr Kd.str Kd.bool))))) s0 (@Int.toNat s1) (@Kd.zero (@Kd.pr kI (@Kd.pr kI (@Kd.pr kI (@Kd.pr Kd.str Kd.bool)))))).1 (@List.getD (@Kd.T (@Kd.pr kI (@Kd.pr kI (@Kd.pr kI (@Kd.pr Kd.str Kd.bool))))) s0 (@Int.toNat s1) (@Kd.zero (@Kd.pr kI (@Kd.pr kI (@Kd.pr kI (@Kd.pr Kd.str Kd.bool)))))).2.1 (@List.getD (@Kd.T (@Kd.pr kI (@Kd.pr kI (@Kd.pr kI (@Kd.pr Kd.str Kd.bool))))) s0 (@Int.toNat s1) (@Kd.zero (@Kd.pr kI (@Kd.pr kI (@Kd.pr kI (@Kd.pr Kd.str Kd.bool)))))).2.2.1 (@List.getD (@Kd.T (@Kd.pr kI (@Kd.pr kI (@Kd.pr kI (@Kd.pr Kd.str Kd.bool))))) s0 (@Int.toNat s1) (@Kd.zero (@Kd.pr kI (@Kd.pr kI (@Kd.pr kI (@Kd.pr Kd.str Kd.bool)))))).2.2.2.1 (@List.getD (@Kd.T (@Kd.pr kI (@Kd.pr kI (@Kd.pr kI (@Kd.pr Kd.str Kd.bool))))) s0 (@Int.toNat s1) (@Kd.zero (@Kd.pr kI (@Kd.pr kI (@Kd.pr kI (@Kd.pr Kd.str Kd.bool)))))).2.2.2.2 (0 : Int)) (X_ref10_reader_under R s0 (@Go.IntKind.wrap Go.IntKind.i64 (@HAdd.hAdd Int Int Int (@instHAdd Int @Int.instAdd) s1 (1 : Int))) s2 s3 s4 (@List.getD (@Kd.T (@Kd.pr kI (@Kd.pr kI (@Kd.pr kI (@Kd.pr Kd.str Kd.bool))))) s0 (@Int.toNat s1) (@Kd.zero (@Kd.pr kI (@Kd.pr kI (@Kd.pr kI (@Kd.pr Kd.str Kd.bool)))))).1 (@List.getD (@Kd.T (@Kd.pr kI (@Kd.pr kI (@Kd.pr kI (@Kd.pr Kd.str Kd.bool))))) s0 (@Int.toNat s1) (@Kd.zero (@Kd.pr kI (@Kd.pr kI (@Kd.pr kI (@Kd.pr Kd.str Kd.bool)))))).2.1 (@List.getD (@Kd.T (@Kd.pr kI (@Kd.pr kI (@Kd.pr kI (@Kd.pr Kd.str Kd.bool))))) s0 (@Int.toNat s1) (@Kd.zero (@Kd.pr kI (@Kd.pr kI (@Kd.pr kI (@Kd.pr Kd.str Kd.bool)))))).2.2.1 (@List.getD (@Kd.T (@Kd.pr kI (@Kd.pr kI (@Kd.pr kI (@Kd.pr Kd.str Kd.bool))))) s0 (@Int.toNat s1) (@Kd.zero (@Kd.pr kI (@Kd.pr kI (@Kd.pr kI (@Kd.pr Kd.str Kd.bool)))))).2.2.2.1 (@List.getD (@Kd.T (@Kd.pr kI (@Kd.pr kI (@Kd.pr kI (@Kd.pr Kd.str Kd.bool))))) s0 (@Int.toNat s1) (@Kd.zero (@Kd.pr kI (@Kd.pr kI (@Kd.pr kI (@Kd.pr Kd.str Kd.bool)))))).2.2.2.2 s5 (fun y19 y20 y21 y22 y23 y24 => (@cond (@Option R) (@fits (@List.length (@Kd.T kI) s13) (@List.length (@Kd.T kI) (y24 :: [])) (8 : Nat)) (E1019 y19 y20 y21 y22 y23 s5 s6 s7 s8 s9 s10 s11 s12 (@HAppend.hAppend (@Kd.T (@Kd.sl kI)) (@List (@Kd.T kI)) (@Kd.T (@Kd.sl kI)) (@instHAppendOfAppend (@Kd.T (@Kd.sl kI)) (@List.instAppend (@Kd.T kI))) s13 (y24 :: []))) (@Option.none R))))) (@Option.none R)) (@cond (@Option R) (@inb s11 (@Nat.cast Int instNatCastInt (@List.length (@Kd.T (@Kd.pr kI (@Kd.pr kI (@Kd.pr Kd.str (@Kd.pr Kd.bool (@Kd.pr (@Kd.sl Kd.str) (@Kd.sl kI))))))) s2))) (@SH (@List (@Kd.T (@Kd.pr kI (@Kd.pr kI (@Kd.pr Kd.str (@Kd.pr Kd.bool (@Kd.pr (@Kd.sl Kd.str) (@Kd.sl kI)))))))) R (@List.set (@Kd.T (@Kd.pr kI (@Kd.pr kI (@Kd.pr Kd.str (@Kd.pr Kd.bool (@Kd.pr (@Kd.sl Kd.str) (@Kd.sl kI))))))) s2 (@Int.toNat s11) ((2 : Int), ((@List.getD (@Kd.T (@Kd.pr kI (@Kd.pr kI (@Kd.pr Kd.str (@Kd.pr Kd.bool (@Kd.pr (@Kd.sl Kd.str) (@Kd.sl kI))))))) s2 (@Int.toNat s11) (@Kd.zero (@Kd.pr kI (@Kd.pr kI (@Kd.pr Kd.str (@Kd.pr Kd.bool (@Kd.pr (@Kd.sl Kd.str) (@Kd.sl kI)))))))).2.1, ((@List.getD (@Kd.T (@Kd.pr kI (@Kd.pr kI (@Kd.pr Kd.str (@Kd.pr Kd.bool (@Kd.pr (@Kd.sl Kd.str) (@Kd.sl kI))))))) s2 (@Int.toNat s11) (@Kd.zero (@Kd.pr kI (@Kd.pr kI (@Kd.pr Kd.str (@Kd.pr Kd.bool (@Kd.pr (@Kd.sl Kd.str) (@Kd.sl kI)))))))).2.2.1, ((@List.getD (@Kd.T (@Kd.pr kI (@Kd.pr kI (@Kd.pr Kd.str (@Kd.pr Kd.bool (@Kd.pr (@Kd.sl Kd.str) (@Kd.sl kI))))))) s2 (@Int.toNat s11) (@Kd.zero (@Kd.pr kI (@Kd.pr kI (@Kd.pr Kd.str (@Kd.pr Kd.bool (@Kd.pr (@Kd.sl Kd.str) (@Kd.sl kI)))))))).2.2.2.1, ((@List.getD (@Kd.T (@Kd.pr kI (@Kd.pr kI (@Kd.pr Kd.str (@Kd.pr Kd.bool (@Kd.pr (@Kd.sl Kd.str) (@Kd.sl kI))))))) s2 (@Int.toNat s11) (@Kd.zero (@Kd.pr kI (@Kd.pr kI (@Kd.pr Kd.str (@Kd.pr Kd.bool (@Kd.pr (@Kd.sl Kd.str) (@Kd.sl kI)))))))).2.2.2.2.1, (@List.getD (@Kd.T (@Kd.pr kI (@Kd.pr kI (@Kd.pr Kd.str (@Kd.pr Kd.bool (@Kd.pr (@Kd.sl Kd.str) (@Kd.sl kI))))))) s2 (@Int.toNat s11) (@Kd.zero (@Kd.pr kI (@Kd.pr kI (@Kd.pr Kd.str (@Kd.pr Kd.bool (@Kd.pr (@Kd.sl Kd.str) (@Kd.sl kI)))))))).2.2.2.2.2)))))) (fun y19 => (@cond (@Option R) (@BEq.beq Int (@instBEqOfDecidableEq Int @Int.instDecidableEq) s6 (2 : Int)) (@cond (@Option R) (@inb s11 (@Nat.cast Int instNatCastInt (@List.length (@Kd.T (@Kd.pr kI (@Kd.pr kI (@Kd.pr Kd.str (@Kd.pr Kd.bool (@Kd.pr (@Kd.sl Kd.str) (@Kd.sl kI))))))) y19))) (@SH (@List (@Kd.T (@Kd.pr kI (@Kd.pr kI (@Kd.pr Kd.str (@Kd.pr Kd.bool (@Kd.pr (@Kd.sl Kd.str) (@Kd.sl kI)))))))) R (@List.set (@Kd.T (@Kd.pr kI (@Kd.pr kI (@Kd.pr Kd.str (@Kd.pr Kd.bool (@Kd.pr (@Kd.sl Kd.str) (@Kd.sl kI))))))) y19 (@Int.toNat s11) ((3 : Int), ((@List.getD (@Kd.T (@Kd.pr kI (@Kd.pr kI (@Kd.pr Kd.str (@Kd.pr Kd.bool (@Kd.pr (@Kd.sl Kd.str) (@Kd.sl kI))))))) y19 (@Int.toNat s11) (@Kd.zero (@Kd.pr kI (@Kd.pr kI (@Kd.pr Kd.str (@Kd.pr Kd.bool (@Kd.pr (@Kd.sl Kd.str) (@Kd.sl kI)))))))).2.1, ((@List.getD (@Kd.T (@Kd.pr kI (@Kd.pr kI (@Kd.pr Kd.str (@Kd.pr Kd.bool (@Kd.pr (@Kd.sl Kd.str) (@Kd.sl kI))))))) y19 (@Int.toNat s11) (@Kd.zero (@Kd.pr kI (@Kd.pr kI (@Kd.pr Kd.str (@Kd.pr Kd.bool (@Kd.pr (@Kd.sl Kd.str) (@Kd.sl kI)))))))).2.2.1, ((@List.getD (@Kd.T (@Kd.pr kI (@Kd.pr kI (@Kd.pr Kd.str (@Kd.pr Kd.bool (@Kd.pr (@Kd.sl Kd.str) (@Kd.sl kI))))))) y19 (@Int.toNat s11) (@Kd.zero (@Kd.pr kI (@Kd.pr kI (@Kd.pr Kd.str (@Kd.pr Kd.bool (@Kd.pr (@Kd.sl Kd.str) (@Kd.sl kI)))))))).2.2.2.1, ((@List.getD (@Kd.T (@Kd.pr kI (@Kd.pr kI (@Kd.pr Kd.str (@Kd.pr Kd.bool (@Kd.pr (@Kd.sl Kd.str) (@Kd.sl kI))))))) y19 (@Int.toNat s11) (@Kd.zero (@Kd.pr kI (@Kd.pr kI (@Kd.pr Kd.str (@Kd.pr Kd.bool (@Kd.pr (@Kd.sl Kd.str) (@Kd.sl kI)))))))).2.2.2.2.1, (@List.getD (@Kd.T (@Kd.pr kI (@Kd.pr kI (@Kd.pr Kd.str (@Kd.pr Kd.bool (@Kd.pr (@Kd.sl Kd.str) (@Kd.sl kI))))))) y19 (@Int.toNat s11) (@Kd.zero (@Kd.pr kI (@Kd.pr kI (@Kd.pr Kd.str (@Kd.pr Kd.bool (@Kd.pr (@Kd.sl Kd.str) (@Kd.sl kI)))))))).2.2.2.2.2)))))) (fun y20 => (@cond (@Option R) (@inb s11 (@Nat.cast Int instNatCastInt (@List.length (@Kd.T (@Kd.pr kI (@Kd.pr kI (@Kd.pr Kd.str (@Kd.pr Kd.bool (@Kd.pr (@Kd.sl Kd.str) (@Kd.sl kI))))))) y20))) (@SH (@List (@Kd.T (@Kd.pr kI (@Kd.pr kI (@Kd.pr Kd.str (@Kd.pr Kd.bool (@Kd.pr (@Kd.sl Kd.str) (@Kd.sl kI)))))))) R (@List.set (@Kd.T (@Kd.pr kI (@Kd.pr kI (@Kd.pr Kd.str (@Kd.pr Kd.bool (@Kd.pr (@Kd.sl Kd.str) (@Kd.sl kI))))))) y20 (@Int.toNat s11) ((@List.getD (@Kd.T (@Kd.pr kI (@Kd.pr kI (@Kd.pr Kd.str (@Kd.pr Kd.bool (@Kd.pr (@Kd.sl Kd.str) (@Kd.sl kI))))))) y20 (@Int.toNat s11) (@Kd.zero (@Kd.pr kI (@Kd.pr kI (@Kd.pr Kd.str (@Kd.pr Kd.bool (@Kd.pr (@Kd.sl Kd.str) (@Kd.sl kI)))))))).1, ((@List.getD (@Kd.T (@Kd.pr kI (@Kd.pr kI (@Kd.pr Kd.str (@Kd.pr Kd.bool (@Kd.pr (@Kd.sl Kd.str) (@Kd.sl kI))))))) y20 (@Int.toNat s11) (@Kd.zero (@Kd.pr kI (@Kd.pr kI (@Kd.pr Kd.str (@Kd.pr Kd.bool (@Kd.pr (@Kd.sl Kd.str) (@Kd.sl kI)))))))).2.1, ((@List.getD (@Kd.T (@Kd.pr kI (@Kd.pr kI (@Kd.pr Kd.str (@Kd.pr Kd.bool (@Kd.pr (@Kd.sl Kd.str) (@Kd.sl kI))))))) y20 (@Int.toNat s11) (@Kd.zero (@Kd.pr kI (@Kd.pr kI (@Kd.pr Kd.str (@Kd.pr Kd.bool (@Kd.pr (@Kd.sl Kd.str) (@Kd.sl kI)))))))).2.2.1, ((@List.getD (@Kd.T (@Kd.pr kI (@Kd.pr kI (@Kd.pr Kd.str (@Kd.pr Kd.bool (@Kd.pr (@Kd.sl Kd.str) (@Kd.sl kI))))))) y20 (@Int.toNat s11) (@Kd.zero (@Kd.pr kI (@Kd.pr kI (@Kd.pr Kd.str (@Kd.pr Kd.bool (@Kd.pr (@Kd.sl Kd.str) (@Kd.sl kI)))))))).2.2.2.1, (s12, (@List.getD (@Kd.T (@Kd.pr kI (@Kd.pr kI (@Kd.pr Kd.str (@Kd.pr Kd.bool (@Kd.pr (@Kd.sl Kd.str) (@Kd.sl kI))))))) y20 (@Int.toNat s11) (@Kd.zero (@Kd.pr kI (@Kd.pr kI (@Kd.pr Kd.str (@Kd.pr Kd.bool (@Kd.pr (@Kd.sl Kd.str) (@Kd.sl kI)))))))).2.2.2.2.2)))))) (fun y21 => (@cond (@Option R) (@inb s11 (@Nat.cast Int instNatCastInt (@List.length (@Kd.T (@Kd.pr kI (@Kd.pr kI (@Kd.pr Kd.str (@Kd.pr Kd.bool (@Kd.pr (@Kd.sl Kd.str) (@Kd.sl kI))))))) y21))) (@SH (@List (@Kd.T (@Kd.pr kI (@Kd.pr kI (@Kd.pr Kd.str (@Kd.pr Kd.bool (@Kd.pr (@Kd.sl Kd.str) (@Kd.sl kI)))))))) R (@List.set (@Kd.T (@Kd.pr kI (@Kd.pr kI (@Kd.pr Kd.str (@Kd.pr Kd.bool (@Kd.pr (@Kd.sl Kd.str) (@Kd.sl kI))))))) y21 (@Int.toNat s11) ((@List.getD (@Kd.T (@Kd.pr kI (@Kd.pr kI (@Kd.pr Kd.str (@Kd.pr Kd.bool (@Kd.pr (@Kd.sl Kd.str) (@Kd.sl kI))))))) y21 (@Int.toNat s11) (@Kd.zero (@Kd.pr kI (@Kd.pr kI (@Kd.pr Kd.str (@Kd.pr Kd.bool (@Kd.pr (@Kd.sl Kd.str) (@Kd.sl kI)))))))).1, ((@List.getD (@Kd.T (@Kd.pr kI (@Kd.pr kI (@Kd.pr Kd.str (@Kd.pr Kd.bool (@Kd.pr (@Kd.sl Kd.str) (@Kd.sl kI))))))) y21 (@Int.toNat s11) (@Kd.zero (@Kd.pr kI (@Kd.pr kI (@Kd.pr Kd.str (@Kd.pr Kd.bool (@Kd.pr (@Kd.sl Kd.str) (@Kd.sl kI)))))))).2.1, ((@List.getD (@Kd.T (@Kd.pr kI (@Kd.pr kI (@Kd.pr Kd.str (@Kd.pr Kd.bool (@Kd.pr (@Kd.sl Kd.str) (@Kd.sl kI))))))) y21 (@Int.toNat s11) (@Kd.zero (@Kd.pr kI (@Kd.pr kI (@Kd.pr Kd.str (@Kd.pr Kd.bool (@Kd.pr (@Kd.sl Kd.str) (@Kd.sl kI)))))))).2.2.1, ((@List.getD (@Kd.T (@Kd.pr kI (@Kd.pr kI (@Kd.pr Kd.str (@Kd.pr Kd.bool (@Kd.pr (@Kd.sl Kd.str) (@Kd.sl kI))))))) y21 (@Int.toNat s11) (@Kd.zero (@Kd.pr kI (@Kd.pr kI (@Kd.pr Kd.str (@Kd.pr Kd.bool (@Kd.pr (@Kd.sl Kd.str) (@Kd.sl kI)))))))).2.2.2.1, ((@List.getD (@Kd.T (@Kd.pr kI (@Kd.pr kI (@Kd.pr Kd.str (@Kd.pr Kd.bool (@Kd.pr (@Kd.sl Kd.str) (@Kd.sl kI))))))) y21 (@Int.toNat s11) (@Kd.zero (@Kd.pr kI (@Kd.pr kI (@Kd.pr Kd.str (@Kd.pr Kd.bool (@Kd.pr (@Kd.sl Kd.str) (@Kd.sl kI)))))))).2.2.2.2.1, s13)))))) (fun y22 => (K s0 s1 y22 s3 s4 s11))) (@Option.none R)))) (@Option.none R)))) (@Option.none R)) (@cond (@Option R) (@inb s11 (@Nat.cast Int instNatCastInt (@List.length (@Kd.T (@Kd.pr kI (@Kd.pr kI (@Kd.pr Kd.str (@Kd.pr Kd.bool (@Kd.pr (@Kd.sl Kd.str) (@Kd.sl kI))))))) y19))) (@SH (@List (@Kd.T (@Kd.pr kI (@Kd.pr kI (@Kd.pr Kd.str (@Kd.pr Kd.bool (@Kd.pr (@Kd.sl Kd.str) (@Kd.sl kI)))))))) R (@List.set (@Kd.T (@Kd.pr kI (@Kd.pr kI (@Kd.pr Kd.str (@Kd.pr Kd.bool (@Kd.pr (@Kd.sl Kd.str) (@Kd.sl kI))))))) y19 (@Int.toNat s11) ((@List.getD (@Kd.T (@Kd.pr kI (@Kd.pr kI (@Kd.pr Kd.str (@Kd.pr Kd.bool (@Kd.pr (@Kd.sl Kd.str) (@Kd.sl kI))))))) y19 (@Int.toNat s11) (@Kd.zero (@Kd.pr kI (@Kd.pr kI (@Kd.pr Kd.str (@Kd.pr Kd.bool (@Kd.pr (@Kd.sl Kd.str) (@Kd.sl kI)))))))).1, ((@List.getD (@Kd.T (@Kd.pr kI (@Kd.pr kI (@Kd.pr Kd.str (@Kd.pr Kd.bool (@Kd.pr (@Kd.sl Kd.str) (@Kd.sl kI))))))) y19 (@Int.toNat s11) (@Kd.zero (@Kd.pr kI (@Kd.pr kI (@Kd.pr Kd.str (@Kd.pr Kd.bool (@Kd.pr (@Kd.sl Kd.str) (@Kd.sl kI)))))))).2.1, ((@List.getD (@Kd.T (@Kd.pr kI (@Kd.pr kI (@Kd.pr Kd.str (@Kd.pr Kd.bool (@Kd.pr (@Kd.sl Kd.str) (@Kd.sl kI))))))) y19 (@Int.toNat s11) (@Kd.zero (@Kd.pr kI (@Kd.pr kI (@Kd.pr Kd.str (@Kd.pr Kd.bool (@Kd.pr (@Kd.sl Kd.str) (@Kd.sl kI)))))))).2.2.1, ((@List.getD (@Kd.T (@Kd.pr kI (@Kd.pr kI (@Kd.pr Kd.str (@Kd.pr Kd.bool (@Kd.pr (@Kd.sl Kd.str) (@Kd.sl kI))))))) y19 (@Int.toNat s11) (@Kd.zero (@Kd.pr kI (@Kd.pr kI (@Kd.pr Kd.str (@Kd.pr Kd.bool (@Kd.pr (@Kd.sl Kd.str) (@Kd.sl kI)))))))).2.2.2.1, (s12, (@List.getD (@Kd.T (@Kd.pr kI (@Kd.pr kI (@Kd.pr Kd.str (@Kd.pr Kd.bool (@Kd.pr (@Kd.sl Kd.str) (@Kd.sl kI))))))) y19 (@Int.toNat s11) (@Kd.zero (@Kd.pr kI (@Kd.pr kI (@Kd.pr Kd.str (@Kd.pr Kd.bool (@Kd.pr (@Kd.sl Kd.str) (@Kd.sl kI)))))))).2.2.2.2.2)))))) (fun y20 => (@cond (@Option R) (@inb s11 (@Nat.cast Int instNatCastInt (@List.length (@Kd.T (@Kd.pr kI (@Kd.pr kI (@Kd.pr Kd.str (@Kd.pr Kd.bool (@Kd.pr (@Kd.sl Kd.str) (@Kd.sl kI))))))) y20))) (@SH (@List (@Kd.T (@Kd.pr kI (@Kd.pr kI (@Kd.pr Kd.str (@Kd.pr Kd.bool (@Kd.pr (@Kd.sl Kd.str) (@Kd.sl kI)))))))) R (@List.set (@Kd.T (@Kd.pr kI (@Kd.pr kI (@Kd.pr Kd.str (@Kd.pr Kd.bool (@Kd.pr (@Kd.sl Kd.str) (@Kd.sl kI))))))) y20 (@Int.toNat s11) ((@List.getD (@Kd.T (@Kd.pr kI (@Kd.pr kI (@Kd.pr Kd.str (@Kd.pr Kd.bool (@Kd.pr (@Kd.sl Kd.str) (@Kd.sl kI))))))) y20 (@Int.toNat s11) (@Kd.zero (@Kd.pr kI (@Kd.pr kI (@Kd.pr Kd.str (@Kd.pr Kd.bool (@Kd.pr (@Kd.sl Kd.str) (@Kd.sl kI)))))))).1, ((@List.getD (@Kd.T (@Kd.pr kI (@Kd.pr kI (@Kd.pr Kd.str (@Kd.pr Kd.bool (@Kd.pr (@Kd.sl Kd.str) (@Kd.sl kI))))))) y20 (@Int.toNat s11) (@Kd.zero (@Kd.pr kI (@Kd.pr kI (@Kd.pr Kd.str (@Kd.pr Kd.bool (@Kd.pr (@Kd.sl Kd.str) (@Kd.sl kI)))))))).2.1, ((@List.getD (@Kd.T (@Kd.pr kI (@Kd.pr kI (@Kd.pr Kd.str (@Kd.pr Kd.bool (@Kd.pr (@Kd.sl Kd.str) (@Kd.sl kI))))))) y20 (@Int.toNat s11) (@Kd.zero (@Kd.pr kI (@Kd.pr kI (@Kd.pr Kd.str (@Kd.pr Kd.bool (@Kd.pr (@Kd.sl Kd.str) (@Kd.sl kI)))))))).2.2.1, ((@List.getD (@Kd.T (@Kd.pr kI (@Kd.pr kI (@Kd.pr Kd.str (@Kd.pr Kd.bool (@Kd.pr (@Kd.sl Kd.str) (@Kd.sl kI))))))) y20 (@Int.toNat s11) (@Kd.zero (@Kd.pr kI (@Kd.pr kI (@Kd.pr Kd.str (@Kd.pr Kd.bool (@Kd.pr (@Kd.sl Kd.str) (@Kd.sl kI)))))))).2.2.2.1, ((@List.getD (@Kd.T (@Kd.pr kI (@Kd.pr kI (@Kd.pr Kd.str (@Kd.pr Kd.bool (@Kd.pr (@Kd.sl Kd.str) (@Kd.sl kI))))))) y20 (@Int.toNat s11) (@Kd.zero (@Kd.pr kI (@Kd.pr kI (@Kd.pr Kd.str (@Kd.pr Kd.bool (@Kd.pr (@Kd.sl Kd.str) (@Kd.sl kI)))))))).2.2.2.2.1, s13)))))) (fun y21 => (K s0 s1 y21 s3 s4 s11))) (@Option.none R)))) (@Option.none R))))) (@Option.none R))) (@Option.none R)) (@Option.none R))
theorem wqcm (k : Nat) (X_ref10_reader_block : wqr) (X_ref10_reader_under : wqs) {R : Type} (I : Nat → St → Option R) (s0 : (List (Int × (Int × (Int × ((List UInt8) × Bool)))))) (s1 : Int) (s2 : (List (Int × (Int × ((List UInt8) × (Bool × ((List (List UInt8)) × (List Int)))))))) (s3 s4 s5 s6 s7 s8 : Int) (s9 : (List UInt8)) (s10 : Bool) (s11 : Int) (s12 : (List (List UInt8))) (s13 : (List Int)) (K : wqw R) : execK (wq0 k X_ref10_reader_block X_ref10_reader_under) k (at_ [1, 1, 1, 1, 1, 1, 1, 1, 1, 1, 0, 0, 0] wqa) (wq14 s0 s1 s2 s3 s4 s5 s6 s7 s8 s9 s10 s11 s12 s13) (konts (wq0 k X_ref10_reader_block X_ref10_reader_under) k I [1, 1, 1, 1, 1, 1, 1, 1, 1, 1, 0, 0, 0] wqa (outK (wq0 k X_ref10_reader_block X_ref10_reader_under) wq1b [.tmp 4] (wq10 K))) = wq2j k X_ref10_reader_block X_ref10_reader_under (fun s0 s1 s2 s3 s4 s5 s6 s7 s8 s9 s10 s11 s12 s13 => I 1019 (wq14 s0 s1 s2 s3 s4 s5 s6 s7 s8 s9 s10 s11 s12 s13)) (fun s0 s1 s2 s3 s4 s5 s6 s7 s8 s9 s10 s11 s12 s13 s14 s15 s16 s17 s18 s19 => iter (wq0 k X_ref10_reader_block X_ref10_reader_under).pv (look (wq0 k X_ref10_reader_block X_ref10_reader_under).cuts 1024) (execK (wq0 k X_ref10_reader_block X_ref10_reader_under) k (at_ [1, 1, 1, 1, 1, 1, 1, 1, 1, 1, 0, 0, 0, 1, 0, 1, 1, 0, 1, 0, 0, 1, 0, 0] wqa)) k (wq2d s0 s1 s2 s3 s4 s5 s6 s7 s8 s9 s10 s11 s12 s13 s14 s15 s16 s17 s18 s19) (konts (wq0 k X_ref10_reader_block X_ref10_reader_under) k I [1, 1, 1, 1, 1, 1, 1, 1, 1, 1, 0, 0, 0, 1, 0, 1, 1, 0, 1, 0, 0, 1, 0] wqa (outK (wq0 k X_ref10_reader_block X_ref10_reader_under) wq1b [.tmp 4] (wq10 K)))) s0 s1 s2 s3 s4 s5 s6 s7 s8 s9 s10 s11 s12 s13 K := by kernel_rfl
noncomputable def wq49 (k : Nat) (X_ref10_reader_block : wqr) (X_ref10_reader_under : wqs) {R : Type} (E1019 : wq2y R) (E1024 : ((List (Int × (Int × (Int × ((List UInt8) × Bool))))) → Int → (List (Int × (Int × ((List UInt8) × (Bool × ((List (List UInt8)) × (List Int))))))) → Int → Int → Int → Int → Int → Int → (List UInt8) → Bool → Int → (List (List UInt8)) → (List Int) → Int → Int → Int → (List UInt8) → Bool → Int → Option R)) (s0 : (List (Int × (Int × (Int × ((List UInt8) × Bool)))))) (s1 : Int) (s2 : (List (Int × (Int × ((List UInt8) × (Bool × ((List (List UInt8)) × (List Int)))))))) (s3 s4 s5 s6 s7 s8 : Int) (s9 : (List UInt8)) (s10 : Bool) (s11 : Int) (s12 : (List (List UInt8))) (s13 : (List Int)) (s14 s15 s16 : Int) (s17 : (List UInt8)) (s18 : Bool) (s19 : Int) (K : wqw R) : Option R := (@cond (@Option R) (@Decidable.decide (@LT.lt Int Int.instLTInt s19 (@Nat.cast Int instNatCastInt (@List.length (@Kd.T Kd.str) s12))) (@Int.decLt s19 (@Nat.cast Int instNatCastInt (@List.length (@Kd.T Kd.str) s12)))) (@cond (@Option R) (@inb s19 (@Nat.cast Int instNatCastInt (@List.length (@Kd.T Kd.str) s12))) (@cond (@Option R) (@BEq.beq (@List UInt8) (@List.instBEq UInt8 (@instBEqOfDecidableEq UInt8 @instDecidableEqUInt8)) (@List.getD (@Kd.T Kd.str) s12 (@Int.toNat s19) (@Kd.zero Kd.str)) s17) (@wq23 k R s0 s1 s2 s3 s4 (7 : Int) s15 (fun y25 y26 y27 y28 y29 => (K y25 y26 y27 y28 y29 (0 : Int)))) (E1024 s0 s1 s2 s3 s4 s5 s6 s7 s8 s9 s10 s11 s12 s13 s14 s15 s16 s17 s18 (@Go.IntKind.wrap Go.IntKind.i64 (@HAdd.hAdd Int Int Int (@instHAdd Int @Int.instAdd) s19 (1 : Int))))) (@Option.none R)) (@cond (@Option R) (@fits (@List.length (@Kd.T Kd.str) s12) (@List.length (@Kd.T Kd.str) (s17 :: [])) (16 : Nat)) (X_ref10_reader_under R s0 s1 s2 s3 s4 s14 s15 s16 s17 s18 s5 (fun y25 y26 y27 y28 y29 y30 => (@cond (@Option R) (@fits (@List.length (@Kd.T kI) s13) (@List.length (@Kd.T kI) (y30 :: [])) (8 : Nat)) (E1019 y25 y26 y27 y28 y29 s5 s6 s7 s8 s9 s10 s11 (@HAppend.hAppend (@Kd.T (@Kd.sl Kd.str)) (@List (@Kd.T Kd.str)) (@Kd.T (@Kd.sl Kd.str)) (@instHAppendOfAppend (@Kd.T (@Kd.sl Kd.str)) (@List.instAppend (@Kd.T Kd.str))) s12 (s17 :: [])) (@HAppend.hAppend (@Kd.T (@Kd.sl kI)) (@List (@Kd.T kI)) (@Kd.T (@Kd.sl kI)) (@instHAppendOfAppend (@Kd.T (@Kd.sl kI)) (@List.instAppend (@Kd.T kI))) s13 (y30 :: []))) (@Option.none R)))) (@Option.none R)))
theorem wqcn (k : Nat) (X_ref10_reader_block : wqr) (X_ref10_reader_under : wqs) {R : Type} (I : Nat → St → Option R) (s0 : (List (Int × (Int × (Int × ((List UInt8) × Bool)))))) (s1 : Int) (s2 : (List (Int × (Int × ((List UInt8) × (Bool × ((List (List UInt8)) × (List Int)))))))) (s3 s4 s5 s6 s7 s8 : Int) (s9 : (List UInt8)) (s10 : Bool) (s11 : Int) (s12 : (List (List UInt8))) (s13 : (List Int)) (s14 s15 s16 : Int) (s17 : (List UInt8)) (s18 : Bool) (s19 : Int) (K : wqw R) : execK (wq0 k X_ref10_reader_block X_ref10_reader_under) k (at_ [1, 1, 1, 1, 1, 1, 1, 1, 1, 1, 0, 0, 0, 1, 0, 1, 1, 0, 1, 0, 0, 1, 0, 0] wqa) (wq2d s0 s1 s2 s3 s4 s5 s6 s7 s8 s9 s10 s11 s12 s13 s14 s15 s16 s17 s18 s19) (konts (wq0 k X_ref10_reader_block X_ref10_reader_under) k I [1, 1, 1, 1, 1, 1, 1, 1, 1, 1, 0, 0, 0, 1, 0, 1, 1, 0, 1, 0, 0, 1, 0, 0] wqa (outK (wq0 k X_ref10_reader_block X_ref10_reader_under) wq1b [.tmp 4] (wq10 K))) = wq49 k X_ref10_reader_block X_ref10_reader_under (fun s0 s1 s2 s3 s4 s5 s6 s7 s8 s9 s10 s11 s12 s13 => I 1019 (wq14 s0 s1 s2 s3 s4 s5 s6 s7 s8 s9 s10 s11 s12 s13)) (fun s0 s1 s2 s3 s4 s5 s6 s7 s8 s9 s10 s11 s12 s13 s14 s15 s16 s17 s18 s19 => I 1024 (wq2d s0 s1 s2 s3 s4 s5 s6 s7 s8 s9 s10 s11 s12 s13 s14 s15 s16 s17 s18 s19)) s0 s1 s2 s3 s4 s5 s6 s7 s8 s9 s10 s11 s12 s13 s14 s15 s16 s17 s18 s19 K := by kernel_rfl
noncomputable def wq5t (k : Nat) (X_ref10_reader_block : wqr) (X_ref10_reader_under : wqs) {R : Type} (E1019 : wq2y R) (x0 : (List (Int × (Int × (Int × ((List UInt8) × Bool)))))) (x1 : Int) (x2 : (List (Int × (Int × ((List UInt8) × (Bool × ((List (List UInt8)) × (List Int)))))))) (x3 x4 x5 : Int) (K : wqw R) : Option R := (@cond (@Option R) (@inb x1 (@Nat.cast Int instNatCastInt (@List.length (@Kd.T (@Kd.pr kI (@Kd.pr kI (@Kd.pr kI (@Kd.pr Kd.str Kd.bool))))) x0))) (@cond (@Option R) (@cond (@Kd.T Kd.bool) (@cond (@Kd.T Kd.bool) (@bne Int (@instBEqOfDecidableEq Int @Int.instDecidableEq) (@List.getD (@Kd.T (@Kd.pr kI (@Kd.pr kI (@Kd.pr kI (@Kd.pr Kd.str Kd.bool))))) x0 (@Int.toNat x1) (@Kd.zero (@Kd.pr kI (@Kd.pr kI (@Kd.pr kI (@Kd.pr Kd.str Kd.bool)))))).1 (3 : Int)) (@bne Int (@instBEqOfDecidableEq Int @Int.instDecidableEq) (@List.getD (@Kd.T (@Kd.pr kI (@Kd.pr kI (@Kd.pr kI (@Kd.pr Kd.str Kd.bool))))) x0 (@Int.toNat x1) (@Kd.zero (@Kd.pr kI (@Kd.pr kI (@Kd.pr kI (@Kd.pr Kd.str Kd.bool)))))).1 (1 : Int)) Bool.false) (@bne Int (@instBEqOfDecidableEq Int @Int.instDecidableEq) (@List.getD (@Kd.T (@Kd.pr kI (@Kd.pr kI (@Kd.pr kI (@Kd.pr Kd.str Kd.bool))))) x0 (@Int.toNat x1) (@Kd.zero (@Kd.pr kI (@Kd.pr kI (@Kd.pr kI (@Kd.pr Kd.str Kd.bool)))))).1 (2 : Int)) Bool.false) (@wq23 k R x0 x1 x2 x3 x4 (6 : Int) (@List.getD (@Kd.T (@Kd.pr kI (@Kd.pr kI (@Kd.pr kI (@Kd.pr Kd.str Kd.bool))))) x0 (@Int.toNat x1) (@Kd.zero (@Kd.pr kI (@Kd.pr kI (@Kd.pr kI (@Kd.pr Kd.str Kd.bool)))))).2.1 (fun y11 y12 y13 y14 y15 => (K y11 y12 y13 y14 y15 (0 : Int)))) (@cond (@Option R) (@Decidable.decide (@GT.gt Int Int.instLTInt x5 (24 : Int)) (@Int.decLt (24 : Int) x5)) (@wq23 k R x0 x1 x2 x3 x4 (8 : Int) (@List.getD (@Kd.T (@Kd.pr kI (@Kd.pr kI (@Kd.pr kI (@Kd.pr Kd.str Kd.bool))))) x0 (@Int.toNat x1) (@Kd.zero (@Kd.pr kI (@Kd.pr kI (@Kd.pr kI (@Kd.pr Kd.str Kd.bool)))))).2.1 (fun y11 y12 y13 y14 y15 => (K y11 y12 y13 y14 y15 (0 : Int)))) (@cond (@Option R) (@Decidable.decide (@GE.ge Int Int.instLEInt (@Nat.cast Int instNatCastInt (@List.length (@Kd.T (@Kd.pr kI (@Kd.pr kI (@Kd.pr Kd.str (@Kd.pr Kd.bool (@Kd.pr (@Kd.sl Kd.str) (@Kd.sl kI))))))) x2)) (2000 : Int)) (@Int.decLe (2000 : Int) (@Nat.cast Int instNatCastInt (@List.length (@Kd.T (@Kd.pr kI (@Kd.pr kI (@Kd.pr Kd.str (@Kd.pr Kd.bool (@Kd.pr (@Kd.sl Kd.str) (@Kd.sl kI))))))) x2)))) (@wq23 k R x0 x1 x2 x3 x4 (9 : Int) (@List.getD (@Kd.T (@Kd.pr kI (@Kd.pr kI (@Kd.pr kI (@Kd.pr Kd.str Kd.bool))))) x0 (@Int.toNat x1) (@Kd.zero (@Kd.pr kI (@Kd.pr kI (@Kd.pr kI (@Kd.pr Kd.str Kd.bool)))))).2.1 (fun y11 y12 y13 y14 y15 => (K y11 y12 y13 y14 y15 (0 : Int)))) (@cond (@Option R) (@fits (@List.length (@Kd.T (@Kd.pr kI (@Kd.pr kI (@Kd.pr Kd.str (@Kd.pr Kd.bool (@Kd.pr (@Kd.sl Kd.str) (@Kd.sl kI))))))) x2) (@List.length (@Kd.T (@Kd.pr kI (@Kd.pr kI (@Kd.pr Kd.str (@Kd.pr Kd.bool (@Kd.pr (@Kd.sl Kd.str) (@Kd.sl kI))))))) (((0 : (@Kd.T kI)), ((@List.getD (@Kd.T (@Kd.pr kI (@Kd.pr kI (@Kd.pr kI (@Kd.pr Kd.str Kd.bool))))) x0 (@Int.toNat x1) (@Kd.zero (@Kd.pr kI (@Kd.pr kI (@Kd.pr kI (@Kd.pr Kd.str Kd.bool)))))).2.1, ([], (Bool.false, ([], []))))) :: [])) (88 : Nat)) (@cond (@Option R) (@BEq.beq Int (@instBEqOfDecidableEq Int @Int.instDecidableEq) (@List.getD (@Kd.T (@Kd.pr kI (@Kd.pr kI (@Kd.pr kI (@Kd.pr Kd.str Kd.bool))))) x0 (@Int.toNat x1) (@Kd.zero (@Kd.pr kI (@Kd.pr kI (@Kd.pr kI (@Kd.pr Kd.str Kd.bool)))))).1 (3 : Int)) (@cond (@Option R) (@inb (@Nat.cast Int instNatCastInt (@List.length (@Kd.T (@Kd.pr kI (@Kd.pr kI (@Kd.pr Kd.str (@Kd.pr Kd.bool (@Kd.pr (@Kd.sl Kd.str) (@Kd.sl kI))))))) x2)) (@Nat.cast Int instNatCastInt (@List.length (@Kd.T (@Kd.pr kI (@Kd.pr kI (@Kd.pr Kd.str (@Kd.pr Kd.bool (@Kd.pr (@Kd.sl Kd.str) (@Kd.sl kI))))))) (@HAppend.hAppend (@Kd.T (@Kd.sl (@Kd.pr kI (@Kd.pr kI (@Kd.pr Kd.str (@Kd.pr Kd.bool (@Kd.pr (@Kd.sl Kd.str) (@Kd.sl kI)))))))) (@List (@Kd.T (@Kd.pr kI (@Kd.pr kI (@Kd.pr Kd.str (@Kd.pr Kd.bool (@Kd.pr (@Kd.sl Kd.str) (@Kd.sl kI)))))))) (@Kd.T (@Kd.sl (@Kd.pr kI (@Kd.pr kI (@Kd.pr Kd.str (@Kd.pr Kd.bool (@Kd.pr (@Kd.sl Kd.str) (@Kd.sl kI)))))))) (@instHAppendOfAppend (@Kd.T (@Kd.sl (@Kd.pr kI (@Kd.pr kI (@Kd.pr Kd.str (@Kd.pr Kd.bool (@Kd.pr (@Kd.sl Kd.str) (@Kd.sl kI)))))))) (@List.instAppend (@Kd.T (@Kd.pr kI (@Kd.pr kI (@Kd.pr Kd.str (@Kd.pr Kd.bool (@Kd.pr (@Kd.sl Kd.str) (@Kd.sl kI))))))))) x2 (((0 : (@Kd.T kI)), ((@List.getD (@Kd.T (@Kd.pr kI (@Kd.pr kI (@Kd.pr kI (@Kd.pr Kd.str Kd.bool))))) x0 (@Int.toNat x1) (@Kd.zero (@Kd.pr kI (@Kd.pr kI (@Kd.pr kI (@Kd.pr Kd.str Kd.bool)))))).2.1, ([], (Bool.false, ([], []))))) :: []))))) (@SH (@List (@Kd.T (@Kd.pr kI (@Kd.pr kI (@Kd.pr Kd.str (@Kd.pr Kd.bool (@Kd.pr (@Kd.sl Kd.str) (@Kd.sl kI)))))))) R (@List.set (@Kd.T (@Kd.pr kI (@Kd.pr kI (@Kd.pr Kd.str (@Kd.pr Kd.bool (@Kd.pr (@Kd.sl Kd.str) (@Kd.sl kI))))))) (@HAppend.hAppend (@Kd.T (@Kd.sl (@Kd.pr kI (@Kd.pr kI (@Kd.pr Kd.str (@Kd.pr Kd.bool (@Kd.pr (@Kd.sl Kd.str) (@Kd.sl kI)))))))) (@List (@Kd.T (@Kd.pr kI (@Kd.pr kI (@Kd.pr Kd.str (@Kd.pr Kd.bool (@Kd.pr (@Kd.sl Kd.str) (@Kd.sl kI)))))))) (@Kd.T (@Kd.sl (@Kd.pr kI (@Kd.pr kI (@Kd.pr Kd.str (@Kd.pr Kd.bool (@Kd.pr (@Kd.sl Kd.str) (@Kd.sl kI)))))))) (@instHAppendOfAppend (@Kd.T (@Kd.sl (@Kd.pr kI (@Kd.pr kI (@Kd.pr Kd.str (@Kd.pr Kd.bool (@Kd.pr (@Kd.sl Kd.str) (@Kd.sl kI)))))))) (@List.instAppend (@Kd.T (@Kd.pr kI (@Kd.pr kI (@Kd.pr Kd.str (@Kd.pr Kd.bool (@Kd.pr (@Kd.sl Kd.str) (@Kd.sl kI))))))))) x2 (((0 : (@Kd.T kI)), ((@List.getD (@Kd.T (@Kd.pr kI (@Kd.pr kI (@Kd.pr kI (@Kd.pr Kd.str Kd.bool))))) x0 (@Int.toNat x1) (@Kd.zero (@Kd.pr kI (@Kd.pr kI (@Kd.pr kI (@Kd.pr Kd.str Kd.bool)))))).2.1, ([], (Bool.false, ([], []))))) :: [])) (@Int.toNat (@Nat.cast Int instNatCastInt (@List.length (@Kd.T (@Kd.pr kI (@Kd.pr kI (@Kd.pr Kd.str (@Kd.pr Kd.bool (@Kd.pr (@Kd.sl Kd.str) (@Kd.sl kI))))))) x2))) ((1 : Int), ((@List.getD (@Kd.T (@Kd.pr kI (@Kd.pr kI (@Kd.pr Kd.str (@Kd.pr Kd.bool (@Kd.pr (@Kd.sl Kd.str) (@Kd.sl kI))))))) (@HAppend.hAppend (@Kd.T (@Kd.sl (@Kd.pr kI (@Kd.pr kI (@Kd.pr Kd.str (@Kd.pr Kd.bool (@Kd.pr (@Kd.sl Kd.str) (@Kd.sl kI)))))))) (@List (@Kd.T (@Kd.pr kI (@Kd.pr kI (@Kd.pr Kd.str (@Kd.pr Kd.bool (@Kd.pr (@Kd.sl Kd.str) (@Kd.sl kI)))))))) (@Kd.T (@Kd.sl (@Kd.pr kI (@Kd.pr kI (@Kd.pr Kd.str (@Kd.pr Kd.bool (@Kd.pr (@Kd.sl Kd.str) (@Kd.sl kI)))))))) (@instHAppendOfAppend (@Kd.T (@Kd.sl (@Kd.pr kI (@Kd.pr kI (@Kd.pr Kd.str (@Kd.pr Kd.bool (@Kd.pr (@Kd.sl Kd.str) (@Kd.sl kI)))))))) (@List.instAppend (@Kd.T (@Kd.pr kI (@Kd.pr kI (@Kd.pr Kd.str (@Kd.pr Kd.bool (@Kd.pr (@Kd.sl Kd.str) (@Kd.sl kI))))))))) x2 (((0 : (@Kd.T kI)), ((@List.getD (@Kd.T (@Kd.pr kI (@Kd.pr kI (@Kd.pr kI (@Kd.pr Kd.str Kd.bool))))) x0 (@Int.toNat x1) (@Kd.zero (@Kd.pr kI (@Kd.pr kI (@Kd.pr kI (@Kd.pr Kd.str Kd.bool)))))).2.1, ([], (Bool.false, ([], []))))) :: [])) (@Int.toNat (@Nat.cast Int instNatCastInt (@List.length (@Kd.T (@Kd.pr kI (@Kd.pr kI (@Kd.pr Kd.str (@Kd.pr Kd.bool (@Kd.pr (@Kd.sl Kd.str) (@Kd.sl kI))))))) x2))) (@Kd.zero (@Kd.pr kI (@Kd.pr kI (@Kd.pr Kd.str (@Kd.pr Kd.bool (@Kd.pr (@Kd.sl Kd.str) (@Kd.sl kI)))))))).2.1, ((@List.getD (@Kd.T (@Kd.pr kI (@Kd.pr kI (@Kd.pr Kd.str (@Kd.pr Kd.bool (@Kd.pr (@Kd.sl Kd.str) (@Kd.sl kI))))))) (@HAppend.hAppend (@Kd.T (@Kd.sl (@Kd.pr kI (@Kd.pr kI (@Kd.pr Kd.str (@Kd.pr Kd.bool (@Kd.pr (@Kd.sl Kd.str) (@Kd.sl kI)))))))) (@List (@Kd.T (@Kd.pr kI (@Kd.pr kI (@Kd.pr Kd.str (@Kd.pr Kd.bool (@Kd.pr (@Kd.sl Kd.str) (@Kd.sl kI)))))))) (@Kd.T (@Kd.sl (@Kd.pr kI (@Kd.pr kI (@Kd.pr Kd.str (@Kd.pr Kd.bool (@Kd.pr (@Kd.sl Kd.str) (@Kd.sl kI)))))))) (@instHAppendOfAppend (@Kd.T (@Kd.sl (@Kd.pr kI (@Kd.pr kI (@Kd.pr Kd.str (@Kd.pr Kd.bool (@Kd.pr (@Kd.sl Kd.str) (@Kd.sl kI)))))))) (@List.instAppend (@Kd.T (@Kd.pr kI (@Kd.pr kI (@Kd.pr Kd.str (@Kd.pr Kd.bool (@Kd.pr (@Kd.sl Kd.str) (@Kd.sl kI))))))))) x2 (((0 : (@Kd.T kI)), ((@List.getD (@Kd.T (@Kd.pr kI (@Kd.pr kI (@Kd.pr kI (@Kd.pr Kd.str Kd.bool))))) x0 (@Int.toNat x1) (@Kd.zero (@Kd.pr kI (@Kd.pr kI (@Kd.pr kI (@Kd.pr Kd.str Kd.bool)))))).2.1, ([], (Bool.false, ([], []))))) :: [])) (@Int.toNat (@Nat.cast Int instNatCastInt (@List.length (@Kd.T (@Kd.pr kI (@Kd.pr kI (@Kd.pr Kd.str (@Kd.pr Kd.bool (@Kd.pr (@Kd.sl Kd.str) (@Kd.sl kI))))))) x2))) (@Kd.zero (@Kd.pr kI (@Kd.pr kI (@Kd.pr Kd.str (@Kd.pr Kd.bool (@Kd.pr (@Kd.sl Kd.str) (@Kd.sl kI)))))))).2.2.1, ((@List.getD (@Kd.T (@Kd.pr kI (@Kd.pr kI (@Kd.pr Kd.str (@Kd.pr Kd.bool (@Kd.pr (@Kd.sl Kd.str) (@Kd.sl kI))))))) (@HAppend.hAppend (@Kd.T (@Kd.sl (@Kd.pr kI (@Kd.pr kI (@Kd.pr Kd.str (@Kd.pr Kd.bool (@Kd.pr (@Kd.sl Kd.str) (@Kd.sl kI)))))))) (@List (@Kd.T (@Kd.pr kI (@Kd.pr kI (@Kd.pr Kd.str (@Kd.pr Kd.bool (@Kd.pr (@Kd.sl Kd.str) (@Kd.sl kI)))))))) (@Kd.T (@Kd.sl (@Kd.pr kI (@Kd.pr kI (@Kd.pr Kd.str (@Kd.pr Kd.bool (@Kd.pr (@Kd.sl Kd.str) (@Kd.sl kI)))))))) (@instHAppendOfAppend (@Kd.T (@Kd.sl (@Kd.pr kI (@Kd.pr kI (@Kd.pr Kd.str (@Kd.pr Kd.bool (@Kd.pr (@Kd.sl Kd.str) (@Kd.sl kI)))))))) (@List.instAppend (@Kd.T (@Kd.pr kI (@Kd.pr kI (@Kd.pr Kd.str (@Kd.pr Kd.bool (@Kd.pr (@Kd.sl Kd.str) (@Kd.sl kI))))))))) x2 (((0 : (@Kd.T kI)), ((@List.getD (@Kd.T (@Kd.pr kI (@Kd.pr kI (@Kd.pr kI (@Kd.pr Kd.str Kd.bool))))) x0 (@Int.toNat x1) (@Kd.zero (@Kd.pr kI (@Kd.pr kI (@Kd.pr kI (@Kd.pr Kd.str Kd.bool)))))).2.1, ([], (Bool.false, ([], []))))) :: [])) (@Int.toNat (@Nat.cast Int instNatCastInt (@List.length (@Kd.T (@Kd.pr kI (@Kd.pr kI (@Kd.pr Kd.str (@Kd.pr Kd.bool (@Kd.pr (@Kd.sl Kd.str) (@Kd.sl kI))))))) x2))) (@Kd.zero (@Kd.pr kI (@Kd.pr kI (@Kd.pr Kd.str (@Kd.pr Kd.bool (@Kd.pr (@Kd.sl Kd.str) (@Kd.sl kI)))))))).2.2.2.1, ((@List.getD (@Kd.T (@Kd.pr kI (@Kd.pr kI (@Kd.pr Kd.str (@Kd.pr Kd.bool (@Kd.pr (@Kd.sl Kd.str) (@Kd.sl kI))))))) (@HAppend.hAppend (@Kd.T (@Kd.sl (@Kd.pr kI (@Kd.pr kI (@Kd.pr Kd.str (@Kd.pr Kd.bool (@Kd.pr (@Kd.sl Kd.str) (@Kd.sl kI)))))))) (@List (@Kd.T (@Kd.pr kI (@Kd.pr kI (@Kd.pr Kd.str (@Kd.pr Kd.bool (@Kd.pr (@Kd.sl Kd.str) (@Kd.sl kI)))))))) (@Kd.T (@Kd.sl (@Kd.pr kI (@Kd.pr kI (@Kd.pr Kd.str (@Kd.pr Kd.bool (@Kd.pr (@Kd.sl Kd.str) (@Kd.sl kI)))))))) (@instHAppendOfAppend (@Kd.T (@Kd.sl (@Kd.pr kI (@Kd.pr kI (@Kd.pr Kd.str (@Kd.pr Kd.bool (@Kd.pr (@Kd.sl Kd.str) (@Kd.sl kI)))))))) (@List.instAppend (@Kd.T (@Kd.pr kI (@Kd.pr kI (@Kd.pr Kd.str (@Kd.pr Kd.bool (@Kd.pr (@Kd.sl Kd.str) (@Kd.sl kI))))))))) x2 (((0 : (@Kd.T kI)), ((@List.getD (@Kd.T (@Kd.pr kI (@Kd.pr kI (@Kd.pr kI (@Kd.pr Kd.str Kd.bool))))) x0 (@Int.toNat x1) (@Kd.zero (@Kd.pr kI (@Kd.pr kI (@Kd.pr kI (@Kd.pr Kd.str Kd.bool)))))).2.1, ([], (Bool.false, ([], []))))) :: [])) (@Int.toNat (@Nat.cast Int instNatCastInt (@List.length (@Kd.T (@Kd.pr kI (@Kd.pr kI (@Kd.pr Kd.str (@Kd.pr Kd.bool (@Kd.pr (@Kd.sl Kd.str) (@Kd.sl kI))))))) x2))) (@Kd.zero (@Kd.pr kI (@Kd.pr kI (@Kd.pr Kd.str (@Kd.pr Kd.bool (@Kd.pr (@Kd.sl Kd.str) (@Kd.sl kI)))))))).2.2.2.2.1, (@List.getD (@Kd.T (@Kd.pr kI (@Kd.pr kI (@Kd.pr Kd.str (@Kd.pr Kd.bool (@Kd.pr (@Kd.sl Kd.str) (@Kd.sl kI))))))) (@HAppend.hAppend (@Kd.T (@Kd.sl (@Kd.pr kI (@Kd.pr kI (@Kd.pr Kd.str (@Kd.pr Kd.bool (@Kd.pr (@Kd.sl Kd.str) (@Kd.sl kI)))))))) (@List (@Kd.T (@Kd.pr kI (@Kd.pr kI (@Kd.pr Kd.str (@Kd.pr Kd.bool (@Kd.pr (@Kd.sl Kd.str) (@Kd.sl kI)))))))) (@Kd.T (@Kd.sl (@Kd.pr kI (@Kd.pr kI (@Kd.pr Kd.str (@Kd.pr Kd.bool (@Kd.pr (@Kd.sl Kd.str) (@Kd.sl kI)))))))) (@instHAppendOfAppend (@Kd.T (@Kd.sl (@Kd.pr kI (@Kd.pr kI (@Kd.pr Kd.str (@Kd.pr Kd.bool (@Kd.pr (@Kd.sl Kd.str) (@Kd.sl kI)))))))) (@List.instAppend (@Kd.T (@Kd.pr kI (@Kd.pr kI (@Kd.pr Kd.str (@Kd.pr Kd.bool (@Kd.pr (@Kd.sl Kd.str) (@Kd.sl kI))))))))) x2 (((0 : (@Kd.T kI)), ((@List.getD (@Kd.T (@Kd.pr kI (@Kd.pr kI (@Kd.pr kI (@Kd.pr Kd.str Kd.bool))))) x0 (@Int.toNat x1) (@Kd.zero (@Kd.pr kI (@Kd.pr kI (@Kd.pr kI (@Kd.pr Kd.str Kd.bool)))))).2.1, ([], (Bool.false, ([], []))))) :: [])) (@Int.toNat (@Nat.cast Int instNatCastInt (@List.length (@Kd.T (@Kd.pr kI (@Kd.pr kI (@Kd.pr Kd.str (@Kd.pr Kd.bool (@Kd.pr (@Kd.sl Kd.str) (@Kd.sl kI))))))) x2))) (@Kd.zero (@Kd.pr kI (@Kd.pr kI (@Kd.pr Kd.str (@Kd.pr Kd.bool (@Kd.pr (@Kd.sl Kd.str) (@Kd.sl kI)))))))).2.2.2.2.2)))))) (fun y11 => (@cond (@Option R) (@inb (@Nat.cast Int instNatCastInt (@List.length (@Kd.T (@Kd.pr kI (@Kd.pr kI (@Kd.pr Kd.str (@Kd.pr Kd.bool (@Kd.pr (@Kd.sl Kd.str) (@Kd.sl kI))))))) x2)) (@Nat.cast Int instNatCastInt (@List.length (@Kd.T (@Kd.pr kI (@Kd.pr kI (@Kd.pr Kd.str (@Kd.pr Kd.bool (@Kd.pr (@Kd.sl Kd.str) (@Kd.sl kI))))))) y11))) (@SH (@List (@Kd.T (@Kd.pr kI (@Kd.pr kI (@Kd.pr Kd.str (@Kd.pr Kd.bool (@Kd.pr (@Kd.sl Kd.str) (@Kd.sl kI)))))))) R (@List.set (@Kd.T (@Kd.pr kI (@Kd.pr kI (@Kd.pr Kd.str (@Kd.pr Kd.bool (@Kd.pr (@Kd.sl Kd.str) (@Kd.sl kI))))))) y11 (@Int.toNat (@Nat.cast Int instNatCastInt (@List.length (@Kd.T (@Kd.pr kI (@Kd.pr kI (@Kd.pr Kd.str (@Kd.pr Kd.bool (@Kd.pr (@Kd.sl Kd.str) (@Kd.sl kI))))))) x2))) ((@List.getD (@Kd.T (@Kd.pr kI (@Kd.pr kI (@Kd.pr Kd.str (@Kd.pr Kd.bool (@Kd.pr (@Kd.sl Kd.str) (@Kd.sl kI))))))) y11 (@Int.toNat (@Nat.cast Int instNatCastInt (@List.length (@Kd.T (@Kd.pr kI (@Kd.pr kI (@Kd.pr Kd.str (@Kd.pr Kd.bool (@Kd.pr (@Kd.sl Kd.str) (@Kd.sl kI))))))) x2))) (@Kd.zero (@Kd.pr kI (@Kd.pr kI (@Kd.pr Kd.str (@Kd.pr Kd.bool (@Kd.pr (@Kd.sl Kd.str) (@Kd.sl kI)))))))).1, ((@List.getD (@Kd.T (@Kd.pr kI (@Kd.pr kI (@Kd.pr Kd.str (@Kd.pr Kd.bool (@Kd.pr (@Kd.sl Kd.str) (@Kd.sl kI))))))) y11 (@Int.toNat (@Nat.cast Int instNatCastInt (@List.length (@Kd.T (@Kd.pr kI (@Kd.pr kI (@Kd.pr Kd.str (@Kd.pr Kd.bool (@Kd.pr (@Kd.sl Kd.str) (@Kd.sl kI))))))) x2))) (@Kd.zero (@Kd.pr kI (@Kd.pr kI (@Kd.pr Kd.str (@Kd.pr Kd.bool (@Kd.pr (@Kd.sl Kd.str) (@Kd.sl kI)))))))).2.1, ((@List.getD (@Kd.T (@Kd.pr kI (@Kd.pr kI (@Kd.pr kI (@Kd.pr Kd.str Kd.bool))))) x0 (@Int.toNat x1) (@Kd.zero (@Kd.pr kI (@Kd.pr kI (@Kd.pr kI (@Kd.pr Kd.str Kd.bool)))))).2.2.2.1, ((@List.getD (@Kd.T (@Kd.pr kI (@Kd.pr kI (@Kd.pr Kd.str (@Kd.pr Kd.bool (@Kd.pr (@Kd.sl Kd.str) (@Kd.sl kI))))))) y11 (@Int.toNat (@Nat.cast Int instNatCastInt (@List.length (@Kd.T (@Kd.pr kI (@Kd.pr kI (@Kd.pr Kd.str (@Kd.pr Kd.bool (@Kd.pr (@Kd.sl Kd.str) (@Kd.sl kI))))))) x2))) (@Kd.zero (@Kd.pr kI (@Kd.pr kI (@Kd.pr Kd.str (@Kd.pr Kd.bool (@Kd.pr (@Kd.sl Kd.str) (@Kd.sl kI)))))))).2.2.2.1, ((@List.getD (@Kd.T (@Kd.pr kI (@Kd.pr kI (@Kd.pr Kd.str (@Kd.pr Kd.bool (@Kd.pr (@Kd.sl Kd.str) (@Kd.sl kI))))))) y11 (@Int.toNat (@Nat.cast Int instNatCastInt (@List.length (@Kd.T (@Kd.pr kI (@Kd.pr kI (@Kd.pr Kd.str (@Kd.pr Kd.bool (@Kd.pr (@Kd.sl Kd.str) (@Kd.sl kI))))))) x2))) (@Kd.zero (@Kd.pr kI (@Kd.pr kI (@Kd.pr Kd.str (@Kd.pr Kd.bool (@Kd.pr (@Kd.sl Kd.str) (@Kd.sl kI)))))))).2.2.2.2.1, (@List.getD (@Kd.T (@Kd.pr kI (@Kd.pr kI (@Kd.pr Kd.str (@Kd.pr Kd.bool (@Kd.pr (@Kd.sl Kd.str) (@Kd.sl kI))))))) y11 (@Int.toNat (@Nat.cast Int instNatCastInt (@List.length (@Kd.T (@Kd.pr kI (@Kd.pr kI (@Kd.pr Kd.str (@Kd.pr Kd.bool (@Kd.pr (@Kd.sl Kd.str) (@Kd.sl kI))))))) x2))) (@Kd.zero (@Kd.pr kI (@Kd.pr kI (@Kd.pr Kd.str (@Kd.pr Kd.bool (@Kd.pr (@Kd.sl Kd.str) (@Kd.sl kI)))))))).2.2.2.2.2)))))) (fun y12 => (@cond (@Option R) (@inb (@Nat.cast Int instNatCastInt (@List.length (@Kd.T (@Kd.pr kI (@Kd.pr kI (@Kd.pr Kd.str (@Kd.pr Kd.bool (@Kd.pr (@Kd.sl Kd.str) (@Kd.sl kI))))))) x2)) (@Nat.cast Int instNatCastInt (@List.length (@Kd.T (@Kd.pr kI (@Kd.pr kI (@Kd.pr Kd.str (@Kd.pr Kd.bool (@Kd.pr (@Kd.sl Kd.str) (@Kd.sl kI))))))) y12))) (@SH (@List (@Kd.T (@Kd.pr kI (@Kd.pr kI (@Kd.pr Kd.str (@Kd.pr Kd.bool (@Kd.pr (@Kd.sl Kd.str) (@Kd.sl kI)))))))) R (@List.set (@Kd.T (@Kd.pr kI (@Kd.pr kI (@Kd.pr Kd.str (@Kd.pr Kd.bool (@Kd.pr (@Kd.sl Kd.str) (@Kd.sl kI))))))) y12 (@Int.toNat (@Nat.cast Int instNatCastInt (@List.length (@Kd.T (@Kd.pr kI (@Kd.pr kI (@Kd.pr Kd.str (@Kd.pr Kd.bool (@Kd.pr (@Kd.sl Kd.str) (@Kd.sl kI))))))) x2))) ((@List.getD (@Kd.T (@Kd.pr kI (@Kd.pr kI (@Kd.pr Kd.str (@Kd.pr Kd.bool (@Kd.pr (@Kd.sl Kd.str) (@Kd.sl kI))))))) y12 (@Int.toNat (@Nat.cast Int instNatCastInt (@List.length (@Kd.T (@Kd.pr kI (@Kd.pr kI (@Kd.pr Kd.str (@Kd.pr Kd.bool (@Kd.pr (@Kd.sl Kd.str) (@Kd.sl kI))))))) x2))) (@Kd.zero (@Kd.pr kI (@Kd.pr kI (@Kd.pr Kd.str (@Kd.pr Kd.bool (@Kd.pr (@Kd.sl Kd.str) (@Kd.sl kI)))))))).1, ((@List.getD (@Kd.T (@Kd.pr kI (@Kd.pr kI (@Kd.pr Kd.str (@Kd.pr Kd.bool (@Kd.pr (@Kd.sl Kd.str) (@Kd.sl kI))))))) y12 (@Int.toNat (@Nat.cast Int instNatCastInt (@List.length (@Kd.T (@Kd.pr kI (@Kd.pr kI (@Kd.pr Kd.str (@Kd.pr Kd.bool (@Kd.pr (@Kd.sl Kd.str) (@Kd.sl kI))))))) x2))) (@Kd.zero (@Kd.pr kI (@Kd.pr kI (@Kd.pr Kd.str (@Kd.pr Kd.bool (@Kd.pr (@Kd.sl Kd.str) (@Kd.sl kI)))))))).2.1, ((@List.getD (@Kd.T (@Kd.pr kI (@Kd.pr kI (@Kd.pr Kd.str (@Kd.pr Kd.bool (@Kd.pr (@Kd.sl Kd.str) (@Kd.sl kI))))))) y12 (@Int.toNat (@Nat.cast Int instNatCastInt (@List.length (@Kd.T (@Kd.pr kI (@Kd.pr kI (@Kd.pr Kd.str (@Kd.pr Kd.bool (@Kd.pr (@Kd.sl Kd.str) (@Kd.sl kI))))))) x2))) (@Kd.zero (@Kd.pr kI (@Kd.pr kI (@Kd.pr Kd.str (@Kd.pr Kd.bool (@Kd.pr (@Kd.sl Kd.str) (@Kd.sl kI)))))))).2.2.1, ((@List.getD (@Kd.T (@Kd.pr kI (@Kd.pr kI (@Kd.pr kI (@Kd.pr Kd.str Kd.bool))))) x0 (@Int.toNat x1) (@Kd.zero (@Kd.pr kI (@Kd.pr kI (@Kd.pr kI (@Kd.pr Kd.str Kd.bool)))))).2.2.2.2, ((@List.getD (@Kd.T (@Kd.pr kI (@Kd.pr kI (@Kd.pr Kd.str (@Kd.pr Kd.bool (@Kd.pr (@Kd.sl Kd.str) (@Kd.sl kI))))))) y12 (@Int.toNat (@Nat.cast Int instNatCastInt (@List.length (@Kd.T (@Kd.pr kI (@Kd.pr kI (@Kd.pr Kd.str (@Kd.pr Kd.bool (@Kd.pr (@Kd.sl Kd.str) (@Kd.sl kI))))))) x2))) (@Kd.zero (@Kd.pr kI (@Kd.pr kI (@Kd.pr Kd.str (@Kd.pr Kd.bool (@Kd.pr (@Kd.sl Kd.str) (@Kd.sl kI)))))))).2.2.2.2.1, (@List.getD (@Kd.T (@Kd.pr kI (@Kd.pr kI (@Kd.pr Kd.str (@Kd.pr Kd.bool (@Kd.pr (@Kd.sl Kd.str) (@Kd.sl kI))))))) y12 (@Int.toNat (@Nat.cast Int instNatCastInt (@List.length (@Kd.T (@Kd.pr kI (@Kd.pr kI (@Kd.pr Kd.str (@Kd.pr Kd.bool (@Kd.pr (@Kd.sl Kd.str) (@Kd.sl kI))))))) x2))) (@Kd.zero (@Kd.pr kI (@Kd.pr kI (@Kd.pr Kd.str (@Kd.pr Kd.bool (@Kd.pr (@Kd.sl Kd.str) (@Kd.sl kI)))))))).2.2.2.2.2)))))) (fun y13 => (K x0 (@Go.IntKind.wrap Go.IntKind.i64 (@HAdd.hAdd Int Int Int (@instHAdd Int @Int.instAdd) x1 (1 : Int))) y13 x3 x4 (@Nat.cast Int instNatCastInt (@List.length (@Kd.T (@Kd.pr kI (@Kd.pr kI (@Kd.pr Kd.str (@Kd.pr Kd.bool (@Kd.pr (@Kd.sl Kd.str) (@Kd.sl kI))))))) x2))))) (@Option.none R)))) (@Option.none R)))) (@Option.none R)) (E1019 x0 x1 (@HAppend.hAppend (@Kd.T (@Kd.sl (@Kd.pr kI (@Kd.pr kI (@Kd.pr Kd.str (@Kd.pr Kd.bool (@Kd.pr (@Kd.sl Kd.str) (@Kd.sl kI)))))))) (@List (@Kd.T (@Kd.pr kI (@Kd.pr kI (@Kd.pr Kd.str (@Kd.pr Kd.bool (@Kd.pr (@Kd.sl Kd.str) (@Kd.sl kI)))))))) (@Kd.T (@Kd.sl (@Kd.pr kI (@Kd.pr kI (@Kd.pr Kd.str (@Kd.pr Kd.bool (@Kd.pr (@Kd.sl Kd.str) (@Kd.sl kI)))))))) (@instHAppendOfAppend (@Kd.T (@Kd.sl (@Kd.pr kI (@Kd.pr kI (@Kd.pr Kd.str (@Kd.pr Kd.bool (@Kd.pr (@Kd.sl Kd.str) (@Kd.sl kI)))))))) (@List.instAppend (@Kd.T (@Kd.pr kI (@Kd.pr kI (@Kd.pr Kd.str (@Kd.pr Kd.bool (@Kd.pr (@Kd.sl Kd.str) (@Kd.sl kI))))))))) x2 (((0 : (@Kd.T kI)), ((@List.getD (@Kd.T (@Kd.pr kI (@Kd.pr kI (@Kd.pr kI (@Kd.pr Kd.str Kd.bool))))) x0 (@Int.toNat x1) (@Kd.zero (@Kd.pr kI (@Kd.pr kI (@Kd.pr kI (@Kd.pr Kd.str Kd.bool)))))).2.1, ([], (Bool.false, ([], []))))) :: [])) x3 x4 x5 (@List.getD (@Kd.T (@Kd.pr kI (@Kd.pr kI (@Kd.pr kI (@Kd.pr Kd.str Kd.bool))))) x0 (@Int.toNat x1) (@Kd.zero (@Kd.pr kI (@Kd.pr kI (@Kd.pr kI (@Kd.pr Kd.str Kd.bool)))))).1 (@List.getD (@Kd.T (@Kd.pr kI (@Kd.pr kI (@Kd.pr kI (@Kd.pr Kd.str Kd.bool))))) x0 (@Int.toNat x1) (@Kd.zero (@Kd.pr kI (@Kd.pr kI (@Kd.pr kI (@Kd.pr Kd.str Kd.bool)))))).2.1 (@List.getD (@Kd.T (@Kd.pr kI (@Kd.pr kI (@Kd.pr kI (@Kd.pr Kd.str Kd.bool))))) x0 (@Int.toNat x1) (@Kd.zero (@Kd.pr kI (@Kd.pr kI (@Kd.pr kI (@Kd.pr Kd.str Kd.bool)))))).2.2.1 (@List.getD (@Kd.T (@Kd.pr kI (@Kd.pr kI (@Kd.pr kI (@Kd.pr Kd.str Kd.bool))))) x0 (@Int.toNat x1) (@Kd.zero (@Kd.pr kI (@Kd.pr kI (@Kd.pr kI (@Kd.pr Kd.str Kd.bool)))))).2.2.2.1 (@List.getD (@Kd.T (@Kd.pr kI (@Kd.pr kI (@Kd.pr kI (@Kd.pr Kd.str Kd.bool))))) x0 (@Int.toNat x1) (@Kd.zero (@Kd.pr kI (@Kd.pr kI (@Kd.pr kI (@Kd.pr Kd.str Kd.bool)))))).2.2.2.2 (@Nat.cast Int instNatCastInt (@List.length (@Kd.T (@Kd.pr kI (@Kd.pr kI (@Kd.pr Kd.str (@Kd.pr Kd.bool (@Kd.pr (@Kd.sl Kd.str) (@Kd.sl kI))))))) x2)) [] [])) (@Option.none R))))) (@Option.none R))
theorem wqgg (k : Nat) (X_ref10_reader_block : wqr) (X_ref10_reader_under : wqs) {R : Type} (I : Nat → St → Option R) (x0 : (List (Int × (Int × (Int × ((List UInt8) × Bool)))))) (x1 : Int) (x2 : (List (Int × (Int × ((List UInt8) × (Bool × ((List (List UInt8)) × (List Int)))))))) (x3 x4 x5 : Int) (K : wqw R) : fnK (wq0 k X_ref10_reader_block X_ref10_reader_under) k wqa 242 [.tmp 4] wq1b [.ptr 1 0, .v (.int .i64) x5] [(21, .row 47 (.pr (.int .i64) (.pr (.int .i64) (.pr .str (.pr .bool (.pr (.sl .str) (.sl (.int .i64))))))) x2), (1, .var 55 [.v (.sl (.pr (.int .i64) (.pr (.int .i64) (.pr (.int .i64) (.pr .str .bool))))) x0, .v (.int .i64) x1, .row 21, .v (.int .i64) x3, .v (.int .i64) x4])] (wq10 K) = wq5t k X_ref10_reader_block X_ref10_reader_under (fun s0 s1 s2 s3 s4 s5 s6 s7 s8 s9 s10 s11 s12 s13 => iter (wq0 k X_ref10_reader_block X_ref10_reader_under).pv (look (wq0 k X_ref10_reader_block X_ref10_reader_under).cuts 1019) (execK (wq0 k X_ref10_reader_block X_ref10_reader_under) k (at_ [1, 1, 1, 1, 1, 1, 1, 1, 1, 1, 0, 0, 0] wqa)) k (wq14 s0 s1 s2 s3 s4 s5 s6 s7 s8 s9 s10 s11 s12 s13) (konts (wq0 k X_ref10_reader_block X_ref10_reader_under) k I [1, 1, 1, 1, 1, 1, 1, 1, 1, 1, 0, 0] wqa (outK (wq0 k X_ref10_reader_block X_ref10_reader_under) wq1b [.tmp 4] (wq10 K)))) x0 x1 x2 x3 x4 x5 K := by kernel_rfl
noncomputable def wq1j (k : Nat) (X_ref10_reader_block : wqr) (X_ref10_reader_under : wqs) {R : Type} (J1019 : wq2y R) : Nat → (List (Int × (Int × (Int × ((List UInt8) × Bool))))) → Int → (List (Int × (Int × ((List UInt8) × (Bool × ((List (List UInt8)) × (List Int))))))) → Int → Int → Int → Int → Int → Int → (List UInt8) → Bool → Int → (List (List UInt8)) → (List Int) → Int → Int → Int → (List UInt8) → Bool → Int → ((List (Int × (Int × (Int × ((List UInt8) × Bool))))) → Int → (List (Int × (Int × ((List UInt8) × (Bool × ((List (List UInt8)) × (List Int))))))) → Int → Int → Int → Option R) → Option R
  | 0, _, _, _, _, _, _, _, _, _, _, _, _, _, _, _, _, _, _, _, _, _ => none
  | n + 1, s0, s1, s2, s3, s4, s5, s6, s7, s8, s9, s10, s11, s12, s13, s14, s15, s16, s17, s18, s19, K => wq49 k X_ref10_reader_block X_ref10_reader_under J1019 (fun s0 s1 s2 s3 s4 s5 s6 s7 s8 s9 s10 s11 s12 s13 s14 s15 s16 s17 s18 s19 => wq1j k X_ref10_reader_block X_ref10_reader_under J1019 n s0 s1 s2 s3 s4 s5 s6 s7 s8 s9 s10 s11 s12 s13 s14 s15 s16 s17 s18 s19 K) s0 s1 s2 s3 s4 s5 s6 s7 s8 s9 s10 s11 s12 s13 s14 s15 s16 s17 s18 s19 K
theorem wqco (k : Nat) (X_ref10_reader_block : wqr) (X_ref10_reader_under : wqs) {R : Type} (I : Nat → St → Option R) (K : wqw R) : ∀ (n : Nat) (s0 : (List (Int × (Int × (Int × ((List UInt8) × Bool)))))) (s1 : Int) (s2 : (List (Int × (Int × ((List UInt8) × (Bool × ((List (List UInt8)) × (List Int)))))))) (s3 s4 s5 s6 s7 s8 : Int) (s9 : (List UInt8)) (s10 : Bool) (s11 : Int) (s12 : (List (List UInt8))) (s13 : (List Int)) (s14 s15 s16 : Int) (s17 : (List UInt8)) (s18 : Bool) (s19 : Int), iter (wq0 k X_ref10_reader_block X_ref10_reader_under).pv (look (wq0 k X_ref10_reader_block X_ref10_reader_under).cuts 1024) (execK (wq0 k X_ref10_reader_block X_ref10_reader_under) k (at_ [1, 1, 1, 1, 1, 1, 1, 1, 1, 1, 0, 0, 0, 1, 0, 1, 1, 0, 1, 0, 0, 1, 0, 0] wqa)) n (wq2d s0 s1 s2 s3 s4 s5 s6 s7 s8 s9 s10 s11 s12 s13 s14 s15 s16 s17 s18 s19) (konts (wq0 k X_ref10_reader_block X_ref10_reader_under) k I [1, 1, 1, 1, 1, 1, 1, 1, 1, 1, 0, 0, 0, 1, 0, 1, 1, 0, 1, 0, 0, 1, 0] wqa (outK (wq0 k X_ref10_reader_block X_ref10_reader_under) wq1b [.tmp 4] (wq10 K))) = wq1j k X_ref10_reader_block X_ref10_reader_under (fun s0 s1 s2 s3 s4 s5 s6 s7 s8 s9 s10 s11 s12 s13 => I 1019 (wq14 s0 s1 s2 s3 s4 s5 s6 s7 s8 s9 s10 s11 s12 s13)) n s0 s1 s2 s3 s4 s5 s6 s7 s8 s9 s10 s11 s12 s13 s14 s15 s16 s17 s18 s19 K := by
  intro n
  induction n with
  | zero => intros; rfl
  | succ n ih =>
    intro s0 s1 s2 s3 s4 s5 s6 s7 s8 s9 s10 s11 s12 s13 s14 s15 s16 s17 s18 s19
    let I' : Nat → St → Option R := fun id s => bif Nat.beq id 1024 then iter (wq0 k X_ref10_reader_block X_ref10_reader_under).pv (look (wq0 k X_ref10_reader_block X_ref10_reader_under).cuts 1024) (execK (wq0 k X_ref10_reader_block X_ref10_reader_under) k (at_ [1, 1, 1, 1, 1, 1, 1, 1, 1, 1, 0, 0, 0, 1, 0, 1, 1, 0, 1, 0, 0, 1, 0, 0] wqa)) n s (konts (wq0 k X_ref10_reader_block X_ref10_reader_under) k I [1, 1, 1, 1, 1, 1, 1, 1, 1, 1, 0, 0, 0, 1, 0, 1, 1, 0, 1, 0, 0, 1, 0] wqa (outK (wq0 k X_ref10_reader_block X_ref10_reader_under) wq1b [.tmp 4] (wq10 K))) else I id s
    have e := wqcn k X_ref10_reader_block X_ref10_reader_under I' s0 s1 s2 s3 s4 s5 s6 s7 s8 s9 s10 s11 s12 s13 s14 s15 s16 s17 s18 s19 K
    have h1024 : (fun s0 s1 s2 s3 s4 s5 s6 s7 s8 s9 s10 s11 s12 s13 s14 s15 s16 s17 s18 s19 => I' 1024 (wq2d s0 s1 s2 s3 s4 s5 s6 s7 s8 s9 s10 s11 s12 s13 s14 s15 s16 s17 s18 s19)) = (fun s0 s1 s2 s3 s4 s5 s6 s7 s8 s9 s10 s11 s12 s13 s14 s15 s16 s17 s18 s19 => wq1j k X_ref10_reader_block X_ref10_reader_under (fun s0 s1 s2 s3 s4 s5 s6 s7 s8 s9 s10 s11 s12 s13 => I 1019 (wq14 s0 s1 s2 s3 s4 s5 s6 s7 s8 s9 s10 s11 s12 s13)) n s0 s1 s2 s3 s4 s5 s6 s7 s8 s9 s10 s11 s12 s13 s14 s15 s16 s17 s18 s19 K) := by funext s0 s1 s2 s3 s4 s5 s6 s7 s8 s9 s10 s11 s12 s13 s14 s15 s16 s17 s18 s19; exact ih s0 s1 s2 s3 s4 s5 s6 s7 s8 s9 s10 s11 s12 s13 s14 s15 s16 s17 s18 s19
    refine Eq.trans (?_ : _ = _) (e.trans (Eq.trans ((congrArg ((fun E1024 => wq49 k X_ref10_reader_block X_ref10_reader_under (fun s0 s1 s2 s3 s4 s5 s6 s7 s8 s9 s10 s11 s12 s13 => I 1019 (wq14 s0 s1 s2 s3 s4 s5 s6 s7 s8 s9 s10 s11 s12 s13)) E1024 s0 s1 s2 s3 s4 s5 s6 s7 s8 s9 s10 s11 s12 s13 s14 s15 s16 s17 s18 s19 K)) h1024)) (by rw [wq1j])))
    rfl
noncomputable def wqo (k : Nat) (X_ref10_reader_block : wqr) (X_ref10_reader_under : wqs) {R : Type}  : Nat → (List (Int × (Int × (Int × ((List UInt8) × Bool))))) → Int → (List (Int × (Int × ((List UInt8) × (Bool × ((List (List UInt8)) × (List Int))))))) → Int → Int → Int → Int → Int → Int → (List UInt8) → Bool → Int → (List (List UInt8)) → (List Int) → ((List (Int × (Int × (Int × ((List UInt8) × Bool))))) → Int → (List (Int × (Int × ((List UInt8) × (Bool × ((List (List UInt8)) × (List Int))))))) → Int → Int → Int → Option R) → Option R
  | 0, _, _, _, _, _, _, _, _, _, _, _, _, _, _, _ => none
  | n + 1, s0, s1, s2, s3, s4, s5, s6, s7, s8, s9, s10, s11, s12, s13, K => wq2j k X_ref10_reader_block X_ref10_reader_under (fun s0 s1 s2 s3 s4 s5 s6 s7 s8 s9 s10 s11 s12 s13 => wqo k X_ref10_reader_block X_ref10_reader_under  n s0 s1 s2 s3 s4 s5 s6 s7 s8 s9 s10 s11 s12 s13 K) (fun s0 s1 s2 s3 s4 s5 s6 s7 s8 s9 s10 s11 s12 s13 s14 s15 s16 s17 s18 s19 => wq1j k X_ref10_reader_block X_ref10_reader_under (fun s0 s1 s2 s3 s4 s5 s6 s7 s8 s9 s10 s11 s12 s13 => wqo k X_ref10_reader_block X_ref10_reader_under  n s0 s1 s2 s3 s4 s5 s6 s7 s8 s9 s10 s11 s12 s13 K) k s0 s1 s2 s3 s4 s5 s6 s7 s8 s9 s10 s11 s12 s13 s14 s15 s16 s17 s18 s19 K) s0 s1 s2 s3 s4 s5 s6 s7 s8 s9 s10 s11 s12 s13 K
theorem wqcp (k : Nat) (X_ref10_reader_block : wqr) (X_ref10_reader_under : wqs) {R : Type} (I : Nat → St → Option R) (K : wqw R) : ∀ (n : Nat) (s0 : (List (Int × (Int × (Int × ((List UInt8) × Bool)))))) (s1 : Int) (s2 : (List (Int × (Int × ((List UInt8) × (Bool × ((List (List UInt8)) × (List Int)))))))) (s3 s4 s5 s6 s7 s8 : Int) (s9 : (List UInt8)) (s10 : Bool) (s11 : Int) (s12 : (List (List UInt8))) (s13 : (List Int)), iter (wq0 k X_ref10_reader_block X_ref10_reader_under).pv (look (wq0 k X_ref10_reader_block X_ref10_reader_under).cuts 1019) (execK (wq0 k X_ref10_reader_block X_ref10_reader_under) k (at_ [1, 1, 1, 1, 1, 1, 1, 1, 1, 1, 0, 0, 0] wqa)) n (wq14 s0 s1 s2 s3 s4 s5 s6 s7 s8 s9 s10 s11 s12 s13) (konts (wq0 k X_ref10_reader_block X_ref10_reader_under) k I [1, 1, 1, 1, 1, 1, 1, 1, 1, 1, 0, 0] wqa (outK (wq0 k X_ref10_reader_block X_ref10_reader_under) wq1b [.tmp 4] (wq10 K))) = wqo k X_ref10_reader_block X_ref10_reader_under  n s0 s1 s2 s3 s4 s5 s6 s7 s8 s9 s10 s11 s12 s13 K := by
  intro n
  induction n with
  | zero => intros; rfl
  | succ n ih =>
    intro s0 s1 s2 s3 s4 s5 s6 s7 s8 s9 s10 s11 s12 s13
    let I' : Nat → St → Option R := fun id s => bif Nat.beq id 1019 then iter (wq0 k X_ref10_reader_block X_ref10_reader_under).pv (look (wq0 k X_ref10_reader_block X_ref10_reader_under).cuts 1019) (execK (wq0 k X_ref10_reader_block X_ref10_reader_under) k (at_ [1, 1, 1, 1, 1, 1, 1, 1, 1, 1, 0, 0, 0] wqa)) n s (konts (wq0 k X_ref10_reader_block X_ref10_reader_under) k I [1, 1, 1, 1, 1, 1, 1, 1, 1, 1, 0, 0] wqa (outK (wq0 k X_ref10_reader_block X_ref10_reader_under) wq1b [.tmp 4] (wq10 K))) else I id s
    have e := wqcm k X_ref10_reader_block X_ref10_reader_under I' s0 s1 s2 s3 s4 s5 s6 s7 s8 s9 s10 s11 s12 s13 K
    have h1019 : (fun s0 s1 s2 s3 s4 s5 s6 s7 s8 s9 s10 s11 s12 s13 => I' 1019 (wq14 s0 s1 s2 s3 s4 s5 s6 s7 s8 s9 s10 s11 s12 s13)) = (fun s0 s1 s2 s3 s4 s5 s6 s7 s8 s9 s10 s11 s12 s13 => wqo k X_ref10_reader_block X_ref10_reader_under  n s0 s1 s2 s3 s4 s5 s6 s7 s8 s9 s10 s11 s12 s13 K) := by funext s0 s1 s2 s3 s4 s5 s6 s7 s8 s9 s10 s11 s12 s13; exact ih s0 s1 s2 s3 s4 s5 s6 s7 s8 s9 s10 s11 s12 s13
    have h1024 : (fun s0 s1 s2 s3 s4 s5 s6 s7 s8 s9 s10 s11 s12 s13 s14 s15 s16 s17 s18 s19 => iter (wq0 k X_ref10_reader_block X_ref10_reader_under).pv (look (wq0 k X_ref10_reader_block X_ref10_reader_under).cuts 1024) (execK (wq0 k X_ref10_reader_block X_ref10_reader_under) k (at_ [1, 1, 1, 1, 1, 1, 1, 1, 1, 1, 0, 0, 0, 1, 0, 1, 1, 0, 1, 0, 0, 1, 0, 0] wqa)) k (wq2d s0 s1 s2 s3 s4 s5 s6 s7 s8 s9 s10 s11 s12 s13 s14 s15 s16 s17 s18 s19) (konts (wq0 k X_ref10_reader_block X_ref10_reader_under) k I' [1, 1, 1, 1, 1, 1, 1, 1, 1, 1, 0, 0, 0, 1, 0, 1, 1, 0, 1, 0, 0, 1, 0] wqa (outK (wq0 k X_ref10_reader_block X_ref10_reader_under) wq1b [.tmp 4] (wq10 K)))) = (fun s0 s1 s2 s3 s4 s5 s6 s7 s8 s9 s10 s11 s12 s13 s14 s15 s16 s17 s18 s19 => wq1j k X_ref10_reader_block X_ref10_reader_under (fun s0 s1 s2 s3 s4 s5 s6 s7 s8 s9 s10 s11 s12 s13 => wqo k X_ref10_reader_block X_ref10_reader_under  n s0 s1 s2 s3 s4 s5 s6 s7 s8 s9 s10 s11 s12 s13 K) k s0 s1 s2 s3 s4 s5 s6 s7 s8 s9 s10 s11 s12 s13 s14 s15 s16 s17 s18 s19 K) := by funext s0 s1 s2 s3 s4 s5 s6 s7 s8 s9 s10 s11 s12 s13 s14 s15 s16 s17 s18 s19; exact (wqco k X_ref10_reader_block X_ref10_reader_under I' K k s0 s1 s2 s3 s4 s5 s6 s7 s8 s9 s10 s11 s12 s13 s14 s15 s16 s17 s18 s19).trans (congrArg (fun (JJ : wq2y R) => wq1j k X_ref10_reader_block X_ref10_reader_under JJ k s0 s1 s2 s3 s4 s5 s6 s7 s8 s9 s10 s11 s12 s13 s14 s15 s16 s17 s18 s19 K) h1019)
    refine Eq.trans (?_ : _ = _) (e.trans (Eq.trans ((Eq.trans (congrFun (congrArg ((fun E1019 E1024 => wq2j k X_ref10_reader_block X_ref10_reader_under E1019 E1024 s0 s1 s2 s3 s4 s5 s6 s7 s8 s9 s10 s11 s12 s13 K)) h1019) _) (congrArg ((fun E1019 E1024 => wq2j k X_ref10_reader_block X_ref10_reader_under E1019 E1024 s0 s1 s2 s3 s4 s5 s6 s7 s8 s9 s10 s11 s12 s13 K) (fun s0 s1 s2 s3 s4 s5 s6 s7 s8 s9 s10 s11 s12 s13 => wqo k X_ref10_reader_block X_ref10_reader_under  n s0 s1 s2 s3 s4 s5 s6 s7 s8 s9 s10 s11 s12 s13 K)) h1024))) (by rw [wqo])))
    rfl
noncomputable def wqcq (k : Nat) (X_ref10_reader_block : wqr) (X_ref10_reader_under : wqs) : CTab := (CTab.add 17 wqav (wq62 X_ref10_reader_block) (CTab.add 18 wq7g (wq4g k) CTab.nil))
def wq64 {R : Type} (K : wqw R) : Out → Option R
  | .ret [.v (.int .i64) y5] [(21, .row 47 (.pr (.int .i64) (.pr (.int .i64) (.pr .str (.pr .bool (.pr (.sl .str) (.sl (.int .i64))))))) y2), (1, .var 55 [.v (.sl (.pr (.int .i64) (.pr (.int .i64) (.pr (.int .i64) (.pr .str .bool))))) y0, .v (.int .i64) y1, .row 21, .v (.int .i64) y3, .v (.int .i64) y4])] => K y0 y1 y2 y3 y4 y5
  | _ => none
def wqbg : RetSpec := ⟨[.any], [(1, .obj 1 [.sl (.pr (.int .i64) (.pr (.int .i64) (.pr (.int .i64) (.pr .str .bool)))), .any, .own 21 47 (.pr (.int .i64) (.pr (.int .i64) (.pr .str (.pr .bool (.pr (.sl .str) (.sl (.int .i64))))))), .any, .any])], []⟩
def wqgh : List (Nat × CutSpec) := []
def wqfq : List (Nat × Plan) := [(1, (.of [(0, 1), (1, 1), (2, 1), (4, 1), (5, 1), (6, 1), (3, 1), (7, 1), (8, 1), (9, 1), (10, 1), (11, 1), (12, 1), (13, 1), (15, 1), (16, 1), (17, 1), (22, 1), (14, 1), (18, 1), (19, 1), (20, 1), (21, 1), (23, 1), (24, 1), (25, 1)] .done))]
noncomputable def wq7h (k : Nat) (X_ref10_reader_block : wqr) (X_ref10_reader_under : wqs) : Ctx := ⟨tyT, wqgh, wqcq k X_ref10_reader_block X_ref10_reader_under, [], [1], wqfq, @SH⟩
noncomputable def wq65 : Code := Tryd.f31.body.getD .skip
noncomputable def wq8n (k : Nat) (X_ref10_reader_block : wqr) (X_ref10_reader_under : wqs) {R : Type}  (x0 : (List (Int × (Int × (Int × ((List UInt8) × Bool)))))) (x1 : Int) (x2 : (List (Int × (Int × ((List UInt8) × (Bool × ((List (List UInt8)) × (List Int)))))))) (x3 x4 x5 x6 x7 : Int) (x8 : (List UInt8)) (x9 : Bool) (x10 : Int) (K : wqw R) : Option R := (@cond (@Option R) (@Bool.or (@Bool.not (@BEq.beq (@Kd.T Kd.bool) (@instBEqOfDecidableEq (@Kd.T Kd.bool) @instDecidableEqBool) (@Decidable.decide (@GE.ge Int Int.instLEInt x1 (@Nat.cast Int instNatCastInt (@List.length (@Kd.T (@Kd.pr kI (@Kd.pr kI (@Kd.pr kI (@Kd.pr Kd.str Kd.bool))))) x0))) (@Int.decLe (@Nat.cast Int instNatCastInt (@List.length (@Kd.T (@Kd.pr kI (@Kd.pr kI (@Kd.pr kI (@Kd.pr Kd.str Kd.bool))))) x0)) x1)) Bool.false)) (@inb x1 (@Nat.cast Int instNatCastInt (@List.length (@Kd.T (@Kd.pr kI (@Kd.pr kI (@Kd.pr kI (@Kd.pr Kd.str Kd.bool))))) x0)))) (@cond (@Option R) (@cond (@Kd.T Kd.bool) (@Decidable.decide (@GE.ge Int Int.instLEInt x1 (@Nat.cast Int instNatCastInt (@List.length (@Kd.T (@Kd.pr kI (@Kd.pr kI (@Kd.pr kI (@Kd.pr Kd.str Kd.bool))))) x0))) (@Int.decLe (@Nat.cast Int instNatCastInt (@List.length (@Kd.T (@Kd.pr kI (@Kd.pr kI (@Kd.pr kI (@Kd.pr Kd.str Kd.bool))))) x0)) x1)) Bool.true (@Decidable.decide (@LE.le Int Int.instLEInt (@List.getD (@Kd.T (@Kd.pr kI (@Kd.pr kI (@Kd.pr kI (@Kd.pr Kd.str Kd.bool))))) x0 (@Int.toNat x1) (@Kd.zero (@Kd.pr kI (@Kd.pr kI (@Kd.pr kI (@Kd.pr Kd.str Kd.bool)))))).2.2.1 x7) (@Int.decLe (@List.getD (@Kd.T (@Kd.pr kI (@Kd.pr kI (@Kd.pr kI (@Kd.pr Kd.str Kd.bool))))) x0 (@Int.toNat x1) (@Kd.zero (@Kd.pr kI (@Kd.pr kI (@Kd.pr kI (@Kd.pr Kd.str Kd.bool)))))).2.2.1 x7))) (@wq23 k R x0 x1 x2 x3 x4 (10 : Int) x6 (fun y14 y15 y16 y17 y18 => (K y14 y15 y16 y17 y18 (0 : Int)))) (X_ref10_reader_block R x0 x1 x2 x3 x4 (@Go.IntKind.wrap Go.IntKind.i64 (@HAdd.hAdd Int Int Int (@instHAdd Int @Int.instAdd) x10 (1 : Int))) (fun y14 y15 y16 y17 y18 y19 => (K y14 y15 y16 y17 y18 y19)))) (@Option.none R))
theorem wqgi (k : Nat) (X_ref10_reader_block : wqr) (X_ref10_reader_under : wqs) {R : Type} (I : Nat → St → Option R) (x0 : (List (Int × (Int × (Int × ((List UInt8) × Bool)))))) (x1 : Int) (x2 : (List (Int × (Int × ((List UInt8) × (Bool × ((List (List UInt8)) × (List Int)))))))) (x3 x4 x5 x6 x7 : Int) (x8 : (List UInt8)) (x9 : Bool) (x10 : Int) (K : wqw R) : fnK (wq7h k X_ref10_reader_block X_ref10_reader_under) k wq65 41 [.tmp 6] wqbg [.ptr 1 0, .agg [.v (.int .i64) x5, .v (.int .i64) x6, .v (.int .i64) x7, .v .str x8, .v .bool x9], .v (.int .i64) x10] [(21, .row 47 (.pr (.int .i64) (.pr (.int .i64) (.pr .str (.pr .bool (.pr (.sl .str) (.sl (.int .i64))))))) x2), (1, .var 55 [.v (.sl (.pr (.int .i64) (.pr (.int .i64) (.pr (.int .i64) (.pr .str .bool))))) x0, .v (.int .i64) x1, .row 21, .v (.int .i64) x3, .v (.int .i64) x4])] (wq64 K) = wq8n k X_ref10_reader_block X_ref10_reader_under  x0 x1 x2 x3 x4 x5 x6 x7 x8 x9 x10 K := by kernel_rfl
mutual
noncomputable def wq4 : Nat → (R : Type) → (List (Int × (Int × (Int × ((List UInt8) × Bool))))) → Int → (List (Int × (Int × ((List UInt8) × (Bool × ((List (List UInt8)) × (List Int))))))) → Int → Int → Int → ((List (Int × (Int × (Int × ((List UInt8) × Bool))))) → Int → (List (Int × (Int × ((List UInt8) × (Bool × ((List (List UInt8)) × (List Int))))))) → Int → Int → Int → Option R) → Option R
  | 0, _, _, _, _, _, _, _, _ => none
  | k + 1, R, x0, x1, x2, x3, x4, x5, K => wq5t k (wq4 k) (FR_ref10_reader_under k) (fun s0 s1 s2 s3 s4 s5 s6 s7 s8 s9 s10 s11 s12 s13 => wqo k (wq4 k) (FR_ref10_reader_under k) k s0 s1 s2 s3 s4 s5 s6 s7 s8 s9 s10 s11 s12 s13 K) x0 x1 x2 x3 x4 x5 K
noncomputable def FR_ref10_reader_under : Nat → (R : Type) → (List (Int × (Int × (Int × ((List UInt8) × Bool))))) → Int → (List (Int × (Int × ((List UInt8) × (Bool × ((List (List UInt8)) × (List Int))))))) → Int → Int → Int → Int → Int → (List UInt8) → Bool → Int → ((List (Int × (Int × (Int × ((List UInt8) × Bool))))) → Int → (List (Int × (Int × ((List UInt8) × (Bool × ((List (List UInt8)) × (List Int))))))) → Int → Int → Int → Option R) → Option R
  | 0, _, _, _, _, _, _, _, _, _, _, _, _, _ => none
  | k + 1, R, x0, x1, x2, x3, x4, x5, x6, x7, x8, x9, x10, K => wq8n k (wq4 k) (FR_ref10_reader_under k)  x0 x1 x2 x3 x4 x5 x6 x7 x8 x9 x10 K
end
noncomputable def wq5u (k : Nat) {R : Type} (x0 : (List (Int × (Int × (Int × ((List UInt8) × Bool)))))) (x1 : Int) (x2 : (List (Int × (Int × ((List UInt8) × (Bool × ((List (List UInt8)) × (List Int)))))))) (x3 x4 x5 : Int) (K : wqw R) : Option R := wq4 k R x0 x1 x2 x3 x4 x5 K
noncomputable def wq8o (k : Nat) {R : Type} (x0 : (List (Int × (Int × (Int × ((List UInt8) × Bool)))))) (x1 : Int) (x2 : (List (Int × (Int × ((List UInt8) × (Bool × ((List (List UInt8)) × (List Int)))))))) (x3 x4 x5 x6 x7 : Int) (x8 : (List UInt8)) (x9 : Bool) (x10 : Int) (K : wqw R) : Option R := FR_ref10_reader_under k R x0 x1 x2 x3 x4 x5 x6 x7 x8 x9 x10 K
theorem wqgj (k : Nat) {R : Type} (x0 : (List (Int × (Int × (Int × ((List UInt8) × Bool)))))) (x1 : Int) (x2 : (List (Int × (Int × ((List UInt8) × (Bool × ((List (List UInt8)) × (List Int)))))))) (x3 x4 x5 : Int) (K : wqw R) : fnK (wq0 k (wq4 k) (FR_ref10_reader_under k)) k wqa 242 [.tmp 4] wq1b [.ptr 1 0, .v (.int .i64) x5] [(21, .row 47 (.pr (.int .i64) (.pr (.int .i64) (.pr .str (.pr .bool (.pr (.sl .str) (.sl (.int .i64))))))) x2), (1, .var 55 [.v (.sl (.pr (.int .i64) (.pr (.int .i64) (.pr (.int .i64) (.pr .str .bool))))) x0, .v (.int .i64) x1, .row 21, .v (.int .i64) x3, .v (.int .i64) x4])] (wq10 K) = wq4 (k + 1) R x0 x1 x2 x3 x4 x5 K := by
  rw [wq4]
  let I : Nat → St → Option R := fun _ _ => none
  have h1019 : (fun s0 s1 s2 s3 s4 s5 s6 s7 s8 s9 s10 s11 s12 s13 => iter (wq0 k (wq4 k) (FR_ref10_reader_under k)).pv (look (wq0 k (wq4 k) (FR_ref10_reader_under k)).cuts 1019) (execK (wq0 k (wq4 k) (FR_ref10_reader_under k)) k (at_ [1, 1, 1, 1, 1, 1, 1, 1, 1, 1, 0, 0, 0] wqa)) k (wq14 s0 s1 s2 s3 s4 s5 s6 s7 s8 s9 s10 s11 s12 s13) (konts (wq0 k (wq4 k) (FR_ref10_reader_under k)) k I [1, 1, 1, 1, 1, 1, 1, 1, 1, 1, 0, 0] wqa (outK (wq0 k (wq4 k) (FR_ref10_reader_under k)) wq1b [.tmp 4] (wq10 K)))) = (fun s0 s1 s2 s3 s4 s5 s6 s7 s8 s9 s10 s11 s12 s13 => wqo k (wq4 k) (FR_ref10_reader_under k) k s0 s1 s2 s3 s4 s5 s6 s7 s8 s9 s10 s11 s12 s13 K) := by funext s0 s1 s2 s3 s4 s5 s6 s7 s8 s9 s10 s11 s12 s13; exact wqcp k (wq4 k) (FR_ref10_reader_under k) I K k s0 s1 s2 s3 s4 s5 s6 s7 s8 s9 s10 s11 s12 s13
  exact (wqgg k (wq4 k) (FR_ref10_reader_under k) I x0 x1 x2 x3 x4 x5 K).trans (congrArg ((fun E1019 => wq5t k (wq4 k) (FR_ref10_reader_under k) E1019 x0 x1 x2 x3 x4 x5 K)) h1019)
noncomputable def wq3a (k : Nat) {R : Type} : List PV → List (Nm × HObj) → (Out → Option R) → Option R
  | [.ptr 1 0, .v (.int .i64) x5], [(21, .row 47 (.pr (.int .i64) (.pr (.int .i64) (.pr .str (.pr .bool (.pr (.sl .str) (.sl (.int .i64))))))) x2), (1, .var 55 [.v (.sl (.pr (.int .i64) (.pr (.int .i64) (.pr (.int .i64) (.pr .str .bool))))) x0, .v (.int .i64) x1, .row 21, .v (.int .i64) x3, .v (.int .i64) x4])], K => wq5u k x0 x1 x2 x3 x4 x5 (fun y0 y1 y2 y3 y4 y5 => K (.ret [.v (.int .i64) y5] [(21, .row 47 (.pr (.int .i64) (.pr (.int .i64) (.pr .str (.pr .bool (.pr (.sl .str) (.sl (.int .i64))))))) y2), (1, .var 55 [.v (.sl (.pr (.int .i64) (.pr (.int .i64) (.pr (.int .i64) (.pr .str .bool))))) y0, .v (.int .i64) y1, .row 21, .v (.int .i64) y3, .v (.int .i64) y4])]))
  | _, _, _ => none
theorem wqgk (k : Nat) {R : Type} (x0 : (List (Int × (Int × (Int × ((List UInt8) × Bool)))))) (x1 : Int) (x2 : (List (Int × (Int × ((List UInt8) × (Bool × ((List (List UInt8)) × (List Int)))))))) (x3 x4 x5 x6 x7 : Int) (x8 : (List UInt8)) (x9 : Bool) (x10 : Int) (K : wqw R) : fnK (wq7h k (wq4 k) (FR_ref10_reader_under k)) k wq65 41 [.tmp 6] wqbg [.ptr 1 0, .agg [.v (.int .i64) x5, .v (.int .i64) x6, .v (.int .i64) x7, .v .str x8, .v .bool x9], .v (.int .i64) x10] [(21, .row 47 (.pr (.int .i64) (.pr (.int .i64) (.pr .str (.pr .bool (.pr (.sl .str) (.sl (.int .i64))))))) x2), (1, .var 55 [.v (.sl (.pr (.int .i64) (.pr (.int .i64) (.pr (.int .i64) (.pr .str .bool))))) x0, .v (.int .i64) x1, .row 21, .v (.int .i64) x3, .v (.int .i64) x4])] (wq64 K) = FR_ref10_reader_under (k + 1) R x0 x1 x2 x3 x4 x5 x6 x7 x8 x9 x10 K := by
  rw [FR_ref10_reader_under]
  exact wqgi k (wq4 k) (FR_ref10_reader_under k) (fun _ _ => none) x0 x1 x2 x3 x4 x5 x6 x7 x8 x9 x10 K
noncomputable def wq45 (k : Nat) {R : Type} : List PV → List (Nm × HObj) → (Out → Option R) → Option R
  | [.ptr 1 0, .agg [.v (.int .i64) x5, .v (.int .i64) x6, .v (.int .i64) x7, .v .str x8, .v .bool x9], .v (.int .i64) x10], [(21, .row 47 (.pr (.int .i64) (.pr (.int .i64) (.pr .str (.pr .bool (.pr (.sl .str) (.sl (.int .i64))))))) x2), (1, .var 55 [.v (.sl (.pr (.int .i64) (.pr (.int .i64) (.pr (.int .i64) (.pr .str .bool))))) x0, .v (.int .i64) x1, .row 21, .v (.int .i64) x3, .v (.int .i64) x4])], K => wq8o k x0 x1 x2 x3 x4 x5 x6 x7 x8 x9 x10 (fun y0 y1 y2 y3 y4 y5 => K (.ret [.v (.int .i64) y5] [(21, .row 47 (.pr (.int .i64) (.pr (.int .i64) (.pr .str (.pr .bool (.pr (.sl .str) (.sl (.int .i64))))))) y2), (1, .var 55 [.v (.sl (.pr (.int .i64) (.pr (.int .i64) (.pr (.int .i64) (.pr .str .bool))))) y0, .v (.int .i64) y1, .row 21, .v (.int .i64) y3, .v (.int .i64) y4])]))
  | _, _, _ => none
theorem wqgl (k : Nat) (X_ref10_reader_block : wqr) (X_ref10_reader_under : wqs) (hX_ref10_reader_under : ∀ {ps : List PV} {hp : List (Nm × HObj)} {R : Type} {K : Out → Option R} {r : R}, wq63 X_ref10_reader_under ps hp K = some r → DoesTo Tryd.prog 31 ps hp fun out => K out = some r) : (wqcl k X_ref10_reader_block X_ref10_reader_under).Ok Tryd.prog := (CTab.add_ok (fun h => wq9h k h) (CTab.add_ok (fun h => hX_ref10_reader_under h) CTab.nil_ok))
theorem wqgm (k : Nat) (X_ref10_reader_block : wqr) (X_ref10_reader_under : wqs) (hX_ref10_reader_block : ∀ {ps : List PV} {hp : List (Nm × HObj)} {R : Type} {K : Out → Option R} {r : R}, wq62 X_ref10_reader_block ps hp K = some r → DoesTo Tryd.prog 17 ps hp fun out => K out = some r) : (wqcq k X_ref10_reader_block X_ref10_reader_under).Ok Tryd.prog := (CTab.add_ok (fun h => hX_ref10_reader_block h) (CTab.add_ok (fun h => wq9h k h) CTab.nil_ok))
theorem wqbh : ∀ k : Nat, (∀ {ps : List PV} {hp : List (Nm × HObj)} {R : Type} {K : Out → Option R} {r : R}, wq3a k ps hp K = some r → DoesTo Tryd.prog 17 ps hp fun out => K out = some r) ∧ (∀ {ps : List PV} {hp : List (Nm × HObj)} {R : Type} {K : Out → Option R} {r : R}, wq45 k ps hp K = some r → DoesTo Tryd.prog 31 ps hp fun out => K out = some r) := by
  intro k
  induction k with
  | zero =>
    refine ⟨?_, ?_⟩
    · intro ps hp R K r h
      unfold wq3a at h
      split at h
      · unfold wq5u at h; rw [wq4] at h; cases h
      · cases h
    · intro ps hp R K r h
      unfold wq45 at h
      split at h
      · unfold wq8o at h; rw [FR_ref10_reader_under] at h; cases h
      · cases h
  | succ k ih =>
    obtain ⟨ih_ref10_reader_block, ih_ref10_reader_under⟩ := ih
    refine ⟨?_, ?_⟩
    · intro ps hp R K r h
      unfold wq3a at h
      split at h
      · unfold wq5u at h; rw [← wqgj] at h
        have := fn_ok (P := Tryd.prog) (cx := wq0 k (wq4 k) (FR_ref10_reader_under k)) (f := 17) ⟨tyT_ok, wqgl k (wq4 k) (FR_ref10_reader_under k) (fun h => ih_ref10_reader_under (by unfold wq63 at h; unfold wq45; exact h)), fun _ _ => rfl⟩ (by kernel_rfl) (fn := Tryd.f17) (c := wqa) (by kernel_rfl) (by kernel_rfl) (by kernel_rfl) (rs := [.tmp 4]) (by kernel_rfl) (by kernel_rfl) h
        exact this.mono fun out ho => by
          unfold wq10 at ho
          split at ho <;> first | exact ho | cases ho
      · cases h
    · intro ps hp R K r h
      unfold wq45 at h
      split at h
      · unfold wq8o at h; rw [← wqgk] at h
        have := fn_ok (P := Tryd.prog) (cx := wq7h k (wq4 k) (FR_ref10_reader_under k)) (f := 31) ⟨tyT_ok, wqgm k (wq4 k) (FR_ref10_reader_under k) (fun h => ih_ref10_reader_block (by unfold wq62 at h; unfold wq3a; exact h)), fun _ _ => rfl⟩ (by kernel_rfl) (fn := Tryd.f31) (c := wq65) (by kernel_rfl) (by kernel_rfl) (by kernel_rfl) (rs := [.tmp 6]) (by kernel_rfl) (by kernel_rfl) h
        exact this.mono fun out ho => by
          unfold wq64 at ho
          split at ho <;> first | exact ho | cases ho
      · cases h
theorem wqlj (k : Nat) {ps : List PV} {hp : List (Nm × HObj)} {R : Type} {K : Out → Option R} {r : R} (h : wq3a k ps hp K = some r) : DoesTo Tryd.prog 17 ps hp fun out => K out = some r := (wqbh k).1 h
theorem wqxi (k : Nat) {ps : List PV} {hp : List (Nm × HObj)} {R : Type} {K : Out → Option R} {r : R} (h : wq45 k ps hp K = some r) : DoesTo Tryd.prog 31 ps hp fun out => K out = some r := (wqbh k).2 h
end Go.Proofs.YtpfbdepoammjmaaDoor.Pvm

set_option maxRecDepth 1000000
set_option maxHeartbeats 0
namespace Go.Proofs.YtpfbdepoammjmaaDoor.Pvm
open Go Go.Proofs
def wq113 : List LS := [.sl (.pr (.int .i64) (.pr (.int .i64) (.pr (.int .i64) (.pr .str .bool))))]
noncomputable def wqwf (k : Nat) : CTab := (CTab.add 17 wqav (wq3a k) (CTab.add 18 wq7g (wq4g k) CTab.nil))
def wqi4 {R : Type} (K : ((List (Int × (Int × ((List UInt8) × (Bool × ((List (List UInt8)) × (List Int))))))) → Int → Int → Option R)) : Out → Option R
  | .ret [.agg [.v (.sl (.pr (.int .i64) (.pr (.int .i64) (.pr .str (.pr .bool (.pr (.sl .str) (.sl (.int .i64)))))))) y0], .agg [.v (.int .i64) y1, .v (.int .i64) y2]] [] => K y0 y1 y2
  | _ => none
def wqth : RetSpec := ⟨[.ag [.sl (.pr (.int .i64) (.pr (.int .i64) (.pr .str (.pr .bool (.pr (.sl .str) (.sl (.int .i64)))))))], .ag [.any, .any]], [], []⟩
def wqwg : List (Nat × CutSpec) := []
def wqur : List (Nat × Plan) := [(8, (.of [(0, 1), (1, 1), (2, 1), (3, 1), (4, 2), (5, 0), (6, 0)] .done))]
noncomputable def wqnp (k : Nat) : Ctx := ⟨tyT, wqwg, wqwf k, [], [], wqur, @SH⟩
noncomputable def wqi5 : Code := Tryd.f9.body.getD .skip
noncomputable def wqrh (k : Nat) {R : Type}  (x0 : (List (Int × (Int × (Int × ((List UInt8) × Bool)))))) (K : ((List (Int × (Int × ((List UInt8) × (Bool × ((List (List UInt8)) × (List Int))))))) → Int → Int → Option R)) : Option R := (@cond (@Option R) (@BEq.beq Int (@instBEqOfDecidableEq Int @Int.instDecidableEq) (@Nat.cast Int instNatCastInt (@List.length (@Kd.T (@Kd.pr kI (@Kd.pr kI (@Kd.pr kI (@Kd.pr Kd.str Kd.bool))))) x0)) (0 : Int)) (K [] (10 : Int) (1 : Int)) (@wq5u k R x0 (0 : (@Kd.T kI)) [] (0 : (@Kd.T kI)) (0 : (@Kd.T kI)) (1 : Int) (fun y4 y5 y6 y7 y8 y9 => (@cond (@Option R) (@cond (@Kd.T Kd.bool) (@BEq.beq Int (@instBEqOfDecidableEq Int @Int.instDecidableEq) y7 (0 : Int)) (@Decidable.decide (@LT.lt Int Int.instLTInt y5 (@Nat.cast Int instNatCastInt (@List.length (@Kd.T (@Kd.pr kI (@Kd.pr kI (@Kd.pr kI (@Kd.pr Kd.str Kd.bool))))) x0))) (@Int.decLt y5 (@Nat.cast Int instNatCastInt (@List.length (@Kd.T (@Kd.pr kI (@Kd.pr kI (@Kd.pr kI (@Kd.pr Kd.str Kd.bool))))) x0)))) Bool.false) (@cond (@Option R) (@inb y5 (@Nat.cast Int instNatCastInt (@List.length (@Kd.T (@Kd.pr kI (@Kd.pr kI (@Kd.pr kI (@Kd.pr Kd.str Kd.bool))))) x0))) (@wq23 k R y4 y5 y6 y7 y8 (6 : Int) (@List.getD (@Kd.T (@Kd.pr kI (@Kd.pr kI (@Kd.pr kI (@Kd.pr Kd.str Kd.bool))))) x0 (@Int.toNat y5) (@Kd.zero (@Kd.pr kI (@Kd.pr kI (@Kd.pr kI (@Kd.pr Kd.str Kd.bool)))))).2.1 (fun y10 y11 y12 y13 y14 => (@cond (@Option R) (@bne Int (@instBEqOfDecidableEq Int @Int.instDecidableEq) y13 (0 : Int)) (K [] y13 y14) (K y12 (0 : (@Kd.T kI)) (0 : (@Kd.T kI)))))) (@Option.none R)) (@cond (@Option R) (@bne Int (@instBEqOfDecidableEq Int @Int.instDecidableEq) y7 (0 : Int)) (K [] y7 y8) (K y6 (0 : (@Kd.T kI)) (0 : (@Kd.T kI))))))))
theorem wqwh (k : Nat) {R : Type} (I : Nat → St → Option R) (x0 : (List (Int × (Int × (Int × ((List UInt8) × Bool)))))) (K : ((List (Int × (Int × ((List UInt8) × (Bool × ((List (List UInt8)) × (List Int))))))) → Int → Int → Option R)) : fnK (wqnp k) k wqi5 57 [.cell 2 28, .cell 3 30] wqth [.v (.sl (.pr (.int .i64) (.pr (.int .i64) (.pr (.int .i64) (.pr .str .bool))))) x0] [] (wqi4 K) = wqrh k  x0 K := by kernel_rfl
noncomputable def wqmq (k : Nat) {R : Type} (x0 : (List (Int × (Int × (Int × ((List UInt8) × Bool)))))) (K : ((List (Int × (Int × ((List UInt8) × (Bool × ((List (List UInt8)) × (List Int))))))) → Int → Int → Option R)) : Option R := wqrh k  x0 K
theorem wqwi (k : Nat) {R : Type} (x0 : (List (Int × (Int × (Int × ((List UInt8) × Bool)))))) (K : ((List (Int × (Int × ((List UInt8) × (Bool × ((List (List UInt8)) × (List Int))))))) → Int → Int → Option R)) : fnK (wqnp k) k wqi5 57 [.cell 2 28, .cell 3 30] wqth [.v (.sl (.pr (.int .i64) (.pr (.int .i64) (.pr (.int .i64) (.pr .str .bool))))) x0] [] (wqi4 K) = wqmq k x0 K := by
  exact wqwh k (fun _ _ => none) x0 K
noncomputable def wqri (k : Nat) {R : Type} : List PV → List (Nm × HObj) → (Out → Option R) → Option R
  | [.v (.sl (.pr (.int .i64) (.pr (.int .i64) (.pr (.int .i64) (.pr .str .bool))))) x0], [], K => wqmq k x0 (fun y0 y1 y2 => K (.ret [.agg [.v (.sl (.pr (.int .i64) (.pr (.int .i64) (.pr .str (.pr .bool (.pr (.sl .str) (.sl (.int .i64)))))))) y0], .agg [.v (.int .i64) y1, .v (.int .i64) y2]] []))
  | _, _, _ => none
theorem wqwj (k : Nat) : (wqwf k).Ok Tryd.prog := (CTab.add_ok (fun h => wqlj k h) (CTab.add_ok (fun h => wq9h k h) CTab.nil_ok))
theorem wq11b (k : Nat) {ps : List PV} {hp : List (Nm × HObj)} {R : Type} {K : Out → Option R} {r : R} (h : wqri k ps hp K = some r) : DoesTo Tryd.prog 9 ps hp fun out => K out = some r := by
  unfold wqri at h
  split at h
  · rw [← wqwi] at h
    have := fn_ok (P := Tryd.prog) (cx := wqnp k) (f := 9) ⟨tyT_ok, wqwj k, fun _ _ => rfl⟩ (by kernel_rfl) (fn := Tryd.f9) (c := wqi5) (by kernel_rfl) (by kernel_rfl) (by kernel_rfl) (rs := [.cell 2 28, .cell 3 30]) (by kernel_rfl) (by kernel_rfl) h
    exact this.mono fun out ho => by
      unfold wqi4 at ho
      split at ho <;> first | exact ho | cases ho
  · cases h
end Go.Proofs.YtpfbdepoammjmaaDoor.Pvm

namespace Go.Proofs.YtpfbdepoammjmaaDoor.Pvm
open Go
abbrev RK (R : Type) := List Pce → Int → List Nd → Int → Int → Int → Option R
def refS {R : Type} (V : Option R) (K : RK R) (L : List Pce) (nd : List Nd) (n : Int) : RsD → Prop
  | .inl e => e.1 ≠ 0 ∧ ∃ (a : Nat) (nd' : List Nd) (z : Int), nd.length ≤ nd'.length ∧ V = K L (a : Int) nd' e.1 e.2 z
  | .inr p => ∃ a : Nat, L.drop a = p.1 ∧ a ≤ L.length ∧ V = K L (a : Int) p.2 0 0 n
theorem fail_eq (k : Nat) {R : Type} (L : List Pce) (a : Int) (nd : List Nd) (y kd ln : Int) (K : List Pce → Int → List Nd → Int → Int → Option R) : wq23 k L a nd 0 y kd ln K = K L a nd kd ln := rfl
theorem drop_at' {L l : List Pce} {x : Pce} {a : Nat} (h : L.drop a = x :: l) : inb (a : Int) (L.length : Int) = true ∧ (∀ z, L.getD a z = x) ∧ L.drop (a + 1) = l ∧ a < L.length := by
  obtain ⟨h1, h2, h3⟩ := wq39 h
  exact ⟨inb_t (by omega) (by omega), h2, h3, h1⟩
theorem wqxj (k : Nat) {R : Type} (L r : List Pce) (a : Nat) (hr : L.drop a = r) (ha : a ≤ L.length) (nd : List Nd) (kd ln col : Int) (t : List UInt8) (q : Bool) (d : Nat) (hd : d ≤ 1000) (K : RK R) :
    FR_ref10_reader_under (k + 1) R L (a : Int) nd 0 0 kd ln col t q (d : Int) K = bif deepS r col then wq4 k R L (a : Int) nd 0 0 ((d + 1 : Nat) : Int) K else K L (a : Int) nd 10 ln 0 := by
  rw [FR_ref10_reader_under]
  unfold wq8n
  have hw : IntKind.i64.wrap ((d : Int) + 1) = ((d + 1 : Nat) : Int) := by rw [wrap_id (by omega) (by omega)]; omega
  cases r with
  | nil =>
    have := drop_nil hr
    have h1 : decide ((a : Int) ≥ (L.length : Int)) = true := dec_t (by omega)
    simp only [h1, deepS, fail_eq, cond_true, cond_false]
    rfl
  | cons y r =>
    obtain ⟨h1, h2, h3, h4⟩ := drop_at' hr
    have h5 : decide ((a : Int) ≥ (L.length : Int)) = false := dec_f (by omega)
    simp only [h1, h5, h2, hw, Bool.or_true, cond_true, cond_false, deepS, wq9, fail_eq]
    by_cases h : y.2.2.1 ≤ col
    · rw [dec_t h, dec_f (by omega)]; rfl
    · rw [dec_f h, dec_t (by omega)]; rfl
theorem wq10t (k : Nat) {R : Type} (X1) (X2) (J : List Pce → Int → List Nd → Int → Int → Int → Int → Int → Int → List UInt8 → Bool → Int → List (List UInt8) → List Int → Option R) (K : RK R) (L : List Pce) (a : Int) (nd : List Nd) (s5 s6 s7 s8 : Int) (s9 : List UInt8) (s10 : Bool) (s11 : Int) (keys : List (List UInt8)) (hk : keys.length ≤ 100000) (kids : List Int) (s14 s15 s16 : Int) (t : List UInt8) (s18 : Bool) :
    ∀ (n : Nat) (q : List (List UInt8)) (i : Nat), keys.drop i = q → i ≤ keys.length → q.length < n →
    wq1j k X1 X2 J n L a nd 0 0 s5 s6 s7 s8 s9 s10 s11 keys kids s14 s15 s16 t s18 (i : Int) K =
      bif anyK t q then K L a nd 7 s15 0 else X2 R L a nd 0 0 s14 s15 s16 t s18 s5 fun y25 y26 y27 y28 y29 y30 => bif fits kids.length [y30].length 8 then J y25 y26 y27 y28 y29 s5 s6 s7 s8 s9 s10 s11 (keys ++ [t]) (kids ++ [y30]) else none := by
  intro n
  induction n with
  | zero => intro q i _ _ h; omega
  | succ n ih =>
    intro q i hq hi hn
    rw [wq1j]
    unfold wq49
    cases q with
    | nil =>
      have := drop_nil hq
      have hd : decide ((i : Int) < (keys.length : Int)) = false := dec_f (by omega)
      have hf : fits keys.length [t].length 16 = true := fits_t (by simp; omega) (by simp; omega)
      rw [hd, cond_false, hf, cond_true]; rfl
    | cons c q =>
      obtain ⟨h1, h2, h3⟩ := wq39 hq
      simp (disch := omega) only [dec_t, inb_t, cond_true, h2, wq9, wrap_id, wq70, fail_eq]
      rw [anyK]
      have hsym : (c == t) = (t == c) := by
        cases h : t == c with
        | true => rw [eq_of_beq h]; simp
        | false =>
          have : t ≠ c := by simpa using h
          simpa using Ne.symm this
      rw [hsym]
      cases hc : t == c with
      | true => rw [cond_true, Bool.true_or, cond_true]
      | false =>
        rw [cond_false, Bool.false_or]
        exact ih q (i + 1) h3 (by omega) (by simp at hn; omega)
theorem wqti (k : Nat) {R : Type} (X1) (X2) (K : RK R) (L : List Pce) (a : Nat) (nd : List Nd) (f1 f2 : Int) (hf : f1 ≠ 0) (s5 kd ln col : Int) (t : List UInt8) (q : Bool) (n : Nat) (hn : n < nd.length) (keys : List (List UInt8)) (kids : List Int) (m : Nat) :
    ∃ nd' z, nd.length ≤ nd'.length ∧ wqo k X1 X2 (m + 1) L (a : Int) nd f1 f2 s5 kd ln col t q (n : Int) keys kids K = K L (a : Int) nd' f1 f2 z := by
  rw [wqo]
  unfold wq2j
  have h0 : (f1 == 0) = false := by simpa using hf
  have hi : inb (n : Int) (nd.length : Int) = true := inb_t (by omega) (by omega)
  have hi2 : ∀ y : Nd, inb (n : Int) ((nd.set n y).length : Int) = true := fun y => inb_t (by omega) (by rw [List.length_set]; omega)
  have g1 : (!decide ((a : Int) < (L.length : Int)) == true || inb (a : Int) (L.length : Int)) = true := by
    by_cases h : (a : Int) < (L.length : Int)
    · rw [inb_t (by omega) h, Bool.or_true]
    · rw [dec_f h]; rfl
  have g2 : ∀ b : Bool, (!(bif decide ((a : Int) < (L.length : Int)) then b else false) == true || inb (a : Int) (L.length : Int)) = true := by
    intro b
    by_cases h : (a : Int) < (L.length : Int)
    · rw [inb_t (by omega) h, Bool.or_true]
    · rw [dec_f h]; rfl
  have g3 : ∀ b : Bool, (bif b then (f1 == 0) else false) = false := by intro b; rw [h0]; cases b <;> rfl
  simp only [g1, g2, g3, hi, hi2, cond_true, cond_false, SH_eq, wq9, List.set_set]
  cases kd == 2 with
  | true => exact ⟨_, _, by simp, rfl⟩
  | false => exact ⟨_, _, by simp, rfl⟩
theorem ref_all {R : Type} (L : List Pce) (hL : L.length ≤ 20000) : ∀ (f k : Nat), 3 * f + 20100 ≤ k →
    (∀ (l : List Pce) (nd : List Nd) (d a : Nat) (K : RK R), L.drop a = l → a ≤ L.length → l ≠ [] → 2 * l.length + 2 ≤ f → nd.length ≤ 2000 → d ≤ 25 →
      refS (wq4 k R L (a : Int) nd 0 0 (d : Int) K) K L nd (nd.length : Int) (blkS f l nd d)) ∧
    (∀ (m : Nat) (l : List Pce) (nd : List Nd) (kd ln col : Int) (n d a : Nat) (t : List UInt8) (q : Bool) (keys : List (List UInt8)) (kids : List Int) (K : RK R), f ≤ m → 2 * l.length + 1 ≤ f → L.drop a = l → a ≤ L.length → l.length + kids.length ≤ 20001 → l.length + keys.length ≤ 20001 → nd.length ≤ 2000 → d ≤ 24 → n < nd.length →
      (kd = 1 ∧ keys = [] ∨ kd = 2) → (∀ z, nd.getD n z = (0, ln, [], false, [], [])) →
      refS (wqo k (wq4 k) (FR_ref10_reader_under k) m L (a : Int) nd 0 0 (d : Int) kd ln col t q (n : Int) keys kids K) K L nd (n : Int) (kidsS f kd ln col n d l nd keys kids)) := by
  intro f
  induction f with
  | zero => exact fun k hk => ⟨fun l nd d a K _ _ hl h => (by omega), fun m l nd kd ln col n d a t q keys kids K _ h => (by omega)⟩
  | succ f ih =>
    intro k hk
    refine ⟨?_, ?_⟩
    · intro l nd d a K hla ha hl hf hnd hd
      obtain ⟨k1, rfl⟩ : ∃ k1, k = k1 + 1 := ⟨k - 1, by omega⟩
      cases l with
      | nil => exact absurd rfl hl
      | cons x r =>
        obtain ⟨i1, g1, g2, g3⟩ := drop_at' hla
        have hll : (x :: r).length = L.length - a := by rw [← hla, List.length_drop]
        rw [wq4]
        unfold wq5t
        simp only [i1, g1, wq9, cond_true, SH_eq, fail_eq]
        rw [blkS]
        have c1 : (bif bif x.1 != 3 then x.1 != 1 else false then x.1 != 2 else false) = (decide (x.1 < 1) || decide (x.1 > 3)) := by
          by_cases e3 : x.1 = 3
          · rw [e3]; rfl
          · by_cases e1 : x.1 = 1
            · rw [e1]; rfl
            · by_cases e2 : x.1 = 2
              · rw [e2]; rfl
              · have n3 : (x.1 != 3) = true := by simpa using e3
                have n1 : (x.1 != 1) = true := by simpa using e1
                have n2 : (x.1 != 2) = true := by simpa using e2
                rw [n3, n1, n2]
                by_cases hlt : x.1 < 1
                · rw [dec_t hlt]; rfl
                · rw [dec_f hlt, dec_t (by omega)]; rfl
        rw [c1]
        cases h1 : (decide (x.1 < 1) || decide (x.1 > 3)) with
        | true => exact ⟨by show _ ≠ (0 : Int); simp, a, nd, 0, Nat.le_refl _, rfl⟩
        | false =>
          rw [cond_false, cond_false]
          by_cases hd24 : 24 < d
          · rw [dec_t hd24, dec_t (by omega : (d : Int) > 24)]
            exact ⟨by show _ ≠ (0 : Int); simp, a, nd, 0, Nat.le_refl _, rfl⟩
          · rw [dec_f hd24, dec_f (by omega : ¬ (d : Int) > 24), cond_false, cond_false]
            by_cases h3 : 2000 ≤ nd.length
            · rw [dec_t h3, dec_t (by omega : (nd.length : Int) ≥ 2000)]
              exact ⟨by show _ ≠ (0 : Int); simp, a, nd, 0, Nat.le_refl _, rfl⟩
            · have hf1 : ∀ z : Nd, fits nd.length [z].length 88 = true := fun z => fits_t (by simp; omega) (by simp; omega)
              rw [dec_f h3, dec_f (by omega : ¬ (nd.length : Int) ≥ 2000), cond_false, cond_false, hf1, cond_true]
              have hset : ∀ y z : Nd, (nd ++ [y]).set nd.length z = nd ++ [z] := by intro y z; simp
              have hget : ∀ y z : Nd, (nd ++ [y]).getD nd.length z = y := by intro y z; simp [List.getD]
              have hlen : ∀ y : Nd, inb (nd.length : Int) ((nd ++ [y]).length : Int) = true := fun y => inb_t (by omega) (by simp; omega)
              have hw : IntKind.i64.wrap ((a : Int) + 1) = ((a + 1 : Nat) : Int) := by rw [wrap_id (by omega) (by omega)]; omega
              cases h4 : x.1 == 3 with
              | true =>
                simp only [cond_true, hlen, hset, hget, hw]
                exact ⟨a + 1, g2, by omega, rfl⟩
              | false =>
                rw [cond_false, cond_false]
                have hx0 : ∀ z, (nd ++ [((0 : Int), (x.2.1, (([] : List UInt8), (false, (([] : List (List UInt8)), ([] : List Int))))))]).getD nd.length z = (0, x.2.1, [], false, [], []) := by intro z; simp [List.getD]
                have hkd : (x.1 = 1 ∧ ([] : List (List UInt8)) = [] ∨ x.1 = 2) := by
                  simp only [Bool.or_eq_false_iff, decide_eq_false_iff_not] at h1
                  have n1 : x.1 ≠ 3 := by simpa using h4
                  by_cases e1 : x.1 = 1
                  · exact .inl ⟨e1, rfl⟩
                  · exact .inr (by omega)
                have := (ih k1 (by omega)).2 k1 (x :: r) (nd ++ [(0, x.2.1, [], false, [], [])]) x.1 x.2.1 x.2.2.1 nd.length d a x.2.2.2.1 x.2.2.2.2 [] [] K (by omega) (by omega) hla ha (by simp at hll ⊢; omega) (by simp at hll ⊢; omega) (by simp; omega) (by omega) (by simp) hkd hx0
                revert this
                cases kidsS f x.1 x.2.1 x.2.2.1 nd.length d (x :: r) (nd ++ [(0, x.2.1, [], false, [], [])]) [] [] with
                | inl e =>
                  rintro ⟨e0, a', nd', z, hle, hv⟩
                  exact ⟨e0, a', nd', z, by simp at hle; omega, hv⟩
                | inr p => exact fun h => h
    · intro m l nd kd ln col n d a t q keys kids K hm hf hla ha hlk hlk2 hnd hd hn hkd hz
      obtain ⟨m, rfl⟩ : ∃ m', m = m' + 1 := ⟨m - 1, by omega⟩
      obtain ⟨k1, rfl⟩ : ∃ k1, k = k1 + 1 := ⟨k - 1, by omega⟩
      have hi : inb (n : Int) (nd.length : Int) = true := inb_t (by omega) (by omega)
      have hi2 : ∀ y : Nd, inb (n : Int) ((nd.set n y).length : Int) = true := fun y => inb_t (by omega) (by rw [List.length_set]; omega)
      rw [wqo]
      unfold wq2j
      rw [wqcj]
      have hsp : (bif kd == 2 then (3 : Int) else 2) = if kd = 2 then 3 else 2 := by
        by_cases e : kd = 2
        · rw [e]; rfl
        · have : (kd == 2) = false := by simpa using e
          rw [this, if_neg e]; rfl
      cases h1 : nextS l kd col with
      | false =>
        have c0 : (!decide ((a : Int) < (L.length : Int)) == true || inb (a : Int) (L.length : Int)) = true := by
          by_cases h : (a : Int) < (L.length : Int)
          · rw [inb_t (by omega) h, Bool.or_true]
          · rw [dec_f h]; rfl
        have c2 : ∀ b : Bool, (!(bif decide ((a : Int) < (L.length : Int)) then b else false) == true || inb (a : Int) (L.length : Int)) = true := by
          intro b
          by_cases h : (a : Int) < (L.length : Int)
          · rw [inb_t (by omega) h, Bool.or_true]
          · rw [dec_f h]; rfl
        have c3 : (bif bif bif decide ((a : Int) < (L.length : Int)) then (L.getD a (Kd.zero kPc)).1 == kd else false then (L.getD a (Kd.zero kPc)).2.2.1 == col else false then (0 : Int) == 0 else false) = false := by
          cases l with
          | nil =>
            have := drop_nil hla
            rw [dec_f (by omega)]; rfl
          | cons x r =>
            obtain ⟨i1, g1, g2, g3⟩ := drop_at' hla
            rw [dec_t (by omega), cond_true, g1]
            simp only [nextS, Bool.and_eq_false_iff] at h1
            rcases h1 with h1 | h1 <;> rw [h1]
            · rfl
            · cases x.1 == kd <;> rfl
        simp only [c0, c2, wq9, c3, cond_true, cond_false, hi, hi2, SH_eq, hz, wqhy hn, List.set_set]
        rcases hkd with ⟨rfl, rfl⟩ | rfl
        · exact ⟨a, hla, ha, rfl⟩
        · exact ⟨a, hla, ha, rfl⟩
      | true =>
        obtain ⟨x, r, rfl, hx1, hx2⟩ := wqhx h1
        obtain ⟨i1, g1, g2, g3⟩ := drop_at' hla
        simp only [List.length_cons] at hf hlk hlk2
        have hrl : r.length = L.length - (a + 1) := by rw [← g2, List.length_drop]
        have d1 : decide ((a : Int) < (L.length : Int)) = true := dec_t (by omega)
        have hw : IntKind.i64.wrap ((a : Int) + 1) = ((a + 1 : Nat) : Int) := by rw [wrap_id (by omega) (by omega)]; omega
        have q1 : (x.1 == kd) = true := by rw [hx1]; simp
        have q2 : (x.2.2.1 == col) = true := by rw [hx2]; simp
        have q3 : ((0 : Int) == 0) = true := rfl
        obtain ⟨m1, rfl⟩ : ∃ m1, m = m1 + 1 := ⟨m - 1, by omega⟩
        simp only [d1, i1, g1, wq9, q1, q2, q3, hw, Bool.or_true, cond_true]
        have tail : ∀ keys', (kd = 1 ∧ keys' = [] ∨ kd = 2) → r.length + keys'.length ≤ 20001 →
            refS (FR_ref10_reader_under (k1 + 1) R L ((a + 1 : Nat) : Int) nd 0 0 x.1 x.2.1 x.2.2.1 x.2.2.2.1 x.2.2.2.2 (d : Int) fun y19 y20 y21 y22 y23 y24 => bif fits kids.length [y24].length 8 then wqo (k1 + 1) (wq4 (k1 + 1)) (FR_ref10_reader_under (k1 + 1)) (m1 + 1) y19 y20 y21 y22 y23 (d : Int) kd ln col t q (n : Int) keys' (kids ++ [y24]) K else none) K L nd (n : Int)
              (bif deepS r x.2.2.1 then (match blkS f r nd (d + 1) with
                | .inl e => .inl e
                | .inr (l', nd') => kidsS f kd ln col n d l' nd' keys' (kids ++ [(nd.length : Int)]))
              else .inl (10, x.2.1)) := by
          intro keys' hk' hl'
          rw [wqxj k1 L r (a + 1) g2 (by omega) nd _ _ _ _ _ d (by omega)]
          have hf8 : ∀ z : Int, fits kids.length [z].length 8 = true := fun z => fits_t (by simp; omega) (by simp; omega)
          cases h3 : deepS r x.2.2.1 with
          | false =>
            rw [cond_false, cond_false, hf8, cond_true]
            obtain ⟨nd', z, e1, e2⟩ := wqti (k1 + 1) (wq4 (k1 + 1)) (FR_ref10_reader_under (k1 + 1)) K L (a + 1) nd 10 x.2.1 (by decide) (d : Int) kd ln col t q n hn keys' (kids ++ [0]) m1
            exact ⟨by show _ ≠ (0 : Int); simp, a + 1, nd', z, e1, e2⟩
          | true =>
            rw [cond_true, cond_true]
            have hr0 : r ≠ [] := fun e => by subst e; cases h3
            have hb := (ih k1 (by omega)).1 r nd (d + 1) (a + 1) (fun y19 y20 y21 y22 y23 y24 => bif fits kids.length [y24].length 8 then wqo (k1 + 1) (wq4 (k1 + 1)) (FR_ref10_reader_under (k1 + 1)) (m1 + 1) y19 y20 y21 y22 y23 (d : Int) kd ln col t q (n : Int) keys' (kids ++ [y24]) K else none) g2 (by omega) hr0 (by omega) hnd (by omega)
            have hinv := (spec_inv f).1 r nd (d + 1)
            revert hb hinv
            cases blkS f r nd (d + 1) with
            | inl e =>
              rintro ⟨e0, a', nd', z, hle, hv⟩ _
              rw [hv]
              dsimp only
              rw [hf8, cond_true]
              obtain ⟨nd2, z2, e1, e2⟩ := wqti (k1 + 1) (wq4 (k1 + 1)) (FR_ref10_reader_under (k1 + 1)) K L a' nd' e.1 e.2 e0 (d : Int) kd ln col t q n (by omega) keys' (kids ++ [z]) m1
              exact ⟨e0, a', nd2, z2, by omega, e2⟩
            | inr p =>
              obtain ⟨l', nd'⟩ := p
              rintro ⟨a', h5, h6, hv⟩ hinv
              obtain ⟨b1, b2, b3, b4⟩ := hinv l' nd' rfl hnd
              rw [hv]
              dsimp only
              rw [hf8, cond_true]
              have := (ih (k1 + 1) (by omega)).2 (m1 + 1) l' nd' kd ln col n d a' t q keys' (kids ++ [(nd.length : Int)]) K (by omega) (by omega) h5 h6 (by simp; omega) (by omega) b3 hd (by omega) hk' (fun z => by rw [getD_at b4 hn]; exact hz z)
              revert this
              cases kidsS f kd ln col n d l' nd' keys' (kids ++ [(nd.length : Int)]) with
              | inl e =>
                rintro ⟨e0, a2, nd2, z, hle, hv2⟩
                exact ⟨e0, a2, nd2, z, by omega, hv2⟩
              | inr p => exact fun h => h
        rcases hkd with ⟨rfl, rfl⟩ | rfl
        · have t0 := tail [] (.inl ⟨rfl, rfl⟩) (by simp; omega)
          have e12 : ((1 : Int) == 2) = false := rfl
          simp only [e12, cond_false, Bool.false_and]
          exact t0
        · have e12 : ((2 : Int) == 2) = true := rfl
          have hkl := wq10t (k1 + 1) (R := R) (wq4 (k1 + 1)) (FR_ref10_reader_under (k1 + 1)) (fun s0 s1 s2 s3 s4 s5 s6 s7 s8 s9 s10 s11 s12 s13 => wqo (k1 + 1) (wq4 (k1 + 1)) (FR_ref10_reader_under (k1 + 1)) (m1 + 1) s0 s1 s2 s3 s4 s5 s6 s7 s8 s9 s10 s11 s12 s13 K) K L ((a + 1 : Nat) : Int) nd (d : Int) 2 ln col t q (n : Int) keys (by omega) kids x.1 x.2.1 x.2.2.1 x.2.2.2.1 x.2.2.2.2 (k1 + 1) keys 0 rfl (by omega) (by omega)
          have hz0 : ((0 : Nat) : Int) = 0 := rfl
          rw [hz0] at hkl
          simp only [e12, cond_true, Bool.true_and]
          rw [hkl]
          cases h2 : anyK x.2.2.2.1 keys with
          | true =>
            rw [cond_true, cond_true]
            exact ⟨by show _ ≠ (0 : Int); simp, a + 1, nd, 0, Nat.le_refl _, rfl⟩
          | false =>
            rw [cond_false, cond_false]
            exact tail (keys ++ [x.2.2.2.1]) (.inr rfl) (by simp; omega)
end Go.Proofs.YtpfbdepoammjmaaDoor.Pvm

namespace Go.Proofs.YtpfbdepoammjmaaDoor.Pvm
open Go
abbrev RsO := (Int × Int) ⊕ (List Nd)
def ofS (l : List Pce) : RsO :=
  match l with
  | [] => .inl (10, 1)
  | x :: r => match blkS (2 * (r.length + 1) + 2) (x :: r) [] 1 with
    | .inl e => .inl e
    | .inr p => match p.1 with
      | [] => .inr p.2
      | y :: _ => .inl (6, y.2.1)
def outD {R : Type} (K : List Nd → Int → Int → Option R) : RsO → Option R
  | .inl e => K [] e.1 e.2
  | .inr nd => K nd 0 0
theorem wqye (k : Nat) {R : Type} (l : List Pce) (hl : l.length ≤ 20000) (hk : 6 * l.length + 21000 ≤ k) (K : List Nd → Int → Int → Option R) : F_doc_Of k l K = outD K (ofS l) := by
  unfold F_doc_Of A_doc_Of
  cases l with
  | nil => rfl
  | cons x r =>
    have h0 : ((((x :: r).length : Nat) : Int) == 0) = false := ieq_f (by simp; omega)
    rw [h0, cond_false]
    simp only [List.length_cons] at hl hk
    have := (doc_all (R := R) (2 * (r.length + 1) + 2) k (by omega)).1 (x :: r) [] 1 (fun y4 y5 y6 =>
        bif decide (((y4.length : Nat) : Int) > 0) then
          bif inb 0 ((y4.length : Nat) : Int) then
            wq5e k 6 (y4.getD (Int.toNat 0) (Kd.zero kPc)).2.1 fun y7 y8 => wq7t k [] 0 0 y7 y8 fun y9 y10 y11 => K y9 y10 y11
          else none
        else wqbv k y5 0 0 fun y7 y8 y9 => K y7 y8 y9) (fun a b => K [] a b) (by simp) (by simp) (by simp; omega) (by simp) (by omega)
    refine Eq.trans this ?_
    rw [ofS]
    cases blkS (2 * (r.length + 1) + 2) (x :: r) [] 1 with
    | inl e => rfl
    | inr p =>
      obtain ⟨l', nd'⟩ := p
      cases l' with
      | nil => rfl
      | cons y r' =>
        have h1 : decide ((((y :: r').length : Nat) : Int) > 0) = true := dec_t (by simp <;> omega)
        have h2 := zero_inb y r'
        simp only [outS, h1, h2, cond_true]
        rfl
theorem wq118 (k : Nat) {R : Type} (l : List Pce) (hl : l.length ≤ 20000) (hk : 6 * l.length + 21000 ≤ k) (K : List Nd → Int → Int → Option R) : wqmq k l K = outD K (ofS l) := by
  unfold wqmq wqrh
  cases l with
  | nil => rfl
  | cons x r =>
    have h0 : ((((x :: r).length : Nat) : Int) == 0) = false := ieq_f (by simp; omega)
    rw [h0, cond_false]
    simp only [List.length_cons] at hl hk
    have := (ref_all (R := R) (x :: r) (by simp; omega) (2 * (r.length + 1) + 2) k (by omega)).1 (x :: r) [] 1 0 (fun y4 y5 y6 y7 y8 y9 =>
        bif bif y7 == 0 then decide (y5 < (((x :: r).length : Nat) : Int)) else false then
          bif inb y5 (((x :: r).length : Nat) : Int) then
            wq23 k y4 y5 y6 y7 y8 6 ((x :: r).getD y5.toNat (Kd.zero kPc)).2.1 fun y10 y11 y12 y13 y14 => bif y13 != 0 then K [] y13 y14 else K y12 0 0
          else none
        else bif y7 != 0 then K [] y7 y8 else K y6 0 0) rfl (by omega) (by simp) (by simp) (by simp) (by omega)
    rw [ofS]
    revert this
    cases blkS (2 * (r.length + 1) + 2) (x :: r) [] 1 with
    | inl e =>
      rintro ⟨e0, a, nd', z, _, hv⟩
      refine Eq.trans hv ?_
      have e1 : (e.1 == 0) = false := by simpa using e0
      have e2 : (e.1 != 0) = true := by simpa using e0
      simp only [e1, e2, cond_true, cond_false]
      rfl
    | inr p =>
      obtain ⟨l', nd'⟩ := p
      rintro ⟨a, h1, h2, hv⟩
      refine Eq.trans hv ?_
      have q0 : ((0 : Int) == 0) = true := rfl
      have q1 : ((0 : Int) != 0) = false := rfl
      have q2 : ((6 : Int) != 0) = true := rfl
      cases l' with
      | nil =>
        have := drop_nil h1
        have hd : decide ((a : Int) < (((x :: r).length : Nat) : Int)) = false := dec_f (by omega)
        simp only [q0, q1, hd, cond_true, cond_false]
        rfl
      | cons y r' =>
        obtain ⟨i1, g1, g2, g3⟩ := drop_at' h1
        have hd : decide ((a : Int) < (((x :: r).length : Nat) : Int)) = true := dec_t (by omega)
        simp only [q0, hd, i1, g1, wq9, cond_true, fail_eq, q2]
        rfl
def okN (nd : List Nd) : Prop := ∀ x ∈ nd, x.2.2.2.2.1.length ≤ 20001 ∧ x.2.2.2.2.2.length ≤ 20001
theorem spec_ok : ∀ f : Nat,
    (∀ l nd d l' nd', blkS f l nd d = .inr (l', nd') → okN nd → nd.length ≤ 2000 → l.length ≤ 20000 → okN nd') ∧
    (∀ kd ln col n d l nd keys kids l' nd', kidsS f kd ln col n d l nd keys kids = .inr (l', nd') → okN nd → nd.length ≤ 2000 → l.length + keys.length ≤ 20001 → l.length + kids.length ≤ 20001 → l.length ≤ 20000 → okN nd') := by
  intro f
  induction f with
  | zero => exact ⟨fun l nd d l' nd' h => (by rw [blkS] at h; cases h), fun kd ln col n d l nd keys kids l' nd' h => (by rw [kidsS] at h; cases h)⟩
  | succ f ih =>
    obtain ⟨ihb, ihk⟩ := ih
    have snoc : ∀ (nd : List Nd) (x : Nd), okN nd → x.2.2.2.2.1.length ≤ 20001 ∧ x.2.2.2.2.2.length ≤ 20001 → okN (nd ++ [x]) := by
      intro nd x h hx y hy
      rcases List.mem_append.1 hy with hy | hy
      · exact h y hy
      · simp at hy; subst hy; exact hx
    constructor
    · intro l nd d l' nd' h ho hl hl3
      cases l with
      | nil => rw [blkS] at h; cases h
      | cons x r =>
        rw [blkS] at h
        cases h1 : (decide (x.1 < 1) || decide (x.1 > 3)) with
        | true => rw [h1, cond_true] at h; cases h
        | false =>
          rw [h1, cond_false] at h
          cases h2 : decide (24 < d) with
          | true => rw [h2, cond_true] at h; cases h
          | false =>
            rw [h2, cond_false] at h
            by_cases h3 : 2000 ≤ nd.length
            · rw [dec_t h3, cond_true] at h; cases h
            · rw [dec_f h3, cond_false] at h
              cases h4 : x.1 == 3 with
              | true =>
                rw [h4, cond_true] at h
                cases h
                exact snoc _ _ ho (by simp)
              | false =>
                rw [h4, cond_false] at h
                exact ihk _ _ _ _ _ _ _ _ _ _ _ h (snoc _ _ ho (by simp)) (by simp; omega) (by simp at hl3 ⊢; omega) (by simp at hl3 ⊢; omega) hl3
    · intro kd ln col n d l nd keys kids l' nd' h ho hl hlk hld hl3
      rw [wqcj] at h
      cases h1 : nextS l kd col with
      | false =>
        rw [h1, cond_false] at h
        cases h
        intro y hy
        rcases List.mem_or_eq_of_mem_set hy with hy | hy
        · exact ho y hy
        · subst hy
          constructor
          · show keys.length ≤ 20001; omega
          · show kids.length ≤ 20001; omega
      | true =>
        obtain ⟨x, r, rfl, _, _⟩ := wqhx h1
        simp only [List.length_cons] at hlk hld hl3
        rw [h1, cond_true] at h
        dsimp only at h
        cases h2 : (kd == 2 && anyK x.2.2.2.1 keys) with
        | true => rw [h2, cond_true] at h; cases h
        | false =>
          rw [h2, cond_false] at h
          cases h3 : deepS r x.2.2.1 with
          | false => rw [h3, cond_false] at h; cases h
          | true =>
            rw [h3, cond_true] at h
            cases hb : blkS f r nd (d + 1) with
            | inl e => rw [hb] at h; cases h
            | inr p =>
              obtain ⟨l1, nd1⟩ := p
              rw [hb] at h
              dsimp only at h
              have b0 := ihb _ _ _ _ _ hb ho hl (by omega)
              obtain ⟨b1, b2, b3, b4⟩ := (spec_inv f).1 _ _ _ _ _ hb hl
              refine ihk _ _ _ _ _ _ _ _ _ _ _ h b0 b3 ?_ (by simp; omega) (by omega)
              cases kd == 2
              · simp only [cond_false]; omega
              · simp only [cond_true, List.length_append, List.length_singleton]; omega
theorem ofS_ok {l : List Pce} {nd : List Nd} (hl : l.length ≤ 20000) (h : ofS l = .inr nd) : okN nd ∧ nd.length ≤ 2000 := by
  cases l with
  | nil => cases h
  | cons x r =>
    rw [ofS] at h
    cases hb : blkS (2 * (r.length + 1) + 2) (x :: r) [] 1 with
    | inl e => rw [hb] at h; cases h
    | inr p =>
      obtain ⟨l', nd'⟩ := p
      rw [hb] at h
      cases l' with
      | nil =>
        cases h
        exact ⟨(spec_ok _).1 _ _ _ _ _ hb (fun y hy => by cases hy) (by simp) hl, ((spec_inv _).1 _ _ _ _ _ hb (by simp)).2.2.1⟩
      | cons y r' => cases h
theorem wq10u (k : Nat) {R : Type} (J : List Nd → List Nd → Int → Option R) (K : Bool → Option R) (s0 s1 : List Nd) (s2 s3 s4 : Int) (s5 : List UInt8) (s6 : Bool) (keys : List (List UInt8)) (hk : keys.length ≤ 100000) (kids : List Int) (s9 s10 : Int) (s11 : List UInt8) (s12 : Bool) :
    ∀ (n : Nat) (q : List (List UInt8)) (i : Nat), keys.drop i = q → i ≤ keys.length → q.length < n → wq2l k J n s0 s1 s2 s3 s4 s5 s6 keys kids s9 s10 s11 s12 keys kids (i : Int) K = wq31 k J k s0 s1 s2 s3 s4 s5 s6 keys kids s9 s10 s11 s12 keys kids 0 K := by
  intro n
  induction n with
  | zero => intro q i _ _ h; omega
  | succ n ih =>
    intro q i hq hi hn
    rw [wq2l]
    unfold wq60
    cases q with
    | nil =>
      have := drop_nil hq
      rw [dec_f (by omega), cond_false]
    | cons c q =>
      obtain ⟨h1, h2, h3⟩ := wq39 hq
      simp (disch := omega) only [dec_t, inb_t, cond_true, h2, wq9, wrap_id, wq70, beq_self_eq_true, Bool.not_true, cond_false]
      exact ih q (i + 1) h3 (by omega) (by simp at hn; omega)
theorem wq10v (k : Nat) {R : Type} (J : List Nd → List Nd → Int → Option R) (K : Bool → Option R) (s0 s1 : List Nd) (m : Nat) (hm : m ≤ 100000) (s3 s4 : Int) (s5 : List UInt8) (s6 : Bool) (keys : List (List UInt8)) (kids : List Int) (hk : kids.length ≤ 100000) (s9 s10 : Int) (s11 : List UInt8) (s12 : Bool) :
    ∀ (n : Nat) (q : List Int) (i : Nat), kids.drop i = q → i ≤ kids.length → q.length < n → wq31 k J n s0 s1 (m : Int) s3 s4 s5 s6 keys kids s9 s10 s11 s12 keys kids (i : Int) K = J s0 s1 ((m + 1 : Nat) : Int) := by
  intro n
  induction n with
  | zero => intro q i _ _ h; omega
  | succ n ih =>
    intro q i hq hi hn
    rw [wq31]
    unfold wq7r
    cases q with
    | nil =>
      have := drop_nil hq
      have hw : IntKind.i64.wrap ((m : Int) + 1) = ((m + 1 : Nat) : Int) := by rw [wrap_id (by omega) (by omega)]; omega
      rw [dec_f (by omega), cond_false, hw]
    | cons c q =>
      obtain ⟨h1, h2, h3⟩ := wq39 hq
      have hne : (c != c) = false := by simp
      simp (disch := omega) only [dec_t, inb_t, cond_true, h2, wq9, wrap_id, wq70, hne, cond_false]
      exact ih q (i + 1) h3 (by omega) (by simp at hn; omega)
theorem wq10w (k : Nat) {R : Type} (K : Bool → Option R) (x : List Nd) (hx : x.length ≤ 100000) (ho : okN x) (hk : 20100 < k) :
    ∀ (n : Nat) (q : List Nd) (i : Nat), x.drop i = q → i ≤ x.length → q.length < n → wq29 k n x x (i : Int) K = K true := by
  intro n
  induction n with
  | zero => intro q i _ _ h; omega
  | succ n ih =>
    intro q i hq hi hn
    rw [wq29]
    unfold wq7q
    cases q with
    | nil =>
      have := drop_nil hq
      rw [dec_f (by omega), cond_false]
    | cons c q =>
      obtain ⟨h1, h2, h3⟩ := wq39 hq
      have hmem : c ∈ x := by
        have : c ∈ x.drop i := by rw [hq]; exact List.mem_cons_self
        exact List.mem_of_mem_drop this
      obtain ⟨o1, o2⟩ := ho c hmem
      have hne : ∀ z : Int, (z != z) = false := by intro z; simp
      simp (disch := omega) only [dec_t, inb_t, cond_true, h2, wq9, dupT_eq, hne, beq_self_eq_true, Bool.not_true, cond_false]
      have hz : ((0 : Nat) : Int) = 0 := rfl
      have e1 := wq10u k (fun s0 s1 s2 => wq29 k n s0 s1 s2 K) K x x (i : Int) c.1 c.2.1 c.2.2.1 c.2.2.2.1 c.2.2.2.2.1 (by omega) c.2.2.2.2.2 c.1 c.2.1 c.2.2.1 c.2.2.2.1 k _ 0 rfl (by omega) (by simp; omega)
      have e2 := wq10v k (fun s0 s1 s2 => wq29 k n s0 s1 s2 K) K x x i (by omega) c.1 c.2.1 c.2.2.1 c.2.2.2.1 c.2.2.2.2.1 c.2.2.2.2.2 (by omega) c.1 c.2.1 c.2.2.1 c.2.2.2.1 k _ 0 rfl (by omega) (by simp; omega)
      rw [hz] at e1 e2
      refine e1.trans (e2.trans ?_)
      exact ih q (i + 1) h3 (by omega) (by simp at hn; omega)
theorem Same_eq (k : Nat) {R : Type} (K : Bool → Option R) (x : List Nd) (hx : x.length ≤ 100000) (ho : okN x) (hk : 20100 < k) (hk2 : x.length < k) : wqcf k x x K = K true := by
  unfold wqcf wqfm
  have hne : ((x.length : Int) != (x.length : Int)) = false := by simp
  rw [hne, cond_false]
  exact wq10w k K x hx ho hk k x 0 rfl (by omega) hk2
theorem wqzz (k : Nat) {R : Type} (K : Bool → Option R) (x : List Nd) (hx : x.length ≤ 100000) :
    ∀ (n : Nat) (q : List Nd) (i : Nat), x.drop i = q → i ≤ x.length → q.length < n → wq38 k n x x (i : Int) K = K true := by
  intro n
  induction n with
  | zero => intro q i _ _ h; omega
  | succ n ih =>
    intro q i hq hi hn
    rw [wq38]
    unfold wq6z
    cases q with
    | nil =>
      have := drop_nil hq
      rw [dec_f (by omega), cond_false]
    | cons c q =>
      obtain ⟨h1, h2, h3⟩ := wq39 hq
      have hne : ∀ z : Int, (z != z) = false := by intro z; simp
      simp (disch := omega) only [dec_t, inb_t, cond_true, h2, wq9, hne, cond_false, wrap_id, wq70]
      exact ih q (i + 1) h3 (by omega) (by simp at hn; omega)
theorem Alike_eq (k : Nat) {R : Type} (K : Bool → Option R) (x : List Nd) (hx : x.length ≤ 100000) (ho : okN x) (hk : 20100 < k) (hk2 : x.length < k) : wqau k x x K = K true := by
  unfold wqau wqda
  rw [Same_eq k _ x hx ho hk hk2, Bool.not_true, cond_false]
  exact wqzz k K x hx k x 0 rfl (by omega) hk2
end Go.Proofs.YtpfbdepoammjmaaDoor.Pvm

namespace Go.Proofs.YtpfbdepoammjmaaDoor.Pvm
open Go
def sgnI (x : Int) : Bool :=
  (decide (x ≥ 97) && decide (x ≤ 122)) || (decide (x ≥ 65) && decide (x ≤ 90)) || (decide (x ≥ 48) && decide (x ≤ 57)) || x == 95 || x == 45 || x == 46
def sgn (c : UInt8) : Bool := sgnI (c.toNat : Int)
theorem wqz9 (k : Nat) {R : Type} (x : Int) (K : Bool → Option R) : wqh6 k x K = K (sgnI x) := by
  unfold wqh6 wqq3 sgnI
  congr 1
  simp only [Bool.cond_true_left, Bool.cond_false_right]
theorem wqmr (k : Nat) {R : Type} (s : List UInt8) (K : Bool → Option R) (hs : s.length ≤ 4611686018427387904) : ∀ (t : List UInt8) (n m : Nat), s.drop n = t → t.length < m → n ≤ s.length →
    wq3f k m s (s.length : Int) (n : Int) K = K (t.all sgn && !(s == []))
  | t, n, 0, _, hm, _ => by omega
  | [], n, m + 1, hd, hm, hn => by
    have := drop_nil hd
    rw [wq3f, wq6f]
    simp (disch := omega) only [dec_t, dec_f, ieq_t, ieq_f, ine_t, ine_f, inb_t, bnd_t, wrap_id, wrap8_id, cond_true, cond_false, Bool.not_true, Bool.not_false, Bool.true_or, Bool.or_true, Bool.false_or, Bool.or_false, Bool.true_and, Bool.and_true, Bool.false_and, Bool.and_false, wqf, wq8, wq9]
    simp
  | c :: r, n, m + 1, hd, hm, hn => by
    obtain ⟨hlt, hc, hr⟩ := wq39 hd
    rw [wq3f, wq6f]
    simp (disch := omega) only [dec_t, dec_f, ieq_t, ieq_f, ine_t, ine_f, inb_t, bnd_t, wrap_id, wrap8_id, cond_true, cond_false, Bool.not_true, Bool.not_false, Bool.true_or, Bool.or_true, Bool.false_or, Bool.or_false, Bool.true_and, Bool.and_true, Bool.false_and, Bool.and_false, wqf, wq8, wq9, hc, wqz9, wq70]
    rw [wqmr k s K hs r (n + 1) m hr (by simp at hm; omega) (by omega)]
    have e : sgnI (c.toNat : Int) = sgn c := rfl
    rw [e]
    cases h : sgn c <;> simp [h]
theorem wqrj (k : Nat) {R : Type} (s : List UInt8) (K : Bool → Option R) (hk : s.length < k) (hs : s.length ≤ 4611686018427387904) : wqec k s K = K (s.all sgn && !(s == [])) := by
  unfold wqec wqie
  exact wqmr k s K hs s 0 k rfl hk (Nat.zero_le _)
theorem idx_some (s : List UInt8) (c : Int) : ∀ (n : Nat), (∀ i, i < n → (s.getD i 0 == UInt8.ofNat c.toNat) = false) → n < s.length → (s.getD n 0 == UInt8.ofNat c.toNat) = true → idxByte s c = n := by
  intro n h1 h2 h3
  unfold idxByte
  have : (List.range s.length).find? (fun i => s.getD i 0 == UInt8.ofNat c.toNat) = some n := by
    rw [List.find?_range_eq_some]
    exact ⟨h3, by simpa using h2, fun j hj => by simpa using h1 j hj⟩
  rw [this]
theorem idx_none (s : List UInt8) (c : Int) (h : ∀ i, i < s.length → (s.getD i 0 == UInt8.ofNat c.toNat) = false) : idxByte s c = -1 := by
  unfold idxByte
  have : (List.range s.length).find? (fun i => s.getD i 0 == UInt8.ofNat c.toNat) = none := by
    rw [List.find?_range_eq_none]
    intro i hi
    simpa using h i hi
  rw [this]
def upto (c : UInt8) : List UInt8 → Nat
  | [] => 0
  | x :: r => bif x == c then 0 else upto c r + 1
theorem upto_le (c : UInt8) : ∀ s : List UInt8, upto c s ≤ s.length
  | [] => Nat.le_refl _
  | x :: r => by
    rw [upto]
    cases h : x == c with
    | true => simp
    | false => have := upto_le c r; simp; omega
theorem upto_lt (c : UInt8) : ∀ (s : List UInt8) (i : Nat), i < upto c s → (s.getD i 0 == c) = false
  | [], i, h => by simp [upto] at h
  | x :: r, i, h => by
    rw [upto] at h
    cases hx : x == c with
    | true => rw [hx] at h; simp at h
    | false =>
      rw [hx, cond_false] at h
      cases i with
      | zero => simpa using hx
      | succ i => simpa using upto_lt c r i (by omega)
theorem upto_at (c : UInt8) : ∀ (s : List UInt8), upto c s < s.length → (s.getD (upto c s) 0 == c) = true
  | [], h => by simp at h
  | x :: r, h => by
    rw [upto] at h ⊢
    cases hx : x == c with
    | true => simpa using hx
    | false =>
      rw [hx, cond_false] at h
      rw [cond_false]
      simpa using upto_at c r (by simpa using h)
theorem idx_eq (s : List UInt8) (c : UInt8) : idxByte s (c.toNat : Int) = if upto c s < s.length then (upto c s : Int) else -1 := by
  have e : UInt8.ofNat ((c.toNat : Int)).toNat = c := by simp
  split
  · next h => exact idx_some s _ _ (fun i hi => by rw [e]; exact upto_lt c s i hi) h (by rw [e]; exact upto_at c s h)
  · next h => exact idx_none s _ fun i hi => by rw [e]; exact upto_lt c s i (by have := upto_le c s; omega)
theorem Cut_eq (k : Nat) {R : Type} (s : List UInt8) (c : UInt8) (K : List UInt8 → List UInt8 → Bool → Option R) (hs : s.length ≤ 4611686018427387904) :
    wqak k s c K = if upto c s < s.length then K (s.take (upto c s)) (s.drop (upto c s + 1)) true else K s [] false := by
  unfold wqak wqhb wqif wqn3 wqd1 wqh9 wq5x wqb2 wq6g
  have h1 : (([c].length : Nat) : Int) = 1 := by simp
  have h2 : [c].getD (Int.toNat 0) 0 = c := rfl
  simp only [h1, h2, idx_eq]
  cases hcs : ([c] == s) with
  | true =>
    have : s = [c] := by simpa using (beq_iff_eq.1 hcs).symm
    subst this
    simp (disch := omega) only [dec_t, dec_f, ieq_t, ieq_f, ine_t, ine_f, inb_t, bnd_t, wrap_id, wrap8_id, cond_true, cond_false, Bool.not_true, Bool.not_false, Bool.true_or, Bool.or_true, Bool.false_or, Bool.or_false, Bool.true_and, Bool.and_true, Bool.false_and, Bool.and_false, wqf, wq8, wq9, bnd, wrap_id]
    simp [upto, cut, wrap_id]
  | false =>
    simp (disch := omega) only [dec_t, dec_f, ieq_t, ieq_f, ine_t, ine_f, inb_t, bnd_t, wrap_id, wrap8_id, cond_true, cond_false, Bool.not_true, Bool.not_false, Bool.true_or, Bool.or_true, Bool.false_or, Bool.or_false, Bool.true_and, Bool.and_true, Bool.false_and, Bool.and_false, wqf, wq8, wq9]
    split
    · next h =>
      have : ((upto c s : Nat) : Int) + 1 = ((upto c s + 1 : Nat) : Int) := by omega
      simp (disch := omega) only [dec_t, dec_f, ieq_t, ieq_f, ine_t, ine_f, inb_t, bnd_t, wrap_id, wrap8_id, cond_true, cond_false, Bool.not_true, Bool.not_false, Bool.true_or, Bool.or_true, Bool.false_or, Bool.or_false, Bool.true_and, Bool.and_true, Bool.false_and, Bool.and_false, wqf, wq8, wq9, this, cut_end, wqag]
    · next h =>
      simp (disch := omega) only [dec_t, dec_f, ieq_t, ieq_f, ine_t, ine_f, inb_t, bnd_t, wrap_id, wrap8_id, cond_true, cond_false, Bool.not_true, Bool.not_false, Bool.true_or, Bool.or_true, Bool.false_or, Bool.or_false, Bool.true_and, Bool.and_true, Bool.false_and, Bool.and_false, wqf, wq8, wq9]
end Go.Proofs.YtpfbdepoammjmaaDoor.Pvm

namespace Go.Proofs.YtpfbdepoammjmaaDoor.Pvm
open Go
def dsh : List UInt8 → Bool
  | [] => false
  | [c] => c == 45
  | c :: d :: _ => c == 45 && d == 32
theorem u8_beq (c : UInt8) (n : Nat) (hn : n < 256) : ((c.toNat : Int) == (n : Int)) = (c == UInt8.ofNat n) := by
  rw [Bool.eq_iff_iff]
  simp only [beq_iff_eq]
  constructor
  · intro h
    have : c.toNat = n := by omega
    rw [← this]; simp
  · intro h
    rw [h]
    have : (UInt8.ofNat n).toNat = n := by simp; omega
    rw [this]
theorem u8_bne (c : UInt8) (n : Nat) (hn : n < 256) : ((c.toNat : Int) != (n : Int)) = !(c == UInt8.ofNat n) := by
  rw [bne, u8_beq c n hn]
theorem u8_lt (c : UInt8) : c.toNat < 256 := c.toNat_lt
theorem wqtj (k : Nat) {R : Type} (s : List UInt8) (K : Bool → Option R) : wqeb k s K = K (dsh s) := by
  unfold wqeb wqq2 wq68 wq93 wq7n wqb1
  match s with
  | [] => simp [dsh, bnd, cut]
  | [c] =>
    simp only [dsh]
    cases h : c == 45 with
    | true => have := beq_iff_eq.1 h; subst this; simp
    | false =>
      have h' : ([c] == [45]) = false := by simpa using h
      simp [h', bnd, cut]
  | c :: d :: r =>
    have h0 : ((c :: d :: r) == [45]) = false := by simp
    have h1 : decide (((c :: d :: r).length : Int) ≥ (([45, 32] : List UInt8).length : Int)) = true := dec_t (by simp; omega)
    have h2 : bnd 0 (([45, 32] : List UInt8).length : Int) ((c :: d :: r).length : Int) = true := bnd_t (by omega) (by simp) (by simp; omega)
    simp only [h0, h1, h2, dec_t, dec_f, ieq_t, ieq_f, ine_t, ine_f, inb_t, bnd_t, wrap_id, wrap8_id, cond_true, cond_false, Bool.not_true, Bool.not_false, Bool.true_or, Bool.or_true, Bool.false_or, Bool.or_false, Bool.true_and, Bool.and_true, Bool.false_and, Bool.and_false, wqf, wq8, wq9, wqag]
    simp [dsh]
def hd32 : List UInt8 → Bool
  | [] => true
  | d :: _ => d == 32
def kS (s : List UInt8) : Nat :=
  match s.drop (s.takeWhile sgn).length with
  | [] => 0
  | c :: r => bif (c == 58) && hd32 r then (s.takeWhile sgn).length else 0
theorem tw_len (s : List UInt8) : (s.takeWhile sgn).length ≤ s.length := (List.takeWhile_prefix _).length_le
theorem kS_end {s : List UInt8} (h : s.drop (s.takeWhile sgn).length = []) : kS s = 0 := by unfold kS; rw [h]
theorem kS_at {s r : List UInt8} {c : UInt8} (h : s.drop (s.takeWhile sgn).length = c :: r) : kS s = bif (c == 58) && hd32 r then (s.takeWhile sgn).length else 0 := by
  unfold kS; rw [h]
theorem kS_lt (s : List UInt8) : kS s ≤ s.length := by
  have := tw_len s
  cases h : s.drop (s.takeWhile sgn).length with
  | nil => rw [kS_end h]; omega
  | cons c r =>
    rw [kS_at h]
    cases ((c == 58) && hd32 r) <;> simp only [cond_true, cond_false] <;> omega
theorem tw_sgn (s : List UInt8) : ∀ i, i < (s.takeWhile sgn).length → sgn (s.getD i 0) = true := by
  induction s with
  | nil => intro i h; simp at h
  | cons c r ih =>
    intro i h
    rw [List.takeWhile_cons] at h
    split at h
    · next hc =>
      cases i with
      | zero => simpa using hc
      | succ i => simpa using ih i (by simpa using h)
    · simp at h
theorem tw_not (s : List UInt8) {c : UInt8} {r : List UInt8} (h : s.drop (s.takeWhile sgn).length = c :: r) : sgn c = false := by
  induction s with
  | nil => simp at h
  | cons a t ih =>
    rw [List.takeWhile_cons] at h
    split at h
    · next ha => exact ih (by simpa using h)
    · next ha =>
      simp only [List.length_nil, List.drop_zero, List.cons.injEq] at h
      rw [← h.1]; simpa using ha
theorem sgn58 : sgn 58 = false := by decide
theorem upto_is (c : UInt8) : ∀ (s : List UInt8) (n : Nat), n < s.length → (∀ i, i < n → (s.getD i 0 == c) = false) → (s.getD n 0 == c) = true → upto c s = n
  | [], n, h, _, _ => by simp at h
  | x :: r, 0, h, _, h2 => by
    have : (x == c) = true := by simpa using h2
    rw [upto, this]; rfl
  | x :: r, n + 1, h, h1, h2 => by
    have h0 : (x == c) = false := by simpa using h1 0 (by omega)
    rw [upto, h0, cond_false, upto_is c r n (by simpa using h) (fun i hi => by simpa using h1 (i + 1) (by omega)) (by simpa using h2)]
theorem wqxk (s : List UInt8) (n : Nat) (h : ∀ i, i < n → sgn (s.getD i 0) = true) (hn : n ≤ s.length) : (s.take n).all sgn = true := by
  rw [List.all_eq_true]
  intro c hc
  obtain ⟨i, hi, e⟩ := List.getElem_of_mem hc
  have hi2 : i < n := by simp at hi; omega
  have := h i hi2
  have h3 : s.getD i 0 = c := by
    rw [List.getElem_take] at e
    simp [List.getD, show i < s.length by omega, e]
  rwa [h3] at this
theorem wqwk (k : Nat) {R : Type} (s : List UInt8) (K : List UInt8 → Option R) (hk : s.length < k) (hs : s.length ≤ 4611686018427387904) : wqf5 k s K = K (s.take (kS s)) := by
  unfold wqf5 wquf
  rw [Cut_eq k s 58 _ hs]
  have hn := tw_len s
  cases h : s.drop (s.takeWhile sgn).length with
  | nil =>
    have hlen := drop_nil h
    rw [kS_end h, List.take_zero]
    split
    · next hu =>
      exfalso
      have h1 := tw_sgn s (upto 58 s) (by omega)
      have h2 := upto_at 58 s hu
      rw [beq_iff_eq.1 h2, sgn58] at h1
      cases h1
    · rfl
  | cons c r =>
    obtain ⟨hlt, hc, hr⟩ := wq39 h
    rw [kS_at h]
    by_cases hc58 : c = 58
    · subst hc58
      have hu : upto 58 s = (s.takeWhile sgn).length := by
        refine upto_is 58 s _ hlt (fun i hi => ?_) (by rw [hc]; rfl)
        have h1 := tw_sgn s i hi
        cases hb : s.getD i 0 == 58 with
        | false => rfl
        | true => rw [beq_iff_eq.1 hb, sgn58] at h1; cases h1
      rw [hu, if_pos hlt, hr]
      have hall := wqxk s _ (tw_sgn s) hn
      simp only [dec_t, dec_f, ieq_t, ieq_f, ine_t, ine_f, inb_t, bnd_t, wrap_id, wrap8_id, cond_true, cond_false, Bool.not_true, Bool.not_false, Bool.true_or, Bool.or_true, Bool.false_or, Bool.or_false, Bool.true_and, Bool.and_true, Bool.false_and, Bool.and_false, wqf, wq8, wq9]
      rw [wqrj k _ _ (by rw [List.length_take]; omega) (by rw [List.length_take]; omega), hall]
      by_cases h0 : (s.takeWhile sgn).length = 0
      · rw [h0]
        simp
      · have hne : (s.take (s.takeWhile sgn).length == []) = false := by
          cases hb : s.take (s.takeWhile sgn).length == [] with
          | false => rfl
          | true =>
            have := congrArg List.length (beq_iff_eq.1 hb)
            rw [List.length_take, List.length_nil] at this
            omega
        rw [hne]
        cases r with
        | nil => simp [hd32]
        | cons d r =>
          have e32 : ∀ c : UInt8, ((c.toNat : Int) == 32) = (c == 32) := fun c => u8_beq c 32 (by omega)
          have hi : inb 0 ((d :: r).length : Int) = true := inb_t (by omega) (by rw [List.length_cons]; omega)
          simp only [hi, dec_t, dec_f, ieq_t, ieq_f, ine_t, ine_f, inb_t, bnd_t, wrap_id, wrap8_id, cond_true, cond_false, Bool.not_true, Bool.not_false, Bool.true_or, Bool.or_true, Bool.false_or, Bool.or_false, Bool.true_and, Bool.and_true, Bool.false_and, Bool.and_false, wqf, wq8, wq9]
          simp [bne, e32, hd32]
          cases d == 32 <;> simp
    · have hb : (c == 58) = false := by simpa using hc58
      rw [hb]
      simp only [dec_t, dec_f, ieq_t, ieq_f, ine_t, ine_f, inb_t, bnd_t, wrap_id, wrap8_id, cond_true, cond_false, Bool.not_true, Bool.not_false, Bool.true_or, Bool.or_true, Bool.false_or, Bool.or_false, Bool.true_and, Bool.and_true, Bool.false_and, Bool.and_false, wqf, wq8, wq9, List.take_zero]
      split
      · next hu =>
        have hgt : (s.takeWhile sgn).length < upto 58 s := by
          refine Classical.byContradiction fun hno => ?_
          by_cases he : upto 58 s = (s.takeWhile sgn).length
          · have h2 := upto_at 58 s hu
            rw [he, hc] at h2
            rw [hb] at h2; cases h2
          · have h1 := tw_sgn s (upto 58 s) (by omega)
            have h2 := upto_at 58 s hu
            rw [beq_iff_eq.1 h2, sgn58] at h1
            cases h1
        have hall : (s.take (upto 58 s)).all sgn = false := by
          cases hq : (s.take (upto 58 s)).all sgn with
          | false => rfl
          | true =>
            rw [List.all_eq_true] at hq
            have hm : c ∈ s.take (upto 58 s) := by
              have : (s.take (upto 58 s))[(s.takeWhile sgn).length]? = some c := by
                rw [List.getElem?_take, if_pos hgt]
                have := hc 0
                simp [List.getD, hlt] at this
                simp [hlt, this]
              exact List.mem_of_getElem? this
            have h1 := hq c hm
            rw [tw_not s h] at h1; cases h1
        rw [wqrj k _ _ (by rw [List.length_take]; omega) (by rw [List.length_take]; omega), hall]
        simp
      · rfl
def nb (s : List UInt8) : Nat := (s.takeWhile (· == 32)).length
theorem nb_le (s : List UInt8) : nb s ≤ s.length := (List.takeWhile_prefix _).length_le
theorem nb_cons (c : UInt8) (r : List UInt8) : nb (c :: r) = bif c == 32 then nb r + 1 else 0 := by
  unfold nb
  rw [List.takeWhile_cons]
  cases c == 32 <;> simp
theorem wqob (k : Nat) {R : Type} (x0 x1 : Int) (s : List UInt8) (x4 : List (Int × (Int × (Int × (List UInt8 × Bool))))) (K : Int → Int → List UInt8 → Int → List (Int × (Int × (Int × (List UInt8 × Bool)))) → List UInt8 → Option R) (hs : s.length ≤ 4611686018427387904) : ∀ (t : List UInt8) (n m : Nat), s.drop n = t → t.length < m → n ≤ s.length →
    wq1x k m x0 x1 s (n : Int) x4 K = K x0 x1 s ((n + nb t : Nat) : Int) x4 (t.drop (nb t))
  | t, n, 0, _, hm, _ => by omega
  | [], n, m + 1, hd, hm, hn => by
    have := drop_nil hd
    rw [wq1x, wq4f]
    simp (disch := omega) only [dec_t, dec_f, ieq_t, ieq_f, ine_t, ine_f, inb_t, bnd_t, wrap_id, wrap8_id, cond_true, cond_false, Bool.not_true, Bool.not_false, Bool.true_or, Bool.or_true, Bool.false_or, Bool.or_false, Bool.true_and, Bool.and_true, Bool.false_and, Bool.and_false, wqf, wq8, wq9, cut_end, hd]
    rfl
  | c :: r, n, m + 1, hd, hm, hn => by
    obtain ⟨hlt, hc, hr⟩ := wq39 hd
    have e32 : ((c.toNat : Int) == 32) = (c == 32) := u8_beq c 32 (by omega)
    rw [wq1x, wq4f]
    simp (disch := omega) only [dec_t, dec_f, ieq_t, ieq_f, ine_t, ine_f, inb_t, bnd_t, wrap_id, wrap8_id, cond_true, cond_false, Bool.not_true, Bool.not_false, Bool.true_or, Bool.or_true, Bool.false_or, Bool.or_false, Bool.true_and, Bool.and_true, Bool.false_and, Bool.and_false, wqf, wq8, wq9, hc, e32, wq70, cut_end, hd]
    rw [nb_cons]
    cases c == 32 with
    | true =>
      rw [cond_true, cond_true, wqob k x0 x1 s x4 K hs r (n + 1) m hr (by simp at hm; omega) (by omega)]
      rw [show n + 1 + nb r = n + (nb r + 1) by omega]
      rfl
    | false => simp
theorem wqnq (k : Nat) {R : Type} (x0 x1 : Int) (s : List UInt8) (n : Nat) (x4 : List (Int × (Int × (Int × (List UInt8 × Bool))))) (K : Int → Int → List UInt8 → Int → List (Int × (Int × (Int × (List UInt8 × Bool)))) → List UInt8 → Option R) (hk : s.length < k) (hn : n ≤ s.length) (hs : s.length ≤ 4611686018427387904) :
    wq3h k x0 x1 s (n : Int) x4 K = K x0 x1 s ((n + nb (s.drop n) : Nat) : Int) x4 ((s.drop n).drop (nb (s.drop n))) := by
  unfold wq3h wq94
  exact wqob k x0 x1 s x4 K hs (s.drop n) n k rfl (by simp; omega) hn
end Go.Proofs.YtpfbdepoammjmaaDoor.Pvm

namespace Go.Proofs.YtpfbdepoammjmaaDoor.Pvm
open Go
theorem cast_two (n : Nat) : (n : Int) + 2 = ((n + 2 : Nat) : Int) := by omega
theorem cast_add (a b : Nat) : (a : Int) + (b : Int) = ((a + b : Nat) : Int) := by omega
theorem all_u8 (P : UInt8 → Bool) (h : (List.range 256).all (fun n => P (UInt8.ofNat n)) = true) (c : UInt8) : P c = true := by
  rw [List.all_eq_true] at h
  have := h c.toNat (List.mem_range.2 c.toNat_lt)
  simpa using this
theorem wqxl (l : List UInt8) (c : UInt8) : toBytes l ++ [(c.toNat : Int)] = toBytes (l ++ [c]) := by simp [toBytes]
theorem wqah (l : List UInt8) : ofBytes (toBytes l) = l := by
  unfold ofBytes toBytes
  rw [List.map_map]
  conv => rhs; rw [← List.map_id l]
  congr 1
  funext c
  simp
theorem wqrk : ∀ l : List UInt8, allB (toBytes l) = true
  | [] => rfl
  | c :: r => by
    have h1 := c.toNat_lt
    have := wqrk r
    rw [toBytes] at this ⊢
    rw [List.map_cons, allB, this]
    simp
    omega
theorem wqbs (l : List UInt8) : (toBytes l).length = l.length := by simp [toBytes]
theorem wqfr (k : Nat) {R : Type} (l : List UInt8) (c : UInt8) (x : Int) (K : List Int → Option R) (hx : x = (c.toNat : Int)) (hl : l.length ≤ 10000000) : wq1l k (toBytes l) x K = K (toBytes (l ++ [c])) := by
  subst hx
  unfold wq1l wq4z wq4y
  dsimp only
  rw [fits_t (by rw [wqbs]; simp; omega) (by rw [wqbs]; simp; omega), cond_true, wqxl]
theorem wqus (k : Nat) {R : Type} (l : List UInt8) (K : List Int → List UInt8 → Option R) : wq2o k (toBytes l) K = K (toBytes l) l := by
  unfold wq2o
  rw [wqrk, cond_true, wqah]
def hexv (c : UInt8) : Option Nat := bif decide (48 ≤ c.toNat) && decide (c.toNat ≤ 57) then some (c.toNat - 48) else bif decide (97 ≤ c.toNat) && decide (c.toNat ≤ 102) then some (c.toNat - 87) else none
def hexI (c : UInt8) : Int := match hexv c with | some x => (x : Int) | none => -1
def hexL : List UInt8 := [48, 49, 50, 51, 52, 53, 54, 55, 56, 57, 97, 98, 99, 100, 101, 102]
theorem idx_hex (c : UInt8) : idxByte hexL (c.toNat : Int) = hexI c := by
  have := all_u8 (fun c => (if upto c hexL < hexL.length then (upto c hexL : Int) else -1) == hexI c) (by kernel_rfl) c
  rw [idx_eq]
  exact beq_iff_eq.1 this
theorem hexv_lt {c : UInt8} {x : Nat} (h : hexv c = some x) : x < 16 := by
  have h1 := c.toNat_lt
  unfold hexv at h
  cases h2 : (decide (48 ≤ c.toNat) && decide (c.toNat ≤ 57)) with
  | true =>
    rw [h2] at h
    simp at h h2
    omega
  | false =>
    rw [h2, cond_false] at h
    cases h3 : (decide (97 ≤ c.toNat) && decide (c.toNat ≤ 102)) with
    | true =>
      rw [h3] at h
      simp at h h3
      omega
    | false => rw [h3] at h; cases h
def tak : List UInt8 → Option (UInt8 × Nat)
  | [] => none
  | c :: r => bif c == 92 then some (c, 1) else bif c == 34 then some (c, 1) else bif c == 110 then some (10, 1) else bif c == 116 then some (9, 1) else bif c == 120 then
      (match r with
      | a :: b :: _ => match hexv a, hexv b with
        | some x, some y => some (UInt8.ofNat (16 * x + y), 3)
        | _, _ => none
      | _ => none)
    else none
theorem tak_le {s : List UInt8} {c : UInt8} {m : Nat} (h : tak s = some (c, m)) : 1 ≤ m ∧ m ≤ s.length := by
  unfold tak at h
  split at h
  · cases h
  · next a r =>
    cases h1 : a == 92 <;> rw [h1] at h <;> simp only [cond_true, cond_false] at h
    · cases h2 : a == 34 <;> rw [h2] at h <;> simp only [cond_true, cond_false] at h
      · cases h3 : a == 110 <;> rw [h3] at h <;> simp only [cond_true, cond_false] at h
        · cases h4 : a == 116 <;> rw [h4] at h <;> simp only [cond_true, cond_false] at h
          · cases h5 : a == 120 <;> rw [h5] at h <;> simp only [cond_true, cond_false] at h
            · cases h
            · split at h
              · split at h
                · cases h; simp
                · cases h
              · cases h
          · cases h; simp
        · cases h; simp
      · cases h; simp
    · cases h; simp
abbrev Pc := Int × (Int × (Int × (List UInt8 × Bool)))
theorem gives_eq (k : Nat) {R : Type} (x0 x1 : Int) (x2 : List UInt8) (x3 : Int) (x4 : List Pc) (kd : Int) (K : Int → Int → List UInt8 → Int → List Pc → Option R) (E : Int → Int → List UInt8 → Int → List Pc → Int → Int → Option R) :
    wq7 k x0 x1 x2 x3 x4 kd K E = E x0 x1 x2 x3 x4 kd x0 := rfl
theorem wqrl (k : Nat) {R : Type} (s : List UInt8) (c : Int) (K : Int → Option R) : wq1q k s c K = K (idxByte s c) := rfl
theorem hexI_neg {c : UInt8} (h : hexv c = none) : hexI c = -1 := by unfold hexI; rw [h]
theorem wqut {c : UInt8} {x : Nat} (h : hexv c = some x) : hexI c = (x : Int) := by unfold hexI; rw [h]
theorem byte_of (x y : Nat) (hx : x < 16) (hy : y < 16) : IntKind.u8.wrap (IntKind.i64.wrap (IntKind.i64.wrap (16 * (x : Int)) + (y : Int))) = ((UInt8.ofNat (16 * x + y)).toNat : Int) := by
  simp (disch := omega) only [wrap_id, wrap8_id]
  rw [UInt8.toNat_ofNat']
  omega
theorem wqxm (k : Nat) {R : Type} (x0 x1 : Int) (x2 : List UInt8) (x3 : Int) (x4 : List Pc) (s : List UInt8) (hs : s.length ≤ 10000000) (K : Int → Int → List UInt8 → Int → List Pc → Int → Int → Option R) (E : Int → Int → List UInt8 → Int → List Pc → Int → Int → Option R) :
    wq5z k x0 x1 x2 x3 x4 s K E = match tak s with
      | some (c, m) => K x0 x1 x2 x3 x4 (c.toNat : Int) (m : Int)
      | none => E x0 x1 x2 x3 x4 3 x0 := by
  unfold wq5z wqb4
  simp only [gives_eq]
  cases s with
  | nil => rfl
  | cons c r =>
    have h0 : ((c :: r) == ([] : List UInt8)) = false := rfl
    have hi : inb 0 ((c :: r).length : Int) = true := inb_t (by omega) (by rw [List.length_cons]; omega)
    have hg : (c :: r).getD (Int.toNat 0) 0 = c := rfl
    have e1 : ((c.toNat : Int) == 92) = (c == 92) := u8_beq c 92 (by omega)
    have e2 : ((c.toNat : Int) == 34) = (c == 34) := u8_beq c 34 (by omega)
    have e3 : ((c.toNat : Int) == 110) = (c == 110) := u8_beq c 110 (by omega)
    have e4 : ((c.toNat : Int) == 116) = (c == 116) := u8_beq c 116 (by omega)
    have e5 : ((c.toNat : Int) == 120) = (c == 120) := u8_beq c 120 (by omega)
    simp only [h0, hi, hg, e1, e2, e3, e4, e5, cond_true, cond_false, tak, wqrl]
    cases h1 : c == 92
    case true => rfl
    simp only [cond_false]
    cases h2 : c == 34
    case true => rfl
    simp only [cond_false]
    cases h3 : c == 110
    case true => rfl
    simp only [cond_false]
    cases h4 : c == 116
    case true => rfl
    simp only [cond_false]
    cases h5 : c == 120
    case false => rfl
    simp only [cond_true]
    match r with
    | [] => rfl
    | [a] => rfl
    | a :: b :: t =>
      have g1 : decide (((c :: a :: b :: t).length : Int) < 3) = false := dec_f (by simp; omega)
      have i1 : inb 1 ((c :: a :: b :: t).length : Int) = true := inb_t (by omega) (by simp; omega)
      have i2 : inb 2 ((c :: a :: b :: t).length : Int) = true := inb_t (by omega) (by simp; omega)
      have j1 : (c :: a :: b :: t).getD (Int.toNat 1) 0 = a := rfl
      have j2 : (c :: a :: b :: t).getD (Int.toNat 2) 0 = b := rfl
      have k1 := idx_hex a
      have k2 := idx_hex b
      unfold hexL at k1 k2
      simp only [g1, i1, i2, j1, j2, cond_true, cond_false, k1, k2]
      cases ha : hexv a with
      | none => rw [hexI_neg ha]; rfl
      | some x =>
        cases hb : hexv b with
        | none =>
          rw [wqut ha, hexI_neg hb]
          have := hexv_lt ha
          simp (disch := omega) only [dec_t, dec_f, ieq_t, ieq_f, ine_t, ine_f, inb_t, bnd_t, wrap_id, wrap8_id, cond_true, cond_false, Bool.not_true, Bool.not_false, Bool.true_or, Bool.or_true, Bool.false_or, Bool.or_false, Bool.true_and, Bool.and_true, Bool.false_and, Bool.and_false, wqf, wq8, wq9]
        | some y =>
          have h1 := hexv_lt ha
          have h2 := hexv_lt hb
          rw [wqut ha, wqut hb]
          simp (disch := omega) only [dec_f, cond_false, byte_of]
          rfl
def sgl : List UInt8 → List UInt8 → Option (List UInt8 × List UInt8)
  | _, [] => none
  | acc, [c] => bif c == 39 then some (acc, []) else none
  | acc, c :: d :: r => bif c == 39 then (bif d == 39 then sgl (acc ++ [39]) r else some (acc, d :: r)) else sgl (acc ++ [c]) (d :: r)
theorem wq10x (acc : List UInt8) (c : UInt8) (r : List UInt8) (h : (c == 39) = false) : sgl acc (c :: r) = sgl (acc ++ [c]) r := by
  cases r with
  | nil => simp [sgl, h]
  | cons d r => rw [sgl, h, cond_false]
theorem sgl_le : ∀ {acc t a r}, sgl acc t = some (a, r) → r.length < t.length
  | _, [], _, _, h => by simp [sgl] at h
  | acc, [c], a, r, h => by
    rw [sgl] at h
    cases hc : c == 39 with
    | true => rw [hc] at h; cases h; simp
    | false => rw [hc] at h; cases h
  | acc, c :: d :: t, a, r, h => by
    rw [sgl] at h
    cases hc : c == 39 with
    | true =>
      rw [hc, cond_true] at h
      cases hd : d == 39 with
      | true => rw [hd, cond_true] at h; have := sgl_le h; simp; omega
      | false => rw [hd] at h; cases h; simp
    | false => rw [hc, cond_false] at h; have := sgl_le h; simp at this ⊢; omega
theorem wqe0 (k : Nat) {R : Type} (x0 x1 : Int) (x2 : List UInt8) (x3 : Int) (x4 : List Pc) (s : List UInt8) (hs : s.length ≤ 1000000) (K : Int → Int → List UInt8 → Int → List Pc → List UInt8 → Int → Option R) (E : Int → Int → List UInt8 → Int → List Pc → Int → Int → Option R) :
    ∀ (m : Nat) (t : List UInt8) (n : Nat) (acc : List UInt8), s.drop n = t → t.length < m → n ≤ s.length → acc.length ≤ n → wq1s k m x0 x1 x2 x3 x4 s (toBytes acc) (n : Int) K E = match sgl acc t with
      | some (a, r) => K x0 x1 x2 x3 x4 a ((s.length - r.length : Nat) : Int)
      | none => E x0 x1 x2 x3 x4 3 x0
  | 0, t, n, acc, _, hm, _, _ => by omega
  | m + 1, [], n, acc, hd, hm, hn, ha => by
    have := drop_nil hd
    rw [wq1s, wq3s]
    simp (disch := omega) only [dec_t, dec_f, ieq_t, ieq_f, ine_t, ine_f, inb_t, bnd_t, wrap_id, wrap8_id, cond_true, cond_false, Bool.not_true, Bool.not_false, Bool.true_or, Bool.or_true, Bool.false_or, Bool.or_false, Bool.true_and, Bool.and_true, Bool.false_and, Bool.and_false, wqf, wq8, wq9, gives_eq]
    rfl
  | m + 1, c :: t, n, acc, hd, hm, hn, ha => by
    obtain ⟨hlt, hc, hr⟩ := wq39 hd
    have e39 : ((c.toNat : Int) != 39) = !(c == 39) := u8_bne c 39 (by omega)
    simp only [List.length_cons] at hm
    rw [wq1s, wq3s]
    simp (disch := omega) only [dec_t, dec_f, ieq_t, ieq_f, ine_t, ine_f, inb_t, bnd_t, wrap_id, wrap8_id, cond_true, cond_false, Bool.not_true, Bool.not_false, Bool.true_or, Bool.or_true, Bool.false_or, Bool.or_false, Bool.true_and, Bool.and_true, Bool.false_and, Bool.and_false, wqf, wq8, wq9, hc, e39, wq70]
    cases hb : c == 39 with
    | false =>
      simp only [Bool.not_false, cond_true]
      rw [wqfr k acc c _ _ rfl (by omega), wq10x acc c t hb]
      exact wqe0 k x0 x1 x2 x3 x4 s hs K E m t (n + 1) (acc ++ [c]) hr (by omega) (by omega) (by simp; omega)
    | true =>
      have := beq_iff_eq.1 hb
      subst this
      simp only [Bool.not_true, cond_false]
      cases t with
      | nil =>
        have h1 := drop_nil hr
        simp (disch := omega) only [dec_t, dec_f, ieq_t, ieq_f, ine_t, ine_f, inb_t, bnd_t, wrap_id, wrap8_id, cond_true, cond_false, Bool.not_true, Bool.not_false, Bool.true_or, Bool.or_true, Bool.false_or, Bool.or_false, Bool.true_and, Bool.and_true, Bool.false_and, Bool.and_false, wqf, wq8, wq9, wqus, sgl]
        have : s.length = n + 1 := by omega
        simp [this]
      | cons d r =>
        obtain ⟨hlt2, hd2, hr2⟩ := wq39 hr
        have e39' : ((d.toNat : Int) != 39) = !(d == 39) := u8_bne d 39 (by omega)
        simp (disch := omega) only [dec_t, dec_f, ieq_t, ieq_f, ine_t, ine_f, inb_t, bnd_t, wrap_id, wrap8_id, cond_true, cond_false, Bool.not_true, Bool.not_false, Bool.true_or, Bool.or_true, Bool.false_or, Bool.or_false, Bool.true_and, Bool.and_true, Bool.false_and, Bool.and_false, wqf, wq8, wq9, hd2, e39', sgl, hb]
        cases hdb : d == 39 with
        | true =>
          simp only [Bool.not_true, cond_false, cond_true]
          rw [wqfr k acc 39 39 _ rfl (by omega)]
          simp only [List.length_cons] at hm
          exact wqe0 k x0 x1 x2 x3 x4 s hs K E m r (n + 1 + 1) (acc ++ [39]) hr2 (by omega) (by omega) (by simp; omega)
        | false =>
          simp only [Bool.not_false, cond_true, cond_false, wqus]
          have : s.length - (d :: r).length = n + 1 := by
            have := congrArg List.length hr
            rw [List.length_drop] at this
            omega
          rw [this]
theorem wqwl (k : Nat) {R : Type} (x0 x1 : Int) (x2 : List UInt8) (x3 : Int) (x4 : List Pc) (c : UInt8) (t : List UInt8) (hs : (c :: t).length ≤ 1000000) (hk : (c :: t).length < k) (K : Int → Int → List UInt8 → Int → List Pc → List UInt8 → Int → Option R) (E : Int → Int → List UInt8 → Int → List Pc → Int → Int → Option R) :
    wq5i k x0 x1 x2 x3 x4 (c :: t) K E = match sgl [] t with
      | some (a, r) => K x0 x1 x2 x3 x4 a (((c :: t).length - r.length : Nat) : Int)
      | none => E x0 x1 x2 x3 x4 3 x0 := by
  unfold wq5i wq6x
  exact wqe0 k x0 x1 x2 x3 x4 (c :: t) hs K E k t 1 [] rfl (by simp at hk; omega) (by simp) (by simp)
def dbl : Nat → List UInt8 → List UInt8 → Option (List UInt8 × List UInt8)
  | 0, _, _ => none
  | _ + 1, _, [] => none
  | n + 1, acc, c :: r => bif c == 34 then some (acc, r) else bif c == 92 then (match tak r with
      | some (d, m) => dbl n (acc ++ [d]) (r.drop m)
      | none => none) else dbl n (acc ++ [c]) r
theorem dbl_le : ∀ {n acc t a r}, dbl n acc t = some (a, r) → r.length < t.length
  | 0, _, _, _, _, h => by simp [dbl] at h
  | n + 1, _, [], _, _, h => by simp [dbl] at h
  | n + 1, acc, c :: t, a, r, h => by
    rw [dbl] at h
    cases hc : c == 34 with
    | true => rw [hc] at h; cases h; simp
    | false =>
      rw [hc, cond_false] at h
      cases hd : c == 92 with
      | true =>
        rw [hd, cond_true] at h
        split at h
        · next d m _ => have := dbl_le h; simp at this ⊢; omega
        · cases h
      | false => rw [hd, cond_false] at h; have := dbl_le h; simp; omega
theorem wqe1 (k : Nat) {R : Type} (x0 x1 : Int) (x2 : List UInt8) (x3 : Int) (x4 : List Pc) (s : List UInt8) (hs : s.length ≤ 1000000) (K : Int → Int → List UInt8 → Int → List Pc → List UInt8 → Int → Option R) (E : Int → Int → List UInt8 → Int → List Pc → Int → Int → Option R) :
    ∀ (m : Nat) (t : List UInt8) (n f : Nat) (acc : List UInt8), s.drop n = t → t.length < m → n ≤ s.length → acc.length ≤ n → t.length < f → wq1r k m x0 x1 x2 x3 x4 s (toBytes acc) (n : Int) K E = match dbl f acc t with
      | some (a, r) => K x0 x1 x2 x3 x4 a ((s.length - r.length : Nat) : Int)
      | none => E x0 x1 x2 x3 x4 3 x0
  | 0, t, n, f, acc, _, hm, _, _, _ => by omega
  | m + 1, t, n, 0, acc, _, _, _, _, hf => by omega
  | m + 1, [], n, f + 1, acc, hd, hm, hn, ha, hf => by
    have := drop_nil hd
    rw [wq1r, wq3r]
    simp (disch := omega) only [dec_t, dec_f, ieq_t, ieq_f, ine_t, ine_f, inb_t, bnd_t, wrap_id, wrap8_id, cond_true, cond_false, Bool.not_true, Bool.not_false, Bool.true_or, Bool.or_true, Bool.false_or, Bool.or_false, Bool.true_and, Bool.and_true, Bool.false_and, Bool.and_false, wqf, wq8, wq9, gives_eq]
    rfl
  | m + 1, c :: t, n, f + 1, acc, hd, hm, hn, ha, hf => by
    obtain ⟨hlt, hc, hr⟩ := wq39 hd
    have e34 : ((c.toNat : Int) == 34) = (c == 34) := u8_beq c 34 (by omega)
    have e92 : ((c.toNat : Int) == 92) = (c == 92) := u8_beq c 92 (by omega)
    simp only [List.length_cons] at hm hf
    have hlen := congrArg List.length hr
    rw [List.length_drop] at hlen
    rw [wq1r, wq3r, dbl]
    simp (disch := omega) only [dec_t, dec_f, ieq_t, ieq_f, ine_t, ine_f, inb_t, bnd_t, wrap_id, wrap8_id, cond_true, cond_false, Bool.not_true, Bool.not_false, Bool.true_or, Bool.or_true, Bool.false_or, Bool.or_false, Bool.true_and, Bool.and_true, Bool.false_and, Bool.and_false, wqf, wq8, wq9, hc, e34, e92, wq70, wqus, cut_end, hr]
    cases hb : c == 34 with
    | true =>
      simp only [cond_true]
      have : s.length - t.length = n + 1 := by omega
      rw [this]
    | false =>
      simp only [cond_false]
      cases hb2 : c == 92 with
      | true =>
        simp only [cond_true]
        rw [wqxm k x0 x1 x2 x3 x4 t (by omega)]
        cases ht : tak t with
        | none => rfl
        | some p =>
          obtain ⟨d, q⟩ := p
          obtain ⟨h1, h2⟩ := tak_le ht
          simp only []
          rw [wqfr k acc d _ _ rfl (by omega)]
          simp (disch := omega) only [cast_add, wq70, wrap_id]
          exact wqe1 k x0 x1 x2 x3 x4 s hs K E m (t.drop q) (n + q + 1) f (acc ++ [d]) (by rw [← hr, List.drop_drop]; congr 1; omega) (by simp; omega) (by omega) (by simp; omega) (by simp; omega)
      | false =>
        simp only [cond_false]
        rw [wqfr k acc c _ _ rfl (by omega)]
        exact wqe1 k x0 x1 x2 x3 x4 s hs K E m t (n + 1) f (acc ++ [c]) hr (by omega) (by omega) (by simp; omega) (by omega)
theorem wqwm (k : Nat) {R : Type} (x0 x1 : Int) (x2 : List UInt8) (x3 : Int) (x4 : List Pc) (c : UInt8) (t : List UInt8) (hs : (c :: t).length ≤ 1000000) (hk : (c :: t).length < k) (K : Int → Int → List UInt8 → Int → List Pc → List UInt8 → Int → Option R) (E : Int → Int → List UInt8 → Int → List Pc → Int → Int → Option R) :
    wq5h k x0 x1 x2 x3 x4 (c :: t) K E = match dbl (t.length + 1) [] t with
      | some (a, r) => K x0 x1 x2 x3 x4 a (((c :: t).length - r.length : Nat) : Int)
      | none => E x0 x1 x2 x3 x4 3 x0 := by
  unfold wq5h wq6w
  exact wqe1 k x0 x1 x2 x3 x4 (c :: t) hs K E k t 1 (t.length + 1) [] rfl (by simp at hk; omega) (by simp) (by simp) (by omega)
end Go.Proofs.YtpfbdepoammjmaaDoor.Pvm

namespace Go.Proofs.YtpfbdepoammjmaaDoor.Pvm
open Go
def sgL : List UInt8 := [91, 93, 123, 125, 38, 42, 33, 124, 62, 37, 64, 44, 63, 96]
def oddB (c : UInt8) : Bool := sgL.any (· == c)
theorem idx_sg (c : UInt8) : decide (idxByte sgL (c.toNat : Int) ≥ 0) = oddB c := by
  have := all_u8 (fun c => decide ((if upto c sgL < sgL.length then (upto c sgL : Int) else -1) ≥ 0) == oddB c) (by kernel_rfl) c
  rw [idx_eq]
  exact beq_iff_eq.1 this
end Go.Proofs.YtpfbdepoammjmaaDoor.Pvm

namespace Go.Proofs.YtpfbdepoammjmaaDoor.Pvm
open Go
abbrev Res := List Pc × (Int × Int)
def finQ (no col : Int) (out : List Pc) : Option (List UInt8 × List UInt8) → Res
  | none => ([], 3, no)
  | some (a, r) => bif !(r == []) then ([], 3, no) else bif decide (200 < a.length) then ([], 4, no) else (out ++ [(3, no, col, a, true)], 0, 0)
def txtS (no ind : Int) (at_ : Nat) (s : List UInt8) (out : List Pc) : Res :=
  match s with
  | [] => (out, 0, 0)
  | c :: t => bif c == 39 then finQ no (ind + at_) out (sgl [] t) else bif c == 34 then finQ no (ind + at_) out (dbl (t.length + 1) [] t)
      else bif oddB c || (dsh (c :: t) || decide (0 < kS (c :: t))) then ([], 4, no) else bif decide (200 < (c :: t).length) then ([], 4, no) else (out ++ [(3, no, ind + at_, c :: t, false)], 0, 0)
def endS (no ind : Int) (at_ : Nat) (s : List UInt8) (out : List Pc) : Res :=
  bif decide (0 < kS s) then bif decide (64 < kS s) then ([], 5, no)
    else txtS no ind (at_ + (kS s + 1) + nb (s.drop (kS s + 1))) ((s.drop (kS s + 1)).drop (nb (s.drop (kS s + 1)))) (out ++ [(2, no, ind + at_, s.take (kS s), false)])
  else txtS no ind at_ s out
def rowS (no ind : Int) : Nat → Nat → List UInt8 → List Pc → Res
  | 0, _, _, out => (out, 0, 0)
  | f + 1, at_, s, out => bif dsh s then rowS no ind f (at_ + 1 + nb (s.drop 1)) ((s.drop 1).drop (nb (s.drop 1))) (out ++ [(1, no, ind + at_, [], false)]) else endS no ind at_ s out
def rowR (no ind : Int) (s : List UInt8) : Res :=
  bif decide (ind < 0) || decide (16384 < ind) then ([], 6, no) else rowS no ind (s.length + 1) (nb s) (s.drop (nb s)) []
def outL {R : Type} (K1 : List Pc → Option R) (E1 : Int → Int → Option R) (r : Res) : Option R := bif r.2.1 == 0 then K1 r.1 else E1 r.2.1 r.2.2
theorem piece_eq (k : Nat) {R : Type} (x0 x1 : Int) (x2 : List UInt8) (n : Nat) (x4 : List Pc) (kd : Int) (t : List UInt8) (q : Bool) (b : Nat) (K : Int → Int → List UInt8 → Int → List Pc → Option R)
    (h0 : 0 ≤ x1) (h1 : x1 ≤ 16384) (hn : n ≤ 1000000) (hb : b ≤ 1000000) (hx : x4.length ≤ 1000000) :
    wqe k x0 x1 x2 (n : Int) x4 kd t q (b : Int) K = K x0 x1 x2 ((n + b : Nat) : Int) (x4 ++ [(kd, x0, x1 + (n : Int), t, q)]) := by
  unfold wqe wqb3
  rw [fits_t (by simp; omega) (by simp; omega)]
  simp (disch := omega) only [dec_t, dec_f, ieq_t, ieq_f, ine_t, ine_f, inb_t, bnd_t, wrap_id, wrap8_id, cond_true, cond_false, Bool.not_true, Bool.not_false, Bool.true_or, Bool.or_true, Bool.false_or, Bool.or_false, Bool.true_and, Bool.and_true, Bool.false_and, Bool.and_false, wqf, wq8, wq9, cast_add]
theorem wqza (k : Nat) {R : Type} (no ind : Int) (text : List UInt8) (n : Nat) (out : List Pc) (c : UInt8) (t : List UInt8) (K1 : List Pc → Option R) (E1 : Int → Int → Option R)
    (h0 : 0 ≤ ind) (h1 : ind ≤ 16384) (hn : n ≤ 1000000) (ho : out.length ≤ 1000000) (hs : (c :: t).length ≤ 1000000) (hk : (c :: t).length < k) :
    wq40 k no ind text (n : Int) out (c :: t) (fun _ _ _ _ o => K1 o) (fun _ _ _ _ _ a b => E1 a b) = outL K1 E1 (txtS no ind n (c :: t) out) := by
  have hi : inb 0 ((c :: t).length : Int) = true := inb_t (by omega) (by rw [List.length_cons]; omega)
  have hg : (c :: t).getD (Int.toNat 0) 0 = c := rfl
  have e39 : ((c.toNat : Int) == 39) = (c == 39) := u8_beq c 39 (by omega)
  have e34 : ((c.toNat : Int) == 34) = (c == 34) := u8_beq c 34 (by omega)
  have hq := idx_sg c
  unfold sgL at hq
  have quoted : ∀ (x : Option (List UInt8 × List UInt8)), (∀ a r, x = some (a, r) → r.length < t.length + 1) → (match x with
      | some (a, r) => (fun (y10 y11 : Int) (y12 : List UInt8) (y13 : Int) (y14 : List Pc) (y15 : List UInt8) (y16 : Int) =>
          bif y16 != ((c :: t).length : Int) then E1 3 y10
          else bif decide ((y15.length : Int) > 200) then E1 4 y10
            else wqe k y10 y11 y12 y13 y14 3 y15 true y16 fun y17 y18 y19 y20 y21 => K1 y21) no ind text (n : Int) out a (((c :: t).length - r.length : Nat) : Int)
      | none => E1 3 no) = outL K1 E1 (finQ no (ind + n) out x) := by
    intro x hx
    cases x with
    | none => rfl
    | some p =>
      obtain ⟨a, r⟩ := p
      have hr := hx a r rfl
      simp only [finQ]
      simp only [List.length_cons] at hs hk ⊢
      cases hre : r == [] with
      | true =>
        have : r = [] := beq_iff_eq.1 hre
        subst this
        simp only [List.length_nil, Nat.sub_zero]
        simp (disch := omega) only [dec_t, dec_f, ieq_t, ieq_f, ine_t, ine_f, inb_t, bnd_t, wrap_id, wrap8_id, cond_true, cond_false, Bool.not_true, Bool.not_false, Bool.true_or, Bool.or_true, Bool.false_or, Bool.or_false, Bool.true_and, Bool.and_true, Bool.false_and, Bool.and_false, wqf, wq8, wq9]
        by_cases ha : 200 < a.length
        · simp (disch := omega) only [dec_t, dec_f, ieq_t, ieq_f, ine_t, ine_f, inb_t, bnd_t, wrap_id, wrap8_id, cond_true, cond_false, Bool.not_true, Bool.not_false, Bool.true_or, Bool.or_true, Bool.false_or, Bool.or_false, Bool.true_and, Bool.and_true, Bool.false_and, Bool.and_false, wqf, wq8, wq9]; rfl
        · simp (disch := omega) only [dec_t, dec_f, ieq_t, ieq_f, ine_t, ine_f, inb_t, bnd_t, wrap_id, wrap8_id, cond_true, cond_false, Bool.not_true, Bool.not_false, Bool.true_or, Bool.or_true, Bool.false_or, Bool.or_false, Bool.true_and, Bool.and_true, Bool.false_and, Bool.and_false, wqf, wq8, wq9]
          rw [piece_eq k no ind text n out 3 a true (t.length + 1) _ h0 h1 hn (by omega) ho]
          rfl
      | false =>
        have hr0 : r.length ≠ 0 := fun e => by rw [List.eq_nil_of_length_eq_zero e] at hre; cases hre
        simp (disch := omega) only [dec_t, dec_f, ieq_t, ieq_f, ine_t, ine_f, inb_t, bnd_t, wrap_id, wrap8_id, cond_true, cond_false, Bool.not_true, Bool.not_false, Bool.true_or, Bool.or_true, Bool.false_or, Bool.or_false, Bool.true_and, Bool.and_true, Bool.false_and, Bool.and_false, wqf, wq8, wq9]
        rfl
  unfold wq40 wqc6
  simp only [hi, hg, e39, e34, gives_eq, cond_true, wqrl, hq, txtS]
  cases h39 : c == 39 with
  | true =>
    simp only [cond_true]
    rw [wqwl k no ind text n out c t hs hk]
    exact quoted (sgl [] t) fun a r h => by have := sgl_le h; omega
  | false =>
    simp only [cond_false]
    cases h34 : c == 34 with
    | true =>
      simp only [cond_true]
      rw [wqwm k no ind text n out c t hs hk]
      exact quoted (dbl (t.length + 1) [] t) fun a r h => by have := dbl_le h; omega
    | false =>
      simp only [cond_false, wqtj]
      have hky : ∀ K : List UInt8 → Option R, wqf5 k (c :: t) K = K ((c :: t).take (kS (c :: t))) := fun K => wqwk k (c :: t) K hk (by omega)
      simp only [hky]
      have hkl := kS_lt (c :: t)
      have hne : (((c :: t).take (kS (c :: t))) == []) = decide (kS (c :: t) = 0) := by
        rw [Bool.eq_iff_iff]
        simp only [beq_iff_eq, decide_eq_true_eq]
        constructor
        · intro h
          have := congrArg List.length h
          rw [List.length_take, List.length_nil] at this
          simp only [List.length_cons] at this hkl
          omega
        · intro h; rw [h, List.take_zero]
      rw [hne]
      cases h1' : oddB c with
      | true => rfl
      | false =>
        simp only [dec_t, dec_f, ieq_t, ieq_f, ine_t, ine_f, inb_t, bnd_t, wrap_id, wrap8_id, cond_true, cond_false, Bool.not_true, Bool.not_false, Bool.true_or, Bool.or_true, Bool.false_or, Bool.or_false, Bool.true_and, Bool.and_true, Bool.false_and, Bool.and_false, wqf, wq8, wq9]
        cases h2' : dsh (c :: t) with
        | true => rfl
        | false =>
          simp only [dec_t, dec_f, ieq_t, ieq_f, ine_t, ine_f, inb_t, bnd_t, wrap_id, wrap8_id, cond_true, cond_false, Bool.not_true, Bool.not_false, Bool.true_or, Bool.or_true, Bool.false_or, Bool.or_false, Bool.true_and, Bool.and_true, Bool.false_and, Bool.and_false, wqf, wq8, wq9]
          by_cases h3 : kS (c :: t) = 0
          · simp (disch := omega) only [dec_t, dec_f, ieq_t, ieq_f, ine_t, ine_f, inb_t, bnd_t, wrap_id, wrap8_id, cond_true, cond_false, Bool.not_true, Bool.not_false, Bool.true_or, Bool.or_true, Bool.false_or, Bool.or_false, Bool.true_and, Bool.and_true, Bool.false_and, Bool.and_false, wqf, wq8, wq9]
            by_cases h4 : 200 < (c :: t).length
            · simp (disch := omega) only [dec_t, dec_f, ieq_t, ieq_f, ine_t, ine_f, inb_t, bnd_t, wrap_id, wrap8_id, cond_true, cond_false, Bool.not_true, Bool.not_false, Bool.true_or, Bool.or_true, Bool.false_or, Bool.or_false, Bool.true_and, Bool.and_true, Bool.false_and, Bool.and_false, wqf, wq8, wq9]; rfl
            · simp (disch := omega) only [dec_t, dec_f, ieq_t, ieq_f, ine_t, ine_f, inb_t, bnd_t, wrap_id, wrap8_id, cond_true, cond_false, Bool.not_true, Bool.not_false, Bool.true_or, Bool.or_true, Bool.false_or, Bool.or_false, Bool.true_and, Bool.and_true, Bool.false_and, Bool.and_false, wqf, wq8, wq9]
              rw [piece_eq k no ind text n out 3 (c :: t) false (c :: t).length _ h0 h1 hn hs ho]
              rfl
          · simp (disch := omega) only [dec_t, dec_f, ieq_t, ieq_f, ine_t, ine_f, inb_t, bnd_t, wrap_id, wrap8_id, cond_true, cond_false, Bool.not_true, Bool.not_false, Bool.true_or, Bool.or_true, Bool.false_or, Bool.or_false, Bool.true_and, Bool.and_true, Bool.false_and, Bool.and_false, wqf, wq8, wq9]; rfl
end Go.Proofs.YtpfbdepoammjmaaDoor.Pvm

namespace Go.Proofs.YtpfbdepoammjmaaDoor.Pvm
open Go
theorem kS_room {s : List UInt8} (h : 0 < kS s) : kS s + 1 ≤ s.length := by
  have h1 := tw_len s
  cases hd : s.drop (s.takeWhile sgn).length with
  | nil => rw [kS_end hd] at h; omega
  | cons c r =>
    obtain ⟨hlt, _, _⟩ := wq39 hd
    rw [kS_at hd] at h ⊢
    cases hb : ((c == 58) && hd32 r) <;> rw [hb] at h <;> simp only [cond_true, cond_false] at h ⊢ <;> omega
theorem take_nil (s : List UInt8) : ((s.take (kS s)) == []) = decide (kS s = 0) := by
  have hkl := kS_lt s
  rw [Bool.eq_iff_iff]
  simp only [beq_iff_eq, decide_eq_true_eq]
  constructor
  · intro h
    have := congrArg List.length h
    rw [List.length_take, List.length_nil] at this
    omega
  · intro h; rw [h, List.take_zero]
theorem wqwn (k : Nat) {R : Type} (no ind : Int) (text : List UInt8) (n : Nat) (s : List UInt8) (out : List Pc) (K1 : List Pc → Option R) (E1 : Int → Int → Option R)
    (h0 : 0 ≤ ind) (h1 : ind ≤ 16384) (ht : text.length ≤ 1000000) (hk : text.length + 20 < k) (hs : text.drop n = s) (hn : n ≤ text.length) (ho : out.length ≤ n) :
    (bif !(s == []) then wq40 k no ind text (n : Int) out s (fun _ _ _ _ o => K1 o) (fun _ _ _ _ _ a b => E1 a b) else K1 out) = outL K1 E1 (txtS no ind n s out) := by
  have hl := congrArg List.length hs
  rw [List.length_drop] at hl
  cases s with
  | nil => rfl
  | cons c t =>
    have : ((c :: t) == ([] : List UInt8)) = false := rfl
    rw [this, Bool.not_false, cond_true]
    exact wqza k no ind text n out c t K1 E1 h0 h1 (by omega) (by omega) (by omega) (by omega)
theorem wqrm (k : Nat) {R : Type} (no ind : Int) (text : List UInt8) (K1 : List Pc → Option R) (E1 : Int → Int → Option R)
    (h0 : 0 ≤ ind) (h1 : ind ≤ 16384) (ht : text.length ≤ 1000000) (hk : text.length + 20 < k) :
    ∀ (m : Nat) (s : List UInt8) (n f : Nat) (out : List Pc), text.drop n = s → s.length < m → n ≤ text.length → out.length ≤ n → s.length < f →
      wq27 k m no ind text (n : Int) out s (fun _ _ _ _ o => K1 o) (fun _ _ _ _ _ a b => E1 a b) = outL K1 E1 (rowS no ind f n s out)
  | 0, s, n, f, out, _, hm, _, _, _ => by omega
  | m + 1, s, n, 0, out, _, _, _, _, hf => by omega
  | m + 1, s, n, f + 1, out, hs, hm, hn, ho, hf => by
    have hl := congrArg List.length hs
    rw [List.length_drop] at hl
    rw [wq27, wq5o, rowS, wqtj]
    cases hd : dsh s with
    | true =>
      simp only [cond_true]
      cases s with
      | nil => cases hd
      | cons c t =>
        simp only [List.length_cons] at hm hf hl
        obtain ⟨hlt, _, hr⟩ := wq39 hs
        refine Eq.trans (piece_eq k no ind text n out 1 [] false 1 _ h0 h1 (by omega) (by omega) (by omega)) ?_
        rw [wqnq k no ind text (n + 1) _ _ (by omega) (by omega) (by omega)]
        rw [hr]
        have := nb_le t
        exact wqrm k no ind text K1 E1 h0 h1 ht hk m (t.drop (nb t)) (n + 1 + nb t) f _ (by rw [← hr, List.drop_drop]) (by rw [List.length_drop]; omega) (by omega) (by simp; omega) (by rw [List.length_drop]; omega)
    | false =>
      simp only [cond_false]
      rw [wqwk k s _ (by omega) (by omega), take_nil, endS]
      simp only [gives_eq]
      have hkl := kS_lt s
      by_cases hz : kS s = 0
      · simp (disch := omega) only [dec_t, dec_f, ieq_t, ieq_f, ine_t, ine_f, inb_t, bnd_t, wrap_id, wrap8_id, cond_true, cond_false, Bool.not_true, Bool.not_false, Bool.true_or, Bool.or_true, Bool.false_or, Bool.or_false, Bool.true_and, Bool.and_true, Bool.false_and, Bool.and_false, wqf, wq8, wq9]
        exact wqwn k no ind text n s out K1 E1 h0 h1 ht hk hs hn ho
      · have hkr := kS_room (s := s) (by omega)
        have hlen : (s.take (kS s)).length = kS s := by rw [List.length_take]; omega
        simp (disch := omega) only [dec_t, dec_f, ieq_t, ieq_f, ine_t, ine_f, inb_t, bnd_t, wrap_id, wrap8_id, cond_true, cond_false, Bool.not_true, Bool.not_false, Bool.true_or, Bool.or_true, Bool.false_or, Bool.or_false, Bool.true_and, Bool.and_true, Bool.false_and, Bool.and_false, wqf, wq8, wq9, hlen]
        by_cases h64 : 64 < kS s
        · simp (disch := omega) only [dec_t, dec_f, ieq_t, ieq_f, ine_t, ine_f, inb_t, bnd_t, wrap_id, wrap8_id, cond_true, cond_false, Bool.not_true, Bool.not_false, Bool.true_or, Bool.or_true, Bool.false_or, Bool.or_false, Bool.true_and, Bool.and_true, Bool.false_and, Bool.and_false, wqf, wq8, wq9]; rfl
        · simp (disch := omega) only [dec_t, dec_f, ieq_t, ieq_f, ine_t, ine_f, inb_t, bnd_t, wrap_id, wrap8_id, cond_true, cond_false, Bool.not_true, Bool.not_false, Bool.true_or, Bool.or_true, Bool.false_or, Bool.or_false, Bool.true_and, Bool.and_true, Bool.false_and, Bool.and_false, wqf, wq8, wq9, wq70]
          rw [piece_eq k no ind text n out 2 _ false (kS s + 1) _ h0 h1 (by omega) (by omega) (by omega)]
          rw [wqnq k no ind text (n + (kS s + 1)) _ _ (by omega) (by omega) (by omega)]
          have hr : text.drop (n + (kS s + 1)) = s.drop (kS s + 1) := by rw [← hs, List.drop_drop]
          rw [hr]
          have := nb_le (s.drop (kS s + 1))
          rw [List.length_drop] at this
          exact wqwn k no ind text (n + (kS s + 1) + nb (s.drop (kS s + 1))) _ _ K1 E1 h0 h1 ht hk (by rw [← hr, List.drop_drop]) (by omega) (by simp; omega)
theorem wq100 (k : Nat) {R : Type} (no ind : Int) (s : List UInt8) (K : List Pc → Int → Int → Option R) (ht : s.length ≤ 1000000) (hk : s.length + 20 < k) :
    wqmc k no ind s K = K (rowR no ind s).1 (rowR no ind s).2.1 (rowR no ind s).2.2 := by
  unfold wqmc wquh wqai wqgw wqaj wqgx wqaf wqae
  simp only [gives_eq]
  have fin : ∀ r : Res, (r.2.1 = 0 → r.2.2 = 0) → (r.2.1 ≠ 0 → r.1 = []) → outL (fun o => K o 0 0) (fun a b => K [] a b) r = K r.1 r.2.1 r.2.2 := by
    intro r h1 h2
    unfold outL
    by_cases h : r.2.1 = 0
    · rw [h1 h, h]; rfl
    · rw [h2 h, ieq_f h]; rfl
  have okQ : ∀ (col : Int) (out : List Pc) x, ((finQ no col out x).2.1 = 0 → (finQ no col out x).2.2 = 0) ∧ ((finQ no col out x).2.1 ≠ 0 → (finQ no col out x).1 = []) := by
    intro col out x
    unfold finQ
    split
    · simp
    · next a r =>
      cases !(r == []) <;> simp only [cond_true, cond_false]
      · cases decide (200 < a.length) <;> simp
      · simp
  have okT : ∀ n s out, ((txtS no ind n s out).2.1 = 0 → (txtS no ind n s out).2.2 = 0) ∧ ((txtS no ind n s out).2.1 ≠ 0 → (txtS no ind n s out).1 = []) := by
    intro n s out
    unfold txtS
    split
    · simp
    · next c t =>
      cases c == 39 <;> simp only [cond_true, cond_false]
      · cases c == 34 <;> simp only [cond_true, cond_false]
        · cases (oddB c || (dsh (c :: t) || decide (0 < kS (c :: t)))) <;> simp only [cond_true, cond_false]
          · cases decide (200 < (c :: t).length) <;> simp
          · simp
        · exact okQ _ _ _
      · exact okQ _ _ _
  have okE : ∀ n s out, ((endS no ind n s out).2.1 = 0 → (endS no ind n s out).2.2 = 0) ∧ ((endS no ind n s out).2.1 ≠ 0 → (endS no ind n s out).1 = []) := by
    intro n s out
    unfold endS
    cases decide (0 < kS s) <;> simp only [cond_true, cond_false]
    · exact okT _ _ _
    · cases decide (64 < kS s) <;> simp only [cond_true, cond_false]
      · exact okT _ _ _
      · simp
  have okR : ∀ f n s out, ((rowS no ind f n s out).2.1 = 0 → (rowS no ind f n s out).2.2 = 0) ∧ ((rowS no ind f n s out).2.1 ≠ 0 → (rowS no ind f n s out).1 = []) := by
    intro f
    induction f with
    | zero => intro n s out; simp [rowS]
    | succ f ih =>
      intro n s out
      rw [rowS]
      cases dsh s <;> simp only [cond_true, cond_false]
      · exact okE _ _ _
      · exact ih _ _ _
  by_cases hi : ind < 0 ∨ 16384 < ind
  · have e1 : (bif decide (ind < 0) then true else decide (ind > 16384)) = true := by
      rw [Bool.cond_true_left]
      simp
      omega
    have e2 : (decide (ind < 0) || decide (16384 < ind)) = true := by simp; omega
    rw [e1, cond_true]
    unfold rowR
    rw [e2]
    rfl
  · have e1 : (bif decide (ind < 0) then true else decide (ind > 16384)) = false := by
      rw [Bool.cond_true_left]
      simp
      omega
    have e2 : (decide (ind < 0) || decide (16384 < ind)) = false := by simp; omega
    rw [e1, cond_false]
    unfold rowR
    rw [e2, cond_false]
    have := wqnq k no ind s 0 [] (fun y10 y11 y12 y13 y14 y15 => wq27 k k y10 y11 y12 y13 y14 y15 (fun _ _ _ _ o => K o 0 0) (fun _ _ _ _ _ a b => K [] a b)) (by omega) (by omega) (by omega)
    refine Eq.trans this ?_
    simp only [List.drop_zero, Nat.zero_add]
    have hnb := nb_le s
    rw [wqrm k no ind s (fun o => K o 0 0) (fun a b => K [] a b) (by omega) (by omega) ht hk k (s.drop (nb s)) (nb s) (s.length + 1) [] rfl (by rw [List.length_drop]; omega) hnb (by simp) (by rw [List.length_drop]; omega)]
    exact fin _ (okR _ _ _ _).1 (okR _ _ _ _).2
end Go.Proofs.YtpfbdepoammjmaaDoor.Pvm

namespace Go.Proofs.YtpfbdepoammjmaaDoor.Pvm
open Go
theorem cut_mid {α : Type} (s : List α) (n j : Nat) : cut s (n : Int) ((n + j : Nat) : Int) = (s.drop n).take j := by
  simp only [cut, wq9]
  rw [List.drop_take]
  congr 1
  omega
end Go.Proofs.YtpfbdepoammjmaaDoor.Pvm

namespace Go.Proofs.YtpfbdepoammjmaaDoor.Pvm
open Go
theorem finQ_len (no col : Int) (out : List Pc) (x : Option (List UInt8 × List UInt8)) : (finQ no col out x).1.length ≤ out.length + 1 := by
  unfold finQ
  split
  · simp
  · next a r =>
    cases !(r == []) <;> simp only [cond_true, cond_false]
    · cases decide (200 < a.length) <;> simp
    · simp
theorem txtS_len (no ind : Int) (n : Nat) (s : List UInt8) (out : List Pc) : (txtS no ind n s out).1.length ≤ out.length + s.length := by
  unfold txtS
  split
  · simp
  · next c t =>
    have h1 := finQ_len no (ind + n) out (sgl [] t)
    have h2 := finQ_len no (ind + n) out (dbl (t.length + 1) [] t)
    have h3 : (c :: t).length = t.length + 1 := rfl
    cases c == 39 <;> simp only [cond_true, cond_false]
    · cases c == 34 <;> simp only [cond_true, cond_false]
      · cases (oddB c || (dsh (c :: t) || decide (0 < kS (c :: t)))) <;> simp only [cond_true, cond_false]
        · cases decide (200 < (c :: t).length) <;> simp
        · simp
      · omega
    · omega
theorem endS_len (no ind : Int) (n : Nat) (s : List UInt8) (out : List Pc) : (endS no ind n s out).1.length ≤ out.length + s.length := by
  unfold endS
  by_cases h : 0 < kS s
  · rw [dec_t h, cond_true]
    have := kS_room h
    cases decide (64 < kS s) <;> simp only [cond_true, cond_false]
    · refine Nat.le_trans (txtS_len _ _ _ _ _) ?_
      simp
      omega
    · simp
  · rw [dec_f h, cond_false]; exact txtS_len _ _ _ _ _
theorem rowS_len (no ind : Int) : ∀ (f n : Nat) (s : List UInt8) (out : List Pc), (rowS no ind f n s out).1.length ≤ out.length + s.length
  | 0, n, s, out => by simp [rowS]
  | f + 1, n, s, out => by
    rw [rowS]
    cases h : dsh s with
    | false => exact endS_len _ _ _ _ _
    | true =>
      rw [cond_true]
      refine Nat.le_trans (rowS_len no ind f _ _ _) ?_
      cases s with
      | nil => cases h
      | cons c t => simp; omega
theorem rowR_len (no ind : Int) (s : List UInt8) : (rowR no ind s).1.length ≤ s.length := by
  unfold rowR
  cases (decide (ind < 0) || decide (16384 < ind)) with
  | true => simp
  | false =>
    rw [cond_false]
    refine Nat.le_trans (rowS_len _ _ _ _ _ _) ?_
    simp
abbrev Ln := Int × (Int × List UInt8)
def allS : List Ln → List Pc → Res
  | [], out => (out, 0, 0)
  | l :: r, out => bif (rowR l.1 l.2.1 l.2.2).2.1 != 0 then ([], (rowR l.1 l.2.1 l.2.2).2.1, (rowR l.1 l.2.1 l.2.2).2.2) else allS r (out ++ (rowR l.1 l.2.1 l.2.2).1)
def total : List Ln → Nat
  | [] => 0
  | l :: r => l.2.2.length + total r
theorem wqyf : ∀ {ls : List Ln} {l : Ln}, l ∈ ls → l.2.2.length ≤ total ls
  | a :: r, l, h => by
    rw [total]
    rcases List.mem_cons.1 h with rfl | h
    · omega
    · have := wqyf h; omega
  | [], l, h => by cases h
theorem wqrn (k : Nat) {R : Type} (a b : Int) (ls : List Ln) (K : List Pc → Int → Int → Option R) (hl : ls.length ≤ 1000000) (hk : total ls + 20 < k) (ht : total ls ≤ 1000000) :
    ∀ (t : List Ln) (n m : Nat) (out : List Pc), ls.drop n = t → t.length < m → n ≤ ls.length → out.length + total t ≤ 1000000 → wq4i k m a b out ls (ls.length : Int) (n : Int) K = K (allS t out).1 (allS t out).2.1 (allS t out).2.2
  | t, n, 0, out, _, hm, _, _ => by omega
  | [], n, m + 1, out, hd, hm, hn, ho => by
    have := drop_nil hd
    rw [wq4i, wq9a]
    simp (disch := omega) only [dec_t, dec_f, ieq_t, ieq_f, ine_t, ine_f, inb_t, bnd_t, wrap_id, wrap8_id, cond_true, cond_false, Bool.not_true, Bool.not_false, Bool.true_or, Bool.or_true, Bool.false_or, Bool.or_false, Bool.true_and, Bool.and_true, Bool.false_and, Bool.and_false, wqf, wq8, wq9]
    rfl
  | c :: r, n, m + 1, out, hd, hm, hn, ho => by
    obtain ⟨hlt, hc, hr⟩ := wq39 hd
    rw [total] at ho
    have hmem : c ∈ ls := by
      have := hc c
      rw [List.getD_eq_getElem?_getD, List.getElem?_eq_getElem hlt] at this
      exact this ▸ List.getElem_mem hlt
    have hcl := wqyf hmem
    have hrl := rowR_len c.1 c.2.1 c.2.2
    rw [wq4i, wq9a]
    simp (disch := omega) only [dec_t, inb_t, cond_true, hc, wq9]
    rw [wq100 k c.1 c.2.1 c.2.2 _ (by omega) (by omega), allS]
    cases (rowR c.1 c.2.1 c.2.2).2.1 != 0 with
    | true => rfl
    | false =>
      simp only [cond_false]
      rw [fits_t (by omega) (by omega), cond_true]
      simp (disch := omega) only [wrap_id, wq70]
      exact wqrn k a b ls K hl hk ht r (n + 1) m _ hr (by simp at hm; omega) (by omega) (by simp; omega)
theorem wq101 (k : Nat) {R : Type} (ls : List Ln) (K : List Pc → Int → Int → Option R) (hl : ls.length ≤ 1000000) (hk : total ls + 20 < k) (hk2 : ls.length < k) (ht : total ls ≤ 1000000) : wqmd k ls K = K (allS ls []).1 (allS ls []).2.1 (allS ls []).2.2 := by
  unfold wqmd wqoy
  exact wqrn k 0 0 ls K hl hk ht ls 0 k [] rfl hk2 (Nat.zero_le _) (by simpa using ht)
end Go.Proofs.YtpfbdepoammjmaaDoor.Pvm

namespace Go.Proofs.YtpfbdepoammjmaaDoor.Pvm
open Go
theorem u8_same (c d : UInt8) : ((c.toNat : Int) == (d.toNat : Int)) = (c == d) := by
  rw [Bool.eq_iff_iff]
  simp only [beq_iff_eq]
  constructor
  · intro h; exact UInt8.toNat_inj.1 (by omega)
  · intro h; rw [h]
theorem u8_other (c d : UInt8) : ((c.toNat : Int) != (d.toNat : Int)) = !(c == d) := by rw [bne, u8_same]
theorem wq11f (n : Nat) : (n : Int) + 1 + 1 = ((n + 2 : Nat) : Int) := by omega
theorem wq11g {n : Nat} (h : 0 < n) : (n : Int) - 1 = ((n - 1 : Nat) : Int) := by omega
end Go.Proofs.YtpfbdepoammjmaaDoor.Pvm

namespace Go.Proofs.YtpfbdepoammjmaaDoor.Pvm
open Go
theorem wqxn (l : List UInt8) (n : Nat) : (toBytes l).drop n = toBytes (l.drop n) := by simp [toBytes, List.map_drop]
theorem wqxo (l : List UInt8) (n : Nat) : (toBytes l).take n = toBytes (l.take n) := by simp [toBytes, List.map_take]
theorem wq114 (l : List UInt8) (n : Nat) : (toBytes l).getD n 0 = ((l.getD n 0).toNat : Int) := by
  simp only [toBytes, List.getD, List.getElem?_map]
  cases l[n]? <;> rfl
theorem bytes_wf {x : List Int} (h : ∀ y ∈ x, (0 : Int) ≤ y ∧ y ≤ 255) : ∃ t, x = toBytes t := by
  refine ⟨ofBytes x, ?_⟩
  unfold ofBytes toBytes
  rw [List.map_map]
  symm
  refine (List.map_congr_left fun y hy => ?_).trans (List.map_id x)
  have := h y hy
  simp only [Function.comp, UInt8.toNat_ofNat', id]
  omega
end Go.Proofs.YtpfbdepoammjmaaDoor.Pvm

namespace Go.Proofs.YtpfbdepoammjmaaDoor.Pvm
open Go
def spl : List UInt8 → List (List UInt8)
  | [] => [[]]
  | x :: r => bif x == 10 then [] :: spl r else (match spl r with
    | p :: ps => (x :: p) :: ps
    | [] => [[x]])
theorem spl_upto : ∀ s : List UInt8, spl s = if upto 10 s < s.length then s.take (upto 10 s) :: spl (s.drop (upto 10 s + 1)) else [s]
  | [] => rfl
  | x :: r => by
    rw [spl, upto]
    cases h : x == 10 with
    | true => simp
    | false =>
      rw [cond_false, cond_false, spl_upto r]
      by_cases hl : upto 10 r < r.length
      · rw [if_pos hl, if_pos (by simpa using hl)]
        rfl
      · rw [if_neg hl, if_neg (by simpa using hl)]
theorem wqwo : ∀ s : List UInt8, s.count 10 = if upto 10 s < s.length then (s.drop (upto 10 s + 1)).count 10 + 1 else 0
  | [] => rfl
  | x :: r => by
    rw [List.count_cons, upto]
    cases h : x == 10 with
    | true => simp
    | false =>
      rw [cond_false, wqwo r]
      simp only [Bool.false_eq_true, if_false, Nat.add_zero]
      by_cases hl : upto 10 r < r.length
      · rw [if_pos hl, if_pos (by simpa using hl)]
        simp
      · rw [if_neg hl, if_neg (by simpa using hl)]
theorem Index_eq (k : Nat) {R : Type} (s : List UInt8) (K : Int → Option R) : wqap k (toBytes s) 10 K = K (if upto 10 s < s.length then (upto 10 s : Int) else -1) := by
  have : wqap k (toBytes s) 10 K = K (idxByte (ofBytes (toBytes s)) 10) := rfl
  rw [this, wqah]
  have := idx_eq s 10
  rw [← this]; rfl
theorem take_set {α : Type} (l : List α) (i : Nat) (x : α) (h : i < l.length) : (l.set i x).take (i + 1) = l.take i ++ [x] := by
  rw [List.take_add_one, List.take_set_of_le (Nat.le_refl _)]
  simp [h]
theorem wqwp (k : Nat) {R : Type} (K : List (List Int) → Option R) : ∀ (n : Nat) (s : List UInt8) (i c : Nat) (arr : List (List Int)), s.count 10 = c → arr.length = i + c + 1 → c < n → s.length + i + c ≤ 1000000 →
    wq2h k n (toBytes s) 10 0 ((i + c : Nat) : Int) arr (i : Int) K = K (arr.take i ++ (spl s).map toBytes) := by
  intro n
  induction n with
  | zero => intro s i c arr _ _ h; omega
  | succ n ih =>
    intro s i c arr hc ha hn hl
    rw [wq2h]
    unfold wq5d
    rw [wqwo] at hc
    by_cases hu : upto 10 s < s.length
    · rw [if_pos hu] at hc
      obtain ⟨c', rfl⟩ : ∃ c', c = c' + 1 := ⟨c - 1, by omega⟩
      rw [Index_eq, if_pos hu, spl_upto, if_pos hu]
      have hd : decide ((i : Int) < ((i + (c' + 1) : Nat) : Int)) = true := dec_t (by omega)
      have hu0 : decide ((upto 10 s : Int) < 0) = false := dec_f (by omega)
      have w0 : IntKind.i64.wrap ((upto 10 s : Int) + 0) = (upto 10 s : Int) := by rw [wrap_id (by omega) (by omega)]; omega
      have w1 : IntKind.i64.wrap ((upto 10 s : Int) + (([10] : List Int).length : Int)) = ((upto 10 s + 1 : Nat) : Int) := by rw [wrap_id (by simp; omega) (by simp; omega)]; simp
      have w2 : IntKind.i64.wrap ((i : Int) + 1) = ((i + 1 : Nat) : Int) := by rw [wrap_id (by omega) (by omega)]; omega
      have b1 : bnd 0 (upto 10 s : Int) (upto 10 s : Int) = true := bnd_t (by omega) (by omega) (by omega)
      have d1 : decide ((upto 10 s : Int) ≤ ((toBytes s).length : Int)) = true := dec_t (by rw [wqbs]; omega)
      have i1 : inb (i : Int) (arr.length : Int) = true := inb_t (by omega) (by omega)
      have b2 : bnd ((upto 10 s + 1 : Nat) : Int) ((toBytes s).length : Int) ((toBytes s).length : Int) = true := bnd_t (by omega) (by rw [wqbs]; omega) (by omega)
      simp only [hd, hu0, w0, w1, w2, b1, d1, i1, b2, cond_true, cond_false, Bool.and_true, Bool.and_self]
      rw [cut_end, wqag, wqxn, wqxo, wq9]
      have e : ((i + (c' + 1) : Nat) : Int) = (((i + 1) + c' : Nat) : Int) := by omega
      rw [e, ih _ (i + 1) c' _ (by omega) (by rw [List.length_set]; omega) (by omega) (by rw [List.length_drop]; omega), take_set _ _ _ (by omega)]
      simp
    · rw [if_neg hu] at hc
      subst hc
      rw [spl_upto, if_neg hu]
      have hd : decide ((i : Int) < ((i + 0 : Nat) : Int)) = false := dec_f (by omega)
      have w2 : IntKind.i64.wrap ((i : Int) + 1) = ((i + 1 : Nat) : Int) := by rw [wrap_id (by omega) (by omega)]; omega
      have i1 : inb (i : Int) (arr.length : Int) = true := inb_t (by omega) (by omega)
      have b2 : ∀ z, bnd 0 ((i + 1 : Nat) : Int) ((arr.set (i : Int).toNat z).length : Int) = true := fun z => bnd_t (by omega) (by omega) (by rw [List.length_set]; omega)
      simp only [hd, w2, i1, b2, cond_true, cond_false]
      rw [wqag, wq9, take_set _ _ _ (by omega)]
      rfl
theorem Split_eq (k : Nat) {R : Type} (s : List UInt8) (hs : s.length ≤ 100000) (hk : s.length < k) (K : List (List Int) → Option R) : wqaq k (toBytes s) 10 K = K ((spl s).map toBytes) := by
  unfold wqaq wqhm wq9d wq9c
  have hcl : s.count 10 ≤ s.length := List.count_le_length
  have hcnt : wqao k (toBytes s) 10 = fun (K : Int → Option R) => K ((s.count 10 : Nat) : Int) := by
    funext K
    have : wqao k (toBytes s) 10 K = K (cntB (ofBytes (toBytes s)) 10) := rfl
    rw [this, wqah]; rfl
  rw [hcnt, wqbs]
  have z0 : ((-1 : Int) == 0) = false := rfl
  have z1 : decide ((-1 : Int) < 0) = true := rfl
  have w1 : IntKind.i64.wrap (((s.count 10 : Nat) : Int) + 1) = ((s.count 10 + 1 : Nat) : Int) := by rw [wrap_id (by omega) (by omega)]; omega
  have w2 : IntKind.i64.wrap ((s.length : Int) + 1) = ((s.length + 1 : Nat) : Int) := by rw [wrap_id (by omega) (by omega)]; omega
  have hmin : (if ((s.length + 1 : Nat) : Int) < ((s.count 10 + 1 : Nat) : Int) then ((s.length + 1 : Nat) : Int) else ((s.count 10 + 1 : Nat) : Int)) = ((s.count 10 + 1 : Nat) : Int) := by
    rw [if_neg (by omega)]
  simp only [z0, z1, cond_true, cond_false, w1, w2, hmin]
  have hm : mkB ((s.count 10 + 1 : Nat) : Int) ((s.count 10 + 1 : Nat) : Int) 24 = true := by
    simp only [mkB, Bool.and_eq_true, decide_eq_true_eq]; omega
  have w3 : IntKind.i64.wrap (((s.count 10 + 1 : Nat) : Int) - 1) = ((0 + s.count 10 : Nat) : Int) := by rw [wrap_id (by omega) (by omega)]; omega
  rw [hm, cond_true, w3]
  have := wqwp k K k s 0 (s.count 10) (zeros (Kd.int IntKind.u8).sl ((s.count 10 + 1 : Nat) : Int)) rfl (by simp [zeros]) (by omega) (by omega)
  exact this
end Go.Proofs.YtpfbdepoammjmaaDoor.Pvm

namespace Go.Proofs.YtpfbdepoammjmaaDoor.Pvm
open Go
def bad (c : UInt8) : Bool := oddP c.toNat
theorem wquu {n : Nat} (h : 128 ≤ n) : oddP n = false := by
  have h1 : decide ((n : Int) ≥ 0) = true := dec_t (by omega)
  have h2 : decide ((n : Int) < 32) = false := dec_f (by omega)
  have h3 : ((n : Int) == 127) = false := ieq_f (by omega)
  rw [oddP, h1, h2, h3]; rfl
theorem wq102 (s : ByteArray) (i : Nat) (h : (s.get! i).toNat < 128) : Utf8.decode s i = ((s.get! i).toNat, 1) := by
  unfold Utf8.decode
  simp only [Nat.add_zero]
  rw [if_pos (by omega)]
theorem wqzb (s : ByteArray) (i : Nat) (h : 128 ≤ (s.get! i).toNat) : 128 ≤ (Utf8.decode s i).1 ∧ ∀ j, i < j → j < i + (Utf8.decode s i).2 → 128 ≤ (s.get! j).toNat := by
  have ct : ∀ k, (decide (i + k < s.size) && ((s.get! (i + k)).toNat / 64 == 2)) = true → 128 ≤ (s.get! (i + k)).toNat := by
    intro k hk
    simp only [Bool.and_eq_true, beq_iff_eq] at hk
    omega
  unfold Utf8.decode
  simp only [Nat.add_zero]
  rw [if_neg (by omega)]
  split
  · next h1 =>
    simp only [Bool.and_eq_true] at h1
    have c1 := ct 1 (by simpa using h1.2)
    split
    · next h2 =>
      refine ⟨h2, fun j j1 j2 => ?_⟩
      obtain rfl : j = i + 1 := by omega
      exact c1
    · exact ⟨by decide, fun j j1 j2 => by omega⟩
  · split
    · next h1 =>
      simp only [Bool.and_eq_true] at h1
      have c1 := ct 1 (by simpa using h1.1.2)
      have c2 := ct 2 (by simpa using h1.2)
      split
      · next h2 =>
        simp only [Bool.and_eq_true, decide_eq_true_eq] at h2
        refine ⟨by omega, fun j j1 j2 => ?_⟩
        rcases (show j = i + 1 ∨ j = i + 2 by omega) with rfl | rfl
        · exact c1
        · exact c2
      · exact ⟨by decide, fun j j1 j2 => by omega⟩
    · split
      · next h1 =>
        simp only [Bool.and_eq_true] at h1
        have c1 := ct 1 (by simpa using h1.1.1.2)
        have c2 := ct 2 (by simpa using h1.1.2)
        have c3 := ct 3 (by simpa using h1.2)
        split
        · next h2 =>
          simp only [Bool.and_eq_true, decide_eq_true_eq] at h2
          refine ⟨by omega, fun j j1 j2 => ?_⟩
          rcases (show j = i + 1 ∨ j = i + 2 ∨ j = i + 3 by omega) with rfl | rfl | rfl
          · exact c1
          · exact c2
          · exact c3
        · exact ⟨by decide, fun j j1 j2 => by omega⟩
      · exact ⟨by decide, fun j j1 j2 => by omega⟩
theorem any_skip (l : List UInt8) (p : UInt8 → Bool) : ∀ (w pos : Nat), (∀ j, pos ≤ j → j < pos + w → j < l.length → p (l.getD j 0) = false) → (l.drop pos).any p = (l.drop (pos + w)).any p
  | 0, pos, h => rfl
  | w + 1, pos, h => by
    rw [show pos + (w + 1) = (pos + 1) + w by omega, ← any_skip l p w (pos + 1) fun j h1 h2 h3 => h j (by omega) (by omega) h3]
    by_cases hl : pos < l.length
    · rw [List.drop_eq_getElem_cons hl, List.any_cons]
      have := h pos (Nat.le_refl _) (by omega) hl
      simp only [List.getD, List.getElem?_eq_getElem hl, Option.getD_some] at this
      rw [this, Bool.false_or]
    · rw [List.drop_eq_nil_of_le (by omega), List.drop_eq_nil_of_le (by omega)]
theorem get_of (l : List UInt8) (i : Nat) (h : i < l.length) : (⟨l.toArray⟩ : ByteArray).get! i = l.getD i 0 := by
  show (l.toArray)[i]! = _
  rw [getElem!_pos l.toArray i (by simpa using h)]
  simp [List.getD, h]
theorem odd_from (l : List UInt8) : ∀ (f pos : Nat), l.length ≤ pos + f → decide (Lib.idxFuncFrom oddP true ⟨l.toArray⟩ f pos ≥ 0) = (l.drop pos).any bad
  | 0, pos, h => by
    rw [List.drop_eq_nil_of_le (by omega)]
    rfl
  | f + 1, pos, h => by
    rw [Lib.idxFuncFrom]
    have hsz : (⟨l.toArray⟩ : ByteArray).size = l.length := rfl
    rw [hsz]
    by_cases hl : pos < l.length
    · rw [if_pos hl]
      have hg := get_of l pos hl
      by_cases hb : (l.getD pos 0).toNat < 128
      · rw [wq102 _ _ (by rw [hg]; exact hb), hg]
        have hd : l.drop pos = l.getD pos 0 :: l.drop (pos + 1) := by
          rw [List.drop_eq_getElem_cons hl]; simp [List.getD, hl]
        rw [hd, List.any_cons]
        cases ho : oddP (l.getD pos 0).toNat with
        | true =>
          have : bad (l.getD pos 0) = true := ho
          rw [this, if_pos rfl]
          simp
        | false =>
          have : bad (l.getD pos 0) = false := ho
          rw [this, if_neg (by simp), odd_from l f (pos + 1) (by omega), Bool.false_or]
      · obtain ⟨r1, r2⟩ := wqzb ⟨l.toArray⟩ pos (by rw [hg]; omega)
        rw [wquu r1, if_neg (by simp), odd_from l f _ (by have := Lib.width_pos ⟨l.toArray⟩ pos; omega)]
        symm
        refine any_skip l bad _ pos fun j j1 j2 j3 => ?_
        by_cases hj : j = pos
        · subst hj; exact wquu (by omega)
        · have := r2 j (by omega) j2
          rw [get_of l j j3] at this
          exact wquu this
    · rw [if_neg hl, List.drop_eq_nil_of_le (by omega)]
      rfl
theorem wq103 (l : List UInt8) : decide (idxOdd l ≥ 0) = l.any bad := odd_from l l.length 0 (by omega)
end Go.Proofs.YtpfbdepoammjmaaDoor.Pvm

namespace Go.Proofs.YtpfbdepoammjmaaDoor.Pvm
open Go
def qS (c : UInt8) : List UInt8 → Nat → Option Nat
  | [], _ => none
  | [x], i => bif c == 34 && x == 92 then none else bif !(x == c) then none else some i
  | x :: y :: r, i => bif c == 34 && x == 92 then qS c r (i + 2) else bif !(x == c) then qS c (y :: r) (i + 1) else bif c == 39 && y == c then qS c r (i + 2) else some i
def qK {R : Type} (K : Int → Bool → Option R) (d : Int) : Option Nat → Option R
  | some j => K (j + d) true
  | none => K 0 false
theorem beq34 (c : UInt8) : ((c.toNat : Int) == 34) = (c == 34) := u8_beq c 34 (by omega)
theorem beq39 (c : UInt8) : ((c.toNat : Int) == 39) = (c == 39) := u8_beq c 39 (by omega)
theorem beq92 (c : UInt8) : ((c.toNat : Int) == 92) = (c == 92) := u8_beq c 92 (by omega)
theorem beq35 (c : UInt8) : ((c.toNat : Int) == 35) = (c == 35) := u8_beq c 35 (by omega)
theorem beq32 (c : UInt8) : ((c.toNat : Int) == 32) = (c == 32) := u8_beq c 32 (by omega)
theorem bne32 (c : UInt8) : ((c.toNat : Int) != 32) = !(c == 32) := u8_bne c 32 (by omega)
theorem qS_bound (c : UInt8) : ∀ (r : List UInt8) (i j : Nat), qS c r i = some j → i ≤ j ∧ j < i + r.length
  | [], i, j, h => by cases h
  | [x], i, j, h => by
    unfold qS at h
    cases h1 : (c == 34 && x == 92) <;> rw [h1] at h <;> simp only [cond_true, cond_false] at h
    · cases h2 : (x == c) <;> rw [h2] at h <;> simp at h
      simp; omega
    · cases h
  | x :: y :: r, i, j, h => by
    unfold qS at h
    cases h1 : (c == 34 && x == 92) <;> rw [h1] at h <;> simp only [cond_true, cond_false] at h
    · cases h2 : (x == c) <;> rw [h2] at h <;> simp only [Bool.not_true, Bool.not_false, cond_true, cond_false] at h
      · have := qS_bound c (y :: r) _ _ h
        simp at this ⊢; omega
      · cases h3 : (c == 39 && y == c) <;> rw [h3] at h <;> simp only [cond_true, cond_false] at h
        · cases h; simp
        · have := qS_bound c r _ _ h
          simp at this ⊢; omega
    · have := qS_bound c r _ _ h
      simp at this ⊢; omega
theorem wqro (k : Nat) {R : Type} (s : List UInt8) (c : UInt8) (hs : s.length ≤ 1000000) (K : Int → Bool → Option R) : ∀ (n : Nat) (r : List UInt8) (i : Nat), s.drop i = r → i ≤ s.length + 1 → r.length < n →
    wq37 k n s (c.toNat : Int) (i : Int) K = qK K 0 (qS c r i) := by
  intro n
  induction n with
  | zero => intro r i _ _ h; omega
  | succ n ih =>
    intro r i hr hi hn
    rw [wq37]
    unfold wq6y
    match r, hr, hn with
    | [], hr, hn =>
      have := drop_nil hr
      simp (disch := omega) only [dec_t, dec_f, ieq_t, ieq_f, ine_t, ine_f, inb_t, bnd_t, wrap_id, wrap8_id, cond_true, cond_false, Bool.not_true, Bool.not_false, Bool.true_or, Bool.or_true, Bool.false_or, Bool.or_false, Bool.true_and, Bool.and_true, Bool.false_and, Bool.and_false, wqf, wq8, wq9, qS, qK]
    | [x], hr, hn =>
      obtain ⟨h1, h2, h3⟩ := wq39 hr
      have h4 := drop_nil h3
      simp (disch := omega) only [dec_t, dec_f, ieq_t, ieq_f, ine_t, ine_f, inb_t, bnd_t, wrap_id, wrap8_id, cond_true, cond_false, Bool.not_true, Bool.not_false, Bool.true_or, Bool.or_true, Bool.false_or, Bool.or_false, Bool.true_and, Bool.and_true, Bool.false_and, Bool.and_false, wqf, wq8, wq9, h2, beq34, beq92, beq39, u8_other]
      have e1 := ih [] (i + 1) h3 (by omega) (by simp at hn ⊢; omega)
      have e2 := ih [] (i + 2) (by rw [List.drop_eq_nil_of_le (by omega)]) (by omega) (by simp at hn ⊢; omega)
      have c1 : ((i : Int) + 1) = ((i + 1 : Nat) : Int) := by omega
      have c2 : ((i : Int) + 1 + 1) = ((i + 2 : Nat) : Int) := by omega
      rw [c2, c1, e1, e2]
      unfold qS
      have h5 : decide (((i + 1 : Nat) : Int) < (s.length : Int)) = false := dec_f (by omega)
      cases h6 : (c == 34) <;> cases h7 : (x == 92) <;> cases h8 : (x == c) <;> cases h9 : (c == 39) <;> simp [h5, qS, qK]
    | x :: y :: r, hr, hn =>
      obtain ⟨h1, h2, h3⟩ := wq39 hr
      obtain ⟨g1, g2, g3⟩ := wq39 h3
      simp (disch := omega) only [dec_t, dec_f, ieq_t, ieq_f, ine_t, ine_f, inb_t, bnd_t, wrap_id, wrap8_id, cond_true, cond_false, Bool.not_true, Bool.not_false, Bool.true_or, Bool.or_true, Bool.false_or, Bool.or_false, Bool.true_and, Bool.and_true, Bool.false_and, Bool.and_false, wqf, wq8, wq9, h2, beq34, beq92, beq39, u8_other]
      have e1 := ih (y :: r) (i + 1) h3 (by omega) (by simp at hn ⊢; omega)
      have e2 := ih r (i + 2) g3 (by omega) (by simp at hn ⊢; omega)
      have c1 : ((i : Int) + 1) = ((i + 1 : Nat) : Int) := by omega
      have c2 : ((i : Int) + 1 + 1) = ((i + 2 : Nat) : Int) := by omega
      rw [c2, c1, e1, e2, wq9, g2, u8_same]
      rw [qS]
      cases h6 : (c == 34) <;> cases h7 : (x == 92) <;> cases h8 : (x == c) <;> cases h9 : (c == 39) <;> cases h10 : (y == c) <;> simp [qK]
def qAt (s : List UInt8) (i : Nat) : Option Nat := qS (s.getD i 0) (s.drop (i + 1)) (i + 1)
theorem wqms (k : Nat) {R : Type} (s : List UInt8) (i : Nat) (hs : s.length ≤ 1000000) (hi : i < s.length) (hk : s.length < k) (K : Int → Bool → Option R) : wq8s k s i K = qK K 0 (qAt s i) := by
  unfold wq8s wqd6
  simp (disch := omega) only [dec_t, dec_f, ieq_t, ieq_f, ine_t, ine_f, inb_t, bnd_t, wrap_id, wrap8_id, cond_true, cond_false, Bool.not_true, Bool.not_false, Bool.true_or, Bool.or_true, Bool.false_or, Bool.or_false, Bool.true_and, Bool.and_true, Bool.false_and, Bool.and_false, wqf, wq8, wq9]
  rw [wq70, wqro k s _ hs K k _ (i + 1) rfl (by omega) (by rw [List.length_drop]; omega)]
  rfl
theorem wqyg {s : List UInt8} {i j : Nat} (h : qAt s i = some j) : i < j ∧ j < s.length := by
  have := qS_bound _ _ _ _ h
  rw [List.length_drop] at this
  omega
end Go.Proofs.YtpfbdepoammjmaaDoor.Pvm

namespace Go.Proofs.YtpfbdepoammjmaaDoor.Pvm
open Go
def rt (l : List UInt8) : List UInt8 := (l.reverse.dropWhile (· == 32)).reverse
theorem rt_nil : rt [] = [] := rfl
theorem rt_cat (l : List UInt8) (x : UInt8) : rt (l ++ [x]) = bif x == 32 then rt l else l ++ [x] := by
  unfold rt
  rw [List.reverse_append, List.reverse_singleton, List.singleton_append, List.dropWhile_cons]
  cases x == 32 <;> simp
theorem wq10y (l : List UInt8) (x d : UInt8) : (l ++ [x]).getD l.length d = x := by simp [List.getD]
theorem wq104 (k : Nat) {R : Type} (K : List UInt8 → Option R) : ∀ (n : Nat) (l : List UInt8), l.length ≤ 1000000 → l.length < n → wq1g k n l 32 K = K (rt l) := by
  intro n
  induction n with
  | zero => intro l _ h; omega
  | succ n ih =>
    intro l hl hn
    rw [wq1g]
    unfold wq3k
    rcases List.eq_nil_or_concat l with rfl | ⟨l', x, rfl⟩
    · simp [rt_nil]
    · rw [List.concat_eq_append] at *
      have hlen : (l' ++ [x]).length = l'.length + 1 := by simp
      rw [hlen] at hl hn
      simp (disch := omega) only [dec_t, dec_f, ieq_t, ieq_f, ine_t, ine_f, inb_t, bnd_t, wrap_id, wrap8_id, cond_true, cond_false, Bool.not_true, Bool.not_false, Bool.true_or, Bool.or_true, Bool.false_or, Bool.or_false, Bool.true_and, Bool.and_true, Bool.false_and, Bool.and_false, wqf, wq8, wq9, hlen]
      have e1 : (((l'.length + 1 : Nat) : Int) - 1) = (l'.length : Int) := by omega
      simp (disch := omega) only [dec_t, dec_f, ieq_t, ieq_f, ine_t, ine_f, inb_t, bnd_t, wrap_id, wrap8_id, cond_true, cond_false, Bool.not_true, Bool.not_false, Bool.true_or, Bool.or_true, Bool.false_or, Bool.or_false, Bool.true_and, Bool.and_true, Bool.false_and, Bool.and_false, wqf, wq8, wq9, e1, wq10y, beq32]
      rw [wqag, List.take_left' rfl, ih l' (by omega) (by omega), rt_cat]
      cases x == 32 <;> rfl
theorem trimR_eq (k : Nat) {R : Type} (l : List UInt8) (hl : l.length ≤ 1000000) (hk : l.length < k) (K : List UInt8 → Option R) : wq47 k l 32 K = K (rt l) := by
  unfold wq47 wq9e wq4x wq4w
  cases l with
  | nil => rfl
  | cons x r =>
    have e2 : (((([32] : List UInt8).getD (Int.toNat 0) 0).toNat : Nat) : Int) = 32 := rfl
    simp only [e2, show ((x :: r) == ([] : List UInt8)) = false from rfl, show (([32] : List UInt8) == []) = false from rfl, show ((([32] : List UInt8).length : Int) == 1) = true from rfl, show decide ((32 : Int) < 128) = true from rfl, cond_false, cond_true]
    exact wq104 k K k _ hl hk
def fresh (s : List UInt8) (i : Nat) : Bool := i == 0 || s.getD (i - 1) 0 == 32
def stS (s : List UInt8) : Nat → Nat → Option Nat
  | 0, _ => some s.length
  | n + 1, i => bif Nat.ble s.length i then some s.length else
    bif !fresh s i then stS s n (i + 1) else
    bif s.getD i 0 == 35 then some i else
    bif s.getD i 0 == 39 || s.getD i 0 == 34 then (match qAt s i with
      | some j => stS s n (j + 1)
      | none => none) else stS s n (i + 1)
def stK {R : Type} (s : List UInt8) (K : List UInt8 → Bool → Option R) : Option Nat → Option R
  | some e => K (rt (s.take e)) true
  | none => K [] false
theorem ble_f {a b : Nat} (h : b < a) : Nat.ble a b = false := by
  cases hb : Nat.ble a b with
  | false => rfl
  | true => have := Nat.le_of_ble_eq_true hb; omega
theorem ble_t {a b : Nat} (h : a ≤ b) : Nat.ble a b = true := Nat.ble_eq_true_of_le h
theorem wqsu (k : Nat) {R : Type} (s : List UInt8) (hs : s.length ≤ 1000000) (hk : s.length < k) (K : List UInt8 → Bool → Option R) : ∀ (n i : Nat), i ≤ s.length → s.length < i + n →
    wq1y k n s (s.length : Int) (i : Int) K = stK s K (stS s n i) := by
  intro n
  induction n with
  | zero => intro i _ h; omega
  | succ n ih =>
    intro i hi hn
    rw [wq1y]
    unfold wq7o
    by_cases h : i < s.length
    · have hb := ble_f h
      rw [stS, hb, cond_false]
      have st1 := ih (i + 1) (by omega) (by omega)
      have c1 : ((i : Int) + 1) = ((i + 1 : Nat) : Int) := by omega
      have hg : bnd 0 (i : Int) (s.length : Int) = true := bnd_t (by omega) (by omega) (by omega)
      have hcut : (cut s 0 (i : Int)).length ≤ 1000000 ∧ (cut s 0 (i : Int)).length < k := by rw [wqag, List.length_take]; omega
      have tail : (bif (s.getD i 0 : UInt8) == 35 then K (rt (s.take i)) true else bif (s.getD i 0 : UInt8) == 39 then qK (fun y7 y8 => bif !y8 then K [] false else wq1y k n s (s.length : Int) (IntKind.i64.wrap (y7 + 1)) K) 0 (qAt s i) else bif (s.getD i 0 : UInt8) == 34 then qK (fun y7 y8 => bif !y8 then K [] false else wq1y k n s (s.length : Int) (IntKind.i64.wrap (y7 + 1)) K) 0 (qAt s i) else wq1y k n s (s.length : Int) ((i + 1 : Nat) : Int) K) =
          stK s K (bif s.getD i 0 == 35 then some i else bif s.getD i 0 == 39 || s.getD i 0 == 34 then (match qAt s i with | some j => stS s n (j + 1) | none => none) else stS s n (i + 1)) := by
        have hq : qK (fun y7 y8 => bif !y8 then K [] false else wq1y k n s (s.length : Int) (IntKind.i64.wrap (y7 + 1)) K) 0 (qAt s i) = stK s K (match qAt s i with | some j => stS s n (j + 1) | none => none) := by
          cases hqa : qAt s i with
          | none => rfl
          | some j =>
            have hj := wqyg hqa
            simp only [qK, Bool.not_true, cond_false]
            have e : IntKind.i64.wrap ((j : Int) + 0 + 1) = ((j + 1 : Nat) : Int) := by rw [wrap_id (by omega) (by omega)]; omega
            rw [e, ih (j + 1) (by omega) (by omega)]
        rw [hq, st1]
        cases (s.getD i 0 == 35) <;> cases (s.getD i 0 == 39) <;> cases (s.getD i 0 == 34) <;> rfl
      by_cases h0 : i = 0
      · subst h0
        have hf : fresh s 0 = true := rfl
        rw [hf]
        simp (disch := omega) only [dec_t, dec_f, ieq_t, ieq_f, ine_t, ine_f, inb_t, bnd_t, wrap_id, wrap8_id, cond_true, cond_false, Bool.not_true, Bool.not_false, Bool.true_or, Bool.or_true, Bool.false_or, Bool.or_false, Bool.true_and, Bool.and_true, Bool.false_and, Bool.and_false, wqf, wq8, wq9, beq35, beq39, beq34]
        rw [trimR_eq k _ hcut.1 hcut.2, wqag, wqms k s 0 hs h hk]
        rw [← tail]
        rfl
      · have e0 : ((i : Int) - 1) = ((i - 1 : Nat) : Int) := by omega
        have hf : fresh s i = (s.getD (i - 1) 0 == 32) := by
          have : (i == 0) = false := by simpa using h0
          simp [fresh, this]
        rw [hf]
        simp (disch := omega) only [dec_t, dec_f, ieq_t, ieq_f, ine_t, ine_f, inb_t, bnd_t, wrap_id, wrap8_id, cond_true, cond_false, Bool.not_true, Bool.not_false, Bool.true_or, Bool.or_true, Bool.false_or, Bool.or_false, Bool.true_and, Bool.and_true, Bool.false_and, Bool.and_false, wqf, wq8, wq9, e0, beq35, beq39, beq34, bne32]
        rw [trimR_eq k _ hcut.1 hcut.2, wqag, wqms k s i hs h hk, c1]
        cases hx : (s.getD (i - 1) 0 == 32) with
        | false => rw [Bool.not_false, cond_true, cond_true]; exact st1
        | true =>
          rw [Bool.not_true, cond_false, cond_false, ← tail]
    · have hi' : i = s.length := by omega
      subst hi'
      have hcut : (cut s 0 (s.length : Int)).length ≤ 1000000 ∧ (cut s 0 (s.length : Int)).length < k := by rw [wqag, List.length_take]; omega
      rw [stS, ble_t (Nat.le_refl _), cond_true]
      simp (disch := omega) only [dec_t, dec_f, ieq_t, ieq_f, ine_t, ine_f, inb_t, bnd_t, wrap_id, wrap8_id, cond_true, cond_false, Bool.not_true, Bool.not_false, Bool.true_or, Bool.or_true, Bool.false_or, Bool.or_false, Bool.true_and, Bool.and_true, Bool.false_and, Bool.and_false, wqf, wq8, wq9]
      rw [trimR_eq k _ hcut.1 hcut.2, wqag]
      rfl
theorem wqoc (k : Nat) {R : Type} (s : List UInt8) (hs : s.length ≤ 1000000) (hk : s.length < k) (K : List UInt8 → Bool → Option R) : wqa5 k s K = stK s K (stS s k 0) := by
  unfold wqa5 wqff
  exact wqsu k s hs hk K k 0 (by omega) (by omega)
end Go.Proofs.YtpfbdepoammjmaaDoor.Pvm

namespace Go.Proofs.YtpfbdepoammjmaaDoor.Pvm
open Go
theorem wq111 {s : List UInt8} {e : Nat} (h : e < s.length) : s.take (e + 1) = s.take e ++ [s.getD e 0] := by
  rw [List.take_add_one, List.getElem?_eq_getElem h]
  simp [List.getD, h]
end Go.Proofs.YtpfbdepoammjmaaDoor.Pvm

namespace Go.Proofs.YtpfbdepoammjmaaDoor.Pvm
open Go
def lt32 (l : List UInt8) : List UInt8 := l.dropWhile (· == 32)
theorem lt32_len (l : List UInt8) : (lt32 l).length ≤ l.length := (List.dropWhile_suffix _).length_le
theorem wq105 (k : Nat) {R : Type} (K : List UInt8 → Option R) : ∀ (n : Nat) (l : List UInt8), l.length < n → wq1m k n l 32 K = K (lt32 l) := by
  intro n
  induction n with
  | zero => intro l h; omega
  | succ n ih =>
    intro l hn
    rw [wq1m]
    unfold wq3q
    cases l with
    | nil => rfl
    | cons x r =>
      have h1 : decide (((x :: r).length : Int) > 0) = true := dec_t (by simp <;> omega)
      have h2 : inb 0 ((x :: r).length : Int) = true := inb_t (by omega) (by simp <;> omega)
      have h3 : bnd 1 ((x :: r).length : Int) ((x :: r).length : Int) = true := bnd_t (by omega) (by simp <;> omega) (by omega)
      have h4 : (x :: r).getD (Int.toNat 0) 0 = x := rfl
      have h5 : cut (x :: r) 1 ((x :: r).length : Int) = r := by simp [cut]
      simp only [h1, h2, h3, h4, h5, beq32, Bool.or_true, cond_true]
      rw [ih r (by simp at hn; omega), lt32, lt32, List.dropWhile_cons]
      cases x == 32 <;> rfl
theorem trimL_eq (k : Nat) {R : Type} (l : List UInt8) (hk : l.length < k) (K : List UInt8 → Option R) : wq5k k l 32 K = K (lt32 l) := by
  unfold wq5k wqa6 wq5a wq59
  cases l with
  | nil => rfl
  | cons x r =>
    have e2 : (((([32] : List UInt8).getD (Int.toNat 0) 0).toNat : Nat) : Int) = 32 := rfl
    simp only [e2, show ((x :: r) == ([] : List UInt8)) = false from rfl, show (([32] : List UInt8) == []) = false from rfl, show ((([32] : List UInt8).length : Int) == 1) = true from rfl, show decide ((32 : Int) < 128) = true from rfl, cond_false, cond_true]
    exact wq105 k K k _ hk
abbrev Row := Int × (Int × List UInt8)
def rowL (k : Nat) (no : Nat) (p : List UInt8) (e : Nat) : List Row :=
  bif rt ((lt32 p).take e) == [] then [] else [((no : Int), (((p.length : Int) - ((lt32 p).length : Int)), rt ((lt32 p).take e)))]
def linesS (k : Nat) : List (List UInt8) → Nat → List Row → List Row × Int × Int
  | [], no, acc => (acc, 0, 0)
  | p :: ps, no, acc => bif p.any bad then ([], 2, (no : Int)) else match stS (lt32 p) k 0 with
    | none => ([], 3, (no : Int))
    | some e => linesS k ps (no + 1) (acc ++ rowL k no p e)
theorem rowL_len (k no : Nat) (p : List UInt8) (e : Nat) : (rowL k no p e).length ≤ 1 := by
  unfold rowL
  cases rt ((lt32 p).take e) == [] <;> simp
theorem wqsv (k : Nat) {R : Type} (K : List Row → Int → Int → Option R) (a0 a1 : Int) (ps : List (List UInt8)) (hp : ∀ p ∈ ps, p.length ≤ 20000 ∧ p.length < k) (hps : ps.length ≤ 20000) :
    ∀ (n : Nat) (r : List (List UInt8)) (i : Nat) (acc : List Row), ps.drop i = r → i ≤ ps.length → r.length < n → acc.length ≤ i →
    wq3o k n a0 a1 acc (ps.map toBytes) (ps.length : Int) (i : Int) K = (linesS k r (i + 1) acc |> fun z => K z.1 z.2.1 z.2.2) := by
  intro n
  induction n with
  | zero => intro r i acc _ _ h; omega
  | succ n ih =>
    intro r i acc hr hi hn ha
    rw [wq3o]
    unfold wq7p
    cases r with
    | nil =>
      have := drop_nil hr
      simp (disch := omega) only [dec_t, dec_f, ieq_t, ieq_f, ine_t, ine_f, inb_t, bnd_t, wrap_id, wrap8_id, cond_true, cond_false, Bool.not_true, Bool.not_false, Bool.true_or, Bool.or_true, Bool.false_or, Bool.or_false, Bool.true_and, Bool.and_true, Bool.false_and, Bool.and_false, wqf, wq8, wq9]
      rfl
    | cons p r =>
      obtain ⟨h1, h2, h3⟩ := wq39 hr
      have hml : ((ps.map toBytes).length : Int) = (ps.length : Int) := by simp
      have hg : (ps.map toBytes).getD i (Kd.int IntKind.u8).sl.zero = toBytes p := by
        have := h2 []
        simp only [List.getD, List.getElem?_map] at this ⊢
        have hx : ps[i]? = some p := by
          rw [List.getElem?_eq_getElem h1] at this ⊢
          simpa using this
        rw [hx]; rfl
      have hmem : p ∈ ps := by
        have : p ∈ ps.drop i := by rw [hr]; exact List.mem_cons_self
        exact List.mem_of_mem_drop this
      obtain ⟨hp1, hp2⟩ := hp p hmem
      have hl := lt32_len p
      simp (disch := omega) only [dec_t, dec_f, ieq_t, ieq_f, ine_t, ine_f, inb_t, bnd_t, wrap_id, wrap8_id, cond_true, cond_false, Bool.not_true, Bool.not_false, Bool.true_or, Bool.or_true, Bool.false_or, Bool.or_false, Bool.true_and, Bool.and_true, Bool.false_and, Bool.and_false, wqf, wq8, wq9, hml, hg, wqah]
      have hI : ∀ K' : Int → Option R, wq9f k p K' = K' (idxOdd p) := fun _ => rfl
      rw [hI, wq103, trimL_eq k p hp2, wqoc k _ (by omega) (by omega)]
      rw [linesS]
      have c1 : ((i : Int) + 1) = ((i + 1 : Nat) : Int) := by omega
      cases hb : p.any bad with
      | true => simp only [cond_true, c1]
      | false =>
        simp only [cond_false]
        cases hs : stS (lt32 p) k 0 with
        | none => simp only [stK, Bool.not_false, cond_true, c1]
        | some e =>
          simp only [stK, Bool.not_true, cond_false]
          have w1 : IntKind.i64.wrap ((p.length : Int) - ((lt32 p).length : Int)) = (p.length : Int) - ((lt32 p).length : Int) := wrap_id (by omega) (by omega)
          have hf : ∀ z : Row, fits acc.length [z].length 32 = true := fun z => fits_t (by simp; omega) (by simp; omega)
          rw [w1, hf, cond_true, c1, ih r (i + 1) _ h3 (by omega) (by simp at hn; omega) (by simp; omega), ih r (i + 1) _ h3 (by omega) (by simp at hn; omega) (by omega)]
          unfold rowL
          cases rt ((lt32 p).take e) == [] <;> simp
theorem spl_len : ∀ s : List UInt8, (spl s).length ≤ s.length + 1
  | [] => by simp [spl]
  | x :: r => by
    have := spl_len r
    rw [spl]
    cases x == 10 with
    | true => simp; omega
    | false =>
      cases h : spl r with
      | nil => simp
      | cons p ps => rw [h] at this; simp at this ⊢; omega
theorem spl_mem : ∀ (s : List UInt8) (p : List UInt8), p ∈ spl s → p.length ≤ s.length
  | [], p, h => by simp [spl] at h; simp [h]
  | x :: r, p, h => by
    rw [spl] at h
    cases hx : x == 10 with
    | true =>
      rw [hx, cond_true] at h
      rcases List.mem_cons.1 h with rfl | h
      · simp
      · have := spl_mem r p h; simp; omega
    | false =>
      rw [hx, cond_false] at h
      cases hs : spl r with
      | nil => rw [hs] at h; simp at h; simp [h]
      | cons q qs =>
        rw [hs] at h
        have hq := spl_mem r
        rw [hs] at hq
        rcases List.mem_cons.1 h with rfl | h
        · have := hq q (by simp); simp; omega
        · have := hq p (by simp [h]); simp; omega
theorem wqod (k : Nat) {R : Type} (s : List UInt8) (hk : 20000 < k) (K : List Row → Int → Int → Option R) :
    wqa7 k (toBytes s) K = bif decide (s.length > 16384) then K [] 1 1 else (linesS k (spl s) 1 [] |> fun z => K z.1 z.2.1 z.2.2) := by
  unfold wqa7 wqfi
  rw [wqbs]
  by_cases h : s.length > 16384
  · rw [dec_t h]
    have : decide ((s.length : Int) > 16384) = true := dec_t (by omega)
    rw [this]; rfl
  · rw [dec_f h]
    have : decide ((s.length : Int) > 16384) = false := dec_f (by omega)
    have hl := spl_len s
    rw [this, cond_false, cond_false, Split_eq k s (by omega) (by omega)]
    have hml : (((spl s).map toBytes).length : Int) = ((spl s).length : Int) := by simp
    rw [hml]
    exact wqsv k K 0 0 (spl s) (fun p hp => by have := spl_mem s p hp; omega) (by omega) k _ 0 [] rfl (by omega) (by omega) (by simp)
end Go.Proofs.YtpfbdepoammjmaaDoor.Pvm

namespace Go.Proofs.YtpfbdepoammjmaaDoor.Pvm
open Go
theorem stS_fuel (s : List UInt8) : ∀ (n m i : Nat), s.length < i + n → s.length < i + m → i ≤ s.length → stS s n i = stS s m i
  | 0, _, i, h, _, hi => by omega
  | _ + 1, 0, i, _, h, hi => by omega
  | n + 1, m + 1, i, h1, h2, hi => by
    rw [stS, stS]
    by_cases h : i < s.length
    · rw [ble_f h, cond_false, cond_false, stS_fuel s n m (i + 1) (by omega) (by omega) (by omega)]
      cases hq : qAt s i with
      | none => rfl
      | some j =>
        have := wqyg hq
        dsimp only
        rw [stS_fuel s n m (j + 1) (by omega) (by omega) (by omega)]
    · rw [ble_t (by omega)]; rfl
theorem wqnr (k m : Nat) : ∀ (ps : List (List UInt8)) (no : Nat) (acc : List Row), (∀ p ∈ ps, p.length < k ∧ p.length < m) → linesS k ps no acc = linesS m ps no acc
  | [], no, acc, h => rfl
  | p :: ps, no, acc, h => by
    have hp := h p (by simp)
    have hl := lt32_len p
    rw [linesS, linesS, stS_fuel (lt32 p) k m 0 (by omega) (by omega) (by omega)]
    cases p.any bad with
    | true => rfl
    | false =>
      cases stS (lt32 p) m 0 with
      | none => rfl
      | some e => exact wqnr k m ps _ _ fun q hq => h q (by simp [hq])
theorem Strip_at (k : Nat) {R : Type} (s : List UInt8) (hs : s.length < 200) (hk : 20000 < k) (K : List UInt8 → Bool → Option R) : wqa5 k s K = stK s K (stS s 200 0) := by
  rw [wqoc k s (by omega) (by omega), stS_fuel s k 200 0 (by omega) (by omega) (by omega)]
theorem Lines_at (k : Nat) {R : Type} (s : List UInt8) (hs : s.length < 200) (hk : 20000 < k) (K : List Row → Int → Int → Option R) :
    wqa7 k (toBytes s) K = (linesS 200 (spl s) 1 [] |> fun z => K z.1 z.2.1 z.2.2) := by
  rw [wqod k s hk, dec_f (by omega), cond_false, wqnr k 200 (spl s) 1 [] fun p hp => by have := spl_mem s p hp; omega]
end Go.Proofs.YtpfbdepoammjmaaDoor.Pvm

namespace Go.Proofs.YtpfbdepoammjmaaDoor.Pvm
open Go
theorem beq10 (c : UInt8) : ((c.toNat : Int) != 10) = !(c == 10) := u8_bne c 10 (by omega)
theorem getB (t : List UInt8) (n : Nat) (d : Int) (h : n < t.length) : (toBytes t).getD n d = ((t.getD n 0).toNat : Int) := by
  simp [toBytes, List.getD, h]
theorem bad_at (b : Bool) (c : UInt8) : (bif (bif b then true else decide ((c.toNat : Int) < 32)) then true else (c.toNat : Int) == 127) = (b || bad c) := by
  have h1 : decide ((c.toNat : Int) ≥ 0) = true := dec_t (by omega)
  unfold bad oddP
  rw [h1, cond_true]
  cases b <;> cases decide ((c.toNat : Int) < 32) <;> cases ((c.toNat : Int) == 127) <;> rfl
def finL (k : Nat) {R : Type} (J : List Row → Option R) (K : List Row → Int → Int → Option R) (acc : List Row) (no : Nat) (p : List UInt8) : Option R :=
  match stS (lt32 p) k 0 with
  | none => K [] 3 (no : Int)
  | some e => J (acc ++ rowL k no p e)
theorem wq106 (k no : Nat) (acc : List Row) (hk : 0 < k) : linesS k [[]] no acc = (acc, 0, 0) := by
  obtain ⟨m, rfl⟩ : ∃ m, k = m + 1 := ⟨k - 1, by omega⟩
  rw [linesS]
  have h1 : stS (lt32 []) (m + 1) 0 = some 0 := rfl
  have h2 : ([] : List UInt8).any bad = false := rfl
  rw [h1, h2]
  show linesS (m + 1) [] (no + 1) (acc ++ []) = _
  rw [linesS, List.append_nil]
end Go.Proofs.YtpfbdepoammjmaaDoor.Pvm

namespace Go.Proofs.YtpfbdepoammjmaaDoor.Pvm
open Go
theorem wqwq (k : Nat) : ∀ (ps : List (List UInt8)) (no : Nat) (acc : List Row), (linesS k ps no acc).1.length ≤ acc.length + ps.length
  | [], no, acc => by simp [linesS]
  | p :: ps, no, acc => by
    rw [linesS]
    cases p.any bad with
    | true => simp
    | false =>
      cases stS (lt32 p) k 0 with
      | none => simp
      | some e =>
        have := wqwq k ps (no + 1) (acc ++ rowL k no p e)
        have h2 := rowL_len k no p e
        simp only [cond_false, List.length_append, List.length_cons] at this ⊢
        omega
end Go.Proofs.YtpfbdepoammjmaaDoor.Pvm

namespace Go.Proofs.YtpfbdepoammjmaaDoor.Pvm
open Go
theorem allS_len : ∀ (ls : List Ln) (out : List Pc), (allS ls out).1.length ≤ out.length + total ls
  | [], out => by simp [allS, total]
  | l :: r, out => by
    rw [allS, total]
    have h := rowR_len l.1 l.2.1 l.2.2
    cases (rowR l.1 l.2.1 l.2.2).2.1 != 0 with
    | true => simp
    | false =>
      simp only [cond_false]
      have := allS_len r (out ++ (rowR l.1 l.2.1 l.2.2).1)
      rw [List.length_append] at this
      omega
def sumL (ps : List (List UInt8)) : Nat := (ps.map List.length).sum
theorem spl_sum : ∀ s : List UInt8, sumL (spl s) ≤ s.length
  | [] => by simp [spl, sumL]
  | x :: r => by
    have := spl_sum r
    rw [spl]
    cases x == 10 with
    | true => simp [sumL] at this ⊢; omega
    | false =>
      cases h : spl r with
      | nil => simp [sumL]
      | cons p ps => rw [h] at this; simp [sumL] at this ⊢; omega
theorem rt_len (l : List UInt8) : (rt l).length ≤ l.length := by
  unfold rt
  rw [List.length_reverse]
  have := (List.dropWhile_suffix (p := (· == (32 : UInt8))) (l := l.reverse)).length_le
  simpa using this
theorem wqyh : ∀ a b : List Ln, total (a ++ b) = total a + total b
  | [], b => by simp [total]
  | x :: a, b => by rw [List.cons_append, total, total, wqyh a b]; omega
theorem wqrp (k : Nat) : ∀ (ps : List (List UInt8)) (no : Nat) (acc : List Row), total (linesS k ps no acc).1 ≤ total acc + sumL ps
  | [], no, acc => by simp [linesS]
  | p :: ps, no, acc => by
    rw [linesS]
    have hs : sumL (p :: ps) = p.length + sumL ps := by simp [sumL]
    cases p.any bad with
    | true => simp [total]
    | false =>
      cases stS (lt32 p) k 0 with
      | none => simp [total]
      | some e =>
        simp only [cond_false]
        have := wqrp k ps (no + 1) (acc ++ rowL k no p e)
        rw [wqyh] at this
        have h2 : total (rowL k no p e) ≤ p.length := by
          unfold rowL
          cases rt ((lt32 p).take e) == [] with
          | true => simp [total]
          | false =>
            have h3 := rt_len ((lt32 p).take e)
            have h4 := lt32_len p
            rw [List.length_take] at h3
            simp only [cond_false, total]
            omega
        omega
def docS (z : List Row × Int × Int) : RsO :=
  bif z.2.1 != 0 then .inl (z.2.1, z.2.2) else bif (allS z.1 []).2.1 != 0 then .inl ((allS z.1 []).2.1, (allS z.1 []).2.2) else ofS (allS z.1 []).1
theorem wqrq (k : Nat) {R : Type} (s : List UInt8) (hs : s.length ≤ 16384) (hk : 200000 < k) (K : List Nd → Int → Int → Option R) : wq8t k (toBytes s) K = outD K (docS (linesS k (spl s) 1 [])) := by
  unfold wq8t wqni
  have h1 := spl_len s
  have h2 := wqwq k (spl s) 1 []
  have h3 := wqrp k (spl s) 1 []
  have h4 := spl_sum s
  have h5 := allS_len (linesS k (spl s) 1 []).1 []
  simp only [List.length_nil, total] at h2 h3 h5
  rw [wqod k s (by omega), dec_f (by omega), cond_false, docS]
  dsimp only
  cases hz : (linesS k (spl s) 1 []).2.1 != 0 with
  | true => rfl
  | false =>
    simp only [cond_false]
    rw [wq101 k _ _ (by omega) (by omega) (by omega) (by omega)]
    cases hy : (allS (linesS k (spl s) 1 []).1 []).2.1 != 0 with
    | true => rfl
    | false =>
      simp only [cond_false]
      exact wqye k _ (by omega) (by omega) K
theorem wqrr (k : Nat) {R : Type} (s : List UInt8) (hs : s.length < 200) (hk : 200000 < k) (K : List Nd → Int → Int → Option R) : wq8t k (toBytes s) K = outD K (docS (linesS 200 (spl s) 1 [])) := by
  rw [wqrq k s (by omega) hk, wqnr k 200 (spl s) 1 [] fun p hp => by have := spl_mem s p hp; omega]
theorem wqrs (k : Nat) {R : Type} (hk : 200000 < k) (K : Bool → Option R) : wq6p k K = K true := by
  unfold wq6p wqhv
  have e1 : docS (linesS 200 (spl [97, 58, 32, 98]) 1 []) = .inr [(3, 1, [], false, [[97]], [1]), (1, 1, [98], false, [], [])] := by kernel_rfl
  have e2 : docS (linesS 200 (spl [97, 58]) 1 []) = .inl (10, 1) := by kernel_rfl
  have t1 : ([97, 58, 32, 98] : List Int) = toBytes [97, 58, 32, 98] := rfl
  have t2 : ([97, 58] : List Int) = toBytes [97, 58] := rfl
  have h1 := wqrr k (R := R) [97, 58, 32, 98] (by simp) hk
  have h2 := wqrr k (R := R) [97, 58] (by simp) hk
  rw [e1] at h1
  rw [e2] at h2
  refine (h1 _).trans ?_
  refine (h2 _).trans ?_
  have h3 := wqye k (R := R) [] (by simp) (by simp; omega)
  refine (h3 _).trans ?_
  have e3 : (((0 : Int) == 0 && (0 : Int) == 0) == true) = true := rfl
  simp only [outD, ofS, e3, cond_true]
  rw [Alike_eq k _ _ (by simp) (by intro y hy; simp at hy; rcases hy with rfl | rfl <;> simp) (by omega) (by simp; omega)]
  rfl
end Go.Proofs.YtpfbdepoammjmaaDoor.Pvm

namespace Go.Proofs.YtpfbdepoammjmaaDoor.Pvm
open Go
abbrev pM : List UInt8 := [45, 32, 97]
theorem wq10z (n : Nat) : repS [45, 32, 97, 10] (n + 1) = pM ++ 10 :: repS [45, 32, 97, 10] n := rfl
theorem wq110 (l z : List UInt8) (h : (10 : UInt8) ∉ l) : spl (l ++ 10 :: z) = l :: spl z := by
  induction l with
  | nil => simp [spl]
  | cons x l ih =>
    have hx : (x == 10) = false := by
      have : x ≠ 10 := fun e => h (by rw [e]; exact List.mem_cons_self)
      simpa using this
    rw [List.cons_append, spl, hx, cond_false, ih fun hm => h (List.mem_cons_of_mem _ hm)]
theorem splM : ∀ n, spl (repS [45, 32, 97, 10] n) = List.replicate n pM ++ [[]]
  | 0 => rfl
  | n + 1 => by rw [wq10z, wq110 _ _ (by simp), splM n]; rfl
def rowsM : Nat → Nat → List Row
  | _, 0 => []
  | no, n + 1 => ((no : Int), ((0 : Int), pM)) :: rowsM (no + 1) n
theorem stM (k : Nat) (hk : 200 < k) : stS (lt32 pM) k 0 = some 3 := by
  have h : lt32 pM = pM := rfl
  rw [h, stS_fuel pM k 200 0 (by simp; omega) (by simp) (by simp)]
  rfl
theorem rowM (k no : Nat) : rowL k no pM 3 = [((no : Int), ((0 : Int), pM))] := rfl
theorem linesM (k : Nat) (hk : 200 < k) : ∀ (n no : Nat) (acc : List Row), linesS k (List.replicate n pM ++ [[]]) no acc = (acc ++ rowsM no n, 0, 0)
  | 0, no, acc => by
    have := wq106 k no acc (by omega)
    simpa [rowsM] using this
  | n + 1, no, acc => by
    rw [List.replicate_succ, List.cons_append, linesS]
    have hb : pM.any bad = false := by decide +kernel
    rw [hb, stM k hk]
    simp only [cond_false]
    rw [rowM, linesM k hk n (no + 1), rowsM, List.append_assoc]
    rfl
def pcsM : Nat → Nat → List Pce
  | _, 0 => []
  | no, n + 1 => (1, (no : Int), 0, [], false) :: (3, (no : Int), 2, [97], false) :: pcsM (no + 1) n
theorem rowRM (no : Int) : rowR no 0 pM = ([(1, no, 0, [], false), (3, no, 2, [97], false)], 0, 0) := rfl
theorem allM : ∀ (n no : Nat) (out : List Pc), allS (rowsM no n) out = (out ++ pcsM no n, 0, 0)
  | 0, no, out => by simp [rowsM, pcsM, allS]
  | n + 1, no, out => by
    rw [rowsM, allS]
    dsimp only
    rw [rowRM]
    have : ((0 : Int) != 0) = false := rfl
    dsimp only
    rw [this, cond_false, allM n (no + 1), pcsM, List.append_assoc]
    rfl
theorem pcsM_len : ∀ n no, (pcsM no n).length = 2 * n
  | 0, no => rfl
  | n + 1, no => by rw [pcsM, List.length_cons, List.length_cons, pcsM_len n]; omega
theorem kidsM : ∀ (m i f : Nat) (nd : List Nd) (kids : List Int), 2 * m + 1 ≤ f → nd.length = i + 1 → i + 1 ≤ 2000 →
    (i + m + 1 ≤ 2000 → ∃ nd', kidsS f 1 1 0 0 1 (pcsM (i + 1) m) nd [] kids = .inr ([], nd') ∧ nd'.length = i + m + 1) ∧ (2000 < i + m + 1 → kidsS f 1 1 0 0 1 (pcsM (i + 1) m) nd [] kids = .inl (9, 2000))
  | 0, i, f, nd, kids, hf, hn, hi => by
    obtain ⟨f, rfl⟩ : ∃ f', f = f' + 1 := ⟨f - 1, by omega⟩
    refine ⟨fun _ => ⟨_, by rw [wqcj]; rfl, by rw [List.length_set]; omega⟩, fun h => by omega⟩
  | m + 1, i, f, nd, kids, hf, hn, hi => by
    obtain ⟨f, rfl⟩ : ∃ f', f = f' + 1 + 1 := ⟨f - 2, by omega⟩
    have key : kidsS (f + 1 + 1) 1 1 0 0 1 (pcsM (i + 1) (m + 1)) nd [] kids = bif decide (2000 ≤ nd.length) then .inl (9, ((i + 1 : Nat) : Int)) else kidsS (f + 1) 1 1 0 0 1 (pcsM (i + 1 + 1) m) (nd ++ [(1, ((i + 1 : Nat) : Int), [97], false, [], [])]) [] (kids ++ [(nd.length : Int)]) := by
      rw [wqcj, pcsM]
      have h1 : nextS ((1, ((i + 1 : Nat) : Int), 0, [], false) :: (3, ((i + 1 : Nat) : Int), 2, [97], false) :: pcsM (i + 1 + 1) m) 1 0 = true := rfl
      rw [h1, cond_true]
      dsimp only
      have h2 : ((1 : Int) == 2 && anyK [] []) = false := rfl
      have h3 : deepS ((3, ((i + 1 : Nat) : Int), 2, [97], false) :: pcsM (i + 1 + 1) m) 0 = true := rfl
      rw [h2, cond_false, h3, cond_true, blkS]
      dsimp only
      have h4 : (decide ((3 : Int) < 1) || decide ((3 : Int) > 3)) = false := rfl
      have h5 : decide (24 < 1 + 1) = false := rfl
      have h6 : ((3 : Int) == 3) = true := rfl
      rw [h4, cond_false, h5, cond_false, h6, cond_true]
      cases decide (2000 ≤ nd.length) <;> rfl
    rw [key]
    by_cases hb : i + 1 + 1 ≤ 2000
    · rw [dec_f (by omega), cond_false]
      obtain ⟨a, b⟩ := kidsM m (i + 1) (f + 1) (nd ++ [(1, ((i + 1 : Nat) : Int), [97], false, [], [])]) (kids ++ [(nd.length : Int)]) (by omega) (by simp; omega) (by omega)
      refine ⟨fun h => ?_, fun h => b (by omega)⟩
      obtain ⟨nd', h1, h2⟩ := a (by omega)
      exact ⟨nd', h1, by omega⟩
    · rw [dec_t (by omega), cond_true]
      have : i + 1 = 2000 := by omega
      refine ⟨fun h => by omega, fun _ => by rw [this]; rfl⟩
theorem ofM (n : Nat) (hn : 1 ≤ n) : (n + 1 ≤ 2000 → ∃ nd, ofS (pcsM 1 n) = .inr nd ∧ nd.length = n + 1) ∧ (2000 < n + 1 → ofS (pcsM 1 n) = .inl (9, 2000)) := by
  obtain ⟨m, rfl⟩ : ∃ m, n = m + 1 := ⟨n - 1, by omega⟩
  have hlen := pcsM_len (m + 1) 1
  have hb : ∀ F, blkS (F + 1) (pcsM 1 (m + 1)) [] 1 = kidsS F 1 1 0 0 1 (pcsM 1 (m + 1)) [(0, 1, [], false, [], [])] [] [] := by
    intro F
    rw [pcsM, blkS]
    have h4 : (decide ((1 : Int) < 1) || decide ((1 : Int) > 3)) = false := rfl
    have h5 : decide (24 < 1) = false := rfl
    have h6 : ((1 : Int) == 3) = false := rfl
    have h7 : decide (2000 ≤ ([] : List Nd).length) = false := rfl
    dsimp only
    rw [h4, cond_false, h5, cond_false, h7, cond_false, h6, cond_false]
    rfl
  have hof : ∀ r : RsD, blkS (2 * (pcsM 1 (m + 1)).length + 2) (pcsM 1 (m + 1)) [] 1 = r → ofS (pcsM 1 (m + 1)) = (match r with
      | .inl e => .inl e
      | .inr p => match p.1 with
        | [] => .inr p.2
        | y :: _ => .inl (6, y.2.1)) := by
    intro r hr
    subst hr
    rfl
  obtain ⟨a, b⟩ := kidsM (m + 1) 0 (2 * (pcsM 1 (m + 1)).length + 1) [(0, 1, [], false, [], [])] [] (by omega) rfl (by omega)
  rw [show 0 + 1 = 1 from rfl] at a b
  constructor
  · intro h
    obtain ⟨nd, h1, h2⟩ := a (by omega)
    exact ⟨nd, by rw [hof _ ((hb _).trans h1)], by omega⟩
  · intro h
    rw [hof _ ((hb _).trans (b (by omega)))]
theorem wqzc (x : Int) : ∃ k, wq7k k x (fun b => some b) = some true := by
  obtain ⟨k, hk⟩ : ∃ k : Nat, k = 300000 := ⟨_, rfl⟩
  refine ⟨k, ?_⟩
  unfold wq7k wqdz
  by_cases h : x < 1 ∨ x > 2100
  · have : (bif decide (x < 1) then true else decide (x > 2100)) = true := by rw [Bool.cond_true_left]; simpa using h
    rw [this, cond_true, wqrs k (by omega)]
  · have : (bif decide (x < 1) then true else decide (x > 2100)) = false := by
      rw [Bool.cond_true_left, Bool.or_eq_false_iff, decide_eq_false_iff_not, decide_eq_false_iff_not]
      omega
    obtain ⟨n, rfl⟩ : ∃ n : Nat, x = n := ⟨x.toNat, by omega⟩
    have hrep : ∀ K : List UInt8 → Option Bool, wq6q k [45, 32, 97, 10] (n : Int) K = K (repS [45, 32, 97, 10] n) := by
      intro K
      unfold wq6q
      rw [dec_t (by omega : (0 : Int) ≤ (n : Int)), dec_t (by omega : (n : Int) ≤ 1000000), dec_t (by simp : ([45, 32, 97, 10] : List UInt8).length ≤ 1000000)]
      rfl
    have hl : (repS [45, 32, 97, 10] n).length = n * 4 := Lib.repeatL_length [45, 32, 97, 10] n
    have hw : IntKind.i64.wrap ((n : Int) + 1) = ((n + 1 : Nat) : Int) := by rw [wrap_id (by omega) (by omega)]; omega
    rw [this, cond_false, hrep, wqrq k _ (by omega) (by omega), splM, linesM k (by omega), hw]
    have hd : docS ([] ++ rowsM 1 n, (0 : Int), (0 : Int)) = ofS (pcsM 1 n) := by
      unfold docS
      dsimp only
      rw [List.nil_append, allM]
      rfl
    rw [hd]
    obtain ⟨a, b⟩ := ofM n (by omega)
    by_cases hb : n + 1 ≤ 2000
    · obtain ⟨nd, h1, h2⟩ := a hb
      have d1 : decide (((n + 1 : Nat) : Int) > 2000) = false := dec_f (by omega)
      have d2 : ((((nd.length : Nat) : Int) == ((n + 1 : Nat) : Int))) = true := by rw [h2]; simp
      rw [h1]
      simp only [outD, d1, d2, cond_true, cond_false, beq_self_eq_true, Bool.and_self]
      rw [wqrs k (by omega)]
    · have d1 : decide (((n + 1 : Nat) : Int) > 2000) = true := dec_t (by omega)
      rw [b (by omega)]
      simp only [outD, d1, cond_true, cond_false, beq_self_eq_true, Bool.and_self]
      rw [wqrs k (by omega)]
      rfl
theorem wqxp (x : (Kd.int .i64).T) (_ : Wf (.int .i64) x) : ∃ k, wq7k k x (fun b => some b) = some true := wqzc x
end Go.Proofs.YtpfbdepoammjmaaDoor.Pvm

namespace Go.Proofs.YtpfbdepoammjmaaDoor.docMany
open Go Go.Proofs Go.ChangeShapes Go.WideShapes Go.ChangeAt Go.RowKit Go.Proofs.YtpfbdepoammjmaaDoor.Pvm
theorem own : ownKnob Tryd.prog.godebug = none := by kernel_rfl
theorem laidOut : laidOutB Tryd.prog = true := by kernel_rfl
set_option maxRecDepth 100000 in
theorem lifted (os : Os) (started : os.Started) (H : Type) (enc : TypeId × Value → H) :
    ReturnsInHanded {} Tryd.checked os 6 .any (fun w args => (Rows.docManySpec.pre enc Tryd.prog Tryd.f6 Rows.docManyRow.domain false w args ∧ laidMetH Tryd.prog Rows.docManyRow.laid w) ∧ sizedMet enc Tryd.prog Tryd.f6 (OpenSpec.ofChange Rows.docManySpec) false w args) (Rows.docManySpec.post enc Tryd.prog Tryd.f6 false true false false) := by
  refine returnsInHanded_of_change_and (C := Tryd.checked) (X := fun w _ => laidMetH Tryd.prog Rows.docManyRow.laid w) (fun _ _ _ hh h => h.of_heap hh) own started (by kernel_rfl) Tryd.func6
    (ChangeSpec.witness_shaped (enc := enc) (C := Tryd.checked) (os := os) (X := fun w _ => laidMetH Tryd.prog Rows.docManyRow.laid w) false (World.laidAll Tryd.prog os Rows.docManyRow.laid) #[.int .i64 0] 8 (World.laidAll_os _ _ _)
      (World.shaped_of_ZipB (by kernel_rfl) (by kernel_rfl)) (by kernel_rfl) (by kernel_rfl) (by kernel_rfl)
      (by rw [MakeChecks.laidMetH_plain _ _ _ (by kernel_rfl)]; exact laidMet_laidAll _ (by kernel_rfl) (by kernel_rfl))) ?_
  intro W base args ds gs before hval0 hW hcnd hsz0 hL _
  have hsz : (DataW.weightsEach Tryd.prog (Tryd.f6.params.toList ++ Rows.docManySpec.plain.varTypes Tryd.prog) (ds ++ gs)).all (· ≤ reachBytes) = true := hsz0
  have hval : ∀ (j : Nat) t v, Tryd.f6.params[j]? = some t → args[j]? = some v → Value.okWide Tryd.prog W .any base t v := hval0
  have hW' := hW
  obtain ⟨p, q, hA0, hV, rfl, hfz, hnd⟩ := hW
  have hA : DataW.TrodAll enc Tryd.prog W 0 (fun _ => true) true Tryd.f6.params.toList args.toList ds p := hA0
  rw [Tryd.params6] at hA hval hsz
  obtain ⟨v0, vs0, d0, ds0, p0, q0, hargs, rfl, rfl, h0, r0⟩ := trodAll_cons hA
  obtain ⟨rfl, rfl, rfl⟩ := trodAll_nil r0
  obtain rfl : args = #[v0] := by cases args; simp_all
  obtain ⟨rfl, rfl⟩ := trodVars_none hV
  have hws := wqzv (P := Tryd.prog) hsz
  have k0 := h0
  have lt0 : ∀ x ∈ p0, x.block < W.heap.size := by obtain ⟨m, hm⟩ := k0; exact DataW.trod_lt m _ _ _ hm
  obtain ⟨x0, wf0, rv0⟩ := arg_data tyT_ok (n := 9) (K := (.int .i64)) (by kernel_rfl) (by kernel_rfl) (hval 0 3 v0 rfl rfl) h0 (hws 0 3 d0 rfl rfl) (h := mkH []) (G := G0) (fun _ => rfl) (fun _ h => h)
  obtain ⟨k, hk⟩ := wqxp x0 wf0
  have hrun : wqbe k [.v (.int .i64) x0] [] lawK = some true := hk
  refine (wqy7 (fn := Tryd.f6) (c := Tryd.f6.body.getD .skip) (by kernel_rfl) (by kernel_rfl) (by kernel_rfl) (wqst k hrun) (vals := [v0]) ⟨v0, _, rfl, rv0, rfl⟩).mono fun e W' ⟨he, bel⟩ => ?_
  subst he
  exact ⟨_, rfl, _, _, _, [], _, [], hW', trodAll_mk1 (shut_bool Tryd.underlying4 _), (trodAll_cons_mk (Below.trod laidOut (by kernel_rfl) (of_decide_eq_true (by kernel_rfl)) k0 bel lt0) trodAll_mk0), rfl, bel.frame _, fun h => by cases h⟩
theorem over : Rows.docManyRow.holds Tryd.pinned (OpenSpec.ofChange Rows.docManySpec) :=
  OpenClaim.holds_of_wide 6 Tryd.f6 rfl rfl rfl rfl rfl rfl rfl ⟨rfl, rfl, rfl, rfl, rfl⟩ rfl rfl rfl rfl rfl (by kernel_rfl) Tryd.func6 (by kernel_rfl)
    (of_decide_eq_true (by kernel_rfl)) (by unfold Func.isWrapper; first | (rw [if_pos (by decide +kernel)]; kernel_rfl) | (rw [if_neg (by decide +kernel)]; exact ⟨rfl, rfl⟩))
    (fun os started H enc _ => lifted os started H enc)
theorem tied : Rows.DocManyCardSaid :=
  Claim7.holds_tied_plain_at .later [] [.data, .pinned] true (true, "e01bf8616d847be485c73ece21dbb6dd4f3cbee608a59a135cfcb8ddf55e8325") true over (fun _ h => by cases h) (by kernel_rfl) (fun _ h => by cases h) docMany_row_tie rfl ⟨rfl, rfl⟩ (by kernel_rfl) rfl
    (fun f fn hf hfn => by
      obtain rfl : f = 6 := Option.some.inj ((show Tryd.prog.funcNamed Rows.docManyRow.func = some 6 by kernel_rfl).symm.trans hf) |>.symm
      obtain rfl : fn = Tryd.f6 := (Option.some.inj (Tryd.func6.symm.trans hfn)).symm
      exact ⟨by kernel_rfl, fun j t ht => by
        rw [Tryd.params6] at ht
        have hm : t ∈ [3] := by simpa using Array.mem_of_getElem? ht
        have hall : ([3].all fun u => !Tryd.prog.wantsStandIn u) = true := by kernel_rfl
        exact (show Tryd.prog.wantsStandIn t = false by simpa using List.all_eq_true.1 hall t hm)⟩)
    (by kernel_rfl)
#print axioms tied
end Go.Proofs.YtpfbdepoammjmaaDoor.docMany
namespace Go.Proofs.YtpfbdepoammjmaaDoor
theorem docMany_holds : Rows.DocManyCardSaid := docMany.tied
end Go.Proofs.YtpfbdepoammjmaaDoor
