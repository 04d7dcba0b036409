/- The Go function DocShift answers true for every text and every number, on any machine and under any order of evaluation that Go allows; with no condition besides the statement's own, the card's own ties to the pruned copy of the project included. -/
import Derived.Test.YtpfbdepoammjmaaGreatDoorChecked
import Derived.WalkKit
import Derived.WalkSpells
import Derived.WalkLawsBesides
import Derived.Lib.Builder
import Derived.Lib.AppendStr
import Derived.Lib.UnsafeStr
import Derived.Laws.Externs
import Derived.Shelf.RegionOpenPlain
import Derived.Deep.Heap
import Derived.Lib.BytesEntry
import Derived.Lib.Bytealg
import Derived.Shelf.GgClosure.StringsIndexFuncTop
import Derived.Shelf.Strings.FuncGrows
import Derived.Lib.MakeNoZero
import Derived.Laws.IdiomCopy
import Derived.Shelf.Strings.Repeat
import Derived.Lib.TrimU
import Derived.Test.YtpfbdepoammjmaaGreatDoorDocShiftM0
import Derived.Test.YtpfbdepoammjmaaGreatDoorDocShiftM1
import Derived.Test.YtpfbdepoammjmaaGreatDoorDocShiftM2
set_option linter.unusedVariables false
set_option linter.unusedSimpArgs false
set_option linter.unusedSectionVars false
set_option maxRecDepth 1000000
set_option maxHeartbeats 0
namespace Go.Proofs.YtpfbdepoammjmaaGreatDoor.Pvm
open Go Go.Proofs
abbrev wq2w (R : Type) : Type := (Int → Int → (List UInt8) → Int → (List (Int × (Int × (Int × ((List UInt8) × Bool))))) → (List UInt8) → Int → Option R)
abbrev wq2x (R : Type) : Type := (Int → Int → (List UInt8) → Int → (List (Int × (Int × (Int × ((List UInt8) × Bool))))) → Int → Int → Option R)
def wqln : List LS := [.obj 1 [.any, .any, .any, .any, .own 21 97 (.pr (.int .i64) (.pr (.int .i64) (.pr (.int .i64) (.pr .str .bool))))], .any]
noncomputable def wqf4 (k : Nat) : CTab := (CTab.add 40 wq5k (wq31 k) (CTab.add 124 wq5g (wq3j k) (CTab.add 177 wq6k (wq3e k) CTab.nil)))
def wq2f {R : Type} (K : wq2w R) (E : wq2x R) : Out → Option R
  | .ret [.v .str y5, .v (.int .i64) y6] [(21, .row 97 (.pr (.int .i64) (.pr (.int .i64) (.pr (.int .i64) (.pr .str .bool)))) y4), (1, .var 151 [.v (.int .i64) y0, .v (.int .i64) y1, .v .str y2, .v (.int .i64) y3, .row 21])] => K y0 y1 y2 y3 y4 y5 y6
  | .pan (.ifc 28 (.agg [.v (.int .i64) z5, .v (.int .i64) z6])) [(21, .row 97 (.pr (.int .i64) (.pr (.int .i64) (.pr (.int .i64) (.pr .str .bool)))) z4), (1, .var 151 [.v (.int .i64) z0, .v (.int .i64) z1, .v .str z2, .v (.int .i64) z3, .row 21])] => E z0 z1 z2 z3 z4 z5 z6
  | _ => none
def wq3m : RetSpec := ⟨[.any, .any], [(1, .obj 1 [.any, .any, .any, .any, .own 21 97 (.pr (.int .i64) (.pr (.int .i64) (.pr (.int .i64) (.pr .str .bool))))])], [(1, .obj 1 [.any, .any, .any, .any, .own 21 97 (.pr (.int .i64) (.pr (.int .i64) (.pr (.int .i64) (.pr .str .bool))))])]⟩
def wqjl : List (Nat × CutSpec) := [(1003, ⟨[(0, .obj 1 [.any, .any, .any, .any, .own 21 97 (.pr (.int .i64) (.pr (.int .i64) (.pr (.int .i64) (.pr .str .bool))))]), (1, .any), (6, .obj 16 [.nps 16, .own 36 5 (.int .u8)]), (7, .any)], [(1, .obj 1 [.any, .any, .any, .any, .own 21 97 (.pr (.int .i64) (.pr (.int .i64) (.pr (.int .i64) (.pr .str .bool))))])]⟩)]
def wqhw : List (Nat × Plan) := []
noncomputable def wqn (k : Nat) : Ctx := ⟨tyT, wqjl, wqf4 k, [], [1], wqhw, @SH⟩
noncomputable def wq16 : Code := Tryz.f160.body.getD .skip
def wq2q (s0 s1 : Int) (s2 : (List UInt8)) (s3 : Int) (s4 : (List (Int × (Int × (Int × ((List UInt8) × Bool)))))) (s5 : (List UInt8)) (s6 : (List Int)) (s7 : Int) : St := ⟨mkT [(0, .ptr 1 0), (1, .v .str s5), (6, .ptr 16 0), (7, .v (.int .i64) s7)], mkH [(21, .row 97 (.pr (.int .i64) (.pr (.int .i64) (.pr (.int .i64) (.pr .str .bool)))) s4), (1, .var 151 [.v (.int .i64) s0, .v (.int .i64) s1, .v .str s2, .v (.int .i64) s3, .row 21]), (36, .row 5 (.int .u8) s6), (16, .var 85 [.nps 16, .row 36])]⟩
noncomputable def wq3w (k : Nat) {R : Type} (E1003 : (Int → Int → (List UInt8) → Int → (List (Int × (Int × (Int × ((List UInt8) × Bool))))) → (List UInt8) → (List Int) → Int → Option R)) (s0 s1 : Int) (s2 : (List UInt8)) (s3 : Int) (s4 : (List (Int × (Int × (Int × ((List UInt8) × Bool)))))) (s5 : (List UInt8)) (s6 : (List Int)) (s7 : Int) (K : wq2w R) (E : wq2x R) : Option R := (@cond (@Option R) (@Decidable.decide (@LT.lt Int Int.instLTInt s7 (@Nat.cast Int instNatCastInt (@List.length UInt8 s5))) (@Int.decLt s7 (@Nat.cast Int instNatCastInt (@List.length UInt8 s5)))) (@cond (@Option R) (@inb s7 (@Nat.cast Int instNatCastInt (@List.length UInt8 s5))) (@cond (@Option R) (@bne Int (@instBEqOfDecidableEq Int @Int.instDecidableEq) (@Nat.cast Int instNatCastInt (@UInt8.toNat (@List.getD UInt8 s5 (@Int.toNat s7) (0 : UInt8)))) (39 : Int)) (@cond (@Option R) (@inb s7 (@Nat.cast Int instNatCastInt (@List.length UInt8 s5))) (@wq1i k R s6 (@Nat.cast Int instNatCastInt (@UInt8.toNat (@List.getD UInt8 s5 (@Int.toNat s7) (0 : UInt8)))) (fun y13 => (E1003 s0 s1 s2 s3 s4 s5 y13 (@Go.IntKind.wrap Go.IntKind.i64 (@HAdd.hAdd Int Int Int (@instHAdd Int @Int.instAdd) s7 (1 : Int)))))) (@Option.none R)) (@cond (@Option R) (@Bool.or (@Bool.not (@BEq.beq (@Kd.T Kd.bool) (@instBEqOfDecidableEq (@Kd.T Kd.bool) @instDecidableEqBool) (@Decidable.decide (@GE.ge Int Int.instLEInt (@Go.IntKind.wrap Go.IntKind.i64 (@HAdd.hAdd Int Int Int (@instHAdd Int @Int.instAdd) s7 (1 : Int))) (@Nat.cast Int instNatCastInt (@List.length UInt8 s5))) (@Int.decLe (@Nat.cast Int instNatCastInt (@List.length UInt8 s5)) (@Go.IntKind.wrap Go.IntKind.i64 (@HAdd.hAdd Int Int Int (@instHAdd Int @Int.instAdd) s7 (1 : Int))))) Bool.false)) (@inb (@Go.IntKind.wrap Go.IntKind.i64 (@HAdd.hAdd Int Int Int (@instHAdd Int @Int.instAdd) s7 (1 : Int))) (@Nat.cast Int instNatCastInt (@List.length UInt8 s5)))) (@cond (@Option R) (@cond (@Kd.T Kd.bool) (@Decidable.decide (@GE.ge Int Int.instLEInt (@Go.IntKind.wrap Go.IntKind.i64 (@HAdd.hAdd Int Int Int (@instHAdd Int @Int.instAdd) s7 (1 : Int))) (@Nat.cast Int instNatCastInt (@List.length UInt8 s5))) (@Int.decLe (@Nat.cast Int instNatCastInt (@List.length UInt8 s5)) (@Go.IntKind.wrap Go.IntKind.i64 (@HAdd.hAdd Int Int Int (@instHAdd Int @Int.instAdd) s7 (1 : Int))))) Bool.true (@bne Int (@instBEqOfDecidableEq Int @Int.instDecidableEq) (@Nat.cast Int instNatCastInt (@UInt8.toNat (@List.getD UInt8 s5 (@Int.toNat (@Go.IntKind.wrap Go.IntKind.i64 (@HAdd.hAdd Int Int Int (@instHAdd Int @Int.instAdd) s7 (1 : Int)))) (0 : UInt8)))) (39 : Int))) (@wq26 k R s6 (fun y13 y14 => (K s0 s1 s2 s3 s4 y14 (@Go.IntKind.wrap Go.IntKind.i64 (@HAdd.hAdd Int Int Int (@instHAdd Int @Int.instAdd) s7 (1 : Int)))))) (@wq1i k R s6 (39 : Int) (fun y13 => (E1003 s0 s1 s2 s3 s4 s5 y13 (@Go.IntKind.wrap Go.IntKind.i64 (@HAdd.hAdd Int Int Int (@instHAdd Int @Int.instAdd) (@Go.IntKind.wrap Go.IntKind.i64 (@HAdd.hAdd Int Int Int (@instHAdd Int @Int.instAdd) s7 (1 : Int))) (1 : Int))))))) (@Option.none R))) (@Option.none R)) (@wqa k R s0 s1 s2 s3 s4 (3 : Int) (fun y13 y14 y15 y16 y17 => (K y13 y14 y15 y16 y17 [] (0 : Int))) (fun y13 y14 y15 y16 y17 y18 y19 => (E y13 y14 y15 y16 y17 y18 y19))))
theorem wqe4 (k : Nat) {R : Type} (I : Nat → St → Option R) (s0 s1 : Int) (s2 : (List UInt8)) (s3 : Int) (s4 : (List (Int × (Int × (Int × ((List UInt8) × Bool)))))) (s5 : (List UInt8)) (s6 : (List Int)) (s7 : Int) (K : wq2w R) (E : wq2x R) : execK (wqn k) k (at_ [1, 1, 0, 1, 0, 0] wq16) (wq2q s0 s1 s2 s3 s4 s5 s6 s7) (konts (wqn k) k I [1, 1, 0, 1, 0, 0] wq16 (outK (wqn k) wq3m [.tmp 4, .tmp 5] (wq2f K E))) = wq3w k (fun s0 s1 s2 s3 s4 s5 s6 s7 => I 1003 (wq2q s0 s1 s2 s3 s4 s5 s6 s7)) s0 s1 s2 s3 s4 s5 s6 s7 K E := by kernel_rfl
noncomputable def wq75 (k : Nat) {R : Type} (E1003 : (Int → Int → (List UInt8) → Int → (List (Int × (Int × (Int × ((List UInt8) × Bool))))) → (List UInt8) → (List Int) → Int → Option R)) (x0 x1 : Int) (x2 : (List UInt8)) (x3 : Int) (x4 : (List (Int × (Int × (Int × ((List UInt8) × Bool)))))) (x5 : (List UInt8)) (K : wq2w R) (E : wq2x R) : Option R := (E1003 x0 x1 x2 x3 x4 x5 [] (1 : Int))
theorem wqjm (k : Nat) {R : Type} (I : Nat → St → Option R) (x0 x1 : Int) (x2 : (List UInt8)) (x3 : Int) (x4 : (List (Int × (Int × (Int × ((List UInt8) × Bool)))))) (x5 : (List UInt8)) (K : wq2w R) (E : wq2x R) : fnK (wqn k) k wq16 42 [.tmp 4, .tmp 5] wq3m [.ptr 1 0, .v .str x5] [(21, .row 97 (.pr (.int .i64) (.pr (.int .i64) (.pr (.int .i64) (.pr .str .bool)))) x4), (1, .var 151 [.v (.int .i64) x0, .v (.int .i64) x1, .v .str x2, .v (.int .i64) x3, .row 21])] (wq2f K E) = wq75 k (fun s0 s1 s2 s3 s4 s5 s6 s7 => iter (wqn k).pv (look (wqn k).cuts 1003) (execK (wqn k) k (at_ [1, 1, 0, 1, 0, 0] wq16)) k (wq2q s0 s1 s2 s3 s4 s5 s6 s7) (konts (wqn k) k I [1, 1, 0, 1, 0] wq16 (outK (wqn k) wq3m [.tmp 4, .tmp 5] (wq2f K E)))) x0 x1 x2 x3 x4 x5 K E := by kernel_rfl
noncomputable def wq1q (k : Nat) {R : Type}  : Nat → Int → Int → (List UInt8) → Int → (List (Int × (Int × (Int × ((List UInt8) × Bool))))) → (List UInt8) → (List Int) → Int → (Int → Int → (List UInt8) → Int → (List (Int × (Int × (Int × ((List UInt8) × Bool))))) → (List UInt8) → Int → Option R) → (Int → Int → (List UInt8) → Int → (List (Int × (Int × (Int × ((List UInt8) × Bool))))) → Int → Int → Option R) → Option R
  | 0, _, _, _, _, _, _, _, _, _, _ => none
  | n + 1, s0, s1, s2, s3, s4, s5, s6, s7, K, E => wq3w k (fun s0 s1 s2 s3 s4 s5 s6 s7 => wq1q k  n s0 s1 s2 s3 s4 s5 s6 s7 K E) s0 s1 s2 s3 s4 s5 s6 s7 K E
theorem wqe5 (k : Nat) {R : Type} (I : Nat → St → Option R) (K : wq2w R) (E : wq2x R) : ∀ (n : Nat) (s0 s1 : Int) (s2 : (List UInt8)) (s3 : Int) (s4 : (List (Int × (Int × (Int × ((List UInt8) × Bool)))))) (s5 : (List UInt8)) (s6 : (List Int)) (s7 : Int), iter (wqn k).pv (look (wqn k).cuts 1003) (execK (wqn k) k (at_ [1, 1, 0, 1, 0, 0] wq16)) n (wq2q s0 s1 s2 s3 s4 s5 s6 s7) (konts (wqn k) k I [1, 1, 0, 1, 0] wq16 (outK (wqn k) wq3m [.tmp 4, .tmp 5] (wq2f K E))) = wq1q k  n s0 s1 s2 s3 s4 s5 s6 s7 K E := by
  intro n
  induction n with
  | zero => intros; rfl
  | succ n ih =>
    intro s0 s1 s2 s3 s4 s5 s6 s7
    let I' : Nat → St → Option R := fun id s => bif Nat.beq id 1003 then iter (wqn k).pv (look (wqn k).cuts 1003) (execK (wqn k) k (at_ [1, 1, 0, 1, 0, 0] wq16)) n s (konts (wqn k) k I [1, 1, 0, 1, 0] wq16 (outK (wqn k) wq3m [.tmp 4, .tmp 5] (wq2f K E))) else I id s
    have e := wqe4 k I' s0 s1 s2 s3 s4 s5 s6 s7 K E
    have h1003 : (fun s0 s1 s2 s3 s4 s5 s6 s7 => I' 1003 (wq2q s0 s1 s2 s3 s4 s5 s6 s7)) = (fun s0 s1 s2 s3 s4 s5 s6 s7 => wq1q k  n s0 s1 s2 s3 s4 s5 s6 s7 K E) := by funext s0 s1 s2 s3 s4 s5 s6 s7; exact ih s0 s1 s2 s3 s4 s5 s6 s7
    refine Eq.trans (?_ : _ = _) (e.trans (Eq.trans ((congrArg ((fun E1003 => wq3w k E1003 s0 s1 s2 s3 s4 s5 s6 s7 K E)) h1003)) (by rw [wq1q])))
    rfl
noncomputable def wq5s (k : Nat) {R : Type} (x0 x1 : Int) (x2 : (List UInt8)) (x3 : Int) (x4 : (List (Int × (Int × (Int × ((List UInt8) × Bool)))))) (x5 : (List UInt8)) (K : wq2w R) (E : wq2x R) : Option R := wq75 k (fun s0 s1 s2 s3 s4 s5 s6 s7 => wq1q k k s0 s1 s2 s3 s4 s5 s6 s7 K E) x0 x1 x2 x3 x4 x5 K E
theorem wqjn (k : Nat) {R : Type} (x0 x1 : Int) (x2 : (List UInt8)) (x3 : Int) (x4 : (List (Int × (Int × (Int × ((List UInt8) × Bool)))))) (x5 : (List UInt8)) (K : wq2w R) (E : wq2x R) : fnK (wqn k) k wq16 42 [.tmp 4, .tmp 5] wq3m [.ptr 1 0, .v .str x5] [(21, .row 97 (.pr (.int .i64) (.pr (.int .i64) (.pr (.int .i64) (.pr .str .bool)))) x4), (1, .var 151 [.v (.int .i64) x0, .v (.int .i64) x1, .v .str x2, .v (.int .i64) x3, .row 21])] (wq2f K E) = wq5s k x0 x1 x2 x3 x4 x5 K E := by
  let I : Nat → St → Option R := fun _ _ => none
  have h1003 : (fun s0 s1 s2 s3 s4 s5 s6 s7 => iter (wqn k).pv (look (wqn k).cuts 1003) (execK (wqn k) k (at_ [1, 1, 0, 1, 0, 0] wq16)) k (wq2q s0 s1 s2 s3 s4 s5 s6 s7) (konts (wqn k) k I [1, 1, 0, 1, 0] wq16 (outK (wqn k) wq3m [.tmp 4, .tmp 5] (wq2f K E)))) = (fun s0 s1 s2 s3 s4 s5 s6 s7 => wq1q k k s0 s1 s2 s3 s4 s5 s6 s7 K E) := by funext s0 s1 s2 s3 s4 s5 s6 s7; exact wqe5 k I K E k s0 s1 s2 s3 s4 s5 s6 s7
  exact (wqjm k I x0 x1 x2 x3 x4 x5 K E).trans (congrArg ((fun E1003 => wq75 k E1003 x0 x1 x2 x3 x4 x5 K E)) h1003)
noncomputable def wq8v (k : Nat) {R : Type} : List PV → List (Nm × HObj) → (Out → Option R) → Option R
  | [.ptr 1 0, .v .str x5], [(21, .row 97 (.pr (.int .i64) (.pr (.int .i64) (.pr (.int .i64) (.pr .str .bool)))) x4), (1, .var 151 [.v (.int .i64) x0, .v (.int .i64) x1, .v .str x2, .v (.int .i64) x3, .row 21])], K => wq5s k x0 x1 x2 x3 x4 x5 (fun y0 y1 y2 y3 y4 y5 y6 => K (.ret [.v .str y5, .v (.int .i64) y6] [(21, .row 97 (.pr (.int .i64) (.pr (.int .i64) (.pr (.int .i64) (.pr .str .bool)))) y4), (1, .var 151 [.v (.int .i64) y0, .v (.int .i64) y1, .v .str y2, .v (.int .i64) y3, .row 21])])) (fun z0 z1 z2 z3 z4 z5 z6 => K (.pan (.ifc 28 (.agg [.v (.int .i64) z5, .v (.int .i64) z6])) [(21, .row 97 (.pr (.int .i64) (.pr (.int .i64) (.pr (.int .i64) (.pr .str .bool)))) z4), (1, .var 151 [.v (.int .i64) z0, .v (.int .i64) z1, .v .str z2, .v (.int .i64) z3, .row 21])]))
  | _, _, _ => none
theorem wqjo (k : Nat) : (wqf4 k).Ok Tryz.prog := (CTab.add_ok (fun h => wq60 k h) (CTab.add_ok (fun h => wq69 k h) (CTab.add_ok (fun h => wq7f k h) CTab.nil_ok)))
theorem wqo7 (k : Nat) {ps : List PV} {hp : List (Nm × HObj)} {R : Type} {K : Out → Option R} {r : R} (h : wq8v k ps hp K = some r) : DoesTo Tryz.prog 160 ps hp fun out => K out = some r := by
  unfold wq8v at h
  split at h
  · rw [← wqjn] at h
    have := fn_ok (P := Tryz.prog) (cx := wqn k) (f := 160) ⟨tyT_ok, wqjo k, fun _ _ => rfl⟩ (by kernel_rfl) (fn := Tryz.f160) (c := wq16) (by kernel_rfl) (by kernel_rfl) (by kernel_rfl) (rs := [.tmp 4, .tmp 5]) (by kernel_rfl) (by kernel_rfl) h
    exact this.mono fun out ho => by
      unfold wq2f at ho
      split at ho <;> first | exact ho | cases ho
  · cases h
end Go.Proofs.YtpfbdepoammjmaaGreatDoor.Pvm

set_option maxRecDepth 1000000
set_option maxHeartbeats 0
namespace Go.Proofs.YtpfbdepoammjmaaGreatDoor.Pvm
open Go Go.Proofs
def wqo8 : List LS := [.obj 1 [.any, .any, .any, .any, .own 21 97 (.pr (.int .i64) (.pr (.int .i64) (.pr (.int .i64) (.pr .str .bool))))], .any]
noncomputable def wqhx (k : Nat) : CTab := (CTab.add 124 wq5g (wq3j k) (CTab.add 126 wqro (wqfm k) (CTab.add 127 wqdn (wq6i k) (CTab.add 128 wquw (wqiv k) (CTab.add 160 wqln (wq8v k) (CTab.add 161 wqlm (wq8u k) (CTab.add 162 wqc6 (wq5m k) CTab.nil)))))))
def wq9l {R : Type} (K : (Int → Int → (List UInt8) → Int → (List (Int × (Int × (Int × ((List UInt8) × Bool))))) → Option R)) (E : (Int → Int → (List UInt8) → Int → (List (Int × (Int × (Int × ((List UInt8) × Bool))))) → Int → Int → Option R)) : Out → Option R
  | .ret [] [(21, .row 97 (.pr (.int .i64) (.pr (.int .i64) (.pr (.int .i64) (.pr .str .bool)))) y4), (1, .var 151 [.v (.int .i64) y0, .v (.int .i64) y1, .v .str y2, .v (.int .i64) y3, .row 21])] => K y0 y1 y2 y3 y4
  | .pan (.ifc 28 (.agg [.v (.int .i64) z5, .v (.int .i64) z6])) [(21, .row 97 (.pr (.int .i64) (.pr (.int .i64) (.pr (.int .i64) (.pr .str .bool)))) z4), (1, .var 151 [.v (.int .i64) z0, .v (.int .i64) z1, .v .str z2, .v (.int .i64) z3, .row 21])] => E z0 z1 z2 z3 z4 z5 z6
  | _ => none
def wqgr : RetSpec := ⟨[], [(1, .obj 1 [.any, .any, .any, .any, .own 21 97 (.pr (.int .i64) (.pr (.int .i64) (.pr (.int .i64) (.pr .str .bool))))])], [(1, .obj 1 [.any, .any, .any, .any, .own 21 97 (.pr (.int .i64) (.pr (.int .i64) (.pr (.int .i64) (.pr .str .bool))))])]⟩
def wqmz : List (Nat × CutSpec) := []
def wqlo : List (Nat × Plan) := []
noncomputable def wqbx (k : Nat) : Ctx := ⟨tyT, wqmz, wqhx k, [], [1], wqlo, @SH⟩
noncomputable def wq9m : Code := Tryz.f129.body.getD .skip
noncomputable def wqcw (k : Nat) {R : Type}  (x0 x1 : Int) (x2 : (List UInt8)) (x3 : Int) (x4 : (List (Int × (Int × (Int × ((List UInt8) × Bool)))))) (x5 : (List UInt8)) (K : (Int → Int → (List UInt8) → Int → (List (Int × (Int × (Int × ((List UInt8) × Bool))))) → Option R)) (E : (Int → Int → (List UInt8) → Int → (List (Int × (Int × (Int × ((List UInt8) × Bool))))) → Int → Int → Option R)) : Option R := (@cond (@Option R) (@inb (0 : Int) (@Nat.cast Int instNatCastInt (@List.length UInt8 x5))) (@cond (@Option R) (@BEq.beq Int (@instBEqOfDecidableEq Int @Int.instDecidableEq) (@Nat.cast Int instNatCastInt (@UInt8.toNat (@List.getD UInt8 x5 (@Int.toNat (0 : Int)) (0 : UInt8)))) (39 : Int)) (@wq5s k R x0 x1 x2 x3 x4 x5 (fun y10 y11 y12 y13 y14 y15 y16 => (@cond (@Option R) (@bne Int (@instBEqOfDecidableEq Int @Int.instDecidableEq) y16 (@Nat.cast Int instNatCastInt (@List.length UInt8 x5))) (@wqa k R y10 y11 y12 y13 y14 (3 : Int) (fun y17 y18 y19 y20 y21 => (@cond (@Option R) (@Decidable.decide (@GT.gt Int Int.instLTInt (@Nat.cast Int instNatCastInt (@List.length UInt8 y15)) (200 : Int)) (@Int.decLt (200 : Int) (@Nat.cast Int instNatCastInt (@List.length UInt8 y15)))) (@wqa k R y17 y18 y19 y20 y21 (4 : Int) (fun y22 y23 y24 y25 y26 => (@wqg k R y22 y23 y24 y25 y26 (3 : Int) y15 Bool.true y16 (fun y27 y28 y29 y30 y31 => (K y27 y28 y29 y30 y31)))) (fun y22 y23 y24 y25 y26 y27 y28 => (E y22 y23 y24 y25 y26 y27 y28))) (@wqg k R y17 y18 y19 y20 y21 (3 : Int) y15 Bool.true y16 (fun y22 y23 y24 y25 y26 => (K y22 y23 y24 y25 y26))))) (fun y17 y18 y19 y20 y21 y22 y23 => (E y17 y18 y19 y20 y21 y22 y23))) (@cond (@Option R) (@Decidable.decide (@GT.gt Int Int.instLTInt (@Nat.cast Int instNatCastInt (@List.length UInt8 y15)) (200 : Int)) (@Int.decLt (200 : Int) (@Nat.cast Int instNatCastInt (@List.length UInt8 y15)))) (@wqa k R y10 y11 y12 y13 y14 (4 : Int) (fun y17 y18 y19 y20 y21 => (@wqg k R y17 y18 y19 y20 y21 (3 : Int) y15 Bool.true y16 (fun y22 y23 y24 y25 y26 => (K y22 y23 y24 y25 y26)))) (fun y17 y18 y19 y20 y21 y22 y23 => (E y17 y18 y19 y20 y21 y22 y23))) (@wqg k R y10 y11 y12 y13 y14 (3 : Int) y15 Bool.true y16 (fun y17 y18 y19 y20 y21 => (K y17 y18 y19 y20 y21)))))) (fun y10 y11 y12 y13 y14 y15 y16 => (E y10 y11 y12 y13 y14 y15 y16))) (@cond (@Option R) (@BEq.beq Int (@instBEqOfDecidableEq Int @Int.instDecidableEq) (@Nat.cast Int instNatCastInt (@UInt8.toNat (@List.getD UInt8 x5 (@Int.toNat (0 : Int)) (0 : UInt8)))) (34 : Int)) (@wq5r k R x0 x1 x2 x3 x4 x5 (fun y10 y11 y12 y13 y14 y15 y16 => (@cond (@Option R) (@bne Int (@instBEqOfDecidableEq Int @Int.instDecidableEq) y16 (@Nat.cast Int instNatCastInt (@List.length UInt8 x5))) (@wqa k R y10 y11 y12 y13 y14 (3 : Int) (fun y17 y18 y19 y20 y21 => (@cond (@Option R) (@Decidable.decide (@GT.gt Int Int.instLTInt (@Nat.cast Int instNatCastInt (@List.length UInt8 y15)) (200 : Int)) (@Int.decLt (200 : Int) (@Nat.cast Int instNatCastInt (@List.length UInt8 y15)))) (@wqa k R y17 y18 y19 y20 y21 (4 : Int) (fun y22 y23 y24 y25 y26 => (@wqg k R y22 y23 y24 y25 y26 (3 : Int) y15 Bool.true y16 (fun y27 y28 y29 y30 y31 => (K y27 y28 y29 y30 y31)))) (fun y22 y23 y24 y25 y26 y27 y28 => (E y22 y23 y24 y25 y26 y27 y28))) (@wqg k R y17 y18 y19 y20 y21 (3 : Int) y15 Bool.true y16 (fun y22 y23 y24 y25 y26 => (K y22 y23 y24 y25 y26))))) (fun y17 y18 y19 y20 y21 y22 y23 => (E y17 y18 y19 y20 y21 y22 y23))) (@cond (@Option R) (@Decidable.decide (@GT.gt Int Int.instLTInt (@Nat.cast Int instNatCastInt (@List.length UInt8 y15)) (200 : Int)) (@Int.decLt (200 : Int) (@Nat.cast Int instNatCastInt (@List.length UInt8 y15)))) (@wqa k R y10 y11 y12 y13 y14 (4 : Int) (fun y17 y18 y19 y20 y21 => (@wqg k R y17 y18 y19 y20 y21 (3 : Int) y15 Bool.true y16 (fun y22 y23 y24 y25 y26 => (K y22 y23 y24 y25 y26)))) (fun y17 y18 y19 y20 y21 y22 y23 => (E y17 y18 y19 y20 y21 y22 y23))) (@wqg k R y10 y11 y12 y13 y14 (3 : Int) y15 Bool.true y16 (fun y17 y18 y19 y20 y21 => (K y17 y18 y19 y20 y21)))))) (fun y10 y11 y12 y13 y14 y15 y16 => (E y10 y11 y12 y13 y14 y15 y16))) (@cond (@Option R) (@inb (0 : Int) (@Nat.cast Int instNatCastInt (@List.length UInt8 x5))) (@wq1o k R ((91 : UInt8) :: ((93 : UInt8) :: ((123 : UInt8) :: ((125 : UInt8) :: ((38 : UInt8) :: ((42 : UInt8) :: ((33 : UInt8) :: ((124 : UInt8) :: ((62 : UInt8) :: ((37 : UInt8) :: ((64 : UInt8) :: ((44 : UInt8) :: ((63 : UInt8) :: ((96 : UInt8) :: [])))))))))))))) (@Nat.cast Int instNatCastInt (@UInt8.toNat (@List.getD UInt8 x5 (@Int.toNat (0 : Int)) (0 : UInt8)))) (fun y10 => (@cond (@Option R) (@BEq.beq (@Kd.T Kd.bool) (@instBEqOfDecidableEq (@Kd.T Kd.bool) @instDecidableEqBool) (@Decidable.decide (@GE.ge Int Int.instLEInt y10 (0 : Int)) (@Int.decLe (0 : Int) y10)) Bool.false) (@wqev k R x5 (fun y11 => (@cond (@Option R) (@BEq.beq (@Kd.T Kd.bool) (@instBEqOfDecidableEq (@Kd.T Kd.bool) @instDecidableEqBool) y11 Bool.false) (@wqfs k R x5 (fun y12 => (@cond (@Option R) (@Bool.not (@BEq.beq (@List UInt8) (@List.instBEq UInt8 (@instBEqOfDecidableEq UInt8 @instDecidableEqUInt8)) y12 [])) (@wqa k R x0 x1 x2 x3 x4 (4 : Int) (fun y13 y14 y15 y16 y17 => (@cond (@Option R) (@bne Int (@instBEqOfDecidableEq Int @Int.instDecidableEq) (@Nat.cast Int instNatCastInt (@List.length UInt8 x5)) (@Nat.cast Int instNatCastInt (@List.length UInt8 x5))) (@wqa k R y13 y14 y15 y16 y17 (3 : Int) (fun y18 y19 y20 y21 y22 => (@cond (@Option R) (@Decidable.decide (@GT.gt Int Int.instLTInt (@Nat.cast Int instNatCastInt (@List.length UInt8 x5)) (200 : Int)) (@Int.decLt (200 : Int) (@Nat.cast Int instNatCastInt (@List.length UInt8 x5)))) (@wqa k R y18 y19 y20 y21 y22 (4 : Int) (fun y23 y24 y25 y26 y27 => (@wqg k R y23 y24 y25 y26 y27 (3 : Int) x5 Bool.false (@Nat.cast Int instNatCastInt (@List.length UInt8 x5)) (fun y28 y29 y30 y31 y32 => (K y28 y29 y30 y31 y32)))) (fun y23 y24 y25 y26 y27 y28 y29 => (E y23 y24 y25 y26 y27 y28 y29))) (@wqg k R y18 y19 y20 y21 y22 (3 : Int) x5 Bool.false (@Nat.cast Int instNatCastInt (@List.length UInt8 x5)) (fun y23 y24 y25 y26 y27 => (K y23 y24 y25 y26 y27))))) (fun y18 y19 y20 y21 y22 y23 y24 => (E y18 y19 y20 y21 y22 y23 y24))) (@cond (@Option R) (@Decidable.decide (@GT.gt Int Int.instLTInt (@Nat.cast Int instNatCastInt (@List.length UInt8 x5)) (200 : Int)) (@Int.decLt (200 : Int) (@Nat.cast Int instNatCastInt (@List.length UInt8 x5)))) (@wqa k R y13 y14 y15 y16 y17 (4 : Int) (fun y18 y19 y20 y21 y22 => (@wqg k R y18 y19 y20 y21 y22 (3 : Int) x5 Bool.false (@Nat.cast Int instNatCastInt (@List.length UInt8 x5)) (fun y23 y24 y25 y26 y27 => (K y23 y24 y25 y26 y27)))) (fun y18 y19 y20 y21 y22 y23 y24 => (E y18 y19 y20 y21 y22 y23 y24))) (@wqg k R y13 y14 y15 y16 y17 (3 : Int) x5 Bool.false (@Nat.cast Int instNatCastInt (@List.length UInt8 x5)) (fun y18 y19 y20 y21 y22 => (K y18 y19 y20 y21 y22)))))) (fun y13 y14 y15 y16 y17 y18 y19 => (E y13 y14 y15 y16 y17 y18 y19))) (@cond (@Option R) (@bne Int (@instBEqOfDecidableEq Int @Int.instDecidableEq) (@Nat.cast Int instNatCastInt (@List.length UInt8 x5)) (@Nat.cast Int instNatCastInt (@List.length UInt8 x5))) (@wqa k R x0 x1 x2 x3 x4 (3 : Int) (fun y13 y14 y15 y16 y17 => (@cond (@Option R) (@Decidable.decide (@GT.gt Int Int.instLTInt (@Nat.cast Int instNatCastInt (@List.length UInt8 x5)) (200 : Int)) (@Int.decLt (200 : Int) (@Nat.cast Int instNatCastInt (@List.length UInt8 x5)))) (@wqa k R y13 y14 y15 y16 y17 (4 : Int) (fun y18 y19 y20 y21 y22 => (@wqg k R y18 y19 y20 y21 y22 (3 : Int) x5 Bool.false (@Nat.cast Int instNatCastInt (@List.length UInt8 x5)) (fun y23 y24 y25 y26 y27 => (K y23 y24 y25 y26 y27)))) (fun y18 y19 y20 y21 y22 y23 y24 => (E y18 y19 y20 y21 y22 y23 y24))) (@wqg k R y13 y14 y15 y16 y17 (3 : Int) x5 Bool.false (@Nat.cast Int instNatCastInt (@List.length UInt8 x5)) (fun y18 y19 y20 y21 y22 => (K y18 y19 y20 y21 y22))))) (fun y13 y14 y15 y16 y17 y18 y19 => (E y13 y14 y15 y16 y17 y18 y19))) (@cond (@Option R) (@Decidable.decide (@GT.gt Int Int.instLTInt (@Nat.cast Int instNatCastInt (@List.length UInt8 x5)) (200 : Int)) (@Int.decLt (200 : Int) (@Nat.cast Int instNatCastInt (@List.length UInt8 x5)))) (@wqa k R x0 x1 x2 x3 x4 (4 : Int) (fun y13 y14 y15 y16 y17 => (@wqg k R y13 y14 y15 y16 y17 (3 : Int) x5 Bool.false (@Nat.cast Int instNatCastInt (@List.length UInt8 x5)) (fun y18 y19 y20 y21 y22 => (K y18 y19 y20 y21 y22)))) (fun y13 y14 y15 y16 y17 y18 y19 => (E y13 y14 y15 y16 y17 y18 y19))) (@wqg k R x0 x1 x2 x3 x4 (3 : Int) x5 Bool.false (@Nat.cast Int instNatCastInt (@List.length UInt8 x5)) (fun y13 y14 y15 y16 y17 => (K y13 y14 y15 y16 y17)))))))) (@wqa k R x0 x1 x2 x3 x4 (4 : Int) (fun y12 y13 y14 y15 y16 => (@cond (@Option R) (@bne Int (@instBEqOfDecidableEq Int @Int.instDecidableEq) (@Nat.cast Int instNatCastInt (@List.length UInt8 x5)) (@Nat.cast Int instNatCastInt (@List.length UInt8 x5))) (@wqa k R y12 y13 y14 y15 y16 (3 : Int) (fun y17 y18 y19 y20 y21 => (@cond (@Option R) (@Decidable.decide (@GT.gt Int Int.instLTInt (@Nat.cast Int instNatCastInt (@List.length UInt8 x5)) (200 : Int)) (@Int.decLt (200 : Int) (@Nat.cast Int instNatCastInt (@List.length UInt8 x5)))) (@wqa k R y17 y18 y19 y20 y21 (4 : Int) (fun y22 y23 y24 y25 y26 => (@wqg k R y22 y23 y24 y25 y26 (3 : Int) x5 Bool.false (@Nat.cast Int instNatCastInt (@List.length UInt8 x5)) (fun y27 y28 y29 y30 y31 => (K y27 y28 y29 y30 y31)))) (fun y22 y23 y24 y25 y26 y27 y28 => (E y22 y23 y24 y25 y26 y27 y28))) (@wqg k R y17 y18 y19 y20 y21 (3 : Int) x5 Bool.false (@Nat.cast Int instNatCastInt (@List.length UInt8 x5)) (fun y22 y23 y24 y25 y26 => (K y22 y23 y24 y25 y26))))) (fun y17 y18 y19 y20 y21 y22 y23 => (E y17 y18 y19 y20 y21 y22 y23))) (@cond (@Option R) (@Decidable.decide (@GT.gt Int Int.instLTInt (@Nat.cast Int instNatCastInt (@List.length UInt8 x5)) (200 : Int)) (@Int.decLt (200 : Int) (@Nat.cast Int instNatCastInt (@List.length UInt8 x5)))) (@wqa k R y12 y13 y14 y15 y16 (4 : Int) (fun y17 y18 y19 y20 y21 => (@wqg k R y17 y18 y19 y20 y21 (3 : Int) x5 Bool.false (@Nat.cast Int instNatCastInt (@List.length UInt8 x5)) (fun y22 y23 y24 y25 y26 => (K y22 y23 y24 y25 y26)))) (fun y17 y18 y19 y20 y21 y22 y23 => (E y17 y18 y19 y20 y21 y22 y23))) (@wqg k R y12 y13 y14 y15 y16 (3 : Int) x5 Bool.false (@Nat.cast Int instNatCastInt (@List.length UInt8 x5)) (fun y17 y18 y19 y20 y21 => (K y17 y18 y19 y20 y21)))))) (fun y12 y13 y14 y15 y16 y17 y18 => (E y12 y13 y14 y15 y16 y17 y18)))))) (@wqa k R x0 x1 x2 x3 x4 (4 : Int) (fun y11 y12 y13 y14 y15 => (@cond (@Option R) (@bne Int (@instBEqOfDecidableEq Int @Int.instDecidableEq) (@Nat.cast Int instNatCastInt (@List.length UInt8 x5)) (@Nat.cast Int instNatCastInt (@List.length UInt8 x5))) (@wqa k R y11 y12 y13 y14 y15 (3 : Int) (fun y16 y17 y18 y19 y20 => (@cond (@Option R) (@Decidable.decide (@GT.gt Int Int.instLTInt (@Nat.cast Int instNatCastInt (@List.length UInt8 x5)) (200 : Int)) (@Int.decLt (200 : Int) (@Nat.cast Int instNatCastInt (@List.length UInt8 x5)))) (@wqa k R y16 y17 y18 y19 y20 (4 : Int) (fun y21 y22 y23 y24 y25 => (@wqg k R y21 y22 y23 y24 y25 (3 : Int) x5 Bool.false (@Nat.cast Int instNatCastInt (@List.length UInt8 x5)) (fun y26 y27 y28 y29 y30 => (K y26 y27 y28 y29 y30)))) (fun y21 y22 y23 y24 y25 y26 y27 => (E y21 y22 y23 y24 y25 y26 y27))) (@wqg k R y16 y17 y18 y19 y20 (3 : Int) x5 Bool.false (@Nat.cast Int instNatCastInt (@List.length UInt8 x5)) (fun y21 y22 y23 y24 y25 => (K y21 y22 y23 y24 y25))))) (fun y16 y17 y18 y19 y20 y21 y22 => (E y16 y17 y18 y19 y20 y21 y22))) (@cond (@Option R) (@Decidable.decide (@GT.gt Int Int.instLTInt (@Nat.cast Int instNatCastInt (@List.length UInt8 x5)) (200 : Int)) (@Int.decLt (200 : Int) (@Nat.cast Int instNatCastInt (@List.length UInt8 x5)))) (@wqa k R y11 y12 y13 y14 y15 (4 : Int) (fun y16 y17 y18 y19 y20 => (@wqg k R y16 y17 y18 y19 y20 (3 : Int) x5 Bool.false (@Nat.cast Int instNatCastInt (@List.length UInt8 x5)) (fun y21 y22 y23 y24 y25 => (K y21 y22 y23 y24 y25)))) (fun y16 y17 y18 y19 y20 y21 y22 => (E y16 y17 y18 y19 y20 y21 y22))) (@wqg k R y11 y12 y13 y14 y15 (3 : Int) x5 Bool.false (@Nat.cast Int instNatCastInt (@List.length UInt8 x5)) (fun y16 y17 y18 y19 y20 => (K y16 y17 y18 y19 y20)))))) (fun y11 y12 y13 y14 y15 y16 y17 => (E y11 y12 y13 y14 y15 y16 y17)))))) (@Option.none R)))) (@Option.none R))
theorem wqn0 (k : Nat) {R : Type} (I : Nat → St → Option R) (x0 x1 : Int) (x2 : (List UInt8)) (x3 : Int) (x4 : (List (Int × (Int × (Int × ((List UInt8) × Bool)))))) (x5 : (List UInt8)) (K : (Int → Int → (List UInt8) → Int → (List (Int × (Int × (Int × ((List UInt8) × Bool))))) → Option R)) (E : (Int → Int → (List UInt8) → Int → (List (Int × (Int × (Int × ((List UInt8) × Bool))))) → Int → Int → Option R)) : fnK (wqbx k) k wq9m 59 [] wqgr [.ptr 1 0, .v .str x5] [(21, .row 97 (.pr (.int .i64) (.pr (.int .i64) (.pr (.int .i64) (.pr .str .bool)))) x4), (1, .var 151 [.v (.int .i64) x0, .v (.int .i64) x1, .v .str x2, .v (.int .i64) x3, .row 21])] (wq9l K E) = wqcw k  x0 x1 x2 x3 x4 x5 K E := by kernel_rfl
noncomputable def wq47 (k : Nat) {R : Type} (x0 x1 : Int) (x2 : (List UInt8)) (x3 : Int) (x4 : (List (Int × (Int × (Int × ((List UInt8) × Bool)))))) (x5 : (List UInt8)) (K : (Int → Int → (List UInt8) → Int → (List (Int × (Int × (Int × ((List UInt8) × Bool))))) → Option R)) (E : (Int → Int → (List UInt8) → Int → (List (Int × (Int × (Int × ((List UInt8) × Bool))))) → Int → Int → Option R)) : Option R := wqcw k  x0 x1 x2 x3 x4 x5 K E
theorem wqn1 (k : Nat) {R : Type} (x0 x1 : Int) (x2 : (List UInt8)) (x3 : Int) (x4 : (List (Int × (Int × (Int × ((List UInt8) × Bool)))))) (x5 : (List UInt8)) (K : (Int → Int → (List UInt8) → Int → (List (Int × (Int × (Int × ((List UInt8) × Bool))))) → Option R)) (E : (Int → Int → (List UInt8) → Int → (List (Int × (Int × (Int × ((List UInt8) × Bool))))) → Int → Int → Option R)) : fnK (wqbx k) k wq9m 59 [] wqgr [.ptr 1 0, .v .str x5] [(21, .row 97 (.pr (.int .i64) (.pr (.int .i64) (.pr (.int .i64) (.pr .str .bool)))) x4), (1, .var 151 [.v (.int .i64) x0, .v (.int .i64) x1, .v .str x2, .v (.int .i64) x3, .row 21])] (wq9l K E) = wq47 k x0 x1 x2 x3 x4 x5 K E := by
  exact wqn0 k (fun _ _ => none) x0 x1 x2 x3 x4 x5 K E
noncomputable def wqah (k : Nat) {R : Type} : List PV → List (Nm × HObj) → (Out → Option R) → Option R
  | [.ptr 1 0, .v .str x5], [(21, .row 97 (.pr (.int .i64) (.pr (.int .i64) (.pr (.int .i64) (.pr .str .bool)))) x4), (1, .var 151 [.v (.int .i64) x0, .v (.int .i64) x1, .v .str x2, .v (.int .i64) x3, .row 21])], K => wq47 k x0 x1 x2 x3 x4 x5 (fun y0 y1 y2 y3 y4 => K (.ret [] [(21, .row 97 (.pr (.int .i64) (.pr (.int .i64) (.pr (.int .i64) (.pr .str .bool)))) y4), (1, .var 151 [.v (.int .i64) y0, .v (.int .i64) y1, .v .str y2, .v (.int .i64) y3, .row 21])])) (fun z0 z1 z2 z3 z4 z5 z6 => K (.pan (.ifc 28 (.agg [.v (.int .i64) z5, .v (.int .i64) z6])) [(21, .row 97 (.pr (.int .i64) (.pr (.int .i64) (.pr (.int .i64) (.pr .str .bool)))) z4), (1, .var 151 [.v (.int .i64) z0, .v (.int .i64) z1, .v .str z2, .v (.int .i64) z3, .row 21])]))
  | _, _, _ => none
theorem wqn2 (k : Nat) : (wqhx k).Ok Tryz.prog := (CTab.add_ok (fun h => wq69 k h) (CTab.add_ok (fun h => wqx5 k h) (CTab.add_ok (fun h => wqgp k h) (CTab.add_ok (fun h => wqzo k h) (CTab.add_ok (fun h => wqo7 k h) (CTab.add_ok (fun h => wqo6 k h) (CTab.add_ok (fun h => wqdq k h) CTab.nil_ok)))))))
theorem wqs2 (k : Nat) {ps : List PV} {hp : List (Nm × HObj)} {R : Type} {K : Out → Option R} {r : R} (h : wqah k ps hp K = some r) : DoesTo Tryz.prog 129 ps hp fun out => K out = some r := by
  unfold wqah at h
  split at h
  · rw [← wqn1] at h
    have := fn_ok (P := Tryz.prog) (cx := wqbx k) (f := 129) ⟨tyT_ok, wqn2 k, fun _ _ => rfl⟩ (by kernel_rfl) (fn := Tryz.f129) (c := wq9m) (by kernel_rfl) (by kernel_rfl) (by kernel_rfl) (rs := []) (by kernel_rfl) (by kernel_rfl) h
    exact this.mono fun out ho => by
      unfold wq9l at ho
      split at ho <;> first | exact ho | cases ho
  · cases h
end Go.Proofs.YtpfbdepoammjmaaGreatDoor.Pvm

set_option maxRecDepth 1000000
set_option maxHeartbeats 0
namespace Go.Proofs.YtpfbdepoammjmaaGreatDoor.Pvm
open Go Go.Proofs
abbrev wq48 (R : Type) : Type := (Int → Int → (List UInt8) → Int → (List (Int × (Int × (Int × ((List UInt8) × Bool))))) → Option R)
abbrev wq49 (R : Type) : Type := (Int → Int → (List UInt8) → Int → (List (Int × (Int × (Int × ((List UInt8) × Bool))))) → Int → Int → Option R)
def wqpz : List LS := [.obj 1 [.any, .any, .any, .any, .own 21 97 (.pr (.int .i64) (.pr (.int .i64) (.pr (.int .i64) (.pr .str .bool))))]]
noncomputable def wqk9 (k : Nat) : CTab := (CTab.add 124 wq5g (wq3j k) (CTab.add 125 wqo5 (wqaf k) (CTab.add 126 wqro (wqfm k) (CTab.add 127 wqdn (wq6i k) (CTab.add 128 wquw (wqiv k) (CTab.add 129 wqo8 (wqah k) CTab.nil))))))
def wq39 {R : Type} (K : wq48 R) (E : wq49 R) : Out → Option R
  | .ret [] [(21, .row 97 (.pr (.int .i64) (.pr (.int .i64) (.pr (.int .i64) (.pr .str .bool)))) y4), (1, .var 151 [.v (.int .i64) y0, .v (.int .i64) y1, .v .str y2, .v (.int .i64) y3, .row 21])] => K y0 y1 y2 y3 y4
  | .pan (.ifc 28 (.agg [.v (.int .i64) z5, .v (.int .i64) z6])) [(21, .row 97 (.pr (.int .i64) (.pr (.int .i64) (.pr (.int .i64) (.pr .str .bool)))) z4), (1, .var 151 [.v (.int .i64) z0, .v (.int .i64) z1, .v .str z2, .v (.int .i64) z3, .row 21])] => E z0 z1 z2 z3 z4 z5 z6
  | _ => none
def wq50 : RetSpec := ⟨[], [(1, .obj 1 [.any, .any, .any, .any, .own 21 97 (.pr (.int .i64) (.pr (.int .i64) (.pr (.int .i64) (.pr .str .bool))))])], [(1, .obj 1 [.any, .any, .any, .any, .own 21 97 (.pr (.int .i64) (.pr (.int .i64) (.pr (.int .i64) (.pr .str .bool))))])]⟩
def wqo9 : List (Nat × CutSpec) := [(1003, ⟨[(0, .obj 1 [.any, .any, .any, .any, .own 21 97 (.pr (.int .i64) (.pr (.int .i64) (.pr (.int .i64) (.pr .str .bool))))]), (2, .any)], [(1, .obj 1 [.any, .any, .any, .any, .own 21 97 (.pr (.int .i64) (.pr (.int .i64) (.pr (.int .i64) (.pr .str .bool))))])]⟩)]
def wqn3 : List (Nat × Plan) := []
noncomputable def wqt (k : Nat) : Ctx := ⟨tyT, wqo9, wqk9 k, [], [1], wqn3, @SH⟩
noncomputable def wq1m : Code := Tryz.f88.body.getD .skip
def wq3q (s0 s1 : Int) (s2 : (List UInt8)) (s3 : Int) (s4 : (List (Int × (Int × (Int × ((List UInt8) × Bool)))))) (s5 : (List UInt8)) : St := ⟨mkT [(0, .ptr 1 0), (2, .v .str s5)], mkH [(21, .row 97 (.pr (.int .i64) (.pr (.int .i64) (.pr (.int .i64) (.pr .str .bool)))) s4), (1, .var 151 [.v (.int .i64) s0, .v (.int .i64) s1, .v .str s2, .v (.int .i64) s3, .row 21])]⟩
noncomputable def wq61 (k : Nat) {R : Type} (E1003 : (Int → Int → (List UInt8) → Int → (List (Int × (Int × (Int × ((List UInt8) × Bool))))) → (List UInt8) → Option R)) (s0 s1 : Int) (s2 : (List UInt8)) (s3 : Int) (s4 : (List (Int × (Int × (Int × ((List UInt8) × Bool)))))) (s5 : (List UInt8)) (K : wq48 R) (E : wq49 R) : Option R := (@wqev k R s5 (fun y11 => (@cond (@Option R) y11 (@wqg k R s0 s1 s2 s3 s4 (1 : Int) [] Bool.false (1 : Int) (fun y12 y13 y14 y15 y16 => (@wq3k k R y12 y13 y14 y15 y16 (fun y17 y18 y19 y20 y21 y22 => (E1003 y17 y18 y19 y20 y21 y22))))) (@wqfs k R s5 (fun y12 => (@cond (@Option R) (@Bool.not (@BEq.beq (@List UInt8) (@List.instBEq UInt8 (@instBEqOfDecidableEq UInt8 @instDecidableEqUInt8)) y12 [])) (@cond (@Option R) (@Decidable.decide (@GT.gt Int Int.instLTInt (@Nat.cast Int instNatCastInt (@List.length UInt8 y12)) (64 : Int)) (@Int.decLt (64 : Int) (@Nat.cast Int instNatCastInt (@List.length UInt8 y12)))) (@wqa k R s0 s1 s2 s3 s4 (5 : Int) (fun y13 y14 y15 y16 y17 => (@wqg k R y13 y14 y15 y16 y17 (2 : Int) y12 Bool.false (@Go.IntKind.wrap Go.IntKind.i64 (@HAdd.hAdd Int Int Int (@instHAdd Int @Int.instAdd) (@Nat.cast Int instNatCastInt (@List.length UInt8 y12)) (1 : Int))) (fun y18 y19 y20 y21 y22 => (@wq3k k R y18 y19 y20 y21 y22 (fun y23 y24 y25 y26 y27 y28 => (@cond (@Option R) (@Bool.not (@BEq.beq (@List UInt8) (@List.instBEq UInt8 (@instBEqOfDecidableEq UInt8 @instDecidableEqUInt8)) y28 [])) (@wq47 k R y23 y24 y25 y26 y27 y28 (fun y29 y30 y31 y32 y33 => (K y29 y30 y31 y32 y33)) (fun y29 y30 y31 y32 y33 y34 y35 => (E y29 y30 y31 y32 y33 y34 y35))) (K y23 y24 y25 y26 y27))))))) (fun y13 y14 y15 y16 y17 y18 y19 => (E y13 y14 y15 y16 y17 y18 y19))) (@wqg k R s0 s1 s2 s3 s4 (2 : Int) y12 Bool.false (@Go.IntKind.wrap Go.IntKind.i64 (@HAdd.hAdd Int Int Int (@instHAdd Int @Int.instAdd) (@Nat.cast Int instNatCastInt (@List.length UInt8 y12)) (1 : Int))) (fun y13 y14 y15 y16 y17 => (@wq3k k R y13 y14 y15 y16 y17 (fun y18 y19 y20 y21 y22 y23 => (@cond (@Option R) (@Bool.not (@BEq.beq (@List UInt8) (@List.instBEq UInt8 (@instBEqOfDecidableEq UInt8 @instDecidableEqUInt8)) y23 [])) (@wq47 k R y18 y19 y20 y21 y22 y23 (fun y24 y25 y26 y27 y28 => (K y24 y25 y26 y27 y28)) (fun y24 y25 y26 y27 y28 y29 y30 => (E y24 y25 y26 y27 y28 y29 y30))) (K y18 y19 y20 y21 y22))))))) (@cond (@Option R) (@Bool.not (@BEq.beq (@List UInt8) (@List.instBEq UInt8 (@instBEqOfDecidableEq UInt8 @instDecidableEqUInt8)) s5 [])) (@wq47 k R s0 s1 s2 s3 s4 s5 (fun y13 y14 y15 y16 y17 => (K y13 y14 y15 y16 y17)) (fun y13 y14 y15 y16 y17 y18 y19 => (E y13 y14 y15 y16 y17 y18 y19))) (K s0 s1 s2 s3 s4))))))))
theorem wqgy (k : Nat) {R : Type} (I : Nat → St → Option R) (s0 s1 : Int) (s2 : (List UInt8)) (s3 : Int) (s4 : (List (Int × (Int × (Int × ((List UInt8) × Bool)))))) (s5 : (List UInt8)) (K : wq48 R) (E : wq49 R) : execK (wqt k) k (at_ [1, 1, 0, 0, 0] wq1m) (wq3q s0 s1 s2 s3 s4 s5) (konts (wqt k) k I [1, 1, 0, 0, 0] wq1m (outK (wqt k) wq50 [] (wq39 K E))) = wq61 k (fun s0 s1 s2 s3 s4 s5 => I 1003 (wq3q s0 s1 s2 s3 s4 s5)) s0 s1 s2 s3 s4 s5 K E := by kernel_rfl
noncomputable def wqb4 (k : Nat) {R : Type} (E1003 : (Int → Int → (List UInt8) → Int → (List (Int × (Int × (Int × ((List UInt8) × Bool))))) → (List UInt8) → Option R)) (x0 x1 : Int) (x2 : (List UInt8)) (x3 : Int) (x4 : (List (Int × (Int × (Int × ((List UInt8) × Bool)))))) (K : wq48 R) (E : wq49 R) : Option R := (@cond (@Option R) (@cond (@Kd.T Kd.bool) (@Decidable.decide (@LT.lt Int Int.instLTInt x1 (0 : Int)) (@Int.decLt x1 (0 : Int))) Bool.true (@Decidable.decide (@GT.gt Int Int.instLTInt x1 (16384 : Int)) (@Int.decLt (16384 : Int) x1))) (@wqa k R x0 x1 x2 x3 x4 (6 : Int) (fun y10 y11 y12 y13 y14 => (@wq3k k R y10 y11 y12 y13 y14 (fun y15 y16 y17 y18 y19 y20 => (E1003 y15 y16 y17 y18 y19 y20)))) (fun y10 y11 y12 y13 y14 y15 y16 => (E y10 y11 y12 y13 y14 y15 y16))) (@wq3k k R x0 x1 x2 x3 x4 (fun y10 y11 y12 y13 y14 y15 => (E1003 y10 y11 y12 y13 y14 y15))))
theorem wqoa (k : Nat) {R : Type} (I : Nat → St → Option R) (x0 x1 : Int) (x2 : (List UInt8)) (x3 : Int) (x4 : (List (Int × (Int × (Int × ((List UInt8) × Bool)))))) (K : wq48 R) (E : wq49 R) : fnK (wqt k) k wq1m 50 [] wq50 [.ptr 1 0] [(21, .row 97 (.pr (.int .i64) (.pr (.int .i64) (.pr (.int .i64) (.pr .str .bool)))) x4), (1, .var 151 [.v (.int .i64) x0, .v (.int .i64) x1, .v .str x2, .v (.int .i64) x3, .row 21])] (wq39 K E) = wqb4 k (fun s0 s1 s2 s3 s4 s5 => iter (wqt k).pv (look (wqt k).cuts 1003) (execK (wqt k) k (at_ [1, 1, 0, 0, 0] wq1m)) k (wq3q s0 s1 s2 s3 s4 s5) (konts (wqt k) k I [1, 1, 0, 0] wq1m (outK (wqt k) wq50 [] (wq39 K E)))) x0 x1 x2 x3 x4 K E := by kernel_rfl
noncomputable def wq27 (k : Nat) {R : Type}  : Nat → Int → Int → (List UInt8) → Int → (List (Int × (Int × (Int × ((List UInt8) × Bool))))) → (List UInt8) → (Int → Int → (List UInt8) → Int → (List (Int × (Int × (Int × ((List UInt8) × Bool))))) → Option R) → (Int → Int → (List UInt8) → Int → (List (Int × (Int × (Int × ((List UInt8) × Bool))))) → Int → Int → Option R) → Option R
  | 0, _, _, _, _, _, _, _, _ => none
  | n + 1, s0, s1, s2, s3, s4, s5, K, E => wq61 k (fun s0 s1 s2 s3 s4 s5 => wq27 k  n s0 s1 s2 s3 s4 s5 K E) s0 s1 s2 s3 s4 s5 K E
theorem wqgz (k : Nat) {R : Type} (I : Nat → St → Option R) (K : wq48 R) (E : wq49 R) : ∀ (n : Nat) (s0 s1 : Int) (s2 : (List UInt8)) (s3 : Int) (s4 : (List (Int × (Int × (Int × ((List UInt8) × Bool)))))) (s5 : (List UInt8)), iter (wqt k).pv (look (wqt k).cuts 1003) (execK (wqt k) k (at_ [1, 1, 0, 0, 0] wq1m)) n (wq3q s0 s1 s2 s3 s4 s5) (konts (wqt k) k I [1, 1, 0, 0] wq1m (outK (wqt k) wq50 [] (wq39 K E))) = wq27 k  n s0 s1 s2 s3 s4 s5 K E := by
  intro n
  induction n with
  | zero => intros; rfl
  | succ n ih =>
    intro s0 s1 s2 s3 s4 s5
    let I' : Nat → St → Option R := fun id s => bif Nat.beq id 1003 then iter (wqt k).pv (look (wqt k).cuts 1003) (execK (wqt k) k (at_ [1, 1, 0, 0, 0] wq1m)) n s (konts (wqt k) k I [1, 1, 0, 0] wq1m (outK (wqt k) wq50 [] (wq39 K E))) else I id s
    have e := wqgy k I' s0 s1 s2 s3 s4 s5 K E
    have h1003 : (fun s0 s1 s2 s3 s4 s5 => I' 1003 (wq3q s0 s1 s2 s3 s4 s5)) = (fun s0 s1 s2 s3 s4 s5 => wq27 k  n s0 s1 s2 s3 s4 s5 K E) := by funext s0 s1 s2 s3 s4 s5; exact ih s0 s1 s2 s3 s4 s5
    refine Eq.trans (?_ : _ = _) (e.trans (Eq.trans ((congrArg ((fun E1003 => wq61 k E1003 s0 s1 s2 s3 s4 s5 K E)) h1003)) (by rw [wq27])))
    rfl
noncomputable def wqb5 (k : Nat) {R : Type} (x0 x1 : Int) (x2 : (List UInt8)) (x3 : Int) (x4 : (List (Int × (Int × (Int × ((List UInt8) × Bool)))))) (K : wq48 R) (E : wq49 R) : Option R := wqb4 k (fun s0 s1 s2 s3 s4 s5 => wq27 k k s0 s1 s2 s3 s4 s5 K E) x0 x1 x2 x3 x4 K E
theorem wqob (k : Nat) {R : Type} (x0 x1 : Int) (x2 : (List UInt8)) (x3 : Int) (x4 : (List (Int × (Int × (Int × ((List UInt8) × Bool)))))) (K : wq48 R) (E : wq49 R) : fnK (wqt k) k wq1m 50 [] wq50 [.ptr 1 0] [(21, .row 97 (.pr (.int .i64) (.pr (.int .i64) (.pr (.int .i64) (.pr .str .bool)))) x4), (1, .var 151 [.v (.int .i64) x0, .v (.int .i64) x1, .v .str x2, .v (.int .i64) x3, .row 21])] (wq39 K E) = wqb5 k x0 x1 x2 x3 x4 K E := by
  let I : Nat → St → Option R := fun _ _ => none
  have h1003 : (fun s0 s1 s2 s3 s4 s5 => iter (wqt k).pv (look (wqt k).cuts 1003) (execK (wqt k) k (at_ [1, 1, 0, 0, 0] wq1m)) k (wq3q s0 s1 s2 s3 s4 s5) (konts (wqt k) k I [1, 1, 0, 0] wq1m (outK (wqt k) wq50 [] (wq39 K E)))) = (fun s0 s1 s2 s3 s4 s5 => wq27 k k s0 s1 s2 s3 s4 s5 K E) := by funext s0 s1 s2 s3 s4 s5; exact wqgz k I K E k s0 s1 s2 s3 s4 s5
  exact (wqoa k I x0 x1 x2 x3 x4 K E).trans (congrArg ((fun E1003 => wqb4 k E1003 x0 x1 x2 x3 x4 K E)) h1003)
noncomputable def wqby (k : Nat) {R : Type} : List PV → List (Nm × HObj) → (Out → Option R) → Option R
  | [.ptr 1 0], [(21, .row 97 (.pr (.int .i64) (.pr (.int .i64) (.pr (.int .i64) (.pr .str .bool)))) x4), (1, .var 151 [.v (.int .i64) x0, .v (.int .i64) x1, .v .str x2, .v (.int .i64) x3, .row 21])], K => wqb5 k x0 x1 x2 x3 x4 (fun y0 y1 y2 y3 y4 => K (.ret [] [(21, .row 97 (.pr (.int .i64) (.pr (.int .i64) (.pr (.int .i64) (.pr .str .bool)))) y4), (1, .var 151 [.v (.int .i64) y0, .v (.int .i64) y1, .v .str y2, .v (.int .i64) y3, .row 21])])) (fun z0 z1 z2 z3 z4 z5 z6 => K (.pan (.ifc 28 (.agg [.v (.int .i64) z5, .v (.int .i64) z6])) [(21, .row 97 (.pr (.int .i64) (.pr (.int .i64) (.pr (.int .i64) (.pr .str .bool)))) z4), (1, .var 151 [.v (.int .i64) z0, .v (.int .i64) z1, .v .str z2, .v (.int .i64) z3, .row 21])]))
  | _, _, _ => none
theorem wqoc (k : Nat) : (wqk9 k).Ok Tryz.prog := (CTab.add_ok (fun h => wq69 k h) (CTab.add_ok (fun h => wqs1 k h) (CTab.add_ok (fun h => wqx5 k h) (CTab.add_ok (fun h => wqgp k h) (CTab.add_ok (fun h => wqzo k h) (CTab.add_ok (fun h => wqs2 k h) CTab.nil_ok))))))
theorem wqtr (k : Nat) {ps : List PV} {hp : List (Nm × HObj)} {R : Type} {K : Out → Option R} {r : R} (h : wqby k ps hp K = some r) : DoesTo Tryz.prog 88 ps hp fun out => K out = some r := by
  unfold wqby at h
  split at h
  · rw [← wqob] at h
    have := fn_ok (P := Tryz.prog) (cx := wqt k) (f := 88) ⟨tyT_ok, wqoc k, fun _ _ => rfl⟩ (by kernel_rfl) (fn := Tryz.f88) (c := wq1m) (by kernel_rfl) (by kernel_rfl) (by kernel_rfl) (rs := []) (by kernel_rfl) (by kernel_rfl) h
    exact this.mono fun out ho => by
      unfold wq39 at ho
      split at ho <;> first | exact ho | cases ho
  · cases h
end Go.Proofs.YtpfbdepoammjmaaGreatDoor.Pvm

set_option maxRecDepth 1000000
set_option maxHeartbeats 0
namespace Go.Proofs.YtpfbdepoammjmaaGreatDoor.Pvm
open Go Go.Proofs
def wq10m : List LS := [.ag [.any, .any, .any]]
noncomputable def wqzp (k : Nat) : CTab := (CTab.add 88 wqpz (wqby k) CTab.nil)
def wqlp {R : Type} (K : ((List (Int × (Int × (Int × ((List UInt8) × Bool))))) → Int → Int → Option R)) : Out → Option R
  | .ret [.v (.sl (.pr (.int .i64) (.pr (.int .i64) (.pr (.int .i64) (.pr .str .bool))))) y0, .agg [.v (.int .i64) y1, .v (.int .i64) y2]] [] => K y0 y1 y2
  | _ => none
def wqxh : RetSpec := ⟨[.sl (.pr (.int .i64) (.pr (.int .i64) (.pr (.int .i64) (.pr .str .bool)))), .ag [.any, .any]], [], []⟩
def wqyk : List (Nat × CutSpec) := []
def wqxi : List (Nat × Plan) := []
noncomputable def wqs3 (k : Nat) : Ctx := ⟨tyT, wqyk, wqzp k, [2, 3], [], wqxi, @SH⟩
noncomputable def wq62 : Code := Tryz.f49.body.getD .skip
noncomputable def wqfv (k : Nat) {R : Type} : PV → List PV → List (Nm × HObj) → (Out → Option R) → Option R
  | .nilif, [.ptr 1 0, .ptr 2 0], [(1, .var 56 [.v (.sl (.pr (.int .i64) (.pr (.int .i64) (.pr (.int .i64) (.pr .str .bool))))) x0]), (2, .var 28 [.v (.int .i64) x1, .v (.int .i64) x2])], K => wqb8 k x0 x1 x2 (fun y0 y1 y2 => K (.ret [] [(1, .var 56 [.v (.sl (.pr (.int .i64) (.pr (.int .i64) (.pr (.int .i64) (.pr .str .bool))))) y0]), (2, .var 28 [.v (.int .i64) y1, .v (.int .i64) y2])]))
  | .ifc 28 (.agg [.v (.int .i64) x3, .v (.int .i64) x4]), [.ptr 1 0, .ptr 2 0], [(1, .var 56 [.v (.sl (.pr (.int .i64) (.pr (.int .i64) (.pr (.int .i64) (.pr .str .bool))))) x0]), (2, .var 28 [.v (.int .i64) x1, .v (.int .i64) x2])], K => wqb9 k x0 x1 x2 x3 x4 (fun y0 y1 y2 => K (.ret [] [(1, .var 56 [.v (.sl (.pr (.int .i64) (.pr (.int .i64) (.pr (.int .i64) (.pr .str .bool))))) y0]), (2, .var 28 [.v (.int .i64) y1, .v (.int .i64) y2])]))
  | _, _, _, _ => none
noncomputable def wqvz (k : Nat) {R : Type}  (x0 x1 : Int) (x2 : (List UInt8)) (K : ((List (Int × (Int × (Int × ((List UInt8) × Bool))))) → Int → Int → Option R)) : Option R := (@wqb5 k R x0 x1 x2 (0 : (@Kd.T kI)) [] (fun y6 y7 y8 y9 y10 => (@wqb8 k R y10 (0 : (@Kd.T kI)) (0 : (@Kd.T kI)) (fun y11 y12 y13 => (K y11 y12 y13)))) (fun y6 y7 y8 y9 y10 y11 y12 => (@wqb9 k R [] (0 : (@Kd.T kI)) (0 : (@Kd.T kI)) y11 y12 (fun y13 y14 y15 => (K y13 y14 y15)))))
theorem wqyl (k : Nat) {R : Type} (I : Nat → St → Option R) (x0 x1 : Int) (x2 : (List UInt8)) (K : ((List (Int × (Int × (Int × ((List UInt8) × Bool))))) → Int → Int → Option R)) : fnDK (wqs3 k) k [300, 400] (at_ [0] wq62) (opsAt (at_ [1, 0] wq62)) (at_ [1, 1] wq62) 16 [.cell 2 56, .cell 3 28] wqxh (wqfv k) wqp9 [(300, 0), (400, 0)] [.agg [.v (.int .i64) x0, .v (.int .i64) x1, .v .str x2]] [] (wqlp K) = wqvz k  x0 x1 x2 K := by kernel_rfl
noncomputable def wqn4 (k : Nat) {R : Type} (x0 x1 : Int) (x2 : (List UInt8)) (K : ((List (Int × (Int × (Int × ((List UInt8) × Bool))))) → Int → Int → Option R)) : Option R := wqvz k  x0 x1 x2 K
theorem wqym (k : Nat) {R : Type} (x0 x1 : Int) (x2 : (List UInt8)) (K : ((List (Int × (Int × (Int × ((List UInt8) × Bool))))) → Int → Int → Option R)) : fnDK (wqs3 k) k [300, 400] (at_ [0] wq62) (opsAt (at_ [1, 0] wq62)) (at_ [1, 1] wq62) 16 [.cell 2 56, .cell 3 28] wqxh (wqfv k) wqp9 [(300, 0), (400, 0)] [.agg [.v (.int .i64) x0, .v (.int .i64) x1, .v .str x2]] [] (wqlp K) = wqn4 k x0 x1 x2 K := by
  exact wqyl k (fun _ _ => none) x0 x1 x2 K
noncomputable def wqod (k : Nat) {R : Type} : List PV → List (Nm × HObj) → (Out → Option R) → Option R
  | [.agg [.v (.int .i64) x0, .v (.int .i64) x1, .v .str x2]], [], K => wqn4 k x0 x1 x2 (fun y0 y1 y2 => K (.ret [.v (.sl (.pr (.int .i64) (.pr (.int .i64) (.pr (.int .i64) (.pr .str .bool))))) y0, .agg [.v (.int .i64) y1, .v (.int .i64) y2]] []))
  | _, _, _ => none
theorem wqyn (k : Nat) : (wqzp k).Ok Tryz.prog := (CTab.add_ok (fun h => wqtr k h) CTab.nil_ok)
theorem wqts (k : Nat) {R : Type} (rec : PV) (ps : List PV) (hp : List (Nm × HObj)) (K : Out → Option R) (r : R) (h : wqfv k rec ps hp K = some r) : DoesToD Tryz.prog 87 rec ps hp fun out => K out = some r := by
  unfold wqfv at h
  split at h
  · exact wqvl k h
  · exact wqvm k h
  · cases h
theorem wq126 (k : Nat) {ps : List PV} {hp : List (Nm × HObj)} {R : Type} {K : Out → Option R} {r : R} (h : wqod k ps hp K = some r) : DoesTo Tryz.prog 49 ps hp fun out => K out = some r := by
  unfold wqod at h
  split at h
  · rw [← wqym] at h
    have := fnDK_ok (P := Tryz.prog) (cx := wqs3 k) (f := 49) ⟨tyT_ok, wqyn k, fun _ _ => rfl⟩ (by kernel_rfl) (fn := Tryz.f49) (id := 1) (pre := at_ [0] wq62) (rest := at_ [1, 1] wq62) (ops := opsAt (at_ [1, 0] wq62)) (by kernel_rfl) (by kernel_rfl) (by kernel_rfl) (rs := [.cell 2 56, .cell 3 28]) (by kernel_rfl) (by kernel_rfl) (by kernel_rfl) (g := 87) (s := 5) (xs := [.tmp 2, .tmp 3]) (by kernel_rfl) (Invokes.of (fn := Tryz.f87) (by kernel_rfl) (c := Tryz.f87.body.getD .skip) (by kernel_rfl) (by kernel_rfl)) (wqts k) h
    exact this.mono fun out ho => by
      unfold wqlp at ho
      split at ho <;> first | exact ho | cases ho
  · cases h
end Go.Proofs.YtpfbdepoammjmaaGreatDoor.Pvm

set_option maxRecDepth 1000000
set_option maxHeartbeats 0
namespace Go.Proofs.YtpfbdepoammjmaaGreatDoor.Pvm
open Go Go.Proofs
abbrev wqbd (R : Type) : Type := ((List (Int × (Int × (Int × ((List UInt8) × Bool))))) → Int → Int → Option R)
def wq10n : List LS := [.sl (.pr (.int .i64) (.pr (.int .i64) .str))]
noncomputable def wqzq (k : Nat) : CTab := (CTab.add 49 wq10m (wqod k) CTab.nil)
def wq6u {R : Type} (K : wqbd R) : Out → Option R
  | .ret [.v (.sl (.pr (.int .i64) (.pr (.int .i64) (.pr (.int .i64) (.pr .str .bool))))) y0, .agg [.v (.int .i64) y1, .v (.int .i64) y2]] [] => K y0 y1 y2
  | _ => none
def wqcx : RetSpec := ⟨[.sl (.pr (.int .i64) (.pr (.int .i64) (.pr (.int .i64) (.pr .str .bool)))), .ag [.any, .any]], [], []⟩
def wqyo : List (Nat × CutSpec) := [(1003, ⟨[(3, .obj 13 [.any, .any]), (4, .own 100004 97 (.pr (.int .i64) (.pr (.int .i64) (.pr (.int .i64) (.pr .str .bool))))), (9, .sl (.pr (.int .i64) (.pr (.int .i64) .str))), (10, .any), (11, .any)], []⟩)]
def wqxj : List (Nat × Plan) := [(7, (.of [(1, 1), (0, 1), (2, 0)] .done))]
noncomputable def wq24 (k : Nat) : Ctx := ⟨tyT, wqyo, wqzq k, [], [], wqxj, @SH⟩
noncomputable def wq42 : Code := Tryz.f19.body.getD .skip
def wq6d (s0 s1 : Int) (s2 : (List (Int × (Int × (Int × ((List UInt8) × Bool)))))) (s3 : (List (Int × (Int × (List UInt8))))) (s4 s5 : Int) : St := ⟨mkT [(3, .ptr 13 0), (4, .row 100004), (9, .v (.sl (.pr (.int .i64) (.pr (.int .i64) .str))) s3), (10, .v (.int .i64) s4), (11, .v (.int .i64) s5)], mkH [(13, .var 28 [.v (.int .i64) s0, .v (.int .i64) s1]), (100004, .row 97 (.pr (.int .i64) (.pr (.int .i64) (.pr (.int .i64) (.pr .str .bool)))) s2)]⟩
noncomputable def wq9n (k : Nat) {R : Type} (E1003 : (Int → Int → (List (Int × (Int × (Int × ((List UInt8) × Bool))))) → (List (Int × (Int × (List UInt8)))) → Int → Int → Option R)) (s0 s1 : Int) (s2 : (List (Int × (Int × (Int × ((List UInt8) × Bool)))))) (s3 : (List (Int × (Int × (List UInt8))))) (s4 s5 : Int) (K : wqbd R) : Option R := (@cond (@Option R) (@Decidable.decide (@LT.lt Int Int.instLTInt s5 s4) (@Int.decLt s5 s4)) (@cond (@Option R) (@inb s5 (@Nat.cast Int instNatCastInt (@List.length (@Kd.T (@Kd.pr kI (@Kd.pr kI Kd.str))) s3))) (@wqn4 k R (@List.getD (@Kd.T (@Kd.pr kI (@Kd.pr kI Kd.str))) s3 (@Int.toNat s5) (@Kd.zero (@Kd.pr kI (@Kd.pr kI Kd.str)))).1 (@List.getD (@Kd.T (@Kd.pr kI (@Kd.pr kI Kd.str))) s3 (@Int.toNat s5) (@Kd.zero (@Kd.pr kI (@Kd.pr kI Kd.str)))).2.1 (@List.getD (@Kd.T (@Kd.pr kI (@Kd.pr kI Kd.str))) s3 (@Int.toNat s5) (@Kd.zero (@Kd.pr kI (@Kd.pr kI Kd.str)))).2.2 (fun y10 y11 y12 => (@cond (@Option R) (@bne Int (@instBEqOfDecidableEq Int @Int.instDecidableEq) y11 (0 : Int)) (K [] y11 y12) (@cond (@Option R) (@fits (@List.length (@Kd.T (@Kd.pr kI (@Kd.pr kI (@Kd.pr kI (@Kd.pr Kd.str Kd.bool))))) s2) (@List.length (@Kd.T (@Kd.pr kI (@Kd.pr kI (@Kd.pr kI (@Kd.pr Kd.str Kd.bool))))) y10) (48 : Nat)) (E1003 s0 s1 (@HAppend.hAppend (@Kd.T (@Kd.sl (@Kd.pr kI (@Kd.pr kI (@Kd.pr kI (@Kd.pr Kd.str Kd.bool)))))) (@List (@Kd.T (@Kd.pr kI (@Kd.pr kI (@Kd.pr kI (@Kd.pr Kd.str Kd.bool)))))) (@Kd.T (@Kd.sl (@Kd.pr kI (@Kd.pr kI (@Kd.pr kI (@Kd.pr Kd.str Kd.bool)))))) (@instHAppendOfAppend (@Kd.T (@Kd.sl (@Kd.pr kI (@Kd.pr kI (@Kd.pr kI (@Kd.pr Kd.str Kd.bool)))))) (@List.instAppend (@Kd.T (@Kd.pr kI (@Kd.pr kI (@Kd.pr kI (@Kd.pr Kd.str Kd.bool))))))) s2 y10) s3 s4 (@Go.IntKind.wrap Go.IntKind.i64 (@HAdd.hAdd Int Int Int (@instHAdd Int @Int.instAdd) s5 (1 : Int)))) (@Option.none R))))) (@Option.none R)) (K s2 (0 : (@Kd.T kI)) (0 : (@Kd.T kI))))
theorem wqq0 (k : Nat) {R : Type} (I : Nat → St → Option R) (s0 s1 : Int) (s2 : (List (Int × (Int × (Int × ((List UInt8) × Bool)))))) (s3 : (List (Int × (Int × (List UInt8))))) (s4 s5 : Int) (K : wqbd R) : execK (wq24 k) k (at_ [1, 1, 0, 1, 0, 0] wq42) (wq6d s0 s1 s2 s3 s4 s5) (konts (wq24 k) k I [1, 1, 0, 1, 0, 0] wq42 (outK (wq24 k) wqcx [.tmp 2, .cell 3 28] (wq6u K))) = wq9n k (fun s0 s1 s2 s3 s4 s5 => I 1003 (wq6d s0 s1 s2 s3 s4 s5)) s0 s1 s2 s3 s4 s5 K := by kernel_rfl
noncomputable def wqqk (k : Nat) {R : Type} (E1003 : (Int → Int → (List (Int × (Int × (Int × ((List UInt8) × Bool))))) → (List (Int × (Int × (List UInt8)))) → Int → Int → Option R)) (x0 : (List (Int × (Int × (List UInt8))))) (K : wqbd R) : Option R := (E1003 (0 : (@Kd.T kI)) (0 : (@Kd.T kI)) [] x0 (@Nat.cast Int instNatCastInt (@List.length (@Kd.T (@Kd.pr kI (@Kd.pr kI Kd.str))) x0)) (0 : Int))
theorem wqyp (k : Nat) {R : Type} (I : Nat → St → Option R) (x0 : (List (Int × (Int × (List UInt8))))) (K : wqbd R) : fnK (wq24 k) k wq42 30 [.tmp 2, .cell 3 28] wqcx [.v (.sl (.pr (.int .i64) (.pr (.int .i64) .str))) x0] [] (wq6u K) = wqqk k (fun s0 s1 s2 s3 s4 s5 => iter (wq24 k).pv (look (wq24 k).cuts 1003) (execK (wq24 k) k (at_ [1, 1, 0, 1, 0, 0] wq42)) k (wq6d s0 s1 s2 s3 s4 s5) (konts (wq24 k) k I [1, 1, 0, 1, 0] wq42 (outK (wq24 k) wqcx [.tmp 2, .cell 3 28] (wq6u K)))) x0 K := by kernel_rfl
noncomputable def wq4o (k : Nat) {R : Type}  : Nat → Int → Int → (List (Int × (Int × (Int × ((List UInt8) × Bool))))) → (List (Int × (Int × (List UInt8)))) → Int → Int → ((List (Int × (Int × (Int × ((List UInt8) × Bool))))) → Int → Int → Option R) → Option R
  | 0, _, _, _, _, _, _, _ => none
  | n + 1, s0, s1, s2, s3, s4, s5, K => wq9n k (fun s0 s1 s2 s3 s4 s5 => wq4o k  n s0 s1 s2 s3 s4 s5 K) s0 s1 s2 s3 s4 s5 K
theorem wqq1 (k : Nat) {R : Type} (I : Nat → St → Option R) (K : wqbd R) : ∀ (n : Nat) (s0 s1 : Int) (s2 : (List (Int × (Int × (Int × ((List UInt8) × Bool)))))) (s3 : (List (Int × (Int × (List UInt8))))) (s4 s5 : Int), iter (wq24 k).pv (look (wq24 k).cuts 1003) (execK (wq24 k) k (at_ [1, 1, 0, 1, 0, 0] wq42)) n (wq6d s0 s1 s2 s3 s4 s5) (konts (wq24 k) k I [1, 1, 0, 1, 0] wq42 (outK (wq24 k) wqcx [.tmp 2, .cell 3 28] (wq6u K))) = wq4o k  n s0 s1 s2 s3 s4 s5 K := by
  intro n
  induction n with
  | zero => intros; rfl
  | succ n ih =>
    intro s0 s1 s2 s3 s4 s5
    let I' : Nat → St → Option R := fun id s => bif Nat.beq id 1003 then iter (wq24 k).pv (look (wq24 k).cuts 1003) (execK (wq24 k) k (at_ [1, 1, 0, 1, 0, 0] wq42)) n s (konts (wq24 k) k I [1, 1, 0, 1, 0] wq42 (outK (wq24 k) wqcx [.tmp 2, .cell 3 28] (wq6u K))) else I id s
    have e := wqq0 k I' s0 s1 s2 s3 s4 s5 K
    have h1003 : (fun s0 s1 s2 s3 s4 s5 => I' 1003 (wq6d s0 s1 s2 s3 s4 s5)) = (fun s0 s1 s2 s3 s4 s5 => wq4o k  n s0 s1 s2 s3 s4 s5 K) := by funext s0 s1 s2 s3 s4 s5; exact ih s0 s1 s2 s3 s4 s5
    refine Eq.trans (?_ : _ = _) (e.trans (Eq.trans ((congrArg ((fun E1003 => wq9n k E1003 s0 s1 s2 s3 s4 s5 K)) h1003)) (by rw [wq4o])))
    rfl
noncomputable def wqn5 (k : Nat) {R : Type} (x0 : (List (Int × (Int × (List UInt8))))) (K : wqbd R) : Option R := wqqk k (fun s0 s1 s2 s3 s4 s5 => wq4o k k s0 s1 s2 s3 s4 s5 K) x0 K
theorem wqyq (k : Nat) {R : Type} (x0 : (List (Int × (Int × (List UInt8))))) (K : wqbd R) : fnK (wq24 k) k wq42 30 [.tmp 2, .cell 3 28] wqcx [.v (.sl (.pr (.int .i64) (.pr (.int .i64) .str))) x0] [] (wq6u K) = wqn5 k x0 K := by
  let I : Nat → St → Option R := fun _ _ => none
  have h1003 : (fun s0 s1 s2 s3 s4 s5 => iter (wq24 k).pv (look (wq24 k).cuts 1003) (execK (wq24 k) k (at_ [1, 1, 0, 1, 0, 0] wq42)) k (wq6d s0 s1 s2 s3 s4 s5) (konts (wq24 k) k I [1, 1, 0, 1, 0] wq42 (outK (wq24 k) wqcx [.tmp 2, .cell 3 28] (wq6u K)))) = (fun s0 s1 s2 s3 s4 s5 => wq4o k k s0 s1 s2 s3 s4 s5 K) := by funext s0 s1 s2 s3 s4 s5; exact wqq1 k I K k s0 s1 s2 s3 s4 s5
  exact (wqyp k I x0 K).trans (congrArg ((fun E1003 => wqqk k E1003 x0 K)) h1003)
noncomputable def wqoe (k : Nat) {R : Type} : List PV → List (Nm × HObj) → (Out → Option R) → Option R
  | [.v (.sl (.pr (.int .i64) (.pr (.int .i64) .str))) x0], [], K => wqn5 k x0 (fun y0 y1 y2 => K (.ret [.v (.sl (.pr (.int .i64) (.pr (.int .i64) (.pr (.int .i64) (.pr .str .bool))))) y0, .agg [.v (.int .i64) y1, .v (.int .i64) y2]] []))
  | _, _, _ => none
theorem wqyr (k : Nat) : (wqzq k).Ok Tryz.prog := (CTab.add_ok (fun h => wq126 k h) CTab.nil_ok)
theorem wq127 (k : Nat) {ps : List PV} {hp : List (Nm × HObj)} {R : Type} {K : Out → Option R} {r : R} (h : wqoe k ps hp K = some r) : DoesTo Tryz.prog 19 ps hp fun out => K out = some r := by
  unfold wqoe at h
  split at h
  · rw [← wqyq] at h
    have := fn_ok (P := Tryz.prog) (cx := wq24 k) (f := 19) ⟨tyT_ok, wqyr k, fun _ _ => rfl⟩ (by kernel_rfl) (fn := Tryz.f19) (c := wq42) (by kernel_rfl) (by kernel_rfl) (by kernel_rfl) (rs := [.tmp 2, .cell 3 28]) (by kernel_rfl) (by kernel_rfl) h
    exact this.mono fun out ho => by
      unfold wq6u at ho
      split at ho <;> first | exact ho | cases ho
  · cases h
end Go.Proofs.YtpfbdepoammjmaaGreatDoor.Pvm

namespace Go.Proofs.YtpfbdepoammjmaaGreatDoor.Pvm
open Go Go.Proofs
theorem bytes_of {h : Heap} {G : Gh} {w : World} {P : Program} {x : List Int} {v : Value} (hv : RV h G w (.v (.sl (.int .u8)) x) v) : (Extern.Bytes.bytesOf v).run P w = .ok ⟨(ofBytes x).toArray⟩ w := by
  obtain ⟨A, cap, e, hcap, hr⟩ := hv
  simp only [List.cons.injEq, and_true] at e
  subst e
  rcases hr with rfl | ⟨ad, rfl, h1, h2, h3⟩
  · cases A with
    | none => rfl
    | some a => rfl
  · have hl := Lib.run_loadBytesX (P := P) w x ad .empty (fun j y hj => by
      obtain ⟨c, hc, hu⟩ := h3 j y hj
      have hc' : c = [.int .u8 y] := hc
      subst hc'
      have := hu 0 _ rfl
      have e1 : j * (Kd.int .u8).sz + 0 = j := by simp [Kd.sz]
      rw [e1] at this
      exact this)
    have e2 : (⟨ByteArray.empty.data ++ (Lib.bytesOf x).toArray⟩ : ByteArray) = ⟨(ofBytes x).toArray⟩ := by
      apply ByteArray.ext
      show (#[] : Array UInt8) ++ (Lib.bytesOf x).toArray = (ofBytes x).toArray
      simp [Lib.bytesOf, ofBytes]
    rw [e2] at hl
    exact hl
theorem fin_same {G : Gh} {w : World} : Fin [] [] G w G w :=
  ⟨fun n o h => (by cases h), fun n m b h => (by simp [blkOf, mkH, look] at h), fun n t cs h => (by cases h), fun _ _ _ => rfl, rfl, fun n b h => (by simp [blkOf, mkH, look] at h), Nat.le_refl _, rfl, rfl, rfl⟩
theorem run_row {P : Program} {f : FuncId} {fn : Func} {g : Array Value → Sem Value} (h1 : P.funcs[f]? = some fn) (h2 : (fn.name == "runtime.NumGoroutine") = false) (h3 : fn.body.isNone = true) (h4 : (Extern.findNext fn).isNone = true)
    (h5 : Extern.find fn = some g) (args : Array Value) (w : World) {v : Value} (h6 : (g args).run P w = .ok v w) : (callFunc f args).run P w = .ok (.value v) w := by
  have h4' : Extern.findNext fn = none := by
    cases hq : Extern.findNext fn with
    | none => rfl
    | some e => rw [hq] at h4; cases h4
  have h2' : ¬ fn.name = "runtime.NumGoroutine" := by simpa using h2
  have e1 : (callFunc f args).run P w = (g args >>= fun v => pure (Next.value v)).run P w := by
    unfold callFunc
    rw [Sem.run_bind]
    have e2 : (program).run P w = .ok P w := rfl
    rw [e2, Result.andThen_ok, h1]
    simp only [h2, h3, if_true, Bool.false_eq_true, if_false]
    rw [Sem.run_bind]
    have e3 : (mark (.extern f)).run P w = .ok () w := rfl
    rw [e3, Result.andThen_ok, h4', h5]
  rw [e1, Sem.run_bind, h6]
  rfl
end Go.Proofs.YtpfbdepoammjmaaGreatDoor.Pvm

set_option maxRecDepth 1000000
namespace Go.Proofs.YtpfbdepoammjmaaGreatDoor.Pvm
open Go Go.Proofs
def cntB (s : List UInt8) (c : UInt8) : Int := Lib.countByte s c
def wqw0 : List LS := [.sl (.int .u8), .any]
def wqs4 (k : Nat) {R : Type} (x0 : List Int) (x1 : Int) (K : Int → Option R) : Option R := K (cntB (ofBytes x0) (UInt8.ofNat x1.toNat))
def wqfw (k : Nat) {R : Type} : List PV → List (Nm × HObj) → (Out → Option R) → Option R
  | [.v (.sl (.int .u8)) x0, .v (.int .u8) x1], [], K => wqs4 k x0 x1 (fun y0 => K (.ret [.v (.int .i64) y0] []))
  | _, _, _ => none
theorem wqys (k : Nat) {ps : List PV} {hp : List (Nm × HObj)} {R : Type} {K : Out → Option R} {r : R} (h : wqfw k ps hp K = some r) : DoesTo Tryz.prog 151 ps hp fun out => K out = some r := by
  unfold wqfw at h
  split at h
  · next x0 x1 =>
    intro G w vals hr obj dis
    obtain ⟨v0, l0, rfl, h0, v1, l1, rfl, h1, rfl⟩ := hr
    have e1 : v1 = .int .u8 x1 := by simpa [RV, RD] using h1
    subst e1
    have hb := bytes_of (P := Tryz.prog) h0
    have hrun : (callFunc 151 #[v0, .int .u8 x1]).run Tryz.prog w = .ok (.value (.int .i64 (cntB (ofBytes x0) (UInt8.ofNat x1.toNat)))) w := by
      refine run_row (fn := Tryz.f151) (g := Extern.BytealgCount.count) (by kernel_rfl) (by kernel_rfl) (by kernel_rfl) (by kernel_rfl) (by kernel_rfl) _ w ?_
      have hs := Lib.run_countString (P := Tryz.prog) ⟨(ofBytes x0).toArray⟩ x1 w
      change Sem.run Tryz.prog (do
        let b ← Extern.Bytes.bytesOf v0
        let c' ← Extern.Bytes.asByte (.int .u8 x1)
        pure (goInt (b.foldl (fun n x => if x == c' then n + 1 else n) (0 : Nat)))) w = _
      change Sem.run Tryz.prog (do
        let b ← Extern.Bytes.bytesOf (.string ⟨(ofBytes x0).toArray⟩)
        let c' ← Extern.Bytes.asByte (.int .u8 x1)
        pure (goInt (b.foldl (fun n x => if x == c' then n + 1 else n) (0 : Nat)))) w = _ at hs
      rw [Sem.run_bind] at hs ⊢
      rw [hb]
      exact hs
    show Does _ _ #[_, _] _ _
    unfold Does
    rw [hrun]
    exact ⟨.ret [.v (.int .i64) _] [], h, G, ⟨_, rfl, rfl⟩, fin_same⟩
  · cases h
end Go.Proofs.YtpfbdepoammjmaaGreatDoor.Pvm

set_option maxRecDepth 1000000
set_option maxHeartbeats 0
namespace Go.Proofs.YtpfbdepoammjmaaGreatDoor.Pvm
open Go Go.Proofs
def wqtt : List LS := [.sl (.int .u8), .sl (.int .u8)]
noncomputable def wqpf (k : Nat) : CTab := (CTab.add 151 wqw0 (wqfw k) CTab.nil)
def wqcy {R : Type} (K : (Int → Option R)) : Out → Option R
  | .ret [.v (.int .i64) y0] [] => K y0
  | _ => none
def wqn6 : RetSpec := ⟨[.any], [], []⟩
def wqs5 : List (Nat × CutSpec) := []
def wqq2 : List (Nat × Plan) := []
noncomputable def wqfx (k : Nat) : Ctx := ⟨tyT, wqs5, wqpf k, [], [], wqq2, @SH⟩
noncomputable def wqcz : Code := Tryz.f117.body.getD .skip
noncomputable def wqpg (k : Nat) {R : Type}  (x0 : (List Int)) (x1 : Int) (K : (Int → Option R)) : Option R := (@wqs4 k R x0 (@List.getD (@Kd.T (@Kd.int Go.IntKind.u8)) (x1 :: []) (@Int.toNat (0 : Int)) (@Kd.zero (@Kd.int Go.IntKind.u8))) (fun y5 => (K y5)))
theorem wqs6 (k : Nat) {R : Type} (I : Nat → St → Option R) (x0 : (List Int)) (x1 : Int) (K : (Int → Option R)) : fnK (wqfx k) k wqcz 35 [.tmp 4] wqn6 [.v (.sl (.int .u8)) x0, .v (.sl (.int .u8)) [x1]] [] (wqcy K) = wqpg k  x0 x1 K := by kernel_rfl
noncomputable def wqbe (k : Nat) {R : Type} (x0 : (List Int)) (x1 : Int) (K : (Int → Option R)) : Option R := wqpg k  x0 x1 K
theorem wqs7 (k : Nat) {R : Type} (x0 : (List Int)) (x1 : Int) (K : (Int → Option R)) : fnK (wqfx k) k wqcz 35 [.tmp 4] wqn6 [.v (.sl (.int .u8)) x0, .v (.sl (.int .u8)) [x1]] [] (wqcy K) = wqbe k x0 x1 K := by
  exact wqs6 k (fun _ _ => none) x0 x1 K
noncomputable def wqe6 (k : Nat) {R : Type} : List PV → List (Nm × HObj) → (Out → Option R) → Option R
  | [.v (.sl (.int .u8)) x0, .v (.sl (.int .u8)) [x1]], [], K => wqbe k x0 x1 (fun y0 => K (.ret [.v (.int .i64) y0] []))
  | _, _, _ => none
theorem wqs8 (k : Nat) : (wqpf k).Ok Tryz.prog := (CTab.add_ok (fun h => wqys k h) CTab.nil_ok)
theorem wqxk (k : Nat) {ps : List PV} {hp : List (Nm × HObj)} {R : Type} {K : Out → Option R} {r : R} (h : wqe6 k ps hp K = some r) : DoesTo Tryz.prog 117 ps hp fun out => K out = some r := by
  unfold wqe6 at h
  split at h
  · rw [← wqs7] at h
    have := fn_ok (P := Tryz.prog) (cx := wqfx k) (f := 117) ⟨tyT_ok, wqs8 k, fun _ _ => rfl⟩ (by kernel_rfl) (fn := Tryz.f117) (c := wqcz) (by kernel_rfl) (by kernel_rfl) (by kernel_rfl) (rs := [.tmp 4]) (by kernel_rfl) (by kernel_rfl) h
    exact this.mono fun out ho => by
      unfold wqcy at ho
      split at ho <;> first | exact ho | cases ho
  · cases h
end Go.Proofs.YtpfbdepoammjmaaGreatDoor.Pvm

set_option maxRecDepth 1000000
namespace Go.Proofs.YtpfbdepoammjmaaGreatDoor.Pvm
open Go Go.Proofs
def wqof : List LS := [.sl (.int .u8), .any]
def wqhy (k : Nat) {R : Type} (x0 : List Int) (x1 : Int) (K : Int → Option R) : Option R := K (idxByte (ofBytes x0) x1)
def wqai (k : Nat) {R : Type} : List PV → List (Nm × HObj) → (Out → Option R) → Option R
  | [.v (.sl (.int .u8)) x0, .v (.int .u8) x1], [], K => wqhy k x0 x1 (fun y0 => K (.ret [.v (.int .i64) y0] []))
  | _, _, _ => none
theorem wqs9 (k : Nat) {ps : List PV} {hp : List (Nm × HObj)} {R : Type} {K : Out → Option R} {r : R} (h : wqai k ps hp K = some r) : DoesTo Tryz.prog 171 ps hp fun out => K out = some r := by
  unfold wqai at h
  split at h
  · next x0 x1 =>
    intro G w vals hr obj dis
    obtain ⟨v0, l0, rfl, h0, v1, l1, rfl, h1, rfl⟩ := hr
    have e1 : v1 = .int .u8 x1 := by simpa [RV, RD] using h1
    subst e1
    have hb := bytes_of (P := Tryz.prog) h0
    have hrun : (callFunc 171 #[v0, .int .u8 x1]).run Tryz.prog w = .ok (.value (.int .i64 (idxByte (ofBytes x0) x1))) w := by
      refine run_row (fn := Tryz.f171) (g := Extern.BytealgIndexByte.indexByte) (by kernel_rfl) (by kernel_rfl) (by kernel_rfl) (by kernel_rfl) (by kernel_rfl) _ w ?_
      have hs := wquu (P := Tryz.prog) (ofBytes x0) x1 w
      change Sem.run Tryz.prog (do
        let b ← Extern.Bytes.bytesOf v0
        let c ← Extern.Bytes.asByte (.int .u8 x1)
        match (List.range b.size).find? fun i => b[i]! == c with
        | some i => pure (goInt i)
        | none => pure (goInt (-1))) w = _
      change Sem.run Tryz.prog (do
        let b ← Extern.Bytes.bytesOf (.string ⟨(ofBytes x0).toArray⟩)
        let c ← Extern.Bytes.asByte (.int .u8 x1)
        match (List.range b.size).find? fun i => b[i]! == c with
        | some i => pure (goInt i)
        | none => pure (goInt (-1))) w = _ at hs
      rw [Sem.run_bind] at hs ⊢
      rw [hb]
      exact hs
    show Does _ _ #[_, _] _ _
    unfold Does
    rw [hrun]
    exact ⟨.ret [.v (.int .i64) _] [], h, G, ⟨_, rfl, rfl⟩, fin_same⟩
  · cases h
end Go.Proofs.YtpfbdepoammjmaaGreatDoor.Pvm

set_option maxRecDepth 1000000
set_option maxHeartbeats 0
namespace Go.Proofs.YtpfbdepoammjmaaGreatDoor.Pvm
open Go Go.Proofs
def wqn7 : List LS := [.sl (.int .u8), .any]
noncomputable def wqgs (k : Nat) : CTab := (CTab.add 171 wqof (wqai k) CTab.nil)
def wq8w {R : Type} (K : (Int → Option R)) : Out → Option R
  | .ret [.v (.int .i64) y0] [] => K y0
  | _ => none
def wqf5 : RetSpec := ⟨[.any], [], []⟩
def wqlq : List (Nat × CutSpec) := []
def wqjp : List (Nat × Plan) := []
noncomputable def wqaj (k : Nat) : Ctx := ⟨tyT, wqlq, wqgs k, [], [], wqjp, @SH⟩
noncomputable def wq8x : Code := Tryz.f152.body.getD .skip
noncomputable def wqgt (k : Nat) {R : Type}  (x0 : (List Int)) (x1 : Int) (K : (Int → Option R)) : Option R := (@wqhy k R x0 x1 (fun y5 => (K y5)))
theorem wqlr (k : Nat) {R : Type} (I : Nat → St → Option R) (x0 : (List Int)) (x1 : Int) (K : (Int → Option R)) : fnK (wqaj k) k wq8x 8 [.tmp 4] wqf5 [.v (.sl (.int .u8)) x0, .v (.int .u8) x1] [] (wq8w K) = wqgt k  x0 x1 K := by kernel_rfl
noncomputable def wqbz (k : Nat) {R : Type} (x0 : (List Int)) (x1 : Int) (K : (Int → Option R)) : Option R := wqgt k  x0 x1 K
theorem wqls (k : Nat) {R : Type} (x0 : (List Int)) (x1 : Int) (K : (Int → Option R)) : fnK (wqaj k) k wq8x 8 [.tmp 4] wqf5 [.v (.sl (.int .u8)) x0, .v (.int .u8) x1] [] (wq8w K) = wqbz k x0 x1 K := by
  exact wqlr k (fun _ _ => none) x0 x1 K
noncomputable def wq9o (k : Nat) {R : Type} : List PV → List (Nm × HObj) → (Out → Option R) → Option R
  | [.v (.sl (.int .u8)) x0, .v (.int .u8) x1], [], K => wqbz k x0 x1 (fun y0 => K (.ret [.v (.int .i64) y0] []))
  | _, _, _ => none
theorem wqlt (k : Nat) : (wqgs k).Ok Tryz.prog := (CTab.add_ok (fun h => wqs9 k h) CTab.nil_ok)
theorem wqq3 (k : Nat) {ps : List PV} {hp : List (Nm × HObj)} {R : Type} {K : Out → Option R} {r : R} (h : wq9o k ps hp K = some r) : DoesTo Tryz.prog 152 ps hp fun out => K out = some r := by
  unfold wq9o at h
  split at h
  · rw [← wqls] at h
    have := fn_ok (P := Tryz.prog) (cx := wqaj k) (f := 152) ⟨tyT_ok, wqlt k, fun _ _ => rfl⟩ (by kernel_rfl) (fn := Tryz.f152) (c := wq8x) (by kernel_rfl) (by kernel_rfl) (by kernel_rfl) (rs := [.tmp 4]) (by kernel_rfl) (by kernel_rfl) h
    exact this.mono fun out ho => by
      unfold wq8w at ho
      split at ho <;> first | exact ho | cases ho
  · cases h
end Go.Proofs.YtpfbdepoammjmaaGreatDoor.Pvm

set_option maxRecDepth 1000000
set_option maxHeartbeats 0
namespace Go.Proofs.YtpfbdepoammjmaaGreatDoor.Pvm
open Go Go.Proofs
def wqtu : List LS := [.sl (.int .u8), .sl (.int .u8)]
noncomputable def wqph (k : Nat) : CTab := (CTab.add 152 wqn7 (wq9o k) CTab.nil)
def wqd0 {R : Type} (K : (Int → Option R)) : Out → Option R
  | .ret [.v (.int .i64) y0] [] => K y0
  | _ => none
def wqn8 : RetSpec := ⟨[.any], [], []⟩
def wqsa : List (Nat × CutSpec) := []
def wqq4 : List (Nat × Plan) := []
noncomputable def wqfy (k : Nat) : Ctx := ⟨tyT, wqsa, wqph k, [], [], wqq4, @SH⟩
noncomputable def wqd1 : Code := Tryz.f118.body.getD .skip
noncomputable def wqpi (k : Nat) {R : Type}  (x0 : (List Int)) (x1 : Int) (K : (Int → Option R)) : Option R := (@wqbz k R x0 (@List.getD (@Kd.T (@Kd.int Go.IntKind.u8)) (x1 :: []) (@Int.toNat (0 : Int)) (@Kd.zero (@Kd.int Go.IntKind.u8))) (fun y5 => (K y5)))
theorem wqsb (k : Nat) {R : Type} (I : Nat → St → Option R) (x0 : (List Int)) (x1 : Int) (K : (Int → Option R)) : fnK (wqfy k) k wqd1 200 [.tmp 4] wqn8 [.v (.sl (.int .u8)) x0, .v (.sl (.int .u8)) [x1]] [] (wqd0 K) = wqpi k  x0 x1 K := by kernel_rfl
noncomputable def wqbf (k : Nat) {R : Type} (x0 : (List Int)) (x1 : Int) (K : (Int → Option R)) : Option R := wqpi k  x0 x1 K
theorem wqsc (k : Nat) {R : Type} (x0 : (List Int)) (x1 : Int) (K : (Int → Option R)) : fnK (wqfy k) k wqd1 200 [.tmp 4] wqn8 [.v (.sl (.int .u8)) x0, .v (.sl (.int .u8)) [x1]] [] (wqd0 K) = wqbf k x0 x1 K := by
  exact wqsb k (fun _ _ => none) x0 x1 K
noncomputable def wqe7 (k : Nat) {R : Type} : List PV → List (Nm × HObj) → (Out → Option R) → Option R
  | [.v (.sl (.int .u8)) x0, .v (.sl (.int .u8)) [x1]], [], K => wqbf k x0 x1 (fun y0 => K (.ret [.v (.int .i64) y0] []))
  | _, _, _ => none
theorem wqsd (k : Nat) : (wqph k).Ok Tryz.prog := (CTab.add_ok (fun h => wqq3 k h) CTab.nil_ok)
theorem wqxl (k : Nat) {ps : List PV} {hp : List (Nm × HObj)} {R : Type} {K : Out → Option R} {r : R} (h : wqe7 k ps hp K = some r) : DoesTo Tryz.prog 118 ps hp fun out => K out = some r := by
  unfold wqe7 at h
  split at h
  · rw [← wqsc] at h
    have := fn_ok (P := Tryz.prog) (cx := wqfy k) (f := 118) ⟨tyT_ok, wqsd k, fun _ _ => rfl⟩ (by kernel_rfl) (fn := Tryz.f118) (c := wqd1) (by kernel_rfl) (by kernel_rfl) (by kernel_rfl) (rs := [.tmp 4]) (by kernel_rfl) (by kernel_rfl) h
    exact this.mono fun out ho => by
      unfold wqd0 at ho
      split at ho <;> first | exact ho | cases ho
  · cases h
end Go.Proofs.YtpfbdepoammjmaaGreatDoor.Pvm

set_option maxRecDepth 1000000
set_option maxHeartbeats 0
namespace Go.Proofs.YtpfbdepoammjmaaGreatDoor.Pvm
open Go Go.Proofs
def wqog : List LS := [.sl (.int .u8), .sl (.int .u8), .any, .any]
noncomputable def wqhz (k : Nat) : CTab := (CTab.add 117 wqtt (wqe6 k) (CTab.add 118 wqtu (wqe7 k) CTab.nil))
def wq2y {R : Type} (K : ((List (List Int)) → Option R)) : Out → Option R
  | .ret [.v (.sl (.sl (.int .u8))) y0] [] => K y0
  | _ => none
def wq4l : RetSpec := ⟨[.sl (.sl (.int .u8))], [], []⟩
def wqn9 : List (Nat × CutSpec) := [(1011, ⟨[(0, .sl (.int .u8)), (1, .sl (.int .u8)), (2, .any), (3, .any), (9, .own 100009 22 (.sl (.int .u8))), (10, .any)], []⟩)]
def wqlu : List (Nat × Plan) := []
noncomputable def wqs (k : Nat) : Ctx := ⟨tyT, wqn9, wqhz k, [], [], wqlu, @SH⟩
noncomputable def wq1g : Code := Tryz.f79.body.getD .skip
def wq3a (s0 : (List Int)) (s1 s2 s3 : Int) (s4 : (List (List Int))) (s5 : Int) : St := ⟨mkT [(0, .v (.sl (.int .u8)) s0), (1, .v (.sl (.int .u8)) [s1]), (2, .v (.int .i64) s2), (3, .v (.int .i64) s3), (9, .row 100009), (10, .v (.int .i64) s5)], mkH [(100009, .row 22 (.sl (.int .u8)) s4)]⟩
noncomputable def wq5n (k : Nat) {R : Type} (E1011 : ((List Int) → Int → Int → Int → (List (List Int)) → Int → Option R)) (s0 : (List Int)) (s1 s2 s3 : Int) (s4 : (List (List Int))) (s5 : Int) (K : ((List (List Int)) → Option R)) : Option R := (@cond (@Option R) (@Decidable.decide (@LT.lt Int Int.instLTInt s5 s3) (@Int.decLt s5 s3)) (@wqbf k R s0 s1 (fun y10 => (@cond (@Option R) (@Decidable.decide (@LT.lt Int Int.instLTInt y10 (0 : Int)) (@Int.decLt y10 (0 : Int))) (@cond (@Option R) (@inb s5 (@Nat.cast Int instNatCastInt (@List.length (@Kd.T (@Kd.sl (@Kd.int Go.IntKind.u8))) s4))) (@cond (@Option R) (@bnd (0 : Int) (@Go.IntKind.wrap Go.IntKind.i64 (@HAdd.hAdd Int Int Int (@instHAdd Int @Int.instAdd) s5 (1 : Int))) (@Nat.cast Int instNatCastInt (@List.length (@Kd.T (@Kd.sl (@Kd.int Go.IntKind.u8))) (@List.set (@Kd.T (@Kd.sl (@Kd.int Go.IntKind.u8))) s4 (@Int.toNat s5) s0)))) (K (@cut (@Kd.T (@Kd.sl (@Kd.int Go.IntKind.u8))) (@List.set (@Kd.T (@Kd.sl (@Kd.int Go.IntKind.u8))) s4 (@Int.toNat s5) s0) (0 : Int) (@Go.IntKind.wrap Go.IntKind.i64 (@HAdd.hAdd Int Int Int (@instHAdd Int @Int.instAdd) s5 (1 : Int))))) (@Option.none R)) (@Option.none R)) (@cond (@Option R) (@Bool.and (@bnd (0 : Int) (@Go.IntKind.wrap Go.IntKind.i64 (@HAdd.hAdd Int Int Int (@instHAdd Int @Int.instAdd) y10 s2)) (@Go.IntKind.wrap Go.IntKind.i64 (@HAdd.hAdd Int Int Int (@instHAdd Int @Int.instAdd) y10 s2))) (@Decidable.decide (@LE.le Int Int.instLEInt (@Go.IntKind.wrap Go.IntKind.i64 (@HAdd.hAdd Int Int Int (@instHAdd Int @Int.instAdd) y10 s2)) (@Nat.cast Int instNatCastInt (@List.length (@Kd.T (@Kd.int Go.IntKind.u8)) s0))) (@Int.decLe (@Go.IntKind.wrap Go.IntKind.i64 (@HAdd.hAdd Int Int Int (@instHAdd Int @Int.instAdd) y10 s2)) (@Nat.cast Int instNatCastInt (@List.length (@Kd.T (@Kd.int Go.IntKind.u8)) s0))))) (@cond (@Option R) (@inb s5 (@Nat.cast Int instNatCastInt (@List.length (@Kd.T (@Kd.sl (@Kd.int Go.IntKind.u8))) s4))) (@cond (@Option R) (@bnd (@Go.IntKind.wrap Go.IntKind.i64 (@HAdd.hAdd Int Int Int (@instHAdd Int @Int.instAdd) y10 (@Nat.cast Int instNatCastInt (@List.length (@Kd.T (@Kd.int Go.IntKind.u8)) (s1 :: []))))) (@Nat.cast Int instNatCastInt (@List.length (@Kd.T (@Kd.int Go.IntKind.u8)) s0)) (@Nat.cast Int instNatCastInt (@List.length (@Kd.T (@Kd.int Go.IntKind.u8)) s0))) (E1011 (@cut (@Kd.T (@Kd.int Go.IntKind.u8)) s0 (@Go.IntKind.wrap Go.IntKind.i64 (@HAdd.hAdd Int Int Int (@instHAdd Int @Int.instAdd) y10 (@Nat.cast Int instNatCastInt (@List.length (@Kd.T (@Kd.int Go.IntKind.u8)) (s1 :: []))))) (@Nat.cast Int instNatCastInt (@List.length (@Kd.T (@Kd.int Go.IntKind.u8)) s0))) s1 s2 s3 (@List.set (@Kd.T (@Kd.sl (@Kd.int Go.IntKind.u8))) s4 (@Int.toNat s5) (@cut (@Kd.T (@Kd.int Go.IntKind.u8)) s0 (0 : Int) (@Go.IntKind.wrap Go.IntKind.i64 (@HAdd.hAdd Int Int Int (@instHAdd Int @Int.instAdd) y10 s2)))) (@Go.IntKind.wrap Go.IntKind.i64 (@HAdd.hAdd Int Int Int (@instHAdd Int @Int.instAdd) s5 (1 : Int)))) (@Option.none R)) (@Option.none R)) (@Option.none R))))) (@cond (@Option R) (@inb s5 (@Nat.cast Int instNatCastInt (@List.length (@Kd.T (@Kd.sl (@Kd.int Go.IntKind.u8))) s4))) (@cond (@Option R) (@bnd (0 : Int) (@Go.IntKind.wrap Go.IntKind.i64 (@HAdd.hAdd Int Int Int (@instHAdd Int @Int.instAdd) s5 (1 : Int))) (@Nat.cast Int instNatCastInt (@List.length (@Kd.T (@Kd.sl (@Kd.int Go.IntKind.u8))) (@List.set (@Kd.T (@Kd.sl (@Kd.int Go.IntKind.u8))) s4 (@Int.toNat s5) s0)))) (K (@cut (@Kd.T (@Kd.sl (@Kd.int Go.IntKind.u8))) (@List.set (@Kd.T (@Kd.sl (@Kd.int Go.IntKind.u8))) s4 (@Int.toNat s5) s0) (0 : Int) (@Go.IntKind.wrap Go.IntKind.i64 (@HAdd.hAdd Int Int Int (@instHAdd Int @Int.instAdd) s5 (1 : Int))))) (@Option.none R)) (@Option.none R)))
theorem wqfz (k : Nat) {R : Type} (I : Nat → St → Option R) (s0 : (List Int)) (s1 s2 s3 : Int) (s4 : (List (List Int))) (s5 : Int) (K : ((List (List Int)) → Option R)) : execK (wqs k) k (at_ [1, 1, 1, 1, 1, 1, 1, 1, 0, 0, 0] wq1g) (wq3a s0 s1 s2 s3 s4 s5) (konts (wqs k) k I [1, 1, 1, 1, 1, 1, 1, 1, 0, 0, 0] wq1g (outK (wqs k) wq4l [.tmp 8] (wq2y K))) = wq5n k (fun s0 s1 s2 s3 s4 s5 => I 1011 (wq3a s0 s1 s2 s3 s4 s5)) s0 s1 s2 s3 s4 s5 K := by kernel_rfl
noncomputable def wq9p (k : Nat) {R : Type} (E1011 : ((List Int) → Int → Int → Int → (List (List Int)) → Int → Option R)) (x0 : (List Int)) (x1 x2 x3 : Int) (K : ((List (List Int)) → Option R)) : Option R := (@cond (@Option R) (@BEq.beq Int (@instBEqOfDecidableEq Int @Int.instDecidableEq) x3 (0 : Int)) (K []) (@cond (@Option R) (@Decidable.decide (@LT.lt Int Int.instLTInt x3 (0 : Int)) (@Int.decLt x3 (0 : Int))) (@wqbe k R x0 x1 (fun y8 => (@cond (@Option R) (@mkB (@cond (@Kd.T kI) Bool.false (@ite (@Kd.T kI) (@GT.gt (@Kd.T kI) Int.instLTInt (@Go.IntKind.wrap Go.IntKind.i64 (@HAdd.hAdd Int Int Int (@instHAdd Int @Int.instAdd) (@Nat.cast Int instNatCastInt (@List.length (@Kd.T (@Kd.int Go.IntKind.u8)) x0)) (1 : Int))) (@Go.IntKind.wrap Go.IntKind.i64 (@HAdd.hAdd Int Int Int (@instHAdd Int @Int.instAdd) y8 (1 : Int)))) (@Int.decLt (@Go.IntKind.wrap Go.IntKind.i64 (@HAdd.hAdd Int Int Int (@instHAdd Int @Int.instAdd) y8 (1 : Int))) (@Go.IntKind.wrap Go.IntKind.i64 (@HAdd.hAdd Int Int Int (@instHAdd Int @Int.instAdd) (@Nat.cast Int instNatCastInt (@List.length (@Kd.T (@Kd.int Go.IntKind.u8)) x0)) (1 : Int)))) (@Go.IntKind.wrap Go.IntKind.i64 (@HAdd.hAdd Int Int Int (@instHAdd Int @Int.instAdd) (@Nat.cast Int instNatCastInt (@List.length (@Kd.T (@Kd.int Go.IntKind.u8)) x0)) (1 : Int))) (@Go.IntKind.wrap Go.IntKind.i64 (@HAdd.hAdd Int Int Int (@instHAdd Int @Int.instAdd) y8 (1 : Int)))) (@ite (@Kd.T kI) (@LT.lt (@Kd.T kI) Int.instLTInt (@Go.IntKind.wrap Go.IntKind.i64 (@HAdd.hAdd Int Int Int (@instHAdd Int @Int.instAdd) (@Nat.cast Int instNatCastInt (@List.length (@Kd.T (@Kd.int Go.IntKind.u8)) x0)) (1 : Int))) (@Go.IntKind.wrap Go.IntKind.i64 (@HAdd.hAdd Int Int Int (@instHAdd Int @Int.instAdd) y8 (1 : Int)))) (@Int.decLt (@Go.IntKind.wrap Go.IntKind.i64 (@HAdd.hAdd Int Int Int (@instHAdd Int @Int.instAdd) (@Nat.cast Int instNatCastInt (@List.length (@Kd.T (@Kd.int Go.IntKind.u8)) x0)) (1 : Int))) (@Go.IntKind.wrap Go.IntKind.i64 (@HAdd.hAdd Int Int Int (@instHAdd Int @Int.instAdd) y8 (1 : Int)))) (@Go.IntKind.wrap Go.IntKind.i64 (@HAdd.hAdd Int Int Int (@instHAdd Int @Int.instAdd) (@Nat.cast Int instNatCastInt (@List.length (@Kd.T (@Kd.int Go.IntKind.u8)) x0)) (1 : Int))) (@Go.IntKind.wrap Go.IntKind.i64 (@HAdd.hAdd Int Int Int (@instHAdd Int @Int.instAdd) y8 (1 : Int))))) (@cond (@Kd.T kI) Bool.false (@ite (@Kd.T kI) (@GT.gt (@Kd.T kI) Int.instLTInt (@Go.IntKind.wrap Go.IntKind.i64 (@HAdd.hAdd Int Int Int (@instHAdd Int @Int.instAdd) (@Nat.cast Int instNatCastInt (@List.length (@Kd.T (@Kd.int Go.IntKind.u8)) x0)) (1 : Int))) (@Go.IntKind.wrap Go.IntKind.i64 (@HAdd.hAdd Int Int Int (@instHAdd Int @Int.instAdd) y8 (1 : Int)))) (@Int.decLt (@Go.IntKind.wrap Go.IntKind.i64 (@HAdd.hAdd Int Int Int (@instHAdd Int @Int.instAdd) y8 (1 : Int))) (@Go.IntKind.wrap Go.IntKind.i64 (@HAdd.hAdd Int Int Int (@instHAdd Int @Int.instAdd) (@Nat.cast Int instNatCastInt (@List.length (@Kd.T (@Kd.int Go.IntKind.u8)) x0)) (1 : Int)))) (@Go.IntKind.wrap Go.IntKind.i64 (@HAdd.hAdd Int Int Int (@instHAdd Int @Int.instAdd) (@Nat.cast Int instNatCastInt (@List.length (@Kd.T (@Kd.int Go.IntKind.u8)) x0)) (1 : Int))) (@Go.IntKind.wrap Go.IntKind.i64 (@HAdd.hAdd Int Int Int (@instHAdd Int @Int.instAdd) y8 (1 : Int)))) (@ite (@Kd.T kI) (@LT.lt (@Kd.T kI) Int.instLTInt (@Go.IntKind.wrap Go.IntKind.i64 (@HAdd.hAdd Int Int Int (@instHAdd Int @Int.instAdd) (@Nat.cast Int instNatCastInt (@List.length (@Kd.T (@Kd.int Go.IntKind.u8)) x0)) (1 : Int))) (@Go.IntKind.wrap Go.IntKind.i64 (@HAdd.hAdd Int Int Int (@instHAdd Int @Int.instAdd) y8 (1 : Int)))) (@Int.decLt (@Go.IntKind.wrap Go.IntKind.i64 (@HAdd.hAdd Int Int Int (@instHAdd Int @Int.instAdd) (@Nat.cast Int instNatCastInt (@List.length (@Kd.T (@Kd.int Go.IntKind.u8)) x0)) (1 : Int))) (@Go.IntKind.wrap Go.IntKind.i64 (@HAdd.hAdd Int Int Int (@instHAdd Int @Int.instAdd) y8 (1 : Int)))) (@Go.IntKind.wrap Go.IntKind.i64 (@HAdd.hAdd Int Int Int (@instHAdd Int @Int.instAdd) (@Nat.cast Int instNatCastInt (@List.length (@Kd.T (@Kd.int Go.IntKind.u8)) x0)) (1 : Int))) (@Go.IntKind.wrap Go.IntKind.i64 (@HAdd.hAdd Int Int Int (@instHAdd Int @Int.instAdd) y8 (1 : Int))))) (24 : Nat)) (E1011 x0 x1 x2 (@Go.IntKind.wrap Go.IntKind.i64 (@HSub.hSub Int Int Int (@instHSub Int @Int.instSub) (@cond (@Kd.T kI) Bool.false (@ite (@Kd.T kI) (@GT.gt (@Kd.T kI) Int.instLTInt (@Go.IntKind.wrap Go.IntKind.i64 (@HAdd.hAdd Int Int Int (@instHAdd Int @Int.instAdd) (@Nat.cast Int instNatCastInt (@List.length (@Kd.T (@Kd.int Go.IntKind.u8)) x0)) (1 : Int))) (@Go.IntKind.wrap Go.IntKind.i64 (@HAdd.hAdd Int Int Int (@instHAdd Int @Int.instAdd) y8 (1 : Int)))) (@Int.decLt (@Go.IntKind.wrap Go.IntKind.i64 (@HAdd.hAdd Int Int Int (@instHAdd Int @Int.instAdd) y8 (1 : Int))) (@Go.IntKind.wrap Go.IntKind.i64 (@HAdd.hAdd Int Int Int (@instHAdd Int @Int.instAdd) (@Nat.cast Int instNatCastInt (@List.length (@Kd.T (@Kd.int Go.IntKind.u8)) x0)) (1 : Int)))) (@Go.IntKind.wrap Go.IntKind.i64 (@HAdd.hAdd Int Int Int (@instHAdd Int @Int.instAdd) (@Nat.cast Int instNatCastInt (@List.length (@Kd.T (@Kd.int Go.IntKind.u8)) x0)) (1 : Int))) (@Go.IntKind.wrap Go.IntKind.i64 (@HAdd.hAdd Int Int Int (@instHAdd Int @Int.instAdd) y8 (1 : Int)))) (@ite (@Kd.T kI) (@LT.lt (@Kd.T kI) Int.instLTInt (@Go.IntKind.wrap Go.IntKind.i64 (@HAdd.hAdd Int Int Int (@instHAdd Int @Int.instAdd) (@Nat.cast Int instNatCastInt (@List.length (@Kd.T (@Kd.int Go.IntKind.u8)) x0)) (1 : Int))) (@Go.IntKind.wrap Go.IntKind.i64 (@HAdd.hAdd Int Int Int (@instHAdd Int @Int.instAdd) y8 (1 : Int)))) (@Int.decLt (@Go.IntKind.wrap Go.IntKind.i64 (@HAdd.hAdd Int Int Int (@instHAdd Int @Int.instAdd) (@Nat.cast Int instNatCastInt (@List.length (@Kd.T (@Kd.int Go.IntKind.u8)) x0)) (1 : Int))) (@Go.IntKind.wrap Go.IntKind.i64 (@HAdd.hAdd Int Int Int (@instHAdd Int @Int.instAdd) y8 (1 : Int)))) (@Go.IntKind.wrap Go.IntKind.i64 (@HAdd.hAdd Int Int Int (@instHAdd Int @Int.instAdd) (@Nat.cast Int instNatCastInt (@List.length (@Kd.T (@Kd.int Go.IntKind.u8)) x0)) (1 : Int))) (@Go.IntKind.wrap Go.IntKind.i64 (@HAdd.hAdd Int Int Int (@instHAdd Int @Int.instAdd) y8 (1 : Int))))) (1 : Int))) (@zeros (@Kd.sl (@Kd.int Go.IntKind.u8)) (@cond (@Kd.T kI) Bool.false (@ite (@Kd.T kI) (@GT.gt (@Kd.T kI) Int.instLTInt (@Go.IntKind.wrap Go.IntKind.i64 (@HAdd.hAdd Int Int Int (@instHAdd Int @Int.instAdd) (@Nat.cast Int instNatCastInt (@List.length (@Kd.T (@Kd.int Go.IntKind.u8)) x0)) (1 : Int))) (@Go.IntKind.wrap Go.IntKind.i64 (@HAdd.hAdd Int Int Int (@instHAdd Int @Int.instAdd) y8 (1 : Int)))) (@Int.decLt (@Go.IntKind.wrap Go.IntKind.i64 (@HAdd.hAdd Int Int Int (@instHAdd Int @Int.instAdd) y8 (1 : Int))) (@Go.IntKind.wrap Go.IntKind.i64 (@HAdd.hAdd Int Int Int (@instHAdd Int @Int.instAdd) (@Nat.cast Int instNatCastInt (@List.length (@Kd.T (@Kd.int Go.IntKind.u8)) x0)) (1 : Int)))) (@Go.IntKind.wrap Go.IntKind.i64 (@HAdd.hAdd Int Int Int (@instHAdd Int @Int.instAdd) (@Nat.cast Int instNatCastInt (@List.length (@Kd.T (@Kd.int Go.IntKind.u8)) x0)) (1 : Int))) (@Go.IntKind.wrap Go.IntKind.i64 (@HAdd.hAdd Int Int Int (@instHAdd Int @Int.instAdd) y8 (1 : Int)))) (@ite (@Kd.T kI) (@LT.lt (@Kd.T kI) Int.instLTInt (@Go.IntKind.wrap Go.IntKind.i64 (@HAdd.hAdd Int Int Int (@instHAdd Int @Int.instAdd) (@Nat.cast Int instNatCastInt (@List.length (@Kd.T (@Kd.int Go.IntKind.u8)) x0)) (1 : Int))) (@Go.IntKind.wrap Go.IntKind.i64 (@HAdd.hAdd Int Int Int (@instHAdd Int @Int.instAdd) y8 (1 : Int)))) (@Int.decLt (@Go.IntKind.wrap Go.IntKind.i64 (@HAdd.hAdd Int Int Int (@instHAdd Int @Int.instAdd) (@Nat.cast Int instNatCastInt (@List.length (@Kd.T (@Kd.int Go.IntKind.u8)) x0)) (1 : Int))) (@Go.IntKind.wrap Go.IntKind.i64 (@HAdd.hAdd Int Int Int (@instHAdd Int @Int.instAdd) y8 (1 : Int)))) (@Go.IntKind.wrap Go.IntKind.i64 (@HAdd.hAdd Int Int Int (@instHAdd Int @Int.instAdd) (@Nat.cast Int instNatCastInt (@List.length (@Kd.T (@Kd.int Go.IntKind.u8)) x0)) (1 : Int))) (@Go.IntKind.wrap Go.IntKind.i64 (@HAdd.hAdd Int Int Int (@instHAdd Int @Int.instAdd) y8 (1 : Int)))))) (0 : Int)) (@Option.none R)))) (@cond (@Option R) (@mkB (@cond (@Kd.T kI) Bool.false (@ite (@Kd.T kI) (@GT.gt (@Kd.T kI) Int.instLTInt (@Go.IntKind.wrap Go.IntKind.i64 (@HAdd.hAdd Int Int Int (@instHAdd Int @Int.instAdd) (@Nat.cast Int instNatCastInt (@List.length (@Kd.T (@Kd.int Go.IntKind.u8)) x0)) (1 : Int))) x3) (@Int.decLt x3 (@Go.IntKind.wrap Go.IntKind.i64 (@HAdd.hAdd Int Int Int (@instHAdd Int @Int.instAdd) (@Nat.cast Int instNatCastInt (@List.length (@Kd.T (@Kd.int Go.IntKind.u8)) x0)) (1 : Int)))) (@Go.IntKind.wrap Go.IntKind.i64 (@HAdd.hAdd Int Int Int (@instHAdd Int @Int.instAdd) (@Nat.cast Int instNatCastInt (@List.length (@Kd.T (@Kd.int Go.IntKind.u8)) x0)) (1 : Int))) x3) (@ite (@Kd.T kI) (@LT.lt (@Kd.T kI) Int.instLTInt (@Go.IntKind.wrap Go.IntKind.i64 (@HAdd.hAdd Int Int Int (@instHAdd Int @Int.instAdd) (@Nat.cast Int instNatCastInt (@List.length (@Kd.T (@Kd.int Go.IntKind.u8)) x0)) (1 : Int))) x3) (@Int.decLt (@Go.IntKind.wrap Go.IntKind.i64 (@HAdd.hAdd Int Int Int (@instHAdd Int @Int.instAdd) (@Nat.cast Int instNatCastInt (@List.length (@Kd.T (@Kd.int Go.IntKind.u8)) x0)) (1 : Int))) x3) (@Go.IntKind.wrap Go.IntKind.i64 (@HAdd.hAdd Int Int Int (@instHAdd Int @Int.instAdd) (@Nat.cast Int instNatCastInt (@List.length (@Kd.T (@Kd.int Go.IntKind.u8)) x0)) (1 : Int))) x3)) (@cond (@Kd.T kI) Bool.false (@ite (@Kd.T kI) (@GT.gt (@Kd.T kI) Int.instLTInt (@Go.IntKind.wrap Go.IntKind.i64 (@HAdd.hAdd Int Int Int (@instHAdd Int @Int.instAdd) (@Nat.cast Int instNatCastInt (@List.length (@Kd.T (@Kd.int Go.IntKind.u8)) x0)) (1 : Int))) x3) (@Int.decLt x3 (@Go.IntKind.wrap Go.IntKind.i64 (@HAdd.hAdd Int Int Int (@instHAdd Int @Int.instAdd) (@Nat.cast Int instNatCastInt (@List.length (@Kd.T (@Kd.int Go.IntKind.u8)) x0)) (1 : Int)))) (@Go.IntKind.wrap Go.IntKind.i64 (@HAdd.hAdd Int Int Int (@instHAdd Int @Int.instAdd) (@Nat.cast Int instNatCastInt (@List.length (@Kd.T (@Kd.int Go.IntKind.u8)) x0)) (1 : Int))) x3) (@ite (@Kd.T kI) (@LT.lt (@Kd.T kI) Int.instLTInt (@Go.IntKind.wrap Go.IntKind.i64 (@HAdd.hAdd Int Int Int (@instHAdd Int @Int.instAdd) (@Nat.cast Int instNatCastInt (@List.length (@Kd.T (@Kd.int Go.IntKind.u8)) x0)) (1 : Int))) x3) (@Int.decLt (@Go.IntKind.wrap Go.IntKind.i64 (@HAdd.hAdd Int Int Int (@instHAdd Int @Int.instAdd) (@Nat.cast Int instNatCastInt (@List.length (@Kd.T (@Kd.int Go.IntKind.u8)) x0)) (1 : Int))) x3) (@Go.IntKind.wrap Go.IntKind.i64 (@HAdd.hAdd Int Int Int (@instHAdd Int @Int.instAdd) (@Nat.cast Int instNatCastInt (@List.length (@Kd.T (@Kd.int Go.IntKind.u8)) x0)) (1 : Int))) x3)) (24 : Nat)) (E1011 x0 x1 x2 (@Go.IntKind.wrap Go.IntKind.i64 (@HSub.hSub Int Int Int (@instHSub Int @Int.instSub) (@cond (@Kd.T kI) Bool.false (@ite (@Kd.T kI) (@GT.gt (@Kd.T kI) Int.instLTInt (@Go.IntKind.wrap Go.IntKind.i64 (@HAdd.hAdd Int Int Int (@instHAdd Int @Int.instAdd) (@Nat.cast Int instNatCastInt (@List.length (@Kd.T (@Kd.int Go.IntKind.u8)) x0)) (1 : Int))) x3) (@Int.decLt x3 (@Go.IntKind.wrap Go.IntKind.i64 (@HAdd.hAdd Int Int Int (@instHAdd Int @Int.instAdd) (@Nat.cast Int instNatCastInt (@List.length (@Kd.T (@Kd.int Go.IntKind.u8)) x0)) (1 : Int)))) (@Go.IntKind.wrap Go.IntKind.i64 (@HAdd.hAdd Int Int Int (@instHAdd Int @Int.instAdd) (@Nat.cast Int instNatCastInt (@List.length (@Kd.T (@Kd.int Go.IntKind.u8)) x0)) (1 : Int))) x3) (@ite (@Kd.T kI) (@LT.lt (@Kd.T kI) Int.instLTInt (@Go.IntKind.wrap Go.IntKind.i64 (@HAdd.hAdd Int Int Int (@instHAdd Int @Int.instAdd) (@Nat.cast Int instNatCastInt (@List.length (@Kd.T (@Kd.int Go.IntKind.u8)) x0)) (1 : Int))) x3) (@Int.decLt (@Go.IntKind.wrap Go.IntKind.i64 (@HAdd.hAdd Int Int Int (@instHAdd Int @Int.instAdd) (@Nat.cast Int instNatCastInt (@List.length (@Kd.T (@Kd.int Go.IntKind.u8)) x0)) (1 : Int))) x3) (@Go.IntKind.wrap Go.IntKind.i64 (@HAdd.hAdd Int Int Int (@instHAdd Int @Int.instAdd) (@Nat.cast Int instNatCastInt (@List.length (@Kd.T (@Kd.int Go.IntKind.u8)) x0)) (1 : Int))) x3)) (1 : Int))) (@zeros (@Kd.sl (@Kd.int Go.IntKind.u8)) (@cond (@Kd.T kI) Bool.false (@ite (@Kd.T kI) (@GT.gt (@Kd.T kI) Int.instLTInt (@Go.IntKind.wrap Go.IntKind.i64 (@HAdd.hAdd Int Int Int (@instHAdd Int @Int.instAdd) (@Nat.cast Int instNatCastInt (@List.length (@Kd.T (@Kd.int Go.IntKind.u8)) x0)) (1 : Int))) x3) (@Int.decLt x3 (@Go.IntKind.wrap Go.IntKind.i64 (@HAdd.hAdd Int Int Int (@instHAdd Int @Int.instAdd) (@Nat.cast Int instNatCastInt (@List.length (@Kd.T (@Kd.int Go.IntKind.u8)) x0)) (1 : Int)))) (@Go.IntKind.wrap Go.IntKind.i64 (@HAdd.hAdd Int Int Int (@instHAdd Int @Int.instAdd) (@Nat.cast Int instNatCastInt (@List.length (@Kd.T (@Kd.int Go.IntKind.u8)) x0)) (1 : Int))) x3) (@ite (@Kd.T kI) (@LT.lt (@Kd.T kI) Int.instLTInt (@Go.IntKind.wrap Go.IntKind.i64 (@HAdd.hAdd Int Int Int (@instHAdd Int @Int.instAdd) (@Nat.cast Int instNatCastInt (@List.length (@Kd.T (@Kd.int Go.IntKind.u8)) x0)) (1 : Int))) x3) (@Int.decLt (@Go.IntKind.wrap Go.IntKind.i64 (@HAdd.hAdd Int Int Int (@instHAdd Int @Int.instAdd) (@Nat.cast Int instNatCastInt (@List.length (@Kd.T (@Kd.int Go.IntKind.u8)) x0)) (1 : Int))) x3) (@Go.IntKind.wrap Go.IntKind.i64 (@HAdd.hAdd Int Int Int (@instHAdd Int @Int.instAdd) (@Nat.cast Int instNatCastInt (@List.length (@Kd.T (@Kd.int Go.IntKind.u8)) x0)) (1 : Int))) x3))) (0 : Int)) (@Option.none R))))
theorem wqna (k : Nat) {R : Type} (I : Nat → St → Option R) (x0 : (List Int)) (x1 x2 x3 : Int) (K : ((List (List Int)) → Option R)) : fnK (wqs k) k wq1g 70 [.tmp 8] wq4l [.v (.sl (.int .u8)) x0, .v (.sl (.int .u8)) [x1], .v (.int .i64) x2, .v (.int .i64) x3] [] (wq2y K) = wq9p k (fun s0 s1 s2 s3 s4 s5 => iter (wqs k).pv (look (wqs k).cuts 1011) (execK (wqs k) k (at_ [1, 1, 1, 1, 1, 1, 1, 1, 0, 0, 0] wq1g)) k (wq3a s0 s1 s2 s3 s4 s5) (konts (wqs k) k I [1, 1, 1, 1, 1, 1, 1, 1, 0, 0] wq1g (outK (wqs k) wq4l [.tmp 8] (wq2y K)))) x0 x1 x2 x3 K := by kernel_rfl
noncomputable def wq2g (k : Nat) {R : Type}  : Nat → (List Int) → Int → Int → Int → (List (List Int)) → Int → ((List (List Int)) → Option R) → Option R
  | 0, _, _, _, _, _, _, _ => none
  | n + 1, s0, s1, s2, s3, s4, s5, K => wq5n k (fun s0 s1 s2 s3 s4 s5 => wq2g k  n s0 s1 s2 s3 s4 s5 K) s0 s1 s2 s3 s4 s5 K
theorem wqg0 (k : Nat) {R : Type} (I : Nat → St → Option R) (K : ((List (List Int)) → Option R)) : ∀ (n : Nat) (s0 : (List Int)) (s1 s2 s3 : Int) (s4 : (List (List Int))) (s5 : Int), iter (wqs k).pv (look (wqs k).cuts 1011) (execK (wqs k) k (at_ [1, 1, 1, 1, 1, 1, 1, 1, 0, 0, 0] wq1g)) n (wq3a s0 s1 s2 s3 s4 s5) (konts (wqs k) k I [1, 1, 1, 1, 1, 1, 1, 1, 0, 0] wq1g (outK (wqs k) wq4l [.tmp 8] (wq2y K))) = wq2g k  n s0 s1 s2 s3 s4 s5 K := by
  intro n
  induction n with
  | zero => intros; rfl
  | succ n ih =>
    intro s0 s1 s2 s3 s4 s5
    let I' : Nat → St → Option R := fun id s => bif Nat.beq id 1011 then iter (wqs k).pv (look (wqs k).cuts 1011) (execK (wqs k) k (at_ [1, 1, 1, 1, 1, 1, 1, 1, 0, 0, 0] wq1g)) n s (konts (wqs k) k I [1, 1, 1, 1, 1, 1, 1, 1, 0, 0] wq1g (outK (wqs k) wq4l [.tmp 8] (wq2y K))) else I id s
    have e := wqfz k I' s0 s1 s2 s3 s4 s5 K
    have h1011 : (fun s0 s1 s2 s3 s4 s5 => I' 1011 (wq3a s0 s1 s2 s3 s4 s5)) = (fun s0 s1 s2 s3 s4 s5 => wq2g k  n s0 s1 s2 s3 s4 s5 K) := by funext s0 s1 s2 s3 s4 s5; exact ih s0 s1 s2 s3 s4 s5
    refine Eq.trans (?_ : _ = _) (e.trans (Eq.trans ((congrArg ((fun E1011 => wq5n k E1011 s0 s1 s2 s3 s4 s5 K)) h1011)) (by rw [wq2g])))
    rfl
noncomputable def wq9q (k : Nat) {R : Type} (x0 : (List Int)) (x1 x2 x3 : Int) (K : ((List (List Int)) → Option R)) : Option R := wq9p k (fun s0 s1 s2 s3 s4 s5 => wq2g k k s0 s1 s2 s3 s4 s5 K) x0 x1 x2 x3 K
theorem wqnb (k : Nat) {R : Type} (x0 : (List Int)) (x1 x2 x3 : Int) (K : ((List (List Int)) → Option R)) : fnK (wqs k) k wq1g 70 [.tmp 8] wq4l [.v (.sl (.int .u8)) x0, .v (.sl (.int .u8)) [x1], .v (.int .i64) x2, .v (.int .i64) x3] [] (wq2y K) = wq9q k x0 x1 x2 x3 K := by
  let I : Nat → St → Option R := fun _ _ => none
  have h1011 : (fun s0 s1 s2 s3 s4 s5 => iter (wqs k).pv (look (wqs k).cuts 1011) (execK (wqs k) k (at_ [1, 1, 1, 1, 1, 1, 1, 1, 0, 0, 0] wq1g)) k (wq3a s0 s1 s2 s3 s4 s5) (konts (wqs k) k I [1, 1, 1, 1, 1, 1, 1, 1, 0, 0] wq1g (outK (wqs k) wq4l [.tmp 8] (wq2y K)))) = (fun s0 s1 s2 s3 s4 s5 => wq2g k k s0 s1 s2 s3 s4 s5 K) := by funext s0 s1 s2 s3 s4 s5; exact wqg0 k I K k s0 s1 s2 s3 s4 s5
  exact (wqna k I x0 x1 x2 x3 K).trans (congrArg ((fun E1011 => wq9p k E1011 x0 x1 x2 x3 K)) h1011)
noncomputable def wqak (k : Nat) {R : Type} : List PV → List (Nm × HObj) → (Out → Option R) → Option R
  | [.v (.sl (.int .u8)) x0, .v (.sl (.int .u8)) [x1], .v (.int .i64) x2, .v (.int .i64) x3], [], K => wq9q k x0 x1 x2 x3 (fun y0 => K (.ret [.v (.sl (.sl (.int .u8))) y0] []))
  | _, _, _ => none
theorem wqnc (k : Nat) : (wqhz k).Ok Tryz.prog := (CTab.add_ok (fun h => wqxk k h) (CTab.add_ok (fun h => wqxl k h) CTab.nil_ok))
theorem wqse (k : Nat) {ps : List PV} {hp : List (Nm × HObj)} {R : Type} {K : Out → Option R} {r : R} (h : wqak k ps hp K = some r) : DoesTo Tryz.prog 79 ps hp fun out => K out = some r := by
  unfold wqak at h
  split at h
  · rw [← wqnb] at h
    have := fn_ok (P := Tryz.prog) (cx := wqs k) (f := 79) ⟨tyT_ok, wqnc k, fun _ _ => rfl⟩ (by kernel_rfl) (fn := Tryz.f79) (c := wq1g) (by kernel_rfl) (by kernel_rfl) (by kernel_rfl) (rs := [.tmp 8]) (by kernel_rfl) (by kernel_rfl) h
    exact this.mono fun out ho => by
      unfold wq2y at ho
      split at ho <;> first | exact ho | cases ho
  · cases h
end Go.Proofs.YtpfbdepoammjmaaGreatDoor.Pvm

set_option maxRecDepth 1000000
set_option maxHeartbeats 0
namespace Go.Proofs.YtpfbdepoammjmaaGreatDoor.Pvm
open Go Go.Proofs
def wqtv : List LS := [.sl (.int .u8), .sl (.int .u8)]
noncomputable def wqpj (k : Nat) : CTab := (CTab.add 79 wqog (wqak k) CTab.nil)
def wqd2 {R : Type} (K : ((List (List Int)) → Option R)) : Out → Option R
  | .ret [.v (.sl (.sl (.int .u8))) y0] [] => K y0
  | _ => none
def wqnd : RetSpec := ⟨[.sl (.sl (.int .u8))], [], []⟩
def wqsf : List (Nat × CutSpec) := []
def wqq5 : List (Nat × Plan) := []
noncomputable def wqg1 (k : Nat) : Ctx := ⟨tyT, wqsf, wqpj k, [], [], wqq5, @SH⟩
noncomputable def wqd3 : Code := Tryz.f44.body.getD .skip
noncomputable def wqi0 (k : Nat) {R : Type}  (x0 : (List Int)) (x1 : Int) (K : ((List (List Int)) → Option R)) : Option R := (@wq9q k R x0 x1 (0 : Int) (@Neg.neg Int @Int.instNegInt (1 : Int)) (fun y5 => (K y5)))
theorem wqsg (k : Nat) {R : Type} (I : Nat → St → Option R) (x0 : (List Int)) (x1 : Int) (K : ((List (List Int)) → Option R)) : fnK (wqg1 k) k wqd3 8 [.tmp 4] wqnd [.v (.sl (.int .u8)) x0, .v (.sl (.int .u8)) [x1]] [] (wqd2 K) = wqi0 k  x0 x1 K := by kernel_rfl
noncomputable def wqbg (k : Nat) {R : Type} (x0 : (List Int)) (x1 : Int) (K : ((List (List Int)) → Option R)) : Option R := wqi0 k  x0 x1 K
theorem wqsh (k : Nat) {R : Type} (x0 : (List Int)) (x1 : Int) (K : ((List (List Int)) → Option R)) : fnK (wqg1 k) k wqd3 8 [.tmp 4] wqnd [.v (.sl (.int .u8)) x0, .v (.sl (.int .u8)) [x1]] [] (wqd2 K) = wqbg k x0 x1 K := by
  exact wqsg k (fun _ _ => none) x0 x1 K
noncomputable def wqe8 (k : Nat) {R : Type} : List PV → List (Nm × HObj) → (Out → Option R) → Option R
  | [.v (.sl (.int .u8)) x0, .v (.sl (.int .u8)) [x1]], [], K => wqbg k x0 x1 (fun y0 => K (.ret [.v (.sl (.sl (.int .u8))) y0] []))
  | _, _, _ => none
theorem wqsi (k : Nat) : (wqpj k).Ok Tryz.prog := (CTab.add_ok (fun h => wqse k h) CTab.nil_ok)
theorem wqxm (k : Nat) {ps : List PV} {hp : List (Nm × HObj)} {R : Type} {K : Out → Option R} {r : R} (h : wqe8 k ps hp K = some r) : DoesTo Tryz.prog 44 ps hp fun out => K out = some r := by
  unfold wqe8 at h
  split at h
  · rw [← wqsh] at h
    have := fn_ok (P := Tryz.prog) (cx := wqg1 k) (f := 44) ⟨tyT_ok, wqsi k, fun _ _ => rfl⟩ (by kernel_rfl) (fn := Tryz.f44) (c := wqd3) (by kernel_rfl) (by kernel_rfl) (by kernel_rfl) (rs := [.tmp 4]) (by kernel_rfl) (by kernel_rfl) h
    exact this.mono fun out ho => by
      unfold wqd2 at ho
      split at ho <;> first | exact ho | cases ho
  · cases h
end Go.Proofs.YtpfbdepoammjmaaGreatDoor.Pvm

set_option maxRecDepth 1000000
set_option maxHeartbeats 0
namespace Go.Proofs.YtpfbdepoammjmaaGreatDoor.Pvm
open Go Go.Proofs
def wqtw : List LS := [.any, .any]
noncomputable def wqpk (k : Nat) : CTab := CTab.nil
def wq4a {R : Type} (K : (Int → Bool → Option R)) : Out → Option R
  | .ret [.v (.int .i64) y0, .v .bool y1] [] => K y0 y1
  | _ => none
def wq63 : RetSpec := ⟨[.any, .any], [], []⟩
def wqsj : List (Nat × CutSpec) := [(1003, ⟨[(0, .any), (6, .any), (7, .any)], []⟩)]
def wqq6 : List (Nat × Plan) := []
noncomputable def wqy (k : Nat) : Ctx := ⟨tyT, wqsj, wqpk k, [], [], wqq6, @SH⟩
noncomputable def wq1z : Code := Tryz.f85.body.getD .skip
def wq4e (s0 : (List UInt8)) (s1 s2 : Int) : St := ⟨mkT [(0, .v .str s0), (6, .v (.int .u8) s1), (7, .v (.int .i64) s2)], mkH []⟩
noncomputable def wq76 (k : Nat) {R : Type} (E1003 : ((List UInt8) → Int → Int → Option R)) (s0 : (List UInt8)) (s1 s2 : Int) (K : (Int → Bool → Option R)) : Option R := (@cond (@Option R) (@Decidable.decide (@LT.lt Int Int.instLTInt s2 (@Nat.cast Int instNatCastInt (@List.length UInt8 s0))) (@Int.decLt s2 (@Nat.cast Int instNatCastInt (@List.length UInt8 s0)))) (@cond (@Option R) (@Bool.or (@Bool.not (@BEq.beq (@Kd.T Kd.bool) (@instBEqOfDecidableEq (@Kd.T Kd.bool) @instDecidableEqBool) (@BEq.beq Int (@instBEqOfDecidableEq Int @Int.instDecidableEq) s1 (34 : Int)) Bool.true)) (@inb s2 (@Nat.cast Int instNatCastInt (@List.length UInt8 s0)))) (@cond (@Option R) (@cond (@Kd.T Kd.bool) (@BEq.beq Int (@instBEqOfDecidableEq Int @Int.instDecidableEq) s1 (34 : Int)) (@BEq.beq Int (@instBEqOfDecidableEq Int @Int.instDecidableEq) (@Nat.cast Int instNatCastInt (@UInt8.toNat (@List.getD UInt8 s0 (@Int.toNat s2) (0 : UInt8)))) (92 : Int)) Bool.false) (E1003 s0 s1 (@Go.IntKind.wrap Go.IntKind.i64 (@HAdd.hAdd Int Int Int (@instHAdd Int @Int.instAdd) (@Go.IntKind.wrap Go.IntKind.i64 (@HAdd.hAdd Int Int Int (@instHAdd Int @Int.instAdd) s2 (1 : Int))) (1 : Int)))) (@cond (@Option R) (@inb s2 (@Nat.cast Int instNatCastInt (@List.length UInt8 s0))) (@cond (@Option R) (@bne Int (@instBEqOfDecidableEq Int @Int.instDecidableEq) (@Nat.cast Int instNatCastInt (@UInt8.toNat (@List.getD UInt8 s0 (@Int.toNat s2) (0 : UInt8)))) s1) (E1003 s0 s1 (@Go.IntKind.wrap Go.IntKind.i64 (@HAdd.hAdd Int Int Int (@instHAdd Int @Int.instAdd) s2 (1 : Int)))) (@cond (@Option R) (@Bool.or (@Bool.not (@BEq.beq (@Kd.T Kd.bool) (@instBEqOfDecidableEq (@Kd.T Kd.bool) @instDecidableEqBool) (@cond (@Kd.T Kd.bool) (@BEq.beq Int (@instBEqOfDecidableEq Int @Int.instDecidableEq) s1 (39 : Int)) (@Decidable.decide (@LT.lt Int Int.instLTInt (@Go.IntKind.wrap Go.IntKind.i64 (@HAdd.hAdd Int Int Int (@instHAdd Int @Int.instAdd) s2 (1 : Int))) (@Nat.cast Int instNatCastInt (@List.length UInt8 s0))) (@Int.decLt (@Go.IntKind.wrap Go.IntKind.i64 (@HAdd.hAdd Int Int Int (@instHAdd Int @Int.instAdd) s2 (1 : Int))) (@Nat.cast Int instNatCastInt (@List.length UInt8 s0)))) Bool.false) Bool.true)) (@inb (@Go.IntKind.wrap Go.IntKind.i64 (@HAdd.hAdd Int Int Int (@instHAdd Int @Int.instAdd) s2 (1 : Int))) (@Nat.cast Int instNatCastInt (@List.length UInt8 s0)))) (@cond (@Option R) (@cond (@Kd.T Kd.bool) (@cond (@Kd.T Kd.bool) (@BEq.beq Int (@instBEqOfDecidableEq Int @Int.instDecidableEq) s1 (39 : Int)) (@Decidable.decide (@LT.lt Int Int.instLTInt (@Go.IntKind.wrap Go.IntKind.i64 (@HAdd.hAdd Int Int Int (@instHAdd Int @Int.instAdd) s2 (1 : Int))) (@Nat.cast Int instNatCastInt (@List.length UInt8 s0))) (@Int.decLt (@Go.IntKind.wrap Go.IntKind.i64 (@HAdd.hAdd Int Int Int (@instHAdd Int @Int.instAdd) s2 (1 : Int))) (@Nat.cast Int instNatCastInt (@List.length UInt8 s0)))) Bool.false) (@BEq.beq Int (@instBEqOfDecidableEq Int @Int.instDecidableEq) (@Nat.cast Int instNatCastInt (@UInt8.toNat (@List.getD UInt8 s0 (@Int.toNat (@Go.IntKind.wrap Go.IntKind.i64 (@HAdd.hAdd Int Int Int (@instHAdd Int @Int.instAdd) s2 (1 : Int)))) (0 : UInt8)))) s1) Bool.false) (E1003 s0 s1 (@Go.IntKind.wrap Go.IntKind.i64 (@HAdd.hAdd Int Int Int (@instHAdd Int @Int.instAdd) (@Go.IntKind.wrap Go.IntKind.i64 (@HAdd.hAdd Int Int Int (@instHAdd Int @Int.instAdd) s2 (1 : Int))) (1 : Int)))) (K s2 Bool.true)) (@Option.none R))) (@Option.none R))) (@Option.none R)) (K (0 : Int) Bool.false))
theorem wqjq (k : Nat) {R : Type} (I : Nat → St → Option R) (s0 : (List UInt8)) (s1 s2 : Int) (K : (Int → Bool → Option R)) : execK (wqy k) k (at_ [1, 1, 0, 1, 0, 0] wq1z) (wq4e s0 s1 s2) (konts (wqy k) k I [1, 1, 0, 1, 0, 0] wq1z (outK (wqy k) wq63 [.tmp 4, .tmp 5] (wq4a K))) = wq76 k (fun s0 s1 s2 => I 1003 (wq4e s0 s1 s2)) s0 s1 s2 K := by kernel_rfl
noncomputable def wqdr (k : Nat) {R : Type} (E1003 : ((List UInt8) → Int → Int → Option R)) (x0 : (List UInt8)) (x1 : Int) (K : (Int → Bool → Option R)) : Option R := (@cond (@Option R) (@inb x1 (@Nat.cast Int instNatCastInt (@List.length UInt8 x0))) (E1003 x0 (@Nat.cast Int instNatCastInt (@UInt8.toNat (@List.getD UInt8 x0 (@Int.toNat x1) (0 : UInt8)))) (@Go.IntKind.wrap Go.IntKind.i64 (@HAdd.hAdd Int Int Int (@instHAdd Int @Int.instAdd) x1 (1 : Int)))) (@Option.none R))
theorem wqsk (k : Nat) {R : Type} (I : Nat → St → Option R) (x0 : (List UInt8)) (x1 : Int) (K : (Int → Bool → Option R)) : fnK (wqy k) k wq1z 57 [.tmp 4, .tmp 5] wq63 [.v .str x0, .v (.int .i64) x1] [] (wq4a K) = wqdr k (fun s0 s1 s2 => iter (wqy k).pv (look (wqy k).cuts 1003) (execK (wqy k) k (at_ [1, 1, 0, 1, 0, 0] wq1z)) k (wq4e s0 s1 s2) (konts (wqy k) k I [1, 1, 0, 1, 0] wq1z (outK (wqy k) wq63 [.tmp 4, .tmp 5] (wq4a K)))) x0 x1 K := by kernel_rfl
noncomputable def wq3b (k : Nat) {R : Type}  : Nat → (List UInt8) → Int → Int → (Int → Bool → Option R) → Option R
  | 0, _, _, _, _ => none
  | n + 1, s0, s1, s2, K => wq76 k (fun s0 s1 s2 => wq3b k  n s0 s1 s2 K) s0 s1 s2 K
theorem wqjr (k : Nat) {R : Type} (I : Nat → St → Option R) (K : (Int → Bool → Option R)) : ∀ (n : Nat) (s0 : (List UInt8)) (s1 s2 : Int), iter (wqy k).pv (look (wqy k).cuts 1003) (execK (wqy k) k (at_ [1, 1, 0, 1, 0, 0] wq1z)) n (wq4e s0 s1 s2) (konts (wqy k) k I [1, 1, 0, 1, 0] wq1z (outK (wqy k) wq63 [.tmp 4, .tmp 5] (wq4a K))) = wq3b k  n s0 s1 s2 K := by
  intro n
  induction n with
  | zero => intros; rfl
  | succ n ih =>
    intro s0 s1 s2
    let I' : Nat → St → Option R := fun id s => bif Nat.beq id 1003 then iter (wqy k).pv (look (wqy k).cuts 1003) (execK (wqy k) k (at_ [1, 1, 0, 1, 0, 0] wq1z)) n s (konts (wqy k) k I [1, 1, 0, 1, 0] wq1z (outK (wqy k) wq63 [.tmp 4, .tmp 5] (wq4a K))) else I id s
    have e := wqjq k I' s0 s1 s2 K
    have h1003 : (fun s0 s1 s2 => I' 1003 (wq4e s0 s1 s2)) = (fun s0 s1 s2 => wq3b k  n s0 s1 s2 K) := by funext s0 s1 s2; exact ih s0 s1 s2
    refine Eq.trans (?_ : _ = _) (e.trans (Eq.trans ((congrArg ((fun E1003 => wq76 k E1003 s0 s1 s2 K)) h1003)) (by rw [wq3b])))
    rfl
noncomputable def wq96 (k : Nat) {R : Type} (x0 : (List UInt8)) (x1 : Int) (K : (Int → Bool → Option R)) : Option R := wqdr k (fun s0 s1 s2 => wq3b k k s0 s1 s2 K) x0 x1 K
theorem wqsl (k : Nat) {R : Type} (x0 : (List UInt8)) (x1 : Int) (K : (Int → Bool → Option R)) : fnK (wqy k) k wq1z 57 [.tmp 4, .tmp 5] wq63 [.v .str x0, .v (.int .i64) x1] [] (wq4a K) = wq96 k x0 x1 K := by
  let I : Nat → St → Option R := fun _ _ => none
  have h1003 : (fun s0 s1 s2 => iter (wqy k).pv (look (wqy k).cuts 1003) (execK (wqy k) k (at_ [1, 1, 0, 1, 0, 0] wq1z)) k (wq4e s0 s1 s2) (konts (wqy k) k I [1, 1, 0, 1, 0] wq1z (outK (wqy k) wq63 [.tmp 4, .tmp 5] (wq4a K)))) = (fun s0 s1 s2 => wq3b k k s0 s1 s2 K) := by funext s0 s1 s2; exact wqjr k I K k s0 s1 s2
  exact (wqsk k I x0 x1 K).trans (congrArg ((fun E1003 => wqdr k E1003 x0 x1 K)) h1003)
noncomputable def wqe9 (k : Nat) {R : Type} : List PV → List (Nm × HObj) → (Out → Option R) → Option R
  | [.v .str x0, .v (.int .i64) x1], [], K => wq96 k x0 x1 (fun y0 y1 => K (.ret [.v (.int .i64) y0, .v .bool y1] []))
  | _, _, _ => none
theorem wqsm (k : Nat) : (wqpk k).Ok Tryz.prog := CTab.nil_ok
theorem wqxn (k : Nat) {ps : List PV} {hp : List (Nm × HObj)} {R : Type} {K : Out → Option R} {r : R} (h : wqe9 k ps hp K = some r) : DoesTo Tryz.prog 85 ps hp fun out => K out = some r := by
  unfold wqe9 at h
  split at h
  · rw [← wqsl] at h
    have := fn_ok (P := Tryz.prog) (cx := wqy k) (f := 85) ⟨tyT_ok, wqsm k, fun _ _ => rfl⟩ (by kernel_rfl) (fn := Tryz.f85) (c := wq1z) (by kernel_rfl) (by kernel_rfl) (by kernel_rfl) (rs := [.tmp 4, .tmp 5]) (by kernel_rfl) (by kernel_rfl) h
    exact this.mono fun out ho => by
      unfold wq4a at ho
      split at ho <;> first | exact ho | cases ho
  · cases h
end Go.Proofs.YtpfbdepoammjmaaGreatDoor.Pvm

set_option maxRecDepth 1000000
set_option maxHeartbeats 0
namespace Go.Proofs.YtpfbdepoammjmaaGreatDoor.Pvm
open Go Go.Proofs
def wqf6 : List LS := [.any, .any]
noncomputable def wqa3 (k : Nat) : CTab := CTab.nil
def wq1l {R : Type} (K : ((List UInt8) → Option R)) : Out → Option R
  | .ret [.v .str y0] [] => K y0
  | _ => none
def wq28 : RetSpec := ⟨[.any], [], []⟩
def wqea : List (Nat × CutSpec) := [(1001, ⟨[(0, .any), (1, .any)], []⟩)]
def wqdd : List (Nat × Plan) := []
noncomputable def wq8 (k : Nat) : Ctx := ⟨tyT, wqea, wqa3 k, [], [], wqdd, @SH⟩
noncomputable def wqv : Code := Tryz.f121.body.getD .skip
def wq1t (s0 : (List UInt8)) (s1 : Int) : St := ⟨mkT [(0, .v .str s0), (1, .v (.int .u8) s1)], mkH []⟩
noncomputable def wq3n (k : Nat) {R : Type} (E1001 : ((List UInt8) → Int → Option R)) (s0 : (List UInt8)) (s1 : Int) (K : ((List UInt8) → Option R)) : Option R := (@cond (@Option R) (@Bool.or (@Bool.not (@BEq.beq (@Kd.T Kd.bool) (@instBEqOfDecidableEq (@Kd.T Kd.bool) @instDecidableEqBool) (@Decidable.decide (@GT.gt Int Int.instLTInt (@Nat.cast Int instNatCastInt (@List.length UInt8 s0)) (0 : Int)) (@Int.decLt (0 : Int) (@Nat.cast Int instNatCastInt (@List.length UInt8 s0)))) Bool.true)) (@inb (@Go.IntKind.wrap Go.IntKind.i64 (@HSub.hSub Int Int Int (@instHSub Int @Int.instSub) (@Nat.cast Int instNatCastInt (@List.length UInt8 s0)) (1 : Int))) (@Nat.cast Int instNatCastInt (@List.length UInt8 s0)))) (@cond (@Option R) (@cond (@Kd.T Kd.bool) (@Decidable.decide (@GT.gt Int Int.instLTInt (@Nat.cast Int instNatCastInt (@List.length UInt8 s0)) (0 : Int)) (@Int.decLt (0 : Int) (@Nat.cast Int instNatCastInt (@List.length UInt8 s0)))) (@BEq.beq Int (@instBEqOfDecidableEq Int @Int.instDecidableEq) (@Nat.cast Int instNatCastInt (@UInt8.toNat (@List.getD UInt8 s0 (@Int.toNat (@Go.IntKind.wrap Go.IntKind.i64 (@HSub.hSub Int Int Int (@instHSub Int @Int.instSub) (@Nat.cast Int instNatCastInt (@List.length UInt8 s0)) (1 : Int)))) (0 : UInt8)))) s1) Bool.false) (@cond (@Option R) (@bnd (0 : Int) (@Go.IntKind.wrap Go.IntKind.i64 (@HSub.hSub Int Int Int (@instHSub Int @Int.instSub) (@Nat.cast Int instNatCastInt (@List.length UInt8 s0)) (1 : Int))) (@Nat.cast Int instNatCastInt (@List.length UInt8 s0))) (E1001 (@cut UInt8 s0 (0 : Int) (@Go.IntKind.wrap Go.IntKind.i64 (@HSub.hSub Int Int Int (@instHSub Int @Int.instSub) (@Nat.cast Int instNatCastInt (@List.length UInt8 s0)) (1 : Int)))) s1) (@Option.none R)) (K s0)) (@Option.none R))
theorem wqbh (k : Nat) {R : Type} (I : Nat → St → Option R) (s0 : (List UInt8)) (s1 : Int) (K : ((List UInt8) → Option R)) : execK (wq8 k) k (at_ [1, 0, 0, 0] wqv) (wq1t s0 s1) (konts (wq8 k) k I [1, 0, 0, 0] wqv (outK (wq8 k) wq28 [.tmp 4] (wq1l K))) = wq3n k (fun s0 s1 => I 1001 (wq1t s0 s1)) s0 s1 K := by kernel_rfl
noncomputable def wq52 (k : Nat) {R : Type} (E1001 : ((List UInt8) → Int → Option R)) (x0 : (List UInt8)) (x1 : Int) (K : ((List UInt8) → Option R)) : Option R := (E1001 x0 x1)
theorem wqeb (k : Nat) {R : Type} (I : Nat → St → Option R) (x0 : (List UInt8)) (x1 : Int) (K : ((List UInt8) → Option R)) : fnK (wq8 k) k wqv 23 [.tmp 4] wq28 [.v .str x0, .v (.int .u8) x1] [] (wq1l K) = wq52 k (fun s0 s1 => iter (wq8 k).pv (look (wq8 k).cuts 1001) (execK (wq8 k) k (at_ [1, 0, 0, 0] wqv)) k (wq1t s0 s1) (konts (wq8 k) k I [1, 0, 0] wqv (outK (wq8 k) wq28 [.tmp 4] (wq1l K)))) x0 x1 K := by kernel_rfl
noncomputable def wq1e (k : Nat) {R : Type}  : Nat → (List UInt8) → Int → ((List UInt8) → Option R) → Option R
  | 0, _, _, _ => none
  | n + 1, s0, s1, K => wq3n k (fun s0 s1 => wq1e k  n s0 s1 K) s0 s1 K
theorem wqbi (k : Nat) {R : Type} (I : Nat → St → Option R) (K : ((List UInt8) → Option R)) : ∀ (n : Nat) (s0 : (List UInt8)) (s1 : Int), iter (wq8 k).pv (look (wq8 k).cuts 1001) (execK (wq8 k) k (at_ [1, 0, 0, 0] wqv)) n (wq1t s0 s1) (konts (wq8 k) k I [1, 0, 0] wqv (outK (wq8 k) wq28 [.tmp 4] (wq1l K))) = wq1e k  n s0 s1 K := by
  intro n
  induction n with
  | zero => intros; rfl
  | succ n ih =>
    intro s0 s1
    let I' : Nat → St → Option R := fun id s => bif Nat.beq id 1001 then iter (wq8 k).pv (look (wq8 k).cuts 1001) (execK (wq8 k) k (at_ [1, 0, 0, 0] wqv)) n s (konts (wq8 k) k I [1, 0, 0] wqv (outK (wq8 k) wq28 [.tmp 4] (wq1l K))) else I id s
    have e := wqbh k I' s0 s1 K
    have h1001 : (fun s0 s1 => I' 1001 (wq1t s0 s1)) = (fun s0 s1 => wq1e k  n s0 s1 K) := by funext s0 s1; exact ih s0 s1
    refine Eq.trans (?_ : _ = _) (e.trans (Eq.trans ((congrArg ((fun E1001 => wq3n k E1001 s0 s1 K)) h1001)) (by rw [wq1e])))
    rfl
noncomputable def wq53 (k : Nat) {R : Type} (x0 : (List UInt8)) (x1 : Int) (K : ((List UInt8) → Option R)) : Option R := wq52 k (fun s0 s1 => wq1e k k s0 s1 K) x0 x1 K
theorem wqec (k : Nat) {R : Type} (x0 : (List UInt8)) (x1 : Int) (K : ((List UInt8) → Option R)) : fnK (wq8 k) k wqv 23 [.tmp 4] wq28 [.v .str x0, .v (.int .u8) x1] [] (wq1l K) = wq53 k x0 x1 K := by
  let I : Nat → St → Option R := fun _ _ => none
  have h1001 : (fun s0 s1 => iter (wq8 k).pv (look (wq8 k).cuts 1001) (execK (wq8 k) k (at_ [1, 0, 0, 0] wqv)) k (wq1t s0 s1) (konts (wq8 k) k I [1, 0, 0] wqv (outK (wq8 k) wq28 [.tmp 4] (wq1l K)))) = (fun s0 s1 => wq1e k k s0 s1 K) := by funext s0 s1; exact wqbi k I K k s0 s1
  exact (wqeb k I x0 x1 K).trans (congrArg ((fun E1001 => wq52 k E1001 x0 x1 K)) h1001)
noncomputable def wq5t (k : Nat) {R : Type} : List PV → List (Nm × HObj) → (Out → Option R) → Option R
  | [.v .str x0, .v (.int .u8) x1], [], K => wq53 k x0 x1 (fun y0 => K (.ret [.v .str y0] []))
  | _, _, _ => none
theorem wqed (k : Nat) : (wqa3 k).Ok Tryz.prog := CTab.nil_ok
theorem wqh0 (k : Nat) {ps : List PV} {hp : List (Nm × HObj)} {R : Type} {K : Out → Option R} {r : R} (h : wq5t k ps hp K = some r) : DoesTo Tryz.prog 121 ps hp fun out => K out = some r := by
  unfold wq5t at h
  split at h
  · rw [← wqec] at h
    have := fn_ok (P := Tryz.prog) (cx := wq8 k) (f := 121) ⟨tyT_ok, wqed k, fun _ _ => rfl⟩ (by kernel_rfl) (fn := Tryz.f121) (c := wqv) (by kernel_rfl) (by kernel_rfl) (by kernel_rfl) (rs := [.tmp 4]) (by kernel_rfl) (by kernel_rfl) h
    exact this.mono fun out ho => by
      unfold wq1l at ho
      split at ho <;> first | exact ho | cases ho
  · cases h
end Go.Proofs.YtpfbdepoammjmaaGreatDoor.Pvm

set_option maxRecDepth 1000000
set_option maxHeartbeats 0
namespace Go.Proofs.YtpfbdepoammjmaaGreatDoor.Pvm
open Go Go.Proofs
def wqjs : List LS := [.any, .any]
noncomputable def wqds (k : Nat) : CTab := (CTab.add 121 wqf6 (wq5t k) CTab.nil)
def wq6v {R : Type} (K : ((List UInt8) → Option R)) : Out → Option R
  | .ret [.v .str y0] [] => K y0
  | _ => none
def wqd4 : RetSpec := ⟨[.any], [], []⟩
def wqi1 : List (Nat × CutSpec) := []
def wqh1 : List (Nat × Plan) := []
noncomputable def wq8y (k : Nat) : Ctx := ⟨tyT, wqi1, wqds k, [], [], wqh1, @SH⟩
noncomputable def wq6w : Code := Tryz.f86.body.getD .skip
noncomputable def wq9r (k : Nat) {R : Type}  (x0 : (List UInt8)) (x1 : UInt8) (K : ((List UInt8) → Option R)) : Option R := (@cond (@Option R) (@cond (@Kd.T Kd.bool) (@BEq.beq (@List UInt8) (@List.instBEq UInt8 (@instBEqOfDecidableEq UInt8 @instDecidableEqUInt8)) x0 []) Bool.true (@BEq.beq (@List UInt8) (@List.instBEq UInt8 (@instBEqOfDecidableEq UInt8 @instDecidableEqUInt8)) (x1 :: []) [])) (K x0) (@cond (@Option R) (@cond (@Kd.T Kd.bool) (@BEq.beq Int (@instBEqOfDecidableEq Int @Int.instDecidableEq) (@Nat.cast Int instNatCastInt (@List.length UInt8 (x1 :: []))) (1 : Int)) (@Decidable.decide (@LT.lt Int Int.instLTInt (@Nat.cast Int instNatCastInt (@UInt8.toNat (@List.getD UInt8 (x1 :: []) (@Int.toNat (0 : Int)) (0 : UInt8)))) (128 : Int)) (@Int.decLt (@Nat.cast Int instNatCastInt (@UInt8.toNat (@List.getD UInt8 (x1 :: []) (@Int.toNat (0 : Int)) (0 : UInt8)))) (128 : Int))) Bool.false) (@wq53 k R x0 (@Nat.cast Int instNatCastInt (@UInt8.toNat (@List.getD UInt8 (x1 :: []) (@Int.toNat (0 : Int)) (0 : UInt8)))) (fun y5 => (K y5))) (@Option.none R)))
theorem wqi2 (k : Nat) {R : Type} (I : Nat → St → Option R) (x0 : (List UInt8)) (x1 : UInt8) (K : ((List UInt8) → Option R)) : fnK (wq8y k) k wq6w 37 [.tmp 4] wqd4 [.v .str x0, .v .str [x1]] [] (wq6v K) = wq9r k  x0 x1 K := by kernel_rfl
noncomputable def wq4f (k : Nat) {R : Type} (x0 : (List UInt8)) (x1 : UInt8) (K : ((List UInt8) → Option R)) : Option R := wq9r k  x0 x1 K
theorem wqi3 (k : Nat) {R : Type} (x0 : (List UInt8)) (x1 : UInt8) (K : ((List UInt8) → Option R)) : fnK (wq8y k) k wq6w 37 [.tmp 4] wqd4 [.v .str x0, .v .str [x1]] [] (wq6v K) = wq4f k x0 x1 K := by
  exact wqi2 k (fun _ _ => none) x0 x1 K
noncomputable def wq7p (k : Nat) {R : Type} : List PV → List (Nm × HObj) → (Out → Option R) → Option R
  | [.v .str x0, .v .str [x1]], [], K => wq4f k x0 x1 (fun y0 => K (.ret [.v .str y0] []))
  | _, _, _ => none
theorem wqi4 (k : Nat) : (wqds k).Ok Tryz.prog := (CTab.add_ok (fun h => wqh0 k h) CTab.nil_ok)
theorem wqne (k : Nat) {ps : List PV} {hp : List (Nm × HObj)} {R : Type} {K : Out → Option R} {r : R} (h : wq7p k ps hp K = some r) : DoesTo Tryz.prog 86 ps hp fun out => K out = some r := by
  unfold wq7p at h
  split at h
  · rw [← wqi3] at h
    have := fn_ok (P := Tryz.prog) (cx := wq8y k) (f := 86) ⟨tyT_ok, wqi4 k, fun _ _ => rfl⟩ (by kernel_rfl) (fn := Tryz.f86) (c := wq6w) (by kernel_rfl) (by kernel_rfl) (by kernel_rfl) (rs := [.tmp 4]) (by kernel_rfl) (by kernel_rfl) h
    exact this.mono fun out ho => by
      unfold wq6v at ho
      split at ho <;> first | exact ho | cases ho
  · cases h
end Go.Proofs.YtpfbdepoammjmaaGreatDoor.Pvm

set_option maxRecDepth 1000000
set_option maxHeartbeats 0
namespace Go.Proofs.YtpfbdepoammjmaaGreatDoor.Pvm
open Go Go.Proofs
def wqw1 : List LS := [.any]
noncomputable def wqsn (k : Nat) : CTab := (CTab.add 85 wqtw (wqe9 k) (CTab.add 86 wqjs (wq7p k) CTab.nil))
def wq4r {R : Type} (K : ((List UInt8) → Bool → Option R)) : Out → Option R
  | .ret [.v .str y0, .v .bool y1] [] => K y0 y1
  | _ => none
def wq6x : RetSpec := ⟨[.any, .any], [], []⟩
def wqtx : List (Nat × CutSpec) := [(1003, ⟨[(0, .any), (4, .any), (5, .any)], []⟩)]
def wqso : List (Nat × Plan) := []
noncomputable def wq11 (k : Nat) : Ctx := ⟨tyT, wqtx, wqsn k, [], [], wqso, @SH⟩
noncomputable def wq2b : Code := Tryz.f48.body.getD .skip
def wq4t (s0 : (List UInt8)) (s1 s2 : Int) : St := ⟨mkT [(0, .v .str s0), (4, .v (.int .i64) s1), (5, .v (.int .i64) s2)], mkH []⟩
noncomputable def wq81 (k : Nat) {R : Type} (E1003 : ((List UInt8) → Int → Int → Option R)) (s0 : (List UInt8)) (s1 s2 : Int) (K : ((List UInt8) → Bool → Option R)) : Option R := (@cond (@Option R) (@Decidable.decide (@LT.lt Int Int.instLTInt s2 (@Nat.cast Int instNatCastInt (@List.length UInt8 s0))) (@Int.decLt s2 (@Nat.cast Int instNatCastInt (@List.length UInt8 s0)))) (@cond (@Option R) (@Bool.or (@Bool.not (@BEq.beq (@Kd.T Kd.bool) (@instBEqOfDecidableEq (@Kd.T Kd.bool) @instDecidableEqBool) (@Decidable.decide (@GT.gt Int Int.instLTInt s2 (0 : Int)) (@Int.decLt (0 : Int) s2)) Bool.true)) (@inb (@Go.IntKind.wrap Go.IntKind.i64 (@HSub.hSub Int Int Int (@instHSub Int @Int.instSub) s2 (1 : Int))) (@Nat.cast Int instNatCastInt (@List.length UInt8 s0)))) (@cond (@Option R) (@cond (@Kd.T Kd.bool) (@Decidable.decide (@GT.gt Int Int.instLTInt s2 (0 : Int)) (@Int.decLt (0 : Int) s2)) (@bne Int (@instBEqOfDecidableEq Int @Int.instDecidableEq) (@Nat.cast Int instNatCastInt (@UInt8.toNat (@List.getD UInt8 s0 (@Int.toNat (@Go.IntKind.wrap Go.IntKind.i64 (@HSub.hSub Int Int Int (@instHSub Int @Int.instSub) s2 (1 : Int)))) (0 : UInt8)))) (32 : Int)) Bool.false) (E1003 s0 s1 (@Go.IntKind.wrap Go.IntKind.i64 (@HAdd.hAdd Int Int Int (@instHAdd Int @Int.instAdd) s2 (1 : Int)))) (@cond (@Option R) (@inb s2 (@Nat.cast Int instNatCastInt (@List.length UInt8 s0))) (@cond (@Option R) (@BEq.beq Int (@instBEqOfDecidableEq Int @Int.instDecidableEq) (@Nat.cast Int instNatCastInt (@UInt8.toNat (@List.getD UInt8 s0 (@Int.toNat s2) (0 : UInt8)))) (35 : Int)) (@cond (@Option R) (@bnd (0 : Int) s2 (@Nat.cast Int instNatCastInt (@List.length UInt8 s0))) (@wq4f k R (@cut UInt8 s0 (0 : Int) s2) (32 : UInt8) (fun y7 => (K y7 Bool.true))) (@Option.none R)) (@cond (@Option R) (@BEq.beq Int (@instBEqOfDecidableEq Int @Int.instDecidableEq) (@Nat.cast Int instNatCastInt (@UInt8.toNat (@List.getD UInt8 s0 (@Int.toNat s2) (0 : UInt8)))) (39 : Int)) (@wq96 k R s0 s2 (fun y7 y8 => (@cond (@Option R) (@Bool.not y8) (K [] Bool.false) (E1003 s0 s1 (@Go.IntKind.wrap Go.IntKind.i64 (@HAdd.hAdd Int Int Int (@instHAdd Int @Int.instAdd) y7 (1 : Int))))))) (@cond (@Option R) (@BEq.beq Int (@instBEqOfDecidableEq Int @Int.instDecidableEq) (@Nat.cast Int instNatCastInt (@UInt8.toNat (@List.getD UInt8 s0 (@Int.toNat s2) (0 : UInt8)))) (34 : Int)) (@wq96 k R s0 s2 (fun y7 y8 => (@cond (@Option R) (@Bool.not y8) (K [] Bool.false) (E1003 s0 s1 (@Go.IntKind.wrap Go.IntKind.i64 (@HAdd.hAdd Int Int Int (@instHAdd Int @Int.instAdd) y7 (1 : Int))))))) (E1003 s0 s1 (@Go.IntKind.wrap Go.IntKind.i64 (@HAdd.hAdd Int Int Int (@instHAdd Int @Int.instAdd) s2 (1 : Int))))))) (@Option.none R))) (@Option.none R)) (@cond (@Option R) (@bnd (0 : Int) s1 (@Nat.cast Int instNatCastInt (@List.length UInt8 s0))) (@wq4f k R (@cut UInt8 s0 (0 : Int) s1) (32 : UInt8) (fun y7 => (K y7 Bool.true))) (@Option.none R)))
theorem wqlv (k : Nat) {R : Type} (I : Nat → St → Option R) (s0 : (List UInt8)) (s1 s2 : Int) (K : ((List UInt8) → Bool → Option R)) : execK (wq11 k) k (at_ [1, 0, 1, 1, 0, 1, 0, 0] wq2b) (wq4t s0 s1 s2) (konts (wq11 k) k I [1, 0, 1, 1, 0, 1, 0, 0] wq2b (outK (wq11 k) wq6x [.tmp 2, .tmp 3] (wq4r K))) = wq81 k (fun s0 s1 s2 => I 1003 (wq4t s0 s1 s2)) s0 s1 s2 K := by kernel_rfl
noncomputable def wqg2 (k : Nat) {R : Type} (E1003 : ((List UInt8) → Int → Int → Option R)) (x0 : (List UInt8)) (K : ((List UInt8) → Bool → Option R)) : Option R := (E1003 x0 (@Nat.cast Int instNatCastInt (@List.length UInt8 x0)) (0 : Int))
theorem wqty (k : Nat) {R : Type} (I : Nat → St → Option R) (x0 : (List UInt8)) (K : ((List UInt8) → Bool → Option R)) : fnK (wq11 k) k wq2b 47 [.tmp 2, .tmp 3] wq6x [.v .str x0] [] (wq4r K) = wqg2 k (fun s0 s1 s2 => iter (wq11 k).pv (look (wq11 k).cuts 1003) (execK (wq11 k) k (at_ [1, 0, 1, 1, 0, 1, 0, 0] wq2b)) k (wq4t s0 s1 s2) (konts (wq11 k) k I [1, 0, 1, 1, 0, 1, 0] wq2b (outK (wq11 k) wq6x [.tmp 2, .tmp 3] (wq4r K)))) x0 K := by kernel_rfl
noncomputable def wq1y (k : Nat) {R : Type}  : Nat → (List UInt8) → Int → Int → ((List UInt8) → Bool → Option R) → Option R
  | 0, _, _, _, _ => none
  | n + 1, s0, s1, s2, K => wq81 k (fun s0 s1 s2 => wq1y k  n s0 s1 s2 K) s0 s1 s2 K
theorem wqlw (k : Nat) {R : Type} (I : Nat → St → Option R) (K : ((List UInt8) → Bool → Option R)) : ∀ (n : Nat) (s0 : (List UInt8)) (s1 s2 : Int), iter (wq11 k).pv (look (wq11 k).cuts 1003) (execK (wq11 k) k (at_ [1, 0, 1, 1, 0, 1, 0, 0] wq2b)) n (wq4t s0 s1 s2) (konts (wq11 k) k I [1, 0, 1, 1, 0, 1, 0] wq2b (outK (wq11 k) wq6x [.tmp 2, .tmp 3] (wq4r K))) = wq1y k  n s0 s1 s2 K := by
  intro n
  induction n with
  | zero => intros; rfl
  | succ n ih =>
    intro s0 s1 s2
    let I' : Nat → St → Option R := fun id s => bif Nat.beq id 1003 then iter (wq11 k).pv (look (wq11 k).cuts 1003) (execK (wq11 k) k (at_ [1, 0, 1, 1, 0, 1, 0, 0] wq2b)) n s (konts (wq11 k) k I [1, 0, 1, 1, 0, 1, 0] wq2b (outK (wq11 k) wq6x [.tmp 2, .tmp 3] (wq4r K))) else I id s
    have e := wqlv k I' s0 s1 s2 K
    have h1003 : (fun s0 s1 s2 => I' 1003 (wq4t s0 s1 s2)) = (fun s0 s1 s2 => wq1y k  n s0 s1 s2 K) := by funext s0 s1 s2; exact ih s0 s1 s2
    refine Eq.trans (?_ : _ = _) (e.trans (Eq.trans ((congrArg ((fun E1003 => wq81 k E1003 s0 s1 s2 K)) h1003)) (by rw [wq1y])))
    rfl
noncomputable def wqal (k : Nat) {R : Type} (x0 : (List UInt8)) (K : ((List UInt8) → Bool → Option R)) : Option R := wqg2 k (fun s0 s1 s2 => wq1y k k s0 s1 s2 K) x0 K
theorem wqtz (k : Nat) {R : Type} (x0 : (List UInt8)) (K : ((List UInt8) → Bool → Option R)) : fnK (wq11 k) k wq2b 47 [.tmp 2, .tmp 3] wq6x [.v .str x0] [] (wq4r K) = wqal k x0 K := by
  let I : Nat → St → Option R := fun _ _ => none
  have h1003 : (fun s0 s1 s2 => iter (wq11 k).pv (look (wq11 k).cuts 1003) (execK (wq11 k) k (at_ [1, 0, 1, 1, 0, 1, 0, 0] wq2b)) k (wq4t s0 s1 s2) (konts (wq11 k) k I [1, 0, 1, 1, 0, 1, 0] wq2b (outK (wq11 k) wq6x [.tmp 2, .tmp 3] (wq4r K)))) = (fun s0 s1 s2 => wq1y k k s0 s1 s2 K) := by funext s0 s1 s2; exact wqlw k I K k s0 s1 s2
  exact (wqty k I x0 K).trans (congrArg ((fun E1003 => wqg2 k E1003 x0 K)) h1003)
noncomputable def wqg3 (k : Nat) {R : Type} : List PV → List (Nm × HObj) → (Out → Option R) → Option R
  | [.v .str x0], [], K => wqal k x0 (fun y0 y1 => K (.ret [.v .str y0, .v .bool y1] []))
  | _, _, _ => none
theorem wqu0 (k : Nat) : (wqsn k).Ok Tryz.prog := (CTab.add_ok (fun h => wqxn k h) (CTab.add_ok (fun h => wqne k h) CTab.nil_ok))
theorem wqyt (k : Nat) {ps : List PV} {hp : List (Nm × HObj)} {R : Type} {K : Out → Option R} {r : R} (h : wqg3 k ps hp K = some r) : DoesTo Tryz.prog 48 ps hp fun out => K out = some r := by
  unfold wqg3 at h
  split at h
  · rw [← wqtz] at h
    have := fn_ok (P := Tryz.prog) (cx := wq11 k) (f := 48) ⟨tyT_ok, wqu0 k, fun _ _ => rfl⟩ (by kernel_rfl) (fn := Tryz.f48) (c := wq2b) (by kernel_rfl) (by kernel_rfl) (by kernel_rfl) (rs := [.tmp 2, .tmp 3]) (by kernel_rfl) (by kernel_rfl) h
    exact this.mono fun out ho => by
      unfold wq4r at ho
      split at ho <;> first | exact ho | cases ho
  · cases h
end Go.Proofs.YtpfbdepoammjmaaGreatDoor.Pvm

set_option maxRecDepth 1000000
set_option maxHeartbeats 0
namespace Go.Proofs.YtpfbdepoammjmaaGreatDoor.Pvm
open Go Go.Proofs
def wqyu : List LS := [.any]
noncomputable def wqxo (k : Nat) : CTab := CTab.nil
def wqi5 {R : Type} (K : (Bool → Option R)) : Out → Option R
  | .ret [.v .bool y0] [] => K y0
  | _ => none
def wqux : RetSpec := ⟨[.any], [], []⟩
def wqxp : List (Nat × CutSpec) := []
def wqw2 : List (Nat × Plan) := []
noncomputable def wqoh (k : Nat) : Ctx := ⟨tyT, wqxp, wqxo k, [], [], wqw2, @SH⟩
noncomputable def wqi6 : Code := Tryz.f46.body.getD .skip
noncomputable def wqxq (k : Nat) {R : Type}  (x0 : Int) (K : (Bool → Option R)) : Option R := (K (@cond (@Kd.T Kd.bool) (@cond (@Kd.T Kd.bool) (@Decidable.decide (@GE.ge Int Int.instLEInt x0 (0 : Int)) (@Int.decLe (0 : Int) x0)) (@Decidable.decide (@LT.lt Int Int.instLTInt x0 (32 : Int)) (@Int.decLt x0 (32 : Int))) Bool.false) Bool.true (@BEq.beq Int (@instBEqOfDecidableEq Int @Int.instDecidableEq) x0 (127 : Int))))
theorem wqxr (k : Nat) {R : Type} (I : Nat → St → Option R) (x0 : Int) (K : (Bool → Option R)) : fnK (wqoh k) k wqi6 13 [.tmp 2] wqux [.v (.int .i32) x0] [] (wqi5 K) = wqxq k  x0 K := by kernel_rfl
noncomputable def wqxs (k : Nat) {R : Type} (x0 : Int) (K : (Bool → Option R)) : Option R := wqxq k  x0 K
theorem wqxt (k : Nat) {R : Type} (x0 : Int) (K : (Bool → Option R)) : fnK (wqoh k) k wqi6 13 [.tmp 2] wqux [.v (.int .i32) x0] [] (wqi5 K) = wqxs k x0 K := by
  exact wqxr k (fun _ _ => none) x0 K
noncomputable def wqlx (k : Nat) {R : Type} : List PV → List (Nm × HObj) → (Out → Option R) → Option R
  | [.v (.int .i32) x0], [], K => wqxs k x0 (fun y0 => K (.ret [.v .bool y0] []))
  | _, _, _ => none
theorem wqxu (k : Nat) : (wqxo k).Ok Tryz.prog := CTab.nil_ok
theorem wqxv (k : Nat) {ps : List PV} {hp : List (Nm × HObj)} {R : Type} {K : Out → Option R} {r : R} (h : wqlx k ps hp K = some r) : DoesTo Tryz.prog 46 ps hp fun out => K out = some r := by
  unfold wqlx at h
  split at h
  · rw [← wqxt] at h
    have := fn_ok (P := Tryz.prog) (cx := wqoh k) (f := 46) ⟨tyT_ok, wqxu k, fun _ _ => rfl⟩ (by kernel_rfl) (fn := Tryz.f46) (c := wqi6) (by kernel_rfl) (by kernel_rfl) (by kernel_rfl) (rs := [.tmp 2]) (by kernel_rfl) (by kernel_rfl) h
    exact this.mono fun out ho => by
      unfold wqi5 at ho
      split at ho <;> first | exact ho | cases ho
  · cases h
end Go.Proofs.YtpfbdepoammjmaaGreatDoor.Pvm

set_option maxRecDepth 1000000
namespace Go.Proofs
open Go.Shelf
def Tryz.laysLaysGwn15_ren : Go.Shelf.Ren := ⟨fun | 15 => 45 | 20 => 80 | n => n, fun | 9 => 9 | 23 => 101 | 3 => 3 | 4 => 4 | 0 => 0 | 21 => 21 | n => n, fun | n => n⟩
theorem Tryz.laysLaysGwn15 : Go.Proofs.LaysGw.n15 Tryz.prog Tryz.laysLaysGwn15_ren := {
  mixed := by kernel_rfl
  f15 := Tryz.func45.trans (congrArg some (by kernel_rfl))
  f20 := Tryz.func80.trans (congrArg some (by kernel_rfl))
  t0 := Tryz.underlying0
  a0 := Tryz.isAgg0
  z0 := Tryz.sizeOf0
  v0 := Tryz.zeroValue0
  i0 := by kernel_rfl
  t3 := Tryz.underlying3
  a3 := Tryz.isAgg3
  z3 := Tryz.sizeOf3
  v3 := Tryz.zeroValue3
  i3 := by kernel_rfl
  t4 := Tryz.underlying4
  a4 := Tryz.isAgg4
  z4 := Tryz.sizeOf4
  v4 := Tryz.zeroValue4
  i4 := by kernel_rfl
  t9 := Tryz.underlying9
  a9 := Tryz.isAgg9
  z9 := Tryz.sizeOf9
  v9 := Tryz.zeroValue9
  i9 := by kernel_rfl
  t21 := Tryz.underlying21
  a21 := Tryz.isAgg21
  z21 := Tryz.sizeOf21
  v21 := Tryz.zeroValue21
  i21 := by kernel_rfl
  t23 := Tryz.underlying101
  a23 := Tryz.isAgg101
  z23 := Tryz.sizeOf101
  v23 := Tryz.zeroValue101
  i23 := by kernel_rfl }
end Go.Proofs
namespace Go.Proofs.YtpfbdepoammjmaaGreatDoor.Pvm
open Go Go.Proofs Go.RowKit Go.Shelf
def oddP (n : Nat) : Bool := cond (cond (decide ((n : Int) ≥ 0)) (decide ((n : Int) < 32)) false) true ((n : Int) == 127)
def idxOdd (s : List UInt8) : Int := Lib.idxFunc oddP true ⟨s.toArray⟩
def wqjt : List LS := [.any, .clo []]
def wq9s (k : Nat) {R : Type} (x0 : List UInt8) (K : Int → Option R) : Option R := K (idxOdd x0)
def wq7q (k : Nat) {R : Type} : List PV → List (Nm × HObj) → (Out → Option R) → Option R
  | [.v .str x0, .clo 46 []], [], K => wq9s k x0 (fun y0 => K (.ret [.v (.int .i64) y0] []))
  | _, _, _ => none
theorem wq128 (w : World) : PredGrows Tryz.prog 46 #[] oddP w := by
  intro W x hx hb
  exact wqzk (P := Tryz.prog) (f := 46) (fn := Tryz.f46) (c := Tryz.f46.body.getD .skip) (by kernel_rfl) (by kernel_rfl) (by kernel_rfl) (ps := [.v (.int .i32) (x : Int)]) (b := oddP x)
    (wqxv 0 (K := lawK) (r := oddP x) rfl) (vals := [.int .i32 (x : Int)]) ⟨_, [], rfl, rfl, rfl⟩
theorem wqnf (k : Nat) {ps : List PV} {hp : List (Nm × HObj)} {R : Type} {K : Out → Option R} {r : R} (h : wq7q k ps hp K = some r) : DoesTo Tryz.prog 45 ps hp fun out => K out = some r := by
  unfold wq7q at h
  split at h
  · next x0 =>
    intro G w vals hr obj dis
    obtain ⟨v0, l0, rfl, h0, v1, l1, rfl, h1, rfl⟩ := hr
    have e0 : v0 = .string ⟨x0.toArray⟩ := by simpa [RV, RD] using h0
    obtain ⟨vs, e1, hvs⟩ := h1
    obtain rfl : vs = [] := hvs
    subst e0 e1
    have c := Any.strings_IndexFunc_grows Tryz.laysLaysGwn15 46 #[] (enters (P := Tryz.prog) (fn := Tryz.f46) (c := Tryz.f46.body.getD .skip) (by kernel_rfl) (by kernel_rfl) (by kernel_rfl)) oddP ⟨x0.toArray⟩ w (wq128 w)
    show Does _ _ #[_, _] _ _
    unfold Does
    rw [enters (P := Tryz.prog) (fn := Tryz.f45) (c := Tryz.f45.body.getD .skip) (by kernel_rfl) (by kernel_rfl) (by kernel_rfl)]
    refine Calls.mono c fun e w' hh => ?_
    obtain ⟨rfl, b⟩ := hh
    exact ⟨.ret [.v (.int .i64) (idxOdd x0)] [], h, G, ⟨_, rfl, rfl⟩, wqzl b⟩
  · cases h
end Go.Proofs.YtpfbdepoammjmaaGreatDoor.Pvm

set_option maxRecDepth 1000000
set_option maxHeartbeats 0
namespace Go.Proofs.YtpfbdepoammjmaaGreatDoor.Pvm
open Go Go.Proofs
def wqg4 : List LS := [.any, .any]
noncomputable def wqbj (k : Nat) : CTab := CTab.nil
def wq1r {R : Type} (K : ((List UInt8) → Option R)) : Out → Option R
  | .ret [.v .str y0] [] => K y0
  | _ => none
def wq2i : RetSpec := ⟨[.any], [], []⟩
def wqf7 : List (Nat × CutSpec) := [(1001, ⟨[(0, .any), (1, .any)], []⟩)]
def wqee : List (Nat × Plan) := []
noncomputable def wq9 (k : Nat) : Ctx := ⟨tyT, wqf7, wqbj k, [], [], wqee, @SH⟩
noncomputable def wqw : Code := Tryz.f81.body.getD .skip
def wq20 (s0 : (List UInt8)) (s1 : Int) : St := ⟨mkT [(0, .v .str s0), (1, .v (.int .u8) s1)], mkH []⟩
noncomputable def wq3u (k : Nat) {R : Type} (E1001 : ((List UInt8) → Int → Option R)) (s0 : (List UInt8)) (s1 : Int) (K : ((List UInt8) → Option R)) : Option R := (@cond (@Option R) (@Bool.or (@Bool.not (@BEq.beq (@Kd.T Kd.bool) (@instBEqOfDecidableEq (@Kd.T Kd.bool) @instDecidableEqBool) (@Decidable.decide (@GT.gt Int Int.instLTInt (@Nat.cast Int instNatCastInt (@List.length UInt8 s0)) (0 : Int)) (@Int.decLt (0 : Int) (@Nat.cast Int instNatCastInt (@List.length UInt8 s0)))) Bool.true)) (@inb (0 : Int) (@Nat.cast Int instNatCastInt (@List.length UInt8 s0)))) (@cond (@Option R) (@cond (@Kd.T Kd.bool) (@Decidable.decide (@GT.gt Int Int.instLTInt (@Nat.cast Int instNatCastInt (@List.length UInt8 s0)) (0 : Int)) (@Int.decLt (0 : Int) (@Nat.cast Int instNatCastInt (@List.length UInt8 s0)))) (@BEq.beq Int (@instBEqOfDecidableEq Int @Int.instDecidableEq) (@Nat.cast Int instNatCastInt (@UInt8.toNat (@List.getD UInt8 s0 (@Int.toNat (0 : Int)) (0 : UInt8)))) s1) Bool.false) (@cond (@Option R) (@bnd (1 : Int) (@Nat.cast Int instNatCastInt (@List.length UInt8 s0)) (@Nat.cast Int instNatCastInt (@List.length UInt8 s0))) (E1001 (@cut UInt8 s0 (1 : Int) (@Nat.cast Int instNatCastInt (@List.length UInt8 s0))) s1) (@Option.none R)) (K s0)) (@Option.none R))
theorem wqc0 (k : Nat) {R : Type} (I : Nat → St → Option R) (s0 : (List UInt8)) (s1 : Int) (K : ((List UInt8) → Option R)) : execK (wq9 k) k (at_ [1, 0, 0, 0] wqw) (wq20 s0 s1) (konts (wq9 k) k I [1, 0, 0, 0] wqw (outK (wq9 k) wq2i [.tmp 4] (wq1r K))) = wq3u k (fun s0 s1 => I 1001 (wq20 s0 s1)) s0 s1 K := by kernel_rfl
noncomputable def wq5h (k : Nat) {R : Type} (E1001 : ((List UInt8) → Int → Option R)) (x0 : (List UInt8)) (x1 : Int) (K : ((List UInt8) → Option R)) : Option R := (E1001 x0 x1)
theorem wqf8 (k : Nat) {R : Type} (I : Nat → St → Option R) (x0 : (List UInt8)) (x1 : Int) (K : ((List UInt8) → Option R)) : fnK (wq9 k) k wqw 17 [.tmp 4] wq2i [.v .str x0, .v (.int .u8) x1] [] (wq1r K) = wq5h k (fun s0 s1 => iter (wq9 k).pv (look (wq9 k).cuts 1001) (execK (wq9 k) k (at_ [1, 0, 0, 0] wqw)) k (wq20 s0 s1) (konts (wq9 k) k I [1, 0, 0] wqw (outK (wq9 k) wq2i [.tmp 4] (wq1r K)))) x0 x1 K := by kernel_rfl
noncomputable def wq1j (k : Nat) {R : Type}  : Nat → (List UInt8) → Int → ((List UInt8) → Option R) → Option R
  | 0, _, _, _ => none
  | n + 1, s0, s1, K => wq3u k (fun s0 s1 => wq1j k  n s0 s1 K) s0 s1 K
theorem wqc1 (k : Nat) {R : Type} (I : Nat → St → Option R) (K : ((List UInt8) → Option R)) : ∀ (n : Nat) (s0 : (List UInt8)) (s1 : Int), iter (wq9 k).pv (look (wq9 k).cuts 1001) (execK (wq9 k) k (at_ [1, 0, 0, 0] wqw)) n (wq20 s0 s1) (konts (wq9 k) k I [1, 0, 0] wqw (outK (wq9 k) wq2i [.tmp 4] (wq1r K))) = wq1j k  n s0 s1 K := by
  intro n
  induction n with
  | zero => intros; rfl
  | succ n ih =>
    intro s0 s1
    let I' : Nat → St → Option R := fun id s => bif Nat.beq id 1001 then iter (wq9 k).pv (look (wq9 k).cuts 1001) (execK (wq9 k) k (at_ [1, 0, 0, 0] wqw)) n s (konts (wq9 k) k I [1, 0, 0] wqw (outK (wq9 k) wq2i [.tmp 4] (wq1r K))) else I id s
    have e := wqc0 k I' s0 s1 K
    have h1001 : (fun s0 s1 => I' 1001 (wq20 s0 s1)) = (fun s0 s1 => wq1j k  n s0 s1 K) := by funext s0 s1; exact ih s0 s1
    refine Eq.trans (?_ : _ = _) (e.trans (Eq.trans ((congrArg ((fun E1001 => wq3u k E1001 s0 s1 K)) h1001)) (by rw [wq1j])))
    rfl
noncomputable def wq5i (k : Nat) {R : Type} (x0 : (List UInt8)) (x1 : Int) (K : ((List UInt8) → Option R)) : Option R := wq5h k (fun s0 s1 => wq1j k k s0 s1 K) x0 x1 K
theorem wqf9 (k : Nat) {R : Type} (x0 : (List UInt8)) (x1 : Int) (K : ((List UInt8) → Option R)) : fnK (wq9 k) k wqw 17 [.tmp 4] wq2i [.v .str x0, .v (.int .u8) x1] [] (wq1r K) = wq5i k x0 x1 K := by
  let I : Nat → St → Option R := fun _ _ => none
  have h1001 : (fun s0 s1 => iter (wq9 k).pv (look (wq9 k).cuts 1001) (execK (wq9 k) k (at_ [1, 0, 0, 0] wqw)) k (wq20 s0 s1) (konts (wq9 k) k I [1, 0, 0] wqw (outK (wq9 k) wq2i [.tmp 4] (wq1r K)))) = (fun s0 s1 => wq1j k k s0 s1 K) := by funext s0 s1; exact wqc1 k I K k s0 s1
  exact (wqf8 k I x0 x1 K).trans (congrArg ((fun E1001 => wq5h k E1001 x0 x1 K)) h1001)
noncomputable def wq64 (k : Nat) {R : Type} : List PV → List (Nm × HObj) → (Out → Option R) → Option R
  | [.v .str x0, .v (.int .u8) x1], [], K => wq5i k x0 x1 (fun y0 => K (.ret [.v .str y0] []))
  | _, _, _ => none
theorem wqfa (k : Nat) : (wqbj k).Ok Tryz.prog := CTab.nil_ok
theorem wqi7 (k : Nat) {ps : List PV} {hp : List (Nm × HObj)} {R : Type} {K : Out → Option R} {r : R} (h : wq64 k ps hp K = some r) : DoesTo Tryz.prog 81 ps hp fun out => K out = some r := by
  unfold wq64 at h
  split at h
  · rw [← wqf9] at h
    have := fn_ok (P := Tryz.prog) (cx := wq9 k) (f := 81) ⟨tyT_ok, wqfa k, fun _ _ => rfl⟩ (by kernel_rfl) (fn := Tryz.f81) (c := wqw) (by kernel_rfl) (by kernel_rfl) (by kernel_rfl) (rs := [.tmp 4]) (by kernel_rfl) (by kernel_rfl) h
    exact this.mono fun out ho => by
      unfold wq1r at ho
      split at ho <;> first | exact ho | cases ho
  · cases h
end Go.Proofs.YtpfbdepoammjmaaGreatDoor.Pvm

set_option maxRecDepth 1000000
set_option maxHeartbeats 0
namespace Go.Proofs.YtpfbdepoammjmaaGreatDoor.Pvm
open Go Go.Proofs
def wqly : List LS := [.any, .any]
noncomputable def wqfb (k : Nat) : CTab := (CTab.add 81 wqg4 (wq64 k) CTab.nil)
def wq7r {R : Type} (K : ((List UInt8) → Option R)) : Out → Option R
  | .ret [.v .str y0] [] => K y0
  | _ => none
def wqdt : RetSpec := ⟨[.any], [], []⟩
def wqju : List (Nat × CutSpec) := []
def wqi8 : List (Nat × Plan) := []
noncomputable def wq9t (k : Nat) : Ctx := ⟨tyT, wqju, wqfb k, [], [], wqi8, @SH⟩
noncomputable def wq7s : Code := Tryz.f47.body.getD .skip
noncomputable def wqam (k : Nat) {R : Type}  (x0 : (List UInt8)) (x1 : UInt8) (K : ((List UInt8) → Option R)) : Option R := (@cond (@Option R) (@cond (@Kd.T Kd.bool) (@BEq.beq (@List UInt8) (@List.instBEq UInt8 (@instBEqOfDecidableEq UInt8 @instDecidableEqUInt8)) x0 []) Bool.true (@BEq.beq (@List UInt8) (@List.instBEq UInt8 (@instBEqOfDecidableEq UInt8 @instDecidableEqUInt8)) (x1 :: []) [])) (K x0) (@cond (@Option R) (@cond (@Kd.T Kd.bool) (@BEq.beq Int (@instBEqOfDecidableEq Int @Int.instDecidableEq) (@Nat.cast Int instNatCastInt (@List.length UInt8 (x1 :: []))) (1 : Int)) (@Decidable.decide (@LT.lt Int Int.instLTInt (@Nat.cast Int instNatCastInt (@UInt8.toNat (@List.getD UInt8 (x1 :: []) (@Int.toNat (0 : Int)) (0 : UInt8)))) (128 : Int)) (@Int.decLt (@Nat.cast Int instNatCastInt (@UInt8.toNat (@List.getD UInt8 (x1 :: []) (@Int.toNat (0 : Int)) (0 : UInt8)))) (128 : Int))) Bool.false) (@wq5i k R x0 (@Nat.cast Int instNatCastInt (@UInt8.toNat (@List.getD UInt8 (x1 :: []) (@Int.toNat (0 : Int)) (0 : UInt8)))) (fun y5 => (K y5))) (@Option.none R)))
theorem wqjv (k : Nat) {R : Type} (I : Nat → St → Option R) (x0 : (List UInt8)) (x1 : UInt8) (K : ((List UInt8) → Option R)) : fnK (wq9t k) k wq7s 37 [.tmp 4] wqdt [.v .str x0, .v .str [x1]] [] (wq7r K) = wqam k  x0 x1 K := by kernel_rfl
noncomputable def wq5u (k : Nat) {R : Type} (x0 : (List UInt8)) (x1 : UInt8) (K : ((List UInt8) → Option R)) : Option R := wqam k  x0 x1 K
theorem wqjw (k : Nat) {R : Type} (x0 : (List UInt8)) (x1 : UInt8) (K : ((List UInt8) → Option R)) : fnK (wq9t k) k wq7s 37 [.tmp 4] wqdt [.v .str x0, .v .str [x1]] [] (wq7r K) = wq5u k x0 x1 K := by
  exact wqjv k (fun _ _ => none) x0 x1 K
noncomputable def wq8z (k : Nat) {R : Type} : List PV → List (Nm × HObj) → (Out → Option R) → Option R
  | [.v .str x0, .v .str [x1]], [], K => wq5u k x0 x1 (fun y0 => K (.ret [.v .str y0] []))
  | _, _, _ => none
theorem wqjx (k : Nat) : (wqfb k).Ok Tryz.prog := (CTab.add_ok (fun h => wqi7 k h) CTab.nil_ok)
theorem wqoi (k : Nat) {ps : List PV} {hp : List (Nm × HObj)} {R : Type} {K : Out → Option R} {r : R} (h : wq8z k ps hp K = some r) : DoesTo Tryz.prog 47 ps hp fun out => K out = some r := by
  unfold wq8z at h
  split at h
  · rw [← wqjw] at h
    have := fn_ok (P := Tryz.prog) (cx := wq9t k) (f := 47) ⟨tyT_ok, wqjx k, fun _ _ => rfl⟩ (by kernel_rfl) (fn := Tryz.f47) (c := wq7s) (by kernel_rfl) (by kernel_rfl) (by kernel_rfl) (rs := [.tmp 4]) (by kernel_rfl) (by kernel_rfl) h
    exact this.mono fun out ho => by
      unfold wq7r at ho
      split at ho <;> first | exact ho | cases ho
  · cases h
end Go.Proofs.YtpfbdepoammjmaaGreatDoor.Pvm

set_option maxRecDepth 1000000
set_option maxHeartbeats 0
namespace Go.Proofs.YtpfbdepoammjmaaGreatDoor.Pvm
open Go Go.Proofs
def wqw3 : List LS := [.sl (.int .u8)]
noncomputable def wqsp (k : Nat) : CTab := (CTab.add 44 wqtv (wqe8 k) (CTab.add 45 wqjt (wq7q k) (CTab.add 46 wqyu (wqlx k) (CTab.add 47 wqly (wq8z k) (CTab.add 48 wqw1 (wqg3 k) CTab.nil)))))
def wq4s {R : Type} (K : ((List (Int × (Int × (List UInt8)))) → Int → Int → Option R)) : Out → Option R
  | .ret [.v (.sl (.pr (.int .i64) (.pr (.int .i64) .str))) y0, .agg [.v (.int .i64) y1, .v (.int .i64) y2]] [] => K y0 y1 y2
  | _ => none
def wq6y : RetSpec := ⟨[.sl (.pr (.int .i64) (.pr (.int .i64) .str)), .ag [.any, .any]], [], []⟩
def wqu1 : List (Nat × CutSpec) := [(1005, ⟨[(3, .obj 13 [.any, .any]), (4, .own 100004 106 (.pr (.int .i64) (.pr (.int .i64) .str))), (17, .sl (.sl (.int .u8))), (18, .any), (19, .any)], []⟩)]
def wqsq : List (Nat × Plan) := []
noncomputable def wq12 (k : Nat) : Ctx := ⟨tyT, wqu1, wqsp k, [], [], wqsq, @SH⟩
noncomputable def wq2c : Code := Tryz.f18.body.getD .skip
def wq4u (s0 s1 : Int) (s2 : (List (Int × (Int × (List UInt8))))) (s3 : (List (List Int))) (s4 s5 : Int) : St := ⟨mkT [(3, .ptr 13 0), (4, .row 100004), (17, .v (.sl (.sl (.int .u8))) s3), (18, .v (.int .i64) s4), (19, .v (.int .i64) s5)], mkH [(13, .var 28 [.v (.int .i64) s0, .v (.int .i64) s1]), (100004, .row 106 (.pr (.int .i64) (.pr (.int .i64) .str)) s2)]⟩
noncomputable def wq82 (k : Nat) {R : Type} (E1005 : (Int → Int → (List (Int × (Int × (List UInt8)))) → (List (List Int)) → Int → Int → Option R)) (s0 s1 : Int) (s2 : (List (Int × (Int × (List UInt8))))) (s3 : (List (List Int))) (s4 s5 : Int) (K : ((List (Int × (Int × (List UInt8)))) → Int → Int → Option R)) : Option R := (@cond (@Option R) (@Decidable.decide (@LT.lt Int Int.instLTInt s5 s4) (@Int.decLt s5 s4)) (@cond (@Option R) (@inb s5 (@Nat.cast Int instNatCastInt (@List.length (@Kd.T (@Kd.sl (@Kd.int Go.IntKind.u8))) s3))) (@wq9s k R (@ofBytes (@List.getD (@Kd.T (@Kd.sl (@Kd.int Go.IntKind.u8))) s3 (@Int.toNat s5) (@Kd.zero (@Kd.sl (@Kd.int Go.IntKind.u8))))) (fun y10 => (@cond (@Option R) (@Decidable.decide (@GE.ge Int Int.instLEInt y10 (0 : Int)) (@Int.decLe (0 : Int) y10)) (K [] (2 : Int) (@Go.IntKind.wrap Go.IntKind.i64 (@HAdd.hAdd Int Int Int (@instHAdd Int @Int.instAdd) s5 (1 : Int)))) (@wq5u k R (@ofBytes (@List.getD (@Kd.T (@Kd.sl (@Kd.int Go.IntKind.u8))) s3 (@Int.toNat s5) (@Kd.zero (@Kd.sl (@Kd.int Go.IntKind.u8))))) (32 : UInt8) (fun y11 => (@wqal k R y11 (fun y12 y13 => (@cond (@Option R) (@Bool.not y13) (K [] (3 : Int) (@Go.IntKind.wrap Go.IntKind.i64 (@HAdd.hAdd Int Int Int (@instHAdd Int @Int.instAdd) s5 (1 : Int)))) (@cond (@Option R) (@Bool.not (@BEq.beq (@List UInt8) (@List.instBEq UInt8 (@instBEqOfDecidableEq UInt8 @instDecidableEqUInt8)) y12 [])) (@cond (@Option R) (@fits (@List.length (@Kd.T (@Kd.pr kI (@Kd.pr kI Kd.str))) s2) (@List.length (@Kd.T (@Kd.pr kI (@Kd.pr kI Kd.str))) (((@Go.IntKind.wrap Go.IntKind.i64 (@HAdd.hAdd Int Int Int (@instHAdd Int @Int.instAdd) s5 (1 : Int))), ((@Go.IntKind.wrap Go.IntKind.i64 (@HSub.hSub Int Int Int (@instHSub Int @Int.instSub) (@Nat.cast Int instNatCastInt (@List.length UInt8 (@ofBytes (@List.getD (@Kd.T (@Kd.sl (@Kd.int Go.IntKind.u8))) s3 (@Int.toNat s5) (@Kd.zero (@Kd.sl (@Kd.int Go.IntKind.u8))))))) (@Nat.cast Int instNatCastInt (@List.length UInt8 y11)))), y12)) :: [])) (32 : Nat)) (E1005 s0 s1 (@HAppend.hAppend (@Kd.T (@Kd.sl (@Kd.pr kI (@Kd.pr kI Kd.str)))) (@List (@Kd.T (@Kd.pr kI (@Kd.pr kI Kd.str)))) (@Kd.T (@Kd.sl (@Kd.pr kI (@Kd.pr kI Kd.str)))) (@instHAppendOfAppend (@Kd.T (@Kd.sl (@Kd.pr kI (@Kd.pr kI Kd.str)))) (@List.instAppend (@Kd.T (@Kd.pr kI (@Kd.pr kI Kd.str))))) s2 (((@Go.IntKind.wrap Go.IntKind.i64 (@HAdd.hAdd Int Int Int (@instHAdd Int @Int.instAdd) s5 (1 : Int))), ((@Go.IntKind.wrap Go.IntKind.i64 (@HSub.hSub Int Int Int (@instHSub Int @Int.instSub) (@Nat.cast Int instNatCastInt (@List.length UInt8 (@ofBytes (@List.getD (@Kd.T (@Kd.sl (@Kd.int Go.IntKind.u8))) s3 (@Int.toNat s5) (@Kd.zero (@Kd.sl (@Kd.int Go.IntKind.u8))))))) (@Nat.cast Int instNatCastInt (@List.length UInt8 y11)))), y12)) :: [])) s3 s4 (@Go.IntKind.wrap Go.IntKind.i64 (@HAdd.hAdd Int Int Int (@instHAdd Int @Int.instAdd) s5 (1 : Int)))) (@Option.none R)) (E1005 s0 s1 s2 s3 s4 (@Go.IntKind.wrap Go.IntKind.i64 (@HAdd.hAdd Int Int Int (@instHAdd Int @Int.instAdd) s5 (1 : Int))))))))))))) (@Option.none R)) (K s2 (0 : (@Kd.T kI)) (0 : (@Kd.T kI))))
theorem wqlz (k : Nat) {R : Type} (I : Nat → St → Option R) (s0 s1 : Int) (s2 : (List (Int × (Int × (List UInt8))))) (s3 : (List (List Int))) (s4 s5 : Int) (K : ((List (Int × (Int × (List UInt8)))) → Int → Int → Option R)) : execK (wq12 k) k (at_ [1, 1, 1, 0, 1, 0, 0] wq2c) (wq4u s0 s1 s2 s3 s4 s5) (konts (wq12 k) k I [1, 1, 1, 0, 1, 0, 0] wq2c (outK (wq12 k) wq6y [.tmp 2, .cell 3 28] (wq4s K))) = wq82 k (fun s0 s1 s2 s3 s4 s5 => I 1005 (wq4u s0 s1 s2 s3 s4 s5)) s0 s1 s2 s3 s4 s5 K := by kernel_rfl
noncomputable def wqg5 (k : Nat) {R : Type} (E1005 : (Int → Int → (List (Int × (Int × (List UInt8)))) → (List (List Int)) → Int → Int → Option R)) (x0 : (List Int)) (K : ((List (Int × (Int × (List UInt8)))) → Int → Int → Option R)) : Option R := (@cond (@Option R) (@Decidable.decide (@GT.gt Int Int.instLTInt (@Nat.cast Int instNatCastInt (@List.length (@Kd.T (@Kd.int Go.IntKind.u8)) x0)) (16384 : Int)) (@Int.decLt (16384 : Int) (@Nat.cast Int instNatCastInt (@List.length (@Kd.T (@Kd.int Go.IntKind.u8)) x0)))) (K [] (1 : Int) (1 : Int)) (@wqbg k R x0 (10 : Int) (fun y5 => (E1005 (0 : (@Kd.T kI)) (0 : (@Kd.T kI)) [] y5 (@Nat.cast Int instNatCastInt (@List.length (@Kd.T (@Kd.sl (@Kd.int Go.IntKind.u8))) y5)) (0 : Int)))))
theorem wqu2 (k : Nat) {R : Type} (I : Nat → St → Option R) (x0 : (List Int)) (K : ((List (Int × (Int × (List UInt8)))) → Int → Int → Option R)) : fnK (wq12 k) k wq2c 61 [.tmp 2, .cell 3 28] wq6y [.v (.sl (.int .u8)) x0] [] (wq4s K) = wqg5 k (fun s0 s1 s2 s3 s4 s5 => iter (wq12 k).pv (look (wq12 k).cuts 1005) (execK (wq12 k) k (at_ [1, 1, 1, 0, 1, 0, 0] wq2c)) k (wq4u s0 s1 s2 s3 s4 s5) (konts (wq12 k) k I [1, 1, 1, 0, 1, 0] wq2c (outK (wq12 k) wq6y [.tmp 2, .cell 3 28] (wq4s K)))) x0 K := by kernel_rfl
noncomputable def wq3s (k : Nat) {R : Type}  : Nat → Int → Int → (List (Int × (Int × (List UInt8)))) → (List (List Int)) → Int → Int → ((List (Int × (Int × (List UInt8)))) → Int → Int → Option R) → Option R
  | 0, _, _, _, _, _, _, _ => none
  | n + 1, s0, s1, s2, s3, s4, s5, K => wq82 k (fun s0 s1 s2 s3 s4 s5 => wq3s k  n s0 s1 s2 s3 s4 s5 K) s0 s1 s2 s3 s4 s5 K
theorem wqm0 (k : Nat) {R : Type} (I : Nat → St → Option R) (K : ((List (Int × (Int × (List UInt8)))) → Int → Int → Option R)) : ∀ (n : Nat) (s0 s1 : Int) (s2 : (List (Int × (Int × (List UInt8))))) (s3 : (List (List Int))) (s4 s5 : Int), iter (wq12 k).pv (look (wq12 k).cuts 1005) (execK (wq12 k) k (at_ [1, 1, 1, 0, 1, 0, 0] wq2c)) n (wq4u s0 s1 s2 s3 s4 s5) (konts (wq12 k) k I [1, 1, 1, 0, 1, 0] wq2c (outK (wq12 k) wq6y [.tmp 2, .cell 3 28] (wq4s K))) = wq3s k  n s0 s1 s2 s3 s4 s5 K := by
  intro n
  induction n with
  | zero => intros; rfl
  | succ n ih =>
    intro s0 s1 s2 s3 s4 s5
    let I' : Nat → St → Option R := fun id s => bif Nat.beq id 1005 then iter (wq12 k).pv (look (wq12 k).cuts 1005) (execK (wq12 k) k (at_ [1, 1, 1, 0, 1, 0, 0] wq2c)) n s (konts (wq12 k) k I [1, 1, 1, 0, 1, 0] wq2c (outK (wq12 k) wq6y [.tmp 2, .cell 3 28] (wq4s K))) else I id s
    have e := wqlz k I' s0 s1 s2 s3 s4 s5 K
    have h1005 : (fun s0 s1 s2 s3 s4 s5 => I' 1005 (wq4u s0 s1 s2 s3 s4 s5)) = (fun s0 s1 s2 s3 s4 s5 => wq3s k  n s0 s1 s2 s3 s4 s5 K) := by funext s0 s1 s2 s3 s4 s5; exact ih s0 s1 s2 s3 s4 s5
    refine Eq.trans (?_ : _ = _) (e.trans (Eq.trans ((congrArg ((fun E1005 => wq82 k E1005 s0 s1 s2 s3 s4 s5 K)) h1005)) (by rw [wq3s])))
    rfl
noncomputable def wqan (k : Nat) {R : Type} (x0 : (List Int)) (K : ((List (Int × (Int × (List UInt8)))) → Int → Int → Option R)) : Option R := wqg5 k (fun s0 s1 s2 s3 s4 s5 => wq3s k k s0 s1 s2 s3 s4 s5 K) x0 K
theorem wqu3 (k : Nat) {R : Type} (x0 : (List Int)) (K : ((List (Int × (Int × (List UInt8)))) → Int → Int → Option R)) : fnK (wq12 k) k wq2c 61 [.tmp 2, .cell 3 28] wq6y [.v (.sl (.int .u8)) x0] [] (wq4s K) = wqan k x0 K := by
  let I : Nat → St → Option R := fun _ _ => none
  have h1005 : (fun s0 s1 s2 s3 s4 s5 => iter (wq12 k).pv (look (wq12 k).cuts 1005) (execK (wq12 k) k (at_ [1, 1, 1, 0, 1, 0, 0] wq2c)) k (wq4u s0 s1 s2 s3 s4 s5) (konts (wq12 k) k I [1, 1, 1, 0, 1, 0] wq2c (outK (wq12 k) wq6y [.tmp 2, .cell 3 28] (wq4s K)))) = (fun s0 s1 s2 s3 s4 s5 => wq3s k k s0 s1 s2 s3 s4 s5 K) := by funext s0 s1 s2 s3 s4 s5; exact wqm0 k I K k s0 s1 s2 s3 s4 s5
  exact (wqu2 k I x0 K).trans (congrArg ((fun E1005 => wqg5 k E1005 x0 K)) h1005)
noncomputable def wqg6 (k : Nat) {R : Type} : List PV → List (Nm × HObj) → (Out → Option R) → Option R
  | [.v (.sl (.int .u8)) x0], [], K => wqan k x0 (fun y0 y1 y2 => K (.ret [.v (.sl (.pr (.int .i64) (.pr (.int .i64) .str))) y0, .agg [.v (.int .i64) y1, .v (.int .i64) y2]] []))
  | _, _, _ => none
theorem wqu4 (k : Nat) : (wqsp k).Ok Tryz.prog := (CTab.add_ok (fun h => wqxm k h) (CTab.add_ok (fun h => wqnf k h) (CTab.add_ok (fun h => wqxv k h) (CTab.add_ok (fun h => wqoi k h) (CTab.add_ok (fun h => wqyt k h) CTab.nil_ok)))))
theorem wqyv (k : Nat) {ps : List PV} {hp : List (Nm × HObj)} {R : Type} {K : Out → Option R} {r : R} (h : wqg6 k ps hp K = some r) : DoesTo Tryz.prog 18 ps hp fun out => K out = some r := by
  unfold wqg6 at h
  split at h
  · rw [← wqu3] at h
    have := fn_ok (P := Tryz.prog) (cx := wq12 k) (f := 18) ⟨tyT_ok, wqu4 k, fun _ _ => rfl⟩ (by kernel_rfl) (fn := Tryz.f18) (c := wq2c) (by kernel_rfl) (by kernel_rfl) (by kernel_rfl) (rs := [.tmp 2, .cell 3 28]) (by kernel_rfl) (by kernel_rfl) h
    exact this.mono fun out ho => by
      unfold wq4s at ho
      split at ho <;> first | exact ho | cases ho
  · cases h
end Go.Proofs.YtpfbdepoammjmaaGreatDoor.Pvm

set_option maxRecDepth 1000000
set_option maxHeartbeats 0
namespace Go.Proofs.YtpfbdepoammjmaaGreatDoor.Pvm
open Go Go.Proofs
def wqpl : List LS := [.sl (.int .u8)]
noncomputable def wquy (k : Nat) : CTab := (CTab.add 17 wqwz (wqml k) (CTab.add 18 wqw3 (wqg6 k) (CTab.add 19 wq10n (wqoe k) CTab.nil)))
def wqg7 {R : Type} (K : ((List (Int × (Int × ((List UInt8) × (Bool × ((List (List UInt8)) × (List Int))))))) → Int → Int → Option R)) : Out → Option R
  | .ret [.agg [.v (.sl (.pr (.int .i64) (.pr (.int .i64) (.pr .str (.pr .bool (.pr (.sl .str) (.sl (.int .i64)))))))) y0], .agg [.v (.int .i64) y1, .v (.int .i64) y2]] [] => K y0 y1 y2
  | _ => none
def wqsr : RetSpec := ⟨[.ag [.sl (.pr (.int .i64) (.pr (.int .i64) (.pr .str (.pr .bool (.pr (.sl .str) (.sl (.int .i64)))))))], .ag [.any, .any]], [], []⟩
def wqw4 : List (Nat × CutSpec) := []
def wqu5 : List (Nat × Plan) := [(3, (.of [(0, 1), (1, 2), (2, 0), (3, 0)] .done)), (6, (.of [(0, 1), (1, 2), (2, 0), (3, 0)] .done))]
noncomputable def wqm1 (k : Nat) : Ctx := ⟨tyT, wqw4, wquy k, [], [], wqu5, @SH⟩
noncomputable def wqg8 : Code := Tryz.f7.body.getD .skip
noncomputable def wqoj (k : Nat) {R : Type}  (x0 : (List Int)) (K : ((List (Int × (Int × ((List UInt8) × (Bool × ((List (List UInt8)) × (List Int))))))) → Int → Int → Option R)) : Option R := (@wqan k R x0 (fun y4 y5 y6 => (@cond (@Option R) (@bne Int (@instBEqOfDecidableEq Int @Int.instDecidableEq) y5 (0 : Int)) (K [] y5 y6) (@wqn5 k R y4 (fun y7 y8 y9 => (@cond (@Option R) (@bne Int (@instBEqOfDecidableEq Int @Int.instDecidableEq) y8 (0 : Int)) (K [] y8 y9) (@F_doc_Of k R y7 (fun y10 y11 y12 => (K y10 y11 y12)))))))))
theorem wqw5 (k : Nat) {R : Type} (I : Nat → St → Option R) (x0 : (List Int)) (K : ((List (Int × (Int × ((List UInt8) × (Bool × ((List (List UInt8)) × (List Int))))))) → Int → Int → Option R)) : fnK (wqm1 k) k wqg8 31 [.cell 2 26, .cell 3 28] wqsr [.v (.sl (.int .u8)) x0] [] (wqg7 K) = wqoj k  x0 K := by kernel_rfl
noncomputable def wq77 (k : Nat) {R : Type} (x0 : (List Int)) (K : ((List (Int × (Int × ((List UInt8) × (Bool × ((List (List UInt8)) × (List Int))))))) → Int → Int → Option R)) : Option R := wqoj k  x0 K
theorem wqw6 (k : Nat) {R : Type} (x0 : (List Int)) (K : ((List (Int × (Int × ((List UInt8) × (Bool × ((List (List UInt8)) × (List Int))))))) → Int → Int → Option R)) : fnK (wqm1 k) k wqg8 31 [.cell 2 26, .cell 3 28] wqsr [.v (.sl (.int .u8)) x0] [] (wqg7 K) = wq77 k x0 K := by
  exact wqw5 k (fun _ _ => none) x0 K
noncomputable def wqdu (k : Nat) {R : Type} : List PV → List (Nm × HObj) → (Out → Option R) → Option R
  | [.v (.sl (.int .u8)) x0], [], K => wq77 k x0 (fun y0 y1 y2 => K (.ret [.agg [.v (.sl (.pr (.int .i64) (.pr (.int .i64) (.pr .str (.pr .bool (.pr (.sl .str) (.sl (.int .i64)))))))) y0], .agg [.v (.int .i64) y1, .v (.int .i64) y2]] []))
  | _, _, _ => none
theorem wqw7 (k : Nat) : (wquy k).Ok Tryz.prog := (CTab.add_ok (fun h => D_doc_Of k h) (CTab.add_ok (fun h => wqyv k h) (CTab.add_ok (fun h => wq127 k h) CTab.nil_ok)))
theorem wquz (k : Nat) {ps : List PV} {hp : List (Nm × HObj)} {R : Type} {K : Out → Option R} {r : R} (h : wqdu k ps hp K = some r) : DoesTo Tryz.prog 7 ps hp fun out => K out = some r := by
  unfold wqdu at h
  split at h
  · rw [← wqw6] at h
    have := fn_ok (P := Tryz.prog) (cx := wqm1 k) (f := 7) ⟨tyT_ok, wqw7 k, fun _ _ => rfl⟩ (by kernel_rfl) (fn := Tryz.f7) (c := wqg8) (by kernel_rfl) (by kernel_rfl) (by kernel_rfl) (rs := [.cell 2 26, .cell 3 28]) (by kernel_rfl) (by kernel_rfl) h
    exact this.mono fun out ho => by
      unfold wqg7 at ho
      split at ho <;> first | exact ho | cases ho
  · cases h
end Go.Proofs.YtpfbdepoammjmaaGreatDoor.Pvm

set_option maxRecDepth 1000000
set_option maxHeartbeats 0
namespace Go.Proofs.YtpfbdepoammjmaaGreatDoor.Pvm
open Go Go.Proofs
abbrev wq5v (R : Type) : Type := ((List (Int × (Int × ((List UInt8) × (Bool × ((List (List UInt8)) × (List Int))))))) → (List (Int × (Int × ((List UInt8) × (Bool × ((List (List UInt8)) × (List Int))))))) → Int → Option R)
def wqw8 : List LS := [.ag [.sl (.pr (.int .i64) (.pr (.int .i64) (.pr .str (.pr .bool (.pr (.sl .str) (.sl (.int .i64)))))))], .ag [.sl (.pr (.int .i64) (.pr (.int .i64) (.pr .str (.pr .bool (.pr (.sl .str) (.sl (.int .i64)))))))]]
noncomputable def wqss (k : Nat) : CTab := CTab.nil
def wq1h {R : Type} (K : (Bool → Option R)) : Out → Option R
  | .ret [.v .bool y0] [] => K y0
  | _ => none
def wq25 : RetSpec := ⟨[.any], [], []⟩
def wqu6 : List (Nat × CutSpec) := [(1004, ⟨[(2, .obj 12 [.sl (.pr (.int .i64) (.pr (.int .i64) (.pr .str (.pr .bool (.pr (.sl .str) (.sl (.int .i64)))))))]), (3, .obj 13 [.sl (.pr (.int .i64) (.pr (.int .i64) (.pr .str (.pr .bool (.pr (.sl .str) (.sl (.int .i64)))))))]), (5, .any)], []⟩), (1010, ⟨[(2, .obj 12 [.sl (.pr (.int .i64) (.pr (.int .i64) (.pr .str (.pr .bool (.pr (.sl .str) (.sl (.int .i64)))))))]), (3, .obj 13 [.sl (.pr (.int .i64) (.pr (.int .i64) (.pr .str (.pr .bool (.pr (.sl .str) (.sl (.int .i64)))))))]), (5, .any), (6, .obj 16 [.any, .any, .any, .any, .sl .str, .sl (.int .i64)]), (7, .obj 17 [.any, .any, .any, .any, .sl .str, .sl (.int .i64)]), (8, .any)], []⟩), (1015, ⟨[(2, .obj 12 [.sl (.pr (.int .i64) (.pr (.int .i64) (.pr .str (.pr .bool (.pr (.sl .str) (.sl (.int .i64)))))))]), (3, .obj 13 [.sl (.pr (.int .i64) (.pr (.int .i64) (.pr .str (.pr .bool (.pr (.sl .str) (.sl (.int .i64)))))))]), (5, .any), (6, .obj 16 [.any, .any, .any, .any, .sl .str, .sl (.int .i64)]), (7, .obj 17 [.any, .any, .any, .any, .sl .str, .sl (.int .i64)]), (9, .any)], []⟩)]
def wqst : List (Nat × Plan) := [(6, (.of [(0, 1), (2, 1), (5, 1), (7, 1), (1, 1), (3, 1), (4, 1), (6, 2), (8, 1), (9, 2)] (.alt 10 (.of [(11, 0), (12, 0), (13, 0)] .done) (.op 11 0 (.of [(10, 0), (12, 0), (13, 0)] .done))))), (12, (.of [(0, 1), (2, 1), (5, 1), (7, 1), (1, 1), (3, 1), (4, 1), (6, 1), (8, 1), (9, 1), (10, 1)] .done)), (17, (.of [(0, 1), (2, 1), (5, 1), (7, 1), (1, 1), (3, 1), (4, 1), (6, 1), (8, 1), (9, 1), (10, 1)] .done))]
noncomputable def wq6 (k : Nat) : Ctx := ⟨tyT, wqu6, wqss k, [], [], wqst, @SH⟩
noncomputable def wqq : Code := Tryz.f13.body.getD .skip
def wq1n (s0 : (List (Int × (Int × ((List UInt8) × (Bool × ((List (List UInt8)) × (List Int)))))))) (s1 : (List (Int × (Int × ((List UInt8) × (Bool × ((List (List UInt8)) × (List Int)))))))) (s2 : Int) : St := ⟨mkT [(2, .ptr 12 0), (3, .ptr 13 0), (5, .v (.int .i64) s2)], mkH [(12, .var 26 [.v (.sl (.pr (.int .i64) (.pr (.int .i64) (.pr .str (.pr .bool (.pr (.sl .str) (.sl (.int .i64)))))))) s0]), (13, .var 26 [.v (.sl (.pr (.int .i64) (.pr (.int .i64) (.pr .str (.pr .bool (.pr (.sl .str) (.sl (.int .i64)))))))) s1])]⟩
def wq4v (s0 : (List (Int × (Int × ((List UInt8) × (Bool × ((List (List UInt8)) × (List Int)))))))) (s1 : (List (Int × (Int × ((List UInt8) × (Bool × ((List (List UInt8)) × (List Int)))))))) (s2 s3 s4 : Int) (s5 : (List UInt8)) (s6 : Bool) (s7 : (List (List UInt8))) (s8 : (List Int)) (s9 s10 : Int) (s11 : (List UInt8)) (s12 : Bool) (s13 : (List (List UInt8))) (s14 : (List Int)) (s15 : Int) : St := ⟨mkT [(2, .ptr 12 0), (3, .ptr 13 0), (5, .v (.int .i64) s2), (6, .ptr 16 0), (7, .ptr 17 0), (8, .v (.int .i64) s15)], mkH [(12, .var 26 [.v (.sl (.pr (.int .i64) (.pr (.int .i64) (.pr .str (.pr .bool (.pr (.sl .str) (.sl (.int .i64)))))))) s0]), (13, .var 26 [.v (.sl (.pr (.int .i64) (.pr (.int .i64) (.pr .str (.pr .bool (.pr (.sl .str) (.sl (.int .i64)))))))) s1]), (16, .var 52 [.v (.int .i64) s3, .v (.int .i64) s4, .v .str s5, .v .bool s6, .v (.sl .str) s7, .v (.sl (.int .i64)) s8]), (17, .var 52 [.v (.int .i64) s9, .v (.int .i64) s10, .v .str s11, .v .bool s12, .v (.sl .str) s13, .v (.sl (.int .i64)) s14])]⟩
def wq4w (s0 : (List (Int × (Int × ((List UInt8) × (Bool × ((List (List UInt8)) × (List Int)))))))) (s1 : (List (Int × (Int × ((List UInt8) × (Bool × ((List (List UInt8)) × (List Int)))))))) (s2 s3 s4 : Int) (s5 : (List UInt8)) (s6 : Bool) (s7 : (List (List UInt8))) (s8 : (List Int)) (s9 s10 : Int) (s11 : (List UInt8)) (s12 : Bool) (s13 : (List (List UInt8))) (s14 : (List Int)) (s15 : Int) : St := ⟨mkT [(2, .ptr 12 0), (3, .ptr 13 0), (5, .v (.int .i64) s2), (6, .ptr 16 0), (7, .ptr 17 0), (9, .v (.int .i64) s15)], mkH [(12, .var 26 [.v (.sl (.pr (.int .i64) (.pr (.int .i64) (.pr .str (.pr .bool (.pr (.sl .str) (.sl (.int .i64)))))))) s0]), (13, .var 26 [.v (.sl (.pr (.int .i64) (.pr (.int .i64) (.pr .str (.pr .bool (.pr (.sl .str) (.sl (.int .i64)))))))) s1]), (16, .var 52 [.v (.int .i64) s3, .v (.int .i64) s4, .v .str s5, .v .bool s6, .v (.sl .str) s7, .v (.sl (.int .i64)) s8]), (17, .var 52 [.v (.int .i64) s9, .v (.int .i64) s10, .v .str s11, .v .bool s12, .v (.sl .str) s13, .v (.sl (.int .i64)) s14])]⟩
noncomputable def wq83 (k : Nat) {R : Type} (E1010 : ((List (Int × (Int × ((List UInt8) × (Bool × ((List (List UInt8)) × (List Int))))))) → (List (Int × (Int × ((List UInt8) × (Bool × ((List (List UInt8)) × (List Int))))))) → Int → Int → Int → (List UInt8) → Bool → (List (List UInt8)) → (List Int) → Int → Int → (List UInt8) → Bool → (List (List UInt8)) → (List Int) → Int → Option R)) (s0 : (List (Int × (Int × ((List UInt8) × (Bool × ((List (List UInt8)) × (List Int)))))))) (s1 : (List (Int × (Int × ((List UInt8) × (Bool × ((List (List UInt8)) × (List Int)))))))) (s2 : Int) (K : (Bool → Option R)) : Option R := (@cond (@Option R) (@Decidable.decide (@LT.lt Int Int.instLTInt s2 (@Nat.cast Int instNatCastInt (@List.length (@Kd.T (@Kd.pr kI (@Kd.pr kI (@Kd.pr Kd.str (@Kd.pr Kd.bool (@Kd.pr (@Kd.sl Kd.str) (@Kd.sl kI))))))) s0))) (@Int.decLt s2 (@Nat.cast Int instNatCastInt (@List.length (@Kd.T (@Kd.pr kI (@Kd.pr kI (@Kd.pr Kd.str (@Kd.pr Kd.bool (@Kd.pr (@Kd.sl Kd.str) (@Kd.sl kI))))))) s0)))) (@cond (@Option R) (@inb s2 (@Nat.cast Int instNatCastInt (@List.length (@Kd.T (@Kd.pr kI (@Kd.pr kI (@Kd.pr Kd.str (@Kd.pr Kd.bool (@Kd.pr (@Kd.sl Kd.str) (@Kd.sl kI))))))) s0))) (@cond (@Option R) (@inb s2 (@Nat.cast Int instNatCastInt (@List.length (@Kd.T (@Kd.pr kI (@Kd.pr kI (@Kd.pr Kd.str (@Kd.pr Kd.bool (@Kd.pr (@Kd.sl Kd.str) (@Kd.sl kI))))))) s1))) (@dupT R (@Shp.b @Shp.o @Shp.o) (@cond (@Option R) (@cond (@Kd.T Kd.bool) (@cond (@Kd.T Kd.bool) (@cond (@Kd.T Kd.bool) (@cond (@Kd.T Kd.bool) (@bne Int (@instBEqOfDecidableEq Int @Int.instDecidableEq) (@List.getD (@Kd.T (@Kd.pr kI (@Kd.pr kI (@Kd.pr Kd.str (@Kd.pr Kd.bool (@Kd.pr (@Kd.sl Kd.str) (@Kd.sl kI))))))) s0 (@Int.toNat s2) (@Kd.zero (@Kd.pr kI (@Kd.pr kI (@Kd.pr Kd.str (@Kd.pr Kd.bool (@Kd.pr (@Kd.sl Kd.str) (@Kd.sl kI)))))))).1 (@List.getD (@Kd.T (@Kd.pr kI (@Kd.pr kI (@Kd.pr Kd.str (@Kd.pr Kd.bool (@Kd.pr (@Kd.sl Kd.str) (@Kd.sl kI))))))) s1 (@Int.toNat s2) (@Kd.zero (@Kd.pr kI (@Kd.pr kI (@Kd.pr Kd.str (@Kd.pr Kd.bool (@Kd.pr (@Kd.sl Kd.str) (@Kd.sl kI)))))))).1) Bool.true (@Bool.not (@BEq.beq (@List UInt8) (@List.instBEq UInt8 (@instBEqOfDecidableEq UInt8 @instDecidableEqUInt8)) (@List.getD (@Kd.T (@Kd.pr kI (@Kd.pr kI (@Kd.pr Kd.str (@Kd.pr Kd.bool (@Kd.pr (@Kd.sl Kd.str) (@Kd.sl kI))))))) s0 (@Int.toNat s2) (@Kd.zero (@Kd.pr kI (@Kd.pr kI (@Kd.pr Kd.str (@Kd.pr Kd.bool (@Kd.pr (@Kd.sl Kd.str) (@Kd.sl kI)))))))).2.2.1 (@List.getD (@Kd.T (@Kd.pr kI (@Kd.pr kI (@Kd.pr Kd.str (@Kd.pr Kd.bool (@Kd.pr (@Kd.sl Kd.str) (@Kd.sl kI))))))) s1 (@Int.toNat s2) (@Kd.zero (@Kd.pr kI (@Kd.pr kI (@Kd.pr Kd.str (@Kd.pr Kd.bool (@Kd.pr (@Kd.sl Kd.str) (@Kd.sl kI)))))))).2.2.1))) Bool.true (@Bool.not (@BEq.beq (@Kd.T Kd.bool) (@instBEqOfDecidableEq (@Kd.T Kd.bool) @instDecidableEqBool) (@List.getD (@Kd.T (@Kd.pr kI (@Kd.pr kI (@Kd.pr Kd.str (@Kd.pr Kd.bool (@Kd.pr (@Kd.sl Kd.str) (@Kd.sl kI))))))) s0 (@Int.toNat s2) (@Kd.zero (@Kd.pr kI (@Kd.pr kI (@Kd.pr Kd.str (@Kd.pr Kd.bool (@Kd.pr (@Kd.sl Kd.str) (@Kd.sl kI)))))))).2.2.2.1 (@List.getD (@Kd.T (@Kd.pr kI (@Kd.pr kI (@Kd.pr Kd.str (@Kd.pr Kd.bool (@Kd.pr (@Kd.sl Kd.str) (@Kd.sl kI))))))) s1 (@Int.toNat s2) (@Kd.zero (@Kd.pr kI (@Kd.pr kI (@Kd.pr Kd.str (@Kd.pr Kd.bool (@Kd.pr (@Kd.sl Kd.str) (@Kd.sl kI)))))))).2.2.2.1))) Bool.true (@bne Int (@instBEqOfDecidableEq Int @Int.instDecidableEq) (@Nat.cast Int instNatCastInt (@List.length (@Kd.T Kd.str) (@List.getD (@Kd.T (@Kd.pr kI (@Kd.pr kI (@Kd.pr Kd.str (@Kd.pr Kd.bool (@Kd.pr (@Kd.sl Kd.str) (@Kd.sl kI))))))) s0 (@Int.toNat s2) (@Kd.zero (@Kd.pr kI (@Kd.pr kI (@Kd.pr Kd.str (@Kd.pr Kd.bool (@Kd.pr (@Kd.sl Kd.str) (@Kd.sl kI)))))))).2.2.2.2.1)) (@Nat.cast Int instNatCastInt (@List.length (@Kd.T Kd.str) (@List.getD (@Kd.T (@Kd.pr kI (@Kd.pr kI (@Kd.pr Kd.str (@Kd.pr Kd.bool (@Kd.pr (@Kd.sl Kd.str) (@Kd.sl kI))))))) s1 (@Int.toNat s2) (@Kd.zero (@Kd.pr kI (@Kd.pr kI (@Kd.pr Kd.str (@Kd.pr Kd.bool (@Kd.pr (@Kd.sl Kd.str) (@Kd.sl kI)))))))).2.2.2.2.1)))) Bool.true (@bne Int (@instBEqOfDecidableEq Int @Int.instDecidableEq) (@Nat.cast Int instNatCastInt (@List.length (@Kd.T kI) (@List.getD (@Kd.T (@Kd.pr kI (@Kd.pr kI (@Kd.pr Kd.str (@Kd.pr Kd.bool (@Kd.pr (@Kd.sl Kd.str) (@Kd.sl kI))))))) s0 (@Int.toNat s2) (@Kd.zero (@Kd.pr kI (@Kd.pr kI (@Kd.pr Kd.str (@Kd.pr Kd.bool (@Kd.pr (@Kd.sl Kd.str) (@Kd.sl kI)))))))).2.2.2.2.2)) (@Nat.cast Int instNatCastInt (@List.length (@Kd.T kI) (@List.getD (@Kd.T (@Kd.pr kI (@Kd.pr kI (@Kd.pr Kd.str (@Kd.pr Kd.bool (@Kd.pr (@Kd.sl Kd.str) (@Kd.sl kI))))))) s1 (@Int.toNat s2) (@Kd.zero (@Kd.pr kI (@Kd.pr kI (@Kd.pr Kd.str (@Kd.pr Kd.bool (@Kd.pr (@Kd.sl Kd.str) (@Kd.sl kI)))))))).2.2.2.2.2)))) (K Bool.false) (E1010 s0 s1 s2 (@List.getD (@Kd.T (@Kd.pr kI (@Kd.pr kI (@Kd.pr Kd.str (@Kd.pr Kd.bool (@Kd.pr (@Kd.sl Kd.str) (@Kd.sl kI))))))) s0 (@Int.toNat s2) (@Kd.zero (@Kd.pr kI (@Kd.pr kI (@Kd.pr Kd.str (@Kd.pr Kd.bool (@Kd.pr (@Kd.sl Kd.str) (@Kd.sl kI)))))))).1 (@List.getD (@Kd.T (@Kd.pr kI (@Kd.pr kI (@Kd.pr Kd.str (@Kd.pr Kd.bool (@Kd.pr (@Kd.sl Kd.str) (@Kd.sl kI))))))) s0 (@Int.toNat s2) (@Kd.zero (@Kd.pr kI (@Kd.pr kI (@Kd.pr Kd.str (@Kd.pr Kd.bool (@Kd.pr (@Kd.sl Kd.str) (@Kd.sl kI)))))))).2.1 (@List.getD (@Kd.T (@Kd.pr kI (@Kd.pr kI (@Kd.pr Kd.str (@Kd.pr Kd.bool (@Kd.pr (@Kd.sl Kd.str) (@Kd.sl kI))))))) s0 (@Int.toNat s2) (@Kd.zero (@Kd.pr kI (@Kd.pr kI (@Kd.pr Kd.str (@Kd.pr Kd.bool (@Kd.pr (@Kd.sl Kd.str) (@Kd.sl kI)))))))).2.2.1 (@List.getD (@Kd.T (@Kd.pr kI (@Kd.pr kI (@Kd.pr Kd.str (@Kd.pr Kd.bool (@Kd.pr (@Kd.sl Kd.str) (@Kd.sl kI))))))) s0 (@Int.toNat s2) (@Kd.zero (@Kd.pr kI (@Kd.pr kI (@Kd.pr Kd.str (@Kd.pr Kd.bool (@Kd.pr (@Kd.sl Kd.str) (@Kd.sl kI)))))))).2.2.2.1 (@List.getD (@Kd.T (@Kd.pr kI (@Kd.pr kI (@Kd.pr Kd.str (@Kd.pr Kd.bool (@Kd.pr (@Kd.sl Kd.str) (@Kd.sl kI))))))) s0 (@Int.toNat s2) (@Kd.zero (@Kd.pr kI (@Kd.pr kI (@Kd.pr Kd.str (@Kd.pr Kd.bool (@Kd.pr (@Kd.sl Kd.str) (@Kd.sl kI)))))))).2.2.2.2.1 (@List.getD (@Kd.T (@Kd.pr kI (@Kd.pr kI (@Kd.pr Kd.str (@Kd.pr Kd.bool (@Kd.pr (@Kd.sl Kd.str) (@Kd.sl kI))))))) s0 (@Int.toNat s2) (@Kd.zero (@Kd.pr kI (@Kd.pr kI (@Kd.pr Kd.str (@Kd.pr Kd.bool (@Kd.pr (@Kd.sl Kd.str) (@Kd.sl kI)))))))).2.2.2.2.2 (@List.getD (@Kd.T (@Kd.pr kI (@Kd.pr kI (@Kd.pr Kd.str (@Kd.pr Kd.bool (@Kd.pr (@Kd.sl Kd.str) (@Kd.sl kI))))))) s1 (@Int.toNat s2) (@Kd.zero (@Kd.pr kI (@Kd.pr kI (@Kd.pr Kd.str (@Kd.pr Kd.bool (@Kd.pr (@Kd.sl Kd.str) (@Kd.sl kI)))))))).1 (@List.getD (@Kd.T (@Kd.pr kI (@Kd.pr kI (@Kd.pr Kd.str (@Kd.pr Kd.bool (@Kd.pr (@Kd.sl Kd.str) (@Kd.sl kI))))))) s1 (@Int.toNat s2) (@Kd.zero (@Kd.pr kI (@Kd.pr kI (@Kd.pr Kd.str (@Kd.pr Kd.bool (@Kd.pr (@Kd.sl Kd.str) (@Kd.sl kI)))))))).2.1 (@List.getD (@Kd.T (@Kd.pr kI (@Kd.pr kI (@Kd.pr Kd.str (@Kd.pr Kd.bool (@Kd.pr (@Kd.sl Kd.str) (@Kd.sl kI))))))) s1 (@Int.toNat s2) (@Kd.zero (@Kd.pr kI (@Kd.pr kI (@Kd.pr Kd.str (@Kd.pr Kd.bool (@Kd.pr (@Kd.sl Kd.str) (@Kd.sl kI)))))))).2.2.1 (@List.getD (@Kd.T (@Kd.pr kI (@Kd.pr kI (@Kd.pr Kd.str (@Kd.pr Kd.bool (@Kd.pr (@Kd.sl Kd.str) (@Kd.sl kI))))))) s1 (@Int.toNat s2) (@Kd.zero (@Kd.pr kI (@Kd.pr kI (@Kd.pr Kd.str (@Kd.pr Kd.bool (@Kd.pr (@Kd.sl Kd.str) (@Kd.sl kI)))))))).2.2.2.1 (@List.getD (@Kd.T (@Kd.pr kI (@Kd.pr kI (@Kd.pr Kd.str (@Kd.pr Kd.bool (@Kd.pr (@Kd.sl Kd.str) (@Kd.sl kI))))))) s1 (@Int.toNat s2) (@Kd.zero (@Kd.pr kI (@Kd.pr kI (@Kd.pr Kd.str (@Kd.pr Kd.bool (@Kd.pr (@Kd.sl Kd.str) (@Kd.sl kI)))))))).2.2.2.2.1 (@List.getD (@Kd.T (@Kd.pr kI (@Kd.pr kI (@Kd.pr Kd.str (@Kd.pr Kd.bool (@Kd.pr (@Kd.sl Kd.str) (@Kd.sl kI))))))) s1 (@Int.toNat s2) (@Kd.zero (@Kd.pr kI (@Kd.pr kI (@Kd.pr Kd.str (@Kd.pr Kd.bool (@Kd.pr (@Kd.sl Kd.str) (@Kd.sl kI)))))))).2.2.2.2.2 (0 : Int)))) (@Option.none R)) (@Option.none R)) (K Bool.true))
theorem wqm2 (k : Nat) {R : Type} (I : Nat → St → Option R) (s0 : (List (Int × (Int × ((List UInt8) × (Bool × ((List (List UInt8)) × (List Int)))))))) (s1 : (List (Int × (Int × ((List UInt8) × (Bool × ((List (List UInt8)) × (List Int)))))))) (s2 : Int) (K : (Bool → Option R)) : execK (wq6 k) k (at_ [1, 1, 0, 1, 0, 0] wqq) (wq1n s0 s1 s2) (konts (wq6 k) k I [1, 1, 0, 1, 0, 0] wqq (outK (wq6 k) wq25 [.tmp 4] (wq1h K))) = wq83 k (fun s0 s1 s2 s3 s4 s5 s6 s7 s8 s9 s10 s11 s12 s13 s14 s15 => iter (wq6 k).pv (look (wq6 k).cuts 1010) (execK (wq6 k) k (at_ [1, 1, 0, 1, 0, 0, 1, 0, 0, 1, 1, 0, 1, 0, 0] wqq)) k (wq4v s0 s1 s2 s3 s4 s5 s6 s7 s8 s9 s10 s11 s12 s13 s14 s15) (konts (wq6 k) k I [1, 1, 0, 1, 0, 0, 1, 0, 0, 1, 1, 0, 1, 0] wqq (outK (wq6 k) wq25 [.tmp 4] (wq1h K)))) s0 s1 s2 K := by kernel_rfl
noncomputable def wq6b (k : Nat) {R : Type} (E1010 : ((List (Int × (Int × ((List UInt8) × (Bool × ((List (List UInt8)) × (List Int))))))) → (List (Int × (Int × ((List UInt8) × (Bool × ((List (List UInt8)) × (List Int))))))) → Int → Int → Int → (List UInt8) → Bool → (List (List UInt8)) → (List Int) → Int → Int → (List UInt8) → Bool → (List (List UInt8)) → (List Int) → Int → Option R)) (E1015 : ((List (Int × (Int × ((List UInt8) × (Bool × ((List (List UInt8)) × (List Int))))))) → (List (Int × (Int × ((List UInt8) × (Bool × ((List (List UInt8)) × (List Int))))))) → Int → Int → Int → (List UInt8) → Bool → (List (List UInt8)) → (List Int) → Int → Int → (List UInt8) → Bool → (List (List UInt8)) → (List Int) → Int → Option R)) (s0 : (List (Int × (Int × ((List UInt8) × (Bool × ((List (List UInt8)) × (List Int)))))))) (s1 : (List (Int × (Int × ((List UInt8) × (Bool × ((List (List UInt8)) × (List Int)))))))) (s2 s3 s4 : Int) (s5 : (List UInt8)) (s6 : Bool) (s7 : (List (List UInt8))) (s8 : (List Int)) (s9 s10 : Int) (s11 : (List UInt8)) (s12 : Bool) (s13 : (List (List UInt8))) (s14 : (List Int)) (s15 : Int) (K : (Bool → Option R)) : Option R := (@cond (@Option R) (@Decidable.decide (@LT.lt Int Int.instLTInt s15 (@Nat.cast Int instNatCastInt (@List.length (@Kd.T Kd.str) s7))) (@Int.decLt s15 (@Nat.cast Int instNatCastInt (@List.length (@Kd.T Kd.str) s7)))) (@cond (@Option R) (@inb s15 (@Nat.cast Int instNatCastInt (@List.length (@Kd.T Kd.str) s7))) (@cond (@Option R) (@inb s15 (@Nat.cast Int instNatCastInt (@List.length (@Kd.T Kd.str) s13))) (@cond (@Option R) (@Bool.not (@BEq.beq (@List UInt8) (@List.instBEq UInt8 (@instBEqOfDecidableEq UInt8 @instDecidableEqUInt8)) (@List.getD (@Kd.T Kd.str) s7 (@Int.toNat s15) (@Kd.zero Kd.str)) (@List.getD (@Kd.T Kd.str) s13 (@Int.toNat s15) (@Kd.zero Kd.str)))) (K Bool.false) (E1010 s0 s1 s2 s3 s4 s5 s6 s7 s8 s9 s10 s11 s12 s13 s14 (@Go.IntKind.wrap Go.IntKind.i64 (@HAdd.hAdd Int Int Int (@instHAdd Int @Int.instAdd) s15 (1 : Int))))) (@Option.none R)) (@Option.none R)) (E1015 s0 s1 s2 s3 s4 s5 s6 s7 s8 s9 s10 s11 s12 s13 s14 (0 : Int)))
theorem wqm3 (k : Nat) {R : Type} (I : Nat → St → Option R) (s0 : (List (Int × (Int × ((List UInt8) × (Bool × ((List (List UInt8)) × (List Int)))))))) (s1 : (List (Int × (Int × ((List UInt8) × (Bool × ((List (List UInt8)) × (List Int)))))))) (s2 s3 s4 : Int) (s5 : (List UInt8)) (s6 : Bool) (s7 : (List (List UInt8))) (s8 : (List Int)) (s9 s10 : Int) (s11 : (List UInt8)) (s12 : Bool) (s13 : (List (List UInt8))) (s14 : (List Int)) (s15 : Int) (K : (Bool → Option R)) : execK (wq6 k) k (at_ [1, 1, 0, 1, 0, 0, 1, 0, 0, 1, 1, 0, 1, 0, 0] wqq) (wq4v s0 s1 s2 s3 s4 s5 s6 s7 s8 s9 s10 s11 s12 s13 s14 s15) (konts (wq6 k) k I [1, 1, 0, 1, 0, 0, 1, 0, 0, 1, 1, 0, 1, 0, 0] wqq (outK (wq6 k) wq25 [.tmp 4] (wq1h K))) = wq6b k (fun s0 s1 s2 s3 s4 s5 s6 s7 s8 s9 s10 s11 s12 s13 s14 s15 => I 1010 (wq4v s0 s1 s2 s3 s4 s5 s6 s7 s8 s9 s10 s11 s12 s13 s14 s15)) (fun s0 s1 s2 s3 s4 s5 s6 s7 s8 s9 s10 s11 s12 s13 s14 s15 => iter (wq6 k).pv (look (wq6 k).cuts 1015) (execK (wq6 k) k (at_ [1, 1, 0, 1, 0, 0, 1, 0, 0, 1, 1, 1, 1, 0, 0] wqq)) k (wq4w s0 s1 s2 s3 s4 s5 s6 s7 s8 s9 s10 s11 s12 s13 s14 s15) (konts (wq6 k) k I [1, 1, 0, 1, 0, 0, 1, 0, 0, 1, 1, 1, 1, 0] wqq (outK (wq6 k) wq25 [.tmp 4] (wq1h K)))) s0 s1 s2 s3 s4 s5 s6 s7 s8 s9 s10 s11 s12 s13 s14 s15 K := by kernel_rfl
noncomputable def wq84 (k : Nat) {R : Type} (E1004 : wq5v R) (E1015 : ((List (Int × (Int × ((List UInt8) × (Bool × ((List (List UInt8)) × (List Int))))))) → (List (Int × (Int × ((List UInt8) × (Bool × ((List (List UInt8)) × (List Int))))))) → Int → Int → Int → (List UInt8) → Bool → (List (List UInt8)) → (List Int) → Int → Int → (List UInt8) → Bool → (List (List UInt8)) → (List Int) → Int → Option R)) (s0 : (List (Int × (Int × ((List UInt8) × (Bool × ((List (List UInt8)) × (List Int)))))))) (s1 : (List (Int × (Int × ((List UInt8) × (Bool × ((List (List UInt8)) × (List Int)))))))) (s2 s3 s4 : Int) (s5 : (List UInt8)) (s6 : Bool) (s7 : (List (List UInt8))) (s8 : (List Int)) (s9 s10 : Int) (s11 : (List UInt8)) (s12 : Bool) (s13 : (List (List UInt8))) (s14 : (List Int)) (s15 : Int) (K : (Bool → Option R)) : Option R := (@cond (@Option R) (@Decidable.decide (@LT.lt Int Int.instLTInt s15 (@Nat.cast Int instNatCastInt (@List.length (@Kd.T kI) s8))) (@Int.decLt s15 (@Nat.cast Int instNatCastInt (@List.length (@Kd.T kI) s8)))) (@cond (@Option R) (@inb s15 (@Nat.cast Int instNatCastInt (@List.length (@Kd.T kI) s8))) (@cond (@Option R) (@inb s15 (@Nat.cast Int instNatCastInt (@List.length (@Kd.T kI) s14))) (@cond (@Option R) (@bne Int (@instBEqOfDecidableEq Int @Int.instDecidableEq) (@List.getD (@Kd.T kI) s8 (@Int.toNat s15) (@Kd.zero kI)) (@List.getD (@Kd.T kI) s14 (@Int.toNat s15) (@Kd.zero kI))) (K Bool.false) (E1015 s0 s1 s2 s3 s4 s5 s6 s7 s8 s9 s10 s11 s12 s13 s14 (@Go.IntKind.wrap Go.IntKind.i64 (@HAdd.hAdd Int Int Int (@instHAdd Int @Int.instAdd) s15 (1 : Int))))) (@Option.none R)) (@Option.none R)) (E1004 s0 s1 (@Go.IntKind.wrap Go.IntKind.i64 (@HAdd.hAdd Int Int Int (@instHAdd Int @Int.instAdd) s2 (1 : Int)))))
theorem wqm4 (k : Nat) {R : Type} (I : Nat → St → Option R) (s0 : (List (Int × (Int × ((List UInt8) × (Bool × ((List (List UInt8)) × (List Int)))))))) (s1 : (List (Int × (Int × ((List UInt8) × (Bool × ((List (List UInt8)) × (List Int)))))))) (s2 s3 s4 : Int) (s5 : (List UInt8)) (s6 : Bool) (s7 : (List (List UInt8))) (s8 : (List Int)) (s9 s10 : Int) (s11 : (List UInt8)) (s12 : Bool) (s13 : (List (List UInt8))) (s14 : (List Int)) (s15 : Int) (K : (Bool → Option R)) : execK (wq6 k) k (at_ [1, 1, 0, 1, 0, 0, 1, 0, 0, 1, 1, 1, 1, 0, 0] wqq) (wq4w s0 s1 s2 s3 s4 s5 s6 s7 s8 s9 s10 s11 s12 s13 s14 s15) (konts (wq6 k) k I [1, 1, 0, 1, 0, 0, 1, 0, 0, 1, 1, 1, 1, 0, 0] wqq (outK (wq6 k) wq25 [.tmp 4] (wq1h K))) = wq84 k (fun s0 s1 s2 => I 1004 (wq1n s0 s1 s2)) (fun s0 s1 s2 s3 s4 s5 s6 s7 s8 s9 s10 s11 s12 s13 s14 s15 => I 1015 (wq4w s0 s1 s2 s3 s4 s5 s6 s7 s8 s9 s10 s11 s12 s13 s14 s15)) s0 s1 s2 s3 s4 s5 s6 s7 s8 s9 s10 s11 s12 s13 s14 s15 K := by kernel_rfl
noncomputable def wqg9 (k : Nat) {R : Type} (E1004 : wq5v R) (x0 : (List (Int × (Int × ((List UInt8) × (Bool × ((List (List UInt8)) × (List Int)))))))) (x1 : (List (Int × (Int × ((List UInt8) × (Bool × ((List (List UInt8)) × (List Int)))))))) (K : (Bool → Option R)) : Option R := (@cond (@Option R) (@bne Int (@instBEqOfDecidableEq Int @Int.instDecidableEq) (@Nat.cast Int instNatCastInt (@List.length (@Kd.T (@Kd.pr kI (@Kd.pr kI (@Kd.pr Kd.str (@Kd.pr Kd.bool (@Kd.pr (@Kd.sl Kd.str) (@Kd.sl kI))))))) x0)) (@Nat.cast Int instNatCastInt (@List.length (@Kd.T (@Kd.pr kI (@Kd.pr kI (@Kd.pr Kd.str (@Kd.pr Kd.bool (@Kd.pr (@Kd.sl Kd.str) (@Kd.sl kI))))))) x1))) (K Bool.false) (E1004 x0 x1 (0 : Int)))
theorem wqu7 (k : Nat) {R : Type} (I : Nat → St → Option R) (x0 : (List (Int × (Int × ((List UInt8) × (Bool × ((List (List UInt8)) × (List Int)))))))) (x1 : (List (Int × (Int × ((List UInt8) × (Bool × ((List (List UInt8)) × (List Int)))))))) (K : (Bool → Option R)) : fnK (wq6 k) k wqq 107 [.tmp 4] wq25 [.agg [.v (.sl (.pr (.int .i64) (.pr (.int .i64) (.pr .str (.pr .bool (.pr (.sl .str) (.sl (.int .i64)))))))) x0], .agg [.v (.sl (.pr (.int .i64) (.pr (.int .i64) (.pr .str (.pr .bool (.pr (.sl .str) (.sl (.int .i64)))))))) x1]] [] (wq1h K) = wqg9 k (fun s0 s1 s2 => iter (wq6 k).pv (look (wq6 k).cuts 1004) (execK (wq6 k) k (at_ [1, 1, 0, 1, 0, 0] wqq)) k (wq1n s0 s1 s2) (konts (wq6 k) k I [1, 1, 0, 1, 0] wqq (outK (wq6 k) wq25 [.tmp 4] (wq1h K)))) x0 x1 K := by kernel_rfl
noncomputable def wq35 (k : Nat) {R : Type} (J1004 : wq5v R) : Nat → (List (Int × (Int × ((List UInt8) × (Bool × ((List (List UInt8)) × (List Int))))))) → (List (Int × (Int × ((List UInt8) × (Bool × ((List (List UInt8)) × (List Int))))))) → Int → Int → Int → (List UInt8) → Bool → (List (List UInt8)) → (List Int) → Int → Int → (List UInt8) → Bool → (List (List UInt8)) → (List Int) → Int → (Bool → Option R) → Option R
  | 0, _, _, _, _, _, _, _, _, _, _, _, _, _, _, _, _, _ => none
  | n + 1, s0, s1, s2, s3, s4, s5, s6, s7, s8, s9, s10, s11, s12, s13, s14, s15, K => wq84 k J1004 (fun s0 s1 s2 s3 s4 s5 s6 s7 s8 s9 s10 s11 s12 s13 s14 s15 => wq35 k J1004 n s0 s1 s2 s3 s4 s5 s6 s7 s8 s9 s10 s11 s12 s13 s14 s15 K) s0 s1 s2 s3 s4 s5 s6 s7 s8 s9 s10 s11 s12 s13 s14 s15 K
theorem wqm5 (k : Nat) {R : Type} (I : Nat → St → Option R) (K : (Bool → Option R)) : ∀ (n : Nat) (s0 : (List (Int × (Int × ((List UInt8) × (Bool × ((List (List UInt8)) × (List Int)))))))) (s1 : (List (Int × (Int × ((List UInt8) × (Bool × ((List (List UInt8)) × (List Int)))))))) (s2 s3 s4 : Int) (s5 : (List UInt8)) (s6 : Bool) (s7 : (List (List UInt8))) (s8 : (List Int)) (s9 s10 : Int) (s11 : (List UInt8)) (s12 : Bool) (s13 : (List (List UInt8))) (s14 : (List Int)) (s15 : Int), iter (wq6 k).pv (look (wq6 k).cuts 1015) (execK (wq6 k) k (at_ [1, 1, 0, 1, 0, 0, 1, 0, 0, 1, 1, 1, 1, 0, 0] wqq)) n (wq4w s0 s1 s2 s3 s4 s5 s6 s7 s8 s9 s10 s11 s12 s13 s14 s15) (konts (wq6 k) k I [1, 1, 0, 1, 0, 0, 1, 0, 0, 1, 1, 1, 1, 0] wqq (outK (wq6 k) wq25 [.tmp 4] (wq1h K))) = wq35 k (fun s0 s1 s2 => I 1004 (wq1n s0 s1 s2)) n s0 s1 s2 s3 s4 s5 s6 s7 s8 s9 s10 s11 s12 s13 s14 s15 K := by
  intro n
  induction n with
  | zero => intros; rfl
  | succ n ih =>
    intro s0 s1 s2 s3 s4 s5 s6 s7 s8 s9 s10 s11 s12 s13 s14 s15
    let I' : Nat → St → Option R := fun id s => bif Nat.beq id 1015 then iter (wq6 k).pv (look (wq6 k).cuts 1015) (execK (wq6 k) k (at_ [1, 1, 0, 1, 0, 0, 1, 0, 0, 1, 1, 1, 1, 0, 0] wqq)) n s (konts (wq6 k) k I [1, 1, 0, 1, 0, 0, 1, 0, 0, 1, 1, 1, 1, 0] wqq (outK (wq6 k) wq25 [.tmp 4] (wq1h K))) else I id s
    have e := wqm4 k I' s0 s1 s2 s3 s4 s5 s6 s7 s8 s9 s10 s11 s12 s13 s14 s15 K
    have h1015 : (fun s0 s1 s2 s3 s4 s5 s6 s7 s8 s9 s10 s11 s12 s13 s14 s15 => I' 1015 (wq4w s0 s1 s2 s3 s4 s5 s6 s7 s8 s9 s10 s11 s12 s13 s14 s15)) = (fun s0 s1 s2 s3 s4 s5 s6 s7 s8 s9 s10 s11 s12 s13 s14 s15 => wq35 k (fun s0 s1 s2 => I 1004 (wq1n s0 s1 s2)) n s0 s1 s2 s3 s4 s5 s6 s7 s8 s9 s10 s11 s12 s13 s14 s15 K) := by funext s0 s1 s2 s3 s4 s5 s6 s7 s8 s9 s10 s11 s12 s13 s14 s15; exact ih s0 s1 s2 s3 s4 s5 s6 s7 s8 s9 s10 s11 s12 s13 s14 s15
    refine Eq.trans (?_ : _ = _) (e.trans (Eq.trans ((congrArg ((fun E1015 => wq84 k (fun s0 s1 s2 => I 1004 (wq1n s0 s1 s2)) E1015 s0 s1 s2 s3 s4 s5 s6 s7 s8 s9 s10 s11 s12 s13 s14 s15 K)) h1015)) (by rw [wq35])))
    rfl
noncomputable def wq2l (k : Nat) {R : Type} (J1004 : wq5v R) : Nat → (List (Int × (Int × ((List UInt8) × (Bool × ((List (List UInt8)) × (List Int))))))) → (List (Int × (Int × ((List UInt8) × (Bool × ((List (List UInt8)) × (List Int))))))) → Int → Int → Int → (List UInt8) → Bool → (List (List UInt8)) → (List Int) → Int → Int → (List UInt8) → Bool → (List (List UInt8)) → (List Int) → Int → (Bool → Option R) → Option R
  | 0, _, _, _, _, _, _, _, _, _, _, _, _, _, _, _, _, _ => none
  | n + 1, s0, s1, s2, s3, s4, s5, s6, s7, s8, s9, s10, s11, s12, s13, s14, s15, K => wq6b k (fun s0 s1 s2 s3 s4 s5 s6 s7 s8 s9 s10 s11 s12 s13 s14 s15 => wq2l k J1004 n s0 s1 s2 s3 s4 s5 s6 s7 s8 s9 s10 s11 s12 s13 s14 s15 K) (fun s0 s1 s2 s3 s4 s5 s6 s7 s8 s9 s10 s11 s12 s13 s14 s15 => wq35 k J1004 k s0 s1 s2 s3 s4 s5 s6 s7 s8 s9 s10 s11 s12 s13 s14 s15 K) s0 s1 s2 s3 s4 s5 s6 s7 s8 s9 s10 s11 s12 s13 s14 s15 K
theorem wqm6 (k : Nat) {R : Type} (I : Nat → St → Option R) (K : (Bool → Option R)) : ∀ (n : Nat) (s0 : (List (Int × (Int × ((List UInt8) × (Bool × ((List (List UInt8)) × (List Int)))))))) (s1 : (List (Int × (Int × ((List UInt8) × (Bool × ((List (List UInt8)) × (List Int)))))))) (s2 s3 s4 : Int) (s5 : (List UInt8)) (s6 : Bool) (s7 : (List (List UInt8))) (s8 : (List Int)) (s9 s10 : Int) (s11 : (List UInt8)) (s12 : Bool) (s13 : (List (List UInt8))) (s14 : (List Int)) (s15 : Int), iter (wq6 k).pv (look (wq6 k).cuts 1010) (execK (wq6 k) k (at_ [1, 1, 0, 1, 0, 0, 1, 0, 0, 1, 1, 0, 1, 0, 0] wqq)) n (wq4v s0 s1 s2 s3 s4 s5 s6 s7 s8 s9 s10 s11 s12 s13 s14 s15) (konts (wq6 k) k I [1, 1, 0, 1, 0, 0, 1, 0, 0, 1, 1, 0, 1, 0] wqq (outK (wq6 k) wq25 [.tmp 4] (wq1h K))) = wq2l k (fun s0 s1 s2 => I 1004 (wq1n s0 s1 s2)) n s0 s1 s2 s3 s4 s5 s6 s7 s8 s9 s10 s11 s12 s13 s14 s15 K := by
  intro n
  induction n with
  | zero => intros; rfl
  | succ n ih =>
    intro s0 s1 s2 s3 s4 s5 s6 s7 s8 s9 s10 s11 s12 s13 s14 s15
    let I' : Nat → St → Option R := fun id s => bif Nat.beq id 1010 then iter (wq6 k).pv (look (wq6 k).cuts 1010) (execK (wq6 k) k (at_ [1, 1, 0, 1, 0, 0, 1, 0, 0, 1, 1, 0, 1, 0, 0] wqq)) n s (konts (wq6 k) k I [1, 1, 0, 1, 0, 0, 1, 0, 0, 1, 1, 0, 1, 0] wqq (outK (wq6 k) wq25 [.tmp 4] (wq1h K))) else I id s
    have e := wqm3 k I' s0 s1 s2 s3 s4 s5 s6 s7 s8 s9 s10 s11 s12 s13 s14 s15 K
    have h1010 : (fun s0 s1 s2 s3 s4 s5 s6 s7 s8 s9 s10 s11 s12 s13 s14 s15 => I' 1010 (wq4v s0 s1 s2 s3 s4 s5 s6 s7 s8 s9 s10 s11 s12 s13 s14 s15)) = (fun s0 s1 s2 s3 s4 s5 s6 s7 s8 s9 s10 s11 s12 s13 s14 s15 => wq2l k (fun s0 s1 s2 => I 1004 (wq1n s0 s1 s2)) n s0 s1 s2 s3 s4 s5 s6 s7 s8 s9 s10 s11 s12 s13 s14 s15 K) := by funext s0 s1 s2 s3 s4 s5 s6 s7 s8 s9 s10 s11 s12 s13 s14 s15; exact ih s0 s1 s2 s3 s4 s5 s6 s7 s8 s9 s10 s11 s12 s13 s14 s15
    have h1015 : (fun s0 s1 s2 s3 s4 s5 s6 s7 s8 s9 s10 s11 s12 s13 s14 s15 => iter (wq6 k).pv (look (wq6 k).cuts 1015) (execK (wq6 k) k (at_ [1, 1, 0, 1, 0, 0, 1, 0, 0, 1, 1, 1, 1, 0, 0] wqq)) k (wq4w s0 s1 s2 s3 s4 s5 s6 s7 s8 s9 s10 s11 s12 s13 s14 s15) (konts (wq6 k) k I' [1, 1, 0, 1, 0, 0, 1, 0, 0, 1, 1, 1, 1, 0] wqq (outK (wq6 k) wq25 [.tmp 4] (wq1h K)))) = (fun s0 s1 s2 s3 s4 s5 s6 s7 s8 s9 s10 s11 s12 s13 s14 s15 => wq35 k (fun s0 s1 s2 => I 1004 (wq1n s0 s1 s2)) k s0 s1 s2 s3 s4 s5 s6 s7 s8 s9 s10 s11 s12 s13 s14 s15 K) := by funext s0 s1 s2 s3 s4 s5 s6 s7 s8 s9 s10 s11 s12 s13 s14 s15; exact (wqm5 k I' K k s0 s1 s2 s3 s4 s5 s6 s7 s8 s9 s10 s11 s12 s13 s14 s15)
    refine Eq.trans (?_ : _ = _) (e.trans (Eq.trans ((Eq.trans (congrFun (congrArg ((fun E1010 E1015 => wq6b k E1010 E1015 s0 s1 s2 s3 s4 s5 s6 s7 s8 s9 s10 s11 s12 s13 s14 s15 K)) h1010) _) (congrArg ((fun E1010 E1015 => wq6b k E1010 E1015 s0 s1 s2 s3 s4 s5 s6 s7 s8 s9 s10 s11 s12 s13 s14 s15 K) (fun s0 s1 s2 s3 s4 s5 s6 s7 s8 s9 s10 s11 s12 s13 s14 s15 => wq2l k (fun s0 s1 s2 => I 1004 (wq1n s0 s1 s2)) n s0 s1 s2 s3 s4 s5 s6 s7 s8 s9 s10 s11 s12 s13 s14 s15 K)) h1015))) (by rw [wq2l])))
    rfl
noncomputable def wq29 (k : Nat) {R : Type}  : Nat → (List (Int × (Int × ((List UInt8) × (Bool × ((List (List UInt8)) × (List Int))))))) → (List (Int × (Int × ((List UInt8) × (Bool × ((List (List UInt8)) × (List Int))))))) → Int → (Bool → Option R) → Option R
  | 0, _, _, _, _ => none
  | n + 1, s0, s1, s2, K => wq83 k (fun s0 s1 s2 s3 s4 s5 s6 s7 s8 s9 s10 s11 s12 s13 s14 s15 => wq2l k (fun s0 s1 s2 => wq29 k  n s0 s1 s2 K) k s0 s1 s2 s3 s4 s5 s6 s7 s8 s9 s10 s11 s12 s13 s14 s15 K) s0 s1 s2 K
theorem wqm7 (k : Nat) {R : Type} (I : Nat → St → Option R) (K : (Bool → Option R)) : ∀ (n : Nat) (s0 : (List (Int × (Int × ((List UInt8) × (Bool × ((List (List UInt8)) × (List Int)))))))) (s1 : (List (Int × (Int × ((List UInt8) × (Bool × ((List (List UInt8)) × (List Int)))))))) (s2 : Int), iter (wq6 k).pv (look (wq6 k).cuts 1004) (execK (wq6 k) k (at_ [1, 1, 0, 1, 0, 0] wqq)) n (wq1n s0 s1 s2) (konts (wq6 k) k I [1, 1, 0, 1, 0] wqq (outK (wq6 k) wq25 [.tmp 4] (wq1h K))) = wq29 k  n s0 s1 s2 K := by
  intro n
  induction n with
  | zero => intros; rfl
  | succ n ih =>
    intro s0 s1 s2
    let I' : Nat → St → Option R := fun id s => bif Nat.beq id 1004 then iter (wq6 k).pv (look (wq6 k).cuts 1004) (execK (wq6 k) k (at_ [1, 1, 0, 1, 0, 0] wqq)) n s (konts (wq6 k) k I [1, 1, 0, 1, 0] wqq (outK (wq6 k) wq25 [.tmp 4] (wq1h K))) else I id s
    have e := wqm2 k I' s0 s1 s2 K
    have h1004 : (fun s0 s1 s2 => I' 1004 (wq1n s0 s1 s2)) = (fun s0 s1 s2 => wq29 k  n s0 s1 s2 K) := by funext s0 s1 s2; exact ih s0 s1 s2
    have h1010 : (fun s0 s1 s2 s3 s4 s5 s6 s7 s8 s9 s10 s11 s12 s13 s14 s15 => iter (wq6 k).pv (look (wq6 k).cuts 1010) (execK (wq6 k) k (at_ [1, 1, 0, 1, 0, 0, 1, 0, 0, 1, 1, 0, 1, 0, 0] wqq)) k (wq4v s0 s1 s2 s3 s4 s5 s6 s7 s8 s9 s10 s11 s12 s13 s14 s15) (konts (wq6 k) k I' [1, 1, 0, 1, 0, 0, 1, 0, 0, 1, 1, 0, 1, 0] wqq (outK (wq6 k) wq25 [.tmp 4] (wq1h K)))) = (fun s0 s1 s2 s3 s4 s5 s6 s7 s8 s9 s10 s11 s12 s13 s14 s15 => wq2l k (fun s0 s1 s2 => wq29 k  n s0 s1 s2 K) k s0 s1 s2 s3 s4 s5 s6 s7 s8 s9 s10 s11 s12 s13 s14 s15 K) := by funext s0 s1 s2 s3 s4 s5 s6 s7 s8 s9 s10 s11 s12 s13 s14 s15; exact (wqm6 k I' K k s0 s1 s2 s3 s4 s5 s6 s7 s8 s9 s10 s11 s12 s13 s14 s15).trans (congrArg (fun (JJ : wq5v R) => wq2l k JJ k s0 s1 s2 s3 s4 s5 s6 s7 s8 s9 s10 s11 s12 s13 s14 s15 K) h1004)
    refine Eq.trans (?_ : _ = _) (e.trans (Eq.trans ((congrArg ((fun E1010 => wq83 k E1010 s0 s1 s2 K)) h1010)) (by rw [wq29])))
    rfl
noncomputable def wqd5 (k : Nat) {R : Type} (x0 : (List (Int × (Int × ((List UInt8) × (Bool × ((List (List UInt8)) × (List Int)))))))) (x1 : (List (Int × (Int × ((List UInt8) × (Bool × ((List (List UInt8)) × (List Int)))))))) (K : (Bool → Option R)) : Option R := wqg9 k (fun s0 s1 s2 => wq29 k k s0 s1 s2 K) x0 x1 K
theorem wqu8 (k : Nat) {R : Type} (x0 : (List (Int × (Int × ((List UInt8) × (Bool × ((List (List UInt8)) × (List Int)))))))) (x1 : (List (Int × (Int × ((List UInt8) × (Bool × ((List (List UInt8)) × (List Int)))))))) (K : (Bool → Option R)) : fnK (wq6 k) k wqq 107 [.tmp 4] wq25 [.agg [.v (.sl (.pr (.int .i64) (.pr (.int .i64) (.pr .str (.pr .bool (.pr (.sl .str) (.sl (.int .i64)))))))) x0], .agg [.v (.sl (.pr (.int .i64) (.pr (.int .i64) (.pr .str (.pr .bool (.pr (.sl .str) (.sl (.int .i64)))))))) x1]] [] (wq1h K) = wqd5 k x0 x1 K := by
  let I : Nat → St → Option R := fun _ _ => none
  have h1004 : (fun s0 s1 s2 => iter (wq6 k).pv (look (wq6 k).cuts 1004) (execK (wq6 k) k (at_ [1, 1, 0, 1, 0, 0] wqq)) k (wq1n s0 s1 s2) (konts (wq6 k) k I [1, 1, 0, 1, 0] wqq (outK (wq6 k) wq25 [.tmp 4] (wq1h K)))) = (fun s0 s1 s2 => wq29 k k s0 s1 s2 K) := by funext s0 s1 s2; exact wqm7 k I K k s0 s1 s2
  exact (wqu7 k I x0 x1 K).trans (congrArg ((fun E1004 => wqg9 k E1004 x0 x1 K)) h1004)
noncomputable def wqga (k : Nat) {R : Type} : List PV → List (Nm × HObj) → (Out → Option R) → Option R
  | [.agg [.v (.sl (.pr (.int .i64) (.pr (.int .i64) (.pr .str (.pr .bool (.pr (.sl .str) (.sl (.int .i64)))))))) x0], .agg [.v (.sl (.pr (.int .i64) (.pr (.int .i64) (.pr .str (.pr .bool (.pr (.sl .str) (.sl (.int .i64)))))))) x1]], [], K => wqd5 k x0 x1 (fun y0 => K (.ret [.v .bool y0] []))
  | _, _, _ => none
theorem wqu9 (k : Nat) : (wqss k).Ok Tryz.prog := CTab.nil_ok
theorem wqyw (k : Nat) {ps : List PV} {hp : List (Nm × HObj)} {R : Type} {K : Out → Option R} {r : R} (h : wqga k ps hp K = some r) : DoesTo Tryz.prog 13 ps hp fun out => K out = some r := by
  unfold wqga at h
  split at h
  · rw [← wqu8] at h
    have := fn_ok (P := Tryz.prog) (cx := wq6 k) (f := 13) ⟨tyT_ok, wqu9 k, fun _ _ => rfl⟩ (by kernel_rfl) (fn := Tryz.f13) (c := wqq) (by kernel_rfl) (by kernel_rfl) (by kernel_rfl) (rs := [.tmp 4]) (by kernel_rfl) (by kernel_rfl) h
    exact this.mono fun out ho => by
      unfold wq1h at ho
      split at ho <;> first | exact ho | cases ho
  · cases h
end Go.Proofs.YtpfbdepoammjmaaGreatDoor.Pvm

set_option maxRecDepth 1000000
set_option maxHeartbeats 0
namespace Go.Proofs.YtpfbdepoammjmaaGreatDoor.Pvm
open Go Go.Proofs
def wqka : List LS := [.ag [.sl (.pr (.int .i64) (.pr (.int .i64) (.pr .str (.pr .bool (.pr (.sl .str) (.sl (.int .i64)))))))], .ag [.sl (.pr (.int .i64) (.pr (.int .i64) (.pr .str (.pr .bool (.pr (.sl .str) (.sl (.int .i64)))))))]]
noncomputable def wqpm (k : Nat) : CTab := (CTab.add 13 wqw8 (wqga k) CTab.nil)
def wq4b {R : Type} (K : (Bool → Option R)) : Out → Option R
  | .ret [.v .bool y0] [] => K y0
  | _ => none
def wq65 : RetSpec := ⟨[.any], [], []⟩
def wqsu : List (Nat × CutSpec) := [(1004, ⟨[(2, .obj 12 [.sl (.pr (.int .i64) (.pr (.int .i64) (.pr .str (.pr .bool (.pr (.sl .str) (.sl (.int .i64)))))))]), (3, .obj 13 [.sl (.pr (.int .i64) (.pr (.int .i64) (.pr .str (.pr .bool (.pr (.sl .str) (.sl (.int .i64)))))))]), (5, .any)], []⟩)]
def wqq7 : List (Nat × Plan) := [(6, (.of [(0, 1), (2, 1), (6, 1), (8, 1), (1, 1), (3, 1), (4, 1), (5, 1), (7, 1), (9, 1), (10, 1), (11, 1), (12, 1)] .done))]
noncomputable def wqz (k : Nat) : Ctx := ⟨tyT, wqsu, wqpm k, [], [], wqq7, @SH⟩
noncomputable def wq21 : Code := Tryz.f9.body.getD .skip
def wq4g (s0 : (List (Int × (Int × ((List UInt8) × (Bool × ((List (List UInt8)) × (List Int)))))))) (s1 : (List (Int × (Int × ((List UInt8) × (Bool × ((List (List UInt8)) × (List Int)))))))) (s2 : Int) : St := ⟨mkT [(2, .ptr 12 0), (3, .ptr 13 0), (5, .v (.int .i64) s2)], mkH [(12, .var 26 [.v (.sl (.pr (.int .i64) (.pr (.int .i64) (.pr .str (.pr .bool (.pr (.sl .str) (.sl (.int .i64)))))))) s0]), (13, .var 26 [.v (.sl (.pr (.int .i64) (.pr (.int .i64) (.pr .str (.pr .bool (.pr (.sl .str) (.sl (.int .i64)))))))) s1])]⟩
noncomputable def wq78 (k : Nat) {R : Type} (E1004 : ((List (Int × (Int × ((List UInt8) × (Bool × ((List (List UInt8)) × (List Int))))))) → (List (Int × (Int × ((List UInt8) × (Bool × ((List (List UInt8)) × (List Int))))))) → Int → Option R)) (s0 : (List (Int × (Int × ((List UInt8) × (Bool × ((List (List UInt8)) × (List Int)))))))) (s1 : (List (Int × (Int × ((List UInt8) × (Bool × ((List (List UInt8)) × (List Int)))))))) (s2 : Int) (K : (Bool → Option R)) : Option R := (@cond (@Option R) (@Decidable.decide (@LT.lt Int Int.instLTInt s2 (@Nat.cast Int instNatCastInt (@List.length (@Kd.T (@Kd.pr kI (@Kd.pr kI (@Kd.pr Kd.str (@Kd.pr Kd.bool (@Kd.pr (@Kd.sl Kd.str) (@Kd.sl kI))))))) s0))) (@Int.decLt s2 (@Nat.cast Int instNatCastInt (@List.length (@Kd.T (@Kd.pr kI (@Kd.pr kI (@Kd.pr Kd.str (@Kd.pr Kd.bool (@Kd.pr (@Kd.sl Kd.str) (@Kd.sl kI))))))) s0)))) (@cond (@Option R) (@inb s2 (@Nat.cast Int instNatCastInt (@List.length (@Kd.T (@Kd.pr kI (@Kd.pr kI (@Kd.pr Kd.str (@Kd.pr Kd.bool (@Kd.pr (@Kd.sl Kd.str) (@Kd.sl kI))))))) s0))) (@cond (@Option R) (@inb s2 (@Nat.cast Int instNatCastInt (@List.length (@Kd.T (@Kd.pr kI (@Kd.pr kI (@Kd.pr Kd.str (@Kd.pr Kd.bool (@Kd.pr (@Kd.sl Kd.str) (@Kd.sl kI))))))) s1))) (@cond (@Option R) (@bne Int (@instBEqOfDecidableEq Int @Int.instDecidableEq) (@List.getD (@Kd.T (@Kd.pr kI (@Kd.pr kI (@Kd.pr Kd.str (@Kd.pr Kd.bool (@Kd.pr (@Kd.sl Kd.str) (@Kd.sl kI))))))) s0 (@Int.toNat s2) (@Kd.zero (@Kd.pr kI (@Kd.pr kI (@Kd.pr Kd.str (@Kd.pr Kd.bool (@Kd.pr (@Kd.sl Kd.str) (@Kd.sl kI)))))))).2.1 (@List.getD (@Kd.T (@Kd.pr kI (@Kd.pr kI (@Kd.pr Kd.str (@Kd.pr Kd.bool (@Kd.pr (@Kd.sl Kd.str) (@Kd.sl kI))))))) s1 (@Int.toNat s2) (@Kd.zero (@Kd.pr kI (@Kd.pr kI (@Kd.pr Kd.str (@Kd.pr Kd.bool (@Kd.pr (@Kd.sl Kd.str) (@Kd.sl kI)))))))).2.1) (K Bool.false) (E1004 s0 s1 (@Go.IntKind.wrap Go.IntKind.i64 (@HAdd.hAdd Int Int Int (@instHAdd Int @Int.instAdd) s2 (1 : Int))))) (@Option.none R)) (@Option.none R)) (K Bool.true))
theorem wqjy (k : Nat) {R : Type} (I : Nat → St → Option R) (s0 : (List (Int × (Int × ((List UInt8) × (Bool × ((List (List UInt8)) × (List Int)))))))) (s1 : (List (Int × (Int × ((List UInt8) × (Bool × ((List (List UInt8)) × (List Int)))))))) (s2 : Int) (K : (Bool → Option R)) : execK (wqz k) k (at_ [1, 1, 0, 1, 0, 0] wq21) (wq4g s0 s1 s2) (konts (wqz k) k I [1, 1, 0, 1, 0, 0] wq21 (outK (wqz k) wq65 [.tmp 4] (wq4b K))) = wq78 k (fun s0 s1 s2 => I 1004 (wq4g s0 s1 s2)) s0 s1 s2 K := by kernel_rfl
noncomputable def wqdv (k : Nat) {R : Type} (E1004 : ((List (Int × (Int × ((List UInt8) × (Bool × ((List (List UInt8)) × (List Int))))))) → (List (Int × (Int × ((List UInt8) × (Bool × ((List (List UInt8)) × (List Int))))))) → Int → Option R)) (x0 : (List (Int × (Int × ((List UInt8) × (Bool × ((List (List UInt8)) × (List Int)))))))) (x1 : (List (Int × (Int × ((List UInt8) × (Bool × ((List (List UInt8)) × (List Int)))))))) (K : (Bool → Option R)) : Option R := (@wqd5 k R x0 x1 (fun y6 => (@cond (@Option R) (@Bool.not y6) (K Bool.false) (E1004 x0 x1 (0 : Int)))))
theorem wqsv (k : Nat) {R : Type} (I : Nat → St → Option R) (x0 : (List (Int × (Int × ((List UInt8) × (Bool × ((List (List UInt8)) × (List Int)))))))) (x1 : (List (Int × (Int × ((List UInt8) × (Bool × ((List (List UInt8)) × (List Int)))))))) (K : (Bool → Option R)) : fnK (wqz k) k wq21 30 [.tmp 4] wq65 [.agg [.v (.sl (.pr (.int .i64) (.pr (.int .i64) (.pr .str (.pr .bool (.pr (.sl .str) (.sl (.int .i64)))))))) x0], .agg [.v (.sl (.pr (.int .i64) (.pr (.int .i64) (.pr .str (.pr .bool (.pr (.sl .str) (.sl (.int .i64)))))))) x1]] [] (wq4b K) = wqdv k (fun s0 s1 s2 => iter (wqz k).pv (look (wqz k).cuts 1004) (execK (wqz k) k (at_ [1, 1, 0, 1, 0, 0] wq21)) k (wq4g s0 s1 s2) (konts (wqz k) k I [1, 1, 0, 1, 0] wq21 (outK (wqz k) wq65 [.tmp 4] (wq4b K)))) x0 x1 K := by kernel_rfl
noncomputable def wq3c (k : Nat) {R : Type}  : Nat → (List (Int × (Int × ((List UInt8) × (Bool × ((List (List UInt8)) × (List Int))))))) → (List (Int × (Int × ((List UInt8) × (Bool × ((List (List UInt8)) × (List Int))))))) → Int → (Bool → Option R) → Option R
  | 0, _, _, _, _ => none
  | n + 1, s0, s1, s2, K => wq78 k (fun s0 s1 s2 => wq3c k  n s0 s1 s2 K) s0 s1 s2 K
theorem wqjz (k : Nat) {R : Type} (I : Nat → St → Option R) (K : (Bool → Option R)) : ∀ (n : Nat) (s0 : (List (Int × (Int × ((List UInt8) × (Bool × ((List (List UInt8)) × (List Int)))))))) (s1 : (List (Int × (Int × ((List UInt8) × (Bool × ((List (List UInt8)) × (List Int)))))))) (s2 : Int), iter (wqz k).pv (look (wqz k).cuts 1004) (execK (wqz k) k (at_ [1, 1, 0, 1, 0, 0] wq21)) n (wq4g s0 s1 s2) (konts (wqz k) k I [1, 1, 0, 1, 0] wq21 (outK (wqz k) wq65 [.tmp 4] (wq4b K))) = wq3c k  n s0 s1 s2 K := by
  intro n
  induction n with
  | zero => intros; rfl
  | succ n ih =>
    intro s0 s1 s2
    let I' : Nat → St → Option R := fun id s => bif Nat.beq id 1004 then iter (wqz k).pv (look (wqz k).cuts 1004) (execK (wqz k) k (at_ [1, 1, 0, 1, 0, 0] wq21)) n s (konts (wqz k) k I [1, 1, 0, 1, 0] wq21 (outK (wqz k) wq65 [.tmp 4] (wq4b K))) else I id s
    have e := wqjy k I' s0 s1 s2 K
    have h1004 : (fun s0 s1 s2 => I' 1004 (wq4g s0 s1 s2)) = (fun s0 s1 s2 => wq3c k  n s0 s1 s2 K) := by funext s0 s1 s2; exact ih s0 s1 s2
    refine Eq.trans (?_ : _ = _) (e.trans (Eq.trans ((congrArg ((fun E1004 => wq78 k E1004 s0 s1 s2 K)) h1004)) (by rw [wq3c])))
    rfl
noncomputable def wq97 (k : Nat) {R : Type} (x0 : (List (Int × (Int × ((List UInt8) × (Bool × ((List (List UInt8)) × (List Int)))))))) (x1 : (List (Int × (Int × ((List UInt8) × (Bool × ((List (List UInt8)) × (List Int)))))))) (K : (Bool → Option R)) : Option R := wqdv k (fun s0 s1 s2 => wq3c k k s0 s1 s2 K) x0 x1 K
theorem wqsw (k : Nat) {R : Type} (x0 : (List (Int × (Int × ((List UInt8) × (Bool × ((List (List UInt8)) × (List Int)))))))) (x1 : (List (Int × (Int × ((List UInt8) × (Bool × ((List (List UInt8)) × (List Int)))))))) (K : (Bool → Option R)) : fnK (wqz k) k wq21 30 [.tmp 4] wq65 [.agg [.v (.sl (.pr (.int .i64) (.pr (.int .i64) (.pr .str (.pr .bool (.pr (.sl .str) (.sl (.int .i64)))))))) x0], .agg [.v (.sl (.pr (.int .i64) (.pr (.int .i64) (.pr .str (.pr .bool (.pr (.sl .str) (.sl (.int .i64)))))))) x1]] [] (wq4b K) = wq97 k x0 x1 K := by
  let I : Nat → St → Option R := fun _ _ => none
  have h1004 : (fun s0 s1 s2 => iter (wqz k).pv (look (wqz k).cuts 1004) (execK (wqz k) k (at_ [1, 1, 0, 1, 0, 0] wq21)) k (wq4g s0 s1 s2) (konts (wqz k) k I [1, 1, 0, 1, 0] wq21 (outK (wqz k) wq65 [.tmp 4] (wq4b K)))) = (fun s0 s1 s2 => wq3c k k s0 s1 s2 K) := by funext s0 s1 s2; exact wqjz k I K k s0 s1 s2
  exact (wqsv k I x0 x1 K).trans (congrArg ((fun E1004 => wqdv k E1004 x0 x1 K)) h1004)
noncomputable def wqb6 (k : Nat) {R : Type} : List PV → List (Nm × HObj) → (Out → Option R) → Option R
  | [.agg [.v (.sl (.pr (.int .i64) (.pr (.int .i64) (.pr .str (.pr .bool (.pr (.sl .str) (.sl (.int .i64)))))))) x0], .agg [.v (.sl (.pr (.int .i64) (.pr (.int .i64) (.pr .str (.pr .bool (.pr (.sl .str) (.sl (.int .i64)))))))) x1]], [], K => wq97 k x0 x1 (fun y0 => K (.ret [.v .bool y0] []))
  | _, _, _ => none
theorem wqsx (k : Nat) : (wqpm k).Ok Tryz.prog := (CTab.add_ok (fun h => wqyw k h) CTab.nil_ok)
theorem wqpn (k : Nat) {ps : List PV} {hp : List (Nm × HObj)} {R : Type} {K : Out → Option R} {r : R} (h : wqb6 k ps hp K = some r) : DoesTo Tryz.prog 9 ps hp fun out => K out = some r := by
  unfold wqb6 at h
  split at h
  · rw [← wqsw] at h
    have := fn_ok (P := Tryz.prog) (cx := wqz k) (f := 9) ⟨tyT_ok, wqsx k, fun _ _ => rfl⟩ (by kernel_rfl) (fn := Tryz.f9) (c := wq21) (by kernel_rfl) (by kernel_rfl) (by kernel_rfl) (rs := [.tmp 4]) (by kernel_rfl) (by kernel_rfl) h
    exact this.mono fun out ho => by
      unfold wq4b at ho
      split at ho <;> first | exact ho | cases ho
  · cases h
end Go.Proofs.YtpfbdepoammjmaaGreatDoor.Pvm

set_option maxRecDepth 1000000
set_option maxHeartbeats 0
namespace Go.Proofs.YtpfbdepoammjmaaGreatDoor.Pvm
open Go Go.Proofs
def wqua : List LS := []
noncomputable def wqpo (k : Nat) : CTab := (CTab.add 7 wqpl (wqdu k) (CTab.add 9 wqka (wqb6 k) (CTab.add 17 wqwz (wqml k) CTab.nil)))
def wqd6 {R : Type} (K : (Bool → Option R)) : Out → Option R
  | .ret [.v .bool y0] [] => K y0
  | _ => none
def wqng : RetSpec := ⟨[.any], [], []⟩
def wqsy : List (Nat × CutSpec) := []
def wqq8 : List (Nat × Plan) := []
noncomputable def wqgb (k : Nat) : Ctx := ⟨tyT, wqsy, wqpo k, [], [], wqq8, @SH⟩
noncomputable def wqd7 : Code := Tryz.f6.body.getD .skip
noncomputable def wqi9 (k : Nat) {R : Type}   (K : (Bool → Option R)) : Option R := (@wq77 k R ((97 : Int) :: ((58 : Int) :: ((32 : Int) :: ((98 : Int) :: [])))) (fun y3 y4 y5 => (@wq77 k R ((97 : Int) :: ((58 : Int) :: [])) (fun y6 y7 y8 => (@F_doc_Of k R [] (fun y9 y10 y11 => (@cond (@Option R) (@BEq.beq (@Kd.T Kd.bool) (@instBEqOfDecidableEq (@Kd.T Kd.bool) @instDecidableEqBool) (@Bool.and (@BEq.beq Int (@instBEqOfDecidableEq Int @Int.instDecidableEq) y4 (0 : (@Kd.T kI))) (@BEq.beq Int (@instBEqOfDecidableEq Int @Int.instDecidableEq) y5 (0 : (@Kd.T kI)))) Bool.true) (@wq97 k R y3 (((3 : Int), ((1 : Int), ([], (Bool.false, ((((97 : UInt8) :: []) :: []), ((1 : Int) :: [])))))) :: (((1 : Int), ((1 : Int), (((98 : UInt8) :: []), (Bool.false, ([], []))))) :: [])) (fun y12 => (K (@cond (@Kd.T Kd.bool) (@cond (@Kd.T Kd.bool) y12 (@Bool.and (@BEq.beq Int (@instBEqOfDecidableEq Int @Int.instDecidableEq) y7 (10 : Int)) (@BEq.beq Int (@instBEqOfDecidableEq Int @Int.instDecidableEq) y8 (1 : Int))) Bool.false) (@Bool.and (@BEq.beq Int (@instBEqOfDecidableEq Int @Int.instDecidableEq) y10 (10 : Int)) (@BEq.beq Int (@instBEqOfDecidableEq Int @Int.instDecidableEq) y11 (1 : Int))) Bool.false)))) (K (@cond (@Kd.T Kd.bool) (@cond (@Kd.T Kd.bool) Bool.false (@Bool.and (@BEq.beq Int (@instBEqOfDecidableEq Int @Int.instDecidableEq) y7 (10 : Int)) (@BEq.beq Int (@instBEqOfDecidableEq Int @Int.instDecidableEq) y8 (1 : Int))) Bool.false) (@Bool.and (@BEq.beq Int (@instBEqOfDecidableEq Int @Int.instDecidableEq) y10 (10 : Int)) (@BEq.beq Int (@instBEqOfDecidableEq Int @Int.instDecidableEq) y11 (1 : Int))) Bool.false)))))))))
theorem wqsz (k : Nat) {R : Type} (I : Nat → St → Option R)  (K : (Bool → Option R)) : fnK (wqgb k) k wqd7 46 [.tmp 0] wqng [] [] (wqd6 K) = wqi9 k   K := by kernel_rfl
noncomputable def wq6z (k : Nat) {R : Type}  (K : (Bool → Option R)) : Option R := wqi9 k   K
theorem wqt0 (k : Nat) {R : Type}  (K : (Bool → Option R)) : fnK (wqgb k) k wqd7 46 [.tmp 0] wqng [] [] (wqd6 K) = wq6z k  K := by
  exact wqsz k (fun _ _ => none)  K
noncomputable def wqef (k : Nat) {R : Type} : List PV → List (Nm × HObj) → (Out → Option R) → Option R
  | [], [], K => wq6z k  (fun y0 => K (.ret [.v .bool y0] []))
  | _, _, _ => none
theorem wqt1 (k : Nat) : (wqpo k).Ok Tryz.prog := (CTab.add_ok (fun h => wquz k h) (CTab.add_ok (fun h => wqpn k h) (CTab.add_ok (fun h => D_doc_Of k h) CTab.nil_ok)))
theorem wqxw (k : Nat) {ps : List PV} {hp : List (Nm × HObj)} {R : Type} {K : Out → Option R} {r : R} (h : wqef k ps hp K = some r) : DoesTo Tryz.prog 6 ps hp fun out => K out = some r := by
  unfold wqef at h
  split at h
  · rw [← wqt0] at h
    have := fn_ok (P := Tryz.prog) (cx := wqgb k) (f := 6) ⟨tyT_ok, wqt1 k, fun _ _ => rfl⟩ (by kernel_rfl) (fn := Tryz.f6) (c := wqd7) (by kernel_rfl) (by kernel_rfl) (by kernel_rfl) (rs := [.tmp 0]) (by kernel_rfl) (by kernel_rfl) h
    exact this.mono fun out ho => by
      unfold wqd6 at ho
      split at ho <;> first | exact ho | cases ho
  · cases h
end Go.Proofs.YtpfbdepoammjmaaGreatDoor.Pvm

set_option maxHeartbeats 2000000
set_option maxRecDepth 100000
namespace Go.Proofs.YtpfbdepoammjmaaGreatDoor.Pvm
open Go Go.Proofs Go.RowKit
def grownW (b : Nat) (cs : Array Value) (w : World) : World := ((w.setCell ⟨b, 1, none⟩ (.slice (some ⟨w.heap.size, 0, none⟩) 0 cs.size)).alloc (.cells cs 5)).drew.drew.drew
theorem grow_new (b n : Nat) (w : World) (hbk : w.heap[b]? = some (.cells #[.pointer (some ⟨b, 0, none⟩), .slice none 0 0] 85 (0, 0))) (hn : n ≤ 281474976710656) :
    Calls Tryz.prog 75 #[.pointer (some ⟨b, 0, none⟩), .int .i64 n] w fun e w' => e = .returned (.tuple #[]) ∧ ∃ cs : Array Value, cs.size ≤ maxLen ∧ w' = grownW b cs w := by
  have hlt : b < w.heap.size := (Array.getElem?_eq_some_iff.1 hbk).1
  have mixed : Tryz.prog.follows .mixedOrders = true := by kernel_rfl
  have t37 : Tryz.prog.underlying 22 = some (.slice 5) := by kernel_rfl
  have sz5 : (Tryz.prog.info? 5).map (·.size) = some 1 := by kernel_rfl
  obtain ⟨cs, hrun, hle, hmax⟩ := Lib.run_makeNoZero (P := Tryz.prog) w.drew #[3] 22 5 t37 n hn
  have hw : IntKind.i64.wrap (IntKind.i64.wrap 0 + (n : Int)) = n := by
    rw [IntKind.wrap_i64, IntKind.wrap_i64]
    omega
  have hcall : (callFunc 112 #[.int .i64 (IntKind.i64.wrap (IntKind.i64.wrap 0 + (n : Int)))]).run Tryz.prog w.drew = .ok (.value (.slice (some ⟨w.drew.heap.size, 0, none⟩) n cs.size)) (w.drew.drew.drew.alloc (.cells cs 5)) := by
    rw [hw, run_callFunc_extern Tryz.func112 (by kernel_rfl) (by kernel_rfl) (by kernel_rfl) (e := Extern.BytealgMakeNoZero.makeNoZero #[3] #[22]) (by kernel_rfl), hrun]
    rfl
  have c1 : w.drew.cell? ⟨b, 1, none⟩ = some (.slice none 0 0) := by
    have : w.drew.heap[b]? = _ := hbk
    rw [Lib.cell_of_heap this]; rfl
  have hb2 : (w.alloc (.cells cs 5)).heap[b]? = _ := (Lib.alloc_old w _ b hlt).trans hbk
  have c2 : (w.alloc (.cells cs 5)).cell? ⟨b, 1, none⟩ = some (.slice none 0 0) := by rw [Lib.cell_of_heap hb2]; rfl
  have f2 : (w.alloc (.cells cs 5)).frozen? ⟨b, 1, none⟩ = false := Lib.frozen_of_heap hb2 1
  have hcopy : ∀ W : World, (Builtin.copy_ #[22, 22] 3 #[.slice (some ⟨w.heap.size, 0, none⟩) 0 cs.size, .slice none 0 0]).run Tryz.prog W = .ok (goInt 0) W :=
    fun W => run_copy_none W 22 22 3 5 _ _ 0 cs.size 0 0 t37 sz5 rfl
  have hm : cs.size ≤ maxLen := hmax (by unfold maxLen; omega)
  clear hw
  go_enter Tryz.func75, Tryz.ntmps75
  go_wp2
  go_region_o
  all_goals (go_wp2; go_end0; exact ⟨rfl, cs, hm, rfl⟩)
end Go.Proofs.YtpfbdepoammjmaaGreatDoor.Pvm

set_option maxHeartbeats 2000000
set_option maxRecDepth 100000
namespace Go.Proofs.YtpfbdepoammjmaaGreatDoor.Pvm
open Go Go.Proofs Go.RowKit
theorem Grow_new (b n : Nat) (w : World) (hbk : w.heap[b]? = some (.cells #[.pointer none, .slice none 0 0] 85 (0, 0))) (hn : n ≤ 281474976710656) :
    Calls Tryz.prog 37 #[.pointer (some ⟨b, 0, none⟩), .int .i64 n] w fun e w' => e = .returned (.tuple #[]) ∧ (w' = (w.setCell ⟨b, 0, none⟩ (.pointer (some ⟨b, 0, none⟩))).drew ∨ ∃ cs : Array Value, cs.size ≤ maxLen ∧ w' = grownW b cs (w.setCell ⟨b, 0, none⟩ (.pointer (some ⟨b, 0, none⟩))).drew) := by
  have hbk1 : (w.setCell ⟨b, 0, none⟩ (.pointer (some ⟨b, 0, none⟩))).heap[b]? = some (.cells #[.pointer (some ⟨b, 0, none⟩), .slice none 0 0] 85 (0, 0)) := by
    simp [World.setCell, Array.getElem?_modify, hbk]
  have mixed : Tryz.prog.follows .mixedOrders = true := by kernel_rfl
  have c1 : (w.setCell ⟨b, 0, none⟩ (.pointer (some ⟨b, 0, none⟩))).cell? ⟨b, 1, none⟩ = some (.slice none 0 0) := by rw [Lib.cell_of_heap hbk1]; rfl
  have c1' : (w.setCell ⟨b, 0, none⟩ (.pointer (some ⟨b, 0, none⟩))).drew.cell? ⟨b, 1, none⟩ = some (.slice none 0 0) := c1
  go_enter Tryz.func37, Tryz.ntmps37
  go_wp2_with (go_at_call 74; refine (wqk8 b w (by rw [Lib.cell_of_heap hbk]; rfl) (by simp [World.shape?, hbk]) (Lib.frozen_of_heap hbk 0)).mono ?_; rintro e w' ⟨rfl, rfl⟩)
  go_region_o
  all_goals go_wp2_with (go_at_call 75; refine (grow_new b n (w.setCell ⟨b, 0, none⟩ (.pointer (some ⟨b, 0, none⟩))).drew hbk1 hn).mono ?_; rintro e w' ⟨rfl, cs, h1, rfl⟩)
  all_goals first
    | (go_end0; exact ⟨rfl, .inr ⟨cs, h1, rfl⟩⟩)
    | (go_end0; exact ⟨rfl, .inl rfl⟩)
end Go.Proofs.YtpfbdepoammjmaaGreatDoor.Pvm

set_option maxHeartbeats 1000000
set_option maxRecDepth 1000000
namespace Go.Proofs.YtpfbdepoammjmaaGreatDoor.Pvm
open Go Go.Proofs
def wqgc : List LS := [.obj 1 [.any, .any], .any]
def wq4c (k : Nat) {R : Type} (x0 : Int) (K : List Int → Option R) : Option R := bif decide (0 ≤ x0) && decide (x0 ≤ 281474976710656) then K [] else none
def wq66 (k : Nat) {R : Type} : List PV → List (Nm × HObj) → (Out → Option R) → Option R
  | [.ptr 1 0, .v (.int .i64) x0], [(1, .var 85 [.nilptr, .nilsl])], K => wq4c k x0 (fun y0 => K (.ret [] [(21, .row 5 (.int .u8) y0), (1, .var 85 [.nps 1, .row 21])]))
  | _, _, _ => none
theorem wqcc (vs : Array Value) (w : World) : (callFunc 37 vs).run Tryz.prog w = .ok (.enter 37 vs) w := by
  have h1 : Tryz.prog.funcs[37]? = some Tryz.f37 := by kernel_rfl
  have h2 : (Tryz.f37.name == "runtime.NumGoroutine") = false := by kernel_rfl
  have h3 : Tryz.f37.body.isNone = false := by kernel_rfl
  unfold callFunc
  rw [Sem.run_bind]
  have e2 : (program).run Tryz.prog w = .ok Tryz.prog w := rfl
  rw [e2, Result.andThen_ok, h1]
  simp only [h2, h3, Bool.false_eq_true, if_false]
  rfl
def growHP : List (Nm × HObj) := [(1, .var 85 [.nilptr, .nilsl])]
def growHS : List (Nm × HObj) := [(21, .row 5 (.int .u8) ([] : List Int)), (1, .var 85 [.nps 1, .row 21])]
theorem wqw9 {n : Nm} {o : HObj} (h : mkH growHS n = some o) : (n = 21 ∧ o = .row 5 (.int .u8) ([] : List Int)) ∨ (n = 1 ∧ o = .var 85 [.nps 1, .row 21]) := by
  simp only [mkH, growHS, look] at h
  cases h1 : Nat.beq 21 n with
  | true => rw [h1, cond_true] at h; cases h; exact .inl ⟨(Nat.eq_of_beq_eq_true h1).symm, rfl⟩
  | false =>
    rw [h1, cond_false] at h
    cases h2 : Nat.beq 1 n with
    | true => rw [h2, cond_true] at h; cases h; exact .inr ⟨(Nat.eq_of_beq_eq_true h2).symm, rfl⟩
    | false => rw [h2] at h; cases h
theorem wq129 {n : Nm} {o : HObj} (h : mkH growHP n = some o) : n = 1 ∧ o = .var 85 [.nilptr, .nilsl] := by
  simp only [mkH, growHP, look] at h
  cases h2 : Nat.beq 1 n with
  | true => rw [h2, cond_true] at h; cases h; exact ⟨(Nat.eq_of_beq_eq_true h2).symm, rfl⟩
  | false => rw [h2] at h; cases h
theorem wqzr {G : Gh} {w w' : World} {v : Value} (hb : G.bk 1 < w.heap.size) (hw' : w'.heap[G.bk 1]? = some (.cells #[.pointer (some ⟨G.bk 1, 0, none⟩), v] 85 (0, 0)))
    (hblk : ∀ b, b < w.heap.size → b ≠ G.bk 1 → w'.heap[b]? = w.heap[b]?) (hown : w'.ownsRow 0 5 1 v 0 []) (hg : ∀ g, v.ownBlock = some g → w.heap.size ≤ g)
    (grow : w.heap.size ≤ w'.heap.size) (os : w'.os = w.os) (tape : w'.tape = w.tape) (out : w'.output = w.output) :
    Fin growHP growHS G w ⟨G.bk, fun m => if m = 21 then v else G.rv m, G.X⟩ w' := by
  have m1 : mkH growHS 1 = some (.var 85 [.nps 1, .row 21]) := rfl
  have m2 : mkH growHS 21 = some (.row 5 (.int .u8) ([] : List Int)) := rfl
  generalize hG : (⟨G.bk, fun m => if m = 21 then v else G.rv m, G.X⟩ : Gh) = G'
  have gb : G'.bk = G.bk := by subst hG; rfl
  have gr : G'.rv 21 = v := by subst hG; simp
  have ck : ∀ n b, blkOf (mkH growHS) G' n = some b → (n = 21 ∧ v.ownBlock = some b) ∨ (n = 1 ∧ b = G.bk 1) := by
    intro n b h
    cases hn : mkH growHS n with
    | none => simp [blkOf, hn] at h
    | some o =>
      rcases wqw9 hn with ⟨rfl, rfl⟩ | ⟨rfl, rfl⟩
      · simp only [blkOf, hn, gr] at h; exact .inl ⟨rfl, h⟩
      · simp only [blkOf, hn, gb, Option.some.injEq] at h; exact .inr ⟨rfl, h.symm⟩
  refine ⟨fun n o hn => ?_, fun n m b h1 h2 => ?_, fun n t cs hn o ho => ?_, fun b hbl hf => hblk b hbl fun e => hf 1 (by rw [e]; rfl), by subst hG; rfl, fun n b hn => ?_, grow, os, tape, out⟩
  · rcases wqw9 hn with ⟨rfl, rfl⟩ | ⟨rfl, rfl⟩
    · exact ⟨[], by rw [gr]; exact hown, rfl, by decide⟩
    · exact ⟨[.pointer (some ⟨G.bk 1, 0, none⟩), v], by rw [gb]; exact hw', _, _, rfl, .inr ⟨by rw [gb], _, _, m1⟩, _, _, rfl, ⟨gr.symm, _, _, _, m2⟩, rfl⟩
  · rcases ck n b h1 with ⟨rfl, e1⟩ | ⟨rfl, e1⟩ <;> rcases ck m b h2 with ⟨rfl, e2⟩ | ⟨rfl, e2⟩
    · rfl
    · have := hg b e1; omega
    · have := hg b e2; omega
    · rfl
  · obtain ⟨rfl, e⟩ := wq129 (show mkH growHP n = _ from hn)
    rcases wqw9 (show mkH growHS 1 = some o from ho) with ⟨e1, _⟩ | ⟨_, rfl⟩
    · cases e1
    · cases e; exact ⟨⟨_, rfl⟩, by rw [gb]⟩
  · rcases ck n b hn with ⟨_, e⟩ | ⟨_, e⟩
    · exact .inr (hg b e)
    · exact .inl ⟨1, by rw [e]; rfl⟩
theorem wqia (k : Nat) {ps : List PV} {hp : List (Nm × HObj)} {R : Type} {K : Out → Option R} {r : R} (h : wq66 k ps hp K = some r) : DoesTo Tryz.prog 37 ps hp fun out => K out = some r := by
  unfold wq66 at h
  split at h
  · next x0 =>
    intro G w vals hr obj dis
    unfold wq4c at h
    cases hx : (decide (0 ≤ x0) && decide (x0 ≤ 281474976710656)) with
    | false => rw [hx] at h; cases h
    | true =>
      rw [hx, cond_true] at h
      simp only [Bool.and_eq_true, decide_eq_true_eq] at hx
      obtain ⟨n, rfl⟩ : ∃ n : Nat, x0 = (n : Int) := ⟨x0.toNat, (Int.toNat_of_nonneg hx.1).symm⟩
      have hn : n ≤ 281474976710656 := by
        have : (n : Int) ≤ 281474976710656 := hx.2
        omega
      obtain ⟨v0, l0, rfl, h0, v1, l1, rfl, h1, rfl⟩ := hr
      obtain ⟨rfl, _⟩ := h0
      have e1 : v1 = .int .i64 n := by simpa [RV, RD] using h1
      subst e1
      obtain ⟨vs, hw, q1, t1, rfl, hq1, q2, t2, rfl, hq2, rfl⟩ := obj 1 _ rfl
      have e1 : q1 = .pointer none := hq1
      have e2 : q2 = .slice none 0 0 := hq2
      subst e1 e2
      have hlt : G.bk 1 < w.heap.size := (Array.getElem?_eq_some_iff.1 hw).1
      show Does _ _ #[_, _] _ _
      unfold Does
      rw [wqcc]
      have oth : ∀ b, b ≠ G.bk 1 → (w.setCell ⟨G.bk 1, 0, none⟩ (.pointer (some ⟨G.bk 1, 0, none⟩))).heap[b]? = w.heap[b]? := fun b hb => Go.Deep.blk_setCell_other w _ _ b hb
      have hbk1 : (w.setCell ⟨G.bk 1, 0, none⟩ (.pointer (some ⟨G.bk 1, 0, none⟩))).heap[G.bk 1]? = some (.cells #[.pointer (some ⟨G.bk 1, 0, none⟩), .slice none 0 0] 85 (0, 0)) := by
        simp [World.setCell, Array.getElem?_modify, hw]
      have hsz : (w.setCell ⟨G.bk 1, 0, none⟩ (.pointer (some ⟨G.bk 1, 0, none⟩))).heap.size = w.heap.size := by simp [World.setCell]
      refine Calls.mono (Grow_new (G.bk 1) n w hw hn) fun e w' hh => ?_
      obtain ⟨rfl, hh⟩ := hh
      rcases hh with rfl | ⟨cs, hcs, rfl⟩
      · refine ⟨_, h, _, ⟨_, rfl, ⟨[], rfl, rfl⟩⟩, wqzr (v := .slice none 0 0) hlt hbk1 (fun b _ hb => oth b hb) ⟨rfl, .inl ⟨rfl, rfl⟩⟩ (fun g hg => by cases hg) (by show _ ≤ (w.setCell _ _).heap.size; omega) rfl rfl rfl⟩
      · generalize hW : (w.setCell ⟨G.bk 1, 0, none⟩ (.pointer (some ⟨G.bk 1, 0, none⟩))).drew = W at *
        have hWh : W.heap = (w.setCell ⟨G.bk 1, 0, none⟩ (.pointer (some ⟨G.bk 1, 0, none⟩))).heap := by subst hW; rfl
        have hWs : W.heap.size = w.heap.size := by rw [hWh]; exact hsz
        have hWb : W.heap[G.bk 1]? = some (.cells #[.pointer (some ⟨G.bk 1, 0, none⟩), .slice none 0 0] 85 (0, 0)) := by rw [hWh]; exact hbk1
        generalize hV : W.setCell ⟨G.bk 1, 1, none⟩ (.slice (some ⟨W.heap.size, 0, none⟩) 0 cs.size) = V
        have hVs : V.heap.size = W.heap.size := by subst hV; unfold World.setCell; exact Array.size_modify ..
        have ha : ∀ b, b < w.heap.size → (V.alloc (.cells cs 5)).heap[b]? = V.heap[b]? := fun b hb => Lib.alloc_old V _ b (by omega)
        have hset : ∀ b, b ≠ G.bk 1 → V.heap[b]? = W.heap[b]? := fun b hb => by subst hV; exact Go.Deep.blk_setCell_other _ _ _ b hb
        have hVb : V.heap[G.bk 1]? = some (.cells #[.pointer (some ⟨G.bk 1, 0, none⟩), .slice (some ⟨W.heap.size, 0, none⟩) 0 cs.size] 85 (0, 0)) := by
          subst hV; unfold World.setCell; rw [Array.getElem?_modify, if_pos rfl, hWb]; rfl
        have hgw : grownW (G.bk 1) cs W = (V.alloc (.cells cs 5)).drew.drew.drew := by subst hV; rfl
        have hnew : (V.alloc (.cells cs 5)).heap[W.heap.size]? = some (.cells cs 5 (0, 0)) := by
          rw [← hVs]
          show (V.heap.push _)[V.heap.size]? = _
          rw [Array.getElem?_push_size]
        have hgs : w.heap.size ≤ (grownW (G.bk 1) cs W).heap.size := by
          rw [hgw]
          show w.heap.size ≤ (V.alloc _).heap.size
          have := World.size_alloc V (.cells cs 5)
          omega
        have hos : (grownW (G.bk 1) cs W).os = w.os ∧ (grownW (G.bk 1) cs W).tape = w.tape ∧ (grownW (G.bk 1) cs W).output = w.output := by subst hW; exact ⟨rfl, rfl, rfl⟩
        rw [hgw] at hgs hos ⊢
        refine ⟨_, h, _, ⟨_, rfl, ⟨[], rfl, rfl⟩⟩, wqzr (v := .slice (some ⟨W.heap.size, 0, none⟩) 0 cs.size) hlt ?_ (fun b hb hne => ?_) ⟨rfl, .inr ⟨W.heap.size, cs.size, cs, rfl, Nat.zero_le _, ?_, Nat.zero_le _, hcs, by simp, by simp⟩⟩ (fun g hg => ?_) hgs hos.1 hos.2.1 hos.2.2⟩
        · exact (ha (G.bk 1) hlt).trans hVb
        · exact (ha b hb).trans ((hset b hne).trans (by rw [hWh]; exact oth b hne))
        · exact hnew
        · simp [Value.ownBlock] at hg; omega
  · cases h
end Go.Proofs.YtpfbdepoammjmaaGreatDoor.Pvm

set_option maxRecDepth 1000000
set_option maxHeartbeats 0
namespace Go.Proofs.YtpfbdepoammjmaaGreatDoor.Pvm
open Go Go.Proofs
def wqbk : List LS := [.obj 1 [.nps 1, .own 21 5 (.int .u8)], .any]
noncomputable def wq6l (k : Nat) : CTab := (CTab.add 74 wq6j (wq3d k) CTab.nil)
def wq43 {R : Type} (K : ((List Int) → Int → Option R)) : Out → Option R
  | .ret [.v (.int .i64) y1, .nilif] [(21, .row 5 (.int .u8) y0), (1, .var 85 [.nps 1, .row 21])] => K y0 y1
  | _ => none
def wq6c : RetSpec := ⟨[.any, .any], [(1, .obj 1 [.nps 1, .own 21 5 (.int .u8)])], []⟩
def wqao : List (Nat × CutSpec) := []
def wqa2 : List (Nat × Plan) := []
noncomputable def wq4m (k : Nat) : Ctx := ⟨tyT, wqao, wq6l k, [], [1], wqa2, @SH⟩
noncomputable def wq44 : Code := Tryz.f38.body.getD .skip
noncomputable def wq4p (k : Nat) {R : Type}  (x0 : (List Int)) (x1 : (List UInt8)) (K : ((List Int) → Int → Option R)) : Option R := (@wq2s k R x0 (fun y5 => (@cond (@Option R) (@fits (@List.length (@Kd.T (@Kd.int Go.IntKind.u8)) y5) (@List.length (@Kd.T (@Kd.int Go.IntKind.u8)) (@toBytes x1)) (1 : Nat)) (K (@HAppend.hAppend (@Kd.T (@Kd.sl (@Kd.int Go.IntKind.u8))) (@List (@Kd.T (@Kd.int Go.IntKind.u8))) (@Kd.T (@Kd.sl (@Kd.int Go.IntKind.u8))) (@instHAppendOfAppend (@Kd.T (@Kd.sl (@Kd.int Go.IntKind.u8))) (@List.instAppend (@Kd.T (@Kd.int Go.IntKind.u8)))) y5 (@toBytes x1)) (@Nat.cast Int instNatCastInt (@List.length UInt8 x1))) (@Option.none R))))
theorem wqap (k : Nat) {R : Type} (I : Nat → St → Option R) (x0 : (List Int)) (x1 : (List UInt8)) (K : ((List Int) → Int → Option R)) : fnK (wq4m k) k wq44 19 [.tmp 4, .tmp 5] wq6c [.ptr 1 0, .v .str x1] [(21, .row 5 (.int .u8) x0), (1, .var 85 [.nps 1, .row 21])] (wq43 K) = wq4p k  x0 x1 K := by kernel_rfl
noncomputable def wq1k (k : Nat) {R : Type} (x0 : (List Int)) (x1 : (List UInt8)) (K : ((List Int) → Int → Option R)) : Option R := wq4p k  x0 x1 K
theorem wqaq (k : Nat) {R : Type} (x0 : (List Int)) (x1 : (List UInt8)) (K : ((List Int) → Int → Option R)) : fnK (wq4m k) k wq44 19 [.tmp 4, .tmp 5] wq6c [.ptr 1 0, .v .str x1] [(21, .row 5 (.int .u8) x0), (1, .var 85 [.nps 1, .row 21])] (wq43 K) = wq1k k x0 x1 K := by
  exact wqap k (fun _ _ => none) x0 x1 K
noncomputable def wq4d (k : Nat) {R : Type} : List PV → List (Nm × HObj) → (Out → Option R) → Option R
  | [.ptr 1 0, .v .str x1], [(21, .row 5 (.int .u8) x0), (1, .var 85 [.nps 1, .row 21])], K => wq1k k x0 x1 (fun y0 y1 => K (.ret [.v (.int .i64) y1, .nilif] [(21, .row 5 (.int .u8) y0), (1, .var 85 [.nps 1, .row 21])]))
  | _, _, _ => none
theorem wqar (k : Nat) : (wq6l k).Ok Tryz.prog := (CTab.add_ok (fun h => wq7d k h) CTab.nil_ok)
theorem wqcd (k : Nat) {ps : List PV} {hp : List (Nm × HObj)} {R : Type} {K : Out → Option R} {r : R} (h : wq4d k ps hp K = some r) : DoesTo Tryz.prog 38 ps hp fun out => K out = some r := by
  unfold wq4d at h
  split at h
  · rw [← wqaq] at h
    have := fn_ok (P := Tryz.prog) (cx := wq4m k) (f := 38) ⟨tyT_ok, wqar k, fun _ _ => rfl⟩ (by kernel_rfl) (fn := Tryz.f38) (c := wq44) (by kernel_rfl) (by kernel_rfl) (by kernel_rfl) (rs := [.tmp 4, .tmp 5]) (by kernel_rfl) (by kernel_rfl) h
    exact this.mono fun out ho => by
      unfold wq43 at ho
      split at ho <;> first | exact ho | cases ho
  · cases h
end Go.Proofs.YtpfbdepoammjmaaGreatDoor.Pvm

set_option maxRecDepth 1000000
set_option maxHeartbeats 0
namespace Go.Proofs.YtpfbdepoammjmaaGreatDoor.Pvm
open Go Go.Proofs
def wqt2 : List LS := [.sl .str, .any]
noncomputable def wqnh (k : Nat) : CTab := (CTab.add 37 wqgc (wq66 k) (CTab.add 38 wqbk (wq4d k) (CTab.add 40 wq5k (wq31 k) CTab.nil)))
def wq1s {R : Type} (K : ((List UInt8) → Option R)) : Out → Option R
  | .ret [.v .str y0] [] => K y0
  | _ => none
def wq2m : RetSpec := ⟨[.any], [], []⟩
def wqq9 : List (Nat × CutSpec) := [(1012, ⟨[(0, .sl .str), (1, .any), (5, .any), (39, .sl .str), (40, .any), (41, .any)], []⟩), (1022, ⟨[(1, .any), (8, .obj 18 [.nps 18, .own 38 5 (.int .u8)]), (63, .sl .str), (64, .any), (65, .any)], []⟩)]
def wqok : List (Nat × Plan) := []
noncomputable def wq7 (k : Nat) : Ctx := ⟨tyT, wqq9, wqnh k, [], [], wqok, @SH⟩
noncomputable def wqu : Code := Tryz.f16.body.getD .skip
def wq45 (s0 : (List (List UInt8))) (s1 : (List UInt8)) (s2 : Int) (s3 : (List (List UInt8))) (s4 s5 : Int) : St := ⟨mkT [(0, .v (.sl .str) s0), (1, .v .str s1), (5, .v (.int .i64) s2), (39, .v (.sl .str) s3), (40, .v (.int .i64) s4), (41, .v (.int .i64) s5)], mkH []⟩
def wq46 (s0 : (List UInt8)) (s1 : (List Int)) (s2 : (List (List UInt8))) (s3 s4 : Int) : St := ⟨mkT [(1, .v .str s0), (8, .ptr 18 0), (63, .v (.sl .str) s2), (64, .v (.int .i64) s3), (65, .v (.int .i64) s4)], mkH [(38, .row 5 (.int .u8) s1), (18, .var 85 [.nps 18, .row 38])]⟩
noncomputable def wq5j (k : Nat) {R : Type} (E1012 : ((List (List UInt8)) → (List UInt8) → Int → (List (List UInt8)) → Int → Int → Option R)) (E1022 : ((List UInt8) → (List Int) → (List (List UInt8)) → Int → Int → Option R)) (s0 : (List (List UInt8))) (s1 : (List UInt8)) (s2 : Int) (s3 : (List (List UInt8))) (s4 s5 : Int) (K : ((List UInt8) → Option R)) : Option R := (@cond (@Option R) (@Decidable.decide (@LT.lt Int Int.instLTInt s5 s4) (@Int.decLt s5 s4)) (@cond (@Option R) (@inb s5 (@Nat.cast Int instNatCastInt (@List.length (@Kd.T Kd.str) s3))) (@cond (@Option R) (@Decidable.decide (@GT.gt Int Int.instLTInt (@Nat.cast Int instNatCastInt (@List.length UInt8 (@List.getD (@Kd.T Kd.str) s3 (@Int.toNat s5) (@Kd.zero Kd.str)))) (@Go.IntKind.wrap Go.IntKind.i64 (@HSub.hSub Int Int Int (@instHSub Int @Int.instSub) (9223372036854775807 : Int) s2))) (@Int.decLt (@Go.IntKind.wrap Go.IntKind.i64 (@HSub.hSub Int Int Int (@instHSub Int @Int.instSub) (9223372036854775807 : Int) s2)) (@Nat.cast Int instNatCastInt (@List.length UInt8 (@List.getD (@Kd.T Kd.str) s3 (@Int.toNat s5) (@Kd.zero Kd.str)))))) (@Option.none R) (E1012 s0 s1 (@Go.IntKind.wrap Go.IntKind.i64 (@HAdd.hAdd Int Int Int (@instHAdd Int @Int.instAdd) s2 (@Nat.cast Int instNatCastInt (@List.length UInt8 (@List.getD (@Kd.T Kd.str) s3 (@Int.toNat s5) (@Kd.zero Kd.str)))))) s3 s4 (@Go.IntKind.wrap Go.IntKind.i64 (@HAdd.hAdd Int Int Int (@instHAdd Int @Int.instAdd) s5 (1 : Int))))) (@Option.none R)) (@wq4c k R s2 (fun y11 => (@cond (@Option R) (@inb (0 : Int) (@Nat.cast Int instNatCastInt (@List.length (@Kd.T Kd.str) s0))) (@wq1k k R y11 (@List.getD (@Kd.T Kd.str) s0 (@Int.toNat (0 : Int)) (@Kd.zero Kd.str)) (fun y12 y13 => (@cond (@Option R) (@bnd (1 : Int) (@Nat.cast Int instNatCastInt (@List.length (@Kd.T Kd.str) s0)) (@Nat.cast Int instNatCastInt (@List.length (@Kd.T Kd.str) s0))) (E1022 s1 y12 (@cut (@Kd.T Kd.str) s0 (1 : Int) (@Nat.cast Int instNatCastInt (@List.length (@Kd.T Kd.str) s0))) (@Nat.cast Int instNatCastInt (@List.length (@Kd.T Kd.str) (@cut (@Kd.T Kd.str) s0 (1 : Int) (@Nat.cast Int instNatCastInt (@List.length (@Kd.T Kd.str) s0))))) (0 : Int)) (@Option.none R)))) (@Option.none R)))))
theorem wqib (k : Nat) {R : Type} (I : Nat → St → Option R) (s0 : (List (List UInt8))) (s1 : (List UInt8)) (s2 : Int) (s3 : (List (List UInt8))) (s4 s5 : Int) (K : ((List UInt8) → Option R)) : execK (wq7 k) k (at_ [1, 1, 1, 1, 0, 1, 0, 0] wqu) (wq45 s0 s1 s2 s3 s4 s5) (konts (wq7 k) k I [1, 1, 1, 1, 0, 1, 0, 0] wqu (outK (wq7 k) wq2m [.tmp 4] (wq1s K))) = wq5j k (fun s0 s1 s2 s3 s4 s5 => I 1012 (wq45 s0 s1 s2 s3 s4 s5)) (fun s0 s1 s2 s3 s4 => iter (wq7 k).pv (look (wq7 k).cuts 1022) (execK (wq7 k) k (at_ [1, 1, 1, 1, 1, 1, 1, 1, 0, 1, 0, 0] wqu)) k (wq46 s0 s1 s2 s3 s4) (konts (wq7 k) k I [1, 1, 1, 1, 1, 1, 1, 1, 0, 1, 0] wqu (outK (wq7 k) wq2m [.tmp 4] (wq1s K)))) s0 s1 s2 s3 s4 s5 K := by kernel_rfl
noncomputable def wq6m (k : Nat) {R : Type} (E1022 : ((List UInt8) → (List Int) → (List (List UInt8)) → Int → Int → Option R)) (s0 : (List UInt8)) (s1 : (List Int)) (s2 : (List (List UInt8))) (s3 s4 : Int) (K : ((List UInt8) → Option R)) : Option R := (@cond (@Option R) (@Decidable.decide (@LT.lt Int Int.instLTInt s4 s3) (@Int.decLt s4 s3)) (@cond (@Option R) (@inb s4 (@Nat.cast Int instNatCastInt (@List.length (@Kd.T Kd.str) s2))) (@wq1k k R s1 s0 (fun y10 y11 => (@wq1k k R y10 (@List.getD (@Kd.T Kd.str) s2 (@Int.toNat s4) (@Kd.zero Kd.str)) (fun y12 y13 => (E1022 s0 y12 s2 s3 (@Go.IntKind.wrap Go.IntKind.i64 (@HAdd.hAdd Int Int Int (@instHAdd Int @Int.instAdd) s4 (1 : Int)))))))) (@Option.none R)) (@wq26 k R s1 (fun y10 y11 => (K y11))))
theorem wqic (k : Nat) {R : Type} (I : Nat → St → Option R) (s0 : (List UInt8)) (s1 : (List Int)) (s2 : (List (List UInt8))) (s3 s4 : Int) (K : ((List UInt8) → Option R)) : execK (wq7 k) k (at_ [1, 1, 1, 1, 1, 1, 1, 1, 0, 1, 0, 0] wqu) (wq46 s0 s1 s2 s3 s4) (konts (wq7 k) k I [1, 1, 1, 1, 1, 1, 1, 1, 0, 1, 0, 0] wqu (outK (wq7 k) wq2m [.tmp 4] (wq1s K))) = wq6m k (fun s0 s1 s2 s3 s4 => I 1022 (wq46 s0 s1 s2 s3 s4)) s0 s1 s2 s3 s4 K := by kernel_rfl
noncomputable def wqce (k : Nat) {R : Type} (E1012 : ((List (List UInt8)) → (List UInt8) → Int → (List (List UInt8)) → Int → Int → Option R)) (x0 : (List (List UInt8))) (x1 : (List UInt8)) (K : ((List UInt8) → Option R)) : Option R := (@cond (@Option R) (@BEq.beq Int (@instBEqOfDecidableEq Int @Int.instDecidableEq) (@Nat.cast Int instNatCastInt (@List.length (@Kd.T Kd.str) x0)) (0 : Int)) (K []) (@cond (@Option R) (@BEq.beq Int (@instBEqOfDecidableEq Int @Int.instDecidableEq) (@Nat.cast Int instNatCastInt (@List.length (@Kd.T Kd.str) x0)) (1 : Int)) (@cond (@Option R) (@inb (0 : Int) (@Nat.cast Int instNatCastInt (@List.length (@Kd.T Kd.str) x0))) (K (@List.getD (@Kd.T Kd.str) x0 (@Int.toNat (0 : Int)) (@Kd.zero Kd.str))) (@Option.none R)) (@cond (@Option R) (@Decidable.decide (@GT.gt Int Int.instLTInt (@Nat.cast Int instNatCastInt (@List.length UInt8 x1)) (0 : Int)) (@Int.decLt (0 : Int) (@Nat.cast Int instNatCastInt (@List.length UInt8 x1)))) (@cond (@Option R) (@bne Int (@instBEqOfDecidableEq Int @Int.instDecidableEq) (@Go.IntKind.wrap Go.IntKind.i64 (@HSub.hSub Int Int Int (@instHSub Int @Int.instSub) (@Nat.cast Int instNatCastInt (@List.length (@Kd.T Kd.str) x0)) (1 : Int))) (0 : Int)) (@cond (@Option R) (@Decidable.decide (@GE.ge Int Int.instLEInt (@Nat.cast Int instNatCastInt (@List.length UInt8 x1)) (@Go.IntKind.wrap Go.IntKind.i64 (@Int.tdiv (9223372036854775807 : Int) (@Go.IntKind.wrap Go.IntKind.i64 (@HSub.hSub Int Int Int (@instHSub Int @Int.instSub) (@Nat.cast Int instNatCastInt (@List.length (@Kd.T Kd.str) x0)) (1 : Int)))))) (@Int.decLe (@Go.IntKind.wrap Go.IntKind.i64 (@Int.tdiv (9223372036854775807 : Int) (@Go.IntKind.wrap Go.IntKind.i64 (@HSub.hSub Int Int Int (@instHSub Int @Int.instSub) (@Nat.cast Int instNatCastInt (@List.length (@Kd.T Kd.str) x0)) (1 : Int))))) (@Nat.cast Int instNatCastInt (@List.length UInt8 x1)))) (@Option.none R) (E1012 x0 x1 (@Go.IntKind.wrap Go.IntKind.i64 (@HAdd.hAdd Int Int Int (@instHAdd Int @Int.instAdd) (0 : Int) (@Go.IntKind.wrap Go.IntKind.i64 (@HMul.hMul Int Int Int (@instHMul Int @Int.instMul) (@Nat.cast Int instNatCastInt (@List.length UInt8 x1)) (@Go.IntKind.wrap Go.IntKind.i64 (@HSub.hSub Int Int Int (@instHSub Int @Int.instSub) (@Nat.cast Int instNatCastInt (@List.length (@Kd.T Kd.str) x0)) (1 : Int))))))) x0 (@Nat.cast Int instNatCastInt (@List.length (@Kd.T Kd.str) x0)) (0 : Int))) (@Option.none R)) (E1012 x0 x1 (0 : Int) x0 (@Nat.cast Int instNatCastInt (@List.length (@Kd.T Kd.str) x0)) (0 : Int)))))
theorem wqqa (k : Nat) {R : Type} (I : Nat → St → Option R) (x0 : (List (List UInt8))) (x1 : (List UInt8)) (K : ((List UInt8) → Option R)) : fnK (wq7 k) k wqu 75 [.tmp 4] wq2m [.v (.sl .str) x0, .v .str x1] [] (wq1s K) = wqce k (fun s0 s1 s2 s3 s4 s5 => iter (wq7 k).pv (look (wq7 k).cuts 1012) (execK (wq7 k) k (at_ [1, 1, 1, 1, 0, 1, 0, 0] wqu)) k (wq45 s0 s1 s2 s3 s4 s5) (konts (wq7 k) k I [1, 1, 1, 1, 0, 1, 0] wqu (outK (wq7 k) wq2m [.tmp 4] (wq1s K)))) x0 x1 K := by kernel_rfl
noncomputable def wq2z (k : Nat) {R : Type}  : Nat → (List UInt8) → (List Int) → (List (List UInt8)) → Int → Int → ((List UInt8) → Option R) → Option R
  | 0, _, _, _, _, _, _ => none
  | n + 1, s0, s1, s2, s3, s4, K => wq6m k (fun s0 s1 s2 s3 s4 => wq2z k  n s0 s1 s2 s3 s4 K) s0 s1 s2 s3 s4 K
theorem wqid (k : Nat) {R : Type} (I : Nat → St → Option R) (K : ((List UInt8) → Option R)) : ∀ (n : Nat) (s0 : (List UInt8)) (s1 : (List Int)) (s2 : (List (List UInt8))) (s3 s4 : Int), iter (wq7 k).pv (look (wq7 k).cuts 1022) (execK (wq7 k) k (at_ [1, 1, 1, 1, 1, 1, 1, 1, 0, 1, 0, 0] wqu)) n (wq46 s0 s1 s2 s3 s4) (konts (wq7 k) k I [1, 1, 1, 1, 1, 1, 1, 1, 0, 1, 0] wqu (outK (wq7 k) wq2m [.tmp 4] (wq1s K))) = wq2z k  n s0 s1 s2 s3 s4 K := by
  intro n
  induction n with
  | zero => intros; rfl
  | succ n ih =>
    intro s0 s1 s2 s3 s4
    let I' : Nat → St → Option R := fun id s => bif Nat.beq id 1022 then iter (wq7 k).pv (look (wq7 k).cuts 1022) (execK (wq7 k) k (at_ [1, 1, 1, 1, 1, 1, 1, 1, 0, 1, 0, 0] wqu)) n s (konts (wq7 k) k I [1, 1, 1, 1, 1, 1, 1, 1, 0, 1, 0] wqu (outK (wq7 k) wq2m [.tmp 4] (wq1s K))) else I id s
    have e := wqic k I' s0 s1 s2 s3 s4 K
    have h1022 : (fun s0 s1 s2 s3 s4 => I' 1022 (wq46 s0 s1 s2 s3 s4)) = (fun s0 s1 s2 s3 s4 => wq2z k  n s0 s1 s2 s3 s4 K) := by funext s0 s1 s2 s3 s4; exact ih s0 s1 s2 s3 s4
    refine Eq.trans (?_ : _ = _) (e.trans (Eq.trans ((congrArg ((fun E1022 => wq6m k E1022 s0 s1 s2 s3 s4 K)) h1022)) (by rw [wq2z])))
    rfl
noncomputable def wq2j (k : Nat) {R : Type}  : Nat → (List (List UInt8)) → (List UInt8) → Int → (List (List UInt8)) → Int → Int → ((List UInt8) → Option R) → Option R
  | 0, _, _, _, _, _, _, _ => none
  | n + 1, s0, s1, s2, s3, s4, s5, K => wq5j k (fun s0 s1 s2 s3 s4 s5 => wq2j k  n s0 s1 s2 s3 s4 s5 K) (fun s0 s1 s2 s3 s4 => wq2z k  k s0 s1 s2 s3 s4 K) s0 s1 s2 s3 s4 s5 K
theorem wqie (k : Nat) {R : Type} (I : Nat → St → Option R) (K : ((List UInt8) → Option R)) : ∀ (n : Nat) (s0 : (List (List UInt8))) (s1 : (List UInt8)) (s2 : Int) (s3 : (List (List UInt8))) (s4 s5 : Int), iter (wq7 k).pv (look (wq7 k).cuts 1012) (execK (wq7 k) k (at_ [1, 1, 1, 1, 0, 1, 0, 0] wqu)) n (wq45 s0 s1 s2 s3 s4 s5) (konts (wq7 k) k I [1, 1, 1, 1, 0, 1, 0] wqu (outK (wq7 k) wq2m [.tmp 4] (wq1s K))) = wq2j k  n s0 s1 s2 s3 s4 s5 K := by
  intro n
  induction n with
  | zero => intros; rfl
  | succ n ih =>
    intro s0 s1 s2 s3 s4 s5
    let I' : Nat → St → Option R := fun id s => bif Nat.beq id 1012 then iter (wq7 k).pv (look (wq7 k).cuts 1012) (execK (wq7 k) k (at_ [1, 1, 1, 1, 0, 1, 0, 0] wqu)) n s (konts (wq7 k) k I [1, 1, 1, 1, 0, 1, 0] wqu (outK (wq7 k) wq2m [.tmp 4] (wq1s K))) else I id s
    have e := wqib k I' s0 s1 s2 s3 s4 s5 K
    have h1012 : (fun s0 s1 s2 s3 s4 s5 => I' 1012 (wq45 s0 s1 s2 s3 s4 s5)) = (fun s0 s1 s2 s3 s4 s5 => wq2j k  n s0 s1 s2 s3 s4 s5 K) := by funext s0 s1 s2 s3 s4 s5; exact ih s0 s1 s2 s3 s4 s5
    have h1022 : (fun s0 s1 s2 s3 s4 => iter (wq7 k).pv (look (wq7 k).cuts 1022) (execK (wq7 k) k (at_ [1, 1, 1, 1, 1, 1, 1, 1, 0, 1, 0, 0] wqu)) k (wq46 s0 s1 s2 s3 s4) (konts (wq7 k) k I' [1, 1, 1, 1, 1, 1, 1, 1, 0, 1, 0] wqu (outK (wq7 k) wq2m [.tmp 4] (wq1s K)))) = (fun s0 s1 s2 s3 s4 => wq2z k  k s0 s1 s2 s3 s4 K) := by funext s0 s1 s2 s3 s4; exact (wqid k I' K k s0 s1 s2 s3 s4)
    refine Eq.trans (?_ : _ = _) (e.trans (Eq.trans ((Eq.trans (congrFun (congrArg ((fun E1012 E1022 => wq5j k E1012 E1022 s0 s1 s2 s3 s4 s5 K)) h1012) _) (congrArg ((fun E1012 E1022 => wq5j k E1012 E1022 s0 s1 s2 s3 s4 s5 K) (fun s0 s1 s2 s3 s4 s5 => wq2j k  n s0 s1 s2 s3 s4 s5 K)) h1022))) (by rw [wq2j])))
    rfl
noncomputable def wq79 (k : Nat) {R : Type} (x0 : (List (List UInt8))) (x1 : (List UInt8)) (K : ((List UInt8) → Option R)) : Option R := wqce k (fun s0 s1 s2 s3 s4 s5 => wq2j k k s0 s1 s2 s3 s4 s5 K) x0 x1 K
theorem wqqb (k : Nat) {R : Type} (x0 : (List (List UInt8))) (x1 : (List UInt8)) (K : ((List UInt8) → Option R)) : fnK (wq7 k) k wqu 75 [.tmp 4] wq2m [.v (.sl .str) x0, .v .str x1] [] (wq1s K) = wq79 k x0 x1 K := by
  let I : Nat → St → Option R := fun _ _ => none
  have h1012 : (fun s0 s1 s2 s3 s4 s5 => iter (wq7 k).pv (look (wq7 k).cuts 1012) (execK (wq7 k) k (at_ [1, 1, 1, 1, 0, 1, 0, 0] wqu)) k (wq45 s0 s1 s2 s3 s4 s5) (konts (wq7 k) k I [1, 1, 1, 1, 0, 1, 0] wqu (outK (wq7 k) wq2m [.tmp 4] (wq1s K)))) = (fun s0 s1 s2 s3 s4 s5 => wq2j k k s0 s1 s2 s3 s4 s5 K) := by funext s0 s1 s2 s3 s4 s5; exact wqie k I K k s0 s1 s2 s3 s4 s5
  exact (wqqa k I x0 x1 K).trans (congrArg ((fun E1012 => wqce k E1012 x0 x1 K)) h1012)
noncomputable def wqd8 (k : Nat) {R : Type} : List PV → List (Nm × HObj) → (Out → Option R) → Option R
  | [.v (.sl .str) x0, .v .str x1], [], K => wq79 k x0 x1 (fun y0 => K (.ret [.v .str y0] []))
  | _, _, _ => none
theorem wqqc (k : Nat) : (wqnh k).Ok Tryz.prog := (CTab.add_ok (fun h => wqia k h) (CTab.add_ok (fun h => wqcd k h) (CTab.add_ok (fun h => wq60 k h) CTab.nil_ok)))
theorem wqwa (k : Nat) {ps : List PV} {hp : List (Nm × HObj)} {R : Type} {K : Out → Option R} {r : R} (h : wqd8 k ps hp K = some r) : DoesTo Tryz.prog 16 ps hp fun out => K out = some r := by
  unfold wqd8 at h
  split at h
  · rw [← wqqb] at h
    have := fn_ok (P := Tryz.prog) (cx := wq7 k) (f := 16) ⟨tyT_ok, wqqc k, fun _ _ => rfl⟩ (by kernel_rfl) (fn := Tryz.f16) (c := wqu) (by kernel_rfl) (by kernel_rfl) (by kernel_rfl) (rs := [.tmp 4]) (by kernel_rfl) (by kernel_rfl) h
    exact this.mono fun out ho => by
      unfold wq1s at ho
      split at ho <;> first | exact ho | cases ho
  · cases h
end Go.Proofs.YtpfbdepoammjmaaGreatDoor.Pvm

set_option maxRecDepth 1000000
namespace Go.Proofs
open Go.Shelf
def Tryz.laysLaysn105_ren : Go.Shelf.Ren := ⟨fun | 105 => 15 | 212 => 35 | 99 => 36 | 165 => 37 | 166 => 38 | 170 => 39 | 169 => 40 | 263 => 71 | 264 => 72 | 206 => 73 | 240 => 74 | 241 => 75 | 276 => 111 | 277 => 112 | n => n, fun | 9 => 9 | 3 => 3 | 4 => 4 | 20 => 20 | 0 => 0 | 46 => 79 | 109 => 80 | 5 => 5 | 72 => 85 | 76 => 89 | 51 => 129 | 146 => 130 | 53 => 132 | 148 => 133 | 70 => 83 | 37 => 22 | 75 => 88 | 127 => 135 | 164 => 167 | 80 => 92 | n => n, fun | n => n⟩
theorem Tryz.laysLaysn105 : Go.Proofs.Lays.n105 Tryz.prog Tryz.laysLaysn105_ren := {
  mixed := by kernel_rfl
  f99 := Tryz.func36.trans (congrArg some (by kernel_rfl))
  f105 := Tryz.func15.trans (congrArg some (by kernel_rfl))
  f165 := Tryz.func37.trans (congrArg some (by kernel_rfl))
  f166 := Tryz.func38.trans (congrArg some (by kernel_rfl))
  f169 := Tryz.func40.trans (congrArg some (by kernel_rfl))
  f170 := Tryz.func39.trans (congrArg some (by kernel_rfl))
  f206 := Tryz.func73.trans (congrArg some (by kernel_rfl))
  f212 := Tryz.func35.trans (congrArg some (by kernel_rfl))
  f240 := Tryz.func74.trans (congrArg some (by kernel_rfl))
  f241 := Tryz.func75.trans (congrArg some (by kernel_rfl))
  f263 := Tryz.func71.trans (congrArg some (by kernel_rfl))
  f264 := Tryz.func72.trans (congrArg some (by kernel_rfl))
  f276 := Tryz.func111.trans (congrArg some (by kernel_rfl))
  f277 := Tryz.func112.trans (congrArg some (by kernel_rfl))
  t0 := Tryz.underlying0
  a0 := Tryz.isAgg0
  z0 := Tryz.sizeOf0
  v0 := Tryz.zeroValue0
  t3 := Tryz.underlying3
  a3 := Tryz.isAgg3
  z3 := Tryz.sizeOf3
  v3 := Tryz.zeroValue3
  t4 := Tryz.underlying4
  a4 := Tryz.isAgg4
  z4 := Tryz.sizeOf4
  v4 := Tryz.zeroValue4
  t5 := Tryz.underlying5
  a5 := Tryz.isAgg5
  z5 := Tryz.sizeOf5
  v5 := Tryz.zeroValue5
  t9 := Tryz.underlying9
  a9 := Tryz.isAgg9
  z9 := Tryz.sizeOf9
  v9 := Tryz.zeroValue9
  t20 := Tryz.underlying20
  a20 := Tryz.isAgg20
  z20 := Tryz.sizeOf20
  v20 := Tryz.zeroValue20
  t37 := Tryz.underlying22
  a37 := Tryz.isAgg22
  z37 := Tryz.sizeOf22
  v37 := Tryz.zeroValue22
  t46 := Tryz.underlying79
  a46 := Tryz.isAgg79
  z46 := Tryz.sizeOf79
  v46 := Tryz.zeroValue79
  t51 := Tryz.underlying129
  a51 := Tryz.isAgg129
  z51 := Tryz.sizeOf129
  v51 := Tryz.zeroValue129
  t53 := Tryz.underlying132
  a53 := Tryz.isAgg132
  z53 := Tryz.sizeOf132
  v53 := Tryz.zeroValue132
  t70 := Tryz.underlying83
  a70 := Tryz.isAgg83
  z70 := Tryz.sizeOf83
  v70 := Tryz.zeroValue83
  t72 := Tryz.underlying85
  a72 := Tryz.isAgg85
  z72 := Tryz.sizeOf85
  v72 := Tryz.zeroValue85
  t75 := Tryz.underlying88
  a75 := Tryz.isAgg88
  z75 := Tryz.sizeOf88
  v75 := Tryz.zeroValue88
  t76 := Tryz.underlying89
  a76 := Tryz.isAgg89
  z76 := Tryz.sizeOf89
  v76 := Tryz.zeroValue89
  t109 := Tryz.underlying80
  a109 := Tryz.isAgg80
  z109 := Tryz.sizeOf80
  v109 := Tryz.zeroValue80
  t127 := Tryz.underlying135
  a127 := Tryz.isAgg135
  z127 := Tryz.sizeOf135
  v127 := Tryz.zeroValue135
  t146 := Tryz.underlying130
  a146 := Tryz.isAgg130
  z146 := Tryz.sizeOf130
  v146 := Tryz.zeroValue130
  t148 := Tryz.underlying133
  a148 := Tryz.isAgg133
  z148 := Tryz.sizeOf133
  v148 := Tryz.zeroValue133
  t164 := Tryz.underlying167
  a164 := Tryz.isAgg167
  z164 := Tryz.sizeOf167
  v164 := Tryz.zeroValue167 }
theorem Tryz.extra105 : Builder.Extra Tryz.prog Tryz.laysLaysn105_ren where
  sizeBuilder := by kernel_rfl
  liesBuilder := by kernel_rfl
  t5 := Tryz.underlying5
  a5 := Tryz.isAgg5
  z5 := Tryz.sizeOf5
  v5 := Tryz.zeroValue5
  infoByte := by kernel_rfl
  cellsByte := by kernel_rfl
  sizeByte := by kernel_rfl
  neB5 := by decide
end Go.Proofs
namespace Go.Proofs.YtpfbdepoammjmaaGreatDoor.Pvm
open Go Go.Proofs Go.RowKit Go.Shelf
def repS (s : List UInt8) (n : Nat) : List UInt8 := Lib.repeatL s n
def wqol : List LS := [.any, .any]
def wq5w (k : Nat) {R : Type} (x0 : List UInt8) (x1 : Int) (K : List UInt8 → Option R) : Option R := bif decide (0 ≤ x1) && decide (x1 ≤ 1000000) && decide (x0.length ≤ 1000000) then K (repS x0 x1.toNat) else none
def wqas (k : Nat) {R : Type} : List PV → List (Nm × HObj) → (Out → Option R) → Option R
  | [.v .str x0, .v (.int .i64) x1], [], K => wq5w k x0 x1 (fun y0 => K (.ret [.v .str y0] []))
  | _, _, _ => none
theorem wqt3 (k : Nat) {ps : List PV} {hp : List (Nm × HObj)} {R : Type} {K : Out → Option R} {r : R} (h : wqas k ps hp K = some r) : DoesTo Tryz.prog 15 ps hp fun out => K out = some r := by
  unfold wqas at h
  split at h
  · next x0 x1 =>
    intro G w vals hr obj dis
    obtain ⟨v0, l0, rfl, h0, v1, l1, rfl, h1, rfl⟩ := hr
    have e0 : v0 = .string ⟨x0.toArray⟩ := by simpa [RV, RD] using h0
    have e1 : v1 = .int .i64 x1 := by simpa [RV, RD] using h1
    subst e0 e1
    unfold wq5w at h
    cases hx : (decide (0 ≤ x1) && decide (x1 ≤ 1000000) && decide (x0.length ≤ 1000000)) with
    | false => rw [hx] at h; cases h
    | true =>
      rw [hx, cond_true] at h
      simp only [Bool.and_eq_true, decide_eq_true_eq] at hx
      obtain ⟨⟨g0, g1⟩, g2⟩ := hx
      obtain ⟨n, rfl⟩ : ∃ n : Nat, x1 = (n : Int) := ⟨x1.toNat, (Int.toNat_of_nonneg g0).symm⟩
      have hn : n ≤ 1000000 := by
        have : (n : Int) ≤ 1000000 := g1
        omega
      have hsz : (⟨x0.toArray⟩ : ByteArray).size = x0.length := by simp [ByteArray.size]
      have hmul : x0.length * n ≤ 1000000 * 1000000 := Nat.mul_le_mul g2 hn
      have c := Any.strings_Repeat Tryz.laysLaysn105 Tryz.extra105 ⟨x0.toArray⟩ n w (by omega) (by rw [hsz]; omega)
      show Does _ _ #[_, _] _ _
      unfold Does
      rw [enters (P := Tryz.prog) (fn := Tryz.f15) (c := Tryz.f15.body.getD .skip) (by kernel_rfl) (by kernel_rfl) (by kernel_rfl)]
      refine Calls.mono c fun e w' hh => ?_
      obtain ⟨rfl, b⟩ := hh
      exact ⟨.ret [.v .str (repS x0 n)] [], h, G, ⟨_, rfl, rfl⟩, wqzl b⟩
  · cases h
end Go.Proofs.YtpfbdepoammjmaaGreatDoor.Pvm

set_option maxRecDepth 1000000
namespace Go.Proofs.YtpfbdepoammjmaaGreatDoor.Pvm
open Go Go.Proofs
def cntS (s : List UInt8) (c : UInt8) : Int := Lib.countByte s c
def wqm8 : List LS := [.any, .any]
def wqfc (k : Nat) {R : Type} (x0 : List UInt8) (x1 : Int) (K : Int → Option R) : Option R := K (cntS x0 (UInt8.ofNat x1.toNat))
def wq90 (k : Nat) {R : Type} : List PV → List (Nm × HObj) → (Out → Option R) → Option R
  | [.v .str x0, .v (.int .u8) x1], [], K => wqfc k x0 x1 (fun y0 => K (.ret [.v (.int .i64) y0] []))
  | _, _, _ => none
theorem wqom (k : Nat) {ps : List PV} {hp : List (Nm × HObj)} {R : Type} {K : Out → Option R} {r : R} (h : wq90 k ps hp K = some r) : DoesTo Tryz.prog 109 ps hp fun out => K out = some r := by
  unfold wq90 at h
  split at h
  · next x0 x1 =>
    intro G w vals hr obj dis
    obtain ⟨v0, l0, rfl, h0, v1, l1, rfl, h1, rfl⟩ := hr
    have e0 : v0 = .string ⟨x0.toArray⟩ := by simpa [RV, RD] using h0
    have e1 : v1 = .int .u8 x1 := by simpa [RV, RD] using h1
    subst e0 e1
    have hrun : (callFunc 109 #[.string ⟨x0.toArray⟩, .int .u8 x1]).run Tryz.prog w = .ok (.value (.int .i64 (cntS x0 (UInt8.ofNat x1.toNat)))) w :=
      run_row (fn := Tryz.f109) (g := Extern.BytealgCount.count) (by kernel_rfl) (by kernel_rfl) (by kernel_rfl) (by kernel_rfl) (by kernel_rfl) _ w (Lib.run_countString (P := Tryz.prog) ⟨x0.toArray⟩ x1 w)
    show Does _ _ #[_, _] _ _
    unfold Does
    rw [hrun]
    exact ⟨.ret [.v (.int .i64) _] [], h, G, ⟨_, rfl, rfl⟩, fin_same⟩
  · cases h
end Go.Proofs.YtpfbdepoammjmaaGreatDoor.Pvm

set_option maxRecDepth 1000000
set_option maxHeartbeats 0
namespace Go.Proofs.YtpfbdepoammjmaaGreatDoor.Pvm
open Go Go.Proofs
def wqqd : List LS := [.any, .any]
noncomputable def wqkb (k : Nat) : CTab := (CTab.add 109 wqm8 (wq90 k) CTab.nil)
def wqat {R : Type} (K : (Int → Option R)) : Out → Option R
  | .ret [.v (.int .i64) y0] [] => K y0
  | _ => none
def wqif : RetSpec := ⟨[.any], [], []⟩
def wqon : List (Nat × CutSpec) := []
def wqni : List (Nat × Plan) := []
noncomputable def wqd9 (k : Nat) : Ctx := ⟨tyT, wqon, wqkb k, [], [], wqni, @SH⟩
noncomputable def wqau : Code := Tryz.f69.body.getD .skip
noncomputable def wqkc (k : Nat) {R : Type}  (x0 : (List UInt8)) (x1 : UInt8) (K : (Int → Option R)) : Option R := (@wqfc k R x0 (@Nat.cast Int instNatCastInt (@UInt8.toNat (@List.getD UInt8 (x1 :: []) (@Int.toNat (0 : Int)) (0 : UInt8)))) (fun y5 => (K y5)))
theorem wqoo (k : Nat) {R : Type} (I : Nat → St → Option R) (x0 : (List UInt8)) (x1 : UInt8) (K : (Int → Option R)) : fnK (wqd9 k) k wqau 34 [.tmp 4] wqif [.v .str x0, .v .str [x1]] [] (wqat K) = wqkc k  x0 x1 K := by kernel_rfl
noncomputable def wqb7 (k : Nat) {R : Type} (x0 : (List UInt8)) (x1 : UInt8) (K : (Int → Option R)) : Option R := wqkc k  x0 x1 K
theorem wqop (k : Nat) {R : Type} (x0 : (List UInt8)) (x1 : UInt8) (K : (Int → Option R)) : fnK (wqd9 k) k wqau 34 [.tmp 4] wqif [.v .str x0, .v .str [x1]] [] (wqat K) = wqb7 k x0 x1 K := by
  exact wqoo k (fun _ _ => none) x0 x1 K
noncomputable def wqc2 (k : Nat) {R : Type} : List PV → List (Nm × HObj) → (Out → Option R) → Option R
  | [.v .str x0, .v .str [x1]], [], K => wqb7 k x0 x1 (fun y0 => K (.ret [.v (.int .i64) y0] []))
  | _, _, _ => none
theorem wqoq (k : Nat) : (wqkb k).Ok Tryz.prog := (CTab.add_ok (fun h => wqom k h) CTab.nil_ok)
theorem wqub (k : Nat) {ps : List PV} {hp : List (Nm × HObj)} {R : Type} {K : Out → Option R} {r : R} (h : wqc2 k ps hp K = some r) : DoesTo Tryz.prog 69 ps hp fun out => K out = some r := by
  unfold wqc2 at h
  split at h
  · rw [← wqop] at h
    have := fn_ok (P := Tryz.prog) (cx := wqd9 k) (f := 69) ⟨tyT_ok, wqoq k, fun _ _ => rfl⟩ (by kernel_rfl) (fn := Tryz.f69) (c := wqau) (by kernel_rfl) (by kernel_rfl) (by kernel_rfl) (rs := [.tmp 4]) (by kernel_rfl) (by kernel_rfl) h
    exact this.mono fun out ho => by
      unfold wqat at ho
      split at ho <;> first | exact ho | cases ho
  · cases h
end Go.Proofs.YtpfbdepoammjmaaGreatDoor.Pvm

set_option maxRecDepth 1000000
set_option maxHeartbeats 0
namespace Go.Proofs.YtpfbdepoammjmaaGreatDoor.Pvm
open Go Go.Proofs
def wqqe : List LS := [.any, .any]
noncomputable def wqkd (k : Nat) : CTab := (CTab.add 110 wqk7 (wqb3 k) CTab.nil)
def wqav {R : Type} (K : (Int → Option R)) : Out → Option R
  | .ret [.v (.int .i64) y0] [] => K y0
  | _ => none
def wqig : RetSpec := ⟨[.any], [], []⟩
def wqor : List (Nat × CutSpec) := []
def wqnj : List (Nat × Plan) := []
noncomputable def wqda (k : Nat) : Ctx := ⟨tyT, wqor, wqkd k, [], [], wqnj, @SH⟩
noncomputable def wqaw : Code := Tryz.f70.body.getD .skip
noncomputable def wqeg (k : Nat) {R : Type}  (x0 : (List UInt8)) (x1 : UInt8) (K : (Int → Option R)) : Option R := (@wq95 k R x0 x1 (fun y5 => (K y5)))
theorem wqos (k : Nat) {R : Type} (I : Nat → St → Option R) (x0 : (List UInt8)) (x1 : UInt8) (K : (Int → Option R)) : fnK (wqda k) k wqaw 8 [.tmp 4] wqig [.v .str x0, .v .str [x1]] [] (wqav K) = wqeg k  x0 x1 K := by kernel_rfl
noncomputable def wq7u (k : Nat) {R : Type} (x0 : (List UInt8)) (x1 : UInt8) (K : (Int → Option R)) : Option R := wqeg k  x0 x1 K
theorem wqot (k : Nat) {R : Type} (x0 : (List UInt8)) (x1 : UInt8) (K : (Int → Option R)) : fnK (wqda k) k wqaw 8 [.tmp 4] wqig [.v .str x0, .v .str [x1]] [] (wqav K) = wq7u k x0 x1 K := by
  exact wqos k (fun _ _ => none) x0 x1 K
noncomputable def wqc3 (k : Nat) {R : Type} : List PV → List (Nm × HObj) → (Out → Option R) → Option R
  | [.v .str x0, .v .str [x1]], [], K => wq7u k x0 x1 (fun y0 => K (.ret [.v (.int .i64) y0] []))
  | _, _, _ => none
theorem wqou (k : Nat) : (wqkd k).Ok Tryz.prog := (CTab.add_ok (fun h => wqpd k h) CTab.nil_ok)
theorem wquc (k : Nat) {ps : List PV} {hp : List (Nm × HObj)} {R : Type} {K : Out → Option R} {r : R} (h : wqc3 k ps hp K = some r) : DoesTo Tryz.prog 70 ps hp fun out => K out = some r := by
  unfold wqc3 at h
  split at h
  · rw [← wqot] at h
    have := fn_ok (P := Tryz.prog) (cx := wqda k) (f := 70) ⟨tyT_ok, wqou k, fun _ _ => rfl⟩ (by kernel_rfl) (fn := Tryz.f70) (c := wqaw) (by kernel_rfl) (by kernel_rfl) (by kernel_rfl) (rs := [.tmp 4]) (by kernel_rfl) (by kernel_rfl) h
    exact this.mono fun out ho => by
      unfold wqav at ho
      split at ho <;> first | exact ho | cases ho
  · cases h
end Go.Proofs.YtpfbdepoammjmaaGreatDoor.Pvm

set_option maxRecDepth 1000000
set_option maxHeartbeats 0
namespace Go.Proofs.YtpfbdepoammjmaaGreatDoor.Pvm
open Go Go.Proofs
def wqm9 : List LS := [.any, .any, .any, .any]
noncomputable def wqfd (k : Nat) : CTab := (CTab.add 69 wqqd (wqc2 k) (CTab.add 70 wqqe (wqc3 k) CTab.nil))
def wq2h {R : Type} (K : ((List (List UInt8)) → Option R)) : Out → Option R
  | .ret [.v (.sl .str) y0] [] => K y0
  | _ => none
def wq3o : RetSpec := ⟨[.sl .str], [], []⟩
def wqk0 : List (Nat × CutSpec) := [(1011, ⟨[(0, .any), (1, .any), (2, .any), (3, .any), (9, .own 100009 9 .str), (10, .any)], []⟩)]
def wqih : List (Nat × Plan) := []
noncomputable def wqo (k : Nat) : Ctx := ⟨tyT, wqk0, wqfd k, [], [], wqih, @SH⟩
noncomputable def wq17 : Code := Tryz.f34.body.getD .skip
def wq2r (s0 : (List UInt8)) (s1 : UInt8) (s2 s3 : Int) (s4 : (List (List UInt8))) (s5 : Int) : St := ⟨mkT [(0, .v .str s0), (1, .v .str [s1]), (2, .v (.int .i64) s2), (3, .v (.int .i64) s3), (9, .row 100009), (10, .v (.int .i64) s5)], mkH [(100009, .row 9 .str s4)]⟩
noncomputable def wq54 (k : Nat) {R : Type} (E1011 : ((List UInt8) → UInt8 → Int → Int → (List (List UInt8)) → Int → Option R)) (s0 : (List UInt8)) (s1 : UInt8) (s2 s3 : Int) (s4 : (List (List UInt8))) (s5 : Int) (K : ((List (List UInt8)) → Option R)) : Option R := (@cond (@Option R) (@Decidable.decide (@LT.lt Int Int.instLTInt s5 s3) (@Int.decLt s5 s3)) (@wq7u k R s0 s1 (fun y10 => (@cond (@Option R) (@Decidable.decide (@LT.lt Int Int.instLTInt y10 (0 : Int)) (@Int.decLt y10 (0 : Int))) (@cond (@Option R) (@inb s5 (@Nat.cast Int instNatCastInt (@List.length (@Kd.T Kd.str) s4))) (@cond (@Option R) (@bnd (0 : Int) (@Go.IntKind.wrap Go.IntKind.i64 (@HAdd.hAdd Int Int Int (@instHAdd Int @Int.instAdd) s5 (1 : Int))) (@Nat.cast Int instNatCastInt (@List.length (@Kd.T Kd.str) (@List.set (@Kd.T Kd.str) s4 (@Int.toNat s5) s0)))) (K (@cut (@Kd.T Kd.str) (@List.set (@Kd.T Kd.str) s4 (@Int.toNat s5) s0) (0 : Int) (@Go.IntKind.wrap Go.IntKind.i64 (@HAdd.hAdd Int Int Int (@instHAdd Int @Int.instAdd) s5 (1 : Int))))) (@Option.none R)) (@Option.none R)) (@cond (@Option R) (@bnd (0 : Int) (@Go.IntKind.wrap Go.IntKind.i64 (@HAdd.hAdd Int Int Int (@instHAdd Int @Int.instAdd) y10 s2)) (@Nat.cast Int instNatCastInt (@List.length UInt8 s0))) (@cond (@Option R) (@inb s5 (@Nat.cast Int instNatCastInt (@List.length (@Kd.T Kd.str) s4))) (@cond (@Option R) (@bnd (@Go.IntKind.wrap Go.IntKind.i64 (@HAdd.hAdd Int Int Int (@instHAdd Int @Int.instAdd) y10 (@Nat.cast Int instNatCastInt (@List.length UInt8 (s1 :: []))))) (@Nat.cast Int instNatCastInt (@List.length UInt8 s0)) (@Nat.cast Int instNatCastInt (@List.length UInt8 s0))) (E1011 (@cut UInt8 s0 (@Go.IntKind.wrap Go.IntKind.i64 (@HAdd.hAdd Int Int Int (@instHAdd Int @Int.instAdd) y10 (@Nat.cast Int instNatCastInt (@List.length UInt8 (s1 :: []))))) (@Nat.cast Int instNatCastInt (@List.length UInt8 s0))) s1 s2 s3 (@List.set (@Kd.T Kd.str) s4 (@Int.toNat s5) (@cut UInt8 s0 (0 : Int) (@Go.IntKind.wrap Go.IntKind.i64 (@HAdd.hAdd Int Int Int (@instHAdd Int @Int.instAdd) y10 s2)))) (@Go.IntKind.wrap Go.IntKind.i64 (@HAdd.hAdd Int Int Int (@instHAdd Int @Int.instAdd) s5 (1 : Int)))) (@Option.none R)) (@Option.none R)) (@Option.none R))))) (@cond (@Option R) (@inb s5 (@Nat.cast Int instNatCastInt (@List.length (@Kd.T Kd.str) s4))) (@cond (@Option R) (@bnd (0 : Int) (@Go.IntKind.wrap Go.IntKind.i64 (@HAdd.hAdd Int Int Int (@instHAdd Int @Int.instAdd) s5 (1 : Int))) (@Nat.cast Int instNatCastInt (@List.length (@Kd.T Kd.str) (@List.set (@Kd.T Kd.str) s4 (@Int.toNat s5) s0)))) (K (@cut (@Kd.T Kd.str) (@List.set (@Kd.T Kd.str) s4 (@Int.toNat s5) s0) (0 : Int) (@Go.IntKind.wrap Go.IntKind.i64 (@HAdd.hAdd Int Int Int (@instHAdd Int @Int.instAdd) s5 (1 : Int))))) (@Option.none R)) (@Option.none R)))
theorem wqeh (k : Nat) {R : Type} (I : Nat → St → Option R) (s0 : (List UInt8)) (s1 : UInt8) (s2 s3 : Int) (s4 : (List (List UInt8))) (s5 : Int) (K : ((List (List UInt8)) → Option R)) : execK (wqo k) k (at_ [1, 1, 1, 1, 1, 1, 1, 1, 0, 0, 0] wq17) (wq2r s0 s1 s2 s3 s4 s5) (konts (wqo k) k I [1, 1, 1, 1, 1, 1, 1, 1, 0, 0, 0] wq17 (outK (wqo k) wq3o [.tmp 8] (wq2h K))) = wq54 k (fun s0 s1 s2 s3 s4 s5 => I 1011 (wq2r s0 s1 s2 s3 s4 s5)) s0 s1 s2 s3 s4 s5 K := by kernel_rfl
noncomputable def wq7a (k : Nat) {R : Type} (E1011 : ((List UInt8) → UInt8 → Int → Int → (List (List UInt8)) → Int → Option R)) (x0 : (List UInt8)) (x1 : UInt8) (x2 x3 : Int) (K : ((List (List UInt8)) → Option R)) : Option R := (@cond (@Option R) (@BEq.beq Int (@instBEqOfDecidableEq Int @Int.instDecidableEq) x3 (0 : Int)) (K []) (@cond (@Option R) (@Decidable.decide (@LT.lt Int Int.instLTInt x3 (0 : Int)) (@Int.decLt x3 (0 : Int))) (@wqb7 k R x0 x1 (fun y8 => (@cond (@Option R) (@mkB (@cond (@Kd.T kI) Bool.false (@ite (@Kd.T kI) (@GT.gt (@Kd.T kI) Int.instLTInt (@Go.IntKind.wrap Go.IntKind.i64 (@HAdd.hAdd Int Int Int (@instHAdd Int @Int.instAdd) (@Nat.cast Int instNatCastInt (@List.length UInt8 x0)) (1 : Int))) (@Go.IntKind.wrap Go.IntKind.i64 (@HAdd.hAdd Int Int Int (@instHAdd Int @Int.instAdd) y8 (1 : Int)))) (@Int.decLt (@Go.IntKind.wrap Go.IntKind.i64 (@HAdd.hAdd Int Int Int (@instHAdd Int @Int.instAdd) y8 (1 : Int))) (@Go.IntKind.wrap Go.IntKind.i64 (@HAdd.hAdd Int Int Int (@instHAdd Int @Int.instAdd) (@Nat.cast Int instNatCastInt (@List.length UInt8 x0)) (1 : Int)))) (@Go.IntKind.wrap Go.IntKind.i64 (@HAdd.hAdd Int Int Int (@instHAdd Int @Int.instAdd) (@Nat.cast Int instNatCastInt (@List.length UInt8 x0)) (1 : Int))) (@Go.IntKind.wrap Go.IntKind.i64 (@HAdd.hAdd Int Int Int (@instHAdd Int @Int.instAdd) y8 (1 : Int)))) (@ite (@Kd.T kI) (@LT.lt (@Kd.T kI) Int.instLTInt (@Go.IntKind.wrap Go.IntKind.i64 (@HAdd.hAdd Int Int Int (@instHAdd Int @Int.instAdd) (@Nat.cast Int instNatCastInt (@List.length UInt8 x0)) (1 : Int))) (@Go.IntKind.wrap Go.IntKind.i64 (@HAdd.hAdd Int Int Int (@instHAdd Int @Int.instAdd) y8 (1 : Int)))) (@Int.decLt (@Go.IntKind.wrap Go.IntKind.i64 (@HAdd.hAdd Int Int Int (@instHAdd Int @Int.instAdd) (@Nat.cast Int instNatCastInt (@List.length UInt8 x0)) (1 : Int))) (@Go.IntKind.wrap Go.IntKind.i64 (@HAdd.hAdd Int Int Int (@instHAdd Int @Int.instAdd) y8 (1 : Int)))) (@Go.IntKind.wrap Go.IntKind.i64 (@HAdd.hAdd Int Int Int (@instHAdd Int @Int.instAdd) (@Nat.cast Int instNatCastInt (@List.length UInt8 x0)) (1 : Int))) (@Go.IntKind.wrap Go.IntKind.i64 (@HAdd.hAdd Int Int Int (@instHAdd Int @Int.instAdd) y8 (1 : Int))))) (@cond (@Kd.T kI) Bool.false (@ite (@Kd.T kI) (@GT.gt (@Kd.T kI) Int.instLTInt (@Go.IntKind.wrap Go.IntKind.i64 (@HAdd.hAdd Int Int Int (@instHAdd Int @Int.instAdd) (@Nat.cast Int instNatCastInt (@List.length UInt8 x0)) (1 : Int))) (@Go.IntKind.wrap Go.IntKind.i64 (@HAdd.hAdd Int Int Int (@instHAdd Int @Int.instAdd) y8 (1 : Int)))) (@Int.decLt (@Go.IntKind.wrap Go.IntKind.i64 (@HAdd.hAdd Int Int Int (@instHAdd Int @Int.instAdd) y8 (1 : Int))) (@Go.IntKind.wrap Go.IntKind.i64 (@HAdd.hAdd Int Int Int (@instHAdd Int @Int.instAdd) (@Nat.cast Int instNatCastInt (@List.length UInt8 x0)) (1 : Int)))) (@Go.IntKind.wrap Go.IntKind.i64 (@HAdd.hAdd Int Int Int (@instHAdd Int @Int.instAdd) (@Nat.cast Int instNatCastInt (@List.length UInt8 x0)) (1 : Int))) (@Go.IntKind.wrap Go.IntKind.i64 (@HAdd.hAdd Int Int Int (@instHAdd Int @Int.instAdd) y8 (1 : Int)))) (@ite (@Kd.T kI) (@LT.lt (@Kd.T kI) Int.instLTInt (@Go.IntKind.wrap Go.IntKind.i64 (@HAdd.hAdd Int Int Int (@instHAdd Int @Int.instAdd) (@Nat.cast Int instNatCastInt (@List.length UInt8 x0)) (1 : Int))) (@Go.IntKind.wrap Go.IntKind.i64 (@HAdd.hAdd Int Int Int (@instHAdd Int @Int.instAdd) y8 (1 : Int)))) (@Int.decLt (@Go.IntKind.wrap Go.IntKind.i64 (@HAdd.hAdd Int Int Int (@instHAdd Int @Int.instAdd) (@Nat.cast Int instNatCastInt (@List.length UInt8 x0)) (1 : Int))) (@Go.IntKind.wrap Go.IntKind.i64 (@HAdd.hAdd Int Int Int (@instHAdd Int @Int.instAdd) y8 (1 : Int)))) (@Go.IntKind.wrap Go.IntKind.i64 (@HAdd.hAdd Int Int Int (@instHAdd Int @Int.instAdd) (@Nat.cast Int instNatCastInt (@List.length UInt8 x0)) (1 : Int))) (@Go.IntKind.wrap Go.IntKind.i64 (@HAdd.hAdd Int Int Int (@instHAdd Int @Int.instAdd) y8 (1 : Int))))) (16 : Nat)) (E1011 x0 x1 x2 (@Go.IntKind.wrap Go.IntKind.i64 (@HSub.hSub Int Int Int (@instHSub Int @Int.instSub) (@cond (@Kd.T kI) Bool.false (@ite (@Kd.T kI) (@GT.gt (@Kd.T kI) Int.instLTInt (@Go.IntKind.wrap Go.IntKind.i64 (@HAdd.hAdd Int Int Int (@instHAdd Int @Int.instAdd) (@Nat.cast Int instNatCastInt (@List.length UInt8 x0)) (1 : Int))) (@Go.IntKind.wrap Go.IntKind.i64 (@HAdd.hAdd Int Int Int (@instHAdd Int @Int.instAdd) y8 (1 : Int)))) (@Int.decLt (@Go.IntKind.wrap Go.IntKind.i64 (@HAdd.hAdd Int Int Int (@instHAdd Int @Int.instAdd) y8 (1 : Int))) (@Go.IntKind.wrap Go.IntKind.i64 (@HAdd.hAdd Int Int Int (@instHAdd Int @Int.instAdd) (@Nat.cast Int instNatCastInt (@List.length UInt8 x0)) (1 : Int)))) (@Go.IntKind.wrap Go.IntKind.i64 (@HAdd.hAdd Int Int Int (@instHAdd Int @Int.instAdd) (@Nat.cast Int instNatCastInt (@List.length UInt8 x0)) (1 : Int))) (@Go.IntKind.wrap Go.IntKind.i64 (@HAdd.hAdd Int Int Int (@instHAdd Int @Int.instAdd) y8 (1 : Int)))) (@ite (@Kd.T kI) (@LT.lt (@Kd.T kI) Int.instLTInt (@Go.IntKind.wrap Go.IntKind.i64 (@HAdd.hAdd Int Int Int (@instHAdd Int @Int.instAdd) (@Nat.cast Int instNatCastInt (@List.length UInt8 x0)) (1 : Int))) (@Go.IntKind.wrap Go.IntKind.i64 (@HAdd.hAdd Int Int Int (@instHAdd Int @Int.instAdd) y8 (1 : Int)))) (@Int.decLt (@Go.IntKind.wrap Go.IntKind.i64 (@HAdd.hAdd Int Int Int (@instHAdd Int @Int.instAdd) (@Nat.cast Int instNatCastInt (@List.length UInt8 x0)) (1 : Int))) (@Go.IntKind.wrap Go.IntKind.i64 (@HAdd.hAdd Int Int Int (@instHAdd Int @Int.instAdd) y8 (1 : Int)))) (@Go.IntKind.wrap Go.IntKind.i64 (@HAdd.hAdd Int Int Int (@instHAdd Int @Int.instAdd) (@Nat.cast Int instNatCastInt (@List.length UInt8 x0)) (1 : Int))) (@Go.IntKind.wrap Go.IntKind.i64 (@HAdd.hAdd Int Int Int (@instHAdd Int @Int.instAdd) y8 (1 : Int))))) (1 : Int))) (@zeros Kd.str (@cond (@Kd.T kI) Bool.false (@ite (@Kd.T kI) (@GT.gt (@Kd.T kI) Int.instLTInt (@Go.IntKind.wrap Go.IntKind.i64 (@HAdd.hAdd Int Int Int (@instHAdd Int @Int.instAdd) (@Nat.cast Int instNatCastInt (@List.length UInt8 x0)) (1 : Int))) (@Go.IntKind.wrap Go.IntKind.i64 (@HAdd.hAdd Int Int Int (@instHAdd Int @Int.instAdd) y8 (1 : Int)))) (@Int.decLt (@Go.IntKind.wrap Go.IntKind.i64 (@HAdd.hAdd Int Int Int (@instHAdd Int @Int.instAdd) y8 (1 : Int))) (@Go.IntKind.wrap Go.IntKind.i64 (@HAdd.hAdd Int Int Int (@instHAdd Int @Int.instAdd) (@Nat.cast Int instNatCastInt (@List.length UInt8 x0)) (1 : Int)))) (@Go.IntKind.wrap Go.IntKind.i64 (@HAdd.hAdd Int Int Int (@instHAdd Int @Int.instAdd) (@Nat.cast Int instNatCastInt (@List.length UInt8 x0)) (1 : Int))) (@Go.IntKind.wrap Go.IntKind.i64 (@HAdd.hAdd Int Int Int (@instHAdd Int @Int.instAdd) y8 (1 : Int)))) (@ite (@Kd.T kI) (@LT.lt (@Kd.T kI) Int.instLTInt (@Go.IntKind.wrap Go.IntKind.i64 (@HAdd.hAdd Int Int Int (@instHAdd Int @Int.instAdd) (@Nat.cast Int instNatCastInt (@List.length UInt8 x0)) (1 : Int))) (@Go.IntKind.wrap Go.IntKind.i64 (@HAdd.hAdd Int Int Int (@instHAdd Int @Int.instAdd) y8 (1 : Int)))) (@Int.decLt (@Go.IntKind.wrap Go.IntKind.i64 (@HAdd.hAdd Int Int Int (@instHAdd Int @Int.instAdd) (@Nat.cast Int instNatCastInt (@List.length UInt8 x0)) (1 : Int))) (@Go.IntKind.wrap Go.IntKind.i64 (@HAdd.hAdd Int Int Int (@instHAdd Int @Int.instAdd) y8 (1 : Int)))) (@Go.IntKind.wrap Go.IntKind.i64 (@HAdd.hAdd Int Int Int (@instHAdd Int @Int.instAdd) (@Nat.cast Int instNatCastInt (@List.length UInt8 x0)) (1 : Int))) (@Go.IntKind.wrap Go.IntKind.i64 (@HAdd.hAdd Int Int Int (@instHAdd Int @Int.instAdd) y8 (1 : Int)))))) (0 : Int)) (@Option.none R)))) (@cond (@Option R) (@mkB (@cond (@Kd.T kI) Bool.false (@ite (@Kd.T kI) (@GT.gt (@Kd.T kI) Int.instLTInt (@Go.IntKind.wrap Go.IntKind.i64 (@HAdd.hAdd Int Int Int (@instHAdd Int @Int.instAdd) (@Nat.cast Int instNatCastInt (@List.length UInt8 x0)) (1 : Int))) x3) (@Int.decLt x3 (@Go.IntKind.wrap Go.IntKind.i64 (@HAdd.hAdd Int Int Int (@instHAdd Int @Int.instAdd) (@Nat.cast Int instNatCastInt (@List.length UInt8 x0)) (1 : Int)))) (@Go.IntKind.wrap Go.IntKind.i64 (@HAdd.hAdd Int Int Int (@instHAdd Int @Int.instAdd) (@Nat.cast Int instNatCastInt (@List.length UInt8 x0)) (1 : Int))) x3) (@ite (@Kd.T kI) (@LT.lt (@Kd.T kI) Int.instLTInt (@Go.IntKind.wrap Go.IntKind.i64 (@HAdd.hAdd Int Int Int (@instHAdd Int @Int.instAdd) (@Nat.cast Int instNatCastInt (@List.length UInt8 x0)) (1 : Int))) x3) (@Int.decLt (@Go.IntKind.wrap Go.IntKind.i64 (@HAdd.hAdd Int Int Int (@instHAdd Int @Int.instAdd) (@Nat.cast Int instNatCastInt (@List.length UInt8 x0)) (1 : Int))) x3) (@Go.IntKind.wrap Go.IntKind.i64 (@HAdd.hAdd Int Int Int (@instHAdd Int @Int.instAdd) (@Nat.cast Int instNatCastInt (@List.length UInt8 x0)) (1 : Int))) x3)) (@cond (@Kd.T kI) Bool.false (@ite (@Kd.T kI) (@GT.gt (@Kd.T kI) Int.instLTInt (@Go.IntKind.wrap Go.IntKind.i64 (@HAdd.hAdd Int Int Int (@instHAdd Int @Int.instAdd) (@Nat.cast Int instNatCastInt (@List.length UInt8 x0)) (1 : Int))) x3) (@Int.decLt x3 (@Go.IntKind.wrap Go.IntKind.i64 (@HAdd.hAdd Int Int Int (@instHAdd Int @Int.instAdd) (@Nat.cast Int instNatCastInt (@List.length UInt8 x0)) (1 : Int)))) (@Go.IntKind.wrap Go.IntKind.i64 (@HAdd.hAdd Int Int Int (@instHAdd Int @Int.instAdd) (@Nat.cast Int instNatCastInt (@List.length UInt8 x0)) (1 : Int))) x3) (@ite (@Kd.T kI) (@LT.lt (@Kd.T kI) Int.instLTInt (@Go.IntKind.wrap Go.IntKind.i64 (@HAdd.hAdd Int Int Int (@instHAdd Int @Int.instAdd) (@Nat.cast Int instNatCastInt (@List.length UInt8 x0)) (1 : Int))) x3) (@Int.decLt (@Go.IntKind.wrap Go.IntKind.i64 (@HAdd.hAdd Int Int Int (@instHAdd Int @Int.instAdd) (@Nat.cast Int instNatCastInt (@List.length UInt8 x0)) (1 : Int))) x3) (@Go.IntKind.wrap Go.IntKind.i64 (@HAdd.hAdd Int Int Int (@instHAdd Int @Int.instAdd) (@Nat.cast Int instNatCastInt (@List.length UInt8 x0)) (1 : Int))) x3)) (16 : Nat)) (E1011 x0 x1 x2 (@Go.IntKind.wrap Go.IntKind.i64 (@HSub.hSub Int Int Int (@instHSub Int @Int.instSub) (@cond (@Kd.T kI) Bool.false (@ite (@Kd.T kI) (@GT.gt (@Kd.T kI) Int.instLTInt (@Go.IntKind.wrap Go.IntKind.i64 (@HAdd.hAdd Int Int Int (@instHAdd Int @Int.instAdd) (@Nat.cast Int instNatCastInt (@List.length UInt8 x0)) (1 : Int))) x3) (@Int.decLt x3 (@Go.IntKind.wrap Go.IntKind.i64 (@HAdd.hAdd Int Int Int (@instHAdd Int @Int.instAdd) (@Nat.cast Int instNatCastInt (@List.length UInt8 x0)) (1 : Int)))) (@Go.IntKind.wrap Go.IntKind.i64 (@HAdd.hAdd Int Int Int (@instHAdd Int @Int.instAdd) (@Nat.cast Int instNatCastInt (@List.length UInt8 x0)) (1 : Int))) x3) (@ite (@Kd.T kI) (@LT.lt (@Kd.T kI) Int.instLTInt (@Go.IntKind.wrap Go.IntKind.i64 (@HAdd.hAdd Int Int Int (@instHAdd Int @Int.instAdd) (@Nat.cast Int instNatCastInt (@List.length UInt8 x0)) (1 : Int))) x3) (@Int.decLt (@Go.IntKind.wrap Go.IntKind.i64 (@HAdd.hAdd Int Int Int (@instHAdd Int @Int.instAdd) (@Nat.cast Int instNatCastInt (@List.length UInt8 x0)) (1 : Int))) x3) (@Go.IntKind.wrap Go.IntKind.i64 (@HAdd.hAdd Int Int Int (@instHAdd Int @Int.instAdd) (@Nat.cast Int instNatCastInt (@List.length UInt8 x0)) (1 : Int))) x3)) (1 : Int))) (@zeros Kd.str (@cond (@Kd.T kI) Bool.false (@ite (@Kd.T kI) (@GT.gt (@Kd.T kI) Int.instLTInt (@Go.IntKind.wrap Go.IntKind.i64 (@HAdd.hAdd Int Int Int (@instHAdd Int @Int.instAdd) (@Nat.cast Int instNatCastInt (@List.length UInt8 x0)) (1 : Int))) x3) (@Int.decLt x3 (@Go.IntKind.wrap Go.IntKind.i64 (@HAdd.hAdd Int Int Int (@instHAdd Int @Int.instAdd) (@Nat.cast Int instNatCastInt (@List.length UInt8 x0)) (1 : Int)))) (@Go.IntKind.wrap Go.IntKind.i64 (@HAdd.hAdd Int Int Int (@instHAdd Int @Int.instAdd) (@Nat.cast Int instNatCastInt (@List.length UInt8 x0)) (1 : Int))) x3) (@ite (@Kd.T kI) (@LT.lt (@Kd.T kI) Int.instLTInt (@Go.IntKind.wrap Go.IntKind.i64 (@HAdd.hAdd Int Int Int (@instHAdd Int @Int.instAdd) (@Nat.cast Int instNatCastInt (@List.length UInt8 x0)) (1 : Int))) x3) (@Int.decLt (@Go.IntKind.wrap Go.IntKind.i64 (@HAdd.hAdd Int Int Int (@instHAdd Int @Int.instAdd) (@Nat.cast Int instNatCastInt (@List.length UInt8 x0)) (1 : Int))) x3) (@Go.IntKind.wrap Go.IntKind.i64 (@HAdd.hAdd Int Int Int (@instHAdd Int @Int.instAdd) (@Nat.cast Int instNatCastInt (@List.length UInt8 x0)) (1 : Int))) x3))) (0 : Int)) (@Option.none R))))
theorem wqk1 (k : Nat) {R : Type} (I : Nat → St → Option R) (x0 : (List UInt8)) (x1 : UInt8) (x2 x3 : Int) (K : ((List (List UInt8)) → Option R)) : fnK (wqo k) k wq17 66 [.tmp 8] wq3o [.v .str x0, .v .str [x1], .v (.int .i64) x2, .v (.int .i64) x3] [] (wq2h K) = wq7a k (fun s0 s1 s2 s3 s4 s5 => iter (wqo k).pv (look (wqo k).cuts 1011) (execK (wqo k) k (at_ [1, 1, 1, 1, 1, 1, 1, 1, 0, 0, 0] wq17)) k (wq2r s0 s1 s2 s3 s4 s5) (konts (wqo k) k I [1, 1, 1, 1, 1, 1, 1, 1, 0, 0] wq17 (outK (wqo k) wq3o [.tmp 8] (wq2h K)))) x0 x1 x2 x3 K := by kernel_rfl
noncomputable def wq1w (k : Nat) {R : Type}  : Nat → (List UInt8) → UInt8 → Int → Int → (List (List UInt8)) → Int → ((List (List UInt8)) → Option R) → Option R
  | 0, _, _, _, _, _, _, _ => none
  | n + 1, s0, s1, s2, s3, s4, s5, K => wq54 k (fun s0 s1 s2 s3 s4 s5 => wq1w k  n s0 s1 s2 s3 s4 s5 K) s0 s1 s2 s3 s4 s5 K
theorem wqei (k : Nat) {R : Type} (I : Nat → St → Option R) (K : ((List (List UInt8)) → Option R)) : ∀ (n : Nat) (s0 : (List UInt8)) (s1 : UInt8) (s2 s3 : Int) (s4 : (List (List UInt8))) (s5 : Int), iter (wqo k).pv (look (wqo k).cuts 1011) (execK (wqo k) k (at_ [1, 1, 1, 1, 1, 1, 1, 1, 0, 0, 0] wq17)) n (wq2r s0 s1 s2 s3 s4 s5) (konts (wqo k) k I [1, 1, 1, 1, 1, 1, 1, 1, 0, 0] wq17 (outK (wqo k) wq3o [.tmp 8] (wq2h K))) = wq1w k  n s0 s1 s2 s3 s4 s5 K := by
  intro n
  induction n with
  | zero => intros; rfl
  | succ n ih =>
    intro s0 s1 s2 s3 s4 s5
    let I' : Nat → St → Option R := fun id s => bif Nat.beq id 1011 then iter (wqo k).pv (look (wqo k).cuts 1011) (execK (wqo k) k (at_ [1, 1, 1, 1, 1, 1, 1, 1, 0, 0, 0] wq17)) n s (konts (wqo k) k I [1, 1, 1, 1, 1, 1, 1, 1, 0, 0] wq17 (outK (wqo k) wq3o [.tmp 8] (wq2h K))) else I id s
    have e := wqeh k I' s0 s1 s2 s3 s4 s5 K
    have h1011 : (fun s0 s1 s2 s3 s4 s5 => I' 1011 (wq2r s0 s1 s2 s3 s4 s5)) = (fun s0 s1 s2 s3 s4 s5 => wq1w k  n s0 s1 s2 s3 s4 s5 K) := by funext s0 s1 s2 s3 s4 s5; exact ih s0 s1 s2 s3 s4 s5
    refine Eq.trans (?_ : _ = _) (e.trans (Eq.trans ((congrArg ((fun E1011 => wq54 k E1011 s0 s1 s2 s3 s4 s5 K)) h1011)) (by rw [wq1w])))
    rfl
noncomputable def wq7b (k : Nat) {R : Type} (x0 : (List UInt8)) (x1 : UInt8) (x2 x3 : Int) (K : ((List (List UInt8)) → Option R)) : Option R := wq7a k (fun s0 s1 s2 s3 s4 s5 => wq1w k k s0 s1 s2 s3 s4 s5 K) x0 x1 x2 x3 K
theorem wqk2 (k : Nat) {R : Type} (x0 : (List UInt8)) (x1 : UInt8) (x2 x3 : Int) (K : ((List (List UInt8)) → Option R)) : fnK (wqo k) k wq17 66 [.tmp 8] wq3o [.v .str x0, .v .str [x1], .v (.int .i64) x2, .v (.int .i64) x3] [] (wq2h K) = wq7b k x0 x1 x2 x3 K := by
  let I : Nat → St → Option R := fun _ _ => none
  have h1011 : (fun s0 s1 s2 s3 s4 s5 => iter (wqo k).pv (look (wqo k).cuts 1011) (execK (wqo k) k (at_ [1, 1, 1, 1, 1, 1, 1, 1, 0, 0, 0] wq17)) k (wq2r s0 s1 s2 s3 s4 s5) (konts (wqo k) k I [1, 1, 1, 1, 1, 1, 1, 1, 0, 0] wq17 (outK (wqo k) wq3o [.tmp 8] (wq2h K)))) = (fun s0 s1 s2 s3 s4 s5 => wq1w k k s0 s1 s2 s3 s4 s5 K) := by funext s0 s1 s2 s3 s4 s5; exact wqei k I K k s0 s1 s2 s3 s4 s5
  exact (wqk1 k I x0 x1 x2 x3 K).trans (congrArg ((fun E1011 => wq7a k E1011 x0 x1 x2 x3 K)) h1011)
noncomputable def wq91 (k : Nat) {R : Type} : List PV → List (Nm × HObj) → (Out → Option R) → Option R
  | [.v .str x0, .v .str [x1], .v (.int .i64) x2, .v (.int .i64) x3], [], K => wq7b k x0 x1 x2 x3 (fun y0 => K (.ret [.v (.sl .str) y0] []))
  | _, _, _ => none
theorem wqk3 (k : Nat) : (wqfd k).Ok Tryz.prog := (CTab.add_ok (fun h => wqub k h) (CTab.add_ok (fun h => wquc k h) CTab.nil_ok))
theorem wqov (k : Nat) {ps : List PV} {hp : List (Nm × HObj)} {R : Type} {K : Out → Option R} {r : R} (h : wq91 k ps hp K = some r) : DoesTo Tryz.prog 34 ps hp fun out => K out = some r := by
  unfold wq91 at h
  split at h
  · rw [← wqk2] at h
    have := fn_ok (P := Tryz.prog) (cx := wqo k) (f := 34) ⟨tyT_ok, wqk3 k, fun _ _ => rfl⟩ (by kernel_rfl) (fn := Tryz.f34) (c := wq17) (by kernel_rfl) (by kernel_rfl) (by kernel_rfl) (rs := [.tmp 8]) (by kernel_rfl) (by kernel_rfl) h
    exact this.mono fun out ho => by
      unfold wq2h at ho
      split at ho <;> first | exact ho | cases ho
  · cases h
end Go.Proofs.YtpfbdepoammjmaaGreatDoor.Pvm

set_option maxRecDepth 1000000
set_option maxHeartbeats 0
namespace Go.Proofs.YtpfbdepoammjmaaGreatDoor.Pvm
open Go Go.Proofs
def wqqf : List LS := [.any, .any]
noncomputable def wqke (k : Nat) : CTab := (CTab.add 34 wqm9 (wq91 k) CTab.nil)
def wqax {R : Type} (K : ((List (List UInt8)) → Option R)) : Out → Option R
  | .ret [.v (.sl .str) y0] [] => K y0
  | _ => none
def wqii : RetSpec := ⟨[.sl .str], [], []⟩
def wqow : List (Nat × CutSpec) := []
def wqnk : List (Nat × Plan) := []
noncomputable def wqdb (k : Nat) : Ctx := ⟨tyT, wqow, wqke k, [], [], wqnk, @SH⟩
noncomputable def wqay : Code := Tryz.f14.body.getD .skip
noncomputable def wqej (k : Nat) {R : Type}  (x0 : (List UInt8)) (x1 : UInt8) (K : ((List (List UInt8)) → Option R)) : Option R := (@wq7b k R x0 x1 (0 : Int) (@Neg.neg Int @Int.instNegInt (1 : Int)) (fun y5 => (K y5)))
theorem wqox (k : Nat) {R : Type} (I : Nat → St → Option R) (x0 : (List UInt8)) (x1 : UInt8) (K : ((List (List UInt8)) → Option R)) : fnK (wqdb k) k wqay 8 [.tmp 4] wqii [.v .str x0, .v .str [x1]] [] (wqax K) = wqej k  x0 x1 K := by kernel_rfl
noncomputable def wq7v (k : Nat) {R : Type} (x0 : (List UInt8)) (x1 : UInt8) (K : ((List (List UInt8)) → Option R)) : Option R := wqej k  x0 x1 K
theorem wqoy (k : Nat) {R : Type} (x0 : (List UInt8)) (x1 : UInt8) (K : ((List (List UInt8)) → Option R)) : fnK (wqdb k) k wqay 8 [.tmp 4] wqii [.v .str x0, .v .str [x1]] [] (wqax K) = wq7v k x0 x1 K := by
  exact wqox k (fun _ _ => none) x0 x1 K
noncomputable def wqc4 (k : Nat) {R : Type} : List PV → List (Nm × HObj) → (Out → Option R) → Option R
  | [.v .str x0, .v .str [x1]], [], K => wq7v k x0 x1 (fun y0 => K (.ret [.v (.sl .str) y0] []))
  | _, _, _ => none
theorem wqoz (k : Nat) : (wqke k).Ok Tryz.prog := (CTab.add_ok (fun h => wqov k h) CTab.nil_ok)
theorem wqud (k : Nat) {ps : List PV} {hp : List (Nm × HObj)} {R : Type} {K : Out → Option R} {r : R} (h : wqc4 k ps hp K = some r) : DoesTo Tryz.prog 14 ps hp fun out => K out = some r := by
  unfold wqc4 at h
  split at h
  · rw [← wqoy] at h
    have := fn_ok (P := Tryz.prog) (cx := wqdb k) (f := 14) ⟨tyT_ok, wqoz k, fun _ _ => rfl⟩ (by kernel_rfl) (fn := Tryz.f14) (c := wqay) (by kernel_rfl) (by kernel_rfl) (by kernel_rfl) (rs := [.tmp 4]) (by kernel_rfl) (by kernel_rfl) h
    exact this.mono fun out ho => by
      unfold wqax at ho
      split at ho <;> first | exact ho | cases ho
  · cases h
end Go.Proofs.YtpfbdepoammjmaaGreatDoor.Pvm

set_option maxRecDepth 1000000
set_option maxHeartbeats 0
namespace Go.Proofs.YtpfbdepoammjmaaGreatDoor.Pvm
open Go Go.Proofs
def wq10o : List LS := [.sl (.int .u8), .any]
noncomputable def wqij (k : Nat) : CTab := (CTab.add 6 wqua (wqef k) (CTab.add 7 wqpl (wqdu k) (CTab.add 9 wqka (wqb6 k) (CTab.add 14 wqqf (wqc4 k) (CTab.add 15 wqol (wqas k) (CTab.add 16 wqt2 (wqd8 k) CTab.nil))))))
def wq9u {R : Type} (K : (Bool → Option R)) : Out → Option R
  | .ret [.v .bool y0] [] => K y0
  | _ => none
def wqgu : RetSpec := ⟨[.any], [], []⟩
def wqnl : List (Nat × CutSpec) := []
def wqma : List (Nat × Plan) := []
noncomputable def wqc5 (k : Nat) : Ctx := ⟨tyT, wqnl, wqij k, [], [], wqma, @SH⟩
noncomputable def wq9v : Code := Tryz.f5.body.getD .skip
noncomputable def wqdc (k : Nat) {R : Type}  (x0 : (List Int)) (x1 : Int) (K : (Bool → Option R)) : Option R := (@cond (@Option R) (@cond (@Kd.T Kd.bool) (@cond (@Kd.T Kd.bool) (@Decidable.decide (@GT.gt Int Int.instLTInt (@Nat.cast Int instNatCastInt (@List.length (@Kd.T (@Kd.int Go.IntKind.u8)) x0)) (4000 : Int)) (@Int.decLt (4000 : Int) (@Nat.cast Int instNatCastInt (@List.length (@Kd.T (@Kd.int Go.IntKind.u8)) x0)))) Bool.true (@Decidable.decide (@LT.lt Int Int.instLTInt x1 (0 : Int)) (@Int.decLt x1 (0 : Int)))) Bool.true (@Decidable.decide (@GT.gt Int Int.instLTInt x1 (20 : Int)) (@Int.decLt (20 : Int) x1))) (@wq6z k R (fun y5 => (K y5))) (@wq7v k R (@ofBytes x0) (10 : UInt8) (fun y5 => (@cond (@Option R) (@Decidable.decide (@GT.gt Int Int.instLTInt (@Go.IntKind.wrap Go.IntKind.i64 (@HMul.hMul Int Int Int (@instHMul Int @Int.instMul) (@Nat.cast Int instNatCastInt (@List.length (@Kd.T Kd.str) y5)) x1)) (8000 : Int)) (@Int.decLt (8000 : Int) (@Go.IntKind.wrap Go.IntKind.i64 (@HMul.hMul Int Int Int (@instHMul Int @Int.instMul) (@Nat.cast Int instNatCastInt (@List.length (@Kd.T Kd.str) y5)) x1)))) (@wq6z k R (fun y6 => (K y6))) (@wq77 k R x0 (fun y6 y7 y8 => (@wq5w k R ((32 : UInt8) :: []) x1 (fun y9 => (@wq5w k R ((32 : UInt8) :: []) x1 (fun y10 => (@cond (@Option R) (@joins ((10 : UInt8) :: []) y10) (@wq79 k R y5 (@HAppend.hAppend (@List UInt8) (@List UInt8) (@List UInt8) (@instHAppendOfAppend (@List UInt8) (@List.instAppend UInt8)) ((10 : UInt8) :: []) y10) (fun y11 => (@cond (@Option R) (@joins y9 y11) (@wq77 k R (@toBytes (@HAppend.hAppend (@List UInt8) (@List UInt8) (@List UInt8) (@instHAppendOfAppend (@List UInt8) (@List.instAppend UInt8)) y9 y11)) (fun y12 y13 y14 => (@wq97 k R y6 y12 (fun y15 => (@cond (@Option R) (@BEq.beq (@Kd.T Kd.bool) (@instBEqOfDecidableEq (@Kd.T Kd.bool) @instDecidableEqBool) (@cond (@Kd.T Kd.bool) y15 (@Bool.and (@BEq.beq Int (@instBEqOfDecidableEq Int @Int.instDecidableEq) y7 y13) (@BEq.beq Int (@instBEqOfDecidableEq Int @Int.instDecidableEq) y8 y14)) Bool.false) Bool.true) (@wq6z k R (fun y16 => (K y16))) (K Bool.false)))))) (@Option.none R)))) (@Option.none R))))))))))))
theorem wqnm (k : Nat) {R : Type} (I : Nat → St → Option R) (x0 : (List Int)) (x1 : Int) (K : (Bool → Option R)) : fnK (wqc5 k) k wq9v 60 [.tmp 4] wqgu [.v (.sl (.int .u8)) x0, .v (.int .i64) x1] [] (wq9u K) = wqdc k  x0 x1 K := by kernel_rfl
noncomputable def wq70 (k : Nat) {R : Type} (x0 : (List Int)) (x1 : Int) (K : (Bool → Option R)) : Option R := wqdc k  x0 x1 K
theorem wqnn (k : Nat) {R : Type} (x0 : (List Int)) (x1 : Int) (K : (Bool → Option R)) : fnK (wqc5 k) k wq9v 60 [.tmp 4] wqgu [.v (.sl (.int .u8)) x0, .v (.int .i64) x1] [] (wq9u K) = wq70 k x0 x1 K := by
  exact wqnm k (fun _ _ => none) x0 x1 K
noncomputable def wqaz (k : Nat) {R : Type} : List PV → List (Nm × HObj) → (Out → Option R) → Option R
  | [.v (.sl (.int .u8)) x0, .v (.int .i64) x1], [], K => wq70 k x0 x1 (fun y0 => K (.ret [.v .bool y0] []))
  | _, _, _ => none
theorem wqno (k : Nat) : (wqij k).Ok Tryz.prog := (CTab.add_ok (fun h => wqxw k h) (CTab.add_ok (fun h => wquz k h) (CTab.add_ok (fun h => wqpn k h) (CTab.add_ok (fun h => wqud k h) (CTab.add_ok (fun h => wqt3 k h) (CTab.add_ok (fun h => wqwa k h) CTab.nil_ok))))))
theorem wqt4 (k : Nat) {ps : List PV} {hp : List (Nm × HObj)} {R : Type} {K : Out → Option R} {r : R} (h : wqaz k ps hp K = some r) : DoesTo Tryz.prog 5 ps hp fun out => K out = some r := by
  unfold wqaz at h
  split at h
  · rw [← wqnn] at h
    have := fn_ok (P := Tryz.prog) (cx := wqc5 k) (f := 5) ⟨tyT_ok, wqno k, fun _ _ => rfl⟩ (by kernel_rfl) (fn := Tryz.f5) (c := wq9v) (by kernel_rfl) (by kernel_rfl) (by kernel_rfl) (rs := [.tmp 4]) (by kernel_rfl) (by kernel_rfl) h
    exact this.mono fun out ho => by
      unfold wq9u at ho
      split at ho <;> first | exact ho | cases ho
  · cases h
end Go.Proofs.YtpfbdepoammjmaaGreatDoor.Pvm
