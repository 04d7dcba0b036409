/- The Go function DocParse answers true for every text, on any machine and under any order of evaluation that Go allows; with no condition besides the statement's own, the card's own ties to the pruned copy of the project included. -/
import Derived.Test.YtpfbdepoammjmaaGreatDoorChecked
import Derived.WalkKit
import Derived.WalkSpells
import Derived.WalkLawsBesides
import Derived.Lib.Builder
import Derived.Lib.AppendStr
import Derived.Lib.UnsafeStr
import Derived.Laws.Externs
import Derived.Shelf.RegionOpenPlain
import Derived.Deep.Heap
import Derived.Lib.BytesEntry
import Derived.Lib.Bytealg
import Derived.Shelf.GgClosure.StringsIndexFuncTop
import Derived.Shelf.Strings.FuncGrows
import Derived.Test.YtpfbdepoammjmaaGreatDoorDocParseM0
import Derived.Test.YtpfbdepoammjmaaGreatDoorDocParseM1
import Derived.Test.YtpfbdepoammjmaaGreatDoorDocParseM2
set_option linter.unusedVariables false
set_option linter.unusedSimpArgs false
set_option linter.unusedSectionVars false
set_option maxRecDepth 1000000
set_option maxHeartbeats 0
namespace Go.Proofs.YtpfbdepoammjmaaGreatDoor.Pvm
open Go Go.Proofs
abbrev wq3q (R : Type) : Type := (Int → Int → (List UInt8) → Int → (List (Int × (Int × (Int × ((List UInt8) × Bool))))) → (List UInt8) → Int → Option R)
abbrev wq3r (R : Type) : Type := (Int → Int → (List UInt8) → Int → (List (Int × (Int × (Int × ((List UInt8) × Bool))))) → Int → Int → Option R)
def wqpa : List LS := [.obj 1 [.any, .any, .any, .any, .own 21 97 (.pr (.int .i64) (.pr (.int .i64) (.pr (.int .i64) (.pr .str .bool))))], .any]
noncomputable def wqhr (k : Nat) : CTab := (CTab.add 40 wq9r (wq58 k) (CTab.add 124 wq6u (wq4f k) (CTab.add 177 wq8e (wq49 k) CTab.nil)))
def wq35 {R : Type} (K : wq3q R) (E : wq3r R) : Out → Option R
  | .ret [.v .str y5, .v (.int .i64) y6] [(21, .row 97 (.pr (.int .i64) (.pr (.int .i64) (.pr (.int .i64) (.pr .str .bool)))) y4), (1, .var 151 [.v (.int .i64) y0, .v (.int .i64) y1, .v .str y2, .v (.int .i64) y3, .row 21])] => K y0 y1 y2 y3 y4 y5 y6
  | .pan (.ifc 28 (.agg [.v (.int .i64) z5, .v (.int .i64) z6])) [(21, .row 97 (.pr (.int .i64) (.pr (.int .i64) (.pr (.int .i64) (.pr .str .bool)))) z4), (1, .var 151 [.v (.int .i64) z0, .v (.int .i64) z1, .v .str z2, .v (.int .i64) z3, .row 21])] => E z0 z1 z2 z3 z4 z5 z6
  | _ => none
def wq4i : RetSpec := ⟨[.any, .any], [(1, .obj 1 [.any, .any, .any, .any, .own 21 97 (.pr (.int .i64) (.pr (.int .i64) (.pr (.int .i64) (.pr .str .bool))))])], [(1, .obj 1 [.any, .any, .any, .any, .own 21 97 (.pr (.int .i64) (.pr (.int .i64) (.pr (.int .i64) (.pr .str .bool))))])]⟩
def wqn2 : List (Nat × CutSpec) := [(1003, ⟨[(0, .obj 1 [.any, .any, .any, .any, .own 21 97 (.pr (.int .i64) (.pr (.int .i64) (.pr (.int .i64) (.pr .str .bool))))]), (1, .any), (6, .obj 16 [.nps 16, .own 36 5 (.int .u8)]), (7, .any)], [(1, .obj 1 [.any, .any, .any, .any, .own 21 97 (.pr (.int .i64) (.pr (.int .i64) (.pr (.int .i64) (.pr .str .bool))))])]⟩)]
def wqky : List (Nat × Plan) := []
noncomputable def wqo (k : Nat) : Ctx := ⟨tyT, wqn2, wqhr k, [], [1], wqky, @SH⟩
noncomputable def wq1h : Code := Tryz.f160.body.getD .skip
def wq3i (s0 s1 : Int) (s2 : (List UInt8)) (s3 : Int) (s4 : (List (Int × (Int × (Int × ((List UInt8) × Bool)))))) (s5 : (List UInt8)) (s6 : (List Int)) (s7 : Int) : St := ⟨mkT [(0, .ptr 1 0), (1, .v .str s5), (6, .ptr 16 0), (7, .v (.int .i64) s7)], mkH [(21, .row 97 (.pr (.int .i64) (.pr (.int .i64) (.pr (.int .i64) (.pr .str .bool)))) s4), (1, .var 151 [.v (.int .i64) s0, .v (.int .i64) s1, .v .str s2, .v (.int .i64) s3, .row 21]), (36, .row 5 (.int .u8) s6), (16, .var 85 [.nps 16, .row 36])]⟩
noncomputable def wq4v (k : Nat) {R : Type} (E1003 : (Int → Int → (List UInt8) → Int → (List (Int × (Int × (Int × ((List UInt8) × Bool))))) → (List UInt8) → (List Int) → Int → Option R)) (s0 s1 : Int) (s2 : (List UInt8)) (s3 : Int) (s4 : (List (Int × (Int × (Int × ((List UInt8) × Bool)))))) (s5 : (List UInt8)) (s6 : (List Int)) (s7 : Int) (K : wq3q R) (E : wq3r R) : Option R := (@cond (@Option R) (@Decidable.decide (@LT.lt Int Int.instLTInt s7 (@Nat.cast Int instNatCastInt (@List.length UInt8 s5))) (@Int.decLt s7 (@Nat.cast Int instNatCastInt (@List.length UInt8 s5)))) (@cond (@Option R) (@inb s7 (@Nat.cast Int instNatCastInt (@List.length UInt8 s5))) (@cond (@Option R) (@bne Int (@instBEqOfDecidableEq Int @Int.instDecidableEq) (@Nat.cast Int instNatCastInt (@UInt8.toNat (@List.getD UInt8 s5 (@Int.toNat s7) (0 : UInt8)))) (39 : Int)) (@cond (@Option R) (@inb s7 (@Nat.cast Int instNatCastInt (@List.length UInt8 s5))) (@wq1z k R s6 (@Nat.cast Int instNatCastInt (@UInt8.toNat (@List.getD UInt8 s5 (@Int.toNat s7) (0 : UInt8)))) (fun y13 => (E1003 s0 s1 s2 s3 s4 s5 y13 (@Go.IntKind.wrap Go.IntKind.i64 (@HAdd.hAdd Int Int Int (@instHAdd Int @Int.instAdd) s7 (1 : Int)))))) (@Option.none R)) (@cond (@Option R) (@Bool.or (@Bool.not (@BEq.beq (@Kd.T Kd.bool) (@instBEqOfDecidableEq (@Kd.T Kd.bool) @instDecidableEqBool) (@Decidable.decide (@GE.ge Int Int.instLEInt (@Go.IntKind.wrap Go.IntKind.i64 (@HAdd.hAdd Int Int Int (@instHAdd Int @Int.instAdd) s7 (1 : Int))) (@Nat.cast Int instNatCastInt (@List.length UInt8 s5))) (@Int.decLe (@Nat.cast Int instNatCastInt (@List.length UInt8 s5)) (@Go.IntKind.wrap Go.IntKind.i64 (@HAdd.hAdd Int Int Int (@instHAdd Int @Int.instAdd) s7 (1 : Int))))) Bool.false)) (@inb (@Go.IntKind.wrap Go.IntKind.i64 (@HAdd.hAdd Int Int Int (@instHAdd Int @Int.instAdd) s7 (1 : Int))) (@Nat.cast Int instNatCastInt (@List.length UInt8 s5)))) (@cond (@Option R) (@cond (@Kd.T Kd.bool) (@Decidable.decide (@GE.ge Int Int.instLEInt (@Go.IntKind.wrap Go.IntKind.i64 (@HAdd.hAdd Int Int Int (@instHAdd Int @Int.instAdd) s7 (1 : Int))) (@Nat.cast Int instNatCastInt (@List.length UInt8 s5))) (@Int.decLe (@Nat.cast Int instNatCastInt (@List.length UInt8 s5)) (@Go.IntKind.wrap Go.IntKind.i64 (@HAdd.hAdd Int Int Int (@instHAdd Int @Int.instAdd) s7 (1 : Int))))) Bool.true (@bne Int (@instBEqOfDecidableEq Int @Int.instDecidableEq) (@Nat.cast Int instNatCastInt (@UInt8.toNat (@List.getD UInt8 s5 (@Int.toNat (@Go.IntKind.wrap Go.IntKind.i64 (@HAdd.hAdd Int Int Int (@instHAdd Int @Int.instAdd) s7 (1 : Int)))) (0 : UInt8)))) (39 : Int))) (@wq3g k R s6 (fun y13 y14 => (K s0 s1 s2 s3 s4 y14 (@Go.IntKind.wrap Go.IntKind.i64 (@HAdd.hAdd Int Int Int (@instHAdd Int @Int.instAdd) s7 (1 : Int)))))) (@wq1z k R s6 (39 : Int) (fun y13 => (E1003 s0 s1 s2 s3 s4 s5 y13 (@Go.IntKind.wrap Go.IntKind.i64 (@HAdd.hAdd Int Int Int (@instHAdd Int @Int.instAdd) (@Go.IntKind.wrap Go.IntKind.i64 (@HAdd.hAdd Int Int Int (@instHAdd Int @Int.instAdd) s7 (1 : Int))) (1 : Int))))))) (@Option.none R))) (@Option.none R)) (@wqc k R s0 s1 s2 s3 s4 (3 : Int) (fun y13 y14 y15 y16 y17 => (K y13 y14 y15 y16 y17 (@Array.toList UInt8 (@ByteArray.data (@ByteArray.mk (@List.toArray UInt8 [])))) (0 : Int))) (fun y13 y14 y15 y16 y17 y18 y19 => (E y13 y14 y15 y16 y17 y18 y19))))
theorem wqgk (k : Nat) {R : Type} (I : Nat → St → Option R) (s0 s1 : Int) (s2 : (List UInt8)) (s3 : Int) (s4 : (List (Int × (Int × (Int × ((List UInt8) × Bool)))))) (s5 : (List UInt8)) (s6 : (List Int)) (s7 : Int) (K : wq3q R) (E : wq3r R) : execK (wqo k) k (at_ [1, 1, 0, 1, 0, 0] wq1h) (wq3i s0 s1 s2 s3 s4 s5 s6 s7) (konts (wqo k) k I [1, 1, 0, 1, 0, 0] wq1h (outK (wqo k) wq4i [.tmp 4, .tmp 5] (wq35 K E))) = wq4v k (fun s0 s1 s2 s3 s4 s5 s6 s7 => I 1003 (wq3i s0 s1 s2 s3 s4 s5 s6 s7)) s0 s1 s2 s3 s4 s5 s6 s7 K E := by kernel_rfl
noncomputable def wq93 (k : Nat) {R : Type} (E1003 : (Int → Int → (List UInt8) → Int → (List (Int × (Int × (Int × ((List UInt8) × Bool))))) → (List UInt8) → (List Int) → Int → Option R)) (x0 x1 : Int) (x2 : (List UInt8)) (x3 : Int) (x4 : (List (Int × (Int × (Int × ((List UInt8) × Bool)))))) (x5 : (List UInt8)) (K : wq3q R) (E : wq3r R) : Option R := (E1003 x0 x1 x2 x3 x4 x5 [] (1 : Int))
theorem wqn3 (k : Nat) {R : Type} (I : Nat → St → Option R) (x0 x1 : Int) (x2 : (List UInt8)) (x3 : Int) (x4 : (List (Int × (Int × (Int × ((List UInt8) × Bool)))))) (x5 : (List UInt8)) (K : wq3q R) (E : wq3r R) : fnK (wqo k) k wq1h 42 [.tmp 4, .tmp 5] wq4i [.ptr 1 0, .v .str x5] [(21, .row 97 (.pr (.int .i64) (.pr (.int .i64) (.pr (.int .i64) (.pr .str .bool)))) x4), (1, .var 151 [.v (.int .i64) x0, .v (.int .i64) x1, .v .str x2, .v (.int .i64) x3, .row 21])] (wq35 K E) = wq93 k (fun s0 s1 s2 s3 s4 s5 s6 s7 => iter (wqo k).pv (look (wqo k).cuts 1003) (execK (wqo k) k (at_ [1, 1, 0, 1, 0, 0] wq1h)) k (wq3i s0 s1 s2 s3 s4 s5 s6 s7) (konts (wqo k) k I [1, 1, 0, 1, 0] wq1h (outK (wqo k) wq4i [.tmp 4, .tmp 5] (wq35 K E)))) x0 x1 x2 x3 x4 x5 K E := by kernel_rfl
noncomputable def wq26 (k : Nat) {R : Type}  : Nat → Int → Int → (List UInt8) → Int → (List (Int × (Int × (Int × ((List UInt8) × Bool))))) → (List UInt8) → (List Int) → Int → (Int → Int → (List UInt8) → Int → (List (Int × (Int × (Int × ((List UInt8) × Bool))))) → (List UInt8) → Int → Option R) → (Int → Int → (List UInt8) → Int → (List (Int × (Int × (Int × ((List UInt8) × Bool))))) → Int → Int → Option R) → Option R
  | 0, _, _, _, _, _, _, _, _, _, _ => none
  | n + 1, s0, s1, s2, s3, s4, s5, s6, s7, K, E => wq4v k (fun s0 s1 s2 s3 s4 s5 s6 s7 => wq26 k  n s0 s1 s2 s3 s4 s5 s6 s7 K E) s0 s1 s2 s3 s4 s5 s6 s7 K E
theorem wqgl (k : Nat) {R : Type} (I : Nat → St → Option R) (K : wq3q R) (E : wq3r R) : ∀ (n : Nat) (s0 s1 : Int) (s2 : (List UInt8)) (s3 : Int) (s4 : (List (Int × (Int × (Int × ((List UInt8) × Bool)))))) (s5 : (List UInt8)) (s6 : (List Int)) (s7 : Int), iter (wqo k).pv (look (wqo k).cuts 1003) (execK (wqo k) k (at_ [1, 1, 0, 1, 0, 0] wq1h)) n (wq3i s0 s1 s2 s3 s4 s5 s6 s7) (konts (wqo k) k I [1, 1, 0, 1, 0] wq1h (outK (wqo k) wq4i [.tmp 4, .tmp 5] (wq35 K E))) = wq26 k  n s0 s1 s2 s3 s4 s5 s6 s7 K E := by
  intro n
  induction n with
  | zero => intros; rfl
  | succ n ih =>
    intro s0 s1 s2 s3 s4 s5 s6 s7
    let I' : Nat → St → Option R := fun id s => bif Nat.beq id 1003 then iter (wqo k).pv (look (wqo k).cuts 1003) (execK (wqo k) k (at_ [1, 1, 0, 1, 0, 0] wq1h)) n s (konts (wqo k) k I [1, 1, 0, 1, 0] wq1h (outK (wqo k) wq4i [.tmp 4, .tmp 5] (wq35 K E))) else I id s
    have e := wqgk k I' s0 s1 s2 s3 s4 s5 s6 s7 K E
    have h1003 : (fun s0 s1 s2 s3 s4 s5 s6 s7 => I' 1003 (wq3i s0 s1 s2 s3 s4 s5 s6 s7)) = (fun s0 s1 s2 s3 s4 s5 s6 s7 => wq26 k  n s0 s1 s2 s3 s4 s5 s6 s7 K E) := by funext s0 s1 s2 s3 s4 s5 s6 s7; exact ih s0 s1 s2 s3 s4 s5 s6 s7
    refine Eq.trans (?_ : _ = _) (e.trans (Eq.trans ((congrArg ((fun E1003 => wq4v k E1003 s0 s1 s2 s3 s4 s5 s6 s7 K E)) h1003)) (by rw [wq26])))
    rfl
noncomputable def wq7d (k : Nat) {R : Type} (x0 x1 : Int) (x2 : (List UInt8)) (x3 : Int) (x4 : (List (Int × (Int × (Int × ((List UInt8) × Bool)))))) (x5 : (List UInt8)) (K : wq3q R) (E : wq3r R) : Option R := wq93 k (fun s0 s1 s2 s3 s4 s5 s6 s7 => wq26 k k s0 s1 s2 s3 s4 s5 s6 s7 K E) x0 x1 x2 x3 x4 x5 K E
theorem wqn4 (k : Nat) {R : Type} (x0 x1 : Int) (x2 : (List UInt8)) (x3 : Int) (x4 : (List (Int × (Int × (Int × ((List UInt8) × Bool)))))) (x5 : (List UInt8)) (K : wq3q R) (E : wq3r R) : fnK (wqo k) k wq1h 42 [.tmp 4, .tmp 5] wq4i [.ptr 1 0, .v .str x5] [(21, .row 97 (.pr (.int .i64) (.pr (.int .i64) (.pr (.int .i64) (.pr .str .bool)))) x4), (1, .var 151 [.v (.int .i64) x0, .v (.int .i64) x1, .v .str x2, .v (.int .i64) x3, .row 21])] (wq35 K E) = wq7d k x0 x1 x2 x3 x4 x5 K E := by
  let I : Nat → St → Option R := fun _ _ => none
  have h1003 : (fun s0 s1 s2 s3 s4 s5 s6 s7 => iter (wqo k).pv (look (wqo k).cuts 1003) (execK (wqo k) k (at_ [1, 1, 0, 1, 0, 0] wq1h)) k (wq3i s0 s1 s2 s3 s4 s5 s6 s7) (konts (wqo k) k I [1, 1, 0, 1, 0] wq1h (outK (wqo k) wq4i [.tmp 4, .tmp 5] (wq35 K E)))) = (fun s0 s1 s2 s3 s4 s5 s6 s7 => wq26 k k s0 s1 s2 s3 s4 s5 s6 s7 K E) := by funext s0 s1 s2 s3 s4 s5 s6 s7; exact wqgl k I K E k s0 s1 s2 s3 s4 s5 s6 s7
  exact (wqn3 k I x0 x1 x2 x3 x4 x5 K E).trans (congrArg ((fun E1003 => wq93 k E1003 x0 x1 x2 x3 x4 x5 K E)) h1003)
noncomputable def wqao (k : Nat) {R : Type} : List PV → List (Nm × HObj) → (Out → Option R) → Option R
  | [.ptr 1 0, .v .str x5], [(21, .row 97 (.pr (.int .i64) (.pr (.int .i64) (.pr (.int .i64) (.pr .str .bool)))) x4), (1, .var 151 [.v (.int .i64) x0, .v (.int .i64) x1, .v .str x2, .v (.int .i64) x3, .row 21])], K => wq7d k x0 x1 x2 x3 x4 x5 (fun y0 y1 y2 y3 y4 y5 y6 => K (.ret [.v .str y5, .v (.int .i64) y6] [(21, .row 97 (.pr (.int .i64) (.pr (.int .i64) (.pr (.int .i64) (.pr .str .bool)))) y4), (1, .var 151 [.v (.int .i64) y0, .v (.int .i64) y1, .v .str y2, .v (.int .i64) y3, .row 21])])) (fun z0 z1 z2 z3 z4 z5 z6 => K (.pan (.ifc 28 (.agg [.v (.int .i64) z5, .v (.int .i64) z6])) [(21, .row 97 (.pr (.int .i64) (.pr (.int .i64) (.pr (.int .i64) (.pr .str .bool)))) z4), (1, .var 151 [.v (.int .i64) z0, .v (.int .i64) z1, .v .str z2, .v (.int .i64) z3, .row 21])]))
  | _, _, _ => none
theorem wqn5 (k : Nat) : (wqhr k).Ok Tryz.prog := (CTab.add_ok (fun h => wqbi k h) (CTab.add_ok (fun h => wq81 k h) (CTab.add_ok (fun h => wq9a k h) CTab.nil_ok)))
theorem wqs3 (k : Nat) {ps : List PV} {hp : List (Nm × HObj)} {R : Type} {K : Out → Option R} {r : R} (h : wqao k ps hp K = some r) : DoesTo Tryz.prog 160 ps hp fun out => K out = some r := by
  unfold wqao at h
  split at h
  · rw [← wqn4] at h
    have := fn_ok (P := Tryz.prog) (cx := wqo k) (f := 160) ⟨tyT_ok, wqn5 k, fun _ _ => rfl⟩ (by kernel_rfl) (fn := Tryz.f160) (c := wq1h) (by kernel_rfl) (by kernel_rfl) (by kernel_rfl) (rs := [.tmp 4, .tmp 5]) (by kernel_rfl) (by kernel_rfl) h
    exact this.mono fun out ho => by
      unfold wq35 at ho
      split at ho <;> first | exact ho | cases ho
  · cases h
end Go.Proofs.YtpfbdepoammjmaaGreatDoor.Pvm

set_option maxRecDepth 1000000
set_option maxHeartbeats 0
namespace Go.Proofs.YtpfbdepoammjmaaGreatDoor.Pvm
open Go Go.Proofs
def wqs4 : List LS := [.obj 1 [.any, .any, .any, .any, .own 21 97 (.pr (.int .i64) (.pr (.int .i64) (.pr (.int .i64) (.pr .str .bool))))], .any]
noncomputable def wqkz (k : Nat) : CTab := (CTab.add 124 wq6u (wq4f k) (CTab.add 126 wqvs (wqi7 k) (CTab.add 127 wqfx (wq8d k) (CTab.add 128 wq10a (wqma k) (CTab.add 160 wqpa (wqao k) (CTab.add 161 wqp9 (wqan k) (CTab.add 162 wqe0 (wq77 k) CTab.nil)))))))
def wqbk {R : Type} (K : (Int → Int → (List UInt8) → Int → (List (Int × (Int × (Int × ((List UInt8) × Bool))))) → Option R)) (E : (Int → Int → (List UInt8) → Int → (List (Int × (Int × (Int × ((List UInt8) × Bool))))) → Int → Int → Option R)) : Out → Option R
  | .ret [] [(21, .row 97 (.pr (.int .i64) (.pr (.int .i64) (.pr (.int .i64) (.pr .str .bool)))) y4), (1, .var 151 [.v (.int .i64) y0, .v (.int .i64) y1, .v .str y2, .v (.int .i64) y3, .row 21])] => K y0 y1 y2 y3 y4
  | .pan (.ifc 28 (.agg [.v (.int .i64) z5, .v (.int .i64) z6])) [(21, .row 97 (.pr (.int .i64) (.pr (.int .i64) (.pr (.int .i64) (.pr .str .bool)))) z4), (1, .var 151 [.v (.int .i64) z0, .v (.int .i64) z1, .v .str z2, .v (.int .i64) z3, .row 21])] => E z0 z1 z2 z3 z4 z5 z6
  | _ => none
def wqjh : RetSpec := ⟨[], [(1, .obj 1 [.any, .any, .any, .any, .own 21 97 (.pr (.int .i64) (.pr (.int .i64) (.pr (.int .i64) (.pr .str .bool))))])], [(1, .obj 1 [.any, .any, .any, .any, .own 21 97 (.pr (.int .i64) (.pr (.int .i64) (.pr (.int .i64) (.pr .str .bool))))])]⟩
def wqqm : List (Nat × CutSpec) := []
def wqpb : List (Nat × Plan) := []
noncomputable def wqds (k : Nat) : Ctx := ⟨tyT, wqqm, wqkz k, [], [1], wqpb, @SH⟩
noncomputable def wqbl : Code := Tryz.f129.body.getD .skip
noncomputable def wqet (k : Nat) {R : Type}  (x0 x1 : Int) (x2 : (List UInt8)) (x3 : Int) (x4 : (List (Int × (Int × (Int × ((List UInt8) × Bool)))))) (x5 : (List UInt8)) (K : (Int → Int → (List UInt8) → Int → (List (Int × (Int × (Int × ((List UInt8) × Bool))))) → Option R)) (E : (Int → Int → (List UInt8) → Int → (List (Int × (Int × (Int × ((List UInt8) × Bool))))) → Int → Int → Option R)) : Option R := (@cond (@Option R) (@inb (0 : Int) (@Nat.cast Int instNatCastInt (@List.length UInt8 x5))) (@cond (@Option R) (@BEq.beq Int (@instBEqOfDecidableEq Int @Int.instDecidableEq) (@Nat.cast Int instNatCastInt (@UInt8.toNat (@List.getD UInt8 x5 (@Int.toNat (0 : Int)) (0 : UInt8)))) (39 : Int)) (@wq7d k R x0 x1 x2 x3 x4 x5 (fun y10 y11 y12 y13 y14 y15 y16 => (@cond (@Option R) (@bne Int (@instBEqOfDecidableEq Int @Int.instDecidableEq) y16 (@Nat.cast Int instNatCastInt (@List.length UInt8 x5))) (@wqc k R y10 y11 y12 y13 y14 (3 : Int) (fun y17 y18 y19 y20 y21 => (@cond (@Option R) (@Decidable.decide (@GT.gt Int Int.instLTInt (@Nat.cast Int instNatCastInt (@List.length UInt8 y15)) (200 : Int)) (@Int.decLt (200 : Int) (@Nat.cast Int instNatCastInt (@List.length UInt8 y15)))) (@wqc k R y17 y18 y19 y20 y21 (4 : Int) (fun y22 y23 y24 y25 y26 => (@wqh k R y22 y23 y24 y25 y26 (3 : Int) y15 Bool.true y16 (fun y27 y28 y29 y30 y31 => (K y27 y28 y29 y30 y31)))) (fun y22 y23 y24 y25 y26 y27 y28 => (E y22 y23 y24 y25 y26 y27 y28))) (@wqh k R y17 y18 y19 y20 y21 (3 : Int) y15 Bool.true y16 (fun y22 y23 y24 y25 y26 => (K y22 y23 y24 y25 y26))))) (fun y17 y18 y19 y20 y21 y22 y23 => (E y17 y18 y19 y20 y21 y22 y23))) (@cond (@Option R) (@Decidable.decide (@GT.gt Int Int.instLTInt (@Nat.cast Int instNatCastInt (@List.length UInt8 y15)) (200 : Int)) (@Int.decLt (200 : Int) (@Nat.cast Int instNatCastInt (@List.length UInt8 y15)))) (@wqc k R y10 y11 y12 y13 y14 (4 : Int) (fun y17 y18 y19 y20 y21 => (@wqh k R y17 y18 y19 y20 y21 (3 : Int) y15 Bool.true y16 (fun y22 y23 y24 y25 y26 => (K y22 y23 y24 y25 y26)))) (fun y17 y18 y19 y20 y21 y22 y23 => (E y17 y18 y19 y20 y21 y22 y23))) (@wqh k R y10 y11 y12 y13 y14 (3 : Int) y15 Bool.true y16 (fun y17 y18 y19 y20 y21 => (K y17 y18 y19 y20 y21)))))) (fun y10 y11 y12 y13 y14 y15 y16 => (E y10 y11 y12 y13 y14 y15 y16))) (@cond (@Option R) (@BEq.beq Int (@instBEqOfDecidableEq Int @Int.instDecidableEq) (@Nat.cast Int instNatCastInt (@UInt8.toNat (@List.getD UInt8 x5 (@Int.toNat (0 : Int)) (0 : UInt8)))) (34 : Int)) (@wq7c k R x0 x1 x2 x3 x4 x5 (fun y10 y11 y12 y13 y14 y15 y16 => (@cond (@Option R) (@bne Int (@instBEqOfDecidableEq Int @Int.instDecidableEq) y16 (@Nat.cast Int instNatCastInt (@List.length UInt8 x5))) (@wqc k R y10 y11 y12 y13 y14 (3 : Int) (fun y17 y18 y19 y20 y21 => (@cond (@Option R) (@Decidable.decide (@GT.gt Int Int.instLTInt (@Nat.cast Int instNatCastInt (@List.length UInt8 y15)) (200 : Int)) (@Int.decLt (200 : Int) (@Nat.cast Int instNatCastInt (@List.length UInt8 y15)))) (@wqc k R y17 y18 y19 y20 y21 (4 : Int) (fun y22 y23 y24 y25 y26 => (@wqh k R y22 y23 y24 y25 y26 (3 : Int) y15 Bool.true y16 (fun y27 y28 y29 y30 y31 => (K y27 y28 y29 y30 y31)))) (fun y22 y23 y24 y25 y26 y27 y28 => (E y22 y23 y24 y25 y26 y27 y28))) (@wqh k R y17 y18 y19 y20 y21 (3 : Int) y15 Bool.true y16 (fun y22 y23 y24 y25 y26 => (K y22 y23 y24 y25 y26))))) (fun y17 y18 y19 y20 y21 y22 y23 => (E y17 y18 y19 y20 y21 y22 y23))) (@cond (@Option R) (@Decidable.decide (@GT.gt Int Int.instLTInt (@Nat.cast Int instNatCastInt (@List.length UInt8 y15)) (200 : Int)) (@Int.decLt (200 : Int) (@Nat.cast Int instNatCastInt (@List.length UInt8 y15)))) (@wqc k R y10 y11 y12 y13 y14 (4 : Int) (fun y17 y18 y19 y20 y21 => (@wqh k R y17 y18 y19 y20 y21 (3 : Int) y15 Bool.true y16 (fun y22 y23 y24 y25 y26 => (K y22 y23 y24 y25 y26)))) (fun y17 y18 y19 y20 y21 y22 y23 => (E y17 y18 y19 y20 y21 y22 y23))) (@wqh k R y10 y11 y12 y13 y14 (3 : Int) y15 Bool.true y16 (fun y17 y18 y19 y20 y21 => (K y17 y18 y19 y20 y21)))))) (fun y10 y11 y12 y13 y14 y15 y16 => (E y10 y11 y12 y13 y14 y15 y16))) (@cond (@Option R) (@inb (0 : Int) (@Nat.cast Int instNatCastInt (@List.length UInt8 x5))) (@wq24 k R (@Array.toList UInt8 (@ByteArray.data (@ByteArray.mk (@List.toArray UInt8 ((91 : UInt8) :: ((93 : UInt8) :: ((123 : UInt8) :: ((125 : UInt8) :: ((38 : UInt8) :: ((42 : UInt8) :: ((33 : UInt8) :: ((124 : UInt8) :: ((62 : UInt8) :: ((37 : UInt8) :: ((64 : UInt8) :: ((44 : UInt8) :: ((63 : UInt8) :: ((96 : UInt8) :: [])))))))))))))))))) (@Nat.cast Int instNatCastInt (@UInt8.toNat (@List.getD UInt8 x5 (@Int.toNat (0 : Int)) (0 : UInt8)))) (fun y10 => (@cond (@Option R) (@BEq.beq (@Kd.T Kd.bool) (@instBEqOfDecidableEq (@Kd.T Kd.bool) @instDecidableEqBool) (@Decidable.decide (@GE.ge Int Int.instLEInt y10 (0 : Int)) (@Int.decLe (0 : Int) y10)) Bool.false) (@wqhi k R x5 (fun y11 => (@cond (@Option R) (@BEq.beq (@Kd.T Kd.bool) (@instBEqOfDecidableEq (@Kd.T Kd.bool) @instDecidableEqBool) y11 Bool.false) (@wqid k R x5 (fun y12 => (@cond (@Option R) (@Bool.not (@BEq.beq (@List UInt8) (@List.instBEq UInt8 (@instBEqOfDecidableEq UInt8 @instDecidableEqUInt8)) y12 (@Array.toList UInt8 (@ByteArray.data (@ByteArray.mk (@List.toArray UInt8 [])))))) (@wqc k R x0 x1 x2 x3 x4 (4 : Int) (fun y13 y14 y15 y16 y17 => (@cond (@Option R) (@bne Int (@instBEqOfDecidableEq Int @Int.instDecidableEq) (@Nat.cast Int instNatCastInt (@List.length UInt8 x5)) (@Nat.cast Int instNatCastInt (@List.length UInt8 x5))) (@wqc k R y13 y14 y15 y16 y17 (3 : Int) (fun y18 y19 y20 y21 y22 => (@cond (@Option R) (@Decidable.decide (@GT.gt Int Int.instLTInt (@Nat.cast Int instNatCastInt (@List.length UInt8 x5)) (200 : Int)) (@Int.decLt (200 : Int) (@Nat.cast Int instNatCastInt (@List.length UInt8 x5)))) (@wqc k R y18 y19 y20 y21 y22 (4 : Int) (fun y23 y24 y25 y26 y27 => (@wqh k R y23 y24 y25 y26 y27 (3 : Int) x5 Bool.false (@Nat.cast Int instNatCastInt (@List.length UInt8 x5)) (fun y28 y29 y30 y31 y32 => (K y28 y29 y30 y31 y32)))) (fun y23 y24 y25 y26 y27 y28 y29 => (E y23 y24 y25 y26 y27 y28 y29))) (@wqh k R y18 y19 y20 y21 y22 (3 : Int) x5 Bool.false (@Nat.cast Int instNatCastInt (@List.length UInt8 x5)) (fun y23 y24 y25 y26 y27 => (K y23 y24 y25 y26 y27))))) (fun y18 y19 y20 y21 y22 y23 y24 => (E y18 y19 y20 y21 y22 y23 y24))) (@cond (@Option R) (@Decidable.decide (@GT.gt Int Int.instLTInt (@Nat.cast Int instNatCastInt (@List.length UInt8 x5)) (200 : Int)) (@Int.decLt (200 : Int) (@Nat.cast Int instNatCastInt (@List.length UInt8 x5)))) (@wqc k R y13 y14 y15 y16 y17 (4 : Int) (fun y18 y19 y20 y21 y22 => (@wqh k R y18 y19 y20 y21 y22 (3 : Int) x5 Bool.false (@Nat.cast Int instNatCastInt (@List.length UInt8 x5)) (fun y23 y24 y25 y26 y27 => (K y23 y24 y25 y26 y27)))) (fun y18 y19 y20 y21 y22 y23 y24 => (E y18 y19 y20 y21 y22 y23 y24))) (@wqh k R y13 y14 y15 y16 y17 (3 : Int) x5 Bool.false (@Nat.cast Int instNatCastInt (@List.length UInt8 x5)) (fun y18 y19 y20 y21 y22 => (K y18 y19 y20 y21 y22)))))) (fun y13 y14 y15 y16 y17 y18 y19 => (E y13 y14 y15 y16 y17 y18 y19))) (@cond (@Option R) (@bne Int (@instBEqOfDecidableEq Int @Int.instDecidableEq) (@Nat.cast Int instNatCastInt (@List.length UInt8 x5)) (@Nat.cast Int instNatCastInt (@List.length UInt8 x5))) (@wqc k R x0 x1 x2 x3 x4 (3 : Int) (fun y13 y14 y15 y16 y17 => (@cond (@Option R) (@Decidable.decide (@GT.gt Int Int.instLTInt (@Nat.cast Int instNatCastInt (@List.length UInt8 x5)) (200 : Int)) (@Int.decLt (200 : Int) (@Nat.cast Int instNatCastInt (@List.length UInt8 x5)))) (@wqc k R y13 y14 y15 y16 y17 (4 : Int) (fun y18 y19 y20 y21 y22 => (@wqh k R y18 y19 y20 y21 y22 (3 : Int) x5 Bool.false (@Nat.cast Int instNatCastInt (@List.length UInt8 x5)) (fun y23 y24 y25 y26 y27 => (K y23 y24 y25 y26 y27)))) (fun y18 y19 y20 y21 y22 y23 y24 => (E y18 y19 y20 y21 y22 y23 y24))) (@wqh k R y13 y14 y15 y16 y17 (3 : Int) x5 Bool.false (@Nat.cast Int instNatCastInt (@List.length UInt8 x5)) (fun y18 y19 y20 y21 y22 => (K y18 y19 y20 y21 y22))))) (fun y13 y14 y15 y16 y17 y18 y19 => (E y13 y14 y15 y16 y17 y18 y19))) (@cond (@Option R) (@Decidable.decide (@GT.gt Int Int.instLTInt (@Nat.cast Int instNatCastInt (@List.length UInt8 x5)) (200 : Int)) (@Int.decLt (200 : Int) (@Nat.cast Int instNatCastInt (@List.length UInt8 x5)))) (@wqc k R x0 x1 x2 x3 x4 (4 : Int) (fun y13 y14 y15 y16 y17 => (@wqh k R y13 y14 y15 y16 y17 (3 : Int) x5 Bool.false (@Nat.cast Int instNatCastInt (@List.length UInt8 x5)) (fun y18 y19 y20 y21 y22 => (K y18 y19 y20 y21 y22)))) (fun y13 y14 y15 y16 y17 y18 y19 => (E y13 y14 y15 y16 y17 y18 y19))) (@wqh k R x0 x1 x2 x3 x4 (3 : Int) x5 Bool.false (@Nat.cast Int instNatCastInt (@List.length UInt8 x5)) (fun y13 y14 y15 y16 y17 => (K y13 y14 y15 y16 y17)))))))) (@wqc k R x0 x1 x2 x3 x4 (4 : Int) (fun y12 y13 y14 y15 y16 => (@cond (@Option R) (@bne Int (@instBEqOfDecidableEq Int @Int.instDecidableEq) (@Nat.cast Int instNatCastInt (@List.length UInt8 x5)) (@Nat.cast Int instNatCastInt (@List.length UInt8 x5))) (@wqc k R y12 y13 y14 y15 y16 (3 : Int) (fun y17 y18 y19 y20 y21 => (@cond (@Option R) (@Decidable.decide (@GT.gt Int Int.instLTInt (@Nat.cast Int instNatCastInt (@List.length UInt8 x5)) (200 : Int)) (@Int.decLt (200 : Int) (@Nat.cast Int instNatCastInt (@List.length UInt8 x5)))) (@wqc k R y17 y18 y19 y20 y21 (4 : Int) (fun y22 y23 y24 y25 y26 => (@wqh k R y22 y23 y24 y25 y26 (3 : Int) x5 Bool.false (@Nat.cast Int instNatCastInt (@List.length UInt8 x5)) (fun y27 y28 y29 y30 y31 => (K y27 y28 y29 y30 y31)))) (fun y22 y23 y24 y25 y26 y27 y28 => (E y22 y23 y24 y25 y26 y27 y28))) (@wqh k R y17 y18 y19 y20 y21 (3 : Int) x5 Bool.false (@Nat.cast Int instNatCastInt (@List.length UInt8 x5)) (fun y22 y23 y24 y25 y26 => (K y22 y23 y24 y25 y26))))) (fun y17 y18 y19 y20 y21 y22 y23 => (E y17 y18 y19 y20 y21 y22 y23))) (@cond (@Option R) (@Decidable.decide (@GT.gt Int Int.instLTInt (@Nat.cast Int instNatCastInt (@List.length UInt8 x5)) (200 : Int)) (@Int.decLt (200 : Int) (@Nat.cast Int instNatCastInt (@List.length UInt8 x5)))) (@wqc k R y12 y13 y14 y15 y16 (4 : Int) (fun y17 y18 y19 y20 y21 => (@wqh k R y17 y18 y19 y20 y21 (3 : Int) x5 Bool.false (@Nat.cast Int instNatCastInt (@List.length UInt8 x5)) (fun y22 y23 y24 y25 y26 => (K y22 y23 y24 y25 y26)))) (fun y17 y18 y19 y20 y21 y22 y23 => (E y17 y18 y19 y20 y21 y22 y23))) (@wqh k R y12 y13 y14 y15 y16 (3 : Int) x5 Bool.false (@Nat.cast Int instNatCastInt (@List.length UInt8 x5)) (fun y17 y18 y19 y20 y21 => (K y17 y18 y19 y20 y21)))))) (fun y12 y13 y14 y15 y16 y17 y18 => (E y12 y13 y14 y15 y16 y17 y18)))))) (@wqc k R x0 x1 x2 x3 x4 (4 : Int) (fun y11 y12 y13 y14 y15 => (@cond (@Option R) (@bne Int (@instBEqOfDecidableEq Int @Int.instDecidableEq) (@Nat.cast Int instNatCastInt (@List.length UInt8 x5)) (@Nat.cast Int instNatCastInt (@List.length UInt8 x5))) (@wqc k R y11 y12 y13 y14 y15 (3 : Int) (fun y16 y17 y18 y19 y20 => (@cond (@Option R) (@Decidable.decide (@GT.gt Int Int.instLTInt (@Nat.cast Int instNatCastInt (@List.length UInt8 x5)) (200 : Int)) (@Int.decLt (200 : Int) (@Nat.cast Int instNatCastInt (@List.length UInt8 x5)))) (@wqc k R y16 y17 y18 y19 y20 (4 : Int) (fun y21 y22 y23 y24 y25 => (@wqh k R y21 y22 y23 y24 y25 (3 : Int) x5 Bool.false (@Nat.cast Int instNatCastInt (@List.length UInt8 x5)) (fun y26 y27 y28 y29 y30 => (K y26 y27 y28 y29 y30)))) (fun y21 y22 y23 y24 y25 y26 y27 => (E y21 y22 y23 y24 y25 y26 y27))) (@wqh k R y16 y17 y18 y19 y20 (3 : Int) x5 Bool.false (@Nat.cast Int instNatCastInt (@List.length UInt8 x5)) (fun y21 y22 y23 y24 y25 => (K y21 y22 y23 y24 y25))))) (fun y16 y17 y18 y19 y20 y21 y22 => (E y16 y17 y18 y19 y20 y21 y22))) (@cond (@Option R) (@Decidable.decide (@GT.gt Int Int.instLTInt (@Nat.cast Int instNatCastInt (@List.length UInt8 x5)) (200 : Int)) (@Int.decLt (200 : Int) (@Nat.cast Int instNatCastInt (@List.length UInt8 x5)))) (@wqc k R y11 y12 y13 y14 y15 (4 : Int) (fun y16 y17 y18 y19 y20 => (@wqh k R y16 y17 y18 y19 y20 (3 : Int) x5 Bool.false (@Nat.cast Int instNatCastInt (@List.length UInt8 x5)) (fun y21 y22 y23 y24 y25 => (K y21 y22 y23 y24 y25)))) (fun y16 y17 y18 y19 y20 y21 y22 => (E y16 y17 y18 y19 y20 y21 y22))) (@wqh k R y11 y12 y13 y14 y15 (3 : Int) x5 Bool.false (@Nat.cast Int instNatCastInt (@List.length UInt8 x5)) (fun y16 y17 y18 y19 y20 => (K y16 y17 y18 y19 y20)))))) (fun y11 y12 y13 y14 y15 y16 y17 => (E y11 y12 y13 y14 y15 y16 y17)))))) (@Option.none R)))) (@Option.none R))
theorem wqqn (k : Nat) {R : Type} (I : Nat → St → Option R) (x0 x1 : Int) (x2 : (List UInt8)) (x3 : Int) (x4 : (List (Int × (Int × (Int × ((List UInt8) × Bool)))))) (x5 : (List UInt8)) (K : (Int → Int → (List UInt8) → Int → (List (Int × (Int × (Int × ((List UInt8) × Bool))))) → Option R)) (E : (Int → Int → (List UInt8) → Int → (List (Int × (Int × (Int × ((List UInt8) × Bool))))) → Int → Int → Option R)) : fnK (wqds k) k wqbl 59 [] wqjh [.ptr 1 0, .v .str x5] [(21, .row 97 (.pr (.int .i64) (.pr (.int .i64) (.pr (.int .i64) (.pr .str .bool)))) x4), (1, .var 151 [.v (.int .i64) x0, .v (.int .i64) x1, .v .str x2, .v (.int .i64) x3, .row 21])] (wqbk K E) = wqet k  x0 x1 x2 x3 x4 x5 K E := by kernel_rfl
noncomputable def wq59 (k : Nat) {R : Type} (x0 x1 : Int) (x2 : (List UInt8)) (x3 : Int) (x4 : (List (Int × (Int × (Int × ((List UInt8) × Bool)))))) (x5 : (List UInt8)) (K : (Int → Int → (List UInt8) → Int → (List (Int × (Int × (Int × ((List UInt8) × Bool))))) → Option R)) (E : (Int → Int → (List UInt8) → Int → (List (Int × (Int × (Int × ((List UInt8) × Bool))))) → Int → Int → Option R)) : Option R := wqet k  x0 x1 x2 x3 x4 x5 K E
theorem wqqo (k : Nat) {R : Type} (x0 x1 : Int) (x2 : (List UInt8)) (x3 : Int) (x4 : (List (Int × (Int × (Int × ((List UInt8) × Bool)))))) (x5 : (List UInt8)) (K : (Int → Int → (List UInt8) → Int → (List (Int × (Int × (Int × ((List UInt8) × Bool))))) → Option R)) (E : (Int → Int → (List UInt8) → Int → (List (Int × (Int × (Int × ((List UInt8) × Bool))))) → Int → Int → Option R)) : fnK (wqds k) k wqbl 59 [] wqjh [.ptr 1 0, .v .str x5] [(21, .row 97 (.pr (.int .i64) (.pr (.int .i64) (.pr (.int .i64) (.pr .str .bool)))) x4), (1, .var 151 [.v (.int .i64) x0, .v (.int .i64) x1, .v .str x2, .v (.int .i64) x3, .row 21])] (wqbk K E) = wq59 k x0 x1 x2 x3 x4 x5 K E := by
  exact wqqn k (fun _ _ => none) x0 x1 x2 x3 x4 x5 K E
noncomputable def wqcj (k : Nat) {R : Type} : List PV → List (Nm × HObj) → (Out → Option R) → Option R
  | [.ptr 1 0, .v .str x5], [(21, .row 97 (.pr (.int .i64) (.pr (.int .i64) (.pr (.int .i64) (.pr .str .bool)))) x4), (1, .var 151 [.v (.int .i64) x0, .v (.int .i64) x1, .v .str x2, .v (.int .i64) x3, .row 21])], K => wq59 k x0 x1 x2 x3 x4 x5 (fun y0 y1 y2 y3 y4 => K (.ret [] [(21, .row 97 (.pr (.int .i64) (.pr (.int .i64) (.pr (.int .i64) (.pr .str .bool)))) y4), (1, .var 151 [.v (.int .i64) y0, .v (.int .i64) y1, .v .str y2, .v (.int .i64) y3, .row 21])])) (fun z0 z1 z2 z3 z4 z5 z6 => K (.pan (.ifc 28 (.agg [.v (.int .i64) z5, .v (.int .i64) z6])) [(21, .row 97 (.pr (.int .i64) (.pr (.int .i64) (.pr (.int .i64) (.pr .str .bool)))) z4), (1, .var 151 [.v (.int .i64) z0, .v (.int .i64) z1, .v .str z2, .v (.int .i64) z3, .row 21])]))
  | _, _, _ => none
theorem wqqp (k : Nat) : (wqkz k).Ok Tryz.prog := (CTab.add_ok (fun h => wq81 k h) (CTab.add_ok (fun h => wq131 k h) (CTab.add_ok (fun h => wqjf k h) (CTab.add_ok (fun h => wq163 k h) (CTab.add_ok (fun h => wqs3 k h) (CTab.add_ok (fun h => wqs2 k h) (CTab.add_ok (fun h => wqg0 k h) CTab.nil_ok)))))))
theorem wqw6 (k : Nat) {ps : List PV} {hp : List (Nm × HObj)} {R : Type} {K : Out → Option R} {r : R} (h : wqcj k ps hp K = some r) : DoesTo Tryz.prog 129 ps hp fun out => K out = some r := by
  unfold wqcj at h
  split at h
  · rw [← wqqo] at h
    have := fn_ok (P := Tryz.prog) (cx := wqds k) (f := 129) ⟨tyT_ok, wqqp k, fun _ _ => rfl⟩ (by kernel_rfl) (fn := Tryz.f129) (c := wqbl) (by kernel_rfl) (by kernel_rfl) (by kernel_rfl) (rs := []) (by kernel_rfl) (by kernel_rfl) h
    exact this.mono fun out ho => by
      unfold wqbk at ho
      split at ho <;> first | exact ho | cases ho
  · cases h
end Go.Proofs.YtpfbdepoammjmaaGreatDoor.Pvm

set_option maxRecDepth 1000000
set_option maxHeartbeats 0
namespace Go.Proofs.YtpfbdepoammjmaaGreatDoor.Pvm
open Go Go.Proofs
abbrev wq5a (R : Type) : Type := (Int → Int → (List UInt8) → Int → (List (Int × (Int × (Int × ((List UInt8) × Bool))))) → Option R)
abbrev wq5b (R : Type) : Type := (Int → Int → (List UInt8) → Int → (List (Int × (Int × (Int × ((List UInt8) × Bool))))) → Int → Int → Option R)
def wqto : List LS := [.obj 1 [.any, .any, .any, .any, .own 21 97 (.pr (.int .i64) (.pr (.int .i64) (.pr (.int .i64) (.pr .str .bool))))]]
noncomputable def wqny (k : Nat) : CTab := (CTab.add 124 wq6u (wq4f k) (CTab.add 125 wqs1 (wqch k) (CTab.add 126 wqvs (wqi7 k) (CTab.add 127 wqfx (wq8d k) (CTab.add 128 wq10a (wqma k) (CTab.add 129 wqs4 (wqcj k) CTab.nil))))))
def wq43 {R : Type} (K : wq5a R) (E : wq5b R) : Out → Option R
  | .ret [] [(21, .row 97 (.pr (.int .i64) (.pr (.int .i64) (.pr (.int .i64) (.pr .str .bool)))) y4), (1, .var 151 [.v (.int .i64) y0, .v (.int .i64) y1, .v .str y2, .v (.int .i64) y3, .row 21])] => K y0 y1 y2 y3 y4
  | .pan (.ifc 28 (.agg [.v (.int .i64) z5, .v (.int .i64) z6])) [(21, .row 97 (.pr (.int .i64) (.pr (.int .i64) (.pr (.int .i64) (.pr .str .bool)))) z4), (1, .var 151 [.v (.int .i64) z0, .v (.int .i64) z1, .v .str z2, .v (.int .i64) z3, .row 21])] => E z0 z1 z2 z3 z4 z5 z6
  | _ => none
def wq6d : RetSpec := ⟨[], [(1, .obj 1 [.any, .any, .any, .any, .own 21 97 (.pr (.int .i64) (.pr (.int .i64) (.pr (.int .i64) (.pr .str .bool))))])], [(1, .obj 1 [.any, .any, .any, .any, .own 21 97 (.pr (.int .i64) (.pr (.int .i64) (.pr (.int .i64) (.pr .str .bool))))])]⟩
def wqs5 : List (Nat × CutSpec) := [(1003, ⟨[(0, .obj 1 [.any, .any, .any, .any, .own 21 97 (.pr (.int .i64) (.pr (.int .i64) (.pr (.int .i64) (.pr .str .bool))))]), (2, .any)], [(1, .obj 1 [.any, .any, .any, .any, .own 21 97 (.pr (.int .i64) (.pr (.int .i64) (.pr (.int .i64) (.pr .str .bool))))])]⟩)]
def wqqq : List (Nat × Plan) := []
noncomputable def wqw (k : Nat) : Ctx := ⟨tyT, wqs5, wqny k, [], [1], wqqq, @SH⟩
noncomputable def wq22 : Code := Tryz.f88.body.getD .skip
def wq4m (s0 s1 : Int) (s2 : (List UInt8)) (s3 : Int) (s4 : (List (Int × (Int × (Int × ((List UInt8) × Bool)))))) (s5 : (List UInt8)) : St := ⟨mkT [(0, .ptr 1 0), (2, .v .str s5)], mkH [(21, .row 97 (.pr (.int .i64) (.pr (.int .i64) (.pr (.int .i64) (.pr .str .bool)))) s4), (1, .var 151 [.v (.int .i64) s0, .v (.int .i64) s1, .v .str s2, .v (.int .i64) s3, .row 21])]⟩
noncomputable def wq7n (k : Nat) {R : Type} (E1003 : (Int → Int → (List UInt8) → Int → (List (Int × (Int × (Int × ((List UInt8) × Bool))))) → (List UInt8) → Option R)) (s0 s1 : Int) (s2 : (List UInt8)) (s3 : Int) (s4 : (List (Int × (Int × (Int × ((List UInt8) × Bool)))))) (s5 : (List UInt8)) (K : wq5a R) (E : wq5b R) : Option R := (@wqhi k R s5 (fun y11 => (@cond (@Option R) y11 (@wqh k R s0 s1 s2 s3 s4 (1 : Int) (@Array.toList UInt8 (@ByteArray.data (@ByteArray.mk (@List.toArray UInt8 [])))) Bool.false (1 : Int) (fun y12 y13 y14 y15 y16 => (@wq4g k R y12 y13 y14 y15 y16 (fun y17 y18 y19 y20 y21 y22 => (E1003 y17 y18 y19 y20 y21 y22))))) (@wqid k R s5 (fun y12 => (@cond (@Option R) (@Bool.not (@BEq.beq (@List UInt8) (@List.instBEq UInt8 (@instBEqOfDecidableEq UInt8 @instDecidableEqUInt8)) y12 (@Array.toList UInt8 (@ByteArray.data (@ByteArray.mk (@List.toArray UInt8 [])))))) (@cond (@Option R) (@Decidable.decide (@GT.gt Int Int.instLTInt (@Nat.cast Int instNatCastInt (@List.length UInt8 y12)) (64 : Int)) (@Int.decLt (64 : Int) (@Nat.cast Int instNatCastInt (@List.length UInt8 y12)))) (@wqc k R s0 s1 s2 s3 s4 (5 : Int) (fun y13 y14 y15 y16 y17 => (@wqh k R y13 y14 y15 y16 y17 (2 : Int) y12 Bool.false (@Go.IntKind.wrap Go.IntKind.i64 (@HAdd.hAdd Int Int Int (@instHAdd Int @Int.instAdd) (@Nat.cast Int instNatCastInt (@List.length UInt8 y12)) (1 : Int))) (fun y18 y19 y20 y21 y22 => (@wq4g k R y18 y19 y20 y21 y22 (fun y23 y24 y25 y26 y27 y28 => (@cond (@Option R) (@Bool.not (@BEq.beq (@List UInt8) (@List.instBEq UInt8 (@instBEqOfDecidableEq UInt8 @instDecidableEqUInt8)) y28 (@Array.toList UInt8 (@ByteArray.data (@ByteArray.mk (@List.toArray UInt8 [])))))) (@wq59 k R y23 y24 y25 y26 y27 y28 (fun y29 y30 y31 y32 y33 => (K y29 y30 y31 y32 y33)) (fun y29 y30 y31 y32 y33 y34 y35 => (E y29 y30 y31 y32 y33 y34 y35))) (K y23 y24 y25 y26 y27))))))) (fun y13 y14 y15 y16 y17 y18 y19 => (E y13 y14 y15 y16 y17 y18 y19))) (@wqh k R s0 s1 s2 s3 s4 (2 : Int) y12 Bool.false (@Go.IntKind.wrap Go.IntKind.i64 (@HAdd.hAdd Int Int Int (@instHAdd Int @Int.instAdd) (@Nat.cast Int instNatCastInt (@List.length UInt8 y12)) (1 : Int))) (fun y13 y14 y15 y16 y17 => (@wq4g k R y13 y14 y15 y16 y17 (fun y18 y19 y20 y21 y22 y23 => (@cond (@Option R) (@Bool.not (@BEq.beq (@List UInt8) (@List.instBEq UInt8 (@instBEqOfDecidableEq UInt8 @instDecidableEqUInt8)) y23 (@Array.toList UInt8 (@ByteArray.data (@ByteArray.mk (@List.toArray UInt8 [])))))) (@wq59 k R y18 y19 y20 y21 y22 y23 (fun y24 y25 y26 y27 y28 => (K y24 y25 y26 y27 y28)) (fun y24 y25 y26 y27 y28 y29 y30 => (E y24 y25 y26 y27 y28 y29 y30))) (K y18 y19 y20 y21 y22))))))) (@cond (@Option R) (@Bool.not (@BEq.beq (@List UInt8) (@List.instBEq UInt8 (@instBEqOfDecidableEq UInt8 @instDecidableEqUInt8)) s5 (@Array.toList UInt8 (@ByteArray.data (@ByteArray.mk (@List.toArray UInt8 [])))))) (@wq59 k R s0 s1 s2 s3 s4 s5 (fun y13 y14 y15 y16 y17 => (K y13 y14 y15 y16 y17)) (fun y13 y14 y15 y16 y17 y18 y19 => (E y13 y14 y15 y16 y17 y18 y19))) (K s0 s1 s2 s3 s4))))))))
theorem wqjq (k : Nat) {R : Type} (I : Nat → St → Option R) (s0 s1 : Int) (s2 : (List UInt8)) (s3 : Int) (s4 : (List (Int × (Int × (Int × ((List UInt8) × Bool)))))) (s5 : (List UInt8)) (K : wq5a R) (E : wq5b R) : execK (wqw k) k (at_ [1, 1, 0, 0, 0] wq22) (wq4m s0 s1 s2 s3 s4 s5) (konts (wqw k) k I [1, 1, 0, 0, 0] wq22 (outK (wqw k) wq6d [] (wq43 K E))) = wq7n k (fun s0 s1 s2 s3 s4 s5 => I 1003 (wq4m s0 s1 s2 s3 s4 s5)) s0 s1 s2 s3 s4 s5 K E := by kernel_rfl
noncomputable def wqcw (k : Nat) {R : Type} (E1003 : (Int → Int → (List UInt8) → Int → (List (Int × (Int × (Int × ((List UInt8) × Bool))))) → (List UInt8) → Option R)) (x0 x1 : Int) (x2 : (List UInt8)) (x3 : Int) (x4 : (List (Int × (Int × (Int × ((List UInt8) × Bool)))))) (K : wq5a R) (E : wq5b R) : Option R := (@cond (@Option R) (@cond (@Kd.T Kd.bool) (@Decidable.decide (@LT.lt Int Int.instLTInt x1 (0 : Int)) (@Int.decLt x1 (0 : Int))) Bool.true (@Decidable.decide (@GT.gt Int Int.instLTInt x1 (16384 : Int)) (@Int.decLt (16384 : Int) x1))) (@wqc k R x0 x1 x2 x3 x4 (6 : Int) (fun y10 y11 y12 y13 y14 => (@wq4g k R y10 y11 y12 y13 y14 (fun y15 y16 y17 y18 y19 y20 => (E1003 y15 y16 y17 y18 y19 y20)))) (fun y10 y11 y12 y13 y14 y15 y16 => (E y10 y11 y12 y13 y14 y15 y16))) (@wq4g k R x0 x1 x2 x3 x4 (fun y10 y11 y12 y13 y14 y15 => (E1003 y10 y11 y12 y13 y14 y15))))
theorem wqs6 (k : Nat) {R : Type} (I : Nat → St → Option R) (x0 x1 : Int) (x2 : (List UInt8)) (x3 : Int) (x4 : (List (Int × (Int × (Int × ((List UInt8) × Bool)))))) (K : wq5a R) (E : wq5b R) : fnK (wqw k) k wq22 50 [] wq6d [.ptr 1 0] [(21, .row 97 (.pr (.int .i64) (.pr (.int .i64) (.pr (.int .i64) (.pr .str .bool)))) x4), (1, .var 151 [.v (.int .i64) x0, .v (.int .i64) x1, .v .str x2, .v (.int .i64) x3, .row 21])] (wq43 K E) = wqcw k (fun s0 s1 s2 s3 s4 s5 => iter (wqw k).pv (look (wqw k).cuts 1003) (execK (wqw k) k (at_ [1, 1, 0, 0, 0] wq22)) k (wq4m s0 s1 s2 s3 s4 s5) (konts (wqw k) k I [1, 1, 0, 0] wq22 (outK (wqw k) wq6d [] (wq43 K E)))) x0 x1 x2 x3 x4 K E := by kernel_rfl
noncomputable def wq2u (k : Nat) {R : Type}  : Nat → Int → Int → (List UInt8) → Int → (List (Int × (Int × (Int × ((List UInt8) × Bool))))) → (List UInt8) → (Int → Int → (List UInt8) → Int → (List (Int × (Int × (Int × ((List UInt8) × Bool))))) → Option R) → (Int → Int → (List UInt8) → Int → (List (Int × (Int × (Int × ((List UInt8) × Bool))))) → Int → Int → Option R) → Option R
  | 0, _, _, _, _, _, _, _, _ => none
  | n + 1, s0, s1, s2, s3, s4, s5, K, E => wq7n k (fun s0 s1 s2 s3 s4 s5 => wq2u k  n s0 s1 s2 s3 s4 s5 K E) s0 s1 s2 s3 s4 s5 K E
theorem wqjr (k : Nat) {R : Type} (I : Nat → St → Option R) (K : wq5a R) (E : wq5b R) : ∀ (n : Nat) (s0 s1 : Int) (s2 : (List UInt8)) (s3 : Int) (s4 : (List (Int × (Int × (Int × ((List UInt8) × Bool)))))) (s5 : (List UInt8)), iter (wqw k).pv (look (wqw k).cuts 1003) (execK (wqw k) k (at_ [1, 1, 0, 0, 0] wq22)) n (wq4m s0 s1 s2 s3 s4 s5) (konts (wqw k) k I [1, 1, 0, 0] wq22 (outK (wqw k) wq6d [] (wq43 K E))) = wq2u k  n s0 s1 s2 s3 s4 s5 K E := by
  intro n
  induction n with
  | zero => intros; rfl
  | succ n ih =>
    intro s0 s1 s2 s3 s4 s5
    let I' : Nat → St → Option R := fun id s => bif Nat.beq id 1003 then iter (wqw k).pv (look (wqw k).cuts 1003) (execK (wqw k) k (at_ [1, 1, 0, 0, 0] wq22)) n s (konts (wqw k) k I [1, 1, 0, 0] wq22 (outK (wqw k) wq6d [] (wq43 K E))) else I id s
    have e := wqjq k I' s0 s1 s2 s3 s4 s5 K E
    have h1003 : (fun s0 s1 s2 s3 s4 s5 => I' 1003 (wq4m s0 s1 s2 s3 s4 s5)) = (fun s0 s1 s2 s3 s4 s5 => wq2u k  n s0 s1 s2 s3 s4 s5 K E) := by funext s0 s1 s2 s3 s4 s5; exact ih s0 s1 s2 s3 s4 s5
    refine Eq.trans (?_ : _ = _) (e.trans (Eq.trans ((congrArg ((fun E1003 => wq7n k E1003 s0 s1 s2 s3 s4 s5 K E)) h1003)) (by rw [wq2u])))
    rfl
noncomputable def wqcx (k : Nat) {R : Type} (x0 x1 : Int) (x2 : (List UInt8)) (x3 : Int) (x4 : (List (Int × (Int × (Int × ((List UInt8) × Bool)))))) (K : wq5a R) (E : wq5b R) : Option R := wqcw k (fun s0 s1 s2 s3 s4 s5 => wq2u k k s0 s1 s2 s3 s4 s5 K E) x0 x1 x2 x3 x4 K E
theorem wqs7 (k : Nat) {R : Type} (x0 x1 : Int) (x2 : (List UInt8)) (x3 : Int) (x4 : (List (Int × (Int × (Int × ((List UInt8) × Bool)))))) (K : wq5a R) (E : wq5b R) : fnK (wqw k) k wq22 50 [] wq6d [.ptr 1 0] [(21, .row 97 (.pr (.int .i64) (.pr (.int .i64) (.pr (.int .i64) (.pr .str .bool)))) x4), (1, .var 151 [.v (.int .i64) x0, .v (.int .i64) x1, .v .str x2, .v (.int .i64) x3, .row 21])] (wq43 K E) = wqcx k x0 x1 x2 x3 x4 K E := by
  let I : Nat → St → Option R := fun _ _ => none
  have h1003 : (fun s0 s1 s2 s3 s4 s5 => iter (wqw k).pv (look (wqw k).cuts 1003) (execK (wqw k) k (at_ [1, 1, 0, 0, 0] wq22)) k (wq4m s0 s1 s2 s3 s4 s5) (konts (wqw k) k I [1, 1, 0, 0] wq22 (outK (wqw k) wq6d [] (wq43 K E)))) = (fun s0 s1 s2 s3 s4 s5 => wq2u k k s0 s1 s2 s3 s4 s5 K E) := by funext s0 s1 s2 s3 s4 s5; exact wqjr k I K E k s0 s1 s2 s3 s4 s5
  exact (wqs6 k I x0 x1 x2 x3 x4 K E).trans (congrArg ((fun E1003 => wqcw k E1003 x0 x1 x2 x3 x4 K E)) h1003)
noncomputable def wqdt (k : Nat) {R : Type} : List PV → List (Nm × HObj) → (Out → Option R) → Option R
  | [.ptr 1 0], [(21, .row 97 (.pr (.int .i64) (.pr (.int .i64) (.pr (.int .i64) (.pr .str .bool)))) x4), (1, .var 151 [.v (.int .i64) x0, .v (.int .i64) x1, .v .str x2, .v (.int .i64) x3, .row 21])], K => wqcx k x0 x1 x2 x3 x4 (fun y0 y1 y2 y3 y4 => K (.ret [] [(21, .row 97 (.pr (.int .i64) (.pr (.int .i64) (.pr (.int .i64) (.pr .str .bool)))) y4), (1, .var 151 [.v (.int .i64) y0, .v (.int .i64) y1, .v .str y2, .v (.int .i64) y3, .row 21])])) (fun z0 z1 z2 z3 z4 z5 z6 => K (.pan (.ifc 28 (.agg [.v (.int .i64) z5, .v (.int .i64) z6])) [(21, .row 97 (.pr (.int .i64) (.pr (.int .i64) (.pr (.int .i64) (.pr .str .bool)))) z4), (1, .var 151 [.v (.int .i64) z0, .v (.int .i64) z1, .v .str z2, .v (.int .i64) z3, .row 21])]))
  | _, _, _ => none
theorem wqs8 (k : Nat) : (wqny k).Ok Tryz.prog := (CTab.add_ok (fun h => wq81 k h) (CTab.add_ok (fun h => wqw5 k h) (CTab.add_ok (fun h => wq131 k h) (CTab.add_ok (fun h => wqjf k h) (CTab.add_ok (fun h => wq163 k h) (CTab.add_ok (fun h => wqw6 k h) CTab.nil_ok))))))
theorem wqyu (k : Nat) {ps : List PV} {hp : List (Nm × HObj)} {R : Type} {K : Out → Option R} {r : R} (h : wqdt k ps hp K = some r) : DoesTo Tryz.prog 88 ps hp fun out => K out = some r := by
  unfold wqdt at h
  split at h
  · rw [← wqs7] at h
    have := fn_ok (P := Tryz.prog) (cx := wqw k) (f := 88) ⟨tyT_ok, wqs8 k, fun _ _ => rfl⟩ (by kernel_rfl) (fn := Tryz.f88) (c := wq22) (by kernel_rfl) (by kernel_rfl) (by kernel_rfl) (rs := []) (by kernel_rfl) (by kernel_rfl) h
    exact this.mono fun out ho => by
      unfold wq43 at ho
      split at ho <;> first | exact ho | cases ho
  · cases h
end Go.Proofs.YtpfbdepoammjmaaGreatDoor.Pvm

set_option maxRecDepth 1000000
set_option maxHeartbeats 0
namespace Go.Proofs.YtpfbdepoammjmaaGreatDoor.Pvm
open Go Go.Proofs
def wq16x : List LS := [.ag [.any, .any, .any]]
noncomputable def wq164 (k : Nat) : CTab := (CTab.add 88 wqto (wqdt k) CTab.nil)
def wqpc {R : Type} (K : ((List (Int × (Int × (Int × ((List UInt8) × Bool))))) → Int → Int → Option R)) : Out → Option R
  | .ret [.v (.sl (.pr (.int .i64) (.pr (.int .i64) (.pr (.int .i64) (.pr .str .bool))))) y0, .agg [.v (.int .i64) y1, .v (.int .i64) y2]] [] => K y0 y1 y2
  | _ => none
def wq13e : RetSpec := ⟨[.sl (.pr (.int .i64) (.pr (.int .i64) (.pr (.int .i64) (.pr .str .bool)))), .ag [.any, .any]], [], []⟩
def wq14v : List (Nat × CutSpec) := []
def wq13f : List (Nat × Plan) := []
noncomputable def wqw7 (k : Nat) : Ctx := ⟨tyT, wq14v, wq164 k, [2, 3], [], wq13f, @SH⟩
noncomputable def wq7o : Code := Tryz.f49.body.getD .skip
noncomputable def wqig (k : Nat) {R : Type} : PV → List PV → List (Nm × HObj) → (Out → Option R) → Option R
  | .nilif, [.ptr 1 0, .ptr 2 0], [(1, .var 56 [.v (.sl (.pr (.int .i64) (.pr (.int .i64) (.pr (.int .i64) (.pr .str .bool))))) x0]), (2, .var 28 [.v (.int .i64) x1, .v (.int .i64) x2])], K => wqcz k x0 x1 x2 (fun y0 y1 y2 => K (.ret [] [(1, .var 56 [.v (.sl (.pr (.int .i64) (.pr (.int .i64) (.pr (.int .i64) (.pr .str .bool))))) y0]), (2, .var 28 [.v (.int .i64) y1, .v (.int .i64) y2])]))
  | .ifc 28 (.agg [.v (.int .i64) x3, .v (.int .i64) x4]), [.ptr 1 0, .ptr 2 0], [(1, .var 56 [.v (.sl (.pr (.int .i64) (.pr (.int .i64) (.pr (.int .i64) (.pr .str .bool))))) x0]), (2, .var 28 [.v (.int .i64) x1, .v (.int .i64) x2])], K => wqd0 k x0 x1 x2 x3 x4 (fun y0 y1 y2 => K (.ret [] [(1, .var 56 [.v (.sl (.pr (.int .i64) (.pr (.int .i64) (.pr (.int .i64) (.pr .str .bool))))) y0]), (2, .var 28 [.v (.int .i64) y1, .v (.int .i64) y2])]))
  | _, _, _, _ => none
noncomputable def wq11h (k : Nat) {R : Type}  (x0 x1 : Int) (x2 : (List UInt8)) (K : ((List (Int × (Int × (Int × ((List UInt8) × Bool))))) → Int → Int → Option R)) : Option R := (@wqcx k R x0 x1 x2 (0 : (@Kd.T kI)) [] (fun y6 y7 y8 y9 y10 => (@wqcz k R y10 (0 : (@Kd.T kI)) (0 : (@Kd.T kI)) (fun y11 y12 y13 => (K y11 y12 y13)))) (fun y6 y7 y8 y9 y10 y11 y12 => (@wqd0 k R [] (0 : (@Kd.T kI)) (0 : (@Kd.T kI)) y11 y12 (fun y13 y14 y15 => (K y13 y14 y15)))))
theorem wq14w (k : Nat) {R : Type} (I : Nat → St → Option R) (x0 x1 : Int) (x2 : (List UInt8)) (K : ((List (Int × (Int × (Int × ((List UInt8) × Bool))))) → Int → Int → Option R)) : fnDK (wqw7 k) k [300, 400] (at_ [0] wq7o) (opsAt (at_ [1, 0] wq7o)) (at_ [1, 1] wq7o) 16 [.cell 2 56, .cell 3 28] wq13e (wqig k) wqst [(300, 0), (400, 0)] [.agg [.v (.int .i64) x0, .v (.int .i64) x1, .v .str x2]] [] (wqpc K) = wq11h k  x0 x1 x2 K := by kernel_rfl
noncomputable def wqqr (k : Nat) {R : Type} (x0 x1 : Int) (x2 : (List UInt8)) (K : ((List (Int × (Int × (Int × ((List UInt8) × Bool))))) → Int → Int → Option R)) : Option R := wq11h k  x0 x1 x2 K
theorem wq14x (k : Nat) {R : Type} (x0 x1 : Int) (x2 : (List UInt8)) (K : ((List (Int × (Int × (Int × ((List UInt8) × Bool))))) → Int → Int → Option R)) : fnDK (wqw7 k) k [300, 400] (at_ [0] wq7o) (opsAt (at_ [1, 0] wq7o)) (at_ [1, 1] wq7o) 16 [.cell 2 56, .cell 3 28] wq13e (wqig k) wqst [(300, 0), (400, 0)] [.agg [.v (.int .i64) x0, .v (.int .i64) x1, .v .str x2]] [] (wqpc K) = wqqr k x0 x1 x2 K := by
  exact wq14w k (fun _ _ => none) x0 x1 x2 K
noncomputable def wqs9 (k : Nat) {R : Type} : List PV → List (Nm × HObj) → (Out → Option R) → Option R
  | [.agg [.v (.int .i64) x0, .v (.int .i64) x1, .v .str x2]], [], K => wqqr k x0 x1 x2 (fun y0 y1 y2 => K (.ret [.v (.sl (.pr (.int .i64) (.pr (.int .i64) (.pr (.int .i64) (.pr .str .bool))))) y0, .agg [.v (.int .i64) y1, .v (.int .i64) y2]] []))
  | _, _, _ => none
theorem wq14y (k : Nat) : (wq164 k).Ok Tryz.prog := (CTab.add_ok (fun h => wqyu k h) CTab.nil_ok)
theorem wqyv (k : Nat) {R : Type} (rec : PV) (ps : List PV) (hp : List (Nm × HObj)) (K : Out → Option R) (r : R) (h : wqig k rec ps hp K = some r) : DoesToD Tryz.prog 87 rec ps hp fun out => K out = some r := by
  unfold wqig at h
  split at h
  · exact wq113 k h
  · exact wq114 k h
  · cases h
theorem wq18l (k : Nat) {ps : List PV} {hp : List (Nm × HObj)} {R : Type} {K : Out → Option R} {r : R} (h : wqs9 k ps hp K = some r) : DoesTo Tryz.prog 49 ps hp fun out => K out = some r := by
  unfold wqs9 at h
  split at h
  · rw [← wq14x] at h
    have := fnDK_ok (P := Tryz.prog) (cx := wqw7 k) (f := 49) ⟨tyT_ok, wq14y k, fun _ _ => rfl⟩ (by kernel_rfl) (fn := Tryz.f49) (id := 1) (pre := at_ [0] wq7o) (rest := at_ [1, 1] wq7o) (ops := opsAt (at_ [1, 0] wq7o)) (by kernel_rfl) (by kernel_rfl) (by kernel_rfl) (rs := [.cell 2 56, .cell 3 28]) (by kernel_rfl) (by kernel_rfl) (by kernel_rfl) (g := 87) (s := 5) (xs := [.tmp 2, .tmp 3]) (by kernel_rfl) (Invokes.of (fn := Tryz.f87) (by kernel_rfl) (c := Tryz.f87.body.getD .skip) (by kernel_rfl) (by kernel_rfl)) (wqyv k) h
    exact this.mono fun out ho => by
      unfold wqpc at ho
      split at ho <;> first | exact ho | cases ho
  · cases h
end Go.Proofs.YtpfbdepoammjmaaGreatDoor.Pvm

set_option maxRecDepth 1000000
set_option maxHeartbeats 0
namespace Go.Proofs.YtpfbdepoammjmaaGreatDoor.Pvm
open Go Go.Proofs
abbrev wqd4 (R : Type) : Type := ((List (Int × (Int × (Int × ((List UInt8) × Bool))))) → Int → Int → Option R)
def wq16y : List LS := [.sl (.pr (.int .i64) (.pr (.int .i64) .str))]
noncomputable def wq165 (k : Nat) : CTab := (CTab.add 49 wq16x (wqs9 k) CTab.nil)
def wq8o {R : Type} (K : wqd4 R) : Out → Option R
  | .ret [.v (.sl (.pr (.int .i64) (.pr (.int .i64) (.pr (.int .i64) (.pr .str .bool))))) y0, .agg [.v (.int .i64) y1, .v (.int .i64) y2]] [] => K y0 y1 y2
  | _ => none
def wqeu : RetSpec := ⟨[.sl (.pr (.int .i64) (.pr (.int .i64) (.pr (.int .i64) (.pr .str .bool)))), .ag [.any, .any]], [], []⟩
def wq14z : List (Nat × CutSpec) := [(1003, ⟨[(3, .obj 13 [.any, .any]), (4, .own 100004 97 (.pr (.int .i64) (.pr (.int .i64) (.pr (.int .i64) (.pr .str .bool))))), (9, .sl (.pr (.int .i64) (.pr (.int .i64) .str))), (10, .any), (11, .any)], []⟩)]
def wq13g : List (Nat × Plan) := [(7, (.of [(1, 1), (0, 1), (2, 0)] .done))]
noncomputable def wq2s (k : Nat) : Ctx := ⟨tyT, wq14z, wq165 k, [], [], wq13g, @SH⟩
noncomputable def wq51 : Code := Tryz.f19.body.getD .skip
def wq84 (s0 s1 : Int) (s2 : (List (Int × (Int × (Int × ((List UInt8) × Bool)))))) (s3 : (List (Int × (Int × (List UInt8))))) (s4 s5 : Int) : St := ⟨mkT [(3, .ptr 13 0), (4, .row 100004), (9, .v (.sl (.pr (.int .i64) (.pr (.int .i64) .str))) s3), (10, .v (.int .i64) s4), (11, .v (.int .i64) s5)], mkH [(13, .var 28 [.v (.int .i64) s0, .v (.int .i64) s1]), (100004, .row 97 (.pr (.int .i64) (.pr (.int .i64) (.pr (.int .i64) (.pr .str .bool)))) s2)]⟩
noncomputable def wqbm (k : Nat) {R : Type} (E1003 : (Int → Int → (List (Int × (Int × (Int × ((List UInt8) × Bool))))) → (List (Int × (Int × (List UInt8)))) → Int → Int → Option R)) (s0 s1 : Int) (s2 : (List (Int × (Int × (Int × ((List UInt8) × Bool)))))) (s3 : (List (Int × (Int × (List UInt8))))) (s4 s5 : Int) (K : wqd4 R) : Option R := (@cond (@Option R) (@Decidable.decide (@LT.lt Int Int.instLTInt s5 s4) (@Int.decLt s5 s4)) (@cond (@Option R) (@inb s5 (@Nat.cast Int instNatCastInt (@List.length (@Kd.T (@Kd.pr kI (@Kd.pr kI Kd.str))) s3))) (@wqqr k R (@List.getD (@Kd.T (@Kd.pr kI (@Kd.pr kI Kd.str))) s3 (@Int.toNat s5) (@Kd.zero (@Kd.pr kI (@Kd.pr kI Kd.str)))).1 (@List.getD (@Kd.T (@Kd.pr kI (@Kd.pr kI Kd.str))) s3 (@Int.toNat s5) (@Kd.zero (@Kd.pr kI (@Kd.pr kI Kd.str)))).2.1 (@List.getD (@Kd.T (@Kd.pr kI (@Kd.pr kI Kd.str))) s3 (@Int.toNat s5) (@Kd.zero (@Kd.pr kI (@Kd.pr kI Kd.str)))).2.2 (fun y10 y11 y12 => (@cond (@Option R) (@bne Int (@instBEqOfDecidableEq Int @Int.instDecidableEq) y11 (0 : Int)) (K [] y11 y12) (@cond (@Option R) (@fits (@List.length (@Kd.T (@Kd.pr kI (@Kd.pr kI (@Kd.pr kI (@Kd.pr Kd.str Kd.bool))))) s2) (@List.length (@Kd.T (@Kd.pr kI (@Kd.pr kI (@Kd.pr kI (@Kd.pr Kd.str Kd.bool))))) y10) (48 : Nat)) (E1003 s0 s1 (@HAppend.hAppend (@Kd.T (@Kd.sl (@Kd.pr kI (@Kd.pr kI (@Kd.pr kI (@Kd.pr Kd.str Kd.bool)))))) (@List (@Kd.T (@Kd.pr kI (@Kd.pr kI (@Kd.pr kI (@Kd.pr Kd.str Kd.bool)))))) (@Kd.T (@Kd.sl (@Kd.pr kI (@Kd.pr kI (@Kd.pr kI (@Kd.pr Kd.str Kd.bool)))))) (@instHAppendOfAppend (@Kd.T (@Kd.sl (@Kd.pr kI (@Kd.pr kI (@Kd.pr kI (@Kd.pr Kd.str Kd.bool)))))) (@List.instAppend (@Kd.T (@Kd.pr kI (@Kd.pr kI (@Kd.pr kI (@Kd.pr Kd.str Kd.bool))))))) s2 y10) s3 s4 (@Go.IntKind.wrap Go.IntKind.i64 (@HAdd.hAdd Int Int Int (@instHAdd Int @Int.instAdd) s5 (1 : Int)))) (@Option.none R))))) (@Option.none R)) (K s2 (0 : (@Kd.T kI)) (0 : (@Kd.T kI))))
theorem wqtp (k : Nat) {R : Type} (I : Nat → St → Option R) (s0 s1 : Int) (s2 : (List (Int × (Int × (Int × ((List UInt8) × Bool)))))) (s3 : (List (Int × (Int × (List UInt8))))) (s4 s5 : Int) (K : wqd4 R) : execK (wq2s k) k (at_ [1, 1, 0, 1, 0, 0] wq51) (wq84 s0 s1 s2 s3 s4 s5) (konts (wq2s k) k I [1, 1, 0, 1, 0, 0] wq51 (outK (wq2s k) wqeu [.tmp 2, .cell 3 28] (wq8o K))) = wqbm k (fun s0 s1 s2 s3 s4 s5 => I 1003 (wq84 s0 s1 s2 s3 s4 s5)) s0 s1 s2 s3 s4 s5 K := by kernel_rfl
noncomputable def wqup (k : Nat) {R : Type} (E1003 : (Int → Int → (List (Int × (Int × (Int × ((List UInt8) × Bool))))) → (List (Int × (Int × (List UInt8)))) → Int → Int → Option R)) (x0 : (List (Int × (Int × (List UInt8))))) (K : wqd4 R) : Option R := (E1003 (0 : (@Kd.T kI)) (0 : (@Kd.T kI)) [] x0 (@Nat.cast Int instNatCastInt (@List.length (@Kd.T (@Kd.pr kI (@Kd.pr kI Kd.str))) x0)) (0 : Int))
theorem wq150 (k : Nat) {R : Type} (I : Nat → St → Option R) (x0 : (List (Int × (Int × (List UInt8))))) (K : wqd4 R) : fnK (wq2s k) k wq51 30 [.tmp 2, .cell 3 28] wqeu [.v (.sl (.pr (.int .i64) (.pr (.int .i64) .str))) x0] [] (wq8o K) = wqup k (fun s0 s1 s2 s3 s4 s5 => iter (wq2s k).pv (look (wq2s k).cuts 1003) (execK (wq2s k) k (at_ [1, 1, 0, 1, 0, 0] wq51)) k (wq84 s0 s1 s2 s3 s4 s5) (konts (wq2s k) k I [1, 1, 0, 1, 0] wq51 (outK (wq2s k) wqeu [.tmp 2, .cell 3 28] (wq8o K)))) x0 K := by kernel_rfl
noncomputable def wq60 (k : Nat) {R : Type}  : Nat → Int → Int → (List (Int × (Int × (Int × ((List UInt8) × Bool))))) → (List (Int × (Int × (List UInt8)))) → Int → Int → ((List (Int × (Int × (Int × ((List UInt8) × Bool))))) → Int → Int → Option R) → Option R
  | 0, _, _, _, _, _, _, _ => none
  | n + 1, s0, s1, s2, s3, s4, s5, K => wqbm k (fun s0 s1 s2 s3 s4 s5 => wq60 k  n s0 s1 s2 s3 s4 s5 K) s0 s1 s2 s3 s4 s5 K
theorem wqtq (k : Nat) {R : Type} (I : Nat → St → Option R) (K : wqd4 R) : ∀ (n : Nat) (s0 s1 : Int) (s2 : (List (Int × (Int × (Int × ((List UInt8) × Bool)))))) (s3 : (List (Int × (Int × (List UInt8))))) (s4 s5 : Int), iter (wq2s k).pv (look (wq2s k).cuts 1003) (execK (wq2s k) k (at_ [1, 1, 0, 1, 0, 0] wq51)) n (wq84 s0 s1 s2 s3 s4 s5) (konts (wq2s k) k I [1, 1, 0, 1, 0] wq51 (outK (wq2s k) wqeu [.tmp 2, .cell 3 28] (wq8o K))) = wq60 k  n s0 s1 s2 s3 s4 s5 K := by
  intro n
  induction n with
  | zero => intros; rfl
  | succ n ih =>
    intro s0 s1 s2 s3 s4 s5
    let I' : Nat → St → Option R := fun id s => bif Nat.beq id 1003 then iter (wq2s k).pv (look (wq2s k).cuts 1003) (execK (wq2s k) k (at_ [1, 1, 0, 1, 0, 0] wq51)) n s (konts (wq2s k) k I [1, 1, 0, 1, 0] wq51 (outK (wq2s k) wqeu [.tmp 2, .cell 3 28] (wq8o K))) else I id s
    have e := wqtp k I' s0 s1 s2 s3 s4 s5 K
    have h1003 : (fun s0 s1 s2 s3 s4 s5 => I' 1003 (wq84 s0 s1 s2 s3 s4 s5)) = (fun s0 s1 s2 s3 s4 s5 => wq60 k  n s0 s1 s2 s3 s4 s5 K) := by funext s0 s1 s2 s3 s4 s5; exact ih s0 s1 s2 s3 s4 s5
    refine Eq.trans (?_ : _ = _) (e.trans (Eq.trans ((congrArg ((fun E1003 => wqbm k E1003 s0 s1 s2 s3 s4 s5 K)) h1003)) (by rw [wq60])))
    rfl
noncomputable def wqqs (k : Nat) {R : Type} (x0 : (List (Int × (Int × (List UInt8))))) (K : wqd4 R) : Option R := wqup k (fun s0 s1 s2 s3 s4 s5 => wq60 k k s0 s1 s2 s3 s4 s5 K) x0 K
theorem wq151 (k : Nat) {R : Type} (x0 : (List (Int × (Int × (List UInt8))))) (K : wqd4 R) : fnK (wq2s k) k wq51 30 [.tmp 2, .cell 3 28] wqeu [.v (.sl (.pr (.int .i64) (.pr (.int .i64) .str))) x0] [] (wq8o K) = wqqs k x0 K := by
  let I : Nat → St → Option R := fun _ _ => none
  have h1003 : (fun s0 s1 s2 s3 s4 s5 => iter (wq2s k).pv (look (wq2s k).cuts 1003) (execK (wq2s k) k (at_ [1, 1, 0, 1, 0, 0] wq51)) k (wq84 s0 s1 s2 s3 s4 s5) (konts (wq2s k) k I [1, 1, 0, 1, 0] wq51 (outK (wq2s k) wqeu [.tmp 2, .cell 3 28] (wq8o K)))) = (fun s0 s1 s2 s3 s4 s5 => wq60 k k s0 s1 s2 s3 s4 s5 K) := by funext s0 s1 s2 s3 s4 s5; exact wqtq k I K k s0 s1 s2 s3 s4 s5
  exact (wq150 k I x0 K).trans (congrArg ((fun E1003 => wqup k E1003 x0 K)) h1003)
noncomputable def wqsa (k : Nat) {R : Type} : List PV → List (Nm × HObj) → (Out → Option R) → Option R
  | [.v (.sl (.pr (.int .i64) (.pr (.int .i64) .str))) x0], [], K => wqqs k x0 (fun y0 y1 y2 => K (.ret [.v (.sl (.pr (.int .i64) (.pr (.int .i64) (.pr (.int .i64) (.pr .str .bool))))) y0, .agg [.v (.int .i64) y1, .v (.int .i64) y2]] []))
  | _, _, _ => none
theorem wq152 (k : Nat) : (wq165 k).Ok Tryz.prog := (CTab.add_ok (fun h => wq18l k h) CTab.nil_ok)
theorem wq18m (k : Nat) {ps : List PV} {hp : List (Nm × HObj)} {R : Type} {K : Out → Option R} {r : R} (h : wqsa k ps hp K = some r) : DoesTo Tryz.prog 19 ps hp fun out => K out = some r := by
  unfold wqsa at h
  split at h
  · rw [← wq151] at h
    have := fn_ok (P := Tryz.prog) (cx := wq2s k) (f := 19) ⟨tyT_ok, wq152 k, fun _ _ => rfl⟩ (by kernel_rfl) (fn := Tryz.f19) (c := wq51) (by kernel_rfl) (by kernel_rfl) (by kernel_rfl) (rs := [.tmp 2, .cell 3 28]) (by kernel_rfl) (by kernel_rfl) h
    exact this.mono fun out ho => by
      unfold wq8o at ho
      split at ho <;> first | exact ho | cases ho
  · cases h
end Go.Proofs.YtpfbdepoammjmaaGreatDoor.Pvm

namespace Go.Proofs.YtpfbdepoammjmaaGreatDoor.Pvm
open Go Go.Proofs
theorem bytes_of {h : Heap} {G : Gh} {w : World} {P : Program} {x : List Int} {v : Value} (hv : RV h G w (.v (.sl (.int .u8)) x) v) : (Extern.Bytes.bytesOf v).run P w = .ok ⟨(ofBytes x).toArray⟩ w := by
  obtain ⟨A, cap, e, hcap, hr⟩ := hv
  simp only [List.cons.injEq, and_true] at e
  subst e
  rcases hr with rfl | ⟨ad, rfl, h1, h2, h3⟩
  · cases A with
    | none => rfl
    | some a => rfl
  · have hl := Lib.run_loadBytesX (P := P) w x ad .empty (fun j y hj => by
      obtain ⟨c, hc, hu⟩ := h3 j y hj
      have hc' : c = [.int .u8 y] := hc
      subst hc'
      have := hu 0 _ rfl
      have e1 : j * (Kd.int .u8).sz + 0 = j := by simp [Kd.sz]
      rw [e1] at this
      exact this)
    have e2 : (⟨ByteArray.empty.data ++ (Lib.bytesOf x).toArray⟩ : ByteArray) = ⟨(ofBytes x).toArray⟩ := by
      apply ByteArray.ext
      show (#[] : Array UInt8) ++ (Lib.bytesOf x).toArray = (ofBytes x).toArray
      simp [Lib.bytesOf, ofBytes]
    rw [e2] at hl
    exact hl
theorem fin_same {G : Gh} {w : World} : Fin [] [] G w G w :=
  ⟨fun n o h => (by cases h), fun n m b h => (by simp [blkOf, mkH, look] at h), fun n t cs h => (by cases h), fun _ _ _ => rfl, rfl, fun n b h => (by simp [blkOf, mkH, look] at h), Nat.le_refl _, rfl, rfl, rfl⟩
theorem run_row {P : Program} {f : FuncId} {fn : Func} {g : Array Value → Sem Value} (h1 : P.funcs[f]? = some fn) (h2 : (fn.name == "runtime.NumGoroutine") = false) (h3 : fn.body.isNone = true) (h4 : (Extern.findNext fn).isNone = true)
    (h5 : Extern.find fn = some g) (args : Array Value) (w : World) {v : Value} (h6 : (g args).run P w = .ok v w) : (callFunc f args).run P w = .ok (.value v) w := by
  have h4' : Extern.findNext fn = none := by
    cases hq : Extern.findNext fn with
    | none => rfl
    | some e => rw [hq] at h4; cases h4
  have h2' : ¬ fn.name = "runtime.NumGoroutine" := by simpa using h2
  have e1 : (callFunc f args).run P w = (g args >>= fun v => pure (Next.value v)).run P w := by
    unfold callFunc
    rw [Sem.run_bind]
    have e2 : (program).run P w = .ok P w := rfl
    rw [e2, Result.andThen_ok, h1]
    simp only [h2, h3, if_true, Bool.false_eq_true, if_false]
    rw [Sem.run_bind]
    have e3 : (mark (.extern f)).run P w = .ok () w := rfl
    rw [e3, Result.andThen_ok, h4', h5]
  rw [e1, Sem.run_bind, h6]
  rfl
end Go.Proofs.YtpfbdepoammjmaaGreatDoor.Pvm

set_option maxRecDepth 1000000
namespace Go.Proofs.YtpfbdepoammjmaaGreatDoor.Pvm
open Go Go.Proofs
def cntB (s : List UInt8) (c : UInt8) : Int := Lib.countByte s c
def wq11i : List LS := [.sl (.int .u8), .any]
def wqw8 (k : Nat) {R : Type} (x0 : List Int) (x1 : Int) (K : Int → Option R) : Option R := K (cntB (ofBytes x0) (UInt8.ofNat x1.toNat))
def wqih (k : Nat) {R : Type} : List PV → List (Nm × HObj) → (Out → Option R) → Option R
  | [.v (.sl (.int .u8)) x0, .v (.int .u8) x1], [], K => wqw8 k x0 x1 (fun y0 => K (.ret [.v (.int .i64) y0] []))
  | _, _, _ => none
theorem wq153 (k : Nat) {ps : List PV} {hp : List (Nm × HObj)} {R : Type} {K : Out → Option R} {r : R} (h : wqih k ps hp K = some r) : DoesTo Tryz.prog 151 ps hp fun out => K out = some r := by
  unfold wqih at h
  split at h
  · next x0 x1 =>
    intro G w vals hr obj dis
    obtain ⟨v0, l0, rfl, h0, v1, l1, rfl, h1, rfl⟩ := hr
    have e1 : v1 = .int .u8 x1 := by simpa [RV, RD] using h1
    subst e1
    have hb := bytes_of (P := Tryz.prog) h0
    have hrun : (callFunc 151 #[v0, .int .u8 x1]).run Tryz.prog w = .ok (.value (.int .i64 (cntB (ofBytes x0) (UInt8.ofNat x1.toNat)))) w := by
      refine run_row (fn := Tryz.f151) (g := Extern.BytealgCount.count) (by kernel_rfl) (by kernel_rfl) (by kernel_rfl) (by kernel_rfl) (by kernel_rfl) _ w ?_
      have hs := Lib.run_countString (P := Tryz.prog) ⟨(ofBytes x0).toArray⟩ x1 w
      change Sem.run Tryz.prog (do
        let b ← Extern.Bytes.bytesOf v0
        let c' ← Extern.Bytes.asByte (.int .u8 x1)
        pure (goInt (b.foldl (fun n x => if x == c' then n + 1 else n) (0 : Nat)))) w = _
      change Sem.run Tryz.prog (do
        let b ← Extern.Bytes.bytesOf (.string ⟨(ofBytes x0).toArray⟩)
        let c' ← Extern.Bytes.asByte (.int .u8 x1)
        pure (goInt (b.foldl (fun n x => if x == c' then n + 1 else n) (0 : Nat)))) w = _ at hs
      rw [Sem.run_bind] at hs ⊢
      rw [hb]
      exact hs
    show Does _ _ #[_, _] _ _
    unfold Does
    rw [hrun]
    exact ⟨.ret [.v (.int .i64) _] [], h, G, ⟨_, rfl, rfl⟩, fin_same⟩
  · cases h
end Go.Proofs.YtpfbdepoammjmaaGreatDoor.Pvm

set_option maxRecDepth 1000000
set_option maxHeartbeats 0
namespace Go.Proofs.YtpfbdepoammjmaaGreatDoor.Pvm
open Go Go.Proofs
def wqyw : List LS := [.sl (.int .u8), .sl (.int .u8)]
noncomputable def wqsy (k : Nat) : CTab := (CTab.add 151 wq11i (wqih k) CTab.nil)
def wqev {R : Type} (K : (Int → Option R)) : Out → Option R
  | .ret [.v (.int .i64) y0] [] => K y0
  | _ => none
def wqqt : RetSpec := ⟨[.any], [], []⟩
def wqw9 : List (Nat × CutSpec) := []
def wqtr : List (Nat × Plan) := []
noncomputable def wqii (k : Nat) : Ctx := ⟨tyT, wqw9, wqsy k, [], [], wqtr, @SH⟩
noncomputable def wqew : Code := Tryz.f117.body.getD .skip
noncomputable def wqsz (k : Nat) {R : Type}  (x0 : (List Int)) (x1 : Int) (K : (Int → Option R)) : Option R := (@wqw8 k R x0 (@List.getD (@Kd.T (@Kd.int Go.IntKind.u8)) (x1 :: []) (@Int.toNat (0 : Int)) (@Kd.zero (@Kd.int Go.IntKind.u8))) (fun y5 => (K y5)))
theorem wqwa (k : Nat) {R : Type} (I : Nat → St → Option R) (x0 : (List Int)) (x1 : Int) (K : (Int → Option R)) : fnK (wqii k) k wqew 35 [.tmp 4] wqqt [.v (.sl (.int .u8)) x0, .v (.sl (.int .u8)) [x1]] [] (wqev K) = wqsz k  x0 x1 K := by kernel_rfl
noncomputable def wqd5 (k : Nat) {R : Type} (x0 : (List Int)) (x1 : Int) (K : (Int → Option R)) : Option R := wqsz k  x0 x1 K
theorem wqwb (k : Nat) {R : Type} (x0 : (List Int)) (x1 : Int) (K : (Int → Option R)) : fnK (wqii k) k wqew 35 [.tmp 4] wqqt [.v (.sl (.int .u8)) x0, .v (.sl (.int .u8)) [x1]] [] (wqev K) = wqd5 k x0 x1 K := by
  exact wqwa k (fun _ _ => none) x0 x1 K
noncomputable def wqgm (k : Nat) {R : Type} : List PV → List (Nm × HObj) → (Out → Option R) → Option R
  | [.v (.sl (.int .u8)) x0, .v (.sl (.int .u8)) [x1]], [], K => wqd5 k x0 x1 (fun y0 => K (.ret [.v (.int .i64) y0] []))
  | _, _, _ => none
theorem wqwc (k : Nat) : (wqsy k).Ok Tryz.prog := (CTab.add_ok (fun h => wq153 k h) CTab.nil_ok)
theorem wq13h (k : Nat) {ps : List PV} {hp : List (Nm × HObj)} {R : Type} {K : Out → Option R} {r : R} (h : wqgm k ps hp K = some r) : DoesTo Tryz.prog 117 ps hp fun out => K out = some r := by
  unfold wqgm at h
  split at h
  · rw [← wqwb] at h
    have := fn_ok (P := Tryz.prog) (cx := wqii k) (f := 117) ⟨tyT_ok, wqwc k, fun _ _ => rfl⟩ (by kernel_rfl) (fn := Tryz.f117) (c := wqew) (by kernel_rfl) (by kernel_rfl) (by kernel_rfl) (rs := [.tmp 4]) (by kernel_rfl) (by kernel_rfl) h
    exact this.mono fun out ho => by
      unfold wqev at ho
      split at ho <;> first | exact ho | cases ho
  · cases h
end Go.Proofs.YtpfbdepoammjmaaGreatDoor.Pvm

set_option maxRecDepth 1000000
namespace Go.Proofs.YtpfbdepoammjmaaGreatDoor.Pvm
open Go Go.Proofs
def wqsb : List LS := [.sl (.int .u8), .any]
def wql0 (k : Nat) {R : Type} (x0 : List Int) (x1 : Int) (K : Int → Option R) : Option R := K (idxByte (ofBytes x0) x1)
def wqck (k : Nat) {R : Type} : List PV → List (Nm × HObj) → (Out → Option R) → Option R
  | [.v (.sl (.int .u8)) x0, .v (.int .u8) x1], [], K => wql0 k x0 x1 (fun y0 => K (.ret [.v (.int .i64) y0] []))
  | _, _, _ => none
theorem wqwd (k : Nat) {ps : List PV} {hp : List (Nm × HObj)} {R : Type} {K : Out → Option R} {r : R} (h : wqck k ps hp K = some r) : DoesTo Tryz.prog 171 ps hp fun out => K out = some r := by
  unfold wqck at h
  split at h
  · next x0 x1 =>
    intro G w vals hr obj dis
    obtain ⟨v0, l0, rfl, h0, v1, l1, rfl, h1, rfl⟩ := hr
    have e1 : v1 = .int .u8 x1 := by simpa [RV, RD] using h1
    subst e1
    have hb := bytes_of (P := Tryz.prog) h0
    have hrun : (callFunc 171 #[v0, .int .u8 x1]).run Tryz.prog w = .ok (.value (.int .i64 (idxByte (ofBytes x0) x1))) w := by
      refine run_row (fn := Tryz.f171) (g := Extern.BytealgIndexByte.indexByte) (by kernel_rfl) (by kernel_rfl) (by kernel_rfl) (by kernel_rfl) (by kernel_rfl) _ w ?_
      have hs := wq108 (P := Tryz.prog) (ofBytes x0) x1 w
      change Sem.run Tryz.prog (do
        let b ← Extern.Bytes.bytesOf v0
        let c ← Extern.Bytes.asByte (.int .u8 x1)
        match (List.range b.size).find? fun i => b[i]! == c with
        | some i => pure (goInt i)
        | none => pure (goInt (-1))) w = _
      change Sem.run Tryz.prog (do
        let b ← Extern.Bytes.bytesOf (.string ⟨(ofBytes x0).toArray⟩)
        let c ← Extern.Bytes.asByte (.int .u8 x1)
        match (List.range b.size).find? fun i => b[i]! == c with
        | some i => pure (goInt i)
        | none => pure (goInt (-1))) w = _ at hs
      rw [Sem.run_bind] at hs ⊢
      rw [hb]
      exact hs
    show Does _ _ #[_, _] _ _
    unfold Does
    rw [hrun]
    exact ⟨.ret [.v (.int .i64) _] [], h, G, ⟨_, rfl, rfl⟩, fin_same⟩
  · cases h
end Go.Proofs.YtpfbdepoammjmaaGreatDoor.Pvm

set_option maxRecDepth 1000000
set_option maxHeartbeats 0
namespace Go.Proofs.YtpfbdepoammjmaaGreatDoor.Pvm
open Go Go.Proofs
def wqqu : List LS := [.sl (.int .u8), .any]
noncomputable def wqji (k : Nat) : CTab := (CTab.add 171 wqsb (wqck k) CTab.nil)
def wqap {R : Type} (K : (Int → Option R)) : Out → Option R
  | .ret [.v (.int .i64) y0] [] => K y0
  | _ => none
def wqhs : RetSpec := ⟨[.any], [], []⟩
def wqpd : List (Nat × CutSpec) := []
def wqn6 : List (Nat × Plan) := []
noncomputable def wqcl (k : Nat) : Ctx := ⟨tyT, wqpd, wqji k, [], [], wqn6, @SH⟩
noncomputable def wqaq : Code := Tryz.f152.body.getD .skip
noncomputable def wqjj (k : Nat) {R : Type}  (x0 : (List Int)) (x1 : Int) (K : (Int → Option R)) : Option R := (@wql0 k R x0 x1 (fun y5 => (K y5)))
theorem wqpe (k : Nat) {R : Type} (I : Nat → St → Option R) (x0 : (List Int)) (x1 : Int) (K : (Int → Option R)) : fnK (wqcl k) k wqaq 8 [.tmp 4] wqhs [.v (.sl (.int .u8)) x0, .v (.int .u8) x1] [] (wqap K) = wqjj k  x0 x1 K := by kernel_rfl
noncomputable def wqdu (k : Nat) {R : Type} (x0 : (List Int)) (x1 : Int) (K : (Int → Option R)) : Option R := wqjj k  x0 x1 K
theorem wqpf (k : Nat) {R : Type} (x0 : (List Int)) (x1 : Int) (K : (Int → Option R)) : fnK (wqcl k) k wqaq 8 [.tmp 4] wqhs [.v (.sl (.int .u8)) x0, .v (.int .u8) x1] [] (wqap K) = wqdu k x0 x1 K := by
  exact wqpe k (fun _ _ => none) x0 x1 K
noncomputable def wqbn (k : Nat) {R : Type} : List PV → List (Nm × HObj) → (Out → Option R) → Option R
  | [.v (.sl (.int .u8)) x0, .v (.int .u8) x1], [], K => wqdu k x0 x1 (fun y0 => K (.ret [.v (.int .i64) y0] []))
  | _, _, _ => none
theorem wqpg (k : Nat) : (wqji k).Ok Tryz.prog := (CTab.add_ok (fun h => wqwd k h) CTab.nil_ok)
theorem wqts (k : Nat) {ps : List PV} {hp : List (Nm × HObj)} {R : Type} {K : Out → Option R} {r : R} (h : wqbn k ps hp K = some r) : DoesTo Tryz.prog 152 ps hp fun out => K out = some r := by
  unfold wqbn at h
  split at h
  · rw [← wqpf] at h
    have := fn_ok (P := Tryz.prog) (cx := wqcl k) (f := 152) ⟨tyT_ok, wqpg k, fun _ _ => rfl⟩ (by kernel_rfl) (fn := Tryz.f152) (c := wqaq) (by kernel_rfl) (by kernel_rfl) (by kernel_rfl) (rs := [.tmp 4]) (by kernel_rfl) (by kernel_rfl) h
    exact this.mono fun out ho => by
      unfold wqap at ho
      split at ho <;> first | exact ho | cases ho
  · cases h
end Go.Proofs.YtpfbdepoammjmaaGreatDoor.Pvm

set_option maxRecDepth 1000000
set_option maxHeartbeats 0
namespace Go.Proofs.YtpfbdepoammjmaaGreatDoor.Pvm
open Go Go.Proofs
def wqyx : List LS := [.sl (.int .u8), .sl (.int .u8)]
noncomputable def wqt0 (k : Nat) : CTab := (CTab.add 152 wqqu (wqbn k) CTab.nil)
def wqex {R : Type} (K : (Int → Option R)) : Out → Option R
  | .ret [.v (.int .i64) y0] [] => K y0
  | _ => none
def wqqv : RetSpec := ⟨[.any], [], []⟩
def wqwe : List (Nat × CutSpec) := []
def wqtt : List (Nat × Plan) := []
noncomputable def wqij (k : Nat) : Ctx := ⟨tyT, wqwe, wqt0 k, [], [], wqtt, @SH⟩
noncomputable def wqey : Code := Tryz.f118.body.getD .skip
noncomputable def wqt1 (k : Nat) {R : Type}  (x0 : (List Int)) (x1 : Int) (K : (Int → Option R)) : Option R := (@wqdu k R x0 (@List.getD (@Kd.T (@Kd.int Go.IntKind.u8)) (x1 :: []) (@Int.toNat (0 : Int)) (@Kd.zero (@Kd.int Go.IntKind.u8))) (fun y5 => (K y5)))
theorem wqwf (k : Nat) {R : Type} (I : Nat → St → Option R) (x0 : (List Int)) (x1 : Int) (K : (Int → Option R)) : fnK (wqij k) k wqey 200 [.tmp 4] wqqv [.v (.sl (.int .u8)) x0, .v (.sl (.int .u8)) [x1]] [] (wqex K) = wqt1 k  x0 x1 K := by kernel_rfl
noncomputable def wqd6 (k : Nat) {R : Type} (x0 : (List Int)) (x1 : Int) (K : (Int → Option R)) : Option R := wqt1 k  x0 x1 K
theorem wqwg (k : Nat) {R : Type} (x0 : (List Int)) (x1 : Int) (K : (Int → Option R)) : fnK (wqij k) k wqey 200 [.tmp 4] wqqv [.v (.sl (.int .u8)) x0, .v (.sl (.int .u8)) [x1]] [] (wqex K) = wqd6 k x0 x1 K := by
  exact wqwf k (fun _ _ => none) x0 x1 K
noncomputable def wqgn (k : Nat) {R : Type} : List PV → List (Nm × HObj) → (Out → Option R) → Option R
  | [.v (.sl (.int .u8)) x0, .v (.sl (.int .u8)) [x1]], [], K => wqd6 k x0 x1 (fun y0 => K (.ret [.v (.int .i64) y0] []))
  | _, _, _ => none
theorem wqwh (k : Nat) : (wqt0 k).Ok Tryz.prog := (CTab.add_ok (fun h => wqts k h) CTab.nil_ok)
theorem wq13i (k : Nat) {ps : List PV} {hp : List (Nm × HObj)} {R : Type} {K : Out → Option R} {r : R} (h : wqgn k ps hp K = some r) : DoesTo Tryz.prog 118 ps hp fun out => K out = some r := by
  unfold wqgn at h
  split at h
  · rw [← wqwg] at h
    have := fn_ok (P := Tryz.prog) (cx := wqij k) (f := 118) ⟨tyT_ok, wqwh k, fun _ _ => rfl⟩ (by kernel_rfl) (fn := Tryz.f118) (c := wqey) (by kernel_rfl) (by kernel_rfl) (by kernel_rfl) (rs := [.tmp 4]) (by kernel_rfl) (by kernel_rfl) h
    exact this.mono fun out ho => by
      unfold wqex at ho
      split at ho <;> first | exact ho | cases ho
  · cases h
end Go.Proofs.YtpfbdepoammjmaaGreatDoor.Pvm

set_option maxRecDepth 1000000
set_option maxHeartbeats 0
namespace Go.Proofs.YtpfbdepoammjmaaGreatDoor.Pvm
open Go Go.Proofs
def wqsc : List LS := [.sl (.int .u8), .sl (.int .u8), .any, .any]
noncomputable def wql1 (k : Nat) : CTab := (CTab.add 117 wqyw (wqgm k) (CTab.add 118 wqyx (wqgn k) CTab.nil))
def wq3s {R : Type} (K : ((List (List Int)) → Option R)) : Out → Option R
  | .ret [.v (.sl (.sl (.int .u8))) y0] [] => K y0
  | _ => none
def wq5w : RetSpec := ⟨[.sl (.sl (.int .u8))], [], []⟩
def wqqw : List (Nat × CutSpec) := [(1011, ⟨[(0, .sl (.int .u8)), (1, .sl (.int .u8)), (2, .any), (3, .any), (9, .own 100009 22 (.sl (.int .u8))), (10, .any)], []⟩)]
def wqph : List (Nat × Plan) := []
noncomputable def wqt (k : Nat) : Ctx := ⟨tyT, wqqw, wql1 k, [], [], wqph, @SH⟩
noncomputable def wq1v : Code := Tryz.f79.body.getD .skip
def wq44 (s0 : (List Int)) (s1 s2 s3 : Int) (s4 : (List (List Int))) (s5 : Int) : St := ⟨mkT [(0, .v (.sl (.int .u8)) s0), (1, .v (.sl (.int .u8)) [s1]), (2, .v (.int .i64) s2), (3, .v (.int .i64) s3), (9, .row 100009), (10, .v (.int .i64) s5)], mkH [(100009, .row 22 (.sl (.int .u8)) s4)]⟩
noncomputable def wq78 (k : Nat) {R : Type} (E1011 : ((List Int) → Int → Int → Int → (List (List Int)) → Int → Option R)) (s0 : (List Int)) (s1 s2 s3 : Int) (s4 : (List (List Int))) (s5 : Int) (K : ((List (List Int)) → Option R)) : Option R := (@cond (@Option R) (@Decidable.decide (@LT.lt Int Int.instLTInt s5 s3) (@Int.decLt s5 s3)) (@wqd6 k R s0 s1 (fun y10 => (@cond (@Option R) (@Decidable.decide (@LT.lt Int Int.instLTInt y10 (0 : Int)) (@Int.decLt y10 (0 : Int))) (@cond (@Option R) (@inb s5 (@Nat.cast Int instNatCastInt (@List.length (@Kd.T (@Kd.sl (@Kd.int Go.IntKind.u8))) s4))) (@cond (@Option R) (@bnd (0 : Int) (@Go.IntKind.wrap Go.IntKind.i64 (@HAdd.hAdd Int Int Int (@instHAdd Int @Int.instAdd) s5 (1 : Int))) (@Nat.cast Int instNatCastInt (@List.length (@Kd.T (@Kd.sl (@Kd.int Go.IntKind.u8))) (@List.set (@Kd.T (@Kd.sl (@Kd.int Go.IntKind.u8))) s4 (@Int.toNat s5) s0)))) (K (@cut (@Kd.T (@Kd.sl (@Kd.int Go.IntKind.u8))) (@List.set (@Kd.T (@Kd.sl (@Kd.int Go.IntKind.u8))) s4 (@Int.toNat s5) s0) (0 : Int) (@Go.IntKind.wrap Go.IntKind.i64 (@HAdd.hAdd Int Int Int (@instHAdd Int @Int.instAdd) s5 (1 : Int))))) (@Option.none R)) (@Option.none R)) (@cond (@Option R) (@Bool.and (@bnd (0 : Int) (@Go.IntKind.wrap Go.IntKind.i64 (@HAdd.hAdd Int Int Int (@instHAdd Int @Int.instAdd) y10 s2)) (@Go.IntKind.wrap Go.IntKind.i64 (@HAdd.hAdd Int Int Int (@instHAdd Int @Int.instAdd) y10 s2))) (@Decidable.decide (@LE.le Int Int.instLEInt (@Go.IntKind.wrap Go.IntKind.i64 (@HAdd.hAdd Int Int Int (@instHAdd Int @Int.instAdd) y10 s2)) (@Nat.cast Int instNatCastInt (@List.length (@Kd.T (@Kd.int Go.IntKind.u8)) s0))) (@Int.decLe (@Go.IntKind.wrap Go.IntKind.i64 (@HAdd.hAdd Int Int Int (@instHAdd Int @Int.instAdd) y10 s2)) (@Nat.cast Int instNatCastInt (@List.length (@Kd.T (@Kd.int Go.IntKind.u8)) s0))))) (@cond (@Option R) (@inb s5 (@Nat.cast Int instNatCastInt (@List.length (@Kd.T (@Kd.sl (@Kd.int Go.IntKind.u8))) s4))) (@cond (@Option R) (@bnd (@Go.IntKind.wrap Go.IntKind.i64 (@HAdd.hAdd Int Int Int (@instHAdd Int @Int.instAdd) y10 (@Nat.cast Int instNatCastInt (@List.length (@Kd.T (@Kd.int Go.IntKind.u8)) (s1 :: []))))) (@Nat.cast Int instNatCastInt (@List.length (@Kd.T (@Kd.int Go.IntKind.u8)) s0)) (@Nat.cast Int instNatCastInt (@List.length (@Kd.T (@Kd.int Go.IntKind.u8)) s0))) (E1011 (@cut (@Kd.T (@Kd.int Go.IntKind.u8)) s0 (@Go.IntKind.wrap Go.IntKind.i64 (@HAdd.hAdd Int Int Int (@instHAdd Int @Int.instAdd) y10 (@Nat.cast Int instNatCastInt (@List.length (@Kd.T (@Kd.int Go.IntKind.u8)) (s1 :: []))))) (@Nat.cast Int instNatCastInt (@List.length (@Kd.T (@Kd.int Go.IntKind.u8)) s0))) s1 s2 s3 (@List.set (@Kd.T (@Kd.sl (@Kd.int Go.IntKind.u8))) s4 (@Int.toNat s5) (@cut (@Kd.T (@Kd.int Go.IntKind.u8)) s0 (0 : Int) (@Go.IntKind.wrap Go.IntKind.i64 (@HAdd.hAdd Int Int Int (@instHAdd Int @Int.instAdd) y10 s2)))) (@Go.IntKind.wrap Go.IntKind.i64 (@HAdd.hAdd Int Int Int (@instHAdd Int @Int.instAdd) s5 (1 : Int)))) (@Option.none R)) (@Option.none R)) (@Option.none R))))) (@cond (@Option R) (@inb s5 (@Nat.cast Int instNatCastInt (@List.length (@Kd.T (@Kd.sl (@Kd.int Go.IntKind.u8))) s4))) (@cond (@Option R) (@bnd (0 : Int) (@Go.IntKind.wrap Go.IntKind.i64 (@HAdd.hAdd Int Int Int (@instHAdd Int @Int.instAdd) s5 (1 : Int))) (@Nat.cast Int instNatCastInt (@List.length (@Kd.T (@Kd.sl (@Kd.int Go.IntKind.u8))) (@List.set (@Kd.T (@Kd.sl (@Kd.int Go.IntKind.u8))) s4 (@Int.toNat s5) s0)))) (K (@cut (@Kd.T (@Kd.sl (@Kd.int Go.IntKind.u8))) (@List.set (@Kd.T (@Kd.sl (@Kd.int Go.IntKind.u8))) s4 (@Int.toNat s5) s0) (0 : Int) (@Go.IntKind.wrap Go.IntKind.i64 (@HAdd.hAdd Int Int Int (@instHAdd Int @Int.instAdd) s5 (1 : Int))))) (@Option.none R)) (@Option.none R)))
theorem wqik (k : Nat) {R : Type} (I : Nat → St → Option R) (s0 : (List Int)) (s1 s2 s3 : Int) (s4 : (List (List Int))) (s5 : Int) (K : ((List (List Int)) → Option R)) : execK (wqt k) k (at_ [1, 1, 1, 1, 1, 1, 1, 1, 0, 0, 0] wq1v) (wq44 s0 s1 s2 s3 s4 s5) (konts (wqt k) k I [1, 1, 1, 1, 1, 1, 1, 1, 0, 0, 0] wq1v (outK (wqt k) wq5w [.tmp 8] (wq3s K))) = wq78 k (fun s0 s1 s2 s3 s4 s5 => I 1011 (wq44 s0 s1 s2 s3 s4 s5)) s0 s1 s2 s3 s4 s5 K := by kernel_rfl
noncomputable def wqbo (k : Nat) {R : Type} (E1011 : ((List Int) → Int → Int → Int → (List (List Int)) → Int → Option R)) (x0 : (List Int)) (x1 x2 x3 : Int) (K : ((List (List Int)) → Option R)) : Option R := (@cond (@Option R) (@BEq.beq Int (@instBEqOfDecidableEq Int @Int.instDecidableEq) x3 (0 : Int)) (K []) (@cond (@Option R) (@Decidable.decide (@LT.lt Int Int.instLTInt x3 (0 : Int)) (@Int.decLt x3 (0 : Int))) (@wqd5 k R x0 x1 (fun y8 => (@cond (@Option R) (@mkB (@cond (@Kd.T kI) Bool.false (@ite (@Kd.T kI) (@GT.gt (@Kd.T kI) Int.instLTInt (@Go.IntKind.wrap Go.IntKind.i64 (@HAdd.hAdd Int Int Int (@instHAdd Int @Int.instAdd) (@Nat.cast Int instNatCastInt (@List.length (@Kd.T (@Kd.int Go.IntKind.u8)) x0)) (1 : Int))) (@Go.IntKind.wrap Go.IntKind.i64 (@HAdd.hAdd Int Int Int (@instHAdd Int @Int.instAdd) y8 (1 : Int)))) (@Int.decLt (@Go.IntKind.wrap Go.IntKind.i64 (@HAdd.hAdd Int Int Int (@instHAdd Int @Int.instAdd) y8 (1 : Int))) (@Go.IntKind.wrap Go.IntKind.i64 (@HAdd.hAdd Int Int Int (@instHAdd Int @Int.instAdd) (@Nat.cast Int instNatCastInt (@List.length (@Kd.T (@Kd.int Go.IntKind.u8)) x0)) (1 : Int)))) (@Go.IntKind.wrap Go.IntKind.i64 (@HAdd.hAdd Int Int Int (@instHAdd Int @Int.instAdd) (@Nat.cast Int instNatCastInt (@List.length (@Kd.T (@Kd.int Go.IntKind.u8)) x0)) (1 : Int))) (@Go.IntKind.wrap Go.IntKind.i64 (@HAdd.hAdd Int Int Int (@instHAdd Int @Int.instAdd) y8 (1 : Int)))) (@ite (@Kd.T kI) (@LT.lt (@Kd.T kI) Int.instLTInt (@Go.IntKind.wrap Go.IntKind.i64 (@HAdd.hAdd Int Int Int (@instHAdd Int @Int.instAdd) (@Nat.cast Int instNatCastInt (@List.length (@Kd.T (@Kd.int Go.IntKind.u8)) x0)) (1 : Int))) (@Go.IntKind.wrap Go.IntKind.i64 (@HAdd.hAdd Int Int Int (@instHAdd Int @Int.instAdd) y8 (1 : Int)))) (@Int.decLt (@Go.IntKind.wrap Go.IntKind.i64 (@HAdd.hAdd Int Int Int (@instHAdd Int @Int.instAdd) (@Nat.cast Int instNatCastInt (@List.length (@Kd.T (@Kd.int Go.IntKind.u8)) x0)) (1 : Int))) (@Go.IntKind.wrap Go.IntKind.i64 (@HAdd.hAdd Int Int Int (@instHAdd Int @Int.instAdd) y8 (1 : Int)))) (@Go.IntKind.wrap Go.IntKind.i64 (@HAdd.hAdd Int Int Int (@instHAdd Int @Int.instAdd) (@Nat.cast Int instNatCastInt (@List.length (@Kd.T (@Kd.int Go.IntKind.u8)) x0)) (1 : Int))) (@Go.IntKind.wrap Go.IntKind.i64 (@HAdd.hAdd Int Int Int (@instHAdd Int @Int.instAdd) y8 (1 : Int))))) (@cond (@Kd.T kI) Bool.false (@ite (@Kd.T kI) (@GT.gt (@Kd.T kI) Int.instLTInt (@Go.IntKind.wrap Go.IntKind.i64 (@HAdd.hAdd Int Int Int (@instHAdd Int @Int.instAdd) (@Nat.cast Int instNatCastInt (@List.length (@Kd.T (@Kd.int Go.IntKind.u8)) x0)) (1 : Int))) (@Go.IntKind.wrap Go.IntKind.i64 (@HAdd.hAdd Int Int Int (@instHAdd Int @Int.instAdd) y8 (1 : Int)))) (@Int.decLt (@Go.IntKind.wrap Go.IntKind.i64 (@HAdd.hAdd Int Int Int (@instHAdd Int @Int.instAdd) y8 (1 : Int))) (@Go.IntKind.wrap Go.IntKind.i64 (@HAdd.hAdd Int Int Int (@instHAdd Int @Int.instAdd) (@Nat.cast Int instNatCastInt (@List.length (@Kd.T (@Kd.int Go.IntKind.u8)) x0)) (1 : Int)))) (@Go.IntKind.wrap Go.IntKind.i64 (@HAdd.hAdd Int Int Int (@instHAdd Int @Int.instAdd) (@Nat.cast Int instNatCastInt (@List.length (@Kd.T (@Kd.int Go.IntKind.u8)) x0)) (1 : Int))) (@Go.IntKind.wrap Go.IntKind.i64 (@HAdd.hAdd Int Int Int (@instHAdd Int @Int.instAdd) y8 (1 : Int)))) (@ite (@Kd.T kI) (@LT.lt (@Kd.T kI) Int.instLTInt (@Go.IntKind.wrap Go.IntKind.i64 (@HAdd.hAdd Int Int Int (@instHAdd Int @Int.instAdd) (@Nat.cast Int instNatCastInt (@List.length (@Kd.T (@Kd.int Go.IntKind.u8)) x0)) (1 : Int))) (@Go.IntKind.wrap Go.IntKind.i64 (@HAdd.hAdd Int Int Int (@instHAdd Int @Int.instAdd) y8 (1 : Int)))) (@Int.decLt (@Go.IntKind.wrap Go.IntKind.i64 (@HAdd.hAdd Int Int Int (@instHAdd Int @Int.instAdd) (@Nat.cast Int instNatCastInt (@List.length (@Kd.T (@Kd.int Go.IntKind.u8)) x0)) (1 : Int))) (@Go.IntKind.wrap Go.IntKind.i64 (@HAdd.hAdd Int Int Int (@instHAdd Int @Int.instAdd) y8 (1 : Int)))) (@Go.IntKind.wrap Go.IntKind.i64 (@HAdd.hAdd Int Int Int (@instHAdd Int @Int.instAdd) (@Nat.cast Int instNatCastInt (@List.length (@Kd.T (@Kd.int Go.IntKind.u8)) x0)) (1 : Int))) (@Go.IntKind.wrap Go.IntKind.i64 (@HAdd.hAdd Int Int Int (@instHAdd Int @Int.instAdd) y8 (1 : Int))))) (24 : Nat)) (E1011 x0 x1 x2 (@Go.IntKind.wrap Go.IntKind.i64 (@HSub.hSub Int Int Int (@instHSub Int @Int.instSub) (@cond (@Kd.T kI) Bool.false (@ite (@Kd.T kI) (@GT.gt (@Kd.T kI) Int.instLTInt (@Go.IntKind.wrap Go.IntKind.i64 (@HAdd.hAdd Int Int Int (@instHAdd Int @Int.instAdd) (@Nat.cast Int instNatCastInt (@List.length (@Kd.T (@Kd.int Go.IntKind.u8)) x0)) (1 : Int))) (@Go.IntKind.wrap Go.IntKind.i64 (@HAdd.hAdd Int Int Int (@instHAdd Int @Int.instAdd) y8 (1 : Int)))) (@Int.decLt (@Go.IntKind.wrap Go.IntKind.i64 (@HAdd.hAdd Int Int Int (@instHAdd Int @Int.instAdd) y8 (1 : Int))) (@Go.IntKind.wrap Go.IntKind.i64 (@HAdd.hAdd Int Int Int (@instHAdd Int @Int.instAdd) (@Nat.cast Int instNatCastInt (@List.length (@Kd.T (@Kd.int Go.IntKind.u8)) x0)) (1 : Int)))) (@Go.IntKind.wrap Go.IntKind.i64 (@HAdd.hAdd Int Int Int (@instHAdd Int @Int.instAdd) (@Nat.cast Int instNatCastInt (@List.length (@Kd.T (@Kd.int Go.IntKind.u8)) x0)) (1 : Int))) (@Go.IntKind.wrap Go.IntKind.i64 (@HAdd.hAdd Int Int Int (@instHAdd Int @Int.instAdd) y8 (1 : Int)))) (@ite (@Kd.T kI) (@LT.lt (@Kd.T kI) Int.instLTInt (@Go.IntKind.wrap Go.IntKind.i64 (@HAdd.hAdd Int Int Int (@instHAdd Int @Int.instAdd) (@Nat.cast Int instNatCastInt (@List.length (@Kd.T (@Kd.int Go.IntKind.u8)) x0)) (1 : Int))) (@Go.IntKind.wrap Go.IntKind.i64 (@HAdd.hAdd Int Int Int (@instHAdd Int @Int.instAdd) y8 (1 : Int)))) (@Int.decLt (@Go.IntKind.wrap Go.IntKind.i64 (@HAdd.hAdd Int Int Int (@instHAdd Int @Int.instAdd) (@Nat.cast Int instNatCastInt (@List.length (@Kd.T (@Kd.int Go.IntKind.u8)) x0)) (1 : Int))) (@Go.IntKind.wrap Go.IntKind.i64 (@HAdd.hAdd Int Int Int (@instHAdd Int @Int.instAdd) y8 (1 : Int)))) (@Go.IntKind.wrap Go.IntKind.i64 (@HAdd.hAdd Int Int Int (@instHAdd Int @Int.instAdd) (@Nat.cast Int instNatCastInt (@List.length (@Kd.T (@Kd.int Go.IntKind.u8)) x0)) (1 : Int))) (@Go.IntKind.wrap Go.IntKind.i64 (@HAdd.hAdd Int Int Int (@instHAdd Int @Int.instAdd) y8 (1 : Int))))) (1 : Int))) (@zeros (@Kd.sl (@Kd.int Go.IntKind.u8)) (@cond (@Kd.T kI) Bool.false (@ite (@Kd.T kI) (@GT.gt (@Kd.T kI) Int.instLTInt (@Go.IntKind.wrap Go.IntKind.i64 (@HAdd.hAdd Int Int Int (@instHAdd Int @Int.instAdd) (@Nat.cast Int instNatCastInt (@List.length (@Kd.T (@Kd.int Go.IntKind.u8)) x0)) (1 : Int))) (@Go.IntKind.wrap Go.IntKind.i64 (@HAdd.hAdd Int Int Int (@instHAdd Int @Int.instAdd) y8 (1 : Int)))) (@Int.decLt (@Go.IntKind.wrap Go.IntKind.i64 (@HAdd.hAdd Int Int Int (@instHAdd Int @Int.instAdd) y8 (1 : Int))) (@Go.IntKind.wrap Go.IntKind.i64 (@HAdd.hAdd Int Int Int (@instHAdd Int @Int.instAdd) (@Nat.cast Int instNatCastInt (@List.length (@Kd.T (@Kd.int Go.IntKind.u8)) x0)) (1 : Int)))) (@Go.IntKind.wrap Go.IntKind.i64 (@HAdd.hAdd Int Int Int (@instHAdd Int @Int.instAdd) (@Nat.cast Int instNatCastInt (@List.length (@Kd.T (@Kd.int Go.IntKind.u8)) x0)) (1 : Int))) (@Go.IntKind.wrap Go.IntKind.i64 (@HAdd.hAdd Int Int Int (@instHAdd Int @Int.instAdd) y8 (1 : Int)))) (@ite (@Kd.T kI) (@LT.lt (@Kd.T kI) Int.instLTInt (@Go.IntKind.wrap Go.IntKind.i64 (@HAdd.hAdd Int Int Int (@instHAdd Int @Int.instAdd) (@Nat.cast Int instNatCastInt (@List.length (@Kd.T (@Kd.int Go.IntKind.u8)) x0)) (1 : Int))) (@Go.IntKind.wrap Go.IntKind.i64 (@HAdd.hAdd Int Int Int (@instHAdd Int @Int.instAdd) y8 (1 : Int)))) (@Int.decLt (@Go.IntKind.wrap Go.IntKind.i64 (@HAdd.hAdd Int Int Int (@instHAdd Int @Int.instAdd) (@Nat.cast Int instNatCastInt (@List.length (@Kd.T (@Kd.int Go.IntKind.u8)) x0)) (1 : Int))) (@Go.IntKind.wrap Go.IntKind.i64 (@HAdd.hAdd Int Int Int (@instHAdd Int @Int.instAdd) y8 (1 : Int)))) (@Go.IntKind.wrap Go.IntKind.i64 (@HAdd.hAdd Int Int Int (@instHAdd Int @Int.instAdd) (@Nat.cast Int instNatCastInt (@List.length (@Kd.T (@Kd.int Go.IntKind.u8)) x0)) (1 : Int))) (@Go.IntKind.wrap Go.IntKind.i64 (@HAdd.hAdd Int Int Int (@instHAdd Int @Int.instAdd) y8 (1 : Int)))))) (0 : Int)) (@Option.none R)))) (@cond (@Option R) (@mkB (@cond (@Kd.T kI) Bool.false (@ite (@Kd.T kI) (@GT.gt (@Kd.T kI) Int.instLTInt (@Go.IntKind.wrap Go.IntKind.i64 (@HAdd.hAdd Int Int Int (@instHAdd Int @Int.instAdd) (@Nat.cast Int instNatCastInt (@List.length (@Kd.T (@Kd.int Go.IntKind.u8)) x0)) (1 : Int))) x3) (@Int.decLt x3 (@Go.IntKind.wrap Go.IntKind.i64 (@HAdd.hAdd Int Int Int (@instHAdd Int @Int.instAdd) (@Nat.cast Int instNatCastInt (@List.length (@Kd.T (@Kd.int Go.IntKind.u8)) x0)) (1 : Int)))) (@Go.IntKind.wrap Go.IntKind.i64 (@HAdd.hAdd Int Int Int (@instHAdd Int @Int.instAdd) (@Nat.cast Int instNatCastInt (@List.length (@Kd.T (@Kd.int Go.IntKind.u8)) x0)) (1 : Int))) x3) (@ite (@Kd.T kI) (@LT.lt (@Kd.T kI) Int.instLTInt (@Go.IntKind.wrap Go.IntKind.i64 (@HAdd.hAdd Int Int Int (@instHAdd Int @Int.instAdd) (@Nat.cast Int instNatCastInt (@List.length (@Kd.T (@Kd.int Go.IntKind.u8)) x0)) (1 : Int))) x3) (@Int.decLt (@Go.IntKind.wrap Go.IntKind.i64 (@HAdd.hAdd Int Int Int (@instHAdd Int @Int.instAdd) (@Nat.cast Int instNatCastInt (@List.length (@Kd.T (@Kd.int Go.IntKind.u8)) x0)) (1 : Int))) x3) (@Go.IntKind.wrap Go.IntKind.i64 (@HAdd.hAdd Int Int Int (@instHAdd Int @Int.instAdd) (@Nat.cast Int instNatCastInt (@List.length (@Kd.T (@Kd.int Go.IntKind.u8)) x0)) (1 : Int))) x3)) (@cond (@Kd.T kI) Bool.false (@ite (@Kd.T kI) (@GT.gt (@Kd.T kI) Int.instLTInt (@Go.IntKind.wrap Go.IntKind.i64 (@HAdd.hAdd Int Int Int (@instHAdd Int @Int.instAdd) (@Nat.cast Int instNatCastInt (@List.length (@Kd.T (@Kd.int Go.IntKind.u8)) x0)) (1 : Int))) x3) (@Int.decLt x3 (@Go.IntKind.wrap Go.IntKind.i64 (@HAdd.hAdd Int Int Int (@instHAdd Int @Int.instAdd) (@Nat.cast Int instNatCastInt (@List.length (@Kd.T (@Kd.int Go.IntKind.u8)) x0)) (1 : Int)))) (@Go.IntKind.wrap Go.IntKind.i64 (@HAdd.hAdd Int Int Int (@instHAdd Int @Int.instAdd) (@Nat.cast Int instNatCastInt (@List.length (@Kd.T (@Kd.int Go.IntKind.u8)) x0)) (1 : Int))) x3) (@ite (@Kd.T kI) (@LT.lt (@Kd.T kI) Int.instLTInt (@Go.IntKind.wrap Go.IntKind.i64 (@HAdd.hAdd Int Int Int (@instHAdd Int @Int.instAdd) (@Nat.cast Int instNatCastInt (@List.length (@Kd.T (@Kd.int Go.IntKind.u8)) x0)) (1 : Int))) x3) (@Int.decLt (@Go.IntKind.wrap Go.IntKind.i64 (@HAdd.hAdd Int Int Int (@instHAdd Int @Int.instAdd) (@Nat.cast Int instNatCastInt (@List.length (@Kd.T (@Kd.int Go.IntKind.u8)) x0)) (1 : Int))) x3) (@Go.IntKind.wrap Go.IntKind.i64 (@HAdd.hAdd Int Int Int (@instHAdd Int @Int.instAdd) (@Nat.cast Int instNatCastInt (@List.length (@Kd.T (@Kd.int Go.IntKind.u8)) x0)) (1 : Int))) x3)) (24 : Nat)) (E1011 x0 x1 x2 (@Go.IntKind.wrap Go.IntKind.i64 (@HSub.hSub Int Int Int (@instHSub Int @Int.instSub) (@cond (@Kd.T kI) Bool.false (@ite (@Kd.T kI) (@GT.gt (@Kd.T kI) Int.instLTInt (@Go.IntKind.wrap Go.IntKind.i64 (@HAdd.hAdd Int Int Int (@instHAdd Int @Int.instAdd) (@Nat.cast Int instNatCastInt (@List.length (@Kd.T (@Kd.int Go.IntKind.u8)) x0)) (1 : Int))) x3) (@Int.decLt x3 (@Go.IntKind.wrap Go.IntKind.i64 (@HAdd.hAdd Int Int Int (@instHAdd Int @Int.instAdd) (@Nat.cast Int instNatCastInt (@List.length (@Kd.T (@Kd.int Go.IntKind.u8)) x0)) (1 : Int)))) (@Go.IntKind.wrap Go.IntKind.i64 (@HAdd.hAdd Int Int Int (@instHAdd Int @Int.instAdd) (@Nat.cast Int instNatCastInt (@List.length (@Kd.T (@Kd.int Go.IntKind.u8)) x0)) (1 : Int))) x3) (@ite (@Kd.T kI) (@LT.lt (@Kd.T kI) Int.instLTInt (@Go.IntKind.wrap Go.IntKind.i64 (@HAdd.hAdd Int Int Int (@instHAdd Int @Int.instAdd) (@Nat.cast Int instNatCastInt (@List.length (@Kd.T (@Kd.int Go.IntKind.u8)) x0)) (1 : Int))) x3) (@Int.decLt (@Go.IntKind.wrap Go.IntKind.i64 (@HAdd.hAdd Int Int Int (@instHAdd Int @Int.instAdd) (@Nat.cast Int instNatCastInt (@List.length (@Kd.T (@Kd.int Go.IntKind.u8)) x0)) (1 : Int))) x3) (@Go.IntKind.wrap Go.IntKind.i64 (@HAdd.hAdd Int Int Int (@instHAdd Int @Int.instAdd) (@Nat.cast Int instNatCastInt (@List.length (@Kd.T (@Kd.int Go.IntKind.u8)) x0)) (1 : Int))) x3)) (1 : Int))) (@zeros (@Kd.sl (@Kd.int Go.IntKind.u8)) (@cond (@Kd.T kI) Bool.false (@ite (@Kd.T kI) (@GT.gt (@Kd.T kI) Int.instLTInt (@Go.IntKind.wrap Go.IntKind.i64 (@HAdd.hAdd Int Int Int (@instHAdd Int @Int.instAdd) (@Nat.cast Int instNatCastInt (@List.length (@Kd.T (@Kd.int Go.IntKind.u8)) x0)) (1 : Int))) x3) (@Int.decLt x3 (@Go.IntKind.wrap Go.IntKind.i64 (@HAdd.hAdd Int Int Int (@instHAdd Int @Int.instAdd) (@Nat.cast Int instNatCastInt (@List.length (@Kd.T (@Kd.int Go.IntKind.u8)) x0)) (1 : Int)))) (@Go.IntKind.wrap Go.IntKind.i64 (@HAdd.hAdd Int Int Int (@instHAdd Int @Int.instAdd) (@Nat.cast Int instNatCastInt (@List.length (@Kd.T (@Kd.int Go.IntKind.u8)) x0)) (1 : Int))) x3) (@ite (@Kd.T kI) (@LT.lt (@Kd.T kI) Int.instLTInt (@Go.IntKind.wrap Go.IntKind.i64 (@HAdd.hAdd Int Int Int (@instHAdd Int @Int.instAdd) (@Nat.cast Int instNatCastInt (@List.length (@Kd.T (@Kd.int Go.IntKind.u8)) x0)) (1 : Int))) x3) (@Int.decLt (@Go.IntKind.wrap Go.IntKind.i64 (@HAdd.hAdd Int Int Int (@instHAdd Int @Int.instAdd) (@Nat.cast Int instNatCastInt (@List.length (@Kd.T (@Kd.int Go.IntKind.u8)) x0)) (1 : Int))) x3) (@Go.IntKind.wrap Go.IntKind.i64 (@HAdd.hAdd Int Int Int (@instHAdd Int @Int.instAdd) (@Nat.cast Int instNatCastInt (@List.length (@Kd.T (@Kd.int Go.IntKind.u8)) x0)) (1 : Int))) x3))) (0 : Int)) (@Option.none R))))
theorem wqqx (k : Nat) {R : Type} (I : Nat → St → Option R) (x0 : (List Int)) (x1 x2 x3 : Int) (K : ((List (List Int)) → Option R)) : fnK (wqt k) k wq1v 70 [.tmp 8] wq5w [.v (.sl (.int .u8)) x0, .v (.sl (.int .u8)) [x1], .v (.int .i64) x2, .v (.int .i64) x3] [] (wq3s K) = wqbo k (fun s0 s1 s2 s3 s4 s5 => iter (wqt k).pv (look (wqt k).cuts 1011) (execK (wqt k) k (at_ [1, 1, 1, 1, 1, 1, 1, 1, 0, 0, 0] wq1v)) k (wq44 s0 s1 s2 s3 s4 s5) (konts (wqt k) k I [1, 1, 1, 1, 1, 1, 1, 1, 0, 0] wq1v (outK (wqt k) wq5w [.tmp 8] (wq3s K)))) x0 x1 x2 x3 K := by kernel_rfl
noncomputable def wq36 (k : Nat) {R : Type}  : Nat → (List Int) → Int → Int → Int → (List (List Int)) → Int → ((List (List Int)) → Option R) → Option R
  | 0, _, _, _, _, _, _, _ => none
  | n + 1, s0, s1, s2, s3, s4, s5, K => wq78 k (fun s0 s1 s2 s3 s4 s5 => wq36 k  n s0 s1 s2 s3 s4 s5 K) s0 s1 s2 s3 s4 s5 K
theorem wqil (k : Nat) {R : Type} (I : Nat → St → Option R) (K : ((List (List Int)) → Option R)) : ∀ (n : Nat) (s0 : (List Int)) (s1 s2 s3 : Int) (s4 : (List (List Int))) (s5 : Int), iter (wqt k).pv (look (wqt k).cuts 1011) (execK (wqt k) k (at_ [1, 1, 1, 1, 1, 1, 1, 1, 0, 0, 0] wq1v)) n (wq44 s0 s1 s2 s3 s4 s5) (konts (wqt k) k I [1, 1, 1, 1, 1, 1, 1, 1, 0, 0] wq1v (outK (wqt k) wq5w [.tmp 8] (wq3s K))) = wq36 k  n s0 s1 s2 s3 s4 s5 K := by
  intro n
  induction n with
  | zero => intros; rfl
  | succ n ih =>
    intro s0 s1 s2 s3 s4 s5
    let I' : Nat → St → Option R := fun id s => bif Nat.beq id 1011 then iter (wqt k).pv (look (wqt k).cuts 1011) (execK (wqt k) k (at_ [1, 1, 1, 1, 1, 1, 1, 1, 0, 0, 0] wq1v)) n s (konts (wqt k) k I [1, 1, 1, 1, 1, 1, 1, 1, 0, 0] wq1v (outK (wqt k) wq5w [.tmp 8] (wq3s K))) else I id s
    have e := wqik k I' s0 s1 s2 s3 s4 s5 K
    have h1011 : (fun s0 s1 s2 s3 s4 s5 => I' 1011 (wq44 s0 s1 s2 s3 s4 s5)) = (fun s0 s1 s2 s3 s4 s5 => wq36 k  n s0 s1 s2 s3 s4 s5 K) := by funext s0 s1 s2 s3 s4 s5; exact ih s0 s1 s2 s3 s4 s5
    refine Eq.trans (?_ : _ = _) (e.trans (Eq.trans ((congrArg ((fun E1011 => wq78 k E1011 s0 s1 s2 s3 s4 s5 K)) h1011)) (by rw [wq36])))
    rfl
noncomputable def wqbp (k : Nat) {R : Type} (x0 : (List Int)) (x1 x2 x3 : Int) (K : ((List (List Int)) → Option R)) : Option R := wqbo k (fun s0 s1 s2 s3 s4 s5 => wq36 k k s0 s1 s2 s3 s4 s5 K) x0 x1 x2 x3 K
theorem wqqy (k : Nat) {R : Type} (x0 : (List Int)) (x1 x2 x3 : Int) (K : ((List (List Int)) → Option R)) : fnK (wqt k) k wq1v 70 [.tmp 8] wq5w [.v (.sl (.int .u8)) x0, .v (.sl (.int .u8)) [x1], .v (.int .i64) x2, .v (.int .i64) x3] [] (wq3s K) = wqbp k x0 x1 x2 x3 K := by
  let I : Nat → St → Option R := fun _ _ => none
  have h1011 : (fun s0 s1 s2 s3 s4 s5 => iter (wqt k).pv (look (wqt k).cuts 1011) (execK (wqt k) k (at_ [1, 1, 1, 1, 1, 1, 1, 1, 0, 0, 0] wq1v)) k (wq44 s0 s1 s2 s3 s4 s5) (konts (wqt k) k I [1, 1, 1, 1, 1, 1, 1, 1, 0, 0] wq1v (outK (wqt k) wq5w [.tmp 8] (wq3s K)))) = (fun s0 s1 s2 s3 s4 s5 => wq36 k k s0 s1 s2 s3 s4 s5 K) := by funext s0 s1 s2 s3 s4 s5; exact wqil k I K k s0 s1 s2 s3 s4 s5
  exact (wqqx k I x0 x1 x2 x3 K).trans (congrArg ((fun E1011 => wqbo k E1011 x0 x1 x2 x3 K)) h1011)
noncomputable def wqcm (k : Nat) {R : Type} : List PV → List (Nm × HObj) → (Out → Option R) → Option R
  | [.v (.sl (.int .u8)) x0, .v (.sl (.int .u8)) [x1], .v (.int .i64) x2, .v (.int .i64) x3], [], K => wqbp k x0 x1 x2 x3 (fun y0 => K (.ret [.v (.sl (.sl (.int .u8))) y0] []))
  | _, _, _ => none
theorem wqqz (k : Nat) : (wql1 k).Ok Tryz.prog := (CTab.add_ok (fun h => wq13h k h) (CTab.add_ok (fun h => wq13i k h) CTab.nil_ok))
theorem wqwi (k : Nat) {ps : List PV} {hp : List (Nm × HObj)} {R : Type} {K : Out → Option R} {r : R} (h : wqcm k ps hp K = some r) : DoesTo Tryz.prog 79 ps hp fun out => K out = some r := by
  unfold wqcm at h
  split at h
  · rw [← wqqy] at h
    have := fn_ok (P := Tryz.prog) (cx := wqt k) (f := 79) ⟨tyT_ok, wqqz k, fun _ _ => rfl⟩ (by kernel_rfl) (fn := Tryz.f79) (c := wq1v) (by kernel_rfl) (by kernel_rfl) (by kernel_rfl) (rs := [.tmp 8]) (by kernel_rfl) (by kernel_rfl) h
    exact this.mono fun out ho => by
      unfold wq3s at ho
      split at ho <;> first | exact ho | cases ho
  · cases h
end Go.Proofs.YtpfbdepoammjmaaGreatDoor.Pvm

set_option maxRecDepth 1000000
set_option maxHeartbeats 0
namespace Go.Proofs.YtpfbdepoammjmaaGreatDoor.Pvm
open Go Go.Proofs
def wqyy : List LS := [.sl (.int .u8), .sl (.int .u8)]
noncomputable def wqt2 (k : Nat) : CTab := (CTab.add 79 wqsc (wqcm k) CTab.nil)
def wqez {R : Type} (K : ((List (List Int)) → Option R)) : Out → Option R
  | .ret [.v (.sl (.sl (.int .u8))) y0] [] => K y0
  | _ => none
def wqr0 : RetSpec := ⟨[.sl (.sl (.int .u8))], [], []⟩
def wqwj : List (Nat × CutSpec) := []
def wqtu : List (Nat × Plan) := []
noncomputable def wqim (k : Nat) : Ctx := ⟨tyT, wqwj, wqt2 k, [], [], wqtu, @SH⟩
noncomputable def wqf0 : Code := Tryz.f44.body.getD .skip
noncomputable def wql2 (k : Nat) {R : Type}  (x0 : (List Int)) (x1 : Int) (K : ((List (List Int)) → Option R)) : Option R := (@wqbp k R x0 x1 (0 : Int) (@Neg.neg Int @Int.instNegInt (1 : Int)) (fun y5 => (K y5)))
theorem wqwk (k : Nat) {R : Type} (I : Nat → St → Option R) (x0 : (List Int)) (x1 : Int) (K : ((List (List Int)) → Option R)) : fnK (wqim k) k wqf0 8 [.tmp 4] wqr0 [.v (.sl (.int .u8)) x0, .v (.sl (.int .u8)) [x1]] [] (wqez K) = wql2 k  x0 x1 K := by kernel_rfl
noncomputable def wqd7 (k : Nat) {R : Type} (x0 : (List Int)) (x1 : Int) (K : ((List (List Int)) → Option R)) : Option R := wql2 k  x0 x1 K
theorem wqwl (k : Nat) {R : Type} (x0 : (List Int)) (x1 : Int) (K : ((List (List Int)) → Option R)) : fnK (wqim k) k wqf0 8 [.tmp 4] wqr0 [.v (.sl (.int .u8)) x0, .v (.sl (.int .u8)) [x1]] [] (wqez K) = wqd7 k x0 x1 K := by
  exact wqwk k (fun _ _ => none) x0 x1 K
noncomputable def wqgo (k : Nat) {R : Type} : List PV → List (Nm × HObj) → (Out → Option R) → Option R
  | [.v (.sl (.int .u8)) x0, .v (.sl (.int .u8)) [x1]], [], K => wqd7 k x0 x1 (fun y0 => K (.ret [.v (.sl (.sl (.int .u8))) y0] []))
  | _, _, _ => none
theorem wqwm (k : Nat) : (wqt2 k).Ok Tryz.prog := (CTab.add_ok (fun h => wqwi k h) CTab.nil_ok)
theorem wq13j (k : Nat) {ps : List PV} {hp : List (Nm × HObj)} {R : Type} {K : Out → Option R} {r : R} (h : wqgo k ps hp K = some r) : DoesTo Tryz.prog 44 ps hp fun out => K out = some r := by
  unfold wqgo at h
  split at h
  · rw [← wqwl] at h
    have := fn_ok (P := Tryz.prog) (cx := wqim k) (f := 44) ⟨tyT_ok, wqwm k, fun _ _ => rfl⟩ (by kernel_rfl) (fn := Tryz.f44) (c := wqf0) (by kernel_rfl) (by kernel_rfl) (by kernel_rfl) (rs := [.tmp 4]) (by kernel_rfl) (by kernel_rfl) h
    exact this.mono fun out ho => by
      unfold wqez at ho
      split at ho <;> first | exact ho | cases ho
  · cases h
end Go.Proofs.YtpfbdepoammjmaaGreatDoor.Pvm

set_option maxRecDepth 1000000
set_option maxHeartbeats 0
namespace Go.Proofs.YtpfbdepoammjmaaGreatDoor.Pvm
open Go Go.Proofs
def wqyz : List LS := [.any, .any]
noncomputable def wqt3 (k : Nat) : CTab := CTab.nil
def wq5c {R : Type} (K : (Int → Bool → Option R)) : Out → Option R
  | .ret [.v (.int .i64) y0, .v .bool y1] [] => K y0 y1
  | _ => none
def wq7p : RetSpec := ⟨[.any, .any], [], []⟩
def wqwn : List (Nat × CutSpec) := [(1003, ⟨[(0, .any), (6, .any), (7, .any)], []⟩)]
def wqtv : List (Nat × Plan) := []
noncomputable def wq15 (k : Nat) : Ctx := ⟨tyT, wqwn, wqt3 k, [], [], wqtv, @SH⟩
noncomputable def wq2j : Code := Tryz.f85.body.getD .skip
def wq5i (s0 : (List UInt8)) (s1 s2 : Int) : St := ⟨mkT [(0, .v .str s0), (6, .v (.int .u8) s1), (7, .v (.int .i64) s2)], mkH []⟩
noncomputable def wq94 (k : Nat) {R : Type} (E1003 : ((List UInt8) → Int → Int → Option R)) (s0 : (List UInt8)) (s1 s2 : Int) (K : (Int → Bool → Option R)) : Option R := (@cond (@Option R) (@Decidable.decide (@LT.lt Int Int.instLTInt s2 (@Nat.cast Int instNatCastInt (@List.length UInt8 s0))) (@Int.decLt s2 (@Nat.cast Int instNatCastInt (@List.length UInt8 s0)))) (@cond (@Option R) (@Bool.or (@Bool.not (@BEq.beq (@Kd.T Kd.bool) (@instBEqOfDecidableEq (@Kd.T Kd.bool) @instDecidableEqBool) (@BEq.beq Int (@instBEqOfDecidableEq Int @Int.instDecidableEq) s1 (34 : Int)) Bool.true)) (@inb s2 (@Nat.cast Int instNatCastInt (@List.length UInt8 s0)))) (@cond (@Option R) (@cond (@Kd.T Kd.bool) (@BEq.beq Int (@instBEqOfDecidableEq Int @Int.instDecidableEq) s1 (34 : Int)) (@BEq.beq Int (@instBEqOfDecidableEq Int @Int.instDecidableEq) (@Nat.cast Int instNatCastInt (@UInt8.toNat (@List.getD UInt8 s0 (@Int.toNat s2) (0 : UInt8)))) (92 : Int)) Bool.false) (E1003 s0 s1 (@Go.IntKind.wrap Go.IntKind.i64 (@HAdd.hAdd Int Int Int (@instHAdd Int @Int.instAdd) (@Go.IntKind.wrap Go.IntKind.i64 (@HAdd.hAdd Int Int Int (@instHAdd Int @Int.instAdd) s2 (1 : Int))) (1 : Int)))) (@cond (@Option R) (@inb s2 (@Nat.cast Int instNatCastInt (@List.length UInt8 s0))) (@cond (@Option R) (@bne Int (@instBEqOfDecidableEq Int @Int.instDecidableEq) (@Nat.cast Int instNatCastInt (@UInt8.toNat (@List.getD UInt8 s0 (@Int.toNat s2) (0 : UInt8)))) s1) (E1003 s0 s1 (@Go.IntKind.wrap Go.IntKind.i64 (@HAdd.hAdd Int Int Int (@instHAdd Int @Int.instAdd) s2 (1 : Int)))) (@cond (@Option R) (@Bool.or (@Bool.not (@BEq.beq (@Kd.T Kd.bool) (@instBEqOfDecidableEq (@Kd.T Kd.bool) @instDecidableEqBool) (@cond (@Kd.T Kd.bool) (@BEq.beq Int (@instBEqOfDecidableEq Int @Int.instDecidableEq) s1 (39 : Int)) (@Decidable.decide (@LT.lt Int Int.instLTInt (@Go.IntKind.wrap Go.IntKind.i64 (@HAdd.hAdd Int Int Int (@instHAdd Int @Int.instAdd) s2 (1 : Int))) (@Nat.cast Int instNatCastInt (@List.length UInt8 s0))) (@Int.decLt (@Go.IntKind.wrap Go.IntKind.i64 (@HAdd.hAdd Int Int Int (@instHAdd Int @Int.instAdd) s2 (1 : Int))) (@Nat.cast Int instNatCastInt (@List.length UInt8 s0)))) Bool.false) Bool.true)) (@inb (@Go.IntKind.wrap Go.IntKind.i64 (@HAdd.hAdd Int Int Int (@instHAdd Int @Int.instAdd) s2 (1 : Int))) (@Nat.cast Int instNatCastInt (@List.length UInt8 s0)))) (@cond (@Option R) (@cond (@Kd.T Kd.bool) (@cond (@Kd.T Kd.bool) (@BEq.beq Int (@instBEqOfDecidableEq Int @Int.instDecidableEq) s1 (39 : Int)) (@Decidable.decide (@LT.lt Int Int.instLTInt (@Go.IntKind.wrap Go.IntKind.i64 (@HAdd.hAdd Int Int Int (@instHAdd Int @Int.instAdd) s2 (1 : Int))) (@Nat.cast Int instNatCastInt (@List.length UInt8 s0))) (@Int.decLt (@Go.IntKind.wrap Go.IntKind.i64 (@HAdd.hAdd Int Int Int (@instHAdd Int @Int.instAdd) s2 (1 : Int))) (@Nat.cast Int instNatCastInt (@List.length UInt8 s0)))) Bool.false) (@BEq.beq Int (@instBEqOfDecidableEq Int @Int.instDecidableEq) (@Nat.cast Int instNatCastInt (@UInt8.toNat (@List.getD UInt8 s0 (@Int.toNat (@Go.IntKind.wrap Go.IntKind.i64 (@HAdd.hAdd Int Int Int (@instHAdd Int @Int.instAdd) s2 (1 : Int)))) (0 : UInt8)))) s1) Bool.false) (E1003 s0 s1 (@Go.IntKind.wrap Go.IntKind.i64 (@HAdd.hAdd Int Int Int (@instHAdd Int @Int.instAdd) (@Go.IntKind.wrap Go.IntKind.i64 (@HAdd.hAdd Int Int Int (@instHAdd Int @Int.instAdd) s2 (1 : Int))) (1 : Int)))) (K s2 Bool.true)) (@Option.none R))) (@Option.none R))) (@Option.none R)) (K (0 : Int) Bool.false))
theorem wqn7 (k : Nat) {R : Type} (I : Nat → St → Option R) (s0 : (List UInt8)) (s1 s2 : Int) (K : (Int → Bool → Option R)) : execK (wq15 k) k (at_ [1, 1, 0, 1, 0, 0] wq2j) (wq5i s0 s1 s2) (konts (wq15 k) k I [1, 1, 0, 1, 0, 0] wq2j (outK (wq15 k) wq7p [.tmp 4, .tmp 5] (wq5c K))) = wq94 k (fun s0 s1 s2 => I 1003 (wq5i s0 s1 s2)) s0 s1 s2 K := by kernel_rfl
noncomputable def wqg1 (k : Nat) {R : Type} (E1003 : ((List UInt8) → Int → Int → Option R)) (x0 : (List UInt8)) (x1 : Int) (K : (Int → Bool → Option R)) : Option R := (@cond (@Option R) (@inb x1 (@Nat.cast Int instNatCastInt (@List.length UInt8 x0))) (E1003 x0 (@Nat.cast Int instNatCastInt (@UInt8.toNat (@List.getD UInt8 x0 (@Int.toNat x1) (0 : UInt8)))) (@Go.IntKind.wrap Go.IntKind.i64 (@HAdd.hAdd Int Int Int (@instHAdd Int @Int.instAdd) x1 (1 : Int)))) (@Option.none R))
theorem wqwo (k : Nat) {R : Type} (I : Nat → St → Option R) (x0 : (List UInt8)) (x1 : Int) (K : (Int → Bool → Option R)) : fnK (wq15 k) k wq2j 57 [.tmp 4, .tmp 5] wq7p [.v .str x0, .v (.int .i64) x1] [] (wq5c K) = wqg1 k (fun s0 s1 s2 => iter (wq15 k).pv (look (wq15 k).cuts 1003) (execK (wq15 k) k (at_ [1, 1, 0, 1, 0, 0] wq2j)) k (wq5i s0 s1 s2) (konts (wq15 k) k I [1, 1, 0, 1, 0] wq2j (outK (wq15 k) wq7p [.tmp 4, .tmp 5] (wq5c K)))) x0 x1 K := by kernel_rfl
noncomputable def wq45 (k : Nat) {R : Type}  : Nat → (List UInt8) → Int → Int → (Int → Bool → Option R) → Option R
  | 0, _, _, _, _ => none
  | n + 1, s0, s1, s2, K => wq94 k (fun s0 s1 s2 => wq45 k  n s0 s1 s2 K) s0 s1 s2 K
theorem wqn8 (k : Nat) {R : Type} (I : Nat → St → Option R) (K : (Int → Bool → Option R)) : ∀ (n : Nat) (s0 : (List UInt8)) (s1 s2 : Int), iter (wq15 k).pv (look (wq15 k).cuts 1003) (execK (wq15 k) k (at_ [1, 1, 0, 1, 0, 0] wq2j)) n (wq5i s0 s1 s2) (konts (wq15 k) k I [1, 1, 0, 1, 0] wq2j (outK (wq15 k) wq7p [.tmp 4, .tmp 5] (wq5c K))) = wq45 k  n s0 s1 s2 K := by
  intro n
  induction n with
  | zero => intros; rfl
  | succ n ih =>
    intro s0 s1 s2
    let I' : Nat → St → Option R := fun id s => bif Nat.beq id 1003 then iter (wq15 k).pv (look (wq15 k).cuts 1003) (execK (wq15 k) k (at_ [1, 1, 0, 1, 0, 0] wq2j)) n s (konts (wq15 k) k I [1, 1, 0, 1, 0] wq2j (outK (wq15 k) wq7p [.tmp 4, .tmp 5] (wq5c K))) else I id s
    have e := wqn7 k I' s0 s1 s2 K
    have h1003 : (fun s0 s1 s2 => I' 1003 (wq5i s0 s1 s2)) = (fun s0 s1 s2 => wq45 k  n s0 s1 s2 K) := by funext s0 s1 s2; exact ih s0 s1 s2
    refine Eq.trans (?_ : _ = _) (e.trans (Eq.trans ((congrArg ((fun E1003 => wq94 k E1003 s0 s1 s2 K)) h1003)) (by rw [wq45])))
    rfl
noncomputable def wqb1 (k : Nat) {R : Type} (x0 : (List UInt8)) (x1 : Int) (K : (Int → Bool → Option R)) : Option R := wqg1 k (fun s0 s1 s2 => wq45 k k s0 s1 s2 K) x0 x1 K
theorem wqwp (k : Nat) {R : Type} (x0 : (List UInt8)) (x1 : Int) (K : (Int → Bool → Option R)) : fnK (wq15 k) k wq2j 57 [.tmp 4, .tmp 5] wq7p [.v .str x0, .v (.int .i64) x1] [] (wq5c K) = wqb1 k x0 x1 K := by
  let I : Nat → St → Option R := fun _ _ => none
  have h1003 : (fun s0 s1 s2 => iter (wq15 k).pv (look (wq15 k).cuts 1003) (execK (wq15 k) k (at_ [1, 1, 0, 1, 0, 0] wq2j)) k (wq5i s0 s1 s2) (konts (wq15 k) k I [1, 1, 0, 1, 0] wq2j (outK (wq15 k) wq7p [.tmp 4, .tmp 5] (wq5c K)))) = (fun s0 s1 s2 => wq45 k k s0 s1 s2 K) := by funext s0 s1 s2; exact wqn8 k I K k s0 s1 s2
  exact (wqwo k I x0 x1 K).trans (congrArg ((fun E1003 => wqg1 k E1003 x0 x1 K)) h1003)
noncomputable def wqgp (k : Nat) {R : Type} : List PV → List (Nm × HObj) → (Out → Option R) → Option R
  | [.v .str x0, .v (.int .i64) x1], [], K => wqb1 k x0 x1 (fun y0 y1 => K (.ret [.v (.int .i64) y0, .v .bool y1] []))
  | _, _, _ => none
theorem wqwq (k : Nat) : (wqt3 k).Ok Tryz.prog := CTab.nil_ok
theorem wq13k (k : Nat) {ps : List PV} {hp : List (Nm × HObj)} {R : Type} {K : Out → Option R} {r : R} (h : wqgp k ps hp K = some r) : DoesTo Tryz.prog 85 ps hp fun out => K out = some r := by
  unfold wqgp at h
  split at h
  · rw [← wqwp] at h
    have := fn_ok (P := Tryz.prog) (cx := wq15 k) (f := 85) ⟨tyT_ok, wqwq k, fun _ _ => rfl⟩ (by kernel_rfl) (fn := Tryz.f85) (c := wq2j) (by kernel_rfl) (by kernel_rfl) (by kernel_rfl) (rs := [.tmp 4, .tmp 5]) (by kernel_rfl) (by kernel_rfl) h
    exact this.mono fun out ho => by
      unfold wq5c at ho
      split at ho <;> first | exact ho | cases ho
  · cases h
end Go.Proofs.YtpfbdepoammjmaaGreatDoor.Pvm

set_option maxRecDepth 1000000
set_option maxHeartbeats 0
namespace Go.Proofs.YtpfbdepoammjmaaGreatDoor.Pvm
open Go Go.Proofs
def wqht : List LS := [.any, .any]
noncomputable def wqc5 (k : Nat) : CTab := CTab.nil
def wq21 {R : Type} (K : ((List UInt8) → Option R)) : Out → Option R
  | .ret [.v .str y0] [] => K y0
  | _ => none
def wq2v : RetSpec := ⟨[.any], [], []⟩
def wqgq : List (Nat × CutSpec) := [(1001, ⟨[(0, .any), (1, .any)], []⟩)]
def wqfn : List (Nat × Plan) := []
noncomputable def wq9 (k : Nat) : Ctx := ⟨tyT, wqgq, wqc5 k, [], [], wqfn, @SH⟩
noncomputable def wqx : Code := Tryz.f121.body.getD .skip
def wq2e (s0 : (List UInt8)) (s1 : Int) : St := ⟨mkT [(0, .v .str s0), (1, .v (.int .u8) s1)], mkH []⟩
noncomputable def wq4j (k : Nat) {R : Type} (E1001 : ((List UInt8) → Int → Option R)) (s0 : (List UInt8)) (s1 : Int) (K : ((List UInt8) → Option R)) : Option R := (@cond (@Option R) (@Bool.or (@Bool.not (@BEq.beq (@Kd.T Kd.bool) (@instBEqOfDecidableEq (@Kd.T Kd.bool) @instDecidableEqBool) (@Decidable.decide (@GT.gt Int Int.instLTInt (@Nat.cast Int instNatCastInt (@List.length UInt8 s0)) (0 : Int)) (@Int.decLt (0 : Int) (@Nat.cast Int instNatCastInt (@List.length UInt8 s0)))) Bool.true)) (@inb (@Go.IntKind.wrap Go.IntKind.i64 (@HSub.hSub Int Int Int (@instHSub Int @Int.instSub) (@Nat.cast Int instNatCastInt (@List.length UInt8 s0)) (1 : Int))) (@Nat.cast Int instNatCastInt (@List.length UInt8 s0)))) (@cond (@Option R) (@cond (@Kd.T Kd.bool) (@Decidable.decide (@GT.gt Int Int.instLTInt (@Nat.cast Int instNatCastInt (@List.length UInt8 s0)) (0 : Int)) (@Int.decLt (0 : Int) (@Nat.cast Int instNatCastInt (@List.length UInt8 s0)))) (@BEq.beq Int (@instBEqOfDecidableEq Int @Int.instDecidableEq) (@Nat.cast Int instNatCastInt (@UInt8.toNat (@List.getD UInt8 s0 (@Int.toNat (@Go.IntKind.wrap Go.IntKind.i64 (@HSub.hSub Int Int Int (@instHSub Int @Int.instSub) (@Nat.cast Int instNatCastInt (@List.length UInt8 s0)) (1 : Int)))) (0 : UInt8)))) s1) Bool.false) (@cond (@Option R) (@bnd (0 : Int) (@Go.IntKind.wrap Go.IntKind.i64 (@HSub.hSub Int Int Int (@instHSub Int @Int.instSub) (@Nat.cast Int instNatCastInt (@List.length UInt8 s0)) (1 : Int))) (@Nat.cast Int instNatCastInt (@List.length UInt8 s0))) (E1001 (@cut UInt8 s0 (0 : Int) (@Go.IntKind.wrap Go.IntKind.i64 (@HSub.hSub Int Int Int (@instHSub Int @Int.instSub) (@Nat.cast Int instNatCastInt (@List.length UInt8 s0)) (1 : Int)))) s1) (@Option.none R)) (K s0)) (@Option.none R))
theorem wqd8 (k : Nat) {R : Type} (I : Nat → St → Option R) (s0 : (List UInt8)) (s1 : Int) (K : ((List UInt8) → Option R)) : execK (wq9 k) k (at_ [1, 0, 0, 0] wqx) (wq2e s0 s1) (konts (wq9 k) k I [1, 0, 0, 0] wqx (outK (wq9 k) wq2v [.tmp 4] (wq21 K))) = wq4j k (fun s0 s1 => I 1001 (wq2e s0 s1)) s0 s1 K := by kernel_rfl
noncomputable def wq6g (k : Nat) {R : Type} (E1001 : ((List UInt8) → Int → Option R)) (x0 : (List UInt8)) (x1 : Int) (K : ((List UInt8) → Option R)) : Option R := (E1001 x0 x1)
theorem wqgr (k : Nat) {R : Type} (I : Nat → St → Option R) (x0 : (List UInt8)) (x1 : Int) (K : ((List UInt8) → Option R)) : fnK (wq9 k) k wqx 23 [.tmp 4] wq2v [.v .str x0, .v (.int .u8) x1] [] (wq21 K) = wq6g k (fun s0 s1 => iter (wq9 k).pv (look (wq9 k).cuts 1001) (execK (wq9 k) k (at_ [1, 0, 0, 0] wqx)) k (wq2e s0 s1) (konts (wq9 k) k I [1, 0, 0] wqx (outK (wq9 k) wq2v [.tmp 4] (wq21 K)))) x0 x1 K := by kernel_rfl
noncomputable def wq1r (k : Nat) {R : Type}  : Nat → (List UInt8) → Int → ((List UInt8) → Option R) → Option R
  | 0, _, _, _ => none
  | n + 1, s0, s1, K => wq4j k (fun s0 s1 => wq1r k  n s0 s1 K) s0 s1 K
theorem wqd9 (k : Nat) {R : Type} (I : Nat → St → Option R) (K : ((List UInt8) → Option R)) : ∀ (n : Nat) (s0 : (List UInt8)) (s1 : Int), iter (wq9 k).pv (look (wq9 k).cuts 1001) (execK (wq9 k) k (at_ [1, 0, 0, 0] wqx)) n (wq2e s0 s1) (konts (wq9 k) k I [1, 0, 0] wqx (outK (wq9 k) wq2v [.tmp 4] (wq21 K))) = wq1r k  n s0 s1 K := by
  intro n
  induction n with
  | zero => intros; rfl
  | succ n ih =>
    intro s0 s1
    let I' : Nat → St → Option R := fun id s => bif Nat.beq id 1001 then iter (wq9 k).pv (look (wq9 k).cuts 1001) (execK (wq9 k) k (at_ [1, 0, 0, 0] wqx)) n s (konts (wq9 k) k I [1, 0, 0] wqx (outK (wq9 k) wq2v [.tmp 4] (wq21 K))) else I id s
    have e := wqd8 k I' s0 s1 K
    have h1001 : (fun s0 s1 => I' 1001 (wq2e s0 s1)) = (fun s0 s1 => wq1r k  n s0 s1 K) := by funext s0 s1; exact ih s0 s1
    refine Eq.trans (?_ : _ = _) (e.trans (Eq.trans ((congrArg ((fun E1001 => wq4j k E1001 s0 s1 K)) h1001)) (by rw [wq1r])))
    rfl
noncomputable def wq6h (k : Nat) {R : Type} (x0 : (List UInt8)) (x1 : Int) (K : ((List UInt8) → Option R)) : Option R := wq6g k (fun s0 s1 => wq1r k k s0 s1 K) x0 x1 K
theorem wqgs (k : Nat) {R : Type} (x0 : (List UInt8)) (x1 : Int) (K : ((List UInt8) → Option R)) : fnK (wq9 k) k wqx 23 [.tmp 4] wq2v [.v .str x0, .v (.int .u8) x1] [] (wq21 K) = wq6h k x0 x1 K := by
  let I : Nat → St → Option R := fun _ _ => none
  have h1001 : (fun s0 s1 => iter (wq9 k).pv (look (wq9 k).cuts 1001) (execK (wq9 k) k (at_ [1, 0, 0, 0] wqx)) k (wq2e s0 s1) (konts (wq9 k) k I [1, 0, 0] wqx (outK (wq9 k) wq2v [.tmp 4] (wq21 K)))) = (fun s0 s1 => wq1r k k s0 s1 K) := by funext s0 s1; exact wqd9 k I K k s0 s1
  exact (wqgr k I x0 x1 K).trans (congrArg ((fun E1001 => wq6g k E1001 x0 x1 K)) h1001)
noncomputable def wq7e (k : Nat) {R : Type} : List PV → List (Nm × HObj) → (Out → Option R) → Option R
  | [.v .str x0, .v (.int .u8) x1], [], K => wq6h k x0 x1 (fun y0 => K (.ret [.v .str y0] []))
  | _, _, _ => none
theorem wqgt (k : Nat) : (wqc5 k).Ok Tryz.prog := CTab.nil_ok
theorem wqjs (k : Nat) {ps : List PV} {hp : List (Nm × HObj)} {R : Type} {K : Out → Option R} {r : R} (h : wq7e k ps hp K = some r) : DoesTo Tryz.prog 121 ps hp fun out => K out = some r := by
  unfold wq7e at h
  split at h
  · rw [← wqgs] at h
    have := fn_ok (P := Tryz.prog) (cx := wq9 k) (f := 121) ⟨tyT_ok, wqgt k, fun _ _ => rfl⟩ (by kernel_rfl) (fn := Tryz.f121) (c := wqx) (by kernel_rfl) (by kernel_rfl) (by kernel_rfl) (rs := [.tmp 4]) (by kernel_rfl) (by kernel_rfl) h
    exact this.mono fun out ho => by
      unfold wq21 at ho
      split at ho <;> first | exact ho | cases ho
  · cases h
end Go.Proofs.YtpfbdepoammjmaaGreatDoor.Pvm

set_option maxRecDepth 1000000
set_option maxHeartbeats 0
namespace Go.Proofs.YtpfbdepoammjmaaGreatDoor.Pvm
open Go Go.Proofs
def wqn9 : List LS := [.any, .any]
noncomputable def wqg2 (k : Nat) : CTab := (CTab.add 121 wqht (wq7e k) CTab.nil)
def wq8p {R : Type} (K : ((List UInt8) → Option R)) : Out → Option R
  | .ret [.v .str y0] [] => K y0
  | _ => none
def wqf1 : RetSpec := ⟨[.any], [], []⟩
def wql3 : List (Nat × CutSpec) := []
def wqjt : List (Nat × Plan) := []
noncomputable def wqar (k : Nat) : Ctx := ⟨tyT, wql3, wqg2 k, [], [], wqjt, @SH⟩
noncomputable def wq8q : Code := Tryz.f86.body.getD .skip
noncomputable def wqbq (k : Nat) {R : Type}  (x0 : (List UInt8)) (x1 : UInt8) (K : ((List UInt8) → Option R)) : Option R := (@cond (@Option R) (@cond (@Kd.T Kd.bool) (@BEq.beq (@List UInt8) (@List.instBEq UInt8 (@instBEqOfDecidableEq UInt8 @instDecidableEqUInt8)) x0 (@Array.toList UInt8 (@ByteArray.data (@ByteArray.mk (@List.toArray UInt8 []))))) Bool.true (@BEq.beq (@List UInt8) (@List.instBEq UInt8 (@instBEqOfDecidableEq UInt8 @instDecidableEqUInt8)) (x1 :: []) (@Array.toList UInt8 (@ByteArray.data (@ByteArray.mk (@List.toArray UInt8 [])))))) (K x0) (@cond (@Option R) (@cond (@Kd.T Kd.bool) (@BEq.beq Int (@instBEqOfDecidableEq Int @Int.instDecidableEq) (@Nat.cast Int instNatCastInt (@List.length UInt8 (x1 :: []))) (1 : Int)) (@Decidable.decide (@LT.lt Int Int.instLTInt (@Nat.cast Int instNatCastInt (@UInt8.toNat (@List.getD UInt8 (x1 :: []) (@Int.toNat (0 : Int)) (0 : UInt8)))) (128 : Int)) (@Int.decLt (@Nat.cast Int instNatCastInt (@UInt8.toNat (@List.getD UInt8 (x1 :: []) (@Int.toNat (0 : Int)) (0 : UInt8)))) (128 : Int))) Bool.false) (@wq6h k R x0 (@Nat.cast Int instNatCastInt (@UInt8.toNat (@List.getD UInt8 (x1 :: []) (@Int.toNat (0 : Int)) (0 : UInt8)))) (fun y5 => (K y5))) (@Option.none R)))
theorem wql4 (k : Nat) {R : Type} (I : Nat → St → Option R) (x0 : (List UInt8)) (x1 : UInt8) (K : ((List UInt8) → Option R)) : fnK (wqar k) k wq8q 37 [.tmp 4] wqf1 [.v .str x0, .v .str [x1]] [] (wq8p K) = wqbq k  x0 x1 K := by kernel_rfl
noncomputable def wq5j (k : Nat) {R : Type} (x0 : (List UInt8)) (x1 : UInt8) (K : ((List UInt8) → Option R)) : Option R := wqbq k  x0 x1 K
theorem wql5 (k : Nat) {R : Type} (x0 : (List UInt8)) (x1 : UInt8) (K : ((List UInt8) → Option R)) : fnK (wqar k) k wq8q 37 [.tmp 4] wqf1 [.v .str x0, .v .str [x1]] [] (wq8p K) = wq5j k x0 x1 K := by
  exact wql4 k (fun _ _ => none) x0 x1 K
noncomputable def wq9k (k : Nat) {R : Type} : List PV → List (Nm × HObj) → (Out → Option R) → Option R
  | [.v .str x0, .v .str [x1]], [], K => wq5j k x0 x1 (fun y0 => K (.ret [.v .str y0] []))
  | _, _, _ => none
theorem wql6 (k : Nat) : (wqg2 k).Ok Tryz.prog := (CTab.add_ok (fun h => wqjs k h) CTab.nil_ok)
theorem wqr1 (k : Nat) {ps : List PV} {hp : List (Nm × HObj)} {R : Type} {K : Out → Option R} {r : R} (h : wq9k k ps hp K = some r) : DoesTo Tryz.prog 86 ps hp fun out => K out = some r := by
  unfold wq9k at h
  split at h
  · rw [← wql5] at h
    have := fn_ok (P := Tryz.prog) (cx := wqar k) (f := 86) ⟨tyT_ok, wql6 k, fun _ _ => rfl⟩ (by kernel_rfl) (fn := Tryz.f86) (c := wq8q) (by kernel_rfl) (by kernel_rfl) (by kernel_rfl) (rs := [.tmp 4]) (by kernel_rfl) (by kernel_rfl) h
    exact this.mono fun out ho => by
      unfold wq8p at ho
      split at ho <;> first | exact ho | cases ho
  · cases h
end Go.Proofs.YtpfbdepoammjmaaGreatDoor.Pvm

set_option maxRecDepth 1000000
set_option maxHeartbeats 0
namespace Go.Proofs.YtpfbdepoammjmaaGreatDoor.Pvm
open Go Go.Proofs
def wq11j : List LS := [.any]
noncomputable def wqwr (k : Nat) : CTab := (CTab.add 85 wqyz (wqgp k) (CTab.add 86 wqn9 (wq9k k) CTab.nil))
def wq62 {R : Type} (K : ((List UInt8) → Bool → Option R)) : Out → Option R
  | .ret [.v .str y0, .v .bool y1] [] => K y0 y1
  | _ => none
def wq8r : RetSpec := ⟨[.any, .any], [], []⟩
def wqz0 : List (Nat × CutSpec) := [(1003, ⟨[(0, .any), (4, .any), (5, .any)], []⟩)]
def wqws : List (Nat × Plan) := []
noncomputable def wq1b (k : Nat) : Ctx := ⟨tyT, wqz0, wqwr k, [], [], wqws, @SH⟩
noncomputable def wq2y : Code := Tryz.f48.body.getD .skip
def wq65 (s0 : (List UInt8)) (s1 s2 : Int) : St := ⟨mkT [(0, .v .str s0), (4, .v (.int .i64) s1), (5, .v (.int .i64) s2)], mkH []⟩
noncomputable def wq9v (k : Nat) {R : Type} (E1003 : ((List UInt8) → Int → Int → Option R)) (s0 : (List UInt8)) (s1 s2 : Int) (K : ((List UInt8) → Bool → Option R)) : Option R := (@cond (@Option R) (@Decidable.decide (@LT.lt Int Int.instLTInt s2 (@Nat.cast Int instNatCastInt (@List.length UInt8 s0))) (@Int.decLt s2 (@Nat.cast Int instNatCastInt (@List.length UInt8 s0)))) (@cond (@Option R) (@Bool.or (@Bool.not (@BEq.beq (@Kd.T Kd.bool) (@instBEqOfDecidableEq (@Kd.T Kd.bool) @instDecidableEqBool) (@Decidable.decide (@GT.gt Int Int.instLTInt s2 (0 : Int)) (@Int.decLt (0 : Int) s2)) Bool.true)) (@inb (@Go.IntKind.wrap Go.IntKind.i64 (@HSub.hSub Int Int Int (@instHSub Int @Int.instSub) s2 (1 : Int))) (@Nat.cast Int instNatCastInt (@List.length UInt8 s0)))) (@cond (@Option R) (@cond (@Kd.T Kd.bool) (@Decidable.decide (@GT.gt Int Int.instLTInt s2 (0 : Int)) (@Int.decLt (0 : Int) s2)) (@bne Int (@instBEqOfDecidableEq Int @Int.instDecidableEq) (@Nat.cast Int instNatCastInt (@UInt8.toNat (@List.getD UInt8 s0 (@Int.toNat (@Go.IntKind.wrap Go.IntKind.i64 (@HSub.hSub Int Int Int (@instHSub Int @Int.instSub) s2 (1 : Int)))) (0 : UInt8)))) (32 : Int)) Bool.false) (E1003 s0 s1 (@Go.IntKind.wrap Go.IntKind.i64 (@HAdd.hAdd Int Int Int (@instHAdd Int @Int.instAdd) s2 (1 : Int)))) (@cond (@Option R) (@inb s2 (@Nat.cast Int instNatCastInt (@List.length UInt8 s0))) (@cond (@Option R) (@BEq.beq Int (@instBEqOfDecidableEq Int @Int.instDecidableEq) (@Nat.cast Int instNatCastInt (@UInt8.toNat (@List.getD UInt8 s0 (@Int.toNat s2) (0 : UInt8)))) (35 : Int)) (@cond (@Option R) (@bnd (0 : Int) s2 (@Nat.cast Int instNatCastInt (@List.length UInt8 s0))) (@wq5j k R (@cut UInt8 s0 (0 : Int) s2) (32 : UInt8) (fun y7 => (K y7 Bool.true))) (@Option.none R)) (@cond (@Option R) (@BEq.beq Int (@instBEqOfDecidableEq Int @Int.instDecidableEq) (@Nat.cast Int instNatCastInt (@UInt8.toNat (@List.getD UInt8 s0 (@Int.toNat s2) (0 : UInt8)))) (39 : Int)) (@wqb1 k R s0 s2 (fun y7 y8 => (@cond (@Option R) (@Bool.not y8) (K (@Array.toList UInt8 (@ByteArray.data (@ByteArray.mk (@List.toArray UInt8 [])))) Bool.false) (E1003 s0 s1 (@Go.IntKind.wrap Go.IntKind.i64 (@HAdd.hAdd Int Int Int (@instHAdd Int @Int.instAdd) y7 (1 : Int))))))) (@cond (@Option R) (@BEq.beq Int (@instBEqOfDecidableEq Int @Int.instDecidableEq) (@Nat.cast Int instNatCastInt (@UInt8.toNat (@List.getD UInt8 s0 (@Int.toNat s2) (0 : UInt8)))) (34 : Int)) (@wqb1 k R s0 s2 (fun y7 y8 => (@cond (@Option R) (@Bool.not y8) (K (@Array.toList UInt8 (@ByteArray.data (@ByteArray.mk (@List.toArray UInt8 [])))) Bool.false) (E1003 s0 s1 (@Go.IntKind.wrap Go.IntKind.i64 (@HAdd.hAdd Int Int Int (@instHAdd Int @Int.instAdd) y7 (1 : Int))))))) (E1003 s0 s1 (@Go.IntKind.wrap Go.IntKind.i64 (@HAdd.hAdd Int Int Int (@instHAdd Int @Int.instAdd) s2 (1 : Int))))))) (@Option.none R))) (@Option.none R)) (@cond (@Option R) (@bnd (0 : Int) s1 (@Nat.cast Int instNatCastInt (@List.length UInt8 s0))) (@wq5j k R (@cut UInt8 s0 (0 : Int) s1) (32 : UInt8) (fun y7 => (K y7 Bool.true))) (@Option.none R)))
theorem wqpi (k : Nat) {R : Type} (I : Nat → St → Option R) (s0 : (List UInt8)) (s1 s2 : Int) (K : ((List UInt8) → Bool → Option R)) : execK (wq1b k) k (at_ [1, 0, 1, 1, 0, 1, 0, 0] wq2y) (wq65 s0 s1 s2) (konts (wq1b k) k I [1, 0, 1, 1, 0, 1, 0, 0] wq2y (outK (wq1b k) wq8r [.tmp 2, .tmp 3] (wq62 K))) = wq9v k (fun s0 s1 s2 => I 1003 (wq65 s0 s1 s2)) s0 s1 s2 K := by kernel_rfl
noncomputable def wqin (k : Nat) {R : Type} (E1003 : ((List UInt8) → Int → Int → Option R)) (x0 : (List UInt8)) (K : ((List UInt8) → Bool → Option R)) : Option R := (E1003 x0 (@Nat.cast Int instNatCastInt (@List.length UInt8 x0)) (0 : Int))
theorem wqz1 (k : Nat) {R : Type} (I : Nat → St → Option R) (x0 : (List UInt8)) (K : ((List UInt8) → Bool → Option R)) : fnK (wq1b k) k wq2y 47 [.tmp 2, .tmp 3] wq8r [.v .str x0] [] (wq62 K) = wqin k (fun s0 s1 s2 => iter (wq1b k).pv (look (wq1b k).cuts 1003) (execK (wq1b k) k (at_ [1, 0, 1, 1, 0, 1, 0, 0] wq2y)) k (wq65 s0 s1 s2) (konts (wq1b k) k I [1, 0, 1, 1, 0, 1, 0] wq2y (outK (wq1b k) wq8r [.tmp 2, .tmp 3] (wq62 K)))) x0 K := by kernel_rfl
noncomputable def wq2i (k : Nat) {R : Type}  : Nat → (List UInt8) → Int → Int → ((List UInt8) → Bool → Option R) → Option R
  | 0, _, _, _, _ => none
  | n + 1, s0, s1, s2, K => wq9v k (fun s0 s1 s2 => wq2i k  n s0 s1 s2 K) s0 s1 s2 K
theorem wqpj (k : Nat) {R : Type} (I : Nat → St → Option R) (K : ((List UInt8) → Bool → Option R)) : ∀ (n : Nat) (s0 : (List UInt8)) (s1 s2 : Int), iter (wq1b k).pv (look (wq1b k).cuts 1003) (execK (wq1b k) k (at_ [1, 0, 1, 1, 0, 1, 0, 0] wq2y)) n (wq65 s0 s1 s2) (konts (wq1b k) k I [1, 0, 1, 1, 0, 1, 0] wq2y (outK (wq1b k) wq8r [.tmp 2, .tmp 3] (wq62 K))) = wq2i k  n s0 s1 s2 K := by
  intro n
  induction n with
  | zero => intros; rfl
  | succ n ih =>
    intro s0 s1 s2
    let I' : Nat → St → Option R := fun id s => bif Nat.beq id 1003 then iter (wq1b k).pv (look (wq1b k).cuts 1003) (execK (wq1b k) k (at_ [1, 0, 1, 1, 0, 1, 0, 0] wq2y)) n s (konts (wq1b k) k I [1, 0, 1, 1, 0, 1, 0] wq2y (outK (wq1b k) wq8r [.tmp 2, .tmp 3] (wq62 K))) else I id s
    have e := wqpi k I' s0 s1 s2 K
    have h1003 : (fun s0 s1 s2 => I' 1003 (wq65 s0 s1 s2)) = (fun s0 s1 s2 => wq2i k  n s0 s1 s2 K) := by funext s0 s1 s2; exact ih s0 s1 s2
    refine Eq.trans (?_ : _ = _) (e.trans (Eq.trans ((congrArg ((fun E1003 => wq9v k E1003 s0 s1 s2 K)) h1003)) (by rw [wq2i])))
    rfl
noncomputable def wqcn (k : Nat) {R : Type} (x0 : (List UInt8)) (K : ((List UInt8) → Bool → Option R)) : Option R := wqin k (fun s0 s1 s2 => wq2i k k s0 s1 s2 K) x0 K
theorem wqz2 (k : Nat) {R : Type} (x0 : (List UInt8)) (K : ((List UInt8) → Bool → Option R)) : fnK (wq1b k) k wq2y 47 [.tmp 2, .tmp 3] wq8r [.v .str x0] [] (wq62 K) = wqcn k x0 K := by
  let I : Nat → St → Option R := fun _ _ => none
  have h1003 : (fun s0 s1 s2 => iter (wq1b k).pv (look (wq1b k).cuts 1003) (execK (wq1b k) k (at_ [1, 0, 1, 1, 0, 1, 0, 0] wq2y)) k (wq65 s0 s1 s2) (konts (wq1b k) k I [1, 0, 1, 1, 0, 1, 0] wq2y (outK (wq1b k) wq8r [.tmp 2, .tmp 3] (wq62 K)))) = (fun s0 s1 s2 => wq2i k k s0 s1 s2 K) := by funext s0 s1 s2; exact wqpj k I K k s0 s1 s2
  exact (wqz1 k I x0 K).trans (congrArg ((fun E1003 => wqin k E1003 x0 K)) h1003)
noncomputable def wqio (k : Nat) {R : Type} : List PV → List (Nm × HObj) → (Out → Option R) → Option R
  | [.v .str x0], [], K => wqcn k x0 (fun y0 y1 => K (.ret [.v .str y0, .v .bool y1] []))
  | _, _, _ => none
theorem wqz3 (k : Nat) : (wqwr k).Ok Tryz.prog := (CTab.add_ok (fun h => wq13k k h) (CTab.add_ok (fun h => wqr1 k h) CTab.nil_ok))
theorem wq154 (k : Nat) {ps : List PV} {hp : List (Nm × HObj)} {R : Type} {K : Out → Option R} {r : R} (h : wqio k ps hp K = some r) : DoesTo Tryz.prog 48 ps hp fun out => K out = some r := by
  unfold wqio at h
  split at h
  · rw [← wqz2] at h
    have := fn_ok (P := Tryz.prog) (cx := wq1b k) (f := 48) ⟨tyT_ok, wqz3 k, fun _ _ => rfl⟩ (by kernel_rfl) (fn := Tryz.f48) (c := wq2y) (by kernel_rfl) (by kernel_rfl) (by kernel_rfl) (rs := [.tmp 2, .tmp 3]) (by kernel_rfl) (by kernel_rfl) h
    exact this.mono fun out ho => by
      unfold wq62 at ho
      split at ho <;> first | exact ho | cases ho
  · cases h
end Go.Proofs.YtpfbdepoammjmaaGreatDoor.Pvm

set_option maxRecDepth 1000000
set_option maxHeartbeats 0
namespace Go.Proofs.YtpfbdepoammjmaaGreatDoor.Pvm
open Go Go.Proofs
def wq155 : List LS := [.any]
noncomputable def wq13l (k : Nat) : CTab := CTab.nil
def wql7 {R : Type} (K : (Bool → Option R)) : Out → Option R
  | .ret [.v .bool y0] [] => K y0
  | _ => none
def wq10b : RetSpec := ⟨[.any], [], []⟩
def wq13m : List (Nat × CutSpec) := []
def wq11k : List (Nat × Plan) := []
noncomputable def wqsd (k : Nat) : Ctx := ⟨tyT, wq13m, wq13l k, [], [], wq11k, @SH⟩
noncomputable def wql8 : Code := Tryz.f46.body.getD .skip
noncomputable def wq13n (k : Nat) {R : Type}  (x0 : Int) (K : (Bool → Option R)) : Option R := (K (@cond (@Kd.T Kd.bool) (@cond (@Kd.T Kd.bool) (@Decidable.decide (@GE.ge Int Int.instLEInt x0 (0 : Int)) (@Int.decLe (0 : Int) x0)) (@Decidable.decide (@LT.lt Int Int.instLTInt x0 (32 : Int)) (@Int.decLt x0 (32 : Int))) Bool.false) Bool.true (@BEq.beq Int (@instBEqOfDecidableEq Int @Int.instDecidableEq) x0 (127 : Int))))
theorem wq13o (k : Nat) {R : Type} (I : Nat → St → Option R) (x0 : Int) (K : (Bool → Option R)) : fnK (wqsd k) k wql8 13 [.tmp 2] wq10b [.v (.int .i32) x0] [] (wql7 K) = wq13n k  x0 K := by kernel_rfl
noncomputable def wq13p (k : Nat) {R : Type} (x0 : Int) (K : (Bool → Option R)) : Option R := wq13n k  x0 K
theorem wq13q (k : Nat) {R : Type} (x0 : Int) (K : (Bool → Option R)) : fnK (wqsd k) k wql8 13 [.tmp 2] wq10b [.v (.int .i32) x0] [] (wql7 K) = wq13p k x0 K := by
  exact wq13o k (fun _ _ => none) x0 K
noncomputable def wqpk (k : Nat) {R : Type} : List PV → List (Nm × HObj) → (Out → Option R) → Option R
  | [.v (.int .i32) x0], [], K => wq13p k x0 (fun y0 => K (.ret [.v .bool y0] []))
  | _, _, _ => none
theorem wq13r (k : Nat) : (wq13l k).Ok Tryz.prog := CTab.nil_ok
theorem wq13s (k : Nat) {ps : List PV} {hp : List (Nm × HObj)} {R : Type} {K : Out → Option R} {r : R} (h : wqpk k ps hp K = some r) : DoesTo Tryz.prog 46 ps hp fun out => K out = some r := by
  unfold wqpk at h
  split at h
  · rw [← wq13q] at h
    have := fn_ok (P := Tryz.prog) (cx := wqsd k) (f := 46) ⟨tyT_ok, wq13r k, fun _ _ => rfl⟩ (by kernel_rfl) (fn := Tryz.f46) (c := wql8) (by kernel_rfl) (by kernel_rfl) (by kernel_rfl) (rs := [.tmp 2]) (by kernel_rfl) (by kernel_rfl) h
    exact this.mono fun out ho => by
      unfold wql7 at ho
      split at ho <;> first | exact ho | cases ho
  · cases h
end Go.Proofs.YtpfbdepoammjmaaGreatDoor.Pvm

set_option maxRecDepth 1000000
namespace Go.Proofs
open Go.Shelf
def Tryz.laysLaysGwn15_ren : Go.Shelf.Ren := ⟨fun | 15 => 45 | 20 => 80 | n => n, fun | 9 => 9 | 23 => 101 | 3 => 3 | 4 => 4 | 0 => 0 | 21 => 21 | n => n, fun | n => n⟩
theorem Tryz.laysLaysGwn15 : Go.Proofs.LaysGw.n15 Tryz.prog Tryz.laysLaysGwn15_ren := {
  mixed := by kernel_rfl
  f15 := Tryz.func45.trans (congrArg some (by kernel_rfl))
  f20 := Tryz.func80.trans (congrArg some (by kernel_rfl))
  t0 := Tryz.underlying0
  a0 := Tryz.isAgg0
  z0 := Tryz.sizeOf0
  v0 := Tryz.zeroValue0
  i0 := by kernel_rfl
  t3 := Tryz.underlying3
  a3 := Tryz.isAgg3
  z3 := Tryz.sizeOf3
  v3 := Tryz.zeroValue3
  i3 := by kernel_rfl
  t4 := Tryz.underlying4
  a4 := Tryz.isAgg4
  z4 := Tryz.sizeOf4
  v4 := Tryz.zeroValue4
  i4 := by kernel_rfl
  t9 := Tryz.underlying9
  a9 := Tryz.isAgg9
  z9 := Tryz.sizeOf9
  v9 := Tryz.zeroValue9
  i9 := by kernel_rfl
  t21 := Tryz.underlying21
  a21 := Tryz.isAgg21
  z21 := Tryz.sizeOf21
  v21 := Tryz.zeroValue21
  i21 := by kernel_rfl
  t23 := Tryz.underlying101
  a23 := Tryz.isAgg101
  z23 := Tryz.sizeOf101
  v23 := Tryz.zeroValue101
  i23 := by kernel_rfl }
end Go.Proofs
namespace Go.Proofs.YtpfbdepoammjmaaGreatDoor.Pvm
open Go Go.Proofs Go.RowKit Go.Shelf
def oddP (n : Nat) : Bool := cond (cond (decide ((n : Int) ≥ 0)) (decide ((n : Int) < 32)) false) true ((n : Int) == 127)
def idxOdd (s : List UInt8) : Int := Lib.idxFunc oddP true ⟨s.toArray⟩
def wqna : List LS := [.any, .clo []]
def wqbr (k : Nat) {R : Type} (x0 : List UInt8) (K : Int → Option R) : Option R := K (idxOdd x0)
def wq9l (k : Nat) {R : Type} : List PV → List (Nm × HObj) → (Out → Option R) → Option R
  | [.v .str x0, .clo 46 []], [], K => wqbr k x0 (fun y0 => K (.ret [.v (.int .i64) y0] []))
  | _, _, _ => none
theorem wq18n (w : World) : PredGrows Tryz.prog 46 #[] oddP w := by
  intro W x hx hb
  exact wq160 (P := Tryz.prog) (f := 46) (fn := Tryz.f46) (c := Tryz.f46.body.getD .skip) (by kernel_rfl) (by kernel_rfl) (by kernel_rfl) (ps := [.v (.int .i32) (x : Int)]) (b := oddP x)
    (wq13s 0 (K := lawK) (r := oddP x) rfl) (vals := [.int .i32 (x : Int)]) ⟨_, [], rfl, rfl, rfl⟩
theorem wqr2 (k : Nat) {ps : List PV} {hp : List (Nm × HObj)} {R : Type} {K : Out → Option R} {r : R} (h : wq9l k ps hp K = some r) : DoesTo Tryz.prog 45 ps hp fun out => K out = some r := by
  unfold wq9l at h
  split at h
  · next x0 =>
    intro G w vals hr obj dis
    obtain ⟨v0, l0, rfl, h0, v1, l1, rfl, h1, rfl⟩ := hr
    have e0 : v0 = .string ⟨x0.toArray⟩ := by simpa [RV, RD] using h0
    obtain ⟨vs, e1, hvs⟩ := h1
    obtain rfl : vs = [] := hvs
    subst e0 e1
    have c := Any.strings_IndexFunc_grows Tryz.laysLaysGwn15 46 #[] (enters (P := Tryz.prog) (fn := Tryz.f46) (c := Tryz.f46.body.getD .skip) (by kernel_rfl) (by kernel_rfl) (by kernel_rfl)) oddP ⟨x0.toArray⟩ w (wq18n w)
    show Does _ _ #[_, _] _ _
    unfold Does
    rw [enters (P := Tryz.prog) (fn := Tryz.f45) (c := Tryz.f45.body.getD .skip) (by kernel_rfl) (by kernel_rfl) (by kernel_rfl)]
    refine Calls.mono c fun e w' hh => ?_
    obtain ⟨rfl, b⟩ := hh
    exact ⟨.ret [.v (.int .i64) (idxOdd x0)] [], h, G, ⟨_, rfl, rfl⟩, wq18k b⟩
  · cases h
end Go.Proofs.YtpfbdepoammjmaaGreatDoor.Pvm

set_option maxRecDepth 1000000
set_option maxHeartbeats 0
namespace Go.Proofs.YtpfbdepoammjmaaGreatDoor.Pvm
open Go Go.Proofs
def wqip : List LS := [.any, .any]
noncomputable def wqda (k : Nat) : CTab := CTab.nil
def wq27 {R : Type} (K : ((List UInt8) → Option R)) : Out → Option R
  | .ret [.v .str y0] [] => K y0
  | _ => none
def wq37 : RetSpec := ⟨[.any], [], []⟩
def wqhu : List (Nat × CutSpec) := [(1001, ⟨[(0, .any), (1, .any)], []⟩)]
def wqgu : List (Nat × Plan) := []
noncomputable def wqa (k : Nat) : Ctx := ⟨tyT, wqhu, wqda k, [], [], wqgu, @SH⟩
noncomputable def wq11 : Code := Tryz.f81.body.getD .skip
def wq2k (s0 : (List UInt8)) (s1 : Int) : St := ⟨mkT [(0, .v .str s0), (1, .v (.int .u8) s1)], mkH []⟩
noncomputable def wq4t (k : Nat) {R : Type} (E1001 : ((List UInt8) → Int → Option R)) (s0 : (List UInt8)) (s1 : Int) (K : ((List UInt8) → Option R)) : Option R := (@cond (@Option R) (@Bool.or (@Bool.not (@BEq.beq (@Kd.T Kd.bool) (@instBEqOfDecidableEq (@Kd.T Kd.bool) @instDecidableEqBool) (@Decidable.decide (@GT.gt Int Int.instLTInt (@Nat.cast Int instNatCastInt (@List.length UInt8 s0)) (0 : Int)) (@Int.decLt (0 : Int) (@Nat.cast Int instNatCastInt (@List.length UInt8 s0)))) Bool.true)) (@inb (0 : Int) (@Nat.cast Int instNatCastInt (@List.length UInt8 s0)))) (@cond (@Option R) (@cond (@Kd.T Kd.bool) (@Decidable.decide (@GT.gt Int Int.instLTInt (@Nat.cast Int instNatCastInt (@List.length UInt8 s0)) (0 : Int)) (@Int.decLt (0 : Int) (@Nat.cast Int instNatCastInt (@List.length UInt8 s0)))) (@BEq.beq Int (@instBEqOfDecidableEq Int @Int.instDecidableEq) (@Nat.cast Int instNatCastInt (@UInt8.toNat (@List.getD UInt8 s0 (@Int.toNat (0 : Int)) (0 : UInt8)))) s1) Bool.false) (@cond (@Option R) (@bnd (1 : Int) (@Nat.cast Int instNatCastInt (@List.length UInt8 s0)) (@Nat.cast Int instNatCastInt (@List.length UInt8 s0))) (E1001 (@cut UInt8 s0 (1 : Int) (@Nat.cast Int instNatCastInt (@List.length UInt8 s0))) s1) (@Option.none R)) (K s0)) (@Option.none R))
theorem wqdv (k : Nat) {R : Type} (I : Nat → St → Option R) (s0 : (List UInt8)) (s1 : Int) (K : ((List UInt8) → Option R)) : execK (wqa k) k (at_ [1, 0, 0, 0] wq11) (wq2k s0 s1) (konts (wqa k) k I [1, 0, 0, 0] wq11 (outK (wqa k) wq37 [.tmp 4] (wq27 K))) = wq4t k (fun s0 s1 => I 1001 (wq2k s0 s1)) s0 s1 K := by kernel_rfl
noncomputable def wq6v (k : Nat) {R : Type} (E1001 : ((List UInt8) → Int → Option R)) (x0 : (List UInt8)) (x1 : Int) (K : ((List UInt8) → Option R)) : Option R := (E1001 x0 x1)
theorem wqhv (k : Nat) {R : Type} (I : Nat → St → Option R) (x0 : (List UInt8)) (x1 : Int) (K : ((List UInt8) → Option R)) : fnK (wqa k) k wq11 17 [.tmp 4] wq37 [.v .str x0, .v (.int .u8) x1] [] (wq27 K) = wq6v k (fun s0 s1 => iter (wqa k).pv (look (wqa k).cuts 1001) (execK (wqa k) k (at_ [1, 0, 0, 0] wq11)) k (wq2k s0 s1) (konts (wqa k) k I [1, 0, 0] wq11 (outK (wqa k) wq37 [.tmp 4] (wq27 K)))) x0 x1 K := by kernel_rfl
noncomputable def wq20 (k : Nat) {R : Type}  : Nat → (List UInt8) → Int → ((List UInt8) → Option R) → Option R
  | 0, _, _, _ => none
  | n + 1, s0, s1, K => wq4t k (fun s0 s1 => wq20 k  n s0 s1 K) s0 s1 K
theorem wqdw (k : Nat) {R : Type} (I : Nat → St → Option R) (K : ((List UInt8) → Option R)) : ∀ (n : Nat) (s0 : (List UInt8)) (s1 : Int), iter (wqa k).pv (look (wqa k).cuts 1001) (execK (wqa k) k (at_ [1, 0, 0, 0] wq11)) n (wq2k s0 s1) (konts (wqa k) k I [1, 0, 0] wq11 (outK (wqa k) wq37 [.tmp 4] (wq27 K))) = wq20 k  n s0 s1 K := by
  intro n
  induction n with
  | zero => intros; rfl
  | succ n ih =>
    intro s0 s1
    let I' : Nat → St → Option R := fun id s => bif Nat.beq id 1001 then iter (wqa k).pv (look (wqa k).cuts 1001) (execK (wqa k) k (at_ [1, 0, 0, 0] wq11)) n s (konts (wqa k) k I [1, 0, 0] wq11 (outK (wqa k) wq37 [.tmp 4] (wq27 K))) else I id s
    have e := wqdv k I' s0 s1 K
    have h1001 : (fun s0 s1 => I' 1001 (wq2k s0 s1)) = (fun s0 s1 => wq20 k  n s0 s1 K) := by funext s0 s1; exact ih s0 s1
    refine Eq.trans (?_ : _ = _) (e.trans (Eq.trans ((congrArg ((fun E1001 => wq4t k E1001 s0 s1 K)) h1001)) (by rw [wq20])))
    rfl
noncomputable def wq6w (k : Nat) {R : Type} (x0 : (List UInt8)) (x1 : Int) (K : ((List UInt8) → Option R)) : Option R := wq6v k (fun s0 s1 => wq20 k k s0 s1 K) x0 x1 K
theorem wqhw (k : Nat) {R : Type} (x0 : (List UInt8)) (x1 : Int) (K : ((List UInt8) → Option R)) : fnK (wqa k) k wq11 17 [.tmp 4] wq37 [.v .str x0, .v (.int .u8) x1] [] (wq27 K) = wq6w k x0 x1 K := by
  let I : Nat → St → Option R := fun _ _ => none
  have h1001 : (fun s0 s1 => iter (wqa k).pv (look (wqa k).cuts 1001) (execK (wqa k) k (at_ [1, 0, 0, 0] wq11)) k (wq2k s0 s1) (konts (wqa k) k I [1, 0, 0] wq11 (outK (wqa k) wq37 [.tmp 4] (wq27 K)))) = (fun s0 s1 => wq20 k k s0 s1 K) := by funext s0 s1; exact wqdw k I K k s0 s1
  exact (wqhv k I x0 x1 K).trans (congrArg ((fun E1001 => wq6v k E1001 x0 x1 K)) h1001)
noncomputable def wq7q (k : Nat) {R : Type} : List PV → List (Nm × HObj) → (Out → Option R) → Option R
  | [.v .str x0, .v (.int .u8) x1], [], K => wq6w k x0 x1 (fun y0 => K (.ret [.v .str y0] []))
  | _, _, _ => none
theorem wqhx (k : Nat) : (wqda k).Ok Tryz.prog := CTab.nil_ok
theorem wql9 (k : Nat) {ps : List PV} {hp : List (Nm × HObj)} {R : Type} {K : Out → Option R} {r : R} (h : wq7q k ps hp K = some r) : DoesTo Tryz.prog 81 ps hp fun out => K out = some r := by
  unfold wq7q at h
  split at h
  · rw [← wqhw] at h
    have := fn_ok (P := Tryz.prog) (cx := wqa k) (f := 81) ⟨tyT_ok, wqhx k, fun _ _ => rfl⟩ (by kernel_rfl) (fn := Tryz.f81) (c := wq11) (by kernel_rfl) (by kernel_rfl) (by kernel_rfl) (rs := [.tmp 4]) (by kernel_rfl) (by kernel_rfl) h
    exact this.mono fun out ho => by
      unfold wq27 at ho
      split at ho <;> first | exact ho | cases ho
  · cases h
end Go.Proofs.YtpfbdepoammjmaaGreatDoor.Pvm

set_option maxRecDepth 1000000
set_option maxHeartbeats 0
namespace Go.Proofs.YtpfbdepoammjmaaGreatDoor.Pvm
open Go Go.Proofs
def wqpl : List LS := [.any, .any]
noncomputable def wqhy (k : Nat) : CTab := (CTab.add 81 wqip (wq7q k) CTab.nil)
def wq9m {R : Type} (K : ((List UInt8) → Option R)) : Out → Option R
  | .ret [.v .str y0] [] => K y0
  | _ => none
def wqg3 : RetSpec := ⟨[.any], [], []⟩
def wqnb : List (Nat × CutSpec) := []
def wqla : List (Nat × Plan) := []
noncomputable def wqbs (k : Nat) : Ctx := ⟨tyT, wqnb, wqhy k, [], [], wqla, @SH⟩
noncomputable def wq9n : Code := Tryz.f47.body.getD .skip
noncomputable def wqco (k : Nat) {R : Type}  (x0 : (List UInt8)) (x1 : UInt8) (K : ((List UInt8) → Option R)) : Option R := (@cond (@Option R) (@cond (@Kd.T Kd.bool) (@BEq.beq (@List UInt8) (@List.instBEq UInt8 (@instBEqOfDecidableEq UInt8 @instDecidableEqUInt8)) x0 (@Array.toList UInt8 (@ByteArray.data (@ByteArray.mk (@List.toArray UInt8 []))))) Bool.true (@BEq.beq (@List UInt8) (@List.instBEq UInt8 (@instBEqOfDecidableEq UInt8 @instDecidableEqUInt8)) (x1 :: []) (@Array.toList UInt8 (@ByteArray.data (@ByteArray.mk (@List.toArray UInt8 [])))))) (K x0) (@cond (@Option R) (@cond (@Kd.T Kd.bool) (@BEq.beq Int (@instBEqOfDecidableEq Int @Int.instDecidableEq) (@Nat.cast Int instNatCastInt (@List.length UInt8 (x1 :: []))) (1 : Int)) (@Decidable.decide (@LT.lt Int Int.instLTInt (@Nat.cast Int instNatCastInt (@UInt8.toNat (@List.getD UInt8 (x1 :: []) (@Int.toNat (0 : Int)) (0 : UInt8)))) (128 : Int)) (@Int.decLt (@Nat.cast Int instNatCastInt (@UInt8.toNat (@List.getD UInt8 (x1 :: []) (@Int.toNat (0 : Int)) (0 : UInt8)))) (128 : Int))) Bool.false) (@wq6w k R x0 (@Nat.cast Int instNatCastInt (@UInt8.toNat (@List.getD UInt8 (x1 :: []) (@Int.toNat (0 : Int)) (0 : UInt8)))) (fun y5 => (K y5))) (@Option.none R)))
theorem wqnc (k : Nat) {R : Type} (I : Nat → St → Option R) (x0 : (List UInt8)) (x1 : UInt8) (K : ((List UInt8) → Option R)) : fnK (wqbs k) k wq9n 37 [.tmp 4] wqg3 [.v .str x0, .v .str [x1]] [] (wq9m K) = wqco k  x0 x1 K := by kernel_rfl
noncomputable def wq7f (k : Nat) {R : Type} (x0 : (List UInt8)) (x1 : UInt8) (K : ((List UInt8) → Option R)) : Option R := wqco k  x0 x1 K
theorem wqnd (k : Nat) {R : Type} (x0 : (List UInt8)) (x1 : UInt8) (K : ((List UInt8) → Option R)) : fnK (wqbs k) k wq9n 37 [.tmp 4] wqg3 [.v .str x0, .v .str [x1]] [] (wq9m K) = wq7f k x0 x1 K := by
  exact wqnc k (fun _ _ => none) x0 x1 K
noncomputable def wqas (k : Nat) {R : Type} : List PV → List (Nm × HObj) → (Out → Option R) → Option R
  | [.v .str x0, .v .str [x1]], [], K => wq7f k x0 x1 (fun y0 => K (.ret [.v .str y0] []))
  | _, _, _ => none
theorem wqne (k : Nat) : (wqhy k).Ok Tryz.prog := (CTab.add_ok (fun h => wql9 k h) CTab.nil_ok)
theorem wqse (k : Nat) {ps : List PV} {hp : List (Nm × HObj)} {R : Type} {K : Out → Option R} {r : R} (h : wqas k ps hp K = some r) : DoesTo Tryz.prog 47 ps hp fun out => K out = some r := by
  unfold wqas at h
  split at h
  · rw [← wqnd] at h
    have := fn_ok (P := Tryz.prog) (cx := wqbs k) (f := 47) ⟨tyT_ok, wqne k, fun _ _ => rfl⟩ (by kernel_rfl) (fn := Tryz.f47) (c := wq9n) (by kernel_rfl) (by kernel_rfl) (by kernel_rfl) (rs := [.tmp 4]) (by kernel_rfl) (by kernel_rfl) h
    exact this.mono fun out ho => by
      unfold wq9m at ho
      split at ho <;> first | exact ho | cases ho
  · cases h
end Go.Proofs.YtpfbdepoammjmaaGreatDoor.Pvm

set_option maxRecDepth 1000000
set_option maxHeartbeats 0
namespace Go.Proofs.YtpfbdepoammjmaaGreatDoor.Pvm
open Go Go.Proofs
def wq11l : List LS := [.sl (.int .u8)]
noncomputable def wqwt (k : Nat) : CTab := (CTab.add 44 wqyy (wqgo k) (CTab.add 45 wqna (wq9l k) (CTab.add 46 wq155 (wqpk k) (CTab.add 47 wqpl (wqas k) (CTab.add 48 wq11j (wqio k) CTab.nil)))))
def wq63 {R : Type} (K : ((List (Int × (Int × (List UInt8)))) → Int → Int → Option R)) : Out → Option R
  | .ret [.v (.sl (.pr (.int .i64) (.pr (.int .i64) .str))) y0, .agg [.v (.int .i64) y1, .v (.int .i64) y2]] [] => K y0 y1 y2
  | _ => none
def wq8s : RetSpec := ⟨[.sl (.pr (.int .i64) (.pr (.int .i64) .str)), .ag [.any, .any]], [], []⟩
def wqz4 : List (Nat × CutSpec) := [(1005, ⟨[(3, .obj 13 [.any, .any]), (4, .own 100004 106 (.pr (.int .i64) (.pr (.int .i64) .str))), (17, .sl (.sl (.int .u8))), (18, .any), (19, .any)], []⟩)]
def wqwu : List (Nat × Plan) := []
noncomputable def wq1c (k : Nat) : Ctx := ⟨tyT, wqz4, wqwt k, [], [], wqwu, @SH⟩
noncomputable def wq2z : Code := Tryz.f18.body.getD .skip
def wq66 (s0 s1 : Int) (s2 : (List (Int × (Int × (List UInt8))))) (s3 : (List (List Int))) (s4 s5 : Int) : St := ⟨mkT [(3, .ptr 13 0), (4, .row 100004), (17, .v (.sl (.sl (.int .u8))) s3), (18, .v (.int .i64) s4), (19, .v (.int .i64) s5)], mkH [(13, .var 28 [.v (.int .i64) s0, .v (.int .i64) s1]), (100004, .row 106 (.pr (.int .i64) (.pr (.int .i64) .str)) s2)]⟩
noncomputable def wq9w (k : Nat) {R : Type} (E1005 : (Int → Int → (List (Int × (Int × (List UInt8)))) → (List (List Int)) → Int → Int → Option R)) (s0 s1 : Int) (s2 : (List (Int × (Int × (List UInt8))))) (s3 : (List (List Int))) (s4 s5 : Int) (K : ((List (Int × (Int × (List UInt8)))) → Int → Int → Option R)) : Option R := (@cond (@Option R) (@Decidable.decide (@LT.lt Int Int.instLTInt s5 s4) (@Int.decLt s5 s4)) (@cond (@Option R) (@inb s5 (@Nat.cast Int instNatCastInt (@List.length (@Kd.T (@Kd.sl (@Kd.int Go.IntKind.u8))) s3))) (@wqbr k R (@ofBytes (@List.getD (@Kd.T (@Kd.sl (@Kd.int Go.IntKind.u8))) s3 (@Int.toNat s5) (@Kd.zero (@Kd.sl (@Kd.int Go.IntKind.u8))))) (fun y10 => (@cond (@Option R) (@Decidable.decide (@GE.ge Int Int.instLEInt y10 (0 : Int)) (@Int.decLe (0 : Int) y10)) (K [] (2 : Int) (@Go.IntKind.wrap Go.IntKind.i64 (@HAdd.hAdd Int Int Int (@instHAdd Int @Int.instAdd) s5 (1 : Int)))) (@wq7f k R (@ofBytes (@List.getD (@Kd.T (@Kd.sl (@Kd.int Go.IntKind.u8))) s3 (@Int.toNat s5) (@Kd.zero (@Kd.sl (@Kd.int Go.IntKind.u8))))) (32 : UInt8) (fun y11 => (@wqcn k R y11 (fun y12 y13 => (@cond (@Option R) (@Bool.not y13) (K [] (3 : Int) (@Go.IntKind.wrap Go.IntKind.i64 (@HAdd.hAdd Int Int Int (@instHAdd Int @Int.instAdd) s5 (1 : Int)))) (@cond (@Option R) (@Bool.not (@BEq.beq (@List UInt8) (@List.instBEq UInt8 (@instBEqOfDecidableEq UInt8 @instDecidableEqUInt8)) y12 (@Array.toList UInt8 (@ByteArray.data (@ByteArray.mk (@List.toArray UInt8 [])))))) (@cond (@Option R) (@fits (@List.length (@Kd.T (@Kd.pr kI (@Kd.pr kI Kd.str))) s2) (@List.length (@Kd.T (@Kd.pr kI (@Kd.pr kI Kd.str))) (((@Go.IntKind.wrap Go.IntKind.i64 (@HAdd.hAdd Int Int Int (@instHAdd Int @Int.instAdd) s5 (1 : Int))), ((@Go.IntKind.wrap Go.IntKind.i64 (@HSub.hSub Int Int Int (@instHSub Int @Int.instSub) (@Nat.cast Int instNatCastInt (@List.length UInt8 (@ofBytes (@List.getD (@Kd.T (@Kd.sl (@Kd.int Go.IntKind.u8))) s3 (@Int.toNat s5) (@Kd.zero (@Kd.sl (@Kd.int Go.IntKind.u8))))))) (@Nat.cast Int instNatCastInt (@List.length UInt8 y11)))), y12)) :: [])) (32 : Nat)) (E1005 s0 s1 (@HAppend.hAppend (@Kd.T (@Kd.sl (@Kd.pr kI (@Kd.pr kI Kd.str)))) (@List (@Kd.T (@Kd.pr kI (@Kd.pr kI Kd.str)))) (@Kd.T (@Kd.sl (@Kd.pr kI (@Kd.pr kI Kd.str)))) (@instHAppendOfAppend (@Kd.T (@Kd.sl (@Kd.pr kI (@Kd.pr kI Kd.str)))) (@List.instAppend (@Kd.T (@Kd.pr kI (@Kd.pr kI Kd.str))))) s2 (((@Go.IntKind.wrap Go.IntKind.i64 (@HAdd.hAdd Int Int Int (@instHAdd Int @Int.instAdd) s5 (1 : Int))), ((@Go.IntKind.wrap Go.IntKind.i64 (@HSub.hSub Int Int Int (@instHSub Int @Int.instSub) (@Nat.cast Int instNatCastInt (@List.length UInt8 (@ofBytes (@List.getD (@Kd.T (@Kd.sl (@Kd.int Go.IntKind.u8))) s3 (@Int.toNat s5) (@Kd.zero (@Kd.sl (@Kd.int Go.IntKind.u8))))))) (@Nat.cast Int instNatCastInt (@List.length UInt8 y11)))), y12)) :: [])) s3 s4 (@Go.IntKind.wrap Go.IntKind.i64 (@HAdd.hAdd Int Int Int (@instHAdd Int @Int.instAdd) s5 (1 : Int)))) (@Option.none R)) (E1005 s0 s1 s2 s3 s4 (@Go.IntKind.wrap Go.IntKind.i64 (@HAdd.hAdd Int Int Int (@instHAdd Int @Int.instAdd) s5 (1 : Int))))))))))))) (@Option.none R)) (K s2 (0 : (@Kd.T kI)) (0 : (@Kd.T kI))))
theorem wqpm (k : Nat) {R : Type} (I : Nat → St → Option R) (s0 s1 : Int) (s2 : (List (Int × (Int × (List UInt8))))) (s3 : (List (List Int))) (s4 s5 : Int) (K : ((List (Int × (Int × (List UInt8)))) → Int → Int → Option R)) : execK (wq1c k) k (at_ [1, 1, 1, 0, 1, 0, 0] wq2z) (wq66 s0 s1 s2 s3 s4 s5) (konts (wq1c k) k I [1, 1, 1, 0, 1, 0, 0] wq2z (outK (wq1c k) wq8s [.tmp 2, .cell 3 28] (wq63 K))) = wq9w k (fun s0 s1 s2 s3 s4 s5 => I 1005 (wq66 s0 s1 s2 s3 s4 s5)) s0 s1 s2 s3 s4 s5 K := by kernel_rfl
noncomputable def wqiq (k : Nat) {R : Type} (E1005 : (Int → Int → (List (Int × (Int × (List UInt8)))) → (List (List Int)) → Int → Int → Option R)) (x0 : (List Int)) (K : ((List (Int × (Int × (List UInt8)))) → Int → Int → Option R)) : Option R := (@cond (@Option R) (@Decidable.decide (@GT.gt Int Int.instLTInt (@Nat.cast Int instNatCastInt (@List.length (@Kd.T (@Kd.int Go.IntKind.u8)) x0)) (16384 : Int)) (@Int.decLt (16384 : Int) (@Nat.cast Int instNatCastInt (@List.length (@Kd.T (@Kd.int Go.IntKind.u8)) x0)))) (K [] (1 : Int) (1 : Int)) (@wqd7 k R x0 (10 : Int) (fun y5 => (E1005 (0 : (@Kd.T kI)) (0 : (@Kd.T kI)) [] y5 (@Nat.cast Int instNatCastInt (@List.length (@Kd.T (@Kd.sl (@Kd.int Go.IntKind.u8))) y5)) (0 : Int)))))
theorem wqz5 (k : Nat) {R : Type} (I : Nat → St → Option R) (x0 : (List Int)) (K : ((List (Int × (Int × (List UInt8)))) → Int → Int → Option R)) : fnK (wq1c k) k wq2z 61 [.tmp 2, .cell 3 28] wq8s [.v (.sl (.int .u8)) x0] [] (wq63 K) = wqiq k (fun s0 s1 s2 s3 s4 s5 => iter (wq1c k).pv (look (wq1c k).cuts 1005) (execK (wq1c k) k (at_ [1, 1, 1, 0, 1, 0, 0] wq2z)) k (wq66 s0 s1 s2 s3 s4 s5) (konts (wq1c k) k I [1, 1, 1, 0, 1, 0] wq2z (outK (wq1c k) wq8s [.tmp 2, .cell 3 28] (wq63 K)))) x0 K := by kernel_rfl
noncomputable def wq4o (k : Nat) {R : Type}  : Nat → Int → Int → (List (Int × (Int × (List UInt8)))) → (List (List Int)) → Int → Int → ((List (Int × (Int × (List UInt8)))) → Int → Int → Option R) → Option R
  | 0, _, _, _, _, _, _, _ => none
  | n + 1, s0, s1, s2, s3, s4, s5, K => wq9w k (fun s0 s1 s2 s3 s4 s5 => wq4o k  n s0 s1 s2 s3 s4 s5 K) s0 s1 s2 s3 s4 s5 K
theorem wqpn (k : Nat) {R : Type} (I : Nat → St → Option R) (K : ((List (Int × (Int × (List UInt8)))) → Int → Int → Option R)) : ∀ (n : Nat) (s0 s1 : Int) (s2 : (List (Int × (Int × (List UInt8))))) (s3 : (List (List Int))) (s4 s5 : Int), iter (wq1c k).pv (look (wq1c k).cuts 1005) (execK (wq1c k) k (at_ [1, 1, 1, 0, 1, 0, 0] wq2z)) n (wq66 s0 s1 s2 s3 s4 s5) (konts (wq1c k) k I [1, 1, 1, 0, 1, 0] wq2z (outK (wq1c k) wq8s [.tmp 2, .cell 3 28] (wq63 K))) = wq4o k  n s0 s1 s2 s3 s4 s5 K := by
  intro n
  induction n with
  | zero => intros; rfl
  | succ n ih =>
    intro s0 s1 s2 s3 s4 s5
    let I' : Nat → St → Option R := fun id s => bif Nat.beq id 1005 then iter (wq1c k).pv (look (wq1c k).cuts 1005) (execK (wq1c k) k (at_ [1, 1, 1, 0, 1, 0, 0] wq2z)) n s (konts (wq1c k) k I [1, 1, 1, 0, 1, 0] wq2z (outK (wq1c k) wq8s [.tmp 2, .cell 3 28] (wq63 K))) else I id s
    have e := wqpm k I' s0 s1 s2 s3 s4 s5 K
    have h1005 : (fun s0 s1 s2 s3 s4 s5 => I' 1005 (wq66 s0 s1 s2 s3 s4 s5)) = (fun s0 s1 s2 s3 s4 s5 => wq4o k  n s0 s1 s2 s3 s4 s5 K) := by funext s0 s1 s2 s3 s4 s5; exact ih s0 s1 s2 s3 s4 s5
    refine Eq.trans (?_ : _ = _) (e.trans (Eq.trans ((congrArg ((fun E1005 => wq9w k E1005 s0 s1 s2 s3 s4 s5 K)) h1005)) (by rw [wq4o])))
    rfl
noncomputable def wqcp (k : Nat) {R : Type} (x0 : (List Int)) (K : ((List (Int × (Int × (List UInt8)))) → Int → Int → Option R)) : Option R := wqiq k (fun s0 s1 s2 s3 s4 s5 => wq4o k k s0 s1 s2 s3 s4 s5 K) x0 K
theorem wqz6 (k : Nat) {R : Type} (x0 : (List Int)) (K : ((List (Int × (Int × (List UInt8)))) → Int → Int → Option R)) : fnK (wq1c k) k wq2z 61 [.tmp 2, .cell 3 28] wq8s [.v (.sl (.int .u8)) x0] [] (wq63 K) = wqcp k x0 K := by
  let I : Nat → St → Option R := fun _ _ => none
  have h1005 : (fun s0 s1 s2 s3 s4 s5 => iter (wq1c k).pv (look (wq1c k).cuts 1005) (execK (wq1c k) k (at_ [1, 1, 1, 0, 1, 0, 0] wq2z)) k (wq66 s0 s1 s2 s3 s4 s5) (konts (wq1c k) k I [1, 1, 1, 0, 1, 0] wq2z (outK (wq1c k) wq8s [.tmp 2, .cell 3 28] (wq63 K)))) = (fun s0 s1 s2 s3 s4 s5 => wq4o k k s0 s1 s2 s3 s4 s5 K) := by funext s0 s1 s2 s3 s4 s5; exact wqpn k I K k s0 s1 s2 s3 s4 s5
  exact (wqz5 k I x0 K).trans (congrArg ((fun E1005 => wqiq k E1005 x0 K)) h1005)
noncomputable def wqir (k : Nat) {R : Type} : List PV → List (Nm × HObj) → (Out → Option R) → Option R
  | [.v (.sl (.int .u8)) x0], [], K => wqcp k x0 (fun y0 y1 y2 => K (.ret [.v (.sl (.pr (.int .i64) (.pr (.int .i64) .str))) y0, .agg [.v (.int .i64) y1, .v (.int .i64) y2]] []))
  | _, _, _ => none
theorem wqz7 (k : Nat) : (wqwt k).Ok Tryz.prog := (CTab.add_ok (fun h => wq13j k h) (CTab.add_ok (fun h => wqr2 k h) (CTab.add_ok (fun h => wq13s k h) (CTab.add_ok (fun h => wqse k h) (CTab.add_ok (fun h => wq154 k h) CTab.nil_ok)))))
theorem wq156 (k : Nat) {ps : List PV} {hp : List (Nm × HObj)} {R : Type} {K : Out → Option R} {r : R} (h : wqir k ps hp K = some r) : DoesTo Tryz.prog 18 ps hp fun out => K out = some r := by
  unfold wqir at h
  split at h
  · rw [← wqz6] at h
    have := fn_ok (P := Tryz.prog) (cx := wq1c k) (f := 18) ⟨tyT_ok, wqz7 k, fun _ _ => rfl⟩ (by kernel_rfl) (fn := Tryz.f18) (c := wq2z) (by kernel_rfl) (by kernel_rfl) (by kernel_rfl) (rs := [.tmp 2, .cell 3 28]) (by kernel_rfl) (by kernel_rfl) h
    exact this.mono fun out ho => by
      unfold wq63 at ho
      split at ho <;> first | exact ho | cases ho
  · cases h
end Go.Proofs.YtpfbdepoammjmaaGreatDoor.Pvm

set_option maxRecDepth 1000000
set_option maxHeartbeats 0
namespace Go.Proofs.YtpfbdepoammjmaaGreatDoor.Pvm
open Go Go.Proofs
def wqt4 : List LS := [.sl (.int .u8)]
noncomputable def wq10c (k : Nat) : CTab := (CTab.add 17 wq12v (wqq8 k) (CTab.add 18 wq11l (wqir k) (CTab.add 19 wq16y (wqsa k) CTab.nil)))
def wqis {R : Type} (K : ((List (Int × (Int × ((List UInt8) × (Bool × ((List (List UInt8)) × (List Int))))))) → Int → Int → Option R)) : Out → Option R
  | .ret [.agg [.v (.sl (.pr (.int .i64) (.pr (.int .i64) (.pr .str (.pr .bool (.pr (.sl .str) (.sl (.int .i64)))))))) y0], .agg [.v (.int .i64) y1, .v (.int .i64) y2]] [] => K y0 y1 y2
  | _ => none
def wqwv : RetSpec := ⟨[.ag [.sl (.pr (.int .i64) (.pr (.int .i64) (.pr .str (.pr .bool (.pr (.sl .str) (.sl (.int .i64)))))))], .ag [.any, .any]], [], []⟩
def wq11m : List (Nat × CutSpec) := []
def wqz8 : List (Nat × Plan) := [(3, (.of [(0, 1), (1, 2), (2, 0), (3, 0)] .done)), (6, (.of [(0, 1), (1, 2), (2, 0), (3, 0)] .done))]
noncomputable def wqpo (k : Nat) : Ctx := ⟨tyT, wq11m, wq10c k, [], [], wqz8, @SH⟩
noncomputable def wqit : Code := Tryz.f7.body.getD .skip
noncomputable def wqsf (k : Nat) {R : Type}  (x0 : (List Int)) (K : ((List (Int × (Int × ((List UInt8) × (Bool × ((List (List UInt8)) × (List Int))))))) → Int → Int → Option R)) : Option R := (@wqcp k R x0 (fun y4 y5 y6 => (@cond (@Option R) (@bne Int (@instBEqOfDecidableEq Int @Int.instDecidableEq) y5 (0 : Int)) (K [] y5 y6) (@wqqs k R y4 (fun y7 y8 y9 => (@cond (@Option R) (@bne Int (@instBEqOfDecidableEq Int @Int.instDecidableEq) y8 (0 : Int)) (K [] y8 y9) (@F_doc_Of k R y7 (fun y10 y11 y12 => (K y10 y11 y12)))))))))
theorem wq11n (k : Nat) {R : Type} (I : Nat → St → Option R) (x0 : (List Int)) (K : ((List (Int × (Int × ((List UInt8) × (Bool × ((List (List UInt8)) × (List Int))))))) → Int → Int → Option R)) : fnK (wqpo k) k wqit 31 [.cell 2 26, .cell 3 28] wqwv [.v (.sl (.int .u8)) x0] [] (wqis K) = wqsf k  x0 K := by kernel_rfl
noncomputable def wqb2 (k : Nat) {R : Type} (x0 : (List Int)) (K : ((List (Int × (Int × ((List UInt8) × (Bool × ((List (List UInt8)) × (List Int))))))) → Int → Int → Option R)) : Option R := wqsf k  x0 K
theorem wq11o (k : Nat) {R : Type} (x0 : (List Int)) (K : ((List (Int × (Int × ((List UInt8) × (Bool × ((List (List UInt8)) × (List Int))))))) → Int → Int → Option R)) : fnK (wqpo k) k wqit 31 [.cell 2 26, .cell 3 28] wqwv [.v (.sl (.int .u8)) x0] [] (wqis K) = wqb2 k x0 K := by
  exact wq11n k (fun _ _ => none) x0 K
noncomputable def wqg4 (k : Nat) {R : Type} : List PV → List (Nm × HObj) → (Out → Option R) → Option R
  | [.v (.sl (.int .u8)) x0], [], K => wqb2 k x0 (fun y0 y1 y2 => K (.ret [.agg [.v (.sl (.pr (.int .i64) (.pr (.int .i64) (.pr .str (.pr .bool (.pr (.sl .str) (.sl (.int .i64)))))))) y0], .agg [.v (.int .i64) y1, .v (.int .i64) y2]] []))
  | _, _, _ => none
theorem wq11p (k : Nat) : (wq10c k).Ok Tryz.prog := (CTab.add_ok (fun h => D_doc_Of k h) (CTab.add_ok (fun h => wq156 k h) (CTab.add_ok (fun h => wq18m k h) CTab.nil_ok)))
theorem wq10d (k : Nat) {ps : List PV} {hp : List (Nm × HObj)} {R : Type} {K : Out → Option R} {r : R} (h : wqg4 k ps hp K = some r) : DoesTo Tryz.prog 7 ps hp fun out => K out = some r := by
  unfold wqg4 at h
  split at h
  · rw [← wq11o] at h
    have := fn_ok (P := Tryz.prog) (cx := wqpo k) (f := 7) ⟨tyT_ok, wq11p k, fun _ _ => rfl⟩ (by kernel_rfl) (fn := Tryz.f7) (c := wqit) (by kernel_rfl) (by kernel_rfl) (by kernel_rfl) (rs := [.cell 2 26, .cell 3 28]) (by kernel_rfl) (by kernel_rfl) h
    exact this.mono fun out ho => by
      unfold wqis at ho
      split at ho <;> first | exact ho | cases ho
  · cases h
end Go.Proofs.YtpfbdepoammjmaaGreatDoor.Pvm

set_option maxRecDepth 1000000
set_option maxHeartbeats 0
namespace Go.Proofs.YtpfbdepoammjmaaGreatDoor.Pvm
open Go Go.Proofs
abbrev wq7g (R : Type) : Type := ((List (Int × (Int × ((List UInt8) × (Bool × ((List (List UInt8)) × (List Int))))))) → (List (Int × (Int × ((List UInt8) × (Bool × ((List (List UInt8)) × (List Int))))))) → Int → Option R)
def wq11q : List LS := [.ag [.sl (.pr (.int .i64) (.pr (.int .i64) (.pr .str (.pr .bool (.pr (.sl .str) (.sl (.int .i64)))))))], .ag [.sl (.pr (.int .i64) (.pr (.int .i64) (.pr .str (.pr .bool (.pr (.sl .str) (.sl (.int .i64)))))))]]
noncomputable def wqww (k : Nat) : CTab := CTab.nil
def wq1y {R : Type} (K : (Bool → Option R)) : Out → Option R
  | .ret [.v .bool y0] [] => K y0
  | _ => none
def wq2t : RetSpec := ⟨[.any], [], []⟩
def wqz9 : List (Nat × CutSpec) := [(1004, ⟨[(2, .obj 12 [.sl (.pr (.int .i64) (.pr (.int .i64) (.pr .str (.pr .bool (.pr (.sl .str) (.sl (.int .i64)))))))]), (3, .obj 13 [.sl (.pr (.int .i64) (.pr (.int .i64) (.pr .str (.pr .bool (.pr (.sl .str) (.sl (.int .i64)))))))]), (5, .any)], []⟩), (1010, ⟨[(2, .obj 12 [.sl (.pr (.int .i64) (.pr (.int .i64) (.pr .str (.pr .bool (.pr (.sl .str) (.sl (.int .i64)))))))]), (3, .obj 13 [.sl (.pr (.int .i64) (.pr (.int .i64) (.pr .str (.pr .bool (.pr (.sl .str) (.sl (.int .i64)))))))]), (5, .any), (6, .obj 16 [.any, .any, .any, .any, .sl .str, .sl (.int .i64)]), (7, .obj 17 [.any, .any, .any, .any, .sl .str, .sl (.int .i64)]), (8, .any)], []⟩), (1015, ⟨[(2, .obj 12 [.sl (.pr (.int .i64) (.pr (.int .i64) (.pr .str (.pr .bool (.pr (.sl .str) (.sl (.int .i64)))))))]), (3, .obj 13 [.sl (.pr (.int .i64) (.pr (.int .i64) (.pr .str (.pr .bool (.pr (.sl .str) (.sl (.int .i64)))))))]), (5, .any), (6, .obj 16 [.any, .any, .any, .any, .sl .str, .sl (.int .i64)]), (7, .obj 17 [.any, .any, .any, .any, .sl .str, .sl (.int .i64)]), (9, .any)], []⟩)]
def wqwx : List (Nat × Plan) := [(6, (.of [(0, 1), (2, 1), (5, 1), (7, 1), (1, 1), (3, 1), (4, 1), (6, 2), (8, 1), (9, 2)] (.alt 10 (.of [(11, 0), (12, 0), (13, 0)] .done) (.op 11 0 (.of [(10, 0), (12, 0), (13, 0)] .done))))), (12, (.of [(0, 1), (2, 1), (5, 1), (7, 1), (1, 1), (3, 1), (4, 1), (6, 1), (8, 1), (9, 1), (10, 1)] .done)), (17, (.of [(0, 1), (2, 1), (5, 1), (7, 1), (1, 1), (3, 1), (4, 1), (6, 1), (8, 1), (9, 1), (10, 1)] .done))]
noncomputable def wq7 (k : Nat) : Ctx := ⟨tyT, wqz9, wqww k, [], [], wqwx, @SH⟩
noncomputable def wqq : Code := Tryz.f13.body.getD .skip
def wq23 (s0 : (List (Int × (Int × ((List UInt8) × (Bool × ((List (List UInt8)) × (List Int)))))))) (s1 : (List (Int × (Int × ((List UInt8) × (Bool × ((List (List UInt8)) × (List Int)))))))) (s2 : Int) : St := ⟨mkT [(2, .ptr 12 0), (3, .ptr 13 0), (5, .v (.int .i64) s2)], mkH [(12, .var 26 [.v (.sl (.pr (.int .i64) (.pr (.int .i64) (.pr .str (.pr .bool (.pr (.sl .str) (.sl (.int .i64)))))))) s0]), (13, .var 26 [.v (.sl (.pr (.int .i64) (.pr (.int .i64) (.pr .str (.pr .bool (.pr (.sl .str) (.sl (.int .i64)))))))) s1])]⟩
def wq67 (s0 : (List (Int × (Int × ((List UInt8) × (Bool × ((List (List UInt8)) × (List Int)))))))) (s1 : (List (Int × (Int × ((List UInt8) × (Bool × ((List (List UInt8)) × (List Int)))))))) (s2 s3 s4 : Int) (s5 : (List UInt8)) (s6 : Bool) (s7 : (List (List UInt8))) (s8 : (List Int)) (s9 s10 : Int) (s11 : (List UInt8)) (s12 : Bool) (s13 : (List (List UInt8))) (s14 : (List Int)) (s15 : Int) : St := ⟨mkT [(2, .ptr 12 0), (3, .ptr 13 0), (5, .v (.int .i64) s2), (6, .ptr 16 0), (7, .ptr 17 0), (8, .v (.int .i64) s15)], mkH [(12, .var 26 [.v (.sl (.pr (.int .i64) (.pr (.int .i64) (.pr .str (.pr .bool (.pr (.sl .str) (.sl (.int .i64)))))))) s0]), (13, .var 26 [.v (.sl (.pr (.int .i64) (.pr (.int .i64) (.pr .str (.pr .bool (.pr (.sl .str) (.sl (.int .i64)))))))) s1]), (16, .var 52 [.v (.int .i64) s3, .v (.int .i64) s4, .v .str s5, .v .bool s6, .v (.sl .str) s7, .v (.sl (.int .i64)) s8]), (17, .var 52 [.v (.int .i64) s9, .v (.int .i64) s10, .v .str s11, .v .bool s12, .v (.sl .str) s13, .v (.sl (.int .i64)) s14])]⟩
def wq68 (s0 : (List (Int × (Int × ((List UInt8) × (Bool × ((List (List UInt8)) × (List Int)))))))) (s1 : (List (Int × (Int × ((List UInt8) × (Bool × ((List (List UInt8)) × (List Int)))))))) (s2 s3 s4 : Int) (s5 : (List UInt8)) (s6 : Bool) (s7 : (List (List UInt8))) (s8 : (List Int)) (s9 s10 : Int) (s11 : (List UInt8)) (s12 : Bool) (s13 : (List (List UInt8))) (s14 : (List Int)) (s15 : Int) : St := ⟨mkT [(2, .ptr 12 0), (3, .ptr 13 0), (5, .v (.int .i64) s2), (6, .ptr 16 0), (7, .ptr 17 0), (9, .v (.int .i64) s15)], mkH [(12, .var 26 [.v (.sl (.pr (.int .i64) (.pr (.int .i64) (.pr .str (.pr .bool (.pr (.sl .str) (.sl (.int .i64)))))))) s0]), (13, .var 26 [.v (.sl (.pr (.int .i64) (.pr (.int .i64) (.pr .str (.pr .bool (.pr (.sl .str) (.sl (.int .i64)))))))) s1]), (16, .var 52 [.v (.int .i64) s3, .v (.int .i64) s4, .v .str s5, .v .bool s6, .v (.sl .str) s7, .v (.sl (.int .i64)) s8]), (17, .var 52 [.v (.int .i64) s9, .v (.int .i64) s10, .v .str s11, .v .bool s12, .v (.sl .str) s13, .v (.sl (.int .i64)) s14])]⟩
noncomputable def wq9x (k : Nat) {R : Type} (E1010 : ((List (Int × (Int × ((List UInt8) × (Bool × ((List (List UInt8)) × (List Int))))))) → (List (Int × (Int × ((List UInt8) × (Bool × ((List (List UInt8)) × (List Int))))))) → Int → Int → Int → (List UInt8) → Bool → (List (List UInt8)) → (List Int) → Int → Int → (List UInt8) → Bool → (List (List UInt8)) → (List Int) → Int → Option R)) (s0 : (List (Int × (Int × ((List UInt8) × (Bool × ((List (List UInt8)) × (List Int)))))))) (s1 : (List (Int × (Int × ((List UInt8) × (Bool × ((List (List UInt8)) × (List Int)))))))) (s2 : Int) (K : (Bool → Option R)) : Option R := (@cond (@Option R) (@Decidable.decide (@LT.lt Int Int.instLTInt s2 (@Nat.cast Int instNatCastInt (@List.length (@Kd.T (@Kd.pr kI (@Kd.pr kI (@Kd.pr Kd.str (@Kd.pr Kd.bool (@Kd.pr (@Kd.sl Kd.str) (@Kd.sl kI))))))) s0))) (@Int.decLt s2 (@Nat.cast Int instNatCastInt (@List.length (@Kd.T (@Kd.pr kI (@Kd.pr kI (@Kd.pr Kd.str (@Kd.pr Kd.bool (@Kd.pr (@Kd.sl Kd.str) (@Kd.sl kI))))))) s0)))) (@cond (@Option R) (@inb s2 (@Nat.cast Int instNatCastInt (@List.length (@Kd.T (@Kd.pr kI (@Kd.pr kI (@Kd.pr Kd.str (@Kd.pr Kd.bool (@Kd.pr (@Kd.sl Kd.str) (@Kd.sl kI))))))) s0))) (@cond (@Option R) (@inb s2 (@Nat.cast Int instNatCastInt (@List.length (@Kd.T (@Kd.pr kI (@Kd.pr kI (@Kd.pr Kd.str (@Kd.pr Kd.bool (@Kd.pr (@Kd.sl Kd.str) (@Kd.sl kI))))))) s1))) (@dupT R (@Shp.b @Shp.o @Shp.o) (@cond (@Option R) (@cond (@Kd.T Kd.bool) (@cond (@Kd.T Kd.bool) (@cond (@Kd.T Kd.bool) (@cond (@Kd.T Kd.bool) (@bne Int (@instBEqOfDecidableEq Int @Int.instDecidableEq) (@List.getD (@Kd.T (@Kd.pr kI (@Kd.pr kI (@Kd.pr Kd.str (@Kd.pr Kd.bool (@Kd.pr (@Kd.sl Kd.str) (@Kd.sl kI))))))) s0 (@Int.toNat s2) (@Kd.zero (@Kd.pr kI (@Kd.pr kI (@Kd.pr Kd.str (@Kd.pr Kd.bool (@Kd.pr (@Kd.sl Kd.str) (@Kd.sl kI)))))))).1 (@List.getD (@Kd.T (@Kd.pr kI (@Kd.pr kI (@Kd.pr Kd.str (@Kd.pr Kd.bool (@Kd.pr (@Kd.sl Kd.str) (@Kd.sl kI))))))) s1 (@Int.toNat s2) (@Kd.zero (@Kd.pr kI (@Kd.pr kI (@Kd.pr Kd.str (@Kd.pr Kd.bool (@Kd.pr (@Kd.sl Kd.str) (@Kd.sl kI)))))))).1) Bool.true (@Bool.not (@BEq.beq (@List UInt8) (@List.instBEq UInt8 (@instBEqOfDecidableEq UInt8 @instDecidableEqUInt8)) (@List.getD (@Kd.T (@Kd.pr kI (@Kd.pr kI (@Kd.pr Kd.str (@Kd.pr Kd.bool (@Kd.pr (@Kd.sl Kd.str) (@Kd.sl kI))))))) s0 (@Int.toNat s2) (@Kd.zero (@Kd.pr kI (@Kd.pr kI (@Kd.pr Kd.str (@Kd.pr Kd.bool (@Kd.pr (@Kd.sl Kd.str) (@Kd.sl kI)))))))).2.2.1 (@List.getD (@Kd.T (@Kd.pr kI (@Kd.pr kI (@Kd.pr Kd.str (@Kd.pr Kd.bool (@Kd.pr (@Kd.sl Kd.str) (@Kd.sl kI))))))) s1 (@Int.toNat s2) (@Kd.zero (@Kd.pr kI (@Kd.pr kI (@Kd.pr Kd.str (@Kd.pr Kd.bool (@Kd.pr (@Kd.sl Kd.str) (@Kd.sl kI)))))))).2.2.1))) Bool.true (@Bool.not (@BEq.beq (@Kd.T Kd.bool) (@instBEqOfDecidableEq (@Kd.T Kd.bool) @instDecidableEqBool) (@List.getD (@Kd.T (@Kd.pr kI (@Kd.pr kI (@Kd.pr Kd.str (@Kd.pr Kd.bool (@Kd.pr (@Kd.sl Kd.str) (@Kd.sl kI))))))) s0 (@Int.toNat s2) (@Kd.zero (@Kd.pr kI (@Kd.pr kI (@Kd.pr Kd.str (@Kd.pr Kd.bool (@Kd.pr (@Kd.sl Kd.str) (@Kd.sl kI)))))))).2.2.2.1 (@List.getD (@Kd.T (@Kd.pr kI (@Kd.pr kI (@Kd.pr Kd.str (@Kd.pr Kd.bool (@Kd.pr (@Kd.sl Kd.str) (@Kd.sl kI))))))) s1 (@Int.toNat s2) (@Kd.zero (@Kd.pr kI (@Kd.pr kI (@Kd.pr Kd.str (@Kd.pr Kd.bool (@Kd.pr (@Kd.sl Kd.str) (@Kd.sl kI)))))))).2.2.2.1))) Bool.true (@bne Int (@instBEqOfDecidableEq Int @Int.instDecidableEq) (@Nat.cast Int instNatCastInt (@List.length (@Kd.T Kd.str) (@List.getD (@Kd.T (@Kd.pr kI (@Kd.pr kI (@Kd.pr Kd.str (@Kd.pr Kd.bool (@Kd.pr (@Kd.sl Kd.str) (@Kd.sl kI))))))) s0 (@Int.toNat s2) (@Kd.zero (@Kd.pr kI (@Kd.pr kI (@Kd.pr Kd.str (@Kd.pr Kd.bool (@Kd.pr (@Kd.sl Kd.str) (@Kd.sl kI)))))))).2.2.2.2.1)) (@Nat.cast Int instNatCastInt (@List.length (@Kd.T Kd.str) (@List.getD (@Kd.T (@Kd.pr kI (@Kd.pr kI (@Kd.pr Kd.str (@Kd.pr Kd.bool (@Kd.pr (@Kd.sl Kd.str) (@Kd.sl kI))))))) s1 (@Int.toNat s2) (@Kd.zero (@Kd.pr kI (@Kd.pr kI (@Kd.pr Kd.str (@Kd.pr Kd.bool (@Kd.pr (@Kd.sl Kd.str) (@Kd.sl kI)))))))).2.2.2.2.1)))) Bool.true (@bne Int (@instBEqOfDecidableEq Int @Int.instDecidableEq) (@Nat.cast Int instNatCastInt (@List.length (@Kd.T kI) (@List.getD (@Kd.T (@Kd.pr kI (@Kd.pr kI (@Kd.pr Kd.str (@Kd.pr Kd.bool (@Kd.pr (@Kd.sl Kd.str) (@Kd.sl kI))))))) s0 (@Int.toNat s2) (@Kd.zero (@Kd.pr kI (@Kd.pr kI (@Kd.pr Kd.str (@Kd.pr Kd.bool (@Kd.pr (@Kd.sl Kd.str) (@Kd.sl kI)))))))).2.2.2.2.2)) (@Nat.cast Int instNatCastInt (@List.length (@Kd.T kI) (@List.getD (@Kd.T (@Kd.pr kI (@Kd.pr kI (@Kd.pr Kd.str (@Kd.pr Kd.bool (@Kd.pr (@Kd.sl Kd.str) (@Kd.sl kI))))))) s1 (@Int.toNat s2) (@Kd.zero (@Kd.pr kI (@Kd.pr kI (@Kd.pr Kd.str (@Kd.pr Kd.bool (@Kd.pr (@Kd.sl Kd.str) (@Kd.sl kI)))))))).2.2.2.2.2)))) (K Bool.false) (E1010 s0 s1 s2 (@List.getD (@Kd.T (@Kd.pr kI (@Kd.pr kI (@Kd.pr Kd.str (@Kd.pr Kd.bool (@Kd.pr (@Kd.sl Kd.str) (@Kd.sl kI))))))) s0 (@Int.toNat s2) (@Kd.zero (@Kd.pr kI (@Kd.pr kI (@Kd.pr Kd.str (@Kd.pr Kd.bool (@Kd.pr (@Kd.sl Kd.str) (@Kd.sl kI)))))))).1 (@List.getD (@Kd.T (@Kd.pr kI (@Kd.pr kI (@Kd.pr Kd.str (@Kd.pr Kd.bool (@Kd.pr (@Kd.sl Kd.str) (@Kd.sl kI))))))) s0 (@Int.toNat s2) (@Kd.zero (@Kd.pr kI (@Kd.pr kI (@Kd.pr Kd.str (@Kd.pr Kd.bool (@Kd.pr (@Kd.sl Kd.str) (@Kd.sl kI)))))))).2.1 (@List.getD (@Kd.T (@Kd.pr kI (@Kd.pr kI (@Kd.pr Kd.str (@Kd.pr Kd.bool (@Kd.pr (@Kd.sl Kd.str) (@Kd.sl kI))))))) s0 (@Int.toNat s2) (@Kd.zero (@Kd.pr kI (@Kd.pr kI (@Kd.pr Kd.str (@Kd.pr Kd.bool (@Kd.pr (@Kd.sl Kd.str) (@Kd.sl kI)))))))).2.2.1 (@List.getD (@Kd.T (@Kd.pr kI (@Kd.pr kI (@Kd.pr Kd.str (@Kd.pr Kd.bool (@Kd.pr (@Kd.sl Kd.str) (@Kd.sl kI))))))) s0 (@Int.toNat s2) (@Kd.zero (@Kd.pr kI (@Kd.pr kI (@Kd.pr Kd.str (@Kd.pr Kd.bool (@Kd.pr (@Kd.sl Kd.str) (@Kd.sl kI)))))))).2.2.2.1 (@List.getD (@Kd.T (@Kd.pr kI (@Kd.pr kI (@Kd.pr Kd.str (@Kd.pr Kd.bool (@Kd.pr (@Kd.sl Kd.str) (@Kd.sl kI))))))) s0 (@Int.toNat s2) (@Kd.zero (@Kd.pr kI (@Kd.pr kI (@Kd.pr Kd.str (@Kd.pr Kd.bool (@Kd.pr (@Kd.sl Kd.str) (@Kd.sl kI)))))))).2.2.2.2.1 (@List.getD (@Kd.T (@Kd.pr kI (@Kd.pr kI (@Kd.pr Kd.str (@Kd.pr Kd.bool (@Kd.pr (@Kd.sl Kd.str) (@Kd.sl kI))))))) s0 (@Int.toNat s2) (@Kd.zero (@Kd.pr kI (@Kd.pr kI (@Kd.pr Kd.str (@Kd.pr Kd.bool (@Kd.pr (@Kd.sl Kd.str) (@Kd.sl kI)))))))).2.2.2.2.2 (@List.getD (@Kd.T (@Kd.pr kI (@Kd.pr kI (@Kd.pr Kd.str (@Kd.pr Kd.bool (@Kd.pr (@Kd.sl Kd.str) (@Kd.sl kI))))))) s1 (@Int.toNat s2) (@Kd.zero (@Kd.pr kI (@Kd.pr kI (@Kd.pr Kd.str (@Kd.pr Kd.bool (@Kd.pr (@Kd.sl Kd.str) (@Kd.sl kI)))))))).1 (@List.getD (@Kd.T (@Kd.pr kI (@Kd.pr kI (@Kd.pr Kd.str (@Kd.pr Kd.bool (@Kd.pr (@Kd.sl Kd.str) (@Kd.sl kI))))))) s1 (@Int.toNat s2) (@Kd.zero (@Kd.pr kI (@Kd.pr kI (@Kd.pr Kd.str (@Kd.pr Kd.bool (@Kd.pr (@Kd.sl Kd.str) (@Kd.sl kI)))))))).2.1 (@List.getD (@Kd.T (@Kd.pr kI (@Kd.pr kI (@Kd.pr Kd.str (@Kd.pr Kd.bool (@Kd.pr (@Kd.sl Kd.str) (@Kd.sl kI))))))) s1 (@Int.toNat s2) (@Kd.zero (@Kd.pr kI (@Kd.pr kI (@Kd.pr Kd.str (@Kd.pr Kd.bool (@Kd.pr (@Kd.sl Kd.str) (@Kd.sl kI)))))))).2.2.1 (@List.getD (@Kd.T (@Kd.pr kI (@Kd.pr kI (@Kd.pr Kd.str (@Kd.pr Kd.bool (@Kd.pr (@Kd.sl Kd.str) (@Kd.sl kI))))))) s1 (@Int.toNat s2) (@Kd.zero (@Kd.pr kI (@Kd.pr kI (@Kd.pr Kd.str (@Kd.pr Kd.bool (@Kd.pr (@Kd.sl Kd.str) (@Kd.sl kI)))))))).2.2.2.1 (@List.getD (@Kd.T (@Kd.pr kI (@Kd.pr kI (@Kd.pr Kd.str (@Kd.pr Kd.bool (@Kd.pr (@Kd.sl Kd.str) (@Kd.sl kI))))))) s1 (@Int.toNat s2) (@Kd.zero (@Kd.pr kI (@Kd.pr kI (@Kd.pr Kd.str (@Kd.pr Kd.bool (@Kd.pr (@Kd.sl Kd.str) (@Kd.sl kI)))))))).2.2.2.2.1 (@List.getD (@Kd.T (@Kd.pr kI (@Kd.pr kI (@Kd.pr Kd.str (@Kd.pr Kd.bool (@Kd.pr (@Kd.sl Kd.str) (@Kd.sl kI))))))) s1 (@Int.toNat s2) (@Kd.zero (@Kd.pr kI (@Kd.pr kI (@Kd.pr Kd.str (@Kd.pr Kd.bool (@Kd.pr (@Kd.sl Kd.str) (@Kd.sl kI)))))))).2.2.2.2.2 (0 : Int)))) (@Option.none R)) (@Option.none R)) (K Bool.true))
theorem wqpp (k : Nat) {R : Type} (I : Nat → St → Option R) (s0 : (List (Int × (Int × ((List UInt8) × (Bool × ((List (List UInt8)) × (List Int)))))))) (s1 : (List (Int × (Int × ((List UInt8) × (Bool × ((List (List UInt8)) × (List Int)))))))) (s2 : Int) (K : (Bool → Option R)) : execK (wq7 k) k (at_ [1, 1, 0, 1, 0, 0] wqq) (wq23 s0 s1 s2) (konts (wq7 k) k I [1, 1, 0, 1, 0, 0] wqq (outK (wq7 k) wq2t [.tmp 4] (wq1y K))) = wq9x k (fun s0 s1 s2 s3 s4 s5 s6 s7 s8 s9 s10 s11 s12 s13 s14 s15 => iter (wq7 k).pv (look (wq7 k).cuts 1010) (execK (wq7 k) k (at_ [1, 1, 0, 1, 0, 0, 1, 0, 0, 1, 1, 0, 1, 0, 0] wqq)) k (wq67 s0 s1 s2 s3 s4 s5 s6 s7 s8 s9 s10 s11 s12 s13 s14 s15) (konts (wq7 k) k I [1, 1, 0, 1, 0, 0, 1, 0, 0, 1, 1, 0, 1, 0] wqq (outK (wq7 k) wq2t [.tmp 4] (wq1y K)))) s0 s1 s2 K := by kernel_rfl
noncomputable def wq83 (k : Nat) {R : Type} (E1010 : ((List (Int × (Int × ((List UInt8) × (Bool × ((List (List UInt8)) × (List Int))))))) → (List (Int × (Int × ((List UInt8) × (Bool × ((List (List UInt8)) × (List Int))))))) → Int → Int → Int → (List UInt8) → Bool → (List (List UInt8)) → (List Int) → Int → Int → (List UInt8) → Bool → (List (List UInt8)) → (List Int) → Int → Option R)) (E1015 : ((List (Int × (Int × ((List UInt8) × (Bool × ((List (List UInt8)) × (List Int))))))) → (List (Int × (Int × ((List UInt8) × (Bool × ((List (List UInt8)) × (List Int))))))) → Int → Int → Int → (List UInt8) → Bool → (List (List UInt8)) → (List Int) → Int → Int → (List UInt8) → Bool → (List (List UInt8)) → (List Int) → Int → Option R)) (s0 : (List (Int × (Int × ((List UInt8) × (Bool × ((List (List UInt8)) × (List Int)))))))) (s1 : (List (Int × (Int × ((List UInt8) × (Bool × ((List (List UInt8)) × (List Int)))))))) (s2 s3 s4 : Int) (s5 : (List UInt8)) (s6 : Bool) (s7 : (List (List UInt8))) (s8 : (List Int)) (s9 s10 : Int) (s11 : (List UInt8)) (s12 : Bool) (s13 : (List (List UInt8))) (s14 : (List Int)) (s15 : Int) (K : (Bool → Option R)) : Option R := (@cond (@Option R) (@Decidable.decide (@LT.lt Int Int.instLTInt s15 (@Nat.cast Int instNatCastInt (@List.length (@Kd.T Kd.str) s7))) (@Int.decLt s15 (@Nat.cast Int instNatCastInt (@List.length (@Kd.T Kd.str) s7)))) (@cond (@Option R) (@inb s15 (@Nat.cast Int instNatCastInt (@List.length (@Kd.T Kd.str) s7))) (@cond (@Option R) (@inb s15 (@Nat.cast Int instNatCastInt (@List.length (@Kd.T Kd.str) s13))) (@cond (@Option R) (@Bool.not (@BEq.beq (@List UInt8) (@List.instBEq UInt8 (@instBEqOfDecidableEq UInt8 @instDecidableEqUInt8)) (@List.getD (@Kd.T Kd.str) s7 (@Int.toNat s15) (@Kd.zero Kd.str)) (@List.getD (@Kd.T Kd.str) s13 (@Int.toNat s15) (@Kd.zero Kd.str)))) (K Bool.false) (E1010 s0 s1 s2 s3 s4 s5 s6 s7 s8 s9 s10 s11 s12 s13 s14 (@Go.IntKind.wrap Go.IntKind.i64 (@HAdd.hAdd Int Int Int (@instHAdd Int @Int.instAdd) s15 (1 : Int))))) (@Option.none R)) (@Option.none R)) (E1015 s0 s1 s2 s3 s4 s5 s6 s7 s8 s9 s10 s11 s12 s13 s14 (0 : Int)))
theorem wqpq (k : Nat) {R : Type} (I : Nat → St → Option R) (s0 : (List (Int × (Int × ((List UInt8) × (Bool × ((List (List UInt8)) × (List Int)))))))) (s1 : (List (Int × (Int × ((List UInt8) × (Bool × ((List (List UInt8)) × (List Int)))))))) (s2 s3 s4 : Int) (s5 : (List UInt8)) (s6 : Bool) (s7 : (List (List UInt8))) (s8 : (List Int)) (s9 s10 : Int) (s11 : (List UInt8)) (s12 : Bool) (s13 : (List (List UInt8))) (s14 : (List Int)) (s15 : Int) (K : (Bool → Option R)) : execK (wq7 k) k (at_ [1, 1, 0, 1, 0, 0, 1, 0, 0, 1, 1, 0, 1, 0, 0] wqq) (wq67 s0 s1 s2 s3 s4 s5 s6 s7 s8 s9 s10 s11 s12 s13 s14 s15) (konts (wq7 k) k I [1, 1, 0, 1, 0, 0, 1, 0, 0, 1, 1, 0, 1, 0, 0] wqq (outK (wq7 k) wq2t [.tmp 4] (wq1y K))) = wq83 k (fun s0 s1 s2 s3 s4 s5 s6 s7 s8 s9 s10 s11 s12 s13 s14 s15 => I 1010 (wq67 s0 s1 s2 s3 s4 s5 s6 s7 s8 s9 s10 s11 s12 s13 s14 s15)) (fun s0 s1 s2 s3 s4 s5 s6 s7 s8 s9 s10 s11 s12 s13 s14 s15 => iter (wq7 k).pv (look (wq7 k).cuts 1015) (execK (wq7 k) k (at_ [1, 1, 0, 1, 0, 0, 1, 0, 0, 1, 1, 1, 1, 0, 0] wqq)) k (wq68 s0 s1 s2 s3 s4 s5 s6 s7 s8 s9 s10 s11 s12 s13 s14 s15) (konts (wq7 k) k I [1, 1, 0, 1, 0, 0, 1, 0, 0, 1, 1, 1, 1, 0] wqq (outK (wq7 k) wq2t [.tmp 4] (wq1y K)))) s0 s1 s2 s3 s4 s5 s6 s7 s8 s9 s10 s11 s12 s13 s14 s15 K := by kernel_rfl
noncomputable def wq9y (k : Nat) {R : Type} (E1004 : wq7g R) (E1015 : ((List (Int × (Int × ((List UInt8) × (Bool × ((List (List UInt8)) × (List Int))))))) → (List (Int × (Int × ((List UInt8) × (Bool × ((List (List UInt8)) × (List Int))))))) → Int → Int → Int → (List UInt8) → Bool → (List (List UInt8)) → (List Int) → Int → Int → (List UInt8) → Bool → (List (List UInt8)) → (List Int) → Int → Option R)) (s0 : (List (Int × (Int × ((List UInt8) × (Bool × ((List (List UInt8)) × (List Int)))))))) (s1 : (List (Int × (Int × ((List UInt8) × (Bool × ((List (List UInt8)) × (List Int)))))))) (s2 s3 s4 : Int) (s5 : (List UInt8)) (s6 : Bool) (s7 : (List (List UInt8))) (s8 : (List Int)) (s9 s10 : Int) (s11 : (List UInt8)) (s12 : Bool) (s13 : (List (List UInt8))) (s14 : (List Int)) (s15 : Int) (K : (Bool → Option R)) : Option R := (@cond (@Option R) (@Decidable.decide (@LT.lt Int Int.instLTInt s15 (@Nat.cast Int instNatCastInt (@List.length (@Kd.T kI) s8))) (@Int.decLt s15 (@Nat.cast Int instNatCastInt (@List.length (@Kd.T kI) s8)))) (@cond (@Option R) (@inb s15 (@Nat.cast Int instNatCastInt (@List.length (@Kd.T kI) s8))) (@cond (@Option R) (@inb s15 (@Nat.cast Int instNatCastInt (@List.length (@Kd.T kI) s14))) (@cond (@Option R) (@bne Int (@instBEqOfDecidableEq Int @Int.instDecidableEq) (@List.getD (@Kd.T kI) s8 (@Int.toNat s15) (@Kd.zero kI)) (@List.getD (@Kd.T kI) s14 (@Int.toNat s15) (@Kd.zero kI))) (K Bool.false) (E1015 s0 s1 s2 s3 s4 s5 s6 s7 s8 s9 s10 s11 s12 s13 s14 (@Go.IntKind.wrap Go.IntKind.i64 (@HAdd.hAdd Int Int Int (@instHAdd Int @Int.instAdd) s15 (1 : Int))))) (@Option.none R)) (@Option.none R)) (E1004 s0 s1 (@Go.IntKind.wrap Go.IntKind.i64 (@HAdd.hAdd Int Int Int (@instHAdd Int @Int.instAdd) s2 (1 : Int)))))
theorem wqpr (k : Nat) {R : Type} (I : Nat → St → Option R) (s0 : (List (Int × (Int × ((List UInt8) × (Bool × ((List (List UInt8)) × (List Int)))))))) (s1 : (List (Int × (Int × ((List UInt8) × (Bool × ((List (List UInt8)) × (List Int)))))))) (s2 s3 s4 : Int) (s5 : (List UInt8)) (s6 : Bool) (s7 : (List (List UInt8))) (s8 : (List Int)) (s9 s10 : Int) (s11 : (List UInt8)) (s12 : Bool) (s13 : (List (List UInt8))) (s14 : (List Int)) (s15 : Int) (K : (Bool → Option R)) : execK (wq7 k) k (at_ [1, 1, 0, 1, 0, 0, 1, 0, 0, 1, 1, 1, 1, 0, 0] wqq) (wq68 s0 s1 s2 s3 s4 s5 s6 s7 s8 s9 s10 s11 s12 s13 s14 s15) (konts (wq7 k) k I [1, 1, 0, 1, 0, 0, 1, 0, 0, 1, 1, 1, 1, 0, 0] wqq (outK (wq7 k) wq2t [.tmp 4] (wq1y K))) = wq9y k (fun s0 s1 s2 => I 1004 (wq23 s0 s1 s2)) (fun s0 s1 s2 s3 s4 s5 s6 s7 s8 s9 s10 s11 s12 s13 s14 s15 => I 1015 (wq68 s0 s1 s2 s3 s4 s5 s6 s7 s8 s9 s10 s11 s12 s13 s14 s15)) s0 s1 s2 s3 s4 s5 s6 s7 s8 s9 s10 s11 s12 s13 s14 s15 K := by kernel_rfl
noncomputable def wqiu (k : Nat) {R : Type} (E1004 : wq7g R) (x0 : (List (Int × (Int × ((List UInt8) × (Bool × ((List (List UInt8)) × (List Int)))))))) (x1 : (List (Int × (Int × ((List UInt8) × (Bool × ((List (List UInt8)) × (List Int)))))))) (K : (Bool → Option R)) : Option R := (@cond (@Option R) (@bne Int (@instBEqOfDecidableEq Int @Int.instDecidableEq) (@Nat.cast Int instNatCastInt (@List.length (@Kd.T (@Kd.pr kI (@Kd.pr kI (@Kd.pr Kd.str (@Kd.pr Kd.bool (@Kd.pr (@Kd.sl Kd.str) (@Kd.sl kI))))))) x0)) (@Nat.cast Int instNatCastInt (@List.length (@Kd.T (@Kd.pr kI (@Kd.pr kI (@Kd.pr Kd.str (@Kd.pr Kd.bool (@Kd.pr (@Kd.sl Kd.str) (@Kd.sl kI))))))) x1))) (K Bool.false) (E1004 x0 x1 (0 : Int)))
theorem wqza (k : Nat) {R : Type} (I : Nat → St → Option R) (x0 : (List (Int × (Int × ((List UInt8) × (Bool × ((List (List UInt8)) × (List Int)))))))) (x1 : (List (Int × (Int × ((List UInt8) × (Bool × ((List (List UInt8)) × (List Int)))))))) (K : (Bool → Option R)) : fnK (wq7 k) k wqq 107 [.tmp 4] wq2t [.agg [.v (.sl (.pr (.int .i64) (.pr (.int .i64) (.pr .str (.pr .bool (.pr (.sl .str) (.sl (.int .i64)))))))) x0], .agg [.v (.sl (.pr (.int .i64) (.pr (.int .i64) (.pr .str (.pr .bool (.pr (.sl .str) (.sl (.int .i64)))))))) x1]] [] (wq1y K) = wqiu k (fun s0 s1 s2 => iter (wq7 k).pv (look (wq7 k).cuts 1004) (execK (wq7 k) k (at_ [1, 1, 0, 1, 0, 0] wqq)) k (wq23 s0 s1 s2) (konts (wq7 k) k I [1, 1, 0, 1, 0] wqq (outK (wq7 k) wq2t [.tmp 4] (wq1y K)))) x0 x1 K := by kernel_rfl
noncomputable def wq3y (k : Nat) {R : Type} (J1004 : wq7g R) : Nat → (List (Int × (Int × ((List UInt8) × (Bool × ((List (List UInt8)) × (List Int))))))) → (List (Int × (Int × ((List UInt8) × (Bool × ((List (List UInt8)) × (List Int))))))) → Int → Int → Int → (List UInt8) → Bool → (List (List UInt8)) → (List Int) → Int → Int → (List UInt8) → Bool → (List (List UInt8)) → (List Int) → Int → (Bool → Option R) → Option R
  | 0, _, _, _, _, _, _, _, _, _, _, _, _, _, _, _, _, _ => none
  | n + 1, s0, s1, s2, s3, s4, s5, s6, s7, s8, s9, s10, s11, s12, s13, s14, s15, K => wq9y k J1004 (fun s0 s1 s2 s3 s4 s5 s6 s7 s8 s9 s10 s11 s12 s13 s14 s15 => wq3y k J1004 n s0 s1 s2 s3 s4 s5 s6 s7 s8 s9 s10 s11 s12 s13 s14 s15 K) s0 s1 s2 s3 s4 s5 s6 s7 s8 s9 s10 s11 s12 s13 s14 s15 K
theorem wqps (k : Nat) {R : Type} (I : Nat → St → Option R) (K : (Bool → Option R)) : ∀ (n : Nat) (s0 : (List (Int × (Int × ((List UInt8) × (Bool × ((List (List UInt8)) × (List Int)))))))) (s1 : (List (Int × (Int × ((List UInt8) × (Bool × ((List (List UInt8)) × (List Int)))))))) (s2 s3 s4 : Int) (s5 : (List UInt8)) (s6 : Bool) (s7 : (List (List UInt8))) (s8 : (List Int)) (s9 s10 : Int) (s11 : (List UInt8)) (s12 : Bool) (s13 : (List (List UInt8))) (s14 : (List Int)) (s15 : Int), iter (wq7 k).pv (look (wq7 k).cuts 1015) (execK (wq7 k) k (at_ [1, 1, 0, 1, 0, 0, 1, 0, 0, 1, 1, 1, 1, 0, 0] wqq)) n (wq68 s0 s1 s2 s3 s4 s5 s6 s7 s8 s9 s10 s11 s12 s13 s14 s15) (konts (wq7 k) k I [1, 1, 0, 1, 0, 0, 1, 0, 0, 1, 1, 1, 1, 0] wqq (outK (wq7 k) wq2t [.tmp 4] (wq1y K))) = wq3y k (fun s0 s1 s2 => I 1004 (wq23 s0 s1 s2)) n s0 s1 s2 s3 s4 s5 s6 s7 s8 s9 s10 s11 s12 s13 s14 s15 K := by
  intro n
  induction n with
  | zero => intros; rfl
  | succ n ih =>
    intro s0 s1 s2 s3 s4 s5 s6 s7 s8 s9 s10 s11 s12 s13 s14 s15
    let I' : Nat → St → Option R := fun id s => bif Nat.beq id 1015 then iter (wq7 k).pv (look (wq7 k).cuts 1015) (execK (wq7 k) k (at_ [1, 1, 0, 1, 0, 0, 1, 0, 0, 1, 1, 1, 1, 0, 0] wqq)) n s (konts (wq7 k) k I [1, 1, 0, 1, 0, 0, 1, 0, 0, 1, 1, 1, 1, 0] wqq (outK (wq7 k) wq2t [.tmp 4] (wq1y K))) else I id s
    have e := wqpr k I' s0 s1 s2 s3 s4 s5 s6 s7 s8 s9 s10 s11 s12 s13 s14 s15 K
    have h1015 : (fun s0 s1 s2 s3 s4 s5 s6 s7 s8 s9 s10 s11 s12 s13 s14 s15 => I' 1015 (wq68 s0 s1 s2 s3 s4 s5 s6 s7 s8 s9 s10 s11 s12 s13 s14 s15)) = (fun s0 s1 s2 s3 s4 s5 s6 s7 s8 s9 s10 s11 s12 s13 s14 s15 => wq3y k (fun s0 s1 s2 => I 1004 (wq23 s0 s1 s2)) n s0 s1 s2 s3 s4 s5 s6 s7 s8 s9 s10 s11 s12 s13 s14 s15 K) := by funext s0 s1 s2 s3 s4 s5 s6 s7 s8 s9 s10 s11 s12 s13 s14 s15; exact ih s0 s1 s2 s3 s4 s5 s6 s7 s8 s9 s10 s11 s12 s13 s14 s15
    refine Eq.trans (?_ : _ = _) (e.trans (Eq.trans ((congrArg ((fun E1015 => wq9y k (fun s0 s1 s2 => I 1004 (wq23 s0 s1 s2)) E1015 s0 s1 s2 s3 s4 s5 s6 s7 s8 s9 s10 s11 s12 s13 s14 s15 K)) h1015)) (by rw [wq3y])))
    rfl
noncomputable def wq3d (k : Nat) {R : Type} (J1004 : wq7g R) : Nat → (List (Int × (Int × ((List UInt8) × (Bool × ((List (List UInt8)) × (List Int))))))) → (List (Int × (Int × ((List UInt8) × (Bool × ((List (List UInt8)) × (List Int))))))) → Int → Int → Int → (List UInt8) → Bool → (List (List UInt8)) → (List Int) → Int → Int → (List UInt8) → Bool → (List (List UInt8)) → (List Int) → Int → (Bool → Option R) → Option R
  | 0, _, _, _, _, _, _, _, _, _, _, _, _, _, _, _, _, _ => none
  | n + 1, s0, s1, s2, s3, s4, s5, s6, s7, s8, s9, s10, s11, s12, s13, s14, s15, K => wq83 k (fun s0 s1 s2 s3 s4 s5 s6 s7 s8 s9 s10 s11 s12 s13 s14 s15 => wq3d k J1004 n s0 s1 s2 s3 s4 s5 s6 s7 s8 s9 s10 s11 s12 s13 s14 s15 K) (fun s0 s1 s2 s3 s4 s5 s6 s7 s8 s9 s10 s11 s12 s13 s14 s15 => wq3y k J1004 k s0 s1 s2 s3 s4 s5 s6 s7 s8 s9 s10 s11 s12 s13 s14 s15 K) s0 s1 s2 s3 s4 s5 s6 s7 s8 s9 s10 s11 s12 s13 s14 s15 K
theorem wqpt (k : Nat) {R : Type} (I : Nat → St → Option R) (K : (Bool → Option R)) : ∀ (n : Nat) (s0 : (List (Int × (Int × ((List UInt8) × (Bool × ((List (List UInt8)) × (List Int)))))))) (s1 : (List (Int × (Int × ((List UInt8) × (Bool × ((List (List UInt8)) × (List Int)))))))) (s2 s3 s4 : Int) (s5 : (List UInt8)) (s6 : Bool) (s7 : (List (List UInt8))) (s8 : (List Int)) (s9 s10 : Int) (s11 : (List UInt8)) (s12 : Bool) (s13 : (List (List UInt8))) (s14 : (List Int)) (s15 : Int), iter (wq7 k).pv (look (wq7 k).cuts 1010) (execK (wq7 k) k (at_ [1, 1, 0, 1, 0, 0, 1, 0, 0, 1, 1, 0, 1, 0, 0] wqq)) n (wq67 s0 s1 s2 s3 s4 s5 s6 s7 s8 s9 s10 s11 s12 s13 s14 s15) (konts (wq7 k) k I [1, 1, 0, 1, 0, 0, 1, 0, 0, 1, 1, 0, 1, 0] wqq (outK (wq7 k) wq2t [.tmp 4] (wq1y K))) = wq3d k (fun s0 s1 s2 => I 1004 (wq23 s0 s1 s2)) n s0 s1 s2 s3 s4 s5 s6 s7 s8 s9 s10 s11 s12 s13 s14 s15 K := by
  intro n
  induction n with
  | zero => intros; rfl
  | succ n ih =>
    intro s0 s1 s2 s3 s4 s5 s6 s7 s8 s9 s10 s11 s12 s13 s14 s15
    let I' : Nat → St → Option R := fun id s => bif Nat.beq id 1010 then iter (wq7 k).pv (look (wq7 k).cuts 1010) (execK (wq7 k) k (at_ [1, 1, 0, 1, 0, 0, 1, 0, 0, 1, 1, 0, 1, 0, 0] wqq)) n s (konts (wq7 k) k I [1, 1, 0, 1, 0, 0, 1, 0, 0, 1, 1, 0, 1, 0] wqq (outK (wq7 k) wq2t [.tmp 4] (wq1y K))) else I id s
    have e := wqpq k I' s0 s1 s2 s3 s4 s5 s6 s7 s8 s9 s10 s11 s12 s13 s14 s15 K
    have h1010 : (fun s0 s1 s2 s3 s4 s5 s6 s7 s8 s9 s10 s11 s12 s13 s14 s15 => I' 1010 (wq67 s0 s1 s2 s3 s4 s5 s6 s7 s8 s9 s10 s11 s12 s13 s14 s15)) = (fun s0 s1 s2 s3 s4 s5 s6 s7 s8 s9 s10 s11 s12 s13 s14 s15 => wq3d k (fun s0 s1 s2 => I 1004 (wq23 s0 s1 s2)) n s0 s1 s2 s3 s4 s5 s6 s7 s8 s9 s10 s11 s12 s13 s14 s15 K) := by funext s0 s1 s2 s3 s4 s5 s6 s7 s8 s9 s10 s11 s12 s13 s14 s15; exact ih s0 s1 s2 s3 s4 s5 s6 s7 s8 s9 s10 s11 s12 s13 s14 s15
    have h1015 : (fun s0 s1 s2 s3 s4 s5 s6 s7 s8 s9 s10 s11 s12 s13 s14 s15 => iter (wq7 k).pv (look (wq7 k).cuts 1015) (execK (wq7 k) k (at_ [1, 1, 0, 1, 0, 0, 1, 0, 0, 1, 1, 1, 1, 0, 0] wqq)) k (wq68 s0 s1 s2 s3 s4 s5 s6 s7 s8 s9 s10 s11 s12 s13 s14 s15) (konts (wq7 k) k I' [1, 1, 0, 1, 0, 0, 1, 0, 0, 1, 1, 1, 1, 0] wqq (outK (wq7 k) wq2t [.tmp 4] (wq1y K)))) = (fun s0 s1 s2 s3 s4 s5 s6 s7 s8 s9 s10 s11 s12 s13 s14 s15 => wq3y k (fun s0 s1 s2 => I 1004 (wq23 s0 s1 s2)) k s0 s1 s2 s3 s4 s5 s6 s7 s8 s9 s10 s11 s12 s13 s14 s15 K) := by funext s0 s1 s2 s3 s4 s5 s6 s7 s8 s9 s10 s11 s12 s13 s14 s15; exact (wqps k I' K k s0 s1 s2 s3 s4 s5 s6 s7 s8 s9 s10 s11 s12 s13 s14 s15)
    refine Eq.trans (?_ : _ = _) (e.trans (Eq.trans ((Eq.trans (congrFun (congrArg ((fun E1010 E1015 => wq83 k E1010 E1015 s0 s1 s2 s3 s4 s5 s6 s7 s8 s9 s10 s11 s12 s13 s14 s15 K)) h1010) _) (congrArg ((fun E1010 E1015 => wq83 k E1010 E1015 s0 s1 s2 s3 s4 s5 s6 s7 s8 s9 s10 s11 s12 s13 s14 s15 K) (fun s0 s1 s2 s3 s4 s5 s6 s7 s8 s9 s10 s11 s12 s13 s14 s15 => wq3d k (fun s0 s1 s2 => I 1004 (wq23 s0 s1 s2)) n s0 s1 s2 s3 s4 s5 s6 s7 s8 s9 s10 s11 s12 s13 s14 s15 K)) h1015))) (by rw [wq3d])))
    rfl
noncomputable def wq2w (k : Nat) {R : Type}  : Nat → (List (Int × (Int × ((List UInt8) × (Bool × ((List (List UInt8)) × (List Int))))))) → (List (Int × (Int × ((List UInt8) × (Bool × ((List (List UInt8)) × (List Int))))))) → Int → (Bool → Option R) → Option R
  | 0, _, _, _, _ => none
  | n + 1, s0, s1, s2, K => wq9x k (fun s0 s1 s2 s3 s4 s5 s6 s7 s8 s9 s10 s11 s12 s13 s14 s15 => wq3d k (fun s0 s1 s2 => wq2w k  n s0 s1 s2 K) k s0 s1 s2 s3 s4 s5 s6 s7 s8 s9 s10 s11 s12 s13 s14 s15 K) s0 s1 s2 K
theorem wqpu (k : Nat) {R : Type} (I : Nat → St → Option R) (K : (Bool → Option R)) : ∀ (n : Nat) (s0 : (List (Int × (Int × ((List UInt8) × (Bool × ((List (List UInt8)) × (List Int)))))))) (s1 : (List (Int × (Int × ((List UInt8) × (Bool × ((List (List UInt8)) × (List Int)))))))) (s2 : Int), iter (wq7 k).pv (look (wq7 k).cuts 1004) (execK (wq7 k) k (at_ [1, 1, 0, 1, 0, 0] wqq)) n (wq23 s0 s1 s2) (konts (wq7 k) k I [1, 1, 0, 1, 0] wqq (outK (wq7 k) wq2t [.tmp 4] (wq1y K))) = wq2w k  n s0 s1 s2 K := by
  intro n
  induction n with
  | zero => intros; rfl
  | succ n ih =>
    intro s0 s1 s2
    let I' : Nat → St → Option R := fun id s => bif Nat.beq id 1004 then iter (wq7 k).pv (look (wq7 k).cuts 1004) (execK (wq7 k) k (at_ [1, 1, 0, 1, 0, 0] wqq)) n s (konts (wq7 k) k I [1, 1, 0, 1, 0] wqq (outK (wq7 k) wq2t [.tmp 4] (wq1y K))) else I id s
    have e := wqpp k I' s0 s1 s2 K
    have h1004 : (fun s0 s1 s2 => I' 1004 (wq23 s0 s1 s2)) = (fun s0 s1 s2 => wq2w k  n s0 s1 s2 K) := by funext s0 s1 s2; exact ih s0 s1 s2
    have h1010 : (fun s0 s1 s2 s3 s4 s5 s6 s7 s8 s9 s10 s11 s12 s13 s14 s15 => iter (wq7 k).pv (look (wq7 k).cuts 1010) (execK (wq7 k) k (at_ [1, 1, 0, 1, 0, 0, 1, 0, 0, 1, 1, 0, 1, 0, 0] wqq)) k (wq67 s0 s1 s2 s3 s4 s5 s6 s7 s8 s9 s10 s11 s12 s13 s14 s15) (konts (wq7 k) k I' [1, 1, 0, 1, 0, 0, 1, 0, 0, 1, 1, 0, 1, 0] wqq (outK (wq7 k) wq2t [.tmp 4] (wq1y K)))) = (fun s0 s1 s2 s3 s4 s5 s6 s7 s8 s9 s10 s11 s12 s13 s14 s15 => wq3d k (fun s0 s1 s2 => wq2w k  n s0 s1 s2 K) k s0 s1 s2 s3 s4 s5 s6 s7 s8 s9 s10 s11 s12 s13 s14 s15 K) := by funext s0 s1 s2 s3 s4 s5 s6 s7 s8 s9 s10 s11 s12 s13 s14 s15; exact (wqpt k I' K k s0 s1 s2 s3 s4 s5 s6 s7 s8 s9 s10 s11 s12 s13 s14 s15).trans (congrArg (fun (JJ : wq7g R) => wq3d k JJ k s0 s1 s2 s3 s4 s5 s6 s7 s8 s9 s10 s11 s12 s13 s14 s15 K) h1004)
    refine Eq.trans (?_ : _ = _) (e.trans (Eq.trans ((congrArg ((fun E1010 => wq9x k E1010 s0 s1 s2 K)) h1010)) (by rw [wq2w])))
    rfl
noncomputable def wqf2 (k : Nat) {R : Type} (x0 : (List (Int × (Int × ((List UInt8) × (Bool × ((List (List UInt8)) × (List Int)))))))) (x1 : (List (Int × (Int × ((List UInt8) × (Bool × ((List (List UInt8)) × (List Int)))))))) (K : (Bool → Option R)) : Option R := wqiu k (fun s0 s1 s2 => wq2w k k s0 s1 s2 K) x0 x1 K
theorem wqzb (k : Nat) {R : Type} (x0 : (List (Int × (Int × ((List UInt8) × (Bool × ((List (List UInt8)) × (List Int)))))))) (x1 : (List (Int × (Int × ((List UInt8) × (Bool × ((List (List UInt8)) × (List Int)))))))) (K : (Bool → Option R)) : fnK (wq7 k) k wqq 107 [.tmp 4] wq2t [.agg [.v (.sl (.pr (.int .i64) (.pr (.int .i64) (.pr .str (.pr .bool (.pr (.sl .str) (.sl (.int .i64)))))))) x0], .agg [.v (.sl (.pr (.int .i64) (.pr (.int .i64) (.pr .str (.pr .bool (.pr (.sl .str) (.sl (.int .i64)))))))) x1]] [] (wq1y K) = wqf2 k x0 x1 K := by
  let I : Nat → St → Option R := fun _ _ => none
  have h1004 : (fun s0 s1 s2 => iter (wq7 k).pv (look (wq7 k).cuts 1004) (execK (wq7 k) k (at_ [1, 1, 0, 1, 0, 0] wqq)) k (wq23 s0 s1 s2) (konts (wq7 k) k I [1, 1, 0, 1, 0] wqq (outK (wq7 k) wq2t [.tmp 4] (wq1y K)))) = (fun s0 s1 s2 => wq2w k k s0 s1 s2 K) := by funext s0 s1 s2; exact wqpu k I K k s0 s1 s2
  exact (wqza k I x0 x1 K).trans (congrArg ((fun E1004 => wqiu k E1004 x0 x1 K)) h1004)
noncomputable def wqiv (k : Nat) {R : Type} : List PV → List (Nm × HObj) → (Out → Option R) → Option R
  | [.agg [.v (.sl (.pr (.int .i64) (.pr (.int .i64) (.pr .str (.pr .bool (.pr (.sl .str) (.sl (.int .i64)))))))) x0], .agg [.v (.sl (.pr (.int .i64) (.pr (.int .i64) (.pr .str (.pr .bool (.pr (.sl .str) (.sl (.int .i64)))))))) x1]], [], K => wqf2 k x0 x1 (fun y0 => K (.ret [.v .bool y0] []))
  | _, _, _ => none
theorem wqzc (k : Nat) : (wqww k).Ok Tryz.prog := CTab.nil_ok
theorem wq157 (k : Nat) {ps : List PV} {hp : List (Nm × HObj)} {R : Type} {K : Out → Option R} {r : R} (h : wqiv k ps hp K = some r) : DoesTo Tryz.prog 13 ps hp fun out => K out = some r := by
  unfold wqiv at h
  split at h
  · rw [← wqzb] at h
    have := fn_ok (P := Tryz.prog) (cx := wq7 k) (f := 13) ⟨tyT_ok, wqzc k, fun _ _ => rfl⟩ (by kernel_rfl) (fn := Tryz.f13) (c := wqq) (by kernel_rfl) (by kernel_rfl) (by kernel_rfl) (rs := [.tmp 4]) (by kernel_rfl) (by kernel_rfl) h
    exact this.mono fun out ho => by
      unfold wq1y at ho
      split at ho <;> first | exact ho | cases ho
  · cases h
end Go.Proofs.YtpfbdepoammjmaaGreatDoor.Pvm

set_option maxRecDepth 1000000
set_option maxHeartbeats 0
namespace Go.Proofs.YtpfbdepoammjmaaGreatDoor.Pvm
open Go Go.Proofs
def wqnz : List LS := [.ag [.sl (.pr (.int .i64) (.pr (.int .i64) (.pr .str (.pr .bool (.pr (.sl .str) (.sl (.int .i64)))))))], .ag [.sl (.pr (.int .i64) (.pr (.int .i64) (.pr .str (.pr .bool (.pr (.sl .str) (.sl (.int .i64)))))))]]
noncomputable def wqt5 (k : Nat) : CTab := (CTab.add 13 wq11q (wqiv k) CTab.nil)
def wq5d {R : Type} (K : (Bool → Option R)) : Out → Option R
  | .ret [.v .bool y0] [] => K y0
  | _ => none
def wq7r : RetSpec := ⟨[.any], [], []⟩
def wqwy : List (Nat × CutSpec) := [(1004, ⟨[(2, .obj 12 [.sl (.pr (.int .i64) (.pr (.int .i64) (.pr .str (.pr .bool (.pr (.sl .str) (.sl (.int .i64)))))))]), (3, .obj 13 [.sl (.pr (.int .i64) (.pr (.int .i64) (.pr .str (.pr .bool (.pr (.sl .str) (.sl (.int .i64)))))))]), (5, .any)], []⟩)]
def wqtw : List (Nat × Plan) := [(6, (.of [(0, 1), (2, 1), (6, 1), (8, 1), (1, 1), (3, 1), (4, 1), (5, 1), (7, 1), (9, 1), (10, 1), (11, 1), (12, 1)] .done))]
noncomputable def wq16 (k : Nat) : Ctx := ⟨tyT, wqwy, wqt5 k, [], [], wqtw, @SH⟩
noncomputable def wq2l : Code := Tryz.f9.body.getD .skip
def wq5k (s0 : (List (Int × (Int × ((List UInt8) × (Bool × ((List (List UInt8)) × (List Int)))))))) (s1 : (List (Int × (Int × ((List UInt8) × (Bool × ((List (List UInt8)) × (List Int)))))))) (s2 : Int) : St := ⟨mkT [(2, .ptr 12 0), (3, .ptr 13 0), (5, .v (.int .i64) s2)], mkH [(12, .var 26 [.v (.sl (.pr (.int .i64) (.pr (.int .i64) (.pr .str (.pr .bool (.pr (.sl .str) (.sl (.int .i64)))))))) s0]), (13, .var 26 [.v (.sl (.pr (.int .i64) (.pr (.int .i64) (.pr .str (.pr .bool (.pr (.sl .str) (.sl (.int .i64)))))))) s1])]⟩
noncomputable def wq95 (k : Nat) {R : Type} (E1004 : ((List (Int × (Int × ((List UInt8) × (Bool × ((List (List UInt8)) × (List Int))))))) → (List (Int × (Int × ((List UInt8) × (Bool × ((List (List UInt8)) × (List Int))))))) → Int → Option R)) (s0 : (List (Int × (Int × ((List UInt8) × (Bool × ((List (List UInt8)) × (List Int)))))))) (s1 : (List (Int × (Int × ((List UInt8) × (Bool × ((List (List UInt8)) × (List Int)))))))) (s2 : Int) (K : (Bool → Option R)) : Option R := (@cond (@Option R) (@Decidable.decide (@LT.lt Int Int.instLTInt s2 (@Nat.cast Int instNatCastInt (@List.length (@Kd.T (@Kd.pr kI (@Kd.pr kI (@Kd.pr Kd.str (@Kd.pr Kd.bool (@Kd.pr (@Kd.sl Kd.str) (@Kd.sl kI))))))) s0))) (@Int.decLt s2 (@Nat.cast Int instNatCastInt (@List.length (@Kd.T (@Kd.pr kI (@Kd.pr kI (@Kd.pr Kd.str (@Kd.pr Kd.bool (@Kd.pr (@Kd.sl Kd.str) (@Kd.sl kI))))))) s0)))) (@cond (@Option R) (@inb s2 (@Nat.cast Int instNatCastInt (@List.length (@Kd.T (@Kd.pr kI (@Kd.pr kI (@Kd.pr Kd.str (@Kd.pr Kd.bool (@Kd.pr (@Kd.sl Kd.str) (@Kd.sl kI))))))) s0))) (@cond (@Option R) (@inb s2 (@Nat.cast Int instNatCastInt (@List.length (@Kd.T (@Kd.pr kI (@Kd.pr kI (@Kd.pr Kd.str (@Kd.pr Kd.bool (@Kd.pr (@Kd.sl Kd.str) (@Kd.sl kI))))))) s1))) (@cond (@Option R) (@bne Int (@instBEqOfDecidableEq Int @Int.instDecidableEq) (@List.getD (@Kd.T (@Kd.pr kI (@Kd.pr kI (@Kd.pr Kd.str (@Kd.pr Kd.bool (@Kd.pr (@Kd.sl Kd.str) (@Kd.sl kI))))))) s0 (@Int.toNat s2) (@Kd.zero (@Kd.pr kI (@Kd.pr kI (@Kd.pr Kd.str (@Kd.pr Kd.bool (@Kd.pr (@Kd.sl Kd.str) (@Kd.sl kI)))))))).2.1 (@List.getD (@Kd.T (@Kd.pr kI (@Kd.pr kI (@Kd.pr Kd.str (@Kd.pr Kd.bool (@Kd.pr (@Kd.sl Kd.str) (@Kd.sl kI))))))) s1 (@Int.toNat s2) (@Kd.zero (@Kd.pr kI (@Kd.pr kI (@Kd.pr Kd.str (@Kd.pr Kd.bool (@Kd.pr (@Kd.sl Kd.str) (@Kd.sl kI)))))))).2.1) (K Bool.false) (E1004 s0 s1 (@Go.IntKind.wrap Go.IntKind.i64 (@HAdd.hAdd Int Int Int (@instHAdd Int @Int.instAdd) s2 (1 : Int))))) (@Option.none R)) (@Option.none R)) (K Bool.true))
theorem wqnf (k : Nat) {R : Type} (I : Nat → St → Option R) (s0 : (List (Int × (Int × ((List UInt8) × (Bool × ((List (List UInt8)) × (List Int)))))))) (s1 : (List (Int × (Int × ((List UInt8) × (Bool × ((List (List UInt8)) × (List Int)))))))) (s2 : Int) (K : (Bool → Option R)) : execK (wq16 k) k (at_ [1, 1, 0, 1, 0, 0] wq2l) (wq5k s0 s1 s2) (konts (wq16 k) k I [1, 1, 0, 1, 0, 0] wq2l (outK (wq16 k) wq7r [.tmp 4] (wq5d K))) = wq95 k (fun s0 s1 s2 => I 1004 (wq5k s0 s1 s2)) s0 s1 s2 K := by kernel_rfl
noncomputable def wqg5 (k : Nat) {R : Type} (E1004 : ((List (Int × (Int × ((List UInt8) × (Bool × ((List (List UInt8)) × (List Int))))))) → (List (Int × (Int × ((List UInt8) × (Bool × ((List (List UInt8)) × (List Int))))))) → Int → Option R)) (x0 : (List (Int × (Int × ((List UInt8) × (Bool × ((List (List UInt8)) × (List Int)))))))) (x1 : (List (Int × (Int × ((List UInt8) × (Bool × ((List (List UInt8)) × (List Int)))))))) (K : (Bool → Option R)) : Option R := (@wqf2 k R x0 x1 (fun y6 => (@cond (@Option R) (@Bool.not y6) (K Bool.false) (E1004 x0 x1 (0 : Int)))))
theorem wqwz (k : Nat) {R : Type} (I : Nat → St → Option R) (x0 : (List (Int × (Int × ((List UInt8) × (Bool × ((List (List UInt8)) × (List Int)))))))) (x1 : (List (Int × (Int × ((List UInt8) × (Bool × ((List (List UInt8)) × (List Int)))))))) (K : (Bool → Option R)) : fnK (wq16 k) k wq2l 30 [.tmp 4] wq7r [.agg [.v (.sl (.pr (.int .i64) (.pr (.int .i64) (.pr .str (.pr .bool (.pr (.sl .str) (.sl (.int .i64)))))))) x0], .agg [.v (.sl (.pr (.int .i64) (.pr (.int .i64) (.pr .str (.pr .bool (.pr (.sl .str) (.sl (.int .i64)))))))) x1]] [] (wq5d K) = wqg5 k (fun s0 s1 s2 => iter (wq16 k).pv (look (wq16 k).cuts 1004) (execK (wq16 k) k (at_ [1, 1, 0, 1, 0, 0] wq2l)) k (wq5k s0 s1 s2) (konts (wq16 k) k I [1, 1, 0, 1, 0] wq2l (outK (wq16 k) wq7r [.tmp 4] (wq5d K)))) x0 x1 K := by kernel_rfl
noncomputable def wq46 (k : Nat) {R : Type}  : Nat → (List (Int × (Int × ((List UInt8) × (Bool × ((List (List UInt8)) × (List Int))))))) → (List (Int × (Int × ((List UInt8) × (Bool × ((List (List UInt8)) × (List Int))))))) → Int → (Bool → Option R) → Option R
  | 0, _, _, _, _ => none
  | n + 1, s0, s1, s2, K => wq95 k (fun s0 s1 s2 => wq46 k  n s0 s1 s2 K) s0 s1 s2 K
theorem wqng (k : Nat) {R : Type} (I : Nat → St → Option R) (K : (Bool → Option R)) : ∀ (n : Nat) (s0 : (List (Int × (Int × ((List UInt8) × (Bool × ((List (List UInt8)) × (List Int)))))))) (s1 : (List (Int × (Int × ((List UInt8) × (Bool × ((List (List UInt8)) × (List Int)))))))) (s2 : Int), iter (wq16 k).pv (look (wq16 k).cuts 1004) (execK (wq16 k) k (at_ [1, 1, 0, 1, 0, 0] wq2l)) n (wq5k s0 s1 s2) (konts (wq16 k) k I [1, 1, 0, 1, 0] wq2l (outK (wq16 k) wq7r [.tmp 4] (wq5d K))) = wq46 k  n s0 s1 s2 K := by
  intro n
  induction n with
  | zero => intros; rfl
  | succ n ih =>
    intro s0 s1 s2
    let I' : Nat → St → Option R := fun id s => bif Nat.beq id 1004 then iter (wq16 k).pv (look (wq16 k).cuts 1004) (execK (wq16 k) k (at_ [1, 1, 0, 1, 0, 0] wq2l)) n s (konts (wq16 k) k I [1, 1, 0, 1, 0] wq2l (outK (wq16 k) wq7r [.tmp 4] (wq5d K))) else I id s
    have e := wqnf k I' s0 s1 s2 K
    have h1004 : (fun s0 s1 s2 => I' 1004 (wq5k s0 s1 s2)) = (fun s0 s1 s2 => wq46 k  n s0 s1 s2 K) := by funext s0 s1 s2; exact ih s0 s1 s2
    refine Eq.trans (?_ : _ = _) (e.trans (Eq.trans ((congrArg ((fun E1004 => wq95 k E1004 s0 s1 s2 K)) h1004)) (by rw [wq46])))
    rfl
noncomputable def wqb3 (k : Nat) {R : Type} (x0 : (List (Int × (Int × ((List UInt8) × (Bool × ((List (List UInt8)) × (List Int)))))))) (x1 : (List (Int × (Int × ((List UInt8) × (Bool × ((List (List UInt8)) × (List Int)))))))) (K : (Bool → Option R)) : Option R := wqg5 k (fun s0 s1 s2 => wq46 k k s0 s1 s2 K) x0 x1 K
theorem wqx0 (k : Nat) {R : Type} (x0 : (List (Int × (Int × ((List UInt8) × (Bool × ((List (List UInt8)) × (List Int)))))))) (x1 : (List (Int × (Int × ((List UInt8) × (Bool × ((List (List UInt8)) × (List Int)))))))) (K : (Bool → Option R)) : fnK (wq16 k) k wq2l 30 [.tmp 4] wq7r [.agg [.v (.sl (.pr (.int .i64) (.pr (.int .i64) (.pr .str (.pr .bool (.pr (.sl .str) (.sl (.int .i64)))))))) x0], .agg [.v (.sl (.pr (.int .i64) (.pr (.int .i64) (.pr .str (.pr .bool (.pr (.sl .str) (.sl (.int .i64)))))))) x1]] [] (wq5d K) = wqb3 k x0 x1 K := by
  let I : Nat → St → Option R := fun _ _ => none
  have h1004 : (fun s0 s1 s2 => iter (wq16 k).pv (look (wq16 k).cuts 1004) (execK (wq16 k) k (at_ [1, 1, 0, 1, 0, 0] wq2l)) k (wq5k s0 s1 s2) (konts (wq16 k) k I [1, 1, 0, 1, 0] wq2l (outK (wq16 k) wq7r [.tmp 4] (wq5d K)))) = (fun s0 s1 s2 => wq46 k k s0 s1 s2 K) := by funext s0 s1 s2; exact wqng k I K k s0 s1 s2
  exact (wqwz k I x0 x1 K).trans (congrArg ((fun E1004 => wqg5 k E1004 x0 x1 K)) h1004)
noncomputable def wqcy (k : Nat) {R : Type} : List PV → List (Nm × HObj) → (Out → Option R) → Option R
  | [.agg [.v (.sl (.pr (.int .i64) (.pr (.int .i64) (.pr .str (.pr .bool (.pr (.sl .str) (.sl (.int .i64)))))))) x0], .agg [.v (.sl (.pr (.int .i64) (.pr (.int .i64) (.pr .str (.pr .bool (.pr (.sl .str) (.sl (.int .i64)))))))) x1]], [], K => wqb3 k x0 x1 (fun y0 => K (.ret [.v .bool y0] []))
  | _, _, _ => none
theorem wqx1 (k : Nat) : (wqt5 k).Ok Tryz.prog := (CTab.add_ok (fun h => wq157 k h) CTab.nil_ok)
theorem wqt6 (k : Nat) {ps : List PV} {hp : List (Nm × HObj)} {R : Type} {K : Out → Option R} {r : R} (h : wqcy k ps hp K = some r) : DoesTo Tryz.prog 9 ps hp fun out => K out = some r := by
  unfold wqcy at h
  split at h
  · rw [← wqx0] at h
    have := fn_ok (P := Tryz.prog) (cx := wq16 k) (f := 9) ⟨tyT_ok, wqx1 k, fun _ _ => rfl⟩ (by kernel_rfl) (fn := Tryz.f9) (c := wq2l) (by kernel_rfl) (by kernel_rfl) (by kernel_rfl) (rs := [.tmp 4]) (by kernel_rfl) (by kernel_rfl) h
    exact this.mono fun out ho => by
      unfold wq5d at ho
      split at ho <;> first | exact ho | cases ho
  · cases h
end Go.Proofs.YtpfbdepoammjmaaGreatDoor.Pvm

set_option maxRecDepth 1000000
set_option maxHeartbeats 0
namespace Go.Proofs.YtpfbdepoammjmaaGreatDoor.Pvm
open Go Go.Proofs
def wqzd : List LS := []
noncomputable def wqt7 (k : Nat) : CTab := (CTab.add 7 wqt4 (wqg4 k) (CTab.add 9 wqnz (wqcy k) (CTab.add 17 wq12v (wqq8 k) CTab.nil)))
def wqf3 {R : Type} (K : (Bool → Option R)) : Out → Option R
  | .ret [.v .bool y0] [] => K y0
  | _ => none
def wqr3 : RetSpec := ⟨[.any], [], []⟩
def wqx2 : List (Nat × CutSpec) := []
def wqtx : List (Nat × Plan) := []
noncomputable def wqiw (k : Nat) : Ctx := ⟨tyT, wqx2, wqt7 k, [], [], wqtx, @SH⟩
noncomputable def wqf4 : Code := Tryz.f6.body.getD .skip
noncomputable def wqlb (k : Nat) {R : Type}   (K : (Bool → Option R)) : Option R := (@wqb2 k R ((97 : Int) :: ((58 : Int) :: ((32 : Int) :: ((98 : Int) :: [])))) (fun y3 y4 y5 => (@wqb2 k R ((97 : Int) :: ((58 : Int) :: [])) (fun y6 y7 y8 => (@F_doc_Of k R [] (fun y9 y10 y11 => (@cond (@Option R) (@BEq.beq (@Kd.T Kd.bool) (@instBEqOfDecidableEq (@Kd.T Kd.bool) @instDecidableEqBool) (@Bool.and (@BEq.beq Int (@instBEqOfDecidableEq Int @Int.instDecidableEq) y4 (0 : (@Kd.T kI))) (@BEq.beq Int (@instBEqOfDecidableEq Int @Int.instDecidableEq) y5 (0 : (@Kd.T kI)))) Bool.true) (@wqb3 k R y3 (((3 : Int), ((1 : Int), ([], (Bool.false, (((@Array.toList UInt8 (@ByteArray.data (@ByteArray.mk (@List.toArray UInt8 ((97 : UInt8) :: []))))) :: []), ((1 : Int) :: [])))))) :: (((1 : Int), ((1 : Int), ((@Array.toList UInt8 (@ByteArray.data (@ByteArray.mk (@List.toArray UInt8 ((98 : UInt8) :: []))))), (Bool.false, ([], []))))) :: [])) (fun y12 => (K (@cond (@Kd.T Kd.bool) (@cond (@Kd.T Kd.bool) y12 (@Bool.and (@BEq.beq Int (@instBEqOfDecidableEq Int @Int.instDecidableEq) y7 (10 : Int)) (@BEq.beq Int (@instBEqOfDecidableEq Int @Int.instDecidableEq) y8 (1 : Int))) Bool.false) (@Bool.and (@BEq.beq Int (@instBEqOfDecidableEq Int @Int.instDecidableEq) y10 (10 : Int)) (@BEq.beq Int (@instBEqOfDecidableEq Int @Int.instDecidableEq) y11 (1 : Int))) Bool.false)))) (K (@cond (@Kd.T Kd.bool) (@cond (@Kd.T Kd.bool) Bool.false (@Bool.and (@BEq.beq Int (@instBEqOfDecidableEq Int @Int.instDecidableEq) y7 (10 : Int)) (@BEq.beq Int (@instBEqOfDecidableEq Int @Int.instDecidableEq) y8 (1 : Int))) Bool.false) (@Bool.and (@BEq.beq Int (@instBEqOfDecidableEq Int @Int.instDecidableEq) y10 (10 : Int)) (@BEq.beq Int (@instBEqOfDecidableEq Int @Int.instDecidableEq) y11 (1 : Int))) Bool.false)))))))))
theorem wqx3 (k : Nat) {R : Type} (I : Nat → St → Option R)  (K : (Bool → Option R)) : fnK (wqiw k) k wqf4 46 [.tmp 0] wqr3 [] [] (wqf3 K) = wqlb k   K := by kernel_rfl
noncomputable def wqb4 (k : Nat) {R : Type}  (K : (Bool → Option R)) : Option R := wqlb k   K
theorem wqx4 (k : Nat) {R : Type}  (K : (Bool → Option R)) : fnK (wqiw k) k wqf4 46 [.tmp 0] wqr3 [] [] (wqf3 K) = wqb4 k  K := by
  exact wqx3 k (fun _ _ => none)  K
noncomputable def wqgv (k : Nat) {R : Type} : List PV → List (Nm × HObj) → (Out → Option R) → Option R
  | [], [], K => wqb4 k  (fun y0 => K (.ret [.v .bool y0] []))
  | _, _, _ => none
theorem wqx5 (k : Nat) : (wqt7 k).Ok Tryz.prog := (CTab.add_ok (fun h => wq10d k h) (CTab.add_ok (fun h => wqt6 k h) (CTab.add_ok (fun h => D_doc_Of k h) CTab.nil_ok)))
theorem wq13t (k : Nat) {ps : List PV} {hp : List (Nm × HObj)} {R : Type} {K : Out → Option R} {r : R} (h : wqgv k ps hp K = some r) : DoesTo Tryz.prog 6 ps hp fun out => K out = some r := by
  unfold wqgv at h
  split at h
  · rw [← wqx4] at h
    have := fn_ok (P := Tryz.prog) (cx := wqiw k) (f := 6) ⟨tyT_ok, wqx5 k, fun _ _ => rfl⟩ (by kernel_rfl) (fn := Tryz.f6) (c := wqf4) (by kernel_rfl) (by kernel_rfl) (by kernel_rfl) (rs := [.tmp 0]) (by kernel_rfl) (by kernel_rfl) h
    exact this.mono fun out ho => by
      unfold wqf3 at ho
      split at ho <;> first | exact ho | cases ho
  · cases h
end Go.Proofs.YtpfbdepoammjmaaGreatDoor.Pvm

set_option maxRecDepth 1000000
set_option maxHeartbeats 0
namespace Go.Proofs.YtpfbdepoammjmaaGreatDoor.Pvm
open Go Go.Proofs
def wqx6 : List LS := [.any, .any]
noncomputable def wqr4 (k : Nat) : CTab := CTab.nil
def wq4p {R : Type} (K : (Int → Bool → Option R)) : Out → Option R
  | .ret [.v (.int .i64) y0, .v .bool y1] [] => K y0 y1
  | _ => none
def wq72 : RetSpec := ⟨[.any, .any], [], []⟩
def wqty : List (Nat × CutSpec) := [(1003, ⟨[(0, .any), (6, .any), (7, .any)], []⟩)]
def wqsg : List (Nat × Plan) := []
noncomputable def wqy (k : Nat) : Ctx := ⟨tyT, wqty, wqr4 k, [], [], wqsg, @SH⟩
noncomputable def wq28 : Code := Tryz.f89.body.getD .skip
def wq52 (s0 : (List UInt8)) (s1 s2 : Int) : St := ⟨mkT [(0, .v .str s0), (6, .v (.int .u8) s1), (7, .v (.int .i64) s2)], mkH []⟩
noncomputable def wq8f (k : Nat) {R : Type} (E1003 : ((List UInt8) → Int → Int → Option R)) (s0 : (List UInt8)) (s1 s2 : Int) (K : (Int → Bool → Option R)) : Option R := (@cond (@Option R) (@Decidable.decide (@LT.lt Int Int.instLTInt s2 (@Nat.cast Int instNatCastInt (@List.length UInt8 s0))) (@Int.decLt s2 (@Nat.cast Int instNatCastInt (@List.length UInt8 s0)))) (@cond (@Option R) (@Bool.or (@Bool.not (@BEq.beq (@Kd.T Kd.bool) (@instBEqOfDecidableEq (@Kd.T Kd.bool) @instDecidableEqBool) (@BEq.beq Int (@instBEqOfDecidableEq Int @Int.instDecidableEq) s1 (34 : Int)) Bool.true)) (@inb s2 (@Nat.cast Int instNatCastInt (@List.length UInt8 s0)))) (@cond (@Option R) (@cond (@Kd.T Kd.bool) (@BEq.beq Int (@instBEqOfDecidableEq Int @Int.instDecidableEq) s1 (34 : Int)) (@BEq.beq Int (@instBEqOfDecidableEq Int @Int.instDecidableEq) (@Nat.cast Int instNatCastInt (@UInt8.toNat (@List.getD UInt8 s0 (@Int.toNat s2) (0 : UInt8)))) (92 : Int)) Bool.false) (E1003 s0 s1 (@Go.IntKind.wrap Go.IntKind.i64 (@HAdd.hAdd Int Int Int (@instHAdd Int @Int.instAdd) (@Go.IntKind.wrap Go.IntKind.i64 (@HAdd.hAdd Int Int Int (@instHAdd Int @Int.instAdd) s2 (1 : Int))) (1 : Int)))) (@cond (@Option R) (@inb s2 (@Nat.cast Int instNatCastInt (@List.length UInt8 s0))) (@cond (@Option R) (@bne Int (@instBEqOfDecidableEq Int @Int.instDecidableEq) (@Nat.cast Int instNatCastInt (@UInt8.toNat (@List.getD UInt8 s0 (@Int.toNat s2) (0 : UInt8)))) s1) (E1003 s0 s1 (@Go.IntKind.wrap Go.IntKind.i64 (@HAdd.hAdd Int Int Int (@instHAdd Int @Int.instAdd) s2 (1 : Int)))) (@cond (@Option R) (@Bool.or (@Bool.not (@BEq.beq (@Kd.T Kd.bool) (@instBEqOfDecidableEq (@Kd.T Kd.bool) @instDecidableEqBool) (@cond (@Kd.T Kd.bool) (@BEq.beq Int (@instBEqOfDecidableEq Int @Int.instDecidableEq) s1 (39 : Int)) (@Decidable.decide (@LT.lt Int Int.instLTInt (@Go.IntKind.wrap Go.IntKind.i64 (@HAdd.hAdd Int Int Int (@instHAdd Int @Int.instAdd) s2 (1 : Int))) (@Nat.cast Int instNatCastInt (@List.length UInt8 s0))) (@Int.decLt (@Go.IntKind.wrap Go.IntKind.i64 (@HAdd.hAdd Int Int Int (@instHAdd Int @Int.instAdd) s2 (1 : Int))) (@Nat.cast Int instNatCastInt (@List.length UInt8 s0)))) Bool.false) Bool.true)) (@inb (@Go.IntKind.wrap Go.IntKind.i64 (@HAdd.hAdd Int Int Int (@instHAdd Int @Int.instAdd) s2 (1 : Int))) (@Nat.cast Int instNatCastInt (@List.length UInt8 s0)))) (@cond (@Option R) (@cond (@Kd.T Kd.bool) (@cond (@Kd.T Kd.bool) (@BEq.beq Int (@instBEqOfDecidableEq Int @Int.instDecidableEq) s1 (39 : Int)) (@Decidable.decide (@LT.lt Int Int.instLTInt (@Go.IntKind.wrap Go.IntKind.i64 (@HAdd.hAdd Int Int Int (@instHAdd Int @Int.instAdd) s2 (1 : Int))) (@Nat.cast Int instNatCastInt (@List.length UInt8 s0))) (@Int.decLt (@Go.IntKind.wrap Go.IntKind.i64 (@HAdd.hAdd Int Int Int (@instHAdd Int @Int.instAdd) s2 (1 : Int))) (@Nat.cast Int instNatCastInt (@List.length UInt8 s0)))) Bool.false) (@BEq.beq Int (@instBEqOfDecidableEq Int @Int.instDecidableEq) (@Nat.cast Int instNatCastInt (@UInt8.toNat (@List.getD UInt8 s0 (@Int.toNat (@Go.IntKind.wrap Go.IntKind.i64 (@HAdd.hAdd Int Int Int (@instHAdd Int @Int.instAdd) s2 (1 : Int)))) (0 : UInt8)))) (39 : Int)) Bool.false) (E1003 s0 s1 (@Go.IntKind.wrap Go.IntKind.i64 (@HAdd.hAdd Int Int Int (@instHAdd Int @Int.instAdd) (@Go.IntKind.wrap Go.IntKind.i64 (@HAdd.hAdd Int Int Int (@instHAdd Int @Int.instAdd) s2 (1 : Int))) (1 : Int)))) (K (@Go.IntKind.wrap Go.IntKind.i64 (@HAdd.hAdd Int Int Int (@instHAdd Int @Int.instAdd) s2 (1 : Int))) Bool.true)) (@Option.none R))) (@Option.none R))) (@Option.none R)) (K (0 : Int) Bool.false))
theorem wqlc (k : Nat) {R : Type} (I : Nat → St → Option R) (s0 : (List UInt8)) (s1 s2 : Int) (K : (Int → Bool → Option R)) : execK (wqy k) k (at_ [1, 1, 0, 1, 0, 0] wq28) (wq52 s0 s1 s2) (konts (wqy k) k I [1, 1, 0, 1, 0, 0] wq28 (outK (wqy k) wq72 [.tmp 4, .tmp 5] (wq4p K))) = wq8f k (fun s0 s1 s2 => I 1003 (wq52 s0 s1 s2)) s0 s1 s2 K := by kernel_rfl
noncomputable def wqe9 (k : Nat) {R : Type} (E1003 : ((List UInt8) → Int → Int → Option R)) (x0 : (List UInt8)) (x1 : Int) (K : (Int → Bool → Option R)) : Option R := (@cond (@Option R) (@inb x1 (@Nat.cast Int instNatCastInt (@List.length UInt8 x0))) (E1003 x0 (@Nat.cast Int instNatCastInt (@UInt8.toNat (@List.getD UInt8 x0 (@Int.toNat x1) (0 : UInt8)))) (@Go.IntKind.wrap Go.IntKind.i64 (@HAdd.hAdd Int Int Int (@instHAdd Int @Int.instAdd) x1 (1 : Int)))) (@Option.none R))
theorem wqtz (k : Nat) {R : Type} (I : Nat → St → Option R) (x0 : (List UInt8)) (x1 : Int) (K : (Int → Bool → Option R)) : fnK (wqy k) k wq28 54 [.tmp 4, .tmp 5] wq72 [.v .str x0, .v (.int .i64) x1] [] (wq4p K) = wqe9 k (fun s0 s1 s2 => iter (wqy k).pv (look (wqy k).cuts 1003) (execK (wqy k) k (at_ [1, 1, 0, 1, 0, 0] wq28)) k (wq52 s0 s1 s2) (konts (wqy k) k I [1, 1, 0, 1, 0] wq28 (outK (wqy k) wq72 [.tmp 4, .tmp 5] (wq4p K)))) x0 x1 K := by kernel_rfl
noncomputable def wq3t (k : Nat) {R : Type}  : Nat → (List UInt8) → Int → Int → (Int → Bool → Option R) → Option R
  | 0, _, _, _, _ => none
  | n + 1, s0, s1, s2, K => wq8f k (fun s0 s1 s2 => wq3t k  n s0 s1 s2 K) s0 s1 s2 K
theorem wqld (k : Nat) {R : Type} (I : Nat → St → Option R) (K : (Int → Bool → Option R)) : ∀ (n : Nat) (s0 : (List UInt8)) (s1 s2 : Int), iter (wqy k).pv (look (wqy k).cuts 1003) (execK (wqy k) k (at_ [1, 1, 0, 1, 0, 0] wq28)) n (wq52 s0 s1 s2) (konts (wqy k) k I [1, 1, 0, 1, 0] wq28 (outK (wqy k) wq72 [.tmp 4, .tmp 5] (wq4p K))) = wq3t k  n s0 s1 s2 K := by
  intro n
  induction n with
  | zero => intros; rfl
  | succ n ih =>
    intro s0 s1 s2
    let I' : Nat → St → Option R := fun id s => bif Nat.beq id 1003 then iter (wqy k).pv (look (wqy k).cuts 1003) (execK (wqy k) k (at_ [1, 1, 0, 1, 0, 0] wq28)) n s (konts (wqy k) k I [1, 1, 0, 1, 0] wq28 (outK (wqy k) wq72 [.tmp 4, .tmp 5] (wq4p K))) else I id s
    have e := wqlc k I' s0 s1 s2 K
    have h1003 : (fun s0 s1 s2 => I' 1003 (wq52 s0 s1 s2)) = (fun s0 s1 s2 => wq3t k  n s0 s1 s2 K) := by funext s0 s1 s2; exact ih s0 s1 s2
    refine Eq.trans (?_ : _ = _) (e.trans (Eq.trans ((congrArg ((fun E1003 => wq8f k E1003 s0 s1 s2 K)) h1003)) (by rw [wq3t])))
    rfl
noncomputable def wqbt (k : Nat) {R : Type} (x0 : (List UInt8)) (x1 : Int) (K : (Int → Bool → Option R)) : Option R := wqe9 k (fun s0 s1 s2 => wq3t k k s0 s1 s2 K) x0 x1 K
theorem wqu0 (k : Nat) {R : Type} (x0 : (List UInt8)) (x1 : Int) (K : (Int → Bool → Option R)) : fnK (wqy k) k wq28 54 [.tmp 4, .tmp 5] wq72 [.v .str x0, .v (.int .i64) x1] [] (wq4p K) = wqbt k x0 x1 K := by
  let I : Nat → St → Option R := fun _ _ => none
  have h1003 : (fun s0 s1 s2 => iter (wqy k).pv (look (wqy k).cuts 1003) (execK (wqy k) k (at_ [1, 1, 0, 1, 0, 0] wq28)) k (wq52 s0 s1 s2) (konts (wqy k) k I [1, 1, 0, 1, 0] wq28 (outK (wqy k) wq72 [.tmp 4, .tmp 5] (wq4p K)))) = (fun s0 s1 s2 => wq3t k k s0 s1 s2 K) := by funext s0 s1 s2; exact wqld k I K k s0 s1 s2
  exact (wqtz k I x0 x1 K).trans (congrArg ((fun E1003 => wqe9 k E1003 x0 x1 K)) h1003)
noncomputable def wqf5 (k : Nat) {R : Type} : List PV → List (Nm × HObj) → (Out → Option R) → Option R
  | [.v .str x0, .v (.int .i64) x1], [], K => wqbt k x0 x1 (fun y0 y1 => K (.ret [.v (.int .i64) y0, .v .bool y1] []))
  | _, _, _ => none
theorem wqu1 (k : Nat) : (wqr4 k).Ok Tryz.prog := CTab.nil_ok
theorem wq11r (k : Nat) {ps : List PV} {hp : List (Nm × HObj)} {R : Type} {K : Out → Option R} {r : R} (h : wqf5 k ps hp K = some r) : DoesTo Tryz.prog 89 ps hp fun out => K out = some r := by
  unfold wqf5 at h
  split at h
  · rw [← wqu0] at h
    have := fn_ok (P := Tryz.prog) (cx := wqy k) (f := 89) ⟨tyT_ok, wqu1 k, fun _ _ => rfl⟩ (by kernel_rfl) (fn := Tryz.f89) (c := wq28) (by kernel_rfl) (by kernel_rfl) (by kernel_rfl) (rs := [.tmp 4, .tmp 5]) (by kernel_rfl) (by kernel_rfl) h
    exact this.mono fun out ho => by
      unfold wq4p at ho
      split at ho <;> first | exact ho | cases ho
  · cases h
end Go.Proofs.YtpfbdepoammjmaaGreatDoor.Pvm

set_option maxRecDepth 1000000
set_option maxHeartbeats 0
namespace Go.Proofs.YtpfbdepoammjmaaGreatDoor.Pvm
open Go Go.Proofs
def wqze : List LS := [.any]
noncomputable def wqt8 (k : Nat) : CTab := (CTab.add 89 wqx6 (wqf5 k) CTab.nil)
def wq2m {R : Type} (K : ((List UInt8) → Bool → Option R)) : Out → Option R
  | .ret [.v .str y0, .v .bool y1] [] => K y0 y1
  | _ => none
def wq3z : RetSpec := ⟨[.any, .any], [], []⟩
def wqx7 : List (Nat × CutSpec) := [(1003, ⟨[(0, .any), (4, .any), (5, .any)], []⟩), (1013, ⟨[(0, .any), (4, .any)], []⟩)]
def wqu2 : List (Nat × Plan) := []
noncomputable def wqb (k : Nat) : Ctx := ⟨tyT, wqx7, wqt8 k, [], [], wqu2, @SH⟩
noncomputable def wq13 : Code := Tryz.f50.body.getD .skip
def wq5l (s0 : (List UInt8)) (s1 s2 : Int) : St := ⟨mkT [(0, .v .str s0), (4, .v (.int .i64) s1), (5, .v (.int .i64) s2)], mkH []⟩
def wq5m (s0 : (List UInt8)) (s1 : Int) : St := ⟨mkT [(0, .v .str s0), (4, .v (.int .i64) s1)], mkH []⟩
noncomputable def wq69 (k : Nat) {R : Type} (E1003 : ((List UInt8) → Int → Int → Option R)) (E1013 : ((List UInt8) → Int → Option R)) (s0 : (List UInt8)) (s1 s2 : Int) (K : ((List UInt8) → Bool → Option R)) : Option R := (@cond (@Option R) (@Decidable.decide (@LT.lt Int Int.instLTInt s2 s1) (@Int.decLt s2 s1)) (@cond (@Option R) (@Bool.or (@Bool.not (@BEq.beq (@Kd.T Kd.bool) (@instBEqOfDecidableEq (@Kd.T Kd.bool) @instDecidableEqBool) (@BEq.beq Int (@instBEqOfDecidableEq Int @Int.instDecidableEq) s2 (0 : Int)) Bool.false)) (@inb (@Go.IntKind.wrap Go.IntKind.i64 (@HSub.hSub Int Int Int (@instHSub Int @Int.instSub) s2 (1 : Int))) (@Nat.cast Int instNatCastInt (@List.length UInt8 s0)))) (@cond (@Option R) (@Bool.or (@Bool.not (@BEq.beq (@Kd.T Kd.bool) (@instBEqOfDecidableEq (@Kd.T Kd.bool) @instDecidableEqBool) (@cond (@Kd.T Kd.bool) (@BEq.beq Int (@instBEqOfDecidableEq Int @Int.instDecidableEq) s2 (0 : Int)) Bool.true (@BEq.beq Int (@instBEqOfDecidableEq Int @Int.instDecidableEq) (@Nat.cast Int instNatCastInt (@UInt8.toNat (@List.getD UInt8 s0 (@Int.toNat (@Go.IntKind.wrap Go.IntKind.i64 (@HSub.hSub Int Int Int (@instHSub Int @Int.instSub) s2 (1 : Int)))) (0 : UInt8)))) (32 : Int))) Bool.true)) (@inb s2 (@Nat.cast Int instNatCastInt (@List.length UInt8 s0)))) (@cond (@Option R) (@cond (@Kd.T Kd.bool) (@cond (@Kd.T Kd.bool) (@BEq.beq Int (@instBEqOfDecidableEq Int @Int.instDecidableEq) s2 (0 : Int)) Bool.true (@BEq.beq Int (@instBEqOfDecidableEq Int @Int.instDecidableEq) (@Nat.cast Int instNatCastInt (@UInt8.toNat (@List.getD UInt8 s0 (@Int.toNat (@Go.IntKind.wrap Go.IntKind.i64 (@HSub.hSub Int Int Int (@instHSub Int @Int.instSub) s2 (1 : Int)))) (0 : UInt8)))) (32 : Int))) (@BEq.beq Int (@instBEqOfDecidableEq Int @Int.instDecidableEq) (@Nat.cast Int instNatCastInt (@UInt8.toNat (@List.getD UInt8 s0 (@Int.toNat s2) (0 : UInt8)))) (35 : Int)) Bool.false) (E1003 s0 s2 s2) (@cond (@Option R) (@Bool.or (@Bool.not (@BEq.beq (@Kd.T Kd.bool) (@instBEqOfDecidableEq (@Kd.T Kd.bool) @instDecidableEqBool) (@cond (@Kd.T Kd.bool) (@BEq.beq Int (@instBEqOfDecidableEq Int @Int.instDecidableEq) s2 (0 : Int)) Bool.true (@BEq.beq Int (@instBEqOfDecidableEq Int @Int.instDecidableEq) (@Nat.cast Int instNatCastInt (@UInt8.toNat (@List.getD UInt8 s0 (@Int.toNat (@Go.IntKind.wrap Go.IntKind.i64 (@HSub.hSub Int Int Int (@instHSub Int @Int.instSub) s2 (1 : Int)))) (0 : UInt8)))) (32 : Int))) Bool.true)) (@inb s2 (@Nat.cast Int instNatCastInt (@List.length UInt8 s0)))) (@cond (@Option R) (@Bool.or (@Bool.not (@Bool.and (@BEq.beq (@Kd.T Kd.bool) (@instBEqOfDecidableEq (@Kd.T Kd.bool) @instDecidableEqBool) (@cond (@Kd.T Kd.bool) (@BEq.beq Int (@instBEqOfDecidableEq Int @Int.instDecidableEq) s2 (0 : Int)) Bool.true (@BEq.beq Int (@instBEqOfDecidableEq Int @Int.instDecidableEq) (@Nat.cast Int instNatCastInt (@UInt8.toNat (@List.getD UInt8 s0 (@Int.toNat (@Go.IntKind.wrap Go.IntKind.i64 (@HSub.hSub Int Int Int (@instHSub Int @Int.instSub) s2 (1 : Int)))) (0 : UInt8)))) (32 : Int))) Bool.true) (@BEq.beq (@Kd.T Kd.bool) (@instBEqOfDecidableEq (@Kd.T Kd.bool) @instDecidableEqBool) (@BEq.beq Int (@instBEqOfDecidableEq Int @Int.instDecidableEq) (@Nat.cast Int instNatCastInt (@UInt8.toNat (@List.getD UInt8 s0 (@Int.toNat s2) (0 : UInt8)))) (39 : Int)) Bool.false))) (@inb s2 (@Nat.cast Int instNatCastInt (@List.length UInt8 s0)))) (@cond (@Option R) (@cond (@Kd.T Kd.bool) (@cond (@Kd.T Kd.bool) (@BEq.beq Int (@instBEqOfDecidableEq Int @Int.instDecidableEq) s2 (0 : Int)) Bool.true (@BEq.beq Int (@instBEqOfDecidableEq Int @Int.instDecidableEq) (@Nat.cast Int instNatCastInt (@UInt8.toNat (@List.getD UInt8 s0 (@Int.toNat (@Go.IntKind.wrap Go.IntKind.i64 (@HSub.hSub Int Int Int (@instHSub Int @Int.instSub) s2 (1 : Int)))) (0 : UInt8)))) (32 : Int))) (@cond (@Kd.T Kd.bool) (@BEq.beq Int (@instBEqOfDecidableEq Int @Int.instDecidableEq) (@Nat.cast Int instNatCastInt (@UInt8.toNat (@List.getD UInt8 s0 (@Int.toNat s2) (0 : UInt8)))) (39 : Int)) Bool.true (@BEq.beq Int (@instBEqOfDecidableEq Int @Int.instDecidableEq) (@Nat.cast Int instNatCastInt (@UInt8.toNat (@List.getD UInt8 s0 (@Int.toNat s2) (0 : UInt8)))) (34 : Int))) Bool.false) (@wqbt k R s0 s2 (fun y8 y9 => (@cond (@Option R) (@Bool.not y9) (K (@Array.toList UInt8 (@ByteArray.data (@ByteArray.mk (@List.toArray UInt8 [])))) Bool.false) (E1003 s0 s1 y8)))) (E1003 s0 s1 (@Go.IntKind.wrap Go.IntKind.i64 (@HAdd.hAdd Int Int Int (@instHAdd Int @Int.instAdd) s2 (1 : Int))))) (@Option.none R)) (@Option.none R))) (@Option.none R)) (@Option.none R)) (E1013 s0 s1))
theorem wqnh (k : Nat) {R : Type} (I : Nat → St → Option R) (s0 : (List UInt8)) (s1 s2 : Int) (K : ((List UInt8) → Bool → Option R)) : execK (wqb k) k (at_ [1, 1, 0, 1, 0, 0] wq13) (wq5l s0 s1 s2) (konts (wqb k) k I [1, 1, 0, 1, 0, 0] wq13 (outK (wqb k) wq3z [.tmp 2, .tmp 3] (wq2m K))) = wq69 k (fun s0 s1 s2 => I 1003 (wq5l s0 s1 s2)) (fun s0 s1 => iter (wqb k).pv (look (wqb k).cuts 1013) (execK (wqb k) k (at_ [1, 1, 1, 0, 0, 0] wq13)) k (wq5m s0 s1) (konts (wqb k) k I [1, 1, 1, 0, 0] wq13 (outK (wqb k) wq3z [.tmp 2, .tmp 3] (wq2m K)))) s0 s1 s2 K := by kernel_rfl
noncomputable def wq96 (k : Nat) {R : Type} (E1013 : ((List UInt8) → Int → Option R)) (s0 : (List UInt8)) (s1 : Int) (K : ((List UInt8) → Bool → Option R)) : Option R := (@cond (@Option R) (@Bool.or (@Bool.not (@BEq.beq (@Kd.T Kd.bool) (@instBEqOfDecidableEq (@Kd.T Kd.bool) @instDecidableEqBool) (@Decidable.decide (@GT.gt Int Int.instLTInt s1 (0 : Int)) (@Int.decLt (0 : Int) s1)) Bool.true)) (@inb (@Go.IntKind.wrap Go.IntKind.i64 (@HSub.hSub Int Int Int (@instHSub Int @Int.instSub) s1 (1 : Int))) (@Nat.cast Int instNatCastInt (@List.length UInt8 s0)))) (@cond (@Option R) (@cond (@Kd.T Kd.bool) (@Decidable.decide (@GT.gt Int Int.instLTInt s1 (0 : Int)) (@Int.decLt (0 : Int) s1)) (@BEq.beq Int (@instBEqOfDecidableEq Int @Int.instDecidableEq) (@Nat.cast Int instNatCastInt (@UInt8.toNat (@List.getD UInt8 s0 (@Int.toNat (@Go.IntKind.wrap Go.IntKind.i64 (@HSub.hSub Int Int Int (@instHSub Int @Int.instSub) s1 (1 : Int)))) (0 : UInt8)))) (32 : Int)) Bool.false) (E1013 s0 (@Go.IntKind.wrap Go.IntKind.i64 (@HSub.hSub Int Int Int (@instHSub Int @Int.instSub) s1 (1 : Int)))) (@cond (@Option R) (@bnd (0 : Int) s1 (@Nat.cast Int instNatCastInt (@List.length UInt8 s0))) (K (@cut UInt8 s0 (0 : Int) s1) Bool.true) (@Option.none R))) (@Option.none R))
theorem wqni (k : Nat) {R : Type} (I : Nat → St → Option R) (s0 : (List UInt8)) (s1 : Int) (K : ((List UInt8) → Bool → Option R)) : execK (wqb k) k (at_ [1, 1, 1, 0, 0, 0] wq13) (wq5m s0 s1) (konts (wqb k) k I [1, 1, 1, 0, 0, 0] wq13 (outK (wqb k) wq3z [.tmp 2, .tmp 3] (wq2m K))) = wq96 k (fun s0 s1 => I 1013 (wq5m s0 s1)) s0 s1 K := by kernel_rfl
noncomputable def wqg6 (k : Nat) {R : Type} (E1003 : ((List UInt8) → Int → Int → Option R)) (x0 : (List UInt8)) (K : ((List UInt8) → Bool → Option R)) : Option R := (E1003 x0 (@Nat.cast Int instNatCastInt (@List.length UInt8 x0)) (0 : Int))
theorem wqx8 (k : Nat) {R : Type} (I : Nat → St → Option R) (x0 : (List UInt8)) (K : ((List UInt8) → Bool → Option R)) : fnK (wqb k) k wq13 69 [.tmp 2, .tmp 3] wq3z [.v .str x0] [] (wq2m K) = wqg6 k (fun s0 s1 s2 => iter (wqb k).pv (look (wqb k).cuts 1003) (execK (wqb k) k (at_ [1, 1, 0, 1, 0, 0] wq13)) k (wq5l s0 s1 s2) (konts (wqb k) k I [1, 1, 0, 1, 0] wq13 (outK (wqb k) wq3z [.tmp 2, .tmp 3] (wq2m K)))) x0 K := by kernel_rfl
noncomputable def wq47 (k : Nat) {R : Type}  : Nat → (List UInt8) → Int → ((List UInt8) → Bool → Option R) → Option R
  | 0, _, _, _ => none
  | n + 1, s0, s1, K => wq96 k (fun s0 s1 => wq47 k  n s0 s1 K) s0 s1 K
theorem wqnj (k : Nat) {R : Type} (I : Nat → St → Option R) (K : ((List UInt8) → Bool → Option R)) : ∀ (n : Nat) (s0 : (List UInt8)) (s1 : Int), iter (wqb k).pv (look (wqb k).cuts 1013) (execK (wqb k) k (at_ [1, 1, 1, 0, 0, 0] wq13)) n (wq5m s0 s1) (konts (wqb k) k I [1, 1, 1, 0, 0] wq13 (outK (wqb k) wq3z [.tmp 2, .tmp 3] (wq2m K))) = wq47 k  n s0 s1 K := by
  intro n
  induction n with
  | zero => intros; rfl
  | succ n ih =>
    intro s0 s1
    let I' : Nat → St → Option R := fun id s => bif Nat.beq id 1013 then iter (wqb k).pv (look (wqb k).cuts 1013) (execK (wqb k) k (at_ [1, 1, 1, 0, 0, 0] wq13)) n s (konts (wqb k) k I [1, 1, 1, 0, 0] wq13 (outK (wqb k) wq3z [.tmp 2, .tmp 3] (wq2m K))) else I id s
    have e := wqni k I' s0 s1 K
    have h1013 : (fun s0 s1 => I' 1013 (wq5m s0 s1)) = (fun s0 s1 => wq47 k  n s0 s1 K) := by funext s0 s1; exact ih s0 s1
    refine Eq.trans (?_ : _ = _) (e.trans (Eq.trans ((congrArg ((fun E1013 => wq96 k E1013 s0 s1 K)) h1013)) (by rw [wq47])))
    rfl
noncomputable def wq29 (k : Nat) {R : Type}  : Nat → (List UInt8) → Int → Int → ((List UInt8) → Bool → Option R) → Option R
  | 0, _, _, _, _ => none
  | n + 1, s0, s1, s2, K => wq69 k (fun s0 s1 s2 => wq29 k  n s0 s1 s2 K) (fun s0 s1 => wq47 k  k s0 s1 K) s0 s1 s2 K
theorem wqnk (k : Nat) {R : Type} (I : Nat → St → Option R) (K : ((List UInt8) → Bool → Option R)) : ∀ (n : Nat) (s0 : (List UInt8)) (s1 s2 : Int), iter (wqb k).pv (look (wqb k).cuts 1003) (execK (wqb k) k (at_ [1, 1, 0, 1, 0, 0] wq13)) n (wq5l s0 s1 s2) (konts (wqb k) k I [1, 1, 0, 1, 0] wq13 (outK (wqb k) wq3z [.tmp 2, .tmp 3] (wq2m K))) = wq29 k  n s0 s1 s2 K := by
  intro n
  induction n with
  | zero => intros; rfl
  | succ n ih =>
    intro s0 s1 s2
    let I' : Nat → St → Option R := fun id s => bif Nat.beq id 1003 then iter (wqb k).pv (look (wqb k).cuts 1003) (execK (wqb k) k (at_ [1, 1, 0, 1, 0, 0] wq13)) n s (konts (wqb k) k I [1, 1, 0, 1, 0] wq13 (outK (wqb k) wq3z [.tmp 2, .tmp 3] (wq2m K))) else I id s
    have e := wqnh k I' s0 s1 s2 K
    have h1003 : (fun s0 s1 s2 => I' 1003 (wq5l s0 s1 s2)) = (fun s0 s1 s2 => wq29 k  n s0 s1 s2 K) := by funext s0 s1 s2; exact ih s0 s1 s2
    have h1013 : (fun s0 s1 => iter (wqb k).pv (look (wqb k).cuts 1013) (execK (wqb k) k (at_ [1, 1, 1, 0, 0, 0] wq13)) k (wq5m s0 s1) (konts (wqb k) k I' [1, 1, 1, 0, 0] wq13 (outK (wqb k) wq3z [.tmp 2, .tmp 3] (wq2m K)))) = (fun s0 s1 => wq47 k  k s0 s1 K) := by funext s0 s1; exact (wqnj k I' K k s0 s1)
    refine Eq.trans (?_ : _ = _) (e.trans (Eq.trans ((Eq.trans (congrFun (congrArg ((fun E1003 E1013 => wq69 k E1003 E1013 s0 s1 s2 K)) h1003) _) (congrArg ((fun E1003 E1013 => wq69 k E1003 E1013 s0 s1 s2 K) (fun s0 s1 s2 => wq29 k  n s0 s1 s2 K)) h1013))) (by rw [wq29])))
    rfl
noncomputable def wqb5 (k : Nat) {R : Type} (x0 : (List UInt8)) (K : ((List UInt8) → Bool → Option R)) : Option R := wqg6 k (fun s0 s1 s2 => wq29 k k s0 s1 s2 K) x0 K
theorem wqx9 (k : Nat) {R : Type} (x0 : (List UInt8)) (K : ((List UInt8) → Bool → Option R)) : fnK (wqb k) k wq13 69 [.tmp 2, .tmp 3] wq3z [.v .str x0] [] (wq2m K) = wqb5 k x0 K := by
  let I : Nat → St → Option R := fun _ _ => none
  have h1003 : (fun s0 s1 s2 => iter (wqb k).pv (look (wqb k).cuts 1003) (execK (wqb k) k (at_ [1, 1, 0, 1, 0, 0] wq13)) k (wq5l s0 s1 s2) (konts (wqb k) k I [1, 1, 0, 1, 0] wq13 (outK (wqb k) wq3z [.tmp 2, .tmp 3] (wq2m K)))) = (fun s0 s1 s2 => wq29 k k s0 s1 s2 K) := by funext s0 s1 s2; exact wqnk k I K k s0 s1 s2
  exact (wqx8 k I x0 K).trans (congrArg ((fun E1003 => wqg6 k E1003 x0 K)) h1003)
noncomputable def wqgw (k : Nat) {R : Type} : List PV → List (Nm × HObj) → (Out → Option R) → Option R
  | [.v .str x0], [], K => wqb5 k x0 (fun y0 y1 => K (.ret [.v .str y0, .v .bool y1] []))
  | _, _, _ => none
theorem wqxa (k : Nat) : (wqt8 k).Ok Tryz.prog := (CTab.add_ok (fun h => wq11r k h) CTab.nil_ok)
theorem wq13u (k : Nat) {ps : List PV} {hp : List (Nm × HObj)} {R : Type} {K : Out → Option R} {r : R} (h : wqgw k ps hp K = some r) : DoesTo Tryz.prog 50 ps hp fun out => K out = some r := by
  unfold wqgw at h
  split at h
  · rw [← wqx9] at h
    have := fn_ok (P := Tryz.prog) (cx := wqb k) (f := 50) ⟨tyT_ok, wqxa k, fun _ _ => rfl⟩ (by kernel_rfl) (fn := Tryz.f50) (c := wq13) (by kernel_rfl) (by kernel_rfl) (by kernel_rfl) (rs := [.tmp 2, .tmp 3]) (by kernel_rfl) (by kernel_rfl) h
    exact this.mono fun out ho => by
      unfold wq2m at ho
      split at ho <;> first | exact ho | cases ho
  · cases h
end Go.Proofs.YtpfbdepoammjmaaGreatDoor.Pvm

set_option maxRecDepth 1000000
set_option maxHeartbeats 0
namespace Go.Proofs.YtpfbdepoammjmaaGreatDoor.Pvm
open Go Go.Proofs
abbrev wq38 (R : Type) : Type := ((List (Int × (Int × (List UInt8)))) → Int → Int → Option R)
def wqzf : List LS := [.sl (.int .u8)]
noncomputable def wqt9 (k : Nat) : CTab := (CTab.add 50 wqze (wqgw k) CTab.nil)
def wq1j {R : Type} (K : wq38 R) : Out → Option R
  | .ret [.v (.sl (.pr (.int .i64) (.pr (.int .i64) .str))) y0, .agg [.v (.int .i64) y1, .v (.int .i64) y2]] [] => K y0 y1 y2
  | _ => none
def wq2d : RetSpec := ⟨[.sl (.pr (.int .i64) (.pr (.int .i64) .str)), .ag [.any, .any]], [], []⟩
def wqxb : List (Nat × CutSpec) := [(1006, ⟨[(0, .sl (.int .u8)), (3, .obj 13 [.any, .any]), (4, .own 100004 106 (.pr (.int .i64) (.pr (.int .i64) .str))), (5, .any), (6, .any)], []⟩), (1010, ⟨[(0, .sl (.int .u8)), (3, .obj 13 [.any, .any]), (4, .own 100004 106 (.pr (.int .i64) (.pr (.int .i64) .str))), (5, .any), (6, .any), (7, .any), (8, .any)], []⟩), (1016, ⟨[(0, .sl (.int .u8)), (3, .obj 13 [.any, .any]), (4, .own 100004 106 (.pr (.int .i64) (.pr (.int .i64) .str))), (5, .any), (6, .any), (7, .any), (9, .any)], []⟩)]
def wqu3 : List (Nat × Plan) := []
noncomputable def wq4 (k : Nat) : Ctx := ⟨tyT, wqxb, wqt9 k, [], [], wqu3, @SH⟩
noncomputable def wqj : Code := Tryz.f20.body.getD .skip
def wq1w (s0 : (List Int)) (s1 s2 : Int) (s3 : (List (Int × (Int × (List UInt8))))) (s4 s5 : Int) : St := ⟨mkT [(0, .v (.sl (.int .u8)) s0), (3, .ptr 13 0), (4, .row 100004), (5, .v (.int .i64) s4), (6, .v (.int .i64) s5)], mkH [(13, .var 28 [.v (.int .i64) s1, .v (.int .i64) s2]), (100004, .row 106 (.pr (.int .i64) (.pr (.int .i64) .str)) s3)]⟩
def wq5n (s0 : (List Int)) (s1 s2 : Int) (s3 : (List (Int × (Int × (List UInt8))))) (s4 s5 s6 : Int) (s7 : Bool) : St := ⟨mkT [(0, .v (.sl (.int .u8)) s0), (3, .ptr 13 0), (4, .row 100004), (5, .v (.int .i64) s4), (6, .v (.int .i64) s5), (7, .v (.int .i64) s6), (8, .v .bool s7)], mkH [(13, .var 28 [.v (.int .i64) s1, .v (.int .i64) s2]), (100004, .row 106 (.pr (.int .i64) (.pr (.int .i64) .str)) s3)]⟩
def wq5o (s0 : (List Int)) (s1 s2 : Int) (s3 : (List (Int × (Int × (List UInt8))))) (s4 s5 s6 s7 : Int) : St := ⟨mkT [(0, .v (.sl (.int .u8)) s0), (3, .ptr 13 0), (4, .row 100004), (5, .v (.int .i64) s4), (6, .v (.int .i64) s5), (7, .v (.int .i64) s6), (9, .v (.int .i64) s7)], mkH [(13, .var 28 [.v (.int .i64) s1, .v (.int .i64) s2]), (100004, .row 106 (.pr (.int .i64) (.pr (.int .i64) .str)) s3)]⟩
noncomputable def wq97 (k : Nat) {R : Type} (E1010 : ((List Int) → Int → Int → (List (Int × (Int × (List UInt8)))) → Int → Int → Int → Bool → Option R)) (s0 : (List Int)) (s1 s2 : Int) (s3 : (List (Int × (Int × (List UInt8))))) (s4 s5 : Int) (K : wq38 R) : Option R := (@cond (@Option R) (@Decidable.decide (@LT.lt Int Int.instLTInt s4 (@Nat.cast Int instNatCastInt (@List.length (@Kd.T (@Kd.int Go.IntKind.u8)) s0))) (@Int.decLt s4 (@Nat.cast Int instNatCastInt (@List.length (@Kd.T (@Kd.int Go.IntKind.u8)) s0)))) (E1010 s0 s1 s2 s3 s4 s5 s4 Bool.false) (K s3 (0 : (@Kd.T kI)) (0 : (@Kd.T kI))))
theorem wqnl (k : Nat) {R : Type} (I : Nat → St → Option R) (s0 : (List Int)) (s1 s2 : Int) (s3 : (List (Int × (Int × (List UInt8))))) (s4 s5 : Int) (K : wq38 R) : execK (wq4 k) k (at_ [1, 1, 1, 1, 0, 1, 0, 0] wqj) (wq1w s0 s1 s2 s3 s4 s5) (konts (wq4 k) k I [1, 1, 1, 1, 0, 1, 0, 0] wqj (outK (wq4 k) wq2d [.tmp 2, .cell 3 28] (wq1j K))) = wq97 k (fun s0 s1 s2 s3 s4 s5 s6 s7 => iter (wq4 k).pv (look (wq4 k).cuts 1010) (execK (wq4 k) k (at_ [1, 1, 1, 1, 0, 1, 0, 0, 1, 0, 0, 1, 1, 0, 0, 0] wqj)) k (wq5n s0 s1 s2 s3 s4 s5 s6 s7) (konts (wq4 k) k I [1, 1, 1, 1, 0, 1, 0, 0, 1, 0, 0, 1, 1, 0, 0] wqj (outK (wq4 k) wq2d [.tmp 2, .cell 3 28] (wq1j K)))) s0 s1 s2 s3 s4 s5 K := by kernel_rfl
noncomputable def wq7h (k : Nat) {R : Type} (E1010 : ((List Int) → Int → Int → (List (Int × (Int × (List UInt8)))) → Int → Int → Int → Bool → Option R)) (E1016 : ((List Int) → Int → Int → (List (Int × (Int × (List UInt8)))) → Int → Int → Int → Int → Option R)) (s0 : (List Int)) (s1 s2 : Int) (s3 : (List (Int × (Int × (List UInt8))))) (s4 s5 s6 : Int) (s7 : Bool) (K : wq38 R) : Option R := (@cond (@Option R) (@Bool.or (@Bool.not (@BEq.beq (@Kd.T Kd.bool) (@instBEqOfDecidableEq (@Kd.T Kd.bool) @instDecidableEqBool) (@Decidable.decide (@LT.lt Int Int.instLTInt s6 (@Nat.cast Int instNatCastInt (@List.length (@Kd.T (@Kd.int Go.IntKind.u8)) s0))) (@Int.decLt s6 (@Nat.cast Int instNatCastInt (@List.length (@Kd.T (@Kd.int Go.IntKind.u8)) s0)))) Bool.true)) (@inb s6 (@Nat.cast Int instNatCastInt (@List.length (@Kd.T (@Kd.int Go.IntKind.u8)) s0)))) (@cond (@Option R) (@cond (@Kd.T Kd.bool) (@Decidable.decide (@LT.lt Int Int.instLTInt s6 (@Nat.cast Int instNatCastInt (@List.length (@Kd.T (@Kd.int Go.IntKind.u8)) s0))) (@Int.decLt s6 (@Nat.cast Int instNatCastInt (@List.length (@Kd.T (@Kd.int Go.IntKind.u8)) s0)))) (@bne Int (@instBEqOfDecidableEq Int @Int.instDecidableEq) (@List.getD (@Kd.T (@Kd.int Go.IntKind.u8)) s0 (@Int.toNat s6) (@Kd.zero (@Kd.int Go.IntKind.u8))) (10 : Int)) Bool.false) (@cond (@Option R) (@Bool.or (@Bool.not (@BEq.beq (@Kd.T Kd.bool) (@instBEqOfDecidableEq (@Kd.T Kd.bool) @instDecidableEqBool) s7 Bool.false)) (@inb s6 (@Nat.cast Int instNatCastInt (@List.length (@Kd.T (@Kd.int Go.IntKind.u8)) s0)))) (@cond (@Option R) (@Bool.or (@Bool.not (@BEq.beq (@Kd.T Kd.bool) (@instBEqOfDecidableEq (@Kd.T Kd.bool) @instDecidableEqBool) (@cond (@Kd.T Kd.bool) s7 Bool.true (@Decidable.decide (@LT.lt Int Int.instLTInt (@List.getD (@Kd.T (@Kd.int Go.IntKind.u8)) s0 (@Int.toNat s6) (@Kd.zero (@Kd.int Go.IntKind.u8))) (32 : Int)) (@Int.decLt (@List.getD (@Kd.T (@Kd.int Go.IntKind.u8)) s0 (@Int.toNat s6) (@Kd.zero (@Kd.int Go.IntKind.u8))) (32 : Int)))) Bool.false)) (@inb s6 (@Nat.cast Int instNatCastInt (@List.length (@Kd.T (@Kd.int Go.IntKind.u8)) s0)))) (E1010 s0 s1 s2 s3 s4 s5 (@Go.IntKind.wrap Go.IntKind.i64 (@HAdd.hAdd Int Int Int (@instHAdd Int @Int.instAdd) s6 (1 : Int))) (@cond (@Kd.T Kd.bool) (@cond (@Kd.T Kd.bool) s7 Bool.true (@Decidable.decide (@LT.lt Int Int.instLTInt (@List.getD (@Kd.T (@Kd.int Go.IntKind.u8)) s0 (@Int.toNat s6) (@Kd.zero (@Kd.int Go.IntKind.u8))) (32 : Int)) (@Int.decLt (@List.getD (@Kd.T (@Kd.int Go.IntKind.u8)) s0 (@Int.toNat s6) (@Kd.zero (@Kd.int Go.IntKind.u8))) (32 : Int)))) Bool.true (@BEq.beq Int (@instBEqOfDecidableEq Int @Int.instDecidableEq) (@List.getD (@Kd.T (@Kd.int Go.IntKind.u8)) s0 (@Int.toNat s6) (@Kd.zero (@Kd.int Go.IntKind.u8))) (127 : Int)))) (@Option.none R)) (@Option.none R)) (@cond (@Option R) s7 (K [] (2 : Int) s5) (E1016 s0 s1 s2 s3 s4 s5 s6 (0 : Int)))) (@Option.none R))
theorem wqnm (k : Nat) {R : Type} (I : Nat → St → Option R) (s0 : (List Int)) (s1 s2 : Int) (s3 : (List (Int × (Int × (List UInt8))))) (s4 s5 s6 : Int) (s7 : Bool) (K : wq38 R) : execK (wq4 k) k (at_ [1, 1, 1, 1, 0, 1, 0, 0, 1, 0, 0, 1, 1, 0, 0, 0] wqj) (wq5n s0 s1 s2 s3 s4 s5 s6 s7) (konts (wq4 k) k I [1, 1, 1, 1, 0, 1, 0, 0, 1, 0, 0, 1, 1, 0, 0, 0] wqj (outK (wq4 k) wq2d [.tmp 2, .cell 3 28] (wq1j K))) = wq7h k (fun s0 s1 s2 s3 s4 s5 s6 s7 => I 1010 (wq5n s0 s1 s2 s3 s4 s5 s6 s7)) (fun s0 s1 s2 s3 s4 s5 s6 s7 => iter (wq4 k).pv (look (wq4 k).cuts 1016) (execK (wq4 k) k (at_ [1, 1, 1, 1, 0, 1, 0, 0, 1, 0, 0, 1, 1, 1, 1, 1, 0, 0, 0] wqj)) k (wq5o s0 s1 s2 s3 s4 s5 s6 s7) (konts (wq4 k) k I [1, 1, 1, 1, 0, 1, 0, 0, 1, 0, 0, 1, 1, 1, 1, 1, 0, 0] wqj (outK (wq4 k) wq2d [.tmp 2, .cell 3 28] (wq1j K)))) s0 s1 s2 s3 s4 s5 s6 s7 K := by kernel_rfl
noncomputable def wq98 (k : Nat) {R : Type} (E1006 : ((List Int) → Int → Int → (List (Int × (Int × (List UInt8)))) → Int → Int → Option R)) (E1016 : ((List Int) → Int → Int → (List (Int × (Int × (List UInt8)))) → Int → Int → Int → Int → Option R)) (s0 : (List Int)) (s1 s2 : Int) (s3 : (List (Int × (Int × (List UInt8))))) (s4 s5 s6 s7 : Int) (K : wq38 R) : Option R := (@cond (@Option R) (@Bool.or (@Bool.not (@BEq.beq (@Kd.T Kd.bool) (@instBEqOfDecidableEq (@Kd.T Kd.bool) @instDecidableEqBool) (@Decidable.decide (@LT.lt Int Int.instLTInt (@Go.IntKind.wrap Go.IntKind.i64 (@HAdd.hAdd Int Int Int (@instHAdd Int @Int.instAdd) s4 s7)) s6) (@Int.decLt (@Go.IntKind.wrap Go.IntKind.i64 (@HAdd.hAdd Int Int Int (@instHAdd Int @Int.instAdd) s4 s7)) s6)) Bool.true)) (@inb (@Go.IntKind.wrap Go.IntKind.i64 (@HAdd.hAdd Int Int Int (@instHAdd Int @Int.instAdd) s4 s7)) (@Nat.cast Int instNatCastInt (@List.length (@Kd.T (@Kd.int Go.IntKind.u8)) s0)))) (@cond (@Option R) (@cond (@Kd.T Kd.bool) (@Decidable.decide (@LT.lt Int Int.instLTInt (@Go.IntKind.wrap Go.IntKind.i64 (@HAdd.hAdd Int Int Int (@instHAdd Int @Int.instAdd) s4 s7)) s6) (@Int.decLt (@Go.IntKind.wrap Go.IntKind.i64 (@HAdd.hAdd Int Int Int (@instHAdd Int @Int.instAdd) s4 s7)) s6)) (@BEq.beq Int (@instBEqOfDecidableEq Int @Int.instDecidableEq) (@List.getD (@Kd.T (@Kd.int Go.IntKind.u8)) s0 (@Int.toNat (@Go.IntKind.wrap Go.IntKind.i64 (@HAdd.hAdd Int Int Int (@instHAdd Int @Int.instAdd) s4 s7))) (@Kd.zero (@Kd.int Go.IntKind.u8))) (32 : Int)) Bool.false) (E1016 s0 s1 s2 s3 s4 s5 s6 (@Go.IntKind.wrap Go.IntKind.i64 (@HAdd.hAdd Int Int Int (@instHAdd Int @Int.instAdd) s7 (1 : Int)))) (@cond (@Option R) (@bnd (@Go.IntKind.wrap Go.IntKind.i64 (@HAdd.hAdd Int Int Int (@instHAdd Int @Int.instAdd) s4 s7)) s6 (@Nat.cast Int instNatCastInt (@List.length (@Kd.T (@Kd.int Go.IntKind.u8)) s0))) (@wqb5 k R (@ofBytes (@cut (@Kd.T (@Kd.int Go.IntKind.u8)) s0 (@Go.IntKind.wrap Go.IntKind.i64 (@HAdd.hAdd Int Int Int (@instHAdd Int @Int.instAdd) s4 s7)) s6)) (fun y14 y15 => (@cond (@Option R) (@Bool.not y15) (K [] (3 : Int) s5) (@cond (@Option R) (@Bool.not (@BEq.beq (@List UInt8) (@List.instBEq UInt8 (@instBEqOfDecidableEq UInt8 @instDecidableEqUInt8)) y14 (@Array.toList UInt8 (@ByteArray.data (@ByteArray.mk (@List.toArray UInt8 [])))))) (@cond (@Option R) (@fits (@List.length (@Kd.T (@Kd.pr kI (@Kd.pr kI Kd.str))) s3) (@List.length (@Kd.T (@Kd.pr kI (@Kd.pr kI Kd.str))) ((s5, (s7, y14)) :: [])) (32 : Nat)) (E1006 s0 s1 s2 (@HAppend.hAppend (@Kd.T (@Kd.sl (@Kd.pr kI (@Kd.pr kI Kd.str)))) (@List (@Kd.T (@Kd.pr kI (@Kd.pr kI Kd.str)))) (@Kd.T (@Kd.sl (@Kd.pr kI (@Kd.pr kI Kd.str)))) (@instHAppendOfAppend (@Kd.T (@Kd.sl (@Kd.pr kI (@Kd.pr kI Kd.str)))) (@List.instAppend (@Kd.T (@Kd.pr kI (@Kd.pr kI Kd.str))))) s3 ((s5, (s7, y14)) :: [])) (@Go.IntKind.wrap Go.IntKind.i64 (@HAdd.hAdd Int Int Int (@instHAdd Int @Int.instAdd) s6 (1 : Int))) (@Go.IntKind.wrap Go.IntKind.i64 (@HAdd.hAdd Int Int Int (@instHAdd Int @Int.instAdd) s5 (1 : Int)))) (@Option.none R)) (E1006 s0 s1 s2 s3 (@Go.IntKind.wrap Go.IntKind.i64 (@HAdd.hAdd Int Int Int (@instHAdd Int @Int.instAdd) s6 (1 : Int))) (@Go.IntKind.wrap Go.IntKind.i64 (@HAdd.hAdd Int Int Int (@instHAdd Int @Int.instAdd) s5 (1 : Int)))))))) (@Option.none R))) (@Option.none R))
theorem wqnn (k : Nat) {R : Type} (I : Nat → St → Option R) (s0 : (List Int)) (s1 s2 : Int) (s3 : (List (Int × (Int × (List UInt8))))) (s4 s5 s6 s7 : Int) (K : wq38 R) : execK (wq4 k) k (at_ [1, 1, 1, 1, 0, 1, 0, 0, 1, 0, 0, 1, 1, 1, 1, 1, 0, 0, 0] wqj) (wq5o s0 s1 s2 s3 s4 s5 s6 s7) (konts (wq4 k) k I [1, 1, 1, 1, 0, 1, 0, 0, 1, 0, 0, 1, 1, 1, 1, 1, 0, 0, 0] wqj (outK (wq4 k) wq2d [.tmp 2, .cell 3 28] (wq1j K))) = wq98 k (fun s0 s1 s2 s3 s4 s5 => I 1006 (wq1w s0 s1 s2 s3 s4 s5)) (fun s0 s1 s2 s3 s4 s5 s6 s7 => I 1016 (wq5o s0 s1 s2 s3 s4 s5 s6 s7)) s0 s1 s2 s3 s4 s5 s6 s7 K := by kernel_rfl
noncomputable def wqg7 (k : Nat) {R : Type} (E1006 : ((List Int) → Int → Int → (List (Int × (Int × (List UInt8)))) → Int → Int → Option R)) (x0 : (List Int)) (K : wq38 R) : Option R := (@cond (@Option R) (@Decidable.decide (@GT.gt Int Int.instLTInt (@Nat.cast Int instNatCastInt (@List.length (@Kd.T (@Kd.int Go.IntKind.u8)) x0)) (16384 : Int)) (@Int.decLt (16384 : Int) (@Nat.cast Int instNatCastInt (@List.length (@Kd.T (@Kd.int Go.IntKind.u8)) x0)))) (K [] (1 : Int) (1 : Int)) (E1006 x0 (0 : (@Kd.T kI)) (0 : (@Kd.T kI)) [] (0 : Int) (1 : Int)))
theorem wqxc (k : Nat) {R : Type} (I : Nat → St → Option R) (x0 : (List Int)) (K : wq38 R) : fnK (wq4 k) k wqj 98 [.tmp 2, .cell 3 28] wq2d [.v (.sl (.int .u8)) x0] [] (wq1j K) = wqg7 k (fun s0 s1 s2 s3 s4 s5 => iter (wq4 k).pv (look (wq4 k).cuts 1006) (execK (wq4 k) k (at_ [1, 1, 1, 1, 0, 1, 0, 0] wqj)) k (wq1w s0 s1 s2 s3 s4 s5) (konts (wq4 k) k I [1, 1, 1, 1, 0, 1, 0] wqj (outK (wq4 k) wq2d [.tmp 2, .cell 3 28] (wq1j K)))) x0 K := by kernel_rfl
noncomputable def wq3j (k : Nat) {R : Type} (J1006 : ((List Int) → Int → Int → (List (Int × (Int × (List UInt8)))) → Int → Int → Option R)) : Nat → (List Int) → Int → Int → (List (Int × (Int × (List UInt8)))) → Int → Int → Int → Int → ((List (Int × (Int × (List UInt8)))) → Int → Int → Option R) → Option R
  | 0, _, _, _, _, _, _, _, _, _ => none
  | n + 1, s0, s1, s2, s3, s4, s5, s6, s7, K => wq98 k J1006 (fun s0 s1 s2 s3 s4 s5 s6 s7 => wq3j k J1006 n s0 s1 s2 s3 s4 s5 s6 s7 K) s0 s1 s2 s3 s4 s5 s6 s7 K
theorem wqno (k : Nat) {R : Type} (I : Nat → St → Option R) (K : wq38 R) : ∀ (n : Nat) (s0 : (List Int)) (s1 s2 : Int) (s3 : (List (Int × (Int × (List UInt8))))) (s4 s5 s6 s7 : Int), iter (wq4 k).pv (look (wq4 k).cuts 1016) (execK (wq4 k) k (at_ [1, 1, 1, 1, 0, 1, 0, 0, 1, 0, 0, 1, 1, 1, 1, 1, 0, 0, 0] wqj)) n (wq5o s0 s1 s2 s3 s4 s5 s6 s7) (konts (wq4 k) k I [1, 1, 1, 1, 0, 1, 0, 0, 1, 0, 0, 1, 1, 1, 1, 1, 0, 0] wqj (outK (wq4 k) wq2d [.tmp 2, .cell 3 28] (wq1j K))) = wq3j k (fun s0 s1 s2 s3 s4 s5 => I 1006 (wq1w s0 s1 s2 s3 s4 s5)) n s0 s1 s2 s3 s4 s5 s6 s7 K := by
  intro n
  induction n with
  | zero => intros; rfl
  | succ n ih =>
    intro s0 s1 s2 s3 s4 s5 s6 s7
    let I' : Nat → St → Option R := fun id s => bif Nat.beq id 1016 then iter (wq4 k).pv (look (wq4 k).cuts 1016) (execK (wq4 k) k (at_ [1, 1, 1, 1, 0, 1, 0, 0, 1, 0, 0, 1, 1, 1, 1, 1, 0, 0, 0] wqj)) n s (konts (wq4 k) k I [1, 1, 1, 1, 0, 1, 0, 0, 1, 0, 0, 1, 1, 1, 1, 1, 0, 0] wqj (outK (wq4 k) wq2d [.tmp 2, .cell 3 28] (wq1j K))) else I id s
    have e := wqnn k I' s0 s1 s2 s3 s4 s5 s6 s7 K
    have h1016 : (fun s0 s1 s2 s3 s4 s5 s6 s7 => I' 1016 (wq5o s0 s1 s2 s3 s4 s5 s6 s7)) = (fun s0 s1 s2 s3 s4 s5 s6 s7 => wq3j k (fun s0 s1 s2 s3 s4 s5 => I 1006 (wq1w s0 s1 s2 s3 s4 s5)) n s0 s1 s2 s3 s4 s5 s6 s7 K) := by funext s0 s1 s2 s3 s4 s5 s6 s7; exact ih s0 s1 s2 s3 s4 s5 s6 s7
    refine Eq.trans (?_ : _ = _) (e.trans (Eq.trans ((congrArg ((fun E1016 => wq98 k (fun s0 s1 s2 s3 s4 s5 => I 1006 (wq1w s0 s1 s2 s3 s4 s5)) E1016 s0 s1 s2 s3 s4 s5 s6 s7 K)) h1016)) (by rw [wq3j])))
    rfl
noncomputable def wq30 (k : Nat) {R : Type} (J1006 : ((List Int) → Int → Int → (List (Int × (Int × (List UInt8)))) → Int → Int → Option R)) : Nat → (List Int) → Int → Int → (List (Int × (Int × (List UInt8)))) → Int → Int → Int → Bool → ((List (Int × (Int × (List UInt8)))) → Int → Int → Option R) → Option R
  | 0, _, _, _, _, _, _, _, _, _ => none
  | n + 1, s0, s1, s2, s3, s4, s5, s6, s7, K => wq7h k (fun s0 s1 s2 s3 s4 s5 s6 s7 => wq30 k J1006 n s0 s1 s2 s3 s4 s5 s6 s7 K) (fun s0 s1 s2 s3 s4 s5 s6 s7 => wq3j k J1006 k s0 s1 s2 s3 s4 s5 s6 s7 K) s0 s1 s2 s3 s4 s5 s6 s7 K
theorem wqnp (k : Nat) {R : Type} (I : Nat → St → Option R) (K : wq38 R) : ∀ (n : Nat) (s0 : (List Int)) (s1 s2 : Int) (s3 : (List (Int × (Int × (List UInt8))))) (s4 s5 s6 : Int) (s7 : Bool), iter (wq4 k).pv (look (wq4 k).cuts 1010) (execK (wq4 k) k (at_ [1, 1, 1, 1, 0, 1, 0, 0, 1, 0, 0, 1, 1, 0, 0, 0] wqj)) n (wq5n s0 s1 s2 s3 s4 s5 s6 s7) (konts (wq4 k) k I [1, 1, 1, 1, 0, 1, 0, 0, 1, 0, 0, 1, 1, 0, 0] wqj (outK (wq4 k) wq2d [.tmp 2, .cell 3 28] (wq1j K))) = wq30 k (fun s0 s1 s2 s3 s4 s5 => I 1006 (wq1w s0 s1 s2 s3 s4 s5)) n s0 s1 s2 s3 s4 s5 s6 s7 K := by
  intro n
  induction n with
  | zero => intros; rfl
  | succ n ih =>
    intro s0 s1 s2 s3 s4 s5 s6 s7
    let I' : Nat → St → Option R := fun id s => bif Nat.beq id 1010 then iter (wq4 k).pv (look (wq4 k).cuts 1010) (execK (wq4 k) k (at_ [1, 1, 1, 1, 0, 1, 0, 0, 1, 0, 0, 1, 1, 0, 0, 0] wqj)) n s (konts (wq4 k) k I [1, 1, 1, 1, 0, 1, 0, 0, 1, 0, 0, 1, 1, 0, 0] wqj (outK (wq4 k) wq2d [.tmp 2, .cell 3 28] (wq1j K))) else I id s
    have e := wqnm k I' s0 s1 s2 s3 s4 s5 s6 s7 K
    have h1010 : (fun s0 s1 s2 s3 s4 s5 s6 s7 => I' 1010 (wq5n s0 s1 s2 s3 s4 s5 s6 s7)) = (fun s0 s1 s2 s3 s4 s5 s6 s7 => wq30 k (fun s0 s1 s2 s3 s4 s5 => I 1006 (wq1w s0 s1 s2 s3 s4 s5)) n s0 s1 s2 s3 s4 s5 s6 s7 K) := by funext s0 s1 s2 s3 s4 s5 s6 s7; exact ih s0 s1 s2 s3 s4 s5 s6 s7
    have h1016 : (fun s0 s1 s2 s3 s4 s5 s6 s7 => iter (wq4 k).pv (look (wq4 k).cuts 1016) (execK (wq4 k) k (at_ [1, 1, 1, 1, 0, 1, 0, 0, 1, 0, 0, 1, 1, 1, 1, 1, 0, 0, 0] wqj)) k (wq5o s0 s1 s2 s3 s4 s5 s6 s7) (konts (wq4 k) k I' [1, 1, 1, 1, 0, 1, 0, 0, 1, 0, 0, 1, 1, 1, 1, 1, 0, 0] wqj (outK (wq4 k) wq2d [.tmp 2, .cell 3 28] (wq1j K)))) = (fun s0 s1 s2 s3 s4 s5 s6 s7 => wq3j k (fun s0 s1 s2 s3 s4 s5 => I 1006 (wq1w s0 s1 s2 s3 s4 s5)) k s0 s1 s2 s3 s4 s5 s6 s7 K) := by funext s0 s1 s2 s3 s4 s5 s6 s7; exact (wqno k I' K k s0 s1 s2 s3 s4 s5 s6 s7)
    refine Eq.trans (?_ : _ = _) (e.trans (Eq.trans ((Eq.trans (congrFun (congrArg ((fun E1010 E1016 => wq7h k E1010 E1016 s0 s1 s2 s3 s4 s5 s6 s7 K)) h1010) _) (congrArg ((fun E1010 E1016 => wq7h k E1010 E1016 s0 s1 s2 s3 s4 s5 s6 s7 K) (fun s0 s1 s2 s3 s4 s5 s6 s7 => wq30 k (fun s0 s1 s2 s3 s4 s5 => I 1006 (wq1w s0 s1 s2 s3 s4 s5)) n s0 s1 s2 s3 s4 s5 s6 s7 K)) h1016))) (by rw [wq30])))
    rfl
noncomputable def wq31 (k : Nat) {R : Type}  : Nat → (List Int) → Int → Int → (List (Int × (Int × (List UInt8)))) → Int → Int → ((List (Int × (Int × (List UInt8)))) → Int → Int → Option R) → Option R
  | 0, _, _, _, _, _, _, _ => none
  | n + 1, s0, s1, s2, s3, s4, s5, K => wq97 k (fun s0 s1 s2 s3 s4 s5 s6 s7 => wq30 k (fun s0 s1 s2 s3 s4 s5 => wq31 k  n s0 s1 s2 s3 s4 s5 K) k s0 s1 s2 s3 s4 s5 s6 s7 K) s0 s1 s2 s3 s4 s5 K
theorem wqnq (k : Nat) {R : Type} (I : Nat → St → Option R) (K : wq38 R) : ∀ (n : Nat) (s0 : (List Int)) (s1 s2 : Int) (s3 : (List (Int × (Int × (List UInt8))))) (s4 s5 : Int), iter (wq4 k).pv (look (wq4 k).cuts 1006) (execK (wq4 k) k (at_ [1, 1, 1, 1, 0, 1, 0, 0] wqj)) n (wq1w s0 s1 s2 s3 s4 s5) (konts (wq4 k) k I [1, 1, 1, 1, 0, 1, 0] wqj (outK (wq4 k) wq2d [.tmp 2, .cell 3 28] (wq1j K))) = wq31 k  n s0 s1 s2 s3 s4 s5 K := by
  intro n
  induction n with
  | zero => intros; rfl
  | succ n ih =>
    intro s0 s1 s2 s3 s4 s5
    let I' : Nat → St → Option R := fun id s => bif Nat.beq id 1006 then iter (wq4 k).pv (look (wq4 k).cuts 1006) (execK (wq4 k) k (at_ [1, 1, 1, 1, 0, 1, 0, 0] wqj)) n s (konts (wq4 k) k I [1, 1, 1, 1, 0, 1, 0] wqj (outK (wq4 k) wq2d [.tmp 2, .cell 3 28] (wq1j K))) else I id s
    have e := wqnl k I' s0 s1 s2 s3 s4 s5 K
    have h1006 : (fun s0 s1 s2 s3 s4 s5 => I' 1006 (wq1w s0 s1 s2 s3 s4 s5)) = (fun s0 s1 s2 s3 s4 s5 => wq31 k  n s0 s1 s2 s3 s4 s5 K) := by funext s0 s1 s2 s3 s4 s5; exact ih s0 s1 s2 s3 s4 s5
    have h1010 : (fun s0 s1 s2 s3 s4 s5 s6 s7 => iter (wq4 k).pv (look (wq4 k).cuts 1010) (execK (wq4 k) k (at_ [1, 1, 1, 1, 0, 1, 0, 0, 1, 0, 0, 1, 1, 0, 0, 0] wqj)) k (wq5n s0 s1 s2 s3 s4 s5 s6 s7) (konts (wq4 k) k I' [1, 1, 1, 1, 0, 1, 0, 0, 1, 0, 0, 1, 1, 0, 0] wqj (outK (wq4 k) wq2d [.tmp 2, .cell 3 28] (wq1j K)))) = (fun s0 s1 s2 s3 s4 s5 s6 s7 => wq30 k (fun s0 s1 s2 s3 s4 s5 => wq31 k  n s0 s1 s2 s3 s4 s5 K) k s0 s1 s2 s3 s4 s5 s6 s7 K) := by funext s0 s1 s2 s3 s4 s5 s6 s7; exact (wqnp k I' K k s0 s1 s2 s3 s4 s5 s6 s7).trans (congrArg (fun (JJ : ((List Int) → Int → Int → (List (Int × (Int × (List UInt8)))) → Int → Int → Option R)) => wq30 k JJ k s0 s1 s2 s3 s4 s5 s6 s7 K) h1006)
    refine Eq.trans (?_ : _ = _) (e.trans (Eq.trans ((congrArg ((fun E1010 => wq97 k E1010 s0 s1 s2 s3 s4 s5 K)) h1010)) (by rw [wq31])))
    rfl
noncomputable def wqdb (k : Nat) {R : Type} (x0 : (List Int)) (K : wq38 R) : Option R := wqg7 k (fun s0 s1 s2 s3 s4 s5 => wq31 k k s0 s1 s2 s3 s4 s5 K) x0 K
theorem wqxd (k : Nat) {R : Type} (x0 : (List Int)) (K : wq38 R) : fnK (wq4 k) k wqj 98 [.tmp 2, .cell 3 28] wq2d [.v (.sl (.int .u8)) x0] [] (wq1j K) = wqdb k x0 K := by
  let I : Nat → St → Option R := fun _ _ => none
  have h1006 : (fun s0 s1 s2 s3 s4 s5 => iter (wq4 k).pv (look (wq4 k).cuts 1006) (execK (wq4 k) k (at_ [1, 1, 1, 1, 0, 1, 0, 0] wqj)) k (wq1w s0 s1 s2 s3 s4 s5) (konts (wq4 k) k I [1, 1, 1, 1, 0, 1, 0] wqj (outK (wq4 k) wq2d [.tmp 2, .cell 3 28] (wq1j K)))) = (fun s0 s1 s2 s3 s4 s5 => wq31 k k s0 s1 s2 s3 s4 s5 K) := by funext s0 s1 s2 s3 s4 s5; exact wqnq k I K k s0 s1 s2 s3 s4 s5
  exact (wqxc k I x0 K).trans (congrArg ((fun E1006 => wqg7 k E1006 x0 K)) h1006)
noncomputable def wqgx (k : Nat) {R : Type} : List PV → List (Nm × HObj) → (Out → Option R) → Option R
  | [.v (.sl (.int .u8)) x0], [], K => wqdb k x0 (fun y0 y1 y2 => K (.ret [.v (.sl (.pr (.int .i64) (.pr (.int .i64) .str))) y0, .agg [.v (.int .i64) y1, .v (.int .i64) y2]] []))
  | _, _, _ => none
theorem wqxe (k : Nat) : (wqt9 k).Ok Tryz.prog := (CTab.add_ok (fun h => wq13u k h) CTab.nil_ok)
theorem wq13v (k : Nat) {ps : List PV} {hp : List (Nm × HObj)} {R : Type} {K : Out → Option R} {r : R} (h : wqgx k ps hp K = some r) : DoesTo Tryz.prog 20 ps hp fun out => K out = some r := by
  unfold wqgx at h
  split at h
  · rw [← wqxd] at h
    have := fn_ok (P := Tryz.prog) (cx := wq4 k) (f := 20) ⟨tyT_ok, wqxe k, fun _ _ => rfl⟩ (by kernel_rfl) (fn := Tryz.f20) (c := wqj) (by kernel_rfl) (by kernel_rfl) (by kernel_rfl) (rs := [.tmp 2, .cell 3 28]) (by kernel_rfl) (by kernel_rfl) h
    exact this.mono fun out ho => by
      unfold wq1j at ho
      split at ho <;> first | exact ho | cases ho
  · cases h
end Go.Proofs.YtpfbdepoammjmaaGreatDoor.Pvm

set_option maxRecDepth 1000000
set_option maxHeartbeats 0
namespace Go.Proofs.YtpfbdepoammjmaaGreatDoor.Pvm
open Go Go.Proofs
abbrev wq6e (R : Type) : Type := ((List (Int × (Int × (Int × ((List UInt8) × Bool))))) → Int → (List (Int × (Int × ((List UInt8) × (Bool × ((List (List UInt8)) × (List Int))))))) → Int → Int → Option R)
def wq9o : List LS := [.obj 1 [.sl (.pr (.int .i64) (.pr (.int .i64) (.pr (.int .i64) (.pr .str .bool)))), .any, .own 21 52 (.pr (.int .i64) (.pr (.int .i64) (.pr .str (.pr .bool (.pr (.sl .str) (.sl (.int .i64))))))), .any, .any], .any, .any]
noncomputable def wqg8 (k : Nat) : CTab := CTab.nil
def wq8t {R : Type} (K : wq6e R) : Out → Option R
  | .ret [] [(21, .row 52 (.pr (.int .i64) (.pr (.int .i64) (.pr .str (.pr .bool (.pr (.sl .str) (.sl (.int .i64))))))) y2), (1, .var 110 [.v (.sl (.pr (.int .i64) (.pr (.int .i64) (.pr (.int .i64) (.pr .str .bool))))) y0, .v (.int .i64) y1, .row 21, .v (.int .i64) y3, .v (.int .i64) y4])] => K y0 y1 y2 y3 y4
  | _ => none
def wqf6 : RetSpec := ⟨[], [(1, .obj 1 [.sl (.pr (.int .i64) (.pr (.int .i64) (.pr (.int .i64) (.pr .str .bool)))), .any, .own 21 52 (.pr (.int .i64) (.pr (.int .i64) (.pr .str (.pr .bool (.pr (.sl .str) (.sl (.int .i64))))))), .any, .any])], []⟩
def wqle : List (Nat × CutSpec) := []
def wqju : List (Nat × Plan) := []
noncomputable def wqat (k : Nat) : Ctx := ⟨tyT, wqle, wqg8 k, [], [1], wqju, @SH⟩
noncomputable def wq8u : Code := Tryz.f53.body.getD .skip
noncomputable def wqg9 (k : Nat) {R : Type}  (x0 : (List (Int × (Int × (Int × ((List UInt8) × Bool)))))) (x1 : Int) (x2 : (List (Int × (Int × ((List UInt8) × (Bool × ((List (List UInt8)) × (List Int)))))))) (x3 x4 x5 x6 : Int) (K : wq6e R) : Option R := (@cond (@Option R) (@BEq.beq Int (@instBEqOfDecidableEq Int @Int.instDecidableEq) x3 (0 : Int)) (K x0 x1 x2 x5 x6) (K x0 x1 x2 x3 x4))
theorem wqlf (k : Nat) {R : Type} (I : Nat → St → Option R) (x0 : (List (Int × (Int × (Int × ((List UInt8) × Bool)))))) (x1 : Int) (x2 : (List (Int × (Int × ((List UInt8) × (Bool × ((List (List UInt8)) × (List Int)))))))) (x3 x4 x5 x6 : Int) (K : wq6e R) : fnK (wqat k) k wq8u 18 [] wqf6 [.ptr 1 0, .v (.int .i64) x5, .v (.int .i64) x6] [(21, .row 52 (.pr (.int .i64) (.pr (.int .i64) (.pr .str (.pr .bool (.pr (.sl .str) (.sl (.int .i64))))))) x2), (1, .var 110 [.v (.sl (.pr (.int .i64) (.pr (.int .i64) (.pr (.int .i64) (.pr .str .bool))))) x0, .v (.int .i64) x1, .row 21, .v (.int .i64) x3, .v (.int .i64) x4])] (wq8t K) = wqg9 k  x0 x1 x2 x3 x4 x5 x6 K := by kernel_rfl
noncomputable def wq2q (k : Nat) {R : Type} (x0 : (List (Int × (Int × (Int × ((List UInt8) × Bool)))))) (x1 : Int) (x2 : (List (Int × (Int × ((List UInt8) × (Bool × ((List (List UInt8)) × (List Int)))))))) (x3 x4 x5 x6 : Int) (K : wq6e R) : Option R := wqg9 k  x0 x1 x2 x3 x4 x5 x6 K
theorem wqlg (k : Nat) {R : Type} (x0 : (List (Int × (Int × (Int × ((List UInt8) × Bool)))))) (x1 : Int) (x2 : (List (Int × (Int × ((List UInt8) × (Bool × ((List (List UInt8)) × (List Int)))))))) (x3 x4 x5 x6 : Int) (K : wq6e R) : fnK (wqat k) k wq8u 18 [] wqf6 [.ptr 1 0, .v (.int .i64) x5, .v (.int .i64) x6] [(21, .row 52 (.pr (.int .i64) (.pr (.int .i64) (.pr .str (.pr .bool (.pr (.sl .str) (.sl (.int .i64))))))) x2), (1, .var 110 [.v (.sl (.pr (.int .i64) (.pr (.int .i64) (.pr (.int .i64) (.pr .str .bool))))) x0, .v (.int .i64) x1, .row 21, .v (.int .i64) x3, .v (.int .i64) x4])] (wq8t K) = wq2q k x0 x1 x2 x3 x4 x5 x6 K := by
  exact wqlf k (fun _ _ => none) x0 x1 x2 x3 x4 x5 x6 K
noncomputable def wq5y (k : Nat) {R : Type} : List PV → List (Nm × HObj) → (Out → Option R) → Option R
  | [.ptr 1 0, .v (.int .i64) x5, .v (.int .i64) x6], [(21, .row 52 (.pr (.int .i64) (.pr (.int .i64) (.pr .str (.pr .bool (.pr (.sl .str) (.sl (.int .i64))))))) x2), (1, .var 110 [.v (.sl (.pr (.int .i64) (.pr (.int .i64) (.pr (.int .i64) (.pr .str .bool))))) x0, .v (.int .i64) x1, .row 21, .v (.int .i64) x3, .v (.int .i64) x4])], K => wq2q k x0 x1 x2 x3 x4 x5 x6 (fun y0 y1 y2 y3 y4 => K (.ret [] [(21, .row 52 (.pr (.int .i64) (.pr (.int .i64) (.pr .str (.pr .bool (.pr (.sl .str) (.sl (.int .i64))))))) y2), (1, .var 110 [.v (.sl (.pr (.int .i64) (.pr (.int .i64) (.pr (.int .i64) (.pr .str .bool))))) y0, .v (.int .i64) y1, .row 21, .v (.int .i64) y3, .v (.int .i64) y4])]))
  | _, _, _ => none
theorem wqlh (k : Nat) : (wqg8 k).Ok Tryz.prog := CTab.nil_ok
theorem wqbu (k : Nat) {ps : List PV} {hp : List (Nm × HObj)} {R : Type} {K : Out → Option R} {r : R} (h : wq5y k ps hp K = some r) : DoesTo Tryz.prog 53 ps hp fun out => K out = some r := by
  unfold wq5y at h
  split at h
  · rw [← wqlg] at h
    have := fn_ok (P := Tryz.prog) (cx := wqat k) (f := 53) ⟨tyT_ok, wqlh k, fun _ _ => rfl⟩ (by kernel_rfl) (fn := Tryz.f53) (c := wq8u) (by kernel_rfl) (by kernel_rfl) (by kernel_rfl) (rs := []) (by kernel_rfl) (by kernel_rfl) h
    exact this.mono fun out ho => by
      unfold wq8t at ho
      split at ho <;> first | exact ho | cases ho
  · cases h
end Go.Proofs.YtpfbdepoammjmaaGreatDoor.Pvm
