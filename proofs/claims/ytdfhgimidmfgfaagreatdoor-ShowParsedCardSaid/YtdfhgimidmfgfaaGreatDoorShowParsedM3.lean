/- The Go function ShowParsed answers true for every input: what a text is parsed as has a text, which is parsed as the same; no further condition. -/
import Derived.Deep.Heap
import Derived.Test.YtdfhgimidmfgfaaGreatDoorChecked
import Derived.WalkKit
import Derived.WalkSpells
import Derived.WalkLawsBesides
import Derived.Lib.Builder
import Derived.Laws.Externs
import Derived.Shelf.RegionOpenPlain
import Derived.Lib.BytesEntry
import Derived.Lib.Bytealg
import Derived.Shelf.GgClosure.StringsIndexFuncTop
import Derived.Shelf.Strings.FuncGrows
import Derived.Shelf.Strings.Repeat
import Derived.Lib.AppendStr
import Derived.Lib.UnsafeStr
import Derived.Test.YtdfhgimidmfgfaaGreatDoorShowParsedM0
import Derived.Test.YtdfhgimidmfgfaaGreatDoorShowParsedM1
import Derived.Test.YtdfhgimidmfgfaaGreatDoorShowParsedM2
set_option linter.unusedVariables false
set_option linter.unusedSimpArgs false
set_option linter.unusedSectionVars false
noncomputable section
set_option maxRecDepth 1000000
set_option maxHeartbeats 0
noncomputable section
namespace Go.Proofs.YtdfhgimidmfgfaaGreatDoor.Pvm
open Go Go.Proofs
def wqsm : List LS := [.obj 1 [.any, .any, .any, .any, .own 21 116 kdT115], .any]
def wqhq {R : Type} (K : (Int → Int → (List UInt8) → Int → (List dT115) → Option R)) (E : (Int → Int → (List UInt8) → Int → (List dT115) → Int → Int → Option R)) : Out → Option R
  | .ret [] [(21, .row 116 (.pr (.int .i64) (.pr (.int .i64) (.pr (.int .i64) (.pr .str .bool)))) y4), (1, .var 154 [.v (.int .i64) y0, .v (.int .i64) y1, .v .str y2, .v (.int .i64) y3, .row 21])] => K y0 y1 y2 y3 y4
  | .pan (.ifc 39 (.agg [.v (.int .i64) z5, .v (.int .i64) z6])) [(21, .row 116 (.pr (.int .i64) (.pr (.int .i64) (.pr (.int .i64) (.pr .str .bool)))) z4), (1, .var 154 [.v (.int .i64) z0, .v (.int .i64) z1, .v .str z2, .v (.int .i64) z3, .row 21])] => E z0 z1 z2 z3 z4 z5 z6
  | _ => none
def wqu1 : RetSpec := ⟨[], [(1, .obj 1 [.any, .any, .any, .any, .own 21 116 (.pr (.int .i64) (.pr (.int .i64) (.pr (.int .i64) (.pr .str .bool))))])], [(1, .obj 1 [.any, .any, .any, .any, .own 21 116 (.pr (.int .i64) (.pr (.int .i64) (.pr (.int .i64) (.pr .str .bool))))])]⟩
def wqu2 (k : Nat) : Ctx := ⟨tyT, [], (.add 134 wq5o (wq2f k) (.add 136 wqw1 (wqgg k) (.add 137 wqho (wq5p k) (.add 138 wqyz (wqix k) (.add 164 wqol (wq76 k) (.add 165 wqok (wq75 k) (.add 166 wqf7 (wq4d k) .nil))))))), [], [1], [], @SH⟩
def wql9 (k : Nat) {R : Type}  (x0 x1 : Int) (x2 : (List UInt8)) (x3 : Int) (x4 : (List dT115)) (x5 : (List UInt8)) (K : (Int → Int → (List UInt8) → Int → (List dT115) → Option R)) (E : (Int → Int → (List UInt8) → Int → (List dT115) → Int → Int → Option R)) : Option R := (cond (inb 0 (x5.length : Int)) (cond (((x5.getD (Int.toNat 0) 0).toNat : Int) == 39) (wq6e k x0 x1 x2 x3 x4 x5 (fun y10 y11 y12 y13 y14 y15 y16 => (cond (y16 != (x5.length : Int)) (wqc k y10 y11 y12 y13 y14 3 (fun y17 y18 y19 y20 y21 => (cond (decide ((y15.length : Int) > 200)) (wqc k y17 y18 y19 y20 y21 4 (fun y22 y23 y24 y25 y26 => (wqe k y22 y23 y24 y25 y26 3 y15 true y16 (fun y27 y28 y29 y30 y31 => (K y27 y28 y29 y30 y31)))) (fun y22 y23 y24 y25 y26 y27 y28 => (E y22 y23 y24 y25 y26 y27 y28))) (wqe k y17 y18 y19 y20 y21 3 y15 true y16 (fun y22 y23 y24 y25 y26 => (K y22 y23 y24 y25 y26))))) (fun y17 y18 y19 y20 y21 y22 y23 => (E y17 y18 y19 y20 y21 y22 y23))) (cond (decide ((y15.length : Int) > 200)) (wqc k y10 y11 y12 y13 y14 4 (fun y17 y18 y19 y20 y21 => (wqe k y17 y18 y19 y20 y21 3 y15 true y16 (fun y22 y23 y24 y25 y26 => (K y22 y23 y24 y25 y26)))) (fun y17 y18 y19 y20 y21 y22 y23 => (E y17 y18 y19 y20 y21 y22 y23))) (wqe k y10 y11 y12 y13 y14 3 y15 true y16 (fun y17 y18 y19 y20 y21 => (K y17 y18 y19 y20 y21)))))) (fun y10 y11 y12 y13 y14 y15 y16 => (E y10 y11 y12 y13 y14 y15 y16))) (cond (((x5.getD (Int.toNat 0) 0).toNat : Int) == 34) (wq6d k x0 x1 x2 x3 x4 x5 (fun y10 y11 y12 y13 y14 y15 y16 => (cond (y16 != (x5.length : Int)) (wqc k y10 y11 y12 y13 y14 3 (fun y17 y18 y19 y20 y21 => (cond (decide ((y15.length : Int) > 200)) (wqc k y17 y18 y19 y20 y21 4 (fun y22 y23 y24 y25 y26 => (wqe k y22 y23 y24 y25 y26 3 y15 true y16 (fun y27 y28 y29 y30 y31 => (K y27 y28 y29 y30 y31)))) (fun y22 y23 y24 y25 y26 y27 y28 => (E y22 y23 y24 y25 y26 y27 y28))) (wqe k y17 y18 y19 y20 y21 3 y15 true y16 (fun y22 y23 y24 y25 y26 => (K y22 y23 y24 y25 y26))))) (fun y17 y18 y19 y20 y21 y22 y23 => (E y17 y18 y19 y20 y21 y22 y23))) (cond (decide ((y15.length : Int) > 200)) (wqc k y10 y11 y12 y13 y14 4 (fun y17 y18 y19 y20 y21 => (wqe k y17 y18 y19 y20 y21 3 y15 true y16 (fun y22 y23 y24 y25 y26 => (K y22 y23 y24 y25 y26)))) (fun y17 y18 y19 y20 y21 y22 y23 => (E y17 y18 y19 y20 y21 y22 y23))) (wqe k y10 y11 y12 y13 y14 3 y15 true y16 (fun y17 y18 y19 y20 y21 => (K y17 y18 y19 y20 y21)))))) (fun y10 y11 y12 y13 y14 y15 y16 => (E y10 y11 y12 y13 y14 y15 y16))) (cond (inb 0 (x5.length : Int)) (wq1e k [91, 93, 123, 125, 38, 42, 33, 124, 62, 37, 64, 44, 63, 96] ((x5.getD (Int.toNat 0) 0).toNat : Int) (fun y10 => (cond ((decide (y10 ≥ 0)) == false) (wqiu k x5 (fun y11 => (cond (y11 == false) (wqjj k x5 (fun y12 => (cond (!(y12 == [])) (wqc k x0 x1 x2 x3 x4 4 (fun y13 y14 y15 y16 y17 => (cond ((x5.length : Int) != (x5.length : Int)) (wqc k y13 y14 y15 y16 y17 3 (fun y18 y19 y20 y21 y22 => (cond (decide ((x5.length : Int) > 200)) (wqc k y18 y19 y20 y21 y22 4 (fun y23 y24 y25 y26 y27 => (wqe k y23 y24 y25 y26 y27 3 x5 false (x5.length : Int) (fun y28 y29 y30 y31 y32 => (K y28 y29 y30 y31 y32)))) (fun y23 y24 y25 y26 y27 y28 y29 => (E y23 y24 y25 y26 y27 y28 y29))) (wqe k y18 y19 y20 y21 y22 3 x5 false (x5.length : Int) (fun y23 y24 y25 y26 y27 => (K y23 y24 y25 y26 y27))))) (fun y18 y19 y20 y21 y22 y23 y24 => (E y18 y19 y20 y21 y22 y23 y24))) (cond (decide ((x5.length : Int) > 200)) (wqc k y13 y14 y15 y16 y17 4 (fun y18 y19 y20 y21 y22 => (wqe k y18 y19 y20 y21 y22 3 x5 false (x5.length : Int) (fun y23 y24 y25 y26 y27 => (K y23 y24 y25 y26 y27)))) (fun y18 y19 y20 y21 y22 y23 y24 => (E y18 y19 y20 y21 y22 y23 y24))) (wqe k y13 y14 y15 y16 y17 3 x5 false (x5.length : Int) (fun y18 y19 y20 y21 y22 => (K y18 y19 y20 y21 y22)))))) (fun y13 y14 y15 y16 y17 y18 y19 => (E y13 y14 y15 y16 y17 y18 y19))) (cond ((x5.length : Int) != (x5.length : Int)) (wqc k x0 x1 x2 x3 x4 3 (fun y13 y14 y15 y16 y17 => (cond (decide ((x5.length : Int) > 200)) (wqc k y13 y14 y15 y16 y17 4 (fun y18 y19 y20 y21 y22 => (wqe k y18 y19 y20 y21 y22 3 x5 false (x5.length : Int) (fun y23 y24 y25 y26 y27 => (K y23 y24 y25 y26 y27)))) (fun y18 y19 y20 y21 y22 y23 y24 => (E y18 y19 y20 y21 y22 y23 y24))) (wqe k y13 y14 y15 y16 y17 3 x5 false (x5.length : Int) (fun y18 y19 y20 y21 y22 => (K y18 y19 y20 y21 y22))))) (fun y13 y14 y15 y16 y17 y18 y19 => (E y13 y14 y15 y16 y17 y18 y19))) (cond (decide ((x5.length : Int) > 200)) (wqc k x0 x1 x2 x3 x4 4 (fun y13 y14 y15 y16 y17 => (wqe k y13 y14 y15 y16 y17 3 x5 false (x5.length : Int) (fun y18 y19 y20 y21 y22 => (K y18 y19 y20 y21 y22)))) (fun y13 y14 y15 y16 y17 y18 y19 => (E y13 y14 y15 y16 y17 y18 y19))) (wqe k x0 x1 x2 x3 x4 3 x5 false (x5.length : Int) (fun y13 y14 y15 y16 y17 => (K y13 y14 y15 y16 y17)))))))) (wqc k x0 x1 x2 x3 x4 4 (fun y12 y13 y14 y15 y16 => (cond ((x5.length : Int) != (x5.length : Int)) (wqc k y12 y13 y14 y15 y16 3 (fun y17 y18 y19 y20 y21 => (cond (decide ((x5.length : Int) > 200)) (wqc k y17 y18 y19 y20 y21 4 (fun y22 y23 y24 y25 y26 => (wqe k y22 y23 y24 y25 y26 3 x5 false (x5.length : Int) (fun y27 y28 y29 y30 y31 => (K y27 y28 y29 y30 y31)))) (fun y22 y23 y24 y25 y26 y27 y28 => (E y22 y23 y24 y25 y26 y27 y28))) (wqe k y17 y18 y19 y20 y21 3 x5 false (x5.length : Int) (fun y22 y23 y24 y25 y26 => (K y22 y23 y24 y25 y26))))) (fun y17 y18 y19 y20 y21 y22 y23 => (E y17 y18 y19 y20 y21 y22 y23))) (cond (decide ((x5.length : Int) > 200)) (wqc k y12 y13 y14 y15 y16 4 (fun y17 y18 y19 y20 y21 => (wqe k y17 y18 y19 y20 y21 3 x5 false (x5.length : Int) (fun y22 y23 y24 y25 y26 => (K y22 y23 y24 y25 y26)))) (fun y17 y18 y19 y20 y21 y22 y23 => (E y17 y18 y19 y20 y21 y22 y23))) (wqe k y12 y13 y14 y15 y16 3 x5 false (x5.length : Int) (fun y17 y18 y19 y20 y21 => (K y17 y18 y19 y20 y21)))))) (fun y12 y13 y14 y15 y16 y17 y18 => (E y12 y13 y14 y15 y16 y17 y18)))))) (wqc k x0 x1 x2 x3 x4 4 (fun y11 y12 y13 y14 y15 => (cond ((x5.length : Int) != (x5.length : Int)) (wqc k y11 y12 y13 y14 y15 3 (fun y16 y17 y18 y19 y20 => (cond (decide ((x5.length : Int) > 200)) (wqc k y16 y17 y18 y19 y20 4 (fun y21 y22 y23 y24 y25 => (wqe k y21 y22 y23 y24 y25 3 x5 false (x5.length : Int) (fun y26 y27 y28 y29 y30 => (K y26 y27 y28 y29 y30)))) (fun y21 y22 y23 y24 y25 y26 y27 => (E y21 y22 y23 y24 y25 y26 y27))) (wqe k y16 y17 y18 y19 y20 3 x5 false (x5.length : Int) (fun y21 y22 y23 y24 y25 => (K y21 y22 y23 y24 y25))))) (fun y16 y17 y18 y19 y20 y21 y22 => (E y16 y17 y18 y19 y20 y21 y22))) (cond (decide ((x5.length : Int) > 200)) (wqc k y11 y12 y13 y14 y15 4 (fun y16 y17 y18 y19 y20 => (wqe k y16 y17 y18 y19 y20 3 x5 false (x5.length : Int) (fun y21 y22 y23 y24 y25 => (K y21 y22 y23 y24 y25)))) (fun y16 y17 y18 y19 y20 y21 y22 => (E y16 y17 y18 y19 y20 y21 y22))) (wqe k y11 y12 y13 y14 y15 3 x5 false (x5.length : Int) (fun y16 y17 y18 y19 y20 => (K y16 y17 y18 y19 y20)))))) (fun y11 y12 y13 y14 y15 y16 y17 => (E y11 y12 y13 y14 y15 y16 y17)))))) none))) none)
def wq3q (k : Nat) {R : Type} (x0 x1 : Int) (x2 : (List UInt8)) (x3 : Int) (x4 : (List dT115)) (x5 : (List UInt8)) (K : (Int → Int → (List UInt8) → Int → (List dT115) → Option R)) (E : (Int → Int → (List UInt8) → Int → (List dT115) → Int → Int → Option R)) : Option R := wql9 k  x0 x1 x2 x3 x4 x5 K E
theorem wqqm (k : Nat) {R : Type} (x0 x1 : Int) (x2 : (List UInt8)) (x3 : Int) (x4 : (List dT115)) (x5 : (List UInt8)) (K : (Int → Int → (List UInt8) → Int → (List dT115) → Option R)) (E : (Int → Int → (List UInt8) → Int → (List dT115) → Int → Int → Option R)) : fnW (wqu2 k) k Tryz.f139 wqu1 [.ptr 1 0, .v .str x5] [(21, .row 116 kdT115 x4), (1, .var 154 [.v kI x0, .v kI x1, .v .str x2, .v kI x3, .row 21])] (wqhq K E) = wq3q k x0 x1 x2 x3 x4 x5 K E := by
  kernel_rfl
def wq8y (k : Nat) {R : Type} : List PV → List (Nm × HObj) → (Out → Option R) → Option R
  | [.ptr 1 0, .v .str x5], [(21, .row 116 (.pr (.int .i64) (.pr (.int .i64) (.pr (.int .i64) (.pr .str .bool)))) x4), (1, .var 154 [.v (.int .i64) x0, .v (.int .i64) x1, .v .str x2, .v (.int .i64) x3, .row 21])], K => wq3q k x0 x1 x2 x3 x4 x5 (fun y0 y1 y2 y3 y4 => K (.ret [] [(21, .row 116 (.pr (.int .i64) (.pr (.int .i64) (.pr (.int .i64) (.pr .str .bool)))) y4), (1, .var 154 [.v (.int .i64) y0, .v (.int .i64) y1, .v .str y2, .v (.int .i64) y3, .row 21])])) (fun z0 z1 z2 z3 z4 z5 z6 => K (.pan (.ifc 39 (.agg [.v (.int .i64) z5, .v (.int .i64) z6])) [(21, .row 116 (.pr (.int .i64) (.pr (.int .i64) (.pr (.int .i64) (.pr .str .bool)))) z4), (1, .var 154 [.v (.int .i64) z0, .v (.int .i64) z1, .v .str z2, .v (.int .i64) z3, .row 21])]))
  | _, _, _ => none
theorem wqw6 (k : Nat) : DOK Tryz.prog 139 (wq8y k) := by
  intro ps hp R K r h
  have h : wq8y k ps hp K = some r := h
  unfold wq8y at h
  split at h
  · rw [← wqqm] at h
    exact fnW_ok ⟨tyT_ok, (wqm (wq7p k) (wqm (wq12i k) (wqm (wqkh k) (wqm (wq176 k) (wqm (wqsl k) (wqm (wqsk k) (wqm (wqhp k) CTab.nil_ok))))))), fun _ _ => rfl⟩ mixed (by kernel_rfl) (by kernel_rfl) h fun o ho => by unfold wqhq at ho; split at ho <;> first | exact ho | cases ho
  · cases h
end Go.Proofs.YtdfhgimidmfgfaaGreatDoor.Pvm
end


noncomputable section
namespace Go.Proofs.YtdfhgimidmfgfaaGreatDoor.Pvm
open Go Go.Proofs
def wqu3 : List LS := [.obj 1 [.any, .any, .any, .any, .own 21 116 kdT115]]
def wq8z {R : Type} (K : (Int → Int → (List UInt8) → Int → (List dT115) → Option R)) (E : (Int → Int → (List UInt8) → Int → (List dT115) → Int → Int → Option R)) : Out → Option R
  | .ret [] [(21, .row 116 (.pr (.int .i64) (.pr (.int .i64) (.pr (.int .i64) (.pr .str .bool)))) y4), (1, .var 154 [.v (.int .i64) y0, .v (.int .i64) y1, .v .str y2, .v (.int .i64) y3, .row 21])] => K y0 y1 y2 y3 y4
  | .pan (.ifc 39 (.agg [.v (.int .i64) z5, .v (.int .i64) z6])) [(21, .row 116 (.pr (.int .i64) (.pr (.int .i64) (.pr (.int .i64) (.pr .str .bool)))) z4), (1, .var 154 [.v (.int .i64) z0, .v (.int .i64) z1, .v .str z2, .v (.int .i64) z3, .row 21])] => E z0 z1 z2 z3 z4 z5 z6
  | _ => none
def wqgp : RetSpec := ⟨[], [(1, .obj 1 [.any, .any, .any, .any, .own 21 116 (.pr (.int .i64) (.pr (.int .i64) (.pr (.int .i64) (.pr .str .bool))))])], [(1, .obj 1 [.any, .any, .any, .any, .own 21 116 (.pr (.int .i64) (.pr (.int .i64) (.pr (.int .i64) (.pr .str .bool))))])]⟩
def wqgq (k : Nat) : Ctx := ⟨tyT, [(1003, ⟨[(0, .obj 1 [.any, .any, .any, .any, .own 21 116 kdT115]), (2, .any)], [(1, .obj 1 [.any, .any, .any, .any, .own 21 116 kdT115])]⟩)], (.add 134 wq5o (wq2f k) (.add 135 wqsh (wq8x k) (.add 136 wqw1 (wqgg k) (.add 137 wqho (wq5p k) (.add 138 wqyz (wqix k) (.add 139 wqsm (wq8y k) .nil)))))), [], [1], [], @SH⟩
def wq69 (s0 s1 : Int) (s2 : (List UInt8)) (s3 : Int) (s4 : (List dT115)) (s5 : (List UInt8)) : St := ⟨mkT [(0, .ptr 1 0), (2, .v .str s5)], mkH [(21, .row 116 kdT115 s4), (1, .var 154 [.v kI s0, .v kI s1, .v .str s2, .v kI s3, .row 21])]⟩
def wqad (k : Nat) {R : Type} (I : Nat → St → Option R) (n : Nat) (s : St) (K : (Int → Int → (List UInt8) → Int → (List dT115) → Option R)) (E : (Int → Int → (List UInt8) → Int → (List dT115) → Int → Int → Option R)) : Option R := loopK (wqgq k) k Tryz.f104 wqgp 1003 [1, 1, 0, 0] I n s (wq8z K E)
def wqae (k : Nat) {R : Type} (E1003 : (Int → Int → (List UInt8) → Int → (List dT115) → (List UInt8) → Option R)) (s0 s1 : Int) (s2 : (List UInt8)) (s3 : Int) (s4 : (List dT115)) (s5 : (List UInt8)) (K : (Int → Int → (List UInt8) → Int → (List dT115) → Option R)) (E : (Int → Int → (List UInt8) → Int → (List dT115) → Int → Int → Option R)) : Option R := (wqiu k s5 (fun y11 => (cond y11 (wqe k s0 s1 s2 s3 s4 1 [] false 1 (fun y12 y13 y14 y15 y16 => (wq34 k y12 y13 y14 y15 y16 (fun y17 y18 y19 y20 y21 y22 => (E1003 y17 y18 y19 y20 y21 y22))))) (wqjj k s5 (fun y12 => (cond (!(y12 == [])) (cond (decide ((y12.length : Int) > 64)) (wqc k s0 s1 s2 s3 s4 5 (fun y13 y14 y15 y16 y17 => (wqe k y13 y14 y15 y16 y17 2 y12 false (@Go.IntKind.wrap Go.IntKind.i64 ((y12.length : Int) + 1)) (fun y18 y19 y20 y21 y22 => (wq34 k y18 y19 y20 y21 y22 (fun y23 y24 y25 y26 y27 y28 => (cond (!(y28 == [])) (wq3q k y23 y24 y25 y26 y27 y28 (fun y29 y30 y31 y32 y33 => (K y29 y30 y31 y32 y33)) (fun y29 y30 y31 y32 y33 y34 y35 => (E y29 y30 y31 y32 y33 y34 y35))) (K y23 y24 y25 y26 y27))))))) (fun y13 y14 y15 y16 y17 y18 y19 => (E y13 y14 y15 y16 y17 y18 y19))) (wqe k s0 s1 s2 s3 s4 2 y12 false (@Go.IntKind.wrap Go.IntKind.i64 ((y12.length : Int) + 1)) (fun y13 y14 y15 y16 y17 => (wq34 k y13 y14 y15 y16 y17 (fun y18 y19 y20 y21 y22 y23 => (cond (!(y23 == [])) (wq3q k y18 y19 y20 y21 y22 y23 (fun y24 y25 y26 y27 y28 => (K y24 y25 y26 y27 y28)) (fun y24 y25 y26 y27 y28 y29 y30 => (E y24 y25 y26 y27 y28 y29 y30))) (K y18 y19 y20 y21 y22))))))) (cond (!(s5 == [])) (wq3q k s0 s1 s2 s3 s4 s5 (fun y13 y14 y15 y16 y17 => (K y13 y14 y15 y16 y17)) (fun y13 y14 y15 y16 y17 y18 y19 => (E y13 y14 y15 y16 y17 y18 y19))) (K s0 s1 s2 s3 s4))))))))
theorem wqkn (k : Nat) {R : Type} (I : Nat → St → Option R) (s0 s1 : Int) (s2 : (List UInt8)) (s3 : Int) (s4 : (List dT115)) (s5 : (List UInt8)) (K : (Int → Int → (List UInt8) → Int → (List dT115) → Option R)) (E : (Int → Int → (List UInt8) → Int → (List dT115) → Int → Int → Option R)) : bodyK (wqgq k) k Tryz.f104 wqgp [1, 1, 0, 0, 0] I (wq69 s0 s1 s2 s3 s4 s5) (wq8z K E) = wqae k (fun s0 s1 s2 s3 s4 s5 => I 1003 (wq69 s0 s1 s2 s3 s4 s5)) s0 s1 s2 s3 s4 s5 K E := by kernel_rfl
def wqic (k : Nat) {R : Type} (E1003 : (Int → Int → (List UInt8) → Int → (List dT115) → (List UInt8) → Option R)) (x0 x1 : Int) (x2 : (List UInt8)) (x3 : Int) (x4 : (List dT115)) (K : (Int → Int → (List UInt8) → Int → (List dT115) → Option R)) (E : (Int → Int → (List UInt8) → Int → (List dT115) → Int → Int → Option R)) : Option R := (cond (cond (decide (x1 < 0)) true (decide (x1 > 16384))) (wqc k x0 x1 x2 x3 x4 6 (fun y10 y11 y12 y13 y14 => (wq34 k y10 y11 y12 y13 y14 (fun y15 y16 y17 y18 y19 y20 => (E1003 y15 y16 y17 y18 y19 y20)))) (fun y10 y11 y12 y13 y14 y15 y16 => (E y10 y11 y12 y13 y14 y15 y16))) (wq34 k x0 x1 x2 x3 x4 (fun y10 y11 y12 y13 y14 y15 => (E1003 y10 y11 y12 y13 y14 y15))))
def wq3e (k : Nat) {R : Type}  : Nat → Int → Int → (List UInt8) → Int → (List dT115) → (List UInt8) → (Int → Int → (List UInt8) → Int → (List dT115) → Option R) → (Int → Int → (List UInt8) → Int → (List dT115) → Int → Int → Option R) → Option R
  | 0, _, _, _, _, _, _, _, _ => none
  | n + 1, s0, s1, s2, s3, s4, s5, K, E => wqae k (fun s0 s1 s2 s3 s4 s5 => wq3e k  n s0 s1 s2 s3 s4 s5 K E) s0 s1 s2 s3 s4 s5 K E
theorem wqko (k : Nat) {R : Type} (I : Nat → St → Option R) (K : (Int → Int → (List UInt8) → Int → (List dT115) → Option R)) (E : (Int → Int → (List UInt8) → Int → (List dT115) → Int → Int → Option R)) (n : Nat) : ∀ (s0 s1 : Int) (s2 : (List UInt8)) (s3 : Int) (s4 : (List dT115)) (s5 : (List UInt8)), wqad k I n (wq69 s0 s1 s2 s3 s4 s5) K E = wq3e k  n s0 s1 s2 s3 s4 s5 K E := by
  induction n with
  | zero => intros; rfl
  | succ n ih =>
    intro s0 s1 s2 s3 s4 s5
    refine (?_ : _ = _).trans ((wqkn k (upI 1003 (fun s => wqad k I n s K E) I) s0 s1 s2 s3 s4 s5 K E).trans ?_)
    · rfl
    · simp only [wq1o, ih] <;> rfl
def wqd6 (k : Nat) {R : Type} (x0 x1 : Int) (x2 : (List UInt8)) (x3 : Int) (x4 : (List dT115)) (K : (Int → Int → (List UInt8) → Int → (List dT115) → Option R)) (E : (Int → Int → (List UInt8) → Int → (List dT115) → Int → Int → Option R)) : Option R := wqic k (fun s0 s1 s2 s3 s4 s5 => wq3e k k s0 s1 s2 s3 s4 s5 K E) x0 x1 x2 x3 x4 K E
theorem wqsn (k : Nat) {R : Type} (x0 x1 : Int) (x2 : (List UInt8)) (x3 : Int) (x4 : (List dT115)) (K : (Int → Int → (List UInt8) → Int → (List dT115) → Option R)) (E : (Int → Int → (List UInt8) → Int → (List dT115) → Int → Int → Option R)) : fnW (wqgq k) k Tryz.f104 wqgp [.ptr 1 0] [(21, .row 116 kdT115 x4), (1, .var 154 [.v kI x0, .v kI x1, .v .str x2, .v kI x3, .row 21])] (wq8z K E) = wqd6 k x0 x1 x2 x3 x4 K E := by
  refine Eq.trans (b := wqic k (fun s0 s1 s2 s3 s4 s5 => wqad k (fun _ _ => none) k (wq69 s0 s1 s2 s3 s4 s5) K E) x0 x1 x2 x3 x4 K E) (by kernel_rfl) ?_
  simp only [wqko] <;> rfl
def wq9w (k : Nat) {R : Type} : List PV → List (Nm × HObj) → (Out → Option R) → Option R
  | [.ptr 1 0], [(21, .row 116 (.pr (.int .i64) (.pr (.int .i64) (.pr (.int .i64) (.pr .str .bool)))) x4), (1, .var 154 [.v (.int .i64) x0, .v (.int .i64) x1, .v .str x2, .v (.int .i64) x3, .row 21])], K => wqd6 k x0 x1 x2 x3 x4 (fun y0 y1 y2 y3 y4 => K (.ret [] [(21, .row 116 (.pr (.int .i64) (.pr (.int .i64) (.pr (.int .i64) (.pr .str .bool)))) y4), (1, .var 154 [.v (.int .i64) y0, .v (.int .i64) y1, .v .str y2, .v (.int .i64) y3, .row 21])])) (fun z0 z1 z2 z3 z4 z5 z6 => K (.pan (.ifc 39 (.agg [.v (.int .i64) z5, .v (.int .i64) z6])) [(21, .row 116 (.pr (.int .i64) (.pr (.int .i64) (.pr (.int .i64) (.pr .str .bool)))) z4), (1, .var 154 [.v (.int .i64) z0, .v (.int .i64) z1, .v .str z2, .v (.int .i64) z3, .row 21])]))
  | _, _, _ => none
theorem wqxq (k : Nat) : DOK Tryz.prog 104 (wq9w k) := by
  intro ps hp R K r h
  have h : wq9w k ps hp K = some r := h
  unfold wq9w at h
  split at h
  · rw [← wqsn] at h
    exact fnW_ok ⟨tyT_ok, (wqm (wq7p k) (wqm (wqw5 k) (wqm (wq12i k) (wqm (wqkh k) (wqm (wq176 k) (wqm (wqw6 k) CTab.nil_ok)))))), fun _ _ => rfl⟩ mixed (by kernel_rfl) (by kernel_rfl) h fun o ho => by unfold wq8z at ho; split at ho <;> first | exact ho | cases ho
  · cases h
end Go.Proofs.YtdfhgimidmfgfaaGreatDoor.Pvm
end


namespace Go.Proofs.YtdfhgimidmfgfaaGreatDoor.Pvm
open Go Go.Proofs
def wqz1 : List LS := [.ag [.any, .any, .any]]
def wq177 (k : Nat) : CTab := (CTab.add 104 wqu3 (wq9w k) CTab.nil)
def wqom {R : Type} (K : ((List dT115) → Int → Int → Option R)) : Out → Option R
  | .ret [.v (.sl (.pr (.int .i64) (.pr (.int .i64) (.pr (.int .i64) (.pr .str .bool))))) y0, .agg [.v (.int .i64) y1, .v (.int .i64) y2]] [] => K y0 y1 y2
  | _ => none
def wq12p : RetSpec := ⟨[.sl (.pr (.int .i64) (.pr (.int .i64) (.pr (.int .i64) (.pr .str .bool)))), .ag [.any, .any]], [], []⟩
def wq155 : List (Nat × CutSpec) := []
def wq12q : List (Nat × Plan) := []
def wqw7 (k : Nat) : Ctx := ⟨tyT, wq155, wq177 k, [2, 3], [], wq12q, @SH⟩
def wq77 : Code := Tryz.f67.body.getD .skip
def wqjm (k : Nat) {R : Type} : PV → List PV → List (Nm × HObj) → (Out → Option R) → Option R
  | .nilif, [.ptr 1 0, .ptr 2 0], [(1, .var 78 [.v (.sl (.pr (.int .i64) (.pr (.int .i64) (.pr (.int .i64) (.pr .str .bool))))) x0]), (2, .var 39 [.v (.int .i64) x1, .v (.int .i64) x2])], K => wqdo k x0 x1 x2 (fun y0 y1 y2 => K (.ret [] [(1, .var 78 [.v (.sl (.pr (.int .i64) (.pr (.int .i64) (.pr (.int .i64) (.pr .str .bool))))) y0]), (2, .var 39 [.v (.int .i64) y1, .v (.int .i64) y2])]))
  | .ifc 39 (.agg [.v (.int .i64) x3, .v (.int .i64) x4]), [.ptr 1 0, .ptr 2 0], [(1, .var 78 [.v (.sl (.pr (.int .i64) (.pr (.int .i64) (.pr (.int .i64) (.pr .str .bool))))) x0]), (2, .var 39 [.v (.int .i64) x1, .v (.int .i64) x2])], K => wqdp k x0 x1 x2 x3 x4 (fun y0 y1 y2 => K (.ret [] [(1, .var 78 [.v (.sl (.pr (.int .i64) (.pr (.int .i64) (.pr (.int .i64) (.pr .str .bool))))) y0]), (2, .var 39 [.v (.int .i64) y1, .v (.int .i64) y2])]))
  | _, _, _, _ => none
def wq106 (k : Nat) {R : Type}  (x0 x1 : Int) (x2 : (List UInt8)) (K : ((List dT115) → Int → Int → Option R)) : Option R := (wqd6 k x0 x1 x2 0 [] (fun y6 y7 y8 y9 y10 => (wqdo k y10 0 0 (fun y11 y12 y13 => (K y11 y12 y13)))) (fun y6 y7 y8 y9 y10 y11 y12 => (wqdp k [] 0 0 y11 y12 (fun y13 y14 y15 => (K y13 y14 y15)))))
theorem wq156 (k : Nat) {R : Type} (I : Nat → St → Option R) (x0 x1 : Int) (x2 : (List UInt8)) (K : ((List dT115) → Int → Int → Option R)) : fnDK (wqw7 k) k [300, 400] (at_ [0] wq77) (opsAt (at_ [1, 0] wq77)) (at_ [1, 1] wq77) 16 [.cell 2 78, .cell 3 39] wq12p (wqjm k) wqtb [(300, 0), (400, 0)] [.agg [.v (.int .i64) x0, .v (.int .i64) x1, .v .str x2]] [] (wqom K) = wq106 k  x0 x1 x2 K := by kernel_rfl
def wqmq (k : Nat) {R : Type} (x0 x1 : Int) (x2 : (List UInt8)) (K : ((List dT115) → Int → Int → Option R)) : Option R := wq106 k  x0 x1 x2 K
theorem wq157 (k : Nat) {R : Type} (x0 x1 : Int) (x2 : (List UInt8)) (K : ((List dT115) → Int → Int → Option R)) : fnDK (wqw7 k) k [300, 400] (at_ [0] wq77) (opsAt (at_ [1, 0] wq77)) (at_ [1, 1] wq77) 16 [.cell 2 78, .cell 3 39] wq12p (wqjm k) wqtb [(300, 0), (400, 0)] [.agg [.v (.int .i64) x0, .v (.int .i64) x1, .v .str x2]] [] (wqom K) = wqmq k x0 x1 x2 K := by
  exact wq156 k (fun _ _ => none) x0 x1 x2 K
def wqmr (k : Nat) {R : Type} : List PV → List (Nm × HObj) → (Out → Option R) → Option R
  | [.agg [.v (.int .i64) x0, .v (.int .i64) x1, .v .str x2]], [], K => wqmq k x0 x1 x2 (fun y0 y1 y2 => K (.ret [.v (.sl (.pr (.int .i64) (.pr (.int .i64) (.pr (.int .i64) (.pr .str .bool))))) y0, .agg [.v (.int .i64) y1, .v (.int .i64) y2]] []))
  | _, _, _ => none
theorem wq158 (k : Nat) : (wq177 k).Ok Tryz.prog := (wqm (wqxq k) CTab.nil_ok)
theorem wqxr (k : Nat) {R : Type} (rec : PV) (ps : List PV) (hp : List (Nm × HObj)) (K : Out → Option R) (r : R) (h : wqjm k rec ps hp K = some r) : DoesToD Tryz.prog 103 rec ps hp fun out => K out = some r := by
  unfold wqjm at h
  split at h
  · exact wqzx k h
  · exact wqzy k h
  · cases h
theorem wq178 (k : Nat) {ps : List PV} {hp : List (Nm × HObj)} {R : Type} {K : Out → Option R} {r : R} (h : wqmr k ps hp K = some r) : DoesTo Tryz.prog 67 ps hp fun out => K out = some r := by
  unfold wqmr at h
  split at h
  · rw [← wq157] at h
    have := wq1db (P := Tryz.prog) (cx := wqw7 k) (f := 67) ⟨tyT_ok, wq158 k, fun _ _ => rfl⟩ (by kernel_rfl) (fn := Tryz.f67) (id := 1) (pre := at_ [0] wq77) (rest := at_ [1, 1] wq77) (ops := opsAt (at_ [1, 0] wq77)) (by kernel_rfl) (by kernel_rfl) (by kernel_rfl) (rs := [.cell 2 78, .cell 3 39]) (by kernel_rfl) (by kernel_rfl) (by kernel_rfl) (g := 103) (s := 5) (xs := [.tmp 2, .tmp 3]) (by kernel_rfl) (Invokes.of (fn := Tryz.f103) (by kernel_rfl) (c := Tryz.f103.body.getD .skip) (by kernel_rfl) (by kernel_rfl)) (wqxr k) h
    exact this.mono fun out ho => by
      unfold wqom at ho
      split at ho <;> first | exact ho | cases ho
  · cases h
end Go.Proofs.YtdfhgimidmfgfaaGreatDoor.Pvm
noncomputable section
namespace Go.Proofs.YtdfhgimidmfgfaaGreatDoor.Pvm
open Go Go.Proofs
def wq18j : List LS := [.sl kdT109]
def wqjn {R : Type} (K : ((List dT115) → Int → Int → Option R)) : Out → Option R
  | .ret [.v (.sl (.pr (.int .i64) (.pr (.int .i64) (.pr (.int .i64) (.pr .str .bool))))) y0, .agg [.v (.int .i64) y1, .v (.int .i64) y2]] [] => K y0 y1 y2
  | _ => none
def wqw8 : RetSpec := ⟨[.sl (.pr (.int .i64) (.pr (.int .i64) (.pr (.int .i64) (.pr .str .bool)))), .ag [.any, .any]], [], []⟩
def wqw9 (k : Nat) : Ctx := ⟨tyT, [(1003, ⟨[(3, .obj 13 [.any, .any]), (4, .own 100004 116 kdT115), (9, .sl kdT109), (10, .any), (11, .any)], []⟩)], (.add 67 wqz1 (wqmr k) .nil), [], [], [(7, (.of [(1, 1), (0, 1), (2, 0)] .done))], @SH⟩
def wqd7 (s0 s1 : Int) (s2 : (List dT115)) (s3 : (List dT109)) (s4 s5 : Int) : St := ⟨mkT [(3, .ptr 13 0), (4, .row 100004), (9, .v (.sl kdT109) s3), (10, .v kI s4), (11, .v kI s5)], mkH [(13, .var 39 [.v kI s0, .v kI s1]), (100004, .row 116 kdT115 s2)]⟩
def wqjo (k : Nat) {R : Type} (I : Nat → St → Option R) (n : Nat) (s : St) (K : ((List dT115) → Int → Int → Option R)) : Option R := loopK (wqw9 k) k Tryz.f39 wqw8 1003 [1, 1, 0, 1, 0] I n s (wqjn K)
def wqfj (k : Nat) {R : Type} (E1003 : (Int → Int → (List dT115) → (List dT109) → Int → Int → Option R)) (s0 s1 : Int) (s2 : (List dT115)) (s3 : (List dT109)) (s4 s5 : Int) (K : ((List dT115) → Int → Int → Option R)) : Option R := (cond (decide (s5 < s4)) (cond (inb s5 (s3.length : Int)) (wqmq k (s3.getD s5.toNat (Kd.zero (@Kd.pr kI (@Kd.pr kI Kd.str)))).1 ((s3.getD s5.toNat (Kd.zero (@Kd.pr kI (@Kd.pr kI Kd.str)))).2).1 ((s3.getD s5.toNat (Kd.zero (@Kd.pr kI (@Kd.pr kI Kd.str)))).2).2 (fun y10 y11 y12 => (cond (y11 != 0) (K [] y11 y12) (cond (fits s2.length y10.length 48) (E1003 s0 s1 (s2 ++ y10) s3 s4 (@Go.IntKind.wrap Go.IntKind.i64 (s5 + 1))) none)))) none) (K s2 0 0))
theorem wqu4 (k : Nat) {R : Type} (I : Nat → St → Option R) (s0 s1 : Int) (s2 : (List dT115)) (s3 : (List dT109)) (s4 s5 : Int) (K : ((List dT115) → Int → Int → Option R)) : bodyK (wqw9 k) k Tryz.f39 wqw8 [1, 1, 0, 1, 0, 0] I (wqd7 s0 s1 s2 s3 s4 s5) (wqjn K) = wqfj k (fun s0 s1 s2 s3 s4 s5 => I 1003 (wqd7 s0 s1 s2 s3 s4 s5)) s0 s1 s2 s3 s4 s5 K := by kernel_rfl
def wq107 (k : Nat) {R : Type} (E1003 : (Int → Int → (List dT115) → (List dT109) → Int → Int → Option R)) (x0 : (List dT109)) (K : ((List dT115) → Int → Int → Option R)) : Option R := (E1003 0 0 [] x0 (x0.length : Int) 0)
def wq90 (k : Nat) {R : Type}  : Nat → Int → Int → (List dT115) → (List dT109) → Int → Int → ((List dT115) → Int → Int → Option R) → Option R
  | 0, _, _, _, _, _, _, _ => none
  | n + 1, s0, s1, s2, s3, s4, s5, K => wqfj k (fun s0 s1 s2 s3 s4 s5 => wq90 k  n s0 s1 s2 s3 s4 s5 K) s0 s1 s2 s3 s4 s5 K
theorem wqu5 (k : Nat) {R : Type} (I : Nat → St → Option R) (K : ((List dT115) → Int → Int → Option R)) (n : Nat) : ∀ (s0 s1 : Int) (s2 : (List dT115)) (s3 : (List dT109)) (s4 s5 : Int), wqjo k I n (wqd7 s0 s1 s2 s3 s4 s5) K = wq90 k  n s0 s1 s2 s3 s4 s5 K := by
  induction n with
  | zero => intros; rfl
  | succ n ih =>
    intro s0 s1 s2 s3 s4 s5
    refine (?_ : _ = _).trans ((wqu4 k (upI 1003 (fun s => wqjo k I n s K) I) s0 s1 s2 s3 s4 s5 K).trans ?_)
    · rfl
    · simp only [wq1o, ih] <;> rfl
def wqqn (k : Nat) {R : Type} (x0 : (List dT109)) (K : ((List dT115) → Int → Int → Option R)) : Option R := wq107 k (fun s0 s1 s2 s3 s4 s5 => wq90 k k s0 s1 s2 s3 s4 s5 K) x0 K
theorem wq159 (k : Nat) {R : Type} (x0 : (List dT109)) (K : ((List dT115) → Int → Int → Option R)) : fnW (wqw9 k) k Tryz.f39 wqw8 [.v (.sl kdT109) x0] [] (wqjn K) = wqqn k x0 K := by
  refine Eq.trans (b := wq107 k (fun s0 s1 s2 s3 s4 s5 => wqjo k (fun _ _ => none) k (wqd7 s0 s1 s2 s3 s4 s5) K) x0 K) (by kernel_rfl) ?_
  simp only [wqu5] <;> rfl
def wqms (k : Nat) {R : Type} : List PV → List (Nm × HObj) → (Out → Option R) → Option R
  | [.v (.sl (.pr (.int .i64) (.pr (.int .i64) .str))) x0], [], K => wqqn k x0 (fun y0 y1 y2 => K (.ret [.v (.sl (.pr (.int .i64) (.pr (.int .i64) (.pr (.int .i64) (.pr .str .bool))))) y0, .agg [.v (.int .i64) y1, .v (.int .i64) y2]] []))
  | _, _, _ => none
theorem wq1ck (k : Nat) : DOK Tryz.prog 39 (wqms k) := by
  intro ps hp R K r h
  have h : wqms k ps hp K = some r := h
  unfold wqms at h
  split at h
  · rw [← wq159] at h
    exact fnW_ok ⟨tyT_ok, (CTab.add_ok (fun h => wq178 k h) CTab.nil_ok), fun _ _ => rfl⟩ mixed (by kernel_rfl) (by kernel_rfl) h fun o ho => by unfold wqjn at ho; split at ho <;> first | exact ho | cases ho
  · cases h
end Go.Proofs.YtdfhgimidmfgfaaGreatDoor.Pvm
end


namespace Go.Proofs.YtdfhgimidmfgfaaGreatDoor.Pvm
open Go Go.Proofs
theorem wq1ao {h : Heap} {G : Gh} {w : World} {P : Program} {x : List Int} {v : Value} (hv : RV h G w (.v (.sl (.int .u8)) x) v) : (Extern.Bytes.bytesOf v).run P w = .ok ⟨(wq1v x).toArray⟩ w := by
  obtain ⟨A, cap, e, hcap, hr⟩ := hv
  simp only [List.cons.injEq, and_true] at e
  subst e
  rcases hr with rfl | ⟨ad, rfl, h1, h2, h3⟩
  · cases A with
    | none => rfl
    | some a => rfl
  · have hl := Lib.run_loadBytesX (P := P) w x ad .empty (fun j y hj => by
      obtain ⟨c, hc, hu⟩ := h3 j y hj
      have hc' : c = [.int .u8 y] := hc
      subst hc'
      have := hu 0 _ rfl
      have e1 : j * (Kd.int .u8).sz + 0 = j := by simp [Kd.sz]
      rw [e1] at this
      exact this)
    have e2 : (⟨ByteArray.empty.data ++ (Lib.bytesOf x).toArray⟩ : ByteArray) = ⟨(wq1v x).toArray⟩ := by
      apply ByteArray.ext
      show (#[] : Array UInt8) ++ (Lib.bytesOf x).toArray = (wq1v x).toArray
      simp [Lib.bytesOf, wq1v]
    rw [e2] at hl
    exact hl
theorem wq1ap {G : Gh} {w : World} : Fin [] [] G w G w :=
  ⟨fun n o h => (by cases h), fun n m b h => (by simp [blkOf, mkH, look] at h), fun n t cs h => (by cases h), fun n ag V es h => (by cases h), fun _ _ _ => rfl, rfl, fun n b h => (by simp [blkOf, mkH, look] at h), Nat.le_refl _, rfl, rfl, rfl⟩
theorem wq1dc {P : Program} {f : FuncId} {fn : Func} {g : Array Value → Sem Value} (h1 : P.funcs[f]? = some fn) (h2 : (fn.name == "runtime.NumGoroutine") = false) (h3 : fn.body.isNone = true) (h4 : (Extern.findNext fn).isNone = true)
    (h5 : Extern.find fn = some g) (args : Array Value) (w : World) {v : Value} (h6 : (g args).run P w = .ok v w) : (callFunc f args).run P w = .ok (.value v) w := by
  have h4' : Extern.findNext fn = none := by
    cases hq : Extern.findNext fn with
    | none => rfl
    | some e => rw [hq] at h4; cases h4
  have h2' : ¬ fn.name = "runtime.NumGoroutine" := by simpa using h2
  have e1 : (callFunc f args).run P w = (g args >>= fun v => pure (Next.value v)).run P w := by
    unfold callFunc
    rw [Sem.run_bind]
    have e2 : (program).run P w = .ok P w := rfl
    rw [e2, Result.andThen_ok, h1]
    simp only [h2, h3, if_true, Bool.false_eq_true, if_false]
    rw [Sem.run_bind]
    have e3 : (mark (.extern f)).run P w = .ok () w := rfl
    rw [e3, Result.andThen_ok, h4', h5]
  rw [e1, Sem.run_bind, h6]
  rfl
def cntB (s : List UInt8) (c : UInt8) : Int := Lib.countByte s c
def wq108 : List LS := [.sl (.int .u8), .any]
def wqwa (k : Nat) {R : Type} (x0 : List Int) (x1 : Int) (K : Int → Option R) : Option R := K (cntB (wq1v x0) (UInt8.ofNat x1.toNat))
def wqjp (k : Nat) {R : Type} : List PV → List (Nm × HObj) → (Out → Option R) → Option R
  | [.v (.sl (.int .u8)) x0, .v (.int .u8) x1], [], K => wqwa k x0 x1 (fun y0 => K (.ret [.v (.int .i64) y0] []))
  | _, _, _ => none
theorem wq15a (k : Nat) {ps : List PV} {hp : List (Nm × HObj)} {R : Type} {K : Out → Option R} {r : R} (h : wqjp k ps hp K = some r) : DoesTo Tryz.prog 154 ps hp fun out => K out = some r := by
  unfold wqjp at h
  split at h
  · next x0 x1 =>
    intro G w vals hr obj dis
    obtain ⟨v0, l0, rfl, h0, v1, l1, rfl, h1, rfl⟩ := hr
    have e1 : v1 = .int .u8 x1 := by simpa [RV, RD] using h1
    subst e1
    have hb := wq1ao (P := Tryz.prog) h0
    have hrun : (callFunc 154 #[v0, .int .u8 x1]).run Tryz.prog w = .ok (.value (.int .i64 (cntB (wq1v x0) (UInt8.ofNat x1.toNat)))) w := by
      refine wq1dc (fn := Tryz.f154) (g := Extern.BytealgCount.count) (by kernel_rfl) (by kernel_rfl) (by kernel_rfl) (by kernel_rfl) (by kernel_rfl) _ w ?_
      have hs := Lib.run_countString (P := Tryz.prog) ⟨(wq1v x0).toArray⟩ x1 w
      change Sem.run Tryz.prog (do
        let b ← Extern.Bytes.bytesOf v0
        let c' ← Extern.Bytes.asByte (.int .u8 x1)
        pure (goInt (b.foldl (fun n x => if x == c' then n + 1 else n) (0 : Nat)))) w = _
      change Sem.run Tryz.prog (do
        let b ← Extern.Bytes.bytesOf (.string ⟨(wq1v x0).toArray⟩)
        let c' ← Extern.Bytes.asByte (.int .u8 x1)
        pure (goInt (b.foldl (fun n x => if x == c' then n + 1 else n) (0 : Nat)))) w = _ at hs
      rw [Sem.run_bind] at hs ⊢
      rw [hb]
      exact hs
    show Does _ _ #[_, _] _ _
    unfold Does
    rw [hrun]
    exact ⟨.ret [.v (.int .i64) _] [], h, G, ⟨_, rfl, rfl⟩, wq1ap⟩
  · cases h
end Go.Proofs.YtdfhgimidmfgfaaGreatDoor.Pvm
noncomputable section
namespace Go.Proofs.YtdfhgimidmfgfaaGreatDoor.Pvm
open Go Go.Proofs
def wqxs : List LS := [.sl (.int .u8), .sl (.int .u8)]
def wqla {R : Type} (K : (Int → Option R)) : Out → Option R
  | .ret [.v (.int .i64) y0] [] => K y0
  | _ => none
def wq109 : RetSpec := ⟨[.any], [], []⟩
def wq10a (k : Nat) : Ctx := ⟨tyT, [], (.add 154 wq108 (wqjp k) .nil), [], [], [], @SH⟩
def wq12r (k : Nat) {R : Type}  (x0 : (List Int)) (x1 : Int) (K : (Int → Option R)) : Option R := (wqwa k x0 (([x1]).getD (Int.toNat 0) (Kd.zero (@Kd.int Go.IntKind.u8))) (fun y5 => (K y5)))
def wqdv (k : Nat) {R : Type} (x0 : (List Int)) (x1 : Int) (K : (Int → Option R)) : Option R := wq12r k  x0 x1 K
theorem wqwb (k : Nat) {R : Type} (x0 : (List Int)) (x1 : Int) (K : (Int → Option R)) : fnW (wq10a k) k Tryz.f126 wq109 [.v (.sl (.int .u8)) x0, .v (.sl (.int .u8)) [x1]] [] (wqla K) = wqdv k x0 x1 K := by
  kernel_rfl
def wqd8 (k : Nat) {R : Type} : List PV → List (Nm × HObj) → (Out → Option R) → Option R
  | [.v (.sl (.int .u8)) x0, .v (.sl (.int .u8)) [x1]], [], K => wqdv k x0 x1 (fun y0 => K (.ret [.v (.int .i64) y0] []))
  | _, _, _ => none
theorem wq12s (k : Nat) : DOK Tryz.prog 126 (wqd8 k) := by
  intro ps hp R K r h
  have h : wqd8 k ps hp K = some r := h
  unfold wqd8 at h
  split at h
  · rw [← wqwb] at h
    exact fnW_ok ⟨tyT_ok, (CTab.add_ok (fun h => wq15a k h) CTab.nil_ok), fun _ _ => rfl⟩ mixed (by kernel_rfl) (by kernel_rfl) h fun o ho => by unfold wqla at ho; split at ho <;> first | exact ho | cases ho
  · cases h
end Go.Proofs.YtdfhgimidmfgfaaGreatDoor.Pvm
end


namespace Go.Proofs.YtdfhgimidmfgfaaGreatDoor.Pvm
open Go Go.Proofs
def wqso : List LS := [.sl (.int .u8), .any]
def wqlb (k : Nat) {R : Type} (x0 : List Int) (x1 : Int) (K : Int → Option R) : Option R := K (wqf6 (wq1v x0) x1)
def wqcc (k : Nat) {R : Type} : List PV → List (Nm × HObj) → (Out → Option R) → Option R
  | [.v (.sl (.int .u8)) x0, .v (.int .u8) x1], [], K => wqlb k x0 x1 (fun y0 => K (.ret [.v (.int .i64) y0] []))
  | _, _, _ => none
theorem wqwc (k : Nat) {ps : List PV} {hp : List (Nm × HObj)} {R : Type} {K : Out → Option R} {r : R} (h : wqcc k ps hp K = some r) : DoesTo Tryz.prog 173 ps hp fun out => K out = some r := by
  unfold wqcc at h
  split at h
  · next x0 x1 =>
    intro G w vals hr obj dis
    obtain ⟨v0, l0, rfl, h0, v1, l1, rfl, h1, rfl⟩ := hr
    have e1 : v1 = .int .u8 x1 := by simpa [RV, RD] using h1
    subst e1
    have hb := wq1ao (P := Tryz.prog) h0
    have hrun : (callFunc 173 #[v0, .int .u8 x1]).run Tryz.prog w = .ok (.value (.int .i64 (wqf6 (wq1v x0) x1))) w := by
      refine wq1dc (fn := Tryz.f173) (g := Extern.BytealgIndexByte.indexByte) (by kernel_rfl) (by kernel_rfl) (by kernel_rfl) (by kernel_rfl) (by kernel_rfl) _ w ?_
      have hs := wqyx (P := Tryz.prog) (wq1v x0) x1 w
      change Sem.run Tryz.prog (do
        let b ← Extern.Bytes.bytesOf v0
        let c ← Extern.Bytes.asByte (.int .u8 x1)
        match (List.range b.size).find? fun i => b[i]! == c with
        | some i => pure (goInt i)
        | none => pure (goInt (-1))) w = _
      change Sem.run Tryz.prog (do
        let b ← Extern.Bytes.bytesOf (.string ⟨(wq1v x0).toArray⟩)
        let c ← Extern.Bytes.asByte (.int .u8 x1)
        match (List.range b.size).find? fun i => b[i]! == c with
        | some i => pure (goInt i)
        | none => pure (goInt (-1))) w = _ at hs
      rw [Sem.run_bind] at hs ⊢
      rw [hb]
      exact hs
    show Does _ _ #[_, _] _ _
    unfold Does
    rw [hrun]
    exact ⟨.ret [.v (.int .i64) _] [], h, G, ⟨_, rfl, rfl⟩, wq1ap⟩
  · cases h
end Go.Proofs.YtdfhgimidmfgfaaGreatDoor.Pvm
noncomputable section
namespace Go.Proofs.YtdfhgimidmfgfaaGreatDoor.Pvm
open Go Go.Proofs
def wqqo : List LS := [.sl (.int .u8), .any]
def wqgr {R : Type} (K : (Int → Option R)) : Out → Option R
  | .ret [.v (.int .i64) y0] [] => K y0
  | _ => none
def wqsp : RetSpec := ⟨[.any], [], []⟩
def wqsq (k : Nat) : Ctx := ⟨tyT, [], (.add 173 wqso (wqcc k) .nil), [], [], [], @SH⟩
def wqu6 (k : Nat) {R : Type}  (x0 : (List Int)) (x1 : Int) (K : (Int → Option R)) : Option R := (wqlb k x0 x1 (fun y5 => (K y5)))
def wqei (k : Nat) {R : Type} (x0 : (List Int)) (x1 : Int) (K : (Int → Option R)) : Option R := wqu6 k  x0 x1 K
theorem wqon (k : Nat) {R : Type} (x0 : (List Int)) (x1 : Int) (K : (Int → Option R)) : fnW (wqsq k) k Tryz.f155 wqsp [.v (.sl (.int .u8)) x0, .v (.int .u8) x1] [] (wqgr K) = wqei k x0 x1 K := by
  kernel_rfl
def wq88 (k : Nat) {R : Type} : List PV → List (Nm × HObj) → (Out → Option R) → Option R
  | [.v (.sl (.int .u8)) x0, .v (.int .u8) x1], [], K => wqei k x0 x1 (fun y0 => K (.ret [.v (.int .i64) y0] []))
  | _, _, _ => none
theorem wqu7 (k : Nat) : DOK Tryz.prog 155 (wq88 k) := by
  intro ps hp R K r h
  have h : wq88 k ps hp K = some r := h
  unfold wq88 at h
  split at h
  · rw [← wqon] at h
    exact fnW_ok ⟨tyT_ok, (CTab.add_ok (fun h => wqwc k h) CTab.nil_ok), fun _ _ => rfl⟩ mixed (by kernel_rfl) (by kernel_rfl) h fun o ho => by unfold wqgr at ho; split at ho <;> first | exact ho | cases ho
  · cases h
end Go.Proofs.YtdfhgimidmfgfaaGreatDoor.Pvm
end


noncomputable section
namespace Go.Proofs.YtdfhgimidmfgfaaGreatDoor.Pvm
open Go Go.Proofs
def wqxt : List LS := [.sl (.int .u8), .sl (.int .u8)]
def wqlc {R : Type} (K : (Int → Option R)) : Out → Option R
  | .ret [.v (.int .i64) y0] [] => K y0
  | _ => none
def wq10b : RetSpec := ⟨[.any], [], []⟩
def wq10c (k : Nat) : Ctx := ⟨tyT, [], (.add 155 wqqo (wq88 k) .nil), [], [], [], @SH⟩
def wq12t (k : Nat) {R : Type}  (x0 : (List Int)) (x1 : Int) (K : (Int → Option R)) : Option R := (wqei k x0 (([x1]).getD (Int.toNat 0) (Kd.zero (@Kd.int Go.IntKind.u8))) (fun y5 => (K y5)))
def wqdw (k : Nat) {R : Type} (x0 : (List Int)) (x1 : Int) (K : (Int → Option R)) : Option R := wq12t k  x0 x1 K
theorem wqwd (k : Nat) {R : Type} (x0 : (List Int)) (x1 : Int) (K : (Int → Option R)) : fnW (wq10c k) k Tryz.f127 wq10b [.v (.sl (.int .u8)) x0, .v (.sl (.int .u8)) [x1]] [] (wqlc K) = wqdw k x0 x1 K := by
  kernel_rfl
def wqd9 (k : Nat) {R : Type} : List PV → List (Nm × HObj) → (Out → Option R) → Option R
  | [.v (.sl (.int .u8)) x0, .v (.sl (.int .u8)) [x1]], [], K => wqdw k x0 x1 (fun y0 => K (.ret [.v (.int .i64) y0] []))
  | _, _, _ => none
theorem wq12u (k : Nat) : DOK Tryz.prog 127 (wqd9 k) := by
  intro ps hp R K r h
  have h : wqd9 k ps hp K = some r := h
  unfold wqd9 at h
  split at h
  · rw [← wqwd] at h
    exact fnW_ok ⟨tyT_ok, (wqm (wqu7 k) CTab.nil_ok), fun _ _ => rfl⟩ mixed (by kernel_rfl) (by kernel_rfl) h fun o ho => by unfold wqlc at ho; split at ho <;> first | exact ho | cases ho
  · cases h
end Go.Proofs.YtdfhgimidmfgfaaGreatDoor.Pvm
end


noncomputable section
namespace Go.Proofs.YtdfhgimidmfgfaaGreatDoor.Pvm
open Go Go.Proofs
def wqsr : List LS := [.sl (.int .u8), .sl (.int .u8), .any, .any]
def wq89 {R : Type} (K : ((List (List Int)) → Option R)) : Out → Option R
  | .ret [.v (.sl (.sl (.int .u8))) y0] [] => K y0
  | _ => none
def wqej : RetSpec := ⟨[.sl (.sl (.int .u8))], [], []⟩
def wqek (k : Nat) : Ctx := ⟨tyT, [(1011, ⟨[(0, .sl (.int .u8)), (1, .sl (.int .u8)), (2, .any), (3, .any), (9, .own 100009 35 (.sl (.int .u8))), (10, .any)], []⟩)], (.add 126 wqxs (wqd8 k) (.add 127 wqxt (wqd9 k) .nil)), [], [], [], @SH⟩
def wq5r (s0 : (List Int)) (s1 s2 s3 : Int) (s4 : (List (List Int))) (s5 : Int) : St := ⟨mkT [(0, .v (.sl (.int .u8)) s0), (1, .v (.sl (.int .u8)) [s1]), (2, .v kI s2), (3, .v kI s3), (9, .row 100009), (10, .v kI s5)], mkH [(100009, .row 35 (.sl (.int .u8)) s4)]⟩
def wq9i (k : Nat) {R : Type} (I : Nat → St → Option R) (n : Nat) (s : St) (K : ((List (List Int)) → Option R)) : Option R := loopK (wqek k) k Tryz.f95 wqej 1011 [1, 1, 1, 1, 1, 1, 1, 1, 0, 0] I n s (wq89 K)
def wq9j (k : Nat) {R : Type} (E1011 : ((List Int) → Int → Int → Int → (List (List Int)) → Int → Option R)) (s0 : (List Int)) (s1 s2 s3 : Int) (s4 : (List (List Int))) (s5 : Int) (K : ((List (List Int)) → Option R)) : Option R := (cond (decide (s5 < s3)) (wqdw k s0 s1 (fun y10 => (cond (decide (y10 < 0)) (cond (inb s5 (s4.length : Int)) (cond (bnd 0 (@Go.IntKind.wrap Go.IntKind.i64 (s5 + 1)) ((List.set s4 s5.toNat s0).length : Int)) (K (cut (List.set s4 s5.toNat s0) 0 (@Go.IntKind.wrap Go.IntKind.i64 (s5 + 1)))) none) none) (cond ((bnd 0 (@Go.IntKind.wrap Go.IntKind.i64 (y10 + s2)) (@Go.IntKind.wrap Go.IntKind.i64 (y10 + s2))) && (decide ((@Go.IntKind.wrap Go.IntKind.i64 (y10 + s2)) ≤ (s0.length : Int)))) (cond (inb s5 (s4.length : Int)) (cond (bnd (@Go.IntKind.wrap Go.IntKind.i64 (y10 + (([s1]).length : Int))) (s0.length : Int) (s0.length : Int)) (E1011 (cut s0 (@Go.IntKind.wrap Go.IntKind.i64 (y10 + (([s1]).length : Int))) (s0.length : Int)) s1 s2 s3 (List.set s4 s5.toNat (cut s0 0 (@Go.IntKind.wrap Go.IntKind.i64 (y10 + s2)))) (@Go.IntKind.wrap Go.IntKind.i64 (s5 + 1))) none) none) none)))) (cond (inb s5 (s4.length : Int)) (cond (bnd 0 (@Go.IntKind.wrap Go.IntKind.i64 (s5 + 1)) ((List.set s4 s5.toNat s0).length : Int)) (K (cut (List.set s4 s5.toNat s0) 0 (@Go.IntKind.wrap Go.IntKind.i64 (s5 + 1)))) none) none))
theorem wqjq (k : Nat) {R : Type} (I : Nat → St → Option R) (s0 : (List Int)) (s1 s2 s3 : Int) (s4 : (List (List Int))) (s5 : Int) (K : ((List (List Int)) → Option R)) : bodyK (wqek k) k Tryz.f95 wqej [1, 1, 1, 1, 1, 1, 1, 1, 0, 0, 0] I (wq5r s0 s1 s2 s3 s4 s5) (wq89 K) = wq9j k (fun s0 s1 s2 s3 s4 s5 => I 1011 (wq5r s0 s1 s2 s3 s4 s5)) s0 s1 s2 s3 s4 s5 K := by kernel_rfl
def wqgs (k : Nat) {R : Type} (E1011 : ((List Int) → Int → Int → Int → (List (List Int)) → Int → Option R)) (x0 : (List Int)) (x1 x2 x3 : Int) (K : ((List (List Int)) → Option R)) : Option R := (cond (x3 == 0) (K []) (cond (decide (x3 < 0)) (wqdv k x0 x1 (fun y8 => (cond (mkB (cond false (@ite (@Kd.T kI) ((@Go.IntKind.wrap Go.IntKind.i64 ((x0.length : Int) + 1)) > (@Go.IntKind.wrap Go.IntKind.i64 (y8 + 1))) (@Int.decLt (@Go.IntKind.wrap Go.IntKind.i64 (y8 + 1)) (@Go.IntKind.wrap Go.IntKind.i64 ((x0.length : Int) + 1))) (@Go.IntKind.wrap Go.IntKind.i64 ((x0.length : Int) + 1)) (@Go.IntKind.wrap Go.IntKind.i64 (y8 + 1))) (@ite (@Kd.T kI) ((@Go.IntKind.wrap Go.IntKind.i64 ((x0.length : Int) + 1)) < (@Go.IntKind.wrap Go.IntKind.i64 (y8 + 1))) (@Int.decLt (@Go.IntKind.wrap Go.IntKind.i64 ((x0.length : Int) + 1)) (@Go.IntKind.wrap Go.IntKind.i64 (y8 + 1))) (@Go.IntKind.wrap Go.IntKind.i64 ((x0.length : Int) + 1)) (@Go.IntKind.wrap Go.IntKind.i64 (y8 + 1)))) (cond false (@ite (@Kd.T kI) ((@Go.IntKind.wrap Go.IntKind.i64 ((x0.length : Int) + 1)) > (@Go.IntKind.wrap Go.IntKind.i64 (y8 + 1))) (@Int.decLt (@Go.IntKind.wrap Go.IntKind.i64 (y8 + 1)) (@Go.IntKind.wrap Go.IntKind.i64 ((x0.length : Int) + 1))) (@Go.IntKind.wrap Go.IntKind.i64 ((x0.length : Int) + 1)) (@Go.IntKind.wrap Go.IntKind.i64 (y8 + 1))) (@ite (@Kd.T kI) ((@Go.IntKind.wrap Go.IntKind.i64 ((x0.length : Int) + 1)) < (@Go.IntKind.wrap Go.IntKind.i64 (y8 + 1))) (@Int.decLt (@Go.IntKind.wrap Go.IntKind.i64 ((x0.length : Int) + 1)) (@Go.IntKind.wrap Go.IntKind.i64 (y8 + 1))) (@Go.IntKind.wrap Go.IntKind.i64 ((x0.length : Int) + 1)) (@Go.IntKind.wrap Go.IntKind.i64 (y8 + 1)))) 24) (E1011 x0 x1 x2 (@Go.IntKind.wrap Go.IntKind.i64 ((cond false (@ite (@Kd.T kI) ((@Go.IntKind.wrap Go.IntKind.i64 ((x0.length : Int) + 1)) > (@Go.IntKind.wrap Go.IntKind.i64 (y8 + 1))) (@Int.decLt (@Go.IntKind.wrap Go.IntKind.i64 (y8 + 1)) (@Go.IntKind.wrap Go.IntKind.i64 ((x0.length : Int) + 1))) (@Go.IntKind.wrap Go.IntKind.i64 ((x0.length : Int) + 1)) (@Go.IntKind.wrap Go.IntKind.i64 (y8 + 1))) (@ite (@Kd.T kI) ((@Go.IntKind.wrap Go.IntKind.i64 ((x0.length : Int) + 1)) < (@Go.IntKind.wrap Go.IntKind.i64 (y8 + 1))) (@Int.decLt (@Go.IntKind.wrap Go.IntKind.i64 ((x0.length : Int) + 1)) (@Go.IntKind.wrap Go.IntKind.i64 (y8 + 1))) (@Go.IntKind.wrap Go.IntKind.i64 ((x0.length : Int) + 1)) (@Go.IntKind.wrap Go.IntKind.i64 (y8 + 1)))) - 1)) (zeros (@Kd.sl (@Kd.int Go.IntKind.u8)) (cond false (@ite (@Kd.T kI) ((@Go.IntKind.wrap Go.IntKind.i64 ((x0.length : Int) + 1)) > (@Go.IntKind.wrap Go.IntKind.i64 (y8 + 1))) (@Int.decLt (@Go.IntKind.wrap Go.IntKind.i64 (y8 + 1)) (@Go.IntKind.wrap Go.IntKind.i64 ((x0.length : Int) + 1))) (@Go.IntKind.wrap Go.IntKind.i64 ((x0.length : Int) + 1)) (@Go.IntKind.wrap Go.IntKind.i64 (y8 + 1))) (@ite (@Kd.T kI) ((@Go.IntKind.wrap Go.IntKind.i64 ((x0.length : Int) + 1)) < (@Go.IntKind.wrap Go.IntKind.i64 (y8 + 1))) (@Int.decLt (@Go.IntKind.wrap Go.IntKind.i64 ((x0.length : Int) + 1)) (@Go.IntKind.wrap Go.IntKind.i64 (y8 + 1))) (@Go.IntKind.wrap Go.IntKind.i64 ((x0.length : Int) + 1)) (@Go.IntKind.wrap Go.IntKind.i64 (y8 + 1))))) 0) none))) (cond (mkB (cond false (@ite (@Kd.T kI) ((@Go.IntKind.wrap Go.IntKind.i64 ((x0.length : Int) + 1)) > x3) (@Int.decLt x3 (@Go.IntKind.wrap Go.IntKind.i64 ((x0.length : Int) + 1))) (@Go.IntKind.wrap Go.IntKind.i64 ((x0.length : Int) + 1)) x3) (@ite (@Kd.T kI) ((@Go.IntKind.wrap Go.IntKind.i64 ((x0.length : Int) + 1)) < x3) (@Int.decLt (@Go.IntKind.wrap Go.IntKind.i64 ((x0.length : Int) + 1)) x3) (@Go.IntKind.wrap Go.IntKind.i64 ((x0.length : Int) + 1)) x3)) (cond false (@ite (@Kd.T kI) ((@Go.IntKind.wrap Go.IntKind.i64 ((x0.length : Int) + 1)) > x3) (@Int.decLt x3 (@Go.IntKind.wrap Go.IntKind.i64 ((x0.length : Int) + 1))) (@Go.IntKind.wrap Go.IntKind.i64 ((x0.length : Int) + 1)) x3) (@ite (@Kd.T kI) ((@Go.IntKind.wrap Go.IntKind.i64 ((x0.length : Int) + 1)) < x3) (@Int.decLt (@Go.IntKind.wrap Go.IntKind.i64 ((x0.length : Int) + 1)) x3) (@Go.IntKind.wrap Go.IntKind.i64 ((x0.length : Int) + 1)) x3)) 24) (E1011 x0 x1 x2 (@Go.IntKind.wrap Go.IntKind.i64 ((cond false (@ite (@Kd.T kI) ((@Go.IntKind.wrap Go.IntKind.i64 ((x0.length : Int) + 1)) > x3) (@Int.decLt x3 (@Go.IntKind.wrap Go.IntKind.i64 ((x0.length : Int) + 1))) (@Go.IntKind.wrap Go.IntKind.i64 ((x0.length : Int) + 1)) x3) (@ite (@Kd.T kI) ((@Go.IntKind.wrap Go.IntKind.i64 ((x0.length : Int) + 1)) < x3) (@Int.decLt (@Go.IntKind.wrap Go.IntKind.i64 ((x0.length : Int) + 1)) x3) (@Go.IntKind.wrap Go.IntKind.i64 ((x0.length : Int) + 1)) x3)) - 1)) (zeros (@Kd.sl (@Kd.int Go.IntKind.u8)) (cond false (@ite (@Kd.T kI) ((@Go.IntKind.wrap Go.IntKind.i64 ((x0.length : Int) + 1)) > x3) (@Int.decLt x3 (@Go.IntKind.wrap Go.IntKind.i64 ((x0.length : Int) + 1))) (@Go.IntKind.wrap Go.IntKind.i64 ((x0.length : Int) + 1)) x3) (@ite (@Kd.T kI) ((@Go.IntKind.wrap Go.IntKind.i64 ((x0.length : Int) + 1)) < x3) (@Int.decLt (@Go.IntKind.wrap Go.IntKind.i64 ((x0.length : Int) + 1)) x3) (@Go.IntKind.wrap Go.IntKind.i64 ((x0.length : Int) + 1)) x3))) 0) none)))
def wq4e (k : Nat) {R : Type}  : Nat → (List Int) → Int → Int → Int → (List (List Int)) → Int → ((List (List Int)) → Option R) → Option R
  | 0, _, _, _, _, _, _, _ => none
  | n + 1, s0, s1, s2, s3, s4, s5, K => wq9j k (fun s0 s1 s2 s3 s4 s5 => wq4e k  n s0 s1 s2 s3 s4 s5 K) s0 s1 s2 s3 s4 s5 K
theorem wqjr (k : Nat) {R : Type} (I : Nat → St → Option R) (K : ((List (List Int)) → Option R)) (n : Nat) : ∀ (s0 : (List Int)) (s1 s2 s3 : Int) (s4 : (List (List Int))) (s5 : Int), wq9i k I n (wq5r s0 s1 s2 s3 s4 s5) K = wq4e k  n s0 s1 s2 s3 s4 s5 K := by
  induction n with
  | zero => intros; rfl
  | succ n ih =>
    intro s0 s1 s2 s3 s4 s5
    refine (?_ : _ = _).trans ((wqjq k (upI 1011 (fun s => wq9i k I n s K) I) s0 s1 s2 s3 s4 s5 K).trans ?_)
    · rfl
    · simp only [wq1o, ih] <;> rfl
def wqb3 (k : Nat) {R : Type} (x0 : (List Int)) (x1 x2 x3 : Int) (K : ((List (List Int)) → Option R)) : Option R := wqgs k (fun s0 s1 s2 s3 s4 s5 => wq4e k k s0 s1 s2 s3 s4 s5 K) x0 x1 x2 x3 K
theorem wqqp (k : Nat) {R : Type} (x0 : (List Int)) (x1 x2 x3 : Int) (K : ((List (List Int)) → Option R)) : fnW (wqek k) k Tryz.f95 wqej [.v (.sl (.int .u8)) x0, .v (.sl (.int .u8)) [x1], .v kI x2, .v kI x3] [] (wq89 K) = wqb3 k x0 x1 x2 x3 K := by
  refine Eq.trans (b := wqgs k (fun s0 s1 s2 s3 s4 s5 => wq9i k (fun _ _ => none) k (wq5r s0 s1 s2 s3 s4 s5) K) x0 x1 x2 x3 K) (by kernel_rfl) ?_
  simp only [wqjr] <;> rfl
def wq91 (k : Nat) {R : Type} : List PV → List (Nm × HObj) → (Out → Option R) → Option R
  | [.v (.sl (.int .u8)) x0, .v (.sl (.int .u8)) [x1], .v (.int .i64) x2, .v (.int .i64) x3], [], K => wqb3 k x0 x1 x2 x3 (fun y0 => K (.ret [.v (.sl (.sl (.int .u8))) y0] []))
  | _, _, _ => none
theorem wqwe (k : Nat) : DOK Tryz.prog 95 (wq91 k) := by
  intro ps hp R K r h
  have h : wq91 k ps hp K = some r := h
  unfold wq91 at h
  split at h
  · rw [← wqqp] at h
    exact fnW_ok ⟨tyT_ok, (wqm (wq12s k) (wqm (wq12u k) CTab.nil_ok)), fun _ _ => rfl⟩ mixed (by kernel_rfl) (by kernel_rfl) h fun o ho => by unfold wq89 at ho; split at ho <;> first | exact ho | cases ho
  · cases h
end Go.Proofs.YtdfhgimidmfgfaaGreatDoor.Pvm
end


noncomputable section
namespace Go.Proofs.YtdfhgimidmfgfaaGreatDoor.Pvm
open Go Go.Proofs
def wqxu : List LS := [.sl (.int .u8), .sl (.int .u8)]
def wqld {R : Type} (K : ((List (List Int)) → Option R)) : Out → Option R
  | .ret [.v (.sl (.sl (.int .u8))) y0] [] => K y0
  | _ => none
def wq10d : RetSpec := ⟨[.sl (.sl (.int .u8))], [], []⟩
def wq10e (k : Nat) : Ctx := ⟨tyT, [], (.add 95 wqsr (wq91 k) .nil), [], [], [], @SH⟩
def wqtj (k : Nat) {R : Type}  (x0 : (List Int)) (x1 : Int) (K : ((List (List Int)) → Option R)) : Option R := (wqb3 k x0 x1 0 (@Neg.neg Int @Int.instNegInt (1 : Int)) (fun y5 => (K y5)))
def wqdx (k : Nat) {R : Type} (x0 : (List Int)) (x1 : Int) (K : ((List (List Int)) → Option R)) : Option R := wqtj k  x0 x1 K
theorem wqwf (k : Nat) {R : Type} (x0 : (List Int)) (x1 : Int) (K : ((List (List Int)) → Option R)) : fnW (wq10e k) k Tryz.f62 wq10d [.v (.sl (.int .u8)) x0, .v (.sl (.int .u8)) [x1]] [] (wqld K) = wqdx k x0 x1 K := by
  kernel_rfl
def wqda (k : Nat) {R : Type} : List PV → List (Nm × HObj) → (Out → Option R) → Option R
  | [.v (.sl (.int .u8)) x0, .v (.sl (.int .u8)) [x1]], [], K => wqdx k x0 x1 (fun y0 => K (.ret [.v (.sl (.sl (.int .u8))) y0] []))
  | _, _, _ => none
theorem wq12v (k : Nat) : DOK Tryz.prog 62 (wqda k) := by
  intro ps hp R K r h
  have h : wqda k ps hp K = some r := h
  unfold wqda at h
  split at h
  · rw [← wqwf] at h
    exact fnW_ok ⟨tyT_ok, (wqm (wqwe k) CTab.nil_ok), fun _ _ => rfl⟩ mixed (by kernel_rfl) (by kernel_rfl) h fun o ho => by unfold wqld at ho; split at ho <;> first | exact ho | cases ho
  · cases h
end Go.Proofs.YtdfhgimidmfgfaaGreatDoor.Pvm
end


noncomputable section
namespace Go.Proofs.YtdfhgimidmfgfaaGreatDoor.Pvm
open Go Go.Proofs
def wqxv : List LS := [.any, .any]
def wqb4 {R : Type} (K : (Int → Bool → Option R)) : Out → Option R
  | .ret [.v (.int .i64) y0, .v .bool y1] [] => K y0 y1
  | _ => none
def wqjs : RetSpec := ⟨[.any, .any], [], []⟩
def wqjt (k : Nat) : Ctx := ⟨tyT, [(1003, ⟨[(0, .any), (6, .any), (7, .any)], []⟩)], .nil, [], [], [], @SH⟩
def wq8a (s0 : (List UInt8)) (s1 s2 : Int) : St := ⟨mkT [(0, .v .str s0), (6, .v (.int .u8) s1), (7, .v kI s2)], mkH []⟩
def wqcd (k : Nat) {R : Type} (I : Nat → St → Option R) (n : Nat) (s : St) (K : (Int → Bool → Option R)) : Option R := loopK (wqjt k) k Tryz.f101 wqjs 1003 [1, 1, 0, 1, 0] I n s (wqb4 K)
def wqce (k : Nat) {R : Type} (E1003 : ((List UInt8) → Int → Int → Option R)) (s0 : (List UInt8)) (s1 s2 : Int) (K : (Int → Bool → Option R)) : Option R := (cond (decide (s2 < (s0.length : Int))) (cond ((!((s1 == 34) == true)) || (inb s2 (s0.length : Int))) (cond (cond (s1 == 34) (((s0.getD s2.toNat 0).toNat : Int) == 92) false) (E1003 s0 s1 (@Go.IntKind.wrap Go.IntKind.i64 ((@Go.IntKind.wrap Go.IntKind.i64 (s2 + 1)) + 1))) (cond (inb s2 (s0.length : Int)) (cond (((s0.getD s2.toNat 0).toNat : Int) != s1) (E1003 s0 s1 (@Go.IntKind.wrap Go.IntKind.i64 (s2 + 1))) (cond ((!((cond (s1 == 39) (decide ((@Go.IntKind.wrap Go.IntKind.i64 (s2 + 1)) < (s0.length : Int))) false) == true)) || (inb (@Go.IntKind.wrap Go.IntKind.i64 (s2 + 1)) (s0.length : Int))) (cond (cond (cond (s1 == 39) (decide ((@Go.IntKind.wrap Go.IntKind.i64 (s2 + 1)) < (s0.length : Int))) false) (((s0.getD (@Go.IntKind.wrap Go.IntKind.i64 (s2 + 1)).toNat 0).toNat : Int) == s1) false) (E1003 s0 s1 (@Go.IntKind.wrap Go.IntKind.i64 ((@Go.IntKind.wrap Go.IntKind.i64 (s2 + 1)) + 1))) (K s2 true)) none)) none)) none) (K 0 false))
theorem wqn1 (k : Nat) {R : Type} (I : Nat → St → Option R) (s0 : (List UInt8)) (s1 s2 : Int) (K : (Int → Bool → Option R)) : bodyK (wqjt k) k Tryz.f101 wqjs [1, 1, 0, 1, 0, 0] I (wq8a s0 s1 s2) (wqb4 K) = wqce k (fun s0 s1 s2 => I 1003 (wq8a s0 s1 s2)) s0 s1 s2 K := by kernel_rfl
def wqle (k : Nat) {R : Type} (E1003 : ((List UInt8) → Int → Int → Option R)) (x0 : (List UInt8)) (x1 : Int) (K : (Int → Bool → Option R)) : Option R := (cond (inb x1 (x0.length : Int)) (E1003 x0 ((x0.getD x1.toNat 0).toNat : Int) (@Go.IntKind.wrap Go.IntKind.i64 (x1 + 1))) none)
def wq6f (k : Nat) {R : Type}  : Nat → (List UInt8) → Int → Int → (Int → Bool → Option R) → Option R
  | 0, _, _, _, _ => none
  | n + 1, s0, s1, s2, K => wqce k (fun s0 s1 s2 => wq6f k  n s0 s1 s2 K) s0 s1 s2 K
theorem wqn2 (k : Nat) {R : Type} (I : Nat → St → Option R) (K : (Int → Bool → Option R)) (n : Nat) : ∀ (s0 : (List UInt8)) (s1 s2 : Int), wqcd k I n (wq8a s0 s1 s2) K = wq6f k  n s0 s1 s2 K := by
  induction n with
  | zero => intros; rfl
  | succ n ih =>
    intro s0 s1 s2
    refine (?_ : _ = _).trans ((wqn1 k (upI 1003 (fun s => wqcd k I n s K) I) s0 s1 s2 K).trans ?_)
    · rfl
    · simp only [wq1o, ih] <;> rfl
def wqal (k : Nat) {R : Type} (x0 : (List UInt8)) (x1 : Int) (K : (Int → Bool → Option R)) : Option R := wqle k (fun s0 s1 s2 => wq6f k k s0 s1 s2 K) x0 x1 K
theorem wqwg (k : Nat) {R : Type} (x0 : (List UInt8)) (x1 : Int) (K : (Int → Bool → Option R)) : fnW (wqjt k) k Tryz.f101 wqjs [.v .str x0, .v kI x1] [] (wqb4 K) = wqal k x0 x1 K := by
  refine Eq.trans (b := wqle k (fun s0 s1 s2 => wqcd k (fun _ _ => none) k (wq8a s0 s1 s2) K) x0 x1 K) (by kernel_rfl) ?_
  simp only [wqn2] <;> rfl
def wqdb (k : Nat) {R : Type} : List PV → List (Nm × HObj) → (Out → Option R) → Option R
  | [.v .str x0, .v (.int .i64) x1], [], K => wqal k x0 x1 (fun y0 y1 => K (.ret [.v (.int .i64) y0, .v .bool y1] []))
  | _, _, _ => none
theorem wq12w (k : Nat) : DOK Tryz.prog 101 (wqdb k) := by
  intro ps hp R K r h
  have h : wqdb k ps hp K = some r := h
  unfold wqdb at h
  split at h
  · rw [← wqwg] at h
    exact fnW_ok ⟨tyT_ok, CTab.nil_ok, fun _ _ => rfl⟩ mixed (by kernel_rfl) (by kernel_rfl) h fun o ho => by unfold wqb4 at ho; split at ho <;> first | exact ho | cases ho
  · cases h
end Go.Proofs.YtdfhgimidmfgfaaGreatDoor.Pvm
end


noncomputable section
namespace Go.Proofs.YtdfhgimidmfgfaaGreatDoor.Pvm
open Go Go.Proofs
def wqiy : List LS := [.any, .any]
def wq3i {R : Type} (K : ((List UInt8) → Option R)) : Out → Option R
  | .ret [.v .str y0] [] => K y0
  | _ => none
def wq78 : RetSpec := ⟨[.any], [], []⟩
def wq79 (k : Nat) : Ctx := ⟨tyT, [(1001, ⟨[(0, .any), (1, .any)], []⟩)], .nil, [], [], [], @SH⟩
def wq2x (s0 : (List UInt8)) (s1 : Int) : St := ⟨mkT [(0, .v .str s0), (1, .v (.int .u8) s1)], mkH []⟩
def wq51 (k : Nat) {R : Type} (I : Nat → St → Option R) (n : Nat) (s : St) (K : ((List UInt8) → Option R)) : Option R := loopK (wq79 k) k Tryz.f131 wq78 1001 [1, 0, 0] I n s (wq3i K)
def wq52 (k : Nat) {R : Type} (E1001 : ((List UInt8) → Int → Option R)) (s0 : (List UInt8)) (s1 : Int) (K : ((List UInt8) → Option R)) : Option R := (cond ((!((decide ((s0.length : Int) > 0)) == true)) || (inb (@Go.IntKind.wrap Go.IntKind.i64 ((s0.length : Int) - 1)) (s0.length : Int))) (cond (cond (decide ((s0.length : Int) > 0)) (((s0.getD (@Go.IntKind.wrap Go.IntKind.i64 ((s0.length : Int) - 1)).toNat 0).toNat : Int) == s1) false) (cond (bnd 0 (@Go.IntKind.wrap Go.IntKind.i64 ((s0.length : Int) - 1)) (s0.length : Int)) (E1001 (cut s0 0 (@Go.IntKind.wrap Go.IntKind.i64 ((s0.length : Int) - 1))) s1) none) (K s0)) none)
theorem wqdy (k : Nat) {R : Type} (I : Nat → St → Option R) (s0 : (List UInt8)) (s1 : Int) (K : ((List UInt8) → Option R)) : bodyK (wq79 k) k Tryz.f131 wq78 [1, 0, 0, 0] I (wq2x s0 s1) (wq3i K) = wq52 k (fun s0 s1 => I 1001 (wq2x s0 s1)) s0 s1 K := by kernel_rfl
def wq80 (k : Nat) {R : Type} (E1001 : ((List UInt8) → Int → Option R)) (x0 : (List UInt8)) (x1 : Int) (K : ((List UInt8) → Option R)) : Option R := (E1001 x0 x1)
def wq24 (k : Nat) {R : Type}  : Nat → (List UInt8) → Int → ((List UInt8) → Option R) → Option R
  | 0, _, _, _ => none
  | n + 1, s0, s1, K => wq52 k (fun s0 s1 => wq24 k  n s0 s1 K) s0 s1 K
theorem wqdz (k : Nat) {R : Type} (I : Nat → St → Option R) (K : ((List UInt8) → Option R)) (n : Nat) : ∀ (s0 : (List UInt8)) (s1 : Int), wq51 k I n (wq2x s0 s1) K = wq24 k  n s0 s1 K := by
  induction n with
  | zero => intros; rfl
  | succ n ih =>
    intro s0 s1
    refine (?_ : _ = _).trans ((wqdy k (upI 1001 (fun s => wq51 k I n s K) I) s0 s1 K).trans ?_)
    · rfl
    · simp only [wq1o, ih] <;> rfl
def wq59 (k : Nat) {R : Type} (x0 : (List UInt8)) (x1 : Int) (K : ((List UInt8) → Option R)) : Option R := wq80 k (fun s0 s1 => wq24 k k s0 s1 K) x0 x1 K
theorem wqid (k : Nat) {R : Type} (x0 : (List UInt8)) (x1 : Int) (K : ((List UInt8) → Option R)) : fnW (wq79 k) k Tryz.f131 wq78 [.v .str x0, .v (.int .u8) x1] [] (wq3i K) = wq59 k x0 x1 K := by
  refine Eq.trans (b := wq80 k (fun s0 s1 => wq51 k (fun _ _ => none) k (wq2x s0 s1) K) x0 x1 K) (by kernel_rfl) ?_
  simp only [wqdz] <;> rfl
def wq3x (k : Nat) {R : Type} : List PV → List (Nm × HObj) → (Out → Option R) → Option R
  | [.v .str x0, .v (.int .u8) x1], [], K => wq59 k x0 x1 (fun y0 => K (.ret [.v .str y0] []))
  | _, _, _ => none
theorem wqkp (k : Nat) : DOK Tryz.prog 131 (wq3x k) := by
  intro ps hp R K r h
  have h : wq3x k ps hp K = some r := h
  unfold wq3x at h
  split at h
  · rw [← wqid] at h
    exact fnW_ok ⟨tyT_ok, CTab.nil_ok, fun _ _ => rfl⟩ mixed (by kernel_rfl) (by kernel_rfl) h fun o ho => by unfold wq3i at ho; split at ho <;> first | exact ho | cases ho
  · cases h
end Go.Proofs.YtdfhgimidmfgfaaGreatDoor.Pvm
end


noncomputable section
namespace Go.Proofs.YtdfhgimidmfgfaaGreatDoor.Pvm
open Go Go.Proofs
def wqn3 : List LS := [.any, .any]
def wqe0 {R : Type} (K : ((List UInt8) → Option R)) : Out → Option R
  | .ret [.v .str y0] [] => K y0
  | _ => none
def wqoo : RetSpec := ⟨[.any], [], []⟩
def wqop (k : Nat) : Ctx := ⟨tyT, [], (.add 131 wqiy (wq3x k) .nil), [], [], [], @SH⟩
def wqhr (k : Nat) {R : Type}  (x0 : (List UInt8)) (x1 : UInt8) (K : ((List UInt8) → Option R)) : Option R := (cond (cond (x0 == []) true ([x1] == [])) (K x0) (cond (cond ((([x1]).length : Int) == 1) (decide (((([x1]).getD (Int.toNat 0) 0).toNat : Int) < 128)) false) (wq59 k x0 ((([x1]).getD (Int.toNat 0) 0).toNat : Int) (fun y5 => (K y5))) none))
def wq3y (k : Nat) {R : Type} (x0 : (List UInt8)) (x1 : UInt8) (K : ((List UInt8) → Option R)) : Option R := wqhr k  x0 x1 K
theorem wqlf (k : Nat) {R : Type} (x0 : (List UInt8)) (x1 : UInt8) (K : ((List UInt8) → Option R)) : fnW (wqop k) k Tryz.f102 wqoo [.v .str x0, .v .str [x1]] [] (wqe0 K) = wq3y k x0 x1 K := by
  kernel_rfl
def wq6a (k : Nat) {R : Type} : List PV → List (Nm × HObj) → (Out → Option R) → Option R
  | [.v .str x0, .v .str [x1]], [], K => wq3y k x0 x1 (fun y0 => K (.ret [.v .str y0] []))
  | _, _, _ => none
theorem wqqq (k : Nat) : DOK Tryz.prog 102 (wq6a k) := by
  intro ps hp R K r h
  have h : wq6a k ps hp K = some r := h
  unfold wq6a at h
  split at h
  · rw [← wqlf] at h
    exact fnW_ok ⟨tyT_ok, (wqm (wqkp k) CTab.nil_ok), fun _ _ => rfl⟩ mixed (by kernel_rfl) (by kernel_rfl) h fun o ho => by unfold wqe0 at ho; split at ho <;> first | exact ho | cases ho
  · cases h
end Go.Proofs.YtdfhgimidmfgfaaGreatDoor.Pvm
end


noncomputable section
namespace Go.Proofs.YtdfhgimidmfgfaaGreatDoor.Pvm
open Go Go.Proofs
def wqqr : List LS := [.any]
def wqdc {R : Type} (K : ((List UInt8) → Bool → Option R)) : Out → Option R
  | .ret [.v .str y0, .v .bool y1] [] => K y0 y1
  | _ => none
def wqlg : RetSpec := ⟨[.any, .any], [], []⟩
def wqlh (k : Nat) : Ctx := ⟨tyT, [(1003, ⟨[(0, .any), (4, .any), (5, .any)], []⟩)], (.add 101 wqxv (wqdb k) (.add 102 wqn3 (wq6a k) .nil)), [], [], [], @SH⟩
def wq92 (s0 : (List UInt8)) (s1 s2 : Int) : St := ⟨mkT [(0, .v .str s0), (4, .v kI s1), (5, .v kI s2)], mkH []⟩
def wqel (k : Nat) {R : Type} (I : Nat → St → Option R) (n : Nat) (s : St) (K : ((List UInt8) → Bool → Option R)) : Option R := loopK (wqlh k) k Tryz.f66 wqlg 1003 [1, 0, 1, 1, 0, 1, 0] I n s (wqdc K)
def wqem (k : Nat) {R : Type} (E1003 : ((List UInt8) → Int → Int → Option R)) (s0 : (List UInt8)) (s1 s2 : Int) (K : ((List UInt8) → Bool → Option R)) : Option R := (cond (decide (s2 < (s0.length : Int))) (cond ((!((decide (s2 > 0)) == true)) || (inb (@Go.IntKind.wrap Go.IntKind.i64 (s2 - 1)) (s0.length : Int))) (cond (cond (decide (s2 > 0)) (((s0.getD (@Go.IntKind.wrap Go.IntKind.i64 (s2 - 1)).toNat 0).toNat : Int) != 32) false) (E1003 s0 s1 (@Go.IntKind.wrap Go.IntKind.i64 (s2 + 1))) (cond (inb s2 (s0.length : Int)) (cond (((s0.getD s2.toNat 0).toNat : Int) == 35) (cond (bnd 0 s2 (s0.length : Int)) (wq3y k (cut s0 0 s2) 32 (fun y7 => (K y7 true))) none) (cond (((s0.getD s2.toNat 0).toNat : Int) == 39) (wqal k s0 s2 (fun y7 y8 => (cond (!y8) (K [] false) (E1003 s0 s1 (@Go.IntKind.wrap Go.IntKind.i64 (y7 + 1)))))) (cond (((s0.getD s2.toNat 0).toNat : Int) == 34) (wqal k s0 s2 (fun y7 y8 => (cond (!y8) (K [] false) (E1003 s0 s1 (@Go.IntKind.wrap Go.IntKind.i64 (y7 + 1)))))) (E1003 s0 s1 (@Go.IntKind.wrap Go.IntKind.i64 (s2 + 1)))))) none)) none) (cond (bnd 0 s1 (s0.length : Int)) (wq3y k (cut s0 0 s1) 32 (fun y7 => (K y7 true))) none))
theorem wqoq (k : Nat) {R : Type} (I : Nat → St → Option R) (s0 : (List UInt8)) (s1 s2 : Int) (K : ((List UInt8) → Bool → Option R)) : bodyK (wqlh k) k Tryz.f66 wqlg [1, 0, 1, 1, 0, 1, 0, 0] I (wq92 s0 s1 s2) (wqdc K) = wqem k (fun s0 s1 s2 => I 1003 (wq92 s0 s1 s2)) s0 s1 s2 K := by kernel_rfl
def wqor (k : Nat) {R : Type} (E1003 : ((List UInt8) → Int → Int → Option R)) (x0 : (List UInt8)) (K : ((List UInt8) → Bool → Option R)) : Option R := (E1003 x0 (x0.length : Int) 0)
def wq2o (k : Nat) {R : Type}  : Nat → (List UInt8) → Int → Int → ((List UInt8) → Bool → Option R) → Option R
  | 0, _, _, _, _ => none
  | n + 1, s0, s1, s2, K => wqem k (fun s0 s1 s2 => wq2o k  n s0 s1 s2 K) s0 s1 s2 K
theorem wqos (k : Nat) {R : Type} (I : Nat → St → Option R) (K : ((List UInt8) → Bool → Option R)) (n : Nat) : ∀ (s0 : (List UInt8)) (s1 s2 : Int), wqel k I n (wq92 s0 s1 s2) K = wq2o k  n s0 s1 s2 K := by
  induction n with
  | zero => intros; rfl
  | succ n ih =>
    intro s0 s1 s2
    refine (?_ : _ = _).trans ((wqoq k (upI 1003 (fun s => wqel k I n s K) I) s0 s1 s2 K).trans ?_)
    · rfl
    · simp only [wq1o, ih] <;> rfl
def wqcf (k : Nat) {R : Type} (x0 : (List UInt8)) (K : ((List UInt8) → Bool → Option R)) : Option R := wqor k (fun s0 s1 s2 => wq2o k k s0 s1 s2 K) x0 K
theorem wqxw (k : Nat) {R : Type} (x0 : (List UInt8)) (K : ((List UInt8) → Bool → Option R)) : fnW (wqlh k) k Tryz.f66 wqlg [.v .str x0] [] (wqdc K) = wqcf k x0 K := by
  refine Eq.trans (b := wqor k (fun s0 s1 s2 => wqel k (fun _ _ => none) k (wq92 s0 s1 s2) K) x0 K) (by kernel_rfl) ?_
  simp only [wqos] <;> rfl
def wqb5 (k : Nat) {R : Type} : List PV → List (Nm × HObj) → (Out → Option R) → Option R
  | [.v .str x0], [], K => wqcf k x0 (fun y0 y1 => K (.ret [.v .str y0, .v .bool y1] []))
  | _, _, _ => none
theorem wqwh (k : Nat) : DOK Tryz.prog 66 (wqb5 k) := by
  intro ps hp R K r h
  have h : wqb5 k ps hp K = some r := h
  unfold wqb5 at h
  split at h
  · rw [← wqxw] at h
    exact fnW_ok ⟨tyT_ok, (wqm (wq12w k) (wqm (wqqq k) CTab.nil_ok)), fun _ _ => rfl⟩ mixed (by kernel_rfl) (by kernel_rfl) h fun o ho => by unfold wqdc at ho; split at ho <;> first | exact ho | cases ho
  · cases h
end Go.Proofs.YtdfhgimidmfgfaaGreatDoor.Pvm
end


noncomputable section
namespace Go.Proofs.YtdfhgimidmfgfaaGreatDoor.Pvm
open Go Go.Proofs
def wq15b : List LS := [.any]
def wqtk {R : Type} (K : (Bool → Option R)) : Out → Option R
  | .ret [.v .bool y0] [] => K y0
  | _ => none
def wq18k : RetSpec := ⟨[.any], [], []⟩
def wq18l (k : Nat) : Ctx := ⟨tyT, [], .nil, [], [], [], @SH⟩
def wq1aq (k : Nat) {R : Type}  (x0 : Int) (K : (Bool → Option R)) : Option R := (K (cond (cond (decide (x0 ≥ 0)) (decide (x0 < 32)) false) true (x0 == 127)))
def wq12x (k : Nat) {R : Type} (x0 : Int) (K : (Bool → Option R)) : Option R := wq1aq k  x0 K
theorem wq12y (k : Nat) {R : Type} (x0 : Int) (K : (Bool → Option R)) : fnW (wq18l k) k Tryz.f64 wq18k [.v (.int .i32) x0] [] (wqtk K) = wq12x k x0 K := by
  kernel_rfl
def wqju (k : Nat) {R : Type} : List PV → List (Nm × HObj) → (Out → Option R) → Option R
  | [.v (.int .i32) x0], [], K => wq12x k x0 (fun y0 => K (.ret [.v .bool y0] []))
  | _, _, _ => none
theorem wq12z (k : Nat) : DOK Tryz.prog 64 (wqju k) := by
  intro ps hp R K r h
  have h : wqju k ps hp K = some r := h
  unfold wqju at h
  split at h
  · rw [← wq12y] at h
    exact fnW_ok ⟨tyT_ok, CTab.nil_ok, fun _ _ => rfl⟩ mixed (by kernel_rfl) (by kernel_rfl) h fun o ho => by unfold wqtk at ho; split at ho <;> first | exact ho | cases ho
  · cases h
end Go.Proofs.YtdfhgimidmfgfaaGreatDoor.Pvm
end


namespace Go.Proofs
open Go.Shelf
def Tryz.laysLaysGwn15_ren : Go.Shelf.Ren := ⟨fun | 15 => 63 | 20 => 96 | n => n, fun | 9 => 9 | 23 => 121 | 3 => 3 | 4 => 4 | 0 => 0 | 21 => 21 | n => n, fun | n => n⟩
theorem Tryz.laysLaysGwn15 : Go.Proofs.LaysGw.n15 Tryz.prog Tryz.laysLaysGwn15_ren := {
  mixed := by kernel_rfl
  f15 := Tryz.func63.trans (congrArg some (by kernel_rfl))
  f20 := Tryz.func96.trans (congrArg some (by kernel_rfl))
  t0 := Tryz.underlying0
  a0 := Tryz.isAgg0
  z0 := Tryz.sizeOf0
  v0 := Tryz.zeroValue0
  i0 := by kernel_rfl
  t3 := Tryz.underlying3
  a3 := Tryz.isAgg3
  z3 := Tryz.sizeOf3
  v3 := Tryz.zeroValue3
  i3 := by kernel_rfl
  t4 := Tryz.underlying4
  a4 := Tryz.isAgg4
  z4 := Tryz.sizeOf4
  v4 := Tryz.zeroValue4
  i4 := by kernel_rfl
  t9 := Tryz.underlying9
  a9 := Tryz.isAgg9
  z9 := Tryz.sizeOf9
  v9 := Tryz.zeroValue9
  i9 := by kernel_rfl
  t21 := Tryz.underlying21
  a21 := Tryz.isAgg21
  z21 := Tryz.sizeOf21
  v21 := Tryz.zeroValue21
  i21 := by kernel_rfl
  t23 := Tryz.underlying121
  a23 := Tryz.isAgg121
  z23 := Tryz.sizeOf121
  v23 := Tryz.zeroValue121
  i23 := by kernel_rfl }
end Go.Proofs
namespace Go.Proofs.YtdfhgimidmfgfaaGreatDoor.Pvm
open Go Go.Proofs Go.RowKit Go.Shelf
def oddP (n : Nat) : Bool := cond (cond (decide ((n : Int) ≥ 0)) (decide ((n : Int) < 32)) false) true ((n : Int) == 127)
def idxOdd (s : List UInt8) : Int := Lib.idxFunc oddP true ⟨s.toArray⟩
def wqn4 : List LS := [.any, .clo []]
def wqb6 (k : Nat) {R : Type} (x0 : List UInt8) (K : Int → Option R) : Option R := K (idxOdd x0)
def wq9k (k : Nat) {R : Type} : List PV → List (Nm × HObj) → (Out → Option R) → Option R
  | [.v .str x0, .clo 64 []], [], K => wqb6 k x0 (fun y0 => K (.ret [.v (.int .i64) y0] []))
  | _, _, _ => none
theorem wq1cl (w : World) : PredGrows Tryz.prog 64 #[] oddP w := by
  intro W x hx hb
  exact wq172 (P := Tryz.prog) (f := 64) (fn := Tryz.f64) (c := Tryz.f64.body.getD .skip) (by kernel_rfl) (by kernel_rfl) (by kernel_rfl) (ps := [.v (.int .i32) (x : Int)]) (b := oddP x)
    (wq12z 0 _ _ _ lawK (oddP x) rfl) (vals := [.int .i32 (x : Int)]) ⟨_, [], rfl, rfl, rfl⟩
theorem wqqs (k : Nat) {ps : List PV} {hp : List (Nm × HObj)} {R : Type} {K : Out → Option R} {r : R} (h : wq9k k ps hp K = some r) : DoesTo Tryz.prog 63 ps hp fun out => K out = some r := by
  unfold wq9k at h
  split at h
  · next x0 =>
    intro G w vals hr obj dis
    obtain ⟨v0, l0, rfl, h0, v1, l1, rfl, h1, rfl⟩ := hr
    have e0 : v0 = .string ⟨x0.toArray⟩ := by simpa [RV, RD] using h0
    obtain ⟨vs, e1, hvs⟩ := h1
    obtain rfl : vs = [] := hvs
    subst e0 e1
    have c := Any.strings_IndexFunc_grows Tryz.laysLaysGwn15 64 #[] (enters (P := Tryz.prog) (fn := Tryz.f64) (c := Tryz.f64.body.getD .skip) (by kernel_rfl) (by kernel_rfl) (by kernel_rfl)) oddP ⟨x0.toArray⟩ w (wq1cl w)
    show Does _ _ #[_, _] _ _
    unfold Does
    rw [enters (P := Tryz.prog) (fn := Tryz.f63) (c := Tryz.f63.body.getD .skip) (by kernel_rfl) (by kernel_rfl) (by kernel_rfl)]
    refine Calls.mono c fun e w' hh => ?_
    obtain ⟨rfl, b⟩ := hh
    exact ⟨.ret [.v (.int .i64) (idxOdd x0)] [], h, G, ⟨_, rfl, rfl⟩, wq173 b⟩
  · cases h
end Go.Proofs.YtdfhgimidmfgfaaGreatDoor.Pvm
noncomputable section
namespace Go.Proofs.YtdfhgimidmfgfaaGreatDoor.Pvm
open Go Go.Proofs
def wqjv : List LS := [.any, .any]
def wq3z {R : Type} (K : ((List UInt8) → Option R)) : Out → Option R
  | .ret [.v .str y0] [] => K y0
  | _ => none
def wq81 : RetSpec := ⟨[.any], [], []⟩
def wq82 (k : Nat) : Ctx := ⟨tyT, [(1001, ⟨[(0, .any), (1, .any)], []⟩)], .nil, [], [], [], @SH⟩
def wq35 (s0 : (List UInt8)) (s1 : Int) : St := ⟨mkT [(0, .v .str s0), (1, .v (.int .u8) s1)], mkH []⟩
def wq5e (k : Nat) {R : Type} (I : Nat → St → Option R) (n : Nat) (s : St) (K : ((List UInt8) → Option R)) : Option R := loopK (wq82 k) k Tryz.f97 wq81 1001 [1, 0, 0] I n s (wq3z K)
def wq5f (k : Nat) {R : Type} (E1001 : ((List UInt8) → Int → Option R)) (s0 : (List UInt8)) (s1 : Int) (K : ((List UInt8) → Option R)) : Option R := (cond ((!((decide ((s0.length : Int) > 0)) == true)) || (inb 0 (s0.length : Int))) (cond (cond (decide ((s0.length : Int) > 0)) (((s0.getD (Int.toNat 0) 0).toNat : Int) == s1) false) (cond (bnd 1 (s0.length : Int) (s0.length : Int)) (E1001 (cut s0 1 (s0.length : Int)) s1) none) (K s0)) none)
theorem wqen (k : Nat) {R : Type} (I : Nat → St → Option R) (s0 : (List UInt8)) (s1 : Int) (K : ((List UInt8) → Option R)) : bodyK (wq82 k) k Tryz.f97 wq81 [1, 0, 0, 0] I (wq35 s0 s1) (wq3z K) = wq5f k (fun s0 s1 => I 1001 (wq35 s0 s1)) s0 s1 K := by kernel_rfl
def wq8q (k : Nat) {R : Type} (E1001 : ((List UInt8) → Int → Option R)) (x0 : (List UInt8)) (x1 : Int) (K : ((List UInt8) → Option R)) : Option R := (E1001 x0 x1)
def wq2e (k : Nat) {R : Type}  : Nat → (List UInt8) → Int → ((List UInt8) → Option R) → Option R
  | 0, _, _, _ => none
  | n + 1, s0, s1, K => wq5f k (fun s0 s1 => wq2e k  n s0 s1 K) s0 s1 K
theorem wqeo (k : Nat) {R : Type} (I : Nat → St → Option R) (K : ((List UInt8) → Option R)) (n : Nat) : ∀ (s0 : (List UInt8)) (s1 : Int), wq5e k I n (wq35 s0 s1) K = wq2e k  n s0 s1 K := by
  induction n with
  | zero => intros; rfl
  | succ n ih =>
    intro s0 s1
    refine (?_ : _ = _).trans ((wqen k (upI 1001 (fun s => wq5e k I n s K) I) s0 s1 K).trans ?_)
    · rfl
    · simp only [wq1o, ih] <;> rfl
def wq5s (k : Nat) {R : Type} (x0 : (List UInt8)) (x1 : Int) (K : ((List UInt8) → Option R)) : Option R := wq8q k (fun s0 s1 => wq2e k k s0 s1 K) x0 x1 K
theorem wqiz (k : Nat) {R : Type} (x0 : (List UInt8)) (x1 : Int) (K : ((List UInt8) → Option R)) : fnW (wq82 k) k Tryz.f97 wq81 [.v .str x0, .v (.int .u8) x1] [] (wq3z K) = wq5s k x0 x1 K := by
  refine Eq.trans (b := wq8q k (fun s0 s1 => wq5e k (fun _ _ => none) k (wq35 s0 s1) K) x0 x1 K) (by kernel_rfl) ?_
  simp only [wqeo] <;> rfl
def wq4l (k : Nat) {R : Type} : List PV → List (Nm × HObj) → (Out → Option R) → Option R
  | [.v .str x0, .v (.int .u8) x1], [], K => wq5s k x0 x1 (fun y0 => K (.ret [.v .str y0] []))
  | _, _, _ => none
theorem wqli (k : Nat) : DOK Tryz.prog 97 (wq4l k) := by
  intro ps hp R K r h
  have h : wq4l k ps hp K = some r := h
  unfold wq4l at h
  split at h
  · rw [← wqiz] at h
    exact fnW_ok ⟨tyT_ok, CTab.nil_ok, fun _ _ => rfl⟩ mixed (by kernel_rfl) (by kernel_rfl) h fun o ho => by unfold wq3z at ho; split at ho <;> first | exact ho | cases ho
  · cases h
end Go.Proofs.YtdfhgimidmfgfaaGreatDoor.Pvm
end


noncomputable section
namespace Go.Proofs.YtdfhgimidmfgfaaGreatDoor.Pvm
open Go Go.Proofs
def wqot : List LS := [.any, .any]
def wqf8 {R : Type} (K : ((List UInt8) → Option R)) : Out → Option R
  | .ret [.v .str y0] [] => K y0
  | _ => none
def wqqt : RetSpec := ⟨[.any], [], []⟩
def wqqu (k : Nat) : Ctx := ⟨tyT, [], (.add 97 wqjv (wq4l k) .nil), [], [], [], @SH⟩
def wqj0 (k : Nat) {R : Type}  (x0 : (List UInt8)) (x1 : UInt8) (K : ((List UInt8) → Option R)) : Option R := (cond (cond (x0 == []) true ([x1] == [])) (K x0) (cond (cond ((([x1]).length : Int) == 1) (decide (((([x1]).getD (Int.toNat 0) 0).toNat : Int) < 128)) false) (wq5s k x0 ((([x1]).getD (Int.toNat 0) 0).toNat : Int) (fun y5 => (K y5))) none))
def wq6g (k : Nat) {R : Type} (x0 : (List UInt8)) (x1 : UInt8) (K : ((List UInt8) → Option R)) : Option R := wqj0 k  x0 x1 K
theorem wqn5 (k : Nat) {R : Type} (x0 : (List UInt8)) (x1 : UInt8) (K : ((List UInt8) → Option R)) : fnW (wqqu k) k Tryz.f65 wqqt [.v .str x0, .v .str [x1]] [] (wqf8 K) = wq6g k x0 x1 K := by
  kernel_rfl
def wq7a (k : Nat) {R : Type} : List PV → List (Nm × HObj) → (Out → Option R) → Option R
  | [.v .str x0, .v .str [x1]], [], K => wq6g k x0 x1 (fun y0 => K (.ret [.v .str y0] []))
  | _, _, _ => none
theorem wqss (k : Nat) : DOK Tryz.prog 65 (wq7a k) := by
  intro ps hp R K r h
  have h : wq7a k ps hp K = some r := h
  unfold wq7a at h
  split at h
  · rw [← wqn5] at h
    exact fnW_ok ⟨tyT_ok, (wqm (wqli k) CTab.nil_ok), fun _ _ => rfl⟩ mixed (by kernel_rfl) (by kernel_rfl) h fun o ho => by unfold wqf8 at ho; split at ho <;> first | exact ho | cases ho
  · cases h
end Go.Proofs.YtdfhgimidmfgfaaGreatDoor.Pvm
end


noncomputable section
namespace Go.Proofs.YtdfhgimidmfgfaaGreatDoor.Pvm
open Go Go.Proofs
def wq10f : List LS := [.sl (.int .u8)]
def wqdd {R : Type} (K : ((List dT109) → Int → Int → Option R)) : Out → Option R
  | .ret [.v (.sl (.pr (.int .i64) (.pr (.int .i64) .str))) y0, .agg [.v (.int .i64) y1, .v (.int .i64) y2]] [] => K y0 y1 y2
  | _ => none
def wqlj : RetSpec := ⟨[.sl (.pr (.int .i64) (.pr (.int .i64) .str)), .ag [.any, .any]], [], []⟩
def wqlk (k : Nat) : Ctx := ⟨tyT, [(1005, ⟨[(3, .obj 13 [.any, .any]), (4, .own 100004 110 kdT109), (17, .sl (.sl (.int .u8))), (18, .any), (19, .any)], []⟩)], (.add 62 wqxu (wqda k) (.add 63 wqn4 (wq9k k) (.add 64 wq15b (wqju k) (.add 65 wqot (wq7a k) (.add 66 wqqr (wqb5 k) .nil))))), [], [], [], @SH⟩
def wq93 (s0 s1 : Int) (s2 : (List dT109)) (s3 : (List (List Int))) (s4 s5 : Int) : St := ⟨mkT [(3, .ptr 13 0), (4, .row 100004), (17, .v (.sl (.sl (.int .u8))) s3), (18, .v kI s4), (19, .v kI s5)], mkH [(13, .var 39 [.v kI s0, .v kI s1]), (100004, .row 110 kdT109 s2)]⟩
def wqep (k : Nat) {R : Type} (I : Nat → St → Option R) (n : Nat) (s : St) (K : ((List dT109) → Int → Int → Option R)) : Option R := loopK (wqlk k) k Tryz.f38 wqlj 1005 [1, 1, 1, 0, 1, 0] I n s (wqdd K)
def wqeq (k : Nat) {R : Type} (E1005 : (Int → Int → (List dT109) → (List (List Int)) → Int → Int → Option R)) (s0 s1 : Int) (s2 : (List dT109)) (s3 : (List (List Int))) (s4 s5 : Int) (K : ((List dT109) → Int → Int → Option R)) : Option R := (cond (decide (s5 < s4)) (cond (inb s5 (s3.length : Int)) (wqb6 k (wq1v (s3.getD s5.toNat (Kd.zero (@Kd.sl (@Kd.int Go.IntKind.u8))))) (fun y10 => (cond (decide (y10 ≥ 0)) (K [] 2 (@Go.IntKind.wrap Go.IntKind.i64 (s5 + 1))) (wq6g k (wq1v (s3.getD s5.toNat (Kd.zero (@Kd.sl (@Kd.int Go.IntKind.u8))))) 32 (fun y11 => (wqcf k y11 (fun y12 y13 => (cond (!y13) (K [] 3 (@Go.IntKind.wrap Go.IntKind.i64 (s5 + 1))) (cond (!(y12 == [])) (cond (fits s2.length ([((@Go.IntKind.wrap Go.IntKind.i64 (s5 + 1)), ((@Go.IntKind.wrap Go.IntKind.i64 (((wq1v (s3.getD s5.toNat (Kd.zero (@Kd.sl (@Kd.int Go.IntKind.u8))))).length : Int) - (y11.length : Int))), y12))]).length 32) (E1005 s0 s1 (s2 ++ [((@Go.IntKind.wrap Go.IntKind.i64 (s5 + 1)), ((@Go.IntKind.wrap Go.IntKind.i64 (((wq1v (s3.getD s5.toNat (Kd.zero (@Kd.sl (@Kd.int Go.IntKind.u8))))).length : Int) - (y11.length : Int))), y12))]) s3 s4 (@Go.IntKind.wrap Go.IntKind.i64 (s5 + 1))) none) (E1005 s0 s1 s2 s3 s4 (@Go.IntKind.wrap Go.IntKind.i64 (s5 + 1)))))))))))) none) (K s2 0 0))
theorem wqou (k : Nat) {R : Type} (I : Nat → St → Option R) (s0 s1 : Int) (s2 : (List dT109)) (s3 : (List (List Int))) (s4 s5 : Int) (K : ((List dT109) → Int → Int → Option R)) : bodyK (wqlk k) k Tryz.f38 wqlj [1, 1, 1, 0, 1, 0, 0] I (wq93 s0 s1 s2 s3 s4 s5) (wqdd K) = wqeq k (fun s0 s1 s2 s3 s4 s5 => I 1005 (wq93 s0 s1 s2 s3 s4 s5)) s0 s1 s2 s3 s4 s5 K := by kernel_rfl
def wqov (k : Nat) {R : Type} (E1005 : (Int → Int → (List dT109) → (List (List Int)) → Int → Int → Option R)) (x0 : (List Int)) (K : ((List dT109) → Int → Int → Option R)) : Option R := (cond (decide ((x0.length : Int) > 16384)) (K [] 1 1) (wqdx k x0 10 (fun y5 => (E1005 0 0 [] y5 (y5.length : Int) 0))))
def wq7s (k : Nat) {R : Type}  : Nat → Int → Int → (List dT109) → (List (List Int)) → Int → Int → ((List dT109) → Int → Int → Option R) → Option R
  | 0, _, _, _, _, _, _, _ => none
  | n + 1, s0, s1, s2, s3, s4, s5, K => wqeq k (fun s0 s1 s2 s3 s4 s5 => wq7s k  n s0 s1 s2 s3 s4 s5 K) s0 s1 s2 s3 s4 s5 K
theorem wqow (k : Nat) {R : Type} (I : Nat → St → Option R) (K : ((List dT109) → Int → Int → Option R)) (n : Nat) : ∀ (s0 s1 : Int) (s2 : (List dT109)) (s3 : (List (List Int))) (s4 s5 : Int), wqep k I n (wq93 s0 s1 s2 s3 s4 s5) K = wq7s k  n s0 s1 s2 s3 s4 s5 K := by
  induction n with
  | zero => intros; rfl
  | succ n ih =>
    intro s0 s1 s2 s3 s4 s5
    refine (?_ : _ = _).trans ((wqou k (upI 1005 (fun s => wqep k I n s K) I) s0 s1 s2 s3 s4 s5 K).trans ?_)
    · rfl
    · simp only [wq1o, ih] <;> rfl
def wqgt (k : Nat) {R : Type} (x0 : (List Int)) (K : ((List dT109) → Int → Int → Option R)) : Option R := wqov k (fun s0 s1 s2 s3 s4 s5 => wq7s k k s0 s1 s2 s3 s4 s5 K) x0 K
theorem wqxx (k : Nat) {R : Type} (x0 : (List Int)) (K : ((List dT109) → Int → Int → Option R)) : fnW (wqlk k) k Tryz.f38 wqlj [.v (.sl (.int .u8)) x0] [] (wqdd K) = wqgt k x0 K := by
  refine Eq.trans (b := wqov k (fun s0 s1 s2 s3 s4 s5 => wqep k (fun _ _ => none) k (wq93 s0 s1 s2 s3 s4 s5) K) x0 K) (by kernel_rfl) ?_
  simp only [wqow] <;> rfl
def wqfk (k : Nat) {R : Type} : List PV → List (Nm × HObj) → (Out → Option R) → Option R
  | [.v (.sl (.int .u8)) x0], [], K => wqgt k x0 (fun y0 y1 y2 => K (.ret [.v (.sl (.pr (.int .i64) (.pr (.int .i64) .str))) y0, .agg [.v (.int .i64) y1, .v (.int .i64) y2]] []))
  | _, _, _ => none
theorem wq15c (k : Nat) : DOK Tryz.prog 38 (wqfk k) := by
  intro ps hp R K r h
  have h : wqfk k ps hp K = some r := h
  unfold wqfk at h
  split at h
  · rw [← wqxx] at h
    exact fnW_ok ⟨tyT_ok, (wqm (wq12v k) (CTab.add_ok (fun h => wqqs k h) (wqm (wq12z k) (wqm (wqss k) (wqm (wqwh k) CTab.nil_ok))))), fun _ _ => rfl⟩ mixed (by kernel_rfl) (by kernel_rfl) h fun o ho => by unfold wqdd at ho; split at ho <;> first | exact ho | cases ho
  · cases h
end Go.Proofs.YtdfhgimidmfgfaaGreatDoor.Pvm
end


noncomputable section
namespace Go.Proofs.YtdfhgimidmfgfaaGreatDoor.Pvm
open Go Go.Proofs
def wq130 : List LS := [.sl (.int .u8)]
def wqqv {R : Type} (K : ((List dT48) → Int → Int → Option R)) : Out → Option R
  | .ret [.agg [.v (.sl (.pr (.int .i64) (.pr (.int .i64) (.pr .str (.pr .bool (.pr (.sl .str) (.sl (.int .i64)))))))) y0], .agg [.v (.int .i64) y1, .v (.int .i64) y2]] [] => K y0 y1 y2
  | _ => none
def wq15d : RetSpec := ⟨[.ag [.sl (.pr (.int .i64) (.pr (.int .i64) (.pr .str (.pr .bool (.pr (.sl .str) (.sl (.int .i64)))))))], .ag [.any, .any]], [], []⟩
def wq15e (k : Nat) : Ctx := ⟨tyT, [], (.add 38 wq10f (wqfk k) (.add 39 wq18j (wqms k) (.add 40 wq1ah (wqvs k) .nil))), [], [], [(3, (.of [(0, 1), (1, 2), (2, 0), (3, 0)] .done)), (6, (.of [(0, 1), (1, 2), (2, 0), (3, 0)] .done))], @SH⟩
def wqz2 (k : Nat) {R : Type}  (x0 : (List Int)) (K : ((List dT48) → Int → Int → Option R)) : Option R := (wqgt k x0 (fun y4 y5 y6 => (cond (y5 != 0) (K [] y5 y6) (wqqn k y4 (fun y7 y8 y9 => (cond (y8 != 0) (K [] y8 y9) (wqvr k y7 (fun y10 y11 y12 => (K y10 y11 y12)))))))))
def wqcg (k : Nat) {R : Type} (x0 : (List Int)) (K : ((List dT48) → Int → Int → Option R)) : Option R := wqz2 k  x0 K
theorem wq10g (k : Nat) {R : Type} (x0 : (List Int)) (K : ((List dT48) → Int → Int → Option R)) : fnW (wq15e k) k Tryz.f15 wq15d [.v (.sl (.int .u8)) x0] [] (wqqv K) = wqcg k x0 K := by
  kernel_rfl
def wqhs (k : Nat) {R : Type} : List PV → List (Nm × HObj) → (Out → Option R) → Option R
  | [.v (.sl (.int .u8)) x0], [], K => wqcg k x0 (fun y0 y1 y2 => K (.ret [.agg [.v (.sl (.pr (.int .i64) (.pr (.int .i64) (.pr .str (.pr .bool (.pr (.sl .str) (.sl (.int .i64)))))))) y0], .agg [.v (.int .i64) y1, .v (.int .i64) y2]] []))
  | _, _, _ => none
theorem wq18m (k : Nat) : DOK Tryz.prog 15 (wqhs k) := by
  intro ps hp R K r h
  have h : wqhs k ps hp K = some r := h
  unfold wqhs at h
  split at h
  · rw [← wq10g] at h
    exact fnW_ok ⟨tyT_ok, (wqm (wq15c k) (wqm (wq1ck k) (CTab.add_ok (fun h => wq1f4 k h) CTab.nil_ok))), fun _ _ => rfl⟩ mixed (by kernel_rfl) (by kernel_rfl) h fun o ho => by unfold wqqv at ho; split at ho <;> first | exact ho | cases ho
  · cases h
end Go.Proofs.YtdfhgimidmfgfaaGreatDoor.Pvm
end


noncomputable section
namespace Go.Proofs.YtdfhgimidmfgfaaGreatDoor.Pvm
open Go Go.Proofs
def wq10h : List LS := [.sl .str]
def wqde {R : Type} (K : (Bool → Option R)) : Out → Option R
  | .ret [.v .bool y0] [] => K y0
  | _ => none
def wqll : RetSpec := ⟨[.any], [], []⟩
def wqlm (k : Nat) : Ctx := ⟨tyT, [(1003, ⟨[(3, .mpo 73 .one .bool), (7, .sl .str), (8, .any), (9, .any)], []⟩)], (.add 123 wqtg (wqdr k) .nil), [], [], [], @SH⟩
def wq94 (s0 : (List (List UInt8 × Bool))) (s1 : (List (List UInt8))) (s2 s3 : Int) : St := ⟨mkT [(3, .mpp 73), (7, .v (.sl .str) s1), (8, .v kI s2), (9, .v kI s3)], mkH [(73, .mp .one .bool s0)]⟩
def wqer (k : Nat) {R : Type} (I : Nat → St → Option R) (n : Nat) (s : St) (K : (Bool → Option R)) : Option R := loopK (wqlm k) k Tryz.f92 wqll 1003 [1, 1, 0, 1, 0] I n s (wqde K)
def wq9x (k : Nat) {R : Type} (E1003 : ((List (List UInt8 × Bool)) → (List (List UInt8)) → Int → Int → Option R)) (s0 : (List (List UInt8 × Bool))) (s1 : (List (List UInt8))) (s2 s3 : Int) (K : (Bool → Option R)) : Option R := (cond (decide (s3 < s2)) (cond (inb s3 (s1.length : Int)) (wqg0 k (s1.getD s3.toNat Kd.str.zero) (fun y8 => (cond ((cond (!y8) true (decide (((s1.getD s3.toNat Kd.str.zero).length : Int) > 64))) == false) (cond (mget Kd.bool (s1.getD s3.toNat Kd.str.zero) s0) (K false) (E1003 (mset Kd.bool (s1.getD s3.toNat Kd.str.zero) true s0) s1 s2 (@Go.IntKind.wrap Go.IntKind.i64 (s3 + 1)))) (K false)))) none) (K true))
theorem wqox (k : Nat) {R : Type} (I : Nat → St → Option R) (s0 : (List (List UInt8 × Bool))) (s1 : (List (List UInt8))) (s2 s3 : Int) (K : (Bool → Option R)) : bodyK (wqlm k) k Tryz.f92 wqll [1, 1, 0, 1, 0, 0] I (wq94 s0 s1 s2 s3) (wqde K) = wq9x k (fun s0 s1 s2 s3 => I 1003 (wq94 s0 s1 s2 s3)) s0 s1 s2 s3 K := by kernel_rfl
def wqoy (k : Nat) {R : Type} (E1003 : ((List (List UInt8 × Bool)) → (List (List UInt8)) → Int → Int → Option R)) (x0 : (List (List UInt8))) (K : (Bool → Option R)) : Option R := (E1003 [] x0 (x0.length : Int) 0)
def wq5i (k : Nat) {R : Type}  : Nat → (List (List UInt8 × Bool)) → (List (List UInt8)) → Int → Int → (Bool → Option R) → Option R
  | 0, _, _, _, _, _ => none
  | n + 1, s0, s1, s2, s3, K => wq9x k (fun s0 s1 s2 s3 => wq5i k  n s0 s1 s2 s3 K) s0 s1 s2 s3 K
theorem wqoz (k : Nat) {R : Type} (I : Nat → St → Option R) (K : (Bool → Option R)) (n : Nat) : ∀ (s0 : (List (List UInt8 × Bool))) (s1 : (List (List UInt8))) (s2 s3 : Int), wqer k I n (wq94 s0 s1 s2 s3) K = wq5i k  n s0 s1 s2 s3 K := by
  induction n with
  | zero => intros; rfl
  | succ n ih =>
    intro s0 s1 s2 s3
    refine (?_ : _ = _).trans ((wqox k (upI 1003 (fun s => wqer k I n s K) I) s0 s1 s2 s3 K).trans ?_)
    · rfl
    · simp only [wq1o, ih] <;> rfl
def wqgu (k : Nat) {R : Type} (x0 : (List (List UInt8))) (K : (Bool → Option R)) : Option R := wqoy k (fun s0 s1 s2 s3 => wq5i k k s0 s1 s2 s3 K) x0 K
theorem wqxy (k : Nat) {R : Type} (x0 : (List (List UInt8))) (K : (Bool → Option R)) : fnW (wqlm k) k Tryz.f92 wqll [.v (.sl .str) x0] [] (wqde K) = wqgu k x0 K := by
  refine Eq.trans (b := wqoy k (fun s0 s1 s2 s3 => wqer k (fun _ _ => none) k (wq94 s0 s1 s2 s3) K) x0 K) (by kernel_rfl) ?_
  simp only [wqoz] <;> rfl
def wqfl (k : Nat) {R : Type} : List PV → List (Nm × HObj) → (Out → Option R) → Option R
  | [.v (.sl .str) x0], [], K => wqgu k x0 (fun y0 => K (.ret [.v .bool y0] []))
  | _, _, _ => none
theorem wq15f (k : Nat) : DOK Tryz.prog 92 (wqfl k) := by
  intro ps hp R K r h
  have h : wqfl k ps hp K = some r := h
  unfold wqfl at h
  split at h
  · rw [← wqxy] at h
    exact fnW_ok ⟨tyT_ok, (wqm (wqyw k) CTab.nil_ok), fun _ _ => rfl⟩ mixed (by kernel_rfl) (by kernel_rfl) h fun o ho => by unfold wqde at ho; split at ho <;> first | exact ho | cases ho
  · cases h
end Go.Proofs.YtdfhgimidmfgfaaGreatDoor.Pvm
end


noncomputable section
namespace Go.Proofs.YtdfhgimidmfgfaaGreatDoor.Pvm
open Go Go.Proofs
def wq10i : List LS := [.any]
def wqdf {R : Type} (K : (Bool → Option R)) : Out → Option R
  | .ret [.v .bool y0] [] => K y0
  | _ => none
def wqln : RetSpec := ⟨[.any], [], []⟩
def wqlo (k : Nat) : Ctx := ⟨tyT, [(1002, ⟨[(0, .any), (9, .any), (10, .any)], []⟩)], (.add 66 wqqr (wqb5 k) (.add 67 wqz1 (wqmr k) .nil)), [], [], [], @SH⟩
def wq95 (s0 : (List UInt8)) (s1 s2 : Int) : St := ⟨mkT [(0, .v .str s0), (9, .v kI s1), (10, .v kI s2)], mkH []⟩
def wqes (k : Nat) {R : Type} (I : Nat → St → Option R) (n : Nat) (s : St) (K : (Bool → Option R)) : Option R := loopK (wqlo k) k Tryz.f91 wqln 1002 [1, 0, 1, 0] I n s (wqdf K)
def wq9y (k : Nat) {R : Type} (E1002 : ((List UInt8) → Int → Int → Option R)) (s0 : (List UInt8)) (s1 s2 : Int) (K : (Bool → Option R)) : Option R := (cond (decide (s2 < s1)) (cond (inb s2 (s0.length : Int)) (cond ((!((decide (((s0.getD s2.toNat 0).toNat : Int) < 32)) == false)) || (inb s2 (s0.length : Int))) (cond (cond (decide (((s0.getD s2.toNat 0).toNat : Int) < 32)) true (((s0.getD s2.toNat 0).toNat : Int) == 127)) (K false) (E1002 s0 s1 (@Go.IntKind.wrap Go.IntKind.i64 (s2 + 1)))) none) none) (wqcf k s0 (fun y7 y8 => (cond (cond (cond (s0 == []) true (!y8)) true (!(y7 == s0))) (K false) (wqmq k 0 0 s0 (fun y9 y10 y11 => (cond ((!((cond (y10 == 0) ((y9.length : Int) == 1) false) == true)) || (inb 0 (y9.length : Int))) (cond ((!((cond (cond (y10 == 0) ((y9.length : Int) == 1) false) ((y9.getD (Int.toNat 0) (Kd.zero (@Kd.pr kI (@Kd.pr kI (@Kd.pr kI (@Kd.pr Kd.str Kd.bool)))))).1 == 3) false) == true)) || (inb 0 (y9.length : Int))) (cond ((!((cond (cond (cond (y10 == 0) ((y9.length : Int) == 1) false) ((y9.getD (Int.toNat 0) (Kd.zero (@Kd.pr kI (@Kd.pr kI (@Kd.pr kI (@Kd.pr Kd.str Kd.bool)))))).1 == 3) false) (((((y9.getD (Int.toNat 0) (Kd.zero (@Kd.pr kI (@Kd.pr kI (@Kd.pr kI (@Kd.pr Kd.str Kd.bool)))))).2).2).2).1 == s0) false) == true)) || (inb 0 (y9.length : Int))) (K (cond (cond (cond (cond (y10 == 0) ((y9.length : Int) == 1) false) ((y9.getD (Int.toNat 0) (Kd.zero (@Kd.pr kI (@Kd.pr kI (@Kd.pr kI (@Kd.pr Kd.str Kd.bool)))))).1 == 3) false) (((((y9.getD (Int.toNat 0) (Kd.zero (@Kd.pr kI (@Kd.pr kI (@Kd.pr kI (@Kd.pr Kd.str Kd.bool)))))).2).2).2).1 == s0) false) (!((((y9.getD (Int.toNat 0) (Kd.zero (@Kd.pr kI (@Kd.pr kI (@Kd.pr kI (@Kd.pr Kd.str Kd.bool)))))).2).2).2).2) false)) none) none) none)))))))
theorem wqp0 (k : Nat) {R : Type} (I : Nat → St → Option R) (s0 : (List UInt8)) (s1 s2 : Int) (K : (Bool → Option R)) : bodyK (wqlo k) k Tryz.f91 wqln [1, 0, 1, 0, 0] I (wq95 s0 s1 s2) (wqdf K) = wq9y k (fun s0 s1 s2 => I 1002 (wq95 s0 s1 s2)) s0 s1 s2 K := by kernel_rfl
def wqp1 (k : Nat) {R : Type} (E1002 : ((List UInt8) → Int → Int → Option R)) (x0 : (List UInt8)) (K : (Bool → Option R)) : Option R := (E1002 x0 (x0.length : Int) 0)
def wq5j (k : Nat) {R : Type}  : Nat → (List UInt8) → Int → Int → (Bool → Option R) → Option R
  | 0, _, _, _, _ => none
  | n + 1, s0, s1, s2, K => wq9y k (fun s0 s1 s2 => wq5j k  n s0 s1 s2 K) s0 s1 s2 K
theorem wqp2 (k : Nat) {R : Type} (I : Nat → St → Option R) (K : (Bool → Option R)) (n : Nat) : ∀ (s0 : (List UInt8)) (s1 s2 : Int), wqes k I n (wq95 s0 s1 s2) K = wq5j k  n s0 s1 s2 K := by
  induction n with
  | zero => intros; rfl
  | succ n ih =>
    intro s0 s1 s2
    refine (?_ : _ = _).trans ((wqp0 k (upI 1002 (fun s => wqes k I n s K) I) s0 s1 s2 K).trans ?_)
    · rfl
    · simp only [wq1o, ih] <;> rfl
def wqgv (k : Nat) {R : Type} (x0 : (List UInt8)) (K : (Bool → Option R)) : Option R := wqp1 k (fun s0 s1 s2 => wq5j k k s0 s1 s2 K) x0 K
theorem wqxz (k : Nat) {R : Type} (x0 : (List UInt8)) (K : (Bool → Option R)) : fnW (wqlo k) k Tryz.f91 wqln [.v .str x0] [] (wqdf K) = wqgv k x0 K := by
  refine Eq.trans (b := wqp1 k (fun s0 s1 s2 => wqes k (fun _ _ => none) k (wq95 s0 s1 s2) K) x0 K) (by kernel_rfl) ?_
  simp only [wqp2] <;> rfl
def wqfm (k : Nat) {R : Type} : List PV → List (Nm × HObj) → (Out → Option R) → Option R
  | [.v .str x0], [], K => wqgv k x0 (fun y0 => K (.ret [.v .bool y0] []))
  | _, _, _ => none
theorem wq15g (k : Nat) : DOK Tryz.prog 91 (wqfm k) := by
  intro ps hp R K r h
  have h : wqfm k ps hp K = some r := h
  unfold wqfm at h
  split at h
  · rw [← wqxz] at h
    exact fnW_ok ⟨tyT_ok, (wqm (wqwh k) (CTab.add_ok (fun h => wq178 k h) CTab.nil_ok)), fun _ _ => rfl⟩ mixed (by kernel_rfl) (by kernel_rfl) h fun o ho => by unfold wqdf at ho; split at ho <;> first | exact ho | cases ho
  · cases h
end Go.Proofs.YtdfhgimidmfgfaaGreatDoor.Pvm
end


noncomputable section
namespace Go.Proofs.YtdfhgimidmfgfaaGreatDoor.Pvm
open Go Go.Proofs
def wq15h : List LS := [.ag [.any, .any, .any, .any, .sl .str, .sl kI]]
def wqtl {R : Type} (K : (Bool → Option R)) : Out → Option R
  | .ret [.v .bool y0] [] => K y0
  | _ => none
def wq18n : RetSpec := ⟨[.any], [], []⟩
def wq18o (k : Nat) : Ctx := ⟨tyT, [], (.add 91 wq10i (wqfm k) (.add 92 wq10h (wqfl k) .nil)), [], [], [], @SH⟩
def wq131 (k : Nat) {R : Type}  (x0 x1 : Int) (x2 : (List UInt8)) (x3 : Bool) (x4 : (List (List UInt8))) (x5 : (List Int)) (K : (Bool → Option R)) : Option R := (cond (x0 == 1) (cond ((cond (cond ((x4.length : Int) == 0) ((x5.length : Int) == 0) false) (decide ((x2.length : Int) ≤ 200)) false) == true) (cond (x3 == false) (wqgv k x2 (fun y9 => (K y9))) (K true)) (K false)) (cond (x0 == 2) (K (cond (cond (cond (x2 == []) (!x3) false) ((x4.length : Int) == 0) false) (decide ((x5.length : Int) > 0)) false)) (cond (x0 == 3) (cond ((cond (cond (cond (x2 == []) (!x3) false) (decide ((x5.length : Int) > 0)) false) ((x4.length : Int) == (x5.length : Int)) false) == true) (wqgu k x4 (fun y9 => (K y9))) (K false)) (K false))))
def wqlp (k : Nat) {R : Type} (x0 x1 : Int) (x2 : (List UInt8)) (x3 : Bool) (x4 : (List (List UInt8))) (x5 : (List Int)) (K : (Bool → Option R)) : Option R := wq131 k  x0 x1 x2 x3 x4 x5 K
theorem wq132 (k : Nat) {R : Type} (x0 x1 : Int) (x2 : (List UInt8)) (x3 : Bool) (x4 : (List (List UInt8))) (x5 : (List Int)) (K : (Bool → Option R)) : fnW (wq18o k) k Tryz.f60 wq18n [.agg [.v kI x0, .v kI x1, .v .str x2, .v .bool x3, .v (.sl .str) x4, .v (.sl kI) x5]] [] (wqtl K) = wqlp k x0 x1 x2 x3 x4 x5 K := by
  kernel_rfl
def wqjw (k : Nat) {R : Type} : List PV → List (Nm × HObj) → (Out → Option R) → Option R
  | [.agg [.v (.int .i64) x0, .v (.int .i64) x1, .v .str x2, .v .bool x3, .v (.sl .str) x4, .v (.sl (.int .i64)) x5]], [], K => wqlp k x0 x1 x2 x3 x4 x5 (fun y0 => K (.ret [.v .bool y0] []))
  | _, _, _ => none
theorem wq1ar (k : Nat) : DOK Tryz.prog 60 (wqjw k) := by
  intro ps hp R K r h
  have h : wqjw k ps hp K = some r := h
  unfold wqjw at h
  split at h
  · rw [← wq132] at h
    exact fnW_ok ⟨tyT_ok, (wqm (wq15g k) (wqm (wq15f k) CTab.nil_ok)), fun _ _ => rfl⟩ mixed (by kernel_rfl) (by kernel_rfl) h fun o ho => by unfold wqtl at ho; split at ho <;> first | exact ho | cases ho
  · cases h
end Go.Proofs.YtdfhgimidmfgfaaGreatDoor.Pvm
end


noncomputable section
namespace Go.Proofs.YtdfhgimidmfgfaaGreatDoor.Pvm
open Go Go.Proofs
def wqtm : List LS := [.ag [.sl kdT48], .any, .any]
def wqqw (wq2c : (R : Type) → (List dT48) → Int → Int → (Int → Option R) → Option R) {R : Type} : List PV → List (Nm × HObj) → (Out → Option R) → Option R
  | [.agg [.v (.sl (.pr (.int .i64) (.pr (.int .i64) (.pr .str (.pr .bool (.pr (.sl .str) (.sl (.int .i64)))))))) x0], .v (.int .i64) x1, .v (.int .i64) x2], [], K => wq2c R x0 x1 x2 (fun y0 => K (.ret [.v (.int .i64) y0] []))
  | _, _, _ => none
def wqfn {R : Type} (K : (Int → Option R)) : Out → Option R
  | .ret [.v (.int .i64) y0] [] => K y0
  | _ => none
def wqp3 : RetSpec := ⟨[.any], [], []⟩
def wqp4 (k : Nat) (wq2c : (R : Type) → (List dT48) → Int → Int → (Int → Option R) → Option R) : Ctx := ⟨tyT, [(1005, ⟨[(2, .any), (3, .obj 13 [.sl kdT48]), (7, .any), (35, .sl kI), (36, .any), (37, .any)], []⟩)], (.add 32 wqtm (wqqw wq2c) (.add 60 wq15h (wqjw k) .nil)), [], [], [], @SH⟩
def wq9z (s0 : Int) (s1 : (List dT48)) (s2 : Int) (s3 : (List Int)) (s4 s5 : Int) : St := ⟨mkT [(2, .v kI s0), (3, .ptr 13 0), (7, .v kI s2), (35, .v (.sl kI) s3), (36, .v kI s4), (37, .v kI s5)], mkH [(13, .var 26 [.v kdT25 s1])]⟩
def wqgw (k : Nat) (wq2c : (R : Type) → (List dT48) → Int → Int → (Int → Option R) → Option R) {R : Type} (I : Nat → St → Option R) (n : Nat) (s : St) (K : (Int → Option R)) : Option R := loopK (wqp4 k wq2c) k Tryz.f32 wqp3 1005 [1, 1, 1, 0, 1, 0] I n s (wqfn K)
def wqb7 (k : Nat) (wq2c : (R : Type) → (List dT48) → Int → Int → (Int → Option R) → Option R) {R : Type} (E1005 : (Int → (List dT48) → Int → (List Int) → Int → Int → Option R)) (s0 : Int) (s1 : (List dT48)) (s2 : Int) (s3 : (List Int)) (s4 s5 : Int) (K : (Int → Option R)) : Option R := (cond (decide (s5 < s4)) (cond (inb s5 (s3.length : Int)) (cond ((s3.getD s5.toNat kI.zero) != s2) (K (@Neg.neg Int @Int.instNegInt (1 : Int))) (wq2c R s1 (s3.getD s5.toNat kI.zero) (@Go.IntKind.wrap Go.IntKind.i64 (s0 + 1)) (fun y10 => (cond (decide (y10 < 0)) (K (@Neg.neg Int @Int.instNegInt (1 : Int))) (E1005 s0 s1 y10 s3 s4 (@Go.IntKind.wrap Go.IntKind.i64 (s5 + 1))))))) none) (K s2))
theorem wqqx (k : Nat) (wq2c : (R : Type) → (List dT48) → Int → Int → (Int → Option R) → Option R) {R : Type} (I : Nat → St → Option R) (s0 : Int) (s1 : (List dT48)) (s2 : Int) (s3 : (List Int)) (s4 s5 : Int) (K : (Int → Option R)) : bodyK (wqp4 k wq2c) k Tryz.f32 wqp3 [1, 1, 1, 0, 1, 0, 0] I (wq9z s0 s1 s2 s3 s4 s5) (wqfn K) = wqb7 k wq2c (fun s0 s1 s2 s3 s4 s5 => I 1005 (wq9z s0 s1 s2 s3 s4 s5)) s0 s1 s2 s3 s4 s5 K := by kernel_rfl
def wqmt (k : Nat) (wq2c : (R : Type) → (List dT48) → Int → Int → (Int → Option R) → Option R) {R : Type} (E1005 : (Int → (List dT48) → Int → (List Int) → Int → Int → Option R)) (x0 : (List dT48)) (x1 x2 : Int) (K : (Int → Option R)) : Option R := (cond ((!((cond (decide (x1 ≥ (x0.length : Int))) true (decide (x2 > 24))) == false)) || (inb x1 (x0.length : Int))) (cond ((cond (decide (x1 ≥ (x0.length : Int))) true (decide (x2 > 24))) == false) (wqlp k (x0.getD x1.toNat (Kd.zero (@Kd.pr kI (@Kd.pr kI (@Kd.pr Kd.str (@Kd.pr Kd.bool (@Kd.pr (@Kd.sl Kd.str) (@Kd.sl kI)))))))).1 ((x0.getD x1.toNat (Kd.zero (@Kd.pr kI (@Kd.pr kI (@Kd.pr Kd.str (@Kd.pr Kd.bool (@Kd.pr (@Kd.sl Kd.str) (@Kd.sl kI)))))))).2).1 (((x0.getD x1.toNat (Kd.zero (@Kd.pr kI (@Kd.pr kI (@Kd.pr Kd.str (@Kd.pr Kd.bool (@Kd.pr (@Kd.sl Kd.str) (@Kd.sl kI)))))))).2).2).1 ((((x0.getD x1.toNat (Kd.zero (@Kd.pr kI (@Kd.pr kI (@Kd.pr Kd.str (@Kd.pr Kd.bool (@Kd.pr (@Kd.sl Kd.str) (@Kd.sl kI)))))))).2).2).2).1 (((((x0.getD x1.toNat (Kd.zero (@Kd.pr kI (@Kd.pr kI (@Kd.pr Kd.str (@Kd.pr Kd.bool (@Kd.pr (@Kd.sl Kd.str) (@Kd.sl kI)))))))).2).2).2).2).1 (((((x0.getD x1.toNat (Kd.zero (@Kd.pr kI (@Kd.pr kI (@Kd.pr Kd.str (@Kd.pr Kd.bool (@Kd.pr (@Kd.sl Kd.str) (@Kd.sl kI)))))))).2).2).2).2).2 (fun y7 => (cond (!y7) (K (@Neg.neg Int @Int.instNegInt (1 : Int))) (cond (inb x1 (x0.length : Int)) (E1005 x2 x0 (@Go.IntKind.wrap Go.IntKind.i64 (x1 + 1)) (((((x0.getD x1.toNat (Kd.zero (@Kd.pr kI (@Kd.pr kI (@Kd.pr Kd.str (@Kd.pr Kd.bool (@Kd.pr (@Kd.sl Kd.str) (@Kd.sl kI)))))))).2).2).2).2).2 (((((((x0.getD x1.toNat (Kd.zero (@Kd.pr kI (@Kd.pr kI (@Kd.pr Kd.str (@Kd.pr Kd.bool (@Kd.pr (@Kd.sl Kd.str) (@Kd.sl kI)))))))).2).2).2).2).2).length : Int) 0) none)))) (K (@Neg.neg Int @Int.instNegInt (1 : Int)))) none)
def wq6h (k : Nat) (wq2c : (R : Type) → (List dT48) → Int → Int → (Int → Option R) → Option R) {R : Type}  : Nat → Int → (List dT48) → Int → (List Int) → Int → Int → (Int → Option R) → Option R
  | 0, _, _, _, _, _, _, _ => none
  | n + 1, s0, s1, s2, s3, s4, s5, K => wqb7 k wq2c (fun s0 s1 s2 s3 s4 s5 => wq6h k wq2c  n s0 s1 s2 s3 s4 s5 K) s0 s1 s2 s3 s4 s5 K
theorem wqqy (k : Nat) (wq2c : (R : Type) → (List dT48) → Int → Int → (Int → Option R) → Option R) {R : Type} (I : Nat → St → Option R) (K : (Int → Option R)) (n : Nat) : ∀ (s0 : Int) (s1 : (List dT48)) (s2 : Int) (s3 : (List Int)) (s4 s5 : Int), wqgw k wq2c I n (wq9z s0 s1 s2 s3 s4 s5) K = wq6h k wq2c  n s0 s1 s2 s3 s4 s5 K := by
  induction n with
  | zero => intros; rfl
  | succ n ih =>
    intro s0 s1 s2 s3 s4 s5
    refine (?_ : _ = _).trans ((wqqx k wq2c (upI 1005 (fun s => wqgw k wq2c I n s K) I) s0 s1 s2 s3 s4 s5 K).trans ?_)
    · rfl
    · simp only [wq1o, ih] <;> rfl
def wq49 : Nat → (R : Type) → (List dT48) → Int → Int → (Int → Option R) → Option R
  | 0, _, _, _, _, _ => none
  | k + 1, R, x0, x1, x2, K => wqmt k (wq49 k) (fun s0 s1 s2 s3 s4 s5 => wq6h k (wq49 k) k s0 s1 s2 s3 s4 s5 K) x0 x1 x2 K
def wqj1 (k : Nat) {R : Type} (x0 : (List dT48)) (x1 x2 : Int) (K : (Int → Option R)) : Option R := wq49 k R x0 x1 x2 K
theorem wq10j (k : Nat) {R : Type} (x0 : (List dT48)) (x1 x2 : Int) (K : (Int → Option R)) : fnW (wqp4 k (wq49 k)) k Tryz.f32 wqp3 [.agg [.v kdT25 x0], .v kI x1, .v kI x2] [] (wqfn K) = wq49 (k + 1) R x0 x1 x2 K := by
  rw [wq49]
  refine Eq.trans (b := wqmt k (wq49 k) (fun s0 s1 s2 s3 s4 s5 => wqgw k (wq49 k) (fun _ _ => none) k (wq9z s0 s1 s2 s3 s4 s5) K) x0 x1 x2 K) (by kernel_rfl) ?_
  simp only [wqqy] <;> rfl
def wq6x (k : Nat) {R : Type} : List PV → List (Nm × HObj) → (Out → Option R) → Option R
  | [.agg [.v (.sl (.pr (.int .i64) (.pr (.int .i64) (.pr .str (.pr .bool (.pr (.sl .str) (.sl (.int .i64)))))))) x0], .v (.int .i64) x1, .v (.int .i64) x2], [], K => wqj1 k x0 x1 x2 (fun y0 => K (.ret [.v (.int .i64) y0] []))
  | _, _, _ => none
theorem wq15i (k : Nat) : DOK Tryz.prog 32 (wq6x k) := by
  induction k with
  | zero =>
    · intro ps hp R K r h
      have h : wq6x 0 ps hp K = some r := h
      unfold wq6x at h
      split at h
      · unfold wqj1 at h; rw [wq49] at h; cases h
      · cases h
  | succ k ih =>
    have ih_show_walk := ih
    · intro ps hp R K r h
      have h : wq6x (k + 1) ps hp K = some r := h
      unfold wq6x at h
      split at h
      · unfold wqj1 at h; rw [← wq10j] at h
        exact fnW_ok ⟨tyT_ok, (CTab.add_ok (fun h => ih_show_walk _ _ _ _ _ (by unfold wqqw at h; unfold wq6x; exact h)) (wqm (wq1ar k) CTab.nil_ok)), fun _ _ => rfl⟩ mixed (by kernel_rfl) (by kernel_rfl) h fun o ho => by unfold wqfn at ho; split at ho <;> first | exact ho | cases ho
      · cases h
theorem wq18p (k : Nat) : DOK Tryz.prog 32 (wq6x k) := (wq15i k)
end Go.Proofs.YtdfhgimidmfgfaaGreatDoor.Pvm
end


noncomputable section
namespace Go.Proofs.YtdfhgimidmfgfaaGreatDoor.Pvm
open Go Go.Proofs
def wqjx : List LS := [.ag [.sl kdT48]]
def wqns {R : Type} (K : (Int → Option R)) : Out → Option R
  | .ret [.v (.int .i64) y0] [] => K y0
  | _ => none
def wq133 : RetSpec := ⟨[.any], [], []⟩
def wq134 (k : Nat) : Ctx := ⟨tyT, [], (.add 32 wqtm (wq6x k) .nil), [], [], [(1, (.of [(0, 1), (1, 1), (2, 1), (3, 1), (4, 1), (5, 1), (6, 1), (7, 1), (8, 1), (9, 1), (10, 1), (13, 1), (11, 1), (14, 2), (15, 1), (12, 0), (16, 1), (17, 1)] .done))], @SH⟩
def wqwi (k : Nat) {R : Type}  (x0 : (List dT48)) (K : (Int → Option R)) : Option R := (cond ((cond (decide ((x0.length : Int) < 1)) true (decide ((x0.length : Int) > 2000))) == false) (wqj1 k x0 0 1 (fun y4 => (cond (y4 != (x0.length : Int)) (K 1) (K 0)))) (K 1))
def wq8r (k : Nat) {R : Type} (x0 : (List dT48)) (K : (Int → Option R)) : Option R := wqwi k  x0 K
theorem wqy0 (k : Nat) {R : Type} (x0 : (List dT48)) (K : (Int → Option R)) : fnW (wq134 k) k Tryz.f11 wq133 [.agg [.v kdT25 x0]] [] (wqns K) = wq8r k x0 K := by
  kernel_rfl
def wq96 (k : Nat) {R : Type} : List PV → List (Nm × HObj) → (Out → Option R) → Option R
  | [.agg [.v (.sl (.pr (.int .i64) (.pr (.int .i64) (.pr .str (.pr .bool (.pr (.sl .str) (.sl (.int .i64)))))))) x0]], [], K => wq8r k x0 (fun y0 => K (.ret [.v (.int .i64) y0] []))
  | _, _, _ => none
theorem wqp5 (k : Nat) : DOK Tryz.prog 11 (wq96 k) := by
  intro ps hp R K r h
  have h : wq96 k ps hp K = some r := h
  unfold wq96 at h
  split at h
  · rw [← wqy0] at h
    exact fnW_ok ⟨tyT_ok, (wqm (wq18p k) CTab.nil_ok), fun _ _ => rfl⟩ mixed (by kernel_rfl) (by kernel_rfl) h fun o ho => by unfold wqns at ho; split at ho <;> first | exact ho | cases ho
  · cases h
end Go.Proofs.YtdfhgimidmfgfaaGreatDoor.Pvm
end


noncomputable section
namespace Go.Proofs.YtdfhgimidmfgfaaGreatDoor.Pvm
open Go Go.Proofs
def wqie : List LS := [.sl kI, .sl kI]
def wq39 {R : Type} (K : (Bool → Option R)) : Out → Option R
  | .ret [.v .bool y0] [] => K y0
  | _ => none
def wq6i : RetSpec := ⟨[.any], [], []⟩
def wq6j (k : Nat) : Ctx := ⟨tyT, [(1004, ⟨[(0, .sl kI), (1, .sl kI), (12, .any), (13, .any)], []⟩)], .nil, [], [], [(6, (.of [(0, 1), (1, 1), (2, 1), (4, 1), (5, 1), (6, 1), (3, 1), (7, 1), (8, 1)] .done))], @SH⟩
def wq2p (s0 s1 : (List Int)) (s2 s3 : Int) : St := ⟨mkT [(0, .v (.sl kI) s0), (1, .v (.sl kI) s1), (12, .v kI s2), (13, .v kI s3)], mkH []⟩
def wq4m (k : Nat) {R : Type} (I : Nat → St → Option R) (n : Nat) (s : St) (K : (Bool → Option R)) : Option R := loopK (wq6j k) k Tryz.f36 wq6i 1004 [1, 1, 0, 1, 0] I n s (wq39 K)
def wq8b (k : Nat) {R : Type} (E1004 : ((List Int) → (List Int) → Int → Int → Option R)) (s0 s1 : (List Int)) (s2 s3 : Int) (K : (Bool → Option R)) : Option R := (cond (decide (s3 < s2)) (cond (inb s3 (s0.length : Int)) (cond (inb s3 (s1.length : Int)) (cond ((s0.getD s3.toNat kI.zero) != (s1.getD s3.toNat kI.zero)) (K false) (E1004 s0 s1 s2 (@Go.IntKind.wrap Go.IntKind.i64 (s3 + 1)))) none) none) (K true))
theorem wqch (k : Nat) {R : Type} (I : Nat → St → Option R) (s0 s1 : (List Int)) (s2 s3 : Int) (K : (Bool → Option R)) : bodyK (wq6j k) k Tryz.f36 wq6i [1, 1, 0, 1, 0, 0] I (wq2p s0 s1 s2 s3) (wq39 K) = wq8b k (fun s0 s1 s2 s3 => I 1004 (wq2p s0 s1 s2 s3)) s0 s1 s2 s3 K := by kernel_rfl
def wq7b (k : Nat) {R : Type} (E1004 : ((List Int) → (List Int) → Int → Int → Option R)) (x0 x1 : (List Int)) (K : (Bool → Option R)) : Option R := (cond ((x0.length : Int) != (x1.length : Int)) (K false) (E1004 x0 x1 (x0.length : Int) 0))
def wq20 (k : Nat) {R : Type}  : Nat → (List Int) → (List Int) → Int → Int → (Bool → Option R) → Option R
  | 0, _, _, _, _, _ => none
  | n + 1, s0, s1, s2, s3, K => wq8b k (fun s0 s1 s2 s3 => wq20 k  n s0 s1 s2 s3 K) s0 s1 s2 s3 K
theorem wqci (k : Nat) {R : Type} (I : Nat → St → Option R) (K : (Bool → Option R)) (n : Nat) : ∀ (s0 s1 : (List Int)) (s2 s3 : Int), wq4m k I n (wq2p s0 s1 s2 s3) K = wq20 k  n s0 s1 s2 s3 K := by
  induction n with
  | zero => intros; rfl
  | succ n ih =>
    intro s0 s1 s2 s3
    refine (?_ : _ = _).trans ((wqch k (upI 1004 (fun s => wq4m k I n s K) I) s0 s1 s2 s3 K).trans ?_)
    · rfl
    · simp only [wq1o, ih] <;> rfl
def wq36 (k : Nat) {R : Type} (x0 x1 : (List Int)) (K : (Bool → Option R)) : Option R := wq7b k (fun s0 s1 s2 s3 => wq20 k k s0 s1 s2 s3 K) x0 x1 K
theorem wqh9 (k : Nat) {R : Type} (x0 x1 : (List Int)) (K : (Bool → Option R)) : fnW (wq6j k) k Tryz.f36 wq6i [.v (.sl kI) x0, .v (.sl kI) x1] [] (wq39 K) = wq36 k x0 x1 K := by
  refine Eq.trans (b := wq7b k (fun s0 s1 s2 s3 => wq4m k (fun _ _ => none) k (wq2p s0 s1 s2 s3) K) x0 x1 K) (by kernel_rfl) ?_
  simp only [wqci] <;> rfl
def wq3j (k : Nat) {R : Type} : List PV → List (Nm × HObj) → (Out → Option R) → Option R
  | [.v (.sl (.int .i64)) x0, .v (.sl (.int .i64)) x1], [], K => wq36 k x0 x1 (fun y0 => K (.ret [.v .bool y0] []))
  | _, _, _ => none
theorem wqjy (k : Nat) : DOK Tryz.prog 36 (wq3j k) := by
  intro ps hp R K r h
  have h : wq3j k ps hp K = some r := h
  unfold wq3j at h
  split at h
  · rw [← wqh9] at h
    exact fnW_ok ⟨tyT_ok, CTab.nil_ok, fun _ _ => rfl⟩ mixed (by kernel_rfl) (by kernel_rfl) h fun o ho => by unfold wq39 at ho; split at ho <;> first | exact ho | cases ho
  · cases h
end Go.Proofs.YtdfhgimidmfgfaaGreatDoor.Pvm
end


noncomputable section
namespace Go.Proofs.YtdfhgimidmfgfaaGreatDoor.Pvm
open Go Go.Proofs
def wqcj : List LS := [.sl .str, .sl .str]
def wq22 {R : Type} (K : (Bool → Option R)) : Out → Option R
  | .ret [.v .bool y0] [] => K y0
  | _ => none
def wq3r : RetSpec := ⟨[.any], [], []⟩
def wq3s (k : Nat) : Ctx := ⟨tyT, [(1004, ⟨[(0, .sl .str), (1, .sl .str), (12, .any), (13, .any)], []⟩)], .nil, [], [], [(6, (.of [(0, 1), (1, 1), (2, 1), (4, 1), (5, 1), (6, 1), (3, 1), (7, 1), (8, 1)] .done))], @SH⟩
def wq1u (s0 s1 : (List (List UInt8))) (s2 s3 : Int) : St := ⟨mkT [(0, .v (.sl .str) s0), (1, .v (.sl .str) s1), (12, .v kI s2), (13, .v kI s3)], mkH []⟩
def wq30 (k : Nat) {R : Type} (I : Nat → St → Option R) (n : Nat) (s : St) (K : (Bool → Option R)) : Option R := loopK (wq3s k) k Tryz.f35 wq3r 1004 [1, 1, 0, 1, 0] I n s (wq22 K)
def wq5a (k : Nat) {R : Type} (E1004 : ((List (List UInt8)) → (List (List UInt8)) → Int → Int → Option R)) (s0 s1 : (List (List UInt8))) (s2 s3 : Int) (K : (Bool → Option R)) : Option R := (cond (decide (s3 < s2)) (cond (inb s3 (s0.length : Int)) (cond (inb s3 (s1.length : Int)) (cond (!((s0.getD s3.toNat Kd.str.zero) == (s1.getD s3.toNat Kd.str.zero))) (K false) (E1004 s0 s1 s2 (@Go.IntKind.wrap Go.IntKind.i64 (s3 + 1)))) none) none) (K true))
theorem wq9l (k : Nat) {R : Type} (I : Nat → St → Option R) (s0 s1 : (List (List UInt8))) (s2 s3 : Int) (K : (Bool → Option R)) : bodyK (wq3s k) k Tryz.f35 wq3r [1, 1, 0, 1, 0, 0] I (wq1u s0 s1 s2 s3) (wq22 K) = wq5a k (fun s0 s1 s2 s3 => I 1004 (wq1u s0 s1 s2 s3)) s0 s1 s2 s3 K := by kernel_rfl
def wq4a (k : Nat) {R : Type} (E1004 : ((List (List UInt8)) → (List (List UInt8)) → Int → Int → Option R)) (x0 x1 : (List (List UInt8))) (K : (Bool → Option R)) : Option R := (cond ((x0.length : Int) != (x1.length : Int)) (K false) (E1004 x0 x1 (x0.length : Int) 0))
def wq1h (k : Nat) {R : Type}  : Nat → (List (List UInt8)) → (List (List UInt8)) → Int → Int → (Bool → Option R) → Option R
  | 0, _, _, _, _, _ => none
  | n + 1, s0, s1, s2, s3, K => wq5a k (fun s0 s1 s2 s3 => wq1h k  n s0 s1 s2 s3 K) s0 s1 s2 s3 K
theorem wq9m (k : Nat) {R : Type} (I : Nat → St → Option R) (K : (Bool → Option R)) (n : Nat) : ∀ (s0 s1 : (List (List UInt8))) (s2 s3 : Int), wq30 k I n (wq1u s0 s1 s2 s3) K = wq1h k  n s0 s1 s2 s3 K := by
  induction n with
  | zero => intros; rfl
  | succ n ih =>
    intro s0 s1 s2 s3
    refine (?_ : _ = _).trans ((wq9l k (upI 1004 (fun s => wq30 k I n s K) I) s0 s1 s2 s3 K).trans ?_)
    · rfl
    · simp only [wq1o, ih] <;> rfl
def wq1w (k : Nat) {R : Type} (x0 x1 : (List (List UInt8))) (K : (Bool → Option R)) : Option R := wq4a k (fun s0 s1 s2 s3 => wq1h k k s0 s1 s2 s3 K) x0 x1 K
theorem wqbv (k : Nat) {R : Type} (x0 x1 : (List (List UInt8))) (K : (Bool → Option R)) : fnW (wq3s k) k Tryz.f35 wq3r [.v (.sl .str) x0, .v (.sl .str) x1] [] (wq22 K) = wq1w k x0 x1 K := by
  refine Eq.trans (b := wq4a k (fun s0 s1 s2 s3 => wq30 k (fun _ _ => none) k (wq1u s0 s1 s2 s3) K) x0 x1 K) (by kernel_rfl) ?_
  simp only [wq9m] <;> rfl
def wq26 (k : Nat) {R : Type} : List PV → List (Nm × HObj) → (Out → Option R) → Option R
  | [.v (.sl .str) x0, .v (.sl .str) x1], [], K => wq1w k x0 x1 (fun y0 => K (.ret [.v .bool y0] []))
  | _, _, _ => none
theorem wqet (k : Nat) : DOK Tryz.prog 35 (wq26 k) := by
  intro ps hp R K r h
  have h : wq26 k ps hp K = some r := h
  unfold wq26 at h
  split at h
  · rw [← wqbv] at h
    exact fnW_ok ⟨tyT_ok, CTab.nil_ok, fun _ _ => rfl⟩ mixed (by kernel_rfl) (by kernel_rfl) h fun o ho => by unfold wq22 at ho; split at ho <;> first | exact ho | cases ho
  · cases h
end Go.Proofs.YtdfhgimidmfgfaaGreatDoor.Pvm
end


noncomputable section
namespace Go.Proofs.YtdfhgimidmfgfaaGreatDoor.Pvm
open Go Go.Proofs
def wqnt : List LS := [.ag [.any, .any, .any, .any, .sl .str, .sl kI], .ag [.any, .any, .any, .any, .sl .str, .sl kI]]
def wqlq {R : Type} (K : (Bool → Option R)) : Out → Option R
  | .ret [.v .bool y0] [] => K y0
  | _ => none
def wq10k : RetSpec := ⟨[.any], [], []⟩
def wq10l (k : Nat) : Ctx := ⟨tyT, [], (.add 35 wqcj (wq26 k) (.add 36 wqie (wq3j k) .nil)), [], [], [], @SH⟩
def wqtn (k : Nat) {R : Type}  (x0 x1 : Int) (x2 : (List UInt8)) (x3 : Bool) (x4 : (List (List UInt8))) (x5 : (List Int)) (x6 x7 : Int) (x8 : (List UInt8)) (x9 : Bool) (x10 : (List (List UInt8))) (x11 : (List Int)) (K : (Bool → Option R)) : Option R := (cond ((cond (cond (x0 == x6) (x2 == x8) false) (x3 == x9) false) == true) (wq1w k x4 x10 (fun y15 => (cond (y15 == true) (wq36 k x5 x11 (fun y16 => (K y16))) (K false)))) (K false))
def wqe1 (k : Nat) {R : Type} (x0 x1 : Int) (x2 : (List UInt8)) (x3 : Bool) (x4 : (List (List UInt8))) (x5 : (List Int)) (x6 x7 : Int) (x8 : (List UInt8)) (x9 : Bool) (x10 : (List (List UInt8))) (x11 : (List Int)) (K : (Bool → Option R)) : Option R := wqtn k  x0 x1 x2 x3 x4 x5 x6 x7 x8 x9 x10 x11 K
theorem wqwj (k : Nat) {R : Type} (x0 x1 : Int) (x2 : (List UInt8)) (x3 : Bool) (x4 : (List (List UInt8))) (x5 : (List Int)) (x6 x7 : Int) (x8 : (List UInt8)) (x9 : Bool) (x10 : (List (List UInt8))) (x11 : (List Int)) (K : (Bool → Option R)) : fnW (wq10l k) k Tryz.f34 wq10k [.agg [.v kI x0, .v kI x1, .v .str x2, .v .bool x3, .v (.sl .str) x4, .v (.sl kI) x5], .agg [.v kI x6, .v kI x7, .v .str x8, .v .bool x9, .v (.sl .str) x10, .v (.sl kI) x11]] [] (wqlq K) = wqe1 k x0 x1 x2 x3 x4 x5 x6 x7 x8 x9 x10 x11 K := by
  kernel_rfl
def wq9q (k : Nat) {R : Type} : List PV → List (Nm × HObj) → (Out → Option R) → Option R
  | [.agg [.v (.int .i64) x0, .v (.int .i64) x1, .v .str x2, .v .bool x3, .v (.sl .str) x4, .v (.sl (.int .i64)) x5], .agg [.v (.int .i64) x6, .v (.int .i64) x7, .v .str x8, .v .bool x9, .v (.sl .str) x10, .v (.sl (.int .i64)) x11]], [], K => wqe1 k x0 x1 x2 x3 x4 x5 x6 x7 x8 x9 x10 x11 (fun y0 => K (.ret [.v .bool y0] []))
  | _, _, _ => none
theorem wqto (k : Nat) : DOK Tryz.prog 34 (wq9q k) := by
  intro ps hp R K r h
  have h : wq9q k ps hp K = some r := h
  unfold wq9q at h
  split at h
  · rw [← wqwj] at h
    exact fnW_ok ⟨tyT_ok, (wqm (wqet k) (wqm (wqjy k) CTab.nil_ok)), fun _ _ => rfl⟩ mixed (by kernel_rfl) (by kernel_rfl) h fun o ho => by unfold wqlq at ho; split at ho <;> first | exact ho | cases ho
  · cases h
end Go.Proofs.YtdfhgimidmfgfaaGreatDoor.Pvm
end


noncomputable section
namespace Go.Proofs.YtdfhgimidmfgfaaGreatDoor.Pvm
open Go Go.Proofs
def wq3f : List LS := [.sl kdT48, .sl kdT48, .clo []]
def wqt {R : Type} (K : (Bool → Option R)) : Out → Option R
  | .ret [.v .bool y0] [] => K y0
  | _ => none
def wq18 : RetSpec := ⟨[.any], [], []⟩
def wq19 (k : Nat) : Ctx := ⟨tyT, [(1004, ⟨[(1, .sl kdT48), (2, .clo []), (15, .sl kdT48), (16, .any), (17, .any)], []⟩)], (.add 34 wqnt (wq9q k) .nil), [], [], [], @SH⟩
def wqq (s0 s1 : (List dT48)) (s2 s3 : Int) : St := ⟨mkT [(1, .v kdT25 s0), (2, .clo 34 []), (15, .v kdT25 s1), (16, .v kI s2), (17, .v kI s3)], mkH []⟩
def wq16 (k : Nat) {R : Type} (I : Nat → St → Option R) (n : Nat) (s : St) (K : (Bool → Option R)) : Option R := loopK (wq19 k) k Tryz.f33 wq18 1004 [1, 1, 0, 1, 0] I n s (wqt K)
def wqr (k : Nat) {R : Type} (E1004 : ((List dT48) → (List dT48) → Int → Int → Option R)) (s0 s1 : (List dT48)) (s2 s3 : Int) (K : (Bool → Option R)) : Option R := (cond (decide (s3 < s2)) (cond (inb s3 (s1.length : Int)) (cond (inb s3 (s0.length : Int)) (wqe1 k (s1.getD s3.toNat (Kd.zero (@Kd.pr kI (@Kd.pr kI (@Kd.pr Kd.str (@Kd.pr Kd.bool (@Kd.pr (@Kd.sl Kd.str) (@Kd.sl kI)))))))).1 ((s1.getD s3.toNat (Kd.zero (@Kd.pr kI (@Kd.pr kI (@Kd.pr Kd.str (@Kd.pr Kd.bool (@Kd.pr (@Kd.sl Kd.str) (@Kd.sl kI)))))))).2).1 (((s1.getD s3.toNat (Kd.zero (@Kd.pr kI (@Kd.pr kI (@Kd.pr Kd.str (@Kd.pr Kd.bool (@Kd.pr (@Kd.sl Kd.str) (@Kd.sl kI)))))))).2).2).1 ((((s1.getD s3.toNat (Kd.zero (@Kd.pr kI (@Kd.pr kI (@Kd.pr Kd.str (@Kd.pr Kd.bool (@Kd.pr (@Kd.sl Kd.str) (@Kd.sl kI)))))))).2).2).2).1 (((((s1.getD s3.toNat (Kd.zero (@Kd.pr kI (@Kd.pr kI (@Kd.pr Kd.str (@Kd.pr Kd.bool (@Kd.pr (@Kd.sl Kd.str) (@Kd.sl kI)))))))).2).2).2).2).1 (((((s1.getD s3.toNat (Kd.zero (@Kd.pr kI (@Kd.pr kI (@Kd.pr Kd.str (@Kd.pr Kd.bool (@Kd.pr (@Kd.sl Kd.str) (@Kd.sl kI)))))))).2).2).2).2).2 (s0.getD s3.toNat (Kd.zero (@Kd.pr kI (@Kd.pr kI (@Kd.pr Kd.str (@Kd.pr Kd.bool (@Kd.pr (@Kd.sl Kd.str) (@Kd.sl kI)))))))).1 ((s0.getD s3.toNat (Kd.zero (@Kd.pr kI (@Kd.pr kI (@Kd.pr Kd.str (@Kd.pr Kd.bool (@Kd.pr (@Kd.sl Kd.str) (@Kd.sl kI)))))))).2).1 (((s0.getD s3.toNat (Kd.zero (@Kd.pr kI (@Kd.pr kI (@Kd.pr Kd.str (@Kd.pr Kd.bool (@Kd.pr (@Kd.sl Kd.str) (@Kd.sl kI)))))))).2).2).1 ((((s0.getD s3.toNat (Kd.zero (@Kd.pr kI (@Kd.pr kI (@Kd.pr Kd.str (@Kd.pr Kd.bool (@Kd.pr (@Kd.sl Kd.str) (@Kd.sl kI)))))))).2).2).2).1 (((((s0.getD s3.toNat (Kd.zero (@Kd.pr kI (@Kd.pr kI (@Kd.pr Kd.str (@Kd.pr Kd.bool (@Kd.pr (@Kd.sl Kd.str) (@Kd.sl kI)))))))).2).2).2).2).1 (((((s0.getD s3.toNat (Kd.zero (@Kd.pr kI (@Kd.pr kI (@Kd.pr Kd.str (@Kd.pr Kd.bool (@Kd.pr (@Kd.sl Kd.str) (@Kd.sl kI)))))))).2).2).2).2).2 (fun y8 => (cond (!y8) (K false) (E1004 s0 s1 s2 (@Go.IntKind.wrap Go.IntKind.i64 (s3 + 1)))))) none) none) (K true))
theorem wq31 (k : Nat) {R : Type} (I : Nat → St → Option R) (s0 s1 : (List dT48)) (s2 s3 : Int) (K : (Bool → Option R)) : bodyK (wq19 k) k Tryz.f33 wq18 [1, 1, 0, 1, 0, 0] I (wqq s0 s1 s2 s3) (wqt K) = wqr k (fun s0 s1 s2 s3 => I 1004 (wqq s0 s1 s2 s3)) s0 s1 s2 s3 K := by kernel_rfl
def wq1a (k : Nat) {R : Type} (E1004 : ((List dT48) → (List dT48) → Int → Int → Option R)) (x0 x1 : (List dT48)) (K : (Bool → Option R)) : Option R := (cond ((x0.length : Int) != (x1.length : Int)) (K false) (E1004 x1 x0 (x0.length : Int) 0))
def wqf (k : Nat) {R : Type}  : Nat → (List dT48) → (List dT48) → Int → Int → (Bool → Option R) → Option R
  | 0, _, _, _, _, _ => none
  | n + 1, s0, s1, s2, s3, K => wqr k (fun s0 s1 s2 s3 => wqf k  n s0 s1 s2 s3 K) s0 s1 s2 s3 K
theorem wq32 (k : Nat) {R : Type} (I : Nat → St → Option R) (K : (Bool → Option R)) (n : Nat) : ∀ (s0 s1 : (List dT48)) (s2 s3 : Int), wq16 k I n (wqq s0 s1 s2 s3) K = wqf k  n s0 s1 s2 s3 K := by
  induction n with
  | zero => intros; rfl
  | succ n ih =>
    intro s0 s1 s2 s3
    refine (?_ : _ = _).trans ((wq31 k (upI 1004 (fun s => wq16 k I n s K) I) s0 s1 s2 s3 K).trans ?_)
    · rfl
    · simp only [wq1o, ih] <;> rfl
def wq10 (k : Nat) {R : Type} (x0 x1 : (List dT48)) (K : (Bool → Option R)) : Option R := wq1a k (fun s0 s1 s2 s3 => wqf k k s0 s1 s2 s3 K) x0 x1 K
theorem wq3c (k : Nat) {R : Type} (x0 x1 : (List dT48)) (K : (Bool → Option R)) : fnW (wq19 k) k Tryz.f33 wq18 [.v kdT25 x0, .v kdT25 x1, .clo 34 []] [] (wqt K) = wq10 k x0 x1 K := by
  refine Eq.trans (b := wq1a k (fun s0 s1 s2 s3 => wq16 k (fun _ _ => none) k (wqq s0 s1 s2 s3) K) x0 x1 K) (by kernel_rfl) ?_
  simp only [wq32] <;> rfl
def wqv (k : Nat) {R : Type} : List PV → List (Nm × HObj) → (Out → Option R) → Option R
  | [.v (.sl (.pr (.int .i64) (.pr (.int .i64) (.pr .str (.pr .bool (.pr (.sl .str) (.sl (.int .i64)))))))) x0, .v (.sl (.pr (.int .i64) (.pr (.int .i64) (.pr .str (.pr .bool (.pr (.sl .str) (.sl (.int .i64)))))))) x1, .clo 34 []], [], K => wq10 k x0 x1 (fun y0 => K (.ret [.v .bool y0] []))
  | _, _, _ => none
theorem wq3t (k : Nat) : DOK Tryz.prog 33 (wqv k) := by
  intro ps hp R K r h
  have h : wqv k ps hp K = some r := h
  unfold wqv at h
  split at h
  · rw [← wq3c] at h
    exact fnW_ok ⟨tyT_ok, (wqm (wqto k) CTab.nil_ok), fun _ _ => rfl⟩ mixed (by kernel_rfl) (by kernel_rfl) h fun o ho => by unfold wqt at ho; split at ho <;> first | exact ho | cases ho
  · cases h
end Go.Proofs.YtdfhgimidmfgfaaGreatDoor.Pvm
end


noncomputable section
namespace Go.Proofs.YtdfhgimidmfgfaaGreatDoor.Pvm
open Go Go.Proofs
def wq135 : List LS := [.ag [.sl kdT48], .ag [.sl kdT48]]
def wqqz {R : Type} (K : (Bool → Option R)) : Out → Option R
  | .ret [.v .bool y0] [] => K y0
  | _ => none
def wq15j : RetSpec := ⟨[.any], [], []⟩
def wq15k (k : Nat) : Ctx := ⟨tyT, [], (.add 33 wq3f (wqv k) (.add 34 wqnt (wq9q k) .nil)), [], [], [], @SH⟩
def wqz3 (k : Nat) {R : Type}  (x0 x1 : (List dT48)) (K : (Bool → Option R)) : Option R := (wq10 k x0 x1 (fun y5 => (K y5)))
def wqg1 (k : Nat) {R : Type} (x0 x1 : (List dT48)) (K : (Bool → Option R)) : Option R := wqz3 k  x0 x1 K
theorem wq10m (k : Nat) {R : Type} (x0 x1 : (List dT48)) (K : (Bool → Option R)) : fnW (wq15k k) k Tryz.f12 wq15j [.agg [.v kdT25 x0], .agg [.v kdT25 x1]] [] (wqqz K) = wqg1 k x0 x1 K := by
  kernel_rfl
def wqht (k : Nat) {R : Type} : List PV → List (Nm × HObj) → (Out → Option R) → Option R
  | [.agg [.v (.sl (.pr (.int .i64) (.pr (.int .i64) (.pr .str (.pr .bool (.pr (.sl .str) (.sl (.int .i64)))))))) x0], .agg [.v (.sl (.pr (.int .i64) (.pr (.int .i64) (.pr .str (.pr .bool (.pr (.sl .str) (.sl (.int .i64)))))))) x1]], [], K => wqg1 k x0 x1 (fun y0 => K (.ret [.v .bool y0] []))
  | _, _, _ => none
theorem wq18q (k : Nat) : DOK Tryz.prog 12 (wqht k) := by
  intro ps hp R K r h
  have h : wqht k ps hp K = some r := h
  unfold wqht at h
  split at h
  · rw [← wq10m] at h
    exact fnW_ok ⟨tyT_ok, (wqm (wq3t k) (wqm (wqto k) CTab.nil_ok)), fun _ _ => rfl⟩ mixed (by kernel_rfl) (by kernel_rfl) h fun o ho => by unfold wqqz at ho; split at ho <;> first | exact ho | cases ho
  · cases h
end Go.Proofs.YtdfhgimidmfgfaaGreatDoor.Pvm
end


noncomputable section
namespace Go.Proofs.YtdfhgimidmfgfaaGreatDoor.Pvm
open Go Go.Proofs
def wqe2 : List LS := [.obj 1 [.nps 1 0, .own 21 5 (.int .u8)], .any]
def wq6k {R : Type} (K : ((List Int) → Int → Option R)) : Out → Option R
  | .ret [.v (.int .i64) y1, .nilif] [(21, .row 5 (.int .u8) y0), (1, .var 70 [.nps 1 0, .row 21])] => K y0 y1
  | _ => none
def wqeu : RetSpec := ⟨[.any, .any], [(1, .obj 1 [.nps 1 0, .own 21 5 (.int .u8)])], []⟩
def wqev (k : Nat) : Ctx := ⟨tyT, [], (.add 82 wq87 (wq2w k) .nil), [], [1], [], @SH⟩
def wq8c (k : Nat) {R : Type}  (x0 : (List Int)) (x1 : (List UInt8)) (K : ((List Int) → Int → Option R)) : Option R := (wq2d k x0 (fun y5 => (cond (fits y5.length (wqj x1).length 1) (K (y5 ++ (wqj x1)) (x1.length : Int)) none)))
def wq13 (k : Nat) {R : Type} (x0 : (List Int)) (x1 : (List UInt8)) (K : ((List Int) → Int → Option R)) : Option R := wq8c k  x0 x1 K
theorem wqck (k : Nat) {R : Type} (x0 : (List Int)) (x1 : (List UInt8)) (K : ((List Int) → Int → Option R)) : fnW (wqev k) k Tryz.f53 wqeu [.ptr 1 0, .v .str x1] [(21, .row 5 (.int .u8) x0), (1, .var 70 [.nps 1 0, .row 21])] (wq6k K) = wq13 k x0 x1 K := by
  kernel_rfl
def wq2i (k : Nat) {R : Type} : List PV → List (Nm × HObj) → (Out → Option R) → Option R
  | [.ptr 1 0, .v .str x1], [(21, .row 5 (.int .u8) x0), (1, .var 70 [.nps 1 0, .row 21])], K => wq13 k x0 x1 (fun y0 y1 => K (.ret [.v (.int .i64) y1, .nilif] [(21, .row 5 (.int .u8) y0), (1, .var 70 [.nps 1 0, .row 21])]))
  | _, _, _ => none
theorem wqfo (k : Nat) : DOK Tryz.prog 53 (wq2i k) := by
  intro ps hp R K r h
  have h : wq2i k ps hp K = some r := h
  unfold wq2i at h
  split at h
  · rw [← wqck] at h
    exact fnW_ok ⟨tyT_ok, (CTab.add_ok (fun h => wq9c k h) CTab.nil_ok), fun _ _ => rfl⟩ mixed (by kernel_rfl) (by kernel_rfl) h fun o ho => by unfold wq6k at ho; split at ho <;> first | exact ho | cases ho
  · cases h
end Go.Proofs.YtdfhgimidmfgfaaGreatDoor.Pvm
end


noncomputable section
namespace Go.Proofs.YtdfhgimidmfgfaaGreatDoor.Pvm
open Go Go.Proofs
def wq10n : List LS := [.any]
def wqdg {R : Type} (K : ((List UInt8) → Option R)) : Out → Option R
  | .ret [.v .str y0] [] => K y0
  | _ => none
def wqlr : RetSpec := ⟨[.any], [], []⟩
def wqls (k : Nat) : Ctx := ⟨tyT, [(1004, ⟨[(0, .any), (3, .obj 13 [.nps 13 0, .own 33 5 (.int .u8)]), (8, .any), (9, .any)], []⟩)], (.add 28 wq60 (wq2m k) (.add 53 wqe2 (wq2i k) (.add 81 wq4i (wq1k k) .nil))), [], [], [(15, (.of [(0, 1), (1, 1), (2, 1), (3, 1), (4, 1), (5, 1), (6, 1), (7, 1), (8, 1), (9, 1), (10, 1), (11, 1), (12, 1), (13, 1), (14, 0)] .done))], @SH⟩
def wq97 (s0 : (List UInt8)) (s1 : (List Int)) (s2 s3 : Int) : St := ⟨mkT [(0, .v .str s0), (3, .ptr 13 0), (8, .v kI s2), (9, .v kI s3)], mkH [(33, .row 5 (.int .u8) s1), (13, .var 70 [.nps 13 0, .row 33])]⟩
def wqew (k : Nat) {R : Type} (I : Nat → St → Option R) (n : Nat) (s : St) (K : ((List UInt8) → Option R)) : Option R := loopK (wqls k) k Tryz.f52 wqlr 1004 [1, 1, 1, 0, 1, 0] I n s (wqdg K)
def wqa0 (k : Nat) {R : Type} (E1004 : ((List UInt8) → (List Int) → Int → Int → Option R)) (s0 : (List UInt8)) (s1 : (List Int)) (s2 s3 : Int) (K : ((List UInt8) → Option R)) : Option R := (cond (decide (s3 < s2)) (cond (inb s3 (s0.length : Int)) (cond (cond (((s0.getD s3.toNat 0).toNat : Int) == 92) true (((s0.getD s3.toNat 0).toNat : Int) == 34)) (cond (joins [92] (@Array.toList UInt8 (@ByteArray.data (@Go.Utf8.encode (@Go.IntKind.wrap Go.IntKind.i32 ((s0.getD s3.toNat 0).toNat : Int)))))) (wq13 k s1 ([92] ++ (@Array.toList UInt8 (@ByteArray.data (@Go.Utf8.encode (@Go.IntKind.wrap Go.IntKind.i32 ((s0.getD s3.toNat 0).toNat : Int)))))) (fun y8 y9 => (E1004 s0 y8 s2 (@Go.IntKind.wrap Go.IntKind.i64 (s3 + 1))))) none) (cond (((s0.getD s3.toNat 0).toNat : Int) == 10) (wq13 k s1 [92, 110] (fun y8 y9 => (E1004 s0 y8 s2 (@Go.IntKind.wrap Go.IntKind.i64 (s3 + 1))))) (cond (((s0.getD s3.toNat 0).toNat : Int) == 9) (wq13 k s1 [92, 116] (fun y8 y9 => (E1004 s0 y8 s2 (@Go.IntKind.wrap Go.IntKind.i64 (s3 + 1))))) (cond (cond (decide (((s0.getD s3.toNat 0).toNat : Int) < 32)) true (((s0.getD s3.toNat 0).toNat : Int) == 127)) (cond (bnd (ishr Go.IntKind.u8 ((s0.getD s3.toNat 0).toNat : Int) 4) (@Go.IntKind.wrap Go.IntKind.u8 ((ishr Go.IntKind.u8 ((s0.getD s3.toNat 0).toNat : Int) 4) + 1)) (([(48 : UInt8), 49, 50, 51, 52, 53, 54, 55, 56, 57, 97, 98, 99, 100, 101, 102]).length : Int)) (cond (joins [92, 120] (cut [48, 49, 50, 51, 52, 53, 54, 55, 56, 57, 97, 98, 99, 100, 101, 102] (ishr Go.IntKind.u8 ((s0.getD s3.toNat 0).toNat : Int) 4) (@Go.IntKind.wrap Go.IntKind.u8 ((ishr Go.IntKind.u8 ((s0.getD s3.toNat 0).toNat : Int) 4) + 1)))) (cond (bnd (ibits @Go.BinOp.and Go.IntKind.u8 ((s0.getD s3.toNat 0).toNat : Int) 15) (@Go.IntKind.wrap Go.IntKind.u8 ((ibits @Go.BinOp.and Go.IntKind.u8 ((s0.getD s3.toNat 0).toNat : Int) 15) + 1)) (([(48 : UInt8), 49, 50, 51, 52, 53, 54, 55, 56, 57, 97, 98, 99, 100, 101, 102]).length : Int)) (cond (joins ([92, 120] ++ (cut [48, 49, 50, 51, 52, 53, 54, 55, 56, 57, 97, 98, 99, 100, 101, 102] (ishr Go.IntKind.u8 ((s0.getD s3.toNat 0).toNat : Int) 4) (@Go.IntKind.wrap Go.IntKind.u8 ((ishr Go.IntKind.u8 ((s0.getD s3.toNat 0).toNat : Int) 4) + 1)))) (cut [48, 49, 50, 51, 52, 53, 54, 55, 56, 57, 97, 98, 99, 100, 101, 102] (ibits @Go.BinOp.and Go.IntKind.u8 ((s0.getD s3.toNat 0).toNat : Int) 15) (@Go.IntKind.wrap Go.IntKind.u8 ((ibits @Go.BinOp.and Go.IntKind.u8 ((s0.getD s3.toNat 0).toNat : Int) 15) + 1)))) (wq13 k s1 (([92, 120] ++ (cut [48, 49, 50, 51, 52, 53, 54, 55, 56, 57, 97, 98, 99, 100, 101, 102] (ishr Go.IntKind.u8 ((s0.getD s3.toNat 0).toNat : Int) 4) (@Go.IntKind.wrap Go.IntKind.u8 ((ishr Go.IntKind.u8 ((s0.getD s3.toNat 0).toNat : Int) 4) + 1)))) ++ (cut [48, 49, 50, 51, 52, 53, 54, 55, 56, 57, 97, 98, 99, 100, 101, 102] (ibits @Go.BinOp.and Go.IntKind.u8 ((s0.getD s3.toNat 0).toNat : Int) 15) (@Go.IntKind.wrap Go.IntKind.u8 ((ibits @Go.BinOp.and Go.IntKind.u8 ((s0.getD s3.toNat 0).toNat : Int) 15) + 1)))) (fun y8 y9 => (E1004 s0 y8 s2 (@Go.IntKind.wrap Go.IntKind.i64 (s3 + 1))))) none) none) none) none) (wqw k s1 ((s0.getD s3.toNat 0).toNat : Int) (fun y8 => (E1004 s0 y8 s2 (@Go.IntKind.wrap Go.IntKind.i64 (s3 + 1))))))))) none) (wqw k s1 34 (fun y8 => (wq1t k y8 (fun y9 y10 => (K y10))))))
theorem wqp6 (k : Nat) {R : Type} (I : Nat → St → Option R) (s0 : (List UInt8)) (s1 : (List Int)) (s2 s3 : Int) (K : ((List UInt8) → Option R)) : bodyK (wqls k) k Tryz.f52 wqlr [1, 1, 1, 0, 1, 0, 0] I (wq97 s0 s1 s2 s3) (wqdg K) = wqa0 k (fun s0 s1 s2 s3 => I 1004 (wq97 s0 s1 s2 s3)) s0 s1 s2 s3 K := by kernel_rfl
def wqp7 (k : Nat) {R : Type} (E1004 : ((List UInt8) → (List Int) → Int → Int → Option R)) (x0 : (List UInt8)) (K : ((List UInt8) → Option R)) : Option R := (wqw k [] 34 (fun y5 => (E1004 x0 y5 (x0.length : Int) 0)))
def wq4b (k : Nat) {R : Type}  : Nat → (List UInt8) → (List Int) → Int → Int → ((List UInt8) → Option R) → Option R
  | 0, _, _, _, _, _ => none
  | n + 1, s0, s1, s2, s3, K => wqa0 k (fun s0 s1 s2 s3 => wq4b k  n s0 s1 s2 s3 K) s0 s1 s2 s3 K
theorem wqp8 (k : Nat) {R : Type} (I : Nat → St → Option R) (K : ((List UInt8) → Option R)) (n : Nat) : ∀ (s0 : (List UInt8)) (s1 : (List Int)) (s2 s3 : Int), wqew k I n (wq97 s0 s1 s2 s3) K = wq4b k  n s0 s1 s2 s3 K := by
  induction n with
  | zero => intros; rfl
  | succ n ih =>
    intro s0 s1 s2 s3
    refine (?_ : _ = _).trans ((wqp6 k (upI 1004 (fun s => wqew k I n s K) I) s0 s1 s2 s3 K).trans ?_)
    · rfl
    · simp only [wq1o, ih] <;> rfl
def wqgx (k : Nat) {R : Type} (x0 : (List UInt8)) (K : ((List UInt8) → Option R)) : Option R := wqp7 k (fun s0 s1 s2 s3 => wq4b k k s0 s1 s2 s3 K) x0 K
theorem wqy1 (k : Nat) {R : Type} (x0 : (List UInt8)) (K : ((List UInt8) → Option R)) : fnW (wqls k) k Tryz.f52 wqlr [.v .str x0] [] (wqdg K) = wqgx k x0 K := by
  refine Eq.trans (b := wqp7 k (fun s0 s1 s2 s3 => wqew k (fun _ _ => none) k (wq97 s0 s1 s2 s3) K) x0 K) (by kernel_rfl) ?_
  simp only [wqp8] <;> rfl
def wqfp (k : Nat) {R : Type} : List PV → List (Nm × HObj) → (Out → Option R) → Option R
  | [.v .str x0], [], K => wqgx k x0 (fun y0 => K (.ret [.v .str y0] []))
  | _, _, _ => none
theorem wq15l (k : Nat) : DOK Tryz.prog 52 (wqfp k) := by
  intro ps hp R K r h
  have h : wqfp k ps hp K = some r := h
  unfold wqfp at h
  split at h
  · rw [← wqy1] at h
    exact fnW_ok ⟨tyT_ok, (CTab.add_ok (fun h => wq74 k h) (wqm (wqfo k) (wqm (wq5d k) CTab.nil_ok))), fun _ _ => rfl⟩ mixed (by kernel_rfl) (by kernel_rfl) h fun o ho => by unfold wqdg at ho; split at ho <;> first | exact ho | cases ho
  · cases h
end Go.Proofs.YtdfhgimidmfgfaaGreatDoor.Pvm
end


set_option maxHeartbeats 1000000
set_option maxRecDepth 100000
namespace Go.Proofs.YtdfhgimidmfgfaaGreatDoor.Pvm
open Go Go.Proofs Go.RowKit
theorem wqu8 (b : Nat) (w : World) (h0 : w.cell? ⟨b, 1, none⟩ = some (.pointer (some ⟨b, 1, none⟩))) :
    Calls Tryz.prog 82 #[.pointer (some ⟨b, 1, none⟩)] w fun e w' => e = .returned (.tuple #[]) ∧ w' = w := by
  have t76 : Tryz.prog.underlying 68 = some (.pointer 70) := by kernel_rfl
  have hs : (Tryz.prog.info? 70).isSome = true := by kernel_rfl
  obtain ⟨j, hj⟩ := Option.isSome_iff_exists.1 hs
  go_enter Tryz.func82, Tryz.ntmps82
  go_wp2
  rw [Lib.run_neq_ptr_same w _ t76 hj]
  go_wp2
  go_end0
  exact ⟨rfl, rfl⟩
theorem wqst (b : Nat) (w : World) (h0 : w.cell? ⟨b, 1, none⟩ = some (.pointer none)) (hsh : w.shape? b = some (72, 3)) (hfz : w.frozen? ⟨b, 1, none⟩ = false) :
    Calls Tryz.prog 82 #[.pointer (some ⟨b, 1, none⟩)] w fun e w' => e = .returned (.tuple #[]) ∧ w' = w.setCell ⟨b, 1, none⟩ (.pointer (some ⟨b, 1, none⟩)) := by
  have t76 : Tryz.prog.underlying 68 = some (.pointer 70) := by kernel_rfl
  have t89 : Tryz.prog.underlying 164 = some .unsafePointer := by kernel_rfl
  have hs : (Tryz.prog.info? 70).map (·.size) = some 2 := by kernel_rfl
  obtain ⟨j, hj, hjs⟩ := Option.map_eq_some_iff.1 hs
  have hlies : liesAt Tryz.prog Tryz.prog.depth 72 (3 / Tryz.prog.cellsOf 72) 1 70 1 = true := by kernel_rfl
  go_enter Tryz.func82, Tryz.ntmps82
  go_wp2
  rw [Lib.run_to_unsafe w ⟨b, 1, none⟩ t76 t89 hj (by rw [hjs]; decide) hsh (Nat.lt_of_sub_eq_succ (rfl : 3 - 1 = 2))]
  simp only [Result.andThen]
  rw [Oper.upon_value]
  go_wp2
  rw [run_callFunc_extern Tryz.func117 (by kernel_rfl) (by kernel_rfl) (by kernel_rfl) (e := Extern.AbiNoEscape.same) (by kernel_rfl)]
  rw [Lib.run_noEscape]
  simp only [Result.andThen]
  rw [Oper.upon_value]
  go_wp2
  rw [Lib.run_from_unsafe w ⟨b, 1, none⟩ t89 t76 hj hsh hlies]
  simp only [Result.andThen]
  rw [Oper.upon_value]
  go_wp2
  go_end0
  exact ⟨rfl, rfl⟩
end Go.Proofs.YtdfhgimidmfgfaaGreatDoor.Pvm
set_option maxRecDepth 1000000
namespace Go.Proofs.YtdfhgimidmfgfaaGreatDoor.Pvm
open Go Go.Proofs
def wq6l : List LS := [.obj 1 [.sl (.pr (.int .i64) (.pr (.int .i64) (.pr .str (.pr .bool (.pr (.sl .str) (.sl (.int .i64))))))), .nps 1 1, .own 21 5 (.int .u8)]]
def wq1x (k : Nat) {R : Type} (d0 : (List dT48)) (x0 : List Int) (K : (List dT48) → List Int → Option R) : Option R := K d0 x0
def wq27 (k : Nat) {R : Type} : List PV → List (Nm × HObj) → (Out → Option R) → Option R
  | [.ptr 1 1], [(21, .row 5 (.int .u8) x0), (1, .var 72 [.v (.sl (.pr (.int .i64) (.pr (.int .i64) (.pr .str (.pr .bool (.pr (.sl .str) (.sl (.int .i64)))))))) d0, .nps 1 1, .row 21])], K => wq1x k d0 x0 (fun d1 y0 => K (.ret [] [(21, .row 5 (.int .u8) y0), (1, .var 72 [.v (.sl (.pr (.int .i64) (.pr (.int .i64) (.pr .str (.pr .bool (.pr (.sl .str) (.sl (.int .i64)))))))) d1, .nps 1 1, .row 21])]))
  | _, _, _ => none
theorem wq9r (vs : Array Value) (w : World) : (callFunc 82 vs).run Tryz.prog w = .ok (.enter 82 vs) w := by
  have h1 : Tryz.prog.funcs[82]? = some Tryz.f82 := by kernel_rfl
  have h2 : (Tryz.f82.name == "runtime.NumGoroutine") = false := by kernel_rfl
  have h3 : Tryz.f82.body.isNone = false := by kernel_rfl
  unfold callFunc
  rw [Sem.run_bind]
  have e2 : (program).run Tryz.prog w = .ok Tryz.prog w := rfl
  rw [e2, Result.andThen_ok, h1]
  simp only [h2, h3, Bool.false_eq_true, if_false]
  rfl
theorem wq7t (k : Nat) {ps : List PV} {hp : List (Nm × HObj)} {R : Type} {K : Out → Option R} {r : R} (h : wq27 k ps hp K = some r) : DoesTo Tryz.prog 82 ps hp fun out => K out = some r := by
  unfold wq27 at h
  split at h
  · next x0 d0 =>
    intro G w vals hr obj dis
    obtain ⟨v0, l0, rfl, h0, rfl⟩ := hr
    obtain ⟨rfl, _⟩ := h0
    generalize hHP : [(21, HObj.row 5 (.int .u8) x0), (1, .var 72 [.v (.sl (.pr (.int .i64) (.pr (.int .i64) (.pr .str (.pr .bool (.pr (.sl .str) (.sl (.int .i64)))))))) d0, .nps 1 1, .row 21])] = HP at *
    have hK : K (.ret [] HP) = some r := by subst hHP; exact h
    have l1 : mkH HP 1 = some (.var 72 [.v (.sl (.pr (.int .i64) (.pr (.int .i64) (.pr .str (.pr .bool (.pr (.sl .str) (.sl (.int .i64)))))))) d0, .nps 1 1, .row 21]) := by subst hHP; rfl
    have hob := obj 1 _ l1
    obtain ⟨vs, hw, q0, t0, rfl, hq0, q1, t1, rfl, hq1, q2, t2, rfl, hq2, rfl⟩ := hob
    show Does _ _ #[_] _ _
    unfold Does
    rw [wq9r]
    have hcell : w.cell? ⟨G.bk 1, 1, none⟩ = some q1 := by simp [World.cell?, hw]
    have hlt : G.bk 1 < w.heap.size := (Array.getElem?_eq_some_iff.1 hw).1
    rcases hq1 with rfl | ⟨rfl, _⟩
    · refine Calls.mono (wqst (G.bk 1) w hcell (by simp [World.shape?, hw]) (by simp [World.frozen?, hw])) fun e w' hh => ?_
      obtain ⟨rfl, rfl⟩ := hh
      have oth : ∀ b, b ≠ G.bk 1 → (w.setCell ⟨G.bk 1, 1, none⟩ (.pointer (some ⟨G.bk 1, 1, none⟩))).heap[b]? = w.heap[b]? := fun b hb => Go.Deep.blk_setCell_other w _ _ b hb
      have bk1 : blkOf (mkH HP) G 1 = some (G.bk 1) := by simp [blkOf, l1]
      have C : Carry (mkH HP) G w (mkH HP) G (w.setCell ⟨G.bk 1, 1, none⟩ (.pointer (some ⟨G.bk 1, 1, none⟩))) .row :=
        ⟨fun b ho _ => ⟨ho, oth b fun e => ho.1 1 (by rw [bk1, e])⟩, fun n t cs hn => ⟨⟨cs, hn⟩, rfl⟩, fun n ag V es hn => ⟨⟨es, hn⟩, rfl⟩, fun n e K xs hn => ⟨⟨rfl, e, K, xs, hn⟩, fun m hm => by cases hm; exact ⟨e, xs, hn, Nat.le_refl _⟩⟩⟩
      have hq2' := RV.carry C _ _ hq2
      have hq0' := RV.carry C _ _ hq0
      refine ⟨.ret [] HP, hK, G, ⟨_, rfl, ⟨[], rfl, rfl⟩⟩, ⟨fun n o hn => ?_, dis.inj, fun n t cs hn o ho => ?_, fun n ag V es hn o ho => (wqhh (by rw [← hHP]; rfl) hn).elim, fun b hb hf => oth b fun e => hf 1 (by rw [bk1, e]), rfl, fun n b hb => .inl ⟨n, hb⟩, by simp [World.setCell], rfl, rfl, rfl⟩⟩
      · by_cases hn1 : n = 1
        · subst hn1
          rw [show mkH (Out.hs (.ret [] HP)) 1 = some (.var 72 [.v (.sl (.pr (.int .i64) (.pr (.int .i64) (.pr .str (.pr .bool (.pr (.sl .str) (.sl (.int .i64)))))))) d0, .nps 1 1, .row 21]) from l1] at hn
          cases hn
          refine ⟨[q0, .pointer (some ⟨G.bk 1, 1, none⟩), q2], ?_, _, _, rfl, hq0', _, _, rfl, .inr ⟨rfl, 72, _, l1⟩, _, _, rfl, hq2', rfl⟩
          have hw2 := (Array.getElem?_eq_some_iff.1 hw).2
          simp only [World.setCell, Array.getElem?_modify, if_pos, hw]
          simp
        · have hne : ∀ b, blkOf (mkH HP) G n = some b → b ≠ G.bk 1 := fun b hb e => hn1 (dis.inj n 1 b hb (by rw [bk1, e]))
          have := RO.carry C hn (obj n o hn) (fun b hb => oth b (hne b hb)) rfl rfl
          rwa [wqg3] at this
      · have e1 : look HP n = some o := ho
        rw [hn] at e1; cases e1
        exact ⟨⟨cs, rfl⟩, rfl⟩
    · refine Calls.mono (wqu8 (G.bk 1) w hcell) fun e w' hh => ?_
      obtain ⟨rfl, rfl⟩ := hh
      refine ⟨.ret [] HP, hK, G, ⟨_, rfl, ⟨[], rfl, rfl⟩⟩, ⟨obj, dis.inj, fun n t cs hn o ho => ?_, fun n ag V es hn o ho => (wqhh (by rw [← hHP]; rfl) hn).elim, fun _ _ _ => rfl, rfl, fun n b hb => .inl ⟨n, hb⟩, Nat.le_refl _, rfl, rfl, rfl⟩⟩
      have e1 : look HP n = some o := ho
      rw [hn] at e1; cases e1
      exact ⟨⟨cs, rfl⟩, rfl⟩
  · cases h
end Go.Proofs.YtdfhgimidmfgfaaGreatDoor.Pvm
set_option maxHeartbeats 0
noncomputable section
namespace Go.Proofs.YtdfhgimidmfgfaaGreatDoor.Pvm
open Go Go.Proofs
def wq5t : List LS := [.obj 1 [.sl kdT48, .nps 1 1, .own 21 5 (.int .u8)], .any]
def wq5b {R : Type} (K : ((List dT48) → (List Int) → Int → Option R)) : Out → Option R
  | .ret [.v (.int .i64) y2, .nilif] [(21, .row 5 (.int .u8) y1), (1, .var 72 [.v (.sl (.pr (.int .i64) (.pr (.int .i64) (.pr .str (.pr .bool (.pr (.sl .str) (.sl (.int .i64)))))))) y0, .nps 1 1, .row 21])] => K y0 y1 y2
  | _ => none
def wqbw : RetSpec := ⟨[.any, .any], [(1, .obj 1 [.sl (.pr (.int .i64) (.pr (.int .i64) (.pr .str (.pr .bool (.pr (.sl .str) (.sl (.int .i64))))))), .nps 1 1, .own 21 5 (.int .u8)])], []⟩
def wqbx (k : Nat) : Ctx := ⟨tyT, [], (.add 82 wq6l (wq27 k) .nil), [], [1], [], @SH⟩
def wq6m (k : Nat) {R : Type}  (x0 : (List dT48)) (x1 : (List Int)) (x2 : (List UInt8)) (K : ((List dT48) → (List Int) → Int → Option R)) : Option R := (wq1x k x0 x1 (fun y6 y7 => (cond (fits y7.length (wqj x2).length 1) (K y6 (y7 ++ (wqj x2)) (x2.length : Int)) none)))
def wql (k : Nat) {R : Type} (x0 : (List dT48)) (x1 : (List Int)) (x2 : (List UInt8)) (K : ((List dT48) → (List Int) → Int → Option R)) : Option R := wq6m k  x0 x1 x2 K
theorem wqap (k : Nat) {R : Type} (x0 : (List dT48)) (x1 : (List Int)) (x2 : (List UInt8)) (K : ((List dT48) → (List Int) → Int → Option R)) : fnW (wqbx k) k Tryz.f53 wqbw [.ptr 1 1, .v .str x2] [(21, .row 5 (.int .u8) x1), (1, .var 72 [.v kdT25 x0, .nps 1 1, .row 21])] (wq5b K) = wql k x0 x1 x2 K := by
  kernel_rfl
def wq1j (k : Nat) {R : Type} : List PV → List (Nm × HObj) → (Out → Option R) → Option R
  | [.ptr 1 1, .v .str x2], [(21, .row 5 (.int .u8) x1), (1, .var 72 [.v (.sl (.pr (.int .i64) (.pr (.int .i64) (.pr .str (.pr .bool (.pr (.sl .str) (.sl (.int .i64)))))))) x0, .nps 1 1, .row 21])], K => wql k x0 x1 x2 (fun y0 y1 y2 => K (.ret [.v (.int .i64) y2, .nilif] [(21, .row 5 (.int .u8) y1), (1, .var 72 [.v (.sl (.pr (.int .i64) (.pr (.int .i64) (.pr .str (.pr .bool (.pr (.sl .str) (.sl (.int .i64)))))))) y0, .nps 1 1, .row 21])]))
  | _, _, _ => none
theorem wq6n (k : Nat) : DOK Tryz.prog 53 (wq1j k) := by
  intro ps hp R K r h
  have h : wq1j k ps hp K = some r := h
  unfold wq1j at h
  split at h
  · rw [← wqap] at h
    exact fnW_ok ⟨tyT_ok, (CTab.add_ok (fun h => wq7t k h) CTab.nil_ok), fun _ _ => rfl⟩ mixed (by kernel_rfl) (by kernel_rfl) h fun o ho => by unfold wq5b at ho; split at ho <;> first | exact ho | cases ho
  · cases h
end Go.Proofs.YtdfhgimidmfgfaaGreatDoor.Pvm
end


namespace Go.Proofs
open Go.Shelf
def Tryz.laysLaysn105_ren : Go.Shelf.Ren := ⟨fun | 105 => 83 | 212 => 118 | 99 => 119 | 165 => 120 | 166 => 53 | 170 => 27 | 169 => 28 | 263 => 147 | 264 => 148 | 206 => 149 | 240 => 82 | 241 => 150 | 276 => 117 | 277 => 170 | n => n, fun | 9 => 9 | 3 => 3 | 4 => 4 | 20 => 20 | 0 => 0 | 46 => 134 | 109 => 166 | 5 => 5 | 72 => 70 | 76 => 104 | 51 => 185 | 146 => 186 | 53 => 159 | 148 => 188 | 70 => 68 | 37 => 35 | 75 => 103 | 127 => 107 | 164 => 164 | 80 => 74 | n => n, fun | n => n⟩
theorem Tryz.laysLaysn105 : Go.Proofs.Lays.n105 Tryz.prog Tryz.laysLaysn105_ren := {
  mixed := by kernel_rfl
  f99 := Tryz.func119.trans (congrArg some (by kernel_rfl))
  f105 := Tryz.func83.trans (congrArg some (by kernel_rfl))
  f165 := Tryz.func120.trans (congrArg some (by kernel_rfl))
  f166 := Tryz.func53.trans (congrArg some (by kernel_rfl))
  f169 := Tryz.func28.trans (congrArg some (by kernel_rfl))
  f170 := Tryz.func27.trans (congrArg some (by kernel_rfl))
  f206 := Tryz.func149.trans (congrArg some (by kernel_rfl))
  f212 := Tryz.func118.trans (congrArg some (by kernel_rfl))
  f240 := Tryz.func82.trans (congrArg some (by kernel_rfl))
  f241 := Tryz.func150.trans (congrArg some (by kernel_rfl))
  f263 := Tryz.func147.trans (congrArg some (by kernel_rfl))
  f264 := Tryz.func148.trans (congrArg some (by kernel_rfl))
  f276 := Tryz.func117.trans (congrArg some (by kernel_rfl))
  f277 := Tryz.func170.trans (congrArg some (by kernel_rfl))
  t0 := Tryz.underlying0
  a0 := Tryz.isAgg0
  z0 := Tryz.sizeOf0
  v0 := Tryz.zeroValue0
  t3 := Tryz.underlying3
  a3 := Tryz.isAgg3
  z3 := Tryz.sizeOf3
  v3 := Tryz.zeroValue3
  t4 := Tryz.underlying4
  a4 := Tryz.isAgg4
  z4 := Tryz.sizeOf4
  v4 := Tryz.zeroValue4
  t5 := Tryz.underlying5
  a5 := Tryz.isAgg5
  z5 := Tryz.sizeOf5
  v5 := Tryz.zeroValue5
  t9 := Tryz.underlying9
  a9 := Tryz.isAgg9
  z9 := Tryz.sizeOf9
  v9 := Tryz.zeroValue9
  t20 := Tryz.underlying20
  a20 := Tryz.isAgg20
  z20 := Tryz.sizeOf20
  v20 := Tryz.zeroValue20
  t37 := Tryz.underlying35
  a37 := Tryz.isAgg35
  z37 := Tryz.sizeOf35
  v37 := Tryz.zeroValue35
  t46 := Tryz.underlying134
  a46 := Tryz.isAgg134
  z46 := Tryz.sizeOf134
  v46 := Tryz.zeroValue134
  t51 := Tryz.underlying185
  a51 := Tryz.isAgg185
  z51 := Tryz.sizeOf185
  v51 := Tryz.zeroValue185
  t53 := Tryz.underlying159
  a53 := Tryz.isAgg159
  z53 := Tryz.sizeOf159
  v53 := Tryz.zeroValue159
  t70 := Tryz.underlying68
  a70 := Tryz.isAgg68
  z70 := Tryz.sizeOf68
  v70 := Tryz.zeroValue68
  t72 := Tryz.underlying70
  a72 := Tryz.isAgg70
  z72 := Tryz.sizeOf70
  v72 := Tryz.zeroValue70
  t75 := Tryz.underlying103
  a75 := Tryz.isAgg103
  z75 := Tryz.sizeOf103
  v75 := Tryz.zeroValue103
  t76 := Tryz.underlying104
  a76 := Tryz.isAgg104
  z76 := Tryz.sizeOf104
  v76 := Tryz.zeroValue104
  t109 := Tryz.underlying166
  a109 := Tryz.isAgg166
  z109 := Tryz.sizeOf166
  v109 := Tryz.zeroValue166
  t127 := Tryz.underlying107
  a127 := Tryz.isAgg107
  z127 := Tryz.sizeOf107
  v127 := Tryz.zeroValue107
  t146 := Tryz.underlying186
  a146 := Tryz.isAgg186
  z146 := Tryz.sizeOf186
  v146 := Tryz.zeroValue186
  t148 := Tryz.underlying188
  a148 := Tryz.isAgg188
  z148 := Tryz.sizeOf188
  v148 := Tryz.zeroValue188
  t164 := Tryz.underlying164
  a164 := Tryz.isAgg164
  z164 := Tryz.sizeOf164
  v164 := Tryz.zeroValue164 }
theorem Tryz.extra105 : Builder.Extra Tryz.prog Tryz.laysLaysn105_ren where
  sizeBuilder := by kernel_rfl
  liesBuilder := by kernel_rfl
  t5 := Tryz.underlying5
  a5 := Tryz.isAgg5
  z5 := Tryz.sizeOf5
  v5 := Tryz.zeroValue5
  infoByte := by kernel_rfl
  cellsByte := by kernel_rfl
  sizeByte := by kernel_rfl
  neB5 := by decide
end Go.Proofs
namespace Go.Proofs.YtdfhgimidmfgfaaGreatDoor.Pvm
open Go Go.Proofs Go.RowKit Go.Shelf
def repS (s : List UInt8) (n : Nat) : List UInt8 := Lib.repeatL s n
def wqsu : List LS := [.any, .any]
def wqb8 (k : Nat) {R : Type} (x0 : List UInt8) (x1 : Int) (K : List UInt8 → Option R) : Option R := bif decide (0 ≤ x1) && decide (x1 ≤ 1000000) && decide (x0.length ≤ 1000000) then K (repS x0 x1.toNat) else none
def wqcl (k : Nat) {R : Type} : List PV → List (Nm × HObj) → (Out → Option R) → Option R
  | [.v .str x0, .v (.int .i64) x1], [], K => wqb8 k x0 x1 (fun y0 => K (.ret [.v .str y0] []))
  | _, _, _ => none
theorem wqwk (k : Nat) {ps : List PV} {hp : List (Nm × HObj)} {R : Type} {K : Out → Option R} {r : R} (h : wqcl k ps hp K = some r) : DoesTo Tryz.prog 83 ps hp fun out => K out = some r := by
  unfold wqcl at h
  split at h
  · next x0 x1 =>
    intro G w vals hr obj dis
    obtain ⟨v0, l0, rfl, h0, v1, l1, rfl, h1, rfl⟩ := hr
    have e0 : v0 = .string ⟨x0.toArray⟩ := by simpa [RV, RD] using h0
    have e1 : v1 = .int .i64 x1 := by simpa [RV, RD] using h1
    subst e0 e1
    unfold wqb8 at h
    cases hx : (decide (0 ≤ x1) && decide (x1 ≤ 1000000) && decide (x0.length ≤ 1000000)) with
    | false => rw [hx] at h; cases h
    | true =>
      rw [hx, cond_true] at h
      simp only [Bool.and_eq_true, decide_eq_true_eq] at hx
      obtain ⟨⟨g0, g1⟩, g2⟩ := hx
      obtain ⟨n, rfl⟩ : ∃ n : Nat, x1 = (n : Int) := ⟨x1.toNat, (Int.toNat_of_nonneg g0).symm⟩
      have hn : n ≤ 1000000 := by
        have : (n : Int) ≤ 1000000 := g1
        omega
      have hsz : (⟨x0.toArray⟩ : ByteArray).size = x0.length := by simp [ByteArray.size]
      have hmul : x0.length * n ≤ 1000000 * 1000000 := Nat.mul_le_mul g2 hn
      have c := Any.strings_Repeat Tryz.laysLaysn105 Tryz.extra105 ⟨x0.toArray⟩ n w (by omega) (by rw [hsz]; omega)
      show Does _ _ #[_, _] _ _
      unfold Does
      rw [enters (P := Tryz.prog) (fn := Tryz.f83) (c := Tryz.f83.body.getD .skip) (by kernel_rfl) (by kernel_rfl) (by kernel_rfl)]
      refine Calls.mono c fun e w' hh => ?_
      obtain ⟨rfl, b⟩ := hh
      exact ⟨.ret [.v .str (repS x0 n)] [], h, G, ⟨_, rfl, rfl⟩, wq173 b⟩
  · cases h
end Go.Proofs.YtdfhgimidmfgfaaGreatDoor.Pvm
noncomputable section
namespace Go.Proofs.YtdfhgimidmfgfaaGreatDoor.Pvm
open Go Go.Proofs
def wqj2 : List LS := [.obj 1 [.sl kdT48, .nps 1 1, .own 21 5 (.int .u8)], .any]
def wqhu {R : Type} (K : ((List dT48) → (List Int) → Option R)) : Out → Option R
  | .ret [] [(21, .row 5 (.int .u8) y1), (1, .var 72 [.v (.sl (.pr (.int .i64) (.pr (.int .i64) (.pr .str (.pr .bool (.pr (.sl .str) (.sl (.int .i64)))))))) y0, .nps 1 1, .row 21])] => K y0 y1
  | _ => none
def wqu9 : RetSpec := ⟨[], [(1, .obj 1 [.sl (.pr (.int .i64) (.pr (.int .i64) (.pr .str (.pr .bool (.pr (.sl .str) (.sl (.int .i64))))))), .nps 1 1, .own 21 5 (.int .u8)])], []⟩
def wqua (k : Nat) : Ctx := ⟨tyT, [], (.add 53 wq5t (wq1j k) (.add 83 wqsu (wqcl k) .nil)), [], [1], [(0, (.of [(0, 1), (1, 1), (2, 1), (3, 1), (4, 0), (5, 0)] .done))], @SH⟩
def wqlt (k : Nat) {R : Type}  (x0 : (List dT48)) (x1 : (List Int)) (x2 : Int) (K : ((List dT48) → (List Int) → Option R)) : Option R := (wqb8 k [32] x2 (fun y6 => (wql k x0 x1 y6 (fun y7 y8 y9 => (K y7 y8)))))
def wq53 (k : Nat) {R : Type} (x0 : (List dT48)) (x1 : (List Int)) (x2 : Int) (K : ((List dT48) → (List Int) → Option R)) : Option R := wqlt k  x0 x1 x2 K
theorem wqr0 (k : Nat) {R : Type} (x0 : (List dT48)) (x1 : (List Int)) (x2 : Int) (K : ((List dT48) → (List Int) → Option R)) : fnW (wqua k) k Tryz.f54 wqu9 [.ptr 1 0, .v kI x2] [(21, .row 5 (.int .u8) x1), (1, .var 72 [.v kdT25 x0, .nps 1 1, .row 21])] (wqhu K) = wq53 k x0 x1 x2 K := by
  kernel_rfl
def wq6o (k : Nat) {R : Type} : List PV → List (Nm × HObj) → (Out → Option R) → Option R
  | [.ptr 1 0, .v (.int .i64) x2], [(21, .row 5 (.int .u8) x1), (1, .var 72 [.v (.sl (.pr (.int .i64) (.pr (.int .i64) (.pr .str (.pr .bool (.pr (.sl .str) (.sl (.int .i64)))))))) x0, .nps 1 1, .row 21])], K => wq53 k x0 x1 x2 (fun y0 y1 => K (.ret [] [(21, .row 5 (.int .u8) y1), (1, .var 72 [.v (.sl (.pr (.int .i64) (.pr (.int .i64) (.pr .str (.pr .bool (.pr (.sl .str) (.sl (.int .i64)))))))) y0, .nps 1 1, .row 21])]))
  | _, _, _ => none
theorem wqlu (k : Nat) : DOK Tryz.prog 54 (wq6o k) := by
  intro ps hp R K r h
  have h : wq6o k ps hp K = some r := h
  unfold wq6o at h
  split at h
  · rw [← wqr0] at h
    exact fnW_ok ⟨tyT_ok, (wqm (wq6n k) (CTab.add_ok (fun h => wqwk k h) CTab.nil_ok)), fun _ _ => rfl⟩ mixed (by kernel_rfl) (by kernel_rfl) h fun o ho => by unfold wqhu at ho; split at ho <;> first | exact ho | cases ho
  · cases h
end Go.Proofs.YtdfhgimidmfgfaaGreatDoor.Pvm
end


noncomputable section
namespace Go.Proofs.YtdfhgimidmfgfaaGreatDoor.Pvm
open Go Go.Proofs
def wqcm : List LS := [.obj 1 [.sl kdT48, .nps 1 1, .own 21 5 (.int .u8)], .any]
def wq62 {R : Type} (K : ((List dT48) → (List Int) → Option R)) : Out → Option R
  | .ret [.nilif] [(21, .row 5 (.int .u8) y1), (1, .var 72 [.v (.sl (.pr (.int .i64) (.pr (.int .i64) (.pr .str (.pr .bool (.pr (.sl .str) (.sl (.int .i64)))))))) y0, .nps 1 1, .row 21])] => K y0 y1
  | _ => none
def wqe3 : RetSpec := ⟨[.any], [(1, .obj 1 [.sl (.pr (.int .i64) (.pr (.int .i64) (.pr .str (.pr .bool (.pr (.sl .str) (.sl (.int .i64))))))), .nps 1 1, .own 21 5 (.int .u8)])], []⟩
def wqe4 (k : Nat) : Ctx := ⟨tyT, [], (.add 82 wq6l (wq27 k) .nil), [], [1], [], @SH⟩
def wq7u (k : Nat) {R : Type}  (x0 : (List dT48)) (x1 : (List Int)) (x2 : Int) (K : ((List dT48) → (List Int) → Option R)) : Option R := (wq1x k x0 x1 (fun y6 y7 => (cond (fits y7.length ([x2]).length 1) (K y6 (y7 ++ [x2])) none)))
def wq1i (k : Nat) {R : Type} (x0 : (List dT48)) (x1 : (List Int)) (x2 : Int) (K : ((List dT48) → (List Int) → Option R)) : Option R := wq7u k  x0 x1 x2 K
theorem wqby (k : Nat) {R : Type} (x0 : (List dT48)) (x1 : (List Int)) (x2 : Int) (K : ((List dT48) → (List Int) → Option R)) : fnW (wqe4 k) k Tryz.f81 wqe3 [.ptr 1 1, .v (.int .u8) x2] [(21, .row 5 (.int .u8) x1), (1, .var 72 [.v kdT25 x0, .nps 1 1, .row 21])] (wq62 K) = wq1i k x0 x1 x2 K := by
  kernel_rfl
def wq28 (k : Nat) {R : Type} : List PV → List (Nm × HObj) → (Out → Option R) → Option R
  | [.ptr 1 1, .v (.int .u8) x2], [(21, .row 5 (.int .u8) x1), (1, .var 72 [.v (.sl (.pr (.int .i64) (.pr (.int .i64) (.pr .str (.pr .bool (.pr (.sl .str) (.sl (.int .i64)))))))) x0, .nps 1 1, .row 21])], K => wq1i k x0 x1 x2 (fun y0 y1 => K (.ret [.nilif] [(21, .row 5 (.int .u8) y1), (1, .var 72 [.v (.sl (.pr (.int .i64) (.pr (.int .i64) (.pr .str (.pr .bool (.pr (.sl .str) (.sl (.int .i64)))))))) y0, .nps 1 1, .row 21])]))
  | _, _, _ => none
theorem wqex (k : Nat) : DOK Tryz.prog 81 (wq28 k) := by
  intro ps hp R K r h
  have h : wq28 k ps hp K = some r := h
  unfold wq28 at h
  split at h
  · rw [← wqby] at h
    exact fnW_ok ⟨tyT_ok, (CTab.add_ok (fun h => wq7t k h) CTab.nil_ok), fun _ _ => rfl⟩ mixed (by kernel_rfl) (by kernel_rfl) h fun o ho => by unfold wq62 at ho; split at ho <;> first | exact ho | cases ho
  · cases h
end Go.Proofs.YtdfhgimidmfgfaaGreatDoor.Pvm
end


noncomputable section
namespace Go.Proofs.YtdfhgimidmfgfaaGreatDoor.Pvm
open Go Go.Proofs
abbrev wq11 : Type 1 := (R : Type) → (List dT48) → (List Int) → Int → Int → ((List dT48) → (List Int) → Option R) → Option R
abbrev wq14 : Type 1 := (R : Type) → (List dT48) → (List Int) → Int → Int → ((List dT48) → (List Int) → Option R) → Option R
def wq9n : List LS := [.obj 1 [.sl kdT48, .nps 1 1, .own 21 5 (.int .u8)], .any, .any]
def wq5u (wq5 : wq11) {R : Type} : List PV → List (Nm × HObj) → (Out → Option R) → Option R
  | [.ptr 1 0, .v (.int .i64) x2, .v (.int .i64) x3], [(21, .row 5 (.int .u8) x1), (1, .var 72 [.v (.sl (.pr (.int .i64) (.pr (.int .i64) (.pr .str (.pr .bool (.pr (.sl .str) (.sl (.int .i64)))))))) x0, .nps 1 1, .row 21])], K => wq5 R x0 x1 x2 x3 (fun y0 y1 => K (.ret [] [(21, .row 5 (.int .u8) y1), (1, .var 72 [.v (.sl (.pr (.int .i64) (.pr (.int .i64) (.pr .str (.pr .bool (.pr (.sl .str) (.sl (.int .i64)))))))) y0, .nps 1 1, .row 21])]))
  | _, _, _ => none
def wqp9 : List LS := [.obj 1 [.sl kdT48, .nps 1 1, .own 21 5 (.int .u8)], .any, .any]
def wqf9 (wqa : wq14) {R : Type} : List PV → List (Nm × HObj) → (Out → Option R) → Option R
  | [.ptr 1 0, .v (.int .i64) x2, .v (.int .i64) x3], [(21, .row 5 (.int .u8) x1), (1, .var 72 [.v (.sl (.pr (.int .i64) (.pr (.int .i64) (.pr .str (.pr .bool (.pr (.sl .str) (.sl (.int .i64)))))))) x0, .nps 1 1, .row 21])], K => wqa R x0 x1 x2 x3 (fun y0 y1 => K (.ret [] [(21, .row 5 (.int .u8) y1), (1, .var 72 [.v (.sl (.pr (.int .i64) (.pr (.int .i64) (.pr .str (.pr .bool (.pr (.sl .str) (.sl (.int .i64)))))))) y0, .nps 1 1, .row 21])]))
  | _, _, _ => none
def wq2s {R : Type} (K : ((List dT48) → (List Int) → Option R)) : Out → Option R
  | .ret [] [(21, .row 5 (.int .u8) y1), (1, .var 72 [.v (.sl (.pr (.int .i64) (.pr (.int .i64) (.pr .str (.pr .bool (.pr (.sl .str) (.sl (.int .i64)))))))) y0, .nps 1 1, .row 21])] => K y0 y1
  | _ => none
def wq54 : RetSpec := ⟨[], [(1, .obj 1 [.sl (.pr (.int .i64) (.pr (.int .i64) (.pr .str (.pr .bool (.pr (.sl .str) (.sl (.int .i64))))))), .nps 1 1, .own 21 5 (.int .u8)])], []⟩
def wq55 (k : Nat) (wq5 : wq11) (wqa : wq14) : Ctx := ⟨tyT, [(1008, ⟨[(0, .obj 1 [.sl kdT48, .nps 1 1, .own 21 5 (.int .u8)]), (2, .any), (39, .sl kI), (40, .any), (41, .any)], [(1, .obj 1 [.sl kdT48, .nps 1 1, .own 21 5 (.int .u8)])]⟩), (1017, ⟨[(0, .obj 1 [.sl kdT48, .nps 1 1, .own 21 5 (.int .u8)]), (2, .any), (6, .obj 16 [.any, .any, .any, .any, .sl .str, .sl kI]), (64, .sl kI), (65, .any), (66, .any)], [(1, .obj 1 [.sl kdT48, .nps 1 1, .own 21 5 (.int .u8)])]⟩)], (.add 26 wq9n (wq5u wq5) (.add 52 wq10n (wqfp k) (.add 53 wq5t (wq1j k) (.add 54 wqj2 (wq6o k) (.add 55 wqp9 (wqf9 wqa) .nil))))), [], [1], [(5, (.of [(0, 1), (1, 1), (2, 1), (3, 1), (4, 1), (5, 1), (6, 0)] .done)), (21, (.of [(0, 1), (1, 1), (2, 1), (3, 1), (5, 1), (4, 1), (6, 1), (7, 1), (8, 1), (9, 0)] .done))], @SH⟩
def wq40 (s0 : (List dT48)) (s1 : (List Int)) (s2 : Int) (s3 : (List Int)) (s4 s5 : Int) : St := ⟨mkT [(0, .ptr 1 0), (2, .v kI s2), (39, .v (.sl kI) s3), (40, .v kI s4), (41, .v kI s5)], mkH [(21, .row 5 (.int .u8) s1), (1, .var 72 [.v kdT25 s0, .nps 1 1, .row 21])]⟩
def wq41 (s0 : (List dT48)) (s1 : (List Int)) (s2 s3 s4 : Int) (s5 : (List UInt8)) (s6 : Bool) (s7 : (List (List UInt8))) (s8 s9 : (List Int)) (s10 s11 : Int) : St := ⟨mkT [(0, .ptr 1 0), (2, .v kI s2), (6, .ptr 16 0), (64, .v (.sl kI) s9), (65, .v kI s10), (66, .v kI s11)], mkH [(21, .row 5 (.int .u8) s1), (1, .var 72 [.v kdT25 s0, .nps 1 1, .row 21]), (16, .var 49 [.v kI s3, .v kI s4, .v .str s5, .v .bool s6, .v (.sl .str) s7, .v (.sl kI) s8])]⟩
def wq7c (k : Nat) (wq5 : wq11) (wqa : wq14) {R : Type} (I : Nat → St → Option R) (n : Nat) (s : St) (K : ((List dT48) → (List Int) → Option R)) : Option R := loopK (wq55 k wq5 wqa) k Tryz.f26 wq54 1008 [1, 1, 0, 1, 1, 1, 0, 1, 0] I n s (wq2s K)
def wq7d (k : Nat) (wq5 : wq11) (wqa : wq14) {R : Type} (I : Nat → St → Option R) (n : Nat) (s : St) (K : ((List dT48) → (List Int) → Option R)) : Option R := loopK (wq55 k wq5 wqa) k Tryz.f26 wq54 1017 [1, 1, 0, 1, 1, 1, 1, 1, 0, 1, 0] I n s (wq2s K)
def wq4n (k : Nat) (wq5 : wq11) (wqa : wq14) {R : Type} (E1008 : ((List dT48) → (List Int) → Int → (List Int) → Int → Int → Option R)) (s0 : (List dT48)) (s1 : (List Int)) (s2 : Int) (s3 : (List Int)) (s4 s5 : Int) (K : ((List dT48) → (List Int) → Option R)) : Option R := (cond (decide (s5 < s4)) (cond (inb s5 (s3.length : Int)) (cond (decide (s5 > 0)) (wq53 k s0 s1 s2 (fun y11 y12 => (wql k y11 y12 [45, 32] (fun y13 y14 y15 => (wq5 R y13 y14 (s3.getD s5.toNat kI.zero) (@Go.IntKind.wrap Go.IntKind.i64 (s2 + 2)) (fun y16 y17 => (E1008 y16 y17 s2 s3 s4 (@Go.IntKind.wrap Go.IntKind.i64 (s5 + 1))))))))) (wql k s0 s1 [45, 32] (fun y11 y12 y13 => (wq5 R y11 y12 (s3.getD s5.toNat kI.zero) (@Go.IntKind.wrap Go.IntKind.i64 (s2 + 2)) (fun y14 y15 => (E1008 y14 y15 s2 s3 s4 (@Go.IntKind.wrap Go.IntKind.i64 (s5 + 1)))))))) none) (K s0 s1))
theorem wqha (k : Nat) (wq5 : wq11) (wqa : wq14) {R : Type} (I : Nat → St → Option R) (s0 : (List dT48)) (s1 : (List Int)) (s2 : Int) (s3 : (List Int)) (s4 s5 : Int) (K : ((List dT48) → (List Int) → Option R)) : bodyK (wq55 k wq5 wqa) k Tryz.f26 wq54 [1, 1, 0, 1, 1, 1, 0, 1, 0, 0] I (wq40 s0 s1 s2 s3 s4 s5) (wq2s K) = wq4n k wq5 wqa (fun s0 s1 s2 s3 s4 s5 => I 1008 (wq40 s0 s1 s2 s3 s4 s5)) s0 s1 s2 s3 s4 s5 K := by kernel_rfl
def wq4o (k : Nat) (wq5 : wq11) (wqa : wq14) {R : Type} (E1017 : ((List dT48) → (List Int) → Int → Int → Int → (List UInt8) → Bool → (List (List UInt8)) → (List Int) → (List Int) → Int → Int → Option R)) (s0 : (List dT48)) (s1 : (List Int)) (s2 s3 s4 : Int) (s5 : (List UInt8)) (s6 : Bool) (s7 : (List (List UInt8))) (s8 s9 : (List Int)) (s10 s11 : Int) (K : ((List dT48) → (List Int) → Option R)) : Option R := (cond (decide (s11 < s10)) (cond (inb s11 (s9.length : Int)) (cond (decide (s11 > 0)) (wq53 k s0 s1 s2 (fun y17 y18 => (cond (inb s11 (s7.length : Int)) (cond (joins (s7.getD s11.toNat Kd.str.zero) [58]) (wql k y17 y18 ((s7.getD s11.toNat Kd.str.zero) ++ [58]) (fun y19 y20 y21 => (wqa R y19 y20 (s9.getD s11.toNat kI.zero) s2 (fun y22 y23 => (E1017 y22 y23 s2 s3 s4 s5 s6 s7 s8 s9 s10 (@Go.IntKind.wrap Go.IntKind.i64 (s11 + 1))))))) none) none))) (cond (inb s11 (s7.length : Int)) (cond (joins (s7.getD s11.toNat Kd.str.zero) [58]) (wql k s0 s1 ((s7.getD s11.toNat Kd.str.zero) ++ [58]) (fun y17 y18 y19 => (wqa R y17 y18 (s9.getD s11.toNat kI.zero) s2 (fun y20 y21 => (E1017 y20 y21 s2 s3 s4 s5 s6 s7 s8 s9 s10 (@Go.IntKind.wrap Go.IntKind.i64 (s11 + 1))))))) none) none)) none) (K s0 s1))
theorem wqhb (k : Nat) (wq5 : wq11) (wqa : wq14) {R : Type} (I : Nat → St → Option R) (s0 : (List dT48)) (s1 : (List Int)) (s2 s3 s4 : Int) (s5 : (List UInt8)) (s6 : Bool) (s7 : (List (List UInt8))) (s8 s9 : (List Int)) (s10 s11 : Int) (K : ((List dT48) → (List Int) → Option R)) : bodyK (wq55 k wq5 wqa) k Tryz.f26 wq54 [1, 1, 0, 1, 1, 1, 1, 1, 0, 1, 0, 0] I (wq41 s0 s1 s2 s3 s4 s5 s6 s7 s8 s9 s10 s11) (wq2s K) = wq4o k wq5 wqa (fun s0 s1 s2 s3 s4 s5 s6 s7 s8 s9 s10 s11 => I 1017 (wq41 s0 s1 s2 s3 s4 s5 s6 s7 s8 s9 s10 s11)) s0 s1 s2 s3 s4 s5 s6 s7 s8 s9 s10 s11 K := by kernel_rfl
def wqb9 (k : Nat) (wq5 : wq11) (wqa : wq14) {R : Type} (E1008 : ((List dT48) → (List Int) → Int → (List Int) → Int → Int → Option R)) (E1017 : ((List dT48) → (List Int) → Int → Int → Int → (List UInt8) → Bool → (List (List UInt8)) → (List Int) → (List Int) → Int → Int → Option R)) (x0 : (List dT48)) (x1 : (List Int)) (x2 x3 : Int) (K : ((List dT48) → (List Int) → Option R)) : Option R := (cond (inb x2 (x0.length : Int)) (cond ((x0.getD x2.toNat (Kd.zero (@Kd.pr kI (@Kd.pr kI (@Kd.pr Kd.str (@Kd.pr Kd.bool (@Kd.pr (@Kd.sl Kd.str) (@Kd.sl kI)))))))).1 == 1) (cond ((((x0.getD x2.toNat (Kd.zero (@Kd.pr kI (@Kd.pr kI (@Kd.pr Kd.str (@Kd.pr Kd.bool (@Kd.pr (@Kd.sl Kd.str) (@Kd.sl kI)))))))).2).2).2).1 (wqgx k (((x0.getD x2.toNat (Kd.zero (@Kd.pr kI (@Kd.pr kI (@Kd.pr Kd.str (@Kd.pr Kd.bool (@Kd.pr (@Kd.sl Kd.str) (@Kd.sl kI)))))))).2).2).1 (fun y9 => (cond (joins y9 [10]) (wql k x0 x1 (y9 ++ [10]) (fun y10 y11 y12 => (K y10 y11))) none))) (cond (joins (((x0.getD x2.toNat (Kd.zero (@Kd.pr kI (@Kd.pr kI (@Kd.pr Kd.str (@Kd.pr Kd.bool (@Kd.pr (@Kd.sl Kd.str) (@Kd.sl kI)))))))).2).2).1 [10]) (wql k x0 x1 ((((x0.getD x2.toNat (Kd.zero (@Kd.pr kI (@Kd.pr kI (@Kd.pr Kd.str (@Kd.pr Kd.bool (@Kd.pr (@Kd.sl Kd.str) (@Kd.sl kI)))))))).2).2).1 ++ [10]) (fun y9 y10 y11 => (K y9 y10))) none)) (cond ((x0.getD x2.toNat (Kd.zero (@Kd.pr kI (@Kd.pr kI (@Kd.pr Kd.str (@Kd.pr Kd.bool (@Kd.pr (@Kd.sl Kd.str) (@Kd.sl kI)))))))).1 == 2) (E1008 x0 x1 x3 (((((x0.getD x2.toNat (Kd.zero (@Kd.pr kI (@Kd.pr kI (@Kd.pr Kd.str (@Kd.pr Kd.bool (@Kd.pr (@Kd.sl Kd.str) (@Kd.sl kI)))))))).2).2).2).2).2 (((((((x0.getD x2.toNat (Kd.zero (@Kd.pr kI (@Kd.pr kI (@Kd.pr Kd.str (@Kd.pr Kd.bool (@Kd.pr (@Kd.sl Kd.str) (@Kd.sl kI)))))))).2).2).2).2).2).length : Int) 0) (cond ((x0.getD x2.toNat (Kd.zero (@Kd.pr kI (@Kd.pr kI (@Kd.pr Kd.str (@Kd.pr Kd.bool (@Kd.pr (@Kd.sl Kd.str) (@Kd.sl kI)))))))).1 == 3) (E1017 x0 x1 x3 (x0.getD x2.toNat (Kd.zero (@Kd.pr kI (@Kd.pr kI (@Kd.pr Kd.str (@Kd.pr Kd.bool (@Kd.pr (@Kd.sl Kd.str) (@Kd.sl kI)))))))).1 ((x0.getD x2.toNat (Kd.zero (@Kd.pr kI (@Kd.pr kI (@Kd.pr Kd.str (@Kd.pr Kd.bool (@Kd.pr (@Kd.sl Kd.str) (@Kd.sl kI)))))))).2).1 (((x0.getD x2.toNat (Kd.zero (@Kd.pr kI (@Kd.pr kI (@Kd.pr Kd.str (@Kd.pr Kd.bool (@Kd.pr (@Kd.sl Kd.str) (@Kd.sl kI)))))))).2).2).1 ((((x0.getD x2.toNat (Kd.zero (@Kd.pr kI (@Kd.pr kI (@Kd.pr Kd.str (@Kd.pr Kd.bool (@Kd.pr (@Kd.sl Kd.str) (@Kd.sl kI)))))))).2).2).2).1 (((((x0.getD x2.toNat (Kd.zero (@Kd.pr kI (@Kd.pr kI (@Kd.pr Kd.str (@Kd.pr Kd.bool (@Kd.pr (@Kd.sl Kd.str) (@Kd.sl kI)))))))).2).2).2).2).1 (((((x0.getD x2.toNat (Kd.zero (@Kd.pr kI (@Kd.pr kI (@Kd.pr Kd.str (@Kd.pr Kd.bool (@Kd.pr (@Kd.sl Kd.str) (@Kd.sl kI)))))))).2).2).2).2).2 (((((x0.getD x2.toNat (Kd.zero (@Kd.pr kI (@Kd.pr kI (@Kd.pr Kd.str (@Kd.pr Kd.bool (@Kd.pr (@Kd.sl Kd.str) (@Kd.sl kI)))))))).2).2).2).2).2 (((((((x0.getD x2.toNat (Kd.zero (@Kd.pr kI (@Kd.pr kI (@Kd.pr Kd.str (@Kd.pr Kd.bool (@Kd.pr (@Kd.sl Kd.str) (@Kd.sl kI)))))))).2).2).2).2).2).length : Int) 0) (K x0 x1)))) none)
def wq29 (k : Nat) (wq5 : wq11) (wqa : wq14) {R : Type}  : Nat → (List dT48) → (List Int) → Int → Int → Int → (List UInt8) → Bool → (List (List UInt8)) → (List Int) → (List Int) → Int → Int → ((List dT48) → (List Int) → Option R) → Option R
  | 0, _, _, _, _, _, _, _, _, _, _, _, _, _ => none
  | n + 1, s0, s1, s2, s3, s4, s5, s6, s7, s8, s9, s10, s11, K => wq4o k wq5 wqa (fun s0 s1 s2 s3 s4 s5 s6 s7 s8 s9 s10 s11 => wq29 k wq5 wqa  n s0 s1 s2 s3 s4 s5 s6 s7 s8 s9 s10 s11 K) s0 s1 s2 s3 s4 s5 s6 s7 s8 s9 s10 s11 K
theorem wqhc (k : Nat) (wq5 : wq11) (wqa : wq14) {R : Type} (I : Nat → St → Option R) (K : ((List dT48) → (List Int) → Option R)) (n : Nat) : ∀ (s0 : (List dT48)) (s1 : (List Int)) (s2 s3 s4 : Int) (s5 : (List UInt8)) (s6 : Bool) (s7 : (List (List UInt8))) (s8 s9 : (List Int)) (s10 s11 : Int), wq7d k wq5 wqa I n (wq41 s0 s1 s2 s3 s4 s5 s6 s7 s8 s9 s10 s11) K = wq29 k wq5 wqa  n s0 s1 s2 s3 s4 s5 s6 s7 s8 s9 s10 s11 K := by
  induction n with
  | zero => intros; rfl
  | succ n ih =>
    intro s0 s1 s2 s3 s4 s5 s6 s7 s8 s9 s10 s11
    refine (?_ : _ = _).trans ((wqhb k wq5 wqa (upI 1017 (fun s => wq7d k wq5 wqa I n s K) I) s0 s1 s2 s3 s4 s5 s6 s7 s8 s9 s10 s11 K).trans ?_)
    · rfl
    · simp only [wq1o, ih] <;> rfl
def wq2a (k : Nat) (wq5 : wq11) (wqa : wq14) {R : Type}  : Nat → (List dT48) → (List Int) → Int → (List Int) → Int → Int → ((List dT48) → (List Int) → Option R) → Option R
  | 0, _, _, _, _, _, _, _ => none
  | n + 1, s0, s1, s2, s3, s4, s5, K => wq4n k wq5 wqa (fun s0 s1 s2 s3 s4 s5 => wq2a k wq5 wqa  n s0 s1 s2 s3 s4 s5 K) s0 s1 s2 s3 s4 s5 K
theorem wqhd (k : Nat) (wq5 : wq11) (wqa : wq14) {R : Type} (I : Nat → St → Option R) (K : ((List dT48) → (List Int) → Option R)) (n : Nat) : ∀ (s0 : (List dT48)) (s1 : (List Int)) (s2 : Int) (s3 : (List Int)) (s4 s5 : Int), wq7c k wq5 wqa I n (wq40 s0 s1 s2 s3 s4 s5) K = wq2a k wq5 wqa  n s0 s1 s2 s3 s4 s5 K := by
  induction n with
  | zero => intros; rfl
  | succ n ih =>
    intro s0 s1 s2 s3 s4 s5
    refine (?_ : _ = _).trans ((wqha k wq5 wqa (upI 1008 (fun s => wq7c k wq5 wqa I n s K) I) s0 s1 s2 s3 s4 s5 K).trans ?_)
    · rfl
    · simp only [wq1o, ih] <;> rfl
def wqfa {R : Type} (K : ((List dT48) → (List Int) → Option R)) : Out → Option R
  | .ret [] [(21, .row 5 (.int .u8) y1), (1, .var 72 [.v (.sl (.pr (.int .i64) (.pr (.int .i64) (.pr .str (.pr .bool (.pr (.sl .str) (.sl (.int .i64)))))))) y0, .nps 1 1, .row 21])] => K y0 y1
  | _ => none
def wqr1 : RetSpec := ⟨[], [(1, .obj 1 [.sl (.pr (.int .i64) (.pr (.int .i64) (.pr .str (.pr .bool (.pr (.sl .str) (.sl (.int .i64))))))), .nps 1 1, .own 21 5 (.int .u8)])], []⟩
def wqr2 (k : Nat) (wq5 : wq11) (wqa : wq14) : Ctx := ⟨tyT, [], (.add 26 wq9n (wq5u wq5) (.add 54 wqj2 (wq6o k) (.add 81 wqcm (wq28 k) .nil))), [], [1], [], @SH⟩
def wqj3 (k : Nat) (wq5 : wq11) (wqa : wq14) {R : Type}  (x0 : (List dT48)) (x1 : (List Int)) (x2 x3 : Int) (K : ((List dT48) → (List Int) → Option R)) : Option R := (cond (inb x2 (x0.length : Int)) (cond ((x0.getD x2.toNat (Kd.zero (@Kd.pr kI (@Kd.pr kI (@Kd.pr Kd.str (@Kd.pr Kd.bool (@Kd.pr (@Kd.sl Kd.str) (@Kd.sl kI)))))))).1 == 1) (wq1i k x0 x1 32 (fun y7 y8 => (wq5 R y7 y8 x2 (@Go.IntKind.wrap Go.IntKind.i64 (x3 + 2)) (fun y9 y10 => (K y9 y10))))) (wq1i k x0 x1 10 (fun y7 y8 => (wq53 k y7 y8 (@Go.IntKind.wrap Go.IntKind.i64 (x3 + 2)) (fun y9 y10 => (wq5 R y9 y10 x2 (@Go.IntKind.wrap Go.IntKind.i64 (x3 + 2)) (fun y11 y12 => (K y11 y12)))))))) none)
mutual
def wqx : Nat → (R : Type) → (List dT48) → (List Int) → Int → Int → ((List dT48) → (List Int) → Option R) → Option R
  | 0, _, _, _, _, _, _ => none
  | k + 1, R, x0, x1, x2, x3, K => wqb9 k (wqx k) (FR_show_writer_pair k) (fun s0 s1 s2 s3 s4 s5 => wq2a k (wqx k) (FR_show_writer_pair k) k s0 s1 s2 s3 s4 s5 K) (fun s0 s1 s2 s3 s4 s5 s6 s7 s8 s9 s10 s11 => wq29 k (wqx k) (FR_show_writer_pair k) k s0 s1 s2 s3 s4 s5 s6 s7 s8 s9 s10 s11 K) x0 x1 x2 x3 K
def FR_show_writer_pair : Nat → (R : Type) → (List dT48) → (List Int) → Int → Int → ((List dT48) → (List Int) → Option R) → Option R
  | 0, _, _, _, _, _, _ => none
  | k + 1, R, x0, x1, x2, x3, K => wqj3 k (wqx k) (FR_show_writer_pair k)  x0 x1 x2 x3 K
end
def wq5v (k : Nat) {R : Type} (x0 : (List dT48)) (x1 : (List Int)) (x2 x3 : Int) (K : ((List dT48) → (List Int) → Option R)) : Option R := wqx k R x0 x1 x2 x3 K
def wqcn (k : Nat) {R : Type} (x0 : (List dT48)) (x1 : (List Int)) (x2 x3 : Int) (K : ((List dT48) → (List Int) → Option R)) : Option R := FR_show_writer_pair k R x0 x1 x2 x3 K
theorem wqlv (k : Nat) {R : Type} (x0 : (List dT48)) (x1 : (List Int)) (x2 x3 : Int) (K : ((List dT48) → (List Int) → Option R)) : fnW (wq55 k (wqx k) (FR_show_writer_pair k)) k Tryz.f26 wq54 [.ptr 1 0, .v kI x2, .v kI x3] [(21, .row 5 (.int .u8) x1), (1, .var 72 [.v kdT25 x0, .nps 1 1, .row 21])] (wq2s K) = wqx (k + 1) R x0 x1 x2 x3 K := by
  rw [wqx]
  refine Eq.trans (b := wqb9 k (wqx k) (FR_show_writer_pair k) (fun s0 s1 s2 s3 s4 s5 => wq7c k (wqx k) (FR_show_writer_pair k) (fun _ _ => none) k (wq40 s0 s1 s2 s3 s4 s5) K) (fun s0 s1 s2 s3 s4 s5 s6 s7 s8 s9 s10 s11 => wq7d k (wqx k) (FR_show_writer_pair k) (fun _ _ => none) k (wq41 s0 s1 s2 s3 s4 s5 s6 s7 s8 s9 s10 s11) K) x0 x1 x2 x3 K) (by kernel_rfl) ?_
  simp only [wqhd, wqhc] <;> rfl
def wq1n (k : Nat) {R : Type} : List PV → List (Nm × HObj) → (Out → Option R) → Option R
  | [.ptr 1 0, .v (.int .i64) x2, .v (.int .i64) x3], [(21, .row 5 (.int .u8) x1), (1, .var 72 [.v (.sl (.pr (.int .i64) (.pr (.int .i64) (.pr .str (.pr .bool (.pr (.sl .str) (.sl (.int .i64)))))))) x0, .nps 1 1, .row 21])], K => wq5v k x0 x1 x2 x3 (fun y0 y1 => K (.ret [] [(21, .row 5 (.int .u8) y1), (1, .var 72 [.v (.sl (.pr (.int .i64) (.pr (.int .i64) (.pr .str (.pr .bool (.pr (.sl .str) (.sl (.int .i64)))))))) y0, .nps 1 1, .row 21])]))
  | _, _, _ => none
theorem wqn6 (k : Nat) {R : Type} (x0 : (List dT48)) (x1 : (List Int)) (x2 x3 : Int) (K : ((List dT48) → (List Int) → Option R)) : fnW (wqr2 k (wqx k) (FR_show_writer_pair k)) k Tryz.f55 wqr1 [.ptr 1 0, .v kI x2, .v kI x3] [(21, .row 5 (.int .u8) x1), (1, .var 72 [.v kdT25 x0, .nps 1 1, .row 21])] (wqfa K) = FR_show_writer_pair (k + 1) R x0 x1 x2 x3 K := by
  rw [FR_show_writer_pair]
  kernel_rfl
def wq3g (k : Nat) {R : Type} : List PV → List (Nm × HObj) → (Out → Option R) → Option R
  | [.ptr 1 0, .v (.int .i64) x2, .v (.int .i64) x3], [(21, .row 5 (.int .u8) x1), (1, .var 72 [.v (.sl (.pr (.int .i64) (.pr (.int .i64) (.pr .str (.pr .bool (.pr (.sl .str) (.sl (.int .i64)))))))) x0, .nps 1 1, .row 21])], K => wqcn k x0 x1 x2 x3 (fun y0 y1 => K (.ret [] [(21, .row 5 (.int .u8) y1), (1, .var 72 [.v (.sl (.pr (.int .i64) (.pr (.int .i64) (.pr .str (.pr .bool (.pr (.sl .str) (.sl (.int .i64)))))))) y0, .nps 1 1, .row 21])]))
  | _, _, _ => none
theorem wqpa (k : Nat) : DOK Tryz.prog 26 (wq1n k) ∧ DOK Tryz.prog 55 (wq3g k) := by
  induction k with
  | zero =>
    refine ⟨?_, ?_⟩
    · intro ps hp R K r h
      have h : wq1n 0 ps hp K = some r := h
      unfold wq1n at h
      split at h
      · unfold wq5v at h; rw [wqx] at h; cases h
      · cases h
    · intro ps hp R K r h
      have h : wq3g 0 ps hp K = some r := h
      unfold wq3g at h
      split at h
      · unfold wqcn at h; rw [FR_show_writer_pair] at h; cases h
      · cases h
  | succ k ih =>
    obtain ⟨ih_show_writer_block, ih_show_writer_pair⟩ := ih
    refine ⟨?_, ?_⟩
    · intro ps hp R K r h
      have h : wq1n (k + 1) ps hp K = some r := h
      unfold wq1n at h
      split at h
      · unfold wq5v at h; rw [← wqlv] at h
        exact fnW_ok ⟨tyT_ok, (CTab.add_ok (fun h => ih_show_writer_block _ _ _ _ _ (by unfold wq5u at h; unfold wq1n; exact h)) (wqm (wq15l k) (wqm (wq6n k) (wqm (wqlu k) (CTab.add_ok (fun h => ih_show_writer_pair _ _ _ _ _ (by unfold wqf9 at h; unfold wq3g; exact h)) CTab.nil_ok))))), fun _ _ => rfl⟩ mixed (by kernel_rfl) (by kernel_rfl) h fun o ho => by unfold wq2s at ho; split at ho <;> first | exact ho | cases ho
      · cases h
    · intro ps hp R K r h
      have h : wq3g (k + 1) ps hp K = some r := h
      unfold wq3g at h
      split at h
      · unfold wqcn at h; rw [← wqn6] at h
        exact fnW_ok ⟨tyT_ok, (CTab.add_ok (fun h => ih_show_writer_block _ _ _ _ _ (by unfold wq5u at h; unfold wq1n; exact h)) (wqm (wqlu k) (wqm (wqex k) CTab.nil_ok))), fun _ _ => rfl⟩ mixed (by kernel_rfl) (by kernel_rfl) h fun o ho => by unfold wqfa at ho; split at ho <;> first | exact ho | cases ho
      · cases h
theorem wqr3 (k : Nat) : DOK Tryz.prog 26 (wq1n k) := (wqpa k).1
end Go.Proofs.YtdfhgimidmfgfaaGreatDoor.Pvm
end


noncomputable section
namespace Go.Proofs.YtdfhgimidmfgfaaGreatDoor.Pvm
open Go Go.Proofs
def wqif : List LS := [.obj 1 [.sl kdT48, .nps 1 1, .own 21 5 (.int .u8)]]
def wq9e {R : Type} (K : ((List dT48) → (List Int) → Int → Option R)) : Out → Option R
  | .ret [.v (.int .i64) y2] [(21, .row 5 (.int .u8) y1), (1, .var 72 [.v (.sl (.pr (.int .i64) (.pr (.int .i64) (.pr .str (.pr .bool (.pr (.sl .str) (.sl (.int .i64)))))))) y0, .nps 1 1, .row 21])] => K y0 y1 y2
  | _ => none
def wqj4 : RetSpec := ⟨[.any], [(1, .obj 1 [.sl (.pr (.int .i64) (.pr (.int .i64) (.pr .str (.pr .bool (.pr (.sl .str) (.sl (.int .i64))))))), .nps 1 1, .own 21 5 (.int .u8)])], []⟩
def wqj5 (k : Nat) : Ctx := ⟨tyT, [], .nil, [], [1], [], @SH⟩
def wqba (k : Nat) {R : Type}  (x0 : (List dT48)) (x1 : (List Int)) (K : ((List dT48) → (List Int) → Int → Option R)) : Option R := (K x0 x1 (x1.length : Int))
def wq4p (k : Nat) {R : Type} (x0 : (List dT48)) (x1 : (List Int)) (K : ((List dT48) → (List Int) → Int → Option R)) : Option R := wqba k  x0 x1 K
theorem wqhe (k : Nat) {R : Type} (x0 : (List dT48)) (x1 : (List Int)) (K : ((List dT48) → (List Int) → Int → Option R)) : fnW (wqj5 k) k Tryz.f27 wqj4 [.ptr 1 1] [(21, .row 5 (.int .u8) x1), (1, .var 72 [.v kdT25 x0, .nps 1 1, .row 21])] (wq9e K) = wq4p k x0 x1 K := by
  kernel_rfl
def wq3k (k : Nat) {R : Type} : List PV → List (Nm × HObj) → (Out → Option R) → Option R
  | [.ptr 1 1], [(21, .row 5 (.int .u8) x1), (1, .var 72 [.v (.sl (.pr (.int .i64) (.pr (.int .i64) (.pr .str (.pr .bool (.pr (.sl .str) (.sl (.int .i64)))))))) x0, .nps 1 1, .row 21])], K => wq4p k x0 x1 (fun y0 y1 y2 => K (.ret [.v (.int .i64) y2] [(21, .row 5 (.int .u8) y1), (1, .var 72 [.v (.sl (.pr (.int .i64) (.pr (.int .i64) (.pr .str (.pr .bool (.pr (.sl .str) (.sl (.int .i64)))))))) y0, .nps 1 1, .row 21])]))
  | _, _, _ => none
theorem wqjz (k : Nat) : DOK Tryz.prog 27 (wq3k k) := by
  intro ps hp R K r h
  have h : wq3k k ps hp K = some r := h
  unfold wq3k at h
  split at h
  · rw [← wqhe] at h
    exact fnW_ok ⟨tyT_ok, CTab.nil_ok, fun _ _ => rfl⟩ mixed (by kernel_rfl) (by kernel_rfl) h fun o ho => by unfold wq9e at ho; split at ho <;> first | exact ho | cases ho
  · cases h
end Go.Proofs.YtdfhgimidmfgfaaGreatDoor.Pvm
end


set_option maxHeartbeats 2000000
set_option maxRecDepth 100000
namespace Go.Proofs.YtdfhgimidmfgfaaGreatDoor.Pvm
open Go Go.Proofs Go.RowKit
theorem wqy2 (b g cap : Nat) (d p : Value) (l : List UInt8) (cur : Array Value) (w : World) (hbk : w.heap[b]? = some (.cells #[d, p, .slice (some ⟨g, 0, none⟩) l.length cap] 72 (0, 0))) (h0 : l ≠ [])
    (hg : w.heap[g]? = some (.cells cur 5 (0, 0))) (hnc : l.length ≤ cap) (hcm : cap ≤ maxLen) (hcs : cur.size = cap) (htake : ∀ (j : Nat) (x : UInt8), l[j]? = some x → w.cell? ⟨g, j, none⟩ = some (.int .u8 x.toNat)) :
    Calls Tryz.prog 28 #[.pointer (some ⟨b, 1, none⟩)] w fun e w' => e = .returned (.string ⟨l.toArray⟩) ∧ w' = w.drew.freeze ⟨g, 0, none⟩ l.length := by
  have hl0 : l.length ≠ 0 := by simpa using h0
  have mixed : Tryz.prog.follows .mixedOrders = true := by kernel_rfl
  have t86 : Tryz.prog.underlying 107 = some (.pointer 5) := by kernel_rfl
  have c1 : w.drew.cell? ⟨b, 2, none⟩ = some (.slice (some ⟨g, 0, none⟩) l.length cap) := by
    have : w.drew.heap[b]? = some (.cells #[d, p, .slice (some ⟨g, 0, none⟩) l.length cap] 72 (0, 0)) := hbk
    rw [Lib.cell_of_heap this]; rfl
  have hSD : (Builtin.unsafeSliceData_ #[35] 107 #[.slice (some ⟨g, 0, none⟩) l.length cap]).run Tryz.prog w.drew = .ok (.pointer (some ⟨g, 0, none⟩)) w.drew :=
    Lib.run_unsafeSliceData_row _ _ _ _ _ _ (by omega)
  have hUS : (Builtin.unsafeString_ #[107, 3] 9 #[.pointer (some ⟨g, 0, none⟩), .int .i64 l.length]).run Tryz.prog w.drew = .ok (.string ⟨l.toArray⟩) (w.drew.freeze ⟨g, 0, none⟩ l.length) := by
    refine Lib.run_unsafeString_row w.drew 107 3 9 5 t86 (by kernel_rfl) g cur.size (by have hg' : w.drew.heap[g]? = some (.cells cur 5 (0, 0)) := hg; simp [World.shape?, hg']) l h0 (by omega) (by unfold maxLen at hcm; omega) ?_
    intro j x hx
    have := htake j x hx
    rw [show (⟨g, 0, none⟩ : Addr).add j = ⟨g, j, none⟩ by simp [Addr.add]; omega]
    exact this
  go_enter Tryz.func28, Tryz.ntmps28
  go_wp2
  go_region_o
  all_goals (go_wp2; go_ret; exact ⟨rfl, rfl⟩)
theorem wq136 (b : Nat) (d p : Value) (w : World) (hbk : w.heap[b]? = some (.cells #[d, p, .slice none 0 0] 72 (0, 0))) :
    Calls Tryz.prog 28 #[.pointer (some ⟨b, 1, none⟩)] w fun e w' => e = .returned (.string ⟨#[]⟩) ∧ w' = w.drew := by
  have hUS := wqz0
  have mixed : Tryz.prog.follows .mixedOrders = true := by kernel_rfl
  have c1 : w.drew.cell? ⟨b, 2, none⟩ = some (.slice none 0 0) := by
    have : w.drew.heap[b]? = some (.cells #[d, p, .slice none 0 0] 72 (0, 0)) := hbk
    rw [Lib.cell_of_heap this]; rfl
  have hSD : (Builtin.unsafeSliceData_ #[35] 107 #[.slice none 0 0]).run Tryz.prog w.drew = .ok (.pointer none) w.drew := rfl
  go_enter Tryz.func28, Tryz.ntmps28
  go_wp2
  go_region_o
  all_goals (go_wp2; go_ret; exact ⟨rfl, rfl⟩)
theorem wq10o (b g cap : Nat) (d p : Value) (w : World) (hc0 : cap ≠ 0) (hbk : w.heap[b]? = some (.cells #[d, p, .slice (some ⟨g, 0, none⟩) 0 cap] 72 (0, 0))) :
    Calls Tryz.prog 28 #[.pointer (some ⟨b, 1, none⟩)] w fun e w' => e = .returned (.string ⟨#[]⟩) ∧ w' = w.drew := by
  have hUS := wqz0
  have mixed : Tryz.prog.follows .mixedOrders = true := by kernel_rfl
  have c1 : w.drew.cell? ⟨b, 2, none⟩ = some (.slice (some ⟨g, 0, none⟩) 0 cap) := by
    have : w.drew.heap[b]? = some (.cells #[d, p, .slice (some ⟨g, 0, none⟩) 0 cap] 72 (0, 0)) := hbk
    rw [Lib.cell_of_heap this]; rfl
  have hSD : (Builtin.unsafeSliceData_ #[35] 107 #[.slice (some ⟨g, 0, none⟩) 0 cap]).run Tryz.prog w.drew = .ok (.pointer (some ⟨g, 0, none⟩)) w.drew :=
    Lib.run_unsafeSliceData_row _ _ _ _ _ _ hc0
  clear hc0
  go_enter Tryz.func28, Tryz.ntmps28
  go_wp2
  go_region_o
  all_goals (go_wp2; go_ret; exact ⟨rfl, rfl⟩)
theorem wqwl (b g : Nat) (d p : Value) (cur : Array Value) (w : World) (hbk : w.heap[b]? = some (.cells #[d, p, .slice (some ⟨g, 0, none⟩) 0 0] 72 (0, 0))) (hg : w.heap[g]? = some (.cells cur 5 (0, 0))) :
    Calls Tryz.prog 28 #[.pointer (some ⟨b, 1, none⟩)] w fun e w' => e = .returned (.string ⟨#[]⟩) ∧ ∃ o, w' = (w.alloc o).drew := by
  have hUS := wqz0
  have hlt : b < w.heap.size := (Array.getElem?_eq_some_iff.1 hbk).1
  have mixed : Tryz.prog.follows .mixedOrders = true := by kernel_rfl
  have c1 : w.drew.cell? ⟨b, 2, none⟩ = some (.slice (some ⟨g, 0, none⟩) 0 0) := by
    have : w.drew.heap[b]? = some (.cells #[d, p, .slice (some ⟨g, 0, none⟩) 0 0] 72 (0, 0)) := hbk
    rw [Lib.cell_of_heap this]; rfl
  have hSD : (Builtin.unsafeSliceData_ #[35] 107 #[.slice (some ⟨g, 0, none⟩) 0 0]).run Tryz.prog w.drew = .ok (.pointer (some ⟨w.drew.heap.size, 0, none⟩)) (w.drew.alloc (.view ⟨g, 0, none⟩ 5)) :=
    Lib.run_unsafeSliceData_zero w.drew _ _ 5 (by kernel_rfl) ⟨g, 0, none⟩ 0 (5, cur.size) (by have hg' : w.drew.heap[g]? = some (.cells cur 5 (0, 0)) := hg; simp [World.shape?, hg'])
  have c2 : (w.drew.alloc (.view ⟨g, 0, none⟩ 5)).cell? ⟨b, 2, none⟩ = some (.slice (some ⟨g, 0, none⟩) 0 0) := by
    have : (w.drew.alloc (.view ⟨g, 0, none⟩ 5)).heap[b]? = _ := (Lib.alloc_old w.drew _ b hlt).trans hbk
    rw [Lib.cell_of_heap this]; rfl
  have c3 : (w.alloc (.view ⟨g, 0, none⟩ 5)).drew.cell? ⟨b, 2, none⟩ = some (.slice (some ⟨g, 0, none⟩) 0 0) := c2
  have c0 : w.cell? ⟨b, 2, none⟩ = some (.slice (some ⟨g, 0, none⟩) 0 0) := c1
  go_enter Tryz.func28, Tryz.ntmps28
  go_wp2
  go_region_o
  all_goals (go_wp2; go_ret; exact ⟨rfl, _, rfl⟩)
def wqfq : List LS := [.obj 1 [.sl (.pr (.int .i64) (.pr (.int .i64) (.pr .str (.pr .bool (.pr (.sl .str) (.sl (.int .i64))))))), .nps 1 1, .own 21 5 (.int .u8)]]
def wq3a (k : Nat) {R : Type} (d0 : (List dT48)) (x0 : List Int) (K : (List dT48) → List Int → List UInt8 → Option R) : Option R := bif allB x0 then K d0 x0 (wq1v x0) else none
def wq4q (k : Nat) {R : Type} : List PV → List (Nm × HObj) → (Out → Option R) → Option R
  | [.ptr 1 1], [(21, .row 5 (.int .u8) x0), (1, .var 72 [.v (.sl (.pr (.int .i64) (.pr (.int .i64) (.pr .str (.pr .bool (.pr (.sl .str) (.sl (.int .i64)))))))) d0, .nps 1 1, .row 21])], K => wq3a k d0 x0 (fun d1 y0 y1 => K (.ret [.v .str y1] [(1, .var 72 [.v (.sl (.pr (.int .i64) (.pr (.int .i64) (.pr .str (.pr .bool (.pr (.sl .str) (.sl (.int .i64)))))))) d1, .nps 1 1, .v (.sl (.int .u8)) y0])]))
  | _, _, _ => none
theorem wqbb (vs : Array Value) (w : World) : (callFunc 28 vs).run Tryz.prog w = .ok (.enter 28 vs) w := by
  have h1 : Tryz.prog.funcs[28]? = some Tryz.f28 := by kernel_rfl
  have h2 : (Tryz.f28.name == "runtime.NumGoroutine") = false := by kernel_rfl
  have h3 : Tryz.f28.body.isNone = false := by kernel_rfl
  unfold callFunc
  rw [Sem.run_bind]
  have e2 : (program).run Tryz.prog w = .ok Tryz.prog w := rfl
  rw [e2, Result.andThen_ok, h1]
  simp only [h2, h3, Bool.false_eq_true, if_false]
  rfl
theorem wqy3 {G : Gh} {w w' : World} {d0 : (List dT48)} {x0 : List Int} {HP : List (Nm × HObj)} (hHP : HP = [(21, .row 5 (.int .u8) x0), (1, .var 72 [.v (.sl (.pr (.int .i64) (.pr (.int .i64) (.pr .str (.pr .bool (.pr (.sl .str) (.sl (.int .i64)))))))) d0, .nps 1 1, .row 21])])
    (obj : ∀ n o, mkH HP n = some o → RO (mkH HP) G w n o) (dis : Dis (mkH HP) G w) (hblk : ∀ b, b < w.heap.size → (∀ g, (G.rv 21).ownBlock = some g → b ≠ g) → w'.heap[b]? = w.heap[b]?)
    (hcell : ∀ g o, (G.rv 21).ownBlock = some g → w'.cell? ⟨g, o, none⟩ = w.cell? ⟨g, o, none⟩) (grow : w.heap.size ≤ w'.heap.size) (os : w'.os = w.os) (tape : w'.tape = w.tape) (out : w'.output = w.output) :
    Fin HP [(1, .var 72 [.v (.sl (.pr (.int .i64) (.pr (.int .i64) (.pr .str (.pr .bool (.pr (.sl .str) (.sl (.int .i64)))))))) d0, .nps 1 1, .v (.sl (.int .u8)) x0])] G w G w' := by
  have l1 : mkH HP 1 = some (.var 72 [.v (.sl (.pr (.int .i64) (.pr (.int .i64) (.pr .str (.pr .bool (.pr (.sl .str) (.sl (.int .i64)))))))) d0, .nps 1 1, .row 21]) := by subst hHP; rfl
  have l2 : mkH HP 21 = some (.row 5 (.int .u8) x0) := by subst hHP; rfl
  generalize hHS : [((1 : Nm), HObj.var 72 [.v (.sl (.pr (.int .i64) (.pr (.int .i64) (.pr .str (.pr .bool (.pr (.sl .str) (.sl (.int .i64)))))))) d0, .nps 1 1, .v (.sl (.int .u8)) x0])] = HS
  have m1 : mkH HS 1 = some (.var 72 [.v (.sl (.pr (.int .i64) (.pr (.int .i64) (.pr .str (.pr .bool (.pr (.sl .str) (.sl (.int .i64)))))))) d0, .nps 1 1, .v (.sl (.int .u8)) x0]) := by subst hHS; rfl
  have mo : ∀ n o, mkH HS n = some o → n = 1 := by
    intro n o h
    subst hHS
    simp only [mkH, look] at h
    cases hb : Nat.beq 1 n with
    | true => exact (Nat.eq_of_beq_eq_true hb).symm
    | false => rw [hb] at h; cases h
  have bk1 : blkOf (mkH HP) G 1 = some (G.bk 1) := by simp [blkOf, l1]
  have bk2 : blkOf (mkH HP) G 21 = (G.rv 21).ownBlock := by simp [blkOf, l2]
  have ck1 : blkOf (mkH HS) G 1 = some (G.bk 1) := by simp [blkOf, m1]
  have ck : ∀ n b, blkOf (mkH HS) G n = some b → n = 1 ∧ b = G.bk 1 := by
    intro n b h
    cases hn : mkH HS n with
    | none => simp [blkOf, hn] at h
    | some o => have := mo n o hn; subst this; rw [ck1] at h; cases h; exact ⟨rfl, rfl⟩
  have hne : ∀ g, (G.rv 21).ownBlock = some g → G.bk 1 ≠ g := fun g hg e => by
    have := dis.inj 1 21 g (by rw [bk1, e]) (by rw [bk2, hg])
    cases this
  obtain ⟨vs, hw, q0, t0, rfl, hq0, q1, t1, rfl, hq1, q2, t2, rfl, hq2, rfl⟩ := obj 1 _ l1
  obtain ⟨rfl, _⟩ := hq2
  have hlt : G.bk 1 < w.heap.size := (Array.getElem?_eq_some_iff.1 hw).1
  have hw' : w'.heap[G.bk 1]? = some (.cells [q0, q1, G.rv 21].toArray 72 (0, 0)) := by rw [hblk _ hlt hne]; exact hw
  have hmono : ∀ b, okB (mkH HP) G b → b < w.heap.size → okB (mkH HS) G b ∧ w'.heap[b]? = w.heap[b]? := fun b ho hb =>
    ⟨⟨fun n hn => by obtain ⟨_, e⟩ := ck n b hn; exact ho.1 1 (by rw [bk1, e]), ho.2⟩, hblk b hb fun g hg e => ho.1 21 (by rw [bk2, hg, e])⟩
  have hdat : RD w' (okB (mkH HS) G) (.sl (.int .u8)) x0 [G.rv 21] := by
    have hro := obj 21 _ l2
    obtain ⟨us, hown, hr, _⟩ := hro
    rcases hown.2 with ⟨hv, hn⟩ | ⟨g, cap, cur, hv, _, hgb, hnc, hcm, hcs, _⟩
    · exact ⟨none, 0, by rw [hv, hn], by omega, .inl (List.eq_nil_of_length_eq_zero hn)⟩
    · have hgo : (G.rv 21).ownBlock = some g := by rw [hv]; rfl
      refine ⟨_, cap, by rw [hv], hnc, .inr ⟨_, rfl, ?_, ?_, ?_⟩⟩
      · refine ⟨fun n hn => ?_, fun hx => dis.xo 21 g (by rw [bk2, hgo]) hx⟩
        obtain ⟨_, e⟩ := ck n g hn
        exact hne g hgo e.symm
      · have : g < w.heap.size := (Array.getElem?_eq_some_iff.1 hgb).1
        exact Nat.lt_of_lt_of_le this grow
      · intro i y hy
        obtain ⟨c, hc, hu⟩ := hr.get i y hy
        refine ⟨c, hc, fun j u hj => ?_⟩
        have := hown.cells hgo _ _ (hu j u hj)
        rw [Addr.add_lit] at this ⊢
        rw [hcell g _ hgo]
        exact this
  refine ⟨fun n o hn => ?_, fun n m b h1 h2 => (ck n b h1).1.trans (ck m b h2).1.symm, fun n t cs hn o ho => ?_, fun n ag V es hn o ho => (wqhh (by rw [hHP]; rfl) hn).elim, fun b hb hf => hblk b hb fun g hg e => hf 21 (by rw [bk2, hg, e]), rfl, fun n b hn => .inl ⟨1, by rw [(ck n b hn).2]; exact bk1⟩, grow, os, tape, out⟩
  · have := mo n o hn; subst this
    rw [m1] at hn; cases hn
    refine ⟨_, hw', _, _, rfl, RD.mono hmono hq0, _, _, rfl, ?_, _, _, rfl, hdat, rfl⟩
    rcases hq1 with h | ⟨h, _⟩
    · exact .inl h
    · exact .inr ⟨h, _, _, m1⟩
  · have e1 := mo n o ho
    subst e1
    have e2 : mkH HS 1 = some o := ho
    have e3 : mkH HP 1 = some (.var t cs) := hn
    rw [m1] at e2; rw [l1] at e3; cases e2; cases e3
    exact ⟨⟨_, rfl⟩, rfl⟩
theorem wqhf (k : Nat) {ps : List PV} {hp : List (Nm × HObj)} {R : Type} {K : Out → Option R} {r : R} (h : wq4q k ps hp K = some r) : DoesTo Tryz.prog 28 ps hp fun out => K out = some r := by
  unfold wq4q at h
  split at h
  · next x0 d0 =>
    intro G w vals hr obj dis
    unfold wq3a at h
    cases hb : allB x0 with
    | false => rw [hb] at h; cases h
    | true =>
      rw [hb, cond_true] at h
      obtain ⟨v0, l0, rfl, h0, rfl⟩ := hr
      obtain ⟨rfl, _⟩ := h0
      generalize hHP : [(21, HObj.row 5 (.int .u8) x0), (1, .var 72 [.v (.sl (.pr (.int .i64) (.pr (.int .i64) (.pr .str (.pr .bool (.pr (.sl .str) (.sl (.int .i64)))))))) d0, .nps 1 1, .row 21])] = HP at *
      have l1 : mkH HP 1 = some (.var 72 [.v (.sl (.pr (.int .i64) (.pr (.int .i64) (.pr .str (.pr .bool (.pr (.sl .str) (.sl (.int .i64)))))))) d0, .nps 1 1, .row 21]) := by subst hHP; rfl
      have l2 : mkH HP 21 = some (.row 5 (.int .u8) x0) := by subst hHP; rfl
      show Does _ _ #[_] _ _
      unfold Does
      rw [wqbb]
      obtain ⟨vs, hw, q0, t0, rfl, hq0, q1, t1, rfl, hq1, q2, t2, rfl, hq2, rfl⟩ := obj 1 _ l1
      obtain ⟨rfl, _⟩ := hq2
      have hro := obj 21 _ l2
      obtain ⟨us, hown, hrd, _⟩ := hro
      have fin : ∀ {e : Ending} {w' : World}, e = .returned (.string ⟨(wq1v x0).toArray⟩) → (∀ b, b < w.heap.size → (∀ g, (G.rv 21).ownBlock = some g → b ≠ g) → w'.heap[b]? = w.heap[b]?) → (∀ g o, (G.rv 21).ownBlock = some g → w'.cell? ⟨g, o, none⟩ = w.cell? ⟨g, o, none⟩) → w.heap.size ≤ w'.heap.size → w'.os = w.os → w'.tape = w.tape → w'.output = w.output →
          ∃ out, K out = some r ∧ ∃ G', OutIs G' w' e out ∧ Fin HP out.hs G w G' w' := by
        intro e w' he h1 h2 h3 h4 h5 h6
        exact ⟨_, h, G, ⟨_, he, rfl⟩, wqy3 hHP.symm obj dis h1 h2 h3 h4 h5 h6⟩
      rcases hown.2 with ⟨hv, hn⟩ | ⟨g, cap, cur, hv, _, hgb, hnc, hcm, hcs, htk⟩
      · have hx : x0 = [] := List.eq_nil_of_length_eq_zero hn
        subst hx
        rw [hv] at hw
        refine Calls.mono (wq136 (G.bk 1) q0 q1 w hw) fun e w' hh => ?_
        obtain ⟨rfl, rfl⟩ := hh
        exact fin rfl (fun _ _ _ => rfl) (fun _ _ _ => rfl) (Nat.le_refl _) rfl rfl rfl
      · have hgo : (G.rv 21).ownBlock = some g := by rw [hv]; rfl
        rw [hv] at hw
        by_cases hx : x0 = []
        · subst hx
          by_cases hc0 : cap = 0
          · subst hc0
            refine Calls.mono (wqwl (G.bk 1) g q0 q1 cur w hw hgb) fun e w' hh => ?_
            obtain ⟨rfl, o, rfl⟩ := hh
            have hold : ∀ b, b < w.heap.size → (w.alloc o).drew.heap[b]? = w.heap[b]? := fun b hb => Lib.alloc_old w _ b hb
            refine fin rfl (fun b hb _ => hold b hb) (fun g' o' hg' => ?_) (by have := World.size_alloc w o; show _ ≤ (w.alloc o).heap.size; omega) rfl rfl rfl
            rw [hgo] at hg'; cases hg'
            exact World.cell?_of_block (hold g (Array.getElem?_eq_some_iff.1 hgb).1)
          · refine Calls.mono (wq10o (G.bk 1) g cap q0 q1 w hc0 hw) fun e w' hh => ?_
            obtain ⟨rfl, rfl⟩ := hh
            exact fin rfl (fun _ _ _ => rfl) (fun _ _ _ => rfl) (Nat.le_refl _) rfl rfl rfl
        · have hlen : (wq1v x0).length = x0.length := by simp [wq1v]
          have hbytes : ∀ (j : Nat) (x : UInt8), (wq1v x0)[j]? = some x → w.cell? ⟨g, j, none⟩ = some (.int .u8 x.toNat) := by
            intro j x hj
            have hjl : j < x0.length := by rw [← hlen]; exact (List.getElem?_eq_some_iff.1 hj).1
            have hy : x0[j]? = some x0[j] := by simp [hjl]
            obtain ⟨c, hc, hu⟩ := hrd.get j _ hy
            have hc : c = [.int .u8 x0[j]] := hc
            have h9 := hown.cells hgo _ _ (hu 0 (.int .u8 x0[j]) (by rw [hc]; rfl))
            rw [Addr.add_lit] at h9
            have hj2 : x = UInt8.ofNat (x0[j]).toNat := by
              simp only [wq1v, List.getElem?_map, hy, Option.map_some, Option.some.injEq] at hj
              exact hj.symm
            obtain ⟨h10, h11⟩ := wq1an hb j _ hy
            have : ((x.toNat : Nat) : Int) = x0[j] := by
              rw [hj2, UInt8.toNat_ofNat']
              omega
            rw [this]
            have e0 : 0 + (j * Kd.sz (.int .u8) + 0) = j := by simp [Kd.sz]
            rw [e0] at h9
            exact h9
          rw [← hlen] at hw
          have hne : wq1v x0 ≠ [] := by intro e; rw [e] at hlen; exact hx (List.eq_nil_of_length_eq_zero hlen.symm)
          refine Calls.mono (wqy2 (G.bk 1) g cap q0 q1 (wq1v x0) cur w hw hne hgb (by omega) hcm (by simpa [Kd.sz] using hcs) hbytes) fun e w' hh => ?_
          obtain ⟨rfl, rfl⟩ := hh
          have hfz : ∀ b, b ≠ g → (w.drew.freeze ⟨g, 0, none⟩ (wq1v x0).length).heap[b]? = w.heap[b]? := by
            intro b hb
            unfold World.freeze
            split
            · rfl
            · show (w.heap.modify g _)[b]? = _
              rw [Array.getElem?_modify, if_neg (Ne.symm hb)]
          refine fin rfl (fun b _ hb => hfz b (hb g hgo)) (fun g' o' hg' => ?_) ?_ ?_ ?_ ?_
          · rw [hgo] at hg'; cases hg'
            unfold World.freeze
            split
            · rfl
            · simp only [World.cell?, World.drew, Array.getElem?_modify, if_true, hgb, Option.map_some]
          all_goals
            unfold World.freeze
            split
            · first | rfl | exact Nat.le_refl _
            · first | rfl | (show w.heap.size ≤ (w.heap.modify g _).size; rw [Array.size_modify]; exact Nat.le_refl _)
  · cases h
end Go.Proofs.YtdfhgimidmfgfaaGreatDoor.Pvm
set_option maxRecDepth 1000000
set_option maxHeartbeats 0
noncomputable section
namespace Go.Proofs.YtdfhgimidmfgfaaGreatDoor.Pvm
open Go Go.Proofs
def wqtp : List LS := [.ag [.sl kdT48]]
def wqr4 {R : Type} (K : ((List Int) → Int → Option R)) : Out → Option R
  | .ret [.v (.sl (.int .u8)) y0, .v (.int .i64) y1] [] => K y0 y1
  | _ => none
def wq15m : RetSpec := ⟨[.sl (.int .u8), .any], [], []⟩
def wq15n (k : Nat) : Ctx := ⟨tyT, [], (.add 11 wqjx (wq96 k) (.add 26 wq9n (wq1n k) (.add 27 wqif (wq3k k) (.add 28 wqfq (wq4q k) .nil)))), [], [], [], @SH⟩
def wqz4 (k : Nat) {R : Type}  (x0 : (List dT48)) (K : ((List Int) → Int → Option R)) : Option R := (wq8r k x0 (fun y4 => (cond (y4 != 0) (K [] y4) (wq5v k x0 [] 0 0 (fun y5 y6 => (wq4p k y5 y6 (fun y7 y8 y9 => (cond (decide (y9 > 60000)) (K [] 4) (wq3a k y7 y8 (fun y10 y11 y12 => (K (wqj y12) 0)))))))))))
def wqam (k : Nat) {R : Type} (x0 : (List dT48)) (K : ((List Int) → Int → Option R)) : Option R := wqz4 k  x0 K
theorem wq10p (k : Nat) {R : Type} (x0 : (List dT48)) (K : ((List Int) → Int → Option R)) : fnW (wq15n k) k Tryz.f9 wq15m [.agg [.v kdT25 x0]] [] (wqr4 K) = wqam k x0 K := by
  kernel_rfl
def wqe5 (k : Nat) {R : Type} : List PV → List (Nm × HObj) → (Out → Option R) → Option R
  | [.agg [.v (.sl (.pr (.int .i64) (.pr (.int .i64) (.pr .str (.pr .bool (.pr (.sl .str) (.sl (.int .i64)))))))) x0]], [], K => wqam k x0 (fun y0 y1 => K (.ret [.v (.sl (.int .u8)) y0, .v (.int .i64) y1] []))
  | _, _, _ => none
theorem wqz5 (k : Nat) : DOK Tryz.prog 9 (wqe5 k) := by
  intro ps hp R K r h
  have h : wqe5 k ps hp K = some r := h
  unfold wqe5 at h
  split at h
  · rw [← wq10p] at h
    exact fnW_ok ⟨tyT_ok, (wqm (wqp5 k) (wqm (wqr3 k) (wqm (wqjz k) (CTab.add_ok (fun h => wqhf k h) CTab.nil_ok)))), fun _ _ => rfl⟩ mixed (by kernel_rfl) (by kernel_rfl) h fun o ho => by unfold wqr4 at ho; split at ho <;> first | exact ho | cases ho
  · cases h
end Go.Proofs.YtdfhgimidmfgfaaGreatDoor.Pvm
end


noncomputable section
namespace Go.Proofs.YtdfhgimidmfgfaaGreatDoor.Pvm
open Go Go.Proofs
def wqy4 : List LS := []
def wqlw {R : Type} (K : (Bool → Option R)) : Out → Option R
  | .ret [.v .bool y0] [] => K y0
  | _ => none
def wq10q : RetSpec := ⟨[.any], [], []⟩
def wq10r (k : Nat) : Ctx := ⟨tyT, [], (.add 9 wqtp (wqe5 k) (.add 11 wqjx (wq96 k) (.add 12 wq135 (wqht k) .nil))), [], [], [], @SH⟩
def wqtq (k : Nat) {R : Type}   (K : (Bool → Option R)) : Option R := (wqam k [(3, (0, ([], (false, ([[97]], [1]))))), (2, (0, ([], (false, ([], [2, 3]))))), (1, (0, ([98], (false, ([], []))))), (1, (0, ([99], (true, ([], [])))))] (fun y3 y4 => (wqam k [] (fun y5 y6 => (wq8r k [(3, (0, ([], (false, ([[97]], [1]))))), (2, (0, ([], (false, ([], [2, 3]))))), (1, (0, ([98], (false, ([], []))))), (1, (0, ([99], (true, ([], [])))))] (fun y7 => (cond ((cond (cond (cond (y7 == 0) (y4 == 0) false) ((wq1v y3) == [(97 : UInt8), 58, 10, 32, 32, 45, 32, 98, 10, 32, 32, 45, 32, 34, 99, 34, 10]) false) (y6 == 1) false) == true) (wqg1 k [(3, (0, ([], (false, ([[97]], [1]))))), (2, (0, ([], (false, ([], [2, 3]))))), (1, (0, ([98], (false, ([], []))))), (1, (0, ([99], (true, ([], [])))))] [(3, (0, ([], (false, ([[97]], [1]))))), (2, (0, ([], (false, ([], [2, 3]))))), (1, (0, ([98], (false, ([], []))))), (1, (0, ([99], (true, ([], [])))))] (fun y8 => (cond (y8 == true) (wqg1 k [(3, (0, ([], (false, ([[97]], [1]))))), (2, (0, ([], (false, ([], [2, 3]))))), (1, (0, ([98], (false, ([], []))))), (1, (0, ([99], (true, ([], [])))))] [] (fun y9 => (K (!y9)))) (K false)))) (K false))))))))
def wq4s (k : Nat) {R : Type}  (K : (Bool → Option R)) : Option R := wqtq k   K
theorem wqwm (k : Nat) {R : Type}  (K : (Bool → Option R)) : fnW (wq10r k) k Tryz.f6 wq10q [] [] (wqlw K) = wq4s k  K := by
  kernel_rfl
def wqdh (k : Nat) {R : Type} : List PV → List (Nm × HObj) → (Out → Option R) → Option R
  | [], [], K => wq4s k  (fun y0 => K (.ret [.v .bool y0] []))
  | _, _, _ => none
theorem wq137 (k : Nat) : DOK Tryz.prog 6 (wqdh k) := by
  intro ps hp R K r h
  have h : wqdh k ps hp K = some r := h
  unfold wqdh at h
  split at h
  · rw [← wqwm] at h
    exact fnW_ok ⟨tyT_ok, (wqm (wqz5 k) (wqm (wqp5 k) (wqm (wq18q k) CTab.nil_ok))), fun _ _ => rfl⟩ mixed (by kernel_rfl) (by kernel_rfl) h fun o ho => by unfold wqlw at ho; split at ho <;> first | exact ho | cases ho
  · cases h
end Go.Proofs.YtdfhgimidmfgfaaGreatDoor.Pvm
end


noncomputable section
namespace Go.Proofs.YtdfhgimidmfgfaaGreatDoor.Pvm
open Go Go.Proofs
def wqwn : List LS := [.any, .any]
def wqa1 {R : Type} (K : (Int → Bool → Option R)) : Out → Option R
  | .ret [.v (.int .i64) y0, .v .bool y1] [] => K y0 y1
  | _ => none
def wqig : RetSpec := ⟨[.any, .any], [], []⟩
def wqih (k : Nat) : Ctx := ⟨tyT, [(1003, ⟨[(0, .any), (6, .any), (7, .any)], []⟩)], .nil, [], [], [], @SH⟩
def wq7e (s0 : (List UInt8)) (s1 s2 : Int) : St := ⟨mkT [(0, .v .str s0), (6, .v (.int .u8) s1), (7, .v kI s2)], mkH []⟩
def wqbc (k : Nat) {R : Type} (I : Nat → St → Option R) (n : Nat) (s : St) (K : (Int → Bool → Option R)) : Option R := loopK (wqih k) k Tryz.f84 wqig 1003 [1, 1, 0, 1, 0] I n s (wqa1 K)
def wqbd (k : Nat) {R : Type} (E1003 : ((List UInt8) → Int → Int → Option R)) (s0 : (List UInt8)) (s1 s2 : Int) (K : (Int → Bool → Option R)) : Option R := (cond (decide (s2 < (s0.length : Int))) (cond ((!((s1 == 34) == true)) || (inb s2 (s0.length : Int))) (cond (cond (s1 == 34) (((s0.getD s2.toNat 0).toNat : Int) == 92) false) (E1003 s0 s1 (@Go.IntKind.wrap Go.IntKind.i64 ((@Go.IntKind.wrap Go.IntKind.i64 (s2 + 1)) + 1))) (cond (inb s2 (s0.length : Int)) (cond (((s0.getD s2.toNat 0).toNat : Int) != s1) (E1003 s0 s1 (@Go.IntKind.wrap Go.IntKind.i64 (s2 + 1))) (cond ((!((cond (s1 == 39) (decide ((@Go.IntKind.wrap Go.IntKind.i64 (s2 + 1)) < (s0.length : Int))) false) == true)) || (inb (@Go.IntKind.wrap Go.IntKind.i64 (s2 + 1)) (s0.length : Int))) (cond (cond (cond (s1 == 39) (decide ((@Go.IntKind.wrap Go.IntKind.i64 (s2 + 1)) < (s0.length : Int))) false) (((s0.getD (@Go.IntKind.wrap Go.IntKind.i64 (s2 + 1)).toNat 0).toNat : Int) == 39) false) (E1003 s0 s1 (@Go.IntKind.wrap Go.IntKind.i64 ((@Go.IntKind.wrap Go.IntKind.i64 (s2 + 1)) + 1))) (K (@Go.IntKind.wrap Go.IntKind.i64 (s2 + 1)) true)) none)) none)) none) (K 0 false))
theorem wqlx (k : Nat) {R : Type} (I : Nat → St → Option R) (s0 : (List UInt8)) (s1 s2 : Int) (K : (Int → Bool → Option R)) : bodyK (wqih k) k Tryz.f84 wqig [1, 1, 0, 1, 0, 0] I (wq7e s0 s1 s2) (wqa1 K) = wqbd k (fun s0 s1 s2 => I 1003 (wq7e s0 s1 s2)) s0 s1 s2 K := by kernel_rfl
def wqk0 (k : Nat) {R : Type} (E1003 : ((List UInt8) → Int → Int → Option R)) (x0 : (List UInt8)) (x1 : Int) (K : (Int → Bool → Option R)) : Option R := (cond (inb x1 (x0.length : Int)) (E1003 x0 ((x0.getD x1.toNat 0).toNat : Int) (@Go.IntKind.wrap Go.IntKind.i64 (x1 + 1))) none)
def wq5w (k : Nat) {R : Type}  : Nat → (List UInt8) → Int → Int → (Int → Bool → Option R) → Option R
  | 0, _, _, _, _ => none
  | n + 1, s0, s1, s2, K => wqbd k (fun s0 s1 s2 => wq5w k  n s0 s1 s2 K) s0 s1 s2 K
theorem wqly (k : Nat) {R : Type} (I : Nat → St → Option R) (K : (Int → Bool → Option R)) (n : Nat) : ∀ (s0 : (List UInt8)) (s1 s2 : Int), wqbc k I n (wq7e s0 s1 s2) K = wq5w k  n s0 s1 s2 K := by
  induction n with
  | zero => intros; rfl
  | succ n ih =>
    intro s0 s1 s2
    refine (?_ : _ = _).trans ((wqlx k (upI 1003 (fun s => wqbc k I n s K) I) s0 s1 s2 K).trans ?_)
    · rfl
    · simp only [wq1o, ih] <;> rfl
def wqbe (k : Nat) {R : Type} (x0 : (List UInt8)) (x1 : Int) (K : (Int → Bool → Option R)) : Option R := wqk0 k (fun s0 s1 s2 => wq5w k k s0 s1 s2 K) x0 x1 K
theorem wqub (k : Nat) {R : Type} (x0 : (List UInt8)) (x1 : Int) (K : (Int → Bool → Option R)) : fnW (wqih k) k Tryz.f84 wqig [.v .str x0, .v kI x1] [] (wqa1 K) = wqbe k x0 x1 K := by
  refine Eq.trans (b := wqk0 k (fun s0 s1 s2 => wqbc k (fun _ _ => none) k (wq7e s0 s1 s2) K) x0 x1 K) (by kernel_rfl) ?_
  simp only [wqly] <;> rfl
def wqbf (k : Nat) {R : Type} : List PV → List (Nm × HObj) → (Out → Option R) → Option R
  | [.v .str x0, .v (.int .i64) x1], [], K => wqbe k x0 x1 (fun y0 y1 => K (.ret [.v (.int .i64) y0, .v .bool y1] []))
  | _, _, _ => none
theorem wq10s (k : Nat) : DOK Tryz.prog 84 (wqbf k) := by
  intro ps hp R K r h
  have h : wqbf k ps hp K = some r := h
  unfold wqbf at h
  split at h
  · rw [← wqub] at h
    exact fnW_ok ⟨tyT_ok, CTab.nil_ok, fun _ _ => rfl⟩ mixed (by kernel_rfl) (by kernel_rfl) h fun o ho => by unfold wqa1 at ho; split at ho <;> first | exact ho | cases ho
  · cases h
end Go.Proofs.YtdfhgimidmfgfaaGreatDoor.Pvm
end


noncomputable section
namespace Go.Proofs.YtdfhgimidmfgfaaGreatDoor.Pvm
open Go Go.Proofs
def wqy5 : List LS := [.any]
def wq6p {R : Type} (K : ((List UInt8) → Bool → Option R)) : Out → Option R
  | .ret [.v .str y0, .v .bool y1] [] => K y0 y1
  | _ => none
def wqbg : RetSpec := ⟨[.any, .any], [], []⟩
def wqbh (k : Nat) : Ctx := ⟨tyT, [(1003, ⟨[(0, .any), (4, .any), (5, .any)], []⟩), (1013, ⟨[(0, .any), (4, .any)], []⟩)], (.add 84 wqwn (wqbf k) .nil), [], [], [], @SH⟩
def wq8d (s0 : (List UInt8)) (s1 s2 : Int) : St := ⟨mkT [(0, .v .str s0), (4, .v kI s1), (5, .v kI s2)], mkH []⟩
def wq8e (s0 : (List UInt8)) (s1 : Int) : St := ⟨mkT [(0, .v .str s0), (4, .v kI s1)], mkH []⟩
def wqco (k : Nat) {R : Type} (I : Nat → St → Option R) (n : Nat) (s : St) (K : ((List UInt8) → Bool → Option R)) : Option R := loopK (wqbh k) k Tryz.f56 wqbg 1003 [1, 1, 0, 1, 0] I n s (wq6p K)
def wqcp (k : Nat) {R : Type} (I : Nat → St → Option R) (n : Nat) (s : St) (K : ((List UInt8) → Bool → Option R)) : Option R := loopK (wqbh k) k Tryz.f56 wqbg 1013 [1, 1, 1, 0, 0] I n s (wq6p K)
def wq98 (k : Nat) {R : Type} (E1003 : ((List UInt8) → Int → Int → Option R)) (E1013 : ((List UInt8) → Int → Option R)) (s0 : (List UInt8)) (s1 s2 : Int) (K : ((List UInt8) → Bool → Option R)) : Option R := (cond (decide (s2 < s1)) (cond ((!((s2 == 0) == false)) || (inb (@Go.IntKind.wrap Go.IntKind.i64 (s2 - 1)) (s0.length : Int))) (cond ((!((cond (s2 == 0) true (((s0.getD (@Go.IntKind.wrap Go.IntKind.i64 (s2 - 1)).toNat 0).toNat : Int) == 32)) == true)) || (inb s2 (s0.length : Int))) (cond (cond (cond (s2 == 0) true (((s0.getD (@Go.IntKind.wrap Go.IntKind.i64 (s2 - 1)).toNat 0).toNat : Int) == 32)) (((s0.getD s2.toNat 0).toNat : Int) == 35) false) (E1003 s0 s2 s2) (cond ((!((cond (s2 == 0) true (((s0.getD (@Go.IntKind.wrap Go.IntKind.i64 (s2 - 1)).toNat 0).toNat : Int) == 32)) == true)) || (inb s2 (s0.length : Int))) (cond ((!(((cond (s2 == 0) true (((s0.getD (@Go.IntKind.wrap Go.IntKind.i64 (s2 - 1)).toNat 0).toNat : Int) == 32)) == true) && ((((s0.getD s2.toNat 0).toNat : Int) == 39) == false))) || (inb s2 (s0.length : Int))) (cond (cond (cond (s2 == 0) true (((s0.getD (@Go.IntKind.wrap Go.IntKind.i64 (s2 - 1)).toNat 0).toNat : Int) == 32)) (cond (((s0.getD s2.toNat 0).toNat : Int) == 39) true (((s0.getD s2.toNat 0).toNat : Int) == 34)) false) (wqbe k s0 s2 (fun y8 y9 => (cond (!y9) (K [] false) (E1003 s0 s1 y8)))) (E1003 s0 s1 (@Go.IntKind.wrap Go.IntKind.i64 (s2 + 1)))) none) none)) none) none) (E1013 s0 s1))
theorem wqn7 (k : Nat) {R : Type} (I : Nat → St → Option R) (s0 : (List UInt8)) (s1 s2 : Int) (K : ((List UInt8) → Bool → Option R)) : bodyK (wqbh k) k Tryz.f56 wqbg [1, 1, 0, 1, 0, 0] I (wq8d s0 s1 s2) (wq6p K) = wq98 k (fun s0 s1 s2 => I 1003 (wq8d s0 s1 s2)) (fun s0 s1 => wqcp k I k (wq8e s0 s1) K) s0 s1 s2 K := by kernel_rfl
def wqcq (k : Nat) {R : Type} (E1013 : ((List UInt8) → Int → Option R)) (s0 : (List UInt8)) (s1 : Int) (K : ((List UInt8) → Bool → Option R)) : Option R := (cond ((!((decide (s1 > 0)) == true)) || (inb (@Go.IntKind.wrap Go.IntKind.i64 (s1 - 1)) (s0.length : Int))) (cond (cond (decide (s1 > 0)) (((s0.getD (@Go.IntKind.wrap Go.IntKind.i64 (s1 - 1)).toNat 0).toNat : Int) == 32) false) (E1013 s0 (@Go.IntKind.wrap Go.IntKind.i64 (s1 - 1))) (cond (bnd 0 s1 (s0.length : Int)) (K (cut s0 0 s1) true) none)) none)
theorem wqn8 (k : Nat) {R : Type} (I : Nat → St → Option R) (s0 : (List UInt8)) (s1 : Int) (K : ((List UInt8) → Bool → Option R)) : bodyK (wqbh k) k Tryz.f56 wqbg [1, 1, 1, 0, 0, 0] I (wq8e s0 s1) (wq6p K) = wqcq k (fun s0 s1 => I 1013 (wq8e s0 s1)) s0 s1 K := by kernel_rfl
def wqlz (k : Nat) {R : Type} (E1003 : ((List UInt8) → Int → Int → Option R)) (x0 : (List UInt8)) (K : ((List UInt8) → Bool → Option R)) : Option R := (E1003 x0 (x0.length : Int) 0)
def wq6q (k : Nat) {R : Type}  : Nat → (List UInt8) → Int → ((List UInt8) → Bool → Option R) → Option R
  | 0, _, _, _ => none
  | n + 1, s0, s1, K => wqcq k (fun s0 s1 => wq6q k  n s0 s1 K) s0 s1 K
theorem wqn9 (k : Nat) {R : Type} (I : Nat → St → Option R) (K : ((List UInt8) → Bool → Option R)) (n : Nat) : ∀ (s0 : (List UInt8)) (s1 : Int), wqcp k I n (wq8e s0 s1) K = wq6q k  n s0 s1 K := by
  induction n with
  | zero => intros; rfl
  | succ n ih =>
    intro s0 s1
    refine (?_ : _ = _).trans ((wqn8 k (upI 1013 (fun s => wqcp k I n s K) I) s0 s1 K).trans ?_)
    · rfl
    · simp only [wq1o, ih] <;> rfl
def wq2t (k : Nat) {R : Type}  : Nat → (List UInt8) → Int → Int → ((List UInt8) → Bool → Option R) → Option R
  | 0, _, _, _, _ => none
  | n + 1, s0, s1, s2, K => wq98 k (fun s0 s1 s2 => wq2t k  n s0 s1 s2 K) (fun s0 s1 => wq6q k  k s0 s1 K) s0 s1 s2 K
theorem wqna (k : Nat) {R : Type} (I : Nat → St → Option R) (K : ((List UInt8) → Bool → Option R)) (n : Nat) : ∀ (s0 : (List UInt8)) (s1 s2 : Int), wqco k I n (wq8d s0 s1 s2) K = wq2t k  n s0 s1 s2 K := by
  induction n with
  | zero => intros; rfl
  | succ n ih =>
    intro s0 s1 s2
    refine (?_ : _ = _).trans ((wqn7 k (upI 1003 (fun s => wqco k I n s K) I) s0 s1 s2 K).trans ?_)
    · rfl
    · simp only [wq1o, ih, wqn9] <;> rfl
def wqan (k : Nat) {R : Type} (x0 : (List UInt8)) (K : ((List UInt8) → Bool → Option R)) : Option R := wqlz k (fun s0 s1 s2 => wq2t k k s0 s1 s2 K) x0 K
theorem wqwo (k : Nat) {R : Type} (x0 : (List UInt8)) (K : ((List UInt8) → Bool → Option R)) : fnW (wqbh k) k Tryz.f56 wqbg [.v .str x0] [] (wq6p K) = wqan k x0 K := by
  refine Eq.trans (b := wqlz k (fun s0 s1 s2 => wqco k (fun _ _ => none) k (wq8d s0 s1 s2) K) x0 K) (by kernel_rfl) ?_
  simp only [wqna] <;> rfl
def wqdi (k : Nat) {R : Type} : List PV → List (Nm × HObj) → (Out → Option R) → Option R
  | [.v .str x0], [], K => wqan k x0 (fun y0 y1 => K (.ret [.v .str y0, .v .bool y1] []))
  | _, _, _ => none
theorem wq138 (k : Nat) : DOK Tryz.prog 56 (wqdi k) := by
  intro ps hp R K r h
  have h : wqdi k ps hp K = some r := h
  unfold wqdi at h
  split at h
  · rw [← wqwo] at h
    exact fnW_ok ⟨tyT_ok, (wqm (wq10s k) CTab.nil_ok), fun _ _ => rfl⟩ mixed (by kernel_rfl) (by kernel_rfl) h fun o ho => by unfold wq6p at ho; split at ho <;> first | exact ho | cases ho
  · cases h
end Go.Proofs.YtdfhgimidmfgfaaGreatDoor.Pvm
end


noncomputable section
namespace Go.Proofs.YtdfhgimidmfgfaaGreatDoor.Pvm
open Go Go.Proofs
def wqy6 : List LS := [.sl (.int .u8)]
def wq3u {R : Type} (K : ((List dT109) → Int → Int → Option R)) : Out → Option R
  | .ret [.v (.sl (.pr (.int .i64) (.pr (.int .i64) .str))) y0, .agg [.v (.int .i64) y1, .v (.int .i64) y2]] [] => K y0 y1 y2
  | _ => none
def wq7f : RetSpec := ⟨[.sl (.pr (.int .i64) (.pr (.int .i64) .str)), .ag [.any, .any]], [], []⟩
def wq7g (k : Nat) : Ctx := ⟨tyT, [(1006, ⟨[(0, .sl (.int .u8)), (3, .obj 13 [.any, .any]), (4, .own 100004 110 kdT109), (5, .any), (6, .any)], []⟩), (1010, ⟨[(0, .sl (.int .u8)), (3, .obj 13 [.any, .any]), (4, .own 100004 110 kdT109), (5, .any), (6, .any), (7, .any), (8, .any)], []⟩), (1016, ⟨[(0, .sl (.int .u8)), (3, .obj 13 [.any, .any]), (4, .own 100004 110 kdT109), (5, .any), (6, .any), (7, .any), (9, .any)], []⟩)], (.add 56 wqy5 (wqdi k) .nil), [], [], [], @SH⟩
def wq42 (s0 : (List Int)) (s1 s2 : Int) (s3 : (List dT109)) (s4 s5 : Int) : St := ⟨mkT [(0, .v (.sl (.int .u8)) s0), (3, .ptr 13 0), (4, .row 100004), (5, .v kI s4), (6, .v kI s5)], mkH [(13, .var 39 [.v kI s1, .v kI s2]), (100004, .row 110 kdT109 s3)]⟩
def wq8f (s0 : (List Int)) (s1 s2 : Int) (s3 : (List dT109)) (s4 s5 s6 : Int) (s7 : Bool) : St := ⟨mkT [(0, .v (.sl (.int .u8)) s0), (3, .ptr 13 0), (4, .row 100004), (5, .v kI s4), (6, .v kI s5), (7, .v kI s6), (8, .v .bool s7)], mkH [(13, .var 39 [.v kI s1, .v kI s2]), (100004, .row 110 kdT109 s3)]⟩
def wq8g (s0 : (List Int)) (s1 s2 : Int) (s3 : (List dT109)) (s4 s5 s6 s7 : Int) : St := ⟨mkT [(0, .v (.sl (.int .u8)) s0), (3, .ptr 13 0), (4, .row 100004), (5, .v kI s4), (6, .v kI s5), (7, .v kI s6), (9, .v kI s7)], mkH [(13, .var 39 [.v kI s1, .v kI s2]), (100004, .row 110 kdT109 s3)]⟩
def wqcr (k : Nat) {R : Type} (I : Nat → St → Option R) (n : Nat) (s : St) (K : ((List dT109) → Int → Int → Option R)) : Option R := loopK (wq7g k) k Tryz.f29 wq7f 1006 [1, 1, 1, 1, 0, 1, 0] I n s (wq3u K)
def wqcs (k : Nat) {R : Type} (I : Nat → St → Option R) (n : Nat) (s : St) (K : ((List dT109) → Int → Int → Option R)) : Option R := loopK (wq7g k) k Tryz.f29 wq7f 1010 [1, 1, 1, 1, 0, 1, 0, 0, 1, 0, 0, 1, 1, 0, 0] I n s (wq3u K)
def wqct (k : Nat) {R : Type} (I : Nat → St → Option R) (n : Nat) (s : St) (K : ((List dT109) → Int → Int → Option R)) : Option R := loopK (wq7g k) k Tryz.f29 wq7f 1016 [1, 1, 1, 1, 0, 1, 0, 0, 1, 0, 0, 1, 1, 1, 1, 1, 0, 0] I n s (wq3u K)
def wqcu (k : Nat) {R : Type} (E1010 : ((List Int) → Int → Int → (List dT109) → Int → Int → Int → Bool → Option R)) (s0 : (List Int)) (s1 s2 : Int) (s3 : (List dT109)) (s4 s5 : Int) (K : ((List dT109) → Int → Int → Option R)) : Option R := (cond (decide (s4 < (s0.length : Int))) (E1010 s0 s1 s2 s3 s4 s5 s4 false) (K s3 0 0))
theorem wqnb (k : Nat) {R : Type} (I : Nat → St → Option R) (s0 : (List Int)) (s1 s2 : Int) (s3 : (List dT109)) (s4 s5 : Int) (K : ((List dT109) → Int → Int → Option R)) : bodyK (wq7g k) k Tryz.f29 wq7f [1, 1, 1, 1, 0, 1, 0, 0] I (wq42 s0 s1 s2 s3 s4 s5) (wq3u K) = wqcu k (fun s0 s1 s2 s3 s4 s5 s6 s7 => wqcs k I k (wq8f s0 s1 s2 s3 s4 s5 s6 s7) K) s0 s1 s2 s3 s4 s5 K := by kernel_rfl
def wqcv (k : Nat) {R : Type} (E1010 : ((List Int) → Int → Int → (List dT109) → Int → Int → Int → Bool → Option R)) (E1016 : ((List Int) → Int → Int → (List dT109) → Int → Int → Int → Int → Option R)) (s0 : (List Int)) (s1 s2 : Int) (s3 : (List dT109)) (s4 s5 s6 : Int) (s7 : Bool) (K : ((List dT109) → Int → Int → Option R)) : Option R := (cond ((!((decide (s6 < (s0.length : Int))) == true)) || (inb s6 (s0.length : Int))) (cond (cond (decide (s6 < (s0.length : Int))) ((s0.getD s6.toNat (Kd.zero (@Kd.int Go.IntKind.u8))) != 10) false) (cond ((!(s7 == false)) || (inb s6 (s0.length : Int))) (cond ((!((cond s7 true (decide ((s0.getD s6.toNat (Kd.zero (@Kd.int Go.IntKind.u8))) < 32))) == false)) || (inb s6 (s0.length : Int))) (E1010 s0 s1 s2 s3 s4 s5 (@Go.IntKind.wrap Go.IntKind.i64 (s6 + 1)) (cond (cond s7 true (decide ((s0.getD s6.toNat (Kd.zero (@Kd.int Go.IntKind.u8))) < 32))) true ((s0.getD s6.toNat (Kd.zero (@Kd.int Go.IntKind.u8))) == 127))) none) none) (cond s7 (K [] 2 s5) (E1016 s0 s1 s2 s3 s4 s5 s6 0))) none)
theorem wqnc (k : Nat) {R : Type} (I : Nat → St → Option R) (s0 : (List Int)) (s1 s2 : Int) (s3 : (List dT109)) (s4 s5 s6 : Int) (s7 : Bool) (K : ((List dT109) → Int → Int → Option R)) : bodyK (wq7g k) k Tryz.f29 wq7f [1, 1, 1, 1, 0, 1, 0, 0, 1, 0, 0, 1, 1, 0, 0, 0] I (wq8f s0 s1 s2 s3 s4 s5 s6 s7) (wq3u K) = wqcv k (fun s0 s1 s2 s3 s4 s5 s6 s7 => I 1010 (wq8f s0 s1 s2 s3 s4 s5 s6 s7)) (fun s0 s1 s2 s3 s4 s5 s6 s7 => wqct k I k (wq8g s0 s1 s2 s3 s4 s5 s6 s7) K) s0 s1 s2 s3 s4 s5 s6 s7 K := by kernel_rfl
def wqcw (k : Nat) {R : Type} (E1006 : ((List Int) → Int → Int → (List dT109) → Int → Int → Option R)) (E1016 : ((List Int) → Int → Int → (List dT109) → Int → Int → Int → Int → Option R)) (s0 : (List Int)) (s1 s2 : Int) (s3 : (List dT109)) (s4 s5 s6 s7 : Int) (K : ((List dT109) → Int → Int → Option R)) : Option R := (cond ((!((decide ((@Go.IntKind.wrap Go.IntKind.i64 (s4 + s7)) < s6)) == true)) || (inb (@Go.IntKind.wrap Go.IntKind.i64 (s4 + s7)) (s0.length : Int))) (cond (cond (decide ((@Go.IntKind.wrap Go.IntKind.i64 (s4 + s7)) < s6)) ((s0.getD (@Go.IntKind.wrap Go.IntKind.i64 (s4 + s7)).toNat (Kd.zero (@Kd.int Go.IntKind.u8))) == 32) false) (E1016 s0 s1 s2 s3 s4 s5 s6 (@Go.IntKind.wrap Go.IntKind.i64 (s7 + 1))) (cond (bnd (@Go.IntKind.wrap Go.IntKind.i64 (s4 + s7)) s6 (s0.length : Int)) (wqan k (wq1v (cut s0 (@Go.IntKind.wrap Go.IntKind.i64 (s4 + s7)) s6)) (fun y14 y15 => (cond (!y15) (K [] 3 s5) (cond (!(y14 == [])) (cond (fits s3.length ([(s5, (s7, y14))]).length 32) (E1006 s0 s1 s2 (s3 ++ [(s5, (s7, y14))]) (@Go.IntKind.wrap Go.IntKind.i64 (s6 + 1)) (@Go.IntKind.wrap Go.IntKind.i64 (s5 + 1))) none) (E1006 s0 s1 s2 s3 (@Go.IntKind.wrap Go.IntKind.i64 (s6 + 1)) (@Go.IntKind.wrap Go.IntKind.i64 (s5 + 1))))))) none)) none)
theorem wqnd (k : Nat) {R : Type} (I : Nat → St → Option R) (s0 : (List Int)) (s1 s2 : Int) (s3 : (List dT109)) (s4 s5 s6 s7 : Int) (K : ((List dT109) → Int → Int → Option R)) : bodyK (wq7g k) k Tryz.f29 wq7f [1, 1, 1, 1, 0, 1, 0, 0, 1, 0, 0, 1, 1, 1, 1, 1, 0, 0, 0] I (wq8g s0 s1 s2 s3 s4 s5 s6 s7) (wq3u K) = wqcw k (fun s0 s1 s2 s3 s4 s5 => I 1006 (wq42 s0 s1 s2 s3 s4 s5)) (fun s0 s1 s2 s3 s4 s5 s6 s7 => I 1016 (wq8g s0 s1 s2 s3 s4 s5 s6 s7)) s0 s1 s2 s3 s4 s5 s6 s7 K := by kernel_rfl
def wqm0 (k : Nat) {R : Type} (E1006 : ((List Int) → Int → Int → (List dT109) → Int → Int → Option R)) (x0 : (List Int)) (K : ((List dT109) → Int → Int → Option R)) : Option R := (cond (decide ((x0.length : Int) > 16384)) (K [] 1 1) (E1006 x0 0 0 [] 0 1))
def wq4u (k : Nat) {R : Type} (J1006 : ((List Int) → Int → Int → (List dT109) → Int → Int → Option R)) : Nat → (List Int) → Int → Int → (List dT109) → Int → Int → Int → Int → ((List dT109) → Int → Int → Option R) → Option R
  | 0, _, _, _, _, _, _, _, _, _ => none
  | n + 1, s0, s1, s2, s3, s4, s5, s6, s7, K => wqcw k J1006 (fun s0 s1 s2 s3 s4 s5 s6 s7 => wq4u k J1006 n s0 s1 s2 s3 s4 s5 s6 s7 K) s0 s1 s2 s3 s4 s5 s6 s7 K
theorem wqne (k : Nat) {R : Type} (I : Nat → St → Option R) (K : ((List dT109) → Int → Int → Option R)) (n : Nat) : ∀ (s0 : (List Int)) (s1 s2 : Int) (s3 : (List dT109)) (s4 s5 s6 s7 : Int), wqct k I n (wq8g s0 s1 s2 s3 s4 s5 s6 s7) K = wq4u k (fun s0 s1 s2 s3 s4 s5 => I 1006 (wq42 s0 s1 s2 s3 s4 s5)) n s0 s1 s2 s3 s4 s5 s6 s7 K := by
  induction n with
  | zero => intros; rfl
  | succ n ih =>
    intro s0 s1 s2 s3 s4 s5 s6 s7
    refine (?_ : _ = _).trans ((wqnd k (upI 1016 (fun s => wqct k I n s K) I) s0 s1 s2 s3 s4 s5 s6 s7 K).trans ?_)
    · rfl
    · simp only [wq1o, ih, upI_ne (show Nat.beq 1006 1016 = false from rfl)] <;> rfl
def wq6r (k : Nat) {R : Type} (J1006 : ((List Int) → Int → Int → (List dT109) → Int → Int → Option R)) : Nat → (List Int) → Int → Int → (List dT109) → Int → Int → Int → Bool → ((List dT109) → Int → Int → Option R) → Option R
  | 0, _, _, _, _, _, _, _, _, _ => none
  | n + 1, s0, s1, s2, s3, s4, s5, s6, s7, K => wqcv k (fun s0 s1 s2 s3 s4 s5 s6 s7 => wq6r k J1006 n s0 s1 s2 s3 s4 s5 s6 s7 K) (fun s0 s1 s2 s3 s4 s5 s6 s7 => wq4u k J1006 k s0 s1 s2 s3 s4 s5 s6 s7 K) s0 s1 s2 s3 s4 s5 s6 s7 K
theorem wqnf (k : Nat) {R : Type} (I : Nat → St → Option R) (K : ((List dT109) → Int → Int → Option R)) (n : Nat) : ∀ (s0 : (List Int)) (s1 s2 : Int) (s3 : (List dT109)) (s4 s5 s6 : Int) (s7 : Bool), wqcs k I n (wq8f s0 s1 s2 s3 s4 s5 s6 s7) K = wq6r k (fun s0 s1 s2 s3 s4 s5 => I 1006 (wq42 s0 s1 s2 s3 s4 s5)) n s0 s1 s2 s3 s4 s5 s6 s7 K := by
  induction n with
  | zero => intros; rfl
  | succ n ih =>
    intro s0 s1 s2 s3 s4 s5 s6 s7
    refine (?_ : _ = _).trans ((wqnc k (upI 1010 (fun s => wqcs k I n s K) I) s0 s1 s2 s3 s4 s5 s6 s7 K).trans ?_)
    · rfl
    · simp only [wq1o, ih, wqne, upI_ne (show Nat.beq 1006 1010 = false from rfl)] <;> rfl
def wq4v (k : Nat) {R : Type}  : Nat → (List Int) → Int → Int → (List dT109) → Int → Int → ((List dT109) → Int → Int → Option R) → Option R
  | 0, _, _, _, _, _, _, _ => none
  | n + 1, s0, s1, s2, s3, s4, s5, K => wqcu k (fun s0 s1 s2 s3 s4 s5 s6 s7 => wq6r k (fun s0 s1 s2 s3 s4 s5 => wq4v k  n s0 s1 s2 s3 s4 s5 K) k s0 s1 s2 s3 s4 s5 s6 s7 K) s0 s1 s2 s3 s4 s5 K
theorem wqng (k : Nat) {R : Type} (I : Nat → St → Option R) (K : ((List dT109) → Int → Int → Option R)) (n : Nat) : ∀ (s0 : (List Int)) (s1 s2 : Int) (s3 : (List dT109)) (s4 s5 : Int), wqcr k I n (wq42 s0 s1 s2 s3 s4 s5) K = wq4v k  n s0 s1 s2 s3 s4 s5 K := by
  induction n with
  | zero => intros; rfl
  | succ n ih =>
    intro s0 s1 s2 s3 s4 s5
    refine (?_ : _ = _).trans ((wqnb k (upI 1006 (fun s => wqcr k I n s K) I) s0 s1 s2 s3 s4 s5 K).trans ?_)
    · rfl
    · simp only [wq1o, ih, wqnf] <;> rfl
def wqe6 (k : Nat) {R : Type} (x0 : (List Int)) (K : ((List dT109) → Int → Int → Option R)) : Option R := wqm0 k (fun s0 s1 s2 s3 s4 s5 => wq4v k k s0 s1 s2 s3 s4 s5 K) x0 K
theorem wqwp (k : Nat) {R : Type} (x0 : (List Int)) (K : ((List dT109) → Int → Int → Option R)) : fnW (wq7g k) k Tryz.f29 wq7f [.v (.sl (.int .u8)) x0] [] (wq3u K) = wqe6 k x0 K := by
  refine Eq.trans (b := wqm0 k (fun s0 s1 s2 s3 s4 s5 => wqcr k (fun _ _ => none) k (wq42 s0 s1 s2 s3 s4 s5) K) x0 K) (by kernel_rfl) ?_
  simp only [wqng] <;> rfl
def wqdj (k : Nat) {R : Type} : List PV → List (Nm × HObj) → (Out → Option R) → Option R
  | [.v (.sl (.int .u8)) x0], [], K => wqe6 k x0 (fun y0 y1 y2 => K (.ret [.v (.sl (.pr (.int .i64) (.pr (.int .i64) .str))) y0, .agg [.v (.int .i64) y1, .v (.int .i64) y2]] []))
  | _, _, _ => none
theorem wq139 (k : Nat) : DOK Tryz.prog 29 (wqdj k) := by
  intro ps hp R K r h
  have h : wqdj k ps hp K = some r := h
  unfold wqdj at h
  split at h
  · rw [← wqwp] at h
    exact fnW_ok ⟨tyT_ok, (wqm (wq138 k) CTab.nil_ok), fun _ _ => rfl⟩ mixed (by kernel_rfl) (by kernel_rfl) h fun o ho => by unfold wq3u at ho; split at ho <;> first | exact ho | cases ho
  · cases h
end Go.Proofs.YtdfhgimidmfgfaaGreatDoor.Pvm
end


noncomputable section
namespace Go.Proofs.YtdfhgimidmfgfaaGreatDoor.Pvm
open Go Go.Proofs
def wq9o : List LS := [.obj 1 [.sl kdT115, .any, .own 21 49 kdT48, .any, .any], .any, .any]
def wqe7 {R : Type} (K : ((List dT115) → Int → (List dT48) → Int → Int → Option R)) : Out → Option R
  | .ret [] [(21, .row 49 (.pr (.int .i64) (.pr (.int .i64) (.pr .str (.pr .bool (.pr (.sl .str) (.sl (.int .i64))))))) y2), (1, .var 114 [.v (.sl (.pr (.int .i64) (.pr (.int .i64) (.pr (.int .i64) (.pr .str .bool))))) y0, .v (.int .i64) y1, .row 21, .v (.int .i64) y3, .v (.int .i64) y4])] => K y0 y1 y2 y3 y4
  | _ => none
def wqpb : RetSpec := ⟨[], [(1, .obj 1 [.sl (.pr (.int .i64) (.pr (.int .i64) (.pr (.int .i64) (.pr .str .bool)))), .any, .own 21 49 (.pr (.int .i64) (.pr (.int .i64) (.pr .str (.pr .bool (.pr (.sl .str) (.sl (.int .i64))))))), .any, .any])], []⟩
def wqpc (k : Nat) : Ctx := ⟨tyT, [], .nil, [], [1], [], @SH⟩
def wqr5 (k : Nat) {R : Type}  (x0 : (List dT115)) (x1 : Int) (x2 : (List dT48)) (x3 x4 x5 x6 : Int) (K : ((List dT115) → Int → (List dT48) → Int → Int → Option R)) : Option R := (cond (x3 == 0) (K x0 x1 x2 x5 x6) (K x0 x1 x2 x3 x4))
def wq1p (k : Nat) {R : Type} (x0 : (List dT115)) (x1 : Int) (x2 : (List dT48)) (x3 x4 x5 x6 : Int) (K : ((List dT115) → Int → (List dT48) → Int → Int → Option R)) : Option R := wqr5 k  x0 x1 x2 x3 x4 x5 x6 K
theorem wqm1 (k : Nat) {R : Type} (x0 : (List dT115)) (x1 : Int) (x2 : (List dT48)) (x3 x4 x5 x6 : Int) (K : ((List dT115) → Int → (List dT48) → Int → Int → Option R)) : fnW (wqpc k) k Tryz.f59 wqpb [.ptr 1 0, .v kI x5, .v kI x6] [(21, .row 49 kdT48 x2), (1, .var 114 [.v (.sl kdT115) x0, .v kI x1, .row 21, .v kI x3, .v kI x4])] (wqe7 K) = wq1p k x0 x1 x2 x3 x4 x5 x6 K := by
  kernel_rfl
def wq38 (k : Nat) {R : Type} : List PV → List (Nm × HObj) → (Out → Option R) → Option R
  | [.ptr 1 0, .v (.int .i64) x5, .v (.int .i64) x6], [(21, .row 49 (.pr (.int .i64) (.pr (.int .i64) (.pr .str (.pr .bool (.pr (.sl .str) (.sl (.int .i64))))))) x2), (1, .var 114 [.v (.sl (.pr (.int .i64) (.pr (.int .i64) (.pr (.int .i64) (.pr .str .bool))))) x0, .v (.int .i64) x1, .row 21, .v (.int .i64) x3, .v (.int .i64) x4])], K => wq1p k x0 x1 x2 x3 x4 x5 x6 (fun y0 y1 y2 y3 y4 => K (.ret [] [(21, .row 49 (.pr (.int .i64) (.pr (.int .i64) (.pr .str (.pr .bool (.pr (.sl .str) (.sl (.int .i64))))))) y2), (1, .var 114 [.v (.sl (.pr (.int .i64) (.pr (.int .i64) (.pr (.int .i64) (.pr .str .bool))))) y0, .v (.int .i64) y1, .row 21, .v (.int .i64) y3, .v (.int .i64) y4])]))
  | _, _, _ => none
theorem wqbi (k : Nat) : DOK Tryz.prog 59 (wq38 k) := by
  intro ps hp R K r h
  have h : wq38 k ps hp K = some r := h
  unfold wq38 at h
  split at h
  · rw [← wqm1] at h
    exact fnW_ok ⟨tyT_ok, CTab.nil_ok, fun _ _ => rfl⟩ mixed (by kernel_rfl) (by kernel_rfl) h fun o ho => by unfold wqe7 at ho; split at ho <;> first | exact ho | cases ho
  · cases h
end Go.Proofs.YtdfhgimidmfgfaaGreatDoor.Pvm
end


noncomputable section
namespace Go.Proofs.YtdfhgimidmfgfaaGreatDoor.Pvm
open Go Go.Proofs
abbrev wqy : Type 1 := (R : Type) → (List dT115) → Int → (List dT48) → Int → Int → Int → ((List dT115) → Int → (List dT48) → Int → Int → Int → Option R) → Option R
abbrev wqz : Type 1 := (R : Type) → (List dT115) → Int → (List dT48) → Int → Int → Int → Int → Int → (List UInt8) → Bool → Int → ((List dT115) → Int → (List dT48) → Int → Int → Int → Option R) → Option R
abbrev wqs (R : Type) : Type := ((List dT115) → Int → (List dT48) → Int → Int → Int → Option R)
def wqe8 : List LS := [.obj 1 [.sl kdT115, .any, .own 21 49 kdT48, .any, .any], .any]
def wqbz (wq4 : wqy) {R : Type} : List PV → List (Nm × HObj) → (Out → Option R) → Option R
  | [.ptr 1 0, .v (.int .i64) x5], [(21, .row 49 (.pr (.int .i64) (.pr (.int .i64) (.pr .str (.pr .bool (.pr (.sl .str) (.sl (.int .i64))))))) x2), (1, .var 114 [.v (.sl (.pr (.int .i64) (.pr (.int .i64) (.pr (.int .i64) (.pr .str .bool))))) x0, .v (.int .i64) x1, .row 21, .v (.int .i64) x3, .v (.int .i64) x4])], K => wq4 R x0 x1 x2 x3 x4 x5 (fun y0 y1 y2 y3 y4 y5 => K (.ret [.v (.int .i64) y5] [(21, .row 49 (.pr (.int .i64) (.pr (.int .i64) (.pr .str (.pr .bool (.pr (.sl .str) (.sl (.int .i64))))))) y2), (1, .var 114 [.v (.sl (.pr (.int .i64) (.pr (.int .i64) (.pr (.int .i64) (.pr .str .bool))))) y0, .v (.int .i64) y1, .row 21, .v (.int .i64) y3, .v (.int .i64) y4])]))
  | _, _, _ => none
def wqm2 : List LS := [.obj 1 [.sl kdT115, .any, .own 21 49 kdT48, .any, .any], .ag [.any, .any, .any, .any, .any], .any]
def wqc0 (wq3 : wqz) {R : Type} : List PV → List (Nm × HObj) → (Out → Option R) → Option R
  | [.ptr 1 0, .agg [.v (.int .i64) x5, .v (.int .i64) x6, .v (.int .i64) x7, .v .str x8, .v .bool x9], .v (.int .i64) x10], [(21, .row 49 (.pr (.int .i64) (.pr (.int .i64) (.pr .str (.pr .bool (.pr (.sl .str) (.sl (.int .i64))))))) x2), (1, .var 114 [.v (.sl (.pr (.int .i64) (.pr (.int .i64) (.pr (.int .i64) (.pr .str .bool))))) x0, .v (.int .i64) x1, .row 21, .v (.int .i64) x3, .v (.int .i64) x4])], K => wq3 R x0 x1 x2 x3 x4 x5 x6 x7 x8 x9 x10 (fun y0 y1 y2 y3 y4 y5 => K (.ret [.v (.int .i64) y5] [(21, .row 49 (.pr (.int .i64) (.pr (.int .i64) (.pr .str (.pr .bool (.pr (.sl .str) (.sl (.int .i64))))))) y2), (1, .var 114 [.v (.sl (.pr (.int .i64) (.pr (.int .i64) (.pr (.int .i64) (.pr .str .bool))))) y0, .v (.int .i64) y1, .row 21, .v (.int .i64) y3, .v (.int .i64) y4])]))
  | _, _, _ => none
def wq2l {R : Type} (K : wqs R) : Out → Option R
  | .ret [.v (.int .i64) y5] [(21, .row 49 (.pr (.int .i64) (.pr (.int .i64) (.pr .str (.pr .bool (.pr (.sl .str) (.sl (.int .i64))))))) y2), (1, .var 114 [.v (.sl (.pr (.int .i64) (.pr (.int .i64) (.pr (.int .i64) (.pr .str .bool))))) y0, .v (.int .i64) y1, .row 21, .v (.int .i64) y3, .v (.int .i64) y4])] => K y0 y1 y2 y3 y4 y5
  | _ => none
def wq4f : RetSpec := ⟨[.any], [(1, .obj 1 [.sl (.pr (.int .i64) (.pr (.int .i64) (.pr (.int .i64) (.pr .str .bool)))), .any, .own 21 49 (.pr (.int .i64) (.pr (.int .i64) (.pr .str (.pr .bool (.pr (.sl .str) (.sl (.int .i64))))))), .any, .any])], []⟩
def wq4g (k : Nat) (wq4 : wqy) (wq3 : wqz) : Ctx := ⟨tyT, [(1019, ⟨[(0, .obj 1 [.sl kdT115, .any, .own 21 49 kdT48, .any, .any]), (1, .any), (5, .obj 15 [.any, .any, .any, .any, .any]), (6, .any), (7, .own 100007 9 .str), (8, .own 100008 3 kI)], [(1, .obj 1 [.sl kdT115, .any, .own 21 49 kdT48, .any, .any])]⟩), (1024, ⟨[(0, .obj 1 [.sl kdT115, .any, .own 21 49 kdT48, .any, .any]), (1, .any), (5, .obj 15 [.any, .any, .any, .any, .any]), (6, .any), (7, .own 100007 9 .str), (8, .own 100008 3 kI), (9, .obj 19 [.any, .any, .any, .any, .any]), (10, .any)], [(1, .obj 1 [.sl kdT115, .any, .own 21 49 kdT48, .any, .any])]⟩)], (.add 59 wq9o (wq38 k) (.add 90 wqm2 (wqc0 wq3) .nil)), [], [1], [(1, (.of [(0, 1), (1, 1), (2, 1), (4, 1), (5, 1), (6, 1), (3, 1), (7, 1), (8, 1), (9, 1), (10, 0), (11, 0)] .done)), (12, (.of [(0, 1), (1, 1), (2, 1), (3, 1), (5, 1), (4, 1), (6, 1), (7, 1), (8, 0), (9, 0), (10, 1), (11, 1), (12, 0)] .done)), (15, (.of [(0, 1), (1, 1), (2, 1), (4, 1), (5, 1), (6, 1), (7, 1), (9, 1), (10, 1), (11, 1), (12, 1), (14, 1), (15, 1), (17, 1), (3, 1), (8, 1), (13, 1), (19, 1), (20, 1), (16, 2), (18, 2), (21, 0), (22, 1), (23, 1), (24, 0), (25, 1), (26, 1), (27, 0)] .done)), (19, (.of [(0, 1), (1, 1), (2, 1), (4, 1), (5, 1), (6, 1), (3, 1), (7, 1), (8, 1), (9, 1), (10, 1), (11, 1), (12, 1), (13, 1), (15, 1), (16, 1), (17, 1), (22, 1), (14, 1), (18, 1), (19, 1), (20, 1), (21, 1), (23, 1), (24, 1), (25, 1), (26, 1), (27, 1), (28, 1), (29, 1), (31, 1), (32, 1), (33, 1), (38, 1), (30, 1), (34, 1), (35, 1), (36, 1), (37, 1), (39, 1), (40, 1), (41, 1), (42, 1), (43, 1), (44, 1), (45, 1), (46, 1), (47, 1), (48, 1), (49, 1)] .done)), (20, (.of [(0, 1), (1, 1), (2, 1), (4, 1), (5, 1), (6, 1), (3, 1), (7, 1), (8, 1), (9, 1), (10, 0), (11, 0)] .done)), (26, (.of [(0, 1), (1, 1), (2, 1), (4, 1), (3, 1), (5, 1), (6, 1)] .done)), (35, (.of [(0, 1), (1, 1), (2, 1), (4, 1), (5, 1), (6, 1), (7, 1), (9, 1), (10, 1), (11, 1), (3, 1), (8, 1), (12, 1), (13, 1), (14, 0), (15, 1), (16, 1), (17, 0)] .done))], @SH⟩
def wq1z (s0 : (List dT115)) (s1 : Int) (s2 : (List dT48)) (s3 s4 s5 s6 s7 s8 : Int) (s9 : (List UInt8)) (s10 : Bool) (s11 : Int) (s12 : (List (List UInt8))) (s13 : (List Int)) : St := ⟨mkT [(0, .ptr 1 0), (1, .v kI s5), (5, .ptr 15 0), (6, .v kI s11), (7, .row 100007), (8, .row 100008)], mkH [(21, .row 49 kdT48 s2), (1, .var 114 [.v (.sl kdT115) s0, .v kI s1, .row 21, .v kI s3, .v kI s4]), (15, .var 116 [.v kI s6, .v kI s7, .v kI s8, .v .str s9, .v .bool s10]), (100007, .row 9 .str s12), (100008, .row 3 kI s13)]⟩
def wq3l (s0 : (List dT115)) (s1 : Int) (s2 : (List dT48)) (s3 s4 s5 s6 s7 s8 : Int) (s9 : (List UInt8)) (s10 : Bool) (s11 : Int) (s12 : (List (List UInt8))) (s13 : (List Int)) (s14 s15 s16 : Int) (s17 : (List UInt8)) (s18 : Bool) (s19 : Int) : St := ⟨mkT [(0, .ptr 1 0), (1, .v kI s5), (5, .ptr 15 0), (6, .v kI s11), (7, .row 100007), (8, .row 100008), (9, .ptr 19 0), (10, .v kI s19)], mkH [(21, .row 49 kdT48 s2), (1, .var 114 [.v (.sl kdT115) s0, .v kI s1, .row 21, .v kI s3, .v kI s4]), (15, .var 116 [.v kI s6, .v kI s7, .v kI s8, .v .str s9, .v .bool s10]), (100007, .row 9 .str s12), (100008, .row 3 kI s13), (19, .var 116 [.v kI s14, .v kI s15, .v kI s16, .v .str s17, .v .bool s18])]⟩
def wq6s (k : Nat) (wq4 : wqy) (wq3 : wqz) {R : Type} (I : Nat → St → Option R) (n : Nat) (s : St) (K : wqs R) : Option R := loopK (wq4g k wq4 wq3) k Tryz.f58 wq4f 1019 [1, 1, 1, 1, 1, 1, 1, 1, 1, 1, 0, 0] I n s (wq2l K)
def wq6t (k : Nat) (wq4 : wqy) (wq3 : wqz) {R : Type} (I : Nat → St → Option R) (n : Nat) (s : St) (K : wqs R) : Option R := loopK (wq4g k wq4 wq3) k Tryz.f58 wq4f 1024 [1, 1, 1, 1, 1, 1, 1, 1, 1, 1, 0, 0, 0, 1, 0, 1, 1, 0, 1, 0, 0, 1, 0] I n s (wq2l K)
def wq43 (k : Nat) (wq4 : wqy) (wq3 : wqz) {R : Type} (E1019 : ((List dT115) → Int → (List dT48) → Int → Int → Int → Int → Int → Int → (List UInt8) → Bool → Int → (List (List UInt8)) → (List Int) → Option R)) (E1024 : ((List dT115) → Int → (List dT48) → Int → Int → Int → Int → Int → Int → (List UInt8) → Bool → Int → (List (List UInt8)) → (List Int) → Int → Int → Int → (List UInt8) → Bool → Int → Option R)) (s0 : (List dT115)) (s1 : Int) (s2 : (List dT48)) (s3 s4 s5 s6 s7 s8 : Int) (s9 : (List UInt8)) (s10 : Bool) (s11 : Int) (s12 : (List (List UInt8))) (s13 : (List Int)) (K : wqs R) : Option R := (cond ((!((decide (s1 < (s0.length : Int))) == true)) || (inb s1 (s0.length : Int))) (cond ((!((cond (decide (s1 < (s0.length : Int))) ((s0.getD s1.toNat (Kd.zero (@Kd.pr kI (@Kd.pr kI (@Kd.pr kI (@Kd.pr Kd.str Kd.bool)))))).1 == s6) false) == true)) || (inb s1 (s0.length : Int))) (cond (cond (cond (cond (decide (s1 < (s0.length : Int))) ((s0.getD s1.toNat (Kd.zero (@Kd.pr kI (@Kd.pr kI (@Kd.pr kI (@Kd.pr Kd.str Kd.bool)))))).1 == s6) false) ((((s0.getD s1.toNat (Kd.zero (@Kd.pr kI (@Kd.pr kI (@Kd.pr kI (@Kd.pr Kd.str Kd.bool)))))).2).2).1 == s8) false) (s3 == 0) false) (cond (inb s1 (s0.length : Int)) (cond (s6 == 2) (E1024 s0 (@Go.IntKind.wrap Go.IntKind.i64 (s1 + 1)) s2 s3 s4 s5 s6 s7 s8 s9 s10 s11 s12 s13 (s0.getD s1.toNat (Kd.zero (@Kd.pr kI (@Kd.pr kI (@Kd.pr kI (@Kd.pr Kd.str Kd.bool)))))).1 ((s0.getD s1.toNat (Kd.zero (@Kd.pr kI (@Kd.pr kI (@Kd.pr kI (@Kd.pr Kd.str Kd.bool)))))).2).1 (((s0.getD s1.toNat (Kd.zero (@Kd.pr kI (@Kd.pr kI (@Kd.pr kI (@Kd.pr Kd.str Kd.bool)))))).2).2).1 ((((s0.getD s1.toNat (Kd.zero (@Kd.pr kI (@Kd.pr kI (@Kd.pr kI (@Kd.pr Kd.str Kd.bool)))))).2).2).2).1 ((((s0.getD s1.toNat (Kd.zero (@Kd.pr kI (@Kd.pr kI (@Kd.pr kI (@Kd.pr Kd.str Kd.bool)))))).2).2).2).2 0) (wq3 R s0 (@Go.IntKind.wrap Go.IntKind.i64 (s1 + 1)) s2 s3 s4 (s0.getD s1.toNat (Kd.zero (@Kd.pr kI (@Kd.pr kI (@Kd.pr kI (@Kd.pr Kd.str Kd.bool)))))).1 ((s0.getD s1.toNat (Kd.zero (@Kd.pr kI (@Kd.pr kI (@Kd.pr kI (@Kd.pr Kd.str Kd.bool)))))).2).1 (((s0.getD s1.toNat (Kd.zero (@Kd.pr kI (@Kd.pr kI (@Kd.pr kI (@Kd.pr Kd.str Kd.bool)))))).2).2).1 ((((s0.getD s1.toNat (Kd.zero (@Kd.pr kI (@Kd.pr kI (@Kd.pr kI (@Kd.pr Kd.str Kd.bool)))))).2).2).2).1 ((((s0.getD s1.toNat (Kd.zero (@Kd.pr kI (@Kd.pr kI (@Kd.pr kI (@Kd.pr Kd.str Kd.bool)))))).2).2).2).2 s5 (fun y19 y20 y21 y22 y23 y24 => (cond (fits s13.length (@List.length (@Kd.T kI) [y24]) 8) (E1019 y19 y20 y21 y22 y23 s5 s6 s7 s8 s9 s10 s11 s12 (s13 ++ [y24])) none)))) none) (cond (inb s11 (s2.length : Int)) (@SH (@List (@Kd.T (@Kd.pr kI (@Kd.pr kI (@Kd.pr Kd.str (@Kd.pr Kd.bool (@Kd.pr (@Kd.sl Kd.str) (@Kd.sl kI)))))))) R (List.set s2 s11.toNat (2, (((s2.getD s11.toNat (Kd.zero (@Kd.pr kI (@Kd.pr kI (@Kd.pr Kd.str (@Kd.pr Kd.bool (@Kd.pr (@Kd.sl Kd.str) (@Kd.sl kI)))))))).2).1, ((((s2.getD s11.toNat (Kd.zero (@Kd.pr kI (@Kd.pr kI (@Kd.pr Kd.str (@Kd.pr Kd.bool (@Kd.pr (@Kd.sl Kd.str) (@Kd.sl kI)))))))).2).2).1, (((((s2.getD s11.toNat (Kd.zero (@Kd.pr kI (@Kd.pr kI (@Kd.pr Kd.str (@Kd.pr Kd.bool (@Kd.pr (@Kd.sl Kd.str) (@Kd.sl kI)))))))).2).2).2).1, ((((((s2.getD s11.toNat (Kd.zero (@Kd.pr kI (@Kd.pr kI (@Kd.pr Kd.str (@Kd.pr Kd.bool (@Kd.pr (@Kd.sl Kd.str) (@Kd.sl kI)))))))).2).2).2).2).1, (((((s2.getD s11.toNat (Kd.zero (@Kd.pr kI (@Kd.pr kI (@Kd.pr Kd.str (@Kd.pr Kd.bool (@Kd.pr (@Kd.sl Kd.str) (@Kd.sl kI)))))))).2).2).2).2).2)))))) (fun y19 => (cond (s6 == 2) (cond (inb s11 (y19.length : Int)) (@SH (@List (@Kd.T (@Kd.pr kI (@Kd.pr kI (@Kd.pr Kd.str (@Kd.pr Kd.bool (@Kd.pr (@Kd.sl Kd.str) (@Kd.sl kI)))))))) R (List.set y19 s11.toNat (3, (((y19.getD s11.toNat (Kd.zero (@Kd.pr kI (@Kd.pr kI (@Kd.pr Kd.str (@Kd.pr Kd.bool (@Kd.pr (@Kd.sl Kd.str) (@Kd.sl kI)))))))).2).1, ((((y19.getD s11.toNat (Kd.zero (@Kd.pr kI (@Kd.pr kI (@Kd.pr Kd.str (@Kd.pr Kd.bool (@Kd.pr (@Kd.sl Kd.str) (@Kd.sl kI)))))))).2).2).1, (((((y19.getD s11.toNat (Kd.zero (@Kd.pr kI (@Kd.pr kI (@Kd.pr Kd.str (@Kd.pr Kd.bool (@Kd.pr (@Kd.sl Kd.str) (@Kd.sl kI)))))))).2).2).2).1, ((((((y19.getD s11.toNat (Kd.zero (@Kd.pr kI (@Kd.pr kI (@Kd.pr Kd.str (@Kd.pr Kd.bool (@Kd.pr (@Kd.sl Kd.str) (@Kd.sl kI)))))))).2).2).2).2).1, (((((y19.getD s11.toNat (Kd.zero (@Kd.pr kI (@Kd.pr kI (@Kd.pr Kd.str (@Kd.pr Kd.bool (@Kd.pr (@Kd.sl Kd.str) (@Kd.sl kI)))))))).2).2).2).2).2)))))) (fun y20 => (cond (inb s11 (y20.length : Int)) (@SH (@List (@Kd.T (@Kd.pr kI (@Kd.pr kI (@Kd.pr Kd.str (@Kd.pr Kd.bool (@Kd.pr (@Kd.sl Kd.str) (@Kd.sl kI)))))))) R (List.set y20 s11.toNat ((y20.getD s11.toNat (Kd.zero (@Kd.pr kI (@Kd.pr kI (@Kd.pr Kd.str (@Kd.pr Kd.bool (@Kd.pr (@Kd.sl Kd.str) (@Kd.sl kI)))))))).1, (((y20.getD s11.toNat (Kd.zero (@Kd.pr kI (@Kd.pr kI (@Kd.pr Kd.str (@Kd.pr Kd.bool (@Kd.pr (@Kd.sl Kd.str) (@Kd.sl kI)))))))).2).1, ((((y20.getD s11.toNat (Kd.zero (@Kd.pr kI (@Kd.pr kI (@Kd.pr Kd.str (@Kd.pr Kd.bool (@Kd.pr (@Kd.sl Kd.str) (@Kd.sl kI)))))))).2).2).1, (((((y20.getD s11.toNat (Kd.zero (@Kd.pr kI (@Kd.pr kI (@Kd.pr Kd.str (@Kd.pr Kd.bool (@Kd.pr (@Kd.sl Kd.str) (@Kd.sl kI)))))))).2).2).2).1, (s12, (((((y20.getD s11.toNat (Kd.zero (@Kd.pr kI (@Kd.pr kI (@Kd.pr Kd.str (@Kd.pr Kd.bool (@Kd.pr (@Kd.sl Kd.str) (@Kd.sl kI)))))))).2).2).2).2).2)))))) (fun y21 => (cond (inb s11 (y21.length : Int)) (@SH (@List (@Kd.T (@Kd.pr kI (@Kd.pr kI (@Kd.pr Kd.str (@Kd.pr Kd.bool (@Kd.pr (@Kd.sl Kd.str) (@Kd.sl kI)))))))) R (List.set y21 s11.toNat ((y21.getD s11.toNat (Kd.zero (@Kd.pr kI (@Kd.pr kI (@Kd.pr Kd.str (@Kd.pr Kd.bool (@Kd.pr (@Kd.sl Kd.str) (@Kd.sl kI)))))))).1, (((y21.getD s11.toNat (Kd.zero (@Kd.pr kI (@Kd.pr kI (@Kd.pr Kd.str (@Kd.pr Kd.bool (@Kd.pr (@Kd.sl Kd.str) (@Kd.sl kI)))))))).2).1, ((((y21.getD s11.toNat (Kd.zero (@Kd.pr kI (@Kd.pr kI (@Kd.pr Kd.str (@Kd.pr Kd.bool (@Kd.pr (@Kd.sl Kd.str) (@Kd.sl kI)))))))).2).2).1, (((((y21.getD s11.toNat (Kd.zero (@Kd.pr kI (@Kd.pr kI (@Kd.pr Kd.str (@Kd.pr Kd.bool (@Kd.pr (@Kd.sl Kd.str) (@Kd.sl kI)))))))).2).2).2).1, ((((((y21.getD s11.toNat (Kd.zero (@Kd.pr kI (@Kd.pr kI (@Kd.pr Kd.str (@Kd.pr Kd.bool (@Kd.pr (@Kd.sl Kd.str) (@Kd.sl kI)))))))).2).2).2).2).1, s13)))))) (fun y22 => (K s0 s1 y22 s3 s4 s11))) none))) none))) none) (cond (inb s11 (y19.length : Int)) (@SH (@List (@Kd.T (@Kd.pr kI (@Kd.pr kI (@Kd.pr Kd.str (@Kd.pr Kd.bool (@Kd.pr (@Kd.sl Kd.str) (@Kd.sl kI)))))))) R (List.set y19 s11.toNat ((y19.getD s11.toNat (Kd.zero (@Kd.pr kI (@Kd.pr kI (@Kd.pr Kd.str (@Kd.pr Kd.bool (@Kd.pr (@Kd.sl Kd.str) (@Kd.sl kI)))))))).1, (((y19.getD s11.toNat (Kd.zero (@Kd.pr kI (@Kd.pr kI (@Kd.pr Kd.str (@Kd.pr Kd.bool (@Kd.pr (@Kd.sl Kd.str) (@Kd.sl kI)))))))).2).1, ((((y19.getD s11.toNat (Kd.zero (@Kd.pr kI (@Kd.pr kI (@Kd.pr Kd.str (@Kd.pr Kd.bool (@Kd.pr (@Kd.sl Kd.str) (@Kd.sl kI)))))))).2).2).1, (((((y19.getD s11.toNat (Kd.zero (@Kd.pr kI (@Kd.pr kI (@Kd.pr Kd.str (@Kd.pr Kd.bool (@Kd.pr (@Kd.sl Kd.str) (@Kd.sl kI)))))))).2).2).2).1, (s12, (((((y19.getD s11.toNat (Kd.zero (@Kd.pr kI (@Kd.pr kI (@Kd.pr Kd.str (@Kd.pr Kd.bool (@Kd.pr (@Kd.sl Kd.str) (@Kd.sl kI)))))))).2).2).2).2).2)))))) (fun y20 => (cond (inb s11 (y20.length : Int)) (@SH (@List (@Kd.T (@Kd.pr kI (@Kd.pr kI (@Kd.pr Kd.str (@Kd.pr Kd.bool (@Kd.pr (@Kd.sl Kd.str) (@Kd.sl kI)))))))) R (List.set y20 s11.toNat ((y20.getD s11.toNat (Kd.zero (@Kd.pr kI (@Kd.pr kI (@Kd.pr Kd.str (@Kd.pr Kd.bool (@Kd.pr (@Kd.sl Kd.str) (@Kd.sl kI)))))))).1, (((y20.getD s11.toNat (Kd.zero (@Kd.pr kI (@Kd.pr kI (@Kd.pr Kd.str (@Kd.pr Kd.bool (@Kd.pr (@Kd.sl Kd.str) (@Kd.sl kI)))))))).2).1, ((((y20.getD s11.toNat (Kd.zero (@Kd.pr kI (@Kd.pr kI (@Kd.pr Kd.str (@Kd.pr Kd.bool (@Kd.pr (@Kd.sl Kd.str) (@Kd.sl kI)))))))).2).2).1, (((((y20.getD s11.toNat (Kd.zero (@Kd.pr kI (@Kd.pr kI (@Kd.pr Kd.str (@Kd.pr Kd.bool (@Kd.pr (@Kd.sl Kd.str) (@Kd.sl kI)))))))).2).2).2).1, ((((((y20.getD s11.toNat (Kd.zero (@Kd.pr kI (@Kd.pr kI (@Kd.pr Kd.str (@Kd.pr Kd.bool (@Kd.pr (@Kd.sl Kd.str) (@Kd.sl kI)))))))).2).2).2).2).1, s13)))))) (fun y21 => (K s0 s1 y21 s3 s4 s11))) none))) none)))) none)) none) none)
theorem wqgy (k : Nat) (wq4 : wqy) (wq3 : wqz) {R : Type} (I : Nat → St → Option R) (s0 : (List dT115)) (s1 : Int) (s2 : (List dT48)) (s3 s4 s5 s6 s7 s8 : Int) (s9 : (List UInt8)) (s10 : Bool) (s11 : Int) (s12 : (List (List UInt8))) (s13 : (List Int)) (K : wqs R) : bodyK (wq4g k wq4 wq3) k Tryz.f58 wq4f [1, 1, 1, 1, 1, 1, 1, 1, 1, 1, 0, 0, 0] I (wq1z s0 s1 s2 s3 s4 s5 s6 s7 s8 s9 s10 s11 s12 s13) (wq2l K) = wq43 k wq4 wq3 (fun s0 s1 s2 s3 s4 s5 s6 s7 s8 s9 s10 s11 s12 s13 => I 1019 (wq1z s0 s1 s2 s3 s4 s5 s6 s7 s8 s9 s10 s11 s12 s13)) (fun s0 s1 s2 s3 s4 s5 s6 s7 s8 s9 s10 s11 s12 s13 s14 s15 s16 s17 s18 s19 => wq6t k wq4 wq3 I k (wq3l s0 s1 s2 s3 s4 s5 s6 s7 s8 s9 s10 s11 s12 s13 s14 s15 s16 s17 s18 s19) K) s0 s1 s2 s3 s4 s5 s6 s7 s8 s9 s10 s11 s12 s13 K := by kernel_rfl
def wq6u (k : Nat) (wq4 : wqy) (wq3 : wqz) {R : Type} (E1019 : ((List dT115) → Int → (List dT48) → Int → Int → Int → Int → Int → Int → (List UInt8) → Bool → Int → (List (List UInt8)) → (List Int) → Option R)) (E1024 : ((List dT115) → Int → (List dT48) → Int → Int → Int → Int → Int → Int → (List UInt8) → Bool → Int → (List (List UInt8)) → (List Int) → Int → Int → Int → (List UInt8) → Bool → Int → Option R)) (s0 : (List dT115)) (s1 : Int) (s2 : (List dT48)) (s3 s4 s5 s6 s7 s8 : Int) (s9 : (List UInt8)) (s10 : Bool) (s11 : Int) (s12 : (List (List UInt8))) (s13 : (List Int)) (s14 s15 s16 : Int) (s17 : (List UInt8)) (s18 : Bool) (s19 : Int) (K : wqs R) : Option R := (cond (decide (s19 < (s12.length : Int))) (cond (inb s19 (s12.length : Int)) (cond ((s12.getD s19.toNat Kd.str.zero) == s17) (wq1p k s0 s1 s2 s3 s4 7 s15 (fun y25 y26 y27 y28 y29 => (K y25 y26 y27 y28 y29 0))) (E1024 s0 s1 s2 s3 s4 s5 s6 s7 s8 s9 s10 s11 s12 s13 s14 s15 s16 s17 s18 (@Go.IntKind.wrap Go.IntKind.i64 (s19 + 1)))) none) (cond (fits s12.length (@List.length (@Kd.T Kd.str) [s17]) 16) (wq3 R s0 s1 s2 s3 s4 s14 s15 s16 s17 s18 s5 (fun y25 y26 y27 y28 y29 y30 => (cond (fits s13.length (@List.length (@Kd.T kI) [y30]) 8) (E1019 y25 y26 y27 y28 y29 s5 s6 s7 s8 s9 s10 s11 (s12 ++ [s17]) (s13 ++ [y30])) none))) none))
theorem wqgz (k : Nat) (wq4 : wqy) (wq3 : wqz) {R : Type} (I : Nat → St → Option R) (s0 : (List dT115)) (s1 : Int) (s2 : (List dT48)) (s3 s4 s5 s6 s7 s8 : Int) (s9 : (List UInt8)) (s10 : Bool) (s11 : Int) (s12 : (List (List UInt8))) (s13 : (List Int)) (s14 s15 s16 : Int) (s17 : (List UInt8)) (s18 : Bool) (s19 : Int) (K : wqs R) : bodyK (wq4g k wq4 wq3) k Tryz.f58 wq4f [1, 1, 1, 1, 1, 1, 1, 1, 1, 1, 0, 0, 0, 1, 0, 1, 1, 0, 1, 0, 0, 1, 0, 0] I (wq3l s0 s1 s2 s3 s4 s5 s6 s7 s8 s9 s10 s11 s12 s13 s14 s15 s16 s17 s18 s19) (wq2l K) = wq6u k wq4 wq3 (fun s0 s1 s2 s3 s4 s5 s6 s7 s8 s9 s10 s11 s12 s13 => I 1019 (wq1z s0 s1 s2 s3 s4 s5 s6 s7 s8 s9 s10 s11 s12 s13)) (fun s0 s1 s2 s3 s4 s5 s6 s7 s8 s9 s10 s11 s12 s13 s14 s15 s16 s17 s18 s19 => I 1024 (wq3l s0 s1 s2 s3 s4 s5 s6 s7 s8 s9 s10 s11 s12 s13 s14 s15 s16 s17 s18 s19)) s0 s1 s2 s3 s4 s5 s6 s7 s8 s9 s10 s11 s12 s13 s14 s15 s16 s17 s18 s19 K := by kernel_rfl
def wqaf (k : Nat) (wq4 : wqy) (wq3 : wqz) {R : Type} (E1019 : ((List dT115) → Int → (List dT48) → Int → Int → Int → Int → Int → Int → (List UInt8) → Bool → Int → (List (List UInt8)) → (List Int) → Option R)) (x0 : (List dT115)) (x1 : Int) (x2 : (List dT48)) (x3 x4 x5 : Int) (K : wqs R) : Option R := (cond (inb x1 (x0.length : Int)) (cond (cond (cond ((x0.getD x1.toNat (Kd.zero (@Kd.pr kI (@Kd.pr kI (@Kd.pr kI (@Kd.pr Kd.str Kd.bool)))))).1 != 3) ((x0.getD x1.toNat (Kd.zero (@Kd.pr kI (@Kd.pr kI (@Kd.pr kI (@Kd.pr Kd.str Kd.bool)))))).1 != 1) false) ((x0.getD x1.toNat (Kd.zero (@Kd.pr kI (@Kd.pr kI (@Kd.pr kI (@Kd.pr Kd.str Kd.bool)))))).1 != 2) false) (wq1p k x0 x1 x2 x3 x4 6 ((x0.getD x1.toNat (Kd.zero (@Kd.pr kI (@Kd.pr kI (@Kd.pr kI (@Kd.pr Kd.str Kd.bool)))))).2).1 (fun y11 y12 y13 y14 y15 => (K y11 y12 y13 y14 y15 0))) (cond (decide (x5 > 24)) (wq1p k x0 x1 x2 x3 x4 8 ((x0.getD x1.toNat (Kd.zero (@Kd.pr kI (@Kd.pr kI (@Kd.pr kI (@Kd.pr Kd.str Kd.bool)))))).2).1 (fun y11 y12 y13 y14 y15 => (K y11 y12 y13 y14 y15 0))) (cond (decide ((x2.length : Int) ≥ 2000)) (wq1p k x0 x1 x2 x3 x4 9 ((x0.getD x1.toNat (Kd.zero (@Kd.pr kI (@Kd.pr kI (@Kd.pr kI (@Kd.pr Kd.str Kd.bool)))))).2).1 (fun y11 y12 y13 y14 y15 => (K y11 y12 y13 y14 y15 0))) (cond (fits x2.length (@List.length (@Kd.T (@Kd.pr kI (@Kd.pr kI (@Kd.pr Kd.str (@Kd.pr Kd.bool (@Kd.pr (@Kd.sl Kd.str) (@Kd.sl kI))))))) [((0 : (@Kd.T kI)), (((x0.getD x1.toNat (Kd.zero (@Kd.pr kI (@Kd.pr kI (@Kd.pr kI (@Kd.pr Kd.str Kd.bool)))))).2).1, ([], (false, ([], [])))))]) 88) (cond ((x0.getD x1.toNat (Kd.zero (@Kd.pr kI (@Kd.pr kI (@Kd.pr kI (@Kd.pr Kd.str Kd.bool)))))).1 == 3) (cond (inb (x2.length : Int) ((x2 ++ [((0 : (@Kd.T kI)), (((x0.getD x1.toNat (Kd.zero (@Kd.pr kI (@Kd.pr kI (@Kd.pr kI (@Kd.pr Kd.str Kd.bool)))))).2).1, ([], (false, ([], [])))))]).length : Int)) (@SH (@List (@Kd.T (@Kd.pr kI (@Kd.pr kI (@Kd.pr Kd.str (@Kd.pr Kd.bool (@Kd.pr (@Kd.sl Kd.str) (@Kd.sl kI)))))))) R (List.set (x2 ++ [(0, (((x0.getD x1.toNat (Kd.zero (@Kd.pr kI (@Kd.pr kI (@Kd.pr kI (@Kd.pr Kd.str Kd.bool)))))).2).1, ([], (false, ([], [])))))]) (x2.length : Int).toNat (1, ((((x2 ++ [((0 : (@Kd.T kI)), (((x0.getD x1.toNat (Kd.zero (@Kd.pr kI (@Kd.pr kI (@Kd.pr kI (@Kd.pr Kd.str Kd.bool)))))).2).1, ([], (false, ([], [])))))]).getD (x2.length : Int).toNat (Kd.zero (@Kd.pr kI (@Kd.pr kI (@Kd.pr Kd.str (@Kd.pr Kd.bool (@Kd.pr (@Kd.sl Kd.str) (@Kd.sl kI)))))))).2).1, (((((x2 ++ [((0 : (@Kd.T kI)), (((x0.getD x1.toNat (Kd.zero (@Kd.pr kI (@Kd.pr kI (@Kd.pr kI (@Kd.pr Kd.str Kd.bool)))))).2).1, ([], (false, ([], [])))))]).getD (x2.length : Int).toNat (Kd.zero (@Kd.pr kI (@Kd.pr kI (@Kd.pr Kd.str (@Kd.pr Kd.bool (@Kd.pr (@Kd.sl Kd.str) (@Kd.sl kI)))))))).2).2).1, ((((((x2 ++ [((0 : (@Kd.T kI)), (((x0.getD x1.toNat (Kd.zero (@Kd.pr kI (@Kd.pr kI (@Kd.pr kI (@Kd.pr Kd.str Kd.bool)))))).2).1, ([], (false, ([], [])))))]).getD (x2.length : Int).toNat (Kd.zero (@Kd.pr kI (@Kd.pr kI (@Kd.pr Kd.str (@Kd.pr Kd.bool (@Kd.pr (@Kd.sl Kd.str) (@Kd.sl kI)))))))).2).2).2).1, (((((((x2 ++ [((0 : (@Kd.T kI)), (((x0.getD x1.toNat (Kd.zero (@Kd.pr kI (@Kd.pr kI (@Kd.pr kI (@Kd.pr Kd.str Kd.bool)))))).2).1, ([], (false, ([], [])))))]).getD (x2.length : Int).toNat (Kd.zero (@Kd.pr kI (@Kd.pr kI (@Kd.pr Kd.str (@Kd.pr Kd.bool (@Kd.pr (@Kd.sl Kd.str) (@Kd.sl kI)))))))).2).2).2).2).1, ((((((x2 ++ [((0 : (@Kd.T kI)), (((x0.getD x1.toNat (Kd.zero (@Kd.pr kI (@Kd.pr kI (@Kd.pr kI (@Kd.pr Kd.str Kd.bool)))))).2).1, ([], (false, ([], [])))))]).getD (x2.length : Int).toNat (Kd.zero (@Kd.pr kI (@Kd.pr kI (@Kd.pr Kd.str (@Kd.pr Kd.bool (@Kd.pr (@Kd.sl Kd.str) (@Kd.sl kI)))))))).2).2).2).2).2)))))) (fun y11 => (cond (inb (x2.length : Int) (y11.length : Int)) (@SH (@List (@Kd.T (@Kd.pr kI (@Kd.pr kI (@Kd.pr Kd.str (@Kd.pr Kd.bool (@Kd.pr (@Kd.sl Kd.str) (@Kd.sl kI)))))))) R (List.set y11 (x2.length : Int).toNat ((y11.getD (x2.length : Int).toNat (Kd.zero (@Kd.pr kI (@Kd.pr kI (@Kd.pr Kd.str (@Kd.pr Kd.bool (@Kd.pr (@Kd.sl Kd.str) (@Kd.sl kI)))))))).1, (((y11.getD (x2.length : Int).toNat (Kd.zero (@Kd.pr kI (@Kd.pr kI (@Kd.pr Kd.str (@Kd.pr Kd.bool (@Kd.pr (@Kd.sl Kd.str) (@Kd.sl kI)))))))).2).1, (((((x0.getD x1.toNat (Kd.zero (@Kd.pr kI (@Kd.pr kI (@Kd.pr kI (@Kd.pr Kd.str Kd.bool)))))).2).2).2).1, (((((y11.getD (x2.length : Int).toNat (Kd.zero (@Kd.pr kI (@Kd.pr kI (@Kd.pr Kd.str (@Kd.pr Kd.bool (@Kd.pr (@Kd.sl Kd.str) (@Kd.sl kI)))))))).2).2).2).1, ((((((y11.getD (x2.length : Int).toNat (Kd.zero (@Kd.pr kI (@Kd.pr kI (@Kd.pr Kd.str (@Kd.pr Kd.bool (@Kd.pr (@Kd.sl Kd.str) (@Kd.sl kI)))))))).2).2).2).2).1, (((((y11.getD (x2.length : Int).toNat (Kd.zero (@Kd.pr kI (@Kd.pr kI (@Kd.pr Kd.str (@Kd.pr Kd.bool (@Kd.pr (@Kd.sl Kd.str) (@Kd.sl kI)))))))).2).2).2).2).2)))))) (fun y12 => (cond (inb (x2.length : Int) (y12.length : Int)) (@SH (@List (@Kd.T (@Kd.pr kI (@Kd.pr kI (@Kd.pr Kd.str (@Kd.pr Kd.bool (@Kd.pr (@Kd.sl Kd.str) (@Kd.sl kI)))))))) R (List.set y12 (x2.length : Int).toNat ((y12.getD (x2.length : Int).toNat (Kd.zero (@Kd.pr kI (@Kd.pr kI (@Kd.pr Kd.str (@Kd.pr Kd.bool (@Kd.pr (@Kd.sl Kd.str) (@Kd.sl kI)))))))).1, (((y12.getD (x2.length : Int).toNat (Kd.zero (@Kd.pr kI (@Kd.pr kI (@Kd.pr Kd.str (@Kd.pr Kd.bool (@Kd.pr (@Kd.sl Kd.str) (@Kd.sl kI)))))))).2).1, ((((y12.getD (x2.length : Int).toNat (Kd.zero (@Kd.pr kI (@Kd.pr kI (@Kd.pr Kd.str (@Kd.pr Kd.bool (@Kd.pr (@Kd.sl Kd.str) (@Kd.sl kI)))))))).2).2).1, (((((x0.getD x1.toNat (Kd.zero (@Kd.pr kI (@Kd.pr kI (@Kd.pr kI (@Kd.pr Kd.str Kd.bool)))))).2).2).2).2, ((((((y12.getD (x2.length : Int).toNat (Kd.zero (@Kd.pr kI (@Kd.pr kI (@Kd.pr Kd.str (@Kd.pr Kd.bool (@Kd.pr (@Kd.sl Kd.str) (@Kd.sl kI)))))))).2).2).2).2).1, (((((y12.getD (x2.length : Int).toNat (Kd.zero (@Kd.pr kI (@Kd.pr kI (@Kd.pr Kd.str (@Kd.pr Kd.bool (@Kd.pr (@Kd.sl Kd.str) (@Kd.sl kI)))))))).2).2).2).2).2)))))) (fun y13 => (K x0 (@Go.IntKind.wrap Go.IntKind.i64 (x1 + 1)) y13 x3 x4 (x2.length : Int)))) none))) none))) none) (E1019 x0 x1 (x2 ++ [(0, (((x0.getD x1.toNat (Kd.zero (@Kd.pr kI (@Kd.pr kI (@Kd.pr kI (@Kd.pr Kd.str Kd.bool)))))).2).1, ([], (false, ([], [])))))]) x3 x4 x5 (x0.getD x1.toNat (Kd.zero (@Kd.pr kI (@Kd.pr kI (@Kd.pr kI (@Kd.pr Kd.str Kd.bool)))))).1 ((x0.getD x1.toNat (Kd.zero (@Kd.pr kI (@Kd.pr kI (@Kd.pr kI (@Kd.pr Kd.str Kd.bool)))))).2).1 (((x0.getD x1.toNat (Kd.zero (@Kd.pr kI (@Kd.pr kI (@Kd.pr kI (@Kd.pr Kd.str Kd.bool)))))).2).2).1 ((((x0.getD x1.toNat (Kd.zero (@Kd.pr kI (@Kd.pr kI (@Kd.pr kI (@Kd.pr Kd.str Kd.bool)))))).2).2).2).1 ((((x0.getD x1.toNat (Kd.zero (@Kd.pr kI (@Kd.pr kI (@Kd.pr kI (@Kd.pr Kd.str Kd.bool)))))).2).2).2).2 (x2.length : Int) [] [])) none)))) none)
def wq2u (k : Nat) (wq4 : wqy) (wq3 : wqz) {R : Type} (J1019 : ((List dT115) → Int → (List dT48) → Int → Int → Int → Int → Int → Int → (List UInt8) → Bool → Int → (List (List UInt8)) → (List Int) → Option R)) : Nat → (List dT115) → Int → (List dT48) → Int → Int → Int → Int → Int → Int → (List UInt8) → Bool → Int → (List (List UInt8)) → (List Int) → Int → Int → Int → (List UInt8) → Bool → Int → ((List dT115) → Int → (List dT48) → Int → Int → Int → Option R) → Option R
  | 0, _, _, _, _, _, _, _, _, _, _, _, _, _, _, _, _, _, _, _, _, _ => none
  | n + 1, s0, s1, s2, s3, s4, s5, s6, s7, s8, s9, s10, s11, s12, s13, s14, s15, s16, s17, s18, s19, K => wq6u k wq4 wq3 J1019 (fun s0 s1 s2 s3 s4 s5 s6 s7 s8 s9 s10 s11 s12 s13 s14 s15 s16 s17 s18 s19 => wq2u k wq4 wq3 J1019 n s0 s1 s2 s3 s4 s5 s6 s7 s8 s9 s10 s11 s12 s13 s14 s15 s16 s17 s18 s19 K) s0 s1 s2 s3 s4 s5 s6 s7 s8 s9 s10 s11 s12 s13 s14 s15 s16 s17 s18 s19 K
theorem wqh0 (k : Nat) (wq4 : wqy) (wq3 : wqz) {R : Type} (I : Nat → St → Option R) (K : wqs R) (n : Nat) : ∀ (s0 : (List dT115)) (s1 : Int) (s2 : (List dT48)) (s3 s4 s5 s6 s7 s8 : Int) (s9 : (List UInt8)) (s10 : Bool) (s11 : Int) (s12 : (List (List UInt8))) (s13 : (List Int)) (s14 s15 s16 : Int) (s17 : (List UInt8)) (s18 : Bool) (s19 : Int), wq6t k wq4 wq3 I n (wq3l s0 s1 s2 s3 s4 s5 s6 s7 s8 s9 s10 s11 s12 s13 s14 s15 s16 s17 s18 s19) K = wq2u k wq4 wq3 (fun s0 s1 s2 s3 s4 s5 s6 s7 s8 s9 s10 s11 s12 s13 => I 1019 (wq1z s0 s1 s2 s3 s4 s5 s6 s7 s8 s9 s10 s11 s12 s13)) n s0 s1 s2 s3 s4 s5 s6 s7 s8 s9 s10 s11 s12 s13 s14 s15 s16 s17 s18 s19 K := by
  induction n with
  | zero => intros; rfl
  | succ n ih =>
    intro s0 s1 s2 s3 s4 s5 s6 s7 s8 s9 s10 s11 s12 s13 s14 s15 s16 s17 s18 s19
    refine (?_ : _ = _).trans ((wqgz k wq4 wq3 (upI 1024 (fun s => wq6t k wq4 wq3 I n s K) I) s0 s1 s2 s3 s4 s5 s6 s7 s8 s9 s10 s11 s12 s13 s14 s15 s16 s17 s18 s19 K).trans ?_)
    · rfl
    · simp only [wq1o, ih, upI_ne (show Nat.beq 1019 1024 = false from rfl)] <;> rfl
def wq12 (k : Nat) (wq4 : wqy) (wq3 : wqz) {R : Type}  : Nat → (List dT115) → Int → (List dT48) → Int → Int → Int → Int → Int → Int → (List UInt8) → Bool → Int → (List (List UInt8)) → (List Int) → ((List dT115) → Int → (List dT48) → Int → Int → Int → Option R) → Option R
  | 0, _, _, _, _, _, _, _, _, _, _, _, _, _, _, _ => none
  | n + 1, s0, s1, s2, s3, s4, s5, s6, s7, s8, s9, s10, s11, s12, s13, K => wq43 k wq4 wq3 (fun s0 s1 s2 s3 s4 s5 s6 s7 s8 s9 s10 s11 s12 s13 => wq12 k wq4 wq3  n s0 s1 s2 s3 s4 s5 s6 s7 s8 s9 s10 s11 s12 s13 K) (fun s0 s1 s2 s3 s4 s5 s6 s7 s8 s9 s10 s11 s12 s13 s14 s15 s16 s17 s18 s19 => wq2u k wq4 wq3 (fun s0 s1 s2 s3 s4 s5 s6 s7 s8 s9 s10 s11 s12 s13 => wq12 k wq4 wq3  n s0 s1 s2 s3 s4 s5 s6 s7 s8 s9 s10 s11 s12 s13 K) k s0 s1 s2 s3 s4 s5 s6 s7 s8 s9 s10 s11 s12 s13 s14 s15 s16 s17 s18 s19 K) s0 s1 s2 s3 s4 s5 s6 s7 s8 s9 s10 s11 s12 s13 K
theorem wqh1 (k : Nat) (wq4 : wqy) (wq3 : wqz) {R : Type} (I : Nat → St → Option R) (K : wqs R) (n : Nat) : ∀ (s0 : (List dT115)) (s1 : Int) (s2 : (List dT48)) (s3 s4 s5 s6 s7 s8 : Int) (s9 : (List UInt8)) (s10 : Bool) (s11 : Int) (s12 : (List (List UInt8))) (s13 : (List Int)), wq6s k wq4 wq3 I n (wq1z s0 s1 s2 s3 s4 s5 s6 s7 s8 s9 s10 s11 s12 s13) K = wq12 k wq4 wq3  n s0 s1 s2 s3 s4 s5 s6 s7 s8 s9 s10 s11 s12 s13 K := by
  induction n with
  | zero => intros; rfl
  | succ n ih =>
    intro s0 s1 s2 s3 s4 s5 s6 s7 s8 s9 s10 s11 s12 s13
    refine (?_ : _ = _).trans ((wqgy k wq4 wq3 (upI 1019 (fun s => wq6s k wq4 wq3 I n s K) I) s0 s1 s2 s3 s4 s5 s6 s7 s8 s9 s10 s11 s12 s13 K).trans ?_)
    · rfl
    · simp only [wq1o, ih, wqh0] <;> rfl
def wqc1 {R : Type} (K : wqs R) : Out → Option R
  | .ret [.v (.int .i64) y5] [(21, .row 49 (.pr (.int .i64) (.pr (.int .i64) (.pr .str (.pr .bool (.pr (.sl .str) (.sl (.int .i64))))))) y2), (1, .var 114 [.v (.sl (.pr (.int .i64) (.pr (.int .i64) (.pr (.int .i64) (.pr .str .bool))))) y0, .v (.int .i64) y1, .row 21, .v (.int .i64) y3, .v (.int .i64) y4])] => K y0 y1 y2 y3 y4 y5
  | _ => none
def wqnh : RetSpec := ⟨[.any], [(1, .obj 1 [.sl (.pr (.int .i64) (.pr (.int .i64) (.pr (.int .i64) (.pr .str .bool)))), .any, .own 21 49 (.pr (.int .i64) (.pr (.int .i64) (.pr .str (.pr .bool (.pr (.sl .str) (.sl (.int .i64))))))), .any, .any])], []⟩
def wqni (k : Nat) (wq4 : wqy) (wq3 : wqz) : Ctx := ⟨tyT, [], (.add 58 wqe8 (wqbz wq4) (.add 59 wq9o (wq38 k) .nil)), [], [1], [(1, (.of [(0, 1), (1, 1), (2, 1), (4, 1), (5, 1), (6, 1), (3, 1), (7, 1), (8, 1), (9, 1), (10, 1), (11, 1), (12, 1), (13, 1), (15, 1), (16, 1), (17, 1), (22, 1), (14, 1), (18, 1), (19, 1), (20, 1), (21, 1), (23, 1), (24, 1), (25, 1)] .done))], @SH⟩
def wqh2 (k : Nat) (wq4 : wqy) (wq3 : wqz) {R : Type}  (x0 : (List dT115)) (x1 : Int) (x2 : (List dT48)) (x3 x4 x5 x6 x7 : Int) (x8 : (List UInt8)) (x9 : Bool) (x10 : Int) (K : wqs R) : Option R := (cond ((!((decide (x1 ≥ (x0.length : Int))) == false)) || (inb x1 (x0.length : Int))) (cond (cond (decide (x1 ≥ (x0.length : Int))) true (decide ((((x0.getD x1.toNat (Kd.zero (@Kd.pr kI (@Kd.pr kI (@Kd.pr kI (@Kd.pr Kd.str Kd.bool)))))).2).2).1 ≤ x7))) (wq1p k x0 x1 x2 x3 x4 10 x6 (fun y14 y15 y16 y17 y18 => (K y14 y15 y16 y17 y18 0))) (wq4 R x0 x1 x2 x3 x4 (@Go.IntKind.wrap Go.IntKind.i64 (x10 + 1)) (fun y14 y15 y16 y17 y18 y19 => (K y14 y15 y16 y17 y18 y19)))) none)
mutual
def wqh : Nat → (R : Type) → (List dT115) → Int → (List dT48) → Int → Int → Int → ((List dT115) → Int → (List dT48) → Int → Int → Int → Option R) → Option R
  | 0, _, _, _, _, _, _, _, _ => none
  | k + 1, R, x0, x1, x2, x3, x4, x5, K => wqaf k (wqh k) (FR_ref10_reader_under k) (fun s0 s1 s2 s3 s4 s5 s6 s7 s8 s9 s10 s11 s12 s13 => wq12 k (wqh k) (FR_ref10_reader_under k) k s0 s1 s2 s3 s4 s5 s6 s7 s8 s9 s10 s11 s12 s13 K) x0 x1 x2 x3 x4 x5 K
def FR_ref10_reader_under : Nat → (R : Type) → (List dT115) → Int → (List dT48) → Int → Int → Int → Int → Int → (List UInt8) → Bool → Int → ((List dT115) → Int → (List dT48) → Int → Int → Int → Option R) → Option R
  | 0, _, _, _, _, _, _, _, _, _, _, _, _, _ => none
  | k + 1, R, x0, x1, x2, x3, x4, x5, x6, x7, x8, x9, x10, K => wqh2 k (wqh k) (FR_ref10_reader_under k)  x0 x1 x2 x3 x4 x5 x6 x7 x8 x9 x10 K
end
def wq7h (k : Nat) {R : Type} (x0 : (List dT115)) (x1 : Int) (x2 : (List dT48)) (x3 x4 x5 : Int) (K : wqs R) : Option R := wqh k R x0 x1 x2 x3 x4 x5 K
def wqag (k : Nat) {R : Type} (x0 : (List dT115)) (x1 : Int) (x2 : (List dT48)) (x3 x4 x5 x6 x7 : Int) (x8 : (List UInt8)) (x9 : Bool) (x10 : Int) (K : wqs R) : Option R := FR_ref10_reader_under k R x0 x1 x2 x3 x4 x5 x6 x7 x8 x9 x10 K
theorem wqkq (k : Nat) {R : Type} (x0 : (List dT115)) (x1 : Int) (x2 : (List dT48)) (x3 x4 x5 : Int) (K : wqs R) : fnW (wq4g k (wqh k) (FR_ref10_reader_under k)) k Tryz.f58 wq4f [.ptr 1 0, .v kI x5] [(21, .row 49 kdT48 x2), (1, .var 114 [.v (.sl kdT115) x0, .v kI x1, .row 21, .v kI x3, .v kI x4])] (wq2l K) = wqh (k + 1) R x0 x1 x2 x3 x4 x5 K := by
  rw [wqh]
  refine Eq.trans (b := wqaf k (wqh k) (FR_ref10_reader_under k) (fun s0 s1 s2 s3 s4 s5 s6 s7 s8 s9 s10 s11 s12 s13 => wq6s k (wqh k) (FR_ref10_reader_under k) (fun _ _ => none) k (wq1z s0 s1 s2 s3 s4 s5 s6 s7 s8 s9 s10 s11 s12 s13) K) x0 x1 x2 x3 x4 x5 K) (by kernel_rfl) ?_
  simp only [wqh1] <;> rfl
def wq1r (k : Nat) {R : Type} : List PV → List (Nm × HObj) → (Out → Option R) → Option R
  | [.ptr 1 0, .v (.int .i64) x5], [(21, .row 49 (.pr (.int .i64) (.pr (.int .i64) (.pr .str (.pr .bool (.pr (.sl .str) (.sl (.int .i64))))))) x2), (1, .var 114 [.v (.sl (.pr (.int .i64) (.pr (.int .i64) (.pr (.int .i64) (.pr .str .bool))))) x0, .v (.int .i64) x1, .row 21, .v (.int .i64) x3, .v (.int .i64) x4])], K => wq7h k x0 x1 x2 x3 x4 x5 (fun y0 y1 y2 y3 y4 y5 => K (.ret [.v (.int .i64) y5] [(21, .row 49 (.pr (.int .i64) (.pr (.int .i64) (.pr .str (.pr .bool (.pr (.sl .str) (.sl (.int .i64))))))) y2), (1, .var 114 [.v (.sl (.pr (.int .i64) (.pr (.int .i64) (.pr (.int .i64) (.pr .str .bool))))) y0, .v (.int .i64) y1, .row 21, .v (.int .i64) y3, .v (.int .i64) y4])]))
  | _, _, _ => none
theorem wqkr (k : Nat) {R : Type} (x0 : (List dT115)) (x1 : Int) (x2 : (List dT48)) (x3 x4 x5 x6 x7 : Int) (x8 : (List UInt8)) (x9 : Bool) (x10 : Int) (K : wqs R) : fnW (wqni k (wqh k) (FR_ref10_reader_under k)) k Tryz.f90 wqnh [.ptr 1 0, .agg [.v kI x5, .v kI x6, .v kI x7, .v .str x8, .v .bool x9], .v kI x10] [(21, .row 49 kdT48 x2), (1, .var 114 [.v (.sl kdT115) x0, .v kI x1, .row 21, .v kI x3, .v kI x4])] (wqc1 K) = FR_ref10_reader_under (k + 1) R x0 x1 x2 x3 x4 x5 x6 x7 x8 x9 x10 K := by
  rw [FR_ref10_reader_under]
  kernel_rfl
def wq2v (k : Nat) {R : Type} : List PV → List (Nm × HObj) → (Out → Option R) → Option R
  | [.ptr 1 0, .agg [.v (.int .i64) x5, .v (.int .i64) x6, .v (.int .i64) x7, .v .str x8, .v .bool x9], .v (.int .i64) x10], [(21, .row 49 (.pr (.int .i64) (.pr (.int .i64) (.pr .str (.pr .bool (.pr (.sl .str) (.sl (.int .i64))))))) x2), (1, .var 114 [.v (.sl (.pr (.int .i64) (.pr (.int .i64) (.pr (.int .i64) (.pr .str .bool))))) x0, .v (.int .i64) x1, .row 21, .v (.int .i64) x3, .v (.int .i64) x4])], K => wqag k x0 x1 x2 x3 x4 x5 x6 x7 x8 x9 x10 (fun y0 y1 y2 y3 y4 y5 => K (.ret [.v (.int .i64) y5] [(21, .row 49 (.pr (.int .i64) (.pr (.int .i64) (.pr .str (.pr .bool (.pr (.sl .str) (.sl (.int .i64))))))) y2), (1, .var 114 [.v (.sl (.pr (.int .i64) (.pr (.int .i64) (.pr (.int .i64) (.pr .str .bool))))) y0, .v (.int .i64) y1, .row 21, .v (.int .i64) y3, .v (.int .i64) y4])]))
  | _, _, _ => none
theorem wqnj (k : Nat) : DOK Tryz.prog 58 (wq1r k) ∧ DOK Tryz.prog 90 (wq2v k) := by
  induction k with
  | zero =>
    refine ⟨?_, ?_⟩
    · intro ps hp R K r h
      have h : wq1r 0 ps hp K = some r := h
      unfold wq1r at h
      split at h
      · unfold wq7h at h; rw [wqh] at h; cases h
      · cases h
    · intro ps hp R K r h
      have h : wq2v 0 ps hp K = some r := h
      unfold wq2v at h
      split at h
      · unfold wqag at h; rw [FR_ref10_reader_under] at h; cases h
      · cases h
  | succ k ih =>
    obtain ⟨ih_ref10_reader_block, ih_ref10_reader_under⟩ := ih
    refine ⟨?_, ?_⟩
    · intro ps hp R K r h
      have h : wq1r (k + 1) ps hp K = some r := h
      unfold wq1r at h
      split at h
      · unfold wq7h at h; rw [← wqkq] at h
        exact fnW_ok ⟨tyT_ok, (wqm (wqbi k) (CTab.add_ok (fun h => ih_ref10_reader_under _ _ _ _ _ (by unfold wqc0 at h; unfold wq2v; exact h)) CTab.nil_ok)), fun _ _ => rfl⟩ mixed (by kernel_rfl) (by kernel_rfl) h fun o ho => by unfold wq2l at ho; split at ho <;> first | exact ho | cases ho
      · cases h
    · intro ps hp R K r h
      have h : wq2v (k + 1) ps hp K = some r := h
      unfold wq2v at h
      split at h
      · unfold wqag at h; rw [← wqkr] at h
        exact fnW_ok ⟨tyT_ok, (CTab.add_ok (fun h => ih_ref10_reader_block _ _ _ _ _ (by unfold wqbz at h; unfold wq1r; exact h)) (wqm (wqbi k) CTab.nil_ok)), fun _ _ => rfl⟩ mixed (by kernel_rfl) (by kernel_rfl) h fun o ho => by unfold wqc1 at ho; split at ho <;> first | exact ho | cases ho
      · cases h
theorem wqpd (k : Nat) : DOK Tryz.prog 58 (wq1r k) := (wqnj k).1
end Go.Proofs.YtdfhgimidmfgfaaGreatDoor.Pvm
end


noncomputable section
namespace Go.Proofs.YtdfhgimidmfgfaaGreatDoor.Pvm
open Go Go.Proofs
def wq15o : List LS := [.sl kdT115]
def wqtr {R : Type} (K : ((List dT48) → Int → Int → Option R)) : Out → Option R
  | .ret [.agg [.v (.sl (.pr (.int .i64) (.pr (.int .i64) (.pr .str (.pr .bool (.pr (.sl .str) (.sl (.int .i64)))))))) y0], .agg [.v (.int .i64) y1, .v (.int .i64) y2]] [] => K y0 y1 y2
  | _ => none
def wq18r : RetSpec := ⟨[.ag [.sl (.pr (.int .i64) (.pr (.int .i64) (.pr .str (.pr .bool (.pr (.sl .str) (.sl (.int .i64)))))))], .ag [.any, .any]], [], []⟩
def wq18s (k : Nat) : Ctx := ⟨tyT, [], (.add 58 wqe8 (wq1r k) (.add 59 wq9o (wq38 k) .nil)), [], [], [(8, (.of [(0, 1), (1, 1), (2, 1), (3, 1), (4, 2), (5, 0), (6, 0)] .done))], @SH⟩
def wq13a (k : Nat) {R : Type}  (x0 : (List dT115)) (K : ((List dT48) → Int → Int → Option R)) : Option R := (cond ((x0.length : Int) == 0) (K [] 10 1) (wq7h k x0 0 [] 0 0 1 (fun y4 y5 y6 y7 y8 y9 => (cond (cond (y7 == 0) (decide (y5 < (x0.length : Int))) false) (cond (inb y5 (x0.length : Int)) (wq1p k y4 y5 y6 y7 y8 6 ((x0.getD y5.toNat (Kd.zero (@Kd.pr kI (@Kd.pr kI (@Kd.pr kI (@Kd.pr Kd.str Kd.bool)))))).2).1 (fun y10 y11 y12 y13 y14 => (cond (y13 != 0) (K [] y13 y14) (K y12 0 0)))) none) (cond (y7 != 0) (K [] y7 y8) (K y6 0 0))))))
def wqm3 (k : Nat) {R : Type} (x0 : (List dT115)) (K : ((List dT48) → Int → Int → Option R)) : Option R := wq13a k  x0 K
theorem wq13b (k : Nat) {R : Type} (x0 : (List dT115)) (K : ((List dT48) → Int → Int → Option R)) : fnW (wq18s k) k Tryz.f31 wq18r [.v (.sl kdT115) x0] [] (wqtr K) = wqm3 k x0 K := by
  kernel_rfl
def wqk1 (k : Nat) {R : Type} : List PV → List (Nm × HObj) → (Out → Option R) → Option R
  | [.v (.sl (.pr (.int .i64) (.pr (.int .i64) (.pr (.int .i64) (.pr .str .bool))))) x0], [], K => wqm3 k x0 (fun y0 y1 y2 => K (.ret [.agg [.v (.sl (.pr (.int .i64) (.pr (.int .i64) (.pr .str (.pr .bool (.pr (.sl .str) (.sl (.int .i64)))))))) y0], .agg [.v (.int .i64) y1, .v (.int .i64) y2]] []))
  | _, _, _ => none
theorem wq1as (k : Nat) : DOK Tryz.prog 31 (wqk1 k) := by
  intro ps hp R K r h
  have h : wqk1 k ps hp K = some r := h
  unfold wqk1 at h
  split at h
  · rw [← wq13b] at h
    exact fnW_ok ⟨tyT_ok, (wqm (wqpd k) (wqm (wqbi k) CTab.nil_ok)), fun _ _ => rfl⟩ mixed (by kernel_rfl) (by kernel_rfl) h fun o ho => by unfold wqtr at ho; split at ho <;> first | exact ho | cases ho
  · cases h
end Go.Proofs.YtdfhgimidmfgfaaGreatDoor.Pvm
end


noncomputable section
namespace Go.Proofs.YtdfhgimidmfgfaaGreatDoor.Pvm
open Go Go.Proofs
def wqwq : List LS := [.any, .any]
def wqa2 {R : Type} (K : (Int → Option R)) : Out → Option R
  | .ret [.v (.int .i64) y0] [] => K y0
  | _ => none
def wqii : RetSpec := ⟨[.any], [], []⟩
def wqij (k : Nat) : Ctx := ⟨tyT, [(1002, ⟨[(0, .any), (1, .any), (5, .any)], []⟩)], .nil, [], [], [], @SH⟩
def wq7i (s0 : (List UInt8)) (s1 s2 : Int) : St := ⟨mkT [(0, .v .str s0), (1, .v kI s1), (5, .v kI s2)], mkH []⟩
def wqbj (k : Nat) {R : Type} (I : Nat → St → Option R) (n : Nat) (s : St) (K : (Int → Option R)) : Option R := loopK (wqij k) k Tryz.f85 wqii 1002 [1, 1, 0, 0] I n s (wqa2 K)
def wq8h (k : Nat) {R : Type} (E1002 : ((List UInt8) → Int → Int → Option R)) (s0 : (List UInt8)) (s1 s2 : Int) (K : (Int → Option R)) : Option R := (cond ((!((decide ((@Go.IntKind.wrap Go.IntKind.i64 (s1 + s2)) < (s0.length : Int))) == true)) || (inb (@Go.IntKind.wrap Go.IntKind.i64 (s1 + s2)) (s0.length : Int))) (cond (cond (decide ((@Go.IntKind.wrap Go.IntKind.i64 (s1 + s2)) < (s0.length : Int))) (((s0.getD (@Go.IntKind.wrap Go.IntKind.i64 (s1 + s2)).toNat 0).toNat : Int) == 32) false) (E1002 s0 s1 (@Go.IntKind.wrap Go.IntKind.i64 (s2 + 1))) (K s2)) none)
theorem wqm4 (k : Nat) {R : Type} (I : Nat → St → Option R) (s0 : (List UInt8)) (s1 s2 : Int) (K : (Int → Option R)) : bodyK (wqij k) k Tryz.f85 wqii [1, 1, 0, 0, 0] I (wq7i s0 s1 s2) (wqa2 K) = wq8h k (fun s0 s1 s2 => I 1002 (wq7i s0 s1 s2)) s0 s1 s2 K := by kernel_rfl
def wqk2 (k : Nat) {R : Type} (E1002 : ((List UInt8) → Int → Int → Option R)) (x0 : (List UInt8)) (x1 : Int) (K : (Int → Option R)) : Option R := (E1002 x0 x1 0)
def wq44 (k : Nat) {R : Type}  : Nat → (List UInt8) → Int → Int → (Int → Option R) → Option R
  | 0, _, _, _, _ => none
  | n + 1, s0, s1, s2, K => wq8h k (fun s0 s1 s2 => wq44 k  n s0 s1 s2 K) s0 s1 s2 K
theorem wqm5 (k : Nat) {R : Type} (I : Nat → St → Option R) (K : (Int → Option R)) (n : Nat) : ∀ (s0 : (List UInt8)) (s1 s2 : Int), wqbj k I n (wq7i s0 s1 s2) K = wq44 k  n s0 s1 s2 K := by
  induction n with
  | zero => intros; rfl
  | succ n ih =>
    intro s0 s1 s2
    refine (?_ : _ = _).trans ((wqm4 k (upI 1002 (fun s => wqbj k I n s K) I) s0 s1 s2 K).trans ?_)
    · rfl
    · simp only [wq1o, ih] <;> rfl
def wq7j (k : Nat) {R : Type} (x0 : (List UInt8)) (x1 : Int) (K : (Int → Option R)) : Option R := wqk2 k (fun s0 s1 s2 => wq44 k k s0 s1 s2 K) x0 x1 K
theorem wquc (k : Nat) {R : Type} (x0 : (List UInt8)) (x1 : Int) (K : (Int → Option R)) : fnW (wqij k) k Tryz.f85 wqii [.v .str x0, .v kI x1] [] (wqa2 K) = wq7j k x0 x1 K := by
  refine Eq.trans (b := wqk2 k (fun s0 s1 s2 => wqbj k (fun _ _ => none) k (wq7i s0 s1 s2) K) x0 x1 K) (by kernel_rfl) ?_
  simp only [wqm5] <;> rfl
def wqbk (k : Nat) {R : Type} : List PV → List (Nm × HObj) → (Out → Option R) → Option R
  | [.v .str x0, .v (.int .i64) x1], [], K => wq7j k x0 x1 (fun y0 => K (.ret [.v (.int .i64) y0] []))
  | _, _, _ => none
theorem wq10t (k : Nat) : DOK Tryz.prog 85 (wqbk k) := by
  intro ps hp R K r h
  have h : wqbk k ps hp K = some r := h
  unfold wqbk at h
  split at h
  · rw [← wquc] at h
    exact fnW_ok ⟨tyT_ok, CTab.nil_ok, fun _ _ => rfl⟩ mixed (by kernel_rfl) (by kernel_rfl) h fun o ho => by unfold wqa2 at ho; split at ho <;> first | exact ho | cases ho
  · cases h
end Go.Proofs.YtdfhgimidmfgfaaGreatDoor.Pvm
end


noncomputable section
namespace Go.Proofs.YtdfhgimidmfgfaaGreatDoor.Pvm
open Go Go.Proofs
def wqwr : List LS := [.any]
def wqkj {R : Type} (K : (Bool → Option R)) : Out → Option R
  | .ret [.v .bool y0] [] => K y0
  | _ => none
def wqy7 : RetSpec := ⟨[.any], [], []⟩
def wqy8 (k : Nat) : Ctx := ⟨tyT, [], .nil, [], [], [], @SH⟩
def wqr6 (k : Nat) {R : Type}  (x0 : (List UInt8)) (K : (Bool → Option R)) : Option R := (cond ((!((decide ((x0.length : Int) > 0)) == true)) || (inb 0 (x0.length : Int))) (cond ((!(((cond (decide ((x0.length : Int) > 0)) (((x0.getD (Int.toNat 0) 0).toNat : Int) == 45) false) == true) && (((x0.length : Int) == 1) == false))) || (inb 1 (x0.length : Int))) (K (cond (cond (decide ((x0.length : Int) > 0)) (((x0.getD (Int.toNat 0) 0).toNat : Int) == 45) false) (cond ((x0.length : Int) == 1) true (((x0.getD (Int.toNat 1) 0).toNat : Int) == 32)) false)) none) none)
def wq7k (k : Nat) {R : Type} (x0 : (List UInt8)) (K : (Bool → Option R)) : Option R := wqr6 k  x0 K
theorem wqud (k : Nat) {R : Type} (x0 : (List UInt8)) (K : (Bool → Option R)) : fnW (wqy8 k) k Tryz.f86 wqy7 [.v .str x0] [] (wqkj K) = wq7k k x0 K := by
  kernel_rfl
def wqbl (k : Nat) {R : Type} : List PV → List (Nm × HObj) → (Out → Option R) → Option R
  | [.v .str x0], [], K => wq7k k x0 (fun y0 => K (.ret [.v .bool y0] []))
  | _, _, _ => none
theorem wq10u (k : Nat) : DOK Tryz.prog 86 (wqbl k) := by
  intro ps hp R K r h
  have h : wqbl k ps hp K = some r := h
  unfold wqbl at h
  split at h
  · rw [← wqud] at h
    exact fnW_ok ⟨tyT_ok, CTab.nil_ok, fun _ _ => rfl⟩ mixed (by kernel_rfl) (by kernel_rfl) h fun o ho => by unfold wqkj at ho; split at ho <;> first | exact ho | cases ho
  · cases h
end Go.Proofs.YtdfhgimidmfgfaaGreatDoor.Pvm
end


noncomputable section
namespace Go.Proofs.YtdfhgimidmfgfaaGreatDoor.Pvm
open Go Go.Proofs
def wq10v : List LS := [.any]
def wqnu {R : Type} (K : (Bool → Option R)) : Out → Option R
  | .ret [.v .bool y0] [] => K y0
  | _ => none
def wq13c : RetSpec := ⟨[.any], [], []⟩
def wq13d (k : Nat) : Ctx := ⟨tyT, [], .nil, [], [], [], @SH⟩
def wqws (k : Nat) {R : Type}  (x0 : Int) (K : (Bool → Option R)) : Option R := (K (cond (cond (cond (cond (cond (cond (decide (x0 ≥ 97)) (decide (x0 ≤ 122)) false) true (cond (decide (x0 ≥ 65)) (decide (x0 ≤ 90)) false)) true (cond (decide (x0 ≥ 48)) (decide (x0 ≤ 57)) false)) true (x0 == 95)) true (x0 == 45)) true (x0 == 46)))
def wqh3 (k : Nat) {R : Type} (x0 : Int) (K : (Bool → Option R)) : Option R := wqws k  x0 K
theorem wqy9 (k : Nat) {R : Type} (x0 : Int) (K : (Bool → Option R)) : fnW (wq13d k) k Tryz.f121 wq13c [.v (.int .u8) x0] [] (wqnu K) = wqh3 k x0 K := by
  kernel_rfl
def wqfr (k : Nat) {R : Type} : List PV → List (Nm × HObj) → (Out → Option R) → Option R
  | [.v (.int .u8) x0], [], K => wqh3 k x0 (fun y0 => K (.ret [.v .bool y0] []))
  | _, _, _ => none
theorem wq15p (k : Nat) : DOK Tryz.prog 121 (wqfr k) := by
  intro ps hp R K r h
  have h : wqfr k ps hp K = some r := h
  unfold wqfr at h
  split at h
  · rw [← wqy9] at h
    exact fnW_ok ⟨tyT_ok, CTab.nil_ok, fun _ _ => rfl⟩ mixed (by kernel_rfl) (by kernel_rfl) h fun o ho => by unfold wqnu at ho; split at ho <;> first | exact ho | cases ho
  · cases h
end Go.Proofs.YtdfhgimidmfgfaaGreatDoor.Pvm
end


end
