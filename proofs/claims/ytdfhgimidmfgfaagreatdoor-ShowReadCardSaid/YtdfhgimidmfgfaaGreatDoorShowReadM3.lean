/- The Go function ShowRead answers true for every input: the text of any document that may be is read as it; no further condition. -/
import Derived.Deep.Heap
import Derived.Test.YtdfhgimidmfgfaaGreatDoorChecked
import Derived.WalkKit
import Derived.WalkSpells
import Derived.WalkLawsBesides
import Derived.Lib.Builder
import Derived.Laws.Externs
import Derived.Shelf.RegionOpenPlain
import Derived.Lib.BytesEntry
import Derived.Lib.Bytealg
import Derived.Shelf.GgClosure.StringsIndexFuncTop
import Derived.Shelf.Strings.FuncGrows
import Derived.Shelf.Strings.Repeat
import Derived.Lib.AppendStr
import Derived.Lib.UnsafeStr
import Derived.Test.YtdfhgimidmfgfaaGreatDoorShowReadM0
import Derived.Test.YtdfhgimidmfgfaaGreatDoorShowReadM1
import Derived.Test.YtdfhgimidmfgfaaGreatDoorShowReadM2
set_option linter.unusedVariables false
set_option linter.unusedSimpArgs false
set_option linter.unusedSectionVars false
noncomputable section
set_option maxRecDepth 1000000
set_option maxHeartbeats 0
noncomputable section
namespace Go.Proofs.YtdfhgimidmfgfaaGreatDoor.Pvm
open Go Go.Proofs
def wqsn : List LS := [.obj 1 [.any, .any, .any, .any, .own 21 116 kdT115], .any]
def wqhk {R : Type} (K : (Int → Int → (List UInt8) → Int → (List dT115) → Option R)) (E : (Int → Int → (List UInt8) → Int → (List dT115) → Int → Int → Option R)) : Out → Option R
  | .ret [] [(21, .row 116 (.pr (.int .i64) (.pr (.int .i64) (.pr (.int .i64) (.pr .str .bool)))) y4), (1, .var 154 [.v (.int .i64) y0, .v (.int .i64) y1, .v .str y2, .v (.int .i64) y3, .row 21])] => K y0 y1 y2 y3 y4
  | .pan (.ifc 39 (.agg [.v (.int .i64) z5, .v (.int .i64) z6])) [(21, .row 116 (.pr (.int .i64) (.pr (.int .i64) (.pr (.int .i64) (.pr .str .bool)))) z4), (1, .var 154 [.v (.int .i64) z0, .v (.int .i64) z1, .v .str z2, .v (.int .i64) z3, .row 21])] => E z0 z1 z2 z3 z4 z5 z6
  | _ => none
def wqu7 : RetSpec := ⟨[], [(1, .obj 1 [.any, .any, .any, .any, .own 21 116 (.pr (.int .i64) (.pr (.int .i64) (.pr (.int .i64) (.pr .str .bool))))])], [(1, .obj 1 [.any, .any, .any, .any, .own 21 116 (.pr (.int .i64) (.pr (.int .i64) (.pr (.int .i64) (.pr .str .bool))))])]⟩
def wqu8 (k : Nat) : Ctx := ⟨tyT, [], (.add 134 wq5c (wq28 k) (.add 136 wqw6 (wqge k) (.add 137 wqhi (wq5d k) (.add 138 wqz9 (wqip k) (.add 164 wqo9 (wq6y k) (.add 165 wqo8 (wq6x k) (.add 166 wqf5 (wq40 k) .nil))))))), [], [1], [], @SH⟩
def wqkz (k : Nat) {R : Type}  (x0 x1 : Int) (x2 : (List UInt8)) (x3 : Int) (x4 : (List dT115)) (x5 : (List UInt8)) (K : (Int → Int → (List UInt8) → Int → (List dT115) → Option R)) (E : (Int → Int → (List UInt8) → Int → (List dT115) → Int → Int → Option R)) : Option R := (cond (inb 0 (x5.length : Int)) (cond (((x5.getD (Int.toNat 0) 0).toNat : Int) == 39) (wq66 k x0 x1 x2 x3 x4 x5 (fun y10 y11 y12 y13 y14 y15 y16 => (cond (y16 != (x5.length : Int)) (wqa k y10 y11 y12 y13 y14 3 (fun y17 y18 y19 y20 y21 => (cond (decide ((y15.length : Int) > 200)) (wqa k y17 y18 y19 y20 y21 4 (fun y22 y23 y24 y25 y26 => (wqc k y22 y23 y24 y25 y26 3 y15 true y16 (fun y27 y28 y29 y30 y31 => (K y27 y28 y29 y30 y31)))) (fun y22 y23 y24 y25 y26 y27 y28 => (E y22 y23 y24 y25 y26 y27 y28))) (wqc k y17 y18 y19 y20 y21 3 y15 true y16 (fun y22 y23 y24 y25 y26 => (K y22 y23 y24 y25 y26))))) (fun y17 y18 y19 y20 y21 y22 y23 => (E y17 y18 y19 y20 y21 y22 y23))) (cond (decide ((y15.length : Int) > 200)) (wqa k y10 y11 y12 y13 y14 4 (fun y17 y18 y19 y20 y21 => (wqc k y17 y18 y19 y20 y21 3 y15 true y16 (fun y22 y23 y24 y25 y26 => (K y22 y23 y24 y25 y26)))) (fun y17 y18 y19 y20 y21 y22 y23 => (E y17 y18 y19 y20 y21 y22 y23))) (wqc k y10 y11 y12 y13 y14 3 y15 true y16 (fun y17 y18 y19 y20 y21 => (K y17 y18 y19 y20 y21)))))) (fun y10 y11 y12 y13 y14 y15 y16 => (E y10 y11 y12 y13 y14 y15 y16))) (cond (((x5.getD (Int.toNat 0) 0).toNat : Int) == 34) (wq65 k x0 x1 x2 x3 x4 x5 (fun y10 y11 y12 y13 y14 y15 y16 => (cond (y16 != (x5.length : Int)) (wqa k y10 y11 y12 y13 y14 3 (fun y17 y18 y19 y20 y21 => (cond (decide ((y15.length : Int) > 200)) (wqa k y17 y18 y19 y20 y21 4 (fun y22 y23 y24 y25 y26 => (wqc k y22 y23 y24 y25 y26 3 y15 true y16 (fun y27 y28 y29 y30 y31 => (K y27 y28 y29 y30 y31)))) (fun y22 y23 y24 y25 y26 y27 y28 => (E y22 y23 y24 y25 y26 y27 y28))) (wqc k y17 y18 y19 y20 y21 3 y15 true y16 (fun y22 y23 y24 y25 y26 => (K y22 y23 y24 y25 y26))))) (fun y17 y18 y19 y20 y21 y22 y23 => (E y17 y18 y19 y20 y21 y22 y23))) (cond (decide ((y15.length : Int) > 200)) (wqa k y10 y11 y12 y13 y14 4 (fun y17 y18 y19 y20 y21 => (wqc k y17 y18 y19 y20 y21 3 y15 true y16 (fun y22 y23 y24 y25 y26 => (K y22 y23 y24 y25 y26)))) (fun y17 y18 y19 y20 y21 y22 y23 => (E y17 y18 y19 y20 y21 y22 y23))) (wqc k y10 y11 y12 y13 y14 3 y15 true y16 (fun y17 y18 y19 y20 y21 => (K y17 y18 y19 y20 y21)))))) (fun y10 y11 y12 y13 y14 y15 y16 => (E y10 y11 y12 y13 y14 y15 y16))) (cond (inb 0 (x5.length : Int)) (wq19 k [91, 93, 123, 125, 38, 42, 33, 124, 62, 37, 64, 44, 63, 96] ((x5.getD (Int.toNat 0) 0).toNat : Int) (fun y10 => (cond ((decide (y10 ≥ 0)) == false) (wqim k x5 (fun y11 => (cond (y11 == false) (wqjd k x5 (fun y12 => (cond (!(y12 == [])) (wqa k x0 x1 x2 x3 x4 4 (fun y13 y14 y15 y16 y17 => (cond ((x5.length : Int) != (x5.length : Int)) (wqa k y13 y14 y15 y16 y17 3 (fun y18 y19 y20 y21 y22 => (cond (decide ((x5.length : Int) > 200)) (wqa k y18 y19 y20 y21 y22 4 (fun y23 y24 y25 y26 y27 => (wqc k y23 y24 y25 y26 y27 3 x5 false (x5.length : Int) (fun y28 y29 y30 y31 y32 => (K y28 y29 y30 y31 y32)))) (fun y23 y24 y25 y26 y27 y28 y29 => (E y23 y24 y25 y26 y27 y28 y29))) (wqc k y18 y19 y20 y21 y22 3 x5 false (x5.length : Int) (fun y23 y24 y25 y26 y27 => (K y23 y24 y25 y26 y27))))) (fun y18 y19 y20 y21 y22 y23 y24 => (E y18 y19 y20 y21 y22 y23 y24))) (cond (decide ((x5.length : Int) > 200)) (wqa k y13 y14 y15 y16 y17 4 (fun y18 y19 y20 y21 y22 => (wqc k y18 y19 y20 y21 y22 3 x5 false (x5.length : Int) (fun y23 y24 y25 y26 y27 => (K y23 y24 y25 y26 y27)))) (fun y18 y19 y20 y21 y22 y23 y24 => (E y18 y19 y20 y21 y22 y23 y24))) (wqc k y13 y14 y15 y16 y17 3 x5 false (x5.length : Int) (fun y18 y19 y20 y21 y22 => (K y18 y19 y20 y21 y22)))))) (fun y13 y14 y15 y16 y17 y18 y19 => (E y13 y14 y15 y16 y17 y18 y19))) (cond ((x5.length : Int) != (x5.length : Int)) (wqa k x0 x1 x2 x3 x4 3 (fun y13 y14 y15 y16 y17 => (cond (decide ((x5.length : Int) > 200)) (wqa k y13 y14 y15 y16 y17 4 (fun y18 y19 y20 y21 y22 => (wqc k y18 y19 y20 y21 y22 3 x5 false (x5.length : Int) (fun y23 y24 y25 y26 y27 => (K y23 y24 y25 y26 y27)))) (fun y18 y19 y20 y21 y22 y23 y24 => (E y18 y19 y20 y21 y22 y23 y24))) (wqc k y13 y14 y15 y16 y17 3 x5 false (x5.length : Int) (fun y18 y19 y20 y21 y22 => (K y18 y19 y20 y21 y22))))) (fun y13 y14 y15 y16 y17 y18 y19 => (E y13 y14 y15 y16 y17 y18 y19))) (cond (decide ((x5.length : Int) > 200)) (wqa k x0 x1 x2 x3 x4 4 (fun y13 y14 y15 y16 y17 => (wqc k y13 y14 y15 y16 y17 3 x5 false (x5.length : Int) (fun y18 y19 y20 y21 y22 => (K y18 y19 y20 y21 y22)))) (fun y13 y14 y15 y16 y17 y18 y19 => (E y13 y14 y15 y16 y17 y18 y19))) (wqc k x0 x1 x2 x3 x4 3 x5 false (x5.length : Int) (fun y13 y14 y15 y16 y17 => (K y13 y14 y15 y16 y17)))))))) (wqa k x0 x1 x2 x3 x4 4 (fun y12 y13 y14 y15 y16 => (cond ((x5.length : Int) != (x5.length : Int)) (wqa k y12 y13 y14 y15 y16 3 (fun y17 y18 y19 y20 y21 => (cond (decide ((x5.length : Int) > 200)) (wqa k y17 y18 y19 y20 y21 4 (fun y22 y23 y24 y25 y26 => (wqc k y22 y23 y24 y25 y26 3 x5 false (x5.length : Int) (fun y27 y28 y29 y30 y31 => (K y27 y28 y29 y30 y31)))) (fun y22 y23 y24 y25 y26 y27 y28 => (E y22 y23 y24 y25 y26 y27 y28))) (wqc k y17 y18 y19 y20 y21 3 x5 false (x5.length : Int) (fun y22 y23 y24 y25 y26 => (K y22 y23 y24 y25 y26))))) (fun y17 y18 y19 y20 y21 y22 y23 => (E y17 y18 y19 y20 y21 y22 y23))) (cond (decide ((x5.length : Int) > 200)) (wqa k y12 y13 y14 y15 y16 4 (fun y17 y18 y19 y20 y21 => (wqc k y17 y18 y19 y20 y21 3 x5 false (x5.length : Int) (fun y22 y23 y24 y25 y26 => (K y22 y23 y24 y25 y26)))) (fun y17 y18 y19 y20 y21 y22 y23 => (E y17 y18 y19 y20 y21 y22 y23))) (wqc k y12 y13 y14 y15 y16 3 x5 false (x5.length : Int) (fun y17 y18 y19 y20 y21 => (K y17 y18 y19 y20 y21)))))) (fun y12 y13 y14 y15 y16 y17 y18 => (E y12 y13 y14 y15 y16 y17 y18)))))) (wqa k x0 x1 x2 x3 x4 4 (fun y11 y12 y13 y14 y15 => (cond ((x5.length : Int) != (x5.length : Int)) (wqa k y11 y12 y13 y14 y15 3 (fun y16 y17 y18 y19 y20 => (cond (decide ((x5.length : Int) > 200)) (wqa k y16 y17 y18 y19 y20 4 (fun y21 y22 y23 y24 y25 => (wqc k y21 y22 y23 y24 y25 3 x5 false (x5.length : Int) (fun y26 y27 y28 y29 y30 => (K y26 y27 y28 y29 y30)))) (fun y21 y22 y23 y24 y25 y26 y27 => (E y21 y22 y23 y24 y25 y26 y27))) (wqc k y16 y17 y18 y19 y20 3 x5 false (x5.length : Int) (fun y21 y22 y23 y24 y25 => (K y21 y22 y23 y24 y25))))) (fun y16 y17 y18 y19 y20 y21 y22 => (E y16 y17 y18 y19 y20 y21 y22))) (cond (decide ((x5.length : Int) > 200)) (wqa k y11 y12 y13 y14 y15 4 (fun y16 y17 y18 y19 y20 => (wqc k y16 y17 y18 y19 y20 3 x5 false (x5.length : Int) (fun y21 y22 y23 y24 y25 => (K y21 y22 y23 y24 y25)))) (fun y16 y17 y18 y19 y20 y21 y22 => (E y16 y17 y18 y19 y20 y21 y22))) (wqc k y11 y12 y13 y14 y15 3 x5 false (x5.length : Int) (fun y16 y17 y18 y19 y20 => (K y16 y17 y18 y19 y20)))))) (fun y11 y12 y13 y14 y15 y16 y17 => (E y11 y12 y13 y14 y15 y16 y17)))))) none))) none)
def wq3g (k : Nat) {R : Type} (x0 x1 : Int) (x2 : (List UInt8)) (x3 : Int) (x4 : (List dT115)) (x5 : (List UInt8)) (K : (Int → Int → (List UInt8) → Int → (List dT115) → Option R)) (E : (Int → Int → (List UInt8) → Int → (List dT115) → Int → Int → Option R)) : Option R := wqkz k  x0 x1 x2 x3 x4 x5 K E
theorem wqqg (k : Nat) {R : Type} (x0 x1 : Int) (x2 : (List UInt8)) (x3 : Int) (x4 : (List dT115)) (x5 : (List UInt8)) (K : (Int → Int → (List UInt8) → Int → (List dT115) → Option R)) (E : (Int → Int → (List UInt8) → Int → (List dT115) → Int → Int → Option R)) : fnW (wqu8 k) k Tryz.f139 wqu7 [.ptr 1 0, .v .str x5] [(21, .row 116 kdT115 x4), (1, .var 154 [.v kI x0, .v kI x1, .v .str x2, .v kI x3, .row 21])] (wqhk K E) = wq3g k x0 x1 x2 x3 x4 x5 K E := by
  kernel_rfl
def wq8k (k : Nat) {R : Type} : List PV → List (Nm × HObj) → (Out → Option R) → Option R
  | [.ptr 1 0, .v .str x5], [(21, .row 116 (.pr (.int .i64) (.pr (.int .i64) (.pr (.int .i64) (.pr .str .bool)))) x4), (1, .var 154 [.v (.int .i64) x0, .v (.int .i64) x1, .v .str x2, .v (.int .i64) x3, .row 21])], K => wq3g k x0 x1 x2 x3 x4 x5 (fun y0 y1 y2 y3 y4 => K (.ret [] [(21, .row 116 (.pr (.int .i64) (.pr (.int .i64) (.pr (.int .i64) (.pr .str .bool)))) y4), (1, .var 154 [.v (.int .i64) y0, .v (.int .i64) y1, .v .str y2, .v (.int .i64) y3, .row 21])])) (fun z0 z1 z2 z3 z4 z5 z6 => K (.pan (.ifc 39 (.agg [.v (.int .i64) z5, .v (.int .i64) z6])) [(21, .row 116 (.pr (.int .i64) (.pr (.int .i64) (.pr (.int .i64) (.pr .str .bool)))) z4), (1, .var 154 [.v (.int .i64) z0, .v (.int .i64) z1, .v .str z2, .v (.int .i64) z3, .row 21])]))
  | _, _, _ => none
theorem wqwb (k : Nat) : DOK Tryz.prog 139 (wq8k k) := by
  intro ps hp R K r h
  have h : wq8k k ps hp K = some r := h
  unfold wq8k at h
  split at h
  · rw [← wqqg] at h
    exact fnW_ok ⟨tyT_ok, (wqi (wq7c k) (wqi (wq12p k) (wqi (wqka k) (wqi (wq17j k) (wqi (wqsm k) (wqi (wqsl k) (wqi (wqhj k) CTab.nil_ok))))))), fun _ _ => rfl⟩ mixed (by kernel_rfl) (by kernel_rfl) h fun o ho => by unfold wqhk at ho; split at ho <;> first | exact ho | cases ho
  · cases h
end Go.Proofs.YtdfhgimidmfgfaaGreatDoor.Pvm
end


noncomputable section
namespace Go.Proofs.YtdfhgimidmfgfaaGreatDoor.Pvm
open Go Go.Proofs
def wqu9 : List LS := [.obj 1 [.any, .any, .any, .any, .own 21 116 kdT115]]
def wq8l {R : Type} (K : (Int → Int → (List UInt8) → Int → (List dT115) → Option R)) (E : (Int → Int → (List UInt8) → Int → (List dT115) → Int → Int → Option R)) : Out → Option R
  | .ret [] [(21, .row 116 (.pr (.int .i64) (.pr (.int .i64) (.pr (.int .i64) (.pr .str .bool)))) y4), (1, .var 154 [.v (.int .i64) y0, .v (.int .i64) y1, .v .str y2, .v (.int .i64) y3, .row 21])] => K y0 y1 y2 y3 y4
  | .pan (.ifc 39 (.agg [.v (.int .i64) z5, .v (.int .i64) z6])) [(21, .row 116 (.pr (.int .i64) (.pr (.int .i64) (.pr (.int .i64) (.pr .str .bool)))) z4), (1, .var 154 [.v (.int .i64) z0, .v (.int .i64) z1, .v .str z2, .v (.int .i64) z3, .row 21])] => E z0 z1 z2 z3 z4 z5 z6
  | _ => none
def wqgn : RetSpec := ⟨[], [(1, .obj 1 [.any, .any, .any, .any, .own 21 116 (.pr (.int .i64) (.pr (.int .i64) (.pr (.int .i64) (.pr .str .bool))))])], [(1, .obj 1 [.any, .any, .any, .any, .own 21 116 (.pr (.int .i64) (.pr (.int .i64) (.pr (.int .i64) (.pr .str .bool))))])]⟩
def wqgo (k : Nat) : Ctx := ⟨tyT, [(1003, ⟨[(0, .obj 1 [.any, .any, .any, .any, .own 21 116 kdT115]), (2, .any)], [(1, .obj 1 [.any, .any, .any, .any, .own 21 116 kdT115])]⟩)], (.add 134 wq5c (wq28 k) (.add 135 wqsi (wq8j k) (.add 136 wqw6 (wqge k) (.add 137 wqhi (wq5d k) (.add 138 wqz9 (wqip k) (.add 139 wqsn (wq8k k) .nil)))))), [], [1], [], @SH⟩
def wq60 (s0 s1 : Int) (s2 : (List UInt8)) (s3 : Int) (s4 : (List dT115)) (s5 : (List UInt8)) : St := ⟨mkT [(0, .ptr 1 0), (2, .v .str s5)], mkH [(21, .row 116 kdT115 s4), (1, .var 154 [.v kI s0, .v kI s1, .v .str s2, .v kI s3, .row 21])]⟩
def wqa7 (k : Nat) {R : Type} (I : Nat → St → Option R) (n : Nat) (s : St) (K : (Int → Int → (List UInt8) → Int → (List dT115) → Option R)) (E : (Int → Int → (List UInt8) → Int → (List dT115) → Int → Int → Option R)) : Option R := loopK (wqgo k) k Tryz.f104 wqgn 1003 [1, 1, 0, 0] I n s (wq8l K E)
def wqa8 (k : Nat) {R : Type} (E1003 : (Int → Int → (List UInt8) → Int → (List dT115) → (List UInt8) → Option R)) (s0 s1 : Int) (s2 : (List UInt8)) (s3 : Int) (s4 : (List dT115)) (s5 : (List UInt8)) (K : (Int → Int → (List UInt8) → Int → (List dT115) → Option R)) (E : (Int → Int → (List UInt8) → Int → (List dT115) → Int → Int → Option R)) : Option R := (wqim k s5 (fun y11 => (cond y11 (wqc k s0 s1 s2 s3 s4 1 [] false 1 (fun y12 y13 y14 y15 y16 => (wq2u k y12 y13 y14 y15 y16 (fun y17 y18 y19 y20 y21 y22 => (E1003 y17 y18 y19 y20 y21 y22))))) (wqjd k s5 (fun y12 => (cond (!(y12 == [])) (cond (decide ((y12.length : Int) > 64)) (wqa k s0 s1 s2 s3 s4 5 (fun y13 y14 y15 y16 y17 => (wqc k y13 y14 y15 y16 y17 2 y12 false (@Go.IntKind.wrap Go.IntKind.i64 ((y12.length : Int) + 1)) (fun y18 y19 y20 y21 y22 => (wq2u k y18 y19 y20 y21 y22 (fun y23 y24 y25 y26 y27 y28 => (cond (!(y28 == [])) (wq3g k y23 y24 y25 y26 y27 y28 (fun y29 y30 y31 y32 y33 => (K y29 y30 y31 y32 y33)) (fun y29 y30 y31 y32 y33 y34 y35 => (E y29 y30 y31 y32 y33 y34 y35))) (K y23 y24 y25 y26 y27))))))) (fun y13 y14 y15 y16 y17 y18 y19 => (E y13 y14 y15 y16 y17 y18 y19))) (wqc k s0 s1 s2 s3 s4 2 y12 false (@Go.IntKind.wrap Go.IntKind.i64 ((y12.length : Int) + 1)) (fun y13 y14 y15 y16 y17 => (wq2u k y13 y14 y15 y16 y17 (fun y18 y19 y20 y21 y22 y23 => (cond (!(y23 == [])) (wq3g k y18 y19 y20 y21 y22 y23 (fun y24 y25 y26 y27 y28 => (K y24 y25 y26 y27 y28)) (fun y24 y25 y26 y27 y28 y29 y30 => (E y24 y25 y26 y27 y28 y29 y30))) (K y18 y19 y20 y21 y22))))))) (cond (!(s5 == [])) (wq3g k s0 s1 s2 s3 s4 s5 (fun y13 y14 y15 y16 y17 => (K y13 y14 y15 y16 y17)) (fun y13 y14 y15 y16 y17 y18 y19 => (E y13 y14 y15 y16 y17 y18 y19))) (K s0 s1 s2 s3 s4))))))))
theorem wqkf (k : Nat) {R : Type} (I : Nat → St → Option R) (s0 s1 : Int) (s2 : (List UInt8)) (s3 : Int) (s4 : (List dT115)) (s5 : (List UInt8)) (K : (Int → Int → (List UInt8) → Int → (List dT115) → Option R)) (E : (Int → Int → (List UInt8) → Int → (List dT115) → Int → Int → Option R)) : bodyK (wqgo k) k Tryz.f104 wqgn [1, 1, 0, 0, 0] I (wq60 s0 s1 s2 s3 s4 s5) (wq8l K E) = wqa8 k (fun s0 s1 s2 s3 s4 s5 => I 1003 (wq60 s0 s1 s2 s3 s4 s5)) s0 s1 s2 s3 s4 s5 K E := by kernel_rfl
def wqi6 (k : Nat) {R : Type} (E1003 : (Int → Int → (List UInt8) → Int → (List dT115) → (List UInt8) → Option R)) (x0 x1 : Int) (x2 : (List UInt8)) (x3 : Int) (x4 : (List dT115)) (K : (Int → Int → (List UInt8) → Int → (List dT115) → Option R)) (E : (Int → Int → (List UInt8) → Int → (List dT115) → Int → Int → Option R)) : Option R := (cond (cond (decide (x1 < 0)) true (decide (x1 > 16384))) (wqa k x0 x1 x2 x3 x4 6 (fun y10 y11 y12 y13 y14 => (wq2u k y10 y11 y12 y13 y14 (fun y15 y16 y17 y18 y19 y20 => (E1003 y15 y16 y17 y18 y19 y20)))) (fun y10 y11 y12 y13 y14 y15 y16 => (E y10 y11 y12 y13 y14 y15 y16))) (wq2u k x0 x1 x2 x3 x4 (fun y10 y11 y12 y13 y14 y15 => (E1003 y10 y11 y12 y13 y14 y15))))
def wq36 (k : Nat) {R : Type}  : Nat → Int → Int → (List UInt8) → Int → (List dT115) → (List UInt8) → (Int → Int → (List UInt8) → Int → (List dT115) → Option R) → (Int → Int → (List UInt8) → Int → (List dT115) → Int → Int → Option R) → Option R
  | 0, _, _, _, _, _, _, _, _ => none
  | n + 1, s0, s1, s2, s3, s4, s5, K, E => wqa8 k (fun s0 s1 s2 s3 s4 s5 => wq36 k  n s0 s1 s2 s3 s4 s5 K E) s0 s1 s2 s3 s4 s5 K E
theorem wqkg (k : Nat) {R : Type} (I : Nat → St → Option R) (K : (Int → Int → (List UInt8) → Int → (List dT115) → Option R)) (E : (Int → Int → (List UInt8) → Int → (List dT115) → Int → Int → Option R)) (n : Nat) : ∀ (s0 s1 : Int) (s2 : (List UInt8)) (s3 : Int) (s4 : (List dT115)) (s5 : (List UInt8)), wqa7 k I n (wq60 s0 s1 s2 s3 s4 s5) K E = wq36 k  n s0 s1 s2 s3 s4 s5 K E := by
  induction n with
  | zero => intros; rfl
  | succ n ih =>
    intro s0 s1 s2 s3 s4 s5
    refine (?_ : _ = _).trans ((wqkf k (upI 1003 (fun s => wqa7 k I n s K E) I) s0 s1 s2 s3 s4 s5 K E).trans ?_)
    · rfl
    · simp only [wq1h, ih] <;> rfl
def wqcx (k : Nat) {R : Type} (x0 x1 : Int) (x2 : (List UInt8)) (x3 : Int) (x4 : (List dT115)) (K : (Int → Int → (List UInt8) → Int → (List dT115) → Option R)) (E : (Int → Int → (List UInt8) → Int → (List dT115) → Int → Int → Option R)) : Option R := wqi6 k (fun s0 s1 s2 s3 s4 s5 => wq36 k k s0 s1 s2 s3 s4 s5 K E) x0 x1 x2 x3 x4 K E
theorem wqso (k : Nat) {R : Type} (x0 x1 : Int) (x2 : (List UInt8)) (x3 : Int) (x4 : (List dT115)) (K : (Int → Int → (List UInt8) → Int → (List dT115) → Option R)) (E : (Int → Int → (List UInt8) → Int → (List dT115) → Int → Int → Option R)) : fnW (wqgo k) k Tryz.f104 wqgn [.ptr 1 0] [(21, .row 116 kdT115 x4), (1, .var 154 [.v kI x0, .v kI x1, .v .str x2, .v kI x3, .row 21])] (wq8l K E) = wqcx k x0 x1 x2 x3 x4 K E := by
  refine Eq.trans (b := wqi6 k (fun s0 s1 s2 s3 s4 s5 => wqa7 k (fun _ _ => none) k (wq60 s0 s1 s2 s3 s4 s5) K E) x0 x1 x2 x3 x4 K E) (by kernel_rfl) ?_
  simp only [wqkg] <;> rfl
def wq9n (k : Nat) {R : Type} : List PV → List (Nm × HObj) → (Out → Option R) → Option R
  | [.ptr 1 0], [(21, .row 116 (.pr (.int .i64) (.pr (.int .i64) (.pr (.int .i64) (.pr .str .bool)))) x4), (1, .var 154 [.v (.int .i64) x0, .v (.int .i64) x1, .v .str x2, .v (.int .i64) x3, .row 21])], K => wqcx k x0 x1 x2 x3 x4 (fun y0 y1 y2 y3 y4 => K (.ret [] [(21, .row 116 (.pr (.int .i64) (.pr (.int .i64) (.pr (.int .i64) (.pr .str .bool)))) y4), (1, .var 154 [.v (.int .i64) y0, .v (.int .i64) y1, .v .str y2, .v (.int .i64) y3, .row 21])])) (fun z0 z1 z2 z3 z4 z5 z6 => K (.pan (.ifc 39 (.agg [.v (.int .i64) z5, .v (.int .i64) z6])) [(21, .row 116 (.pr (.int .i64) (.pr (.int .i64) (.pr (.int .i64) (.pr .str .bool)))) z4), (1, .var 154 [.v (.int .i64) z0, .v (.int .i64) z1, .v .str z2, .v (.int .i64) z3, .row 21])]))
  | _, _, _ => none
theorem wqxy (k : Nat) : DOK Tryz.prog 104 (wq9n k) := by
  intro ps hp R K r h
  have h : wq9n k ps hp K = some r := h
  unfold wq9n at h
  split at h
  · rw [← wqso] at h
    exact fnW_ok ⟨tyT_ok, (wqi (wq7c k) (wqi (wqwa k) (wqi (wq12p k) (wqi (wqka k) (wqi (wq17j k) (wqi (wqwb k) CTab.nil_ok)))))), fun _ _ => rfl⟩ mixed (by kernel_rfl) (by kernel_rfl) h fun o ho => by unfold wq8l at ho; split at ho <;> first | exact ho | cases ho
  · cases h
end Go.Proofs.YtdfhgimidmfgfaaGreatDoor.Pvm
end


namespace Go.Proofs.YtdfhgimidmfgfaaGreatDoor.Pvm
open Go Go.Proofs
def wqzb : List LS := [.ag [.any, .any, .any]]
def wq17k (k : Nat) : CTab := (CTab.add 104 wqu9 (wq9n k) CTab.nil)
def wqoa {R : Type} (K : ((List dT115) → Int → Int → Option R)) : Out → Option R
  | .ret [.v (.sl (.pr (.int .i64) (.pr (.int .i64) (.pr (.int .i64) (.pr .str .bool))))) y0, .agg [.v (.int .i64) y1, .v (.int .i64) y2]] [] => K y0 y1 y2
  | _ => none
def wq12w : RetSpec := ⟨[.sl (.pr (.int .i64) (.pr (.int .i64) (.pr (.int .i64) (.pr .str .bool)))), .ag [.any, .any]], [], []⟩
def wq15h : List (Nat × CutSpec) := []
def wq12x : List (Nat × Plan) := []
def wqwc (k : Nat) : Ctx := ⟨tyT, wq15h, wq17k k, [2, 3], [], wq12x, @SH⟩
def wq6z : Code := Tryz.f67.body.getD .skip
def wqjg (k : Nat) {R : Type} : PV → List PV → List (Nm × HObj) → (Out → Option R) → Option R
  | .nilif, [.ptr 1 0, .ptr 2 0], [(1, .var 78 [.v (.sl (.pr (.int .i64) (.pr (.int .i64) (.pr (.int .i64) (.pr .str .bool))))) x0]), (2, .var 39 [.v (.int .i64) x1, .v (.int .i64) x2])], K => wqdh k x0 x1 x2 (fun y0 y1 y2 => K (.ret [] [(1, .var 78 [.v (.sl (.pr (.int .i64) (.pr (.int .i64) (.pr (.int .i64) (.pr .str .bool))))) y0]), (2, .var 39 [.v (.int .i64) y1, .v (.int .i64) y2])]))
  | .ifc 39 (.agg [.v (.int .i64) x3, .v (.int .i64) x4]), [.ptr 1 0, .ptr 2 0], [(1, .var 78 [.v (.sl (.pr (.int .i64) (.pr (.int .i64) (.pr (.int .i64) (.pr .str .bool))))) x0]), (2, .var 39 [.v (.int .i64) x1, .v (.int .i64) x2])], K => wqdi k x0 x1 x2 x3 x4 (fun y0 y1 y2 => K (.ret [] [(1, .var 78 [.v (.sl (.pr (.int .i64) (.pr (.int .i64) (.pr (.int .i64) (.pr .str .bool))))) y0]), (2, .var 39 [.v (.int .i64) y1, .v (.int .i64) y2])]))
  | _, _, _, _ => none
def wq10f (k : Nat) {R : Type}  (x0 x1 : Int) (x2 : (List UInt8)) (K : ((List dT115) → Int → Int → Option R)) : Option R := (wqcx k x0 x1 x2 0 [] (fun y6 y7 y8 y9 y10 => (wqdh k y10 0 0 (fun y11 y12 y13 => (K y11 y12 y13)))) (fun y6 y7 y8 y9 y10 y11 y12 => (wqdi k [] 0 0 y11 y12 (fun y13 y14 y15 => (K y13 y14 y15)))))
theorem wq15i (k : Nat) {R : Type} (I : Nat → St → Option R) (x0 x1 : Int) (x2 : (List UInt8)) (K : ((List dT115) → Int → Int → Option R)) : fnDK (wqwc k) k [300, 400] (at_ [0] wq6z) (opsAt (at_ [1, 0] wq6z)) (at_ [1, 1] wq6z) 16 [.cell 2 78, .cell 3 39] wq12w (wqjg k) wqtc [(300, 0), (400, 0)] [.agg [.v (.int .i64) x0, .v (.int .i64) x1, .v .str x2]] [] (wqoa K) = wq10f k  x0 x1 x2 K := by kernel_rfl
def wqmd (k : Nat) {R : Type} (x0 x1 : Int) (x2 : (List UInt8)) (K : ((List dT115) → Int → Int → Option R)) : Option R := wq10f k  x0 x1 x2 K
theorem wq15j (k : Nat) {R : Type} (x0 x1 : Int) (x2 : (List UInt8)) (K : ((List dT115) → Int → Int → Option R)) : fnDK (wqwc k) k [300, 400] (at_ [0] wq6z) (opsAt (at_ [1, 0] wq6z)) (at_ [1, 1] wq6z) 16 [.cell 2 78, .cell 3 39] wq12w (wqjg k) wqtc [(300, 0), (400, 0)] [.agg [.v (.int .i64) x0, .v (.int .i64) x1, .v .str x2]] [] (wqoa K) = wqmd k x0 x1 x2 K := by
  exact wq15i k (fun _ _ => none) x0 x1 x2 K
def wqme (k : Nat) {R : Type} : List PV → List (Nm × HObj) → (Out → Option R) → Option R
  | [.agg [.v (.int .i64) x0, .v (.int .i64) x1, .v .str x2]], [], K => wqmd k x0 x1 x2 (fun y0 y1 y2 => K (.ret [.v (.sl (.pr (.int .i64) (.pr (.int .i64) (.pr (.int .i64) (.pr .str .bool))))) y0, .agg [.v (.int .i64) y1, .v (.int .i64) y2]] []))
  | _, _, _ => none
theorem wq15k (k : Nat) : (wq17k k).Ok Tryz.prog := (wqi (wqxy k) CTab.nil_ok)
theorem wqxz (k : Nat) {R : Type} (rec : PV) (ps : List PV) (hp : List (Nm × HObj)) (K : Out → Option R) (r : R) (h : wqjg k rec ps hp K = some r) : DoesToD Tryz.prog 103 rec ps hp fun out => K out = some r := by
  unfold wqjg at h
  split at h
  · exact wq106 k h
  · exact wq107 k h
  · cases h
theorem wq17l (k : Nat) {ps : List PV} {hp : List (Nm × HObj)} {R : Type} {K : Out → Option R} {r : R} (h : wqme k ps hp K = some r) : DoesTo Tryz.prog 67 ps hp fun out => K out = some r := by
  unfold wqme at h
  split at h
  · rw [← wq15j] at h
    have := wq1d9 (P := Tryz.prog) (cx := wqwc k) (f := 67) ⟨tyT_ok, wq15k k, fun _ _ => rfl⟩ (by kernel_rfl) (fn := Tryz.f67) (id := 1) (pre := at_ [0] wq6z) (rest := at_ [1, 1] wq6z) (ops := opsAt (at_ [1, 0] wq6z)) (by kernel_rfl) (by kernel_rfl) (by kernel_rfl) (rs := [.cell 2 78, .cell 3 39]) (by kernel_rfl) (by kernel_rfl) (by kernel_rfl) (g := 103) (s := 5) (xs := [.tmp 2, .tmp 3]) (by kernel_rfl) (Invokes.of (fn := Tryz.f103) (by kernel_rfl) (c := Tryz.f103.body.getD .skip) (by kernel_rfl) (by kernel_rfl)) (wqxz k) h
    exact this.mono fun out ho => by
      unfold wqoa at ho
      split at ho <;> first | exact ho | cases ho
  · cases h
end Go.Proofs.YtdfhgimidmfgfaaGreatDoor.Pvm
noncomputable section
namespace Go.Proofs.YtdfhgimidmfgfaaGreatDoor.Pvm
open Go Go.Proofs
def wq18u : List LS := [.sl kdT109]
def wqjh {R : Type} (K : ((List dT115) → Int → Int → Option R)) : Out → Option R
  | .ret [.v (.sl (.pr (.int .i64) (.pr (.int .i64) (.pr (.int .i64) (.pr .str .bool))))) y0, .agg [.v (.int .i64) y1, .v (.int .i64) y2]] [] => K y0 y1 y2
  | _ => none
def wqwd : RetSpec := ⟨[.sl (.pr (.int .i64) (.pr (.int .i64) (.pr (.int .i64) (.pr .str .bool)))), .ag [.any, .any]], [], []⟩
def wqwe (k : Nat) : Ctx := ⟨tyT, [(1003, ⟨[(3, .obj 13 [.any, .any]), (4, .own 100004 116 kdT115), (9, .sl kdT109), (10, .any), (11, .any)], []⟩)], (.add 67 wqzb (wqme k) .nil), [], [], [(7, (.of [(1, 1), (0, 1), (2, 0)] .done))], @SH⟩
def wqcy (s0 s1 : Int) (s2 : (List dT115)) (s3 : (List dT109)) (s4 s5 : Int) : St := ⟨mkT [(3, .ptr 13 0), (4, .row 100004), (9, .v (.sl kdT109) s3), (10, .v kI s4), (11, .v kI s5)], mkH [(13, .var 39 [.v kI s0, .v kI s1]), (100004, .row 116 kdT115 s2)]⟩
def wqji (k : Nat) {R : Type} (I : Nat → St → Option R) (n : Nat) (s : St) (K : ((List dT115) → Int → Int → Option R)) : Option R := loopK (wqwe k) k Tryz.f39 wqwd 1003 [1, 1, 0, 1, 0] I n s (wqjh K)
def wqff (k : Nat) {R : Type} (E1003 : (Int → Int → (List dT115) → (List dT109) → Int → Int → Option R)) (s0 s1 : Int) (s2 : (List dT115)) (s3 : (List dT109)) (s4 s5 : Int) (K : ((List dT115) → Int → Int → Option R)) : Option R := (cond (decide (s5 < s4)) (cond (inb s5 (s3.length : Int)) (wqmd k (s3.getD s5.toNat (Kd.zero (@Kd.pr kI (@Kd.pr kI Kd.str)))).1 ((s3.getD s5.toNat (Kd.zero (@Kd.pr kI (@Kd.pr kI Kd.str)))).2).1 ((s3.getD s5.toNat (Kd.zero (@Kd.pr kI (@Kd.pr kI Kd.str)))).2).2 (fun y10 y11 y12 => (cond (y11 != 0) (K [] y11 y12) (cond (fits s2.length y10.length 48) (E1003 s0 s1 (s2 ++ y10) s3 s4 (@Go.IntKind.wrap Go.IntKind.i64 (s5 + 1))) none)))) none) (K s2 0 0))
theorem wqua (k : Nat) {R : Type} (I : Nat → St → Option R) (s0 s1 : Int) (s2 : (List dT115)) (s3 : (List dT109)) (s4 s5 : Int) (K : ((List dT115) → Int → Int → Option R)) : bodyK (wqwe k) k Tryz.f39 wqwd [1, 1, 0, 1, 0, 0] I (wqcy s0 s1 s2 s3 s4 s5) (wqjh K) = wqff k (fun s0 s1 s2 s3 s4 s5 => I 1003 (wqcy s0 s1 s2 s3 s4 s5)) s0 s1 s2 s3 s4 s5 K := by kernel_rfl
def wq10g (k : Nat) {R : Type} (E1003 : (Int → Int → (List dT115) → (List dT109) → Int → Int → Option R)) (x0 : (List dT109)) (K : ((List dT115) → Int → Int → Option R)) : Option R := (E1003 0 0 [] x0 (x0.length : Int) 0)
def wq8m (k : Nat) {R : Type}  : Nat → Int → Int → (List dT115) → (List dT109) → Int → Int → ((List dT115) → Int → Int → Option R) → Option R
  | 0, _, _, _, _, _, _, _ => none
  | n + 1, s0, s1, s2, s3, s4, s5, K => wqff k (fun s0 s1 s2 s3 s4 s5 => wq8m k  n s0 s1 s2 s3 s4 s5 K) s0 s1 s2 s3 s4 s5 K
theorem wqub (k : Nat) {R : Type} (I : Nat → St → Option R) (K : ((List dT115) → Int → Int → Option R)) (n : Nat) : ∀ (s0 s1 : Int) (s2 : (List dT115)) (s3 : (List dT109)) (s4 s5 : Int), wqji k I n (wqcy s0 s1 s2 s3 s4 s5) K = wq8m k  n s0 s1 s2 s3 s4 s5 K := by
  induction n with
  | zero => intros; rfl
  | succ n ih =>
    intro s0 s1 s2 s3 s4 s5
    refine (?_ : _ = _).trans ((wqua k (upI 1003 (fun s => wqji k I n s K) I) s0 s1 s2 s3 s4 s5 K).trans ?_)
    · rfl
    · simp only [wq1h, ih] <;> rfl
def wqqh (k : Nat) {R : Type} (x0 : (List dT109)) (K : ((List dT115) → Int → Int → Option R)) : Option R := wq10g k (fun s0 s1 s2 s3 s4 s5 => wq8m k k s0 s1 s2 s3 s4 s5 K) x0 K
theorem wq15l (k : Nat) {R : Type} (x0 : (List dT109)) (K : ((List dT115) → Int → Int → Option R)) : fnW (wqwe k) k Tryz.f39 wqwd [.v (.sl kdT109) x0] [] (wqjh K) = wqqh k x0 K := by
  refine Eq.trans (b := wq10g k (fun s0 s1 s2 s3 s4 s5 => wqji k (fun _ _ => none) k (wqcy s0 s1 s2 s3 s4 s5) K) x0 K) (by kernel_rfl) ?_
  simp only [wqub] <;> rfl
def wqmf (k : Nat) {R : Type} : List PV → List (Nm × HObj) → (Out → Option R) → Option R
  | [.v (.sl (.pr (.int .i64) (.pr (.int .i64) .str))) x0], [], K => wqqh k x0 (fun y0 y1 y2 => K (.ret [.v (.sl (.pr (.int .i64) (.pr (.int .i64) (.pr (.int .i64) (.pr .str .bool))))) y0, .agg [.v (.int .i64) y1, .v (.int .i64) y2]] []))
  | _, _, _ => none
theorem wq1cq (k : Nat) : DOK Tryz.prog 39 (wqmf k) := by
  intro ps hp R K r h
  have h : wqmf k ps hp K = some r := h
  unfold wqmf at h
  split at h
  · rw [← wq15l] at h
    exact fnW_ok ⟨tyT_ok, (CTab.add_ok (fun h => wq17l k h) CTab.nil_ok), fun _ _ => rfl⟩ mixed (by kernel_rfl) (by kernel_rfl) h fun o ho => by unfold wqjh at ho; split at ho <;> first | exact ho | cases ho
  · cases h
end Go.Proofs.YtdfhgimidmfgfaaGreatDoor.Pvm
end


namespace Go.Proofs.YtdfhgimidmfgfaaGreatDoor.Pvm
open Go Go.Proofs
theorem wq1av {h : Heap} {G : Gh} {w : World} {P : Program} {x : List Int} {v : Value} (hv : RV h G w (.v (.sl (.int .u8)) x) v) : (Extern.Bytes.bytesOf v).run P w = .ok ⟨(wq1t x).toArray⟩ w := by
  obtain ⟨A, cap, e, hcap, hr⟩ := hv
  simp only [List.cons.injEq, and_true] at e
  subst e
  rcases hr with rfl | ⟨ad, rfl, h1, h2, h3⟩
  · cases A with
    | none => rfl
    | some a => rfl
  · have hl := Lib.run_loadBytesX (P := P) w x ad .empty (fun j y hj => by
      obtain ⟨c, hc, hu⟩ := h3 j y hj
      have hc' : c = [.int .u8 y] := hc
      subst hc'
      have := hu 0 _ rfl
      have e1 : j * (Kd.int .u8).sz + 0 = j := by simp [Kd.sz]
      rw [e1] at this
      exact this)
    have e2 : (⟨ByteArray.empty.data ++ (Lib.bytesOf x).toArray⟩ : ByteArray) = ⟨(wq1t x).toArray⟩ := by
      apply ByteArray.ext
      show (#[] : Array UInt8) ++ (Lib.bytesOf x).toArray = (wq1t x).toArray
      simp [Lib.bytesOf, wq1t]
    rw [e2] at hl
    exact hl
theorem wq1aw {G : Gh} {w : World} : Fin [] [] G w G w :=
  ⟨fun n o h => (by cases h), fun n m b h => (by simp [blkOf, mkH, look] at h), fun n t cs h => (by cases h), fun n ag V es h => (by cases h), fun _ _ _ => rfl, rfl, fun n b h => (by simp [blkOf, mkH, look] at h), Nat.le_refl _, rfl, rfl, rfl⟩
theorem wq1da {P : Program} {f : FuncId} {fn : Func} {g : Array Value → Sem Value} (h1 : P.funcs[f]? = some fn) (h2 : (fn.name == "runtime.NumGoroutine") = false) (h3 : fn.body.isNone = true) (h4 : (Extern.findNext fn).isNone = true)
    (h5 : Extern.find fn = some g) (args : Array Value) (w : World) {v : Value} (h6 : (g args).run P w = .ok v w) : (callFunc f args).run P w = .ok (.value v) w := by
  have h4' : Extern.findNext fn = none := by
    cases hq : Extern.findNext fn with
    | none => rfl
    | some e => rw [hq] at h4; cases h4
  have h2' : ¬ fn.name = "runtime.NumGoroutine" := by simpa using h2
  have e1 : (callFunc f args).run P w = (g args >>= fun v => pure (Next.value v)).run P w := by
    unfold callFunc
    rw [Sem.run_bind]
    have e2 : (program).run P w = .ok P w := rfl
    rw [e2, Result.andThen_ok, h1]
    simp only [h2, h3, if_true, Bool.false_eq_true, if_false]
    rw [Sem.run_bind]
    have e3 : (mark (.extern f)).run P w = .ok () w := rfl
    rw [e3, Result.andThen_ok, h4', h5]
  rw [e1, Sem.run_bind, h6]
  rfl
def cntB (s : List UInt8) (c : UInt8) : Int := Lib.countByte s c
def wq10h : List LS := [.sl (.int .u8), .any]
def wqwf (k : Nat) {R : Type} (x0 : List Int) (x1 : Int) (K : Int → Option R) : Option R := K (cntB (wq1t x0) (UInt8.ofNat x1.toNat))
def wqjj (k : Nat) {R : Type} : List PV → List (Nm × HObj) → (Out → Option R) → Option R
  | [.v (.sl (.int .u8)) x0, .v (.int .u8) x1], [], K => wqwf k x0 x1 (fun y0 => K (.ret [.v (.int .i64) y0] []))
  | _, _, _ => none
theorem wq15m (k : Nat) {ps : List PV} {hp : List (Nm × HObj)} {R : Type} {K : Out → Option R} {r : R} (h : wqjj k ps hp K = some r) : DoesTo Tryz.prog 154 ps hp fun out => K out = some r := by
  unfold wqjj at h
  split at h
  · next x0 x1 =>
    intro G w vals hr obj dis
    obtain ⟨v0, l0, rfl, h0, v1, l1, rfl, h1, rfl⟩ := hr
    have e1 : v1 = .int .u8 x1 := by simpa [RV, RD] using h1
    subst e1
    have hb := wq1av (P := Tryz.prog) h0
    have hrun : (callFunc 154 #[v0, .int .u8 x1]).run Tryz.prog w = .ok (.value (.int .i64 (cntB (wq1t x0) (UInt8.ofNat x1.toNat)))) w := by
      refine wq1da (fn := Tryz.f154) (g := Extern.BytealgCount.count) (by kernel_rfl) (by kernel_rfl) (by kernel_rfl) (by kernel_rfl) (by kernel_rfl) _ w ?_
      have hs := Lib.run_countString (P := Tryz.prog) ⟨(wq1t x0).toArray⟩ x1 w
      change Sem.run Tryz.prog (do
        let b ← Extern.Bytes.bytesOf v0
        let c' ← Extern.Bytes.asByte (.int .u8 x1)
        pure (goInt (b.foldl (fun n x => if x == c' then n + 1 else n) (0 : Nat)))) w = _
      change Sem.run Tryz.prog (do
        let b ← Extern.Bytes.bytesOf (.string ⟨(wq1t x0).toArray⟩)
        let c' ← Extern.Bytes.asByte (.int .u8 x1)
        pure (goInt (b.foldl (fun n x => if x == c' then n + 1 else n) (0 : Nat)))) w = _ at hs
      rw [Sem.run_bind] at hs ⊢
      rw [hb]
      exact hs
    show Does _ _ #[_, _] _ _
    unfold Does
    rw [hrun]
    exact ⟨.ret [.v (.int .i64) _] [], h, G, ⟨_, rfl, rfl⟩, wq1aw⟩
  · cases h
end Go.Proofs.YtdfhgimidmfgfaaGreatDoor.Pvm
noncomputable section
namespace Go.Proofs.YtdfhgimidmfgfaaGreatDoor.Pvm
open Go Go.Proofs
def wqy0 : List LS := [.sl (.int .u8), .sl (.int .u8)]
def wql0 {R : Type} (K : (Int → Option R)) : Out → Option R
  | .ret [.v (.int .i64) y0] [] => K y0
  | _ => none
def wq10i : RetSpec := ⟨[.any], [], []⟩
def wq10j (k : Nat) : Ctx := ⟨tyT, [], (.add 154 wq10h (wqjj k) .nil), [], [], [], @SH⟩
def wq12y (k : Nat) {R : Type}  (x0 : (List Int)) (x1 : Int) (K : (Int → Option R)) : Option R := (wqwf k x0 (([x1]).getD (Int.toNat 0) (Kd.zero (@Kd.int Go.IntKind.u8))) (fun y5 => (K y5)))
def wqdo (k : Nat) {R : Type} (x0 : (List Int)) (x1 : Int) (K : (Int → Option R)) : Option R := wq12y k  x0 x1 K
theorem wqwg (k : Nat) {R : Type} (x0 : (List Int)) (x1 : Int) (K : (Int → Option R)) : fnW (wq10j k) k Tryz.f126 wq10i [.v (.sl (.int .u8)) x0, .v (.sl (.int .u8)) [x1]] [] (wql0 K) = wqdo k x0 x1 K := by
  kernel_rfl
def wqcz (k : Nat) {R : Type} : List PV → List (Nm × HObj) → (Out → Option R) → Option R
  | [.v (.sl (.int .u8)) x0, .v (.sl (.int .u8)) [x1]], [], K => wqdo k x0 x1 (fun y0 => K (.ret [.v (.int .i64) y0] []))
  | _, _, _ => none
theorem wq12z (k : Nat) : DOK Tryz.prog 126 (wqcz k) := by
  intro ps hp R K r h
  have h : wqcz k ps hp K = some r := h
  unfold wqcz at h
  split at h
  · rw [← wqwg] at h
    exact fnW_ok ⟨tyT_ok, (CTab.add_ok (fun h => wq15m k h) CTab.nil_ok), fun _ _ => rfl⟩ mixed (by kernel_rfl) (by kernel_rfl) h fun o ho => by unfold wql0 at ho; split at ho <;> first | exact ho | cases ho
  · cases h
end Go.Proofs.YtdfhgimidmfgfaaGreatDoor.Pvm
end


namespace Go.Proofs.YtdfhgimidmfgfaaGreatDoor.Pvm
open Go Go.Proofs
def wqsp : List LS := [.sl (.int .u8), .any]
def wql1 (k : Nat) {R : Type} (x0 : List Int) (x1 : Int) (K : Int → Option R) : Option R := K (wqf4 (wq1t x0) x1)
def wqc2 (k : Nat) {R : Type} : List PV → List (Nm × HObj) → (Out → Option R) → Option R
  | [.v (.sl (.int .u8)) x0, .v (.int .u8) x1], [], K => wql1 k x0 x1 (fun y0 => K (.ret [.v (.int .i64) y0] []))
  | _, _, _ => none
theorem wqwh (k : Nat) {ps : List PV} {hp : List (Nm × HObj)} {R : Type} {K : Out → Option R} {r : R} (h : wqc2 k ps hp K = some r) : DoesTo Tryz.prog 173 ps hp fun out => K out = some r := by
  unfold wqc2 at h
  split at h
  · next x0 x1 =>
    intro G w vals hr obj dis
    obtain ⟨v0, l0, rfl, h0, v1, l1, rfl, h1, rfl⟩ := hr
    have e1 : v1 = .int .u8 x1 := by simpa [RV, RD] using h1
    subst e1
    have hb := wq1av (P := Tryz.prog) h0
    have hrun : (callFunc 173 #[v0, .int .u8 x1]).run Tryz.prog w = .ok (.value (.int .i64 (wqf4 (wq1t x0) x1))) w := by
      refine wq1da (fn := Tryz.f173) (g := Extern.BytealgIndexByte.indexByte) (by kernel_rfl) (by kernel_rfl) (by kernel_rfl) (by kernel_rfl) (by kernel_rfl) _ w ?_
      have hs := wqz7 (P := Tryz.prog) (wq1t x0) x1 w
      change Sem.run Tryz.prog (do
        let b ← Extern.Bytes.bytesOf v0
        let c ← Extern.Bytes.asByte (.int .u8 x1)
        match (List.range b.size).find? fun i => b[i]! == c with
        | some i => pure (goInt i)
        | none => pure (goInt (-1))) w = _
      change Sem.run Tryz.prog (do
        let b ← Extern.Bytes.bytesOf (.string ⟨(wq1t x0).toArray⟩)
        let c ← Extern.Bytes.asByte (.int .u8 x1)
        match (List.range b.size).find? fun i => b[i]! == c with
        | some i => pure (goInt i)
        | none => pure (goInt (-1))) w = _ at hs
      rw [Sem.run_bind] at hs ⊢
      rw [hb]
      exact hs
    show Does _ _ #[_, _] _ _
    unfold Does
    rw [hrun]
    exact ⟨.ret [.v (.int .i64) _] [], h, G, ⟨_, rfl, rfl⟩, wq1aw⟩
  · cases h
end Go.Proofs.YtdfhgimidmfgfaaGreatDoor.Pvm
noncomputable section
namespace Go.Proofs.YtdfhgimidmfgfaaGreatDoor.Pvm
open Go Go.Proofs
def wqqi : List LS := [.sl (.int .u8), .any]
def wqgp {R : Type} (K : (Int → Option R)) : Out → Option R
  | .ret [.v (.int .i64) y0] [] => K y0
  | _ => none
def wqsq : RetSpec := ⟨[.any], [], []⟩
def wqsr (k : Nat) : Ctx := ⟨tyT, [], (.add 173 wqsp (wqc2 k) .nil), [], [], [], @SH⟩
def wquc (k : Nat) {R : Type}  (x0 : (List Int)) (x1 : Int) (K : (Int → Option R)) : Option R := (wql1 k x0 x1 (fun y5 => (K y5)))
def wqed (k : Nat) {R : Type} (x0 : (List Int)) (x1 : Int) (K : (Int → Option R)) : Option R := wquc k  x0 x1 K
theorem wqob (k : Nat) {R : Type} (x0 : (List Int)) (x1 : Int) (K : (Int → Option R)) : fnW (wqsr k) k Tryz.f155 wqsq [.v (.sl (.int .u8)) x0, .v (.int .u8) x1] [] (wqgp K) = wqed k x0 x1 K := by
  kernel_rfl
def wq7v (k : Nat) {R : Type} : List PV → List (Nm × HObj) → (Out → Option R) → Option R
  | [.v (.sl (.int .u8)) x0, .v (.int .u8) x1], [], K => wqed k x0 x1 (fun y0 => K (.ret [.v (.int .i64) y0] []))
  | _, _, _ => none
theorem wqud (k : Nat) : DOK Tryz.prog 155 (wq7v k) := by
  intro ps hp R K r h
  have h : wq7v k ps hp K = some r := h
  unfold wq7v at h
  split at h
  · rw [← wqob] at h
    exact fnW_ok ⟨tyT_ok, (CTab.add_ok (fun h => wqwh k h) CTab.nil_ok), fun _ _ => rfl⟩ mixed (by kernel_rfl) (by kernel_rfl) h fun o ho => by unfold wqgp at ho; split at ho <;> first | exact ho | cases ho
  · cases h
end Go.Proofs.YtdfhgimidmfgfaaGreatDoor.Pvm
end


noncomputable section
namespace Go.Proofs.YtdfhgimidmfgfaaGreatDoor.Pvm
open Go Go.Proofs
def wqy1 : List LS := [.sl (.int .u8), .sl (.int .u8)]
def wql2 {R : Type} (K : (Int → Option R)) : Out → Option R
  | .ret [.v (.int .i64) y0] [] => K y0
  | _ => none
def wq10k : RetSpec := ⟨[.any], [], []⟩
def wq10l (k : Nat) : Ctx := ⟨tyT, [], (.add 155 wqqi (wq7v k) .nil), [], [], [], @SH⟩
def wq130 (k : Nat) {R : Type}  (x0 : (List Int)) (x1 : Int) (K : (Int → Option R)) : Option R := (wqed k x0 (([x1]).getD (Int.toNat 0) (Kd.zero (@Kd.int Go.IntKind.u8))) (fun y5 => (K y5)))
def wqdp (k : Nat) {R : Type} (x0 : (List Int)) (x1 : Int) (K : (Int → Option R)) : Option R := wq130 k  x0 x1 K
theorem wqwi (k : Nat) {R : Type} (x0 : (List Int)) (x1 : Int) (K : (Int → Option R)) : fnW (wq10l k) k Tryz.f127 wq10k [.v (.sl (.int .u8)) x0, .v (.sl (.int .u8)) [x1]] [] (wql2 K) = wqdp k x0 x1 K := by
  kernel_rfl
def wqd0 (k : Nat) {R : Type} : List PV → List (Nm × HObj) → (Out → Option R) → Option R
  | [.v (.sl (.int .u8)) x0, .v (.sl (.int .u8)) [x1]], [], K => wqdp k x0 x1 (fun y0 => K (.ret [.v (.int .i64) y0] []))
  | _, _, _ => none
theorem wq131 (k : Nat) : DOK Tryz.prog 127 (wqd0 k) := by
  intro ps hp R K r h
  have h : wqd0 k ps hp K = some r := h
  unfold wqd0 at h
  split at h
  · rw [← wqwi] at h
    exact fnW_ok ⟨tyT_ok, (wqi (wqud k) CTab.nil_ok), fun _ _ => rfl⟩ mixed (by kernel_rfl) (by kernel_rfl) h fun o ho => by unfold wql2 at ho; split at ho <;> first | exact ho | cases ho
  · cases h
end Go.Proofs.YtdfhgimidmfgfaaGreatDoor.Pvm
end


noncomputable section
namespace Go.Proofs.YtdfhgimidmfgfaaGreatDoor.Pvm
open Go Go.Proofs
def wqss : List LS := [.sl (.int .u8), .sl (.int .u8), .any, .any]
def wq7w {R : Type} (K : ((List (List Int)) → Option R)) : Out → Option R
  | .ret [.v (.sl (.sl (.int .u8))) y0] [] => K y0
  | _ => none
def wqee : RetSpec := ⟨[.sl (.sl (.int .u8))], [], []⟩
def wqef (k : Nat) : Ctx := ⟨tyT, [(1011, ⟨[(0, .sl (.int .u8)), (1, .sl (.int .u8)), (2, .any), (3, .any), (9, .own 100009 35 (.sl (.int .u8))), (10, .any)], []⟩)], (.add 126 wqy0 (wqcz k) (.add 127 wqy1 (wqd0 k) .nil)), [], [], [], @SH⟩
def wq5f (s0 : (List Int)) (s1 s2 s3 : Int) (s4 : (List (List Int))) (s5 : Int) : St := ⟨mkT [(0, .v (.sl (.int .u8)) s0), (1, .v (.sl (.int .u8)) [s1]), (2, .v kI s2), (3, .v kI s3), (9, .row 100009), (10, .v kI s5)], mkH [(100009, .row 35 (.sl (.int .u8)) s4)]⟩
def wq99 (k : Nat) {R : Type} (I : Nat → St → Option R) (n : Nat) (s : St) (K : ((List (List Int)) → Option R)) : Option R := loopK (wqef k) k Tryz.f95 wqee 1011 [1, 1, 1, 1, 1, 1, 1, 1, 0, 0] I n s (wq7w K)
def wq9a (k : Nat) {R : Type} (E1011 : ((List Int) → Int → Int → Int → (List (List Int)) → Int → Option R)) (s0 : (List Int)) (s1 s2 s3 : Int) (s4 : (List (List Int))) (s5 : Int) (K : ((List (List Int)) → Option R)) : Option R := (cond (decide (s5 < s3)) (wqdp k s0 s1 (fun y10 => (cond (decide (y10 < 0)) (cond (inb s5 (s4.length : Int)) (cond (bnd 0 (@Go.IntKind.wrap Go.IntKind.i64 (s5 + 1)) ((List.set s4 s5.toNat s0).length : Int)) (K (cut (List.set s4 s5.toNat s0) 0 (@Go.IntKind.wrap Go.IntKind.i64 (s5 + 1)))) none) none) (cond ((bnd 0 (@Go.IntKind.wrap Go.IntKind.i64 (y10 + s2)) (@Go.IntKind.wrap Go.IntKind.i64 (y10 + s2))) && (decide ((@Go.IntKind.wrap Go.IntKind.i64 (y10 + s2)) ≤ (s0.length : Int)))) (cond (inb s5 (s4.length : Int)) (cond (bnd (@Go.IntKind.wrap Go.IntKind.i64 (y10 + (([s1]).length : Int))) (s0.length : Int) (s0.length : Int)) (E1011 (cut s0 (@Go.IntKind.wrap Go.IntKind.i64 (y10 + (([s1]).length : Int))) (s0.length : Int)) s1 s2 s3 (List.set s4 s5.toNat (cut s0 0 (@Go.IntKind.wrap Go.IntKind.i64 (y10 + s2)))) (@Go.IntKind.wrap Go.IntKind.i64 (s5 + 1))) none) none) none)))) (cond (inb s5 (s4.length : Int)) (cond (bnd 0 (@Go.IntKind.wrap Go.IntKind.i64 (s5 + 1)) ((List.set s4 s5.toNat s0).length : Int)) (K (cut (List.set s4 s5.toNat s0) 0 (@Go.IntKind.wrap Go.IntKind.i64 (s5 + 1)))) none) none))
theorem wqjk (k : Nat) {R : Type} (I : Nat → St → Option R) (s0 : (List Int)) (s1 s2 s3 : Int) (s4 : (List (List Int))) (s5 : Int) (K : ((List (List Int)) → Option R)) : bodyK (wqef k) k Tryz.f95 wqee [1, 1, 1, 1, 1, 1, 1, 1, 0, 0, 0] I (wq5f s0 s1 s2 s3 s4 s5) (wq7w K) = wq9a k (fun s0 s1 s2 s3 s4 s5 => I 1011 (wq5f s0 s1 s2 s3 s4 s5)) s0 s1 s2 s3 s4 s5 K := by kernel_rfl
def wqgq (k : Nat) {R : Type} (E1011 : ((List Int) → Int → Int → Int → (List (List Int)) → Int → Option R)) (x0 : (List Int)) (x1 x2 x3 : Int) (K : ((List (List Int)) → Option R)) : Option R := (cond (x3 == 0) (K []) (cond (decide (x3 < 0)) (wqdo k x0 x1 (fun y8 => (cond (mkB (cond false (@ite (@Kd.T kI) ((@Go.IntKind.wrap Go.IntKind.i64 ((x0.length : Int) + 1)) > (@Go.IntKind.wrap Go.IntKind.i64 (y8 + 1))) (@Int.decLt (@Go.IntKind.wrap Go.IntKind.i64 (y8 + 1)) (@Go.IntKind.wrap Go.IntKind.i64 ((x0.length : Int) + 1))) (@Go.IntKind.wrap Go.IntKind.i64 ((x0.length : Int) + 1)) (@Go.IntKind.wrap Go.IntKind.i64 (y8 + 1))) (@ite (@Kd.T kI) ((@Go.IntKind.wrap Go.IntKind.i64 ((x0.length : Int) + 1)) < (@Go.IntKind.wrap Go.IntKind.i64 (y8 + 1))) (@Int.decLt (@Go.IntKind.wrap Go.IntKind.i64 ((x0.length : Int) + 1)) (@Go.IntKind.wrap Go.IntKind.i64 (y8 + 1))) (@Go.IntKind.wrap Go.IntKind.i64 ((x0.length : Int) + 1)) (@Go.IntKind.wrap Go.IntKind.i64 (y8 + 1)))) (cond false (@ite (@Kd.T kI) ((@Go.IntKind.wrap Go.IntKind.i64 ((x0.length : Int) + 1)) > (@Go.IntKind.wrap Go.IntKind.i64 (y8 + 1))) (@Int.decLt (@Go.IntKind.wrap Go.IntKind.i64 (y8 + 1)) (@Go.IntKind.wrap Go.IntKind.i64 ((x0.length : Int) + 1))) (@Go.IntKind.wrap Go.IntKind.i64 ((x0.length : Int) + 1)) (@Go.IntKind.wrap Go.IntKind.i64 (y8 + 1))) (@ite (@Kd.T kI) ((@Go.IntKind.wrap Go.IntKind.i64 ((x0.length : Int) + 1)) < (@Go.IntKind.wrap Go.IntKind.i64 (y8 + 1))) (@Int.decLt (@Go.IntKind.wrap Go.IntKind.i64 ((x0.length : Int) + 1)) (@Go.IntKind.wrap Go.IntKind.i64 (y8 + 1))) (@Go.IntKind.wrap Go.IntKind.i64 ((x0.length : Int) + 1)) (@Go.IntKind.wrap Go.IntKind.i64 (y8 + 1)))) 24) (E1011 x0 x1 x2 (@Go.IntKind.wrap Go.IntKind.i64 ((cond false (@ite (@Kd.T kI) ((@Go.IntKind.wrap Go.IntKind.i64 ((x0.length : Int) + 1)) > (@Go.IntKind.wrap Go.IntKind.i64 (y8 + 1))) (@Int.decLt (@Go.IntKind.wrap Go.IntKind.i64 (y8 + 1)) (@Go.IntKind.wrap Go.IntKind.i64 ((x0.length : Int) + 1))) (@Go.IntKind.wrap Go.IntKind.i64 ((x0.length : Int) + 1)) (@Go.IntKind.wrap Go.IntKind.i64 (y8 + 1))) (@ite (@Kd.T kI) ((@Go.IntKind.wrap Go.IntKind.i64 ((x0.length : Int) + 1)) < (@Go.IntKind.wrap Go.IntKind.i64 (y8 + 1))) (@Int.decLt (@Go.IntKind.wrap Go.IntKind.i64 ((x0.length : Int) + 1)) (@Go.IntKind.wrap Go.IntKind.i64 (y8 + 1))) (@Go.IntKind.wrap Go.IntKind.i64 ((x0.length : Int) + 1)) (@Go.IntKind.wrap Go.IntKind.i64 (y8 + 1)))) - 1)) (zeros (@Kd.sl (@Kd.int Go.IntKind.u8)) (cond false (@ite (@Kd.T kI) ((@Go.IntKind.wrap Go.IntKind.i64 ((x0.length : Int) + 1)) > (@Go.IntKind.wrap Go.IntKind.i64 (y8 + 1))) (@Int.decLt (@Go.IntKind.wrap Go.IntKind.i64 (y8 + 1)) (@Go.IntKind.wrap Go.IntKind.i64 ((x0.length : Int) + 1))) (@Go.IntKind.wrap Go.IntKind.i64 ((x0.length : Int) + 1)) (@Go.IntKind.wrap Go.IntKind.i64 (y8 + 1))) (@ite (@Kd.T kI) ((@Go.IntKind.wrap Go.IntKind.i64 ((x0.length : Int) + 1)) < (@Go.IntKind.wrap Go.IntKind.i64 (y8 + 1))) (@Int.decLt (@Go.IntKind.wrap Go.IntKind.i64 ((x0.length : Int) + 1)) (@Go.IntKind.wrap Go.IntKind.i64 (y8 + 1))) (@Go.IntKind.wrap Go.IntKind.i64 ((x0.length : Int) + 1)) (@Go.IntKind.wrap Go.IntKind.i64 (y8 + 1))))) 0) none))) (cond (mkB (cond false (@ite (@Kd.T kI) ((@Go.IntKind.wrap Go.IntKind.i64 ((x0.length : Int) + 1)) > x3) (@Int.decLt x3 (@Go.IntKind.wrap Go.IntKind.i64 ((x0.length : Int) + 1))) (@Go.IntKind.wrap Go.IntKind.i64 ((x0.length : Int) + 1)) x3) (@ite (@Kd.T kI) ((@Go.IntKind.wrap Go.IntKind.i64 ((x0.length : Int) + 1)) < x3) (@Int.decLt (@Go.IntKind.wrap Go.IntKind.i64 ((x0.length : Int) + 1)) x3) (@Go.IntKind.wrap Go.IntKind.i64 ((x0.length : Int) + 1)) x3)) (cond false (@ite (@Kd.T kI) ((@Go.IntKind.wrap Go.IntKind.i64 ((x0.length : Int) + 1)) > x3) (@Int.decLt x3 (@Go.IntKind.wrap Go.IntKind.i64 ((x0.length : Int) + 1))) (@Go.IntKind.wrap Go.IntKind.i64 ((x0.length : Int) + 1)) x3) (@ite (@Kd.T kI) ((@Go.IntKind.wrap Go.IntKind.i64 ((x0.length : Int) + 1)) < x3) (@Int.decLt (@Go.IntKind.wrap Go.IntKind.i64 ((x0.length : Int) + 1)) x3) (@Go.IntKind.wrap Go.IntKind.i64 ((x0.length : Int) + 1)) x3)) 24) (E1011 x0 x1 x2 (@Go.IntKind.wrap Go.IntKind.i64 ((cond false (@ite (@Kd.T kI) ((@Go.IntKind.wrap Go.IntKind.i64 ((x0.length : Int) + 1)) > x3) (@Int.decLt x3 (@Go.IntKind.wrap Go.IntKind.i64 ((x0.length : Int) + 1))) (@Go.IntKind.wrap Go.IntKind.i64 ((x0.length : Int) + 1)) x3) (@ite (@Kd.T kI) ((@Go.IntKind.wrap Go.IntKind.i64 ((x0.length : Int) + 1)) < x3) (@Int.decLt (@Go.IntKind.wrap Go.IntKind.i64 ((x0.length : Int) + 1)) x3) (@Go.IntKind.wrap Go.IntKind.i64 ((x0.length : Int) + 1)) x3)) - 1)) (zeros (@Kd.sl (@Kd.int Go.IntKind.u8)) (cond false (@ite (@Kd.T kI) ((@Go.IntKind.wrap Go.IntKind.i64 ((x0.length : Int) + 1)) > x3) (@Int.decLt x3 (@Go.IntKind.wrap Go.IntKind.i64 ((x0.length : Int) + 1))) (@Go.IntKind.wrap Go.IntKind.i64 ((x0.length : Int) + 1)) x3) (@ite (@Kd.T kI) ((@Go.IntKind.wrap Go.IntKind.i64 ((x0.length : Int) + 1)) < x3) (@Int.decLt (@Go.IntKind.wrap Go.IntKind.i64 ((x0.length : Int) + 1)) x3) (@Go.IntKind.wrap Go.IntKind.i64 ((x0.length : Int) + 1)) x3))) 0) none)))
def wq41 (k : Nat) {R : Type}  : Nat → (List Int) → Int → Int → Int → (List (List Int)) → Int → ((List (List Int)) → Option R) → Option R
  | 0, _, _, _, _, _, _, _ => none
  | n + 1, s0, s1, s2, s3, s4, s5, K => wq9a k (fun s0 s1 s2 s3 s4 s5 => wq41 k  n s0 s1 s2 s3 s4 s5 K) s0 s1 s2 s3 s4 s5 K
theorem wqjl (k : Nat) {R : Type} (I : Nat → St → Option R) (K : ((List (List Int)) → Option R)) (n : Nat) : ∀ (s0 : (List Int)) (s1 s2 s3 : Int) (s4 : (List (List Int))) (s5 : Int), wq99 k I n (wq5f s0 s1 s2 s3 s4 s5) K = wq41 k  n s0 s1 s2 s3 s4 s5 K := by
  induction n with
  | zero => intros; rfl
  | succ n ih =>
    intro s0 s1 s2 s3 s4 s5
    refine (?_ : _ = _).trans ((wqjk k (upI 1011 (fun s => wq99 k I n s K) I) s0 s1 s2 s3 s4 s5 K).trans ?_)
    · rfl
    · simp only [wq1h, ih] <;> rfl
def wqat (k : Nat) {R : Type} (x0 : (List Int)) (x1 x2 x3 : Int) (K : ((List (List Int)) → Option R)) : Option R := wqgq k (fun s0 s1 s2 s3 s4 s5 => wq41 k k s0 s1 s2 s3 s4 s5 K) x0 x1 x2 x3 K
theorem wqqj (k : Nat) {R : Type} (x0 : (List Int)) (x1 x2 x3 : Int) (K : ((List (List Int)) → Option R)) : fnW (wqef k) k Tryz.f95 wqee [.v (.sl (.int .u8)) x0, .v (.sl (.int .u8)) [x1], .v kI x2, .v kI x3] [] (wq7w K) = wqat k x0 x1 x2 x3 K := by
  refine Eq.trans (b := wqgq k (fun s0 s1 s2 s3 s4 s5 => wq99 k (fun _ _ => none) k (wq5f s0 s1 s2 s3 s4 s5) K) x0 x1 x2 x3 K) (by kernel_rfl) ?_
  simp only [wqjl] <;> rfl
def wq8n (k : Nat) {R : Type} : List PV → List (Nm × HObj) → (Out → Option R) → Option R
  | [.v (.sl (.int .u8)) x0, .v (.sl (.int .u8)) [x1], .v (.int .i64) x2, .v (.int .i64) x3], [], K => wqat k x0 x1 x2 x3 (fun y0 => K (.ret [.v (.sl (.sl (.int .u8))) y0] []))
  | _, _, _ => none
theorem wqwj (k : Nat) : DOK Tryz.prog 95 (wq8n k) := by
  intro ps hp R K r h
  have h : wq8n k ps hp K = some r := h
  unfold wq8n at h
  split at h
  · rw [← wqqj] at h
    exact fnW_ok ⟨tyT_ok, (wqi (wq12z k) (wqi (wq131 k) CTab.nil_ok)), fun _ _ => rfl⟩ mixed (by kernel_rfl) (by kernel_rfl) h fun o ho => by unfold wq7w at ho; split at ho <;> first | exact ho | cases ho
  · cases h
end Go.Proofs.YtdfhgimidmfgfaaGreatDoor.Pvm
end


noncomputable section
namespace Go.Proofs.YtdfhgimidmfgfaaGreatDoor.Pvm
open Go Go.Proofs
def wqy2 : List LS := [.sl (.int .u8), .sl (.int .u8)]
def wql3 {R : Type} (K : ((List (List Int)) → Option R)) : Out → Option R
  | .ret [.v (.sl (.sl (.int .u8))) y0] [] => K y0
  | _ => none
def wq10m : RetSpec := ⟨[.sl (.sl (.int .u8))], [], []⟩
def wq10n (k : Nat) : Ctx := ⟨tyT, [], (.add 95 wqss (wq8n k) .nil), [], [], [], @SH⟩
def wqtk (k : Nat) {R : Type}  (x0 : (List Int)) (x1 : Int) (K : ((List (List Int)) → Option R)) : Option R := (wqat k x0 x1 0 (@Neg.neg Int @Int.instNegInt (1 : Int)) (fun y5 => (K y5)))
def wqdq (k : Nat) {R : Type} (x0 : (List Int)) (x1 : Int) (K : ((List (List Int)) → Option R)) : Option R := wqtk k  x0 x1 K
theorem wqwk (k : Nat) {R : Type} (x0 : (List Int)) (x1 : Int) (K : ((List (List Int)) → Option R)) : fnW (wq10n k) k Tryz.f62 wq10m [.v (.sl (.int .u8)) x0, .v (.sl (.int .u8)) [x1]] [] (wql3 K) = wqdq k x0 x1 K := by
  kernel_rfl
def wqd1 (k : Nat) {R : Type} : List PV → List (Nm × HObj) → (Out → Option R) → Option R
  | [.v (.sl (.int .u8)) x0, .v (.sl (.int .u8)) [x1]], [], K => wqdq k x0 x1 (fun y0 => K (.ret [.v (.sl (.sl (.int .u8))) y0] []))
  | _, _, _ => none
theorem wq132 (k : Nat) : DOK Tryz.prog 62 (wqd1 k) := by
  intro ps hp R K r h
  have h : wqd1 k ps hp K = some r := h
  unfold wqd1 at h
  split at h
  · rw [← wqwk] at h
    exact fnW_ok ⟨tyT_ok, (wqi (wqwj k) CTab.nil_ok), fun _ _ => rfl⟩ mixed (by kernel_rfl) (by kernel_rfl) h fun o ho => by unfold wql3 at ho; split at ho <;> first | exact ho | cases ho
  · cases h
end Go.Proofs.YtdfhgimidmfgfaaGreatDoor.Pvm
end


noncomputable section
namespace Go.Proofs.YtdfhgimidmfgfaaGreatDoor.Pvm
open Go Go.Proofs
def wqy3 : List LS := [.any, .any]
def wqau {R : Type} (K : (Int → Bool → Option R)) : Out → Option R
  | .ret [.v (.int .i64) y0, .v .bool y1] [] => K y0 y1
  | _ => none
def wqjm : RetSpec := ⟨[.any, .any], [], []⟩
def wqjn (k : Nat) : Ctx := ⟨tyT, [(1003, ⟨[(0, .any), (6, .any), (7, .any)], []⟩)], .nil, [], [], [], @SH⟩
def wq7x (s0 : (List UInt8)) (s1 s2 : Int) : St := ⟨mkT [(0, .v .str s0), (6, .v (.int .u8) s1), (7, .v kI s2)], mkH []⟩
def wqc3 (k : Nat) {R : Type} (I : Nat → St → Option R) (n : Nat) (s : St) (K : (Int → Bool → Option R)) : Option R := loopK (wqjn k) k Tryz.f101 wqjm 1003 [1, 1, 0, 1, 0] I n s (wqau K)
def wqc4 (k : Nat) {R : Type} (E1003 : ((List UInt8) → Int → Int → Option R)) (s0 : (List UInt8)) (s1 s2 : Int) (K : (Int → Bool → Option R)) : Option R := (cond (decide (s2 < (s0.length : Int))) (cond ((!((s1 == 34) == true)) || (inb s2 (s0.length : Int))) (cond (cond (s1 == 34) (((s0.getD s2.toNat 0).toNat : Int) == 92) false) (E1003 s0 s1 (@Go.IntKind.wrap Go.IntKind.i64 ((@Go.IntKind.wrap Go.IntKind.i64 (s2 + 1)) + 1))) (cond (inb s2 (s0.length : Int)) (cond (((s0.getD s2.toNat 0).toNat : Int) != s1) (E1003 s0 s1 (@Go.IntKind.wrap Go.IntKind.i64 (s2 + 1))) (cond ((!((cond (s1 == 39) (decide ((@Go.IntKind.wrap Go.IntKind.i64 (s2 + 1)) < (s0.length : Int))) false) == true)) || (inb (@Go.IntKind.wrap Go.IntKind.i64 (s2 + 1)) (s0.length : Int))) (cond (cond (cond (s1 == 39) (decide ((@Go.IntKind.wrap Go.IntKind.i64 (s2 + 1)) < (s0.length : Int))) false) (((s0.getD (@Go.IntKind.wrap Go.IntKind.i64 (s2 + 1)).toNat 0).toNat : Int) == s1) false) (E1003 s0 s1 (@Go.IntKind.wrap Go.IntKind.i64 ((@Go.IntKind.wrap Go.IntKind.i64 (s2 + 1)) + 1))) (K s2 true)) none)) none)) none) (K 0 false))
theorem wqmp (k : Nat) {R : Type} (I : Nat → St → Option R) (s0 : (List UInt8)) (s1 s2 : Int) (K : (Int → Bool → Option R)) : bodyK (wqjn k) k Tryz.f101 wqjm [1, 1, 0, 1, 0, 0] I (wq7x s0 s1 s2) (wqau K) = wqc4 k (fun s0 s1 s2 => I 1003 (wq7x s0 s1 s2)) s0 s1 s2 K := by kernel_rfl
def wql4 (k : Nat) {R : Type} (E1003 : ((List UInt8) → Int → Int → Option R)) (x0 : (List UInt8)) (x1 : Int) (K : (Int → Bool → Option R)) : Option R := (cond (inb x1 (x0.length : Int)) (E1003 x0 ((x0.getD x1.toNat 0).toNat : Int) (@Go.IntKind.wrap Go.IntKind.i64 (x1 + 1))) none)
def wq67 (k : Nat) {R : Type}  : Nat → (List UInt8) → Int → Int → (Int → Bool → Option R) → Option R
  | 0, _, _, _, _ => none
  | n + 1, s0, s1, s2, K => wqc4 k (fun s0 s1 s2 => wq67 k  n s0 s1 s2 K) s0 s1 s2 K
theorem wqmq (k : Nat) {R : Type} (I : Nat → St → Option R) (K : (Int → Bool → Option R)) (n : Nat) : ∀ (s0 : (List UInt8)) (s1 s2 : Int), wqc3 k I n (wq7x s0 s1 s2) K = wq67 k  n s0 s1 s2 K := by
  induction n with
  | zero => intros; rfl
  | succ n ih =>
    intro s0 s1 s2
    refine (?_ : _ = _).trans ((wqmp k (upI 1003 (fun s => wqc3 k I n s K) I) s0 s1 s2 K).trans ?_)
    · rfl
    · simp only [wq1h, ih] <;> rfl
def wqac (k : Nat) {R : Type} (x0 : (List UInt8)) (x1 : Int) (K : (Int → Bool → Option R)) : Option R := wql4 k (fun s0 s1 s2 => wq67 k k s0 s1 s2 K) x0 x1 K
theorem wqwl (k : Nat) {R : Type} (x0 : (List UInt8)) (x1 : Int) (K : (Int → Bool → Option R)) : fnW (wqjn k) k Tryz.f101 wqjm [.v .str x0, .v kI x1] [] (wqau K) = wqac k x0 x1 K := by
  refine Eq.trans (b := wql4 k (fun s0 s1 s2 => wqc3 k (fun _ _ => none) k (wq7x s0 s1 s2) K) x0 x1 K) (by kernel_rfl) ?_
  simp only [wqmq] <;> rfl
def wqd2 (k : Nat) {R : Type} : List PV → List (Nm × HObj) → (Out → Option R) → Option R
  | [.v .str x0, .v (.int .i64) x1], [], K => wqac k x0 x1 (fun y0 y1 => K (.ret [.v (.int .i64) y0, .v .bool y1] []))
  | _, _, _ => none
theorem wq133 (k : Nat) : DOK Tryz.prog 101 (wqd2 k) := by
  intro ps hp R K r h
  have h : wqd2 k ps hp K = some r := h
  unfold wqd2 at h
  split at h
  · rw [← wqwl] at h
    exact fnW_ok ⟨tyT_ok, CTab.nil_ok, fun _ _ => rfl⟩ mixed (by kernel_rfl) (by kernel_rfl) h fun o ho => by unfold wqau at ho; split at ho <;> first | exact ho | cases ho
  · cases h
end Go.Proofs.YtdfhgimidmfgfaaGreatDoor.Pvm
end


noncomputable section
namespace Go.Proofs.YtdfhgimidmfgfaaGreatDoor.Pvm
open Go Go.Proofs
def wqiq : List LS := [.any, .any]
def wq3a {R : Type} (K : ((List UInt8) → Option R)) : Out → Option R
  | .ret [.v .str y0] [] => K y0
  | _ => none
def wq70 : RetSpec := ⟨[.any], [], []⟩
def wq71 (k : Nat) : Ctx := ⟨tyT, [(1001, ⟨[(0, .any), (1, .any)], []⟩)], .nil, [], [], [], @SH⟩
def wq2n (s0 : (List UInt8)) (s1 : Int) : St := ⟨mkT [(0, .v .str s0), (1, .v (.int .u8) s1)], mkH []⟩
def wq4n (k : Nat) {R : Type} (I : Nat → St → Option R) (n : Nat) (s : St) (K : ((List UInt8) → Option R)) : Option R := loopK (wq71 k) k Tryz.f131 wq70 1001 [1, 0, 0] I n s (wq3a K)
def wq4o (k : Nat) {R : Type} (E1001 : ((List UInt8) → Int → Option R)) (s0 : (List UInt8)) (s1 : Int) (K : ((List UInt8) → Option R)) : Option R := (cond ((!((decide ((s0.length : Int) > 0)) == true)) || (inb (@Go.IntKind.wrap Go.IntKind.i64 ((s0.length : Int) - 1)) (s0.length : Int))) (cond (cond (decide ((s0.length : Int) > 0)) (((s0.getD (@Go.IntKind.wrap Go.IntKind.i64 ((s0.length : Int) - 1)).toNat 0).toNat : Int) == s1) false) (cond (bnd 0 (@Go.IntKind.wrap Go.IntKind.i64 ((s0.length : Int) - 1)) (s0.length : Int)) (E1001 (cut s0 0 (@Go.IntKind.wrap Go.IntKind.i64 ((s0.length : Int) - 1))) s1) none) (K s0)) none)
theorem wqdr (k : Nat) {R : Type} (I : Nat → St → Option R) (s0 : (List UInt8)) (s1 : Int) (K : ((List UInt8) → Option R)) : bodyK (wq71 k) k Tryz.f131 wq70 [1, 0, 0, 0] I (wq2n s0 s1) (wq3a K) = wq4o k (fun s0 s1 => I 1001 (wq2n s0 s1)) s0 s1 K := by kernel_rfl
def wq7n (k : Nat) {R : Type} (E1001 : ((List UInt8) → Int → Option R)) (x0 : (List UInt8)) (x1 : Int) (K : ((List UInt8) → Option R)) : Option R := (E1001 x0 x1)
def wq1x (k : Nat) {R : Type}  : Nat → (List UInt8) → Int → ((List UInt8) → Option R) → Option R
  | 0, _, _, _ => none
  | n + 1, s0, s1, K => wq4o k (fun s0 s1 => wq1x k  n s0 s1 K) s0 s1 K
theorem wqds (k : Nat) {R : Type} (I : Nat → St → Option R) (K : ((List UInt8) → Option R)) (n : Nat) : ∀ (s0 : (List UInt8)) (s1 : Int), wq4n k I n (wq2n s0 s1) K = wq1x k  n s0 s1 K := by
  induction n with
  | zero => intros; rfl
  | succ n ih =>
    intro s0 s1
    refine (?_ : _ = _).trans ((wqdr k (upI 1001 (fun s => wq4n k I n s K) I) s0 s1 K).trans ?_)
    · rfl
    · simp only [wq1h, ih] <;> rfl
def wq4v (k : Nat) {R : Type} (x0 : (List UInt8)) (x1 : Int) (K : ((List UInt8) → Option R)) : Option R := wq7n k (fun s0 s1 => wq1x k k s0 s1 K) x0 x1 K
theorem wqi7 (k : Nat) {R : Type} (x0 : (List UInt8)) (x1 : Int) (K : ((List UInt8) → Option R)) : fnW (wq71 k) k Tryz.f131 wq70 [.v .str x0, .v (.int .u8) x1] [] (wq3a K) = wq4v k x0 x1 K := by
  refine Eq.trans (b := wq7n k (fun s0 s1 => wq4n k (fun _ _ => none) k (wq2n s0 s1) K) x0 x1 K) (by kernel_rfl) ?_
  simp only [wqds] <;> rfl
def wq3m (k : Nat) {R : Type} : List PV → List (Nm × HObj) → (Out → Option R) → Option R
  | [.v .str x0, .v (.int .u8) x1], [], K => wq4v k x0 x1 (fun y0 => K (.ret [.v .str y0] []))
  | _, _, _ => none
theorem wqkh (k : Nat) : DOK Tryz.prog 131 (wq3m k) := by
  intro ps hp R K r h
  have h : wq3m k ps hp K = some r := h
  unfold wq3m at h
  split at h
  · rw [← wqi7] at h
    exact fnW_ok ⟨tyT_ok, CTab.nil_ok, fun _ _ => rfl⟩ mixed (by kernel_rfl) (by kernel_rfl) h fun o ho => by unfold wq3a at ho; split at ho <;> first | exact ho | cases ho
  · cases h
end Go.Proofs.YtdfhgimidmfgfaaGreatDoor.Pvm
end


noncomputable section
namespace Go.Proofs.YtdfhgimidmfgfaaGreatDoor.Pvm
open Go Go.Proofs
def wqmr : List LS := [.any, .any]
def wqdt {R : Type} (K : ((List UInt8) → Option R)) : Out → Option R
  | .ret [.v .str y0] [] => K y0
  | _ => none
def wqoc : RetSpec := ⟨[.any], [], []⟩
def wqod (k : Nat) : Ctx := ⟨tyT, [], (.add 131 wqiq (wq3m k) .nil), [], [], [], @SH⟩
def wqhl (k : Nat) {R : Type}  (x0 : (List UInt8)) (x1 : UInt8) (K : ((List UInt8) → Option R)) : Option R := (cond (cond (x0 == []) true ([x1] == [])) (K x0) (cond (cond ((([x1]).length : Int) == 1) (decide (((([x1]).getD (Int.toNat 0) 0).toNat : Int) < 128)) false) (wq4v k x0 ((([x1]).getD (Int.toNat 0) 0).toNat : Int) (fun y5 => (K y5))) none))
def wq3n (k : Nat) {R : Type} (x0 : (List UInt8)) (x1 : UInt8) (K : ((List UInt8) → Option R)) : Option R := wqhl k  x0 x1 K
theorem wql5 (k : Nat) {R : Type} (x0 : (List UInt8)) (x1 : UInt8) (K : ((List UInt8) → Option R)) : fnW (wqod k) k Tryz.f102 wqoc [.v .str x0, .v .str [x1]] [] (wqdt K) = wq3n k x0 x1 K := by
  kernel_rfl
def wq61 (k : Nat) {R : Type} : List PV → List (Nm × HObj) → (Out → Option R) → Option R
  | [.v .str x0, .v .str [x1]], [], K => wq3n k x0 x1 (fun y0 => K (.ret [.v .str y0] []))
  | _, _, _ => none
theorem wqqk (k : Nat) : DOK Tryz.prog 102 (wq61 k) := by
  intro ps hp R K r h
  have h : wq61 k ps hp K = some r := h
  unfold wq61 at h
  split at h
  · rw [← wql5] at h
    exact fnW_ok ⟨tyT_ok, (wqi (wqkh k) CTab.nil_ok), fun _ _ => rfl⟩ mixed (by kernel_rfl) (by kernel_rfl) h fun o ho => by unfold wqdt at ho; split at ho <;> first | exact ho | cases ho
  · cases h
end Go.Proofs.YtdfhgimidmfgfaaGreatDoor.Pvm
end


noncomputable section
namespace Go.Proofs.YtdfhgimidmfgfaaGreatDoor.Pvm
open Go Go.Proofs
def wqql : List LS := [.any]
def wqd3 {R : Type} (K : ((List UInt8) → Bool → Option R)) : Out → Option R
  | .ret [.v .str y0, .v .bool y1] [] => K y0 y1
  | _ => none
def wql6 : RetSpec := ⟨[.any, .any], [], []⟩
def wql7 (k : Nat) : Ctx := ⟨tyT, [(1003, ⟨[(0, .any), (4, .any), (5, .any)], []⟩)], (.add 101 wqy3 (wqd2 k) (.add 102 wqmr (wq61 k) .nil)), [], [], [], @SH⟩
def wq8o (s0 : (List UInt8)) (s1 s2 : Int) : St := ⟨mkT [(0, .v .str s0), (4, .v kI s1), (5, .v kI s2)], mkH []⟩
def wqeg (k : Nat) {R : Type} (I : Nat → St → Option R) (n : Nat) (s : St) (K : ((List UInt8) → Bool → Option R)) : Option R := loopK (wql7 k) k Tryz.f66 wql6 1003 [1, 0, 1, 1, 0, 1, 0] I n s (wqd3 K)
def wqeh (k : Nat) {R : Type} (E1003 : ((List UInt8) → Int → Int → Option R)) (s0 : (List UInt8)) (s1 s2 : Int) (K : ((List UInt8) → Bool → Option R)) : Option R := (cond (decide (s2 < (s0.length : Int))) (cond ((!((decide (s2 > 0)) == true)) || (inb (@Go.IntKind.wrap Go.IntKind.i64 (s2 - 1)) (s0.length : Int))) (cond (cond (decide (s2 > 0)) (((s0.getD (@Go.IntKind.wrap Go.IntKind.i64 (s2 - 1)).toNat 0).toNat : Int) != 32) false) (E1003 s0 s1 (@Go.IntKind.wrap Go.IntKind.i64 (s2 + 1))) (cond (inb s2 (s0.length : Int)) (cond (((s0.getD s2.toNat 0).toNat : Int) == 35) (cond (bnd 0 s2 (s0.length : Int)) (wq3n k (cut s0 0 s2) 32 (fun y7 => (K y7 true))) none) (cond (((s0.getD s2.toNat 0).toNat : Int) == 39) (wqac k s0 s2 (fun y7 y8 => (cond (!y8) (K [] false) (E1003 s0 s1 (@Go.IntKind.wrap Go.IntKind.i64 (y7 + 1)))))) (cond (((s0.getD s2.toNat 0).toNat : Int) == 34) (wqac k s0 s2 (fun y7 y8 => (cond (!y8) (K [] false) (E1003 s0 s1 (@Go.IntKind.wrap Go.IntKind.i64 (y7 + 1)))))) (E1003 s0 s1 (@Go.IntKind.wrap Go.IntKind.i64 (s2 + 1)))))) none)) none) (cond (bnd 0 s1 (s0.length : Int)) (wq3n k (cut s0 0 s1) 32 (fun y7 => (K y7 true))) none))
theorem wqoe (k : Nat) {R : Type} (I : Nat → St → Option R) (s0 : (List UInt8)) (s1 s2 : Int) (K : ((List UInt8) → Bool → Option R)) : bodyK (wql7 k) k Tryz.f66 wql6 [1, 0, 1, 1, 0, 1, 0, 0] I (wq8o s0 s1 s2) (wqd3 K) = wqeh k (fun s0 s1 s2 => I 1003 (wq8o s0 s1 s2)) s0 s1 s2 K := by kernel_rfl
def wqof (k : Nat) {R : Type} (E1003 : ((List UInt8) → Int → Int → Option R)) (x0 : (List UInt8)) (K : ((List UInt8) → Bool → Option R)) : Option R := (E1003 x0 (x0.length : Int) 0)
def wq2g (k : Nat) {R : Type}  : Nat → (List UInt8) → Int → Int → ((List UInt8) → Bool → Option R) → Option R
  | 0, _, _, _, _ => none
  | n + 1, s0, s1, s2, K => wqeh k (fun s0 s1 s2 => wq2g k  n s0 s1 s2 K) s0 s1 s2 K
theorem wqog (k : Nat) {R : Type} (I : Nat → St → Option R) (K : ((List UInt8) → Bool → Option R)) (n : Nat) : ∀ (s0 : (List UInt8)) (s1 s2 : Int), wqeg k I n (wq8o s0 s1 s2) K = wq2g k  n s0 s1 s2 K := by
  induction n with
  | zero => intros; rfl
  | succ n ih =>
    intro s0 s1 s2
    refine (?_ : _ = _).trans ((wqoe k (upI 1003 (fun s => wqeg k I n s K) I) s0 s1 s2 K).trans ?_)
    · rfl
    · simp only [wq1h, ih] <;> rfl
def wqc5 (k : Nat) {R : Type} (x0 : (List UInt8)) (K : ((List UInt8) → Bool → Option R)) : Option R := wqof k (fun s0 s1 s2 => wq2g k k s0 s1 s2 K) x0 K
theorem wqy4 (k : Nat) {R : Type} (x0 : (List UInt8)) (K : ((List UInt8) → Bool → Option R)) : fnW (wql7 k) k Tryz.f66 wql6 [.v .str x0] [] (wqd3 K) = wqc5 k x0 K := by
  refine Eq.trans (b := wqof k (fun s0 s1 s2 => wqeg k (fun _ _ => none) k (wq8o s0 s1 s2) K) x0 K) (by kernel_rfl) ?_
  simp only [wqog] <;> rfl
def wqav (k : Nat) {R : Type} : List PV → List (Nm × HObj) → (Out → Option R) → Option R
  | [.v .str x0], [], K => wqc5 k x0 (fun y0 y1 => K (.ret [.v .str y0, .v .bool y1] []))
  | _, _, _ => none
theorem wqwm (k : Nat) : DOK Tryz.prog 66 (wqav k) := by
  intro ps hp R K r h
  have h : wqav k ps hp K = some r := h
  unfold wqav at h
  split at h
  · rw [← wqy4] at h
    exact fnW_ok ⟨tyT_ok, (wqi (wq133 k) (wqi (wqqk k) CTab.nil_ok)), fun _ _ => rfl⟩ mixed (by kernel_rfl) (by kernel_rfl) h fun o ho => by unfold wqd3 at ho; split at ho <;> first | exact ho | cases ho
  · cases h
end Go.Proofs.YtdfhgimidmfgfaaGreatDoor.Pvm
end


noncomputable section
namespace Go.Proofs.YtdfhgimidmfgfaaGreatDoor.Pvm
open Go Go.Proofs
def wq15n : List LS := [.any]
def wqtl {R : Type} (K : (Bool → Option R)) : Out → Option R
  | .ret [.v .bool y0] [] => K y0
  | _ => none
def wq18v : RetSpec := ⟨[.any], [], []⟩
def wq18w (k : Nat) : Ctx := ⟨tyT, [], .nil, [], [], [], @SH⟩
def wq1ax (k : Nat) {R : Type}  (x0 : Int) (K : (Bool → Option R)) : Option R := (K (cond (cond (decide (x0 ≥ 0)) (decide (x0 < 32)) false) true (x0 == 127)))
def wq134 (k : Nat) {R : Type} (x0 : Int) (K : (Bool → Option R)) : Option R := wq1ax k  x0 K
theorem wq135 (k : Nat) {R : Type} (x0 : Int) (K : (Bool → Option R)) : fnW (wq18w k) k Tryz.f64 wq18v [.v (.int .i32) x0] [] (wqtl K) = wq134 k x0 K := by
  kernel_rfl
def wqjo (k : Nat) {R : Type} : List PV → List (Nm × HObj) → (Out → Option R) → Option R
  | [.v (.int .i32) x0], [], K => wq134 k x0 (fun y0 => K (.ret [.v .bool y0] []))
  | _, _, _ => none
theorem wq136 (k : Nat) : DOK Tryz.prog 64 (wqjo k) := by
  intro ps hp R K r h
  have h : wqjo k ps hp K = some r := h
  unfold wqjo at h
  split at h
  · rw [← wq135] at h
    exact fnW_ok ⟨tyT_ok, CTab.nil_ok, fun _ _ => rfl⟩ mixed (by kernel_rfl) (by kernel_rfl) h fun o ho => by unfold wqtl at ho; split at ho <;> first | exact ho | cases ho
  · cases h
end Go.Proofs.YtdfhgimidmfgfaaGreatDoor.Pvm
end


namespace Go.Proofs
open Go.Shelf
def Tryz.laysLaysGwn15_ren : Go.Shelf.Ren := ⟨fun | 15 => 63 | 20 => 96 | n => n, fun | 9 => 9 | 23 => 121 | 3 => 3 | 4 => 4 | 0 => 0 | 21 => 21 | n => n, fun | n => n⟩
theorem Tryz.laysLaysGwn15 : Go.Proofs.LaysGw.n15 Tryz.prog Tryz.laysLaysGwn15_ren := {
  mixed := by kernel_rfl
  f15 := Tryz.func63.trans (congrArg some (by kernel_rfl))
  f20 := Tryz.func96.trans (congrArg some (by kernel_rfl))
  t0 := Tryz.underlying0
  a0 := Tryz.isAgg0
  z0 := Tryz.sizeOf0
  v0 := Tryz.zeroValue0
  i0 := by kernel_rfl
  t3 := Tryz.underlying3
  a3 := Tryz.isAgg3
  z3 := Tryz.sizeOf3
  v3 := Tryz.zeroValue3
  i3 := by kernel_rfl
  t4 := Tryz.underlying4
  a4 := Tryz.isAgg4
  z4 := Tryz.sizeOf4
  v4 := Tryz.zeroValue4
  i4 := by kernel_rfl
  t9 := Tryz.underlying9
  a9 := Tryz.isAgg9
  z9 := Tryz.sizeOf9
  v9 := Tryz.zeroValue9
  i9 := by kernel_rfl
  t21 := Tryz.underlying21
  a21 := Tryz.isAgg21
  z21 := Tryz.sizeOf21
  v21 := Tryz.zeroValue21
  i21 := by kernel_rfl
  t23 := Tryz.underlying121
  a23 := Tryz.isAgg121
  z23 := Tryz.sizeOf121
  v23 := Tryz.zeroValue121
  i23 := by kernel_rfl }
end Go.Proofs
namespace Go.Proofs.YtdfhgimidmfgfaaGreatDoor.Pvm
open Go Go.Proofs Go.RowKit Go.Shelf
def oddP (n : Nat) : Bool := cond (cond (decide ((n : Int) ≥ 0)) (decide ((n : Int) < 32)) false) true ((n : Int) == 127)
def idxOdd (s : List UInt8) : Int := Lib.idxFunc oddP true ⟨s.toArray⟩
def wqms : List LS := [.any, .clo []]
def wqaw (k : Nat) {R : Type} (x0 : List UInt8) (K : Int → Option R) : Option R := K (idxOdd x0)
def wq9b (k : Nat) {R : Type} : List PV → List (Nm × HObj) → (Out → Option R) → Option R
  | [.v .str x0, .clo 64 []], [], K => wqaw k x0 (fun y0 => K (.ret [.v (.int .i64) y0] []))
  | _, _, _ => none
theorem wq1cr (w : World) : PredGrows Tryz.prog 64 #[] oddP w := by
  intro W x hx hb
  exact wq17f (P := Tryz.prog) (f := 64) (fn := Tryz.f64) (c := Tryz.f64.body.getD .skip) (by kernel_rfl) (by kernel_rfl) (by kernel_rfl) (ps := [.v (.int .i32) (x : Int)]) (b := oddP x)
    (wq136 0 _ _ _ lawK (oddP x) rfl) (vals := [.int .i32 (x : Int)]) ⟨_, [], rfl, rfl, rfl⟩
theorem wqqm (k : Nat) {ps : List PV} {hp : List (Nm × HObj)} {R : Type} {K : Out → Option R} {r : R} (h : wq9b k ps hp K = some r) : DoesTo Tryz.prog 63 ps hp fun out => K out = some r := by
  unfold wq9b at h
  split at h
  · next x0 =>
    intro G w vals hr obj dis
    obtain ⟨v0, l0, rfl, h0, v1, l1, rfl, h1, rfl⟩ := hr
    have e0 : v0 = .string ⟨x0.toArray⟩ := by simpa [RV, RD] using h0
    obtain ⟨vs, e1, hvs⟩ := h1
    obtain rfl : vs = [] := hvs
    subst e0 e1
    have c := Any.strings_IndexFunc_grows Tryz.laysLaysGwn15 64 #[] (enters (P := Tryz.prog) (fn := Tryz.f64) (c := Tryz.f64.body.getD .skip) (by kernel_rfl) (by kernel_rfl) (by kernel_rfl)) oddP ⟨x0.toArray⟩ w (wq1cr w)
    show Does _ _ #[_, _] _ _
    unfold Does
    rw [enters (P := Tryz.prog) (fn := Tryz.f63) (c := Tryz.f63.body.getD .skip) (by kernel_rfl) (by kernel_rfl) (by kernel_rfl)]
    refine Calls.mono c fun e w' hh => ?_
    obtain ⟨rfl, b⟩ := hh
    exact ⟨.ret [.v (.int .i64) (idxOdd x0)] [], h, G, ⟨_, rfl, rfl⟩, wq17g b⟩
  · cases h
end Go.Proofs.YtdfhgimidmfgfaaGreatDoor.Pvm
noncomputable section
namespace Go.Proofs.YtdfhgimidmfgfaaGreatDoor.Pvm
open Go Go.Proofs
def wqjp : List LS := [.any, .any]
def wq3o {R : Type} (K : ((List UInt8) → Option R)) : Out → Option R
  | .ret [.v .str y0] [] => K y0
  | _ => none
def wq7o : RetSpec := ⟨[.any], [], []⟩
def wq7p (k : Nat) : Ctx := ⟨tyT, [(1001, ⟨[(0, .any), (1, .any)], []⟩)], .nil, [], [], [], @SH⟩
def wq2v (s0 : (List UInt8)) (s1 : Int) : St := ⟨mkT [(0, .v .str s0), (1, .v (.int .u8) s1)], mkH []⟩
def wq50 (k : Nat) {R : Type} (I : Nat → St → Option R) (n : Nat) (s : St) (K : ((List UInt8) → Option R)) : Option R := loopK (wq7p k) k Tryz.f97 wq7o 1001 [1, 0, 0] I n s (wq3o K)
def wq51 (k : Nat) {R : Type} (E1001 : ((List UInt8) → Int → Option R)) (s0 : (List UInt8)) (s1 : Int) (K : ((List UInt8) → Option R)) : Option R := (cond ((!((decide ((s0.length : Int) > 0)) == true)) || (inb 0 (s0.length : Int))) (cond (cond (decide ((s0.length : Int) > 0)) (((s0.getD (Int.toNat 0) 0).toNat : Int) == s1) false) (cond (bnd 1 (s0.length : Int) (s0.length : Int)) (E1001 (cut s0 1 (s0.length : Int)) s1) none) (K s0)) none)
theorem wqei (k : Nat) {R : Type} (I : Nat → St → Option R) (s0 : (List UInt8)) (s1 : Int) (K : ((List UInt8) → Option R)) : bodyK (wq7p k) k Tryz.f97 wq7o [1, 0, 0, 0] I (wq2v s0 s1) (wq3o K) = wq51 k (fun s0 s1 => I 1001 (wq2v s0 s1)) s0 s1 K := by kernel_rfl
def wq8c (k : Nat) {R : Type} (E1001 : ((List UInt8) → Int → Option R)) (x0 : (List UInt8)) (x1 : Int) (K : ((List UInt8) → Option R)) : Option R := (E1001 x0 x1)
def wq27 (k : Nat) {R : Type}  : Nat → (List UInt8) → Int → ((List UInt8) → Option R) → Option R
  | 0, _, _, _ => none
  | n + 1, s0, s1, K => wq51 k (fun s0 s1 => wq27 k  n s0 s1 K) s0 s1 K
theorem wqej (k : Nat) {R : Type} (I : Nat → St → Option R) (K : ((List UInt8) → Option R)) (n : Nat) : ∀ (s0 : (List UInt8)) (s1 : Int), wq50 k I n (wq2v s0 s1) K = wq27 k  n s0 s1 K := by
  induction n with
  | zero => intros; rfl
  | succ n ih =>
    intro s0 s1
    refine (?_ : _ = _).trans ((wqei k (upI 1001 (fun s => wq50 k I n s K) I) s0 s1 K).trans ?_)
    · rfl
    · simp only [wq1h, ih] <;> rfl
def wq5g (k : Nat) {R : Type} (x0 : (List UInt8)) (x1 : Int) (K : ((List UInt8) → Option R)) : Option R := wq8c k (fun s0 s1 => wq27 k k s0 s1 K) x0 x1 K
theorem wqir (k : Nat) {R : Type} (x0 : (List UInt8)) (x1 : Int) (K : ((List UInt8) → Option R)) : fnW (wq7p k) k Tryz.f97 wq7o [.v .str x0, .v (.int .u8) x1] [] (wq3o K) = wq5g k x0 x1 K := by
  refine Eq.trans (b := wq8c k (fun s0 s1 => wq50 k (fun _ _ => none) k (wq2v s0 s1) K) x0 x1 K) (by kernel_rfl) ?_
  simp only [wqej] <;> rfl
def wq46 (k : Nat) {R : Type} : List PV → List (Nm × HObj) → (Out → Option R) → Option R
  | [.v .str x0, .v (.int .u8) x1], [], K => wq5g k x0 x1 (fun y0 => K (.ret [.v .str y0] []))
  | _, _, _ => none
theorem wql8 (k : Nat) : DOK Tryz.prog 97 (wq46 k) := by
  intro ps hp R K r h
  have h : wq46 k ps hp K = some r := h
  unfold wq46 at h
  split at h
  · rw [← wqir] at h
    exact fnW_ok ⟨tyT_ok, CTab.nil_ok, fun _ _ => rfl⟩ mixed (by kernel_rfl) (by kernel_rfl) h fun o ho => by unfold wq3o at ho; split at ho <;> first | exact ho | cases ho
  · cases h
end Go.Proofs.YtdfhgimidmfgfaaGreatDoor.Pvm
end


noncomputable section
namespace Go.Proofs.YtdfhgimidmfgfaaGreatDoor.Pvm
open Go Go.Proofs
def wqoh : List LS := [.any, .any]
def wqf6 {R : Type} (K : ((List UInt8) → Option R)) : Out → Option R
  | .ret [.v .str y0] [] => K y0
  | _ => none
def wqqn : RetSpec := ⟨[.any], [], []⟩
def wqqo (k : Nat) : Ctx := ⟨tyT, [], (.add 97 wqjp (wq46 k) .nil), [], [], [], @SH⟩
def wqis (k : Nat) {R : Type}  (x0 : (List UInt8)) (x1 : UInt8) (K : ((List UInt8) → Option R)) : Option R := (cond (cond (x0 == []) true ([x1] == [])) (K x0) (cond (cond ((([x1]).length : Int) == 1) (decide (((([x1]).getD (Int.toNat 0) 0).toNat : Int) < 128)) false) (wq5g k x0 ((([x1]).getD (Int.toNat 0) 0).toNat : Int) (fun y5 => (K y5))) none))
def wq68 (k : Nat) {R : Type} (x0 : (List UInt8)) (x1 : UInt8) (K : ((List UInt8) → Option R)) : Option R := wqis k  x0 x1 K
theorem wqmt (k : Nat) {R : Type} (x0 : (List UInt8)) (x1 : UInt8) (K : ((List UInt8) → Option R)) : fnW (wqqo k) k Tryz.f65 wqqn [.v .str x0, .v .str [x1]] [] (wqf6 K) = wq68 k x0 x1 K := by
  kernel_rfl
def wq72 (k : Nat) {R : Type} : List PV → List (Nm × HObj) → (Out → Option R) → Option R
  | [.v .str x0, .v .str [x1]], [], K => wq68 k x0 x1 (fun y0 => K (.ret [.v .str y0] []))
  | _, _, _ => none
theorem wqst (k : Nat) : DOK Tryz.prog 65 (wq72 k) := by
  intro ps hp R K r h
  have h : wq72 k ps hp K = some r := h
  unfold wq72 at h
  split at h
  · rw [← wqmt] at h
    exact fnW_ok ⟨tyT_ok, (wqi (wql8 k) CTab.nil_ok), fun _ _ => rfl⟩ mixed (by kernel_rfl) (by kernel_rfl) h fun o ho => by unfold wqf6 at ho; split at ho <;> first | exact ho | cases ho
  · cases h
end Go.Proofs.YtdfhgimidmfgfaaGreatDoor.Pvm
end


noncomputable section
namespace Go.Proofs.YtdfhgimidmfgfaaGreatDoor.Pvm
open Go Go.Proofs
def wq10o : List LS := [.sl (.int .u8)]
def wqd4 {R : Type} (K : ((List dT109) → Int → Int → Option R)) : Out → Option R
  | .ret [.v (.sl (.pr (.int .i64) (.pr (.int .i64) .str))) y0, .agg [.v (.int .i64) y1, .v (.int .i64) y2]] [] => K y0 y1 y2
  | _ => none
def wql9 : RetSpec := ⟨[.sl (.pr (.int .i64) (.pr (.int .i64) .str)), .ag [.any, .any]], [], []⟩
def wqla (k : Nat) : Ctx := ⟨tyT, [(1005, ⟨[(3, .obj 13 [.any, .any]), (4, .own 100004 110 kdT109), (17, .sl (.sl (.int .u8))), (18, .any), (19, .any)], []⟩)], (.add 62 wqy2 (wqd1 k) (.add 63 wqms (wq9b k) (.add 64 wq15n (wqjo k) (.add 65 wqoh (wq72 k) (.add 66 wqql (wqav k) .nil))))), [], [], [], @SH⟩
def wq8p (s0 s1 : Int) (s2 : (List dT109)) (s3 : (List (List Int))) (s4 s5 : Int) : St := ⟨mkT [(3, .ptr 13 0), (4, .row 100004), (17, .v (.sl (.sl (.int .u8))) s3), (18, .v kI s4), (19, .v kI s5)], mkH [(13, .var 39 [.v kI s0, .v kI s1]), (100004, .row 110 kdT109 s2)]⟩
def wqek (k : Nat) {R : Type} (I : Nat → St → Option R) (n : Nat) (s : St) (K : ((List dT109) → Int → Int → Option R)) : Option R := loopK (wqla k) k Tryz.f38 wql9 1005 [1, 1, 1, 0, 1, 0] I n s (wqd4 K)
def wqel (k : Nat) {R : Type} (E1005 : (Int → Int → (List dT109) → (List (List Int)) → Int → Int → Option R)) (s0 s1 : Int) (s2 : (List dT109)) (s3 : (List (List Int))) (s4 s5 : Int) (K : ((List dT109) → Int → Int → Option R)) : Option R := (cond (decide (s5 < s4)) (cond (inb s5 (s3.length : Int)) (wqaw k (wq1t (s3.getD s5.toNat (Kd.zero (@Kd.sl (@Kd.int Go.IntKind.u8))))) (fun y10 => (cond (decide (y10 ≥ 0)) (K [] 2 (@Go.IntKind.wrap Go.IntKind.i64 (s5 + 1))) (wq68 k (wq1t (s3.getD s5.toNat (Kd.zero (@Kd.sl (@Kd.int Go.IntKind.u8))))) 32 (fun y11 => (wqc5 k y11 (fun y12 y13 => (cond (!y13) (K [] 3 (@Go.IntKind.wrap Go.IntKind.i64 (s5 + 1))) (cond (!(y12 == [])) (cond (fits s2.length ([((@Go.IntKind.wrap Go.IntKind.i64 (s5 + 1)), ((@Go.IntKind.wrap Go.IntKind.i64 (((wq1t (s3.getD s5.toNat (Kd.zero (@Kd.sl (@Kd.int Go.IntKind.u8))))).length : Int) - (y11.length : Int))), y12))]).length 32) (E1005 s0 s1 (s2 ++ [((@Go.IntKind.wrap Go.IntKind.i64 (s5 + 1)), ((@Go.IntKind.wrap Go.IntKind.i64 (((wq1t (s3.getD s5.toNat (Kd.zero (@Kd.sl (@Kd.int Go.IntKind.u8))))).length : Int) - (y11.length : Int))), y12))]) s3 s4 (@Go.IntKind.wrap Go.IntKind.i64 (s5 + 1))) none) (E1005 s0 s1 s2 s3 s4 (@Go.IntKind.wrap Go.IntKind.i64 (s5 + 1)))))))))))) none) (K s2 0 0))
theorem wqoi (k : Nat) {R : Type} (I : Nat → St → Option R) (s0 s1 : Int) (s2 : (List dT109)) (s3 : (List (List Int))) (s4 s5 : Int) (K : ((List dT109) → Int → Int → Option R)) : bodyK (wqla k) k Tryz.f38 wql9 [1, 1, 1, 0, 1, 0, 0] I (wq8p s0 s1 s2 s3 s4 s5) (wqd4 K) = wqel k (fun s0 s1 s2 s3 s4 s5 => I 1005 (wq8p s0 s1 s2 s3 s4 s5)) s0 s1 s2 s3 s4 s5 K := by kernel_rfl
def wqoj (k : Nat) {R : Type} (E1005 : (Int → Int → (List dT109) → (List (List Int)) → Int → Int → Option R)) (x0 : (List Int)) (K : ((List dT109) → Int → Int → Option R)) : Option R := (cond (decide ((x0.length : Int) > 16384)) (K [] 1 1) (wqdq k x0 10 (fun y5 => (E1005 0 0 [] y5 (y5.length : Int) 0))))
def wq7f (k : Nat) {R : Type}  : Nat → Int → Int → (List dT109) → (List (List Int)) → Int → Int → ((List dT109) → Int → Int → Option R) → Option R
  | 0, _, _, _, _, _, _, _ => none
  | n + 1, s0, s1, s2, s3, s4, s5, K => wqel k (fun s0 s1 s2 s3 s4 s5 => wq7f k  n s0 s1 s2 s3 s4 s5 K) s0 s1 s2 s3 s4 s5 K
theorem wqok (k : Nat) {R : Type} (I : Nat → St → Option R) (K : ((List dT109) → Int → Int → Option R)) (n : Nat) : ∀ (s0 s1 : Int) (s2 : (List dT109)) (s3 : (List (List Int))) (s4 s5 : Int), wqek k I n (wq8p s0 s1 s2 s3 s4 s5) K = wq7f k  n s0 s1 s2 s3 s4 s5 K := by
  induction n with
  | zero => intros; rfl
  | succ n ih =>
    intro s0 s1 s2 s3 s4 s5
    refine (?_ : _ = _).trans ((wqoi k (upI 1005 (fun s => wqek k I n s K) I) s0 s1 s2 s3 s4 s5 K).trans ?_)
    · rfl
    · simp only [wq1h, ih] <;> rfl
def wqgr (k : Nat) {R : Type} (x0 : (List Int)) (K : ((List dT109) → Int → Int → Option R)) : Option R := wqoj k (fun s0 s1 s2 s3 s4 s5 => wq7f k k s0 s1 s2 s3 s4 s5 K) x0 K
theorem wqy5 (k : Nat) {R : Type} (x0 : (List Int)) (K : ((List dT109) → Int → Int → Option R)) : fnW (wqla k) k Tryz.f38 wql9 [.v (.sl (.int .u8)) x0] [] (wqd4 K) = wqgr k x0 K := by
  refine Eq.trans (b := wqoj k (fun s0 s1 s2 s3 s4 s5 => wqek k (fun _ _ => none) k (wq8p s0 s1 s2 s3 s4 s5) K) x0 K) (by kernel_rfl) ?_
  simp only [wqok] <;> rfl
def wqfg (k : Nat) {R : Type} : List PV → List (Nm × HObj) → (Out → Option R) → Option R
  | [.v (.sl (.int .u8)) x0], [], K => wqgr k x0 (fun y0 y1 y2 => K (.ret [.v (.sl (.pr (.int .i64) (.pr (.int .i64) .str))) y0, .agg [.v (.int .i64) y1, .v (.int .i64) y2]] []))
  | _, _, _ => none
theorem wq15o (k : Nat) : DOK Tryz.prog 38 (wqfg k) := by
  intro ps hp R K r h
  have h : wqfg k ps hp K = some r := h
  unfold wqfg at h
  split at h
  · rw [← wqy5] at h
    exact fnW_ok ⟨tyT_ok, (wqi (wq132 k) (CTab.add_ok (fun h => wqqm k h) (wqi (wq136 k) (wqi (wqst k) (wqi (wqwm k) CTab.nil_ok))))), fun _ _ => rfl⟩ mixed (by kernel_rfl) (by kernel_rfl) h fun o ho => by unfold wqd4 at ho; split at ho <;> first | exact ho | cases ho
  · cases h
end Go.Proofs.YtdfhgimidmfgfaaGreatDoor.Pvm
end


noncomputable section
namespace Go.Proofs.YtdfhgimidmfgfaaGreatDoor.Pvm
open Go Go.Proofs
def wq137 : List LS := [.sl (.int .u8)]
def wqqp {R : Type} (K : ((List dT48) → Int → Int → Option R)) : Out → Option R
  | .ret [.agg [.v (.sl (.pr (.int .i64) (.pr (.int .i64) (.pr .str (.pr .bool (.pr (.sl .str) (.sl (.int .i64)))))))) y0], .agg [.v (.int .i64) y1, .v (.int .i64) y2]] [] => K y0 y1 y2
  | _ => none
def wq15p : RetSpec := ⟨[.ag [.sl (.pr (.int .i64) (.pr (.int .i64) (.pr .str (.pr .bool (.pr (.sl .str) (.sl (.int .i64)))))))], .ag [.any, .any]], [], []⟩
def wq15q (k : Nat) : Ctx := ⟨tyT, [], (.add 38 wq10o (wqfg k) (.add 39 wq18u (wqmf k) (.add 40 wq1ao (wqvx k) .nil))), [], [], [(3, (.of [(0, 1), (1, 2), (2, 0), (3, 0)] .done)), (6, (.of [(0, 1), (1, 2), (2, 0), (3, 0)] .done))], @SH⟩
def wqzc (k : Nat) {R : Type}  (x0 : (List Int)) (K : ((List dT48) → Int → Int → Option R)) : Option R := (wqgr k x0 (fun y4 y5 y6 => (cond (y5 != 0) (K [] y5 y6) (wqqh k y4 (fun y7 y8 y9 => (cond (y8 != 0) (K [] y8 y9) (wqvw k y7 (fun y10 y11 y12 => (K y10 y11 y12)))))))))
def wqfy (k : Nat) {R : Type} (x0 : (List Int)) (K : ((List dT48) → Int → Int → Option R)) : Option R := wqzc k  x0 K
theorem wq10p (k : Nat) {R : Type} (x0 : (List Int)) (K : ((List dT48) → Int → Int → Option R)) : fnW (wq15q k) k Tryz.f15 wq15p [.v (.sl (.int .u8)) x0] [] (wqqp K) = wqfy k x0 K := by
  kernel_rfl
def wqhm (k : Nat) {R : Type} : List PV → List (Nm × HObj) → (Out → Option R) → Option R
  | [.v (.sl (.int .u8)) x0], [], K => wqfy k x0 (fun y0 y1 y2 => K (.ret [.agg [.v (.sl (.pr (.int .i64) (.pr (.int .i64) (.pr .str (.pr .bool (.pr (.sl .str) (.sl (.int .i64)))))))) y0], .agg [.v (.int .i64) y1, .v (.int .i64) y2]] []))
  | _, _, _ => none
theorem wq18x (k : Nat) : DOK Tryz.prog 15 (wqhm k) := by
  intro ps hp R K r h
  have h : wqhm k ps hp K = some r := h
  unfold wqhm at h
  split at h
  · rw [← wq10p] at h
    exact fnW_ok ⟨tyT_ok, (wqi (wq15o k) (wqi (wq1cq k) (CTab.add_ok (fun h => wq1ev k h) CTab.nil_ok))), fun _ _ => rfl⟩ mixed (by kernel_rfl) (by kernel_rfl) h fun o ho => by unfold wqqp at ho; split at ho <;> first | exact ho | cases ho
  · cases h
end Go.Proofs.YtdfhgimidmfgfaaGreatDoor.Pvm
end


noncomputable section
namespace Go.Proofs.YtdfhgimidmfgfaaGreatDoor.Pvm
open Go Go.Proofs
def wq10q : List LS := [.sl .str]
def wqd5 {R : Type} (K : (Bool → Option R)) : Out → Option R
  | .ret [.v .bool y0] [] => K y0
  | _ => none
def wqlb : RetSpec := ⟨[.any], [], []⟩
def wqlc (k : Nat) : Ctx := ⟨tyT, [(1003, ⟨[(3, .mpo 73 .one .bool), (7, .sl .str), (8, .any), (9, .any)], []⟩)], (.add 123 wqth (wqdk k) .nil), [], [], [], @SH⟩
def wq8q (s0 : (List (List UInt8 × Bool))) (s1 : (List (List UInt8))) (s2 s3 : Int) : St := ⟨mkT [(3, .mpp 73), (7, .v (.sl .str) s1), (8, .v kI s2), (9, .v kI s3)], mkH [(73, .mp .one .bool s0)]⟩
def wqem (k : Nat) {R : Type} (I : Nat → St → Option R) (n : Nat) (s : St) (K : (Bool → Option R)) : Option R := loopK (wqlc k) k Tryz.f92 wqlb 1003 [1, 1, 0, 1, 0] I n s (wqd5 K)
def wq9o (k : Nat) {R : Type} (E1003 : ((List (List UInt8 × Bool)) → (List (List UInt8)) → Int → Int → Option R)) (s0 : (List (List UInt8 × Bool))) (s1 : (List (List UInt8))) (s2 s3 : Int) (K : (Bool → Option R)) : Option R := (cond (decide (s3 < s2)) (cond (inb s3 (s1.length : Int)) (wqfx k (s1.getD s3.toNat Kd.str.zero) (fun y8 => (cond ((cond (!y8) true (decide (((s1.getD s3.toNat Kd.str.zero).length : Int) > 64))) == false) (cond (mget Kd.bool (s1.getD s3.toNat Kd.str.zero) s0) (K false) (E1003 (mset Kd.bool (s1.getD s3.toNat Kd.str.zero) true s0) s1 s2 (@Go.IntKind.wrap Go.IntKind.i64 (s3 + 1)))) (K false)))) none) (K true))
theorem wqol (k : Nat) {R : Type} (I : Nat → St → Option R) (s0 : (List (List UInt8 × Bool))) (s1 : (List (List UInt8))) (s2 s3 : Int) (K : (Bool → Option R)) : bodyK (wqlc k) k Tryz.f92 wqlb [1, 1, 0, 1, 0, 0] I (wq8q s0 s1 s2 s3) (wqd5 K) = wq9o k (fun s0 s1 s2 s3 => I 1003 (wq8q s0 s1 s2 s3)) s0 s1 s2 s3 K := by kernel_rfl
def wqom (k : Nat) {R : Type} (E1003 : ((List (List UInt8 × Bool)) → (List (List UInt8)) → Int → Int → Option R)) (x0 : (List (List UInt8))) (K : (Bool → Option R)) : Option R := (E1003 [] x0 (x0.length : Int) 0)
def wq54 (k : Nat) {R : Type}  : Nat → (List (List UInt8 × Bool)) → (List (List UInt8)) → Int → Int → (Bool → Option R) → Option R
  | 0, _, _, _, _, _ => none
  | n + 1, s0, s1, s2, s3, K => wq9o k (fun s0 s1 s2 s3 => wq54 k  n s0 s1 s2 s3 K) s0 s1 s2 s3 K
theorem wqon (k : Nat) {R : Type} (I : Nat → St → Option R) (K : (Bool → Option R)) (n : Nat) : ∀ (s0 : (List (List UInt8 × Bool))) (s1 : (List (List UInt8))) (s2 s3 : Int), wqem k I n (wq8q s0 s1 s2 s3) K = wq54 k  n s0 s1 s2 s3 K := by
  induction n with
  | zero => intros; rfl
  | succ n ih =>
    intro s0 s1 s2 s3
    refine (?_ : _ = _).trans ((wqol k (upI 1003 (fun s => wqem k I n s K) I) s0 s1 s2 s3 K).trans ?_)
    · rfl
    · simp only [wq1h, ih] <;> rfl
def wqgs (k : Nat) {R : Type} (x0 : (List (List UInt8))) (K : (Bool → Option R)) : Option R := wqom k (fun s0 s1 s2 s3 => wq54 k k s0 s1 s2 s3 K) x0 K
theorem wqy6 (k : Nat) {R : Type} (x0 : (List (List UInt8))) (K : (Bool → Option R)) : fnW (wqlc k) k Tryz.f92 wqlb [.v (.sl .str) x0] [] (wqd5 K) = wqgs k x0 K := by
  refine Eq.trans (b := wqom k (fun s0 s1 s2 s3 => wqem k (fun _ _ => none) k (wq8q s0 s1 s2 s3) K) x0 K) (by kernel_rfl) ?_
  simp only [wqon] <;> rfl
def wqfh (k : Nat) {R : Type} : List PV → List (Nm × HObj) → (Out → Option R) → Option R
  | [.v (.sl .str) x0], [], K => wqgs k x0 (fun y0 => K (.ret [.v .bool y0] []))
  | _, _, _ => none
theorem wq15r (k : Nat) : DOK Tryz.prog 92 (wqfh k) := by
  intro ps hp R K r h
  have h : wqfh k ps hp K = some r := h
  unfold wqfh at h
  split at h
  · rw [← wqy6] at h
    exact fnW_ok ⟨tyT_ok, (wqi (wqz6 k) CTab.nil_ok), fun _ _ => rfl⟩ mixed (by kernel_rfl) (by kernel_rfl) h fun o ho => by unfold wqd5 at ho; split at ho <;> first | exact ho | cases ho
  · cases h
end Go.Proofs.YtdfhgimidmfgfaaGreatDoor.Pvm
end


noncomputable section
namespace Go.Proofs.YtdfhgimidmfgfaaGreatDoor.Pvm
open Go Go.Proofs
def wq10r : List LS := [.any]
def wqd6 {R : Type} (K : (Bool → Option R)) : Out → Option R
  | .ret [.v .bool y0] [] => K y0
  | _ => none
def wqld : RetSpec := ⟨[.any], [], []⟩
def wqle (k : Nat) : Ctx := ⟨tyT, [(1002, ⟨[(0, .any), (9, .any), (10, .any)], []⟩)], (.add 66 wqql (wqav k) (.add 67 wqzb (wqme k) .nil)), [], [], [], @SH⟩
def wq8r (s0 : (List UInt8)) (s1 s2 : Int) : St := ⟨mkT [(0, .v .str s0), (9, .v kI s1), (10, .v kI s2)], mkH []⟩
def wqen (k : Nat) {R : Type} (I : Nat → St → Option R) (n : Nat) (s : St) (K : (Bool → Option R)) : Option R := loopK (wqle k) k Tryz.f91 wqld 1002 [1, 0, 1, 0] I n s (wqd6 K)
def wq9p (k : Nat) {R : Type} (E1002 : ((List UInt8) → Int → Int → Option R)) (s0 : (List UInt8)) (s1 s2 : Int) (K : (Bool → Option R)) : Option R := (cond (decide (s2 < s1)) (cond (inb s2 (s0.length : Int)) (cond ((!((decide (((s0.getD s2.toNat 0).toNat : Int) < 32)) == false)) || (inb s2 (s0.length : Int))) (cond (cond (decide (((s0.getD s2.toNat 0).toNat : Int) < 32)) true (((s0.getD s2.toNat 0).toNat : Int) == 127)) (K false) (E1002 s0 s1 (@Go.IntKind.wrap Go.IntKind.i64 (s2 + 1)))) none) none) (wqc5 k s0 (fun y7 y8 => (cond (cond (cond (s0 == []) true (!y8)) true (!(y7 == s0))) (K false) (wqmd k 0 0 s0 (fun y9 y10 y11 => (cond ((!((cond (y10 == 0) ((y9.length : Int) == 1) false) == true)) || (inb 0 (y9.length : Int))) (cond ((!((cond (cond (y10 == 0) ((y9.length : Int) == 1) false) ((y9.getD (Int.toNat 0) (Kd.zero (@Kd.pr kI (@Kd.pr kI (@Kd.pr kI (@Kd.pr Kd.str Kd.bool)))))).1 == 3) false) == true)) || (inb 0 (y9.length : Int))) (cond ((!((cond (cond (cond (y10 == 0) ((y9.length : Int) == 1) false) ((y9.getD (Int.toNat 0) (Kd.zero (@Kd.pr kI (@Kd.pr kI (@Kd.pr kI (@Kd.pr Kd.str Kd.bool)))))).1 == 3) false) (((((y9.getD (Int.toNat 0) (Kd.zero (@Kd.pr kI (@Kd.pr kI (@Kd.pr kI (@Kd.pr Kd.str Kd.bool)))))).2).2).2).1 == s0) false) == true)) || (inb 0 (y9.length : Int))) (K (cond (cond (cond (cond (y10 == 0) ((y9.length : Int) == 1) false) ((y9.getD (Int.toNat 0) (Kd.zero (@Kd.pr kI (@Kd.pr kI (@Kd.pr kI (@Kd.pr Kd.str Kd.bool)))))).1 == 3) false) (((((y9.getD (Int.toNat 0) (Kd.zero (@Kd.pr kI (@Kd.pr kI (@Kd.pr kI (@Kd.pr Kd.str Kd.bool)))))).2).2).2).1 == s0) false) (!((((y9.getD (Int.toNat 0) (Kd.zero (@Kd.pr kI (@Kd.pr kI (@Kd.pr kI (@Kd.pr Kd.str Kd.bool)))))).2).2).2).2) false)) none) none) none)))))))
theorem wqoo (k : Nat) {R : Type} (I : Nat → St → Option R) (s0 : (List UInt8)) (s1 s2 : Int) (K : (Bool → Option R)) : bodyK (wqle k) k Tryz.f91 wqld [1, 0, 1, 0, 0] I (wq8r s0 s1 s2) (wqd6 K) = wq9p k (fun s0 s1 s2 => I 1002 (wq8r s0 s1 s2)) s0 s1 s2 K := by kernel_rfl
def wqop (k : Nat) {R : Type} (E1002 : ((List UInt8) → Int → Int → Option R)) (x0 : (List UInt8)) (K : (Bool → Option R)) : Option R := (E1002 x0 (x0.length : Int) 0)
def wq55 (k : Nat) {R : Type}  : Nat → (List UInt8) → Int → Int → (Bool → Option R) → Option R
  | 0, _, _, _, _ => none
  | n + 1, s0, s1, s2, K => wq9p k (fun s0 s1 s2 => wq55 k  n s0 s1 s2 K) s0 s1 s2 K
theorem wqoq (k : Nat) {R : Type} (I : Nat → St → Option R) (K : (Bool → Option R)) (n : Nat) : ∀ (s0 : (List UInt8)) (s1 s2 : Int), wqen k I n (wq8r s0 s1 s2) K = wq55 k  n s0 s1 s2 K := by
  induction n with
  | zero => intros; rfl
  | succ n ih =>
    intro s0 s1 s2
    refine (?_ : _ = _).trans ((wqoo k (upI 1002 (fun s => wqen k I n s K) I) s0 s1 s2 K).trans ?_)
    · rfl
    · simp only [wq1h, ih] <;> rfl
def wqgt (k : Nat) {R : Type} (x0 : (List UInt8)) (K : (Bool → Option R)) : Option R := wqop k (fun s0 s1 s2 => wq55 k k s0 s1 s2 K) x0 K
theorem wqy7 (k : Nat) {R : Type} (x0 : (List UInt8)) (K : (Bool → Option R)) : fnW (wqle k) k Tryz.f91 wqld [.v .str x0] [] (wqd6 K) = wqgt k x0 K := by
  refine Eq.trans (b := wqop k (fun s0 s1 s2 => wqen k (fun _ _ => none) k (wq8r s0 s1 s2) K) x0 K) (by kernel_rfl) ?_
  simp only [wqoq] <;> rfl
def wqfi (k : Nat) {R : Type} : List PV → List (Nm × HObj) → (Out → Option R) → Option R
  | [.v .str x0], [], K => wqgt k x0 (fun y0 => K (.ret [.v .bool y0] []))
  | _, _, _ => none
theorem wq15s (k : Nat) : DOK Tryz.prog 91 (wqfi k) := by
  intro ps hp R K r h
  have h : wqfi k ps hp K = some r := h
  unfold wqfi at h
  split at h
  · rw [← wqy7] at h
    exact fnW_ok ⟨tyT_ok, (wqi (wqwm k) (CTab.add_ok (fun h => wq17l k h) CTab.nil_ok)), fun _ _ => rfl⟩ mixed (by kernel_rfl) (by kernel_rfl) h fun o ho => by unfold wqd6 at ho; split at ho <;> first | exact ho | cases ho
  · cases h
end Go.Proofs.YtdfhgimidmfgfaaGreatDoor.Pvm
end


noncomputable section
namespace Go.Proofs.YtdfhgimidmfgfaaGreatDoor.Pvm
open Go Go.Proofs
def wq15t : List LS := [.ag [.any, .any, .any, .any, .sl .str, .sl kI]]
def wqtm {R : Type} (K : (Bool → Option R)) : Out → Option R
  | .ret [.v .bool y0] [] => K y0
  | _ => none
def wq18y : RetSpec := ⟨[.any], [], []⟩
def wq18z (k : Nat) : Ctx := ⟨tyT, [], (.add 91 wq10r (wqfi k) (.add 92 wq10q (wqfh k) .nil)), [], [], [], @SH⟩
def wq138 (k : Nat) {R : Type}  (x0 x1 : Int) (x2 : (List UInt8)) (x3 : Bool) (x4 : (List (List UInt8))) (x5 : (List Int)) (K : (Bool → Option R)) : Option R := (cond (x0 == 1) (cond ((cond (cond ((x4.length : Int) == 0) ((x5.length : Int) == 0) false) (decide ((x2.length : Int) ≤ 200)) false) == true) (cond (x3 == false) (wqgt k x2 (fun y9 => (K y9))) (K true)) (K false)) (cond (x0 == 2) (K (cond (cond (cond (x2 == []) (!x3) false) ((x4.length : Int) == 0) false) (decide ((x5.length : Int) > 0)) false)) (cond (x0 == 3) (cond ((cond (cond (cond (x2 == []) (!x3) false) (decide ((x5.length : Int) > 0)) false) ((x4.length : Int) == (x5.length : Int)) false) == true) (wqgs k x4 (fun y9 => (K y9))) (K false)) (K false))))
def wqlf (k : Nat) {R : Type} (x0 x1 : Int) (x2 : (List UInt8)) (x3 : Bool) (x4 : (List (List UInt8))) (x5 : (List Int)) (K : (Bool → Option R)) : Option R := wq138 k  x0 x1 x2 x3 x4 x5 K
theorem wq139 (k : Nat) {R : Type} (x0 x1 : Int) (x2 : (List UInt8)) (x3 : Bool) (x4 : (List (List UInt8))) (x5 : (List Int)) (K : (Bool → Option R)) : fnW (wq18z k) k Tryz.f60 wq18y [.agg [.v kI x0, .v kI x1, .v .str x2, .v .bool x3, .v (.sl .str) x4, .v (.sl kI) x5]] [] (wqtm K) = wqlf k x0 x1 x2 x3 x4 x5 K := by
  kernel_rfl
def wqjq (k : Nat) {R : Type} : List PV → List (Nm × HObj) → (Out → Option R) → Option R
  | [.agg [.v (.int .i64) x0, .v (.int .i64) x1, .v .str x2, .v .bool x3, .v (.sl .str) x4, .v (.sl (.int .i64)) x5]], [], K => wqlf k x0 x1 x2 x3 x4 x5 (fun y0 => K (.ret [.v .bool y0] []))
  | _, _, _ => none
theorem wq1ay (k : Nat) : DOK Tryz.prog 60 (wqjq k) := by
  intro ps hp R K r h
  have h : wqjq k ps hp K = some r := h
  unfold wqjq at h
  split at h
  · rw [← wq139] at h
    exact fnW_ok ⟨tyT_ok, (wqi (wq15s k) (wqi (wq15r k) CTab.nil_ok)), fun _ _ => rfl⟩ mixed (by kernel_rfl) (by kernel_rfl) h fun o ho => by unfold wqtm at ho; split at ho <;> first | exact ho | cases ho
  · cases h
end Go.Proofs.YtdfhgimidmfgfaaGreatDoor.Pvm
end


noncomputable section
namespace Go.Proofs.YtdfhgimidmfgfaaGreatDoor.Pvm
open Go Go.Proofs
def wqtn : List LS := [.ag [.sl kdT48], .any, .any]
def wqqq (wq25 : (R : Type) → (List dT48) → Int → Int → (Int → Option R) → Option R) {R : Type} : List PV → List (Nm × HObj) → (Out → Option R) → Option R
  | [.agg [.v (.sl (.pr (.int .i64) (.pr (.int .i64) (.pr .str (.pr .bool (.pr (.sl .str) (.sl (.int .i64)))))))) x0], .v (.int .i64) x1, .v (.int .i64) x2], [], K => wq25 R x0 x1 x2 (fun y0 => K (.ret [.v (.int .i64) y0] []))
  | _, _, _ => none
def wqfj {R : Type} (K : (Int → Option R)) : Out → Option R
  | .ret [.v (.int .i64) y0] [] => K y0
  | _ => none
def wqor : RetSpec := ⟨[.any], [], []⟩
def wqos (k : Nat) (wq25 : (R : Type) → (List dT48) → Int → Int → (Int → Option R) → Option R) : Ctx := ⟨tyT, [(1005, ⟨[(2, .any), (3, .obj 13 [.sl kdT48]), (7, .any), (35, .sl kI), (36, .any), (37, .any)], []⟩)], (.add 32 wqtn (wqqq wq25) (.add 60 wq15t (wqjq k) .nil)), [], [], [], @SH⟩
def wq9q (s0 : Int) (s1 : (List dT48)) (s2 : Int) (s3 : (List Int)) (s4 s5 : Int) : St := ⟨mkT [(2, .v kI s0), (3, .ptr 13 0), (7, .v kI s2), (35, .v (.sl kI) s3), (36, .v kI s4), (37, .v kI s5)], mkH [(13, .var 26 [.v kdT25 s1])]⟩
def wqgu (k : Nat) (wq25 : (R : Type) → (List dT48) → Int → Int → (Int → Option R) → Option R) {R : Type} (I : Nat → St → Option R) (n : Nat) (s : St) (K : (Int → Option R)) : Option R := loopK (wqos k wq25) k Tryz.f32 wqor 1005 [1, 1, 1, 0, 1, 0] I n s (wqfj K)
def wqax (k : Nat) (wq25 : (R : Type) → (List dT48) → Int → Int → (Int → Option R) → Option R) {R : Type} (E1005 : (Int → (List dT48) → Int → (List Int) → Int → Int → Option R)) (s0 : Int) (s1 : (List dT48)) (s2 : Int) (s3 : (List Int)) (s4 s5 : Int) (K : (Int → Option R)) : Option R := (cond (decide (s5 < s4)) (cond (inb s5 (s3.length : Int)) (cond ((s3.getD s5.toNat kI.zero) != s2) (K (@Neg.neg Int @Int.instNegInt (1 : Int))) (wq25 R s1 (s3.getD s5.toNat kI.zero) (@Go.IntKind.wrap Go.IntKind.i64 (s0 + 1)) (fun y10 => (cond (decide (y10 < 0)) (K (@Neg.neg Int @Int.instNegInt (1 : Int))) (E1005 s0 s1 y10 s3 s4 (@Go.IntKind.wrap Go.IntKind.i64 (s5 + 1))))))) none) (K s2))
theorem wqqr (k : Nat) (wq25 : (R : Type) → (List dT48) → Int → Int → (Int → Option R) → Option R) {R : Type} (I : Nat → St → Option R) (s0 : Int) (s1 : (List dT48)) (s2 : Int) (s3 : (List Int)) (s4 s5 : Int) (K : (Int → Option R)) : bodyK (wqos k wq25) k Tryz.f32 wqor [1, 1, 1, 0, 1, 0, 0] I (wq9q s0 s1 s2 s3 s4 s5) (wqfj K) = wqax k wq25 (fun s0 s1 s2 s3 s4 s5 => I 1005 (wq9q s0 s1 s2 s3 s4 s5)) s0 s1 s2 s3 s4 s5 K := by kernel_rfl
def wqmg (k : Nat) (wq25 : (R : Type) → (List dT48) → Int → Int → (Int → Option R) → Option R) {R : Type} (E1005 : (Int → (List dT48) → Int → (List Int) → Int → Int → Option R)) (x0 : (List dT48)) (x1 x2 : Int) (K : (Int → Option R)) : Option R := (cond ((!((cond (decide (x1 ≥ (x0.length : Int))) true (decide (x2 > 24))) == false)) || (inb x1 (x0.length : Int))) (cond ((cond (decide (x1 ≥ (x0.length : Int))) true (decide (x2 > 24))) == false) (wqlf k (x0.getD x1.toNat (Kd.zero (@Kd.pr kI (@Kd.pr kI (@Kd.pr Kd.str (@Kd.pr Kd.bool (@Kd.pr (@Kd.sl Kd.str) (@Kd.sl kI)))))))).1 ((x0.getD x1.toNat (Kd.zero (@Kd.pr kI (@Kd.pr kI (@Kd.pr Kd.str (@Kd.pr Kd.bool (@Kd.pr (@Kd.sl Kd.str) (@Kd.sl kI)))))))).2).1 (((x0.getD x1.toNat (Kd.zero (@Kd.pr kI (@Kd.pr kI (@Kd.pr Kd.str (@Kd.pr Kd.bool (@Kd.pr (@Kd.sl Kd.str) (@Kd.sl kI)))))))).2).2).1 ((((x0.getD x1.toNat (Kd.zero (@Kd.pr kI (@Kd.pr kI (@Kd.pr Kd.str (@Kd.pr Kd.bool (@Kd.pr (@Kd.sl Kd.str) (@Kd.sl kI)))))))).2).2).2).1 (((((x0.getD x1.toNat (Kd.zero (@Kd.pr kI (@Kd.pr kI (@Kd.pr Kd.str (@Kd.pr Kd.bool (@Kd.pr (@Kd.sl Kd.str) (@Kd.sl kI)))))))).2).2).2).2).1 (((((x0.getD x1.toNat (Kd.zero (@Kd.pr kI (@Kd.pr kI (@Kd.pr Kd.str (@Kd.pr Kd.bool (@Kd.pr (@Kd.sl Kd.str) (@Kd.sl kI)))))))).2).2).2).2).2 (fun y7 => (cond (!y7) (K (@Neg.neg Int @Int.instNegInt (1 : Int))) (cond (inb x1 (x0.length : Int)) (E1005 x2 x0 (@Go.IntKind.wrap Go.IntKind.i64 (x1 + 1)) (((((x0.getD x1.toNat (Kd.zero (@Kd.pr kI (@Kd.pr kI (@Kd.pr Kd.str (@Kd.pr Kd.bool (@Kd.pr (@Kd.sl Kd.str) (@Kd.sl kI)))))))).2).2).2).2).2 (((((((x0.getD x1.toNat (Kd.zero (@Kd.pr kI (@Kd.pr kI (@Kd.pr Kd.str (@Kd.pr Kd.bool (@Kd.pr (@Kd.sl Kd.str) (@Kd.sl kI)))))))).2).2).2).2).2).length : Int) 0) none)))) (K (@Neg.neg Int @Int.instNegInt (1 : Int)))) none)
def wq69 (k : Nat) (wq25 : (R : Type) → (List dT48) → Int → Int → (Int → Option R) → Option R) {R : Type}  : Nat → Int → (List dT48) → Int → (List Int) → Int → Int → (Int → Option R) → Option R
  | 0, _, _, _, _, _, _, _ => none
  | n + 1, s0, s1, s2, s3, s4, s5, K => wqax k wq25 (fun s0 s1 s2 s3 s4 s5 => wq69 k wq25  n s0 s1 s2 s3 s4 s5 K) s0 s1 s2 s3 s4 s5 K
theorem wqqs (k : Nat) (wq25 : (R : Type) → (List dT48) → Int → Int → (Int → Option R) → Option R) {R : Type} (I : Nat → St → Option R) (K : (Int → Option R)) (n : Nat) : ∀ (s0 : Int) (s1 : (List dT48)) (s2 : Int) (s3 : (List Int)) (s4 s5 : Int), wqgu k wq25 I n (wq9q s0 s1 s2 s3 s4 s5) K = wq69 k wq25  n s0 s1 s2 s3 s4 s5 K := by
  induction n with
  | zero => intros; rfl
  | succ n ih =>
    intro s0 s1 s2 s3 s4 s5
    refine (?_ : _ = _).trans ((wqqr k wq25 (upI 1005 (fun s => wqgu k wq25 I n s K) I) s0 s1 s2 s3 s4 s5 K).trans ?_)
    · rfl
    · simp only [wq1h, ih] <;> rfl
def wq3v : Nat → (R : Type) → (List dT48) → Int → Int → (Int → Option R) → Option R
  | 0, _, _, _, _, _ => none
  | k + 1, R, x0, x1, x2, K => wqmg k (wq3v k) (fun s0 s1 s2 s3 s4 s5 => wq69 k (wq3v k) k s0 s1 s2 s3 s4 s5 K) x0 x1 x2 K
def wqit (k : Nat) {R : Type} (x0 : (List dT48)) (x1 x2 : Int) (K : (Int → Option R)) : Option R := wq3v k R x0 x1 x2 K
theorem wq10s (k : Nat) {R : Type} (x0 : (List dT48)) (x1 x2 : Int) (K : (Int → Option R)) : fnW (wqos k (wq3v k)) k Tryz.f32 wqor [.agg [.v kdT25 x0], .v kI x1, .v kI x2] [] (wqfj K) = wq3v (k + 1) R x0 x1 x2 K := by
  rw [wq3v]
  refine Eq.trans (b := wqmg k (wq3v k) (fun s0 s1 s2 s3 s4 s5 => wqgu k (wq3v k) (fun _ _ => none) k (wq9q s0 s1 s2 s3 s4 s5) K) x0 x1 x2 K) (by kernel_rfl) ?_
  simp only [wqqs] <;> rfl
def wq6o (k : Nat) {R : Type} : List PV → List (Nm × HObj) → (Out → Option R) → Option R
  | [.agg [.v (.sl (.pr (.int .i64) (.pr (.int .i64) (.pr .str (.pr .bool (.pr (.sl .str) (.sl (.int .i64)))))))) x0], .v (.int .i64) x1, .v (.int .i64) x2], [], K => wqit k x0 x1 x2 (fun y0 => K (.ret [.v (.int .i64) y0] []))
  | _, _, _ => none
theorem wq15u (k : Nat) : DOK Tryz.prog 32 (wq6o k) := by
  induction k with
  | zero =>
    · intro ps hp R K r h
      have h : wq6o 0 ps hp K = some r := h
      unfold wq6o at h
      split at h
      · unfold wqit at h; rw [wq3v] at h; cases h
      · cases h
  | succ k ih =>
    have ih_show_walk := ih
    · intro ps hp R K r h
      have h : wq6o (k + 1) ps hp K = some r := h
      unfold wq6o at h
      split at h
      · unfold wqit at h; rw [← wq10s] at h
        exact fnW_ok ⟨tyT_ok, (CTab.add_ok (fun h => ih_show_walk _ _ _ _ _ (by unfold wqqq at h; unfold wq6o; exact h)) (wqi (wq1ay k) CTab.nil_ok)), fun _ _ => rfl⟩ mixed (by kernel_rfl) (by kernel_rfl) h fun o ho => by unfold wqfj at ho; split at ho <;> first | exact ho | cases ho
      · cases h
theorem wq190 (k : Nat) : DOK Tryz.prog 32 (wq6o k) := (wq15u k)
end Go.Proofs.YtdfhgimidmfgfaaGreatDoor.Pvm
end


noncomputable section
namespace Go.Proofs.YtdfhgimidmfgfaaGreatDoor.Pvm
open Go Go.Proofs
def wqqt : List LS := [.ag [.sl kdT48]]
def wqnc {R : Type} (K : (Int → Option R)) : Out → Option R
  | .ret [.v (.int .i64) y0] [] => K y0
  | _ => none
def wq13a : RetSpec := ⟨[.any], [], []⟩
def wq13b (k : Nat) : Ctx := ⟨tyT, [], (.add 32 wqtn (wq6o k) .nil), [], [], [(1, (.of [(0, 1), (1, 1), (2, 1), (3, 1), (4, 1), (5, 1), (6, 1), (7, 1), (8, 1), (9, 1), (10, 1), (13, 1), (11, 1), (14, 2), (15, 1), (12, 0), (16, 1), (17, 1)] .done))], @SH⟩
def wqwn (k : Nat) {R : Type}  (x0 : (List dT48)) (K : (Int → Option R)) : Option R := (cond ((cond (decide ((x0.length : Int) < 1)) true (decide ((x0.length : Int) > 2000))) == false) (wqit k x0 0 1 (fun y4 => (cond (y4 != (x0.length : Int)) (K 1) (K 0)))) (K 1))
def wqc6 (k : Nat) {R : Type} (x0 : (List dT48)) (K : (Int → Option R)) : Option R := wqwn k  x0 K
theorem wqy8 (k : Nat) {R : Type} (x0 : (List dT48)) (K : (Int → Option R)) : fnW (wq13b k) k Tryz.f11 wq13a [.agg [.v kdT25 x0]] [] (wqnc K) = wqc6 k x0 K := by
  kernel_rfl
def wqay (k : Nat) {R : Type} : List PV → List (Nm × HObj) → (Out → Option R) → Option R
  | [.agg [.v (.sl (.pr (.int .i64) (.pr (.int .i64) (.pr .str (.pr .bool (.pr (.sl .str) (.sl (.int .i64)))))))) x0]], [], K => wqc6 k x0 (fun y0 => K (.ret [.v (.int .i64) y0] []))
  | _, _, _ => none
theorem wqwo (k : Nat) : DOK Tryz.prog 11 (wqay k) := by
  intro ps hp R K r h
  have h : wqay k ps hp K = some r := h
  unfold wqay at h
  split at h
  · rw [← wqy8] at h
    exact fnW_ok ⟨tyT_ok, (wqi (wq190 k) CTab.nil_ok), fun _ _ => rfl⟩ mixed (by kernel_rfl) (by kernel_rfl) h fun o ho => by unfold wqnc at ho; split at ho <;> first | exact ho | cases ho
  · cases h
end Go.Proofs.YtdfhgimidmfgfaaGreatDoor.Pvm
end


noncomputable section
namespace Go.Proofs.YtdfhgimidmfgfaaGreatDoor.Pvm
open Go Go.Proofs
def wqi8 : List LS := [.sl kI, .sl kI]
def wq31 {R : Type} (K : (Bool → Option R)) : Out → Option R
  | .ret [.v .bool y0] [] => K y0
  | _ => none
def wq6a : RetSpec := ⟨[.any], [], []⟩
def wq6b (k : Nat) : Ctx := ⟨tyT, [(1004, ⟨[(0, .sl kI), (1, .sl kI), (12, .any), (13, .any)], []⟩)], .nil, [], [], [(6, (.of [(0, 1), (1, 1), (2, 1), (4, 1), (5, 1), (6, 1), (3, 1), (7, 1), (8, 1)] .done))], @SH⟩
def wq2h (s0 s1 : (List Int)) (s2 s3 : Int) : St := ⟨mkT [(0, .v (.sl kI) s0), (1, .v (.sl kI) s1), (12, .v kI s2), (13, .v kI s3)], mkH []⟩
def wq47 (k : Nat) {R : Type} (I : Nat → St → Option R) (n : Nat) (s : St) (K : (Bool → Option R)) : Option R := loopK (wq6b k) k Tryz.f36 wq6a 1004 [1, 1, 0, 1, 0] I n s (wq31 K)
def wq7y (k : Nat) {R : Type} (E1004 : ((List Int) → (List Int) → Int → Int → Option R)) (s0 s1 : (List Int)) (s2 s3 : Int) (K : (Bool → Option R)) : Option R := (cond (decide (s3 < s2)) (cond (inb s3 (s0.length : Int)) (cond (inb s3 (s1.length : Int)) (cond ((s0.getD s3.toNat kI.zero) != (s1.getD s3.toNat kI.zero)) (K false) (E1004 s0 s1 s2 (@Go.IntKind.wrap Go.IntKind.i64 (s3 + 1)))) none) none) (K true))
theorem wqc7 (k : Nat) {R : Type} (I : Nat → St → Option R) (s0 s1 : (List Int)) (s2 s3 : Int) (K : (Bool → Option R)) : bodyK (wq6b k) k Tryz.f36 wq6a [1, 1, 0, 1, 0, 0] I (wq2h s0 s1 s2 s3) (wq31 K) = wq7y k (fun s0 s1 s2 s3 => I 1004 (wq2h s0 s1 s2 s3)) s0 s1 s2 s3 K := by kernel_rfl
def wq73 (k : Nat) {R : Type} (E1004 : ((List Int) → (List Int) → Int → Int → Option R)) (x0 x1 : (List Int)) (K : (Bool → Option R)) : Option R := (cond ((x0.length : Int) != (x1.length : Int)) (K false) (E1004 x0 x1 (x0.length : Int) 0))
def wq1s (k : Nat) {R : Type}  : Nat → (List Int) → (List Int) → Int → Int → (Bool → Option R) → Option R
  | 0, _, _, _, _, _ => none
  | n + 1, s0, s1, s2, s3, K => wq7y k (fun s0 s1 s2 s3 => wq1s k  n s0 s1 s2 s3 K) s0 s1 s2 s3 K
theorem wqc8 (k : Nat) {R : Type} (I : Nat → St → Option R) (K : (Bool → Option R)) (n : Nat) : ∀ (s0 s1 : (List Int)) (s2 s3 : Int), wq47 k I n (wq2h s0 s1 s2 s3) K = wq1s k  n s0 s1 s2 s3 K := by
  induction n with
  | zero => intros; rfl
  | succ n ih =>
    intro s0 s1 s2 s3
    refine (?_ : _ = _).trans ((wqc7 k (upI 1004 (fun s => wq47 k I n s K) I) s0 s1 s2 s3 K).trans ?_)
    · rfl
    · simp only [wq1h, ih] <;> rfl
def wq2w (k : Nat) {R : Type} (x0 x1 : (List Int)) (K : (Bool → Option R)) : Option R := wq73 k (fun s0 s1 s2 s3 => wq1s k k s0 s1 s2 s3 K) x0 x1 K
theorem wqh3 (k : Nat) {R : Type} (x0 x1 : (List Int)) (K : (Bool → Option R)) : fnW (wq6b k) k Tryz.f36 wq6a [.v (.sl kI) x0, .v (.sl kI) x1] [] (wq31 K) = wq2w k x0 x1 K := by
  refine Eq.trans (b := wq73 k (fun s0 s1 s2 s3 => wq47 k (fun _ _ => none) k (wq2h s0 s1 s2 s3) K) x0 x1 K) (by kernel_rfl) ?_
  simp only [wqc8] <;> rfl
def wq3b (k : Nat) {R : Type} : List PV → List (Nm × HObj) → (Out → Option R) → Option R
  | [.v (.sl (.int .i64)) x0, .v (.sl (.int .i64)) x1], [], K => wq2w k x0 x1 (fun y0 => K (.ret [.v .bool y0] []))
  | _, _, _ => none
theorem wqjr (k : Nat) : DOK Tryz.prog 36 (wq3b k) := by
  intro ps hp R K r h
  have h : wq3b k ps hp K = some r := h
  unfold wq3b at h
  split at h
  · rw [← wqh3] at h
    exact fnW_ok ⟨tyT_ok, CTab.nil_ok, fun _ _ => rfl⟩ mixed (by kernel_rfl) (by kernel_rfl) h fun o ho => by unfold wq31 at ho; split at ho <;> first | exact ho | cases ho
  · cases h
end Go.Proofs.YtdfhgimidmfgfaaGreatDoor.Pvm
end


noncomputable section
namespace Go.Proofs.YtdfhgimidmfgfaaGreatDoor.Pvm
open Go Go.Proofs
def wqc9 : List LS := [.sl .str, .sl .str]
def wq1v {R : Type} (K : (Bool → Option R)) : Out → Option R
  | .ret [.v .bool y0] [] => K y0
  | _ => none
def wq3h : RetSpec := ⟨[.any], [], []⟩
def wq3i (k : Nat) : Ctx := ⟨tyT, [(1004, ⟨[(0, .sl .str), (1, .sl .str), (12, .any), (13, .any)], []⟩)], .nil, [], [], [(6, (.of [(0, 1), (1, 1), (2, 1), (4, 1), (5, 1), (6, 1), (3, 1), (7, 1), (8, 1)] .done))], @SH⟩
def wq1n (s0 s1 : (List (List UInt8))) (s2 s3 : Int) : St := ⟨mkT [(0, .v (.sl .str) s0), (1, .v (.sl .str) s1), (12, .v kI s2), (13, .v kI s3)], mkH []⟩
def wq2q (k : Nat) {R : Type} (I : Nat → St → Option R) (n : Nat) (s : St) (K : (Bool → Option R)) : Option R := loopK (wq3i k) k Tryz.f35 wq3h 1004 [1, 1, 0, 1, 0] I n s (wq1v K)
def wq4w (k : Nat) {R : Type} (E1004 : ((List (List UInt8)) → (List (List UInt8)) → Int → Int → Option R)) (s0 s1 : (List (List UInt8))) (s2 s3 : Int) (K : (Bool → Option R)) : Option R := (cond (decide (s3 < s2)) (cond (inb s3 (s0.length : Int)) (cond (inb s3 (s1.length : Int)) (cond (!((s0.getD s3.toNat Kd.str.zero) == (s1.getD s3.toNat Kd.str.zero))) (K false) (E1004 s0 s1 s2 (@Go.IntKind.wrap Go.IntKind.i64 (s3 + 1)))) none) none) (K true))
theorem wq9c (k : Nat) {R : Type} (I : Nat → St → Option R) (s0 s1 : (List (List UInt8))) (s2 s3 : Int) (K : (Bool → Option R)) : bodyK (wq3i k) k Tryz.f35 wq3h [1, 1, 0, 1, 0, 0] I (wq1n s0 s1 s2 s3) (wq1v K) = wq4w k (fun s0 s1 s2 s3 => I 1004 (wq1n s0 s1 s2 s3)) s0 s1 s2 s3 K := by kernel_rfl
def wq3w (k : Nat) {R : Type} (E1004 : ((List (List UInt8)) → (List (List UInt8)) → Int → Int → Option R)) (x0 x1 : (List (List UInt8))) (K : (Bool → Option R)) : Option R := (cond ((x0.length : Int) != (x1.length : Int)) (K false) (E1004 x0 x1 (x0.length : Int) 0))
def wq1c (k : Nat) {R : Type}  : Nat → (List (List UInt8)) → (List (List UInt8)) → Int → Int → (Bool → Option R) → Option R
  | 0, _, _, _, _, _ => none
  | n + 1, s0, s1, s2, s3, K => wq4w k (fun s0 s1 s2 s3 => wq1c k  n s0 s1 s2 s3 K) s0 s1 s2 s3 K
theorem wq9d (k : Nat) {R : Type} (I : Nat → St → Option R) (K : (Bool → Option R)) (n : Nat) : ∀ (s0 s1 : (List (List UInt8))) (s2 s3 : Int), wq2q k I n (wq1n s0 s1 s2 s3) K = wq1c k  n s0 s1 s2 s3 K := by
  induction n with
  | zero => intros; rfl
  | succ n ih =>
    intro s0 s1 s2 s3
    refine (?_ : _ = _).trans ((wq9c k (upI 1004 (fun s => wq2q k I n s K) I) s0 s1 s2 s3 K).trans ?_)
    · rfl
    · simp only [wq1h, ih] <;> rfl
def wq1p (k : Nat) {R : Type} (x0 x1 : (List (List UInt8))) (K : (Bool → Option R)) : Option R := wq3w k (fun s0 s1 s2 s3 => wq1c k k s0 s1 s2 s3 K) x0 x1 K
theorem wqbo (k : Nat) {R : Type} (x0 x1 : (List (List UInt8))) (K : (Bool → Option R)) : fnW (wq3i k) k Tryz.f35 wq3h [.v (.sl .str) x0, .v (.sl .str) x1] [] (wq1v K) = wq1p k x0 x1 K := by
  refine Eq.trans (b := wq3w k (fun s0 s1 s2 s3 => wq2q k (fun _ _ => none) k (wq1n s0 s1 s2 s3) K) x0 x1 K) (by kernel_rfl) ?_
  simp only [wq9d] <;> rfl
def wq1z (k : Nat) {R : Type} : List PV → List (Nm × HObj) → (Out → Option R) → Option R
  | [.v (.sl .str) x0, .v (.sl .str) x1], [], K => wq1p k x0 x1 (fun y0 => K (.ret [.v .bool y0] []))
  | _, _, _ => none
theorem wqeo (k : Nat) : DOK Tryz.prog 35 (wq1z k) := by
  intro ps hp R K r h
  have h : wq1z k ps hp K = some r := h
  unfold wq1z at h
  split at h
  · rw [← wqbo] at h
    exact fnW_ok ⟨tyT_ok, CTab.nil_ok, fun _ _ => rfl⟩ mixed (by kernel_rfl) (by kernel_rfl) h fun o ho => by unfold wq1v at ho; split at ho <;> first | exact ho | cases ho
  · cases h
end Go.Proofs.YtdfhgimidmfgfaaGreatDoor.Pvm
end


noncomputable section
namespace Go.Proofs.YtdfhgimidmfgfaaGreatDoor.Pvm
open Go Go.Proofs
def wqnd : List LS := [.ag [.any, .any, .any, .any, .sl .str, .sl kI], .ag [.any, .any, .any, .any, .sl .str, .sl kI]]
def wqlg {R : Type} (K : (Bool → Option R)) : Out → Option R
  | .ret [.v .bool y0] [] => K y0
  | _ => none
def wq10t : RetSpec := ⟨[.any], [], []⟩
def wq10u (k : Nat) : Ctx := ⟨tyT, [], (.add 35 wqc9 (wq1z k) (.add 36 wqi8 (wq3b k) .nil)), [], [], [], @SH⟩
def wqto (k : Nat) {R : Type}  (x0 x1 : Int) (x2 : (List UInt8)) (x3 : Bool) (x4 : (List (List UInt8))) (x5 : (List Int)) (x6 x7 : Int) (x8 : (List UInt8)) (x9 : Bool) (x10 : (List (List UInt8))) (x11 : (List Int)) (K : (Bool → Option R)) : Option R := (cond ((cond (cond (x0 == x6) (x2 == x8) false) (x3 == x9) false) == true) (wq1p k x4 x10 (fun y15 => (cond (y15 == true) (wq2w k x5 x11 (fun y16 => (K y16))) (K false)))) (K false))
def wqdu (k : Nat) {R : Type} (x0 x1 : Int) (x2 : (List UInt8)) (x3 : Bool) (x4 : (List (List UInt8))) (x5 : (List Int)) (x6 x7 : Int) (x8 : (List UInt8)) (x9 : Bool) (x10 : (List (List UInt8))) (x11 : (List Int)) (K : (Bool → Option R)) : Option R := wqto k  x0 x1 x2 x3 x4 x5 x6 x7 x8 x9 x10 x11 K
theorem wqwp (k : Nat) {R : Type} (x0 x1 : Int) (x2 : (List UInt8)) (x3 : Bool) (x4 : (List (List UInt8))) (x5 : (List Int)) (x6 x7 : Int) (x8 : (List UInt8)) (x9 : Bool) (x10 : (List (List UInt8))) (x11 : (List Int)) (K : (Bool → Option R)) : fnW (wq10u k) k Tryz.f34 wq10t [.agg [.v kI x0, .v kI x1, .v .str x2, .v .bool x3, .v (.sl .str) x4, .v (.sl kI) x5], .agg [.v kI x6, .v kI x7, .v .str x8, .v .bool x9, .v (.sl .str) x10, .v (.sl kI) x11]] [] (wqlg K) = wqdu k x0 x1 x2 x3 x4 x5 x6 x7 x8 x9 x10 x11 K := by
  kernel_rfl
def wq9h (k : Nat) {R : Type} : List PV → List (Nm × HObj) → (Out → Option R) → Option R
  | [.agg [.v (.int .i64) x0, .v (.int .i64) x1, .v .str x2, .v .bool x3, .v (.sl .str) x4, .v (.sl (.int .i64)) x5], .agg [.v (.int .i64) x6, .v (.int .i64) x7, .v .str x8, .v .bool x9, .v (.sl .str) x10, .v (.sl (.int .i64)) x11]], [], K => wqdu k x0 x1 x2 x3 x4 x5 x6 x7 x8 x9 x10 x11 (fun y0 => K (.ret [.v .bool y0] []))
  | _, _, _ => none
theorem wqtp (k : Nat) : DOK Tryz.prog 34 (wq9h k) := by
  intro ps hp R K r h
  have h : wq9h k ps hp K = some r := h
  unfold wq9h at h
  split at h
  · rw [← wqwp] at h
    exact fnW_ok ⟨tyT_ok, (wqi (wqeo k) (wqi (wqjr k) CTab.nil_ok)), fun _ _ => rfl⟩ mixed (by kernel_rfl) (by kernel_rfl) h fun o ho => by unfold wqlg at ho; split at ho <;> first | exact ho | cases ho
  · cases h
end Go.Proofs.YtdfhgimidmfgfaaGreatDoor.Pvm
end


noncomputable section
namespace Go.Proofs.YtdfhgimidmfgfaaGreatDoor.Pvm
open Go Go.Proofs
def wq37 : List LS := [.sl kdT48, .sl kdT48, .clo []]
def wqp {R : Type} (K : (Bool → Option R)) : Out → Option R
  | .ret [.v .bool y0] [] => K y0
  | _ => none
def wq12 : RetSpec := ⟨[.any], [], []⟩
def wq13 (k : Nat) : Ctx := ⟨tyT, [(1004, ⟨[(1, .sl kdT48), (2, .clo []), (15, .sl kdT48), (16, .any), (17, .any)], []⟩)], (.add 34 wqnd (wq9h k) .nil), [], [], [], @SH⟩
def wqm (s0 s1 : (List dT48)) (s2 s3 : Int) : St := ⟨mkT [(1, .v kdT25 s0), (2, .clo 34 []), (15, .v kdT25 s1), (16, .v kI s2), (17, .v kI s3)], mkH []⟩
def wqz (k : Nat) {R : Type} (I : Nat → St → Option R) (n : Nat) (s : St) (K : (Bool → Option R)) : Option R := loopK (wq13 k) k Tryz.f33 wq12 1004 [1, 1, 0, 1, 0] I n s (wqp K)
def wqo (k : Nat) {R : Type} (E1004 : ((List dT48) → (List dT48) → Int → Int → Option R)) (s0 s1 : (List dT48)) (s2 s3 : Int) (K : (Bool → Option R)) : Option R := (cond (decide (s3 < s2)) (cond (inb s3 (s1.length : Int)) (cond (inb s3 (s0.length : Int)) (wqdu k (s1.getD s3.toNat (Kd.zero (@Kd.pr kI (@Kd.pr kI (@Kd.pr Kd.str (@Kd.pr Kd.bool (@Kd.pr (@Kd.sl Kd.str) (@Kd.sl kI)))))))).1 ((s1.getD s3.toNat (Kd.zero (@Kd.pr kI (@Kd.pr kI (@Kd.pr Kd.str (@Kd.pr Kd.bool (@Kd.pr (@Kd.sl Kd.str) (@Kd.sl kI)))))))).2).1 (((s1.getD s3.toNat (Kd.zero (@Kd.pr kI (@Kd.pr kI (@Kd.pr Kd.str (@Kd.pr Kd.bool (@Kd.pr (@Kd.sl Kd.str) (@Kd.sl kI)))))))).2).2).1 ((((s1.getD s3.toNat (Kd.zero (@Kd.pr kI (@Kd.pr kI (@Kd.pr Kd.str (@Kd.pr Kd.bool (@Kd.pr (@Kd.sl Kd.str) (@Kd.sl kI)))))))).2).2).2).1 (((((s1.getD s3.toNat (Kd.zero (@Kd.pr kI (@Kd.pr kI (@Kd.pr Kd.str (@Kd.pr Kd.bool (@Kd.pr (@Kd.sl Kd.str) (@Kd.sl kI)))))))).2).2).2).2).1 (((((s1.getD s3.toNat (Kd.zero (@Kd.pr kI (@Kd.pr kI (@Kd.pr Kd.str (@Kd.pr Kd.bool (@Kd.pr (@Kd.sl Kd.str) (@Kd.sl kI)))))))).2).2).2).2).2 (s0.getD s3.toNat (Kd.zero (@Kd.pr kI (@Kd.pr kI (@Kd.pr Kd.str (@Kd.pr Kd.bool (@Kd.pr (@Kd.sl Kd.str) (@Kd.sl kI)))))))).1 ((s0.getD s3.toNat (Kd.zero (@Kd.pr kI (@Kd.pr kI (@Kd.pr Kd.str (@Kd.pr Kd.bool (@Kd.pr (@Kd.sl Kd.str) (@Kd.sl kI)))))))).2).1 (((s0.getD s3.toNat (Kd.zero (@Kd.pr kI (@Kd.pr kI (@Kd.pr Kd.str (@Kd.pr Kd.bool (@Kd.pr (@Kd.sl Kd.str) (@Kd.sl kI)))))))).2).2).1 ((((s0.getD s3.toNat (Kd.zero (@Kd.pr kI (@Kd.pr kI (@Kd.pr Kd.str (@Kd.pr Kd.bool (@Kd.pr (@Kd.sl Kd.str) (@Kd.sl kI)))))))).2).2).2).1 (((((s0.getD s3.toNat (Kd.zero (@Kd.pr kI (@Kd.pr kI (@Kd.pr Kd.str (@Kd.pr Kd.bool (@Kd.pr (@Kd.sl Kd.str) (@Kd.sl kI)))))))).2).2).2).2).1 (((((s0.getD s3.toNat (Kd.zero (@Kd.pr kI (@Kd.pr kI (@Kd.pr Kd.str (@Kd.pr Kd.bool (@Kd.pr (@Kd.sl Kd.str) (@Kd.sl kI)))))))).2).2).2).2).2 (fun y8 => (cond (!y8) (K false) (E1004 s0 s1 s2 (@Go.IntKind.wrap Go.IntKind.i64 (s3 + 1)))))) none) none) (K true))
theorem wq2r (k : Nat) {R : Type} (I : Nat → St → Option R) (s0 s1 : (List dT48)) (s2 s3 : Int) (K : (Bool → Option R)) : bodyK (wq13 k) k Tryz.f33 wq12 [1, 1, 0, 1, 0, 0] I (wqm s0 s1 s2 s3) (wqp K) = wqo k (fun s0 s1 s2 s3 => I 1004 (wqm s0 s1 s2 s3)) s0 s1 s2 s3 K := by kernel_rfl
def wq14 (k : Nat) {R : Type} (E1004 : ((List dT48) → (List dT48) → Int → Int → Option R)) (x0 x1 : (List dT48)) (K : (Bool → Option R)) : Option R := (cond ((x0.length : Int) != (x1.length : Int)) (K false) (E1004 x1 x0 (x0.length : Int) 0))
def wqd (k : Nat) {R : Type}  : Nat → (List dT48) → (List dT48) → Int → Int → (Bool → Option R) → Option R
  | 0, _, _, _, _, _ => none
  | n + 1, s0, s1, s2, s3, K => wqo k (fun s0 s1 s2 s3 => wqd k  n s0 s1 s2 s3 K) s0 s1 s2 s3 K
theorem wq2s (k : Nat) {R : Type} (I : Nat → St → Option R) (K : (Bool → Option R)) (n : Nat) : ∀ (s0 s1 : (List dT48)) (s2 s3 : Int), wqz k I n (wqm s0 s1 s2 s3) K = wqd k  n s0 s1 s2 s3 K := by
  induction n with
  | zero => intros; rfl
  | succ n ih =>
    intro s0 s1 s2 s3
    refine (?_ : _ = _).trans ((wq2r k (upI 1004 (fun s => wqz k I n s K) I) s0 s1 s2 s3 K).trans ?_)
    · rfl
    · simp only [wq1h, ih] <;> rfl
def wqu (k : Nat) {R : Type} (x0 x1 : (List dT48)) (K : (Bool → Option R)) : Option R := wq14 k (fun s0 s1 s2 s3 => wqd k k s0 s1 s2 s3 K) x0 x1 K
theorem wq34 (k : Nat) {R : Type} (x0 x1 : (List dT48)) (K : (Bool → Option R)) : fnW (wq13 k) k Tryz.f33 wq12 [.v kdT25 x0, .v kdT25 x1, .clo 34 []] [] (wqp K) = wqu k x0 x1 K := by
  refine Eq.trans (b := wq14 k (fun s0 s1 s2 s3 => wqz k (fun _ _ => none) k (wqm s0 s1 s2 s3) K) x0 x1 K) (by kernel_rfl) ?_
  simp only [wq2s] <;> rfl
def wqr (k : Nat) {R : Type} : List PV → List (Nm × HObj) → (Out → Option R) → Option R
  | [.v (.sl (.pr (.int .i64) (.pr (.int .i64) (.pr .str (.pr .bool (.pr (.sl .str) (.sl (.int .i64)))))))) x0, .v (.sl (.pr (.int .i64) (.pr (.int .i64) (.pr .str (.pr .bool (.pr (.sl .str) (.sl (.int .i64)))))))) x1, .clo 34 []], [], K => wqu k x0 x1 (fun y0 => K (.ret [.v .bool y0] []))
  | _, _, _ => none
theorem wq3j (k : Nat) : DOK Tryz.prog 33 (wqr k) := by
  intro ps hp R K r h
  have h : wqr k ps hp K = some r := h
  unfold wqr at h
  split at h
  · rw [← wq34] at h
    exact fnW_ok ⟨tyT_ok, (wqi (wqtp k) CTab.nil_ok), fun _ _ => rfl⟩ mixed (by kernel_rfl) (by kernel_rfl) h fun o ho => by unfold wqp at ho; split at ho <;> first | exact ho | cases ho
  · cases h
end Go.Proofs.YtdfhgimidmfgfaaGreatDoor.Pvm
end


noncomputable section
namespace Go.Proofs.YtdfhgimidmfgfaaGreatDoor.Pvm
open Go Go.Proofs
def wq13c : List LS := [.ag [.sl kdT48], .ag [.sl kdT48]]
def wqqu {R : Type} (K : (Bool → Option R)) : Out → Option R
  | .ret [.v .bool y0] [] => K y0
  | _ => none
def wq15v : RetSpec := ⟨[.any], [], []⟩
def wq15w (k : Nat) : Ctx := ⟨tyT, [], (.add 33 wq37 (wqr k) (.add 34 wqnd (wq9h k) .nil)), [], [], [], @SH⟩
def wqzd (k : Nat) {R : Type}  (x0 x1 : (List dT48)) (K : (Bool → Option R)) : Option R := (wqu k x0 x1 (fun y5 => (K y5)))
def wqfz (k : Nat) {R : Type} (x0 x1 : (List dT48)) (K : (Bool → Option R)) : Option R := wqzd k  x0 x1 K
theorem wq10v (k : Nat) {R : Type} (x0 x1 : (List dT48)) (K : (Bool → Option R)) : fnW (wq15w k) k Tryz.f12 wq15v [.agg [.v kdT25 x0], .agg [.v kdT25 x1]] [] (wqqu K) = wqfz k x0 x1 K := by
  kernel_rfl
def wqhn (k : Nat) {R : Type} : List PV → List (Nm × HObj) → (Out → Option R) → Option R
  | [.agg [.v (.sl (.pr (.int .i64) (.pr (.int .i64) (.pr .str (.pr .bool (.pr (.sl .str) (.sl (.int .i64)))))))) x0], .agg [.v (.sl (.pr (.int .i64) (.pr (.int .i64) (.pr .str (.pr .bool (.pr (.sl .str) (.sl (.int .i64)))))))) x1]], [], K => wqfz k x0 x1 (fun y0 => K (.ret [.v .bool y0] []))
  | _, _, _ => none
theorem wq191 (k : Nat) : DOK Tryz.prog 12 (wqhn k) := by
  intro ps hp R K r h
  have h : wqhn k ps hp K = some r := h
  unfold wqhn at h
  split at h
  · rw [← wq10v] at h
    exact fnW_ok ⟨tyT_ok, (wqi (wq3j k) (wqi (wqtp k) CTab.nil_ok)), fun _ _ => rfl⟩ mixed (by kernel_rfl) (by kernel_rfl) h fun o ho => by unfold wqqu at ho; split at ho <;> first | exact ho | cases ho
  · cases h
end Go.Proofs.YtdfhgimidmfgfaaGreatDoor.Pvm
end


noncomputable section
namespace Go.Proofs.YtdfhgimidmfgfaaGreatDoor.Pvm
open Go Go.Proofs
def wqdv : List LS := [.obj 1 [.nps 1 0, .own 21 5 (.int .u8)], .any]
def wq6c {R : Type} (K : ((List Int) → Int → Option R)) : Out → Option R
  | .ret [.v (.int .i64) y1, .nilif] [(21, .row 5 (.int .u8) y0), (1, .var 70 [.nps 1 0, .row 21])] => K y0 y1
  | _ => none
def wqep : RetSpec := ⟨[.any, .any], [(1, .obj 1 [.nps 1 0, .own 21 5 (.int .u8)])], []⟩
def wqeq (k : Nat) : Ctx := ⟨tyT, [], (.add 82 wq7u (wq2m k) .nil), [], [1], [], @SH⟩
def wq7z (k : Nat) {R : Type}  (x0 : (List Int)) (x1 : (List UInt8)) (K : ((List Int) → Int → Option R)) : Option R := (wq26 k x0 (fun y5 => (cond (fits y5.length (wqn x1).length 1) (K (y5 ++ (wqn x1)) (x1.length : Int)) none)))
def wqw (k : Nat) {R : Type} (x0 : (List Int)) (x1 : (List UInt8)) (K : ((List Int) → Int → Option R)) : Option R := wq7z k  x0 x1 K
theorem wqca (k : Nat) {R : Type} (x0 : (List Int)) (x1 : (List UInt8)) (K : ((List Int) → Int → Option R)) : fnW (wqeq k) k Tryz.f53 wqep [.ptr 1 0, .v .str x1] [(21, .row 5 (.int .u8) x0), (1, .var 70 [.nps 1 0, .row 21])] (wq6c K) = wqw k x0 x1 K := by
  kernel_rfl
def wq2b (k : Nat) {R : Type} : List PV → List (Nm × HObj) → (Out → Option R) → Option R
  | [.ptr 1 0, .v .str x1], [(21, .row 5 (.int .u8) x0), (1, .var 70 [.nps 1 0, .row 21])], K => wqw k x0 x1 (fun y0 y1 => K (.ret [.v (.int .i64) y1, .nilif] [(21, .row 5 (.int .u8) y0), (1, .var 70 [.nps 1 0, .row 21])]))
  | _, _, _ => none
theorem wqfk (k : Nat) : DOK Tryz.prog 53 (wq2b k) := by
  intro ps hp R K r h
  have h : wq2b k ps hp K = some r := h
  unfold wq2b at h
  split at h
  · rw [← wqca] at h
    exact fnW_ok ⟨tyT_ok, (CTab.add_ok (fun h => wq93 k h) CTab.nil_ok), fun _ _ => rfl⟩ mixed (by kernel_rfl) (by kernel_rfl) h fun o ho => by unfold wq6c at ho; split at ho <;> first | exact ho | cases ho
  · cases h
end Go.Proofs.YtdfhgimidmfgfaaGreatDoor.Pvm
end


noncomputable section
namespace Go.Proofs.YtdfhgimidmfgfaaGreatDoor.Pvm
open Go Go.Proofs
def wq10w : List LS := [.any]
def wqd7 {R : Type} (K : ((List UInt8) → Option R)) : Out → Option R
  | .ret [.v .str y0] [] => K y0
  | _ => none
def wqlh : RetSpec := ⟨[.any], [], []⟩
def wqli (k : Nat) : Ctx := ⟨tyT, [(1004, ⟨[(0, .any), (3, .obj 13 [.nps 13 0, .own 33 5 (.int .u8)]), (8, .any), (9, .any)], []⟩)], (.add 28 wq5r (wq2e k) (.add 53 wqdv (wq2b k) (.add 81 wq43 (wq1f k) .nil))), [], [], [(15, (.of [(0, 1), (1, 1), (2, 1), (3, 1), (4, 1), (5, 1), (6, 1), (7, 1), (8, 1), (9, 1), (10, 1), (11, 1), (12, 1), (13, 1), (14, 0)] .done))], @SH⟩
def wq8s (s0 : (List UInt8)) (s1 : (List Int)) (s2 s3 : Int) : St := ⟨mkT [(0, .v .str s0), (3, .ptr 13 0), (8, .v kI s2), (9, .v kI s3)], mkH [(33, .row 5 (.int .u8) s1), (13, .var 70 [.nps 13 0, .row 33])]⟩
def wqer (k : Nat) {R : Type} (I : Nat → St → Option R) (n : Nat) (s : St) (K : ((List UInt8) → Option R)) : Option R := loopK (wqli k) k Tryz.f52 wqlh 1004 [1, 1, 1, 0, 1, 0] I n s (wqd7 K)
def wq9r (k : Nat) {R : Type} (E1004 : ((List UInt8) → (List Int) → Int → Int → Option R)) (s0 : (List UInt8)) (s1 : (List Int)) (s2 s3 : Int) (K : ((List UInt8) → Option R)) : Option R := (cond (decide (s3 < s2)) (cond (inb s3 (s0.length : Int)) (cond (cond (((s0.getD s3.toNat 0).toNat : Int) == 92) true (((s0.getD s3.toNat 0).toNat : Int) == 34)) (cond (joins [92] (@Array.toList UInt8 (@ByteArray.data (@Go.Utf8.encode (@Go.IntKind.wrap Go.IntKind.i32 ((s0.getD s3.toNat 0).toNat : Int)))))) (wqw k s1 ([92] ++ (@Array.toList UInt8 (@ByteArray.data (@Go.Utf8.encode (@Go.IntKind.wrap Go.IntKind.i32 ((s0.getD s3.toNat 0).toNat : Int)))))) (fun y8 y9 => (E1004 s0 y8 s2 (@Go.IntKind.wrap Go.IntKind.i64 (s3 + 1))))) none) (cond (((s0.getD s3.toNat 0).toNat : Int) == 10) (wqw k s1 [92, 110] (fun y8 y9 => (E1004 s0 y8 s2 (@Go.IntKind.wrap Go.IntKind.i64 (s3 + 1))))) (cond (((s0.getD s3.toNat 0).toNat : Int) == 9) (wqw k s1 [92, 116] (fun y8 y9 => (E1004 s0 y8 s2 (@Go.IntKind.wrap Go.IntKind.i64 (s3 + 1))))) (cond (cond (decide (((s0.getD s3.toNat 0).toNat : Int) < 32)) true (((s0.getD s3.toNat 0).toNat : Int) == 127)) (cond (bnd (ishr Go.IntKind.u8 ((s0.getD s3.toNat 0).toNat : Int) 4) (@Go.IntKind.wrap Go.IntKind.u8 ((ishr Go.IntKind.u8 ((s0.getD s3.toNat 0).toNat : Int) 4) + 1)) (([(48 : UInt8), 49, 50, 51, 52, 53, 54, 55, 56, 57, 97, 98, 99, 100, 101, 102]).length : Int)) (cond (joins [92, 120] (cut [48, 49, 50, 51, 52, 53, 54, 55, 56, 57, 97, 98, 99, 100, 101, 102] (ishr Go.IntKind.u8 ((s0.getD s3.toNat 0).toNat : Int) 4) (@Go.IntKind.wrap Go.IntKind.u8 ((ishr Go.IntKind.u8 ((s0.getD s3.toNat 0).toNat : Int) 4) + 1)))) (cond (bnd (ibits @Go.BinOp.and Go.IntKind.u8 ((s0.getD s3.toNat 0).toNat : Int) 15) (@Go.IntKind.wrap Go.IntKind.u8 ((ibits @Go.BinOp.and Go.IntKind.u8 ((s0.getD s3.toNat 0).toNat : Int) 15) + 1)) (([(48 : UInt8), 49, 50, 51, 52, 53, 54, 55, 56, 57, 97, 98, 99, 100, 101, 102]).length : Int)) (cond (joins ([92, 120] ++ (cut [48, 49, 50, 51, 52, 53, 54, 55, 56, 57, 97, 98, 99, 100, 101, 102] (ishr Go.IntKind.u8 ((s0.getD s3.toNat 0).toNat : Int) 4) (@Go.IntKind.wrap Go.IntKind.u8 ((ishr Go.IntKind.u8 ((s0.getD s3.toNat 0).toNat : Int) 4) + 1)))) (cut [48, 49, 50, 51, 52, 53, 54, 55, 56, 57, 97, 98, 99, 100, 101, 102] (ibits @Go.BinOp.and Go.IntKind.u8 ((s0.getD s3.toNat 0).toNat : Int) 15) (@Go.IntKind.wrap Go.IntKind.u8 ((ibits @Go.BinOp.and Go.IntKind.u8 ((s0.getD s3.toNat 0).toNat : Int) 15) + 1)))) (wqw k s1 (([92, 120] ++ (cut [48, 49, 50, 51, 52, 53, 54, 55, 56, 57, 97, 98, 99, 100, 101, 102] (ishr Go.IntKind.u8 ((s0.getD s3.toNat 0).toNat : Int) 4) (@Go.IntKind.wrap Go.IntKind.u8 ((ishr Go.IntKind.u8 ((s0.getD s3.toNat 0).toNat : Int) 4) + 1)))) ++ (cut [48, 49, 50, 51, 52, 53, 54, 55, 56, 57, 97, 98, 99, 100, 101, 102] (ibits @Go.BinOp.and Go.IntKind.u8 ((s0.getD s3.toNat 0).toNat : Int) 15) (@Go.IntKind.wrap Go.IntKind.u8 ((ibits @Go.BinOp.and Go.IntKind.u8 ((s0.getD s3.toNat 0).toNat : Int) 15) + 1)))) (fun y8 y9 => (E1004 s0 y8 s2 (@Go.IntKind.wrap Go.IntKind.i64 (s3 + 1))))) none) none) none) none) (wqs k s1 ((s0.getD s3.toNat 0).toNat : Int) (fun y8 => (E1004 s0 y8 s2 (@Go.IntKind.wrap Go.IntKind.i64 (s3 + 1))))))))) none) (wqs k s1 34 (fun y8 => (wq1m k y8 (fun y9 y10 => (K y10))))))
theorem wqot (k : Nat) {R : Type} (I : Nat → St → Option R) (s0 : (List UInt8)) (s1 : (List Int)) (s2 s3 : Int) (K : ((List UInt8) → Option R)) : bodyK (wqli k) k Tryz.f52 wqlh [1, 1, 1, 0, 1, 0, 0] I (wq8s s0 s1 s2 s3) (wqd7 K) = wq9r k (fun s0 s1 s2 s3 => I 1004 (wq8s s0 s1 s2 s3)) s0 s1 s2 s3 K := by kernel_rfl
def wqou (k : Nat) {R : Type} (E1004 : ((List UInt8) → (List Int) → Int → Int → Option R)) (x0 : (List UInt8)) (K : ((List UInt8) → Option R)) : Option R := (wqs k [] 34 (fun y5 => (E1004 x0 y5 (x0.length : Int) 0)))
def wq3x (k : Nat) {R : Type}  : Nat → (List UInt8) → (List Int) → Int → Int → ((List UInt8) → Option R) → Option R
  | 0, _, _, _, _, _ => none
  | n + 1, s0, s1, s2, s3, K => wq9r k (fun s0 s1 s2 s3 => wq3x k  n s0 s1 s2 s3 K) s0 s1 s2 s3 K
theorem wqov (k : Nat) {R : Type} (I : Nat → St → Option R) (K : ((List UInt8) → Option R)) (n : Nat) : ∀ (s0 : (List UInt8)) (s1 : (List Int)) (s2 s3 : Int), wqer k I n (wq8s s0 s1 s2 s3) K = wq3x k  n s0 s1 s2 s3 K := by
  induction n with
  | zero => intros; rfl
  | succ n ih =>
    intro s0 s1 s2 s3
    refine (?_ : _ = _).trans ((wqot k (upI 1004 (fun s => wqer k I n s K) I) s0 s1 s2 s3 K).trans ?_)
    · rfl
    · simp only [wq1h, ih] <;> rfl
def wqgv (k : Nat) {R : Type} (x0 : (List UInt8)) (K : ((List UInt8) → Option R)) : Option R := wqou k (fun s0 s1 s2 s3 => wq3x k k s0 s1 s2 s3 K) x0 K
theorem wqy9 (k : Nat) {R : Type} (x0 : (List UInt8)) (K : ((List UInt8) → Option R)) : fnW (wqli k) k Tryz.f52 wqlh [.v .str x0] [] (wqd7 K) = wqgv k x0 K := by
  refine Eq.trans (b := wqou k (fun s0 s1 s2 s3 => wqer k (fun _ _ => none) k (wq8s s0 s1 s2 s3) K) x0 K) (by kernel_rfl) ?_
  simp only [wqov] <;> rfl
def wqfl (k : Nat) {R : Type} : List PV → List (Nm × HObj) → (Out → Option R) → Option R
  | [.v .str x0], [], K => wqgv k x0 (fun y0 => K (.ret [.v .str y0] []))
  | _, _, _ => none
theorem wq15x (k : Nat) : DOK Tryz.prog 52 (wqfl k) := by
  intro ps hp R K r h
  have h : wqfl k ps hp K = some r := h
  unfold wqfl at h
  split at h
  · rw [← wqy9] at h
    exact fnW_ok ⟨tyT_ok, (CTab.add_ok (fun h => wq6w k h) (wqi (wqfk k) (wqi (wq4z k) CTab.nil_ok))), fun _ _ => rfl⟩ mixed (by kernel_rfl) (by kernel_rfl) h fun o ho => by unfold wqd7 at ho; split at ho <;> first | exact ho | cases ho
  · cases h
end Go.Proofs.YtdfhgimidmfgfaaGreatDoor.Pvm
end


set_option maxHeartbeats 1000000
set_option maxRecDepth 100000
namespace Go.Proofs.YtdfhgimidmfgfaaGreatDoor.Pvm
open Go Go.Proofs Go.RowKit
theorem wque (b : Nat) (w : World) (h0 : w.cell? ⟨b, 1, none⟩ = some (.pointer (some ⟨b, 1, none⟩))) :
    Calls Tryz.prog 82 #[.pointer (some ⟨b, 1, none⟩)] w fun e w' => e = .returned (.tuple #[]) ∧ w' = w := by
  have t76 : Tryz.prog.underlying 68 = some (.pointer 70) := by kernel_rfl
  have hs : (Tryz.prog.info? 70).isSome = true := by kernel_rfl
  obtain ⟨j, hj⟩ := Option.isSome_iff_exists.1 hs
  go_enter Tryz.func82, Tryz.ntmps82
  go_wp2
  rw [Lib.run_neq_ptr_same w _ t76 hj]
  go_wp2
  go_end0
  exact ⟨rfl, rfl⟩
theorem wqsu (b : Nat) (w : World) (h0 : w.cell? ⟨b, 1, none⟩ = some (.pointer none)) (hsh : w.shape? b = some (72, 3)) (hfz : w.frozen? ⟨b, 1, none⟩ = false) :
    Calls Tryz.prog 82 #[.pointer (some ⟨b, 1, none⟩)] w fun e w' => e = .returned (.tuple #[]) ∧ w' = w.setCell ⟨b, 1, none⟩ (.pointer (some ⟨b, 1, none⟩)) := by
  have t76 : Tryz.prog.underlying 68 = some (.pointer 70) := by kernel_rfl
  have t89 : Tryz.prog.underlying 164 = some .unsafePointer := by kernel_rfl
  have hs : (Tryz.prog.info? 70).map (·.size) = some 2 := by kernel_rfl
  obtain ⟨j, hj, hjs⟩ := Option.map_eq_some_iff.1 hs
  have hlies : liesAt Tryz.prog Tryz.prog.depth 72 (3 / Tryz.prog.cellsOf 72) 1 70 1 = true := by kernel_rfl
  go_enter Tryz.func82, Tryz.ntmps82
  go_wp2
  rw [Lib.run_to_unsafe w ⟨b, 1, none⟩ t76 t89 hj (by rw [hjs]; decide) hsh (Nat.lt_of_sub_eq_succ (rfl : 3 - 1 = 2))]
  simp only [Result.andThen]
  rw [Oper.upon_value]
  go_wp2
  rw [run_callFunc_extern Tryz.func117 (by kernel_rfl) (by kernel_rfl) (by kernel_rfl) (e := Extern.AbiNoEscape.same) (by kernel_rfl)]
  rw [Lib.run_noEscape]
  simp only [Result.andThen]
  rw [Oper.upon_value]
  go_wp2
  rw [Lib.run_from_unsafe w ⟨b, 1, none⟩ t89 t76 hj hsh hlies]
  simp only [Result.andThen]
  rw [Oper.upon_value]
  go_wp2
  go_end0
  exact ⟨rfl, rfl⟩
end Go.Proofs.YtdfhgimidmfgfaaGreatDoor.Pvm
set_option maxRecDepth 1000000
namespace Go.Proofs.YtdfhgimidmfgfaaGreatDoor.Pvm
open Go Go.Proofs
def wq6d : List LS := [.obj 1 [.sl (.pr (.int .i64) (.pr (.int .i64) (.pr .str (.pr .bool (.pr (.sl .str) (.sl (.int .i64))))))), .nps 1 1, .own 21 5 (.int .u8)]]
def wq1q (k : Nat) {R : Type} (d0 : (List dT48)) (x0 : List Int) (K : (List dT48) → List Int → Option R) : Option R := K d0 x0
def wq20 (k : Nat) {R : Type} : List PV → List (Nm × HObj) → (Out → Option R) → Option R
  | [.ptr 1 1], [(21, .row 5 (.int .u8) x0), (1, .var 72 [.v (.sl (.pr (.int .i64) (.pr (.int .i64) (.pr .str (.pr .bool (.pr (.sl .str) (.sl (.int .i64)))))))) d0, .nps 1 1, .row 21])], K => wq1q k d0 x0 (fun d1 y0 => K (.ret [] [(21, .row 5 (.int .u8) y0), (1, .var 72 [.v (.sl (.pr (.int .i64) (.pr (.int .i64) (.pr .str (.pr .bool (.pr (.sl .str) (.sl (.int .i64)))))))) d1, .nps 1 1, .row 21])]))
  | _, _, _ => none
theorem wq9i (vs : Array Value) (w : World) : (callFunc 82 vs).run Tryz.prog w = .ok (.enter 82 vs) w := by
  have h1 : Tryz.prog.funcs[82]? = some Tryz.f82 := by kernel_rfl
  have h2 : (Tryz.f82.name == "runtime.NumGoroutine") = false := by kernel_rfl
  have h3 : Tryz.f82.body.isNone = false := by kernel_rfl
  unfold callFunc
  rw [Sem.run_bind]
  have e2 : (program).run Tryz.prog w = .ok Tryz.prog w := rfl
  rw [e2, Result.andThen_ok, h1]
  simp only [h2, h3, Bool.false_eq_true, if_false]
  rfl
theorem wq7g (k : Nat) {ps : List PV} {hp : List (Nm × HObj)} {R : Type} {K : Out → Option R} {r : R} (h : wq20 k ps hp K = some r) : DoesTo Tryz.prog 82 ps hp fun out => K out = some r := by
  unfold wq20 at h
  split at h
  · next x0 d0 =>
    intro G w vals hr obj dis
    obtain ⟨v0, l0, rfl, h0, rfl⟩ := hr
    obtain ⟨rfl, _⟩ := h0
    generalize hHP : [(21, HObj.row 5 (.int .u8) x0), (1, .var 72 [.v (.sl (.pr (.int .i64) (.pr (.int .i64) (.pr .str (.pr .bool (.pr (.sl .str) (.sl (.int .i64)))))))) d0, .nps 1 1, .row 21])] = HP at *
    have hK : K (.ret [] HP) = some r := by subst hHP; exact h
    have l1 : mkH HP 1 = some (.var 72 [.v (.sl (.pr (.int .i64) (.pr (.int .i64) (.pr .str (.pr .bool (.pr (.sl .str) (.sl (.int .i64)))))))) d0, .nps 1 1, .row 21]) := by subst hHP; rfl
    have hob := obj 1 _ l1
    obtain ⟨vs, hw, q0, t0, rfl, hq0, q1, t1, rfl, hq1, q2, t2, rfl, hq2, rfl⟩ := hob
    show Does _ _ #[_] _ _
    unfold Does
    rw [wq9i]
    have hcell : w.cell? ⟨G.bk 1, 1, none⟩ = some q1 := by simp [World.cell?, hw]
    have hlt : G.bk 1 < w.heap.size := (Array.getElem?_eq_some_iff.1 hw).1
    rcases hq1 with rfl | ⟨rfl, _⟩
    · refine Calls.mono (wqsu (G.bk 1) w hcell (by simp [World.shape?, hw]) (by simp [World.frozen?, hw])) fun e w' hh => ?_
      obtain ⟨rfl, rfl⟩ := hh
      have oth : ∀ b, b ≠ G.bk 1 → (w.setCell ⟨G.bk 1, 1, none⟩ (.pointer (some ⟨G.bk 1, 1, none⟩))).heap[b]? = w.heap[b]? := fun b hb => Go.Deep.blk_setCell_other w _ _ b hb
      have bk1 : blkOf (mkH HP) G 1 = some (G.bk 1) := by simp [blkOf, l1]
      have C : Carry (mkH HP) G w (mkH HP) G (w.setCell ⟨G.bk 1, 1, none⟩ (.pointer (some ⟨G.bk 1, 1, none⟩))) .row :=
        ⟨fun b ho _ => ⟨ho, oth b fun e => ho.1 1 (by rw [bk1, e])⟩, fun n t cs hn => ⟨⟨cs, hn⟩, rfl⟩, fun n ag V es hn => ⟨⟨es, hn⟩, rfl⟩, fun n e K xs hn => ⟨⟨rfl, e, K, xs, hn⟩, fun m hm => by cases hm; exact ⟨e, xs, hn, Nat.le_refl _⟩⟩⟩
      have hq2' := RV.carry C _ _ hq2
      have hq0' := RV.carry C _ _ hq0
      refine ⟨.ret [] HP, hK, G, ⟨_, rfl, ⟨[], rfl, rfl⟩⟩, ⟨fun n o hn => ?_, dis.inj, fun n t cs hn o ho => ?_, fun n ag V es hn o ho => (wqhb (by rw [← hHP]; rfl) hn).elim, fun b hb hf => oth b fun e => hf 1 (by rw [bk1, e]), rfl, fun n b hb => .inl ⟨n, hb⟩, by simp [World.setCell], rfl, rfl, rfl⟩⟩
      · by_cases hn1 : n = 1
        · subst hn1
          rw [show mkH (Out.hs (.ret [] HP)) 1 = some (.var 72 [.v (.sl (.pr (.int .i64) (.pr (.int .i64) (.pr .str (.pr .bool (.pr (.sl .str) (.sl (.int .i64)))))))) d0, .nps 1 1, .row 21]) from l1] at hn
          cases hn
          refine ⟨[q0, .pointer (some ⟨G.bk 1, 1, none⟩), q2], ?_, _, _, rfl, hq0', _, _, rfl, .inr ⟨rfl, 72, _, l1⟩, _, _, rfl, hq2', rfl⟩
          have hw2 := (Array.getElem?_eq_some_iff.1 hw).2
          simp only [World.setCell, Array.getElem?_modify, if_pos, hw]
          simp
        · have hne : ∀ b, blkOf (mkH HP) G n = some b → b ≠ G.bk 1 := fun b hb e => hn1 (dis.inj n 1 b hb (by rw [bk1, e]))
          have := RO.carry C hn (obj n o hn) (fun b hb => oth b (hne b hb)) rfl rfl
          rwa [wqg1] at this
      · have e1 : look HP n = some o := ho
        rw [hn] at e1; cases e1
        exact ⟨⟨cs, rfl⟩, rfl⟩
    · refine Calls.mono (wque (G.bk 1) w hcell) fun e w' hh => ?_
      obtain ⟨rfl, rfl⟩ := hh
      refine ⟨.ret [] HP, hK, G, ⟨_, rfl, ⟨[], rfl, rfl⟩⟩, ⟨obj, dis.inj, fun n t cs hn o ho => ?_, fun n ag V es hn o ho => (wqhb (by rw [← hHP]; rfl) hn).elim, fun _ _ _ => rfl, rfl, fun n b hb => .inl ⟨n, hb⟩, Nat.le_refl _, rfl, rfl, rfl⟩⟩
      have e1 : look HP n = some o := ho
      rw [hn] at e1; cases e1
      exact ⟨⟨cs, rfl⟩, rfl⟩
  · cases h
end Go.Proofs.YtdfhgimidmfgfaaGreatDoor.Pvm
set_option maxHeartbeats 0
noncomputable section
namespace Go.Proofs.YtdfhgimidmfgfaaGreatDoor.Pvm
open Go Go.Proofs
def wq5h : List LS := [.obj 1 [.sl kdT48, .nps 1 1, .own 21 5 (.int .u8)], .any]
def wq4x {R : Type} (K : ((List dT48) → (List Int) → Int → Option R)) : Out → Option R
  | .ret [.v (.int .i64) y2, .nilif] [(21, .row 5 (.int .u8) y1), (1, .var 72 [.v (.sl (.pr (.int .i64) (.pr (.int .i64) (.pr .str (.pr .bool (.pr (.sl .str) (.sl (.int .i64)))))))) y0, .nps 1 1, .row 21])] => K y0 y1 y2
  | _ => none
def wqbp : RetSpec := ⟨[.any, .any], [(1, .obj 1 [.sl (.pr (.int .i64) (.pr (.int .i64) (.pr .str (.pr .bool (.pr (.sl .str) (.sl (.int .i64))))))), .nps 1 1, .own 21 5 (.int .u8)])], []⟩
def wqbq (k : Nat) : Ctx := ⟨tyT, [], (.add 82 wq6d (wq20 k) .nil), [], [1], [], @SH⟩
def wq6e (k : Nat) {R : Type}  (x0 : (List dT48)) (x1 : (List Int)) (x2 : (List UInt8)) (K : ((List dT48) → (List Int) → Int → Option R)) : Option R := (wq1q k x0 x1 (fun y6 y7 => (cond (fits y7.length (wqn x2).length 1) (K y6 (y7 ++ (wqn x2)) (x2.length : Int)) none)))
def wqh (k : Nat) {R : Type} (x0 : (List dT48)) (x1 : (List Int)) (x2 : (List UInt8)) (K : ((List dT48) → (List Int) → Int → Option R)) : Option R := wq6e k  x0 x1 x2 K
theorem wqaf (k : Nat) {R : Type} (x0 : (List dT48)) (x1 : (List Int)) (x2 : (List UInt8)) (K : ((List dT48) → (List Int) → Int → Option R)) : fnW (wqbq k) k Tryz.f53 wqbp [.ptr 1 1, .v .str x2] [(21, .row 5 (.int .u8) x1), (1, .var 72 [.v kdT25 x0, .nps 1 1, .row 21])] (wq4x K) = wqh k x0 x1 x2 K := by
  kernel_rfl
def wq1e (k : Nat) {R : Type} : List PV → List (Nm × HObj) → (Out → Option R) → Option R
  | [.ptr 1 1, .v .str x2], [(21, .row 5 (.int .u8) x1), (1, .var 72 [.v (.sl (.pr (.int .i64) (.pr (.int .i64) (.pr .str (.pr .bool (.pr (.sl .str) (.sl (.int .i64)))))))) x0, .nps 1 1, .row 21])], K => wqh k x0 x1 x2 (fun y0 y1 y2 => K (.ret [.v (.int .i64) y2, .nilif] [(21, .row 5 (.int .u8) y1), (1, .var 72 [.v (.sl (.pr (.int .i64) (.pr (.int .i64) (.pr .str (.pr .bool (.pr (.sl .str) (.sl (.int .i64)))))))) y0, .nps 1 1, .row 21])]))
  | _, _, _ => none
theorem wq6f (k : Nat) : DOK Tryz.prog 53 (wq1e k) := by
  intro ps hp R K r h
  have h : wq1e k ps hp K = some r := h
  unfold wq1e at h
  split at h
  · rw [← wqaf] at h
    exact fnW_ok ⟨tyT_ok, (CTab.add_ok (fun h => wq7g k h) CTab.nil_ok), fun _ _ => rfl⟩ mixed (by kernel_rfl) (by kernel_rfl) h fun o ho => by unfold wq4x at ho; split at ho <;> first | exact ho | cases ho
  · cases h
end Go.Proofs.YtdfhgimidmfgfaaGreatDoor.Pvm
end


namespace Go.Proofs
open Go.Shelf
def Tryz.laysLaysn105_ren : Go.Shelf.Ren := ⟨fun | 105 => 83 | 212 => 118 | 99 => 119 | 165 => 120 | 166 => 53 | 170 => 27 | 169 => 28 | 263 => 147 | 264 => 148 | 206 => 149 | 240 => 82 | 241 => 150 | 276 => 117 | 277 => 170 | n => n, fun | 9 => 9 | 3 => 3 | 4 => 4 | 20 => 20 | 0 => 0 | 46 => 134 | 109 => 166 | 5 => 5 | 72 => 70 | 76 => 104 | 51 => 185 | 146 => 186 | 53 => 159 | 148 => 188 | 70 => 68 | 37 => 35 | 75 => 103 | 127 => 107 | 164 => 164 | 80 => 74 | n => n, fun | n => n⟩
theorem Tryz.laysLaysn105 : Go.Proofs.Lays.n105 Tryz.prog Tryz.laysLaysn105_ren := {
  mixed := by kernel_rfl
  f99 := Tryz.func119.trans (congrArg some (by kernel_rfl))
  f105 := Tryz.func83.trans (congrArg some (by kernel_rfl))
  f165 := Tryz.func120.trans (congrArg some (by kernel_rfl))
  f166 := Tryz.func53.trans (congrArg some (by kernel_rfl))
  f169 := Tryz.func28.trans (congrArg some (by kernel_rfl))
  f170 := Tryz.func27.trans (congrArg some (by kernel_rfl))
  f206 := Tryz.func149.trans (congrArg some (by kernel_rfl))
  f212 := Tryz.func118.trans (congrArg some (by kernel_rfl))
  f240 := Tryz.func82.trans (congrArg some (by kernel_rfl))
  f241 := Tryz.func150.trans (congrArg some (by kernel_rfl))
  f263 := Tryz.func147.trans (congrArg some (by kernel_rfl))
  f264 := Tryz.func148.trans (congrArg some (by kernel_rfl))
  f276 := Tryz.func117.trans (congrArg some (by kernel_rfl))
  f277 := Tryz.func170.trans (congrArg some (by kernel_rfl))
  t0 := Tryz.underlying0
  a0 := Tryz.isAgg0
  z0 := Tryz.sizeOf0
  v0 := Tryz.zeroValue0
  t3 := Tryz.underlying3
  a3 := Tryz.isAgg3
  z3 := Tryz.sizeOf3
  v3 := Tryz.zeroValue3
  t4 := Tryz.underlying4
  a4 := Tryz.isAgg4
  z4 := Tryz.sizeOf4
  v4 := Tryz.zeroValue4
  t5 := Tryz.underlying5
  a5 := Tryz.isAgg5
  z5 := Tryz.sizeOf5
  v5 := Tryz.zeroValue5
  t9 := Tryz.underlying9
  a9 := Tryz.isAgg9
  z9 := Tryz.sizeOf9
  v9 := Tryz.zeroValue9
  t20 := Tryz.underlying20
  a20 := Tryz.isAgg20
  z20 := Tryz.sizeOf20
  v20 := Tryz.zeroValue20
  t37 := Tryz.underlying35
  a37 := Tryz.isAgg35
  z37 := Tryz.sizeOf35
  v37 := Tryz.zeroValue35
  t46 := Tryz.underlying134
  a46 := Tryz.isAgg134
  z46 := Tryz.sizeOf134
  v46 := Tryz.zeroValue134
  t51 := Tryz.underlying185
  a51 := Tryz.isAgg185
  z51 := Tryz.sizeOf185
  v51 := Tryz.zeroValue185
  t53 := Tryz.underlying159
  a53 := Tryz.isAgg159
  z53 := Tryz.sizeOf159
  v53 := Tryz.zeroValue159
  t70 := Tryz.underlying68
  a70 := Tryz.isAgg68
  z70 := Tryz.sizeOf68
  v70 := Tryz.zeroValue68
  t72 := Tryz.underlying70
  a72 := Tryz.isAgg70
  z72 := Tryz.sizeOf70
  v72 := Tryz.zeroValue70
  t75 := Tryz.underlying103
  a75 := Tryz.isAgg103
  z75 := Tryz.sizeOf103
  v75 := Tryz.zeroValue103
  t76 := Tryz.underlying104
  a76 := Tryz.isAgg104
  z76 := Tryz.sizeOf104
  v76 := Tryz.zeroValue104
  t109 := Tryz.underlying166
  a109 := Tryz.isAgg166
  z109 := Tryz.sizeOf166
  v109 := Tryz.zeroValue166
  t127 := Tryz.underlying107
  a127 := Tryz.isAgg107
  z127 := Tryz.sizeOf107
  v127 := Tryz.zeroValue107
  t146 := Tryz.underlying186
  a146 := Tryz.isAgg186
  z146 := Tryz.sizeOf186
  v146 := Tryz.zeroValue186
  t148 := Tryz.underlying188
  a148 := Tryz.isAgg188
  z148 := Tryz.sizeOf188
  v148 := Tryz.zeroValue188
  t164 := Tryz.underlying164
  a164 := Tryz.isAgg164
  z164 := Tryz.sizeOf164
  v164 := Tryz.zeroValue164 }
theorem Tryz.extra105 : Builder.Extra Tryz.prog Tryz.laysLaysn105_ren where
  sizeBuilder := by kernel_rfl
  liesBuilder := by kernel_rfl
  t5 := Tryz.underlying5
  a5 := Tryz.isAgg5
  z5 := Tryz.sizeOf5
  v5 := Tryz.zeroValue5
  infoByte := by kernel_rfl
  cellsByte := by kernel_rfl
  sizeByte := by kernel_rfl
  neB5 := by decide
end Go.Proofs
namespace Go.Proofs.YtdfhgimidmfgfaaGreatDoor.Pvm
open Go Go.Proofs Go.RowKit Go.Shelf
def repS (s : List UInt8) (n : Nat) : List UInt8 := Lib.repeatL s n
def wqsv : List LS := [.any, .any]
def wqaz (k : Nat) {R : Type} (x0 : List UInt8) (x1 : Int) (K : List UInt8 → Option R) : Option R := bif decide (0 ≤ x1) && decide (x1 ≤ 1000000) && decide (x0.length ≤ 1000000) then K (repS x0 x1.toNat) else none
def wqcb (k : Nat) {R : Type} : List PV → List (Nm × HObj) → (Out → Option R) → Option R
  | [.v .str x0, .v (.int .i64) x1], [], K => wqaz k x0 x1 (fun y0 => K (.ret [.v .str y0] []))
  | _, _, _ => none
theorem wqwq (k : Nat) {ps : List PV} {hp : List (Nm × HObj)} {R : Type} {K : Out → Option R} {r : R} (h : wqcb k ps hp K = some r) : DoesTo Tryz.prog 83 ps hp fun out => K out = some r := by
  unfold wqcb at h
  split at h
  · next x0 x1 =>
    intro G w vals hr obj dis
    obtain ⟨v0, l0, rfl, h0, v1, l1, rfl, h1, rfl⟩ := hr
    have e0 : v0 = .string ⟨x0.toArray⟩ := by simpa [RV, RD] using h0
    have e1 : v1 = .int .i64 x1 := by simpa [RV, RD] using h1
    subst e0 e1
    unfold wqaz at h
    cases hx : (decide (0 ≤ x1) && decide (x1 ≤ 1000000) && decide (x0.length ≤ 1000000)) with
    | false => rw [hx] at h; cases h
    | true =>
      rw [hx, cond_true] at h
      simp only [Bool.and_eq_true, decide_eq_true_eq] at hx
      obtain ⟨⟨g0, g1⟩, g2⟩ := hx
      obtain ⟨n, rfl⟩ : ∃ n : Nat, x1 = (n : Int) := ⟨x1.toNat, (Int.toNat_of_nonneg g0).symm⟩
      have hn : n ≤ 1000000 := by
        have : (n : Int) ≤ 1000000 := g1
        omega
      have hsz : (⟨x0.toArray⟩ : ByteArray).size = x0.length := by simp [ByteArray.size]
      have hmul : x0.length * n ≤ 1000000 * 1000000 := Nat.mul_le_mul g2 hn
      have c := Any.strings_Repeat Tryz.laysLaysn105 Tryz.extra105 ⟨x0.toArray⟩ n w (by omega) (by rw [hsz]; omega)
      show Does _ _ #[_, _] _ _
      unfold Does
      rw [enters (P := Tryz.prog) (fn := Tryz.f83) (c := Tryz.f83.body.getD .skip) (by kernel_rfl) (by kernel_rfl) (by kernel_rfl)]
      refine Calls.mono c fun e w' hh => ?_
      obtain ⟨rfl, b⟩ := hh
      exact ⟨.ret [.v .str (repS x0 n)] [], h, G, ⟨_, rfl, rfl⟩, wq17g b⟩
  · cases h
end Go.Proofs.YtdfhgimidmfgfaaGreatDoor.Pvm
noncomputable section
namespace Go.Proofs.YtdfhgimidmfgfaaGreatDoor.Pvm
open Go Go.Proofs
def wqiu : List LS := [.obj 1 [.sl kdT48, .nps 1 1, .own 21 5 (.int .u8)], .any]
def wqho {R : Type} (K : ((List dT48) → (List Int) → Option R)) : Out → Option R
  | .ret [] [(21, .row 5 (.int .u8) y1), (1, .var 72 [.v (.sl (.pr (.int .i64) (.pr (.int .i64) (.pr .str (.pr .bool (.pr (.sl .str) (.sl (.int .i64)))))))) y0, .nps 1 1, .row 21])] => K y0 y1
  | _ => none
def wquf : RetSpec := ⟨[], [(1, .obj 1 [.sl (.pr (.int .i64) (.pr (.int .i64) (.pr .str (.pr .bool (.pr (.sl .str) (.sl (.int .i64))))))), .nps 1 1, .own 21 5 (.int .u8)])], []⟩
def wqug (k : Nat) : Ctx := ⟨tyT, [], (.add 53 wq5h (wq1e k) (.add 83 wqsv (wqcb k) .nil)), [], [1], [(0, (.of [(0, 1), (1, 1), (2, 1), (3, 1), (4, 0), (5, 0)] .done))], @SH⟩
def wqlj (k : Nat) {R : Type}  (x0 : (List dT48)) (x1 : (List Int)) (x2 : Int) (K : ((List dT48) → (List Int) → Option R)) : Option R := (wqaz k [32] x2 (fun y6 => (wqh k x0 x1 y6 (fun y7 y8 y9 => (K y7 y8)))))
def wq4p (k : Nat) {R : Type} (x0 : (List dT48)) (x1 : (List Int)) (x2 : Int) (K : ((List dT48) → (List Int) → Option R)) : Option R := wqlj k  x0 x1 x2 K
theorem wqqv (k : Nat) {R : Type} (x0 : (List dT48)) (x1 : (List Int)) (x2 : Int) (K : ((List dT48) → (List Int) → Option R)) : fnW (wqug k) k Tryz.f54 wquf [.ptr 1 0, .v kI x2] [(21, .row 5 (.int .u8) x1), (1, .var 72 [.v kdT25 x0, .nps 1 1, .row 21])] (wqho K) = wq4p k x0 x1 x2 K := by
  kernel_rfl
def wq6g (k : Nat) {R : Type} : List PV → List (Nm × HObj) → (Out → Option R) → Option R
  | [.ptr 1 0, .v (.int .i64) x2], [(21, .row 5 (.int .u8) x1), (1, .var 72 [.v (.sl (.pr (.int .i64) (.pr (.int .i64) (.pr .str (.pr .bool (.pr (.sl .str) (.sl (.int .i64)))))))) x0, .nps 1 1, .row 21])], K => wq4p k x0 x1 x2 (fun y0 y1 => K (.ret [] [(21, .row 5 (.int .u8) y1), (1, .var 72 [.v (.sl (.pr (.int .i64) (.pr (.int .i64) (.pr .str (.pr .bool (.pr (.sl .str) (.sl (.int .i64)))))))) y0, .nps 1 1, .row 21])]))
  | _, _, _ => none
theorem wqlk (k : Nat) : DOK Tryz.prog 54 (wq6g k) := by
  intro ps hp R K r h
  have h : wq6g k ps hp K = some r := h
  unfold wq6g at h
  split at h
  · rw [← wqqv] at h
    exact fnW_ok ⟨tyT_ok, (wqi (wq6f k) (CTab.add_ok (fun h => wqwq k h) CTab.nil_ok)), fun _ _ => rfl⟩ mixed (by kernel_rfl) (by kernel_rfl) h fun o ho => by unfold wqho at ho; split at ho <;> first | exact ho | cases ho
  · cases h
end Go.Proofs.YtdfhgimidmfgfaaGreatDoor.Pvm
end


noncomputable section
namespace Go.Proofs.YtdfhgimidmfgfaaGreatDoor.Pvm
open Go Go.Proofs
def wqcc : List LS := [.obj 1 [.sl kdT48, .nps 1 1, .own 21 5 (.int .u8)], .any]
def wq5t {R : Type} (K : ((List dT48) → (List Int) → Option R)) : Out → Option R
  | .ret [.nilif] [(21, .row 5 (.int .u8) y1), (1, .var 72 [.v (.sl (.pr (.int .i64) (.pr (.int .i64) (.pr .str (.pr .bool (.pr (.sl .str) (.sl (.int .i64)))))))) y0, .nps 1 1, .row 21])] => K y0 y1
  | _ => none
def wqdw : RetSpec := ⟨[.any], [(1, .obj 1 [.sl (.pr (.int .i64) (.pr (.int .i64) (.pr .str (.pr .bool (.pr (.sl .str) (.sl (.int .i64))))))), .nps 1 1, .own 21 5 (.int .u8)])], []⟩
def wqdx (k : Nat) : Ctx := ⟨tyT, [], (.add 82 wq6d (wq20 k) .nil), [], [1], [], @SH⟩
def wq7h (k : Nat) {R : Type}  (x0 : (List dT48)) (x1 : (List Int)) (x2 : Int) (K : ((List dT48) → (List Int) → Option R)) : Option R := (wq1q k x0 x1 (fun y6 y7 => (cond (fits y7.length ([x2]).length 1) (K y6 (y7 ++ [x2])) none)))
def wq1d (k : Nat) {R : Type} (x0 : (List dT48)) (x1 : (List Int)) (x2 : Int) (K : ((List dT48) → (List Int) → Option R)) : Option R := wq7h k  x0 x1 x2 K
theorem wqbr (k : Nat) {R : Type} (x0 : (List dT48)) (x1 : (List Int)) (x2 : Int) (K : ((List dT48) → (List Int) → Option R)) : fnW (wqdx k) k Tryz.f81 wqdw [.ptr 1 1, .v (.int .u8) x2] [(21, .row 5 (.int .u8) x1), (1, .var 72 [.v kdT25 x0, .nps 1 1, .row 21])] (wq5t K) = wq1d k x0 x1 x2 K := by
  kernel_rfl
def wq21 (k : Nat) {R : Type} : List PV → List (Nm × HObj) → (Out → Option R) → Option R
  | [.ptr 1 1, .v (.int .u8) x2], [(21, .row 5 (.int .u8) x1), (1, .var 72 [.v (.sl (.pr (.int .i64) (.pr (.int .i64) (.pr .str (.pr .bool (.pr (.sl .str) (.sl (.int .i64)))))))) x0, .nps 1 1, .row 21])], K => wq1d k x0 x1 x2 (fun y0 y1 => K (.ret [.nilif] [(21, .row 5 (.int .u8) y1), (1, .var 72 [.v (.sl (.pr (.int .i64) (.pr (.int .i64) (.pr .str (.pr .bool (.pr (.sl .str) (.sl (.int .i64)))))))) y0, .nps 1 1, .row 21])]))
  | _, _, _ => none
theorem wqes (k : Nat) : DOK Tryz.prog 81 (wq21 k) := by
  intro ps hp R K r h
  have h : wq21 k ps hp K = some r := h
  unfold wq21 at h
  split at h
  · rw [← wqbr] at h
    exact fnW_ok ⟨tyT_ok, (CTab.add_ok (fun h => wq7g k h) CTab.nil_ok), fun _ _ => rfl⟩ mixed (by kernel_rfl) (by kernel_rfl) h fun o ho => by unfold wq5t at ho; split at ho <;> first | exact ho | cases ho
  · cases h
end Go.Proofs.YtdfhgimidmfgfaaGreatDoor.Pvm
end


noncomputable section
namespace Go.Proofs.YtdfhgimidmfgfaaGreatDoor.Pvm
open Go Go.Proofs
abbrev wqv : Type 1 := (R : Type) → (List dT48) → (List Int) → Int → Int → ((List dT48) → (List Int) → Option R) → Option R
abbrev wqx : Type 1 := (R : Type) → (List dT48) → (List Int) → Int → Int → ((List dT48) → (List Int) → Option R) → Option R
def wq9e : List LS := [.obj 1 [.sl kdT48, .nps 1 1, .own 21 5 (.int .u8)], .any, .any]
def wq5i (wq3 : wqv) {R : Type} : List PV → List (Nm × HObj) → (Out → Option R) → Option R
  | [.ptr 1 0, .v (.int .i64) x2, .v (.int .i64) x3], [(21, .row 5 (.int .u8) x1), (1, .var 72 [.v (.sl (.pr (.int .i64) (.pr (.int .i64) (.pr .str (.pr .bool (.pr (.sl .str) (.sl (.int .i64)))))))) x0, .nps 1 1, .row 21])], K => wq3 R x0 x1 x2 x3 (fun y0 y1 => K (.ret [] [(21, .row 5 (.int .u8) y1), (1, .var 72 [.v (.sl (.pr (.int .i64) (.pr (.int .i64) (.pr .str (.pr .bool (.pr (.sl .str) (.sl (.int .i64)))))))) y0, .nps 1 1, .row 21])]))
  | _, _, _ => none
def wqow : List LS := [.obj 1 [.sl kdT48, .nps 1 1, .own 21 5 (.int .u8)], .any, .any]
def wqf7 (wq9 : wqx) {R : Type} : List PV → List (Nm × HObj) → (Out → Option R) → Option R
  | [.ptr 1 0, .v (.int .i64) x2, .v (.int .i64) x3], [(21, .row 5 (.int .u8) x1), (1, .var 72 [.v (.sl (.pr (.int .i64) (.pr (.int .i64) (.pr .str (.pr .bool (.pr (.sl .str) (.sl (.int .i64)))))))) x0, .nps 1 1, .row 21])], K => wq9 R x0 x1 x2 x3 (fun y0 y1 => K (.ret [] [(21, .row 5 (.int .u8) y1), (1, .var 72 [.v (.sl (.pr (.int .i64) (.pr (.int .i64) (.pr .str (.pr .bool (.pr (.sl .str) (.sl (.int .i64)))))))) y0, .nps 1 1, .row 21])]))
  | _, _, _ => none
def wq2k {R : Type} (K : ((List dT48) → (List Int) → Option R)) : Out → Option R
  | .ret [] [(21, .row 5 (.int .u8) y1), (1, .var 72 [.v (.sl (.pr (.int .i64) (.pr (.int .i64) (.pr .str (.pr .bool (.pr (.sl .str) (.sl (.int .i64)))))))) y0, .nps 1 1, .row 21])] => K y0 y1
  | _ => none
def wq4q : RetSpec := ⟨[], [(1, .obj 1 [.sl (.pr (.int .i64) (.pr (.int .i64) (.pr .str (.pr .bool (.pr (.sl .str) (.sl (.int .i64))))))), .nps 1 1, .own 21 5 (.int .u8)])], []⟩
def wq4r (k : Nat) (wq3 : wqv) (wq9 : wqx) : Ctx := ⟨tyT, [(1008, ⟨[(0, .obj 1 [.sl kdT48, .nps 1 1, .own 21 5 (.int .u8)]), (2, .any), (39, .sl kI), (40, .any), (41, .any)], [(1, .obj 1 [.sl kdT48, .nps 1 1, .own 21 5 (.int .u8)])]⟩), (1017, ⟨[(0, .obj 1 [.sl kdT48, .nps 1 1, .own 21 5 (.int .u8)]), (2, .any), (6, .obj 16 [.any, .any, .any, .any, .sl .str, .sl kI]), (64, .sl kI), (65, .any), (66, .any)], [(1, .obj 1 [.sl kdT48, .nps 1 1, .own 21 5 (.int .u8)])]⟩)], (.add 26 wq9e (wq5i wq3) (.add 52 wq10w (wqfl k) (.add 53 wq5h (wq1e k) (.add 54 wqiu (wq6g k) (.add 55 wqow (wqf7 wq9) .nil))))), [], [1], [(5, (.of [(0, 1), (1, 1), (2, 1), (3, 1), (4, 1), (5, 1), (6, 0)] .done)), (21, (.of [(0, 1), (1, 1), (2, 1), (3, 1), (5, 1), (4, 1), (6, 1), (7, 1), (8, 1), (9, 0)] .done))], @SH⟩
def wq3p (s0 : (List dT48)) (s1 : (List Int)) (s2 : Int) (s3 : (List Int)) (s4 s5 : Int) : St := ⟨mkT [(0, .ptr 1 0), (2, .v kI s2), (39, .v (.sl kI) s3), (40, .v kI s4), (41, .v kI s5)], mkH [(21, .row 5 (.int .u8) s1), (1, .var 72 [.v kdT25 s0, .nps 1 1, .row 21])]⟩
def wq3q (s0 : (List dT48)) (s1 : (List Int)) (s2 s3 s4 : Int) (s5 : (List UInt8)) (s6 : Bool) (s7 : (List (List UInt8))) (s8 s9 : (List Int)) (s10 s11 : Int) : St := ⟨mkT [(0, .ptr 1 0), (2, .v kI s2), (6, .ptr 16 0), (64, .v (.sl kI) s9), (65, .v kI s10), (66, .v kI s11)], mkH [(21, .row 5 (.int .u8) s1), (1, .var 72 [.v kdT25 s0, .nps 1 1, .row 21]), (16, .var 49 [.v kI s3, .v kI s4, .v .str s5, .v .bool s6, .v (.sl .str) s7, .v (.sl kI) s8])]⟩
def wq74 (k : Nat) (wq3 : wqv) (wq9 : wqx) {R : Type} (I : Nat → St → Option R) (n : Nat) (s : St) (K : ((List dT48) → (List Int) → Option R)) : Option R := loopK (wq4r k wq3 wq9) k Tryz.f26 wq4q 1008 [1, 1, 0, 1, 1, 1, 0, 1, 0] I n s (wq2k K)
def wq75 (k : Nat) (wq3 : wqv) (wq9 : wqx) {R : Type} (I : Nat → St → Option R) (n : Nat) (s : St) (K : ((List dT48) → (List Int) → Option R)) : Option R := loopK (wq4r k wq3 wq9) k Tryz.f26 wq4q 1017 [1, 1, 0, 1, 1, 1, 1, 1, 0, 1, 0] I n s (wq2k K)
def wq48 (k : Nat) (wq3 : wqv) (wq9 : wqx) {R : Type} (E1008 : ((List dT48) → (List Int) → Int → (List Int) → Int → Int → Option R)) (s0 : (List dT48)) (s1 : (List Int)) (s2 : Int) (s3 : (List Int)) (s4 s5 : Int) (K : ((List dT48) → (List Int) → Option R)) : Option R := (cond (decide (s5 < s4)) (cond (inb s5 (s3.length : Int)) (cond (decide (s5 > 0)) (wq4p k s0 s1 s2 (fun y11 y12 => (wqh k y11 y12 [45, 32] (fun y13 y14 y15 => (wq3 R y13 y14 (s3.getD s5.toNat kI.zero) (@Go.IntKind.wrap Go.IntKind.i64 (s2 + 2)) (fun y16 y17 => (E1008 y16 y17 s2 s3 s4 (@Go.IntKind.wrap Go.IntKind.i64 (s5 + 1))))))))) (wqh k s0 s1 [45, 32] (fun y11 y12 y13 => (wq3 R y11 y12 (s3.getD s5.toNat kI.zero) (@Go.IntKind.wrap Go.IntKind.i64 (s2 + 2)) (fun y14 y15 => (E1008 y14 y15 s2 s3 s4 (@Go.IntKind.wrap Go.IntKind.i64 (s5 + 1)))))))) none) (K s0 s1))
theorem wqh4 (k : Nat) (wq3 : wqv) (wq9 : wqx) {R : Type} (I : Nat → St → Option R) (s0 : (List dT48)) (s1 : (List Int)) (s2 : Int) (s3 : (List Int)) (s4 s5 : Int) (K : ((List dT48) → (List Int) → Option R)) : bodyK (wq4r k wq3 wq9) k Tryz.f26 wq4q [1, 1, 0, 1, 1, 1, 0, 1, 0, 0] I (wq3p s0 s1 s2 s3 s4 s5) (wq2k K) = wq48 k wq3 wq9 (fun s0 s1 s2 s3 s4 s5 => I 1008 (wq3p s0 s1 s2 s3 s4 s5)) s0 s1 s2 s3 s4 s5 K := by kernel_rfl
def wq49 (k : Nat) (wq3 : wqv) (wq9 : wqx) {R : Type} (E1017 : ((List dT48) → (List Int) → Int → Int → Int → (List UInt8) → Bool → (List (List UInt8)) → (List Int) → (List Int) → Int → Int → Option R)) (s0 : (List dT48)) (s1 : (List Int)) (s2 s3 s4 : Int) (s5 : (List UInt8)) (s6 : Bool) (s7 : (List (List UInt8))) (s8 s9 : (List Int)) (s10 s11 : Int) (K : ((List dT48) → (List Int) → Option R)) : Option R := (cond (decide (s11 < s10)) (cond (inb s11 (s9.length : Int)) (cond (decide (s11 > 0)) (wq4p k s0 s1 s2 (fun y17 y18 => (cond (inb s11 (s7.length : Int)) (cond (joins (s7.getD s11.toNat Kd.str.zero) [58]) (wqh k y17 y18 ((s7.getD s11.toNat Kd.str.zero) ++ [58]) (fun y19 y20 y21 => (wq9 R y19 y20 (s9.getD s11.toNat kI.zero) s2 (fun y22 y23 => (E1017 y22 y23 s2 s3 s4 s5 s6 s7 s8 s9 s10 (@Go.IntKind.wrap Go.IntKind.i64 (s11 + 1))))))) none) none))) (cond (inb s11 (s7.length : Int)) (cond (joins (s7.getD s11.toNat Kd.str.zero) [58]) (wqh k s0 s1 ((s7.getD s11.toNat Kd.str.zero) ++ [58]) (fun y17 y18 y19 => (wq9 R y17 y18 (s9.getD s11.toNat kI.zero) s2 (fun y20 y21 => (E1017 y20 y21 s2 s3 s4 s5 s6 s7 s8 s9 s10 (@Go.IntKind.wrap Go.IntKind.i64 (s11 + 1))))))) none) none)) none) (K s0 s1))
theorem wqh5 (k : Nat) (wq3 : wqv) (wq9 : wqx) {R : Type} (I : Nat → St → Option R) (s0 : (List dT48)) (s1 : (List Int)) (s2 s3 s4 : Int) (s5 : (List UInt8)) (s6 : Bool) (s7 : (List (List UInt8))) (s8 s9 : (List Int)) (s10 s11 : Int) (K : ((List dT48) → (List Int) → Option R)) : bodyK (wq4r k wq3 wq9) k Tryz.f26 wq4q [1, 1, 0, 1, 1, 1, 1, 1, 0, 1, 0, 0] I (wq3q s0 s1 s2 s3 s4 s5 s6 s7 s8 s9 s10 s11) (wq2k K) = wq49 k wq3 wq9 (fun s0 s1 s2 s3 s4 s5 s6 s7 s8 s9 s10 s11 => I 1017 (wq3q s0 s1 s2 s3 s4 s5 s6 s7 s8 s9 s10 s11)) s0 s1 s2 s3 s4 s5 s6 s7 s8 s9 s10 s11 K := by kernel_rfl
def wqb0 (k : Nat) (wq3 : wqv) (wq9 : wqx) {R : Type} (E1008 : ((List dT48) → (List Int) → Int → (List Int) → Int → Int → Option R)) (E1017 : ((List dT48) → (List Int) → Int → Int → Int → (List UInt8) → Bool → (List (List UInt8)) → (List Int) → (List Int) → Int → Int → Option R)) (x0 : (List dT48)) (x1 : (List Int)) (x2 x3 : Int) (K : ((List dT48) → (List Int) → Option R)) : Option R := (cond (inb x2 (x0.length : Int)) (cond ((x0.getD x2.toNat (Kd.zero (@Kd.pr kI (@Kd.pr kI (@Kd.pr Kd.str (@Kd.pr Kd.bool (@Kd.pr (@Kd.sl Kd.str) (@Kd.sl kI)))))))).1 == 1) (cond ((((x0.getD x2.toNat (Kd.zero (@Kd.pr kI (@Kd.pr kI (@Kd.pr Kd.str (@Kd.pr Kd.bool (@Kd.pr (@Kd.sl Kd.str) (@Kd.sl kI)))))))).2).2).2).1 (wqgv k (((x0.getD x2.toNat (Kd.zero (@Kd.pr kI (@Kd.pr kI (@Kd.pr Kd.str (@Kd.pr Kd.bool (@Kd.pr (@Kd.sl Kd.str) (@Kd.sl kI)))))))).2).2).1 (fun y9 => (cond (joins y9 [10]) (wqh k x0 x1 (y9 ++ [10]) (fun y10 y11 y12 => (K y10 y11))) none))) (cond (joins (((x0.getD x2.toNat (Kd.zero (@Kd.pr kI (@Kd.pr kI (@Kd.pr Kd.str (@Kd.pr Kd.bool (@Kd.pr (@Kd.sl Kd.str) (@Kd.sl kI)))))))).2).2).1 [10]) (wqh k x0 x1 ((((x0.getD x2.toNat (Kd.zero (@Kd.pr kI (@Kd.pr kI (@Kd.pr Kd.str (@Kd.pr Kd.bool (@Kd.pr (@Kd.sl Kd.str) (@Kd.sl kI)))))))).2).2).1 ++ [10]) (fun y9 y10 y11 => (K y9 y10))) none)) (cond ((x0.getD x2.toNat (Kd.zero (@Kd.pr kI (@Kd.pr kI (@Kd.pr Kd.str (@Kd.pr Kd.bool (@Kd.pr (@Kd.sl Kd.str) (@Kd.sl kI)))))))).1 == 2) (E1008 x0 x1 x3 (((((x0.getD x2.toNat (Kd.zero (@Kd.pr kI (@Kd.pr kI (@Kd.pr Kd.str (@Kd.pr Kd.bool (@Kd.pr (@Kd.sl Kd.str) (@Kd.sl kI)))))))).2).2).2).2).2 (((((((x0.getD x2.toNat (Kd.zero (@Kd.pr kI (@Kd.pr kI (@Kd.pr Kd.str (@Kd.pr Kd.bool (@Kd.pr (@Kd.sl Kd.str) (@Kd.sl kI)))))))).2).2).2).2).2).length : Int) 0) (cond ((x0.getD x2.toNat (Kd.zero (@Kd.pr kI (@Kd.pr kI (@Kd.pr Kd.str (@Kd.pr Kd.bool (@Kd.pr (@Kd.sl Kd.str) (@Kd.sl kI)))))))).1 == 3) (E1017 x0 x1 x3 (x0.getD x2.toNat (Kd.zero (@Kd.pr kI (@Kd.pr kI (@Kd.pr Kd.str (@Kd.pr Kd.bool (@Kd.pr (@Kd.sl Kd.str) (@Kd.sl kI)))))))).1 ((x0.getD x2.toNat (Kd.zero (@Kd.pr kI (@Kd.pr kI (@Kd.pr Kd.str (@Kd.pr Kd.bool (@Kd.pr (@Kd.sl Kd.str) (@Kd.sl kI)))))))).2).1 (((x0.getD x2.toNat (Kd.zero (@Kd.pr kI (@Kd.pr kI (@Kd.pr Kd.str (@Kd.pr Kd.bool (@Kd.pr (@Kd.sl Kd.str) (@Kd.sl kI)))))))).2).2).1 ((((x0.getD x2.toNat (Kd.zero (@Kd.pr kI (@Kd.pr kI (@Kd.pr Kd.str (@Kd.pr Kd.bool (@Kd.pr (@Kd.sl Kd.str) (@Kd.sl kI)))))))).2).2).2).1 (((((x0.getD x2.toNat (Kd.zero (@Kd.pr kI (@Kd.pr kI (@Kd.pr Kd.str (@Kd.pr Kd.bool (@Kd.pr (@Kd.sl Kd.str) (@Kd.sl kI)))))))).2).2).2).2).1 (((((x0.getD x2.toNat (Kd.zero (@Kd.pr kI (@Kd.pr kI (@Kd.pr Kd.str (@Kd.pr Kd.bool (@Kd.pr (@Kd.sl Kd.str) (@Kd.sl kI)))))))).2).2).2).2).2 (((((x0.getD x2.toNat (Kd.zero (@Kd.pr kI (@Kd.pr kI (@Kd.pr Kd.str (@Kd.pr Kd.bool (@Kd.pr (@Kd.sl Kd.str) (@Kd.sl kI)))))))).2).2).2).2).2 (((((((x0.getD x2.toNat (Kd.zero (@Kd.pr kI (@Kd.pr kI (@Kd.pr Kd.str (@Kd.pr Kd.bool (@Kd.pr (@Kd.sl Kd.str) (@Kd.sl kI)))))))).2).2).2).2).2).length : Int) 0) (K x0 x1)))) none)
def wq22 (k : Nat) (wq3 : wqv) (wq9 : wqx) {R : Type}  : Nat → (List dT48) → (List Int) → Int → Int → Int → (List UInt8) → Bool → (List (List UInt8)) → (List Int) → (List Int) → Int → Int → ((List dT48) → (List Int) → Option R) → Option R
  | 0, _, _, _, _, _, _, _, _, _, _, _, _, _ => none
  | n + 1, s0, s1, s2, s3, s4, s5, s6, s7, s8, s9, s10, s11, K => wq49 k wq3 wq9 (fun s0 s1 s2 s3 s4 s5 s6 s7 s8 s9 s10 s11 => wq22 k wq3 wq9  n s0 s1 s2 s3 s4 s5 s6 s7 s8 s9 s10 s11 K) s0 s1 s2 s3 s4 s5 s6 s7 s8 s9 s10 s11 K
theorem wqh6 (k : Nat) (wq3 : wqv) (wq9 : wqx) {R : Type} (I : Nat → St → Option R) (K : ((List dT48) → (List Int) → Option R)) (n : Nat) : ∀ (s0 : (List dT48)) (s1 : (List Int)) (s2 s3 s4 : Int) (s5 : (List UInt8)) (s6 : Bool) (s7 : (List (List UInt8))) (s8 s9 : (List Int)) (s10 s11 : Int), wq75 k wq3 wq9 I n (wq3q s0 s1 s2 s3 s4 s5 s6 s7 s8 s9 s10 s11) K = wq22 k wq3 wq9  n s0 s1 s2 s3 s4 s5 s6 s7 s8 s9 s10 s11 K := by
  induction n with
  | zero => intros; rfl
  | succ n ih =>
    intro s0 s1 s2 s3 s4 s5 s6 s7 s8 s9 s10 s11
    refine (?_ : _ = _).trans ((wqh5 k wq3 wq9 (upI 1017 (fun s => wq75 k wq3 wq9 I n s K) I) s0 s1 s2 s3 s4 s5 s6 s7 s8 s9 s10 s11 K).trans ?_)
    · rfl
    · simp only [wq1h, ih] <;> rfl
def wq23 (k : Nat) (wq3 : wqv) (wq9 : wqx) {R : Type}  : Nat → (List dT48) → (List Int) → Int → (List Int) → Int → Int → ((List dT48) → (List Int) → Option R) → Option R
  | 0, _, _, _, _, _, _, _ => none
  | n + 1, s0, s1, s2, s3, s4, s5, K => wq48 k wq3 wq9 (fun s0 s1 s2 s3 s4 s5 => wq23 k wq3 wq9  n s0 s1 s2 s3 s4 s5 K) s0 s1 s2 s3 s4 s5 K
theorem wqh7 (k : Nat) (wq3 : wqv) (wq9 : wqx) {R : Type} (I : Nat → St → Option R) (K : ((List dT48) → (List Int) → Option R)) (n : Nat) : ∀ (s0 : (List dT48)) (s1 : (List Int)) (s2 : Int) (s3 : (List Int)) (s4 s5 : Int), wq74 k wq3 wq9 I n (wq3p s0 s1 s2 s3 s4 s5) K = wq23 k wq3 wq9  n s0 s1 s2 s3 s4 s5 K := by
  induction n with
  | zero => intros; rfl
  | succ n ih =>
    intro s0 s1 s2 s3 s4 s5
    refine (?_ : _ = _).trans ((wqh4 k wq3 wq9 (upI 1008 (fun s => wq74 k wq3 wq9 I n s K) I) s0 s1 s2 s3 s4 s5 K).trans ?_)
    · rfl
    · simp only [wq1h, ih] <;> rfl
def wqf8 {R : Type} (K : ((List dT48) → (List Int) → Option R)) : Out → Option R
  | .ret [] [(21, .row 5 (.int .u8) y1), (1, .var 72 [.v (.sl (.pr (.int .i64) (.pr (.int .i64) (.pr .str (.pr .bool (.pr (.sl .str) (.sl (.int .i64)))))))) y0, .nps 1 1, .row 21])] => K y0 y1
  | _ => none
def wqqw : RetSpec := ⟨[], [(1, .obj 1 [.sl (.pr (.int .i64) (.pr (.int .i64) (.pr .str (.pr .bool (.pr (.sl .str) (.sl (.int .i64))))))), .nps 1 1, .own 21 5 (.int .u8)])], []⟩
def wqqx (k : Nat) (wq3 : wqv) (wq9 : wqx) : Ctx := ⟨tyT, [], (.add 26 wq9e (wq5i wq3) (.add 54 wqiu (wq6g k) (.add 81 wqcc (wq21 k) .nil))), [], [1], [], @SH⟩
def wqiv (k : Nat) (wq3 : wqv) (wq9 : wqx) {R : Type}  (x0 : (List dT48)) (x1 : (List Int)) (x2 x3 : Int) (K : ((List dT48) → (List Int) → Option R)) : Option R := (cond (inb x2 (x0.length : Int)) (cond ((x0.getD x2.toNat (Kd.zero (@Kd.pr kI (@Kd.pr kI (@Kd.pr Kd.str (@Kd.pr Kd.bool (@Kd.pr (@Kd.sl Kd.str) (@Kd.sl kI)))))))).1 == 1) (wq1d k x0 x1 32 (fun y7 y8 => (wq3 R y7 y8 x2 (@Go.IntKind.wrap Go.IntKind.i64 (x3 + 2)) (fun y9 y10 => (K y9 y10))))) (wq1d k x0 x1 10 (fun y7 y8 => (wq4p k y7 y8 (@Go.IntKind.wrap Go.IntKind.i64 (x3 + 2)) (fun y9 y10 => (wq3 R y9 y10 x2 (@Go.IntKind.wrap Go.IntKind.i64 (x3 + 2)) (fun y11 y12 => (K y11 y12)))))))) none)
mutual
def wqt : Nat → (R : Type) → (List dT48) → (List Int) → Int → Int → ((List dT48) → (List Int) → Option R) → Option R
  | 0, _, _, _, _, _, _ => none
  | k + 1, R, x0, x1, x2, x3, K => wqb0 k (wqt k) (FR_show_writer_pair k) (fun s0 s1 s2 s3 s4 s5 => wq23 k (wqt k) (FR_show_writer_pair k) k s0 s1 s2 s3 s4 s5 K) (fun s0 s1 s2 s3 s4 s5 s6 s7 s8 s9 s10 s11 => wq22 k (wqt k) (FR_show_writer_pair k) k s0 s1 s2 s3 s4 s5 s6 s7 s8 s9 s10 s11 K) x0 x1 x2 x3 K
def FR_show_writer_pair : Nat → (R : Type) → (List dT48) → (List Int) → Int → Int → ((List dT48) → (List Int) → Option R) → Option R
  | 0, _, _, _, _, _, _ => none
  | k + 1, R, x0, x1, x2, x3, K => wqiv k (wqt k) (FR_show_writer_pair k)  x0 x1 x2 x3 K
end
def wq5j (k : Nat) {R : Type} (x0 : (List dT48)) (x1 : (List Int)) (x2 x3 : Int) (K : ((List dT48) → (List Int) → Option R)) : Option R := wqt k R x0 x1 x2 x3 K
def wqcd (k : Nat) {R : Type} (x0 : (List dT48)) (x1 : (List Int)) (x2 x3 : Int) (K : ((List dT48) → (List Int) → Option R)) : Option R := FR_show_writer_pair k R x0 x1 x2 x3 K
theorem wqll (k : Nat) {R : Type} (x0 : (List dT48)) (x1 : (List Int)) (x2 x3 : Int) (K : ((List dT48) → (List Int) → Option R)) : fnW (wq4r k (wqt k) (FR_show_writer_pair k)) k Tryz.f26 wq4q [.ptr 1 0, .v kI x2, .v kI x3] [(21, .row 5 (.int .u8) x1), (1, .var 72 [.v kdT25 x0, .nps 1 1, .row 21])] (wq2k K) = wqt (k + 1) R x0 x1 x2 x3 K := by
  rw [wqt]
  refine Eq.trans (b := wqb0 k (wqt k) (FR_show_writer_pair k) (fun s0 s1 s2 s3 s4 s5 => wq74 k (wqt k) (FR_show_writer_pair k) (fun _ _ => none) k (wq3p s0 s1 s2 s3 s4 s5) K) (fun s0 s1 s2 s3 s4 s5 s6 s7 s8 s9 s10 s11 => wq75 k (wqt k) (FR_show_writer_pair k) (fun _ _ => none) k (wq3q s0 s1 s2 s3 s4 s5 s6 s7 s8 s9 s10 s11) K) x0 x1 x2 x3 K) (by kernel_rfl) ?_
  simp only [wqh7, wqh6] <;> rfl
def wq1i (k : Nat) {R : Type} : List PV → List (Nm × HObj) → (Out → Option R) → Option R
  | [.ptr 1 0, .v (.int .i64) x2, .v (.int .i64) x3], [(21, .row 5 (.int .u8) x1), (1, .var 72 [.v (.sl (.pr (.int .i64) (.pr (.int .i64) (.pr .str (.pr .bool (.pr (.sl .str) (.sl (.int .i64)))))))) x0, .nps 1 1, .row 21])], K => wq5j k x0 x1 x2 x3 (fun y0 y1 => K (.ret [] [(21, .row 5 (.int .u8) y1), (1, .var 72 [.v (.sl (.pr (.int .i64) (.pr (.int .i64) (.pr .str (.pr .bool (.pr (.sl .str) (.sl (.int .i64)))))))) y0, .nps 1 1, .row 21])]))
  | _, _, _ => none
theorem wqmu (k : Nat) {R : Type} (x0 : (List dT48)) (x1 : (List Int)) (x2 x3 : Int) (K : ((List dT48) → (List Int) → Option R)) : fnW (wqqx k (wqt k) (FR_show_writer_pair k)) k Tryz.f55 wqqw [.ptr 1 0, .v kI x2, .v kI x3] [(21, .row 5 (.int .u8) x1), (1, .var 72 [.v kdT25 x0, .nps 1 1, .row 21])] (wqf8 K) = FR_show_writer_pair (k + 1) R x0 x1 x2 x3 K := by
  rw [FR_show_writer_pair]
  kernel_rfl
def wq38 (k : Nat) {R : Type} : List PV → List (Nm × HObj) → (Out → Option R) → Option R
  | [.ptr 1 0, .v (.int .i64) x2, .v (.int .i64) x3], [(21, .row 5 (.int .u8) x1), (1, .var 72 [.v (.sl (.pr (.int .i64) (.pr (.int .i64) (.pr .str (.pr .bool (.pr (.sl .str) (.sl (.int .i64)))))))) x0, .nps 1 1, .row 21])], K => wqcd k x0 x1 x2 x3 (fun y0 y1 => K (.ret [] [(21, .row 5 (.int .u8) y1), (1, .var 72 [.v (.sl (.pr (.int .i64) (.pr (.int .i64) (.pr .str (.pr .bool (.pr (.sl .str) (.sl (.int .i64)))))))) y0, .nps 1 1, .row 21])]))
  | _, _, _ => none
theorem wqox (k : Nat) : DOK Tryz.prog 26 (wq1i k) ∧ DOK Tryz.prog 55 (wq38 k) := by
  induction k with
  | zero =>
    refine ⟨?_, ?_⟩
    · intro ps hp R K r h
      have h : wq1i 0 ps hp K = some r := h
      unfold wq1i at h
      split at h
      · unfold wq5j at h; rw [wqt] at h; cases h
      · cases h
    · intro ps hp R K r h
      have h : wq38 0 ps hp K = some r := h
      unfold wq38 at h
      split at h
      · unfold wqcd at h; rw [FR_show_writer_pair] at h; cases h
      · cases h
  | succ k ih =>
    obtain ⟨ih_show_writer_block, ih_show_writer_pair⟩ := ih
    refine ⟨?_, ?_⟩
    · intro ps hp R K r h
      have h : wq1i (k + 1) ps hp K = some r := h
      unfold wq1i at h
      split at h
      · unfold wq5j at h; rw [← wqll] at h
        exact fnW_ok ⟨tyT_ok, (CTab.add_ok (fun h => ih_show_writer_block _ _ _ _ _ (by unfold wq5i at h; unfold wq1i; exact h)) (wqi (wq15x k) (wqi (wq6f k) (wqi (wqlk k) (CTab.add_ok (fun h => ih_show_writer_pair _ _ _ _ _ (by unfold wqf7 at h; unfold wq38; exact h)) CTab.nil_ok))))), fun _ _ => rfl⟩ mixed (by kernel_rfl) (by kernel_rfl) h fun o ho => by unfold wq2k at ho; split at ho <;> first | exact ho | cases ho
      · cases h
    · intro ps hp R K r h
      have h : wq38 (k + 1) ps hp K = some r := h
      unfold wq38 at h
      split at h
      · unfold wqcd at h; rw [← wqmu] at h
        exact fnW_ok ⟨tyT_ok, (CTab.add_ok (fun h => ih_show_writer_block _ _ _ _ _ (by unfold wq5i at h; unfold wq1i; exact h)) (wqi (wqlk k) (wqi (wqes k) CTab.nil_ok))), fun _ _ => rfl⟩ mixed (by kernel_rfl) (by kernel_rfl) h fun o ho => by unfold wqf8 at ho; split at ho <;> first | exact ho | cases ho
      · cases h
theorem wqqy (k : Nat) : DOK Tryz.prog 26 (wq1i k) := (wqox k).1
end Go.Proofs.YtdfhgimidmfgfaaGreatDoor.Pvm
end


noncomputable section
namespace Go.Proofs.YtdfhgimidmfgfaaGreatDoor.Pvm
open Go Go.Proofs
def wqi9 : List LS := [.obj 1 [.sl kdT48, .nps 1 1, .own 21 5 (.int .u8)]]
def wq95 {R : Type} (K : ((List dT48) → (List Int) → Int → Option R)) : Out → Option R
  | .ret [.v (.int .i64) y2] [(21, .row 5 (.int .u8) y1), (1, .var 72 [.v (.sl (.pr (.int .i64) (.pr (.int .i64) (.pr .str (.pr .bool (.pr (.sl .str) (.sl (.int .i64)))))))) y0, .nps 1 1, .row 21])] => K y0 y1 y2
  | _ => none
def wqiw : RetSpec := ⟨[.any], [(1, .obj 1 [.sl (.pr (.int .i64) (.pr (.int .i64) (.pr .str (.pr .bool (.pr (.sl .str) (.sl (.int .i64))))))), .nps 1 1, .own 21 5 (.int .u8)])], []⟩
def wqix (k : Nat) : Ctx := ⟨tyT, [], .nil, [], [1], [], @SH⟩
def wqb1 (k : Nat) {R : Type}  (x0 : (List dT48)) (x1 : (List Int)) (K : ((List dT48) → (List Int) → Int → Option R)) : Option R := (K x0 x1 (x1.length : Int))
def wq4a (k : Nat) {R : Type} (x0 : (List dT48)) (x1 : (List Int)) (K : ((List dT48) → (List Int) → Int → Option R)) : Option R := wqb1 k  x0 x1 K
theorem wqh8 (k : Nat) {R : Type} (x0 : (List dT48)) (x1 : (List Int)) (K : ((List dT48) → (List Int) → Int → Option R)) : fnW (wqix k) k Tryz.f27 wqiw [.ptr 1 1] [(21, .row 5 (.int .u8) x1), (1, .var 72 [.v kdT25 x0, .nps 1 1, .row 21])] (wq95 K) = wq4a k x0 x1 K := by
  kernel_rfl
def wq3c (k : Nat) {R : Type} : List PV → List (Nm × HObj) → (Out → Option R) → Option R
  | [.ptr 1 1], [(21, .row 5 (.int .u8) x1), (1, .var 72 [.v (.sl (.pr (.int .i64) (.pr (.int .i64) (.pr .str (.pr .bool (.pr (.sl .str) (.sl (.int .i64)))))))) x0, .nps 1 1, .row 21])], K => wq4a k x0 x1 (fun y0 y1 y2 => K (.ret [.v (.int .i64) y2] [(21, .row 5 (.int .u8) y1), (1, .var 72 [.v (.sl (.pr (.int .i64) (.pr (.int .i64) (.pr .str (.pr .bool (.pr (.sl .str) (.sl (.int .i64)))))))) y0, .nps 1 1, .row 21])]))
  | _, _, _ => none
theorem wqjs (k : Nat) : DOK Tryz.prog 27 (wq3c k) := by
  intro ps hp R K r h
  have h : wq3c k ps hp K = some r := h
  unfold wq3c at h
  split at h
  · rw [← wqh8] at h
    exact fnW_ok ⟨tyT_ok, CTab.nil_ok, fun _ _ => rfl⟩ mixed (by kernel_rfl) (by kernel_rfl) h fun o ho => by unfold wq95 at ho; split at ho <;> first | exact ho | cases ho
  · cases h
end Go.Proofs.YtdfhgimidmfgfaaGreatDoor.Pvm
end


set_option maxHeartbeats 2000000
set_option maxRecDepth 100000
namespace Go.Proofs.YtdfhgimidmfgfaaGreatDoor.Pvm
open Go Go.Proofs Go.RowKit
theorem wqya (b g cap : Nat) (d p : Value) (l : List UInt8) (cur : Array Value) (w : World) (hbk : w.heap[b]? = some (.cells #[d, p, .slice (some ⟨g, 0, none⟩) l.length cap] 72 (0, 0))) (h0 : l ≠ [])
    (hg : w.heap[g]? = some (.cells cur 5 (0, 0))) (hnc : l.length ≤ cap) (hcm : cap ≤ maxLen) (hcs : cur.size = cap) (htake : ∀ (j : Nat) (x : UInt8), l[j]? = some x → w.cell? ⟨g, j, none⟩ = some (.int .u8 x.toNat)) :
    Calls Tryz.prog 28 #[.pointer (some ⟨b, 1, none⟩)] w fun e w' => e = .returned (.string ⟨l.toArray⟩) ∧ w' = w.drew.freeze ⟨g, 0, none⟩ l.length := by
  have hl0 : l.length ≠ 0 := by simpa using h0
  have mixed : Tryz.prog.follows .mixedOrders = true := by kernel_rfl
  have t86 : Tryz.prog.underlying 107 = some (.pointer 5) := by kernel_rfl
  have c1 : w.drew.cell? ⟨b, 2, none⟩ = some (.slice (some ⟨g, 0, none⟩) l.length cap) := by
    have : w.drew.heap[b]? = some (.cells #[d, p, .slice (some ⟨g, 0, none⟩) l.length cap] 72 (0, 0)) := hbk
    rw [Lib.cell_of_heap this]; rfl
  have hSD : (Builtin.unsafeSliceData_ #[35] 107 #[.slice (some ⟨g, 0, none⟩) l.length cap]).run Tryz.prog w.drew = .ok (.pointer (some ⟨g, 0, none⟩)) w.drew :=
    Lib.run_unsafeSliceData_row _ _ _ _ _ _ (by omega)
  have hUS : (Builtin.unsafeString_ #[107, 3] 9 #[.pointer (some ⟨g, 0, none⟩), .int .i64 l.length]).run Tryz.prog w.drew = .ok (.string ⟨l.toArray⟩) (w.drew.freeze ⟨g, 0, none⟩ l.length) := by
    refine Lib.run_unsafeString_row w.drew 107 3 9 5 t86 (by kernel_rfl) g cur.size (by have hg' : w.drew.heap[g]? = some (.cells cur 5 (0, 0)) := hg; simp [World.shape?, hg']) l h0 (by omega) (by unfold maxLen at hcm; omega) ?_
    intro j x hx
    have := htake j x hx
    rw [show (⟨g, 0, none⟩ : Addr).add j = ⟨g, j, none⟩ by simp [Addr.add]; omega]
    exact this
  go_enter Tryz.func28, Tryz.ntmps28
  go_wp2
  go_region_o
  all_goals (go_wp2; go_ret; exact ⟨rfl, rfl⟩)
theorem wq13d (b : Nat) (d p : Value) (w : World) (hbk : w.heap[b]? = some (.cells #[d, p, .slice none 0 0] 72 (0, 0))) :
    Calls Tryz.prog 28 #[.pointer (some ⟨b, 1, none⟩)] w fun e w' => e = .returned (.string ⟨#[]⟩) ∧ w' = w.drew := by
  have hUS := wqza
  have mixed : Tryz.prog.follows .mixedOrders = true := by kernel_rfl
  have c1 : w.drew.cell? ⟨b, 2, none⟩ = some (.slice none 0 0) := by
    have : w.drew.heap[b]? = some (.cells #[d, p, .slice none 0 0] 72 (0, 0)) := hbk
    rw [Lib.cell_of_heap this]; rfl
  have hSD : (Builtin.unsafeSliceData_ #[35] 107 #[.slice none 0 0]).run Tryz.prog w.drew = .ok (.pointer none) w.drew := rfl
  go_enter Tryz.func28, Tryz.ntmps28
  go_wp2
  go_region_o
  all_goals (go_wp2; go_ret; exact ⟨rfl, rfl⟩)
theorem wq10x (b g cap : Nat) (d p : Value) (w : World) (hc0 : cap ≠ 0) (hbk : w.heap[b]? = some (.cells #[d, p, .slice (some ⟨g, 0, none⟩) 0 cap] 72 (0, 0))) :
    Calls Tryz.prog 28 #[.pointer (some ⟨b, 1, none⟩)] w fun e w' => e = .returned (.string ⟨#[]⟩) ∧ w' = w.drew := by
  have hUS := wqza
  have mixed : Tryz.prog.follows .mixedOrders = true := by kernel_rfl
  have c1 : w.drew.cell? ⟨b, 2, none⟩ = some (.slice (some ⟨g, 0, none⟩) 0 cap) := by
    have : w.drew.heap[b]? = some (.cells #[d, p, .slice (some ⟨g, 0, none⟩) 0 cap] 72 (0, 0)) := hbk
    rw [Lib.cell_of_heap this]; rfl
  have hSD : (Builtin.unsafeSliceData_ #[35] 107 #[.slice (some ⟨g, 0, none⟩) 0 cap]).run Tryz.prog w.drew = .ok (.pointer (some ⟨g, 0, none⟩)) w.drew :=
    Lib.run_unsafeSliceData_row _ _ _ _ _ _ hc0
  clear hc0
  go_enter Tryz.func28, Tryz.ntmps28
  go_wp2
  go_region_o
  all_goals (go_wp2; go_ret; exact ⟨rfl, rfl⟩)
theorem wqwr (b g : Nat) (d p : Value) (cur : Array Value) (w : World) (hbk : w.heap[b]? = some (.cells #[d, p, .slice (some ⟨g, 0, none⟩) 0 0] 72 (0, 0))) (hg : w.heap[g]? = some (.cells cur 5 (0, 0))) :
    Calls Tryz.prog 28 #[.pointer (some ⟨b, 1, none⟩)] w fun e w' => e = .returned (.string ⟨#[]⟩) ∧ ∃ o, w' = (w.alloc o).drew := by
  have hUS := wqza
  have hlt : b < w.heap.size := (Array.getElem?_eq_some_iff.1 hbk).1
  have mixed : Tryz.prog.follows .mixedOrders = true := by kernel_rfl
  have c1 : w.drew.cell? ⟨b, 2, none⟩ = some (.slice (some ⟨g, 0, none⟩) 0 0) := by
    have : w.drew.heap[b]? = some (.cells #[d, p, .slice (some ⟨g, 0, none⟩) 0 0] 72 (0, 0)) := hbk
    rw [Lib.cell_of_heap this]; rfl
  have hSD : (Builtin.unsafeSliceData_ #[35] 107 #[.slice (some ⟨g, 0, none⟩) 0 0]).run Tryz.prog w.drew = .ok (.pointer (some ⟨w.drew.heap.size, 0, none⟩)) (w.drew.alloc (.view ⟨g, 0, none⟩ 5)) :=
    Lib.run_unsafeSliceData_zero w.drew _ _ 5 (by kernel_rfl) ⟨g, 0, none⟩ 0 (5, cur.size) (by have hg' : w.drew.heap[g]? = some (.cells cur 5 (0, 0)) := hg; simp [World.shape?, hg'])
  have c2 : (w.drew.alloc (.view ⟨g, 0, none⟩ 5)).cell? ⟨b, 2, none⟩ = some (.slice (some ⟨g, 0, none⟩) 0 0) := by
    have : (w.drew.alloc (.view ⟨g, 0, none⟩ 5)).heap[b]? = _ := (Lib.alloc_old w.drew _ b hlt).trans hbk
    rw [Lib.cell_of_heap this]; rfl
  have c3 : (w.alloc (.view ⟨g, 0, none⟩ 5)).drew.cell? ⟨b, 2, none⟩ = some (.slice (some ⟨g, 0, none⟩) 0 0) := c2
  have c0 : w.cell? ⟨b, 2, none⟩ = some (.slice (some ⟨g, 0, none⟩) 0 0) := c1
  go_enter Tryz.func28, Tryz.ntmps28
  go_wp2
  go_region_o
  all_goals (go_wp2; go_ret; exact ⟨rfl, _, rfl⟩)
def wqfm : List LS := [.obj 1 [.sl (.pr (.int .i64) (.pr (.int .i64) (.pr .str (.pr .bool (.pr (.sl .str) (.sl (.int .i64))))))), .nps 1 1, .own 21 5 (.int .u8)]]
def wq32 (k : Nat) {R : Type} (d0 : (List dT48)) (x0 : List Int) (K : (List dT48) → List Int → List UInt8 → Option R) : Option R := bif allB x0 then K d0 x0 (wq1t x0) else none
def wq4b (k : Nat) {R : Type} : List PV → List (Nm × HObj) → (Out → Option R) → Option R
  | [.ptr 1 1], [(21, .row 5 (.int .u8) x0), (1, .var 72 [.v (.sl (.pr (.int .i64) (.pr (.int .i64) (.pr .str (.pr .bool (.pr (.sl .str) (.sl (.int .i64)))))))) d0, .nps 1 1, .row 21])], K => wq32 k d0 x0 (fun d1 y0 y1 => K (.ret [.v .str y1] [(1, .var 72 [.v (.sl (.pr (.int .i64) (.pr (.int .i64) (.pr .str (.pr .bool (.pr (.sl .str) (.sl (.int .i64)))))))) d1, .nps 1 1, .v (.sl (.int .u8)) y0])]))
  | _, _, _ => none
theorem wqb2 (vs : Array Value) (w : World) : (callFunc 28 vs).run Tryz.prog w = .ok (.enter 28 vs) w := by
  have h1 : Tryz.prog.funcs[28]? = some Tryz.f28 := by kernel_rfl
  have h2 : (Tryz.f28.name == "runtime.NumGoroutine") = false := by kernel_rfl
  have h3 : Tryz.f28.body.isNone = false := by kernel_rfl
  unfold callFunc
  rw [Sem.run_bind]
  have e2 : (program).run Tryz.prog w = .ok Tryz.prog w := rfl
  rw [e2, Result.andThen_ok, h1]
  simp only [h2, h3, Bool.false_eq_true, if_false]
  rfl
theorem wqyb {G : Gh} {w w' : World} {d0 : (List dT48)} {x0 : List Int} {HP : List (Nm × HObj)} (hHP : HP = [(21, .row 5 (.int .u8) x0), (1, .var 72 [.v (.sl (.pr (.int .i64) (.pr (.int .i64) (.pr .str (.pr .bool (.pr (.sl .str) (.sl (.int .i64)))))))) d0, .nps 1 1, .row 21])])
    (obj : ∀ n o, mkH HP n = some o → RO (mkH HP) G w n o) (dis : Dis (mkH HP) G w) (hblk : ∀ b, b < w.heap.size → (∀ g, (G.rv 21).ownBlock = some g → b ≠ g) → w'.heap[b]? = w.heap[b]?)
    (hcell : ∀ g o, (G.rv 21).ownBlock = some g → w'.cell? ⟨g, o, none⟩ = w.cell? ⟨g, o, none⟩) (grow : w.heap.size ≤ w'.heap.size) (os : w'.os = w.os) (tape : w'.tape = w.tape) (out : w'.output = w.output) :
    Fin HP [(1, .var 72 [.v (.sl (.pr (.int .i64) (.pr (.int .i64) (.pr .str (.pr .bool (.pr (.sl .str) (.sl (.int .i64)))))))) d0, .nps 1 1, .v (.sl (.int .u8)) x0])] G w G w' := by
  have l1 : mkH HP 1 = some (.var 72 [.v (.sl (.pr (.int .i64) (.pr (.int .i64) (.pr .str (.pr .bool (.pr (.sl .str) (.sl (.int .i64)))))))) d0, .nps 1 1, .row 21]) := by subst hHP; rfl
  have l2 : mkH HP 21 = some (.row 5 (.int .u8) x0) := by subst hHP; rfl
  generalize hHS : [((1 : Nm), HObj.var 72 [.v (.sl (.pr (.int .i64) (.pr (.int .i64) (.pr .str (.pr .bool (.pr (.sl .str) (.sl (.int .i64)))))))) d0, .nps 1 1, .v (.sl (.int .u8)) x0])] = HS
  have m1 : mkH HS 1 = some (.var 72 [.v (.sl (.pr (.int .i64) (.pr (.int .i64) (.pr .str (.pr .bool (.pr (.sl .str) (.sl (.int .i64)))))))) d0, .nps 1 1, .v (.sl (.int .u8)) x0]) := by subst hHS; rfl
  have mo : ∀ n o, mkH HS n = some o → n = 1 := by
    intro n o h
    subst hHS
    simp only [mkH, look] at h
    cases hb : Nat.beq 1 n with
    | true => exact (Nat.eq_of_beq_eq_true hb).symm
    | false => rw [hb] at h; cases h
  have bk1 : blkOf (mkH HP) G 1 = some (G.bk 1) := by simp [blkOf, l1]
  have bk2 : blkOf (mkH HP) G 21 = (G.rv 21).ownBlock := by simp [blkOf, l2]
  have ck1 : blkOf (mkH HS) G 1 = some (G.bk 1) := by simp [blkOf, m1]
  have ck : ∀ n b, blkOf (mkH HS) G n = some b → n = 1 ∧ b = G.bk 1 := by
    intro n b h
    cases hn : mkH HS n with
    | none => simp [blkOf, hn] at h
    | some o => have := mo n o hn; subst this; rw [ck1] at h; cases h; exact ⟨rfl, rfl⟩
  have hne : ∀ g, (G.rv 21).ownBlock = some g → G.bk 1 ≠ g := fun g hg e => by
    have := dis.inj 1 21 g (by rw [bk1, e]) (by rw [bk2, hg])
    cases this
  obtain ⟨vs, hw, q0, t0, rfl, hq0, q1, t1, rfl, hq1, q2, t2, rfl, hq2, rfl⟩ := obj 1 _ l1
  obtain ⟨rfl, _⟩ := hq2
  have hlt : G.bk 1 < w.heap.size := (Array.getElem?_eq_some_iff.1 hw).1
  have hw' : w'.heap[G.bk 1]? = some (.cells [q0, q1, G.rv 21].toArray 72 (0, 0)) := by rw [hblk _ hlt hne]; exact hw
  have hmono : ∀ b, okB (mkH HP) G b → b < w.heap.size → okB (mkH HS) G b ∧ w'.heap[b]? = w.heap[b]? := fun b ho hb =>
    ⟨⟨fun n hn => by obtain ⟨_, e⟩ := ck n b hn; exact ho.1 1 (by rw [bk1, e]), ho.2⟩, hblk b hb fun g hg e => ho.1 21 (by rw [bk2, hg, e])⟩
  have hdat : RD w' (okB (mkH HS) G) (.sl (.int .u8)) x0 [G.rv 21] := by
    have hro := obj 21 _ l2
    obtain ⟨us, hown, hr, _⟩ := hro
    rcases hown.2 with ⟨hv, hn⟩ | ⟨g, cap, cur, hv, _, hgb, hnc, hcm, hcs, _⟩
    · exact ⟨none, 0, by rw [hv, hn], by omega, .inl (List.eq_nil_of_length_eq_zero hn)⟩
    · have hgo : (G.rv 21).ownBlock = some g := by rw [hv]; rfl
      refine ⟨_, cap, by rw [hv], hnc, .inr ⟨_, rfl, ?_, ?_, ?_⟩⟩
      · refine ⟨fun n hn => ?_, fun hx => dis.xo 21 g (by rw [bk2, hgo]) hx⟩
        obtain ⟨_, e⟩ := ck n g hn
        exact hne g hgo e.symm
      · have : g < w.heap.size := (Array.getElem?_eq_some_iff.1 hgb).1
        exact Nat.lt_of_lt_of_le this grow
      · intro i y hy
        obtain ⟨c, hc, hu⟩ := hr.get i y hy
        refine ⟨c, hc, fun j u hj => ?_⟩
        have := hown.cells hgo _ _ (hu j u hj)
        rw [Addr.add_lit] at this ⊢
        rw [hcell g _ hgo]
        exact this
  refine ⟨fun n o hn => ?_, fun n m b h1 h2 => (ck n b h1).1.trans (ck m b h2).1.symm, fun n t cs hn o ho => ?_, fun n ag V es hn o ho => (wqhb (by rw [hHP]; rfl) hn).elim, fun b hb hf => hblk b hb fun g hg e => hf 21 (by rw [bk2, hg, e]), rfl, fun n b hn => .inl ⟨1, by rw [(ck n b hn).2]; exact bk1⟩, grow, os, tape, out⟩
  · have := mo n o hn; subst this
    rw [m1] at hn; cases hn
    refine ⟨_, hw', _, _, rfl, RD.mono hmono hq0, _, _, rfl, ?_, _, _, rfl, hdat, rfl⟩
    rcases hq1 with h | ⟨h, _⟩
    · exact .inl h
    · exact .inr ⟨h, _, _, m1⟩
  · have e1 := mo n o ho
    subst e1
    have e2 : mkH HS 1 = some o := ho
    have e3 : mkH HP 1 = some (.var t cs) := hn
    rw [m1] at e2; rw [l1] at e3; cases e2; cases e3
    exact ⟨⟨_, rfl⟩, rfl⟩
theorem wqh9 (k : Nat) {ps : List PV} {hp : List (Nm × HObj)} {R : Type} {K : Out → Option R} {r : R} (h : wq4b k ps hp K = some r) : DoesTo Tryz.prog 28 ps hp fun out => K out = some r := by
  unfold wq4b at h
  split at h
  · next x0 d0 =>
    intro G w vals hr obj dis
    unfold wq32 at h
    cases hb : allB x0 with
    | false => rw [hb] at h; cases h
    | true =>
      rw [hb, cond_true] at h
      obtain ⟨v0, l0, rfl, h0, rfl⟩ := hr
      obtain ⟨rfl, _⟩ := h0
      generalize hHP : [(21, HObj.row 5 (.int .u8) x0), (1, .var 72 [.v (.sl (.pr (.int .i64) (.pr (.int .i64) (.pr .str (.pr .bool (.pr (.sl .str) (.sl (.int .i64)))))))) d0, .nps 1 1, .row 21])] = HP at *
      have l1 : mkH HP 1 = some (.var 72 [.v (.sl (.pr (.int .i64) (.pr (.int .i64) (.pr .str (.pr .bool (.pr (.sl .str) (.sl (.int .i64)))))))) d0, .nps 1 1, .row 21]) := by subst hHP; rfl
      have l2 : mkH HP 21 = some (.row 5 (.int .u8) x0) := by subst hHP; rfl
      show Does _ _ #[_] _ _
      unfold Does
      rw [wqb2]
      obtain ⟨vs, hw, q0, t0, rfl, hq0, q1, t1, rfl, hq1, q2, t2, rfl, hq2, rfl⟩ := obj 1 _ l1
      obtain ⟨rfl, _⟩ := hq2
      have hro := obj 21 _ l2
      obtain ⟨us, hown, hrd, _⟩ := hro
      have fin : ∀ {e : Ending} {w' : World}, e = .returned (.string ⟨(wq1t x0).toArray⟩) → (∀ b, b < w.heap.size → (∀ g, (G.rv 21).ownBlock = some g → b ≠ g) → w'.heap[b]? = w.heap[b]?) → (∀ g o, (G.rv 21).ownBlock = some g → w'.cell? ⟨g, o, none⟩ = w.cell? ⟨g, o, none⟩) → w.heap.size ≤ w'.heap.size → w'.os = w.os → w'.tape = w.tape → w'.output = w.output →
          ∃ out, K out = some r ∧ ∃ G', OutIs G' w' e out ∧ Fin HP out.hs G w G' w' := by
        intro e w' he h1 h2 h3 h4 h5 h6
        exact ⟨_, h, G, ⟨_, he, rfl⟩, wqyb hHP.symm obj dis h1 h2 h3 h4 h5 h6⟩
      rcases hown.2 with ⟨hv, hn⟩ | ⟨g, cap, cur, hv, _, hgb, hnc, hcm, hcs, htk⟩
      · have hx : x0 = [] := List.eq_nil_of_length_eq_zero hn
        subst hx
        rw [hv] at hw
        refine Calls.mono (wq13d (G.bk 1) q0 q1 w hw) fun e w' hh => ?_
        obtain ⟨rfl, rfl⟩ := hh
        exact fin rfl (fun _ _ _ => rfl) (fun _ _ _ => rfl) (Nat.le_refl _) rfl rfl rfl
      · have hgo : (G.rv 21).ownBlock = some g := by rw [hv]; rfl
        rw [hv] at hw
        by_cases hx : x0 = []
        · subst hx
          by_cases hc0 : cap = 0
          · subst hc0
            refine Calls.mono (wqwr (G.bk 1) g q0 q1 cur w hw hgb) fun e w' hh => ?_
            obtain ⟨rfl, o, rfl⟩ := hh
            have hold : ∀ b, b < w.heap.size → (w.alloc o).drew.heap[b]? = w.heap[b]? := fun b hb => Lib.alloc_old w _ b hb
            refine fin rfl (fun b hb _ => hold b hb) (fun g' o' hg' => ?_) (by have := World.size_alloc w o; show _ ≤ (w.alloc o).heap.size; omega) rfl rfl rfl
            rw [hgo] at hg'; cases hg'
            exact World.cell?_of_block (hold g (Array.getElem?_eq_some_iff.1 hgb).1)
          · refine Calls.mono (wq10x (G.bk 1) g cap q0 q1 w hc0 hw) fun e w' hh => ?_
            obtain ⟨rfl, rfl⟩ := hh
            exact fin rfl (fun _ _ _ => rfl) (fun _ _ _ => rfl) (Nat.le_refl _) rfl rfl rfl
        · have hlen : (wq1t x0).length = x0.length := by simp [wq1t]
          have hbytes : ∀ (j : Nat) (x : UInt8), (wq1t x0)[j]? = some x → w.cell? ⟨g, j, none⟩ = some (.int .u8 x.toNat) := by
            intro j x hj
            have hjl : j < x0.length := by rw [← hlen]; exact (List.getElem?_eq_some_iff.1 hj).1
            have hy : x0[j]? = some x0[j] := by simp [hjl]
            obtain ⟨c, hc, hu⟩ := hrd.get j _ hy
            have hc : c = [.int .u8 x0[j]] := hc
            have h9 := hown.cells hgo _ _ (hu 0 (.int .u8 x0[j]) (by rw [hc]; rfl))
            rw [Addr.add_lit] at h9
            have hj2 : x = UInt8.ofNat (x0[j]).toNat := by
              simp only [wq1t, List.getElem?_map, hy, Option.map_some, Option.some.injEq] at hj
              exact hj.symm
            obtain ⟨h10, h11⟩ := wq1au hb j _ hy
            have : ((x.toNat : Nat) : Int) = x0[j] := by
              rw [hj2, UInt8.toNat_ofNat']
              omega
            rw [this]
            have e0 : 0 + (j * Kd.sz (.int .u8) + 0) = j := by simp [Kd.sz]
            rw [e0] at h9
            exact h9
          rw [← hlen] at hw
          have hne : wq1t x0 ≠ [] := by intro e; rw [e] at hlen; exact hx (List.eq_nil_of_length_eq_zero hlen.symm)
          refine Calls.mono (wqya (G.bk 1) g cap q0 q1 (wq1t x0) cur w hw hne hgb (by omega) hcm (by simpa [Kd.sz] using hcs) hbytes) fun e w' hh => ?_
          obtain ⟨rfl, rfl⟩ := hh
          have hfz : ∀ b, b ≠ g → (w.drew.freeze ⟨g, 0, none⟩ (wq1t x0).length).heap[b]? = w.heap[b]? := by
            intro b hb
            unfold World.freeze
            split
            · rfl
            · show (w.heap.modify g _)[b]? = _
              rw [Array.getElem?_modify, if_neg (Ne.symm hb)]
          refine fin rfl (fun b _ hb => hfz b (hb g hgo)) (fun g' o' hg' => ?_) ?_ ?_ ?_ ?_
          · rw [hgo] at hg'; cases hg'
            unfold World.freeze
            split
            · rfl
            · simp only [World.cell?, World.drew, Array.getElem?_modify, if_true, hgb, Option.map_some]
          all_goals
            unfold World.freeze
            split
            · first | rfl | exact Nat.le_refl _
            · first | rfl | (show w.heap.size ≤ (w.heap.modify g _).size; rw [Array.size_modify]; exact Nat.le_refl _)
  · cases h
end Go.Proofs.YtdfhgimidmfgfaaGreatDoor.Pvm
set_option maxRecDepth 1000000
set_option maxHeartbeats 0
noncomputable section
namespace Go.Proofs.YtdfhgimidmfgfaaGreatDoor.Pvm
open Go Go.Proofs
def wqtq : List LS := [.ag [.sl kdT48]]
def wqqz {R : Type} (K : ((List Int) → Int → Option R)) : Out → Option R
  | .ret [.v (.sl (.int .u8)) y0, .v (.int .i64) y1] [] => K y0 y1
  | _ => none
def wq15y : RetSpec := ⟨[.sl (.int .u8), .any], [], []⟩
def wq15z (k : Nat) : Ctx := ⟨tyT, [], (.add 11 wqqt (wqay k) (.add 26 wq9e (wq1i k) (.add 27 wqi9 (wq3c k) (.add 28 wqfm (wq4b k) .nil)))), [], [], [], @SH⟩
def wqze (k : Nat) {R : Type}  (x0 : (List dT48)) (K : ((List Int) → Int → Option R)) : Option R := (wqc6 k x0 (fun y4 => (cond (y4 != 0) (K [] y4) (wq5j k x0 [] 0 0 (fun y5 y6 => (wq4a k y5 y6 (fun y7 y8 y9 => (cond (decide (y9 > 60000)) (K [] 4) (wq32 k y7 y8 (fun y10 y11 y12 => (K (wqn y12) 0)))))))))))
def wqce (k : Nat) {R : Type} (x0 : (List dT48)) (K : ((List Int) → Int → Option R)) : Option R := wqze k  x0 K
theorem wq10y (k : Nat) {R : Type} (x0 : (List dT48)) (K : ((List Int) → Int → Option R)) : fnW (wq15z k) k Tryz.f9 wq15y [.agg [.v kdT25 x0]] [] (wqqz K) = wqce k x0 K := by
  kernel_rfl
def wqdy (k : Nat) {R : Type} : List PV → List (Nm × HObj) → (Out → Option R) → Option R
  | [.agg [.v (.sl (.pr (.int .i64) (.pr (.int .i64) (.pr .str (.pr .bool (.pr (.sl .str) (.sl (.int .i64)))))))) x0]], [], K => wqce k x0 (fun y0 y1 => K (.ret [.v (.sl (.int .u8)) y0, .v (.int .i64) y1] []))
  | _, _, _ => none
theorem wqzf (k : Nat) : DOK Tryz.prog 9 (wqdy k) := by
  intro ps hp R K r h
  have h : wqdy k ps hp K = some r := h
  unfold wqdy at h
  split at h
  · rw [← wq10y] at h
    exact fnW_ok ⟨tyT_ok, (wqi (wqwo k) (wqi (wqqy k) (wqi (wqjs k) (CTab.add_ok (fun h => wqh9 k h) CTab.nil_ok)))), fun _ _ => rfl⟩ mixed (by kernel_rfl) (by kernel_rfl) h fun o ho => by unfold wqqz at ho; split at ho <;> first | exact ho | cases ho
  · cases h
end Go.Proofs.YtdfhgimidmfgfaaGreatDoor.Pvm
end


noncomputable section
namespace Go.Proofs.YtdfhgimidmfgfaaGreatDoor.Pvm
open Go Go.Proofs
def wqyc : List LS := []
def wqlm {R : Type} (K : (Bool → Option R)) : Out → Option R
  | .ret [.v .bool y0] [] => K y0
  | _ => none
def wq10z : RetSpec := ⟨[.any], [], []⟩
def wq110 (k : Nat) : Ctx := ⟨tyT, [], (.add 9 wqtq (wqdy k) (.add 11 wqqt (wqay k) (.add 12 wq13c (wqhn k) .nil))), [], [], [], @SH⟩
def wqtr (k : Nat) {R : Type}   (K : (Bool → Option R)) : Option R := (wqce k [(3, (0, ([], (false, ([[97]], [1]))))), (2, (0, ([], (false, ([], [2, 3]))))), (1, (0, ([98], (false, ([], []))))), (1, (0, ([99], (true, ([], [])))))] (fun y3 y4 => (wqce k [] (fun y5 y6 => (wqc6 k [(3, (0, ([], (false, ([[97]], [1]))))), (2, (0, ([], (false, ([], [2, 3]))))), (1, (0, ([98], (false, ([], []))))), (1, (0, ([99], (true, ([], [])))))] (fun y7 => (cond ((cond (cond (cond (y7 == 0) (y4 == 0) false) ((wq1t y3) == [(97 : UInt8), 58, 10, 32, 32, 45, 32, 98, 10, 32, 32, 45, 32, 34, 99, 34, 10]) false) (y6 == 1) false) == true) (wqfz k [(3, (0, ([], (false, ([[97]], [1]))))), (2, (0, ([], (false, ([], [2, 3]))))), (1, (0, ([98], (false, ([], []))))), (1, (0, ([99], (true, ([], [])))))] [(3, (0, ([], (false, ([[97]], [1]))))), (2, (0, ([], (false, ([], [2, 3]))))), (1, (0, ([98], (false, ([], []))))), (1, (0, ([99], (true, ([], [])))))] (fun y8 => (cond (y8 == true) (wqfz k [(3, (0, ([], (false, ([[97]], [1]))))), (2, (0, ([], (false, ([], [2, 3]))))), (1, (0, ([98], (false, ([], []))))), (1, (0, ([99], (true, ([], [])))))] [] (fun y9 => (K (!y9)))) (K false)))) (K false))))))))
def wq6p (k : Nat) {R : Type}  (K : (Bool → Option R)) : Option R := wqtr k   K
theorem wqws (k : Nat) {R : Type}  (K : (Bool → Option R)) : fnW (wq110 k) k Tryz.f6 wq10z [] [] (wqlm K) = wq6p k  K := by
  kernel_rfl
def wqd8 (k : Nat) {R : Type} : List PV → List (Nm × HObj) → (Out → Option R) → Option R
  | [], [], K => wq6p k  (fun y0 => K (.ret [.v .bool y0] []))
  | _, _, _ => none
theorem wq13e (k : Nat) : DOK Tryz.prog 6 (wqd8 k) := by
  intro ps hp R K r h
  have h : wqd8 k ps hp K = some r := h
  unfold wqd8 at h
  split at h
  · rw [← wqws] at h
    exact fnW_ok ⟨tyT_ok, (wqi (wqzf k) (wqi (wqwo k) (wqi (wq191 k) CTab.nil_ok))), fun _ _ => rfl⟩ mixed (by kernel_rfl) (by kernel_rfl) h fun o ho => by unfold wqlm at ho; split at ho <;> first | exact ho | cases ho
  · cases h
end Go.Proofs.YtdfhgimidmfgfaaGreatDoor.Pvm
end


noncomputable section
namespace Go.Proofs.YtdfhgimidmfgfaaGreatDoor.Pvm
open Go Go.Proofs
def wqyd : List LS := [.ag [.sl kdT48]]
def wq6h {R : Type} (K : (Bool → Option R)) : Out → Option R
  | .ret [.v .bool y0] [] => K y0
  | _ => none
def wqb3 : RetSpec := ⟨[.any], [], []⟩
def wqb4 (k : Nat) : Ctx := ⟨tyT, [(1003, ⟨[(1, .obj 11 [.sl kdT48]), (3, .any), (4, .any)], []⟩), (1008, ⟨[(1, .obj 11 [.sl kdT48]), (3, .any), (4, .any), (5, .obj 15 [.any, .any, .any, .any, .sl .str, .sl kI]), (6, .any)], []⟩)], .nil, [], [], [], @SH⟩
def wq5k (s0 : (List dT48)) (s1 s2 : Int) : St := ⟨mkT [(1, .ptr 11 0), (3, .v kI s1), (4, .v kI s2)], mkH [(11, .var 26 [.v kdT25 s0])]⟩
def wq80 (s0 : (List dT48)) (s1 s2 s3 s4 : Int) (s5 : (List UInt8)) (s6 : Bool) (s7 : (List (List UInt8))) (s8 : (List Int)) (s9 : Int) : St := ⟨mkT [(1, .ptr 11 0), (3, .v kI s1), (4, .v kI s2), (5, .ptr 15 0), (6, .v kI s9)], mkH [(11, .var 26 [.v kdT25 s0]), (15, .var 49 [.v kI s3, .v kI s4, .v .str s5, .v .bool s6, .v (.sl .str) s7, .v (.sl kI) s8])]⟩
def wqcf (k : Nat) {R : Type} (I : Nat → St → Option R) (n : Nat) (s : St) (K : (Bool → Option R)) : Option R := loopK (wqb4 k) k Tryz.f13 wqb3 1003 [1, 1, 0, 1, 0] I n s (wq6h K)
def wqcg (k : Nat) {R : Type} (I : Nat → St → Option R) (n : Nat) (s : St) (K : (Bool → Option R)) : Option R := loopK (wqb4 k) k Tryz.f13 wqb3 1008 [1, 1, 0, 1, 0, 0, 1, 0, 0, 1, 1, 1, 0] I n s (wq6h K)
def wq8t (k : Nat) {R : Type} (E1008 : ((List dT48) → Int → Int → Int → Int → (List UInt8) → Bool → (List (List UInt8)) → (List Int) → Int → Option R)) (s0 : (List dT48)) (s1 s2 : Int) (K : (Bool → Option R)) : Option R := (cond (cond (decide (s2 < (s0.length : Int))) (decide (s1 ≤ 4000)) false) (cond (inb s2 (s0.length : Int)) (E1008 s0 (@Go.IntKind.wrap Go.IntKind.i64 ((@Go.IntKind.wrap Go.IntKind.i64 ((@Go.IntKind.wrap Go.IntKind.i64 (s1 + (cond false (@ite (@Kd.T kI) ((4001 : Int) > (((((s0.getD s2.toNat (Kd.zero (@Kd.pr kI (@Kd.pr kI (@Kd.pr Kd.str (@Kd.pr Kd.bool (@Kd.pr (@Kd.sl Kd.str) (@Kd.sl kI)))))))).2).2).1).length : Int)) (@Int.decLt (((((s0.getD s2.toNat (Kd.zero (@Kd.pr kI (@Kd.pr kI (@Kd.pr Kd.str (@Kd.pr Kd.bool (@Kd.pr (@Kd.sl Kd.str) (@Kd.sl kI)))))))).2).2).1).length : Int) (4001 : Int)) (4001 : Int) (((((s0.getD s2.toNat (Kd.zero (@Kd.pr kI (@Kd.pr kI (@Kd.pr Kd.str (@Kd.pr Kd.bool (@Kd.pr (@Kd.sl Kd.str) (@Kd.sl kI)))))))).2).2).1).length : Int)) (@ite (@Kd.T kI) ((4001 : Int) < (((((s0.getD s2.toNat (Kd.zero (@Kd.pr kI (@Kd.pr kI (@Kd.pr Kd.str (@Kd.pr Kd.bool (@Kd.pr (@Kd.sl Kd.str) (@Kd.sl kI)))))))).2).2).1).length : Int)) (@Int.decLt (4001 : Int) (((((s0.getD s2.toNat (Kd.zero (@Kd.pr kI (@Kd.pr kI (@Kd.pr Kd.str (@Kd.pr Kd.bool (@Kd.pr (@Kd.sl Kd.str) (@Kd.sl kI)))))))).2).2).1).length : Int)) (4001 : Int) (((((s0.getD s2.toNat (Kd.zero (@Kd.pr kI (@Kd.pr kI (@Kd.pr Kd.str (@Kd.pr Kd.bool (@Kd.pr (@Kd.sl Kd.str) (@Kd.sl kI)))))))).2).2).1).length : Int))))) + (cond false (@ite (@Kd.T kI) ((4001 : Int) > (((((((s0.getD s2.toNat (Kd.zero (@Kd.pr kI (@Kd.pr kI (@Kd.pr Kd.str (@Kd.pr Kd.bool (@Kd.pr (@Kd.sl Kd.str) (@Kd.sl kI)))))))).2).2).2).2).1).length : Int)) (@Int.decLt (((((((s0.getD s2.toNat (Kd.zero (@Kd.pr kI (@Kd.pr kI (@Kd.pr Kd.str (@Kd.pr Kd.bool (@Kd.pr (@Kd.sl Kd.str) (@Kd.sl kI)))))))).2).2).2).2).1).length : Int) (4001 : Int)) (4001 : Int) (((((((s0.getD s2.toNat (Kd.zero (@Kd.pr kI (@Kd.pr kI (@Kd.pr Kd.str (@Kd.pr Kd.bool (@Kd.pr (@Kd.sl Kd.str) (@Kd.sl kI)))))))).2).2).2).2).1).length : Int)) (@ite (@Kd.T kI) ((4001 : Int) < (((((((s0.getD s2.toNat (Kd.zero (@Kd.pr kI (@Kd.pr kI (@Kd.pr Kd.str (@Kd.pr Kd.bool (@Kd.pr (@Kd.sl Kd.str) (@Kd.sl kI)))))))).2).2).2).2).1).length : Int)) (@Int.decLt (4001 : Int) (((((((s0.getD s2.toNat (Kd.zero (@Kd.pr kI (@Kd.pr kI (@Kd.pr Kd.str (@Kd.pr Kd.bool (@Kd.pr (@Kd.sl Kd.str) (@Kd.sl kI)))))))).2).2).2).2).1).length : Int)) (4001 : Int) (((((((s0.getD s2.toNat (Kd.zero (@Kd.pr kI (@Kd.pr kI (@Kd.pr Kd.str (@Kd.pr Kd.bool (@Kd.pr (@Kd.sl Kd.str) (@Kd.sl kI)))))))).2).2).2).2).1).length : Int))))) + (cond false (@ite (@Kd.T kI) ((4001 : Int) > (((((((s0.getD s2.toNat (Kd.zero (@Kd.pr kI (@Kd.pr kI (@Kd.pr Kd.str (@Kd.pr Kd.bool (@Kd.pr (@Kd.sl Kd.str) (@Kd.sl kI)))))))).2).2).2).2).2).length : Int)) (@Int.decLt (((((((s0.getD s2.toNat (Kd.zero (@Kd.pr kI (@Kd.pr kI (@Kd.pr Kd.str (@Kd.pr Kd.bool (@Kd.pr (@Kd.sl Kd.str) (@Kd.sl kI)))))))).2).2).2).2).2).length : Int) (4001 : Int)) (4001 : Int) (((((((s0.getD s2.toNat (Kd.zero (@Kd.pr kI (@Kd.pr kI (@Kd.pr Kd.str (@Kd.pr Kd.bool (@Kd.pr (@Kd.sl Kd.str) (@Kd.sl kI)))))))).2).2).2).2).2).length : Int)) (@ite (@Kd.T kI) ((4001 : Int) < (((((((s0.getD s2.toNat (Kd.zero (@Kd.pr kI (@Kd.pr kI (@Kd.pr Kd.str (@Kd.pr Kd.bool (@Kd.pr (@Kd.sl Kd.str) (@Kd.sl kI)))))))).2).2).2).2).2).length : Int)) (@Int.decLt (4001 : Int) (((((((s0.getD s2.toNat (Kd.zero (@Kd.pr kI (@Kd.pr kI (@Kd.pr Kd.str (@Kd.pr Kd.bool (@Kd.pr (@Kd.sl Kd.str) (@Kd.sl kI)))))))).2).2).2).2).2).length : Int)) (4001 : Int) (((((((s0.getD s2.toNat (Kd.zero (@Kd.pr kI (@Kd.pr kI (@Kd.pr Kd.str (@Kd.pr Kd.bool (@Kd.pr (@Kd.sl Kd.str) (@Kd.sl kI)))))))).2).2).2).2).2).length : Int))))) s2 (s0.getD s2.toNat (Kd.zero (@Kd.pr kI (@Kd.pr kI (@Kd.pr Kd.str (@Kd.pr Kd.bool (@Kd.pr (@Kd.sl Kd.str) (@Kd.sl kI)))))))).1 ((s0.getD s2.toNat (Kd.zero (@Kd.pr kI (@Kd.pr kI (@Kd.pr Kd.str (@Kd.pr Kd.bool (@Kd.pr (@Kd.sl Kd.str) (@Kd.sl kI)))))))).2).1 (((s0.getD s2.toNat (Kd.zero (@Kd.pr kI (@Kd.pr kI (@Kd.pr Kd.str (@Kd.pr Kd.bool (@Kd.pr (@Kd.sl Kd.str) (@Kd.sl kI)))))))).2).2).1 ((((s0.getD s2.toNat (Kd.zero (@Kd.pr kI (@Kd.pr kI (@Kd.pr Kd.str (@Kd.pr Kd.bool (@Kd.pr (@Kd.sl Kd.str) (@Kd.sl kI)))))))).2).2).2).1 (((((s0.getD s2.toNat (Kd.zero (@Kd.pr kI (@Kd.pr kI (@Kd.pr Kd.str (@Kd.pr Kd.bool (@Kd.pr (@Kd.sl Kd.str) (@Kd.sl kI)))))))).2).2).2).2).1 (((((s0.getD s2.toNat (Kd.zero (@Kd.pr kI (@Kd.pr kI (@Kd.pr Kd.str (@Kd.pr Kd.bool (@Kd.pr (@Kd.sl Kd.str) (@Kd.sl kI)))))))).2).2).2).2).2 0) none) (K (decide (s1 > 4000))))
theorem wqmv (k : Nat) {R : Type} (I : Nat → St → Option R) (s0 : (List dT48)) (s1 s2 : Int) (K : (Bool → Option R)) : bodyK (wqb4 k) k Tryz.f13 wqb3 [1, 1, 0, 1, 0, 0] I (wq5k s0 s1 s2) (wq6h K) = wq8t k (fun s0 s1 s2 s3 s4 s5 s6 s7 s8 s9 => wqcg k I k (wq80 s0 s1 s2 s3 s4 s5 s6 s7 s8 s9) K) s0 s1 s2 K := by kernel_rfl
def wq8u (k : Nat) {R : Type} (E1003 : ((List dT48) → Int → Int → Option R)) (E1008 : ((List dT48) → Int → Int → Int → Int → (List UInt8) → Bool → (List (List UInt8)) → (List Int) → Int → Option R)) (s0 : (List dT48)) (s1 s2 s3 s4 : Int) (s5 : (List UInt8)) (s6 : Bool) (s7 : (List (List UInt8))) (s8 : (List Int)) (s9 : Int) (K : (Bool → Option R)) : Option R := (cond (cond (decide (s9 < (s7.length : Int))) (decide (s1 ≤ 4000)) false) (cond (inb s9 (s7.length : Int)) (E1008 s0 (@Go.IntKind.wrap Go.IntKind.i64 (s1 + (cond false (@ite (@Kd.T kI) ((4001 : Int) > ((s7.getD s9.toNat Kd.str.zero).length : Int)) (@Int.decLt ((s7.getD s9.toNat Kd.str.zero).length : Int) (4001 : Int)) (4001 : Int) ((s7.getD s9.toNat Kd.str.zero).length : Int)) (@ite (@Kd.T kI) ((4001 : Int) < ((s7.getD s9.toNat Kd.str.zero).length : Int)) (@Int.decLt (4001 : Int) ((s7.getD s9.toNat Kd.str.zero).length : Int)) (4001 : Int) ((s7.getD s9.toNat Kd.str.zero).length : Int))))) s2 s3 s4 s5 s6 s7 s8 (@Go.IntKind.wrap Go.IntKind.i64 (s9 + 1))) none) (E1003 s0 s1 (@Go.IntKind.wrap Go.IntKind.i64 (s2 + 1))))
theorem wqmw (k : Nat) {R : Type} (I : Nat → St → Option R) (s0 : (List dT48)) (s1 s2 s3 s4 : Int) (s5 : (List UInt8)) (s6 : Bool) (s7 : (List (List UInt8))) (s8 : (List Int)) (s9 : Int) (K : (Bool → Option R)) : bodyK (wqb4 k) k Tryz.f13 wqb3 [1, 1, 0, 1, 0, 0, 1, 0, 0, 1, 1, 1, 0, 0] I (wq80 s0 s1 s2 s3 s4 s5 s6 s7 s8 s9) (wq6h K) = wq8u k (fun s0 s1 s2 => I 1003 (wq5k s0 s1 s2)) (fun s0 s1 s2 s3 s4 s5 s6 s7 s8 s9 => I 1008 (wq80 s0 s1 s2 s3 s4 s5 s6 s7 s8 s9)) s0 s1 s2 s3 s4 s5 s6 s7 s8 s9 K := by kernel_rfl
def wqln (k : Nat) {R : Type} (E1003 : ((List dT48) → Int → Int → Option R)) (x0 : (List dT48)) (K : (Bool → Option R)) : Option R := (E1003 x0 (x0.length : Int) 0)
def wq4f (k : Nat) {R : Type} (J1003 : ((List dT48) → Int → Int → Option R)) : Nat → (List dT48) → Int → Int → Int → Int → (List UInt8) → Bool → (List (List UInt8)) → (List Int) → Int → (Bool → Option R) → Option R
  | 0, _, _, _, _, _, _, _, _, _, _, _ => none
  | n + 1, s0, s1, s2, s3, s4, s5, s6, s7, s8, s9, K => wq8u k J1003 (fun s0 s1 s2 s3 s4 s5 s6 s7 s8 s9 => wq4f k J1003 n s0 s1 s2 s3 s4 s5 s6 s7 s8 s9 K) s0 s1 s2 s3 s4 s5 s6 s7 s8 s9 K
theorem wqmx (k : Nat) {R : Type} (I : Nat → St → Option R) (K : (Bool → Option R)) (n : Nat) : ∀ (s0 : (List dT48)) (s1 s2 s3 s4 : Int) (s5 : (List UInt8)) (s6 : Bool) (s7 : (List (List UInt8))) (s8 : (List Int)) (s9 : Int), wqcg k I n (wq80 s0 s1 s2 s3 s4 s5 s6 s7 s8 s9) K = wq4f k (fun s0 s1 s2 => I 1003 (wq5k s0 s1 s2)) n s0 s1 s2 s3 s4 s5 s6 s7 s8 s9 K := by
  induction n with
  | zero => intros; rfl
  | succ n ih =>
    intro s0 s1 s2 s3 s4 s5 s6 s7 s8 s9
    refine (?_ : _ = _).trans ((wqmw k (upI 1008 (fun s => wqcg k I n s K) I) s0 s1 s2 s3 s4 s5 s6 s7 s8 s9 K).trans ?_)
    · rfl
    · simp only [wq1h, ih, upI_ne (show Nat.beq 1003 1008 = false from rfl)] <;> rfl
def wq4g (k : Nat) {R : Type}  : Nat → (List dT48) → Int → Int → (Bool → Option R) → Option R
  | 0, _, _, _, _ => none
  | n + 1, s0, s1, s2, K => wq8t k (fun s0 s1 s2 s3 s4 s5 s6 s7 s8 s9 => wq4f k (fun s0 s1 s2 => wq4g k  n s0 s1 s2 K) k s0 s1 s2 s3 s4 s5 s6 s7 s8 s9 K) s0 s1 s2 K
theorem wqmy (k : Nat) {R : Type} (I : Nat → St → Option R) (K : (Bool → Option R)) (n : Nat) : ∀ (s0 : (List dT48)) (s1 s2 : Int), wqcf k I n (wq5k s0 s1 s2) K = wq4g k  n s0 s1 s2 K := by
  induction n with
  | zero => intros; rfl
  | succ n ih =>
    intro s0 s1 s2
    refine (?_ : _ = _).trans ((wqmv k (upI 1003 (fun s => wqcf k I n s K) I) s0 s1 s2 K).trans ?_)
    · rfl
    · simp only [wq1h, ih, wqmx] <;> rfl
def wqdz (k : Nat) {R : Type} (x0 : (List dT48)) (K : (Bool → Option R)) : Option R := wqln k (fun s0 s1 s2 => wq4g k k s0 s1 s2 K) x0 K
theorem wqwt (k : Nat) {R : Type} (x0 : (List dT48)) (K : (Bool → Option R)) : fnW (wqb4 k) k Tryz.f13 wqb3 [.agg [.v kdT25 x0]] [] (wq6h K) = wqdz k x0 K := by
  refine Eq.trans (b := wqln k (fun s0 s1 s2 => wqcf k (fun _ _ => none) k (wq5k s0 s1 s2) K) x0 K) (by kernel_rfl) ?_
  simp only [wqmy] <;> rfl
def wqd9 (k : Nat) {R : Type} : List PV → List (Nm × HObj) → (Out → Option R) → Option R
  | [.agg [.v (.sl (.pr (.int .i64) (.pr (.int .i64) (.pr .str (.pr .bool (.pr (.sl .str) (.sl (.int .i64)))))))) x0]], [], K => wqdz k x0 (fun y0 => K (.ret [.v .bool y0] []))
  | _, _, _ => none
theorem wq13f (k : Nat) : DOK Tryz.prog 13 (wqd9 k) := by
  intro ps hp R K r h
  have h : wqd9 k ps hp K = some r := h
  unfold wqd9 at h
  split at h
  · rw [← wqwt] at h
    exact fnW_ok ⟨tyT_ok, CTab.nil_ok, fun _ _ => rfl⟩ mixed (by kernel_rfl) (by kernel_rfl) h fun o ho => by unfold wq6h at ho; split at ho <;> first | exact ho | cases ho
  · cases h
end Go.Proofs.YtdfhgimidmfgfaaGreatDoor.Pvm
end


noncomputable section
namespace Go.Proofs.YtdfhgimidmfgfaaGreatDoor.Pvm
open Go Go.Proofs
def wqr0 : List LS := [.any]
def wqne {R : Type} (K : (Bool → Option R)) : Out → Option R
  | .ret [.v .bool y0] [] => K y0
  | _ => none
def wq13g : RetSpec := ⟨[.any], [], []⟩
def wq13h (k : Nat) : Ctx := ⟨tyT, [], .nil, [], [], [], @SH⟩
def wqwu (k : Nat) {R : Type}  (x0 : Int) (K : (Bool → Option R)) : Option R := (K (cond (cond (cond (cond (cond (cond (decide (x0 ≥ 97)) (decide (x0 ≤ 122)) false) true (cond (decide (x0 ≥ 65)) (decide (x0 ≤ 90)) false)) true (cond (decide (x0 ≥ 48)) (decide (x0 ≤ 57)) false)) true (x0 == 95)) true (x0 == 45)) true (x0 == 46)))
def wqch (k : Nat) {R : Type} (x0 : Int) (K : (Bool → Option R)) : Option R := wqwu k  x0 K
theorem wqye (k : Nat) {R : Type} (x0 : Int) (K : (Bool → Option R)) : fnW (wq13h k) k Tryz.f121 wq13g [.v (.int .u8) x0] [] (wqne K) = wqch k x0 K := by
  kernel_rfl
def wqb5 (k : Nat) {R : Type} : List PV → List (Nm × HObj) → (Out → Option R) → Option R
  | [.v (.int .u8) x0], [], K => wqch k x0 (fun y0 => K (.ret [.v .bool y0] []))
  | _, _, _ => none
theorem wqwv (k : Nat) : DOK Tryz.prog 121 (wqb5 k) := by
  intro ps hp R K r h
  have h : wqb5 k ps hp K = some r := h
  unfold wqb5 at h
  split at h
  · rw [← wqye] at h
    exact fnW_ok ⟨tyT_ok, CTab.nil_ok, fun _ _ => rfl⟩ mixed (by kernel_rfl) (by kernel_rfl) h fun o ho => by unfold wqne at ho; split at ho <;> first | exact ho | cases ho
  · cases h
end Go.Proofs.YtdfhgimidmfgfaaGreatDoor.Pvm
end


noncomputable section
namespace Go.Proofs.YtdfhgimidmfgfaaGreatDoor.Pvm
open Go Go.Proofs
def wq13i : List LS := [.any]
def wqfn {R : Type} (K : (Bool → Option R)) : Out → Option R
  | .ret [.v .bool y0] [] => K y0
  | _ => none
def wqoy : RetSpec := ⟨[.any], [], []⟩
def wqoz (k : Nat) : Ctx := ⟨tyT, [(1004, ⟨[(0, .any), (3, .any)], []⟩)], (.add 121 wqr0 (wqb5 k) .nil), [], [], [], @SH⟩
def wq9s (s0 : (List UInt8)) (s1 : Int) : St := ⟨mkT [(0, .v .str s0), (3, .v kI s1)], mkH []⟩
def wqgw (k : Nat) {R : Type} (I : Nat → St → Option R) (n : Nat) (s : St) (K : (Bool → Option R)) : Option R := loopK (wqoz k) k Tryz.f124 wqoy 1004 [1, 1, 0, 1, 0] I n s (wqfn K)
def wqb6 (k : Nat) {R : Type} (E1004 : ((List UInt8) → Int → Option R)) (s0 : (List UInt8)) (s1 : Int) (K : (Bool → Option R)) : Option R := (cond (decide (s1 < (s0.length : Int))) (cond (inb s1 (s0.length : Int)) (wqch k ((s0.getD s1.toNat 0).toNat : Int) (fun y6 => (cond (!y6) (K false) (E1004 s0 (@Go.IntKind.wrap Go.IntKind.i64 (s1 + 1)))))) none) (K true))
theorem wqr1 (k : Nat) {R : Type} (I : Nat → St → Option R) (s0 : (List UInt8)) (s1 : Int) (K : (Bool → Option R)) : bodyK (wqoz k) k Tryz.f124 wqoy [1, 1, 0, 1, 0, 0] I (wq9s s0 s1) (wqfn K) = wqb6 k (fun s0 s1 => I 1004 (wq9s s0 s1)) s0 s1 K := by kernel_rfl
def wqsw (k : Nat) {R : Type} (E1004 : ((List UInt8) → Int → Option R)) (x0 : (List UInt8)) (K : (Bool → Option R)) : Option R := (cond (cond (x0 == []) true (decide ((x0.length : Int) > 64))) (K false) (E1004 x0 0))
def wq6i (k : Nat) {R : Type}  : Nat → (List UInt8) → Int → (Bool → Option R) → Option R
  | 0, _, _, _ => none
  | n + 1, s0, s1, K => wqb6 k (fun s0 s1 => wq6i k  n s0 s1 K) s0 s1 K
theorem wqr2 (k : Nat) {R : Type} (I : Nat → St → Option R) (K : (Bool → Option R)) (n : Nat) : ∀ (s0 : (List UInt8)) (s1 : Int), wqgw k I n (wq9s s0 s1) K = wq6i k  n s0 s1 K := by
  induction n with
  | zero => intros; rfl
  | succ n ih =>
    intro s0 s1
    refine (?_ : _ = _).trans ((wqr1 k (upI 1004 (fun s => wqgw k I n s K) I) s0 s1 K).trans ?_)
    · rfl
    · simp only [wq1h, ih] <;> rfl
def wqiy (k : Nat) {R : Type} (x0 : (List UInt8)) (K : (Bool → Option R)) : Option R := wqsw k (fun s0 s1 => wq6i k k s0 s1 K) x0 K
theorem wq111 (k : Nat) {R : Type} (x0 : (List UInt8)) (K : (Bool → Option R)) : fnW (wqoz k) k Tryz.f124 wqoy [.v .str x0] [] (wqfn K) = wqiy k x0 K := by
  refine Eq.trans (b := wqsw k (fun s0 s1 => wqgw k (fun _ _ => none) k (wq9s s0 s1) K) x0 K) (by kernel_rfl) ?_
  simp only [wqr2] <;> rfl
def wqhp (k : Nat) {R : Type} : List PV → List (Nm × HObj) → (Out → Option R) → Option R
  | [.v .str x0], [], K => wqiy k x0 (fun y0 => K (.ret [.v .bool y0] []))
  | _, _, _ => none
theorem wq192 (k : Nat) : DOK Tryz.prog 124 (wqhp k) := by
  intro ps hp R K r h
  have h : wqhp k ps hp K = some r := h
  unfold wqhp at h
  split at h
  · rw [← wq111] at h
    exact fnW_ok ⟨tyT_ok, (wqi (wqwv k) CTab.nil_ok), fun _ _ => rfl⟩ mixed (by kernel_rfl) (by kernel_rfl) h fun o ho => by unfold wqfn at ho; split at ho <;> first | exact ho | cases ho
  · cases h
end Go.Proofs.YtdfhgimidmfgfaaGreatDoor.Pvm
end


noncomputable section
namespace Go.Proofs.YtdfhgimidmfgfaaGreatDoor.Pvm
open Go Go.Proofs
def wq112 : List LS := [.sl .str]
def wq7i {R : Type} (K : (Bool → Option R)) : Out → Option R
  | .ret [.v .bool y0] [] => K y0
  | _ => none
def wqe0 : RetSpec := ⟨[.any], [], []⟩
def wqe1 (k : Nat) : Ctx := ⟨tyT, [(1002, ⟨[(0, .sl .str), (3, .any)], []⟩), (1007, ⟨[(0, .sl .str), (3, .any), (4, .any)], []⟩)], (.add 124 wq13i (wqhp k) .nil), [], [], [(9, (.of [(0, 1), (1, 1), (2, 1), (4, 1), (5, 1), (6, 1), (3, 1), (7, 1), (8, 1)] .done))], @SH⟩
def wq6j (s0 : (List (List UInt8))) (s1 : Int) : St := ⟨mkT [(0, .v (.sl .str) s0), (3, .v kI s1)], mkH []⟩
def wq8v (s0 : (List (List UInt8))) (s1 s2 : Int) : St := ⟨mkT [(0, .v (.sl .str) s0), (3, .v kI s1), (4, .v kI s2)], mkH []⟩
def wqet (k : Nat) {R : Type} (I : Nat → St → Option R) (n : Nat) (s : St) (K : (Bool → Option R)) : Option R := loopK (wqe1 k) k Tryz.f94 wqe0 1002 [1, 0, 1, 0] I n s (wq7i K)
def wqeu (k : Nat) {R : Type} (I : Nat → St → Option R) (n : Nat) (s : St) (K : (Bool → Option R)) : Option R := loopK (wqe1 k) k Tryz.f94 wqe0 1007 [1, 0, 1, 0, 0, 1, 0, 0, 1, 1, 0] I n s (wq7i K)
def wq9t (k : Nat) {R : Type} (E1007 : ((List (List UInt8)) → Int → Int → Option R)) (s0 : (List (List UInt8))) (s1 : Int) (K : (Bool → Option R)) : Option R := (cond (decide (s1 < (s0.length : Int))) (cond (inb s1 (s0.length : Int)) (wqiy k (s0.getD s1.toNat Kd.str.zero) (fun y7 => (cond (!y7) (K false) (E1007 s0 s1 0)))) none) (K true))
theorem wqp0 (k : Nat) {R : Type} (I : Nat → St → Option R) (s0 : (List (List UInt8))) (s1 : Int) (K : (Bool → Option R)) : bodyK (wqe1 k) k Tryz.f94 wqe0 [1, 0, 1, 0, 0] I (wq6j s0 s1) (wq7i K) = wq9t k (fun s0 s1 s2 => wqeu k I k (wq8v s0 s1 s2) K) s0 s1 K := by kernel_rfl
def wq9u (k : Nat) {R : Type} (E1002 : ((List (List UInt8)) → Int → Option R)) (E1007 : ((List (List UInt8)) → Int → Int → Option R)) (s0 : (List (List UInt8))) (s1 s2 : Int) (K : (Bool → Option R)) : Option R := (cond (decide (s2 < s1)) (cond (inb s2 (s0.length : Int)) (cond (inb s1 (s0.length : Int)) (cond ((s0.getD s2.toNat Kd.str.zero) == (s0.getD s1.toNat Kd.str.zero)) (K false) (E1007 s0 s1 (@Go.IntKind.wrap Go.IntKind.i64 (s2 + 1)))) none) none) (E1002 s0 (@Go.IntKind.wrap Go.IntKind.i64 (s1 + 1))))
theorem wqp1 (k : Nat) {R : Type} (I : Nat → St → Option R) (s0 : (List (List UInt8))) (s1 s2 : Int) (K : (Bool → Option R)) : bodyK (wqe1 k) k Tryz.f94 wqe0 [1, 0, 1, 0, 0, 1, 0, 0, 1, 1, 0, 0] I (wq8v s0 s1 s2) (wq7i K) = wq9u k (fun s0 s1 => I 1002 (wq6j s0 s1)) (fun s0 s1 s2 => I 1007 (wq8v s0 s1 s2)) s0 s1 s2 K := by kernel_rfl
def wqp2 (k : Nat) {R : Type} (E1002 : ((List (List UInt8)) → Int → Option R)) (x0 : (List (List UInt8))) (K : (Bool → Option R)) : Option R := (E1002 x0 0)
def wq56 (k : Nat) {R : Type} (J1002 : ((List (List UInt8)) → Int → Option R)) : Nat → (List (List UInt8)) → Int → Int → (Bool → Option R) → Option R
  | 0, _, _, _, _ => none
  | n + 1, s0, s1, s2, K => wq9u k J1002 (fun s0 s1 s2 => wq56 k J1002 n s0 s1 s2 K) s0 s1 s2 K
theorem wqp3 (k : Nat) {R : Type} (I : Nat → St → Option R) (K : (Bool → Option R)) (n : Nat) : ∀ (s0 : (List (List UInt8))) (s1 s2 : Int), wqeu k I n (wq8v s0 s1 s2) K = wq56 k (fun s0 s1 => I 1002 (wq6j s0 s1)) n s0 s1 s2 K := by
  induction n with
  | zero => intros; rfl
  | succ n ih =>
    intro s0 s1 s2
    refine (?_ : _ = _).trans ((wqp1 k (upI 1007 (fun s => wqeu k I n s K) I) s0 s1 s2 K).trans ?_)
    · rfl
    · simp only [wq1h, ih, upI_ne (show Nat.beq 1002 1007 = false from rfl)] <;> rfl
def wq3y (k : Nat) {R : Type}  : Nat → (List (List UInt8)) → Int → (Bool → Option R) → Option R
  | 0, _, _, _ => none
  | n + 1, s0, s1, K => wq9t k (fun s0 s1 s2 => wq56 k (fun s0 s1 => wq3y k  n s0 s1 K) k s0 s1 s2 K) s0 s1 K
theorem wqp4 (k : Nat) {R : Type} (I : Nat → St → Option R) (K : (Bool → Option R)) (n : Nat) : ∀ (s0 : (List (List UInt8))) (s1 : Int), wqet k I n (wq6j s0 s1) K = wq3y k  n s0 s1 K := by
  induction n with
  | zero => intros; rfl
  | succ n ih =>
    intro s0 s1
    refine (?_ : _ = _).trans ((wqp0 k (upI 1002 (fun s => wqet k I n s K) I) s0 s1 K).trans ?_)
    · rfl
    · simp only [wq1h, ih, wqp3] <;> rfl
def wqgx (k : Nat) {R : Type} (x0 : (List (List UInt8))) (K : (Bool → Option R)) : Option R := wqp2 k (fun s0 s1 => wq3y k k s0 s1 K) x0 K
theorem wqyf (k : Nat) {R : Type} (x0 : (List (List UInt8))) (K : (Bool → Option R)) : fnW (wqe1 k) k Tryz.f94 wqe0 [.v (.sl .str) x0] [] (wq7i K) = wqgx k x0 K := by
  refine Eq.trans (b := wqp2 k (fun s0 s1 => wqet k (fun _ _ => none) k (wq6j s0 s1) K) x0 K) (by kernel_rfl) ?_
  simp only [wqp4] <;> rfl
def wqfo (k : Nat) {R : Type} : List PV → List (Nm × HObj) → (Out → Option R) → Option R
  | [.v (.sl .str) x0], [], K => wqgx k x0 (fun y0 => K (.ret [.v .bool y0] []))
  | _, _, _ => none
theorem wq160 (k : Nat) : DOK Tryz.prog 94 (wqfo k) := by
  intro ps hp R K r h
  have h : wqfo k ps hp K = some r := h
  unfold wqfo at h
  split at h
  · rw [← wqyf] at h
    exact fnW_ok ⟨tyT_ok, (wqi (wq192 k) CTab.nil_ok), fun _ _ => rfl⟩ mixed (by kernel_rfl) (by kernel_rfl) h fun o ho => by unfold wq7i at ho; split at ho <;> first | exact ho | cases ho
  · cases h
end Go.Proofs.YtdfhgimidmfgfaaGreatDoor.Pvm
end


noncomputable section
namespace Go.Proofs.YtdfhgimidmfgfaaGreatDoor.Pvm
open Go Go.Proofs
def wqww : List LS := [.any, .any]
def wq9v {R : Type} (K : (Int → Option R)) : Out → Option R
  | .ret [.v (.int .i64) y0] [] => K y0
  | _ => none
def wqia : RetSpec := ⟨[.any], [], []⟩
def wqib (k : Nat) : Ctx := ⟨tyT, [(1002, ⟨[(0, .any), (1, .any), (5, .any)], []⟩)], .nil, [], [], [], @SH⟩
def wq76 (s0 : (List UInt8)) (s1 s2 : Int) : St := ⟨mkT [(0, .v .str s0), (1, .v kI s1), (5, .v kI s2)], mkH []⟩
def wqb7 (k : Nat) {R : Type} (I : Nat → St → Option R) (n : Nat) (s : St) (K : (Int → Option R)) : Option R := loopK (wqib k) k Tryz.f85 wqia 1002 [1, 1, 0, 0] I n s (wq9v K)
def wq81 (k : Nat) {R : Type} (E1002 : ((List UInt8) → Int → Int → Option R)) (s0 : (List UInt8)) (s1 s2 : Int) (K : (Int → Option R)) : Option R := (cond ((!((decide ((@Go.IntKind.wrap Go.IntKind.i64 (s1 + s2)) < (s0.length : Int))) == true)) || (inb (@Go.IntKind.wrap Go.IntKind.i64 (s1 + s2)) (s0.length : Int))) (cond (cond (decide ((@Go.IntKind.wrap Go.IntKind.i64 (s1 + s2)) < (s0.length : Int))) (((s0.getD (@Go.IntKind.wrap Go.IntKind.i64 (s1 + s2)).toNat 0).toNat : Int) == 32) false) (E1002 s0 s1 (@Go.IntKind.wrap Go.IntKind.i64 (s2 + 1))) (K s2)) none)
theorem wqlo (k : Nat) {R : Type} (I : Nat → St → Option R) (s0 : (List UInt8)) (s1 s2 : Int) (K : (Int → Option R)) : bodyK (wqib k) k Tryz.f85 wqia [1, 1, 0, 0, 0] I (wq76 s0 s1 s2) (wq9v K) = wq81 k (fun s0 s1 s2 => I 1002 (wq76 s0 s1 s2)) s0 s1 s2 K := by kernel_rfl
def wqjt (k : Nat) {R : Type} (E1002 : ((List UInt8) → Int → Int → Option R)) (x0 : (List UInt8)) (x1 : Int) (K : (Int → Option R)) : Option R := (E1002 x0 x1 0)
def wq3r (k : Nat) {R : Type}  : Nat → (List UInt8) → Int → Int → (Int → Option R) → Option R
  | 0, _, _, _, _ => none
  | n + 1, s0, s1, s2, K => wq81 k (fun s0 s1 s2 => wq3r k  n s0 s1 s2 K) s0 s1 s2 K
theorem wqlp (k : Nat) {R : Type} (I : Nat → St → Option R) (K : (Int → Option R)) (n : Nat) : ∀ (s0 : (List UInt8)) (s1 s2 : Int), wqb7 k I n (wq76 s0 s1 s2) K = wq3r k  n s0 s1 s2 K := by
  induction n with
  | zero => intros; rfl
  | succ n ih =>
    intro s0 s1 s2
    refine (?_ : _ = _).trans ((wqlo k (upI 1002 (fun s => wqb7 k I n s K) I) s0 s1 s2 K).trans ?_)
    · rfl
    · simp only [wq1h, ih] <;> rfl
def wq77 (k : Nat) {R : Type} (x0 : (List UInt8)) (x1 : Int) (K : (Int → Option R)) : Option R := wqjt k (fun s0 s1 s2 => wq3r k k s0 s1 s2 K) x0 x1 K
theorem wquh (k : Nat) {R : Type} (x0 : (List UInt8)) (x1 : Int) (K : (Int → Option R)) : fnW (wqib k) k Tryz.f85 wqia [.v .str x0, .v kI x1] [] (wq9v K) = wq77 k x0 x1 K := by
  refine Eq.trans (b := wqjt k (fun s0 s1 s2 => wqb7 k (fun _ _ => none) k (wq76 s0 s1 s2) K) x0 x1 K) (by kernel_rfl) ?_
  simp only [wqlp] <;> rfl
def wqb8 (k : Nat) {R : Type} : List PV → List (Nm × HObj) → (Out → Option R) → Option R
  | [.v .str x0, .v (.int .i64) x1], [], K => wq77 k x0 x1 (fun y0 => K (.ret [.v (.int .i64) y0] []))
  | _, _, _ => none
theorem wq113 (k : Nat) : DOK Tryz.prog 85 (wqb8 k) := by
  intro ps hp R K r h
  have h : wqb8 k ps hp K = some r := h
  unfold wqb8 at h
  split at h
  · rw [← wquh] at h
    exact fnW_ok ⟨tyT_ok, CTab.nil_ok, fun _ _ => rfl⟩ mixed (by kernel_rfl) (by kernel_rfl) h fun o ho => by unfold wq9v at ho; split at ho <;> first | exact ho | cases ho
  · cases h
end Go.Proofs.YtdfhgimidmfgfaaGreatDoor.Pvm
end


noncomputable section
namespace Go.Proofs.YtdfhgimidmfgfaaGreatDoor.Pvm
open Go Go.Proofs
def wqwx : List LS := [.any]
def wqkc {R : Type} (K : (Bool → Option R)) : Out → Option R
  | .ret [.v .bool y0] [] => K y0
  | _ => none
def wqyg : RetSpec := ⟨[.any], [], []⟩
def wqyh (k : Nat) : Ctx := ⟨tyT, [], .nil, [], [], [], @SH⟩
def wqr3 (k : Nat) {R : Type}  (x0 : (List UInt8)) (K : (Bool → Option R)) : Option R := (cond ((!((decide ((x0.length : Int) > 0)) == true)) || (inb 0 (x0.length : Int))) (cond ((!(((cond (decide ((x0.length : Int) > 0)) (((x0.getD (Int.toNat 0) 0).toNat : Int) == 45) false) == true) && (((x0.length : Int) == 1) == false))) || (inb 1 (x0.length : Int))) (K (cond (cond (decide ((x0.length : Int) > 0)) (((x0.getD (Int.toNat 0) 0).toNat : Int) == 45) false) (cond ((x0.length : Int) == 1) true (((x0.getD (Int.toNat 1) 0).toNat : Int) == 32)) false)) none) none)
def wq78 (k : Nat) {R : Type} (x0 : (List UInt8)) (K : (Bool → Option R)) : Option R := wqr3 k  x0 K
theorem wqui (k : Nat) {R : Type} (x0 : (List UInt8)) (K : (Bool → Option R)) : fnW (wqyh k) k Tryz.f86 wqyg [.v .str x0] [] (wqkc K) = wq78 k x0 K := by
  kernel_rfl
def wqb9 (k : Nat) {R : Type} : List PV → List (Nm × HObj) → (Out → Option R) → Option R
  | [.v .str x0], [], K => wq78 k x0 (fun y0 => K (.ret [.v .bool y0] []))
  | _, _, _ => none
theorem wq114 (k : Nat) : DOK Tryz.prog 86 (wqb9 k) := by
  intro ps hp R K r h
  have h : wqb9 k ps hp K = some r := h
  unfold wqb9 at h
  split at h
  · rw [← wqui] at h
    exact fnW_ok ⟨tyT_ok, CTab.nil_ok, fun _ _ => rfl⟩ mixed (by kernel_rfl) (by kernel_rfl) h fun o ho => by unfold wqkc at ho; split at ho <;> first | exact ho | cases ho
  · cases h
end Go.Proofs.YtdfhgimidmfgfaaGreatDoor.Pvm
end


noncomputable section
namespace Go.Proofs.YtdfhgimidmfgfaaGreatDoor.Pvm
open Go Go.Proofs
def wqyi : List LS := [.any]
def wqba {R : Type} (K : (Int → Option R)) : Out → Option R
  | .ret [.v (.int .i64) y0] [] => K y0
  | _ => none
def wqju : RetSpec := ⟨[.any], [], []⟩
def wqjv (k : Nat) : Ctx := ⟨tyT, [(1002, ⟨[(0, .any), (3, .any)], []⟩)], (.add 121 wqr0 (wqb5 k) .nil), [], [], [], @SH⟩
def wq82 (s0 : (List UInt8)) (s1 : Int) : St := ⟨mkT [(0, .v .str s0), (3, .v kI s1)], mkH []⟩
def wqci (k : Nat) {R : Type} (I : Nat → St → Option R) (n : Nat) (s : St) (K : (Int → Option R)) : Option R := loopK (wqjv k) k Tryz.f87 wqju 1002 [1, 1, 0, 0] I n s (wqba K)
def wq8w (k : Nat) {R : Type} (E1002 : ((List UInt8) → Int → Option R)) (s0 : (List UInt8)) (s1 : Int) (K : (Int → Option R)) : Option R := (cond ((!((decide (s1 < (s0.length : Int))) == true)) || (inb s1 (s0.length : Int))) (cond ((decide (s1 < (s0.length : Int))) == true) (wqch k ((s0.getD s1.toNat 0).toNat : Int) (fun y6 => (cond y6 (E1002 s0 (@Go.IntKind.wrap Go.IntKind.i64 (s1 + 1))) (cond ((!((cond (s1 == 0) true (decide (s1 ≥ (s0.length : Int)))) == false)) || (inb s1 (s0.length : Int))) (cond ((!(((cond (cond (s1 == 0) true (decide (s1 ≥ (s0.length : Int)))) true (((s0.getD s1.toNat 0).toNat : Int) != 58)) == false) && ((decide ((@Go.IntKind.wrap Go.IntKind.i64 (s1 + 1)) < (s0.length : Int))) == true))) || (inb (@Go.IntKind.wrap Go.IntKind.i64 (s1 + 1)) (s0.length : Int))) (cond (cond (cond (cond (s1 == 0) true (decide (s1 ≥ (s0.length : Int)))) true (((s0.getD s1.toNat 0).toNat : Int) != 58)) true (cond (decide ((@Go.IntKind.wrap Go.IntKind.i64 (s1 + 1)) < (s0.length : Int))) (((s0.getD (@Go.IntKind.wrap Go.IntKind.i64 (s1 + 1)).toNat 0).toNat : Int) != 32) false)) (K 0) (K s1)) none) none)))) (cond ((!((cond (s1 == 0) true (decide (s1 ≥ (s0.length : Int)))) == false)) || (inb s1 (s0.length : Int))) (cond ((!(((cond (cond (s1 == 0) true (decide (s1 ≥ (s0.length : Int)))) true (((s0.getD s1.toNat 0).toNat : Int) != 58)) == false) && ((decide ((@Go.IntKind.wrap Go.IntKind.i64 (s1 + 1)) < (s0.length : Int))) == true))) || (inb (@Go.IntKind.wrap Go.IntKind.i64 (s1 + 1)) (s0.length : Int))) (cond (cond (cond (cond (s1 == 0) true (decide (s1 ≥ (s0.length : Int)))) true (((s0.getD s1.toNat 0).toNat : Int) != 58)) true (cond (decide ((@Go.IntKind.wrap Go.IntKind.i64 (s1 + 1)) < (s0.length : Int))) (((s0.getD (@Go.IntKind.wrap Go.IntKind.i64 (s1 + 1)).toNat 0).toNat : Int) != 32) false)) (K 0) (K s1)) none) none)) none)
theorem wqmz (k : Nat) {R : Type} (I : Nat → St → Option R) (s0 : (List UInt8)) (s1 : Int) (K : (Int → Option R)) : bodyK (wqjv k) k Tryz.f87 wqju [1, 1, 0, 0, 0] I (wq82 s0 s1) (wqba K) = wq8w k (fun s0 s1 => I 1002 (wq82 s0 s1)) s0 s1 K := by kernel_rfl
def wqlq (k : Nat) {R : Type} (E1002 : ((List UInt8) → Int → Option R)) (x0 : (List UInt8)) (K : (Int → Option R)) : Option R := (E1002 x0 0)
def wq4h (k : Nat) {R : Type}  : Nat → (List UInt8) → Int → (Int → Option R) → Option R
  | 0, _, _, _ => none
  | n + 1, s0, s1, K => wq8w k (fun s0 s1 => wq4h k  n s0 s1 K) s0 s1 K
theorem wqn0 (k : Nat) {R : Type} (I : Nat → St → Option R) (K : (Int → Option R)) (n : Nat) : ∀ (s0 : (List UInt8)) (s1 : Int), wqci k I n (wq82 s0 s1) K = wq4h k  n s0 s1 K := by
  induction n with
  | zero => intros; rfl
  | succ n ih =>
    intro s0 s1
    refine (?_ : _ = _).trans ((wqmz k (upI 1002 (fun s => wqci k I n s K) I) s0 s1 K).trans ?_)
    · rfl
    · simp only [wq1h, ih] <;> rfl
def wq6q (k : Nat) {R : Type} (x0 : (List UInt8)) (K : (Int → Option R)) : Option R := wqlq k (fun s0 s1 => wq4h k k s0 s1 K) x0 K
theorem wqwy (k : Nat) {R : Type} (x0 : (List UInt8)) (K : (Int → Option R)) : fnW (wqjv k) k Tryz.f87 wqju [.v .str x0] [] (wqba K) = wq6q k x0 K := by
  refine Eq.trans (b := wqlq k (fun s0 s1 => wqci k (fun _ _ => none) k (wq82 s0 s1) K) x0 K) (by kernel_rfl) ?_
  simp only [wqn0] <;> rfl
def wqda (k : Nat) {R : Type} : List PV → List (Nm × HObj) → (Out → Option R) → Option R
  | [.v .str x0], [], K => wq6q k x0 (fun y0 => K (.ret [.v (.int .i64) y0] []))
  | _, _, _ => none
theorem wq13j (k : Nat) : DOK Tryz.prog 87 (wqda k) := by
  intro ps hp R K r h
  have h : wqda k ps hp K = some r := h
  unfold wqda at h
  split at h
  · rw [← wqwy] at h
    exact fnW_ok ⟨tyT_ok, (wqi (wqwv k) CTab.nil_ok), fun _ _ => rfl⟩ mixed (by kernel_rfl) (by kernel_rfl) h fun o ho => by unfold wqba at ho; split at ho <;> first | exact ho | cases ho
  · cases h
end Go.Proofs.YtdfhgimidmfgfaaGreatDoor.Pvm
end


noncomputable section
namespace Go.Proofs.YtdfhgimidmfgfaaGreatDoor.Pvm
open Go Go.Proofs
def wqyj : List LS := [.any]
def wqlr {R : Type} (K : (Int → Option R)) : Out → Option R
  | .ret [.v (.int .i64) y0] [] => K y0
  | _ => none
def wq115 : RetSpec := ⟨[.any], [], []⟩
def wq116 (k : Nat) : Ctx := ⟨tyT, [], .nil, [], [], [], @SH⟩
def wqts (k : Nat) {R : Type}  (x0 : Int) (K : (Int → Option R)) : Option R := (cond (cond (decide (x0 ≥ 48)) (decide (x0 ≤ 57)) false) (K (@Go.IntKind.wrap Go.IntKind.i64 (@Go.IntKind.wrap Go.IntKind.u8 (x0 - 48)))) (cond (cond (decide (x0 ≥ 97)) (decide (x0 ≤ 102)) false) (K (@Go.IntKind.wrap Go.IntKind.i64 ((@Go.IntKind.wrap Go.IntKind.i64 (@Go.IntKind.wrap Go.IntKind.u8 (x0 - 97))) + 10))) (K (@Neg.neg Int @Int.instNegInt (1 : Int)))))
def wq6r (k : Nat) {R : Type} (x0 : Int) (K : (Int → Option R)) : Option R := wqts k  x0 K
theorem wqwz (k : Nat) {R : Type} (x0 : Int) (K : (Int → Option R)) : fnW (wq116 k) k Tryz.f122 wq115 [.v (.int .u8) x0] [] (wqlr K) = wq6r k x0 K := by
  kernel_rfl
def wqdb (k : Nat) {R : Type} : List PV → List (Nm × HObj) → (Out → Option R) → Option R
  | [.v (.int .u8) x0], [], K => wq6r k x0 (fun y0 => K (.ret [.v (.int .i64) y0] []))
  | _, _, _ => none
theorem wq13k (k : Nat) : DOK Tryz.prog 122 (wqdb k) := by
  intro ps hp R K r h
  have h : wqdb k ps hp K = some r := h
  unfold wqdb at h
  split at h
  · rw [← wqwz] at h
    exact fnW_ok ⟨tyT_ok, CTab.nil_ok, fun _ _ => rfl⟩ mixed (by kernel_rfl) (by kernel_rfl) h fun o ho => by unfold wqlr at ho; split at ho <;> first | exact ho | cases ho
  · cases h
end Go.Proofs.YtdfhgimidmfgfaaGreatDoor.Pvm
end


noncomputable section
namespace Go.Proofs.YtdfhgimidmfgfaaGreatDoor.Pvm
open Go Go.Proofs
def wqyk : List LS := [.any]
def wqbb {R : Type} (K : ((List UInt8) → Bool → Option R)) : Out → Option R
  | .ret [.v .str y0, .v .bool y1] [] => K y0 y1
  | _ => none
def wqjw : RetSpec := ⟨[.any, .any], [], []⟩
def wqjx (k : Nat) : Ctx := ⟨tyT, [(1004, ⟨[(0, .any), (4, .own 100004 5 (.int .u8)), (5, .any), (6, .any)], []⟩)], (.add 122 wqyj (wqdb k) .nil), [], [], [(28, (.of [(0, 1), (1, 1), (2, 1), (3, 1), (4, 1), (7, 1), (8, 1), (9, 1), (10, 1), (5, 0), (6, 1), (11, 0), (12, 1), (13, 0), (14, 0), (15, 0), (16, 1)] .done))], @SH⟩
def wq83 (s0 : (List UInt8)) (s1 : (List Int)) (s2 s3 : Int) : St := ⟨mkT [(0, .v .str s0), (4, .row 100004), (5, .v (.int .u8) s2), (6, .v kI s3)], mkH [(100004, .row 5 (.int .u8) s1)]⟩
def wqcj (k : Nat) {R : Type} (I : Nat → St → Option R) (n : Nat) (s : St) (K : ((List UInt8) → Bool → Option R)) : Option R := loopK (wqjx k) k Tryz.f88 wqjw 1004 [1, 1, 1, 0, 1, 0] I n s (wqbb K)
def wq4i (k : Nat) {R : Type} (E1004 : ((List UInt8) → (List Int) → Int → Int → Option R)) (s0 : (List UInt8)) (s1 : (List Int)) (s2 s3 : Int) (K : ((List UInt8) → Bool → Option R)) : Option R := (cond (decide (s3 < (s0.length : Int))) (cond (inb s3 (s0.length : Int)) (cond (((s0.getD s3.toNat 0).toNat : Int) == s2) (cond ((!((cond (s2 == 39) (decide ((@Go.IntKind.wrap Go.IntKind.i64 (s3 + 1)) < (s0.length : Int))) false) == true)) || (inb (@Go.IntKind.wrap Go.IntKind.i64 (s3 + 1)) (s0.length : Int))) (cond (cond (cond (s2 == 39) (decide ((@Go.IntKind.wrap Go.IntKind.i64 (s3 + 1)) < (s0.length : Int))) false) (((s0.getD (@Go.IntKind.wrap Go.IntKind.i64 (s3 + 1)).toNat 0).toNat : Int) == 39) false) (cond (fits s1.length ([s2]).length 1) (E1004 s0 (s1 ++ [s2]) s2 (@Go.IntKind.wrap Go.IntKind.i64 ((@Go.IntKind.wrap Go.IntKind.i64 (s3 + 1)) + 1))) none) (K (wq1t s1) (s3 == (@Go.IntKind.wrap Go.IntKind.i64 ((s0.length : Int) - 1))))) none) (cond ((!((s2 == 39) == false)) || (inb s3 (s0.length : Int))) (cond (cond (s2 == 39) true (((s0.getD s3.toNat 0).toNat : Int) != 92)) (cond (inb s3 (s0.length : Int)) (cond (fits s1.length ([((s0.getD s3.toNat 0).toNat : Int)]).length 1) (E1004 s0 (s1 ++ [((s0.getD s3.toNat 0).toNat : Int)]) s2 (@Go.IntKind.wrap Go.IntKind.i64 (s3 + 1))) none) none) (cond (decide ((@Go.IntKind.wrap Go.IntKind.i64 (s3 + 1)) ≥ (s0.length : Int))) (K [] false) (cond (inb (@Go.IntKind.wrap Go.IntKind.i64 (s3 + 1)) (s0.length : Int)) (cond (((s0.getD (@Go.IntKind.wrap Go.IntKind.i64 (s3 + 1)).toNat 0).toNat : Int) == 92) (cond (inb (@Go.IntKind.wrap Go.IntKind.i64 (s3 + 1)) (s0.length : Int)) (cond (fits s1.length ([((s0.getD (@Go.IntKind.wrap Go.IntKind.i64 (s3 + 1)).toNat 0).toNat : Int)]).length 1) (E1004 s0 (s1 ++ [((s0.getD (@Go.IntKind.wrap Go.IntKind.i64 (s3 + 1)).toNat 0).toNat : Int)]) s2 (@Go.IntKind.wrap Go.IntKind.i64 ((@Go.IntKind.wrap Go.IntKind.i64 (s3 + 1)) + 1))) none) none) (cond (((s0.getD (@Go.IntKind.wrap Go.IntKind.i64 (s3 + 1)).toNat 0).toNat : Int) == 34) (cond (inb (@Go.IntKind.wrap Go.IntKind.i64 (s3 + 1)) (s0.length : Int)) (cond (fits s1.length ([((s0.getD (@Go.IntKind.wrap Go.IntKind.i64 (s3 + 1)).toNat 0).toNat : Int)]).length 1) (E1004 s0 (s1 ++ [((s0.getD (@Go.IntKind.wrap Go.IntKind.i64 (s3 + 1)).toNat 0).toNat : Int)]) s2 (@Go.IntKind.wrap Go.IntKind.i64 ((@Go.IntKind.wrap Go.IntKind.i64 (s3 + 1)) + 1))) none) none) (cond (((s0.getD (@Go.IntKind.wrap Go.IntKind.i64 (s3 + 1)).toNat 0).toNat : Int) == 110) (cond (fits s1.length ([(10 : Int)]).length 1) (E1004 s0 (s1 ++ [10]) s2 (@Go.IntKind.wrap Go.IntKind.i64 ((@Go.IntKind.wrap Go.IntKind.i64 (s3 + 1)) + 1))) none) (cond (((s0.getD (@Go.IntKind.wrap Go.IntKind.i64 (s3 + 1)).toNat 0).toNat : Int) == 116) (cond (fits s1.length ([(9 : Int)]).length 1) (E1004 s0 (s1 ++ [9]) s2 (@Go.IntKind.wrap Go.IntKind.i64 ((@Go.IntKind.wrap Go.IntKind.i64 (s3 + 1)) + 1))) none) (cond (((s0.getD (@Go.IntKind.wrap Go.IntKind.i64 (s3 + 1)).toNat 0).toNat : Int) == 120) (cond ((!((decide ((@Go.IntKind.wrap Go.IntKind.i64 ((@Go.IntKind.wrap Go.IntKind.i64 (s3 + 1)) + 2)) ≥ (s0.length : Int))) == false)) || (inb (@Go.IntKind.wrap Go.IntKind.i64 ((@Go.IntKind.wrap Go.IntKind.i64 (s3 + 1)) + 1)) (s0.length : Int))) (cond ((decide ((@Go.IntKind.wrap Go.IntKind.i64 ((@Go.IntKind.wrap Go.IntKind.i64 (s3 + 1)) + 2)) ≥ (s0.length : Int))) == false) (wq6r k ((s0.getD (@Go.IntKind.wrap Go.IntKind.i64 ((@Go.IntKind.wrap Go.IntKind.i64 (s3 + 1)) + 1)).toNat 0).toNat : Int) (fun y8 => (cond ((!((decide (y8 < 0)) == false)) || (inb (@Go.IntKind.wrap Go.IntKind.i64 ((@Go.IntKind.wrap Go.IntKind.i64 (s3 + 1)) + 2)) (s0.length : Int))) (cond ((decide (y8 < 0)) == false) (wq6r k ((s0.getD (@Go.IntKind.wrap Go.IntKind.i64 ((@Go.IntKind.wrap Go.IntKind.i64 (s3 + 1)) + 2)).toNat 0).toNat : Int) (fun y9 => (cond (decide (y9 < 0)) (K [] false) (cond (inb (@Go.IntKind.wrap Go.IntKind.i64 ((@Go.IntKind.wrap Go.IntKind.i64 (s3 + 1)) + 1)) (s0.length : Int)) (cond (inb (@Go.IntKind.wrap Go.IntKind.i64 ((@Go.IntKind.wrap Go.IntKind.i64 (s3 + 1)) + 2)) (s0.length : Int)) (wq6r k ((s0.getD (@Go.IntKind.wrap Go.IntKind.i64 ((@Go.IntKind.wrap Go.IntKind.i64 (s3 + 1)) + 1)).toNat 0).toNat : Int) (fun y10 => (wq6r k ((s0.getD (@Go.IntKind.wrap Go.IntKind.i64 ((@Go.IntKind.wrap Go.IntKind.i64 (s3 + 1)) + 2)).toNat 0).toNat : Int) (fun y11 => (cond (fits s1.length ([(@Go.IntKind.wrap Go.IntKind.u8 (@Go.IntKind.wrap Go.IntKind.i64 ((@Go.IntKind.wrap Go.IntKind.i64 ((16 : Int) * y10)) + y11)))]).length 1) (E1004 s0 (s1 ++ [(@Go.IntKind.wrap Go.IntKind.u8 (@Go.IntKind.wrap Go.IntKind.i64 ((@Go.IntKind.wrap Go.IntKind.i64 ((16 : Int) * y10)) + y11)))]) s2 (@Go.IntKind.wrap Go.IntKind.i64 ((@Go.IntKind.wrap Go.IntKind.i64 ((@Go.IntKind.wrap Go.IntKind.i64 (s3 + 1)) + 2)) + 1))) none))))) none) none)))) (K [] false)) none))) (K [] false)) none) (K [] false)))))) none))) none)) none) (K [] false))
theorem wqn1 (k : Nat) {R : Type} (I : Nat → St → Option R) (s0 : (List UInt8)) (s1 : (List Int)) (s2 s3 : Int) (K : ((List UInt8) → Bool → Option R)) : bodyK (wqjx k) k Tryz.f88 wqjw [1, 1, 1, 0, 1, 0, 0] I (wq83 s0 s1 s2 s3) (wqbb K) = wq4i k (fun s0 s1 s2 s3 => I 1004 (wq83 s0 s1 s2 s3)) s0 s1 s2 s3 K := by kernel_rfl
def wqhq (k : Nat) {R : Type} (E1004 : ((List UInt8) → (List Int) → Int → Int → Option R)) (x0 : (List UInt8)) (K : ((List UInt8) → Bool → Option R)) : Option R := (cond (inb 0 (x0.length : Int)) (E1004 x0 [] ((x0.getD (Int.toNat 0) 0).toNat : Int) 1) none)
def wq24 (k : Nat) {R : Type}  : Nat → (List UInt8) → (List Int) → Int → Int → ((List UInt8) → Bool → Option R) → Option R
  | 0, _, _, _, _, _ => none
  | n + 1, s0, s1, s2, s3, K => wq4i k (fun s0 s1 s2 s3 => wq24 k  n s0 s1 s2 s3 K) s0 s1 s2 s3 K
theorem wqn2 (k : Nat) {R : Type} (I : Nat → St → Option R) (K : ((List UInt8) → Bool → Option R)) (n : Nat) : ∀ (s0 : (List UInt8)) (s1 : (List Int)) (s2 s3 : Int), wqcj k I n (wq83 s0 s1 s2 s3) K = wq24 k  n s0 s1 s2 s3 K := by
  induction n with
  | zero => intros; rfl
  | succ n ih =>
    intro s0 s1 s2 s3
    refine (?_ : _ = _).trans ((wqn1 k (upI 1004 (fun s => wqcj k I n s K) I) s0 s1 s2 s3 K).trans ?_)
    · rfl
    · simp only [wq1h, ih] <;> rfl
def wq5l (k : Nat) {R : Type} (x0 : (List UInt8)) (K : ((List UInt8) → Bool → Option R)) : Option R := wqhq k (fun s0 s1 s2 s3 => wq24 k k s0 s1 s2 s3 K) x0 K
theorem wqx0 (k : Nat) {R : Type} (x0 : (List UInt8)) (K : ((List UInt8) → Bool → Option R)) : fnW (wqjx k) k Tryz.f88 wqjw [.v .str x0] [] (wqbb K) = wq5l k x0 K := by
  refine Eq.trans (b := wqhq k (fun s0 s1 s2 s3 => wqcj k (fun _ _ => none) k (wq83 s0 s1 s2 s3) K) x0 K) (by kernel_rfl) ?_
  simp only [wqn2] <;> rfl
def wqdc (k : Nat) {R : Type} : List PV → List (Nm × HObj) → (Out → Option R) → Option R
  | [.v .str x0], [], K => wq5l k x0 (fun y0 y1 => K (.ret [.v .str y0, .v .bool y1] []))
  | _, _, _ => none
theorem wq13l (k : Nat) : DOK Tryz.prog 88 (wqdc k) := by
  intro ps hp R K r h
  have h : wqdc k ps hp K = some r := h
  unfold wqdc at h
  split at h
  · rw [← wqx0] at h
    exact fnW_ok ⟨tyT_ok, (wqi (wq13k k) CTab.nil_ok), fun _ _ => rfl⟩ mixed (by kernel_rfl) (by kernel_rfl) h fun o ho => by unfold wqbb at ho; split at ho <;> first | exact ho | cases ho
  · cases h
end Go.Proofs.YtdfhgimidmfgfaaGreatDoor.Pvm
end


noncomputable section
namespace Go.Proofs.YtdfhgimidmfgfaaGreatDoor.Pvm
open Go Go.Proofs
def wq13m : List LS := [.any]
def wqfp {R : Type} (K : (Bool → Option R)) : Out → Option R
  | .ret [.v .bool y0] [] => K y0
  | _ => none
def wqp5 : RetSpec := ⟨[.any], [], []⟩
def wqp6 (k : Nat) : Ctx := ⟨tyT, [(1002, ⟨[(0, .any), (3, .any)], []⟩)], .nil, [], [], [], @SH⟩
def wq9w (s0 s1 : Int) : St := ⟨mkT [(0, .v (.int .u8) s0), (3, .v kI s1)], mkH []⟩
def wqgy (k : Nat) {R : Type} (I : Nat → St → Option R) (n : Nat) (s : St) (K : (Bool → Option R)) : Option R := loopK (wqp6 k) k Tryz.f89 wqp5 1002 [1, 0, 1, 0] I n s (wqfp K)
def wqbc (k : Nat) {R : Type} (E1002 : (Int → Int → Option R)) (s0 s1 : Int) (K : (Bool → Option R)) : Option R := (cond (decide (s1 < 14)) (cond (inb s1 (([(91 : UInt8), 93, 123, 125, 38, 42, 33, 124, 62, 37, 64, 44, 63, 96]).length : Int)) (cond (((([(91 : UInt8), 93, 123, 125, 38, 42, 33, 124, 62, 37, 64, 44, 63, 96]).getD s1.toNat 0).toNat : Int) == s0) (K true) (E1002 s0 (@Go.IntKind.wrap Go.IntKind.i64 (s1 + 1)))) none) (K false))
theorem wqr4 (k : Nat) {R : Type} (I : Nat → St → Option R) (s0 s1 : Int) (K : (Bool → Option R)) : bodyK (wqp6 k) k Tryz.f89 wqp5 [1, 0, 1, 0, 0] I (wq9w s0 s1) (wqfp K) = wqbc k (fun s0 s1 => I 1002 (wq9w s0 s1)) s0 s1 K := by kernel_rfl
def wqsx (k : Nat) {R : Type} (E1002 : (Int → Int → Option R)) (x0 : Int) (K : (Bool → Option R)) : Option R := (E1002 x0 0)
def wq6k (k : Nat) {R : Type}  : Nat → Int → Int → (Bool → Option R) → Option R
  | 0, _, _, _ => none
  | n + 1, s0, s1, K => wqbc k (fun s0 s1 => wq6k k  n s0 s1 K) s0 s1 K
theorem wqr5 (k : Nat) {R : Type} (I : Nat → St → Option R) (K : (Bool → Option R)) (n : Nat) : ∀ (s0 s1 : Int), wqgy k I n (wq9w s0 s1) K = wq6k k  n s0 s1 K := by
  induction n with
  | zero => intros; rfl
  | succ n ih =>
    intro s0 s1
    refine (?_ : _ = _).trans ((wqr4 k (upI 1002 (fun s => wqgy k I n s K) I) s0 s1 K).trans ?_)
    · rfl
    · simp only [wq1h, ih] <;> rfl
def wqck (k : Nat) {R : Type} (x0 : Int) (K : (Bool → Option R)) : Option R := wqsx k (fun s0 s1 => wq6k k k s0 s1 K) x0 K
theorem wq117 (k : Nat) {R : Type} (x0 : Int) (K : (Bool → Option R)) : fnW (wqp6 k) k Tryz.f89 wqp5 [.v (.int .u8) x0] [] (wqfp K) = wqck k x0 K := by
  refine Eq.trans (b := wqsx k (fun s0 s1 => wqgy k (fun _ _ => none) k (wq9w s0 s1) K) x0 K) (by kernel_rfl) ?_
  simp only [wqr5] <;> rfl
def wqhr (k : Nat) {R : Type} : List PV → List (Nm × HObj) → (Out → Option R) → Option R
  | [.v (.int .u8) x0], [], K => wqck k x0 (fun y0 => K (.ret [.v .bool y0] []))
  | _, _, _ => none
theorem wq193 (k : Nat) : DOK Tryz.prog 89 (wqhr k) := by
  intro ps hp R K r h
  have h : wqhr k ps hp K = some r := h
  unfold wqhr at h
  split at h
  · rw [← wq117] at h
    exact fnW_ok ⟨tyT_ok, CTab.nil_ok, fun _ _ => rfl⟩ mixed (by kernel_rfl) (by kernel_rfl) h fun o ho => by unfold wqfp at ho; split at ho <;> first | exact ho | cases ho
  · cases h
end Go.Proofs.YtdfhgimidmfgfaaGreatDoor.Pvm
end


noncomputable section
namespace Go.Proofs.YtdfhgimidmfgfaaGreatDoor.Pvm
open Go Go.Proofs
def wq13n : List LS := [.ag [.any, .any, .any]]
def wqfq {R : Type} (K : ((List dT115) → Int → Int → Option R)) : Out → Option R
  | .ret [.v (.sl (.pr (.int .i64) (.pr (.int .i64) (.pr (.int .i64) (.pr .str .bool))))) y0, .agg [.v (.int .i64) y1, .v (.int .i64) y2]] [] => K y0 y1 y2
  | _ => none
def wqp7 : RetSpec := ⟨[.sl (.pr (.int .i64) (.pr (.int .i64) (.pr (.int .i64) (.pr .str .bool)))), .ag [.any, .any]], [], []⟩
def wqp8 (k : Nat) : Ctx := ⟨tyT, [(1006, ⟨[(1, .obj 11 [.any, .any, .any]), (3, .obj 13 [.any, .any]), (4, .own 100004 116 kdT115), (5, .any), (6, .any)], []⟩)], (.add 85 wqww (wqb8 k) (.add 86 wqwx (wqb9 k) (.add 87 wqyi (wqda k) (.add 88 wqyk (wqdc k) (.add 89 wq13m (wqhr k) .nil))))), [], [], [(2, (.of [(0, 1), (3, 1), (1, 1), (2, 1), (4, 0)] .done)), (13, (.of [(0, 1), (3, 1), (1, 1), (2, 1), (4, 0)] .done)), (14, (.of [(0, 1), (1, 1), (3, 1), (5, 1), (7, 1), (8, 1), (9, 1), (10, 1), (11, 1), (12, 1), (2, 1), (4, 1), (6, 1), (13, 1), (14, 0), (15, 0), (16, 1)] .done)), (19, (.of [(0, 1), (2, 1), (4, 1), (6, 1), (7, 1), (8, 1), (1, 1), (3, 1), (5, 1), (9, 1), (10, 0), (11, 0)] .done)), (23, (.of [(0, 1), (3, 1), (1, 1), (2, 1), (4, 0)] .done)), (26, (.of [(0, 1), (3, 1), (1, 1), (2, 1), (4, 0)] .done)), (28, (.of [(0, 1), (3, 1), (1, 1), (2, 1), (4, 0)] .done))], @SH⟩
def wq9x (s0 s1 : Int) (s2 : (List UInt8)) (s3 s4 : Int) (s5 : (List dT115)) (s6 : (List UInt8)) (s7 : Int) : St := ⟨mkT [(1, .ptr 11 0), (3, .ptr 13 0), (4, .row 100004), (5, .v .str s6), (6, .v kI s7)], mkH [(11, .var 110 [.v kI s0, .v kI s1, .v .str s2]), (13, .var 39 [.v kI s3, .v kI s4]), (100004, .row 116 kdT115 s5)]⟩
def wqgz (k : Nat) {R : Type} (I : Nat → St → Option R) (n : Nat) (s : St) (K : ((List dT115) → Int → Int → Option R)) : Option R := loopK (wqp8 k) k Tryz.f57 wqp7 1006 [1, 1, 1, 1, 1, 0, 0] I n s (wqfq K)
def wqh0 (k : Nat) {R : Type} (E1006 : (Int → Int → (List UInt8) → Int → Int → (List dT115) → (List UInt8) → Int → Option R)) (s0 s1 : Int) (s2 : (List UInt8)) (s3 s4 : Int) (s5 : (List dT115)) (s6 : (List UInt8)) (s7 : Int) (K : ((List dT115) → Int → Int → Option R)) : Option R := (cond (bnd s7 (s6.length : Int) (s6.length : Int)) (wq78 k (cut s6 s7 (s6.length : Int)) (fun y12 => (cond y12 (cond (fits s5.length (@List.length (@Kd.T (@Kd.pr kI (@Kd.pr kI (@Kd.pr kI (@Kd.pr Kd.str Kd.bool))))) [((1 : Int), (s0, ((@Go.IntKind.wrap Go.IntKind.i64 (s1 + s7)), ([], false))))]) 48) (wq77 k s6 (@Go.IntKind.wrap Go.IntKind.i64 (s7 + 1)) (fun y13 => (E1006 s0 s1 s2 s3 s4 (s5 ++ [(1, (s0, ((@Go.IntKind.wrap Go.IntKind.i64 (s1 + s7)), ([], false))))]) s6 (@Go.IntKind.wrap Go.IntKind.i64 ((@Go.IntKind.wrap Go.IntKind.i64 (s7 + 1)) + y13))))) none) (cond (bnd s7 (s6.length : Int) (s6.length : Int)) (wq6q k (cut s6 s7 (s6.length : Int)) (fun y13 => (cond (decide (y13 > 0)) (cond (decide (y13 > 64)) (K [] 5 s0) (cond (bnd s7 (@Go.IntKind.wrap Go.IntKind.i64 (s7 + y13)) (s6.length : Int)) (cond (fits s5.length (@List.length (@Kd.T (@Kd.pr kI (@Kd.pr kI (@Kd.pr kI (@Kd.pr Kd.str Kd.bool))))) [((2 : Int), (s0, ((@Go.IntKind.wrap Go.IntKind.i64 (s1 + s7)), ((cut s6 s7 (@Go.IntKind.wrap Go.IntKind.i64 (s7 + y13))), false))))]) 48) (wq77 k s6 (@Go.IntKind.wrap Go.IntKind.i64 ((@Go.IntKind.wrap Go.IntKind.i64 (s7 + y13)) + 1)) (fun y14 => (cond (decide ((@Go.IntKind.wrap Go.IntKind.i64 ((@Go.IntKind.wrap Go.IntKind.i64 ((@Go.IntKind.wrap Go.IntKind.i64 (s7 + y13)) + 1)) + y14)) ≥ (s6.length : Int))) (K (s5 ++ [(2, (s0, ((@Go.IntKind.wrap Go.IntKind.i64 (s1 + s7)), ((cut s6 s7 (@Go.IntKind.wrap Go.IntKind.i64 (s7 + y13))), false))))]) 0 0) (cond (bnd (@Go.IntKind.wrap Go.IntKind.i64 ((@Go.IntKind.wrap Go.IntKind.i64 ((@Go.IntKind.wrap Go.IntKind.i64 (s7 + y13)) + 1)) + y14)) (s6.length : Int) (s6.length : Int)) (cond (inb (@Go.IntKind.wrap Go.IntKind.i64 ((@Go.IntKind.wrap Go.IntKind.i64 ((@Go.IntKind.wrap Go.IntKind.i64 (s7 + y13)) + 1)) + y14)) (s6.length : Int)) (cond ((!((((s6.getD (@Go.IntKind.wrap Go.IntKind.i64 ((@Go.IntKind.wrap Go.IntKind.i64 ((@Go.IntKind.wrap Go.IntKind.i64 (s7 + y13)) + 1)) + y14)).toNat 0).toNat : Int) == 39) == false)) || (inb (@Go.IntKind.wrap Go.IntKind.i64 ((@Go.IntKind.wrap Go.IntKind.i64 ((@Go.IntKind.wrap Go.IntKind.i64 (s7 + y13)) + 1)) + y14)) (s6.length : Int))) (cond (cond (((s6.getD (@Go.IntKind.wrap Go.IntKind.i64 ((@Go.IntKind.wrap Go.IntKind.i64 ((@Go.IntKind.wrap Go.IntKind.i64 (s7 + y13)) + 1)) + y14)).toNat 0).toNat : Int) == 39) true (((s6.getD (@Go.IntKind.wrap Go.IntKind.i64 ((@Go.IntKind.wrap Go.IntKind.i64 ((@Go.IntKind.wrap Go.IntKind.i64 (s7 + y13)) + 1)) + y14)).toNat 0).toNat : Int) == 34)) (cond (bnd (@Go.IntKind.wrap Go.IntKind.i64 ((@Go.IntKind.wrap Go.IntKind.i64 ((@Go.IntKind.wrap Go.IntKind.i64 (s7 + y13)) + 1)) + y14)) (s6.length : Int) (s6.length : Int)) (wq5l k (cut s6 (@Go.IntKind.wrap Go.IntKind.i64 ((@Go.IntKind.wrap Go.IntKind.i64 ((@Go.IntKind.wrap Go.IntKind.i64 (s7 + y13)) + 1)) + y14)) (s6.length : Int)) (fun y15 y16 => (cond (!y16) (K [] 3 s0) (cond (decide ((y15.length : Int) > 200)) (K [] 4 s0) (cond (fits (s5 ++ [((2 : Int), (s0, ((@Go.IntKind.wrap Go.IntKind.i64 (s1 + s7)), ((cut s6 s7 (@Go.IntKind.wrap Go.IntKind.i64 (s7 + y13))), false))))]).length (@List.length (@Kd.T (@Kd.pr kI (@Kd.pr kI (@Kd.pr kI (@Kd.pr Kd.str Kd.bool))))) [((3 : Int), (s0, ((@Go.IntKind.wrap Go.IntKind.i64 (s1 + (@Go.IntKind.wrap Go.IntKind.i64 ((@Go.IntKind.wrap Go.IntKind.i64 ((@Go.IntKind.wrap Go.IntKind.i64 (s7 + y13)) + 1)) + y14)))), (y15, true))))]) 48) (K ((s5 ++ [(2, (s0, ((@Go.IntKind.wrap Go.IntKind.i64 (s1 + s7)), ((cut s6 s7 (@Go.IntKind.wrap Go.IntKind.i64 (s7 + y13))), false))))]) ++ [(3, (s0, ((@Go.IntKind.wrap Go.IntKind.i64 (s1 + (@Go.IntKind.wrap Go.IntKind.i64 ((@Go.IntKind.wrap Go.IntKind.i64 ((@Go.IntKind.wrap Go.IntKind.i64 (s7 + y13)) + 1)) + y14)))), (y15, true))))]) 0 0) none))))) none) (cond (inb (@Go.IntKind.wrap Go.IntKind.i64 ((@Go.IntKind.wrap Go.IntKind.i64 ((@Go.IntKind.wrap Go.IntKind.i64 (s7 + y13)) + 1)) + y14)) (s6.length : Int)) (wqck k ((s6.getD (@Go.IntKind.wrap Go.IntKind.i64 ((@Go.IntKind.wrap Go.IntKind.i64 ((@Go.IntKind.wrap Go.IntKind.i64 (s7 + y13)) + 1)) + y14)).toNat 0).toNat : Int) (fun y15 => (cond ((!(y15 == false)) || (bnd (@Go.IntKind.wrap Go.IntKind.i64 ((@Go.IntKind.wrap Go.IntKind.i64 ((@Go.IntKind.wrap Go.IntKind.i64 (s7 + y13)) + 1)) + y14)) (s6.length : Int) (s6.length : Int))) (cond (y15 == false) (wq78 k (cut s6 (@Go.IntKind.wrap Go.IntKind.i64 ((@Go.IntKind.wrap Go.IntKind.i64 ((@Go.IntKind.wrap Go.IntKind.i64 (s7 + y13)) + 1)) + y14)) (s6.length : Int)) (fun y16 => (cond ((!(y16 == false)) || (bnd (@Go.IntKind.wrap Go.IntKind.i64 ((@Go.IntKind.wrap Go.IntKind.i64 ((@Go.IntKind.wrap Go.IntKind.i64 (s7 + y13)) + 1)) + y14)) (s6.length : Int) (s6.length : Int))) (cond (y16 == false) (wq6q k (cut s6 (@Go.IntKind.wrap Go.IntKind.i64 ((@Go.IntKind.wrap Go.IntKind.i64 ((@Go.IntKind.wrap Go.IntKind.i64 (s7 + y13)) + 1)) + y14)) (s6.length : Int)) (fun y17 => (cond (decide (y17 > 0)) (K [] 4 s0) (cond (decide (((cut s6 (@Go.IntKind.wrap Go.IntKind.i64 ((@Go.IntKind.wrap Go.IntKind.i64 ((@Go.IntKind.wrap Go.IntKind.i64 (s7 + y13)) + 1)) + y14)) (s6.length : Int)).length : Int) > 200)) (K [] 4 s0) (cond (fits (s5 ++ [((2 : Int), (s0, ((@Go.IntKind.wrap Go.IntKind.i64 (s1 + s7)), ((cut s6 s7 (@Go.IntKind.wrap Go.IntKind.i64 (s7 + y13))), false))))]).length (@List.length (@Kd.T (@Kd.pr kI (@Kd.pr kI (@Kd.pr kI (@Kd.pr Kd.str Kd.bool))))) [((3 : Int), (s0, ((@Go.IntKind.wrap Go.IntKind.i64 (s1 + (@Go.IntKind.wrap Go.IntKind.i64 ((@Go.IntKind.wrap Go.IntKind.i64 ((@Go.IntKind.wrap Go.IntKind.i64 (s7 + y13)) + 1)) + y14)))), ((cut s6 (@Go.IntKind.wrap Go.IntKind.i64 ((@Go.IntKind.wrap Go.IntKind.i64 ((@Go.IntKind.wrap Go.IntKind.i64 (s7 + y13)) + 1)) + y14)) (s6.length : Int)), false))))]) 48) (K ((s5 ++ [(2, (s0, ((@Go.IntKind.wrap Go.IntKind.i64 (s1 + s7)), ((cut s6 s7 (@Go.IntKind.wrap Go.IntKind.i64 (s7 + y13))), false))))]) ++ [(3, (s0, ((@Go.IntKind.wrap Go.IntKind.i64 (s1 + (@Go.IntKind.wrap Go.IntKind.i64 ((@Go.IntKind.wrap Go.IntKind.i64 ((@Go.IntKind.wrap Go.IntKind.i64 (s7 + y13)) + 1)) + y14)))), ((cut s6 (@Go.IntKind.wrap Go.IntKind.i64 ((@Go.IntKind.wrap Go.IntKind.i64 ((@Go.IntKind.wrap Go.IntKind.i64 (s7 + y13)) + 1)) + y14)) (s6.length : Int)), false))))]) 0 0) none))))) (K [] 4 s0)) none))) (K [] 4 s0)) none))) none)) none) none) none)))) none) none)) (cond (decide (s7 ≥ (s6.length : Int))) (K s5 0 0) (cond (bnd s7 (s6.length : Int) (s6.length : Int)) (cond (inb s7 (s6.length : Int)) (cond ((!((((s6.getD s7.toNat 0).toNat : Int) == 39) == false)) || (inb s7 (s6.length : Int))) (cond (cond (((s6.getD s7.toNat 0).toNat : Int) == 39) true (((s6.getD s7.toNat 0).toNat : Int) == 34)) (cond (bnd s7 (s6.length : Int) (s6.length : Int)) (wq5l k (cut s6 s7 (s6.length : Int)) (fun y14 y15 => (cond (!y15) (K [] 3 s0) (cond (decide ((y14.length : Int) > 200)) (K [] 4 s0) (cond (fits s5.length (@List.length (@Kd.T (@Kd.pr kI (@Kd.pr kI (@Kd.pr kI (@Kd.pr Kd.str Kd.bool))))) [((3 : Int), (s0, ((@Go.IntKind.wrap Go.IntKind.i64 (s1 + s7)), (y14, true))))]) 48) (K (s5 ++ [(3, (s0, ((@Go.IntKind.wrap Go.IntKind.i64 (s1 + s7)), (y14, true))))]) 0 0) none))))) none) (cond (inb s7 (s6.length : Int)) (wqck k ((s6.getD s7.toNat 0).toNat : Int) (fun y14 => (cond ((!(y14 == false)) || (bnd s7 (s6.length : Int) (s6.length : Int))) (cond (y14 == false) (wq78 k (cut s6 s7 (s6.length : Int)) (fun y15 => (cond ((!(y15 == false)) || (bnd s7 (s6.length : Int) (s6.length : Int))) (cond (y15 == false) (wq6q k (cut s6 s7 (s6.length : Int)) (fun y16 => (cond (decide (y16 > 0)) (K [] 4 s0) (cond (decide (((cut s6 s7 (s6.length : Int)).length : Int) > 200)) (K [] 4 s0) (cond (fits s5.length (@List.length (@Kd.T (@Kd.pr kI (@Kd.pr kI (@Kd.pr kI (@Kd.pr Kd.str Kd.bool))))) [((3 : Int), (s0, ((@Go.IntKind.wrap Go.IntKind.i64 (s1 + s7)), ((cut s6 s7 (s6.length : Int)), false))))]) 48) (K (s5 ++ [(3, (s0, ((@Go.IntKind.wrap Go.IntKind.i64 (s1 + s7)), ((cut s6 s7 (s6.length : Int)), false))))]) 0 0) none))))) (K [] 4 s0)) none))) (K [] 4 s0)) none))) none)) none) none) none))))) none)))) none)
theorem wqr6 (k : Nat) {R : Type} (I : Nat → St → Option R) (s0 s1 : Int) (s2 : (List UInt8)) (s3 s4 : Int) (s5 : (List dT115)) (s6 : (List UInt8)) (s7 : Int) (K : ((List dT115) → Int → Int → Option R)) : bodyK (wqp8 k) k Tryz.f57 wqp7 [1, 1, 1, 1, 1, 0, 0, 0] I (wq9x s0 s1 s2 s3 s4 s5 s6 s7) (wqfq K) = wqh0 k (fun s0 s1 s2 s3 s4 s5 s6 s7 => I 1006 (wq9x s0 s1 s2 s3 s4 s5 s6 s7)) s0 s1 s2 s3 s4 s5 s6 s7 K := by kernel_rfl
def wqsy (k : Nat) {R : Type} (E1006 : (Int → Int → (List UInt8) → Int → Int → (List dT115) → (List UInt8) → Int → Option R)) (x0 x1 : Int) (x2 : (List UInt8)) (K : ((List dT115) → Int → Int → Option R)) : Option R := (cond (cond (decide (x1 < 0)) true (decide (x1 > 16384))) (K [] 6 x0) (wq77 k x2 0 (fun y7 => (E1006 x0 x1 x2 0 0 [] x2 y7))))
def wq8d (k : Nat) {R : Type}  : Nat → Int → Int → (List UInt8) → Int → Int → (List dT115) → (List UInt8) → Int → ((List dT115) → Int → Int → Option R) → Option R
  | 0, _, _, _, _, _, _, _, _, _ => none
  | n + 1, s0, s1, s2, s3, s4, s5, s6, s7, K => wqh0 k (fun s0 s1 s2 s3 s4 s5 s6 s7 => wq8d k  n s0 s1 s2 s3 s4 s5 s6 s7 K) s0 s1 s2 s3 s4 s5 s6 s7 K
theorem wqr7 (k : Nat) {R : Type} (I : Nat → St → Option R) (K : ((List dT115) → Int → Int → Option R)) (n : Nat) : ∀ (s0 s1 : Int) (s2 : (List UInt8)) (s3 s4 : Int) (s5 : (List dT115)) (s6 : (List UInt8)) (s7 : Int), wqgz k I n (wq9x s0 s1 s2 s3 s4 s5 s6 s7) K = wq8d k  n s0 s1 s2 s3 s4 s5 s6 s7 K := by
  induction n with
  | zero => intros; rfl
  | succ n ih =>
    intro s0 s1 s2 s3 s4 s5 s6 s7
    refine (?_ : _ = _).trans ((wqr6 k (upI 1006 (fun s => wqgz k I n s K) I) s0 s1 s2 s3 s4 s5 s6 s7 K).trans ?_)
    · rfl
    · simp only [wq1h, ih] <;> rfl
def wqiz (k : Nat) {R : Type} (x0 x1 : Int) (x2 : (List UInt8)) (K : ((List dT115) → Int → Int → Option R)) : Option R := wqsy k (fun s0 s1 s2 s3 s4 s5 s6 s7 => wq8d k k s0 s1 s2 s3 s4 s5 s6 s7 K) x0 x1 x2 K
theorem wq118 (k : Nat) {R : Type} (x0 x1 : Int) (x2 : (List UInt8)) (K : ((List dT115) → Int → Int → Option R)) : fnW (wqp8 k) k Tryz.f57 wqp7 [.agg [.v kI x0, .v kI x1, .v .str x2]] [] (wqfq K) = wqiz k x0 x1 x2 K := by
  refine Eq.trans (b := wqsy k (fun s0 s1 s2 s3 s4 s5 s6 s7 => wqgz k (fun _ _ => none) k (wq9x s0 s1 s2 s3 s4 s5 s6 s7) K) x0 x1 x2 K) (by kernel_rfl) ?_
  simp only [wqr7] <;> rfl
def wqhs (k : Nat) {R : Type} : List PV → List (Nm × HObj) → (Out → Option R) → Option R
  | [.agg [.v (.int .i64) x0, .v (.int .i64) x1, .v .str x2]], [], K => wqiz k x0 x1 x2 (fun y0 y1 y2 => K (.ret [.v (.sl (.pr (.int .i64) (.pr (.int .i64) (.pr (.int .i64) (.pr .str .bool))))) y0, .agg [.v (.int .i64) y1, .v (.int .i64) y2]] []))
  | _, _, _ => none
theorem wq194 (k : Nat) : DOK Tryz.prog 57 (wqhs k) := by
  intro ps hp R K r h
  have h : wqhs k ps hp K = some r := h
  unfold wqhs at h
  split at h
  · rw [← wq118] at h
    exact fnW_ok ⟨tyT_ok, (wqi (wq113 k) (wqi (wq114 k) (wqi (wq13j k) (wqi (wq13l k) (wqi (wq193 k) CTab.nil_ok))))), fun _ _ => rfl⟩ mixed (by kernel_rfl) (by kernel_rfl) h fun o ho => by unfold wqfq at ho; split at ho <;> first | exact ho | cases ho
  · cases h
end Go.Proofs.YtdfhgimidmfgfaaGreatDoor.Pvm
end


noncomputable section
namespace Go.Proofs.YtdfhgimidmfgfaaGreatDoor.Pvm
open Go Go.Proofs
def wqx1 : List LS := [.any, .any]
def wq9y {R : Type} (K : (Int → Bool → Option R)) : Out → Option R
  | .ret [.v (.int .i64) y0, .v .bool y1] [] => K y0 y1
  | _ => none
def wqic : RetSpec := ⟨[.any, .any], [], []⟩
def wqid (k : Nat) : Ctx := ⟨tyT, [(1003, ⟨[(0, .any), (6, .any), (7, .any)], []⟩)], .nil, [], [], [], @SH⟩
def wq79 (s0 : (List UInt8)) (s1 s2 : Int) : St := ⟨mkT [(0, .v .str s0), (6, .v (.int .u8) s1), (7, .v kI s2)], mkH []⟩
def wqbd (k : Nat) {R : Type} (I : Nat → St → Option R) (n : Nat) (s : St) (K : (Int → Bool → Option R)) : Option R := loopK (wqid k) k Tryz.f84 wqic 1003 [1, 1, 0, 1, 0] I n s (wq9y K)
def wqbe (k : Nat) {R : Type} (E1003 : ((List UInt8) → Int → Int → Option R)) (s0 : (List UInt8)) (s1 s2 : Int) (K : (Int → Bool → Option R)) : Option R := (cond (decide (s2 < (s0.length : Int))) (cond ((!((s1 == 34) == true)) || (inb s2 (s0.length : Int))) (cond (cond (s1 == 34) (((s0.getD s2.toNat 0).toNat : Int) == 92) false) (E1003 s0 s1 (@Go.IntKind.wrap Go.IntKind.i64 ((@Go.IntKind.wrap Go.IntKind.i64 (s2 + 1)) + 1))) (cond (inb s2 (s0.length : Int)) (cond (((s0.getD s2.toNat 0).toNat : Int) != s1) (E1003 s0 s1 (@Go.IntKind.wrap Go.IntKind.i64 (s2 + 1))) (cond ((!((cond (s1 == 39) (decide ((@Go.IntKind.wrap Go.IntKind.i64 (s2 + 1)) < (s0.length : Int))) false) == true)) || (inb (@Go.IntKind.wrap Go.IntKind.i64 (s2 + 1)) (s0.length : Int))) (cond (cond (cond (s1 == 39) (decide ((@Go.IntKind.wrap Go.IntKind.i64 (s2 + 1)) < (s0.length : Int))) false) (((s0.getD (@Go.IntKind.wrap Go.IntKind.i64 (s2 + 1)).toNat 0).toNat : Int) == 39) false) (E1003 s0 s1 (@Go.IntKind.wrap Go.IntKind.i64 ((@Go.IntKind.wrap Go.IntKind.i64 (s2 + 1)) + 1))) (K (@Go.IntKind.wrap Go.IntKind.i64 (s2 + 1)) true)) none)) none)) none) (K 0 false))
theorem wqls (k : Nat) {R : Type} (I : Nat → St → Option R) (s0 : (List UInt8)) (s1 s2 : Int) (K : (Int → Bool → Option R)) : bodyK (wqid k) k Tryz.f84 wqic [1, 1, 0, 1, 0, 0] I (wq79 s0 s1 s2) (wq9y K) = wqbe k (fun s0 s1 s2 => I 1003 (wq79 s0 s1 s2)) s0 s1 s2 K := by kernel_rfl
def wqjy (k : Nat) {R : Type} (E1003 : ((List UInt8) → Int → Int → Option R)) (x0 : (List UInt8)) (x1 : Int) (K : (Int → Bool → Option R)) : Option R := (cond (inb x1 (x0.length : Int)) (E1003 x0 ((x0.getD x1.toNat 0).toNat : Int) (@Go.IntKind.wrap Go.IntKind.i64 (x1 + 1))) none)
def wq5m (k : Nat) {R : Type}  : Nat → (List UInt8) → Int → Int → (Int → Bool → Option R) → Option R
  | 0, _, _, _, _ => none
  | n + 1, s0, s1, s2, K => wqbe k (fun s0 s1 s2 => wq5m k  n s0 s1 s2 K) s0 s1 s2 K
theorem wqlt (k : Nat) {R : Type} (I : Nat → St → Option R) (K : (Int → Bool → Option R)) (n : Nat) : ∀ (s0 : (List UInt8)) (s1 s2 : Int), wqbd k I n (wq79 s0 s1 s2) K = wq5m k  n s0 s1 s2 K := by
  induction n with
  | zero => intros; rfl
  | succ n ih =>
    intro s0 s1 s2
    refine (?_ : _ = _).trans ((wqls k (upI 1003 (fun s => wqbd k I n s K) I) s0 s1 s2 K).trans ?_)
    · rfl
    · simp only [wq1h, ih] <;> rfl
def wqbf (k : Nat) {R : Type} (x0 : (List UInt8)) (x1 : Int) (K : (Int → Bool → Option R)) : Option R := wqjy k (fun s0 s1 s2 => wq5m k k s0 s1 s2 K) x0 x1 K
theorem wquj (k : Nat) {R : Type} (x0 : (List UInt8)) (x1 : Int) (K : (Int → Bool → Option R)) : fnW (wqid k) k Tryz.f84 wqic [.v .str x0, .v kI x1] [] (wq9y K) = wqbf k x0 x1 K := by
  refine Eq.trans (b := wqjy k (fun s0 s1 s2 => wqbd k (fun _ _ => none) k (wq79 s0 s1 s2) K) x0 x1 K) (by kernel_rfl) ?_
  simp only [wqlt] <;> rfl
def wqbg (k : Nat) {R : Type} : List PV → List (Nm × HObj) → (Out → Option R) → Option R
  | [.v .str x0, .v (.int .i64) x1], [], K => wqbf k x0 x1 (fun y0 y1 => K (.ret [.v (.int .i64) y0, .v .bool y1] []))
  | _, _, _ => none
theorem wq119 (k : Nat) : DOK Tryz.prog 84 (wqbg k) := by
  intro ps hp R K r h
  have h : wqbg k ps hp K = some r := h
  unfold wqbg at h
  split at h
  · rw [← wquj] at h
    exact fnW_ok ⟨tyT_ok, CTab.nil_ok, fun _ _ => rfl⟩ mixed (by kernel_rfl) (by kernel_rfl) h fun o ho => by unfold wq9y at ho; split at ho <;> first | exact ho | cases ho
  · cases h
end Go.Proofs.YtdfhgimidmfgfaaGreatDoor.Pvm
end


noncomputable section
namespace Go.Proofs.YtdfhgimidmfgfaaGreatDoor.Pvm
open Go Go.Proofs
def wqyl : List LS := [.any]
def wq6l {R : Type} (K : ((List UInt8) → Bool → Option R)) : Out → Option R
  | .ret [.v .str y0, .v .bool y1] [] => K y0 y1
  | _ => none
def wqbh : RetSpec := ⟨[.any, .any], [], []⟩
def wqbi (k : Nat) : Ctx := ⟨tyT, [(1003, ⟨[(0, .any), (4, .any), (5, .any)], []⟩), (1013, ⟨[(0, .any), (4, .any)], []⟩)], (.add 84 wqx1 (wqbg k) .nil), [], [], [], @SH⟩
def wq84 (s0 : (List UInt8)) (s1 s2 : Int) : St := ⟨mkT [(0, .v .str s0), (4, .v kI s1), (5, .v kI s2)], mkH []⟩
def wq85 (s0 : (List UInt8)) (s1 : Int) : St := ⟨mkT [(0, .v .str s0), (4, .v kI s1)], mkH []⟩
def wqcl (k : Nat) {R : Type} (I : Nat → St → Option R) (n : Nat) (s : St) (K : ((List UInt8) → Bool → Option R)) : Option R := loopK (wqbi k) k Tryz.f56 wqbh 1003 [1, 1, 0, 1, 0] I n s (wq6l K)
def wqcm (k : Nat) {R : Type} (I : Nat → St → Option R) (n : Nat) (s : St) (K : ((List UInt8) → Bool → Option R)) : Option R := loopK (wqbi k) k Tryz.f56 wqbh 1013 [1, 1, 1, 0, 0] I n s (wq6l K)
def wq8x (k : Nat) {R : Type} (E1003 : ((List UInt8) → Int → Int → Option R)) (E1013 : ((List UInt8) → Int → Option R)) (s0 : (List UInt8)) (s1 s2 : Int) (K : ((List UInt8) → Bool → Option R)) : Option R := (cond (decide (s2 < s1)) (cond ((!((s2 == 0) == false)) || (inb (@Go.IntKind.wrap Go.IntKind.i64 (s2 - 1)) (s0.length : Int))) (cond ((!((cond (s2 == 0) true (((s0.getD (@Go.IntKind.wrap Go.IntKind.i64 (s2 - 1)).toNat 0).toNat : Int) == 32)) == true)) || (inb s2 (s0.length : Int))) (cond (cond (cond (s2 == 0) true (((s0.getD (@Go.IntKind.wrap Go.IntKind.i64 (s2 - 1)).toNat 0).toNat : Int) == 32)) (((s0.getD s2.toNat 0).toNat : Int) == 35) false) (E1003 s0 s2 s2) (cond ((!((cond (s2 == 0) true (((s0.getD (@Go.IntKind.wrap Go.IntKind.i64 (s2 - 1)).toNat 0).toNat : Int) == 32)) == true)) || (inb s2 (s0.length : Int))) (cond ((!(((cond (s2 == 0) true (((s0.getD (@Go.IntKind.wrap Go.IntKind.i64 (s2 - 1)).toNat 0).toNat : Int) == 32)) == true) && ((((s0.getD s2.toNat 0).toNat : Int) == 39) == false))) || (inb s2 (s0.length : Int))) (cond (cond (cond (s2 == 0) true (((s0.getD (@Go.IntKind.wrap Go.IntKind.i64 (s2 - 1)).toNat 0).toNat : Int) == 32)) (cond (((s0.getD s2.toNat 0).toNat : Int) == 39) true (((s0.getD s2.toNat 0).toNat : Int) == 34)) false) (wqbf k s0 s2 (fun y8 y9 => (cond (!y9) (K [] false) (E1003 s0 s1 y8)))) (E1003 s0 s1 (@Go.IntKind.wrap Go.IntKind.i64 (s2 + 1)))) none) none)) none) none) (E1013 s0 s1))
theorem wqn3 (k : Nat) {R : Type} (I : Nat → St → Option R) (s0 : (List UInt8)) (s1 s2 : Int) (K : ((List UInt8) → Bool → Option R)) : bodyK (wqbi k) k Tryz.f56 wqbh [1, 1, 0, 1, 0, 0] I (wq84 s0 s1 s2) (wq6l K) = wq8x k (fun s0 s1 s2 => I 1003 (wq84 s0 s1 s2)) (fun s0 s1 => wqcm k I k (wq85 s0 s1) K) s0 s1 s2 K := by kernel_rfl
def wqcn (k : Nat) {R : Type} (E1013 : ((List UInt8) → Int → Option R)) (s0 : (List UInt8)) (s1 : Int) (K : ((List UInt8) → Bool → Option R)) : Option R := (cond ((!((decide (s1 > 0)) == true)) || (inb (@Go.IntKind.wrap Go.IntKind.i64 (s1 - 1)) (s0.length : Int))) (cond (cond (decide (s1 > 0)) (((s0.getD (@Go.IntKind.wrap Go.IntKind.i64 (s1 - 1)).toNat 0).toNat : Int) == 32) false) (E1013 s0 (@Go.IntKind.wrap Go.IntKind.i64 (s1 - 1))) (cond (bnd 0 s1 (s0.length : Int)) (K (cut s0 0 s1) true) none)) none)
theorem wqn4 (k : Nat) {R : Type} (I : Nat → St → Option R) (s0 : (List UInt8)) (s1 : Int) (K : ((List UInt8) → Bool → Option R)) : bodyK (wqbi k) k Tryz.f56 wqbh [1, 1, 1, 0, 0, 0] I (wq85 s0 s1) (wq6l K) = wqcn k (fun s0 s1 => I 1013 (wq85 s0 s1)) s0 s1 K := by kernel_rfl
def wqlu (k : Nat) {R : Type} (E1003 : ((List UInt8) → Int → Int → Option R)) (x0 : (List UInt8)) (K : ((List UInt8) → Bool → Option R)) : Option R := (E1003 x0 (x0.length : Int) 0)
def wq6m (k : Nat) {R : Type}  : Nat → (List UInt8) → Int → ((List UInt8) → Bool → Option R) → Option R
  | 0, _, _, _ => none
  | n + 1, s0, s1, K => wqcn k (fun s0 s1 => wq6m k  n s0 s1 K) s0 s1 K
theorem wqn5 (k : Nat) {R : Type} (I : Nat → St → Option R) (K : ((List UInt8) → Bool → Option R)) (n : Nat) : ∀ (s0 : (List UInt8)) (s1 : Int), wqcm k I n (wq85 s0 s1) K = wq6m k  n s0 s1 K := by
  induction n with
  | zero => intros; rfl
  | succ n ih =>
    intro s0 s1
    refine (?_ : _ = _).trans ((wqn4 k (upI 1013 (fun s => wqcm k I n s K) I) s0 s1 K).trans ?_)
    · rfl
    · simp only [wq1h, ih] <;> rfl
def wq2l (k : Nat) {R : Type}  : Nat → (List UInt8) → Int → Int → ((List UInt8) → Bool → Option R) → Option R
  | 0, _, _, _, _ => none
  | n + 1, s0, s1, s2, K => wq8x k (fun s0 s1 s2 => wq2l k  n s0 s1 s2 K) (fun s0 s1 => wq6m k  k s0 s1 K) s0 s1 s2 K
theorem wqn6 (k : Nat) {R : Type} (I : Nat → St → Option R) (K : ((List UInt8) → Bool → Option R)) (n : Nat) : ∀ (s0 : (List UInt8)) (s1 s2 : Int), wqcl k I n (wq84 s0 s1 s2) K = wq2l k  n s0 s1 s2 K := by
  induction n with
  | zero => intros; rfl
  | succ n ih =>
    intro s0 s1 s2
    refine (?_ : _ = _).trans ((wqn3 k (upI 1003 (fun s => wqcl k I n s K) I) s0 s1 s2 K).trans ?_)
    · rfl
    · simp only [wq1h, ih, wqn5] <;> rfl
def wqe2 (k : Nat) {R : Type} (x0 : (List UInt8)) (K : ((List UInt8) → Bool → Option R)) : Option R := wqlu k (fun s0 s1 s2 => wq2l k k s0 s1 s2 K) x0 K
theorem wqx2 (k : Nat) {R : Type} (x0 : (List UInt8)) (K : ((List UInt8) → Bool → Option R)) : fnW (wqbi k) k Tryz.f56 wqbh [.v .str x0] [] (wq6l K) = wqe2 k x0 K := by
  refine Eq.trans (b := wqlu k (fun s0 s1 s2 => wqcl k (fun _ _ => none) k (wq84 s0 s1 s2) K) x0 K) (by kernel_rfl) ?_
  simp only [wqn6] <;> rfl
def wqdd (k : Nat) {R : Type} : List PV → List (Nm × HObj) → (Out → Option R) → Option R
  | [.v .str x0], [], K => wqe2 k x0 (fun y0 y1 => K (.ret [.v .str y0, .v .bool y1] []))
  | _, _, _ => none
theorem wq13o (k : Nat) : DOK Tryz.prog 56 (wqdd k) := by
  intro ps hp R K r h
  have h : wqdd k ps hp K = some r := h
  unfold wqdd at h
  split at h
  · rw [← wqx2] at h
    exact fnW_ok ⟨tyT_ok, (wqi (wq119 k) CTab.nil_ok), fun _ _ => rfl⟩ mixed (by kernel_rfl) (by kernel_rfl) h fun o ho => by unfold wq6l at ho; split at ho <;> first | exact ho | cases ho
  · cases h
end Go.Proofs.YtdfhgimidmfgfaaGreatDoor.Pvm
end


end
