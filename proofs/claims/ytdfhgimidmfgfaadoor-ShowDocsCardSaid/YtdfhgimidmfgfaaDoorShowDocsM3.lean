/- The Go function ShowDocs answers true for every input: whether any document may be, its text, and which are the same, are as the reference tells; no further condition. -/
import Derived.Test.YtdfhgimidmfgfaaDoorChecked
import Derived.WalkKit
import Derived.WalkSpells
import Derived.WalkLawsBesides
import Derived.Lib.Builder
import Derived.Laws.Externs
import Derived.Shelf.RegionOpenPlain
import Derived.Deep.Heap
import Derived.Shelf.Strings.Repeat
import Derived.Lib.AppendStr
import Derived.Lib.UnsafeStr
import Derived.Test.YtdfhgimidmfgfaaDoorShowDocsM0
import Derived.Test.YtdfhgimidmfgfaaDoorShowDocsM1
import Derived.Test.YtdfhgimidmfgfaaDoorShowDocsM2
set_option linter.unusedVariables false
set_option linter.unusedSimpArgs false
set_option linter.unusedSectionVars false
noncomputable section
set_option maxRecDepth 1000000
set_option maxHeartbeats 0
namespace Go.Proofs.YtdfhgimidmfgfaaDoor.Pvm
open Go Go.Proofs
def wq114 : List LS := [.any, .any]
def wquy (k : Nat) : CTab := CTab.nil
def wq6i {R : Type} (K : (Int → Bool → Option R)) : Out → Option R
  | .ret [.v (.int .i64) y0, .v .bool y1] [] => K y0 y1
  | _ => none
def wq9s : RetSpec := ⟨[.any, .any], [], []⟩
def wqyd : List (Nat × CutSpec) := [(1003, ⟨[(0, .any), (6, .any), (7, .any)], []⟩)]
def wqvu : List (Nat × Plan) := []
def wq1d (k : Nat) : Ctx := ⟨tyT, wqyd, wquy k, [], [], wqvu, @SH⟩
def wq32 : Code := Tryd.f53.body.getD .skip
def wq6r (s0 : (List UInt8)) (s1 s2 : Int) : St := ⟨mkT [(0, .v .str s0), (6, .v (.int .u8) s1), (7, .v (.int .i64) s2)], mkH []⟩
def wqbb (k : Nat) {R : Type} (E1003 : ((List UInt8) → Int → Int → Option R)) (s0 : (List UInt8)) (s1 s2 : Int) (K : (Int → Bool → Option R)) : Option R := (@cond (@Option R) (@Decidable.decide (@LT.lt Int Int.instLTInt s2 (@Nat.cast Int instNatCastInt (@List.length UInt8 s0))) (@Int.decLt s2 (@Nat.cast Int instNatCastInt (@List.length UInt8 s0)))) (@cond (@Option R) (@Bool.or (@Bool.not (@BEq.beq (@Kd.T Kd.bool) (@instBEqOfDecidableEq (@Kd.T Kd.bool) @instDecidableEqBool) (@BEq.beq Int (@instBEqOfDecidableEq Int @Int.instDecidableEq) s1 (34 : Int)) Bool.true)) (@inb s2 (@Nat.cast Int instNatCastInt (@List.length UInt8 s0)))) (@cond (@Option R) (@cond (@Kd.T Kd.bool) (@BEq.beq Int (@instBEqOfDecidableEq Int @Int.instDecidableEq) s1 (34 : Int)) (@BEq.beq Int (@instBEqOfDecidableEq Int @Int.instDecidableEq) (@Nat.cast Int instNatCastInt (@UInt8.toNat (@List.getD UInt8 s0 (@Int.toNat s2) (0 : UInt8)))) (92 : Int)) Bool.false) (E1003 s0 s1 (@Go.IntKind.wrap Go.IntKind.i64 (@HAdd.hAdd Int Int Int (@instHAdd Int @Int.instAdd) (@Go.IntKind.wrap Go.IntKind.i64 (@HAdd.hAdd Int Int Int (@instHAdd Int @Int.instAdd) s2 (1 : Int))) (1 : Int)))) (@cond (@Option R) (@inb s2 (@Nat.cast Int instNatCastInt (@List.length UInt8 s0))) (@cond (@Option R) (@bne Int (@instBEqOfDecidableEq Int @Int.instDecidableEq) (@Nat.cast Int instNatCastInt (@UInt8.toNat (@List.getD UInt8 s0 (@Int.toNat s2) (0 : UInt8)))) s1) (E1003 s0 s1 (@Go.IntKind.wrap Go.IntKind.i64 (@HAdd.hAdd Int Int Int (@instHAdd Int @Int.instAdd) s2 (1 : Int)))) (@cond (@Option R) (@Bool.or (@Bool.not (@BEq.beq (@Kd.T Kd.bool) (@instBEqOfDecidableEq (@Kd.T Kd.bool) @instDecidableEqBool) (@cond (@Kd.T Kd.bool) (@BEq.beq Int (@instBEqOfDecidableEq Int @Int.instDecidableEq) s1 (39 : Int)) (@Decidable.decide (@LT.lt Int Int.instLTInt (@Go.IntKind.wrap Go.IntKind.i64 (@HAdd.hAdd Int Int Int (@instHAdd Int @Int.instAdd) s2 (1 : Int))) (@Nat.cast Int instNatCastInt (@List.length UInt8 s0))) (@Int.decLt (@Go.IntKind.wrap Go.IntKind.i64 (@HAdd.hAdd Int Int Int (@instHAdd Int @Int.instAdd) s2 (1 : Int))) (@Nat.cast Int instNatCastInt (@List.length UInt8 s0)))) Bool.false) Bool.true)) (@inb (@Go.IntKind.wrap Go.IntKind.i64 (@HAdd.hAdd Int Int Int (@instHAdd Int @Int.instAdd) s2 (1 : Int))) (@Nat.cast Int instNatCastInt (@List.length UInt8 s0)))) (@cond (@Option R) (@cond (@Kd.T Kd.bool) (@cond (@Kd.T Kd.bool) (@BEq.beq Int (@instBEqOfDecidableEq Int @Int.instDecidableEq) s1 (39 : Int)) (@Decidable.decide (@LT.lt Int Int.instLTInt (@Go.IntKind.wrap Go.IntKind.i64 (@HAdd.hAdd Int Int Int (@instHAdd Int @Int.instAdd) s2 (1 : Int))) (@Nat.cast Int instNatCastInt (@List.length UInt8 s0))) (@Int.decLt (@Go.IntKind.wrap Go.IntKind.i64 (@HAdd.hAdd Int Int Int (@instHAdd Int @Int.instAdd) s2 (1 : Int))) (@Nat.cast Int instNatCastInt (@List.length UInt8 s0)))) Bool.false) (@BEq.beq Int (@instBEqOfDecidableEq Int @Int.instDecidableEq) (@Nat.cast Int instNatCastInt (@UInt8.toNat (@List.getD UInt8 s0 (@Int.toNat (@Go.IntKind.wrap Go.IntKind.i64 (@HAdd.hAdd Int Int Int (@instHAdd Int @Int.instAdd) s2 (1 : Int)))) (0 : UInt8)))) s1) Bool.false) (E1003 s0 s1 (@Go.IntKind.wrap Go.IntKind.i64 (@HAdd.hAdd Int Int Int (@instHAdd Int @Int.instAdd) (@Go.IntKind.wrap Go.IntKind.i64 (@HAdd.hAdd Int Int Int (@instHAdd Int @Int.instAdd) s2 (1 : Int))) (1 : Int)))) (K s2 Bool.true)) (@Option.none R))) (@Option.none R))) (@Option.none R)) (K (0 : Int) Bool.false))
theorem wqoe (k : Nat) {R : Type} (I : Nat → St → Option R) (s0 : (List UInt8)) (s1 s2 : Int) (K : (Int → Bool → Option R)) : execK (wq1d k) k (at_ [1, 1, 0, 1, 0, 0] wq32) (wq6r s0 s1 s2) (konts (wq1d k) k I [1, 1, 0, 1, 0, 0] wq32 (outK (wq1d k) wq9s [.tmp 4, .tmp 5] (wq6i K))) = wqbb k (fun s0 s1 s2 => I 1003 (wq6r s0 s1 s2)) s0 s1 s2 K := by kernel_rfl
def wqi1 (k : Nat) {R : Type} (E1003 : ((List UInt8) → Int → Int → Option R)) (x0 : (List UInt8)) (x1 : Int) (K : (Int → Bool → Option R)) : Option R := (@cond (@Option R) (@inb x1 (@Nat.cast Int instNatCastInt (@List.length UInt8 x0))) (E1003 x0 (@Nat.cast Int instNatCastInt (@UInt8.toNat (@List.getD UInt8 x0 (@Int.toNat x1) (0 : UInt8)))) (@Go.IntKind.wrap Go.IntKind.i64 (@HAdd.hAdd Int Int Int (@instHAdd Int @Int.instAdd) x1 (1 : Int)))) (@Option.none R))
theorem wqye (k : Nat) {R : Type} (I : Nat → St → Option R) (x0 : (List UInt8)) (x1 : Int) (K : (Int → Bool → Option R)) : fnK (wq1d k) k wq32 57 [.tmp 4, .tmp 5] wq9s [.v .str x0, .v (.int .i64) x1] [] (wq6i K) = wqi1 k (fun s0 s1 s2 => iter (wq1d k).pv (look (wq1d k).cuts 1003) (execK (wq1d k) k (at_ [1, 1, 0, 1, 0, 0] wq32)) k (wq6r s0 s1 s2) (konts (wq1d k) k I [1, 1, 0, 1, 0] wq32 (outK (wq1d k) wq9s [.tmp 4, .tmp 5] (wq6i K)))) x0 x1 K := by kernel_rfl
def wq4z (k : Nat) {R : Type}  : Nat → (List UInt8) → Int → Int → (Int → Bool → Option R) → Option R
  | 0, _, _, _, _ => none
  | n + 1, s0, s1, s2, K => wqbb k (fun s0 s1 s2 => wq4z k  n s0 s1 s2 K) s0 s1 s2 K
theorem wqof (k : Nat) {R : Type} (I : Nat → St → Option R) (K : (Int → Bool → Option R)) : ∀ (n : Nat) (s0 : (List UInt8)) (s1 s2 : Int), iter (wq1d k).pv (look (wq1d k).cuts 1003) (execK (wq1d k) k (at_ [1, 1, 0, 1, 0, 0] wq32)) n (wq6r s0 s1 s2) (konts (wq1d k) k I [1, 1, 0, 1, 0] wq32 (outK (wq1d k) wq9s [.tmp 4, .tmp 5] (wq6i K))) = wq4z k  n s0 s1 s2 K := by
  intro n
  induction n with
  | zero => intros; rfl
  | succ n ih =>
    intro s0 s1 s2
    let I' : Nat → St → Option R := fun id s => bif Nat.beq id 1003 then iter (wq1d k).pv (look (wq1d k).cuts 1003) (execK (wq1d k) k (at_ [1, 1, 0, 1, 0, 0] wq32)) n s (konts (wq1d k) k I [1, 1, 0, 1, 0] wq32 (outK (wq1d k) wq9s [.tmp 4, .tmp 5] (wq6i K))) else I id s
    have e := wqoe k I' s0 s1 s2 K
    have h1003 : (fun s0 s1 s2 => I' 1003 (wq6r s0 s1 s2)) = (fun s0 s1 s2 => wq4z k  n s0 s1 s2 K) := by funext s0 s1 s2; exact ih s0 s1 s2
    refine Eq.trans (?_ : _ = _) (e.trans (Eq.trans ((congrArg ((fun E1003 => wqbb k E1003 s0 s1 s2 K)) h1003)) (by rw [wq4z])))
    rfl
def wqcp (k : Nat) {R : Type} (x0 : (List UInt8)) (x1 : Int) (K : (Int → Bool → Option R)) : Option R := wqi1 k (fun s0 s1 s2 => wq4z k k s0 s1 s2 K) x0 x1 K
theorem wqyf (k : Nat) {R : Type} (x0 : (List UInt8)) (x1 : Int) (K : (Int → Bool → Option R)) : fnK (wq1d k) k wq32 57 [.tmp 4, .tmp 5] wq9s [.v .str x0, .v (.int .i64) x1] [] (wq6i K) = wqcp k x0 x1 K := by
  let I : Nat → St → Option R := fun _ _ => none
  have h1003 : (fun s0 s1 s2 => iter (wq1d k).pv (look (wq1d k).cuts 1003) (execK (wq1d k) k (at_ [1, 1, 0, 1, 0, 0] wq32)) k (wq6r s0 s1 s2) (konts (wq1d k) k I [1, 1, 0, 1, 0] wq32 (outK (wq1d k) wq9s [.tmp 4, .tmp 5] (wq6i K)))) = (fun s0 s1 s2 => wq4z k k s0 s1 s2 K) := by funext s0 s1 s2; exact wqof k I K k s0 s1 s2
  exact (wqye k I x0 x1 K).trans (congrArg ((fun E1003 => wqi1 k E1003 x0 x1 K)) h1003)
def wqil (k : Nat) {R : Type} : List PV → List (Nm × HObj) → (Out → Option R) → Option R
  | [.v .str x0, .v (.int .i64) x1], [], K => wqcp k x0 x1 (fun y0 y1 => K (.ret [.v (.int .i64) y0, .v .bool y1] []))
  | _, _, _ => none
theorem wqyg (k : Nat) : (wquy k).Ok Tryd.prog := CTab.nil_ok
theorem wq17j (k : Nat) {ps : List PV} {hp : List (Nm × HObj)} {R : Type} {K : Out → Option R} {r : R} (h : wqil k ps hp K = some r) : DoesTo Tryd.prog 53 ps hp fun out => K out = some r := by
  unfold wqil at h
  split at h
  · rw [← wqyf] at h
    have := fn_ok (P := Tryd.prog) (cx := wq1d k) (f := 53) ⟨tyT_ok, wqyg k, fun _ _ => rfl⟩ (by kernel_rfl) (fn := Tryd.f53) (c := wq32) (by kernel_rfl) (by kernel_rfl) (by kernel_rfl) (rs := [.tmp 4, .tmp 5]) (by kernel_rfl) (by kernel_rfl) h
    exact this.mono fun out ho => by
      unfold wq6i at ho
      split at ho <;> first | exact ho | cases ho
  · cases h
def wqjr : List LS := [.any, .any]
def wqdu (k : Nat) : CTab := CTab.nil
def wq2g {R : Type} (K : ((List UInt8) → Option R)) : Out → Option R
  | .ret [.v .str y0] [] => K y0
  | _ => none
def wq3f : RetSpec := ⟨[.any], [], []⟩
def wqim : List (Nat × CutSpec) := [(1001, ⟨[(0, .any), (1, .any)], []⟩)]
def wqhd : List (Nat × Plan) := []
def wqe (k : Nat) : Ctx := ⟨tyT, wqim, wqdu k, [], [], wqhd, @SH⟩
def wq13 : Code := Tryd.f66.body.getD .skip
def wq2y (s0 : (List UInt8)) (s1 : Int) : St := ⟨mkT [(0, .v .str s0), (1, .v (.int .u8) s1)], mkH []⟩
def wq5f (k : Nat) {R : Type} (E1001 : ((List UInt8) → Int → Option R)) (s0 : (List UInt8)) (s1 : Int) (K : ((List UInt8) → Option R)) : Option R := (@cond (@Option R) (@Bool.or (@Bool.not (@BEq.beq (@Kd.T Kd.bool) (@instBEqOfDecidableEq (@Kd.T Kd.bool) @instDecidableEqBool) (@Decidable.decide (@GT.gt Int Int.instLTInt (@Nat.cast Int instNatCastInt (@List.length UInt8 s0)) (0 : Int)) (@Int.decLt (0 : Int) (@Nat.cast Int instNatCastInt (@List.length UInt8 s0)))) Bool.true)) (@inb (@Go.IntKind.wrap Go.IntKind.i64 (@HSub.hSub Int Int Int (@instHSub Int @Int.instSub) (@Nat.cast Int instNatCastInt (@List.length UInt8 s0)) (1 : Int))) (@Nat.cast Int instNatCastInt (@List.length UInt8 s0)))) (@cond (@Option R) (@cond (@Kd.T Kd.bool) (@Decidable.decide (@GT.gt Int Int.instLTInt (@Nat.cast Int instNatCastInt (@List.length UInt8 s0)) (0 : Int)) (@Int.decLt (0 : Int) (@Nat.cast Int instNatCastInt (@List.length UInt8 s0)))) (@BEq.beq Int (@instBEqOfDecidableEq Int @Int.instDecidableEq) (@Nat.cast Int instNatCastInt (@UInt8.toNat (@List.getD UInt8 s0 (@Int.toNat (@Go.IntKind.wrap Go.IntKind.i64 (@HSub.hSub Int Int Int (@instHSub Int @Int.instSub) (@Nat.cast Int instNatCastInt (@List.length UInt8 s0)) (1 : Int)))) (0 : UInt8)))) s1) Bool.false) (@cond (@Option R) (@bnd (0 : Int) (@Go.IntKind.wrap Go.IntKind.i64 (@HSub.hSub Int Int Int (@instHSub Int @Int.instSub) (@Nat.cast Int instNatCastInt (@List.length UInt8 s0)) (1 : Int))) (@Nat.cast Int instNatCastInt (@List.length UInt8 s0))) (E1001 (@cut UInt8 s0 (0 : Int) (@Go.IntKind.wrap Go.IntKind.i64 (@HSub.hSub Int Int Int (@instHSub Int @Int.instSub) (@Nat.cast Int instNatCastInt (@List.length UInt8 s0)) (1 : Int)))) s1) (@Option.none R)) (K s0)) (@Option.none R))
theorem wqez (k : Nat) {R : Type} (I : Nat → St → Option R) (s0 : (List UInt8)) (s1 : Int) (K : ((List UInt8) → Option R)) : execK (wqe k) k (at_ [1, 0, 0, 0] wq13) (wq2y s0 s1) (konts (wqe k) k I [1, 0, 0, 0] wq13 (outK (wqe k) wq3f [.tmp 4] (wq2g K))) = wq5f k (fun s0 s1 => I 1001 (wq2y s0 s1)) s0 s1 K := by kernel_rfl
def wq81 (k : Nat) {R : Type} (E1001 : ((List UInt8) → Int → Option R)) (x0 : (List UInt8)) (x1 : Int) (K : ((List UInt8) → Option R)) : Option R := (E1001 x0 x1)
theorem wqin (k : Nat) {R : Type} (I : Nat → St → Option R) (x0 : (List UInt8)) (x1 : Int) (K : ((List UInt8) → Option R)) : fnK (wqe k) k wq13 23 [.tmp 4] wq3f [.v .str x0, .v (.int .u8) x1] [] (wq2g K) = wq81 k (fun s0 s1 => iter (wqe k).pv (look (wqe k).cuts 1001) (execK (wqe k) k (at_ [1, 0, 0, 0] wq13)) k (wq2y s0 s1) (konts (wqe k) k I [1, 0, 0] wq13 (outK (wqe k) wq3f [.tmp 4] (wq2g K)))) x0 x1 K := by kernel_rfl
def wq24 (k : Nat) {R : Type}  : Nat → (List UInt8) → Int → ((List UInt8) → Option R) → Option R
  | 0, _, _, _ => none
  | n + 1, s0, s1, K => wq5f k (fun s0 s1 => wq24 k  n s0 s1 K) s0 s1 K
theorem wqf0 (k : Nat) {R : Type} (I : Nat → St → Option R) (K : ((List UInt8) → Option R)) : ∀ (n : Nat) (s0 : (List UInt8)) (s1 : Int), iter (wqe k).pv (look (wqe k).cuts 1001) (execK (wqe k) k (at_ [1, 0, 0, 0] wq13)) n (wq2y s0 s1) (konts (wqe k) k I [1, 0, 0] wq13 (outK (wqe k) wq3f [.tmp 4] (wq2g K))) = wq24 k  n s0 s1 K := by
  intro n
  induction n with
  | zero => intros; rfl
  | succ n ih =>
    intro s0 s1
    let I' : Nat → St → Option R := fun id s => bif Nat.beq id 1001 then iter (wqe k).pv (look (wqe k).cuts 1001) (execK (wqe k) k (at_ [1, 0, 0, 0] wq13)) n s (konts (wqe k) k I [1, 0, 0] wq13 (outK (wqe k) wq3f [.tmp 4] (wq2g K))) else I id s
    have e := wqez k I' s0 s1 K
    have h1001 : (fun s0 s1 => I' 1001 (wq2y s0 s1)) = (fun s0 s1 => wq24 k  n s0 s1 K) := by funext s0 s1; exact ih s0 s1
    refine Eq.trans (?_ : _ = _) (e.trans (Eq.trans ((congrArg ((fun E1001 => wq5f k E1001 s0 s1 K)) h1001)) (by rw [wq24])))
    rfl
def wq82 (k : Nat) {R : Type} (x0 : (List UInt8)) (x1 : Int) (K : ((List UInt8) → Option R)) : Option R := wq81 k (fun s0 s1 => wq24 k k s0 s1 K) x0 x1 K
theorem wqio (k : Nat) {R : Type} (x0 : (List UInt8)) (x1 : Int) (K : ((List UInt8) → Option R)) : fnK (wqe k) k wq13 23 [.tmp 4] wq3f [.v .str x0, .v (.int .u8) x1] [] (wq2g K) = wq82 k x0 x1 K := by
  let I : Nat → St → Option R := fun _ _ => none
  have h1001 : (fun s0 s1 => iter (wqe k).pv (look (wqe k).cuts 1001) (execK (wqe k) k (at_ [1, 0, 0, 0] wq13)) k (wq2y s0 s1) (konts (wqe k) k I [1, 0, 0] wq13 (outK (wqe k) wq3f [.tmp 4] (wq2g K)))) = (fun s0 s1 => wq24 k k s0 s1 K) := by funext s0 s1; exact wqf0 k I K k s0 s1
  exact (wqin k I x0 x1 K).trans (congrArg ((fun E1001 => wq81 k E1001 x0 x1 K)) h1001)
def wq95 (k : Nat) {R : Type} : List PV → List (Nm × HObj) → (Out → Option R) → Option R
  | [.v .str x0, .v (.int .u8) x1], [], K => wq82 k x0 x1 (fun y0 => K (.ret [.v .str y0] []))
  | _, _, _ => none
theorem wqip (k : Nat) : (wqdu k).Ok Tryd.prog := CTab.nil_ok
theorem wqlr (k : Nat) {ps : List PV} {hp : List (Nm × HObj)} {R : Type} {K : Out → Option R} {r : R} (h : wq95 k ps hp K = some r) : DoesTo Tryd.prog 66 ps hp fun out => K out = some r := by
  unfold wq95 at h
  split at h
  · rw [← wqio] at h
    have := fn_ok (P := Tryd.prog) (cx := wqe k) (f := 66) ⟨tyT_ok, wqip k, fun _ _ => rfl⟩ (by kernel_rfl) (fn := Tryd.f66) (c := wq13) (by kernel_rfl) (by kernel_rfl) (by kernel_rfl) (rs := [.tmp 4]) (by kernel_rfl) (by kernel_rfl) h
    exact this.mono fun out ho => by
      unfold wq2g at ho
      split at ho <;> first | exact ho | cases ho
  · cases h
def wqog : List LS := [.any, .any]
def wqi2 (k : Nat) : CTab := (CTab.add 66 wqjr (wq95 k) CTab.nil)
def wqax {R : Type} (K : ((List UInt8) → Option R)) : Out → Option R
  | .ret [.v .str y0] [] => K y0
  | _ => none
def wqgm : RetSpec := ⟨[.any], [], []⟩
def wqmo : List (Nat × CutSpec) := []
def wqls : List (Nat × Plan) := []
def wqce (k : Nat) : Ctx := ⟨tyT, wqmo, wqi2 k, [], [], wqls, @SH⟩
def wqay : Code := Tryd.f54.body.getD .skip
def wqd6 (k : Nat) {R : Type}  (x0 : (List UInt8)) (x1 : UInt8) (K : ((List UInt8) → Option R)) : Option R := (@cond (@Option R) (@cond (@Kd.T Kd.bool) (@BEq.beq (@List UInt8) (@List.instBEq UInt8 (@instBEqOfDecidableEq UInt8 @instDecidableEqUInt8)) x0 []) Bool.true (@BEq.beq (@List UInt8) (@List.instBEq UInt8 (@instBEqOfDecidableEq UInt8 @instDecidableEqUInt8)) (x1 :: []) [])) (K x0) (@cond (@Option R) (@cond (@Kd.T Kd.bool) (@BEq.beq Int (@instBEqOfDecidableEq Int @Int.instDecidableEq) (@Nat.cast Int instNatCastInt (@List.length UInt8 (x1 :: []))) (1 : Int)) (@Decidable.decide (@LT.lt Int Int.instLTInt (@Nat.cast Int instNatCastInt (@UInt8.toNat (@List.getD UInt8 (x1 :: []) (@Int.toNat (0 : Int)) (0 : UInt8)))) (128 : Int)) (@Int.decLt (@Nat.cast Int instNatCastInt (@UInt8.toNat (@List.getD UInt8 (x1 :: []) (@Int.toNat (0 : Int)) (0 : UInt8)))) (128 : Int))) Bool.false) (@wq82 k R x0 (@Nat.cast Int instNatCastInt (@UInt8.toNat (@List.getD UInt8 (x1 :: []) (@Int.toNat (0 : Int)) (0 : UInt8)))) (fun y5 => (K y5))) (@Option.none R)))
theorem wqmp (k : Nat) {R : Type} (I : Nat → St → Option R) (x0 : (List UInt8)) (x1 : UInt8) (K : ((List UInt8) → Option R)) : fnK (wqce k) k wqay 37 [.tmp 4] wqgm [.v .str x0, .v .str [x1]] [] (wqax K) = wqd6 k  x0 x1 K := by kernel_rfl
def wq6s (k : Nat) {R : Type} (x0 : (List UInt8)) (x1 : UInt8) (K : ((List UInt8) → Option R)) : Option R := wqd6 k  x0 x1 K
theorem wqmq (k : Nat) {R : Type} (x0 : (List UInt8)) (x1 : UInt8) (K : ((List UInt8) → Option R)) : fnK (wqce k) k wqay 37 [.tmp 4] wqgm [.v .str x0, .v .str [x1]] [] (wqax K) = wq6s k x0 x1 K := by
  exact wqmp k (fun _ _ => none) x0 x1 K
def wqbj (k : Nat) {R : Type} : List PV → List (Nm × HObj) → (Out → Option R) → Option R
  | [.v .str x0, .v .str [x1]], [], K => wq6s k x0 x1 (fun y0 => K (.ret [.v .str y0] []))
  | _, _, _ => none
theorem wqmr (k : Nat) : (wqi2 k).Ok Tryd.prog := (CTab.add_ok (fun h => wqlr k h) CTab.nil_ok)
theorem wqs8 (k : Nat) {ps : List PV} {hp : List (Nm × HObj)} {R : Type} {K : Out → Option R} {r : R} (h : wqbj k ps hp K = some r) : DoesTo Tryd.prog 54 ps hp fun out => K out = some r := by
  unfold wqbj at h
  split at h
  · rw [← wqmq] at h
    have := fn_ok (P := Tryd.prog) (cx := wqce k) (f := 54) ⟨tyT_ok, wqmr k, fun _ _ => rfl⟩ (by kernel_rfl) (fn := Tryd.f54) (c := wqay) (by kernel_rfl) (by kernel_rfl) (by kernel_rfl) (rs := [.tmp 4]) (by kernel_rfl) (by kernel_rfl) h
    exact this.mono fun out ho => by
      unfold wqax at ho
      split at ho <;> first | exact ho | cases ho
  · cases h
def wq14s : List LS := [.any]
def wqyh (k : Nat) : CTab := (CTab.add 53 wq114 (wqil k) (CTab.add 54 wqog (wqbj k) CTab.nil))
def wq7f {R : Type} (K : ((List UInt8) → Bool → Option R)) : Out → Option R
  | .ret [.v .str y0, .v .bool y1] [] => K y0 y1
  | _ => none
def wqaz : RetSpec := ⟨[.any, .any], [], []⟩
def wq115 : List (Nat × CutSpec) := [(1003, ⟨[(0, .any), (4, .any), (5, .any)], []⟩)]
def wqyi : List (Nat × Plan) := []
def wq1p (k : Nat) : Ctx := ⟨tyT, wq115, wqyh k, [], [], wqyi, @SH⟩
def wq3l : Code := Tryd.f43.body.getD .skip
def wq7n (s0 : (List UInt8)) (s1 s2 : Int) : St := ⟨mkT [(0, .v .str s0), (4, .v (.int .i64) s1), (5, .v (.int .i64) s2)], mkH []⟩
def wqbw (k : Nat) {R : Type} (E1003 : ((List UInt8) → Int → Int → Option R)) (s0 : (List UInt8)) (s1 s2 : Int) (K : ((List UInt8) → Bool → Option R)) : Option R := (@cond (@Option R) (@Decidable.decide (@LT.lt Int Int.instLTInt s2 (@Nat.cast Int instNatCastInt (@List.length UInt8 s0))) (@Int.decLt s2 (@Nat.cast Int instNatCastInt (@List.length UInt8 s0)))) (@cond (@Option R) (@Bool.or (@Bool.not (@BEq.beq (@Kd.T Kd.bool) (@instBEqOfDecidableEq (@Kd.T Kd.bool) @instDecidableEqBool) (@Decidable.decide (@GT.gt Int Int.instLTInt s2 (0 : Int)) (@Int.decLt (0 : Int) s2)) Bool.true)) (@inb (@Go.IntKind.wrap Go.IntKind.i64 (@HSub.hSub Int Int Int (@instHSub Int @Int.instSub) s2 (1 : Int))) (@Nat.cast Int instNatCastInt (@List.length UInt8 s0)))) (@cond (@Option R) (@cond (@Kd.T Kd.bool) (@Decidable.decide (@GT.gt Int Int.instLTInt s2 (0 : Int)) (@Int.decLt (0 : Int) s2)) (@bne Int (@instBEqOfDecidableEq Int @Int.instDecidableEq) (@Nat.cast Int instNatCastInt (@UInt8.toNat (@List.getD UInt8 s0 (@Int.toNat (@Go.IntKind.wrap Go.IntKind.i64 (@HSub.hSub Int Int Int (@instHSub Int @Int.instSub) s2 (1 : Int)))) (0 : UInt8)))) (32 : Int)) Bool.false) (E1003 s0 s1 (@Go.IntKind.wrap Go.IntKind.i64 (@HAdd.hAdd Int Int Int (@instHAdd Int @Int.instAdd) s2 (1 : Int)))) (@cond (@Option R) (@inb s2 (@Nat.cast Int instNatCastInt (@List.length UInt8 s0))) (@cond (@Option R) (@BEq.beq Int (@instBEqOfDecidableEq Int @Int.instDecidableEq) (@Nat.cast Int instNatCastInt (@UInt8.toNat (@List.getD UInt8 s0 (@Int.toNat s2) (0 : UInt8)))) (35 : Int)) (@cond (@Option R) (@bnd (0 : Int) s2 (@Nat.cast Int instNatCastInt (@List.length UInt8 s0))) (@wq6s k R (@cut UInt8 s0 (0 : Int) s2) (32 : UInt8) (fun y7 => (K y7 Bool.true))) (@Option.none R)) (@cond (@Option R) (@BEq.beq Int (@instBEqOfDecidableEq Int @Int.instDecidableEq) (@Nat.cast Int instNatCastInt (@UInt8.toNat (@List.getD UInt8 s0 (@Int.toNat s2) (0 : UInt8)))) (39 : Int)) (@wqcp k R s0 s2 (fun y7 y8 => (@cond (@Option R) (@Bool.not y8) (K [] Bool.false) (E1003 s0 s1 (@Go.IntKind.wrap Go.IntKind.i64 (@HAdd.hAdd Int Int Int (@instHAdd Int @Int.instAdd) y7 (1 : Int))))))) (@cond (@Option R) (@BEq.beq Int (@instBEqOfDecidableEq Int @Int.instDecidableEq) (@Nat.cast Int instNatCastInt (@UInt8.toNat (@List.getD UInt8 s0 (@Int.toNat s2) (0 : UInt8)))) (34 : Int)) (@wqcp k R s0 s2 (fun y7 y8 => (@cond (@Option R) (@Bool.not y8) (K [] Bool.false) (E1003 s0 s1 (@Go.IntKind.wrap Go.IntKind.i64 (@HAdd.hAdd Int Int Int (@instHAdd Int @Int.instAdd) y7 (1 : Int))))))) (E1003 s0 s1 (@Go.IntKind.wrap Go.IntKind.i64 (@HAdd.hAdd Int Int Int (@instHAdd Int @Int.instAdd) s2 (1 : Int))))))) (@Option.none R))) (@Option.none R)) (@cond (@Option R) (@bnd (0 : Int) s1 (@Nat.cast Int instNatCastInt (@List.length UInt8 s0))) (@wq6s k R (@cut UInt8 s0 (0 : Int) s1) (32 : UInt8) (fun y7 => (K y7 Bool.true))) (@Option.none R)))
theorem wqqg (k : Nat) {R : Type} (I : Nat → St → Option R) (s0 : (List UInt8)) (s1 s2 : Int) (K : ((List UInt8) → Bool → Option R)) : execK (wq1p k) k (at_ [1, 0, 1, 1, 0, 1, 0, 0] wq3l) (wq7n s0 s1 s2) (konts (wq1p k) k I [1, 0, 1, 1, 0, 1, 0, 0] wq3l (outK (wq1p k) wqaz [.tmp 2, .tmp 3] (wq7f K))) = wqbw k (fun s0 s1 s2 => I 1003 (wq7n s0 s1 s2)) s0 s1 s2 K := by kernel_rfl
def wqkj (k : Nat) {R : Type} (E1003 : ((List UInt8) → Int → Int → Option R)) (x0 : (List UInt8)) (K : ((List UInt8) → Bool → Option R)) : Option R := (E1003 x0 (@Nat.cast Int instNatCastInt (@List.length UInt8 x0)) (0 : Int))
theorem wq116 (k : Nat) {R : Type} (I : Nat → St → Option R) (x0 : (List UInt8)) (K : ((List UInt8) → Bool → Option R)) : fnK (wq1p k) k wq3l 47 [.tmp 2, .tmp 3] wqaz [.v .str x0] [] (wq7f K) = wqkj k (fun s0 s1 s2 => iter (wq1p k).pv (look (wq1p k).cuts 1003) (execK (wq1p k) k (at_ [1, 0, 1, 1, 0, 1, 0, 0] wq3l)) k (wq7n s0 s1 s2) (konts (wq1p k) k I [1, 0, 1, 1, 0, 1, 0] wq3l (outK (wq1p k) wqaz [.tmp 2, .tmp 3] (wq7f K)))) x0 K := by kernel_rfl
def wq30 (k : Nat) {R : Type}  : Nat → (List UInt8) → Int → Int → ((List UInt8) → Bool → Option R) → Option R
  | 0, _, _, _, _ => none
  | n + 1, s0, s1, s2, K => wqbw k (fun s0 s1 s2 => wq30 k  n s0 s1 s2 K) s0 s1 s2 K
theorem wqqh (k : Nat) {R : Type} (I : Nat → St → Option R) (K : ((List UInt8) → Bool → Option R)) : ∀ (n : Nat) (s0 : (List UInt8)) (s1 s2 : Int), iter (wq1p k).pv (look (wq1p k).cuts 1003) (execK (wq1p k) k (at_ [1, 0, 1, 1, 0, 1, 0, 0] wq3l)) n (wq7n s0 s1 s2) (konts (wq1p k) k I [1, 0, 1, 1, 0, 1, 0] wq3l (outK (wq1p k) wqaz [.tmp 2, .tmp 3] (wq7f K))) = wq30 k  n s0 s1 s2 K := by
  intro n
  induction n with
  | zero => intros; rfl
  | succ n ih =>
    intro s0 s1 s2
    let I' : Nat → St → Option R := fun id s => bif Nat.beq id 1003 then iter (wq1p k).pv (look (wq1p k).cuts 1003) (execK (wq1p k) k (at_ [1, 0, 1, 1, 0, 1, 0, 0] wq3l)) n s (konts (wq1p k) k I [1, 0, 1, 1, 0, 1, 0] wq3l (outK (wq1p k) wqaz [.tmp 2, .tmp 3] (wq7f K))) else I id s
    have e := wqqg k I' s0 s1 s2 K
    have h1003 : (fun s0 s1 s2 => I' 1003 (wq7n s0 s1 s2)) = (fun s0 s1 s2 => wq30 k  n s0 s1 s2 K) := by funext s0 s1 s2; exact ih s0 s1 s2
    refine Eq.trans (?_ : _ = _) (e.trans (Eq.trans ((congrArg ((fun E1003 => wqbw k E1003 s0 s1 s2 K)) h1003)) (by rw [wq30])))
    rfl
def wqgn (k : Nat) {R : Type} (x0 : (List UInt8)) (K : ((List UInt8) → Bool → Option R)) : Option R := wqkj k (fun s0 s1 s2 => wq30 k k s0 s1 s2 K) x0 K
theorem wq117 (k : Nat) {R : Type} (x0 : (List UInt8)) (K : ((List UInt8) → Bool → Option R)) : fnK (wq1p k) k wq3l 47 [.tmp 2, .tmp 3] wqaz [.v .str x0] [] (wq7f K) = wqgn k x0 K := by
  let I : Nat → St → Option R := fun _ _ => none
  have h1003 : (fun s0 s1 s2 => iter (wq1p k).pv (look (wq1p k).cuts 1003) (execK (wq1p k) k (at_ [1, 0, 1, 1, 0, 1, 0, 0] wq3l)) k (wq7n s0 s1 s2) (konts (wq1p k) k I [1, 0, 1, 1, 0, 1, 0] wq3l (outK (wq1p k) wqaz [.tmp 2, .tmp 3] (wq7f K)))) = (fun s0 s1 s2 => wq30 k k s0 s1 s2 K) := by funext s0 s1 s2; exact wqqh k I K k s0 s1 s2
  exact (wq116 k I x0 K).trans (congrArg ((fun E1003 => wqkj k E1003 x0 K)) h1003)
def wqkk (k : Nat) {R : Type} : List PV → List (Nm × HObj) → (Out → Option R) → Option R
  | [.v .str x0], [], K => wqgn k x0 (fun y0 y1 => K (.ret [.v .str y0, .v .bool y1] []))
  | _, _, _ => none
theorem wq118 (k : Nat) : (wqyh k).Ok Tryd.prog := (CTab.add_ok (fun h => wq17j k h) (CTab.add_ok (fun h => wqs8 k h) CTab.nil_ok))
theorem wq19x (k : Nat) {ps : List PV} {hp : List (Nm × HObj)} {R : Type} {K : Out → Option R} {r : R} (h : wqkk k ps hp K = some r) : DoesTo Tryd.prog 43 ps hp fun out => K out = some r := by
  unfold wqkk at h
  split at h
  · rw [← wq117] at h
    have := fn_ok (P := Tryd.prog) (cx := wq1p k) (f := 43) ⟨tyT_ok, wq118 k, fun _ _ => rfl⟩ (by kernel_rfl) (fn := Tryd.f43) (c := wq3l) (by kernel_rfl) (by kernel_rfl) (by kernel_rfl) (rs := [.tmp 2, .tmp 3]) (by kernel_rfl) (by kernel_rfl) h
    exact this.mono fun out ho => by
      unfold wq7f at ho
      split at ho <;> first | exact ho | cases ho
  · cases h
def wq14t : List LS := [.any]
def wqyj (k : Nat) : CTab := (CTab.add 43 wq14s (wqkk k) (CTab.add 44 wq1c7 (wqu4 k) CTab.nil))
def wq7g {R : Type} (K : (Bool → Option R)) : Out → Option R
  | .ret [.v .bool y0] [] => K y0
  | _ => none
def wqb0 : RetSpec := ⟨[.any], [], []⟩
def wq119 : List (Nat × CutSpec) := [(1002, ⟨[(0, .any), (9, .any), (10, .any)], []⟩)]
def wqyk : List (Nat × Plan) := []
def wq1q (k : Nat) : Ctx := ⟨tyT, wq119, wqyj k, [], [], wqyk, @SH⟩
def wq3m : Code := Tryd.f35.body.getD .skip
def wq7o (s0 : (List UInt8)) (s1 s2 : Int) : St := ⟨mkT [(0, .v .str s0), (9, .v (.int .i64) s1), (10, .v (.int .i64) s2)], mkH []⟩
def wqa6 (k : Nat) {R : Type} (E1002 : ((List UInt8) → Int → Int → Option R)) (s0 : (List UInt8)) (s1 s2 : Int) (K : (Bool → Option R)) : Option R := (@cond (@Option R) (@Decidable.decide (@LT.lt Int Int.instLTInt s2 s1) (@Int.decLt s2 s1)) (@cond (@Option R) (@inb s2 (@Nat.cast Int instNatCastInt (@List.length UInt8 s0))) (@cond (@Option R) (@Bool.or (@Bool.not (@BEq.beq (@Kd.T Kd.bool) (@instBEqOfDecidableEq (@Kd.T Kd.bool) @instDecidableEqBool) (@Decidable.decide (@LT.lt Int Int.instLTInt (@Nat.cast Int instNatCastInt (@UInt8.toNat (@List.getD UInt8 s0 (@Int.toNat s2) (0 : UInt8)))) (32 : Int)) (@Int.decLt (@Nat.cast Int instNatCastInt (@UInt8.toNat (@List.getD UInt8 s0 (@Int.toNat s2) (0 : UInt8)))) (32 : Int))) Bool.false)) (@inb s2 (@Nat.cast Int instNatCastInt (@List.length UInt8 s0)))) (@cond (@Option R) (@cond (@Kd.T Kd.bool) (@Decidable.decide (@LT.lt Int Int.instLTInt (@Nat.cast Int instNatCastInt (@UInt8.toNat (@List.getD UInt8 s0 (@Int.toNat s2) (0 : UInt8)))) (32 : Int)) (@Int.decLt (@Nat.cast Int instNatCastInt (@UInt8.toNat (@List.getD UInt8 s0 (@Int.toNat s2) (0 : UInt8)))) (32 : Int))) Bool.true (@BEq.beq Int (@instBEqOfDecidableEq Int @Int.instDecidableEq) (@Nat.cast Int instNatCastInt (@UInt8.toNat (@List.getD UInt8 s0 (@Int.toNat s2) (0 : UInt8)))) (127 : Int))) (K Bool.false) (E1002 s0 s1 (@Go.IntKind.wrap Go.IntKind.i64 (@HAdd.hAdd Int Int Int (@instHAdd Int @Int.instAdd) s2 (1 : Int))))) (@Option.none R)) (@Option.none R)) (@wqgn k R s0 (fun y7 y8 => (@cond (@Option R) (@cond (@Kd.T Kd.bool) (@cond (@Kd.T Kd.bool) (@BEq.beq (@List UInt8) (@List.instBEq UInt8 (@instBEqOfDecidableEq UInt8 @instDecidableEqUInt8)) s0 []) Bool.true (@Bool.not y8)) Bool.true (@Bool.not (@BEq.beq (@List UInt8) (@List.instBEq UInt8 (@instBEqOfDecidableEq UInt8 @instDecidableEqUInt8)) y7 s0))) (K Bool.false) (@wqs7 k R (0 : (@Kd.T kI)) (0 : (@Kd.T kI)) s0 (fun y9 y10 y11 => (@cond (@Option R) (@Bool.or (@Bool.not (@BEq.beq (@Kd.T Kd.bool) (@instBEqOfDecidableEq (@Kd.T Kd.bool) @instDecidableEqBool) (@cond (@Kd.T Kd.bool) (@BEq.beq Int (@instBEqOfDecidableEq Int @Int.instDecidableEq) y10 (0 : Int)) (@BEq.beq Int (@instBEqOfDecidableEq Int @Int.instDecidableEq) (@Nat.cast Int instNatCastInt (@List.length (@Kd.T (@Kd.pr kI (@Kd.pr kI (@Kd.pr kI (@Kd.pr Kd.str Kd.bool))))) y9)) (1 : Int)) Bool.false) Bool.true)) (@inb (0 : Int) (@Nat.cast Int instNatCastInt (@List.length (@Kd.T (@Kd.pr kI (@Kd.pr kI (@Kd.pr kI (@Kd.pr Kd.str Kd.bool))))) y9)))) (@cond (@Option R) (@Bool.or (@Bool.not (@BEq.beq (@Kd.T Kd.bool) (@instBEqOfDecidableEq (@Kd.T Kd.bool) @instDecidableEqBool) (@cond (@Kd.T Kd.bool) (@cond (@Kd.T Kd.bool) (@BEq.beq Int (@instBEqOfDecidableEq Int @Int.instDecidableEq) y10 (0 : Int)) (@BEq.beq Int (@instBEqOfDecidableEq Int @Int.instDecidableEq) (@Nat.cast Int instNatCastInt (@List.length (@Kd.T (@Kd.pr kI (@Kd.pr kI (@Kd.pr kI (@Kd.pr Kd.str Kd.bool))))) y9)) (1 : Int)) Bool.false) (@BEq.beq Int (@instBEqOfDecidableEq Int @Int.instDecidableEq) (@List.getD (@Kd.T (@Kd.pr kI (@Kd.pr kI (@Kd.pr kI (@Kd.pr Kd.str Kd.bool))))) y9 (@Int.toNat (0 : Int)) (@Kd.zero (@Kd.pr kI (@Kd.pr kI (@Kd.pr kI (@Kd.pr Kd.str Kd.bool)))))).1 (3 : Int)) Bool.false) Bool.true)) (@inb (0 : Int) (@Nat.cast Int instNatCastInt (@List.length (@Kd.T (@Kd.pr kI (@Kd.pr kI (@Kd.pr kI (@Kd.pr Kd.str Kd.bool))))) y9)))) (@cond (@Option R) (@Bool.or (@Bool.not (@BEq.beq (@Kd.T Kd.bool) (@instBEqOfDecidableEq (@Kd.T Kd.bool) @instDecidableEqBool) (@cond (@Kd.T Kd.bool) (@cond (@Kd.T Kd.bool) (@cond (@Kd.T Kd.bool) (@BEq.beq Int (@instBEqOfDecidableEq Int @Int.instDecidableEq) y10 (0 : Int)) (@BEq.beq Int (@instBEqOfDecidableEq Int @Int.instDecidableEq) (@Nat.cast Int instNatCastInt (@List.length (@Kd.T (@Kd.pr kI (@Kd.pr kI (@Kd.pr kI (@Kd.pr Kd.str Kd.bool))))) y9)) (1 : Int)) Bool.false) (@BEq.beq Int (@instBEqOfDecidableEq Int @Int.instDecidableEq) (@List.getD (@Kd.T (@Kd.pr kI (@Kd.pr kI (@Kd.pr kI (@Kd.pr Kd.str Kd.bool))))) y9 (@Int.toNat (0 : Int)) (@Kd.zero (@Kd.pr kI (@Kd.pr kI (@Kd.pr kI (@Kd.pr Kd.str Kd.bool)))))).1 (3 : Int)) Bool.false) (@BEq.beq (@List UInt8) (@List.instBEq UInt8 (@instBEqOfDecidableEq UInt8 @instDecidableEqUInt8)) (@List.getD (@Kd.T (@Kd.pr kI (@Kd.pr kI (@Kd.pr kI (@Kd.pr Kd.str Kd.bool))))) y9 (@Int.toNat (0 : Int)) (@Kd.zero (@Kd.pr kI (@Kd.pr kI (@Kd.pr kI (@Kd.pr Kd.str Kd.bool)))))).2.2.2.1 s0) Bool.false) Bool.true)) (@inb (0 : Int) (@Nat.cast Int instNatCastInt (@List.length (@Kd.T (@Kd.pr kI (@Kd.pr kI (@Kd.pr kI (@Kd.pr Kd.str Kd.bool))))) y9)))) (K (@cond (@Kd.T Kd.bool) (@cond (@Kd.T Kd.bool) (@cond (@Kd.T Kd.bool) (@cond (@Kd.T Kd.bool) (@BEq.beq Int (@instBEqOfDecidableEq Int @Int.instDecidableEq) y10 (0 : Int)) (@BEq.beq Int (@instBEqOfDecidableEq Int @Int.instDecidableEq) (@Nat.cast Int instNatCastInt (@List.length (@Kd.T (@Kd.pr kI (@Kd.pr kI (@Kd.pr kI (@Kd.pr Kd.str Kd.bool))))) y9)) (1 : Int)) Bool.false) (@BEq.beq Int (@instBEqOfDecidableEq Int @Int.instDecidableEq) (@List.getD (@Kd.T (@Kd.pr kI (@Kd.pr kI (@Kd.pr kI (@Kd.pr Kd.str Kd.bool))))) y9 (@Int.toNat (0 : Int)) (@Kd.zero (@Kd.pr kI (@Kd.pr kI (@Kd.pr kI (@Kd.pr Kd.str Kd.bool)))))).1 (3 : Int)) Bool.false) (@BEq.beq (@List UInt8) (@List.instBEq UInt8 (@instBEqOfDecidableEq UInt8 @instDecidableEqUInt8)) (@List.getD (@Kd.T (@Kd.pr kI (@Kd.pr kI (@Kd.pr kI (@Kd.pr Kd.str Kd.bool))))) y9 (@Int.toNat (0 : Int)) (@Kd.zero (@Kd.pr kI (@Kd.pr kI (@Kd.pr kI (@Kd.pr Kd.str Kd.bool)))))).2.2.2.1 s0) Bool.false) (@Bool.not (@List.getD (@Kd.T (@Kd.pr kI (@Kd.pr kI (@Kd.pr kI (@Kd.pr Kd.str Kd.bool))))) y9 (@Int.toNat (0 : Int)) (@Kd.zero (@Kd.pr kI (@Kd.pr kI (@Kd.pr kI (@Kd.pr Kd.str Kd.bool)))))).2.2.2.2) Bool.false)) (@Option.none R)) (@Option.none R)) (@Option.none R))))))))
theorem wqqi (k : Nat) {R : Type} (I : Nat → St → Option R) (s0 : (List UInt8)) (s1 s2 : Int) (K : (Bool → Option R)) : execK (wq1q k) k (at_ [1, 0, 1, 0, 0] wq3m) (wq7o s0 s1 s2) (konts (wq1q k) k I [1, 0, 1, 0, 0] wq3m (outK (wq1q k) wqb0 [.tmp 2] (wq7g K))) = wqa6 k (fun s0 s1 s2 => I 1002 (wq7o s0 s1 s2)) s0 s1 s2 K := by kernel_rfl
def wqkl (k : Nat) {R : Type} (E1002 : ((List UInt8) → Int → Int → Option R)) (x0 : (List UInt8)) (K : (Bool → Option R)) : Option R := (E1002 x0 (@Nat.cast Int instNatCastInt (@List.length UInt8 x0)) (0 : Int))
theorem wq11a (k : Nat) {R : Type} (I : Nat → St → Option R) (x0 : (List UInt8)) (K : (Bool → Option R)) : fnK (wq1q k) k wq3m 76 [.tmp 2] wqb0 [.v .str x0] [] (wq7g K) = wqkl k (fun s0 s1 s2 => iter (wq1q k).pv (look (wq1q k).cuts 1002) (execK (wq1q k) k (at_ [1, 0, 1, 0, 0] wq3m)) k (wq7o s0 s1 s2) (konts (wq1q k) k I [1, 0, 1, 0] wq3m (outK (wq1q k) wqb0 [.tmp 2] (wq7g K)))) x0 K := by kernel_rfl
def wq4r (k : Nat) {R : Type}  : Nat → (List UInt8) → Int → Int → (Bool → Option R) → Option R
  | 0, _, _, _, _ => none
  | n + 1, s0, s1, s2, K => wqa6 k (fun s0 s1 s2 => wq4r k  n s0 s1 s2 K) s0 s1 s2 K
theorem wqqj (k : Nat) {R : Type} (I : Nat → St → Option R) (K : (Bool → Option R)) : ∀ (n : Nat) (s0 : (List UInt8)) (s1 s2 : Int), iter (wq1q k).pv (look (wq1q k).cuts 1002) (execK (wq1q k) k (at_ [1, 0, 1, 0, 0] wq3m)) n (wq7o s0 s1 s2) (konts (wq1q k) k I [1, 0, 1, 0] wq3m (outK (wq1q k) wqb0 [.tmp 2] (wq7g K))) = wq4r k  n s0 s1 s2 K := by
  intro n
  induction n with
  | zero => intros; rfl
  | succ n ih =>
    intro s0 s1 s2
    let I' : Nat → St → Option R := fun id s => bif Nat.beq id 1002 then iter (wq1q k).pv (look (wq1q k).cuts 1002) (execK (wq1q k) k (at_ [1, 0, 1, 0, 0] wq3m)) n s (konts (wq1q k) k I [1, 0, 1, 0] wq3m (outK (wq1q k) wqb0 [.tmp 2] (wq7g K))) else I id s
    have e := wqqi k I' s0 s1 s2 K
    have h1002 : (fun s0 s1 s2 => I' 1002 (wq7o s0 s1 s2)) = (fun s0 s1 s2 => wq4r k  n s0 s1 s2 K) := by funext s0 s1 s2; exact ih s0 s1 s2
    refine Eq.trans (?_ : _ = _) (e.trans (Eq.trans ((congrArg ((fun E1002 => wqa6 k E1002 s0 s1 s2 K)) h1002)) (by rw [wq4r])))
    rfl
def wqgo (k : Nat) {R : Type} (x0 : (List UInt8)) (K : (Bool → Option R)) : Option R := wqkl k (fun s0 s1 s2 => wq4r k k s0 s1 s2 K) x0 K
theorem wq11b (k : Nat) {R : Type} (x0 : (List UInt8)) (K : (Bool → Option R)) : fnK (wq1q k) k wq3m 76 [.tmp 2] wqb0 [.v .str x0] [] (wq7g K) = wqgo k x0 K := by
  let I : Nat → St → Option R := fun _ _ => none
  have h1002 : (fun s0 s1 s2 => iter (wq1q k).pv (look (wq1q k).cuts 1002) (execK (wq1q k) k (at_ [1, 0, 1, 0, 0] wq3m)) k (wq7o s0 s1 s2) (konts (wq1q k) k I [1, 0, 1, 0] wq3m (outK (wq1q k) wqb0 [.tmp 2] (wq7g K)))) = (fun s0 s1 s2 => wq4r k k s0 s1 s2 K) := by funext s0 s1 s2; exact wqqj k I K k s0 s1 s2
  exact (wq11a k I x0 K).trans (congrArg ((fun E1002 => wqkl k E1002 x0 K)) h1002)
def wqkm (k : Nat) {R : Type} : List PV → List (Nm × HObj) → (Out → Option R) → Option R
  | [.v .str x0], [], K => wqgo k x0 (fun y0 => K (.ret [.v .bool y0] []))
  | _, _, _ => none
theorem wq11c (k : Nat) : (wqyj k).Ok Tryd.prog := (CTab.add_ok (fun h => wq19x k h) (CTab.add_ok (fun h => wq1ex k h) CTab.nil_ok))
theorem wq19y (k : Nat) {ps : List PV} {hp : List (Nm × HObj)} {R : Type} {K : Out → Option R} {r : R} (h : wqkm k ps hp K = some r) : DoesTo Tryd.prog 35 ps hp fun out => K out = some r := by
  unfold wqkm at h
  split at h
  · rw [← wq11b] at h
    have := fn_ok (P := Tryd.prog) (cx := wq1q k) (f := 35) ⟨tyT_ok, wq11c k, fun _ _ => rfl⟩ (by kernel_rfl) (fn := Tryd.f35) (c := wq3m) (by kernel_rfl) (by kernel_rfl) (by kernel_rfl) (rs := [.tmp 2]) (by kernel_rfl) (by kernel_rfl) h
    exact this.mono fun out ho => by
      unfold wq7g at ho
      split at ho <;> first | exact ho | cases ho
  · cases h
def wq19z : List LS := [.ag [.any, .any, .any, .any, .sl .str, .sl (.int .i64)]]
def wq17k (k : Nat) : CTab := (CTab.add 35 wq14t (wqkm k) (CTab.add 36 wq14h (wqk6 k) CTab.nil))
def wqms {R : Type} (K : (Bool → Option R)) : Out → Option R
  | .ret [.v .bool y0] [] => K y0
  | _ => none
def wq13f : RetSpec := ⟨[.any], [], []⟩
def wq17l : List (Nat × CutSpec) := []
def wq14u : List (Nat × Plan) := []
def wqu5 (k : Nat) : Ctx := ⟨tyT, wq17l, wq17k k, [], [], wq14u, @SH⟩
def wqmt : Code := Tryd.f30.body.getD .skip
def wqyl (k : Nat) {R : Type}  (x0 x1 : Int) (x2 : (List UInt8)) (x3 : Bool) (x4 : (List (List UInt8))) (x5 : (List Int)) (K : (Bool → Option R)) : Option R := (@cond (@Option R) (@BEq.beq Int (@instBEqOfDecidableEq Int @Int.instDecidableEq) x0 (1 : Int)) (@cond (@Option R) (@BEq.beq Bool (@instBEqOfDecidableEq Bool @instDecidableEqBool) (@cond (@Kd.T Kd.bool) (@cond (@Kd.T Kd.bool) (@BEq.beq Int (@instBEqOfDecidableEq Int @Int.instDecidableEq) (@Nat.cast Int instNatCastInt (@List.length (@Kd.T Kd.str) x4)) (0 : Int)) (@BEq.beq Int (@instBEqOfDecidableEq Int @Int.instDecidableEq) (@Nat.cast Int instNatCastInt (@List.length (@Kd.T kI) x5)) (0 : Int)) Bool.false) (@Decidable.decide (@LE.le Int Int.instLEInt (@Nat.cast Int instNatCastInt (@List.length UInt8 x2)) (200 : Int)) (@Int.decLe (@Nat.cast Int instNatCastInt (@List.length UInt8 x2)) (200 : Int))) Bool.false) Bool.true) (@cond (@Option R) (@BEq.beq (@Kd.T Kd.bool) (@instBEqOfDecidableEq (@Kd.T Kd.bool) @instDecidableEqBool) x3 Bool.false) (@wqgo k R x2 (fun y9 => (K y9))) (K Bool.true)) (K Bool.false)) (@cond (@Option R) (@BEq.beq Int (@instBEqOfDecidableEq Int @Int.instDecidableEq) x0 (2 : Int)) (K (@cond (@Kd.T Kd.bool) (@cond (@Kd.T Kd.bool) (@cond (@Kd.T Kd.bool) (@BEq.beq (@List UInt8) (@List.instBEq UInt8 (@instBEqOfDecidableEq UInt8 @instDecidableEqUInt8)) x2 []) (@Bool.not x3) Bool.false) (@BEq.beq Int (@instBEqOfDecidableEq Int @Int.instDecidableEq) (@Nat.cast Int instNatCastInt (@List.length (@Kd.T Kd.str) x4)) (0 : Int)) Bool.false) (@Decidable.decide (@GT.gt Int Int.instLTInt (@Nat.cast Int instNatCastInt (@List.length (@Kd.T kI) x5)) (0 : Int)) (@Int.decLt (0 : Int) (@Nat.cast Int instNatCastInt (@List.length (@Kd.T kI) x5)))) Bool.false)) (@cond (@Option R) (@BEq.beq Int (@instBEqOfDecidableEq Int @Int.instDecidableEq) x0 (3 : Int)) (@cond (@Option R) (@BEq.beq (@Kd.T Kd.bool) (@instBEqOfDecidableEq (@Kd.T Kd.bool) @instDecidableEqBool) (@cond (@Kd.T Kd.bool) (@cond (@Kd.T Kd.bool) (@cond (@Kd.T Kd.bool) (@BEq.beq (@List UInt8) (@List.instBEq UInt8 (@instBEqOfDecidableEq UInt8 @instDecidableEqUInt8)) x2 []) (@Bool.not x3) Bool.false) (@Decidable.decide (@GT.gt Int Int.instLTInt (@Nat.cast Int instNatCastInt (@List.length (@Kd.T kI) x5)) (0 : Int)) (@Int.decLt (0 : Int) (@Nat.cast Int instNatCastInt (@List.length (@Kd.T kI) x5)))) Bool.false) (@BEq.beq Int (@instBEqOfDecidableEq Int @Int.instDecidableEq) (@Nat.cast Int instNatCastInt (@List.length (@Kd.T Kd.str) x4)) (@Nat.cast Int instNatCastInt (@List.length (@Kd.T kI) x5))) Bool.false) Bool.true) (@wqgc k R x4 (fun y9 => (K y9))) (K Bool.false)) (K Bool.false))))
theorem wq17m (k : Nat) {R : Type} (I : Nat → St → Option R) (x0 x1 : Int) (x2 : (List UInt8)) (x3 : Bool) (x4 : (List (List UInt8))) (x5 : (List Int)) (K : (Bool → Option R)) : fnK (wqu5 k) k wqmt 79 [.tmp 2] wq13f [.agg [.v (.int .i64) x0, .v (.int .i64) x1, .v .str x2, .v .bool x3, .v (.sl .str) x4, .v (.sl (.int .i64)) x5]] [] (wqms K) = wqyl k  x0 x1 x2 x3 x4 x5 K := by kernel_rfl
def wqmu (k : Nat) {R : Type} (x0 x1 : Int) (x2 : (List UInt8)) (x3 : Bool) (x4 : (List (List UInt8))) (x5 : (List Int)) (K : (Bool → Option R)) : Option R := wqyl k  x0 x1 x2 x3 x4 x5 K
theorem wq17n (k : Nat) {R : Type} (x0 x1 : Int) (x2 : (List UInt8)) (x3 : Bool) (x4 : (List (List UInt8))) (x5 : (List Int)) (K : (Bool → Option R)) : fnK (wqu5 k) k wqmt 79 [.tmp 2] wq13f [.agg [.v (.int .i64) x0, .v (.int .i64) x1, .v .str x2, .v .bool x3, .v (.sl .str) x4, .v (.sl (.int .i64)) x5]] [] (wqms K) = wqmu k x0 x1 x2 x3 x4 x5 K := by
  exact wq17m k (fun _ _ => none) x0 x1 x2 x3 x4 x5 K
def wqqk (k : Nat) {R : Type} : List PV → List (Nm × HObj) → (Out → Option R) → Option R
  | [.agg [.v (.int .i64) x0, .v (.int .i64) x1, .v .str x2, .v .bool x3, .v (.sl .str) x4, .v (.sl (.int .i64)) x5]], [], K => wqmu k x0 x1 x2 x3 x4 x5 (fun y0 => K (.ret [.v .bool y0] []))
  | _, _, _ => none
theorem wq17o (k : Nat) : (wq17k k).Ok Tryd.prog := (CTab.add_ok (fun h => wq19y k h) (CTab.add_ok (fun h => wq19m k h) CTab.nil_ok))
theorem wq1dw (k : Nat) {ps : List PV} {hp : List (Nm × HObj)} {R : Type} {K : Out → Option R} {r : R} (h : wqqk k ps hp K = some r) : DoesTo Tryd.prog 30 ps hp fun out => K out = some r := by
  unfold wqqk at h
  split at h
  · rw [← wq17n] at h
    have := fn_ok (P := Tryd.prog) (cx := wqu5 k) (f := 30) ⟨tyT_ok, wq17o k, fun _ _ => rfl⟩ (by kernel_rfl) (fn := Tryd.f30) (c := wqmt) (by kernel_rfl) (by kernel_rfl) (by kernel_rfl) (rs := [.tmp 2]) (by kernel_rfl) (by kernel_rfl) h
    exact this.mono fun out ho => by
      unfold wqms at ho
      split at ho <;> first | exact ho | cases ho
  · cases h
abbrev wq8v : Type 1 := (R : Type) → (List (Int × (Int × ((List UInt8) × (Bool × ((List (List UInt8)) × (List Int))))))) → Int → Int → (Int → Option R) → Option R
def wquz : List LS := [.ag [.sl (.pr (.int .i64) (.pr (.int .i64) (.pr .str (.pr .bool (.pr (.sl .str) (.sl (.int .i64)))))))], .any, .any]
def wqkn (wq14 : wq8v) {R : Type} : List PV → List (Nm × HObj) → (Out → Option R) → Option R
  | [.agg [.v (.sl (.pr (.int .i64) (.pr (.int .i64) (.pr .str (.pr .bool (.pr (.sl .str) (.sl (.int .i64)))))))) x0], .v (.int .i64) x1, .v (.int .i64) x2], [], K => wq14 R x0 x1 x2 (fun y0 => K (.ret [.v (.int .i64) y0] []))
  | _, _, _ => none
def wq13g (k : Nat) (wq14 : wq8v) : CTab := (CTab.add 18 wquz (wqkn wq14) (CTab.add 30 wq19z (wqqk k) CTab.nil))
def wq8j {R : Type} (K : (Int → Option R)) : Out → Option R
  | .ret [.v (.int .i64) y0] [] => K y0
  | _ => none
def wqcf : RetSpec := ⟨[.any], [], []⟩
def wq14v : List (Nat × CutSpec) := [(1005, ⟨[(2, .any), (3, .obj 13 [.sl (.pr (.int .i64) (.pr (.int .i64) (.pr .str (.pr .bool (.pr (.sl .str) (.sl (.int .i64)))))))]), (7, .any), (35, .sl (.int .i64)), (36, .any), (37, .any)], []⟩)]
def wq11d : List (Nat × Plan) := []
def wq25 (k : Nat) (wq14 : wq8v) : Ctx := ⟨tyT, wq14v, wq13g k wq14, [], [], wq11d, @SH⟩
def wq49 : Code := Tryd.f18.body.getD .skip
def wq8b (s0 : Int) (s1 : (List (Int × (Int × ((List UInt8) × (Bool × ((List (List UInt8)) × (List Int)))))))) (s2 : Int) (s3 : (List Int)) (s4 s5 : Int) : St := ⟨mkT [(2, .v (.int .i64) s0), (3, .ptr 13 0), (7, .v (.int .i64) s2), (35, .v (.sl (.int .i64)) s3), (36, .v (.int .i64) s4), (37, .v (.int .i64) s5)], mkH [(13, .var 24 [.v (.sl (.pr (.int .i64) (.pr (.int .i64) (.pr .str (.pr .bool (.pr (.sl .str) (.sl (.int .i64)))))))) s1])]⟩
def wqb1 (k : Nat) (wq14 : wq8v) {R : Type} (E1005 : (Int → (List (Int × (Int × ((List UInt8) × (Bool × ((List (List UInt8)) × (List Int))))))) → Int → (List Int) → Int → Int → Option R)) (s0 : Int) (s1 : (List (Int × (Int × ((List UInt8) × (Bool × ((List (List UInt8)) × (List Int)))))))) (s2 : Int) (s3 : (List Int)) (s4 s5 : Int) (K : (Int → Option R)) : Option R := (@cond (@Option R) (@Decidable.decide (@LT.lt Int Int.instLTInt s5 s4) (@Int.decLt s5 s4)) (@cond (@Option R) (@inb s5 (@Nat.cast Int instNatCastInt (@List.length (@Kd.T kI) s3))) (@cond (@Option R) (@bne Int (@instBEqOfDecidableEq Int @Int.instDecidableEq) (@List.getD (@Kd.T kI) s3 (@Int.toNat s5) (@Kd.zero kI)) s2) (K (@Neg.neg Int @Int.instNegInt (1 : Int))) (wq14 R s1 (@List.getD (@Kd.T kI) s3 (@Int.toNat s5) (@Kd.zero kI)) (@Go.IntKind.wrap Go.IntKind.i64 (@HAdd.hAdd Int Int Int (@instHAdd Int @Int.instAdd) s0 (1 : Int))) (fun y10 => (@cond (@Option R) (@Decidable.decide (@LT.lt Int Int.instLTInt y10 (0 : Int)) (@Int.decLt y10 (0 : Int))) (K (@Neg.neg Int @Int.instNegInt (1 : Int))) (E1005 s0 s1 y10 s3 s4 (@Go.IntKind.wrap Go.IntKind.i64 (@HAdd.hAdd Int Int Int (@instHAdd Int @Int.instAdd) s5 (1 : Int)))))))) (@Option.none R)) (K s2))
theorem wqs9 (k : Nat) (wq14 : wq8v) {R : Type} (I : Nat → St → Option R) (s0 : Int) (s1 : (List (Int × (Int × ((List UInt8) × (Bool × ((List (List UInt8)) × (List Int)))))))) (s2 : Int) (s3 : (List Int)) (s4 s5 : Int) (K : (Int → Option R)) : execK (wq25 k wq14) k (at_ [1, 1, 1, 0, 1, 0, 0] wq49) (wq8b s0 s1 s2 s3 s4 s5) (konts (wq25 k wq14) k I [1, 1, 1, 0, 1, 0, 0] wq49 (outK (wq25 k wq14) wqcf [.tmp 6] (wq8j K))) = wqb1 k wq14 (fun s0 s1 s2 s3 s4 s5 => I 1005 (wq8b s0 s1 s2 s3 s4 s5)) s0 s1 s2 s3 s4 s5 K := by kernel_rfl
def wqjs (k : Nat) (wq14 : wq8v) {R : Type} (E1005 : (Int → (List (Int × (Int × ((List UInt8) × (Bool × ((List (List UInt8)) × (List Int))))))) → Int → (List Int) → Int → Int → Option R)) (x0 : (List (Int × (Int × ((List UInt8) × (Bool × ((List (List UInt8)) × (List Int)))))))) (x1 x2 : Int) (K : (Int → Option R)) : Option R := (@cond (@Option R) (@Bool.or (@Bool.not (@BEq.beq (@Kd.T Kd.bool) (@instBEqOfDecidableEq (@Kd.T Kd.bool) @instDecidableEqBool) (@cond (@Kd.T Kd.bool) (@Decidable.decide (@GE.ge Int Int.instLEInt x1 (@Nat.cast Int instNatCastInt (@List.length (@Kd.T (@Kd.pr kI (@Kd.pr kI (@Kd.pr Kd.str (@Kd.pr Kd.bool (@Kd.pr (@Kd.sl Kd.str) (@Kd.sl kI))))))) x0))) (@Int.decLe (@Nat.cast Int instNatCastInt (@List.length (@Kd.T (@Kd.pr kI (@Kd.pr kI (@Kd.pr Kd.str (@Kd.pr Kd.bool (@Kd.pr (@Kd.sl Kd.str) (@Kd.sl kI))))))) x0)) x1)) Bool.true (@Decidable.decide (@GT.gt Int Int.instLTInt x2 (24 : Int)) (@Int.decLt (24 : Int) x2))) Bool.false)) (@inb x1 (@Nat.cast Int instNatCastInt (@List.length (@Kd.T (@Kd.pr kI (@Kd.pr kI (@Kd.pr Kd.str (@Kd.pr Kd.bool (@Kd.pr (@Kd.sl Kd.str) (@Kd.sl kI))))))) x0)))) (@cond (@Option R) (@BEq.beq (@Kd.T Kd.bool) (@instBEqOfDecidableEq (@Kd.T Kd.bool) @instDecidableEqBool) (@cond (@Kd.T Kd.bool) (@Decidable.decide (@GE.ge Int Int.instLEInt x1 (@Nat.cast Int instNatCastInt (@List.length (@Kd.T (@Kd.pr kI (@Kd.pr kI (@Kd.pr Kd.str (@Kd.pr Kd.bool (@Kd.pr (@Kd.sl Kd.str) (@Kd.sl kI))))))) x0))) (@Int.decLe (@Nat.cast Int instNatCastInt (@List.length (@Kd.T (@Kd.pr kI (@Kd.pr kI (@Kd.pr Kd.str (@Kd.pr Kd.bool (@Kd.pr (@Kd.sl Kd.str) (@Kd.sl kI))))))) x0)) x1)) Bool.true (@Decidable.decide (@GT.gt Int Int.instLTInt x2 (24 : Int)) (@Int.decLt (24 : Int) x2))) Bool.false) (@wqmu k R (@List.getD (@Kd.T (@Kd.pr kI (@Kd.pr kI (@Kd.pr Kd.str (@Kd.pr Kd.bool (@Kd.pr (@Kd.sl Kd.str) (@Kd.sl kI))))))) x0 (@Int.toNat x1) (@Kd.zero (@Kd.pr kI (@Kd.pr kI (@Kd.pr Kd.str (@Kd.pr Kd.bool (@Kd.pr (@Kd.sl Kd.str) (@Kd.sl kI)))))))).1 (@List.getD (@Kd.T (@Kd.pr kI (@Kd.pr kI (@Kd.pr Kd.str (@Kd.pr Kd.bool (@Kd.pr (@Kd.sl Kd.str) (@Kd.sl kI))))))) x0 (@Int.toNat x1) (@Kd.zero (@Kd.pr kI (@Kd.pr kI (@Kd.pr Kd.str (@Kd.pr Kd.bool (@Kd.pr (@Kd.sl Kd.str) (@Kd.sl kI)))))))).2.1 (@List.getD (@Kd.T (@Kd.pr kI (@Kd.pr kI (@Kd.pr Kd.str (@Kd.pr Kd.bool (@Kd.pr (@Kd.sl Kd.str) (@Kd.sl kI))))))) x0 (@Int.toNat x1) (@Kd.zero (@Kd.pr kI (@Kd.pr kI (@Kd.pr Kd.str (@Kd.pr Kd.bool (@Kd.pr (@Kd.sl Kd.str) (@Kd.sl kI)))))))).2.2.1 (@List.getD (@Kd.T (@Kd.pr kI (@Kd.pr kI (@Kd.pr Kd.str (@Kd.pr Kd.bool (@Kd.pr (@Kd.sl Kd.str) (@Kd.sl kI))))))) x0 (@Int.toNat x1) (@Kd.zero (@Kd.pr kI (@Kd.pr kI (@Kd.pr Kd.str (@Kd.pr Kd.bool (@Kd.pr (@Kd.sl Kd.str) (@Kd.sl kI)))))))).2.2.2.1 (@List.getD (@Kd.T (@Kd.pr kI (@Kd.pr kI (@Kd.pr Kd.str (@Kd.pr Kd.bool (@Kd.pr (@Kd.sl Kd.str) (@Kd.sl kI))))))) x0 (@Int.toNat x1) (@Kd.zero (@Kd.pr kI (@Kd.pr kI (@Kd.pr Kd.str (@Kd.pr Kd.bool (@Kd.pr (@Kd.sl Kd.str) (@Kd.sl kI)))))))).2.2.2.2.1 (@List.getD (@Kd.T (@Kd.pr kI (@Kd.pr kI (@Kd.pr Kd.str (@Kd.pr Kd.bool (@Kd.pr (@Kd.sl Kd.str) (@Kd.sl kI))))))) x0 (@Int.toNat x1) (@Kd.zero (@Kd.pr kI (@Kd.pr kI (@Kd.pr Kd.str (@Kd.pr Kd.bool (@Kd.pr (@Kd.sl Kd.str) (@Kd.sl kI)))))))).2.2.2.2.2 (fun y7 => (@cond (@Option R) (@Bool.not y7) (K (@Neg.neg Int @Int.instNegInt (1 : Int))) (@cond (@Option R) (@inb x1 (@Nat.cast Int instNatCastInt (@List.length (@Kd.T (@Kd.pr kI (@Kd.pr kI (@Kd.pr Kd.str (@Kd.pr Kd.bool (@Kd.pr (@Kd.sl Kd.str) (@Kd.sl kI))))))) x0))) (E1005 x2 x0 (@Go.IntKind.wrap Go.IntKind.i64 (@HAdd.hAdd Int Int Int (@instHAdd Int @Int.instAdd) x1 (1 : Int))) (@List.getD (@Kd.T (@Kd.pr kI (@Kd.pr kI (@Kd.pr Kd.str (@Kd.pr Kd.bool (@Kd.pr (@Kd.sl Kd.str) (@Kd.sl kI))))))) x0 (@Int.toNat x1) (@Kd.zero (@Kd.pr kI (@Kd.pr kI (@Kd.pr Kd.str (@Kd.pr Kd.bool (@Kd.pr (@Kd.sl Kd.str) (@Kd.sl kI)))))))).2.2.2.2.2 (@Nat.cast Int instNatCastInt (@List.length (@Kd.T kI) (@List.getD (@Kd.T (@Kd.pr kI (@Kd.pr kI (@Kd.pr Kd.str (@Kd.pr Kd.bool (@Kd.pr (@Kd.sl Kd.str) (@Kd.sl kI))))))) x0 (@Int.toNat x1) (@Kd.zero (@Kd.pr kI (@Kd.pr kI (@Kd.pr Kd.str (@Kd.pr Kd.bool (@Kd.pr (@Kd.sl Kd.str) (@Kd.sl kI)))))))).2.2.2.2.2)) (0 : Int)) (@Option.none R))))) (K (@Neg.neg Int @Int.instNegInt (1 : Int)))) (@Option.none R))
theorem wq14w (k : Nat) (wq14 : wq8v) {R : Type} (I : Nat → St → Option R) (x0 : (List (Int × (Int × ((List UInt8) × (Bool × ((List (List UInt8)) × (List Int)))))))) (x1 x2 : Int) (K : (Int → Option R)) : fnK (wq25 k wq14) k wq49 53 [.tmp 6] wqcf [.agg [.v (.sl (.pr (.int .i64) (.pr (.int .i64) (.pr .str (.pr .bool (.pr (.sl .str) (.sl (.int .i64)))))))) x0], .v (.int .i64) x1, .v (.int .i64) x2] [] (wq8j K) = wqjs k wq14 (fun s0 s1 s2 s3 s4 s5 => iter (wq25 k wq14).pv (look (wq25 k wq14).cuts 1005) (execK (wq25 k wq14) k (at_ [1, 1, 1, 0, 1, 0, 0] wq49)) k (wq8b s0 s1 s2 s3 s4 s5) (konts (wq25 k wq14) k I [1, 1, 1, 0, 1, 0] wq49 (outK (wq25 k wq14) wqcf [.tmp 6] (wq8j K)))) x0 x1 x2 K := by kernel_rfl
def wq5g (k : Nat) (wq14 : wq8v) {R : Type}  : Nat → Int → (List (Int × (Int × ((List UInt8) × (Bool × ((List (List UInt8)) × (List Int))))))) → Int → (List Int) → Int → Int → (Int → Option R) → Option R
  | 0, _, _, _, _, _, _, _ => none
  | n + 1, s0, s1, s2, s3, s4, s5, K => wqb1 k wq14 (fun s0 s1 s2 s3 s4 s5 => wq5g k wq14  n s0 s1 s2 s3 s4 s5 K) s0 s1 s2 s3 s4 s5 K
theorem wqsa (k : Nat) (wq14 : wq8v) {R : Type} (I : Nat → St → Option R) (K : (Int → Option R)) : ∀ (n : Nat) (s0 : Int) (s1 : (List (Int × (Int × ((List UInt8) × (Bool × ((List (List UInt8)) × (List Int)))))))) (s2 : Int) (s3 : (List Int)) (s4 s5 : Int), iter (wq25 k wq14).pv (look (wq25 k wq14).cuts 1005) (execK (wq25 k wq14) k (at_ [1, 1, 1, 0, 1, 0, 0] wq49)) n (wq8b s0 s1 s2 s3 s4 s5) (konts (wq25 k wq14) k I [1, 1, 1, 0, 1, 0] wq49 (outK (wq25 k wq14) wqcf [.tmp 6] (wq8j K))) = wq5g k wq14  n s0 s1 s2 s3 s4 s5 K := by
  intro n
  induction n with
  | zero => intros; rfl
  | succ n ih =>
    intro s0 s1 s2 s3 s4 s5
    let I' : Nat → St → Option R := fun id s => bif Nat.beq id 1005 then iter (wq25 k wq14).pv (look (wq25 k wq14).cuts 1005) (execK (wq25 k wq14) k (at_ [1, 1, 1, 0, 1, 0, 0] wq49)) n s (konts (wq25 k wq14) k I [1, 1, 1, 0, 1, 0] wq49 (outK (wq25 k wq14) wqcf [.tmp 6] (wq8j K))) else I id s
    have e := wqs9 k wq14 I' s0 s1 s2 s3 s4 s5 K
    have h1005 : (fun s0 s1 s2 s3 s4 s5 => I' 1005 (wq8b s0 s1 s2 s3 s4 s5)) = (fun s0 s1 s2 s3 s4 s5 => wq5g k wq14  n s0 s1 s2 s3 s4 s5 K) := by funext s0 s1 s2 s3 s4 s5; exact ih s0 s1 s2 s3 s4 s5
    refine Eq.trans (?_ : _ = _) (e.trans (Eq.trans ((congrArg ((fun E1005 => wqb1 k wq14 E1005 s0 s1 s2 s3 s4 s5 K)) h1005)) (by rw [wq5g])))
    rfl
def wq2x : Nat → (R : Type) → (List (Int × (Int × ((List UInt8) × (Bool × ((List (List UInt8)) × (List Int))))))) → Int → Int → (Int → Option R) → Option R
  | 0, _, _, _, _, _ => none
  | k + 1, R, x0, x1, x2, K => wqjs k (wq2x k) (fun s0 s1 s2 s3 s4 s5 => wq5g k (wq2x k) k s0 s1 s2 s3 s4 s5 K) x0 x1 x2 K
def wqjt (k : Nat) {R : Type} (x0 : (List (Int × (Int × ((List UInt8) × (Bool × ((List (List UInt8)) × (List Int)))))))) (x1 x2 : Int) (K : (Int → Option R)) : Option R := wq2x k R x0 x1 x2 K
theorem wq14x (k : Nat) {R : Type} (x0 : (List (Int × (Int × ((List UInt8) × (Bool × ((List (List UInt8)) × (List Int)))))))) (x1 x2 : Int) (K : (Int → Option R)) : fnK (wq25 k (wq2x k)) k wq49 53 [.tmp 6] wqcf [.agg [.v (.sl (.pr (.int .i64) (.pr (.int .i64) (.pr .str (.pr .bool (.pr (.sl .str) (.sl (.int .i64)))))))) x0], .v (.int .i64) x1, .v (.int .i64) x2] [] (wq8j K) = wq2x (k + 1) R x0 x1 x2 K := by
  rw [wq2x]
  let I : Nat → St → Option R := fun _ _ => none
  have h1005 : (fun s0 s1 s2 s3 s4 s5 => iter (wq25 k (wq2x k)).pv (look (wq25 k (wq2x k)).cuts 1005) (execK (wq25 k (wq2x k)) k (at_ [1, 1, 1, 0, 1, 0, 0] wq49)) k (wq8b s0 s1 s2 s3 s4 s5) (konts (wq25 k (wq2x k)) k I [1, 1, 1, 0, 1, 0] wq49 (outK (wq25 k (wq2x k)) wqcf [.tmp 6] (wq8j K)))) = (fun s0 s1 s2 s3 s4 s5 => wq5g k (wq2x k) k s0 s1 s2 s3 s4 s5 K) := by funext s0 s1 s2 s3 s4 s5; exact wqsa k (wq2x k) I K k s0 s1 s2 s3 s4 s5
  exact (wq14w k (wq2x k) I x0 x1 x2 K).trans (congrArg ((fun E1005 => wqjs k (wq2x k) E1005 x0 x1 x2 K)) h1005)
def wqcq (k : Nat) {R : Type} : List PV → List (Nm × HObj) → (Out → Option R) → Option R
  | [.agg [.v (.sl (.pr (.int .i64) (.pr (.int .i64) (.pr .str (.pr .bool (.pr (.sl .str) (.sl (.int .i64)))))))) x0], .v (.int .i64) x1, .v (.int .i64) x2], [], K => wqjt k x0 x1 x2 (fun y0 => K (.ret [.v (.int .i64) y0] []))
  | _, _, _ => none
theorem wq14y (k : Nat) (wq14 : wq8v) (wq1ap : ∀ {ps : List PV} {hp : List (Nm × HObj)} {R : Type} {K : Out → Option R} {r : R}, wqkn wq14 ps hp K = some r → DoesTo Tryd.prog 18 ps hp fun out => K out = some r) : (wq13g k wq14).Ok Tryd.prog := (CTab.add_ok (fun h => wq1ap h) (CTab.add_ok (fun h => wq1dw k h) CTab.nil_ok))
theorem wq1a0 : ∀ k : Nat, (∀ {ps : List PV} {hp : List (Nm × HObj)} {R : Type} {K : Out → Option R} {r : R}, wqcq k ps hp K = some r → DoesTo Tryd.prog 18 ps hp fun out => K out = some r) := by
  intro k
  induction k with
  | zero =>
    · intro ps hp R K r h
      unfold wqcq at h
      split at h
      · unfold wqjt at h; rw [wq2x] at h; cases h
      · cases h
  | succ k ih =>
    have ih_show_walk := @ih
    · intro ps hp R K r h
      unfold wqcq at h
      split at h
      · unfold wqjt at h; rw [← wq14x] at h
        have := fn_ok (P := Tryd.prog) (cx := wq25 k (wq2x k)) (f := 18) ⟨tyT_ok, wq14y k (wq2x k) (fun h => ih_show_walk (by unfold wqkn at h; unfold wqcq; exact h)), fun _ _ => rfl⟩ (by kernel_rfl) (fn := Tryd.f18) (c := wq49) (by kernel_rfl) (by kernel_rfl) (by kernel_rfl) (rs := [.tmp 6]) (by kernel_rfl) (by kernel_rfl) h
        exact this.mono fun out ho => by
          unfold wq8j at ho
          split at ho <;> first | exact ho | cases ho
      · cases h
theorem wq1c8 (k : Nat) {ps : List PV} {hp : List (Nm × HObj)} {R : Type} {K : Out → Option R} {r : R} (h : wqcq k ps hp K = some r) : DoesTo Tryd.prog 18 ps hp fun out => K out = some r := (wq1a0 k) h
def wqko : List LS := [.ag [.sl (.pr (.int .i64) (.pr (.int .i64) (.pr .str (.pr .bool (.pr (.sl .str) (.sl (.int .i64)))))))]]
def wqym (k : Nat) : CTab := (CTab.add 18 wquz (wqcq k) CTab.nil)
def wqiq {R : Type} (K : (Int → Option R)) : Out → Option R
  | .ret [.v (.int .i64) y0] [] => K y0
  | _ => none
def wqv0 : RetSpec := ⟨[.any], [], []⟩
def wq11e : List (Nat × CutSpec) := []
def wqyn : List (Nat × Plan) := [(1, (.of [(0, 1), (1, 1), (2, 1), (3, 1), (4, 1), (5, 1), (6, 1), (7, 1), (8, 1), (9, 1), (10, 1), (13, 1), (11, 1), (14, 2), (15, 1), (12, 0), (16, 1), (17, 1)] .done))]
def wqmv (k : Nat) : Ctx := ⟨tyT, wq11e, wqym k, [], [], wqyn, @SH⟩
def wqir : Code := Tryd.f9.body.getD .skip
def wqql (k : Nat) {R : Type}  (x0 : (List (Int × (Int × ((List UInt8) × (Bool × ((List (List UInt8)) × (List Int)))))))) (K : (Int → Option R)) : Option R := (@cond (@Option R) (@BEq.beq (@Kd.T Kd.bool) (@instBEqOfDecidableEq (@Kd.T Kd.bool) @instDecidableEqBool) (@cond (@Kd.T Kd.bool) (@Decidable.decide (@LT.lt Int Int.instLTInt (@Nat.cast Int instNatCastInt (@List.length (@Kd.T (@Kd.pr kI (@Kd.pr kI (@Kd.pr Kd.str (@Kd.pr Kd.bool (@Kd.pr (@Kd.sl Kd.str) (@Kd.sl kI))))))) x0)) (1 : Int)) (@Int.decLt (@Nat.cast Int instNatCastInt (@List.length (@Kd.T (@Kd.pr kI (@Kd.pr kI (@Kd.pr Kd.str (@Kd.pr Kd.bool (@Kd.pr (@Kd.sl Kd.str) (@Kd.sl kI))))))) x0)) (1 : Int))) Bool.true (@Decidable.decide (@GT.gt Int Int.instLTInt (@Nat.cast Int instNatCastInt (@List.length (@Kd.T (@Kd.pr kI (@Kd.pr kI (@Kd.pr Kd.str (@Kd.pr Kd.bool (@Kd.pr (@Kd.sl Kd.str) (@Kd.sl kI))))))) x0)) (2000 : Int)) (@Int.decLt (2000 : Int) (@Nat.cast Int instNatCastInt (@List.length (@Kd.T (@Kd.pr kI (@Kd.pr kI (@Kd.pr Kd.str (@Kd.pr Kd.bool (@Kd.pr (@Kd.sl Kd.str) (@Kd.sl kI))))))) x0))))) Bool.false) (@wqjt k R x0 (0 : Int) (1 : Int) (fun y4 => (@cond (@Option R) (@bne Int (@instBEqOfDecidableEq Int @Int.instDecidableEq) y4 (@Nat.cast Int instNatCastInt (@List.length (@Kd.T (@Kd.pr kI (@Kd.pr kI (@Kd.pr Kd.str (@Kd.pr Kd.bool (@Kd.pr (@Kd.sl Kd.str) (@Kd.sl kI))))))) x0))) (K (1 : Int)) (K (0 : Int))))) (K (1 : Int)))
theorem wq11f (k : Nat) {R : Type} (I : Nat → St → Option R) (x0 : (List (Int × (Int × ((List UInt8) × (Bool × ((List (List UInt8)) × (List Int)))))))) (K : (Int → Option R)) : fnK (wqmv k) k wqir 21 [.tmp 2] wqv0 [.agg [.v (.sl (.pr (.int .i64) (.pr (.int .i64) (.pr .str (.pr .bool (.pr (.sl .str) (.sl (.int .i64)))))))) x0]] [] (wqiq K) = wqql k  x0 K := by kernel_rfl
def wq9t (k : Nat) {R : Type} (x0 : (List (Int × (Int × ((List UInt8) × (Bool × ((List (List UInt8)) × (List Int)))))))) (K : (Int → Option R)) : Option R := wqql k  x0 K
theorem wq11g (k : Nat) {R : Type} (x0 : (List (Int × (Int × ((List UInt8) × (Bool × ((List (List UInt8)) × (List Int)))))))) (K : (Int → Option R)) : fnK (wqmv k) k wqir 21 [.tmp 2] wqv0 [.agg [.v (.sl (.pr (.int .i64) (.pr (.int .i64) (.pr .str (.pr .bool (.pr (.sl .str) (.sl (.int .i64)))))))) x0]] [] (wqiq K) = wq9t k x0 K := by
  exact wq11f k (fun _ _ => none) x0 K
def wqd7 (k : Nat) {R : Type} : List PV → List (Nm × HObj) → (Out → Option R) → Option R
  | [.agg [.v (.sl (.pr (.int .i64) (.pr (.int .i64) (.pr .str (.pr .bool (.pr (.sl .str) (.sl (.int .i64)))))))) x0]], [], K => wq9t k x0 (fun y0 => K (.ret [.v (.int .i64) y0] []))
  | _, _, _ => none
theorem wq11h (k : Nat) : (wqym k).Ok Tryd.prog := (CTab.add_ok (fun h => wq1c8 k h) CTab.nil_ok)
theorem wqqm (k : Nat) {ps : List PV} {hp : List (Nm × HObj)} {R : Type} {K : Out → Option R} {r : R} (h : wqd7 k ps hp K = some r) : DoesTo Tryd.prog 9 ps hp fun out => K out = some r := by
  unfold wqd7 at h
  split at h
  · rw [← wq11g] at h
    have := fn_ok (P := Tryd.prog) (cx := wqmv k) (f := 9) ⟨tyT_ok, wq11h k, fun _ _ => rfl⟩ (by kernel_rfl) (fn := Tryd.f9) (c := wqir) (by kernel_rfl) (by kernel_rfl) (by kernel_rfl) (rs := [.tmp 2]) (by kernel_rfl) (by kernel_rfl) h
    exact this.mono fun out ho => by
      unfold wqiq at ho
      split at ho <;> first | exact ho | cases ho
  · cases h
def wqis : List LS := [.sl (.int .i64), .sl (.int .i64)]
def wqd8 (k : Nat) : CTab := CTab.nil
def wq2d {R : Type} (K : (Bool → Option R)) : Out → Option R
  | .ret [.v .bool y0] [] => K y0
  | _ => none
def wq33 : RetSpec := ⟨[.any], [], []⟩
def wqhe : List (Nat × CutSpec) := [(1004, ⟨[(0, .sl (.int .i64)), (1, .sl (.int .i64)), (12, .any), (13, .any)], []⟩)]
def wqgp : List (Nat × Plan) := [(6, (.of [(0, 1), (1, 1), (2, 1), (4, 1), (5, 1), (6, 1), (3, 1), (7, 1), (8, 1)] .done))]
def wqd (k : Nat) : Ctx := ⟨tyT, wqhe, wqd8 k, [], [], wqgp, @SH⟩
def wq11 : Code := Tryd.f23.body.getD .skip
def wq2r (s0 s1 : (List Int)) (s2 s3 : Int) : St := ⟨mkT [(0, .v (.sl (.int .i64)) s0), (1, .v (.sl (.int .i64)) s1), (12, .v (.int .i64) s2), (13, .v (.int .i64) s3)], mkH []⟩
def wq78 (k : Nat) {R : Type} (E1004 : ((List Int) → (List Int) → Int → Int → Option R)) (s0 s1 : (List Int)) (s2 s3 : Int) (K : (Bool → Option R)) : Option R := (@cond (@Option R) (@Decidable.decide (@LT.lt Int Int.instLTInt s3 s2) (@Int.decLt s3 s2)) (@cond (@Option R) (@inb s3 (@Nat.cast Int instNatCastInt (@List.length (@Kd.T kI) s0))) (@cond (@Option R) (@inb s3 (@Nat.cast Int instNatCastInt (@List.length (@Kd.T kI) s1))) (@cond (@Option R) (@bne Int (@instBEqOfDecidableEq Int @Int.instDecidableEq) (@List.getD (@Kd.T kI) s0 (@Int.toNat s3) (@Kd.zero kI)) (@List.getD (@Kd.T kI) s1 (@Int.toNat s3) (@Kd.zero kI))) (K Bool.false) (E1004 s0 s1 s2 (@Go.IntKind.wrap Go.IntKind.i64 (@HAdd.hAdd Int Int Int (@instHAdd Int @Int.instAdd) s3 (1 : Int))))) (@Option.none R)) (@Option.none R)) (K Bool.true))
theorem wqe4 (k : Nat) {R : Type} (I : Nat → St → Option R) (s0 s1 : (List Int)) (s2 s3 : Int) (K : (Bool → Option R)) : execK (wqd k) k (at_ [1, 1, 0, 1, 0, 0] wq11) (wq2r s0 s1 s2 s3) (konts (wqd k) k I [1, 1, 0, 1, 0, 0] wq11 (outK (wqd k) wq33 [.tmp 4] (wq2d K))) = wq78 k (fun s0 s1 s2 s3 => I 1004 (wq2r s0 s1 s2 s3)) s0 s1 s2 s3 K := by kernel_rfl
def wq79 (k : Nat) {R : Type} (E1004 : ((List Int) → (List Int) → Int → Int → Option R)) (x0 x1 : (List Int)) (K : (Bool → Option R)) : Option R := (@cond (@Option R) (@bne Int (@instBEqOfDecidableEq Int @Int.instDecidableEq) (@Nat.cast Int instNatCastInt (@List.length (@Kd.T kI) x0)) (@Nat.cast Int instNatCastInt (@List.length (@Kd.T kI) x1))) (K Bool.false) (E1004 x0 x1 (@Nat.cast Int instNatCastInt (@List.length (@Kd.T kI) x0)) (0 : Int)))
theorem wqhf (k : Nat) {R : Type} (I : Nat → St → Option R) (x0 x1 : (List Int)) (K : (Bool → Option R)) : fnK (wqd k) k wq11 26 [.tmp 4] wq33 [.v (.sl (.int .i64)) x0, .v (.sl (.int .i64)) x1] [] (wq2d K) = wq79 k (fun s0 s1 s2 s3 => iter (wqd k).pv (look (wqd k).cuts 1004) (execK (wqd k) k (at_ [1, 1, 0, 1, 0, 0] wq11)) k (wq2r s0 s1 s2 s3) (konts (wqd k) k I [1, 1, 0, 1, 0] wq11 (outK (wqd k) wq33 [.tmp 4] (wq2d K)))) x0 x1 K := by kernel_rfl
def wq1x (k : Nat) {R : Type}  : Nat → (List Int) → (List Int) → Int → Int → (Bool → Option R) → Option R
  | 0, _, _, _, _, _ => none
  | n + 1, s0, s1, s2, s3, K => wq78 k (fun s0 s1 s2 s3 => wq1x k  n s0 s1 s2 s3 K) s0 s1 s2 s3 K
theorem wqe5 (k : Nat) {R : Type} (I : Nat → St → Option R) (K : (Bool → Option R)) : ∀ (n : Nat) (s0 s1 : (List Int)) (s2 s3 : Int), iter (wqd k).pv (look (wqd k).cuts 1004) (execK (wqd k) k (at_ [1, 1, 0, 1, 0, 0] wq11)) n (wq2r s0 s1 s2 s3) (konts (wqd k) k I [1, 1, 0, 1, 0] wq11 (outK (wqd k) wq33 [.tmp 4] (wq2d K))) = wq1x k  n s0 s1 s2 s3 K := by
  intro n
  induction n with
  | zero => intros; rfl
  | succ n ih =>
    intro s0 s1 s2 s3
    let I' : Nat → St → Option R := fun id s => bif Nat.beq id 1004 then iter (wqd k).pv (look (wqd k).cuts 1004) (execK (wqd k) k (at_ [1, 1, 0, 1, 0, 0] wq11)) n s (konts (wqd k) k I [1, 1, 0, 1, 0] wq11 (outK (wqd k) wq33 [.tmp 4] (wq2d K))) else I id s
    have e := wqe4 k I' s0 s1 s2 s3 K
    have h1004 : (fun s0 s1 s2 s3 => I' 1004 (wq2r s0 s1 s2 s3)) = (fun s0 s1 s2 s3 => wq1x k  n s0 s1 s2 s3 K) := by funext s0 s1 s2 s3; exact ih s0 s1 s2 s3
    refine Eq.trans (?_ : _ = _) (e.trans (Eq.trans ((congrArg ((fun E1004 => wq78 k E1004 s0 s1 s2 s3 K)) h1004)) (by rw [wq1x])))
    rfl
def wq5h (k : Nat) {R : Type} (x0 x1 : (List Int)) (K : (Bool → Option R)) : Option R := wq79 k (fun s0 s1 s2 s3 => wq1x k k s0 s1 s2 s3 K) x0 x1 K
theorem wqhg (k : Nat) {R : Type} (x0 x1 : (List Int)) (K : (Bool → Option R)) : fnK (wqd k) k wq11 26 [.tmp 4] wq33 [.v (.sl (.int .i64)) x0, .v (.sl (.int .i64)) x1] [] (wq2d K) = wq5h k x0 x1 K := by
  let I : Nat → St → Option R := fun _ _ => none
  have h1004 : (fun s0 s1 s2 s3 => iter (wqd k).pv (look (wqd k).cuts 1004) (execK (wqd k) k (at_ [1, 1, 0, 1, 0, 0] wq11)) k (wq2r s0 s1 s2 s3) (konts (wqd k) k I [1, 1, 0, 1, 0] wq11 (outK (wqd k) wq33 [.tmp 4] (wq2d K)))) = (fun s0 s1 s2 s3 => wq1x k k s0 s1 s2 s3 K) := by funext s0 s1 s2 s3; exact wqe5 k I K k s0 s1 s2 s3
  exact (wqhf k I x0 x1 K).trans (congrArg ((fun E1004 => wq79 k E1004 x0 x1 K)) h1004)
def wq8w (k : Nat) {R : Type} : List PV → List (Nm × HObj) → (Out → Option R) → Option R
  | [.v (.sl (.int .i64)) x0, .v (.sl (.int .i64)) x1], [], K => wq5h k x0 x1 (fun y0 => K (.ret [.v .bool y0] []))
  | _, _, _ => none
theorem wqhh (k : Nat) : (wqd8 k).Ok Tryd.prog := CTab.nil_ok
theorem wqkp (k : Nat) {ps : List PV} {hp : List (Nm × HObj)} {R : Type} {K : Out → Option R} {r : R} (h : wq8w k ps hp K = some r) : DoesTo Tryd.prog 23 ps hp fun out => K out = some r := by
  unfold wq8w at h
  split at h
  · rw [← wqhg] at h
    have := fn_ok (P := Tryd.prog) (cx := wqd k) (f := 23) ⟨tyT_ok, wqhh k, fun _ _ => rfl⟩ (by kernel_rfl) (fn := Tryd.f23) (c := wq11) (by kernel_rfl) (by kernel_rfl) (by kernel_rfl) (rs := [.tmp 4]) (by kernel_rfl) (by kernel_rfl) h
    exact this.mono fun out ho => by
      unfold wq2d at ho
      split at ho <;> first | exact ho | cases ho
  · cases h
def wqe6 : List LS := [.sl .str, .sl .str]
def wqa7 (k : Nat) : CTab := CTab.nil
def wq1l {R : Type} (K : (Bool → Option R)) : Out → Option R
  | .ret [.v .bool y0] [] => K y0
  | _ => none
def wq26 : RetSpec := ⟨[.any], [], []⟩
def wqdl : List (Nat × CutSpec) := [(1004, ⟨[(0, .sl .str), (1, .sl .str), (12, .any), (13, .any)], []⟩)]
def wqd9 : List (Nat × Plan) := [(6, (.of [(0, 1), (1, 1), (2, 1), (4, 1), (5, 1), (6, 1), (3, 1), (7, 1), (8, 1)] .done))]
def wq8 (k : Nat) : Ctx := ⟨tyT, wqdl, wqa7 k, [], [], wqd9, @SH⟩
def wqp : Code := Tryd.f22.body.getD .skip
def wq1y (s0 s1 : (List (List UInt8))) (s2 s3 : Int) : St := ⟨mkT [(0, .v (.sl .str) s0), (1, .v (.sl .str) s1), (12, .v (.int .i64) s2), (13, .v (.int .i64) s3)], mkH []⟩
def wq54 (k : Nat) {R : Type} (E1004 : ((List (List UInt8)) → (List (List UInt8)) → Int → Int → Option R)) (s0 s1 : (List (List UInt8))) (s2 s3 : Int) (K : (Bool → Option R)) : Option R := (@cond (@Option R) (@Decidable.decide (@LT.lt Int Int.instLTInt s3 s2) (@Int.decLt s3 s2)) (@cond (@Option R) (@inb s3 (@Nat.cast Int instNatCastInt (@List.length (@Kd.T Kd.str) s0))) (@cond (@Option R) (@inb s3 (@Nat.cast Int instNatCastInt (@List.length (@Kd.T Kd.str) s1))) (@cond (@Option R) (@Bool.not (@BEq.beq (@List UInt8) (@List.instBEq UInt8 (@instBEqOfDecidableEq UInt8 @instDecidableEqUInt8)) (@List.getD (@Kd.T Kd.str) s0 (@Int.toNat s3) (@Kd.zero Kd.str)) (@List.getD (@Kd.T Kd.str) s1 (@Int.toNat s3) (@Kd.zero Kd.str)))) (K Bool.false) (E1004 s0 s1 s2 (@Go.IntKind.wrap Go.IntKind.i64 (@HAdd.hAdd Int Int Int (@instHAdd Int @Int.instAdd) s3 (1 : Int))))) (@Option.none R)) (@Option.none R)) (K Bool.true))
theorem wqbk (k : Nat) {R : Type} (I : Nat → St → Option R) (s0 s1 : (List (List UInt8))) (s2 s3 : Int) (K : (Bool → Option R)) : execK (wq8 k) k (at_ [1, 1, 0, 1, 0, 0] wqp) (wq1y s0 s1 s2 s3) (konts (wq8 k) k I [1, 1, 0, 1, 0, 0] wqp (outK (wq8 k) wq26 [.tmp 4] (wq1l K))) = wq54 k (fun s0 s1 s2 s3 => I 1004 (wq1y s0 s1 s2 s3)) s0 s1 s2 s3 K := by kernel_rfl
def wq4s (k : Nat) {R : Type} (E1004 : ((List (List UInt8)) → (List (List UInt8)) → Int → Int → Option R)) (x0 x1 : (List (List UInt8))) (K : (Bool → Option R)) : Option R := (@cond (@Option R) (@bne Int (@instBEqOfDecidableEq Int @Int.instDecidableEq) (@Nat.cast Int instNatCastInt (@List.length (@Kd.T Kd.str) x0)) (@Nat.cast Int instNatCastInt (@List.length (@Kd.T Kd.str) x1))) (K Bool.false) (E1004 x0 x1 (@Nat.cast Int instNatCastInt (@List.length (@Kd.T Kd.str) x0)) (0 : Int)))
theorem wqdm (k : Nat) {R : Type} (I : Nat → St → Option R) (x0 x1 : (List (List UInt8))) (K : (Bool → Option R)) : fnK (wq8 k) k wqp 26 [.tmp 4] wq26 [.v (.sl .str) x0, .v (.sl .str) x1] [] (wq1l K) = wq4s k (fun s0 s1 s2 s3 => iter (wq8 k).pv (look (wq8 k).cuts 1004) (execK (wq8 k) k (at_ [1, 1, 0, 1, 0, 0] wqp)) k (wq1y s0 s1 s2 s3) (konts (wq8 k) k I [1, 1, 0, 1, 0] wqp (outK (wq8 k) wq26 [.tmp 4] (wq1l K)))) x0 x1 K := by kernel_rfl
def wq1a (k : Nat) {R : Type}  : Nat → (List (List UInt8)) → (List (List UInt8)) → Int → Int → (Bool → Option R) → Option R
  | 0, _, _, _, _, _ => none
  | n + 1, s0, s1, s2, s3, K => wq54 k (fun s0 s1 s2 s3 => wq1a k  n s0 s1 s2 s3 K) s0 s1 s2 s3 K
theorem wqbl (k : Nat) {R : Type} (I : Nat → St → Option R) (K : (Bool → Option R)) : ∀ (n : Nat) (s0 s1 : (List (List UInt8))) (s2 s3 : Int), iter (wq8 k).pv (look (wq8 k).cuts 1004) (execK (wq8 k) k (at_ [1, 1, 0, 1, 0, 0] wqp)) n (wq1y s0 s1 s2 s3) (konts (wq8 k) k I [1, 1, 0, 1, 0] wqp (outK (wq8 k) wq26 [.tmp 4] (wq1l K))) = wq1a k  n s0 s1 s2 s3 K := by
  intro n
  induction n with
  | zero => intros; rfl
  | succ n ih =>
    intro s0 s1 s2 s3
    let I' : Nat → St → Option R := fun id s => bif Nat.beq id 1004 then iter (wq8 k).pv (look (wq8 k).cuts 1004) (execK (wq8 k) k (at_ [1, 1, 0, 1, 0, 0] wqp)) n s (konts (wq8 k) k I [1, 1, 0, 1, 0] wqp (outK (wq8 k) wq26 [.tmp 4] (wq1l K))) else I id s
    have e := wqbk k I' s0 s1 s2 s3 K
    have h1004 : (fun s0 s1 s2 s3 => I' 1004 (wq1y s0 s1 s2 s3)) = (fun s0 s1 s2 s3 => wq1a k  n s0 s1 s2 s3 K) := by funext s0 s1 s2 s3; exact ih s0 s1 s2 s3
    refine Eq.trans (?_ : _ = _) (e.trans (Eq.trans ((congrArg ((fun E1004 => wq54 k E1004 s0 s1 s2 s3 K)) h1004)) (by rw [wq1a])))
    rfl
def wq3g (k : Nat) {R : Type} (x0 x1 : (List (List UInt8))) (K : (Bool → Option R)) : Option R := wq4s k (fun s0 s1 s2 s3 => wq1a k k s0 s1 s2 s3 K) x0 x1 K
theorem wqdn (k : Nat) {R : Type} (x0 x1 : (List (List UInt8))) (K : (Bool → Option R)) : fnK (wq8 k) k wqp 26 [.tmp 4] wq26 [.v (.sl .str) x0, .v (.sl .str) x1] [] (wq1l K) = wq3g k x0 x1 K := by
  let I : Nat → St → Option R := fun _ _ => none
  have h1004 : (fun s0 s1 s2 s3 => iter (wq8 k).pv (look (wq8 k).cuts 1004) (execK (wq8 k) k (at_ [1, 1, 0, 1, 0, 0] wqp)) k (wq1y s0 s1 s2 s3) (konts (wq8 k) k I [1, 1, 0, 1, 0] wqp (outK (wq8 k) wq26 [.tmp 4] (wq1l K)))) = (fun s0 s1 s2 s3 => wq1a k k s0 s1 s2 s3 K) := by funext s0 s1 s2 s3; exact wqbl k I K k s0 s1 s2 s3
  exact (wqdm k I x0 x1 K).trans (congrArg ((fun E1004 => wq4s k E1004 x0 x1 K)) h1004)
def wq63 (k : Nat) {R : Type} : List PV → List (Nm × HObj) → (Out → Option R) → Option R
  | [.v (.sl .str) x0, .v (.sl .str) x1], [], K => wq3g k x0 x1 (fun y0 => K (.ret [.v .bool y0] []))
  | _, _, _ => none
theorem wqdo (k : Nat) : (wqa7 k).Ok Tryd.prog := CTab.nil_ok
theorem wqfi (k : Nat) {ps : List PV} {hp : List (Nm × HObj)} {R : Type} {K : Out → Option R} {r : R} (h : wq63 k ps hp K = some r) : DoesTo Tryd.prog 22 ps hp fun out => K out = some r := by
  unfold wq63 at h
  split at h
  · rw [← wqdn] at h
    have := fn_ok (P := Tryd.prog) (cx := wq8 k) (f := 22) ⟨tyT_ok, wqdo k, fun _ _ => rfl⟩ (by kernel_rfl) (fn := Tryd.f22) (c := wqp) (by kernel_rfl) (by kernel_rfl) (by kernel_rfl) (rs := [.tmp 4]) (by kernel_rfl) (by kernel_rfl) h
    exact this.mono fun out ho => by
      unfold wq1l at ho
      split at ho <;> first | exact ho | cases ho
  · cases h
def wqp5 : List LS := [.ag [.any, .any, .any, .any, .sl .str, .sl (.int .i64)], .ag [.any, .any, .any, .any, .sl .str, .sl (.int .i64)]]
def wqv1 (k : Nat) : CTab := (CTab.add 22 wqe6 (wq63 k) (CTab.add 23 wqis (wq8w k) CTab.nil))
def wqgq {R : Type} (K : (Bool → Option R)) : Out → Option R
  | .ret [.v .bool y0] [] => K y0
  | _ => none
def wqsb : RetSpec := ⟨[.any], [], []⟩
def wqyo : List (Nat × CutSpec) := []
def wqvv : List (Nat × Plan) := []
def wqkq (k : Nat) : Ctx := ⟨tyT, wqyo, wqv1 k, [], [], wqvv, @SH⟩
def wqgr : Code := Tryd.f21.body.getD .skip
def wqmw (k : Nat) {R : Type}  (x0 x1 : Int) (x2 : (List UInt8)) (x3 : Bool) (x4 : (List (List UInt8))) (x5 : (List Int)) (x6 x7 : Int) (x8 : (List UInt8)) (x9 : Bool) (x10 : (List (List UInt8))) (x11 : (List Int)) (K : (Bool → Option R)) : Option R := (@cond (@Option R) (@BEq.beq (@Kd.T Kd.bool) (@instBEqOfDecidableEq (@Kd.T Kd.bool) @instDecidableEqBool) (@cond (@Kd.T Kd.bool) (@cond (@Kd.T Kd.bool) (@BEq.beq Int (@instBEqOfDecidableEq Int @Int.instDecidableEq) x0 x6) (@BEq.beq (@List UInt8) (@List.instBEq UInt8 (@instBEqOfDecidableEq UInt8 @instDecidableEqUInt8)) x2 x8) Bool.false) (@BEq.beq (@Kd.T Kd.bool) (@instBEqOfDecidableEq (@Kd.T Kd.bool) @instDecidableEqBool) x3 x9) Bool.false) Bool.true) (@wq3g k R x4 x10 (fun y15 => (@cond (@Option R) (@BEq.beq (@Kd.T Kd.bool) (@instBEqOfDecidableEq (@Kd.T Kd.bool) @instDecidableEqBool) y15 Bool.true) (@wq5h k R x5 x11 (fun y16 => (K y16))) (K Bool.false)))) (K Bool.false))
theorem wqyp (k : Nat) {R : Type} (I : Nat → St → Option R) (x0 x1 : Int) (x2 : (List UInt8)) (x3 : Bool) (x4 : (List (List UInt8))) (x5 : (List Int)) (x6 x7 : Int) (x8 : (List UInt8)) (x9 : Bool) (x10 : (List (List UInt8))) (x11 : (List Int)) (K : (Bool → Option R)) : fnK (wqkq k) k wqgr 38 [.tmp 4] wqsb [.agg [.v (.int .i64) x0, .v (.int .i64) x1, .v .str x2, .v .bool x3, .v (.sl .str) x4, .v (.sl (.int .i64)) x5], .agg [.v (.int .i64) x6, .v (.int .i64) x7, .v .str x8, .v .bool x9, .v (.sl .str) x10, .v (.sl (.int .i64)) x11]] [] (wqgq K) = wqmw k  x0 x1 x2 x3 x4 x5 x6 x7 x8 x9 x10 x11 K := by kernel_rfl
def wqf1 (k : Nat) {R : Type} (x0 x1 : Int) (x2 : (List UInt8)) (x3 : Bool) (x4 : (List (List UInt8))) (x5 : (List Int)) (x6 x7 : Int) (x8 : (List UInt8)) (x9 : Bool) (x10 : (List (List UInt8))) (x11 : (List Int)) (K : (Bool → Option R)) : Option R := wqmw k  x0 x1 x2 x3 x4 x5 x6 x7 x8 x9 x10 x11 K
theorem wqyq (k : Nat) {R : Type} (x0 x1 : Int) (x2 : (List UInt8)) (x3 : Bool) (x4 : (List (List UInt8))) (x5 : (List Int)) (x6 x7 : Int) (x8 : (List UInt8)) (x9 : Bool) (x10 : (List (List UInt8))) (x11 : (List Int)) (K : (Bool → Option R)) : fnK (wqkq k) k wqgr 38 [.tmp 4] wqsb [.agg [.v (.int .i64) x0, .v (.int .i64) x1, .v .str x2, .v .bool x3, .v (.sl .str) x4, .v (.sl (.int .i64)) x5], .agg [.v (.int .i64) x6, .v (.int .i64) x7, .v .str x8, .v .bool x9, .v (.sl .str) x10, .v (.sl (.int .i64)) x11]] [] (wqgq K) = wqf1 k x0 x1 x2 x3 x4 x5 x6 x7 x8 x9 x10 x11 K := by
  exact wqyp k (fun _ _ => none) x0 x1 x2 x3 x4 x5 x6 x7 x8 x9 x10 x11 K
def wqes (k : Nat) {R : Type} : List PV → List (Nm × HObj) → (Out → Option R) → Option R
  | [.agg [.v (.int .i64) x0, .v (.int .i64) x1, .v .str x2, .v .bool x3, .v (.sl .str) x4, .v (.sl (.int .i64)) x5], .agg [.v (.int .i64) x6, .v (.int .i64) x7, .v .str x8, .v .bool x9, .v (.sl .str) x10, .v (.sl (.int .i64)) x11]], [], K => wqf1 k x0 x1 x2 x3 x4 x5 x6 x7 x8 x9 x10 x11 (fun y0 => K (.ret [.v .bool y0] []))
  | _, _, _ => none
theorem wqyr (k : Nat) : (wqv1 k).Ok Tryd.prog := (CTab.add_ok (fun h => wqfi k h) (CTab.add_ok (fun h => wqkp k h) CTab.nil_ok))
theorem wqv2 (k : Nat) {ps : List PV} {hp : List (Nm × HObj)} {R : Type} {K : Out → Option R} {r : R} (h : wqes k ps hp K = some r) : DoesTo Tryd.prog 21 ps hp fun out => K out = some r := by
  unfold wqes at h
  split at h
  · rw [← wqyq] at h
    have := fn_ok (P := Tryd.prog) (cx := wqkq k) (f := 21) ⟨tyT_ok, wqyr k, fun _ _ => rfl⟩ (by kernel_rfl) (fn := Tryd.f21) (c := wqgr) (by kernel_rfl) (by kernel_rfl) (by kernel_rfl) (rs := [.tmp 4]) (by kernel_rfl) (by kernel_rfl) h
    exact this.mono fun out ho => by
      unfold wqgq at ho
      split at ho <;> first | exact ho | cases ho
  · cases h
def wq64 : List LS := [.sl (.pr (.int .i64) (.pr (.int .i64) (.pr .str (.pr .bool (.pr (.sl .str) (.sl (.int .i64))))))), .sl (.pr (.int .i64) (.pr (.int .i64) (.pr .str (.pr .bool (.pr (.sl .str) (.sl (.int .i64))))))), .clo []]
def wq3b (k : Nat) : CTab := (CTab.add 21 wqp5 (wqes k) CTab.nil)
def wqf {R : Type} (K : (Bool → Option R)) : Out → Option R
  | .ret [.v .bool y0] [] => K y0
  | _ => none
def wql : RetSpec := ⟨[.any], [], []⟩
def wq5y : List (Nat × CutSpec) := [(1004, ⟨[(1, .sl (.pr (.int .i64) (.pr (.int .i64) (.pr .str (.pr .bool (.pr (.sl .str) (.sl (.int .i64)))))))), (2, .clo []), (15, .sl (.pr (.int .i64) (.pr (.int .i64) (.pr .str (.pr .bool (.pr (.sl .str) (.sl (.int .i64)))))))), (16, .any), (17, .any)], []⟩)]
def wq5r : List (Nat × Plan) := []
def wq1 (k : Nat) : Ctx := ⟨tyT, wq5y, wq3b k, [], [], wq5r, @SH⟩
def wq7 : Code := Tryd.f20.body.getD .skip
def wqo (s0 : (List (Int × (Int × ((List UInt8) × (Bool × ((List (List UInt8)) × (List Int)))))))) (s1 : (List (Int × (Int × ((List UInt8) × (Bool × ((List (List UInt8)) × (List Int)))))))) (s2 s3 : Int) : St := ⟨mkT [(1, .v (.sl (.pr (.int .i64) (.pr (.int .i64) (.pr .str (.pr .bool (.pr (.sl .str) (.sl (.int .i64)))))))) s0), (2, .clo 21 []), (15, .v (.sl (.pr (.int .i64) (.pr (.int .i64) (.pr .str (.pr .bool (.pr (.sl .str) (.sl (.int .i64)))))))) s1), (16, .v (.int .i64) s2), (17, .v (.int .i64) s3)], mkH []⟩
def wqw (k : Nat) {R : Type} (E1004 : ((List (Int × (Int × ((List UInt8) × (Bool × ((List (List UInt8)) × (List Int))))))) → (List (Int × (Int × ((List UInt8) × (Bool × ((List (List UInt8)) × (List Int))))))) → Int → Int → Option R)) (s0 : (List (Int × (Int × ((List UInt8) × (Bool × ((List (List UInt8)) × (List Int)))))))) (s1 : (List (Int × (Int × ((List UInt8) × (Bool × ((List (List UInt8)) × (List Int)))))))) (s2 s3 : Int) (K : (Bool → Option R)) : Option R := (@cond (@Option R) (@Decidable.decide (@LT.lt Int Int.instLTInt s3 s2) (@Int.decLt s3 s2)) (@cond (@Option R) (@inb s3 (@Nat.cast Int instNatCastInt (@List.length (@Kd.T (@Kd.pr kI (@Kd.pr kI (@Kd.pr Kd.str (@Kd.pr Kd.bool (@Kd.pr (@Kd.sl Kd.str) (@Kd.sl kI))))))) s1))) (@cond (@Option R) (@inb s3 (@Nat.cast Int instNatCastInt (@List.length (@Kd.T (@Kd.pr kI (@Kd.pr kI (@Kd.pr Kd.str (@Kd.pr Kd.bool (@Kd.pr (@Kd.sl Kd.str) (@Kd.sl kI))))))) s0))) (@wqf1 k R (@List.getD (@Kd.T (@Kd.pr kI (@Kd.pr kI (@Kd.pr Kd.str (@Kd.pr Kd.bool (@Kd.pr (@Kd.sl Kd.str) (@Kd.sl kI))))))) s1 (@Int.toNat s3) (@Kd.zero (@Kd.pr kI (@Kd.pr kI (@Kd.pr Kd.str (@Kd.pr Kd.bool (@Kd.pr (@Kd.sl Kd.str) (@Kd.sl kI)))))))).1 (@List.getD (@Kd.T (@Kd.pr kI (@Kd.pr kI (@Kd.pr Kd.str (@Kd.pr Kd.bool (@Kd.pr (@Kd.sl Kd.str) (@Kd.sl kI))))))) s1 (@Int.toNat s3) (@Kd.zero (@Kd.pr kI (@Kd.pr kI (@Kd.pr Kd.str (@Kd.pr Kd.bool (@Kd.pr (@Kd.sl Kd.str) (@Kd.sl kI)))))))).2.1 (@List.getD (@Kd.T (@Kd.pr kI (@Kd.pr kI (@Kd.pr Kd.str (@Kd.pr Kd.bool (@Kd.pr (@Kd.sl Kd.str) (@Kd.sl kI))))))) s1 (@Int.toNat s3) (@Kd.zero (@Kd.pr kI (@Kd.pr kI (@Kd.pr Kd.str (@Kd.pr Kd.bool (@Kd.pr (@Kd.sl Kd.str) (@Kd.sl kI)))))))).2.2.1 (@List.getD (@Kd.T (@Kd.pr kI (@Kd.pr kI (@Kd.pr Kd.str (@Kd.pr Kd.bool (@Kd.pr (@Kd.sl Kd.str) (@Kd.sl kI))))))) s1 (@Int.toNat s3) (@Kd.zero (@Kd.pr kI (@Kd.pr kI (@Kd.pr Kd.str (@Kd.pr Kd.bool (@Kd.pr (@Kd.sl Kd.str) (@Kd.sl kI)))))))).2.2.2.1 (@List.getD (@Kd.T (@Kd.pr kI (@Kd.pr kI (@Kd.pr Kd.str (@Kd.pr Kd.bool (@Kd.pr (@Kd.sl Kd.str) (@Kd.sl kI))))))) s1 (@Int.toNat s3) (@Kd.zero (@Kd.pr kI (@Kd.pr kI (@Kd.pr Kd.str (@Kd.pr Kd.bool (@Kd.pr (@Kd.sl Kd.str) (@Kd.sl kI)))))))).2.2.2.2.1 (@List.getD (@Kd.T (@Kd.pr kI (@Kd.pr kI (@Kd.pr Kd.str (@Kd.pr Kd.bool (@Kd.pr (@Kd.sl Kd.str) (@Kd.sl kI))))))) s1 (@Int.toNat s3) (@Kd.zero (@Kd.pr kI (@Kd.pr kI (@Kd.pr Kd.str (@Kd.pr Kd.bool (@Kd.pr (@Kd.sl Kd.str) (@Kd.sl kI)))))))).2.2.2.2.2 (@List.getD (@Kd.T (@Kd.pr kI (@Kd.pr kI (@Kd.pr Kd.str (@Kd.pr Kd.bool (@Kd.pr (@Kd.sl Kd.str) (@Kd.sl kI))))))) s0 (@Int.toNat s3) (@Kd.zero (@Kd.pr kI (@Kd.pr kI (@Kd.pr Kd.str (@Kd.pr Kd.bool (@Kd.pr (@Kd.sl Kd.str) (@Kd.sl kI)))))))).1 (@List.getD (@Kd.T (@Kd.pr kI (@Kd.pr kI (@Kd.pr Kd.str (@Kd.pr Kd.bool (@Kd.pr (@Kd.sl Kd.str) (@Kd.sl kI))))))) s0 (@Int.toNat s3) (@Kd.zero (@Kd.pr kI (@Kd.pr kI (@Kd.pr Kd.str (@Kd.pr Kd.bool (@Kd.pr (@Kd.sl Kd.str) (@Kd.sl kI)))))))).2.1 (@List.getD (@Kd.T (@Kd.pr kI (@Kd.pr kI (@Kd.pr Kd.str (@Kd.pr Kd.bool (@Kd.pr (@Kd.sl Kd.str) (@Kd.sl kI))))))) s0 (@Int.toNat s3) (@Kd.zero (@Kd.pr kI (@Kd.pr kI (@Kd.pr Kd.str (@Kd.pr Kd.bool (@Kd.pr (@Kd.sl Kd.str) (@Kd.sl kI)))))))).2.2.1 (@List.getD (@Kd.T (@Kd.pr kI (@Kd.pr kI (@Kd.pr Kd.str (@Kd.pr Kd.bool (@Kd.pr (@Kd.sl Kd.str) (@Kd.sl kI))))))) s0 (@Int.toNat s3) (@Kd.zero (@Kd.pr kI (@Kd.pr kI (@Kd.pr Kd.str (@Kd.pr Kd.bool (@Kd.pr (@Kd.sl Kd.str) (@Kd.sl kI)))))))).2.2.2.1 (@List.getD (@Kd.T (@Kd.pr kI (@Kd.pr kI (@Kd.pr Kd.str (@Kd.pr Kd.bool (@Kd.pr (@Kd.sl Kd.str) (@Kd.sl kI))))))) s0 (@Int.toNat s3) (@Kd.zero (@Kd.pr kI (@Kd.pr kI (@Kd.pr Kd.str (@Kd.pr Kd.bool (@Kd.pr (@Kd.sl Kd.str) (@Kd.sl kI)))))))).2.2.2.2.1 (@List.getD (@Kd.T (@Kd.pr kI (@Kd.pr kI (@Kd.pr Kd.str (@Kd.pr Kd.bool (@Kd.pr (@Kd.sl Kd.str) (@Kd.sl kI))))))) s0 (@Int.toNat s3) (@Kd.zero (@Kd.pr kI (@Kd.pr kI (@Kd.pr Kd.str (@Kd.pr Kd.bool (@Kd.pr (@Kd.sl Kd.str) (@Kd.sl kI)))))))).2.2.2.2.2 (fun y8 => (@cond (@Option R) (@Bool.not y8) (K Bool.false) (E1004 s0 s1 s2 (@Go.IntKind.wrap Go.IntKind.i64 (@HAdd.hAdd Int Int Int (@instHAdd Int @Int.instAdd) s3 (1 : Int))))))) (@Option.none R)) (@Option.none R)) (K Bool.true))
theorem wq55 (k : Nat) {R : Type} (I : Nat → St → Option R) (s0 : (List (Int × (Int × ((List UInt8) × (Bool × ((List (List UInt8)) × (List Int)))))))) (s1 : (List (Int × (Int × ((List UInt8) × (Bool × ((List (List UInt8)) × (List Int)))))))) (s2 s3 : Int) (K : (Bool → Option R)) : execK (wq1 k) k (at_ [1, 1, 0, 1, 0, 0] wq7) (wqo s0 s1 s2 s3) (konts (wq1 k) k I [1, 1, 0, 1, 0, 0] wq7 (outK (wq1 k) wql [.tmp 6] (wqf K))) = wqw k (fun s0 s1 s2 s3 => I 1004 (wqo s0 s1 s2 s3)) s0 s1 s2 s3 K := by kernel_rfl
def wq1e (k : Nat) {R : Type} (E1004 : ((List (Int × (Int × ((List UInt8) × (Bool × ((List (List UInt8)) × (List Int))))))) → (List (Int × (Int × ((List UInt8) × (Bool × ((List (List UInt8)) × (List Int))))))) → Int → Int → Option R)) (x0 : (List (Int × (Int × ((List UInt8) × (Bool × ((List (List UInt8)) × (List Int)))))))) (x1 : (List (Int × (Int × ((List UInt8) × (Bool × ((List (List UInt8)) × (List Int)))))))) (K : (Bool → Option R)) : Option R := (@cond (@Option R) (@bne Int (@instBEqOfDecidableEq Int @Int.instDecidableEq) (@Nat.cast Int instNatCastInt (@List.length (@Kd.T (@Kd.pr kI (@Kd.pr kI (@Kd.pr Kd.str (@Kd.pr Kd.bool (@Kd.pr (@Kd.sl Kd.str) (@Kd.sl kI))))))) x0)) (@Nat.cast Int instNatCastInt (@List.length (@Kd.T (@Kd.pr kI (@Kd.pr kI (@Kd.pr Kd.str (@Kd.pr Kd.bool (@Kd.pr (@Kd.sl Kd.str) (@Kd.sl kI))))))) x1))) (K Bool.false) (E1004 x1 x0 (@Nat.cast Int instNatCastInt (@List.length (@Kd.T (@Kd.pr kI (@Kd.pr kI (@Kd.pr Kd.str (@Kd.pr Kd.bool (@Kd.pr (@Kd.sl Kd.str) (@Kd.sl kI))))))) x0)) (0 : Int)))
theorem wq5z (k : Nat) {R : Type} (I : Nat → St → Option R) (x0 : (List (Int × (Int × ((List UInt8) × (Bool × ((List (List UInt8)) × (List Int)))))))) (x1 : (List (Int × (Int × ((List UInt8) × (Bool × ((List (List UInt8)) × (List Int)))))))) (K : (Bool → Option R)) : fnK (wq1 k) k wq7 32 [.tmp 6] wql [.v (.sl (.pr (.int .i64) (.pr (.int .i64) (.pr .str (.pr .bool (.pr (.sl .str) (.sl (.int .i64)))))))) x0, .v (.sl (.pr (.int .i64) (.pr (.int .i64) (.pr .str (.pr .bool (.pr (.sl .str) (.sl (.int .i64)))))))) x1, .clo 21 []] [] (wqf K) = wq1e k (fun s0 s1 s2 s3 => iter (wq1 k).pv (look (wq1 k).cuts 1004) (execK (wq1 k) k (at_ [1, 1, 0, 1, 0, 0] wq7)) k (wqo s0 s1 s2 s3) (konts (wq1 k) k I [1, 1, 0, 1, 0] wq7 (outK (wq1 k) wql [.tmp 6] (wqf K)))) x0 x1 K := by kernel_rfl
def wqc (k : Nat) {R : Type}  : Nat → (List (Int × (Int × ((List UInt8) × (Bool × ((List (List UInt8)) × (List Int))))))) → (List (Int × (Int × ((List UInt8) × (Bool × ((List (List UInt8)) × (List Int))))))) → Int → Int → (Bool → Option R) → Option R
  | 0, _, _, _, _, _ => none
  | n + 1, s0, s1, s2, s3, K => wqw k (fun s0 s1 s2 s3 => wqc k  n s0 s1 s2 s3 K) s0 s1 s2 s3 K
theorem wq56 (k : Nat) {R : Type} (I : Nat → St → Option R) (K : (Bool → Option R)) : ∀ (n : Nat) (s0 : (List (Int × (Int × ((List UInt8) × (Bool × ((List (List UInt8)) × (List Int)))))))) (s1 : (List (Int × (Int × ((List UInt8) × (Bool × ((List (List UInt8)) × (List Int)))))))) (s2 s3 : Int), iter (wq1 k).pv (look (wq1 k).cuts 1004) (execK (wq1 k) k (at_ [1, 1, 0, 1, 0, 0] wq7)) n (wqo s0 s1 s2 s3) (konts (wq1 k) k I [1, 1, 0, 1, 0] wq7 (outK (wq1 k) wql [.tmp 6] (wqf K))) = wqc k  n s0 s1 s2 s3 K := by
  intro n
  induction n with
  | zero => intros; rfl
  | succ n ih =>
    intro s0 s1 s2 s3
    let I' : Nat → St → Option R := fun id s => bif Nat.beq id 1004 then iter (wq1 k).pv (look (wq1 k).cuts 1004) (execK (wq1 k) k (at_ [1, 1, 0, 1, 0, 0] wq7)) n s (konts (wq1 k) k I [1, 1, 0, 1, 0] wq7 (outK (wq1 k) wql [.tmp 6] (wqf K))) else I id s
    have e := wq55 k I' s0 s1 s2 s3 K
    have h1004 : (fun s0 s1 s2 s3 => I' 1004 (wqo s0 s1 s2 s3)) = (fun s0 s1 s2 s3 => wqc k  n s0 s1 s2 s3 K) := by funext s0 s1 s2 s3; exact ih s0 s1 s2 s3
    refine Eq.trans (?_ : _ = _) (e.trans (Eq.trans ((congrArg ((fun E1004 => wqw k E1004 s0 s1 s2 s3 K)) h1004)) (by rw [wqc])))
    rfl
def wq1f (k : Nat) {R : Type} (x0 : (List (Int × (Int × ((List UInt8) × (Bool × ((List (List UInt8)) × (List Int)))))))) (x1 : (List (Int × (Int × ((List UInt8) × (Bool × ((List (List UInt8)) × (List Int)))))))) (K : (Bool → Option R)) : Option R := wq1e k (fun s0 s1 s2 s3 => wqc k k s0 s1 s2 s3 K) x0 x1 K
theorem wq60 (k : Nat) {R : Type} (x0 : (List (Int × (Int × ((List UInt8) × (Bool × ((List (List UInt8)) × (List Int)))))))) (x1 : (List (Int × (Int × ((List UInt8) × (Bool × ((List (List UInt8)) × (List Int)))))))) (K : (Bool → Option R)) : fnK (wq1 k) k wq7 32 [.tmp 6] wql [.v (.sl (.pr (.int .i64) (.pr (.int .i64) (.pr .str (.pr .bool (.pr (.sl .str) (.sl (.int .i64)))))))) x0, .v (.sl (.pr (.int .i64) (.pr (.int .i64) (.pr .str (.pr .bool (.pr (.sl .str) (.sl (.int .i64)))))))) x1, .clo 21 []] [] (wqf K) = wq1f k x0 x1 K := by
  let I : Nat → St → Option R := fun _ _ => none
  have h1004 : (fun s0 s1 s2 s3 => iter (wq1 k).pv (look (wq1 k).cuts 1004) (execK (wq1 k) k (at_ [1, 1, 0, 1, 0, 0] wq7)) k (wqo s0 s1 s2 s3) (konts (wq1 k) k I [1, 1, 0, 1, 0] wq7 (outK (wq1 k) wql [.tmp 6] (wqf K)))) = (fun s0 s1 s2 s3 => wqc k k s0 s1 s2 s3 K) := by funext s0 s1 s2 s3; exact wq56 k I K k s0 s1 s2 s3
  exact (wq5z k I x0 x1 K).trans (congrArg ((fun E1004 => wq1e k E1004 x0 x1 K)) h1004)
def wq1z (k : Nat) {R : Type} : List PV → List (Nm × HObj) → (Out → Option R) → Option R
  | [.v (.sl (.pr (.int .i64) (.pr (.int .i64) (.pr .str (.pr .bool (.pr (.sl .str) (.sl (.int .i64)))))))) x0, .v (.sl (.pr (.int .i64) (.pr (.int .i64) (.pr .str (.pr .bool (.pr (.sl .str) (.sl (.int .i64)))))))) x1, .clo 21 []], [], K => wq1f k x0 x1 (fun y0 => K (.ret [.v .bool y0] []))
  | _, _, _ => none
theorem wq61 (k : Nat) : (wq3b k).Ok Tryd.prog := (CTab.add_ok (fun h => wqv2 k h) CTab.nil_ok)
theorem wq6j (k : Nat) {ps : List PV} {hp : List (Nm × HObj)} {R : Type} {K : Out → Option R} {r : R} (h : wq1z k ps hp K = some r) : DoesTo Tryd.prog 20 ps hp fun out => K out = some r := by
  unfold wq1z at h
  split at h
  · rw [← wq60] at h
    have := fn_ok (P := Tryd.prog) (cx := wq1 k) (f := 20) ⟨tyT_ok, wq61 k, fun _ _ => rfl⟩ (by kernel_rfl) (fn := Tryd.f20) (c := wq7) (by kernel_rfl) (by kernel_rfl) (by kernel_rfl) (rs := [.tmp 6]) (by kernel_rfl) (by kernel_rfl) h
    exact this.mono fun out ho => by
      unfold wqf at ho
      split at ho <;> first | exact ho | cases ho
  · cases h
def wqv3 : List LS := [.ag [.sl (.pr (.int .i64) (.pr (.int .i64) (.pr .str (.pr .bool (.pr (.sl .str) (.sl (.int .i64)))))))], .ag [.sl (.pr (.int .i64) (.pr (.int .i64) (.pr .str (.pr .bool (.pr (.sl .str) (.sl (.int .i64)))))))]]
def wq13h (k : Nat) : CTab := (CTab.add 20 wq64 (wq1z k) (CTab.add 21 wqp5 (wqes k) CTab.nil))
def wqkr {R : Type} (K : (Bool → Option R)) : Out → Option R
  | .ret [.v .bool y0] [] => K y0
  | _ => none
def wqys : RetSpec := ⟨[.any], [], []⟩
def wq14z : List (Nat × CutSpec) := []
def wq11i : List (Nat × Plan) := []
def wqqn (k : Nat) : Ctx := ⟨tyT, wq14z, wq13h k, [], [], wq11i, @SH⟩
def wqks : Code := Tryd.f12.body.getD .skip
def wqu6 (k : Nat) {R : Type}  (x0 : (List (Int × (Int × ((List UInt8) × (Bool × ((List (List UInt8)) × (List Int)))))))) (x1 : (List (Int × (Int × ((List UInt8) × (Bool × ((List (List UInt8)) × (List Int)))))))) (K : (Bool → Option R)) : Option R := (@wq1f k R x0 x1 (fun y5 => (K y5)))
theorem wq150 (k : Nat) {R : Type} (I : Nat → St → Option R) (x0 : (List (Int × (Int × ((List UInt8) × (Bool × ((List (List UInt8)) × (List Int)))))))) (x1 : (List (Int × (Int × ((List UInt8) × (Bool × ((List (List UInt8)) × (List Int)))))))) (K : (Bool → Option R)) : fnK (wqqn k) k wqks 10 [.tmp 4] wqys [.agg [.v (.sl (.pr (.int .i64) (.pr (.int .i64) (.pr .str (.pr .bool (.pr (.sl .str) (.sl (.int .i64)))))))) x0], .agg [.v (.sl (.pr (.int .i64) (.pr (.int .i64) (.pr .str (.pr .bool (.pr (.sl .str) (.sl (.int .i64)))))))) x1]] [] (wqkr K) = wqu6 k  x0 x1 K := by kernel_rfl
def wq8c (k : Nat) {R : Type} (x0 : (List (Int × (Int × ((List UInt8) × (Bool × ((List (List UInt8)) × (List Int)))))))) (x1 : (List (Int × (Int × ((List UInt8) × (Bool × ((List (List UInt8)) × (List Int)))))))) (K : (Bool → Option R)) : Option R := wqu6 k  x0 x1 K
theorem wq151 (k : Nat) {R : Type} (x0 : (List (Int × (Int × ((List UInt8) × (Bool × ((List (List UInt8)) × (List Int)))))))) (x1 : (List (Int × (Int × ((List UInt8) × (Bool × ((List (List UInt8)) × (List Int)))))))) (K : (Bool → Option R)) : fnK (wqqn k) k wqks 10 [.tmp 4] wqys [.agg [.v (.sl (.pr (.int .i64) (.pr (.int .i64) (.pr .str (.pr .bool (.pr (.sl .str) (.sl (.int .i64)))))))) x0], .agg [.v (.sl (.pr (.int .i64) (.pr (.int .i64) (.pr .str (.pr .bool (.pr (.sl .str) (.sl (.int .i64)))))))) x1]] [] (wqkr K) = wq8c k x0 x1 K := by
  exact wq150 k (fun _ _ => none) x0 x1 K
def wqi3 (k : Nat) {R : Type} : List PV → List (Nm × HObj) → (Out → Option R) → Option R
  | [.agg [.v (.sl (.pr (.int .i64) (.pr (.int .i64) (.pr .str (.pr .bool (.pr (.sl .str) (.sl (.int .i64)))))))) x0], .agg [.v (.sl (.pr (.int .i64) (.pr (.int .i64) (.pr .str (.pr .bool (.pr (.sl .str) (.sl (.int .i64)))))))) x1]], [], K => wq8c k x0 x1 (fun y0 => K (.ret [.v .bool y0] []))
  | _, _, _ => none
theorem wq152 (k : Nat) : (wq13h k).Ok Tryd.prog := (CTab.add_ok (fun h => wq6j k h) (CTab.add_ok (fun h => wqv2 k h) CTab.nil_ok))
theorem wq13i (k : Nat) {ps : List PV} {hp : List (Nm × HObj)} {R : Type} {K : Out → Option R} {r : R} (h : wqi3 k ps hp K = some r) : DoesTo Tryd.prog 12 ps hp fun out => K out = some r := by
  unfold wqi3 at h
  split at h
  · rw [← wq151] at h
    have := fn_ok (P := Tryd.prog) (cx := wqqn k) (f := 12) ⟨tyT_ok, wq152 k, fun _ _ => rfl⟩ (by kernel_rfl) (fn := Tryd.f12) (c := wqks) (by kernel_rfl) (by kernel_rfl) (by kernel_rfl) (rs := [.tmp 4]) (by kernel_rfl) (by kernel_rfl) h
    exact this.mono fun out ho => by
      unfold wqkr at ho
      split at ho <;> first | exact ho | cases ho
  · cases h
def wqf2 : List LS := [.obj 1 [.nps 1 0, .own 21 5 (.int .u8)], .any]
def wqam (k : Nat) : CTab := (CTab.add 33 wqal (wq53 k) CTab.nil)
def wq65 {R : Type} (K : ((List Int) → Int → Option R)) : Out → Option R
  | .ret [.v (.int .i64) y1, .nilif] [(21, .row 5 (.int .u8) y0), (1, .var 42 [.nps 1 0, .row 21])] => K y0 y1
  | _ => none
def wqa8 : RetSpec := ⟨[.any, .any], [(1, .obj 1 [.nps 1 0, .own 21 5 (.int .u8)])], []⟩
def wqe7 : List (Nat × CutSpec) := []
def wqdp : List (Nat × Plan) := []
def wq73 (k : Nat) : Ctx := ⟨tyT, wqe7, wqam k, [], [1], wqdp, @SH⟩
def wq66 : Code := Tryd.f25.body.getD .skip
def wq7a (k : Nat) {R : Type}  (x0 : (List Int)) (x1 : (List UInt8)) (K : ((List Int) → Int → Option R)) : Option R := (@wq4h k R x0 (fun y5 => (@cond (@Option R) (@fits (@List.length (@Kd.T (@Kd.int Go.IntKind.u8)) y5) (@List.length (@Kd.T (@Kd.int Go.IntKind.u8)) (@wqs x1)) (1 : Nat)) (K (@HAppend.hAppend (@Kd.T (@Kd.sl (@Kd.int Go.IntKind.u8))) (@List (@Kd.T (@Kd.int Go.IntKind.u8))) (@Kd.T (@Kd.sl (@Kd.int Go.IntKind.u8))) (@instHAppendOfAppend (@Kd.T (@Kd.sl (@Kd.int Go.IntKind.u8))) (@List.instAppend (@Kd.T (@Kd.int Go.IntKind.u8)))) y5 (@wqs x1)) (@Nat.cast Int instNatCastInt (@List.length UInt8 x1))) (@Option.none R))))
theorem wqe8 (k : Nat) {R : Type} (I : Nat → St → Option R) (x0 : (List Int)) (x1 : (List UInt8)) (K : ((List Int) → Int → Option R)) : fnK (wq73 k) k wq66 19 [.tmp 4, .tmp 5] wqa8 [.ptr 1 0, .v .str x1] [(21, .row 5 (.int .u8) x0), (1, .var 42 [.nps 1 0, .row 21])] (wq65 K) = wq7a k  x0 x1 K := by kernel_rfl
def wq1n (k : Nat) {R : Type} (x0 : (List Int)) (x1 : (List UInt8)) (K : ((List Int) → Int → Option R)) : Option R := wq7a k  x0 x1 K
theorem wqe9 (k : Nat) {R : Type} (x0 : (List Int)) (x1 : (List UInt8)) (K : ((List Int) → Int → Option R)) : fnK (wq73 k) k wq66 19 [.tmp 4, .tmp 5] wqa8 [.ptr 1 0, .v .str x1] [(21, .row 5 (.int .u8) x0), (1, .var 42 [.nps 1 0, .row 21])] (wq65 K) = wq1n k x0 x1 K := by
  exact wqe8 k (fun _ _ => none) x0 x1 K
def wq6k (k : Nat) {R : Type} : List PV → List (Nm × HObj) → (Out → Option R) → Option R
  | [.ptr 1 0, .v .str x1], [(21, .row 5 (.int .u8) x0), (1, .var 42 [.nps 1 0, .row 21])], K => wq1n k x0 x1 (fun y0 y1 => K (.ret [.v (.int .i64) y1, .nilif] [(21, .row 5 (.int .u8) y0), (1, .var 42 [.nps 1 0, .row 21])]))
  | _, _, _ => none
theorem wqea (k : Nat) : (wqam k).Ok Tryd.prog := (CTab.add_ok (fun h => wqbg k h) CTab.nil_ok)
theorem wqfw (k : Nat) {ps : List PV} {hp : List (Nm × HObj)} {R : Type} {K : Out → Option R} {r : R} (h : wq6k k ps hp K = some r) : DoesTo Tryd.prog 25 ps hp fun out => K out = some r := by
  unfold wq6k at h
  split at h
  · rw [← wqe9] at h
    have := fn_ok (P := Tryd.prog) (cx := wq73 k) (f := 25) ⟨tyT_ok, wqea k, fun _ _ => rfl⟩ (by kernel_rfl) (fn := Tryd.f25) (c := wq66) (by kernel_rfl) (by kernel_rfl) (by kernel_rfl) (rs := [.tmp 4, .tmp 5]) (by kernel_rfl) (by kernel_rfl) h
    exact this.mono fun out ho => by
      unfold wq65 at ho
      split at ho <;> first | exact ho | cases ho
  · cases h
def wq153 : List LS := [.any]
def wqyt (k : Nat) : CTab := (CTab.add 16 wq8u (wq4p k) (CTab.add 25 wqf2 (wq6k k) (CTab.add 32 wq77 (wq3w k) CTab.nil)))
def wq7h {R : Type} (K : ((List UInt8) → Option R)) : Out → Option R
  | .ret [.v .str y0] [] => K y0
  | _ => none
def wqb2 : RetSpec := ⟨[.any], [], []⟩
def wq11j : List (Nat × CutSpec) := [(1004, ⟨[(0, .any), (3, .obj 13 [.nps 13 0, .own 33 5 (.int .u8)]), (8, .any), (9, .any)], []⟩)]
def wqyu : List (Nat × Plan) := [(15, (.of [(0, 1), (1, 1), (2, 1), (3, 1), (4, 1), (5, 1), (6, 1), (7, 1), (8, 1), (9, 1), (10, 1), (11, 1), (12, 1), (13, 1), (14, 0)] .done))]
def wq1r (k : Nat) : Ctx := ⟨tyT, wq11j, wqyt k, [], [], wqyu, @SH⟩
def wq3n : Code := Tryd.f24.body.getD .skip
def wq7p (s0 : (List UInt8)) (s1 : (List Int)) (s2 s3 : Int) : St := ⟨mkT [(0, .v .str s0), (3, .ptr 13 0), (8, .v (.int .i64) s2), (9, .v (.int .i64) s3)], mkH [(33, .row 5 (.int .u8) s1), (13, .var 42 [.nps 13 0, .row 33])]⟩
def wqa9 (k : Nat) {R : Type} (E1004 : ((List UInt8) → (List Int) → Int → Int → Option R)) (s0 : (List UInt8)) (s1 : (List Int)) (s2 s3 : Int) (K : ((List UInt8) → Option R)) : Option R := (@cond (@Option R) (@Decidable.decide (@LT.lt Int Int.instLTInt s3 s2) (@Int.decLt s3 s2)) (@cond (@Option R) (@inb s3 (@Nat.cast Int instNatCastInt (@List.length UInt8 s0))) (@cond (@Option R) (@cond (@Kd.T Kd.bool) (@BEq.beq Int (@instBEqOfDecidableEq Int @Int.instDecidableEq) (@Nat.cast Int instNatCastInt (@UInt8.toNat (@List.getD UInt8 s0 (@Int.toNat s3) (0 : UInt8)))) (92 : Int)) Bool.true (@BEq.beq Int (@instBEqOfDecidableEq Int @Int.instDecidableEq) (@Nat.cast Int instNatCastInt (@UInt8.toNat (@List.getD UInt8 s0 (@Int.toNat s3) (0 : UInt8)))) (34 : Int))) (@cond (@Option R) (@joins ((92 : UInt8) :: []) (@Array.toList UInt8 (@ByteArray.data (@Go.Utf8.encode (@Go.IntKind.wrap Go.IntKind.i32 (@Nat.cast Int instNatCastInt (@UInt8.toNat (@List.getD UInt8 s0 (@Int.toNat s3) (0 : UInt8))))))))) (@wq1n k R s1 (@HAppend.hAppend (@List UInt8) (@List UInt8) (@List UInt8) (@instHAppendOfAppend (@List UInt8) (@List.instAppend UInt8)) ((92 : UInt8) :: []) (@Array.toList UInt8 (@ByteArray.data (@Go.Utf8.encode (@Go.IntKind.wrap Go.IntKind.i32 (@Nat.cast Int instNatCastInt (@UInt8.toNat (@List.getD UInt8 s0 (@Int.toNat s3) (0 : UInt8))))))))) (fun y8 y9 => (E1004 s0 y8 s2 (@Go.IntKind.wrap Go.IntKind.i64 (@HAdd.hAdd Int Int Int (@instHAdd Int @Int.instAdd) s3 (1 : Int)))))) (@Option.none R)) (@cond (@Option R) (@BEq.beq Int (@instBEqOfDecidableEq Int @Int.instDecidableEq) (@Nat.cast Int instNatCastInt (@UInt8.toNat (@List.getD UInt8 s0 (@Int.toNat s3) (0 : UInt8)))) (10 : Int)) (@wq1n k R s1 ((92 : UInt8) :: ((110 : UInt8) :: [])) (fun y8 y9 => (E1004 s0 y8 s2 (@Go.IntKind.wrap Go.IntKind.i64 (@HAdd.hAdd Int Int Int (@instHAdd Int @Int.instAdd) s3 (1 : Int)))))) (@cond (@Option R) (@BEq.beq Int (@instBEqOfDecidableEq Int @Int.instDecidableEq) (@Nat.cast Int instNatCastInt (@UInt8.toNat (@List.getD UInt8 s0 (@Int.toNat s3) (0 : UInt8)))) (9 : Int)) (@wq1n k R s1 ((92 : UInt8) :: ((116 : UInt8) :: [])) (fun y8 y9 => (E1004 s0 y8 s2 (@Go.IntKind.wrap Go.IntKind.i64 (@HAdd.hAdd Int Int Int (@instHAdd Int @Int.instAdd) s3 (1 : Int)))))) (@cond (@Option R) (@cond (@Kd.T Kd.bool) (@Decidable.decide (@LT.lt Int Int.instLTInt (@Nat.cast Int instNatCastInt (@UInt8.toNat (@List.getD UInt8 s0 (@Int.toNat s3) (0 : UInt8)))) (32 : Int)) (@Int.decLt (@Nat.cast Int instNatCastInt (@UInt8.toNat (@List.getD UInt8 s0 (@Int.toNat s3) (0 : UInt8)))) (32 : Int))) Bool.true (@BEq.beq Int (@instBEqOfDecidableEq Int @Int.instDecidableEq) (@Nat.cast Int instNatCastInt (@UInt8.toNat (@List.getD UInt8 s0 (@Int.toNat s3) (0 : UInt8)))) (127 : Int))) (@cond (@Option R) (@bnd (@ishr Go.IntKind.u8 (@Nat.cast Int instNatCastInt (@UInt8.toNat (@List.getD UInt8 s0 (@Int.toNat s3) (0 : UInt8)))) (4 : Int)) (@Go.IntKind.wrap Go.IntKind.u8 (@HAdd.hAdd Int Int Int (@instHAdd Int @Int.instAdd) (@ishr Go.IntKind.u8 (@Nat.cast Int instNatCastInt (@UInt8.toNat (@List.getD UInt8 s0 (@Int.toNat s3) (0 : UInt8)))) (4 : Int)) (1 : Int))) (@Nat.cast Int instNatCastInt (@List.length UInt8 ((48 : UInt8) :: ((49 : UInt8) :: ((50 : UInt8) :: ((51 : UInt8) :: ((52 : UInt8) :: ((53 : UInt8) :: ((54 : UInt8) :: ((55 : UInt8) :: ((56 : UInt8) :: ((57 : UInt8) :: ((97 : UInt8) :: ((98 : UInt8) :: ((99 : UInt8) :: ((100 : UInt8) :: ((101 : UInt8) :: ((102 : UInt8) :: []))))))))))))))))))) (@cond (@Option R) (@joins ((92 : UInt8) :: ((120 : UInt8) :: [])) (@cut UInt8 ((48 : UInt8) :: ((49 : UInt8) :: ((50 : UInt8) :: ((51 : UInt8) :: ((52 : UInt8) :: ((53 : UInt8) :: ((54 : UInt8) :: ((55 : UInt8) :: ((56 : UInt8) :: ((57 : UInt8) :: ((97 : UInt8) :: ((98 : UInt8) :: ((99 : UInt8) :: ((100 : UInt8) :: ((101 : UInt8) :: ((102 : UInt8) :: [])))))))))))))))) (@ishr Go.IntKind.u8 (@Nat.cast Int instNatCastInt (@UInt8.toNat (@List.getD UInt8 s0 (@Int.toNat s3) (0 : UInt8)))) (4 : Int)) (@Go.IntKind.wrap Go.IntKind.u8 (@HAdd.hAdd Int Int Int (@instHAdd Int @Int.instAdd) (@ishr Go.IntKind.u8 (@Nat.cast Int instNatCastInt (@UInt8.toNat (@List.getD UInt8 s0 (@Int.toNat s3) (0 : UInt8)))) (4 : Int)) (1 : Int))))) (@cond (@Option R) (@bnd (@ibits @Go.BinOp.and Go.IntKind.u8 (@Nat.cast Int instNatCastInt (@UInt8.toNat (@List.getD UInt8 s0 (@Int.toNat s3) (0 : UInt8)))) (15 : Int)) (@Go.IntKind.wrap Go.IntKind.u8 (@HAdd.hAdd Int Int Int (@instHAdd Int @Int.instAdd) (@ibits @Go.BinOp.and Go.IntKind.u8 (@Nat.cast Int instNatCastInt (@UInt8.toNat (@List.getD UInt8 s0 (@Int.toNat s3) (0 : UInt8)))) (15 : Int)) (1 : Int))) (@Nat.cast Int instNatCastInt (@List.length UInt8 ((48 : UInt8) :: ((49 : UInt8) :: ((50 : UInt8) :: ((51 : UInt8) :: ((52 : UInt8) :: ((53 : UInt8) :: ((54 : UInt8) :: ((55 : UInt8) :: ((56 : UInt8) :: ((57 : UInt8) :: ((97 : UInt8) :: ((98 : UInt8) :: ((99 : UInt8) :: ((100 : UInt8) :: ((101 : UInt8) :: ((102 : UInt8) :: []))))))))))))))))))) (@cond (@Option R) (@joins (@HAppend.hAppend (@List UInt8) (@List UInt8) (@List UInt8) (@instHAppendOfAppend (@List UInt8) (@List.instAppend UInt8)) ((92 : UInt8) :: ((120 : UInt8) :: [])) (@cut UInt8 ((48 : UInt8) :: ((49 : UInt8) :: ((50 : UInt8) :: ((51 : UInt8) :: ((52 : UInt8) :: ((53 : UInt8) :: ((54 : UInt8) :: ((55 : UInt8) :: ((56 : UInt8) :: ((57 : UInt8) :: ((97 : UInt8) :: ((98 : UInt8) :: ((99 : UInt8) :: ((100 : UInt8) :: ((101 : UInt8) :: ((102 : UInt8) :: [])))))))))))))))) (@ishr Go.IntKind.u8 (@Nat.cast Int instNatCastInt (@UInt8.toNat (@List.getD UInt8 s0 (@Int.toNat s3) (0 : UInt8)))) (4 : Int)) (@Go.IntKind.wrap Go.IntKind.u8 (@HAdd.hAdd Int Int Int (@instHAdd Int @Int.instAdd) (@ishr Go.IntKind.u8 (@Nat.cast Int instNatCastInt (@UInt8.toNat (@List.getD UInt8 s0 (@Int.toNat s3) (0 : UInt8)))) (4 : Int)) (1 : Int))))) (@cut UInt8 ((48 : UInt8) :: ((49 : UInt8) :: ((50 : UInt8) :: ((51 : UInt8) :: ((52 : UInt8) :: ((53 : UInt8) :: ((54 : UInt8) :: ((55 : UInt8) :: ((56 : UInt8) :: ((57 : UInt8) :: ((97 : UInt8) :: ((98 : UInt8) :: ((99 : UInt8) :: ((100 : UInt8) :: ((101 : UInt8) :: ((102 : UInt8) :: [])))))))))))))))) (@ibits @Go.BinOp.and Go.IntKind.u8 (@Nat.cast Int instNatCastInt (@UInt8.toNat (@List.getD UInt8 s0 (@Int.toNat s3) (0 : UInt8)))) (15 : Int)) (@Go.IntKind.wrap Go.IntKind.u8 (@HAdd.hAdd Int Int Int (@instHAdd Int @Int.instAdd) (@ibits @Go.BinOp.and Go.IntKind.u8 (@Nat.cast Int instNatCastInt (@UInt8.toNat (@List.getD UInt8 s0 (@Int.toNat s3) (0 : UInt8)))) (15 : Int)) (1 : Int))))) (@wq1n k R s1 (@HAppend.hAppend (@List UInt8) (@List UInt8) (@List UInt8) (@instHAppendOfAppend (@List UInt8) (@List.instAppend UInt8)) (@HAppend.hAppend (@List UInt8) (@List UInt8) (@List UInt8) (@instHAppendOfAppend (@List UInt8) (@List.instAppend UInt8)) ((92 : UInt8) :: ((120 : UInt8) :: [])) (@cut UInt8 ((48 : UInt8) :: ((49 : UInt8) :: ((50 : UInt8) :: ((51 : UInt8) :: ((52 : UInt8) :: ((53 : UInt8) :: ((54 : UInt8) :: ((55 : UInt8) :: ((56 : UInt8) :: ((57 : UInt8) :: ((97 : UInt8) :: ((98 : UInt8) :: ((99 : UInt8) :: ((100 : UInt8) :: ((101 : UInt8) :: ((102 : UInt8) :: [])))))))))))))))) (@ishr Go.IntKind.u8 (@Nat.cast Int instNatCastInt (@UInt8.toNat (@List.getD UInt8 s0 (@Int.toNat s3) (0 : UInt8)))) (4 : Int)) (@Go.IntKind.wrap Go.IntKind.u8 (@HAdd.hAdd Int Int Int (@instHAdd Int @Int.instAdd) (@ishr Go.IntKind.u8 (@Nat.cast Int instNatCastInt (@UInt8.toNat (@List.getD UInt8 s0 (@Int.toNat s3) (0 : UInt8)))) (4 : Int)) (1 : Int))))) (@cut UInt8 ((48 : UInt8) :: ((49 : UInt8) :: ((50 : UInt8) :: ((51 : UInt8) :: ((52 : UInt8) :: ((53 : UInt8) :: ((54 : UInt8) :: ((55 : UInt8) :: ((56 : UInt8) :: ((57 : UInt8) :: ((97 : UInt8) :: ((98 : UInt8) :: ((99 : UInt8) :: ((100 : UInt8) :: ((101 : UInt8) :: ((102 : UInt8) :: [])))))))))))))))) (@ibits @Go.BinOp.and Go.IntKind.u8 (@Nat.cast Int instNatCastInt (@UInt8.toNat (@List.getD UInt8 s0 (@Int.toNat s3) (0 : UInt8)))) (15 : Int)) (@Go.IntKind.wrap Go.IntKind.u8 (@HAdd.hAdd Int Int Int (@instHAdd Int @Int.instAdd) (@ibits @Go.BinOp.and Go.IntKind.u8 (@Nat.cast Int instNatCastInt (@UInt8.toNat (@List.getD UInt8 s0 (@Int.toNat s3) (0 : UInt8)))) (15 : Int)) (1 : Int))))) (fun y8 y9 => (E1004 s0 y8 s2 (@Go.IntKind.wrap Go.IntKind.i64 (@HAdd.hAdd Int Int Int (@instHAdd Int @Int.instAdd) s3 (1 : Int)))))) (@Option.none R)) (@Option.none R)) (@Option.none R)) (@Option.none R)) (@wq1b k R s1 (@Nat.cast Int instNatCastInt (@UInt8.toNat (@List.getD UInt8 s0 (@Int.toNat s3) (0 : UInt8)))) (fun y8 => (E1004 s0 y8 s2 (@Go.IntKind.wrap Go.IntKind.i64 (@HAdd.hAdd Int Int Int (@instHAdd Int @Int.instAdd) s3 (1 : Int)))))))))) (@Option.none R)) (@wq1b k R s1 (34 : Int) (fun y8 => (@wq3d k R y8 (fun y9 y10 => (K y10))))))
theorem wqqo (k : Nat) {R : Type} (I : Nat → St → Option R) (s0 : (List UInt8)) (s1 : (List Int)) (s2 s3 : Int) (K : ((List UInt8) → Option R)) : execK (wq1r k) k (at_ [1, 1, 1, 0, 1, 0, 0] wq3n) (wq7p s0 s1 s2 s3) (konts (wq1r k) k I [1, 1, 1, 0, 1, 0, 0] wq3n (outK (wq1r k) wqb2 [.tmp 2] (wq7h K))) = wqa9 k (fun s0 s1 s2 s3 => I 1004 (wq7p s0 s1 s2 s3)) s0 s1 s2 s3 K := by kernel_rfl
def wqkt (k : Nat) {R : Type} (E1004 : ((List UInt8) → (List Int) → Int → Int → Option R)) (x0 : (List UInt8)) (K : ((List UInt8) → Option R)) : Option R := (@wq1b k R [] (34 : Int) (fun y5 => (E1004 x0 y5 (@Nat.cast Int instNatCastInt (@List.length UInt8 x0)) (0 : Int))))
theorem wq11k (k : Nat) {R : Type} (I : Nat → St → Option R) (x0 : (List UInt8)) (K : ((List UInt8) → Option R)) : fnK (wq1r k) k wq3n 62 [.tmp 2] wqb2 [.v .str x0] [] (wq7h K) = wqkt k (fun s0 s1 s2 s3 => iter (wq1r k).pv (look (wq1r k).cuts 1004) (execK (wq1r k) k (at_ [1, 1, 1, 0, 1, 0, 0] wq3n)) k (wq7p s0 s1 s2 s3) (konts (wq1r k) k I [1, 1, 1, 0, 1, 0] wq3n (outK (wq1r k) wqb2 [.tmp 2] (wq7h K)))) x0 K := by kernel_rfl
def wq42 (k : Nat) {R : Type}  : Nat → (List UInt8) → (List Int) → Int → Int → ((List UInt8) → Option R) → Option R
  | 0, _, _, _, _, _ => none
  | n + 1, s0, s1, s2, s3, K => wqa9 k (fun s0 s1 s2 s3 => wq42 k  n s0 s1 s2 s3 K) s0 s1 s2 s3 K
theorem wqqp (k : Nat) {R : Type} (I : Nat → St → Option R) (K : ((List UInt8) → Option R)) : ∀ (n : Nat) (s0 : (List UInt8)) (s1 : (List Int)) (s2 s3 : Int), iter (wq1r k).pv (look (wq1r k).cuts 1004) (execK (wq1r k) k (at_ [1, 1, 1, 0, 1, 0, 0] wq3n)) n (wq7p s0 s1 s2 s3) (konts (wq1r k) k I [1, 1, 1, 0, 1, 0] wq3n (outK (wq1r k) wqb2 [.tmp 2] (wq7h K))) = wq42 k  n s0 s1 s2 s3 K := by
  intro n
  induction n with
  | zero => intros; rfl
  | succ n ih =>
    intro s0 s1 s2 s3
    let I' : Nat → St → Option R := fun id s => bif Nat.beq id 1004 then iter (wq1r k).pv (look (wq1r k).cuts 1004) (execK (wq1r k) k (at_ [1, 1, 1, 0, 1, 0, 0] wq3n)) n s (konts (wq1r k) k I [1, 1, 1, 0, 1, 0] wq3n (outK (wq1r k) wqb2 [.tmp 2] (wq7h K))) else I id s
    have e := wqqo k I' s0 s1 s2 s3 K
    have h1004 : (fun s0 s1 s2 s3 => I' 1004 (wq7p s0 s1 s2 s3)) = (fun s0 s1 s2 s3 => wq42 k  n s0 s1 s2 s3 K) := by funext s0 s1 s2 s3; exact ih s0 s1 s2 s3
    refine Eq.trans (?_ : _ = _) (e.trans (Eq.trans ((congrArg ((fun E1004 => wqa9 k E1004 s0 s1 s2 s3 K)) h1004)) (by rw [wq42])))
    rfl
def wqgs (k : Nat) {R : Type} (x0 : (List UInt8)) (K : ((List UInt8) → Option R)) : Option R := wqkt k (fun s0 s1 s2 s3 => wq42 k k s0 s1 s2 s3 K) x0 K
theorem wq11l (k : Nat) {R : Type} (x0 : (List UInt8)) (K : ((List UInt8) → Option R)) : fnK (wq1r k) k wq3n 62 [.tmp 2] wqb2 [.v .str x0] [] (wq7h K) = wqgs k x0 K := by
  let I : Nat → St → Option R := fun _ _ => none
  have h1004 : (fun s0 s1 s2 s3 => iter (wq1r k).pv (look (wq1r k).cuts 1004) (execK (wq1r k) k (at_ [1, 1, 1, 0, 1, 0, 0] wq3n)) k (wq7p s0 s1 s2 s3) (konts (wq1r k) k I [1, 1, 1, 0, 1, 0] wq3n (outK (wq1r k) wqb2 [.tmp 2] (wq7h K)))) = (fun s0 s1 s2 s3 => wq42 k k s0 s1 s2 s3 K) := by funext s0 s1 s2 s3; exact wqqp k I K k s0 s1 s2 s3
  exact (wq11k k I x0 K).trans (congrArg ((fun E1004 => wqkt k E1004 x0 K)) h1004)
def wqku (k : Nat) {R : Type} : List PV → List (Nm × HObj) → (Out → Option R) → Option R
  | [.v .str x0], [], K => wqgs k x0 (fun y0 => K (.ret [.v .str y0] []))
  | _, _, _ => none
theorem wq11m (k : Nat) : (wqyt k).Ok Tryd.prog := (CTab.add_ok (fun h => wq9p k h) (CTab.add_ok (fun h => wqfw k h) (CTab.add_ok (fun h => wq86 k h) CTab.nil_ok)))
theorem wq1a1 (k : Nat) {ps : List PV} {hp : List (Nm × HObj)} {R : Type} {K : Out → Option R} {r : R} (h : wqku k ps hp K = some r) : DoesTo Tryd.prog 24 ps hp fun out => K out = some r := by
  unfold wqku at h
  split at h
  · rw [← wq11l] at h
    have := fn_ok (P := Tryd.prog) (cx := wq1r k) (f := 24) ⟨tyT_ok, wq11m k, fun _ _ => rfl⟩ (by kernel_rfl) (fn := Tryd.f24) (c := wq3n) (by kernel_rfl) (by kernel_rfl) (by kernel_rfl) (rs := [.tmp 2]) (by kernel_rfl) (by kernel_rfl) h
    exact this.mono fun out ho => by
      unfold wq7h at ho
      split at ho <;> first | exact ho | cases ho
  · cases h
end Go.Proofs.YtdfhgimidmfgfaaDoor.Pvm
set_option maxHeartbeats 1000000
set_option maxRecDepth 100000
namespace Go.Proofs.YtdfhgimidmfgfaaDoor.Pvm
open Go Go.Proofs Go.RowKit
theorem wqvw (b : Nat) (w : World) (h0 : w.cell? ⟨b, 1, none⟩ = some (.pointer (some ⟨b, 1, none⟩))) :
    Calls Tryd.prog 33 #[.pointer (some ⟨b, 1, none⟩)] w fun e w' => e = .returned (.tuple #[]) ∧ w' = w := by
  have t76 : Tryd.prog.underlying 40 = some (.pointer 42) := by kernel_rfl
  have hs : (Tryd.prog.info? 42).isSome = true := by kernel_rfl
  obtain ⟨j, hj⟩ := Option.isSome_iff_exists.1 hs
  go_enter Tryd.func33, Tryd.ntmps33
  go_wp2
  rw [Lib.run_neq_ptr_same w _ t76 hj]
  go_wp2
  go_end0
  exact ⟨rfl, rfl⟩
theorem wqu7 (b : Nat) (w : World) (h0 : w.cell? ⟨b, 1, none⟩ = some (.pointer none)) (hsh : w.shape? b = some (44, 3)) (hfz : w.frozen? ⟨b, 1, none⟩ = false) :
    Calls Tryd.prog 33 #[.pointer (some ⟨b, 1, none⟩)] w fun e w' => e = .returned (.tuple #[]) ∧ w' = w.setCell ⟨b, 1, none⟩ (.pointer (some ⟨b, 1, none⟩)) := by
  have t76 : Tryd.prog.underlying 40 = some (.pointer 42) := by kernel_rfl
  have t89 : Tryd.prog.underlying 69 = some .unsafePointer := by kernel_rfl
  have hs : (Tryd.prog.info? 42).map (·.size) = some 2 := by kernel_rfl
  obtain ⟨j, hj, hjs⟩ := Option.map_eq_some_iff.1 hs
  have hlies : liesAt Tryd.prog Tryd.prog.depth 44 (3 / Tryd.prog.cellsOf 44) 1 42 1 = true := by kernel_rfl
  go_enter Tryd.func33, Tryd.ntmps33
  go_wp2
  rw [Lib.run_to_unsafe w ⟨b, 1, none⟩ t76 t89 hj (by rw [hjs]; decide) hsh (Nat.lt_of_sub_eq_succ (rfl : 3 - 1 = 2))]
  simp only [Result.andThen]
  rw [Oper.upon_value]
  go_wp2
  rw [run_callFunc_extern Tryd.func39 (by kernel_rfl) (by kernel_rfl) (by kernel_rfl) (e := Extern.AbiNoEscape.same) (by kernel_rfl)]
  rw [Lib.run_noEscape]
  simp only [Result.andThen]
  rw [Oper.upon_value]
  go_wp2
  rw [Lib.run_from_unsafe w ⟨b, 1, none⟩ t89 t76 hj hsh hlies]
  simp only [Result.andThen]
  rw [Oper.upon_value]
  go_wp2
  go_end0
  exact ⟨rfl, rfl⟩
end Go.Proofs.YtdfhgimidmfgfaaDoor.Pvm
set_option maxRecDepth 1000000
namespace Go.Proofs.YtdfhgimidmfgfaaDoor.Pvm
open Go Go.Proofs
def wq96 : List LS := [.obj 1 [.sl (.pr (.int .i64) (.pr (.int .i64) (.pr .str (.pr .bool (.pr (.sl .str) (.sl (.int .i64))))))), .nps 1 1, .own 21 5 (.int .u8)]]
def wq3h (k : Nat) {R : Type} (d0 : (List (Int × (Int × ((List UInt8) × (Bool × ((List (List UInt8)) × (List Int)))))))) (x0 : List Int) (K : (List (Int × (Int × ((List UInt8) × (Bool × ((List (List UInt8)) × (List Int))))))) → List Int → Option R) : Option R := K d0 x0
def wq4a (k : Nat) {R : Type} : List PV → List (Nm × HObj) → (Out → Option R) → Option R
  | [.ptr 1 1], [(21, .row 5 (.int .u8) x0), (1, .var 44 [.v (.sl (.pr (.int .i64) (.pr (.int .i64) (.pr .str (.pr .bool (.pr (.sl .str) (.sl (.int .i64)))))))) d0, .nps 1 1, .row 21])], K => wq3h k d0 x0 (fun d1 y0 => K (.ret [] [(21, .row 5 (.int .u8) y0), (1, .var 44 [.v (.sl (.pr (.int .i64) (.pr (.int .i64) (.pr .str (.pr .bool (.pr (.sl .str) (.sl (.int .i64)))))))) d1, .nps 1 1, .row 21])]))
  | _, _, _ => none
theorem wqbr (vs : Array Value) (w : World) : (callFunc 33 vs).run Tryd.prog w = .ok (.enter 33 vs) w := by
  have h1 : Tryd.prog.funcs[33]? = some Tryd.f33 := by kernel_rfl
  have h2 : (Tryd.f33.name == "runtime.NumGoroutine") = false := by kernel_rfl
  have h3 : Tryd.f33.body.isNone = false := by kernel_rfl
  unfold callFunc
  rw [Sem.run_bind]
  have e2 : (program).run Tryd.prog w = .ok Tryd.prog w := rfl
  rw [e2, Result.andThen_ok, h1]
  simp only [h2, h3, Bool.false_eq_true, if_false]
  rfl
theorem wqaa (k : Nat) {ps : List PV} {hp : List (Nm × HObj)} {R : Type} {K : Out → Option R} {r : R} (h : wq4a k ps hp K = some r) : DoesTo Tryd.prog 33 ps hp fun out => K out = some r := by
  unfold wq4a at h
  split at h
  · next x0 d0 =>
    intro G w vals hr obj dis
    obtain ⟨v0, l0, rfl, h0, rfl⟩ := hr
    obtain ⟨rfl, _⟩ := h0
    generalize hHP : [(21, HObj.row 5 (.int .u8) x0), (1, .var 44 [.v (.sl (.pr (.int .i64) (.pr (.int .i64) (.pr .str (.pr .bool (.pr (.sl .str) (.sl (.int .i64)))))))) d0, .nps 1 1, .row 21])] = HP at *
    have hK : K (.ret [] HP) = some r := by subst hHP; exact h
    have l1 : mkH HP 1 = some (.var 44 [.v (.sl (.pr (.int .i64) (.pr (.int .i64) (.pr .str (.pr .bool (.pr (.sl .str) (.sl (.int .i64)))))))) d0, .nps 1 1, .row 21]) := by subst hHP; rfl
    have hob := obj 1 _ l1
    obtain ⟨vs, hw, q0, t0, rfl, hq0, q1, t1, rfl, hq1, q2, t2, rfl, hq2, rfl⟩ := hob
    show Does _ _ #[_] _ _
    unfold Does
    rw [wqbr]
    have hcell : w.cell? ⟨G.bk 1, 1, none⟩ = some q1 := by simp [World.cell?, hw]
    have hlt : G.bk 1 < w.heap.size := (Array.getElem?_eq_some_iff.1 hw).1
    rcases hq1 with rfl | ⟨rfl, _⟩
    · refine Calls.mono (wqu7 (G.bk 1) w hcell (by simp [World.shape?, hw]) (by simp [World.frozen?, hw])) fun e w' hh => ?_
      obtain ⟨rfl, rfl⟩ := hh
      have oth : ∀ b, b ≠ G.bk 1 → (w.setCell ⟨G.bk 1, 1, none⟩ (.pointer (some ⟨G.bk 1, 1, none⟩))).heap[b]? = w.heap[b]? := fun b hb => Go.Deep.blk_setCell_other w _ _ b hb
      have bk1 : blkOf (mkH HP) G 1 = some (G.bk 1) := by simp [blkOf, l1]
      have C : Carry (mkH HP) G w (mkH HP) G (w.setCell ⟨G.bk 1, 1, none⟩ (.pointer (some ⟨G.bk 1, 1, none⟩))) .row :=
        ⟨fun b ho _ => ⟨ho, oth b fun e => ho.1 1 (by rw [bk1, e])⟩, fun n t cs hn => ⟨⟨cs, hn⟩, rfl⟩, fun n ag V es hn => ⟨⟨es, hn⟩, rfl⟩, fun n e K xs hn => ⟨⟨rfl, e, K, xs, hn⟩, fun m hm => by cases hm; exact ⟨e, xs, hn, Nat.le_refl _⟩⟩⟩
      have hq2' := RV.carry C _ _ hq2
      have hq0' := RV.carry C _ _ hq0
      refine ⟨.ret [] HP, hK, G, ⟨_, rfl, ⟨[], rfl, rfl⟩⟩, ⟨fun n o hn => ?_, dis.inj, fun n t cs hn o ho => ?_, fun n ag V es hn o ho => (wqhs (by rw [← hHP]; rfl) hn).elim, fun b hb hf => oth b fun e => hf 1 (by rw [bk1, e]), rfl, fun n b hb => .inl ⟨n, hb⟩, by simp [World.setCell], rfl, rfl, rfl⟩⟩
      · by_cases hn1 : n = 1
        · subst hn1
          rw [show mkH (Out.hs (.ret [] HP)) 1 = some (.var 44 [.v (.sl (.pr (.int .i64) (.pr (.int .i64) (.pr .str (.pr .bool (.pr (.sl .str) (.sl (.int .i64)))))))) d0, .nps 1 1, .row 21]) from l1] at hn
          cases hn
          refine ⟨[q0, .pointer (some ⟨G.bk 1, 1, none⟩), q2], ?_, _, _, rfl, hq0', _, _, rfl, .inr ⟨rfl, 44, _, l1⟩, _, _, rfl, hq2', rfl⟩
          have hw2 := (Array.getElem?_eq_some_iff.1 hw).2
          simp only [World.setCell, Array.getElem?_modify, if_pos, hw]
          simp
        · have hne : ∀ b, blkOf (mkH HP) G n = some b → b ≠ G.bk 1 := fun b hb e => hn1 (dis.inj n 1 b hb (by rw [bk1, e]))
          have := RO.carry C hn (obj n o hn) (fun b hb => oth b (hne b hb)) rfl rfl
          rwa [wqg8] at this
      · have e1 : look HP n = some o := ho
        rw [hn] at e1; cases e1
        exact ⟨⟨cs, rfl⟩, rfl⟩
    · refine Calls.mono (wqvw (G.bk 1) w hcell) fun e w' hh => ?_
      obtain ⟨rfl, rfl⟩ := hh
      refine ⟨.ret [] HP, hK, G, ⟨_, rfl, ⟨[], rfl, rfl⟩⟩, ⟨obj, dis.inj, fun n t cs hn o ho => ?_, fun n ag V es hn o ho => (wqhs (by rw [← hHP]; rfl) hn).elim, fun _ _ _ => rfl, rfl, fun n b hb => .inl ⟨n, hb⟩, Nat.le_refl _, rfl, rfl, rfl⟩⟩
      have e1 : look HP n = some o := ho
      rw [hn] at e1; cases e1
      exact ⟨⟨cs, rfl⟩, rfl⟩
  · cases h
end Go.Proofs.YtdfhgimidmfgfaaDoor.Pvm
set_option maxHeartbeats 0
namespace Go.Proofs.YtdfhgimidmfgfaaDoor.Pvm
open Go Go.Proofs
def wq8k : List LS := [.obj 1 [.sl (.pr (.int .i64) (.pr (.int .i64) (.pr .str (.pr .bool (.pr (.sl .str) (.sl (.int .i64))))))), .nps 1 1, .own 21 5 (.int .u8)], .any]
def wq97 (k : Nat) : CTab := (CTab.add 33 wq96 (wq4a k) CTab.nil)
def wq57 {R : Type} (K : ((List (Int × (Int × ((List UInt8) × (Bool × ((List (List UInt8)) × (List Int))))))) → (List Int) → Int → Option R)) : Out → Option R
  | .ret [.v (.int .i64) y2, .nilif] [(21, .row 5 (.int .u8) y1), (1, .var 44 [.v (.sl (.pr (.int .i64) (.pr (.int .i64) (.pr .str (.pr .bool (.pr (.sl .str) (.sl (.int .i64)))))))) y0, .nps 1 1, .row 21])] => K y0 y1 y2
  | _ => none
def wq91 : RetSpec := ⟨[.any, .any], [(1, .obj 1 [.sl (.pr (.int .i64) (.pr (.int .i64) (.pr .str (.pr .bool (.pr (.sl .str) (.sl (.int .i64))))))), .nps 1 1, .own 21 5 (.int .u8)])], []⟩
def wqct : List (Nat × CutSpec) := []
def wqcg : List (Nat × Plan) := []
def wq5s (k : Nat) : Ctx := ⟨tyT, wqct, wq97 k, [], [1], wqcg, @SH⟩
def wq58 : Code := Tryd.f25.body.getD .skip
def wq67 (k : Nat) {R : Type}  (x0 : (List (Int × (Int × ((List UInt8) × (Bool × ((List (List UInt8)) × (List Int)))))))) (x1 : (List Int)) (x2 : (List UInt8)) (K : ((List (Int × (Int × ((List UInt8) × (Bool × ((List (List UInt8)) × (List Int))))))) → (List Int) → Int → Option R)) : Option R := (@wq3h k R x0 x1 (fun y6 y7 => (@cond (@Option R) (@fits (@List.length (@Kd.T (@Kd.int Go.IntKind.u8)) y7) (@List.length (@Kd.T (@Kd.int Go.IntKind.u8)) (@wqs x2)) (1 : Nat)) (K y6 (@HAppend.hAppend (@Kd.T (@Kd.sl (@Kd.int Go.IntKind.u8))) (@List (@Kd.T (@Kd.int Go.IntKind.u8))) (@Kd.T (@Kd.sl (@Kd.int Go.IntKind.u8))) (@instHAppendOfAppend (@Kd.T (@Kd.sl (@Kd.int Go.IntKind.u8))) (@List.instAppend (@Kd.T (@Kd.int Go.IntKind.u8)))) y7 (@wqs x2)) (@Nat.cast Int instNatCastInt (@List.length UInt8 x2))) (@Option.none R))))
theorem wqcu (k : Nat) {R : Type} (I : Nat → St → Option R) (x0 : (List (Int × (Int × ((List UInt8) × (Bool × ((List (List UInt8)) × (List Int)))))))) (x1 : (List Int)) (x2 : (List UInt8)) (K : ((List (Int × (Int × ((List UInt8) × (Bool × ((List (List UInt8)) × (List Int))))))) → (List Int) → Int → Option R)) : fnK (wq5s k) k wq58 19 [.tmp 4, .tmp 5] wq91 [.ptr 1 1, .v .str x2] [(21, .row 5 (.int .u8) x1), (1, .var 44 [.v (.sl (.pr (.int .i64) (.pr (.int .i64) (.pr .str (.pr .bool (.pr (.sl .str) (.sl (.int .i64)))))))) x0, .nps 1 1, .row 21])] (wq57 K) = wq67 k  x0 x1 x2 K := by kernel_rfl
def wqz (k : Nat) {R : Type} (x0 : (List (Int × (Int × ((List UInt8) × (Bool × ((List (List UInt8)) × (List Int)))))))) (x1 : (List Int)) (x2 : (List UInt8)) (K : ((List (Int × (Int × ((List UInt8) × (Bool × ((List (List UInt8)) × (List Int))))))) → (List Int) → Int → Option R)) : Option R := wq67 k  x0 x1 x2 K
theorem wqcv (k : Nat) {R : Type} (x0 : (List (Int × (Int × ((List UInt8) × (Bool × ((List (List UInt8)) × (List Int)))))))) (x1 : (List Int)) (x2 : (List UInt8)) (K : ((List (Int × (Int × ((List UInt8) × (Bool × ((List (List UInt8)) × (List Int))))))) → (List Int) → Int → Option R)) : fnK (wq5s k) k wq58 19 [.tmp 4, .tmp 5] wq91 [.ptr 1 1, .v .str x2] [(21, .row 5 (.int .u8) x1), (1, .var 44 [.v (.sl (.pr (.int .i64) (.pr (.int .i64) (.pr .str (.pr .bool (.pr (.sl .str) (.sl (.int .i64)))))))) x0, .nps 1 1, .row 21])] (wq57 K) = wqz k x0 x1 x2 K := by
  exact wqcu k (fun _ _ => none) x0 x1 x2 K
def wq3x (k : Nat) {R : Type} : List PV → List (Nm × HObj) → (Out → Option R) → Option R
  | [.ptr 1 1, .v .str x2], [(21, .row 5 (.int .u8) x1), (1, .var 44 [.v (.sl (.pr (.int .i64) (.pr (.int .i64) (.pr .str (.pr .bool (.pr (.sl .str) (.sl (.int .i64)))))))) x0, .nps 1 1, .row 21])], K => wqz k x0 x1 x2 (fun y0 y1 y2 => K (.ret [.v (.int .i64) y2, .nilif] [(21, .row 5 (.int .u8) y1), (1, .var 44 [.v (.sl (.pr (.int .i64) (.pr (.int .i64) (.pr .str (.pr .bool (.pr (.sl .str) (.sl (.int .i64)))))))) y0, .nps 1 1, .row 21])]))
  | _, _, _ => none
theorem wqcw (k : Nat) : (wq97 k).Ok Tryd.prog := (CTab.add_ok (fun h => wqaa k h) CTab.nil_ok)
theorem wq98 (k : Nat) {ps : List PV} {hp : List (Nm × HObj)} {R : Type} {K : Out → Option R} {r : R} (h : wq3x k ps hp K = some r) : DoesTo Tryd.prog 25 ps hp fun out => K out = some r := by
  unfold wq3x at h
  split at h
  · rw [← wqcv] at h
    have := fn_ok (P := Tryd.prog) (cx := wq5s k) (f := 25) ⟨tyT_ok, wqcw k, fun _ _ => rfl⟩ (by kernel_rfl) (fn := Tryd.f25) (c := wq58) (by kernel_rfl) (by kernel_rfl) (by kernel_rfl) (rs := [.tmp 4, .tmp 5]) (by kernel_rfl) (by kernel_rfl) h
    exact this.mono fun out ho => by
      unfold wq57 at ho
      split at ho <;> first | exact ho | cases ho
  · cases h
end Go.Proofs.YtdfhgimidmfgfaaDoor.Pvm
namespace Go.Proofs
open Go.Shelf
def Tryd.laysLaysn105_ren : Go.Shelf.Ren := ⟨fun | 105 => 34 | 212 => 40 | 99 => 41 | 165 => 42 | 166 => 25 | 170 => 15 | 169 => 16 | 263 => 49 | 264 => 50 | 206 => 51 | 240 => 33 | 241 => 52 | 276 => 39 | 277 => 65 | n => n, fun | 9 => 9 | 3 => 3 | 4 => 4 | 20 => 20 | 0 => 0 | 46 => 65 | 109 => 71 | 5 => 5 | 72 => 42 | 76 => 57 | 51 => 86 | 146 => 87 | 53 => 89 | 148 => 90 | 70 => 40 | 37 => 27 | 75 => 56 | 127 => 60 | 164 => 69 | 80 => 47 | n => n, fun | n => n⟩
theorem Tryd.laysLaysn105 : Go.Proofs.Lays.n105 Tryd.prog Tryd.laysLaysn105_ren := {
  mixed := by kernel_rfl
  f99 := Tryd.func41.trans (congrArg some (by kernel_rfl))
  f105 := Tryd.func34.trans (congrArg some (by kernel_rfl))
  f165 := Tryd.func42.trans (congrArg some (by kernel_rfl))
  f166 := Tryd.func25.trans (congrArg some (by kernel_rfl))
  f169 := Tryd.func16.trans (congrArg some (by kernel_rfl))
  f170 := Tryd.func15.trans (congrArg some (by kernel_rfl))
  f206 := Tryd.func51.trans (congrArg some (by kernel_rfl))
  f212 := Tryd.func40.trans (congrArg some (by kernel_rfl))
  f240 := Tryd.func33.trans (congrArg some (by kernel_rfl))
  f241 := Tryd.func52.trans (congrArg some (by kernel_rfl))
  f263 := Tryd.func49.trans (congrArg some (by kernel_rfl))
  f264 := Tryd.func50.trans (congrArg some (by kernel_rfl))
  f276 := Tryd.func39.trans (congrArg some (by kernel_rfl))
  f277 := Tryd.func65.trans (congrArg some (by kernel_rfl))
  t0 := Tryd.underlying0
  a0 := Tryd.isAgg0
  z0 := Tryd.sizeOf0
  v0 := Tryd.zeroValue0
  t3 := Tryd.underlying3
  a3 := Tryd.isAgg3
  z3 := Tryd.sizeOf3
  v3 := Tryd.zeroValue3
  t4 := Tryd.underlying4
  a4 := Tryd.isAgg4
  z4 := Tryd.sizeOf4
  v4 := Tryd.zeroValue4
  t5 := Tryd.underlying5
  a5 := Tryd.isAgg5
  z5 := Tryd.sizeOf5
  v5 := Tryd.zeroValue5
  t9 := Tryd.underlying9
  a9 := Tryd.isAgg9
  z9 := Tryd.sizeOf9
  v9 := Tryd.zeroValue9
  t20 := Tryd.underlying20
  a20 := Tryd.isAgg20
  z20 := Tryd.sizeOf20
  v20 := Tryd.zeroValue20
  t37 := Tryd.underlying27
  a37 := Tryd.isAgg27
  z37 := Tryd.sizeOf27
  v37 := Tryd.zeroValue27
  t46 := Tryd.underlying65
  a46 := Tryd.isAgg65
  z46 := Tryd.sizeOf65
  v46 := Tryd.zeroValue65
  t51 := Tryd.underlying86
  a51 := Tryd.isAgg86
  z51 := Tryd.sizeOf86
  v51 := Tryd.zeroValue86
  t53 := Tryd.underlying89
  a53 := Tryd.isAgg89
  z53 := Tryd.sizeOf89
  v53 := Tryd.zeroValue89
  t70 := Tryd.underlying40
  a70 := Tryd.isAgg40
  z70 := Tryd.sizeOf40
  v70 := Tryd.zeroValue40
  t72 := Tryd.underlying42
  a72 := Tryd.isAgg42
  z72 := Tryd.sizeOf42
  v72 := Tryd.zeroValue42
  t75 := Tryd.underlying56
  a75 := Tryd.isAgg56
  z75 := Tryd.sizeOf56
  v75 := Tryd.zeroValue56
  t76 := Tryd.underlying57
  a76 := Tryd.isAgg57
  z76 := Tryd.sizeOf57
  v76 := Tryd.zeroValue57
  t109 := Tryd.underlying71
  a109 := Tryd.isAgg71
  z109 := Tryd.sizeOf71
  v109 := Tryd.zeroValue71
  t127 := Tryd.underlying60
  a127 := Tryd.isAgg60
  z127 := Tryd.sizeOf60
  v127 := Tryd.zeroValue60
  t146 := Tryd.underlying87
  a146 := Tryd.isAgg87
  z146 := Tryd.sizeOf87
  v146 := Tryd.zeroValue87
  t148 := Tryd.underlying90
  a148 := Tryd.isAgg90
  z148 := Tryd.sizeOf90
  v148 := Tryd.zeroValue90
  t164 := Tryd.underlying69
  a164 := Tryd.isAgg69
  z164 := Tryd.sizeOf69
  v164 := Tryd.zeroValue69 }
theorem Tryd.extra105 : Builder.Extra Tryd.prog Tryd.laysLaysn105_ren where
  sizeBuilder := by kernel_rfl
  liesBuilder := by kernel_rfl
  t5 := Tryd.underlying5
  a5 := Tryd.isAgg5
  z5 := Tryd.sizeOf5
  v5 := Tryd.zeroValue5
  infoByte := by kernel_rfl
  cellsByte := by kernel_rfl
  sizeByte := by kernel_rfl
  neB5 := by decide
end Go.Proofs
namespace Go.Proofs.YtdfhgimidmfgfaaDoor.Pvm
open Go Go.Proofs Go.RowKit Go.Shelf
def repS (s : List UInt8) (n : Nat) : List UInt8 := Lib.repeatL s n
def wqu8 : List LS := [.any, .any]
def wqda (k : Nat) {R : Type} (x0 : List UInt8) (x1 : Int) (K : List UInt8 → Option R) : Option R := bif decide (0 ≤ x1) && decide (x1 ≤ 1000000) && decide (x0.length ≤ 1000000) then K (repS x0 x1.toNat) else none
def wqeb (k : Nat) {R : Type} : List PV → List (Nm × HObj) → (Out → Option R) → Option R
  | [.v .str x0, .v (.int .i64) x1], [], K => wqda k x0 x1 (fun y0 => K (.ret [.v .str y0] []))
  | _, _, _ => none
theorem wqyv (k : Nat) {ps : List PV} {hp : List (Nm × HObj)} {R : Type} {K : Out → Option R} {r : R} (h : wqeb k ps hp K = some r) : DoesTo Tryd.prog 34 ps hp fun out => K out = some r := by
  unfold wqeb at h
  split at h
  · next x0 x1 =>
    intro G w vals hr obj dis
    obtain ⟨v0, l0, rfl, h0, v1, l1, rfl, h1, rfl⟩ := hr
    have e0 : v0 = .string ⟨x0.toArray⟩ := by simpa [RV, RD] using h0
    have e1 : v1 = .int .i64 x1 := by simpa [RV, RD] using h1
    subst e0 e1
    unfold wqda at h
    cases hx : (decide (0 ≤ x1) && decide (x1 ≤ 1000000) && decide (x0.length ≤ 1000000)) with
    | false => rw [hx] at h; cases h
    | true =>
      rw [hx, cond_true] at h
      simp only [Bool.and_eq_true, decide_eq_true_eq] at hx
      obtain ⟨⟨g0, g1⟩, g2⟩ := hx
      obtain ⟨n, rfl⟩ : ∃ n : Nat, x1 = (n : Int) := ⟨x1.toNat, (Int.toNat_of_nonneg g0).symm⟩
      have hn : n ≤ 1000000 := by
        have : (n : Int) ≤ 1000000 := g1
        omega
      have hsz : (⟨x0.toArray⟩ : ByteArray).size = x0.length := by simp [ByteArray.size]
      have hmul : x0.length * n ≤ 1000000 * 1000000 := Nat.mul_le_mul g2 hn
      have c := Any.strings_Repeat Tryd.laysLaysn105 Tryd.extra105 ⟨x0.toArray⟩ n w (by omega) (by rw [hsz]; omega)
      show Does _ _ #[_, _] _ _
      unfold Does
      rw [enters (P := Tryd.prog) (fn := Tryd.f34) (c := Tryd.f34.body.getD .skip) (by kernel_rfl) (by kernel_rfl) (by kernel_rfl)]
      refine Calls.mono c fun e w' hh => ?_
      obtain ⟨rfl, b⟩ := hh
      exact ⟨.ret [.v .str (repS x0 n)] [], h, G, ⟨_, rfl, rfl⟩, wq1ew b⟩
  · cases h
end Go.Proofs.YtdfhgimidmfgfaaDoor.Pvm
namespace Go.Proofs.YtdfhgimidmfgfaaDoor.Pvm
open Go Go.Proofs
def wqju : List LS := [.obj 1 [.sl (.pr (.int .i64) (.pr (.int .i64) (.pr .str (.pr .bool (.pr (.sl .str) (.sl (.int .i64))))))), .nps 1 1, .own 21 5 (.int .u8)], .any]
def wqmx (k : Nat) : CTab := (CTab.add 25 wq8k (wq3x k) (CTab.add 34 wqu8 (wqeb k) CTab.nil))
def wqdb {R : Type} (K : ((List (Int × (Int × ((List UInt8) × (Bool × ((List (List UInt8)) × (List Int))))))) → (List Int) → Option R)) : Out → Option R
  | .ret [] [(21, .row 5 (.int .u8) y1), (1, .var 44 [.v (.sl (.pr (.int .i64) (.pr (.int .i64) (.pr .str (.pr .bool (.pr (.sl .str) (.sl (.int .i64)))))))) y0, .nps 1 1, .row 21])] => K y0 y1
  | _ => none
def wqlj : RetSpec := ⟨[], [(1, .obj 1 [.sl (.pr (.int .i64) (.pr (.int .i64) (.pr .str (.pr .bool (.pr (.sl .str) (.sl (.int .i64))))))), .nps 1 1, .own 21 5 (.int .u8)])], []⟩
def wqsc : List (Nat × CutSpec) := []
def wqqq : List (Nat × Plan) := [(0, (.of [(0, 1), (1, 1), (2, 1), (3, 1), (4, 0), (5, 0)] .done))]
def wqfj (k : Nat) : Ctx := ⟨tyT, wqsc, wqmx k, [], [1], wqqq, @SH⟩
def wqdc : Code := Tryd.f26.body.getD .skip
def wqgt (k : Nat) {R : Type}  (x0 : (List (Int × (Int × ((List UInt8) × (Bool × ((List (List UInt8)) × (List Int)))))))) (x1 : (List Int)) (x2 : Int) (K : ((List (Int × (Int × ((List UInt8) × (Bool × ((List (List UInt8)) × (List Int))))))) → (List Int) → Option R)) : Option R := (@wqda k R ((32 : UInt8) :: []) x2 (fun y6 => (@wqz k R x0 x1 y6 (fun y7 y8 y9 => (K y7 y8)))))
theorem wqsd (k : Nat) {R : Type} (I : Nat → St → Option R) (x0 : (List (Int × (Int × ((List UInt8) × (Bool × ((List (List UInt8)) × (List Int)))))))) (x1 : (List Int)) (x2 : Int) (K : ((List (Int × (Int × ((List UInt8) × (Bool × ((List (List UInt8)) × (List Int))))))) → (List Int) → Option R)) : fnK (wqfj k) k wqdc 10 [] wqlj [.ptr 1 0, .v (.int .i64) x2] [(21, .row 5 (.int .u8) x1), (1, .var 44 [.v (.sl (.pr (.int .i64) (.pr (.int .i64) (.pr .str (.pr .bool (.pr (.sl .str) (.sl (.int .i64)))))))) x0, .nps 1 1, .row 21])] (wqdb K) = wqgt k  x0 x1 x2 K := by kernel_rfl
def wq7z (k : Nat) {R : Type} (x0 : (List (Int × (Int × ((List UInt8) × (Bool × ((List (List UInt8)) × (List Int)))))))) (x1 : (List Int)) (x2 : Int) (K : ((List (Int × (Int × ((List UInt8) × (Bool × ((List (List UInt8)) × (List Int))))))) → (List Int) → Option R)) : Option R := wqgt k  x0 x1 x2 K
theorem wqse (k : Nat) {R : Type} (x0 : (List (Int × (Int × ((List UInt8) × (Bool × ((List (List UInt8)) × (List Int)))))))) (x1 : (List Int)) (x2 : Int) (K : ((List (Int × (Int × ((List UInt8) × (Bool × ((List (List UInt8)) × (List Int))))))) → (List Int) → Option R)) : fnK (wqfj k) k wqdc 10 [] wqlj [.ptr 1 0, .v (.int .i64) x2] [(21, .row 5 (.int .u8) x1), (1, .var 44 [.v (.sl (.pr (.int .i64) (.pr (.int .i64) (.pr .str (.pr .bool (.pr (.sl .str) (.sl (.int .i64)))))))) x0, .nps 1 1, .row 21])] (wqdb K) = wq7z k x0 x1 x2 K := by
  exact wqsd k (fun _ _ => none) x0 x1 x2 K
def wqbc (k : Nat) {R : Type} : List PV → List (Nm × HObj) → (Out → Option R) → Option R
  | [.ptr 1 0, .v (.int .i64) x2], [(21, .row 5 (.int .u8) x1), (1, .var 44 [.v (.sl (.pr (.int .i64) (.pr (.int .i64) (.pr .str (.pr .bool (.pr (.sl .str) (.sl (.int .i64)))))))) x0, .nps 1 1, .row 21])], K => wq7z k x0 x1 x2 (fun y0 y1 => K (.ret [] [(21, .row 5 (.int .u8) y1), (1, .var 44 [.v (.sl (.pr (.int .i64) (.pr (.int .i64) (.pr .str (.pr .bool (.pr (.sl .str) (.sl (.int .i64)))))))) y0, .nps 1 1, .row 21])]))
  | _, _, _ => none
theorem wqsf (k : Nat) : (wqmx k).Ok Tryd.prog := (CTab.add_ok (fun h => wq98 k h) (CTab.add_ok (fun h => wqyv k h) CTab.nil_ok))
theorem wqmy (k : Nat) {ps : List PV} {hp : List (Nm × HObj)} {R : Type} {K : Out → Option R} {r : R} (h : wqbc k ps hp K = some r) : DoesTo Tryd.prog 26 ps hp fun out => K out = some r := by
  unfold wqbc at h
  split at h
  · rw [← wqse] at h
    have := fn_ok (P := Tryd.prog) (cx := wqfj k) (f := 26) ⟨tyT_ok, wqsf k, fun _ _ => rfl⟩ (by kernel_rfl) (fn := Tryd.f26) (c := wqdc) (by kernel_rfl) (by kernel_rfl) (by kernel_rfl) (rs := []) (by kernel_rfl) (by kernel_rfl) h
    exact this.mono fun out ho => by
      unfold wqdb at ho
      split at ho <;> first | exact ho | cases ho
  · cases h
def wqec : List LS := [.obj 1 [.sl (.pr (.int .i64) (.pr (.int .i64) (.pr .str (.pr .bool (.pr (.sl .str) (.sl (.int .i64))))))), .nps 1 1, .own 21 5 (.int .u8)], .any]
def wqab (k : Nat) : CTab := (CTab.add 33 wq96 (wq4a k) CTab.nil)
def wq5t {R : Type} (K : ((List (Int × (Int × ((List UInt8) × (Bool × ((List (List UInt8)) × (List Int))))))) → (List Int) → Option R)) : Out → Option R
  | .ret [.nilif] [(21, .row 5 (.int .u8) y1), (1, .var 44 [.v (.sl (.pr (.int .i64) (.pr (.int .i64) (.pr .str (.pr .bool (.pr (.sl .str) (.sl (.int .i64)))))))) y0, .nps 1 1, .row 21])] => K y0 y1
  | _ => none
def wq9h : RetSpec := ⟨[.any], [(1, .obj 1 [.sl (.pr (.int .i64) (.pr (.int .i64) (.pr .str (.pr .bool (.pr (.sl .str) (.sl (.int .i64))))))), .nps 1 1, .own 21 5 (.int .u8)])], []⟩
def wqdq : List (Nat × CutSpec) := []
def wqdd : List (Nat × Plan) := []
def wq6l (k : Nat) : Ctx := ⟨tyT, wqdq, wqab k, [], [1], wqdd, @SH⟩
def wq5u : Code := Tryd.f32.body.getD .skip
def wq74 (k : Nat) {R : Type}  (x0 : (List (Int × (Int × ((List UInt8) × (Bool × ((List (List UInt8)) × (List Int)))))))) (x1 : (List Int)) (x2 : Int) (K : ((List (Int × (Int × ((List UInt8) × (Bool × ((List (List UInt8)) × (List Int))))))) → (List Int) → Option R)) : Option R := (@wq3h k R x0 x1 (fun y6 y7 => (@cond (@Option R) (@fits (@List.length (@Kd.T (@Kd.int Go.IntKind.u8)) y7) (@List.length (@Kd.T (@Kd.int Go.IntKind.u8)) (x2 :: [])) (1 : Nat)) (K y6 (@HAppend.hAppend (@Kd.T (@Kd.sl (@Kd.int Go.IntKind.u8))) (@List (@Kd.T (@Kd.int Go.IntKind.u8))) (@Kd.T (@Kd.sl (@Kd.int Go.IntKind.u8))) (@instHAppendOfAppend (@Kd.T (@Kd.sl (@Kd.int Go.IntKind.u8))) (@List.instAppend (@Kd.T (@Kd.int Go.IntKind.u8)))) y7 (x2 :: []))) (@Option.none R))))
theorem wqdr (k : Nat) {R : Type} (I : Nat → St → Option R) (x0 : (List (Int × (Int × ((List UInt8) × (Bool × ((List (List UInt8)) × (List Int)))))))) (x1 : (List Int)) (x2 : Int) (K : ((List (Int × (Int × ((List UInt8) × (Bool × ((List (List UInt8)) × (List Int))))))) → (List Int) → Option R)) : fnK (wq6l k) k wq5u 17 [.tmp 4] wq9h [.ptr 1 1, .v (.int .u8) x2] [(21, .row 5 (.int .u8) x1), (1, .var 44 [.v (.sl (.pr (.int .i64) (.pr (.int .i64) (.pr .str (.pr .bool (.pr (.sl .str) (.sl (.int .i64)))))))) x0, .nps 1 1, .row 21])] (wq5t K) = wq74 k  x0 x1 x2 K := by kernel_rfl
def wq2s (k : Nat) {R : Type} (x0 : (List (Int × (Int × ((List UInt8) × (Bool × ((List (List UInt8)) × (List Int)))))))) (x1 : (List Int)) (x2 : Int) (K : ((List (Int × (Int × ((List UInt8) × (Bool × ((List (List UInt8)) × (List Int))))))) → (List Int) → Option R)) : Option R := wq74 k  x0 x1 x2 K
theorem wqds (k : Nat) {R : Type} (x0 : (List (Int × (Int × ((List UInt8) × (Bool × ((List (List UInt8)) × (List Int)))))))) (x1 : (List Int)) (x2 : Int) (K : ((List (Int × (Int × ((List UInt8) × (Bool × ((List (List UInt8)) × (List Int))))))) → (List Int) → Option R)) : fnK (wq6l k) k wq5u 17 [.tmp 4] wq9h [.ptr 1 1, .v (.int .u8) x2] [(21, .row 5 (.int .u8) x1), (1, .var 44 [.v (.sl (.pr (.int .i64) (.pr (.int .i64) (.pr .str (.pr .bool (.pr (.sl .str) (.sl (.int .i64)))))))) x0, .nps 1 1, .row 21])] (wq5t K) = wq2s k x0 x1 x2 K := by
  exact wqdr k (fun _ _ => none) x0 x1 x2 K
def wq68 (k : Nat) {R : Type} : List PV → List (Nm × HObj) → (Out → Option R) → Option R
  | [.ptr 1 1, .v (.int .u8) x2], [(21, .row 5 (.int .u8) x1), (1, .var 44 [.v (.sl (.pr (.int .i64) (.pr (.int .i64) (.pr .str (.pr .bool (.pr (.sl .str) (.sl (.int .i64)))))))) x0, .nps 1 1, .row 21])], K => wq2s k x0 x1 x2 (fun y0 y1 => K (.ret [.nilif] [(21, .row 5 (.int .u8) y1), (1, .var 44 [.v (.sl (.pr (.int .i64) (.pr (.int .i64) (.pr .str (.pr .bool (.pr (.sl .str) (.sl (.int .i64)))))))) y0, .nps 1 1, .row 21])]))
  | _, _, _ => none
theorem wqdt (k : Nat) : (wqab k).Ok Tryd.prog := (CTab.add_ok (fun h => wqaa k h) CTab.nil_ok)
theorem wqfk (k : Nat) {ps : List PV} {hp : List (Nm × HObj)} {R : Type} {K : Out → Option R} {r : R} (h : wq68 k ps hp K = some r) : DoesTo Tryd.prog 32 ps hp fun out => K out = some r := by
  unfold wq68 at h
  split at h
  · rw [← wqds] at h
    have := fn_ok (P := Tryd.prog) (cx := wq6l k) (f := 32) ⟨tyT_ok, wqdt k, fun _ _ => rfl⟩ (by kernel_rfl) (fn := Tryd.f32) (c := wq5u) (by kernel_rfl) (by kernel_rfl) (by kernel_rfl) (rs := [.tmp 4]) (by kernel_rfl) (by kernel_rfl) h
    exact this.mono fun out ho => by
      unfold wq5t at ho
      split at ho <;> first | exact ho | cases ho
  · cases h
abbrev wq12 : Type 1 := (R : Type) → (List (Int × (Int × ((List UInt8) × (Bool × ((List (List UInt8)) × (List Int))))))) → (List Int) → Int → Int → ((List (Int × (Int × ((List UInt8) × (Bool × ((List (List UInt8)) × (List Int))))))) → (List Int) → Option R) → Option R
abbrev wq15 : Type 1 := (R : Type) → (List (Int × (Int × ((List UInt8) × (Bool × ((List (List UInt8)) × (List Int))))))) → (List Int) → Int → Int → ((List (Int × (Int × ((List UInt8) × (Bool × ((List (List UInt8)) × (List Int))))))) → (List Int) → Option R) → Option R
abbrev wq1c (R : Type) : Type := ((List (Int × (Int × ((List UInt8) × (Bool × ((List (List UInt8)) × (List Int))))))) → (List Int) → Option R)
def wqbm : List LS := [.obj 1 [.sl (.pr (.int .i64) (.pr (.int .i64) (.pr .str (.pr .bool (.pr (.sl .str) (.sl (.int .i64))))))), .nps 1 1, .own 21 5 (.int .u8)], .any, .any]
def wq50 (wq3 : wq12) {R : Type} : List PV → List (Nm × HObj) → (Out → Option R) → Option R
  | [.ptr 1 0, .v (.int .i64) x2, .v (.int .i64) x3], [(21, .row 5 (.int .u8) x1), (1, .var 44 [.v (.sl (.pr (.int .i64) (.pr (.int .i64) (.pr .str (.pr .bool (.pr (.sl .str) (.sl (.int .i64)))))))) x0, .nps 1 1, .row 21])], K => wq3 R x0 x1 x2 x3 (fun y0 y1 => K (.ret [] [(21, .row 5 (.int .u8) y1), (1, .var 44 [.v (.sl (.pr (.int .i64) (.pr (.int .i64) (.pr .str (.pr .bool (.pr (.sl .str) (.sl (.int .i64)))))))) y0, .nps 1 1, .row 21])]))
  | _, _, _ => none
def wqqr : List LS := [.obj 1 [.sl (.pr (.int .i64) (.pr (.int .i64) (.pr .str (.pr .bool (.pr (.sl .str) (.sl (.int .i64))))))), .nps 1 1, .own 21 5 (.int .u8)], .any, .any]
def wqbn (wq4 : wq15) {R : Type} : List PV → List (Nm × HObj) → (Out → Option R) → Option R
  | [.ptr 1 0, .v (.int .i64) x2, .v (.int .i64) x3], [(21, .row 5 (.int .u8) x1), (1, .var 44 [.v (.sl (.pr (.int .i64) (.pr (.int .i64) (.pr .str (.pr .bool (.pr (.sl .str) (.sl (.int .i64)))))))) x0, .nps 1 1, .row 21])], K => wq4 R x0 x1 x2 x3 (fun y0 y1 => K (.ret [] [(21, .row 5 (.int .u8) y1), (1, .var 44 [.v (.sl (.pr (.int .i64) (.pr (.int .i64) (.pr .str (.pr .bool (.pr (.sl .str) (.sl (.int .i64)))))))) y0, .nps 1 1, .row 21])]))
  | _, _, _ => none
def wqi4 (k : Nat) (wq3 : wq12) (wq4 : wq15) : CTab := (CTab.add 14 wqbm (wq50 wq3) (CTab.add 24 wq153 (wqku k) (CTab.add 25 wq8k (wq3x k) (CTab.add 26 wqju (wqbc k) (CTab.add 27 wqqr (wqbn wq4) CTab.nil)))))
def wq1m {R : Type} (K : wq1c R) : Out → Option R
  | .ret [] [(21, .row 5 (.int .u8) y1), (1, .var 44 [.v (.sl (.pr (.int .i64) (.pr (.int .i64) (.pr .str (.pr .bool (.pr (.sl .str) (.sl (.int .i64)))))))) y0, .nps 1 1, .row 21])] => K y0 y1
  | _ => none
def wq2c : RetSpec := ⟨[], [(1, .obj 1 [.sl (.pr (.int .i64) (.pr (.int .i64) (.pr .str (.pr .bool (.pr (.sl .str) (.sl (.int .i64))))))), .nps 1 1, .own 21 5 (.int .u8)])], []⟩
def wqmz : List (Nat × CutSpec) := [(1008, ⟨[(0, .obj 1 [.sl (.pr (.int .i64) (.pr (.int .i64) (.pr .str (.pr .bool (.pr (.sl .str) (.sl (.int .i64))))))), .nps 1 1, .own 21 5 (.int .u8)]), (2, .any), (39, .sl (.int .i64)), (40, .any), (41, .any)], [(1, .obj 1 [.sl (.pr (.int .i64) (.pr (.int .i64) (.pr .str (.pr .bool (.pr (.sl .str) (.sl (.int .i64))))))), .nps 1 1, .own 21 5 (.int .u8)])]⟩), (1017, ⟨[(0, .obj 1 [.sl (.pr (.int .i64) (.pr (.int .i64) (.pr .str (.pr .bool (.pr (.sl .str) (.sl (.int .i64))))))), .nps 1 1, .own 21 5 (.int .u8)]), (2, .any), (6, .obj 16 [.any, .any, .any, .any, .sl .str, .sl (.int .i64)]), (64, .sl (.int .i64)), (65, .any), (66, .any)], [(1, .obj 1 [.sl (.pr (.int .i64) (.pr (.int .i64) (.pr .str (.pr .bool (.pr (.sl .str) (.sl (.int .i64))))))), .nps 1 1, .own 21 5 (.int .u8)])]⟩)]
def wqlt : List (Nat × Plan) := [(5, (.of [(0, 1), (1, 1), (2, 1), (3, 1), (4, 1), (5, 1), (6, 0)] .done)), (21, (.of [(0, 1), (1, 1), (2, 1), (3, 1), (5, 1), (4, 1), (6, 1), (7, 1), (8, 1), (9, 0)] .done))]
def wq6 (k : Nat) (wq3 : wq12) (wq4 : wq15) : Ctx := ⟨tyT, wqmz, wqi4 k wq3 wq4, [], [1], wqlt, @SH⟩
def wqm : Code := Tryd.f14.body.getD .skip
def wq40 (s0 : (List (Int × (Int × ((List UInt8) × (Bool × ((List (List UInt8)) × (List Int)))))))) (s1 : (List Int)) (s2 : Int) (s3 : (List Int)) (s4 s5 : Int) : St := ⟨mkT [(0, .ptr 1 0), (2, .v (.int .i64) s2), (39, .v (.sl (.int .i64)) s3), (40, .v (.int .i64) s4), (41, .v (.int .i64) s5)], mkH [(21, .row 5 (.int .u8) s1), (1, .var 44 [.v (.sl (.pr (.int .i64) (.pr (.int .i64) (.pr .str (.pr .bool (.pr (.sl .str) (.sl (.int .i64)))))))) s0, .nps 1 1, .row 21])]⟩
def wq41 (s0 : (List (Int × (Int × ((List UInt8) × (Bool × ((List (List UInt8)) × (List Int)))))))) (s1 : (List Int)) (s2 s3 s4 : Int) (s5 : (List UInt8)) (s6 : Bool) (s7 : (List (List UInt8))) (s8 s9 : (List Int)) (s10 s11 : Int) : St := ⟨mkT [(0, .ptr 1 0), (2, .v (.int .i64) s2), (6, .ptr 16 0), (64, .v (.sl (.int .i64)) s9), (65, .v (.int .i64) s10), (66, .v (.int .i64) s11)], mkH [(21, .row 5 (.int .u8) s1), (1, .var 44 [.v (.sl (.pr (.int .i64) (.pr (.int .i64) (.pr .str (.pr .bool (.pr (.sl .str) (.sl (.int .i64)))))))) s0, .nps 1 1, .row 21]), (16, .var 37 [.v (.int .i64) s3, .v (.int .i64) s4, .v .str s5, .v .bool s6, .v (.sl .str) s7, .v (.sl (.int .i64)) s8])]⟩
def wq5i (k : Nat) (wq3 : wq12) (wq4 : wq15) {R : Type} (E1008 : ((List (Int × (Int × ((List UInt8) × (Bool × ((List (List UInt8)) × (List Int))))))) → (List Int) → Int → (List Int) → Int → Int → Option R)) (s0 : (List (Int × (Int × ((List UInt8) × (Bool × ((List (List UInt8)) × (List Int)))))))) (s1 : (List Int)) (s2 : Int) (s3 : (List Int)) (s4 s5 : Int) (K : wq1c R) : Option R := (@cond (@Option R) (@Decidable.decide (@LT.lt Int Int.instLTInt s5 s4) (@Int.decLt s5 s4)) (@cond (@Option R) (@inb s5 (@Nat.cast Int instNatCastInt (@List.length (@Kd.T kI) s3))) (@cond (@Option R) (@Decidable.decide (@GT.gt Int Int.instLTInt s5 (0 : Int)) (@Int.decLt (0 : Int) s5)) (@wq7z k R s0 s1 s2 (fun y11 y12 => (@wqz k R y11 y12 ((45 : UInt8) :: ((32 : UInt8) :: [])) (fun y13 y14 y15 => (wq3 R y13 y14 (@List.getD (@Kd.T kI) s3 (@Int.toNat s5) (@Kd.zero kI)) (@Go.IntKind.wrap Go.IntKind.i64 (@HAdd.hAdd Int Int Int (@instHAdd Int @Int.instAdd) s2 (2 : Int))) (fun y16 y17 => (E1008 y16 y17 s2 s3 s4 (@Go.IntKind.wrap Go.IntKind.i64 (@HAdd.hAdd Int Int Int (@instHAdd Int @Int.instAdd) s5 (1 : Int)))))))))) (@wqz k R s0 s1 ((45 : UInt8) :: ((32 : UInt8) :: [])) (fun y11 y12 y13 => (wq3 R y11 y12 (@List.getD (@Kd.T kI) s3 (@Int.toNat s5) (@Kd.zero kI)) (@Go.IntKind.wrap Go.IntKind.i64 (@HAdd.hAdd Int Int Int (@instHAdd Int @Int.instAdd) s2 (2 : Int))) (fun y14 y15 => (E1008 y14 y15 s2 s3 s4 (@Go.IntKind.wrap Go.IntKind.i64 (@HAdd.hAdd Int Int Int (@instHAdd Int @Int.instAdd) s5 (1 : Int))))))))) (@Option.none R)) (K s0 s1))
theorem wqhi (k : Nat) (wq3 : wq12) (wq4 : wq15) {R : Type} (I : Nat → St → Option R) (s0 : (List (Int × (Int × ((List UInt8) × (Bool × ((List (List UInt8)) × (List Int)))))))) (s1 : (List Int)) (s2 : Int) (s3 : (List Int)) (s4 s5 : Int) (K : wq1c R) : execK (wq6 k wq3 wq4) k (at_ [1, 1, 0, 1, 1, 1, 0, 1, 0, 0] wqm) (wq40 s0 s1 s2 s3 s4 s5) (konts (wq6 k wq3 wq4) k I [1, 1, 0, 1, 1, 1, 0, 1, 0, 0] wqm (outK (wq6 k wq3 wq4) wq2c [] (wq1m K))) = wq5i k wq3 wq4 (fun s0 s1 s2 s3 s4 s5 => I 1008 (wq40 s0 s1 s2 s3 s4 s5)) s0 s1 s2 s3 s4 s5 K := by kernel_rfl
def wq5j (k : Nat) (wq3 : wq12) (wq4 : wq15) {R : Type} (E1017 : ((List (Int × (Int × ((List UInt8) × (Bool × ((List (List UInt8)) × (List Int))))))) → (List Int) → Int → Int → Int → (List UInt8) → Bool → (List (List UInt8)) → (List Int) → (List Int) → Int → Int → Option R)) (s0 : (List (Int × (Int × ((List UInt8) × (Bool × ((List (List UInt8)) × (List Int)))))))) (s1 : (List Int)) (s2 s3 s4 : Int) (s5 : (List UInt8)) (s6 : Bool) (s7 : (List (List UInt8))) (s8 s9 : (List Int)) (s10 s11 : Int) (K : wq1c R) : Option R := (@cond (@Option R) (@Decidable.decide (@LT.lt Int Int.instLTInt s11 s10) (@Int.decLt s11 s10)) (@cond (@Option R) (@inb s11 (@Nat.cast Int instNatCastInt (@List.length (@Kd.T kI) s9))) (@cond (@Option R) (@Decidable.decide (@GT.gt Int Int.instLTInt s11 (0 : Int)) (@Int.decLt (0 : Int) s11)) (@wq7z k R s0 s1 s2 (fun y17 y18 => (@cond (@Option R) (@inb s11 (@Nat.cast Int instNatCastInt (@List.length (@Kd.T Kd.str) s7))) (@cond (@Option R) (@joins (@List.getD (@Kd.T Kd.str) s7 (@Int.toNat s11) (@Kd.zero Kd.str)) ((58 : UInt8) :: [])) (@wqz k R y17 y18 (@HAppend.hAppend (@List UInt8) (@List UInt8) (@List UInt8) (@instHAppendOfAppend (@List UInt8) (@List.instAppend UInt8)) (@List.getD (@Kd.T Kd.str) s7 (@Int.toNat s11) (@Kd.zero Kd.str)) ((58 : UInt8) :: [])) (fun y19 y20 y21 => (wq4 R y19 y20 (@List.getD (@Kd.T kI) s9 (@Int.toNat s11) (@Kd.zero kI)) s2 (fun y22 y23 => (E1017 y22 y23 s2 s3 s4 s5 s6 s7 s8 s9 s10 (@Go.IntKind.wrap Go.IntKind.i64 (@HAdd.hAdd Int Int Int (@instHAdd Int @Int.instAdd) s11 (1 : Int)))))))) (@Option.none R)) (@Option.none R)))) (@cond (@Option R) (@inb s11 (@Nat.cast Int instNatCastInt (@List.length (@Kd.T Kd.str) s7))) (@cond (@Option R) (@joins (@List.getD (@Kd.T Kd.str) s7 (@Int.toNat s11) (@Kd.zero Kd.str)) ((58 : UInt8) :: [])) (@wqz k R s0 s1 (@HAppend.hAppend (@List UInt8) (@List UInt8) (@List UInt8) (@instHAppendOfAppend (@List UInt8) (@List.instAppend UInt8)) (@List.getD (@Kd.T Kd.str) s7 (@Int.toNat s11) (@Kd.zero Kd.str)) ((58 : UInt8) :: [])) (fun y17 y18 y19 => (wq4 R y17 y18 (@List.getD (@Kd.T kI) s9 (@Int.toNat s11) (@Kd.zero kI)) s2 (fun y20 y21 => (E1017 y20 y21 s2 s3 s4 s5 s6 s7 s8 s9 s10 (@Go.IntKind.wrap Go.IntKind.i64 (@HAdd.hAdd Int Int Int (@instHAdd Int @Int.instAdd) s11 (1 : Int)))))))) (@Option.none R)) (@Option.none R))) (@Option.none R)) (K s0 s1))
theorem wqhj (k : Nat) (wq3 : wq12) (wq4 : wq15) {R : Type} (I : Nat → St → Option R) (s0 : (List (Int × (Int × ((List UInt8) × (Bool × ((List (List UInt8)) × (List Int)))))))) (s1 : (List Int)) (s2 s3 s4 : Int) (s5 : (List UInt8)) (s6 : Bool) (s7 : (List (List UInt8))) (s8 s9 : (List Int)) (s10 s11 : Int) (K : wq1c R) : execK (wq6 k wq3 wq4) k (at_ [1, 1, 0, 1, 1, 1, 1, 1, 0, 1, 0, 0] wqm) (wq41 s0 s1 s2 s3 s4 s5 s6 s7 s8 s9 s10 s11) (konts (wq6 k wq3 wq4) k I [1, 1, 0, 1, 1, 1, 1, 1, 0, 1, 0, 0] wqm (outK (wq6 k wq3 wq4) wq2c [] (wq1m K))) = wq5j k wq3 wq4 (fun s0 s1 s2 s3 s4 s5 s6 s7 s8 s9 s10 s11 => I 1017 (wq41 s0 s1 s2 s3 s4 s5 s6 s7 s8 s9 s10 s11)) s0 s1 s2 s3 s4 s5 s6 s7 s8 s9 s10 s11 K := by kernel_rfl
def wq8l (k : Nat) (wq3 : wq12) (wq4 : wq15) {R : Type} (E1008 : ((List (Int × (Int × ((List UInt8) × (Bool × ((List (List UInt8)) × (List Int))))))) → (List Int) → Int → (List Int) → Int → Int → Option R)) (E1017 : ((List (Int × (Int × ((List UInt8) × (Bool × ((List (List UInt8)) × (List Int))))))) → (List Int) → Int → Int → Int → (List UInt8) → Bool → (List (List UInt8)) → (List Int) → (List Int) → Int → Int → Option R)) (x0 : (List (Int × (Int × ((List UInt8) × (Bool × ((List (List UInt8)) × (List Int)))))))) (x1 : (List Int)) (x2 x3 : Int) (K : wq1c R) : Option R := (@cond (@Option R) (@inb x2 (@Nat.cast Int instNatCastInt (@List.length (@Kd.T (@Kd.pr kI (@Kd.pr kI (@Kd.pr Kd.str (@Kd.pr Kd.bool (@Kd.pr (@Kd.sl Kd.str) (@Kd.sl kI))))))) x0))) (@cond (@Option R) (@BEq.beq Int (@instBEqOfDecidableEq Int @Int.instDecidableEq) (@List.getD (@Kd.T (@Kd.pr kI (@Kd.pr kI (@Kd.pr Kd.str (@Kd.pr Kd.bool (@Kd.pr (@Kd.sl Kd.str) (@Kd.sl kI))))))) x0 (@Int.toNat x2) (@Kd.zero (@Kd.pr kI (@Kd.pr kI (@Kd.pr Kd.str (@Kd.pr Kd.bool (@Kd.pr (@Kd.sl Kd.str) (@Kd.sl kI)))))))).1 (1 : Int)) (@cond (@Option R) (@List.getD (@Kd.T (@Kd.pr kI (@Kd.pr kI (@Kd.pr Kd.str (@Kd.pr Kd.bool (@Kd.pr (@Kd.sl Kd.str) (@Kd.sl kI))))))) x0 (@Int.toNat x2) (@Kd.zero (@Kd.pr kI (@Kd.pr kI (@Kd.pr Kd.str (@Kd.pr Kd.bool (@Kd.pr (@Kd.sl Kd.str) (@Kd.sl kI)))))))).2.2.2.1 (@wqgs k R (@List.getD (@Kd.T (@Kd.pr kI (@Kd.pr kI (@Kd.pr Kd.str (@Kd.pr Kd.bool (@Kd.pr (@Kd.sl Kd.str) (@Kd.sl kI))))))) x0 (@Int.toNat x2) (@Kd.zero (@Kd.pr kI (@Kd.pr kI (@Kd.pr Kd.str (@Kd.pr Kd.bool (@Kd.pr (@Kd.sl Kd.str) (@Kd.sl kI)))))))).2.2.1 (fun y9 => (@cond (@Option R) (@joins y9 ((10 : UInt8) :: [])) (@wqz k R x0 x1 (@HAppend.hAppend (@List UInt8) (@List UInt8) (@List UInt8) (@instHAppendOfAppend (@List UInt8) (@List.instAppend UInt8)) y9 ((10 : UInt8) :: [])) (fun y10 y11 y12 => (K y10 y11))) (@Option.none R)))) (@cond (@Option R) (@joins (@List.getD (@Kd.T (@Kd.pr kI (@Kd.pr kI (@Kd.pr Kd.str (@Kd.pr Kd.bool (@Kd.pr (@Kd.sl Kd.str) (@Kd.sl kI))))))) x0 (@Int.toNat x2) (@Kd.zero (@Kd.pr kI (@Kd.pr kI (@Kd.pr Kd.str (@Kd.pr Kd.bool (@Kd.pr (@Kd.sl Kd.str) (@Kd.sl kI)))))))).2.2.1 ((10 : UInt8) :: [])) (@wqz k R x0 x1 (@HAppend.hAppend (@List UInt8) (@List UInt8) (@List UInt8) (@instHAppendOfAppend (@List UInt8) (@List.instAppend UInt8)) (@List.getD (@Kd.T (@Kd.pr kI (@Kd.pr kI (@Kd.pr Kd.str (@Kd.pr Kd.bool (@Kd.pr (@Kd.sl Kd.str) (@Kd.sl kI))))))) x0 (@Int.toNat x2) (@Kd.zero (@Kd.pr kI (@Kd.pr kI (@Kd.pr Kd.str (@Kd.pr Kd.bool (@Kd.pr (@Kd.sl Kd.str) (@Kd.sl kI)))))))).2.2.1 ((10 : UInt8) :: [])) (fun y9 y10 y11 => (K y9 y10))) (@Option.none R))) (@cond (@Option R) (@BEq.beq Int (@instBEqOfDecidableEq Int @Int.instDecidableEq) (@List.getD (@Kd.T (@Kd.pr kI (@Kd.pr kI (@Kd.pr Kd.str (@Kd.pr Kd.bool (@Kd.pr (@Kd.sl Kd.str) (@Kd.sl kI))))))) x0 (@Int.toNat x2) (@Kd.zero (@Kd.pr kI (@Kd.pr kI (@Kd.pr Kd.str (@Kd.pr Kd.bool (@Kd.pr (@Kd.sl Kd.str) (@Kd.sl kI)))))))).1 (2 : Int)) (E1008 x0 x1 x3 (@List.getD (@Kd.T (@Kd.pr kI (@Kd.pr kI (@Kd.pr Kd.str (@Kd.pr Kd.bool (@Kd.pr (@Kd.sl Kd.str) (@Kd.sl kI))))))) x0 (@Int.toNat x2) (@Kd.zero (@Kd.pr kI (@Kd.pr kI (@Kd.pr Kd.str (@Kd.pr Kd.bool (@Kd.pr (@Kd.sl Kd.str) (@Kd.sl kI)))))))).2.2.2.2.2 (@Nat.cast Int instNatCastInt (@List.length (@Kd.T kI) (@List.getD (@Kd.T (@Kd.pr kI (@Kd.pr kI (@Kd.pr Kd.str (@Kd.pr Kd.bool (@Kd.pr (@Kd.sl Kd.str) (@Kd.sl kI))))))) x0 (@Int.toNat x2) (@Kd.zero (@Kd.pr kI (@Kd.pr kI (@Kd.pr Kd.str (@Kd.pr Kd.bool (@Kd.pr (@Kd.sl Kd.str) (@Kd.sl kI)))))))).2.2.2.2.2)) (0 : Int)) (@cond (@Option R) (@BEq.beq Int (@instBEqOfDecidableEq Int @Int.instDecidableEq) (@List.getD (@Kd.T (@Kd.pr kI (@Kd.pr kI (@Kd.pr Kd.str (@Kd.pr Kd.bool (@Kd.pr (@Kd.sl Kd.str) (@Kd.sl kI))))))) x0 (@Int.toNat x2) (@Kd.zero (@Kd.pr kI (@Kd.pr kI (@Kd.pr Kd.str (@Kd.pr Kd.bool (@Kd.pr (@Kd.sl Kd.str) (@Kd.sl kI)))))))).1 (3 : Int)) (E1017 x0 x1 x3 (@List.getD (@Kd.T (@Kd.pr kI (@Kd.pr kI (@Kd.pr Kd.str (@Kd.pr Kd.bool (@Kd.pr (@Kd.sl Kd.str) (@Kd.sl kI))))))) x0 (@Int.toNat x2) (@Kd.zero (@Kd.pr kI (@Kd.pr kI (@Kd.pr Kd.str (@Kd.pr Kd.bool (@Kd.pr (@Kd.sl Kd.str) (@Kd.sl kI)))))))).1 (@List.getD (@Kd.T (@Kd.pr kI (@Kd.pr kI (@Kd.pr Kd.str (@Kd.pr Kd.bool (@Kd.pr (@Kd.sl Kd.str) (@Kd.sl kI))))))) x0 (@Int.toNat x2) (@Kd.zero (@Kd.pr kI (@Kd.pr kI (@Kd.pr Kd.str (@Kd.pr Kd.bool (@Kd.pr (@Kd.sl Kd.str) (@Kd.sl kI)))))))).2.1 (@List.getD (@Kd.T (@Kd.pr kI (@Kd.pr kI (@Kd.pr Kd.str (@Kd.pr Kd.bool (@Kd.pr (@Kd.sl Kd.str) (@Kd.sl kI))))))) x0 (@Int.toNat x2) (@Kd.zero (@Kd.pr kI (@Kd.pr kI (@Kd.pr Kd.str (@Kd.pr Kd.bool (@Kd.pr (@Kd.sl Kd.str) (@Kd.sl kI)))))))).2.2.1 (@List.getD (@Kd.T (@Kd.pr kI (@Kd.pr kI (@Kd.pr Kd.str (@Kd.pr Kd.bool (@Kd.pr (@Kd.sl Kd.str) (@Kd.sl kI))))))) x0 (@Int.toNat x2) (@Kd.zero (@Kd.pr kI (@Kd.pr kI (@Kd.pr Kd.str (@Kd.pr Kd.bool (@Kd.pr (@Kd.sl Kd.str) (@Kd.sl kI)))))))).2.2.2.1 (@List.getD (@Kd.T (@Kd.pr kI (@Kd.pr kI (@Kd.pr Kd.str (@Kd.pr Kd.bool (@Kd.pr (@Kd.sl Kd.str) (@Kd.sl kI))))))) x0 (@Int.toNat x2) (@Kd.zero (@Kd.pr kI (@Kd.pr kI (@Kd.pr Kd.str (@Kd.pr Kd.bool (@Kd.pr (@Kd.sl Kd.str) (@Kd.sl kI)))))))).2.2.2.2.1 (@List.getD (@Kd.T (@Kd.pr kI (@Kd.pr kI (@Kd.pr Kd.str (@Kd.pr Kd.bool (@Kd.pr (@Kd.sl Kd.str) (@Kd.sl kI))))))) x0 (@Int.toNat x2) (@Kd.zero (@Kd.pr kI (@Kd.pr kI (@Kd.pr Kd.str (@Kd.pr Kd.bool (@Kd.pr (@Kd.sl Kd.str) (@Kd.sl kI)))))))).2.2.2.2.2 (@List.getD (@Kd.T (@Kd.pr kI (@Kd.pr kI (@Kd.pr Kd.str (@Kd.pr Kd.bool (@Kd.pr (@Kd.sl Kd.str) (@Kd.sl kI))))))) x0 (@Int.toNat x2) (@Kd.zero (@Kd.pr kI (@Kd.pr kI (@Kd.pr Kd.str (@Kd.pr Kd.bool (@Kd.pr (@Kd.sl Kd.str) (@Kd.sl kI)))))))).2.2.2.2.2 (@Nat.cast Int instNatCastInt (@List.length (@Kd.T kI) (@List.getD (@Kd.T (@Kd.pr kI (@Kd.pr kI (@Kd.pr Kd.str (@Kd.pr Kd.bool (@Kd.pr (@Kd.sl Kd.str) (@Kd.sl kI))))))) x0 (@Int.toNat x2) (@Kd.zero (@Kd.pr kI (@Kd.pr kI (@Kd.pr Kd.str (@Kd.pr Kd.bool (@Kd.pr (@Kd.sl Kd.str) (@Kd.sl kI)))))))).2.2.2.2.2)) (0 : Int)) (K x0 x1)))) (@Option.none R))
theorem wqn0 (k : Nat) (wq3 : wq12) (wq4 : wq15) {R : Type} (I : Nat → St → Option R) (x0 : (List (Int × (Int × ((List UInt8) × (Bool × ((List (List UInt8)) × (List Int)))))))) (x1 : (List Int)) (x2 x3 : Int) (K : wq1c R) : fnK (wq6 k wq3 wq4) k wqm 91 [] wq2c [.ptr 1 0, .v (.int .i64) x2, .v (.int .i64) x3] [(21, .row 5 (.int .u8) x1), (1, .var 44 [.v (.sl (.pr (.int .i64) (.pr (.int .i64) (.pr .str (.pr .bool (.pr (.sl .str) (.sl (.int .i64)))))))) x0, .nps 1 1, .row 21])] (wq1m K) = wq8l k wq3 wq4 (fun s0 s1 s2 s3 s4 s5 => iter (wq6 k wq3 wq4).pv (look (wq6 k wq3 wq4).cuts 1008) (execK (wq6 k wq3 wq4) k (at_ [1, 1, 0, 1, 1, 1, 0, 1, 0, 0] wqm)) k (wq40 s0 s1 s2 s3 s4 s5) (konts (wq6 k wq3 wq4) k I [1, 1, 0, 1, 1, 1, 0, 1, 0] wqm (outK (wq6 k wq3 wq4) wq2c [] (wq1m K)))) (fun s0 s1 s2 s3 s4 s5 s6 s7 s8 s9 s10 s11 => iter (wq6 k wq3 wq4).pv (look (wq6 k wq3 wq4).cuts 1017) (execK (wq6 k wq3 wq4) k (at_ [1, 1, 0, 1, 1, 1, 1, 1, 0, 1, 0, 0] wqm)) k (wq41 s0 s1 s2 s3 s4 s5 s6 s7 s8 s9 s10 s11) (konts (wq6 k wq3 wq4) k I [1, 1, 0, 1, 1, 1, 1, 1, 0, 1, 0] wqm (outK (wq6 k wq3 wq4) wq2c [] (wq1m K)))) x0 x1 x2 x3 K := by kernel_rfl
def wq2e (k : Nat) (wq3 : wq12) (wq4 : wq15) {R : Type}  : Nat → (List (Int × (Int × ((List UInt8) × (Bool × ((List (List UInt8)) × (List Int))))))) → (List Int) → Int → Int → Int → (List UInt8) → Bool → (List (List UInt8)) → (List Int) → (List Int) → Int → Int → ((List (Int × (Int × ((List UInt8) × (Bool × ((List (List UInt8)) × (List Int))))))) → (List Int) → Option R) → Option R
  | 0, _, _, _, _, _, _, _, _, _, _, _, _, _ => none
  | n + 1, s0, s1, s2, s3, s4, s5, s6, s7, s8, s9, s10, s11, K => wq5j k wq3 wq4 (fun s0 s1 s2 s3 s4 s5 s6 s7 s8 s9 s10 s11 => wq2e k wq3 wq4  n s0 s1 s2 s3 s4 s5 s6 s7 s8 s9 s10 s11 K) s0 s1 s2 s3 s4 s5 s6 s7 s8 s9 s10 s11 K
theorem wqhk (k : Nat) (wq3 : wq12) (wq4 : wq15) {R : Type} (I : Nat → St → Option R) (K : wq1c R) : ∀ (n : Nat) (s0 : (List (Int × (Int × ((List UInt8) × (Bool × ((List (List UInt8)) × (List Int)))))))) (s1 : (List Int)) (s2 s3 s4 : Int) (s5 : (List UInt8)) (s6 : Bool) (s7 : (List (List UInt8))) (s8 s9 : (List Int)) (s10 s11 : Int), iter (wq6 k wq3 wq4).pv (look (wq6 k wq3 wq4).cuts 1017) (execK (wq6 k wq3 wq4) k (at_ [1, 1, 0, 1, 1, 1, 1, 1, 0, 1, 0, 0] wqm)) n (wq41 s0 s1 s2 s3 s4 s5 s6 s7 s8 s9 s10 s11) (konts (wq6 k wq3 wq4) k I [1, 1, 0, 1, 1, 1, 1, 1, 0, 1, 0] wqm (outK (wq6 k wq3 wq4) wq2c [] (wq1m K))) = wq2e k wq3 wq4  n s0 s1 s2 s3 s4 s5 s6 s7 s8 s9 s10 s11 K := by
  intro n
  induction n with
  | zero => intros; rfl
  | succ n ih =>
    intro s0 s1 s2 s3 s4 s5 s6 s7 s8 s9 s10 s11
    let I' : Nat → St → Option R := fun id s => bif Nat.beq id 1017 then iter (wq6 k wq3 wq4).pv (look (wq6 k wq3 wq4).cuts 1017) (execK (wq6 k wq3 wq4) k (at_ [1, 1, 0, 1, 1, 1, 1, 1, 0, 1, 0, 0] wqm)) n s (konts (wq6 k wq3 wq4) k I [1, 1, 0, 1, 1, 1, 1, 1, 0, 1, 0] wqm (outK (wq6 k wq3 wq4) wq2c [] (wq1m K))) else I id s
    have e := wqhj k wq3 wq4 I' s0 s1 s2 s3 s4 s5 s6 s7 s8 s9 s10 s11 K
    have h1017 : (fun s0 s1 s2 s3 s4 s5 s6 s7 s8 s9 s10 s11 => I' 1017 (wq41 s0 s1 s2 s3 s4 s5 s6 s7 s8 s9 s10 s11)) = (fun s0 s1 s2 s3 s4 s5 s6 s7 s8 s9 s10 s11 => wq2e k wq3 wq4  n s0 s1 s2 s3 s4 s5 s6 s7 s8 s9 s10 s11 K) := by funext s0 s1 s2 s3 s4 s5 s6 s7 s8 s9 s10 s11; exact ih s0 s1 s2 s3 s4 s5 s6 s7 s8 s9 s10 s11
    refine Eq.trans (?_ : _ = _) (e.trans (Eq.trans ((congrArg ((fun E1017 => wq5j k wq3 wq4 E1017 s0 s1 s2 s3 s4 s5 s6 s7 s8 s9 s10 s11 K)) h1017)) (by rw [wq2e])))
    rfl
def wq21 (k : Nat) (wq3 : wq12) (wq4 : wq15) {R : Type}  : Nat → (List (Int × (Int × ((List UInt8) × (Bool × ((List (List UInt8)) × (List Int))))))) → (List Int) → Int → (List Int) → Int → Int → ((List (Int × (Int × ((List UInt8) × (Bool × ((List (List UInt8)) × (List Int))))))) → (List Int) → Option R) → Option R
  | 0, _, _, _, _, _, _, _ => none
  | n + 1, s0, s1, s2, s3, s4, s5, K => wq5i k wq3 wq4 (fun s0 s1 s2 s3 s4 s5 => wq21 k wq3 wq4  n s0 s1 s2 s3 s4 s5 K) s0 s1 s2 s3 s4 s5 K
theorem wqhl (k : Nat) (wq3 : wq12) (wq4 : wq15) {R : Type} (I : Nat → St → Option R) (K : wq1c R) : ∀ (n : Nat) (s0 : (List (Int × (Int × ((List UInt8) × (Bool × ((List (List UInt8)) × (List Int)))))))) (s1 : (List Int)) (s2 : Int) (s3 : (List Int)) (s4 s5 : Int), iter (wq6 k wq3 wq4).pv (look (wq6 k wq3 wq4).cuts 1008) (execK (wq6 k wq3 wq4) k (at_ [1, 1, 0, 1, 1, 1, 0, 1, 0, 0] wqm)) n (wq40 s0 s1 s2 s3 s4 s5) (konts (wq6 k wq3 wq4) k I [1, 1, 0, 1, 1, 1, 0, 1, 0] wqm (outK (wq6 k wq3 wq4) wq2c [] (wq1m K))) = wq21 k wq3 wq4  n s0 s1 s2 s3 s4 s5 K := by
  intro n
  induction n with
  | zero => intros; rfl
  | succ n ih =>
    intro s0 s1 s2 s3 s4 s5
    let I' : Nat → St → Option R := fun id s => bif Nat.beq id 1008 then iter (wq6 k wq3 wq4).pv (look (wq6 k wq3 wq4).cuts 1008) (execK (wq6 k wq3 wq4) k (at_ [1, 1, 0, 1, 1, 1, 0, 1, 0, 0] wqm)) n s (konts (wq6 k wq3 wq4) k I [1, 1, 0, 1, 1, 1, 0, 1, 0] wqm (outK (wq6 k wq3 wq4) wq2c [] (wq1m K))) else I id s
    have e := wqhi k wq3 wq4 I' s0 s1 s2 s3 s4 s5 K
    have h1008 : (fun s0 s1 s2 s3 s4 s5 => I' 1008 (wq40 s0 s1 s2 s3 s4 s5)) = (fun s0 s1 s2 s3 s4 s5 => wq21 k wq3 wq4  n s0 s1 s2 s3 s4 s5 K) := by funext s0 s1 s2 s3 s4 s5; exact ih s0 s1 s2 s3 s4 s5
    refine Eq.trans (?_ : _ = _) (e.trans (Eq.trans ((congrArg ((fun E1008 => wq5i k wq3 wq4 E1008 s0 s1 s2 s3 s4 s5 K)) h1008)) (by rw [wq21])))
    rfl
def wqjv (k : Nat) (wq3 : wq12) (wq4 : wq15) : CTab := (CTab.add 14 wqbm (wq50 wq3) (CTab.add 26 wqju (wqbc k) (CTab.add 32 wqec (wq68 k) CTab.nil)))
def wqbo {R : Type} (K : wq1c R) : Out → Option R
  | .ret [] [(21, .row 5 (.int .u8) y1), (1, .var 44 [.v (.sl (.pr (.int .i64) (.pr (.int .i64) (.pr .str (.pr .bool (.pr (.sl .str) (.sl (.int .i64)))))))) y0, .nps 1 1, .row 21])] => K y0 y1
  | _ => none
def wqi5 : RetSpec := ⟨[], [(1, .obj 1 [.sl (.pr (.int .i64) (.pr (.int .i64) (.pr .str (.pr .bool (.pr (.sl .str) (.sl (.int .i64))))))), .nps 1 1, .own 21 5 (.int .u8)])], []⟩
def wqoh : List (Nat × CutSpec) := []
def wqn1 : List (Nat × Plan) := []
def wqde (k : Nat) (wq3 : wq12) (wq4 : wq15) : Ctx := ⟨tyT, wqoh, wqjv k wq3 wq4, [], [1], wqn1, @SH⟩
def wqbp : Code := Tryd.f27.body.getD .skip
def wqed (k : Nat) (wq3 : wq12) (wq4 : wq15) {R : Type}  (x0 : (List (Int × (Int × ((List UInt8) × (Bool × ((List (List UInt8)) × (List Int)))))))) (x1 : (List Int)) (x2 x3 : Int) (K : wq1c R) : Option R := (@cond (@Option R) (@inb x2 (@Nat.cast Int instNatCastInt (@List.length (@Kd.T (@Kd.pr kI (@Kd.pr kI (@Kd.pr Kd.str (@Kd.pr Kd.bool (@Kd.pr (@Kd.sl Kd.str) (@Kd.sl kI))))))) x0))) (@cond (@Option R) (@BEq.beq Int (@instBEqOfDecidableEq Int @Int.instDecidableEq) (@List.getD (@Kd.T (@Kd.pr kI (@Kd.pr kI (@Kd.pr Kd.str (@Kd.pr Kd.bool (@Kd.pr (@Kd.sl Kd.str) (@Kd.sl kI))))))) x0 (@Int.toNat x2) (@Kd.zero (@Kd.pr kI (@Kd.pr kI (@Kd.pr Kd.str (@Kd.pr Kd.bool (@Kd.pr (@Kd.sl Kd.str) (@Kd.sl kI)))))))).1 (1 : Int)) (@wq2s k R x0 x1 (32 : Int) (fun y7 y8 => (wq3 R y7 y8 x2 (@Go.IntKind.wrap Go.IntKind.i64 (@HAdd.hAdd Int Int Int (@instHAdd Int @Int.instAdd) x3 (2 : Int))) (fun y9 y10 => (K y9 y10))))) (@wq2s k R x0 x1 (10 : Int) (fun y7 y8 => (@wq7z k R y7 y8 (@Go.IntKind.wrap Go.IntKind.i64 (@HAdd.hAdd Int Int Int (@instHAdd Int @Int.instAdd) x3 (2 : Int))) (fun y9 y10 => (wq3 R y9 y10 x2 (@Go.IntKind.wrap Go.IntKind.i64 (@HAdd.hAdd Int Int Int (@instHAdd Int @Int.instAdd) x3 (2 : Int))) (fun y11 y12 => (K y11 y12)))))))) (@Option.none R))
theorem wqoi (k : Nat) (wq3 : wq12) (wq4 : wq15) {R : Type} (I : Nat → St → Option R) (x0 : (List (Int × (Int × ((List UInt8) × (Bool × ((List (List UInt8)) × (List Int)))))))) (x1 : (List Int)) (x2 x3 : Int) (K : wq1c R) : fnK (wqde k wq3 wq4) k wqbp 33 [] wqi5 [.ptr 1 0, .v (.int .i64) x2, .v (.int .i64) x3] [(21, .row 5 (.int .u8) x1), (1, .var 44 [.v (.sl (.pr (.int .i64) (.pr (.int .i64) (.pr .str (.pr .bool (.pr (.sl .str) (.sl (.int .i64)))))))) x0, .nps 1 1, .row 21])] (wqbo K) = wqed k wq3 wq4  x0 x1 x2 x3 K := by kernel_rfl
mutual
def wqb : Nat → (R : Type) → (List (Int × (Int × ((List UInt8) × (Bool × ((List (List UInt8)) × (List Int))))))) → (List Int) → Int → Int → ((List (Int × (Int × ((List UInt8) × (Bool × ((List (List UInt8)) × (List Int))))))) → (List Int) → Option R) → Option R
  | 0, _, _, _, _, _, _ => none
  | k + 1, R, x0, x1, x2, x3, K => wq8l k (wqb k) (FR_show_writer_pair k) (fun s0 s1 s2 s3 s4 s5 => wq21 k (wqb k) (FR_show_writer_pair k) k s0 s1 s2 s3 s4 s5 K) (fun s0 s1 s2 s3 s4 s5 s6 s7 s8 s9 s10 s11 => wq2e k (wqb k) (FR_show_writer_pair k) k s0 s1 s2 s3 s4 s5 s6 s7 s8 s9 s10 s11 K) x0 x1 x2 x3 K
def FR_show_writer_pair : Nat → (R : Type) → (List (Int × (Int × ((List UInt8) × (Bool × ((List (List UInt8)) × (List Int))))))) → (List Int) → Int → Int → ((List (Int × (Int × ((List UInt8) × (Bool × ((List (List UInt8)) × (List Int))))))) → (List Int) → Option R) → Option R
  | 0, _, _, _, _, _, _ => none
  | k + 1, R, x0, x1, x2, x3, K => wqed k (wqb k) (FR_show_writer_pair k)  x0 x1 x2 x3 K
end
def wq8m (k : Nat) {R : Type} (x0 : (List (Int × (Int × ((List UInt8) × (Bool × ((List (List UInt8)) × (List Int)))))))) (x1 : (List Int)) (x2 x3 : Int) (K : wq1c R) : Option R := wqb k R x0 x1 x2 x3 K
def wqee (k : Nat) {R : Type} (x0 : (List (Int × (Int × ((List UInt8) × (Bool × ((List (List UInt8)) × (List Int)))))))) (x1 : (List Int)) (x2 x3 : Int) (K : wq1c R) : Option R := FR_show_writer_pair k R x0 x1 x2 x3 K
theorem wqn2 (k : Nat) {R : Type} (x0 : (List (Int × (Int × ((List UInt8) × (Bool × ((List (List UInt8)) × (List Int)))))))) (x1 : (List Int)) (x2 x3 : Int) (K : wq1c R) : fnK (wq6 k (wqb k) (FR_show_writer_pair k)) k wqm 91 [] wq2c [.ptr 1 0, .v (.int .i64) x2, .v (.int .i64) x3] [(21, .row 5 (.int .u8) x1), (1, .var 44 [.v (.sl (.pr (.int .i64) (.pr (.int .i64) (.pr .str (.pr .bool (.pr (.sl .str) (.sl (.int .i64)))))))) x0, .nps 1 1, .row 21])] (wq1m K) = wqb (k + 1) R x0 x1 x2 x3 K := by
  rw [wqb]
  let I : Nat → St → Option R := fun _ _ => none
  have h1008 : (fun s0 s1 s2 s3 s4 s5 => iter (wq6 k (wqb k) (FR_show_writer_pair k)).pv (look (wq6 k (wqb k) (FR_show_writer_pair k)).cuts 1008) (execK (wq6 k (wqb k) (FR_show_writer_pair k)) k (at_ [1, 1, 0, 1, 1, 1, 0, 1, 0, 0] wqm)) k (wq40 s0 s1 s2 s3 s4 s5) (konts (wq6 k (wqb k) (FR_show_writer_pair k)) k I [1, 1, 0, 1, 1, 1, 0, 1, 0] wqm (outK (wq6 k (wqb k) (FR_show_writer_pair k)) wq2c [] (wq1m K)))) = (fun s0 s1 s2 s3 s4 s5 => wq21 k (wqb k) (FR_show_writer_pair k) k s0 s1 s2 s3 s4 s5 K) := by funext s0 s1 s2 s3 s4 s5; exact wqhl k (wqb k) (FR_show_writer_pair k) I K k s0 s1 s2 s3 s4 s5
  have h1017 : (fun s0 s1 s2 s3 s4 s5 s6 s7 s8 s9 s10 s11 => iter (wq6 k (wqb k) (FR_show_writer_pair k)).pv (look (wq6 k (wqb k) (FR_show_writer_pair k)).cuts 1017) (execK (wq6 k (wqb k) (FR_show_writer_pair k)) k (at_ [1, 1, 0, 1, 1, 1, 1, 1, 0, 1, 0, 0] wqm)) k (wq41 s0 s1 s2 s3 s4 s5 s6 s7 s8 s9 s10 s11) (konts (wq6 k (wqb k) (FR_show_writer_pair k)) k I [1, 1, 0, 1, 1, 1, 1, 1, 0, 1, 0] wqm (outK (wq6 k (wqb k) (FR_show_writer_pair k)) wq2c [] (wq1m K)))) = (fun s0 s1 s2 s3 s4 s5 s6 s7 s8 s9 s10 s11 => wq2e k (wqb k) (FR_show_writer_pair k) k s0 s1 s2 s3 s4 s5 s6 s7 s8 s9 s10 s11 K) := by funext s0 s1 s2 s3 s4 s5 s6 s7 s8 s9 s10 s11; exact wqhk k (wqb k) (FR_show_writer_pair k) I K k s0 s1 s2 s3 s4 s5 s6 s7 s8 s9 s10 s11
  exact (wqn0 k (wqb k) (FR_show_writer_pair k) I x0 x1 x2 x3 K).trans (Eq.trans (congrFun (congrArg ((fun E1008 E1017 => wq8l k (wqb k) (FR_show_writer_pair k) E1008 E1017 x0 x1 x2 x3 K)) h1008) _) (congrArg ((fun E1008 E1017 => wq8l k (wqb k) (FR_show_writer_pair k) E1008 E1017 x0 x1 x2 x3 K) (fun s0 s1 s2 s3 s4 s5 => wq21 k (wqb k) (FR_show_writer_pair k) k s0 s1 s2 s3 s4 s5 K)) h1017))
def wq4i (k : Nat) {R : Type} : List PV → List (Nm × HObj) → (Out → Option R) → Option R
  | [.ptr 1 0, .v (.int .i64) x2, .v (.int .i64) x3], [(21, .row 5 (.int .u8) x1), (1, .var 44 [.v (.sl (.pr (.int .i64) (.pr (.int .i64) (.pr .str (.pr .bool (.pr (.sl .str) (.sl (.int .i64)))))))) x0, .nps 1 1, .row 21])], K => wq8m k x0 x1 x2 x3 (fun y0 y1 => K (.ret [] [(21, .row 5 (.int .u8) y1), (1, .var 44 [.v (.sl (.pr (.int .i64) (.pr (.int .i64) (.pr .str (.pr .bool (.pr (.sl .str) (.sl (.int .i64)))))))) y0, .nps 1 1, .row 21])]))
  | _, _, _ => none
theorem wqoj (k : Nat) {R : Type} (x0 : (List (Int × (Int × ((List UInt8) × (Bool × ((List (List UInt8)) × (List Int)))))))) (x1 : (List Int)) (x2 x3 : Int) (K : wq1c R) : fnK (wqde k (wqb k) (FR_show_writer_pair k)) k wqbp 33 [] wqi5 [.ptr 1 0, .v (.int .i64) x2, .v (.int .i64) x3] [(21, .row 5 (.int .u8) x1), (1, .var 44 [.v (.sl (.pr (.int .i64) (.pr (.int .i64) (.pr .str (.pr .bool (.pr (.sl .str) (.sl (.int .i64)))))))) x0, .nps 1 1, .row 21])] (wqbo K) = FR_show_writer_pair (k + 1) R x0 x1 x2 x3 K := by
  rw [FR_show_writer_pair]
  exact wqoi k (wqb k) (FR_show_writer_pair k) (fun _ _ => none) x0 x1 x2 x3 K
def wq80 (k : Nat) {R : Type} : List PV → List (Nm × HObj) → (Out → Option R) → Option R
  | [.ptr 1 0, .v (.int .i64) x2, .v (.int .i64) x3], [(21, .row 5 (.int .u8) x1), (1, .var 44 [.v (.sl (.pr (.int .i64) (.pr (.int .i64) (.pr .str (.pr .bool (.pr (.sl .str) (.sl (.int .i64)))))))) x0, .nps 1 1, .row 21])], K => wqee k x0 x1 x2 x3 (fun y0 y1 => K (.ret [] [(21, .row 5 (.int .u8) y1), (1, .var 44 [.v (.sl (.pr (.int .i64) (.pr (.int .i64) (.pr .str (.pr .bool (.pr (.sl .str) (.sl (.int .i64)))))))) y0, .nps 1 1, .row 21])]))
  | _, _, _ => none
theorem wqn3 (k : Nat) (wq3 : wq12) (wq4 : wq15) (wqcm : ∀ {ps : List PV} {hp : List (Nm × HObj)} {R : Type} {K : Out → Option R} {r : R}, wq50 wq3 ps hp K = some r → DoesTo Tryd.prog 14 ps hp fun out => K out = some r) (wqtf : ∀ {ps : List PV} {hp : List (Nm × HObj)} {R : Type} {K : Out → Option R} {r : R}, wqbn wq4 ps hp K = some r → DoesTo Tryd.prog 27 ps hp fun out => K out = some r) : (wqi4 k wq3 wq4).Ok Tryd.prog := (CTab.add_ok (fun h => wqcm h) (CTab.add_ok (fun h => wq1a1 k h) (CTab.add_ok (fun h => wq98 k h) (CTab.add_ok (fun h => wqmy k h) (CTab.add_ok (fun h => wqtf h) CTab.nil_ok)))))
theorem wqok (k : Nat) (wq3 : wq12) (wq4 : wq15) (wqcm : ∀ {ps : List PV} {hp : List (Nm × HObj)} {R : Type} {K : Out → Option R} {r : R}, wq50 wq3 ps hp K = some r → DoesTo Tryd.prog 14 ps hp fun out => K out = some r) : (wqjv k wq3 wq4).Ok Tryd.prog := (CTab.add_ok (fun h => wqcm h) (CTab.add_ok (fun h => wqmy k h) (CTab.add_ok (fun h => wqfk k h) CTab.nil_ok)))
theorem wqgu : ∀ k : Nat, (∀ {ps : List PV} {hp : List (Nm × HObj)} {R : Type} {K : Out → Option R} {r : R}, wq4i k ps hp K = some r → DoesTo Tryd.prog 14 ps hp fun out => K out = some r) ∧ (∀ {ps : List PV} {hp : List (Nm × HObj)} {R : Type} {K : Out → Option R} {r : R}, wq80 k ps hp K = some r → DoesTo Tryd.prog 27 ps hp fun out => K out = some r) := by
  intro k
  induction k with
  | zero =>
    refine ⟨?_, ?_⟩
    · intro ps hp R K r h
      unfold wq4i at h
      split at h
      · unfold wq8m at h; rw [wqb] at h; cases h
      · cases h
    · intro ps hp R K r h
      unfold wq80 at h
      split at h
      · unfold wqee at h; rw [FR_show_writer_pair] at h; cases h
      · cases h
  | succ k ih =>
    obtain ⟨ih_show_writer_block, ih_show_writer_pair⟩ := ih
    refine ⟨?_, ?_⟩
    · intro ps hp R K r h
      unfold wq4i at h
      split at h
      · unfold wq8m at h; rw [← wqn2] at h
        have := fn_ok (P := Tryd.prog) (cx := wq6 k (wqb k) (FR_show_writer_pair k)) (f := 14) ⟨tyT_ok, wqn3 k (wqb k) (FR_show_writer_pair k) (fun h => ih_show_writer_block (by unfold wq50 at h; unfold wq4i; exact h)) (fun h => ih_show_writer_pair (by unfold wqbn at h; unfold wq80; exact h)), fun _ _ => rfl⟩ (by kernel_rfl) (fn := Tryd.f14) (c := wqm) (by kernel_rfl) (by kernel_rfl) (by kernel_rfl) (rs := []) (by kernel_rfl) (by kernel_rfl) h
        exact this.mono fun out ho => by
          unfold wq1m at ho
          split at ho <;> first | exact ho | cases ho
      · cases h
    · intro ps hp R K r h
      unfold wq80 at h
      split at h
      · unfold wqee at h; rw [← wqoj] at h
        have := fn_ok (P := Tryd.prog) (cx := wqde k (wqb k) (FR_show_writer_pair k)) (f := 27) ⟨tyT_ok, wqok k (wqb k) (FR_show_writer_pair k) (fun h => ih_show_writer_block (by unfold wq50 at h; unfold wq4i; exact h)), fun _ _ => rfl⟩ (by kernel_rfl) (fn := Tryd.f27) (c := wqbp) (by kernel_rfl) (by kernel_rfl) (by kernel_rfl) (rs := []) (by kernel_rfl) (by kernel_rfl) h
        exact this.mono fun out ho => by
          unfold wqbo at ho
          split at ho <;> first | exact ho | cases ho
      · cases h
theorem wqsg (k : Nat) {ps : List PV} {hp : List (Nm × HObj)} {R : Type} {K : Out → Option R} {r : R} (h : wq4i k ps hp K = some r) : DoesTo Tryd.prog 14 ps hp fun out => K out = some r := (wqgu k).1 h
theorem wq1c9 (k : Nat) {ps : List PV} {hp : List (Nm × HObj)} {R : Type} {K : Out → Option R} {r : R} (h : wq80 k ps hp K = some r) : DoesTo Tryd.prog 27 ps hp fun out => K out = some r := (wqgu k).2 h
end Go.Proofs.YtdfhgimidmfgfaaDoor.Pvm
namespace Go.Proofs.YtdfhgimidmfgfaaDoor.Pvm
open Go Go.Proofs
def wqit : List LS := [.obj 1 [.sl (.pr (.int .i64) (.pr (.int .i64) (.pr .str (.pr .bool (.pr (.sl .str) (.sl (.int .i64))))))), .nps 1 1, .own 21 5 (.int .u8)]]
def wqdf (k : Nat) : CTab := CTab.nil
def wq87 {R : Type} (K : ((List (Int × (Int × ((List UInt8) × (Bool × ((List (List UInt8)) × (List Int))))))) → (List Int) → Int → Option R)) : Out → Option R
  | .ret [.v (.int .i64) y2] [(21, .row 5 (.int .u8) y1), (1, .var 44 [.v (.sl (.pr (.int .i64) (.pr (.int .i64) (.pr .str (.pr .bool (.pr (.sl .str) (.sl (.int .i64)))))))) y0, .nps 1 1, .row 21])] => K y0 y1 y2
  | _ => none
def wqcr : RetSpec := ⟨[.any], [(1, .obj 1 [.sl (.pr (.int .i64) (.pr (.int .i64) (.pr .str (.pr .bool (.pr (.sl .str) (.sl (.int .i64))))))), .nps 1 1, .own 21 5 (.int .u8)])], []⟩
def wqhm : List (Nat × CutSpec) := []
def wqgv : List (Nat × Plan) := []
def wq99 (k : Nat) : Ctx := ⟨tyT, wqhm, wqdf k, [], [1], wqgv, @SH⟩
def wq88 : Code := Tryd.f15.body.getD .skip
def wq9u (k : Nat) {R : Type}  (x0 : (List (Int × (Int × ((List UInt8) × (Bool × ((List (List UInt8)) × (List Int)))))))) (x1 : (List Int)) (K : ((List (Int × (Int × ((List UInt8) × (Bool × ((List (List UInt8)) × (List Int))))))) → (List Int) → Int → Option R)) : Option R := (K x0 x1 (@Nat.cast Int instNatCastInt (@List.length (@Kd.T (@Kd.int Go.IntKind.u8)) x1)))
theorem wqhn (k : Nat) {R : Type} (I : Nat → St → Option R) (x0 : (List (Int × (Int × ((List UInt8) × (Bool × ((List (List UInt8)) × (List Int)))))))) (x1 : (List Int)) (K : ((List (Int × (Int × ((List UInt8) × (Bool × ((List (List UInt8)) × (List Int))))))) → (List Int) → Int → Option R)) : fnK (wq99 k) k wq88 8 [.tmp 2] wqcr [.ptr 1 1] [(21, .row 5 (.int .u8) x1), (1, .var 44 [.v (.sl (.pr (.int .i64) (.pr (.int .i64) (.pr .str (.pr .bool (.pr (.sl .str) (.sl (.int .i64)))))))) x0, .nps 1 1, .row 21])] (wq87 K) = wq9u k  x0 x1 K := by kernel_rfl
def wq7b (k : Nat) {R : Type} (x0 : (List (Int × (Int × ((List UInt8) × (Bool × ((List (List UInt8)) × (List Int)))))))) (x1 : (List Int)) (K : ((List (Int × (Int × ((List UInt8) × (Bool × ((List (List UInt8)) × (List Int))))))) → (List Int) → Int → Option R)) : Option R := wq9u k  x0 x1 K
theorem wqho (k : Nat) {R : Type} (x0 : (List (Int × (Int × ((List UInt8) × (Bool × ((List (List UInt8)) × (List Int)))))))) (x1 : (List Int)) (K : ((List (Int × (Int × ((List UInt8) × (Bool × ((List (List UInt8)) × (List Int))))))) → (List Int) → Int → Option R)) : fnK (wq99 k) k wq88 8 [.tmp 2] wqcr [.ptr 1 1] [(21, .row 5 (.int .u8) x1), (1, .var 44 [.v (.sl (.pr (.int .i64) (.pr (.int .i64) (.pr .str (.pr .bool (.pr (.sl .str) (.sl (.int .i64)))))))) x0, .nps 1 1, .row 21])] (wq87 K) = wq7b k x0 x1 K := by
  exact wqhn k (fun _ _ => none) x0 x1 K
def wq8x (k : Nat) {R : Type} : List PV → List (Nm × HObj) → (Out → Option R) → Option R
  | [.ptr 1 1], [(21, .row 5 (.int .u8) x1), (1, .var 44 [.v (.sl (.pr (.int .i64) (.pr (.int .i64) (.pr .str (.pr .bool (.pr (.sl .str) (.sl (.int .i64)))))))) x0, .nps 1 1, .row 21])], K => wq7b k x0 x1 (fun y0 y1 y2 => K (.ret [.v (.int .i64) y2] [(21, .row 5 (.int .u8) y1), (1, .var 44 [.v (.sl (.pr (.int .i64) (.pr (.int .i64) (.pr .str (.pr .bool (.pr (.sl .str) (.sl (.int .i64)))))))) y0, .nps 1 1, .row 21])]))
  | _, _, _ => none
theorem wqhp (k : Nat) : (wqdf k).Ok Tryd.prog := CTab.nil_ok
theorem wqkv (k : Nat) {ps : List PV} {hp : List (Nm × HObj)} {R : Type} {K : Out → Option R} {r : R} (h : wq8x k ps hp K = some r) : DoesTo Tryd.prog 15 ps hp fun out => K out = some r := by
  unfold wq8x at h
  split at h
  · rw [← wqho] at h
    have := fn_ok (P := Tryd.prog) (cx := wq99 k) (f := 15) ⟨tyT_ok, wqhp k, fun _ _ => rfl⟩ (by kernel_rfl) (fn := Tryd.f15) (c := wq88) (by kernel_rfl) (by kernel_rfl) (by kernel_rfl) (rs := [.tmp 2]) (by kernel_rfl) (by kernel_rfl) h
    exact this.mono fun out ho => by
      unfold wq87 at ho
      split at ho <;> first | exact ho | cases ho
  · cases h
end Go.Proofs.YtdfhgimidmfgfaaDoor.Pvm
set_option maxHeartbeats 2000000
set_option maxRecDepth 100000
namespace Go.Proofs.YtdfhgimidmfgfaaDoor.Pvm
open Go Go.Proofs Go.RowKit
theorem wq11n (b g cap : Nat) (d p : Value) (l : List UInt8) (cur : Array Value) (w : World) (hbk : w.heap[b]? = some (.cells #[d, p, .slice (some ⟨g, 0, none⟩) l.length cap] 44 (0, 0))) (h0 : l ≠ [])
    (hg : w.heap[g]? = some (.cells cur 5 (0, 0))) (hnc : l.length ≤ cap) (hcm : cap ≤ maxLen) (hcs : cur.size = cap) (htake : ∀ (j : Nat) (x : UInt8), l[j]? = some x → w.cell? ⟨g, j, none⟩ = some (.int .u8 x.toNat)) :
    Calls Tryd.prog 16 #[.pointer (some ⟨b, 1, none⟩)] w fun e w' => e = .returned (.string ⟨l.toArray⟩) ∧ w' = w.drew.freeze ⟨g, 0, none⟩ l.length := by
  have hl0 : l.length ≠ 0 := by simpa using h0
  have mixed : Tryd.prog.follows .mixedOrders = true := by kernel_rfl
  have t86 : Tryd.prog.underlying 60 = some (.pointer 5) := by kernel_rfl
  have c1 : w.drew.cell? ⟨b, 2, none⟩ = some (.slice (some ⟨g, 0, none⟩) l.length cap) := by
    have : w.drew.heap[b]? = some (.cells #[d, p, .slice (some ⟨g, 0, none⟩) l.length cap] 44 (0, 0)) := hbk
    rw [Lib.cell_of_heap this]; rfl
  have hSD : (Builtin.unsafeSliceData_ #[27] 60 #[.slice (some ⟨g, 0, none⟩) l.length cap]).run Tryd.prog w.drew = .ok (.pointer (some ⟨g, 0, none⟩)) w.drew :=
    Lib.run_unsafeSliceData_row _ _ _ _ _ _ (by omega)
  have hUS : (Builtin.unsafeString_ #[60, 3] 9 #[.pointer (some ⟨g, 0, none⟩), .int .i64 l.length]).run Tryd.prog w.drew = .ok (.string ⟨l.toArray⟩) (w.drew.freeze ⟨g, 0, none⟩ l.length) := by
    refine Lib.run_unsafeString_row w.drew 60 3 9 5 t86 (by kernel_rfl) g cur.size (by have hg' : w.drew.heap[g]? = some (.cells cur 5 (0, 0)) := hg; simp [World.shape?, hg']) l h0 (by omega) (by unfold maxLen at hcm; omega) ?_
    intro j x hx
    have := htake j x hx
    rw [show (⟨g, 0, none⟩ : Addr).add j = ⟨g, j, none⟩ by simp [Addr.add]; omega]
    exact this
  go_enter Tryd.func16, Tryd.ntmps16
  go_wp2
  go_region_o
  all_goals (go_wp2; go_ret; exact ⟨rfl, rfl⟩)
theorem wq17p (b : Nat) (d p : Value) (w : World) (hbk : w.heap[b]? = some (.cells #[d, p, .slice none 0 0] 44 (0, 0))) :
    Calls Tryd.prog 16 #[.pointer (some ⟨b, 1, none⟩)] w fun e w' => e = .returned (.string ⟨#[]⟩) ∧ w' = w.drew := by
  have hUS := wq13e
  have mixed : Tryd.prog.follows .mixedOrders = true := by kernel_rfl
  have c1 : w.drew.cell? ⟨b, 2, none⟩ = some (.slice none 0 0) := by
    have : w.drew.heap[b]? = some (.cells #[d, p, .slice none 0 0] 44 (0, 0)) := hbk
    rw [Lib.cell_of_heap this]; rfl
  have hSD : (Builtin.unsafeSliceData_ #[27] 60 #[.slice none 0 0]).run Tryd.prog w.drew = .ok (.pointer none) w.drew := rfl
  go_enter Tryd.func16, Tryd.ntmps16
  go_wp2
  go_region_o
  all_goals (go_wp2; go_ret; exact ⟨rfl, rfl⟩)
theorem wq154 (b g cap : Nat) (d p : Value) (w : World) (hc0 : cap ≠ 0) (hbk : w.heap[b]? = some (.cells #[d, p, .slice (some ⟨g, 0, none⟩) 0 cap] 44 (0, 0))) :
    Calls Tryd.prog 16 #[.pointer (some ⟨b, 1, none⟩)] w fun e w' => e = .returned (.string ⟨#[]⟩) ∧ w' = w.drew := by
  have hUS := wq13e
  have mixed : Tryd.prog.follows .mixedOrders = true := by kernel_rfl
  have c1 : w.drew.cell? ⟨b, 2, none⟩ = some (.slice (some ⟨g, 0, none⟩) 0 cap) := by
    have : w.drew.heap[b]? = some (.cells #[d, p, .slice (some ⟨g, 0, none⟩) 0 cap] 44 (0, 0)) := hbk
    rw [Lib.cell_of_heap this]; rfl
  have hSD : (Builtin.unsafeSliceData_ #[27] 60 #[.slice (some ⟨g, 0, none⟩) 0 cap]).run Tryd.prog w.drew = .ok (.pointer (some ⟨g, 0, none⟩)) w.drew :=
    Lib.run_unsafeSliceData_row _ _ _ _ _ _ hc0
  clear hc0
  go_enter Tryd.func16, Tryd.ntmps16
  go_wp2
  go_region_o
  all_goals (go_wp2; go_ret; exact ⟨rfl, rfl⟩)
theorem wqyw (b g : Nat) (d p : Value) (cur : Array Value) (w : World) (hbk : w.heap[b]? = some (.cells #[d, p, .slice (some ⟨g, 0, none⟩) 0 0] 44 (0, 0))) (hg : w.heap[g]? = some (.cells cur 5 (0, 0))) :
    Calls Tryd.prog 16 #[.pointer (some ⟨b, 1, none⟩)] w fun e w' => e = .returned (.string ⟨#[]⟩) ∧ ∃ o, w' = (w.alloc o).drew := by
  have hUS := wq13e
  have hlt : b < w.heap.size := (Array.getElem?_eq_some_iff.1 hbk).1
  have mixed : Tryd.prog.follows .mixedOrders = true := by kernel_rfl
  have c1 : w.drew.cell? ⟨b, 2, none⟩ = some (.slice (some ⟨g, 0, none⟩) 0 0) := by
    have : w.drew.heap[b]? = some (.cells #[d, p, .slice (some ⟨g, 0, none⟩) 0 0] 44 (0, 0)) := hbk
    rw [Lib.cell_of_heap this]; rfl
  have hSD : (Builtin.unsafeSliceData_ #[27] 60 #[.slice (some ⟨g, 0, none⟩) 0 0]).run Tryd.prog w.drew = .ok (.pointer (some ⟨w.drew.heap.size, 0, none⟩)) (w.drew.alloc (.view ⟨g, 0, none⟩ 5)) :=
    Lib.run_unsafeSliceData_zero w.drew _ _ 5 (by kernel_rfl) ⟨g, 0, none⟩ 0 (5, cur.size) (by have hg' : w.drew.heap[g]? = some (.cells cur 5 (0, 0)) := hg; simp [World.shape?, hg'])
  have c2 : (w.drew.alloc (.view ⟨g, 0, none⟩ 5)).cell? ⟨b, 2, none⟩ = some (.slice (some ⟨g, 0, none⟩) 0 0) := by
    have : (w.drew.alloc (.view ⟨g, 0, none⟩ 5)).heap[b]? = _ := (Lib.alloc_old w.drew _ b hlt).trans hbk
    rw [Lib.cell_of_heap this]; rfl
  have c3 : (w.alloc (.view ⟨g, 0, none⟩ 5)).drew.cell? ⟨b, 2, none⟩ = some (.slice (some ⟨g, 0, none⟩) 0 0) := c2
  have c0 : w.cell? ⟨b, 2, none⟩ = some (.slice (some ⟨g, 0, none⟩) 0 0) := c1
  go_enter Tryd.func16, Tryd.ntmps16
  go_wp2
  go_region_o
  all_goals (go_wp2; go_ret; exact ⟨rfl, _, rfl⟩)
def wqfx : List LS := [.obj 1 [.sl (.pr (.int .i64) (.pr (.int .i64) (.pr .str (.pr .bool (.pr (.sl .str) (.sl (.int .i64))))))), .nps 1 1, .own 21 5 (.int .u8)]]
def wq5v (k : Nat) {R : Type} (d0 : (List (Int × (Int × ((List UInt8) × (Bool × ((List (List UInt8)) × (List Int)))))))) (x0 : List Int) (K : (List (Int × (Int × ((List UInt8) × (Bool × ((List (List UInt8)) × (List Int))))))) → List Int → List UInt8 → Option R) : Option R := bif allB x0 then K d0 x0 (wq6d x0) else none
def wq7c (k : Nat) {R : Type} : List PV → List (Nm × HObj) → (Out → Option R) → Option R
  | [.ptr 1 1], [(21, .row 5 (.int .u8) x0), (1, .var 44 [.v (.sl (.pr (.int .i64) (.pr (.int .i64) (.pr .str (.pr .bool (.pr (.sl .str) (.sl (.int .i64)))))))) d0, .nps 1 1, .row 21])], K => wq5v k d0 x0 (fun d1 y0 y1 => K (.ret [.v .str y1] [(1, .var 44 [.v (.sl (.pr (.int .i64) (.pr (.int .i64) (.pr .str (.pr .bool (.pr (.sl .str) (.sl (.int .i64)))))))) d1, .nps 1 1, .v (.sl (.int .u8)) y0])]))
  | _, _, _ => none
theorem wqdg (vs : Array Value) (w : World) : (callFunc 16 vs).run Tryd.prog w = .ok (.enter 16 vs) w := by
  have h1 : Tryd.prog.funcs[16]? = some Tryd.f16 := by kernel_rfl
  have h2 : (Tryd.f16.name == "runtime.NumGoroutine") = false := by kernel_rfl
  have h3 : Tryd.f16.body.isNone = false := by kernel_rfl
  unfold callFunc
  rw [Sem.run_bind]
  have e2 : (program).run Tryd.prog w = .ok Tryd.prog w := rfl
  rw [e2, Result.andThen_ok, h1]
  simp only [h2, h3, Bool.false_eq_true, if_false]
  rfl
theorem wq11o {G : Gh} {w w' : World} {d0 : (List (Int × (Int × ((List UInt8) × (Bool × ((List (List UInt8)) × (List Int)))))))} {x0 : List Int} {HP : List (Nm × HObj)} (hHP : HP = [(21, .row 5 (.int .u8) x0), (1, .var 44 [.v (.sl (.pr (.int .i64) (.pr (.int .i64) (.pr .str (.pr .bool (.pr (.sl .str) (.sl (.int .i64)))))))) d0, .nps 1 1, .row 21])])
    (obj : ∀ n o, mkH HP n = some o → RO (mkH HP) G w n o) (dis : Dis (mkH HP) G w) (hblk : ∀ b, b < w.heap.size → (∀ g, (G.rv 21).ownBlock = some g → b ≠ g) → w'.heap[b]? = w.heap[b]?)
    (hcell : ∀ g o, (G.rv 21).ownBlock = some g → w'.cell? ⟨g, o, none⟩ = w.cell? ⟨g, o, none⟩) (grow : w.heap.size ≤ w'.heap.size) (os : w'.os = w.os) (tape : w'.tape = w.tape) (out : w'.output = w.output) :
    Fin HP [(1, .var 44 [.v (.sl (.pr (.int .i64) (.pr (.int .i64) (.pr .str (.pr .bool (.pr (.sl .str) (.sl (.int .i64)))))))) d0, .nps 1 1, .v (.sl (.int .u8)) x0])] G w G w' := by
  have l1 : mkH HP 1 = some (.var 44 [.v (.sl (.pr (.int .i64) (.pr (.int .i64) (.pr .str (.pr .bool (.pr (.sl .str) (.sl (.int .i64)))))))) d0, .nps 1 1, .row 21]) := by subst hHP; rfl
  have l2 : mkH HP 21 = some (.row 5 (.int .u8) x0) := by subst hHP; rfl
  generalize hHS : [((1 : Nm), HObj.var 44 [.v (.sl (.pr (.int .i64) (.pr (.int .i64) (.pr .str (.pr .bool (.pr (.sl .str) (.sl (.int .i64)))))))) d0, .nps 1 1, .v (.sl (.int .u8)) x0])] = HS
  have m1 : mkH HS 1 = some (.var 44 [.v (.sl (.pr (.int .i64) (.pr (.int .i64) (.pr .str (.pr .bool (.pr (.sl .str) (.sl (.int .i64)))))))) d0, .nps 1 1, .v (.sl (.int .u8)) x0]) := by subst hHS; rfl
  have mo : ∀ n o, mkH HS n = some o → n = 1 := by
    intro n o h
    subst hHS
    simp only [mkH, look] at h
    cases hb : Nat.beq 1 n with
    | true => exact (Nat.eq_of_beq_eq_true hb).symm
    | false => rw [hb] at h; cases h
  have bk1 : blkOf (mkH HP) G 1 = some (G.bk 1) := by simp [blkOf, l1]
  have bk2 : blkOf (mkH HP) G 21 = (G.rv 21).ownBlock := by simp [blkOf, l2]
  have ck1 : blkOf (mkH HS) G 1 = some (G.bk 1) := by simp [blkOf, m1]
  have ck : ∀ n b, blkOf (mkH HS) G n = some b → n = 1 ∧ b = G.bk 1 := by
    intro n b h
    cases hn : mkH HS n with
    | none => simp [blkOf, hn] at h
    | some o => have := mo n o hn; subst this; rw [ck1] at h; cases h; exact ⟨rfl, rfl⟩
  have hne : ∀ g, (G.rv 21).ownBlock = some g → G.bk 1 ≠ g := fun g hg e => by
    have := dis.inj 1 21 g (by rw [bk1, e]) (by rw [bk2, hg])
    cases this
  obtain ⟨vs, hw, q0, t0, rfl, hq0, q1, t1, rfl, hq1, q2, t2, rfl, hq2, rfl⟩ := obj 1 _ l1
  obtain ⟨rfl, _⟩ := hq2
  have hlt : G.bk 1 < w.heap.size := (Array.getElem?_eq_some_iff.1 hw).1
  have hw' : w'.heap[G.bk 1]? = some (.cells [q0, q1, G.rv 21].toArray 44 (0, 0)) := by rw [hblk _ hlt hne]; exact hw
  have hmono : ∀ b, okB (mkH HP) G b → b < w.heap.size → okB (mkH HS) G b ∧ w'.heap[b]? = w.heap[b]? := fun b ho hb =>
    ⟨⟨fun n hn => by obtain ⟨_, e⟩ := ck n b hn; exact ho.1 1 (by rw [bk1, e]), ho.2⟩, hblk b hb fun g hg e => ho.1 21 (by rw [bk2, hg, e])⟩
  have hdat : RD w' (okB (mkH HS) G) (.sl (.int .u8)) x0 [G.rv 21] := by
    have hro := obj 21 _ l2
    obtain ⟨us, hown, hr, _⟩ := hro
    rcases hown.2 with ⟨hv, hn⟩ | ⟨g, cap, cur, hv, _, hgb, hnc, hcm, hcs, _⟩
    · exact ⟨none, 0, by rw [hv, hn], by omega, .inl (List.eq_nil_of_length_eq_zero hn)⟩
    · have hgo : (G.rv 21).ownBlock = some g := by rw [hv]; rfl
      refine ⟨_, cap, by rw [hv], hnc, .inr ⟨_, rfl, ?_, ?_, ?_⟩⟩
      · refine ⟨fun n hn => ?_, fun hx => dis.xo 21 g (by rw [bk2, hgo]) hx⟩
        obtain ⟨_, e⟩ := ck n g hn
        exact hne g hgo e.symm
      · have : g < w.heap.size := (Array.getElem?_eq_some_iff.1 hgb).1
        exact Nat.lt_of_lt_of_le this grow
      · intro i y hy
        obtain ⟨c, hc, hu⟩ := hr.get i y hy
        refine ⟨c, hc, fun j u hj => ?_⟩
        have := hown.cells hgo _ _ (hu j u hj)
        rw [Addr.add_lit] at this ⊢
        rw [hcell g _ hgo]
        exact this
  refine ⟨fun n o hn => ?_, fun n m b h1 h2 => (ck n b h1).1.trans (ck m b h2).1.symm, fun n t cs hn o ho => ?_, fun n ag V es hn o ho => (wqhs (by rw [hHP]; rfl) hn).elim, fun b hb hf => hblk b hb fun g hg e => hf 21 (by rw [bk2, hg, e]), rfl, fun n b hn => .inl ⟨1, by rw [(ck n b hn).2]; exact bk1⟩, grow, os, tape, out⟩
  · have := mo n o hn; subst this
    rw [m1] at hn; cases hn
    refine ⟨_, hw', _, _, rfl, RD.mono hmono hq0, _, _, rfl, ?_, _, _, rfl, hdat, rfl⟩
    rcases hq1 with h | ⟨h, _⟩
    · exact .inl h
    · exact .inr ⟨h, _, _, m1⟩
  · have e1 := mo n o ho
    subst e1
    have e2 : mkH HS 1 = some o := ho
    have e3 : mkH HP 1 = some (.var t cs) := hn
    rw [m1] at e2; rw [l1] at e3; cases e2; cases e3
    exact ⟨⟨_, rfl⟩, rfl⟩
theorem wqhq (k : Nat) {ps : List PV} {hp : List (Nm × HObj)} {R : Type} {K : Out → Option R} {r : R} (h : wq7c k ps hp K = some r) : DoesTo Tryd.prog 16 ps hp fun out => K out = some r := by
  unfold wq7c at h
  split at h
  · next x0 d0 =>
    intro G w vals hr obj dis
    unfold wq5v at h
    cases hb : allB x0 with
    | false => rw [hb] at h; cases h
    | true =>
      rw [hb, cond_true] at h
      obtain ⟨v0, l0, rfl, h0, rfl⟩ := hr
      obtain ⟨rfl, _⟩ := h0
      generalize hHP : [(21, HObj.row 5 (.int .u8) x0), (1, .var 44 [.v (.sl (.pr (.int .i64) (.pr (.int .i64) (.pr .str (.pr .bool (.pr (.sl .str) (.sl (.int .i64)))))))) d0, .nps 1 1, .row 21])] = HP at *
      have l1 : mkH HP 1 = some (.var 44 [.v (.sl (.pr (.int .i64) (.pr (.int .i64) (.pr .str (.pr .bool (.pr (.sl .str) (.sl (.int .i64)))))))) d0, .nps 1 1, .row 21]) := by subst hHP; rfl
      have l2 : mkH HP 21 = some (.row 5 (.int .u8) x0) := by subst hHP; rfl
      show Does _ _ #[_] _ _
      unfold Does
      rw [wqdg]
      obtain ⟨vs, hw, q0, t0, rfl, hq0, q1, t1, rfl, hq1, q2, t2, rfl, hq2, rfl⟩ := obj 1 _ l1
      obtain ⟨rfl, _⟩ := hq2
      have hro := obj 21 _ l2
      obtain ⟨us, hown, hrd, _⟩ := hro
      have fin : ∀ {e : Ending} {w' : World}, e = .returned (.string ⟨(wq6d x0).toArray⟩) → (∀ b, b < w.heap.size → (∀ g, (G.rv 21).ownBlock = some g → b ≠ g) → w'.heap[b]? = w.heap[b]?) → (∀ g o, (G.rv 21).ownBlock = some g → w'.cell? ⟨g, o, none⟩ = w.cell? ⟨g, o, none⟩) → w.heap.size ≤ w'.heap.size → w'.os = w.os → w'.tape = w.tape → w'.output = w.output →
          ∃ out, K out = some r ∧ ∃ G', OutIs G' w' e out ∧ Fin HP out.hs G w G' w' := by
        intro e w' he h1 h2 h3 h4 h5 h6
        exact ⟨_, h, G, ⟨_, he, rfl⟩, wq11o hHP.symm obj dis h1 h2 h3 h4 h5 h6⟩
      rcases hown.2 with ⟨hv, hn⟩ | ⟨g, cap, cur, hv, _, hgb, hnc, hcm, hcs, htk⟩
      · have hx : x0 = [] := List.eq_nil_of_length_eq_zero hn
        subst hx
        rw [hv] at hw
        refine Calls.mono (wq17p (G.bk 1) q0 q1 w hw) fun e w' hh => ?_
        obtain ⟨rfl, rfl⟩ := hh
        exact fin rfl (fun _ _ _ => rfl) (fun _ _ _ => rfl) (Nat.le_refl _) rfl rfl rfl
      · have hgo : (G.rv 21).ownBlock = some g := by rw [hv]; rfl
        rw [hv] at hw
        by_cases hx : x0 = []
        · subst hx
          by_cases hc0 : cap = 0
          · subst hc0
            refine Calls.mono (wqyw (G.bk 1) g q0 q1 cur w hw hgb) fun e w' hh => ?_
            obtain ⟨rfl, o, rfl⟩ := hh
            have hold : ∀ b, b < w.heap.size → (w.alloc o).drew.heap[b]? = w.heap[b]? := fun b hb => Lib.alloc_old w _ b hb
            refine fin rfl (fun b hb _ => hold b hb) (fun g' o' hg' => ?_) (by have := World.size_alloc w o; show _ ≤ (w.alloc o).heap.size; omega) rfl rfl rfl
            rw [hgo] at hg'; cases hg'
            exact World.cell?_of_block (hold g (Array.getElem?_eq_some_iff.1 hgb).1)
          · refine Calls.mono (wq154 (G.bk 1) g cap q0 q1 w hc0 hw) fun e w' hh => ?_
            obtain ⟨rfl, rfl⟩ := hh
            exact fin rfl (fun _ _ _ => rfl) (fun _ _ _ => rfl) (Nat.le_refl _) rfl rfl rfl
        · have hlen : (wq6d x0).length = x0.length := by simp [wq6d]
          have hbytes : ∀ (j : Nat) (x : UInt8), (wq6d x0)[j]? = some x → w.cell? ⟨g, j, none⟩ = some (.int .u8 x.toNat) := by
            intro j x hj
            have hjl : j < x0.length := by rw [← hlen]; exact (List.getElem?_eq_some_iff.1 hj).1
            have hy : x0[j]? = some x0[j] := by simp [hjl]
            obtain ⟨c, hc, hu⟩ := hrd.get j _ hy
            have hc : c = [.int .u8 x0[j]] := hc
            have h9 := hown.cells hgo _ _ (hu 0 (.int .u8 x0[j]) (by rw [hc]; rfl))
            rw [Addr.add_lit] at h9
            have hj2 : x = UInt8.ofNat (x0[j]).toNat := by
              simp only [wq6d, List.getElem?_map, hy, Option.map_some, Option.some.injEq] at hj
              exact hj.symm
            obtain ⟨h10, h11⟩ := wq1dv hb j _ hy
            have : ((x.toNat : Nat) : Int) = x0[j] := by
              rw [hj2, UInt8.toNat_ofNat']
              omega
            rw [this]
            have e0 : 0 + (j * Kd.sz (.int .u8) + 0) = j := by simp [Kd.sz]
            rw [e0] at h9
            exact h9
          rw [← hlen] at hw
          have hne : wq6d x0 ≠ [] := by intro e; rw [e] at hlen; exact hx (List.eq_nil_of_length_eq_zero hlen.symm)
          refine Calls.mono (wq11n (G.bk 1) g cap q0 q1 (wq6d x0) cur w hw hne hgb (by omega) hcm (by simpa [Kd.sz] using hcs) hbytes) fun e w' hh => ?_
          obtain ⟨rfl, rfl⟩ := hh
          have hfz : ∀ b, b ≠ g → (w.drew.freeze ⟨g, 0, none⟩ (wq6d x0).length).heap[b]? = w.heap[b]? := by
            intro b hb
            unfold World.freeze
            split
            · rfl
            · show (w.heap.modify g _)[b]? = _
              rw [Array.getElem?_modify, if_neg (Ne.symm hb)]
          refine fin rfl (fun b _ hb => hfz b (hb g hgo)) (fun g' o' hg' => ?_) ?_ ?_ ?_ ?_
          · rw [hgo] at hg'; cases hg'
            unfold World.freeze
            split
            · rfl
            · simp only [World.cell?, World.drew, Array.getElem?_modify, if_true, hgb, Option.map_some]
          all_goals
            unfold World.freeze
            split
            · first | rfl | exact Nat.le_refl _
            · first | rfl | (show w.heap.size ≤ (w.heap.modify g _).size; rw [Array.size_modify]; exact Nat.le_refl _)
  · cases h
end Go.Proofs.YtdfhgimidmfgfaaDoor.Pvm
set_option maxRecDepth 1000000
set_option maxHeartbeats 0
namespace Go.Proofs.YtdfhgimidmfgfaaDoor.Pvm
open Go Go.Proofs
def wqv4 : List LS := [.ag [.sl (.pr (.int .i64) (.pr (.int .i64) (.pr .str (.pr .bool (.pr (.sl .str) (.sl (.int .i64)))))))]]
def wq13j (k : Nat) : CTab := (CTab.add 9 wqko (wqd7 k) (CTab.add 14 wqbm (wq4i k) (CTab.add 15 wqit (wq8x k) (CTab.add 16 wqfx (wq7c k) CTab.nil))))
def wqkw {R : Type} (K : ((List Int) → Int → Option R)) : Out → Option R
  | .ret [.v (.sl (.int .u8)) y0, .v (.int .i64) y1] [] => K y0 y1
  | _ => none
def wqyx : RetSpec := ⟨[.sl (.int .u8), .any], [], []⟩
def wq155 : List (Nat × CutSpec) := []
def wq11p : List (Nat × Plan) := []
def wqqs (k : Nat) : Ctx := ⟨tyT, wq155, wq13j k, [], [], wq11p, @SH⟩
def wqkx : Code := Tryd.f7.body.getD .skip
def wqu9 (k : Nat) {R : Type}  (x0 : (List (Int × (Int × ((List UInt8) × (Bool × ((List (List UInt8)) × (List Int)))))))) (K : ((List Int) → Int → Option R)) : Option R := (@wq9t k R x0 (fun y4 => (@cond (@Option R) (@bne Int (@instBEqOfDecidableEq Int @Int.instDecidableEq) y4 (0 : Int)) (K [] y4) (@wq8m k R x0 [] (0 : Int) (0 : Int) (fun y5 y6 => (@wq7b k R y5 y6 (fun y7 y8 y9 => (@cond (@Option R) (@Decidable.decide (@GT.gt Int Int.instLTInt y9 (60000 : Int)) (@Int.decLt (60000 : Int) y9)) (K [] (4 : Int)) (@wq5v k R y7 y8 (fun y10 y11 y12 => (K (@wqs y12) (0 : Int))))))))))))
theorem wq156 (k : Nat) {R : Type} (I : Nat → St → Option R) (x0 : (List (Int × (Int × ((List UInt8) × (Bool × ((List (List UInt8)) × (List Int)))))))) (K : ((List Int) → Int → Option R)) : fnK (wqqs k) k wqkx 26 [.tmp 2, .tmp 3] wqyx [.agg [.v (.sl (.pr (.int .i64) (.pr (.int .i64) (.pr .str (.pr .bool (.pr (.sl .str) (.sl (.int .i64)))))))) x0]] [] (wqkw K) = wqu9 k  x0 K := by kernel_rfl
def wqef (k : Nat) {R : Type} (x0 : (List (Int × (Int × ((List UInt8) × (Bool × ((List (List UInt8)) × (List Int)))))))) (K : ((List Int) → Int → Option R)) : Option R := wqu9 k  x0 K
theorem wq157 (k : Nat) {R : Type} (x0 : (List (Int × (Int × ((List UInt8) × (Bool × ((List (List UInt8)) × (List Int)))))))) (K : ((List Int) → Int → Option R)) : fnK (wqqs k) k wqkx 26 [.tmp 2, .tmp 3] wqyx [.agg [.v (.sl (.pr (.int .i64) (.pr (.int .i64) (.pr .str (.pr .bool (.pr (.sl .str) (.sl (.int .i64)))))))) x0]] [] (wqkw K) = wqef k x0 K := by
  exact wq156 k (fun _ _ => none) x0 K
def wqi6 (k : Nat) {R : Type} : List PV → List (Nm × HObj) → (Out → Option R) → Option R
  | [.agg [.v (.sl (.pr (.int .i64) (.pr (.int .i64) (.pr .str (.pr .bool (.pr (.sl .str) (.sl (.int .i64)))))))) x0]], [], K => wqef k x0 (fun y0 y1 => K (.ret [.v (.sl (.int .u8)) y0, .v (.int .i64) y1] []))
  | _, _, _ => none
theorem wq158 (k : Nat) : (wq13j k).Ok Tryd.prog := (CTab.add_ok (fun h => wqqm k h) (CTab.add_ok (fun h => wqsg k h) (CTab.add_ok (fun h => wqkv k h) (CTab.add_ok (fun h => wqhq k h) CTab.nil_ok))))
theorem wq13k (k : Nat) {ps : List PV} {hp : List (Nm × HObj)} {R : Type} {K : Out → Option R} {r : R} (h : wqi6 k ps hp K = some r) : DoesTo Tryd.prog 7 ps hp fun out => K out = some r := by
  unfold wqi6 at h
  split at h
  · rw [← wq157] at h
    have := fn_ok (P := Tryd.prog) (cx := wqqs k) (f := 7) ⟨tyT_ok, wq158 k, fun _ _ => rfl⟩ (by kernel_rfl) (fn := Tryd.f7) (c := wqkx) (by kernel_rfl) (by kernel_rfl) (by kernel_rfl) (rs := [.tmp 2, .tmp 3]) (by kernel_rfl) (by kernel_rfl) h
    exact this.mono fun out ho => by
      unfold wqkw at ho
      split at ho <;> first | exact ho | cases ho
  · cases h
def wq11q : List LS := []
def wqv5 (k : Nat) : CTab := (CTab.add 7 wqv4 (wqi6 k) (CTab.add 9 wqko (wqd7 k) (CTab.add 12 wqv3 (wqi3 k) CTab.nil)))
def wqgw {R : Type} (K : (Bool → Option R)) : Out → Option R
  | .ret [.v .bool y0] [] => K y0
  | _ => none
def wqsh : RetSpec := ⟨[.any], [], []⟩
def wqyy : List (Nat × CutSpec) := []
def wqvx : List (Nat × Plan) := []
def wqky (k : Nat) : Ctx := ⟨tyT, wqyy, wqv5 k, [], [], wqvx, @SH⟩
def wqgx : Code := Tryd.f6.body.getD .skip
def wqn4 (k : Nat) {R : Type}   (K : (Bool → Option R)) : Option R := (@wqef k R (((3 : Int), ((0 : (@Kd.T kI)), ([], (Bool.false, ((((97 : UInt8) :: []) :: []), ((1 : Int) :: [])))))) :: (((2 : Int), ((0 : (@Kd.T kI)), ([], (Bool.false, ([], ((2 : Int) :: ((3 : Int) :: []))))))) :: (((1 : Int), ((0 : (@Kd.T kI)), (((98 : UInt8) :: []), (Bool.false, ([], []))))) :: (((1 : Int), ((0 : (@Kd.T kI)), (((99 : UInt8) :: []), (Bool.true, ([], []))))) :: [])))) (fun y3 y4 => (@wqef k R [] (fun y5 y6 => (@wq9t k R (((3 : Int), ((0 : (@Kd.T kI)), ([], (Bool.false, ((((97 : UInt8) :: []) :: []), ((1 : Int) :: [])))))) :: (((2 : Int), ((0 : (@Kd.T kI)), ([], (Bool.false, ([], ((2 : Int) :: ((3 : Int) :: []))))))) :: (((1 : Int), ((0 : (@Kd.T kI)), (((98 : UInt8) :: []), (Bool.false, ([], []))))) :: (((1 : Int), ((0 : (@Kd.T kI)), (((99 : UInt8) :: []), (Bool.true, ([], []))))) :: [])))) (fun y7 => (@cond (@Option R) (@BEq.beq (@Kd.T Kd.bool) (@instBEqOfDecidableEq (@Kd.T Kd.bool) @instDecidableEqBool) (@cond (@Kd.T Kd.bool) (@cond (@Kd.T Kd.bool) (@cond (@Kd.T Kd.bool) (@BEq.beq Int (@instBEqOfDecidableEq Int @Int.instDecidableEq) y7 (0 : Int)) (@BEq.beq Int (@instBEqOfDecidableEq Int @Int.instDecidableEq) y4 (0 : Int)) Bool.false) (@BEq.beq (@List UInt8) (@List.instBEq UInt8 (@instBEqOfDecidableEq UInt8 @instDecidableEqUInt8)) (@wq6d y3) ((97 : UInt8) :: ((58 : UInt8) :: ((10 : UInt8) :: ((32 : UInt8) :: ((32 : UInt8) :: ((45 : UInt8) :: ((32 : UInt8) :: ((98 : UInt8) :: ((10 : UInt8) :: ((32 : UInt8) :: ((32 : UInt8) :: ((45 : UInt8) :: ((32 : UInt8) :: ((34 : UInt8) :: ((99 : UInt8) :: ((34 : UInt8) :: ((10 : UInt8) :: [])))))))))))))))))) Bool.false) (@BEq.beq Int (@instBEqOfDecidableEq Int @Int.instDecidableEq) y6 (1 : Int)) Bool.false) Bool.true) (@wq8c k R (((3 : Int), ((0 : (@Kd.T kI)), ([], (Bool.false, ((((97 : UInt8) :: []) :: []), ((1 : Int) :: [])))))) :: (((2 : Int), ((0 : (@Kd.T kI)), ([], (Bool.false, ([], ((2 : Int) :: ((3 : Int) :: []))))))) :: (((1 : Int), ((0 : (@Kd.T kI)), (((98 : UInt8) :: []), (Bool.false, ([], []))))) :: (((1 : Int), ((0 : (@Kd.T kI)), (((99 : UInt8) :: []), (Bool.true, ([], []))))) :: [])))) (((3 : Int), ((0 : (@Kd.T kI)), ([], (Bool.false, ((((97 : UInt8) :: []) :: []), ((1 : Int) :: [])))))) :: (((2 : Int), ((0 : (@Kd.T kI)), ([], (Bool.false, ([], ((2 : Int) :: ((3 : Int) :: []))))))) :: (((1 : Int), ((0 : (@Kd.T kI)), (((98 : UInt8) :: []), (Bool.false, ([], []))))) :: (((1 : Int), ((0 : (@Kd.T kI)), (((99 : UInt8) :: []), (Bool.true, ([], []))))) :: [])))) (fun y8 => (@cond (@Option R) (@BEq.beq (@Kd.T Kd.bool) (@instBEqOfDecidableEq (@Kd.T Kd.bool) @instDecidableEqBool) y8 Bool.true) (@wq8c k R (((3 : Int), ((0 : (@Kd.T kI)), ([], (Bool.false, ((((97 : UInt8) :: []) :: []), ((1 : Int) :: [])))))) :: (((2 : Int), ((0 : (@Kd.T kI)), ([], (Bool.false, ([], ((2 : Int) :: ((3 : Int) :: []))))))) :: (((1 : Int), ((0 : (@Kd.T kI)), (((98 : UInt8) :: []), (Bool.false, ([], []))))) :: (((1 : Int), ((0 : (@Kd.T kI)), (((99 : UInt8) :: []), (Bool.true, ([], []))))) :: [])))) [] (fun y9 => (K (@Bool.not y9)))) (K Bool.false)))) (K Bool.false))))))))
theorem wqyz (k : Nat) {R : Type} (I : Nat → St → Option R)  (K : (Bool → Option R)) : fnK (wqky k) k wqgx 52 [.tmp 0] wqsh [] [] (wqgw K) = wqn4 k   K := by kernel_rfl
def wq8n (k : Nat) {R : Type}  (K : (Bool → Option R)) : Option R := wqn4 k   K
theorem wqz0 (k : Nat) {R : Type}  (K : (Bool → Option R)) : fnK (wqky k) k wqgx 52 [.tmp 0] wqsh [] [] (wqgw K) = wq8n k  K := by
  exact wqyz k (fun _ _ => none)  K
def wqiu (k : Nat) {R : Type} : List PV → List (Nm × HObj) → (Out → Option R) → Option R
  | [], [], K => wq8n k  (fun y0 => K (.ret [.v .bool y0] []))
  | _, _, _ => none
theorem wqz1 (k : Nat) : (wqv5 k).Ok Tryd.prog := (CTab.add_ok (fun h => wq13k k h) (CTab.add_ok (fun h => wqqm k h) (CTab.add_ok (fun h => wq13i k h) CTab.nil_ok)))
theorem wq17q (k : Nat) {ps : List PV} {hp : List (Nm × HObj)} {R : Type} {K : Out → Option R} {r : R} (h : wqiu k ps hp K = some r) : DoesTo Tryd.prog 6 ps hp fun out => K out = some r := by
  unfold wqiu at h
  split at h
  · rw [← wqz0] at h
    have := fn_ok (P := Tryd.prog) (cx := wqky k) (f := 6) ⟨tyT_ok, wqz1 k, fun _ _ => rfl⟩ (by kernel_rfl) (fn := Tryd.f6) (c := wqgx) (by kernel_rfl) (by kernel_rfl) (by kernel_rfl) (rs := [.tmp 0]) (by kernel_rfl) (by kernel_rfl) h
    exact this.mono fun out ho => by
      unfold wqgw at ho
      split at ho <;> first | exact ho | cases ho
  · cases h
def wq11r : List LS := [.ag [.sl (.pr (.int .i64) (.pr (.int .i64) (.pr .str (.pr .bool (.pr (.sl .str) (.sl (.int .i64)))))))]]
def wqv6 (k : Nat) : CTab := CTab.nil
def wq34 {R : Type} (K : (Bool → Option R)) : Out → Option R
  | .ret [.v .bool y0] [] => K y0
  | _ => none
def wq4t : RetSpec := ⟨[.any], [], []⟩
def wqz2 : List (Nat × CutSpec) := [(1003, ⟨[(1, .obj 11 [.sl (.pr (.int .i64) (.pr (.int .i64) (.pr .str (.pr .bool (.pr (.sl .str) (.sl (.int .i64)))))))]), (3, .any), (4, .any)], []⟩), (1008, ⟨[(1, .obj 11 [.sl (.pr (.int .i64) (.pr (.int .i64) (.pr .str (.pr .bool (.pr (.sl .str) (.sl (.int .i64)))))))]), (3, .any), (4, .any), (5, .obj 15 [.any, .any, .any, .any, .sl .str, .sl (.int .i64)]), (6, .any)], []⟩)]
def wqvy : List (Nat × Plan) := []
def wqg (k : Nat) : Ctx := ⟨tyT, wqz2, wqv6 k, [], [], wqvy, @SH⟩
def wq18 : Code := Tryd.f5.body.getD .skip
def wq3y (s0 : (List (Int × (Int × ((List UInt8) × (Bool × ((List (List UInt8)) × (List Int)))))))) (s1 s2 : Int) : St := ⟨mkT [(1, .ptr 11 0), (3, .v (.int .i64) s1), (4, .v (.int .i64) s2)], mkH [(11, .var 24 [.v (.sl (.pr (.int .i64) (.pr (.int .i64) (.pr .str (.pr .bool (.pr (.sl .str) (.sl (.int .i64)))))))) s0])]⟩
def wq6t (s0 : (List (Int × (Int × ((List UInt8) × (Bool × ((List (List UInt8)) × (List Int)))))))) (s1 s2 s3 s4 : Int) (s5 : (List UInt8)) (s6 : Bool) (s7 : (List (List UInt8))) (s8 : (List Int)) (s9 : Int) : St := ⟨mkT [(1, .ptr 11 0), (3, .v (.int .i64) s1), (4, .v (.int .i64) s2), (5, .ptr 15 0), (6, .v (.int .i64) s9)], mkH [(11, .var 24 [.v (.sl (.pr (.int .i64) (.pr (.int .i64) (.pr .str (.pr .bool (.pr (.sl .str) (.sl (.int .i64)))))))) s0]), (15, .var 37 [.v (.int .i64) s3, .v (.int .i64) s4, .v .str s5, .v .bool s6, .v (.sl .str) s7, .v (.sl (.int .i64)) s8])]⟩
def wq9a (k : Nat) {R : Type} (E1008 : ((List (Int × (Int × ((List UInt8) × (Bool × ((List (List UInt8)) × (List Int))))))) → Int → Int → Int → Int → (List UInt8) → Bool → (List (List UInt8)) → (List Int) → Int → Option R)) (s0 : (List (Int × (Int × ((List UInt8) × (Bool × ((List (List UInt8)) × (List Int)))))))) (s1 s2 : Int) (K : (Bool → Option R)) : Option R := (@cond (@Option R) (@cond (@Kd.T Kd.bool) (@Decidable.decide (@LT.lt Int Int.instLTInt s2 (@Nat.cast Int instNatCastInt (@List.length (@Kd.T (@Kd.pr kI (@Kd.pr kI (@Kd.pr Kd.str (@Kd.pr Kd.bool (@Kd.pr (@Kd.sl Kd.str) (@Kd.sl kI))))))) s0))) (@Int.decLt s2 (@Nat.cast Int instNatCastInt (@List.length (@Kd.T (@Kd.pr kI (@Kd.pr kI (@Kd.pr Kd.str (@Kd.pr Kd.bool (@Kd.pr (@Kd.sl Kd.str) (@Kd.sl kI))))))) s0)))) (@Decidable.decide (@LE.le Int Int.instLEInt s1 (4000 : Int)) (@Int.decLe s1 (4000 : Int))) Bool.false) (@cond (@Option R) (@inb s2 (@Nat.cast Int instNatCastInt (@List.length (@Kd.T (@Kd.pr kI (@Kd.pr kI (@Kd.pr Kd.str (@Kd.pr Kd.bool (@Kd.pr (@Kd.sl Kd.str) (@Kd.sl kI))))))) s0))) (E1008 s0 (@Go.IntKind.wrap Go.IntKind.i64 (@HAdd.hAdd Int Int Int (@instHAdd Int @Int.instAdd) (@Go.IntKind.wrap Go.IntKind.i64 (@HAdd.hAdd Int Int Int (@instHAdd Int @Int.instAdd) (@Go.IntKind.wrap Go.IntKind.i64 (@HAdd.hAdd Int Int Int (@instHAdd Int @Int.instAdd) s1 (@cond (@Kd.T kI) Bool.false (@ite (@Kd.T kI) (@GT.gt (@Kd.T kI) Int.instLTInt (4001 : Int) (@Nat.cast Int instNatCastInt (@List.length UInt8 (@List.getD (@Kd.T (@Kd.pr kI (@Kd.pr kI (@Kd.pr Kd.str (@Kd.pr Kd.bool (@Kd.pr (@Kd.sl Kd.str) (@Kd.sl kI))))))) s0 (@Int.toNat s2) (@Kd.zero (@Kd.pr kI (@Kd.pr kI (@Kd.pr Kd.str (@Kd.pr Kd.bool (@Kd.pr (@Kd.sl Kd.str) (@Kd.sl kI)))))))).2.2.1))) (@Int.decLt (@Nat.cast Int instNatCastInt (@List.length UInt8 (@List.getD (@Kd.T (@Kd.pr kI (@Kd.pr kI (@Kd.pr Kd.str (@Kd.pr Kd.bool (@Kd.pr (@Kd.sl Kd.str) (@Kd.sl kI))))))) s0 (@Int.toNat s2) (@Kd.zero (@Kd.pr kI (@Kd.pr kI (@Kd.pr Kd.str (@Kd.pr Kd.bool (@Kd.pr (@Kd.sl Kd.str) (@Kd.sl kI)))))))).2.2.1)) (4001 : Int)) (4001 : Int) (@Nat.cast Int instNatCastInt (@List.length UInt8 (@List.getD (@Kd.T (@Kd.pr kI (@Kd.pr kI (@Kd.pr Kd.str (@Kd.pr Kd.bool (@Kd.pr (@Kd.sl Kd.str) (@Kd.sl kI))))))) s0 (@Int.toNat s2) (@Kd.zero (@Kd.pr kI (@Kd.pr kI (@Kd.pr Kd.str (@Kd.pr Kd.bool (@Kd.pr (@Kd.sl Kd.str) (@Kd.sl kI)))))))).2.2.1))) (@ite (@Kd.T kI) (@LT.lt (@Kd.T kI) Int.instLTInt (4001 : Int) (@Nat.cast Int instNatCastInt (@List.length UInt8 (@List.getD (@Kd.T (@Kd.pr kI (@Kd.pr kI (@Kd.pr Kd.str (@Kd.pr Kd.bool (@Kd.pr (@Kd.sl Kd.str) (@Kd.sl kI))))))) s0 (@Int.toNat s2) (@Kd.zero (@Kd.pr kI (@Kd.pr kI (@Kd.pr Kd.str (@Kd.pr Kd.bool (@Kd.pr (@Kd.sl Kd.str) (@Kd.sl kI)))))))).2.2.1))) (@Int.decLt (4001 : Int) (@Nat.cast Int instNatCastInt (@List.length UInt8 (@List.getD (@Kd.T (@Kd.pr kI (@Kd.pr kI (@Kd.pr Kd.str (@Kd.pr Kd.bool (@Kd.pr (@Kd.sl Kd.str) (@Kd.sl kI))))))) s0 (@Int.toNat s2) (@Kd.zero (@Kd.pr kI (@Kd.pr kI (@Kd.pr Kd.str (@Kd.pr Kd.bool (@Kd.pr (@Kd.sl Kd.str) (@Kd.sl kI)))))))).2.2.1))) (4001 : Int) (@Nat.cast Int instNatCastInt (@List.length UInt8 (@List.getD (@Kd.T (@Kd.pr kI (@Kd.pr kI (@Kd.pr Kd.str (@Kd.pr Kd.bool (@Kd.pr (@Kd.sl Kd.str) (@Kd.sl kI))))))) s0 (@Int.toNat s2) (@Kd.zero (@Kd.pr kI (@Kd.pr kI (@Kd.pr Kd.str (@Kd.pr Kd.bool (@Kd.pr (@Kd.sl Kd.str) (@Kd.sl kI)))))))).2.2.1)))))) (@cond (@Kd.T kI) Bool.false (@ite (@Kd.T kI) (@GT.gt (@Kd.T kI) Int.instLTInt (4001 : Int) (@Nat.cast Int instNatCastInt (@List.length (@Kd.T Kd.str) (@List.getD (@Kd.T (@Kd.pr kI (@Kd.pr kI (@Kd.pr Kd.str (@Kd.pr Kd.bool (@Kd.pr (@Kd.sl Kd.str) (@Kd.sl kI))))))) s0 (@Int.toNat s2) (@Kd.zero (@Kd.pr kI (@Kd.pr kI (@Kd.pr Kd.str (@Kd.pr Kd.bool (@Kd.pr (@Kd.sl Kd.str) (@Kd.sl kI)))))))).2.2.2.2.1))) (@Int.decLt (@Nat.cast Int instNatCastInt (@List.length (@Kd.T Kd.str) (@List.getD (@Kd.T (@Kd.pr kI (@Kd.pr kI (@Kd.pr Kd.str (@Kd.pr Kd.bool (@Kd.pr (@Kd.sl Kd.str) (@Kd.sl kI))))))) s0 (@Int.toNat s2) (@Kd.zero (@Kd.pr kI (@Kd.pr kI (@Kd.pr Kd.str (@Kd.pr Kd.bool (@Kd.pr (@Kd.sl Kd.str) (@Kd.sl kI)))))))).2.2.2.2.1)) (4001 : Int)) (4001 : Int) (@Nat.cast Int instNatCastInt (@List.length (@Kd.T Kd.str) (@List.getD (@Kd.T (@Kd.pr kI (@Kd.pr kI (@Kd.pr Kd.str (@Kd.pr Kd.bool (@Kd.pr (@Kd.sl Kd.str) (@Kd.sl kI))))))) s0 (@Int.toNat s2) (@Kd.zero (@Kd.pr kI (@Kd.pr kI (@Kd.pr Kd.str (@Kd.pr Kd.bool (@Kd.pr (@Kd.sl Kd.str) (@Kd.sl kI)))))))).2.2.2.2.1))) (@ite (@Kd.T kI) (@LT.lt (@Kd.T kI) Int.instLTInt (4001 : Int) (@Nat.cast Int instNatCastInt (@List.length (@Kd.T Kd.str) (@List.getD (@Kd.T (@Kd.pr kI (@Kd.pr kI (@Kd.pr Kd.str (@Kd.pr Kd.bool (@Kd.pr (@Kd.sl Kd.str) (@Kd.sl kI))))))) s0 (@Int.toNat s2) (@Kd.zero (@Kd.pr kI (@Kd.pr kI (@Kd.pr Kd.str (@Kd.pr Kd.bool (@Kd.pr (@Kd.sl Kd.str) (@Kd.sl kI)))))))).2.2.2.2.1))) (@Int.decLt (4001 : Int) (@Nat.cast Int instNatCastInt (@List.length (@Kd.T Kd.str) (@List.getD (@Kd.T (@Kd.pr kI (@Kd.pr kI (@Kd.pr Kd.str (@Kd.pr Kd.bool (@Kd.pr (@Kd.sl Kd.str) (@Kd.sl kI))))))) s0 (@Int.toNat s2) (@Kd.zero (@Kd.pr kI (@Kd.pr kI (@Kd.pr Kd.str (@Kd.pr Kd.bool (@Kd.pr (@Kd.sl Kd.str) (@Kd.sl kI)))))))).2.2.2.2.1))) (4001 : Int) (@Nat.cast Int instNatCastInt (@List.length (@Kd.T Kd.str) (@List.getD (@Kd.T (@Kd.pr kI (@Kd.pr kI (@Kd.pr Kd.str (@Kd.pr Kd.bool (@Kd.pr (@Kd.sl Kd.str) (@Kd.sl kI))))))) s0 (@Int.toNat s2) (@Kd.zero (@Kd.pr kI (@Kd.pr kI (@Kd.pr Kd.str (@Kd.pr Kd.bool (@Kd.pr (@Kd.sl Kd.str) (@Kd.sl kI)))))))).2.2.2.2.1)))))) (@cond (@Kd.T kI) Bool.false (@ite (@Kd.T kI) (@GT.gt (@Kd.T kI) Int.instLTInt (4001 : Int) (@Nat.cast Int instNatCastInt (@List.length (@Kd.T kI) (@List.getD (@Kd.T (@Kd.pr kI (@Kd.pr kI (@Kd.pr Kd.str (@Kd.pr Kd.bool (@Kd.pr (@Kd.sl Kd.str) (@Kd.sl kI))))))) s0 (@Int.toNat s2) (@Kd.zero (@Kd.pr kI (@Kd.pr kI (@Kd.pr Kd.str (@Kd.pr Kd.bool (@Kd.pr (@Kd.sl Kd.str) (@Kd.sl kI)))))))).2.2.2.2.2))) (@Int.decLt (@Nat.cast Int instNatCastInt (@List.length (@Kd.T kI) (@List.getD (@Kd.T (@Kd.pr kI (@Kd.pr kI (@Kd.pr Kd.str (@Kd.pr Kd.bool (@Kd.pr (@Kd.sl Kd.str) (@Kd.sl kI))))))) s0 (@Int.toNat s2) (@Kd.zero (@Kd.pr kI (@Kd.pr kI (@Kd.pr Kd.str (@Kd.pr Kd.bool (@Kd.pr (@Kd.sl Kd.str) (@Kd.sl kI)))))))).2.2.2.2.2)) (4001 : Int)) (4001 : Int) (@Nat.cast Int instNatCastInt (@List.length (@Kd.T kI) (@List.getD (@Kd.T (@Kd.pr kI (@Kd.pr kI (@Kd.pr Kd.str (@Kd.pr Kd.bool (@Kd.pr (@Kd.sl Kd.str) (@Kd.sl kI))))))) s0 (@Int.toNat s2) (@Kd.zero (@Kd.pr kI (@Kd.pr kI (@Kd.pr Kd.str (@Kd.pr Kd.bool (@Kd.pr (@Kd.sl Kd.str) (@Kd.sl kI)))))))).2.2.2.2.2))) (@ite (@Kd.T kI) (@LT.lt (@Kd.T kI) Int.instLTInt (4001 : Int) (@Nat.cast Int instNatCastInt (@List.length (@Kd.T kI) (@List.getD (@Kd.T (@Kd.pr kI (@Kd.pr kI (@Kd.pr Kd.str (@Kd.pr Kd.bool (@Kd.pr (@Kd.sl Kd.str) (@Kd.sl kI))))))) s0 (@Int.toNat s2) (@Kd.zero (@Kd.pr kI (@Kd.pr kI (@Kd.pr Kd.str (@Kd.pr Kd.bool (@Kd.pr (@Kd.sl Kd.str) (@Kd.sl kI)))))))).2.2.2.2.2))) (@Int.decLt (4001 : Int) (@Nat.cast Int instNatCastInt (@List.length (@Kd.T kI) (@List.getD (@Kd.T (@Kd.pr kI (@Kd.pr kI (@Kd.pr Kd.str (@Kd.pr Kd.bool (@Kd.pr (@Kd.sl Kd.str) (@Kd.sl kI))))))) s0 (@Int.toNat s2) (@Kd.zero (@Kd.pr kI (@Kd.pr kI (@Kd.pr Kd.str (@Kd.pr Kd.bool (@Kd.pr (@Kd.sl Kd.str) (@Kd.sl kI)))))))).2.2.2.2.2))) (4001 : Int) (@Nat.cast Int instNatCastInt (@List.length (@Kd.T kI) (@List.getD (@Kd.T (@Kd.pr kI (@Kd.pr kI (@Kd.pr Kd.str (@Kd.pr Kd.bool (@Kd.pr (@Kd.sl Kd.str) (@Kd.sl kI))))))) s0 (@Int.toNat s2) (@Kd.zero (@Kd.pr kI (@Kd.pr kI (@Kd.pr Kd.str (@Kd.pr Kd.bool (@Kd.pr (@Kd.sl Kd.str) (@Kd.sl kI)))))))).2.2.2.2.2)))))) s2 (@List.getD (@Kd.T (@Kd.pr kI (@Kd.pr kI (@Kd.pr Kd.str (@Kd.pr Kd.bool (@Kd.pr (@Kd.sl Kd.str) (@Kd.sl kI))))))) s0 (@Int.toNat s2) (@Kd.zero (@Kd.pr kI (@Kd.pr kI (@Kd.pr Kd.str (@Kd.pr Kd.bool (@Kd.pr (@Kd.sl Kd.str) (@Kd.sl kI)))))))).1 (@List.getD (@Kd.T (@Kd.pr kI (@Kd.pr kI (@Kd.pr Kd.str (@Kd.pr Kd.bool (@Kd.pr (@Kd.sl Kd.str) (@Kd.sl kI))))))) s0 (@Int.toNat s2) (@Kd.zero (@Kd.pr kI (@Kd.pr kI (@Kd.pr Kd.str (@Kd.pr Kd.bool (@Kd.pr (@Kd.sl Kd.str) (@Kd.sl kI)))))))).2.1 (@List.getD (@Kd.T (@Kd.pr kI (@Kd.pr kI (@Kd.pr Kd.str (@Kd.pr Kd.bool (@Kd.pr (@Kd.sl Kd.str) (@Kd.sl kI))))))) s0 (@Int.toNat s2) (@Kd.zero (@Kd.pr kI (@Kd.pr kI (@Kd.pr Kd.str (@Kd.pr Kd.bool (@Kd.pr (@Kd.sl Kd.str) (@Kd.sl kI)))))))).2.2.1 (@List.getD (@Kd.T (@Kd.pr kI (@Kd.pr kI (@Kd.pr Kd.str (@Kd.pr Kd.bool (@Kd.pr (@Kd.sl Kd.str) (@Kd.sl kI))))))) s0 (@Int.toNat s2) (@Kd.zero (@Kd.pr kI (@Kd.pr kI (@Kd.pr Kd.str (@Kd.pr Kd.bool (@Kd.pr (@Kd.sl Kd.str) (@Kd.sl kI)))))))).2.2.2.1 (@List.getD (@Kd.T (@Kd.pr kI (@Kd.pr kI (@Kd.pr Kd.str (@Kd.pr Kd.bool (@Kd.pr (@Kd.sl Kd.str) (@Kd.sl kI))))))) s0 (@Int.toNat s2) (@Kd.zero (@Kd.pr kI (@Kd.pr kI (@Kd.pr Kd.str (@Kd.pr Kd.bool (@Kd.pr (@Kd.sl Kd.str) (@Kd.sl kI)))))))).2.2.2.2.1 (@List.getD (@Kd.T (@Kd.pr kI (@Kd.pr kI (@Kd.pr Kd.str (@Kd.pr Kd.bool (@Kd.pr (@Kd.sl Kd.str) (@Kd.sl kI))))))) s0 (@Int.toNat s2) (@Kd.zero (@Kd.pr kI (@Kd.pr kI (@Kd.pr Kd.str (@Kd.pr Kd.bool (@Kd.pr (@Kd.sl Kd.str) (@Kd.sl kI)))))))).2.2.2.2.2 (0 : Int)) (@Option.none R)) (K (@Decidable.decide (@GT.gt Int Int.instLTInt s1 (4000 : Int)) (@Int.decLt (4000 : Int) s1))))
theorem wqol (k : Nat) {R : Type} (I : Nat → St → Option R) (s0 : (List (Int × (Int × ((List UInt8) × (Bool × ((List (List UInt8)) × (List Int)))))))) (s1 s2 : Int) (K : (Bool → Option R)) : execK (wqg k) k (at_ [1, 1, 0, 1, 0, 0] wq18) (wq3y s0 s1 s2) (konts (wqg k) k I [1, 1, 0, 1, 0, 0] wq18 (outK (wqg k) wq4t [.tmp 2] (wq34 K))) = wq9a k (fun s0 s1 s2 s3 s4 s5 s6 s7 s8 s9 => iter (wqg k).pv (look (wqg k).cuts 1008) (execK (wqg k) k (at_ [1, 1, 0, 1, 0, 0, 1, 0, 0, 1, 1, 1, 0, 0] wq18)) k (wq6t s0 s1 s2 s3 s4 s5 s6 s7 s8 s9) (konts (wqg k) k I [1, 1, 0, 1, 0, 0, 1, 0, 0, 1, 1, 1, 0] wq18 (outK (wqg k) wq4t [.tmp 2] (wq34 K)))) s0 s1 s2 K := by kernel_rfl
def wq9b (k : Nat) {R : Type} (E1003 : ((List (Int × (Int × ((List UInt8) × (Bool × ((List (List UInt8)) × (List Int))))))) → Int → Int → Option R)) (E1008 : ((List (Int × (Int × ((List UInt8) × (Bool × ((List (List UInt8)) × (List Int))))))) → Int → Int → Int → Int → (List UInt8) → Bool → (List (List UInt8)) → (List Int) → Int → Option R)) (s0 : (List (Int × (Int × ((List UInt8) × (Bool × ((List (List UInt8)) × (List Int)))))))) (s1 s2 s3 s4 : Int) (s5 : (List UInt8)) (s6 : Bool) (s7 : (List (List UInt8))) (s8 : (List Int)) (s9 : Int) (K : (Bool → Option R)) : Option R := (@cond (@Option R) (@cond (@Kd.T Kd.bool) (@Decidable.decide (@LT.lt Int Int.instLTInt s9 (@Nat.cast Int instNatCastInt (@List.length (@Kd.T Kd.str) s7))) (@Int.decLt s9 (@Nat.cast Int instNatCastInt (@List.length (@Kd.T Kd.str) s7)))) (@Decidable.decide (@LE.le Int Int.instLEInt s1 (4000 : Int)) (@Int.decLe s1 (4000 : Int))) Bool.false) (@cond (@Option R) (@inb s9 (@Nat.cast Int instNatCastInt (@List.length (@Kd.T Kd.str) s7))) (E1008 s0 (@Go.IntKind.wrap Go.IntKind.i64 (@HAdd.hAdd Int Int Int (@instHAdd Int @Int.instAdd) s1 (@cond (@Kd.T kI) Bool.false (@ite (@Kd.T kI) (@GT.gt (@Kd.T kI) Int.instLTInt (4001 : Int) (@Nat.cast Int instNatCastInt (@List.length UInt8 (@List.getD (@Kd.T Kd.str) s7 (@Int.toNat s9) (@Kd.zero Kd.str))))) (@Int.decLt (@Nat.cast Int instNatCastInt (@List.length UInt8 (@List.getD (@Kd.T Kd.str) s7 (@Int.toNat s9) (@Kd.zero Kd.str)))) (4001 : Int)) (4001 : Int) (@Nat.cast Int instNatCastInt (@List.length UInt8 (@List.getD (@Kd.T Kd.str) s7 (@Int.toNat s9) (@Kd.zero Kd.str))))) (@ite (@Kd.T kI) (@LT.lt (@Kd.T kI) Int.instLTInt (4001 : Int) (@Nat.cast Int instNatCastInt (@List.length UInt8 (@List.getD (@Kd.T Kd.str) s7 (@Int.toNat s9) (@Kd.zero Kd.str))))) (@Int.decLt (4001 : Int) (@Nat.cast Int instNatCastInt (@List.length UInt8 (@List.getD (@Kd.T Kd.str) s7 (@Int.toNat s9) (@Kd.zero Kd.str))))) (4001 : Int) (@Nat.cast Int instNatCastInt (@List.length UInt8 (@List.getD (@Kd.T Kd.str) s7 (@Int.toNat s9) (@Kd.zero Kd.str)))))))) s2 s3 s4 s5 s6 s7 s8 (@Go.IntKind.wrap Go.IntKind.i64 (@HAdd.hAdd Int Int Int (@instHAdd Int @Int.instAdd) s9 (1 : Int)))) (@Option.none R)) (E1003 s0 s1 (@Go.IntKind.wrap Go.IntKind.i64 (@HAdd.hAdd Int Int Int (@instHAdd Int @Int.instAdd) s2 (1 : Int)))))
theorem wqom (k : Nat) {R : Type} (I : Nat → St → Option R) (s0 : (List (Int × (Int × ((List UInt8) × (Bool × ((List (List UInt8)) × (List Int)))))))) (s1 s2 s3 s4 : Int) (s5 : (List UInt8)) (s6 : Bool) (s7 : (List (List UInt8))) (s8 : (List Int)) (s9 : Int) (K : (Bool → Option R)) : execK (wqg k) k (at_ [1, 1, 0, 1, 0, 0, 1, 0, 0, 1, 1, 1, 0, 0] wq18) (wq6t s0 s1 s2 s3 s4 s5 s6 s7 s8 s9) (konts (wqg k) k I [1, 1, 0, 1, 0, 0, 1, 0, 0, 1, 1, 1, 0, 0] wq18 (outK (wqg k) wq4t [.tmp 2] (wq34 K))) = wq9b k (fun s0 s1 s2 => I 1003 (wq3y s0 s1 s2)) (fun s0 s1 s2 s3 s4 s5 s6 s7 s8 s9 => I 1008 (wq6t s0 s1 s2 s3 s4 s5 s6 s7 s8 s9)) s0 s1 s2 s3 s4 s5 s6 s7 s8 s9 K := by kernel_rfl
def wqi7 (k : Nat) {R : Type} (E1003 : ((List (Int × (Int × ((List UInt8) × (Bool × ((List (List UInt8)) × (List Int))))))) → Int → Int → Option R)) (x0 : (List (Int × (Int × ((List UInt8) × (Bool × ((List (List UInt8)) × (List Int)))))))) (K : (Bool → Option R)) : Option R := (E1003 x0 (@Nat.cast Int instNatCastInt (@List.length (@Kd.T (@Kd.pr kI (@Kd.pr kI (@Kd.pr Kd.str (@Kd.pr Kd.bool (@Kd.pr (@Kd.sl Kd.str) (@Kd.sl kI))))))) x0)) (0 : Int))
theorem wqz3 (k : Nat) {R : Type} (I : Nat → St → Option R) (x0 : (List (Int × (Int × ((List UInt8) × (Bool × ((List (List UInt8)) × (List Int)))))))) (K : (Bool → Option R)) : fnK (wqg k) k wq18 64 [.tmp 2] wq4t [.agg [.v (.sl (.pr (.int .i64) (.pr (.int .i64) (.pr .str (.pr .bool (.pr (.sl .str) (.sl (.int .i64)))))))) x0]] [] (wq34 K) = wqi7 k (fun s0 s1 s2 => iter (wqg k).pv (look (wqg k).cuts 1003) (execK (wqg k) k (at_ [1, 1, 0, 1, 0, 0] wq18)) k (wq3y s0 s1 s2) (konts (wqg k) k I [1, 1, 0, 1, 0] wq18 (outK (wqg k) wq4t [.tmp 2] (wq34 K)))) x0 K := by kernel_rfl
def wq3o (k : Nat) {R : Type} (J1003 : ((List (Int × (Int × ((List UInt8) × (Bool × ((List (List UInt8)) × (List Int))))))) → Int → Int → Option R)) : Nat → (List (Int × (Int × ((List UInt8) × (Bool × ((List (List UInt8)) × (List Int))))))) → Int → Int → Int → Int → (List UInt8) → Bool → (List (List UInt8)) → (List Int) → Int → (Bool → Option R) → Option R
  | 0, _, _, _, _, _, _, _, _, _, _, _ => none
  | n + 1, s0, s1, s2, s3, s4, s5, s6, s7, s8, s9, K => wq9b k J1003 (fun s0 s1 s2 s3 s4 s5 s6 s7 s8 s9 => wq3o k J1003 n s0 s1 s2 s3 s4 s5 s6 s7 s8 s9 K) s0 s1 s2 s3 s4 s5 s6 s7 s8 s9 K
theorem wqon (k : Nat) {R : Type} (I : Nat → St → Option R) (K : (Bool → Option R)) : ∀ (n : Nat) (s0 : (List (Int × (Int × ((List UInt8) × (Bool × ((List (List UInt8)) × (List Int)))))))) (s1 s2 s3 s4 : Int) (s5 : (List UInt8)) (s6 : Bool) (s7 : (List (List UInt8))) (s8 : (List Int)) (s9 : Int), iter (wqg k).pv (look (wqg k).cuts 1008) (execK (wqg k) k (at_ [1, 1, 0, 1, 0, 0, 1, 0, 0, 1, 1, 1, 0, 0] wq18)) n (wq6t s0 s1 s2 s3 s4 s5 s6 s7 s8 s9) (konts (wqg k) k I [1, 1, 0, 1, 0, 0, 1, 0, 0, 1, 1, 1, 0] wq18 (outK (wqg k) wq4t [.tmp 2] (wq34 K))) = wq3o k (fun s0 s1 s2 => I 1003 (wq3y s0 s1 s2)) n s0 s1 s2 s3 s4 s5 s6 s7 s8 s9 K := by
  intro n
  induction n with
  | zero => intros; rfl
  | succ n ih =>
    intro s0 s1 s2 s3 s4 s5 s6 s7 s8 s9
    let I' : Nat → St → Option R := fun id s => bif Nat.beq id 1008 then iter (wqg k).pv (look (wqg k).cuts 1008) (execK (wqg k) k (at_ [1, 1, 0, 1, 0, 0, 1, 0, 0, 1, 1, 1, 0, 0] wq18)) n s (konts (wqg k) k I [1, 1, 0, 1, 0, 0, 1, 0, 0, 1, 1, 1, 0] wq18 (outK (wqg k) wq4t [.tmp 2] (wq34 K))) else I id s
    have e := wqom k I' s0 s1 s2 s3 s4 s5 s6 s7 s8 s9 K
    have h1008 : (fun s0 s1 s2 s3 s4 s5 s6 s7 s8 s9 => I' 1008 (wq6t s0 s1 s2 s3 s4 s5 s6 s7 s8 s9)) = (fun s0 s1 s2 s3 s4 s5 s6 s7 s8 s9 => wq3o k (fun s0 s1 s2 => I 1003 (wq3y s0 s1 s2)) n s0 s1 s2 s3 s4 s5 s6 s7 s8 s9 K) := by funext s0 s1 s2 s3 s4 s5 s6 s7 s8 s9; exact ih s0 s1 s2 s3 s4 s5 s6 s7 s8 s9
    refine Eq.trans (?_ : _ = _) (e.trans (Eq.trans ((congrArg ((fun E1008 => wq9b k (fun s0 s1 s2 => I 1003 (wq3y s0 s1 s2)) E1008 s0 s1 s2 s3 s4 s5 s6 s7 s8 s9 K)) h1008)) (by rw [wq3o])))
    rfl
def wq3p (k : Nat) {R : Type}  : Nat → (List (Int × (Int × ((List UInt8) × (Bool × ((List (List UInt8)) × (List Int))))))) → Int → Int → (Bool → Option R) → Option R
  | 0, _, _, _, _ => none
  | n + 1, s0, s1, s2, K => wq9a k (fun s0 s1 s2 s3 s4 s5 s6 s7 s8 s9 => wq3o k (fun s0 s1 s2 => wq3p k  n s0 s1 s2 K) k s0 s1 s2 s3 s4 s5 s6 s7 s8 s9 K) s0 s1 s2 K
theorem wqoo (k : Nat) {R : Type} (I : Nat → St → Option R) (K : (Bool → Option R)) : ∀ (n : Nat) (s0 : (List (Int × (Int × ((List UInt8) × (Bool × ((List (List UInt8)) × (List Int)))))))) (s1 s2 : Int), iter (wqg k).pv (look (wqg k).cuts 1003) (execK (wqg k) k (at_ [1, 1, 0, 1, 0, 0] wq18)) n (wq3y s0 s1 s2) (konts (wqg k) k I [1, 1, 0, 1, 0] wq18 (outK (wqg k) wq4t [.tmp 2] (wq34 K))) = wq3p k  n s0 s1 s2 K := by
  intro n
  induction n with
  | zero => intros; rfl
  | succ n ih =>
    intro s0 s1 s2
    let I' : Nat → St → Option R := fun id s => bif Nat.beq id 1003 then iter (wqg k).pv (look (wqg k).cuts 1003) (execK (wqg k) k (at_ [1, 1, 0, 1, 0, 0] wq18)) n s (konts (wqg k) k I [1, 1, 0, 1, 0] wq18 (outK (wqg k) wq4t [.tmp 2] (wq34 K))) else I id s
    have e := wqol k I' s0 s1 s2 K
    have h1003 : (fun s0 s1 s2 => I' 1003 (wq3y s0 s1 s2)) = (fun s0 s1 s2 => wq3p k  n s0 s1 s2 K) := by funext s0 s1 s2; exact ih s0 s1 s2
    have h1008 : (fun s0 s1 s2 s3 s4 s5 s6 s7 s8 s9 => iter (wqg k).pv (look (wqg k).cuts 1008) (execK (wqg k) k (at_ [1, 1, 0, 1, 0, 0, 1, 0, 0, 1, 1, 1, 0, 0] wq18)) k (wq6t s0 s1 s2 s3 s4 s5 s6 s7 s8 s9) (konts (wqg k) k I' [1, 1, 0, 1, 0, 0, 1, 0, 0, 1, 1, 1, 0] wq18 (outK (wqg k) wq4t [.tmp 2] (wq34 K)))) = (fun s0 s1 s2 s3 s4 s5 s6 s7 s8 s9 => wq3o k (fun s0 s1 s2 => wq3p k  n s0 s1 s2 K) k s0 s1 s2 s3 s4 s5 s6 s7 s8 s9 K) := by funext s0 s1 s2 s3 s4 s5 s6 s7 s8 s9; exact (wqon k I' K k s0 s1 s2 s3 s4 s5 s6 s7 s8 s9).trans (congrArg (fun (JJ : ((List (Int × (Int × ((List UInt8) × (Bool × ((List (List UInt8)) × (List Int))))))) → Int → Int → Option R)) => wq3o k JJ k s0 s1 s2 s3 s4 s5 s6 s7 s8 s9 K) h1003)
    refine Eq.trans (?_ : _ = _) (e.trans (Eq.trans ((congrArg ((fun E1008 => wq9a k E1008 s0 s1 s2 K)) h1008)) (by rw [wq3p])))
    rfl
def wqcs (k : Nat) {R : Type} (x0 : (List (Int × (Int × ((List UInt8) × (Bool × ((List (List UInt8)) × (List Int)))))))) (K : (Bool → Option R)) : Option R := wqi7 k (fun s0 s1 s2 => wq3p k k s0 s1 s2 K) x0 K
theorem wqz4 (k : Nat) {R : Type} (x0 : (List (Int × (Int × ((List UInt8) × (Bool × ((List (List UInt8)) × (List Int)))))))) (K : (Bool → Option R)) : fnK (wqg k) k wq18 64 [.tmp 2] wq4t [.agg [.v (.sl (.pr (.int .i64) (.pr (.int .i64) (.pr .str (.pr .bool (.pr (.sl .str) (.sl (.int .i64)))))))) x0]] [] (wq34 K) = wqcs k x0 K := by
  let I : Nat → St → Option R := fun _ _ => none
  have h1003 : (fun s0 s1 s2 => iter (wqg k).pv (look (wqg k).cuts 1003) (execK (wqg k) k (at_ [1, 1, 0, 1, 0, 0] wq18)) k (wq3y s0 s1 s2) (konts (wqg k) k I [1, 1, 0, 1, 0] wq18 (outK (wqg k) wq4t [.tmp 2] (wq34 K)))) = (fun s0 s1 s2 => wq3p k k s0 s1 s2 K) := by funext s0 s1 s2; exact wqoo k I K k s0 s1 s2
  exact (wqz3 k I x0 K).trans (congrArg ((fun E1003 => wqi7 k E1003 x0 K)) h1003)
def wqiv (k : Nat) {R : Type} : List PV → List (Nm × HObj) → (Out → Option R) → Option R
  | [.agg [.v (.sl (.pr (.int .i64) (.pr (.int .i64) (.pr .str (.pr .bool (.pr (.sl .str) (.sl (.int .i64)))))))) x0]], [], K => wqcs k x0 (fun y0 => K (.ret [.v .bool y0] []))
  | _, _, _ => none
theorem wqz5 (k : Nat) : (wqv6 k).Ok Tryd.prog := CTab.nil_ok
theorem wq17r (k : Nat) {ps : List PV} {hp : List (Nm × HObj)} {R : Type} {K : Out → Option R} {r : R} (h : wqiv k ps hp K = some r) : DoesTo Tryd.prog 5 ps hp fun out => K out = some r := by
  unfold wqiv at h
  split at h
  · rw [← wqz4] at h
    have := fn_ok (P := Tryd.prog) (cx := wqg k) (f := 5) ⟨tyT_ok, wqz5 k, fun _ _ => rfl⟩ (by kernel_rfl) (fn := Tryd.f5) (c := wq18) (by kernel_rfl) (by kernel_rfl) (by kernel_rfl) (rs := [.tmp 2]) (by kernel_rfl) (by kernel_rfl) h
    exact this.mono fun out ho => by
      unfold wq34 at ho
      split at ho <;> first | exact ho | cases ho
  · cases h
def wqvz : List LS := [.sl (.int .u8), .sl (.int .u8)]
def wqp6 (k : Nat) : CTab := CTab.nil
def wqeg {R : Type} (K : (Bool → Option R)) : Out → Option R
  | .ret [.v .bool y0] [] => K y0
  | _ => none
def wqn5 : RetSpec := ⟨[.any], [], []⟩
def wqua : List (Nat × CutSpec) := []
def wqsi : List (Nat × Plan) := []
def wqgy (k : Nat) : Ctx := ⟨tyT, wqua, wqp6 k, [], [], wqsi, @SH⟩
def wqeh : Code := Tryd.f11.body.getD .skip
def wqiw (k : Nat) {R : Type}  (x0 x1 : (List Int)) (K : (Bool → Option R)) : Option R := (K (@BEq.beq (@List UInt8) (@List.instBEq UInt8 (@instBEqOfDecidableEq UInt8 @instDecidableEqUInt8)) (@wq6d x0) (@wq6d x1)))
theorem wqub (k : Nat) {R : Type} (I : Nat → St → Option R) (x0 x1 : (List Int)) (K : (Bool → Option R)) : fnK (wqgy k) k wqeh 10 [.tmp 4] wqn5 [.v (.sl (.int .u8)) x0, .v (.sl (.int .u8)) x1] [] (wqeg K) = wqiw k  x0 x1 K := by kernel_rfl
def wqah (k : Nat) {R : Type} (x0 x1 : (List Int)) (K : (Bool → Option R)) : Option R := wqiw k  x0 x1 K
theorem wquc (k : Nat) {R : Type} (x0 x1 : (List Int)) (K : (Bool → Option R)) : fnK (wqgy k) k wqeh 10 [.tmp 4] wqn5 [.v (.sl (.int .u8)) x0, .v (.sl (.int .u8)) x1] [] (wqeg K) = wqah k x0 x1 K := by
  exact wqub k (fun _ _ => none) x0 x1 K
def wqfl (k : Nat) {R : Type} : List PV → List (Nm × HObj) → (Out → Option R) → Option R
  | [.v (.sl (.int .u8)) x0, .v (.sl (.int .u8)) x1], [], K => wqah k x0 x1 (fun y0 => K (.ret [.v .bool y0] []))
  | _, _, _ => none
theorem wqud (k : Nat) : (wqp6 k).Ok Tryd.prog := CTab.nil_ok
theorem wq11s (k : Nat) {ps : List PV} {hp : List (Nm × HObj)} {R : Type} {K : Out → Option R} {r : R} (h : wqfl k ps hp K = some r) : DoesTo Tryd.prog 11 ps hp fun out => K out = some r := by
  unfold wqfl at h
  split at h
  · rw [← wquc] at h
    have := fn_ok (P := Tryd.prog) (cx := wqgy k) (f := 11) ⟨tyT_ok, wqud k, fun _ _ => rfl⟩ (by kernel_rfl) (fn := Tryd.f11) (c := wqeh) (by kernel_rfl) (by kernel_rfl) (by kernel_rfl) (rs := [.tmp 4]) (by kernel_rfl) (by kernel_rfl) h
    exact this.mono fun out ho => by
      unfold wqeg at ho
      split at ho <;> first | exact ho | cases ho
  · cases h
def wqsj : List LS := [.any]
def wqz6 (k : Nat) : CTab := CTab.nil
def wqix {R : Type} (K : (Bool → Option R)) : Out → Option R
  | .ret [.v .bool y0] [] => K y0
  | _ => none
def wqv7 : RetSpec := ⟨[.any], [], []⟩
def wq11t : List (Nat × CutSpec) := []
def wqz7 : List (Nat × Plan) := []
def wqn6 (k : Nat) : Ctx := ⟨tyT, wq11t, wqz6 k, [], [], wqz7, @SH⟩
def wqiy : Code := Tryd.f64.body.getD .skip
def wqqt (k : Nat) {R : Type}  (x0 : Int) (K : (Bool → Option R)) : Option R := (K (@cond (@Kd.T Kd.bool) (@cond (@Kd.T Kd.bool) (@cond (@Kd.T Kd.bool) (@cond (@Kd.T Kd.bool) (@cond (@Kd.T Kd.bool) (@cond (@Kd.T Kd.bool) (@Decidable.decide (@GE.ge Int Int.instLEInt x0 (97 : Int)) (@Int.decLe (97 : Int) x0)) (@Decidable.decide (@LE.le Int Int.instLEInt x0 (122 : Int)) (@Int.decLe x0 (122 : Int))) Bool.false) Bool.true (@cond (@Kd.T Kd.bool) (@Decidable.decide (@GE.ge Int Int.instLEInt x0 (65 : Int)) (@Int.decLe (65 : Int) x0)) (@Decidable.decide (@LE.le Int Int.instLEInt x0 (90 : Int)) (@Int.decLe x0 (90 : Int))) Bool.false)) Bool.true (@cond (@Kd.T Kd.bool) (@Decidable.decide (@GE.ge Int Int.instLEInt x0 (48 : Int)) (@Int.decLe (48 : Int) x0)) (@Decidable.decide (@LE.le Int Int.instLEInt x0 (57 : Int)) (@Int.decLe x0 (57 : Int))) Bool.false)) Bool.true (@BEq.beq Int (@instBEqOfDecidableEq Int @Int.instDecidableEq) x0 (95 : Int))) Bool.true (@BEq.beq Int (@instBEqOfDecidableEq Int @Int.instDecidableEq) x0 (45 : Int))) Bool.true (@BEq.beq Int (@instBEqOfDecidableEq Int @Int.instDecidableEq) x0 (46 : Int))))
theorem wq11u (k : Nat) {R : Type} (I : Nat → St → Option R) (x0 : Int) (K : (Bool → Option R)) : fnK (wqn6 k) k wqiy 37 [.tmp 2] wqv7 [.v (.int .u8) x0] [] (wqix K) = wqqt k  x0 K := by kernel_rfl
def wqei (k : Nat) {R : Type} (x0 : Int) (K : (Bool → Option R)) : Option R := wqqt k  x0 K
theorem wq11v (k : Nat) {R : Type} (x0 : Int) (K : (Bool → Option R)) : fnK (wqn6 k) k wqiy 37 [.tmp 2] wqv7 [.v (.int .u8) x0] [] (wqix K) = wqei k x0 K := by
  exact wq11u k (fun _ _ => none) x0 K
def wqfy (k : Nat) {R : Type} : List PV → List (Nm × HObj) → (Out → Option R) → Option R
  | [.v (.int .u8) x0], [], K => wqei k x0 (fun y0 => K (.ret [.v .bool y0] []))
  | _, _, _ => none
theorem wq11w (k : Nat) : (wqz6 k).Ok Tryd.prog := CTab.nil_ok
theorem wqz8 (k : Nat) {ps : List PV} {hp : List (Nm × HObj)} {R : Type} {K : Out → Option R} {r : R} (h : wqfy k ps hp K = some r) : DoesTo Tryd.prog 64 ps hp fun out => K out = some r := by
  unfold wqfy at h
  split at h
  · rw [← wq11v] at h
    have := fn_ok (P := Tryd.prog) (cx := wqn6 k) (f := 64) ⟨tyT_ok, wq11w k, fun _ _ => rfl⟩ (by kernel_rfl) (fn := Tryd.f64) (c := wqiy) (by kernel_rfl) (by kernel_rfl) (by kernel_rfl) (rs := [.tmp 2]) (by kernel_rfl) (by kernel_rfl) h
    exact this.mono fun out ho => by
      unfold wqix at ho
      split at ho <;> first | exact ho | cases ho
  · cases h
def wq17s : List LS := [.any]
def wq13l (k : Nat) : CTab := (CTab.add 64 wqsj (wqfy k) CTab.nil)
def wq8o {R : Type} (K : (Bool → Option R)) : Out → Option R
  | .ret [.v .bool y0] [] => K y0
  | _ => none
def wqch : RetSpec := ⟨[.any], [], []⟩
def wq159 : List (Nat × CutSpec) := [(1004, ⟨[(0, .any), (3, .any)], []⟩)]
def wq11x : List (Nat × Plan) := []
def wq27 (k : Nat) : Ctx := ⟨tyT, wq159, wq13l k, [], [], wq11x, @SH⟩
def wq4b : Code := Tryd.f48.body.getD .skip
def wq8d (s0 : (List UInt8)) (s1 : Int) : St := ⟨mkT [(0, .v .str s0), (3, .v (.int .i64) s1)], mkH []⟩
def wqb3 (k : Nat) {R : Type} (E1004 : ((List UInt8) → Int → Option R)) (s0 : (List UInt8)) (s1 : Int) (K : (Bool → Option R)) : Option R := (@cond (@Option R) (@Decidable.decide (@LT.lt Int Int.instLTInt s1 (@Nat.cast Int instNatCastInt (@List.length UInt8 s0))) (@Int.decLt s1 (@Nat.cast Int instNatCastInt (@List.length UInt8 s0)))) (@cond (@Option R) (@inb s1 (@Nat.cast Int instNatCastInt (@List.length UInt8 s0))) (@wqei k R (@Nat.cast Int instNatCastInt (@UInt8.toNat (@List.getD UInt8 s0 (@Int.toNat s1) (0 : UInt8)))) (fun y6 => (@cond (@Option R) (@Bool.not y6) (K Bool.false) (E1004 s0 (@Go.IntKind.wrap Go.IntKind.i64 (@HAdd.hAdd Int Int Int (@instHAdd Int @Int.instAdd) s1 (1 : Int))))))) (@Option.none R)) (K Bool.true))
theorem wqsk (k : Nat) {R : Type} (I : Nat → St → Option R) (s0 : (List UInt8)) (s1 : Int) (K : (Bool → Option R)) : execK (wq27 k) k (at_ [1, 1, 0, 1, 0, 0] wq4b) (wq8d s0 s1) (konts (wq27 k) k I [1, 1, 0, 1, 0, 0] wq4b (outK (wq27 k) wqch [.tmp 2] (wq8o K))) = wqb3 k (fun s0 s1 => I 1004 (wq8d s0 s1)) s0 s1 K := by kernel_rfl
def wqnw (k : Nat) {R : Type} (E1004 : ((List UInt8) → Int → Option R)) (x0 : (List UInt8)) (K : (Bool → Option R)) : Option R := (@cond (@Option R) (@cond (@Kd.T Kd.bool) (@BEq.beq (@List UInt8) (@List.instBEq UInt8 (@instBEqOfDecidableEq UInt8 @instDecidableEqUInt8)) x0 []) Bool.true (@Decidable.decide (@GT.gt Int Int.instLTInt (@Nat.cast Int instNatCastInt (@List.length UInt8 x0)) (64 : Int)) (@Int.decLt (64 : Int) (@Nat.cast Int instNatCastInt (@List.length UInt8 x0))))) (K Bool.false) (E1004 x0 (0 : Int)))
theorem wq15a (k : Nat) {R : Type} (I : Nat → St → Option R) (x0 : (List UInt8)) (K : (Bool → Option R)) : fnK (wq27 k) k wq4b 22 [.tmp 2] wqch [.v .str x0] [] (wq8o K) = wqnw k (fun s0 s1 => iter (wq27 k).pv (look (wq27 k).cuts 1004) (execK (wq27 k) k (at_ [1, 1, 0, 1, 0, 0] wq4b)) k (wq8d s0 s1) (konts (wq27 k) k I [1, 1, 0, 1, 0] wq4b (outK (wq27 k) wqch [.tmp 2] (wq8o K)))) x0 K := by kernel_rfl
def wq5k (k : Nat) {R : Type}  : Nat → (List UInt8) → Int → (Bool → Option R) → Option R
  | 0, _, _, _ => none
  | n + 1, s0, s1, K => wqb3 k (fun s0 s1 => wq5k k  n s0 s1 K) s0 s1 K
theorem wqsl (k : Nat) {R : Type} (I : Nat → St → Option R) (K : (Bool → Option R)) : ∀ (n : Nat) (s0 : (List UInt8)) (s1 : Int), iter (wq27 k).pv (look (wq27 k).cuts 1004) (execK (wq27 k) k (at_ [1, 1, 0, 1, 0, 0] wq4b)) n (wq8d s0 s1) (konts (wq27 k) k I [1, 1, 0, 1, 0] wq4b (outK (wq27 k) wqch [.tmp 2] (wq8o K))) = wq5k k  n s0 s1 K := by
  intro n
  induction n with
  | zero => intros; rfl
  | succ n ih =>
    intro s0 s1
    let I' : Nat → St → Option R := fun id s => bif Nat.beq id 1004 then iter (wq27 k).pv (look (wq27 k).cuts 1004) (execK (wq27 k) k (at_ [1, 1, 0, 1, 0, 0] wq4b)) n s (konts (wq27 k) k I [1, 1, 0, 1, 0] wq4b (outK (wq27 k) wqch [.tmp 2] (wq8o K))) else I id s
    have e := wqsk k I' s0 s1 K
    have h1004 : (fun s0 s1 => I' 1004 (wq8d s0 s1)) = (fun s0 s1 => wq5k k  n s0 s1 K) := by funext s0 s1; exact ih s0 s1
    refine Eq.trans (?_ : _ = _) (e.trans (Eq.trans ((congrArg ((fun E1004 => wqb3 k E1004 s0 s1 K)) h1004)) (by rw [wq5k])))
    rfl
def wqjw (k : Nat) {R : Type} (x0 : (List UInt8)) (K : (Bool → Option R)) : Option R := wqnw k (fun s0 s1 => wq5k k k s0 s1 K) x0 K
theorem wq15b (k : Nat) {R : Type} (x0 : (List UInt8)) (K : (Bool → Option R)) : fnK (wq27 k) k wq4b 22 [.tmp 2] wqch [.v .str x0] [] (wq8o K) = wqjw k x0 K := by
  let I : Nat → St → Option R := fun _ _ => none
  have h1004 : (fun s0 s1 => iter (wq27 k).pv (look (wq27 k).cuts 1004) (execK (wq27 k) k (at_ [1, 1, 0, 1, 0, 0] wq4b)) k (wq8d s0 s1) (konts (wq27 k) k I [1, 1, 0, 1, 0] wq4b (outK (wq27 k) wqch [.tmp 2] (wq8o K)))) = (fun s0 s1 => wq5k k k s0 s1 K) := by funext s0 s1; exact wqsl k I K k s0 s1
  exact (wq15a k I x0 K).trans (congrArg ((fun E1004 => wqnw k E1004 x0 K)) h1004)
def wqn7 (k : Nat) {R : Type} : List PV → List (Nm × HObj) → (Out → Option R) → Option R
  | [.v .str x0], [], K => wqjw k x0 (fun y0 => K (.ret [.v .bool y0] []))
  | _, _, _ => none
theorem wq15c (k : Nat) : (wq13l k).Ok Tryd.prog := (CTab.add_ok (fun h => wqz8 k h) CTab.nil_ok)
theorem wq1ca (k : Nat) {ps : List PV} {hp : List (Nm × HObj)} {R : Type} {K : Out → Option R} {r : R} (h : wqn7 k ps hp K = some r) : DoesTo Tryd.prog 48 ps hp fun out => K out = some r := by
  unfold wqn7 at h
  split at h
  · rw [← wq15b] at h
    have := fn_ok (P := Tryd.prog) (cx := wq27 k) (f := 48) ⟨tyT_ok, wq15c k, fun _ _ => rfl⟩ (by kernel_rfl) (fn := Tryd.f48) (c := wq4b) (by kernel_rfl) (by kernel_rfl) (by kernel_rfl) (rs := [.tmp 2]) (by kernel_rfl) (by kernel_rfl) h
    exact this.mono fun out ho => by
      unfold wq8o at ho
      split at ho <;> first | exact ho | cases ho
  · cases h
def wq15d : List LS := [.sl .str]
def wqz9 (k : Nat) : CTab := (CTab.add 48 wq17s (wqn7 k) CTab.nil)
def wq3q {R : Type} (K : (Bool → Option R)) : Out → Option R
  | .ret [.v .bool y0] [] => K y0
  | _ => none
def wq5o : RetSpec := ⟨[.any], [], []⟩
def wq11y : List (Nat × CutSpec) := [(1002, ⟨[(0, .sl .str), (3, .any)], []⟩), (1007, ⟨[(0, .sl .str), (3, .any), (4, .any)], []⟩)]
def wqza : List (Nat × Plan) := [(9, (.of [(0, 1), (1, 1), (2, 1), (4, 1), (5, 1), (6, 1), (3, 1), (7, 1), (8, 1)] .done))]
def wqk (k : Nat) : Ctx := ⟨tyT, wq11y, wqz9 k, [], [], wqza, @SH⟩
def wq1k : Code := Tryd.f38.body.getD .skip
def wq4c (s0 : (List (List UInt8))) (s1 : Int) : St := ⟨mkT [(0, .v (.sl .str) s0), (3, .v (.int .i64) s1)], mkH []⟩
def wq7q (s0 : (List (List UInt8))) (s1 s2 : Int) : St := ⟨mkT [(0, .v (.sl .str) s0), (3, .v (.int .i64) s1), (4, .v (.int .i64) s2)], mkH []⟩
def wqac (k : Nat) {R : Type} (E1007 : ((List (List UInt8)) → Int → Int → Option R)) (s0 : (List (List UInt8))) (s1 : Int) (K : (Bool → Option R)) : Option R := (@cond (@Option R) (@Decidable.decide (@LT.lt Int Int.instLTInt s1 (@Nat.cast Int instNatCastInt (@List.length (@Kd.T Kd.str) s0))) (@Int.decLt s1 (@Nat.cast Int instNatCastInt (@List.length (@Kd.T Kd.str) s0)))) (@cond (@Option R) (@inb s1 (@Nat.cast Int instNatCastInt (@List.length (@Kd.T Kd.str) s0))) (@wqjw k R (@List.getD (@Kd.T Kd.str) s0 (@Int.toNat s1) (@Kd.zero Kd.str)) (fun y7 => (@cond (@Option R) (@Bool.not y7) (K Bool.false) (E1007 s0 s1 (0 : Int))))) (@Option.none R)) (K Bool.true))
theorem wqqu (k : Nat) {R : Type} (I : Nat → St → Option R) (s0 : (List (List UInt8))) (s1 : Int) (K : (Bool → Option R)) : execK (wqk k) k (at_ [1, 0, 1, 0, 0] wq1k) (wq4c s0 s1) (konts (wqk k) k I [1, 0, 1, 0, 0] wq1k (outK (wqk k) wq5o [.tmp 2] (wq3q K))) = wqac k (fun s0 s1 s2 => iter (wqk k).pv (look (wqk k).cuts 1007) (execK (wqk k) k (at_ [1, 0, 1, 0, 0, 1, 0, 0, 1, 1, 0, 0] wq1k)) k (wq7q s0 s1 s2) (konts (wqk k) k I [1, 0, 1, 0, 0, 1, 0, 0, 1, 1, 0] wq1k (outK (wqk k) wq5o [.tmp 2] (wq3q K)))) s0 s1 K := by kernel_rfl
def wqad (k : Nat) {R : Type} (E1002 : ((List (List UInt8)) → Int → Option R)) (E1007 : ((List (List UInt8)) → Int → Int → Option R)) (s0 : (List (List UInt8))) (s1 s2 : Int) (K : (Bool → Option R)) : Option R := (@cond (@Option R) (@Decidable.decide (@LT.lt Int Int.instLTInt s2 s1) (@Int.decLt s2 s1)) (@cond (@Option R) (@inb s2 (@Nat.cast Int instNatCastInt (@List.length (@Kd.T Kd.str) s0))) (@cond (@Option R) (@inb s1 (@Nat.cast Int instNatCastInt (@List.length (@Kd.T Kd.str) s0))) (@cond (@Option R) (@BEq.beq (@List UInt8) (@List.instBEq UInt8 (@instBEqOfDecidableEq UInt8 @instDecidableEqUInt8)) (@List.getD (@Kd.T Kd.str) s0 (@Int.toNat s2) (@Kd.zero Kd.str)) (@List.getD (@Kd.T Kd.str) s0 (@Int.toNat s1) (@Kd.zero Kd.str))) (K Bool.false) (E1007 s0 s1 (@Go.IntKind.wrap Go.IntKind.i64 (@HAdd.hAdd Int Int Int (@instHAdd Int @Int.instAdd) s2 (1 : Int))))) (@Option.none R)) (@Option.none R)) (E1002 s0 (@Go.IntKind.wrap Go.IntKind.i64 (@HAdd.hAdd Int Int Int (@instHAdd Int @Int.instAdd) s1 (1 : Int)))))
theorem wqqv (k : Nat) {R : Type} (I : Nat → St → Option R) (s0 : (List (List UInt8))) (s1 s2 : Int) (K : (Bool → Option R)) : execK (wqk k) k (at_ [1, 0, 1, 0, 0, 1, 0, 0, 1, 1, 0, 0] wq1k) (wq7q s0 s1 s2) (konts (wqk k) k I [1, 0, 1, 0, 0, 1, 0, 0, 1, 1, 0, 0] wq1k (outK (wqk k) wq5o [.tmp 2] (wq3q K))) = wqad k (fun s0 s1 => I 1002 (wq4c s0 s1)) (fun s0 s1 s2 => I 1007 (wq7q s0 s1 s2)) s0 s1 s2 K := by kernel_rfl
def wqkz (k : Nat) {R : Type} (E1002 : ((List (List UInt8)) → Int → Option R)) (x0 : (List (List UInt8))) (K : (Bool → Option R)) : Option R := (E1002 x0 (0 : Int))
theorem wq11z (k : Nat) {R : Type} (I : Nat → St → Option R) (x0 : (List (List UInt8))) (K : (Bool → Option R)) : fnK (wqk k) k wq1k 31 [.tmp 2] wq5o [.v (.sl .str) x0] [] (wq3q K) = wqkz k (fun s0 s1 => iter (wqk k).pv (look (wqk k).cuts 1002) (execK (wqk k) k (at_ [1, 0, 1, 0, 0] wq1k)) k (wq4c s0 s1) (konts (wqk k) k I [1, 0, 1, 0] wq1k (outK (wqk k) wq5o [.tmp 2] (wq3q K)))) x0 K := by kernel_rfl
def wq43 (k : Nat) {R : Type} (J1002 : ((List (List UInt8)) → Int → Option R)) : Nat → (List (List UInt8)) → Int → Int → (Bool → Option R) → Option R
  | 0, _, _, _, _ => none
  | n + 1, s0, s1, s2, K => wqad k J1002 (fun s0 s1 s2 => wq43 k J1002 n s0 s1 s2 K) s0 s1 s2 K
theorem wqqw (k : Nat) {R : Type} (I : Nat → St → Option R) (K : (Bool → Option R)) : ∀ (n : Nat) (s0 : (List (List UInt8))) (s1 s2 : Int), iter (wqk k).pv (look (wqk k).cuts 1007) (execK (wqk k) k (at_ [1, 0, 1, 0, 0, 1, 0, 0, 1, 1, 0, 0] wq1k)) n (wq7q s0 s1 s2) (konts (wqk k) k I [1, 0, 1, 0, 0, 1, 0, 0, 1, 1, 0] wq1k (outK (wqk k) wq5o [.tmp 2] (wq3q K))) = wq43 k (fun s0 s1 => I 1002 (wq4c s0 s1)) n s0 s1 s2 K := by
  intro n
  induction n with
  | zero => intros; rfl
  | succ n ih =>
    intro s0 s1 s2
    let I' : Nat → St → Option R := fun id s => bif Nat.beq id 1007 then iter (wqk k).pv (look (wqk k).cuts 1007) (execK (wqk k) k (at_ [1, 0, 1, 0, 0, 1, 0, 0, 1, 1, 0, 0] wq1k)) n s (konts (wqk k) k I [1, 0, 1, 0, 0, 1, 0, 0, 1, 1, 0] wq1k (outK (wqk k) wq5o [.tmp 2] (wq3q K))) else I id s
    have e := wqqv k I' s0 s1 s2 K
    have h1007 : (fun s0 s1 s2 => I' 1007 (wq7q s0 s1 s2)) = (fun s0 s1 s2 => wq43 k (fun s0 s1 => I 1002 (wq4c s0 s1)) n s0 s1 s2 K) := by funext s0 s1 s2; exact ih s0 s1 s2
    refine Eq.trans (?_ : _ = _) (e.trans (Eq.trans ((congrArg ((fun E1007 => wqad k (fun s0 s1 => I 1002 (wq4c s0 s1)) E1007 s0 s1 s2 K)) h1007)) (by rw [wq43])))
    rfl
def wq3i (k : Nat) {R : Type}  : Nat → (List (List UInt8)) → Int → (Bool → Option R) → Option R
  | 0, _, _, _ => none
  | n + 1, s0, s1, K => wqac k (fun s0 s1 s2 => wq43 k (fun s0 s1 => wq3i k  n s0 s1 K) k s0 s1 s2 K) s0 s1 K
theorem wqqx (k : Nat) {R : Type} (I : Nat → St → Option R) (K : (Bool → Option R)) : ∀ (n : Nat) (s0 : (List (List UInt8))) (s1 : Int), iter (wqk k).pv (look (wqk k).cuts 1002) (execK (wqk k) k (at_ [1, 0, 1, 0, 0] wq1k)) n (wq4c s0 s1) (konts (wqk k) k I [1, 0, 1, 0] wq1k (outK (wqk k) wq5o [.tmp 2] (wq3q K))) = wq3i k  n s0 s1 K := by
  intro n
  induction n with
  | zero => intros; rfl
  | succ n ih =>
    intro s0 s1
    let I' : Nat → St → Option R := fun id s => bif Nat.beq id 1002 then iter (wqk k).pv (look (wqk k).cuts 1002) (execK (wqk k) k (at_ [1, 0, 1, 0, 0] wq1k)) n s (konts (wqk k) k I [1, 0, 1, 0] wq1k (outK (wqk k) wq5o [.tmp 2] (wq3q K))) else I id s
    have e := wqqu k I' s0 s1 K
    have h1002 : (fun s0 s1 => I' 1002 (wq4c s0 s1)) = (fun s0 s1 => wq3i k  n s0 s1 K) := by funext s0 s1; exact ih s0 s1
    have h1007 : (fun s0 s1 s2 => iter (wqk k).pv (look (wqk k).cuts 1007) (execK (wqk k) k (at_ [1, 0, 1, 0, 0, 1, 0, 0, 1, 1, 0, 0] wq1k)) k (wq7q s0 s1 s2) (konts (wqk k) k I' [1, 0, 1, 0, 0, 1, 0, 0, 1, 1, 0] wq1k (outK (wqk k) wq5o [.tmp 2] (wq3q K)))) = (fun s0 s1 s2 => wq43 k (fun s0 s1 => wq3i k  n s0 s1 K) k s0 s1 s2 K) := by funext s0 s1 s2; exact (wqqw k I' K k s0 s1 s2).trans (congrArg (fun (JJ : ((List (List UInt8)) → Int → Option R)) => wq43 k JJ k s0 s1 s2 K) h1002)
    refine Eq.trans (?_ : _ = _) (e.trans (Eq.trans ((congrArg ((fun E1007 => wqac k E1007 s0 s1 K)) h1007)) (by rw [wq3i])))
    rfl
def wqgz (k : Nat) {R : Type} (x0 : (List (List UInt8))) (K : (Bool → Option R)) : Option R := wqkz k (fun s0 s1 => wq3i k k s0 s1 K) x0 K
theorem wq120 (k : Nat) {R : Type} (x0 : (List (List UInt8))) (K : (Bool → Option R)) : fnK (wqk k) k wq1k 31 [.tmp 2] wq5o [.v (.sl .str) x0] [] (wq3q K) = wqgz k x0 K := by
  let I : Nat → St → Option R := fun _ _ => none
  have h1002 : (fun s0 s1 => iter (wqk k).pv (look (wqk k).cuts 1002) (execK (wqk k) k (at_ [1, 0, 1, 0, 0] wq1k)) k (wq4c s0 s1) (konts (wqk k) k I [1, 0, 1, 0] wq1k (outK (wqk k) wq5o [.tmp 2] (wq3q K)))) = (fun s0 s1 => wq3i k k s0 s1 K) := by funext s0 s1; exact wqqx k I K k s0 s1
  exact (wq11z k I x0 K).trans (congrArg ((fun E1002 => wqkz k E1002 x0 K)) h1002)
def wql0 (k : Nat) {R : Type} : List PV → List (Nm × HObj) → (Out → Option R) → Option R
  | [.v (.sl .str) x0], [], K => wqgz k x0 (fun y0 => K (.ret [.v .bool y0] []))
  | _, _, _ => none
theorem wq121 (k : Nat) : (wqz9 k).Ok Tryd.prog := (CTab.add_ok (fun h => wq1ca k h) CTab.nil_ok)
theorem wq1a2 (k : Nat) {ps : List PV} {hp : List (Nm × HObj)} {R : Type} {K : Out → Option R} {r : R} (h : wql0 k ps hp K = some r) : DoesTo Tryd.prog 38 ps hp fun out => K out = some r := by
  unfold wql0 at h
  split at h
  · rw [← wq120] at h
    have := fn_ok (P := Tryd.prog) (cx := wqk k) (f := 38) ⟨tyT_ok, wq121 k, fun _ _ => rfl⟩ (by kernel_rfl) (fn := Tryd.f38) (c := wq1k) (by kernel_rfl) (by kernel_rfl) (by kernel_rfl) (rs := [.tmp 2]) (by kernel_rfl) (by kernel_rfl) h
    exact this.mono fun out ho => by
      unfold wq3q at ho
      split at ho <;> first | exact ho | cases ho
  · cases h
def wqzb : List LS := [.any, .any]
def wqsm (k : Nat) : CTab := CTab.nil
def wq5p {R : Type} (K : (Int → Option R)) : Out → Option R
  | .ret [.v (.int .i64) y0] [] => K y0
  | _ => none
def wq8y : RetSpec := ⟨[.any], [], []⟩
def wqw0 : List (Nat × CutSpec) := [(1002, ⟨[(0, .any), (1, .any), (5, .any)], []⟩)]
def wque : List (Nat × Plan) := []
def wq16 (k : Nat) : Ctx := ⟨tyT, wqw0, wqsm k, [], [], wque, @SH⟩
def wq2t : Code := Tryd.f59.body.getD .skip
def wq69 (s0 : (List UInt8)) (s1 s2 : Int) : St := ⟨mkT [(0, .v .str s0), (1, .v (.int .i64) s1), (5, .v (.int .i64) s2)], mkH []⟩
def wq8p (k : Nat) {R : Type} (E1002 : ((List UInt8) → Int → Int → Option R)) (s0 : (List UInt8)) (s1 s2 : Int) (K : (Int → Option R)) : Option R := (@cond (@Option R) (@Bool.or (@Bool.not (@BEq.beq (@Kd.T Kd.bool) (@instBEqOfDecidableEq (@Kd.T Kd.bool) @instDecidableEqBool) (@Decidable.decide (@LT.lt Int Int.instLTInt (@Go.IntKind.wrap Go.IntKind.i64 (@HAdd.hAdd Int Int Int (@instHAdd Int @Int.instAdd) s1 s2)) (@Nat.cast Int instNatCastInt (@List.length UInt8 s0))) (@Int.decLt (@Go.IntKind.wrap Go.IntKind.i64 (@HAdd.hAdd Int Int Int (@instHAdd Int @Int.instAdd) s1 s2)) (@Nat.cast Int instNatCastInt (@List.length UInt8 s0)))) Bool.true)) (@inb (@Go.IntKind.wrap Go.IntKind.i64 (@HAdd.hAdd Int Int Int (@instHAdd Int @Int.instAdd) s1 s2)) (@Nat.cast Int instNatCastInt (@List.length UInt8 s0)))) (@cond (@Option R) (@cond (@Kd.T Kd.bool) (@Decidable.decide (@LT.lt Int Int.instLTInt (@Go.IntKind.wrap Go.IntKind.i64 (@HAdd.hAdd Int Int Int (@instHAdd Int @Int.instAdd) s1 s2)) (@Nat.cast Int instNatCastInt (@List.length UInt8 s0))) (@Int.decLt (@Go.IntKind.wrap Go.IntKind.i64 (@HAdd.hAdd Int Int Int (@instHAdd Int @Int.instAdd) s1 s2)) (@Nat.cast Int instNatCastInt (@List.length UInt8 s0)))) (@BEq.beq Int (@instBEqOfDecidableEq Int @Int.instDecidableEq) (@Nat.cast Int instNatCastInt (@UInt8.toNat (@List.getD UInt8 s0 (@Int.toNat (@Go.IntKind.wrap Go.IntKind.i64 (@HAdd.hAdd Int Int Int (@instHAdd Int @Int.instAdd) s1 s2))) (0 : UInt8)))) (32 : Int)) Bool.false) (E1002 s0 s1 (@Go.IntKind.wrap Go.IntKind.i64 (@HAdd.hAdd Int Int Int (@instHAdd Int @Int.instAdd) s2 (1 : Int)))) (K s2)) (@Option.none R))
theorem wqn8 (k : Nat) {R : Type} (I : Nat → St → Option R) (s0 : (List UInt8)) (s1 s2 : Int) (K : (Int → Option R)) : execK (wq16 k) k (at_ [1, 1, 0, 0, 0] wq2t) (wq69 s0 s1 s2) (konts (wq16 k) k I [1, 1, 0, 0, 0] wq2t (outK (wq16 k) wq8y [.tmp 4] (wq5p K))) = wq8p k (fun s0 s1 s2 => I 1002 (wq69 s0 s1 s2)) s0 s1 s2 K := by kernel_rfl
def wqfz (k : Nat) {R : Type} (E1002 : ((List UInt8) → Int → Int → Option R)) (x0 : (List UInt8)) (x1 : Int) (K : (Int → Option R)) : Option R := (E1002 x0 x1 (0 : Int))
theorem wqw1 (k : Nat) {R : Type} (I : Nat → St → Option R) (x0 : (List UInt8)) (x1 : Int) (K : (Int → Option R)) : fnK (wq16 k) k wq2t 23 [.tmp 4] wq8y [.v .str x0, .v (.int .i64) x1] [] (wq5p K) = wqfz k (fun s0 s1 s2 => iter (wq16 k).pv (look (wq16 k).cuts 1002) (execK (wq16 k) k (at_ [1, 1, 0, 0, 0] wq2t)) k (wq69 s0 s1 s2) (konts (wq16 k) k I [1, 1, 0, 0] wq2t (outK (wq16 k) wq8y [.tmp 4] (wq5p K)))) x0 x1 K := by kernel_rfl
def wq3z (k : Nat) {R : Type}  : Nat → (List UInt8) → Int → Int → (Int → Option R) → Option R
  | 0, _, _, _, _ => none
  | n + 1, s0, s1, s2, K => wq8p k (fun s0 s1 s2 => wq3z k  n s0 s1 s2 K) s0 s1 s2 K
theorem wqn9 (k : Nat) {R : Type} (I : Nat → St → Option R) (K : (Int → Option R)) : ∀ (n : Nat) (s0 : (List UInt8)) (s1 s2 : Int), iter (wq16 k).pv (look (wq16 k).cuts 1002) (execK (wq16 k) k (at_ [1, 1, 0, 0, 0] wq2t)) n (wq69 s0 s1 s2) (konts (wq16 k) k I [1, 1, 0, 0] wq2t (outK (wq16 k) wq8y [.tmp 4] (wq5p K))) = wq3z k  n s0 s1 s2 K := by
  intro n
  induction n with
  | zero => intros; rfl
  | succ n ih =>
    intro s0 s1 s2
    let I' : Nat → St → Option R := fun id s => bif Nat.beq id 1002 then iter (wq16 k).pv (look (wq16 k).cuts 1002) (execK (wq16 k) k (at_ [1, 1, 0, 0, 0] wq2t)) n s (konts (wq16 k) k I [1, 1, 0, 0] wq2t (outK (wq16 k) wq8y [.tmp 4] (wq5p K))) else I id s
    have e := wqn8 k I' s0 s1 s2 K
    have h1002 : (fun s0 s1 s2 => I' 1002 (wq69 s0 s1 s2)) = (fun s0 s1 s2 => wq3z k  n s0 s1 s2 K) := by funext s0 s1 s2; exact ih s0 s1 s2
    refine Eq.trans (?_ : _ = _) (e.trans (Eq.trans ((congrArg ((fun E1002 => wq8p k E1002 s0 s1 s2 K)) h1002)) (by rw [wq3z])))
    rfl
def wq9v (k : Nat) {R : Type} (x0 : (List UInt8)) (x1 : Int) (K : (Int → Option R)) : Option R := wqfz k (fun s0 s1 s2 => wq3z k k s0 s1 s2 K) x0 x1 K
theorem wqw2 (k : Nat) {R : Type} (x0 : (List UInt8)) (x1 : Int) (K : (Int → Option R)) : fnK (wq16 k) k wq2t 23 [.tmp 4] wq8y [.v .str x0, .v (.int .i64) x1] [] (wq5p K) = wq9v k x0 x1 K := by
  let I : Nat → St → Option R := fun _ _ => none
  have h1002 : (fun s0 s1 s2 => iter (wq16 k).pv (look (wq16 k).cuts 1002) (execK (wq16 k) k (at_ [1, 1, 0, 0, 0] wq2t)) k (wq69 s0 s1 s2) (konts (wq16 k) k I [1, 1, 0, 0] wq2t (outK (wq16 k) wq8y [.tmp 4] (wq5p K)))) = (fun s0 s1 s2 => wq3z k k s0 s1 s2 K) := by funext s0 s1 s2; exact wqn9 k I K k s0 s1 s2
  exact (wqw1 k I x0 x1 K).trans (congrArg ((fun E1002 => wqfz k E1002 x0 x1 K)) h1002)
def wqh0 (k : Nat) {R : Type} : List PV → List (Nm × HObj) → (Out → Option R) → Option R
  | [.v .str x0, .v (.int .i64) x1], [], K => wq9v k x0 x1 (fun y0 => K (.ret [.v (.int .i64) y0] []))
  | _, _, _ => none
theorem wqw3 (k : Nat) : (wqsm k).Ok Tryd.prog := CTab.nil_ok
theorem wq15e (k : Nat) {ps : List PV} {hp : List (Nm × HObj)} {R : Type} {K : Out → Option R} {r : R} (h : wqh0 k ps hp K = some r) : DoesTo Tryd.prog 59 ps hp fun out => K out = some r := by
  unfold wqh0 at h
  split at h
  · rw [← wqw2] at h
    have := fn_ok (P := Tryd.prog) (cx := wq16 k) (f := 59) ⟨tyT_ok, wqw3 k, fun _ _ => rfl⟩ (by kernel_rfl) (fn := Tryd.f59) (c := wq2t) (by kernel_rfl) (by kernel_rfl) (by kernel_rfl) (rs := [.tmp 4]) (by kernel_rfl) (by kernel_rfl) h
    exact this.mono fun out ho => by
      unfold wq5p at ho
      split at ho <;> first | exact ho | cases ho
  · cases h
def wqzc : List LS := [.any]
def wqsn (k : Nat) : CTab := CTab.nil
def wqfm {R : Type} (K : (Bool → Option R)) : Out → Option R
  | .ret [.v .bool y0] [] => K y0
  | _ => none
def wqp7 : RetSpec := ⟨[.any], [], []⟩
def wqw4 : List (Nat × CutSpec) := []
def wquf : List (Nat × Plan) := []
def wqiz (k : Nat) : Ctx := ⟨tyT, wqw4, wqsn k, [], [], wquf, @SH⟩
def wqfn : Code := Tryd.f60.body.getD .skip
def wql1 (k : Nat) {R : Type}  (x0 : (List UInt8)) (K : (Bool → Option R)) : Option R := (@cond (@Option R) (@Bool.or (@Bool.not (@BEq.beq (@Kd.T Kd.bool) (@instBEqOfDecidableEq (@Kd.T Kd.bool) @instDecidableEqBool) (@Decidable.decide (@GT.gt Int Int.instLTInt (@Nat.cast Int instNatCastInt (@List.length UInt8 x0)) (0 : Int)) (@Int.decLt (0 : Int) (@Nat.cast Int instNatCastInt (@List.length UInt8 x0)))) Bool.true)) (@inb (0 : Int) (@Nat.cast Int instNatCastInt (@List.length UInt8 x0)))) (@cond (@Option R) (@Bool.or (@Bool.not (@Bool.and (@BEq.beq (@Kd.T Kd.bool) (@instBEqOfDecidableEq (@Kd.T Kd.bool) @instDecidableEqBool) (@cond (@Kd.T Kd.bool) (@Decidable.decide (@GT.gt Int Int.instLTInt (@Nat.cast Int instNatCastInt (@List.length UInt8 x0)) (0 : Int)) (@Int.decLt (0 : Int) (@Nat.cast Int instNatCastInt (@List.length UInt8 x0)))) (@BEq.beq Int (@instBEqOfDecidableEq Int @Int.instDecidableEq) (@Nat.cast Int instNatCastInt (@UInt8.toNat (@List.getD UInt8 x0 (@Int.toNat (0 : Int)) (0 : UInt8)))) (45 : Int)) Bool.false) Bool.true) (@BEq.beq (@Kd.T Kd.bool) (@instBEqOfDecidableEq (@Kd.T Kd.bool) @instDecidableEqBool) (@BEq.beq Int (@instBEqOfDecidableEq Int @Int.instDecidableEq) (@Nat.cast Int instNatCastInt (@List.length UInt8 x0)) (1 : Int)) Bool.false))) (@inb (1 : Int) (@Nat.cast Int instNatCastInt (@List.length UInt8 x0)))) (K (@cond (@Kd.T Kd.bool) (@cond (@Kd.T Kd.bool) (@Decidable.decide (@GT.gt Int Int.instLTInt (@Nat.cast Int instNatCastInt (@List.length UInt8 x0)) (0 : Int)) (@Int.decLt (0 : Int) (@Nat.cast Int instNatCastInt (@List.length UInt8 x0)))) (@BEq.beq Int (@instBEqOfDecidableEq Int @Int.instDecidableEq) (@Nat.cast Int instNatCastInt (@UInt8.toNat (@List.getD UInt8 x0 (@Int.toNat (0 : Int)) (0 : UInt8)))) (45 : Int)) Bool.false) (@cond (@Kd.T Kd.bool) (@BEq.beq Int (@instBEqOfDecidableEq Int @Int.instDecidableEq) (@Nat.cast Int instNatCastInt (@List.length UInt8 x0)) (1 : Int)) Bool.true (@BEq.beq Int (@instBEqOfDecidableEq Int @Int.instDecidableEq) (@Nat.cast Int instNatCastInt (@UInt8.toNat (@List.getD UInt8 x0 (@Int.toNat (1 : Int)) (0 : UInt8)))) (32 : Int))) Bool.false)) (@Option.none R)) (@Option.none R))
theorem wqw5 (k : Nat) {R : Type} (I : Nat → St → Option R) (x0 : (List UInt8)) (K : (Bool → Option R)) : fnK (wqiz k) k wqfn 21 [.tmp 2] wqp7 [.v .str x0] [] (wqfm K) = wql1 k  x0 K := by kernel_rfl
def wq9w (k : Nat) {R : Type} (x0 : (List UInt8)) (K : (Bool → Option R)) : Option R := wql1 k  x0 K
theorem wqw6 (k : Nat) {R : Type} (x0 : (List UInt8)) (K : (Bool → Option R)) : fnK (wqiz k) k wqfn 21 [.tmp 2] wqp7 [.v .str x0] [] (wqfm K) = wq9w k x0 K := by
  exact wqw5 k (fun _ _ => none) x0 K
def wqh1 (k : Nat) {R : Type} : List PV → List (Nm × HObj) → (Out → Option R) → Option R
  | [.v .str x0], [], K => wq9w k x0 (fun y0 => K (.ret [.v .bool y0] []))
  | _, _, _ => none
theorem wqw7 (k : Nat) : (wqsn k).Ok Tryd.prog := CTab.nil_ok
theorem wq15f (k : Nat) {ps : List PV} {hp : List (Nm × HObj)} {R : Type} {K : Out → Option R} {r : R} (h : wqh1 k ps hp K = some r) : DoesTo Tryd.prog 60 ps hp fun out => K out = some r := by
  unfold wqh1 at h
  split at h
  · rw [← wqw6] at h
    have := fn_ok (P := Tryd.prog) (cx := wqiz k) (f := 60) ⟨tyT_ok, wqw7 k, fun _ _ => rfl⟩ (by kernel_rfl) (fn := Tryd.f60) (c := wqfn) (by kernel_rfl) (by kernel_rfl) (by kernel_rfl) (rs := [.tmp 2]) (by kernel_rfl) (by kernel_rfl) h
    exact this.mono fun out ho => by
      unfold wqfm at ho
      split at ho <;> first | exact ho | cases ho
  · cases h
def wq122 : List LS := [.any]
def wqv8 (k : Nat) : CTab := (CTab.add 64 wqsj (wqfy k) CTab.nil)
def wq6m {R : Type} (K : (Int → Option R)) : Out → Option R
  | .ret [.v (.int .i64) y0] [] => K y0
  | _ => none
def wq9x : RetSpec := ⟨[.any], [], []⟩
def wqzd : List (Nat × CutSpec) := [(1002, ⟨[(0, .any), (3, .any)], []⟩)]
def wqw8 : List (Nat × Plan) := []
def wq1g (k : Nat) : Ctx := ⟨tyT, wqzd, wqv8 k, [], [], wqw8, @SH⟩
def wq35 : Code := Tryd.f61.body.getD .skip
def wq6u (s0 : (List UInt8)) (s1 : Int) : St := ⟨mkT [(0, .v .str s0), (3, .v (.int .i64) s1)], mkH []⟩
def wq9c (k : Nat) {R : Type} (E1002 : ((List UInt8) → Int → Option R)) (s0 : (List UInt8)) (s1 : Int) (K : (Int → Option R)) : Option R := (@cond (@Option R) (@Bool.or (@Bool.not (@BEq.beq (@Kd.T Kd.bool) (@instBEqOfDecidableEq (@Kd.T Kd.bool) @instDecidableEqBool) (@Decidable.decide (@LT.lt Int Int.instLTInt s1 (@Nat.cast Int instNatCastInt (@List.length UInt8 s0))) (@Int.decLt s1 (@Nat.cast Int instNatCastInt (@List.length UInt8 s0)))) Bool.true)) (@inb s1 (@Nat.cast Int instNatCastInt (@List.length UInt8 s0)))) (@cond (@Option R) (@BEq.beq (@Kd.T Kd.bool) (@instBEqOfDecidableEq (@Kd.T Kd.bool) @instDecidableEqBool) (@Decidable.decide (@LT.lt Int Int.instLTInt s1 (@Nat.cast Int instNatCastInt (@List.length UInt8 s0))) (@Int.decLt s1 (@Nat.cast Int instNatCastInt (@List.length UInt8 s0)))) Bool.true) (@wqei k R (@Nat.cast Int instNatCastInt (@UInt8.toNat (@List.getD UInt8 s0 (@Int.toNat s1) (0 : UInt8)))) (fun y6 => (@cond (@Option R) y6 (E1002 s0 (@Go.IntKind.wrap Go.IntKind.i64 (@HAdd.hAdd Int Int Int (@instHAdd Int @Int.instAdd) s1 (1 : Int)))) (@cond (@Option R) (@Bool.or (@Bool.not (@BEq.beq (@Kd.T Kd.bool) (@instBEqOfDecidableEq (@Kd.T Kd.bool) @instDecidableEqBool) (@cond (@Kd.T Kd.bool) (@BEq.beq Int (@instBEqOfDecidableEq Int @Int.instDecidableEq) s1 (0 : Int)) Bool.true (@Decidable.decide (@GE.ge Int Int.instLEInt s1 (@Nat.cast Int instNatCastInt (@List.length UInt8 s0))) (@Int.decLe (@Nat.cast Int instNatCastInt (@List.length UInt8 s0)) s1))) Bool.false)) (@inb s1 (@Nat.cast Int instNatCastInt (@List.length UInt8 s0)))) (@cond (@Option R) (@Bool.or (@Bool.not (@Bool.and (@BEq.beq (@Kd.T Kd.bool) (@instBEqOfDecidableEq (@Kd.T Kd.bool) @instDecidableEqBool) (@cond (@Kd.T Kd.bool) (@cond (@Kd.T Kd.bool) (@BEq.beq Int (@instBEqOfDecidableEq Int @Int.instDecidableEq) s1 (0 : Int)) Bool.true (@Decidable.decide (@GE.ge Int Int.instLEInt s1 (@Nat.cast Int instNatCastInt (@List.length UInt8 s0))) (@Int.decLe (@Nat.cast Int instNatCastInt (@List.length UInt8 s0)) s1))) Bool.true (@bne Int (@instBEqOfDecidableEq Int @Int.instDecidableEq) (@Nat.cast Int instNatCastInt (@UInt8.toNat (@List.getD UInt8 s0 (@Int.toNat s1) (0 : UInt8)))) (58 : Int))) Bool.false) (@BEq.beq (@Kd.T Kd.bool) (@instBEqOfDecidableEq (@Kd.T Kd.bool) @instDecidableEqBool) (@Decidable.decide (@LT.lt Int Int.instLTInt (@Go.IntKind.wrap Go.IntKind.i64 (@HAdd.hAdd Int Int Int (@instHAdd Int @Int.instAdd) s1 (1 : Int))) (@Nat.cast Int instNatCastInt (@List.length UInt8 s0))) (@Int.decLt (@Go.IntKind.wrap Go.IntKind.i64 (@HAdd.hAdd Int Int Int (@instHAdd Int @Int.instAdd) s1 (1 : Int))) (@Nat.cast Int instNatCastInt (@List.length UInt8 s0)))) Bool.true))) (@inb (@Go.IntKind.wrap Go.IntKind.i64 (@HAdd.hAdd Int Int Int (@instHAdd Int @Int.instAdd) s1 (1 : Int))) (@Nat.cast Int instNatCastInt (@List.length UInt8 s0)))) (@cond (@Option R) (@cond (@Kd.T Kd.bool) (@cond (@Kd.T Kd.bool) (@cond (@Kd.T Kd.bool) (@BEq.beq Int (@instBEqOfDecidableEq Int @Int.instDecidableEq) s1 (0 : Int)) Bool.true (@Decidable.decide (@GE.ge Int Int.instLEInt s1 (@Nat.cast Int instNatCastInt (@List.length UInt8 s0))) (@Int.decLe (@Nat.cast Int instNatCastInt (@List.length UInt8 s0)) s1))) Bool.true (@bne Int (@instBEqOfDecidableEq Int @Int.instDecidableEq) (@Nat.cast Int instNatCastInt (@UInt8.toNat (@List.getD UInt8 s0 (@Int.toNat s1) (0 : UInt8)))) (58 : Int))) Bool.true (@cond (@Kd.T Kd.bool) (@Decidable.decide (@LT.lt Int Int.instLTInt (@Go.IntKind.wrap Go.IntKind.i64 (@HAdd.hAdd Int Int Int (@instHAdd Int @Int.instAdd) s1 (1 : Int))) (@Nat.cast Int instNatCastInt (@List.length UInt8 s0))) (@Int.decLt (@Go.IntKind.wrap Go.IntKind.i64 (@HAdd.hAdd Int Int Int (@instHAdd Int @Int.instAdd) s1 (1 : Int))) (@Nat.cast Int instNatCastInt (@List.length UInt8 s0)))) (@bne Int (@instBEqOfDecidableEq Int @Int.instDecidableEq) (@Nat.cast Int instNatCastInt (@UInt8.toNat (@List.getD UInt8 s0 (@Int.toNat (@Go.IntKind.wrap Go.IntKind.i64 (@HAdd.hAdd Int Int Int (@instHAdd Int @Int.instAdd) s1 (1 : Int)))) (0 : UInt8)))) (32 : Int)) Bool.false)) (K (0 : Int)) (K s1)) (@Option.none R)) (@Option.none R))))) (@cond (@Option R) (@Bool.or (@Bool.not (@BEq.beq (@Kd.T Kd.bool) (@instBEqOfDecidableEq (@Kd.T Kd.bool) @instDecidableEqBool) (@cond (@Kd.T Kd.bool) (@BEq.beq Int (@instBEqOfDecidableEq Int @Int.instDecidableEq) s1 (0 : Int)) Bool.true (@Decidable.decide (@GE.ge Int Int.instLEInt s1 (@Nat.cast Int instNatCastInt (@List.length UInt8 s0))) (@Int.decLe (@Nat.cast Int instNatCastInt (@List.length UInt8 s0)) s1))) Bool.false)) (@inb s1 (@Nat.cast Int instNatCastInt (@List.length UInt8 s0)))) (@cond (@Option R) (@Bool.or (@Bool.not (@Bool.and (@BEq.beq (@Kd.T Kd.bool) (@instBEqOfDecidableEq (@Kd.T Kd.bool) @instDecidableEqBool) (@cond (@Kd.T Kd.bool) (@cond (@Kd.T Kd.bool) (@BEq.beq Int (@instBEqOfDecidableEq Int @Int.instDecidableEq) s1 (0 : Int)) Bool.true (@Decidable.decide (@GE.ge Int Int.instLEInt s1 (@Nat.cast Int instNatCastInt (@List.length UInt8 s0))) (@Int.decLe (@Nat.cast Int instNatCastInt (@List.length UInt8 s0)) s1))) Bool.true (@bne Int (@instBEqOfDecidableEq Int @Int.instDecidableEq) (@Nat.cast Int instNatCastInt (@UInt8.toNat (@List.getD UInt8 s0 (@Int.toNat s1) (0 : UInt8)))) (58 : Int))) Bool.false) (@BEq.beq (@Kd.T Kd.bool) (@instBEqOfDecidableEq (@Kd.T Kd.bool) @instDecidableEqBool) (@Decidable.decide (@LT.lt Int Int.instLTInt (@Go.IntKind.wrap Go.IntKind.i64 (@HAdd.hAdd Int Int Int (@instHAdd Int @Int.instAdd) s1 (1 : Int))) (@Nat.cast Int instNatCastInt (@List.length UInt8 s0))) (@Int.decLt (@Go.IntKind.wrap Go.IntKind.i64 (@HAdd.hAdd Int Int Int (@instHAdd Int @Int.instAdd) s1 (1 : Int))) (@Nat.cast Int instNatCastInt (@List.length UInt8 s0)))) Bool.true))) (@inb (@Go.IntKind.wrap Go.IntKind.i64 (@HAdd.hAdd Int Int Int (@instHAdd Int @Int.instAdd) s1 (1 : Int))) (@Nat.cast Int instNatCastInt (@List.length UInt8 s0)))) (@cond (@Option R) (@cond (@Kd.T Kd.bool) (@cond (@Kd.T Kd.bool) (@cond (@Kd.T Kd.bool) (@BEq.beq Int (@instBEqOfDecidableEq Int @Int.instDecidableEq) s1 (0 : Int)) Bool.true (@Decidable.decide (@GE.ge Int Int.instLEInt s1 (@Nat.cast Int instNatCastInt (@List.length UInt8 s0))) (@Int.decLe (@Nat.cast Int instNatCastInt (@List.length UInt8 s0)) s1))) Bool.true (@bne Int (@instBEqOfDecidableEq Int @Int.instDecidableEq) (@Nat.cast Int instNatCastInt (@UInt8.toNat (@List.getD UInt8 s0 (@Int.toNat s1) (0 : UInt8)))) (58 : Int))) Bool.true (@cond (@Kd.T Kd.bool) (@Decidable.decide (@LT.lt Int Int.instLTInt (@Go.IntKind.wrap Go.IntKind.i64 (@HAdd.hAdd Int Int Int (@instHAdd Int @Int.instAdd) s1 (1 : Int))) (@Nat.cast Int instNatCastInt (@List.length UInt8 s0))) (@Int.decLt (@Go.IntKind.wrap Go.IntKind.i64 (@HAdd.hAdd Int Int Int (@instHAdd Int @Int.instAdd) s1 (1 : Int))) (@Nat.cast Int instNatCastInt (@List.length UInt8 s0)))) (@bne Int (@instBEqOfDecidableEq Int @Int.instDecidableEq) (@Nat.cast Int instNatCastInt (@UInt8.toNat (@List.getD UInt8 s0 (@Int.toNat (@Go.IntKind.wrap Go.IntKind.i64 (@HAdd.hAdd Int Int Int (@instHAdd Int @Int.instAdd) s1 (1 : Int)))) (0 : UInt8)))) (32 : Int)) Bool.false)) (K (0 : Int)) (K s1)) (@Option.none R)) (@Option.none R))) (@Option.none R))
theorem wqop (k : Nat) {R : Type} (I : Nat → St → Option R) (s0 : (List UInt8)) (s1 : Int) (K : (Int → Option R)) : execK (wq1g k) k (at_ [1, 1, 0, 0, 0] wq35) (wq6u s0 s1) (konts (wq1g k) k I [1, 1, 0, 0, 0] wq35 (outK (wq1g k) wq9x [.tmp 2] (wq6m K))) = wq9c k (fun s0 s1 => I 1002 (wq6u s0 s1)) s0 s1 K := by kernel_rfl
def wqi8 (k : Nat) {R : Type} (E1002 : ((List UInt8) → Int → Option R)) (x0 : (List UInt8)) (K : (Int → Option R)) : Option R := (E1002 x0 (0 : Int))
theorem wqze (k : Nat) {R : Type} (I : Nat → St → Option R) (x0 : (List UInt8)) (K : (Int → Option R)) : fnK (wq1g k) k wq35 45 [.tmp 2] wq9x [.v .str x0] [] (wq6m K) = wqi8 k (fun s0 s1 => iter (wq1g k).pv (look (wq1g k).cuts 1002) (execK (wq1g k) k (at_ [1, 1, 0, 0, 0] wq35)) k (wq6u s0 s1) (konts (wq1g k) k I [1, 1, 0, 0] wq35 (outK (wq1g k) wq9x [.tmp 2] (wq6m K)))) x0 K := by kernel_rfl
def wq4d (k : Nat) {R : Type}  : Nat → (List UInt8) → Int → (Int → Option R) → Option R
  | 0, _, _, _ => none
  | n + 1, s0, s1, K => wq9c k (fun s0 s1 => wq4d k  n s0 s1 K) s0 s1 K
theorem wqoq (k : Nat) {R : Type} (I : Nat → St → Option R) (K : (Int → Option R)) : ∀ (n : Nat) (s0 : (List UInt8)) (s1 : Int), iter (wq1g k).pv (look (wq1g k).cuts 1002) (execK (wq1g k) k (at_ [1, 1, 0, 0, 0] wq35)) n (wq6u s0 s1) (konts (wq1g k) k I [1, 1, 0, 0] wq35 (outK (wq1g k) wq9x [.tmp 2] (wq6m K))) = wq4d k  n s0 s1 K := by
  intro n
  induction n with
  | zero => intros; rfl
  | succ n ih =>
    intro s0 s1
    let I' : Nat → St → Option R := fun id s => bif Nat.beq id 1002 then iter (wq1g k).pv (look (wq1g k).cuts 1002) (execK (wq1g k) k (at_ [1, 1, 0, 0, 0] wq35)) n s (konts (wq1g k) k I [1, 1, 0, 0] wq35 (outK (wq1g k) wq9x [.tmp 2] (wq6m K))) else I id s
    have e := wqop k I' s0 s1 K
    have h1002 : (fun s0 s1 => I' 1002 (wq6u s0 s1)) = (fun s0 s1 => wq4d k  n s0 s1 K) := by funext s0 s1; exact ih s0 s1
    refine Eq.trans (?_ : _ = _) (e.trans (Eq.trans ((congrArg ((fun E1002 => wq9c k E1002 s0 s1 K)) h1002)) (by rw [wq4d])))
    rfl
def wq9i (k : Nat) {R : Type} (x0 : (List UInt8)) (K : (Int → Option R)) : Option R := wqi8 k (fun s0 s1 => wq4d k k s0 s1 K) x0 K
theorem wqzf (k : Nat) {R : Type} (x0 : (List UInt8)) (K : (Int → Option R)) : fnK (wq1g k) k wq35 45 [.tmp 2] wq9x [.v .str x0] [] (wq6m K) = wq9i k x0 K := by
  let I : Nat → St → Option R := fun _ _ => none
  have h1002 : (fun s0 s1 => iter (wq1g k).pv (look (wq1g k).cuts 1002) (execK (wq1g k) k (at_ [1, 1, 0, 0, 0] wq35)) k (wq6u s0 s1) (konts (wq1g k) k I [1, 1, 0, 0] wq35 (outK (wq1g k) wq9x [.tmp 2] (wq6m K)))) = (fun s0 s1 => wq4d k k s0 s1 K) := by funext s0 s1; exact wqoq k I K k s0 s1
  exact (wqze k I x0 K).trans (congrArg ((fun E1002 => wqi8 k E1002 x0 K)) h1002)
def wqj0 (k : Nat) {R : Type} : List PV → List (Nm × HObj) → (Out → Option R) → Option R
  | [.v .str x0], [], K => wq9i k x0 (fun y0 => K (.ret [.v (.int .i64) y0] []))
  | _, _, _ => none
theorem wqzg (k : Nat) : (wqv8 k).Ok Tryd.prog := (CTab.add_ok (fun h => wqz8 k h) CTab.nil_ok)
theorem wq17t (k : Nat) {ps : List PV} {hp : List (Nm × HObj)} {R : Type} {K : Out → Option R} {r : R} (h : wqj0 k ps hp K = some r) : DoesTo Tryd.prog 61 ps hp fun out => K out = some r := by
  unfold wqj0 at h
  split at h
  · rw [← wqzf] at h
    have := fn_ok (P := Tryd.prog) (cx := wq1g k) (f := 61) ⟨tyT_ok, wqzg k, fun _ _ => rfl⟩ (by kernel_rfl) (fn := Tryd.f61) (c := wq35) (by kernel_rfl) (by kernel_rfl) (by kernel_rfl) (rs := [.tmp 2]) (by kernel_rfl) (by kernel_rfl) h
    exact this.mono fun out ho => by
      unfold wq6m at ho
      split at ho <;> first | exact ho | cases ho
  · cases h
end Go.Proofs.YtdfhgimidmfgfaaDoor.Pvm
end
