/- The Go function ShowTexts answers true for every input: one text alone may be just as the reference tells; no further condition. -/
import Derived.Test.YtdfhgimidmfgfaaDoorChecked
import Derived.WalkKit
import Derived.WalkSpells
import Derived.WalkLawsBesides
import Derived.Lib.Builder
import Derived.Laws.Externs
import Derived.Shelf.RegionOpenPlain
import Derived.Deep.Heap
import Derived.Shelf.Strings.Repeat
import Derived.Lib.AppendStr
import Derived.Lib.UnsafeStr
import Derived.Test.YtdfhgimidmfgfaaDoorShowTextsM0
import Derived.Test.YtdfhgimidmfgfaaDoorShowTextsM1
import Derived.Test.YtdfhgimidmfgfaaDoorShowTextsM2
set_option linter.unusedVariables false
set_option linter.unusedSimpArgs false
set_option linter.unusedSectionVars false
noncomputable section
set_option maxRecDepth 1000000
set_option maxHeartbeats 0
namespace Go.Proofs.YtdfhgimidmfgfaaDoor.Pvm
open Go Go.Proofs
def wq110 : List LS := [.any, .any]
def wqut (k : Nat) : CTab := CTab.nil
def wq6h {R : Type} (K : (Int → Bool → Option R)) : Out → Option R
  | .ret [.v (.int .i64) y0, .v .bool y1] [] => K y0 y1
  | _ => none
def wq9p : RetSpec := ⟨[.any, .any], [], []⟩
def wqy8 : List (Nat × CutSpec) := [(1003, ⟨[(0, .any), (6, .any), (7, .any)], []⟩)]
def wqvo : List (Nat × Plan) := []
def wq1d (k : Nat) : Ctx := ⟨tyT, wqy8, wqut k, [], [], wqvo, @SH⟩
def wq32 : Code := Tryd.f53.body.getD .skip
def wq6r (s0 : (List UInt8)) (s1 s2 : Int) : St := ⟨mkT [(0, .v .str s0), (6, .v (.int .u8) s1), (7, .v (.int .i64) s2)], mkH []⟩
def wqb7 (k : Nat) {R : Type} (E1003 : ((List UInt8) → Int → Int → Option R)) (s0 : (List UInt8)) (s1 s2 : Int) (K : (Int → Bool → Option R)) : Option R := (@cond (@Option R) (@Decidable.decide (@LT.lt Int Int.instLTInt s2 (@Nat.cast Int instNatCastInt (@List.length UInt8 s0))) (@Int.decLt s2 (@Nat.cast Int instNatCastInt (@List.length UInt8 s0)))) (@cond (@Option R) (@Bool.or (@Bool.not (@BEq.beq (@Kd.T Kd.bool) (@instBEqOfDecidableEq (@Kd.T Kd.bool) @instDecidableEqBool) (@BEq.beq Int (@instBEqOfDecidableEq Int @Int.instDecidableEq) s1 (34 : Int)) Bool.true)) (@inb s2 (@Nat.cast Int instNatCastInt (@List.length UInt8 s0)))) (@cond (@Option R) (@cond (@Kd.T Kd.bool) (@BEq.beq Int (@instBEqOfDecidableEq Int @Int.instDecidableEq) s1 (34 : Int)) (@BEq.beq Int (@instBEqOfDecidableEq Int @Int.instDecidableEq) (@Nat.cast Int instNatCastInt (@UInt8.toNat (@List.getD UInt8 s0 (@Int.toNat s2) (0 : UInt8)))) (92 : Int)) Bool.false) (E1003 s0 s1 (@Go.IntKind.wrap Go.IntKind.i64 (@HAdd.hAdd Int Int Int (@instHAdd Int @Int.instAdd) (@Go.IntKind.wrap Go.IntKind.i64 (@HAdd.hAdd Int Int Int (@instHAdd Int @Int.instAdd) s2 (1 : Int))) (1 : Int)))) (@cond (@Option R) (@inb s2 (@Nat.cast Int instNatCastInt (@List.length UInt8 s0))) (@cond (@Option R) (@bne Int (@instBEqOfDecidableEq Int @Int.instDecidableEq) (@Nat.cast Int instNatCastInt (@UInt8.toNat (@List.getD UInt8 s0 (@Int.toNat s2) (0 : UInt8)))) s1) (E1003 s0 s1 (@Go.IntKind.wrap Go.IntKind.i64 (@HAdd.hAdd Int Int Int (@instHAdd Int @Int.instAdd) s2 (1 : Int)))) (@cond (@Option R) (@Bool.or (@Bool.not (@BEq.beq (@Kd.T Kd.bool) (@instBEqOfDecidableEq (@Kd.T Kd.bool) @instDecidableEqBool) (@cond (@Kd.T Kd.bool) (@BEq.beq Int (@instBEqOfDecidableEq Int @Int.instDecidableEq) s1 (39 : Int)) (@Decidable.decide (@LT.lt Int Int.instLTInt (@Go.IntKind.wrap Go.IntKind.i64 (@HAdd.hAdd Int Int Int (@instHAdd Int @Int.instAdd) s2 (1 : Int))) (@Nat.cast Int instNatCastInt (@List.length UInt8 s0))) (@Int.decLt (@Go.IntKind.wrap Go.IntKind.i64 (@HAdd.hAdd Int Int Int (@instHAdd Int @Int.instAdd) s2 (1 : Int))) (@Nat.cast Int instNatCastInt (@List.length UInt8 s0)))) Bool.false) Bool.true)) (@inb (@Go.IntKind.wrap Go.IntKind.i64 (@HAdd.hAdd Int Int Int (@instHAdd Int @Int.instAdd) s2 (1 : Int))) (@Nat.cast Int instNatCastInt (@List.length UInt8 s0)))) (@cond (@Option R) (@cond (@Kd.T Kd.bool) (@cond (@Kd.T Kd.bool) (@BEq.beq Int (@instBEqOfDecidableEq Int @Int.instDecidableEq) s1 (39 : Int)) (@Decidable.decide (@LT.lt Int Int.instLTInt (@Go.IntKind.wrap Go.IntKind.i64 (@HAdd.hAdd Int Int Int (@instHAdd Int @Int.instAdd) s2 (1 : Int))) (@Nat.cast Int instNatCastInt (@List.length UInt8 s0))) (@Int.decLt (@Go.IntKind.wrap Go.IntKind.i64 (@HAdd.hAdd Int Int Int (@instHAdd Int @Int.instAdd) s2 (1 : Int))) (@Nat.cast Int instNatCastInt (@List.length UInt8 s0)))) Bool.false) (@BEq.beq Int (@instBEqOfDecidableEq Int @Int.instDecidableEq) (@Nat.cast Int instNatCastInt (@UInt8.toNat (@List.getD UInt8 s0 (@Int.toNat (@Go.IntKind.wrap Go.IntKind.i64 (@HAdd.hAdd Int Int Int (@instHAdd Int @Int.instAdd) s2 (1 : Int)))) (0 : UInt8)))) s1) Bool.false) (E1003 s0 s1 (@Go.IntKind.wrap Go.IntKind.i64 (@HAdd.hAdd Int Int Int (@instHAdd Int @Int.instAdd) (@Go.IntKind.wrap Go.IntKind.i64 (@HAdd.hAdd Int Int Int (@instHAdd Int @Int.instAdd) s2 (1 : Int))) (1 : Int)))) (K s2 Bool.true)) (@Option.none R))) (@Option.none R))) (@Option.none R)) (K (0 : Int) Bool.false))
theorem wqo9 (k : Nat) {R : Type} (I : Nat → St → Option R) (s0 : (List UInt8)) (s1 s2 : Int) (K : (Int → Bool → Option R)) : execK (wq1d k) k (at_ [1, 1, 0, 1, 0, 0] wq32) (wq6r s0 s1 s2) (konts (wq1d k) k I [1, 1, 0, 1, 0, 0] wq32 (outK (wq1d k) wq9p [.tmp 4, .tmp 5] (wq6h K))) = wqb7 k (fun s0 s1 s2 => I 1003 (wq6r s0 s1 s2)) s0 s1 s2 K := by kernel_rfl
def wqhy (k : Nat) {R : Type} (E1003 : ((List UInt8) → Int → Int → Option R)) (x0 : (List UInt8)) (x1 : Int) (K : (Int → Bool → Option R)) : Option R := (@cond (@Option R) (@inb x1 (@Nat.cast Int instNatCastInt (@List.length UInt8 x0))) (E1003 x0 (@Nat.cast Int instNatCastInt (@UInt8.toNat (@List.getD UInt8 x0 (@Int.toNat x1) (0 : UInt8)))) (@Go.IntKind.wrap Go.IntKind.i64 (@HAdd.hAdd Int Int Int (@instHAdd Int @Int.instAdd) x1 (1 : Int)))) (@Option.none R))
theorem wqy9 (k : Nat) {R : Type} (I : Nat → St → Option R) (x0 : (List UInt8)) (x1 : Int) (K : (Int → Bool → Option R)) : fnK (wq1d k) k wq32 57 [.tmp 4, .tmp 5] wq9p [.v .str x0, .v (.int .i64) x1] [] (wq6h K) = wqhy k (fun s0 s1 s2 => iter (wq1d k).pv (look (wq1d k).cuts 1003) (execK (wq1d k) k (at_ [1, 1, 0, 1, 0, 0] wq32)) k (wq6r s0 s1 s2) (konts (wq1d k) k I [1, 1, 0, 1, 0] wq32 (outK (wq1d k) wq9p [.tmp 4, .tmp 5] (wq6h K)))) x0 x1 K := by kernel_rfl
def wq4z (k : Nat) {R : Type}  : Nat → (List UInt8) → Int → Int → (Int → Bool → Option R) → Option R
  | 0, _, _, _, _ => none
  | n + 1, s0, s1, s2, K => wqb7 k (fun s0 s1 s2 => wq4z k  n s0 s1 s2 K) s0 s1 s2 K
theorem wqoa (k : Nat) {R : Type} (I : Nat → St → Option R) (K : (Int → Bool → Option R)) : ∀ (n : Nat) (s0 : (List UInt8)) (s1 s2 : Int), iter (wq1d k).pv (look (wq1d k).cuts 1003) (execK (wq1d k) k (at_ [1, 1, 0, 1, 0, 0] wq32)) n (wq6r s0 s1 s2) (konts (wq1d k) k I [1, 1, 0, 1, 0] wq32 (outK (wq1d k) wq9p [.tmp 4, .tmp 5] (wq6h K))) = wq4z k  n s0 s1 s2 K := by
  intro n
  induction n with
  | zero => intros; rfl
  | succ n ih =>
    intro s0 s1 s2
    let I' : Nat → St → Option R := fun id s => bif Nat.beq id 1003 then iter (wq1d k).pv (look (wq1d k).cuts 1003) (execK (wq1d k) k (at_ [1, 1, 0, 1, 0, 0] wq32)) n s (konts (wq1d k) k I [1, 1, 0, 1, 0] wq32 (outK (wq1d k) wq9p [.tmp 4, .tmp 5] (wq6h K))) else I id s
    have e := wqo9 k I' s0 s1 s2 K
    have h1003 : (fun s0 s1 s2 => I' 1003 (wq6r s0 s1 s2)) = (fun s0 s1 s2 => wq4z k  n s0 s1 s2 K) := by funext s0 s1 s2; exact ih s0 s1 s2
    refine Eq.trans (?_ : _ = _) (e.trans (Eq.trans ((congrArg ((fun E1003 => wqb7 k E1003 s0 s1 s2 K)) h1003)) (by rw [wq4z])))
    rfl
def wqcn (k : Nat) {R : Type} (x0 : (List UInt8)) (x1 : Int) (K : (Int → Bool → Option R)) : Option R := wqhy k (fun s0 s1 s2 => wq4z k k s0 s1 s2 K) x0 x1 K
theorem wqya (k : Nat) {R : Type} (x0 : (List UInt8)) (x1 : Int) (K : (Int → Bool → Option R)) : fnK (wq1d k) k wq32 57 [.tmp 4, .tmp 5] wq9p [.v .str x0, .v (.int .i64) x1] [] (wq6h K) = wqcn k x0 x1 K := by
  let I : Nat → St → Option R := fun _ _ => none
  have h1003 : (fun s0 s1 s2 => iter (wq1d k).pv (look (wq1d k).cuts 1003) (execK (wq1d k) k (at_ [1, 1, 0, 1, 0, 0] wq32)) k (wq6r s0 s1 s2) (konts (wq1d k) k I [1, 1, 0, 1, 0] wq32 (outK (wq1d k) wq9p [.tmp 4, .tmp 5] (wq6h K)))) = (fun s0 s1 s2 => wq4z k k s0 s1 s2 K) := by funext s0 s1 s2; exact wqoa k I K k s0 s1 s2
  exact (wqy9 k I x0 x1 K).trans (congrArg ((fun E1003 => wqhy k E1003 x0 x1 K)) h1003)
def wqii (k : Nat) {R : Type} : List PV → List (Nm × HObj) → (Out → Option R) → Option R
  | [.v .str x0, .v (.int .i64) x1], [], K => wqcn k x0 x1 (fun y0 y1 => K (.ret [.v (.int .i64) y0, .v .bool y1] []))
  | _, _, _ => none
theorem wqyb (k : Nat) : (wqut k).Ok Tryd.prog := CTab.nil_ok
theorem wq17e (k : Nat) {ps : List PV} {hp : List (Nm × HObj)} {R : Type} {K : Out → Option R} {r : R} (h : wqii k ps hp K = some r) : DoesTo Tryd.prog 53 ps hp fun out => K out = some r := by
  unfold wqii at h
  split at h
  · rw [← wqya] at h
    have := fn_ok (P := Tryd.prog) (cx := wq1d k) (f := 53) ⟨tyT_ok, wqyb k, fun _ _ => rfl⟩ (by kernel_rfl) (fn := Tryd.f53) (c := wq32) (by kernel_rfl) (by kernel_rfl) (by kernel_rfl) (rs := [.tmp 4, .tmp 5]) (by kernel_rfl) (by kernel_rfl) h
    exact this.mono fun out ho => by
      unfold wq6h at ho
      split at ho <;> first | exact ho | cases ho
  · cases h
def wqjo : List LS := [.any, .any]
def wqdp (k : Nat) : CTab := CTab.nil
def wq2g {R : Type} (K : ((List UInt8) → Option R)) : Out → Option R
  | .ret [.v .str y0] [] => K y0
  | _ => none
def wq3f : RetSpec := ⟨[.any], [], []⟩
def wqij : List (Nat × CutSpec) := [(1001, ⟨[(0, .any), (1, .any)], []⟩)]
def wqha : List (Nat × Plan) := []
def wqe (k : Nat) : Ctx := ⟨tyT, wqij, wqdp k, [], [], wqha, @SH⟩
def wq13 : Code := Tryd.f66.body.getD .skip
def wq2y (s0 : (List UInt8)) (s1 : Int) : St := ⟨mkT [(0, .v .str s0), (1, .v (.int .u8) s1)], mkH []⟩
def wq5f (k : Nat) {R : Type} (E1001 : ((List UInt8) → Int → Option R)) (s0 : (List UInt8)) (s1 : Int) (K : ((List UInt8) → Option R)) : Option R := (@cond (@Option R) (@Bool.or (@Bool.not (@BEq.beq (@Kd.T Kd.bool) (@instBEqOfDecidableEq (@Kd.T Kd.bool) @instDecidableEqBool) (@Decidable.decide (@GT.gt Int Int.instLTInt (@Nat.cast Int instNatCastInt (@List.length UInt8 s0)) (0 : Int)) (@Int.decLt (0 : Int) (@Nat.cast Int instNatCastInt (@List.length UInt8 s0)))) Bool.true)) (@inb (@Go.IntKind.wrap Go.IntKind.i64 (@HSub.hSub Int Int Int (@instHSub Int @Int.instSub) (@Nat.cast Int instNatCastInt (@List.length UInt8 s0)) (1 : Int))) (@Nat.cast Int instNatCastInt (@List.length UInt8 s0)))) (@cond (@Option R) (@cond (@Kd.T Kd.bool) (@Decidable.decide (@GT.gt Int Int.instLTInt (@Nat.cast Int instNatCastInt (@List.length UInt8 s0)) (0 : Int)) (@Int.decLt (0 : Int) (@Nat.cast Int instNatCastInt (@List.length UInt8 s0)))) (@BEq.beq Int (@instBEqOfDecidableEq Int @Int.instDecidableEq) (@Nat.cast Int instNatCastInt (@UInt8.toNat (@List.getD UInt8 s0 (@Int.toNat (@Go.IntKind.wrap Go.IntKind.i64 (@HSub.hSub Int Int Int (@instHSub Int @Int.instSub) (@Nat.cast Int instNatCastInt (@List.length UInt8 s0)) (1 : Int)))) (0 : UInt8)))) s1) Bool.false) (@cond (@Option R) (@bnd (0 : Int) (@Go.IntKind.wrap Go.IntKind.i64 (@HSub.hSub Int Int Int (@instHSub Int @Int.instSub) (@Nat.cast Int instNatCastInt (@List.length UInt8 s0)) (1 : Int))) (@Nat.cast Int instNatCastInt (@List.length UInt8 s0))) (E1001 (@cut UInt8 s0 (0 : Int) (@Go.IntKind.wrap Go.IntKind.i64 (@HSub.hSub Int Int Int (@instHSub Int @Int.instSub) (@Nat.cast Int instNatCastInt (@List.length UInt8 s0)) (1 : Int)))) s1) (@Option.none R)) (K s0)) (@Option.none R))
theorem wqeu (k : Nat) {R : Type} (I : Nat → St → Option R) (s0 : (List UInt8)) (s1 : Int) (K : ((List UInt8) → Option R)) : execK (wqe k) k (at_ [1, 0, 0, 0] wq13) (wq2y s0 s1) (konts (wqe k) k I [1, 0, 0, 0] wq13 (outK (wqe k) wq3f [.tmp 4] (wq2g K))) = wq5f k (fun s0 s1 => I 1001 (wq2y s0 s1)) s0 s1 K := by kernel_rfl
def wq81 (k : Nat) {R : Type} (E1001 : ((List UInt8) → Int → Option R)) (x0 : (List UInt8)) (x1 : Int) (K : ((List UInt8) → Option R)) : Option R := (E1001 x0 x1)
theorem wqik (k : Nat) {R : Type} (I : Nat → St → Option R) (x0 : (List UInt8)) (x1 : Int) (K : ((List UInt8) → Option R)) : fnK (wqe k) k wq13 23 [.tmp 4] wq3f [.v .str x0, .v (.int .u8) x1] [] (wq2g K) = wq81 k (fun s0 s1 => iter (wqe k).pv (look (wqe k).cuts 1001) (execK (wqe k) k (at_ [1, 0, 0, 0] wq13)) k (wq2y s0 s1) (konts (wqe k) k I [1, 0, 0] wq13 (outK (wqe k) wq3f [.tmp 4] (wq2g K)))) x0 x1 K := by kernel_rfl
def wq24 (k : Nat) {R : Type}  : Nat → (List UInt8) → Int → ((List UInt8) → Option R) → Option R
  | 0, _, _, _ => none
  | n + 1, s0, s1, K => wq5f k (fun s0 s1 => wq24 k  n s0 s1 K) s0 s1 K
theorem wqev (k : Nat) {R : Type} (I : Nat → St → Option R) (K : ((List UInt8) → Option R)) : ∀ (n : Nat) (s0 : (List UInt8)) (s1 : Int), iter (wqe k).pv (look (wqe k).cuts 1001) (execK (wqe k) k (at_ [1, 0, 0, 0] wq13)) n (wq2y s0 s1) (konts (wqe k) k I [1, 0, 0] wq13 (outK (wqe k) wq3f [.tmp 4] (wq2g K))) = wq24 k  n s0 s1 K := by
  intro n
  induction n with
  | zero => intros; rfl
  | succ n ih =>
    intro s0 s1
    let I' : Nat → St → Option R := fun id s => bif Nat.beq id 1001 then iter (wqe k).pv (look (wqe k).cuts 1001) (execK (wqe k) k (at_ [1, 0, 0, 0] wq13)) n s (konts (wqe k) k I [1, 0, 0] wq13 (outK (wqe k) wq3f [.tmp 4] (wq2g K))) else I id s
    have e := wqeu k I' s0 s1 K
    have h1001 : (fun s0 s1 => I' 1001 (wq2y s0 s1)) = (fun s0 s1 => wq24 k  n s0 s1 K) := by funext s0 s1; exact ih s0 s1
    refine Eq.trans (?_ : _ = _) (e.trans (Eq.trans ((congrArg ((fun E1001 => wq5f k E1001 s0 s1 K)) h1001)) (by rw [wq24])))
    rfl
def wq82 (k : Nat) {R : Type} (x0 : (List UInt8)) (x1 : Int) (K : ((List UInt8) → Option R)) : Option R := wq81 k (fun s0 s1 => wq24 k k s0 s1 K) x0 x1 K
theorem wqil (k : Nat) {R : Type} (x0 : (List UInt8)) (x1 : Int) (K : ((List UInt8) → Option R)) : fnK (wqe k) k wq13 23 [.tmp 4] wq3f [.v .str x0, .v (.int .u8) x1] [] (wq2g K) = wq82 k x0 x1 K := by
  let I : Nat → St → Option R := fun _ _ => none
  have h1001 : (fun s0 s1 => iter (wqe k).pv (look (wqe k).cuts 1001) (execK (wqe k) k (at_ [1, 0, 0, 0] wq13)) k (wq2y s0 s1) (konts (wqe k) k I [1, 0, 0] wq13 (outK (wqe k) wq3f [.tmp 4] (wq2g K)))) = (fun s0 s1 => wq24 k k s0 s1 K) := by funext s0 s1; exact wqev k I K k s0 s1
  exact (wqik k I x0 x1 K).trans (congrArg ((fun E1001 => wq81 k E1001 x0 x1 K)) h1001)
def wq93 (k : Nat) {R : Type} : List PV → List (Nm × HObj) → (Out → Option R) → Option R
  | [.v .str x0, .v (.int .u8) x1], [], K => wq82 k x0 x1 (fun y0 => K (.ret [.v .str y0] []))
  | _, _, _ => none
theorem wqim (k : Nat) : (wqdp k).Ok Tryd.prog := CTab.nil_ok
theorem wqln (k : Nat) {ps : List PV} {hp : List (Nm × HObj)} {R : Type} {K : Out → Option R} {r : R} (h : wq93 k ps hp K = some r) : DoesTo Tryd.prog 66 ps hp fun out => K out = some r := by
  unfold wq93 at h
  split at h
  · rw [← wqil] at h
    have := fn_ok (P := Tryd.prog) (cx := wqe k) (f := 66) ⟨tyT_ok, wqim k, fun _ _ => rfl⟩ (by kernel_rfl) (fn := Tryd.f66) (c := wq13) (by kernel_rfl) (by kernel_rfl) (by kernel_rfl) (rs := [.tmp 4]) (by kernel_rfl) (by kernel_rfl) h
    exact this.mono fun out ho => by
      unfold wq2g at ho
      split at ho <;> first | exact ho | cases ho
  · cases h
def wqob : List LS := [.any, .any]
def wqhz (k : Nat) : CTab := (CTab.add 66 wqjo (wq93 k) CTab.nil)
def wqat {R : Type} (K : ((List UInt8) → Option R)) : Out → Option R
  | .ret [.v .str y0] [] => K y0
  | _ => none
def wqgk : RetSpec := ⟨[.any], [], []⟩
def wqmk : List (Nat × CutSpec) := []
def wqlo : List (Nat × Plan) := []
def wqcb (k : Nat) : Ctx := ⟨tyT, wqmk, wqhz k, [], [], wqlo, @SH⟩
def wqau : Code := Tryd.f54.body.getD .skip
def wqd3 (k : Nat) {R : Type}  (x0 : (List UInt8)) (x1 : UInt8) (K : ((List UInt8) → Option R)) : Option R := (@cond (@Option R) (@cond (@Kd.T Kd.bool) (@BEq.beq (@List UInt8) (@List.instBEq UInt8 (@instBEqOfDecidableEq UInt8 @instDecidableEqUInt8)) x0 []) Bool.true (@BEq.beq (@List UInt8) (@List.instBEq UInt8 (@instBEqOfDecidableEq UInt8 @instDecidableEqUInt8)) (x1 :: []) [])) (K x0) (@cond (@Option R) (@cond (@Kd.T Kd.bool) (@BEq.beq Int (@instBEqOfDecidableEq Int @Int.instDecidableEq) (@Nat.cast Int instNatCastInt (@List.length UInt8 (x1 :: []))) (1 : Int)) (@Decidable.decide (@LT.lt Int Int.instLTInt (@Nat.cast Int instNatCastInt (@UInt8.toNat (@List.getD UInt8 (x1 :: []) (@Int.toNat (0 : Int)) (0 : UInt8)))) (128 : Int)) (@Int.decLt (@Nat.cast Int instNatCastInt (@UInt8.toNat (@List.getD UInt8 (x1 :: []) (@Int.toNat (0 : Int)) (0 : UInt8)))) (128 : Int))) Bool.false) (@wq82 k R x0 (@Nat.cast Int instNatCastInt (@UInt8.toNat (@List.getD UInt8 (x1 :: []) (@Int.toNat (0 : Int)) (0 : UInt8)))) (fun y5 => (K y5))) (@Option.none R)))
theorem wqml (k : Nat) {R : Type} (I : Nat → St → Option R) (x0 : (List UInt8)) (x1 : UInt8) (K : ((List UInt8) → Option R)) : fnK (wqcb k) k wqau 37 [.tmp 4] wqgk [.v .str x0, .v .str [x1]] [] (wqat K) = wqd3 k  x0 x1 K := by kernel_rfl
def wq6s (k : Nat) {R : Type} (x0 : (List UInt8)) (x1 : UInt8) (K : ((List UInt8) → Option R)) : Option R := wqd3 k  x0 x1 K
theorem wqmm (k : Nat) {R : Type} (x0 : (List UInt8)) (x1 : UInt8) (K : ((List UInt8) → Option R)) : fnK (wqcb k) k wqau 37 [.tmp 4] wqgk [.v .str x0, .v .str [x1]] [] (wqat K) = wq6s k x0 x1 K := by
  exact wqml k (fun _ _ => none) x0 x1 K
def wqbf (k : Nat) {R : Type} : List PV → List (Nm × HObj) → (Out → Option R) → Option R
  | [.v .str x0, .v .str [x1]], [], K => wq6s k x0 x1 (fun y0 => K (.ret [.v .str y0] []))
  | _, _, _ => none
theorem wqmn (k : Nat) : (wqhz k).Ok Tryd.prog := (CTab.add_ok (fun h => wqln k h) CTab.nil_ok)
theorem wqs6 (k : Nat) {ps : List PV} {hp : List (Nm × HObj)} {R : Type} {K : Out → Option R} {r : R} (h : wqbf k ps hp K = some r) : DoesTo Tryd.prog 54 ps hp fun out => K out = some r := by
  unfold wqbf at h
  split at h
  · rw [← wqmm] at h
    have := fn_ok (P := Tryd.prog) (cx := wqcb k) (f := 54) ⟨tyT_ok, wqmn k, fun _ _ => rfl⟩ (by kernel_rfl) (fn := Tryd.f54) (c := wqau) (by kernel_rfl) (by kernel_rfl) (by kernel_rfl) (rs := [.tmp 4]) (by kernel_rfl) (by kernel_rfl) h
    exact this.mono fun out ho => by
      unfold wqat at ho
      split at ho <;> first | exact ho | cases ho
  · cases h
def wq14n : List LS := [.any]
def wqyc (k : Nat) : CTab := (CTab.add 53 wq110 (wqii k) (CTab.add 54 wqob (wqbf k) CTab.nil))
def wq7f {R : Type} (K : ((List UInt8) → Bool → Option R)) : Out → Option R
  | .ret [.v .str y0, .v .bool y1] [] => K y0 y1
  | _ => none
def wqav : RetSpec := ⟨[.any, .any], [], []⟩
def wq111 : List (Nat × CutSpec) := [(1003, ⟨[(0, .any), (4, .any), (5, .any)], []⟩)]
def wqyd : List (Nat × Plan) := []
def wq1p (k : Nat) : Ctx := ⟨tyT, wq111, wqyc k, [], [], wqyd, @SH⟩
def wq3l : Code := Tryd.f43.body.getD .skip
def wq7n (s0 : (List UInt8)) (s1 s2 : Int) : St := ⟨mkT [(0, .v .str s0), (4, .v (.int .i64) s1), (5, .v (.int .i64) s2)], mkH []⟩
def wqbt (k : Nat) {R : Type} (E1003 : ((List UInt8) → Int → Int → Option R)) (s0 : (List UInt8)) (s1 s2 : Int) (K : ((List UInt8) → Bool → Option R)) : Option R := (@cond (@Option R) (@Decidable.decide (@LT.lt Int Int.instLTInt s2 (@Nat.cast Int instNatCastInt (@List.length UInt8 s0))) (@Int.decLt s2 (@Nat.cast Int instNatCastInt (@List.length UInt8 s0)))) (@cond (@Option R) (@Bool.or (@Bool.not (@BEq.beq (@Kd.T Kd.bool) (@instBEqOfDecidableEq (@Kd.T Kd.bool) @instDecidableEqBool) (@Decidable.decide (@GT.gt Int Int.instLTInt s2 (0 : Int)) (@Int.decLt (0 : Int) s2)) Bool.true)) (@inb (@Go.IntKind.wrap Go.IntKind.i64 (@HSub.hSub Int Int Int (@instHSub Int @Int.instSub) s2 (1 : Int))) (@Nat.cast Int instNatCastInt (@List.length UInt8 s0)))) (@cond (@Option R) (@cond (@Kd.T Kd.bool) (@Decidable.decide (@GT.gt Int Int.instLTInt s2 (0 : Int)) (@Int.decLt (0 : Int) s2)) (@bne Int (@instBEqOfDecidableEq Int @Int.instDecidableEq) (@Nat.cast Int instNatCastInt (@UInt8.toNat (@List.getD UInt8 s0 (@Int.toNat (@Go.IntKind.wrap Go.IntKind.i64 (@HSub.hSub Int Int Int (@instHSub Int @Int.instSub) s2 (1 : Int)))) (0 : UInt8)))) (32 : Int)) Bool.false) (E1003 s0 s1 (@Go.IntKind.wrap Go.IntKind.i64 (@HAdd.hAdd Int Int Int (@instHAdd Int @Int.instAdd) s2 (1 : Int)))) (@cond (@Option R) (@inb s2 (@Nat.cast Int instNatCastInt (@List.length UInt8 s0))) (@cond (@Option R) (@BEq.beq Int (@instBEqOfDecidableEq Int @Int.instDecidableEq) (@Nat.cast Int instNatCastInt (@UInt8.toNat (@List.getD UInt8 s0 (@Int.toNat s2) (0 : UInt8)))) (35 : Int)) (@cond (@Option R) (@bnd (0 : Int) s2 (@Nat.cast Int instNatCastInt (@List.length UInt8 s0))) (@wq6s k R (@cut UInt8 s0 (0 : Int) s2) (32 : UInt8) (fun y7 => (K y7 Bool.true))) (@Option.none R)) (@cond (@Option R) (@BEq.beq Int (@instBEqOfDecidableEq Int @Int.instDecidableEq) (@Nat.cast Int instNatCastInt (@UInt8.toNat (@List.getD UInt8 s0 (@Int.toNat s2) (0 : UInt8)))) (39 : Int)) (@wqcn k R s0 s2 (fun y7 y8 => (@cond (@Option R) (@Bool.not y8) (K [] Bool.false) (E1003 s0 s1 (@Go.IntKind.wrap Go.IntKind.i64 (@HAdd.hAdd Int Int Int (@instHAdd Int @Int.instAdd) y7 (1 : Int))))))) (@cond (@Option R) (@BEq.beq Int (@instBEqOfDecidableEq Int @Int.instDecidableEq) (@Nat.cast Int instNatCastInt (@UInt8.toNat (@List.getD UInt8 s0 (@Int.toNat s2) (0 : UInt8)))) (34 : Int)) (@wqcn k R s0 s2 (fun y7 y8 => (@cond (@Option R) (@Bool.not y8) (K [] Bool.false) (E1003 s0 s1 (@Go.IntKind.wrap Go.IntKind.i64 (@HAdd.hAdd Int Int Int (@instHAdd Int @Int.instAdd) y7 (1 : Int))))))) (E1003 s0 s1 (@Go.IntKind.wrap Go.IntKind.i64 (@HAdd.hAdd Int Int Int (@instHAdd Int @Int.instAdd) s2 (1 : Int))))))) (@Option.none R))) (@Option.none R)) (@cond (@Option R) (@bnd (0 : Int) s1 (@Nat.cast Int instNatCastInt (@List.length UInt8 s0))) (@wq6s k R (@cut UInt8 s0 (0 : Int) s1) (32 : UInt8) (fun y7 => (K y7 Bool.true))) (@Option.none R)))
theorem wqqc (k : Nat) {R : Type} (I : Nat → St → Option R) (s0 : (List UInt8)) (s1 s2 : Int) (K : ((List UInt8) → Bool → Option R)) : execK (wq1p k) k (at_ [1, 0, 1, 1, 0, 1, 0, 0] wq3l) (wq7n s0 s1 s2) (konts (wq1p k) k I [1, 0, 1, 1, 0, 1, 0, 0] wq3l (outK (wq1p k) wqav [.tmp 2, .tmp 3] (wq7f K))) = wqbt k (fun s0 s1 s2 => I 1003 (wq7n s0 s1 s2)) s0 s1 s2 K := by kernel_rfl
def wqkh (k : Nat) {R : Type} (E1003 : ((List UInt8) → Int → Int → Option R)) (x0 : (List UInt8)) (K : ((List UInt8) → Bool → Option R)) : Option R := (E1003 x0 (@Nat.cast Int instNatCastInt (@List.length UInt8 x0)) (0 : Int))
theorem wq112 (k : Nat) {R : Type} (I : Nat → St → Option R) (x0 : (List UInt8)) (K : ((List UInt8) → Bool → Option R)) : fnK (wq1p k) k wq3l 47 [.tmp 2, .tmp 3] wqav [.v .str x0] [] (wq7f K) = wqkh k (fun s0 s1 s2 => iter (wq1p k).pv (look (wq1p k).cuts 1003) (execK (wq1p k) k (at_ [1, 0, 1, 1, 0, 1, 0, 0] wq3l)) k (wq7n s0 s1 s2) (konts (wq1p k) k I [1, 0, 1, 1, 0, 1, 0] wq3l (outK (wq1p k) wqav [.tmp 2, .tmp 3] (wq7f K)))) x0 K := by kernel_rfl
def wq30 (k : Nat) {R : Type}  : Nat → (List UInt8) → Int → Int → ((List UInt8) → Bool → Option R) → Option R
  | 0, _, _, _, _ => none
  | n + 1, s0, s1, s2, K => wqbt k (fun s0 s1 s2 => wq30 k  n s0 s1 s2 K) s0 s1 s2 K
theorem wqqd (k : Nat) {R : Type} (I : Nat → St → Option R) (K : ((List UInt8) → Bool → Option R)) : ∀ (n : Nat) (s0 : (List UInt8)) (s1 s2 : Int), iter (wq1p k).pv (look (wq1p k).cuts 1003) (execK (wq1p k) k (at_ [1, 0, 1, 1, 0, 1, 0, 0] wq3l)) n (wq7n s0 s1 s2) (konts (wq1p k) k I [1, 0, 1, 1, 0, 1, 0] wq3l (outK (wq1p k) wqav [.tmp 2, .tmp 3] (wq7f K))) = wq30 k  n s0 s1 s2 K := by
  intro n
  induction n with
  | zero => intros; rfl
  | succ n ih =>
    intro s0 s1 s2
    let I' : Nat → St → Option R := fun id s => bif Nat.beq id 1003 then iter (wq1p k).pv (look (wq1p k).cuts 1003) (execK (wq1p k) k (at_ [1, 0, 1, 1, 0, 1, 0, 0] wq3l)) n s (konts (wq1p k) k I [1, 0, 1, 1, 0, 1, 0] wq3l (outK (wq1p k) wqav [.tmp 2, .tmp 3] (wq7f K))) else I id s
    have e := wqqc k I' s0 s1 s2 K
    have h1003 : (fun s0 s1 s2 => I' 1003 (wq7n s0 s1 s2)) = (fun s0 s1 s2 => wq30 k  n s0 s1 s2 K) := by funext s0 s1 s2; exact ih s0 s1 s2
    refine Eq.trans (?_ : _ = _) (e.trans (Eq.trans ((congrArg ((fun E1003 => wqbt k E1003 s0 s1 s2 K)) h1003)) (by rw [wq30])))
    rfl
def wqgl (k : Nat) {R : Type} (x0 : (List UInt8)) (K : ((List UInt8) → Bool → Option R)) : Option R := wqkh k (fun s0 s1 s2 => wq30 k k s0 s1 s2 K) x0 K
theorem wq113 (k : Nat) {R : Type} (x0 : (List UInt8)) (K : ((List UInt8) → Bool → Option R)) : fnK (wq1p k) k wq3l 47 [.tmp 2, .tmp 3] wqav [.v .str x0] [] (wq7f K) = wqgl k x0 K := by
  let I : Nat → St → Option R := fun _ _ => none
  have h1003 : (fun s0 s1 s2 => iter (wq1p k).pv (look (wq1p k).cuts 1003) (execK (wq1p k) k (at_ [1, 0, 1, 1, 0, 1, 0, 0] wq3l)) k (wq7n s0 s1 s2) (konts (wq1p k) k I [1, 0, 1, 1, 0, 1, 0] wq3l (outK (wq1p k) wqav [.tmp 2, .tmp 3] (wq7f K)))) = (fun s0 s1 s2 => wq30 k k s0 s1 s2 K) := by funext s0 s1 s2; exact wqqd k I K k s0 s1 s2
  exact (wq112 k I x0 K).trans (congrArg ((fun E1003 => wqkh k E1003 x0 K)) h1003)
def wqki (k : Nat) {R : Type} : List PV → List (Nm × HObj) → (Out → Option R) → Option R
  | [.v .str x0], [], K => wqgl k x0 (fun y0 y1 => K (.ret [.v .str y0, .v .bool y1] []))
  | _, _, _ => none
theorem wq114 (k : Nat) : (wqyc k).Ok Tryd.prog := (CTab.add_ok (fun h => wq17e k h) (CTab.add_ok (fun h => wqs6 k h) CTab.nil_ok))
theorem wq19s (k : Nat) {ps : List PV} {hp : List (Nm × HObj)} {R : Type} {K : Out → Option R} {r : R} (h : wqki k ps hp K = some r) : DoesTo Tryd.prog 43 ps hp fun out => K out = some r := by
  unfold wqki at h
  split at h
  · rw [← wq113] at h
    have := fn_ok (P := Tryd.prog) (cx := wq1p k) (f := 43) ⟨tyT_ok, wq114 k, fun _ _ => rfl⟩ (by kernel_rfl) (fn := Tryd.f43) (c := wq3l) (by kernel_rfl) (by kernel_rfl) (by kernel_rfl) (rs := [.tmp 2, .tmp 3]) (by kernel_rfl) (by kernel_rfl) h
    exact this.mono fun out ho => by
      unfold wq7f at ho
      split at ho <;> first | exact ho | cases ho
  · cases h
def wq14o : List LS := [.any]
def wqye (k : Nat) : CTab := (CTab.add 43 wq14n (wqki k) (CTab.add 44 wq1bz (wqtz k) CTab.nil))
def wq7g {R : Type} (K : (Bool → Option R)) : Out → Option R
  | .ret [.v .bool y0] [] => K y0
  | _ => none
def wqaw : RetSpec := ⟨[.any], [], []⟩
def wq115 : List (Nat × CutSpec) := [(1002, ⟨[(0, .any), (9, .any), (10, .any)], []⟩)]
def wqyf : List (Nat × Plan) := []
def wq1q (k : Nat) : Ctx := ⟨tyT, wq115, wqye k, [], [], wqyf, @SH⟩
def wq3m : Code := Tryd.f35.body.getD .skip
def wq7o (s0 : (List UInt8)) (s1 s2 : Int) : St := ⟨mkT [(0, .v .str s0), (9, .v (.int .i64) s1), (10, .v (.int .i64) s2)], mkH []⟩
def wqa2 (k : Nat) {R : Type} (E1002 : ((List UInt8) → Int → Int → Option R)) (s0 : (List UInt8)) (s1 s2 : Int) (K : (Bool → Option R)) : Option R := (@cond (@Option R) (@Decidable.decide (@LT.lt Int Int.instLTInt s2 s1) (@Int.decLt s2 s1)) (@cond (@Option R) (@inb s2 (@Nat.cast Int instNatCastInt (@List.length UInt8 s0))) (@cond (@Option R) (@Bool.or (@Bool.not (@BEq.beq (@Kd.T Kd.bool) (@instBEqOfDecidableEq (@Kd.T Kd.bool) @instDecidableEqBool) (@Decidable.decide (@LT.lt Int Int.instLTInt (@Nat.cast Int instNatCastInt (@UInt8.toNat (@List.getD UInt8 s0 (@Int.toNat s2) (0 : UInt8)))) (32 : Int)) (@Int.decLt (@Nat.cast Int instNatCastInt (@UInt8.toNat (@List.getD UInt8 s0 (@Int.toNat s2) (0 : UInt8)))) (32 : Int))) Bool.false)) (@inb s2 (@Nat.cast Int instNatCastInt (@List.length UInt8 s0)))) (@cond (@Option R) (@cond (@Kd.T Kd.bool) (@Decidable.decide (@LT.lt Int Int.instLTInt (@Nat.cast Int instNatCastInt (@UInt8.toNat (@List.getD UInt8 s0 (@Int.toNat s2) (0 : UInt8)))) (32 : Int)) (@Int.decLt (@Nat.cast Int instNatCastInt (@UInt8.toNat (@List.getD UInt8 s0 (@Int.toNat s2) (0 : UInt8)))) (32 : Int))) Bool.true (@BEq.beq Int (@instBEqOfDecidableEq Int @Int.instDecidableEq) (@Nat.cast Int instNatCastInt (@UInt8.toNat (@List.getD UInt8 s0 (@Int.toNat s2) (0 : UInt8)))) (127 : Int))) (K Bool.false) (E1002 s0 s1 (@Go.IntKind.wrap Go.IntKind.i64 (@HAdd.hAdd Int Int Int (@instHAdd Int @Int.instAdd) s2 (1 : Int))))) (@Option.none R)) (@Option.none R)) (@wqgl k R s0 (fun y7 y8 => (@cond (@Option R) (@cond (@Kd.T Kd.bool) (@cond (@Kd.T Kd.bool) (@BEq.beq (@List UInt8) (@List.instBEq UInt8 (@instBEqOfDecidableEq UInt8 @instDecidableEqUInt8)) s0 []) Bool.true (@Bool.not y8)) Bool.true (@Bool.not (@BEq.beq (@List UInt8) (@List.instBEq UInt8 (@instBEqOfDecidableEq UInt8 @instDecidableEqUInt8)) y7 s0))) (K Bool.false) (@wqs5 k R (0 : (@Kd.T kI)) (0 : (@Kd.T kI)) s0 (fun y9 y10 y11 => (@cond (@Option R) (@Bool.or (@Bool.not (@BEq.beq (@Kd.T Kd.bool) (@instBEqOfDecidableEq (@Kd.T Kd.bool) @instDecidableEqBool) (@cond (@Kd.T Kd.bool) (@BEq.beq Int (@instBEqOfDecidableEq Int @Int.instDecidableEq) y10 (0 : Int)) (@BEq.beq Int (@instBEqOfDecidableEq Int @Int.instDecidableEq) (@Nat.cast Int instNatCastInt (@List.length (@Kd.T (@Kd.pr kI (@Kd.pr kI (@Kd.pr kI (@Kd.pr Kd.str Kd.bool))))) y9)) (1 : Int)) Bool.false) Bool.true)) (@inb (0 : Int) (@Nat.cast Int instNatCastInt (@List.length (@Kd.T (@Kd.pr kI (@Kd.pr kI (@Kd.pr kI (@Kd.pr Kd.str Kd.bool))))) y9)))) (@cond (@Option R) (@Bool.or (@Bool.not (@BEq.beq (@Kd.T Kd.bool) (@instBEqOfDecidableEq (@Kd.T Kd.bool) @instDecidableEqBool) (@cond (@Kd.T Kd.bool) (@cond (@Kd.T Kd.bool) (@BEq.beq Int (@instBEqOfDecidableEq Int @Int.instDecidableEq) y10 (0 : Int)) (@BEq.beq Int (@instBEqOfDecidableEq Int @Int.instDecidableEq) (@Nat.cast Int instNatCastInt (@List.length (@Kd.T (@Kd.pr kI (@Kd.pr kI (@Kd.pr kI (@Kd.pr Kd.str Kd.bool))))) y9)) (1 : Int)) Bool.false) (@BEq.beq Int (@instBEqOfDecidableEq Int @Int.instDecidableEq) (@List.getD (@Kd.T (@Kd.pr kI (@Kd.pr kI (@Kd.pr kI (@Kd.pr Kd.str Kd.bool))))) y9 (@Int.toNat (0 : Int)) (@Kd.zero (@Kd.pr kI (@Kd.pr kI (@Kd.pr kI (@Kd.pr Kd.str Kd.bool)))))).1 (3 : Int)) Bool.false) Bool.true)) (@inb (0 : Int) (@Nat.cast Int instNatCastInt (@List.length (@Kd.T (@Kd.pr kI (@Kd.pr kI (@Kd.pr kI (@Kd.pr Kd.str Kd.bool))))) y9)))) (@cond (@Option R) (@Bool.or (@Bool.not (@BEq.beq (@Kd.T Kd.bool) (@instBEqOfDecidableEq (@Kd.T Kd.bool) @instDecidableEqBool) (@cond (@Kd.T Kd.bool) (@cond (@Kd.T Kd.bool) (@cond (@Kd.T Kd.bool) (@BEq.beq Int (@instBEqOfDecidableEq Int @Int.instDecidableEq) y10 (0 : Int)) (@BEq.beq Int (@instBEqOfDecidableEq Int @Int.instDecidableEq) (@Nat.cast Int instNatCastInt (@List.length (@Kd.T (@Kd.pr kI (@Kd.pr kI (@Kd.pr kI (@Kd.pr Kd.str Kd.bool))))) y9)) (1 : Int)) Bool.false) (@BEq.beq Int (@instBEqOfDecidableEq Int @Int.instDecidableEq) (@List.getD (@Kd.T (@Kd.pr kI (@Kd.pr kI (@Kd.pr kI (@Kd.pr Kd.str Kd.bool))))) y9 (@Int.toNat (0 : Int)) (@Kd.zero (@Kd.pr kI (@Kd.pr kI (@Kd.pr kI (@Kd.pr Kd.str Kd.bool)))))).1 (3 : Int)) Bool.false) (@BEq.beq (@List UInt8) (@List.instBEq UInt8 (@instBEqOfDecidableEq UInt8 @instDecidableEqUInt8)) (@List.getD (@Kd.T (@Kd.pr kI (@Kd.pr kI (@Kd.pr kI (@Kd.pr Kd.str Kd.bool))))) y9 (@Int.toNat (0 : Int)) (@Kd.zero (@Kd.pr kI (@Kd.pr kI (@Kd.pr kI (@Kd.pr Kd.str Kd.bool)))))).2.2.2.1 s0) Bool.false) Bool.true)) (@inb (0 : Int) (@Nat.cast Int instNatCastInt (@List.length (@Kd.T (@Kd.pr kI (@Kd.pr kI (@Kd.pr kI (@Kd.pr Kd.str Kd.bool))))) y9)))) (K (@cond (@Kd.T Kd.bool) (@cond (@Kd.T Kd.bool) (@cond (@Kd.T Kd.bool) (@cond (@Kd.T Kd.bool) (@BEq.beq Int (@instBEqOfDecidableEq Int @Int.instDecidableEq) y10 (0 : Int)) (@BEq.beq Int (@instBEqOfDecidableEq Int @Int.instDecidableEq) (@Nat.cast Int instNatCastInt (@List.length (@Kd.T (@Kd.pr kI (@Kd.pr kI (@Kd.pr kI (@Kd.pr Kd.str Kd.bool))))) y9)) (1 : Int)) Bool.false) (@BEq.beq Int (@instBEqOfDecidableEq Int @Int.instDecidableEq) (@List.getD (@Kd.T (@Kd.pr kI (@Kd.pr kI (@Kd.pr kI (@Kd.pr Kd.str Kd.bool))))) y9 (@Int.toNat (0 : Int)) (@Kd.zero (@Kd.pr kI (@Kd.pr kI (@Kd.pr kI (@Kd.pr Kd.str Kd.bool)))))).1 (3 : Int)) Bool.false) (@BEq.beq (@List UInt8) (@List.instBEq UInt8 (@instBEqOfDecidableEq UInt8 @instDecidableEqUInt8)) (@List.getD (@Kd.T (@Kd.pr kI (@Kd.pr kI (@Kd.pr kI (@Kd.pr Kd.str Kd.bool))))) y9 (@Int.toNat (0 : Int)) (@Kd.zero (@Kd.pr kI (@Kd.pr kI (@Kd.pr kI (@Kd.pr Kd.str Kd.bool)))))).2.2.2.1 s0) Bool.false) (@Bool.not (@List.getD (@Kd.T (@Kd.pr kI (@Kd.pr kI (@Kd.pr kI (@Kd.pr Kd.str Kd.bool))))) y9 (@Int.toNat (0 : Int)) (@Kd.zero (@Kd.pr kI (@Kd.pr kI (@Kd.pr kI (@Kd.pr Kd.str Kd.bool)))))).2.2.2.2) Bool.false)) (@Option.none R)) (@Option.none R)) (@Option.none R))))))))
theorem wqqe (k : Nat) {R : Type} (I : Nat → St → Option R) (s0 : (List UInt8)) (s1 s2 : Int) (K : (Bool → Option R)) : execK (wq1q k) k (at_ [1, 0, 1, 0, 0] wq3m) (wq7o s0 s1 s2) (konts (wq1q k) k I [1, 0, 1, 0, 0] wq3m (outK (wq1q k) wqaw [.tmp 2] (wq7g K))) = wqa2 k (fun s0 s1 s2 => I 1002 (wq7o s0 s1 s2)) s0 s1 s2 K := by kernel_rfl
def wqkj (k : Nat) {R : Type} (E1002 : ((List UInt8) → Int → Int → Option R)) (x0 : (List UInt8)) (K : (Bool → Option R)) : Option R := (E1002 x0 (@Nat.cast Int instNatCastInt (@List.length UInt8 x0)) (0 : Int))
theorem wq116 (k : Nat) {R : Type} (I : Nat → St → Option R) (x0 : (List UInt8)) (K : (Bool → Option R)) : fnK (wq1q k) k wq3m 76 [.tmp 2] wqaw [.v .str x0] [] (wq7g K) = wqkj k (fun s0 s1 s2 => iter (wq1q k).pv (look (wq1q k).cuts 1002) (execK (wq1q k) k (at_ [1, 0, 1, 0, 0] wq3m)) k (wq7o s0 s1 s2) (konts (wq1q k) k I [1, 0, 1, 0] wq3m (outK (wq1q k) wqaw [.tmp 2] (wq7g K)))) x0 K := by kernel_rfl
def wq4r (k : Nat) {R : Type}  : Nat → (List UInt8) → Int → Int → (Bool → Option R) → Option R
  | 0, _, _, _, _ => none
  | n + 1, s0, s1, s2, K => wqa2 k (fun s0 s1 s2 => wq4r k  n s0 s1 s2 K) s0 s1 s2 K
theorem wqqf (k : Nat) {R : Type} (I : Nat → St → Option R) (K : (Bool → Option R)) : ∀ (n : Nat) (s0 : (List UInt8)) (s1 s2 : Int), iter (wq1q k).pv (look (wq1q k).cuts 1002) (execK (wq1q k) k (at_ [1, 0, 1, 0, 0] wq3m)) n (wq7o s0 s1 s2) (konts (wq1q k) k I [1, 0, 1, 0] wq3m (outK (wq1q k) wqaw [.tmp 2] (wq7g K))) = wq4r k  n s0 s1 s2 K := by
  intro n
  induction n with
  | zero => intros; rfl
  | succ n ih =>
    intro s0 s1 s2
    let I' : Nat → St → Option R := fun id s => bif Nat.beq id 1002 then iter (wq1q k).pv (look (wq1q k).cuts 1002) (execK (wq1q k) k (at_ [1, 0, 1, 0, 0] wq3m)) n s (konts (wq1q k) k I [1, 0, 1, 0] wq3m (outK (wq1q k) wqaw [.tmp 2] (wq7g K))) else I id s
    have e := wqqe k I' s0 s1 s2 K
    have h1002 : (fun s0 s1 s2 => I' 1002 (wq7o s0 s1 s2)) = (fun s0 s1 s2 => wq4r k  n s0 s1 s2 K) := by funext s0 s1 s2; exact ih s0 s1 s2
    refine Eq.trans (?_ : _ = _) (e.trans (Eq.trans ((congrArg ((fun E1002 => wqa2 k E1002 s0 s1 s2 K)) h1002)) (by rw [wq4r])))
    rfl
def wqgm (k : Nat) {R : Type} (x0 : (List UInt8)) (K : (Bool → Option R)) : Option R := wqkj k (fun s0 s1 s2 => wq4r k k s0 s1 s2 K) x0 K
theorem wq117 (k : Nat) {R : Type} (x0 : (List UInt8)) (K : (Bool → Option R)) : fnK (wq1q k) k wq3m 76 [.tmp 2] wqaw [.v .str x0] [] (wq7g K) = wqgm k x0 K := by
  let I : Nat → St → Option R := fun _ _ => none
  have h1002 : (fun s0 s1 s2 => iter (wq1q k).pv (look (wq1q k).cuts 1002) (execK (wq1q k) k (at_ [1, 0, 1, 0, 0] wq3m)) k (wq7o s0 s1 s2) (konts (wq1q k) k I [1, 0, 1, 0] wq3m (outK (wq1q k) wqaw [.tmp 2] (wq7g K)))) = (fun s0 s1 s2 => wq4r k k s0 s1 s2 K) := by funext s0 s1 s2; exact wqqf k I K k s0 s1 s2
  exact (wq116 k I x0 K).trans (congrArg ((fun E1002 => wqkj k E1002 x0 K)) h1002)
def wqkk (k : Nat) {R : Type} : List PV → List (Nm × HObj) → (Out → Option R) → Option R
  | [.v .str x0], [], K => wqgm k x0 (fun y0 => K (.ret [.v .bool y0] []))
  | _, _, _ => none
theorem wq118 (k : Nat) : (wqye k).Ok Tryd.prog := (CTab.add_ok (fun h => wq19s k h) (CTab.add_ok (fun h => wq1er k h) CTab.nil_ok))
theorem wq19t (k : Nat) {ps : List PV} {hp : List (Nm × HObj)} {R : Type} {K : Out → Option R} {r : R} (h : wqkk k ps hp K = some r) : DoesTo Tryd.prog 35 ps hp fun out => K out = some r := by
  unfold wqkk at h
  split at h
  · rw [← wq117] at h
    have := fn_ok (P := Tryd.prog) (cx := wq1q k) (f := 35) ⟨tyT_ok, wq118 k, fun _ _ => rfl⟩ (by kernel_rfl) (fn := Tryd.f35) (c := wq3m) (by kernel_rfl) (by kernel_rfl) (by kernel_rfl) (rs := [.tmp 2]) (by kernel_rfl) (by kernel_rfl) h
    exact this.mono fun out ho => by
      unfold wq7g at ho
      split at ho <;> first | exact ho | cases ho
  · cases h
def wq19u : List LS := [.ag [.any, .any, .any, .any, .sl .str, .sl (.int .i64)]]
def wq17f (k : Nat) : CTab := (CTab.add 35 wq14o (wqkk k) (CTab.add 36 wq14c (wqk4 k) CTab.nil))
def wqmo {R : Type} (K : (Bool → Option R)) : Out → Option R
  | .ret [.v .bool y0] [] => K y0
  | _ => none
def wq13b : RetSpec := ⟨[.any], [], []⟩
def wq17g : List (Nat × CutSpec) := []
def wq14p : List (Nat × Plan) := []
def wqu0 (k : Nat) : Ctx := ⟨tyT, wq17g, wq17f k, [], [], wq14p, @SH⟩
def wqmp : Code := Tryd.f30.body.getD .skip
def wqyg (k : Nat) {R : Type}  (x0 x1 : Int) (x2 : (List UInt8)) (x3 : Bool) (x4 : (List (List UInt8))) (x5 : (List Int)) (K : (Bool → Option R)) : Option R := (@cond (@Option R) (@BEq.beq Int (@instBEqOfDecidableEq Int @Int.instDecidableEq) x0 (1 : Int)) (@cond (@Option R) (@BEq.beq Bool (@instBEqOfDecidableEq Bool @instDecidableEqBool) (@cond (@Kd.T Kd.bool) (@cond (@Kd.T Kd.bool) (@BEq.beq Int (@instBEqOfDecidableEq Int @Int.instDecidableEq) (@Nat.cast Int instNatCastInt (@List.length (@Kd.T Kd.str) x4)) (0 : Int)) (@BEq.beq Int (@instBEqOfDecidableEq Int @Int.instDecidableEq) (@Nat.cast Int instNatCastInt (@List.length (@Kd.T kI) x5)) (0 : Int)) Bool.false) (@Decidable.decide (@LE.le Int Int.instLEInt (@Nat.cast Int instNatCastInt (@List.length UInt8 x2)) (200 : Int)) (@Int.decLe (@Nat.cast Int instNatCastInt (@List.length UInt8 x2)) (200 : Int))) Bool.false) Bool.true) (@cond (@Option R) (@BEq.beq (@Kd.T Kd.bool) (@instBEqOfDecidableEq (@Kd.T Kd.bool) @instDecidableEqBool) x3 Bool.false) (@wqgm k R x2 (fun y9 => (K y9))) (K Bool.true)) (K Bool.false)) (@cond (@Option R) (@BEq.beq Int (@instBEqOfDecidableEq Int @Int.instDecidableEq) x0 (2 : Int)) (K (@cond (@Kd.T Kd.bool) (@cond (@Kd.T Kd.bool) (@cond (@Kd.T Kd.bool) (@BEq.beq (@List UInt8) (@List.instBEq UInt8 (@instBEqOfDecidableEq UInt8 @instDecidableEqUInt8)) x2 []) (@Bool.not x3) Bool.false) (@BEq.beq Int (@instBEqOfDecidableEq Int @Int.instDecidableEq) (@Nat.cast Int instNatCastInt (@List.length (@Kd.T Kd.str) x4)) (0 : Int)) Bool.false) (@Decidable.decide (@GT.gt Int Int.instLTInt (@Nat.cast Int instNatCastInt (@List.length (@Kd.T kI) x5)) (0 : Int)) (@Int.decLt (0 : Int) (@Nat.cast Int instNatCastInt (@List.length (@Kd.T kI) x5)))) Bool.false)) (@cond (@Option R) (@BEq.beq Int (@instBEqOfDecidableEq Int @Int.instDecidableEq) x0 (3 : Int)) (@cond (@Option R) (@BEq.beq (@Kd.T Kd.bool) (@instBEqOfDecidableEq (@Kd.T Kd.bool) @instDecidableEqBool) (@cond (@Kd.T Kd.bool) (@cond (@Kd.T Kd.bool) (@cond (@Kd.T Kd.bool) (@BEq.beq (@List UInt8) (@List.instBEq UInt8 (@instBEqOfDecidableEq UInt8 @instDecidableEqUInt8)) x2 []) (@Bool.not x3) Bool.false) (@Decidable.decide (@GT.gt Int Int.instLTInt (@Nat.cast Int instNatCastInt (@List.length (@Kd.T kI) x5)) (0 : Int)) (@Int.decLt (0 : Int) (@Nat.cast Int instNatCastInt (@List.length (@Kd.T kI) x5)))) Bool.false) (@BEq.beq Int (@instBEqOfDecidableEq Int @Int.instDecidableEq) (@Nat.cast Int instNatCastInt (@List.length (@Kd.T Kd.str) x4)) (@Nat.cast Int instNatCastInt (@List.length (@Kd.T kI) x5))) Bool.false) Bool.true) (@wqga k R x4 (fun y9 => (K y9))) (K Bool.false)) (K Bool.false))))
theorem wq17h (k : Nat) {R : Type} (I : Nat → St → Option R) (x0 x1 : Int) (x2 : (List UInt8)) (x3 : Bool) (x4 : (List (List UInt8))) (x5 : (List Int)) (K : (Bool → Option R)) : fnK (wqu0 k) k wqmp 79 [.tmp 2] wq13b [.agg [.v (.int .i64) x0, .v (.int .i64) x1, .v .str x2, .v .bool x3, .v (.sl .str) x4, .v (.sl (.int .i64)) x5]] [] (wqmo K) = wqyg k  x0 x1 x2 x3 x4 x5 K := by kernel_rfl
def wqmq (k : Nat) {R : Type} (x0 x1 : Int) (x2 : (List UInt8)) (x3 : Bool) (x4 : (List (List UInt8))) (x5 : (List Int)) (K : (Bool → Option R)) : Option R := wqyg k  x0 x1 x2 x3 x4 x5 K
theorem wq17i (k : Nat) {R : Type} (x0 x1 : Int) (x2 : (List UInt8)) (x3 : Bool) (x4 : (List (List UInt8))) (x5 : (List Int)) (K : (Bool → Option R)) : fnK (wqu0 k) k wqmp 79 [.tmp 2] wq13b [.agg [.v (.int .i64) x0, .v (.int .i64) x1, .v .str x2, .v .bool x3, .v (.sl .str) x4, .v (.sl (.int .i64)) x5]] [] (wqmo K) = wqmq k x0 x1 x2 x3 x4 x5 K := by
  exact wq17h k (fun _ _ => none) x0 x1 x2 x3 x4 x5 K
def wqqg (k : Nat) {R : Type} : List PV → List (Nm × HObj) → (Out → Option R) → Option R
  | [.agg [.v (.int .i64) x0, .v (.int .i64) x1, .v .str x2, .v .bool x3, .v (.sl .str) x4, .v (.sl (.int .i64)) x5]], [], K => wqmq k x0 x1 x2 x3 x4 x5 (fun y0 => K (.ret [.v .bool y0] []))
  | _, _, _ => none
theorem wq17j (k : Nat) : (wq17f k).Ok Tryd.prog := (CTab.add_ok (fun h => wq19t k h) (CTab.add_ok (fun h => wq19h k h) CTab.nil_ok))
theorem wq1dp (k : Nat) {ps : List PV} {hp : List (Nm × HObj)} {R : Type} {K : Out → Option R} {r : R} (h : wqqg k ps hp K = some r) : DoesTo Tryd.prog 30 ps hp fun out => K out = some r := by
  unfold wqqg at h
  split at h
  · rw [← wq17i] at h
    have := fn_ok (P := Tryd.prog) (cx := wqu0 k) (f := 30) ⟨tyT_ok, wq17j k, fun _ _ => rfl⟩ (by kernel_rfl) (fn := Tryd.f30) (c := wqmp) (by kernel_rfl) (by kernel_rfl) (by kernel_rfl) (rs := [.tmp 2]) (by kernel_rfl) (by kernel_rfl) h
    exact this.mono fun out ho => by
      unfold wqmo at ho
      split at ho <;> first | exact ho | cases ho
  · cases h
abbrev wq8t : Type 1 := (R : Type) → (List (Int × (Int × ((List UInt8) × (Bool × ((List (List UInt8)) × (List Int))))))) → Int → Int → (Int → Option R) → Option R
def wquu : List LS := [.ag [.sl (.pr (.int .i64) (.pr (.int .i64) (.pr .str (.pr .bool (.pr (.sl .str) (.sl (.int .i64)))))))], .any, .any]
def wqkl (wq14 : wq8t) {R : Type} : List PV → List (Nm × HObj) → (Out → Option R) → Option R
  | [.agg [.v (.sl (.pr (.int .i64) (.pr (.int .i64) (.pr .str (.pr .bool (.pr (.sl .str) (.sl (.int .i64)))))))) x0], .v (.int .i64) x1, .v (.int .i64) x2], [], K => wq14 R x0 x1 x2 (fun y0 => K (.ret [.v (.int .i64) y0] []))
  | _, _, _ => none
def wq13c (k : Nat) (wq14 : wq8t) : CTab := (CTab.add 18 wquu (wqkl wq14) (CTab.add 30 wq19u (wqqg k) CTab.nil))
def wq8i {R : Type} (K : (Int → Option R)) : Out → Option R
  | .ret [.v (.int .i64) y0] [] => K y0
  | _ => none
def wqcc : RetSpec := ⟨[.any], [], []⟩
def wq14q : List (Nat × CutSpec) := [(1005, ⟨[(2, .any), (3, .obj 13 [.sl (.pr (.int .i64) (.pr (.int .i64) (.pr .str (.pr .bool (.pr (.sl .str) (.sl (.int .i64)))))))]), (7, .any), (35, .sl (.int .i64)), (36, .any), (37, .any)], []⟩)]
def wq119 : List (Nat × Plan) := []
def wq25 (k : Nat) (wq14 : wq8t) : Ctx := ⟨tyT, wq14q, wq13c k wq14, [], [], wq119, @SH⟩
def wq49 : Code := Tryd.f18.body.getD .skip
def wq8b (s0 : Int) (s1 : (List (Int × (Int × ((List UInt8) × (Bool × ((List (List UInt8)) × (List Int)))))))) (s2 : Int) (s3 : (List Int)) (s4 s5 : Int) : St := ⟨mkT [(2, .v (.int .i64) s0), (3, .ptr 13 0), (7, .v (.int .i64) s2), (35, .v (.sl (.int .i64)) s3), (36, .v (.int .i64) s4), (37, .v (.int .i64) s5)], mkH [(13, .var 24 [.v (.sl (.pr (.int .i64) (.pr (.int .i64) (.pr .str (.pr .bool (.pr (.sl .str) (.sl (.int .i64)))))))) s1])]⟩
def wqax (k : Nat) (wq14 : wq8t) {R : Type} (E1005 : (Int → (List (Int × (Int × ((List UInt8) × (Bool × ((List (List UInt8)) × (List Int))))))) → Int → (List Int) → Int → Int → Option R)) (s0 : Int) (s1 : (List (Int × (Int × ((List UInt8) × (Bool × ((List (List UInt8)) × (List Int)))))))) (s2 : Int) (s3 : (List Int)) (s4 s5 : Int) (K : (Int → Option R)) : Option R := (@cond (@Option R) (@Decidable.decide (@LT.lt Int Int.instLTInt s5 s4) (@Int.decLt s5 s4)) (@cond (@Option R) (@inb s5 (@Nat.cast Int instNatCastInt (@List.length (@Kd.T kI) s3))) (@cond (@Option R) (@bne Int (@instBEqOfDecidableEq Int @Int.instDecidableEq) (@List.getD (@Kd.T kI) s3 (@Int.toNat s5) (@Kd.zero kI)) s2) (K (@Neg.neg Int @Int.instNegInt (1 : Int))) (wq14 R s1 (@List.getD (@Kd.T kI) s3 (@Int.toNat s5) (@Kd.zero kI)) (@Go.IntKind.wrap Go.IntKind.i64 (@HAdd.hAdd Int Int Int (@instHAdd Int @Int.instAdd) s0 (1 : Int))) (fun y10 => (@cond (@Option R) (@Decidable.decide (@LT.lt Int Int.instLTInt y10 (0 : Int)) (@Int.decLt y10 (0 : Int))) (K (@Neg.neg Int @Int.instNegInt (1 : Int))) (E1005 s0 s1 y10 s3 s4 (@Go.IntKind.wrap Go.IntKind.i64 (@HAdd.hAdd Int Int Int (@instHAdd Int @Int.instAdd) s5 (1 : Int)))))))) (@Option.none R)) (K s2))
theorem wqs7 (k : Nat) (wq14 : wq8t) {R : Type} (I : Nat → St → Option R) (s0 : Int) (s1 : (List (Int × (Int × ((List UInt8) × (Bool × ((List (List UInt8)) × (List Int)))))))) (s2 : Int) (s3 : (List Int)) (s4 s5 : Int) (K : (Int → Option R)) : execK (wq25 k wq14) k (at_ [1, 1, 1, 0, 1, 0, 0] wq49) (wq8b s0 s1 s2 s3 s4 s5) (konts (wq25 k wq14) k I [1, 1, 1, 0, 1, 0, 0] wq49 (outK (wq25 k wq14) wqcc [.tmp 6] (wq8i K))) = wqax k wq14 (fun s0 s1 s2 s3 s4 s5 => I 1005 (wq8b s0 s1 s2 s3 s4 s5)) s0 s1 s2 s3 s4 s5 K := by kernel_rfl
def wqjp (k : Nat) (wq14 : wq8t) {R : Type} (E1005 : (Int → (List (Int × (Int × ((List UInt8) × (Bool × ((List (List UInt8)) × (List Int))))))) → Int → (List Int) → Int → Int → Option R)) (x0 : (List (Int × (Int × ((List UInt8) × (Bool × ((List (List UInt8)) × (List Int)))))))) (x1 x2 : Int) (K : (Int → Option R)) : Option R := (@cond (@Option R) (@Bool.or (@Bool.not (@BEq.beq (@Kd.T Kd.bool) (@instBEqOfDecidableEq (@Kd.T Kd.bool) @instDecidableEqBool) (@cond (@Kd.T Kd.bool) (@Decidable.decide (@GE.ge Int Int.instLEInt x1 (@Nat.cast Int instNatCastInt (@List.length (@Kd.T (@Kd.pr kI (@Kd.pr kI (@Kd.pr Kd.str (@Kd.pr Kd.bool (@Kd.pr (@Kd.sl Kd.str) (@Kd.sl kI))))))) x0))) (@Int.decLe (@Nat.cast Int instNatCastInt (@List.length (@Kd.T (@Kd.pr kI (@Kd.pr kI (@Kd.pr Kd.str (@Kd.pr Kd.bool (@Kd.pr (@Kd.sl Kd.str) (@Kd.sl kI))))))) x0)) x1)) Bool.true (@Decidable.decide (@GT.gt Int Int.instLTInt x2 (24 : Int)) (@Int.decLt (24 : Int) x2))) Bool.false)) (@inb x1 (@Nat.cast Int instNatCastInt (@List.length (@Kd.T (@Kd.pr kI (@Kd.pr kI (@Kd.pr Kd.str (@Kd.pr Kd.bool (@Kd.pr (@Kd.sl Kd.str) (@Kd.sl kI))))))) x0)))) (@cond (@Option R) (@BEq.beq (@Kd.T Kd.bool) (@instBEqOfDecidableEq (@Kd.T Kd.bool) @instDecidableEqBool) (@cond (@Kd.T Kd.bool) (@Decidable.decide (@GE.ge Int Int.instLEInt x1 (@Nat.cast Int instNatCastInt (@List.length (@Kd.T (@Kd.pr kI (@Kd.pr kI (@Kd.pr Kd.str (@Kd.pr Kd.bool (@Kd.pr (@Kd.sl Kd.str) (@Kd.sl kI))))))) x0))) (@Int.decLe (@Nat.cast Int instNatCastInt (@List.length (@Kd.T (@Kd.pr kI (@Kd.pr kI (@Kd.pr Kd.str (@Kd.pr Kd.bool (@Kd.pr (@Kd.sl Kd.str) (@Kd.sl kI))))))) x0)) x1)) Bool.true (@Decidable.decide (@GT.gt Int Int.instLTInt x2 (24 : Int)) (@Int.decLt (24 : Int) x2))) Bool.false) (@wqmq k R (@List.getD (@Kd.T (@Kd.pr kI (@Kd.pr kI (@Kd.pr Kd.str (@Kd.pr Kd.bool (@Kd.pr (@Kd.sl Kd.str) (@Kd.sl kI))))))) x0 (@Int.toNat x1) (@Kd.zero (@Kd.pr kI (@Kd.pr kI (@Kd.pr Kd.str (@Kd.pr Kd.bool (@Kd.pr (@Kd.sl Kd.str) (@Kd.sl kI)))))))).1 (@List.getD (@Kd.T (@Kd.pr kI (@Kd.pr kI (@Kd.pr Kd.str (@Kd.pr Kd.bool (@Kd.pr (@Kd.sl Kd.str) (@Kd.sl kI))))))) x0 (@Int.toNat x1) (@Kd.zero (@Kd.pr kI (@Kd.pr kI (@Kd.pr Kd.str (@Kd.pr Kd.bool (@Kd.pr (@Kd.sl Kd.str) (@Kd.sl kI)))))))).2.1 (@List.getD (@Kd.T (@Kd.pr kI (@Kd.pr kI (@Kd.pr Kd.str (@Kd.pr Kd.bool (@Kd.pr (@Kd.sl Kd.str) (@Kd.sl kI))))))) x0 (@Int.toNat x1) (@Kd.zero (@Kd.pr kI (@Kd.pr kI (@Kd.pr Kd.str (@Kd.pr Kd.bool (@Kd.pr (@Kd.sl Kd.str) (@Kd.sl kI)))))))).2.2.1 (@List.getD (@Kd.T (@Kd.pr kI (@Kd.pr kI (@Kd.pr Kd.str (@Kd.pr Kd.bool (@Kd.pr (@Kd.sl Kd.str) (@Kd.sl kI))))))) x0 (@Int.toNat x1) (@Kd.zero (@Kd.pr kI (@Kd.pr kI (@Kd.pr Kd.str (@Kd.pr Kd.bool (@Kd.pr (@Kd.sl Kd.str) (@Kd.sl kI)))))))).2.2.2.1 (@List.getD (@Kd.T (@Kd.pr kI (@Kd.pr kI (@Kd.pr Kd.str (@Kd.pr Kd.bool (@Kd.pr (@Kd.sl Kd.str) (@Kd.sl kI))))))) x0 (@Int.toNat x1) (@Kd.zero (@Kd.pr kI (@Kd.pr kI (@Kd.pr Kd.str (@Kd.pr Kd.bool (@Kd.pr (@Kd.sl Kd.str) (@Kd.sl kI)))))))).2.2.2.2.1 (@List.getD (@Kd.T (@Kd.pr kI (@Kd.pr kI (@Kd.pr Kd.str (@Kd.pr Kd.bool (@Kd.pr (@Kd.sl Kd.str) (@Kd.sl kI))))))) x0 (@Int.toNat x1) (@Kd.zero (@Kd.pr kI (@Kd.pr kI (@Kd.pr Kd.str (@Kd.pr Kd.bool (@Kd.pr (@Kd.sl Kd.str) (@Kd.sl kI)))))))).2.2.2.2.2 (fun y7 => (@cond (@Option R) (@Bool.not y7) (K (@Neg.neg Int @Int.instNegInt (1 : Int))) (@cond (@Option R) (@inb x1 (@Nat.cast Int instNatCastInt (@List.length (@Kd.T (@Kd.pr kI (@Kd.pr kI (@Kd.pr Kd.str (@Kd.pr Kd.bool (@Kd.pr (@Kd.sl Kd.str) (@Kd.sl kI))))))) x0))) (E1005 x2 x0 (@Go.IntKind.wrap Go.IntKind.i64 (@HAdd.hAdd Int Int Int (@instHAdd Int @Int.instAdd) x1 (1 : Int))) (@List.getD (@Kd.T (@Kd.pr kI (@Kd.pr kI (@Kd.pr Kd.str (@Kd.pr Kd.bool (@Kd.pr (@Kd.sl Kd.str) (@Kd.sl kI))))))) x0 (@Int.toNat x1) (@Kd.zero (@Kd.pr kI (@Kd.pr kI (@Kd.pr Kd.str (@Kd.pr Kd.bool (@Kd.pr (@Kd.sl Kd.str) (@Kd.sl kI)))))))).2.2.2.2.2 (@Nat.cast Int instNatCastInt (@List.length (@Kd.T kI) (@List.getD (@Kd.T (@Kd.pr kI (@Kd.pr kI (@Kd.pr Kd.str (@Kd.pr Kd.bool (@Kd.pr (@Kd.sl Kd.str) (@Kd.sl kI))))))) x0 (@Int.toNat x1) (@Kd.zero (@Kd.pr kI (@Kd.pr kI (@Kd.pr Kd.str (@Kd.pr Kd.bool (@Kd.pr (@Kd.sl Kd.str) (@Kd.sl kI)))))))).2.2.2.2.2)) (0 : Int)) (@Option.none R))))) (K (@Neg.neg Int @Int.instNegInt (1 : Int)))) (@Option.none R))
theorem wq14r (k : Nat) (wq14 : wq8t) {R : Type} (I : Nat → St → Option R) (x0 : (List (Int × (Int × ((List UInt8) × (Bool × ((List (List UInt8)) × (List Int)))))))) (x1 x2 : Int) (K : (Int → Option R)) : fnK (wq25 k wq14) k wq49 53 [.tmp 6] wqcc [.agg [.v (.sl (.pr (.int .i64) (.pr (.int .i64) (.pr .str (.pr .bool (.pr (.sl .str) (.sl (.int .i64)))))))) x0], .v (.int .i64) x1, .v (.int .i64) x2] [] (wq8i K) = wqjp k wq14 (fun s0 s1 s2 s3 s4 s5 => iter (wq25 k wq14).pv (look (wq25 k wq14).cuts 1005) (execK (wq25 k wq14) k (at_ [1, 1, 1, 0, 1, 0, 0] wq49)) k (wq8b s0 s1 s2 s3 s4 s5) (konts (wq25 k wq14) k I [1, 1, 1, 0, 1, 0] wq49 (outK (wq25 k wq14) wqcc [.tmp 6] (wq8i K)))) x0 x1 x2 K := by kernel_rfl
def wq5g (k : Nat) (wq14 : wq8t) {R : Type}  : Nat → Int → (List (Int × (Int × ((List UInt8) × (Bool × ((List (List UInt8)) × (List Int))))))) → Int → (List Int) → Int → Int → (Int → Option R) → Option R
  | 0, _, _, _, _, _, _, _ => none
  | n + 1, s0, s1, s2, s3, s4, s5, K => wqax k wq14 (fun s0 s1 s2 s3 s4 s5 => wq5g k wq14  n s0 s1 s2 s3 s4 s5 K) s0 s1 s2 s3 s4 s5 K
theorem wqs8 (k : Nat) (wq14 : wq8t) {R : Type} (I : Nat → St → Option R) (K : (Int → Option R)) : ∀ (n : Nat) (s0 : Int) (s1 : (List (Int × (Int × ((List UInt8) × (Bool × ((List (List UInt8)) × (List Int)))))))) (s2 : Int) (s3 : (List Int)) (s4 s5 : Int), iter (wq25 k wq14).pv (look (wq25 k wq14).cuts 1005) (execK (wq25 k wq14) k (at_ [1, 1, 1, 0, 1, 0, 0] wq49)) n (wq8b s0 s1 s2 s3 s4 s5) (konts (wq25 k wq14) k I [1, 1, 1, 0, 1, 0] wq49 (outK (wq25 k wq14) wqcc [.tmp 6] (wq8i K))) = wq5g k wq14  n s0 s1 s2 s3 s4 s5 K := by
  intro n
  induction n with
  | zero => intros; rfl
  | succ n ih =>
    intro s0 s1 s2 s3 s4 s5
    let I' : Nat → St → Option R := fun id s => bif Nat.beq id 1005 then iter (wq25 k wq14).pv (look (wq25 k wq14).cuts 1005) (execK (wq25 k wq14) k (at_ [1, 1, 1, 0, 1, 0, 0] wq49)) n s (konts (wq25 k wq14) k I [1, 1, 1, 0, 1, 0] wq49 (outK (wq25 k wq14) wqcc [.tmp 6] (wq8i K))) else I id s
    have e := wqs7 k wq14 I' s0 s1 s2 s3 s4 s5 K
    have h1005 : (fun s0 s1 s2 s3 s4 s5 => I' 1005 (wq8b s0 s1 s2 s3 s4 s5)) = (fun s0 s1 s2 s3 s4 s5 => wq5g k wq14  n s0 s1 s2 s3 s4 s5 K) := by funext s0 s1 s2 s3 s4 s5; exact ih s0 s1 s2 s3 s4 s5
    refine Eq.trans (?_ : _ = _) (e.trans (Eq.trans ((congrArg ((fun E1005 => wqax k wq14 E1005 s0 s1 s2 s3 s4 s5 K)) h1005)) (by rw [wq5g])))
    rfl
def wq2x : Nat → (R : Type) → (List (Int × (Int × ((List UInt8) × (Bool × ((List (List UInt8)) × (List Int))))))) → Int → Int → (Int → Option R) → Option R
  | 0, _, _, _, _, _ => none
  | k + 1, R, x0, x1, x2, K => wqjp k (wq2x k) (fun s0 s1 s2 s3 s4 s5 => wq5g k (wq2x k) k s0 s1 s2 s3 s4 s5 K) x0 x1 x2 K
def wqjq (k : Nat) {R : Type} (x0 : (List (Int × (Int × ((List UInt8) × (Bool × ((List (List UInt8)) × (List Int)))))))) (x1 x2 : Int) (K : (Int → Option R)) : Option R := wq2x k R x0 x1 x2 K
theorem wq14s (k : Nat) {R : Type} (x0 : (List (Int × (Int × ((List UInt8) × (Bool × ((List (List UInt8)) × (List Int)))))))) (x1 x2 : Int) (K : (Int → Option R)) : fnK (wq25 k (wq2x k)) k wq49 53 [.tmp 6] wqcc [.agg [.v (.sl (.pr (.int .i64) (.pr (.int .i64) (.pr .str (.pr .bool (.pr (.sl .str) (.sl (.int .i64)))))))) x0], .v (.int .i64) x1, .v (.int .i64) x2] [] (wq8i K) = wq2x (k + 1) R x0 x1 x2 K := by
  rw [wq2x]
  let I : Nat → St → Option R := fun _ _ => none
  have h1005 : (fun s0 s1 s2 s3 s4 s5 => iter (wq25 k (wq2x k)).pv (look (wq25 k (wq2x k)).cuts 1005) (execK (wq25 k (wq2x k)) k (at_ [1, 1, 1, 0, 1, 0, 0] wq49)) k (wq8b s0 s1 s2 s3 s4 s5) (konts (wq25 k (wq2x k)) k I [1, 1, 1, 0, 1, 0] wq49 (outK (wq25 k (wq2x k)) wqcc [.tmp 6] (wq8i K)))) = (fun s0 s1 s2 s3 s4 s5 => wq5g k (wq2x k) k s0 s1 s2 s3 s4 s5 K) := by funext s0 s1 s2 s3 s4 s5; exact wqs8 k (wq2x k) I K k s0 s1 s2 s3 s4 s5
  exact (wq14r k (wq2x k) I x0 x1 x2 K).trans (congrArg ((fun E1005 => wqjp k (wq2x k) E1005 x0 x1 x2 K)) h1005)
def wqco (k : Nat) {R : Type} : List PV → List (Nm × HObj) → (Out → Option R) → Option R
  | [.agg [.v (.sl (.pr (.int .i64) (.pr (.int .i64) (.pr .str (.pr .bool (.pr (.sl .str) (.sl (.int .i64)))))))) x0], .v (.int .i64) x1, .v (.int .i64) x2], [], K => wqjq k x0 x1 x2 (fun y0 => K (.ret [.v (.int .i64) y0] []))
  | _, _, _ => none
theorem wq14t (k : Nat) (wq14 : wq8t) (wq1ah : ∀ {ps : List PV} {hp : List (Nm × HObj)} {R : Type} {K : Out → Option R} {r : R}, wqkl wq14 ps hp K = some r → DoesTo Tryd.prog 18 ps hp fun out => K out = some r) : (wq13c k wq14).Ok Tryd.prog := (CTab.add_ok (fun h => wq1ah h) (CTab.add_ok (fun h => wq1dp k h) CTab.nil_ok))
theorem wq19v : ∀ k : Nat, (∀ {ps : List PV} {hp : List (Nm × HObj)} {R : Type} {K : Out → Option R} {r : R}, wqco k ps hp K = some r → DoesTo Tryd.prog 18 ps hp fun out => K out = some r) := by
  intro k
  induction k with
  | zero =>
    · intro ps hp R K r h
      unfold wqco at h
      split at h
      · unfold wqjq at h; rw [wq2x] at h; cases h
      · cases h
  | succ k ih =>
    have ih_show_walk := @ih
    · intro ps hp R K r h
      unfold wqco at h
      split at h
      · unfold wqjq at h; rw [← wq14s] at h
        have := fn_ok (P := Tryd.prog) (cx := wq25 k (wq2x k)) (f := 18) ⟨tyT_ok, wq14t k (wq2x k) (fun h => ih_show_walk (by unfold wqkl at h; unfold wqco; exact h)), fun _ _ => rfl⟩ (by kernel_rfl) (fn := Tryd.f18) (c := wq49) (by kernel_rfl) (by kernel_rfl) (by kernel_rfl) (rs := [.tmp 6]) (by kernel_rfl) (by kernel_rfl) h
        exact this.mono fun out ho => by
          unfold wq8i at ho
          split at ho <;> first | exact ho | cases ho
      · cases h
theorem wq1c0 (k : Nat) {ps : List PV} {hp : List (Nm × HObj)} {R : Type} {K : Out → Option R} {r : R} (h : wqco k ps hp K = some r) : DoesTo Tryd.prog 18 ps hp fun out => K out = some r := (wq19v k) h
def wqs9 : List LS := [.ag [.sl (.pr (.int .i64) (.pr (.int .i64) (.pr .str (.pr .bool (.pr (.sl .str) (.sl (.int .i64)))))))]]
def wqyh (k : Nat) : CTab := (CTab.add 18 wquu (wqco k) CTab.nil)
def wqin {R : Type} (K : (Int → Option R)) : Out → Option R
  | .ret [.v (.int .i64) y0] [] => K y0
  | _ => none
def wquv : RetSpec := ⟨[.any], [], []⟩
def wq11a : List (Nat × CutSpec) := []
def wqyi : List (Nat × Plan) := [(1, (.of [(0, 1), (1, 1), (2, 1), (3, 1), (4, 1), (5, 1), (6, 1), (7, 1), (8, 1), (9, 1), (10, 1), (13, 1), (11, 1), (14, 2), (15, 1), (12, 0), (16, 1), (17, 1)] .done))]
def wqmr (k : Nat) : Ctx := ⟨tyT, wq11a, wqyh k, [], [], wqyi, @SH⟩
def wqio : Code := Tryd.f9.body.getD .skip
def wqqh (k : Nat) {R : Type}  (x0 : (List (Int × (Int × ((List UInt8) × (Bool × ((List (List UInt8)) × (List Int)))))))) (K : (Int → Option R)) : Option R := (@cond (@Option R) (@BEq.beq (@Kd.T Kd.bool) (@instBEqOfDecidableEq (@Kd.T Kd.bool) @instDecidableEqBool) (@cond (@Kd.T Kd.bool) (@Decidable.decide (@LT.lt Int Int.instLTInt (@Nat.cast Int instNatCastInt (@List.length (@Kd.T (@Kd.pr kI (@Kd.pr kI (@Kd.pr Kd.str (@Kd.pr Kd.bool (@Kd.pr (@Kd.sl Kd.str) (@Kd.sl kI))))))) x0)) (1 : Int)) (@Int.decLt (@Nat.cast Int instNatCastInt (@List.length (@Kd.T (@Kd.pr kI (@Kd.pr kI (@Kd.pr Kd.str (@Kd.pr Kd.bool (@Kd.pr (@Kd.sl Kd.str) (@Kd.sl kI))))))) x0)) (1 : Int))) Bool.true (@Decidable.decide (@GT.gt Int Int.instLTInt (@Nat.cast Int instNatCastInt (@List.length (@Kd.T (@Kd.pr kI (@Kd.pr kI (@Kd.pr Kd.str (@Kd.pr Kd.bool (@Kd.pr (@Kd.sl Kd.str) (@Kd.sl kI))))))) x0)) (2000 : Int)) (@Int.decLt (2000 : Int) (@Nat.cast Int instNatCastInt (@List.length (@Kd.T (@Kd.pr kI (@Kd.pr kI (@Kd.pr Kd.str (@Kd.pr Kd.bool (@Kd.pr (@Kd.sl Kd.str) (@Kd.sl kI))))))) x0))))) Bool.false) (@wqjq k R x0 (0 : Int) (1 : Int) (fun y4 => (@cond (@Option R) (@bne Int (@instBEqOfDecidableEq Int @Int.instDecidableEq) y4 (@Nat.cast Int instNatCastInt (@List.length (@Kd.T (@Kd.pr kI (@Kd.pr kI (@Kd.pr Kd.str (@Kd.pr Kd.bool (@Kd.pr (@Kd.sl Kd.str) (@Kd.sl kI))))))) x0))) (K (1 : Int)) (K (0 : Int))))) (K (1 : Int)))
theorem wq11b (k : Nat) {R : Type} (I : Nat → St → Option R) (x0 : (List (Int × (Int × ((List UInt8) × (Bool × ((List (List UInt8)) × (List Int)))))))) (K : (Int → Option R)) : fnK (wqmr k) k wqio 21 [.tmp 2] wquv [.agg [.v (.sl (.pr (.int .i64) (.pr (.int .i64) (.pr .str (.pr .bool (.pr (.sl .str) (.sl (.int .i64)))))))) x0]] [] (wqin K) = wqqh k  x0 K := by kernel_rfl
def wqdz (k : Nat) {R : Type} (x0 : (List (Int × (Int × ((List UInt8) × (Bool × ((List (List UInt8)) × (List Int)))))))) (K : (Int → Option R)) : Option R := wqqh k  x0 K
theorem wq11c (k : Nat) {R : Type} (x0 : (List (Int × (Int × ((List UInt8) × (Bool × ((List (List UInt8)) × (List Int)))))))) (K : (Int → Option R)) : fnK (wqmr k) k wqio 21 [.tmp 2] wquv [.agg [.v (.sl (.pr (.int .i64) (.pr (.int .i64) (.pr .str (.pr .bool (.pr (.sl .str) (.sl (.int .i64)))))))) x0]] [] (wqin K) = wqdz k x0 K := by
  exact wq11b k (fun _ _ => none) x0 K
def wqfs (k : Nat) {R : Type} : List PV → List (Nm × HObj) → (Out → Option R) → Option R
  | [.agg [.v (.sl (.pr (.int .i64) (.pr (.int .i64) (.pr .str (.pr .bool (.pr (.sl .str) (.sl (.int .i64)))))))) x0]], [], K => wqdz k x0 (fun y0 => K (.ret [.v (.int .i64) y0] []))
  | _, _, _ => none
theorem wq11d (k : Nat) : (wqyh k).Ok Tryd.prog := (CTab.add_ok (fun h => wq1c0 k h) CTab.nil_ok)
theorem wqyj (k : Nat) {ps : List PV} {hp : List (Nm × HObj)} {R : Type} {K : Out → Option R} {r : R} (h : wqfs k ps hp K = some r) : DoesTo Tryd.prog 9 ps hp fun out => K out = some r := by
  unfold wqfs at h
  split at h
  · rw [← wq11c] at h
    have := fn_ok (P := Tryd.prog) (cx := wqmr k) (f := 9) ⟨tyT_ok, wq11d k, fun _ _ => rfl⟩ (by kernel_rfl) (fn := Tryd.f9) (c := wqio) (by kernel_rfl) (by kernel_rfl) (by kernel_rfl) (rs := [.tmp 2]) (by kernel_rfl) (by kernel_rfl) h
    exact this.mono fun out ho => by
      unfold wqin at ho
      split at ho <;> first | exact ho | cases ho
  · cases h
def wqip : List LS := [.sl (.int .i64), .sl (.int .i64)]
def wqd4 (k : Nat) : CTab := CTab.nil
def wq2d {R : Type} (K : (Bool → Option R)) : Out → Option R
  | .ret [.v .bool y0] [] => K y0
  | _ => none
def wq33 : RetSpec := ⟨[.any], [], []⟩
def wqhb : List (Nat × CutSpec) := [(1004, ⟨[(0, .sl (.int .i64)), (1, .sl (.int .i64)), (12, .any), (13, .any)], []⟩)]
def wqgn : List (Nat × Plan) := [(6, (.of [(0, 1), (1, 1), (2, 1), (4, 1), (5, 1), (6, 1), (3, 1), (7, 1), (8, 1)] .done))]
def wqd (k : Nat) : Ctx := ⟨tyT, wqhb, wqd4 k, [], [], wqgn, @SH⟩
def wq11 : Code := Tryd.f23.body.getD .skip
def wq2r (s0 s1 : (List Int)) (s2 s3 : Int) : St := ⟨mkT [(0, .v (.sl (.int .i64)) s0), (1, .v (.sl (.int .i64)) s1), (12, .v (.int .i64) s2), (13, .v (.int .i64) s3)], mkH []⟩
def wq78 (k : Nat) {R : Type} (E1004 : ((List Int) → (List Int) → Int → Int → Option R)) (s0 s1 : (List Int)) (s2 s3 : Int) (K : (Bool → Option R)) : Option R := (@cond (@Option R) (@Decidable.decide (@LT.lt Int Int.instLTInt s3 s2) (@Int.decLt s3 s2)) (@cond (@Option R) (@inb s3 (@Nat.cast Int instNatCastInt (@List.length (@Kd.T kI) s0))) (@cond (@Option R) (@inb s3 (@Nat.cast Int instNatCastInt (@List.length (@Kd.T kI) s1))) (@cond (@Option R) (@bne Int (@instBEqOfDecidableEq Int @Int.instDecidableEq) (@List.getD (@Kd.T kI) s0 (@Int.toNat s3) (@Kd.zero kI)) (@List.getD (@Kd.T kI) s1 (@Int.toNat s3) (@Kd.zero kI))) (K Bool.false) (E1004 s0 s1 s2 (@Go.IntKind.wrap Go.IntKind.i64 (@HAdd.hAdd Int Int Int (@instHAdd Int @Int.instAdd) s3 (1 : Int))))) (@Option.none R)) (@Option.none R)) (K Bool.true))
theorem wqe0 (k : Nat) {R : Type} (I : Nat → St → Option R) (s0 s1 : (List Int)) (s2 s3 : Int) (K : (Bool → Option R)) : execK (wqd k) k (at_ [1, 1, 0, 1, 0, 0] wq11) (wq2r s0 s1 s2 s3) (konts (wqd k) k I [1, 1, 0, 1, 0, 0] wq11 (outK (wqd k) wq33 [.tmp 4] (wq2d K))) = wq78 k (fun s0 s1 s2 s3 => I 1004 (wq2r s0 s1 s2 s3)) s0 s1 s2 s3 K := by kernel_rfl
def wq79 (k : Nat) {R : Type} (E1004 : ((List Int) → (List Int) → Int → Int → Option R)) (x0 x1 : (List Int)) (K : (Bool → Option R)) : Option R := (@cond (@Option R) (@bne Int (@instBEqOfDecidableEq Int @Int.instDecidableEq) (@Nat.cast Int instNatCastInt (@List.length (@Kd.T kI) x0)) (@Nat.cast Int instNatCastInt (@List.length (@Kd.T kI) x1))) (K Bool.false) (E1004 x0 x1 (@Nat.cast Int instNatCastInt (@List.length (@Kd.T kI) x0)) (0 : Int)))
theorem wqhc (k : Nat) {R : Type} (I : Nat → St → Option R) (x0 x1 : (List Int)) (K : (Bool → Option R)) : fnK (wqd k) k wq11 26 [.tmp 4] wq33 [.v (.sl (.int .i64)) x0, .v (.sl (.int .i64)) x1] [] (wq2d K) = wq79 k (fun s0 s1 s2 s3 => iter (wqd k).pv (look (wqd k).cuts 1004) (execK (wqd k) k (at_ [1, 1, 0, 1, 0, 0] wq11)) k (wq2r s0 s1 s2 s3) (konts (wqd k) k I [1, 1, 0, 1, 0] wq11 (outK (wqd k) wq33 [.tmp 4] (wq2d K)))) x0 x1 K := by kernel_rfl
def wq1x (k : Nat) {R : Type}  : Nat → (List Int) → (List Int) → Int → Int → (Bool → Option R) → Option R
  | 0, _, _, _, _, _ => none
  | n + 1, s0, s1, s2, s3, K => wq78 k (fun s0 s1 s2 s3 => wq1x k  n s0 s1 s2 s3 K) s0 s1 s2 s3 K
theorem wqe1 (k : Nat) {R : Type} (I : Nat → St → Option R) (K : (Bool → Option R)) : ∀ (n : Nat) (s0 s1 : (List Int)) (s2 s3 : Int), iter (wqd k).pv (look (wqd k).cuts 1004) (execK (wqd k) k (at_ [1, 1, 0, 1, 0, 0] wq11)) n (wq2r s0 s1 s2 s3) (konts (wqd k) k I [1, 1, 0, 1, 0] wq11 (outK (wqd k) wq33 [.tmp 4] (wq2d K))) = wq1x k  n s0 s1 s2 s3 K := by
  intro n
  induction n with
  | zero => intros; rfl
  | succ n ih =>
    intro s0 s1 s2 s3
    let I' : Nat → St → Option R := fun id s => bif Nat.beq id 1004 then iter (wqd k).pv (look (wqd k).cuts 1004) (execK (wqd k) k (at_ [1, 1, 0, 1, 0, 0] wq11)) n s (konts (wqd k) k I [1, 1, 0, 1, 0] wq11 (outK (wqd k) wq33 [.tmp 4] (wq2d K))) else I id s
    have e := wqe0 k I' s0 s1 s2 s3 K
    have h1004 : (fun s0 s1 s2 s3 => I' 1004 (wq2r s0 s1 s2 s3)) = (fun s0 s1 s2 s3 => wq1x k  n s0 s1 s2 s3 K) := by funext s0 s1 s2 s3; exact ih s0 s1 s2 s3
    refine Eq.trans (?_ : _ = _) (e.trans (Eq.trans ((congrArg ((fun E1004 => wq78 k E1004 s0 s1 s2 s3 K)) h1004)) (by rw [wq1x])))
    rfl
def wq5h (k : Nat) {R : Type} (x0 x1 : (List Int)) (K : (Bool → Option R)) : Option R := wq79 k (fun s0 s1 s2 s3 => wq1x k k s0 s1 s2 s3 K) x0 x1 K
theorem wqhd (k : Nat) {R : Type} (x0 x1 : (List Int)) (K : (Bool → Option R)) : fnK (wqd k) k wq11 26 [.tmp 4] wq33 [.v (.sl (.int .i64)) x0, .v (.sl (.int .i64)) x1] [] (wq2d K) = wq5h k x0 x1 K := by
  let I : Nat → St → Option R := fun _ _ => none
  have h1004 : (fun s0 s1 s2 s3 => iter (wqd k).pv (look (wqd k).cuts 1004) (execK (wqd k) k (at_ [1, 1, 0, 1, 0, 0] wq11)) k (wq2r s0 s1 s2 s3) (konts (wqd k) k I [1, 1, 0, 1, 0] wq11 (outK (wqd k) wq33 [.tmp 4] (wq2d K)))) = (fun s0 s1 s2 s3 => wq1x k k s0 s1 s2 s3 K) := by funext s0 s1 s2 s3; exact wqe1 k I K k s0 s1 s2 s3
  exact (wqhc k I x0 x1 K).trans (congrArg ((fun E1004 => wq79 k E1004 x0 x1 K)) h1004)
def wq8u (k : Nat) {R : Type} : List PV → List (Nm × HObj) → (Out → Option R) → Option R
  | [.v (.sl (.int .i64)) x0, .v (.sl (.int .i64)) x1], [], K => wq5h k x0 x1 (fun y0 => K (.ret [.v .bool y0] []))
  | _, _, _ => none
theorem wqhe (k : Nat) : (wqd4 k).Ok Tryd.prog := CTab.nil_ok
theorem wqkm (k : Nat) {ps : List PV} {hp : List (Nm × HObj)} {R : Type} {K : Out → Option R} {r : R} (h : wq8u k ps hp K = some r) : DoesTo Tryd.prog 23 ps hp fun out => K out = some r := by
  unfold wq8u at h
  split at h
  · rw [← wqhd] at h
    have := fn_ok (P := Tryd.prog) (cx := wqd k) (f := 23) ⟨tyT_ok, wqhe k, fun _ _ => rfl⟩ (by kernel_rfl) (fn := Tryd.f23) (c := wq11) (by kernel_rfl) (by kernel_rfl) (by kernel_rfl) (rs := [.tmp 4]) (by kernel_rfl) (by kernel_rfl) h
    exact this.mono fun out ho => by
      unfold wq2d at ho
      split at ho <;> first | exact ho | cases ho
  · cases h
def wqe2 : List LS := [.sl .str, .sl .str]
def wqa3 (k : Nat) : CTab := CTab.nil
def wq1l {R : Type} (K : (Bool → Option R)) : Out → Option R
  | .ret [.v .bool y0] [] => K y0
  | _ => none
def wq26 : RetSpec := ⟨[.any], [], []⟩
def wqdg : List (Nat × CutSpec) := [(1004, ⟨[(0, .sl .str), (1, .sl .str), (12, .any), (13, .any)], []⟩)]
def wqd5 : List (Nat × Plan) := [(6, (.of [(0, 1), (1, 1), (2, 1), (4, 1), (5, 1), (6, 1), (3, 1), (7, 1), (8, 1)] .done))]
def wq8 (k : Nat) : Ctx := ⟨tyT, wqdg, wqa3 k, [], [], wqd5, @SH⟩
def wqp : Code := Tryd.f22.body.getD .skip
def wq1y (s0 s1 : (List (List UInt8))) (s2 s3 : Int) : St := ⟨mkT [(0, .v (.sl .str) s0), (1, .v (.sl .str) s1), (12, .v (.int .i64) s2), (13, .v (.int .i64) s3)], mkH []⟩
def wq54 (k : Nat) {R : Type} (E1004 : ((List (List UInt8)) → (List (List UInt8)) → Int → Int → Option R)) (s0 s1 : (List (List UInt8))) (s2 s3 : Int) (K : (Bool → Option R)) : Option R := (@cond (@Option R) (@Decidable.decide (@LT.lt Int Int.instLTInt s3 s2) (@Int.decLt s3 s2)) (@cond (@Option R) (@inb s3 (@Nat.cast Int instNatCastInt (@List.length (@Kd.T Kd.str) s0))) (@cond (@Option R) (@inb s3 (@Nat.cast Int instNatCastInt (@List.length (@Kd.T Kd.str) s1))) (@cond (@Option R) (@Bool.not (@BEq.beq (@List UInt8) (@List.instBEq UInt8 (@instBEqOfDecidableEq UInt8 @instDecidableEqUInt8)) (@List.getD (@Kd.T Kd.str) s0 (@Int.toNat s3) (@Kd.zero Kd.str)) (@List.getD (@Kd.T Kd.str) s1 (@Int.toNat s3) (@Kd.zero Kd.str)))) (K Bool.false) (E1004 s0 s1 s2 (@Go.IntKind.wrap Go.IntKind.i64 (@HAdd.hAdd Int Int Int (@instHAdd Int @Int.instAdd) s3 (1 : Int))))) (@Option.none R)) (@Option.none R)) (K Bool.true))
theorem wqbg (k : Nat) {R : Type} (I : Nat → St → Option R) (s0 s1 : (List (List UInt8))) (s2 s3 : Int) (K : (Bool → Option R)) : execK (wq8 k) k (at_ [1, 1, 0, 1, 0, 0] wqp) (wq1y s0 s1 s2 s3) (konts (wq8 k) k I [1, 1, 0, 1, 0, 0] wqp (outK (wq8 k) wq26 [.tmp 4] (wq1l K))) = wq54 k (fun s0 s1 s2 s3 => I 1004 (wq1y s0 s1 s2 s3)) s0 s1 s2 s3 K := by kernel_rfl
def wq4s (k : Nat) {R : Type} (E1004 : ((List (List UInt8)) → (List (List UInt8)) → Int → Int → Option R)) (x0 x1 : (List (List UInt8))) (K : (Bool → Option R)) : Option R := (@cond (@Option R) (@bne Int (@instBEqOfDecidableEq Int @Int.instDecidableEq) (@Nat.cast Int instNatCastInt (@List.length (@Kd.T Kd.str) x0)) (@Nat.cast Int instNatCastInt (@List.length (@Kd.T Kd.str) x1))) (K Bool.false) (E1004 x0 x1 (@Nat.cast Int instNatCastInt (@List.length (@Kd.T Kd.str) x0)) (0 : Int)))
theorem wqdh (k : Nat) {R : Type} (I : Nat → St → Option R) (x0 x1 : (List (List UInt8))) (K : (Bool → Option R)) : fnK (wq8 k) k wqp 26 [.tmp 4] wq26 [.v (.sl .str) x0, .v (.sl .str) x1] [] (wq1l K) = wq4s k (fun s0 s1 s2 s3 => iter (wq8 k).pv (look (wq8 k).cuts 1004) (execK (wq8 k) k (at_ [1, 1, 0, 1, 0, 0] wqp)) k (wq1y s0 s1 s2 s3) (konts (wq8 k) k I [1, 1, 0, 1, 0] wqp (outK (wq8 k) wq26 [.tmp 4] (wq1l K)))) x0 x1 K := by kernel_rfl
def wq1a (k : Nat) {R : Type}  : Nat → (List (List UInt8)) → (List (List UInt8)) → Int → Int → (Bool → Option R) → Option R
  | 0, _, _, _, _, _ => none
  | n + 1, s0, s1, s2, s3, K => wq54 k (fun s0 s1 s2 s3 => wq1a k  n s0 s1 s2 s3 K) s0 s1 s2 s3 K
theorem wqbh (k : Nat) {R : Type} (I : Nat → St → Option R) (K : (Bool → Option R)) : ∀ (n : Nat) (s0 s1 : (List (List UInt8))) (s2 s3 : Int), iter (wq8 k).pv (look (wq8 k).cuts 1004) (execK (wq8 k) k (at_ [1, 1, 0, 1, 0, 0] wqp)) n (wq1y s0 s1 s2 s3) (konts (wq8 k) k I [1, 1, 0, 1, 0] wqp (outK (wq8 k) wq26 [.tmp 4] (wq1l K))) = wq1a k  n s0 s1 s2 s3 K := by
  intro n
  induction n with
  | zero => intros; rfl
  | succ n ih =>
    intro s0 s1 s2 s3
    let I' : Nat → St → Option R := fun id s => bif Nat.beq id 1004 then iter (wq8 k).pv (look (wq8 k).cuts 1004) (execK (wq8 k) k (at_ [1, 1, 0, 1, 0, 0] wqp)) n s (konts (wq8 k) k I [1, 1, 0, 1, 0] wqp (outK (wq8 k) wq26 [.tmp 4] (wq1l K))) else I id s
    have e := wqbg k I' s0 s1 s2 s3 K
    have h1004 : (fun s0 s1 s2 s3 => I' 1004 (wq1y s0 s1 s2 s3)) = (fun s0 s1 s2 s3 => wq1a k  n s0 s1 s2 s3 K) := by funext s0 s1 s2 s3; exact ih s0 s1 s2 s3
    refine Eq.trans (?_ : _ = _) (e.trans (Eq.trans ((congrArg ((fun E1004 => wq54 k E1004 s0 s1 s2 s3 K)) h1004)) (by rw [wq1a])))
    rfl
def wq3g (k : Nat) {R : Type} (x0 x1 : (List (List UInt8))) (K : (Bool → Option R)) : Option R := wq4s k (fun s0 s1 s2 s3 => wq1a k k s0 s1 s2 s3 K) x0 x1 K
theorem wqdi (k : Nat) {R : Type} (x0 x1 : (List (List UInt8))) (K : (Bool → Option R)) : fnK (wq8 k) k wqp 26 [.tmp 4] wq26 [.v (.sl .str) x0, .v (.sl .str) x1] [] (wq1l K) = wq3g k x0 x1 K := by
  let I : Nat → St → Option R := fun _ _ => none
  have h1004 : (fun s0 s1 s2 s3 => iter (wq8 k).pv (look (wq8 k).cuts 1004) (execK (wq8 k) k (at_ [1, 1, 0, 1, 0, 0] wqp)) k (wq1y s0 s1 s2 s3) (konts (wq8 k) k I [1, 1, 0, 1, 0] wqp (outK (wq8 k) wq26 [.tmp 4] (wq1l K)))) = (fun s0 s1 s2 s3 => wq1a k k s0 s1 s2 s3 K) := by funext s0 s1 s2 s3; exact wqbh k I K k s0 s1 s2 s3
  exact (wqdh k I x0 x1 K).trans (congrArg ((fun E1004 => wq4s k E1004 x0 x1 K)) h1004)
def wq63 (k : Nat) {R : Type} : List PV → List (Nm × HObj) → (Out → Option R) → Option R
  | [.v (.sl .str) x0, .v (.sl .str) x1], [], K => wq3g k x0 x1 (fun y0 => K (.ret [.v .bool y0] []))
  | _, _, _ => none
theorem wqdj (k : Nat) : (wqa3 k).Ok Tryd.prog := CTab.nil_ok
theorem wqfe (k : Nat) {ps : List PV} {hp : List (Nm × HObj)} {R : Type} {K : Out → Option R} {r : R} (h : wq63 k ps hp K = some r) : DoesTo Tryd.prog 22 ps hp fun out => K out = some r := by
  unfold wq63 at h
  split at h
  · rw [← wqdi] at h
    have := fn_ok (P := Tryd.prog) (cx := wq8 k) (f := 22) ⟨tyT_ok, wqdj k, fun _ _ => rfl⟩ (by kernel_rfl) (fn := Tryd.f22) (c := wqp) (by kernel_rfl) (by kernel_rfl) (by kernel_rfl) (rs := [.tmp 4]) (by kernel_rfl) (by kernel_rfl) h
    exact this.mono fun out ho => by
      unfold wq1l at ho
      split at ho <;> first | exact ho | cases ho
  · cases h
def wqp1 : List LS := [.ag [.any, .any, .any, .any, .sl .str, .sl (.int .i64)], .ag [.any, .any, .any, .any, .sl .str, .sl (.int .i64)]]
def wquw (k : Nat) : CTab := (CTab.add 22 wqe2 (wq63 k) (CTab.add 23 wqip (wq8u k) CTab.nil))
def wqgo {R : Type} (K : (Bool → Option R)) : Out → Option R
  | .ret [.v .bool y0] [] => K y0
  | _ => none
def wqsa : RetSpec := ⟨[.any], [], []⟩
def wqyk : List (Nat × CutSpec) := []
def wqvp : List (Nat × Plan) := []
def wqkn (k : Nat) : Ctx := ⟨tyT, wqyk, wquw k, [], [], wqvp, @SH⟩
def wqgp : Code := Tryd.f21.body.getD .skip
def wqms (k : Nat) {R : Type}  (x0 x1 : Int) (x2 : (List UInt8)) (x3 : Bool) (x4 : (List (List UInt8))) (x5 : (List Int)) (x6 x7 : Int) (x8 : (List UInt8)) (x9 : Bool) (x10 : (List (List UInt8))) (x11 : (List Int)) (K : (Bool → Option R)) : Option R := (@cond (@Option R) (@BEq.beq (@Kd.T Kd.bool) (@instBEqOfDecidableEq (@Kd.T Kd.bool) @instDecidableEqBool) (@cond (@Kd.T Kd.bool) (@cond (@Kd.T Kd.bool) (@BEq.beq Int (@instBEqOfDecidableEq Int @Int.instDecidableEq) x0 x6) (@BEq.beq (@List UInt8) (@List.instBEq UInt8 (@instBEqOfDecidableEq UInt8 @instDecidableEqUInt8)) x2 x8) Bool.false) (@BEq.beq (@Kd.T Kd.bool) (@instBEqOfDecidableEq (@Kd.T Kd.bool) @instDecidableEqBool) x3 x9) Bool.false) Bool.true) (@wq3g k R x4 x10 (fun y15 => (@cond (@Option R) (@BEq.beq (@Kd.T Kd.bool) (@instBEqOfDecidableEq (@Kd.T Kd.bool) @instDecidableEqBool) y15 Bool.true) (@wq5h k R x5 x11 (fun y16 => (K y16))) (K Bool.false)))) (K Bool.false))
theorem wqyl (k : Nat) {R : Type} (I : Nat → St → Option R) (x0 x1 : Int) (x2 : (List UInt8)) (x3 : Bool) (x4 : (List (List UInt8))) (x5 : (List Int)) (x6 x7 : Int) (x8 : (List UInt8)) (x9 : Bool) (x10 : (List (List UInt8))) (x11 : (List Int)) (K : (Bool → Option R)) : fnK (wqkn k) k wqgp 38 [.tmp 4] wqsa [.agg [.v (.int .i64) x0, .v (.int .i64) x1, .v .str x2, .v .bool x3, .v (.sl .str) x4, .v (.sl (.int .i64)) x5], .agg [.v (.int .i64) x6, .v (.int .i64) x7, .v .str x8, .v .bool x9, .v (.sl .str) x10, .v (.sl (.int .i64)) x11]] [] (wqgo K) = wqms k  x0 x1 x2 x3 x4 x5 x6 x7 x8 x9 x10 x11 K := by kernel_rfl
def wqew (k : Nat) {R : Type} (x0 x1 : Int) (x2 : (List UInt8)) (x3 : Bool) (x4 : (List (List UInt8))) (x5 : (List Int)) (x6 x7 : Int) (x8 : (List UInt8)) (x9 : Bool) (x10 : (List (List UInt8))) (x11 : (List Int)) (K : (Bool → Option R)) : Option R := wqms k  x0 x1 x2 x3 x4 x5 x6 x7 x8 x9 x10 x11 K
theorem wqym (k : Nat) {R : Type} (x0 x1 : Int) (x2 : (List UInt8)) (x3 : Bool) (x4 : (List (List UInt8))) (x5 : (List Int)) (x6 x7 : Int) (x8 : (List UInt8)) (x9 : Bool) (x10 : (List (List UInt8))) (x11 : (List Int)) (K : (Bool → Option R)) : fnK (wqkn k) k wqgp 38 [.tmp 4] wqsa [.agg [.v (.int .i64) x0, .v (.int .i64) x1, .v .str x2, .v .bool x3, .v (.sl .str) x4, .v (.sl (.int .i64)) x5], .agg [.v (.int .i64) x6, .v (.int .i64) x7, .v .str x8, .v .bool x9, .v (.sl .str) x10, .v (.sl (.int .i64)) x11]] [] (wqgo K) = wqew k x0 x1 x2 x3 x4 x5 x6 x7 x8 x9 x10 x11 K := by
  exact wqyl k (fun _ _ => none) x0 x1 x2 x3 x4 x5 x6 x7 x8 x9 x10 x11 K
def wqeo (k : Nat) {R : Type} : List PV → List (Nm × HObj) → (Out → Option R) → Option R
  | [.agg [.v (.int .i64) x0, .v (.int .i64) x1, .v .str x2, .v .bool x3, .v (.sl .str) x4, .v (.sl (.int .i64)) x5], .agg [.v (.int .i64) x6, .v (.int .i64) x7, .v .str x8, .v .bool x9, .v (.sl .str) x10, .v (.sl (.int .i64)) x11]], [], K => wqew k x0 x1 x2 x3 x4 x5 x6 x7 x8 x9 x10 x11 (fun y0 => K (.ret [.v .bool y0] []))
  | _, _, _ => none
theorem wqyn (k : Nat) : (wquw k).Ok Tryd.prog := (CTab.add_ok (fun h => wqfe k h) (CTab.add_ok (fun h => wqkm k h) CTab.nil_ok))
theorem wqux (k : Nat) {ps : List PV} {hp : List (Nm × HObj)} {R : Type} {K : Out → Option R} {r : R} (h : wqeo k ps hp K = some r) : DoesTo Tryd.prog 21 ps hp fun out => K out = some r := by
  unfold wqeo at h
  split at h
  · rw [← wqym] at h
    have := fn_ok (P := Tryd.prog) (cx := wqkn k) (f := 21) ⟨tyT_ok, wqyn k, fun _ _ => rfl⟩ (by kernel_rfl) (fn := Tryd.f21) (c := wqgp) (by kernel_rfl) (by kernel_rfl) (by kernel_rfl) (rs := [.tmp 4]) (by kernel_rfl) (by kernel_rfl) h
    exact this.mono fun out ho => by
      unfold wqgo at ho
      split at ho <;> first | exact ho | cases ho
  · cases h
def wq64 : List LS := [.sl (.pr (.int .i64) (.pr (.int .i64) (.pr .str (.pr .bool (.pr (.sl .str) (.sl (.int .i64))))))), .sl (.pr (.int .i64) (.pr (.int .i64) (.pr .str (.pr .bool (.pr (.sl .str) (.sl (.int .i64))))))), .clo []]
def wq3b (k : Nat) : CTab := (CTab.add 21 wqp1 (wqeo k) CTab.nil)
def wqf {R : Type} (K : (Bool → Option R)) : Out → Option R
  | .ret [.v .bool y0] [] => K y0
  | _ => none
def wql : RetSpec := ⟨[.any], [], []⟩
def wq5y : List (Nat × CutSpec) := [(1004, ⟨[(1, .sl (.pr (.int .i64) (.pr (.int .i64) (.pr .str (.pr .bool (.pr (.sl .str) (.sl (.int .i64)))))))), (2, .clo []), (15, .sl (.pr (.int .i64) (.pr (.int .i64) (.pr .str (.pr .bool (.pr (.sl .str) (.sl (.int .i64)))))))), (16, .any), (17, .any)], []⟩)]
def wq5r : List (Nat × Plan) := []
def wq1 (k : Nat) : Ctx := ⟨tyT, wq5y, wq3b k, [], [], wq5r, @SH⟩
def wq7 : Code := Tryd.f20.body.getD .skip
def wqo (s0 : (List (Int × (Int × ((List UInt8) × (Bool × ((List (List UInt8)) × (List Int)))))))) (s1 : (List (Int × (Int × ((List UInt8) × (Bool × ((List (List UInt8)) × (List Int)))))))) (s2 s3 : Int) : St := ⟨mkT [(1, .v (.sl (.pr (.int .i64) (.pr (.int .i64) (.pr .str (.pr .bool (.pr (.sl .str) (.sl (.int .i64)))))))) s0), (2, .clo 21 []), (15, .v (.sl (.pr (.int .i64) (.pr (.int .i64) (.pr .str (.pr .bool (.pr (.sl .str) (.sl (.int .i64)))))))) s1), (16, .v (.int .i64) s2), (17, .v (.int .i64) s3)], mkH []⟩
def wqw (k : Nat) {R : Type} (E1004 : ((List (Int × (Int × ((List UInt8) × (Bool × ((List (List UInt8)) × (List Int))))))) → (List (Int × (Int × ((List UInt8) × (Bool × ((List (List UInt8)) × (List Int))))))) → Int → Int → Option R)) (s0 : (List (Int × (Int × ((List UInt8) × (Bool × ((List (List UInt8)) × (List Int)))))))) (s1 : (List (Int × (Int × ((List UInt8) × (Bool × ((List (List UInt8)) × (List Int)))))))) (s2 s3 : Int) (K : (Bool → Option R)) : Option R := (@cond (@Option R) (@Decidable.decide (@LT.lt Int Int.instLTInt s3 s2) (@Int.decLt s3 s2)) (@cond (@Option R) (@inb s3 (@Nat.cast Int instNatCastInt (@List.length (@Kd.T (@Kd.pr kI (@Kd.pr kI (@Kd.pr Kd.str (@Kd.pr Kd.bool (@Kd.pr (@Kd.sl Kd.str) (@Kd.sl kI))))))) s1))) (@cond (@Option R) (@inb s3 (@Nat.cast Int instNatCastInt (@List.length (@Kd.T (@Kd.pr kI (@Kd.pr kI (@Kd.pr Kd.str (@Kd.pr Kd.bool (@Kd.pr (@Kd.sl Kd.str) (@Kd.sl kI))))))) s0))) (@wqew k R (@List.getD (@Kd.T (@Kd.pr kI (@Kd.pr kI (@Kd.pr Kd.str (@Kd.pr Kd.bool (@Kd.pr (@Kd.sl Kd.str) (@Kd.sl kI))))))) s1 (@Int.toNat s3) (@Kd.zero (@Kd.pr kI (@Kd.pr kI (@Kd.pr Kd.str (@Kd.pr Kd.bool (@Kd.pr (@Kd.sl Kd.str) (@Kd.sl kI)))))))).1 (@List.getD (@Kd.T (@Kd.pr kI (@Kd.pr kI (@Kd.pr Kd.str (@Kd.pr Kd.bool (@Kd.pr (@Kd.sl Kd.str) (@Kd.sl kI))))))) s1 (@Int.toNat s3) (@Kd.zero (@Kd.pr kI (@Kd.pr kI (@Kd.pr Kd.str (@Kd.pr Kd.bool (@Kd.pr (@Kd.sl Kd.str) (@Kd.sl kI)))))))).2.1 (@List.getD (@Kd.T (@Kd.pr kI (@Kd.pr kI (@Kd.pr Kd.str (@Kd.pr Kd.bool (@Kd.pr (@Kd.sl Kd.str) (@Kd.sl kI))))))) s1 (@Int.toNat s3) (@Kd.zero (@Kd.pr kI (@Kd.pr kI (@Kd.pr Kd.str (@Kd.pr Kd.bool (@Kd.pr (@Kd.sl Kd.str) (@Kd.sl kI)))))))).2.2.1 (@List.getD (@Kd.T (@Kd.pr kI (@Kd.pr kI (@Kd.pr Kd.str (@Kd.pr Kd.bool (@Kd.pr (@Kd.sl Kd.str) (@Kd.sl kI))))))) s1 (@Int.toNat s3) (@Kd.zero (@Kd.pr kI (@Kd.pr kI (@Kd.pr Kd.str (@Kd.pr Kd.bool (@Kd.pr (@Kd.sl Kd.str) (@Kd.sl kI)))))))).2.2.2.1 (@List.getD (@Kd.T (@Kd.pr kI (@Kd.pr kI (@Kd.pr Kd.str (@Kd.pr Kd.bool (@Kd.pr (@Kd.sl Kd.str) (@Kd.sl kI))))))) s1 (@Int.toNat s3) (@Kd.zero (@Kd.pr kI (@Kd.pr kI (@Kd.pr Kd.str (@Kd.pr Kd.bool (@Kd.pr (@Kd.sl Kd.str) (@Kd.sl kI)))))))).2.2.2.2.1 (@List.getD (@Kd.T (@Kd.pr kI (@Kd.pr kI (@Kd.pr Kd.str (@Kd.pr Kd.bool (@Kd.pr (@Kd.sl Kd.str) (@Kd.sl kI))))))) s1 (@Int.toNat s3) (@Kd.zero (@Kd.pr kI (@Kd.pr kI (@Kd.pr Kd.str (@Kd.pr Kd.bool (@Kd.pr (@Kd.sl Kd.str) (@Kd.sl kI)))))))).2.2.2.2.2 (@List.getD (@Kd.T (@Kd.pr kI (@Kd.pr kI (@Kd.pr Kd.str (@Kd.pr Kd.bool (@Kd.pr (@Kd.sl Kd.str) (@Kd.sl kI))))))) s0 (@Int.toNat s3) (@Kd.zero (@Kd.pr kI (@Kd.pr kI (@Kd.pr Kd.str (@Kd.pr Kd.bool (@Kd.pr (@Kd.sl Kd.str) (@Kd.sl kI)))))))).1 (@List.getD (@Kd.T (@Kd.pr kI (@Kd.pr kI (@Kd.pr Kd.str (@Kd.pr Kd.bool (@Kd.pr (@Kd.sl Kd.str) (@Kd.sl kI))))))) s0 (@Int.toNat s3) (@Kd.zero (@Kd.pr kI (@Kd.pr kI (@Kd.pr Kd.str (@Kd.pr Kd.bool (@Kd.pr (@Kd.sl Kd.str) (@Kd.sl kI)))))))).2.1 (@List.getD (@Kd.T (@Kd.pr kI (@Kd.pr kI (@Kd.pr Kd.str (@Kd.pr Kd.bool (@Kd.pr (@Kd.sl Kd.str) (@Kd.sl kI))))))) s0 (@Int.toNat s3) (@Kd.zero (@Kd.pr kI (@Kd.pr kI (@Kd.pr Kd.str (@Kd.pr Kd.bool (@Kd.pr (@Kd.sl Kd.str) (@Kd.sl kI)))))))).2.2.1 (@List.getD (@Kd.T (@Kd.pr kI (@Kd.pr kI (@Kd.pr Kd.str (@Kd.pr Kd.bool (@Kd.pr (@Kd.sl Kd.str) (@Kd.sl kI))))))) s0 (@Int.toNat s3) (@Kd.zero (@Kd.pr kI (@Kd.pr kI (@Kd.pr Kd.str (@Kd.pr Kd.bool (@Kd.pr (@Kd.sl Kd.str) (@Kd.sl kI)))))))).2.2.2.1 (@List.getD (@Kd.T (@Kd.pr kI (@Kd.pr kI (@Kd.pr Kd.str (@Kd.pr Kd.bool (@Kd.pr (@Kd.sl Kd.str) (@Kd.sl kI))))))) s0 (@Int.toNat s3) (@Kd.zero (@Kd.pr kI (@Kd.pr kI (@Kd.pr Kd.str (@Kd.pr Kd.bool (@Kd.pr (@Kd.sl Kd.str) (@Kd.sl kI)))))))).2.2.2.2.1 (@List.getD (@Kd.T (@Kd.pr kI (@Kd.pr kI (@Kd.pr Kd.str (@Kd.pr Kd.bool (@Kd.pr (@Kd.sl Kd.str) (@Kd.sl kI))))))) s0 (@Int.toNat s3) (@Kd.zero (@Kd.pr kI (@Kd.pr kI (@Kd.pr Kd.str (@Kd.pr Kd.bool (@Kd.pr (@Kd.sl Kd.str) (@Kd.sl kI)))))))).2.2.2.2.2 (fun y8 => (@cond (@Option R) (@Bool.not y8) (K Bool.false) (E1004 s0 s1 s2 (@Go.IntKind.wrap Go.IntKind.i64 (@HAdd.hAdd Int Int Int (@instHAdd Int @Int.instAdd) s3 (1 : Int))))))) (@Option.none R)) (@Option.none R)) (K Bool.true))
theorem wq55 (k : Nat) {R : Type} (I : Nat → St → Option R) (s0 : (List (Int × (Int × ((List UInt8) × (Bool × ((List (List UInt8)) × (List Int)))))))) (s1 : (List (Int × (Int × ((List UInt8) × (Bool × ((List (List UInt8)) × (List Int)))))))) (s2 s3 : Int) (K : (Bool → Option R)) : execK (wq1 k) k (at_ [1, 1, 0, 1, 0, 0] wq7) (wqo s0 s1 s2 s3) (konts (wq1 k) k I [1, 1, 0, 1, 0, 0] wq7 (outK (wq1 k) wql [.tmp 6] (wqf K))) = wqw k (fun s0 s1 s2 s3 => I 1004 (wqo s0 s1 s2 s3)) s0 s1 s2 s3 K := by kernel_rfl
def wq1e (k : Nat) {R : Type} (E1004 : ((List (Int × (Int × ((List UInt8) × (Bool × ((List (List UInt8)) × (List Int))))))) → (List (Int × (Int × ((List UInt8) × (Bool × ((List (List UInt8)) × (List Int))))))) → Int → Int → Option R)) (x0 : (List (Int × (Int × ((List UInt8) × (Bool × ((List (List UInt8)) × (List Int)))))))) (x1 : (List (Int × (Int × ((List UInt8) × (Bool × ((List (List UInt8)) × (List Int)))))))) (K : (Bool → Option R)) : Option R := (@cond (@Option R) (@bne Int (@instBEqOfDecidableEq Int @Int.instDecidableEq) (@Nat.cast Int instNatCastInt (@List.length (@Kd.T (@Kd.pr kI (@Kd.pr kI (@Kd.pr Kd.str (@Kd.pr Kd.bool (@Kd.pr (@Kd.sl Kd.str) (@Kd.sl kI))))))) x0)) (@Nat.cast Int instNatCastInt (@List.length (@Kd.T (@Kd.pr kI (@Kd.pr kI (@Kd.pr Kd.str (@Kd.pr Kd.bool (@Kd.pr (@Kd.sl Kd.str) (@Kd.sl kI))))))) x1))) (K Bool.false) (E1004 x1 x0 (@Nat.cast Int instNatCastInt (@List.length (@Kd.T (@Kd.pr kI (@Kd.pr kI (@Kd.pr Kd.str (@Kd.pr Kd.bool (@Kd.pr (@Kd.sl Kd.str) (@Kd.sl kI))))))) x0)) (0 : Int)))
theorem wq5z (k : Nat) {R : Type} (I : Nat → St → Option R) (x0 : (List (Int × (Int × ((List UInt8) × (Bool × ((List (List UInt8)) × (List Int)))))))) (x1 : (List (Int × (Int × ((List UInt8) × (Bool × ((List (List UInt8)) × (List Int)))))))) (K : (Bool → Option R)) : fnK (wq1 k) k wq7 32 [.tmp 6] wql [.v (.sl (.pr (.int .i64) (.pr (.int .i64) (.pr .str (.pr .bool (.pr (.sl .str) (.sl (.int .i64)))))))) x0, .v (.sl (.pr (.int .i64) (.pr (.int .i64) (.pr .str (.pr .bool (.pr (.sl .str) (.sl (.int .i64)))))))) x1, .clo 21 []] [] (wqf K) = wq1e k (fun s0 s1 s2 s3 => iter (wq1 k).pv (look (wq1 k).cuts 1004) (execK (wq1 k) k (at_ [1, 1, 0, 1, 0, 0] wq7)) k (wqo s0 s1 s2 s3) (konts (wq1 k) k I [1, 1, 0, 1, 0] wq7 (outK (wq1 k) wql [.tmp 6] (wqf K)))) x0 x1 K := by kernel_rfl
def wqc (k : Nat) {R : Type}  : Nat → (List (Int × (Int × ((List UInt8) × (Bool × ((List (List UInt8)) × (List Int))))))) → (List (Int × (Int × ((List UInt8) × (Bool × ((List (List UInt8)) × (List Int))))))) → Int → Int → (Bool → Option R) → Option R
  | 0, _, _, _, _, _ => none
  | n + 1, s0, s1, s2, s3, K => wqw k (fun s0 s1 s2 s3 => wqc k  n s0 s1 s2 s3 K) s0 s1 s2 s3 K
theorem wq56 (k : Nat) {R : Type} (I : Nat → St → Option R) (K : (Bool → Option R)) : ∀ (n : Nat) (s0 : (List (Int × (Int × ((List UInt8) × (Bool × ((List (List UInt8)) × (List Int)))))))) (s1 : (List (Int × (Int × ((List UInt8) × (Bool × ((List (List UInt8)) × (List Int)))))))) (s2 s3 : Int), iter (wq1 k).pv (look (wq1 k).cuts 1004) (execK (wq1 k) k (at_ [1, 1, 0, 1, 0, 0] wq7)) n (wqo s0 s1 s2 s3) (konts (wq1 k) k I [1, 1, 0, 1, 0] wq7 (outK (wq1 k) wql [.tmp 6] (wqf K))) = wqc k  n s0 s1 s2 s3 K := by
  intro n
  induction n with
  | zero => intros; rfl
  | succ n ih =>
    intro s0 s1 s2 s3
    let I' : Nat → St → Option R := fun id s => bif Nat.beq id 1004 then iter (wq1 k).pv (look (wq1 k).cuts 1004) (execK (wq1 k) k (at_ [1, 1, 0, 1, 0, 0] wq7)) n s (konts (wq1 k) k I [1, 1, 0, 1, 0] wq7 (outK (wq1 k) wql [.tmp 6] (wqf K))) else I id s
    have e := wq55 k I' s0 s1 s2 s3 K
    have h1004 : (fun s0 s1 s2 s3 => I' 1004 (wqo s0 s1 s2 s3)) = (fun s0 s1 s2 s3 => wqc k  n s0 s1 s2 s3 K) := by funext s0 s1 s2 s3; exact ih s0 s1 s2 s3
    refine Eq.trans (?_ : _ = _) (e.trans (Eq.trans ((congrArg ((fun E1004 => wqw k E1004 s0 s1 s2 s3 K)) h1004)) (by rw [wqc])))
    rfl
def wq1f (k : Nat) {R : Type} (x0 : (List (Int × (Int × ((List UInt8) × (Bool × ((List (List UInt8)) × (List Int)))))))) (x1 : (List (Int × (Int × ((List UInt8) × (Bool × ((List (List UInt8)) × (List Int)))))))) (K : (Bool → Option R)) : Option R := wq1e k (fun s0 s1 s2 s3 => wqc k k s0 s1 s2 s3 K) x0 x1 K
theorem wq60 (k : Nat) {R : Type} (x0 : (List (Int × (Int × ((List UInt8) × (Bool × ((List (List UInt8)) × (List Int)))))))) (x1 : (List (Int × (Int × ((List UInt8) × (Bool × ((List (List UInt8)) × (List Int)))))))) (K : (Bool → Option R)) : fnK (wq1 k) k wq7 32 [.tmp 6] wql [.v (.sl (.pr (.int .i64) (.pr (.int .i64) (.pr .str (.pr .bool (.pr (.sl .str) (.sl (.int .i64)))))))) x0, .v (.sl (.pr (.int .i64) (.pr (.int .i64) (.pr .str (.pr .bool (.pr (.sl .str) (.sl (.int .i64)))))))) x1, .clo 21 []] [] (wqf K) = wq1f k x0 x1 K := by
  let I : Nat → St → Option R := fun _ _ => none
  have h1004 : (fun s0 s1 s2 s3 => iter (wq1 k).pv (look (wq1 k).cuts 1004) (execK (wq1 k) k (at_ [1, 1, 0, 1, 0, 0] wq7)) k (wqo s0 s1 s2 s3) (konts (wq1 k) k I [1, 1, 0, 1, 0] wq7 (outK (wq1 k) wql [.tmp 6] (wqf K)))) = (fun s0 s1 s2 s3 => wqc k k s0 s1 s2 s3 K) := by funext s0 s1 s2 s3; exact wq56 k I K k s0 s1 s2 s3
  exact (wq5z k I x0 x1 K).trans (congrArg ((fun E1004 => wq1e k E1004 x0 x1 K)) h1004)
def wq1z (k : Nat) {R : Type} : List PV → List (Nm × HObj) → (Out → Option R) → Option R
  | [.v (.sl (.pr (.int .i64) (.pr (.int .i64) (.pr .str (.pr .bool (.pr (.sl .str) (.sl (.int .i64)))))))) x0, .v (.sl (.pr (.int .i64) (.pr (.int .i64) (.pr .str (.pr .bool (.pr (.sl .str) (.sl (.int .i64)))))))) x1, .clo 21 []], [], K => wq1f k x0 x1 (fun y0 => K (.ret [.v .bool y0] []))
  | _, _, _ => none
theorem wq61 (k : Nat) : (wq3b k).Ok Tryd.prog := (CTab.add_ok (fun h => wqux k h) CTab.nil_ok)
theorem wq6i (k : Nat) {ps : List PV} {hp : List (Nm × HObj)} {R : Type} {K : Out → Option R} {r : R} (h : wq1z k ps hp K = some r) : DoesTo Tryd.prog 20 ps hp fun out => K out = some r := by
  unfold wq1z at h
  split at h
  · rw [← wq60] at h
    have := fn_ok (P := Tryd.prog) (cx := wq1 k) (f := 20) ⟨tyT_ok, wq61 k, fun _ _ => rfl⟩ (by kernel_rfl) (fn := Tryd.f20) (c := wq7) (by kernel_rfl) (by kernel_rfl) (by kernel_rfl) (rs := [.tmp 6]) (by kernel_rfl) (by kernel_rfl) h
    exact this.mono fun out ho => by
      unfold wqf at ho
      split at ho <;> first | exact ho | cases ho
  · cases h
def wq17k : List LS := [.ag [.sl (.pr (.int .i64) (.pr (.int .i64) (.pr .str (.pr .bool (.pr (.sl .str) (.sl (.int .i64)))))))], .ag [.sl (.pr (.int .i64) (.pr (.int .i64) (.pr .str (.pr .bool (.pr (.sl .str) (.sl (.int .i64)))))))]]
def wq13d (k : Nat) : CTab := (CTab.add 20 wq64 (wq1z k) (CTab.add 21 wqp1 (wqeo k) CTab.nil))
def wqko {R : Type} (K : (Bool → Option R)) : Out → Option R
  | .ret [.v .bool y0] [] => K y0
  | _ => none
def wqyo : RetSpec := ⟨[.any], [], []⟩
def wq14u : List (Nat × CutSpec) := []
def wq11e : List (Nat × Plan) := []
def wqqi (k : Nat) : Ctx := ⟨tyT, wq14u, wq13d k, [], [], wq11e, @SH⟩
def wqkp : Code := Tryd.f12.body.getD .skip
def wqu1 (k : Nat) {R : Type}  (x0 : (List (Int × (Int × ((List UInt8) × (Bool × ((List (List UInt8)) × (List Int)))))))) (x1 : (List (Int × (Int × ((List UInt8) × (Bool × ((List (List UInt8)) × (List Int)))))))) (K : (Bool → Option R)) : Option R := (@wq1f k R x0 x1 (fun y5 => (K y5)))
theorem wq14v (k : Nat) {R : Type} (I : Nat → St → Option R) (x0 : (List (Int × (Int × ((List UInt8) × (Bool × ((List (List UInt8)) × (List Int)))))))) (x1 : (List (Int × (Int × ((List UInt8) × (Bool × ((List (List UInt8)) × (List Int)))))))) (K : (Bool → Option R)) : fnK (wqqi k) k wqkp 10 [.tmp 4] wqyo [.agg [.v (.sl (.pr (.int .i64) (.pr (.int .i64) (.pr .str (.pr .bool (.pr (.sl .str) (.sl (.int .i64)))))))) x0], .agg [.v (.sl (.pr (.int .i64) (.pr (.int .i64) (.pr .str (.pr .bool (.pr (.sl .str) (.sl (.int .i64)))))))) x1]] [] (wqko K) = wqu1 k  x0 x1 K := by kernel_rfl
def wqg4 (k : Nat) {R : Type} (x0 : (List (Int × (Int × ((List UInt8) × (Bool × ((List (List UInt8)) × (List Int)))))))) (x1 : (List (Int × (Int × ((List UInt8) × (Bool × ((List (List UInt8)) × (List Int)))))))) (K : (Bool → Option R)) : Option R := wqu1 k  x0 x1 K
theorem wq14w (k : Nat) {R : Type} (x0 : (List (Int × (Int × ((List UInt8) × (Bool × ((List (List UInt8)) × (List Int)))))))) (x1 : (List (Int × (Int × ((List UInt8) × (Bool × ((List (List UInt8)) × (List Int)))))))) (K : (Bool → Option R)) : fnK (wqqi k) k wqkp 10 [.tmp 4] wqyo [.agg [.v (.sl (.pr (.int .i64) (.pr (.int .i64) (.pr .str (.pr .bool (.pr (.sl .str) (.sl (.int .i64)))))))) x0], .agg [.v (.sl (.pr (.int .i64) (.pr (.int .i64) (.pr .str (.pr .bool (.pr (.sl .str) (.sl (.int .i64)))))))) x1]] [] (wqko K) = wqg4 k x0 x1 K := by
  exact wq14v k (fun _ _ => none) x0 x1 K
def wqmt (k : Nat) {R : Type} : List PV → List (Nm × HObj) → (Out → Option R) → Option R
  | [.agg [.v (.sl (.pr (.int .i64) (.pr (.int .i64) (.pr .str (.pr .bool (.pr (.sl .str) (.sl (.int .i64)))))))) x0], .agg [.v (.sl (.pr (.int .i64) (.pr (.int .i64) (.pr .str (.pr .bool (.pr (.sl .str) (.sl (.int .i64)))))))) x1]], [], K => wqg4 k x0 x1 (fun y0 => K (.ret [.v .bool y0] []))
  | _, _, _ => none
theorem wq14x (k : Nat) : (wq13d k).Ok Tryd.prog := (CTab.add_ok (fun h => wq6i k h) (CTab.add_ok (fun h => wqux k h) CTab.nil_ok))
theorem wq1c1 (k : Nat) {ps : List PV} {hp : List (Nm × HObj)} {R : Type} {K : Out → Option R} {r : R} (h : wqmt k ps hp K = some r) : DoesTo Tryd.prog 12 ps hp fun out => K out = some r := by
  unfold wqmt at h
  split at h
  · rw [← wq14w] at h
    have := fn_ok (P := Tryd.prog) (cx := wqqi k) (f := 12) ⟨tyT_ok, wq14x k, fun _ _ => rfl⟩ (by kernel_rfl) (fn := Tryd.f12) (c := wqkp) (by kernel_rfl) (by kernel_rfl) (by kernel_rfl) (rs := [.tmp 4]) (by kernel_rfl) (by kernel_rfl) h
    exact this.mono fun out ho => by
      unfold wqko at ho
      split at ho <;> first | exact ho | cases ho
  · cases h
def wqex : List LS := [.obj 1 [.nps 1 0, .own 21 5 (.int .u8)], .any]
def wqai (k : Nat) : CTab := (CTab.add 33 wqah (wq53 k) CTab.nil)
def wq65 {R : Type} (K : ((List Int) → Int → Option R)) : Out → Option R
  | .ret [.v (.int .i64) y1, .nilif] [(21, .row 5 (.int .u8) y0), (1, .var 42 [.nps 1 0, .row 21])] => K y0 y1
  | _ => none
def wqa4 : RetSpec := ⟨[.any, .any], [(1, .obj 1 [.nps 1 0, .own 21 5 (.int .u8)])], []⟩
def wqe3 : List (Nat × CutSpec) := []
def wqdk : List (Nat × Plan) := []
def wq73 (k : Nat) : Ctx := ⟨tyT, wqe3, wqai k, [], [1], wqdk, @SH⟩
def wq66 : Code := Tryd.f25.body.getD .skip
def wq7a (k : Nat) {R : Type}  (x0 : (List Int)) (x1 : (List UInt8)) (K : ((List Int) → Int → Option R)) : Option R := (@wq4h k R x0 (fun y5 => (@cond (@Option R) (@fits (@List.length (@Kd.T (@Kd.int Go.IntKind.u8)) y5) (@List.length (@Kd.T (@Kd.int Go.IntKind.u8)) (@wqs x1)) (1 : Nat)) (K (@HAppend.hAppend (@Kd.T (@Kd.sl (@Kd.int Go.IntKind.u8))) (@List (@Kd.T (@Kd.int Go.IntKind.u8))) (@Kd.T (@Kd.sl (@Kd.int Go.IntKind.u8))) (@instHAppendOfAppend (@Kd.T (@Kd.sl (@Kd.int Go.IntKind.u8))) (@List.instAppend (@Kd.T (@Kd.int Go.IntKind.u8)))) y5 (@wqs x1)) (@Nat.cast Int instNatCastInt (@List.length UInt8 x1))) (@Option.none R))))
theorem wqe4 (k : Nat) {R : Type} (I : Nat → St → Option R) (x0 : (List Int)) (x1 : (List UInt8)) (K : ((List Int) → Int → Option R)) : fnK (wq73 k) k wq66 19 [.tmp 4, .tmp 5] wqa4 [.ptr 1 0, .v .str x1] [(21, .row 5 (.int .u8) x0), (1, .var 42 [.nps 1 0, .row 21])] (wq65 K) = wq7a k  x0 x1 K := by kernel_rfl
def wq1n (k : Nat) {R : Type} (x0 : (List Int)) (x1 : (List UInt8)) (K : ((List Int) → Int → Option R)) : Option R := wq7a k  x0 x1 K
theorem wqe5 (k : Nat) {R : Type} (x0 : (List Int)) (x1 : (List UInt8)) (K : ((List Int) → Int → Option R)) : fnK (wq73 k) k wq66 19 [.tmp 4, .tmp 5] wqa4 [.ptr 1 0, .v .str x1] [(21, .row 5 (.int .u8) x0), (1, .var 42 [.nps 1 0, .row 21])] (wq65 K) = wq1n k x0 x1 K := by
  exact wqe4 k (fun _ _ => none) x0 x1 K
def wq6j (k : Nat) {R : Type} : List PV → List (Nm × HObj) → (Out → Option R) → Option R
  | [.ptr 1 0, .v .str x1], [(21, .row 5 (.int .u8) x0), (1, .var 42 [.nps 1 0, .row 21])], K => wq1n k x0 x1 (fun y0 y1 => K (.ret [.v (.int .i64) y1, .nilif] [(21, .row 5 (.int .u8) y0), (1, .var 42 [.nps 1 0, .row 21])]))
  | _, _, _ => none
theorem wqe6 (k : Nat) : (wqai k).Ok Tryd.prog := (CTab.add_ok (fun h => wqbc k h) CTab.nil_ok)
theorem wqft (k : Nat) {ps : List PV} {hp : List (Nm × HObj)} {R : Type} {K : Out → Option R} {r : R} (h : wq6j k ps hp K = some r) : DoesTo Tryd.prog 25 ps hp fun out => K out = some r := by
  unfold wq6j at h
  split at h
  · rw [← wqe5] at h
    have := fn_ok (P := Tryd.prog) (cx := wq73 k) (f := 25) ⟨tyT_ok, wqe6 k, fun _ _ => rfl⟩ (by kernel_rfl) (fn := Tryd.f25) (c := wq66) (by kernel_rfl) (by kernel_rfl) (by kernel_rfl) (rs := [.tmp 4, .tmp 5]) (by kernel_rfl) (by kernel_rfl) h
    exact this.mono fun out ho => by
      unfold wq65 at ho
      split at ho <;> first | exact ho | cases ho
  · cases h
def wq14y : List LS := [.any]
def wqyp (k : Nat) : CTab := (CTab.add 16 wq8s (wq4p k) (CTab.add 25 wqex (wq6j k) (CTab.add 32 wq77 (wq3w k) CTab.nil)))
def wq7h {R : Type} (K : ((List UInt8) → Option R)) : Out → Option R
  | .ret [.v .str y0] [] => K y0
  | _ => none
def wqay : RetSpec := ⟨[.any], [], []⟩
def wq11f : List (Nat × CutSpec) := [(1004, ⟨[(0, .any), (3, .obj 13 [.nps 13 0, .own 33 5 (.int .u8)]), (8, .any), (9, .any)], []⟩)]
def wqyq : List (Nat × Plan) := [(15, (.of [(0, 1), (1, 1), (2, 1), (3, 1), (4, 1), (5, 1), (6, 1), (7, 1), (8, 1), (9, 1), (10, 1), (11, 1), (12, 1), (13, 1), (14, 0)] .done))]
def wq1r (k : Nat) : Ctx := ⟨tyT, wq11f, wqyp k, [], [], wqyq, @SH⟩
def wq3n : Code := Tryd.f24.body.getD .skip
def wq7p (s0 : (List UInt8)) (s1 : (List Int)) (s2 s3 : Int) : St := ⟨mkT [(0, .v .str s0), (3, .ptr 13 0), (8, .v (.int .i64) s2), (9, .v (.int .i64) s3)], mkH [(33, .row 5 (.int .u8) s1), (13, .var 42 [.nps 13 0, .row 33])]⟩
def wqa5 (k : Nat) {R : Type} (E1004 : ((List UInt8) → (List Int) → Int → Int → Option R)) (s0 : (List UInt8)) (s1 : (List Int)) (s2 s3 : Int) (K : ((List UInt8) → Option R)) : Option R := (@cond (@Option R) (@Decidable.decide (@LT.lt Int Int.instLTInt s3 s2) (@Int.decLt s3 s2)) (@cond (@Option R) (@inb s3 (@Nat.cast Int instNatCastInt (@List.length UInt8 s0))) (@cond (@Option R) (@cond (@Kd.T Kd.bool) (@BEq.beq Int (@instBEqOfDecidableEq Int @Int.instDecidableEq) (@Nat.cast Int instNatCastInt (@UInt8.toNat (@List.getD UInt8 s0 (@Int.toNat s3) (0 : UInt8)))) (92 : Int)) Bool.true (@BEq.beq Int (@instBEqOfDecidableEq Int @Int.instDecidableEq) (@Nat.cast Int instNatCastInt (@UInt8.toNat (@List.getD UInt8 s0 (@Int.toNat s3) (0 : UInt8)))) (34 : Int))) (@cond (@Option R) (@joins ((92 : UInt8) :: []) (@Array.toList UInt8 (@ByteArray.data (@Go.Utf8.encode (@Go.IntKind.wrap Go.IntKind.i32 (@Nat.cast Int instNatCastInt (@UInt8.toNat (@List.getD UInt8 s0 (@Int.toNat s3) (0 : UInt8))))))))) (@wq1n k R s1 (@HAppend.hAppend (@List UInt8) (@List UInt8) (@List UInt8) (@instHAppendOfAppend (@List UInt8) (@List.instAppend UInt8)) ((92 : UInt8) :: []) (@Array.toList UInt8 (@ByteArray.data (@Go.Utf8.encode (@Go.IntKind.wrap Go.IntKind.i32 (@Nat.cast Int instNatCastInt (@UInt8.toNat (@List.getD UInt8 s0 (@Int.toNat s3) (0 : UInt8))))))))) (fun y8 y9 => (E1004 s0 y8 s2 (@Go.IntKind.wrap Go.IntKind.i64 (@HAdd.hAdd Int Int Int (@instHAdd Int @Int.instAdd) s3 (1 : Int)))))) (@Option.none R)) (@cond (@Option R) (@BEq.beq Int (@instBEqOfDecidableEq Int @Int.instDecidableEq) (@Nat.cast Int instNatCastInt (@UInt8.toNat (@List.getD UInt8 s0 (@Int.toNat s3) (0 : UInt8)))) (10 : Int)) (@wq1n k R s1 ((92 : UInt8) :: ((110 : UInt8) :: [])) (fun y8 y9 => (E1004 s0 y8 s2 (@Go.IntKind.wrap Go.IntKind.i64 (@HAdd.hAdd Int Int Int (@instHAdd Int @Int.instAdd) s3 (1 : Int)))))) (@cond (@Option R) (@BEq.beq Int (@instBEqOfDecidableEq Int @Int.instDecidableEq) (@Nat.cast Int instNatCastInt (@UInt8.toNat (@List.getD UInt8 s0 (@Int.toNat s3) (0 : UInt8)))) (9 : Int)) (@wq1n k R s1 ((92 : UInt8) :: ((116 : UInt8) :: [])) (fun y8 y9 => (E1004 s0 y8 s2 (@Go.IntKind.wrap Go.IntKind.i64 (@HAdd.hAdd Int Int Int (@instHAdd Int @Int.instAdd) s3 (1 : Int)))))) (@cond (@Option R) (@cond (@Kd.T Kd.bool) (@Decidable.decide (@LT.lt Int Int.instLTInt (@Nat.cast Int instNatCastInt (@UInt8.toNat (@List.getD UInt8 s0 (@Int.toNat s3) (0 : UInt8)))) (32 : Int)) (@Int.decLt (@Nat.cast Int instNatCastInt (@UInt8.toNat (@List.getD UInt8 s0 (@Int.toNat s3) (0 : UInt8)))) (32 : Int))) Bool.true (@BEq.beq Int (@instBEqOfDecidableEq Int @Int.instDecidableEq) (@Nat.cast Int instNatCastInt (@UInt8.toNat (@List.getD UInt8 s0 (@Int.toNat s3) (0 : UInt8)))) (127 : Int))) (@cond (@Option R) (@bnd (@ishr Go.IntKind.u8 (@Nat.cast Int instNatCastInt (@UInt8.toNat (@List.getD UInt8 s0 (@Int.toNat s3) (0 : UInt8)))) (4 : Int)) (@Go.IntKind.wrap Go.IntKind.u8 (@HAdd.hAdd Int Int Int (@instHAdd Int @Int.instAdd) (@ishr Go.IntKind.u8 (@Nat.cast Int instNatCastInt (@UInt8.toNat (@List.getD UInt8 s0 (@Int.toNat s3) (0 : UInt8)))) (4 : Int)) (1 : Int))) (@Nat.cast Int instNatCastInt (@List.length UInt8 ((48 : UInt8) :: ((49 : UInt8) :: ((50 : UInt8) :: ((51 : UInt8) :: ((52 : UInt8) :: ((53 : UInt8) :: ((54 : UInt8) :: ((55 : UInt8) :: ((56 : UInt8) :: ((57 : UInt8) :: ((97 : UInt8) :: ((98 : UInt8) :: ((99 : UInt8) :: ((100 : UInt8) :: ((101 : UInt8) :: ((102 : UInt8) :: []))))))))))))))))))) (@cond (@Option R) (@joins ((92 : UInt8) :: ((120 : UInt8) :: [])) (@cut UInt8 ((48 : UInt8) :: ((49 : UInt8) :: ((50 : UInt8) :: ((51 : UInt8) :: ((52 : UInt8) :: ((53 : UInt8) :: ((54 : UInt8) :: ((55 : UInt8) :: ((56 : UInt8) :: ((57 : UInt8) :: ((97 : UInt8) :: ((98 : UInt8) :: ((99 : UInt8) :: ((100 : UInt8) :: ((101 : UInt8) :: ((102 : UInt8) :: [])))))))))))))))) (@ishr Go.IntKind.u8 (@Nat.cast Int instNatCastInt (@UInt8.toNat (@List.getD UInt8 s0 (@Int.toNat s3) (0 : UInt8)))) (4 : Int)) (@Go.IntKind.wrap Go.IntKind.u8 (@HAdd.hAdd Int Int Int (@instHAdd Int @Int.instAdd) (@ishr Go.IntKind.u8 (@Nat.cast Int instNatCastInt (@UInt8.toNat (@List.getD UInt8 s0 (@Int.toNat s3) (0 : UInt8)))) (4 : Int)) (1 : Int))))) (@cond (@Option R) (@bnd (@ibits @Go.BinOp.and Go.IntKind.u8 (@Nat.cast Int instNatCastInt (@UInt8.toNat (@List.getD UInt8 s0 (@Int.toNat s3) (0 : UInt8)))) (15 : Int)) (@Go.IntKind.wrap Go.IntKind.u8 (@HAdd.hAdd Int Int Int (@instHAdd Int @Int.instAdd) (@ibits @Go.BinOp.and Go.IntKind.u8 (@Nat.cast Int instNatCastInt (@UInt8.toNat (@List.getD UInt8 s0 (@Int.toNat s3) (0 : UInt8)))) (15 : Int)) (1 : Int))) (@Nat.cast Int instNatCastInt (@List.length UInt8 ((48 : UInt8) :: ((49 : UInt8) :: ((50 : UInt8) :: ((51 : UInt8) :: ((52 : UInt8) :: ((53 : UInt8) :: ((54 : UInt8) :: ((55 : UInt8) :: ((56 : UInt8) :: ((57 : UInt8) :: ((97 : UInt8) :: ((98 : UInt8) :: ((99 : UInt8) :: ((100 : UInt8) :: ((101 : UInt8) :: ((102 : UInt8) :: []))))))))))))))))))) (@cond (@Option R) (@joins (@HAppend.hAppend (@List UInt8) (@List UInt8) (@List UInt8) (@instHAppendOfAppend (@List UInt8) (@List.instAppend UInt8)) ((92 : UInt8) :: ((120 : UInt8) :: [])) (@cut UInt8 ((48 : UInt8) :: ((49 : UInt8) :: ((50 : UInt8) :: ((51 : UInt8) :: ((52 : UInt8) :: ((53 : UInt8) :: ((54 : UInt8) :: ((55 : UInt8) :: ((56 : UInt8) :: ((57 : UInt8) :: ((97 : UInt8) :: ((98 : UInt8) :: ((99 : UInt8) :: ((100 : UInt8) :: ((101 : UInt8) :: ((102 : UInt8) :: [])))))))))))))))) (@ishr Go.IntKind.u8 (@Nat.cast Int instNatCastInt (@UInt8.toNat (@List.getD UInt8 s0 (@Int.toNat s3) (0 : UInt8)))) (4 : Int)) (@Go.IntKind.wrap Go.IntKind.u8 (@HAdd.hAdd Int Int Int (@instHAdd Int @Int.instAdd) (@ishr Go.IntKind.u8 (@Nat.cast Int instNatCastInt (@UInt8.toNat (@List.getD UInt8 s0 (@Int.toNat s3) (0 : UInt8)))) (4 : Int)) (1 : Int))))) (@cut UInt8 ((48 : UInt8) :: ((49 : UInt8) :: ((50 : UInt8) :: ((51 : UInt8) :: ((52 : UInt8) :: ((53 : UInt8) :: ((54 : UInt8) :: ((55 : UInt8) :: ((56 : UInt8) :: ((57 : UInt8) :: ((97 : UInt8) :: ((98 : UInt8) :: ((99 : UInt8) :: ((100 : UInt8) :: ((101 : UInt8) :: ((102 : UInt8) :: [])))))))))))))))) (@ibits @Go.BinOp.and Go.IntKind.u8 (@Nat.cast Int instNatCastInt (@UInt8.toNat (@List.getD UInt8 s0 (@Int.toNat s3) (0 : UInt8)))) (15 : Int)) (@Go.IntKind.wrap Go.IntKind.u8 (@HAdd.hAdd Int Int Int (@instHAdd Int @Int.instAdd) (@ibits @Go.BinOp.and Go.IntKind.u8 (@Nat.cast Int instNatCastInt (@UInt8.toNat (@List.getD UInt8 s0 (@Int.toNat s3) (0 : UInt8)))) (15 : Int)) (1 : Int))))) (@wq1n k R s1 (@HAppend.hAppend (@List UInt8) (@List UInt8) (@List UInt8) (@instHAppendOfAppend (@List UInt8) (@List.instAppend UInt8)) (@HAppend.hAppend (@List UInt8) (@List UInt8) (@List UInt8) (@instHAppendOfAppend (@List UInt8) (@List.instAppend UInt8)) ((92 : UInt8) :: ((120 : UInt8) :: [])) (@cut UInt8 ((48 : UInt8) :: ((49 : UInt8) :: ((50 : UInt8) :: ((51 : UInt8) :: ((52 : UInt8) :: ((53 : UInt8) :: ((54 : UInt8) :: ((55 : UInt8) :: ((56 : UInt8) :: ((57 : UInt8) :: ((97 : UInt8) :: ((98 : UInt8) :: ((99 : UInt8) :: ((100 : UInt8) :: ((101 : UInt8) :: ((102 : UInt8) :: [])))))))))))))))) (@ishr Go.IntKind.u8 (@Nat.cast Int instNatCastInt (@UInt8.toNat (@List.getD UInt8 s0 (@Int.toNat s3) (0 : UInt8)))) (4 : Int)) (@Go.IntKind.wrap Go.IntKind.u8 (@HAdd.hAdd Int Int Int (@instHAdd Int @Int.instAdd) (@ishr Go.IntKind.u8 (@Nat.cast Int instNatCastInt (@UInt8.toNat (@List.getD UInt8 s0 (@Int.toNat s3) (0 : UInt8)))) (4 : Int)) (1 : Int))))) (@cut UInt8 ((48 : UInt8) :: ((49 : UInt8) :: ((50 : UInt8) :: ((51 : UInt8) :: ((52 : UInt8) :: ((53 : UInt8) :: ((54 : UInt8) :: ((55 : UInt8) :: ((56 : UInt8) :: ((57 : UInt8) :: ((97 : UInt8) :: ((98 : UInt8) :: ((99 : UInt8) :: ((100 : UInt8) :: ((101 : UInt8) :: ((102 : UInt8) :: [])))))))))))))))) (@ibits @Go.BinOp.and Go.IntKind.u8 (@Nat.cast Int instNatCastInt (@UInt8.toNat (@List.getD UInt8 s0 (@Int.toNat s3) (0 : UInt8)))) (15 : Int)) (@Go.IntKind.wrap Go.IntKind.u8 (@HAdd.hAdd Int Int Int (@instHAdd Int @Int.instAdd) (@ibits @Go.BinOp.and Go.IntKind.u8 (@Nat.cast Int instNatCastInt (@UInt8.toNat (@List.getD UInt8 s0 (@Int.toNat s3) (0 : UInt8)))) (15 : Int)) (1 : Int))))) (fun y8 y9 => (E1004 s0 y8 s2 (@Go.IntKind.wrap Go.IntKind.i64 (@HAdd.hAdd Int Int Int (@instHAdd Int @Int.instAdd) s3 (1 : Int)))))) (@Option.none R)) (@Option.none R)) (@Option.none R)) (@Option.none R)) (@wq1b k R s1 (@Nat.cast Int instNatCastInt (@UInt8.toNat (@List.getD UInt8 s0 (@Int.toNat s3) (0 : UInt8)))) (fun y8 => (E1004 s0 y8 s2 (@Go.IntKind.wrap Go.IntKind.i64 (@HAdd.hAdd Int Int Int (@instHAdd Int @Int.instAdd) s3 (1 : Int)))))))))) (@Option.none R)) (@wq1b k R s1 (34 : Int) (fun y8 => (@wq3d k R y8 (fun y9 y10 => (K y10))))))
theorem wqqj (k : Nat) {R : Type} (I : Nat → St → Option R) (s0 : (List UInt8)) (s1 : (List Int)) (s2 s3 : Int) (K : ((List UInt8) → Option R)) : execK (wq1r k) k (at_ [1, 1, 1, 0, 1, 0, 0] wq3n) (wq7p s0 s1 s2 s3) (konts (wq1r k) k I [1, 1, 1, 0, 1, 0, 0] wq3n (outK (wq1r k) wqay [.tmp 2] (wq7h K))) = wqa5 k (fun s0 s1 s2 s3 => I 1004 (wq7p s0 s1 s2 s3)) s0 s1 s2 s3 K := by kernel_rfl
def wqkq (k : Nat) {R : Type} (E1004 : ((List UInt8) → (List Int) → Int → Int → Option R)) (x0 : (List UInt8)) (K : ((List UInt8) → Option R)) : Option R := (@wq1b k R [] (34 : Int) (fun y5 => (E1004 x0 y5 (@Nat.cast Int instNatCastInt (@List.length UInt8 x0)) (0 : Int))))
theorem wq11g (k : Nat) {R : Type} (I : Nat → St → Option R) (x0 : (List UInt8)) (K : ((List UInt8) → Option R)) : fnK (wq1r k) k wq3n 62 [.tmp 2] wqay [.v .str x0] [] (wq7h K) = wqkq k (fun s0 s1 s2 s3 => iter (wq1r k).pv (look (wq1r k).cuts 1004) (execK (wq1r k) k (at_ [1, 1, 1, 0, 1, 0, 0] wq3n)) k (wq7p s0 s1 s2 s3) (konts (wq1r k) k I [1, 1, 1, 0, 1, 0] wq3n (outK (wq1r k) wqay [.tmp 2] (wq7h K)))) x0 K := by kernel_rfl
def wq42 (k : Nat) {R : Type}  : Nat → (List UInt8) → (List Int) → Int → Int → ((List UInt8) → Option R) → Option R
  | 0, _, _, _, _, _ => none
  | n + 1, s0, s1, s2, s3, K => wqa5 k (fun s0 s1 s2 s3 => wq42 k  n s0 s1 s2 s3 K) s0 s1 s2 s3 K
theorem wqqk (k : Nat) {R : Type} (I : Nat → St → Option R) (K : ((List UInt8) → Option R)) : ∀ (n : Nat) (s0 : (List UInt8)) (s1 : (List Int)) (s2 s3 : Int), iter (wq1r k).pv (look (wq1r k).cuts 1004) (execK (wq1r k) k (at_ [1, 1, 1, 0, 1, 0, 0] wq3n)) n (wq7p s0 s1 s2 s3) (konts (wq1r k) k I [1, 1, 1, 0, 1, 0] wq3n (outK (wq1r k) wqay [.tmp 2] (wq7h K))) = wq42 k  n s0 s1 s2 s3 K := by
  intro n
  induction n with
  | zero => intros; rfl
  | succ n ih =>
    intro s0 s1 s2 s3
    let I' : Nat → St → Option R := fun id s => bif Nat.beq id 1004 then iter (wq1r k).pv (look (wq1r k).cuts 1004) (execK (wq1r k) k (at_ [1, 1, 1, 0, 1, 0, 0] wq3n)) n s (konts (wq1r k) k I [1, 1, 1, 0, 1, 0] wq3n (outK (wq1r k) wqay [.tmp 2] (wq7h K))) else I id s
    have e := wqqj k I' s0 s1 s2 s3 K
    have h1004 : (fun s0 s1 s2 s3 => I' 1004 (wq7p s0 s1 s2 s3)) = (fun s0 s1 s2 s3 => wq42 k  n s0 s1 s2 s3 K) := by funext s0 s1 s2 s3; exact ih s0 s1 s2 s3
    refine Eq.trans (?_ : _ = _) (e.trans (Eq.trans ((congrArg ((fun E1004 => wqa5 k E1004 s0 s1 s2 s3 K)) h1004)) (by rw [wq42])))
    rfl
def wqgq (k : Nat) {R : Type} (x0 : (List UInt8)) (K : ((List UInt8) → Option R)) : Option R := wqkq k (fun s0 s1 s2 s3 => wq42 k k s0 s1 s2 s3 K) x0 K
theorem wq11h (k : Nat) {R : Type} (x0 : (List UInt8)) (K : ((List UInt8) → Option R)) : fnK (wq1r k) k wq3n 62 [.tmp 2] wqay [.v .str x0] [] (wq7h K) = wqgq k x0 K := by
  let I : Nat → St → Option R := fun _ _ => none
  have h1004 : (fun s0 s1 s2 s3 => iter (wq1r k).pv (look (wq1r k).cuts 1004) (execK (wq1r k) k (at_ [1, 1, 1, 0, 1, 0, 0] wq3n)) k (wq7p s0 s1 s2 s3) (konts (wq1r k) k I [1, 1, 1, 0, 1, 0] wq3n (outK (wq1r k) wqay [.tmp 2] (wq7h K)))) = (fun s0 s1 s2 s3 => wq42 k k s0 s1 s2 s3 K) := by funext s0 s1 s2 s3; exact wqqk k I K k s0 s1 s2 s3
  exact (wq11g k I x0 K).trans (congrArg ((fun E1004 => wqkq k E1004 x0 K)) h1004)
def wqkr (k : Nat) {R : Type} : List PV → List (Nm × HObj) → (Out → Option R) → Option R
  | [.v .str x0], [], K => wqgq k x0 (fun y0 => K (.ret [.v .str y0] []))
  | _, _, _ => none
theorem wq11i (k : Nat) : (wqyp k).Ok Tryd.prog := (CTab.add_ok (fun h => wq9m k h) (CTab.add_ok (fun h => wqft k h) (CTab.add_ok (fun h => wq86 k h) CTab.nil_ok)))
theorem wq19w (k : Nat) {ps : List PV} {hp : List (Nm × HObj)} {R : Type} {K : Out → Option R} {r : R} (h : wqkr k ps hp K = some r) : DoesTo Tryd.prog 24 ps hp fun out => K out = some r := by
  unfold wqkr at h
  split at h
  · rw [← wq11h] at h
    have := fn_ok (P := Tryd.prog) (cx := wq1r k) (f := 24) ⟨tyT_ok, wq11i k, fun _ _ => rfl⟩ (by kernel_rfl) (fn := Tryd.f24) (c := wq3n) (by kernel_rfl) (by kernel_rfl) (by kernel_rfl) (rs := [.tmp 2]) (by kernel_rfl) (by kernel_rfl) h
    exact this.mono fun out ho => by
      unfold wq7h at ho
      split at ho <;> first | exact ho | cases ho
  · cases h
end Go.Proofs.YtdfhgimidmfgfaaDoor.Pvm
set_option maxHeartbeats 1000000
set_option maxRecDepth 100000
namespace Go.Proofs.YtdfhgimidmfgfaaDoor.Pvm
open Go Go.Proofs Go.RowKit
theorem wqvq (b : Nat) (w : World) (h0 : w.cell? ⟨b, 1, none⟩ = some (.pointer (some ⟨b, 1, none⟩))) :
    Calls Tryd.prog 33 #[.pointer (some ⟨b, 1, none⟩)] w fun e w' => e = .returned (.tuple #[]) ∧ w' = w := by
  have t76 : Tryd.prog.underlying 40 = some (.pointer 42) := by kernel_rfl
  have hs : (Tryd.prog.info? 42).isSome = true := by kernel_rfl
  obtain ⟨j, hj⟩ := Option.isSome_iff_exists.1 hs
  go_enter Tryd.func33, Tryd.ntmps33
  go_wp2
  rw [Lib.run_neq_ptr_same w _ t76 hj]
  go_wp2
  go_end0
  exact ⟨rfl, rfl⟩
theorem wqu2 (b : Nat) (w : World) (h0 : w.cell? ⟨b, 1, none⟩ = some (.pointer none)) (hsh : w.shape? b = some (44, 3)) (hfz : w.frozen? ⟨b, 1, none⟩ = false) :
    Calls Tryd.prog 33 #[.pointer (some ⟨b, 1, none⟩)] w fun e w' => e = .returned (.tuple #[]) ∧ w' = w.setCell ⟨b, 1, none⟩ (.pointer (some ⟨b, 1, none⟩)) := by
  have t76 : Tryd.prog.underlying 40 = some (.pointer 42) := by kernel_rfl
  have t89 : Tryd.prog.underlying 69 = some .unsafePointer := by kernel_rfl
  have hs : (Tryd.prog.info? 42).map (·.size) = some 2 := by kernel_rfl
  obtain ⟨j, hj, hjs⟩ := Option.map_eq_some_iff.1 hs
  have hlies : liesAt Tryd.prog Tryd.prog.depth 44 (3 / Tryd.prog.cellsOf 44) 1 42 1 = true := by kernel_rfl
  go_enter Tryd.func33, Tryd.ntmps33
  go_wp2
  rw [Lib.run_to_unsafe w ⟨b, 1, none⟩ t76 t89 hj (by rw [hjs]; decide) hsh (Nat.lt_of_sub_eq_succ (rfl : 3 - 1 = 2))]
  simp only [Result.andThen]
  rw [Oper.upon_value]
  go_wp2
  rw [run_callFunc_extern Tryd.func39 (by kernel_rfl) (by kernel_rfl) (by kernel_rfl) (e := Extern.AbiNoEscape.same) (by kernel_rfl)]
  rw [Lib.run_noEscape]
  simp only [Result.andThen]
  rw [Oper.upon_value]
  go_wp2
  rw [Lib.run_from_unsafe w ⟨b, 1, none⟩ t89 t76 hj hsh hlies]
  simp only [Result.andThen]
  rw [Oper.upon_value]
  go_wp2
  go_end0
  exact ⟨rfl, rfl⟩
end Go.Proofs.YtdfhgimidmfgfaaDoor.Pvm
set_option maxRecDepth 1000000
namespace Go.Proofs.YtdfhgimidmfgfaaDoor.Pvm
open Go Go.Proofs
def wq94 : List LS := [.obj 1 [.sl (.pr (.int .i64) (.pr (.int .i64) (.pr .str (.pr .bool (.pr (.sl .str) (.sl (.int .i64))))))), .nps 1 1, .own 21 5 (.int .u8)]]
def wq3h (k : Nat) {R : Type} (d0 : (List (Int × (Int × ((List UInt8) × (Bool × ((List (List UInt8)) × (List Int)))))))) (x0 : List Int) (K : (List (Int × (Int × ((List UInt8) × (Bool × ((List (List UInt8)) × (List Int))))))) → List Int → Option R) : Option R := K d0 x0
def wq4a (k : Nat) {R : Type} : List PV → List (Nm × HObj) → (Out → Option R) → Option R
  | [.ptr 1 1], [(21, .row 5 (.int .u8) x0), (1, .var 44 [.v (.sl (.pr (.int .i64) (.pr (.int .i64) (.pr .str (.pr .bool (.pr (.sl .str) (.sl (.int .i64)))))))) d0, .nps 1 1, .row 21])], K => wq3h k d0 x0 (fun d1 y0 => K (.ret [] [(21, .row 5 (.int .u8) y0), (1, .var 44 [.v (.sl (.pr (.int .i64) (.pr (.int .i64) (.pr .str (.pr .bool (.pr (.sl .str) (.sl (.int .i64)))))))) d1, .nps 1 1, .row 21])]))
  | _, _, _ => none
theorem wqbn (vs : Array Value) (w : World) : (callFunc 33 vs).run Tryd.prog w = .ok (.enter 33 vs) w := by
  have h1 : Tryd.prog.funcs[33]? = some Tryd.f33 := by kernel_rfl
  have h2 : (Tryd.f33.name == "runtime.NumGoroutine") = false := by kernel_rfl
  have h3 : Tryd.f33.body.isNone = false := by kernel_rfl
  unfold callFunc
  rw [Sem.run_bind]
  have e2 : (program).run Tryd.prog w = .ok Tryd.prog w := rfl
  rw [e2, Result.andThen_ok, h1]
  simp only [h2, h3, Bool.false_eq_true, if_false]
  rfl
theorem wqa6 (k : Nat) {ps : List PV} {hp : List (Nm × HObj)} {R : Type} {K : Out → Option R} {r : R} (h : wq4a k ps hp K = some r) : DoesTo Tryd.prog 33 ps hp fun out => K out = some r := by
  unfold wq4a at h
  split at h
  · next x0 d0 =>
    intro G w vals hr obj dis
    obtain ⟨v0, l0, rfl, h0, rfl⟩ := hr
    obtain ⟨rfl, _⟩ := h0
    generalize hHP : [(21, HObj.row 5 (.int .u8) x0), (1, .var 44 [.v (.sl (.pr (.int .i64) (.pr (.int .i64) (.pr .str (.pr .bool (.pr (.sl .str) (.sl (.int .i64)))))))) d0, .nps 1 1, .row 21])] = HP at *
    have hK : K (.ret [] HP) = some r := by subst hHP; exact h
    have l1 : mkH HP 1 = some (.var 44 [.v (.sl (.pr (.int .i64) (.pr (.int .i64) (.pr .str (.pr .bool (.pr (.sl .str) (.sl (.int .i64)))))))) d0, .nps 1 1, .row 21]) := by subst hHP; rfl
    have hob := obj 1 _ l1
    obtain ⟨vs, hw, q0, t0, rfl, hq0, q1, t1, rfl, hq1, q2, t2, rfl, hq2, rfl⟩ := hob
    show Does _ _ #[_] _ _
    unfold Does
    rw [wqbn]
    have hcell : w.cell? ⟨G.bk 1, 1, none⟩ = some q1 := by simp [World.cell?, hw]
    have hlt : G.bk 1 < w.heap.size := (Array.getElem?_eq_some_iff.1 hw).1
    rcases hq1 with rfl | ⟨rfl, _⟩
    · refine Calls.mono (wqu2 (G.bk 1) w hcell (by simp [World.shape?, hw]) (by simp [World.frozen?, hw])) fun e w' hh => ?_
      obtain ⟨rfl, rfl⟩ := hh
      have oth : ∀ b, b ≠ G.bk 1 → (w.setCell ⟨G.bk 1, 1, none⟩ (.pointer (some ⟨G.bk 1, 1, none⟩))).heap[b]? = w.heap[b]? := fun b hb => Go.Deep.blk_setCell_other w _ _ b hb
      have bk1 : blkOf (mkH HP) G 1 = some (G.bk 1) := by simp [blkOf, l1]
      have C : Carry (mkH HP) G w (mkH HP) G (w.setCell ⟨G.bk 1, 1, none⟩ (.pointer (some ⟨G.bk 1, 1, none⟩))) .row :=
        ⟨fun b ho _ => ⟨ho, oth b fun e => ho.1 1 (by rw [bk1, e])⟩, fun n t cs hn => ⟨⟨cs, hn⟩, rfl⟩, fun n ag V es hn => ⟨⟨es, hn⟩, rfl⟩, fun n e K xs hn => ⟨⟨rfl, e, K, xs, hn⟩, fun m hm => by cases hm; exact ⟨e, xs, hn, Nat.le_refl _⟩⟩⟩
      have hq2' := RV.carry C _ _ hq2
      have hq0' := RV.carry C _ _ hq0
      refine ⟨.ret [] HP, hK, G, ⟨_, rfl, ⟨[], rfl, rfl⟩⟩, ⟨fun n o hn => ?_, dis.inj, fun n t cs hn o ho => ?_, fun n ag V es hn o ho => (wqhp (by rw [← hHP]; rfl) hn).elim, fun b hb hf => oth b fun e => hf 1 (by rw [bk1, e]), rfl, fun n b hb => .inl ⟨n, hb⟩, by simp [World.setCell], rfl, rfl, rfl⟩⟩
      · by_cases hn1 : n = 1
        · subst hn1
          rw [show mkH (Out.hs (.ret [] HP)) 1 = some (.var 44 [.v (.sl (.pr (.int .i64) (.pr (.int .i64) (.pr .str (.pr .bool (.pr (.sl .str) (.sl (.int .i64)))))))) d0, .nps 1 1, .row 21]) from l1] at hn
          cases hn
          refine ⟨[q0, .pointer (some ⟨G.bk 1, 1, none⟩), q2], ?_, _, _, rfl, hq0', _, _, rfl, .inr ⟨rfl, 44, _, l1⟩, _, _, rfl, hq2', rfl⟩
          have hw2 := (Array.getElem?_eq_some_iff.1 hw).2
          simp only [World.setCell, Array.getElem?_modify, if_pos, hw]
          simp
        · have hne : ∀ b, blkOf (mkH HP) G n = some b → b ≠ G.bk 1 := fun b hb e => hn1 (dis.inj n 1 b hb (by rw [bk1, e]))
          have := RO.carry C hn (obj n o hn) (fun b hb => oth b (hne b hb)) rfl rfl
          rwa [wqg6] at this
      · have e1 : look HP n = some o := ho
        rw [hn] at e1; cases e1
        exact ⟨⟨cs, rfl⟩, rfl⟩
    · refine Calls.mono (wqvq (G.bk 1) w hcell) fun e w' hh => ?_
      obtain ⟨rfl, rfl⟩ := hh
      refine ⟨.ret [] HP, hK, G, ⟨_, rfl, ⟨[], rfl, rfl⟩⟩, ⟨obj, dis.inj, fun n t cs hn o ho => ?_, fun n ag V es hn o ho => (wqhp (by rw [← hHP]; rfl) hn).elim, fun _ _ _ => rfl, rfl, fun n b hb => .inl ⟨n, hb⟩, Nat.le_refl _, rfl, rfl, rfl⟩⟩
      have e1 : look HP n = some o := ho
      rw [hn] at e1; cases e1
      exact ⟨⟨cs, rfl⟩, rfl⟩
  · cases h
end Go.Proofs.YtdfhgimidmfgfaaDoor.Pvm
set_option maxHeartbeats 0
namespace Go.Proofs.YtdfhgimidmfgfaaDoor.Pvm
open Go Go.Proofs
def wq8j : List LS := [.obj 1 [.sl (.pr (.int .i64) (.pr (.int .i64) (.pr .str (.pr .bool (.pr (.sl .str) (.sl (.int .i64))))))), .nps 1 1, .own 21 5 (.int .u8)], .any]
def wq95 (k : Nat) : CTab := (CTab.add 33 wq94 (wq4a k) CTab.nil)
def wq57 {R : Type} (K : ((List (Int × (Int × ((List UInt8) × (Bool × ((List (List UInt8)) × (List Int))))))) → (List Int) → Int → Option R)) : Out → Option R
  | .ret [.v (.int .i64) y2, .nilif] [(21, .row 5 (.int .u8) y1), (1, .var 44 [.v (.sl (.pr (.int .i64) (.pr (.int .i64) (.pr .str (.pr .bool (.pr (.sl .str) (.sl (.int .i64)))))))) y0, .nps 1 1, .row 21])] => K y0 y1 y2
  | _ => none
def wq8z : RetSpec := ⟨[.any, .any], [(1, .obj 1 [.sl (.pr (.int .i64) (.pr (.int .i64) (.pr .str (.pr .bool (.pr (.sl .str) (.sl (.int .i64))))))), .nps 1 1, .own 21 5 (.int .u8)])], []⟩
def wqcq : List (Nat × CutSpec) := []
def wqcd : List (Nat × Plan) := []
def wq5s (k : Nat) : Ctx := ⟨tyT, wqcq, wq95 k, [], [1], wqcd, @SH⟩
def wq58 : Code := Tryd.f25.body.getD .skip
def wq67 (k : Nat) {R : Type}  (x0 : (List (Int × (Int × ((List UInt8) × (Bool × ((List (List UInt8)) × (List Int)))))))) (x1 : (List Int)) (x2 : (List UInt8)) (K : ((List (Int × (Int × ((List UInt8) × (Bool × ((List (List UInt8)) × (List Int))))))) → (List Int) → Int → Option R)) : Option R := (@wq3h k R x0 x1 (fun y6 y7 => (@cond (@Option R) (@fits (@List.length (@Kd.T (@Kd.int Go.IntKind.u8)) y7) (@List.length (@Kd.T (@Kd.int Go.IntKind.u8)) (@wqs x2)) (1 : Nat)) (K y6 (@HAppend.hAppend (@Kd.T (@Kd.sl (@Kd.int Go.IntKind.u8))) (@List (@Kd.T (@Kd.int Go.IntKind.u8))) (@Kd.T (@Kd.sl (@Kd.int Go.IntKind.u8))) (@instHAppendOfAppend (@Kd.T (@Kd.sl (@Kd.int Go.IntKind.u8))) (@List.instAppend (@Kd.T (@Kd.int Go.IntKind.u8)))) y7 (@wqs x2)) (@Nat.cast Int instNatCastInt (@List.length UInt8 x2))) (@Option.none R))))
theorem wqcr (k : Nat) {R : Type} (I : Nat → St → Option R) (x0 : (List (Int × (Int × ((List UInt8) × (Bool × ((List (List UInt8)) × (List Int)))))))) (x1 : (List Int)) (x2 : (List UInt8)) (K : ((List (Int × (Int × ((List UInt8) × (Bool × ((List (List UInt8)) × (List Int))))))) → (List Int) → Int → Option R)) : fnK (wq5s k) k wq58 19 [.tmp 4, .tmp 5] wq8z [.ptr 1 1, .v .str x2] [(21, .row 5 (.int .u8) x1), (1, .var 44 [.v (.sl (.pr (.int .i64) (.pr (.int .i64) (.pr .str (.pr .bool (.pr (.sl .str) (.sl (.int .i64)))))))) x0, .nps 1 1, .row 21])] (wq57 K) = wq67 k  x0 x1 x2 K := by kernel_rfl
def wqz (k : Nat) {R : Type} (x0 : (List (Int × (Int × ((List UInt8) × (Bool × ((List (List UInt8)) × (List Int)))))))) (x1 : (List Int)) (x2 : (List UInt8)) (K : ((List (Int × (Int × ((List UInt8) × (Bool × ((List (List UInt8)) × (List Int))))))) → (List Int) → Int → Option R)) : Option R := wq67 k  x0 x1 x2 K
theorem wqcs (k : Nat) {R : Type} (x0 : (List (Int × (Int × ((List UInt8) × (Bool × ((List (List UInt8)) × (List Int)))))))) (x1 : (List Int)) (x2 : (List UInt8)) (K : ((List (Int × (Int × ((List UInt8) × (Bool × ((List (List UInt8)) × (List Int))))))) → (List Int) → Int → Option R)) : fnK (wq5s k) k wq58 19 [.tmp 4, .tmp 5] wq8z [.ptr 1 1, .v .str x2] [(21, .row 5 (.int .u8) x1), (1, .var 44 [.v (.sl (.pr (.int .i64) (.pr (.int .i64) (.pr .str (.pr .bool (.pr (.sl .str) (.sl (.int .i64)))))))) x0, .nps 1 1, .row 21])] (wq57 K) = wqz k x0 x1 x2 K := by
  exact wqcr k (fun _ _ => none) x0 x1 x2 K
def wq3x (k : Nat) {R : Type} : List PV → List (Nm × HObj) → (Out → Option R) → Option R
  | [.ptr 1 1, .v .str x2], [(21, .row 5 (.int .u8) x1), (1, .var 44 [.v (.sl (.pr (.int .i64) (.pr (.int .i64) (.pr .str (.pr .bool (.pr (.sl .str) (.sl (.int .i64)))))))) x0, .nps 1 1, .row 21])], K => wqz k x0 x1 x2 (fun y0 y1 y2 => K (.ret [.v (.int .i64) y2, .nilif] [(21, .row 5 (.int .u8) y1), (1, .var 44 [.v (.sl (.pr (.int .i64) (.pr (.int .i64) (.pr .str (.pr .bool (.pr (.sl .str) (.sl (.int .i64)))))))) y0, .nps 1 1, .row 21])]))
  | _, _, _ => none
theorem wqct (k : Nat) : (wq95 k).Ok Tryd.prog := (CTab.add_ok (fun h => wqa6 k h) CTab.nil_ok)
theorem wq96 (k : Nat) {ps : List PV} {hp : List (Nm × HObj)} {R : Type} {K : Out → Option R} {r : R} (h : wq3x k ps hp K = some r) : DoesTo Tryd.prog 25 ps hp fun out => K out = some r := by
  unfold wq3x at h
  split at h
  · rw [← wqcs] at h
    have := fn_ok (P := Tryd.prog) (cx := wq5s k) (f := 25) ⟨tyT_ok, wqct k, fun _ _ => rfl⟩ (by kernel_rfl) (fn := Tryd.f25) (c := wq58) (by kernel_rfl) (by kernel_rfl) (by kernel_rfl) (rs := [.tmp 4, .tmp 5]) (by kernel_rfl) (by kernel_rfl) h
    exact this.mono fun out ho => by
      unfold wq57 at ho
      split at ho <;> first | exact ho | cases ho
  · cases h
end Go.Proofs.YtdfhgimidmfgfaaDoor.Pvm
namespace Go.Proofs
open Go.Shelf
def Tryd.laysLaysn105_ren : Go.Shelf.Ren := ⟨fun | 105 => 34 | 212 => 40 | 99 => 41 | 165 => 42 | 166 => 25 | 170 => 15 | 169 => 16 | 263 => 49 | 264 => 50 | 206 => 51 | 240 => 33 | 241 => 52 | 276 => 39 | 277 => 65 | n => n, fun | 9 => 9 | 3 => 3 | 4 => 4 | 20 => 20 | 0 => 0 | 46 => 65 | 109 => 71 | 5 => 5 | 72 => 42 | 76 => 57 | 51 => 86 | 146 => 87 | 53 => 89 | 148 => 90 | 70 => 40 | 37 => 27 | 75 => 56 | 127 => 60 | 164 => 69 | 80 => 47 | n => n, fun | n => n⟩
theorem Tryd.laysLaysn105 : Go.Proofs.Lays.n105 Tryd.prog Tryd.laysLaysn105_ren := {
  mixed := by kernel_rfl
  f99 := Tryd.func41.trans (congrArg some (by kernel_rfl))
  f105 := Tryd.func34.trans (congrArg some (by kernel_rfl))
  f165 := Tryd.func42.trans (congrArg some (by kernel_rfl))
  f166 := Tryd.func25.trans (congrArg some (by kernel_rfl))
  f169 := Tryd.func16.trans (congrArg some (by kernel_rfl))
  f170 := Tryd.func15.trans (congrArg some (by kernel_rfl))
  f206 := Tryd.func51.trans (congrArg some (by kernel_rfl))
  f212 := Tryd.func40.trans (congrArg some (by kernel_rfl))
  f240 := Tryd.func33.trans (congrArg some (by kernel_rfl))
  f241 := Tryd.func52.trans (congrArg some (by kernel_rfl))
  f263 := Tryd.func49.trans (congrArg some (by kernel_rfl))
  f264 := Tryd.func50.trans (congrArg some (by kernel_rfl))
  f276 := Tryd.func39.trans (congrArg some (by kernel_rfl))
  f277 := Tryd.func65.trans (congrArg some (by kernel_rfl))
  t0 := Tryd.underlying0
  a0 := Tryd.isAgg0
  z0 := Tryd.sizeOf0
  v0 := Tryd.zeroValue0
  t3 := Tryd.underlying3
  a3 := Tryd.isAgg3
  z3 := Tryd.sizeOf3
  v3 := Tryd.zeroValue3
  t4 := Tryd.underlying4
  a4 := Tryd.isAgg4
  z4 := Tryd.sizeOf4
  v4 := Tryd.zeroValue4
  t5 := Tryd.underlying5
  a5 := Tryd.isAgg5
  z5 := Tryd.sizeOf5
  v5 := Tryd.zeroValue5
  t9 := Tryd.underlying9
  a9 := Tryd.isAgg9
  z9 := Tryd.sizeOf9
  v9 := Tryd.zeroValue9
  t20 := Tryd.underlying20
  a20 := Tryd.isAgg20
  z20 := Tryd.sizeOf20
  v20 := Tryd.zeroValue20
  t37 := Tryd.underlying27
  a37 := Tryd.isAgg27
  z37 := Tryd.sizeOf27
  v37 := Tryd.zeroValue27
  t46 := Tryd.underlying65
  a46 := Tryd.isAgg65
  z46 := Tryd.sizeOf65
  v46 := Tryd.zeroValue65
  t51 := Tryd.underlying86
  a51 := Tryd.isAgg86
  z51 := Tryd.sizeOf86
  v51 := Tryd.zeroValue86
  t53 := Tryd.underlying89
  a53 := Tryd.isAgg89
  z53 := Tryd.sizeOf89
  v53 := Tryd.zeroValue89
  t70 := Tryd.underlying40
  a70 := Tryd.isAgg40
  z70 := Tryd.sizeOf40
  v70 := Tryd.zeroValue40
  t72 := Tryd.underlying42
  a72 := Tryd.isAgg42
  z72 := Tryd.sizeOf42
  v72 := Tryd.zeroValue42
  t75 := Tryd.underlying56
  a75 := Tryd.isAgg56
  z75 := Tryd.sizeOf56
  v75 := Tryd.zeroValue56
  t76 := Tryd.underlying57
  a76 := Tryd.isAgg57
  z76 := Tryd.sizeOf57
  v76 := Tryd.zeroValue57
  t109 := Tryd.underlying71
  a109 := Tryd.isAgg71
  z109 := Tryd.sizeOf71
  v109 := Tryd.zeroValue71
  t127 := Tryd.underlying60
  a127 := Tryd.isAgg60
  z127 := Tryd.sizeOf60
  v127 := Tryd.zeroValue60
  t146 := Tryd.underlying87
  a146 := Tryd.isAgg87
  z146 := Tryd.sizeOf87
  v146 := Tryd.zeroValue87
  t148 := Tryd.underlying90
  a148 := Tryd.isAgg90
  z148 := Tryd.sizeOf90
  v148 := Tryd.zeroValue90
  t164 := Tryd.underlying69
  a164 := Tryd.isAgg69
  z164 := Tryd.sizeOf69
  v164 := Tryd.zeroValue69 }
theorem Tryd.extra105 : Builder.Extra Tryd.prog Tryd.laysLaysn105_ren where
  sizeBuilder := by kernel_rfl
  liesBuilder := by kernel_rfl
  t5 := Tryd.underlying5
  a5 := Tryd.isAgg5
  z5 := Tryd.sizeOf5
  v5 := Tryd.zeroValue5
  infoByte := by kernel_rfl
  cellsByte := by kernel_rfl
  sizeByte := by kernel_rfl
  neB5 := by decide
end Go.Proofs
namespace Go.Proofs.YtdfhgimidmfgfaaDoor.Pvm
open Go Go.Proofs Go.RowKit Go.Shelf
def repS (s : List UInt8) (n : Nat) : List UInt8 := Lib.repeatL s n
def wqu3 : List LS := [.any, .any]
def wqd6 (k : Nat) {R : Type} (x0 : List UInt8) (x1 : Int) (K : List UInt8 → Option R) : Option R := bif decide (0 ≤ x1) && decide (x1 ≤ 1000000) && decide (x0.length ≤ 1000000) then K (repS x0 x1.toNat) else none
def wqe7 (k : Nat) {R : Type} : List PV → List (Nm × HObj) → (Out → Option R) → Option R
  | [.v .str x0, .v (.int .i64) x1], [], K => wqd6 k x0 x1 (fun y0 => K (.ret [.v .str y0] []))
  | _, _, _ => none
theorem wqyr (k : Nat) {ps : List PV} {hp : List (Nm × HObj)} {R : Type} {K : Out → Option R} {r : R} (h : wqe7 k ps hp K = some r) : DoesTo Tryd.prog 34 ps hp fun out => K out = some r := by
  unfold wqe7 at h
  split at h
  · next x0 x1 =>
    intro G w vals hr obj dis
    obtain ⟨v0, l0, rfl, h0, v1, l1, rfl, h1, rfl⟩ := hr
    have e0 : v0 = .string ⟨x0.toArray⟩ := by simpa [RV, RD] using h0
    have e1 : v1 = .int .i64 x1 := by simpa [RV, RD] using h1
    subst e0 e1
    unfold wqd6 at h
    cases hx : (decide (0 ≤ x1) && decide (x1 ≤ 1000000) && decide (x0.length ≤ 1000000)) with
    | false => rw [hx] at h; cases h
    | true =>
      rw [hx, cond_true] at h
      simp only [Bool.and_eq_true, decide_eq_true_eq] at hx
      obtain ⟨⟨g0, g1⟩, g2⟩ := hx
      obtain ⟨n, rfl⟩ : ∃ n : Nat, x1 = (n : Int) := ⟨x1.toNat, (Int.toNat_of_nonneg g0).symm⟩
      have hn : n ≤ 1000000 := by
        have : (n : Int) ≤ 1000000 := g1
        omega
      have hsz : (⟨x0.toArray⟩ : ByteArray).size = x0.length := by simp [ByteArray.size]
      have hmul : x0.length * n ≤ 1000000 * 1000000 := Nat.mul_le_mul g2 hn
      have c := Any.strings_Repeat Tryd.laysLaysn105 Tryd.extra105 ⟨x0.toArray⟩ n w (by omega) (by rw [hsz]; omega)
      show Does _ _ #[_, _] _ _
      unfold Does
      rw [enters (P := Tryd.prog) (fn := Tryd.f34) (c := Tryd.f34.body.getD .skip) (by kernel_rfl) (by kernel_rfl) (by kernel_rfl)]
      refine Calls.mono c fun e w' hh => ?_
      obtain ⟨rfl, b⟩ := hh
      exact ⟨.ret [.v .str (repS x0 n)] [], h, G, ⟨_, rfl, rfl⟩, wq1eq b⟩
  · cases h
end Go.Proofs.YtdfhgimidmfgfaaDoor.Pvm
namespace Go.Proofs.YtdfhgimidmfgfaaDoor.Pvm
open Go Go.Proofs
def wqjr : List LS := [.obj 1 [.sl (.pr (.int .i64) (.pr (.int .i64) (.pr .str (.pr .bool (.pr (.sl .str) (.sl (.int .i64))))))), .nps 1 1, .own 21 5 (.int .u8)], .any]
def wqmu (k : Nat) : CTab := (CTab.add 25 wq8j (wq3x k) (CTab.add 34 wqu3 (wqe7 k) CTab.nil))
def wqd7 {R : Type} (K : ((List (Int × (Int × ((List UInt8) × (Bool × ((List (List UInt8)) × (List Int))))))) → (List Int) → Option R)) : Out → Option R
  | .ret [] [(21, .row 5 (.int .u8) y1), (1, .var 44 [.v (.sl (.pr (.int .i64) (.pr (.int .i64) (.pr .str (.pr .bool (.pr (.sl .str) (.sl (.int .i64)))))))) y0, .nps 1 1, .row 21])] => K y0 y1
  | _ => none
def wqlf : RetSpec := ⟨[], [(1, .obj 1 [.sl (.pr (.int .i64) (.pr (.int .i64) (.pr .str (.pr .bool (.pr (.sl .str) (.sl (.int .i64))))))), .nps 1 1, .own 21 5 (.int .u8)])], []⟩
def wqsb : List (Nat × CutSpec) := []
def wqql : List (Nat × Plan) := [(0, (.of [(0, 1), (1, 1), (2, 1), (3, 1), (4, 0), (5, 0)] .done))]
def wqff (k : Nat) : Ctx := ⟨tyT, wqsb, wqmu k, [], [1], wqql, @SH⟩
def wqd8 : Code := Tryd.f26.body.getD .skip
def wqgr (k : Nat) {R : Type}  (x0 : (List (Int × (Int × ((List UInt8) × (Bool × ((List (List UInt8)) × (List Int)))))))) (x1 : (List Int)) (x2 : Int) (K : ((List (Int × (Int × ((List UInt8) × (Bool × ((List (List UInt8)) × (List Int))))))) → (List Int) → Option R)) : Option R := (@wqd6 k R ((32 : UInt8) :: []) x2 (fun y6 => (@wqz k R x0 x1 y6 (fun y7 y8 y9 => (K y7 y8)))))
theorem wqsc (k : Nat) {R : Type} (I : Nat → St → Option R) (x0 : (List (Int × (Int × ((List UInt8) × (Bool × ((List (List UInt8)) × (List Int)))))))) (x1 : (List Int)) (x2 : Int) (K : ((List (Int × (Int × ((List UInt8) × (Bool × ((List (List UInt8)) × (List Int))))))) → (List Int) → Option R)) : fnK (wqff k) k wqd8 10 [] wqlf [.ptr 1 0, .v (.int .i64) x2] [(21, .row 5 (.int .u8) x1), (1, .var 44 [.v (.sl (.pr (.int .i64) (.pr (.int .i64) (.pr .str (.pr .bool (.pr (.sl .str) (.sl (.int .i64)))))))) x0, .nps 1 1, .row 21])] (wqd7 K) = wqgr k  x0 x1 x2 K := by kernel_rfl
def wq7z (k : Nat) {R : Type} (x0 : (List (Int × (Int × ((List UInt8) × (Bool × ((List (List UInt8)) × (List Int)))))))) (x1 : (List Int)) (x2 : Int) (K : ((List (Int × (Int × ((List UInt8) × (Bool × ((List (List UInt8)) × (List Int))))))) → (List Int) → Option R)) : Option R := wqgr k  x0 x1 x2 K
theorem wqsd (k : Nat) {R : Type} (x0 : (List (Int × (Int × ((List UInt8) × (Bool × ((List (List UInt8)) × (List Int)))))))) (x1 : (List Int)) (x2 : Int) (K : ((List (Int × (Int × ((List UInt8) × (Bool × ((List (List UInt8)) × (List Int))))))) → (List Int) → Option R)) : fnK (wqff k) k wqd8 10 [] wqlf [.ptr 1 0, .v (.int .i64) x2] [(21, .row 5 (.int .u8) x1), (1, .var 44 [.v (.sl (.pr (.int .i64) (.pr (.int .i64) (.pr .str (.pr .bool (.pr (.sl .str) (.sl (.int .i64)))))))) x0, .nps 1 1, .row 21])] (wqd7 K) = wq7z k x0 x1 x2 K := by
  exact wqsc k (fun _ _ => none) x0 x1 x2 K
def wqb8 (k : Nat) {R : Type} : List PV → List (Nm × HObj) → (Out → Option R) → Option R
  | [.ptr 1 0, .v (.int .i64) x2], [(21, .row 5 (.int .u8) x1), (1, .var 44 [.v (.sl (.pr (.int .i64) (.pr (.int .i64) (.pr .str (.pr .bool (.pr (.sl .str) (.sl (.int .i64)))))))) x0, .nps 1 1, .row 21])], K => wq7z k x0 x1 x2 (fun y0 y1 => K (.ret [] [(21, .row 5 (.int .u8) y1), (1, .var 44 [.v (.sl (.pr (.int .i64) (.pr (.int .i64) (.pr .str (.pr .bool (.pr (.sl .str) (.sl (.int .i64)))))))) y0, .nps 1 1, .row 21])]))
  | _, _, _ => none
theorem wqse (k : Nat) : (wqmu k).Ok Tryd.prog := (CTab.add_ok (fun h => wq96 k h) (CTab.add_ok (fun h => wqyr k h) CTab.nil_ok))
theorem wqmv (k : Nat) {ps : List PV} {hp : List (Nm × HObj)} {R : Type} {K : Out → Option R} {r : R} (h : wqb8 k ps hp K = some r) : DoesTo Tryd.prog 26 ps hp fun out => K out = some r := by
  unfold wqb8 at h
  split at h
  · rw [← wqsd] at h
    have := fn_ok (P := Tryd.prog) (cx := wqff k) (f := 26) ⟨tyT_ok, wqse k, fun _ _ => rfl⟩ (by kernel_rfl) (fn := Tryd.f26) (c := wqd8) (by kernel_rfl) (by kernel_rfl) (by kernel_rfl) (rs := []) (by kernel_rfl) (by kernel_rfl) h
    exact this.mono fun out ho => by
      unfold wqd7 at ho
      split at ho <;> first | exact ho | cases ho
  · cases h
def wqe8 : List LS := [.obj 1 [.sl (.pr (.int .i64) (.pr (.int .i64) (.pr .str (.pr .bool (.pr (.sl .str) (.sl (.int .i64))))))), .nps 1 1, .own 21 5 (.int .u8)], .any]
def wqa7 (k : Nat) : CTab := (CTab.add 33 wq94 (wq4a k) CTab.nil)
def wq5t {R : Type} (K : ((List (Int × (Int × ((List UInt8) × (Bool × ((List (List UInt8)) × (List Int))))))) → (List Int) → Option R)) : Out → Option R
  | .ret [.nilif] [(21, .row 5 (.int .u8) y1), (1, .var 44 [.v (.sl (.pr (.int .i64) (.pr (.int .i64) (.pr .str (.pr .bool (.pr (.sl .str) (.sl (.int .i64)))))))) y0, .nps 1 1, .row 21])] => K y0 y1
  | _ => none
def wq9f : RetSpec := ⟨[.any], [(1, .obj 1 [.sl (.pr (.int .i64) (.pr (.int .i64) (.pr .str (.pr .bool (.pr (.sl .str) (.sl (.int .i64))))))), .nps 1 1, .own 21 5 (.int .u8)])], []⟩
def wqdl : List (Nat × CutSpec) := []
def wqd9 : List (Nat × Plan) := []
def wq6k (k : Nat) : Ctx := ⟨tyT, wqdl, wqa7 k, [], [1], wqd9, @SH⟩
def wq5u : Code := Tryd.f32.body.getD .skip
def wq74 (k : Nat) {R : Type}  (x0 : (List (Int × (Int × ((List UInt8) × (Bool × ((List (List UInt8)) × (List Int)))))))) (x1 : (List Int)) (x2 : Int) (K : ((List (Int × (Int × ((List UInt8) × (Bool × ((List (List UInt8)) × (List Int))))))) → (List Int) → Option R)) : Option R := (@wq3h k R x0 x1 (fun y6 y7 => (@cond (@Option R) (@fits (@List.length (@Kd.T (@Kd.int Go.IntKind.u8)) y7) (@List.length (@Kd.T (@Kd.int Go.IntKind.u8)) (x2 :: [])) (1 : Nat)) (K y6 (@HAppend.hAppend (@Kd.T (@Kd.sl (@Kd.int Go.IntKind.u8))) (@List (@Kd.T (@Kd.int Go.IntKind.u8))) (@Kd.T (@Kd.sl (@Kd.int Go.IntKind.u8))) (@instHAppendOfAppend (@Kd.T (@Kd.sl (@Kd.int Go.IntKind.u8))) (@List.instAppend (@Kd.T (@Kd.int Go.IntKind.u8)))) y7 (x2 :: []))) (@Option.none R))))
theorem wqdm (k : Nat) {R : Type} (I : Nat → St → Option R) (x0 : (List (Int × (Int × ((List UInt8) × (Bool × ((List (List UInt8)) × (List Int)))))))) (x1 : (List Int)) (x2 : Int) (K : ((List (Int × (Int × ((List UInt8) × (Bool × ((List (List UInt8)) × (List Int))))))) → (List Int) → Option R)) : fnK (wq6k k) k wq5u 17 [.tmp 4] wq9f [.ptr 1 1, .v (.int .u8) x2] [(21, .row 5 (.int .u8) x1), (1, .var 44 [.v (.sl (.pr (.int .i64) (.pr (.int .i64) (.pr .str (.pr .bool (.pr (.sl .str) (.sl (.int .i64)))))))) x0, .nps 1 1, .row 21])] (wq5t K) = wq74 k  x0 x1 x2 K := by kernel_rfl
def wq2s (k : Nat) {R : Type} (x0 : (List (Int × (Int × ((List UInt8) × (Bool × ((List (List UInt8)) × (List Int)))))))) (x1 : (List Int)) (x2 : Int) (K : ((List (Int × (Int × ((List UInt8) × (Bool × ((List (List UInt8)) × (List Int))))))) → (List Int) → Option R)) : Option R := wq74 k  x0 x1 x2 K
theorem wqdn (k : Nat) {R : Type} (x0 : (List (Int × (Int × ((List UInt8) × (Bool × ((List (List UInt8)) × (List Int)))))))) (x1 : (List Int)) (x2 : Int) (K : ((List (Int × (Int × ((List UInt8) × (Bool × ((List (List UInt8)) × (List Int))))))) → (List Int) → Option R)) : fnK (wq6k k) k wq5u 17 [.tmp 4] wq9f [.ptr 1 1, .v (.int .u8) x2] [(21, .row 5 (.int .u8) x1), (1, .var 44 [.v (.sl (.pr (.int .i64) (.pr (.int .i64) (.pr .str (.pr .bool (.pr (.sl .str) (.sl (.int .i64)))))))) x0, .nps 1 1, .row 21])] (wq5t K) = wq2s k x0 x1 x2 K := by
  exact wqdm k (fun _ _ => none) x0 x1 x2 K
def wq68 (k : Nat) {R : Type} : List PV → List (Nm × HObj) → (Out → Option R) → Option R
  | [.ptr 1 1, .v (.int .u8) x2], [(21, .row 5 (.int .u8) x1), (1, .var 44 [.v (.sl (.pr (.int .i64) (.pr (.int .i64) (.pr .str (.pr .bool (.pr (.sl .str) (.sl (.int .i64)))))))) x0, .nps 1 1, .row 21])], K => wq2s k x0 x1 x2 (fun y0 y1 => K (.ret [.nilif] [(21, .row 5 (.int .u8) y1), (1, .var 44 [.v (.sl (.pr (.int .i64) (.pr (.int .i64) (.pr .str (.pr .bool (.pr (.sl .str) (.sl (.int .i64)))))))) y0, .nps 1 1, .row 21])]))
  | _, _, _ => none
theorem wqdo (k : Nat) : (wqa7 k).Ok Tryd.prog := (CTab.add_ok (fun h => wqa6 k h) CTab.nil_ok)
theorem wqfg (k : Nat) {ps : List PV} {hp : List (Nm × HObj)} {R : Type} {K : Out → Option R} {r : R} (h : wq68 k ps hp K = some r) : DoesTo Tryd.prog 32 ps hp fun out => K out = some r := by
  unfold wq68 at h
  split at h
  · rw [← wqdn] at h
    have := fn_ok (P := Tryd.prog) (cx := wq6k k) (f := 32) ⟨tyT_ok, wqdo k, fun _ _ => rfl⟩ (by kernel_rfl) (fn := Tryd.f32) (c := wq5u) (by kernel_rfl) (by kernel_rfl) (by kernel_rfl) (rs := [.tmp 4]) (by kernel_rfl) (by kernel_rfl) h
    exact this.mono fun out ho => by
      unfold wq5t at ho
      split at ho <;> first | exact ho | cases ho
  · cases h
abbrev wq12 : Type 1 := (R : Type) → (List (Int × (Int × ((List UInt8) × (Bool × ((List (List UInt8)) × (List Int))))))) → (List Int) → Int → Int → ((List (Int × (Int × ((List UInt8) × (Bool × ((List (List UInt8)) × (List Int))))))) → (List Int) → Option R) → Option R
abbrev wq15 : Type 1 := (R : Type) → (List (Int × (Int × ((List UInt8) × (Bool × ((List (List UInt8)) × (List Int))))))) → (List Int) → Int → Int → ((List (Int × (Int × ((List UInt8) × (Bool × ((List (List UInt8)) × (List Int))))))) → (List Int) → Option R) → Option R
abbrev wq1c (R : Type) : Type := ((List (Int × (Int × ((List UInt8) × (Bool × ((List (List UInt8)) × (List Int))))))) → (List Int) → Option R)
def wqbi : List LS := [.obj 1 [.sl (.pr (.int .i64) (.pr (.int .i64) (.pr .str (.pr .bool (.pr (.sl .str) (.sl (.int .i64))))))), .nps 1 1, .own 21 5 (.int .u8)], .any, .any]
def wq50 (wq3 : wq12) {R : Type} : List PV → List (Nm × HObj) → (Out → Option R) → Option R
  | [.ptr 1 0, .v (.int .i64) x2, .v (.int .i64) x3], [(21, .row 5 (.int .u8) x1), (1, .var 44 [.v (.sl (.pr (.int .i64) (.pr (.int .i64) (.pr .str (.pr .bool (.pr (.sl .str) (.sl (.int .i64)))))))) x0, .nps 1 1, .row 21])], K => wq3 R x0 x1 x2 x3 (fun y0 y1 => K (.ret [] [(21, .row 5 (.int .u8) y1), (1, .var 44 [.v (.sl (.pr (.int .i64) (.pr (.int .i64) (.pr .str (.pr .bool (.pr (.sl .str) (.sl (.int .i64)))))))) y0, .nps 1 1, .row 21])]))
  | _, _, _ => none
def wqqm : List LS := [.obj 1 [.sl (.pr (.int .i64) (.pr (.int .i64) (.pr .str (.pr .bool (.pr (.sl .str) (.sl (.int .i64))))))), .nps 1 1, .own 21 5 (.int .u8)], .any, .any]
def wqbj (wq4 : wq15) {R : Type} : List PV → List (Nm × HObj) → (Out → Option R) → Option R
  | [.ptr 1 0, .v (.int .i64) x2, .v (.int .i64) x3], [(21, .row 5 (.int .u8) x1), (1, .var 44 [.v (.sl (.pr (.int .i64) (.pr (.int .i64) (.pr .str (.pr .bool (.pr (.sl .str) (.sl (.int .i64)))))))) x0, .nps 1 1, .row 21])], K => wq4 R x0 x1 x2 x3 (fun y0 y1 => K (.ret [] [(21, .row 5 (.int .u8) y1), (1, .var 44 [.v (.sl (.pr (.int .i64) (.pr (.int .i64) (.pr .str (.pr .bool (.pr (.sl .str) (.sl (.int .i64)))))))) y0, .nps 1 1, .row 21])]))
  | _, _, _ => none
def wqi0 (k : Nat) (wq3 : wq12) (wq4 : wq15) : CTab := (CTab.add 14 wqbi (wq50 wq3) (CTab.add 24 wq14y (wqkr k) (CTab.add 25 wq8j (wq3x k) (CTab.add 26 wqjr (wqb8 k) (CTab.add 27 wqqm (wqbj wq4) CTab.nil)))))
def wq1m {R : Type} (K : wq1c R) : Out → Option R
  | .ret [] [(21, .row 5 (.int .u8) y1), (1, .var 44 [.v (.sl (.pr (.int .i64) (.pr (.int .i64) (.pr .str (.pr .bool (.pr (.sl .str) (.sl (.int .i64)))))))) y0, .nps 1 1, .row 21])] => K y0 y1
  | _ => none
def wq2c : RetSpec := ⟨[], [(1, .obj 1 [.sl (.pr (.int .i64) (.pr (.int .i64) (.pr .str (.pr .bool (.pr (.sl .str) (.sl (.int .i64))))))), .nps 1 1, .own 21 5 (.int .u8)])], []⟩
def wqmw : List (Nat × CutSpec) := [(1008, ⟨[(0, .obj 1 [.sl (.pr (.int .i64) (.pr (.int .i64) (.pr .str (.pr .bool (.pr (.sl .str) (.sl (.int .i64))))))), .nps 1 1, .own 21 5 (.int .u8)]), (2, .any), (39, .sl (.int .i64)), (40, .any), (41, .any)], [(1, .obj 1 [.sl (.pr (.int .i64) (.pr (.int .i64) (.pr .str (.pr .bool (.pr (.sl .str) (.sl (.int .i64))))))), .nps 1 1, .own 21 5 (.int .u8)])]⟩), (1017, ⟨[(0, .obj 1 [.sl (.pr (.int .i64) (.pr (.int .i64) (.pr .str (.pr .bool (.pr (.sl .str) (.sl (.int .i64))))))), .nps 1 1, .own 21 5 (.int .u8)]), (2, .any), (6, .obj 16 [.any, .any, .any, .any, .sl .str, .sl (.int .i64)]), (64, .sl (.int .i64)), (65, .any), (66, .any)], [(1, .obj 1 [.sl (.pr (.int .i64) (.pr (.int .i64) (.pr .str (.pr .bool (.pr (.sl .str) (.sl (.int .i64))))))), .nps 1 1, .own 21 5 (.int .u8)])]⟩)]
def wqlp : List (Nat × Plan) := [(5, (.of [(0, 1), (1, 1), (2, 1), (3, 1), (4, 1), (5, 1), (6, 0)] .done)), (21, (.of [(0, 1), (1, 1), (2, 1), (3, 1), (5, 1), (4, 1), (6, 1), (7, 1), (8, 1), (9, 0)] .done))]
def wq6 (k : Nat) (wq3 : wq12) (wq4 : wq15) : Ctx := ⟨tyT, wqmw, wqi0 k wq3 wq4, [], [1], wqlp, @SH⟩
def wqm : Code := Tryd.f14.body.getD .skip
def wq40 (s0 : (List (Int × (Int × ((List UInt8) × (Bool × ((List (List UInt8)) × (List Int)))))))) (s1 : (List Int)) (s2 : Int) (s3 : (List Int)) (s4 s5 : Int) : St := ⟨mkT [(0, .ptr 1 0), (2, .v (.int .i64) s2), (39, .v (.sl (.int .i64)) s3), (40, .v (.int .i64) s4), (41, .v (.int .i64) s5)], mkH [(21, .row 5 (.int .u8) s1), (1, .var 44 [.v (.sl (.pr (.int .i64) (.pr (.int .i64) (.pr .str (.pr .bool (.pr (.sl .str) (.sl (.int .i64)))))))) s0, .nps 1 1, .row 21])]⟩
def wq41 (s0 : (List (Int × (Int × ((List UInt8) × (Bool × ((List (List UInt8)) × (List Int)))))))) (s1 : (List Int)) (s2 s3 s4 : Int) (s5 : (List UInt8)) (s6 : Bool) (s7 : (List (List UInt8))) (s8 s9 : (List Int)) (s10 s11 : Int) : St := ⟨mkT [(0, .ptr 1 0), (2, .v (.int .i64) s2), (6, .ptr 16 0), (64, .v (.sl (.int .i64)) s9), (65, .v (.int .i64) s10), (66, .v (.int .i64) s11)], mkH [(21, .row 5 (.int .u8) s1), (1, .var 44 [.v (.sl (.pr (.int .i64) (.pr (.int .i64) (.pr .str (.pr .bool (.pr (.sl .str) (.sl (.int .i64)))))))) s0, .nps 1 1, .row 21]), (16, .var 37 [.v (.int .i64) s3, .v (.int .i64) s4, .v .str s5, .v .bool s6, .v (.sl .str) s7, .v (.sl (.int .i64)) s8])]⟩
def wq5i (k : Nat) (wq3 : wq12) (wq4 : wq15) {R : Type} (E1008 : ((List (Int × (Int × ((List UInt8) × (Bool × ((List (List UInt8)) × (List Int))))))) → (List Int) → Int → (List Int) → Int → Int → Option R)) (s0 : (List (Int × (Int × ((List UInt8) × (Bool × ((List (List UInt8)) × (List Int)))))))) (s1 : (List Int)) (s2 : Int) (s3 : (List Int)) (s4 s5 : Int) (K : wq1c R) : Option R := (@cond (@Option R) (@Decidable.decide (@LT.lt Int Int.instLTInt s5 s4) (@Int.decLt s5 s4)) (@cond (@Option R) (@inb s5 (@Nat.cast Int instNatCastInt (@List.length (@Kd.T kI) s3))) (@cond (@Option R) (@Decidable.decide (@GT.gt Int Int.instLTInt s5 (0 : Int)) (@Int.decLt (0 : Int) s5)) (@wq7z k R s0 s1 s2 (fun y11 y12 => (@wqz k R y11 y12 ((45 : UInt8) :: ((32 : UInt8) :: [])) (fun y13 y14 y15 => (wq3 R y13 y14 (@List.getD (@Kd.T kI) s3 (@Int.toNat s5) (@Kd.zero kI)) (@Go.IntKind.wrap Go.IntKind.i64 (@HAdd.hAdd Int Int Int (@instHAdd Int @Int.instAdd) s2 (2 : Int))) (fun y16 y17 => (E1008 y16 y17 s2 s3 s4 (@Go.IntKind.wrap Go.IntKind.i64 (@HAdd.hAdd Int Int Int (@instHAdd Int @Int.instAdd) s5 (1 : Int)))))))))) (@wqz k R s0 s1 ((45 : UInt8) :: ((32 : UInt8) :: [])) (fun y11 y12 y13 => (wq3 R y11 y12 (@List.getD (@Kd.T kI) s3 (@Int.toNat s5) (@Kd.zero kI)) (@Go.IntKind.wrap Go.IntKind.i64 (@HAdd.hAdd Int Int Int (@instHAdd Int @Int.instAdd) s2 (2 : Int))) (fun y14 y15 => (E1008 y14 y15 s2 s3 s4 (@Go.IntKind.wrap Go.IntKind.i64 (@HAdd.hAdd Int Int Int (@instHAdd Int @Int.instAdd) s5 (1 : Int))))))))) (@Option.none R)) (K s0 s1))
theorem wqhf (k : Nat) (wq3 : wq12) (wq4 : wq15) {R : Type} (I : Nat → St → Option R) (s0 : (List (Int × (Int × ((List UInt8) × (Bool × ((List (List UInt8)) × (List Int)))))))) (s1 : (List Int)) (s2 : Int) (s3 : (List Int)) (s4 s5 : Int) (K : wq1c R) : execK (wq6 k wq3 wq4) k (at_ [1, 1, 0, 1, 1, 1, 0, 1, 0, 0] wqm) (wq40 s0 s1 s2 s3 s4 s5) (konts (wq6 k wq3 wq4) k I [1, 1, 0, 1, 1, 1, 0, 1, 0, 0] wqm (outK (wq6 k wq3 wq4) wq2c [] (wq1m K))) = wq5i k wq3 wq4 (fun s0 s1 s2 s3 s4 s5 => I 1008 (wq40 s0 s1 s2 s3 s4 s5)) s0 s1 s2 s3 s4 s5 K := by kernel_rfl
def wq5j (k : Nat) (wq3 : wq12) (wq4 : wq15) {R : Type} (E1017 : ((List (Int × (Int × ((List UInt8) × (Bool × ((List (List UInt8)) × (List Int))))))) → (List Int) → Int → Int → Int → (List UInt8) → Bool → (List (List UInt8)) → (List Int) → (List Int) → Int → Int → Option R)) (s0 : (List (Int × (Int × ((List UInt8) × (Bool × ((List (List UInt8)) × (List Int)))))))) (s1 : (List Int)) (s2 s3 s4 : Int) (s5 : (List UInt8)) (s6 : Bool) (s7 : (List (List UInt8))) (s8 s9 : (List Int)) (s10 s11 : Int) (K : wq1c R) : Option R := (@cond (@Option R) (@Decidable.decide (@LT.lt Int Int.instLTInt s11 s10) (@Int.decLt s11 s10)) (@cond (@Option R) (@inb s11 (@Nat.cast Int instNatCastInt (@List.length (@Kd.T kI) s9))) (@cond (@Option R) (@Decidable.decide (@GT.gt Int Int.instLTInt s11 (0 : Int)) (@Int.decLt (0 : Int) s11)) (@wq7z k R s0 s1 s2 (fun y17 y18 => (@cond (@Option R) (@inb s11 (@Nat.cast Int instNatCastInt (@List.length (@Kd.T Kd.str) s7))) (@cond (@Option R) (@joins (@List.getD (@Kd.T Kd.str) s7 (@Int.toNat s11) (@Kd.zero Kd.str)) ((58 : UInt8) :: [])) (@wqz k R y17 y18 (@HAppend.hAppend (@List UInt8) (@List UInt8) (@List UInt8) (@instHAppendOfAppend (@List UInt8) (@List.instAppend UInt8)) (@List.getD (@Kd.T Kd.str) s7 (@Int.toNat s11) (@Kd.zero Kd.str)) ((58 : UInt8) :: [])) (fun y19 y20 y21 => (wq4 R y19 y20 (@List.getD (@Kd.T kI) s9 (@Int.toNat s11) (@Kd.zero kI)) s2 (fun y22 y23 => (E1017 y22 y23 s2 s3 s4 s5 s6 s7 s8 s9 s10 (@Go.IntKind.wrap Go.IntKind.i64 (@HAdd.hAdd Int Int Int (@instHAdd Int @Int.instAdd) s11 (1 : Int)))))))) (@Option.none R)) (@Option.none R)))) (@cond (@Option R) (@inb s11 (@Nat.cast Int instNatCastInt (@List.length (@Kd.T Kd.str) s7))) (@cond (@Option R) (@joins (@List.getD (@Kd.T Kd.str) s7 (@Int.toNat s11) (@Kd.zero Kd.str)) ((58 : UInt8) :: [])) (@wqz k R s0 s1 (@HAppend.hAppend (@List UInt8) (@List UInt8) (@List UInt8) (@instHAppendOfAppend (@List UInt8) (@List.instAppend UInt8)) (@List.getD (@Kd.T Kd.str) s7 (@Int.toNat s11) (@Kd.zero Kd.str)) ((58 : UInt8) :: [])) (fun y17 y18 y19 => (wq4 R y17 y18 (@List.getD (@Kd.T kI) s9 (@Int.toNat s11) (@Kd.zero kI)) s2 (fun y20 y21 => (E1017 y20 y21 s2 s3 s4 s5 s6 s7 s8 s9 s10 (@Go.IntKind.wrap Go.IntKind.i64 (@HAdd.hAdd Int Int Int (@instHAdd Int @Int.instAdd) s11 (1 : Int)))))))) (@Option.none R)) (@Option.none R))) (@Option.none R)) (K s0 s1))
theorem wqhg (k : Nat) (wq3 : wq12) (wq4 : wq15) {R : Type} (I : Nat → St → Option R) (s0 : (List (Int × (Int × ((List UInt8) × (Bool × ((List (List UInt8)) × (List Int)))))))) (s1 : (List Int)) (s2 s3 s4 : Int) (s5 : (List UInt8)) (s6 : Bool) (s7 : (List (List UInt8))) (s8 s9 : (List Int)) (s10 s11 : Int) (K : wq1c R) : execK (wq6 k wq3 wq4) k (at_ [1, 1, 0, 1, 1, 1, 1, 1, 0, 1, 0, 0] wqm) (wq41 s0 s1 s2 s3 s4 s5 s6 s7 s8 s9 s10 s11) (konts (wq6 k wq3 wq4) k I [1, 1, 0, 1, 1, 1, 1, 1, 0, 1, 0, 0] wqm (outK (wq6 k wq3 wq4) wq2c [] (wq1m K))) = wq5j k wq3 wq4 (fun s0 s1 s2 s3 s4 s5 s6 s7 s8 s9 s10 s11 => I 1017 (wq41 s0 s1 s2 s3 s4 s5 s6 s7 s8 s9 s10 s11)) s0 s1 s2 s3 s4 s5 s6 s7 s8 s9 s10 s11 K := by kernel_rfl
def wq8k (k : Nat) (wq3 : wq12) (wq4 : wq15) {R : Type} (E1008 : ((List (Int × (Int × ((List UInt8) × (Bool × ((List (List UInt8)) × (List Int))))))) → (List Int) → Int → (List Int) → Int → Int → Option R)) (E1017 : ((List (Int × (Int × ((List UInt8) × (Bool × ((List (List UInt8)) × (List Int))))))) → (List Int) → Int → Int → Int → (List UInt8) → Bool → (List (List UInt8)) → (List Int) → (List Int) → Int → Int → Option R)) (x0 : (List (Int × (Int × ((List UInt8) × (Bool × ((List (List UInt8)) × (List Int)))))))) (x1 : (List Int)) (x2 x3 : Int) (K : wq1c R) : Option R := (@cond (@Option R) (@inb x2 (@Nat.cast Int instNatCastInt (@List.length (@Kd.T (@Kd.pr kI (@Kd.pr kI (@Kd.pr Kd.str (@Kd.pr Kd.bool (@Kd.pr (@Kd.sl Kd.str) (@Kd.sl kI))))))) x0))) (@cond (@Option R) (@BEq.beq Int (@instBEqOfDecidableEq Int @Int.instDecidableEq) (@List.getD (@Kd.T (@Kd.pr kI (@Kd.pr kI (@Kd.pr Kd.str (@Kd.pr Kd.bool (@Kd.pr (@Kd.sl Kd.str) (@Kd.sl kI))))))) x0 (@Int.toNat x2) (@Kd.zero (@Kd.pr kI (@Kd.pr kI (@Kd.pr Kd.str (@Kd.pr Kd.bool (@Kd.pr (@Kd.sl Kd.str) (@Kd.sl kI)))))))).1 (1 : Int)) (@cond (@Option R) (@List.getD (@Kd.T (@Kd.pr kI (@Kd.pr kI (@Kd.pr Kd.str (@Kd.pr Kd.bool (@Kd.pr (@Kd.sl Kd.str) (@Kd.sl kI))))))) x0 (@Int.toNat x2) (@Kd.zero (@Kd.pr kI (@Kd.pr kI (@Kd.pr Kd.str (@Kd.pr Kd.bool (@Kd.pr (@Kd.sl Kd.str) (@Kd.sl kI)))))))).2.2.2.1 (@wqgq k R (@List.getD (@Kd.T (@Kd.pr kI (@Kd.pr kI (@Kd.pr Kd.str (@Kd.pr Kd.bool (@Kd.pr (@Kd.sl Kd.str) (@Kd.sl kI))))))) x0 (@Int.toNat x2) (@Kd.zero (@Kd.pr kI (@Kd.pr kI (@Kd.pr Kd.str (@Kd.pr Kd.bool (@Kd.pr (@Kd.sl Kd.str) (@Kd.sl kI)))))))).2.2.1 (fun y9 => (@cond (@Option R) (@joins y9 ((10 : UInt8) :: [])) (@wqz k R x0 x1 (@HAppend.hAppend (@List UInt8) (@List UInt8) (@List UInt8) (@instHAppendOfAppend (@List UInt8) (@List.instAppend UInt8)) y9 ((10 : UInt8) :: [])) (fun y10 y11 y12 => (K y10 y11))) (@Option.none R)))) (@cond (@Option R) (@joins (@List.getD (@Kd.T (@Kd.pr kI (@Kd.pr kI (@Kd.pr Kd.str (@Kd.pr Kd.bool (@Kd.pr (@Kd.sl Kd.str) (@Kd.sl kI))))))) x0 (@Int.toNat x2) (@Kd.zero (@Kd.pr kI (@Kd.pr kI (@Kd.pr Kd.str (@Kd.pr Kd.bool (@Kd.pr (@Kd.sl Kd.str) (@Kd.sl kI)))))))).2.2.1 ((10 : UInt8) :: [])) (@wqz k R x0 x1 (@HAppend.hAppend (@List UInt8) (@List UInt8) (@List UInt8) (@instHAppendOfAppend (@List UInt8) (@List.instAppend UInt8)) (@List.getD (@Kd.T (@Kd.pr kI (@Kd.pr kI (@Kd.pr Kd.str (@Kd.pr Kd.bool (@Kd.pr (@Kd.sl Kd.str) (@Kd.sl kI))))))) x0 (@Int.toNat x2) (@Kd.zero (@Kd.pr kI (@Kd.pr kI (@Kd.pr Kd.str (@Kd.pr Kd.bool (@Kd.pr (@Kd.sl Kd.str) (@Kd.sl kI)))))))).2.2.1 ((10 : UInt8) :: [])) (fun y9 y10 y11 => (K y9 y10))) (@Option.none R))) (@cond (@Option R) (@BEq.beq Int (@instBEqOfDecidableEq Int @Int.instDecidableEq) (@List.getD (@Kd.T (@Kd.pr kI (@Kd.pr kI (@Kd.pr Kd.str (@Kd.pr Kd.bool (@Kd.pr (@Kd.sl Kd.str) (@Kd.sl kI))))))) x0 (@Int.toNat x2) (@Kd.zero (@Kd.pr kI (@Kd.pr kI (@Kd.pr Kd.str (@Kd.pr Kd.bool (@Kd.pr (@Kd.sl Kd.str) (@Kd.sl kI)))))))).1 (2 : Int)) (E1008 x0 x1 x3 (@List.getD (@Kd.T (@Kd.pr kI (@Kd.pr kI (@Kd.pr Kd.str (@Kd.pr Kd.bool (@Kd.pr (@Kd.sl Kd.str) (@Kd.sl kI))))))) x0 (@Int.toNat x2) (@Kd.zero (@Kd.pr kI (@Kd.pr kI (@Kd.pr Kd.str (@Kd.pr Kd.bool (@Kd.pr (@Kd.sl Kd.str) (@Kd.sl kI)))))))).2.2.2.2.2 (@Nat.cast Int instNatCastInt (@List.length (@Kd.T kI) (@List.getD (@Kd.T (@Kd.pr kI (@Kd.pr kI (@Kd.pr Kd.str (@Kd.pr Kd.bool (@Kd.pr (@Kd.sl Kd.str) (@Kd.sl kI))))))) x0 (@Int.toNat x2) (@Kd.zero (@Kd.pr kI (@Kd.pr kI (@Kd.pr Kd.str (@Kd.pr Kd.bool (@Kd.pr (@Kd.sl Kd.str) (@Kd.sl kI)))))))).2.2.2.2.2)) (0 : Int)) (@cond (@Option R) (@BEq.beq Int (@instBEqOfDecidableEq Int @Int.instDecidableEq) (@List.getD (@Kd.T (@Kd.pr kI (@Kd.pr kI (@Kd.pr Kd.str (@Kd.pr Kd.bool (@Kd.pr (@Kd.sl Kd.str) (@Kd.sl kI))))))) x0 (@Int.toNat x2) (@Kd.zero (@Kd.pr kI (@Kd.pr kI (@Kd.pr Kd.str (@Kd.pr Kd.bool (@Kd.pr (@Kd.sl Kd.str) (@Kd.sl kI)))))))).1 (3 : Int)) (E1017 x0 x1 x3 (@List.getD (@Kd.T (@Kd.pr kI (@Kd.pr kI (@Kd.pr Kd.str (@Kd.pr Kd.bool (@Kd.pr (@Kd.sl Kd.str) (@Kd.sl kI))))))) x0 (@Int.toNat x2) (@Kd.zero (@Kd.pr kI (@Kd.pr kI (@Kd.pr Kd.str (@Kd.pr Kd.bool (@Kd.pr (@Kd.sl Kd.str) (@Kd.sl kI)))))))).1 (@List.getD (@Kd.T (@Kd.pr kI (@Kd.pr kI (@Kd.pr Kd.str (@Kd.pr Kd.bool (@Kd.pr (@Kd.sl Kd.str) (@Kd.sl kI))))))) x0 (@Int.toNat x2) (@Kd.zero (@Kd.pr kI (@Kd.pr kI (@Kd.pr Kd.str (@Kd.pr Kd.bool (@Kd.pr (@Kd.sl Kd.str) (@Kd.sl kI)))))))).2.1 (@List.getD (@Kd.T (@Kd.pr kI (@Kd.pr kI (@Kd.pr Kd.str (@Kd.pr Kd.bool (@Kd.pr (@Kd.sl Kd.str) (@Kd.sl kI))))))) x0 (@Int.toNat x2) (@Kd.zero (@Kd.pr kI (@Kd.pr kI (@Kd.pr Kd.str (@Kd.pr Kd.bool (@Kd.pr (@Kd.sl Kd.str) (@Kd.sl kI)))))))).2.2.1 (@List.getD (@Kd.T (@Kd.pr kI (@Kd.pr kI (@Kd.pr Kd.str (@Kd.pr Kd.bool (@Kd.pr (@Kd.sl Kd.str) (@Kd.sl kI))))))) x0 (@Int.toNat x2) (@Kd.zero (@Kd.pr kI (@Kd.pr kI (@Kd.pr Kd.str (@Kd.pr Kd.bool (@Kd.pr (@Kd.sl Kd.str) (@Kd.sl kI)))))))).2.2.2.1 (@List.getD (@Kd.T (@Kd.pr kI (@Kd.pr kI (@Kd.pr Kd.str (@Kd.pr Kd.bool (@Kd.pr (@Kd.sl Kd.str) (@Kd.sl kI))))))) x0 (@Int.toNat x2) (@Kd.zero (@Kd.pr kI (@Kd.pr kI (@Kd.pr Kd.str (@Kd.pr Kd.bool (@Kd.pr (@Kd.sl Kd.str) (@Kd.sl kI)))))))).2.2.2.2.1 (@List.getD (@Kd.T (@Kd.pr kI (@Kd.pr kI (@Kd.pr Kd.str (@Kd.pr Kd.bool (@Kd.pr (@Kd.sl Kd.str) (@Kd.sl kI))))))) x0 (@Int.toNat x2) (@Kd.zero (@Kd.pr kI (@Kd.pr kI (@Kd.pr Kd.str (@Kd.pr Kd.bool (@Kd.pr (@Kd.sl Kd.str) (@Kd.sl kI)))))))).2.2.2.2.2 (@List.getD (@Kd.T (@Kd.pr kI (@Kd.pr kI (@Kd.pr Kd.str (@Kd.pr Kd.bool (@Kd.pr (@Kd.sl Kd.str) (@Kd.sl kI))))))) x0 (@Int.toNat x2) (@Kd.zero (@Kd.pr kI (@Kd.pr kI (@Kd.pr Kd.str (@Kd.pr Kd.bool (@Kd.pr (@Kd.sl Kd.str) (@Kd.sl kI)))))))).2.2.2.2.2 (@Nat.cast Int instNatCastInt (@List.length (@Kd.T kI) (@List.getD (@Kd.T (@Kd.pr kI (@Kd.pr kI (@Kd.pr Kd.str (@Kd.pr Kd.bool (@Kd.pr (@Kd.sl Kd.str) (@Kd.sl kI))))))) x0 (@Int.toNat x2) (@Kd.zero (@Kd.pr kI (@Kd.pr kI (@Kd.pr Kd.str (@Kd.pr Kd.bool (@Kd.pr (@Kd.sl Kd.str) (@Kd.sl kI)))))))).2.2.2.2.2)) (0 : Int)) (K x0 x1)))) (@Option.none R))
theorem wqmx (k : Nat) (wq3 : wq12) (wq4 : wq15) {R : Type} (I : Nat → St → Option R) (x0 : (List (Int × (Int × ((List UInt8) × (Bool × ((List (List UInt8)) × (List Int)))))))) (x1 : (List Int)) (x2 x3 : Int) (K : wq1c R) : fnK (wq6 k wq3 wq4) k wqm 91 [] wq2c [.ptr 1 0, .v (.int .i64) x2, .v (.int .i64) x3] [(21, .row 5 (.int .u8) x1), (1, .var 44 [.v (.sl (.pr (.int .i64) (.pr (.int .i64) (.pr .str (.pr .bool (.pr (.sl .str) (.sl (.int .i64)))))))) x0, .nps 1 1, .row 21])] (wq1m K) = wq8k k wq3 wq4 (fun s0 s1 s2 s3 s4 s5 => iter (wq6 k wq3 wq4).pv (look (wq6 k wq3 wq4).cuts 1008) (execK (wq6 k wq3 wq4) k (at_ [1, 1, 0, 1, 1, 1, 0, 1, 0, 0] wqm)) k (wq40 s0 s1 s2 s3 s4 s5) (konts (wq6 k wq3 wq4) k I [1, 1, 0, 1, 1, 1, 0, 1, 0] wqm (outK (wq6 k wq3 wq4) wq2c [] (wq1m K)))) (fun s0 s1 s2 s3 s4 s5 s6 s7 s8 s9 s10 s11 => iter (wq6 k wq3 wq4).pv (look (wq6 k wq3 wq4).cuts 1017) (execK (wq6 k wq3 wq4) k (at_ [1, 1, 0, 1, 1, 1, 1, 1, 0, 1, 0, 0] wqm)) k (wq41 s0 s1 s2 s3 s4 s5 s6 s7 s8 s9 s10 s11) (konts (wq6 k wq3 wq4) k I [1, 1, 0, 1, 1, 1, 1, 1, 0, 1, 0] wqm (outK (wq6 k wq3 wq4) wq2c [] (wq1m K)))) x0 x1 x2 x3 K := by kernel_rfl
def wq2e (k : Nat) (wq3 : wq12) (wq4 : wq15) {R : Type}  : Nat → (List (Int × (Int × ((List UInt8) × (Bool × ((List (List UInt8)) × (List Int))))))) → (List Int) → Int → Int → Int → (List UInt8) → Bool → (List (List UInt8)) → (List Int) → (List Int) → Int → Int → ((List (Int × (Int × ((List UInt8) × (Bool × ((List (List UInt8)) × (List Int))))))) → (List Int) → Option R) → Option R
  | 0, _, _, _, _, _, _, _, _, _, _, _, _, _ => none
  | n + 1, s0, s1, s2, s3, s4, s5, s6, s7, s8, s9, s10, s11, K => wq5j k wq3 wq4 (fun s0 s1 s2 s3 s4 s5 s6 s7 s8 s9 s10 s11 => wq2e k wq3 wq4  n s0 s1 s2 s3 s4 s5 s6 s7 s8 s9 s10 s11 K) s0 s1 s2 s3 s4 s5 s6 s7 s8 s9 s10 s11 K
theorem wqhh (k : Nat) (wq3 : wq12) (wq4 : wq15) {R : Type} (I : Nat → St → Option R) (K : wq1c R) : ∀ (n : Nat) (s0 : (List (Int × (Int × ((List UInt8) × (Bool × ((List (List UInt8)) × (List Int)))))))) (s1 : (List Int)) (s2 s3 s4 : Int) (s5 : (List UInt8)) (s6 : Bool) (s7 : (List (List UInt8))) (s8 s9 : (List Int)) (s10 s11 : Int), iter (wq6 k wq3 wq4).pv (look (wq6 k wq3 wq4).cuts 1017) (execK (wq6 k wq3 wq4) k (at_ [1, 1, 0, 1, 1, 1, 1, 1, 0, 1, 0, 0] wqm)) n (wq41 s0 s1 s2 s3 s4 s5 s6 s7 s8 s9 s10 s11) (konts (wq6 k wq3 wq4) k I [1, 1, 0, 1, 1, 1, 1, 1, 0, 1, 0] wqm (outK (wq6 k wq3 wq4) wq2c [] (wq1m K))) = wq2e k wq3 wq4  n s0 s1 s2 s3 s4 s5 s6 s7 s8 s9 s10 s11 K := by
  intro n
  induction n with
  | zero => intros; rfl
  | succ n ih =>
    intro s0 s1 s2 s3 s4 s5 s6 s7 s8 s9 s10 s11
    let I' : Nat → St → Option R := fun id s => bif Nat.beq id 1017 then iter (wq6 k wq3 wq4).pv (look (wq6 k wq3 wq4).cuts 1017) (execK (wq6 k wq3 wq4) k (at_ [1, 1, 0, 1, 1, 1, 1, 1, 0, 1, 0, 0] wqm)) n s (konts (wq6 k wq3 wq4) k I [1, 1, 0, 1, 1, 1, 1, 1, 0, 1, 0] wqm (outK (wq6 k wq3 wq4) wq2c [] (wq1m K))) else I id s
    have e := wqhg k wq3 wq4 I' s0 s1 s2 s3 s4 s5 s6 s7 s8 s9 s10 s11 K
    have h1017 : (fun s0 s1 s2 s3 s4 s5 s6 s7 s8 s9 s10 s11 => I' 1017 (wq41 s0 s1 s2 s3 s4 s5 s6 s7 s8 s9 s10 s11)) = (fun s0 s1 s2 s3 s4 s5 s6 s7 s8 s9 s10 s11 => wq2e k wq3 wq4  n s0 s1 s2 s3 s4 s5 s6 s7 s8 s9 s10 s11 K) := by funext s0 s1 s2 s3 s4 s5 s6 s7 s8 s9 s10 s11; exact ih s0 s1 s2 s3 s4 s5 s6 s7 s8 s9 s10 s11
    refine Eq.trans (?_ : _ = _) (e.trans (Eq.trans ((congrArg ((fun E1017 => wq5j k wq3 wq4 E1017 s0 s1 s2 s3 s4 s5 s6 s7 s8 s9 s10 s11 K)) h1017)) (by rw [wq2e])))
    rfl
def wq21 (k : Nat) (wq3 : wq12) (wq4 : wq15) {R : Type}  : Nat → (List (Int × (Int × ((List UInt8) × (Bool × ((List (List UInt8)) × (List Int))))))) → (List Int) → Int → (List Int) → Int → Int → ((List (Int × (Int × ((List UInt8) × (Bool × ((List (List UInt8)) × (List Int))))))) → (List Int) → Option R) → Option R
  | 0, _, _, _, _, _, _, _ => none
  | n + 1, s0, s1, s2, s3, s4, s5, K => wq5i k wq3 wq4 (fun s0 s1 s2 s3 s4 s5 => wq21 k wq3 wq4  n s0 s1 s2 s3 s4 s5 K) s0 s1 s2 s3 s4 s5 K
theorem wqhi (k : Nat) (wq3 : wq12) (wq4 : wq15) {R : Type} (I : Nat → St → Option R) (K : wq1c R) : ∀ (n : Nat) (s0 : (List (Int × (Int × ((List UInt8) × (Bool × ((List (List UInt8)) × (List Int)))))))) (s1 : (List Int)) (s2 : Int) (s3 : (List Int)) (s4 s5 : Int), iter (wq6 k wq3 wq4).pv (look (wq6 k wq3 wq4).cuts 1008) (execK (wq6 k wq3 wq4) k (at_ [1, 1, 0, 1, 1, 1, 0, 1, 0, 0] wqm)) n (wq40 s0 s1 s2 s3 s4 s5) (konts (wq6 k wq3 wq4) k I [1, 1, 0, 1, 1, 1, 0, 1, 0] wqm (outK (wq6 k wq3 wq4) wq2c [] (wq1m K))) = wq21 k wq3 wq4  n s0 s1 s2 s3 s4 s5 K := by
  intro n
  induction n with
  | zero => intros; rfl
  | succ n ih =>
    intro s0 s1 s2 s3 s4 s5
    let I' : Nat → St → Option R := fun id s => bif Nat.beq id 1008 then iter (wq6 k wq3 wq4).pv (look (wq6 k wq3 wq4).cuts 1008) (execK (wq6 k wq3 wq4) k (at_ [1, 1, 0, 1, 1, 1, 0, 1, 0, 0] wqm)) n s (konts (wq6 k wq3 wq4) k I [1, 1, 0, 1, 1, 1, 0, 1, 0] wqm (outK (wq6 k wq3 wq4) wq2c [] (wq1m K))) else I id s
    have e := wqhf k wq3 wq4 I' s0 s1 s2 s3 s4 s5 K
    have h1008 : (fun s0 s1 s2 s3 s4 s5 => I' 1008 (wq40 s0 s1 s2 s3 s4 s5)) = (fun s0 s1 s2 s3 s4 s5 => wq21 k wq3 wq4  n s0 s1 s2 s3 s4 s5 K) := by funext s0 s1 s2 s3 s4 s5; exact ih s0 s1 s2 s3 s4 s5
    refine Eq.trans (?_ : _ = _) (e.trans (Eq.trans ((congrArg ((fun E1008 => wq5i k wq3 wq4 E1008 s0 s1 s2 s3 s4 s5 K)) h1008)) (by rw [wq21])))
    rfl
def wqjs (k : Nat) (wq3 : wq12) (wq4 : wq15) : CTab := (CTab.add 14 wqbi (wq50 wq3) (CTab.add 26 wqjr (wqb8 k) (CTab.add 32 wqe8 (wq68 k) CTab.nil)))
def wqbk {R : Type} (K : wq1c R) : Out → Option R
  | .ret [] [(21, .row 5 (.int .u8) y1), (1, .var 44 [.v (.sl (.pr (.int .i64) (.pr (.int .i64) (.pr .str (.pr .bool (.pr (.sl .str) (.sl (.int .i64)))))))) y0, .nps 1 1, .row 21])] => K y0 y1
  | _ => none
def wqi1 : RetSpec := ⟨[], [(1, .obj 1 [.sl (.pr (.int .i64) (.pr (.int .i64) (.pr .str (.pr .bool (.pr (.sl .str) (.sl (.int .i64))))))), .nps 1 1, .own 21 5 (.int .u8)])], []⟩
def wqoc : List (Nat × CutSpec) := []
def wqmy : List (Nat × Plan) := []
def wqda (k : Nat) (wq3 : wq12) (wq4 : wq15) : Ctx := ⟨tyT, wqoc, wqjs k wq3 wq4, [], [1], wqmy, @SH⟩
def wqbl : Code := Tryd.f27.body.getD .skip
def wqe9 (k : Nat) (wq3 : wq12) (wq4 : wq15) {R : Type}  (x0 : (List (Int × (Int × ((List UInt8) × (Bool × ((List (List UInt8)) × (List Int)))))))) (x1 : (List Int)) (x2 x3 : Int) (K : wq1c R) : Option R := (@cond (@Option R) (@inb x2 (@Nat.cast Int instNatCastInt (@List.length (@Kd.T (@Kd.pr kI (@Kd.pr kI (@Kd.pr Kd.str (@Kd.pr Kd.bool (@Kd.pr (@Kd.sl Kd.str) (@Kd.sl kI))))))) x0))) (@cond (@Option R) (@BEq.beq Int (@instBEqOfDecidableEq Int @Int.instDecidableEq) (@List.getD (@Kd.T (@Kd.pr kI (@Kd.pr kI (@Kd.pr Kd.str (@Kd.pr Kd.bool (@Kd.pr (@Kd.sl Kd.str) (@Kd.sl kI))))))) x0 (@Int.toNat x2) (@Kd.zero (@Kd.pr kI (@Kd.pr kI (@Kd.pr Kd.str (@Kd.pr Kd.bool (@Kd.pr (@Kd.sl Kd.str) (@Kd.sl kI)))))))).1 (1 : Int)) (@wq2s k R x0 x1 (32 : Int) (fun y7 y8 => (wq3 R y7 y8 x2 (@Go.IntKind.wrap Go.IntKind.i64 (@HAdd.hAdd Int Int Int (@instHAdd Int @Int.instAdd) x3 (2 : Int))) (fun y9 y10 => (K y9 y10))))) (@wq2s k R x0 x1 (10 : Int) (fun y7 y8 => (@wq7z k R y7 y8 (@Go.IntKind.wrap Go.IntKind.i64 (@HAdd.hAdd Int Int Int (@instHAdd Int @Int.instAdd) x3 (2 : Int))) (fun y9 y10 => (wq3 R y9 y10 x2 (@Go.IntKind.wrap Go.IntKind.i64 (@HAdd.hAdd Int Int Int (@instHAdd Int @Int.instAdd) x3 (2 : Int))) (fun y11 y12 => (K y11 y12)))))))) (@Option.none R))
theorem wqod (k : Nat) (wq3 : wq12) (wq4 : wq15) {R : Type} (I : Nat → St → Option R) (x0 : (List (Int × (Int × ((List UInt8) × (Bool × ((List (List UInt8)) × (List Int)))))))) (x1 : (List Int)) (x2 x3 : Int) (K : wq1c R) : fnK (wqda k wq3 wq4) k wqbl 33 [] wqi1 [.ptr 1 0, .v (.int .i64) x2, .v (.int .i64) x3] [(21, .row 5 (.int .u8) x1), (1, .var 44 [.v (.sl (.pr (.int .i64) (.pr (.int .i64) (.pr .str (.pr .bool (.pr (.sl .str) (.sl (.int .i64)))))))) x0, .nps 1 1, .row 21])] (wqbk K) = wqe9 k wq3 wq4  x0 x1 x2 x3 K := by kernel_rfl
mutual
def wqb : Nat → (R : Type) → (List (Int × (Int × ((List UInt8) × (Bool × ((List (List UInt8)) × (List Int))))))) → (List Int) → Int → Int → ((List (Int × (Int × ((List UInt8) × (Bool × ((List (List UInt8)) × (List Int))))))) → (List Int) → Option R) → Option R
  | 0, _, _, _, _, _, _ => none
  | k + 1, R, x0, x1, x2, x3, K => wq8k k (wqb k) (FR_show_writer_pair k) (fun s0 s1 s2 s3 s4 s5 => wq21 k (wqb k) (FR_show_writer_pair k) k s0 s1 s2 s3 s4 s5 K) (fun s0 s1 s2 s3 s4 s5 s6 s7 s8 s9 s10 s11 => wq2e k (wqb k) (FR_show_writer_pair k) k s0 s1 s2 s3 s4 s5 s6 s7 s8 s9 s10 s11 K) x0 x1 x2 x3 K
def FR_show_writer_pair : Nat → (R : Type) → (List (Int × (Int × ((List UInt8) × (Bool × ((List (List UInt8)) × (List Int))))))) → (List Int) → Int → Int → ((List (Int × (Int × ((List UInt8) × (Bool × ((List (List UInt8)) × (List Int))))))) → (List Int) → Option R) → Option R
  | 0, _, _, _, _, _, _ => none
  | k + 1, R, x0, x1, x2, x3, K => wqe9 k (wqb k) (FR_show_writer_pair k)  x0 x1 x2 x3 K
end
def wq8l (k : Nat) {R : Type} (x0 : (List (Int × (Int × ((List UInt8) × (Bool × ((List (List UInt8)) × (List Int)))))))) (x1 : (List Int)) (x2 x3 : Int) (K : wq1c R) : Option R := wqb k R x0 x1 x2 x3 K
def wqea (k : Nat) {R : Type} (x0 : (List (Int × (Int × ((List UInt8) × (Bool × ((List (List UInt8)) × (List Int)))))))) (x1 : (List Int)) (x2 x3 : Int) (K : wq1c R) : Option R := FR_show_writer_pair k R x0 x1 x2 x3 K
theorem wqmz (k : Nat) {R : Type} (x0 : (List (Int × (Int × ((List UInt8) × (Bool × ((List (List UInt8)) × (List Int)))))))) (x1 : (List Int)) (x2 x3 : Int) (K : wq1c R) : fnK (wq6 k (wqb k) (FR_show_writer_pair k)) k wqm 91 [] wq2c [.ptr 1 0, .v (.int .i64) x2, .v (.int .i64) x3] [(21, .row 5 (.int .u8) x1), (1, .var 44 [.v (.sl (.pr (.int .i64) (.pr (.int .i64) (.pr .str (.pr .bool (.pr (.sl .str) (.sl (.int .i64)))))))) x0, .nps 1 1, .row 21])] (wq1m K) = wqb (k + 1) R x0 x1 x2 x3 K := by
  rw [wqb]
  let I : Nat → St → Option R := fun _ _ => none
  have h1008 : (fun s0 s1 s2 s3 s4 s5 => iter (wq6 k (wqb k) (FR_show_writer_pair k)).pv (look (wq6 k (wqb k) (FR_show_writer_pair k)).cuts 1008) (execK (wq6 k (wqb k) (FR_show_writer_pair k)) k (at_ [1, 1, 0, 1, 1, 1, 0, 1, 0, 0] wqm)) k (wq40 s0 s1 s2 s3 s4 s5) (konts (wq6 k (wqb k) (FR_show_writer_pair k)) k I [1, 1, 0, 1, 1, 1, 0, 1, 0] wqm (outK (wq6 k (wqb k) (FR_show_writer_pair k)) wq2c [] (wq1m K)))) = (fun s0 s1 s2 s3 s4 s5 => wq21 k (wqb k) (FR_show_writer_pair k) k s0 s1 s2 s3 s4 s5 K) := by funext s0 s1 s2 s3 s4 s5; exact wqhi k (wqb k) (FR_show_writer_pair k) I K k s0 s1 s2 s3 s4 s5
  have h1017 : (fun s0 s1 s2 s3 s4 s5 s6 s7 s8 s9 s10 s11 => iter (wq6 k (wqb k) (FR_show_writer_pair k)).pv (look (wq6 k (wqb k) (FR_show_writer_pair k)).cuts 1017) (execK (wq6 k (wqb k) (FR_show_writer_pair k)) k (at_ [1, 1, 0, 1, 1, 1, 1, 1, 0, 1, 0, 0] wqm)) k (wq41 s0 s1 s2 s3 s4 s5 s6 s7 s8 s9 s10 s11) (konts (wq6 k (wqb k) (FR_show_writer_pair k)) k I [1, 1, 0, 1, 1, 1, 1, 1, 0, 1, 0] wqm (outK (wq6 k (wqb k) (FR_show_writer_pair k)) wq2c [] (wq1m K)))) = (fun s0 s1 s2 s3 s4 s5 s6 s7 s8 s9 s10 s11 => wq2e k (wqb k) (FR_show_writer_pair k) k s0 s1 s2 s3 s4 s5 s6 s7 s8 s9 s10 s11 K) := by funext s0 s1 s2 s3 s4 s5 s6 s7 s8 s9 s10 s11; exact wqhh k (wqb k) (FR_show_writer_pair k) I K k s0 s1 s2 s3 s4 s5 s6 s7 s8 s9 s10 s11
  exact (wqmx k (wqb k) (FR_show_writer_pair k) I x0 x1 x2 x3 K).trans (Eq.trans (congrFun (congrArg ((fun E1008 E1017 => wq8k k (wqb k) (FR_show_writer_pair k) E1008 E1017 x0 x1 x2 x3 K)) h1008) _) (congrArg ((fun E1008 E1017 => wq8k k (wqb k) (FR_show_writer_pair k) E1008 E1017 x0 x1 x2 x3 K) (fun s0 s1 s2 s3 s4 s5 => wq21 k (wqb k) (FR_show_writer_pair k) k s0 s1 s2 s3 s4 s5 K)) h1017))
def wq4i (k : Nat) {R : Type} : List PV → List (Nm × HObj) → (Out → Option R) → Option R
  | [.ptr 1 0, .v (.int .i64) x2, .v (.int .i64) x3], [(21, .row 5 (.int .u8) x1), (1, .var 44 [.v (.sl (.pr (.int .i64) (.pr (.int .i64) (.pr .str (.pr .bool (.pr (.sl .str) (.sl (.int .i64)))))))) x0, .nps 1 1, .row 21])], K => wq8l k x0 x1 x2 x3 (fun y0 y1 => K (.ret [] [(21, .row 5 (.int .u8) y1), (1, .var 44 [.v (.sl (.pr (.int .i64) (.pr (.int .i64) (.pr .str (.pr .bool (.pr (.sl .str) (.sl (.int .i64)))))))) y0, .nps 1 1, .row 21])]))
  | _, _, _ => none
theorem wqoe (k : Nat) {R : Type} (x0 : (List (Int × (Int × ((List UInt8) × (Bool × ((List (List UInt8)) × (List Int)))))))) (x1 : (List Int)) (x2 x3 : Int) (K : wq1c R) : fnK (wqda k (wqb k) (FR_show_writer_pair k)) k wqbl 33 [] wqi1 [.ptr 1 0, .v (.int .i64) x2, .v (.int .i64) x3] [(21, .row 5 (.int .u8) x1), (1, .var 44 [.v (.sl (.pr (.int .i64) (.pr (.int .i64) (.pr .str (.pr .bool (.pr (.sl .str) (.sl (.int .i64)))))))) x0, .nps 1 1, .row 21])] (wqbk K) = FR_show_writer_pair (k + 1) R x0 x1 x2 x3 K := by
  rw [FR_show_writer_pair]
  exact wqod k (wqb k) (FR_show_writer_pair k) (fun _ _ => none) x0 x1 x2 x3 K
def wq80 (k : Nat) {R : Type} : List PV → List (Nm × HObj) → (Out → Option R) → Option R
  | [.ptr 1 0, .v (.int .i64) x2, .v (.int .i64) x3], [(21, .row 5 (.int .u8) x1), (1, .var 44 [.v (.sl (.pr (.int .i64) (.pr (.int .i64) (.pr .str (.pr .bool (.pr (.sl .str) (.sl (.int .i64)))))))) x0, .nps 1 1, .row 21])], K => wqea k x0 x1 x2 x3 (fun y0 y1 => K (.ret [] [(21, .row 5 (.int .u8) y1), (1, .var 44 [.v (.sl (.pr (.int .i64) (.pr (.int .i64) (.pr .str (.pr .bool (.pr (.sl .str) (.sl (.int .i64)))))))) y0, .nps 1 1, .row 21])]))
  | _, _, _ => none
theorem wqn0 (k : Nat) (wq3 : wq12) (wq4 : wq15) (wqck : ∀ {ps : List PV} {hp : List (Nm × HObj)} {R : Type} {K : Out → Option R} {r : R}, wq50 wq3 ps hp K = some r → DoesTo Tryd.prog 14 ps hp fun out => K out = some r) (wqta : ∀ {ps : List PV} {hp : List (Nm × HObj)} {R : Type} {K : Out → Option R} {r : R}, wqbj wq4 ps hp K = some r → DoesTo Tryd.prog 27 ps hp fun out => K out = some r) : (wqi0 k wq3 wq4).Ok Tryd.prog := (CTab.add_ok (fun h => wqck h) (CTab.add_ok (fun h => wq19w k h) (CTab.add_ok (fun h => wq96 k h) (CTab.add_ok (fun h => wqmv k h) (CTab.add_ok (fun h => wqta h) CTab.nil_ok)))))
theorem wqof (k : Nat) (wq3 : wq12) (wq4 : wq15) (wqck : ∀ {ps : List PV} {hp : List (Nm × HObj)} {R : Type} {K : Out → Option R} {r : R}, wq50 wq3 ps hp K = some r → DoesTo Tryd.prog 14 ps hp fun out => K out = some r) : (wqjs k wq3 wq4).Ok Tryd.prog := (CTab.add_ok (fun h => wqck h) (CTab.add_ok (fun h => wqmv k h) (CTab.add_ok (fun h => wqfg k h) CTab.nil_ok)))
theorem wqgs : ∀ k : Nat, (∀ {ps : List PV} {hp : List (Nm × HObj)} {R : Type} {K : Out → Option R} {r : R}, wq4i k ps hp K = some r → DoesTo Tryd.prog 14 ps hp fun out => K out = some r) ∧ (∀ {ps : List PV} {hp : List (Nm × HObj)} {R : Type} {K : Out → Option R} {r : R}, wq80 k ps hp K = some r → DoesTo Tryd.prog 27 ps hp fun out => K out = some r) := by
  intro k
  induction k with
  | zero =>
    refine ⟨?_, ?_⟩
    · intro ps hp R K r h
      unfold wq4i at h
      split at h
      · unfold wq8l at h; rw [wqb] at h; cases h
      · cases h
    · intro ps hp R K r h
      unfold wq80 at h
      split at h
      · unfold wqea at h; rw [FR_show_writer_pair] at h; cases h
      · cases h
  | succ k ih =>
    obtain ⟨ih_show_writer_block, ih_show_writer_pair⟩ := ih
    refine ⟨?_, ?_⟩
    · intro ps hp R K r h
      unfold wq4i at h
      split at h
      · unfold wq8l at h; rw [← wqmz] at h
        have := fn_ok (P := Tryd.prog) (cx := wq6 k (wqb k) (FR_show_writer_pair k)) (f := 14) ⟨tyT_ok, wqn0 k (wqb k) (FR_show_writer_pair k) (fun h => ih_show_writer_block (by unfold wq50 at h; unfold wq4i; exact h)) (fun h => ih_show_writer_pair (by unfold wqbj at h; unfold wq80; exact h)), fun _ _ => rfl⟩ (by kernel_rfl) (fn := Tryd.f14) (c := wqm) (by kernel_rfl) (by kernel_rfl) (by kernel_rfl) (rs := []) (by kernel_rfl) (by kernel_rfl) h
        exact this.mono fun out ho => by
          unfold wq1m at ho
          split at ho <;> first | exact ho | cases ho
      · cases h
    · intro ps hp R K r h
      unfold wq80 at h
      split at h
      · unfold wqea at h; rw [← wqoe] at h
        have := fn_ok (P := Tryd.prog) (cx := wqda k (wqb k) (FR_show_writer_pair k)) (f := 27) ⟨tyT_ok, wqof k (wqb k) (FR_show_writer_pair k) (fun h => ih_show_writer_block (by unfold wq50 at h; unfold wq4i; exact h)), fun _ _ => rfl⟩ (by kernel_rfl) (fn := Tryd.f27) (c := wqbl) (by kernel_rfl) (by kernel_rfl) (by kernel_rfl) (rs := []) (by kernel_rfl) (by kernel_rfl) h
        exact this.mono fun out ho => by
          unfold wqbk at ho
          split at ho <;> first | exact ho | cases ho
      · cases h
theorem wqsf (k : Nat) {ps : List PV} {hp : List (Nm × HObj)} {R : Type} {K : Out → Option R} {r : R} (h : wq4i k ps hp K = some r) : DoesTo Tryd.prog 14 ps hp fun out => K out = some r := (wqgs k).1 h
theorem wq1c2 (k : Nat) {ps : List PV} {hp : List (Nm × HObj)} {R : Type} {K : Out → Option R} {r : R} (h : wq80 k ps hp K = some r) : DoesTo Tryd.prog 27 ps hp fun out => K out = some r := (wqgs k).2 h
end Go.Proofs.YtdfhgimidmfgfaaDoor.Pvm
namespace Go.Proofs.YtdfhgimidmfgfaaDoor.Pvm
open Go Go.Proofs
def wqiq : List LS := [.obj 1 [.sl (.pr (.int .i64) (.pr (.int .i64) (.pr .str (.pr .bool (.pr (.sl .str) (.sl (.int .i64))))))), .nps 1 1, .own 21 5 (.int .u8)]]
def wqdb (k : Nat) : CTab := CTab.nil
def wq87 {R : Type} (K : ((List (Int × (Int × ((List UInt8) × (Bool × ((List (List UInt8)) × (List Int))))))) → (List Int) → Int → Option R)) : Out → Option R
  | .ret [.v (.int .i64) y2] [(21, .row 5 (.int .u8) y1), (1, .var 44 [.v (.sl (.pr (.int .i64) (.pr (.int .i64) (.pr .str (.pr .bool (.pr (.sl .str) (.sl (.int .i64)))))))) y0, .nps 1 1, .row 21])] => K y0 y1 y2
  | _ => none
def wqcp : RetSpec := ⟨[.any], [(1, .obj 1 [.sl (.pr (.int .i64) (.pr (.int .i64) (.pr .str (.pr .bool (.pr (.sl .str) (.sl (.int .i64))))))), .nps 1 1, .own 21 5 (.int .u8)])], []⟩
def wqhj : List (Nat × CutSpec) := []
def wqgt : List (Nat × Plan) := []
def wq97 (k : Nat) : Ctx := ⟨tyT, wqhj, wqdb k, [], [1], wqgt, @SH⟩
def wq88 : Code := Tryd.f15.body.getD .skip
def wq9q (k : Nat) {R : Type}  (x0 : (List (Int × (Int × ((List UInt8) × (Bool × ((List (List UInt8)) × (List Int)))))))) (x1 : (List Int)) (K : ((List (Int × (Int × ((List UInt8) × (Bool × ((List (List UInt8)) × (List Int))))))) → (List Int) → Int → Option R)) : Option R := (K x0 x1 (@Nat.cast Int instNatCastInt (@List.length (@Kd.T (@Kd.int Go.IntKind.u8)) x1)))
theorem wqhk (k : Nat) {R : Type} (I : Nat → St → Option R) (x0 : (List (Int × (Int × ((List UInt8) × (Bool × ((List (List UInt8)) × (List Int)))))))) (x1 : (List Int)) (K : ((List (Int × (Int × ((List UInt8) × (Bool × ((List (List UInt8)) × (List Int))))))) → (List Int) → Int → Option R)) : fnK (wq97 k) k wq88 8 [.tmp 2] wqcp [.ptr 1 1] [(21, .row 5 (.int .u8) x1), (1, .var 44 [.v (.sl (.pr (.int .i64) (.pr (.int .i64) (.pr .str (.pr .bool (.pr (.sl .str) (.sl (.int .i64)))))))) x0, .nps 1 1, .row 21])] (wq87 K) = wq9q k  x0 x1 K := by kernel_rfl
def wq7b (k : Nat) {R : Type} (x0 : (List (Int × (Int × ((List UInt8) × (Bool × ((List (List UInt8)) × (List Int)))))))) (x1 : (List Int)) (K : ((List (Int × (Int × ((List UInt8) × (Bool × ((List (List UInt8)) × (List Int))))))) → (List Int) → Int → Option R)) : Option R := wq9q k  x0 x1 K
theorem wqhl (k : Nat) {R : Type} (x0 : (List (Int × (Int × ((List UInt8) × (Bool × ((List (List UInt8)) × (List Int)))))))) (x1 : (List Int)) (K : ((List (Int × (Int × ((List UInt8) × (Bool × ((List (List UInt8)) × (List Int))))))) → (List Int) → Int → Option R)) : fnK (wq97 k) k wq88 8 [.tmp 2] wqcp [.ptr 1 1] [(21, .row 5 (.int .u8) x1), (1, .var 44 [.v (.sl (.pr (.int .i64) (.pr (.int .i64) (.pr .str (.pr .bool (.pr (.sl .str) (.sl (.int .i64)))))))) x0, .nps 1 1, .row 21])] (wq87 K) = wq7b k x0 x1 K := by
  exact wqhk k (fun _ _ => none) x0 x1 K
def wq8v (k : Nat) {R : Type} : List PV → List (Nm × HObj) → (Out → Option R) → Option R
  | [.ptr 1 1], [(21, .row 5 (.int .u8) x1), (1, .var 44 [.v (.sl (.pr (.int .i64) (.pr (.int .i64) (.pr .str (.pr .bool (.pr (.sl .str) (.sl (.int .i64)))))))) x0, .nps 1 1, .row 21])], K => wq7b k x0 x1 (fun y0 y1 y2 => K (.ret [.v (.int .i64) y2] [(21, .row 5 (.int .u8) y1), (1, .var 44 [.v (.sl (.pr (.int .i64) (.pr (.int .i64) (.pr .str (.pr .bool (.pr (.sl .str) (.sl (.int .i64)))))))) y0, .nps 1 1, .row 21])]))
  | _, _, _ => none
theorem wqhm (k : Nat) : (wqdb k).Ok Tryd.prog := CTab.nil_ok
theorem wqks (k : Nat) {ps : List PV} {hp : List (Nm × HObj)} {R : Type} {K : Out → Option R} {r : R} (h : wq8v k ps hp K = some r) : DoesTo Tryd.prog 15 ps hp fun out => K out = some r := by
  unfold wq8v at h
  split at h
  · rw [← wqhl] at h
    have := fn_ok (P := Tryd.prog) (cx := wq97 k) (f := 15) ⟨tyT_ok, wqhm k, fun _ _ => rfl⟩ (by kernel_rfl) (fn := Tryd.f15) (c := wq88) (by kernel_rfl) (by kernel_rfl) (by kernel_rfl) (rs := [.tmp 2]) (by kernel_rfl) (by kernel_rfl) h
    exact this.mono fun out ho => by
      unfold wq87 at ho
      split at ho <;> first | exact ho | cases ho
  · cases h
end Go.Proofs.YtdfhgimidmfgfaaDoor.Pvm
set_option maxHeartbeats 2000000
set_option maxRecDepth 100000
namespace Go.Proofs.YtdfhgimidmfgfaaDoor.Pvm
open Go Go.Proofs Go.RowKit
theorem wq11j (b g cap : Nat) (d p : Value) (l : List UInt8) (cur : Array Value) (w : World) (hbk : w.heap[b]? = some (.cells #[d, p, .slice (some ⟨g, 0, none⟩) l.length cap] 44 (0, 0))) (h0 : l ≠ [])
    (hg : w.heap[g]? = some (.cells cur 5 (0, 0))) (hnc : l.length ≤ cap) (hcm : cap ≤ maxLen) (hcs : cur.size = cap) (htake : ∀ (j : Nat) (x : UInt8), l[j]? = some x → w.cell? ⟨g, j, none⟩ = some (.int .u8 x.toNat)) :
    Calls Tryd.prog 16 #[.pointer (some ⟨b, 1, none⟩)] w fun e w' => e = .returned (.string ⟨l.toArray⟩) ∧ w' = w.drew.freeze ⟨g, 0, none⟩ l.length := by
  have hl0 : l.length ≠ 0 := by simpa using h0
  have mixed : Tryd.prog.follows .mixedOrders = true := by kernel_rfl
  have t86 : Tryd.prog.underlying 60 = some (.pointer 5) := by kernel_rfl
  have c1 : w.drew.cell? ⟨b, 2, none⟩ = some (.slice (some ⟨g, 0, none⟩) l.length cap) := by
    have : w.drew.heap[b]? = some (.cells #[d, p, .slice (some ⟨g, 0, none⟩) l.length cap] 44 (0, 0)) := hbk
    rw [Lib.cell_of_heap this]; rfl
  have hSD : (Builtin.unsafeSliceData_ #[27] 60 #[.slice (some ⟨g, 0, none⟩) l.length cap]).run Tryd.prog w.drew = .ok (.pointer (some ⟨g, 0, none⟩)) w.drew :=
    Lib.run_unsafeSliceData_row _ _ _ _ _ _ (by omega)
  have hUS : (Builtin.unsafeString_ #[60, 3] 9 #[.pointer (some ⟨g, 0, none⟩), .int .i64 l.length]).run Tryd.prog w.drew = .ok (.string ⟨l.toArray⟩) (w.drew.freeze ⟨g, 0, none⟩ l.length) := by
    refine Lib.run_unsafeString_row w.drew 60 3 9 5 t86 (by kernel_rfl) g cur.size (by have hg' : w.drew.heap[g]? = some (.cells cur 5 (0, 0)) := hg; simp [World.shape?, hg']) l h0 (by omega) (by unfold maxLen at hcm; omega) ?_
    intro j x hx
    have := htake j x hx
    rw [show (⟨g, 0, none⟩ : Addr).add j = ⟨g, j, none⟩ by simp [Addr.add]; omega]
    exact this
  go_enter Tryd.func16, Tryd.ntmps16
  go_wp2
  go_region_o
  all_goals (go_wp2; go_ret; exact ⟨rfl, rfl⟩)
theorem wq17l (b : Nat) (d p : Value) (w : World) (hbk : w.heap[b]? = some (.cells #[d, p, .slice none 0 0] 44 (0, 0))) :
    Calls Tryd.prog 16 #[.pointer (some ⟨b, 1, none⟩)] w fun e w' => e = .returned (.string ⟨#[]⟩) ∧ w' = w.drew := by
  have hUS := wq13a
  have mixed : Tryd.prog.follows .mixedOrders = true := by kernel_rfl
  have c1 : w.drew.cell? ⟨b, 2, none⟩ = some (.slice none 0 0) := by
    have : w.drew.heap[b]? = some (.cells #[d, p, .slice none 0 0] 44 (0, 0)) := hbk
    rw [Lib.cell_of_heap this]; rfl
  have hSD : (Builtin.unsafeSliceData_ #[27] 60 #[.slice none 0 0]).run Tryd.prog w.drew = .ok (.pointer none) w.drew := rfl
  go_enter Tryd.func16, Tryd.ntmps16
  go_wp2
  go_region_o
  all_goals (go_wp2; go_ret; exact ⟨rfl, rfl⟩)
theorem wq14z (b g cap : Nat) (d p : Value) (w : World) (hc0 : cap ≠ 0) (hbk : w.heap[b]? = some (.cells #[d, p, .slice (some ⟨g, 0, none⟩) 0 cap] 44 (0, 0))) :
    Calls Tryd.prog 16 #[.pointer (some ⟨b, 1, none⟩)] w fun e w' => e = .returned (.string ⟨#[]⟩) ∧ w' = w.drew := by
  have hUS := wq13a
  have mixed : Tryd.prog.follows .mixedOrders = true := by kernel_rfl
  have c1 : w.drew.cell? ⟨b, 2, none⟩ = some (.slice (some ⟨g, 0, none⟩) 0 cap) := by
    have : w.drew.heap[b]? = some (.cells #[d, p, .slice (some ⟨g, 0, none⟩) 0 cap] 44 (0, 0)) := hbk
    rw [Lib.cell_of_heap this]; rfl
  have hSD : (Builtin.unsafeSliceData_ #[27] 60 #[.slice (some ⟨g, 0, none⟩) 0 cap]).run Tryd.prog w.drew = .ok (.pointer (some ⟨g, 0, none⟩)) w.drew :=
    Lib.run_unsafeSliceData_row _ _ _ _ _ _ hc0
  clear hc0
  go_enter Tryd.func16, Tryd.ntmps16
  go_wp2
  go_region_o
  all_goals (go_wp2; go_ret; exact ⟨rfl, rfl⟩)
theorem wqys (b g : Nat) (d p : Value) (cur : Array Value) (w : World) (hbk : w.heap[b]? = some (.cells #[d, p, .slice (some ⟨g, 0, none⟩) 0 0] 44 (0, 0))) (hg : w.heap[g]? = some (.cells cur 5 (0, 0))) :
    Calls Tryd.prog 16 #[.pointer (some ⟨b, 1, none⟩)] w fun e w' => e = .returned (.string ⟨#[]⟩) ∧ ∃ o, w' = (w.alloc o).drew := by
  have hUS := wq13a
  have hlt : b < w.heap.size := (Array.getElem?_eq_some_iff.1 hbk).1
  have mixed : Tryd.prog.follows .mixedOrders = true := by kernel_rfl
  have c1 : w.drew.cell? ⟨b, 2, none⟩ = some (.slice (some ⟨g, 0, none⟩) 0 0) := by
    have : w.drew.heap[b]? = some (.cells #[d, p, .slice (some ⟨g, 0, none⟩) 0 0] 44 (0, 0)) := hbk
    rw [Lib.cell_of_heap this]; rfl
  have hSD : (Builtin.unsafeSliceData_ #[27] 60 #[.slice (some ⟨g, 0, none⟩) 0 0]).run Tryd.prog w.drew = .ok (.pointer (some ⟨w.drew.heap.size, 0, none⟩)) (w.drew.alloc (.view ⟨g, 0, none⟩ 5)) :=
    Lib.run_unsafeSliceData_zero w.drew _ _ 5 (by kernel_rfl) ⟨g, 0, none⟩ 0 (5, cur.size) (by have hg' : w.drew.heap[g]? = some (.cells cur 5 (0, 0)) := hg; simp [World.shape?, hg'])
  have c2 : (w.drew.alloc (.view ⟨g, 0, none⟩ 5)).cell? ⟨b, 2, none⟩ = some (.slice (some ⟨g, 0, none⟩) 0 0) := by
    have : (w.drew.alloc (.view ⟨g, 0, none⟩ 5)).heap[b]? = _ := (Lib.alloc_old w.drew _ b hlt).trans hbk
    rw [Lib.cell_of_heap this]; rfl
  have c3 : (w.alloc (.view ⟨g, 0, none⟩ 5)).drew.cell? ⟨b, 2, none⟩ = some (.slice (some ⟨g, 0, none⟩) 0 0) := c2
  have c0 : w.cell? ⟨b, 2, none⟩ = some (.slice (some ⟨g, 0, none⟩) 0 0) := c1
  go_enter Tryd.func16, Tryd.ntmps16
  go_wp2
  go_region_o
  all_goals (go_wp2; go_ret; exact ⟨rfl, _, rfl⟩)
def wqfu : List LS := [.obj 1 [.sl (.pr (.int .i64) (.pr (.int .i64) (.pr .str (.pr .bool (.pr (.sl .str) (.sl (.int .i64))))))), .nps 1 1, .own 21 5 (.int .u8)]]
def wq5v (k : Nat) {R : Type} (d0 : (List (Int × (Int × ((List UInt8) × (Bool × ((List (List UInt8)) × (List Int)))))))) (x0 : List Int) (K : (List (Int × (Int × ((List UInt8) × (Bool × ((List (List UInt8)) × (List Int))))))) → List Int → List UInt8 → Option R) : Option R := bif allB x0 then K d0 x0 (wq6q x0) else none
def wq7c (k : Nat) {R : Type} : List PV → List (Nm × HObj) → (Out → Option R) → Option R
  | [.ptr 1 1], [(21, .row 5 (.int .u8) x0), (1, .var 44 [.v (.sl (.pr (.int .i64) (.pr (.int .i64) (.pr .str (.pr .bool (.pr (.sl .str) (.sl (.int .i64)))))))) d0, .nps 1 1, .row 21])], K => wq5v k d0 x0 (fun d1 y0 y1 => K (.ret [.v .str y1] [(1, .var 44 [.v (.sl (.pr (.int .i64) (.pr (.int .i64) (.pr .str (.pr .bool (.pr (.sl .str) (.sl (.int .i64)))))))) d1, .nps 1 1, .v (.sl (.int .u8)) y0])]))
  | _, _, _ => none
theorem wqdc (vs : Array Value) (w : World) : (callFunc 16 vs).run Tryd.prog w = .ok (.enter 16 vs) w := by
  have h1 : Tryd.prog.funcs[16]? = some Tryd.f16 := by kernel_rfl
  have h2 : (Tryd.f16.name == "runtime.NumGoroutine") = false := by kernel_rfl
  have h3 : Tryd.f16.body.isNone = false := by kernel_rfl
  unfold callFunc
  rw [Sem.run_bind]
  have e2 : (program).run Tryd.prog w = .ok Tryd.prog w := rfl
  rw [e2, Result.andThen_ok, h1]
  simp only [h2, h3, Bool.false_eq_true, if_false]
  rfl
theorem wq11k {G : Gh} {w w' : World} {d0 : (List (Int × (Int × ((List UInt8) × (Bool × ((List (List UInt8)) × (List Int)))))))} {x0 : List Int} {HP : List (Nm × HObj)} (hHP : HP = [(21, .row 5 (.int .u8) x0), (1, .var 44 [.v (.sl (.pr (.int .i64) (.pr (.int .i64) (.pr .str (.pr .bool (.pr (.sl .str) (.sl (.int .i64)))))))) d0, .nps 1 1, .row 21])])
    (obj : ∀ n o, mkH HP n = some o → RO (mkH HP) G w n o) (dis : Dis (mkH HP) G w) (hblk : ∀ b, b < w.heap.size → (∀ g, (G.rv 21).ownBlock = some g → b ≠ g) → w'.heap[b]? = w.heap[b]?)
    (hcell : ∀ g o, (G.rv 21).ownBlock = some g → w'.cell? ⟨g, o, none⟩ = w.cell? ⟨g, o, none⟩) (grow : w.heap.size ≤ w'.heap.size) (os : w'.os = w.os) (tape : w'.tape = w.tape) (out : w'.output = w.output) :
    Fin HP [(1, .var 44 [.v (.sl (.pr (.int .i64) (.pr (.int .i64) (.pr .str (.pr .bool (.pr (.sl .str) (.sl (.int .i64)))))))) d0, .nps 1 1, .v (.sl (.int .u8)) x0])] G w G w' := by
  have l1 : mkH HP 1 = some (.var 44 [.v (.sl (.pr (.int .i64) (.pr (.int .i64) (.pr .str (.pr .bool (.pr (.sl .str) (.sl (.int .i64)))))))) d0, .nps 1 1, .row 21]) := by subst hHP; rfl
  have l2 : mkH HP 21 = some (.row 5 (.int .u8) x0) := by subst hHP; rfl
  generalize hHS : [((1 : Nm), HObj.var 44 [.v (.sl (.pr (.int .i64) (.pr (.int .i64) (.pr .str (.pr .bool (.pr (.sl .str) (.sl (.int .i64)))))))) d0, .nps 1 1, .v (.sl (.int .u8)) x0])] = HS
  have m1 : mkH HS 1 = some (.var 44 [.v (.sl (.pr (.int .i64) (.pr (.int .i64) (.pr .str (.pr .bool (.pr (.sl .str) (.sl (.int .i64)))))))) d0, .nps 1 1, .v (.sl (.int .u8)) x0]) := by subst hHS; rfl
  have mo : ∀ n o, mkH HS n = some o → n = 1 := by
    intro n o h
    subst hHS
    simp only [mkH, look] at h
    cases hb : Nat.beq 1 n with
    | true => exact (Nat.eq_of_beq_eq_true hb).symm
    | false => rw [hb] at h; cases h
  have bk1 : blkOf (mkH HP) G 1 = some (G.bk 1) := by simp [blkOf, l1]
  have bk2 : blkOf (mkH HP) G 21 = (G.rv 21).ownBlock := by simp [blkOf, l2]
  have ck1 : blkOf (mkH HS) G 1 = some (G.bk 1) := by simp [blkOf, m1]
  have ck : ∀ n b, blkOf (mkH HS) G n = some b → n = 1 ∧ b = G.bk 1 := by
    intro n b h
    cases hn : mkH HS n with
    | none => simp [blkOf, hn] at h
    | some o => have := mo n o hn; subst this; rw [ck1] at h; cases h; exact ⟨rfl, rfl⟩
  have hne : ∀ g, (G.rv 21).ownBlock = some g → G.bk 1 ≠ g := fun g hg e => by
    have := dis.inj 1 21 g (by rw [bk1, e]) (by rw [bk2, hg])
    cases this
  obtain ⟨vs, hw, q0, t0, rfl, hq0, q1, t1, rfl, hq1, q2, t2, rfl, hq2, rfl⟩ := obj 1 _ l1
  obtain ⟨rfl, _⟩ := hq2
  have hlt : G.bk 1 < w.heap.size := (Array.getElem?_eq_some_iff.1 hw).1
  have hw' : w'.heap[G.bk 1]? = some (.cells [q0, q1, G.rv 21].toArray 44 (0, 0)) := by rw [hblk _ hlt hne]; exact hw
  have hmono : ∀ b, okB (mkH HP) G b → b < w.heap.size → okB (mkH HS) G b ∧ w'.heap[b]? = w.heap[b]? := fun b ho hb =>
    ⟨⟨fun n hn => by obtain ⟨_, e⟩ := ck n b hn; exact ho.1 1 (by rw [bk1, e]), ho.2⟩, hblk b hb fun g hg e => ho.1 21 (by rw [bk2, hg, e])⟩
  have hdat : RD w' (okB (mkH HS) G) (.sl (.int .u8)) x0 [G.rv 21] := by
    have hro := obj 21 _ l2
    obtain ⟨us, hown, hr, _⟩ := hro
    rcases hown.2 with ⟨hv, hn⟩ | ⟨g, cap, cur, hv, _, hgb, hnc, hcm, hcs, _⟩
    · exact ⟨none, 0, by rw [hv, hn], by omega, .inl (List.eq_nil_of_length_eq_zero hn)⟩
    · have hgo : (G.rv 21).ownBlock = some g := by rw [hv]; rfl
      refine ⟨_, cap, by rw [hv], hnc, .inr ⟨_, rfl, ?_, ?_, ?_⟩⟩
      · refine ⟨fun n hn => ?_, fun hx => dis.xo 21 g (by rw [bk2, hgo]) hx⟩
        obtain ⟨_, e⟩ := ck n g hn
        exact hne g hgo e.symm
      · have : g < w.heap.size := (Array.getElem?_eq_some_iff.1 hgb).1
        exact Nat.lt_of_lt_of_le this grow
      · intro i y hy
        obtain ⟨c, hc, hu⟩ := hr.get i y hy
        refine ⟨c, hc, fun j u hj => ?_⟩
        have := hown.cells hgo _ _ (hu j u hj)
        rw [Addr.add_lit] at this ⊢
        rw [hcell g _ hgo]
        exact this
  refine ⟨fun n o hn => ?_, fun n m b h1 h2 => (ck n b h1).1.trans (ck m b h2).1.symm, fun n t cs hn o ho => ?_, fun n ag V es hn o ho => (wqhp (by rw [hHP]; rfl) hn).elim, fun b hb hf => hblk b hb fun g hg e => hf 21 (by rw [bk2, hg, e]), rfl, fun n b hn => .inl ⟨1, by rw [(ck n b hn).2]; exact bk1⟩, grow, os, tape, out⟩
  · have := mo n o hn; subst this
    rw [m1] at hn; cases hn
    refine ⟨_, hw', _, _, rfl, RD.mono hmono hq0, _, _, rfl, ?_, _, _, rfl, hdat, rfl⟩
    rcases hq1 with h | ⟨h, _⟩
    · exact .inl h
    · exact .inr ⟨h, _, _, m1⟩
  · have e1 := mo n o ho
    subst e1
    have e2 : mkH HS 1 = some o := ho
    have e3 : mkH HP 1 = some (.var t cs) := hn
    rw [m1] at e2; rw [l1] at e3; cases e2; cases e3
    exact ⟨⟨_, rfl⟩, rfl⟩
theorem wqhn (k : Nat) {ps : List PV} {hp : List (Nm × HObj)} {R : Type} {K : Out → Option R} {r : R} (h : wq7c k ps hp K = some r) : DoesTo Tryd.prog 16 ps hp fun out => K out = some r := by
  unfold wq7c at h
  split at h
  · next x0 d0 =>
    intro G w vals hr obj dis
    unfold wq5v at h
    cases hb : allB x0 with
    | false => rw [hb] at h; cases h
    | true =>
      rw [hb, cond_true] at h
      obtain ⟨v0, l0, rfl, h0, rfl⟩ := hr
      obtain ⟨rfl, _⟩ := h0
      generalize hHP : [(21, HObj.row 5 (.int .u8) x0), (1, .var 44 [.v (.sl (.pr (.int .i64) (.pr (.int .i64) (.pr .str (.pr .bool (.pr (.sl .str) (.sl (.int .i64)))))))) d0, .nps 1 1, .row 21])] = HP at *
      have l1 : mkH HP 1 = some (.var 44 [.v (.sl (.pr (.int .i64) (.pr (.int .i64) (.pr .str (.pr .bool (.pr (.sl .str) (.sl (.int .i64)))))))) d0, .nps 1 1, .row 21]) := by subst hHP; rfl
      have l2 : mkH HP 21 = some (.row 5 (.int .u8) x0) := by subst hHP; rfl
      show Does _ _ #[_] _ _
      unfold Does
      rw [wqdc]
      obtain ⟨vs, hw, q0, t0, rfl, hq0, q1, t1, rfl, hq1, q2, t2, rfl, hq2, rfl⟩ := obj 1 _ l1
      obtain ⟨rfl, _⟩ := hq2
      have hro := obj 21 _ l2
      obtain ⟨us, hown, hrd, _⟩ := hro
      have fin : ∀ {e : Ending} {w' : World}, e = .returned (.string ⟨(wq6q x0).toArray⟩) → (∀ b, b < w.heap.size → (∀ g, (G.rv 21).ownBlock = some g → b ≠ g) → w'.heap[b]? = w.heap[b]?) → (∀ g o, (G.rv 21).ownBlock = some g → w'.cell? ⟨g, o, none⟩ = w.cell? ⟨g, o, none⟩) → w.heap.size ≤ w'.heap.size → w'.os = w.os → w'.tape = w.tape → w'.output = w.output →
          ∃ out, K out = some r ∧ ∃ G', OutIs G' w' e out ∧ Fin HP out.hs G w G' w' := by
        intro e w' he h1 h2 h3 h4 h5 h6
        exact ⟨_, h, G, ⟨_, he, rfl⟩, wq11k hHP.symm obj dis h1 h2 h3 h4 h5 h6⟩
      rcases hown.2 with ⟨hv, hn⟩ | ⟨g, cap, cur, hv, _, hgb, hnc, hcm, hcs, htk⟩
      · have hx : x0 = [] := List.eq_nil_of_length_eq_zero hn
        subst hx
        rw [hv] at hw
        refine Calls.mono (wq17l (G.bk 1) q0 q1 w hw) fun e w' hh => ?_
        obtain ⟨rfl, rfl⟩ := hh
        exact fin rfl (fun _ _ _ => rfl) (fun _ _ _ => rfl) (Nat.le_refl _) rfl rfl rfl
      · have hgo : (G.rv 21).ownBlock = some g := by rw [hv]; rfl
        rw [hv] at hw
        by_cases hx : x0 = []
        · subst hx
          by_cases hc0 : cap = 0
          · subst hc0
            refine Calls.mono (wqys (G.bk 1) g q0 q1 cur w hw hgb) fun e w' hh => ?_
            obtain ⟨rfl, o, rfl⟩ := hh
            have hold : ∀ b, b < w.heap.size → (w.alloc o).drew.heap[b]? = w.heap[b]? := fun b hb => Lib.alloc_old w _ b hb
            refine fin rfl (fun b hb _ => hold b hb) (fun g' o' hg' => ?_) (by have := World.size_alloc w o; show _ ≤ (w.alloc o).heap.size; omega) rfl rfl rfl
            rw [hgo] at hg'; cases hg'
            exact World.cell?_of_block (hold g (Array.getElem?_eq_some_iff.1 hgb).1)
          · refine Calls.mono (wq14z (G.bk 1) g cap q0 q1 w hc0 hw) fun e w' hh => ?_
            obtain ⟨rfl, rfl⟩ := hh
            exact fin rfl (fun _ _ _ => rfl) (fun _ _ _ => rfl) (Nat.le_refl _) rfl rfl rfl
        · have hlen : (wq6q x0).length = x0.length := by simp [wq6q]
          have hbytes : ∀ (j : Nat) (x : UInt8), (wq6q x0)[j]? = some x → w.cell? ⟨g, j, none⟩ = some (.int .u8 x.toNat) := by
            intro j x hj
            have hjl : j < x0.length := by rw [← hlen]; exact (List.getElem?_eq_some_iff.1 hj).1
            have hy : x0[j]? = some x0[j] := by simp [hjl]
            obtain ⟨c, hc, hu⟩ := hrd.get j _ hy
            have hc : c = [.int .u8 x0[j]] := hc
            have h9 := hown.cells hgo _ _ (hu 0 (.int .u8 x0[j]) (by rw [hc]; rfl))
            rw [Addr.add_lit] at h9
            have hj2 : x = UInt8.ofNat (x0[j]).toNat := by
              simp only [wq6q, List.getElem?_map, hy, Option.map_some, Option.some.injEq] at hj
              exact hj.symm
            obtain ⟨h10, h11⟩ := wq1do hb j _ hy
            have : ((x.toNat : Nat) : Int) = x0[j] := by
              rw [hj2, UInt8.toNat_ofNat']
              omega
            rw [this]
            have e0 : 0 + (j * Kd.sz (.int .u8) + 0) = j := by simp [Kd.sz]
            rw [e0] at h9
            exact h9
          rw [← hlen] at hw
          have hne : wq6q x0 ≠ [] := by intro e; rw [e] at hlen; exact hx (List.eq_nil_of_length_eq_zero hlen.symm)
          refine Calls.mono (wq11j (G.bk 1) g cap q0 q1 (wq6q x0) cur w hw hne hgb (by omega) hcm (by simpa [Kd.sz] using hcs) hbytes) fun e w' hh => ?_
          obtain ⟨rfl, rfl⟩ := hh
          have hfz : ∀ b, b ≠ g → (w.drew.freeze ⟨g, 0, none⟩ (wq6q x0).length).heap[b]? = w.heap[b]? := by
            intro b hb
            unfold World.freeze
            split
            · rfl
            · show (w.heap.modify g _)[b]? = _
              rw [Array.getElem?_modify, if_neg (Ne.symm hb)]
          refine fin rfl (fun b _ hb => hfz b (hb g hgo)) (fun g' o' hg' => ?_) ?_ ?_ ?_ ?_
          · rw [hgo] at hg'; cases hg'
            unfold World.freeze
            split
            · rfl
            · simp only [World.cell?, World.drew, Array.getElem?_modify, if_true, hgb, Option.map_some]
          all_goals
            unfold World.freeze
            split
            · first | rfl | exact Nat.le_refl _
            · first | rfl | (show w.heap.size ≤ (w.heap.modify g _).size; rw [Array.size_modify]; exact Nat.le_refl _)
  · cases h
end Go.Proofs.YtdfhgimidmfgfaaDoor.Pvm
set_option maxRecDepth 1000000
set_option maxHeartbeats 0
namespace Go.Proofs.YtdfhgimidmfgfaaDoor.Pvm
open Go Go.Proofs
def wquy : List LS := [.ag [.sl (.pr (.int .i64) (.pr (.int .i64) (.pr .str (.pr .bool (.pr (.sl .str) (.sl (.int .i64)))))))]]
def wq13e (k : Nat) : CTab := (CTab.add 9 wqs9 (wqfs k) (CTab.add 14 wqbi (wq4i k) (CTab.add 15 wqiq (wq8v k) (CTab.add 16 wqfu (wq7c k) CTab.nil))))
def wqkt {R : Type} (K : ((List Int) → Int → Option R)) : Out → Option R
  | .ret [.v (.sl (.int .u8)) y0, .v (.int .i64) y1] [] => K y0 y1
  | _ => none
def wqyt : RetSpec := ⟨[.sl (.int .u8), .any], [], []⟩
def wq150 : List (Nat × CutSpec) := []
def wq11l : List (Nat × Plan) := []
def wqqn (k : Nat) : Ctx := ⟨tyT, wq150, wq13e k, [], [], wq11l, @SH⟩
def wqku : Code := Tryd.f7.body.getD .skip
def wqu4 (k : Nat) {R : Type}  (x0 : (List (Int × (Int × ((List UInt8) × (Bool × ((List (List UInt8)) × (List Int)))))))) (K : ((List Int) → Int → Option R)) : Option R := (@wqdz k R x0 (fun y4 => (@cond (@Option R) (@bne Int (@instBEqOfDecidableEq Int @Int.instDecidableEq) y4 (0 : Int)) (K [] y4) (@wq8l k R x0 [] (0 : Int) (0 : Int) (fun y5 y6 => (@wq7b k R y5 y6 (fun y7 y8 y9 => (@cond (@Option R) (@Decidable.decide (@GT.gt Int Int.instLTInt y9 (60000 : Int)) (@Int.decLt (60000 : Int) y9)) (K [] (4 : Int)) (@wq5v k R y7 y8 (fun y10 y11 y12 => (K (@wqs y12) (0 : Int))))))))))))
theorem wq151 (k : Nat) {R : Type} (I : Nat → St → Option R) (x0 : (List (Int × (Int × ((List UInt8) × (Bool × ((List (List UInt8)) × (List Int)))))))) (K : ((List Int) → Int → Option R)) : fnK (wqqn k) k wqku 26 [.tmp 2, .tmp 3] wqyt [.agg [.v (.sl (.pr (.int .i64) (.pr (.int .i64) (.pr .str (.pr .bool (.pr (.sl .str) (.sl (.int .i64)))))))) x0]] [] (wqkt K) = wqu4 k  x0 K := by kernel_rfl
def wqeb (k : Nat) {R : Type} (x0 : (List (Int × (Int × ((List UInt8) × (Bool × ((List (List UInt8)) × (List Int)))))))) (K : ((List Int) → Int → Option R)) : Option R := wqu4 k  x0 K
theorem wq152 (k : Nat) {R : Type} (x0 : (List (Int × (Int × ((List UInt8) × (Bool × ((List (List UInt8)) × (List Int)))))))) (K : ((List Int) → Int → Option R)) : fnK (wqqn k) k wqku 26 [.tmp 2, .tmp 3] wqyt [.agg [.v (.sl (.pr (.int .i64) (.pr (.int .i64) (.pr .str (.pr .bool (.pr (.sl .str) (.sl (.int .i64)))))))) x0]] [] (wqkt K) = wqeb k x0 K := by
  exact wq151 k (fun _ _ => none) x0 K
def wqi2 (k : Nat) {R : Type} : List PV → List (Nm × HObj) → (Out → Option R) → Option R
  | [.agg [.v (.sl (.pr (.int .i64) (.pr (.int .i64) (.pr .str (.pr .bool (.pr (.sl .str) (.sl (.int .i64)))))))) x0]], [], K => wqeb k x0 (fun y0 y1 => K (.ret [.v (.sl (.int .u8)) y0, .v (.int .i64) y1] []))
  | _, _, _ => none
theorem wq153 (k : Nat) : (wq13e k).Ok Tryd.prog := (CTab.add_ok (fun h => wqyj k h) (CTab.add_ok (fun h => wqsf k h) (CTab.add_ok (fun h => wqks k h) (CTab.add_ok (fun h => wqhn k h) CTab.nil_ok))))
theorem wq13f (k : Nat) {ps : List PV} {hp : List (Nm × HObj)} {R : Type} {K : Out → Option R} {r : R} (h : wqi2 k ps hp K = some r) : DoesTo Tryd.prog 7 ps hp fun out => K out = some r := by
  unfold wqi2 at h
  split at h
  · rw [← wq152] at h
    have := fn_ok (P := Tryd.prog) (cx := wqqn k) (f := 7) ⟨tyT_ok, wq153 k, fun _ _ => rfl⟩ (by kernel_rfl) (fn := Tryd.f7) (c := wqku) (by kernel_rfl) (by kernel_rfl) (by kernel_rfl) (rs := [.tmp 2, .tmp 3]) (by kernel_rfl) (by kernel_rfl) h
    exact this.mono fun out ho => by
      unfold wqkt at ho
      split at ho <;> first | exact ho | cases ho
  · cases h
def wq11m : List LS := []
def wquz (k : Nat) : CTab := (CTab.add 7 wquy (wqi2 k) (CTab.add 9 wqs9 (wqfs k) (CTab.add 12 wq17k (wqmt k) CTab.nil)))
def wqgu {R : Type} (K : (Bool → Option R)) : Out → Option R
  | .ret [.v .bool y0] [] => K y0
  | _ => none
def wqsg : RetSpec := ⟨[.any], [], []⟩
def wqyu : List (Nat × CutSpec) := []
def wqvr : List (Nat × Plan) := []
def wqkv (k : Nat) : Ctx := ⟨tyT, wqyu, wquz k, [], [], wqvr, @SH⟩
def wqgv : Code := Tryd.f6.body.getD .skip
def wqn1 (k : Nat) {R : Type}   (K : (Bool → Option R)) : Option R := (@wqeb k R (((3 : Int), ((0 : (@Kd.T kI)), ([], (Bool.false, ((((97 : UInt8) :: []) :: []), ((1 : Int) :: [])))))) :: (((2 : Int), ((0 : (@Kd.T kI)), ([], (Bool.false, ([], ((2 : Int) :: ((3 : Int) :: []))))))) :: (((1 : Int), ((0 : (@Kd.T kI)), (((98 : UInt8) :: []), (Bool.false, ([], []))))) :: (((1 : Int), ((0 : (@Kd.T kI)), (((99 : UInt8) :: []), (Bool.true, ([], []))))) :: [])))) (fun y3 y4 => (@wqeb k R [] (fun y5 y6 => (@wqdz k R (((3 : Int), ((0 : (@Kd.T kI)), ([], (Bool.false, ((((97 : UInt8) :: []) :: []), ((1 : Int) :: [])))))) :: (((2 : Int), ((0 : (@Kd.T kI)), ([], (Bool.false, ([], ((2 : Int) :: ((3 : Int) :: []))))))) :: (((1 : Int), ((0 : (@Kd.T kI)), (((98 : UInt8) :: []), (Bool.false, ([], []))))) :: (((1 : Int), ((0 : (@Kd.T kI)), (((99 : UInt8) :: []), (Bool.true, ([], []))))) :: [])))) (fun y7 => (@cond (@Option R) (@BEq.beq (@Kd.T Kd.bool) (@instBEqOfDecidableEq (@Kd.T Kd.bool) @instDecidableEqBool) (@cond (@Kd.T Kd.bool) (@cond (@Kd.T Kd.bool) (@cond (@Kd.T Kd.bool) (@BEq.beq Int (@instBEqOfDecidableEq Int @Int.instDecidableEq) y7 (0 : Int)) (@BEq.beq Int (@instBEqOfDecidableEq Int @Int.instDecidableEq) y4 (0 : Int)) Bool.false) (@BEq.beq (@List UInt8) (@List.instBEq UInt8 (@instBEqOfDecidableEq UInt8 @instDecidableEqUInt8)) (@wq6q y3) ((97 : UInt8) :: ((58 : UInt8) :: ((10 : UInt8) :: ((32 : UInt8) :: ((32 : UInt8) :: ((45 : UInt8) :: ((32 : UInt8) :: ((98 : UInt8) :: ((10 : UInt8) :: ((32 : UInt8) :: ((32 : UInt8) :: ((45 : UInt8) :: ((32 : UInt8) :: ((34 : UInt8) :: ((99 : UInt8) :: ((34 : UInt8) :: ((10 : UInt8) :: [])))))))))))))))))) Bool.false) (@BEq.beq Int (@instBEqOfDecidableEq Int @Int.instDecidableEq) y6 (1 : Int)) Bool.false) Bool.true) (@wqg4 k R (((3 : Int), ((0 : (@Kd.T kI)), ([], (Bool.false, ((((97 : UInt8) :: []) :: []), ((1 : Int) :: [])))))) :: (((2 : Int), ((0 : (@Kd.T kI)), ([], (Bool.false, ([], ((2 : Int) :: ((3 : Int) :: []))))))) :: (((1 : Int), ((0 : (@Kd.T kI)), (((98 : UInt8) :: []), (Bool.false, ([], []))))) :: (((1 : Int), ((0 : (@Kd.T kI)), (((99 : UInt8) :: []), (Bool.true, ([], []))))) :: [])))) (((3 : Int), ((0 : (@Kd.T kI)), ([], (Bool.false, ((((97 : UInt8) :: []) :: []), ((1 : Int) :: [])))))) :: (((2 : Int), ((0 : (@Kd.T kI)), ([], (Bool.false, ([], ((2 : Int) :: ((3 : Int) :: []))))))) :: (((1 : Int), ((0 : (@Kd.T kI)), (((98 : UInt8) :: []), (Bool.false, ([], []))))) :: (((1 : Int), ((0 : (@Kd.T kI)), (((99 : UInt8) :: []), (Bool.true, ([], []))))) :: [])))) (fun y8 => (@cond (@Option R) (@BEq.beq (@Kd.T Kd.bool) (@instBEqOfDecidableEq (@Kd.T Kd.bool) @instDecidableEqBool) y8 Bool.true) (@wqg4 k R (((3 : Int), ((0 : (@Kd.T kI)), ([], (Bool.false, ((((97 : UInt8) :: []) :: []), ((1 : Int) :: [])))))) :: (((2 : Int), ((0 : (@Kd.T kI)), ([], (Bool.false, ([], ((2 : Int) :: ((3 : Int) :: []))))))) :: (((1 : Int), ((0 : (@Kd.T kI)), (((98 : UInt8) :: []), (Bool.false, ([], []))))) :: (((1 : Int), ((0 : (@Kd.T kI)), (((99 : UInt8) :: []), (Bool.true, ([], []))))) :: [])))) [] (fun y9 => (K (@Bool.not y9)))) (K Bool.false)))) (K Bool.false))))))))
theorem wqyv (k : Nat) {R : Type} (I : Nat → St → Option R)  (K : (Bool → Option R)) : fnK (wqkv k) k wqgv 52 [.tmp 0] wqsg [] [] (wqgu K) = wqn1 k   K := by kernel_rfl
def wqaz (k : Nat) {R : Type}  (K : (Bool → Option R)) : Option R := wqn1 k   K
theorem wqyw (k : Nat) {R : Type}  (K : (Bool → Option R)) : fnK (wqkv k) k wqgv 52 [.tmp 0] wqsg [] [] (wqgu K) = wqaz k  K := by
  exact wqyv k (fun _ _ => none)  K
def wqir (k : Nat) {R : Type} : List PV → List (Nm × HObj) → (Out → Option R) → Option R
  | [], [], K => wqaz k  (fun y0 => K (.ret [.v .bool y0] []))
  | _, _, _ => none
theorem wqyx (k : Nat) : (wquz k).Ok Tryd.prog := (CTab.add_ok (fun h => wq13f k h) (CTab.add_ok (fun h => wqyj k h) (CTab.add_ok (fun h => wq1c1 k h) CTab.nil_ok)))
theorem wq17m (k : Nat) {ps : List PV} {hp : List (Nm × HObj)} {R : Type} {K : Out → Option R} {r : R} (h : wqir k ps hp K = some r) : DoesTo Tryd.prog 6 ps hp fun out => K out = some r := by
  unfold wqir at h
  split at h
  · rw [← wqyw] at h
    have := fn_ok (P := Tryd.prog) (cx := wqkv k) (f := 6) ⟨tyT_ok, wqyx k, fun _ _ => rfl⟩ (by kernel_rfl) (fn := Tryd.f6) (c := wqgv) (by kernel_rfl) (by kernel_rfl) (by kernel_rfl) (rs := [.tmp 0]) (by kernel_rfl) (by kernel_rfl) h
    exact this.mono fun out ho => by
      unfold wqgu at ho
      split at ho <;> first | exact ho | cases ho
  · cases h
def wqvs : List LS := [.sl (.int .u8), .sl (.int .u8)]
def wqp2 (k : Nat) : CTab := CTab.nil
def wqec {R : Type} (K : (Bool → Option R)) : Out → Option R
  | .ret [.v .bool y0] [] => K y0
  | _ => none
def wqn2 : RetSpec := ⟨[.any], [], []⟩
def wqu5 : List (Nat × CutSpec) := []
def wqsh : List (Nat × Plan) := []
def wqgw (k : Nat) : Ctx := ⟨tyT, wqu5, wqp2 k, [], [], wqsh, @SH⟩
def wqed : Code := Tryd.f11.body.getD .skip
def wqis (k : Nat) {R : Type}  (x0 x1 : (List Int)) (K : (Bool → Option R)) : Option R := (K (@BEq.beq (@List UInt8) (@List.instBEq UInt8 (@instBEqOfDecidableEq UInt8 @instDecidableEqUInt8)) (@wq6q x0) (@wq6q x1)))
theorem wqu6 (k : Nat) {R : Type} (I : Nat → St → Option R) (x0 x1 : (List Int)) (K : (Bool → Option R)) : fnK (wqgw k) k wqed 10 [.tmp 4] wqn2 [.v (.sl (.int .u8)) x0, .v (.sl (.int .u8)) x1] [] (wqec K) = wqis k  x0 x1 K := by kernel_rfl
def wqbo (k : Nat) {R : Type} (x0 x1 : (List Int)) (K : (Bool → Option R)) : Option R := wqis k  x0 x1 K
theorem wqu7 (k : Nat) {R : Type} (x0 x1 : (List Int)) (K : (Bool → Option R)) : fnK (wqgw k) k wqed 10 [.tmp 4] wqn2 [.v (.sl (.int .u8)) x0, .v (.sl (.int .u8)) x1] [] (wqec K) = wqbo k x0 x1 K := by
  exact wqu6 k (fun _ _ => none) x0 x1 K
def wqfh (k : Nat) {R : Type} : List PV → List (Nm × HObj) → (Out → Option R) → Option R
  | [.v (.sl (.int .u8)) x0, .v (.sl (.int .u8)) x1], [], K => wqbo k x0 x1 (fun y0 => K (.ret [.v .bool y0] []))
  | _, _, _ => none
theorem wqu8 (k : Nat) : (wqp2 k).Ok Tryd.prog := CTab.nil_ok
theorem wq11n (k : Nat) {ps : List PV} {hp : List (Nm × HObj)} {R : Type} {K : Out → Option R} {r : R} (h : wqfh k ps hp K = some r) : DoesTo Tryd.prog 11 ps hp fun out => K out = some r := by
  unfold wqfh at h
  split at h
  · rw [← wqu7] at h
    have := fn_ok (P := Tryd.prog) (cx := wqgw k) (f := 11) ⟨tyT_ok, wqu8 k, fun _ _ => rfl⟩ (by kernel_rfl) (fn := Tryd.f11) (c := wqed) (by kernel_rfl) (by kernel_rfl) (by kernel_rfl) (rs := [.tmp 4]) (by kernel_rfl) (by kernel_rfl) h
    exact this.mono fun out ho => by
      unfold wqec at ho
      split at ho <;> first | exact ho | cases ho
  · cases h
def wqsi : List LS := [.any]
def wqyy (k : Nat) : CTab := CTab.nil
def wqit {R : Type} (K : (Bool → Option R)) : Out → Option R
  | .ret [.v .bool y0] [] => K y0
  | _ => none
def wqv0 : RetSpec := ⟨[.any], [], []⟩
def wq11o : List (Nat × CutSpec) := []
def wqyz : List (Nat × Plan) := []
def wqn3 (k : Nat) : Ctx := ⟨tyT, wq11o, wqyy k, [], [], wqyz, @SH⟩
def wqiu : Code := Tryd.f64.body.getD .skip
def wqqo (k : Nat) {R : Type}  (x0 : Int) (K : (Bool → Option R)) : Option R := (K (@cond (@Kd.T Kd.bool) (@cond (@Kd.T Kd.bool) (@cond (@Kd.T Kd.bool) (@cond (@Kd.T Kd.bool) (@cond (@Kd.T Kd.bool) (@cond (@Kd.T Kd.bool) (@Decidable.decide (@GE.ge Int Int.instLEInt x0 (97 : Int)) (@Int.decLe (97 : Int) x0)) (@Decidable.decide (@LE.le Int Int.instLEInt x0 (122 : Int)) (@Int.decLe x0 (122 : Int))) Bool.false) Bool.true (@cond (@Kd.T Kd.bool) (@Decidable.decide (@GE.ge Int Int.instLEInt x0 (65 : Int)) (@Int.decLe (65 : Int) x0)) (@Decidable.decide (@LE.le Int Int.instLEInt x0 (90 : Int)) (@Int.decLe x0 (90 : Int))) Bool.false)) Bool.true (@cond (@Kd.T Kd.bool) (@Decidable.decide (@GE.ge Int Int.instLEInt x0 (48 : Int)) (@Int.decLe (48 : Int) x0)) (@Decidable.decide (@LE.le Int Int.instLEInt x0 (57 : Int)) (@Int.decLe x0 (57 : Int))) Bool.false)) Bool.true (@BEq.beq Int (@instBEqOfDecidableEq Int @Int.instDecidableEq) x0 (95 : Int))) Bool.true (@BEq.beq Int (@instBEqOfDecidableEq Int @Int.instDecidableEq) x0 (45 : Int))) Bool.true (@BEq.beq Int (@instBEqOfDecidableEq Int @Int.instDecidableEq) x0 (46 : Int))))
theorem wq11p (k : Nat) {R : Type} (I : Nat → St → Option R) (x0 : Int) (K : (Bool → Option R)) : fnK (wqn3 k) k wqiu 37 [.tmp 2] wqv0 [.v (.int .u8) x0] [] (wqit K) = wqqo k  x0 K := by kernel_rfl
def wqee (k : Nat) {R : Type} (x0 : Int) (K : (Bool → Option R)) : Option R := wqqo k  x0 K
theorem wq11q (k : Nat) {R : Type} (x0 : Int) (K : (Bool → Option R)) : fnK (wqn3 k) k wqiu 37 [.tmp 2] wqv0 [.v (.int .u8) x0] [] (wqit K) = wqee k x0 K := by
  exact wq11p k (fun _ _ => none) x0 K
def wqfv (k : Nat) {R : Type} : List PV → List (Nm × HObj) → (Out → Option R) → Option R
  | [.v (.int .u8) x0], [], K => wqee k x0 (fun y0 => K (.ret [.v .bool y0] []))
  | _, _, _ => none
theorem wq11r (k : Nat) : (wqyy k).Ok Tryd.prog := CTab.nil_ok
theorem wqz0 (k : Nat) {ps : List PV} {hp : List (Nm × HObj)} {R : Type} {K : Out → Option R} {r : R} (h : wqfv k ps hp K = some r) : DoesTo Tryd.prog 64 ps hp fun out => K out = some r := by
  unfold wqfv at h
  split at h
  · rw [← wq11q] at h
    have := fn_ok (P := Tryd.prog) (cx := wqn3 k) (f := 64) ⟨tyT_ok, wq11r k, fun _ _ => rfl⟩ (by kernel_rfl) (fn := Tryd.f64) (c := wqiu) (by kernel_rfl) (by kernel_rfl) (by kernel_rfl) (rs := [.tmp 2]) (by kernel_rfl) (by kernel_rfl) h
    exact this.mono fun out ho => by
      unfold wqit at ho
      split at ho <;> first | exact ho | cases ho
  · cases h
def wq17n : List LS := [.any]
def wq13g (k : Nat) : CTab := (CTab.add 64 wqsi (wqfv k) CTab.nil)
def wq8m {R : Type} (K : (Bool → Option R)) : Out → Option R
  | .ret [.v .bool y0] [] => K y0
  | _ => none
def wqce : RetSpec := ⟨[.any], [], []⟩
def wq154 : List (Nat × CutSpec) := [(1004, ⟨[(0, .any), (3, .any)], []⟩)]
def wq11s : List (Nat × Plan) := []
def wq27 (k : Nat) : Ctx := ⟨tyT, wq154, wq13g k, [], [], wq11s, @SH⟩
def wq4b : Code := Tryd.f48.body.getD .skip
def wq8c (s0 : (List UInt8)) (s1 : Int) : St := ⟨mkT [(0, .v .str s0), (3, .v (.int .i64) s1)], mkH []⟩
def wqb0 (k : Nat) {R : Type} (E1004 : ((List UInt8) → Int → Option R)) (s0 : (List UInt8)) (s1 : Int) (K : (Bool → Option R)) : Option R := (@cond (@Option R) (@Decidable.decide (@LT.lt Int Int.instLTInt s1 (@Nat.cast Int instNatCastInt (@List.length UInt8 s0))) (@Int.decLt s1 (@Nat.cast Int instNatCastInt (@List.length UInt8 s0)))) (@cond (@Option R) (@inb s1 (@Nat.cast Int instNatCastInt (@List.length UInt8 s0))) (@wqee k R (@Nat.cast Int instNatCastInt (@UInt8.toNat (@List.getD UInt8 s0 (@Int.toNat s1) (0 : UInt8)))) (fun y6 => (@cond (@Option R) (@Bool.not y6) (K Bool.false) (E1004 s0 (@Go.IntKind.wrap Go.IntKind.i64 (@HAdd.hAdd Int Int Int (@instHAdd Int @Int.instAdd) s1 (1 : Int))))))) (@Option.none R)) (K Bool.true))
theorem wqsj (k : Nat) {R : Type} (I : Nat → St → Option R) (s0 : (List UInt8)) (s1 : Int) (K : (Bool → Option R)) : execK (wq27 k) k (at_ [1, 1, 0, 1, 0, 0] wq4b) (wq8c s0 s1) (konts (wq27 k) k I [1, 1, 0, 1, 0, 0] wq4b (outK (wq27 k) wqce [.tmp 2] (wq8m K))) = wqb0 k (fun s0 s1 => I 1004 (wq8c s0 s1)) s0 s1 K := by kernel_rfl
def wqnr (k : Nat) {R : Type} (E1004 : ((List UInt8) → Int → Option R)) (x0 : (List UInt8)) (K : (Bool → Option R)) : Option R := (@cond (@Option R) (@cond (@Kd.T Kd.bool) (@BEq.beq (@List UInt8) (@List.instBEq UInt8 (@instBEqOfDecidableEq UInt8 @instDecidableEqUInt8)) x0 []) Bool.true (@Decidable.decide (@GT.gt Int Int.instLTInt (@Nat.cast Int instNatCastInt (@List.length UInt8 x0)) (64 : Int)) (@Int.decLt (64 : Int) (@Nat.cast Int instNatCastInt (@List.length UInt8 x0))))) (K Bool.false) (E1004 x0 (0 : Int)))
theorem wq155 (k : Nat) {R : Type} (I : Nat → St → Option R) (x0 : (List UInt8)) (K : (Bool → Option R)) : fnK (wq27 k) k wq4b 22 [.tmp 2] wqce [.v .str x0] [] (wq8m K) = wqnr k (fun s0 s1 => iter (wq27 k).pv (look (wq27 k).cuts 1004) (execK (wq27 k) k (at_ [1, 1, 0, 1, 0, 0] wq4b)) k (wq8c s0 s1) (konts (wq27 k) k I [1, 1, 0, 1, 0] wq4b (outK (wq27 k) wqce [.tmp 2] (wq8m K)))) x0 K := by kernel_rfl
def wq5k (k : Nat) {R : Type}  : Nat → (List UInt8) → Int → (Bool → Option R) → Option R
  | 0, _, _, _ => none
  | n + 1, s0, s1, K => wqb0 k (fun s0 s1 => wq5k k  n s0 s1 K) s0 s1 K
theorem wqsk (k : Nat) {R : Type} (I : Nat → St → Option R) (K : (Bool → Option R)) : ∀ (n : Nat) (s0 : (List UInt8)) (s1 : Int), iter (wq27 k).pv (look (wq27 k).cuts 1004) (execK (wq27 k) k (at_ [1, 1, 0, 1, 0, 0] wq4b)) n (wq8c s0 s1) (konts (wq27 k) k I [1, 1, 0, 1, 0] wq4b (outK (wq27 k) wqce [.tmp 2] (wq8m K))) = wq5k k  n s0 s1 K := by
  intro n
  induction n with
  | zero => intros; rfl
  | succ n ih =>
    intro s0 s1
    let I' : Nat → St → Option R := fun id s => bif Nat.beq id 1004 then iter (wq27 k).pv (look (wq27 k).cuts 1004) (execK (wq27 k) k (at_ [1, 1, 0, 1, 0, 0] wq4b)) n s (konts (wq27 k) k I [1, 1, 0, 1, 0] wq4b (outK (wq27 k) wqce [.tmp 2] (wq8m K))) else I id s
    have e := wqsj k I' s0 s1 K
    have h1004 : (fun s0 s1 => I' 1004 (wq8c s0 s1)) = (fun s0 s1 => wq5k k  n s0 s1 K) := by funext s0 s1; exact ih s0 s1
    refine Eq.trans (?_ : _ = _) (e.trans (Eq.trans ((congrArg ((fun E1004 => wqb0 k E1004 s0 s1 K)) h1004)) (by rw [wq5k])))
    rfl
def wqjt (k : Nat) {R : Type} (x0 : (List UInt8)) (K : (Bool → Option R)) : Option R := wqnr k (fun s0 s1 => wq5k k k s0 s1 K) x0 K
theorem wq156 (k : Nat) {R : Type} (x0 : (List UInt8)) (K : (Bool → Option R)) : fnK (wq27 k) k wq4b 22 [.tmp 2] wqce [.v .str x0] [] (wq8m K) = wqjt k x0 K := by
  let I : Nat → St → Option R := fun _ _ => none
  have h1004 : (fun s0 s1 => iter (wq27 k).pv (look (wq27 k).cuts 1004) (execK (wq27 k) k (at_ [1, 1, 0, 1, 0, 0] wq4b)) k (wq8c s0 s1) (konts (wq27 k) k I [1, 1, 0, 1, 0] wq4b (outK (wq27 k) wqce [.tmp 2] (wq8m K)))) = (fun s0 s1 => wq5k k k s0 s1 K) := by funext s0 s1; exact wqsk k I K k s0 s1
  exact (wq155 k I x0 K).trans (congrArg ((fun E1004 => wqnr k E1004 x0 K)) h1004)
def wqn4 (k : Nat) {R : Type} : List PV → List (Nm × HObj) → (Out → Option R) → Option R
  | [.v .str x0], [], K => wqjt k x0 (fun y0 => K (.ret [.v .bool y0] []))
  | _, _, _ => none
theorem wq157 (k : Nat) : (wq13g k).Ok Tryd.prog := (CTab.add_ok (fun h => wqz0 k h) CTab.nil_ok)
theorem wq1c3 (k : Nat) {ps : List PV} {hp : List (Nm × HObj)} {R : Type} {K : Out → Option R} {r : R} (h : wqn4 k ps hp K = some r) : DoesTo Tryd.prog 48 ps hp fun out => K out = some r := by
  unfold wqn4 at h
  split at h
  · rw [← wq156] at h
    have := fn_ok (P := Tryd.prog) (cx := wq27 k) (f := 48) ⟨tyT_ok, wq157 k, fun _ _ => rfl⟩ (by kernel_rfl) (fn := Tryd.f48) (c := wq4b) (by kernel_rfl) (by kernel_rfl) (by kernel_rfl) (rs := [.tmp 2]) (by kernel_rfl) (by kernel_rfl) h
    exact this.mono fun out ho => by
      unfold wq8m at ho
      split at ho <;> first | exact ho | cases ho
  · cases h
def wq158 : List LS := [.sl .str]
def wqz1 (k : Nat) : CTab := (CTab.add 48 wq17n (wqn4 k) CTab.nil)
def wq3o {R : Type} (K : (Bool → Option R)) : Out → Option R
  | .ret [.v .bool y0] [] => K y0
  | _ => none
def wq5o : RetSpec := ⟨[.any], [], []⟩
def wq11t : List (Nat × CutSpec) := [(1002, ⟨[(0, .sl .str), (3, .any)], []⟩), (1007, ⟨[(0, .sl .str), (3, .any), (4, .any)], []⟩)]
def wqz2 : List (Nat × Plan) := [(9, (.of [(0, 1), (1, 1), (2, 1), (4, 1), (5, 1), (6, 1), (3, 1), (7, 1), (8, 1)] .done))]
def wqk (k : Nat) : Ctx := ⟨tyT, wq11t, wqz1 k, [], [], wqz2, @SH⟩
def wq1k : Code := Tryd.f38.body.getD .skip
def wq4c (s0 : (List (List UInt8))) (s1 : Int) : St := ⟨mkT [(0, .v (.sl .str) s0), (3, .v (.int .i64) s1)], mkH []⟩
def wq7q (s0 : (List (List UInt8))) (s1 s2 : Int) : St := ⟨mkT [(0, .v (.sl .str) s0), (3, .v (.int .i64) s1), (4, .v (.int .i64) s2)], mkH []⟩
def wqa8 (k : Nat) {R : Type} (E1007 : ((List (List UInt8)) → Int → Int → Option R)) (s0 : (List (List UInt8))) (s1 : Int) (K : (Bool → Option R)) : Option R := (@cond (@Option R) (@Decidable.decide (@LT.lt Int Int.instLTInt s1 (@Nat.cast Int instNatCastInt (@List.length (@Kd.T Kd.str) s0))) (@Int.decLt s1 (@Nat.cast Int instNatCastInt (@List.length (@Kd.T Kd.str) s0)))) (@cond (@Option R) (@inb s1 (@Nat.cast Int instNatCastInt (@List.length (@Kd.T Kd.str) s0))) (@wqjt k R (@List.getD (@Kd.T Kd.str) s0 (@Int.toNat s1) (@Kd.zero Kd.str)) (fun y7 => (@cond (@Option R) (@Bool.not y7) (K Bool.false) (E1007 s0 s1 (0 : Int))))) (@Option.none R)) (K Bool.true))
theorem wqqp (k : Nat) {R : Type} (I : Nat → St → Option R) (s0 : (List (List UInt8))) (s1 : Int) (K : (Bool → Option R)) : execK (wqk k) k (at_ [1, 0, 1, 0, 0] wq1k) (wq4c s0 s1) (konts (wqk k) k I [1, 0, 1, 0, 0] wq1k (outK (wqk k) wq5o [.tmp 2] (wq3o K))) = wqa8 k (fun s0 s1 s2 => iter (wqk k).pv (look (wqk k).cuts 1007) (execK (wqk k) k (at_ [1, 0, 1, 0, 0, 1, 0, 0, 1, 1, 0, 0] wq1k)) k (wq7q s0 s1 s2) (konts (wqk k) k I [1, 0, 1, 0, 0, 1, 0, 0, 1, 1, 0] wq1k (outK (wqk k) wq5o [.tmp 2] (wq3o K)))) s0 s1 K := by kernel_rfl
def wqa9 (k : Nat) {R : Type} (E1002 : ((List (List UInt8)) → Int → Option R)) (E1007 : ((List (List UInt8)) → Int → Int → Option R)) (s0 : (List (List UInt8))) (s1 s2 : Int) (K : (Bool → Option R)) : Option R := (@cond (@Option R) (@Decidable.decide (@LT.lt Int Int.instLTInt s2 s1) (@Int.decLt s2 s1)) (@cond (@Option R) (@inb s2 (@Nat.cast Int instNatCastInt (@List.length (@Kd.T Kd.str) s0))) (@cond (@Option R) (@inb s1 (@Nat.cast Int instNatCastInt (@List.length (@Kd.T Kd.str) s0))) (@cond (@Option R) (@BEq.beq (@List UInt8) (@List.instBEq UInt8 (@instBEqOfDecidableEq UInt8 @instDecidableEqUInt8)) (@List.getD (@Kd.T Kd.str) s0 (@Int.toNat s2) (@Kd.zero Kd.str)) (@List.getD (@Kd.T Kd.str) s0 (@Int.toNat s1) (@Kd.zero Kd.str))) (K Bool.false) (E1007 s0 s1 (@Go.IntKind.wrap Go.IntKind.i64 (@HAdd.hAdd Int Int Int (@instHAdd Int @Int.instAdd) s2 (1 : Int))))) (@Option.none R)) (@Option.none R)) (E1002 s0 (@Go.IntKind.wrap Go.IntKind.i64 (@HAdd.hAdd Int Int Int (@instHAdd Int @Int.instAdd) s1 (1 : Int)))))
theorem wqqq (k : Nat) {R : Type} (I : Nat → St → Option R) (s0 : (List (List UInt8))) (s1 s2 : Int) (K : (Bool → Option R)) : execK (wqk k) k (at_ [1, 0, 1, 0, 0, 1, 0, 0, 1, 1, 0, 0] wq1k) (wq7q s0 s1 s2) (konts (wqk k) k I [1, 0, 1, 0, 0, 1, 0, 0, 1, 1, 0, 0] wq1k (outK (wqk k) wq5o [.tmp 2] (wq3o K))) = wqa9 k (fun s0 s1 => I 1002 (wq4c s0 s1)) (fun s0 s1 s2 => I 1007 (wq7q s0 s1 s2)) s0 s1 s2 K := by kernel_rfl
def wqkw (k : Nat) {R : Type} (E1002 : ((List (List UInt8)) → Int → Option R)) (x0 : (List (List UInt8))) (K : (Bool → Option R)) : Option R := (E1002 x0 (0 : Int))
theorem wq11u (k : Nat) {R : Type} (I : Nat → St → Option R) (x0 : (List (List UInt8))) (K : (Bool → Option R)) : fnK (wqk k) k wq1k 31 [.tmp 2] wq5o [.v (.sl .str) x0] [] (wq3o K) = wqkw k (fun s0 s1 => iter (wqk k).pv (look (wqk k).cuts 1002) (execK (wqk k) k (at_ [1, 0, 1, 0, 0] wq1k)) k (wq4c s0 s1) (konts (wqk k) k I [1, 0, 1, 0] wq1k (outK (wqk k) wq5o [.tmp 2] (wq3o K)))) x0 K := by kernel_rfl
def wq43 (k : Nat) {R : Type} (J1002 : ((List (List UInt8)) → Int → Option R)) : Nat → (List (List UInt8)) → Int → Int → (Bool → Option R) → Option R
  | 0, _, _, _, _ => none
  | n + 1, s0, s1, s2, K => wqa9 k J1002 (fun s0 s1 s2 => wq43 k J1002 n s0 s1 s2 K) s0 s1 s2 K
theorem wqqr (k : Nat) {R : Type} (I : Nat → St → Option R) (K : (Bool → Option R)) : ∀ (n : Nat) (s0 : (List (List UInt8))) (s1 s2 : Int), iter (wqk k).pv (look (wqk k).cuts 1007) (execK (wqk k) k (at_ [1, 0, 1, 0, 0, 1, 0, 0, 1, 1, 0, 0] wq1k)) n (wq7q s0 s1 s2) (konts (wqk k) k I [1, 0, 1, 0, 0, 1, 0, 0, 1, 1, 0] wq1k (outK (wqk k) wq5o [.tmp 2] (wq3o K))) = wq43 k (fun s0 s1 => I 1002 (wq4c s0 s1)) n s0 s1 s2 K := by
  intro n
  induction n with
  | zero => intros; rfl
  | succ n ih =>
    intro s0 s1 s2
    let I' : Nat → St → Option R := fun id s => bif Nat.beq id 1007 then iter (wqk k).pv (look (wqk k).cuts 1007) (execK (wqk k) k (at_ [1, 0, 1, 0, 0, 1, 0, 0, 1, 1, 0, 0] wq1k)) n s (konts (wqk k) k I [1, 0, 1, 0, 0, 1, 0, 0, 1, 1, 0] wq1k (outK (wqk k) wq5o [.tmp 2] (wq3o K))) else I id s
    have e := wqqq k I' s0 s1 s2 K
    have h1007 : (fun s0 s1 s2 => I' 1007 (wq7q s0 s1 s2)) = (fun s0 s1 s2 => wq43 k (fun s0 s1 => I 1002 (wq4c s0 s1)) n s0 s1 s2 K) := by funext s0 s1 s2; exact ih s0 s1 s2
    refine Eq.trans (?_ : _ = _) (e.trans (Eq.trans ((congrArg ((fun E1007 => wqa9 k (fun s0 s1 => I 1002 (wq4c s0 s1)) E1007 s0 s1 s2 K)) h1007)) (by rw [wq43])))
    rfl
def wq3i (k : Nat) {R : Type}  : Nat → (List (List UInt8)) → Int → (Bool → Option R) → Option R
  | 0, _, _, _ => none
  | n + 1, s0, s1, K => wqa8 k (fun s0 s1 s2 => wq43 k (fun s0 s1 => wq3i k  n s0 s1 K) k s0 s1 s2 K) s0 s1 K
theorem wqqs (k : Nat) {R : Type} (I : Nat → St → Option R) (K : (Bool → Option R)) : ∀ (n : Nat) (s0 : (List (List UInt8))) (s1 : Int), iter (wqk k).pv (look (wqk k).cuts 1002) (execK (wqk k) k (at_ [1, 0, 1, 0, 0] wq1k)) n (wq4c s0 s1) (konts (wqk k) k I [1, 0, 1, 0] wq1k (outK (wqk k) wq5o [.tmp 2] (wq3o K))) = wq3i k  n s0 s1 K := by
  intro n
  induction n with
  | zero => intros; rfl
  | succ n ih =>
    intro s0 s1
    let I' : Nat → St → Option R := fun id s => bif Nat.beq id 1002 then iter (wqk k).pv (look (wqk k).cuts 1002) (execK (wqk k) k (at_ [1, 0, 1, 0, 0] wq1k)) n s (konts (wqk k) k I [1, 0, 1, 0] wq1k (outK (wqk k) wq5o [.tmp 2] (wq3o K))) else I id s
    have e := wqqp k I' s0 s1 K
    have h1002 : (fun s0 s1 => I' 1002 (wq4c s0 s1)) = (fun s0 s1 => wq3i k  n s0 s1 K) := by funext s0 s1; exact ih s0 s1
    have h1007 : (fun s0 s1 s2 => iter (wqk k).pv (look (wqk k).cuts 1007) (execK (wqk k) k (at_ [1, 0, 1, 0, 0, 1, 0, 0, 1, 1, 0, 0] wq1k)) k (wq7q s0 s1 s2) (konts (wqk k) k I' [1, 0, 1, 0, 0, 1, 0, 0, 1, 1, 0] wq1k (outK (wqk k) wq5o [.tmp 2] (wq3o K)))) = (fun s0 s1 s2 => wq43 k (fun s0 s1 => wq3i k  n s0 s1 K) k s0 s1 s2 K) := by funext s0 s1 s2; exact (wqqr k I' K k s0 s1 s2).trans (congrArg (fun (JJ : ((List (List UInt8)) → Int → Option R)) => wq43 k JJ k s0 s1 s2 K) h1002)
    refine Eq.trans (?_ : _ = _) (e.trans (Eq.trans ((congrArg ((fun E1007 => wqa8 k E1007 s0 s1 K)) h1007)) (by rw [wq3i])))
    rfl
def wqgx (k : Nat) {R : Type} (x0 : (List (List UInt8))) (K : (Bool → Option R)) : Option R := wqkw k (fun s0 s1 => wq3i k k s0 s1 K) x0 K
theorem wq11v (k : Nat) {R : Type} (x0 : (List (List UInt8))) (K : (Bool → Option R)) : fnK (wqk k) k wq1k 31 [.tmp 2] wq5o [.v (.sl .str) x0] [] (wq3o K) = wqgx k x0 K := by
  let I : Nat → St → Option R := fun _ _ => none
  have h1002 : (fun s0 s1 => iter (wqk k).pv (look (wqk k).cuts 1002) (execK (wqk k) k (at_ [1, 0, 1, 0, 0] wq1k)) k (wq4c s0 s1) (konts (wqk k) k I [1, 0, 1, 0] wq1k (outK (wqk k) wq5o [.tmp 2] (wq3o K)))) = (fun s0 s1 => wq3i k k s0 s1 K) := by funext s0 s1; exact wqqs k I K k s0 s1
  exact (wq11u k I x0 K).trans (congrArg ((fun E1002 => wqkw k E1002 x0 K)) h1002)
def wqkx (k : Nat) {R : Type} : List PV → List (Nm × HObj) → (Out → Option R) → Option R
  | [.v (.sl .str) x0], [], K => wqgx k x0 (fun y0 => K (.ret [.v .bool y0] []))
  | _, _, _ => none
theorem wq11w (k : Nat) : (wqz1 k).Ok Tryd.prog := (CTab.add_ok (fun h => wq1c3 k h) CTab.nil_ok)
theorem wq19x (k : Nat) {ps : List PV} {hp : List (Nm × HObj)} {R : Type} {K : Out → Option R} {r : R} (h : wqkx k ps hp K = some r) : DoesTo Tryd.prog 38 ps hp fun out => K out = some r := by
  unfold wqkx at h
  split at h
  · rw [← wq11v] at h
    have := fn_ok (P := Tryd.prog) (cx := wqk k) (f := 38) ⟨tyT_ok, wq11w k, fun _ _ => rfl⟩ (by kernel_rfl) (fn := Tryd.f38) (c := wq1k) (by kernel_rfl) (by kernel_rfl) (by kernel_rfl) (rs := [.tmp 2]) (by kernel_rfl) (by kernel_rfl) h
    exact this.mono fun out ho => by
      unfold wq3o at ho
      split at ho <;> first | exact ho | cases ho
  · cases h
def wqz3 : List LS := [.any, .any]
def wqsl (k : Nat) : CTab := CTab.nil
def wq5p {R : Type} (K : (Int → Option R)) : Out → Option R
  | .ret [.v (.int .i64) y0] [] => K y0
  | _ => none
def wq8w : RetSpec := ⟨[.any], [], []⟩
def wqvt : List (Nat × CutSpec) := [(1002, ⟨[(0, .any), (1, .any), (5, .any)], []⟩)]
def wqu9 : List (Nat × Plan) := []
def wq16 (k : Nat) : Ctx := ⟨tyT, wqvt, wqsl k, [], [], wqu9, @SH⟩
def wq2t : Code := Tryd.f59.body.getD .skip
def wq69 (s0 : (List UInt8)) (s1 s2 : Int) : St := ⟨mkT [(0, .v .str s0), (1, .v (.int .i64) s1), (5, .v (.int .i64) s2)], mkH []⟩
def wq8n (k : Nat) {R : Type} (E1002 : ((List UInt8) → Int → Int → Option R)) (s0 : (List UInt8)) (s1 s2 : Int) (K : (Int → Option R)) : Option R := (@cond (@Option R) (@Bool.or (@Bool.not (@BEq.beq (@Kd.T Kd.bool) (@instBEqOfDecidableEq (@Kd.T Kd.bool) @instDecidableEqBool) (@Decidable.decide (@LT.lt Int Int.instLTInt (@Go.IntKind.wrap Go.IntKind.i64 (@HAdd.hAdd Int Int Int (@instHAdd Int @Int.instAdd) s1 s2)) (@Nat.cast Int instNatCastInt (@List.length UInt8 s0))) (@Int.decLt (@Go.IntKind.wrap Go.IntKind.i64 (@HAdd.hAdd Int Int Int (@instHAdd Int @Int.instAdd) s1 s2)) (@Nat.cast Int instNatCastInt (@List.length UInt8 s0)))) Bool.true)) (@inb (@Go.IntKind.wrap Go.IntKind.i64 (@HAdd.hAdd Int Int Int (@instHAdd Int @Int.instAdd) s1 s2)) (@Nat.cast Int instNatCastInt (@List.length UInt8 s0)))) (@cond (@Option R) (@cond (@Kd.T Kd.bool) (@Decidable.decide (@LT.lt Int Int.instLTInt (@Go.IntKind.wrap Go.IntKind.i64 (@HAdd.hAdd Int Int Int (@instHAdd Int @Int.instAdd) s1 s2)) (@Nat.cast Int instNatCastInt (@List.length UInt8 s0))) (@Int.decLt (@Go.IntKind.wrap Go.IntKind.i64 (@HAdd.hAdd Int Int Int (@instHAdd Int @Int.instAdd) s1 s2)) (@Nat.cast Int instNatCastInt (@List.length UInt8 s0)))) (@BEq.beq Int (@instBEqOfDecidableEq Int @Int.instDecidableEq) (@Nat.cast Int instNatCastInt (@UInt8.toNat (@List.getD UInt8 s0 (@Int.toNat (@Go.IntKind.wrap Go.IntKind.i64 (@HAdd.hAdd Int Int Int (@instHAdd Int @Int.instAdd) s1 s2))) (0 : UInt8)))) (32 : Int)) Bool.false) (E1002 s0 s1 (@Go.IntKind.wrap Go.IntKind.i64 (@HAdd.hAdd Int Int Int (@instHAdd Int @Int.instAdd) s2 (1 : Int)))) (K s2)) (@Option.none R))
theorem wqn5 (k : Nat) {R : Type} (I : Nat → St → Option R) (s0 : (List UInt8)) (s1 s2 : Int) (K : (Int → Option R)) : execK (wq16 k) k (at_ [1, 1, 0, 0, 0] wq2t) (wq69 s0 s1 s2) (konts (wq16 k) k I [1, 1, 0, 0, 0] wq2t (outK (wq16 k) wq8w [.tmp 4] (wq5p K))) = wq8n k (fun s0 s1 s2 => I 1002 (wq69 s0 s1 s2)) s0 s1 s2 K := by kernel_rfl
def wqfw (k : Nat) {R : Type} (E1002 : ((List UInt8) → Int → Int → Option R)) (x0 : (List UInt8)) (x1 : Int) (K : (Int → Option R)) : Option R := (E1002 x0 x1 (0 : Int))
theorem wqvu (k : Nat) {R : Type} (I : Nat → St → Option R) (x0 : (List UInt8)) (x1 : Int) (K : (Int → Option R)) : fnK (wq16 k) k wq2t 23 [.tmp 4] wq8w [.v .str x0, .v (.int .i64) x1] [] (wq5p K) = wqfw k (fun s0 s1 s2 => iter (wq16 k).pv (look (wq16 k).cuts 1002) (execK (wq16 k) k (at_ [1, 1, 0, 0, 0] wq2t)) k (wq69 s0 s1 s2) (konts (wq16 k) k I [1, 1, 0, 0] wq2t (outK (wq16 k) wq8w [.tmp 4] (wq5p K)))) x0 x1 K := by kernel_rfl
def wq3y (k : Nat) {R : Type}  : Nat → (List UInt8) → Int → Int → (Int → Option R) → Option R
  | 0, _, _, _, _ => none
  | n + 1, s0, s1, s2, K => wq8n k (fun s0 s1 s2 => wq3y k  n s0 s1 s2 K) s0 s1 s2 K
theorem wqn6 (k : Nat) {R : Type} (I : Nat → St → Option R) (K : (Int → Option R)) : ∀ (n : Nat) (s0 : (List UInt8)) (s1 s2 : Int), iter (wq16 k).pv (look (wq16 k).cuts 1002) (execK (wq16 k) k (at_ [1, 1, 0, 0, 0] wq2t)) n (wq69 s0 s1 s2) (konts (wq16 k) k I [1, 1, 0, 0] wq2t (outK (wq16 k) wq8w [.tmp 4] (wq5p K))) = wq3y k  n s0 s1 s2 K := by
  intro n
  induction n with
  | zero => intros; rfl
  | succ n ih =>
    intro s0 s1 s2
    let I' : Nat → St → Option R := fun id s => bif Nat.beq id 1002 then iter (wq16 k).pv (look (wq16 k).cuts 1002) (execK (wq16 k) k (at_ [1, 1, 0, 0, 0] wq2t)) n s (konts (wq16 k) k I [1, 1, 0, 0] wq2t (outK (wq16 k) wq8w [.tmp 4] (wq5p K))) else I id s
    have e := wqn5 k I' s0 s1 s2 K
    have h1002 : (fun s0 s1 s2 => I' 1002 (wq69 s0 s1 s2)) = (fun s0 s1 s2 => wq3y k  n s0 s1 s2 K) := by funext s0 s1 s2; exact ih s0 s1 s2
    refine Eq.trans (?_ : _ = _) (e.trans (Eq.trans ((congrArg ((fun E1002 => wq8n k E1002 s0 s1 s2 K)) h1002)) (by rw [wq3y])))
    rfl
def wq9r (k : Nat) {R : Type} (x0 : (List UInt8)) (x1 : Int) (K : (Int → Option R)) : Option R := wqfw k (fun s0 s1 s2 => wq3y k k s0 s1 s2 K) x0 x1 K
theorem wqvv (k : Nat) {R : Type} (x0 : (List UInt8)) (x1 : Int) (K : (Int → Option R)) : fnK (wq16 k) k wq2t 23 [.tmp 4] wq8w [.v .str x0, .v (.int .i64) x1] [] (wq5p K) = wq9r k x0 x1 K := by
  let I : Nat → St → Option R := fun _ _ => none
  have h1002 : (fun s0 s1 s2 => iter (wq16 k).pv (look (wq16 k).cuts 1002) (execK (wq16 k) k (at_ [1, 1, 0, 0, 0] wq2t)) k (wq69 s0 s1 s2) (konts (wq16 k) k I [1, 1, 0, 0] wq2t (outK (wq16 k) wq8w [.tmp 4] (wq5p K)))) = (fun s0 s1 s2 => wq3y k k s0 s1 s2 K) := by funext s0 s1 s2; exact wqn6 k I K k s0 s1 s2
  exact (wqvu k I x0 x1 K).trans (congrArg ((fun E1002 => wqfw k E1002 x0 x1 K)) h1002)
def wqgy (k : Nat) {R : Type} : List PV → List (Nm × HObj) → (Out → Option R) → Option R
  | [.v .str x0, .v (.int .i64) x1], [], K => wq9r k x0 x1 (fun y0 => K (.ret [.v (.int .i64) y0] []))
  | _, _, _ => none
theorem wqvw (k : Nat) : (wqsl k).Ok Tryd.prog := CTab.nil_ok
theorem wq159 (k : Nat) {ps : List PV} {hp : List (Nm × HObj)} {R : Type} {K : Out → Option R} {r : R} (h : wqgy k ps hp K = some r) : DoesTo Tryd.prog 59 ps hp fun out => K out = some r := by
  unfold wqgy at h
  split at h
  · rw [← wqvv] at h
    have := fn_ok (P := Tryd.prog) (cx := wq16 k) (f := 59) ⟨tyT_ok, wqvw k, fun _ _ => rfl⟩ (by kernel_rfl) (fn := Tryd.f59) (c := wq2t) (by kernel_rfl) (by kernel_rfl) (by kernel_rfl) (rs := [.tmp 4]) (by kernel_rfl) (by kernel_rfl) h
    exact this.mono fun out ho => by
      unfold wq5p at ho
      split at ho <;> first | exact ho | cases ho
  · cases h
def wqz4 : List LS := [.any]
def wqsm (k : Nat) : CTab := CTab.nil
def wqfi {R : Type} (K : (Bool → Option R)) : Out → Option R
  | .ret [.v .bool y0] [] => K y0
  | _ => none
def wqp3 : RetSpec := ⟨[.any], [], []⟩
def wqvx : List (Nat × CutSpec) := []
def wqua : List (Nat × Plan) := []
def wqiv (k : Nat) : Ctx := ⟨tyT, wqvx, wqsm k, [], [], wqua, @SH⟩
def wqfj : Code := Tryd.f60.body.getD .skip
def wqky (k : Nat) {R : Type}  (x0 : (List UInt8)) (K : (Bool → Option R)) : Option R := (@cond (@Option R) (@Bool.or (@Bool.not (@BEq.beq (@Kd.T Kd.bool) (@instBEqOfDecidableEq (@Kd.T Kd.bool) @instDecidableEqBool) (@Decidable.decide (@GT.gt Int Int.instLTInt (@Nat.cast Int instNatCastInt (@List.length UInt8 x0)) (0 : Int)) (@Int.decLt (0 : Int) (@Nat.cast Int instNatCastInt (@List.length UInt8 x0)))) Bool.true)) (@inb (0 : Int) (@Nat.cast Int instNatCastInt (@List.length UInt8 x0)))) (@cond (@Option R) (@Bool.or (@Bool.not (@Bool.and (@BEq.beq (@Kd.T Kd.bool) (@instBEqOfDecidableEq (@Kd.T Kd.bool) @instDecidableEqBool) (@cond (@Kd.T Kd.bool) (@Decidable.decide (@GT.gt Int Int.instLTInt (@Nat.cast Int instNatCastInt (@List.length UInt8 x0)) (0 : Int)) (@Int.decLt (0 : Int) (@Nat.cast Int instNatCastInt (@List.length UInt8 x0)))) (@BEq.beq Int (@instBEqOfDecidableEq Int @Int.instDecidableEq) (@Nat.cast Int instNatCastInt (@UInt8.toNat (@List.getD UInt8 x0 (@Int.toNat (0 : Int)) (0 : UInt8)))) (45 : Int)) Bool.false) Bool.true) (@BEq.beq (@Kd.T Kd.bool) (@instBEqOfDecidableEq (@Kd.T Kd.bool) @instDecidableEqBool) (@BEq.beq Int (@instBEqOfDecidableEq Int @Int.instDecidableEq) (@Nat.cast Int instNatCastInt (@List.length UInt8 x0)) (1 : Int)) Bool.false))) (@inb (1 : Int) (@Nat.cast Int instNatCastInt (@List.length UInt8 x0)))) (K (@cond (@Kd.T Kd.bool) (@cond (@Kd.T Kd.bool) (@Decidable.decide (@GT.gt Int Int.instLTInt (@Nat.cast Int instNatCastInt (@List.length UInt8 x0)) (0 : Int)) (@Int.decLt (0 : Int) (@Nat.cast Int instNatCastInt (@List.length UInt8 x0)))) (@BEq.beq Int (@instBEqOfDecidableEq Int @Int.instDecidableEq) (@Nat.cast Int instNatCastInt (@UInt8.toNat (@List.getD UInt8 x0 (@Int.toNat (0 : Int)) (0 : UInt8)))) (45 : Int)) Bool.false) (@cond (@Kd.T Kd.bool) (@BEq.beq Int (@instBEqOfDecidableEq Int @Int.instDecidableEq) (@Nat.cast Int instNatCastInt (@List.length UInt8 x0)) (1 : Int)) Bool.true (@BEq.beq Int (@instBEqOfDecidableEq Int @Int.instDecidableEq) (@Nat.cast Int instNatCastInt (@UInt8.toNat (@List.getD UInt8 x0 (@Int.toNat (1 : Int)) (0 : UInt8)))) (32 : Int))) Bool.false)) (@Option.none R)) (@Option.none R))
theorem wqvy (k : Nat) {R : Type} (I : Nat → St → Option R) (x0 : (List UInt8)) (K : (Bool → Option R)) : fnK (wqiv k) k wqfj 21 [.tmp 2] wqp3 [.v .str x0] [] (wqfi K) = wqky k  x0 K := by kernel_rfl
def wq9s (k : Nat) {R : Type} (x0 : (List UInt8)) (K : (Bool → Option R)) : Option R := wqky k  x0 K
theorem wqvz (k : Nat) {R : Type} (x0 : (List UInt8)) (K : (Bool → Option R)) : fnK (wqiv k) k wqfj 21 [.tmp 2] wqp3 [.v .str x0] [] (wqfi K) = wq9s k x0 K := by
  exact wqvy k (fun _ _ => none) x0 K
def wqgz (k : Nat) {R : Type} : List PV → List (Nm × HObj) → (Out → Option R) → Option R
  | [.v .str x0], [], K => wq9s k x0 (fun y0 => K (.ret [.v .bool y0] []))
  | _, _, _ => none
theorem wqw0 (k : Nat) : (wqsm k).Ok Tryd.prog := CTab.nil_ok
theorem wq15a (k : Nat) {ps : List PV} {hp : List (Nm × HObj)} {R : Type} {K : Out → Option R} {r : R} (h : wqgz k ps hp K = some r) : DoesTo Tryd.prog 60 ps hp fun out => K out = some r := by
  unfold wqgz at h
  split at h
  · rw [← wqvz] at h
    have := fn_ok (P := Tryd.prog) (cx := wqiv k) (f := 60) ⟨tyT_ok, wqw0 k, fun _ _ => rfl⟩ (by kernel_rfl) (fn := Tryd.f60) (c := wqfj) (by kernel_rfl) (by kernel_rfl) (by kernel_rfl) (rs := [.tmp 2]) (by kernel_rfl) (by kernel_rfl) h
    exact this.mono fun out ho => by
      unfold wqfi at ho
      split at ho <;> first | exact ho | cases ho
  · cases h
def wq11x : List LS := [.any]
def wqv1 (k : Nat) : CTab := (CTab.add 64 wqsi (wqfv k) CTab.nil)
def wq6l {R : Type} (K : (Int → Option R)) : Out → Option R
  | .ret [.v (.int .i64) y0] [] => K y0
  | _ => none
def wq9t : RetSpec := ⟨[.any], [], []⟩
def wqz5 : List (Nat × CutSpec) := [(1002, ⟨[(0, .any), (3, .any)], []⟩)]
def wqw1 : List (Nat × Plan) := []
def wq1g (k : Nat) : Ctx := ⟨tyT, wqz5, wqv1 k, [], [], wqw1, @SH⟩
def wq34 : Code := Tryd.f61.body.getD .skip
def wq6t (s0 : (List UInt8)) (s1 : Int) : St := ⟨mkT [(0, .v .str s0), (3, .v (.int .i64) s1)], mkH []⟩
def wq98 (k : Nat) {R : Type} (E1002 : ((List UInt8) → Int → Option R)) (s0 : (List UInt8)) (s1 : Int) (K : (Int → Option R)) : Option R := (@cond (@Option R) (@Bool.or (@Bool.not (@BEq.beq (@Kd.T Kd.bool) (@instBEqOfDecidableEq (@Kd.T Kd.bool) @instDecidableEqBool) (@Decidable.decide (@LT.lt Int Int.instLTInt s1 (@Nat.cast Int instNatCastInt (@List.length UInt8 s0))) (@Int.decLt s1 (@Nat.cast Int instNatCastInt (@List.length UInt8 s0)))) Bool.true)) (@inb s1 (@Nat.cast Int instNatCastInt (@List.length UInt8 s0)))) (@cond (@Option R) (@BEq.beq (@Kd.T Kd.bool) (@instBEqOfDecidableEq (@Kd.T Kd.bool) @instDecidableEqBool) (@Decidable.decide (@LT.lt Int Int.instLTInt s1 (@Nat.cast Int instNatCastInt (@List.length UInt8 s0))) (@Int.decLt s1 (@Nat.cast Int instNatCastInt (@List.length UInt8 s0)))) Bool.true) (@wqee k R (@Nat.cast Int instNatCastInt (@UInt8.toNat (@List.getD UInt8 s0 (@Int.toNat s1) (0 : UInt8)))) (fun y6 => (@cond (@Option R) y6 (E1002 s0 (@Go.IntKind.wrap Go.IntKind.i64 (@HAdd.hAdd Int Int Int (@instHAdd Int @Int.instAdd) s1 (1 : Int)))) (@cond (@Option R) (@Bool.or (@Bool.not (@BEq.beq (@Kd.T Kd.bool) (@instBEqOfDecidableEq (@Kd.T Kd.bool) @instDecidableEqBool) (@cond (@Kd.T Kd.bool) (@BEq.beq Int (@instBEqOfDecidableEq Int @Int.instDecidableEq) s1 (0 : Int)) Bool.true (@Decidable.decide (@GE.ge Int Int.instLEInt s1 (@Nat.cast Int instNatCastInt (@List.length UInt8 s0))) (@Int.decLe (@Nat.cast Int instNatCastInt (@List.length UInt8 s0)) s1))) Bool.false)) (@inb s1 (@Nat.cast Int instNatCastInt (@List.length UInt8 s0)))) (@cond (@Option R) (@Bool.or (@Bool.not (@Bool.and (@BEq.beq (@Kd.T Kd.bool) (@instBEqOfDecidableEq (@Kd.T Kd.bool) @instDecidableEqBool) (@cond (@Kd.T Kd.bool) (@cond (@Kd.T Kd.bool) (@BEq.beq Int (@instBEqOfDecidableEq Int @Int.instDecidableEq) s1 (0 : Int)) Bool.true (@Decidable.decide (@GE.ge Int Int.instLEInt s1 (@Nat.cast Int instNatCastInt (@List.length UInt8 s0))) (@Int.decLe (@Nat.cast Int instNatCastInt (@List.length UInt8 s0)) s1))) Bool.true (@bne Int (@instBEqOfDecidableEq Int @Int.instDecidableEq) (@Nat.cast Int instNatCastInt (@UInt8.toNat (@List.getD UInt8 s0 (@Int.toNat s1) (0 : UInt8)))) (58 : Int))) Bool.false) (@BEq.beq (@Kd.T Kd.bool) (@instBEqOfDecidableEq (@Kd.T Kd.bool) @instDecidableEqBool) (@Decidable.decide (@LT.lt Int Int.instLTInt (@Go.IntKind.wrap Go.IntKind.i64 (@HAdd.hAdd Int Int Int (@instHAdd Int @Int.instAdd) s1 (1 : Int))) (@Nat.cast Int instNatCastInt (@List.length UInt8 s0))) (@Int.decLt (@Go.IntKind.wrap Go.IntKind.i64 (@HAdd.hAdd Int Int Int (@instHAdd Int @Int.instAdd) s1 (1 : Int))) (@Nat.cast Int instNatCastInt (@List.length UInt8 s0)))) Bool.true))) (@inb (@Go.IntKind.wrap Go.IntKind.i64 (@HAdd.hAdd Int Int Int (@instHAdd Int @Int.instAdd) s1 (1 : Int))) (@Nat.cast Int instNatCastInt (@List.length UInt8 s0)))) (@cond (@Option R) (@cond (@Kd.T Kd.bool) (@cond (@Kd.T Kd.bool) (@cond (@Kd.T Kd.bool) (@BEq.beq Int (@instBEqOfDecidableEq Int @Int.instDecidableEq) s1 (0 : Int)) Bool.true (@Decidable.decide (@GE.ge Int Int.instLEInt s1 (@Nat.cast Int instNatCastInt (@List.length UInt8 s0))) (@Int.decLe (@Nat.cast Int instNatCastInt (@List.length UInt8 s0)) s1))) Bool.true (@bne Int (@instBEqOfDecidableEq Int @Int.instDecidableEq) (@Nat.cast Int instNatCastInt (@UInt8.toNat (@List.getD UInt8 s0 (@Int.toNat s1) (0 : UInt8)))) (58 : Int))) Bool.true (@cond (@Kd.T Kd.bool) (@Decidable.decide (@LT.lt Int Int.instLTInt (@Go.IntKind.wrap Go.IntKind.i64 (@HAdd.hAdd Int Int Int (@instHAdd Int @Int.instAdd) s1 (1 : Int))) (@Nat.cast Int instNatCastInt (@List.length UInt8 s0))) (@Int.decLt (@Go.IntKind.wrap Go.IntKind.i64 (@HAdd.hAdd Int Int Int (@instHAdd Int @Int.instAdd) s1 (1 : Int))) (@Nat.cast Int instNatCastInt (@List.length UInt8 s0)))) (@bne Int (@instBEqOfDecidableEq Int @Int.instDecidableEq) (@Nat.cast Int instNatCastInt (@UInt8.toNat (@List.getD UInt8 s0 (@Int.toNat (@Go.IntKind.wrap Go.IntKind.i64 (@HAdd.hAdd Int Int Int (@instHAdd Int @Int.instAdd) s1 (1 : Int)))) (0 : UInt8)))) (32 : Int)) Bool.false)) (K (0 : Int)) (K s1)) (@Option.none R)) (@Option.none R))))) (@cond (@Option R) (@Bool.or (@Bool.not (@BEq.beq (@Kd.T Kd.bool) (@instBEqOfDecidableEq (@Kd.T Kd.bool) @instDecidableEqBool) (@cond (@Kd.T Kd.bool) (@BEq.beq Int (@instBEqOfDecidableEq Int @Int.instDecidableEq) s1 (0 : Int)) Bool.true (@Decidable.decide (@GE.ge Int Int.instLEInt s1 (@Nat.cast Int instNatCastInt (@List.length UInt8 s0))) (@Int.decLe (@Nat.cast Int instNatCastInt (@List.length UInt8 s0)) s1))) Bool.false)) (@inb s1 (@Nat.cast Int instNatCastInt (@List.length UInt8 s0)))) (@cond (@Option R) (@Bool.or (@Bool.not (@Bool.and (@BEq.beq (@Kd.T Kd.bool) (@instBEqOfDecidableEq (@Kd.T Kd.bool) @instDecidableEqBool) (@cond (@Kd.T Kd.bool) (@cond (@Kd.T Kd.bool) (@BEq.beq Int (@instBEqOfDecidableEq Int @Int.instDecidableEq) s1 (0 : Int)) Bool.true (@Decidable.decide (@GE.ge Int Int.instLEInt s1 (@Nat.cast Int instNatCastInt (@List.length UInt8 s0))) (@Int.decLe (@Nat.cast Int instNatCastInt (@List.length UInt8 s0)) s1))) Bool.true (@bne Int (@instBEqOfDecidableEq Int @Int.instDecidableEq) (@Nat.cast Int instNatCastInt (@UInt8.toNat (@List.getD UInt8 s0 (@Int.toNat s1) (0 : UInt8)))) (58 : Int))) Bool.false) (@BEq.beq (@Kd.T Kd.bool) (@instBEqOfDecidableEq (@Kd.T Kd.bool) @instDecidableEqBool) (@Decidable.decide (@LT.lt Int Int.instLTInt (@Go.IntKind.wrap Go.IntKind.i64 (@HAdd.hAdd Int Int Int (@instHAdd Int @Int.instAdd) s1 (1 : Int))) (@Nat.cast Int instNatCastInt (@List.length UInt8 s0))) (@Int.decLt (@Go.IntKind.wrap Go.IntKind.i64 (@HAdd.hAdd Int Int Int (@instHAdd Int @Int.instAdd) s1 (1 : Int))) (@Nat.cast Int instNatCastInt (@List.length UInt8 s0)))) Bool.true))) (@inb (@Go.IntKind.wrap Go.IntKind.i64 (@HAdd.hAdd Int Int Int (@instHAdd Int @Int.instAdd) s1 (1 : Int))) (@Nat.cast Int instNatCastInt (@List.length UInt8 s0)))) (@cond (@Option R) (@cond (@Kd.T Kd.bool) (@cond (@Kd.T Kd.bool) (@cond (@Kd.T Kd.bool) (@BEq.beq Int (@instBEqOfDecidableEq Int @Int.instDecidableEq) s1 (0 : Int)) Bool.true (@Decidable.decide (@GE.ge Int Int.instLEInt s1 (@Nat.cast Int instNatCastInt (@List.length UInt8 s0))) (@Int.decLe (@Nat.cast Int instNatCastInt (@List.length UInt8 s0)) s1))) Bool.true (@bne Int (@instBEqOfDecidableEq Int @Int.instDecidableEq) (@Nat.cast Int instNatCastInt (@UInt8.toNat (@List.getD UInt8 s0 (@Int.toNat s1) (0 : UInt8)))) (58 : Int))) Bool.true (@cond (@Kd.T Kd.bool) (@Decidable.decide (@LT.lt Int Int.instLTInt (@Go.IntKind.wrap Go.IntKind.i64 (@HAdd.hAdd Int Int Int (@instHAdd Int @Int.instAdd) s1 (1 : Int))) (@Nat.cast Int instNatCastInt (@List.length UInt8 s0))) (@Int.decLt (@Go.IntKind.wrap Go.IntKind.i64 (@HAdd.hAdd Int Int Int (@instHAdd Int @Int.instAdd) s1 (1 : Int))) (@Nat.cast Int instNatCastInt (@List.length UInt8 s0)))) (@bne Int (@instBEqOfDecidableEq Int @Int.instDecidableEq) (@Nat.cast Int instNatCastInt (@UInt8.toNat (@List.getD UInt8 s0 (@Int.toNat (@Go.IntKind.wrap Go.IntKind.i64 (@HAdd.hAdd Int Int Int (@instHAdd Int @Int.instAdd) s1 (1 : Int)))) (0 : UInt8)))) (32 : Int)) Bool.false)) (K (0 : Int)) (K s1)) (@Option.none R)) (@Option.none R))) (@Option.none R))
theorem wqog (k : Nat) {R : Type} (I : Nat → St → Option R) (s0 : (List UInt8)) (s1 : Int) (K : (Int → Option R)) : execK (wq1g k) k (at_ [1, 1, 0, 0, 0] wq34) (wq6t s0 s1) (konts (wq1g k) k I [1, 1, 0, 0, 0] wq34 (outK (wq1g k) wq9t [.tmp 2] (wq6l K))) = wq98 k (fun s0 s1 => I 1002 (wq6t s0 s1)) s0 s1 K := by kernel_rfl
def wqi3 (k : Nat) {R : Type} (E1002 : ((List UInt8) → Int → Option R)) (x0 : (List UInt8)) (K : (Int → Option R)) : Option R := (E1002 x0 (0 : Int))
theorem wqz6 (k : Nat) {R : Type} (I : Nat → St → Option R) (x0 : (List UInt8)) (K : (Int → Option R)) : fnK (wq1g k) k wq34 45 [.tmp 2] wq9t [.v .str x0] [] (wq6l K) = wqi3 k (fun s0 s1 => iter (wq1g k).pv (look (wq1g k).cuts 1002) (execK (wq1g k) k (at_ [1, 1, 0, 0, 0] wq34)) k (wq6t s0 s1) (konts (wq1g k) k I [1, 1, 0, 0] wq34 (outK (wq1g k) wq9t [.tmp 2] (wq6l K)))) x0 K := by kernel_rfl
def wq4d (k : Nat) {R : Type}  : Nat → (List UInt8) → Int → (Int → Option R) → Option R
  | 0, _, _, _ => none
  | n + 1, s0, s1, K => wq98 k (fun s0 s1 => wq4d k  n s0 s1 K) s0 s1 K
theorem wqoh (k : Nat) {R : Type} (I : Nat → St → Option R) (K : (Int → Option R)) : ∀ (n : Nat) (s0 : (List UInt8)) (s1 : Int), iter (wq1g k).pv (look (wq1g k).cuts 1002) (execK (wq1g k) k (at_ [1, 1, 0, 0, 0] wq34)) n (wq6t s0 s1) (konts (wq1g k) k I [1, 1, 0, 0] wq34 (outK (wq1g k) wq9t [.tmp 2] (wq6l K))) = wq4d k  n s0 s1 K := by
  intro n
  induction n with
  | zero => intros; rfl
  | succ n ih =>
    intro s0 s1
    let I' : Nat → St → Option R := fun id s => bif Nat.beq id 1002 then iter (wq1g k).pv (look (wq1g k).cuts 1002) (execK (wq1g k) k (at_ [1, 1, 0, 0, 0] wq34)) n s (konts (wq1g k) k I [1, 1, 0, 0] wq34 (outK (wq1g k) wq9t [.tmp 2] (wq6l K))) else I id s
    have e := wqog k I' s0 s1 K
    have h1002 : (fun s0 s1 => I' 1002 (wq6t s0 s1)) = (fun s0 s1 => wq4d k  n s0 s1 K) := by funext s0 s1; exact ih s0 s1
    refine Eq.trans (?_ : _ = _) (e.trans (Eq.trans ((congrArg ((fun E1002 => wq98 k E1002 s0 s1 K)) h1002)) (by rw [wq4d])))
    rfl
def wq9g (k : Nat) {R : Type} (x0 : (List UInt8)) (K : (Int → Option R)) : Option R := wqi3 k (fun s0 s1 => wq4d k k s0 s1 K) x0 K
theorem wqz7 (k : Nat) {R : Type} (x0 : (List UInt8)) (K : (Int → Option R)) : fnK (wq1g k) k wq34 45 [.tmp 2] wq9t [.v .str x0] [] (wq6l K) = wq9g k x0 K := by
  let I : Nat → St → Option R := fun _ _ => none
  have h1002 : (fun s0 s1 => iter (wq1g k).pv (look (wq1g k).cuts 1002) (execK (wq1g k) k (at_ [1, 1, 0, 0, 0] wq34)) k (wq6t s0 s1) (konts (wq1g k) k I [1, 1, 0, 0] wq34 (outK (wq1g k) wq9t [.tmp 2] (wq6l K)))) = (fun s0 s1 => wq4d k k s0 s1 K) := by funext s0 s1; exact wqoh k I K k s0 s1
  exact (wqz6 k I x0 K).trans (congrArg ((fun E1002 => wqi3 k E1002 x0 K)) h1002)
def wqiw (k : Nat) {R : Type} : List PV → List (Nm × HObj) → (Out → Option R) → Option R
  | [.v .str x0], [], K => wq9g k x0 (fun y0 => K (.ret [.v (.int .i64) y0] []))
  | _, _, _ => none
theorem wqz8 (k : Nat) : (wqv1 k).Ok Tryd.prog := (CTab.add_ok (fun h => wqz0 k h) CTab.nil_ok)
theorem wq17o (k : Nat) {ps : List PV} {hp : List (Nm × HObj)} {R : Type} {K : Out → Option R} {r : R} (h : wqiw k ps hp K = some r) : DoesTo Tryd.prog 61 ps hp fun out => K out = some r := by
  unfold wqiw at h
  split at h
  · rw [← wqz7] at h
    have := fn_ok (P := Tryd.prog) (cx := wq1g k) (f := 61) ⟨tyT_ok, wqz8 k, fun _ _ => rfl⟩ (by kernel_rfl) (fn := Tryd.f61) (c := wq34) (by kernel_rfl) (by kernel_rfl) (by kernel_rfl) (rs := [.tmp 2]) (by kernel_rfl) (by kernel_rfl) h
    exact this.mono fun out ho => by
      unfold wq6l at ho
      split at ho <;> first | exact ho | cases ho
  · cases h
def wq11y : List LS := [.any]
def wqv2 (k : Nat) : CTab := CTab.nil
def wqh0 {R : Type} (K : (Int → Option R)) : Out → Option R
  | .ret [.v (.int .i64) y0] [] => K y0
  | _ => none
def wqsn : RetSpec := ⟨[.any], [], []⟩
def wqz9 : List (Nat × CutSpec) := []
def wqw2 : List (Nat × Plan) := []
def wqkz (k : Nat) : Ctx := ⟨tyT, wqz9, wqv2 k, [], [], wqw2, @SH⟩
def wqh1 : Code := Tryd.f76.body.getD .skip
def wqn7 (k : Nat) {R : Type}  (x0 : Int) (K : (Int → Option R)) : Option R := (@cond (@Option R) (@cond (@Kd.T Kd.bool) (@Decidable.decide (@GE.ge Int Int.instLEInt x0 (48 : Int)) (@Int.decLe (48 : Int) x0)) (@Decidable.decide (@LE.le Int Int.instLEInt x0 (57 : Int)) (@Int.decLe x0 (57 : Int))) Bool.false) (K (@Go.IntKind.wrap Go.IntKind.i64 (@Go.IntKind.wrap Go.IntKind.u8 (@HSub.hSub Int Int Int (@instHSub Int @Int.instSub) x0 (48 : Int))))) (@cond (@Option R) (@cond (@Kd.T Kd.bool) (@Decidable.decide (@GE.ge Int Int.instLEInt x0 (97 : Int)) (@Int.decLe (97 : Int) x0)) (@Decidable.decide (@LE.le Int Int.instLEInt x0 (102 : Int)) (@Int.decLe x0 (102 : Int))) Bool.false) (K (@Go.IntKind.wrap Go.IntKind.i64 (@HAdd.hAdd Int Int Int (@instHAdd Int @Int.instAdd) (@Go.IntKind.wrap Go.IntKind.i64 (@Go.IntKind.wrap Go.IntKind.u8 (@HSub.hSub Int Int Int (@instHSub Int @Int.instSub) x0 (97 : Int)))) (10 : Int)))) (K (@Neg.neg Int @Int.instNegInt (1 : Int)))))
theorem wqza (k : Nat) {R : Type} (I : Nat → St → Option R) (x0 : Int) (K : (Int → Option R)) : fnK (wqkz k) k wqh1 22 [.tmp 2] wqsn [.v (.int .u8) x0] [] (wqh0 K) = wqn7 k  x0 K := by kernel_rfl
def wq9h (k : Nat) {R : Type} (x0 : Int) (K : (Int → Option R)) : Option R := wqn7 k  x0 K
theorem wqzb (k : Nat) {R : Type} (x0 : Int) (K : (Int → Option R)) : fnK (wqkz k) k wqh1 22 [.tmp 2] wqsn [.v (.int .u8) x0] [] (wqh0 K) = wq9h k x0 K := by
  exact wqza k (fun _ _ => none) x0 K
def wqix (k : Nat) {R : Type} : List PV → List (Nm × HObj) → (Out → Option R) → Option R
  | [.v (.int .u8) x0], [], K => wq9h k x0 (fun y0 => K (.ret [.v (.int .i64) y0] []))
  | _, _, _ => none
theorem wqzc (k : Nat) : (wqv2 k).Ok Tryd.prog := CTab.nil_ok
theorem wq17p (k : Nat) {ps : List PV} {hp : List (Nm × HObj)} {R : Type} {K : Out → Option R} {r : R} (h : wqix k ps hp K = some r) : DoesTo Tryd.prog 76 ps hp fun out => K out = some r := by
  unfold wqix at h
  split at h
  · rw [← wqzb] at h
    have := fn_ok (P := Tryd.prog) (cx := wqkz k) (f := 76) ⟨tyT_ok, wqzc k, fun _ _ => rfl⟩ (by kernel_rfl) (fn := Tryd.f76) (c := wqh1) (by kernel_rfl) (by kernel_rfl) (by kernel_rfl) (rs := [.tmp 2]) (by kernel_rfl) (by kernel_rfl) h
    exact this.mono fun out ho => by
      unfold wqh0 at ho
      split at ho <;> first | exact ho | cases ho
  · cases h
end Go.Proofs.YtdfhgimidmfgfaaDoor.Pvm
end
