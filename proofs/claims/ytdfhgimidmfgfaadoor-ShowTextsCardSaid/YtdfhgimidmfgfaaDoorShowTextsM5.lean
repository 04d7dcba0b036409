/- The Go function ShowTexts answers true for every input: one text alone may be just as the reference tells; no further condition. -/
import Derived.Test.YtdfhgimidmfgfaaDoorCards
import Derived.Test.YtdfhgimidmfgfaaDoorTie
import Derived.LaidMore
import Derived.Lay
import Derived.SevenTiedAt
import Derived.Stop.Joined
import Derived.Test.YtdfhgimidmfgfaaDoorRows
import Derived.Test.YtdfhgimidmfgfaaDoorShowTextsM0
import Derived.Test.YtdfhgimidmfgfaaDoorShowTextsM1
import Derived.Test.YtdfhgimidmfgfaaDoorShowTextsM2
import Derived.Test.YtdfhgimidmfgfaaDoorShowTextsM3
import Derived.Test.YtdfhgimidmfgfaaDoorShowTextsM4
set_option linter.unusedVariables false
set_option linter.unusedSimpArgs false
set_option linter.unusedSectionVars false
noncomputable section
namespace Go.Proofs.YtdfhgimidmfgfaaDoor.Pvm
open Go
def qS (c : UInt8) : List UInt8 → Nat → Option Nat
  | [], _ => none
  | [x], i => bif c == 34 && x == 92 then none else bif !(x == c) then none else some i
  | x :: y :: r, i => bif c == 34 && x == 92 then qS c r (i + 2) else bif !(x == c) then qS c (y :: r) (i + 1) else bif c == 39 && y == c then qS c r (i + 2) else some i
def qK {R : Type} (K : Int → Bool → Option R) (d : Int) : Option Nat → Option R
  | some j => K (j + d) true
  | none => K 0 false
theorem beq34 (c : UInt8) : ((c.toNat : Int) == 34) = (c == 34) := u8_beq c 34 (by omega)
theorem beq39 (c : UInt8) : ((c.toNat : Int) == 39) = (c == 39) := u8_beq c 39 (by omega)
theorem beq92 (c : UInt8) : ((c.toNat : Int) == 92) = (c == 92) := u8_beq c 92 (by omega)
theorem beq35 (c : UInt8) : ((c.toNat : Int) == 35) = (c == 35) := u8_beq c 35 (by omega)
theorem beq32 (c : UInt8) : ((c.toNat : Int) == 32) = (c == 32) := u8_beq c 32 (by omega)
theorem bne32 (c : UInt8) : ((c.toNat : Int) != 32) = !(c == 32) := u8_bne c 32 (by omega)
theorem wq15q (c : UInt8) : ∀ (r : List UInt8) (i j : Nat), qS c r i = some j → i ≤ j ∧ j < i + r.length
  | [], i, j, h => by cases h
  | [x], i, j, h => by
    unfold qS at h
    cases h1 : (c == 34 && x == 92) <;> rw [h1] at h <;> simp only [cond_true, cond_false] at h
    · cases h2 : (x == c) <;> rw [h2] at h <;> simp at h
      simp; omega
    · cases h
  | x :: y :: r, i, j, h => by
    unfold qS at h
    cases h1 : (c == 34 && x == 92) <;> rw [h1] at h <;> simp only [cond_true, cond_false] at h
    · cases h2 : (x == c) <;> rw [h2] at h <;> simp only [Bool.not_true, Bool.not_false, cond_true, cond_false] at h
      · have := wq15q c (y :: r) _ _ h
        simp at this ⊢; omega
      · cases h3 : (c == 39 && y == c) <;> rw [h3] at h <;> simp only [cond_true, cond_false] at h
        · cases h; simp
        · have := wq15q c r _ _ h
          simp at this ⊢; omega
    · have := wq15q c r _ _ h
      simp at this ⊢; omega
theorem wq10a (k : Nat) {R : Type} (s : List UInt8) (c : UInt8) (hs : s.length ≤ 1000000) (K : Int → Bool → Option R) : ∀ (n : Nat) (r : List UInt8) (i : Nat), s.drop i = r → i ≤ s.length + 1 → r.length < n →
    wq4z k n s (c.toNat : Int) (i : Int) K = qK K 0 (qS c r i) := by
  intro n
  induction n with
  | zero => intro r i _ _ h; omega
  | succ n ih =>
    intro r i hr hi hn
    rw [wq4z]
    unfold wqb7
    match r, hr, hn with
    | [], hr, hn =>
      have := wq2k hr
      simp (disch := omega) only [dec_t, dec_f, ieq_t, ieq_f, ine_t, ine_f, inb_t, bnd_t, wqj, wqa, cond_true, cond_false, Bool.not_true, Bool.not_false, Bool.true_or, Bool.or_true, Bool.false_or, Bool.or_false, Bool.true_and, Bool.and_true, Bool.false_and, Bool.and_false, wq2, wq0, wq5, qS, qK]
    | [x], hr, hn =>
      obtain ⟨h1, h2, h3⟩ := wqv hr
      have h4 := wq2k h3
      simp (disch := omega) only [dec_t, dec_f, ieq_t, ieq_f, ine_t, ine_f, inb_t, bnd_t, wqj, wqa, cond_true, cond_false, Bool.not_true, Bool.not_false, Bool.true_or, Bool.or_true, Bool.false_or, Bool.or_false, Bool.true_and, Bool.and_true, Bool.false_and, Bool.and_false, wq2, wq0, wq5, h2, beq34, beq92, beq39, wq15p]
      have e1 := ih [] (i + 1) h3 (by omega) (by simp at hn ⊢; omega)
      have e2 := ih [] (i + 2) (by rw [List.drop_eq_nil_of_le (by omega)]) (by omega) (by simp at hn ⊢; omega)
      have c1 : ((i : Int) + 1) = ((i + 1 : Nat) : Int) := by omega
      have c2 : ((i : Int) + 1 + 1) = ((i + 2 : Nat) : Int) := by omega
      rw [c2, c1, e1, e2]
      unfold qS
      have h5 : decide (((i + 1 : Nat) : Int) < (s.length : Int)) = false := dec_f (by omega)
      cases h6 : (c == 34) <;> cases h7 : (x == 92) <;> cases h8 : (x == c) <;> cases h9 : (c == 39) <;> simp [h5, qS, qK]
    | x :: y :: r, hr, hn =>
      obtain ⟨h1, h2, h3⟩ := wqv hr
      obtain ⟨g1, g2, g3⟩ := wqv h3
      simp (disch := omega) only [dec_t, dec_f, ieq_t, ieq_f, ine_t, ine_f, inb_t, bnd_t, wqj, wqa, cond_true, cond_false, Bool.not_true, Bool.not_false, Bool.true_or, Bool.or_true, Bool.false_or, Bool.or_false, Bool.true_and, Bool.and_true, Bool.false_and, Bool.and_false, wq2, wq0, wq5, h2, beq34, beq92, beq39, wq15p]
      have e1 := ih (y :: r) (i + 1) h3 (by omega) (by simp at hn ⊢; omega)
      have e2 := ih r (i + 2) g3 (by omega) (by simp at hn ⊢; omega)
      have c1 : ((i : Int) + 1) = ((i + 1 : Nat) : Int) := by omega
      have c2 : ((i : Int) + 1 + 1) = ((i + 2 : Nat) : Int) := by omega
      rw [c2, c1, e1, e2, wq5, g2, wq1fa]
      rw [qS]
      cases h6 : (c == 34) <;> cases h7 : (x == 92) <;> cases h8 : (x == c) <;> cases h9 : (c == 39) <;> cases h10 : (y == c) <;> simp [qK]
theorem wqwd (k : Nat) {R : Type} (s : List UInt8) (c : UInt8) (hs : s.length ≤ 1000000) (K : Int → Bool → Option R) : ∀ (n : Nat) (r : List UInt8) (i : Nat), s.drop i = r → i ≤ s.length + 1 → r.length < n →
    wq4o k n s (c.toNat : Int) (i : Int) K = qK K 1 (qS c r i) := by
  intro n
  induction n with
  | zero => intro r i _ _ h; omega
  | succ n ih =>
    intro r i hr hi hn
    rw [wq4o]
    unfold wqaj
    match r, hr, hn with
    | [], hr, hn =>
      have := wq2k hr
      simp (disch := omega) only [dec_t, dec_f, ieq_t, ieq_f, ine_t, ine_f, inb_t, bnd_t, wqj, wqa, cond_true, cond_false, Bool.not_true, Bool.not_false, Bool.true_or, Bool.or_true, Bool.false_or, Bool.or_false, Bool.true_and, Bool.and_true, Bool.false_and, Bool.and_false, wq2, wq0, wq5, qS, qK]
    | [x], hr, hn =>
      obtain ⟨h1, h2, h3⟩ := wqv hr
      have h4 := wq2k h3
      simp (disch := omega) only [dec_t, dec_f, ieq_t, ieq_f, ine_t, ine_f, inb_t, bnd_t, wqj, wqa, cond_true, cond_false, Bool.not_true, Bool.not_false, Bool.true_or, Bool.or_true, Bool.false_or, Bool.or_false, Bool.true_and, Bool.and_true, Bool.false_and, Bool.and_false, wq2, wq0, wq5, h2, beq34, beq92, beq39, wq15p]
      have e1 := ih [] (i + 1) h3 (by omega) (by simp at hn ⊢; omega)
      have e2 := ih [] (i + 2) (by rw [List.drop_eq_nil_of_le (by omega)]) (by omega) (by simp at hn ⊢; omega)
      have c1 : ((i : Int) + 1) = ((i + 1 : Nat) : Int) := by omega
      have c2 : ((i : Int) + 1 + 1) = ((i + 2 : Nat) : Int) := by omega
      rw [c2, c1, e1, e2]
      unfold qS
      have h5 : decide (((i + 1 : Nat) : Int) < (s.length : Int)) = false := dec_f (by omega)
      cases h6 : (c == 34) <;> cases h7 : (x == 92) <;> cases h8 : (x == c) <;> cases h9 : (c == 39) <;> simp [h5, qS, qK]
    | x :: y :: r, hr, hn =>
      obtain ⟨h1, h2, h3⟩ := wqv hr
      obtain ⟨g1, g2, g3⟩ := wqv h3
      simp (disch := omega) only [dec_t, dec_f, ieq_t, ieq_f, ine_t, ine_f, inb_t, bnd_t, wqj, wqa, cond_true, cond_false, Bool.not_true, Bool.not_false, Bool.true_or, Bool.or_true, Bool.false_or, Bool.or_false, Bool.true_and, Bool.and_true, Bool.false_and, Bool.and_false, wq2, wq0, wq5, h2, beq34, beq92, beq39, wq15p]
      have e1 := ih (y :: r) (i + 1) h3 (by omega) (by simp at hn ⊢; omega)
      have e2 := ih r (i + 2) g3 (by omega) (by simp at hn ⊢; omega)
      have c1 : ((i : Int) + 1) = ((i + 1 : Nat) : Int) := by omega
      have c2 : ((i : Int) + 1 + 1) = ((i + 2 : Nat) : Int) := by omega
      rw [c2, c1, e1, e2, wq5, g2]
      rw [qS]
      cases h9 : (c == 39) with
      | false => cases h6 : (c == 34) <;> cases h7 : (x == 92) <;> cases h8 : (x == c) <;> simp [qK]
      | true =>
        have := beq_iff_eq.1 h9
        subst this
        cases h7 : (x == 92) <;> cases h8 : (x == 39) <;> cases h10 : (y == 39) <;> simp [qK]
def qAt (s : List UInt8) (i : Nat) : Option Nat := qS (s.getD i 0) (s.drop (i + 1)) (i + 1)
theorem wqt3 (k : Nat) {R : Type} (s : List UInt8) (i : Nat) (hs : s.length ≤ 1000000) (hi : i < s.length) (hk : s.length < k) (K : Int → Bool → Option R) : wqcn k s i K = qK K 0 (qAt s i) := by
  unfold wqcn wqhy
  simp (disch := omega) only [dec_t, dec_f, ieq_t, ieq_f, ine_t, ine_f, inb_t, bnd_t, wqj, wqa, cond_true, cond_false, Bool.not_true, Bool.not_false, Bool.true_or, Bool.or_true, Bool.false_or, Bool.or_false, Bool.true_and, Bool.and_true, Bool.false_and, Bool.and_false, wq2, wq0, wq5]
  rw [wq1w, wq10a k s _ hs K k _ (i + 1) rfl (by omega) (by rw [List.length_drop]; omega)]
  rfl
theorem wq12m (k : Nat) {R : Type} (s : List UInt8) (i : Nat) (hs : s.length ≤ 1000000) (hi : i < s.length) (hk : s.length < k) (K : Int → Bool → Option R) : wqde k s i K = qK K 1 (qAt s i) := by
  unfold wqde wqfx
  simp (disch := omega) only [dec_t, dec_f, ieq_t, ieq_f, ine_t, ine_f, inb_t, bnd_t, wqj, wqa, cond_true, cond_false, Bool.not_true, Bool.not_false, Bool.true_or, Bool.or_true, Bool.false_or, Bool.or_false, Bool.true_and, Bool.and_true, Bool.false_and, Bool.and_false, wq2, wq0, wq5]
  rw [wq1w, wqwd k s _ hs K k _ (i + 1) rfl (by omega) (by rw [List.length_drop]; omega)]
  rfl
theorem wq15r {s : List UInt8} {i j : Nat} (h : qAt s i = some j) : i < j ∧ j < s.length := by
  have := wq15q _ _ _ _ h
  rw [List.length_drop] at this
  omega
def rt (l : List UInt8) : List UInt8 := (l.reverse.dropWhile (· == 32)).reverse
theorem rt_nil : rt [] = [] := rfl
theorem rt_cat (l : List UInt8) (x : UInt8) : rt (l ++ [x]) = bif x == 32 then rt l else l ++ [x] := by
  unfold rt
  rw [List.reverse_append, List.reverse_singleton, List.singleton_append, List.dropWhile_cons]
  cases x == 32 <;> simp
theorem wq1et (l : List UInt8) (x d : UInt8) : (l ++ [x]).getD l.length d = x := by simp [List.getD]
theorem wq1dx (k : Nat) {R : Type} (K : List UInt8 → Option R) : ∀ (n : Nat) (l : List UInt8), l.length ≤ 1000000 → l.length < n → wq24 k n l 32 K = K (rt l) := by
  intro n
  induction n with
  | zero => intro l _ h; omega
  | succ n ih =>
    intro l hl hn
    rw [wq24]
    unfold wq5f
    rcases List.eq_nil_or_concat l with rfl | ⟨l', x, rfl⟩
    · simp [rt_nil]
    · rw [List.concat_eq_append] at *
      have hlen : (l' ++ [x]).length = l'.length + 1 := by simp
      rw [hlen] at hl hn
      simp (disch := omega) only [dec_t, dec_f, ieq_t, ieq_f, ine_t, ine_f, inb_t, bnd_t, wqj, wqa, cond_true, cond_false, Bool.not_true, Bool.not_false, Bool.true_or, Bool.or_true, Bool.false_or, Bool.or_false, Bool.true_and, Bool.and_true, Bool.false_and, Bool.and_false, wq2, wq0, wq5, hlen]
      have e1 : (((l'.length + 1 : Nat) : Int) - 1) = (l'.length : Int) := by omega
      simp (disch := omega) only [dec_t, dec_f, ieq_t, ieq_f, ine_t, ine_f, inb_t, bnd_t, wqj, wqa, cond_true, cond_false, Bool.not_true, Bool.not_false, Bool.true_or, Bool.or_true, Bool.false_or, Bool.or_false, Bool.true_and, Bool.and_true, Bool.false_and, Bool.and_false, wq2, wq0, wq5, e1, wq1et, beq32]
      rw [wqfy, List.take_left' rfl, ih l' (by omega) (by omega), rt_cat]
      cases x == 32 <;> rfl
theorem wq1a6 (k : Nat) {R : Type} (l : List UInt8) (hl : l.length ≤ 1000000) (hk : l.length < k) (K : List UInt8 → Option R) : wq6s k l 32 K = K (rt l) := by
  unfold wq6s wqd3 wq82 wq81
  cases l with
  | nil => rfl
  | cons x r =>
    have e2 : (((([32] : List UInt8).getD (Int.toNat 0) 0).toNat : Nat) : Int) = 32 := rfl
    simp only [e2, show ((x :: r) == ([] : List UInt8)) = false from rfl, show (([32] : List UInt8) == []) = false from rfl, show ((([32] : List UInt8).length : Int) == 1) = true from rfl, show decide ((32 : Int) < 128) = true from rfl, cond_false, cond_true]
    exact wq1dx k K k _ hl hk
def fresh (s : List UInt8) (i : Nat) : Bool := i == 0 || s.getD (i - 1) 0 == 32
def stS (s : List UInt8) : Nat → Nat → Option Nat
  | 0, _ => some s.length
  | n + 1, i => bif Nat.ble s.length i then some s.length else
    bif !fresh s i then stS s n (i + 1) else
    bif s.getD i 0 == 35 then some i else
    bif s.getD i 0 == 39 || s.getD i 0 == 34 then (match qAt s i with
      | some j => stS s n (j + 1)
      | none => none) else stS s n (i + 1)
def stK {R : Type} (s : List UInt8) (K : List UInt8 → Bool → Option R) : Option Nat → Option R
  | some e => K (rt (s.take e)) true
  | none => K [] false
theorem ble_f {a b : Nat} (h : b < a) : Nat.ble a b = false := by
  cases hb : Nat.ble a b with
  | false => rfl
  | true => have := Nat.le_of_ble_eq_true hb; omega
theorem ble_t {a b : Nat} (h : a ≤ b) : Nat.ble a b = true := Nat.ble_eq_true_of_le h
theorem wq12n (k : Nat) {R : Type} (s : List UInt8) (hs : s.length ≤ 1000000) (hk : s.length < k) (K : List UInt8 → Bool → Option R) : ∀ (n i : Nat), i ≤ s.length → s.length < i + n →
    wq30 k n s (s.length : Int) (i : Int) K = stK s K (stS s n i) := by
  intro n
  induction n with
  | zero => intro i _ h; omega
  | succ n ih =>
    intro i hi hn
    rw [wq30]
    unfold wqbt
    by_cases h : i < s.length
    · have hb := ble_f h
      rw [stS, hb, cond_false]
      have st1 := ih (i + 1) (by omega) (by omega)
      have c1 : ((i : Int) + 1) = ((i + 1 : Nat) : Int) := by omega
      have hg : bnd 0 (i : Int) (s.length : Int) = true := bnd_t (by omega) (by omega) (by omega)
      have hcut : (cut s 0 (i : Int)).length ≤ 1000000 ∧ (cut s 0 (i : Int)).length < k := by rw [wqfy, List.length_take]; omega
      have tail : (bif (s.getD i 0 : UInt8) == 35 then K (rt (s.take i)) true else bif (s.getD i 0 : UInt8) == 39 then qK (fun y7 y8 => bif !y8 then K [] false else wq30 k n s (s.length : Int) (IntKind.i64.wrap (y7 + 1)) K) 0 (qAt s i) else bif (s.getD i 0 : UInt8) == 34 then qK (fun y7 y8 => bif !y8 then K [] false else wq30 k n s (s.length : Int) (IntKind.i64.wrap (y7 + 1)) K) 0 (qAt s i) else wq30 k n s (s.length : Int) ((i + 1 : Nat) : Int) K) =
          stK s K (bif s.getD i 0 == 35 then some i else bif s.getD i 0 == 39 || s.getD i 0 == 34 then (match qAt s i with | some j => stS s n (j + 1) | none => none) else stS s n (i + 1)) := by
        have hq : qK (fun y7 y8 => bif !y8 then K [] false else wq30 k n s (s.length : Int) (IntKind.i64.wrap (y7 + 1)) K) 0 (qAt s i) = stK s K (match qAt s i with | some j => stS s n (j + 1) | none => none) := by
          cases hqa : qAt s i with
          | none => rfl
          | some j =>
            have hj := wq15r hqa
            simp only [qK, Bool.not_true, cond_false]
            have e : IntKind.i64.wrap ((j : Int) + 0 + 1) = ((j + 1 : Nat) : Int) := by rw [wqj (by omega) (by omega)]; omega
            rw [e, ih (j + 1) (by omega) (by omega)]
        rw [hq, st1]
        cases (s.getD i 0 == 35) <;> cases (s.getD i 0 == 39) <;> cases (s.getD i 0 == 34) <;> rfl
      by_cases h0 : i = 0
      · subst h0
        have hf : fresh s 0 = true := rfl
        rw [hf]
        simp (disch := omega) only [dec_t, dec_f, ieq_t, ieq_f, ine_t, ine_f, inb_t, bnd_t, wqj, wqa, cond_true, cond_false, Bool.not_true, Bool.not_false, Bool.true_or, Bool.or_true, Bool.false_or, Bool.or_false, Bool.true_and, Bool.and_true, Bool.false_and, Bool.and_false, wq2, wq0, wq5, beq35, beq39, beq34]
        rw [wq1a6 k _ hcut.1 hcut.2, wqfy, wqt3 k s 0 hs h hk]
        rw [← tail]
        rfl
      · have e0 : ((i : Int) - 1) = ((i - 1 : Nat) : Int) := by omega
        have hf : fresh s i = (s.getD (i - 1) 0 == 32) := by
          have : (i == 0) = false := by simpa using h0
          simp [fresh, this]
        rw [hf]
        simp (disch := omega) only [dec_t, dec_f, ieq_t, ieq_f, ine_t, ine_f, inb_t, bnd_t, wqj, wqa, cond_true, cond_false, Bool.not_true, Bool.not_false, Bool.true_or, Bool.or_true, Bool.false_or, Bool.or_false, Bool.true_and, Bool.and_true, Bool.false_and, Bool.and_false, wq2, wq0, wq5, e0, beq35, beq39, beq34, bne32]
        rw [wq1a6 k _ hcut.1 hcut.2, wqfy, wqt3 k s i hs h hk, c1]
        cases hx : (s.getD (i - 1) 0 == 32) with
        | false => rw [Bool.not_false, cond_true, cond_true]; exact st1
        | true =>
          rw [Bool.not_true, cond_false, cond_false, ← tail]
    · have hi' : i = s.length := by omega
      subst hi'
      have hcut : (cut s 0 (s.length : Int)).length ≤ 1000000 ∧ (cut s 0 (s.length : Int)).length < k := by rw [wqfy, List.length_take]; omega
      rw [stS, ble_t (Nat.le_refl _), cond_true]
      simp (disch := omega) only [dec_t, dec_f, ieq_t, ieq_f, ine_t, ine_f, inb_t, bnd_t, wqj, wqa, cond_true, cond_false, Bool.not_true, Bool.not_false, Bool.true_or, Bool.or_true, Bool.false_or, Bool.or_false, Bool.true_and, Bool.and_true, Bool.false_and, Bool.and_false, wq2, wq0, wq5]
      rw [wq1a6 k _ hcut.1 hcut.2, wqfy]
      rfl
theorem wq18a (k : Nat) {R : Type} (s : List UInt8) (hs : s.length ≤ 1000000) (hk : s.length < k) (K : List UInt8 → Bool → Option R) : wqgl k s K = stK s K (stS s k 0) := by
  unfold wqgl wqkh
  exact wq12n k s hs hk K k 0 (by omega) (by omega)
theorem wq18b {s : List UInt8} {e : Nat} (h : e < s.length) : s.take (e + 1) = s.take e ++ [s.getD e 0] := by
  rw [List.take_add_one, List.getElem?_eq_getElem h]
  simp [List.getD, h]
theorem wqp4 (k : Nat) {R : Type} (s : List UInt8) (hs : s.length ≤ 1000000) (K : List UInt8 → Bool → Option R) : ∀ (n e : Nat), e ≤ s.length → e < n →
    wq51 k n s (e : Int) K = K (rt (s.take e)) true := by
  intro n
  induction n with
  | zero => intro e _ h; omega
  | succ n ih =>
    intro e he hn
    rw [wq51]
    unfold wqb9
    cases e with
    | zero =>
      simp (disch := omega) only [dec_t, dec_f, ieq_t, ieq_f, ine_t, ine_f, inb_t, bnd_t, wqj, wqa, cond_true, cond_false, Bool.not_true, Bool.not_false, Bool.true_or, Bool.or_true, Bool.false_or, Bool.or_false, Bool.true_and, Bool.and_true, Bool.false_and, Bool.and_false, wq2, wq0, wq5]
      rfl
    | succ e =>
      have e1 : (((e + 1 : Nat) : Int) - 1) = (e : Int) := by omega
      simp (disch := omega) only [dec_t, dec_f, ieq_t, ieq_f, ine_t, ine_f, inb_t, bnd_t, wqj, wqa, cond_true, cond_false, Bool.not_true, Bool.not_false, Bool.true_or, Bool.or_true, Bool.false_or, Bool.or_false, Bool.true_and, Bool.and_true, Bool.false_and, Bool.and_false, wq2, wq0, wq5, e1, beq32]
      rw [wqfy, wq18b (by omega), rt_cat, ih e (by omega) (by omega)]
      cases (s.getD e 0 == 32) <;> rfl
theorem wq10b (k : Nat) {R : Type} (s : List UInt8) (hs : s.length ≤ 1000000) (hk : s.length < k) (K : List UInt8 → Bool → Option R) : ∀ (n i : Nat), i ≤ s.length → s.length < i + n →
    wq2w k n s (s.length : Int) (i : Int) K = stK s K (stS s n i) := by
  intro n
  induction n with
  | zero => intro i _ h; omega
  | succ n ih =>
    intro i hi hn
    rw [wq2w]
    unfold wq7r
    by_cases h : i < s.length
    · have hb := ble_f h
      rw [stS, hb, cond_false]
      have st1 := ih (i + 1) (by omega) (by omega)
      have c1 : ((i : Int) + 1) = ((i + 1 : Nat) : Int) := by omega
      have hfr : (bif (i : Int) == 0 then true else ((s.getD (IntKind.i64.wrap ((i : Int) - 1)).toNat 0).toNat : Int) == 32) = fresh s i := by
        by_cases h0 : i = 0
        · subst h0; rfl
        · have e0 : ((i : Int) - 1) = ((i - 1 : Nat) : Int) := by omega
          have e2 : (i == 0) = false := by simpa using h0
          simp (disch := omega) only [dec_t, dec_f, ieq_t, ieq_f, ine_t, ine_f, inb_t, bnd_t, wqj, wqa, cond_true, cond_false, Bool.not_true, Bool.not_false, Bool.true_or, Bool.or_true, Bool.false_or, Bool.or_false, Bool.true_and, Bool.and_true, Bool.false_and, Bool.and_false, wq2, wq0, wq5, e0, beq32]
          rw [fresh, e2, Bool.false_or]
      have hin : (!((i : Int) == 0) == false || inb (IntKind.i64.wrap ((i : Int) - 1)) (s.length : Int)) = true := by
        by_cases h0 : i = 0
        · subst h0; rfl
        · simp (disch := omega) only [dec_t, dec_f, ieq_t, ieq_f, ine_t, ine_f, inb_t, bnd_t, wqj, wqa, cond_true, cond_false, Bool.not_true, Bool.not_false, Bool.true_or, Bool.or_true, Bool.false_or, Bool.or_false, Bool.true_and, Bool.and_true, Bool.false_and, Bool.and_false, wq2, wq0, wq5]
      have hash : wq2w k n s (i : Int) (i : Int) K = K (rt (s.take i)) true := by
        obtain ⟨m, rfl⟩ : ∃ m, n = m + 1 := ⟨n - 1, by omega⟩
        rw [wq2w]
        unfold wq7r
        simp (disch := omega) only [dec_t, dec_f, ieq_t, ieq_f, ine_t, ine_f, inb_t, bnd_t, wqj, wqa, cond_true, cond_false, Bool.not_true, Bool.not_false, Bool.true_or, Bool.or_true, Bool.false_or, Bool.or_false, Bool.true_and, Bool.and_true, Bool.false_and, Bool.and_false, wq2, wq0, wq5]
        exact wqp4 k s hs K k i (by omega) (by omega)
      rw [hfr, hin]
      simp (disch := omega) only [dec_t, dec_f, ieq_t, ieq_f, ine_t, ine_f, inb_t, bnd_t, wqj, wqa, cond_true, cond_false, Bool.not_true, Bool.not_false, Bool.true_or, Bool.or_true, Bool.false_or, Bool.or_false, Bool.true_and, Bool.and_true, Bool.false_and, Bool.and_false, wq2, wq0, wq5, beq35, beq39, beq34]
      rw [hash, wq12m k s i hs h hk, c1, st1]
      have hq : qK (fun y8 y9 => bif !y9 then K [] false else wq2w k n s (s.length : Int) y8 K) 1 (qAt s i) = stK s K (match qAt s i with | some j => stS s n (j + 1) | none => none) := by
        cases hqa : qAt s i with
        | none => rfl
        | some j =>
          have hj := wq15r hqa
          simp only [qK, Bool.not_true, cond_false]
          have e : ((j : Int) + 1) = ((j + 1 : Nat) : Int) := by omega
          rw [e, ih (j + 1) (by omega) (by omega)]
      rw [hq]
      cases fresh s i <;> cases (s.getD i 0 == 35) <;> cases (s.getD i 0 == 39) <;> cases (s.getD i 0 == 34) <;> rfl
    · have hi' : i = s.length := by omega
      subst hi'
      rw [stS, ble_t (Nat.le_refl _), cond_true]
      simp (disch := omega) only [dec_t, dec_f, ieq_t, ieq_f, ine_t, ine_f, inb_t, bnd_t, wqj, wqa, cond_true, cond_false, Bool.not_true, Bool.not_false, Bool.true_or, Bool.or_true, Bool.false_or, Bool.or_false, Bool.true_and, Bool.and_true, Bool.false_and, Bool.and_false, wq2, wq0, wq5]
      exact wqp4 k s hs K k s.length (by omega) (by omega)
theorem wq15s (k : Nat) {R : Type} (s : List UInt8) (hs : s.length ≤ 1000000) (hk : s.length < k) (K : List UInt8 → Bool → Option R) : wqez k s K = stK s K (stS s k 0) := by
  unfold wqez wqi4
  exact wq10b k s hs hk K k 0 (by omega) (by omega)
abbrev Nd := Int × (Int × (List UInt8 × (Bool × (List (List UInt8) × List Int))))
abbrev kNd : Kd := .pr (.int .i64) (.pr (.int .i64) (.pr .str (.pr .bool (.pr (.sl .str) (.sl (.int .i64))))))
def anyK (t : List UInt8) : List (List UInt8) → Bool
  | [] => false
  | q :: r => (t == q) || anyK t r
theorem wq1a7 (s : List UInt8) : ∀ (n m i : Nat), s.length < i + n → s.length < i + m → i ≤ s.length → stS s n i = stS s m i
  | 0, _, i, h, _, hi => by omega
  | _ + 1, 0, i, _, h, hi => by omega
  | n + 1, m + 1, i, h1, h2, hi => by
    rw [stS, stS]
    by_cases h : i < s.length
    · rw [ble_f h, cond_false, cond_false, wq1a7 s n m (i + 1) (by omega) (by omega) (by omega)]
      cases hq : qAt s i with
      | none => rfl
      | some j =>
        have := wq15r hq
        dsimp only
        rw [wq1a7 s n m (j + 1) (by omega) (by omega) (by omega)]
    · rw [ble_t (by omega)]; rfl
def ctl (c : UInt8) : Bool := decide (c.toNat < 32) || c == 127
def noCtl (s : List UInt8) : Bool := s.all fun c => !ctl c
def stripB (s : List UInt8) : Bool :=
  match stS s (s.length + 1) 0 with
  | some e => rt (s.take e) == s
  | none => false
def oneP (s : List UInt8) : List Pc → Bool
  | [p] => (p.1 == 3) && ((p.2.2.2.1 == s) && !p.2.2.2.2)
  | _ => false
def rowB (s : List UInt8) : Bool := ((rowR 0 0 s).2.1 == 0) && oneP s (rowR 0 0 s).1
def plainS (s : List UInt8) : Bool := noCtl s && (!(s == []) && (stripB s && rowB s))
def keyB (t : List UInt8) : Bool := (t.all sgn && !(t == [])) && decide (t.length ≤ 64)
def keysB : List (List UInt8) → List (List UInt8) → Bool
  | _, [] => true
  | l, t :: r => keyB t && (!anyK t l && keysB (l ++ [t]) r)
def fitN (x : Nd) : Bool :=
  bif x.1 == 1 then (x.2.2.2.2.1 == []) && ((x.2.2.2.2.2 == []) && (decide (x.2.2.1.length ≤ 200) && (x.2.2.2.1 || plainS x.2.2.1)))
  else bif x.1 == 2 then (x.2.2.2.2.1 == []) && (!(x.2.2.2.2.2 == []) && ((x.2.2.1 == []) && !x.2.2.2.1))
  else bif x.1 == 3 then decide (x.2.2.2.2.1.length = x.2.2.2.2.2.length) && (!(x.2.2.2.2.2 == []) && ((x.2.2.1 == []) && (!x.2.2.2.1 && keysB [] x.2.2.2.2.1)))
  else false
def kidsW (w : Nat → Option Nat) : List Int → Nat → Option Nat
  | [], next => some next
  | k :: r, next => bif k == (next : Int) then match w next with
      | none => none
      | some m => kidsW w r m
    else none
def walkS : Nat → List Nd → Nat → Option Nat
  | 0, _, _ => none
  | f + 1, nd, n => match nd[n]? with
    | none => none
    | some x => bif fitN x then kidsW (walkS f nd) x.2.2.2.2.2 (n + 1) else none
def checkS (nd : List Nd) : Bool := decide (1 ≤ nd.length) && (decide (nd.length ≤ 2000) && (walkS 24 nd 0 == some nd.length))
def blS (n : Nat) : List UInt8 := List.replicate n 32
def escB (c : UInt8) : List UInt8 :=
  bif c == 92 || c == 34 then [92, c] else bif c == 10 then [92, 110] else bif c == 9 then [92, 116] else bif decide (c.toNat < 32) || c == 127 then [92, 120, hexL.getD (c.toNat / 16) 0, hexL.getD (c.toNat % 16) 0] else [c]
def escS : List UInt8 → List UInt8
  | [] => []
  | c :: r => escB c ++ escS r
def quoS (s : List UInt8) : List UInt8 := 34 :: (escS s ++ [34])
def txtN (x : Nd) : List UInt8 := bif x.2.2.2.1 then quoS x.2.2.1 else x.2.2.1
def isT (nd : List Nd) (n : Nat) : Bool :=
  match nd[n]? with
  | some x => x.1 == 1
  | none => false
def lstS (g : Nat → List UInt8) (col : Nat) : Bool → List Int → List UInt8
  | _, [] => []
  | first, k :: r => (bif first then [] else blS col) ++ (45 :: 32 :: g k.toNat) ++ lstS g col false r
def mapS (g : Nat → List UInt8) (t : Nat → Bool) (col : Nat) : Bool → List (List UInt8) → List Int → List UInt8
  | first, key :: keys, k :: r => (bif first then [] else blS col) ++ key ++ (58 :: (bif t k.toNat then [32] else 10 :: blS (col + 2))) ++ g k.toNat ++ mapS g t col false keys r
  | _, _, _ => []
def textS : Nat → List Nd → Nat → Nat → List UInt8
  | 0, _, _, _ => []
  | f + 1, nd, n, col => match nd[n]? with
    | none => []
    | some x => bif x.1 == 1 then txtN x ++ [10] else bif x.1 == 2 then lstS (fun k => textS f nd k (col + 2)) col true x.2.2.2.2.2
      else mapS (fun k => textS f nd k (col + 2)) (isT nd) col true x.2.2.2.2.1 x.2.2.2.2.2
def sameN (x y : Nd) : Bool := (x.1 == y.1) && ((x.2.2.1 == y.2.2.1) && ((x.2.2.2.1 == y.2.2.2.1) && ((x.2.2.2.2.1 == y.2.2.2.2.1) && (x.2.2.2.2.2 == y.2.2.2.2.2))))
def sameS : List Nd → List Nd → Bool
  | [], [] => true
  | x :: r, y :: s => sameN x y && sameS r s
  | _, _ => false
theorem wq18c {w : Nat → Option Nat} (hw : ∀ n m, w n = some m → n < m) : ∀ (l : List Int) (n m : Nat), kidsW w l n = some m → n + l.length ≤ m
  | [], n, m, h => by rw [kidsW] at h; cases h; simp
  | k :: r, n, m, h => by
    rw [kidsW] at h
    cases h1 : k == (n : Int) with
    | false => rw [h1] at h; cases h
    | true =>
      rw [h1, cond_true] at h
      cases h2 : w n with
      | none => rw [h2] at h; cases h
      | some j =>
        rw [h2] at h
        have := hw n j h2
        have := wq18c hw r j m h
        rw [List.length_cons]; omega
theorem wq10c {f : Nat} {nd : List Nd} {n m : Nat} (h : walkS (f + 1) nd n = some m) : ∃ x, nd[n]? = some x ∧ fitN x = true ∧ kidsW (walkS f nd) x.2.2.2.2.2 (n + 1) = some m := by
  rw [walkS] at h
  cases hx : nd[n]? with
  | none => rw [hx] at h; cases h
  | some x =>
    rw [hx] at h
    dsimp only at h
    cases hf : fitN x with
    | false => rw [hf] at h; cases h
    | true => rw [hf, cond_true] at h; exact ⟨x, rfl, hf, h⟩
theorem wq10d : ∀ (f : Nat) (nd : List Nd) (n m : Nat), walkS f nd n = some m → n < m
  | 0, nd, n, m, h => by rw [walkS] at h; cases h
  | f + 1, nd, n, m, h => by
    obtain ⟨x, _, _, h⟩ := wq10c h
    have := wq18c (fun a b => wq10d f nd a b) _ _ _ h
    omega
theorem wq1dy {w : Nat → Option Nat} {L : Nat} (hw : ∀ n m, w n = some m → m ≤ L) : ∀ (l : List Int) (n m : Nat), n ≤ L → kidsW w l n = some m → m ≤ L
  | [], n, m, hn, h => by rw [kidsW] at h; cases h; exact hn
  | k :: r, n, m, hn, h => by
    rw [kidsW] at h
    cases h1 : k == (n : Int) with
    | false => rw [h1] at h; cases h
    | true =>
      rw [h1, cond_true] at h
      cases h2 : w n with
      | none => rw [h2] at h; cases h
      | some j =>
        rw [h2] at h
        exact wq1dy hw r j m (hw n j h2) h
theorem wqr7 : ∀ (f : Nat) (nd : List Nd) (n m : Nat), walkS f nd n = some m → m ≤ nd.length
  | 0, nd, n, m, h => by rw [walkS] at h; cases h
  | f + 1, nd, n, m, h => by
    obtain ⟨x, hx, _, h⟩ := wq10c h
    have := (List.getElem?_eq_some_iff.1 hx).1
    exact wq1dy (fun a b => wqr7 f nd a b) _ _ _ (by omega) h
theorem wq1a8 (c : UInt8) : (escB c).length ≤ 4 := by
  unfold escB
  cases (c == 92 || c == 34) <;> simp only [cond_true, cond_false]
  · cases c == 10 <;> simp only [cond_true, cond_false]
    · cases c == 9 <;> simp only [cond_true, cond_false]
      · cases (decide (c.toNat < 32) || c == 127) <;> simp
      · simp
    · simp
  · simp
theorem wq1dz : ∀ s : List UInt8, (escS s).length ≤ 4 * s.length
  | [] => by simp [escS]
  | c :: r => by
    have := wq1a8 c
    have := wq1dz r
    rw [escS, List.length_append, List.length_cons]; omega
theorem wq15t {x : Nd} (h : fitN x = true) (h1 : (x.1 == 1) = true) : x.2.2.2.2.1 = [] ∧ x.2.2.2.2.2 = [] ∧ x.2.2.1.length ≤ 200 ∧ (x.2.2.2.1 = true ∨ plainS x.2.2.1 = true) := by
  unfold fitN at h
  rw [h1, cond_true] at h
  simp only [Bool.and_eq_true, beq_iff_eq, decide_eq_true_eq, Bool.or_eq_true] at h
  exact h
theorem wq1hl {x : Nd} (h : fitN x = true) (h1 : (x.1 == 2) = true) : x.2.2.2.2.1 = [] ∧ x.2.2.2.2.2 ≠ [] ∧ x.2.2.1 = [] ∧ x.2.2.2.1 = false := by
  unfold fitN at h
  have e : x.1 = 2 := by simpa using h1
  have e2 : ((2 : Int) == 1) = false := rfl
  rw [e, e2, cond_false] at h
  have e3 : ((2 : Int) == 2) = true := rfl
  rw [e3, cond_true] at h
  simp only [Bool.and_eq_true, beq_iff_eq, Bool.not_eq_true', beq_eq_false_iff_ne] at h
  exact h
theorem wq1a9 {x : Nd} (h : fitN x = true) (h1 : (x.1 == 1) = false) (h2 : (x.1 == 2) = false) : x.1 = 3 ∧ x.2.2.2.2.1.length = x.2.2.2.2.2.length ∧ x.2.2.2.2.2 ≠ [] ∧ x.2.2.1 = [] ∧ x.2.2.2.1 = false ∧ keysB [] x.2.2.2.2.1 = true := by
  unfold fitN at h
  rw [h1, h2, cond_false, cond_false] at h
  cases h3 : x.1 == 3 with
  | false => rw [h3] at h; cases h
  | true =>
    rw [h3, cond_true] at h
    simp only [Bool.and_eq_true, beq_iff_eq, Bool.not_eq_true', beq_eq_false_iff_ne, decide_eq_true_eq] at h
    exact ⟨by simpa using h3, h⟩
theorem wqt4 : ∀ (l r : List (List UInt8)), keysB l r = true → ∀ t ∈ r, keyB t = true
  | l, [], h, t, ht => by cases ht
  | l, q :: r, h, t, ht => by
    rw [keysB] at h
    simp only [Bool.and_eq_true] at h
    rcases List.mem_cons.1 ht with rfl | ht
    · exact h.1
    · exact wqt4 _ r h.2.2 t ht
theorem wq1aa {x : Nd} (h : x.2.2.1.length ≤ 200) : (txtN x).length ≤ 802 := by
  unfold txtN quoS
  have := wq1dz x.2.2.1
  cases x.2.2.2.1 <;> simp <;> omega
theorem wq10e {g : Nat → List UInt8} {w : Nat → Option Nat} {col : Nat} (hc : col ≤ 60) (hg : ∀ n m, w n = some m → n < m ∧ (g n).length + 200 ≤ 1100 * (m - n)) :
    ∀ (l : List Int) (b : Bool) (n m : Nat), kidsW w l n = some m → n ≤ m ∧ (lstS g col b l).length ≤ 1100 * (m - n)
  | [], b, n, m, h => by rw [kidsW] at h; cases h; simp [lstS]
  | k :: r, b, n, m, h => by
    rw [kidsW] at h
    cases h1 : k == (n : Int) with
    | false => rw [h1] at h; cases h
    | true =>
      rw [h1, cond_true] at h
      cases h2 : w n with
      | none => rw [h2] at h; cases h
      | some j =>
        rw [h2] at h
        have e : k = (n : Int) := by simpa using h1
        subst e
        obtain ⟨i1, i2⟩ := hg n j h2
        obtain ⟨i3, i4⟩ := wq10e hc hg r false j m h
        have hb : (bif b then [] else blS col).length ≤ 60 := by cases b <;> simp [blS] <;> omega
        rw [lstS, Int.toNat_natCast]
        simp only [List.length_append, List.length_cons]
        omega
theorem wq1fb {g : Nat → List UInt8} {t : Nat → Bool} {w : Nat → Option Nat} {col : Nat} (hc : col ≤ 60) (hg : ∀ n m, w n = some m → n < m ∧ (g n).length + 200 ≤ 1100 * (m - n)) :
    ∀ (l : List Int) (keys : List (List UInt8)) (b : Bool) (n m : Nat), kidsW w l n = some m → (∀ q ∈ keys, q.length ≤ 64) → n ≤ m ∧ (mapS g t col b keys l).length ≤ 1100 * (m - n)
  | [], keys, b, n, m, h, hk => by rw [kidsW] at h; cases h; cases keys <;> simp [mapS]
  | k :: r, [], b, n, m, h, hk => by
    rw [mapS]
    · rw [kidsW] at h
      cases h1 : k == (n : Int) with
      | false => rw [h1] at h; cases h
      | true =>
        rw [h1, cond_true] at h
        cases h2 : w n with
        | none => rw [h2] at h; cases h
        | some j =>
          rw [h2] at h
          have := (hg n j h2).1
          have := (wq10e (g := g) (col := 0) (by omega) hg r false j m h).1
          simp; omega
    · intro _ _ _ _ h _; cases h
  | k :: r, key :: keys, b, n, m, h, hk => by
    rw [kidsW] at h
    cases h1 : k == (n : Int) with
    | false => rw [h1] at h; cases h
    | true =>
      rw [h1, cond_true] at h
      cases h2 : w n with
      | none => rw [h2] at h; cases h
      | some j =>
        rw [h2] at h
        have e : k = (n : Int) := by simpa using h1
        subst e
        obtain ⟨i1, i2⟩ := hg n j h2
        obtain ⟨i3, i4⟩ := wq1fb (t := t) hc hg r keys false j m h fun q hq => hk q (List.mem_cons_of_mem _ hq)
        have hb : (bif b then [] else blS col).length ≤ 60 := by cases b <;> simp [blS] <;> omega
        have hb2 : (bif t n then [32] else 10 :: blS (col + 2)).length ≤ 63 := by cases t n <;> simp [blS] <;> omega
        have hq := hk key (by simp)
        rw [mapS, Int.toNat_natCast]
        simp only [List.length_append, List.length_cons]
        omega
theorem wq10f : ∀ (f : Nat) (nd : List Nd) (n m col : Nat), walkS f nd n = some m → col + 2 * f ≤ 60 → n < m ∧ (textS f nd n col).length + 200 ≤ 1100 * (m - n)
  | 0, nd, n, m, col, h, hc => by rw [walkS] at h; cases h
  | f + 1, nd, n, m, col, h, hc => by
    have hlt := wq10d _ _ _ _ h
    obtain ⟨x, hx, hf, h⟩ := wq10c h
    refine ⟨hlt, ?_⟩
    rw [textS, hx]
    dsimp only
    cases h1 : x.1 == 1 with
    | true =>
      obtain ⟨_, _, hl, _⟩ := wq15t hf h1
      have := wq1aa hl
      rw [cond_true, List.length_append]
      simp; omega
    | false =>
      rw [cond_false]
      cases h2 : x.1 == 2 with
      | true =>
        rw [cond_true]
        obtain ⟨i1, i2⟩ := wq10e (g := fun k => textS f nd k (col + 2)) (w := walkS f nd) (col := col) (by omega) (fun a b hab => wq10f f nd a b (col + 2) hab (by omega)) _ true _ _ h
        omega
      | false =>
        rw [cond_false]
        obtain ⟨_, _, _, _, _, hk⟩ := wq1a9 hf h1 h2
        obtain ⟨i1, i2⟩ := wq1fb (g := fun k => textS f nd k (col + 2)) (t := isT nd) (w := walkS f nd) (col := col) (by omega) (fun a b hab => wq10f f nd a b (col + 2) hab (by omega)) _ x.2.2.2.2.1 true _ _ h (fun q hq => by
          have := wqt4 _ _ hk q hq
          simp only [keyB, Bool.and_eq_true, decide_eq_true_eq] at this
          exact this.2)
        omega
theorem ctl_at (c : UInt8) : (bif decide ((c.toNat : Int) < 32) then true else (c.toNat : Int) == 127) = ctl c := by
  have e5 : ((c.toNat : Int) == 127) = (c == 127) := u8_beq c 127 (by omega)
  have e6 : decide ((c.toNat : Int) < 32) = decide (c.toNat < 32) := by rw [Bool.eq_iff_iff]; simp; omega
  rw [e5, e6, Bool.cond_true_left]; rfl
theorem wq1bc {R : Type} (k : Nat) (s : List UInt8) (hs : s.length ≤ 200) (hk : 300 < k) (K : List UInt8 → Bool → Option R) : stK s K (stS s k 0) = stK s K (stS s (s.length + 1) 0) := by
  rw [wq1a7 s k (s.length + 1) 0 (by omega) (by omega) (by omega)]
theorem wqp5 (k : Nat) {R : Type} (s : List UInt8) (hs : s.length ≤ 200) (hk : 300 < k) (K : Bool → Option R) : ∀ (t : List UInt8) (n m : Nat), s.drop n = t → t.length < m → n ≤ s.length →
    wq4r k m s (s.length : Int) (n : Int) K = K (noCtl t && (!(s == []) && (stripB s && rowB s)))
  | t, n, 0, _, hm, _ => by omega
  | [], n, m + 1, hd, hm, hn => by
    have := wq2k hd
    rw [wq4r, wqa2, wq18a k s (by omega) (by omega), wq1bc k s hs hk]
    simp (disch := omega) only [dec_t, dec_f, ieq_t, ieq_f, ine_t, ine_f, inb_t, bnd_t, wqj, wqa, cond_true, cond_false, Bool.not_true, Bool.not_false, Bool.true_or, Bool.or_true, Bool.false_or, Bool.or_false, Bool.true_and, Bool.and_true, Bool.false_and, Bool.and_false, wq2, wq0, wq5]
    have e0 : noCtl [] = true := rfl
    rw [e0, Bool.true_and]
    unfold stripB
    cases hst : stS s (s.length + 1) 0 with
    | none => simp only [stK]; cases s == [] <;> rfl
    | some e =>
      simp only [stK]
      cases h1 : s == [] with
      | true => rfl
      | false =>
        cases h2 : rt (s.take e) == s with
        | false => rfl
        | true =>
          simp only [Bool.not_true, Bool.not_false, cond_true, cond_false, Bool.true_and]
          rw [wq1dt k 0 0 s _ (by omega) (by omega)]
          unfold rowB
          obtain ⟨l, a, b⟩ := rowR 0 0 s
          dsimp only
          cases h3 : a == 0 with
          | false => rfl
          | true =>
            match l with
            | [] => rfl
            | [p] =>
              have e1 : ((([p] : List Pc).length : Int) == 1) = true := rfl
              have e2 : inb 0 (([p] : List Pc).length : Int) = true := rfl
              have e3 : ∀ z, ([p] : List Pc).getD (Int.toNat 0) z = p := fun _ => rfl
              simp only [e1, e2, e3, cond_true, Bool.or_true, oneP, Bool.true_and]
              cases p.1 == 3 <;> cases p.2.2.2.1 == s <;> rfl
            | p :: q :: r =>
              have e1 : (((p :: q :: r : List Pc).length : Int) == 1) = false := ieq_f (by simp; omega)
              simp only [e1, cond_true, cond_false]
              rfl
  | c :: r, n, m + 1, hd, hm, hn => by
    obtain ⟨hlt, hc, hr⟩ := wqv hd
    rw [wq4r, wqa2]
    simp (disch := omega) only [dec_t, dec_f, ieq_t, ieq_f, ine_t, ine_f, inb_t, bnd_t, wqj, wqa, cond_true, cond_false, Bool.not_true, Bool.not_false, Bool.true_or, Bool.or_true, Bool.false_or, Bool.or_false, Bool.true_and, Bool.and_true, Bool.false_and, Bool.and_false, wq2, wq0, wq5, hc, ctl_at, wq1w]
    have e0 : noCtl (c :: r) = (!ctl c && noCtl r) := rfl
    rw [e0]
    cases ctl c with
    | true => rfl
    | false =>
      simp only [cond_false, Bool.not_false, Bool.true_and]
      exact wqp5 k s hs hk K r (n + 1) m hr (by simp at hm; omega) (by omega)
theorem wq18d (k : Nat) {R : Type} (s : List UInt8) (hs : s.length ≤ 200) (hk : 300 < k) (K : Bool → Option R) : wqgm k s K = K (plainS s) := by
  unfold wqgm wqkj
  exact wqp5 k s hs hk K s 0 k rfl (by omega) (by omega)
theorem wqng (k : Nat) {R : Type} (s : List UInt8) (hs : s.length ≤ 200) (hk : 300 < k) (K : Bool → Option R) : ∀ (t : List UInt8) (n m : Nat), s.drop n = t → t.length < m → n ≤ s.length →
    wq4g k m s (n : Int) K = K (noCtl t && (stripB s && rowB s))
  | t, n, 0, _, hm, _ => by omega
  | [], n, m + 1, hd, hm, hn => by
    have := wq2k hd
    rw [wq4g, wq99, wq15s k s (by omega) (by omega), wq1bc k s hs hk]
    simp (disch := omega) only [dec_t, dec_f, ieq_t, ieq_f, ine_t, ine_f, inb_t, bnd_t, wqj, wqa, cond_true, cond_false, Bool.not_true, Bool.not_false, Bool.true_or, Bool.or_true, Bool.false_or, Bool.or_false, Bool.true_and, Bool.and_true, Bool.false_and, Bool.and_false, wq2, wq0, wq5]
    have e0 : noCtl [] = true := rfl
    rw [e0, Bool.true_and]
    unfold stripB
    cases hst : stS s (s.length + 1) 0 with
    | none => simp only [stK]; rw [wq109 k 0 0 s _ (by omega) (by omega)]; rfl
    | some e =>
      simp only [stK]
      rw [wq109 k 0 0 s _ (by omega) (by omega)]
      cases h2 : rt (s.take e) == s with
      | false => rfl
      | true =>
        unfold rowB
        obtain ⟨l, a, b⟩ := rowR 0 0 s
        dsimp only
        cases h3 : a == 0 with
        | false => rfl
        | true =>
          match l with
          | [] => rfl
          | [p] =>
            have e1 : ((([p] : List Pc).length : Int) == 1) = true := rfl
            have e2 : inb 0 (([p] : List Pc).length : Int) = true := rfl
            have e3 : ∀ z, ([p] : List Pc).getD (Int.toNat 0) z = p := fun _ => rfl
            simp only [e1, e2, e3, cond_true, Bool.or_true, oneP, Bool.true_and]
            cases p.1 == 3 <;> cases p.2.2.2.1 == s <;> rfl
          | p :: q :: r =>
            have e1 : (((p :: q :: r : List Pc).length : Int) == 1) = false := ieq_f (by simp; omega)
            simp only [e1, cond_true, cond_false]
            rfl
  | c :: r, n, m + 1, hd, hm, hn => by
    obtain ⟨hlt, hc, hr⟩ := wqv hd
    rw [wq4g, wq99]
    simp (disch := omega) only [dec_t, dec_f, ieq_t, ieq_f, ine_t, ine_f, inb_t, bnd_t, wqj, wqa, cond_true, cond_false, Bool.not_true, Bool.not_false, Bool.true_or, Bool.or_true, Bool.false_or, Bool.or_false, Bool.true_and, Bool.and_true, Bool.false_and, Bool.and_false, wq2, wq0, wq5, hc, ctl_at, wq1w]
    have e0 : noCtl (c :: r) = (!ctl c && noCtl r) := rfl
    rw [e0]
    cases ctl c with
    | true => rfl
    | false =>
      simp only [cond_false, Bool.not_false, Bool.true_and]
      exact wqng k s hs hk K r (n + 1) m hr (by simp at hm; omega) (by omega)
theorem wq15u (k : Nat) {R : Type} (s : List UInt8) (hs : s.length ≤ 200) (hk : 300 < k) (K : Bool → Option R) : wqf0 k s K = K (plainS s) := by
  unfold wqf0 wqi5 plainS
  have h0 : decide ((s.length : Int) > 200) = false := dec_f (by omega)
  rw [h0]
  cases h1 : s == [] with
  | true => simp only [cond_true, Bool.not_true, Bool.false_and, Bool.and_false]
  | false =>
    simp only [cond_false, Bool.not_false, Bool.true_and]
    exact wqng k s hs hk K s 0 k rfl (by omega) (by omega)
theorem wq1bd (t q : List UInt8) : ∀ l : List (List UInt8), anyK t (l ++ [q]) = (anyK t l || (t == q))
  | [] => by simp [anyK]
  | x :: l => by rw [List.cons_append, anyK, anyK, wq1bd t q l, Bool.or_assoc]
theorem wq1be (key t : List UInt8) : ∀ es : List (List UInt8 × Bool), mget .bool t (mset .bool key true es) = (mget .bool t es || (t == key))
  | [] => by
    rw [mset, mget, mget]
    cases t == key <;> rfl
  | (k, x) :: r => by
    rw [mset]
    cases h1 : key == k with
    | true =>
      have : key = k := by simpa using h1
      subst this
      rw [cond_true, mget, mget]
      cases t == key <;> simp
    | false =>
      rw [cond_false, mget, mget, wq1be key t r]
      cases h2 : t == k with
      | false => rfl
      | true =>
        have : t = k := by simpa using h2
        subst this
        have : (t == key) = false := by
          rw [beq_eq_false_iff_ne] at h1 ⊢
          exact fun e => h1 e.symm
        rw [this]; simp
theorem wqp6 (k : Nat) {R : Type} (keys : List (List UInt8)) (hk : keys.length ≤ 4000) (hq : ∀ q ∈ keys, q.length ≤ 4000) (hk2 : 5000 < k) (K : Bool → Option R) : ∀ (t : List (List UInt8)) (n m : Nat) (es : List (List UInt8 × Bool)) (l : List (List UInt8)),
    keys.drop n = t → t.length < m → n ≤ keys.length → (∀ q, mget .bool q es = anyK q l) → wq4q k m es keys (keys.length : Int) (n : Int) K = K (keysB l t)
  | t, n, 0, es, l, _, hm, _, _ => by omega
  | [], n, m + 1, es, l, hd, hm, hn, he => by
    have := wq2k hd
    rw [wq4q, wq9y]
    simp (disch := omega) only [dec_t, dec_f, ieq_t, ieq_f, ine_t, ine_f, inb_t, bnd_t, wqj, wqa, cond_true, cond_false, Bool.not_true, Bool.not_false, Bool.true_or, Bool.or_true, Bool.false_or, Bool.or_false, Bool.true_and, Bool.and_true, Bool.false_and, Bool.and_false, wq2, wq0, wq5]
    rfl
  | c :: r, n, m + 1, es, l, hd, hm, hn, he => by
    obtain ⟨hlt, hc, hr⟩ := wqv hd
    have hcl := hq c (List.mem_of_mem_drop (by rw [hd]; simp))
    rw [wq4q, wq9y]
    simp (disch := omega) only [dec_t, dec_f, ieq_t, ieq_f, ine_t, ine_f, inb_t, bnd_t, wqj, wqa, cond_true, cond_false, Bool.not_true, Bool.not_false, Bool.true_or, Bool.or_true, Bool.false_or, Bool.or_false, Bool.true_and, Bool.and_true, Bool.false_and, Bool.and_false, wq2, wq0, wq5, hc, wq1w]
    rw [wqr4 k c _ (by omega) (by omega), keysB, keyB]
    cases h1 : (c.all sgn && !(c == [])) with
    | false => rfl
    | true =>
      by_cases h2 : (c.length : Int) > 64
      · have h3 : decide (c.length ≤ 64) = false := dec_f (by omega)
        rw [dec_t h2, h3]; rfl
      · have h3 : decide (c.length ≤ 64) = true := dec_t (by omega)
        rw [dec_f h2, h3]
        simp only [Bool.not_true, cond_false, wq0, Bool.not_false, cond_true, Bool.true_and, he]
        cases h4 : anyK c l with
        | true => rfl
        | false =>
          simp only [cond_false, Bool.not_false, Bool.true_and]
          exact wqp6 k keys hk hq hk2 K r (n + 1) m _ (l ++ [c]) hr (by simp at hm; omega) (by omega) (fun q => by rw [wq1be, he, wq1bd])
theorem wq18e (k : Nat) {R : Type} (keys : List (List UInt8)) (hk : keys.length ≤ 4000) (hq : ∀ q ∈ keys, q.length ≤ 4000) (hk2 : 5000 < k) (K : Bool → Option R) : wqga k keys K = K (keysB [] keys) := by
  unfold wqga wqk3
  exact wqp6 k keys hk hq hk2 K keys 0 k [] [] rfl (by omega) (by omega) (fun _ => rfl)
theorem wqt5 (k : Nat) {R : Type} (s : List UInt8) (hs : s.length ≤ 200) (K : Bool → Option R) : ∀ (t : List UInt8) (n m : Nat), s.drop n = t → t.length < m → n ≤ s.length → wq5k k m s (n : Int) K = K (t.all sgn)
  | t, n, 0, _, hm, _ => by omega
  | [], n, m + 1, hd, hm, hn => by
    have := wq2k hd
    rw [wq5k, wqb0]
    simp (disch := omega) only [dec_t, dec_f, ieq_t, ieq_f, ine_t, ine_f, inb_t, bnd_t, wqj, wqa, cond_true, cond_false, Bool.not_true, Bool.not_false, Bool.true_or, Bool.or_true, Bool.false_or, Bool.or_false, Bool.true_and, Bool.and_true, Bool.false_and, Bool.and_false, wq2, wq0, wq5]
    rfl
  | c :: r, n, m + 1, hd, hm, hn => by
    obtain ⟨hlt, hc, hr⟩ := wqv hd
    rw [wq5k, wqb0]
    simp (disch := omega) only [dec_t, dec_f, ieq_t, ieq_f, ine_t, ine_f, inb_t, bnd_t, wqj, wqa, cond_true, cond_false, Bool.not_true, Bool.not_false, Bool.true_or, Bool.or_true, Bool.false_or, Bool.or_false, Bool.true_and, Bool.and_true, Bool.false_and, Bool.and_false, wq2, wq0, wq5, hc, wq1w, wqva]
    have e : sgnI (c.toNat : Int) = sgn c := rfl
    rw [e, List.all_cons]
    cases sgn c with
    | false => rfl
    | true =>
      simp only [Bool.not_true, cond_false, Bool.true_and]
      exact wqt5 k s hs K r (n + 1) m hr (by simp at hm; omega) (by omega)
theorem wq1ab (k : Nat) {R : Type} (s : List UInt8) (hk : 300 < k) (K : Bool → Option R) : wqjt k s K = K (keyB s) := by
  unfold wqjt wqnr keyB
  cases h1 : s == [] with
  | true => simp only [cond_true, Bool.not_true, Bool.and_false, Bool.false_and]
  | false =>
    by_cases h : s.length > 64
    · have h3 : decide (s.length ≤ 64) = false := dec_f (by omega)
      have h4 : decide ((s.length : Int) > 64) = true := dec_t (by omega)
      rw [h3, h4]
      simp only [cond_false, cond_true, Bool.and_false]
    · have h3 : decide (s.length ≤ 64) = true := dec_t (by omega)
      have h4 : decide ((s.length : Int) > 64) = false := dec_f (by omega)
      rw [h3, h4]
      simp only [cond_false, Bool.not_false, Bool.and_true]
      exact wqt5 k s (by omega) K s 0 k rfl (by omega) (by omega)
theorem wqvc (k : Nat) {R : Type} (keys : List (List UInt8)) (hk : keys.length ≤ 4000) (J : List (List UInt8) → Int → Option R) (K : Bool → Option R) (i : Nat) (c : List UInt8) (hi : i < keys.length) (hc : ∀ d, keys.getD i d = c) : ∀ (t : List (List UInt8)) (n m : Nat),
    (keys.take i).drop n = t → t.length < m → n ≤ i → wq43 k J m keys (i : Int) (n : Int) K = bif anyK c t then K false else J keys (((i : Nat) + 1 : Nat) : Int)
  | t, n, 0, _, hm, _ => by omega
  | [], n, m + 1, hd, hm, hn => by
    have h0 := wq2k hd
    rw [List.length_take] at h0
    rw [wq43, wqa9]
    simp (disch := omega) only [dec_t, dec_f, ieq_t, ieq_f, ine_t, ine_f, inb_t, bnd_t, wqj, wqa, cond_true, cond_false, Bool.not_true, Bool.not_false, Bool.true_or, Bool.or_true, Bool.false_or, Bool.or_false, Bool.true_and, Bool.and_true, Bool.false_and, Bool.and_false, wq2, wq0, wq5, wq1w]
    rfl
  | q :: r, n, m + 1, hd, hm, hn => by
    obtain ⟨hlt, hq, hr⟩ := wqv hd
    rw [List.length_take] at hlt
    have hq' : ∀ d, keys.getD n d = q := by
      intro d
      have := hq d
      rw [List.getD, List.getElem?_take, if_pos (by omega)] at this
      exact this
    rw [wq43, wqa9]
    simp (disch := omega) only [dec_t, dec_f, ieq_t, ieq_f, ine_t, ine_f, inb_t, bnd_t, wqj, wqa, cond_true, cond_false, Bool.not_true, Bool.not_false, Bool.true_or, Bool.or_true, Bool.false_or, Bool.or_false, Bool.true_and, Bool.and_true, Bool.false_and, Bool.and_false, wq2, wq0, wq5, wq1w, hq', hc]
    rw [anyK]
    have e : (q == c) = (c == q) := by rw [Bool.eq_iff_iff]; simp; exact eq_comm
    rw [e]
    cases c == q with
    | true => rfl
    | false =>
      simp only [cond_false, Bool.false_or]
      exact wqvc k keys hk J K i c hi hc r (n + 1) m hr (by simp at hm; omega) (by omega)
theorem wqp7 (k : Nat) {R : Type} (keys : List (List UInt8)) (hk : keys.length ≤ 4000) (hk2 : 5000 < k) (K : Bool → Option R) : ∀ (t : List (List UInt8)) (n m : Nat),
    keys.drop n = t → t.length < m → n ≤ keys.length → wq3i k m keys (n : Int) K = K (keysB (keys.take n) t)
  | t, n, 0, _, hm, _ => by omega
  | [], n, m + 1, hd, hm, hn => by
    have := wq2k hd
    rw [wq3i, wqa8]
    simp (disch := omega) only [dec_t, dec_f, ieq_t, ieq_f, ine_t, ine_f, inb_t, bnd_t, wqj, wqa, cond_true, cond_false, Bool.not_true, Bool.not_false, Bool.true_or, Bool.or_true, Bool.false_or, Bool.or_false, Bool.true_and, Bool.and_true, Bool.false_and, Bool.and_false, wq2, wq0, wq5]
    rfl
  | c :: r, n, m + 1, hd, hm, hn => by
    obtain ⟨hlt, hc, hr⟩ := wqv hd
    rw [wq3i, wqa8]
    simp (disch := omega) only [dec_t, dec_f, ieq_t, ieq_f, ine_t, ine_f, inb_t, bnd_t, wqj, wqa, cond_true, cond_false, Bool.not_true, Bool.not_false, Bool.true_or, Bool.or_true, Bool.false_or, Bool.or_false, Bool.true_and, Bool.and_true, Bool.false_and, Bool.and_false, wq2, wq0, wq5, hc, wq1w]
    rw [wq1ab k c (by omega), keysB]
    cases h1 : keyB c with
    | false => rfl
    | true =>
      simp only [Bool.not_true, cond_false, Bool.true_and]
      have := wqvc k keys hk (fun s0 s1 => wq3i k m s0 s1 K) K n c hlt hc (keys.take n) 0 k rfl (by simp; omega) (by omega)
      refine Eq.trans this ?_
      cases h4 : anyK c (keys.take n) with
      | true => rfl
      | false =>
        simp only [cond_false, Bool.not_false, Bool.true_and]
        have e : keys.take n ++ [c] = keys.take (n + 1) := by
          have hg : keys[n]? = some c := by
            have := hc []
            rw [List.getD, List.getElem?_eq_getElem hlt] at this
            rw [List.getElem?_eq_getElem hlt]
            exact congrArg some this
          rw [List.take_add_one, hg]; rfl
        rw [e]
        exact wqp7 k keys hk hk2 K r (n + 1) m hr (by simp at hm; omega) (by omega)
theorem wq18f (k : Nat) {R : Type} (keys : List (List UInt8)) (hk : keys.length ≤ 4000) (hk2 : 5000 < k) (K : Bool → Option R) : wqgx k keys K = K (keysB [] keys) := by
  unfold wqgx wqkw
  exact wqp7 k keys hk hk2 K keys 0 k rfl (by omega) (by omega)
def okD (x : Nd) : Prop := x.2.2.1.length ≤ 4000 ∧ x.2.2.2.2.1.length ≤ 4000 ∧ x.2.2.2.2.2.length ≤ 4000 ∧ ∀ q ∈ x.2.2.2.2.1, q.length ≤ 4000
theorem len0 {α : Type} (l : List α) [BEq α] : ((l.length : Int) == 0) = (l == []) := by
  cases l with
  | nil => rfl
  | cons x r => exact ieq_f (by simp <;> omega)
theorem lenP {α : Type} (l : List α) [BEq α] : decide ((l.length : Int) > 0) = !(l == []) := by
  cases l with
  | nil => rfl
  | cons x r => exact dec_t (by simp <;> omega)
theorem lenE {a b : Nat} : ((a : Int) == (b : Int)) = decide (a = b) := by
  rw [Bool.eq_iff_iff]; simp; omega
theorem wq1c8 (k : Nat) {R : Type} (x : Nd) (hx : okD x) (hk : 5000 < k) (K : Bool → Option R) : wqmq k x.1 x.2.1 x.2.2.1 x.2.2.2.1 x.2.2.2.2.1 x.2.2.2.2.2 K = K (fitN x) := by
  obtain ⟨a, ln, t, q, ks, kd⟩ := x
  obtain ⟨h1, h2, h3, h4⟩ := hx
  dsimp only at h1 h2 h3 h4
  unfold wqmq wqyg fitN
  dsimp only
  rw [len0, len0, lenP, lenE]
  cases a == 1 with
  | true =>
    simp only [cond_true]
    cases ks == [] with
    | false => rfl
    | true =>
      cases kd == [] with
      | false => rfl
      | true =>
        by_cases hl : t.length ≤ 200
        · rw [dec_t hl, dec_t (show ((t.length : Nat) : Int) ≤ 200 by omega)]
          cases q with
          | true => rfl
          | false =>
            simp only [cond_true, Bool.true_and, Bool.false_or, beq_self_eq_true]
            exact wq18d k t hl (by omega) K
        · rw [dec_f hl, dec_f (show ¬ ((t.length : Nat) : Int) ≤ 200 by omega)]
          rfl
  | false =>
    simp only [cond_false]
    cases a == 2 with
    | true => cases ks == [] <;> cases kd == [] <;> cases t == [] <;> cases q <;> rfl
    | false =>
      simp only [cond_false]
      cases a == 3 with
      | false => rfl
      | true =>
        rw [wq18e k ks h2 h4 hk]
        cases decide (ks.length = kd.length) <;> cases kd == [] <;> cases t == [] <;> cases q <;> rfl
theorem wq18g (k : Nat) {R : Type} (x : Nd) (hx : okD x) (hk : 5000 < k) (K : Bool → Option R) : wqh3 k x.1 x.2.1 x.2.2.1 x.2.2.2.1 x.2.2.2.2.1 x.2.2.2.2.2 K = K (fitN x) := by
  obtain ⟨a, ln, t, q, ks, kd⟩ := x
  obtain ⟨h1, h2, h3, h4⟩ := hx
  dsimp only at h1 h2 h3 h4
  unfold wqh3 wqqt fitN
  dsimp only
  rw [len0, len0, lenP, lenE]
  cases a == 1 with
  | true =>
    simp only [cond_true]
    cases ks == [] with
    | false => rfl
    | true =>
      cases kd == [] with
      | false => rfl
      | true =>
        by_cases hl : t.length ≤ 200
        · rw [dec_t hl, dec_t (show ((t.length : Nat) : Int) ≤ 200 by omega)]
          cases q with
          | true => rfl
          | false =>
            simp only [cond_true, Bool.true_and, Bool.false_or, beq_self_eq_true]
            exact wq15u k t hl (by omega) K
        · rw [dec_f hl, dec_f (show ¬ ((t.length : Nat) : Int) ≤ 200 by omega)]
          rfl
  | false =>
    simp only [cond_false]
    cases a == 2 with
    | true => cases ks == [] <;> cases kd == [] <;> cases t == [] <;> cases q <;> rfl
    | false =>
      simp only [cond_false]
      cases a == 3 with
      | false => rfl
      | true =>
        rw [wq18f k ks h2 hk]
        cases decide (ks.length = kd.length) <;> cases kd == [] <;> cases t == [] <;> cases q <;> rfl
def numI : Option Nat → Int
  | none => -1
  | some m => (m : Int)
theorem nd_at {nd : List Nd} {n : Nat} (h : n < nd.length) : ∃ x, nd[n]? = some x ∧ (∀ z, nd.getD n z = x) ∧ x ∈ nd := ⟨nd[n], List.getElem?_eq_getElem h, fun z => by rw [List.getD, List.getElem?_eq_getElem h]; rfl, List.getElem_mem _⟩
theorem wqt6 (k : Nat) {R : Type} (X) (nd : List Nd) (hn : nd.length ≤ 4000) (K : Int → Option R) (d : Nat) (hd : d ≤ 100) (w : Nat → Option Nat) (hw : ∀ (n : Nat) (K : Int → Option R), n ≤ 4001 → X R nd (n : Int) ((d + 1 : Nat) : Int) K = K (numI (w n))) (hm : ∀ n m, w n = some m → m ≤ nd.length) (kids : List Int) (hl : kids.length ≤ 4000) :
    ∀ (q : List Int) (i n m : Nat), kids.drop i = q → q.length < m → i ≤ kids.length → n ≤ 4001 → wq5g k X m (d : Int) nd (n : Int) kids (kids.length : Int) (i : Int) K = K (numI (kidsW w q n))
  | q, i, n, 0, _, h, _, _ => by omega
  | [], i, n, m + 1, hq, h, hi, hn' => by
    have := wq2k hq
    rw [wq5g, wqax]
    simp (disch := omega) only [dec_t, dec_f, ieq_t, ieq_f, ine_t, ine_f, inb_t, bnd_t, wqj, wqa, cond_true, cond_false, Bool.not_true, Bool.not_false, Bool.true_or, Bool.or_true, Bool.false_or, Bool.or_false, Bool.true_and, Bool.and_true, Bool.false_and, Bool.and_false, wq2, wq0, wq5]
    rfl
  | c :: q, i, n, m + 1, hq, h, hi, hn' => by
    obtain ⟨hlt, hc, hr⟩ := wqv hq
    rw [wq5g, wqax]
    simp (disch := omega) only [dec_t, dec_f, ieq_t, ieq_f, ine_t, ine_f, inb_t, bnd_t, wqj, wqa, cond_true, cond_false, Bool.not_true, Bool.not_false, Bool.true_or, Bool.or_true, Bool.false_or, Bool.or_false, Bool.true_and, Bool.and_true, Bool.false_and, Bool.and_false, wq2, wq0, wq5, hc, wq1w]
    rw [kidsW]
    have e : (c != (n : Int)) = !(c == (n : Int)) := rfl
    rw [e]
    cases h1 : c == (n : Int) with
    | false => rfl
    | true =>
      have h1 : c = (n : Int) := by simpa using h1
      subst h1
      simp only [Bool.not_true, cond_false, cond_true]
      rw [hw n _ hn']
      cases h2 : w n with
      | none => rfl
      | some j =>
        have := hm n j h2
        have e2 : decide (numI (some j) < 0) = false := dec_f (by simp [numI])
        rw [e2, cond_false]
        exact wqt6 k X nd hn K d hd w hw hm kids hl q (i + 1) j m hr (by simp at h; omega) (by omega) (by omega)
theorem wq10g {R : Type} (nd : List Nd) (hn : nd.length ≤ 4000) (ho : ∀ x ∈ nd, okD x) : ∀ (f k d n : Nat) (K : Int → Option R), 5000 + f < k → d + f = 25 → n ≤ 4001 → wq2x k R nd (n : Int) (d : Int) K = K (numI (walkS f nd n))
  | f, 0, d, n, K, hk, hd, hn' => by omega
  | 0, k + 1, d, n, K, hk, hd, hn' => by
    rw [wq2x]
    unfold wqjp
    have e : decide ((d : Int) > 24) = true := dec_t (by omega)
    have e2 : (bif decide ((n : Int) ≥ (nd.length : Int)) then true else true) = true := by cases decide ((n : Int) ≥ (nd.length : Int)) <;> rfl
    rw [e, e2]
    rfl
  | f + 1, k + 1, d, n, K, hk, hd, hn' => by
    rw [wq2x]
    unfold wqjp
    have e : decide ((d : Int) > 24) = false := dec_f (by omega)
    rw [e, walkS]
    by_cases h : n < nd.length
    · obtain ⟨x, hx, hg, hm⟩ := nd_at h
      have e3 : decide ((n : Int) ≥ (nd.length : Int)) = false := dec_f (by omega)
      have e4 : inb (n : Int) (nd.length : Int) = true := inb_t (by omega) (by omega)
      rw [e3, hx]
      simp (disch := omega) only [dec_t, dec_f, ieq_t, ieq_f, ine_t, ine_f, inb_t, bnd_t, wqj, wqa, cond_true, cond_false, Bool.not_true, Bool.not_false, Bool.true_or, Bool.or_true, Bool.false_or, Bool.or_false, Bool.true_and, Bool.and_true, Bool.false_and, Bool.and_false, wq2, wq0, wq5, e4, hg]
      rw [wq1c8 k x (ho x hm) (by omega)]
      cases fitN x with
      | false => rfl
      | true =>
        simp (disch := omega) only [dec_t, dec_f, ieq_t, ieq_f, ine_t, ine_f, inb_t, bnd_t, wqj, wqa, cond_true, cond_false, Bool.not_true, Bool.not_false, Bool.true_or, Bool.or_true, Bool.false_or, Bool.or_false, Bool.true_and, Bool.and_true, Bool.false_and, Bool.and_false, wq2, wq0, wq5, wq1w]
        obtain ⟨_, _, h3, _⟩ := ho x hm
        exact wqt6 k _ nd hn K d (by omega) (walkS f nd) (fun a K ha => wq10g nd hn ho f k (d + 1) a K (by omega) (by omega) ha) (fun a b hab => wqr7 f nd a b hab) x.2.2.2.2.2 h3 x.2.2.2.2.2 0 (n + 1) k rfl (by omega) (by omega) (by omega)
    · have e3 : decide ((n : Int) ≥ (nd.length : Int)) = true := dec_t (by omega)
      rw [e3, List.getElem?_eq_none (by omega)]
      rfl
theorem wqp8 (k : Nat) {R : Type} (X) (nd : List Nd) (hn : nd.length ≤ 4000) (K : Int → Option R) (d : Nat) (hd : d ≤ 100) (w : Nat → Option Nat) (hw : ∀ (n : Nat) (K : Int → Option R), n ≤ 4001 → X R nd (n : Int) ((d + 1 : Nat) : Int) K = K (numI (w n))) (hm : ∀ n m, w n = some m → m ≤ nd.length) (j0 : Nat) (hj : j0 < nd.length) (x : Nd) (hx : ∀ z, nd.getD j0 z = x) (hl : x.2.2.2.2.2.length ≤ 4000) :
    ∀ (q : List Int) (i n m : Nat), x.2.2.2.2.2.drop i = q → q.length < m → i ≤ x.2.2.2.2.2.length → n ≤ 4001 → wq4u k X m (j0 : Int) (d : Int) nd (n : Int) (i : Int) K = K (numI (kidsW w q n))
  | q, i, n, 0, _, h, _, _ => by omega
  | [], i, n, m + 1, hq, h, hi, hn' => by
    have := wq2k hq
    rw [wq4u, wqaa]
    simp (disch := omega) only [dec_t, dec_f, ieq_t, ieq_f, ine_t, ine_f, inb_t, bnd_t, wqj, wqa, cond_true, cond_false, Bool.not_true, Bool.not_false, Bool.true_or, Bool.or_true, Bool.false_or, Bool.or_false, Bool.true_and, Bool.and_true, Bool.false_and, Bool.and_false, wq2, wq0, wq5, hx]
    rfl
  | c :: q, i, n, m + 1, hq, h, hi, hn' => by
    obtain ⟨hlt, hc, hr⟩ := wqv hq
    rw [wq4u, wqaa]
    simp (disch := omega) only [dec_t, dec_f, ieq_t, ieq_f, ine_t, ine_f, inb_t, bnd_t, wqj, wqa, cond_true, cond_false, Bool.not_true, Bool.not_false, Bool.true_or, Bool.or_true, Bool.false_or, Bool.or_false, Bool.true_and, Bool.and_true, Bool.false_and, Bool.and_false, wq2, wq0, wq5, hx, hc, wq1w]
    rw [kidsW]
    have e : (c != (n : Int)) = !(c == (n : Int)) := rfl
    rw [e]
    cases h1 : c == (n : Int) with
    | false => rfl
    | true =>
      simp only [Bool.not_true, cond_false, cond_true]
      rw [hw n _ hn']
      cases h2 : w n with
      | none => rfl
      | some j =>
        have := hm n j h2
        have e2 : decide (numI (some j) < 0) = false := dec_f (by simp [numI])
        rw [e2, cond_false]
        exact wqp8 k X nd hn K d hd w hw hm j0 hj x hx hl q (i + 1) j m hr (by simp at h; omega) (by omega) (by omega)
theorem wqvd {R : Type} (nd : List Nd) (hn : nd.length ≤ 4000) (ho : ∀ x ∈ nd, okD x) : ∀ (f k d n : Nat) (K : Int → Option R), 5000 + f < k → d + f = 25 → n ≤ 4001 → wq2h k R nd (n : Int) (d : Int) K = K (numI (walkS f nd n))
  | f, 0, d, n, K, hk, hd, hn' => by omega
  | 0, k + 1, d, n, K, hk, hd, hn' => by
    rw [wq2h]
    unfold wqh4
    have e : decide ((d : Int) > 24) = true := dec_t (by omega)
    have e2 : (bif decide ((n : Int) ≥ (nd.length : Int)) then true else true) = true := by cases decide ((n : Int) ≥ (nd.length : Int)) <;> rfl
    rw [e, e2]
    rfl
  | f + 1, k + 1, d, n, K, hk, hd, hn' => by
    rw [wq2h]
    unfold wqh4
    have e : decide ((d : Int) > 24) = false := dec_f (by omega)
    rw [e, walkS]
    by_cases h : n < nd.length
    · obtain ⟨x, hx, hg, hm⟩ := nd_at h
      have e3 : decide ((n : Int) ≥ (nd.length : Int)) = false := dec_f (by omega)
      have e4 : inb (n : Int) (nd.length : Int) = true := inb_t (by omega) (by omega)
      rw [e3, hx]
      simp (disch := omega) only [dec_t, dec_f, ieq_t, ieq_f, ine_t, ine_f, inb_t, bnd_t, wqj, wqa, cond_true, cond_false, Bool.not_true, Bool.not_false, Bool.true_or, Bool.or_true, Bool.false_or, Bool.or_false, Bool.true_and, Bool.and_true, Bool.false_and, Bool.and_false, wq2, wq0, wq5, e4, hg]
      rw [wq18g k x (ho x hm) (by omega)]
      cases fitN x with
      | false => rfl
      | true =>
        simp (disch := omega) only [dec_t, dec_f, ieq_t, ieq_f, ine_t, ine_f, inb_t, bnd_t, wqj, wqa, cond_true, cond_false, Bool.not_true, Bool.not_false, Bool.true_or, Bool.or_true, Bool.false_or, Bool.or_false, Bool.true_and, Bool.and_true, Bool.false_and, Bool.and_false, wq2, wq0, wq5, wq1w]
        obtain ⟨_, _, h3, _⟩ := ho x hm
        exact wqp8 k _ nd hn K d (by omega) (walkS f nd) (fun a K ha => wqvd nd hn ho f k (d + 1) a K (by omega) (by omega) ha) (fun a b hab => wqr7 f nd a b hab) n h x hg h3 x.2.2.2.2.2 0 (n + 1) k rfl (by omega) (by omega) (by omega)
    · have e3 : decide ((n : Int) ≥ (nd.length : Int)) = true := dec_t (by omega)
      rw [e3, List.getElem?_eq_none (by omega)]
      rfl
theorem wq1fc (o : Option Nat) (n : Nat) : (numI o == (n : Int)) = (o == some n) := by
  cases o with
  | none => exact ieq_f (by simp only [numI]; omega)
  | some m => rw [Bool.eq_iff_iff]; simp [numI]; omega
theorem wqve (k : Nat) {R : Type} (nd : List Nd) (hn : nd.length ≤ 4000) (ho : ∀ x ∈ nd, okD x) (hk : 5100 < k) (K : Int → Option R) : wqdz k nd K = K (bif checkS nd then 0 else 1) := by
  unfold wqdz wqqh wqjq checkS
  by_cases h1 : nd.length < 1
  · rw [dec_t (show ((nd.length : Nat) : Int) < 1 by omega), dec_f (show ¬ 1 ≤ nd.length by omega)]; rfl
  · rw [dec_f (show ¬ ((nd.length : Nat) : Int) < 1 by omega), dec_t (show 1 ≤ nd.length by omega)]
    by_cases h2 : nd.length > 2000
    · rw [dec_t (show ((nd.length : Nat) : Int) > 2000 by omega), dec_f (show ¬ nd.length ≤ 2000 by omega)]; rfl
    · rw [dec_f (show ¬ ((nd.length : Nat) : Int) > 2000 by omega), dec_t (show nd.length ≤ 2000 by omega)]
      simp only [cond_false, wq0, Bool.not_false, cond_true, Bool.true_and]
      refine Eq.trans (wq10g nd hn ho 24 k 1 0 _ (by omega) (by omega) (by omega)) ?_
      have e : (numI (walkS 24 nd 0) != (nd.length : Int)) = !(numI (walkS 24 nd 0) == (nd.length : Int)) := rfl
      rw [e, wq1fc]
      cases walkS 24 nd 0 == some nd.length <;> rfl
theorem wq15v (k : Nat) {R : Type} (nd : List Nd) (hn : nd.length ≤ 4000) (ho : ∀ x ∈ nd, okD x) (hk : 5100 < k) (K : Bool → Option R) : wqf1 k nd K = K (checkS nd) := by
  unfold wqf1 wqnd wqh5 checkS
  by_cases h1 : nd.length < 1
  · rw [dec_f (show ¬ ((nd.length : Nat) : Int) ≥ 1 by omega), dec_f (show ¬ 1 ≤ nd.length by omega)]; rfl
  · rw [dec_t (show ((nd.length : Nat) : Int) ≥ 1 by omega), dec_t (show 1 ≤ nd.length by omega)]
    by_cases h2 : nd.length > 2000
    · rw [dec_f (show ¬ ((nd.length : Nat) : Int) ≤ 2000 by omega), dec_f (show ¬ nd.length ≤ 2000 by omega)]; rfl
    · rw [dec_t (show ((nd.length : Nat) : Int) ≤ 2000 by omega), dec_t (show nd.length ≤ 2000 by omega)]
      simp only [cond_true, wq2, Bool.true_and]
      refine Eq.trans (wqvd nd hn ho 24 k 1 0 _ (by omega) (by omega) (by omega)) ?_
      rw [wq1fc]
theorem wq18h (k : Nat) {R : Type} (s : List UInt8) (hs : s.length ≤ 1000000) (K : List Int → Option R) : ∀ (t : List UInt8) (n m : Nat) (acc : List UInt8), s.drop n = t → t.length < m → n ≤ s.length → acc.length ≤ 4 * n + 1 →
    wq3q k m s (wqs acc) (n : Int) K = K (wqs (acc ++ escS t ++ [34]))
  | t, n, 0, acc, _, hm, _, _ => by omega
  | [], n, m + 1, acc, hd, hm, hn, ha => by
    have := wq2k hd
    rw [wq3q, wq9b]
    have f1 : fits (wqs acc).length 1 1 = true := fits_t (by rw [wq2q]; omega) (by rw [wq2q]; omega)
    simp (disch := omega) only [dec_t, dec_f, ieq_t, ieq_f, ine_t, ine_f, inb_t, bnd_t, wqj, wqa, cond_true, cond_false, Bool.not_true, Bool.not_false, Bool.true_or, Bool.or_true, Bool.false_or, Bool.or_false, Bool.true_and, Bool.and_true, Bool.false_and, Bool.and_false, wq2, wq0, wq5, List.length_singleton, f1, escS, List.append_nil]
    exact congrArg K (wq8y acc 34)
  | c :: r, n, m + 1, acc, hd, hm, hn, ha => by
    obtain ⟨hlt, hc, hr⟩ := wqv hd
    have hcl := c.toNat_lt
    have e1 : ((c.toNat : Int) == 92) = (c == 92) := u8_beq c 92 (by omega)
    have e2 : ((c.toNat : Int) == 34) = (c == 34) := u8_beq c 34 (by omega)
    have e3 : ((c.toNat : Int) == 10) = (c == 10) := u8_beq c 10 (by omega)
    have e4 : ((c.toNat : Int) == 9) = (c == 9) := u8_beq c 9 (by omega)
    have e5 : ((c.toNat : Int) == 127) = (c == 127) := u8_beq c 127 (by omega)
    have e6 : decide ((c.toNat : Int) < 32) = decide (c.toNat < 32) := by rw [Bool.eq_iff_iff]; simp; omega
    have d1 : (c.toNat : Int).tdiv 16 = ((c.toNat / 16 : Nat) : Int) := rfl
    have d2 : (c.toNat : Int).tmod 16 = ((c.toNat % 16 : Nat) : Int) := rfl
    have h16 : ([48, 49, 50, 51, 52, 53, 54, 55, 56, 57, 97, 98, 99, 100, 101, 102] : List UInt8).length = 16 := rfl
    have fa : ∀ j, j ≤ 4 → fits (wqs acc).length j 1 = true := fun j hj => fits_t (by rw [wq2q]; omega) (by rw [wq2q]; omega)
    have hl := wq1a8 c
    simp only [List.length_cons] at hm
    have go : ∀ x : List Int, x = wqs (escB c) → wq3q k m s (wqs acc ++ x) ((n + 1 : Nat) : Int) K = K (wqs (acc ++ escS (c :: r) ++ [34])) := by
      intro x hx
      subst hx
      have : wqs acc ++ wqs (escB c) = wqs (acc ++ escB c) := by simp [wqs]
      rw [this, wq18h k s hs K r (n + 1) m (acc ++ escB c) hr (by omega) (by omega) (by simp; omega), escS, List.append_assoc acc]
    rw [wq3q, wq9b]
    simp (disch := omega) only [dec_t, dec_f, ieq_t, ieq_f, ine_t, ine_f, inb_t, bnd_t, wqj, wqa, cond_true, cond_false, Bool.not_true, Bool.not_false, Bool.true_or, Bool.or_true, Bool.false_or, Bool.or_false, Bool.true_and, Bool.and_true, Bool.false_and, Bool.and_false, wq2, wq0, wq5, hc, e1, e2, e3, e4, e5, e6, d1, d2, h16, wq1w, List.length_cons, List.length_nil, Nat.zero_add, fa]
    unfold escB at go
    cases h1 : c == 92 with
    | true => rw [h1] at go; have := beq_iff_eq.1 h1; subst this; exact go _ rfl
    | false =>
      cases h2 : c == 34 with
      | true => rw [h1, h2] at go; have := beq_iff_eq.1 h2; subst this; exact go _ rfl
      | false =>
        rw [h1, h2] at go
        cases h3 : c == 10 with
        | true => rw [h3] at go; exact go _ rfl
        | false =>
          rw [h3] at go
          cases h4 : c == 9 with
          | true => rw [h4] at go; exact go _ rfl
          | false =>
            rw [h4] at go
            cases h5 : (decide (c.toNat < 32) || c == 127) with
            | true =>
              rw [h5] at go
              have : (bif decide (c.toNat < 32) then true else c == 127) = true := by rw [Bool.cond_true_left]; exact h5
              rw [this]
              exact go _ rfl
            | false =>
              rw [h5] at go
              have : (bif decide (c.toNat < 32) then true else c == 127) = false := by rw [Bool.cond_true_left]; exact h5
              rw [this]
              exact go _ rfl
theorem wq15w (k : Nat) {R : Type} (s : List UInt8) (hs : s.length ≤ 1000000) (hk : s.length < k) (K : List Int → Option R) : wqf2 k s K = K (wqs (quoS s)) := by
  unfold wqf2 wqi6
  exact wq18h k s hs K s 0 k [34] rfl hk (Nat.zero_le _) (by simp)
theorem wq1e0 {a b : List UInt8} (h : a.length + b.length ≤ 100000000) : joins a b = true := dec_t (by simp only [maxN]; omega)
theorem wqt7 (k : Nat) {R : Type} (l s : List UInt8) (K : List Int → Int → Option R) (hl : l.length + s.length ≤ 100000000) : wq1n k (wqs l) s K = K (wqs (l ++ s)) (s.length : Int) := by
  unfold wq1n wq7a wq4h
  dsimp only
  have e : wqs l ++ wqs s = wqs (l ++ s) := by simp [wqs]
  rw [fits_t (by rw [wq2q, wq2q]; omega) (by rw [wq2q, wq2q]; omega), cond_true, e]
theorem hexHi (c : UInt8) : bnd (ishr .u8 (c.toNat : Int) 4) (IntKind.u8.wrap (ishr .u8 (c.toNat : Int) 4 + 1)) ((([48, 49, 50, 51, 52, 53, 54, 55, 56, 57, 97, 98, 99, 100, 101, 102] : List UInt8).length : Nat) : Int) = true ∧
    cut ([48, 49, 50, 51, 52, 53, 54, 55, 56, 57, 97, 98, 99, 100, 101, 102] : List UInt8) (ishr .u8 (c.toNat : Int) 4) (IntKind.u8.wrap (ishr .u8 (c.toNat : Int) 4 + 1)) = [hexL.getD (c.toNat / 16) 0] := by
  have := all_u8 (fun c => bnd (ishr .u8 (c.toNat : Int) 4) (IntKind.u8.wrap (ishr .u8 (c.toNat : Int) 4 + 1)) ((([48, 49, 50, 51, 52, 53, 54, 55, 56, 57, 97, 98, 99, 100, 101, 102] : List UInt8).length : Nat) : Int) &&
    (cut ([48, 49, 50, 51, 52, 53, 54, 55, 56, 57, 97, 98, 99, 100, 101, 102] : List UInt8) (ishr .u8 (c.toNat : Int) 4) (IntKind.u8.wrap (ishr .u8 (c.toNat : Int) 4 + 1)) == [hexL.getD (c.toNat / 16) 0])) (by kernel_rfl) c
  simp only [Bool.and_eq_true, beq_iff_eq] at this
  exact this
theorem hexLo (c : UInt8) : bnd (ibits .and .u8 (c.toNat : Int) 15) (IntKind.u8.wrap (ibits .and .u8 (c.toNat : Int) 15 + 1)) ((([48, 49, 50, 51, 52, 53, 54, 55, 56, 57, 97, 98, 99, 100, 101, 102] : List UInt8).length : Nat) : Int) = true ∧
    cut ([48, 49, 50, 51, 52, 53, 54, 55, 56, 57, 97, 98, 99, 100, 101, 102] : List UInt8) (ibits .and .u8 (c.toNat : Int) 15) (IntKind.u8.wrap (ibits .and .u8 (c.toNat : Int) 15 + 1)) = [hexL.getD (c.toNat % 16) 0] := by
  have := all_u8 (fun c => bnd (ibits .and .u8 (c.toNat : Int) 15) (IntKind.u8.wrap (ibits .and .u8 (c.toNat : Int) 15 + 1)) ((([48, 49, 50, 51, 52, 53, 54, 55, 56, 57, 97, 98, 99, 100, 101, 102] : List UInt8).length : Nat) : Int) &&
    (cut ([48, 49, 50, 51, 52, 53, 54, 55, 56, 57, 97, 98, 99, 100, 101, 102] : List UInt8) (ibits .and .u8 (c.toNat : Int) 15) (IntKind.u8.wrap (ibits .and .u8 (c.toNat : Int) 15 + 1)) == [hexL.getD (c.toNat % 16) 0])) (by kernel_rfl) c
  simp only [Bool.and_eq_true, beq_iff_eq] at this
  exact this
theorem wqp9 (k : Nat) {R : Type} (s : List UInt8) (hs : s.length ≤ 1000000) (K : List UInt8 → Option R) : ∀ (t : List UInt8) (n m : Nat) (acc : List UInt8), s.drop n = t → t.length < m → n ≤ s.length → acc.length ≤ 4 * n + 1 →
    wq42 k m s (wqs acc) (s.length : Int) (n : Int) K = K (acc ++ escS t ++ [34])
  | t, n, 0, acc, _, hm, _, _ => by omega
  | [], n, m + 1, acc, hd, hm, hn, ha => by
    have := wq2k hd
    rw [wq42, wqa5]
    simp (disch := omega) only [dec_t, dec_f, ieq_t, ieq_f, ine_t, ine_f, inb_t, bnd_t, wqj, wqa, cond_true, cond_false, Bool.not_true, Bool.not_false, Bool.true_or, Bool.or_true, Bool.false_or, Bool.or_false, Bool.true_and, Bool.and_true, Bool.false_and, Bool.and_false, wq2, wq0, wq5, escS, List.append_nil]
    rw [wqcj k acc 34 34 _ rfl (by omega), wqwl]
  | c :: r, n, m + 1, acc, hd, hm, hn, ha => by
    obtain ⟨hlt, hc, hr⟩ := wqv hd
    have hcl := c.toNat_lt
    have e1 : ((c.toNat : Int) == 92) = (c == 92) := u8_beq c 92 (by omega)
    have e2 : ((c.toNat : Int) == 34) = (c == 34) := u8_beq c 34 (by omega)
    have e3 : ((c.toNat : Int) == 10) = (c == 10) := u8_beq c 10 (by omega)
    have e4 : ((c.toNat : Int) == 9) = (c == 9) := u8_beq c 9 (by omega)
    have e5 : ((c.toNat : Int) == 127) = (c == 127) := u8_beq c 127 (by omega)
    have e6 : decide ((c.toNat : Int) < 32) = decide (c.toNat < 32) := by rw [Bool.eq_iff_iff]; simp; omega
    have hl := wq1a8 c
    simp only [List.length_cons] at hm
    have go : ∀ x : List UInt8, x = escB c → (wq1n k (wqs acc) x fun y8 y9 => wq42 k m s y8 (s.length : Int) ((n + 1 : Nat) : Int) K) = K (acc ++ escS (c :: r) ++ [34]) := by
      intro x hx
      subst hx
      rw [wqt7 k acc _ _ (by omega), wqp9 k s hs K r (n + 1) m (acc ++ escB c) hr (by omega) (by omega) (by simp; omega), escS, List.append_assoc acc]
    obtain ⟨b1, c1⟩ := hexHi c
    obtain ⟨b2, c2⟩ := hexLo c
    rw [wq42, wqa5]
    simp (disch := omega) only [dec_t, dec_f, ieq_t, ieq_f, ine_t, ine_f, inb_t, bnd_t, wqj, wqa, cond_true, cond_false, Bool.not_true, Bool.not_false, Bool.true_or, Bool.or_true, Bool.false_or, Bool.or_false, Bool.true_and, Bool.and_true, Bool.false_and, Bool.and_false, wq2, wq0, wq5, hc, e1, e2, e3, e4, e5, e6, wq1w, b1, b2, c1, c2]
    unfold escB at go
    cases h1 : c == 92 with
    | true => rw [h1] at go; have := beq_iff_eq.1 h1; subst this; exact go _ rfl
    | false =>
      cases h2 : c == 34 with
      | true => rw [h1, h2] at go; have := beq_iff_eq.1 h2; subst this; exact go _ rfl
      | false =>
        rw [h1, h2] at go
        cases h3 : c == 10 with
        | true => rw [h3] at go; exact go _ rfl
        | false =>
          rw [h3] at go
          cases h4 : c == 9 with
          | true => rw [h4] at go; exact go _ rfl
          | false =>
            rw [h4] at go
            cases h5 : (decide (c.toNat < 32) || c == 127) with
            | true =>
              rw [h5] at go
              have : (bif decide (c.toNat < 32) then true else c == 127) = true := by rw [Bool.cond_true_left]; exact h5
              rw [this]
              exact go _ rfl
            | false =>
              rw [h5] at go
              have : (bif decide (c.toNat < 32) then true else c == 127) = false := by rw [Bool.cond_true_left]; exact h5
              rw [this]
              have g := go [c] rfl
              rw [wqt7 k acc _ _ (by simp; omega)] at g
              simp only [cond_true, cond_false]
              rw [wqcj k acc c _ _ rfl (by omega)]
              exact g
theorem wq18i (k : Nat) {R : Type} (s : List UInt8) (hs : s.length ≤ 1000000) (hk : s.length < k) (K : List UInt8 → Option R) : wqgq k s K = K (quoS s) := by
  unfold wqgq wqkq
  have : ([] : List Int) = wqs [] := rfl
  rw [this, wqcj k [] 34 34 _ rfl (by simp)]
  exact wqp9 k s hs K s 0 k [34] rfl hk (Nat.zero_le _) (by simp)
theorem WS_sw (k : Nat) {R : Type} (nd : List Nd) (l s : List UInt8) (K : List Nd → List Int → Int → Option R) (hl : l.length + s.length ≤ 100000000) : wqz k nd (wqs l) s K = K nd (wqs (l ++ s)) (s.length : Int) := by
  unfold wqz wq67 wq3h
  dsimp only
  have e : wqs l ++ wqs s = wqs (l ++ s) := by simp [wqs]
  rw [fits_t (by rw [wq2q, wq2q]; omega) (by rw [wq2q, wq2q]; omega), cond_true, e]
theorem WB_sw (k : Nat) {R : Type} (nd : List Nd) (l : List UInt8) (c : UInt8) (x : Int) (hx : x = (c.toNat : Int)) (K : List Nd → List Int → Option R) (hl : l.length ≤ 100000000) : wq2s k nd (wqs l) x K = K nd (wqs (l ++ [c])) := by
  subst hx
  unfold wq2s wq74 wq3h
  dsimp only
  rw [fits_t (by rw [wq2q]; simp; omega) (by rw [wq2q]; simp; omega), cond_true, wq8y]
theorem wq1fd : ∀ n : Nat, repS [32] n = blS n
  | 0 => rfl
  | n + 1 => by
    have : repS [32] (n + 1) = [32] ++ repS [32] n := rfl
    rw [this, wq1fd n]; rfl
theorem in_eq (k : Nat) {R : Type} (nd : List Nd) (l : List UInt8) (n : Nat) (hn : n ≤ 1000) (hl : l.length ≤ 10000000) (K : List Nd → List Int → Option R) : wq7z k nd (wqs l) (n : Int) K = K nd (wqs (l ++ blS n)) := by
  unfold wq7z wqgr wqd6
  rw [dec_t (show (0 : Int) ≤ (n : Int) by omega), dec_t (show (n : Int) ≤ 1000000 by omega), dec_t (show ([32] : List UInt8).length ≤ 1000000 by simp), wq5, wq1fd]
  simp only [Bool.and_self, cond_true]
  rw [WS_sw k nd l _ _ (by simp [blS]; omega)]
theorem wq15x (k : Nat) {R : Type} (Xb Xp) (nd : List Nd) (col : Nat) (hc : col ≤ 58) (g : Nat → List UInt8) (w : Nat → Option Nat) (K : List Nd → List Int → Option R)
    (hg : ∀ n m, w n = some m → n < m ∧ (g n).length + 200 ≤ 1100 * (m - n))
    (B : Nat) (hB : B ≤ 6000000) (hX : ∀ (n m : Nat) (acc : List UInt8) (K : List Nd → List Int → Option R), w n = some m → acc.length + 1100 * (m - n) ≤ B + 130 → Xb R nd (wqs acc) (n : Int) ((col + 2 : Nat) : Int) K = K nd (wqs (acc ++ g n)))
    (kids : List Int) (hl : kids.length ≤ 4000) :
    ∀ (q : List Int) (i n e m : Nat) (acc : List UInt8), kids.drop i = q → q.length < m → i ≤ kids.length → kidsW w q n = some e → acc.length + 1100 * (e - n) ≤ B →
      wq21 k Xb Xp m nd (wqs acc) (col : Int) kids (kids.length : Int) (i : Int) K = K nd (wqs (acc ++ lstS g col (i == 0) q))
  | q, i, n, e, 0, acc, _, h, _, _, _ => by omega
  | [], i, n, e, m + 1, acc, hq, h, hi, hw, ha => by
    have := wq2k hq
    rw [wq21, wq5i]
    simp (disch := omega) only [dec_t, dec_f, ieq_t, ieq_f, ine_t, ine_f, inb_t, bnd_t, wqj, wqa, cond_true, cond_false, Bool.not_true, Bool.not_false, Bool.true_or, Bool.or_true, Bool.false_or, Bool.or_false, Bool.true_and, Bool.and_true, Bool.false_and, Bool.and_false, wq2, wq0, wq5, lstS, List.append_nil]
  | c :: q, i, n, e, m + 1, acc, hq, h, hi, hw, ha => by
    obtain ⟨hlt, hc', hr⟩ := wqv hq
    rw [kidsW] at hw
    cases h1 : c == (n : Int) with
    | false => rw [h1] at hw; cases hw
    | true =>
      rw [h1, cond_true] at hw
      have h1 : c = (n : Int) := by simpa using h1
      subst h1
      cases h2 : w n with
      | none => rw [h2] at hw; cases hw
      | some j =>
        rw [h2] at hw
        dsimp only at hw
        obtain ⟨g1, g2⟩ := hg n j h2
        have g3 := (wq10e (g := g) (col := col) (by omega) hg q false j e hw).1
        have ec : IntKind.i64.wrap ((col : Int) + 2) = ((col + 2 : Nat) : Int) := by rw [wqj (by omega) (by omega)]; omega
        rw [wq21, wq5i, lstS]
        simp (disch := omega) only [dec_t, dec_f, ieq_t, ieq_f, ine_t, ine_f, inb_t, bnd_t, wqj, wqa, cond_true, cond_false, Bool.not_true, Bool.not_false, Bool.true_or, Bool.or_true, Bool.false_or, Bool.or_false, Bool.true_and, Bool.and_true, Bool.false_and, Bool.and_false, wq2, wq0, wq5, hc', wq1w, ec]
        by_cases h0 : i = 0
        · subst h0
          have e1 : decide (((0 : Nat) : Int) > 0) = false := rfl
          simp only [e1, cond_false, cond_true, beq_self_eq_true, List.nil_append]
          rw [WS_sw k nd acc _ _ (by simp; omega), hX n j _ _ h2 (by simp; omega)]
          rw [wq15x k Xb Xp nd col hc g w K hg B hB hX kids hl q (0 + 1) j e m _ hr (by simp at h; omega) (by omega) hw (by simp; omega)]
          simp [List.append_assoc]
        · have e1 : decide ((i : Int) > 0) = true := dec_t (by omega)
          have e2 : (i == 0) = false := by simpa using h0
          simp only [e1, e2, cond_false, cond_true]
          rw [in_eq k nd acc col (by omega) (by omega), WS_sw k nd _ _ _ (by simp [blS]; omega), hX n j _ _ h2 (by simp [blS]; omega)]
          rw [wq15x k Xb Xp nd col hc g w K hg B hB hX kids hl q (i + 1) j e m _ hr (by simp at h; omega) (by omega) hw (by simp [blS]; omega)]
          simp [List.append_assoc]
theorem wq1ac (k : Nat) {R : Type} (Xb Xp) (nd : List Nd) (col : Nat) (hc : col ≤ 58) (g : Nat → List UInt8) (t : Nat → Bool) (w : Nat → Option Nat) (K : List Nd → List Int → Option R)
    (hg : ∀ n m, w n = some m → n < m ∧ (g n).length + 200 ≤ 1100 * (m - n))
    (B : Nat) (hB : B ≤ 6000000) (hX : ∀ (n m : Nat) (acc : List UInt8) (K : List Nd → List Int → Option R), w n = some m → acc.length + 1100 * (m - n) ≤ B + 130 → Xp R nd (wqs acc) (n : Int) (col : Int) K = K nd (wqs (acc ++ (bif t n then [32] else 10 :: blS (col + 2)) ++ g n)))
    (s3 s4 : Int) (s5 : List UInt8) (s6 : Bool) (keys : List (List UInt8)) (s8 kids : List Int) (hl : kids.length ≤ 4000) (hk : keys.length = kids.length) (hkl : ∀ q ∈ keys, q.length ≤ 64) :
    ∀ (q : List Int) (ks : List (List UInt8)) (i n e m : Nat) (acc : List UInt8), kids.drop i = q → keys.drop i = ks → q.length < m → i ≤ kids.length → kidsW w q n = some e → acc.length + 1100 * (e - n) ≤ B →
      wq2e k Xb Xp m nd (wqs acc) (col : Int) s3 s4 s5 s6 keys s8 kids (kids.length : Int) (i : Int) K = K nd (wqs (acc ++ mapS g t col (i == 0) ks q))
  | q, ks, i, n, e, 0, acc, _, _, h, _, _, _ => by omega
  | [], ks, i, n, e, m + 1, acc, hq, hks, h, hi, hw, ha => by
    have := wq2k hq
    have hm : mapS g t col (i == 0) ks [] = [] := by cases ks <;> simp [mapS]
    rw [wq2e, wq5j, hm]
    simp (disch := omega) only [dec_t, dec_f, ieq_t, ieq_f, ine_t, ine_f, inb_t, bnd_t, wqj, wqa, cond_true, cond_false, Bool.not_true, Bool.not_false, Bool.true_or, Bool.or_true, Bool.false_or, Bool.or_false, Bool.true_and, Bool.and_true, Bool.false_and, Bool.and_false, wq2, wq0, wq5, List.append_nil]
  | c :: q, [], i, n, e, m + 1, acc, hq, hks, h, hi, hw, ha => by
    have h1 := wq2k hks
    obtain ⟨hlt, _, _⟩ := wqv hq
    omega
  | c :: q, key :: ks, i, n, e, m + 1, acc, hq, hks, h, hi, hw, ha => by
    obtain ⟨hlt, hc', hr⟩ := wqv hq
    obtain ⟨klt, hkc, hkr⟩ := wqv hks
    have hkey := hkl key (List.mem_of_mem_drop (by rw [hks]; simp))
    rw [kidsW] at hw
    cases h1 : c == (n : Int) with
    | false => rw [h1] at hw; cases hw
    | true =>
      rw [h1, cond_true] at hw
      have h1 : c = (n : Int) := by simpa using h1
      subst h1
      cases h2 : w n with
      | none => rw [h2] at hw; cases hw
      | some j =>
        rw [h2] at hw
        dsimp only at hw
        obtain ⟨g1, g2⟩ := hg n j h2
        have g3 := (wq10e (g := g) (col := col) (by omega) hg q false j e hw).1
        have hb2 : (bif t n then [32] else 10 :: blS (col + 2)).length ≤ 61 := by cases t n <;> simp [blS] <;> omega
        rw [wq2e, wq5j, mapS]
        simp (disch := omega) only [dec_t, dec_f, ieq_t, ieq_f, ine_t, ine_f, inb_t, bnd_t, wqj, wqa, cond_true, cond_false, Bool.not_true, Bool.not_false, Bool.true_or, Bool.or_true, Bool.false_or, Bool.or_false, Bool.true_and, Bool.and_true, Bool.false_and, Bool.and_false, wq2, wq0, wq5, hc', hkc, wq1w]
        rw [wq1e0 (by simp; omega), cond_true]
        by_cases h0 : i = 0
        · subst h0
          have e1 : decide (((0 : Nat) : Int) > 0) = false := rfl
          simp only [e1, cond_false, cond_true, beq_self_eq_true, List.nil_append]
          rw [WS_sw k nd acc _ _ (by simp; omega), hX n j _ _ h2 (by simp; omega)]
          rw [wq1ac k Xb Xp nd col hc g t w K hg B hB hX s3 s4 s5 s6 keys s8 kids hl hk hkl q ks (0 + 1) j e m _ hr hkr (by simp at h; omega) (by omega) hw (by simp only [List.length_append, List.length_cons, List.length_nil]; omega)]
          simp [List.append_assoc]
        · have e1 : decide ((i : Int) > 0) = true := dec_t (by omega)
          have e2 : (i == 0) = false := by simpa using h0
          have hb : (blS col).length = col := by simp [blS]
          simp only [e1, e2, cond_false, cond_true]
          rw [in_eq k nd acc col (by omega) (by omega), WS_sw k nd _ _ _ (by simp [blS]; omega), hX n j _ _ h2 (by simp [blS]; omega)]
          rw [wq1ac k Xb Xp nd col hc g t w K hg B hB hX s3 s4 s5 s6 keys s8 kids hl hk hkl q ks (i + 1) j e m _ hr hkr (by simp at h; omega) (by omega) hw (by simp only [List.length_append, List.length_cons, List.length_nil, hb]; omega)]
          simp [List.append_assoc]
theorem wq15y {R : Type} (nd : List Nd) (hn : nd.length ≤ 4000) (ho : ∀ x ∈ nd, okD x) : ∀ (f k n m col : Nat) (acc : List UInt8) (K : List Nd → List Int → Option R), 5000 + 2 * f < k → walkS f nd n = some m → col + 2 * f ≤ 58 → acc.length + 1100 * (m - n) + 200 * f ≤ 6000000 →
    wqb k R nd (wqs acc) (n : Int) (col : Int) K = K nd (wqs (acc ++ textS f nd n col))
  | f, 0, n, m, col, acc, K, hk, hw, hc, ha => by omega
  | 0, k + 1, n, m, col, acc, K, hk, hw, hc, ha => by rw [walkS] at hw; cases hw
  | f + 1, 1, n, m, col, acc, K, hk, hw, hc, ha => by omega
  | f + 1, k + 2, n, m, col, acc, K, hk, hw, hc, ha => by
    have hlt := wq10d _ _ _ _ hw
    have hle := wqr7 _ _ _ _ hw
    obtain ⟨x, hx, hf, hw⟩ := wq10c hw
    have hn1 := (List.getElem?_eq_some_iff.1 hx).1
    have hmem := List.mem_of_getElem? hx
    have hg : ∀ z, nd.getD n z = x := fun z => by rw [List.getD, hx]; rfl
    have e4 : inb (n : Int) (nd.length : Int) = true := inb_t (by omega) (by omega)
    have ind : ∀ (k' : Nat), 5000 + 2 * f < k' → ∀ (n m : Nat) (acc : List UInt8) (K : List Nd → List Int → Option R), walkS f nd n = some m → acc.length + 1100 * (m - n) ≤ 6000000 - 200 * (f + 1) + 130 → wqb k' R nd (wqs acc) (n : Int) ((col + 2 : Nat) : Int) K = K nd (wqs (acc ++ textS f nd n (col + 2))) :=
      fun k' hk' n m acc K h1 h2 => wq15y nd hn ho f k' n m (col + 2) acc K hk' h1 (by omega) (by omega)
    have lens : ∀ n m, walkS f nd n = some m → n < m ∧ (textS f nd n (col + 2)).length + 200 ≤ 1100 * (m - n) := fun a b hab => wq10f f nd a b (col + 2) hab (by omega)
    rw [wqb]
    unfold wq8k
    rw [textS, hx, e4]
    simp (disch := omega) only [dec_t, dec_f, ieq_t, ieq_f, ine_t, ine_f, inb_t, bnd_t, wqj, wqa, cond_true, cond_false, Bool.not_true, Bool.not_false, Bool.true_or, Bool.or_true, Bool.false_or, Bool.or_false, Bool.true_and, Bool.and_true, Bool.false_and, Bool.and_false, wq2, wq0, wq5, hg]
    cases h1 : x.1 == 1 with
    | true =>
      obtain ⟨_, _, hl, _⟩ := wq15t hf h1
      have hlen := wq1aa hl
      simp only [cond_true]
      unfold txtN at hlen ⊢
      cases hq : x.2.2.2.1 with
      | true =>
        rw [hq, cond_true] at hlen
        simp only [cond_true]
        rw [wq18i _ _ (by omega) (by omega), wq1e0 (by simp; omega), cond_true, WS_sw _ nd acc _ _ (by simp; omega)]
      | false =>
        rw [hq, cond_false] at hlen
        simp only [cond_false]
        rw [wq1e0 (by simp; omega), cond_true, WS_sw _ nd acc _ _ (by simp; omega)]
    | false =>
      simp only [cond_false]
      obtain ⟨_, _, h3, h3'⟩ := ho x hmem
      cases h2 : x.1 == 2 with
      | true =>
        simp only [cond_true]
        exact wq15x (k + 1) _ _ nd col (by omega) (fun k => textS f nd k (col + 2)) (walkS f nd) K lens (6000000 - 200 * (f + 1)) (by omega) (ind (k + 1) (by omega)) x.2.2.2.2.2 h3 x.2.2.2.2.2 0 (n + 1) m (k + 1) acc rfl (by omega) (by omega) hw (by omega)
      | false =>
        obtain ⟨k3, kl, _, _, _, kb⟩ := wq1a9 hf h1 h2
        have e3 : (x.1 == 3) = true := by rw [k3]; rfl
        simp only [e3, cond_true, cond_false]
        refine wq1ac (k + 1) _ _ nd col (by omega) (fun k => textS f nd k (col + 2)) (isT nd) (walkS f nd) K lens (6000000 - 200 * (f + 1)) (by omega) ?_ _ _ _ _ x.2.2.2.2.1 _ x.2.2.2.2.2 h3 kl (fun q hq => by
          have := wqt4 _ _ kb q hq
          simp only [keyB, Bool.and_eq_true, decide_eq_true_eq] at this
          exact this.2) x.2.2.2.2.2 x.2.2.2.2.1 0 (n + 1) m (k + 1) acc rfl rfl (by omega) (by omega) hw (by omega)
        intro n' m' acc' K' hw' ha'
        have hlt' := wq10d _ _ _ _ hw'
        have hle' := wqr7 _ _ _ _ hw'
        obtain ⟨y, hy, hgy, _⟩ := nd_at (nd := nd) (n := n') (by omega)
        have e5 : inb (n' : Int) (nd.length : Int) = true := inb_t (by omega) (by omega)
        have ec : IntKind.i64.wrap ((col : Int) + 2) = ((col + 2 : Nat) : Int) := by rw [wqj (by omega) (by omega)]; omega
        rw [FR_show_writer_pair]
        unfold wqe9 isT
        rw [hy, e5]
        simp (disch := omega) only [dec_t, dec_f, ieq_t, ieq_f, ine_t, ine_f, inb_t, bnd_t, wqj, wqa, cond_true, cond_false, Bool.not_true, Bool.not_false, Bool.true_or, Bool.or_true, Bool.false_or, Bool.or_false, Bool.true_and, Bool.and_true, Bool.false_and, Bool.and_false, wq2, wq0, wq5, hgy, ec]
        have hk2 : 5000 + 2 * f < k := by omega
        have hb : (blS (col + 2)).length = col + 2 := by simp [blS]
        cases y.1 == 1 with
        | true =>
          simp only [cond_true]
          rw [WB_sw _ nd acc' 32 32 rfl _ (by omega)]
          refine Eq.trans (wq15y nd hn ho f k n' m' (col + 2) _ _ hk2 hw' (by omega) (by simp only [List.length_append, List.length_cons, List.length_nil]; omega)) ?_
          simp [List.append_assoc]
        | false =>
          simp only [cond_false]
          rw [WB_sw _ nd acc' 10 10 rfl _ (by omega), in_eq _ nd _ (col + 2) (by omega) (by simp; omega)]
          refine Eq.trans (wq15y nd hn ho f k n' m' (col + 2) _ _ hk2 hw' (by omega) (by simp only [List.length_append, List.length_cons, List.length_nil, hb]; omega)) ?_
          simp [List.append_assoc]
theorem cat2 (a b : List UInt8) : wqs a ++ wqs b = wqs (a ++ b) := by simp [wqs]
theorem fits_b {a b : List UInt8} (h : a.length + b.length ≤ 100000000) : fits (wqs a).length (wqs b).length 1 = true := fits_t (by rw [wq2q, wq2q]; omega) (by rw [wq2q, wq2q]; omega)
theorem wqvf (k : Nat) {R : Type} (n : Nat) (hn : n ≤ 1000) (K : List Int → Option R) : ∀ (j i m : Nat) (acc : List UInt8), i + j = n → j < m → acc.length + j ≤ 100000000 → wq6d k m (wqs acc) (n : Int) (i : Int) K = K (wqs (acc ++ blS j))
  | j, i, 0, acc, _, h, _ => by omega
  | 0, i, m + 1, acc, h, hm, ha => by
    rw [wq6d, wqbp]
    simp (disch := omega) only [dec_t, dec_f, ieq_t, ieq_f, ine_t, ine_f, inb_t, bnd_t, wqj, wqa, cond_true, cond_false, Bool.not_true, Bool.not_false, Bool.true_or, Bool.or_true, Bool.false_or, Bool.or_false, Bool.true_and, Bool.and_true, Bool.false_and, Bool.and_false, wq2, wq0, wq5]
    simp [blS]
  | j + 1, i, m + 1, acc, h, hm, ha => by
    rw [wq6d, wqbp]
    have e : ([32] : List Int) = wqs [32] := rfl
    rw [e, fits_b (by simp; omega), cat2]
    simp (disch := omega) only [dec_t, dec_f, ieq_t, ieq_f, ine_t, ine_f, inb_t, bnd_t, wqj, wqa, cond_true, cond_false, Bool.not_true, Bool.not_false, Bool.true_or, Bool.or_true, Bool.false_or, Bool.or_false, Bool.true_and, Bool.and_true, Bool.false_and, Bool.and_false, wq2, wq0, wq5, wq1w]
    rw [wqvf k n hn K j (i + 1) m (acc ++ [32]) (by omega) (by omega) (by simp; omega)]
    have : blS (j + 1) = [32] ++ blS j := rfl
    rw [this, List.append_assoc]
theorem wqnu (k : Nat) {R : Type} (n : Nat) (hn : n ≤ 1000) (hk : n < k) (K : List Int → Option R) (acc : List UInt8) (ha : acc.length ≤ 10000000) : wqh8 k (wqs acc) (n : Int) K = K (wqs (acc ++ blS n)) := by
  unfold wqh8 wqsv
  exact wqvf k n hn K n 0 k acc (by omega) hk (by omega)
theorem wq1ad (k : Nat) (hk : 5000 < k) {R : Type} (X) (nd : List Nd) (col : Nat) (hc : col ≤ 58) (g : Nat → List UInt8) (w : Nat → Option Nat) (K : List Int → Option R)
    (hg : ∀ n m, w n = some m → n < m ∧ (g n).length + 200 ≤ 1100 * (m - n)) (B : Nat) (hB : B ≤ 6000000)
    (hX : ∀ (n m : Nat) (acc : List UInt8) (K : List Int → Option R), w n = some m → acc.length + 1100 * (m - n) ≤ B + 200 → X R (wqs acc) nd (n : Int) ((col + 2 : Nat) : Int) K = K (wqs (acc ++ g n)))
    (s4 : Int) (s5 : List UInt8) (s6 : Bool) (s7 : List (List UInt8)) (kids : List Int) (hl : kids.length ≤ 4000) :
    ∀ (q : List Int) (i n e m : Nat) (acc : List UInt8), kids.drop i = q → q.length < m → i ≤ kids.length → kidsW w q n = some e → acc.length + 1100 * (e - n) ≤ B →
      wq31 k X m (wqs acc) (col : Int) nd 2 s4 s5 s6 s7 kids (i : Int) K = K (wqs (acc ++ lstS g col (i == 0) q))
  | q, i, n, e, 0, acc, _, h, _, _, _ => by omega
  | [], i, n, e, m + 1, acc, hq, h, hi, hw, ha => by
    have := wq2k hq
    rw [wq31, wq75]
    simp (disch := omega) only [dec_t, dec_f, ieq_t, ieq_f, ine_t, ine_f, inb_t, bnd_t, wqj, wqa, cond_true, cond_false, Bool.not_true, Bool.not_false, Bool.true_or, Bool.or_true, Bool.false_or, Bool.or_false, Bool.true_and, Bool.and_true, Bool.false_and, Bool.and_false, wq2, wq0, wq5, lstS, List.append_nil]
  | c :: q, i, n, e, m + 1, acc, hq, h, hi, hw, ha => by
    obtain ⟨hlt, hc', hr⟩ := wqv hq
    rw [kidsW] at hw
    cases h1 : c == (n : Int) with
    | false => rw [h1] at hw; cases hw
    | true =>
      rw [h1, cond_true] at hw
      have h1 : c = (n : Int) := by simpa using h1
      subst h1
      cases h2 : w n with
      | none => rw [h2] at hw; cases hw
      | some j =>
        rw [h2] at hw
        dsimp only at hw
        obtain ⟨g1, g2⟩ := hg n j h2
        have g3 := (wq10e (g := g) (col := col) (by omega) hg q false j e hw).1
        have e22 : ((2 : Int) == 2) = true := rfl
        have e45 : ([45, 32] : List Int) = wqs [45, 32] := rfl
        have ec : IntKind.i64.wrap ((col : Int) + 2) = ((col + 2 : Nat) : Int) := by rw [wqj (by omega) (by omega)]; omega
        rw [wq31, wq75, lstS, Int.toNat_natCast]
        by_cases h0 : i = 0
        · subst h0
          have e1 : decide (((0 : Nat) : Int) > 0) = false := rfl
          simp (disch := omega) only [dec_t, dec_f, ieq_t, ieq_f, ine_t, ine_f, inb_t, bnd_t, wqj, wqa, cond_true, cond_false, Bool.not_true, Bool.not_false, Bool.true_or, Bool.or_true, Bool.false_or, Bool.or_false, Bool.true_and, Bool.and_true, Bool.false_and, Bool.and_false, wq2, wq0, wq5, hc', wq1w, e1, e22, e45, ec]
          rw [fits_b (by simp; omega), cat2]
          simp only [cond_true, cond_false, beq_self_eq_true, List.nil_append]
          rw [hX n j _ _ h2 (by simp; omega)]
          rw [wq1ad k hk X nd col hc g w K hg B hB hX s4 s5 s6 s7 kids hl q (0 + 1) j e m _ hr (by simp at h; omega) (by omega) hw (by simp; omega)]
          simp [List.append_assoc]
        · have e1 : decide ((i : Int) > 0) = true := dec_t (by omega)
          have e2 : (i == 0) = false := by simpa using h0
          simp (disch := omega) only [dec_t, dec_f, ieq_t, ieq_f, ine_t, ine_f, inb_t, bnd_t, wqj, wqa, cond_true, cond_false, Bool.not_true, Bool.not_false, Bool.true_or, Bool.or_true, Bool.false_or, Bool.or_false, Bool.true_and, Bool.and_true, Bool.false_and, Bool.and_false, wq2, wq0, wq5, hc', wq1w, e1, e2, e22, e45, ec]
          rw [wqnu k col (by omega) (by omega) _ acc (by omega), fits_b (by simp [blS]; omega), cat2]
          simp only [cond_true, cond_false]
          rw [hX n j _ _ h2 (by simp [blS]; omega)]
          rw [wq1ad k hk X nd col hc g w K hg B hB hX s4 s5 s6 s7 kids hl q (i + 1) j e m _ hr (by simp at h; omega) (by omega) hw (by simp [blS]; omega)]
          simp [List.append_assoc]
theorem wq18j (k : Nat) (hk0 : 5000 < k) {R : Type} (X) (nd : List Nd) (hnd : nd.length ≤ 4000) (col : Nat) (hc : col ≤ 58) (g : Nat → List UInt8) (w : Nat → Option Nat) (K : List Int → Option R)
    (hg : ∀ n m, w n = some m → n < m ∧ (g n).length + 200 ≤ 1100 * (m - n)) (hwl : ∀ n m, w n = some m → m ≤ nd.length) (B : Nat) (hB : B ≤ 6000000)
    (hX : ∀ (n m : Nat) (acc : List UInt8) (K : List Int → Option R), w n = some m → acc.length + 1100 * (m - n) ≤ B + 200 → X R (wqs acc) nd (n : Int) ((col + 2 : Nat) : Int) K = K (wqs (acc ++ g n)))
    (s4 : Int) (s5 : List UInt8) (s6 : Bool) (keys : List (List UInt8)) (kids : List Int) (hl : kids.length ≤ 4000) (hk : keys.length = kids.length) (hkl : ∀ q ∈ keys, q.length ≤ 64) :
    ∀ (q : List Int) (ks : List (List UInt8)) (i n e m : Nat) (acc : List UInt8), kids.drop i = q → keys.drop i = ks → q.length < m → i ≤ kids.length → kidsW w q n = some e → acc.length + 1100 * (e - n) ≤ B →
      wq31 k X m (wqs acc) (col : Int) nd 3 s4 s5 s6 keys kids (i : Int) K = K (wqs (acc ++ mapS g (isT nd) col (i == 0) ks q))
  | q, ks, i, n, e, 0, acc, _, _, h, _, _, _ => by omega
  | [], ks, i, n, e, m + 1, acc, hq, hks, h, hi, hw, ha => by
    have := wq2k hq
    have hm : mapS g (isT nd) col (i == 0) ks [] = [] := by cases ks <;> simp [mapS]
    rw [wq31, wq75, hm]
    simp (disch := omega) only [dec_t, dec_f, ieq_t, ieq_f, ine_t, ine_f, inb_t, bnd_t, wqj, wqa, cond_true, cond_false, Bool.not_true, Bool.not_false, Bool.true_or, Bool.or_true, Bool.false_or, Bool.or_false, Bool.true_and, Bool.and_true, Bool.false_and, Bool.and_false, wq2, wq0, wq5, List.append_nil]
  | c :: q, [], i, n, e, m + 1, acc, hq, hks, h, hi, hw, ha => by
    have h1 := wq2k hks
    obtain ⟨hlt, _, _⟩ := wqv hq
    omega
  | c :: q, key :: ks, i, n, e, m + 1, acc, hq, hks, h, hi, hw, ha => by
    obtain ⟨hlt, hc', hr⟩ := wqv hq
    obtain ⟨klt, hkc, hkr⟩ := wqv hks
    have hkey := hkl key (List.mem_of_mem_drop (by rw [hks]; simp))
    rw [kidsW] at hw
    cases h1 : c == (n : Int) with
    | false => rw [h1] at hw; cases hw
    | true =>
      rw [h1, cond_true] at hw
      have h1 : c = (n : Int) := by simpa using h1
      subst h1
      cases h2 : w n with
      | none => rw [h2] at hw; cases hw
      | some j =>
        rw [h2] at hw
        dsimp only at hw
        obtain ⟨g1, g2⟩ := hg n j h2
        have g3 := (wq10e (g := g) (col := col) (by omega) hg q false j e hw).1
        have g4 := hwl n j h2
        obtain ⟨y, hy, hgy, _⟩ := nd_at (nd := nd) (n := n) (by omega)
        have hy1 : isT nd n = (y.1 == 1) := by unfold isT; rw [hy]
        have e22 : ((3 : Int) == 2) = false := rfl
        have e58 : ([58] : List Int) = wqs [58] := rfl
        have e32 : ([32] : List Int) = wqs [32] := rfl
        have e10 : ([10] : List Int) = wqs [10] := rfl
        have ec : IntKind.i64.wrap ((col : Int) + 2) = ((col + 2 : Nat) : Int) := by rw [wqj (by omega) (by omega)]; omega
        have hb : (blS col).length = col := by simp [blS]
        have hb2 : (blS (col + 2)).length = col + 2 := by simp [blS]
        rw [wq31, wq75, mapS]
        by_cases h0 : i = 0
        · subst h0
          have e1 : decide (((0 : Nat) : Int) > 0) = false := rfl
          simp (disch := omega) only [dec_t, dec_f, ieq_t, ieq_f, ine_t, ine_f, inb_t, bnd_t, wqj, wqa, cond_true, cond_false, Bool.not_true, Bool.not_false, Bool.true_or, Bool.or_true, Bool.false_or, Bool.or_false, Bool.true_and, Bool.and_true, Bool.false_and, Bool.and_false, wq2, wq0, wq5, hc', hkc, hgy, hy1, wq1w, e1, e22, e58, e32, e10, ec]
          rw [fits_b (by (try simp); omega), cat2, fits_b (by (try simp); omega), cat2, fits_b (by (try simp); omega), fits_b (by (try simp); omega), cat2, cat2]
          simp only [cond_true, cond_false, beq_self_eq_true, List.nil_append]
          cases y.1 == 1 with
          | true =>
            simp only [cond_true]
            rw [hX n j _ _ h2 (by simp; omega)]
            rw [wq18j k hk0 X nd hnd col hc g w K hg hwl B hB hX s4 s5 s6 keys kids hl hk hkl q ks (0 + 1) j e m _ hr hkr (by simp at h; omega) (by omega) hw (by simp only [List.length_append, List.length_cons, List.length_nil]; omega)]
            simp [List.append_assoc]
          | false =>
            simp only [cond_false]
            rw [wqnu k (col + 2) (by omega) (by omega) _ _ (by simp; omega)]
            rw [hX n j _ _ h2 (by simp [blS]; omega)]
            rw [wq18j k hk0 X nd hnd col hc g w K hg hwl B hB hX s4 s5 s6 keys kids hl hk hkl q ks (0 + 1) j e m _ hr hkr (by simp at h; omega) (by omega) hw (by simp only [List.length_append, List.length_cons, List.length_nil, hb2]; omega)]
            simp [List.append_assoc]
        · have e1 : decide ((i : Int) > 0) = true := dec_t (by omega)
          have e2 : (i == 0) = false := by simpa using h0
          simp (disch := omega) only [dec_t, dec_f, ieq_t, ieq_f, ine_t, ine_f, inb_t, bnd_t, wqj, wqa, cond_true, cond_false, Bool.not_true, Bool.not_false, Bool.true_or, Bool.or_true, Bool.false_or, Bool.or_false, Bool.true_and, Bool.and_true, Bool.false_and, Bool.and_false, wq2, wq0, wq5, hc', hkc, hgy, hy1, wq1w, e1, e2, e22, e58, e32, e10, ec]
          rw [wqnu k col (by omega) (by omega) _ acc (by omega)]
          rw [fits_b (by (try simp [blS]); omega), cat2, fits_b (by (try simp [blS]); omega), cat2, fits_b (by (try simp [blS]); omega), fits_b (by (try simp [blS]); omega), cat2, cat2]
          simp only [cond_true, cond_false]
          cases y.1 == 1 with
          | true =>
            simp only [cond_true]
            rw [hX n j _ _ h2 (by simp [blS]; omega)]
            rw [wq18j k hk0 X nd hnd col hc g w K hg hwl B hB hX s4 s5 s6 keys kids hl hk hkl q ks (i + 1) j e m _ hr hkr (by simp at h; omega) (by omega) hw (by simp only [List.length_append, List.length_cons, List.length_nil, hb]; omega)]
            simp [List.append_assoc]
          | false =>
            simp only [cond_false]
            rw [wqnu k (col + 2) (by omega) (by omega) _ _ (by simp [blS]; omega)]
            rw [hX n j _ _ h2 (by simp [blS]; omega)]
            rw [wq18j k hk0 X nd hnd col hc g w K hg hwl B hB hX s4 s5 s6 keys kids hl hk hkl q ks (i + 1) j e m _ hr hkr (by simp at h; omega) (by omega) hw (by simp only [List.length_append, List.length_cons, List.length_nil, hb, hb2]; omega)]
            simp [List.append_assoc]
theorem wq13k {R : Type} (nd : List Nd) (hn : nd.length ≤ 4000) (ho : ∀ x ∈ nd, okD x) : ∀ (f k n m col : Nat) (acc : List UInt8) (K : List Int → Option R), 5000 + f < k → walkS f nd n = some m → col + 2 * f ≤ 58 → acc.length + 1100 * (m - n) + 200 * f ≤ 6000000 →
    wq2i k R (wqs acc) nd (n : Int) (col : Int) K = K (wqs (acc ++ textS f nd n col))
  | f, 0, n, m, col, acc, K, hk, hw, hc, ha => by omega
  | 0, k + 1, n, m, col, acc, K, hk, hw, hc, ha => by rw [walkS] at hw; cases hw
  | f + 1, k + 1, n, m, col, acc, K, hk, hw, hc, ha => by
    have hlt := wq10d _ _ _ _ hw
    have hle := wqr7 _ _ _ _ hw
    obtain ⟨x, hx, hf, hw⟩ := wq10c hw
    have hn1 := (List.getElem?_eq_some_iff.1 hx).1
    have hmem := List.mem_of_getElem? hx
    have hg : ∀ z, nd.getD n z = x := fun z => by rw [List.getD, hx]; rfl
    have e4 : inb (n : Int) (nd.length : Int) = true := inb_t (by omega) (by omega)
    have ind : ∀ (n m : Nat) (acc : List UInt8) (K : List Int → Option R), walkS f nd n = some m → acc.length + 1100 * (m - n) ≤ 6000000 - 200 * (f + 1) + 200 → wq2i k R (wqs acc) nd (n : Int) ((col + 2 : Nat) : Int) K = K (wqs (acc ++ textS f nd n (col + 2))) :=
      fun n m acc K h1 h2 => wq13k nd hn ho f k n m (col + 2) acc K (by omega) h1 (by omega) (by omega)
    have lens : ∀ n m, walkS f nd n = some m → n < m ∧ (textS f nd n (col + 2)).length + 200 ≤ 1100 * (m - n) := fun a b hab => wq10f f nd a b (col + 2) hab (by omega)
    rw [wq2i]
    unfold wql2
    rw [textS, hx, e4]
    simp (disch := omega) only [dec_t, dec_f, ieq_t, ieq_f, ine_t, ine_f, inb_t, bnd_t, wqj, wqa, cond_true, cond_false, Bool.not_true, Bool.not_false, Bool.true_or, Bool.or_true, Bool.false_or, Bool.or_false, Bool.true_and, Bool.and_true, Bool.false_and, Bool.and_false, wq2, wq0, wq5, hg]
    cases h1 : x.1 == 1 with
    | true =>
      obtain ⟨_, _, hl, _⟩ := wq15t hf h1
      have hlen := wq1aa hl
      have e10 : ([10] : List Int) = wqs [10] := rfl
      simp only [cond_true, e10]
      unfold txtN at hlen ⊢
      cases hq : x.2.2.2.1 with
      | true =>
        rw [hq, cond_true] at hlen
        simp only [cond_true]
        rw [wq15w _ _ (by omega) (by omega), fits_b (by omega), cat2, fits_b (by (try simp); omega), cat2]
        simp only [cond_true, List.append_assoc]
      | false =>
        rw [hq, cond_false] at hlen
        simp only [cond_false]
        rw [fits_b (by omega), cat2, fits_b (by (try simp); omega), cat2]
        simp only [cond_true, List.append_assoc]
    | false =>
      simp only [cond_false]
      obtain ⟨_, _, h3, h3'⟩ := ho x hmem
      cases h2 : x.1 == 2 with
      | true =>
        have e2 : x.1 = 2 := by simpa using h2
        rw [e2]
        simp only [cond_true]
        exact wq1ad k (by omega) _ nd col (by omega) (fun k => textS f nd k (col + 2)) (walkS f nd) K lens (6000000 - 200 * (f + 1)) (by omega) ind _ _ _ _ x.2.2.2.2.2 h3 x.2.2.2.2.2 0 (n + 1) m k acc rfl (by omega) (by omega) hw (by omega)
      | false =>
        obtain ⟨k3, kl, _, _, _, kb⟩ := wq1a9 hf h1 h2
        rw [k3]
        simp only [cond_false]
        exact wq18j k (by omega) _ nd hn col (by omega) (fun k => textS f nd k (col + 2)) (walkS f nd) K lens (fun a b hab => wqr7 f nd a b hab) (6000000 - 200 * (f + 1)) (by omega) ind _ _ _ x.2.2.2.2.1 x.2.2.2.2.2 h3 kl (fun q hq => by
          have := wqt4 _ _ kb q hq
          simp only [keyB, Bool.and_eq_true, decide_eq_true_eq] at this
          exact this.2) x.2.2.2.2.2 x.2.2.2.2.1 0 (n + 1) m k acc rfl rfl (by omega) (by omega) hw (by omega)
def outT {R : Type} (K : List Int → Int → Option R) (nd : List Nd) : Option R :=
  bif checkS nd then bif decide ((textS 24 nd 0 0).length > 60000) then K [] 4 else K (wqs (textS 24 nd 0 0)) 0 else K [] 1
theorem wq15z {nd : List Nd} (h : checkS nd = true) : nd.length ≤ 2000 ∧ walkS 24 nd 0 = some nd.length := by
  unfold checkS at h
  simp only [Bool.and_eq_true, decide_eq_true_eq, beq_iff_eq] at h
  exact h.2
theorem wqr8 (k : Nat) {R : Type} (nd : List Nd) (hn : nd.length ≤ 4000) (ho : ∀ x ∈ nd, okD x) (hk : 5100 < k) (K : List Int → Int → Option R) : wqeb k nd K = outT K nd := by
  unfold wqeb wqu4 outT wq8l
  rw [wqve k nd hn ho hk]
  cases hc : checkS nd with
  | false => rfl
  | true =>
    obtain ⟨h1, h2⟩ := wq15z hc
    have e0 : ((0 : Int) != 0) = false := rfl
    have en : ([] : List Int) = wqs [] := rfl
    simp only [cond_true, e0, cond_false]
    rw [en]
    refine Eq.trans (wq15y nd hn ho 24 k 0 nd.length 0 [] _ (by omega) h2 (by omega) (by simp; omega)) ?_
    unfold wq7b wq9q wq5v
    dsimp only
    rw [wqr6, wqbq, wq2q, List.nil_append]
    by_cases hb : (textS 24 nd 0 0).length > 60000
    · rw [dec_t hb, dec_t (show ((textS 24 nd 0 0).length : Int) > 60000 by omega)]; rfl
    · rw [dec_f hb, dec_f (show ¬ ((textS 24 nd 0 0).length : Int) > 60000 by omega)]; rfl
theorem wq18k (k : Nat) {R : Type} (nd : List Nd) (hn : nd.length ≤ 4000) (ho : ∀ x ∈ nd, okD x) (hk : 5100 < k) (K : List Int → Int → Option R) : wqeh k nd K = outT K nd := by
  unfold wqeh wqqz outT wqh9
  rw [wq15v k nd hn ho hk]
  cases hc : checkS nd with
  | false => rfl
  | true =>
    obtain ⟨h1, h2⟩ := wq15z hc
    have en : ([] : List Int) = wqs [] := rfl
    simp only [cond_true, Bool.not_true, cond_false]
    rw [en]
    refine Eq.trans (wq13k nd hn ho 24 k 0 nd.length 0 [] _ (by omega) h2 (by omega) (by simp; omega)) ?_
    rw [wq2q, List.nil_append]
    by_cases hb : (textS 24 nd 0 0).length > 60000
    · rw [dec_t hb, dec_t (show ((textS 24 nd 0 0).length : Int) > 60000 by omega)]
    · rw [dec_f hb, dec_f (show ¬ ((textS 24 nd 0 0).length : Int) > 60000 by omega)]
end Go.Proofs.YtdfhgimidmfgfaaDoor.Pvm
set_option maxRecDepth 1000000
set_option maxHeartbeats 0
namespace Go.Proofs.YtdfhgimidmfgfaaDoor.Pvm
open Go Go.Proofs
abbrev wq9c (R : Type) : Type := ((List (Int × (Int × ((List UInt8) × (Bool × ((List (List UInt8)) × (List Int))))))) → (List (Int × (Int × ((List UInt8) × (Bool × ((List (List UInt8)) × (List Int))))))) → Int → Option R)
def wq1eu : List LS := [.ag [.sl (.pr (.int .i64) (.pr (.int .i64) (.pr .str (.pr .bool (.pr (.sl .str) (.sl (.int .i64)))))))], .ag [.sl (.pr (.int .i64) (.pr (.int .i64) (.pr .str (.pr .bool (.pr (.sl .str) (.sl (.int .i64)))))))]]
def wq10h (k : Nat) : CTab := CTab.nil
def wq2b {R : Type} (K : (Bool → Option R)) : Out → Option R
  | .ret [.v .bool y0] [] => K y0
  | _ => none
def wq3c : RetSpec := ⟨[.any], [], []⟩
def wq12o : List (Nat × CutSpec) := [(1004, ⟨[(2, .obj 12 [.sl (.pr (.int .i64) (.pr (.int .i64) (.pr .str (.pr .bool (.pr (.sl .str) (.sl (.int .i64)))))))]), (3, .obj 13 [.sl (.pr (.int .i64) (.pr (.int .i64) (.pr .str (.pr .bool (.pr (.sl .str) (.sl (.int .i64)))))))]), (5, .any)], []⟩), (1010, ⟨[(2, .obj 12 [.sl (.pr (.int .i64) (.pr (.int .i64) (.pr .str (.pr .bool (.pr (.sl .str) (.sl (.int .i64)))))))]), (3, .obj 13 [.sl (.pr (.int .i64) (.pr (.int .i64) (.pr .str (.pr .bool (.pr (.sl .str) (.sl (.int .i64)))))))]), (5, .any), (6, .obj 16 [.any, .any, .any, .any, .sl .str, .sl (.int .i64)]), (7, .obj 17 [.any, .any, .any, .any, .sl .str, .sl (.int .i64)]), (8, .any)], []⟩), (1015, ⟨[(2, .obj 12 [.sl (.pr (.int .i64) (.pr (.int .i64) (.pr .str (.pr .bool (.pr (.sl .str) (.sl (.int .i64)))))))]), (3, .obj 13 [.sl (.pr (.int .i64) (.pr (.int .i64) (.pr .str (.pr .bool (.pr (.sl .str) (.sl (.int .i64)))))))]), (5, .any), (6, .obj 16 [.any, .any, .any, .any, .sl .str, .sl (.int .i64)]), (7, .obj 17 [.any, .any, .any, .any, .sl .str, .sl (.int .i64)]), (9, .any)], []⟩)]
def wq10i : List (Nat × Plan) := [(6, (.of [(0, 1), (2, 1), (5, 1), (7, 1), (1, 1), (3, 1), (4, 1), (6, 2), (8, 1), (9, 2)] (.alt 10 (.of [(11, 0), (12, 0), (13, 0)] .done) (.op 11 0 (.of [(10, 0), (12, 0), (13, 0)] .done))))), (12, (.of [(0, 1), (2, 1), (5, 1), (7, 1), (1, 1), (3, 1), (4, 1), (6, 1), (8, 1), (9, 1), (10, 1)] .done)), (17, (.of [(0, 1), (2, 1), (5, 1), (7, 1), (1, 1), (3, 1), (4, 1), (6, 1), (8, 1), (9, 1), (10, 1)] .done))]
def wq9 (k : Nat) : Ctx := ⟨tyT, wq12o, wq10h k, [], [], wq10i, @SH⟩
def wqu : Code := Tryd.f13.body.getD .skip
def wq2l (s0 : (List (Int × (Int × ((List UInt8) × (Bool × ((List (List UInt8)) × (List Int)))))))) (s1 : (List (Int × (Int × ((List UInt8) × (Bool × ((List (List UInt8)) × (List Int)))))))) (s2 : Int) : St := ⟨mkT [(2, .ptr 12 0), (3, .ptr 13 0), (5, .v (.int .i64) s2)], mkH [(12, .var 24 [.v (.sl (.pr (.int .i64) (.pr (.int .i64) (.pr .str (.pr .bool (.pr (.sl .str) (.sl (.int .i64)))))))) s0]), (13, .var 24 [.v (.sl (.pr (.int .i64) (.pr (.int .i64) (.pr .str (.pr .bool (.pr (.sl .str) (.sl (.int .i64)))))))) s1])]⟩
def wq7u (s0 : (List (Int × (Int × ((List UInt8) × (Bool × ((List (List UInt8)) × (List Int)))))))) (s1 : (List (Int × (Int × ((List UInt8) × (Bool × ((List (List UInt8)) × (List Int)))))))) (s2 s3 s4 : Int) (s5 : (List UInt8)) (s6 : Bool) (s7 : (List (List UInt8))) (s8 : (List Int)) (s9 s10 : Int) (s11 : (List UInt8)) (s12 : Bool) (s13 : (List (List UInt8))) (s14 : (List Int)) (s15 : Int) : St := ⟨mkT [(2, .ptr 12 0), (3, .ptr 13 0), (5, .v (.int .i64) s2), (6, .ptr 16 0), (7, .ptr 17 0), (8, .v (.int .i64) s15)], mkH [(12, .var 24 [.v (.sl (.pr (.int .i64) (.pr (.int .i64) (.pr .str (.pr .bool (.pr (.sl .str) (.sl (.int .i64)))))))) s0]), (13, .var 24 [.v (.sl (.pr (.int .i64) (.pr (.int .i64) (.pr .str (.pr .bool (.pr (.sl .str) (.sl (.int .i64)))))))) s1]), (16, .var 37 [.v (.int .i64) s3, .v (.int .i64) s4, .v .str s5, .v .bool s6, .v (.sl .str) s7, .v (.sl (.int .i64)) s8]), (17, .var 37 [.v (.int .i64) s9, .v (.int .i64) s10, .v .str s11, .v .bool s12, .v (.sl .str) s13, .v (.sl (.int .i64)) s14])]⟩
def wq7v (s0 : (List (Int × (Int × ((List UInt8) × (Bool × ((List (List UInt8)) × (List Int)))))))) (s1 : (List (Int × (Int × ((List UInt8) × (Bool × ((List (List UInt8)) × (List Int)))))))) (s2 s3 s4 : Int) (s5 : (List UInt8)) (s6 : Bool) (s7 : (List (List UInt8))) (s8 : (List Int)) (s9 s10 : Int) (s11 : (List UInt8)) (s12 : Bool) (s13 : (List (List UInt8))) (s14 : (List Int)) (s15 : Int) : St := ⟨mkT [(2, .ptr 12 0), (3, .ptr 13 0), (5, .v (.int .i64) s2), (6, .ptr 16 0), (7, .ptr 17 0), (9, .v (.int .i64) s15)], mkH [(12, .var 24 [.v (.sl (.pr (.int .i64) (.pr (.int .i64) (.pr .str (.pr .bool (.pr (.sl .str) (.sl (.int .i64)))))))) s0]), (13, .var 24 [.v (.sl (.pr (.int .i64) (.pr (.int .i64) (.pr .str (.pr .bool (.pr (.sl .str) (.sl (.int .i64)))))))) s1]), (16, .var 37 [.v (.int .i64) s3, .v (.int .i64) s4, .v .str s5, .v .bool s6, .v (.sl .str) s7, .v (.sl (.int .i64)) s8]), (17, .var 37 [.v (.int .i64) s9, .v (.int .i64) s10, .v .str s11, .v .bool s12, .v (.sl .str) s13, .v (.sl (.int .i64)) s14])]⟩
def wqac (k : Nat) {R : Type} (E1010 : ((List (Int × (Int × ((List UInt8) × (Bool × ((List (List UInt8)) × (List Int))))))) → (List (Int × (Int × ((List UInt8) × (Bool × ((List (List UInt8)) × (List Int))))))) → Int → Int → Int → (List UInt8) → Bool → (List (List UInt8)) → (List Int) → Int → Int → (List UInt8) → Bool → (List (List UInt8)) → (List Int) → Int → Option R)) (s0 : (List (Int × (Int × ((List UInt8) × (Bool × ((List (List UInt8)) × (List Int)))))))) (s1 : (List (Int × (Int × ((List UInt8) × (Bool × ((List (List UInt8)) × (List Int)))))))) (s2 : Int) (K : (Bool → Option R)) : Option R := (@cond (@Option R) (@Decidable.decide (@LT.lt Int Int.instLTInt s2 (@Nat.cast Int instNatCastInt (@List.length (@Kd.T (@Kd.pr kI (@Kd.pr kI (@Kd.pr Kd.str (@Kd.pr Kd.bool (@Kd.pr (@Kd.sl Kd.str) (@Kd.sl kI))))))) s0))) (@Int.decLt s2 (@Nat.cast Int instNatCastInt (@List.length (@Kd.T (@Kd.pr kI (@Kd.pr kI (@Kd.pr Kd.str (@Kd.pr Kd.bool (@Kd.pr (@Kd.sl Kd.str) (@Kd.sl kI))))))) s0)))) (@cond (@Option R) (@inb s2 (@Nat.cast Int instNatCastInt (@List.length (@Kd.T (@Kd.pr kI (@Kd.pr kI (@Kd.pr Kd.str (@Kd.pr Kd.bool (@Kd.pr (@Kd.sl Kd.str) (@Kd.sl kI))))))) s0))) (@cond (@Option R) (@inb s2 (@Nat.cast Int instNatCastInt (@List.length (@Kd.T (@Kd.pr kI (@Kd.pr kI (@Kd.pr Kd.str (@Kd.pr Kd.bool (@Kd.pr (@Kd.sl Kd.str) (@Kd.sl kI))))))) s1))) (@dupT R (@Shp.b @Shp.o @Shp.o) (@cond (@Option R) (@cond (@Kd.T Kd.bool) (@cond (@Kd.T Kd.bool) (@cond (@Kd.T Kd.bool) (@cond (@Kd.T Kd.bool) (@bne Int (@instBEqOfDecidableEq Int @Int.instDecidableEq) (@List.getD (@Kd.T (@Kd.pr kI (@Kd.pr kI (@Kd.pr Kd.str (@Kd.pr Kd.bool (@Kd.pr (@Kd.sl Kd.str) (@Kd.sl kI))))))) s0 (@Int.toNat s2) (@Kd.zero (@Kd.pr kI (@Kd.pr kI (@Kd.pr Kd.str (@Kd.pr Kd.bool (@Kd.pr (@Kd.sl Kd.str) (@Kd.sl kI)))))))).1 (@List.getD (@Kd.T (@Kd.pr kI (@Kd.pr kI (@Kd.pr Kd.str (@Kd.pr Kd.bool (@Kd.pr (@Kd.sl Kd.str) (@Kd.sl kI))))))) s1 (@Int.toNat s2) (@Kd.zero (@Kd.pr kI (@Kd.pr kI (@Kd.pr Kd.str (@Kd.pr Kd.bool (@Kd.pr (@Kd.sl Kd.str) (@Kd.sl kI)))))))).1) Bool.true (@Bool.not (@BEq.beq (@List UInt8) (@List.instBEq UInt8 (@instBEqOfDecidableEq UInt8 @instDecidableEqUInt8)) (@List.getD (@Kd.T (@Kd.pr kI (@Kd.pr kI (@Kd.pr Kd.str (@Kd.pr Kd.bool (@Kd.pr (@Kd.sl Kd.str) (@Kd.sl kI))))))) s0 (@Int.toNat s2) (@Kd.zero (@Kd.pr kI (@Kd.pr kI (@Kd.pr Kd.str (@Kd.pr Kd.bool (@Kd.pr (@Kd.sl Kd.str) (@Kd.sl kI)))))))).2.2.1 (@List.getD (@Kd.T (@Kd.pr kI (@Kd.pr kI (@Kd.pr Kd.str (@Kd.pr Kd.bool (@Kd.pr (@Kd.sl Kd.str) (@Kd.sl kI))))))) s1 (@Int.toNat s2) (@Kd.zero (@Kd.pr kI (@Kd.pr kI (@Kd.pr Kd.str (@Kd.pr Kd.bool (@Kd.pr (@Kd.sl Kd.str) (@Kd.sl kI)))))))).2.2.1))) Bool.true (@Bool.not (@BEq.beq (@Kd.T Kd.bool) (@instBEqOfDecidableEq (@Kd.T Kd.bool) @instDecidableEqBool) (@List.getD (@Kd.T (@Kd.pr kI (@Kd.pr kI (@Kd.pr Kd.str (@Kd.pr Kd.bool (@Kd.pr (@Kd.sl Kd.str) (@Kd.sl kI))))))) s0 (@Int.toNat s2) (@Kd.zero (@Kd.pr kI (@Kd.pr kI (@Kd.pr Kd.str (@Kd.pr Kd.bool (@Kd.pr (@Kd.sl Kd.str) (@Kd.sl kI)))))))).2.2.2.1 (@List.getD (@Kd.T (@Kd.pr kI (@Kd.pr kI (@Kd.pr Kd.str (@Kd.pr Kd.bool (@Kd.pr (@Kd.sl Kd.str) (@Kd.sl kI))))))) s1 (@Int.toNat s2) (@Kd.zero (@Kd.pr kI (@Kd.pr kI (@Kd.pr Kd.str (@Kd.pr Kd.bool (@Kd.pr (@Kd.sl Kd.str) (@Kd.sl kI)))))))).2.2.2.1))) Bool.true (@bne Int (@instBEqOfDecidableEq Int @Int.instDecidableEq) (@Nat.cast Int instNatCastInt (@List.length (@Kd.T Kd.str) (@List.getD (@Kd.T (@Kd.pr kI (@Kd.pr kI (@Kd.pr Kd.str (@Kd.pr Kd.bool (@Kd.pr (@Kd.sl Kd.str) (@Kd.sl kI))))))) s0 (@Int.toNat s2) (@Kd.zero (@Kd.pr kI (@Kd.pr kI (@Kd.pr Kd.str (@Kd.pr Kd.bool (@Kd.pr (@Kd.sl Kd.str) (@Kd.sl kI)))))))).2.2.2.2.1)) (@Nat.cast Int instNatCastInt (@List.length (@Kd.T Kd.str) (@List.getD (@Kd.T (@Kd.pr kI (@Kd.pr kI (@Kd.pr Kd.str (@Kd.pr Kd.bool (@Kd.pr (@Kd.sl Kd.str) (@Kd.sl kI))))))) s1 (@Int.toNat s2) (@Kd.zero (@Kd.pr kI (@Kd.pr kI (@Kd.pr Kd.str (@Kd.pr Kd.bool (@Kd.pr (@Kd.sl Kd.str) (@Kd.sl kI)))))))).2.2.2.2.1)))) Bool.true (@bne Int (@instBEqOfDecidableEq Int @Int.instDecidableEq) (@Nat.cast Int instNatCastInt (@List.length (@Kd.T kI) (@List.getD (@Kd.T (@Kd.pr kI (@Kd.pr kI (@Kd.pr Kd.str (@Kd.pr Kd.bool (@Kd.pr (@Kd.sl Kd.str) (@Kd.sl kI))))))) s0 (@Int.toNat s2) (@Kd.zero (@Kd.pr kI (@Kd.pr kI (@Kd.pr Kd.str (@Kd.pr Kd.bool (@Kd.pr (@Kd.sl Kd.str) (@Kd.sl kI)))))))).2.2.2.2.2)) (@Nat.cast Int instNatCastInt (@List.length (@Kd.T kI) (@List.getD (@Kd.T (@Kd.pr kI (@Kd.pr kI (@Kd.pr Kd.str (@Kd.pr Kd.bool (@Kd.pr (@Kd.sl Kd.str) (@Kd.sl kI))))))) s1 (@Int.toNat s2) (@Kd.zero (@Kd.pr kI (@Kd.pr kI (@Kd.pr Kd.str (@Kd.pr Kd.bool (@Kd.pr (@Kd.sl Kd.str) (@Kd.sl kI)))))))).2.2.2.2.2)))) (K Bool.false) (E1010 s0 s1 s2 (@List.getD (@Kd.T (@Kd.pr kI (@Kd.pr kI (@Kd.pr Kd.str (@Kd.pr Kd.bool (@Kd.pr (@Kd.sl Kd.str) (@Kd.sl kI))))))) s0 (@Int.toNat s2) (@Kd.zero (@Kd.pr kI (@Kd.pr kI (@Kd.pr Kd.str (@Kd.pr Kd.bool (@Kd.pr (@Kd.sl Kd.str) (@Kd.sl kI)))))))).1 (@List.getD (@Kd.T (@Kd.pr kI (@Kd.pr kI (@Kd.pr Kd.str (@Kd.pr Kd.bool (@Kd.pr (@Kd.sl Kd.str) (@Kd.sl kI))))))) s0 (@Int.toNat s2) (@Kd.zero (@Kd.pr kI (@Kd.pr kI (@Kd.pr Kd.str (@Kd.pr Kd.bool (@Kd.pr (@Kd.sl Kd.str) (@Kd.sl kI)))))))).2.1 (@List.getD (@Kd.T (@Kd.pr kI (@Kd.pr kI (@Kd.pr Kd.str (@Kd.pr Kd.bool (@Kd.pr (@Kd.sl Kd.str) (@Kd.sl kI))))))) s0 (@Int.toNat s2) (@Kd.zero (@Kd.pr kI (@Kd.pr kI (@Kd.pr Kd.str (@Kd.pr Kd.bool (@Kd.pr (@Kd.sl Kd.str) (@Kd.sl kI)))))))).2.2.1 (@List.getD (@Kd.T (@Kd.pr kI (@Kd.pr kI (@Kd.pr Kd.str (@Kd.pr Kd.bool (@Kd.pr (@Kd.sl Kd.str) (@Kd.sl kI))))))) s0 (@Int.toNat s2) (@Kd.zero (@Kd.pr kI (@Kd.pr kI (@Kd.pr Kd.str (@Kd.pr Kd.bool (@Kd.pr (@Kd.sl Kd.str) (@Kd.sl kI)))))))).2.2.2.1 (@List.getD (@Kd.T (@Kd.pr kI (@Kd.pr kI (@Kd.pr Kd.str (@Kd.pr Kd.bool (@Kd.pr (@Kd.sl Kd.str) (@Kd.sl kI))))))) s0 (@Int.toNat s2) (@Kd.zero (@Kd.pr kI (@Kd.pr kI (@Kd.pr Kd.str (@Kd.pr Kd.bool (@Kd.pr (@Kd.sl Kd.str) (@Kd.sl kI)))))))).2.2.2.2.1 (@List.getD (@Kd.T (@Kd.pr kI (@Kd.pr kI (@Kd.pr Kd.str (@Kd.pr Kd.bool (@Kd.pr (@Kd.sl Kd.str) (@Kd.sl kI))))))) s0 (@Int.toNat s2) (@Kd.zero (@Kd.pr kI (@Kd.pr kI (@Kd.pr Kd.str (@Kd.pr Kd.bool (@Kd.pr (@Kd.sl Kd.str) (@Kd.sl kI)))))))).2.2.2.2.2 (@List.getD (@Kd.T (@Kd.pr kI (@Kd.pr kI (@Kd.pr Kd.str (@Kd.pr Kd.bool (@Kd.pr (@Kd.sl Kd.str) (@Kd.sl kI))))))) s1 (@Int.toNat s2) (@Kd.zero (@Kd.pr kI (@Kd.pr kI (@Kd.pr Kd.str (@Kd.pr Kd.bool (@Kd.pr (@Kd.sl Kd.str) (@Kd.sl kI)))))))).1 (@List.getD (@Kd.T (@Kd.pr kI (@Kd.pr kI (@Kd.pr Kd.str (@Kd.pr Kd.bool (@Kd.pr (@Kd.sl Kd.str) (@Kd.sl kI))))))) s1 (@Int.toNat s2) (@Kd.zero (@Kd.pr kI (@Kd.pr kI (@Kd.pr Kd.str (@Kd.pr Kd.bool (@Kd.pr (@Kd.sl Kd.str) (@Kd.sl kI)))))))).2.1 (@List.getD (@Kd.T (@Kd.pr kI (@Kd.pr kI (@Kd.pr Kd.str (@Kd.pr Kd.bool (@Kd.pr (@Kd.sl Kd.str) (@Kd.sl kI))))))) s1 (@Int.toNat s2) (@Kd.zero (@Kd.pr kI (@Kd.pr kI (@Kd.pr Kd.str (@Kd.pr Kd.bool (@Kd.pr (@Kd.sl Kd.str) (@Kd.sl kI)))))))).2.2.1 (@List.getD (@Kd.T (@Kd.pr kI (@Kd.pr kI (@Kd.pr Kd.str (@Kd.pr Kd.bool (@Kd.pr (@Kd.sl Kd.str) (@Kd.sl kI))))))) s1 (@Int.toNat s2) (@Kd.zero (@Kd.pr kI (@Kd.pr kI (@Kd.pr Kd.str (@Kd.pr Kd.bool (@Kd.pr (@Kd.sl Kd.str) (@Kd.sl kI)))))))).2.2.2.1 (@List.getD (@Kd.T (@Kd.pr kI (@Kd.pr kI (@Kd.pr Kd.str (@Kd.pr Kd.bool (@Kd.pr (@Kd.sl Kd.str) (@Kd.sl kI))))))) s1 (@Int.toNat s2) (@Kd.zero (@Kd.pr kI (@Kd.pr kI (@Kd.pr Kd.str (@Kd.pr Kd.bool (@Kd.pr (@Kd.sl Kd.str) (@Kd.sl kI)))))))).2.2.2.2.1 (@List.getD (@Kd.T (@Kd.pr kI (@Kd.pr kI (@Kd.pr Kd.str (@Kd.pr Kd.bool (@Kd.pr (@Kd.sl Kd.str) (@Kd.sl kI))))))) s1 (@Int.toNat s2) (@Kd.zero (@Kd.pr kI (@Kd.pr kI (@Kd.pr Kd.str (@Kd.pr Kd.bool (@Kd.pr (@Kd.sl Kd.str) (@Kd.sl kI)))))))).2.2.2.2.2 (0 : Int)))) (@Option.none R)) (@Option.none R)) (K Bool.true))
theorem wqr9 (k : Nat) {R : Type} (I : Nat → St → Option R) (s0 : (List (Int × (Int × ((List UInt8) × (Bool × ((List (List UInt8)) × (List Int)))))))) (s1 : (List (Int × (Int × ((List UInt8) × (Bool × ((List (List UInt8)) × (List Int)))))))) (s2 : Int) (K : (Bool → Option R)) : execK (wq9 k) k (at_ [1, 1, 0, 1, 0, 0] wqu) (wq2l s0 s1 s2) (konts (wq9 k) k I [1, 1, 0, 1, 0, 0] wqu (outK (wq9 k) wq3c [.tmp 4] (wq2b K))) = wqac k (fun s0 s1 s2 s3 s4 s5 s6 s7 s8 s9 s10 s11 s12 s13 s14 s15 => iter (wq9 k).pv (look (wq9 k).cuts 1010) (execK (wq9 k) k (at_ [1, 1, 0, 1, 0, 0, 1, 0, 0, 1, 1, 0, 1, 0, 0] wqu)) k (wq7u s0 s1 s2 s3 s4 s5 s6 s7 s8 s9 s10 s11 s12 s13 s14 s15) (konts (wq9 k) k I [1, 1, 0, 1, 0, 0, 1, 0, 0, 1, 1, 0, 1, 0] wqu (outK (wq9 k) wq3c [.tmp 4] (wq2b K)))) s0 s1 s2 K := by kernel_rfl
def wq8f (k : Nat) {R : Type} (E1010 : ((List (Int × (Int × ((List UInt8) × (Bool × ((List (List UInt8)) × (List Int))))))) → (List (Int × (Int × ((List UInt8) × (Bool × ((List (List UInt8)) × (List Int))))))) → Int → Int → Int → (List UInt8) → Bool → (List (List UInt8)) → (List Int) → Int → Int → (List UInt8) → Bool → (List (List UInt8)) → (List Int) → Int → Option R)) (E1015 : ((List (Int × (Int × ((List UInt8) × (Bool × ((List (List UInt8)) × (List Int))))))) → (List (Int × (Int × ((List UInt8) × (Bool × ((List (List UInt8)) × (List Int))))))) → Int → Int → Int → (List UInt8) → Bool → (List (List UInt8)) → (List Int) → Int → Int → (List UInt8) → Bool → (List (List UInt8)) → (List Int) → Int → Option R)) (s0 : (List (Int × (Int × ((List UInt8) × (Bool × ((List (List UInt8)) × (List Int)))))))) (s1 : (List (Int × (Int × ((List UInt8) × (Bool × ((List (List UInt8)) × (List Int)))))))) (s2 s3 s4 : Int) (s5 : (List UInt8)) (s6 : Bool) (s7 : (List (List UInt8))) (s8 : (List Int)) (s9 s10 : Int) (s11 : (List UInt8)) (s12 : Bool) (s13 : (List (List UInt8))) (s14 : (List Int)) (s15 : Int) (K : (Bool → Option R)) : Option R := (@cond (@Option R) (@Decidable.decide (@LT.lt Int Int.instLTInt s15 (@Nat.cast Int instNatCastInt (@List.length (@Kd.T Kd.str) s7))) (@Int.decLt s15 (@Nat.cast Int instNatCastInt (@List.length (@Kd.T Kd.str) s7)))) (@cond (@Option R) (@inb s15 (@Nat.cast Int instNatCastInt (@List.length (@Kd.T Kd.str) s7))) (@cond (@Option R) (@inb s15 (@Nat.cast Int instNatCastInt (@List.length (@Kd.T Kd.str) s13))) (@cond (@Option R) (@Bool.not (@BEq.beq (@List UInt8) (@List.instBEq UInt8 (@instBEqOfDecidableEq UInt8 @instDecidableEqUInt8)) (@List.getD (@Kd.T Kd.str) s7 (@Int.toNat s15) (@Kd.zero Kd.str)) (@List.getD (@Kd.T Kd.str) s13 (@Int.toNat s15) (@Kd.zero Kd.str)))) (K Bool.false) (E1010 s0 s1 s2 s3 s4 s5 s6 s7 s8 s9 s10 s11 s12 s13 s14 (@Go.IntKind.wrap Go.IntKind.i64 (@HAdd.hAdd Int Int Int (@instHAdd Int @Int.instAdd) s15 (1 : Int))))) (@Option.none R)) (@Option.none R)) (E1015 s0 s1 s2 s3 s4 s5 s6 s7 s8 s9 s10 s11 s12 s13 s14 (0 : Int)))
theorem wqra (k : Nat) {R : Type} (I : Nat → St → Option R) (s0 : (List (Int × (Int × ((List UInt8) × (Bool × ((List (List UInt8)) × (List Int)))))))) (s1 : (List (Int × (Int × ((List UInt8) × (Bool × ((List (List UInt8)) × (List Int)))))))) (s2 s3 s4 : Int) (s5 : (List UInt8)) (s6 : Bool) (s7 : (List (List UInt8))) (s8 : (List Int)) (s9 s10 : Int) (s11 : (List UInt8)) (s12 : Bool) (s13 : (List (List UInt8))) (s14 : (List Int)) (s15 : Int) (K : (Bool → Option R)) : execK (wq9 k) k (at_ [1, 1, 0, 1, 0, 0, 1, 0, 0, 1, 1, 0, 1, 0, 0] wqu) (wq7u s0 s1 s2 s3 s4 s5 s6 s7 s8 s9 s10 s11 s12 s13 s14 s15) (konts (wq9 k) k I [1, 1, 0, 1, 0, 0, 1, 0, 0, 1, 1, 0, 1, 0, 0] wqu (outK (wq9 k) wq3c [.tmp 4] (wq2b K))) = wq8f k (fun s0 s1 s2 s3 s4 s5 s6 s7 s8 s9 s10 s11 s12 s13 s14 s15 => I 1010 (wq7u s0 s1 s2 s3 s4 s5 s6 s7 s8 s9 s10 s11 s12 s13 s14 s15)) (fun s0 s1 s2 s3 s4 s5 s6 s7 s8 s9 s10 s11 s12 s13 s14 s15 => iter (wq9 k).pv (look (wq9 k).cuts 1015) (execK (wq9 k) k (at_ [1, 1, 0, 1, 0, 0, 1, 0, 0, 1, 1, 1, 1, 0, 0] wqu)) k (wq7v s0 s1 s2 s3 s4 s5 s6 s7 s8 s9 s10 s11 s12 s13 s14 s15) (konts (wq9 k) k I [1, 1, 0, 1, 0, 0, 1, 0, 0, 1, 1, 1, 1, 0] wqu (outK (wq9 k) wq3c [.tmp 4] (wq2b K)))) s0 s1 s2 s3 s4 s5 s6 s7 s8 s9 s10 s11 s12 s13 s14 s15 K := by kernel_rfl
def wqad (k : Nat) {R : Type} (E1004 : wq9c R) (E1015 : ((List (Int × (Int × ((List UInt8) × (Bool × ((List (List UInt8)) × (List Int))))))) → (List (Int × (Int × ((List UInt8) × (Bool × ((List (List UInt8)) × (List Int))))))) → Int → Int → Int → (List UInt8) → Bool → (List (List UInt8)) → (List Int) → Int → Int → (List UInt8) → Bool → (List (List UInt8)) → (List Int) → Int → Option R)) (s0 : (List (Int × (Int × ((List UInt8) × (Bool × ((List (List UInt8)) × (List Int)))))))) (s1 : (List (Int × (Int × ((List UInt8) × (Bool × ((List (List UInt8)) × (List Int)))))))) (s2 s3 s4 : Int) (s5 : (List UInt8)) (s6 : Bool) (s7 : (List (List UInt8))) (s8 : (List Int)) (s9 s10 : Int) (s11 : (List UInt8)) (s12 : Bool) (s13 : (List (List UInt8))) (s14 : (List Int)) (s15 : Int) (K : (Bool → Option R)) : Option R := (@cond (@Option R) (@Decidable.decide (@LT.lt Int Int.instLTInt s15 (@Nat.cast Int instNatCastInt (@List.length (@Kd.T kI) s8))) (@Int.decLt s15 (@Nat.cast Int instNatCastInt (@List.length (@Kd.T kI) s8)))) (@cond (@Option R) (@inb s15 (@Nat.cast Int instNatCastInt (@List.length (@Kd.T kI) s8))) (@cond (@Option R) (@inb s15 (@Nat.cast Int instNatCastInt (@List.length (@Kd.T kI) s14))) (@cond (@Option R) (@bne Int (@instBEqOfDecidableEq Int @Int.instDecidableEq) (@List.getD (@Kd.T kI) s8 (@Int.toNat s15) (@Kd.zero kI)) (@List.getD (@Kd.T kI) s14 (@Int.toNat s15) (@Kd.zero kI))) (K Bool.false) (E1015 s0 s1 s2 s3 s4 s5 s6 s7 s8 s9 s10 s11 s12 s13 s14 (@Go.IntKind.wrap Go.IntKind.i64 (@HAdd.hAdd Int Int Int (@instHAdd Int @Int.instAdd) s15 (1 : Int))))) (@Option.none R)) (@Option.none R)) (E1004 s0 s1 (@Go.IntKind.wrap Go.IntKind.i64 (@HAdd.hAdd Int Int Int (@instHAdd Int @Int.instAdd) s2 (1 : Int)))))
theorem wqrb (k : Nat) {R : Type} (I : Nat → St → Option R) (s0 : (List (Int × (Int × ((List UInt8) × (Bool × ((List (List UInt8)) × (List Int)))))))) (s1 : (List (Int × (Int × ((List UInt8) × (Bool × ((List (List UInt8)) × (List Int)))))))) (s2 s3 s4 : Int) (s5 : (List UInt8)) (s6 : Bool) (s7 : (List (List UInt8))) (s8 : (List Int)) (s9 s10 : Int) (s11 : (List UInt8)) (s12 : Bool) (s13 : (List (List UInt8))) (s14 : (List Int)) (s15 : Int) (K : (Bool → Option R)) : execK (wq9 k) k (at_ [1, 1, 0, 1, 0, 0, 1, 0, 0, 1, 1, 1, 1, 0, 0] wqu) (wq7v s0 s1 s2 s3 s4 s5 s6 s7 s8 s9 s10 s11 s12 s13 s14 s15) (konts (wq9 k) k I [1, 1, 0, 1, 0, 0, 1, 0, 0, 1, 1, 1, 1, 0, 0] wqu (outK (wq9 k) wq3c [.tmp 4] (wq2b K))) = wqad k (fun s0 s1 s2 => I 1004 (wq2l s0 s1 s2)) (fun s0 s1 s2 s3 s4 s5 s6 s7 s8 s9 s10 s11 s12 s13 s14 s15 => I 1015 (wq7v s0 s1 s2 s3 s4 s5 s6 s7 s8 s9 s10 s11 s12 s13 s14 s15)) s0 s1 s2 s3 s4 s5 s6 s7 s8 s9 s10 s11 s12 s13 s14 s15 K := by kernel_rfl
def wql4 (k : Nat) {R : Type} (E1004 : wq9c R) (x0 : (List (Int × (Int × ((List UInt8) × (Bool × ((List (List UInt8)) × (List Int)))))))) (x1 : (List (Int × (Int × ((List UInt8) × (Bool × ((List (List UInt8)) × (List Int)))))))) (K : (Bool → Option R)) : Option R := (@cond (@Option R) (@bne Int (@instBEqOfDecidableEq Int @Int.instDecidableEq) (@Nat.cast Int instNatCastInt (@List.length (@Kd.T (@Kd.pr kI (@Kd.pr kI (@Kd.pr Kd.str (@Kd.pr Kd.bool (@Kd.pr (@Kd.sl Kd.str) (@Kd.sl kI))))))) x0)) (@Nat.cast Int instNatCastInt (@List.length (@Kd.T (@Kd.pr kI (@Kd.pr kI (@Kd.pr Kd.str (@Kd.pr Kd.bool (@Kd.pr (@Kd.sl Kd.str) (@Kd.sl kI))))))) x1))) (K Bool.false) (E1004 x0 x1 (0 : Int)))
theorem wq12p (k : Nat) {R : Type} (I : Nat → St → Option R) (x0 : (List (Int × (Int × ((List UInt8) × (Bool × ((List (List UInt8)) × (List Int)))))))) (x1 : (List (Int × (Int × ((List UInt8) × (Bool × ((List (List UInt8)) × (List Int)))))))) (K : (Bool → Option R)) : fnK (wq9 k) k wqu 107 [.tmp 4] wq3c [.agg [.v (.sl (.pr (.int .i64) (.pr (.int .i64) (.pr .str (.pr .bool (.pr (.sl .str) (.sl (.int .i64)))))))) x0], .agg [.v (.sl (.pr (.int .i64) (.pr (.int .i64) (.pr .str (.pr .bool (.pr (.sl .str) (.sl (.int .i64)))))))) x1]] [] (wq2b K) = wql4 k (fun s0 s1 s2 => iter (wq9 k).pv (look (wq9 k).cuts 1004) (execK (wq9 k) k (at_ [1, 1, 0, 1, 0, 0] wqu)) k (wq2l s0 s1 s2) (konts (wq9 k) k I [1, 1, 0, 1, 0] wqu (outK (wq9 k) wq3c [.tmp 4] (wq2b K)))) x0 x1 K := by kernel_rfl
def wq44 (k : Nat) {R : Type} (J1004 : wq9c R) : Nat → (List (Int × (Int × ((List UInt8) × (Bool × ((List (List UInt8)) × (List Int))))))) → (List (Int × (Int × ((List UInt8) × (Bool × ((List (List UInt8)) × (List Int))))))) → Int → Int → Int → (List UInt8) → Bool → (List (List UInt8)) → (List Int) → Int → Int → (List UInt8) → Bool → (List (List UInt8)) → (List Int) → Int → (Bool → Option R) → Option R
  | 0, _, _, _, _, _, _, _, _, _, _, _, _, _, _, _, _, _ => none
  | n + 1, s0, s1, s2, s3, s4, s5, s6, s7, s8, s9, s10, s11, s12, s13, s14, s15, K => wqad k J1004 (fun s0 s1 s2 s3 s4 s5 s6 s7 s8 s9 s10 s11 s12 s13 s14 s15 => wq44 k J1004 n s0 s1 s2 s3 s4 s5 s6 s7 s8 s9 s10 s11 s12 s13 s14 s15 K) s0 s1 s2 s3 s4 s5 s6 s7 s8 s9 s10 s11 s12 s13 s14 s15 K
theorem wqrc (k : Nat) {R : Type} (I : Nat → St → Option R) (K : (Bool → Option R)) : ∀ (n : Nat) (s0 : (List (Int × (Int × ((List UInt8) × (Bool × ((List (List UInt8)) × (List Int)))))))) (s1 : (List (Int × (Int × ((List UInt8) × (Bool × ((List (List UInt8)) × (List Int)))))))) (s2 s3 s4 : Int) (s5 : (List UInt8)) (s6 : Bool) (s7 : (List (List UInt8))) (s8 : (List Int)) (s9 s10 : Int) (s11 : (List UInt8)) (s12 : Bool) (s13 : (List (List UInt8))) (s14 : (List Int)) (s15 : Int), iter (wq9 k).pv (look (wq9 k).cuts 1015) (execK (wq9 k) k (at_ [1, 1, 0, 1, 0, 0, 1, 0, 0, 1, 1, 1, 1, 0, 0] wqu)) n (wq7v s0 s1 s2 s3 s4 s5 s6 s7 s8 s9 s10 s11 s12 s13 s14 s15) (konts (wq9 k) k I [1, 1, 0, 1, 0, 0, 1, 0, 0, 1, 1, 1, 1, 0] wqu (outK (wq9 k) wq3c [.tmp 4] (wq2b K))) = wq44 k (fun s0 s1 s2 => I 1004 (wq2l s0 s1 s2)) n s0 s1 s2 s3 s4 s5 s6 s7 s8 s9 s10 s11 s12 s13 s14 s15 K := by
  intro n
  induction n with
  | zero => intros; rfl
  | succ n ih =>
    intro s0 s1 s2 s3 s4 s5 s6 s7 s8 s9 s10 s11 s12 s13 s14 s15
    let I' : Nat → St → Option R := fun id s => bif Nat.beq id 1015 then iter (wq9 k).pv (look (wq9 k).cuts 1015) (execK (wq9 k) k (at_ [1, 1, 0, 1, 0, 0, 1, 0, 0, 1, 1, 1, 1, 0, 0] wqu)) n s (konts (wq9 k) k I [1, 1, 0, 1, 0, 0, 1, 0, 0, 1, 1, 1, 1, 0] wqu (outK (wq9 k) wq3c [.tmp 4] (wq2b K))) else I id s
    have e := wqrb k I' s0 s1 s2 s3 s4 s5 s6 s7 s8 s9 s10 s11 s12 s13 s14 s15 K
    have h1015 : (fun s0 s1 s2 s3 s4 s5 s6 s7 s8 s9 s10 s11 s12 s13 s14 s15 => I' 1015 (wq7v s0 s1 s2 s3 s4 s5 s6 s7 s8 s9 s10 s11 s12 s13 s14 s15)) = (fun s0 s1 s2 s3 s4 s5 s6 s7 s8 s9 s10 s11 s12 s13 s14 s15 => wq44 k (fun s0 s1 s2 => I 1004 (wq2l s0 s1 s2)) n s0 s1 s2 s3 s4 s5 s6 s7 s8 s9 s10 s11 s12 s13 s14 s15 K) := by funext s0 s1 s2 s3 s4 s5 s6 s7 s8 s9 s10 s11 s12 s13 s14 s15; exact ih s0 s1 s2 s3 s4 s5 s6 s7 s8 s9 s10 s11 s12 s13 s14 s15
    refine Eq.trans (?_ : _ = _) (e.trans (Eq.trans ((congrArg ((fun E1015 => wqad k (fun s0 s1 s2 => I 1004 (wq2l s0 s1 s2)) E1015 s0 s1 s2 s3 s4 s5 s6 s7 s8 s9 s10 s11 s12 s13 s14 s15 K)) h1015)) (by rw [wq44])))
    rfl
def wq3j (k : Nat) {R : Type} (J1004 : wq9c R) : Nat → (List (Int × (Int × ((List UInt8) × (Bool × ((List (List UInt8)) × (List Int))))))) → (List (Int × (Int × ((List UInt8) × (Bool × ((List (List UInt8)) × (List Int))))))) → Int → Int → Int → (List UInt8) → Bool → (List (List UInt8)) → (List Int) → Int → Int → (List UInt8) → Bool → (List (List UInt8)) → (List Int) → Int → (Bool → Option R) → Option R
  | 0, _, _, _, _, _, _, _, _, _, _, _, _, _, _, _, _, _ => none
  | n + 1, s0, s1, s2, s3, s4, s5, s6, s7, s8, s9, s10, s11, s12, s13, s14, s15, K => wq8f k (fun s0 s1 s2 s3 s4 s5 s6 s7 s8 s9 s10 s11 s12 s13 s14 s15 => wq3j k J1004 n s0 s1 s2 s3 s4 s5 s6 s7 s8 s9 s10 s11 s12 s13 s14 s15 K) (fun s0 s1 s2 s3 s4 s5 s6 s7 s8 s9 s10 s11 s12 s13 s14 s15 => wq44 k J1004 k s0 s1 s2 s3 s4 s5 s6 s7 s8 s9 s10 s11 s12 s13 s14 s15 K) s0 s1 s2 s3 s4 s5 s6 s7 s8 s9 s10 s11 s12 s13 s14 s15 K
theorem wqrd (k : Nat) {R : Type} (I : Nat → St → Option R) (K : (Bool → Option R)) : ∀ (n : Nat) (s0 : (List (Int × (Int × ((List UInt8) × (Bool × ((List (List UInt8)) × (List Int)))))))) (s1 : (List (Int × (Int × ((List UInt8) × (Bool × ((List (List UInt8)) × (List Int)))))))) (s2 s3 s4 : Int) (s5 : (List UInt8)) (s6 : Bool) (s7 : (List (List UInt8))) (s8 : (List Int)) (s9 s10 : Int) (s11 : (List UInt8)) (s12 : Bool) (s13 : (List (List UInt8))) (s14 : (List Int)) (s15 : Int), iter (wq9 k).pv (look (wq9 k).cuts 1010) (execK (wq9 k) k (at_ [1, 1, 0, 1, 0, 0, 1, 0, 0, 1, 1, 0, 1, 0, 0] wqu)) n (wq7u s0 s1 s2 s3 s4 s5 s6 s7 s8 s9 s10 s11 s12 s13 s14 s15) (konts (wq9 k) k I [1, 1, 0, 1, 0, 0, 1, 0, 0, 1, 1, 0, 1, 0] wqu (outK (wq9 k) wq3c [.tmp 4] (wq2b K))) = wq3j k (fun s0 s1 s2 => I 1004 (wq2l s0 s1 s2)) n s0 s1 s2 s3 s4 s5 s6 s7 s8 s9 s10 s11 s12 s13 s14 s15 K := by
  intro n
  induction n with
  | zero => intros; rfl
  | succ n ih =>
    intro s0 s1 s2 s3 s4 s5 s6 s7 s8 s9 s10 s11 s12 s13 s14 s15
    let I' : Nat → St → Option R := fun id s => bif Nat.beq id 1010 then iter (wq9 k).pv (look (wq9 k).cuts 1010) (execK (wq9 k) k (at_ [1, 1, 0, 1, 0, 0, 1, 0, 0, 1, 1, 0, 1, 0, 0] wqu)) n s (konts (wq9 k) k I [1, 1, 0, 1, 0, 0, 1, 0, 0, 1, 1, 0, 1, 0] wqu (outK (wq9 k) wq3c [.tmp 4] (wq2b K))) else I id s
    have e := wqra k I' s0 s1 s2 s3 s4 s5 s6 s7 s8 s9 s10 s11 s12 s13 s14 s15 K
    have h1010 : (fun s0 s1 s2 s3 s4 s5 s6 s7 s8 s9 s10 s11 s12 s13 s14 s15 => I' 1010 (wq7u s0 s1 s2 s3 s4 s5 s6 s7 s8 s9 s10 s11 s12 s13 s14 s15)) = (fun s0 s1 s2 s3 s4 s5 s6 s7 s8 s9 s10 s11 s12 s13 s14 s15 => wq3j k (fun s0 s1 s2 => I 1004 (wq2l s0 s1 s2)) n s0 s1 s2 s3 s4 s5 s6 s7 s8 s9 s10 s11 s12 s13 s14 s15 K) := by funext s0 s1 s2 s3 s4 s5 s6 s7 s8 s9 s10 s11 s12 s13 s14 s15; exact ih s0 s1 s2 s3 s4 s5 s6 s7 s8 s9 s10 s11 s12 s13 s14 s15
    have h1015 : (fun s0 s1 s2 s3 s4 s5 s6 s7 s8 s9 s10 s11 s12 s13 s14 s15 => iter (wq9 k).pv (look (wq9 k).cuts 1015) (execK (wq9 k) k (at_ [1, 1, 0, 1, 0, 0, 1, 0, 0, 1, 1, 1, 1, 0, 0] wqu)) k (wq7v s0 s1 s2 s3 s4 s5 s6 s7 s8 s9 s10 s11 s12 s13 s14 s15) (konts (wq9 k) k I' [1, 1, 0, 1, 0, 0, 1, 0, 0, 1, 1, 1, 1, 0] wqu (outK (wq9 k) wq3c [.tmp 4] (wq2b K)))) = (fun s0 s1 s2 s3 s4 s5 s6 s7 s8 s9 s10 s11 s12 s13 s14 s15 => wq44 k (fun s0 s1 s2 => I 1004 (wq2l s0 s1 s2)) k s0 s1 s2 s3 s4 s5 s6 s7 s8 s9 s10 s11 s12 s13 s14 s15 K) := by funext s0 s1 s2 s3 s4 s5 s6 s7 s8 s9 s10 s11 s12 s13 s14 s15; exact (wqrc k I' K k s0 s1 s2 s3 s4 s5 s6 s7 s8 s9 s10 s11 s12 s13 s14 s15)
    refine Eq.trans (?_ : _ = _) (e.trans (Eq.trans ((Eq.trans (congrFun (congrArg ((fun E1010 E1015 => wq8f k E1010 E1015 s0 s1 s2 s3 s4 s5 s6 s7 s8 s9 s10 s11 s12 s13 s14 s15 K)) h1010) _) (congrArg ((fun E1010 E1015 => wq8f k E1010 E1015 s0 s1 s2 s3 s4 s5 s6 s7 s8 s9 s10 s11 s12 s13 s14 s15 K) (fun s0 s1 s2 s3 s4 s5 s6 s7 s8 s9 s10 s11 s12 s13 s14 s15 => wq3j k (fun s0 s1 s2 => I 1004 (wq2l s0 s1 s2)) n s0 s1 s2 s3 s4 s5 s6 s7 s8 s9 s10 s11 s12 s13 s14 s15 K)) h1015))) (by rw [wq3j])))
    rfl
def wq45 (k : Nat) {R : Type}  : Nat → (List (Int × (Int × ((List UInt8) × (Bool × ((List (List UInt8)) × (List Int))))))) → (List (Int × (Int × ((List UInt8) × (Bool × ((List (List UInt8)) × (List Int))))))) → Int → (Bool → Option R) → Option R
  | 0, _, _, _, _ => none
  | n + 1, s0, s1, s2, K => wqac k (fun s0 s1 s2 s3 s4 s5 s6 s7 s8 s9 s10 s11 s12 s13 s14 s15 => wq3j k (fun s0 s1 s2 => wq45 k  n s0 s1 s2 K) k s0 s1 s2 s3 s4 s5 s6 s7 s8 s9 s10 s11 s12 s13 s14 s15 K) s0 s1 s2 K
theorem wqre (k : Nat) {R : Type} (I : Nat → St → Option R) (K : (Bool → Option R)) : ∀ (n : Nat) (s0 : (List (Int × (Int × ((List UInt8) × (Bool × ((List (List UInt8)) × (List Int)))))))) (s1 : (List (Int × (Int × ((List UInt8) × (Bool × ((List (List UInt8)) × (List Int)))))))) (s2 : Int), iter (wq9 k).pv (look (wq9 k).cuts 1004) (execK (wq9 k) k (at_ [1, 1, 0, 1, 0, 0] wqu)) n (wq2l s0 s1 s2) (konts (wq9 k) k I [1, 1, 0, 1, 0] wqu (outK (wq9 k) wq3c [.tmp 4] (wq2b K))) = wq45 k  n s0 s1 s2 K := by
  intro n
  induction n with
  | zero => intros; rfl
  | succ n ih =>
    intro s0 s1 s2
    let I' : Nat → St → Option R := fun id s => bif Nat.beq id 1004 then iter (wq9 k).pv (look (wq9 k).cuts 1004) (execK (wq9 k) k (at_ [1, 1, 0, 1, 0, 0] wqu)) n s (konts (wq9 k) k I [1, 1, 0, 1, 0] wqu (outK (wq9 k) wq3c [.tmp 4] (wq2b K))) else I id s
    have e := wqr9 k I' s0 s1 s2 K
    have h1004 : (fun s0 s1 s2 => I' 1004 (wq2l s0 s1 s2)) = (fun s0 s1 s2 => wq45 k  n s0 s1 s2 K) := by funext s0 s1 s2; exact ih s0 s1 s2
    have h1010 : (fun s0 s1 s2 s3 s4 s5 s6 s7 s8 s9 s10 s11 s12 s13 s14 s15 => iter (wq9 k).pv (look (wq9 k).cuts 1010) (execK (wq9 k) k (at_ [1, 1, 0, 1, 0, 0, 1, 0, 0, 1, 1, 0, 1, 0, 0] wqu)) k (wq7u s0 s1 s2 s3 s4 s5 s6 s7 s8 s9 s10 s11 s12 s13 s14 s15) (konts (wq9 k) k I' [1, 1, 0, 1, 0, 0, 1, 0, 0, 1, 1, 0, 1, 0] wqu (outK (wq9 k) wq3c [.tmp 4] (wq2b K)))) = (fun s0 s1 s2 s3 s4 s5 s6 s7 s8 s9 s10 s11 s12 s13 s14 s15 => wq3j k (fun s0 s1 s2 => wq45 k  n s0 s1 s2 K) k s0 s1 s2 s3 s4 s5 s6 s7 s8 s9 s10 s11 s12 s13 s14 s15 K) := by funext s0 s1 s2 s3 s4 s5 s6 s7 s8 s9 s10 s11 s12 s13 s14 s15; exact (wqrd k I' K k s0 s1 s2 s3 s4 s5 s6 s7 s8 s9 s10 s11 s12 s13 s14 s15).trans (congrArg (fun (JJ : wq9c R) => wq3j k JJ k s0 s1 s2 s3 s4 s5 s6 s7 s8 s9 s10 s11 s12 s13 s14 s15 K) h1004)
    refine Eq.trans (?_ : _ = _) (e.trans (Eq.trans ((congrArg ((fun E1010 => wqac k E1010 s0 s1 s2 K)) h1010)) (by rw [wq45])))
    rfl
def wql5 (k : Nat) {R : Type} (x0 : (List (Int × (Int × ((List UInt8) × (Bool × ((List (List UInt8)) × (List Int)))))))) (x1 : (List (Int × (Int × ((List UInt8) × (Bool × ((List (List UInt8)) × (List Int)))))))) (K : (Bool → Option R)) : Option R := wql4 k (fun s0 s1 s2 => wq45 k k s0 s1 s2 K) x0 x1 K
theorem wq12q (k : Nat) {R : Type} (x0 : (List (Int × (Int × ((List UInt8) × (Bool × ((List (List UInt8)) × (List Int)))))))) (x1 : (List (Int × (Int × ((List UInt8) × (Bool × ((List (List UInt8)) × (List Int)))))))) (K : (Bool → Option R)) : fnK (wq9 k) k wqu 107 [.tmp 4] wq3c [.agg [.v (.sl (.pr (.int .i64) (.pr (.int .i64) (.pr .str (.pr .bool (.pr (.sl .str) (.sl (.int .i64)))))))) x0], .agg [.v (.sl (.pr (.int .i64) (.pr (.int .i64) (.pr .str (.pr .bool (.pr (.sl .str) (.sl (.int .i64)))))))) x1]] [] (wq2b K) = wql5 k x0 x1 K := by
  let I : Nat → St → Option R := fun _ _ => none
  have h1004 : (fun s0 s1 s2 => iter (wq9 k).pv (look (wq9 k).cuts 1004) (execK (wq9 k) k (at_ [1, 1, 0, 1, 0, 0] wqu)) k (wq2l s0 s1 s2) (konts (wq9 k) k I [1, 1, 0, 1, 0] wqu (outK (wq9 k) wq3c [.tmp 4] (wq2b K)))) = (fun s0 s1 s2 => wq45 k k s0 s1 s2 K) := by funext s0 s1 s2; exact wqre k I K k s0 s1 s2
  exact (wq12p k I x0 x1 K).trans (congrArg ((fun E1004 => wql4 k E1004 x0 x1 K)) h1004)
def wqt8 (k : Nat) {R : Type} : List PV → List (Nm × HObj) → (Out → Option R) → Option R
  | [.agg [.v (.sl (.pr (.int .i64) (.pr (.int .i64) (.pr .str (.pr .bool (.pr (.sl .str) (.sl (.int .i64)))))))) x0], .agg [.v (.sl (.pr (.int .i64) (.pr (.int .i64) (.pr .str (.pr .bool (.pr (.sl .str) (.sl (.int .i64)))))))) x1]], [], K => wql5 k x0 x1 (fun y0 => K (.ret [.v .bool y0] []))
  | _, _, _ => none
theorem wq12r (k : Nat) : (wq10h k).Ok Tryd.prog := CTab.nil_ok
theorem wq1g2 (k : Nat) {ps : List PV} {hp : List (Nm × HObj)} {R : Type} {K : Out → Option R} {r : R} (h : wqt8 k ps hp K = some r) : DoesTo Tryd.prog 13 ps hp fun out => K out = some r := by
  unfold wqt8 at h
  split at h
  · rw [← wq12q] at h
    have := fn_ok (P := Tryd.prog) (cx := wq9 k) (f := 13) ⟨tyT_ok, wq12r k, fun _ _ => rfl⟩ (by kernel_rfl) (fn := Tryd.f13) (c := wqu) (by kernel_rfl) (by kernel_rfl) (by kernel_rfl) (rs := [.tmp 4]) (by kernel_rfl) (by kernel_rfl) h
    exact this.mono fun out ho => by
      unfold wq2b at ho
      split at ho <;> first | exact ho | cases ho
  · cases h
def wq1e3 : List LS := [.ag [.sl (.pr (.int .i64) (.pr (.int .i64) (.pr .str (.pr .bool (.pr (.sl .str) (.sl (.int .i64)))))))]]
def wqvg (k : Nat) : CTab := CTab.nil
def wq39 {R : Type} (K : (Bool → Option R)) : Out → Option R
  | .ret [.v .bool y0] [] => K y0
  | _ => none
def wq4v : RetSpec := ⟨[.any], [], []⟩
def wq10j : List (Nat × CutSpec) := [(1003, ⟨[(1, .obj 11 [.sl (.pr (.int .i64) (.pr (.int .i64) (.pr .str (.pr .bool (.pr (.sl .str) (.sl (.int .i64)))))))]), (3, .any), (4, .any)], []⟩), (1008, ⟨[(1, .obj 11 [.sl (.pr (.int .i64) (.pr (.int .i64) (.pr .str (.pr .bool (.pr (.sl .str) (.sl (.int .i64)))))))]), (3, .any), (4, .any), (5, .obj 15 [.any, .any, .any, .any, .sl .str, .sl (.int .i64)]), (6, .any)], []⟩)]
def wqwe : List (Nat × Plan) := []
def wqh (k : Nat) : Ctx := ⟨tyT, wq10j, wqvg k, [], [], wqwe, @SH⟩
def wq19 : Code := Tryd.f5.body.getD .skip
def wq3z (s0 : (List (Int × (Int × ((List UInt8) × (Bool × ((List (List UInt8)) × (List Int)))))))) (s1 s2 : Int) : St := ⟨mkT [(1, .ptr 11 0), (3, .v (.int .i64) s1), (4, .v (.int .i64) s2)], mkH [(11, .var 24 [.v (.sl (.pr (.int .i64) (.pr (.int .i64) (.pr .str (.pr .bool (.pr (.sl .str) (.sl (.int .i64)))))))) s0])]⟩
def wq6z (s0 : (List (Int × (Int × ((List UInt8) × (Bool × ((List (List UInt8)) × (List Int)))))))) (s1 s2 s3 s4 : Int) (s5 : (List UInt8)) (s6 : Bool) (s7 : (List (List UInt8))) (s8 : (List Int)) (s9 : Int) : St := ⟨mkT [(1, .ptr 11 0), (3, .v (.int .i64) s1), (4, .v (.int .i64) s2), (5, .ptr 15 0), (6, .v (.int .i64) s9)], mkH [(11, .var 24 [.v (.sl (.pr (.int .i64) (.pr (.int .i64) (.pr .str (.pr .bool (.pr (.sl .str) (.sl (.int .i64)))))))) s0]), (15, .var 37 [.v (.int .i64) s3, .v (.int .i64) s4, .v .str s5, .v .bool s6, .v (.sl .str) s7, .v (.sl (.int .i64)) s8])]⟩
def wq9d (k : Nat) {R : Type} (E1008 : ((List (Int × (Int × ((List UInt8) × (Bool × ((List (List UInt8)) × (List Int))))))) → Int → Int → Int → Int → (List UInt8) → Bool → (List (List UInt8)) → (List Int) → Int → Option R)) (s0 : (List (Int × (Int × ((List UInt8) × (Bool × ((List (List UInt8)) × (List Int)))))))) (s1 s2 : Int) (K : (Bool → Option R)) : Option R := (@cond (@Option R) (@cond (@Kd.T Kd.bool) (@Decidable.decide (@LT.lt Int Int.instLTInt s2 (@Nat.cast Int instNatCastInt (@List.length (@Kd.T (@Kd.pr kI (@Kd.pr kI (@Kd.pr Kd.str (@Kd.pr Kd.bool (@Kd.pr (@Kd.sl Kd.str) (@Kd.sl kI))))))) s0))) (@Int.decLt s2 (@Nat.cast Int instNatCastInt (@List.length (@Kd.T (@Kd.pr kI (@Kd.pr kI (@Kd.pr Kd.str (@Kd.pr Kd.bool (@Kd.pr (@Kd.sl Kd.str) (@Kd.sl kI))))))) s0)))) (@Decidable.decide (@LE.le Int Int.instLEInt s1 (4000 : Int)) (@Int.decLe s1 (4000 : Int))) Bool.false) (@cond (@Option R) (@inb s2 (@Nat.cast Int instNatCastInt (@List.length (@Kd.T (@Kd.pr kI (@Kd.pr kI (@Kd.pr Kd.str (@Kd.pr Kd.bool (@Kd.pr (@Kd.sl Kd.str) (@Kd.sl kI))))))) s0))) (E1008 s0 (@Go.IntKind.wrap Go.IntKind.i64 (@HAdd.hAdd Int Int Int (@instHAdd Int @Int.instAdd) (@Go.IntKind.wrap Go.IntKind.i64 (@HAdd.hAdd Int Int Int (@instHAdd Int @Int.instAdd) (@Go.IntKind.wrap Go.IntKind.i64 (@HAdd.hAdd Int Int Int (@instHAdd Int @Int.instAdd) s1 (@cond (@Kd.T kI) Bool.false (@ite (@Kd.T kI) (@GT.gt (@Kd.T kI) Int.instLTInt (4001 : Int) (@Nat.cast Int instNatCastInt (@List.length UInt8 (@List.getD (@Kd.T (@Kd.pr kI (@Kd.pr kI (@Kd.pr Kd.str (@Kd.pr Kd.bool (@Kd.pr (@Kd.sl Kd.str) (@Kd.sl kI))))))) s0 (@Int.toNat s2) (@Kd.zero (@Kd.pr kI (@Kd.pr kI (@Kd.pr Kd.str (@Kd.pr Kd.bool (@Kd.pr (@Kd.sl Kd.str) (@Kd.sl kI)))))))).2.2.1))) (@Int.decLt (@Nat.cast Int instNatCastInt (@List.length UInt8 (@List.getD (@Kd.T (@Kd.pr kI (@Kd.pr kI (@Kd.pr Kd.str (@Kd.pr Kd.bool (@Kd.pr (@Kd.sl Kd.str) (@Kd.sl kI))))))) s0 (@Int.toNat s2) (@Kd.zero (@Kd.pr kI (@Kd.pr kI (@Kd.pr Kd.str (@Kd.pr Kd.bool (@Kd.pr (@Kd.sl Kd.str) (@Kd.sl kI)))))))).2.2.1)) (4001 : Int)) (4001 : Int) (@Nat.cast Int instNatCastInt (@List.length UInt8 (@List.getD (@Kd.T (@Kd.pr kI (@Kd.pr kI (@Kd.pr Kd.str (@Kd.pr Kd.bool (@Kd.pr (@Kd.sl Kd.str) (@Kd.sl kI))))))) s0 (@Int.toNat s2) (@Kd.zero (@Kd.pr kI (@Kd.pr kI (@Kd.pr Kd.str (@Kd.pr Kd.bool (@Kd.pr (@Kd.sl Kd.str) (@Kd.sl kI)))))))).2.2.1))) (@ite (@Kd.T kI) (@LT.lt (@Kd.T kI) Int.instLTInt (4001 : Int) (@Nat.cast Int instNatCastInt (@List.length UInt8 (@List.getD (@Kd.T (@Kd.pr kI (@Kd.pr kI (@Kd.pr Kd.str (@Kd.pr Kd.bool (@Kd.pr (@Kd.sl Kd.str) (@Kd.sl kI))))))) s0 (@Int.toNat s2) (@Kd.zero (@Kd.pr kI (@Kd.pr kI (@Kd.pr Kd.str (@Kd.pr Kd.bool (@Kd.pr (@Kd.sl Kd.str) (@Kd.sl kI)))))))).2.2.1))) (@Int.decLt (4001 : Int) (@Nat.cast Int instNatCastInt (@List.length UInt8 (@List.getD (@Kd.T (@Kd.pr kI (@Kd.pr kI (@Kd.pr Kd.str (@Kd.pr Kd.bool (@Kd.pr (@Kd.sl Kd.str) (@Kd.sl kI))))))) s0 (@Int.toNat s2) (@Kd.zero (@Kd.pr kI (@Kd.pr kI (@Kd.pr Kd.str (@Kd.pr Kd.bool (@Kd.pr (@Kd.sl Kd.str) (@Kd.sl kI)))))))).2.2.1))) (4001 : Int) (@Nat.cast Int instNatCastInt (@List.length UInt8 (@List.getD (@Kd.T (@Kd.pr kI (@Kd.pr kI (@Kd.pr Kd.str (@Kd.pr Kd.bool (@Kd.pr (@Kd.sl Kd.str) (@Kd.sl kI))))))) s0 (@Int.toNat s2) (@Kd.zero (@Kd.pr kI (@Kd.pr kI (@Kd.pr Kd.str (@Kd.pr Kd.bool (@Kd.pr (@Kd.sl Kd.str) (@Kd.sl kI)))))))).2.2.1)))))) (@cond (@Kd.T kI) Bool.false (@ite (@Kd.T kI) (@GT.gt (@Kd.T kI) Int.instLTInt (4001 : Int) (@Nat.cast Int instNatCastInt (@List.length (@Kd.T Kd.str) (@List.getD (@Kd.T (@Kd.pr kI (@Kd.pr kI (@Kd.pr Kd.str (@Kd.pr Kd.bool (@Kd.pr (@Kd.sl Kd.str) (@Kd.sl kI))))))) s0 (@Int.toNat s2) (@Kd.zero (@Kd.pr kI (@Kd.pr kI (@Kd.pr Kd.str (@Kd.pr Kd.bool (@Kd.pr (@Kd.sl Kd.str) (@Kd.sl kI)))))))).2.2.2.2.1))) (@Int.decLt (@Nat.cast Int instNatCastInt (@List.length (@Kd.T Kd.str) (@List.getD (@Kd.T (@Kd.pr kI (@Kd.pr kI (@Kd.pr Kd.str (@Kd.pr Kd.bool (@Kd.pr (@Kd.sl Kd.str) (@Kd.sl kI))))))) s0 (@Int.toNat s2) (@Kd.zero (@Kd.pr kI (@Kd.pr kI (@Kd.pr Kd.str (@Kd.pr Kd.bool (@Kd.pr (@Kd.sl Kd.str) (@Kd.sl kI)))))))).2.2.2.2.1)) (4001 : Int)) (4001 : Int) (@Nat.cast Int instNatCastInt (@List.length (@Kd.T Kd.str) (@List.getD (@Kd.T (@Kd.pr kI (@Kd.pr kI (@Kd.pr Kd.str (@Kd.pr Kd.bool (@Kd.pr (@Kd.sl Kd.str) (@Kd.sl kI))))))) s0 (@Int.toNat s2) (@Kd.zero (@Kd.pr kI (@Kd.pr kI (@Kd.pr Kd.str (@Kd.pr Kd.bool (@Kd.pr (@Kd.sl Kd.str) (@Kd.sl kI)))))))).2.2.2.2.1))) (@ite (@Kd.T kI) (@LT.lt (@Kd.T kI) Int.instLTInt (4001 : Int) (@Nat.cast Int instNatCastInt (@List.length (@Kd.T Kd.str) (@List.getD (@Kd.T (@Kd.pr kI (@Kd.pr kI (@Kd.pr Kd.str (@Kd.pr Kd.bool (@Kd.pr (@Kd.sl Kd.str) (@Kd.sl kI))))))) s0 (@Int.toNat s2) (@Kd.zero (@Kd.pr kI (@Kd.pr kI (@Kd.pr Kd.str (@Kd.pr Kd.bool (@Kd.pr (@Kd.sl Kd.str) (@Kd.sl kI)))))))).2.2.2.2.1))) (@Int.decLt (4001 : Int) (@Nat.cast Int instNatCastInt (@List.length (@Kd.T Kd.str) (@List.getD (@Kd.T (@Kd.pr kI (@Kd.pr kI (@Kd.pr Kd.str (@Kd.pr Kd.bool (@Kd.pr (@Kd.sl Kd.str) (@Kd.sl kI))))))) s0 (@Int.toNat s2) (@Kd.zero (@Kd.pr kI (@Kd.pr kI (@Kd.pr Kd.str (@Kd.pr Kd.bool (@Kd.pr (@Kd.sl Kd.str) (@Kd.sl kI)))))))).2.2.2.2.1))) (4001 : Int) (@Nat.cast Int instNatCastInt (@List.length (@Kd.T Kd.str) (@List.getD (@Kd.T (@Kd.pr kI (@Kd.pr kI (@Kd.pr Kd.str (@Kd.pr Kd.bool (@Kd.pr (@Kd.sl Kd.str) (@Kd.sl kI))))))) s0 (@Int.toNat s2) (@Kd.zero (@Kd.pr kI (@Kd.pr kI (@Kd.pr Kd.str (@Kd.pr Kd.bool (@Kd.pr (@Kd.sl Kd.str) (@Kd.sl kI)))))))).2.2.2.2.1)))))) (@cond (@Kd.T kI) Bool.false (@ite (@Kd.T kI) (@GT.gt (@Kd.T kI) Int.instLTInt (4001 : Int) (@Nat.cast Int instNatCastInt (@List.length (@Kd.T kI) (@List.getD (@Kd.T (@Kd.pr kI (@Kd.pr kI (@Kd.pr Kd.str (@Kd.pr Kd.bool (@Kd.pr (@Kd.sl Kd.str) (@Kd.sl kI))))))) s0 (@Int.toNat s2) (@Kd.zero (@Kd.pr kI (@Kd.pr kI (@Kd.pr Kd.str (@Kd.pr Kd.bool (@Kd.pr (@Kd.sl Kd.str) (@Kd.sl kI)))))))).2.2.2.2.2))) (@Int.decLt (@Nat.cast Int instNatCastInt (@List.length (@Kd.T kI) (@List.getD (@Kd.T (@Kd.pr kI (@Kd.pr kI (@Kd.pr Kd.str (@Kd.pr Kd.bool (@Kd.pr (@Kd.sl Kd.str) (@Kd.sl kI))))))) s0 (@Int.toNat s2) (@Kd.zero (@Kd.pr kI (@Kd.pr kI (@Kd.pr Kd.str (@Kd.pr Kd.bool (@Kd.pr (@Kd.sl Kd.str) (@Kd.sl kI)))))))).2.2.2.2.2)) (4001 : Int)) (4001 : Int) (@Nat.cast Int instNatCastInt (@List.length (@Kd.T kI) (@List.getD (@Kd.T (@Kd.pr kI (@Kd.pr kI (@Kd.pr Kd.str (@Kd.pr Kd.bool (@Kd.pr (@Kd.sl Kd.str) (@Kd.sl kI))))))) s0 (@Int.toNat s2) (@Kd.zero (@Kd.pr kI (@Kd.pr kI (@Kd.pr Kd.str (@Kd.pr Kd.bool (@Kd.pr (@Kd.sl Kd.str) (@Kd.sl kI)))))))).2.2.2.2.2))) (@ite (@Kd.T kI) (@LT.lt (@Kd.T kI) Int.instLTInt (4001 : Int) (@Nat.cast Int instNatCastInt (@List.length (@Kd.T kI) (@List.getD (@Kd.T (@Kd.pr kI (@Kd.pr kI (@Kd.pr Kd.str (@Kd.pr Kd.bool (@Kd.pr (@Kd.sl Kd.str) (@Kd.sl kI))))))) s0 (@Int.toNat s2) (@Kd.zero (@Kd.pr kI (@Kd.pr kI (@Kd.pr Kd.str (@Kd.pr Kd.bool (@Kd.pr (@Kd.sl Kd.str) (@Kd.sl kI)))))))).2.2.2.2.2))) (@Int.decLt (4001 : Int) (@Nat.cast Int instNatCastInt (@List.length (@Kd.T kI) (@List.getD (@Kd.T (@Kd.pr kI (@Kd.pr kI (@Kd.pr Kd.str (@Kd.pr Kd.bool (@Kd.pr (@Kd.sl Kd.str) (@Kd.sl kI))))))) s0 (@Int.toNat s2) (@Kd.zero (@Kd.pr kI (@Kd.pr kI (@Kd.pr Kd.str (@Kd.pr Kd.bool (@Kd.pr (@Kd.sl Kd.str) (@Kd.sl kI)))))))).2.2.2.2.2))) (4001 : Int) (@Nat.cast Int instNatCastInt (@List.length (@Kd.T kI) (@List.getD (@Kd.T (@Kd.pr kI (@Kd.pr kI (@Kd.pr Kd.str (@Kd.pr Kd.bool (@Kd.pr (@Kd.sl Kd.str) (@Kd.sl kI))))))) s0 (@Int.toNat s2) (@Kd.zero (@Kd.pr kI (@Kd.pr kI (@Kd.pr Kd.str (@Kd.pr Kd.bool (@Kd.pr (@Kd.sl Kd.str) (@Kd.sl kI)))))))).2.2.2.2.2)))))) s2 (@List.getD (@Kd.T (@Kd.pr kI (@Kd.pr kI (@Kd.pr Kd.str (@Kd.pr Kd.bool (@Kd.pr (@Kd.sl Kd.str) (@Kd.sl kI))))))) s0 (@Int.toNat s2) (@Kd.zero (@Kd.pr kI (@Kd.pr kI (@Kd.pr Kd.str (@Kd.pr Kd.bool (@Kd.pr (@Kd.sl Kd.str) (@Kd.sl kI)))))))).1 (@List.getD (@Kd.T (@Kd.pr kI (@Kd.pr kI (@Kd.pr Kd.str (@Kd.pr Kd.bool (@Kd.pr (@Kd.sl Kd.str) (@Kd.sl kI))))))) s0 (@Int.toNat s2) (@Kd.zero (@Kd.pr kI (@Kd.pr kI (@Kd.pr Kd.str (@Kd.pr Kd.bool (@Kd.pr (@Kd.sl Kd.str) (@Kd.sl kI)))))))).2.1 (@List.getD (@Kd.T (@Kd.pr kI (@Kd.pr kI (@Kd.pr Kd.str (@Kd.pr Kd.bool (@Kd.pr (@Kd.sl Kd.str) (@Kd.sl kI))))))) s0 (@Int.toNat s2) (@Kd.zero (@Kd.pr kI (@Kd.pr kI (@Kd.pr Kd.str (@Kd.pr Kd.bool (@Kd.pr (@Kd.sl Kd.str) (@Kd.sl kI)))))))).2.2.1 (@List.getD (@Kd.T (@Kd.pr kI (@Kd.pr kI (@Kd.pr Kd.str (@Kd.pr Kd.bool (@Kd.pr (@Kd.sl Kd.str) (@Kd.sl kI))))))) s0 (@Int.toNat s2) (@Kd.zero (@Kd.pr kI (@Kd.pr kI (@Kd.pr Kd.str (@Kd.pr Kd.bool (@Kd.pr (@Kd.sl Kd.str) (@Kd.sl kI)))))))).2.2.2.1 (@List.getD (@Kd.T (@Kd.pr kI (@Kd.pr kI (@Kd.pr Kd.str (@Kd.pr Kd.bool (@Kd.pr (@Kd.sl Kd.str) (@Kd.sl kI))))))) s0 (@Int.toNat s2) (@Kd.zero (@Kd.pr kI (@Kd.pr kI (@Kd.pr Kd.str (@Kd.pr Kd.bool (@Kd.pr (@Kd.sl Kd.str) (@Kd.sl kI)))))))).2.2.2.2.1 (@List.getD (@Kd.T (@Kd.pr kI (@Kd.pr kI (@Kd.pr Kd.str (@Kd.pr Kd.bool (@Kd.pr (@Kd.sl Kd.str) (@Kd.sl kI))))))) s0 (@Int.toNat s2) (@Kd.zero (@Kd.pr kI (@Kd.pr kI (@Kd.pr Kd.str (@Kd.pr Kd.bool (@Kd.pr (@Kd.sl Kd.str) (@Kd.sl kI)))))))).2.2.2.2.2 (0 : Int)) (@Option.none R)) (K (@Decidable.decide (@GT.gt Int Int.instLTInt s1 (4000 : Int)) (@Int.decLt (4000 : Int) s1))))
theorem wqot (k : Nat) {R : Type} (I : Nat → St → Option R) (s0 : (List (Int × (Int × ((List UInt8) × (Bool × ((List (List UInt8)) × (List Int)))))))) (s1 s2 : Int) (K : (Bool → Option R)) : execK (wqh k) k (at_ [1, 1, 0, 1, 0, 0] wq19) (wq3z s0 s1 s2) (konts (wqh k) k I [1, 1, 0, 1, 0, 0] wq19 (outK (wqh k) wq4v [.tmp 2] (wq39 K))) = wq9d k (fun s0 s1 s2 s3 s4 s5 s6 s7 s8 s9 => iter (wqh k).pv (look (wqh k).cuts 1008) (execK (wqh k) k (at_ [1, 1, 0, 1, 0, 0, 1, 0, 0, 1, 1, 1, 0, 0] wq19)) k (wq6z s0 s1 s2 s3 s4 s5 s6 s7 s8 s9) (konts (wqh k) k I [1, 1, 0, 1, 0, 0, 1, 0, 0, 1, 1, 1, 0] wq19 (outK (wqh k) wq4v [.tmp 2] (wq39 K)))) s0 s1 s2 K := by kernel_rfl
def wq9e (k : Nat) {R : Type} (E1003 : ((List (Int × (Int × ((List UInt8) × (Bool × ((List (List UInt8)) × (List Int))))))) → Int → Int → Option R)) (E1008 : ((List (Int × (Int × ((List UInt8) × (Bool × ((List (List UInt8)) × (List Int))))))) → Int → Int → Int → Int → (List UInt8) → Bool → (List (List UInt8)) → (List Int) → Int → Option R)) (s0 : (List (Int × (Int × ((List UInt8) × (Bool × ((List (List UInt8)) × (List Int)))))))) (s1 s2 s3 s4 : Int) (s5 : (List UInt8)) (s6 : Bool) (s7 : (List (List UInt8))) (s8 : (List Int)) (s9 : Int) (K : (Bool → Option R)) : Option R := (@cond (@Option R) (@cond (@Kd.T Kd.bool) (@Decidable.decide (@LT.lt Int Int.instLTInt s9 (@Nat.cast Int instNatCastInt (@List.length (@Kd.T Kd.str) s7))) (@Int.decLt s9 (@Nat.cast Int instNatCastInt (@List.length (@Kd.T Kd.str) s7)))) (@Decidable.decide (@LE.le Int Int.instLEInt s1 (4000 : Int)) (@Int.decLe s1 (4000 : Int))) Bool.false) (@cond (@Option R) (@inb s9 (@Nat.cast Int instNatCastInt (@List.length (@Kd.T Kd.str) s7))) (E1008 s0 (@Go.IntKind.wrap Go.IntKind.i64 (@HAdd.hAdd Int Int Int (@instHAdd Int @Int.instAdd) s1 (@cond (@Kd.T kI) Bool.false (@ite (@Kd.T kI) (@GT.gt (@Kd.T kI) Int.instLTInt (4001 : Int) (@Nat.cast Int instNatCastInt (@List.length UInt8 (@List.getD (@Kd.T Kd.str) s7 (@Int.toNat s9) (@Kd.zero Kd.str))))) (@Int.decLt (@Nat.cast Int instNatCastInt (@List.length UInt8 (@List.getD (@Kd.T Kd.str) s7 (@Int.toNat s9) (@Kd.zero Kd.str)))) (4001 : Int)) (4001 : Int) (@Nat.cast Int instNatCastInt (@List.length UInt8 (@List.getD (@Kd.T Kd.str) s7 (@Int.toNat s9) (@Kd.zero Kd.str))))) (@ite (@Kd.T kI) (@LT.lt (@Kd.T kI) Int.instLTInt (4001 : Int) (@Nat.cast Int instNatCastInt (@List.length UInt8 (@List.getD (@Kd.T Kd.str) s7 (@Int.toNat s9) (@Kd.zero Kd.str))))) (@Int.decLt (4001 : Int) (@Nat.cast Int instNatCastInt (@List.length UInt8 (@List.getD (@Kd.T Kd.str) s7 (@Int.toNat s9) (@Kd.zero Kd.str))))) (4001 : Int) (@Nat.cast Int instNatCastInt (@List.length UInt8 (@List.getD (@Kd.T Kd.str) s7 (@Int.toNat s9) (@Kd.zero Kd.str)))))))) s2 s3 s4 s5 s6 s7 s8 (@Go.IntKind.wrap Go.IntKind.i64 (@HAdd.hAdd Int Int Int (@instHAdd Int @Int.instAdd) s9 (1 : Int)))) (@Option.none R)) (E1003 s0 s1 (@Go.IntKind.wrap Go.IntKind.i64 (@HAdd.hAdd Int Int Int (@instHAdd Int @Int.instAdd) s2 (1 : Int)))))
theorem wqou (k : Nat) {R : Type} (I : Nat → St → Option R) (s0 : (List (Int × (Int × ((List UInt8) × (Bool × ((List (List UInt8)) × (List Int)))))))) (s1 s2 s3 s4 : Int) (s5 : (List UInt8)) (s6 : Bool) (s7 : (List (List UInt8))) (s8 : (List Int)) (s9 : Int) (K : (Bool → Option R)) : execK (wqh k) k (at_ [1, 1, 0, 1, 0, 0, 1, 0, 0, 1, 1, 1, 0, 0] wq19) (wq6z s0 s1 s2 s3 s4 s5 s6 s7 s8 s9) (konts (wqh k) k I [1, 1, 0, 1, 0, 0, 1, 0, 0, 1, 1, 1, 0, 0] wq19 (outK (wqh k) wq4v [.tmp 2] (wq39 K))) = wq9e k (fun s0 s1 s2 => I 1003 (wq3z s0 s1 s2)) (fun s0 s1 s2 s3 s4 s5 s6 s7 s8 s9 => I 1008 (wq6z s0 s1 s2 s3 s4 s5 s6 s7 s8 s9)) s0 s1 s2 s3 s4 s5 s6 s7 s8 s9 K := by kernel_rfl
def wqi7 (k : Nat) {R : Type} (E1003 : ((List (Int × (Int × ((List UInt8) × (Bool × ((List (List UInt8)) × (List Int))))))) → Int → Int → Option R)) (x0 : (List (Int × (Int × ((List UInt8) × (Bool × ((List (List UInt8)) × (List Int)))))))) (K : (Bool → Option R)) : Option R := (E1003 x0 (@Nat.cast Int instNatCastInt (@List.length (@Kd.T (@Kd.pr kI (@Kd.pr kI (@Kd.pr Kd.str (@Kd.pr Kd.bool (@Kd.pr (@Kd.sl Kd.str) (@Kd.sl kI))))))) x0)) (0 : Int))
theorem wq10k (k : Nat) {R : Type} (I : Nat → St → Option R) (x0 : (List (Int × (Int × ((List UInt8) × (Bool × ((List (List UInt8)) × (List Int)))))))) (K : (Bool → Option R)) : fnK (wqh k) k wq19 64 [.tmp 2] wq4v [.agg [.v (.sl (.pr (.int .i64) (.pr (.int .i64) (.pr .str (.pr .bool (.pr (.sl .str) (.sl (.int .i64)))))))) x0]] [] (wq39 K) = wqi7 k (fun s0 s1 s2 => iter (wqh k).pv (look (wqh k).cuts 1003) (execK (wqh k) k (at_ [1, 1, 0, 1, 0, 0] wq19)) k (wq3z s0 s1 s2) (konts (wqh k) k I [1, 1, 0, 1, 0] wq19 (outK (wqh k) wq4v [.tmp 2] (wq39 K)))) x0 K := by kernel_rfl
def wq3s (k : Nat) {R : Type} (J1003 : ((List (Int × (Int × ((List UInt8) × (Bool × ((List (List UInt8)) × (List Int))))))) → Int → Int → Option R)) : Nat → (List (Int × (Int × ((List UInt8) × (Bool × ((List (List UInt8)) × (List Int))))))) → Int → Int → Int → Int → (List UInt8) → Bool → (List (List UInt8)) → (List Int) → Int → (Bool → Option R) → Option R
  | 0, _, _, _, _, _, _, _, _, _, _, _ => none
  | n + 1, s0, s1, s2, s3, s4, s5, s6, s7, s8, s9, K => wq9e k J1003 (fun s0 s1 s2 s3 s4 s5 s6 s7 s8 s9 => wq3s k J1003 n s0 s1 s2 s3 s4 s5 s6 s7 s8 s9 K) s0 s1 s2 s3 s4 s5 s6 s7 s8 s9 K
theorem wqov (k : Nat) {R : Type} (I : Nat → St → Option R) (K : (Bool → Option R)) : ∀ (n : Nat) (s0 : (List (Int × (Int × ((List UInt8) × (Bool × ((List (List UInt8)) × (List Int)))))))) (s1 s2 s3 s4 : Int) (s5 : (List UInt8)) (s6 : Bool) (s7 : (List (List UInt8))) (s8 : (List Int)) (s9 : Int), iter (wqh k).pv (look (wqh k).cuts 1008) (execK (wqh k) k (at_ [1, 1, 0, 1, 0, 0, 1, 0, 0, 1, 1, 1, 0, 0] wq19)) n (wq6z s0 s1 s2 s3 s4 s5 s6 s7 s8 s9) (konts (wqh k) k I [1, 1, 0, 1, 0, 0, 1, 0, 0, 1, 1, 1, 0] wq19 (outK (wqh k) wq4v [.tmp 2] (wq39 K))) = wq3s k (fun s0 s1 s2 => I 1003 (wq3z s0 s1 s2)) n s0 s1 s2 s3 s4 s5 s6 s7 s8 s9 K := by
  intro n
  induction n with
  | zero => intros; rfl
  | succ n ih =>
    intro s0 s1 s2 s3 s4 s5 s6 s7 s8 s9
    let I' : Nat → St → Option R := fun id s => bif Nat.beq id 1008 then iter (wqh k).pv (look (wqh k).cuts 1008) (execK (wqh k) k (at_ [1, 1, 0, 1, 0, 0, 1, 0, 0, 1, 1, 1, 0, 0] wq19)) n s (konts (wqh k) k I [1, 1, 0, 1, 0, 0, 1, 0, 0, 1, 1, 1, 0] wq19 (outK (wqh k) wq4v [.tmp 2] (wq39 K))) else I id s
    have e := wqou k I' s0 s1 s2 s3 s4 s5 s6 s7 s8 s9 K
    have h1008 : (fun s0 s1 s2 s3 s4 s5 s6 s7 s8 s9 => I' 1008 (wq6z s0 s1 s2 s3 s4 s5 s6 s7 s8 s9)) = (fun s0 s1 s2 s3 s4 s5 s6 s7 s8 s9 => wq3s k (fun s0 s1 s2 => I 1003 (wq3z s0 s1 s2)) n s0 s1 s2 s3 s4 s5 s6 s7 s8 s9 K) := by funext s0 s1 s2 s3 s4 s5 s6 s7 s8 s9; exact ih s0 s1 s2 s3 s4 s5 s6 s7 s8 s9
    refine Eq.trans (?_ : _ = _) (e.trans (Eq.trans ((congrArg ((fun E1008 => wq9e k (fun s0 s1 s2 => I 1003 (wq3z s0 s1 s2)) E1008 s0 s1 s2 s3 s4 s5 s6 s7 s8 s9 K)) h1008)) (by rw [wq3s])))
    rfl
def wq3t (k : Nat) {R : Type}  : Nat → (List (Int × (Int × ((List UInt8) × (Bool × ((List (List UInt8)) × (List Int))))))) → Int → Int → (Bool → Option R) → Option R
  | 0, _, _, _, _ => none
  | n + 1, s0, s1, s2, K => wq9d k (fun s0 s1 s2 s3 s4 s5 s6 s7 s8 s9 => wq3s k (fun s0 s1 s2 => wq3t k  n s0 s1 s2 K) k s0 s1 s2 s3 s4 s5 s6 s7 s8 s9 K) s0 s1 s2 K
theorem wqow (k : Nat) {R : Type} (I : Nat → St → Option R) (K : (Bool → Option R)) : ∀ (n : Nat) (s0 : (List (Int × (Int × ((List UInt8) × (Bool × ((List (List UInt8)) × (List Int)))))))) (s1 s2 : Int), iter (wqh k).pv (look (wqh k).cuts 1003) (execK (wqh k) k (at_ [1, 1, 0, 1, 0, 0] wq19)) n (wq3z s0 s1 s2) (konts (wqh k) k I [1, 1, 0, 1, 0] wq19 (outK (wqh k) wq4v [.tmp 2] (wq39 K))) = wq3t k  n s0 s1 s2 K := by
  intro n
  induction n with
  | zero => intros; rfl
  | succ n ih =>
    intro s0 s1 s2
    let I' : Nat → St → Option R := fun id s => bif Nat.beq id 1003 then iter (wqh k).pv (look (wqh k).cuts 1003) (execK (wqh k) k (at_ [1, 1, 0, 1, 0, 0] wq19)) n s (konts (wqh k) k I [1, 1, 0, 1, 0] wq19 (outK (wqh k) wq4v [.tmp 2] (wq39 K))) else I id s
    have e := wqot k I' s0 s1 s2 K
    have h1003 : (fun s0 s1 s2 => I' 1003 (wq3z s0 s1 s2)) = (fun s0 s1 s2 => wq3t k  n s0 s1 s2 K) := by funext s0 s1 s2; exact ih s0 s1 s2
    have h1008 : (fun s0 s1 s2 s3 s4 s5 s6 s7 s8 s9 => iter (wqh k).pv (look (wqh k).cuts 1008) (execK (wqh k) k (at_ [1, 1, 0, 1, 0, 0, 1, 0, 0, 1, 1, 1, 0, 0] wq19)) k (wq6z s0 s1 s2 s3 s4 s5 s6 s7 s8 s9) (konts (wqh k) k I' [1, 1, 0, 1, 0, 0, 1, 0, 0, 1, 1, 1, 0] wq19 (outK (wqh k) wq4v [.tmp 2] (wq39 K)))) = (fun s0 s1 s2 s3 s4 s5 s6 s7 s8 s9 => wq3s k (fun s0 s1 s2 => wq3t k  n s0 s1 s2 K) k s0 s1 s2 s3 s4 s5 s6 s7 s8 s9 K) := by funext s0 s1 s2 s3 s4 s5 s6 s7 s8 s9; exact (wqov k I' K k s0 s1 s2 s3 s4 s5 s6 s7 s8 s9).trans (congrArg (fun (JJ : ((List (Int × (Int × ((List UInt8) × (Bool × ((List (List UInt8)) × (List Int))))))) → Int → Int → Option R)) => wq3s k JJ k s0 s1 s2 s3 s4 s5 s6 s7 s8 s9 K) h1003)
    refine Eq.trans (?_ : _ = _) (e.trans (Eq.trans ((congrArg ((fun E1008 => wq9d k E1008 s0 s1 s2 K)) h1008)) (by rw [wq3t])))
    rfl
def wqi8 (k : Nat) {R : Type} (x0 : (List (Int × (Int × ((List UInt8) × (Bool × ((List (List UInt8)) × (List Int)))))))) (K : (Bool → Option R)) : Option R := wqi7 k (fun s0 s1 s2 => wq3t k k s0 s1 s2 K) x0 K
theorem wq10l (k : Nat) {R : Type} (x0 : (List (Int × (Int × ((List UInt8) × (Bool × ((List (List UInt8)) × (List Int)))))))) (K : (Bool → Option R)) : fnK (wqh k) k wq19 64 [.tmp 2] wq4v [.agg [.v (.sl (.pr (.int .i64) (.pr (.int .i64) (.pr .str (.pr .bool (.pr (.sl .str) (.sl (.int .i64)))))))) x0]] [] (wq39 K) = wqi8 k x0 K := by
  let I : Nat → St → Option R := fun _ _ => none
  have h1003 : (fun s0 s1 s2 => iter (wqh k).pv (look (wqh k).cuts 1003) (execK (wqh k) k (at_ [1, 1, 0, 1, 0, 0] wq19)) k (wq3z s0 s1 s2) (konts (wqh k) k I [1, 1, 0, 1, 0] wq19 (outK (wqh k) wq4v [.tmp 2] (wq39 K)))) = (fun s0 s1 s2 => wq3t k k s0 s1 s2 K) := by funext s0 s1 s2; exact wqow k I K k s0 s1 s2
  exact (wq10k k I x0 K).trans (congrArg ((fun E1003 => wqi7 k E1003 x0 K)) h1003)
def wqpa (k : Nat) {R : Type} : List PV → List (Nm × HObj) → (Out → Option R) → Option R
  | [.agg [.v (.sl (.pr (.int .i64) (.pr (.int .i64) (.pr .str (.pr .bool (.pr (.sl .str) (.sl (.int .i64)))))))) x0]], [], K => wqi8 k x0 (fun y0 => K (.ret [.v .bool y0] []))
  | _, _, _ => none
theorem wq10m (k : Nat) : (wqvg k).Ok Tryd.prog := CTab.nil_ok
theorem wq1fe (k : Nat) {ps : List PV} {hp : List (Nm × HObj)} {R : Type} {K : Out → Option R} {r : R} (h : wqpa k ps hp K = some r) : DoesTo Tryd.prog 5 ps hp fun out => K out = some r := by
  unfold wqpa at h
  split at h
  · rw [← wq10l] at h
    have := fn_ok (P := Tryd.prog) (cx := wqh k) (f := 5) ⟨tyT_ok, wq10m k, fun _ _ => rfl⟩ (by kernel_rfl) (fn := Tryd.f5) (c := wq19) (by kernel_rfl) (by kernel_rfl) (by kernel_rfl) (rs := [.tmp 2]) (by kernel_rfl) (by kernel_rfl) h
    exact this.mono fun out ho => by
      unfold wq39 at ho
      split at ho <;> first | exact ho | cases ho
  · cases h
end Go.Proofs.YtdfhgimidmfgfaaDoor.Pvm
namespace Go.Proofs.YtdfhgimidmfgfaaDoor.Pvm
open Go
theorem wq1ae {α : Type} [BEq α] [LawfulBEq α] {R : Type} (z : α) (L : Nat → List α → List α → Int → Int → Option R) (K : Bool → Option R) (x y : List α) (hx : x.length ≤ 4000) (hxy : x.length = y.length)
    (step : ∀ n i, L (n + 1) x y (x.length : Int) i = bif decide (i < (x.length : Int)) then bif inb i (x.length : Int) then bif inb i (y.length : Int) then bif !(x.getD i.toNat z == y.getD i.toNat z) then K false else L n x y (x.length : Int) (IntKind.i64.wrap (i + 1)) else none else none else K true) :
    ∀ (p q : List α) (i m : Nat), x.drop i = p → y.drop i = q → p.length < m → i ≤ x.length → L m x y (x.length : Int) (i : Int) = K (p == q)
  | p, q, i, 0, _, _, h, _ => by omega
  | [], q, i, m + 1, hp, hq, h, hi => by
    have h1 := wq2k hp
    have h2 : q = [] := by rw [← hq]; simp; omega
    subst h2
    rw [step]
    simp (disch := omega) only [dec_t, dec_f, ieq_t, ieq_f, ine_t, ine_f, inb_t, bnd_t, wqj, wqa, cond_true, cond_false, Bool.not_true, Bool.not_false, Bool.true_or, Bool.or_true, Bool.false_or, Bool.or_false, Bool.true_and, Bool.and_true, Bool.false_and, Bool.and_false, wq2, wq0, wq5]
    rfl
  | a :: p, [], i, m + 1, hp, hq, h, hi => by
    obtain ⟨h1, _, _⟩ := wqv hp
    have := wq2k hq
    omega
  | a :: p, b :: q, i, m + 1, hp, hq, h, hi => by
    obtain ⟨h1, h2, h3⟩ := wqv hp
    obtain ⟨g1, g2, g3⟩ := wqv hq
    rw [step]
    simp (disch := omega) only [dec_t, dec_f, ieq_t, ieq_f, ine_t, ine_f, inb_t, bnd_t, wqj, wqa, cond_true, cond_false, Bool.not_true, Bool.not_false, Bool.true_or, Bool.or_true, Bool.false_or, Bool.or_false, Bool.true_and, Bool.and_true, Bool.false_and, Bool.and_false, wq2, wq0, wq5, h2, g2, wq1w]
    have e : ((a :: p) == (b :: q)) = ((a == b) && (p == q)) := rfl
    rw [e]
    cases a == b with
    | false => rfl
    | true =>
      simp only [Bool.not_true, cond_false, Bool.true_and]
      exact wq1ae z L K x y hx hxy step p q (i + 1) m h3 g3 (by simp at h; omega) (by omega)
theorem len_ne {α : Type} [BEq α] [LawfulBEq α] {x y : List α} (h : x.length ≠ y.length) : (x == y) = false := by
  rw [beq_eq_false_iff_ne]
  exact fun e => h (by rw [e])
theorem wq1af (k : Nat) {R : Type} (x y : List (List UInt8)) (hx : x.length ≤ 4000) (hk : 4000 < k) (K : Bool → Option R) : wq3g k x y K = K (x == y) := by
  unfold wq3g wq4s
  by_cases h : x.length = y.length
  · rw [ine_f (by omega), cond_false]
    exact wq1ae ([] : List UInt8) (fun m a b c d => wq1a k m a b c d K) K x y hx h (fun n i => by rw [wq1a]; rfl) x y 0 k rfl rfl (by omega) (by omega)
  · rw [ine_t (by omega), cond_true, len_ne h]
theorem wq1ag (k : Nat) {R : Type} (x y : List Int) (hx : x.length ≤ 4000) (hk : 4000 < k) (K : Bool → Option R) : wq5h k x y K = K (x == y) := by
  unfold wq5h wq79
  by_cases h : x.length = y.length
  · rw [ine_f (by omega), cond_false]
    exact wq1ae (0 : Int) (fun m a b c d => wq1x k m a b c d K) K x y hx h (fun n i => by rw [wq1x]; rfl) x y 0 k rfl rfl (by omega) (by omega)
  · rw [ine_t (by omega), cond_true, len_ne h]
theorem wq160 (k : Nat) {R : Type} (x y : Nd) (hx : okD x) (hk : 4000 < k) (K : Bool → Option R) : wqew k x.1 x.2.1 x.2.2.1 x.2.2.2.1 x.2.2.2.2.1 x.2.2.2.2.2 y.1 y.2.1 y.2.2.1 y.2.2.2.1 y.2.2.2.2.1 y.2.2.2.2.2 K = K (sameN x y) := by
  unfold wqew wqms sameN
  obtain ⟨_, h2, h3, _⟩ := hx
  rw [wq1af k _ _ h2 hk, wq1ag k _ _ h3 hk]
  cases x.1 == y.1 <;> cases x.2.2.1 == y.2.2.1 <;> cases x.2.2.2.1 == y.2.2.2.1 <;> cases x.2.2.2.2.1 == y.2.2.2.2.1 <;> rfl
theorem wqt9 (k : Nat) {R : Type} (x y : List Nd) (hx : x.length ≤ 4000) (ho : ∀ z ∈ x, okD z) (hxy : x.length = y.length) (hk : 4000 < k) (K : Bool → Option R) : ∀ (p q : List Nd) (i m : Nat), x.drop i = p → y.drop i = q → p.length < m → i ≤ x.length →
    wqc k m y x (x.length : Int) (i : Int) K = K (sameS p q)
  | p, q, i, 0, _, _, h, _ => by omega
  | [], q, i, m + 1, hp, hq, h, hi => by
    have h1 := wq2k hp
    have h2 : q = [] := by rw [← hq]; simp; omega
    subst h2
    rw [wqc, wqw]
    simp (disch := omega) only [dec_t, dec_f, ieq_t, ieq_f, ine_t, ine_f, inb_t, bnd_t, wqj, wqa, cond_true, cond_false, Bool.not_true, Bool.not_false, Bool.true_or, Bool.or_true, Bool.false_or, Bool.or_false, Bool.true_and, Bool.and_true, Bool.false_and, Bool.and_false, wq2, wq0, wq5]
    rfl
  | a :: p, [], i, m + 1, hp, hq, h, hi => by
    obtain ⟨h1, _, _⟩ := wqv hp
    have := wq2k hq
    omega
  | a :: p, b :: q, i, m + 1, hp, hq, h, hi => by
    obtain ⟨h1, h2, h3⟩ := wqv hp
    obtain ⟨g1, g2, g3⟩ := wqv hq
    have hm := ho a (List.mem_of_mem_drop (by rw [hp]; simp))
    rw [wqc, wqw]
    simp (disch := omega) only [dec_t, dec_f, ieq_t, ieq_f, ine_t, ine_f, inb_t, bnd_t, wqj, wqa, cond_true, cond_false, Bool.not_true, Bool.not_false, Bool.true_or, Bool.or_true, Bool.false_or, Bool.or_false, Bool.true_and, Bool.and_true, Bool.false_and, Bool.and_false, wq2, wq0, wq5, h2, g2, wq1w]
    rw [wq160 k a b hm hk, sameS]
    cases sameN a b with
    | false => rfl
    | true =>
      simp only [Bool.not_true, cond_false, Bool.true_and]
      exact wqt9 k x y hx ho hxy hk K p q (i + 1) m h3 g3 (by simp at h; omega) (by omega)
theorem wq161 : ∀ {x y : List Nd}, x.length ≠ y.length → sameS x y = false
  | [], [], h => absurd rfl h
  | [], _ :: _, _ => rfl
  | _ :: _, [], _ => rfl
  | a :: x, b :: y, h => by rw [sameS, wq161 (by simpa using h), Bool.and_false]
theorem wq10n (k : Nat) {R : Type} (x y : List Nd) (hx : x.length ≤ 4000) (ho : ∀ z ∈ x, okD z) (hk : 4000 < k) (K : Bool → Option R) : wqg4 k x y K = K (sameS x y) := by
  unfold wqg4 wqu1 wq1f wq1e
  by_cases h : x.length = y.length
  · rw [ine_f (by omega), cond_false]
    exact wqt9 k x y hx ho h hk _ x y 0 k rfl rfl (by omega) (by omega)
  · rw [ine_t (by omega), cond_true, wq161 h]
theorem wq18l (k : Nat) {R : Type} (J : List Nd → List Nd → Int → Option R) (K : Bool → Option R) (s0 s1 : List Nd) (s2 s3 s4 : Int) (s5 : List UInt8) (s6 : Bool) (x : List (List UInt8)) (hx : x.length ≤ 4000) (s8 : List Int) (s9 s10 : Int) (s11 : List UInt8) (s12 : Bool) (y : List (List UInt8)) (hxy : x.length = y.length) (s14 : List Int) :
    ∀ (p q : List (List UInt8)) (i m : Nat), x.drop i = p → y.drop i = q → p.length < m → i ≤ x.length → wq3j k J m s0 s1 s2 s3 s4 s5 s6 x s8 s9 s10 s11 s12 y s14 (i : Int) K = bif p == q then wq44 k J k s0 s1 s2 s3 s4 s5 s6 x s8 s9 s10 s11 s12 y s14 0 K else K false
  | p, q, i, 0, _, _, h, _ => by omega
  | [], q, i, m + 1, hp, hq, h, hi => by
    have h1 := wq2k hp
    have h2 : q = [] := by rw [← hq]; simp; omega
    subst h2
    rw [wq3j, wq8f]
    simp (disch := omega) only [dec_t, dec_f, ieq_t, ieq_f, ine_t, ine_f, inb_t, bnd_t, wqj, wqa, cond_true, cond_false, Bool.not_true, Bool.not_false, Bool.true_or, Bool.or_true, Bool.false_or, Bool.or_false, Bool.true_and, Bool.and_true, Bool.false_and, Bool.and_false, wq2, wq0, wq5]
    rfl
  | a :: p, [], i, m + 1, hp, hq, h, hi => by
    obtain ⟨h1, _, _⟩ := wqv hp
    have := wq2k hq
    omega
  | a :: p, b :: q, i, m + 1, hp, hq, h, hi => by
    obtain ⟨h1, h2, h3⟩ := wqv hp
    obtain ⟨g1, g2, g3⟩ := wqv hq
    rw [wq3j, wq8f]
    simp (disch := omega) only [dec_t, dec_f, ieq_t, ieq_f, ine_t, ine_f, inb_t, bnd_t, wqj, wqa, cond_true, cond_false, Bool.not_true, Bool.not_false, Bool.true_or, Bool.or_true, Bool.false_or, Bool.or_false, Bool.true_and, Bool.and_true, Bool.false_and, Bool.and_false, wq2, wq0, wq5, h2, g2, wq1w]
    have e : ((a :: p) == (b :: q)) = ((a == b) && (p == q)) := rfl
    rw [e]
    cases a == b with
    | false => rfl
    | true =>
      simp only [Bool.not_true, cond_false, Bool.true_and]
      exact wq18l k J K s0 s1 s2 s3 s4 s5 s6 x hx s8 s9 s10 s11 s12 y hxy s14 p q (i + 1) m h3 g3 (by simp at h; omega) (by omega)
theorem wq18m (k : Nat) {R : Type} (J : List Nd → List Nd → Int → Option R) (K : Bool → Option R) (s0 s1 : List Nd) (n : Nat) (hn : n ≤ 4000) (s3 s4 : Int) (s5 : List UInt8) (s6 : Bool) (s7 : List (List UInt8)) (x : List Int) (hx : x.length ≤ 4000) (s9 s10 : Int) (s11 : List UInt8) (s12 : Bool) (s13 : List (List UInt8)) (y : List Int) (hxy : x.length = y.length) :
    ∀ (p q : List Int) (i m : Nat), x.drop i = p → y.drop i = q → p.length < m → i ≤ x.length → wq44 k J m s0 s1 (n : Int) s3 s4 s5 s6 s7 x s9 s10 s11 s12 s13 y (i : Int) K = bif p == q then J s0 s1 ((n + 1 : Nat) : Int) else K false
  | p, q, i, 0, _, _, h, _ => by omega
  | [], q, i, m + 1, hp, hq, h, hi => by
    have h1 := wq2k hp
    have h2 : q = [] := by rw [← hq]; simp; omega
    subst h2
    rw [wq44, wqad]
    simp (disch := omega) only [dec_t, dec_f, ieq_t, ieq_f, ine_t, ine_f, inb_t, bnd_t, wqj, wqa, cond_true, cond_false, Bool.not_true, Bool.not_false, Bool.true_or, Bool.or_true, Bool.false_or, Bool.or_false, Bool.true_and, Bool.and_true, Bool.false_and, Bool.and_false, wq2, wq0, wq5, wq1w]
    rfl
  | a :: p, [], i, m + 1, hp, hq, h, hi => by
    obtain ⟨h1, _, _⟩ := wqv hp
    have := wq2k hq
    omega
  | a :: p, b :: q, i, m + 1, hp, hq, h, hi => by
    obtain ⟨h1, h2, h3⟩ := wqv hp
    obtain ⟨g1, g2, g3⟩ := wqv hq
    rw [wq44, wqad]
    simp (disch := omega) only [dec_t, dec_f, ieq_t, ieq_f, ine_t, ine_f, inb_t, bnd_t, wqj, wqa, cond_true, cond_false, Bool.not_true, Bool.not_false, Bool.true_or, Bool.or_true, Bool.false_or, Bool.or_false, Bool.true_and, Bool.and_true, Bool.false_and, Bool.and_false, wq2, wq0, wq5, h2, g2, wq1w]
    have e : ((a :: p) == (b :: q)) = ((a == b) && (p == q)) := rfl
    have e2 : (a != b) = !(a == b) := rfl
    rw [e, e2]
    cases a == b with
    | false => rfl
    | true =>
      simp only [Bool.not_true, cond_false, Bool.true_and]
      exact wq18m k J K s0 s1 n hn s3 s4 s5 s6 s7 x hx s9 s10 s11 s12 s13 y hxy p q (i + 1) m h3 g3 (by simp at h; omega) (by omega)
theorem wq18n (k : Nat) {R : Type} (x y : List Nd) (hx : x.length ≤ 4000) (ho : ∀ z ∈ x, okD z) (hxy : x.length = y.length) (hk : 4000 < k) (K : Bool → Option R) : ∀ (p q : List Nd) (i m : Nat), x.drop i = p → y.drop i = q → p.length < m → i ≤ x.length →
    wq45 k m x y (i : Int) K = K (sameS p q)
  | p, q, i, 0, _, _, h, _ => by omega
  | [], q, i, m + 1, hp, hq, h, hi => by
    have h1 := wq2k hp
    have h2 : q = [] := by rw [← hq]; simp; omega
    subst h2
    rw [wq45, wqac]
    simp (disch := omega) only [dec_t, dec_f, ieq_t, ieq_f, ine_t, ine_f, inb_t, bnd_t, wqj, wqa, cond_true, cond_false, Bool.not_true, Bool.not_false, Bool.true_or, Bool.or_true, Bool.false_or, Bool.or_false, Bool.true_and, Bool.and_true, Bool.false_and, Bool.and_false, wq2, wq0, wq5]
    rfl
  | a :: p, [], i, m + 1, hp, hq, h, hi => by
    obtain ⟨h1, _, _⟩ := wqv hp
    have := wq2k hq
    omega
  | a :: p, b :: q, i, m + 1, hp, hq, h, hi => by
    obtain ⟨h1, h2, h3⟩ := wqv hp
    obtain ⟨g1, g2, g3⟩ := wqv hq
    obtain ⟨_, o2, o3, _⟩ := ho a (List.mem_of_mem_drop (by rw [hp]; simp))
    have ih := wq18n k x y hx ho hxy hk K p q (i + 1) m h3 g3 (by simp at h; omega) (by omega)
    rw [wq45, wqac]
    simp (disch := omega) only [dec_t, dec_f, ieq_t, ieq_f, ine_t, ine_f, inb_t, bnd_t, wqj, wqa, cond_true, cond_false, Bool.not_true, Bool.not_false, Bool.true_or, Bool.or_true, Bool.false_or, Bool.or_false, Bool.true_and, Bool.and_true, Bool.false_and, Bool.and_false, wq2, wq0, wq5, h2, g2, wq1w, wq1dg]
    rw [sameS, sameN]
    have e1 : (a.1 != b.1) = !(a.1 == b.1) := rfl
    rw [e1]
    cases a.1 == b.1 with
    | false => rfl
    | true =>
      cases a.2.2.1 == b.2.2.1 with
      | false => rfl
      | true =>
        cases a.2.2.2.1 == b.2.2.2.1 with
        | false => rfl
        | true =>
          by_cases l1 : a.2.2.2.2.1.length = b.2.2.2.2.1.length
          · by_cases l2 : a.2.2.2.2.2.length = b.2.2.2.2.2.length
            · rw [ine_f (show (a.2.2.2.2.1.length : Int) = b.2.2.2.2.1.length by omega), ine_f (show (a.2.2.2.2.2.length : Int) = b.2.2.2.2.2.length by omega)]
              simp only [Bool.not_true, cond_false, Bool.true_and]
              refine Eq.trans (wq18l k _ K x y _ _ _ _ _ a.2.2.2.2.1 o2 _ _ _ _ _ b.2.2.2.2.1 l1 _ a.2.2.2.2.1 b.2.2.2.2.1 0 k rfl rfl (by omega) (by omega)) ?_
              cases a.2.2.2.2.1 == b.2.2.2.2.1 with
              | false => rfl
              | true =>
                rw [cond_true]
                refine Eq.trans (wq18m k _ K x y i (by omega) _ _ _ _ _ a.2.2.2.2.2 o3 _ _ _ _ _ b.2.2.2.2.2 l2 a.2.2.2.2.2 b.2.2.2.2.2 0 k rfl rfl (by omega) (by omega)) ?_
                cases a.2.2.2.2.2 == b.2.2.2.2.2 with
                | false => rfl
                | true => simpa using ih
            · rw [ine_f (show (a.2.2.2.2.1.length : Int) = b.2.2.2.2.1.length by omega), ine_t (show (a.2.2.2.2.2.length : Int) ≠ b.2.2.2.2.2.length by omega), len_ne l2, Bool.and_false]
              rfl
          · rw [ine_t (show (a.2.2.2.2.1.length : Int) ≠ b.2.2.2.2.1.length by omega), len_ne l1]
            rfl
theorem wq1ff (k : Nat) {R : Type} (x y : List Nd) (hx : x.length ≤ 4000) (ho : ∀ z ∈ x, okD z) (hk : 4000 < k) (K : Bool → Option R) : wql5 k x y K = K (sameS x y) := by
  unfold wql5 wql4
  by_cases h : x.length = y.length
  · rw [ine_f (by omega), cond_false]
    exact wq18n k x y hx ho h hk _ x y 0 k rfl rfl (by omega) (by omega)
  · rw [ine_t (by omega), cond_true, wq161 h]
theorem wq1e1 (x : Nd) : sameN x x = true := by simp [sameN]
theorem wq1e2 : ∀ x : List Nd, sameS x x = true
  | [] => rfl
  | x :: r => by rw [sameS, wq1e1, wq1e2 r]; rfl
def mn (n : Nat) : Nat := if 4001 < n then 4001 else n
theorem mn_eq (n : Nat) : (if (4001 : Int) < (n : Int) then 4001 else (n : Int)) = (mn n : Int) := by
  unfold mn
  split <;> split <;> omega
def hvK : Nat → List (List UInt8) → Nat
  | a, [] => a
  | a, q :: r => if a ≤ 4000 then hvK (a + mn q.length) r else a
def hvN : Nat → List Nd → Nat
  | a, [] => a
  | a, x :: r => if a ≤ 4000 then hvN (hvK (a + mn x.2.2.1.length + mn x.2.2.2.2.1.length + mn x.2.2.2.2.2.length) x.2.2.2.2.1) r else a
theorem mn_le (n : Nat) : mn n ≤ 4001 := by unfold mn; split <;> omega
theorem mn_ok {n : Nat} (h : mn n ≤ 4000) : n ≤ 4000 := by unfold mn at h; split at h <;> omega
theorem hvK_le : ∀ (r : List (List UInt8)) (a : Nat), a ≤ hvK a r ∧ hvK a r ≤ max a 8001
  | [], a => by rw [hvK]; omega
  | q :: r, a => by
    rw [hvK]
    have h0 := mn_le q.length
    split
    · have := hvK_le r (a + mn q.length)
      omega
    · omega
theorem hvK_ok : ∀ (r : List (List UInt8)) (a : Nat), hvK a r ≤ 4000 → ∀ q ∈ r, q.length ≤ 4000
  | [], a, _, q, hq => by cases hq
  | x :: r, a, h, q, hq => by
    have ha := (hvK_le (x :: r) a).1
    have ha : a ≤ 4000 := by omega
    rw [hvK, if_pos ha] at h
    have hb := (hvK_le r (a + mn x.length)).1
    rcases List.mem_cons.1 hq with rfl | hq
    · exact mn_ok (by omega)
    · exact hvK_ok r _ h q hq
theorem hvN_le : ∀ (r : List Nd) (a : Nat), a ≤ hvN a r
  | [], a => by rw [hvN]; omega
  | x :: r, a => by
    rw [hvN]
    split
    · have h1 := hvN_le r (hvK (a + mn x.2.2.1.length + mn x.2.2.2.2.1.length + mn x.2.2.2.2.2.length) x.2.2.2.2.1)
      have h2 := (hvK_le x.2.2.2.2.1 (a + mn x.2.2.1.length + mn x.2.2.2.2.1.length + mn x.2.2.2.2.2.length)).1
      omega
    · omega
theorem hvN_ok : ∀ (r : List Nd) (a : Nat), hvN a r ≤ 4000 → a ≤ 4000 ∧ ∀ x ∈ r, okD x
  | [], a, h => ⟨by rw [hvN] at h; exact h, fun x hx => by cases hx⟩
  | y :: r, a, h => by
    have ha := hvN_le (y :: r) a
    have ha : a ≤ 4000 := by omega
    rw [hvN, if_pos ha] at h
    obtain ⟨h1, h2⟩ := hvN_ok r _ h
    have h3 := (hvK_le y.2.2.2.2.1 (a + mn y.2.2.1.length + mn y.2.2.2.2.1.length + mn y.2.2.2.2.2.length)).1
    refine ⟨by omega, fun x hx => ?_⟩
    rcases List.mem_cons.1 hx with rfl | hx
    · exact ⟨mn_ok (by omega), mn_ok (by omega), mn_ok (by omega), hvK_ok _ _ h1⟩
    · exact h2 x hx
theorem wq18o (k : Nat) {R : Type} (J : List Nd → Int → Int → Option R) (K : Bool → Option R) (nd : List Nd) (i : Nat) (hi : i ≤ 140737488351232) (s3 s4 : Int) (s5 : List UInt8) (s6 : Bool) (keys : List (List UInt8)) (hk : keys.length ≤ 140737488351232) (s8 : List Int) :
    ∀ (p : List (List UInt8)) (j m a : Nat), keys.drop j = p → p.length < m → j ≤ keys.length → a ≤ 100000 → wq3s k J m nd (a : Int) (i : Int) s3 s4 s5 s6 keys s8 (j : Int) K = J nd (hvK a p : Int) ((i + 1 : Nat) : Int)
  | p, j, 0, a, _, h, _, _ => by omega
  | [], j, m + 1, a, hp, h, hj, ha => by
    have h1 := wq2k hp
    rw [wq3s, wq9e]
    simp (disch := omega) only [dec_t, dec_f, ieq_t, ieq_f, ine_t, ine_f, inb_t, bnd_t, wqj, wqa, cond_true, cond_false, Bool.not_true, Bool.not_false, Bool.true_or, Bool.or_true, Bool.false_or, Bool.or_false, Bool.true_and, Bool.and_true, Bool.false_and, Bool.and_false, wq2, wq0, wq5, wq1w]
    rw [hvK]
  | q :: p, j, m + 1, a, hp, h, hj, ha => by
    obtain ⟨h1, h2, h3⟩ := wqv hp
    rw [wq3s, wq9e, hvK]
    by_cases hc : a ≤ 4000
    · have h0 := mn_le q.length
      rw [if_pos hc]
      simp (disch := omega) only [dec_t, dec_f, ieq_t, ieq_f, ine_t, ine_f, inb_t, bnd_t, wqj, wqa, cond_true, cond_false, Bool.not_true, Bool.not_false, Bool.true_or, Bool.or_true, Bool.false_or, Bool.or_false, Bool.true_and, Bool.and_true, Bool.false_and, Bool.and_false, wq2, wq0, wq5, h2, wq1w, mn_eq, wqr5]
      exact wq18o k J K nd i hi s3 s4 s5 s6 keys hk s8 p (j + 1) m (a + mn q.length) h3 (by simp at h; omega) (by omega) (by omega)
    · rw [if_neg hc]
      simp (disch := omega) only [dec_t, dec_f, ieq_t, ieq_f, ine_t, ine_f, inb_t, bnd_t, wqj, wqa, cond_true, cond_false, Bool.not_true, Bool.not_false, Bool.true_or, Bool.or_true, Bool.false_or, Bool.or_false, Bool.true_and, Bool.and_true, Bool.false_and, Bool.and_false, wq2, wq0, wq5, wq1w]
theorem wq18p (k : Nat) {R : Type} (K : Bool → Option R) (nd : List Nd) (hn : nd.length ≤ 140737488351232) (ho : ∀ x ∈ nd, x.2.2.2.2.1.length ≤ 140737488351232 ∧ x.2.2.2.2.1.length < k) :
    ∀ (p : List Nd) (i m a : Nat), nd.drop i = p → p.length < m → i ≤ nd.length → a ≤ 140737488351232 → wq3t k m nd (a : Int) (i : Int) K = K (decide (hvN a p > 4000))
  | p, i, 0, a, _, h, _, _ => by omega
  | [], i, m + 1, a, hp, h, hi, ha => by
    have h1 := wq2k hp
    rw [wq3t, wq9d, hvN]
    simp (disch := omega) only [dec_t, dec_f, ieq_t, ieq_f, ine_t, ine_f, inb_t, bnd_t, wqj, wqa, cond_true, cond_false, Bool.not_true, Bool.not_false, Bool.true_or, Bool.or_true, Bool.false_or, Bool.or_false, Bool.true_and, Bool.and_true, Bool.false_and, Bool.and_false, wq2, wq0, wq5]
    congr 1
    rw [Bool.eq_iff_iff]; simp; omega
  | x :: p, i, m + 1, a, hp, h, hi, ha => by
    obtain ⟨h1, h2, h3⟩ := wqv hp
    obtain ⟨o1, o2⟩ := ho x (List.mem_of_mem_drop (by rw [hp]; simp))
    rw [wq3t, wq9d, hvN]
    by_cases hc : a ≤ 4000
    · have m1 := mn_le x.2.2.1.length
      have m2 := mn_le x.2.2.2.2.1.length
      have m3 := mn_le x.2.2.2.2.2.length
      have m4 := hvK_le x.2.2.2.2.1 (a + mn x.2.2.1.length + mn x.2.2.2.2.1.length + mn x.2.2.2.2.2.length)
      rw [if_pos hc]
      simp (disch := omega) only [dec_t, dec_f, ieq_t, ieq_f, ine_t, ine_f, inb_t, bnd_t, wqj, wqa, cond_true, cond_false, Bool.not_true, Bool.not_false, Bool.true_or, Bool.or_true, Bool.false_or, Bool.or_false, Bool.true_and, Bool.and_true, Bool.false_and, Bool.and_false, wq2, wq0, wq5, h2, wq1w, mn_eq, wqr5]
      refine Eq.trans (wq18o k _ K nd i (by omega) _ _ _ _ x.2.2.2.2.1 o1 _ x.2.2.2.2.1 0 k _ rfl o2 (by omega) (by omega)) ?_
      exact wq18p k K nd hn ho p (i + 1) m _ h3 (by simp at h; omega) (by omega) (by omega)
    · rw [if_neg hc]
      simp (disch := omega) only [dec_t, dec_f, ieq_t, ieq_f, ine_t, ine_f, inb_t, bnd_t, wqj, wqa, cond_true, cond_false, Bool.not_true, Bool.not_false, Bool.true_or, Bool.or_true, Bool.false_or, Bool.or_false, Bool.true_and, Bool.and_true, Bool.false_and, Bool.and_false, wq2, wq0, wq5]
theorem wq1hq (k : Nat) {R : Type} (K : Bool → Option R) (nd : List Nd) (hn : nd.length ≤ 140737488351232) (hk : nd.length < k) (ho : ∀ x ∈ nd, x.2.2.2.2.1.length ≤ 140737488351232 ∧ x.2.2.2.2.1.length < k) : wqi8 k nd K = K (decide (hvN nd.length nd > 4000)) := by
  unfold wqi8 wqi7
  exact wq18p k K nd hn ho nd 0 k nd.length rfl hk (by omega) hn
def bigK : List Nd → Nat
  | [] => 0
  | x :: r => x.2.2.2.2.1.length + bigK r
theorem wq1g3 : ∀ {r : List Nd} {x : Nd}, x ∈ r → x.2.2.2.2.1.length ≤ bigK r
  | y :: r, x, h => by
    rw [bigK]
    rcases List.mem_cons.1 h with rfl | h
    · omega
    · have := wq1g3 h; omega
theorem nd_wf {nd : List Nd} (h : Wf (.sl kNd) nd) : nd.length ≤ 140737488351232 ∧ ∀ x ∈ nd, x.2.2.2.2.1.length ≤ 140737488351232 := by
  obtain ⟨h1, h2⟩ := h
  have e1 : kNd.lob = 81 := rfl
  have e2 : Kd.lob .str = 16 := rfl
  rw [e1] at h1
  refine ⟨by omega, fun x hx => ?_⟩
  obtain ⟨_, _, _, _, h3, _⟩ := h2 x hx
  have h4 := h3.1
  rw [e2] at h4
  have h5 : x.2.2.2.2.1.length * 16 ≤ 140737488351232 := h4
  omega
def dA : List Nd := [(3, 0, [], false, [[97]], [1]), (2, 0, [], false, [], [2, 3]), (1, 0, [98], false, [], []), (1, 0, [99], true, [], [])]
theorem wq18q (k : Nat) {R : Type} (hk : 5100 < k) (K : Bool → Option R) : wqaz k K = K true := by
  have oA : ∀ x ∈ dA, okD x := by
    intro x hx
    simp only [dA, List.mem_cons, List.not_mem_nil, or_false] at hx
    rcases hx with rfl | rfl | rfl | rfl <;> exact ⟨by decide, by decide, by decide, by decide⟩
  have o0 : ∀ x ∈ ([] : List Nd), okD x := fun x hx => by cases hx
  have c1 : checkS dA = true := by decide +kernel
  have c2 : textS 24 dA 0 0 = [97, 58, 10, 32, 32, 45, 32, 98, 10, 32, 32, 45, 32, 34, 99, 34, 10] := by decide +kernel
  have c3 : checkS [] = false := rfl
  unfold wqaz wqn1
  have eA : ([(3, 0, [], false, [[97]], [1]), (2, 0, [], false, [], [2, 3]), (1, 0, [98], false, [], []), (1, 0, [99], true, [], [])] : List Nd) = dA := rfl
  rw [eA, wqr8 k dA (by decide) oA hk, outT, c1, c2, cond_true]
  have c4 : decide (([97, 58, 10, 32, 32, 45, 32, 98, 10, 32, 32, 45, 32, 34, 99, 34, 10] : List UInt8).length > 60000) = false := by decide
  rw [c4, cond_false, wqr8 k [] (by decide) o0 hk, outT, c3, cond_false, wqve k dA (by decide) oA hk, c1, wqbq, wq10n k dA dA (by decide) oA (by omega), wq10n k dA [] (by decide) oA (by omega)]
  rfl
theorem wq18r (s : List UInt8) (q : Bool) : ∃ k, wqab k s q (fun b => some b) = some true := by
  obtain ⟨k, hk⟩ : ∃ k : Nat, k = 6000 := ⟨_, rfl⟩
  refine ⟨k, ?_⟩
  unfold wqab wqfk
  by_cases h : s.length > 300
  · rw [dec_t (show (s.length : Int) > 300 by omega), cond_true, wq18q k (by omega)]
  rw [dec_f (show ¬ (s.length : Int) > 300 by omega), cond_false]
  have n1 : ([(1, 0, s, q, [], [])] : List Nd).length ≤ 4000 := by simp
  have o1 : ∀ x ∈ ([(1, 0, s, q, [], [])] : List Nd), okD x := by
    intro x hx
    simp only [List.mem_cons, List.not_mem_nil, or_false] at hx
    subst hx
    exact ⟨by show s.length ≤ 4000; omega, by simp, by simp, by simp⟩
  rw [wqr8 k _ n1 o1 (by omega)]
  have hcq : q = true → checkS [(1, 0, s, q, [], [])] = decide (s.length ≤ 200) := by
    intro e
    subst e
    have hf : fitN (1, 0, s, true, [], []) = decide (s.length ≤ 200) := by
      show ((true && (true && (decide (s.length ≤ 200) && true)))) = _
      simp
    have hw : walkS 24 [(1, 0, s, true, [], [])] 0 = bif decide (s.length ≤ 200) then some 1 else none := by
      rw [walkS]
      show (bif fitN (1, 0, s, true, [], []) then kidsW (walkS 23 [(1, 0, s, true, [], [])]) [] (0 + 1) else none) = _
      rw [hf]; rfl
    unfold checkS
    rw [hw]
    cases decide (s.length ≤ 200) <;> rfl
  have hlen : checkS [(1, 0, s, q, [], [])] = true → (textS 24 [(1, 0, s, q, [], [])] 0 0).length ≤ 60000 := by
    intro hc
    obtain ⟨_, h2⟩ := wq15z hc
    have := (wq10f 24 _ 0 _ 0 h2 (by omega)).2
    have e : ([(1, 0, s, q, [], [])] : List Nd).length = 1 := rfl
    omega
  have step : ∀ (b : List Int) (e : Int), ((fun y5 y6 => wqeh k [(1, 0, s, q, [], [])] fun y7 y8 => wqbo k y5 y7 fun y9 =>
      bif (bif bif y9 then y6 == y8 else false then bif !q then true else (y6 == 0) == decide ((s.length : Int) ≤ 200) else false) == true then wqaz k fun y10 => some y10 else some false) : List Int → Int → Option Bool) b e =
      outT (fun y7 y8 => bif (bif bif wq6q b == wq6q y7 then e == y8 else false then bif !q then true else (e == 0) == decide ((s.length : Int) ≤ 200) else false) then some true else some false) [(1, 0, s, q, [], [])] := by
    intro b e
    dsimp only
    rw [wq18k k _ n1 o1 (by omega)]
    unfold wqbo wqis
    simp only [wq18q k (show 5100 < k by omega), wq2]
  have el : decide ((s.length : Int) ≤ 200) = decide (s.length ≤ 200) := by rw [Bool.eq_iff_iff]; simp; omega
  unfold outT at step ⊢
  cases hc : checkS [(1, 0, s, q, [], [])] with
  | false =>
    rw [cond_false]
    refine Eq.trans (step _ _) ?_
    rw [hc, cond_false, el]
    cases q with
    | false => rfl
    | true => rw [← hcq rfl, hc]; rfl
  | true =>
    have := hlen hc
    rw [cond_true, dec_f (by omega), cond_false]
    refine Eq.trans (step _ _) ?_
    rw [hc, cond_true, dec_f (by omega), cond_false, el]
    cases q with
    | false => simp
    | true => rw [← hcq rfl, hc]; simp
theorem wq162 (x : (Kd.str).T) (q : (Kd.bool).T) (_ : Wf .str x) (_ : Wf .bool q) : ∃ k, wqab k x q (fun b => some b) = some true := wq18r x q
end Go.Proofs.YtdfhgimidmfgfaaDoor.Pvm
namespace Go.Proofs.YtdfhgimidmfgfaaDoor.showTexts
open Go Go.Proofs Go.ChangeShapes Go.WideShapes Go.ChangeAt Go.RowKit Go.Proofs.YtdfhgimidmfgfaaDoor.Pvm
theorem own : ownKnob Tryd.prog.godebug = none := by kernel_rfl
theorem laidOut : laidOutB Tryd.prog = true := by kernel_rfl
set_option maxRecDepth 100000 in
theorem lifted (os : Os) (started : os.Started) (H : Type) (enc : TypeId × Value → H) :
    ReturnsInHanded {} Tryd.checked os 4 .any (fun w args => (Rows.showTextsSpec.pre enc Tryd.prog Tryd.f4 Rows.showTextsRow.domain false w args ∧ laidMetH Tryd.prog Rows.showTextsRow.laid w) ∧ sizedMet enc Tryd.prog Tryd.f4 (OpenSpec.ofChange Rows.showTextsSpec) false w args) (Rows.showTextsSpec.post enc Tryd.prog Tryd.f4 false true false false) := by
  refine returnsInHanded_of_change_and (C := Tryd.checked) (X := fun w _ => laidMetH Tryd.prog Rows.showTextsRow.laid w) (fun _ _ _ hh h => h.of_heap hh) own started (by kernel_rfl) Tryd.func4
    (ChangeSpec.witness_shaped (enc := enc) (C := Tryd.checked) (os := os) (X := fun w _ => laidMetH Tryd.prog Rows.showTextsRow.laid w) false (World.laidAll Tryd.prog os Rows.showTextsRow.laid) #[.string ByteArray.empty, .bool false] 8 (World.laidAll_os _ _ _)
      (World.shaped_of_ZipB (by kernel_rfl) (by kernel_rfl)) (by kernel_rfl) (by kernel_rfl) (by kernel_rfl)
      (by rw [MakeChecks.laidMetH_plain _ _ _ (by kernel_rfl)]; exact laidMet_laidAll _ (by kernel_rfl) (by kernel_rfl))) ?_
  intro W base args ds gs before hval0 hW hcnd hsz0 hL _
  have hsz : (DataW.weightsEach Tryd.prog (Tryd.f4.params.toList ++ Rows.showTextsSpec.plain.varTypes Tryd.prog) (ds ++ gs)).all (· ≤ reachBytes) = true := hsz0
  have hval : ∀ (j : Nat) t v, Tryd.f4.params[j]? = some t → args[j]? = some v → Value.okWide Tryd.prog W .any base t v := hval0
  have hW' := hW
  obtain ⟨p, q, hA0, hV, rfl, hfz, hnd⟩ := hW
  have hA : DataW.TrodAll enc Tryd.prog W 0 (fun _ => true) true Tryd.f4.params.toList args.toList ds p := hA0
  rw [Tryd.params4] at hA hval hsz
  obtain ⟨v0, vs0, d0, ds0, p0, q0, hargs, rfl, rfl, h0, r0⟩ := trodAll_cons hA
  obtain ⟨v1, vs1, d1, ds1, p1, q1, rfl, rfl, rfl, h1, r1⟩ := trodAll_cons r0
  obtain ⟨rfl, rfl, rfl⟩ := trodAll_nil r1
  obtain rfl : args = #[v0, v1] := by cases args; simp_all
  obtain ⟨rfl, rfl⟩ := trodVars_none hV
  have hws := wq1dl (P := Tryd.prog) hsz
  have k0 := h0
  have lt0 : ∀ x ∈ p0, x.block < W.heap.size := by obtain ⟨m, hm⟩ := k0; exact DataW.trod_lt m _ _ _ hm
  obtain ⟨x0, wf0, rv0⟩ := wq1dk tyT_ok (n := 9) (K := .str) (by kernel_rfl) (by kernel_rfl) (hval 0 9 v0 rfl rfl) h0 (hws 0 9 d0 rfl rfl) (h := mkH []) (G := G0) (fun _ => rfl) (fun _ h => h)
  have k1 := h1
  have lt1 : ∀ x ∈ p1, x.block < W.heap.size := by obtain ⟨m, hm⟩ := k1; exact DataW.trod_lt m _ _ _ hm
  obtain ⟨x1, wf1, rv1⟩ := wq1dk tyT_ok (n := 9) (K := .bool) (by kernel_rfl) (by kernel_rfl) (hval 1 4 v1 rfl rfl) h1 (hws 1 4 d1 rfl rfl) (h := mkH []) (G := G0) (fun _ => rfl) (fun _ h => h)
  obtain ⟨k, hk⟩ := wq162 x0 x1 wf0 wf1
  have hrun : wqdf k [.v .str x0, .v .bool x1] [] lawK = some true := hk
  refine (wq1ep (fn := Tryd.f4) (c := Tryd.f4.body.getD .skip) (by kernel_rfl) (by kernel_rfl) (by kernel_rfl) (wqwc k hrun) (vals := [v0, v1]) ⟨v0, _, rfl, rv0, ⟨v1, _, rfl, rv1, rfl⟩⟩).mono fun e W' ⟨he, bel⟩ => ?_
  subst he
  exact ⟨_, rfl, _, _, _, [], _, [], hW', trodAll_mk1 (shut_bool Tryd.underlying4 _), (trodAll_cons_mk (Below.trod laidOut (by kernel_rfl) (of_decide_eq_true (by kernel_rfl)) k0 bel lt0) (trodAll_cons_mk (Below.trod laidOut (by kernel_rfl) (of_decide_eq_true (by kernel_rfl)) k1 bel lt1) trodAll_mk0)), rfl, bel.frame _, fun h => by cases h⟩
theorem over : Rows.showTextsRow.holds Tryd.pinned (OpenSpec.ofChange Rows.showTextsSpec) :=
  OpenClaim.holds_of_wide 4 Tryd.f4 rfl rfl rfl rfl rfl rfl rfl ⟨rfl, rfl, rfl, rfl, rfl⟩ rfl rfl rfl rfl rfl (by kernel_rfl) Tryd.func4 (by kernel_rfl)
    (of_decide_eq_true (by kernel_rfl)) (by unfold Func.isWrapper; first | (rw [if_pos (by decide +kernel)]; kernel_rfl) | (rw [if_neg (by decide +kernel)]; exact ⟨rfl, rfl⟩))
    (fun os started H enc _ => lifted os started H enc)
theorem tied : Rows.ShowTextsCardSaid :=
  Claim7.holds_tied_plain_at .later [] [.data, .pinned] true (true, "8205f16f4cb494fd93310ea951d43cc2f0659288ab22cbd921631d0e5568cd24") true over (fun _ h => by cases h) (by kernel_rfl) (fun _ h => by cases h) showTexts_row_tie rfl ⟨rfl, rfl⟩ (by kernel_rfl) rfl
    (fun f fn hf hfn => by
      obtain rfl : f = 4 := Option.some.inj ((show Tryd.prog.funcNamed Rows.showTextsRow.func = some 4 by kernel_rfl).symm.trans hf) |>.symm
      obtain rfl : fn = Tryd.f4 := (Option.some.inj (Tryd.func4.symm.trans hfn)).symm
      exact ⟨by kernel_rfl, fun j t ht => by
        rw [Tryd.params4] at ht
        have hm : t ∈ [9, 4] := by simpa using Array.mem_of_getElem? ht
        have hall : ([9, 4].all fun u => !Tryd.prog.wantsStandIn u) = true := by kernel_rfl
        exact (show Tryd.prog.wantsStandIn t = false by simpa using List.all_eq_true.1 hall t hm)⟩)
    (by kernel_rfl)
#print axioms tied
end Go.Proofs.YtdfhgimidmfgfaaDoor.showTexts
namespace Go.Proofs.YtdfhgimidmfgfaaDoor
theorem showTexts_holds : Rows.ShowTextsCardSaid := showTexts.tied
end Go.Proofs.YtdfhgimidmfgfaaDoor
end
