/- For any bytes the law LineLines answers true: the lines that say something, or the first line that may not be and why, are as the document says; under no further condition. -/
import Derived.Test.YtdbnlohjjoigeaaDoorCards
import Derived.Test.YtdbnlohjjoigeaaDoorTie
import Derived.LaidMore
import Derived.Lay
import Derived.SevenTiedAt
import Derived.Stop.Joined
import Derived.Test.YtdbnlohjjoigeaaDoorRows
import Derived.Test.YtdbnlohjjoigeaaDoorLineLinesM0
import Derived.Test.YtdbnlohjjoigeaaDoorLineLinesM1
import Derived.Test.YtdbnlohjjoigeaaDoorLineLinesM2
set_option linter.unusedVariables false
set_option linter.unusedSimpArgs false
set_option linter.unusedSectionVars false
set_option linter.unusedVariables false
set_option linter.unusedSimpArgs false
namespace Go.Proofs.YtdbnlohjjoigeaaDoor.Pvm
open Go
/-- the place of a quoted text's last sign -/
def qS (c : UInt8) : List UInt8 → Nat → Option Nat
  | [], _ => none
  | [x], i => bif c == 34 && x == 92 then none else bif !(x == c) then none else some i
  | x :: y :: r, i => bif c == 34 && x == 92 then qS c r (i + 2) else bif !(x == c) then qS c (y :: r) (i + 1) else bif c == 39 && y == c then qS c r (i + 2) else some i
def qK {R : Type} (K : Int → Bool → Option R) (d : Int) : Option Nat → Option R
  | some j => K (j + d) true
  | none => K 0 false
theorem beq34 (c : UInt8) : ((c.toNat : Int) == 34) = (c == 34) := u8_beq c 34 (by omega)
theorem beq39 (c : UInt8) : ((c.toNat : Int) == 39) = (c == 39) := u8_beq c 39 (by omega)
theorem beq92 (c : UInt8) : ((c.toNat : Int) == 92) = (c == 92) := u8_beq c 92 (by omega)
theorem beq35 (c : UInt8) : ((c.toNat : Int) == 35) = (c == 35) := u8_beq c 35 (by omega)
theorem beq32 (c : UInt8) : ((c.toNat : Int) == 32) = (c == 32) := u8_beq c 32 (by omega)
theorem bne32 (c : UInt8) : ((c.toNat : Int) != 32) = !(c == 32) := u8_bne c 32 (by omega)
theorem qS_bound (c : UInt8) : ∀ (r : List UInt8) (i j : Nat), qS c r i = some j → i ≤ j ∧ j < i + r.length
  | [], i, j, h => by cases h
  | [x], i, j, h => by
    unfold qS at h
    cases h1 : (c == 34 && x == 92) <;> rw [h1] at h <;> simp only [cond_true, cond_false] at h
    · cases h2 : (x == c) <;> rw [h2] at h <;> simp at h
      simp; omega
    · cases h
  | x :: y :: r, i, j, h => by
    unfold qS at h
    cases h1 : (c == 34 && x == 92) <;> rw [h1] at h <;> simp only [cond_true, cond_false] at h
    · cases h2 : (x == c) <;> rw [h2] at h <;> simp only [Bool.not_true, Bool.not_false, cond_true, cond_false] at h
      · have := qS_bound c (y :: r) _ _ h
        simp at this ⊢; omega
      · cases h3 : (c == 39 && y == c) <;> rw [h3] at h <;> simp only [cond_true, cond_false] at h
        · cases h; simp
        · have := qS_bound c r _ _ h
          simp at this ⊢; omega
    · have := qS_bound c r _ _ h
      simp at this ⊢; omega
theorem line_quoted_loop (k : Nat) {R : Type} (s : List UInt8) (c : UInt8) (hs : s.length ≤ 1000000) (K : Int → Bool → Option R) : ∀ (n : Nat) (r : List UInt8) (i : Nat), s.drop i = r → i ≤ s.length + 1 → r.length < n →
    L_line_quoted_1003 k n s (c.toNat : Int) (i : Int) K = qK K 0 (qS c r i) := by
  intro n
  induction n with
  | zero => intro r i _ _ h; omega
  | succ n ih =>
    intro r i hr hi hn
    rw [L_line_quoted_1003]
    unfold B_line_quoted_1003
    match r, hr, hn with
    | [], hr, hn =>
      have := drop_nil hr
      simp (disch := omega) only [dec_t, dec_f, ieq_t, ieq_f, ine_t, ine_f, inb_t, bnd_t, wrap_id, wrap8_id, cond_true, cond_false, Bool.not_true, Bool.not_false, Bool.true_or, Bool.or_true, Bool.false_or, Bool.or_false, Bool.true_and, Bool.and_true, Bool.false_and, Bool.and_false, bool_eq_true', bool_eq_false', toNat_cast', qS, qK]
    | [x], hr, hn =>
      obtain ⟨h1, h2, h3⟩ := drop_cons' hr
      have h4 := drop_nil h3
      simp (disch := omega) only [dec_t, dec_f, ieq_t, ieq_f, ine_t, ine_f, inb_t, bnd_t, wrap_id, wrap8_id, cond_true, cond_false, Bool.not_true, Bool.not_false, Bool.true_or, Bool.or_true, Bool.false_or, Bool.or_false, Bool.true_and, Bool.and_true, Bool.false_and, Bool.and_false, bool_eq_true', bool_eq_false', toNat_cast', h2, beq34, beq92, beq39, u8_other]
      have e1 := ih [] (i + 1) h3 (by omega) (by simp at hn ⊢; omega)
      have e2 := ih [] (i + 2) (by rw [List.drop_eq_nil_of_le (by omega)]) (by omega) (by simp at hn ⊢; omega)
      have c1 : ((i : Int) + 1) = ((i + 1 : Nat) : Int) := by omega
      have c2 : ((i : Int) + 1 + 1) = ((i + 2 : Nat) : Int) := by omega
      rw [c2, c1, e1, e2]
      unfold qS
      have h5 : decide (((i + 1 : Nat) : Int) < (s.length : Int)) = false := dec_f (by omega)
      cases h6 : (c == 34) <;> cases h7 : (x == 92) <;> cases h8 : (x == c) <;> cases h9 : (c == 39) <;> simp [h5, qS, qK]
    | x :: y :: r, hr, hn =>
      obtain ⟨h1, h2, h3⟩ := drop_cons' hr
      obtain ⟨g1, g2, g3⟩ := drop_cons' h3
      simp (disch := omega) only [dec_t, dec_f, ieq_t, ieq_f, ine_t, ine_f, inb_t, bnd_t, wrap_id, wrap8_id, cond_true, cond_false, Bool.not_true, Bool.not_false, Bool.true_or, Bool.or_true, Bool.false_or, Bool.or_false, Bool.true_and, Bool.and_true, Bool.false_and, Bool.and_false, bool_eq_true', bool_eq_false', toNat_cast', h2, beq34, beq92, beq39, u8_other]
      have e1 := ih (y :: r) (i + 1) h3 (by omega) (by simp at hn ⊢; omega)
      have e2 := ih r (i + 2) g3 (by omega) (by simp at hn ⊢; omega)
      have c1 : ((i : Int) + 1) = ((i + 1 : Nat) : Int) := by omega
      have c2 : ((i : Int) + 1 + 1) = ((i + 2 : Nat) : Int) := by omega
      rw [c2, c1, e1, e2, toNat_cast', g2, u8_same]
      rw [qS]
      cases h6 : (c == 34) <;> cases h7 : (x == 92) <;> cases h8 : (x == c) <;> cases h9 : (c == 39) <;> cases h10 : (y == c) <;> simp [qK]
theorem ref10_quoted_loop (k : Nat) {R : Type} (s : List UInt8) (c : UInt8) (hs : s.length ≤ 1000000) (K : Int → Bool → Option R) : ∀ (n : Nat) (r : List UInt8) (i : Nat), s.drop i = r → i ≤ s.length + 1 → r.length < n →
    L_ref10_quoted_1003 k n s (c.toNat : Int) (i : Int) K = qK K 1 (qS c r i) := by
  intro n
  induction n with
  | zero => intro r i _ _ h; omega
  | succ n ih =>
    intro r i hr hi hn
    rw [L_ref10_quoted_1003]
    unfold B_ref10_quoted_1003
    match r, hr, hn with
    | [], hr, hn =>
      have := drop_nil hr
      simp (disch := omega) only [dec_t, dec_f, ieq_t, ieq_f, ine_t, ine_f, inb_t, bnd_t, wrap_id, wrap8_id, cond_true, cond_false, Bool.not_true, Bool.not_false, Bool.true_or, Bool.or_true, Bool.false_or, Bool.or_false, Bool.true_and, Bool.and_true, Bool.false_and, Bool.and_false, bool_eq_true', bool_eq_false', toNat_cast', qS, qK]
    | [x], hr, hn =>
      obtain ⟨h1, h2, h3⟩ := drop_cons' hr
      have h4 := drop_nil h3
      simp (disch := omega) only [dec_t, dec_f, ieq_t, ieq_f, ine_t, ine_f, inb_t, bnd_t, wrap_id, wrap8_id, cond_true, cond_false, Bool.not_true, Bool.not_false, Bool.true_or, Bool.or_true, Bool.false_or, Bool.or_false, Bool.true_and, Bool.and_true, Bool.false_and, Bool.and_false, bool_eq_true', bool_eq_false', toNat_cast', h2, beq34, beq92, beq39, u8_other]
      have e1 := ih [] (i + 1) h3 (by omega) (by simp at hn ⊢; omega)
      have e2 := ih [] (i + 2) (by rw [List.drop_eq_nil_of_le (by omega)]) (by omega) (by simp at hn ⊢; omega)
      have c1 : ((i : Int) + 1) = ((i + 1 : Nat) : Int) := by omega
      have c2 : ((i : Int) + 1 + 1) = ((i + 2 : Nat) : Int) := by omega
      rw [c2, c1, e1, e2]
      unfold qS
      have h5 : decide (((i + 1 : Nat) : Int) < (s.length : Int)) = false := dec_f (by omega)
      cases h6 : (c == 34) <;> cases h7 : (x == 92) <;> cases h8 : (x == c) <;> cases h9 : (c == 39) <;> simp [h5, qS, qK]
    | x :: y :: r, hr, hn =>
      obtain ⟨h1, h2, h3⟩ := drop_cons' hr
      obtain ⟨g1, g2, g3⟩ := drop_cons' h3
      simp (disch := omega) only [dec_t, dec_f, ieq_t, ieq_f, ine_t, ine_f, inb_t, bnd_t, wrap_id, wrap8_id, cond_true, cond_false, Bool.not_true, Bool.not_false, Bool.true_or, Bool.or_true, Bool.false_or, Bool.or_false, Bool.true_and, Bool.and_true, Bool.false_and, Bool.and_false, bool_eq_true', bool_eq_false', toNat_cast', h2, beq34, beq92, beq39, u8_other]
      have e1 := ih (y :: r) (i + 1) h3 (by omega) (by simp at hn ⊢; omega)
      have e2 := ih r (i + 2) g3 (by omega) (by simp at hn ⊢; omega)
      have c1 : ((i : Int) + 1) = ((i + 1 : Nat) : Int) := by omega
      have c2 : ((i : Int) + 1 + 1) = ((i + 2 : Nat) : Int) := by omega
      rw [c2, c1, e1, e2, toNat_cast', g2]
      rw [qS]
      cases h9 : (c == 39) with
      | false => cases h6 : (c == 34) <;> cases h7 : (x == 92) <;> cases h8 : (x == c) <;> simp [qK]
      | true =>
        have := beq_iff_eq.1 h9
        subst this
        cases h7 : (x == 92) <;> cases h8 : (x == 39) <;> cases h10 : (y == 39) <;> simp [qK]
/-- a quoted text's last sign, from where it begins -/
def qAt (s : List UInt8) (i : Nat) : Option Nat := qS (s.getD i 0) (s.drop (i + 1)) (i + 1)
theorem line_quoted_eq (k : Nat) {R : Type} (s : List UInt8) (i : Nat) (hs : s.length ≤ 1000000) (hi : i < s.length) (hk : s.length < k) (K : Int → Bool → Option R) : F_line_quoted k s i K = qK K 0 (qAt s i) := by
  unfold F_line_quoted A_line_quoted
  simp (disch := omega) only [dec_t, dec_f, ieq_t, ieq_f, ine_t, ine_f, inb_t, bnd_t, wrap_id, wrap8_id, cond_true, cond_false, Bool.not_true, Bool.not_false, Bool.true_or, Bool.or_true, Bool.false_or, Bool.or_false, Bool.true_and, Bool.and_true, Bool.false_and, Bool.and_false, bool_eq_true', bool_eq_false', toNat_cast']
  rw [cast_succ, line_quoted_loop k s _ hs K k _ (i + 1) rfl (by omega) (by rw [List.length_drop]; omega)]
  rfl
theorem ref10_quoted_eq (k : Nat) {R : Type} (s : List UInt8) (i : Nat) (hs : s.length ≤ 1000000) (hi : i < s.length) (hk : s.length < k) (K : Int → Bool → Option R) : F_ref10_quoted k s i K = qK K 1 (qAt s i) := by
  unfold F_ref10_quoted A_ref10_quoted
  simp (disch := omega) only [dec_t, dec_f, ieq_t, ieq_f, ine_t, ine_f, inb_t, bnd_t, wrap_id, wrap8_id, cond_true, cond_false, Bool.not_true, Bool.not_false, Bool.true_or, Bool.or_true, Bool.false_or, Bool.or_false, Bool.true_and, Bool.and_true, Bool.false_and, Bool.and_false, bool_eq_true', bool_eq_false', toNat_cast']
  rw [cast_succ, ref10_quoted_loop k s _ hs K k _ (i + 1) rfl (by omega) (by rw [List.length_drop]; omega)]
  rfl
theorem qAt_bound {s : List UInt8} {i j : Nat} (h : qAt s i = some j) : i < j ∧ j < s.length := by
  have := qS_bound _ _ _ _ h
  rw [List.length_drop] at this
  omega
end Go.Proofs.YtdbnlohjjoigeaaDoor.Pvm

set_option linter.unusedVariables false
set_option linter.unusedSimpArgs false
namespace Go.Proofs.YtdbnlohjjoigeaaDoor.Pvm
open Go
/-- without the blanks at the end -/
def rt (l : List UInt8) : List UInt8 := (l.reverse.dropWhile (· == 32)).reverse
theorem rt_nil : rt [] = [] := rfl
theorem rt_cat (l : List UInt8) (x : UInt8) : rt (l ++ [x]) = bif x == 32 then rt l else l ++ [x] := by
  unfold rt
  rw [List.reverse_append, List.reverse_singleton, List.singleton_append, List.dropWhile_cons]
  cases x == 32 <;> simp
theorem getD_last (l : List UInt8) (x d : UInt8) : (l ++ [x]).getD l.length d = x := by simp [List.getD]
theorem trimR_loop (k : Nat) {R : Type} (K : List UInt8 → Option R) : ∀ (n : Nat) (l : List UInt8), l.length ≤ 1000000 → l.length < n → L_strings_trimRightByte_1001 k n l 32 K = K (rt l) := by
  intro n
  induction n with
  | zero => intro l _ h; omega
  | succ n ih =>
    intro l hl hn
    rw [L_strings_trimRightByte_1001]
    unfold B_strings_trimRightByte_1001
    rcases List.eq_nil_or_concat l with rfl | ⟨l', x, rfl⟩
    · simp [rt_nil]
    · rw [List.concat_eq_append] at *
      have hlen : (l' ++ [x]).length = l'.length + 1 := by simp
      rw [hlen] at hl hn
      simp (disch := omega) only [dec_t, dec_f, ieq_t, ieq_f, ine_t, ine_f, inb_t, bnd_t, wrap_id, wrap8_id, cond_true, cond_false, Bool.not_true, Bool.not_false, Bool.true_or, Bool.or_true, Bool.false_or, Bool.or_false, Bool.true_and, Bool.and_true, Bool.false_and, Bool.and_false, bool_eq_true', bool_eq_false', toNat_cast', hlen]
      have e1 : (((l'.length + 1 : Nat) : Int) - 1) = (l'.length : Int) := by omega
      simp (disch := omega) only [dec_t, dec_f, ieq_t, ieq_f, ine_t, ine_f, inb_t, bnd_t, wrap_id, wrap8_id, cond_true, cond_false, Bool.not_true, Bool.not_false, Bool.true_or, Bool.or_true, Bool.false_or, Bool.or_false, Bool.true_and, Bool.and_true, Bool.false_and, Bool.and_false, bool_eq_true', bool_eq_false', toNat_cast', e1, getD_last, beq32]
      rw [cut_start, List.take_left' rfl, ih l' (by omega) (by omega), rt_cat]
      cases x == 32 <;> rfl
theorem trimR_eq (k : Nat) {R : Type} (l : List UInt8) (hl : l.length ≤ 1000000) (hk : l.length < k) (K : List UInt8 → Option R) : F_strings_TrimRight k l 32 K = K (rt l) := by
  unfold F_strings_TrimRight A_strings_TrimRight F_strings_trimRightByte A_strings_trimRightByte
  cases l with
  | nil => rfl
  | cons x r =>
    have e2 : (((([32] : List UInt8).getD (Int.toNat 0) 0).toNat : Nat) : Int) = 32 := rfl
    simp only [e2, show ((x :: r) == ([] : List UInt8)) = false from rfl, show (([32] : List UInt8) == []) = false from rfl, show ((([32] : List UInt8).length : Int) == 1) = true from rfl, show decide ((32 : Int) < 128) = true from rfl, cond_false, cond_true]
    exact trimR_loop k K k _ hl hk
def fresh (s : List UInt8) (i : Nat) : Bool := i == 0 || s.getD (i - 1) 0 == 32
/-- where a line's remark begins, or where it ends; none: a quote does not end -/
def stS (s : List UInt8) : Nat → Nat → Option Nat
  | 0, _ => some s.length
  | n + 1, i => bif Nat.ble s.length i then some s.length else
    bif !fresh s i then stS s n (i + 1) else
    bif s.getD i 0 == 35 then some i else
    bif s.getD i 0 == 39 || s.getD i 0 == 34 then (match qAt s i with
      | some j => stS s n (j + 1)
      | none => none) else stS s n (i + 1)
def stK {R : Type} (s : List UInt8) (K : List UInt8 → Bool → Option R) : Option Nat → Option R
  | some e => K (rt (s.take e)) true
  | none => K [] false
theorem ble_f {a b : Nat} (h : b < a) : Nat.ble a b = false := by
  cases hb : Nat.ble a b with
  | false => rfl
  | true => have := Nat.le_of_ble_eq_true hb; omega
theorem ble_t {a b : Nat} (h : a ≤ b) : Nat.ble a b = true := Nat.ble_eq_true_of_le h
theorem line_Strip_loop (k : Nat) {R : Type} (s : List UInt8) (hs : s.length ≤ 1000000) (hk : s.length < k) (K : List UInt8 → Bool → Option R) : ∀ (n i : Nat), i ≤ s.length → s.length < i + n →
    L_line_Strip_1003 k n s (s.length : Int) (i : Int) K = stK s K (stS s n i) := by
  intro n
  induction n with
  | zero => intro i _ h; omega
  | succ n ih =>
    intro i hi hn
    rw [L_line_Strip_1003]
    unfold B_line_Strip_1003
    by_cases h : i < s.length
    · have hb := ble_f h
      rw [stS, hb, cond_false]
      have st1 := ih (i + 1) (by omega) (by omega)
      have c1 : ((i : Int) + 1) = ((i + 1 : Nat) : Int) := by omega
      have hg : bnd 0 (i : Int) (s.length : Int) = true := bnd_t (by omega) (by omega) (by omega)
      have hcut : (cut s 0 (i : Int)).length ≤ 1000000 ∧ (cut s 0 (i : Int)).length < k := by rw [cut_start, List.length_take]; omega
      have tail : (bif (s.getD i 0 : UInt8) == 35 then K (rt (s.take i)) true else bif (s.getD i 0 : UInt8) == 39 then qK (fun y7 y8 => bif !y8 then K [] false else L_line_Strip_1003 k n s (s.length : Int) (IntKind.i64.wrap (y7 + 1)) K) 0 (qAt s i) else bif (s.getD i 0 : UInt8) == 34 then qK (fun y7 y8 => bif !y8 then K [] false else L_line_Strip_1003 k n s (s.length : Int) (IntKind.i64.wrap (y7 + 1)) K) 0 (qAt s i) else L_line_Strip_1003 k n s (s.length : Int) ((i + 1 : Nat) : Int) K) =
          stK s K (bif s.getD i 0 == 35 then some i else bif s.getD i 0 == 39 || s.getD i 0 == 34 then (match qAt s i with | some j => stS s n (j + 1) | none => none) else stS s n (i + 1)) := by
        have hq : qK (fun y7 y8 => bif !y8 then K [] false else L_line_Strip_1003 k n s (s.length : Int) (IntKind.i64.wrap (y7 + 1)) K) 0 (qAt s i) = stK s K (match qAt s i with | some j => stS s n (j + 1) | none => none) := by
          cases hqa : qAt s i with
          | none => rfl
          | some j =>
            have hj := qAt_bound hqa
            simp only [qK, Bool.not_true, cond_false]
            have e : IntKind.i64.wrap ((j : Int) + 0 + 1) = ((j + 1 : Nat) : Int) := by rw [wrap_id (by omega) (by omega)]; omega
            rw [e, ih (j + 1) (by omega) (by omega)]
        rw [hq, st1]
        cases (s.getD i 0 == 35) <;> cases (s.getD i 0 == 39) <;> cases (s.getD i 0 == 34) <;> rfl
      by_cases h0 : i = 0
      · subst h0
        have hf : fresh s 0 = true := rfl
        rw [hf]
        simp (disch := omega) only [dec_t, dec_f, ieq_t, ieq_f, ine_t, ine_f, inb_t, bnd_t, wrap_id, wrap8_id, cond_true, cond_false, Bool.not_true, Bool.not_false, Bool.true_or, Bool.or_true, Bool.false_or, Bool.or_false, Bool.true_and, Bool.and_true, Bool.false_and, Bool.and_false, bool_eq_true', bool_eq_false', toNat_cast', beq35, beq39, beq34]
        rw [trimR_eq k _ hcut.1 hcut.2, cut_start, line_quoted_eq k s 0 hs h hk]
        rw [← tail]
        rfl
      · have e0 : ((i : Int) - 1) = ((i - 1 : Nat) : Int) := by omega
        have hf : fresh s i = (s.getD (i - 1) 0 == 32) := by
          have : (i == 0) = false := by simpa using h0
          simp [fresh, this]
        rw [hf]
        simp (disch := omega) only [dec_t, dec_f, ieq_t, ieq_f, ine_t, ine_f, inb_t, bnd_t, wrap_id, wrap8_id, cond_true, cond_false, Bool.not_true, Bool.not_false, Bool.true_or, Bool.or_true, Bool.false_or, Bool.or_false, Bool.true_and, Bool.and_true, Bool.false_and, Bool.and_false, bool_eq_true', bool_eq_false', toNat_cast', e0, beq35, beq39, beq34, bne32]
        rw [trimR_eq k _ hcut.1 hcut.2, cut_start, line_quoted_eq k s i hs h hk, c1]
        cases hx : (s.getD (i - 1) 0 == 32) with
        | false => rw [Bool.not_false, cond_true, cond_true]; exact st1
        | true =>
          rw [Bool.not_true, cond_false, cond_false, ← tail]
    · have hi' : i = s.length := by omega
      subst hi'
      have hcut : (cut s 0 (s.length : Int)).length ≤ 1000000 ∧ (cut s 0 (s.length : Int)).length < k := by rw [cut_start, List.length_take]; omega
      rw [stS, ble_t (Nat.le_refl _), cond_true]
      simp (disch := omega) only [dec_t, dec_f, ieq_t, ieq_f, ine_t, ine_f, inb_t, bnd_t, wrap_id, wrap8_id, cond_true, cond_false, Bool.not_true, Bool.not_false, Bool.true_or, Bool.or_true, Bool.false_or, Bool.or_false, Bool.true_and, Bool.and_true, Bool.false_and, Bool.and_false, bool_eq_true', bool_eq_false', toNat_cast']
      rw [trimR_eq k _ hcut.1 hcut.2, cut_start]
      rfl
theorem line_Strip_eq (k : Nat) {R : Type} (s : List UInt8) (hs : s.length ≤ 1000000) (hk : s.length < k) (K : List UInt8 → Bool → Option R) : F_line_Strip k s K = stK s K (stS s k 0) := by
  unfold F_line_Strip A_line_Strip
  exact line_Strip_loop k s hs hk K k 0 (by omega) (by omega)
end Go.Proofs.YtdbnlohjjoigeaaDoor.Pvm

set_option linter.unusedVariables false
set_option linter.unusedSimpArgs false
namespace Go.Proofs.YtdbnlohjjoigeaaDoor.Pvm
open Go
theorem take_succ_get {s : List UInt8} {e : Nat} (h : e < s.length) : s.take (e + 1) = s.take e ++ [s.getD e 0] := by
  rw [List.take_add_one, List.getElem?_eq_getElem h]
  simp [List.getD, h]
theorem ref10_Strip_end (k : Nat) {R : Type} (s : List UInt8) (hs : s.length ≤ 1000000) (K : List UInt8 → Bool → Option R) : ∀ (n e : Nat), e ≤ s.length → e < n →
    L_ref10_Strip_1013 k n s (e : Int) K = K (rt (s.take e)) true := by
  intro n
  induction n with
  | zero => intro e _ h; omega
  | succ n ih =>
    intro e he hn
    rw [L_ref10_Strip_1013]
    unfold B_ref10_Strip_1013
    cases e with
    | zero =>
      simp (disch := omega) only [dec_t, dec_f, ieq_t, ieq_f, ine_t, ine_f, inb_t, bnd_t, wrap_id, wrap8_id, cond_true, cond_false, Bool.not_true, Bool.not_false, Bool.true_or, Bool.or_true, Bool.false_or, Bool.or_false, Bool.true_and, Bool.and_true, Bool.false_and, Bool.and_false, bool_eq_true', bool_eq_false', toNat_cast']
      rfl
    | succ e =>
      have e1 : (((e + 1 : Nat) : Int) - 1) = (e : Int) := by omega
      simp (disch := omega) only [dec_t, dec_f, ieq_t, ieq_f, ine_t, ine_f, inb_t, bnd_t, wrap_id, wrap8_id, cond_true, cond_false, Bool.not_true, Bool.not_false, Bool.true_or, Bool.or_true, Bool.false_or, Bool.or_false, Bool.true_and, Bool.and_true, Bool.false_and, Bool.and_false, bool_eq_true', bool_eq_false', toNat_cast', e1, beq32]
      rw [cut_start, take_succ_get (by omega), rt_cat, ih e (by omega) (by omega)]
      cases (s.getD e 0 == 32) <;> rfl
theorem ref10_Strip_loop (k : Nat) {R : Type} (s : List UInt8) (hs : s.length ≤ 1000000) (hk : s.length < k) (K : List UInt8 → Bool → Option R) : ∀ (n i : Nat), i ≤ s.length → s.length < i + n →
    L_ref10_Strip_1003 k n s (s.length : Int) (i : Int) K = stK s K (stS s n i) := by
  intro n
  induction n with
  | zero => intro i _ h; omega
  | succ n ih =>
    intro i hi hn
    rw [L_ref10_Strip_1003]
    unfold B_ref10_Strip_1003
    by_cases h : i < s.length
    · have hb := ble_f h
      rw [stS, hb, cond_false]
      have st1 := ih (i + 1) (by omega) (by omega)
      have c1 : ((i : Int) + 1) = ((i + 1 : Nat) : Int) := by omega
      have hfr : (bif (i : Int) == 0 then true else ((s.getD (IntKind.i64.wrap ((i : Int) - 1)).toNat 0).toNat : Int) == 32) = fresh s i := by
        by_cases h0 : i = 0
        · subst h0; rfl
        · have e0 : ((i : Int) - 1) = ((i - 1 : Nat) : Int) := by omega
          have e2 : (i == 0) = false := by simpa using h0
          simp (disch := omega) only [dec_t, dec_f, ieq_t, ieq_f, ine_t, ine_f, inb_t, bnd_t, wrap_id, wrap8_id, cond_true, cond_false, Bool.not_true, Bool.not_false, Bool.true_or, Bool.or_true, Bool.false_or, Bool.or_false, Bool.true_and, Bool.and_true, Bool.false_and, Bool.and_false, bool_eq_true', bool_eq_false', toNat_cast', e0, beq32]
          rw [fresh, e2, Bool.false_or]
      have hin : (!((i : Int) == 0) == false || inb (IntKind.i64.wrap ((i : Int) - 1)) (s.length : Int)) = true := by
        by_cases h0 : i = 0
        · subst h0; rfl
        · simp (disch := omega) only [dec_t, dec_f, ieq_t, ieq_f, ine_t, ine_f, inb_t, bnd_t, wrap_id, wrap8_id, cond_true, cond_false, Bool.not_true, Bool.not_false, Bool.true_or, Bool.or_true, Bool.false_or, Bool.or_false, Bool.true_and, Bool.and_true, Bool.false_and, Bool.and_false, bool_eq_true', bool_eq_false', toNat_cast']
      have hash : L_ref10_Strip_1003 k n s (i : Int) (i : Int) K = K (rt (s.take i)) true := by
        obtain ⟨m, rfl⟩ : ∃ m, n = m + 1 := ⟨n - 1, by omega⟩
        rw [L_ref10_Strip_1003]
        unfold B_ref10_Strip_1003
        simp (disch := omega) only [dec_t, dec_f, ieq_t, ieq_f, ine_t, ine_f, inb_t, bnd_t, wrap_id, wrap8_id, cond_true, cond_false, Bool.not_true, Bool.not_false, Bool.true_or, Bool.or_true, Bool.false_or, Bool.or_false, Bool.true_and, Bool.and_true, Bool.false_and, Bool.and_false, bool_eq_true', bool_eq_false', toNat_cast']
        exact ref10_Strip_end k s hs K k i (by omega) (by omega)
      rw [hfr, hin]
      simp (disch := omega) only [dec_t, dec_f, ieq_t, ieq_f, ine_t, ine_f, inb_t, bnd_t, wrap_id, wrap8_id, cond_true, cond_false, Bool.not_true, Bool.not_false, Bool.true_or, Bool.or_true, Bool.false_or, Bool.or_false, Bool.true_and, Bool.and_true, Bool.false_and, Bool.and_false, bool_eq_true', bool_eq_false', toNat_cast', beq35, beq39, beq34]
      rw [hash, ref10_quoted_eq k s i hs h hk, c1, st1]
      have hq : qK (fun y8 y9 => bif !y9 then K [] false else L_ref10_Strip_1003 k n s (s.length : Int) y8 K) 1 (qAt s i) = stK s K (match qAt s i with | some j => stS s n (j + 1) | none => none) := by
        cases hqa : qAt s i with
        | none => rfl
        | some j =>
          have hj := qAt_bound hqa
          simp only [qK, Bool.not_true, cond_false]
          have e : ((j : Int) + 1) = ((j + 1 : Nat) : Int) := by omega
          rw [e, ih (j + 1) (by omega) (by omega)]
      rw [hq]
      cases fresh s i <;> cases (s.getD i 0 == 35) <;> cases (s.getD i 0 == 39) <;> cases (s.getD i 0 == 34) <;> rfl
    · have hi' : i = s.length := by omega
      subst hi'
      rw [stS, ble_t (Nat.le_refl _), cond_true]
      simp (disch := omega) only [dec_t, dec_f, ieq_t, ieq_f, ine_t, ine_f, inb_t, bnd_t, wrap_id, wrap8_id, cond_true, cond_false, Bool.not_true, Bool.not_false, Bool.true_or, Bool.or_true, Bool.false_or, Bool.or_false, Bool.true_and, Bool.and_true, Bool.false_and, Bool.and_false, bool_eq_true', bool_eq_false', toNat_cast']
      exact ref10_Strip_end k s hs K k s.length (by omega) (by omega)
theorem ref10_Strip_eq (k : Nat) {R : Type} (s : List UInt8) (hs : s.length ≤ 1000000) (hk : s.length < k) (K : List UInt8 → Bool → Option R) : F_ref10_Strip k s K = stK s K (stS s k 0) := by
  unfold F_ref10_Strip A_ref10_Strip
  exact ref10_Strip_loop k s hs hk K k 0 (by omega) (by omega)
end Go.Proofs.YtdbnlohjjoigeaaDoor.Pvm

set_option linter.unusedVariables false
set_option linter.unusedSimpArgs false
namespace Go.Proofs.YtdbnlohjjoigeaaDoor.Pvm
open Go
/-- without the blanks at the beginning -/
def lt32 (l : List UInt8) : List UInt8 := l.dropWhile (· == 32)
theorem lt32_len (l : List UInt8) : (lt32 l).length ≤ l.length := (List.dropWhile_suffix _).length_le
theorem trimL_loop (k : Nat) {R : Type} (K : List UInt8 → Option R) : ∀ (n : Nat) (l : List UInt8), l.length < n → L_strings_trimLeftByte_1001 k n l 32 K = K (lt32 l) := by
  intro n
  induction n with
  | zero => intro l h; omega
  | succ n ih =>
    intro l hn
    rw [L_strings_trimLeftByte_1001]
    unfold B_strings_trimLeftByte_1001
    cases l with
    | nil => rfl
    | cons x r =>
      have h1 : decide (((x :: r).length : Int) > 0) = true := dec_t (by simp <;> omega)
      have h2 : inb 0 ((x :: r).length : Int) = true := inb_t (by omega) (by simp <;> omega)
      have h3 : bnd 1 ((x :: r).length : Int) ((x :: r).length : Int) = true := bnd_t (by omega) (by simp <;> omega) (by omega)
      have h4 : (x :: r).getD (Int.toNat 0) 0 = x := rfl
      have h5 : cut (x :: r) 1 ((x :: r).length : Int) = r := by simp [cut]
      simp only [h1, h2, h3, h4, h5, beq32, Bool.or_true, cond_true]
      rw [ih r (by simp at hn; omega), lt32, lt32, List.dropWhile_cons]
      cases x == 32 <;> rfl
theorem trimL_eq (k : Nat) {R : Type} (l : List UInt8) (hk : l.length < k) (K : List UInt8 → Option R) : F_strings_TrimLeft k l 32 K = K (lt32 l) := by
  unfold F_strings_TrimLeft A_strings_TrimLeft F_strings_trimLeftByte A_strings_trimLeftByte
  cases l with
  | nil => rfl
  | cons x r =>
    have e2 : (((([32] : List UInt8).getD (Int.toNat 0) 0).toNat : Nat) : Int) = 32 := rfl
    simp only [e2, show ((x :: r) == ([] : List UInt8)) = false from rfl, show (([32] : List UInt8) == []) = false from rfl, show ((([32] : List UInt8).length : Int) == 1) = true from rfl, show decide ((32 : Int) < 128) = true from rfl, cond_false, cond_true]
    exact trimL_loop k K k _ hk
abbrev Row := Int × (Int × List UInt8)
/-- one line's own row -/
def rowL (k : Nat) (no : Nat) (p : List UInt8) (e : Nat) : List Row :=
  bif rt ((lt32 p).take e) == [] then [] else [((no : Int), (((p.length : Int) - ((lt32 p).length : Int)), rt ((lt32 p).take e)))]
def linesS (k : Nat) : List (List UInt8) → Nat → List Row → List Row × Int × Int
  | [], no, acc => (acc, 0, 0)
  | p :: ps, no, acc => bif p.any bad then ([], 2, (no : Int)) else match stS (lt32 p) k 0 with
    | none => ([], 3, (no : Int))
    | some e => linesS k ps (no + 1) (acc ++ rowL k no p e)
theorem rowL_len (k no : Nat) (p : List UInt8) (e : Nat) : (rowL k no p e).length ≤ 1 := by
  unfold rowL
  cases rt ((lt32 p).take e) == [] <;> simp
theorem line_Lines_loop (k : Nat) {R : Type} (K : List Row → Int → Int → Option R) (a0 a1 : Int) (ps : List (List UInt8)) (hp : ∀ p ∈ ps, p.length ≤ 20000 ∧ p.length < k) (hps : ps.length ≤ 20000) :
    ∀ (n : Nat) (r : List (List UInt8)) (i : Nat) (acc : List Row), ps.drop i = r → i ≤ ps.length → r.length < n → acc.length ≤ i →
    L_line_Lines_1005 k n a0 a1 acc (ps.map toBytes) (ps.length : Int) (i : Int) K = (linesS k r (i + 1) acc |> fun z => K z.1 z.2.1 z.2.2) := by
  intro n
  induction n with
  | zero => intro r i acc _ _ h; omega
  | succ n ih =>
    intro r i acc hr hi hn ha
    rw [L_line_Lines_1005]
    unfold B_line_Lines_1005
    cases r with
    | nil =>
      have := drop_nil hr
      simp (disch := omega) only [dec_t, dec_f, ieq_t, ieq_f, ine_t, ine_f, inb_t, bnd_t, wrap_id, wrap8_id, cond_true, cond_false, Bool.not_true, Bool.not_false, Bool.true_or, Bool.or_true, Bool.false_or, Bool.or_false, Bool.true_and, Bool.and_true, Bool.false_and, Bool.and_false, bool_eq_true', bool_eq_false', toNat_cast']
      rfl
    | cons p r =>
      obtain ⟨h1, h2, h3⟩ := drop_cons' hr
      have hml : ((ps.map toBytes).length : Int) = (ps.length : Int) := by simp
      have hg : (ps.map toBytes).getD i (Kd.int IntKind.u8).sl.zero = toBytes p := by
        have := h2 []
        simp only [List.getD, List.getElem?_map] at this ⊢
        have hx : ps[i]? = some p := by
          rw [List.getElem?_eq_getElem h1] at this ⊢
          simpa using this
        rw [hx]; rfl
      have hmem : p ∈ ps := by
        have : p ∈ ps.drop i := by rw [hr]; exact List.mem_cons_self
        exact List.mem_of_mem_drop this
      obtain ⟨hp1, hp2⟩ := hp p hmem
      have hl := lt32_len p
      simp (disch := omega) only [dec_t, dec_f, ieq_t, ieq_f, ine_t, ine_f, inb_t, bnd_t, wrap_id, wrap8_id, cond_true, cond_false, Bool.not_true, Bool.not_false, Bool.true_or, Bool.or_true, Bool.false_or, Bool.or_false, Bool.true_and, Bool.and_true, Bool.false_and, Bool.and_false, bool_eq_true', bool_eq_false', toNat_cast', hml, hg, ofBytes_toBytes]
      have hI : ∀ K' : Int → Option R, F_strings_IndexFunc k p K' = K' (idxOdd p) := fun _ => rfl
      rw [hI, idxOdd_any, trimL_eq k p hp2, line_Strip_eq k _ (by omega) (by omega)]
      rw [linesS]
      have c1 : ((i : Int) + 1) = ((i + 1 : Nat) : Int) := by omega
      cases hb : p.any bad with
      | true => simp only [cond_true, c1]
      | false =>
        simp only [cond_false]
        cases hs : stS (lt32 p) k 0 with
        | none => simp only [stK, Bool.not_false, cond_true, c1]
        | some e =>
          simp only [stK, Bool.not_true, cond_false]
          have w1 : IntKind.i64.wrap ((p.length : Int) - ((lt32 p).length : Int)) = (p.length : Int) - ((lt32 p).length : Int) := wrap_id (by omega) (by omega)
          have hf : ∀ z : Row, fits acc.length [z].length 32 = true := fun z => fits_t (by simp; omega) (by simp; omega)
          rw [w1, hf, cond_true, c1, ih r (i + 1) _ h3 (by omega) (by simp at hn; omega) (by simp; omega), ih r (i + 1) _ h3 (by omega) (by simp at hn; omega) (by omega)]
          unfold rowL
          cases rt ((lt32 p).take e) == [] <;> simp
theorem spl_len : ∀ s : List UInt8, (spl s).length ≤ s.length + 1
  | [] => by simp [spl]
  | x :: r => by
    have := spl_len r
    rw [spl]
    cases x == 10 with
    | true => simp; omega
    | false =>
      cases h : spl r with
      | nil => simp
      | cons p ps => rw [h] at this; simp at this ⊢; omega
theorem spl_mem : ∀ (s : List UInt8) (p : List UInt8), p ∈ spl s → p.length ≤ s.length
  | [], p, h => by simp [spl] at h; simp [h]
  | x :: r, p, h => by
    rw [spl] at h
    cases hx : x == 10 with
    | true =>
      rw [hx, cond_true] at h
      rcases List.mem_cons.1 h with rfl | h
      · simp
      · have := spl_mem r p h; simp; omega
    | false =>
      rw [hx, cond_false] at h
      cases hs : spl r with
      | nil => rw [hs] at h; simp at h; simp [h]
      | cons q qs =>
        rw [hs] at h
        have hq := spl_mem r
        rw [hs] at hq
        rcases List.mem_cons.1 h with rfl | h
        · have := hq q (by simp); simp; omega
        · have := hq p (by simp [h]); simp; omega
theorem line_Lines_eq (k : Nat) {R : Type} (s : List UInt8) (hk : 20000 < k) (K : List Row → Int → Int → Option R) :
    F_line_Lines k (toBytes s) K = bif decide (s.length > 16384) then K [] 1 1 else (linesS k (spl s) 1 [] |> fun z => K z.1 z.2.1 z.2.2) := by
  unfold F_line_Lines A_line_Lines
  rw [toBytes_len]
  by_cases h : s.length > 16384
  · rw [dec_t h]
    have : decide ((s.length : Int) > 16384) = true := dec_t (by omega)
    rw [this]; rfl
  · rw [dec_f h]
    have : decide ((s.length : Int) > 16384) = false := dec_f (by omega)
    have hl := spl_len s
    rw [this, cond_false, cond_false, Split_eq k s (by omega) (by omega)]
    have hml : (((spl s).map toBytes).length : Int) = ((spl s).length : Int) := by simp
    rw [hml]
    exact line_Lines_loop k K 0 0 (spl s) (fun p hp => by have := spl_mem s p hp; omega) (by omega) k _ 0 [] rfl (by omega) (by omega) (by simp)
end Go.Proofs.YtdbnlohjjoigeaaDoor.Pvm

set_option linter.unusedVariables false
set_option linter.unusedSimpArgs false
namespace Go.Proofs.YtdbnlohjjoigeaaDoor.Pvm
open Go
theorem stS_fuel (s : List UInt8) : ∀ (n m i : Nat), s.length < i + n → s.length < i + m → i ≤ s.length → stS s n i = stS s m i
  | 0, _, i, h, _, hi => by omega
  | _ + 1, 0, i, _, h, hi => by omega
  | n + 1, m + 1, i, h1, h2, hi => by
    rw [stS, stS]
    by_cases h : i < s.length
    · rw [ble_f h, cond_false, cond_false, stS_fuel s n m (i + 1) (by omega) (by omega) (by omega)]
      cases hq : qAt s i with
      | none => rfl
      | some j =>
        have := qAt_bound hq
        dsimp only
        rw [stS_fuel s n m (j + 1) (by omega) (by omega) (by omega)]
    · rw [ble_t (by omega)]; rfl
theorem linesS_fuel (k m : Nat) : ∀ (ps : List (List UInt8)) (no : Nat) (acc : List Row), (∀ p ∈ ps, p.length < k ∧ p.length < m) → linesS k ps no acc = linesS m ps no acc
  | [], no, acc, h => rfl
  | p :: ps, no, acc, h => by
    have hp := h p (by simp)
    have hl := lt32_len p
    rw [linesS, linesS, stS_fuel (lt32 p) k m 0 (by omega) (by omega) (by omega)]
    cases p.any bad with
    | true => rfl
    | false =>
      cases stS (lt32 p) m 0 with
      | none => rfl
      | some e => exact linesS_fuel k m ps _ _ fun q hq => h q (by simp [hq])
theorem Strip_at (k : Nat) {R : Type} (s : List UInt8) (hs : s.length < 200) (hk : 20000 < k) (K : List UInt8 → Bool → Option R) : F_line_Strip k s K = stK s K (stS s 200 0) := by
  rw [line_Strip_eq k s (by omega) (by omega), stS_fuel s k 200 0 (by omega) (by omega) (by omega)]
theorem Lines_at (k : Nat) {R : Type} (s : List UInt8) (hs : s.length < 200) (hk : 20000 < k) (K : List Row → Int → Int → Option R) :
    F_line_Lines k (toBytes s) K = (linesS 200 (spl s) 1 [] |> fun z => K z.1 z.2.1 z.2.2) := by
  rw [line_Lines_eq k s hk, dec_f (by omega), cond_false, linesS_fuel k 200 (spl s) 1 [] fun p hp => by have := spl_mem s p hp; omega]
theorem awake_eq (k : Nat) {R : Type} (hk : 20000 < k) (K : Bool → Option R) : F_law10_awake k K = K true := by
  unfold F_law10_awake A_law10_awake
  have e1 : stS [97, 58, 32, 39, 120, 32, 35, 32, 121, 39, 32, 35, 32, 122] 200 0 = some 11 := by kernel_rfl
  have e2 : stS [97, 32, 39, 98] 200 0 = none := by kernel_rfl
  have e3 : linesS 200 (spl [10, 32, 32, 97, 58, 32, 98, 32, 32, 35, 32, 99, 10, 35, 100, 10]) 1 [] = ([(2, 2, [97, 58, 32, 98])], 0, 0) := by kernel_rfl
  have e4 : linesS 200 (spl [97, 10, 9, 98]) 1 [] = ([], 2, 2) := by kernel_rfl
  have e5 : rt ([97, 58, 32, 39, 120, 32, 35, 32, 121, 39, 32, 35, 32, 122].take 11) = [97, 58, 32, 39, 120, 32, 35, 32, 121, 39] := by kernel_rfl
  rw [Strip_at k _ (by simp) hk, e1]
  dsimp only [stK]
  rw [e5, Strip_at k _ (by simp) hk, e2]
  dsimp only [stK]
  have t1 : ([10, 32, 32, 97, 58, 32, 98, 32, 32, 35, 32, 99, 10, 35, 100, 10] : List Int) = toBytes [10, 32, 32, 97, 58, 32, 98, 32, 32, 35, 32, 99, 10, 35, 100, 10] := rfl
  have t2 : ([97, 10, 9, 98] : List Int) = toBytes [97, 10, 9, 98] := rfl
  have h1 := Lines_at k (R := R) [10, 32, 32, 97, 58, 32, 98, 32, 32, 35, 32, 99, 10, 35, 100, 10] (by simp) hk
  have h2 := Lines_at k (R := R) [97, 10, 9, 98] (by simp) hk
  rw [e3] at h1
  rw [e4] at h2
  dsimp only at h1 h2
  refine (h1 _).trans ?_
  refine (h2 _).trans ?_
  rfl
end Go.Proofs.YtdbnlohjjoigeaaDoor.Pvm

set_option linter.unusedVariables false
set_option linter.unusedSimpArgs false
namespace Go.Proofs.YtdbnlohjjoigeaaDoor.Pvm
open Go
theorem beq10 (c : UInt8) : ((c.toNat : Int) != 10) = !(c == 10) := u8_bne c 10 (by omega)
theorem getB (t : List UInt8) (n : Nat) (d : Int) (h : n < t.length) : (toBytes t).getD n d = ((t.getD n 0).toNat : Int) := by
  simp [toBytes, List.getD, h]
theorem bad_at (b : Bool) (c : UInt8) : (bif (bif b then true else decide ((c.toNat : Int) < 32)) then true else (c.toNat : Int) == 127) = (b || bad c) := by
  have h1 : decide ((c.toNat : Int) ≥ 0) = true := dec_t (by omega)
  unfold bad oddP
  rw [h1, cond_true]
  cases b <;> cases decide ((c.toNat : Int) < 32) <;> cases ((c.toNat : Int) == 127) <;> rfl
theorem scan_loop (k : Nat) {R : Type} (J : List Int → Int → Int → List Row → Int → Int → Option R) (K : List Row → Int → Int → Option R) (t : List UInt8) (ht : t.length ≤ 20000) (acc : List Row) (at' no : Int) :
    ∀ (n : Nat) (q : List UInt8) (e : Nat) (b : Bool), t.drop e = q → e ≤ t.length → q.length < n →
    L_ref10_Lines_1010 k J n (toBytes t) 0 0 acc at' no (e : Int) b K = bif b || (q.take (upto 10 q)).any bad then K [] 2 no else L_ref10_Lines_1016 k J k (toBytes t) 0 0 acc at' no ((e + upto 10 q : Nat) : Int) 0 K := by
  intro n
  induction n with
  | zero => intro q e b _ _ h; omega
  | succ n ih =>
    intro q e b hq he hn
    rw [L_ref10_Lines_1010]
    unfold B_ref10_Lines_1010
    rw [toBytes_len]
    cases q with
    | nil =>
      have := drop_nil hq
      simp (disch := omega) only [dec_t, dec_f, ieq_t, ieq_f, ine_t, ine_f, inb_t, bnd_t, wrap_id, wrap8_id, cond_true, cond_false, Bool.not_true, Bool.not_false, Bool.true_or, Bool.or_true, Bool.false_or, Bool.or_false, Bool.true_and, Bool.and_true, Bool.false_and, Bool.and_false, bool_eq_true', bool_eq_false', toNat_cast']
      simp [upto]
    | cons x q =>
      obtain ⟨h1, h2, h3⟩ := drop_cons' hq
      have hg : (toBytes t).getD e (Kd.int IntKind.u8).zero = (x.toNat : Int) := by rw [getB t e _ h1, h2]
      simp (disch := omega) only [dec_t, dec_f, ieq_t, ieq_f, ine_t, ine_f, inb_t, bnd_t, wrap_id, wrap8_id, cond_true, cond_false, Bool.not_true, Bool.not_false, Bool.true_or, Bool.or_true, Bool.false_or, Bool.or_false, Bool.true_and, Bool.and_true, Bool.false_and, Bool.and_false, bool_eq_true', bool_eq_false', toNat_cast', hg, beq10, bad_at]
      rw [cast_succ, ih q (e + 1) _ h3 (by omega) (by simp at hn; omega), upto]
      cases hx : x == 10 with
      | true => simp
      | false =>
        simp only [Bool.not_false, cond_true, cond_false, List.take_succ_cons, List.any_cons]
        rw [show e + 1 + upto 10 q = e + (upto 10 q + 1) by omega, Bool.or_assoc]
/-- a line, its blanks ahead counted -/
def finL (k : Nat) {R : Type} (J : List Row → Option R) (K : List Row → Int → Int → Option R) (acc : List Row) (no : Nat) (p : List UInt8) : Option R :=
  match stS (lt32 p) k 0 with
  | none => K [] 3 (no : Int)
  | some e => J (acc ++ rowL k no p e)
theorem blank_loop (k : Nat) {R : Type} (J : List Int → Int → Int → List Row → Int → Int → Option R) (K : List Row → Int → Int → Option R) (t : List UInt8) (ht : t.length ≤ 20000) (hk : 20000 < k) (acc : List Row) (ha : acc.length ≤ 20000) (at' no u : Nat)
    (hno : no ≤ 30000) (hat : at' + u ≤ t.length) (p : List UInt8) (hp : (t.drop at').take u = p) :
    ∀ (n m : Nat) (q : List UInt8), p.drop m = q → m ≤ p.length → q.length < n → lt32 p = lt32 q →
    L_ref10_Lines_1016 k J n (toBytes t) 0 0 acc (at' : Int) (no : Int) ((at' + u : Nat) : Int) (m : Int) K = finL k (fun a => J (toBytes t) 0 0 a ((at' + u + 1 : Nat) : Int) ((no + 1 : Nat) : Int)) K acc no p := by
  have hpl : p.length = u := by rw [← hp, List.length_take, List.length_drop]; omega
  intro n
  induction n with
  | zero => intro m q _ _ h; omega
  | succ n ih =>
    intro m q hq hm hn hlt
    rw [L_ref10_Lines_1016]
    unfold B_ref10_Lines_1016
    have w1 : IntKind.i64.wrap ((at' : Int) + (m : Int)) = ((at' + m : Nat) : Int) := by rw [wrap_id (by omega) (by omega)]; omega
    have hcut : cut (toBytes t) ((at' + m : Nat) : Int) ((at' + u : Nat) : Int) = toBytes q := by
      rw [← hq, ← hp]
      simp only [cut, toBytes, Int.toNat_natCast, List.map_drop, List.map_take]
      rw [List.drop_take, List.drop_take, List.drop_drop, show at' + u - (at' + m) = u - m by omega]
    have hend : (lt32 q = q) → (F_ref10_Strip k (ofBytes (cut (toBytes t) ((at' + m : Nat) : Int) ((at' + u : Nat) : Int))) fun y14 y15 =>
            bif !y15 then K [] 3 (no : Int)
            else
              bif !(y14 == []) then
                bif fits acc.length [((no : Int), ((m : Int), y14))].length 32 then
                  J (toBytes t) 0 0 (acc ++ [((no : Int), ((m : Int), y14))]) (((at' + u : Nat) : Int) + 1) ((no : Int) + 1)
                else none
              else J (toBytes t) 0 0 acc (((at' + u : Nat) : Int) + 1) ((no : Int) + 1)) = finL k (fun a => J (toBytes t) 0 0 a ((at' + u + 1 : Nat) : Int) ((no + 1 : Nat) : Int)) K acc no p := by
      intro hlq
      have hql : q.length = p.length - m := by rw [← hq, List.length_drop]
      rw [hcut, ofBytes_toBytes, ref10_Strip_eq k q (by omega) (by omega)]
      have w2 : ((at' + u : Nat) : Int) + 1 = ((at' + u + 1 : Nat) : Int) := by omega
      have w3 : (no : Int) + 1 = ((no + 1 : Nat) : Int) := by omega
      have hf : ∀ z : Row, fits acc.length [z].length 32 = true := fun z => fits_t (by simp; omega) (by simp; omega)
      rw [finL, hlt, hlq]
      cases hs : stS q k 0 with
      | none => simp [stK]
      | some e =>
        have hd : (p.length : Int) - (q.length : Int) = (m : Int) := by omega
        simp only [stK, Bool.not_true, cond_false, w2, w3, hf, cond_true]
        unfold rowL
        rw [hlt, hlq, hd]
        cases rt (q.take e) == [] <;> simp
    rw [w1, toBytes_len]
    by_cases hmu : m < u
    · obtain ⟨x, q', rfl⟩ : ∃ x q', q = x :: q' := by
        cases q with
        | nil => have := drop_nil hq; omega
        | cons x q' => exact ⟨x, q', rfl⟩
      obtain ⟨h1, h2, h3⟩ := drop_cons' hq
      have hx : t.getD (at' + m) 0 = x := by
        have := h2 0
        rw [← hp] at this
        simpa [List.getD, List.getElem?_take, List.getElem?_drop, hmu] using this
      have hg : (toBytes t).getD (at' + m) (Kd.int IntKind.u8).zero = (x.toNat : Int) := by rw [getB t _ _ (by omega), hx]
      simp (disch := omega) only [dec_t, dec_f, ieq_t, ieq_f, ine_t, ine_f, inb_t, bnd_t, wrap_id, wrap8_id, cond_true, cond_false, Bool.not_true, Bool.not_false, Bool.true_or, Bool.or_true, Bool.false_or, Bool.or_false, Bool.true_and, Bool.and_true, Bool.false_and, Bool.and_false, bool_eq_true', bool_eq_false', toNat_cast', hg, beq32]
      cases hb : x == 32 with
      | true =>
        rw [cond_true, cast_succ]
        refine ih (m + 1) q' h3 (by omega) (by simp at hn; omega) ?_
        rw [hlt, lt32, List.dropWhile_cons, hb]; rfl
      | false =>
        rw [cond_false]
        exact hend (by rw [lt32, List.dropWhile_cons, hb]; rfl)
    · have : q = [] := by rw [← hq, List.drop_eq_nil_of_le (by omega)]
      subst this
      simp (disch := omega) only [dec_t, dec_f, ieq_t, ieq_f, ine_t, ine_f, inb_t, bnd_t, wrap_id, wrap8_id, cond_true, cond_false, Bool.not_true, Bool.not_false, Bool.true_or, Bool.or_true, Bool.false_or, Bool.or_false, Bool.true_and, Bool.and_true, Bool.false_and, Bool.and_false, bool_eq_true', bool_eq_false', toNat_cast']
      exact hend rfl
theorem linesS_one (k no : Nat) (acc : List Row) (hk : 0 < k) : linesS k [[]] no acc = (acc, 0, 0) := by
  obtain ⟨m, rfl⟩ : ∃ m, k = m + 1 := ⟨k - 1, by omega⟩
  rw [linesS]
  have h1 : stS (lt32 []) (m + 1) 0 = some 0 := rfl
  have h2 : ([] : List UInt8).any bad = false := rfl
  rw [h1, h2]
  show linesS (m + 1) [] (no + 1) (acc ++ []) = _
  rw [linesS, List.append_nil]
end Go.Proofs.YtdbnlohjjoigeaaDoor.Pvm

set_option linter.unusedVariables false
set_option linter.unusedSimpArgs false
namespace Go.Proofs.YtdbnlohjjoigeaaDoor.Pvm
open Go
theorem ref10_Lines_loop (k : Nat) {R : Type} (K : List Row → Int → Int → Option R) (t : List UInt8) (ht : t.length ≤ 16384) (hk : 20000 < k) :
    ∀ (n : Nat) (r : List UInt8) (at' no : Nat) (acc : List Row), t.drop at' = r → r.length < n → no ≤ at' + 1 → acc.length ≤ at' → at' ≤ t.length + 1 →
    L_ref10_Lines_1006 k n (toBytes t) 0 0 acc (at' : Int) (no : Int) K = (linesS k (spl r) no acc |> fun z => K z.1 z.2.1 z.2.2) := by
  intro n
  induction n with
  | zero => intro r at' no acc _ h; omega
  | succ n ih =>
    intro r at' no acc hr hn hno ha hat
    rw [L_ref10_Lines_1006]
    unfold B_ref10_Lines_1006
    rw [toBytes_len]
    by_cases hl : at' < t.length
    · rw [dec_t (by omega : (at' : Int) < (t.length : Int)), cond_true]
      dsimp only
      have hrl : r.length = t.length - at' := by rw [← hr, List.length_drop]
      have hu := upto_le 10 r
      rw [scan_loop k _ K t (by omega) acc at' no k r at' false hr (by omega) (by omega), Bool.false_or, spl_upto]
      have hp : (t.drop at').take (upto 10 r) = r.take (upto 10 r) := by rw [hr]
      have hnext := ih (r.drop (upto 10 r + 1)) (at' + upto 10 r + 1) (no + 1)
      have hdrop : t.drop (at' + upto 10 r + 1) = r.drop (upto 10 r + 1) := by rw [← hr, List.drop_drop, Nat.add_assoc]
      have hbl := blank_loop k (fun s0 s1 s2 s3 s4 s5 => L_ref10_Lines_1006 k n s0 s1 s2 s3 s4 s5 K) K t (by omega) hk acc (by omega) at' no (upto 10 r) (by omega) (by omega) _ hp k 0 _ rfl (by omega) (by rw [List.length_drop, List.length_take]; omega) rfl
      have hz : ((0 : Nat) : Int) = 0 := rfl
      rw [hz] at hbl
      rw [hbl]
      by_cases hlt : upto 10 r < r.length
      · rw [if_pos hlt, linesS]
        cases hb : (r.take (upto 10 r)).any bad with
        | true => rfl
        | false =>
          rw [cond_false, cond_false, finL]
          cases hs : stS (lt32 (r.take (upto 10 r))) k 0 with
          | none => rfl
          | some e =>
            dsimp only
            have := rowL_len k no (r.take (upto 10 r)) e
            exact hnext _ hdrop (by rw [List.length_drop]; omega) (by omega) (by rw [List.length_append]; omega) (by omega)
      · have hfull : r.take (upto 10 r) = r := List.take_of_length_le (by omega)
        rw [if_neg hlt, linesS, hfull]
        cases hb : r.any bad with
        | true => rfl
        | false =>
          rw [cond_false, cond_false, finL]
          cases hs : stS (lt32 r) k 0 with
          | none => rfl
          | some e =>
            dsimp only
            have := rowL_len k no r e
            have h2 := hnext (acc ++ rowL k no r e) hdrop (by rw [List.length_drop]; omega) (by omega) (by rw [List.length_append]; omega) (by omega)
            rw [List.drop_eq_nil_of_le (by omega)] at h2
            rw [h2]
            have : spl [] = [[]] := rfl
            rw [this, linesS_one k _ _ (by omega), linesS]
    · have : r = [] := by rw [← hr, List.drop_eq_nil_of_le (by omega)]
      subst this
      rw [dec_f (by omega : ¬ (at' : Int) < (t.length : Int)), cond_false]
      have : spl [] = [[]] := rfl
      rw [this, linesS_one k _ _ (by omega)]
theorem ref10_Lines_eq (k : Nat) {R : Type} (s : List UInt8) (hk : 20000 < k) (K : List Row → Int → Int → Option R) :
    F_ref10_Lines k (toBytes s) K = bif decide (s.length > 16384) then K [] 1 1 else (linesS k (spl s) 1 [] |> fun z => K z.1 z.2.1 z.2.2) := by
  unfold F_ref10_Lines A_ref10_Lines
  rw [toBytes_len]
  by_cases h : s.length > 16384
  · rw [dec_t h]
    have : decide ((s.length : Int) > 16384) = true := dec_t (by omega)
    rw [this]; rfl
  · rw [dec_f h]
    have : decide ((s.length : Int) > 16384) = false := dec_f (by omega)
    rw [this, cond_false, cond_false]
    exact ref10_Lines_loop k K s (by omega) hk k s 0 1 [] rfl (by omega) (by omega) (by simp) (by omega)
theorem lines_loop (k : Nat) {R : Type} (K : Bool → Option R) (l : List Row) (hl : l.length ≤ 1000000) : ∀ (n i : Nat), i ≤ l.length → l.length < i + n → L_law10_lines_1004 k n l l (i : Int) K = K true := by
  intro n
  induction n with
  | zero => intro i _ h; omega
  | succ n ih =>
    intro i hi hn
    rw [L_law10_lines_1004]
    unfold B_law10_lines_1004
    by_cases h : i < l.length
    · simp (disch := omega) only [dec_t, dec_f, ieq_t, ieq_f, ine_t, ine_f, inb_t, bnd_t, wrap_id, wrap8_id, cond_true, cond_false, Bool.not_true, Bool.not_false, Bool.true_or, Bool.or_true, Bool.false_or, Bool.or_false, Bool.true_and, Bool.and_true, Bool.false_and, Bool.and_false, bool_eq_true', bool_eq_false', toNat_cast']
      simp only [beq_self_eq_true, Bool.and_self, Bool.not_true, cond_false]
      rw [cast_succ]
      exact ih (i + 1) (by omega) (by omega)
    · simp (disch := omega) only [dec_t, dec_f, ieq_t, ieq_f, ine_t, ine_f, inb_t, bnd_t, wrap_id, wrap8_id, cond_true, cond_false, Bool.not_true, Bool.not_false, Bool.true_or, Bool.or_true, Bool.false_or, Bool.or_false, Bool.true_and, Bool.and_true, Bool.false_and, Bool.and_false, bool_eq_true', bool_eq_false', toNat_cast']
theorem lines_eq (k : Nat) {R : Type} (K : Bool → Option R) (l : List Row) (hl : l.length ≤ 1000000) (hk : l.length < k) : F_law10_lines k l l K = K true := by
  unfold F_law10_lines A_law10_lines
  rw [ine_f rfl, cond_false]
  exact lines_loop k K l hl k 0 (by omega) (by omega)
theorem linesS_len (k : Nat) : ∀ (ps : List (List UInt8)) (no : Nat) (acc : List Row), (linesS k ps no acc).1.length ≤ acc.length + ps.length
  | [], no, acc => by simp [linesS]
  | p :: ps, no, acc => by
    rw [linesS]
    cases p.any bad with
    | true => simp
    | false =>
      cases stS (lt32 p) k 0 with
      | none => simp
      | some e =>
        have := linesS_len k ps (no + 1) (acc ++ rowL k no p e)
        have h2 := rowL_len k no p e
        simp only [cond_false, List.length_append, List.length_cons] at this ⊢
        omega
end Go.Proofs.YtdbnlohjjoigeaaDoor.Pvm

set_option linter.unusedVariables false
set_option linter.unusedSimpArgs false
namespace Go.Proofs.YtdbnlohjjoigeaaDoor.Pvm
open Go
theorem LineLines_aux (t : List UInt8) : ∃ k, F_law10_LineLines k (toBytes t) (fun b => some b) = some true := by
  obtain ⟨k, hk⟩ : ∃ k : Nat, k = 30000 := ⟨_, rfl⟩
  refine ⟨k, ?_⟩
  unfold F_law10_LineLines A_law10_LineLines
  by_cases h1 : t.length > 16384
  · rw [line_Lines_eq k t (by omega), dec_t h1, cond_true, ref10_Lines_eq k t (by omega), dec_t h1, cond_true, lines_eq k _ [] (by simp) (by simp; omega)]
    simp only [beq_self_eq_true, Bool.and_self, cond_true]
    rw [awake_eq k (by omega)]
  · have hn := linesS_len k (spl t) 1 []
    have hs := spl_len t
    simp only [List.length_nil] at hn
    rw [line_Lines_eq k t (by omega), dec_f h1, cond_false]
    dsimp only
    rw [ref10_Lines_eq k t (by omega), dec_f h1, cond_false]
    dsimp only
    rw [lines_eq k _ _ (by omega) (by omega)]
    simp only [beq_self_eq_true, Bool.and_self, cond_true]
    rw [awake_eq k (by omega)]
theorem LineLines_pure (x : (Kd.sl (.int .u8)).T) (h : Wf (.sl (.int .u8)) x) : ∃ k, F_law10_LineLines k x (fun b => some b) = some true := by
  obtain ⟨t, ht⟩ := bytes_wf (x := x) (fun y hy => h.2 y hy)
  rw [ht]
  exact LineLines_aux t
end Go.Proofs.YtdbnlohjjoigeaaDoor.Pvm

set_option linter.unusedVariables false
namespace Go.Proofs.YtdbnlohjjoigeaaDoor.lineLines
open Go Go.Proofs Go.ChangeShapes Go.WideShapes Go.ChangeAt Go.RowKit Go.Proofs.YtdbnlohjjoigeaaDoor.Pvm
theorem own : ownKnob Tryd.prog.godebug = none := by kernel_rfl
theorem laidOut : laidOutB Tryd.prog = true := by kernel_rfl
set_option maxRecDepth 100000 in
theorem lifted (os : Os) (started : os.Started) (H : Type) (enc : TypeId × Value → H) :
    ReturnsInHanded {} Tryd.checked os 5 .any (fun w args => (Rows.lineLinesSpec.pre enc Tryd.prog Tryd.f5 Rows.lineLinesRow.domain false w args ∧ laidMetH Tryd.prog Rows.lineLinesRow.laid w) ∧ sizedMet enc Tryd.prog Tryd.f5 (OpenSpec.ofChange Rows.lineLinesSpec) false w args) (Rows.lineLinesSpec.post enc Tryd.prog Tryd.f5 false true false false) := by
  refine returnsInHanded_of_change_and (C := Tryd.checked) (X := fun w _ => laidMetH Tryd.prog Rows.lineLinesRow.laid w) (fun _ _ _ hh h => h.of_heap hh) own started (by kernel_rfl) Tryd.func5
    (ChangeSpec.witness_shaped (enc := enc) (C := Tryd.checked) (os := os) (X := fun w _ => laidMetH Tryd.prog Rows.lineLinesRow.laid w) false (World.laidAll Tryd.prog os Rows.lineLinesRow.laid) #[.slice none 0 0] 8 (World.laidAll_os _ _ _)
      (World.shaped_of_ZipB (by kernel_rfl) (by kernel_rfl)) (by kernel_rfl) (by kernel_rfl) (by kernel_rfl)
      (by rw [MakeChecks.laidMetH_plain _ _ _ (by kernel_rfl)]; exact laidMet_laidAll _ (by kernel_rfl) (by kernel_rfl))) ?_
  intro W base args ds gs before hval0 hW hcnd hsz0 hL _
  have hsz : (DataW.weightsEach Tryd.prog (Tryd.f5.params.toList ++ Rows.lineLinesSpec.plain.varTypes Tryd.prog) (ds ++ gs)).all (· ≤ reachBytes) = true := hsz0
  have hval : ∀ (j : Nat) t v, Tryd.f5.params[j]? = some t → args[j]? = some v → Value.okWide Tryd.prog W .any base t v := hval0
  have hW' := hW
  obtain ⟨p, q, hA0, hV, rfl, hfz, hnd⟩ := hW
  have hA : DataW.TrodAll enc Tryd.prog W 0 (fun _ => true) true Tryd.f5.params.toList args.toList ds p := hA0
  rw [Tryd.params5] at hA hval hsz
  obtain ⟨v0, vs0, d0, ds0, p0, q0, hargs, rfl, rfl, h0, r0⟩ := trodAll_cons hA
  obtain ⟨rfl, rfl, rfl⟩ := trodAll_nil r0
  obtain rfl : args = #[v0] := by cases args; simp_all
  obtain ⟨rfl, rfl⟩ := trodVars_none hV
  have hws := weights_of (P := Tryd.prog) hsz
  have k0 := h0
  have lt0 : ∀ x ∈ p0, x.block < W.heap.size := by obtain ⟨m, hm⟩ := k0; exact DataW.trod_lt m _ _ _ hm
  obtain ⟨x0, wf0, rv0⟩ := arg_data tyT_ok (n := 9) (K := (.sl (.int .u8))) (by kernel_rfl) (by kernel_rfl) (hval 0 26 v0 rfl rfl) h0 (hws 0 26 d0 rfl rfl) (h := mkH []) (G := G0) (fun _ => rfl) (fun _ h => h)
  obtain ⟨k, hk⟩ := LineLines_pure x0 wf0
  have hrun : run_law10_LineLines k [.v (.sl (.int .u8)) x0] [] lawK = some true := hk
  refine (law_calls (fn := Tryd.f5) (c := Tryd.f5.body.getD .skip) (by kernel_rfl) (by kernel_rfl) (by kernel_rfl) (D_law10_LineLines k hrun) (vals := [v0]) ⟨v0, _, rfl, rv0, rfl⟩).mono fun e W' ⟨he, bel⟩ => ?_
  subst he
  exact ⟨_, rfl, _, _, _, [], _, [], hW', trodAll_mk1 (shut_bool Tryd.underlying4 _), (trodAll_cons_mk (Below.trod laidOut (by kernel_rfl) (of_decide_eq_true (by kernel_rfl)) k0 bel lt0) trodAll_mk0), rfl, bel.frame _, fun h => by cases h⟩
theorem over : Rows.lineLinesRow.holds Tryd.pinned (OpenSpec.ofChange Rows.lineLinesSpec) :=
  OpenClaim.holds_of_wide 5 Tryd.f5 rfl rfl rfl rfl rfl rfl rfl ⟨rfl, rfl, rfl, rfl, rfl⟩ rfl rfl rfl rfl rfl (by kernel_rfl) Tryd.func5 (by kernel_rfl)
    (of_decide_eq_true (by kernel_rfl)) (by unfold Func.isWrapper; first | (rw [if_pos (by decide +kernel)]; kernel_rfl) | (rw [if_neg (by decide +kernel)]; exact ⟨rfl, rfl⟩))
    (fun os started H enc _ => lifted os started H enc)
theorem tied : Rows.LineLinesCardSaid :=
  Claim7.holds_tied_plain_at .later [] [.data, .pinned] true (true, "0932244c124e6fc7e814d405ee82d3b53ff1dcee37c1454ede2257adf2efed17") false over (fun _ h => by cases h) (by kernel_rfl) (fun _ h => by cases h) lineLines_row_tie rfl ⟨rfl, rfl⟩ (by kernel_rfl) rfl
    (fun f fn hf hfn => by
      obtain rfl : f = 5 := Option.some.inj ((show Tryd.prog.funcNamed Rows.lineLinesRow.func = some 5 by kernel_rfl).symm.trans hf) |>.symm
      obtain rfl : fn = Tryd.f5 := (Option.some.inj (Tryd.func5.symm.trans hfn)).symm
      exact ⟨by kernel_rfl, fun j t ht => by
        rw [Tryd.params5] at ht
        have hm : t ∈ [26] := by simpa using Array.mem_of_getElem? ht
        have hall : ([26].all fun u => !Tryd.prog.wantsStandIn u) = true := by kernel_rfl
        exact (show Tryd.prog.wantsStandIn t = false by simpa using List.all_eq_true.1 hall t hm)⟩)
    (by kernel_rfl)
#print axioms tied
end Go.Proofs.YtdbnlohjjoigeaaDoor.lineLines
namespace Go.Proofs.YtdbnlohjjoigeaaDoor
/-- The tied card, under a short name. -/
theorem lineLines_holds : Rows.LineLinesCardSaid := lineLines.tied
end Go.Proofs.YtdbnlohjjoigeaaDoor
