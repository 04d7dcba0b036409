/- The pieces of many lines, as lex.All tells them, are those that the reference tells, or the first fault: for every list of lines that can be read, under no further condition. -/
import Derived.Test.YtfbagjjnfpgjkaaRows
import Derived.Test.YtfbagjjnfpgjkaaLexAllM0
import Derived.Test.YtfbagjjnfpgjkaaLexAllM1
import Derived.Test.YtfbagjjnfpgjkaaLexAllM2
import Derived.Test.YtfbagjjnfpgjkaaLexAllM3
set_option linter.unusedVariables false
set_option linter.unusedSimpArgs false
set_option linter.unusedSectionVars false
set_option linter.unusedVariables false
set_option linter.unusedSimpArgs false
namespace Go.Proofs.Ytfbagjjnfpgjkaa.Pvm
open Go

theorem cast_two (n : Nat) : (n : Int) + 2 = ((n + 2 : Nat) : Int) := by omega
theorem cast_add (a b : Nat) : (a : Int) + (b : Int) = ((a + b : Nat) : Int) := by omega
theorem all_u8 (P : UInt8 → Bool) (h : (List.range 256).all (fun n => P (UInt8.ofNat n)) = true) (c : UInt8) : P c = true := by
  rw [List.all_eq_true] at h
  have := h c.toNat (List.mem_range.2 c.toNat_lt)
  simpa using this
theorem toBytes_snoc (l : List UInt8) (c : UInt8) : toBytes l ++ [(c.toNat : Int)] = toBytes (l ++ [c]) := by simp [toBytes]
theorem ofBytes_toBytes (l : List UInt8) : ofBytes (toBytes l) = l := by
  unfold ofBytes toBytes
  rw [List.map_map]
  conv => rhs; rw [← List.map_id l]
  congr 1
  funext c
  simp
theorem allB_toBytes : ∀ l : List UInt8, allB (toBytes l) = true
  | [] => rfl
  | c :: r => by
    have h1 := c.toNat_lt
    have := allB_toBytes r
    rw [toBytes] at this ⊢
    rw [List.map_cons, allB, this]
    simp
    omega
theorem toBytes_len (l : List UInt8) : (toBytes l).length = l.length := by simp [toBytes]
theorem WriteByte_eq (k : Nat) {R : Type} (l : List UInt8) (c : UInt8) (x : Int) (K : List Int → Option R) (hx : x = (c.toNat : Int)) (hl : l.length ≤ 10000000) : F_strings_Builder_WriteByte k (toBytes l) x K = K (toBytes (l ++ [c])) := by
  subst hx
  unfold F_strings_Builder_WriteByte A_strings_Builder_WriteByte F_strings_Builder_copyCheck
  dsimp only
  rw [fits_t (by rw [toBytes_len]; simp; omega) (by rw [toBytes_len]; simp; omega), cond_true, toBytes_snoc]
theorem String_eq (k : Nat) {R : Type} (l : List UInt8) (K : List Int → List UInt8 → Option R) : F_strings_Builder_String k (toBytes l) K = K (toBytes l) l := by
  unfold F_strings_Builder_String
  rw [allB_toBytes, cond_true, ofBytes_toBytes]

/-! ### digits of sixteen, and what a backslash takes -/
def hexv (c : UInt8) : Option Nat := bif decide (48 ≤ c.toNat) && decide (c.toNat ≤ 57) then some (c.toNat - 48) else bif decide (97 ≤ c.toNat) && decide (c.toNat ≤ 102) then some (c.toNat - 87) else none
def hexI (c : UInt8) : Int := match hexv c with | some x => (x : Int) | none => -1
def hexL : List UInt8 := [48, 49, 50, 51, 52, 53, 54, 55, 56, 57, 97, 98, 99, 100, 101, 102]
theorem idx_hex (c : UInt8) : idxByte hexL (c.toNat : Int) = hexI c := by
  have := all_u8 (fun c => (if upto c hexL < hexL.length then (upto c hexL : Int) else -1) == hexI c) (by kernel_rfl) c
  rw [idx_eq]
  exact beq_iff_eq.1 this
theorem small_eq (k : Nat) {R : Type} (c : UInt8) (K : Int → Option R) : F_ref10_small k (c.toNat : Int) K = K (hexI c) := by
  have h1 := c.toNat_lt
  unfold F_ref10_small A_ref10_small hexI hexv
  by_cases h2 : 48 ≤ c.toNat ∧ c.toNat ≤ 57
  · simp (disch := omega) only [dec_t, dec_f, ieq_t, ieq_f, ine_t, ine_f, inb_t, bnd_t, wrap_id, wrap8_id, cond_true, cond_false, Bool.not_true, Bool.not_false, Bool.true_or, Bool.or_true, Bool.false_or, Bool.or_false, Bool.true_and, Bool.and_true, Bool.false_and, Bool.and_false, bool_eq_true', bool_eq_false', toNat_cast']
    congr 1
    omega
  · by_cases h3 : 97 ≤ c.toNat ∧ c.toNat ≤ 102
    · have e1 : (decide ((c.toNat : Int) ≥ 48) && decide ((c.toNat : Int) ≤ 57)) = false := by simp; omega
      have e2 : (decide (48 ≤ c.toNat) && decide (c.toNat ≤ 57)) = false := by simp; omega
      have e3 : (bif decide ((c.toNat : Int) ≥ 48) then decide ((c.toNat : Int) ≤ 57) else false) = false := by rw [Bool.cond_false_right]; exact e1
      rw [e2, e3]
      simp (disch := omega) only [dec_t, dec_f, ieq_t, ieq_f, ine_t, ine_f, inb_t, bnd_t, wrap_id, wrap8_id, cond_true, cond_false, Bool.not_true, Bool.not_false, Bool.true_or, Bool.or_true, Bool.false_or, Bool.or_false, Bool.true_and, Bool.and_true, Bool.false_and, Bool.and_false, bool_eq_true', bool_eq_false', toNat_cast']
      congr 1
      omega
    · have e1 : (decide ((c.toNat : Int) ≥ 48) && decide ((c.toNat : Int) ≤ 57)) = false := by simp; omega
      have e2 : (decide (48 ≤ c.toNat) && decide (c.toNat ≤ 57)) = false := by simp; omega
      have e3 : (bif decide ((c.toNat : Int) ≥ 48) then decide ((c.toNat : Int) ≤ 57) else false) = false := by rw [Bool.cond_false_right]; exact e1
      have f1 : (decide ((c.toNat : Int) ≥ 97) && decide ((c.toNat : Int) ≤ 102)) = false := by simp; omega
      have f2 : (decide (97 ≤ c.toNat) && decide (c.toNat ≤ 102)) = false := by simp; omega
      have f3 : (bif decide ((c.toNat : Int) ≥ 97) then decide ((c.toNat : Int) ≤ 102) else false) = false := by rw [Bool.cond_false_right]; exact f1
      rw [e2, e3, f2, f3]
      rfl
theorem hexv_lt {c : UInt8} {x : Nat} (h : hexv c = some x) : x < 16 := by
  have h1 := c.toNat_lt
  unfold hexv at h
  cases h2 : (decide (48 ≤ c.toNat) && decide (c.toNat ≤ 57)) with
  | true =>
    rw [h2] at h
    simp at h h2
    omega
  | false =>
    rw [h2, cond_false] at h
    cases h3 : (decide (97 ≤ c.toNat) && decide (c.toNat ≤ 102)) with
    | true =>
      rw [h3] at h
      simp at h h3
      omega
    | false => rw [h3] at h; cases h
/-- what a backslash makes of what is behind it, and how many bytes that has -/
def tak : List UInt8 → Option (UInt8 × Nat)
  | [] => none
  | c :: r => bif c == 92 then some (c, 1) else bif c == 34 then some (c, 1) else bif c == 110 then some (10, 1) else bif c == 116 then some (9, 1) else bif c == 120 then
      (match r with
      | a :: b :: _ => match hexv a, hexv b with
        | some x, some y => some (UInt8.ofNat (16 * x + y), 3)
        | _, _ => none
      | _ => none)
    else none
theorem tak_le {s : List UInt8} {c : UInt8} {m : Nat} (h : tak s = some (c, m)) : 1 ≤ m ∧ m ≤ s.length := by
  unfold tak at h
  split at h
  · cases h
  · next a r =>
    cases h1 : a == 92 <;> rw [h1] at h <;> simp only [cond_true, cond_false] at h
    · cases h2 : a == 34 <;> rw [h2] at h <;> simp only [cond_true, cond_false] at h
      · cases h3 : a == 110 <;> rw [h3] at h <;> simp only [cond_true, cond_false] at h
        · cases h4 : a == 116 <;> rw [h4] at h <;> simp only [cond_true, cond_false] at h
          · cases h5 : a == 120 <;> rw [h5] at h <;> simp only [cond_true, cond_false] at h
            · cases h
            · split at h
              · split at h
                · cases h; simp
                · cases h
              · cases h
          · cases h; simp
        · cases h; simp
      · cases h; simp
    · cases h; simp
abbrev Pc := Int × (Int × (Int × (List UInt8 × Bool)))
theorem gives_eq (k : Nat) {R : Type} (x0 x1 : Int) (x2 : List UInt8) (x3 : Int) (x4 : List Pc) (kd : Int) (K : Int → Int → List UInt8 → Int → List Pc → Option R) (E : Int → Int → List UInt8 → Int → List Pc → Int → Int → Option R) :
    F_lex_lexer_gives k x0 x1 x2 x3 x4 kd K E = E x0 x1 x2 x3 x4 kd x0 := rfl
theorem IndexByte_eq (k : Nat) {R : Type} (s : List UInt8) (c : Int) (K : Int → Option R) : F_strings_IndexByte k s c K = K (idxByte s c) := rfl
theorem hexI_neg {c : UInt8} (h : hexv c = none) : hexI c = -1 := by unfold hexI; rw [h]
theorem hexI_some {c : UInt8} {x : Nat} (h : hexv c = some x) : hexI c = (x : Int) := by unfold hexI; rw [h]
theorem byte_of (x y : Nat) (hx : x < 16) (hy : y < 16) : IntKind.u8.wrap (IntKind.i64.wrap (IntKind.i64.wrap (16 * (x : Int)) + (y : Int))) = ((UInt8.ofNat (16 * x + y)).toNat : Int) := by
  simp (disch := omega) only [wrap_id, wrap8_id]
  rw [UInt8.toNat_ofNat']
  omega
theorem lex_taken_eq (k : Nat) {R : Type} (x0 x1 : Int) (x2 : List UInt8) (x3 : Int) (x4 : List Pc) (s : List UInt8) (hs : s.length ≤ 10000000) (K : Int → Int → List UInt8 → Int → List Pc → Int → Int → Option R) (E : Int → Int → List UInt8 → Int → List Pc → Int → Int → Option R) :
    F_lex_lexer_taken k x0 x1 x2 x3 x4 s K E = match tak s with
      | some (c, m) => K x0 x1 x2 x3 x4 (c.toNat : Int) (m : Int)
      | none => E x0 x1 x2 x3 x4 3 x0 := by
  unfold F_lex_lexer_taken A_lex_lexer_taken
  simp only [gives_eq]
  cases s with
  | nil => rfl
  | cons c r =>
    have h0 : ((c :: r) == ([] : List UInt8)) = false := rfl
    have hi : inb 0 ((c :: r).length : Int) = true := inb_t (by omega) (by rw [List.length_cons]; omega)
    have hg : (c :: r).getD (Int.toNat 0) 0 = c := rfl
    have e1 : ((c.toNat : Int) == 92) = (c == 92) := u8_beq c 92 (by omega)
    have e2 : ((c.toNat : Int) == 34) = (c == 34) := u8_beq c 34 (by omega)
    have e3 : ((c.toNat : Int) == 110) = (c == 110) := u8_beq c 110 (by omega)
    have e4 : ((c.toNat : Int) == 116) = (c == 116) := u8_beq c 116 (by omega)
    have e5 : ((c.toNat : Int) == 120) = (c == 120) := u8_beq c 120 (by omega)
    simp only [h0, hi, hg, e1, e2, e3, e4, e5, cond_true, cond_false, tak, IndexByte_eq]
    cases h1 : c == 92
    case true => rfl
    simp only [cond_false]
    cases h2 : c == 34
    case true => rfl
    simp only [cond_false]
    cases h3 : c == 110
    case true => rfl
    simp only [cond_false]
    cases h4 : c == 116
    case true => rfl
    simp only [cond_false]
    cases h5 : c == 120
    case false => rfl
    simp only [cond_true]
    match r with
    | [] => rfl
    | [a] => rfl
    | a :: b :: t =>
      have g1 : decide (((c :: a :: b :: t).length : Int) < 3) = false := dec_f (by simp; omega)
      have i1 : inb 1 ((c :: a :: b :: t).length : Int) = true := inb_t (by omega) (by simp; omega)
      have i2 : inb 2 ((c :: a :: b :: t).length : Int) = true := inb_t (by omega) (by simp; omega)
      have j1 : (c :: a :: b :: t).getD (Int.toNat 1) 0 = a := rfl
      have j2 : (c :: a :: b :: t).getD (Int.toNat 2) 0 = b := rfl
      have k1 := idx_hex a
      have k2 := idx_hex b
      unfold hexL at k1 k2
      simp only [g1, i1, i2, j1, j2, cond_true, cond_false, k1, k2]
      cases ha : hexv a with
      | none => rw [hexI_neg ha]; rfl
      | some x =>
        cases hb : hexv b with
        | none =>
          rw [hexI_some ha, hexI_neg hb]
          have := hexv_lt ha
          simp (disch := omega) only [dec_t, dec_f, ieq_t, ieq_f, ine_t, ine_f, inb_t, bnd_t, wrap_id, wrap8_id, cond_true, cond_false, Bool.not_true, Bool.not_false, Bool.true_or, Bool.or_true, Bool.false_or, Bool.or_false, Bool.true_and, Bool.and_true, Bool.false_and, Bool.and_false, bool_eq_true', bool_eq_false', toNat_cast']
        | some y =>
          have h1 := hexv_lt ha
          have h2 := hexv_lt hb
          rw [hexI_some ha, hexI_some hb]
          simp (disch := omega) only [dec_f, cond_false, byte_of]
          rfl

/-! ### single quotes -/
/-- what stands between, and what is left behind the end -/
def sgl : List UInt8 → List UInt8 → Option (List UInt8 × List UInt8)
  | _, [] => none
  | acc, [c] => bif c == 39 then some (acc, []) else none
  | acc, c :: d :: r => bif c == 39 then (bif d == 39 then sgl (acc ++ [39]) r else some (acc, d :: r)) else sgl (acc ++ [c]) (d :: r)
theorem sgl_other (acc : List UInt8) (c : UInt8) (r : List UInt8) (h : (c == 39) = false) : sgl acc (c :: r) = sgl (acc ++ [c]) r := by
  cases r with
  | nil => simp [sgl, h]
  | cons d r => rw [sgl, h, cond_false]
theorem sgl_le : ∀ {acc t a r}, sgl acc t = some (a, r) → r.length < t.length
  | _, [], _, _, h => by simp [sgl] at h
  | acc, [c], a, r, h => by
    rw [sgl] at h
    cases hc : c == 39 with
    | true => rw [hc] at h; cases h; simp
    | false => rw [hc] at h; cases h
  | acc, c :: d :: t, a, r, h => by
    rw [sgl] at h
    cases hc : c == 39 with
    | true =>
      rw [hc, cond_true] at h
      cases hd : d == 39 with
      | true => rw [hd, cond_true] at h; have := sgl_le h; simp; omega
      | false => rw [hd] at h; cases h; simp
    | false => rw [hc, cond_false] at h; have := sgl_le h; simp at this ⊢; omega
theorem lex_single_loop (k : Nat) {R : Type} (x0 x1 : Int) (x2 : List UInt8) (x3 : Int) (x4 : List Pc) (s : List UInt8) (hs : s.length ≤ 1000000) (K : Int → Int → List UInt8 → Int → List Pc → List UInt8 → Int → Option R) (E : Int → Int → List UInt8 → Int → List Pc → Int → Int → Option R) :
    ∀ (m : Nat) (t : List UInt8) (n : Nat) (acc : List UInt8), s.drop n = t → t.length < m → n ≤ s.length → acc.length ≤ n → L_lex_lexer_single_1003 k m x0 x1 x2 x3 x4 s (toBytes acc) (n : Int) K E = match sgl acc t with
      | some (a, r) => K x0 x1 x2 x3 x4 a ((s.length - r.length : Nat) : Int)
      | none => E x0 x1 x2 x3 x4 3 x0
  | 0, t, n, acc, _, hm, _, _ => by omega
  | m + 1, [], n, acc, hd, hm, hn, ha => by
    have := drop_nil hd
    rw [L_lex_lexer_single_1003, B_lex_lexer_single_1003]
    simp (disch := omega) only [dec_t, dec_f, ieq_t, ieq_f, ine_t, ine_f, inb_t, bnd_t, wrap_id, wrap8_id, cond_true, cond_false, Bool.not_true, Bool.not_false, Bool.true_or, Bool.or_true, Bool.false_or, Bool.or_false, Bool.true_and, Bool.and_true, Bool.false_and, Bool.and_false, bool_eq_true', bool_eq_false', toNat_cast', gives_eq]
    rfl
  | m + 1, c :: t, n, acc, hd, hm, hn, ha => by
    obtain ⟨hlt, hc, hr⟩ := drop_cons' hd
    have e39 : ((c.toNat : Int) != 39) = !(c == 39) := u8_bne c 39 (by omega)
    simp only [List.length_cons] at hm
    rw [L_lex_lexer_single_1003, B_lex_lexer_single_1003]
    simp (disch := omega) only [dec_t, dec_f, ieq_t, ieq_f, ine_t, ine_f, inb_t, bnd_t, wrap_id, wrap8_id, cond_true, cond_false, Bool.not_true, Bool.not_false, Bool.true_or, Bool.or_true, Bool.false_or, Bool.or_false, Bool.true_and, Bool.and_true, Bool.false_and, Bool.and_false, bool_eq_true', bool_eq_false', toNat_cast', hc, e39, cast_succ]
    cases hb : c == 39 with
    | false =>
      simp only [Bool.not_false, cond_true]
      rw [WriteByte_eq k acc c _ _ rfl (by omega), sgl_other acc c t hb]
      exact lex_single_loop k x0 x1 x2 x3 x4 s hs K E m t (n + 1) (acc ++ [c]) hr (by omega) (by omega) (by simp; omega)
    | true =>
      have := beq_iff_eq.1 hb
      subst this
      simp only [Bool.not_true, cond_false]
      cases t with
      | nil =>
        have h1 := drop_nil hr
        simp (disch := omega) only [dec_t, dec_f, ieq_t, ieq_f, ine_t, ine_f, inb_t, bnd_t, wrap_id, wrap8_id, cond_true, cond_false, Bool.not_true, Bool.not_false, Bool.true_or, Bool.or_true, Bool.false_or, Bool.or_false, Bool.true_and, Bool.and_true, Bool.false_and, Bool.and_false, bool_eq_true', bool_eq_false', toNat_cast', String_eq, sgl]
        have : s.length = n + 1 := by omega
        simp [this]
      | cons d r =>
        obtain ⟨hlt2, hd2, hr2⟩ := drop_cons' hr
        have e39' : ((d.toNat : Int) != 39) = !(d == 39) := u8_bne d 39 (by omega)
        simp (disch := omega) only [dec_t, dec_f, ieq_t, ieq_f, ine_t, ine_f, inb_t, bnd_t, wrap_id, wrap8_id, cond_true, cond_false, Bool.not_true, Bool.not_false, Bool.true_or, Bool.or_true, Bool.false_or, Bool.or_false, Bool.true_and, Bool.and_true, Bool.false_and, Bool.and_false, bool_eq_true', bool_eq_false', toNat_cast', hd2, e39', sgl, hb]
        cases hdb : d == 39 with
        | true =>
          simp only [Bool.not_true, cond_false, cond_true]
          rw [WriteByte_eq k acc 39 39 _ rfl (by omega)]
          simp only [List.length_cons] at hm
          exact lex_single_loop k x0 x1 x2 x3 x4 s hs K E m r (n + 1 + 1) (acc ++ [39]) hr2 (by omega) (by omega) (by simp; omega)
        | false =>
          simp only [Bool.not_false, cond_true, cond_false, String_eq]
          have : s.length - (d :: r).length = n + 1 := by
            have := congrArg List.length hr
            rw [List.length_drop] at this
            omega
          rw [this]
theorem lex_single_eq (k : Nat) {R : Type} (x0 x1 : Int) (x2 : List UInt8) (x3 : Int) (x4 : List Pc) (c : UInt8) (t : List UInt8) (hs : (c :: t).length ≤ 1000000) (hk : (c :: t).length < k) (K : Int → Int → List UInt8 → Int → List Pc → List UInt8 → Int → Option R) (E : Int → Int → List UInt8 → Int → List Pc → Int → Int → Option R) :
    F_lex_lexer_single k x0 x1 x2 x3 x4 (c :: t) K E = match sgl [] t with
      | some (a, r) => K x0 x1 x2 x3 x4 a (((c :: t).length - r.length : Nat) : Int)
      | none => E x0 x1 x2 x3 x4 3 x0 := by
  unfold F_lex_lexer_single A_lex_lexer_single
  exact lex_single_loop k x0 x1 x2 x3 x4 (c :: t) hs K E k t 1 [] rfl (by simp at hk; omega) (by simp) (by simp)

/-! ### double quotes -/
def dbl : Nat → List UInt8 → List UInt8 → Option (List UInt8 × List UInt8)
  | 0, _, _ => none
  | _ + 1, _, [] => none
  | n + 1, acc, c :: r => bif c == 34 then some (acc, r) else bif c == 92 then (match tak r with
      | some (d, m) => dbl n (acc ++ [d]) (r.drop m)
      | none => none) else dbl n (acc ++ [c]) r
theorem dbl_le : ∀ {n acc t a r}, dbl n acc t = some (a, r) → r.length < t.length
  | 0, _, _, _, _, h => by simp [dbl] at h
  | n + 1, _, [], _, _, h => by simp [dbl] at h
  | n + 1, acc, c :: t, a, r, h => by
    rw [dbl] at h
    cases hc : c == 34 with
    | true => rw [hc] at h; cases h; simp
    | false =>
      rw [hc, cond_false] at h
      cases hd : c == 92 with
      | true =>
        rw [hd, cond_true] at h
        split at h
        · next d m _ => have := dbl_le h; simp at this ⊢; omega
        · cases h
      | false => rw [hd, cond_false] at h; have := dbl_le h; simp; omega
theorem lex_double_loop (k : Nat) {R : Type} (x0 x1 : Int) (x2 : List UInt8) (x3 : Int) (x4 : List Pc) (s : List UInt8) (hs : s.length ≤ 1000000) (K : Int → Int → List UInt8 → Int → List Pc → List UInt8 → Int → Option R) (E : Int → Int → List UInt8 → Int → List Pc → Int → Int → Option R) :
    ∀ (m : Nat) (t : List UInt8) (n f : Nat) (acc : List UInt8), s.drop n = t → t.length < m → n ≤ s.length → acc.length ≤ n → t.length < f → L_lex_lexer_double_1003 k m x0 x1 x2 x3 x4 s (toBytes acc) (n : Int) K E = match dbl f acc t with
      | some (a, r) => K x0 x1 x2 x3 x4 a ((s.length - r.length : Nat) : Int)
      | none => E x0 x1 x2 x3 x4 3 x0
  | 0, t, n, f, acc, _, hm, _, _, _ => by omega
  | m + 1, t, n, 0, acc, _, _, _, _, hf => by omega
  | m + 1, [], n, f + 1, acc, hd, hm, hn, ha, hf => by
    have := drop_nil hd
    rw [L_lex_lexer_double_1003, B_lex_lexer_double_1003]
    simp (disch := omega) only [dec_t, dec_f, ieq_t, ieq_f, ine_t, ine_f, inb_t, bnd_t, wrap_id, wrap8_id, cond_true, cond_false, Bool.not_true, Bool.not_false, Bool.true_or, Bool.or_true, Bool.false_or, Bool.or_false, Bool.true_and, Bool.and_true, Bool.false_and, Bool.and_false, bool_eq_true', bool_eq_false', toNat_cast', gives_eq]
    rfl
  | m + 1, c :: t, n, f + 1, acc, hd, hm, hn, ha, hf => by
    obtain ⟨hlt, hc, hr⟩ := drop_cons' hd
    have e34 : ((c.toNat : Int) == 34) = (c == 34) := u8_beq c 34 (by omega)
    have e92 : ((c.toNat : Int) == 92) = (c == 92) := u8_beq c 92 (by omega)
    simp only [List.length_cons] at hm hf
    have hlen := congrArg List.length hr
    rw [List.length_drop] at hlen
    rw [L_lex_lexer_double_1003, B_lex_lexer_double_1003, dbl]
    simp (disch := omega) only [dec_t, dec_f, ieq_t, ieq_f, ine_t, ine_f, inb_t, bnd_t, wrap_id, wrap8_id, cond_true, cond_false, Bool.not_true, Bool.not_false, Bool.true_or, Bool.or_true, Bool.false_or, Bool.or_false, Bool.true_and, Bool.and_true, Bool.false_and, Bool.and_false, bool_eq_true', bool_eq_false', toNat_cast', hc, e34, e92, cast_succ, String_eq, cut_end, hr]
    cases hb : c == 34 with
    | true =>
      simp only [cond_true]
      have : s.length - t.length = n + 1 := by omega
      rw [this]
    | false =>
      simp only [cond_false]
      cases hb2 : c == 92 with
      | true =>
        simp only [cond_true]
        rw [lex_taken_eq k x0 x1 x2 x3 x4 t (by omega)]
        cases ht : tak t with
        | none => rfl
        | some p =>
          obtain ⟨d, q⟩ := p
          obtain ⟨h1, h2⟩ := tak_le ht
          simp only []
          rw [WriteByte_eq k acc d _ _ rfl (by omega)]
          simp (disch := omega) only [cast_add, cast_succ, wrap_id]
          exact lex_double_loop k x0 x1 x2 x3 x4 s hs K E m (t.drop q) (n + q + 1) f (acc ++ [d]) (by rw [← hr, List.drop_drop]; congr 1; omega) (by simp; omega) (by omega) (by simp; omega) (by simp; omega)
      | false =>
        simp only [cond_false]
        rw [WriteByte_eq k acc c _ _ rfl (by omega)]
        exact lex_double_loop k x0 x1 x2 x3 x4 s hs K E m t (n + 1) f (acc ++ [c]) hr (by omega) (by omega) (by simp; omega) (by omega)
theorem lex_double_eq (k : Nat) {R : Type} (x0 x1 : Int) (x2 : List UInt8) (x3 : Int) (x4 : List Pc) (c : UInt8) (t : List UInt8) (hs : (c :: t).length ≤ 1000000) (hk : (c :: t).length < k) (K : Int → Int → List UInt8 → Int → List Pc → List UInt8 → Int → Option R) (E : Int → Int → List UInt8 → Int → List Pc → Int → Int → Option R) :
    F_lex_lexer_double k x0 x1 x2 x3 x4 (c :: t) K E = match dbl (t.length + 1) [] t with
      | some (a, r) => K x0 x1 x2 x3 x4 a (((c :: t).length - r.length : Nat) : Int)
      | none => E x0 x1 x2 x3 x4 3 x0 := by
  unfold F_lex_lexer_double A_lex_lexer_double
  exact lex_double_loop k x0 x1 x2 x3 x4 (c :: t) hs K E k t 1 (t.length + 1) [] rfl (by simp at hk; omega) (by simp) (by simp) (by omega)
end Go.Proofs.Ytfbagjjnfpgjkaa.Pvm

set_option linter.unusedVariables false
set_option linter.unusedSimpArgs false
namespace Go.Proofs.Ytfbagjjnfpgjkaa.Pvm
open Go

def sgL : List UInt8 := [91, 93, 123, 125, 38, 42, 33, 124, 62, 37, 64, 44, 63, 96]
def oddB (c : UInt8) : Bool := sgL.any (· == c)
theorem idx_sg (c : UInt8) : decide (idxByte sgL (c.toNat : Int) ≥ 0) = oddB c := by
  have := all_u8 (fun c => decide ((if upto c sgL < sgL.length then (upto c sgL : Int) else -1) ≥ 0) == oddB c) (by kernel_rfl) c
  rw [idx_eq]
  exact beq_iff_eq.1 this
theorem ref10_odd_loop (k : Nat) {R : Type} (c : UInt8) (K : Bool → Option R) : ∀ (t : List UInt8) (n m : Nat), sgL.drop n = t → t.length < m → n ≤ 14 → L_ref10_odd_1002 k m (c.toNat : Int) (n : Int) K = K (t.any (· == c))
  | t, n, 0, _, hm, _ => by omega
  | [], n, m + 1, hd, hm, hn => by
    have := drop_nil hd
    have h14 : sgL.length = 14 := rfl
    rw [L_ref10_odd_1002, B_ref10_odd_1002]
    simp (disch := omega) only [dec_t, dec_f, ieq_t, ieq_f, ine_t, ine_f, inb_t, bnd_t, wrap_id, wrap8_id, cond_true, cond_false, Bool.not_true, Bool.not_false, Bool.true_or, Bool.or_true, Bool.false_or, Bool.or_false, Bool.true_and, Bool.and_true, Bool.false_and, Bool.and_false, bool_eq_true', bool_eq_false', toNat_cast']
    rfl
  | d :: r, n, m + 1, hd, hm, hn => by
    obtain ⟨hlt, hc, hr⟩ := drop_cons' hd
    have h14 : sgL.length = 14 := rfl
    have h14' : ([91, 93, 123, 125, 38, 42, 33, 124, 62, 37, 64, 44, 63, 96] : List UInt8).length = 14 := rfl
    have hc : ∀ e, ([91, 93, 123, 125, 38, 42, 33, 124, 62, 37, 64, 44, 63, 96] : List UInt8).getD n e = d := hc
    have e : ((d.toNat : Int) == (c.toNat : Int)) = (d == c) := by
      rw [Bool.eq_iff_iff]
      simp only [beq_iff_eq]
      constructor
      · intro h; exact UInt8.toNat_inj.1 (by omega)
      · intro h; rw [h]
    rw [L_ref10_odd_1002, B_ref10_odd_1002]
    simp (disch := omega) only [dec_t, dec_f, ieq_t, ieq_f, ine_t, ine_f, inb_t, bnd_t, wrap_id, wrap8_id, cond_true, cond_false, Bool.not_true, Bool.not_false, Bool.true_or, Bool.or_true, Bool.false_or, Bool.or_false, Bool.true_and, Bool.and_true, Bool.false_and, Bool.and_false, bool_eq_true', bool_eq_false', toNat_cast', hc, e, cast_succ, h14']
    rw [ref10_odd_loop k c K r (n + 1) m hr (by simp at hm; omega) (by omega)]
    cases hb : d == c <;> simp [hb]
theorem ref10_odd_eq (k : Nat) {R : Type} (c : UInt8) (K : Bool → Option R) (hk : 14 < k) : F_ref10_odd k (c.toNat : Int) K = K (oddB c) := by
  unfold F_ref10_odd A_ref10_odd
  exact ref10_odd_loop k c K sgL 0 k rfl (by simpa [sgL] using hk) (by omega)

theorem ref10_meant_single (k : Nat) {R : Type} (s : List UInt8) (hs : s.length ≤ 1000000) (K : List UInt8 → Bool → Option R) :
    ∀ (m : Nat) (t : List UInt8) (n : Nat) (acc : List UInt8), s.drop n = t → t.length < m → n ≤ s.length → acc.length ≤ n → L_ref10_meant_1004 k m s (toBytes acc) 39 (n : Int) K = match sgl acc t with
      | some (a, r) => K a (r == [])
      | none => K [] false
  | 0, t, n, acc, _, hm, _, _ => by omega
  | m + 1, [], n, acc, hd, hm, hn, ha => by
    have := drop_nil hd
    rw [L_ref10_meant_1004, B_ref10_meant_1004]
    simp (disch := omega) only [dec_t, dec_f, ieq_t, ieq_f, ine_t, ine_f, inb_t, bnd_t, wrap_id, wrap8_id, cond_true, cond_false, Bool.not_true, Bool.not_false, Bool.true_or, Bool.or_true, Bool.false_or, Bool.or_false, Bool.true_and, Bool.and_true, Bool.false_and, Bool.and_false, bool_eq_true', bool_eq_false', toNat_cast']
    rfl
  | m + 1, c :: t, n, acc, hd, hm, hn, ha => by
    obtain ⟨hlt, hc, hr⟩ := drop_cons' hd
    have e39 : ((c.toNat : Int) == 39) = (c == 39) := u8_beq c 39 (by omega)
    have f1 : fits (toBytes acc).length 1 1 = true := fits_t (by rw [toBytes_len]; omega) (by rw [toBytes_len]; omega)
    simp only [List.length_cons] at hm
    rw [L_ref10_meant_1004, B_ref10_meant_1004]
    simp (disch := omega) only [dec_t, dec_f, ieq_t, ieq_f, ine_t, ine_f, inb_t, bnd_t, wrap_id, wrap8_id, cond_true, cond_false, Bool.not_true, Bool.not_false, Bool.true_or, Bool.or_true, Bool.false_or, Bool.or_false, Bool.true_and, Bool.and_true, Bool.false_and, Bool.and_false, bool_eq_true', bool_eq_false', toNat_cast', hc, e39, cast_succ, ofBytes_toBytes, List.length_singleton, f1]
    cases hb : c == 39 with
    | false =>
      simp only [cond_false, cond_true]
      rw [toBytes_snoc, sgl_other acc c t hb]
      exact ref10_meant_single k s hs K m t (n + 1) (acc ++ [c]) hr (by omega) (by omega) (by simp; omega)
    | true =>
      have := beq_iff_eq.1 hb
      subst this
      simp only [cond_true]
      cases t with
      | nil =>
        have h1 := drop_nil hr
        simp (disch := omega) only [dec_t, dec_f, ieq_t, ieq_f, ine_t, ine_f, inb_t, bnd_t, wrap_id, wrap8_id, cond_true, cond_false, Bool.not_true, Bool.not_false, Bool.true_or, Bool.or_true, Bool.false_or, Bool.or_false, Bool.true_and, Bool.and_true, Bool.false_and, Bool.and_false, bool_eq_true', bool_eq_false', toNat_cast', sgl]
        rfl
      | cons d r =>
        obtain ⟨hlt2, hd2, hr2⟩ := drop_cons' hr
        have e39' : ((d.toNat : Int) == 39) = (d == 39) := u8_beq d 39 (by omega)
        simp (disch := omega) only [dec_t, dec_f, ieq_t, ieq_f, ine_t, ine_f, inb_t, bnd_t, wrap_id, wrap8_id, cond_true, cond_false, Bool.not_true, Bool.not_false, Bool.true_or, Bool.or_true, Bool.false_or, Bool.or_false, Bool.true_and, Bool.and_true, Bool.false_and, Bool.and_false, bool_eq_true', bool_eq_false', toNat_cast', hd2, e39', sgl, hb]
        cases hdb : d == 39 with
        | true =>
          simp only [cond_true]
          simp only [List.length_cons] at hm
          have e : toBytes acc ++ [(39 : Int)] = toBytes (acc ++ [39]) := toBytes_snoc acc 39
          rw [e]
          exact ref10_meant_single k s hs K m r (n + 1 + 1) (acc ++ [39]) hr2 (by omega) (by omega) (by simp; omega)
        | false =>
          simp only [cond_false]
          rfl
theorem ref10_meant_double (k : Nat) {R : Type} (s : List UInt8) (hs : s.length ≤ 1000000) (K : List UInt8 → Bool → Option R) :
    ∀ (m : Nat) (t : List UInt8) (n f : Nat) (acc : List UInt8), s.drop n = t → t.length < m → n ≤ s.length → acc.length ≤ n → t.length < f → L_ref10_meant_1004 k m s (toBytes acc) 34 (n : Int) K = match dbl f acc t with
      | some (a, r) => K a (r == [])
      | none => K [] false
  | 0, t, n, f, acc, _, hm, _, _, _ => by omega
  | m + 1, t, n, 0, acc, _, _, _, _, hf => by omega
  | m + 1, [], n, f + 1, acc, hd, hm, hn, ha, hf => by
    have := drop_nil hd
    rw [L_ref10_meant_1004, B_ref10_meant_1004]
    simp (disch := omega) only [dec_t, dec_f, ieq_t, ieq_f, ine_t, ine_f, inb_t, bnd_t, wrap_id, wrap8_id, cond_true, cond_false, Bool.not_true, Bool.not_false, Bool.true_or, Bool.or_true, Bool.false_or, Bool.or_false, Bool.true_and, Bool.and_true, Bool.false_and, Bool.and_false, bool_eq_true', bool_eq_false', toNat_cast']
    rfl
  | m + 1, c :: t, n, f + 1, acc, hd, hm, hn, ha, hf => by
    obtain ⟨hlt, hc, hr⟩ := drop_cons' hd
    have e34 : ((c.toNat : Int) == 34) = (c == 34) := u8_beq c 34 (by omega)
    have e92 : ((c.toNat : Int) != 92) = !(c == 92) := u8_bne c 92 (by omega)
    have f1 : fits (toBytes acc).length 1 1 = true := fits_t (by rw [toBytes_len]; omega) (by rw [toBytes_len]; omega)
    have hlen := congrArg List.length hr
    rw [List.length_drop] at hlen
    simp only [List.length_cons] at hm hf
    rw [L_ref10_meant_1004, B_ref10_meant_1004, dbl]
    simp (disch := omega) only [dec_t, dec_f, ieq_t, ieq_f, ine_t, ine_f, inb_t, bnd_t, wrap_id, wrap8_id, cond_true, cond_false, Bool.not_true, Bool.not_false, Bool.true_or, Bool.or_true, Bool.false_or, Bool.or_false, Bool.true_and, Bool.and_true, Bool.false_and, Bool.and_false, bool_eq_true', bool_eq_false', toNat_cast', hc, e34, e92, cast_succ, cast_two, ofBytes_toBytes, List.length_singleton, f1]
    cases hb : c == 34 with
    | true =>
      simp only [cond_true]
      cases t with
      | nil => have h1 := drop_nil hr; simp (disch := omega) only [dec_t, dec_f, ieq_t, ieq_f, ine_t, ine_f, inb_t, bnd_t, wrap_id, wrap8_id, cond_true, cond_false, Bool.not_true, Bool.not_false, Bool.true_or, Bool.or_true, Bool.false_or, Bool.or_false, Bool.true_and, Bool.and_true, Bool.false_and, Bool.and_false, bool_eq_true', bool_eq_false', toNat_cast']; rfl
      | cons d r =>
        have : s.length - (n + 1) = r.length + 1 := by simpa using hlen
        simp (disch := omega) only [dec_t, dec_f, ieq_t, ieq_f, ine_t, ine_f, inb_t, bnd_t, wrap_id, wrap8_id, cond_true, cond_false, Bool.not_true, Bool.not_false, Bool.true_or, Bool.or_true, Bool.false_or, Bool.or_false, Bool.true_and, Bool.and_true, Bool.false_and, Bool.and_false, bool_eq_true', bool_eq_false', toNat_cast']; rfl
    | false =>
      simp only [cond_false]
      cases hb2 : c == 92 with
      | false =>
        simp only [Bool.not_false, cond_false, cond_true]
        rw [toBytes_snoc]
        exact ref10_meant_double k s hs K m t (n + 1) f (acc ++ [c]) hr (by omega) (by omega) (by simp; omega) (by omega)
      | true =>
        simp only [Bool.not_true, cond_false, cond_true]
        cases t with
        | nil =>
          have h1 := drop_nil hr
          simp (disch := omega) only [dec_t, dec_f, ieq_t, ieq_f, ine_t, ine_f, inb_t, bnd_t, wrap_id, wrap8_id, cond_true, cond_false, Bool.not_true, Bool.not_false, Bool.true_or, Bool.or_true, Bool.false_or, Bool.or_false, Bool.true_and, Bool.and_true, Bool.false_and, Bool.and_false, bool_eq_true', bool_eq_false', toNat_cast', tak]
        | cons d r =>
          obtain ⟨hlt2, hd2, hr2⟩ := drop_cons' hr
          have e1 : ((d.toNat : Int) == 92) = (d == 92) := u8_beq d 92 (by omega)
          have e2 : ((d.toNat : Int) == 34) = (d == 34) := u8_beq d 34 (by omega)
          have e3 : ((d.toNat : Int) == 110) = (d == 110) := u8_beq d 110 (by omega)
          have e4 : ((d.toNat : Int) == 116) = (d == 116) := u8_beq d 116 (by omega)
          have e5 : ((d.toNat : Int) == 120) = (d == 120) := u8_beq d 120 (by omega)
          simp only [List.length_cons] at hm hf hlen
          simp (disch := omega) only [dec_t, dec_f, ieq_t, ieq_f, ine_t, ine_f, inb_t, bnd_t, wrap_id, wrap8_id, cond_true, cond_false, Bool.not_true, Bool.not_false, Bool.true_or, Bool.or_true, Bool.false_or, Bool.or_false, Bool.true_and, Bool.and_true, Bool.false_and, Bool.and_false, bool_eq_true', bool_eq_false', toNat_cast', hd2, e1, e2, e3, e4, e5, tak, toBytes_snoc]
          cases h1 : d == 92 with
          | true =>
            simp only [cond_true]
            exact ref10_meant_double k s hs K m r (n + 1 + 1) f (acc ++ [d]) hr2 (by omega) (by omega) (by simp; omega) (by omega)
          | false =>
          cases h2 : d == 34 with
          | true =>
            simp only [cond_true, cond_false]
            exact ref10_meant_double k s hs K m r (n + 1 + 1) f (acc ++ [d]) hr2 (by omega) (by omega) (by simp; omega) (by omega)
          | false =>
          cases h3 : d == 110 with
          | true =>
            simp only [cond_true, cond_false]
            have e : toBytes acc ++ [(10 : Int)] = toBytes (acc ++ [10]) := toBytes_snoc acc 10
            rw [e]
            exact ref10_meant_double k s hs K m r (n + 1 + 1) f (acc ++ [10]) hr2 (by omega) (by omega) (by simp; omega) (by omega)
          | false =>
          cases h4 : d == 116 with
          | true =>
            simp only [cond_true, cond_false]
            have e : toBytes acc ++ [(9 : Int)] = toBytes (acc ++ [9]) := toBytes_snoc acc 9
            rw [e]
            exact ref10_meant_double k s hs K m r (n + 1 + 1) f (acc ++ [9]) hr2 (by omega) (by omega) (by simp; omega) (by omega)
          | false =>
          cases h5 : d == 120 with
          | false => simp only [cond_true, cond_false]
          | true =>
            simp only [cond_true, cond_false]
            match r, hr2, hm, hf, hlen with
            | [], hr2, hm, hf, hlen =>
              simp only [List.length_nil] at hlen
              simp (disch := omega) only [dec_t, dec_f, ieq_t, ieq_f, ine_t, ine_f, inb_t, bnd_t, wrap_id, wrap8_id, cond_true, cond_false, Bool.not_true, Bool.not_false, Bool.true_or, Bool.or_true, Bool.false_or, Bool.or_false, Bool.true_and, Bool.and_true, Bool.false_and, Bool.and_false, bool_eq_true', bool_eq_false', toNat_cast']
            | [a], hr2, hm, hf, hlen =>
              simp only [List.length_cons, List.length_nil] at hlen
              simp (disch := omega) only [dec_t, dec_f, ieq_t, ieq_f, ine_t, ine_f, inb_t, bnd_t, wrap_id, wrap8_id, cond_true, cond_false, Bool.not_true, Bool.not_false, Bool.true_or, Bool.or_true, Bool.false_or, Bool.or_false, Bool.true_and, Bool.and_true, Bool.false_and, Bool.and_false, bool_eq_true', bool_eq_false', toNat_cast']
            | a :: b :: r, hr2, hm, hf, hlen =>
              obtain ⟨hlt3, ha3, hr3⟩ := drop_cons' hr2
              obtain ⟨hlt4, hb4, hr4⟩ := drop_cons' hr3
              simp only [List.length_cons] at hlen hm hf
              have hb4' : ∀ e, s.getD (n + 1 + 2) e = b := hb4
              simp (disch := omega) only [dec_t, dec_f, ieq_t, ieq_f, ine_t, ine_f, inb_t, bnd_t, wrap_id, wrap8_id, cond_true, cond_false, Bool.not_true, Bool.not_false, Bool.true_or, Bool.or_true, Bool.false_or, Bool.or_false, Bool.true_and, Bool.and_true, Bool.false_and, Bool.and_false, bool_eq_true', bool_eq_false', toNat_cast', ha3, hb4', small_eq]
              cases hxa : hexv a with
              | none =>
                rw [hexI_neg hxa]
                simp (disch := omega) only [dec_t, dec_f, ieq_t, ieq_f, ine_t, ine_f, inb_t, bnd_t, wrap_id, wrap8_id, cond_true, cond_false, Bool.not_true, Bool.not_false, Bool.true_or, Bool.or_true, Bool.false_or, Bool.or_false, Bool.true_and, Bool.and_true, Bool.false_and, Bool.and_false, bool_eq_true', bool_eq_false', toNat_cast']
              | some x =>
                have hx16 := hexv_lt hxa
                rw [hexI_some hxa]
                simp (disch := omega) only [dec_t, dec_f, ieq_t, ieq_f, ine_t, ine_f, inb_t, bnd_t, wrap_id, wrap8_id, cond_true, cond_false, Bool.not_true, Bool.not_false, Bool.true_or, Bool.or_true, Bool.false_or, Bool.or_false, Bool.true_and, Bool.and_true, Bool.false_and, Bool.and_false, bool_eq_true', bool_eq_false', toNat_cast']
                cases hxb : hexv b with
                | none =>
                  rw [hexI_neg hxb]
                  simp (disch := omega) only [dec_t, dec_f, ieq_t, ieq_f, ine_t, ine_f, inb_t, bnd_t, wrap_id, wrap8_id, cond_true, cond_false, Bool.not_true, Bool.not_false, Bool.true_or, Bool.or_true, Bool.false_or, Bool.or_false, Bool.true_and, Bool.and_true, Bool.false_and, Bool.and_false, bool_eq_true', bool_eq_false', toNat_cast']
                | some y =>
                  have hy16 := hexv_lt hxb
                  have eb : IntKind.u8.wrap (IntKind.i64.wrap (16 * (x : Int) + (y : Int))) = ((UInt8.ofNat (16 * x + y)).toNat : Int) := by
                    rw [← byte_of x y hx16 hy16]
                    simp (disch := omega) only [wrap_id]
                  rw [hexI_some hxb, eb]
                  simp (disch := omega) only [dec_t, dec_f, ieq_t, ieq_f, ine_t, ine_f, inb_t, bnd_t, wrap_id, wrap8_id, cond_true, cond_false, Bool.not_true, Bool.not_false, Bool.true_or, Bool.or_true, Bool.false_or, Bool.or_false, Bool.true_and, Bool.and_true, Bool.false_and, Bool.and_false, bool_eq_true', bool_eq_false', toNat_cast', toBytes_snoc]
                  exact ref10_meant_double k s hs K m r (n + 1 + 2 + 1) f (acc ++ [UInt8.ofNat (16 * x + y)]) hr4 (by omega) (by omega) (by simp; omega) (by omega)
theorem ref10_meant_eq (k : Nat) {R : Type} (c : UInt8) (t : List UInt8) (hs : (c :: t).length ≤ 1000000) (hk : (c :: t).length < k) (K : List UInt8 → Bool → Option R) :
    (c = 39 → F_ref10_meant k (c :: t) K = match sgl [] t with
      | some (a, r) => K a (r == [])
      | none => K [] false) ∧
    (c = 34 → F_ref10_meant k (c :: t) K = match dbl (t.length + 1) [] t with
      | some (a, r) => K a (r == [])
      | none => K [] false) := by
  have hi : inb 0 ((c :: t).length : Int) = true := inb_t (by omega) (by rw [List.length_cons]; omega)
  have hg : (c :: t).getD (Int.toNat 0) 0 = c := rfl
  simp only [List.length_cons] at hk
  constructor
  · intro h
    subst h
    unfold F_ref10_meant A_ref10_meant
    simp only [hi, hg, cond_true]
    exact ref10_meant_single k (39 :: t) hs K k t 1 [] rfl (by omega) (by simp) (by simp)
  · intro h
    subst h
    unfold F_ref10_meant A_ref10_meant
    simp only [hi, hg, cond_true]
    exact ref10_meant_double k (34 :: t) hs K k t 1 (t.length + 1) [] rfl (by omega) (by simp) (by simp) (by omega)
end Go.Proofs.Ytfbagjjnfpgjkaa.Pvm

set_option linter.unusedVariables false
set_option linter.unusedSimpArgs false
namespace Go.Proofs.Ytfbagjjnfpgjkaa.Pvm
open Go

abbrev Res := List Pc × (Int × Int)
def finQ (no col : Int) (out : List Pc) : Option (List UInt8 × List UInt8) → Res
  | none => ([], 3, no)
  | some (a, r) => bif !(r == []) then ([], 3, no) else bif decide (200 < a.length) then ([], 4, no) else (out ++ [(3, no, col, a, true)], 0, 0)
def txtS (no ind : Int) (at_ : Nat) (s : List UInt8) (out : List Pc) : Res :=
  match s with
  | [] => (out, 0, 0)
  | c :: t => bif c == 39 then finQ no (ind + at_) out (sgl [] t) else bif c == 34 then finQ no (ind + at_) out (dbl (t.length + 1) [] t)
      else bif oddB c || (dsh (c :: t) || decide (0 < kS (c :: t))) then ([], 4, no) else bif decide (200 < (c :: t).length) then ([], 4, no) else (out ++ [(3, no, ind + at_, c :: t, false)], 0, 0)
def endS (no ind : Int) (at_ : Nat) (s : List UInt8) (out : List Pc) : Res :=
  bif decide (0 < kS s) then bif decide (64 < kS s) then ([], 5, no)
    else txtS no ind (at_ + (kS s + 1) + nb (s.drop (kS s + 1))) ((s.drop (kS s + 1)).drop (nb (s.drop (kS s + 1)))) (out ++ [(2, no, ind + at_, s.take (kS s), false)])
  else txtS no ind at_ s out
def rowS (no ind : Int) : Nat → Nat → List UInt8 → List Pc → Res
  | 0, _, _, out => (out, 0, 0)
  | f + 1, at_, s, out => bif dsh s then rowS no ind f (at_ + 1 + nb (s.drop 1)) ((s.drop 1).drop (nb (s.drop 1))) (out ++ [(1, no, ind + at_, [], false)]) else endS no ind at_ s out
/-- A LINE'S PIECES, OR WHAT IS WRONG. -/
def rowR (no ind : Int) (s : List UInt8) : Res :=
  bif decide (ind < 0) || decide (16384 < ind) then ([], 6, no) else rowS no ind (s.length + 1) (nb s) (s.drop (nb s)) []

/-- how the lexer tells it -/
def outL {R : Type} (K1 : List Pc → Option R) (E1 : Int → Int → Option R) (r : Res) : Option R := bif r.2.1 == 0 then K1 r.1 else E1 r.2.1 r.2.2

theorem piece_eq (k : Nat) {R : Type} (x0 x1 : Int) (x2 : List UInt8) (n : Nat) (x4 : List Pc) (kd : Int) (t : List UInt8) (q : Bool) (b : Nat) (K : Int → Int → List UInt8 → Int → List Pc → Option R)
    (h0 : 0 ≤ x1) (h1 : x1 ≤ 16384) (hn : n ≤ 1000000) (hb : b ≤ 1000000) (hx : x4.length ≤ 1000000) :
    F_lex_lexer_piece k x0 x1 x2 (n : Int) x4 kd t q (b : Int) K = K x0 x1 x2 ((n + b : Nat) : Int) (x4 ++ [(kd, x0, x1 + (n : Int), t, q)]) := by
  unfold F_lex_lexer_piece A_lex_lexer_piece
  rw [fits_t (by simp; omega) (by simp; omega)]
  simp (disch := omega) only [dec_t, dec_f, ieq_t, ieq_f, ine_t, ine_f, inb_t, bnd_t, wrap_id, wrap8_id, cond_true, cond_false, Bool.not_true, Bool.not_false, Bool.true_or, Bool.or_true, Bool.false_or, Bool.or_false, Bool.true_and, Bool.and_true, Bool.false_and, Bool.and_false, bool_eq_true', bool_eq_false', toNat_cast', cast_add]

theorem lex_text_eq (k : Nat) {R : Type} (no ind : Int) (text : List UInt8) (n : Nat) (out : List Pc) (c : UInt8) (t : List UInt8) (K1 : List Pc → Option R) (E1 : Int → Int → Option R)
    (h0 : 0 ≤ ind) (h1 : ind ≤ 16384) (hn : n ≤ 1000000) (ho : out.length ≤ 1000000) (hs : (c :: t).length ≤ 1000000) (hk : (c :: t).length < k) :
    F_lex_lexer_text k no ind text (n : Int) out (c :: t) (fun _ _ _ _ o => K1 o) (fun _ _ _ _ _ a b => E1 a b) = outL K1 E1 (txtS no ind n (c :: t) out) := by
  have hi : inb 0 ((c :: t).length : Int) = true := inb_t (by omega) (by rw [List.length_cons]; omega)
  have hg : (c :: t).getD (Int.toNat 0) 0 = c := rfl
  have e39 : ((c.toNat : Int) == 39) = (c == 39) := u8_beq c 39 (by omega)
  have e34 : ((c.toNat : Int) == 34) = (c == 34) := u8_beq c 34 (by omega)
  have hq := idx_sg c
  unfold sgL at hq
  have quoted : ∀ (x : Option (List UInt8 × List UInt8)), (∀ a r, x = some (a, r) → r.length < t.length + 1) → (match x with
      | some (a, r) => (fun (y10 y11 : Int) (y12 : List UInt8) (y13 : Int) (y14 : List Pc) (y15 : List UInt8) (y16 : Int) =>
          bif y16 != ((c :: t).length : Int) then E1 3 y10
          else bif decide ((y15.length : Int) > 200) then E1 4 y10
            else F_lex_lexer_piece k y10 y11 y12 y13 y14 3 y15 true y16 fun y17 y18 y19 y20 y21 => K1 y21) no ind text (n : Int) out a (((c :: t).length - r.length : Nat) : Int)
      | none => E1 3 no) = outL K1 E1 (finQ no (ind + n) out x) := by
    intro x hx
    cases x with
    | none => rfl
    | some p =>
      obtain ⟨a, r⟩ := p
      have hr := hx a r rfl
      simp only [finQ]
      simp only [List.length_cons] at hs hk ⊢
      cases hre : r == [] with
      | true =>
        have : r = [] := beq_iff_eq.1 hre
        subst this
        simp only [List.length_nil, Nat.sub_zero]
        simp (disch := omega) only [dec_t, dec_f, ieq_t, ieq_f, ine_t, ine_f, inb_t, bnd_t, wrap_id, wrap8_id, cond_true, cond_false, Bool.not_true, Bool.not_false, Bool.true_or, Bool.or_true, Bool.false_or, Bool.or_false, Bool.true_and, Bool.and_true, Bool.false_and, Bool.and_false, bool_eq_true', bool_eq_false', toNat_cast']
        by_cases ha : 200 < a.length
        · simp (disch := omega) only [dec_t, dec_f, ieq_t, ieq_f, ine_t, ine_f, inb_t, bnd_t, wrap_id, wrap8_id, cond_true, cond_false, Bool.not_true, Bool.not_false, Bool.true_or, Bool.or_true, Bool.false_or, Bool.or_false, Bool.true_and, Bool.and_true, Bool.false_and, Bool.and_false, bool_eq_true', bool_eq_false', toNat_cast']; rfl
        · simp (disch := omega) only [dec_t, dec_f, ieq_t, ieq_f, ine_t, ine_f, inb_t, bnd_t, wrap_id, wrap8_id, cond_true, cond_false, Bool.not_true, Bool.not_false, Bool.true_or, Bool.or_true, Bool.false_or, Bool.or_false, Bool.true_and, Bool.and_true, Bool.false_and, Bool.and_false, bool_eq_true', bool_eq_false', toNat_cast']
          rw [piece_eq k no ind text n out 3 a true (t.length + 1) _ h0 h1 hn (by omega) ho]
          rfl
      | false =>
        have hr0 : r.length ≠ 0 := fun e => by rw [List.eq_nil_of_length_eq_zero e] at hre; cases hre
        simp (disch := omega) only [dec_t, dec_f, ieq_t, ieq_f, ine_t, ine_f, inb_t, bnd_t, wrap_id, wrap8_id, cond_true, cond_false, Bool.not_true, Bool.not_false, Bool.true_or, Bool.or_true, Bool.false_or, Bool.or_false, Bool.true_and, Bool.and_true, Bool.false_and, Bool.and_false, bool_eq_true', bool_eq_false', toNat_cast']
        rfl
  unfold F_lex_lexer_text A_lex_lexer_text
  simp only [hi, hg, e39, e34, gives_eq, cond_true, IndexByte_eq, hq, txtS]
  cases h39 : c == 39 with
  | true =>
    simp only [cond_true]
    rw [lex_single_eq k no ind text n out c t hs hk]
    exact quoted (sgl [] t) fun a r h => by have := sgl_le h; omega
  | false =>
    simp only [cond_false]
    cases h34 : c == 34 with
    | true =>
      simp only [cond_true]
      rw [lex_double_eq k no ind text n out c t hs hk]
      exact quoted (dbl (t.length + 1) [] t) fun a r h => by have := dbl_le h; omega
    | false =>
      simp only [cond_false, lex_dash_eq]
      have hky : ∀ K : List UInt8 → Option R, F_lex_key k (c :: t) K = K ((c :: t).take (kS (c :: t))) := fun K => lex_key_eq k (c :: t) K hk (by omega)
      simp only [hky]
      have hkl := kS_lt (c :: t)
      have hne : (((c :: t).take (kS (c :: t))) == []) = decide (kS (c :: t) = 0) := by
        rw [Bool.eq_iff_iff]
        simp only [beq_iff_eq, decide_eq_true_eq]
        constructor
        · intro h
          have := congrArg List.length h
          rw [List.length_take, List.length_nil] at this
          simp only [List.length_cons] at this hkl
          omega
        · intro h; rw [h, List.take_zero]
      rw [hne]
      cases h1' : oddB c with
      | true => rfl
      | false =>
        simp only [dec_t, dec_f, ieq_t, ieq_f, ine_t, ine_f, inb_t, bnd_t, wrap_id, wrap8_id, cond_true, cond_false, Bool.not_true, Bool.not_false, Bool.true_or, Bool.or_true, Bool.false_or, Bool.or_false, Bool.true_and, Bool.and_true, Bool.false_and, Bool.and_false, bool_eq_true', bool_eq_false', toNat_cast']
        cases h2' : dsh (c :: t) with
        | true => rfl
        | false =>
          simp only [dec_t, dec_f, ieq_t, ieq_f, ine_t, ine_f, inb_t, bnd_t, wrap_id, wrap8_id, cond_true, cond_false, Bool.not_true, Bool.not_false, Bool.true_or, Bool.or_true, Bool.false_or, Bool.or_false, Bool.true_and, Bool.and_true, Bool.false_and, Bool.and_false, bool_eq_true', bool_eq_false', toNat_cast']
          by_cases h3 : kS (c :: t) = 0
          · simp (disch := omega) only [dec_t, dec_f, ieq_t, ieq_f, ine_t, ine_f, inb_t, bnd_t, wrap_id, wrap8_id, cond_true, cond_false, Bool.not_true, Bool.not_false, Bool.true_or, Bool.or_true, Bool.false_or, Bool.or_false, Bool.true_and, Bool.and_true, Bool.false_and, Bool.and_false, bool_eq_true', bool_eq_false', toNat_cast']
            by_cases h4 : 200 < (c :: t).length
            · simp (disch := omega) only [dec_t, dec_f, ieq_t, ieq_f, ine_t, ine_f, inb_t, bnd_t, wrap_id, wrap8_id, cond_true, cond_false, Bool.not_true, Bool.not_false, Bool.true_or, Bool.or_true, Bool.false_or, Bool.or_false, Bool.true_and, Bool.and_true, Bool.false_and, Bool.and_false, bool_eq_true', bool_eq_false', toNat_cast']; rfl
            · simp (disch := omega) only [dec_t, dec_f, ieq_t, ieq_f, ine_t, ine_f, inb_t, bnd_t, wrap_id, wrap8_id, cond_true, cond_false, Bool.not_true, Bool.not_false, Bool.true_or, Bool.or_true, Bool.false_or, Bool.or_false, Bool.true_and, Bool.and_true, Bool.false_and, Bool.and_false, bool_eq_true', bool_eq_false', toNat_cast']
              rw [piece_eq k no ind text n out 3 (c :: t) false (c :: t).length _ h0 h1 hn hs ho]
              rfl
          · simp (disch := omega) only [dec_t, dec_f, ieq_t, ieq_f, ine_t, ine_f, inb_t, bnd_t, wrap_id, wrap8_id, cond_true, cond_false, Bool.not_true, Bool.not_false, Bool.true_or, Bool.or_true, Bool.false_or, Bool.or_false, Bool.true_and, Bool.and_true, Bool.false_and, Bool.and_false, bool_eq_true', bool_eq_false', toNat_cast']; rfl
end Go.Proofs.Ytfbagjjnfpgjkaa.Pvm

set_option linter.unusedVariables false
set_option linter.unusedSimpArgs false
namespace Go.Proofs.Ytfbagjjnfpgjkaa.Pvm
open Go

theorem kS_room {s : List UInt8} (h : 0 < kS s) : kS s + 1 ≤ s.length := by
  have h1 := tw_len s
  cases hd : s.drop (s.takeWhile sgn).length with
  | nil => rw [kS_end hd] at h; omega
  | cons c r =>
    obtain ⟨hlt, _, _⟩ := drop_cons' hd
    rw [kS_at hd] at h ⊢
    cases hb : ((c == 58) && hd32 r) <;> rw [hb] at h <;> simp only [cond_true, cond_false] at h ⊢ <;> omega
theorem take_nil (s : List UInt8) : ((s.take (kS s)) == []) = decide (kS s = 0) := by
  have hkl := kS_lt s
  rw [Bool.eq_iff_iff]
  simp only [beq_iff_eq, decide_eq_true_eq]
  constructor
  · intro h
    have := congrArg List.length h
    rw [List.length_take, List.length_nil] at this
    omega
  · intro h; rw [h, List.take_zero]

theorem lex_end_eq (k : Nat) {R : Type} (no ind : Int) (text : List UInt8) (n : Nat) (s : List UInt8) (out : List Pc) (K1 : List Pc → Option R) (E1 : Int → Int → Option R)
    (h0 : 0 ≤ ind) (h1 : ind ≤ 16384) (ht : text.length ≤ 1000000) (hk : text.length + 20 < k) (hs : text.drop n = s) (hn : n ≤ text.length) (ho : out.length ≤ n) :
    (bif !(s == []) then F_lex_lexer_text k no ind text (n : Int) out s (fun _ _ _ _ o => K1 o) (fun _ _ _ _ _ a b => E1 a b) else K1 out) = outL K1 E1 (txtS no ind n s out) := by
  have hl := congrArg List.length hs
  rw [List.length_drop] at hl
  cases s with
  | nil => rfl
  | cons c t =>
    have : ((c :: t) == ([] : List UInt8)) = false := rfl
    rw [this, Bool.not_false, cond_true]
    exact lex_text_eq k no ind text n out c t K1 E1 h0 h1 (by omega) (by omega) (by omega) (by omega)
theorem lex_row_loop (k : Nat) {R : Type} (no ind : Int) (text : List UInt8) (K1 : List Pc → Option R) (E1 : Int → Int → Option R)
    (h0 : 0 ≤ ind) (h1 : ind ≤ 16384) (ht : text.length ≤ 1000000) (hk : text.length + 20 < k) :
    ∀ (m : Nat) (s : List UInt8) (n f : Nat) (out : List Pc), text.drop n = s → s.length < m → n ≤ text.length → out.length ≤ n → s.length < f →
      L_lex_lexer_row_1003 k m no ind text (n : Int) out s (fun _ _ _ _ o => K1 o) (fun _ _ _ _ _ a b => E1 a b) = outL K1 E1 (rowS no ind f n s out)
  | 0, s, n, f, out, _, hm, _, _, _ => by omega
  | m + 1, s, n, 0, out, _, _, _, _, hf => by omega
  | m + 1, s, n, f + 1, out, hs, hm, hn, ho, hf => by
    have hl := congrArg List.length hs
    rw [List.length_drop] at hl
    rw [L_lex_lexer_row_1003, B_lex_lexer_row_1003, rowS, lex_dash_eq]
    cases hd : dsh s with
    | true =>
      simp only [cond_true]
      cases s with
      | nil => cases hd
      | cons c t =>
        simp only [List.length_cons] at hm hf hl
        obtain ⟨hlt, _, hr⟩ := drop_cons' hs
        refine Eq.trans (piece_eq k no ind text n out 1 [] false 1 _ h0 h1 (by omega) (by omega) (by omega)) ?_
        rw [lex_rest_eq k no ind text (n + 1) _ _ (by omega) (by omega) (by omega)]
        rw [hr]
        have := nb_le t
        exact lex_row_loop k no ind text K1 E1 h0 h1 ht hk m (t.drop (nb t)) (n + 1 + nb t) f _ (by rw [← hr, List.drop_drop]) (by rw [List.length_drop]; omega) (by omega) (by simp; omega) (by rw [List.length_drop]; omega)
    | false =>
      simp only [cond_false]
      rw [lex_key_eq k s _ (by omega) (by omega), take_nil, endS]
      simp only [gives_eq]
      have hkl := kS_lt s
      by_cases hz : kS s = 0
      · simp (disch := omega) only [dec_t, dec_f, ieq_t, ieq_f, ine_t, ine_f, inb_t, bnd_t, wrap_id, wrap8_id, cond_true, cond_false, Bool.not_true, Bool.not_false, Bool.true_or, Bool.or_true, Bool.false_or, Bool.or_false, Bool.true_and, Bool.and_true, Bool.false_and, Bool.and_false, bool_eq_true', bool_eq_false', toNat_cast']
        exact lex_end_eq k no ind text n s out K1 E1 h0 h1 ht hk hs hn ho
      · have hkr := kS_room (s := s) (by omega)
        have hlen : (s.take (kS s)).length = kS s := by rw [List.length_take]; omega
        simp (disch := omega) only [dec_t, dec_f, ieq_t, ieq_f, ine_t, ine_f, inb_t, bnd_t, wrap_id, wrap8_id, cond_true, cond_false, Bool.not_true, Bool.not_false, Bool.true_or, Bool.or_true, Bool.false_or, Bool.or_false, Bool.true_and, Bool.and_true, Bool.false_and, Bool.and_false, bool_eq_true', bool_eq_false', toNat_cast', hlen]
        by_cases h64 : 64 < kS s
        · simp (disch := omega) only [dec_t, dec_f, ieq_t, ieq_f, ine_t, ine_f, inb_t, bnd_t, wrap_id, wrap8_id, cond_true, cond_false, Bool.not_true, Bool.not_false, Bool.true_or, Bool.or_true, Bool.false_or, Bool.or_false, Bool.true_and, Bool.and_true, Bool.false_and, Bool.and_false, bool_eq_true', bool_eq_false', toNat_cast']; rfl
        · simp (disch := omega) only [dec_t, dec_f, ieq_t, ieq_f, ine_t, ine_f, inb_t, bnd_t, wrap_id, wrap8_id, cond_true, cond_false, Bool.not_true, Bool.not_false, Bool.true_or, Bool.or_true, Bool.false_or, Bool.or_false, Bool.true_and, Bool.and_true, Bool.false_and, Bool.and_false, bool_eq_true', bool_eq_false', toNat_cast', cast_succ]
          rw [piece_eq k no ind text n out 2 _ false (kS s + 1) _ h0 h1 (by omega) (by omega) (by omega)]
          rw [lex_rest_eq k no ind text (n + (kS s + 1)) _ _ (by omega) (by omega) (by omega)]
          have hr : text.drop (n + (kS s + 1)) = s.drop (kS s + 1) := by rw [← hs, List.drop_drop]
          rw [hr]
          have := nb_le (s.drop (kS s + 1))
          rw [List.length_drop] at this
          exact lex_end_eq k no ind text (n + (kS s + 1) + nb (s.drop (kS s + 1))) _ _ K1 E1 h0 h1 ht hk (by rw [← hr, List.drop_drop]) (by omega) (by simp; omega)
theorem lex_Row_eq (k : Nat) {R : Type} (no ind : Int) (s : List UInt8) (K : List Pc → Int → Int → Option R) (ht : s.length ≤ 1000000) (hk : s.length + 20 < k) :
    F_lex_Row k no ind s K = K (rowR no ind s).1 (rowR no ind s).2.1 (rowR no ind s).2.2 := by
  unfold F_lex_Row A_lex_Row F_lex_Row_1_n A_lex_Row_1_n F_lex_Row_1_p A_lex_Row_1_p F_lex_lexer_row A_lex_lexer_row
  simp only [gives_eq]
  have fin : ∀ r : Res, (r.2.1 = 0 → r.2.2 = 0) → (r.2.1 ≠ 0 → r.1 = []) → outL (fun o => K o 0 0) (fun a b => K [] a b) r = K r.1 r.2.1 r.2.2 := by
    intro r h1 h2
    unfold outL
    by_cases h : r.2.1 = 0
    · rw [h1 h, h]; rfl
    · rw [h2 h, ieq_f h]; rfl
  have okQ : ∀ (col : Int) (out : List Pc) x, ((finQ no col out x).2.1 = 0 → (finQ no col out x).2.2 = 0) ∧ ((finQ no col out x).2.1 ≠ 0 → (finQ no col out x).1 = []) := by
    intro col out x
    unfold finQ
    split
    · simp
    · next a r =>
      cases !(r == []) <;> simp only [cond_true, cond_false]
      · cases decide (200 < a.length) <;> simp
      · simp
  have okT : ∀ n s out, ((txtS no ind n s out).2.1 = 0 → (txtS no ind n s out).2.2 = 0) ∧ ((txtS no ind n s out).2.1 ≠ 0 → (txtS no ind n s out).1 = []) := by
    intro n s out
    unfold txtS
    split
    · simp
    · next c t =>
      cases c == 39 <;> simp only [cond_true, cond_false]
      · cases c == 34 <;> simp only [cond_true, cond_false]
        · cases (oddB c || (dsh (c :: t) || decide (0 < kS (c :: t)))) <;> simp only [cond_true, cond_false]
          · cases decide (200 < (c :: t).length) <;> simp
          · simp
        · exact okQ _ _ _
      · exact okQ _ _ _
  have okE : ∀ n s out, ((endS no ind n s out).2.1 = 0 → (endS no ind n s out).2.2 = 0) ∧ ((endS no ind n s out).2.1 ≠ 0 → (endS no ind n s out).1 = []) := by
    intro n s out
    unfold endS
    cases decide (0 < kS s) <;> simp only [cond_true, cond_false]
    · exact okT _ _ _
    · cases decide (64 < kS s) <;> simp only [cond_true, cond_false]
      · exact okT _ _ _
      · simp
  have okR : ∀ f n s out, ((rowS no ind f n s out).2.1 = 0 → (rowS no ind f n s out).2.2 = 0) ∧ ((rowS no ind f n s out).2.1 ≠ 0 → (rowS no ind f n s out).1 = []) := by
    intro f
    induction f with
    | zero => intro n s out; simp [rowS]
    | succ f ih =>
      intro n s out
      rw [rowS]
      cases dsh s <;> simp only [cond_true, cond_false]
      · exact okE _ _ _
      · exact ih _ _ _
  by_cases hi : ind < 0 ∨ 16384 < ind
  · have e1 : (bif decide (ind < 0) then true else decide (ind > 16384)) = true := by
      rw [Bool.cond_true_left]
      simp
      omega
    have e2 : (decide (ind < 0) || decide (16384 < ind)) = true := by simp; omega
    rw [e1, cond_true]
    unfold rowR
    rw [e2]
    rfl
  · have e1 : (bif decide (ind < 0) then true else decide (ind > 16384)) = false := by
      rw [Bool.cond_true_left]
      simp
      omega
    have e2 : (decide (ind < 0) || decide (16384 < ind)) = false := by simp; omega
    rw [e1, cond_false]
    unfold rowR
    rw [e2, cond_false]
    have := lex_rest_eq k no ind s 0 [] (fun y10 y11 y12 y13 y14 y15 => L_lex_lexer_row_1003 k k y10 y11 y12 y13 y14 y15 (fun _ _ _ _ o => K o 0 0) (fun _ _ _ _ _ a b => K [] a b)) (by omega) (by omega) (by omega)
    refine Eq.trans this ?_
    simp only [List.drop_zero, Nat.zero_add]
    have hnb := nb_le s
    rw [lex_row_loop k no ind s (fun o => K o 0 0) (fun a b => K [] a b) (by omega) (by omega) ht hk k (s.drop (nb s)) (nb s) (s.length + 1) [] rfl (by rw [List.length_drop]; omega) hnb (by simp) (by rw [List.length_drop]; omega)]
    exact fin _ (okR _ _ _ _).1 (okR _ _ _ _).2
end Go.Proofs.Ytfbagjjnfpgjkaa.Pvm

set_option linter.unusedVariables false
set_option linter.unusedSimpArgs false
namespace Go.Proofs.Ytfbagjjnfpgjkaa.Pvm
open Go

theorem cut_mid {α : Type} (s : List α) (n j : Nat) : cut s (n : Int) ((n + j : Nat) : Int) = (s.drop n).take j := by
  simp only [cut, toNat_cast']
  rw [List.drop_take]
  congr 1
  omega
theorem ref10_row_loop (k : Nat) {R : Type} (no ind : Int) (text : List UInt8) (K : List Pc → Int → Int → Option R)
    (h0 : 0 ≤ ind) (h1 : ind ≤ 16384) (ht : text.length ≤ 1000000) (hk : text.length + 20 < k) :
    ∀ (m : Nat) (s : List UInt8) (n f : Nat) (out : List Pc), text.drop n = s → s.length < m → n ≤ text.length → out.length ≤ n → s.length < f →
      L_ref10_Row_1006 k m no ind text 0 0 out text (n : Int) K = K (rowS no ind f n s out).1 (rowS no ind f n s out).2.1 (rowS no ind f n s out).2.2
  | 0, s, n, f, out, _, hm, _, _, _ => by omega
  | m + 1, s, n, 0, out, _, _, _, _, hf => by omega
  | m + 1, s, n, f + 1, out, hs, hm, hn, ho, hf => by
    have hl := congrArg List.length hs
    rw [List.length_drop] at hl
    rw [L_ref10_Row_1006, B_ref10_Row_1006, rowS]
    simp (disch := omega) only [bnd_t, cond_true, cut_end, hs, ref10_dashed_eq]
    cases hd : dsh s with
    | true =>
      simp only [cond_true]
      cases s with
      | nil => cases hd
      | cons c t =>
        simp only [List.length_cons] at hm hf hl
        obtain ⟨hlt, _, hr⟩ := drop_cons' hs
        have f1 : ∀ x : Pc, fits out.length [x].length 48 = true := fun x => fits_t (by simp; omega) (by simp; omega)
        simp (disch := omega) only [f1, cond_true, wrap_id, cast_succ]
        rw [ref10_blanks_eq k text (n + 1) _ (by omega) (by omega) (by omega), hr]
        have := nb_le t
        simp (disch := omega) only [wrap_id, cast_add]
        exact ref10_row_loop k no ind text K h0 h1 ht hk m (t.drop (nb t)) (n + 1 + nb t) f _ (by rw [← hr, List.drop_drop]) (by rw [List.length_drop]; omega) (by omega) (by simp; omega) (by rw [List.length_drop]; omega)
    | false =>
      simp only [cond_false]
      rw [ref10_keyed_eq k s _ (by omega) (by omega), endS]
      have hkl := kS_lt s
      -- what follows the key
      have tail : ∀ (a : Nat) (s : List UInt8) (out : List Pc), text.drop a = s → a ≤ text.length → out.length ≤ 1000000 →
          (bif decide ((a : Int) ≥ (text.length : Int)) then K out 0 0
            else bif inb (a : Int) (text.length : Int) then
                bif bif ((text.getD a 0).toNat : Int) == 39 then true else ((text.getD a 0).toNat : Int) == 34 then
                    F_ref10_meant k s fun y14 y15 =>
                      bif !y15 then K [] 3 no else bif decide ((y14.length : Int) > 200) then K [] 4 no else
                        bif fits out.length 1 48 then K (out ++ [(3, no, ind + (a : Int), y14, true)]) 0 0 else none
                else F_ref10_odd k ((text.getD a 0).toNat : Int) fun y14 =>
                    bif y14 == false then bif dsh s == false then F_ref10_keyed k s fun y16 => bif decide (y16 > 0) then K [] 4 no else bif decide ((s.length : Int) > 200) then K [] 4 no else
                        bif fits out.length 1 48 then K (out ++ [(3, no, ind + (a : Int), s, false)]) 0 0 else none
                      else K [] 4 no
                    else K [] 4 no
              else none) = K (txtS no ind a s out).1 (txtS no ind a s out).2.1 (txtS no ind a s out).2.2 := by
        intro a s out hs ha hout
        have hl := congrArg List.length hs
        rw [List.length_drop] at hl
        cases s with
        | nil =>
          have := drop_nil hs
          simp (disch := omega) only [dec_t, cond_true, txtS]
        | cons c t =>
          obtain ⟨hlt, hc, _⟩ := drop_cons' hs
          have e39 : ((c.toNat : Int) == 39) = (c == 39) := u8_beq c 39 (by omega)
          have e34 : ((c.toNat : Int) == 34) = (c == 34) := u8_beq c 34 (by omega)
          have f1 : fits out.length 1 48 = true := fits_t (by omega) (by omega)
          have hkc := kS_lt (c :: t)
          have quoted : ∀ x : Option (List UInt8 × List UInt8), (match x with
              | some (a', r) => (fun (y14 : List UInt8) (y15 : Bool) => bif !y15 then K [] 3 no else bif decide ((y14.length : Int) > 200) then K [] 4 no else K (out ++ [(3, no, ind + (a : Int), y14, true)]) 0 0) a' (r == [])
              | none => K [] 3 no) = K (finQ no (ind + a) out x).1 (finQ no (ind + a) out x).2.1 (finQ no (ind + a) out x).2.2 := by
            intro x
            cases x with
            | none => rfl
            | some p =>
              obtain ⟨a', r⟩ := p
              simp only [finQ]
              cases r == [] with
              | false => rfl
              | true =>
                simp only [Bool.not_true, cond_false]
                by_cases h2 : 200 < a'.length
                · simp (disch := omega) only [dec_t, dec_f, ieq_t, ieq_f, ine_t, ine_f, inb_t, bnd_t, wrap_id, wrap8_id, cond_true, cond_false, Bool.not_true, Bool.not_false, Bool.true_or, Bool.or_true, Bool.false_or, Bool.or_false, Bool.true_and, Bool.and_true, Bool.false_and, Bool.and_false, bool_eq_true', bool_eq_false', toNat_cast']
                · simp (disch := omega) only [dec_t, dec_f, ieq_t, ieq_f, ine_t, ine_f, inb_t, bnd_t, wrap_id, wrap8_id, cond_true, cond_false, Bool.not_true, Bool.not_false, Bool.true_or, Bool.or_true, Bool.false_or, Bool.or_false, Bool.true_and, Bool.and_true, Bool.false_and, Bool.and_false, bool_eq_true', bool_eq_false', toNat_cast']
          simp (disch := omega) only [dec_f, inb_t, hc, e39, e34, f1, cond_true, cond_false, txtS]
          cases h39 : c == 39 with
          | true =>
            simp only [cond_true]
            rw [(ref10_meant_eq k c t (by omega) (by omega) _).1 (beq_iff_eq.1 h39)]
            exact (by rw [← quoted]; cases sgl [] t <;> rfl)
          | false =>
            simp only [cond_false]
            cases h34 : c == 34 with
            | true =>
              simp only [cond_true]
              rw [(ref10_meant_eq k c t (by omega) (by omega) _).2 (beq_iff_eq.1 h34)]
              exact (by rw [← quoted]; cases dbl (t.length + 1) [] t <;> rfl)
            | false =>
              simp only [cond_false]
              rw [ref10_odd_eq k c _ (by omega)]
              cases oddB c with
              | true => rfl
              | false =>
                cases dsh (c :: t) with
                | true => rfl
                | false =>
                  simp only [dec_t, dec_f, ieq_t, ieq_f, ine_t, ine_f, inb_t, bnd_t, wrap_id, wrap8_id, cond_true, cond_false, Bool.not_true, Bool.not_false, Bool.true_or, Bool.or_true, Bool.false_or, Bool.or_false, Bool.true_and, Bool.and_true, Bool.false_and, Bool.and_false, bool_eq_true', bool_eq_false', toNat_cast']
                  rw [ref10_keyed_eq k (c :: t) _ (by omega) (by omega)]
                  by_cases h3 : kS (c :: t) = 0
                  · simp (disch := omega) only [dec_t, dec_f, ieq_t, ieq_f, ine_t, ine_f, inb_t, bnd_t, wrap_id, wrap8_id, cond_true, cond_false, Bool.not_true, Bool.not_false, Bool.true_or, Bool.or_true, Bool.false_or, Bool.or_false, Bool.true_and, Bool.and_true, Bool.false_and, Bool.and_false, bool_eq_true', bool_eq_false', toNat_cast']
                    by_cases h4 : 200 < (c :: t).length
                    · simp (disch := omega) only [dec_t, dec_f, ieq_t, ieq_f, ine_t, ine_f, inb_t, bnd_t, wrap_id, wrap8_id, cond_true, cond_false, Bool.not_true, Bool.not_false, Bool.true_or, Bool.or_true, Bool.false_or, Bool.or_false, Bool.true_and, Bool.and_true, Bool.false_and, Bool.and_false, bool_eq_true', bool_eq_false', toNat_cast']
                    · simp (disch := omega) only [dec_t, dec_f, ieq_t, ieq_f, ine_t, ine_f, inb_t, bnd_t, wrap_id, wrap8_id, cond_true, cond_false, Bool.not_true, Bool.not_false, Bool.true_or, Bool.or_true, Bool.false_or, Bool.or_false, Bool.true_and, Bool.and_true, Bool.false_and, Bool.and_false, bool_eq_true', bool_eq_false', toNat_cast']
                  · simp (disch := omega) only [dec_t, dec_f, ieq_t, ieq_f, ine_t, ine_f, inb_t, bnd_t, wrap_id, wrap8_id, cond_true, cond_false, Bool.not_true, Bool.not_false, Bool.true_or, Bool.or_true, Bool.false_or, Bool.or_false, Bool.true_and, Bool.and_true, Bool.false_and, Bool.and_false, bool_eq_true', bool_eq_false', toNat_cast']
      by_cases hz : kS s = 0
      · have := tail n s out hs hn (by omega)
        have e0 : decide (0 < kS s) = false := dec_f (by omega)
        rw [e0, cond_false, ← this]
        simp (disch := omega) only [dec_f, cond_false, toNat_cast', wrap_id, List.length_singleton, bnd_t, cond_true, Bool.or_true]
        by_cases hge : text.length ≤ n
        · simp (disch := omega) only [dec_t, cond_true]
        · simp (disch := omega) only [dec_f, cond_false, inb_t, cond_true, Bool.or_true, ref10_dashed_eq, hd]
      · have hkr := kS_room (s := s) (by omega)
        have e0 : decide (0 < kS s) = true := dec_t (by omega)
        rw [e0, cond_true]
        by_cases h64 : 64 < kS s
        · simp (disch := omega) only [dec_t, dec_f, ieq_t, ieq_f, ine_t, ine_f, inb_t, bnd_t, wrap_id, wrap8_id, cond_true, cond_false, Bool.not_true, Bool.not_false, Bool.true_or, Bool.or_true, Bool.false_or, Bool.or_false, Bool.true_and, Bool.and_true, Bool.false_and, Bool.and_false, bool_eq_true', bool_eq_false', toNat_cast']
        · have e64 : decide (64 < kS s) = false := dec_f h64
          rw [e64, cond_false]
          have hnb := nb_le (s.drop (kS s + 1))
          rw [List.length_drop] at hnb
          have hr : text.drop (n + kS s + 1) = s.drop (kS s + 1) := by rw [← hs, List.drop_drop]; congr 1
          have f1 : fits out.length 1 48 = true := fits_t (by omega) (by omega)
          simp (disch := omega) only [dec_t, dec_f, cond_false, cond_true, wrap_id, cast_add, cast_succ, bnd_t, List.length_singleton, f1, cut_mid, hs]
          rw [ref10_blanks_eq k text (n + kS s + 1) _ (by omega) (by omega) (by omega), hr]
          simp (disch := omega) only [wrap_id, cast_add]
          have e1 : n + (kS s + 1) + nb (s.drop (kS s + 1)) = n + kS s + 1 + nb (s.drop (kS s + 1)) := by omega
          rw [e1]
          have hta : text.drop (n + kS s + 1 + nb (s.drop (kS s + 1))) = (s.drop (kS s + 1)).drop (nb (s.drop (kS s + 1))) := by rw [← hr, List.drop_drop, hr]
          have := tail (n + kS s + 1 + nb (s.drop (kS s + 1))) _ (out ++ [(2, no, ind + (n : Int), s.take (kS s), false)]) hta (by omega) (by simp; omega)
          rw [← this]
          generalize n + kS s + 1 + nb (s.drop (kS s + 1)) = a at hta ⊢
          have hal : a ≤ text.length ∨ text.length < a := by omega
          by_cases hge : text.length ≤ a
          · simp (disch := omega) only [dec_t, cond_true]
          · simp (disch := omega) only [dec_f, cond_false, inb_t, cond_true, Bool.or_true, bnd_t, cut_end, hta, ref10_dashed_eq, toNat_cast']
theorem ref10_Row_eq (k : Nat) {R : Type} (no ind : Int) (s : List UInt8) (K : List Pc → Int → Int → Option R) (ht : s.length ≤ 1000000) (hk : s.length + 20 < k) :
    F_ref10_Row k no ind s K = K (rowR no ind s).1 (rowR no ind s).2.1 (rowR no ind s).2.2 := by
  unfold F_ref10_Row A_ref10_Row rowR
  by_cases hi : ind < 0 ∨ 16384 < ind
  · have e1 : (bif decide (ind < 0) then true else decide (ind > 16384)) = true := by
      rw [Bool.cond_true_left]
      simp
      omega
    have e2 : (decide (ind < 0) || decide (16384 < ind)) = true := by simp; omega
    rw [e1, e2]
    rfl
  · have e1 : (bif decide (ind < 0) then true else decide (ind > 16384)) = false := by
      rw [Bool.cond_true_left]
      simp
      omega
    have e2 : (decide (ind < 0) || decide (16384 < ind)) = false := by simp; omega
    rw [e1, e2]
    simp only [cond_false]
    refine Eq.trans (ref10_blanks_eq k s 0 _ (by omega) (by omega) (by omega)) ?_
    rw [List.drop_zero]
    have hnb := nb_le s
    exact ref10_row_loop k no ind s K (by omega) (by omega) ht hk k (s.drop (nb s)) (nb s) (s.length + 1) [] rfl (by rw [List.length_drop]; omega) hnb (by simp) (by rw [List.length_drop]; omega)
end Go.Proofs.Ytfbagjjnfpgjkaa.Pvm

set_option linter.unusedVariables false
set_option linter.unusedSimpArgs false
namespace Go.Proofs.Ytfbagjjnfpgjkaa.Pvm
open Go

theorem same_loop (k : Nat) {R : Type} (x : List Pc) (hx : x.length ≤ 1000000) (K : Bool → Option R) : ∀ (t : List Pc) (n m : Nat), x.drop n = t → t.length < m → n ≤ x.length → L_law11_same_1004 k m x x (n : Int) K = K true
  | t, n, 0, _, hm, _ => by omega
  | [], n, m + 1, hd, hm, hn => by
    have := drop_nil hd
    rw [L_law11_same_1004, B_law11_same_1004]
    simp (disch := omega) only [dec_t, dec_f, ieq_t, ieq_f, ine_t, ine_f, inb_t, bnd_t, wrap_id, wrap8_id, cond_true, cond_false, Bool.not_true, Bool.not_false, Bool.true_or, Bool.or_true, Bool.false_or, Bool.or_false, Bool.true_and, Bool.and_true, Bool.false_and, Bool.and_false, bool_eq_true', bool_eq_false', toNat_cast']
  | c :: r, n, m + 1, hd, hm, hn => by
    obtain ⟨hlt, hc, hr⟩ := drop_cons' hd
    rw [L_law11_same_1004, B_law11_same_1004]
    simp (disch := omega) only [dec_t, dec_f, ieq_t, ieq_f, ine_t, ine_f, inb_t, bnd_t, wrap_id, wrap8_id, cond_true, cond_false, Bool.not_true, Bool.not_false, Bool.true_or, Bool.or_true, Bool.false_or, Bool.or_false, Bool.true_and, Bool.and_true, Bool.false_and, Bool.and_false, bool_eq_true', bool_eq_false', toNat_cast', hc, cast_succ]
    simp only [beq_self_eq_true, Bool.and_self, Bool.not_true, cond_false]
    exact same_loop k x hx K r (n + 1) m hr (by simp at hm; omega) (by omega)
theorem same_eq (k : Nat) {R : Type} (x : List Pc) (hx : x.length ≤ 1000000) (hk : x.length < k) (K : Bool → Option R) : F_law11_same k x x K = K true := by
  unfold F_law11_same A_law11_same
  simp (disch := omega) only [dec_t, dec_f, ieq_t, ieq_f, ine_t, ine_f, inb_t, bnd_t, wrap_id, wrap8_id, cond_true, cond_false, Bool.not_true, Bool.not_false, Bool.true_or, Bool.or_true, Bool.false_or, Bool.or_false, Bool.true_and, Bool.and_true, Bool.false_and, Bool.and_false, bool_eq_true', bool_eq_false', toNat_cast']
  exact same_loop k x hx K x 0 k rfl hk (Nat.zero_le _)

/-! ### how many pieces -/
theorem finQ_len (no col : Int) (out : List Pc) (x : Option (List UInt8 × List UInt8)) : (finQ no col out x).1.length ≤ out.length + 1 := by
  unfold finQ
  split
  · simp
  · next a r =>
    cases !(r == []) <;> simp only [cond_true, cond_false]
    · cases decide (200 < a.length) <;> simp
    · simp
theorem txtS_len (no ind : Int) (n : Nat) (s : List UInt8) (out : List Pc) : (txtS no ind n s out).1.length ≤ out.length + s.length := by
  unfold txtS
  split
  · simp
  · next c t =>
    have h1 := finQ_len no (ind + n) out (sgl [] t)
    have h2 := finQ_len no (ind + n) out (dbl (t.length + 1) [] t)
    have h3 : (c :: t).length = t.length + 1 := rfl
    cases c == 39 <;> simp only [cond_true, cond_false]
    · cases c == 34 <;> simp only [cond_true, cond_false]
      · cases (oddB c || (dsh (c :: t) || decide (0 < kS (c :: t)))) <;> simp only [cond_true, cond_false]
        · cases decide (200 < (c :: t).length) <;> simp
        · simp
      · omega
    · omega
theorem endS_len (no ind : Int) (n : Nat) (s : List UInt8) (out : List Pc) : (endS no ind n s out).1.length ≤ out.length + s.length := by
  unfold endS
  by_cases h : 0 < kS s
  · rw [dec_t h, cond_true]
    have := kS_room h
    cases decide (64 < kS s) <;> simp only [cond_true, cond_false]
    · refine Nat.le_trans (txtS_len _ _ _ _ _) ?_
      simp
      omega
    · simp
  · rw [dec_f h, cond_false]; exact txtS_len _ _ _ _ _
theorem rowS_len (no ind : Int) : ∀ (f n : Nat) (s : List UInt8) (out : List Pc), (rowS no ind f n s out).1.length ≤ out.length + s.length
  | 0, n, s, out => by simp [rowS]
  | f + 1, n, s, out => by
    rw [rowS]
    cases h : dsh s with
    | false => exact endS_len _ _ _ _ _
    | true =>
      rw [cond_true]
      refine Nat.le_trans (rowS_len no ind f _ _ _) ?_
      cases s with
      | nil => cases h
      | cons c t => simp; omega
theorem rowR_len (no ind : Int) (s : List UInt8) : (rowR no ind s).1.length ≤ s.length := by
  unfold rowR
  cases (decide (ind < 0) || decide (16384 < ind)) with
  | true => simp
  | false =>
    rw [cond_false]
    refine Nat.le_trans (rowS_len _ _ _ _ _ _) ?_
    simp

/-! ### many lines -/
abbrev Ln := Int × (Int × List UInt8)
def allS : List Ln → List Pc → Res
  | [], out => (out, 0, 0)
  | l :: r, out => bif (rowR l.1 l.2.1 l.2.2).2.1 != 0 then ([], (rowR l.1 l.2.1 l.2.2).2.1, (rowR l.1 l.2.1 l.2.2).2.2) else allS r (out ++ (rowR l.1 l.2.1 l.2.2).1)
def total : List Ln → Nat
  | [] => 0
  | l :: r => l.2.2.length + total r
theorem total_mem : ∀ {ls : List Ln} {l : Ln}, l ∈ ls → l.2.2.length ≤ total ls
  | a :: r, l, h => by
    rw [total]
    rcases List.mem_cons.1 h with rfl | h
    · omega
    · have := total_mem h; omega
  | [], l, h => by cases h
theorem lex_All_loop (k : Nat) {R : Type} (a b : Int) (ls : List Ln) (K : List Pc → Int → Int → Option R) (hl : ls.length ≤ 1000000) (hk : total ls + 20 < k) (ht : total ls ≤ 1000000) :
    ∀ (t : List Ln) (n m : Nat) (out : List Pc), ls.drop n = t → t.length < m → n ≤ ls.length → out.length + total t ≤ 1000000 → L_lex_All_1003 k m a b out ls (ls.length : Int) (n : Int) K = K (allS t out).1 (allS t out).2.1 (allS t out).2.2
  | t, n, 0, out, _, hm, _, _ => by omega
  | [], n, m + 1, out, hd, hm, hn, ho => by
    have := drop_nil hd
    rw [L_lex_All_1003, B_lex_All_1003]
    simp (disch := omega) only [dec_t, dec_f, ieq_t, ieq_f, ine_t, ine_f, inb_t, bnd_t, wrap_id, wrap8_id, cond_true, cond_false, Bool.not_true, Bool.not_false, Bool.true_or, Bool.or_true, Bool.false_or, Bool.or_false, Bool.true_and, Bool.and_true, Bool.false_and, Bool.and_false, bool_eq_true', bool_eq_false', toNat_cast']
    rfl
  | c :: r, n, m + 1, out, hd, hm, hn, ho => by
    obtain ⟨hlt, hc, hr⟩ := drop_cons' hd
    rw [total] at ho
    have hmem : c ∈ ls := by
      have := hc c
      rw [List.getD_eq_getElem?_getD, List.getElem?_eq_getElem hlt] at this
      exact this ▸ List.getElem_mem hlt
    have hcl := total_mem hmem
    have hrl := rowR_len c.1 c.2.1 c.2.2
    rw [L_lex_All_1003, B_lex_All_1003]
    simp (disch := omega) only [dec_t, inb_t, cond_true, hc, toNat_cast']
    rw [lex_Row_eq k c.1 c.2.1 c.2.2 _ (by omega) (by omega), allS]
    cases (rowR c.1 c.2.1 c.2.2).2.1 != 0 with
    | true => rfl
    | false =>
      simp only [cond_false]
      rw [fits_t (by omega) (by omega), cond_true]
      simp (disch := omega) only [wrap_id, cast_succ]
      exact lex_All_loop k a b ls K hl hk ht r (n + 1) m _ hr (by simp at hm; omega) (by omega) (by simp; omega)
theorem lex_All_eq (k : Nat) {R : Type} (ls : List Ln) (K : List Pc → Int → Int → Option R) (hl : ls.length ≤ 1000000) (hk : total ls + 20 < k) (hk2 : ls.length < k) (ht : total ls ≤ 1000000) : F_lex_All k ls K = K (allS ls []).1 (allS ls []).2.1 (allS ls []).2.2 := by
  unfold F_lex_All A_lex_All
  exact lex_All_loop k 0 0 ls K hl hk ht ls 0 k [] rfl hk2 (Nat.zero_le _) (by simpa using ht)
theorem ref10_Pieces_loop (k : Nat) {R : Type} (a b : Int) (ls : List Ln) (K : List Pc → Int → Int → Option R) (hl : ls.length ≤ 1000000) (hk : total ls + 20 < k) (ht : total ls ≤ 1000000) :
    ∀ (t : List Ln) (n m : Nat) (out : List Pc), ls.drop n = t → t.length < m → n ≤ ls.length → out.length + total t ≤ 1000000 → L_ref10_Pieces_1003 k m ls a b out (n : Int) K = K (allS t out).1 (allS t out).2.1 (allS t out).2.2
  | t, n, 0, out, _, hm, _, _ => by omega
  | [], n, m + 1, out, hd, hm, hn, ho => by
    have := drop_nil hd
    rw [L_ref10_Pieces_1003, B_ref10_Pieces_1003]
    simp (disch := omega) only [dec_t, dec_f, ieq_t, ieq_f, ine_t, ine_f, inb_t, bnd_t, wrap_id, wrap8_id, cond_true, cond_false, Bool.not_true, Bool.not_false, Bool.true_or, Bool.or_true, Bool.false_or, Bool.or_false, Bool.true_and, Bool.and_true, Bool.false_and, Bool.and_false, bool_eq_true', bool_eq_false', toNat_cast']
    rfl
  | c :: r, n, m + 1, out, hd, hm, hn, ho => by
    obtain ⟨hlt, hc, hr⟩ := drop_cons' hd
    rw [total] at ho
    have hmem : c ∈ ls := by
      have := hc c
      rw [List.getD_eq_getElem?_getD, List.getElem?_eq_getElem hlt] at this
      exact this ▸ List.getElem_mem hlt
    have hcl := total_mem hmem
    have hrl := rowR_len c.1 c.2.1 c.2.2
    rw [L_ref10_Pieces_1003, B_ref10_Pieces_1003]
    simp (disch := omega) only [dec_t, inb_t, cond_true, hc, toNat_cast']
    rw [ref10_Row_eq k c.1 c.2.1 c.2.2 _ (by omega) (by omega), allS]
    cases (rowR c.1 c.2.1 c.2.2).2.1 != 0 with
    | true => rfl
    | false =>
      simp only [cond_false]
      rw [fits_t (by omega) (by omega), cond_true]
      simp (disch := omega) only [wrap_id, cast_succ]
      exact ref10_Pieces_loop k a b ls K hl hk ht r (n + 1) m _ hr (by simp at hm; omega) (by omega) (by simp; omega)
theorem ref10_Pieces_eq (k : Nat) {R : Type} (ls : List Ln) (K : List Pc → Int → Int → Option R) (hl : ls.length ≤ 1000000) (hk : total ls + 20 < k) (hk2 : ls.length < k) (ht : total ls ≤ 1000000) : F_ref10_Pieces k ls K = K (allS ls []).1 (allS ls []).2.1 (allS ls []).2.2 := by
  unfold F_ref10_Pieces A_ref10_Pieces
  exact ref10_Pieces_loop k 0 0 ls K hl hk ht ls 0 k [] rfl hk2 (Nat.zero_le _) (by simpa using ht)

theorem awake_eq (k : Nat) {R : Type} (K : Bool → Option R) (hk : 100 ≤ k) : F_law11_awake k K = K true := by
  unfold F_law11_awake A_law11_awake
  have e1 : rowR 3 2 [45, 32, 107, 101, 121, 58, 32, 34, 97, 32, 98, 34] = ([(1, 3, 2, [], false), (2, 3, 4, [107, 101, 121], false), (3, 3, 9, [97, 32, 98], true)], 0, 0) := by kernel_rfl
  have e2 : rowR 1 0 [97, 58, 32, 91, 98] = ([], 4, 1) := by kernel_rfl
  have e3 : rowR 1 0 [39, 97, 39, 32, 98] = ([], 3, 1) := by kernel_rfl
  have e4 : allS [(1, 0, [97, 58]), (2, 1, [39, 105, 116, 39, 39, 115, 39])] [] = ([(2, 1, 0, [97], false), (3, 2, 1, [105, 116, 39, 115], true)], 0, 0) := by kernel_rfl
  rw [lex_Row_eq k _ _ _ _ (by simp) (by simp; omega), e1]
  dsimp only
  rw [lex_Row_eq k _ _ _ _ (by simp) (by simp; omega), e2]
  dsimp only
  rw [lex_Row_eq k _ _ _ _ (by simp) (by simp; omega), e3]
  dsimp only
  rw [lex_All_eq k _ _ (by simp) (by simp [total]; omega) (by simp; omega) (by simp [total]), e4]
  have e5 : (((0 : Int) == 0 && (0 : Int) == 0) == true) = true := rfl
  dsimp only
  rw [e5, cond_true, same_eq k _ (by simp) (by simp; omega)]
  rfl
end Go.Proofs.Ytfbagjjnfpgjkaa.Pvm

set_option linter.unusedVariables false
set_option linter.unusedSimpArgs false
namespace Go.Proofs.Ytfbagjjnfpgjkaa.Pvm
open Go
def cnt : Nat → List Ln → Nat
  | a, [] => a
  | a, l :: r => if a ≤ 3000 then cnt (a + min l.2.2.length 3001) r else a
theorem cnt_total : ∀ (r : List Ln) (a : Nat), cnt a r ≤ 3000 → a + total r ≤ 3000
  | [], a, h => by simpa [total, cnt] using h
  | l :: r, a, h => by
    rw [cnt] at h
    split at h
    · have := cnt_total r _ h
      rw [total]
      omega
    · omega
theorem LexAll_loop (k : Nat) (ls : List Ln) (hl : ls.length + 4000 < k) (h3 : ls.length ≤ 140737488351232) : ∀ (t : List Ln) (n m a : Nat), ls.drop n = t → t.length < m → n ≤ ls.length → a ≤ 140737488351232 →
    L_law11_LexAll_1003 k m ls (a : Int) (n : Int) (fun b => some b) = if 3000 < cnt a t then some true else
      F_lex_All k ls fun y7 y8 y9 => F_ref10_Pieces k ls fun y10 y11 y12 => F_law11_same k y7 y10 fun y13 =>
        bif (bif y13 then y8 == y11 && y9 == y12 else false) then F_law11_awake k fun y14 => some y14 else some false
  | t, n, 0, a, _, hm, _, _ => by omega
  | [], n, m + 1, a, hd, hm, hn, ha => by
    have := drop_nil hd
    rw [L_law11_LexAll_1003, B_law11_LexAll_1003, cnt]
    simp (disch := omega) only [dec_t, dec_f, ieq_t, ieq_f, ine_t, ine_f, inb_t, bnd_t, wrap_id, wrap8_id, cond_true, cond_false, Bool.not_true, Bool.not_false, Bool.true_or, Bool.or_true, Bool.false_or, Bool.or_false, Bool.true_and, Bool.and_true, Bool.false_and, Bool.and_false, bool_eq_true', bool_eq_false', toNat_cast']
    by_cases h : 3000 < a
    · simp (disch := omega) only [dec_t, dec_f, ieq_t, ieq_f, ine_t, ine_f, inb_t, bnd_t, wrap_id, wrap8_id, cond_true, cond_false, Bool.not_true, Bool.not_false, Bool.true_or, Bool.or_true, Bool.false_or, Bool.or_false, Bool.true_and, Bool.and_true, Bool.false_and, Bool.and_false, bool_eq_true', bool_eq_false', toNat_cast']
      rw [if_pos h, awake_eq k _ (by omega)]
    · simp (disch := omega) only [dec_t, dec_f, ieq_t, ieq_f, ine_t, ine_f, inb_t, bnd_t, wrap_id, wrap8_id, cond_true, cond_false, Bool.not_true, Bool.not_false, Bool.true_or, Bool.or_true, Bool.false_or, Bool.or_false, Bool.true_and, Bool.and_true, Bool.false_and, Bool.and_false, bool_eq_true', bool_eq_false', toNat_cast']
      rw [if_neg h]
  | c :: r, n, m + 1, a, hd, hm, hn, ha => by
    obtain ⟨hlt, hc, hr⟩ := drop_cons' hd
    rw [L_law11_LexAll_1003, B_law11_LexAll_1003, cnt]
    by_cases h : a ≤ 3000
    · simp (disch := omega) only [dec_t, dec_f, ieq_t, ieq_f, ine_t, ine_f, inb_t, bnd_t, wrap_id, wrap8_id, cond_true, cond_false, Bool.not_true, Bool.not_false, Bool.true_or, Bool.or_true, Bool.false_or, Bool.or_false, Bool.true_and, Bool.and_true, Bool.false_and, Bool.and_false, bool_eq_true', bool_eq_false', toNat_cast', hc, cast_succ]
      rw [if_pos h]
      have e : IntKind.i64.wrap ((a : Int) + if (3001 : Int) < (c.2.2.length : Int) then 3001 else (c.2.2.length : Int)) = ((a + min c.2.2.length 3001 : Nat) : Int) := by
        split
        · simp (disch := omega) only [wrap_id]; omega
        · simp (disch := omega) only [wrap_id]; omega
      rw [e]
      exact LexAll_loop k ls hl h3 r (n + 1) m (a + min c.2.2.length 3001) hr (by simp at hm; omega) (by omega) (by omega)
    · simp (disch := omega) only [dec_t, dec_f, ieq_t, ieq_f, ine_t, ine_f, inb_t, bnd_t, wrap_id, wrap8_id, cond_true, cond_false, Bool.not_true, Bool.not_false, Bool.true_or, Bool.or_true, Bool.false_or, Bool.or_false, Bool.true_and, Bool.and_true, Bool.false_and, Bool.and_false, bool_eq_true', bool_eq_false', toNat_cast']
      rw [if_neg h, awake_eq k _ (by omega), if_pos (by omega)]
theorem LexAll_pure (x : (Kd.sl (.pr (.int .i64) (.pr (.int .i64) .str))).T) (hw : Wf (.sl (.pr (.int .i64) (.pr (.int .i64) .str))) x) : ∃ k, F_law11_LexAll k x (fun b => some b) = some true := by
  have hx : x.length ≤ 140737488351232 := by
    have h1 : x.length * 32 ≤ 140737488351232 := hw.1
    omega
  obtain ⟨k, hk⟩ : ∃ k : Nat, k = x.length + 4001 := ⟨_, rfl⟩
  refine ⟨k, ?_⟩
  unfold F_law11_LexAll A_law11_LexAll
  refine Eq.trans (LexAll_loop k x (by omega) hx x 0 _ x.length rfl (by omega) (by omega) hx) ?_
  split
  · rfl
  · next h =>
    have ht := cnt_total x x.length (by omega)
    rw [lex_All_eq k x _ (by omega) (by omega) (by omega) (by omega)]
    rw [ref10_Pieces_eq k x _ (by omega) (by omega) (by omega) (by omega)]
    have hlen : ∀ (t : List Ln) (out : List Pc), (allS t out).1.length ≤ out.length + total t := by
      intro t
      induction t with
      | nil => intro out; simp [allS]
      | cons l r ih =>
        intro out
        rw [allS, total]
        have := rowR_len l.1 l.2.1 l.2.2
        cases (rowR l.1 l.2.1 l.2.2).2.1 != 0 with
        | true => simp
        | false =>
          rw [cond_false]
          refine Nat.le_trans (ih _) ?_
          simp
          omega
    have := hlen x []
    simp only [List.length_nil] at this
    rw [same_eq k _ (by omega) (by omega)]
    simp only [beq_self_eq_true, Bool.and_self, cond_true]
    rw [awake_eq k _ (by omega)]
end Go.Proofs.Ytfbagjjnfpgjkaa.Pvm

set_option linter.unusedVariables false
namespace Go.Proofs.Ytfbagjjnfpgjkaa.lexAll
open Go Go.Proofs Go.ChangeShapes Go.WideShapes Go.ChangeAt Go.RowKit Go.Proofs.Ytfbagjjnfpgjkaa.Pvm
theorem own : ownKnob Try.prog.godebug = none := by kernel_rfl
theorem laidOut : laidOutB Try.prog = true := by kernel_rfl
set_option maxRecDepth 100000 in
theorem lifted (os : Os) (started : os.Started) (H : Type) (enc : TypeId × Value → H) :
    ReturnsInHanded {} Try.checked os 4 .any (Rows.lexAllSpec.pre6 enc Try.prog Try.f4 Rows.lexAllRow.domain false) (Rows.lexAllSpec.post enc Try.prog Try.f4 false true false false) := by
  refine returnsInHanded_of_change_sized (C := Try.checked) own started (by kernel_rfl) Try.func4
    (ChangeSpec.witness6 (enc := enc) (C := Try.checked) false ⟨#[], #[.slice none 0 0], []⟩ 8 (by kernel_rfl) (by kernel_rfl) (by kernel_rfl) (by kernel_rfl)) ?_
  intro W base args ds gs before hval0 hW hcnd hsz0 _
  have hsz : (DataW.weightsEach Try.prog (Try.f4.params.toList ++ Rows.lexAllSpec.plain.varTypes Try.prog) (ds ++ gs)).all (· ≤ reachBytes) = true := hsz0
  have hval : ∀ (j : Nat) t v, Try.f4.params[j]? = some t → args[j]? = some v → Value.okWide Try.prog W .any base t v := hval0
  have hW' := hW
  obtain ⟨p, q, hA0, hV, rfl, hfz, hnd⟩ := hW
  have hA : DataW.TrodAll enc Try.prog W 0 (fun _ => true) true Try.f4.params.toList args.toList ds p := hA0
  rw [Try.params4] at hA hval hsz
  obtain ⟨v0, vs0, d0, ds0, p0, q0, hargs, rfl, rfl, h0, r0⟩ := trodAll_cons hA
  obtain ⟨rfl, rfl, rfl⟩ := trodAll_nil r0
  obtain rfl : args = #[v0] := by cases args; simp_all
  obtain ⟨rfl, rfl⟩ := trodVars_none hV
  have hws := weights_of (P := Try.prog) hsz
  have k0 := h0
  have lt0 : ∀ x ∈ p0, x.block < W.heap.size := by obtain ⟨m, hm⟩ := k0; exact DataW.trod_lt m _ _ _ hm
  obtain ⟨x0, wf0, rv0⟩ := arg_data tyT_ok (n := 9) (K := (.sl (.pr (.int .i64) (.pr (.int .i64) .str)))) (by kernel_rfl) (by kernel_rfl) (hval 0 32 v0 rfl rfl) h0 (hws 0 32 d0 rfl rfl) (h := mkH []) (G := G0) (fun _ => rfl) (fun _ h => h)
  obtain ⟨k, hk⟩ := LexAll_pure x0 wf0
  have hrun : run_law11_LexAll k [.v (.sl (.pr (.int .i64) (.pr (.int .i64) .str))) x0] [] lawK = some true := hk
  refine (law_calls (fn := Try.f4) (c := Try.f4.body.getD .skip) (by kernel_rfl) (by kernel_rfl) (by kernel_rfl) (D_law11_LexAll k hrun) (vals := [v0]) ⟨v0, _, rfl, rv0, rfl⟩).mono fun e W' ⟨he, bel⟩ => ?_
  subst he
  exact ⟨_, rfl, _, _, _, [], _, [], hW', trodAll_mk1 (shut_bool Try.underlying4 _), (trodAll_cons_mk (Below.trod laidOut (by kernel_rfl) (of_decide_eq_true (by kernel_rfl)) k0 bel lt0) trodAll_mk0), rfl, bel.frame _, fun h => by cases h⟩
theorem over : Rows.lexAllRow.holds Try.pinned (OpenSpec.ofChange Rows.lexAllSpec) :=
  OpenClaim.holds_of_wide 4 Try.f4 rfl rfl rfl rfl rfl rfl rfl ⟨rfl, rfl, rfl, rfl, rfl⟩ rfl rfl rfl rfl rfl (by kernel_rfl) Try.func4 (by kernel_rfl)
    (of_decide_eq_true (by kernel_rfl)) (by unfold Func.isWrapper; first | (rw [if_pos (by decide +kernel)]; kernel_rfl) | (rw [if_neg (by decide +kernel)]; exact ⟨rfl, rfl⟩))
    (fun os started H enc _ => lifted os started H enc)
theorem proved : Rows.LexAllSaid := over
#print axioms proved
end Go.Proofs.Ytfbagjjnfpgjkaa.lexAll
namespace Go.Proofs.Ytfbagjjnfpgjkaa
/-- The row, under a short name. -/
theorem lexAll_holds : Rows.LexAllSaid := lexAll.proved
end Go.Proofs.Ytfbagjjnfpgjkaa
