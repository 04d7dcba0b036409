/- The Go function DocForms answers true for every number, on any machine and under any order of evaluation that Go allows; with no condition besides the statement's own, the card's own ties to the pruned copy of the project included. -/
import Derived.Lib.TrimU
import Derived.Test.YtpfbdepoammjmaaDoorCards
import Derived.Test.YtpfbdepoammjmaaDoorTie
import Derived.LaidMore
import Derived.Lay
import Derived.SevenTiedAt
import Derived.Stop.Joined
import Derived.Test.YtpfbdepoammjmaaDoorRows
import Derived.Test.YtpfbdepoammjmaaDoorDocFormsM0
import Derived.Test.YtpfbdepoammjmaaDoorDocFormsM1
import Derived.Test.YtpfbdepoammjmaaDoorDocFormsM2
import Derived.Test.YtpfbdepoammjmaaDoorDocFormsM3
import Derived.Test.YtpfbdepoammjmaaDoorDocFormsM4
set_option linter.unusedVariables false
set_option linter.unusedSimpArgs false
set_option linter.unusedSectionVars false
namespace Go.Proofs.YtpfbdepoammjmaaDoor.Pvm
open Go
abbrev Res := List Pc × (Int × Int)
def finQ (no col : Int) (out : List Pc) : Option (List UInt8 × List UInt8) → Res
  | none => ([], 3, no)
  | some (a, r) => bif !(r == []) then ([], 3, no) else bif decide (200 < a.length) then ([], 4, no) else (out ++ [(3, no, col, a, true)], 0, 0)
def txtS (no ind : Int) (at_ : Nat) (s : List UInt8) (out : List Pc) : Res :=
  match s with
  | [] => (out, 0, 0)
  | c :: t => bif c == 39 then finQ no (ind + at_) out (sgl [] t) else bif c == 34 then finQ no (ind + at_) out (dbl (t.length + 1) [] t)
      else bif oddB c || (dsh (c :: t) || decide (0 < kS (c :: t))) then ([], 4, no) else bif decide (200 < (c :: t).length) then ([], 4, no) else (out ++ [(3, no, ind + at_, c :: t, false)], 0, 0)
def endS (no ind : Int) (at_ : Nat) (s : List UInt8) (out : List Pc) : Res :=
  bif decide (0 < kS s) then bif decide (64 < kS s) then ([], 5, no)
    else txtS no ind (at_ + (kS s + 1) + nb (s.drop (kS s + 1))) ((s.drop (kS s + 1)).drop (nb (s.drop (kS s + 1)))) (out ++ [(2, no, ind + at_, s.take (kS s), false)])
  else txtS no ind at_ s out
def rowS (no ind : Int) : Nat → Nat → List UInt8 → List Pc → Res
  | 0, _, _, out => (out, 0, 0)
  | f + 1, at_, s, out => bif dsh s then rowS no ind f (at_ + 1 + nb (s.drop 1)) ((s.drop 1).drop (nb (s.drop 1))) (out ++ [(1, no, ind + at_, [], false)]) else endS no ind at_ s out
def rowR (no ind : Int) (s : List UInt8) : Res :=
  bif decide (ind < 0) || decide (16384 < ind) then ([], 6, no) else rowS no ind (s.length + 1) (nb s) (s.drop (nb s)) []
def outL {R : Type} (K1 : List Pc → Option R) (E1 : Int → Int → Option R) (r : Res) : Option R := bif r.2.1 == 0 then K1 r.1 else E1 r.2.1 r.2.2
theorem piece_eq (k : Nat) {R : Type} (x0 x1 : Int) (x2 : List UInt8) (n : Nat) (x4 : List Pc) (kd : Int) (t : List UInt8) (q : Bool) (b : Nat) (K : Int → Int → List UInt8 → Int → List Pc → Option R)
    (h0 : 0 ≤ x1) (h1 : x1 ≤ 16384) (hn : n ≤ 1000000) (hb : b ≤ 1000000) (hx : x4.length ≤ 1000000) :
    F_lex_lexer_piece k x0 x1 x2 (n : Int) x4 kd t q (b : Int) K = K x0 x1 x2 ((n + b : Nat) : Int) (x4 ++ [(kd, x0, x1 + (n : Int), t, q)]) := by
  unfold F_lex_lexer_piece A_lex_lexer_piece
  rw [fits_t (by simp; omega) (by simp; omega)]
  simp (disch := omega) only [dec_t, dec_f, ieq_t, ieq_f, ine_t, ine_f, inb_t, bnd_t, wrap_id, wrap8_id, cond_true, cond_false, Bool.not_true, Bool.not_false, Bool.true_or, Bool.or_true, Bool.false_or, Bool.or_false, Bool.true_and, Bool.and_true, Bool.false_and, Bool.and_false, bool_eq_true', bool_eq_false', toNat_cast', cast_add]
theorem lex_text_eq (k : Nat) {R : Type} (no ind : Int) (text : List UInt8) (n : Nat) (out : List Pc) (c : UInt8) (t : List UInt8) (K1 : List Pc → Option R) (E1 : Int → Int → Option R)
    (h0 : 0 ≤ ind) (h1 : ind ≤ 16384) (hn : n ≤ 1000000) (ho : out.length ≤ 1000000) (hs : (c :: t).length ≤ 1000000) (hk : (c :: t).length < k) :
    F_lex_lexer_text k no ind text (n : Int) out (c :: t) (fun _ _ _ _ o => K1 o) (fun _ _ _ _ _ a b => E1 a b) = outL K1 E1 (txtS no ind n (c :: t) out) := by
  have hi : inb 0 ((c :: t).length : Int) = true := inb_t (by omega) (by rw [List.length_cons]; omega)
  have hg : (c :: t).getD (Int.toNat 0) 0 = c := rfl
  have e39 : ((c.toNat : Int) == 39) = (c == 39) := u8_beq c 39 (by omega)
  have e34 : ((c.toNat : Int) == 34) = (c == 34) := u8_beq c 34 (by omega)
  have hq := idx_sg c
  unfold sgL at hq
  have quoted : ∀ (x : Option (List UInt8 × List UInt8)), (∀ a r, x = some (a, r) → r.length < t.length + 1) → (match x with
      | some (a, r) => (fun (y10 y11 : Int) (y12 : List UInt8) (y13 : Int) (y14 : List Pc) (y15 : List UInt8) (y16 : Int) =>
          bif y16 != ((c :: t).length : Int) then E1 3 y10
          else bif decide ((y15.length : Int) > 200) then E1 4 y10
            else F_lex_lexer_piece k y10 y11 y12 y13 y14 3 y15 true y16 fun y17 y18 y19 y20 y21 => K1 y21) no ind text (n : Int) out a (((c :: t).length - r.length : Nat) : Int)
      | none => E1 3 no) = outL K1 E1 (finQ no (ind + n) out x) := by
    intro x hx
    cases x with
    | none => rfl
    | some p =>
      obtain ⟨a, r⟩ := p
      have hr := hx a r rfl
      simp only [finQ]
      simp only [List.length_cons] at hs hk ⊢
      cases hre : r == [] with
      | true =>
        have : r = [] := beq_iff_eq.1 hre
        subst this
        simp only [List.length_nil, Nat.sub_zero]
        simp (disch := omega) only [dec_t, dec_f, ieq_t, ieq_f, ine_t, ine_f, inb_t, bnd_t, wrap_id, wrap8_id, cond_true, cond_false, Bool.not_true, Bool.not_false, Bool.true_or, Bool.or_true, Bool.false_or, Bool.or_false, Bool.true_and, Bool.and_true, Bool.false_and, Bool.and_false, bool_eq_true', bool_eq_false', toNat_cast']
        by_cases ha : 200 < a.length
        · simp (disch := omega) only [dec_t, dec_f, ieq_t, ieq_f, ine_t, ine_f, inb_t, bnd_t, wrap_id, wrap8_id, cond_true, cond_false, Bool.not_true, Bool.not_false, Bool.true_or, Bool.or_true, Bool.false_or, Bool.or_false, Bool.true_and, Bool.and_true, Bool.false_and, Bool.and_false, bool_eq_true', bool_eq_false', toNat_cast']; rfl
        · simp (disch := omega) only [dec_t, dec_f, ieq_t, ieq_f, ine_t, ine_f, inb_t, bnd_t, wrap_id, wrap8_id, cond_true, cond_false, Bool.not_true, Bool.not_false, Bool.true_or, Bool.or_true, Bool.false_or, Bool.or_false, Bool.true_and, Bool.and_true, Bool.false_and, Bool.and_false, bool_eq_true', bool_eq_false', toNat_cast']
          rw [piece_eq k no ind text n out 3 a true (t.length + 1) _ h0 h1 hn (by omega) ho]
          rfl
      | false =>
        have hr0 : r.length ≠ 0 := fun e => by rw [List.eq_nil_of_length_eq_zero e] at hre; cases hre
        simp (disch := omega) only [dec_t, dec_f, ieq_t, ieq_f, ine_t, ine_f, inb_t, bnd_t, wrap_id, wrap8_id, cond_true, cond_false, Bool.not_true, Bool.not_false, Bool.true_or, Bool.or_true, Bool.false_or, Bool.or_false, Bool.true_and, Bool.and_true, Bool.false_and, Bool.and_false, bool_eq_true', bool_eq_false', toNat_cast']
        rfl
  unfold F_lex_lexer_text A_lex_lexer_text
  simp only [hi, hg, e39, e34, gives_eq, cond_true, IndexByte_eq, hq, txtS]
  cases h39 : c == 39 with
  | true =>
    simp only [cond_true]
    rw [lex_single_eq k no ind text n out c t hs hk]
    exact quoted (sgl [] t) fun a r h => by have := sgl_le h; omega
  | false =>
    simp only [cond_false]
    cases h34 : c == 34 with
    | true =>
      simp only [cond_true]
      rw [lex_double_eq k no ind text n out c t hs hk]
      exact quoted (dbl (t.length + 1) [] t) fun a r h => by have := dbl_le h; omega
    | false =>
      simp only [cond_false, lex_dash_eq]
      have hky : ∀ K : List UInt8 → Option R, F_lex_key k (c :: t) K = K ((c :: t).take (kS (c :: t))) := fun K => lex_key_eq k (c :: t) K hk (by omega)
      simp only [hky]
      have hkl := kS_lt (c :: t)
      have hne : (((c :: t).take (kS (c :: t))) == []) = decide (kS (c :: t) = 0) := by
        rw [Bool.eq_iff_iff]
        simp only [beq_iff_eq, decide_eq_true_eq]
        constructor
        · intro h
          have := congrArg List.length h
          rw [List.length_take, List.length_nil] at this
          simp only [List.length_cons] at this hkl
          omega
        · intro h; rw [h, List.take_zero]
      rw [hne]
      cases h1' : oddB c with
      | true => rfl
      | false =>
        simp only [dec_t, dec_f, ieq_t, ieq_f, ine_t, ine_f, inb_t, bnd_t, wrap_id, wrap8_id, cond_true, cond_false, Bool.not_true, Bool.not_false, Bool.true_or, Bool.or_true, Bool.false_or, Bool.or_false, Bool.true_and, Bool.and_true, Bool.false_and, Bool.and_false, bool_eq_true', bool_eq_false', toNat_cast']
        cases h2' : dsh (c :: t) with
        | true => rfl
        | false =>
          simp only [dec_t, dec_f, ieq_t, ieq_f, ine_t, ine_f, inb_t, bnd_t, wrap_id, wrap8_id, cond_true, cond_false, Bool.not_true, Bool.not_false, Bool.true_or, Bool.or_true, Bool.false_or, Bool.or_false, Bool.true_and, Bool.and_true, Bool.false_and, Bool.and_false, bool_eq_true', bool_eq_false', toNat_cast']
          by_cases h3 : kS (c :: t) = 0
          · simp (disch := omega) only [dec_t, dec_f, ieq_t, ieq_f, ine_t, ine_f, inb_t, bnd_t, wrap_id, wrap8_id, cond_true, cond_false, Bool.not_true, Bool.not_false, Bool.true_or, Bool.or_true, Bool.false_or, Bool.or_false, Bool.true_and, Bool.and_true, Bool.false_and, Bool.and_false, bool_eq_true', bool_eq_false', toNat_cast']
            by_cases h4 : 200 < (c :: t).length
            · simp (disch := omega) only [dec_t, dec_f, ieq_t, ieq_f, ine_t, ine_f, inb_t, bnd_t, wrap_id, wrap8_id, cond_true, cond_false, Bool.not_true, Bool.not_false, Bool.true_or, Bool.or_true, Bool.false_or, Bool.or_false, Bool.true_and, Bool.and_true, Bool.false_and, Bool.and_false, bool_eq_true', bool_eq_false', toNat_cast']; rfl
            · simp (disch := omega) only [dec_t, dec_f, ieq_t, ieq_f, ine_t, ine_f, inb_t, bnd_t, wrap_id, wrap8_id, cond_true, cond_false, Bool.not_true, Bool.not_false, Bool.true_or, Bool.or_true, Bool.false_or, Bool.or_false, Bool.true_and, Bool.and_true, Bool.false_and, Bool.and_false, bool_eq_true', bool_eq_false', toNat_cast']
              rw [piece_eq k no ind text n out 3 (c :: t) false (c :: t).length _ h0 h1 hn hs ho]
              rfl
          · simp (disch := omega) only [dec_t, dec_f, ieq_t, ieq_f, ine_t, ine_f, inb_t, bnd_t, wrap_id, wrap8_id, cond_true, cond_false, Bool.not_true, Bool.not_false, Bool.true_or, Bool.or_true, Bool.false_or, Bool.or_false, Bool.true_and, Bool.and_true, Bool.false_and, Bool.and_false, bool_eq_true', bool_eq_false', toNat_cast']; rfl
end Go.Proofs.YtpfbdepoammjmaaDoor.Pvm

namespace Go.Proofs.YtpfbdepoammjmaaDoor.Pvm
open Go
theorem kS_room {s : List UInt8} (h : 0 < kS s) : kS s + 1 ≤ s.length := by
  have h1 := tw_len s
  cases hd : s.drop (s.takeWhile sgn).length with
  | nil => rw [kS_end hd] at h; omega
  | cons c r =>
    obtain ⟨hlt, _, _⟩ := drop_cons' hd
    rw [kS_at hd] at h ⊢
    cases hb : ((c == 58) && hd32 r) <;> rw [hb] at h <;> simp only [cond_true, cond_false] at h ⊢ <;> omega
theorem take_nil (s : List UInt8) : ((s.take (kS s)) == []) = decide (kS s = 0) := by
  have hkl := kS_lt s
  rw [Bool.eq_iff_iff]
  simp only [beq_iff_eq, decide_eq_true_eq]
  constructor
  · intro h
    have := congrArg List.length h
    rw [List.length_take, List.length_nil] at this
    omega
  · intro h; rw [h, List.take_zero]
theorem lex_end_eq (k : Nat) {R : Type} (no ind : Int) (text : List UInt8) (n : Nat) (s : List UInt8) (out : List Pc) (K1 : List Pc → Option R) (E1 : Int → Int → Option R)
    (h0 : 0 ≤ ind) (h1 : ind ≤ 16384) (ht : text.length ≤ 1000000) (hk : text.length + 20 < k) (hs : text.drop n = s) (hn : n ≤ text.length) (ho : out.length ≤ n) :
    (bif !(s == []) then F_lex_lexer_text k no ind text (n : Int) out s (fun _ _ _ _ o => K1 o) (fun _ _ _ _ _ a b => E1 a b) else K1 out) = outL K1 E1 (txtS no ind n s out) := by
  have hl := congrArg List.length hs
  rw [List.length_drop] at hl
  cases s with
  | nil => rfl
  | cons c t =>
    have : ((c :: t) == ([] : List UInt8)) = false := rfl
    rw [this, Bool.not_false, cond_true]
    exact lex_text_eq k no ind text n out c t K1 E1 h0 h1 (by omega) (by omega) (by omega) (by omega)
theorem lex_row_loop (k : Nat) {R : Type} (no ind : Int) (text : List UInt8) (K1 : List Pc → Option R) (E1 : Int → Int → Option R)
    (h0 : 0 ≤ ind) (h1 : ind ≤ 16384) (ht : text.length ≤ 1000000) (hk : text.length + 20 < k) :
    ∀ (m : Nat) (s : List UInt8) (n f : Nat) (out : List Pc), text.drop n = s → s.length < m → n ≤ text.length → out.length ≤ n → s.length < f →
      L_lex_lexer_row_1003 k m no ind text (n : Int) out s (fun _ _ _ _ o => K1 o) (fun _ _ _ _ _ a b => E1 a b) = outL K1 E1 (rowS no ind f n s out)
  | 0, s, n, f, out, _, hm, _, _, _ => by omega
  | m + 1, s, n, 0, out, _, _, _, _, hf => by omega
  | m + 1, s, n, f + 1, out, hs, hm, hn, ho, hf => by
    have hl := congrArg List.length hs
    rw [List.length_drop] at hl
    rw [L_lex_lexer_row_1003, B_lex_lexer_row_1003, rowS, lex_dash_eq]
    cases hd : dsh s with
    | true =>
      simp only [cond_true]
      cases s with
      | nil => cases hd
      | cons c t =>
        simp only [List.length_cons] at hm hf hl
        obtain ⟨hlt, _, hr⟩ := drop_cons' hs
        refine Eq.trans (piece_eq k no ind text n out 1 [] false 1 _ h0 h1 (by omega) (by omega) (by omega)) ?_
        rw [lex_rest_eq k no ind text (n + 1) _ _ (by omega) (by omega) (by omega)]
        rw [hr]
        have := nb_le t
        exact lex_row_loop k no ind text K1 E1 h0 h1 ht hk m (t.drop (nb t)) (n + 1 + nb t) f _ (by rw [← hr, List.drop_drop]) (by rw [List.length_drop]; omega) (by omega) (by simp; omega) (by rw [List.length_drop]; omega)
    | false =>
      simp only [cond_false]
      rw [lex_key_eq k s _ (by omega) (by omega), take_nil, endS]
      simp only [gives_eq]
      have hkl := kS_lt s
      by_cases hz : kS s = 0
      · simp (disch := omega) only [dec_t, dec_f, ieq_t, ieq_f, ine_t, ine_f, inb_t, bnd_t, wrap_id, wrap8_id, cond_true, cond_false, Bool.not_true, Bool.not_false, Bool.true_or, Bool.or_true, Bool.false_or, Bool.or_false, Bool.true_and, Bool.and_true, Bool.false_and, Bool.and_false, bool_eq_true', bool_eq_false', toNat_cast']
        exact lex_end_eq k no ind text n s out K1 E1 h0 h1 ht hk hs hn ho
      · have hkr := kS_room (s := s) (by omega)
        have hlen : (s.take (kS s)).length = kS s := by rw [List.length_take]; omega
        simp (disch := omega) only [dec_t, dec_f, ieq_t, ieq_f, ine_t, ine_f, inb_t, bnd_t, wrap_id, wrap8_id, cond_true, cond_false, Bool.not_true, Bool.not_false, Bool.true_or, Bool.or_true, Bool.false_or, Bool.or_false, Bool.true_and, Bool.and_true, Bool.false_and, Bool.and_false, bool_eq_true', bool_eq_false', toNat_cast', hlen]
        by_cases h64 : 64 < kS s
        · simp (disch := omega) only [dec_t, dec_f, ieq_t, ieq_f, ine_t, ine_f, inb_t, bnd_t, wrap_id, wrap8_id, cond_true, cond_false, Bool.not_true, Bool.not_false, Bool.true_or, Bool.or_true, Bool.false_or, Bool.or_false, Bool.true_and, Bool.and_true, Bool.false_and, Bool.and_false, bool_eq_true', bool_eq_false', toNat_cast']; rfl
        · simp (disch := omega) only [dec_t, dec_f, ieq_t, ieq_f, ine_t, ine_f, inb_t, bnd_t, wrap_id, wrap8_id, cond_true, cond_false, Bool.not_true, Bool.not_false, Bool.true_or, Bool.or_true, Bool.false_or, Bool.or_false, Bool.true_and, Bool.and_true, Bool.false_and, Bool.and_false, bool_eq_true', bool_eq_false', toNat_cast', cast_succ]
          rw [piece_eq k no ind text n out 2 _ false (kS s + 1) _ h0 h1 (by omega) (by omega) (by omega)]
          rw [lex_rest_eq k no ind text (n + (kS s + 1)) _ _ (by omega) (by omega) (by omega)]
          have hr : text.drop (n + (kS s + 1)) = s.drop (kS s + 1) := by rw [← hs, List.drop_drop]
          rw [hr]
          have := nb_le (s.drop (kS s + 1))
          rw [List.length_drop] at this
          exact lex_end_eq k no ind text (n + (kS s + 1) + nb (s.drop (kS s + 1))) _ _ K1 E1 h0 h1 ht hk (by rw [← hr, List.drop_drop]) (by omega) (by simp; omega)
theorem lex_Row_eq (k : Nat) {R : Type} (no ind : Int) (s : List UInt8) (K : List Pc → Int → Int → Option R) (ht : s.length ≤ 1000000) (hk : s.length + 20 < k) :
    F_lex_Row k no ind s K = K (rowR no ind s).1 (rowR no ind s).2.1 (rowR no ind s).2.2 := by
  unfold F_lex_Row A_lex_Row F_lex_Row_1_n A_lex_Row_1_n F_lex_Row_1_p A_lex_Row_1_p F_lex_lexer_row A_lex_lexer_row
  simp only [gives_eq]
  have fin : ∀ r : Res, (r.2.1 = 0 → r.2.2 = 0) → (r.2.1 ≠ 0 → r.1 = []) → outL (fun o => K o 0 0) (fun a b => K [] a b) r = K r.1 r.2.1 r.2.2 := by
    intro r h1 h2
    unfold outL
    by_cases h : r.2.1 = 0
    · rw [h1 h, h]; rfl
    · rw [h2 h, ieq_f h]; rfl
  have okQ : ∀ (col : Int) (out : List Pc) x, ((finQ no col out x).2.1 = 0 → (finQ no col out x).2.2 = 0) ∧ ((finQ no col out x).2.1 ≠ 0 → (finQ no col out x).1 = []) := by
    intro col out x
    unfold finQ
    split
    · simp
    · next a r =>
      cases !(r == []) <;> simp only [cond_true, cond_false]
      · cases decide (200 < a.length) <;> simp
      · simp
  have okT : ∀ n s out, ((txtS no ind n s out).2.1 = 0 → (txtS no ind n s out).2.2 = 0) ∧ ((txtS no ind n s out).2.1 ≠ 0 → (txtS no ind n s out).1 = []) := by
    intro n s out
    unfold txtS
    split
    · simp
    · next c t =>
      cases c == 39 <;> simp only [cond_true, cond_false]
      · cases c == 34 <;> simp only [cond_true, cond_false]
        · cases (oddB c || (dsh (c :: t) || decide (0 < kS (c :: t)))) <;> simp only [cond_true, cond_false]
          · cases decide (200 < (c :: t).length) <;> simp
          · simp
        · exact okQ _ _ _
      · exact okQ _ _ _
  have okE : ∀ n s out, ((endS no ind n s out).2.1 = 0 → (endS no ind n s out).2.2 = 0) ∧ ((endS no ind n s out).2.1 ≠ 0 → (endS no ind n s out).1 = []) := by
    intro n s out
    unfold endS
    cases decide (0 < kS s) <;> simp only [cond_true, cond_false]
    · exact okT _ _ _
    · cases decide (64 < kS s) <;> simp only [cond_true, cond_false]
      · exact okT _ _ _
      · simp
  have okR : ∀ f n s out, ((rowS no ind f n s out).2.1 = 0 → (rowS no ind f n s out).2.2 = 0) ∧ ((rowS no ind f n s out).2.1 ≠ 0 → (rowS no ind f n s out).1 = []) := by
    intro f
    induction f with
    | zero => intro n s out; simp [rowS]
    | succ f ih =>
      intro n s out
      rw [rowS]
      cases dsh s <;> simp only [cond_true, cond_false]
      · exact okE _ _ _
      · exact ih _ _ _
  by_cases hi : ind < 0 ∨ 16384 < ind
  · have e1 : (bif decide (ind < 0) then true else decide (ind > 16384)) = true := by
      rw [Bool.cond_true_left]
      simp
      omega
    have e2 : (decide (ind < 0) || decide (16384 < ind)) = true := by simp; omega
    rw [e1, cond_true]
    unfold rowR
    rw [e2]
    rfl
  · have e1 : (bif decide (ind < 0) then true else decide (ind > 16384)) = false := by
      rw [Bool.cond_true_left]
      simp
      omega
    have e2 : (decide (ind < 0) || decide (16384 < ind)) = false := by simp; omega
    rw [e1, cond_false]
    unfold rowR
    rw [e2, cond_false]
    have := lex_rest_eq k no ind s 0 [] (fun y10 y11 y12 y13 y14 y15 => L_lex_lexer_row_1003 k k y10 y11 y12 y13 y14 y15 (fun _ _ _ _ o => K o 0 0) (fun _ _ _ _ _ a b => K [] a b)) (by omega) (by omega) (by omega)
    refine Eq.trans this ?_
    simp only [List.drop_zero, Nat.zero_add]
    have hnb := nb_le s
    rw [lex_row_loop k no ind s (fun o => K o 0 0) (fun a b => K [] a b) (by omega) (by omega) ht hk k (s.drop (nb s)) (nb s) (s.length + 1) [] rfl (by rw [List.length_drop]; omega) hnb (by simp) (by rw [List.length_drop]; omega)]
    exact fin _ (okR _ _ _ _).1 (okR _ _ _ _).2
end Go.Proofs.YtpfbdepoammjmaaDoor.Pvm

namespace Go.Proofs.YtpfbdepoammjmaaDoor.Pvm
open Go
theorem cut_mid {α : Type} (s : List α) (n j : Nat) : cut s (n : Int) ((n + j : Nat) : Int) = (s.drop n).take j := by
  simp only [cut, toNat_cast']
  rw [List.drop_take]
  congr 1
  omega
end Go.Proofs.YtpfbdepoammjmaaDoor.Pvm

namespace Go.Proofs.YtpfbdepoammjmaaDoor.Pvm
open Go
theorem finQ_len (no col : Int) (out : List Pc) (x : Option (List UInt8 × List UInt8)) : (finQ no col out x).1.length ≤ out.length + 1 := by
  unfold finQ
  split
  · simp
  · next a r =>
    cases !(r == []) <;> simp only [cond_true, cond_false]
    · cases decide (200 < a.length) <;> simp
    · simp
theorem txtS_len (no ind : Int) (n : Nat) (s : List UInt8) (out : List Pc) : (txtS no ind n s out).1.length ≤ out.length + s.length := by
  unfold txtS
  split
  · simp
  · next c t =>
    have h1 := finQ_len no (ind + n) out (sgl [] t)
    have h2 := finQ_len no (ind + n) out (dbl (t.length + 1) [] t)
    have h3 : (c :: t).length = t.length + 1 := rfl
    cases c == 39 <;> simp only [cond_true, cond_false]
    · cases c == 34 <;> simp only [cond_true, cond_false]
      · cases (oddB c || (dsh (c :: t) || decide (0 < kS (c :: t)))) <;> simp only [cond_true, cond_false]
        · cases decide (200 < (c :: t).length) <;> simp
        · simp
      · omega
    · omega
theorem endS_len (no ind : Int) (n : Nat) (s : List UInt8) (out : List Pc) : (endS no ind n s out).1.length ≤ out.length + s.length := by
  unfold endS
  by_cases h : 0 < kS s
  · rw [dec_t h, cond_true]
    have := kS_room h
    cases decide (64 < kS s) <;> simp only [cond_true, cond_false]
    · refine Nat.le_trans (txtS_len _ _ _ _ _) ?_
      simp
      omega
    · simp
  · rw [dec_f h, cond_false]; exact txtS_len _ _ _ _ _
theorem rowS_len (no ind : Int) : ∀ (f n : Nat) (s : List UInt8) (out : List Pc), (rowS no ind f n s out).1.length ≤ out.length + s.length
  | 0, n, s, out => by simp [rowS]
  | f + 1, n, s, out => by
    rw [rowS]
    cases h : dsh s with
    | false => exact endS_len _ _ _ _ _
    | true =>
      rw [cond_true]
      refine Nat.le_trans (rowS_len no ind f _ _ _) ?_
      cases s with
      | nil => cases h
      | cons c t => simp; omega
theorem rowR_len (no ind : Int) (s : List UInt8) : (rowR no ind s).1.length ≤ s.length := by
  unfold rowR
  cases (decide (ind < 0) || decide (16384 < ind)) with
  | true => simp
  | false =>
    rw [cond_false]
    refine Nat.le_trans (rowS_len _ _ _ _ _ _) ?_
    simp
abbrev Ln := Int × (Int × List UInt8)
def allS : List Ln → List Pc → Res
  | [], out => (out, 0, 0)
  | l :: r, out => bif (rowR l.1 l.2.1 l.2.2).2.1 != 0 then ([], (rowR l.1 l.2.1 l.2.2).2.1, (rowR l.1 l.2.1 l.2.2).2.2) else allS r (out ++ (rowR l.1 l.2.1 l.2.2).1)
def total : List Ln → Nat
  | [] => 0
  | l :: r => l.2.2.length + total r
theorem total_mem : ∀ {ls : List Ln} {l : Ln}, l ∈ ls → l.2.2.length ≤ total ls
  | a :: r, l, h => by
    rw [total]
    rcases List.mem_cons.1 h with rfl | h
    · omega
    · have := total_mem h; omega
  | [], l, h => by cases h
theorem lex_All_loop (k : Nat) {R : Type} (a b : Int) (ls : List Ln) (K : List Pc → Int → Int → Option R) (hl : ls.length ≤ 1000000) (hk : total ls + 20 < k) (ht : total ls ≤ 1000000) :
    ∀ (t : List Ln) (n m : Nat) (out : List Pc), ls.drop n = t → t.length < m → n ≤ ls.length → out.length + total t ≤ 1000000 → L_lex_All_1003 k m a b out ls (ls.length : Int) (n : Int) K = K (allS t out).1 (allS t out).2.1 (allS t out).2.2
  | t, n, 0, out, _, hm, _, _ => by omega
  | [], n, m + 1, out, hd, hm, hn, ho => by
    have := drop_nil hd
    rw [L_lex_All_1003, B_lex_All_1003]
    simp (disch := omega) only [dec_t, dec_f, ieq_t, ieq_f, ine_t, ine_f, inb_t, bnd_t, wrap_id, wrap8_id, cond_true, cond_false, Bool.not_true, Bool.not_false, Bool.true_or, Bool.or_true, Bool.false_or, Bool.or_false, Bool.true_and, Bool.and_true, Bool.false_and, Bool.and_false, bool_eq_true', bool_eq_false', toNat_cast']
    rfl
  | c :: r, n, m + 1, out, hd, hm, hn, ho => by
    obtain ⟨hlt, hc, hr⟩ := drop_cons' hd
    rw [total] at ho
    have hmem : c ∈ ls := by
      have := hc c
      rw [List.getD_eq_getElem?_getD, List.getElem?_eq_getElem hlt] at this
      exact this ▸ List.getElem_mem hlt
    have hcl := total_mem hmem
    have hrl := rowR_len c.1 c.2.1 c.2.2
    rw [L_lex_All_1003, B_lex_All_1003]
    simp (disch := omega) only [dec_t, inb_t, cond_true, hc, toNat_cast']
    rw [lex_Row_eq k c.1 c.2.1 c.2.2 _ (by omega) (by omega), allS]
    cases (rowR c.1 c.2.1 c.2.2).2.1 != 0 with
    | true => rfl
    | false =>
      simp only [cond_false]
      rw [fits_t (by omega) (by omega), cond_true]
      simp (disch := omega) only [wrap_id, cast_succ]
      exact lex_All_loop k a b ls K hl hk ht r (n + 1) m _ hr (by simp at hm; omega) (by omega) (by simp; omega)
theorem lex_All_eq (k : Nat) {R : Type} (ls : List Ln) (K : List Pc → Int → Int → Option R) (hl : ls.length ≤ 1000000) (hk : total ls + 20 < k) (hk2 : ls.length < k) (ht : total ls ≤ 1000000) : F_lex_All k ls K = K (allS ls []).1 (allS ls []).2.1 (allS ls []).2.2 := by
  unfold F_lex_All A_lex_All
  exact lex_All_loop k 0 0 ls K hl hk ht ls 0 k [] rfl hk2 (Nat.zero_le _) (by simpa using ht)
end Go.Proofs.YtpfbdepoammjmaaDoor.Pvm

namespace Go.Proofs.YtpfbdepoammjmaaDoor.Pvm
open Go
theorem u8_same (c d : UInt8) : ((c.toNat : Int) == (d.toNat : Int)) = (c == d) := by
  rw [Bool.eq_iff_iff]
  simp only [beq_iff_eq]
  constructor
  · intro h; exact UInt8.toNat_inj.1 (by omega)
  · intro h; rw [h]
theorem u8_other (c d : UInt8) : ((c.toNat : Int) != (d.toNat : Int)) = !(c == d) := by rw [bne, u8_same]
theorem cast_two2 (n : Nat) : (n : Int) + 1 + 1 = ((n + 2 : Nat) : Int) := by omega
theorem cast_pred {n : Nat} (h : 0 < n) : (n : Int) - 1 = ((n - 1 : Nat) : Int) := by omega
end Go.Proofs.YtpfbdepoammjmaaDoor.Pvm

namespace Go.Proofs.YtpfbdepoammjmaaDoor.Pvm
open Go
theorem toBytes_drop (l : List UInt8) (n : Nat) : (toBytes l).drop n = toBytes (l.drop n) := by simp [toBytes, List.map_drop]
theorem toBytes_take (l : List UInt8) (n : Nat) : (toBytes l).take n = toBytes (l.take n) := by simp [toBytes, List.map_take]
theorem toBytes_getD (l : List UInt8) (n : Nat) : (toBytes l).getD n 0 = ((l.getD n 0).toNat : Int) := by
  simp only [toBytes, List.getD, List.getElem?_map]
  cases l[n]? <;> rfl
theorem bytes_wf {x : List Int} (h : ∀ y ∈ x, (0 : Int) ≤ y ∧ y ≤ 255) : ∃ t, x = toBytes t := by
  refine ⟨ofBytes x, ?_⟩
  unfold ofBytes toBytes
  rw [List.map_map]
  symm
  refine (List.map_congr_left fun y hy => ?_).trans (List.map_id x)
  have := h y hy
  simp only [Function.comp, UInt8.toNat_ofNat', id]
  omega
end Go.Proofs.YtpfbdepoammjmaaDoor.Pvm

namespace Go.Proofs.YtpfbdepoammjmaaDoor.Pvm
open Go
def spl : List UInt8 → List (List UInt8)
  | [] => [[]]
  | x :: r => bif x == 10 then [] :: spl r else (match spl r with
    | p :: ps => (x :: p) :: ps
    | [] => [[x]])
theorem spl_upto : ∀ s : List UInt8, spl s = if upto 10 s < s.length then s.take (upto 10 s) :: spl (s.drop (upto 10 s + 1)) else [s]
  | [] => rfl
  | x :: r => by
    rw [spl, upto]
    cases h : x == 10 with
    | true => simp
    | false =>
      rw [cond_false, cond_false, spl_upto r]
      by_cases hl : upto 10 r < r.length
      · rw [if_pos hl, if_pos (by simpa using hl)]
        rfl
      · rw [if_neg hl, if_neg (by simpa using hl)]
theorem count_upto : ∀ s : List UInt8, s.count 10 = if upto 10 s < s.length then (s.drop (upto 10 s + 1)).count 10 + 1 else 0
  | [] => rfl
  | x :: r => by
    rw [List.count_cons, upto]
    cases h : x == 10 with
    | true => simp
    | false =>
      rw [cond_false, count_upto r]
      simp only [Bool.false_eq_true, if_false, Nat.add_zero]
      by_cases hl : upto 10 r < r.length
      · rw [if_pos hl, if_pos (by simpa using hl)]
        simp
      · rw [if_neg hl, if_neg (by simpa using hl)]
theorem Index_eq (k : Nat) {R : Type} (s : List UInt8) (K : Int → Option R) : F_bytes_Index k (toBytes s) 10 K = K (if upto 10 s < s.length then (upto 10 s : Int) else -1) := by
  have : F_bytes_Index k (toBytes s) 10 K = K (idxByte (ofBytes (toBytes s)) 10) := rfl
  rw [this, ofBytes_toBytes]
  have := idx_eq s 10
  rw [← this]; rfl
theorem take_set {α : Type} (l : List α) (i : Nat) (x : α) (h : i < l.length) : (l.set i x).take (i + 1) = l.take i ++ [x] := by
  rw [List.take_add_one, List.take_set_of_le (Nat.le_refl _)]
  simp [h]
theorem genSplit_loop (k : Nat) {R : Type} (K : List (List Int) → Option R) : ∀ (n : Nat) (s : List UInt8) (i c : Nat) (arr : List (List Int)), s.count 10 = c → arr.length = i + c + 1 → c < n → s.length + i + c ≤ 1000000 →
    L_bytes_genSplit_1011 k n (toBytes s) 10 0 ((i + c : Nat) : Int) arr (i : Int) K = K (arr.take i ++ (spl s).map toBytes) := by
  intro n
  induction n with
  | zero => intro s i c arr _ _ h; omega
  | succ n ih =>
    intro s i c arr hc ha hn hl
    rw [L_bytes_genSplit_1011]
    unfold B_bytes_genSplit_1011
    rw [count_upto] at hc
    by_cases hu : upto 10 s < s.length
    · rw [if_pos hu] at hc
      obtain ⟨c', rfl⟩ : ∃ c', c = c' + 1 := ⟨c - 1, by omega⟩
      rw [Index_eq, if_pos hu, spl_upto, if_pos hu]
      have hd : decide ((i : Int) < ((i + (c' + 1) : Nat) : Int)) = true := dec_t (by omega)
      have hu0 : decide ((upto 10 s : Int) < 0) = false := dec_f (by omega)
      have w0 : IntKind.i64.wrap ((upto 10 s : Int) + 0) = (upto 10 s : Int) := by rw [wrap_id (by omega) (by omega)]; omega
      have w1 : IntKind.i64.wrap ((upto 10 s : Int) + (([10] : List Int).length : Int)) = ((upto 10 s + 1 : Nat) : Int) := by rw [wrap_id (by simp; omega) (by simp; omega)]; simp
      have w2 : IntKind.i64.wrap ((i : Int) + 1) = ((i + 1 : Nat) : Int) := by rw [wrap_id (by omega) (by omega)]; omega
      have b1 : bnd 0 (upto 10 s : Int) (upto 10 s : Int) = true := bnd_t (by omega) (by omega) (by omega)
      have d1 : decide ((upto 10 s : Int) ≤ ((toBytes s).length : Int)) = true := dec_t (by rw [toBytes_len]; omega)
      have i1 : inb (i : Int) (arr.length : Int) = true := inb_t (by omega) (by omega)
      have b2 : bnd ((upto 10 s + 1 : Nat) : Int) ((toBytes s).length : Int) ((toBytes s).length : Int) = true := bnd_t (by omega) (by rw [toBytes_len]; omega) (by omega)
      simp only [hd, hu0, w0, w1, w2, b1, d1, i1, b2, cond_true, cond_false, Bool.and_true, Bool.and_self]
      rw [cut_end, cut_start, toBytes_drop, toBytes_take, toNat_cast']
      have e : ((i + (c' + 1) : Nat) : Int) = (((i + 1) + c' : Nat) : Int) := by omega
      rw [e, ih _ (i + 1) c' _ (by omega) (by rw [List.length_set]; omega) (by omega) (by rw [List.length_drop]; omega), take_set _ _ _ (by omega)]
      simp
    · rw [if_neg hu] at hc
      subst hc
      rw [spl_upto, if_neg hu]
      have hd : decide ((i : Int) < ((i + 0 : Nat) : Int)) = false := dec_f (by omega)
      have w2 : IntKind.i64.wrap ((i : Int) + 1) = ((i + 1 : Nat) : Int) := by rw [wrap_id (by omega) (by omega)]; omega
      have i1 : inb (i : Int) (arr.length : Int) = true := inb_t (by omega) (by omega)
      have b2 : ∀ z, bnd 0 ((i + 1 : Nat) : Int) ((arr.set (i : Int).toNat z).length : Int) = true := fun z => bnd_t (by omega) (by omega) (by rw [List.length_set]; omega)
      simp only [hd, w2, i1, b2, cond_true, cond_false]
      rw [cut_start, toNat_cast', take_set _ _ _ (by omega)]
      rfl
theorem Split_eq (k : Nat) {R : Type} (s : List UInt8) (hs : s.length ≤ 100000) (hk : s.length < k) (K : List (List Int) → Option R) : F_bytes_Split k (toBytes s) 10 K = K ((spl s).map toBytes) := by
  unfold F_bytes_Split A_bytes_Split F_bytes_genSplit A_bytes_genSplit
  have hcl : s.count 10 ≤ s.length := List.count_le_length
  have hcnt : F_bytes_Count k (toBytes s) 10 = fun (K : Int → Option R) => K ((s.count 10 : Nat) : Int) := by
    funext K
    have : F_bytes_Count k (toBytes s) 10 K = K (cntB (ofBytes (toBytes s)) 10) := rfl
    rw [this, ofBytes_toBytes]; rfl
  rw [hcnt, toBytes_len]
  have z0 : ((-1 : Int) == 0) = false := rfl
  have z1 : decide ((-1 : Int) < 0) = true := rfl
  have w1 : IntKind.i64.wrap (((s.count 10 : Nat) : Int) + 1) = ((s.count 10 + 1 : Nat) : Int) := by rw [wrap_id (by omega) (by omega)]; omega
  have w2 : IntKind.i64.wrap ((s.length : Int) + 1) = ((s.length + 1 : Nat) : Int) := by rw [wrap_id (by omega) (by omega)]; omega
  have hmin : (if ((s.length + 1 : Nat) : Int) < ((s.count 10 + 1 : Nat) : Int) then ((s.length + 1 : Nat) : Int) else ((s.count 10 + 1 : Nat) : Int)) = ((s.count 10 + 1 : Nat) : Int) := by
    rw [if_neg (by omega)]
  simp only [z0, z1, cond_true, cond_false, w1, w2, hmin]
  have hm : mkB ((s.count 10 + 1 : Nat) : Int) ((s.count 10 + 1 : Nat) : Int) 24 = true := by
    simp only [mkB, Bool.and_eq_true, decide_eq_true_eq]; omega
  have w3 : IntKind.i64.wrap (((s.count 10 + 1 : Nat) : Int) - 1) = ((0 + s.count 10 : Nat) : Int) := by rw [wrap_id (by omega) (by omega)]; omega
  rw [hm, cond_true, w3]
  have := genSplit_loop k K k s 0 (s.count 10) (zeros (Kd.int IntKind.u8).sl ((s.count 10 + 1 : Nat) : Int)) rfl (by simp [zeros]) (by omega) (by omega)
  exact this
end Go.Proofs.YtpfbdepoammjmaaDoor.Pvm

namespace Go.Proofs.YtpfbdepoammjmaaDoor.Pvm
open Go
def bad (c : UInt8) : Bool := oddP c.toNat
theorem oddP_high {n : Nat} (h : 128 ≤ n) : oddP n = false := by
  have h1 : decide ((n : Int) ≥ 0) = true := dec_t (by omega)
  have h2 : decide ((n : Int) < 32) = false := dec_f (by omega)
  have h3 : ((n : Int) == 127) = false := ieq_f (by omega)
  rw [oddP, h1, h2, h3]; rfl
theorem decode_low (s : ByteArray) (i : Nat) (h : (s.get! i).toNat < 128) : Utf8.decode s i = ((s.get! i).toNat, 1) := by
  unfold Utf8.decode
  simp only [Nat.add_zero]
  rw [if_pos (by omega)]
theorem decode_high (s : ByteArray) (i : Nat) (h : 128 ≤ (s.get! i).toNat) : 128 ≤ (Utf8.decode s i).1 ∧ ∀ j, i < j → j < i + (Utf8.decode s i).2 → 128 ≤ (s.get! j).toNat := by
  have ct : ∀ k, (decide (i + k < s.size) && ((s.get! (i + k)).toNat / 64 == 2)) = true → 128 ≤ (s.get! (i + k)).toNat := by
    intro k hk
    simp only [Bool.and_eq_true, beq_iff_eq] at hk
    omega
  unfold Utf8.decode
  simp only [Nat.add_zero]
  rw [if_neg (by omega)]
  split
  · next h1 =>
    simp only [Bool.and_eq_true] at h1
    have c1 := ct 1 (by simpa using h1.2)
    split
    · next h2 =>
      refine ⟨h2, fun j j1 j2 => ?_⟩
      obtain rfl : j = i + 1 := by omega
      exact c1
    · exact ⟨by decide, fun j j1 j2 => by omega⟩
  · split
    · next h1 =>
      simp only [Bool.and_eq_true] at h1
      have c1 := ct 1 (by simpa using h1.1.2)
      have c2 := ct 2 (by simpa using h1.2)
      split
      · next h2 =>
        simp only [Bool.and_eq_true, decide_eq_true_eq] at h2
        refine ⟨by omega, fun j j1 j2 => ?_⟩
        rcases (show j = i + 1 ∨ j = i + 2 by omega) with rfl | rfl
        · exact c1
        · exact c2
      · exact ⟨by decide, fun j j1 j2 => by omega⟩
    · split
      · next h1 =>
        simp only [Bool.and_eq_true] at h1
        have c1 := ct 1 (by simpa using h1.1.1.2)
        have c2 := ct 2 (by simpa using h1.1.2)
        have c3 := ct 3 (by simpa using h1.2)
        split
        · next h2 =>
          simp only [Bool.and_eq_true, decide_eq_true_eq] at h2
          refine ⟨by omega, fun j j1 j2 => ?_⟩
          rcases (show j = i + 1 ∨ j = i + 2 ∨ j = i + 3 by omega) with rfl | rfl | rfl
          · exact c1
          · exact c2
          · exact c3
        · exact ⟨by decide, fun j j1 j2 => by omega⟩
      · exact ⟨by decide, fun j j1 j2 => by omega⟩
theorem any_skip (l : List UInt8) (p : UInt8 → Bool) : ∀ (w pos : Nat), (∀ j, pos ≤ j → j < pos + w → j < l.length → p (l.getD j 0) = false) → (l.drop pos).any p = (l.drop (pos + w)).any p
  | 0, pos, h => rfl
  | w + 1, pos, h => by
    rw [show pos + (w + 1) = (pos + 1) + w by omega, ← any_skip l p w (pos + 1) fun j h1 h2 h3 => h j (by omega) (by omega) h3]
    by_cases hl : pos < l.length
    · rw [List.drop_eq_getElem_cons hl, List.any_cons]
      have := h pos (Nat.le_refl _) (by omega) hl
      simp only [List.getD, List.getElem?_eq_getElem hl, Option.getD_some] at this
      rw [this, Bool.false_or]
    · rw [List.drop_eq_nil_of_le (by omega), List.drop_eq_nil_of_le (by omega)]
theorem get_of (l : List UInt8) (i : Nat) (h : i < l.length) : (⟨l.toArray⟩ : ByteArray).get! i = l.getD i 0 := by
  show (l.toArray)[i]! = _
  rw [getElem!_pos l.toArray i (by simpa using h)]
  simp [List.getD, h]
theorem odd_from (l : List UInt8) : ∀ (f pos : Nat), l.length ≤ pos + f → decide (Lib.idxFuncFrom oddP true ⟨l.toArray⟩ f pos ≥ 0) = (l.drop pos).any bad
  | 0, pos, h => by
    rw [List.drop_eq_nil_of_le (by omega)]
    rfl
  | f + 1, pos, h => by
    rw [Lib.idxFuncFrom]
    have hsz : (⟨l.toArray⟩ : ByteArray).size = l.length := rfl
    rw [hsz]
    by_cases hl : pos < l.length
    · rw [if_pos hl]
      have hg := get_of l pos hl
      by_cases hb : (l.getD pos 0).toNat < 128
      · rw [decode_low _ _ (by rw [hg]; exact hb), hg]
        have hd : l.drop pos = l.getD pos 0 :: l.drop (pos + 1) := by
          rw [List.drop_eq_getElem_cons hl]; simp [List.getD, hl]
        rw [hd, List.any_cons]
        cases ho : oddP (l.getD pos 0).toNat with
        | true =>
          have : bad (l.getD pos 0) = true := ho
          rw [this, if_pos rfl]
          simp
        | false =>
          have : bad (l.getD pos 0) = false := ho
          rw [this, if_neg (by simp), odd_from l f (pos + 1) (by omega), Bool.false_or]
      · obtain ⟨r1, r2⟩ := decode_high ⟨l.toArray⟩ pos (by rw [hg]; omega)
        rw [oddP_high r1, if_neg (by simp), odd_from l f _ (by have := Lib.width_pos ⟨l.toArray⟩ pos; omega)]
        symm
        refine any_skip l bad _ pos fun j j1 j2 j3 => ?_
        by_cases hj : j = pos
        · subst hj; exact oddP_high (by omega)
        · have := r2 j (by omega) j2
          rw [get_of l j j3] at this
          exact oddP_high this
    · rw [if_neg hl, List.drop_eq_nil_of_le (by omega)]
      rfl
theorem idxOdd_any (l : List UInt8) : decide (idxOdd l ≥ 0) = l.any bad := odd_from l l.length 0 (by omega)
end Go.Proofs.YtpfbdepoammjmaaDoor.Pvm

namespace Go.Proofs.YtpfbdepoammjmaaDoor.Pvm
open Go
def qS (c : UInt8) : List UInt8 → Nat → Option Nat
  | [], _ => none
  | [x], i => bif c == 34 && x == 92 then none else bif !(x == c) then none else some i
  | x :: y :: r, i => bif c == 34 && x == 92 then qS c r (i + 2) else bif !(x == c) then qS c (y :: r) (i + 1) else bif c == 39 && y == c then qS c r (i + 2) else some i
def qK {R : Type} (K : Int → Bool → Option R) (d : Int) : Option Nat → Option R
  | some j => K (j + d) true
  | none => K 0 false
theorem beq34 (c : UInt8) : ((c.toNat : Int) == 34) = (c == 34) := u8_beq c 34 (by omega)
theorem beq39 (c : UInt8) : ((c.toNat : Int) == 39) = (c == 39) := u8_beq c 39 (by omega)
theorem beq92 (c : UInt8) : ((c.toNat : Int) == 92) = (c == 92) := u8_beq c 92 (by omega)
theorem beq35 (c : UInt8) : ((c.toNat : Int) == 35) = (c == 35) := u8_beq c 35 (by omega)
theorem beq32 (c : UInt8) : ((c.toNat : Int) == 32) = (c == 32) := u8_beq c 32 (by omega)
theorem bne32 (c : UInt8) : ((c.toNat : Int) != 32) = !(c == 32) := u8_bne c 32 (by omega)
theorem qS_bound (c : UInt8) : ∀ (r : List UInt8) (i j : Nat), qS c r i = some j → i ≤ j ∧ j < i + r.length
  | [], i, j, h => by cases h
  | [x], i, j, h => by
    unfold qS at h
    cases h1 : (c == 34 && x == 92) <;> rw [h1] at h <;> simp only [cond_true, cond_false] at h
    · cases h2 : (x == c) <;> rw [h2] at h <;> simp at h
      simp; omega
    · cases h
  | x :: y :: r, i, j, h => by
    unfold qS at h
    cases h1 : (c == 34 && x == 92) <;> rw [h1] at h <;> simp only [cond_true, cond_false] at h
    · cases h2 : (x == c) <;> rw [h2] at h <;> simp only [Bool.not_true, Bool.not_false, cond_true, cond_false] at h
      · have := qS_bound c (y :: r) _ _ h
        simp at this ⊢; omega
      · cases h3 : (c == 39 && y == c) <;> rw [h3] at h <;> simp only [cond_true, cond_false] at h
        · cases h; simp
        · have := qS_bound c r _ _ h
          simp at this ⊢; omega
    · have := qS_bound c r _ _ h
      simp at this ⊢; omega
theorem line_quoted_loop (k : Nat) {R : Type} (s : List UInt8) (c : UInt8) (hs : s.length ≤ 1000000) (K : Int → Bool → Option R) : ∀ (n : Nat) (r : List UInt8) (i : Nat), s.drop i = r → i ≤ s.length + 1 → r.length < n →
    L_line_quoted_1003 k n s (c.toNat : Int) (i : Int) K = qK K 0 (qS c r i) := by
  intro n
  induction n with
  | zero => intro r i _ _ h; omega
  | succ n ih =>
    intro r i hr hi hn
    rw [L_line_quoted_1003]
    unfold B_line_quoted_1003
    match r, hr, hn with
    | [], hr, hn =>
      have := drop_nil hr
      simp (disch := omega) only [dec_t, dec_f, ieq_t, ieq_f, ine_t, ine_f, inb_t, bnd_t, wrap_id, wrap8_id, cond_true, cond_false, Bool.not_true, Bool.not_false, Bool.true_or, Bool.or_true, Bool.false_or, Bool.or_false, Bool.true_and, Bool.and_true, Bool.false_and, Bool.and_false, bool_eq_true', bool_eq_false', toNat_cast', qS, qK]
    | [x], hr, hn =>
      obtain ⟨h1, h2, h3⟩ := drop_cons' hr
      have h4 := drop_nil h3
      simp (disch := omega) only [dec_t, dec_f, ieq_t, ieq_f, ine_t, ine_f, inb_t, bnd_t, wrap_id, wrap8_id, cond_true, cond_false, Bool.not_true, Bool.not_false, Bool.true_or, Bool.or_true, Bool.false_or, Bool.or_false, Bool.true_and, Bool.and_true, Bool.false_and, Bool.and_false, bool_eq_true', bool_eq_false', toNat_cast', h2, beq34, beq92, beq39, u8_other]
      have e1 := ih [] (i + 1) h3 (by omega) (by simp at hn ⊢; omega)
      have e2 := ih [] (i + 2) (by rw [List.drop_eq_nil_of_le (by omega)]) (by omega) (by simp at hn ⊢; omega)
      have c1 : ((i : Int) + 1) = ((i + 1 : Nat) : Int) := by omega
      have c2 : ((i : Int) + 1 + 1) = ((i + 2 : Nat) : Int) := by omega
      rw [c2, c1, e1, e2]
      unfold qS
      have h5 : decide (((i + 1 : Nat) : Int) < (s.length : Int)) = false := dec_f (by omega)
      cases h6 : (c == 34) <;> cases h7 : (x == 92) <;> cases h8 : (x == c) <;> cases h9 : (c == 39) <;> simp [h5, qS, qK]
    | x :: y :: r, hr, hn =>
      obtain ⟨h1, h2, h3⟩ := drop_cons' hr
      obtain ⟨g1, g2, g3⟩ := drop_cons' h3
      simp (disch := omega) only [dec_t, dec_f, ieq_t, ieq_f, ine_t, ine_f, inb_t, bnd_t, wrap_id, wrap8_id, cond_true, cond_false, Bool.not_true, Bool.not_false, Bool.true_or, Bool.or_true, Bool.false_or, Bool.or_false, Bool.true_and, Bool.and_true, Bool.false_and, Bool.and_false, bool_eq_true', bool_eq_false', toNat_cast', h2, beq34, beq92, beq39, u8_other]
      have e1 := ih (y :: r) (i + 1) h3 (by omega) (by simp at hn ⊢; omega)
      have e2 := ih r (i + 2) g3 (by omega) (by simp at hn ⊢; omega)
      have c1 : ((i : Int) + 1) = ((i + 1 : Nat) : Int) := by omega
      have c2 : ((i : Int) + 1 + 1) = ((i + 2 : Nat) : Int) := by omega
      rw [c2, c1, e1, e2, toNat_cast', g2, u8_same]
      rw [qS]
      cases h6 : (c == 34) <;> cases h7 : (x == 92) <;> cases h8 : (x == c) <;> cases h9 : (c == 39) <;> cases h10 : (y == c) <;> simp [qK]
def qAt (s : List UInt8) (i : Nat) : Option Nat := qS (s.getD i 0) (s.drop (i + 1)) (i + 1)
theorem line_quoted_eq (k : Nat) {R : Type} (s : List UInt8) (i : Nat) (hs : s.length ≤ 1000000) (hi : i < s.length) (hk : s.length < k) (K : Int → Bool → Option R) : F_line_quoted k s i K = qK K 0 (qAt s i) := by
  unfold F_line_quoted A_line_quoted
  simp (disch := omega) only [dec_t, dec_f, ieq_t, ieq_f, ine_t, ine_f, inb_t, bnd_t, wrap_id, wrap8_id, cond_true, cond_false, Bool.not_true, Bool.not_false, Bool.true_or, Bool.or_true, Bool.false_or, Bool.or_false, Bool.true_and, Bool.and_true, Bool.false_and, Bool.and_false, bool_eq_true', bool_eq_false', toNat_cast']
  rw [cast_succ, line_quoted_loop k s _ hs K k _ (i + 1) rfl (by omega) (by rw [List.length_drop]; omega)]
  rfl
theorem qAt_bound {s : List UInt8} {i j : Nat} (h : qAt s i = some j) : i < j ∧ j < s.length := by
  have := qS_bound _ _ _ _ h
  rw [List.length_drop] at this
  omega
end Go.Proofs.YtpfbdepoammjmaaDoor.Pvm

namespace Go.Proofs.YtpfbdepoammjmaaDoor.Pvm
open Go
def rt (l : List UInt8) : List UInt8 := (l.reverse.dropWhile (· == 32)).reverse
theorem rt_nil : rt [] = [] := rfl
theorem rt_cat (l : List UInt8) (x : UInt8) : rt (l ++ [x]) = bif x == 32 then rt l else l ++ [x] := by
  unfold rt
  rw [List.reverse_append, List.reverse_singleton, List.singleton_append, List.dropWhile_cons]
  cases x == 32 <;> simp
theorem getD_last (l : List UInt8) (x d : UInt8) : (l ++ [x]).getD l.length d = x := by simp [List.getD]
theorem trimR_loop (k : Nat) {R : Type} (K : List UInt8 → Option R) : ∀ (n : Nat) (l : List UInt8), l.length ≤ 1000000 → l.length < n → L_strings_trimRightByte_1001 k n l 32 K = K (rt l) := by
  intro n
  induction n with
  | zero => intro l _ h; omega
  | succ n ih =>
    intro l hl hn
    rw [L_strings_trimRightByte_1001]
    unfold B_strings_trimRightByte_1001
    rcases List.eq_nil_or_concat l with rfl | ⟨l', x, rfl⟩
    · simp [rt_nil]
    · rw [List.concat_eq_append] at *
      have hlen : (l' ++ [x]).length = l'.length + 1 := by simp
      rw [hlen] at hl hn
      simp (disch := omega) only [dec_t, dec_f, ieq_t, ieq_f, ine_t, ine_f, inb_t, bnd_t, wrap_id, wrap8_id, cond_true, cond_false, Bool.not_true, Bool.not_false, Bool.true_or, Bool.or_true, Bool.false_or, Bool.or_false, Bool.true_and, Bool.and_true, Bool.false_and, Bool.and_false, bool_eq_true', bool_eq_false', toNat_cast', hlen]
      have e1 : (((l'.length + 1 : Nat) : Int) - 1) = (l'.length : Int) := by omega
      simp (disch := omega) only [dec_t, dec_f, ieq_t, ieq_f, ine_t, ine_f, inb_t, bnd_t, wrap_id, wrap8_id, cond_true, cond_false, Bool.not_true, Bool.not_false, Bool.true_or, Bool.or_true, Bool.false_or, Bool.or_false, Bool.true_and, Bool.and_true, Bool.false_and, Bool.and_false, bool_eq_true', bool_eq_false', toNat_cast', e1, getD_last, beq32]
      rw [cut_start, List.take_left' rfl, ih l' (by omega) (by omega), rt_cat]
      cases x == 32 <;> rfl
theorem trimR_eq (k : Nat) {R : Type} (l : List UInt8) (hl : l.length ≤ 1000000) (hk : l.length < k) (K : List UInt8 → Option R) : F_strings_TrimRight k l 32 K = K (rt l) := by
  unfold F_strings_TrimRight A_strings_TrimRight F_strings_trimRightByte A_strings_trimRightByte
  cases l with
  | nil => rfl
  | cons x r =>
    have e2 : (((([32] : List UInt8).getD (Int.toNat 0) 0).toNat : Nat) : Int) = 32 := rfl
    simp only [e2, show ((x :: r) == ([] : List UInt8)) = false from rfl, show (([32] : List UInt8) == []) = false from rfl, show ((([32] : List UInt8).length : Int) == 1) = true from rfl, show decide ((32 : Int) < 128) = true from rfl, cond_false, cond_true]
    exact trimR_loop k K k _ hl hk
def fresh (s : List UInt8) (i : Nat) : Bool := i == 0 || s.getD (i - 1) 0 == 32
def stS (s : List UInt8) : Nat → Nat → Option Nat
  | 0, _ => some s.length
  | n + 1, i => bif Nat.ble s.length i then some s.length else
    bif !fresh s i then stS s n (i + 1) else
    bif s.getD i 0 == 35 then some i else
    bif s.getD i 0 == 39 || s.getD i 0 == 34 then (match qAt s i with
      | some j => stS s n (j + 1)
      | none => none) else stS s n (i + 1)
def stK {R : Type} (s : List UInt8) (K : List UInt8 → Bool → Option R) : Option Nat → Option R
  | some e => K (rt (s.take e)) true
  | none => K [] false
theorem ble_f {a b : Nat} (h : b < a) : Nat.ble a b = false := by
  cases hb : Nat.ble a b with
  | false => rfl
  | true => have := Nat.le_of_ble_eq_true hb; omega
theorem ble_t {a b : Nat} (h : a ≤ b) : Nat.ble a b = true := Nat.ble_eq_true_of_le h
theorem line_Strip_loop (k : Nat) {R : Type} (s : List UInt8) (hs : s.length ≤ 1000000) (hk : s.length < k) (K : List UInt8 → Bool → Option R) : ∀ (n i : Nat), i ≤ s.length → s.length < i + n →
    L_line_Strip_1003 k n s (s.length : Int) (i : Int) K = stK s K (stS s n i) := by
  intro n
  induction n with
  | zero => intro i _ h; omega
  | succ n ih =>
    intro i hi hn
    rw [L_line_Strip_1003]
    unfold B_line_Strip_1003
    by_cases h : i < s.length
    · have hb := ble_f h
      rw [stS, hb, cond_false]
      have st1 := ih (i + 1) (by omega) (by omega)
      have c1 : ((i : Int) + 1) = ((i + 1 : Nat) : Int) := by omega
      have hg : bnd 0 (i : Int) (s.length : Int) = true := bnd_t (by omega) (by omega) (by omega)
      have hcut : (cut s 0 (i : Int)).length ≤ 1000000 ∧ (cut s 0 (i : Int)).length < k := by rw [cut_start, List.length_take]; omega
      have tail : (bif (s.getD i 0 : UInt8) == 35 then K (rt (s.take i)) true else bif (s.getD i 0 : UInt8) == 39 then qK (fun y7 y8 => bif !y8 then K [] false else L_line_Strip_1003 k n s (s.length : Int) (IntKind.i64.wrap (y7 + 1)) K) 0 (qAt s i) else bif (s.getD i 0 : UInt8) == 34 then qK (fun y7 y8 => bif !y8 then K [] false else L_line_Strip_1003 k n s (s.length : Int) (IntKind.i64.wrap (y7 + 1)) K) 0 (qAt s i) else L_line_Strip_1003 k n s (s.length : Int) ((i + 1 : Nat) : Int) K) =
          stK s K (bif s.getD i 0 == 35 then some i else bif s.getD i 0 == 39 || s.getD i 0 == 34 then (match qAt s i with | some j => stS s n (j + 1) | none => none) else stS s n (i + 1)) := by
        have hq : qK (fun y7 y8 => bif !y8 then K [] false else L_line_Strip_1003 k n s (s.length : Int) (IntKind.i64.wrap (y7 + 1)) K) 0 (qAt s i) = stK s K (match qAt s i with | some j => stS s n (j + 1) | none => none) := by
          cases hqa : qAt s i with
          | none => rfl
          | some j =>
            have hj := qAt_bound hqa
            simp only [qK, Bool.not_true, cond_false]
            have e : IntKind.i64.wrap ((j : Int) + 0 + 1) = ((j + 1 : Nat) : Int) := by rw [wrap_id (by omega) (by omega)]; omega
            rw [e, ih (j + 1) (by omega) (by omega)]
        rw [hq, st1]
        cases (s.getD i 0 == 35) <;> cases (s.getD i 0 == 39) <;> cases (s.getD i 0 == 34) <;> rfl
      by_cases h0 : i = 0
      · subst h0
        have hf : fresh s 0 = true := rfl
        rw [hf]
        simp (disch := omega) only [dec_t, dec_f, ieq_t, ieq_f, ine_t, ine_f, inb_t, bnd_t, wrap_id, wrap8_id, cond_true, cond_false, Bool.not_true, Bool.not_false, Bool.true_or, Bool.or_true, Bool.false_or, Bool.or_false, Bool.true_and, Bool.and_true, Bool.false_and, Bool.and_false, bool_eq_true', bool_eq_false', toNat_cast', beq35, beq39, beq34]
        rw [trimR_eq k _ hcut.1 hcut.2, cut_start, line_quoted_eq k s 0 hs h hk]
        rw [← tail]
        rfl
      · have e0 : ((i : Int) - 1) = ((i - 1 : Nat) : Int) := by omega
        have hf : fresh s i = (s.getD (i - 1) 0 == 32) := by
          have : (i == 0) = false := by simpa using h0
          simp [fresh, this]
        rw [hf]
        simp (disch := omega) only [dec_t, dec_f, ieq_t, ieq_f, ine_t, ine_f, inb_t, bnd_t, wrap_id, wrap8_id, cond_true, cond_false, Bool.not_true, Bool.not_false, Bool.true_or, Bool.or_true, Bool.false_or, Bool.or_false, Bool.true_and, Bool.and_true, Bool.false_and, Bool.and_false, bool_eq_true', bool_eq_false', toNat_cast', e0, beq35, beq39, beq34, bne32]
        rw [trimR_eq k _ hcut.1 hcut.2, cut_start, line_quoted_eq k s i hs h hk, c1]
        cases hx : (s.getD (i - 1) 0 == 32) with
        | false => rw [Bool.not_false, cond_true, cond_true]; exact st1
        | true =>
          rw [Bool.not_true, cond_false, cond_false, ← tail]
    · have hi' : i = s.length := by omega
      subst hi'
      have hcut : (cut s 0 (s.length : Int)).length ≤ 1000000 ∧ (cut s 0 (s.length : Int)).length < k := by rw [cut_start, List.length_take]; omega
      rw [stS, ble_t (Nat.le_refl _), cond_true]
      simp (disch := omega) only [dec_t, dec_f, ieq_t, ieq_f, ine_t, ine_f, inb_t, bnd_t, wrap_id, wrap8_id, cond_true, cond_false, Bool.not_true, Bool.not_false, Bool.true_or, Bool.or_true, Bool.false_or, Bool.or_false, Bool.true_and, Bool.and_true, Bool.false_and, Bool.and_false, bool_eq_true', bool_eq_false', toNat_cast']
      rw [trimR_eq k _ hcut.1 hcut.2, cut_start]
      rfl
theorem line_Strip_eq (k : Nat) {R : Type} (s : List UInt8) (hs : s.length ≤ 1000000) (hk : s.length < k) (K : List UInt8 → Bool → Option R) : F_line_Strip k s K = stK s K (stS s k 0) := by
  unfold F_line_Strip A_line_Strip
  exact line_Strip_loop k s hs hk K k 0 (by omega) (by omega)
end Go.Proofs.YtpfbdepoammjmaaDoor.Pvm

namespace Go.Proofs.YtpfbdepoammjmaaDoor.Pvm
open Go
theorem take_succ_get {s : List UInt8} {e : Nat} (h : e < s.length) : s.take (e + 1) = s.take e ++ [s.getD e 0] := by
  rw [List.take_add_one, List.getElem?_eq_getElem h]
  simp [List.getD, h]
end Go.Proofs.YtpfbdepoammjmaaDoor.Pvm

namespace Go.Proofs.YtpfbdepoammjmaaDoor.Pvm
open Go
def lt32 (l : List UInt8) : List UInt8 := l.dropWhile (· == 32)
theorem lt32_len (l : List UInt8) : (lt32 l).length ≤ l.length := (List.dropWhile_suffix _).length_le
theorem trimL_loop (k : Nat) {R : Type} (K : List UInt8 → Option R) : ∀ (n : Nat) (l : List UInt8), l.length < n → L_strings_trimLeftByte_1001 k n l 32 K = K (lt32 l) := by
  intro n
  induction n with
  | zero => intro l h; omega
  | succ n ih =>
    intro l hn
    rw [L_strings_trimLeftByte_1001]
    unfold B_strings_trimLeftByte_1001
    cases l with
    | nil => rfl
    | cons x r =>
      have h1 : decide (((x :: r).length : Int) > 0) = true := dec_t (by simp <;> omega)
      have h2 : inb 0 ((x :: r).length : Int) = true := inb_t (by omega) (by simp <;> omega)
      have h3 : bnd 1 ((x :: r).length : Int) ((x :: r).length : Int) = true := bnd_t (by omega) (by simp <;> omega) (by omega)
      have h4 : (x :: r).getD (Int.toNat 0) 0 = x := rfl
      have h5 : cut (x :: r) 1 ((x :: r).length : Int) = r := by simp [cut]
      simp only [h1, h2, h3, h4, h5, beq32, Bool.or_true, cond_true]
      rw [ih r (by simp at hn; omega), lt32, lt32, List.dropWhile_cons]
      cases x == 32 <;> rfl
theorem trimL_eq (k : Nat) {R : Type} (l : List UInt8) (hk : l.length < k) (K : List UInt8 → Option R) : F_strings_TrimLeft k l 32 K = K (lt32 l) := by
  unfold F_strings_TrimLeft A_strings_TrimLeft F_strings_trimLeftByte A_strings_trimLeftByte
  cases l with
  | nil => rfl
  | cons x r =>
    have e2 : (((([32] : List UInt8).getD (Int.toNat 0) 0).toNat : Nat) : Int) = 32 := rfl
    simp only [e2, show ((x :: r) == ([] : List UInt8)) = false from rfl, show (([32] : List UInt8) == []) = false from rfl, show ((([32] : List UInt8).length : Int) == 1) = true from rfl, show decide ((32 : Int) < 128) = true from rfl, cond_false, cond_true]
    exact trimL_loop k K k _ hk
abbrev Row := Int × (Int × List UInt8)
def rowL (k : Nat) (no : Nat) (p : List UInt8) (e : Nat) : List Row :=
  bif rt ((lt32 p).take e) == [] then [] else [((no : Int), (((p.length : Int) - ((lt32 p).length : Int)), rt ((lt32 p).take e)))]
def linesS (k : Nat) : List (List UInt8) → Nat → List Row → List Row × Int × Int
  | [], no, acc => (acc, 0, 0)
  | p :: ps, no, acc => bif p.any bad then ([], 2, (no : Int)) else match stS (lt32 p) k 0 with
    | none => ([], 3, (no : Int))
    | some e => linesS k ps (no + 1) (acc ++ rowL k no p e)
theorem rowL_len (k no : Nat) (p : List UInt8) (e : Nat) : (rowL k no p e).length ≤ 1 := by
  unfold rowL
  cases rt ((lt32 p).take e) == [] <;> simp
theorem line_Lines_loop (k : Nat) {R : Type} (K : List Row → Int → Int → Option R) (a0 a1 : Int) (ps : List (List UInt8)) (hp : ∀ p ∈ ps, p.length ≤ 20000 ∧ p.length < k) (hps : ps.length ≤ 20000) :
    ∀ (n : Nat) (r : List (List UInt8)) (i : Nat) (acc : List Row), ps.drop i = r → i ≤ ps.length → r.length < n → acc.length ≤ i →
    L_line_Lines_1005 k n a0 a1 acc (ps.map toBytes) (ps.length : Int) (i : Int) K = (linesS k r (i + 1) acc |> fun z => K z.1 z.2.1 z.2.2) := by
  intro n
  induction n with
  | zero => intro r i acc _ _ h; omega
  | succ n ih =>
    intro r i acc hr hi hn ha
    rw [L_line_Lines_1005]
    unfold B_line_Lines_1005
    cases r with
    | nil =>
      have := drop_nil hr
      simp (disch := omega) only [dec_t, dec_f, ieq_t, ieq_f, ine_t, ine_f, inb_t, bnd_t, wrap_id, wrap8_id, cond_true, cond_false, Bool.not_true, Bool.not_false, Bool.true_or, Bool.or_true, Bool.false_or, Bool.or_false, Bool.true_and, Bool.and_true, Bool.false_and, Bool.and_false, bool_eq_true', bool_eq_false', toNat_cast']
      rfl
    | cons p r =>
      obtain ⟨h1, h2, h3⟩ := drop_cons' hr
      have hml : ((ps.map toBytes).length : Int) = (ps.length : Int) := by simp
      have hg : (ps.map toBytes).getD i (Kd.int IntKind.u8).sl.zero = toBytes p := by
        have := h2 []
        simp only [List.getD, List.getElem?_map] at this ⊢
        have hx : ps[i]? = some p := by
          rw [List.getElem?_eq_getElem h1] at this ⊢
          simpa using this
        rw [hx]; rfl
      have hmem : p ∈ ps := by
        have : p ∈ ps.drop i := by rw [hr]; exact List.mem_cons_self
        exact List.mem_of_mem_drop this
      obtain ⟨hp1, hp2⟩ := hp p hmem
      have hl := lt32_len p
      simp (disch := omega) only [dec_t, dec_f, ieq_t, ieq_f, ine_t, ine_f, inb_t, bnd_t, wrap_id, wrap8_id, cond_true, cond_false, Bool.not_true, Bool.not_false, Bool.true_or, Bool.or_true, Bool.false_or, Bool.or_false, Bool.true_and, Bool.and_true, Bool.false_and, Bool.and_false, bool_eq_true', bool_eq_false', toNat_cast', hml, hg, ofBytes_toBytes]
      have hI : ∀ K' : Int → Option R, F_strings_IndexFunc k p K' = K' (idxOdd p) := fun _ => rfl
      rw [hI, idxOdd_any, trimL_eq k p hp2, line_Strip_eq k _ (by omega) (by omega)]
      rw [linesS]
      have c1 : ((i : Int) + 1) = ((i + 1 : Nat) : Int) := by omega
      cases hb : p.any bad with
      | true => simp only [cond_true, c1]
      | false =>
        simp only [cond_false]
        cases hs : stS (lt32 p) k 0 with
        | none => simp only [stK, Bool.not_false, cond_true, c1]
        | some e =>
          simp only [stK, Bool.not_true, cond_false]
          have w1 : IntKind.i64.wrap ((p.length : Int) - ((lt32 p).length : Int)) = (p.length : Int) - ((lt32 p).length : Int) := wrap_id (by omega) (by omega)
          have hf : ∀ z : Row, fits acc.length [z].length 32 = true := fun z => fits_t (by simp; omega) (by simp; omega)
          rw [w1, hf, cond_true, c1, ih r (i + 1) _ h3 (by omega) (by simp at hn; omega) (by simp; omega), ih r (i + 1) _ h3 (by omega) (by simp at hn; omega) (by omega)]
          unfold rowL
          cases rt ((lt32 p).take e) == [] <;> simp
theorem spl_len : ∀ s : List UInt8, (spl s).length ≤ s.length + 1
  | [] => by simp [spl]
  | x :: r => by
    have := spl_len r
    rw [spl]
    cases x == 10 with
    | true => simp; omega
    | false =>
      cases h : spl r with
      | nil => simp
      | cons p ps => rw [h] at this; simp at this ⊢; omega
theorem spl_mem : ∀ (s : List UInt8) (p : List UInt8), p ∈ spl s → p.length ≤ s.length
  | [], p, h => by simp [spl] at h; simp [h]
  | x :: r, p, h => by
    rw [spl] at h
    cases hx : x == 10 with
    | true =>
      rw [hx, cond_true] at h
      rcases List.mem_cons.1 h with rfl | h
      · simp
      · have := spl_mem r p h; simp; omega
    | false =>
      rw [hx, cond_false] at h
      cases hs : spl r with
      | nil => rw [hs] at h; simp at h; simp [h]
      | cons q qs =>
        rw [hs] at h
        have hq := spl_mem r
        rw [hs] at hq
        rcases List.mem_cons.1 h with rfl | h
        · have := hq q (by simp); simp; omega
        · have := hq p (by simp [h]); simp; omega
theorem line_Lines_eq (k : Nat) {R : Type} (s : List UInt8) (hk : 20000 < k) (K : List Row → Int → Int → Option R) :
    F_line_Lines k (toBytes s) K = bif decide (s.length > 16384) then K [] 1 1 else (linesS k (spl s) 1 [] |> fun z => K z.1 z.2.1 z.2.2) := by
  unfold F_line_Lines A_line_Lines
  rw [toBytes_len]
  by_cases h : s.length > 16384
  · rw [dec_t h]
    have : decide ((s.length : Int) > 16384) = true := dec_t (by omega)
    rw [this]; rfl
  · rw [dec_f h]
    have : decide ((s.length : Int) > 16384) = false := dec_f (by omega)
    have hl := spl_len s
    rw [this, cond_false, cond_false, Split_eq k s (by omega) (by omega)]
    have hml : (((spl s).map toBytes).length : Int) = ((spl s).length : Int) := by simp
    rw [hml]
    exact line_Lines_loop k K 0 0 (spl s) (fun p hp => by have := spl_mem s p hp; omega) (by omega) k _ 0 [] rfl (by omega) (by omega) (by simp)
end Go.Proofs.YtpfbdepoammjmaaDoor.Pvm

namespace Go.Proofs.YtpfbdepoammjmaaDoor.Pvm
open Go
theorem stS_fuel (s : List UInt8) : ∀ (n m i : Nat), s.length < i + n → s.length < i + m → i ≤ s.length → stS s n i = stS s m i
  | 0, _, i, h, _, hi => by omega
  | _ + 1, 0, i, _, h, hi => by omega
  | n + 1, m + 1, i, h1, h2, hi => by
    rw [stS, stS]
    by_cases h : i < s.length
    · rw [ble_f h, cond_false, cond_false, stS_fuel s n m (i + 1) (by omega) (by omega) (by omega)]
      cases hq : qAt s i with
      | none => rfl
      | some j =>
        have := qAt_bound hq
        dsimp only
        rw [stS_fuel s n m (j + 1) (by omega) (by omega) (by omega)]
    · rw [ble_t (by omega)]; rfl
theorem linesS_fuel (k m : Nat) : ∀ (ps : List (List UInt8)) (no : Nat) (acc : List Row), (∀ p ∈ ps, p.length < k ∧ p.length < m) → linesS k ps no acc = linesS m ps no acc
  | [], no, acc, h => rfl
  | p :: ps, no, acc, h => by
    have hp := h p (by simp)
    have hl := lt32_len p
    rw [linesS, linesS, stS_fuel (lt32 p) k m 0 (by omega) (by omega) (by omega)]
    cases p.any bad with
    | true => rfl
    | false =>
      cases stS (lt32 p) m 0 with
      | none => rfl
      | some e => exact linesS_fuel k m ps _ _ fun q hq => h q (by simp [hq])
theorem Strip_at (k : Nat) {R : Type} (s : List UInt8) (hs : s.length < 200) (hk : 20000 < k) (K : List UInt8 → Bool → Option R) : F_line_Strip k s K = stK s K (stS s 200 0) := by
  rw [line_Strip_eq k s (by omega) (by omega), stS_fuel s k 200 0 (by omega) (by omega) (by omega)]
theorem Lines_at (k : Nat) {R : Type} (s : List UInt8) (hs : s.length < 200) (hk : 20000 < k) (K : List Row → Int → Int → Option R) :
    F_line_Lines k (toBytes s) K = (linesS 200 (spl s) 1 [] |> fun z => K z.1 z.2.1 z.2.2) := by
  rw [line_Lines_eq k s hk, dec_f (by omega), cond_false, linesS_fuel k 200 (spl s) 1 [] fun p hp => by have := spl_mem s p hp; omega]
end Go.Proofs.YtpfbdepoammjmaaDoor.Pvm

namespace Go.Proofs.YtpfbdepoammjmaaDoor.Pvm
open Go
theorem beq10 (c : UInt8) : ((c.toNat : Int) != 10) = !(c == 10) := u8_bne c 10 (by omega)
theorem getB (t : List UInt8) (n : Nat) (d : Int) (h : n < t.length) : (toBytes t).getD n d = ((t.getD n 0).toNat : Int) := by
  simp [toBytes, List.getD, h]
theorem bad_at (b : Bool) (c : UInt8) : (bif (bif b then true else decide ((c.toNat : Int) < 32)) then true else (c.toNat : Int) == 127) = (b || bad c) := by
  have h1 : decide ((c.toNat : Int) ≥ 0) = true := dec_t (by omega)
  unfold bad oddP
  rw [h1, cond_true]
  cases b <;> cases decide ((c.toNat : Int) < 32) <;> cases ((c.toNat : Int) == 127) <;> rfl
def finL (k : Nat) {R : Type} (J : List Row → Option R) (K : List Row → Int → Int → Option R) (acc : List Row) (no : Nat) (p : List UInt8) : Option R :=
  match stS (lt32 p) k 0 with
  | none => K [] 3 (no : Int)
  | some e => J (acc ++ rowL k no p e)
theorem linesS_one (k no : Nat) (acc : List Row) (hk : 0 < k) : linesS k [[]] no acc = (acc, 0, 0) := by
  obtain ⟨m, rfl⟩ : ∃ m, k = m + 1 := ⟨k - 1, by omega⟩
  rw [linesS]
  have h1 : stS (lt32 []) (m + 1) 0 = some 0 := rfl
  have h2 : ([] : List UInt8).any bad = false := rfl
  rw [h1, h2]
  show linesS (m + 1) [] (no + 1) (acc ++ []) = _
  rw [linesS, List.append_nil]
end Go.Proofs.YtpfbdepoammjmaaDoor.Pvm

namespace Go.Proofs.YtpfbdepoammjmaaDoor.Pvm
open Go
theorem linesS_len (k : Nat) : ∀ (ps : List (List UInt8)) (no : Nat) (acc : List Row), (linesS k ps no acc).1.length ≤ acc.length + ps.length
  | [], no, acc => by simp [linesS]
  | p :: ps, no, acc => by
    rw [linesS]
    cases p.any bad with
    | true => simp
    | false =>
      cases stS (lt32 p) k 0 with
      | none => simp
      | some e =>
        have := linesS_len k ps (no + 1) (acc ++ rowL k no p e)
        have h2 := rowL_len k no p e
        simp only [cond_false, List.length_append, List.length_cons] at this ⊢
        omega
end Go.Proofs.YtpfbdepoammjmaaDoor.Pvm

namespace Go.Proofs.YtpfbdepoammjmaaDoor.Pvm
open Go
theorem allS_len : ∀ (ls : List Ln) (out : List Pc), (allS ls out).1.length ≤ out.length + total ls
  | [], out => by simp [allS, total]
  | l :: r, out => by
    rw [allS, total]
    have h := rowR_len l.1 l.2.1 l.2.2
    cases (rowR l.1 l.2.1 l.2.2).2.1 != 0 with
    | true => simp
    | false =>
      simp only [cond_false]
      have := allS_len r (out ++ (rowR l.1 l.2.1 l.2.2).1)
      rw [List.length_append] at this
      omega
def sumL (ps : List (List UInt8)) : Nat := (ps.map List.length).sum
theorem spl_sum : ∀ s : List UInt8, sumL (spl s) ≤ s.length
  | [] => by simp [spl, sumL]
  | x :: r => by
    have := spl_sum r
    rw [spl]
    cases x == 10 with
    | true => simp [sumL] at this ⊢; omega
    | false =>
      cases h : spl r with
      | nil => simp [sumL]
      | cons p ps => rw [h] at this; simp [sumL] at this ⊢; omega
theorem rt_len (l : List UInt8) : (rt l).length ≤ l.length := by
  unfold rt
  rw [List.length_reverse]
  have := (List.dropWhile_suffix (p := (· == (32 : UInt8))) (l := l.reverse)).length_le
  simpa using this
theorem total_app : ∀ a b : List Ln, total (a ++ b) = total a + total b
  | [], b => by simp [total]
  | x :: a, b => by rw [List.cons_append, total, total, total_app a b]; omega
theorem linesS_total (k : Nat) : ∀ (ps : List (List UInt8)) (no : Nat) (acc : List Row), total (linesS k ps no acc).1 ≤ total acc + sumL ps
  | [], no, acc => by simp [linesS]
  | p :: ps, no, acc => by
    rw [linesS]
    have hs : sumL (p :: ps) = p.length + sumL ps := by simp [sumL]
    cases p.any bad with
    | true => simp [total]
    | false =>
      cases stS (lt32 p) k 0 with
      | none => simp [total]
      | some e =>
        simp only [cond_false]
        have := linesS_total k ps (no + 1) (acc ++ rowL k no p e)
        rw [total_app] at this
        have h2 : total (rowL k no p e) ≤ p.length := by
          unfold rowL
          cases rt ((lt32 p).take e) == [] with
          | true => simp [total]
          | false =>
            have h3 := rt_len ((lt32 p).take e)
            have h4 := lt32_len p
            rw [List.length_take] at h3
            simp only [cond_false, total]
            omega
        omega
def docS (z : List Row × Int × Int) : RsO :=
  bif z.2.1 != 0 then .inl (z.2.1, z.2.2) else bif (allS z.1 []).2.1 != 0 then .inl ((allS z.1 []).2.1, (allS z.1 []).2.2) else ofS (allS z.1 []).1
theorem doc_Parse_eq (k : Nat) {R : Type} (s : List UInt8) (hs : s.length ≤ 16384) (hk : 200000 < k) (K : List Nd → Int → Int → Option R) : F_doc_Parse k (toBytes s) K = outD K (docS (linesS k (spl s) 1 [])) := by
  unfold F_doc_Parse A_doc_Parse
  have h1 := spl_len s
  have h2 := linesS_len k (spl s) 1 []
  have h3 := linesS_total k (spl s) 1 []
  have h4 := spl_sum s
  have h5 := allS_len (linesS k (spl s) 1 []).1 []
  simp only [List.length_nil, total] at h2 h3 h5
  rw [line_Lines_eq k s (by omega), dec_f (by omega), cond_false, docS]
  dsimp only
  cases hz : (linesS k (spl s) 1 []).2.1 != 0 with
  | true => rfl
  | false =>
    simp only [cond_false]
    rw [lex_All_eq k _ _ (by omega) (by omega) (by omega) (by omega)]
    cases hy : (allS (linesS k (spl s) 1 []).1 []).2.1 != 0 with
    | true => rfl
    | false =>
      simp only [cond_false]
      exact doc_Of_eq k _ (by omega) (by omega) K
theorem doc_Parse_at (k : Nat) {R : Type} (s : List UInt8) (hs : s.length < 200) (hk : 200000 < k) (K : List Nd → Int → Int → Option R) : F_doc_Parse k (toBytes s) K = outD K (docS (linesS 200 (spl s) 1 [])) := by
  rw [doc_Parse_eq k s (by omega) hk, linesS_fuel k 200 (spl s) 1 [] fun p hp => by have := spl_mem s p hp; omega]
theorem awake12_eq (k : Nat) {R : Type} (hk : 200000 < k) (K : Bool → Option R) : F_law12_awake k K = K true := by
  unfold F_law12_awake A_law12_awake
  have e1 : docS (linesS 200 (spl [97, 58, 32, 98]) 1 []) = .inr [(3, 1, [], false, [[97]], [1]), (1, 1, [98], false, [], [])] := by kernel_rfl
  have e2 : docS (linesS 200 (spl [97, 58]) 1 []) = .inl (10, 1) := by kernel_rfl
  have t1 : ([97, 58, 32, 98] : List Int) = toBytes [97, 58, 32, 98] := rfl
  have t2 : ([97, 58] : List Int) = toBytes [97, 58] := rfl
  have h1 := doc_Parse_at k (R := R) [97, 58, 32, 98] (by simp) hk
  have h2 := doc_Parse_at k (R := R) [97, 58] (by simp) hk
  rw [e1] at h1
  rw [e2] at h2
  refine (h1 _).trans ?_
  refine (h2 _).trans ?_
  have h3 := doc_Of_eq k (R := R) [] (by simp) (by simp; omega)
  refine (h3 _).trans ?_
  have e3 : (((0 : Int) == 0 && (0 : Int) == 0) == true) = true := rfl
  simp only [outD, ofS, e3, cond_true]
  rw [Alike_eq k _ _ (by simp) (by intro y hy; simp at hy; rcases hy with rfl | rfl <;> simp) (by omega) (by simp; omega)]
  rfl
end Go.Proofs.YtpfbdepoammjmaaDoor.Pvm

namespace Go.Proofs.YtpfbdepoammjmaaDoor.Pvm
open Go
def rowsF : List (List UInt8 × (Int × Int)) := [([], 10, 1), ([35, 32, 97, 10, 10], 10, 1), ([97, 58, 32, 98, 10, 97, 58, 32, 99], 7, 2), ([97, 58, 10, 98, 58, 32, 99], 10, 1), ([97, 58, 32, 98, 10, 32, 32, 99, 58, 32, 100], 6, 2), ([45, 32, 97, 10, 32, 98], 6, 2), ([45, 32, 97, 10, 45, 98], 6, 2), ([97, 58, 10, 32, 32, 98, 58, 32, 99, 10, 32, 100, 58, 32, 101], 6, 3), ([97, 58, 32, 98, 58, 32, 99], 4, 1), ([97, 58, 32, 45, 32, 98], 4, 1), ([45], 10, 1), ([97, 58, 32, 39, 98], 3, 1), ([97, 58, 32, 34, 98, 92, 113, 34], 3, 1), ([97, 58, 32, 123, 98, 125], 4, 1), ([97, 10, 98], 6, 2), ([97, 58, 32, 98, 10, 45, 32, 99], 6, 2), ([97, 58, 10, 45, 32, 98], 10, 1), ([97, 58, 10, 32, 32, 45, 32, 98, 10, 32, 32, 99, 58, 32, 100], 6, 3), ([9, 97, 58, 32, 98], 2, 1), ([97, 58, 10, 32, 32, 45, 32, 45, 32, 98, 10, 32, 32, 32, 32, 45, 32, 99], 0, 0), ([45, 32, 97, 58, 32, 98, 10, 32, 32, 99, 58, 32, 100, 10, 45, 32, 32, 32, 101], 0, 0), ([97, 58, 10, 32, 98], 0, 0), ([39, 97, 58, 32, 98, 39], 0, 0), ([97, 58, 32, 98, 35, 99], 0, 0)]
def okRow (r : List UInt8 × (Int × Int)) : Bool :=
  decide (r.1.length < 200) && match docS (linesS 200 (spl r.1) 1 []) with
    | .inl e => e.1 == r.2.1 && e.2 == r.2.2 && r.2.1 != 0
    | .inr nd => (0 : Int) == r.2.1 && (0 : Int) == r.2.2 && !(nd == [])
theorem rows_ok : rowsF.all okRow = true := by kernel_rfl
theorem rows_eq (k : Nat) {R : Type} (K : List (List UInt8 × (Int × Int)) → Option R) : F_law12_rows k K = K rowsF := rfl
theorem DocForms_aux (x : Int) : ∃ k, F_law12_DocForms k x (fun b => some b) = some true := by
  obtain ⟨k, hk⟩ : ∃ k : Nat, k = 300000 := ⟨_, rfl⟩
  refine ⟨k, ?_⟩
  unfold F_law12_DocForms A_law12_DocForms
  rw [rows_eq]
  dsimp only
  by_cases h : x < 0 ∨ x ≥ (rowsF.length : Int)
  · have : (bif decide (x < 0) then true else decide (x ≥ (rowsF.length : Int))) = true := by
      rw [Bool.cond_true_left]; simpa using h
    rw [this, cond_true, awake12_eq k (by omega)]
  · have : (bif decide (x < 0) then true else decide (x ≥ (rowsF.length : Int))) = false := by
      rw [Bool.cond_true_left, Bool.or_eq_false_iff, decide_eq_false_iff_not, decide_eq_false_iff_not]
      omega
    obtain ⟨n, rfl⟩ : ∃ n : Nat, x = n := ⟨x.toNat, by omega⟩
    have hn : n < rowsF.length := by omega
    have hi : inb (n : Int) (rowsF.length : Int) = true := inb_t (by omega) (by omega)
    obtain ⟨r, hr⟩ : ∃ r, rowsF[n]? = some r := ⟨_, List.getElem?_eq_getElem hn⟩
    have hg : ∀ z, rowsF.getD n z = r := by intro z; rw [List.getD, hr]; rfl
    have hok := List.all_eq_true.1 rows_ok r (List.mem_of_getElem? hr)
    unfold okRow at hok
    rw [Bool.and_eq_true, decide_eq_true_eq] at hok
    obtain ⟨hlen, hok⟩ := hok
    rw [this, cond_false, hi, cond_true, toNat_cast']
    simp only [hg, hi, Bool.or_true, cond_true]
    rw [doc_Parse_at k r.1 hlen (by omega)]
    revert hok
    cases docS (linesS 200 (spl r.1) 1 []) with
    | inl e =>
      intro hok
      simp only [Bool.and_eq_true, bne_iff_ne, ne_eq] at hok
      obtain ⟨⟨h1, h2⟩, h3⟩ := hok
      have h4 : (r.2.1 == 0) = false := by simpa using h3
      simp only [outD, h1, h2, h4, Bool.and_self, cond_true]
      rw [awake12_eq k (by omega)]
      rfl
    | inr nd =>
      intro hok
      simp only [Bool.and_eq_true, Bool.not_eq_true'] at hok
      obtain ⟨⟨h1, h2⟩, h3⟩ := hok
      have h4 : (r.2.1 == 0) = true := by have := eq_of_beq h1; rw [← this]; rfl
      have h5 : decide ((nd.length : Int) > 0) = true := by
        cases nd with
        | nil => cases h3
        | cons y r => exact dec_t (by simp <;> omega)
      simp only [outD, h1, h2, h4, h5, Bool.and_self, cond_true]
      rw [awake12_eq k (by omega)]
      rfl
theorem DocForms_pure (x : (Kd.int .i64).T) (_ : Wf (.int .i64) x) : ∃ k, F_law12_DocForms k x (fun b => some b) = some true := DocForms_aux x
end Go.Proofs.YtpfbdepoammjmaaDoor.Pvm

namespace Go.Proofs.YtpfbdepoammjmaaDoor.docForms
open Go Go.Proofs Go.ChangeShapes Go.WideShapes Go.ChangeAt Go.RowKit Go.Proofs.YtpfbdepoammjmaaDoor.Pvm
theorem own : ownKnob Tryd.prog.godebug = none := by kernel_rfl
theorem laidOut : laidOutB Tryd.prog = true := by kernel_rfl
set_option maxRecDepth 100000 in
theorem lifted (os : Os) (started : os.Started) (H : Type) (enc : TypeId × Value → H) :
    ReturnsInHanded {} Tryd.checked os 4 .any (fun w args => (Rows.docFormsSpec.pre enc Tryd.prog Tryd.f4 Rows.docFormsRow.domain false w args ∧ laidMetH Tryd.prog Rows.docFormsRow.laid w) ∧ sizedMet enc Tryd.prog Tryd.f4 (OpenSpec.ofChange Rows.docFormsSpec) false w args) (Rows.docFormsSpec.post enc Tryd.prog Tryd.f4 false true false false) := by
  refine returnsInHanded_of_change_and (C := Tryd.checked) (X := fun w _ => laidMetH Tryd.prog Rows.docFormsRow.laid w) (fun _ _ _ hh h => h.of_heap hh) own started (by kernel_rfl) Tryd.func4
    (ChangeSpec.witness_shaped (enc := enc) (C := Tryd.checked) (os := os) (X := fun w _ => laidMetH Tryd.prog Rows.docFormsRow.laid w) false (World.laidAll Tryd.prog os Rows.docFormsRow.laid) #[.int .i64 0] 8 (World.laidAll_os _ _ _)
      (World.shaped_of_ZipB (by kernel_rfl) (by kernel_rfl)) (by kernel_rfl) (by kernel_rfl) (by kernel_rfl)
      (by rw [MakeChecks.laidMetH_plain _ _ _ (by kernel_rfl)]; exact laidMet_laidAll _ (by kernel_rfl) (by kernel_rfl))) ?_
  intro W base args ds gs before hval0 hW hcnd hsz0 hL _
  have hsz : (DataW.weightsEach Tryd.prog (Tryd.f4.params.toList ++ Rows.docFormsSpec.plain.varTypes Tryd.prog) (ds ++ gs)).all (· ≤ reachBytes) = true := hsz0
  have hval : ∀ (j : Nat) t v, Tryd.f4.params[j]? = some t → args[j]? = some v → Value.okWide Tryd.prog W .any base t v := hval0
  have hW' := hW
  obtain ⟨p, q, hA0, hV, rfl, hfz, hnd⟩ := hW
  have hA : DataW.TrodAll enc Tryd.prog W 0 (fun _ => true) true Tryd.f4.params.toList args.toList ds p := hA0
  rw [Tryd.params4] at hA hval hsz
  obtain ⟨v0, vs0, d0, ds0, p0, q0, hargs, rfl, rfl, h0, r0⟩ := trodAll_cons hA
  obtain ⟨rfl, rfl, rfl⟩ := trodAll_nil r0
  obtain rfl : args = #[v0] := by cases args; simp_all
  obtain ⟨rfl, rfl⟩ := trodVars_none hV
  have hws := weights_of (P := Tryd.prog) hsz
  have k0 := h0
  have lt0 : ∀ x ∈ p0, x.block < W.heap.size := by obtain ⟨m, hm⟩ := k0; exact DataW.trod_lt m _ _ _ hm
  obtain ⟨x0, wf0, rv0⟩ := arg_data tyT_ok (n := 9) (K := (.int .i64)) (by kernel_rfl) (by kernel_rfl) (hval 0 3 v0 rfl rfl) h0 (hws 0 3 d0 rfl rfl) (h := mkH []) (G := G0) (fun _ => rfl) (fun _ h => h)
  obtain ⟨k, hk⟩ := DocForms_pure x0 wf0
  have hrun : run_law12_DocForms k [.v (.int .i64) x0] [] lawK = some true := hk
  refine (law_calls (fn := Tryd.f4) (c := Tryd.f4.body.getD .skip) (by kernel_rfl) (by kernel_rfl) (by kernel_rfl) (D_law12_DocForms k hrun) (vals := [v0]) ⟨v0, _, rfl, rv0, rfl⟩).mono fun e W' ⟨he, bel⟩ => ?_
  subst he
  exact ⟨_, rfl, _, _, _, [], _, [], hW', trodAll_mk1 (shut_bool Tryd.underlying4 _), (trodAll_cons_mk (Below.trod laidOut (by kernel_rfl) (of_decide_eq_true (by kernel_rfl)) k0 bel lt0) trodAll_mk0), rfl, bel.frame _, fun h => by cases h⟩
theorem over : Rows.docFormsRow.holds Tryd.pinned (OpenSpec.ofChange Rows.docFormsSpec) :=
  OpenClaim.holds_of_wide 4 Tryd.f4 rfl rfl rfl rfl rfl rfl rfl ⟨rfl, rfl, rfl, rfl, rfl⟩ rfl rfl rfl rfl rfl (by kernel_rfl) Tryd.func4 (by kernel_rfl)
    (of_decide_eq_true (by kernel_rfl)) (by unfold Func.isWrapper; first | (rw [if_pos (by decide +kernel)]; kernel_rfl) | (rw [if_neg (by decide +kernel)]; exact ⟨rfl, rfl⟩))
    (fun os started H enc _ => lifted os started H enc)
theorem tied : Rows.DocFormsCardSaid :=
  Claim7.holds_tied_plain_at .later [] [.data, .pinned] true (true, "e01bf8616d847be485c73ece21dbb6dd4f3cbee608a59a135cfcb8ddf55e8325") true over (fun _ h => by cases h) (by kernel_rfl) (fun _ h => by cases h) docForms_row_tie rfl ⟨rfl, rfl⟩ (by kernel_rfl) rfl
    (fun f fn hf hfn => by
      obtain rfl : f = 4 := Option.some.inj ((show Tryd.prog.funcNamed Rows.docFormsRow.func = some 4 by kernel_rfl).symm.trans hf) |>.symm
      obtain rfl : fn = Tryd.f4 := (Option.some.inj (Tryd.func4.symm.trans hfn)).symm
      exact ⟨by kernel_rfl, fun j t ht => by
        rw [Tryd.params4] at ht
        have hm : t ∈ [3] := by simpa using Array.mem_of_getElem? ht
        have hall : ([3].all fun u => !Tryd.prog.wantsStandIn u) = true := by kernel_rfl
        exact (show Tryd.prog.wantsStandIn t = false by simpa using List.all_eq_true.1 hall t hm)⟩)
    (by kernel_rfl)
#print axioms tied
end Go.Proofs.YtpfbdepoammjmaaDoor.docForms
namespace Go.Proofs.YtpfbdepoammjmaaDoor
theorem docForms_holds : Rows.DocFormsCardSaid := docForms.tied
end Go.Proofs.YtpfbdepoammjmaaDoor
